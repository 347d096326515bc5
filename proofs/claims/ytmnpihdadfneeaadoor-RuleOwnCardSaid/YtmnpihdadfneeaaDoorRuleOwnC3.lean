/- A part of the proof of RuleOwn. -/
import Derived.Test.YtmnpihdadfneeaaDoorRuleOwnC2
set_option linter.unusedVariables false
set_option linter.unusedSimpArgs false
set_option maxRecDepth 100000
namespace Go.CL
open Go Go.RowKit Go.Proofs
theorem Zom (a0:Int) (a1:List Zc) {r:Int} (h:Zif a0 a1=some r):FnOk Tryd.prog 27 [(pInt .i64 a0),(Zj.sl.pd a1)] (pInt .i64 r):=by
 have H0:=h
 unfold Zif at H0
 clear h
 refine Zbv (N:=70) Tryd.func27 rfl rfl (Qe rfl) rfl rfl (fun a g0 hst hb=>?_)
 refine r_s (T:=[⟨[],_,[],[],[4]⟩]) (F:=[.o 0,.o 1]) hst hb Zb
  (Qa rfl c_i<|o_n) (fun a g hst hb=>?_)
 refine wp_seq ?_
 refine r_s (T:=[⟨[.o 1],_,[],[],[7]⟩,⟨[.p 0 0],_,[],[0],[8]⟩,⟨[],_,[],[],[9]⟩]) (F:=[.o 0,.o 1,.p 0 0,.p 1 0,.p 2 0]) hst hb Zb
  (Qm rfl u_0<|o_p rfl (Zch Tryd.underlying23 rfl rfl u_0)<|Qm rfl c_i<|o_n) (fun a g hst hb=>?_)
 obtain ⟨z19,hz1,H0⟩:=Zg H0
 refine Zdj (fun a w=>∃ (g:G),w=g.w ∧ St 70 [] a g ∧ Base g0 g ∧ (.inr ())=z19) ?_ ?_
 ·rintro a w ⟨g,rfl,hst,hb,rfl⟩
  refine Zy ?_
  refine r_s (T:=[⟨[],_,[],[],[4]⟩]) (F:=[.p 0 0]) hst hb Zb
   (Qa rfl c_i<|o_n) (fun a g hst hb=>?_)
  refine wp_ret ?_
  obtain rfl:=Option.some.inj H0
  exact Zz rfl hst hb (Zi (s:=4)) (hst.at 0 rfl)
 ·refine wp_block ?_
  refine wp_loop_ghost (fun n a w=>∃ (x1:Int) (g:G),w=g.w ∧ St 70 [(0,(pInt .i64 a0)),(1,(Zj.sl.pd a1)),(7,(Zj.sl.pd a1)),(8,(pInt .i64 (a1.length:Int))),(9,(pInt .i64 x1))] a g ∧ Base g0 g ∧ Zc4 a0 a1 n x1=some z19) (Int.toNat ((a1.length:Int) - (0:Int)) + 1) ⟨(0:Int),g,rfl,(hst.pick [0,1,2,3,4] rfl),hb,hz1⟩ (fun n a w hI=>?_)
  obtain ⟨x1,g,rfl,hst,hb,H1⟩:=hI
  cases n with
  | zero=>exact absurd H1 (by simp [Zc4])
  | succ n =>
   rw [Zc4] at H1
   refine r_s (T:=[⟨[.o 4,.o 3],_,[],[],[10]⟩]) (F:=[.o 0,.o 1,.o 2,.o 3,.o 4,.p 0 0]) hst hb Zb
    (o_p rfl (Zdp rfl rfl u_0 u_1)<|o_n) (fun a g hst hb=>?_)
   refine wp_seq ?_
   refine wp_cond_split (hst.bool 5 rfl) (fun hc2=>?_) (fun hc2=>?_)
   ·replace H1:=Z2 hc2 H1
    refine wp_skip ?_
    refine Zy ?_
    refine wp_seq ?_
    refine wp_block ?_
    obtain ⟨e3,h4,H1⟩:=Zg H1
    refine r_s (L:=[(0,_),(1,_),(7,_),(8,_),(9,_)]) (T:=[⟨[.o 4],_,[],[],[11]⟩,⟨[.o 2,.o 4],_,[],[],[12]⟩,⟨[.p 1 0],_,[],[1],[13]⟩,⟨[],[(6,(pBox Zj 6 (default:Zc)))],[7],[],[6]⟩,⟨[.p 0 0],_,[],Lr 4,[5]⟩,⟨[.p 2 0,.p 3 0],_,[7],Lr 5,[6]⟩]) (F:=[.o 0,.o 1,.p 4 0,.p 5 0,.o 2,.o 3,.o 4]) (hst.pick [0,1,2,3,4] rfl) hb Zb
     (Qm rfl u_0<|o_p rfl (Zbt Tryd.underlying23 Zel rfl rfl u_0 u_1 h4)<|Ql rfl Zd8 u_0<|o_p rfl (Zby (zs:=[.float .f64 0,.string ByteArray.empty]) (by kernel_rfl) (fun g=>Zgw g) rfl rfl)<|Qa rfl u_0<|o_p rfl (Zda Zd8 rfl rfl u_1 u_0)<|o_n) (fun a g hst hb=>?_)
    refine wp_block ?_
    refine r_s (T:=[⟨[.o 3],_,[],[],[15]⟩,⟨[.p 0 0],_,[],[0],[16]⟩,⟨[.p 1 0],_,[],[0,1],[17]⟩,⟨[.p 2 0],_,[],[0,1,2],[18]⟩,⟨[.p 3 0],_,[],Lr 4,[14]⟩]) (F:=[.o 0,.o 1,.o 2,.o 3,.o 4,.o 5,.o 6,.p 4 0]) hst hb Zb
     (Qf rfl Ze0 u_0<|Ql rfl ty_9 u_0<|o_p rfl (Zgq Tryd.underlying9 rfl rfl u_0)<|o_p rfl (Zc6 rfl rfl u_0 c_i)<|Qa rfl u_0<|o_n) (fun a g hst hb=>?_)
    refine wp_cond_split (hst.bool 7 rfl) (fun hc5=>?_) (fun hc5=>?_)
    ·replace H1:=Z2 hc5 H1
     refine r_s (L:=[]) (T:=[⟨[],_,[],[],[4]⟩]) (F:=[.p 0 0]) (hst.pick [] rfl) hb Zb
      (Qa rfl c_i<|o_n) (fun a g hst hb=>?_)
     refine wp_ret ?_
     refine Zx ?_
     refine Zx ?_
     refine Zp ?_
     refine Zp ?_
     refine Zx ?_
     refine Zp ?_
     refine Zp ?_
     obtain rfl:=Option.some.inj H1
     obtain rfl:=Option.some.inj H0
     exact Zz rfl hst hb (Zi (s:=4)) (hst.at 0 rfl)
    ·replace H1:=Z3 hc5 H1
     obtain ⟨r6,h7,H1⟩:=Zg H1;obtain ⟨r8,h9,H1⟩:=Zg H1
     refine r_s (L:=[(0,_),(1,_),(5,_),(6,_),(7,_),(8,_),(9,_)]) (T:=⟨[.o 0],_,[],[],[20]⟩ :: ⟨[.p 0 0],_,[],[0],[21]⟩ :: ⟨[.p 1 0],_,[],[0,1],[22]⟩ :: ⟨[.p 2 0,.o 3],_,[],[0,1,2],[23]⟩ :: ⟨[.p 2 0,.p 3 0],_,[],Lr 4,[24]⟩ :: ⟨[.p 2 0,.p 4 0],_,[],Lr 5,[25]⟩ :: ⟨[.p 2 0,.p 5 0],_,[],Lr 6,[26]⟩ :: ⟨[.p 2 0,.p 6 0],_,[],Lr 7,[27]⟩ :: ⟨[.p 7 0],_,[],Lr 8,[28]⟩ :: ⟨[.p 8 0,.o 3],_,[],Lr 9,[29]⟩ :: ⟨[.p 8 0,.p 9 0],_,[],Lr 10,[30]⟩ :: ⟨[.p 8 0,.p 10 0],_,[],Lr 11,[31]⟩ :: ⟨[.p 8 0,.p 11 0],_,[],Lr 12,[32]⟩ :: ⟨[.p 8 0,.p 12 0],_,[],Lr 13,[33]⟩ :: ⟨[.p 13 0],_,[],Lr 14,[19]⟩ :: []) (F:=[.o 0,.o 1,.o 2,.o 3,.o 4,.o 5,.o 6,.p 14 0]) (hst.pick [0,1,2,3,4,5,6] rfl) hb Zb
      (Qm rfl u_0<|o_p rfl (Zbq rfl rfl u_0 c_i)<|Qm rfl u_0<|o_g (Qg_t rfl (fun hG=>Zh Zf5 rfl rfl u_0))<|o_g (Qg_t rfl (fun hG=>Zo Zdo rfl rfl (Opd.gd hG u_0)))<|o_g (Qg_t rfl (fun hG=>Zr Zk6 (Zf4 _ _ (Zbx h7 hG)) rfl rfl (.cons (Opd.gd hG u_0) (.cons c_f .nil))))<|o_g (Qg_t rfl (fun hG=>Zhi rfl rfl (Opd.gd hG u_0)))<|o_p rfl (Zbh rfl rfl u_0 (fun hz=>(Opd.gd hz u_1)))<|Qm rfl u_0<|o_g (Qg_f rfl (fun hG=>Zh Zf5 rfl rfl u_0))<|o_g (Qg_f rfl (fun hG=>Zo Zdo rfl rfl (Opd.gd hG u_0)))<|o_g (Qg_f rfl (fun hG=>Zr Zq4 (Zij _ (Zbx h9 hG)) rfl rfl (.cons (Opd.gd hG u_0) .nil)))<|o_g (Qg_f rfl (fun hG=>Zhi rfl rfl (Opd.gd hG u_0)))<|o_p rfl (Zb3 rfl rfl u_0 (fun hz=>(Opd.gd (bNF hz) u_1)))<|Qa rfl u_0<|o_n) (fun a g hst hb=>?_)
     refine wp_cond_split (hst.bool 7 rfl) (fun hc10=>?_) (fun hc10=>?_)
     ·replace H1:=Z2 hc10 H1
      refine r_s (L:=[]) (T:=[⟨[],_,[],[],[4]⟩]) (F:=[.p 0 0]) (hst.pick [] rfl) hb Zb
       (Qa rfl c_i<|o_n) (fun a g hst hb=>?_)
      refine wp_ret ?_
      refine Zx ?_
      refine Zx ?_
      refine Zp ?_
      refine Zp ?_
      refine Zx ?_
      refine Zp ?_
      refine Zp ?_
      obtain rfl:=Option.some.inj H1
      obtain rfl:=Option.some.inj H0
      exact Zz rfl hst hb (Zi (s:=4)) (hst.at 0 rfl)
     ·replace H1:=Z3 hc10 H1
      obtain ⟨e11,h12,H1⟩:=Zg H1
      refine r_s (L:=[(0,_),(1,_),(5,_),(6,_),(7,_),(8,_),(9,_)]) (T:=⟨[.o 2],_,[],[],[35]⟩ :: ⟨[.p 0 0],_,[],[0],[36]⟩ :: ⟨[.p 1 0],_,[],[0,1],[37]⟩ :: ⟨[.p 2 0,.o 0],_,[],[0,1,2],[38]⟩ :: ⟨[.p 2 0,.p 3 0],_,[],Lr 4,[39]⟩ :: ⟨[.p 2 0,.p 4 0],_,[],Lr 5,[40]⟩ :: ⟨[.p 5 0],_,[],Lr 6,[41]⟩ :: ⟨[.p 6 0,.o 1],_,[],Lr 7,[42]⟩ :: ⟨[.p 6 0,.o 2],_,[],Lr 7,[43]⟩ :: ⟨[.p 6 0,.p 8 0],_,[],[0,1,2,3,4,5,6,8],[44]⟩ :: ⟨[.p 6 0,.p 7 0,.p 9 0],_,[],Lr 10,[45]⟩ :: ⟨[.p 6 0,.p 10 0],_,[],Lr 11,[46]⟩ :: ⟨[.p 6 0,.p 11 0],_,[],Lr 12,[47]⟩ :: ⟨[.p 6 0,.o 3],_,[],Lr 7,[48]⟩ :: ⟨[.p 6 0,.p 13 0],_,[],[0,1,2,3,4,5,6,13],[49]⟩ :: ⟨[.p 6 0,.p 12 0,.p 14 0],_,[],Lr 15,[50]⟩ :: ⟨[.p 6 0,.p 15 0],_,[],Lr 16,[51]⟩ :: ⟨[.p 16 0],_,[],Lr 17,[34]⟩ :: []) (F:=[.o 0,.o 1,.o 2,.o 3,.o 4,.o 5,.o 6,.p 17 0]) (hst.pick [0,1,2,3,4,5,6] rfl) hb Zb
       (Qm rfl u_0<|o_p rfl (Zc6 rfl rfl u_0 c_i)<|Qm rfl u_0<|o_g (Qg_t rfl (fun hG=>Zbc rfl rfl u_0))<|o_g (Qg_t rfl (fun hG=>Zbq rfl rfl (Opd.gd hG u_0) c_i))<|o_p rfl (Zbh rfl rfl u_0 (fun hz=>(Opd.gd hz u_1)))<|Qm rfl u_0<|o_g (Qg_t rfl (fun hG=>Zbc rfl rfl u_0))<|o_g (Qg_t rfl (fun hG=>Zbc rfl rfl u_0))<|o_g (Qg_t rfl (fun hG=>Zid rfl rfl (Opd.gd hG u_0) c_i rfl))<|o_g (Qg_t rfl (fun hG=>Zbt Tryd.underlying23 Zel rfl rfl (Opd.gd hG u_0) (Opd.gd hG u_1) (Zbx h12 hG)))<|o_g (Qg_t rfl (fun hG=>Zh Ze0 rfl rfl (Opd.gd hG u_0)))<|o_g (Qg_t rfl (fun hG=>Zo ty_9 rfl rfl (Opd.gd hG u_0)))<|o_g (Qg_t rfl (fun hG=>Zh Ze0 rfl rfl u_0))<|o_g (Qg_t rfl (fun hG=>Zo ty_9 rfl rfl (Opd.gd hG u_0)))<|o_g (Qg_t rfl (fun hG=>Zw4 rfl rfl (Opd.gd hG u_0) (Opd.gd hG u_1)))<|o_p rfl (Zbh rfl rfl u_0 (fun hz=>(Opd.gd hz u_1)))<|Qa rfl u_0<|o_n) (fun a g hst hb=>?_)
      refine wp_cond_split (hst.bool 7 rfl) (fun hc13=>?_) (fun hc13=>?_)
      ·replace H1:=Z2 hc13 H1
       refine r_s (L:=[]) (T:=[⟨[],_,[],[],[4]⟩]) (F:=[.p 0 0]) (hst.pick [] rfl) hb Zb
        (Qa rfl c_i<|o_n) (fun a g hst hb=>?_)
       refine wp_ret ?_
       refine Zx ?_
       refine Zx ?_
       refine Zp ?_
       refine Zp ?_
       refine Zx ?_
       refine Zp ?_
       refine Zp ?_
       obtain rfl:=Option.some.inj H1
       obtain rfl:=Option.some.inj H0
       exact Zz rfl hst hb (Zi (s:=4)) (hst.at 0 rfl)
      ·replace H1:=Z3 hc13 H1
       obtain ⟨e14,h15,H1⟩:=Zg H1;obtain ⟨r16,h17,H1⟩:=Zg H1
       refine r_s (L:=[(0,_),(1,_),(5,_),(6,_),(7,_),(8,_),(9,_)]) (T:=⟨[.o 2],_,[],[],[53]⟩ :: ⟨[.p 0 0],_,[],[0],[54]⟩ :: ⟨[.p 1 0],_,[],[0,1],[55]⟩ :: ⟨[.p 2 0,.o 0],_,[],[0,1,2],[56]⟩ :: ⟨[.p 2 0,.p 3 0],_,[],Lr 4,[57]⟩ :: ⟨[.p 2 0,.p 4 0],_,[],Lr 5,[58]⟩ :: ⟨[.p 5 0],_,[],Lr 6,[59]⟩ :: ⟨[.p 6 0,.o 1],_,[],Lr 7,[60]⟩ :: ⟨[.p 6 0,.o 2],_,[],Lr 7,[61]⟩ :: ⟨[.p 6 0,.p 8 0],_,[],[0,1,2,3,4,5,6,8],[62]⟩ :: ⟨[.p 6 0,.p 7 0,.p 9 0],_,[],Lr 10,[63]⟩ :: ⟨[.p 6 0,.p 10 0],_,[],Lr 11,[64]⟩ :: ⟨[.p 6 0,.o 3],_,[],Lr 7,[65]⟩ :: ⟨[.p 6 0,.p 11 0,.p 12 0],_,[],Lr 13,[66]⟩ :: ⟨[.p 6 0,.p 13 0],_,[],Lr 14,[67]⟩ :: ⟨[.p 6 0,.p 14 0],_,[],Lr 15,[68]⟩ :: ⟨[.p 15 0],_,[],Lr 16,[52]⟩ :: []) (F:=[.o 0,.o 1,.o 4,.o 5,.o 6,.p 16 0]) (hst.pick [0,1,2,3,4,5,6] rfl) hb Zb
        (Qm rfl u_0<|o_p rfl (Zc6 rfl rfl u_0 c_i)<|Qm rfl u_0<|o_g (Qg_t rfl (fun hG=>Zbc rfl rfl u_0))<|o_g (Qg_t rfl (fun hG=>Zbq rfl rfl (Opd.gd hG u_0) c_i))<|o_p rfl (Zbh rfl rfl u_0 (fun hz=>(Opd.gd hz u_1)))<|Qm rfl u_0<|o_g (Qg_t rfl (fun hG=>Zbc rfl rfl u_0))<|o_g (Qg_t rfl (fun hG=>Zbc rfl rfl u_0))<|o_g (Qg_t rfl (fun hG=>Zid rfl rfl (Opd.gd hG u_0) c_i rfl))<|o_g (Qg_t rfl (fun hG=>Zbt Tryd.underlying23 Zel rfl rfl (Opd.gd hG u_0) (Opd.gd hG u_1) (Zbx h15 hG)))<|o_g (Qg_t rfl (fun hG=>Zo Zd8 rfl rfl (Opd.gd hG u_0)))<|o_g (Qg_t rfl (fun hG=>Zo Zd8 rfl rfl u_0))<|o_g (Qg_t rfl (fun hG=>Zr Zq2 (Zii _ _ (Zbx h17 hG)) rfl rfl (.cons (Opd.gd hG u_0) (.cons (Opd.gd hG u_1) .nil))))<|o_g (Qg_t rfl (fun hG=>Zhi rfl rfl (Opd.gd hG u_0)))<|o_p rfl (Zbh rfl rfl u_0 (fun hz=>(Opd.gd hz u_1)))<|Qa rfl u_0<|o_n) (fun a g hst hb=>?_)
       refine wp_cond_split (hst.bool 5 rfl) (fun hc18=>?_) (fun hc18=>?_)
       ·replace H1:=Z2 hc18 H1
        refine r_s (L:=[]) (T:=[⟨[],_,[],[],[4]⟩]) (F:=[.p 0 0]) (hst.pick [] rfl) hb Zb
         (Qa rfl c_i<|o_n) (fun a g hst hb=>?_)
        refine wp_ret ?_
        refine Zx ?_
        refine Zx ?_
        refine Zp ?_
        refine Zp ?_
        refine Zx ?_
        refine Zp ?_
        refine Zp ?_
        obtain rfl:=Option.some.inj H1
        obtain rfl:=Option.some.inj H0
        exact Zz rfl hst hb (Zi (s:=4)) (hst.at 0 rfl)
       ·replace H1:=Z3 hc18 H1
        refine wp_skip ?_
        refine Zb7 ?_
        refine Zb7 ?_
        refine Zy ?_
        refine r_g (L:=[(0,_),(1,_),(7,_),(8,_),(9,_)]) (T:=[⟨[.o 4],_,[],[],[69]⟩,⟨[.p 0 0],_,[],[0],[9]⟩]) (F:=[.o 0,.o 1,.o 2,.o 3,.p 1 0]) (hst.pick [0,1,2,3,4] rfl) hb Zb
         (o_p rfl (Zcv rfl rfl u_0 c_i rfl)<|Qm rfl u_0<|o_n) (fun a g hst hb=>?_)
        exact ⟨n,Nat.lt_succ_self _,(IntKind.i64.wrap (x1 + (1:Int))),g,rfl,(hst.pick [0,1,2,3,4] rfl),hb,H1⟩
   ·replace H1:=Z3 hc2 H1
    refine wp_exit ?_
    refine Zcu ?_
    refine Zcu ?_
    refine Zd5 ?_
    exact ⟨g,rfl,(hst.pick [] rfl),hb,Option.some.inj H1⟩
theorem Zkv (a0:Za) {r:Int} (h:Zcs a0=some r):FnOk Tryd.prog 16 [(Zf.pd a0)] (pInt .i64 r):=by
 have H0:=h
 unfold Zcs at H0
 clear h
 refine Zbv (N:=83) Tryd.func16 rfl rfl (Qe rfl) rfl rfl (fun a g0 hst hb=>?_)
 refine r_s (T:=[⟨[.o 0],_,[],[],[1]⟩,⟨[],_,[],[],[2]⟩]) (F:=[.p 0 0]) hst hb Zb
  (Qb rfl u_0<|Qa rfl c_i<|o_n) (fun a g hst hb=>?_)
 obtain ⟨r1,h2,H0⟩:=Zg H0
 refine r_s (T:=[⟨[.o 0],_,[],[],[4]⟩,⟨[.p 0 0],_,[],[0],[5]⟩,⟨[.p 1 0],_,[],[0,1],[6]⟩,⟨[],[(3,(pBox Zbr 3 (default:Zbb)))],[4],[],[3]⟩,⟨[.p 2 0,.p 3 0],_,[4],Lr 4,[3]⟩]) (F:=[.o 0,.p 4 0]) hst hb Zb
  (Qf rfl Zha u_0<|Ql rfl ty_3 u_0<|o_p rfl (Zr Zyv (Zn4 _ h2) rfl rfl (.cons u_0 .nil))<|o_p rfl (Zby (zs:=[.bool false,.bool false,.bool false,.bool false,.bool false]) (by kernel_rfl) (fun g=>Zkk g) rfl rfl)<|o_p rfl (Zda Zf8 rfl rfl u_1 u_0)<|o_n) (fun a g hst hb=>?_)
 refine wp_seq ?_
 refine wp_block ?_
 refine r_s (T:=[⟨[.o 0],_,[],[],[8]⟩,⟨[.p 0 0],_,[],[0],[9]⟩,⟨[.p 1 0],_,[],[0,1],[10]⟩,⟨[.p 2 0],_,[],[0,1,2],[11]⟩,⟨[.p 3 0,.o 0],_,[],Lr 4,[12]⟩,⟨[.p 3 0,.p 4 0],_,[],Lr 5,[13]⟩,⟨[.p 3 0,.p 5 0],_,[],Lr 6,[14]⟩,⟨[.p 3 0,.p 6 0],_,[],Lr 7,[15]⟩,⟨[.p 7 0],_,[],Lr 8,[7]⟩]) (F:=[.o 0,.o 1,.p 8 0]) hst hb Zb
  (Qf rfl Zha u_0<|Ql rfl ty_3 u_0<|o_p rfl (Zuu rfl rfl u_0 c_i)<|Qm rfl u_0<|o_g (Qg_f rfl (fun hG=>Zh Zha rfl rfl u_0))<|o_g (Qg_f rfl (fun hG=>Zo ty_3 rfl rfl (Opd.gd hG u_0)))<|o_g (Qg_f rfl (fun hG=>Zrl rfl rfl (Opd.gd hG u_0) c_i))<|o_p rfl (Zb3 rfl rfl u_0 (fun hz=>(Opd.gd (bNF hz) u_1)))<|Qa rfl u_0<|o_n) (fun a g hst hb=>?_)
 refine wp_cond_split (hst.bool 2 rfl) (fun hc3=>?_) (fun hc3=>?_)
 ·replace H0:=Z2 hc3 H0
  refine r_s (L:=[]) (T:=[⟨[],_,[],[],[2]⟩]) (F:=[.p 0 0]) (hst.pick [] rfl) hb Zb
   (Qa rfl c_i<|o_n) (fun a g hst hb=>?_)
  refine wp_ret ?_
  refine Zx ?_
  refine Zp ?_
  obtain rfl:=Option.some.inj H0
  exact Zz rfl hst hb (Zi (s:=2)) (hst.at 0 rfl)
 ·replace H0:=Z3 hc3 H0
  obtain ⟨r4,h5,H0⟩:=Zg H0
  refine r_s (L:=[(1,_),(3,_)]) (T:=[⟨[.o 0],_,[],[],[17]⟩,⟨[.o 1],_,[],[],[18]⟩,⟨[.p 0 0,.p 1 0],_,[],[0,1],[19]⟩,⟨[.p 2 0],_,[],[0,1,2],[20]⟩,⟨[.p 3 0],_,[],Lr 4,[16]⟩]) (F:=[.o 0,.o 1,.p 4 0]) (hst.pick [0,1] rfl) hb Zb
   (Ql rfl Zck u_0<|Ql rfl Zf8 u_0<|o_p rfl (Zr Zze (Zpp _ _ h5) rfl rfl (.cons u_0 (.cons u_1 .nil)))<|Qn rfl u_0<|Qa rfl u_0<|o_n) (fun a g hst hb=>?_)
  refine wp_cond_split (hst.bool 2 rfl) (fun hc6=>?_) (fun hc6=>?_)
  ·replace H0:=Z2 hc6 H0
   refine r_s (L:=[]) (T:=[⟨[],_,[],[],[2]⟩]) (F:=[.p 0 0]) (hst.pick [] rfl) hb Zb
    (Qa rfl c_i<|o_n) (fun a g hst hb=>?_)
   refine wp_ret ?_
   refine Zx ?_
   refine Zp ?_
   obtain rfl:=Option.some.inj H0
   exact Zz rfl hst hb (Zi (s:=2)) (hst.at 0 rfl)
  ·replace H0:=Z3 hc6 H0
   refine r_s (L:=[(1,_),(3,_)]) (T:=[⟨[.o 0],_,[],[],[22]⟩,⟨[.p 0 0],_,[],[0],[23]⟩,⟨[.p 1 0],_,[],[0,1],[24]⟩,⟨[.p 2 0],_,[],[0,1,2],[25]⟩,⟨[.p 3 0],_,[],Lr 4,[21]⟩]) (F:=[.o 0,.o 1,.p 4 0]) (hst.pick [0,1] rfl) hb Zb
    (Qf rfl Zh0 u_0<|Ql rfl ty_9 u_0<|o_p rfl (Zgq Tryd.underlying9 rfl rfl u_0)<|o_p rfl (Zc6 rfl rfl u_0 c_i)<|Qa rfl u_0<|o_n) (fun a g hst hb=>?_)
   refine wp_cond_split (hst.bool 2 rfl) (fun hc7=>?_) (fun hc7=>?_)
   ·replace H0:=Z2 hc7 H0
    refine r_s (L:=[]) (T:=[⟨[],_,[],[],[2]⟩]) (F:=[.p 0 0]) (hst.pick [] rfl) hb Zb
     (Qa rfl c_i<|o_n) (fun a g hst hb=>?_)
    refine wp_ret ?_
    refine Zx ?_
    refine Zp ?_
    obtain rfl:=Option.some.inj H0
    exact Zz rfl hst hb (Zi (s:=2)) (hst.at 0 rfl)
   ·replace H0:=Z3 hc7 H0
    refine r_s (L:=[(1,_),(3,_)]) (T:=⟨[.o 1],_,[],[],[27]⟩ :: ⟨[.p 0 0],_,[],[0],[28]⟩ :: ⟨[.p 1 0],_,[],[0,1],[29]⟩ :: ⟨[.p 2 0,.o 0],_,[],[0,1,2],[30]⟩ :: ⟨[.p 2 0,.p 3 0],_,[],Lr 4,[31]⟩ :: ⟨[.p 2 0,.p 4 0],_,[],Lr 5,[32]⟩ :: ⟨[.p 2 0,.p 5 0],_,[],Lr 6,[33]⟩ :: ⟨[.p 6 0,.o 0],_,[],Lr 7,[34]⟩ :: ⟨[.p 6 0,.p 7 0],_,[],Lr 8,[35]⟩ :: ⟨[.p 6 0,.p 8 0],_,[],Lr 9,[36]⟩ :: ⟨[.p 2 0,.p 6 0,.p 9 0],_,[],Lr 10,[37]⟩ :: ⟨[.p 2 0,.p 10 0],_,[],Lr 11,[38]⟩ :: ⟨[.p 11 0,.o 0],_,[],Lr 12,[39]⟩ :: ⟨[.p 11 0,.p 12 0],_,[],Lr 13,[40]⟩ :: ⟨[.p 11 0,.o 0],_,[],Lr 12,[41]⟩ :: ⟨[.p 11 0,.p 14 0],_,[],0 :: 1 :: 2 :: 3 :: 4 :: 5 :: 6 :: 7 :: 8 :: 9 :: 10 :: 11 :: 14 :: [],[42]⟩ :: ⟨[.p 11 0,.p 13 0,.p 15 0],_,[],Lr 16,[43]⟩ :: ⟨[.p 2 0,.p 11 0,.p 16 0],_,[],Lr 17,[44]⟩ :: ⟨[.p 2 0,.p 17 0],_,[],Lr 18,[45]⟩ :: ⟨[.p 18 0,.o 0],_,[],Lr 19,[46]⟩ :: ⟨[.p 18 0,.p 19 0],_,[],Lr 20,[47]⟩ :: ⟨[.p 18 0,.o 0],_,[],Lr 19,[48]⟩ :: ⟨[.p 18 0,.p 21 0],_,[],0 :: 1 :: 2 :: 3 :: 4 :: 5 :: 6 :: 7 :: 8 :: 9 :: 10 :: 11 :: 12 :: 13 :: 14 :: 15 :: 16 :: 17 :: 18 :: 21 :: [],[49]⟩ :: ⟨[.p 18 0,.p 20 0,.p 22 0],_,[],Lr 23,[50]⟩ :: ⟨[.p 2 0,.p 18 0,.p 23 0],_,[],Lr 24,[51]⟩ :: ⟨[.p 2 0,.p 24 0],_,[],Lr 25,[52]⟩ :: ⟨[.p 25 0],_,[],Lr 26,[26]⟩ :: []) (F:=[.o 0,.o 1,.p 26 0]) (hst.pick [0,1] rfl) hb Zb
     (Qf rfl Zqf u_0<|Ql rfl ty_4 u_0<|Qm rfl u_0<|o_g (Qg_t rfl (fun hG=>Zh Zh1 rfl rfl u_0))<|o_g (Qg_t rfl (fun hG=>Zo ty_2 rfl rfl (Opd.gd hG u_0)))<|o_g (Qg_t rfl (fun hG=>Zdp rfl rfl (Opd.gd hG u_0) c_i))<|o_g (Qg_t rfl (fun hG=>Zbc rfl rfl (Opd.gd hG u_0)))<|o_g (Qg_fi rfl (fun hG=>Zh Zhz rfl rfl u_0))<|o_g (Qg_fi rfl (fun hG=>Zo ty_2 rfl rfl (Opd.gd hG u_0)))<|o_g (Qg_fi rfl (fun hG=>Zc6 rfl rfl (Opd.gd hG u_0) c_i))<|o_g (Qg_t rfl (fun hG=>Zb3 rfl rfl (Opd.gd hG u_0) (fun hz=>(Opd.gd (bA hG (bNF hz)) u_1))))<|o_g (Qg_t rfl (fun hG=>Zbc rfl rfl (Opd.gd hG u_0)))<|o_g (Qg_fi rfl (fun hG=>Zh Zgp rfl rfl u_0))<|o_g (Qg_fi rfl (fun hG=>Zo ty_2 rfl rfl (Opd.gd hG u_0)))<|o_g (Qg_fi rfl (fun hG=>Zh Zh1 rfl rfl u_0))<|o_g (Qg_fi rfl (fun hG=>Zo ty_2 rfl rfl (Opd.gd hG u_0)))<|o_g (Qg_fi rfl (fun hG=>Zdp rfl rfl (Opd.gd hG u_0) (Opd.gd hG u_1)))<|o_g (Qg_t rfl (fun hG=>Zb3 rfl rfl (Opd.gd hG u_0) (fun hz=>(Opd.gd (bA hG (bNF hz)) u_1))))<|o_g (Qg_t rfl (fun hG=>Zbc rfl rfl (Opd.gd hG u_0)))<|o_g (Qg_fi rfl (fun hG=>Zh Zgp rfl rfl u_0))<|o_g (Qg_fi rfl (fun hG=>Zo ty_2 rfl rfl (Opd.gd hG u_0)))<|o_g (Qg_fi rfl (fun hG=>Zh Zhz rfl rfl u_0))<|o_g (Qg_fi rfl (fun hG=>Zo ty_2 rfl rfl (Opd.gd hG u_0)))<|o_g (Qg_fi rfl (fun hG=>Zc6 rfl rfl (Opd.gd hG u_0) (Opd.gd hG u_1)))<|o_g (Qg_t rfl (fun hG=>Zb3 rfl rfl (Opd.gd hG u_0) (fun hz=>(Opd.gd (bA hG (bNF hz)) u_1))))<|o_p rfl (Zbh rfl rfl u_0 (fun hz=>(Opd.gd hz u_1)))<|Qa rfl u_0<|o_n) (fun a g hst hb=>?_)
    refine wp_cond_split (hst.bool 2 rfl) (fun hc8=>?_) (fun hc8=>?_)
    ·replace H0:=Z2 hc8 H0
     refine r_s (L:=[]) (T:=[⟨[],_,[],[],[2]⟩]) (F:=[.p 0 0]) (hst.pick [] rfl) hb Zb
      (Qa rfl c_i<|o_n) (fun a g hst hb=>?_)
     refine wp_ret ?_
     refine Zx ?_
     refine Zp ?_
     obtain rfl:=Option.some.inj H0
     exact Zz rfl hst hb (Zi (s:=2)) (hst.at 0 rfl)
    ·replace H0:=Z3 hc8 H0
     obtain ⟨r9,h10,H0⟩:=Zg H0
     refine r_s (L:=[(1,_),(3,_)]) (T:=[⟨[.o 0],_,[],[],[54]⟩,⟨[.p 0 0],_,[],[0],[55]⟩,⟨[.p 1 0],_,[],[0,1],[56]⟩,⟨[.p 2 0],_,[],[0,1,2],[57]⟩,⟨[.p 3 0],_,[],Lr 4,[53]⟩]) (F:=[.o 0,.o 1,.p 4 0]) (hst.pick [0,1] rfl) hb Zb
      (Qf rfl Zin u_0<|Ql rfl Zdo u_0<|o_p rfl (Zr Zq4 (Zij _ h10) rfl rfl (.cons u_0 .nil))<|Qn rfl u_0<|Qa rfl u_0<|o_n) (fun a g hst hb=>?_)
     refine wp_cond_split (hst.bool 2 rfl) (fun hc11=>?_) (fun hc11=>?_)
     ·replace H0:=Z2 hc11 H0
      refine r_s (L:=[]) (T:=[⟨[],_,[],[],[2]⟩]) (F:=[.p 0 0]) (hst.pick [] rfl) hb Zb
       (Qa rfl c_i<|o_n) (fun a g hst hb=>?_)
      refine wp_ret ?_
      refine Zx ?_
      refine Zp ?_
      obtain rfl:=Option.some.inj H0
      exact Zz rfl hst hb (Zi (s:=2)) (hst.at 0 rfl)
     ·replace H0:=Z3 hc11 H0
      refine r_s (L:=[(1,_),(3,_)]) (T:=[⟨[.o 1],_,[],[],[59]⟩,⟨[.p 0 0],_,[],[0],[60]⟩,⟨[.p 1 0],_,[],[0,1],[61]⟩,⟨[.p 2 0],_,[],[0,1,2],[58]⟩]) (F:=[.o 0,.p 3 0]) (hst.pick [0,1] rfl) hb Zb
       (Qf rfl Zqr u_0<|Ql rfl ty_4 u_0<|Qn rfl u_0<|Qa rfl u_0<|o_n) (fun a g hst hb=>?_)
      refine wp_cond_split (hst.bool 1 rfl) (fun hc12=>?_) (fun hc12=>?_)
      ·replace H0:=Z2 hc12 H0
       refine r_s (L:=[]) (T:=[⟨[],_,[],[],[2]⟩]) (F:=[.p 0 0]) (hst.pick [] rfl) hb Zb
        (Qa rfl c_i<|o_n) (fun a g hst hb=>?_)
       refine wp_ret ?_
       refine Zx ?_
       refine Zp ?_
       obtain rfl:=Option.some.inj H0
       exact Zz rfl hst hb (Zi (s:=2)) (hst.at 0 rfl)
      ·replace H0:=Z3 hc12 H0
       refine r_s (L:=[(1,_)]) (T:=[⟨[.o 0],_,[],[],[63]⟩,⟨[.p 0 0],_,[],[0],[64]⟩,⟨[.p 1 0],_,[],[0,1],[65]⟩,⟨[.p 2 0],_,[],[0,1,2],[66]⟩,⟨[.p 3 0,.o 0],_,[],Lr 4,[67]⟩,⟨[.p 3 0,.p 4 0],_,[],Lr 5,[68]⟩,⟨[.p 3 0,.p 5 0],_,[],Lr 6,[69]⟩,⟨[.p 3 0,.p 6 0],_,[],Lr 7,[70]⟩,⟨[.p 7 0],_,[],Lr 8,[62]⟩]) (F:=[.o 0,.p 8 0]) (hst.pick [0] rfl) hb Zb
        (Qf rfl Zhc u_0<|Ql rfl ty_3 u_0<|o_p rfl (Zdp rfl rfl u_0 c_i)<|Qm rfl u_0<|o_g (Qg_f rfl (fun hG=>Zh Zhc rfl rfl u_0))<|o_g (Qg_f rfl (fun hG=>Zo ty_3 rfl rfl (Opd.gd hG u_0)))<|o_g (Qg_f rfl (fun hG=>Zc6 rfl rfl (Opd.gd hG u_0) c_i))<|o_p rfl (Zb3 rfl rfl u_0 (fun hz=>(Opd.gd (bNF hz) u_1)))<|Qa rfl u_0<|o_n) (fun a g hst hb=>?_)
       refine wp_cond_split (hst.bool 1 rfl) (fun hc13=>?_) (fun hc13=>?_)
       ·replace H0:=Z2 hc13 H0
        refine r_s (L:=[]) (T:=[⟨[],_,[],[],[2]⟩]) (F:=[.p 0 0]) (hst.pick [] rfl) hb Zb
         (Qa rfl c_i<|o_n) (fun a g hst hb=>?_)
        refine wp_ret ?_
        refine Zx ?_
        refine Zp ?_
        obtain rfl:=Option.some.inj H0
        exact Zz rfl hst hb (Zi (s:=2)) (hst.at 0 rfl)
       ·replace H0:=Z3 hc13 H0
        refine r_s (L:=[(1,_)]) (T:=[⟨[.o 0],_,[],[],[72]⟩,⟨[.p 0 0],_,[],[0],[73]⟩,⟨[.p 1 0],_,[],[0,1],[74]⟩,⟨[.o 0],_,[],[],[75]⟩,⟨[.p 3 0],_,[],[3],[76]⟩,⟨[.p 2 0,.p 4 0],_,[],Lr 5,[77]⟩,⟨[.p 5 0],_,[],Lr 6,[71]⟩]) (F:=[.o 0,.p 6 0]) (hst.pick [0] rfl) hb Zb
         (Qf rfl Zdm u_0<|Ql rfl Zfx u_0<|o_p rfl (Zch Tryd.underlying23 rfl rfl u_0)<|Qf rfl Zhc u_0<|Ql rfl ty_3 u_0<|o_p rfl (Zc6 rfl rfl u_0 u_1)<|Qa rfl u_0<|o_n) (fun a g hst hb=>?_)
        refine wp_cond_split (hst.bool 1 rfl) (fun hc14=>?_) (fun hc14=>?_)
        ·replace H0:=Z2 hc14 H0
         refine r_s (L:=[]) (T:=[⟨[],_,[],[],[2]⟩]) (F:=[.p 0 0]) (hst.pick [] rfl) hb Zb
          (Qa rfl c_i<|o_n) (fun a g hst hb=>?_)
         refine wp_ret ?_
         refine Zx ?_
         refine Zp ?_
         obtain rfl:=Option.some.inj H0
         exact Zz rfl hst hb (Zi (s:=2)) (hst.at 0 rfl)
        ·replace H0:=Z3 hc14 H0
         refine wp_skip ?_
         refine Zb7 ?_
         refine Zy ?_
         obtain ⟨r15,h16,H0⟩:=Zg H0
         refine r_s (L:=[(1,_)]) (T:=[⟨[.o 0],_,[],[],[78]⟩,⟨[.p 0 0],_,[],[0],[79]⟩,⟨[.o 0],_,[],[],[80]⟩,⟨[.p 2 0],_,[],[2],[81]⟩,⟨[.p 1 0,.p 3 0],_,[],Lr 4,[82]⟩,⟨[.p 4 0],_,[],Lr 5,[2]⟩]) (F:=[.p 5 0]) (hst.pick [0] rfl) hb Zb
          (Qf rfl Zha u_0<|Ql rfl ty_3 u_0<|Qf rfl Zdm u_0<|Ql rfl Zfx u_0<|o_p rfl (Zr Zzk (Zom _ _ h16) rfl rfl (.cons u_0 (.cons u_1 .nil)))<|Qa rfl u_0<|o_n) (fun a g hst hb=>?_)
         refine wp_ret ?_
         obtain rfl:=Option.some.inj H0
         exact Zz rfl hst hb (Zi (s:=2)) (hst.at 0 rfl)
theorem Znq (a0:Int) {r:Zb0} (h:Zi7 a0=some r):FnOk Tryd.prog 21 [(pInt .i64 a0)] (Zcb.pd r):=by
 have H0:=h
 unfold Zi7 at H0
 clear h
 refine Zbv (N:=13) Tryd.func21 rfl rfl (Qe rfl) rfl rfl (fun a g0 hst hb=>?_)
 refine r_s (T:=[⟨[],[(2,(pBox Zcb 2 (default:Zb0)))],[3],[],[2]⟩]) (F:=[.o 0,.p 0 0]) hst hb Zb
  (o_p rfl (Zby (zs:=[.string ByteArray.empty,.int .i64 0,.string ByteArray.empty]) (by kernel_rfl) (fun g=>Zlu g) rfl rfl)<|o_n) (fun a g hst hb=>?_)
 refine wp_seq ?_
 refine r_s (T:=[⟨[.o 0],_,[],[],[3]⟩,⟨[.p 0 0],_,[],[0],[4]⟩,⟨[.p 1 0],_,[],[0,1],[5]⟩,⟨[.p 2 0,.o 0],_,[],[0,1,2],[6]⟩,⟨[.p 2 0,.p 3 0],_,[],Lr 4,[7]⟩,⟨[.p 2 0,.p 4 0],_,[],Lr 5,[8]⟩]) (F:=[.o 0,.o 1,.p 5 0]) hst hb Zb
  (Qm rfl u_0<|o_p rfl (Zuu rfl rfl u_0 c_i)<|Qm rfl u_0<|o_g (Qg_f rfl (fun hG=>Zbc rfl rfl u_0))<|o_g (Qg_f rfl (fun hG=>Zrl rfl rfl (Opd.gd hG u_0) c_i))<|o_p rfl (Zb3 rfl rfl u_0 (fun hz=>(Opd.gd (bNF hz) u_1)))<|o_n) (fun a g hst hb=>?_)
 refine wp_cond_split (hst.bool 2 rfl) (fun hc1=>?_) (fun hc1=>?_)
 ·replace H0:=Z2 hc1 H0
  refine r_s (L:=[(2,_)]) (T:=[⟨[],_,[],[],[9]⟩,⟨[.p 0 0,.o 0],_,[3],[0],[2]⟩]) (F:=[.p 1 0]) (hst.pick [1] rfl) hb Zb
   (o_p rfl (Zx0 rfl rfl )<|o_p rfl (Zba Zgz rfl rfl u_1 u_0)<|o_n) (fun a g hst hb=>?_)
  refine wp_ret ?_
  refine Zp ?_
  obtain rfl:=Option.some.inj H0
  obtain ⟨u0,hu0,hq0⟩:=Zbk (P:=Tryd.prog) Zgz (hst.at 0 rfl)
  exact Zz rfl hst hb hu0 hq0
 ·replace H0:=Z3 hc1 H0
  refine wp_skip ?_
  refine Zy ?_
  obtain ⟨e2,h3,H0⟩:=Zg H0
  refine r_s (L:=[(0,_),(2,_)]) (T:=[⟨[.o 0],_,[],[],[10]⟩,⟨[.p 0 0],_,[],[0],[11]⟩,⟨[.p 1 0],_,[],[0,1],[12]⟩,⟨[.p 2 0,.o 1],_,[3],[0,1,2],[2]⟩]) (F:=[.p 3 0]) (hst.pick [0,1] rfl) hb Zb
   (Qm rfl u_0<|o_p rfl (Zp4 Tryd.underlying77 Zyh rfl rfl (Opd.glob gm_0 gk_0) u_0 h3)<|Ql rfl Zgz u_0<|o_p rfl (Zba Zgz rfl rfl u_1 u_0)<|o_n) (fun a g hst hb=>?_)
  refine wp_ret ?_
  obtain rfl:=Option.some.inj H0
  obtain ⟨u0,hu0,hq0⟩:=Zbk (P:=Tryd.prog) Zgz (hst.at 0 rfl)
  exact Zz rfl hst hb hu0 hq0
theorem Zdw (f2:Nat) (C2:List Pd) (hC2:Free C2) (e2_:Zk Tryd.prog f2) (φ2:Zc → Zc → Option Bool) (hφ2:∀ (y0:Zc) (y1:Zc) (r:Bool),φ2 y0 y1=some r → FnOk Tryd.prog f2 ([(Zj.pd y0),(Zj.pd y1)] ++ C2) (Z1 r)) (a0:List Zc) (a1:List Zc) {r:Bool} (h:Zbd a0 a1 φ2=some r):FnOk Tryd.prog 49 [(Zj.sl.pd a0),(Zj.sl.pd a1),(pClo f2 C2 hC2)] (Z1 r):=by
 have H0:=h
 unfold Zbd at H0
 clear h
 refine Zbv (N:=32) Tryd.func49 rfl rfl (Qe rfl) rfl rfl (fun a g0 hst hb=>?_)
 refine r_s (T:=[⟨[],_,[],[],[6]⟩]) (F:=[.o 0,.o 1,.o 2]) hst hb Zb
  (Qa rfl c_b<|o_n) (fun a g hst hb=>?_)
 refine wp_seq ?_
 refine r_s (T:=[⟨[.o 0],_,[],[],[10]⟩,⟨[.p 0 0],_,[],[0],[11]⟩,⟨[.o 1],_,[],[],[12]⟩,⟨[.p 2 0],_,[],[2],[13]⟩,⟨[.p 1 0,.p 3 0],_,[],Lr 4,[14]⟩]) (F:=[.o 0,.o 1,.o 2,.p 4 0]) hst hb Zb
  (Qm rfl u_0<|o_p rfl (Zch Tryd.underlying23 rfl rfl u_0)<|Qm rfl u_0<|o_p rfl (Zch Tryd.underlying23 rfl rfl u_0)<|o_p rfl (Zf7 rfl rfl u_0 u_1)<|o_n) (fun a g hst hb=>?_)
 refine wp_cond_split (hst.bool 3 rfl) (fun hc1=>?_) (fun hc1=>?_)
 ·replace H0:=Z2 hc1 H0
  refine r_s (L:=[]) (T:=[⟨[],_,[],[],[6]⟩]) (F:=[.p 0 0]) (hst.pick [] rfl) hb Zb
   (Qa rfl c_b<|o_n) (fun a g hst hb=>?_)
  refine wp_ret ?_
  refine Zp ?_
  obtain rfl:=Option.some.inj H0
  exact Zz rfl hst hb (Zi (s:=6)) (hst.at 0 rfl)
 ·replace H0:=Z3 hc1 H0
  refine wp_skip ?_
  refine Zy ?_
  refine wp_seq ?_
  refine r_s (L:=[(0,_),(1,_),(2,_)]) (T:=[⟨[.o 0],_,[],[],[15]⟩,⟨[.p 0 0],_,[],[0],[16]⟩,⟨[],_,[],[],[17]⟩]) (F:=[.o 1,.o 2,.p 0 0,.p 1 0,.p 2 0]) (hst.pick [0,1,2] rfl) hb Zb
   (Qm rfl u_0<|o_p rfl (Zch Tryd.underlying23 rfl rfl u_0)<|Qm rfl c_i<|o_n) (fun a g hst hb=>?_)
  obtain ⟨z11,hz1,H0⟩:=Zg H0
  refine Zdj (fun a w=>∃ (g:G),w=g.w ∧ St 32 [] a g ∧ Base g0 g ∧ (.inr ())=z11) ?_ ?_
  ·rintro a w ⟨g,rfl,hst,hb,rfl⟩
   refine Zy ?_
   refine r_s (T:=[⟨[],_,[],[],[6]⟩]) (F:=[.p 0 0]) hst hb Zb
    (Qa rfl c_b<|o_n) (fun a g hst hb=>?_)
   refine wp_ret ?_
   obtain rfl:=Option.some.inj H0
   exact Zz rfl hst hb (Zi (s:=6)) (hst.at 0 rfl)
  ·refine wp_block ?_
   refine wp_loop_ghost (fun n a w=>∃ (x2:Int) (g:G),w=g.w ∧ St 32 [(1,(Zj.sl.pd a1)),(2,(pClo f2 C2 hC2)),(15,(Zj.sl.pd a0)),(16,(pInt .i64 (a0.length:Int))),(17,(pInt .i64 x2))] a g ∧ Base g0 g ∧ Zw a0 a1 φ2 n x2=some z11) (Int.toNat ((a0.length:Int) - (0:Int)) + 1) ⟨(0:Int),g,rfl,(hst.pick [0,1,2,3,4] rfl),hb,hz1⟩ (fun n a w hI=>?_)
   obtain ⟨x2,g,rfl,hst,hb,H1⟩:=hI
   cases n with
   | zero=>exact absurd H1 (by simp [Zw])
   | succ n =>
    rw [Zw] at H1
    refine r_s (T:=[⟨[.o 4,.o 3],_,[],[],[18]⟩]) (F:=[.o 0,.o 1,.o 2,.o 3,.o 4,.p 0 0]) hst hb Zb
     (o_p rfl (Zdp rfl rfl u_0 u_1)<|o_n) (fun a g hst hb=>?_)
    refine wp_seq ?_
    refine wp_cond_split (hst.bool 5 rfl) (fun hc3=>?_) (fun hc3=>?_)
    ·replace H1:=Z2 hc3 H1
     refine wp_skip ?_
     refine Zy ?_
     refine wp_seq ?_
     refine wp_block ?_
     obtain ⟨e4,h5,H1⟩:=Zg H1
     refine r_s (L:=[(1,_),(2,_),(15,_),(16,_),(17,_)]) (T:=[⟨[.o 4],_,[],[],[19]⟩,⟨[.o 2,.o 4],_,[],[],[20]⟩,⟨[.p 1 0],_,[],[1],[21]⟩,⟨[],[(8,(pBox Zj 8 (default:Zc)))],[9],[],[8]⟩,⟨[.p 0 0],_,[],Lr 4,[7]⟩,⟨[.p 2 0,.p 3 0],_,[9],Lr 5,[8]⟩]) (F:=[.o 0,.o 1,.p 4 0,.p 5 0,.o 2,.o 3,.o 4]) (hst.pick [0,1,2,3,4] rfl) hb Zb
      (Qm rfl u_0<|o_p rfl (Zbt Tryd.underlying23 Zel rfl rfl u_0 u_1 h5)<|Ql rfl Zd8 u_0<|o_p rfl (Zby (zs:=[.float .f64 0,.string ByteArray.empty]) (by kernel_rfl) (fun g=>Zgw g) rfl rfl)<|Qa rfl u_0<|o_p rfl (Zda Zd8 rfl rfl u_1 u_0)<|o_n) (fun a g hst hb=>?_)
     obtain ⟨e6,h7,H1⟩:=Zg H1
     refine r_s (T:=[⟨[.o 0],_,[],[],[22]⟩,⟨[.o 2],_,[],[],[23]⟩,⟨[.p 0 0,.p 1 0],_,[],[0,1],[24]⟩,⟨[.p 2 0],_,[],[0,1,2],[25]⟩,⟨[],[(9,(pBox Zj 9 (default:Zc)))],[10],[],[9]⟩,⟨[.p 3 0,.p 4 0],_,[10],Lr 5,[9]⟩]) (F:=[.o 0,.o 1,.o 3,.p 5 0,.o 4,.o 5,.o 6]) hst hb Zb
      (Qm rfl u_0<|Qm rfl u_0<|o_p rfl (Zbt Tryd.underlying23 Zel rfl rfl u_0 u_1 h7)<|Ql rfl Zd8 u_0<|o_p rfl (Zby (zs:=[.float .f64 0,.string ByteArray.empty]) (by kernel_rfl) (fun g=>Zgw g) rfl rfl)<|o_p rfl (Zda Zd8 rfl rfl u_1 u_0)<|o_n) (fun a g hst hb=>?_)
     obtain ⟨r8,h9,H1⟩:=Zg H1
     refine r_s (T:=[⟨[.o 1],_,[],[],[26]⟩,⟨[.o 2],_,[],[],[27]⟩,⟨[.o 3],_,[],[],[28]⟩,⟨[.p 0 0,.p 1 0,.p 2 0],_,[],[0,1,2],[29]⟩,⟨[.p 3 0],_,[],Lr 4,[30]⟩]) (F:=[.o 0,.o 1,.o 4,.o 5,.o 6,.p 4 0]) hst hb Zb
      (Qm rfl u_0<|Ql rfl Zd8 u_0<|Ql rfl Zd8 u_0<|o_p rfl (Zj5 e2_ (hφ2 _ _ _ h9) rfl rfl u_0 (.cons u_1 (.cons u_2 .nil)))<|Qn rfl u_0<|o_n) (fun a g hst hb=>?_)
     refine wp_cond_split (hst.bool 5 rfl) (fun hc10=>?_) (fun hc10=>?_)
     ·replace H1:=Z2 hc10 H1
      refine r_s (L:=[]) (T:=[⟨[],_,[],[],[6]⟩]) (F:=[.p 0 0]) (hst.pick [] rfl) hb Zb
       (Qa rfl c_b<|o_n) (fun a g hst hb=>?_)
      refine wp_ret ?_
      refine Zx ?_
      refine Zp ?_
      refine Zp ?_
      refine Zx ?_
      refine Zp ?_
      refine Zp ?_
      obtain rfl:=Option.some.inj H1
      obtain rfl:=Option.some.inj H0
      exact Zz rfl hst hb (Zi (s:=6)) (hst.at 0 rfl)
     ·replace H1:=Z3 hc10 H1
      refine wp_skip ?_
      refine Zb7 ?_
      refine Zy ?_
      refine r_g (L:=[(1,_),(2,_),(15,_),(16,_),(17,_)]) (T:=[⟨[.o 4],_,[],[],[31]⟩,⟨[.p 0 0],_,[],[0],[17]⟩]) (F:=[.o 0,.o 1,.o 2,.o 3,.p 1 0]) (hst.pick [0,1,2,3,4] rfl) hb Zb
       (o_p rfl (Zcv rfl rfl u_0 c_i rfl)<|Qm rfl u_0<|o_n) (fun a g hst hb=>?_)
      exact ⟨n,Nat.lt_succ_self _,(IntKind.i64.wrap (x2 + (1:Int))),g,rfl,(hst.pick [0,1,2,3,4] rfl),hb,H1⟩
    ·replace H1:=Z3 hc3 H1
     refine wp_exit ?_
     refine Zcu ?_
     refine Zcu ?_
     refine Zd5 ?_
     exact ⟨g,rfl,(hst.pick [] rfl),hb,Option.some.inj H1⟩
theorem Zn3 (a0:Zc) (a1:Zc) {r:Bool} (h:Ze3 a0 a1=some r):FnOk Tryd.prog 50 [(Zj.pd a0),(Zj.pd a1)] (Z1 r):=by
 have H0:=h
 unfold Ze3 at H0
 clear h
 refine Zbv (N:=17) Tryd.func50 rfl rfl (Qe rfl) rfl rfl (fun a g0 hst hb=>?_)
 refine r_s (T:=[⟨[.o 0],_,[],[],[2]⟩,⟨[.o 1],_,[],[],[3]⟩,⟨[],_,[],[],[4]⟩]) (F:=[.p 0 0,.p 1 0]) hst hb Zb
  (Qb rfl u_0<|Qb rfl u_0<|Qa rfl c_b<|o_n) (fun a g hst hb=>?_)
 obtain ⟨r1,h2,H0⟩:=Zg H0
 refine r_s (T:=⟨[.o 0],_,[],[],[5]⟩ :: ⟨[.p 0 0],_,[],[0],[6]⟩ :: ⟨[.o 1],_,[],[],[7]⟩ :: ⟨[.p 2 0],_,[],[2],[8]⟩ :: ⟨[.p 1 0,.p 3 0],_,[],Lr 4,[9]⟩ :: ⟨[.p 4 0],_,[],Lr 5,[10]⟩ :: ⟨[.p 5 0,.o 0],_,[],Lr 6,[11]⟩ :: ⟨[.p 5 0,.p 6 0],_,[],Lr 7,[12]⟩ :: ⟨[.p 5 0,.o 1],_,[],Lr 6,[13]⟩ :: ⟨[.p 5 0,.p 8 0],_,[],[0,1,2,3,4,5,8],[14]⟩ :: ⟨[.p 5 0,.p 7 0,.p 9 0],_,[],Lr 10,[15]⟩ :: ⟨[.p 5 0,.p 10 0],_,[],Lr 11,[16]⟩ :: ⟨[.p 11 0],_,[],Lr 12,[4]⟩ :: []) (F:=[.p 12 0]) hst hb Zb
  (Qf rfl Ze0 u_0<|Ql rfl ty_9 u_0<|Qf rfl Ze0 u_0<|Ql rfl ty_9 u_0<|o_p rfl (Zjj rfl rfl u_0 u_1)<|Qm rfl u_0<|o_g (Qg_t rfl (fun hG=>Zh Zf5 rfl rfl u_0))<|o_g (Qg_t rfl (fun hG=>Zo Zdo rfl rfl (Opd.gd hG u_0)))<|o_g (Qg_t rfl (fun hG=>Zh Zf5 rfl rfl u_0))<|o_g (Qg_t rfl (fun hG=>Zo Zdo rfl rfl (Opd.gd hG u_0)))<|o_g (Qg_t rfl (fun hG=>Zr Zk6 (Zf4 _ _ (Zbx h2 hG)) rfl rfl (.cons (Opd.gd hG u_0) (.cons (Opd.gd hG u_1) .nil))))<|o_p rfl (Zbh rfl rfl u_0 (fun hz=>(Opd.gd hz u_1)))<|Qa rfl u_0<|o_n) (fun a g hst hb=>?_)
 refine wp_ret ?_
 obtain rfl:=Option.some.inj H0
 exact Zz rfl hst hb (Zi (s:=4)) (hst.at 0 rfl)
theorem Zlr (a0:Za) (a1:Za) {r:Bool} (h:Zhw a0 a1=some r):FnOk Tryd.prog 20 [(Zf.pd a0),(Zf.pd a1)] (Z1 r):=by
 have H0:=h
 unfold Zhw at H0
 clear h
 refine Zbv (N:=59) Tryd.func20 rfl rfl (Qe rfl) rfl rfl (fun a g0 hst hb=>?_)
 refine r_s (T:=[⟨[.o 0],_,[],[],[2]⟩,⟨[.o 1],_,[],[],[3]⟩,⟨[],_,[],[],[4]⟩]) (F:=[.p 0 0,.p 1 0]) hst hb Zb
  (Qb rfl u_0<|Qb rfl u_0<|Qa rfl c_b<|o_n) (fun a g hst hb=>?_)
 obtain ⟨r1,h2,H0⟩:=Zg H0;obtain ⟨r3,h4,H0⟩:=Zg H0
 refine r_s (T:=⟨[.o 0],_,[],[],[5]⟩ :: ⟨[.p 0 0],_,[],[0],[6]⟩ :: ⟨[.o 1],_,[],[],[7]⟩ :: ⟨[.p 2 0],_,[],[2],[8]⟩ :: ⟨[.p 1 0,.p 3 0],_,[],Lr 4,[9]⟩ :: ⟨[.p 4 0],_,[],Lr 5,[10]⟩ :: ⟨[.p 5 0,.o 0],_,[],Lr 6,[11]⟩ :: ⟨[.p 5 0,.p 6 0],_,[],Lr 7,[12]⟩ :: ⟨[.p 5 0,.o 1],_,[],Lr 6,[13]⟩ :: ⟨[.p 5 0,.p 8 0],_,[],[0,1,2,3,4,5,8],[14]⟩ :: ⟨[.p 5 0,.p 7 0,.p 9 0],_,[],Lr 10,[15]⟩ :: ⟨[.p 5 0,.p 10 0],_,[],Lr 11,[16]⟩ :: ⟨[.p 11 0],_,[],Lr 12,[17]⟩ :: ⟨[.p 12 0,.o 0],_,[],Lr 13,[18]⟩ :: ⟨[.p 12 0,.p 13 0],_,[],Lr 14,[19]⟩ :: ⟨[.p 12 0,.o 1],_,[],Lr 13,[20]⟩ :: ⟨[.p 12 0,.p 15 0],_,[],0 :: 1 :: 2 :: 3 :: 4 :: 5 :: 6 :: 7 :: 8 :: 9 :: 10 :: 11 :: 12 :: 15 :: [],[21]⟩ :: ⟨[.p 12 0,.p 14 0,.p 16 0],_,[],Lr 17,[22]⟩ :: ⟨[.p 12 0,.p 17 0],_,[],Lr 18,[23]⟩ :: ⟨[.p 18 0],_,[],Lr 19,[24]⟩ :: ⟨[.p 19 0,.o 0],_,[],Lr 20,[25]⟩ :: ⟨[.p 19 0,.p 20 0],_,[],Lr 21,[26]⟩ :: ⟨[.p 19 0,.o 1],_,[],Lr 20,[27]⟩ :: ⟨[.p 19 0,.p 22 0],_,[],0 :: 1 :: 2 :: 3 :: 4 :: 5 :: 6 :: 7 :: 8 :: 9 :: 10 :: 11 :: 12 :: 13 :: 14 :: 15 :: 16 :: 17 :: 18 :: 19 :: 22 :: [],[28]⟩ :: ⟨[.p 19 0,.p 21 0,.p 23 0],_,[],Lr 24,[29]⟩ :: ⟨[.p 19 0,.p 24 0],_,[],Lr 25,[30]⟩ :: ⟨[.p 25 0],_,[],Lr 26,[31]⟩ :: ⟨[.p 26 0,.o 0],_,[],Lr 27,[32]⟩ :: ⟨[.p 26 0,.p 27 0],_,[],Lr 28,[33]⟩ :: ⟨[.p 26 0,.o 1],_,[],Lr 27,[34]⟩ :: ⟨[.p 26 0,.p 29 0],_,[],0 :: 1 :: 2 :: 3 :: 4 :: 5 :: 6 :: 7 :: 8 :: 9 :: 10 :: 11 :: 12 :: 13 :: 14 :: 15 :: 16 :: 17 :: 18 :: 19 :: 20 :: 21 :: 22 :: 23 :: 24 :: 25 :: 26 :: 29 :: [],[35]⟩ :: ⟨[.p 26 0,.p 28 0,.p 30 0],_,[],Lr 31,[36]⟩ :: ⟨[.p 26 0,.p 31 0],_,[],Lr 32,[37]⟩ :: ⟨[.p 32 0],_,[],Lr 33,[38]⟩ :: ⟨[.p 33 0,.o 0],_,[],Lr 34,[39]⟩ :: ⟨[.p 33 0,.p 34 0],_,[],Lr 35,[40]⟩ :: ⟨[.p 33 0,.o 1],_,[],Lr 34,[41]⟩ :: ⟨[.p 33 0,.p 36 0],_,[],0 :: 1 :: 2 :: 3 :: 4 :: 5 :: 6 :: 7 :: 8 :: 9 :: 10 :: 11 :: 12 :: 13 :: 14 :: 15 :: 16 :: 17 :: 18 :: 19 :: 20 :: 21 :: 22 :: 23 :: 24 :: 25 :: 26 :: 27 :: 28 :: 29 :: 30 :: 31 :: 32 :: 33 :: 36 :: [],[42]⟩ :: ⟨[.p 33 0,.p 35 0,.p 37 0],_,[],Lr 38,[43]⟩ :: ⟨[.p 33 0,.p 38 0],_,[],Lr 39,[44]⟩ :: ⟨[.p 39 0],_,[],Lr 40,[45]⟩ :: ⟨[.p 40 0,.o 0],_,[],Lr 41,[46]⟩ :: ⟨[.p 40 0,.p 41 0],_,[],Lr 42,[47]⟩ :: ⟨[.p 40 0,.o 1],_,[],Lr 41,[48]⟩ :: ⟨[.p 40 0,.p 43 0],_,[],0 :: 1 :: 2 :: 3 :: 4 :: 5 :: 6 :: 7 :: 8 :: 9 :: 10 :: 11 :: 12 :: 13 :: 14 :: 15 :: 16 :: 17 :: 18 :: 19 :: 20 :: 21 :: 22 :: 23 :: 24 :: 25 :: 26 :: 27 :: 28 :: 29 :: 30 :: 31 :: 32 :: 33 :: 34 :: 35 :: 36 :: 37 :: 38 :: 39 :: 40 :: 43 :: [],[49]⟩ :: ⟨[.p 40 0,.p 42 0,.p 44 0],_,[],Lr 45,[50]⟩ :: ⟨[.p 40 0,.p 45 0],_,[],Lr 46,[51]⟩ :: ⟨[.p 46 0],_,[],Lr 47,[52]⟩ :: ⟨[.p 47 0,.o 0],_,[],Lr 48,[53]⟩ :: ⟨[.p 47 0,.p 48 0],_,[],Lr 49,[54]⟩ :: ⟨[.p 47 0,.o 1],_,[],Lr 48,[55]⟩ :: ⟨[.p 47 0,.p 50 0],_,[],0 :: 1 :: 2 :: 3 :: 4 :: 5 :: 6 :: 7 :: 8 :: 9 :: 10 :: 11 :: 12 :: 13 :: 14 :: 15 :: 16 :: 17 :: 18 :: 19 :: 20 :: 21 :: 22 :: 23 :: 24 :: 25 :: 26 :: 27 :: 28 :: 29 :: 30 :: 31 :: 32 :: 33 :: 34 :: 35 :: 36 :: 37 :: 38 :: 39 :: 40 :: 41 :: 42 :: 43 :: 44 :: 45 :: 46 :: 47 :: 50 :: [],[56]⟩ :: ⟨[.p 47 0,.p 49 0,.p 51 0],_,[],Lr 52,[57]⟩ :: ⟨[.p 47 0,.p 52 0],_,[],Lr 53,[58]⟩ :: ⟨[.p 53 0],_,[],Lr 54,[4]⟩ :: []) (F:=[.p 54 0]) hst hb Zb
  (Qf rfl Zha u_0<|Ql rfl ty_3 u_0<|Qf rfl Zha u_0<|Ql rfl ty_3 u_0<|o_p rfl (Zbq rfl rfl u_0 u_1)<|Qm rfl u_0<|o_g (Qg_t rfl (fun hG=>Zh Zgp rfl rfl u_0))<|o_g (Qg_t rfl (fun hG=>Zo ty_2 rfl rfl (Opd.gd hG u_0)))<|o_g (Qg_t rfl (fun hG=>Zh Zgp rfl rfl u_0))<|o_g (Qg_t rfl (fun hG=>Zo ty_2 rfl rfl (Opd.gd hG u_0)))<|o_g (Qg_t rfl (fun hG=>Zbq rfl rfl (Opd.gd hG u_0) (Opd.gd hG u_1)))<|o_p rfl (Zbh rfl rfl u_0 (fun hz=>(Opd.gd hz u_1)))<|Qm rfl u_0<|o_g (Qg_t rfl (fun hG=>Zh Zh1 rfl rfl u_0))<|o_g (Qg_t rfl (fun hG=>Zo ty_2 rfl rfl (Opd.gd hG u_0)))<|o_g (Qg_t rfl (fun hG=>Zh Zh1 rfl rfl u_0))<|o_g (Qg_t rfl (fun hG=>Zo ty_2 rfl rfl (Opd.gd hG u_0)))<|o_g (Qg_t rfl (fun hG=>Zbq rfl rfl (Opd.gd hG u_0) (Opd.gd hG u_1)))<|o_p rfl (Zbh rfl rfl u_0 (fun hz=>(Opd.gd hz u_1)))<|Qm rfl u_0<|o_g (Qg_t rfl (fun hG=>Zh Zhz rfl rfl u_0))<|o_g (Qg_t rfl (fun hG=>Zo ty_2 rfl rfl (Opd.gd hG u_0)))<|o_g (Qg_t rfl (fun hG=>Zh Zhz rfl rfl u_0))<|o_g (Qg_t rfl (fun hG=>Zo ty_2 rfl rfl (Opd.gd hG u_0)))<|o_g (Qg_t rfl (fun hG=>Zbq rfl rfl (Opd.gd hG u_0) (Opd.gd hG u_1)))<|o_p rfl (Zbh rfl rfl u_0 (fun hz=>(Opd.gd hz u_1)))<|Qm rfl u_0<|o_g (Qg_t rfl (fun hG=>Zh Zin rfl rfl u_0))<|o_g (Qg_t rfl (fun hG=>Zo Zdo rfl rfl (Opd.gd hG u_0)))<|o_g (Qg_t rfl (fun hG=>Zh Zin rfl rfl u_0))<|o_g (Qg_t rfl (fun hG=>Zo Zdo rfl rfl (Opd.gd hG u_0)))<|o_g (Qg_t rfl (fun hG=>Zr Zk6 (Zf4 _ _ (Zbx h2 hG)) rfl rfl (.cons (Opd.gd hG u_0) (.cons (Opd.gd hG u_1) .nil))))<|o_p rfl (Zbh rfl rfl u_0 (fun hz=>(Opd.gd hz u_1)))<|Qm rfl u_0<|o_g (Qg_t rfl (fun hG=>Zh Zhc rfl rfl u_0))<|o_g (Qg_t rfl (fun hG=>Zo ty_3 rfl rfl (Opd.gd hG u_0)))<|o_g (Qg_t rfl (fun hG=>Zh Zhc rfl rfl u_0))<|o_g (Qg_t rfl (fun hG=>Zo ty_3 rfl rfl (Opd.gd hG u_0)))<|o_g (Qg_t rfl (fun hG=>Zbq rfl rfl (Opd.gd hG u_0) (Opd.gd hG u_1)))<|o_p rfl (Zbh rfl rfl u_0 (fun hz=>(Opd.gd hz u_1)))<|Qm rfl u_0<|o_g (Qg_t rfl (fun hG=>Zh Zh0 rfl rfl u_0))<|o_g (Qg_t rfl (fun hG=>Zo ty_9 rfl rfl (Opd.gd hG u_0)))<|o_g (Qg_t rfl (fun hG=>Zh Zh0 rfl rfl u_0))<|o_g (Qg_t rfl (fun hG=>Zo ty_9 rfl rfl (Opd.gd hG u_0)))<|o_g (Qg_t rfl (fun hG=>Zjj rfl rfl (Opd.gd hG u_0) (Opd.gd hG u_1)))<|o_p rfl (Zbh rfl rfl u_0 (fun hz=>(Opd.gd hz u_1)))<|Qm rfl u_0<|o_g (Qg_t rfl (fun hG=>Zh Zdm rfl rfl u_0))<|o_g (Qg_t rfl (fun hG=>Zo Zfx rfl rfl (Opd.gd hG u_0)))<|o_g (Qg_t rfl (fun hG=>Zh Zdm rfl rfl u_0))<|o_g (Qg_t rfl (fun hG=>Zo Zfx rfl rfl (Opd.gd hG u_0)))<|o_g (Qg_t rfl (fun hG=>Zr Zzn (Zdw 50 [] rfl Zy7 (fun y0 y1=>Ze3 y0 y1) (fun y0 y1 r h=>Zn3 y0 y1 h) _ _ (Zbx h4 hG)) rfl rfl (.cons (Opd.gd hG u_0) (.cons (Opd.gd hG u_1) (.cons Opd.fnc .nil)))))<|o_p rfl (Zbh rfl rfl u_0 (fun hz=>(Opd.gd hz u_1)))<|Qa rfl u_0<|o_n) (fun a g hst hb=>?_)
 refine wp_ret ?_
 obtain rfl:=Option.some.inj H0
 exact Zz rfl hst hb (Zi (s:=4)) (hst.at 0 rfl)
theorem Zfk (a0:Zb0) (a1:Int) {r:Bool} (h:Zb2 a0 a1=some r):FnOk Tryd.prog 51 [(Zcb.pd a0),(pInt .u8 a1)] (Z1 r):=by
 have H0:=h
 unfold Zb2 at H0
 clear h
 refine Zbv (N:=19) Tryd.func51 rfl rfl (Qe rfl) rfl rfl (fun a g0 hst hb=>?_)
 refine r_s (T:=[⟨[.o 0],_,[],[],[2]⟩,⟨[],_,[],[],[4]⟩]) (F:=[.o 1,.p 0 0]) hst hb Zb
  (Qb rfl u_0<|Qa rfl c_b<|o_n) (fun a g hst hb=>?_)
 refine wp_seq ?_
 refine r_s (T:=[⟨[.o 1],_,[],[],[6]⟩,⟨[.p 0 0],_,[],[0],[7]⟩,⟨[.p 1 0],_,[],[0,1],[8]⟩,⟨[],_,[],[],[9]⟩]) (F:=[.o 0,.o 1,.p 2 0,.p 3 0]) hst hb Zb
  (Qf rfl Zql u_0<|Ql rfl ty_9 u_0<|o_p rfl (Zgq Tryd.underlying9 rfl rfl u_0)<|Qm rfl c_i<|o_n) (fun a g hst hb=>?_)
 obtain ⟨z6,hz1,H0⟩:=Zg H0
 refine Zdj (fun a w=>∃ (g:G),w=g.w ∧ St 19 [] a g ∧ Base g0 g ∧ (.inr ())=z6) ?_ ?_
 ·rintro a w ⟨g,rfl,hst,hb,rfl⟩
  refine Zy ?_
  refine r_s (T:=[⟨[],_,[],[],[4]⟩]) (F:=[.p 0 0]) hst hb Zb
   (Qa rfl c_b<|o_n) (fun a g hst hb=>?_)
  refine wp_ret ?_
  obtain rfl:=Option.some.inj H0
  exact Zz rfl hst hb (Zi (s:=4)) (hst.at 0 rfl)
 ·refine wp_block ?_
  refine wp_loop_ghost (fun n a w=>∃ (x1:Int) (g:G),w=g.w ∧ St 19 [(1,(pInt .u8 a1)),(2,(Zcb.ptr a0)),(8,(pInt .i64 (a0.has.size:Int))),(9,(pInt .i64 x1))] a g ∧ Base g0 g ∧ Zeh a0 a1 n x1=some z6) (Int.toNat ((a0.has.size:Int) - (0:Int)) + 1) ⟨(0:Int),g,rfl,(hst.pick [0,1,2,3] rfl),hb,hz1⟩ (fun n a w hI=>?_)
  obtain ⟨x1,g,rfl,hst,hb,H1⟩:=hI
  cases n with
  | zero=>exact absurd H1 (by simp [Zeh])
  | succ n =>
   rw [Zeh] at H1
   refine r_s (T:=[⟨[.o 3,.o 2],_,[],[],[10]⟩]) (F:=[.o 0,.o 1,.o 2,.o 3,.p 0 0]) hst hb Zb
    (o_p rfl (Zdp rfl rfl u_0 u_1)<|o_n) (fun a g hst hb=>?_)
   refine wp_seq ?_
   refine wp_cond_split (hst.bool 4 rfl) (fun hc2=>?_) (fun hc2=>?_)
   ·replace H1:=Z2 hc2 H1
    refine wp_skip ?_
    refine Zy ?_
    refine wp_seq ?_
    refine wp_block ?_
    refine r_s (L:=[(1,_),(2,_),(8,_),(9,_)]) (T:=[⟨[.o 3],_,[],[],[11]⟩,⟨[.p 0 0],_,[],[0],[5]⟩]) (F:=[.o 0,.o 1,.p 1 0,.o 2,.o 3]) (hst.pick [0,1,2,3] rfl) hb Zb
     (Qm rfl u_0<|Qa rfl u_0<|o_n) (fun a g hst hb=>?_)
    obtain ⟨b3,h4,H1⟩:=Zg H1
    refine r_s (T:=[⟨[.o 1],_,[],[],[12]⟩,⟨[.p 0 0],_,[],[0],[13]⟩,⟨[.o 2],_,[],[],[14]⟩,⟨[.p 1 0,.p 2 0],_,[],[0,1,2],[15]⟩,⟨[.o 0],_,[],[],[16]⟩,⟨[.p 3 0,.p 4 0],_,[],Lr 5,[17]⟩]) (F:=[.o 0,.o 1,.o 3,.o 4,.p 5 0]) hst hb Zb
     (Qf rfl Zql u_0<|Ql rfl ty_9 u_0<|Qm rfl u_0<|o_p rfl (Zwm Tryd.underlying9 rfl rfl u_0 u_1 h4)<|Qm rfl u_0<|o_p rfl (Zbq rfl rfl u_0 u_1)<|o_n) (fun a g hst hb=>?_)
    refine wp_cond_split (hst.bool 4 rfl) (fun hc5=>?_) (fun hc5=>?_)
    ·replace H1:=Z2 hc5 H1
     refine r_s (L:=[]) (T:=[⟨[],_,[],[],[4]⟩]) (F:=[.p 0 0]) (hst.pick [] rfl) hb Zb
      (Qa rfl c_b<|o_n) (fun a g hst hb=>?_)
     refine wp_ret ?_
     refine Zx ?_
     refine Zp ?_
     refine Zp ?_
     refine Zx ?_
     refine Zp ?_
     refine Zp ?_
     obtain rfl:=Option.some.inj H1
     obtain rfl:=Option.some.inj H0
     exact Zz rfl hst hb (Zi (s:=4)) (hst.at 0 rfl)
    ·replace H1:=Z3 hc5 H1
     refine wp_skip ?_
     refine Zb7 ?_
     refine Zy ?_
     refine r_g (L:=[(1,_),(2,_),(8,_),(9,_)]) (T:=[⟨[.o 3],_,[],[],[18]⟩,⟨[.p 0 0],_,[],[0],[9]⟩]) (F:=[.o 0,.o 1,.o 2,.p 1 0]) (hst.pick [0,1,2,3] rfl) hb Zb
      (o_p rfl (Zcv rfl rfl u_0 c_i rfl)<|Qm rfl u_0<|o_n) (fun a g hst hb=>?_)
     exact ⟨n,Nat.lt_succ_self _,(IntKind.i64.wrap (x1 + (1:Int))),g,rfl,(hst.pick [0,1,2,3] rfl),hb,H1⟩
   ·replace H1:=Z3 hc2 H1
    refine wp_exit ?_
    refine Zcu ?_
    refine Zcu ?_
    refine Zd5 ?_
    exact ⟨g,rfl,(hst.pick [] rfl),hb,Option.some.inj H1⟩
theorem Zpm (a0:Zm) (a1:Zb0) {r:Bool} (h:Zj4 a0 a1=some r):FnOk Tryd.prog 22 [(Zq.pd a0),(Zcb.pd a1)] (Z1 r):=by
 have H0:=h
 unfold Zj4 at H0
 clear h
 refine Zbv (N:=40) Tryd.func22 rfl rfl (Qe rfl) rfl rfl (fun a g0 hst hb=>?_)
 refine r_s (T:=[⟨[.o 0],_,[],[],[2]⟩,⟨[.o 1],_,[],[],[3]⟩,⟨[],_,[],[],[4]⟩]) (F:=[.p 0 0,.p 1 0]) hst hb Zb
  (Qb rfl u_0<|Qb rfl u_0<|Qa rfl c_b<|o_n) (fun a g hst hb=>?_)
 obtain ⟨r1,h2,H0⟩:=Zg H0;obtain ⟨r3,h4,H0⟩:=Zg H0;obtain ⟨r5,h6,H0⟩:=Zg H0;obtain ⟨r7,h8,H0⟩:=Zg H0;obtain ⟨r9,h10,H0⟩:=Zg H0;obtain ⟨r11,h12,H0⟩:=Zg H0
 refine r_s (T:=⟨[.o 1],_,[],[],[5]⟩ :: ⟨[.p 0 0],_,[],[0],[6]⟩ :: ⟨[.p 1 0],_,[],[0,1],[7]⟩ :: ⟨[.p 2 0,.o 0],_,[],[0,1,2],[8]⟩ :: ⟨[.p 2 0,.p 3 0],_,[],Lr 4,[9]⟩ :: ⟨[.p 2 0,.p 4 0],_,[],Lr 5,[10]⟩ :: ⟨[.p 2 0,.p 5 0],_,[],Lr 6,[11]⟩ :: ⟨[.p 6 0],_,[],Lr 7,[12]⟩ :: ⟨[.p 7 0,.o 1],_,[],Lr 8,[13]⟩ :: ⟨[.p 7 0,.p 8 0],_,[],Lr 9,[14]⟩ :: ⟨[.p 7 0,.p 9 0],_,[],Lr 10,[15]⟩ :: ⟨[.p 10 0,.o 0],_,[],Lr 11,[16]⟩ :: ⟨[.p 10 0,.p 11 0],_,[],Lr 12,[17]⟩ :: ⟨[.p 10 0,.p 12 0],_,[],Lr 13,[18]⟩ :: ⟨[.p 7 0,.p 10 0,.p 13 0],_,[],Lr 14,[19]⟩ :: ⟨[.p 7 0,.p 14 0],_,[],Lr 15,[20]⟩ :: ⟨[.p 15 0],_,[],Lr 16,[21]⟩ :: ⟨[.p 16 0,.o 1],_,[],Lr 17,[22]⟩ :: ⟨[.p 16 0,.p 17 0],_,[],Lr 18,[23]⟩ :: ⟨[.p 16 0,.p 18 0],_,[],Lr 19,[24]⟩ :: ⟨[.p 19 0,.o 0],_,[],Lr 20,[25]⟩ :: ⟨[.p 19 0,.p 20 0],_,[],Lr 21,[26]⟩ :: ⟨[.p 19 0,.p 21 0],_,[],Lr 22,[27]⟩ :: ⟨[.p 16 0,.p 19 0,.p 22 0],_,[],Lr 23,[28]⟩ :: ⟨[.p 16 0,.p 23 0],_,[],Lr 24,[29]⟩ :: ⟨[.p 24 0],_,[],Lr 25,[30]⟩ :: ⟨[.p 25 0,.o 1],_,[],Lr 26,[31]⟩ :: ⟨[.p 25 0,.p 26 0],_,[],Lr 27,[32]⟩ :: ⟨[.p 25 0,.p 27 0],_,[],Lr 28,[33]⟩ :: ⟨[.p 28 0,.o 0],_,[],Lr 29,[34]⟩ :: ⟨[.p 28 0,.p 29 0],_,[],Lr 30,[35]⟩ :: ⟨[.p 28 0],_,[],Lr 29,[36]⟩ :: ⟨[.p 28 0,.p 30 0,.p 31 0],_,[],Lr 32,[37]⟩ :: ⟨[.p 25 0,.p 28 0,.p 32 0],_,[],Lr 33,[38]⟩ :: ⟨[.p 25 0,.p 33 0],_,[],Lr 34,[39]⟩ :: ⟨[.p 34 0],_,[],Lr 35,[4]⟩ :: []) (F:=[.p 35 0]) hst hb Zb
  (Ql rfl Zgz u_0<|o_p rfl (Zr Zoh (Zfk _ _ h2) rfl rfl (.cons u_0 (.cons c_i .nil)))<|Qm rfl u_0<|o_g (Qg_f rfl (fun hG=>Zh Zd7 rfl rfl u_0))<|o_g (Qg_f rfl (fun hG=>Zo ty_2 rfl rfl (Opd.gd hG u_0)))<|o_g (Qg_f rfl (fun hG=>Zbq rfl rfl (Opd.gd hG u_0) c_i))<|o_p rfl (Zb3 rfl rfl u_0 (fun hz=>(Opd.gd (bNF hz) u_1)))<|Qm rfl u_0<|o_g (Qg_t rfl (fun hG=>Zo Zgz rfl rfl u_0))<|o_g (Qg_t rfl (fun hG=>Zr Zoh (Zfk _ _ (Zbx h4 hG)) rfl rfl (.cons (Opd.gd hG u_0) (.cons c_i .nil))))<|o_g (Qg_t rfl (fun hG=>Zbc rfl rfl (Opd.gd hG u_0)))<|o_g (Qg_fi rfl (fun hG=>Zh Zla rfl rfl u_0))<|o_g (Qg_fi rfl (fun hG=>Zo Zdo rfl rfl (Opd.gd hG u_0)))<|o_g (Qg_fi rfl (fun hG=>Zr Zk6 (Zf4 _ _ (Zbx h6 hG)) rfl rfl (.cons (Opd.gd hG u_0) (.cons c_f .nil))))<|o_g (Qg_t rfl (fun hG=>Zb3 rfl rfl (Opd.gd hG u_0) (fun hz=>(Opd.gd (bA hG (bNF hz)) u_1))))<|o_p rfl (Zbh rfl rfl u_0 (fun hz=>(Opd.gd hz u_1)))<|Qm rfl u_0<|o_g (Qg_t rfl (fun hG=>Zo Zgz rfl rfl u_0))<|o_g (Qg_t rfl (fun hG=>Zr Zoh (Zfk _ _ (Zbx h8 hG)) rfl rfl (.cons (Opd.gd hG u_0) (.cons c_i .nil))))<|o_g (Qg_t rfl (fun hG=>Zbc rfl rfl (Opd.gd hG u_0)))<|o_g (Qg_fi rfl (fun hG=>Zh Zf3 rfl rfl u_0))<|o_g (Qg_fi rfl (fun hG=>Zo ty_9 rfl rfl (Opd.gd hG u_0)))<|o_g (Qg_fi rfl (fun hG=>Zjj rfl rfl (Opd.gd hG u_0) c_s))<|o_g (Qg_t rfl (fun hG=>Zb3 rfl rfl (Opd.gd hG u_0) (fun hz=>(Opd.gd (bA hG (bNF hz)) u_1))))<|o_p rfl (Zbh rfl rfl u_0 (fun hz=>(Opd.gd hz u_1)))<|Qm rfl u_0<|o_g (Qg_t rfl (fun hG=>Zo Zgz rfl rfl u_0))<|o_g (Qg_t rfl (fun hG=>Zr Zoh (Zfk _ _ (Zbx h10 hG)) rfl rfl (.cons (Opd.gd hG u_0) (.cons c_i .nil))))<|o_g (Qg_t rfl (fun hG=>Zbc rfl rfl (Opd.gd hG u_0)))<|o_g (Qg_fi rfl (fun hG=>Zh Zio rfl rfl u_0))<|o_g (Qg_fi rfl (fun hG=>Zo Zck rfl rfl (Opd.gd hG u_0)))<|o_g (Qg_fi rfl (fun hG=>Zmi rfl rfl ))<|o_g (Qg_fi rfl (fun hG=>Zr Zva (Zlr _ _ (Zbx h12 hG)) rfl rfl (.cons (Opd.gd hG u_0) (.cons (Opd.gd hG u_1) .nil))))<|o_g (Qg_t rfl (fun hG=>Zb3 rfl rfl (Opd.gd hG u_0) (fun hz=>(Opd.gd (bA hG (bNF hz)) u_1))))<|o_p rfl (Zbh rfl rfl u_0 (fun hz=>(Opd.gd hz u_1)))<|Qa rfl u_0<|o_n) (fun a g hst hb=>?_)
 refine wp_ret ?_
 obtain rfl:=Option.some.inj H0
 exact Zz rfl hst hb (Zi (s:=4)) (hst.at 0 rfl)
theorem Zpq (a0:Zb0) {r:Int} (h:Zjy a0=some r):FnOk Tryd.prog 23 [(Zcb.pd a0)] (pInt .i64 r):=by
 have H0:=h
 unfold Zjy at H0
 clear h
 refine Zbv (N:=6) Tryd.func23 rfl rfl (Qe rfl) rfl rfl (fun a g0 hst hb=>?_)
 refine r_s (T:=[⟨[.o 0],_,[],[],[1]⟩,⟨[],_,[],[],[2]⟩]) (F:=[.p 0 0]) hst hb Zb
  (Qb rfl u_0<|Qa rfl c_i<|o_n) (fun a g hst hb=>?_)
 refine wp_seq ?_
 refine r_s (T:=[⟨[.o 0],_,[],[],[3]⟩,⟨[.p 0 0],_,[],[0],[4]⟩,⟨[.p 1 0],_,[],[0,1],[5]⟩]) (F:=[.p 2 0]) hst hb Zb
  (Qf rfl Zqy u_0<|Ql rfl ty_3 u_0<|o_p rfl (Zbq rfl rfl u_0 c_i)<|o_n) (fun a g hst hb=>?_)
 refine wp_cond_split (hst.bool 0 rfl) (fun hc1=>?_) (fun hc1=>?_)
 ·replace H0:=Z2 hc1 H0
  refine r_s (L:=[]) (T:=[⟨[],_,[],[],[2]⟩]) (F:=[.p 0 0]) (hst.pick [] rfl) hb Zb
   (Qa rfl c_i<|o_n) (fun a g hst hb=>?_)
  refine wp_ret ?_
  refine Zp ?_
  obtain rfl:=Option.some.inj H0
  exact Zz rfl hst hb (Zi (s:=2)) (hst.at 0 rfl)
 ·replace H0:=Z3 hc1 H0
  refine wp_skip ?_
  refine Zy ?_
  refine r_s (L:=[]) (T:=[⟨[],_,[],[],[2]⟩]) (F:=[.p 0 0]) (hst.pick [] rfl) hb Zb
   (Qa rfl c_i<|o_n) (fun a g hst hb=>?_)
  refine wp_ret ?_
  obtain rfl:=Option.some.inj H0
  exact Zz rfl hst hb (Zi (s:=2)) (hst.at 0 rfl)
theorem Zok (a0:Zm) {r:Int} (h:Ze8 a0=some r):FnOk Tryd.prog 15 [(Zq.pd a0)] (pInt .i64 r):=by
 have H0:=h
 unfold Ze8 at H0
 clear h
 refine Zbv (N:=64) Tryd.func15 rfl rfl (Qe rfl) rfl rfl (fun a g0 hst hb=>?_)
 refine r_s (T:=[⟨[.o 0],_,[],[],[1]⟩,⟨[],_,[],[],[2]⟩]) (F:=[.p 0 0]) hst hb Zb
  (Qb rfl u_0<|Qa rfl c_i<|o_n) (fun a g hst hb=>?_)
 obtain ⟨r1,h2,H0⟩:=Zg H0
 refine r_s (T:=[⟨[.o 0],_,[],[],[4]⟩,⟨[.p 0 0],_,[],[0],[5]⟩,⟨[.p 1 0],_,[],[0,1],[6]⟩,⟨[],[(3,(pBox Zcb 3 (default:Zb0)))],[4],[],[3]⟩,⟨[.p 2 0,.p 3 0],_,[4],Lr 4,[3]⟩]) (F:=[.o 0,.p 4 0]) hst hb Zb
  (Qf rfl Zfp u_0<|Ql rfl ty_3 u_0<|o_p rfl (Zr Zvl (Znq _ h2) rfl rfl (.cons u_0 .nil))<|o_p rfl (Zby (zs:=[.string ByteArray.empty,.int .i64 0,.string ByteArray.empty]) (by kernel_rfl) (fun g=>Zlu g) rfl rfl)<|o_p rfl (Zda Zgz rfl rfl u_1 u_0)<|o_n) (fun a g hst hb=>?_)
 refine wp_seq ?_
 refine wp_block ?_
 refine r_s (T:=[⟨[.o 1],_,[],[],[8]⟩,⟨[.p 0 0],_,[],[0],[9]⟩,⟨[.p 1 0],_,[],[0,1],[10]⟩,⟨[.p 2 0],_,[],[0,1,2],[7]⟩]) (F:=[.o 0,.o 1,.p 3 0]) hst hb Zb
  (Qf rfl Zvr u_0<|Ql rfl ty_9 u_0<|o_p rfl (Zjj rfl rfl u_0 c_s)<|Qa rfl u_0<|o_n) (fun a g hst hb=>?_)
 refine wp_cond_split (hst.bool 2 rfl) (fun hc3=>?_) (fun hc3=>?_)
 ·replace H0:=Z2 hc3 H0
  refine r_s (L:=[]) (T:=[⟨[],_,[],[],[2]⟩]) (F:=[.p 0 0]) (hst.pick [] rfl) hb Zb
   (Qa rfl c_i<|o_n) (fun a g hst hb=>?_)
  refine wp_ret ?_
  refine Zx ?_
  refine Zp ?_
  obtain rfl:=Option.some.inj H0
  exact Zz rfl hst hb (Zi (s:=2)) (hst.at 0 rfl)
 ·replace H0:=Z3 hc3 H0
  refine r_s (L:=[(1,_),(3,_)]) (T:=[⟨[.o 0],_,[],[],[12]⟩,⟨[.p 0 0],_,[],[0],[13]⟩,⟨[.p 1 0],_,[],[0,1],[14]⟩,⟨[.p 2 0],_,[],[0,1,2],[15]⟩,⟨[.p 3 0,.o 0],_,[],Lr 4,[16]⟩,⟨[.p 3 0,.p 4 0],_,[],Lr 5,[17]⟩,⟨[.p 3 0,.p 5 0],_,[],Lr 6,[18]⟩,⟨[.p 3 0,.p 6 0],_,[],Lr 7,[19]⟩,⟨[.p 3 0,.p 7 0],_,[],Lr 8,[20]⟩,⟨[.p 8 0],_,[],Lr 9,[11]⟩]) (F:=[.o 0,.o 1,.p 9 0]) (hst.pick [0,1] rfl) hb Zb
   (Qf rfl Zm6 u_0<|Ql rfl ty_9 u_0<|o_p rfl (Zjj rfl rfl u_0 c_s)<|Qm rfl u_0<|o_g (Qg_f rfl (fun hG=>Zh Zm6 rfl rfl u_0))<|o_g (Qg_f rfl (fun hG=>Zo ty_9 rfl rfl (Opd.gd hG u_0)))<|o_g (Qg_f rfl (fun hG=>Zgq Tryd.underlying9 rfl rfl (Opd.gd hG u_0)))<|o_g (Qg_f rfl (fun hG=>Zc6 rfl rfl (Opd.gd hG u_0) c_i))<|o_p rfl (Zb3 rfl rfl u_0 (fun hz=>(Opd.gd (bNF hz) u_1)))<|Qa rfl u_0<|o_n) (fun a g hst hb=>?_)
  refine wp_cond_split (hst.bool 2 rfl) (fun hc4=>?_) (fun hc4=>?_)
  ·replace H0:=Z2 hc4 H0
   refine r_s (L:=[]) (T:=[⟨[],_,[],[],[2]⟩]) (F:=[.p 0 0]) (hst.pick [] rfl) hb Zb
    (Qa rfl c_i<|o_n) (fun a g hst hb=>?_)
   refine wp_ret ?_
   refine Zx ?_
   refine Zp ?_
   obtain rfl:=Option.some.inj H0
   exact Zz rfl hst hb (Zi (s:=2)) (hst.at 0 rfl)
  ·replace H0:=Z3 hc4 H0
   obtain ⟨r5,h6,H0⟩:=Zg H0
   refine r_s (L:=[(1,_),(3,_)]) (T:=[⟨[.o 0],_,[],[],[22]⟩,⟨[.o 1],_,[],[],[23]⟩,⟨[.p 0 0,.p 1 0],_,[],[0,1],[24]⟩,⟨[.p 2 0],_,[],[0,1,2],[25]⟩,⟨[.p 3 0],_,[],Lr 4,[21]⟩]) (F:=[.o 0,.o 1,.p 4 0]) (hst.pick [0,1] rfl) hb Zb
    (Ql rfl Zhj u_0<|Ql rfl Zgz u_0<|o_p rfl (Zr Zyz (Zpm _ _ h6) rfl rfl (.cons u_0 (.cons u_1 .nil)))<|Qn rfl u_0<|Qa rfl u_0<|o_n) (fun a g hst hb=>?_)
   refine wp_cond_split (hst.bool 2 rfl) (fun hc7=>?_) (fun hc7=>?_)
   ·replace H0:=Z2 hc7 H0
    refine r_s (L:=[]) (T:=[⟨[],_,[],[],[2]⟩]) (F:=[.p 0 0]) (hst.pick [] rfl) hb Zb
     (Qa rfl c_i<|o_n) (fun a g hst hb=>?_)
    refine wp_ret ?_
    refine Zx ?_
    refine Zp ?_
    obtain rfl:=Option.some.inj H0
    exact Zz rfl hst hb (Zi (s:=2)) (hst.at 0 rfl)
   ·replace H0:=Z3 hc7 H0
    obtain ⟨r8,h9,H0⟩:=Zg H0
    refine r_s (L:=[(1,_),(3,_)]) (T:=[⟨[.o 0],_,[],[],[27]⟩,⟨[.p 0 0],_,[],[0],[28]⟩,⟨[.p 1 0],_,[],[0,1],[29]⟩,⟨[.o 1],_,[],[],[30]⟩,⟨[.p 3 0],_,[],[3],[31]⟩,⟨[.p 2 0,.p 4 0],_,[],Lr 5,[32]⟩,⟨[.p 5 0],_,[],Lr 6,[26]⟩]) (F:=[.o 0,.p 6 0]) (hst.pick [0,1] rfl) hb Zb
     (Qf rfl Zf3 u_0<|Ql rfl ty_9 u_0<|o_p rfl (Zgq Tryd.underlying9 rfl rfl u_0)<|Ql rfl Zgz u_0<|o_p rfl (Zr Zzo (Zpq _ h9) rfl rfl (.cons u_0 .nil))<|o_p rfl (Zc6 rfl rfl u_0 u_1)<|Qa rfl u_0<|o_n) (fun a g hst hb=>?_)
    refine wp_cond_split (hst.bool 1 rfl) (fun hc10=>?_) (fun hc10=>?_)
    ·replace H0:=Z2 hc10 H0
     refine r_s (L:=[]) (T:=[⟨[],_,[],[],[2]⟩]) (F:=[.p 0 0]) (hst.pick [] rfl) hb Zb
      (Qa rfl c_i<|o_n) (fun a g hst hb=>?_)
     refine wp_ret ?_
     refine Zx ?_
     refine Zp ?_
     obtain rfl:=Option.some.inj H0
     exact Zz rfl hst hb (Zi (s:=2)) (hst.at 0 rfl)
    ·replace H0:=Z3 hc10 H0
     refine r_s (L:=[(1,_)]) (T:=⟨[.o 0],_,[],[],[34]⟩ :: ⟨[.p 0 0],_,[],[0],[35]⟩ :: ⟨[.p 1 0],_,[],[0,1],[36]⟩ :: ⟨[.p 2 0],_,[],[0,1,2],[37]⟩ :: ⟨[.p 3 0,.o 0],_,[],Lr 4,[38]⟩ :: ⟨[.p 3 0,.p 4 0],_,[],Lr 5,[39]⟩ :: ⟨[.p 3 0,.p 5 0],_,[],Lr 6,[40]⟩ :: ⟨[.p 3 0,.p 6 0],_,[],Lr 7,[41]⟩ :: ⟨[.p 7 0],_,[],Lr 8,[42]⟩ :: ⟨[.p 8 0,.o 0],_,[],Lr 9,[43]⟩ :: ⟨[.p 8 0,.p 9 0],_,[],Lr 10,[44]⟩ :: ⟨[.p 8 0,.p 10 0],_,[],Lr 11,[45]⟩ :: ⟨[.p 8 0,.p 11 0],_,[],Lr 12,[46]⟩ :: ⟨[.p 12 0,.o 0],_,[],Lr 13,[47]⟩ :: ⟨[.p 12 0,.p 13 0],_,[],Lr 14,[48]⟩ :: ⟨[.p 12 0,.p 14 0],_,[],Lr 15,[49]⟩ :: ⟨[.p 8 0,.p 12 0,.p 15 0],_,[],Lr 16,[50]⟩ :: ⟨[.p 8 0,.p 16 0],_,[],Lr 17,[51]⟩ :: ⟨[.p 17 0],_,[],Lr 18,[33]⟩ :: []) (F:=[.o 0,.p 18 0]) (hst.pick [0] rfl) hb Zb
      (Qf rfl Zfp u_0<|Ql rfl ty_3 u_0<|o_p rfl (Zbq rfl rfl u_0 c_i)<|Qm rfl u_0<|o_g (Qg_f rfl (fun hG=>Zh Zfp rfl rfl u_0))<|o_g (Qg_f rfl (fun hG=>Zo ty_3 rfl rfl (Opd.gd hG u_0)))<|o_g (Qg_f rfl (fun hG=>Zbq rfl rfl (Opd.gd hG u_0) c_i))<|o_p rfl (Zb3 rfl rfl u_0 (fun hz=>(Opd.gd (bNF hz) u_1)))<|Qm rfl u_0<|o_g (Qg_t rfl (fun hG=>Zh Zd7 rfl rfl u_0))<|o_g (Qg_t rfl (fun hG=>Zo ty_2 rfl rfl (Opd.gd hG u_0)))<|o_g (Qg_t rfl (fun hG=>Zdp rfl rfl (Opd.gd hG u_0) c_i))<|o_g (Qg_t rfl (fun hG=>Zbc rfl rfl (Opd.gd hG u_0)))<|o_g (Qg_fi rfl (fun hG=>Zh Zd7 rfl rfl u_0))<|o_g (Qg_fi rfl (fun hG=>Zo ty_2 rfl rfl (Opd.gd hG u_0)))<|o_g (Qg_fi rfl (fun hG=>Zc6 rfl rfl (Opd.gd hG u_0) c_i))<|o_g (Qg_t rfl (fun hG=>Zb3 rfl rfl (Opd.gd hG u_0) (fun hz=>(Opd.gd (bA hG (bNF hz)) u_1))))<|o_p rfl (Zbh rfl rfl u_0 (fun hz=>(Opd.gd hz u_1)))<|Qa rfl u_0<|o_n) (fun a g hst hb=>?_)
     refine wp_cond_split (hst.bool 1 rfl) (fun hc11=>?_) (fun hc11=>?_)
     ·replace H0:=Z2 hc11 H0
      refine r_s (L:=[]) (T:=[⟨[],_,[],[],[2]⟩]) (F:=[.p 0 0]) (hst.pick [] rfl) hb Zb
       (Qa rfl c_i<|o_n) (fun a g hst hb=>?_)
      refine wp_ret ?_
      refine Zx ?_
      refine Zp ?_
      obtain rfl:=Option.some.inj H0
      exact Zz rfl hst hb (Zi (s:=2)) (hst.at 0 rfl)
     ·replace H0:=Z3 hc11 H0
      obtain ⟨r12,h13,H0⟩:=Zg H0
      refine r_s (L:=[(1,_)]) (T:=[⟨[.o 0],_,[],[],[53]⟩,⟨[.p 0 0],_,[],[0],[54]⟩,⟨[.p 1 0],_,[],[0,1],[55]⟩,⟨[.p 2 0],_,[],[0,1,2],[56]⟩,⟨[.p 3 0],_,[],Lr 4,[52]⟩]) (F:=[.o 0,.p 4 0]) (hst.pick [0] rfl) hb Zb
       (Qf rfl Zla u_0<|Ql rfl Zdo u_0<|o_p rfl (Zr Zq4 (Zij _ h13) rfl rfl (.cons u_0 .nil))<|Qn rfl u_0<|Qa rfl u_0<|o_n) (fun a g hst hb=>?_)
      refine wp_cond_split (hst.bool 1 rfl) (fun hc14=>?_) (fun hc14=>?_)
      ·replace H0:=Z2 hc14 H0
       refine r_s (L:=[]) (T:=[⟨[],_,[],[],[2]⟩]) (F:=[.p 0 0]) (hst.pick [] rfl) hb Zb
        (Qa rfl c_i<|o_n) (fun a g hst hb=>?_)
       refine wp_ret ?_
       refine Zx ?_
       refine Zp ?_
       obtain rfl:=Option.some.inj H0
       exact Zz rfl hst hb (Zi (s:=2)) (hst.at 0 rfl)
      ·replace H0:=Z3 hc14 H0
       refine r_s (L:=[(1,_)]) (T:=[⟨[.o 0],_,[],[],[58]⟩,⟨[.p 0 0],_,[],[0],[59]⟩,⟨[.p 1 0],_,[],[0,1],[60]⟩,⟨[.p 2 0],_,[],[0,1,2],[57]⟩]) (F:=[.o 0,.p 3 0]) (hst.pick [0] rfl) hb Zb
        (Qf rfl Zfp u_0<|Ql rfl ty_3 u_0<|o_p rfl (Zbq rfl rfl u_0 c_i)<|Qa rfl u_0<|o_n) (fun a g hst hb=>?_)
       refine wp_cond_split (hst.bool 1 rfl) (fun hc15=>?_) (fun hc15=>?_)
       ·replace H0:=Z2 hc15 H0
        obtain ⟨r16,h17,H0⟩:=Zg H0
        refine r_s (L:=[(1,_)]) (T:=[⟨[.o 0],_,[],[],[61]⟩,⟨[.p 0 0],_,[],[0],[62]⟩,⟨[.p 1 0],_,[],[0,1],[63]⟩,⟨[.p 2 0],_,[],[0,1,2],[2]⟩]) (F:=[.p 3 0]) (hst.pick [0] rfl) hb Zb
         (Qf rfl Zio u_0<|Ql rfl Zck u_0<|o_p rfl (Zr Zu6 (Zkv _ h17) rfl rfl (.cons u_0 .nil))<|Qa rfl u_0<|o_n) (fun a g hst hb=>?_)
        refine wp_ret ?_
        refine Zx ?_
        refine Zp ?_
        obtain rfl:=Option.some.inj H0
        exact Zz rfl hst hb (Zi (s:=2)) (hst.at 0 rfl)
       ·replace H0:=Z3 hc15 H0
        refine wp_skip ?_
        refine Zb7 ?_
        refine Zy ?_
        refine r_s (L:=[]) (T:=[⟨[],_,[],[],[2]⟩]) (F:=[.p 0 0]) (hst.pick [] rfl) hb Zb
         (Qa rfl c_i<|o_n) (fun a g hst hb=>?_)
        refine wp_ret ?_
        obtain rfl:=Option.some.inj H0
        exact Zz rfl hst hb (Zi (s:=2)) (hst.at 0 rfl)
theorem Zrz (a0:Int) {r:Int} (h:Zjp a0=some r):FnOk Tryd.prog 17 [(pInt .i64 a0)] (pInt .i64 r):=by
 have H0:=h
 unfold Zjp at H0
 clear h
 refine Zbv (N:=6) Tryd.func17 rfl rfl (Qe rfl) rfl rfl (fun a g0 hst hb=>?_)
 refine r_s (T:=[⟨[],_,[],[],[2]⟩]) (F:=[.o 0]) hst hb Zb
  (Qa rfl c_i<|o_n) (fun a g hst hb=>?_)
 obtain ⟨r1,h2,H0⟩:=Zg H0
 refine r_s (T:=[⟨[.o 0],_,[],[],[3]⟩,⟨[.p 0 0],_,[],[0],[4]⟩,⟨[.p 1 0],_,[],[0,1],[5]⟩,⟨[.p 2 0],_,[],[0,1,2],[2]⟩]) (F:=[.p 3 0]) hst hb Zb
  (Qm rfl u_0<|o_p rfl (Zr Zvl (Znq _ h2) rfl rfl (.cons u_0 .nil))<|o_p rfl (Zud Zqy rfl rfl u_0)<|Qa rfl u_0<|o_n) (fun a g hst hb=>?_)
 refine wp_ret ?_
 obtain rfl:=Option.some.inj H0
 exact Zz rfl hst hb (Zi (s:=2)) (hst.at 0 rfl)
theorem Zlg (a0:Za) (a1:Zm) (a2:Zd) {r:Int × Za × Zd} (h:Zgm a0 a1 a2=some r):FnB Tryd.prog 28 [.box Ze a0 r.2.1,.val (Zq.pd a1),.box Zn a2 r.2.2] (pInt .i64 r.1):=by
 have H0:=h
 unfold Zgm at H0
 clear h
 refine Zfn (N:=12) Tryd.func28 rfl rfl (Qe rfl) rfl rfl (fun a g0 bs hbs hst hb=>?_)
 obtain ⟨b0,b2,rfl⟩:=Zg0 hbs
 replace hst:St 12 [(0,(Z9 (some b0) Ze 0 a0)),(1,(Zq.pd a1)),(2,(Z9 (some b2) Zn 2 a2))] _ _:=hst
 refine r_s (T:=[⟨[.o 1],_,[],[],[4]⟩,⟨[],_,[],[],[6]⟩]) (F:=[.o 0,.o 2,.p 0 0]) hst hb Zb
  (Qb rfl u_0<|Qa rfl c_i<|o_n) (fun a g hst hb=>?_)
 refine r_s (T:=[⟨[.o 0],_,[],[],[7]⟩,⟨[.o 2],_,[],[],[8]⟩,⟨[.p 1 0],_,[],[1],[9]⟩,⟨[.p 0 0],_,[],[0,1,2],[10]⟩,⟨[.p 3 0],_,[],Lr 4,[11]⟩,⟨[.p 2 0,.p 4 0,.o 0],_,[1],Lr 5,[0,7,10,11]⟩]) (F:=[.p 5 0,.o 1]) hst hb Zb
  (Qm rfl u_0<|Qf rfl Zf3 u_0<|Ql rfl ty_9 u_0<|o_p rfl (Z4 rfl rfl u_0 (fun _ _ ⟨_,_,_,e,_⟩=>⟨_,e⟩))<|o_p rfl (Zs Zo5 (off:=6) (by kernel_rfl) rfl rfl u_0)<|o_p rfl (Zpb ty_9 rfl rfl u_2 u_1 u_0)<|o_n) (fun a g hst hb=>?_)
 refine r_s (T:=[⟨[],_,[],[],[6]⟩]) (F:=[.o 0,.o 1,.p 0 0]) hst hb Zb
  (Qa rfl c_i<|o_n) (fun a g hst hb=>?_)
 refine wp_ret ?_
 obtain rfl:=Option.some.inj H0
 exact Zea rfl hst hb (Zi (s:=6)) (hst.at 2 rfl) ⟨Zbl (hst.at 0 rfl),Zbl (hst.at 1 rfl),trivial⟩
theorem Zln (a0:Za) (a1:Zm) (a2:Zd) {r:Int × Za × Zd} (h:Zeq a0 a1 a2=some r):FnB Tryd.prog 29 [.box Ze a0 r.2.1,.val (Zq.pd a1),.box Zn a2 r.2.2] (pInt .i64 r.1):=by
 have H0:=h
 unfold Zeq at H0
 clear h
 refine Zfn (N:=19) Tryd.func29 rfl rfl (Qe rfl) rfl rfl (fun a g0 bs hbs hst hb=>?_)
 obtain ⟨b0,b2,rfl⟩:=Zg0 hbs
 replace hst:St 19 [(0,(Z9 (some b0) Ze 0 a0)),(1,(Zq.pd a1)),(2,(Z9 (some b2) Zn 2 a2))] _ _:=hst
 refine r_s (T:=[⟨[.o 1],_,[],[],[4]⟩,⟨[],_,[],[],[6]⟩]) (F:=[.o 0,.o 2,.p 0 0]) hst hb Zb
  (Qb rfl u_0<|Qa rfl c_i<|o_n) (fun a g hst hb=>?_)
 obtain ⟨r1,h2,H0⟩:=Zg H0
 refine r_s (T:=[⟨[.o 1],_,[],[],[7]⟩,⟨[.o 0],_,[],[],[8]⟩,⟨[.p 1 0],_,[],[1],[9]⟩,⟨[.p 2 0],_,[],[1,2],[10]⟩,⟨[.p 3 0],_,[],[1,2,3],[11]⟩,⟨[.p 0 0],_,[],Lr 5,[12]⟩,⟨[.p 5 0],_,[],Lr 6,[13]⟩,⟨[.p 4 0,.p 6 0,.o 1],_,[3],Lr 7,[2,7,12,13]⟩]) (F:=[.o 0,.p 7 0,.o 2]) hst hb Zb
  (Qm rfl u_0<|Qm rfl u_0<|o_p rfl (Z4 rfl rfl u_0 (fun _ _ ⟨_,_,_,e,_⟩=>⟨_,e⟩))<|QM rfl Zbp u_0<|o_p rfl (Zr en_6 (Zey _ h2) rfl rfl (.cons (Opd.wk Zeb u_0) .nil))<|o_p rfl (Z4 rfl rfl u_0 (fun _ _ ⟨_,_,_,e,_⟩=>⟨_,e⟩))<|o_p rfl (Zs Ztn (off:=2) (by kernel_rfl) rfl rfl u_0)<|o_p rfl (Ztl Zbp rfl rfl u_2 u_1 u_0)<|o_n) (fun a g hst hb=>?_)
 refine r_s (T:=[⟨[.o 0],_,[],[],[14]⟩,⟨[.o 2],_,[],[],[15]⟩,⟨[.p 1 0],_,[],[1],[16]⟩,⟨[.p 0 0],_,[],[0,1,2],[17]⟩,⟨[.p 3 0],_,[],Lr 4,[18]⟩,⟨[.p 2 0,.p 4 0,.o 0],_,[1],Lr 5,[0,14,17,18]⟩]) (F:=[.p 5 0,.o 1]) hst hb Zb
  (Qm rfl u_0<|Qf rfl Zf3 u_0<|Ql rfl ty_9 u_0<|o_p rfl (Z4 rfl rfl u_0 (fun _ _ ⟨_,_,_,e,_⟩=>⟨_,e⟩))<|o_p rfl (Zs Zo5 (off:=6) (by kernel_rfl) rfl rfl u_0)<|o_p rfl (Zpb ty_9 rfl rfl u_2 u_1 u_0)<|o_n) (fun a g hst hb=>?_)
 refine r_s (T:=[⟨[],_,[],[],[6]⟩]) (F:=[.o 0,.o 1,.p 0 0]) hst hb Zb
  (Qa rfl c_i<|o_n) (fun a g hst hb=>?_)
 refine wp_ret ?_
 obtain rfl:=Option.some.inj H0
 exact Zea rfl hst hb (Zi (s:=6)) (hst.at 2 rfl) ⟨Zbl (hst.at 0 rfl),Zbl (hst.at 1 rfl),trivial⟩
theorem Zlm (a0:Za) (a1:Zm) (a2:Zd) {r:Int × Za × Zd} (h:Zgr a0 a1 a2=some r):FnB Tryd.prog 30 [.box Ze a0 r.2.1,.val (Zq.pd a1),.box Zn a2 r.2.2] (pInt .i64 r.1):=by
 have H0:=h
 unfold Zgr at H0
 clear h
 refine Zfn (N:=16) Tryd.func30 rfl rfl (Qe rfl) rfl rfl (fun a g0 bs hbs hst hb=>?_)
 obtain ⟨b0,b2,rfl⟩:=Zg0 hbs
 replace hst:St 16 [(0,(Z9 (some b0) Ze 0 a0)),(1,(Zq.pd a1)),(2,(Z9 (some b2) Zn 2 a2))] _ _:=hst
 refine r_s (T:=[⟨[.o 1],_,[],[],[4]⟩,⟨[],_,[],[],[6]⟩]) (F:=[.o 0,.o 2,.p 0 0]) hst hb Zb
  (Qb rfl u_0<|Qa rfl c_i<|o_n) (fun a g hst hb=>?_)
 refine r_s (T:=[⟨[.o 0],_,[],[],[7]⟩,⟨[.p 0 0],_,[],[0],[8]⟩,⟨[.p 1 0],_,[],[0,1],[9]⟩,⟨[.p 2 0],_,[],[0,1,2],[10]⟩,⟨[.o 2],_,[],[],[11]⟩,⟨[.p 4 0],_,[],[4],[12]⟩,⟨[.p 3 0,.p 5 0],_,[],Lr 6,[13]⟩,⟨[.p 0 0],_,[],Lr 7,[14]⟩,⟨[.p 7 0],_,[],Lr 8,[15]⟩,⟨[.p 6 0,.p 8 0,.o 0],_,[1],Lr 9,[0,7,8,9,14,15]⟩]) (F:=[.p 9 0,.o 1]) hst hb Zb
  (Qm rfl u_0<|o_p rfl (Z4 rfl rfl u_0 (fun _ _ ⟨_,_,_,e,_⟩=>⟨_,e⟩))<|o_p rfl (Zs Zdr (off:=1) (by kernel_rfl) rfl rfl u_0)<|QP rfl ty_2 u_0<|Qf rfl Zd7 u_0<|Ql rfl ty_2 u_0<|o_p rfl (Zcv rfl rfl u_0 u_1 rfl)<|o_p rfl (Z4 rfl rfl u_0 (fun _ _ ⟨_,_,_,e,_⟩=>⟨_,e⟩))<|o_p rfl (Zs Zdr (off:=1) (by kernel_rfl) rfl rfl u_0)<|o_p rfl (Zjz ty_2 rfl rfl u_2 u_1 u_0)<|o_n) (fun a g hst hb=>?_)
 refine r_s (T:=[⟨[],_,[],[],[6]⟩]) (F:=[.o 0,.o 1,.p 0 0]) hst hb Zb
  (Qa rfl c_i<|o_n) (fun a g hst hb=>?_)
 refine wp_ret ?_
 obtain rfl:=Option.some.inj H0
 exact Zea rfl hst hb (Zi (s:=6)) (hst.at 2 rfl) ⟨Zbl (hst.at 0 rfl),Zbl (hst.at 1 rfl),trivial⟩
theorem Zpj (a0:Za) (a1:Zm) (a2:Zd) {r:Int × Za × Zd} (h:Zhg a0 a1 a2=some r):FnB Tryd.prog 31 [.box Ze a0 r.2.1,.val (Zq.pd a1),.box Zn a2 r.2.2] (pInt .i64 r.1):=by
 have H0:=h
 unfold Zhg at H0
 clear h
 refine Zfn (N:=44) Tryd.func31 rfl rfl (Qe rfl) rfl rfl (fun a g0 bs hbs hst hb=>?_)
 obtain ⟨b0,b2,rfl⟩:=Zg0 hbs
 replace hst:St 44 [(0,(Z9 (some b0) Ze 0 a0)),(1,(Zq.pd a1)),(2,(Z9 (some b2) Zn 2 a2))] _ _:=hst
 refine r_s (T:=[⟨[.o 1],_,[],[],[4]⟩,⟨[],_,[],[],[6]⟩]) (F:=[.o 0,.o 2,.p 0 0]) hst hb Zb
  (Qb rfl u_0<|Qa rfl c_i<|o_n) (fun a g hst hb=>?_)
 refine wp_seq ?_
 refine r_s (T:=⟨[.o 2],_,[],[],[7]⟩ :: ⟨[.p 0 0],_,[],[0],[8]⟩ :: ⟨[.p 1 0],_,[],[0,1],[9]⟩ :: ⟨[.p 2 0],_,[],[0,1,2],[10]⟩ :: ⟨[.p 3 0,.o 0],_,[],Lr 4,[11]⟩ :: ⟨[.p 3 0,.p 4 0],_,[],Lr 5,[12]⟩ :: ⟨[.p 3 0,.p 5 0],_,[],Lr 6,[13]⟩ :: ⟨[.p 3 0,.p 6 0],_,[],Lr 7,[14]⟩ :: ⟨[.p 3 0,.o 2],_,[],Lr 4,[15]⟩ :: ⟨[.p 3 0,.p 8 0],_,[],[0,1,2,3,8],[16]⟩ :: ⟨[.p 3 0,.p 9 0],_,[],[0,1,2,3,8,9],[17]⟩ :: ⟨[.p 3 0,.p 7 0,.p 10 0],_,[],Lr 11,[18]⟩ :: ⟨[.p 3 0,.p 11 0],_,[],Lr 12,[19]⟩ :: ⟨[.p 12 0],_,[],Lr 13,[20]⟩ :: ⟨[.p 13 0,.o 2],_,[],Lr 14,[21]⟩ :: ⟨[.p 13 0,.p 14 0],_,[],Lr 15,[22]⟩ :: ⟨[.p 13 0,.p 15 0],_,[],Lr 16,[23]⟩ :: ⟨[.p 13 0,.p 16 0],_,[],Lr 17,[24]⟩ :: ⟨[.p 17 0,.o 0],_,[],Lr 18,[25]⟩ :: ⟨[.p 17 0,.p 18 0],_,[],Lr 19,[26]⟩ :: ⟨[.p 17 0,.p 19 0],_,[],Lr 20,[27]⟩ :: ⟨[.p 17 0,.p 20 0],_,[],Lr 21,[28]⟩ :: ⟨[.p 17 0,.o 2],_,[],Lr 18,[29]⟩ :: ⟨[.p 17 0,.p 22 0],_,[],0 :: 1 :: 2 :: 3 :: 4 :: 5 :: 6 :: 7 :: 8 :: 9 :: 10 :: 11 :: 12 :: 13 :: 14 :: 15 :: 16 :: 17 :: 22 :: [],[30]⟩ :: ⟨[.p 17 0,.p 23 0],_,[],0 :: 1 :: 2 :: 3 :: 4 :: 5 :: 6 :: 7 :: 8 :: 9 :: 10 :: 11 :: 12 :: 13 :: 14 :: 15 :: 16 :: 17 :: 22 :: 23 :: [],[31]⟩ :: ⟨[.p 17 0,.p 21 0,.p 24 0],_,[],Lr 25,[32]⟩ :: ⟨[.p 13 0,.p 17 0,.p 25 0],_,[],Lr 26,[33]⟩ :: ⟨[.p 13 0,.p 26 0],_,[],Lr 27,[34]⟩ :: []) (F:=[.o 0,.o 1,.o 2,.p 27 0]) hst hb Zb
  (Qf rfl Zd7 u_0<|Ql rfl ty_2 u_0<|o_p rfl (Zc6 rfl rfl u_0 c_i)<|Qm rfl u_0<|o_g (Qg_t rfl (fun hG=>Zbc rfl rfl u_0))<|o_g (Qg_t rfl (fun hG=>Z4 rfl rfl (Opd.gd hG u_0) (fun _ _ ⟨_,_,_,e,_⟩=>⟨_,e⟩)))<|o_g (Qg_t rfl (fun hG=>Zs Zdr (off:=1) (by kernel_rfl) rfl rfl (Opd.gd hG u_0)))<|o_g (Qg_t rfl (fun hG=>Zix ty_2 rfl rfl (Opd.gd hG u_0)))<|o_g (Qg_t rfl (fun hG=>Zh Zd7 rfl rfl u_0))<|o_g (Qg_t rfl (fun hG=>Zo ty_2 rfl rfl (Opd.gd hG u_0)))<|o_g (Qg_t rfl (fun hG=>Zid rfl rfl c_i (Opd.gd hG u_0) rfl))<|o_g (Qg_t rfl (fun hG=>Zc6 rfl rfl (Opd.gd hG u_0) (Opd.gd hG u_1)))<|o_p rfl (Zbh rfl rfl u_0 (fun hz=>(Opd.gd hz u_1)))<|Qm rfl u_0<|o_g (Qg_f rfl (fun hG=>Zh Zd7 rfl rfl u_0))<|o_g (Qg_f rfl (fun hG=>Zo ty_2 rfl rfl (Opd.gd hG u_0)))<|o_g (Qg_f rfl (fun hG=>Zdp rfl rfl (Opd.gd hG u_0) c_i))<|o_g (Qg_f rfl (fun hG=>Zbc rfl rfl (Opd.gd hG u_0)))<|o_g (Qg_ti rfl (fun hG=>Zbc rfl rfl u_0))<|o_g (Qg_ti rfl (fun hG=>Z4 rfl rfl (Opd.gd hG u_0) (fun _ _ ⟨_,_,_,e,_⟩=>⟨_,e⟩)))<|o_g (Qg_ti rfl (fun hG=>Zs Zdr (off:=1) (by kernel_rfl) rfl rfl (Opd.gd hG u_0)))<|o_g (Qg_ti rfl (fun hG=>Zix ty_2 rfl rfl (Opd.gd hG u_0)))<|o_g (Qg_ti rfl (fun hG=>Zh Zd7 rfl rfl u_0))<|o_g (Qg_ti rfl (fun hG=>Zo ty_2 rfl rfl (Opd.gd hG u_0)))<|o_g (Qg_ti rfl (fun hG=>Zid rfl rfl c_i (Opd.gd hG u_0) rfl))<|o_g (Qg_ti rfl (fun hG=>Zdp rfl rfl (Opd.gd hG u_0) (Opd.gd hG u_1)))<|o_g (Qg_f rfl (fun hG=>Zbh rfl rfl (Opd.gd hG u_0) (fun hz=>(Opd.gd (bA hG hz) u_1))))<|o_p rfl (Zb3 rfl rfl u_0 (fun hz=>(Opd.gd (bNF hz) u_1)))<|o_n) (fun a g hst hb=>?_)
 refine wp_cond_split (hst.bool 3 rfl) (fun hc1=>?_) (fun hc1=>?_)
 ·replace H0:=Z2 hc1 H0
  refine r_s (L:=[(0,_),(2,_)]) (T:=[⟨[],_,[],[],[6]⟩]) (F:=[.o 0,.o 1,.p 0 0]) (hst.pick [0,1] rfl) hb Zb
   (Qa rfl c_i<|o_n) (fun a g hst hb=>?_)
  refine wp_ret ?_
  refine Zp ?_
  obtain rfl:=Option.some.inj H0
  exact Zea rfl hst hb (Zi (s:=6)) (hst.at 2 rfl) ⟨Zbl (hst.at 0 rfl),Zbl (hst.at 1 rfl),trivial⟩
 ·replace H0:=Z3 hc1 H0
  refine wp_skip ?_
  refine Zy ?_
  refine r_s (L:=[(0,_),(2,_),(4,_)]) (T:=[⟨[.o 0],_,[],[],[35]⟩,⟨[.p 0 0],_,[],[0],[36]⟩,⟨[.p 1 0],_,[],[0,1],[37]⟩,⟨[.p 2 0],_,[],[0,1,2],[38]⟩,⟨[.o 2],_,[],[],[39]⟩,⟨[.p 4 0],_,[],[4],[40]⟩,⟨[.p 3 0,.p 5 0],_,[],Lr 6,[41]⟩,⟨[.p 0 0],_,[],Lr 7,[42]⟩,⟨[.p 7 0],_,[],Lr 8,[43]⟩,⟨[.p 6 0,.p 8 0,.o 0],_,[1],Lr 9,[0,35,36,37,42,43]⟩]) (F:=[.p 9 0,.o 1]) (hst.pick [0,1,2] rfl) hb Zb
   (Qm rfl u_0<|o_p rfl (Z4 rfl rfl u_0 (fun _ _ ⟨_,_,_,e,_⟩=>⟨_,e⟩))<|o_p rfl (Zs Zdr (off:=1) (by kernel_rfl) rfl rfl u_0)<|QP rfl ty_2 u_0<|Qf rfl Zd7 u_0<|Ql rfl ty_2 u_0<|o_p rfl (Zcv rfl rfl u_0 u_1 rfl)<|o_p rfl (Z4 rfl rfl u_0 (fun _ _ ⟨_,_,_,e,_⟩=>⟨_,e⟩))<|o_p rfl (Zs Zdr (off:=1) (by kernel_rfl) rfl rfl u_0)<|o_p rfl (Zjz ty_2 rfl rfl u_2 u_1 u_0)<|o_n) (fun a g hst hb=>?_)
  refine r_s (T:=[⟨[],_,[],[],[6]⟩]) (F:=[.o 0,.o 1,.p 0 0]) hst hb Zb
   (Qa rfl c_i<|o_n) (fun a g hst hb=>?_)
  refine wp_ret ?_
  obtain rfl:=Option.some.inj H0
  exact Zea rfl hst hb (Zi (s:=6)) (hst.at 2 rfl) ⟨Zbl (hst.at 0 rfl),Zbl (hst.at 1 rfl),trivial⟩
theorem Zi9 (a0:Za) (a1:Zm) (a2:Zd) {r:Int × Za × Zd} (h:Zd2 a0 a1 a2=some r):FnB Tryd.prog 32 [.box Ze a0 r.2.1,.val (Zq.pd a1),.box Zn a2 r.2.2] (pInt .i64 r.1):=by
 have H0:=h
 unfold Zd2 at H0
 clear h
 refine Zfn (N:=14) Tryd.func32 rfl rfl (Qe rfl) rfl rfl (fun a g0 bs hbs hst hb=>?_)
 obtain ⟨b0,b2,rfl⟩:=Zg0 hbs
 replace hst:St 14 [(0,(Z9 (some b0) Ze 0 a0)),(1,(Zq.pd a1)),(2,(Z9 (some b2) Zn 2 a2))] _ _:=hst
 refine r_s (T:=[⟨[.o 1],_,[],[],[4]⟩,⟨[],_,[],[],[6]⟩]) (F:=[.o 0,.o 2,.p 0 0]) hst hb Zb
  (Qb rfl u_0<|Qa rfl c_i<|o_n) (fun a g hst hb=>?_)
 refine wp_seq ?_
 refine r_s (T:=[⟨[.o 0],_,[],[],[7]⟩,⟨[.p 0 0],_,[],[0],[8]⟩,⟨[.p 1 0],_,[],[0,1],[9]⟩,⟨[.p 2 0],_,[],[0,1,2],[10]⟩,⟨[.o 2],_,[],[],[11]⟩,⟨[.p 4 0],_,[],[4],[12]⟩,⟨[.p 3 0,.p 5 0],_,[],Lr 6,[13]⟩]) (F:=[.o 0,.o 1,.p 6 0]) hst hb Zb
  (Qm rfl u_0<|o_p rfl (Z4 rfl rfl u_0 (fun _ _ ⟨_,_,_,e,_⟩=>⟨_,e⟩))<|o_p rfl (Zs Zdr (off:=1) (by kernel_rfl) rfl rfl u_0)<|QP rfl ty_2 u_0<|Qf rfl Zd7 u_0<|Ql rfl ty_2 u_0<|o_p rfl (Zdp rfl rfl u_0 u_1)<|o_n) (fun a g hst hb=>?_)
 refine wp_cond_split (hst.bool 2 rfl) (fun hc1=>?_) (fun hc1=>?_)
 ·replace H0:=Z2 hc1 H0
  refine r_s (L:=[(0,_),(2,_)]) (T:=[⟨[],_,[],[],[6]⟩]) (F:=[.o 0,.o 1,.p 0 0]) (hst.pick [0,1] rfl) hb Zb
   (Qa rfl c_i<|o_n) (fun a g hst hb=>?_)
  refine wp_ret ?_
  refine Zp ?_
  obtain rfl:=Option.some.inj H0
  exact Zea rfl hst hb (Zi (s:=6)) (hst.at 2 rfl) ⟨Zbl (hst.at 0 rfl),Zbl (hst.at 1 rfl),trivial⟩
 ·replace H0:=Z3 hc1 H0
  refine wp_skip ?_
  refine Zy ?_
  refine r_s (L:=[(0,_),(2,_)]) (T:=[⟨[],_,[],[],[6]⟩]) (F:=[.o 0,.o 1,.p 0 0]) (hst.pick [0,1] rfl) hb Zb
   (Qa rfl c_i<|o_n) (fun a g hst hb=>?_)
  refine wp_ret ?_
  obtain rfl:=Option.some.inj H0
  exact Zea rfl hst hb (Zi (s:=6)) (hst.at 2 rfl) ⟨Zbl (hst.at 0 rfl),Zbl (hst.at 1 rfl),trivial⟩
theorem Zli (a0:Za) (a1:Zm) (a2:Zd) {r:Int × Za × Zd} (h:Zeo a0 a1 a2=some r):FnB Tryd.prog 33 [.box Ze a0 r.2.1,.val (Zq.pd a1),.box Zn a2 r.2.2] (pInt .i64 r.1):=by
 have H0:=h
 unfold Zeo at H0
 clear h
 refine Zfn (N:=28) Tryd.func33 rfl rfl (Qe rfl) rfl rfl (fun a g0 bs hbs hst hb=>?_)
 obtain ⟨b0,b2,rfl⟩:=Zg0 hbs
 replace hst:St 28 [(0,(Z9 (some b0) Ze 0 a0)),(1,(Zq.pd a1)),(2,(Z9 (some b2) Zn 2 a2))] _ _:=hst
 refine r_s (T:=[⟨[.o 1],_,[],[],[4]⟩,⟨[],_,[],[],[6]⟩]) (F:=[.o 0,.o 2,.p 0 0]) hst hb Zb
  (Qb rfl u_0<|Qa rfl c_i<|o_n) (fun a g hst hb=>?_)
 refine wp_seq ?_
 refine r_s (T:=⟨[.o 2],_,[],[],[7]⟩ :: ⟨[.p 0 0],_,[],[0],[8]⟩ :: ⟨[.o 0],_,[],[],[9]⟩ :: ⟨[.p 2 0],_,[],[2],[10]⟩ :: ⟨[.p 3 0],_,[],[2,3],[11]⟩ :: ⟨[.p 4 0],_,[],[2,3,4],[12]⟩ :: ⟨[.o 0],_,[],[],[13]⟩ :: ⟨[.p 6 0],_,[],[6],[14]⟩ :: ⟨[.p 7 0],_,[],[6,7],[15]⟩ :: ⟨[.p 8 0],_,[],[6,7,8],[16]⟩ :: ⟨[.p 5 0,.p 9 0],_,[],List.range' 2 8,[17]⟩ :: ⟨[.p 1 0,.p 10 0],_,[],Lr 11,[18]⟩ :: []) (F:=[.o 0,.o 1,.o 2,.p 11 0]) hst hb Zb
  (Qf rfl Zd7 u_0<|Ql rfl ty_2 u_0<|Qm rfl u_0<|o_p rfl (Z4 rfl rfl u_0 (fun _ _ ⟨_,_,_,e,_⟩=>⟨_,e⟩))<|o_p rfl (Zs Zt4 (off:=3) (by kernel_rfl) rfl rfl u_0)<|QP rfl ty_2 u_0<|Qm rfl u_0<|o_p rfl (Z4 rfl rfl u_0 (fun _ _ ⟨_,_,_,e,_⟩=>⟨_,e⟩))<|o_p rfl (Zs Zdr (off:=1) (by kernel_rfl) rfl rfl u_0)<|QP rfl ty_2 u_0<|o_p rfl (Zid rfl rfl u_0 u_1 rfl)<|o_p rfl (Zc6 rfl rfl u_0 u_1)<|o_n) (fun a g hst hb=>?_)
 refine wp_cond_split (hst.bool 3 rfl) (fun hc1=>?_) (fun hc1=>?_)
 ·replace H0:=Z2 hc1 H0
  refine r_s (L:=[(0,_),(2,_)]) (T:=[⟨[],_,[],[],[6]⟩]) (F:=[.o 0,.o 1,.p 0 0]) (hst.pick [0,1] rfl) hb Zb
   (Qa rfl c_i<|o_n) (fun a g hst hb=>?_)
  refine wp_ret ?_
  refine Zp ?_
  obtain rfl:=Option.some.inj H0
  exact Zea rfl hst hb (Zi (s:=6)) (hst.at 2 rfl) ⟨Zbl (hst.at 0 rfl),Zbl (hst.at 1 rfl),trivial⟩
 ·replace H0:=Z3 hc1 H0
  refine wp_skip ?_
  refine Zy ?_
  refine r_s (L:=[(0,_),(2,_),(4,_)]) (T:=[⟨[.o 0],_,[],[],[19]⟩,⟨[.p 0 0],_,[],[0],[20]⟩,⟨[.p 1 0],_,[],[0,1],[21]⟩,⟨[.p 2 0],_,[],[0,1,2],[22]⟩,⟨[.o 2],_,[],[],[23]⟩,⟨[.p 4 0],_,[],[4],[24]⟩,⟨[.p 3 0,.p 5 0],_,[],Lr 6,[25]⟩,⟨[.p 0 0],_,[],Lr 7,[26]⟩,⟨[.p 7 0],_,[],Lr 8,[27]⟩,⟨[.p 6 0,.p 8 0,.o 0],_,[1],Lr 9,[0,19,20,21,26,27]⟩]) (F:=[.p 9 0,.o 1]) (hst.pick [0,1,2] rfl) hb Zb
   (Qm rfl u_0<|o_p rfl (Z4 rfl rfl u_0 (fun _ _ ⟨_,_,_,e,_⟩=>⟨_,e⟩))<|o_p rfl (Zs Zdr (off:=1) (by kernel_rfl) rfl rfl u_0)<|QP rfl ty_2 u_0<|Qf rfl Zd7 u_0<|Ql rfl ty_2 u_0<|o_p rfl (Zcv rfl rfl u_0 u_1 rfl)<|o_p rfl (Z4 rfl rfl u_0 (fun _ _ ⟨_,_,_,e,_⟩=>⟨_,e⟩))<|o_p rfl (Zs Zdr (off:=1) (by kernel_rfl) rfl rfl u_0)<|o_p rfl (Zjz ty_2 rfl rfl u_2 u_1 u_0)<|o_n) (fun a g hst hb=>?_)
  refine r_s (T:=[⟨[],_,[],[],[6]⟩]) (F:=[.o 0,.o 1,.p 0 0]) hst hb Zb
   (Qa rfl c_i<|o_n) (fun a g hst hb=>?_)
  refine wp_ret ?_
  obtain rfl:=Option.some.inj H0
  exact Zea rfl hst hb (Zi (s:=6)) (hst.at 2 rfl) ⟨Zbl (hst.at 0 rfl),Zbl (hst.at 1 rfl),trivial⟩
theorem Zll (a0:Za) (a1:Zm) (a2:Zd) {r:Int × Za × Zd} (h:Zem a0 a1 a2=some r):FnB Tryd.prog 34 [.box Ze a0 r.2.1,.val (Zq.pd a1),.box Zn a2 r.2.2] (pInt .i64 r.1):=by
 have H0:=h
 unfold Zem at H0
 clear h
 refine Zfn (N:=28) Tryd.func34 rfl rfl (Qe rfl) rfl rfl (fun a g0 bs hbs hst hb=>?_)
 obtain ⟨b0,b2,rfl⟩:=Zg0 hbs
 replace hst:St 28 [(0,(Z9 (some b0) Ze 0 a0)),(1,(Zq.pd a1)),(2,(Z9 (some b2) Zn 2 a2))] _ _:=hst
 refine r_s (T:=[⟨[.o 1],_,[],[],[4]⟩,⟨[],_,[],[],[6]⟩]) (F:=[.o 0,.o 2,.p 0 0]) hst hb Zb
  (Qb rfl u_0<|Qa rfl c_i<|o_n) (fun a g hst hb=>?_)
 refine wp_seq ?_
 refine r_s (T:=⟨[.o 2],_,[],[],[7]⟩ :: ⟨[.p 0 0],_,[],[0],[8]⟩ :: ⟨[.o 0],_,[],[],[9]⟩ :: ⟨[.p 2 0],_,[],[2],[10]⟩ :: ⟨[.p 3 0],_,[],[2,3],[11]⟩ :: ⟨[.p 4 0],_,[],[2,3,4],[12]⟩ :: ⟨[.o 0],_,[],[],[13]⟩ :: ⟨[.p 6 0],_,[],[6],[14]⟩ :: ⟨[.p 7 0],_,[],[6,7],[15]⟩ :: ⟨[.p 8 0],_,[],[6,7,8],[16]⟩ :: ⟨[.p 5 0,.p 9 0],_,[],List.range' 2 8,[17]⟩ :: ⟨[.p 1 0,.p 10 0],_,[],Lr 11,[18]⟩ :: []) (F:=[.o 0,.o 1,.o 2,.p 11 0]) hst hb Zb
  (Qf rfl Zd7 u_0<|Ql rfl ty_2 u_0<|Qm rfl u_0<|o_p rfl (Z4 rfl rfl u_0 (fun _ _ ⟨_,_,_,e,_⟩=>⟨_,e⟩))<|o_p rfl (Zs Zdr (off:=1) (by kernel_rfl) rfl rfl u_0)<|QP rfl ty_2 u_0<|Qm rfl u_0<|o_p rfl (Z4 rfl rfl u_0 (fun _ _ ⟨_,_,_,e,_⟩=>⟨_,e⟩))<|o_p rfl (Zs Zuj (off:=2) (by kernel_rfl) rfl rfl u_0)<|QP rfl ty_2 u_0<|o_p rfl (Zid rfl rfl u_0 u_1 rfl)<|o_p rfl (Zc6 rfl rfl u_0 u_1)<|o_n) (fun a g hst hb=>?_)
 refine wp_cond_split (hst.bool 3 rfl) (fun hc1=>?_) (fun hc1=>?_)
 ·replace H0:=Z2 hc1 H0
  refine r_s (L:=[(0,_),(2,_)]) (T:=[⟨[],_,[],[],[6]⟩]) (F:=[.o 0,.o 1,.p 0 0]) (hst.pick [0,1] rfl) hb Zb
   (Qa rfl c_i<|o_n) (fun a g hst hb=>?_)
  refine wp_ret ?_
  refine Zp ?_
  obtain rfl:=Option.some.inj H0
  exact Zea rfl hst hb (Zi (s:=6)) (hst.at 2 rfl) ⟨Zbl (hst.at 0 rfl),Zbl (hst.at 1 rfl),trivial⟩
 ·replace H0:=Z3 hc1 H0
  refine wp_skip ?_
  refine Zy ?_
  refine r_s (L:=[(0,_),(2,_),(4,_)]) (T:=[⟨[.o 0],_,[],[],[19]⟩,⟨[.p 0 0],_,[],[0],[20]⟩,⟨[.p 1 0],_,[],[0,1],[21]⟩,⟨[.p 2 0],_,[],[0,1,2],[22]⟩,⟨[.o 2],_,[],[],[23]⟩,⟨[.p 4 0],_,[],[4],[24]⟩,⟨[.p 3 0,.p 5 0],_,[],Lr 6,[25]⟩,⟨[.p 0 0],_,[],Lr 7,[26]⟩,⟨[.p 7 0],_,[],Lr 8,[27]⟩,⟨[.p 6 0,.p 8 0,.o 0],_,[1],Lr 9,[0,19,20,21,26,27]⟩]) (F:=[.p 9 0,.o 1]) (hst.pick [0,1,2] rfl) hb Zb
   (Qm rfl u_0<|o_p rfl (Z4 rfl rfl u_0 (fun _ _ ⟨_,_,_,e,_⟩=>⟨_,e⟩))<|o_p rfl (Zs Zdr (off:=1) (by kernel_rfl) rfl rfl u_0)<|QP rfl ty_2 u_0<|Qf rfl Zd7 u_0<|Ql rfl ty_2 u_0<|o_p rfl (Zid rfl rfl u_0 u_1 rfl)<|o_p rfl (Z4 rfl rfl u_0 (fun _ _ ⟨_,_,_,e,_⟩=>⟨_,e⟩))<|o_p rfl (Zs Zdr (off:=1) (by kernel_rfl) rfl rfl u_0)<|o_p rfl (Zjz ty_2 rfl rfl u_2 u_1 u_0)<|o_n) (fun a g hst hb=>?_)
  refine r_s (T:=[⟨[],_,[],[],[6]⟩]) (F:=[.o 0,.o 1,.p 0 0]) hst hb Zb
   (Qa rfl c_i<|o_n) (fun a g hst hb=>?_)
  refine wp_ret ?_
  obtain rfl:=Option.some.inj H0
  exact Zea rfl hst hb (Zi (s:=6)) (hst.at 2 rfl) ⟨Zbl (hst.at 0 rfl),Zbl (hst.at 1 rfl),trivial⟩
theorem Zfm (h:Nat) (he:Zk Tryd.prog h) (ψ:Nat → Nat → Option Nat) (hψ:∀ x y z,ψ x y=some z → FnOk Tryd.prog h [pFlt x,pFlt y] (pFlt z)) (a0:Za) (a1:Zm) (a2:Zd) {z:Nat} (hz:ψ a0.Real a1.X=some z):FnB Tryd.prog 55 [.box Ze a0 { a0 with Real:=z },.val (Zq.pd a1),.box Zn a2 a2,.val (Kd.fnc.ptr h)] (pInt .i64 0):=by
 refine Zfn (N:=19) Tryd.func55 rfl rfl (Qe rfl) rfl rfl (fun a g0 bs hbs hst hb=>?_)
 obtain ⟨b0,b2,rfl⟩:=Zg0 hbs
 replace hst:St 19 [(0,(Z9 (some b0) Ze 0 a0)),(1,(Zq.pd a1)),(2,(Z9 (some b2) Zn 2 a2)),(3,(Kd.fnc.ptr h))] _ _:=hst
 refine r_s (T:=[⟨[.o 1],_,[],[],[5]⟩,⟨[],_,[],[],[7]⟩]) (F:=[.o 0,.o 2,.o 3,.p 0 0]) hst hb Zb
  (Qb rfl u_0<|Qa rfl c_i<|o_n) (fun a g hst hb=>?_)
 refine r_s (T:=[⟨[.o 0],_,[],[],[8]⟩,⟨[.o 2],_,[],[],[9]⟩,⟨[.o 0],_,[],[],[10]⟩,⟨[.p 2 0],_,[],[2],[11]⟩,⟨[.p 3 0],_,[],[2,3],[12]⟩,⟨[.p 4 0],_,[],[2,3,4],[13]⟩,⟨[.o 3],_,[],[],[14]⟩,⟨[.p 6 0],_,[],[6],[15]⟩,⟨[.p 1 0,.p 5 0,.p 7 0],[(16,(pFlt z))],[],[1,2,3,4,5,6,7],[16]⟩,⟨[.p 0 0],_,[],[0,1,2,3,4,5,6,7,8],[17]⟩,⟨[.p 9 0],_,[],[0,1,2,3,4,5,6,7,8,9],[18]⟩,⟨[.p 8 0,.p 10 0,.o 0],_,[1],[0,1,2,3,4,5,6,7,8,9,10],[0,8,10,11,12,17,18]⟩]) (F:=[.p 11 0,.o 1]) hst hb Zb
  (Qm rfl u_0<|Ql rfl Zw5 u_0<|Qm rfl u_0<|o_p rfl (Z4 rfl rfl u_0 (fun _ _ ⟨_,_,_,e,_⟩=>⟨_,e⟩))<|o_p rfl (Zs Zou (off:=4) (by kernel_rfl) rfl rfl u_0)<|QP rfl Zdo u_0<|Qf rfl Zla u_0<|Ql rfl Zdo u_0<|o_p rfl (Zj5 (C:=[]) (hC:=rfl) he (hψ _ _ _ hz) rfl rfl (Opd.imp u_0 (fun _ _ h=>Zwa h)) (.cons u_1 (.cons u_2 .nil)))<|o_p rfl (Z4 rfl rfl u_0 (fun _ _ ⟨_,_,_,e,_⟩=>⟨_,e⟩))<|o_p rfl (Zs Zou (off:=4) (by kernel_rfl) rfl rfl u_0)<|o_p rfl (Zt9 Zdo rfl rfl u_2 u_1 u_0)<|o_n) (fun a g hst hb=>?_)
 refine r_s (T:=[⟨[],_,[],[],[7]⟩]) (F:=[.o 0,.o 1,.p 0 0]) hst hb Zb
  (Qa rfl c_i<|o_n) (fun a g hst hb=>?_)
 refine wp_ret ?_
 exact Zea rfl hst hb (Zi (s:=7)) (hst.at 2 rfl) ⟨Zbl (hst.at 0 rfl),Zbl (hst.at 1 rfl),trivial⟩
theorem Zgi (h:Nat):FnOk Tryd.prog 35 [(Kd.fnc.pd h)] (pClo 55 [(Kd.fnc.ptr h)] rfl):=by
 refine Zbv (N:=4) Tryd.func35 rfl rfl (Qe rfl) rfl rfl (fun a g0 hst hb=>?_)
 refine r_s (T:=[⟨[.o 0],_,[],[],[1]⟩,⟨[],[],[],[],[2]⟩]) (F:=[.p 0 0]) hst hb Zb
  (Qb rfl u_0<|o_p rfl (Ztv (.inr rfl))<|o_n) (fun a g hst hb=>?_)
 refine r_s (T:=[⟨[.o 0],[(3,(pClo 55 [(Kd.fnc.ptr h)] rfl))],[],[],[3]⟩,⟨[.p 0 0],_,[],[0],[2]⟩]) (F:=[.p 1 0]) hst hb Zb
  (o_p rfl (Zps rfl rfl (.cons u_0 .nil))<|Qa rfl u_0<|o_n) (fun a g hst hb=>?_)
 refine wp_ret ?_
 exact Zz rfl hst hb (Zi (s:=2)) (hst.at 0 rfl)
theorem Zrt (a0:Nat) (a1:Nat) {r:Nat} (h:Zg9 a0 a1=some r):FnOk Tryd.prog 36 [(pFlt a0),(pFlt a1)] (pFlt r):=by
 have H0:=h
 unfold Zg9 at H0
 clear h
 refine Zbv (N:=12) Tryd.func36 rfl rfl (Qe rfl) rfl rfl (fun a g0 hst hb=>?_)
 refine r_s (T:=[⟨[],_,[],[],[4]⟩]) (F:=[.o 0,.o 1]) hst hb Zb
  (Qa rfl c_f<|o_n) (fun a g hst hb=>?_)
 refine wp_seq ?_
 obtain ⟨r1,h2,H0⟩:=Zg H0
 refine r_s (T:=[⟨[.o 0],_,[],[],[5]⟩,⟨[.o 1],_,[],[],[6]⟩,⟨[.p 0 0,.p 1 0],_,[],[0,1],[7]⟩]) (F:=[.o 0,.o 1,.p 2 0]) hst hb Zb
  (Qm rfl u_0<|Qm rfl u_0<|o_p rfl (Zr Zrg (Zjh _ _ h2) rfl rfl (.cons u_0 (.cons u_1 .nil)))<|o_n) (fun a g hst hb=>?_)
 refine wp_cond_split (hst.bool 2 rfl) (fun hc3=>?_) (fun hc3=>?_)
 ·replace H0:=Z2 hc3 H0
  obtain ⟨r4,h5,H0⟩:=Zg H0
  refine r_s (L:=[(1,_)]) (T:=[⟨[.o 0],_,[],[],[8]⟩,⟨[.p 0 0],_,[],[0],[9]⟩,⟨[.p 1 0],_,[],[0,1],[4]⟩]) (F:=[.p 2 0]) (hst.pick [1] rfl) hb Zb
   (Qm rfl u_0<|o_p rfl (Zr Zjb (Zd4 _ h5) rfl rfl (.cons u_0 .nil))<|Qa rfl u_0<|o_n) (fun a g hst hb=>?_)
  refine wp_ret ?_
  refine Zp ?_
  obtain rfl:=Option.some.inj H0
  exact Zz rfl hst hb (Zi (s:=4)) (hst.at 0 rfl)
 ·replace H0:=Z3 hc3 H0
  refine wp_skip ?_
  refine Zy ?_
  obtain ⟨r6,h7,H0⟩:=Zg H0
  refine r_s (L:=[(0,_)]) (T:=[⟨[.o 0],_,[],[],[10]⟩,⟨[.p 0 0],_,[],[0],[11]⟩,⟨[.p 1 0],_,[],[0,1],[4]⟩]) (F:=[.p 2 0]) (hst.pick [0] rfl) hb Zb
   (Qm rfl u_0<|o_p rfl (Zr Zjb (Zd4 _ h7) rfl rfl (.cons u_0 .nil))<|Qa rfl u_0<|o_n) (fun a g hst hb=>?_)
  refine wp_ret ?_
  obtain rfl:=Option.some.inj H0
  exact Zz rfl hst hb (Zi (s:=4)) (hst.at 0 rfl)
theorem Zri (a0:Nat) (a1:Nat) {r:Nat} (h:Zhd a0 a1=some r):FnOk Tryd.prog 37 [(pFlt a0),(pFlt a1)] (pFlt r):=by
 have H0:=h
 unfold Zhd at H0
 clear h
 refine Zbv (N:=12) Tryd.func37 rfl rfl (Qe rfl) rfl rfl (fun a g0 hst hb=>?_)
 refine r_s (T:=[⟨[],_,[],[],[4]⟩]) (F:=[.o 0,.o 1]) hst hb Zb
  (Qa rfl c_f<|o_n) (fun a g hst hb=>?_)
 refine wp_seq ?_
 obtain ⟨r1,h2,H0⟩:=Zg H0
 refine r_s (T:=[⟨[.o 1],_,[],[],[5]⟩,⟨[.o 0],_,[],[],[6]⟩,⟨[.p 0 0,.p 1 0],_,[],[0,1],[7]⟩]) (F:=[.o 0,.o 1,.p 2 0]) hst hb Zb
  (Qm rfl u_0<|Qm rfl u_0<|o_p rfl (Zr Zrg (Zjh _ _ h2) rfl rfl (.cons u_0 (.cons u_1 .nil)))<|o_n) (fun a g hst hb=>?_)
 refine wp_cond_split (hst.bool 2 rfl) (fun hc3=>?_) (fun hc3=>?_)
 ·replace H0:=Z2 hc3 H0
  obtain ⟨r4,h5,H0⟩:=Zg H0
  refine r_s (L:=[(1,_)]) (T:=[⟨[.o 0],_,[],[],[8]⟩,⟨[.p 0 0],_,[],[0],[9]⟩,⟨[.p 1 0],_,[],[0,1],[4]⟩]) (F:=[.p 2 0]) (hst.pick [1] rfl) hb Zb
   (Qm rfl u_0<|o_p rfl (Zr Zjb (Zd4 _ h5) rfl rfl (.cons u_0 .nil))<|Qa rfl u_0<|o_n) (fun a g hst hb=>?_)
  refine wp_ret ?_
  refine Zp ?_
  obtain rfl:=Option.some.inj H0
  exact Zz rfl hst hb (Zi (s:=4)) (hst.at 0 rfl)
 ·replace H0:=Z3 hc3 H0
  refine wp_skip ?_
  refine Zy ?_
  obtain ⟨r6,h7,H0⟩:=Zg H0
  refine r_s (L:=[(0,_)]) (T:=[⟨[.o 0],_,[],[],[10]⟩,⟨[.p 0 0],_,[],[0],[11]⟩,⟨[.p 1 0],_,[],[0,1],[4]⟩]) (F:=[.p 2 0]) (hst.pick [0] rfl) hb Zb
   (Qm rfl u_0<|o_p rfl (Zr Zjb (Zd4 _ h7) rfl rfl (.cons u_0 .nil))<|Qa rfl u_0<|o_n) (fun a g hst hb=>?_)
  refine wp_ret ?_
  obtain rfl:=Option.some.inj H0
  exact Zz rfl hst hb (Zi (s:=4)) (hst.at 0 rfl)
theorem Zpw (a0:Nat) (a1:Nat) {r:Nat} (h:Zge a0 a1=some r):FnOk Tryd.prog 38 [(pFlt a0),(pFlt a1)] (pFlt r):=by
 have H0:=h
 unfold Zge at H0
 clear h
 refine Zbv (N:=9) Tryd.func38 rfl rfl (Qe rfl) rfl rfl (fun a g0 hst hb=>?_)
 refine r_s (T:=[⟨[],_,[],[],[4]⟩]) (F:=[.o 0,.o 1]) hst hb Zb
  (Qa rfl c_f<|o_n) (fun a g hst hb=>?_)
 obtain ⟨r1,h2,H0⟩:=Zg H0
 refine r_s (T:=[⟨[.o 0],_,[],[],[5]⟩,⟨[.o 1],_,[],[],[6]⟩,⟨[.p 0 0,.p 1 0],_,[],[0,1],[7]⟩,⟨[.p 2 0],_,[],[0,1,2],[8]⟩,⟨[.p 3 0],_,[],Lr 4,[4]⟩]) (F:=[.p 4 0]) hst hb Zb
  (Qm rfl u_0<|Qm rfl u_0<|o_p rfl (Ztq rfl rfl u_0 u_1)<|o_p rfl (Zr Zjb (Zoo (fun r z hr hz=>by simp only [Zc2,hr,hz,Option.bind_some,if_true]) (fun z r h=>Zd4 z h) h2) rfl rfl (.cons u_0 .nil))<|Qa rfl u_0<|o_n) (fun a g hst hb=>?_)
 refine wp_ret ?_
 obtain rfl:=Option.some.inj H0
 exact Zz rfl hst hb (Zi (s:=4)) (hst.at 0 rfl)
theorem Zo6 (a0:Nat) (a1:Nat) {r:Nat} (h:Zfq a0 a1=some r):FnOk Tryd.prog 39 [(pFlt a0),(pFlt a1)] (pFlt r):=by
 have H0:=h
 unfold Zfq at H0
 clear h
 refine Zbv (N:=9) Tryd.func39 rfl rfl (Qe rfl) rfl rfl (fun a g0 hst hb=>?_)
 refine r_s (T:=[⟨[],_,[],[],[4]⟩]) (F:=[.o 0,.o 1]) hst hb Zb
  (Qa rfl c_f<|o_n) (fun a g hst hb=>?_)
 obtain ⟨r1,h2,H0⟩:=Zg H0
 refine r_s (T:=[⟨[.o 0],_,[],[],[5]⟩,⟨[.o 1],_,[],[],[6]⟩,⟨[.p 0 0,.p 1 0],_,[],[0,1],[7]⟩,⟨[.p 2 0],_,[],[0,1,2],[8]⟩,⟨[.p 3 0],_,[],Lr 4,[4]⟩]) (F:=[.p 4 0]) hst hb Zb
  (Qm rfl u_0<|Qm rfl u_0<|o_p rfl (Zuc rfl rfl u_0 u_1)<|o_p rfl (Zr Zjb (Zoo (fun r z hr hz=>by simp only [Zc2,hr,hz,Option.bind_some,if_true]) (fun z r h=>Zd4 z h) h2) rfl rfl (.cons u_0 .nil))<|Qa rfl u_0<|o_n) (fun a g hst hb=>?_)
 refine wp_ret ?_
 obtain rfl:=Option.some.inj H0
 exact Zz rfl hst hb (Zi (s:=4)) (hst.at 0 rfl)
theorem Zlh (a0:Nat) (a1:Nat) {r:Nat} (h:Zep a0 a1=some r):FnOk Tryd.prog 40 [(pFlt a0),(pFlt a1)] (pFlt r):=by
 have H0:=h
 unfold Zep at H0
 clear h
 refine Zbv (N:=6) Tryd.func40 rfl rfl (Qe rfl) rfl rfl (fun a g0 hst hb=>?_)
 refine r_s (L:=[(1,_)]) (T:=[⟨[],_,[],[],[4]⟩]) (F:=[.o 0]) (hst.pick [1] rfl) hb Zb
  (Qa rfl c_f<|o_n) (fun a g hst hb=>?_)
 refine r_s (T:=[⟨[.o 0],_,[],[],[5]⟩,⟨[.p 0 0],_,[],[0],[4]⟩]) (F:=[.p 1 0]) hst hb Zb
  (Qm rfl u_0<|Qa rfl u_0<|o_n) (fun a g hst hb=>?_)
 refine wp_ret ?_
 obtain rfl:=Option.some.inj H0
 exact Zz rfl hst hb (Zi (s:=4)) (hst.at 0 rfl)
theorem Zei (f2:Nat) (C2:List Pd) (hC2:Free C2) (e2_:Zk Tryd.prog f2) (φ2:Zc → ByteArray → Option Int) (hφ2:∀ (y0:Zc) (y1:ByteArray) (r:Int),φ2 y0 y1=some r → FnOk Tryd.prog f2 ([(Zj.pd y0),(pStr y1)] ++ C2) (pInt .i64 r)) (a0:List Zc) (a1:ByteArray) {r:Int × Bool} (h:Zbo a0 a1 φ2=some r):FnOk Tryd.prog 58 [(Zj.sl.pd a0),(pStr a1),(pClo f2 C2 hC2)] (pTup [(pInt .i64 r.1),(Z1 r.2)]):=by
 have H0:=h
 unfold Zbo at H0
 clear h
 refine Zbv (N:=49) Tryd.func58 rfl rfl (Qe rfl) rfl rfl (fun a g0 hst hb=>?_)
 refine r_s (T:=[⟨[],_,[],[],[6]⟩,⟨[],_,[],[0],[7]⟩]) (F:=[.o 0,.o 1,.o 2]) hst hb Zb
  (Qa rfl c_i<|Qa rfl c_b<|o_n) (fun a g hst hb=>?_)
 refine r_s (T:=[⟨[.o 0],_,[],[],[12]⟩,⟨[.p 0 0],_,[],[0],[13]⟩,⟨[.p 1 0],_,[],[0,1],[8]⟩]) (F:=[.o 0,.o 1,.o 2,.p 2 0,.p 0 0]) hst hb Zb
  (Qm rfl u_0<|o_p rfl (Zch Tryd.underlying23 rfl rfl u_0)<|Qa rfl u_0<|o_n) (fun a g hst hb=>?_)
 refine r_s (T:=[⟨[.o 3],_,[],[],[14]⟩,⟨[],_,[],[],[9]⟩,⟨[.p 0 0],_,[],[0,1],[10]⟩]) (F:=[.o 0,.o 1,.o 2,.o 3,.p 1 0,.p 2 0,.o 4]) hst hb Zb
  (Qm rfl u_0<|Qa rfl c_i<|Qa rfl u_0<|o_n) (fun a g hst hb=>?_)
 obtain ⟨z12,hz1,H0⟩:=Zg H0
 refine wp_seq ?_
 refine Zdj (fun a w=>∃ (y11:Int) (g:G),w=g.w ∧ St 49 [(0,(Zj.sl.pd a0)),(1,(pStr a1)),(2,(pClo f2 C2 hC2)),(8,(pInt .i64 (a0.length:Int))),(9,(pInt .i64 y11)),(12,(Zj.sl.pd a0))] a g ∧ Base g0 g ∧ y11=z12) ?_ ?_
 ·rintro a w ⟨y11,g,rfl,hst,hb,rfl⟩
  refine Zy ?_
  obtain ⟨e13,h14,H0⟩:=Zg H0;obtain ⟨r15,h16,H0⟩:=Zg H0
  refine r_s (T:=⟨[.o 4],_,[],[],[35]⟩ :: ⟨[.o 4],_,[],[],[36]⟩ :: ⟨[.o 3],_,[],[],[37]⟩ :: ⟨[.p 1 0,.p 2 0],_,[],[1,2],[38]⟩ :: ⟨[.p 3 0],_,[],[1,2,3],[39]⟩ :: ⟨[.p 4 0,.o 2],_,[],List.range' 1 4,[40]⟩ :: ⟨[.p 4 0,.o 0],_,[],List.range' 1 4,[41]⟩ :: ⟨[.p 4 0,.o 4],_,[],List.range' 1 4,[42]⟩ :: ⟨[.p 4 0,.p 6 0,.p 7 0],_,[],[1,2,3,4,6,7],[43]⟩ :: ⟨[.p 4 0,.p 8 0],_,[],[1,2,3,4,6,7,8],[44]⟩ :: ⟨[.p 4 0,.o 1],_,[],List.range' 1 4,[45]⟩ :: ⟨[.p 4 0,.p 5 0,.p 9 0,.p 10 0],_,[],List.range' 1 10,[46]⟩ :: ⟨[.p 4 0,.p 11 0],_,[],List.range' 1 11,[47]⟩ :: ⟨[.p 4 0,.p 12 0],_,[],List.range' 1 12,[48]⟩ :: ⟨[.p 0 0],_,[],Lr 12,[6]⟩ :: ⟨[.p 13 0],_,[],Lr 15,[7]⟩ :: []) (F:=[.p 14 0,.p 15 0]) hst hb Zb
   (Qm rfl u_0<|Qm rfl u_0<|Qm rfl u_0<|o_p rfl (Zdp rfl rfl u_0 u_1)<|Qm rfl u_0<|o_g (Qg_t rfl (fun hG=>Zbc rfl rfl u_0))<|o_g (Qg_t rfl (fun hG=>Zbc rfl rfl u_0))<|o_g (Qg_t rfl (fun hG=>Zbc rfl rfl u_0))<|o_g (Qg_t rfl (fun hG=>Zbt Tryd.underlying23 Zel rfl rfl (Opd.gd hG u_0) (Opd.gd hG u_1) (Zbx h14 hG)))<|o_g (Qg_t rfl (fun hG=>Zo Zd8 rfl rfl (Opd.gd hG u_0)))<|o_g (Qg_t rfl (fun hG=>Zbc rfl rfl u_0))<|o_g (Qg_t rfl (fun hG=>Zj5 e2_ (hφ2 _ _ _ (Zbx h16 hG)) rfl rfl (Opd.gd hG u_0) (.cons (Opd.gd hG u_1) (.cons (Opd.gd hG u_2) .nil))))<|o_g (Qg_t rfl (fun hG=>Zbq rfl rfl (Opd.gd hG u_0) c_i))<|o_p rfl (Zbh rfl rfl u_0 (fun hz=>(Opd.gd hz u_1)))<|Qa rfl u_0<|Qa rfl u_0<|o_n) (fun a g hst hb=>?_)
  refine wp_ret ?_
  obtain rfl:=Option.some.inj H0
  exact Zu1 rfl hst hb (Zi (s:=6)) (Zi (s:=7)) (Zsq (hst.at 0 rfl) (hst.at 1 rfl))
 ·refine wp_block ?_
  refine wp_loop_ghost (fun n a w=>∃ (x1:Int) (x2:Int) (g:G),w=g.w ∧ St 49 [(0,(Zj.sl.pd a0)),(1,(pStr a1)),(2,(pClo f2 C2 hC2)),(8,(pInt .i64 (a0.length:Int))),(9,(pInt .i64 x1)),(10,(pInt .i64 x2)),(12,(Zj.sl.pd a0))] a g ∧ Base g0 g ∧ Zv a0 a1 φ2 n x1 x2=some z12) (Int.toNat ((a0.length:Int) - (0:Int)) + 1) ⟨(0:Int),(a0.length:Int),g,rfl,(hst.pick [0,1,2,3,4,5,6] rfl),hb,hz1⟩ (fun n a w hI=>?_)
  obtain ⟨x1,x2,g,rfl,hst,hb,H1⟩:=hI
  cases n with
  | zero=>exact absurd H1 (by simp [Zv])
  | succ n =>
   rw [Zv] at H1
   refine wp_seq ?_
   refine r_s (T:=[⟨[.o 4],_,[],[],[15]⟩,⟨[.o 5],_,[],[],[16]⟩,⟨[.p 0 0,.p 1 0],_,[],[0,1],[17]⟩]) (F:=[.o 0,.o 1,.o 2,.o 3,.o 4,.o 5,.o 6,.p 2 0]) hst hb Zb
    (Qm rfl u_0<|Qm rfl u_0<|o_p rfl (Zdp rfl rfl u_0 u_1)<|o_n) (fun a g hst hb=>?_)
   refine wp_cond_split (hst.bool 7 rfl) (fun hc3=>?_) (fun hc3=>?_)
   ·replace H1:=Z2 hc3 H1
    refine wp_skip ?_
    refine Zy ?_
    refine Zdj (fun a w=>∃ (j9:Int) (j10:Int) (g:G),w=g.w ∧ St 49 [(0,(Zj.sl.pd a0)),(1,(pStr a1)),(2,(pClo f2 C2 hC2)),(8,(pInt .i64 (a0.length:Int))),(9,(pInt .i64 j9)),(10,(pInt .i64 j10)),(12,(Zj.sl.pd a0))] a g ∧ Base g0 g ∧ Zbf (Zv a0 a1 φ2 n) j9 j10=some z12) ?_ ?_
    ·rintro a w ⟨j9,j10,g,rfl,hst,hb,H1⟩
     unfold Zbf at H1
     exact ⟨n,Nat.lt_succ_self _,j9,j10,g,rfl,(hst.pick [0,1,2,3,4,5,6] rfl),hb,H1⟩
    ·refine wp_block ?_
     refine r_s (L:=[(0,_),(1,_),(2,_),(8,_),(9,_),(10,_),(12,_)]) (T:=[⟨[.o 4],_,[],[],[18]⟩,⟨[.o 5],_,[],[],[19]⟩,⟨[.p 0 0,.p 1 0],_,[],[0,1],[20]⟩,⟨[.p 2 0],_,[],[0,1,2],[21]⟩,⟨[.p 3 0],_,[],Lr 4,[22]⟩,⟨[.p 4 0],_,[],Lr 5,[23]⟩,⟨[.p 5 0],_,[],Lr 6,[11]⟩]) (F:=[.o 0,.o 1,.o 2,.o 3,.o 4,.o 5,.p 6 0,.o 6]) (hst.pick [0,1,2,3,4,5,6] rfl) hb Zb
      (Qm rfl u_0<|Qm rfl u_0<|o_p rfl (Zcv rfl rfl u_0 u_1 rfl)<|o_p rfl (Zqo Tryd.underlying3 Tryd.underlying88 rfl rfl u_0 rfl)<|o_p rfl (Zxt rfl rfl u_0 c_i (by decide) rfl)<|o_p rfl (Zqo Tryd.underlying88 Tryd.underlying3 rfl rfl u_0 rfl)<|Qa rfl u_0<|o_n) (fun a g hst hb=>?_)
     obtain ⟨e4,h5,H1⟩:=Zg H1;obtain ⟨r6,h7,H1⟩:=Zg H1
     refine r_s (T:=[⟨[.o 2],_,[],[],[24]⟩,⟨[.o 0],_,[],[],[25]⟩,⟨[.o 6],_,[],[],[26]⟩,⟨[.p 1 0,.p 2 0],_,[],[1,2],[27]⟩,⟨[.p 3 0],_,[],[1,2,3],[28]⟩,⟨[.o 1],_,[],[],[29]⟩,⟨[.p 0 0,.p 4 0,.p 5 0],_,[],Lr 6,[30]⟩,⟨[.p 6 0],_,[],Lr 7,[31]⟩]) (F:=[.o 0,.o 1,.o 2,.o 3,.o 4,.o 5,.o 6,.o 7,.p 7 0]) hst hb Zb
      (Qm rfl u_0<|Qm rfl u_0<|Qm rfl u_0<|o_p rfl (Zbt Tryd.underlying23 Zel rfl rfl u_0 u_1 h5)<|Ql rfl Zd8 u_0<|Qm rfl u_0<|o_p rfl (Zj5 e2_ (hφ2 _ _ _ h7) rfl rfl u_0 (.cons u_1 (.cons u_2 .nil)))<|o_p rfl (Zdp rfl rfl u_0 c_i)<|o_n) (fun a g hst hb=>?_)
     refine wp_cond_split (hst.bool 8 rfl) (fun hc8=>?_) (fun hc8=>?_)
     ·replace H1:=Z2 hc8 H1
      refine r_g (L:=[(0,_),(1,_),(2,_),(8,_),(10,_),(11,_),(12,_)]) (T:=[⟨[.o 5],_,[],[],[32]⟩,⟨[.p 0 0],_,[],[0],[33]⟩,⟨[.p 1 0],_,[],[0,1],[9]⟩]) (F:=[.o 0,.o 1,.o 2,.o 3,.p 2 0,.o 4,.o 6]) (hst.pick [0,1,2,3,5,6,7] rfl) hb Zb
       (Qm rfl u_0<|o_p rfl (Zcv rfl rfl u_0 c_i rfl)<|Qa rfl u_0<|o_n) (fun a g hst hb=>?_)
      refine Zb7 ?_
      exact ⟨(IntKind.i64.wrap ((IntKind.i64.wrap (Int.fdiv (IntKind.u64.wrap (IntKind.i64.wrap (x1 + x2))) (2 ^ 1))) + (1:Int))),x2,g,rfl,(hst.pick [0,1,2,3,4,5,6] rfl),hb,H1⟩
     ·replace H1:=Z3 hc8 H1
      refine r_g (L:=[(0,_),(1,_),(2,_),(8,_),(9,_),(11,_),(12,_)]) (T:=[⟨[.o 5],_,[],[],[34]⟩,⟨[.p 0 0],_,[],[0],[10]⟩]) (F:=[.o 0,.o 1,.o 2,.o 3,.o 4,.p 1 0,.o 6]) (hst.pick [0,1,2,3,4,6,7] rfl) hb Zb
       (Qm rfl u_0<|Qa rfl u_0<|o_n) (fun a g hst hb=>?_)
      refine Zb7 ?_
      exact ⟨x1,(IntKind.i64.wrap (Int.fdiv (IntKind.u64.wrap (IntKind.i64.wrap (x1 + x2))) (2 ^ 1))),g,rfl,(hst.pick [0,1,2,3,4,5,6] rfl),hb,H1⟩
   ·replace H1:=Z3 hc3 H1
    refine wp_exit ?_
    refine Zcu ?_
    refine Zcu ?_
    refine Zd5 ?_
    exact ⟨x1,g,rfl,(hst.pick [0,1,2,3,4,6] rfl),hb,Option.some.inj H1⟩
theorem Zm9 (a0:Zc) (a1:ByteArray) {r:Int} (h:Zff a0 a1=some r):FnOk Tryd.prog 59 [(Zj.pd a0),(pStr a1)] (pInt .i64 r):=by
 have H0:=h
 unfold Zff at H0
 clear h
 refine Zbv (N:=15) Tryd.func59 rfl rfl (Qe rfl) rfl rfl (fun a g0 hst hb=>?_)
 refine r_s (T:=[⟨[.o 0],_,[],[],[2]⟩,⟨[],_,[],[],[4]⟩]) (F:=[.o 1,.p 0 0]) hst hb Zb
  (Qb rfl u_0<|Qa rfl c_i<|o_n) (fun a g hst hb=>?_)
 refine wp_seq ?_
 refine wp_block ?_
 refine r_s (T:=[⟨[.o 1],_,[],[],[6]⟩,⟨[.p 0 0],_,[],[0],[7]⟩,⟨[.o 0],_,[],[],[8]⟩,⟨[.p 1 0,.p 2 0],_,[],[0,1,2],[9]⟩,⟨[.p 3 0],_,[],Lr 4,[5]⟩]) (F:=[.o 0,.o 1,.p 4 0]) hst hb Zb
  (Qf rfl Ze0 u_0<|Ql rfl ty_9 u_0<|Qm rfl u_0<|o_p rfl (Zr0 rfl rfl u_0 u_1)<|Qa rfl u_0<|o_n) (fun a g hst hb=>?_)
 refine wp_cond_split (hst.bool 2 rfl) (fun hc1=>?_) (fun hc1=>?_)
 ·replace H0:=Z2 hc1 H0
  refine r_s (L:=[]) (T:=[⟨[],_,[],[],[4]⟩]) (F:=[.p 0 0]) (hst.pick [] rfl) hb Zb
   (Qa rfl c_i<|o_n) (fun a g hst hb=>?_)
  refine wp_ret ?_
  refine Zx ?_
  refine Zp ?_
  obtain rfl:=Option.some.inj H0
  exact Zz rfl hst hb (Zi (s:=4)) (hst.at 0 rfl)
 ·replace H0:=Z3 hc1 H0
  refine r_s (L:=[(1,_),(2,_)]) (T:=[⟨[.o 1],_,[],[],[11]⟩,⟨[.p 0 0],_,[],[0],[12]⟩,⟨[.o 0],_,[],[],[13]⟩,⟨[.p 1 0,.p 2 0],_,[],[0,1,2],[14]⟩,⟨[.p 3 0],_,[],Lr 4,[10]⟩]) (F:=[.p 4 0]) (hst.pick [0,1] rfl) hb Zb
   (Qf rfl Ze0 u_0<|Ql rfl ty_9 u_0<|Qm rfl u_0<|o_p rfl (Zx1 rfl rfl u_0 u_1)<|Qa rfl u_0<|o_n) (fun a g hst hb=>?_)
  refine wp_cond_split (hst.bool 0 rfl) (fun hc2=>?_) (fun hc2=>?_)
  ·replace H0:=Z2 hc2 H0
   refine r_s (L:=[]) (T:=[⟨[],_,[],[],[4]⟩]) (F:=[.p 0 0]) (hst.pick [] rfl) hb Zb
    (Qa rfl c_i<|o_n) (fun a g hst hb=>?_)
   refine wp_ret ?_
   refine Zx ?_
   refine Zp ?_
   obtain rfl:=Option.some.inj H0
   exact Zz rfl hst hb (Zi (s:=4)) (hst.at 0 rfl)
  ·replace H0:=Z3 hc2 H0
   refine wp_skip ?_
   refine Zb7 ?_
   refine Zy ?_
   refine r_s (L:=[]) (T:=[⟨[],_,[],[],[4]⟩]) (F:=[.p 0 0]) (hst.pick [] rfl) hb Zb
    (Qa rfl c_i<|o_n) (fun a g hst hb=>?_)
   refine wp_ret ?_
   obtain rfl:=Option.some.inj H0
   exact Zz rfl hst hb (Zi (s:=4)) (hst.at 0 rfl)
theorem Ziu (a0:List Zc) (a1:ByteArray) {r:Int × Bool} (h:Zgj a0 a1=some r):FnOk Tryd.prog 43 [(Zj.sl.pd a0),(pStr a1)] (pTup [(pInt .i64 r.1),(Z1 r.2)]):=by
 have H0:=h
 unfold Zgj at H0
 clear h
 refine Zbv (N:=11) Tryd.func43 rfl rfl (Qe rfl) rfl rfl (fun a g0 hst hb=>?_)
 refine r_s (T:=[⟨[],_,[],[],[4]⟩,⟨[],_,[],[0],[5]⟩]) (F:=[.o 0,.o 1]) hst hb Zb
  (Qa rfl c_i<|Qa rfl c_b<|o_n) (fun a g hst hb=>?_)
 obtain ⟨r1,h2,H0⟩:=Zg H0
 refine r_s (T:=[⟨[.o 0],_,[],[],[6]⟩,⟨[.o 1],_,[],[],[7]⟩,⟨[.p 0 0,.p 1 0],_,[],[0,1],[8]⟩,⟨[.p 2 0],_,[],[0,1,2],[9]⟩,⟨[.p 2 0],_,[],[0,1,2],[10]⟩,⟨[.p 3 0],_,[],Lr 5,[4]⟩,⟨[.p 4 0],_,[],Lr 6,[5]⟩]) (F:=[.p 5 0,.p 6 0]) hst hb Zb
  (Qm rfl u_0<|Qm rfl u_0<|o_p rfl (Zr Zyn (Zei 59 [] rfl Zy0 (fun y0 y1=>Zff y0 y1) (fun y0 y1 r h=>Zm9 y0 y1 h) _ _ h2) rfl rfl (.cons u_0 (.cons u_1 (.cons Opd.fnc .nil))))<|o_p rfl (Z8 rfl rfl u_0 rfl)<|o_p rfl (Z8 rfl rfl u_0 rfl)<|Qa rfl u_0<|Qa rfl u_0<|o_n) (fun a g hst hb=>?_)
 refine wp_ret ?_
 obtain rfl:=Option.some.inj H0
 exact Zu1 rfl hst hb (Zi (s:=4)) (Zi (s:=5)) (Zsq (hst.at 0 rfl) (hst.at 1 rfl))
set_option maxHeartbeats 1000000 in
theorem Zed (a0:List Zc) (a1:Int) (a2:List Zc) {r:List Zc} (h:Zbe a0 a1 a2=some r):Zoa Tryd.prog 57 Zj 37 a0 [(pInt .i64 a1),(Zj.sl.pd a2)] ((Zj.slS 37).pd r):=by
 unfold Zbe at h
 obtain ⟨⟨hi0,hi1,hm,hsz⟩,H0⟩:=Zgx h
 obtain rfl:=Option.some.inj H0
 obtain ⟨k,rfl⟩:=Int.eq_ofNat_of_zero_le hi0
 have hk:k ≤ a0.length:=by omega
 have hb0:(a0.length + a2.length) ≤ 140737488355328:=Nat.le_trans (Nat.le_mul_of_pos_right _ (by decide)) hsz
 simp only [Int.toNat_natCast]
 refine Zo0 (N:=95) Tryd.func57 rfl rfl (Qe rfl) rfl (fun hx a g A0 hst hb=>?_) (fun a g cap hcap hmax hst hb=>?_)
 ·subst hx
  obtain rfl:k=0:=by simpa using hk
  refine r_s (T:=[⟨[],[(6,(Zj.sl.pd []))],[],[],[6]⟩]) (F:=[.o 0,.o 1,.o 2]) hst hb Zb
   (o_p rfl (Zfr rfl rfl (Opd.c (fun g=>Zi4 g)))<|o_n) (fun a g hst hb=>?_)
  refine r_s (T:=[⟨[.o 0],_,[],[],[10]⟩,⟨[.o 1],_,[],[],[11]⟩,⟨[.p 0 0,.p 1 0],_,[],[0,1],[12]⟩]) (F:=[.o 0,.o 1,.o 2]) hst hb Zb
   (Qm rfl u_0<|Qm rfl u_0<|o_p rfl (Zta Zcn rfl u_0 u_1)<|o_n) (fun a g hst hb=>?_)
  refine r_s (T:=[⟨[.o 2],_,[],[],[13]⟩,⟨[.p 0 0],_,[],[0],[14]⟩,⟨[.p 1 0],_,[],[0,1],[7]⟩]) (F:=[.o 0,.o 1,.o 2,.p 2 0]) hst hb Zb
   (Qm rfl u_0<|o_p rfl (Zch Tryd.underlying23 rfl rfl u_0)<|Qa rfl u_0<|o_n) (fun a g hst hb=>?_)
  refine wp_seq ?_
  refine r_s (T:=[⟨[.o 3],_,[],[],[15]⟩,⟨[.p 0 0],_,[],[0],[16]⟩]) (F:=[.o 0,.o 1,.o 2,.o 3,.p 1 0]) hst hb Zb
   (Qm rfl u_0<|o_p rfl (Zbq rfl rfl u_0 c_i)<|o_n) (fun a g hst hb=>?_)
  refine wp_cond_split (hst.bool 4 rfl) (fun hc=>?_) (fun hc=>?_)
  ·exact absurd (beq_iff_eq.1 hc) (by omega)
  ·refine wp_skip ?_
   refine Zy ?_
   refine r_s (L:=[(0,_),(1,_),(2,_),(7,_)]) (T:=[⟨[.o 0],_,[],[],[18]⟩,⟨[.p 0 0],_,[],[0],[19]⟩,⟨[.p 1 0],_,[],[0,1],[8]⟩]) (F:=[.o 0,.o 1,.o 2,.o 3,.p 2 0]) (hst.pick [0,1,2,3] rfl) hb Zb
    (Qm rfl u_0<|o_p rfl (Zwe Tryd.underlying23 rfl rfl u_0)<|Qa rfl u_0<|o_n) (fun a g hst hb=>?_)
   refine wp_seq ?_
   refine r_s (T:=[⟨[.o 1],_,[],[],[20]⟩,⟨[.o 4],_,[],[],[21]⟩,⟨[.p 0 0,.p 1 0],_,[],[0,1],[22]⟩]) (F:=[.o 0,.o 1,.o 2,.o 3,.o 4,.p 2 0]) hst hb Zb
    (Qm rfl u_0<|Qm rfl u_0<|o_p rfl (Zbq rfl rfl u_0 u_1)<|o_n) (fun a g hst hb=>?_)
   refine wp_cond_split (hst.bool 5 rfl) (fun hc=>?_) (fun hc=>?_)
   ·refine r_s (L:=[(0,_),(2,_)]) (T:=[⟨[.o 0],_,[],[],[23]⟩,⟨[.o 1],_,[],[],[24]⟩,⟨[.p 0 0,.p 1 0],[(25,(pOwn Zj 37 25 none (a2.map some)))],[26],[0,1],[25]⟩,⟨[.p 2 0],_,[],[0,1,2],[6]⟩]) (F:=[.p 3 0]) (hst.pick [0,2] rfl) hb Zb
     (Qm rfl u_0<|Qm rfl u_0<|o_p rfl (Zrm Zcn rfl rfl u_0 u_1 hm (by simpa using hsz))<|Qa rfl u_0<|o_n) (fun a g hst hb=>?_)
    refine wp_ret ?_
    refine Zp ?_
    have hq:=hst.at 0 rfl
    have he:([]:List Zc).take 0 ++ a2 ++ ([]:List Zc).drop 0=a2:=by simp
    rw [he]
    exact Ziq rfl hst hb (Zi (s:=6)) hq
   ·exact absurd hc (by simp)
 ·refine r_s (T:=[⟨[],[(6,(Zj.sl.pd []))],[],[],[6]⟩]) (F:=[.o 0,.o 1,.o 2]) hst hb Zb
   (o_p rfl (Zfr rfl rfl (Opd.c (fun g=>Zi4 g)))<|o_n) (fun a g hst hb=>?_)
  refine r_s (T:=[⟨[.o 0],_,[],[],[10]⟩,⟨[.o 1],_,[],[],[11]⟩,⟨[.p 0 0,.p 1 0],_,[],[0,1],[12]⟩]) (F:=[.o 0,.o 1,.o 2]) hst hb Zb
   (Qm rfl u_0<|Qm rfl u_0<|o_p rfl (Zdx Zcn (by simpa using hk) rfl rfl u_0 u_1)<|o_n) (fun a g hst hb=>?_)
  refine r_s (T:=[⟨[.o 2],_,[],[],[13]⟩,⟨[.p 0 0],_,[],[0],[14]⟩,⟨[.p 1 0],_,[],[0,1],[7]⟩]) (F:=[.o 0,.o 1,.o 2,.p 2 0]) hst hb Zb
   (Qm rfl u_0<|o_p rfl (Zch Tryd.underlying23 rfl rfl u_0)<|Qa rfl u_0<|o_n) (fun a g hst hb=>?_)
  refine wp_seq ?_
  refine r_s (T:=[⟨[.o 3],_,[],[],[15]⟩,⟨[.p 0 0],_,[],[0],[16]⟩]) (F:=[.o 0,.o 1,.o 2,.o 3,.p 1 0]) hst hb Zb
   (Qm rfl u_0<|o_p rfl (Zbq rfl rfl u_0 c_i)<|o_n) (fun a g hst hb=>?_)
  refine wp_cond_split (hst.bool 4 rfl) (fun hc=>?_) (fun hc=>?_)
  ·exact absurd (beq_iff_eq.1 hc) (by omega)
  ·refine wp_skip ?_
   refine Zy ?_
   refine r_s (L:=[(0,_),(1,_),(2,_),(7,_)]) (T:=[⟨[.o 0],_,[],[],[18]⟩,⟨[.p 0 0],_,[],[0],[19]⟩,⟨[.p 1 0],_,[],[0,1],[8]⟩]) (F:=[.o 0,.o 1,.o 2,.o 3,.p 2 0]) (hst.pick [0,1,2,3] rfl) hb Zb
    (Qm rfl u_0<|o_p rfl (Zlf Tryd.underlying23 rfl rfl u_0)<|Qa rfl u_0<|o_n) (fun a g hst hb=>?_)
   refine wp_seq ?_
   refine r_s (T:=[⟨[.o 1],_,[],[],[20]⟩,⟨[.o 4],_,[],[],[21]⟩,⟨[.p 0 0,.p 1 0],_,[],[0,1],[22]⟩]) (F:=[.o 0,.o 1,.o 2,.o 3,.o 4,.p 2 0]) hst hb Zb
    (Qm rfl u_0<|Qm rfl u_0<|o_p rfl (Zbq rfl rfl u_0 u_1)<|o_n) (fun a g hst hb=>?_)
   refine wp_cond_split (hst.bool 5 rfl) (fun hc=>?_) (fun hc=>?_)
   ·refine r_s (L:=[(0,_),(2,_)]) (T:=[⟨[.o 0],_,[],[],[23]⟩,⟨[.o 1],_,[],[],[24]⟩,⟨[.p 0 0,.p 1 0],_,[1],[0,1],[25,0,23]⟩,⟨[.p 2 0],_,[],[0,1,2],[6]⟩]) (F:=[.p 3 0]) (hst.pick [0,2] rfl) hb Zb
     (Qm rfl u_0<|Qm rfl u_0<|o_p rfl (Zmq Zcn rfl rfl u_0 u_1 hsz)<|Qa rfl u_0<|o_n) (fun a g hst hb=>?_)
    refine wp_ret ?_
    refine Zp ?_
    have hq:=hst.at 0 rfl
    have hkn:=beq_iff_eq.1 hc
    simp only [List.length_map] at hkn
    have hkn:k=a0.length:=by omega
    have he:a0.take k ++ a2 ++ a0.drop k=a0 ++ a2:=by simp [hkn]
    rw [he]
    exact Ziq rfl hst hb (Zi (s:=6)) hq
   ·have hkn:k ≠ a0.length:=fun h=>(beq_eq_false_iff_ne.1 hc) (by simp only [List.length_map];omega)
    refine wp_skip ?_
    refine Zy ?_
    refine wp_seq ?_
    refine r_s (L:=[(0,_),(1,_),(2,_),(7,_),(8,_)]) (T:=[⟨[.o 4],_,[],[],[26]⟩,⟨[.o 3],_,[],[],[27]⟩,⟨[.p 0 0,.p 1 0],_,[],[0,1],[28]⟩,⟨[.o 0],_,[],[],[29]⟩,⟨[.p 3 0],_,[],[3],[30]⟩,⟨[.p 2 0,.p 4 0],_,[],[0,1,2,3,4],[31]⟩]) (F:=[.o 0,.o 1,.o 2,.o 3,.o 4,.p 5 0]) (hst.pick [0,1,2,3,4] rfl) hb Zb
     (Qm rfl u_0<|Qm rfl u_0<|o_p rfl (Zcv rfl rfl u_0 u_1 (Zle (by simp only [List.length_map];omega)))<|Qm rfl u_0<|o_p rfl (Zws Tryd.underlying23 rfl rfl u_0)<|o_p rfl (Zc6 rfl rfl u_0 u_1)<|o_n) (fun a g hst hb=>?_)
    refine wp_cond_split (hst.bool 5 rfl) (fun hc2=>?_) (fun hc2=>?_)
    ·have hgr:cap < k + (a0.length + a2.length - k):=by have:=of_decide_eq_true hc2;simp only [List.length_map] at this;omega
     refine r_s (L:=[(0,_),(1,_),(2,_),(7,_),(8,_)]) (T:=[⟨[.o 0],_,[],[],[32]⟩,⟨[.o 1],_,[],[],[33]⟩,⟨[.p 0 0,.p 1 0],_,[],[0,1],[34]⟩,⟨[.o 4],_,[],[],[35]⟩,⟨[.o 3],_,[],[],[36]⟩,⟨[.p 3 0,.p 4 0],_,[],[3,4],[37]⟩,⟨[.o 1],_,[],[],[38]⟩,⟨[.p 5 0,.p 6 0],_,[],[3,4,5,6],[39]⟩,⟨[.p 2 0,.p 7 0,.o 0],[(40,(pOwn Zj 37 40 none ((a0.take k).map some ++ List.replicate (a0.length + a2.length - k) none)))],[41],[0,1,2,3,4,5,6,7],[40]⟩,⟨[.p 8 0],_,[],[0,1,2,3,4,5,6,7,8],[9]⟩]) (F:=[.o 0,.o 1,.o 2,.o 3,.p 9 0]) (hst.pick [0,1,2,3,4] rfl) hb Zb
      (Qm rfl u_0<|Qm rfl u_0<|o_p rfl (Zkh Zcn (by simpa using hk) rfl rfl u_0 u_1)<|Qm rfl u_0<|Qm rfl u_0<|o_p rfl (Zcv rfl rfl u_0 u_1 (Zle (by simp only [List.length_map];omega)))<|Qm rfl u_0<|o_p rfl (Zid rfl rfl u_0 u_1 (Zw9 (n:=a0.length + a2.length) (by simp only [List.length_map]) (by omega) (by omega)))<|o_p rfl (Zq9 (s:=0) (d2:=40) (xs:=a0.take k) Zcn Tryd.underlying3 (by simp;omega) (by simp;omega) (by omega) hgr (by rw [show k + (a0.length + a2.length - k)=a0.length + a2.length by omega];exact hsz) (Zl6 a0 k) rfl rfl u_0 u_1 u_2)<|Qa rfl u_0<|o_n) (fun a g hst hb=>?_)
     have hl1:(((a0.take k).map some ++ List.replicate (a0.length + a2.length - k) none):List (Option Zc)).length=a0.length + a2.length:=by simp;omega
     refine r_s (T:=[⟨[.o 4],_,[],[],[41]⟩,⟨[.o 1],_,[],[],[42]⟩,⟨[.p 0 0,.p 1 0],_,[],[0,1],[43]⟩,⟨[.o 2],_,[],[],[44]⟩,⟨[.p 2 0,.p 3 0,.o 4],_,[41],[0,1,2,3],[45,9,41,43]⟩]) (F:=[.o 0,.o 1,.o 2,.o 3,.p 4 1]) hst hb Zb
      (Qm rfl u_0<|Qm rfl u_0<|o_p rfl (Zdx Zcn (by rw [hl1];omega) rfl rfl u_0 u_1)<|Qm rfl u_0<|o_p rfl (Zow (s:=9) Zcn (by rw [hl1];omega) (by rw [hl1];omega) rfl rfl (by decide) u_0 u_1 u_2)<|o_n) (fun a g hst hb=>?_)
     have hl2:(over (((a0.take k).map some ++ List.replicate (a0.length + a2.length - k) none):List (Option Zc)) k a2).length=a0.length + a2.length:=by rw [Zg3 (by rw [hl1];omega),hl1]
     refine r_s (T:=[⟨[.o 4],_,[],[],[46]⟩,⟨[.o 1],_,[],[],[47]⟩,⟨[.o 3],_,[],[],[48]⟩,⟨[.p 1 0,.p 2 0],_,[],[1,2],[49]⟩,⟨[.p 0 0,.p 3 0],_,[],[0,1,2,3],[50]⟩,⟨[.o 0],_,[],[],[51]⟩,⟨[.o 1],_,[],[],[52]⟩,⟨[.p 5 0,.p 6 0],_,[],[5,6],[53]⟩,⟨[.p 4 0,.p 7 0,.o 4,.o 0],_,[41],[0,1,2,3,4,5,6,7],[54,9,46,50]⟩]) (F:=[.p 8 1]) hst hb Zb
      (Qm rfl u_0<|Qm rfl u_0<|Qm rfl u_0<|o_p rfl (Zcv rfl rfl u_0 u_1 (Zle (by omega)))<|o_p rfl (Zdx Zcn (by rw [hl2];omega) rfl rfl u_0 u_1)<|Qm rfl u_0<|Qm rfl u_0<|o_p rfl (Zdx Zcn (by simpa using hk) rfl rfl u_0 u_1)<|o_p rfl (Zoz (s:=9) (s2:=0) (ws:=a0.drop k) Zcn (by rw [hl2];omega) (by simp;omega) (by rw [hl2,List.length_map,List.length_drop];exact (Nat.min_eq_left (by omega)).symm) (fun i x hx=>by rw [List.getElem?_drop] at hx;rw [List.getElem?_map,hx];rfl) rfl rfl (by decide) u_0 u_1 u_2 u_3)<|o_n) (fun a g hst hb=>?_)
     refine r_s (T:=[⟨[.o 0],_,[],[],[55]⟩,⟨[.p 0 0],_,[],[0],[6]⟩]) (F:=[.p 1 0]) hst hb Zb
      (Qm rfl u_0<|Qa rfl u_0<|o_n) (fun a g hst hb=>?_)
     refine wp_ret ?_
     refine Zp ?_
     have hq:=hst.at 0 rfl
     rw [ins1 hk] at hq
     exact Ziq rfl hst hb (Zi (s:=6)) hq
    ·have hroom:a0.length + a2.length ≤ cap:=by have:=of_decide_eq_false hc2;simp only [List.length_map] at this;omega
     refine wp_skip ?_
     refine Zy ?_
     refine r_s (L:=[(0,_),(1,_),(2,_),(7,_),(8,_)]) (T:=[⟨[.o 0],_,[],[],[56]⟩,⟨[.o 4],_,[],[],[57]⟩,⟨[.o 3],_,[],[],[58]⟩,⟨[.p 1 0,.p 2 0],_,[],[1,2],[59]⟩,⟨[.p 0 0,.p 3 0],[(60,(pOwn Zj 37 0 (some cap) (a0.map some ++ List.replicate (a0.length + a2.length - (a0.map some).length) none)))],[],[0,1,2,3],[60]⟩,⟨[.p 4 0],_,[],[0,1,2,3,4],[0]⟩]) (F:=[.p 5 0,.o 1,.o 2,.o 3]) (hst.pick [0,1,2,3,4] rfl) hb Zb
      (Qm rfl u_0<|Qm rfl u_0<|Qm rfl u_0<|o_p rfl (Zcv rfl rfl u_0 u_1 (Zle (by simp only [List.length_map];omega)))<|o_p rfl (Zpz (h:=a0.length + a2.length) Zcn (by simp) hroom rfl rfl u_0 (Opd.to u_1 (by simp)))<|Qa rfl u_0<|o_n) (fun a g hst hb=>?_)
     have hl1:((a0.map some ++ List.replicate (a0.length + a2.length - (a0.map some).length) none):List (Option Zc)).length=a0.length + a2.length:=by simp
     refine wp_seq ?_
     refine r_s (T:=[⟨[.o 2],_,[],[],[61]⟩,⟨[.o 0],_,[],[],[62]⟩,⟨[.o 1],_,[],[],[63]⟩,⟨[.o 3],_,[],[],[64]⟩,⟨[.p 2 0,.p 3 0],_,[],[2,3],[65]⟩,⟨[.p 1 0,.p 4 0],_,[],[1,2,3,4],[66]⟩,⟨[.p 0 0,.p 5 0,.o 0],_,[],[0,1,2,3,4,5],[67]⟩,⟨[.p 6 0],_,[],[0,1,2,3,4,5,6],[68]⟩]) (F:=[.o 0,.o 1,.o 2,.o 3,.p 7 0]) hst hb Zb
      (Qm rfl u_0<|Qm rfl u_0<|Qm rfl u_0<|Qm rfl u_0<|o_p rfl (Zcv rfl rfl u_0 u_1 (Zle (by omega)))<|o_p rfl (Zdx Zcn (by rw [hl1];omega) rfl rfl u_0 u_1)<|o_p rfl (Zp7 (s:=0) Zcn rfl Zya (by rw [hl1];omega) rfl rfl u_0 u_1 u_2)<|Qn rfl u_0<|o_n) (fun a g hst hb=>?_)
     refine wp_cond_split (hst.bool 4 rfl) (fun hc3=>?_) (fun hc3=>absurd hc3 (by simp))
     refine r_s (L:=[(0,_),(1,_),(2,_),(7,_)]) (T:=[⟨[.o 0],_,[],[],[69]⟩,⟨[.o 1],_,[],[],[70]⟩,⟨[.o 3],_,[],[],[71]⟩,⟨[.p 1 0,.p 2 0],_,[],[1,2],[72]⟩,⟨[.p 0 0,.p 3 0],_,[],[0,1,2,3],[73]⟩,⟨[.o 0],_,[],[],[74]⟩,⟨[.o 1],_,[],[],[75]⟩,⟨[.p 5 0,.p 6 0],_,[],[5,6],[76]⟩,⟨[.p 4 0,.p 7 0,.o 0,.o 0],_,[1],[0,1,2,3,4,5,6,7],[77,0,69,73,74,76]⟩]) (F:=[.p 8 1,.o 1,.o 2,.o 3]) (hst.pick [0,1,2,3] rfl) hb Zb
      (Qm rfl u_0<|Qm rfl u_0<|Qm rfl u_0<|o_p rfl (Zcv rfl rfl u_0 u_1 (Zle (by omega)))<|o_p rfl (Zdx Zcn (by rw [hl1];omega) rfl rfl u_0 u_1)<|Qm rfl u_0<|Qm rfl u_0<|o_p rfl (Zdx Zcn (by rw [hl1];omega) rfl rfl u_0 u_1)<|o_p rfl (Zoz (s:=0) (s2:=0) (ws:=a0.drop k) Zcn (by rw [hl1];omega) (by rw [hl1];omega) (by rw [hl1,List.length_drop];have hm1:Nat.min (a0.length + a2.length - k) (a0.length + a2.length - (k + a2.length))=a0.length + a2.length - (k + a2.length):=Nat.min_eq_right (by omega);rw [hm1];omega) (fun i x hx=>by have hi:=(List.getElem?_eq_some_iff.1 hx).1;rw [List.length_drop] at hi;rw [List.getElem?_drop] at hx;rw [List.getElem?_append_left (by simp;omega),List.getElem?_map,hx];rfl) rfl rfl (by decide) u_0 u_1 u_2 u_3)<|o_n) (fun a g hst hb=>?_)
     have hl2:(over ((a0.map some ++ List.replicate (a0.length + a2.length - (a0.map some).length) none):List (Option Zc)) (k + a2.length) (a0.drop k)).length=a0.length + a2.length:=by rw [Zg3 (by rw [hl1,List.length_drop];omega),hl1]
     refine r_s (T:=[⟨[.o 0],_,[],[],[78]⟩,⟨[.o 1],_,[],[],[79]⟩,⟨[.p 0 0,.p 1 0],_,[],[0,1],[80]⟩,⟨[.o 2],_,[],[],[81]⟩,⟨[.p 2 0,.p 3 0,.o 0],_,[1],[0,1,2,3],[82,0,78,80]⟩]) (F:=[.p 4 1]) hst hb Zb
      (Qm rfl u_0<|Qm rfl u_0<|o_p rfl (Zdx Zcn (by rw [hl2];omega) rfl rfl u_0 u_1)<|Qm rfl u_0<|o_p rfl (Zow (s:=0) Zcn (by rw [hl2];omega) (by rw [hl2];omega) rfl rfl (by decide) u_0 u_1 u_2)<|o_n) (fun a g hst hb=>?_)
     refine r_s (T:=[⟨[.o 0],_,[],[],[83]⟩,⟨[.p 0 0],_,[],[0],[6]⟩]) (F:=[.p 1 0]) hst hb Zb
      (Qm rfl u_0<|Qa rfl u_0<|o_n) (fun a g hst hb=>?_)
     refine wp_ret ?_
     refine Zp ?_
     have hq:=hst.at 0 rfl
     rw [ins2 hk] at hq
     exact Ziq rfl hst hb (Zi (s:=6)) hq
theorem Zos (a0:Za) (a1:Zm) (a2:Zd) {r:Int × Za × Zd} (h:Zgh a0 a1 a2=some r):FnB Tryd.prog 41 [.box Ze a0 r.2.1,.val (Zq.pd a1),.box Zn a2 r.2.2] (pInt .i64 r.1):=by
 have H0:=h
 unfold Zgh at H0
 clear h
 refine Zfn (N:=46) Tryd.func41 rfl rfl (Qe rfl) rfl rfl (fun a g0 bs hbs hst hb=>?_)
 obtain ⟨b0,b2,rfl⟩:=Zg0 hbs
 replace hst:St 46 [(0,(Z9 (some b0) Ze 0 a0)),(1,(Zq.pd a1)),(2,(Z9 (some b2) Zn 2 a2))] _ _:=hst
 refine r_s (T:=[⟨[.o 1],_,[],[],[4]⟩,⟨[],_,[],[],[6]⟩]) (F:=[.o 0,.o 2,.p 0 0]) hst hb Zb
  (Qb rfl u_0<|Qa rfl c_i<|o_n) (fun a g hst hb=>?_)
 obtain ⟨r1,h2,H0⟩:=Zg H0
 refine r_s (T:=⟨[.o 0],_,[],[],[10]⟩ :: ⟨[.p 0 0],_,[],[0],[11]⟩ :: ⟨[.p 1 0],_,[],[0,1],[12]⟩ :: ⟨[.p 2 0],_,[],[0,1,2],[13]⟩ :: ⟨[.o 2],_,[],[],[14]⟩ :: ⟨[.p 4 0],_,[],[4],[15]⟩ :: ⟨[.p 3 0,.p 5 0],_,[],Lr 6,[16]⟩ :: ⟨[.p 6 0],_,[],Lr 7,[9]⟩ :: ⟨[.p 7 0],_,[],Lr 8,[17]⟩ :: ⟨[.p 7 0],_,[],Lr 8,[18]⟩ :: ⟨[.p 8 0],_,[],Lr 9,[7]⟩ :: ⟨[.p 9 0],_,[],Lr 11,[8]⟩ :: []) (F:=[.o 0,.o 1,.o 2,.p 10 0,.p 11 0]) hst hb Zb
  (Qm rfl u_0<|o_p rfl (Z4 rfl rfl u_0 (fun _ _ ⟨_,_,_,e,_⟩=>⟨_,e⟩))<|o_p rfl (Zs Zdh (off:=7) (by kernel_rfl) rfl rfl u_0)<|QP rfl Zer u_0<|Qf rfl Zf3 u_0<|Ql rfl ty_9 u_0<|o_p rfl (Zr Zq3 (Ziu _ _ h2) rfl rfl (.cons (Opd.wk Zf2 u_0) (.cons u_1 .nil)))<|Qm rfl u_0<|o_p rfl (Z8 rfl rfl u_0 rfl)<|o_p rfl (Z8 rfl rfl u_0 rfl)<|Qa rfl u_0<|Qa rfl u_0<|o_n) (fun a g hst hb=>?_)
 refine wp_seq ?_
 refine wp_block ?_
 refine r_s (T:=[⟨[.o 4],_,[],[],[20]⟩,⟨[.p 0 0],_,[],[0],[19]⟩]) (F:=[.o 0,.o 1,.o 2,.o 3,.p 1 0]) hst hb Zb
  (Qm rfl u_0<|Qa rfl u_0<|o_n) (fun a g hst hb=>?_)
 refine wp_cond_split (hst.bool 4 rfl) (fun hc3=>?_) (fun hc3=>?_)
 ·replace H0:=Z2 hc3 H0
  refine r_s (L:=[(0,_),(2,_)]) (T:=[⟨[],_,[],[],[6]⟩]) (F:=[.o 0,.o 1,.p 0 0]) (hst.pick [0,1] rfl) hb Zb
   (Qa rfl c_i<|o_n) (fun a g hst hb=>?_)
  refine wp_ret ?_
  refine Zx ?_
  refine Zp ?_
  obtain rfl:=Option.some.inj H0
  exact Zea rfl hst hb (Zi (s:=6)) (hst.at 2 rfl) ⟨Zbl (hst.at 0 rfl),Zbl (hst.at 1 rfl),trivial⟩
 ·replace H0:=Z3 hc3 H0
  refine r_s (L:=[(0,_),(2,_),(4,_),(7,_)]) (T:=[⟨[.o 0],_,[],[],[22]⟩,⟨[.p 0 0],_,[],[0],[23]⟩,⟨[.p 1 0],_,[],[0,1],[24]⟩,⟨[.p 2 0],_,[],[0,1,2],[25]⟩,⟨[.p 3 0],_,[],Lr 4,[26]⟩,⟨[.o 0],_,[],[],[27]⟩,⟨[.p 5 0],_,[],[5],[28]⟩,⟨[.p 6 0],_,[],[5,6],[29]⟩,⟨[.p 7 0],_,[],[5,6,7],[30]⟩,⟨[.p 4 0,.p 8 0],_,[],Lr 9,[31]⟩,⟨[.p 9 0],_,[],Lr 10,[21]⟩]) (F:=[.o 0,.o 1,.o 2,.o 3,.p 10 0]) (hst.pick [0,1,2,3] rfl) hb Zb
   (Qm rfl u_0<|o_p rfl (Z4 rfl rfl u_0 (fun _ _ ⟨_,_,_,e,_⟩=>⟨_,e⟩))<|o_p rfl (Zs Zdh (off:=7) (by kernel_rfl) rfl rfl u_0)<|QP rfl Zer u_0<|o_p rfl (Zch Tryd.underlying23 rfl rfl (Opd.wk Zf2 u_0))<|Qm rfl u_0<|o_p rfl (Z4 rfl rfl u_0 (fun _ _ ⟨_,_,_,e,_⟩=>⟨_,e⟩))<|o_p rfl (Zs Zo8 (off:=5) (by kernel_rfl) rfl rfl u_0)<|QP rfl ty_3 u_0<|o_p rfl (Zrl rfl rfl u_0 u_1)<|Qa rfl u_0<|o_n) (fun a g hst hb=>?_)
  refine wp_cond_split (hst.bool 4 rfl) (fun hc4=>?_) (fun hc4=>?_)
  ·replace H0:=Z2 hc4 H0
   refine r_s (L:=[(0,_),(2,_)]) (T:=[⟨[],_,[],[],[6]⟩]) (F:=[.o 0,.o 1,.p 0 0]) (hst.pick [0,1] rfl) hb Zb
    (Qa rfl c_i<|o_n) (fun a g hst hb=>?_)
   refine wp_ret ?_
   refine Zx ?_
   refine Zp ?_
   obtain rfl:=Option.some.inj H0
   exact Zea rfl hst hb (Zi (s:=6)) (hst.at 2 rfl) ⟨Zbl (hst.at 0 rfl),Zbl (hst.at 1 rfl),trivial⟩
  ·replace H0:=Z3 hc4 H0
   refine wp_skip ?_
   refine Zb7 ?_
   refine Zy ?_
   obtain ⟨r5,h6,H0⟩:=Zg H0;obtain ⟨r7,h8,H0⟩:=Zg H0
   refine r_s (L:=[(0,_),(2,_),(4,_),(7,_)]) (T:=⟨[.o 0],_,[],[],[32]⟩ :: ⟨[.o 0],_,[],[],[33]⟩ :: ⟨[.p 1 0],_,[],[1],[34]⟩ :: ⟨[.p 2 0],_,[],[1,2],[35]⟩ :: ⟨[.p 3 0],_,[],[1,2,3],[36]⟩ :: ⟨[.p 4 0],_,[38],List.range' 1 4,[37]⟩ :: ⟨[.o 3],_,[],[],[38]⟩ :: ⟨[.o 2],_,[],[],[39]⟩ :: ⟨[.p 7 0],_,[],[7],[40]⟩ :: ⟨[.p 8 0],_,[],[7,8],[41]⟩ :: ⟨[.p 9 0],_,[],[7,8,9],[42]⟩ :: ⟨[.p 5 0,.p 6 0,.p 10 0],_,[38],List.range' 1 10,[37,43]⟩ :: ⟨[.p 0 0],_,[],Lr 12,[44]⟩ :: ⟨[.p 12 0],_,[],Lr 13,[45]⟩ :: ⟨[.p 11 0,.p 13 0,.o 0],_,[1],Lr 14,[0,32,33,34,35,44,45]⟩ :: []) (F:=[.p 14 0,.o 1]) (hst.pick [0,1,2,3] rfl) hb Zb
    (Qm rfl u_0<|Qm rfl u_0<|o_p rfl (Z4 rfl rfl u_0 (fun _ _ ⟨_,_,_,e,_⟩=>⟨_,e⟩))<|o_p rfl (Zs Zdh (off:=7) (by kernel_rfl) rfl rfl u_0)<|QP rfl Zer u_0<|o_p rfl (Zi6 (j:=37) Zod (Zb9 _ h6) rfl rfl (.cons (Opd.wk Zf2 u_0) .nil))<|Qm rfl u_0<|Qf rfl Zf3 u_0<|Ql rfl ty_9 u_0<|o_p rfl (Zwc rfl rfl u_0)<|o_p rfl (Zky Zcn (xs:=[.tmp 41]) (.cons u_0 .nil) (by decide) rfl rfl)<|o_p rfl (Zjx Zuv (Zed _ _ _ h8) rfl rfl rfl u_0 (.cons u_1 (.cons u_2 .nil)))<|o_p rfl (Z4 rfl rfl u_0 (fun _ _ ⟨_,_,_,e,_⟩=>⟨_,e⟩))<|o_p rfl (Zs Zdh (off:=7) (by kernel_rfl) rfl rfl u_0)<|o_p rfl (Zl0 Zer rfl rfl u_2 u_1 u_0)<|o_n) (fun a g hst hb=>?_)
   refine r_s (T:=[⟨[],_,[],[],[6]⟩]) (F:=[.o 0,.o 1,.p 0 0]) hst hb Zb
    (Qa rfl c_i<|o_n) (fun a g hst hb=>?_)
   refine wp_ret ?_
   obtain rfl:=Option.some.inj H0
   exact Zea rfl hst hb (Zi (s:=6)) (hst.at 2 rfl) ⟨Zbl (hst.at 0 rfl),Zbl (hst.at 1 rfl),trivial⟩
theorem Zgt (a0:List Zc) (a1 a2:Int) {r:List Zc} (h:Zbz a0 a1 a2=some r):Zoa Tryd.prog 44 Zj 37 a0 [(pInt .i64 a1),(pInt .i64 a2)] ((Zj.slS 37).pd r):=by
 unfold Zbz at h
 obtain ⟨⟨hpos,hi0,hij,hj,hsz⟩,H0⟩:=Zgx h
 obtain rfl:=Option.some.inj H0
 obtain ⟨k,rfl⟩:=Int.eq_ofNat_of_zero_le hi0
 obtain ⟨l,rfl⟩:=Int.eq_ofNat_of_zero_le (Int.le_trans hi0 hij)
 have hkl:k ≤ l:=by omega
 have hl:l ≤ a0.length:=by omega
 simp only [Int.toNat_natCast]
 refine Zo0 (N:=33) Tryd.func44 rfl rfl (Qe rfl) rfl (fun hx a g A0 hst hb=>?_) (fun a g cap hcap hmax hst hb=>?_)
 ·rw [hx] at hpos;cases hpos
 ·refine r_s (T:=[⟨[],[(6,(Zj.sl.pd []))],[],[],[6]⟩]) (F:=[.o 0,.o 1,.o 2]) hst hb Zb
   (o_p rfl (Zfr rfl rfl (Opd.c (fun g=>Zi4 g)))<|o_n) (fun a g hst hb=>?_)
  refine r_s (T:=[⟨[.o 0],_,[],[],[8]⟩,⟨[.o 1],_,[],[],[9]⟩,⟨[.o 2],_,[],[],[10]⟩,⟨[.o 0],_,[],[],[11]⟩,⟨[.p 3 0],_,[],[3],[12]⟩,⟨[.p 0 0,.p 1 0,.p 2 0,.p 4 0],[],[],[0,1,2,3,4],[13]⟩]) (F:=[.o 0,.o 1,.o 2]) hst hb Zb
   (Qm rfl u_0<|Qm rfl u_0<|Qm rfl u_0<|Qm rfl u_0<|o_p rfl (Zlf Tryd.underlying23 rfl rfl u_0)<|o_p rfl (Zr3 Zcn hkl (by simpa using hl) (Nat.le_refl _) rfl u_0 u_1 u_2 u_3)<|o_n) (fun a g hst hb=>?_)
  refine wp_seq ?_
  refine r_s (T:=[⟨[.o 1],_,[],[],[14]⟩,⟨[.o 2],_,[],[],[15]⟩,⟨[.p 0 0,.p 1 0],_,[],[0,1],[16]⟩]) (F:=[.o 0,.o 1,.o 2,.p 2 0]) hst hb Zb
   (Qm rfl u_0<|Qm rfl u_0<|o_p rfl (Zbq rfl rfl u_0 u_1)<|o_n) (fun a g hst hb=>?_)
  refine wp_cond_split (hst.bool 3 rfl) (fun hc=>?_) (fun hc=>?_)
  ·refine r_s (L:=[(0,_)]) (T:=[⟨[.o 0],_,[],[],[17]⟩,⟨[.p 0 0],_,[],[0],[6]⟩]) (F:=[.p 1 0]) (hst.pick [0] rfl) hb Zb
    (Qm rfl u_0<|Qa rfl u_0<|o_n) (fun a g hst hb=>?_)
   refine wp_ret ?_
   refine Zp ?_
   have hq:=hst.at 0 rfl
   have hkl2:=beq_iff_eq.1 hc
   have he:a0.take k ++ a0.drop l=a0:=by rw [show l=k by omega,List.take_append_drop]
   rw [he]
   exact Ziq rfl hst hb (Zi (s:=6)) hq
  ·refine wp_skip ?_
   refine Zy ?_
   refine r_s (L:=[(0,_),(1,_),(2,_)]) (T:=[⟨[.o 0],_,[],[],[18]⟩,⟨[.p 0 0],_,[],[0],[19]⟩,⟨[.p 1 0],_,[],[0,1],[7]⟩]) (F:=[.o 0,.o 1,.o 2,.p 2 0]) (hst.pick [0,1,2] rfl) hb Zb
    (Qm rfl u_0<|o_p rfl (Zlf Tryd.underlying23 rfl rfl u_0)<|Qa rfl u_0<|o_n) (fun a g hst hb=>?_)
   refine r_s (T:=[⟨[.o 0],_,[],[],[20]⟩,⟨[.o 1],_,[],[],[21]⟩,⟨[.p 0 0,.p 1 0],_,[],[0,1],[22]⟩,⟨[.o 0],_,[],[],[23]⟩,⟨[.o 2],_,[],[],[24]⟩,⟨[.p 3 0,.p 4 0],_,[],[3,4],[25]⟩,⟨[.p 2 0,.p 5 0,.o 0],[(26,(pOwn Zj 37 0 (some cap) ((a0.take k ++ a0.drop l).map some)))],[1],[0,1,2,3,4,5],[26,0,20,22,23,25]⟩,⟨[.p 6 0],_,[],[0,1,2,3,4,5,6],[0]⟩]) (F:=[.p 7 0,.o 3]) hst hb Zb
    (Qm rfl u_0<|Qm rfl u_0<|o_p rfl (Zkh Zcn (by simp;omega) rfl rfl u_0 u_1)<|Qm rfl u_0<|Qm rfl u_0<|o_p rfl (Zdx Zcn (by simpa using hl) rfl rfl u_0 u_1)<|o_p rfl (Zrq (s:=0) (k:=cap) (xs:=a0.take k) (ws:=a0.drop l) Zcn (by simp;omega) (by simp;omega) (by simp;omega) (by simp) (Zl6 a0 k) (Zq8 a0 l) rfl rfl u_0 u_1 u_2)<|Qa rfl u_0<|o_n) (fun a g hst hb=>?_)
   have hl2:((a0.take k ++ a0.drop l).map some).length=k + (a0.length - l):=by simp;omega
   refine r_s (T:=[⟨[.o 0],_,[],[],[27]⟩,⟨[.o 0],_,[],[],[28]⟩,⟨[.p 1 0],_,[],[1],[29]⟩,⟨[.o 1],_,[],[],[30]⟩,⟨[.p 0 0,.p 2 0,.p 3 0],_,[],[0,1,2,3],[31]⟩,⟨[.p 4 0,.o 0],_,[1],[0,1,2,3,4],[0,27,28,31]⟩]) (F:=[.p 5 0]) hst hb Zb
    (Qm rfl u_0<|Qm rfl u_0<|o_p rfl (Zlf Tryd.underlying23 rfl rfl u_0)<|Qm rfl u_0<|o_p rfl (Zr1 (k:=cap) Zcn (by rw [hl2,List.length_map];omega) (by rw [List.length_map];omega) rfl rfl u_0 u_1 u_2)<|o_p rfl (Zs7 (s:=0) (k:=cap) Zcn (by kernel_rfl) (Nat.le_refl _) (by rw [hl2,List.length_map];omega) rfl rfl u_0 u_1)<|o_n) (fun a g hst hb=>?_)
   refine r_s (T:=[⟨[.o 0],_,[],[],[32]⟩,⟨[.p 0 0],_,[],[0],[6]⟩]) (F:=[.p 1 0]) hst hb Zb
    (Qm rfl u_0<|Qa rfl u_0<|o_n) (fun a g hst hb=>?_)
   refine wp_ret ?_
   exact Ziq rfl hst hb (Zi (s:=6)) (hst.at 0 rfl)
theorem Zlj (a0:Za) (a1:Zm) (a2:Zd) {r:Int × Za × Zd} (h:Zds a0 a1 a2=some r):FnB Tryd.prog 42 [.box Ze a0 r.2.1,.val (Zq.pd a1),.box Zn a2 r.2.2] (pInt .i64 r.1):=by
 have H0:=h
 unfold Zds at H0
 clear h
 refine Zfn (N:=32) Tryd.func42 rfl rfl (Qe rfl) rfl rfl (fun a g0 bs hbs hst hb=>?_)
 obtain ⟨b0,b2,rfl⟩:=Zg0 hbs
 replace hst:St 32 [(0,(Z9 (some b0) Ze 0 a0)),(1,(Zq.pd a1)),(2,(Z9 (some b2) Zn 2 a2))] _ _:=hst
 refine r_s (T:=[⟨[.o 1],_,[],[],[4]⟩,⟨[],_,[],[],[6]⟩]) (F:=[.o 0,.o 2,.p 0 0]) hst hb Zb
  (Qb rfl u_0<|Qa rfl c_i<|o_n) (fun a g hst hb=>?_)
 refine wp_seq ?_
 obtain ⟨r1,h2,H0⟩:=Zg H0
 refine r_s (T:=⟨[.o 0],_,[],[],[10]⟩ :: ⟨[.p 0 0],_,[],[0],[11]⟩ :: ⟨[.p 1 0],_,[],[0,1],[12]⟩ :: ⟨[.p 2 0],_,[],[0,1,2],[13]⟩ :: ⟨[.o 2],_,[],[],[14]⟩ :: ⟨[.p 4 0],_,[],[4],[15]⟩ :: ⟨[.p 3 0,.p 5 0],_,[],Lr 6,[16]⟩ :: ⟨[.p 6 0],_,[],Lr 7,[9]⟩ :: ⟨[.p 7 0],_,[],Lr 8,[17]⟩ :: ⟨[.p 7 0],_,[],Lr 8,[18]⟩ :: ⟨[.p 8 0],_,[],Lr 9,[7]⟩ :: ⟨[.p 9 0],_,[],Lr 11,[8]⟩ :: []) (F:=[.o 0,.o 1,.p 10 0,.p 11 0]) hst hb Zb
  (Qm rfl u_0<|o_p rfl (Z4 rfl rfl u_0 (fun _ _ ⟨_,_,_,e,_⟩=>⟨_,e⟩))<|o_p rfl (Zs Zdh (off:=7) (by kernel_rfl) rfl rfl u_0)<|QP rfl Zer u_0<|Qf rfl Zf3 u_0<|Ql rfl ty_9 u_0<|o_p rfl (Zr Zq3 (Ziu _ _ h2) rfl rfl (.cons (Opd.wk Zf2 u_0) (.cons u_1 .nil)))<|Qm rfl u_0<|o_p rfl (Z8 rfl rfl u_0 rfl)<|o_p rfl (Z8 rfl rfl u_0 rfl)<|Qa rfl u_0<|Qa rfl u_0<|o_n) (fun a g hst hb=>?_)
 refine r_s (T:=[⟨[.o 3],_,[],[],[19]⟩]) (F:=[.o 0,.o 1,.o 2,.p 0 0]) hst hb Zb
  (Qm rfl u_0<|o_n) (fun a g hst hb=>?_)
 refine Zdj (fun a w=>∃ (j8:Za) (g:G),w=g.w ∧ St 32 [(0,(Z9 (some b0) Ze 0 j8)),(2,(Z9 (some b2) Zn 2 a2))] a g ∧ Base g0 g ∧ Zec a2 j8=some r) ?_ ?_
 ·rintro a w ⟨j8,g,rfl,hst,hb,H0⟩
  unfold Zec at H0
  refine Zy ?_
  refine r_s (T:=[⟨[],_,[],[],[6]⟩]) (F:=[.o 0,.o 1,.p 0 0]) hst hb Zb
   (Qa rfl c_i<|o_n) (fun a g hst hb=>?_)
  refine wp_ret ?_
  obtain rfl:=Option.some.inj H0
  exact Zea rfl hst hb (Zi (s:=6)) (hst.at 2 rfl) ⟨Zbl (hst.at 0 rfl),Zbl (hst.at 1 rfl),trivial⟩
 ·refine wp_cond_split (hst.bool 3 rfl) (fun hc3=>?_) (fun hc3=>?_)
  ·replace H0:=Z2 hc3 H0
   obtain ⟨r4,h5,H0⟩:=Zg H0;obtain ⟨r6,h7,H0⟩:=Zg H0
   refine r_g (L:=[(0,_),(2,_),(7,_)]) (T:=⟨[.o 0],_,[],[],[20]⟩ :: ⟨[.o 0],_,[],[],[21]⟩ :: ⟨[.p 1 0],_,[],[1],[22]⟩ :: ⟨[.p 2 0],_,[],[1,2],[23]⟩ :: ⟨[.p 3 0],_,[],[1,2,3],[24]⟩ :: ⟨[.p 4 0],_,[26],List.range' 1 4,[25]⟩ :: ⟨[.o 2],_,[],[],[26]⟩ :: ⟨[.o 2],_,[],[],[27]⟩ :: ⟨[.p 7 0],_,[],[7],[28]⟩ :: ⟨[.p 5 0,.p 6 0,.p 8 0],_,[26],List.range' 1 8,[25,29]⟩ :: ⟨[.p 0 0],_,[],Lr 10,[30]⟩ :: ⟨[.p 10 0],_,[],Lr 11,[31]⟩ :: ⟨[.p 9 0,.p 11 0,.o 0],_,[1],Lr 12,[0,20,21,22,23,30,31]⟩ :: []) (F:=[.p 12 0,.o 1]) (hst.pick [0,1,2] rfl) hb Zb
    (Qm rfl u_0<|Qm rfl u_0<|o_p rfl (Z4 rfl rfl u_0 (fun _ _ ⟨_,_,_,e,_⟩=>⟨_,e⟩))<|o_p rfl (Zs Zdh (off:=7) (by kernel_rfl) rfl rfl u_0)<|QP rfl Zer u_0<|o_p rfl (Zi6 (j:=25) Zod (Zb9 _ h5) rfl rfl (.cons (Opd.wk Zf2 u_0) .nil))<|Qm rfl u_0<|Qm rfl u_0<|o_p rfl (Zcv rfl rfl u_0 c_i rfl)<|o_p rfl (Zjx Zzh (Zgt _ _ _ h7) rfl rfl rfl u_0 (.cons u_1 (.cons u_2 .nil)))<|o_p rfl (Z4 rfl rfl u_0 (fun _ _ ⟨_,_,_,e,_⟩=>⟨_,e⟩))<|o_p rfl (Zs Zdh (off:=7) (by kernel_rfl) rfl rfl u_0)<|o_p rfl (Zl0 Zer rfl rfl u_2 u_1 u_0)<|o_n) (fun a g hst hb=>?_)
   exact ⟨({ a0 with List:=r6 }),g,rfl,(hst.pick [0,1] rfl),hb,H0⟩
  ·replace H0:=Z3 hc3 H0
   refine wp_skip ?_
   exact ⟨a0,g,rfl,(hst.pick [0,1] rfl),hb,H0⟩
theorem Zlk (a0:Za) (a1:Zm) (a2:Zd) {r:Int × Za × Zd} (h:Zen a0 a1 a2=some r):FnB Tryd.prog 45 [.box Ze a0 r.2.1,.val (Zq.pd a1),.box Zn a2 r.2.2] (pInt .i64 r.1):=by
 have H0:=h
 unfold Zen at H0
 clear h
 refine Zfn (N:=21) Tryd.func45 rfl rfl (Qe rfl) rfl rfl (fun a g0 bs hbs hst hb=>?_)
 obtain ⟨b0,b2,rfl⟩:=Zg0 hbs
 replace hst:St 21 [(0,(Z9 (some b0) Ze 0 a0)),(1,(Zq.pd a1)),(2,(Z9 (some b2) Zn 2 a2))] _ _:=hst
 refine r_s (T:=[⟨[.o 1],_,[],[],[4]⟩,⟨[],_,[],[],[6]⟩]) (F:=[.o 0,.o 2,.p 0 0]) hst hb Zb
  (Qb rfl u_0<|Qa rfl c_i<|o_n) (fun a g hst hb=>?_)
 refine wp_seq ?_
 obtain ⟨r1,h2,H0⟩:=Zg H0
 refine r_s (T:=⟨[.o 0],_,[],[],[10]⟩ :: ⟨[.p 0 0],_,[],[0],[11]⟩ :: ⟨[.p 1 0],_,[],[0,1],[12]⟩ :: ⟨[.p 2 0],_,[],[0,1,2],[13]⟩ :: ⟨[.o 2],_,[],[],[14]⟩ :: ⟨[.p 4 0],_,[],[4],[15]⟩ :: ⟨[.p 3 0,.p 5 0],_,[],Lr 6,[16]⟩ :: ⟨[.p 6 0],_,[],Lr 7,[9]⟩ :: ⟨[.p 7 0],_,[],Lr 8,[17]⟩ :: ⟨[.p 7 0],_,[],Lr 8,[18]⟩ :: ⟨[.p 8 0],_,[],Lr 9,[7]⟩ :: ⟨[.p 9 0],_,[],Lr 11,[8]⟩ :: []) (F:=[.o 0,.o 1,.p 11 0]) hst hb Zb
  (Qm rfl u_0<|o_p rfl (Z4 rfl rfl u_0 (fun _ _ ⟨_,_,_,e,_⟩=>⟨_,e⟩))<|o_p rfl (Zs Zdh (off:=7) (by kernel_rfl) rfl rfl u_0)<|QP rfl Zer u_0<|Qf rfl Zf3 u_0<|Ql rfl ty_9 u_0<|o_p rfl (Zr Zq3 (Ziu _ _ h2) rfl rfl (.cons (Opd.wk Zf2 u_0) (.cons u_1 .nil)))<|Qm rfl u_0<|o_p rfl (Z8 rfl rfl u_0 rfl)<|o_p rfl (Z8 rfl rfl u_0 rfl)<|Qa rfl u_0<|Qa rfl u_0<|o_n) (fun a g hst hb=>?_)
 refine r_s (T:=[⟨[.o 2],_,[],[],[19]⟩,⟨[.p 0 0],_,[],[0],[20]⟩]) (F:=[.o 0,.o 1,.p 1 0]) hst hb Zb
  (Qm rfl u_0<|Qn rfl u_0<|o_n) (fun a g hst hb=>?_)
 refine wp_cond_split (hst.bool 2 rfl) (fun hc3=>?_) (fun hc3=>?_)
 ·replace H0:=Z2 hc3 H0
  refine r_s (L:=[(0,_),(2,_)]) (T:=[⟨[],_,[],[],[6]⟩]) (F:=[.o 0,.o 1,.p 0 0]) (hst.pick [0,1] rfl) hb Zb
   (Qa rfl c_i<|o_n) (fun a g hst hb=>?_)
  refine wp_ret ?_
  refine Zp ?_
  obtain rfl:=Option.some.inj H0
  exact Zea rfl hst hb (Zi (s:=6)) (hst.at 2 rfl) ⟨Zbl (hst.at 0 rfl),Zbl (hst.at 1 rfl),trivial⟩
 ·replace H0:=Z3 hc3 H0
  refine wp_skip ?_
  refine Zy ?_
  refine r_s (L:=[(0,_),(2,_)]) (T:=[⟨[],_,[],[],[6]⟩]) (F:=[.o 0,.o 1,.p 0 0]) (hst.pick [0,1] rfl) hb Zb
   (Qa rfl c_i<|o_n) (fun a g hst hb=>?_)
  refine wp_ret ?_
  obtain rfl:=Option.some.inj H0
  exact Zea rfl hst hb (Zi (s:=6)) (hst.at 2 rfl) ⟨Zbl (hst.at 0 rfl),Zbl (hst.at 1 rfl),trivial⟩
theorem Zn8 (a0:Za) (a1:Zm) (a2:Zd) {r:Int × Za × Zd} (h:Zfz a0 a1 a2=some r):FnB Tryd.prog 46 [.box Ze a0 r.2.1,.val (Zq.pd a1),.box Zn a2 r.2.2] (pInt .i64 r.1):=by
 have H0:=h
 unfold Zfz at H0
 clear h
 refine Zfn (N:=75) Tryd.func46 rfl rfl (Qe rfl) rfl rfl (fun a g0 bs hbs hst hb=>?_)
 obtain ⟨b0,b2,rfl⟩:=Zg0 hbs
 replace hst:St 75 [(0,(Z9 (some b0) Ze 0 a0)),(1,(Zq.pd a1)),(2,(Z9 (some b2) Zn 2 a2))] _ _:=hst
 refine r_s (T:=[⟨[.o 1],_,[],[],[4]⟩,⟨[],_,[],[],[6]⟩]) (F:=[.o 0,.o 2,.p 0 0]) hst hb Zb
  (Qb rfl u_0<|Qa rfl c_i<|o_n) (fun a g hst hb=>?_)
 refine r_s (T:=[⟨[.o 2],_,[],[],[10]⟩,⟨[.p 0 0],_,[],[0],[11]⟩,⟨[.o 2],_,[],[],[12]⟩,⟨[.p 2 0],_,[],[2],[13]⟩,⟨[.p 1 0,.p 3 0],_,[],Lr 4,[14]⟩,⟨[],[(7,(pBox Zj 7 (default:Zc)))],[8],[],[7]⟩,⟨[.p 4 0,.p 5 0],_,[8],Lr 6,[7]⟩]) (F:=[.o 0,.o 1,.p 6 0]) hst hb Zb
  (Qf rfl Zla u_0<|Ql rfl Zdo u_0<|Qf rfl Zf3 u_0<|Ql rfl ty_9 u_0<|o_p rfl (Zs9 rfl rfl u_0 u_1)<|o_p rfl (Zby (zs:=[.float .f64 0,.string ByteArray.empty]) (by kernel_rfl) (fun g=>Zgw g) rfl rfl)<|o_p rfl (Zda Zd8 rfl rfl u_1 u_0)<|o_n) (fun a g hst hb=>?_)
 refine r_s (T:=[⟨[],_,[],[],[8]⟩]) (F:=[.o 0,.o 1,.o 2,.p 0 0]) hst hb Zb
  (Qa rfl c_i<|o_n) (fun a g hst hb=>?_)
 obtain ⟨z8,hz1,H0⟩:=Zg H0
 refine wp_seq ?_
 refine Zdj (fun a w=>∃ (y7:Int) (g:G),w=g.w ∧ St 75 [(0,(Z9 (some b0) Ze 0 a0)),(2,(Z9 (some b2) Zn 2 a2)),(7,(Zj.ptr ({ Score:=a1.X,Name:=a1.S }:Zc))),(8,(pInt .i64 y7))] a g ∧ Base g0 g ∧ y7=z8) ?_ ?_
 ·rintro a w ⟨y7,g,rfl,hst,hb,rfl⟩
  refine Zy ?_
  refine wp_seq ?_
  obtain ⟨e9,h10,H0⟩:=Zg H0;obtain ⟨r11,h12,H0⟩:=Zg H0
  refine r_s (T:=⟨[.o 3],_,[],[],[35]⟩ :: ⟨[.o 0],_,[],[],[36]⟩ :: ⟨[.p 1 0],_,[],[1],[37]⟩ :: ⟨[.p 2 0],_,[],[1,2],[38]⟩ :: ⟨[.p 3 0],_,[],[1,2,3],[39]⟩ :: ⟨[.p 4 0],_,[],List.range' 1 4,[40]⟩ :: ⟨[.p 0 0,.p 5 0],_,[],Lr 6,[41]⟩ :: ⟨[.p 6 0],_,[],Lr 7,[42]⟩ :: ⟨[.p 7 0,.o 2],_,[],Lr 8,[43]⟩ :: ⟨[.p 7 0,.o 0],_,[],Lr 8,[44]⟩ :: ⟨[.p 7 0,.p 9 0],_,[],[0,1,2,3,4,5,6,7,9],[45]⟩ :: ⟨[.p 7 0,.p 10 0],_,[],[0,1,2,3,4,5,6,7,9,10],[46]⟩ :: ⟨[.p 7 0,.p 11 0],_,[],[0,1,2,3,4,5,6,7,9,10,11],[47]⟩ :: ⟨[.p 7 0,.o 3],_,[],Lr 8,[48]⟩ :: ⟨[.p 7 0,.p 12 0,.p 13 0],_,[],0 :: 1 :: 2 :: 3 :: 4 :: 5 :: 6 :: 7 :: 9 :: 10 :: 11 :: 12 :: 13 :: [],[49]⟩ :: ⟨[.p 7 0,.p 14 0],_,[],0 :: 1 :: 2 :: 3 :: 4 :: 5 :: 6 :: 7 :: 9 :: 10 :: 11 :: 12 :: 13 :: 14 :: [],[50]⟩ :: ⟨[.p 7 0,.p 8 0,.p 15 0],_,[],Lr 16,[51]⟩ :: ⟨[.p 7 0,.p 16 0],_,[],Lr 17,[52]⟩ :: ⟨[.p 7 0,.p 17 0],_,[],Lr 18,[53]⟩ :: []) (F:=[.o 0,.o 1,.o 2,.o 3,.p 18 0]) hst hb Zb
   (Qm rfl u_0<|Qm rfl u_0<|o_p rfl (Z4 rfl rfl u_0 (fun _ _ ⟨_,_,_,e,_⟩=>⟨_,e⟩))<|o_p rfl (Zs Zdh (off:=7) (by kernel_rfl) rfl rfl u_0)<|QP rfl Zer u_0<|o_p rfl (Zch Tryd.underlying23 rfl rfl (Opd.wk Zf2 u_0))<|o_p rfl (Zdp rfl rfl u_0 u_1)<|Qm rfl u_0<|o_g (Qg_t rfl (fun hG=>Zo Zd8 rfl rfl u_0))<|o_g (Qg_t rfl (fun hG=>Zbc rfl rfl u_0))<|o_g (Qg_t rfl (fun hG=>Z4 rfl rfl (Opd.gd hG u_0) (fun _ _ ⟨_,_,_,e,_⟩=>⟨_,e⟩)))<|o_g (Qg_t rfl (fun hG=>Zs Zdh (off:=7) (by kernel_rfl) rfl rfl (Opd.gd hG u_0)))<|o_g (Qg_t rfl (fun hG=>Zix Zer rfl rfl (Opd.gd hG u_0)))<|o_g (Qg_t rfl (fun hG=>Zbc rfl rfl u_0))<|o_g (Qg_t rfl (fun hG=>Zbt Tryd.underlying23 Zel rfl rfl (Opd.wk Zf2 (Opd.gd hG u_0)) (Opd.gd hG u_1) (Zbx h10 hG)))<|o_g (Qg_t rfl (fun hG=>Zo Zd8 rfl rfl (Opd.gd hG u_0)))<|o_g (Qg_t rfl (fun hG=>Zr Zq2 (Zii _ _ (Zbx h12 hG)) rfl rfl (.cons (Opd.gd hG u_0) (.cons (Opd.gd hG u_1) .nil))))<|o_g (Qg_t rfl (fun hG=>Zhi rfl rfl (Opd.gd hG u_0)))<|o_p rfl (Zbh rfl rfl u_0 (fun hz=>(Opd.gd hz u_1)))<|o_n) (fun a g hst hb=>?_)
  refine wp_cond_split (hst.bool 4 rfl) (fun hc13=>?_) (fun hc13=>?_)
  ·replace H0:=Z2 hc13 H0
   refine r_s (L:=[(0,_),(2,_)]) (T:=[⟨[],_,[],[],[6]⟩]) (F:=[.o 0,.o 1,.p 0 0]) (hst.pick [0,1] rfl) hb Zb
    (Qa rfl c_i<|o_n) (fun a g hst hb=>?_)
   refine wp_ret ?_
   refine Zp ?_
   obtain rfl:=Option.some.inj H0
   exact Zea rfl hst hb (Zi (s:=6)) (hst.at 2 rfl) ⟨Zbl (hst.at 0 rfl),Zbl (hst.at 1 rfl),trivial⟩
  ·replace H0:=Z3 hc13 H0
   refine wp_skip ?_
   refine Zy ?_
   obtain ⟨r14,h15,H0⟩:=Zg H0;obtain ⟨r16,h17,H0⟩:=Zg H0
   refine r_s (L:=[(0,_),(2,_),(7,_),(8,_)]) (T:=[⟨[.o 0],_,[],[],[54]⟩,⟨[.p 0 0],_,[],[0],[55]⟩,⟨[.p 1 0],_,[],[0,1],[56]⟩,⟨[.p 2 0],_,[],[0,1,2],[57]⟩,⟨[.p 3 0],_,[59],Lr 4,[58]⟩,⟨[.o 3],_,[],[],[59]⟩,⟨[.o 2],_,[],[],[60]⟩,⟨[.p 6 0],_,[],[6],[61]⟩,⟨[.p 4 0,.p 5 0,.p 7 0],_,[59],Lr 8,[58,62]⟩,⟨[.p 8 0],_,[],Lr 9,[9]⟩]) (F:=[.o 0,.o 1,.p 9 0]) (hst.pick [0,1,2,3] rfl) hb Zb
    (Qm rfl u_0<|o_p rfl (Z4 rfl rfl u_0 (fun _ _ ⟨_,_,_,e,_⟩=>⟨_,e⟩))<|o_p rfl (Zs Zdh (off:=7) (by kernel_rfl) rfl rfl u_0)<|QP rfl Zer u_0<|o_p rfl (Zi6 (j:=58) Zod (Zb9 _ h15) rfl rfl (.cons (Opd.wk Zf2 u_0) .nil))<|Qm rfl u_0<|Ql rfl Zd8 u_0<|o_p rfl (Zky Zcn (xs:=[.tmp 60]) (.cons u_0 .nil) (by decide) rfl rfl)<|o_p rfl (Zjx Zuv (Zed _ _ _ h17) rfl rfl rfl u_0 (.cons u_1 (.cons u_2 .nil)))<|Qa rfl u_0<|o_n) (fun a g hst hb=>?_)
   obtain ⟨c18,h19,H0⟩:=Zg H0
   refine r_s (T:=⟨[.o 0],_,[],[],[63]⟩ :: ⟨[.o 2],_,[],[],[64]⟩ :: ⟨[.o 2],_,[],[],[65]⟩ :: ⟨[.p 2 0],_,[],[2],[66]⟩ :: ⟨[.o 0],_,[],[],[67]⟩ :: ⟨[.p 4 0],_,[],[4],[68]⟩ :: ⟨[.p 5 0],_,[],[4,5],[69]⟩ :: ⟨[.p 6 0],_,[],[4,5,6],[70]⟩ :: ⟨[.p 3 0,.p 7 0],_,[],List.range' 2 6,[71]⟩ :: ⟨[.p 1 0,.p 8 0],_,[],List.range' 1 8,[72]⟩ :: ⟨[.p 0 0],_,[],Lr 10,[73]⟩ :: ⟨[.p 10 0],_,[],Lr 11,[74]⟩ :: ⟨[.p 9 0,.p 11 0,.o 0],_,[1],Lr 12,[0,63,67,68,69,73,74]⟩ :: []) (F:=[.p 12 0,.o 1]) hst hb Zb
    (Qm rfl u_0<|Qm rfl u_0<|Qm rfl u_0<|o_p rfl (Zch Tryd.underlying23 rfl rfl (Opd.wk Zf2 u_0))<|Qm rfl u_0<|o_p rfl (Z4 rfl rfl u_0 (fun _ _ ⟨_,_,_,e,_⟩=>⟨_,e⟩))<|o_p rfl (Zs Zo8 (off:=5) (by kernel_rfl) rfl rfl u_0)<|QP rfl ty_3 u_0<|o_p rfl (Zxc rfl rfl u_0 u_1)<|o_p rfl (Zuf Tryd.underlying23 Zel rfl rfl u_0 u_1 h19)<|o_p rfl (Z4 rfl rfl u_0 (fun _ _ ⟨_,_,_,e,_⟩=>⟨_,e⟩))<|o_p rfl (Zs Zdh (off:=7) (by kernel_rfl) rfl rfl u_0)<|o_p rfl (Zl0 Zer rfl rfl u_2 u_1 u_0)<|o_n) (fun a g hst hb=>?_)
   refine r_s (T:=[⟨[],_,[],[],[6]⟩]) (F:=[.o 0,.o 1,.p 0 0]) hst hb Zb
    (Qa rfl c_i<|o_n) (fun a g hst hb=>?_)
   refine wp_ret ?_
   obtain rfl:=Option.some.inj H0
   exact Zea rfl hst hb (Zi (s:=6)) (hst.at 2 rfl) ⟨Zbl (hst.at 0 rfl),Zbl (hst.at 1 rfl),trivial⟩
 ·refine wp_block ?_
  refine wp_loop_ghost (fun n a w=>∃ (x1:Int) (g:G),w=g.w ∧ St 75 [(0,(Z9 (some b0) Ze 0 a0)),(2,(Z9 (some b2) Zn 2 a2)),(7,(Zj.ptr ({ Score:=a1.X,Name:=a1.S }:Zc))),(8,(pInt .i64 x1))] a g ∧ Base g0 g ∧ Zc7 a0 a1 n x1=some z8) (Int.toNat ((a0.List.length:Int) - (0:Int)) + 1) ⟨(0:Int),g,rfl,(hst.pick [0,1,2,3] rfl),hb,hz1⟩ (fun n a w hI=>?_)
  obtain ⟨x1,g,rfl,hst,hb,H1⟩:=hI
  cases n with
  | zero=>exact absurd H1 (by simp [Zc7])
  | succ n =>
   rw [Zc7] at H1
   refine wp_seq ?_
   obtain ⟨e2,h3,H1⟩:=Zg H1;obtain ⟨r4,h5,H1⟩:=Zg H1
   refine r_s (T:=⟨[.o 3],_,[],[],[15]⟩ :: ⟨[.o 0],_,[],[],[16]⟩ :: ⟨[.p 1 0],_,[],[1],[17]⟩ :: ⟨[.p 2 0],_,[],[1,2],[18]⟩ :: ⟨[.p 3 0],_,[],[1,2,3],[19]⟩ :: ⟨[.p 4 0],_,[],List.range' 1 4,[20]⟩ :: ⟨[.p 0 0,.p 5 0],_,[],Lr 6,[21]⟩ :: ⟨[.p 6 0],_,[],Lr 7,[22]⟩ :: ⟨[.p 7 0,.o 0],_,[],Lr 8,[23]⟩ :: ⟨[.p 7 0,.p 8 0],_,[],Lr 9,[24]⟩ :: ⟨[.p 7 0,.p 9 0],_,[],Lr 10,[25]⟩ :: ⟨[.p 7 0,.p 10 0],_,[],Lr 11,[26]⟩ :: ⟨[.p 7 0,.o 3],_,[],Lr 8,[27]⟩ :: ⟨[.p 7 0,.p 11 0,.p 12 0],_,[],Lr 13,[28]⟩ :: ⟨[.p 7 0,.p 13 0],_,[],Lr 14,[29]⟩ :: ⟨[.p 7 0,.o 2],_,[],Lr 8,[30]⟩ :: ⟨[.p 7 0,.p 14 0,.p 15 0],_,[],Lr 16,[31]⟩ :: ⟨[.p 7 0,.p 16 0],_,[],Lr 17,[32]⟩ :: []) (F:=[.o 0,.o 1,.o 2,.o 3,.p 17 0]) hst hb Zb
    (Qm rfl u_0<|Qm rfl u_0<|o_p rfl (Z4 rfl rfl u_0 (fun _ _ ⟨_,_,_,e,_⟩=>⟨_,e⟩))<|o_p rfl (Zs Zdh (off:=7) (by kernel_rfl) rfl rfl u_0)<|QP rfl Zer u_0<|o_p rfl (Zch Tryd.underlying23 rfl rfl (Opd.wk Zf2 u_0))<|o_p rfl (Zdp rfl rfl u_0 u_1)<|Qm rfl u_0<|o_g (Qg_t rfl (fun hG=>Zbc rfl rfl u_0))<|o_g (Qg_t rfl (fun hG=>Z4 rfl rfl (Opd.gd hG u_0) (fun _ _ ⟨_,_,_,e,_⟩=>⟨_,e⟩)))<|o_g (Qg_t rfl (fun hG=>Zs Zdh (off:=7) (by kernel_rfl) rfl rfl (Opd.gd hG u_0)))<|o_g (Qg_t rfl (fun hG=>Zix Zer rfl rfl (Opd.gd hG u_0)))<|o_g (Qg_t rfl (fun hG=>Zbc rfl rfl u_0))<|o_g (Qg_t rfl (fun hG=>Zbt Tryd.underlying23 Zel rfl rfl (Opd.wk Zf2 (Opd.gd hG u_0)) (Opd.gd hG u_1) (Zbx h3 hG)))<|o_g (Qg_t rfl (fun hG=>Zo Zd8 rfl rfl (Opd.gd hG u_0)))<|o_g (Qg_t rfl (fun hG=>Zo Zd8 rfl rfl u_0))<|o_g (Qg_t rfl (fun hG=>Zr Zq2 (Zii _ _ (Zbx h5 hG)) rfl rfl (.cons (Opd.gd hG u_0) (.cons (Opd.gd hG u_1) .nil))))<|o_p rfl (Zbh rfl rfl u_0 (fun hz=>(Opd.gd hz u_1)))<|o_n) (fun a g hst hb=>?_)
   refine wp_cond_split (hst.bool 4 rfl) (fun hc6=>?_) (fun hc6=>?_)
   ·replace H1:=Z2 hc6 H1
    refine wp_skip ?_
    refine Zy ?_
    refine wp_block ?_
    refine r_g (L:=[(0,_),(2,_),(7,_),(8,_)]) (T:=[⟨[.o 3],_,[],[],[33]⟩,⟨[.p 0 0],_,[],[0],[34]⟩,⟨[.p 1 0],_,[],[0,1],[8]⟩]) (F:=[.o 0,.o 1,.o 2,.p 2 0]) (hst.pick [0,1,2,3] rfl) hb Zb
     (Qm rfl u_0<|o_p rfl (Zcv rfl rfl u_0 c_i rfl)<|Qa rfl u_0<|o_n) (fun a g hst hb=>?_)
    refine Zb7 ?_
    exact ⟨n,Nat.lt_succ_self _,(IntKind.i64.wrap (x1 + (1:Int))),g,rfl,(hst.pick [0,1,2,3] rfl),hb,H1⟩
   ·replace H1:=Z3 hc6 H1
    refine wp_exit ?_
    refine Zcu ?_
    refine Zcu ?_
    refine Zd5 ?_
    exact ⟨x1,g,rfl,(hst.pick [0,1,2,3] rfl),hb,Option.some.inj H1⟩
def Phi (k:Int) (f:FuncId) (C:List Pd):Prop:=∀ (x0 x1:Za) (a:Zm) (y0 y1:Zd) (c:Int),Z7 k x0 a y0=some (c,x1,y1) → FnB Tryd.prog f ([.box Ze x0 x1,.val (Zq.pd a),.box Zn y0 y1] ++ C.map .val) (pInt .i64 c)
theorem Zw2 {k:Int} {x0:Za} {a:Zm} {y0:Zd} {r:Int × Za × Zd} (h:Z7 k x0 a y0=some r):∀ f C,Phi k f C → FnB Tryd.prog f ([.box Ze x0 r.2.1,.val (Zq.pd a),.box Zn y0 r.2.2] ++ C.map .val) (pInt .i64 r.1):=fun f C hΦ=>hΦ _ _ _ _ _ _ h
def tabT:TabT:=fun k=>if 5 ≤ k ∧ k ≤ 21 then some (Phi k) else none
theorem Zxy {i:Int} (h:5 ≤ i ∧ i ≤ 21):tabT i.toNat=some (Phi i):=by
 unfold tabT
 rw [if_pos (by omega),show ((i.toNat:Nat):Int)=i by omega]
theorem Zy9:Phi 5 28 []:=fun x0 x1 a y0 y1 c h=>Zlg x0 a y0 (r:=(c,x1,y1)) (by simpa [Z7] using h)
theorem Zyu:Phi 6 29 []:=fun x0 x1 a y0 y1 c h=>Zln x0 a y0 (r:=(c,x1,y1)) (by simpa [Z7] using h)
theorem Zzb:Phi 7 30 []:=fun x0 x1 a y0 y1 c h=>Zlm x0 a y0 (r:=(c,x1,y1)) (by simpa [Z7] using h)
theorem Zzi:Phi 8 31 []:=fun x0 x1 a y0 y1 c h=>Zpj x0 a y0 (r:=(c,x1,y1)) (by simpa [Z7] using h)
theorem Zyq:Phi 9 32 []:=fun x0 x1 a y0 y1 c h=>Zi9 x0 a y0 (r:=(c,x1,y1)) (by simpa [Z7] using h)
theorem Zxm:Phi 10 33 []:=fun x0 x1 a y0 y1 c h=>Zli x0 a y0 (r:=(c,x1,y1)) (by simpa [Z7] using h)
theorem Zxi:Phi 11 34 []:=fun x0 x1 a y0 y1 c h=>Zll x0 a y0 (r:=(c,x1,y1)) (by simpa [Z7] using h)
theorem Zx6:Phi 12 32 []:=fun x0 x1 a y0 y1 c h=>Zi9 x0 a y0 (r:=(c,x1,y1)) (by simpa [Z7] using h)
theorem Zxp:Phi 13 55 [(Kd.fnc.ptr 36)]:=fun x0 x1 a y0 y1 c h=>by
 have h':Zcg (fun x y=>Zg9 x y) x0 a y0=some (c,x1,y1):=by simpa [Z7] using h
 obtain ⟨z,hz,h2⟩:=Zg h'
 injection h2 with h2
 simp only [Prod.mk.injEq] at h2
 obtain ⟨rfl,rfl,rfl⟩:=h2
 exact Zfm 36 Zyt (fun x y=>Zg9 x y) (fun x y z h=>Zrt x y h) x0 a y0 hz
theorem Zxn:Phi 14 55 [(Kd.fnc.ptr 37)]:=fun x0 x1 a y0 y1 c h=>by
 have h':Zcg (fun x y=>Zhd x y) x0 a y0=some (c,x1,y1):=by simpa [Z7] using h
 obtain ⟨z,hz,h2⟩:=Zg h'
 injection h2 with h2
 simp only [Prod.mk.injEq] at h2
 obtain ⟨rfl,rfl,rfl⟩:=h2
 exact Zfm 37 Zyg (fun x y=>Zhd x y) (fun x y z h=>Zri x y h) x0 a y0 hz
theorem Zxf:Phi 15 55 [(Kd.fnc.ptr 38)]:=fun x0 x1 a y0 y1 c h=>by
 have h':Zcg (fun x y=>Zge x y) x0 a y0=some (c,x1,y1):=by simpa [Z7] using h
 obtain ⟨z,hz,h2⟩:=Zg h'
 injection h2 with h2
 simp only [Prod.mk.injEq] at h2
 obtain ⟨rfl,rfl,rfl⟩:=h2
 exact Zfm 38 Zyj (fun x y=>Zge x y) (fun x y z h=>Zpw x y h) x0 a y0 hz
theorem Zx5:Phi 16 55 [(Kd.fnc.ptr 39)]:=fun x0 x1 a y0 y1 c h=>by
 have h':Zcg (fun x y=>Zfq x y) x0 a y0=some (c,x1,y1):=by simpa [Z7] using h
 obtain ⟨z,hz,h2⟩:=Zg h'
 injection h2 with h2
 simp only [Prod.mk.injEq] at h2
 obtain ⟨rfl,rfl,rfl⟩:=h2
 exact Zfm 39 Zyx (fun x y=>Zfq x y) (fun x y z h=>Zo6 x y h) x0 a y0 hz
theorem Zxd:Phi 17 55 [(Kd.fnc.ptr 40)]:=fun x0 x1 a y0 y1 c h=>by
 have h':Zcg (fun x y=>Zep x y) x0 a y0=some (c,x1,y1):=by simpa [Z7] using h
 obtain ⟨z,hz,h2⟩:=Zg h'
 injection h2 with h2
 simp only [Prod.mk.injEq] at h2
 obtain ⟨rfl,rfl,rfl⟩:=h2
 exact Zfm 40 Zye (fun x y=>Zep x y) (fun x y z h=>Zlh x y h) x0 a y0 hz
theorem Zxq:Phi 18 41 []:=fun x0 x1 a y0 y1 c h=>Zos x0 a y0 (r:=(c,x1,y1)) (by simpa [Z7] using h)
theorem Zxr:Phi 19 42 []:=fun x0 x1 a y0 y1 c h=>Zlj x0 a y0 (r:=(c,x1,y1)) (by simpa [Z7] using h)
theorem Zxu:Phi 20 45 []:=fun x0 x1 a y0 y1 c h=>Zlk x0 a y0 (r:=(c,x1,y1)) (by simpa [Z7] using h)
theorem Zxs:Phi 21 46 []:=fun x0 x1 a y0 y1 c h=>Zn8 x0 a y0 (r:=(c,x1,y1)) (by simpa [Z7] using h)
theorem Zp0 {N d:Nat} {o:Oper} {uses:Zu} (hop:o.op=.build 54 #[(5,.func 28),(6,.func 29),(7,.func 30),(8,.func 31),(9,.func 32),(12,.func 32),(10,.func 33),(11,.func 34),(13,.tmp 1),(14,.tmp 2),(15,.tmp 3),(16,.tmp 4),(17,.tmp 5),(18,.func 41),(19,.func 42),(20,.func 45),(21,.func 46)]) (hd:o.dst=some d) (h1:Opd uses (.tmp 1) (pClo 55 [(Kd.fnc.ptr 36)] rfl)) (h2:Opd uses (.tmp 2) (pClo 55 [(Kd.fnc.ptr 37)] rfl)) (h3:Opd uses (.tmp 3) (pClo 55 [(Kd.fnc.ptr 38)] rfl)) (h4:Opd uses (.tmp 4) (pClo 55 [(Kd.fnc.ptr 39)] rfl)) (h5:Opd uses (.tmp 5) (pClo 55 [(Kd.fnc.ptr 40)] rfl)):OB Tryd.prog N o uses [(d,((Kd.tab Tryd.prog 22 (by decide)).pd tabT))] [] :=
 Zbg hd fun a g hh=>by
  obtain ⟨c1,e1,k1⟩:=h1 a g hh
  obtain ⟨c2,e2,k2⟩:=h2 a g hh
  obtain ⟨c3,e3,k3⟩:=h3 a g hh
  obtain ⟨c4,e4,k4⟩:=h4 a g hh
  obtain ⟨c5,e5,k5⟩:=h5 a g hh
  refine ⟨.agg #[.nilFunc,.nilFunc,.nilFunc,.nilFunc,.nilFunc,.func (.func 28) #[] #[],.func (.func 29) #[] #[],.func (.func 30) #[] #[],.func (.func 31) #[] #[],.func (.func 32) #[] #[],.func (.func 33) #[] #[],.func (.func 34) #[] #[],.func (.func 32) #[] #[],.func (.func 55) #[] c1.toArray,.func (.func 55) #[] c2.toArray,.func (.func 55) #[] c3.toArray,.func (.func 55) #[] c4.toArray,.func (.func 55) #[] c5.toArray,.func (.func 41) #[] #[],.func (.func 42) #[] #[],.func (.func 45) #[] #[],.func (.func 46) #[] #[]],?_,[.nilFunc,.nilFunc,.nilFunc,.nilFunc,.nilFunc,.func (.func 28) #[] #[],.func (.func 29) #[] #[],.func (.func 30) #[] #[],.func (.func 31) #[] #[],.func (.func 32) #[] #[],.func (.func 33) #[] #[],.func (.func 34) #[] #[],.func (.func 32) #[] #[],.func (.func 55) #[] c1.toArray,.func (.func 55) #[] c2.toArray,.func (.func 55) #[] c3.toArray,.func (.func 55) #[] c4.toArray,.func (.func 55) #[] c5.toArray,.func (.func 41) #[] #[],.func (.func 42) #[] #[],.func (.func 45) #[] #[],.func (.func 46) #[] #[]],⟨rfl,?_,?_⟩,rfl⟩
  ·simp only [execOp,hop,Sem.run_bind,Sem.run_pure,Result.andThen_ok,List.map_toArray,List.map_cons,List.map_nil,e1,e2,e3,e4,e5]
   rw [Zo2 Tryd.underlying54 (zero:=.agg #[.nilFunc,.nilFunc,.nilFunc,.nilFunc,.nilFunc,.nilFunc,.nilFunc,.nilFunc,.nilFunc,.nilFunc,.nilFunc,.nilFunc,.nilFunc,.nilFunc,.nilFunc,.nilFunc,.nilFunc,.nilFunc,.nilFunc,.nilFunc,.nilFunc,.nilFunc]) (by kernel_rfl) (by kernel_rfl) (cells:=#[.nilFunc,.nilFunc,.nilFunc,.nilFunc,.nilFunc,.func (.func 28) #[] #[],.func (.func 29) #[] #[],.func (.func 30) #[] #[],.func (.func 31) #[] #[],.func (.func 32) #[] #[],.func (.func 33) #[] #[],.func (.func 34) #[] #[],.func (.func 32) #[] #[],.func (.func 55) #[] c1.toArray,.func (.func 55) #[] c2.toArray,.func (.func 55) #[] c3.toArray,.func (.func 55) #[] c4.toArray,.func (.func 55) #[] c5.toArray,.func (.func 41) #[] #[],.func (.func 42) #[] #[],.func (.func 45) #[] #[],.func (.func 46) #[] #[]]) (by kernel_rfl) g.w]
   rfl
  ·intro u hu
   simp only [List.mem_cons,List.not_mem_nil,or_false] at hu
   rcases hu with rfl | rfl | rfl | rfl | rfl | rfl | rfl | rfl | rfl | rfl | rfl | rfl | rfl | rfl | rfl | rfl | rfl | rfl | rfl | rfl | rfl | rfl <;> rfl
  ·intro k F u hF hu
   unfold tabT at hF
   split at hF
   ·rename_i hk
    obtain rfl:=Option.some.inj hF
    obtain ⟨hk1,hk2⟩:=hk
    have hk:k=5 ∨ k=6 ∨ k=7 ∨ k=8 ∨ k=9 ∨ k=10 ∨ k=11 ∨ k=12 ∨ k=13 ∨ k=14 ∨ k=15 ∨ k=16 ∨ k=17 ∨ k=18 ∨ k=19 ∨ k=20 ∨ k=21:=by omega
    rcases hk with rfl | rfl | rfl | rfl | rfl | rfl | rfl | rfl | rfl | rfl | rfl | rfl | rfl | rfl | rfl | rfl | rfl
    ·obtain rfl:=Option.some.inj hu;exact ⟨28,[],[],rfl,Zzd,rfl,Zy9,Zce,fun q hq=>by cases hq⟩
    ·obtain rfl:=Option.some.inj hu;exact ⟨29,[],[],rfl,Zy8,rfl,Zyu,Zce,fun q hq=>by cases hq⟩
    ·obtain rfl:=Option.some.inj hu;exact ⟨30,[],[],rfl,Zyr,rfl,Zzb,Zce,fun q hq=>by cases hq⟩
    ·obtain rfl:=Option.some.inj hu;exact ⟨31,[],[],rfl,Zzf,rfl,Zzi,Zce,fun q hq=>by cases hq⟩
    ·obtain rfl:=Option.some.inj hu;exact ⟨32,[],[],rfl,Zu2,rfl,Zyq,Zce,fun q hq=>by cases hq⟩
    ·obtain rfl:=Option.some.inj hu;exact ⟨33,[],[],rfl,Zyw,rfl,Zxm,Zce,fun q hq=>by cases hq⟩
    ·obtain rfl:=Option.some.inj hu;exact ⟨34,[],[],rfl,Zyc,rfl,Zxi,Zce,fun q hq=>by cases hq⟩
    ·obtain rfl:=Option.some.inj hu;exact ⟨32,[],[],rfl,Zu2,rfl,Zx6,Zce,fun q hq=>by cases hq⟩
    ·obtain rfl:=Option.some.inj hu;exact ⟨55,_,c1,rfl,Zmd,rfl,Zxp,k1,Zgd⟩
    ·obtain rfl:=Option.some.inj hu;exact ⟨55,_,c2,rfl,Zmd,rfl,Zxn,k2,Zgd⟩
    ·obtain rfl:=Option.some.inj hu;exact ⟨55,_,c3,rfl,Zmd,rfl,Zxf,k3,Zgd⟩
    ·obtain rfl:=Option.some.inj hu;exact ⟨55,_,c4,rfl,Zmd,rfl,Zx5,k4,Zgd⟩
    ·obtain rfl:=Option.some.inj hu;exact ⟨55,_,c5,rfl,Zmd,rfl,Zxd,k5,Zgd⟩
    ·obtain rfl:=Option.some.inj hu;exact ⟨41,[],[],rfl,Zyy,rfl,Zxq,Zce,fun q hq=>by cases hq⟩
    ·obtain rfl:=Option.some.inj hu;exact ⟨42,[],[],rfl,Zzj,rfl,Zxr,Zce,fun q hq=>by cases hq⟩
    ·obtain rfl:=Option.some.inj hu;exact ⟨45,[],[],rfl,Zyi,rfl,Zxu,Zce,fun q hq=>by cases hq⟩
    ·obtain rfl:=Option.some.inj hu;exact ⟨46,[],[],rfl,Zy4,rfl,Zxs,Zce,fun q hq=>by cases hq⟩
   ·cases hF
theorem Zsl:Ty Tryd.prog 54 (Kd.tab Tryd.prog 22 (by decide)):=⟨by kernel_rfl,by kernel_rfl⟩
theorem Zme:FnOk Tryd.prog 18 [] (pTab Tryd.prog 22 tabT):=by
 refine Zbv (N:=7) Tryd.func18 rfl rfl (Qe rfl) rfl rfl (fun a g0 hst hb=>?_)
 refine r_s (T:=[⟨[],[(0,(pBox (Kd.tab Tryd.prog 22 (by decide)) 0 (fun _=>none)))],[1],[],[0]⟩]) (F:=[.p 0 0]) hst hb Zb
  (o_p rfl (Zby (zs:=[.nilFunc,.nilFunc,.nilFunc,.nilFunc,.nilFunc,.nilFunc,.nilFunc,.nilFunc,.nilFunc,.nilFunc,.nilFunc,.nilFunc,.nilFunc,.nilFunc,.nilFunc,.nilFunc,.nilFunc,.nilFunc,.nilFunc,.nilFunc,.nilFunc,.nilFunc]) (by kernel_rfl) (fun g=>⟨rfl,by decide,fun k F u h=>by cases h⟩) rfl rfl)<|o_n) (fun a g hst hb=>?_)
 refine r_s (T:=[⟨[],_,[],[],[1]⟩,⟨[],_,[],[0],[2]⟩,⟨[],_,[],[0,1],[3]⟩,⟨[],_,[],[0,1,2],[4]⟩,⟨[],_,[],[0,1,2,3],[5]⟩,⟨[.p 0 0,.p 1 0,.p 2 0,.p 3 0,.p 4 0],_,[],[0,1,2,3,4],[6]⟩,⟨[.p 5 0,.o 0],[(0,(pBox (Kd.tab Tryd.prog 22 (by decide)) 0 tabT))],[1],[0,1,2,3,4,5],[0]⟩]) (F:=[.p 6 0]) hst hb Zb
  (o_p rfl (Zr Zmn (Zgi 36) rfl rfl (.cons Opd.fncv .nil))<|o_p rfl (Zr Zmn (Zgi 37) rfl rfl (.cons Opd.fncv .nil))<|o_p rfl (Zr Zmn (Zgi 38) rfl rfl (.cons Opd.fncv .nil))<|o_p rfl (Zr Zmn (Zgi 39) rfl rfl (.cons Opd.fncv .nil))<|o_p rfl (Zr Zmn (Zgi 40) rfl rfl (.cons Opd.fncv .nil))<|o_p rfl (Zp0 rfl rfl u_0 u_1 u_2 u_3 u_4)<|o_p rfl (Zba Zsl rfl rfl u_1 u_0)<|o_n) (fun a g hst hb=>?_)
 refine wp_ret ?_
 obtain ⟨u0,hu0,hq0⟩:=Zbk (P:=Tryd.prog) Zsl (hst.at 0 rfl)
 exact Zz rfl hst hb hu0 (Zue hq0)
theorem Zjk (a0:Za) (a1:Bool) (a2:Zm) {r:Za × Bool × Zd} (h:Ze6 a0 a1 a2=some r):FnOk Tryd.prog 7 [(Zf.pd a0),(Z1 a1),(Zq.pd a2)] (pTup [(Ze.pd r.1),(Z1 r.2.1),(Zn.pd r.2.2)]):=by
 have H0:=h
 unfold Ze6 at H0
 clear h
 refine Zbv (N:=123) Tryd.func7 rfl rfl (Qe rfl) rfl rfl (fun a g0 hst hb=>?_)
 refine r_s (T:=[⟨[.o 0],_,[4],[],[3]⟩,⟨[.o 1],_,[],[],[4]⟩,⟨[.o 2],_,[],[],[5]⟩,⟨[],[(6,(pBox Ze 6 (default:Za)))],[7],[],[6]⟩,⟨[],_,[],[],[7]⟩,⟨[],[(8,(pBox Zn 8 (default:Zd)))],[9],[],[8]⟩]) (F:=[.p 0 0,.p 1 0,.p 2 0,.p 3 0,.p 5 0]) hst hb Zb
  (o_p rfl (Zm5 rfl rfl u_0)<|Qb rfl u_0<|Qb rfl u_0<|o_p rfl (Zby (zs:=[.int .i64 0,.int .i64 0,.int .i64 0,.int .i64 0,.float .f64 0,.int .i64 0,.string ByteArray.empty,.slice none 0 0]) (by kernel_rfl) (fun g=>Zdb g) rfl rfl)<|Qa rfl c_b<|o_p rfl (Zby (zs:=[.int .i64 0,.int .i64 0,.int .i64 0,.int .i64 0,.int .i64 0,.int .i64 0,.float .f64 0,.int .i64 0,.string ByteArray.empty,.slice none 0 0]) (by kernel_rfl) (fun g=>Zhv g) rfl rfl)<|o_n) (fun a g hst hb=>?_)
 refine wp_seq ?_
 refine r_s (T:=[⟨[.o 1],_,[],[],[15]⟩,⟨[.p 0 0],_,[],[0],[16]⟩]) (F:=[.o 0,.o 1,.o 2,.o 3,.o 4,.p 1 0]) hst hb Zb
  (Ql rfl ty_4 u_0<|Qn rfl u_0<|o_n) (fun a g hst hb=>?_)
 refine Zdj (fun a w=>∃ (j2:Za) (g:G),w=g.w ∧ St 123 [(3,(pBox Zf 3 j2)),(4,(Kd.bool.ptr a1)),(5,(Zq.ptr a2)),(6,(pBox Ze 6 (default:Za))),(8,(pBox Zn 8 (default:Zd)))] a g ∧ Base g0 g ∧ Zev a1 a2 j2=some r) ?_ ?_
 ·rintro a w ⟨j2,g,rfl,hst,hb,H0⟩
  unfold Zev at H0
  refine Zy ?_
  obtain ⟨r3,h4,H0⟩:=Zg H0
  refine r_s (T:=[⟨[.o 0],_,[],[],[18]⟩,⟨[.p 0 0],_,[],[0],[19]⟩,⟨[.p 1 0,.o 0],_,[4],[0,1],[3]⟩]) (F:=[.p 2 0,.o 1,.o 2,.o 3,.o 4]) hst hb Zb
   (QM rfl Zck u_0<|o_p rfl (Zr en_6 (Zey _ h4) rfl rfl (.cons u_0 .nil))<|o_p rfl (Zr9 (k:=Zf) (k':=Ze) rfl Zbp rfl rfl u_1 u_0)<|o_n) (fun a g hst hb=>?_)
  refine r_s (T:=[⟨[.o 0,.o 1],_,[],[],[20]⟩,⟨[.p 0 0],_,[],[0],[9]⟩]) (F:=[.o 0,.o 1,.o 2,.o 3,.o 4,.p 1 0]) hst hb Zb
   (o_p rfl (Zo9 rfl rfl (.cons u_0 (.cons u_1 .nil)))<|Qa rfl u_0<|o_n) (fun a g hst hb=>?_)
  refine wp_seq ?_
  obtain ⟨r5,h6,H0⟩:=Zg H0
  refine r_s (T:=[⟨[.o 2],_,[],[],[21]⟩,⟨[.p 0 0],_,[],[0],[22]⟩,⟨[.p 1 0],_,[],[0,1],[10]⟩]) (F:=[.o 0,.o 1,.o 2,.o 3,.o 4,.o 5,.p 2 0]) hst hb Zb
   (Ql rfl Zhj u_0<|o_p rfl (Zr Zzg (Zok _ h6) rfl rfl (.cons u_0 .nil))<|Qa rfl u_0<|o_n) (fun a g hst hb=>?_)
  refine r_s (T:=[⟨[.o 6],_,[],[],[23]⟩,⟨[.p 0 0],_,[],[0],[24]⟩]) (F:=[.o 0,.o 1,.o 2,.o 3,.o 4,.o 5,.o 6,.p 1 0]) hst hb Zb
   (Qm rfl u_0<|o_p rfl (Zf7 rfl rfl u_0 c_i)<|o_n) (fun a g hst hb=>?_)
  refine wp_cond_split (hst.bool 7 rfl) (fun hc7=>?_) (fun hc7=>?_)
  ·replace H0:=Z2 hc7 H0
   obtain ⟨r8,h9,H0⟩:=Zg H0
   refine r_s (L:=[(3,_),(4,_),(6,_),(8,_),(9,_),(10,_)]) (T:=[⟨[.o 4],_,[],[],[25]⟩,⟨[.o 5],_,[],[],[26]⟩,⟨[.p 0 0,.p 1 0,.o 0],[(27,(pTup [(Ze.pd r8.1),(Z1 r8.2.1),(Zn.pd r8.2.2.1)])),(3,(pBox Ze 3 r8.2.2.2))],[4],[0,1],[3,9,25,27]⟩,⟨[.p 2 0],_,[],[0,1,2],[28]⟩,⟨[.p 2 0],_,[],[0,1,2],[29]⟩,⟨[.p 2 0],_,[],[0,1,2],[30]⟩,⟨[.p 3 0,.o 2],_,[7],Lr 6,[6]⟩,⟨[.p 4 0],_,[],Lr 7,[7]⟩,⟨[.p 5 0,.o 3],_,[9],Lr 8,[8]⟩]) (F:=[.p 2 1,.o 1,.p 6 0,.p 7 0,.p 8 0]) (hst.pick [0,1,3,4,5,6] rfl) hb Zb
    (Qm rfl u_0<|Qm rfl u_0<|o_p rfl (Zhm (Ps:=[.val (pInt .i64 r5)]) (hs:=[]) (ks:=[(3,none,3)]) Zmj (Ze4 _ _ _ h9) rfl rfl rfl u_0 (.val u_1 .nil) (.box u_2 rfl (.val .nil)) rfl rfl rfl rfl)<|o_p rfl (Z8 rfl rfl u_0 rfl)<|o_p rfl (Z8 rfl rfl u_0 rfl)<|o_p rfl (Z8 rfl rfl u_0 rfl)<|o_p rfl (Zba Zbp rfl rfl u_1 u_0)<|Qa rfl u_0<|o_p rfl (Zba Zcj rfl rfl u_1 u_0)<|o_n) (fun a g hst hb=>?_)
   refine wp_ret ?_
   refine Zp ?_
   obtain rfl:=Option.some.inj H0
   obtain ⟨u0,hu0,hq0⟩:=Zbk (P:=Tryd.prog) Zbp (hst.at 2 rfl)
   obtain ⟨u2,hu2,hq2⟩:=Zbk (P:=Tryd.prog) Zcj (hst.at 4 rfl)
   exact Zg2 rfl hst hb hu0 (Zi (s:=7)) hu2 (Zfl hq0 (hst.at 3 rfl) hq2)
  ·replace H0:=Z3 hc7 H0
   refine wp_skip ?_
   refine Zy ?_
   refine wp_seq ?_
   refine r_s (L:=[(3,_),(4,_),(5,_),(6,_),(8,_),(9,_)]) (T:=[⟨[.o 1],_,[],[],[31]⟩]) (F:=[.o 0,.o 1,.o 2,.o 3,.o 4,.o 5,.p 0 0]) (hst.pick [0,1,2,3,4,5] rfl) hb Zb
    (Ql rfl ty_4 u_0<|o_n) (fun a g hst hb=>?_)
   refine Zdj (fun a w=>∃ (g:G),w=g.w ∧ St 123 [(3,(pBox Ze 3 r3)),(4,(Kd.bool.ptr a1)),(5,(Zq.ptr a2)),(6,(pBox Ze 6 (default:Za))),(8,(pBox Zn 8 (default:Zd))),(9,(Zoj 14 [(pBox Ze 3 r3),(Kd.bool.ptr a1)]))] a g ∧ Base g0 g ∧ Zeu a1 a2 r3=some r) ?_ ?_
   ·rintro a w ⟨g,rfl,hst,hb,H0⟩
    unfold Zeu at H0
    refine Zy ?_
    refine wp_seq ?_
    refine wp_block ?_
    refine r_s (T:=[⟨[.o 2],_,[],[],[43]⟩,⟨[.p 0 0],_,[],[0],[44]⟩,⟨[.p 1 0],_,[],[0,1],[45]⟩,⟨[.p 2 0],_,[],[0,1,2],[46]⟩,⟨[.p 3 0,.o 1],_,[],Lr 4,[47]⟩,⟨[.p 3 0,.p 4 0],_,[],Lr 5,[48]⟩,⟨[.p 5 0],_,[],Lr 6,[42]⟩]) (F:=[.o 0,.o 1,.o 2,.o 3,.o 4,.o 5,.p 6 0]) hst hb Zb
     (Qf rfl Zfp u_0<|Ql rfl ty_3 u_0<|o_p rfl (Zbq rfl rfl u_0 c_i)<|Qm rfl u_0<|o_g (Qg_t rfl (fun hG=>Zo ty_4 rfl rfl u_0))<|o_p rfl (Zbh rfl rfl u_0 (fun hz=>(Opd.gd hz u_1)))<|Qa rfl u_0<|o_n) (fun a g hst hb=>?_)
    refine wp_cond_split (hst.bool 6 rfl) (fun hc16=>?_) (fun hc16=>?_)
    ·replace H0:=Z2 hc16 H0
     obtain ⟨r17,h18,H0⟩:=Zg H0
     refine r_s (L:=[(3,_),(4,_),(6,_),(8,_),(9,_)]) (T:=[⟨[.o 4],_,[],[],[49]⟩,⟨[.p 0 0,.o 0],[(50,(pTup [(Ze.pd r17.1),(Z1 r17.2.1),(Zn.pd r17.2.2.1)])),(3,(pBox Ze 3 r17.2.2.2))],[4],[0],[3,9,49,50]⟩,⟨[.p 1 0],_,[],[0,1],[51]⟩,⟨[.p 1 0],_,[],[0,1],[52]⟩,⟨[.p 1 0],_,[],[0,1],[53]⟩,⟨[.p 2 0,.o 2],_,[7],Lr 5,[6]⟩,⟨[.p 3 0],_,[],Lr 6,[7]⟩,⟨[.p 4 0,.o 3],_,[9],Lr 7,[8]⟩]) (F:=[.p 1 1,.o 1,.p 5 0,.p 6 0,.p 7 0]) (hst.pick [0,1,3,4,5] rfl) hb Zb
      (Qm rfl u_0<|o_p rfl (Zhm (Ps:=[.val (pInt .i64 (7:Int))]) (hs:=[]) (ks:=[(3,none,3)]) Zmj (Ze4 _ _ _ h18) rfl rfl rfl u_0 (.val c_i .nil) (.box u_1 rfl (.val .nil)) rfl rfl rfl rfl)<|o_p rfl (Z8 rfl rfl u_0 rfl)<|o_p rfl (Z8 rfl rfl u_0 rfl)<|o_p rfl (Z8 rfl rfl u_0 rfl)<|o_p rfl (Zba Zbp rfl rfl u_1 u_0)<|Qa rfl u_0<|o_p rfl (Zba Zcj rfl rfl u_1 u_0)<|o_n) (fun a g hst hb=>?_)
     refine wp_ret ?_
     refine Zx ?_
     refine Zp ?_
     obtain rfl:=Option.some.inj H0
     obtain ⟨u0,hu0,hq0⟩:=Zbk (P:=Tryd.prog) Zbp (hst.at 2 rfl)
     obtain ⟨u2,hu2,hq2⟩:=Zbk (P:=Tryd.prog) Zcj (hst.at 4 rfl)
     exact Zg2 rfl hst hb hu0 (Zi (s:=7)) hu2 (Zfl hq0 (hst.at 3 rfl) hq2)
    ·replace H0:=Z3 hc16 H0
     refine r_s (L:=[(3,_),(4,_),(5,_),(6,_),(8,_),(9,_)]) (T:=[⟨[.o 2],_,[],[],[55]⟩,⟨[.p 0 0],_,[],[0],[56]⟩,⟨[.p 1 0],_,[],[0,1],[57]⟩,⟨[.p 2 0],_,[],[0,1,2],[54]⟩]) (F:=[.o 0,.o 1,.o 2,.o 3,.o 4,.o 5,.p 3 0]) (hst.pick [0,1,2,3,4,5] rfl) hb Zb
      (Qf rfl Zfp u_0<|Ql rfl ty_3 u_0<|o_p rfl (Zbq rfl rfl u_0 c_i)<|Qa rfl u_0<|o_n) (fun a g hst hb=>?_)
     refine wp_cond_split (hst.bool 6 rfl) (fun hc19=>?_) (fun hc19=>?_)
     ·replace H0:=Z2 hc19 H0
      obtain ⟨r20,h21,H0⟩:=Zg H0
      refine r_s (L:=[(3,_),(4,_),(5,_),(6,_),(8,_)]) (T:=[⟨[.o 2],_,[],[],[58]⟩,⟨[.p 0 0],_,[],[0],[59]⟩,⟨[.p 1 0],_,[],[0,1],[60]⟩,⟨[],_,[],[],[61]⟩,⟨[.p 2 0,.o 3],_,[7],[0,1,2],[6]⟩,⟨[],_,[],[0,1,2,4],[7]⟩,⟨[.p 3 0,.o 4],_,[9],Lr 6,[8]⟩]) (F:=[.o 0,.o 1,.p 4 0,.p 5 0,.p 6 0]) (hst.pick [0,1,2,3,4] rfl) hb Zb
       (Qf rfl Zio u_0<|Ql rfl Zck u_0<|o_p rfl (Zr en_6 (Zey _ h21) rfl rfl (.cons u_0 .nil))<|o_p rfl (Zqi rfl rfl )<|o_p rfl (Zba Zbp rfl rfl u_1 u_0)<|Qa rfl c_b<|o_p rfl (Zba Zcj rfl rfl u_1 u_0)<|o_n) (fun a g hst hb=>?_)
      refine wp_ret ?_
      refine Zx ?_
      refine Zp ?_
      obtain rfl:=Option.some.inj H0
      obtain ⟨u0,hu0,hq0⟩:=Zbk (P:=Tryd.prog) Zbp (hst.at 2 rfl)
      obtain ⟨u2,hu2,hq2⟩:=Zbk (P:=Tryd.prog) Zcj (hst.at 4 rfl)
      exact Zg2 rfl hst hb hu0 (Zi (s:=7)) hu2 (Zfl hq0 (hst.at 3 rfl) hq2)
     ·replace H0:=Z3 hc19 H0
      refine r_s (L:=[(3,_),(4,_),(5,_),(6,_),(8,_),(9,_)]) (T:=[⟨[.o 2],_,[],[],[63]⟩,⟨[.p 0 0],_,[],[0],[64]⟩,⟨[.p 1 0],_,[],[0,1],[65]⟩,⟨[.p 2 0],_,[],[0,1,2],[62]⟩]) (F:=[.o 0,.o 1,.o 2,.o 3,.o 4,.o 5,.p 3 0]) (hst.pick [0,1,2,3,4,5] rfl) hb Zb
       (Qf rfl Zfp u_0<|Ql rfl ty_3 u_0<|o_p rfl (Zbq rfl rfl u_0 c_i)<|Qa rfl u_0<|o_n) (fun a g hst hb=>?_)
      refine wp_cond_split (hst.bool 6 rfl) (fun hc22=>?_) (fun hc22=>?_)
      ·replace H0:=Z2 hc22 H0
       refine r_s (L:=[(3,_),(4,_),(6,_),(8,_)]) (T:=[⟨[.o 0],_,[],[],[66]⟩,⟨[.o 1],_,[],[],[67]⟩,⟨[.o 0],_,[],[],[68]⟩,⟨[.p 2 0],_,[],[2],[69]⟩,⟨[.p 3 0],_,[],[2,3],[70]⟩,⟨[.p 0 0,.o 2],_,[7],[0],[6]⟩,⟨[.p 1 0],_,[],[0,1,5],[7]⟩,⟨[.p 4 0,.o 3],_,[9],Lr 7,[8]⟩]) (F:=[.o 0,.o 1,.p 5 0,.p 6 0,.p 7 0]) (hst.pick [0,1,3,4] rfl) hb Zb
        (QM rfl Zbp u_0<|Ql rfl ty_4 u_0<|o_p rfl (Zs Zot (off:=0) (by kernel_rfl) rfl rfl u_0)<|QP rfl ty_3 u_0<|o_p rfl (Ztx rfl rfl u_0)<|o_p rfl (Zba Zbp rfl rfl u_1 u_0)<|Qa rfl u_0<|o_p rfl (Zba Zcj rfl rfl u_1 u_0)<|o_n) (fun a g hst hb=>?_)
       refine wp_ret ?_
       refine Zx ?_
       refine Zp ?_
       obtain rfl:=Option.some.inj H0
       obtain ⟨u0,hu0,hq0⟩:=Zbk (P:=Tryd.prog) Zbp (hst.at 2 rfl)
       obtain ⟨u2,hu2,hq2⟩:=Zbk (P:=Tryd.prog) Zcj (hst.at 4 rfl)
       exact Zg2 rfl hst hb hu0 (Zi (s:=7)) hu2 (Zfl hq0 (hst.at 3 rfl) hq2)
      ·replace H0:=Z3 hc22 H0
       refine r_s (L:=[(3,_),(4,_),(5,_),(6,_),(8,_),(9,_)]) (T:=[⟨[.o 1],_,[],[],[72]⟩,⟨[.p 0 0],_,[],[0],[73]⟩,⟨[.p 1 0],_,[],[0,1],[71]⟩]) (F:=[.o 0,.o 1,.o 2,.o 3,.o 4,.o 5,.p 2 0]) (hst.pick [0,1,2,3,4,5] rfl) hb Zb
        (Ql rfl ty_4 u_0<|Qn rfl u_0<|Qa rfl u_0<|o_n) (fun a g hst hb=>?_)
       refine wp_cond_split (hst.bool 6 rfl) (fun hc23=>?_) (fun hc23=>?_)
       ·replace H0:=Z2 hc23 H0
        obtain ⟨r24,h25,H0⟩:=Zg H0
        refine r_s (L:=[(3,_),(4,_),(6,_),(8,_),(9,_)]) (T:=[⟨[.o 4],_,[],[],[74]⟩,⟨[.p 0 0,.o 0],[(75,(pTup [(Ze.pd r24.1),(Z1 r24.2.1),(Zn.pd r24.2.2.1)])),(3,(pBox Ze 3 r24.2.2.2))],[4],[0],[3,9,74,75]⟩,⟨[.p 1 0],_,[],[0,1],[76]⟩,⟨[.p 1 0],_,[],[0,1],[77]⟩,⟨[.p 1 0],_,[],[0,1],[78]⟩,⟨[.p 2 0,.o 2],_,[7],Lr 5,[6]⟩,⟨[.p 3 0],_,[],Lr 6,[7]⟩,⟨[.p 4 0,.o 3],_,[9],Lr 7,[8]⟩]) (F:=[.p 1 1,.o 1,.p 5 0,.p 6 0,.p 7 0]) (hst.pick [0,1,3,4,5] rfl) hb Zb
         (Qm rfl u_0<|o_p rfl (Zhm (Ps:=[.val (pInt .i64 (6:Int))]) (hs:=[]) (ks:=[(3,none,3)]) Zmj (Ze4 _ _ _ h25) rfl rfl rfl u_0 (.val c_i .nil) (.box u_1 rfl (.val .nil)) rfl rfl rfl rfl)<|o_p rfl (Z8 rfl rfl u_0 rfl)<|o_p rfl (Z8 rfl rfl u_0 rfl)<|o_p rfl (Z8 rfl rfl u_0 rfl)<|o_p rfl (Zba Zbp rfl rfl u_1 u_0)<|Qa rfl u_0<|o_p rfl (Zba Zcj rfl rfl u_1 u_0)<|o_n) (fun a g hst hb=>?_)
        refine wp_ret ?_
        refine Zx ?_
        refine Zp ?_
        obtain rfl:=Option.some.inj H0
        obtain ⟨u0,hu0,hq0⟩:=Zbk (P:=Tryd.prog) Zbp (hst.at 2 rfl)
        obtain ⟨u2,hu2,hq2⟩:=Zbk (P:=Tryd.prog) Zcj (hst.at 4 rfl)
        exact Zg2 rfl hst hb hu0 (Zi (s:=7)) hu2 (Zfl hq0 (hst.at 3 rfl) hq2)
       ·replace H0:=Z3 hc23 H0
        refine r_s (L:=[(3,_),(4,_),(5,_),(6,_),(8,_),(9,_)]) (T:=[⟨[.o 2],_,[],[],[80]⟩,⟨[.p 0 0],_,[],[0],[81]⟩,⟨[.p 1 0],_,[],[0,1],[82]⟩,⟨[.p 2 0],_,[],[0,1,2],[79]⟩]) (F:=[.o 0,.o 1,.o 2,.o 3,.o 4,.o 5,.p 3 0]) (hst.pick [0,1,2,3,4,5] rfl) hb Zb
         (Qf rfl Zfp u_0<|Ql rfl ty_3 u_0<|o_p rfl (Zbq rfl rfl u_0 c_i)<|Qa rfl u_0<|o_n) (fun a g hst hb=>?_)
        refine wp_cond_split (hst.bool 6 rfl) (fun hc26=>?_) (fun hc26=>?_)
        ·replace H0:=Z2 hc26 H0
         refine r_s (L:=[(3,_),(4,_),(6,_),(8,_)]) (T:=[⟨[],_,[],[],[83]⟩,⟨[],_,[],[],[84]⟩,⟨[.p 0 0,.o 2],_,[7],[0],[6]⟩,⟨[],_,[],[0,2],[7]⟩,⟨[.p 1 0,.o 3],_,[9],Lr 4,[8]⟩]) (F:=[.o 0,.o 1,.p 2 0,.p 3 0,.p 4 0]) (hst.pick [0,1,3,4] rfl) hb Zb
          (o_p rfl (Zv3 rfl rfl )<|o_p rfl (Zqi rfl rfl )<|o_p rfl (Zba Zbp rfl rfl u_1 u_0)<|Qa rfl c_b<|o_p rfl (Zba Zcj rfl rfl u_1 u_0)<|o_n) (fun a g hst hb=>?_)
         refine wp_ret ?_
         refine Zx ?_
         refine Zp ?_
         obtain rfl:=Option.some.inj H0
         obtain ⟨u0,hu0,hq0⟩:=Zbk (P:=Tryd.prog) Zbp (hst.at 2 rfl)
         obtain ⟨u2,hu2,hq2⟩:=Zbk (P:=Tryd.prog) Zcj (hst.at 4 rfl)
         exact Zg2 rfl hst hb hu0 (Zi (s:=7)) hu2 (Zfl hq0 (hst.at 3 rfl) hq2)
        ·replace H0:=Z3 hc26 H0
         refine r_s (L:=[(3,_),(4,_),(5,_),(6,_),(8,_),(9,_)]) (T:=[⟨[.o 2],_,[],[],[86]⟩,⟨[.p 0 0],_,[],[0],[87]⟩,⟨[.p 1 0],_,[],[0,1],[88]⟩,⟨[.p 2 0],_,[],[0,1,2],[85]⟩]) (F:=[.o 0,.o 1,.o 2,.o 3,.o 4,.o 5,.p 3 0]) (hst.pick [0,1,2,3,4,5] rfl) hb Zb
          (Qf rfl Zfp u_0<|Ql rfl ty_3 u_0<|o_p rfl (Zbq rfl rfl u_0 c_i)<|Qa rfl u_0<|o_n) (fun a g hst hb=>?_)
         refine wp_cond_split (hst.bool 6 rfl) (fun hc27=>?_) (fun hc27=>?_)
         ·replace H0:=Z2 hc27 H0
          obtain ⟨r28,h29,H0⟩:=Zg H0
          refine r_s (L:=[(3,_),(4,_),(6,_),(8,_)]) (T:=[⟨[.o 0],_,[],[],[89]⟩,⟨[.o 1],_,[],[],[90]⟩,⟨[.o 0],_,[],[],[91]⟩,⟨[.p 2 0],_,[],[2],[92]⟩,⟨[.p 3 0],_,[],[2,3],[93]⟩,⟨[.p 0 0,.o 2],_,[7],[0,2,3],[6]⟩,⟨[.p 1 0],_,[],[0,1,2,3,5],[7]⟩,⟨[.p 4 0,.o 3],_,[9],Lr 7,[8]⟩]) (F:=[.o 0,.o 1,.p 5 0,.p 6 0,.p 7 0]) (hst.pick [0,1,3,4] rfl) hb Zb
           (QM rfl Zbp u_0<|Ql rfl ty_4 u_0<|QM rfl Zbp u_0<|o_p rfl (Zr en_6 (Zey _ h29) rfl rfl (.cons (Opd.wk Zeb u_0) .nil))<|o_p rfl (Zug rfl rfl u_0)<|o_p rfl (Zba Zbp rfl rfl u_1 u_0)<|Qa rfl u_0<|o_p rfl (Zba Zcj rfl rfl u_1 u_0)<|o_n) (fun a g hst hb=>?_)
          refine wp_ret ?_
          refine Zx ?_
          refine Zp ?_
          obtain rfl:=Option.some.inj H0
          obtain ⟨u0,hu0,hq0⟩:=Zbk (P:=Tryd.prog) Zbp (hst.at 2 rfl)
          obtain ⟨u2,hu2,hq2⟩:=Zbk (P:=Tryd.prog) Zcj (hst.at 4 rfl)
          exact Zg2 rfl hst hb hu0 (Zi (s:=7)) hu2 (Zfl hq0 (hst.at 3 rfl) hq2)
         ·replace H0:=Z3 hc27 H0
          obtain ⟨r30,h31,H0⟩:=Zg H0
          refine r_s (L:=[(3,_),(4,_),(5,_),(6,_),(8,_),(9,_)]) (T:=[⟨[.o 2],_,[],[],[95]⟩,⟨[.p 0 0],_,[],[0],[96]⟩,⟨[.p 1 0],_,[],[0,1],[97]⟩,⟨[.o 0],_,[],[],[98]⟩,⟨[.p 3 0],_,[],[3],[99]⟩,⟨[.p 2 0,.p 4 0],_,[],Lr 5,[100]⟩,⟨[.p 5 0],_,[],Lr 6,[94]⟩]) (F:=[.o 0,.o 1,.o 2,.o 3,.o 4,.o 5,.p 6 0]) (hst.pick [0,1,2,3,4,5] rfl) hb Zb
           (Qf rfl Zfp u_0<|Ql rfl ty_3 u_0<|o_p rfl (Zr Zzm (Zrz _ h31) rfl rfl (.cons u_0 .nil))<|o_p rfl (Zs Zot (off:=0) (by kernel_rfl) rfl rfl u_0)<|QP rfl ty_3 u_0<|o_p rfl (Zf7 rfl rfl u_0 u_1)<|Qa rfl u_0<|o_n) (fun a g hst hb=>?_)
          refine wp_cond_split (hst.bool 6 rfl) (fun hc32=>?_) (fun hc32=>?_)
          ·replace H0:=Z2 hc32 H0
           obtain ⟨r33,h34,H0⟩:=Zg H0
           refine r_s (L:=[(3,_),(4,_),(6,_),(8,_),(9,_)]) (T:=[⟨[.o 4],_,[],[],[101]⟩,⟨[.p 0 0,.o 0],[(102,(pTup [(Ze.pd r33.1),(Z1 r33.2.1),(Zn.pd r33.2.2.1)])),(3,(pBox Ze 3 r33.2.2.2))],[4],[0],[3,9,101,102]⟩,⟨[.p 1 0],_,[],[0,1],[103]⟩,⟨[.p 1 0],_,[],[0,1],[104]⟩,⟨[.p 1 0],_,[],[0,1],[105]⟩,⟨[.p 2 0,.o 2],_,[7],Lr 5,[6]⟩,⟨[.p 3 0],_,[],Lr 6,[7]⟩,⟨[.p 4 0,.o 3],_,[9],Lr 7,[8]⟩]) (F:=[.p 1 1,.o 1,.p 5 0,.p 6 0,.p 7 0]) (hst.pick [0,1,3,4,5] rfl) hb Zb
            (Qm rfl u_0<|o_p rfl (Zhm (Ps:=[.val (pInt .i64 (5:Int))]) (hs:=[]) (ks:=[(3,none,3)]) Zmj (Ze4 _ _ _ h34) rfl rfl rfl u_0 (.val c_i .nil) (.box u_1 rfl (.val .nil)) rfl rfl rfl rfl)<|o_p rfl (Z8 rfl rfl u_0 rfl)<|o_p rfl (Z8 rfl rfl u_0 rfl)<|o_p rfl (Z8 rfl rfl u_0 rfl)<|o_p rfl (Zba Zbp rfl rfl u_1 u_0)<|Qa rfl u_0<|o_p rfl (Zba Zcj rfl rfl u_1 u_0)<|o_n) (fun a g hst hb=>?_)
           refine wp_ret ?_
           refine Zx ?_
           refine Zp ?_
           obtain rfl:=Option.some.inj H0
           obtain ⟨u0,hu0,hq0⟩:=Zbk (P:=Tryd.prog) Zbp (hst.at 2 rfl)
           obtain ⟨u2,hu2,hq2⟩:=Zbk (P:=Tryd.prog) Zcj (hst.at 4 rfl)
           exact Zg2 rfl hst hb hu0 (Zi (s:=7)) hu2 (Zfl hq0 (hst.at 3 rfl) hq2)
          ·replace H0:=Z3 hc32 H0
           refine wp_skip ?_
           refine Zb7 ?_
           refine Zy ?_
           obtain ⟨r35,h36,H0⟩:=Zg H0
           refine r_s (L:=[(3,_),(4,_),(5,_),(6,_),(8,_)]) (T:=[⟨[.o 0],_,[],[],[106]⟩,⟨[.p 0 0],_,[],[0],[107]⟩,⟨[],[(12,(pBox Ze 12 (default:Za)))],[13],[],[12]⟩,⟨[.p 1 0,.p 2 0],_,[13],[0,1,2],[12]⟩]) (F:=[.o 0,.o 1,.o 2,.o 3,.o 4,.p 3 0]) (hst.pick [0,1,2,3,4] rfl) hb Zb
            (QM rfl Zbp u_0<|o_p rfl (Zr en_6 (Zey _ h36) rfl rfl (.cons (Opd.wk Zeb u_0) .nil))<|o_p rfl (Zby (zs:=[.int .i64 0,.int .i64 0,.int .i64 0,.int .i64 0,.float .f64 0,.int .i64 0,.string ByteArray.empty,.slice none 0 0]) (by kernel_rfl) (fun g=>Zdb g) rfl rfl)<|o_p rfl (Zda Zbp rfl rfl u_1 u_0)<|o_n) (fun a g hst hb=>?_)
           refine r_s (T:=[⟨[],[(13,(pBox Zn 13 (default:Zd)))],[14],[],[13]⟩]) (F:=[.o 0,.o 1,.o 2,.o 3,.o 4,.o 5,.p 0 0]) hst hb Zb
            (o_p rfl (Zby (zs:=[.int .i64 0,.int .i64 0,.int .i64 0,.int .i64 0,.int .i64 0,.int .i64 0,.float .f64 0,.int .i64 0,.string ByteArray.empty,.slice none 0 0]) (by kernel_rfl) (fun g=>Zhv g) rfl rfl)<|o_n) (fun a g hst hb=>?_)
           refine wp_seq ?_
           obtain ⟨h37,H0⟩:=Zgx H0;obtain ⟨r38,h39,H0⟩:=Zg H0
           refine r_s (T:=[⟨[],_,[],[],[108]⟩,⟨[.o 2],_,[],[],[109]⟩,⟨[.p 1 0],_,[],[1],[110]⟩,⟨[.p 0 0,.p 2 0],[(111,(pFun Tryd.prog (Phi a2.Kind)))],[],[0,1,2],[111]⟩,⟨[.o 2],_,[],[],[112]⟩,⟨[.p 3 0,.o 0,.p 4 0,.o 6],[(113,(pInt .i64 r38.1)),(3,(pBox Ze 3 r38.2.1)),(13,(pBox Zn 13 r38.2.2))],[4,14],Lr 5,[3,13,113]⟩,⟨[.p 5 0],_,[],Lr 6,[14]⟩]) (F:=[.p 5 1,.o 1,.o 3,.o 4,.o 5,.p 5 2,.p 6 0]) hst hb Zb
            (o_p rfl (Zr Zys Zme rfl rfl .nil)<|Qf rfl Zfp u_0<|Ql rfl ty_3 u_0<|o_p rfl (Zpu Tryd.underlying54 (by kernel_rfl) ⟨_,Tryd.underlying53,rfl⟩ (by have:=h37;omega) (Zxy h37) (by have:=h37;omega) rfl rfl u_0 u_1)<|Ql rfl Zhj u_0<|o_p rfl (Zrj (hs:=[(3,none,3),(13,none,13)]) (Zw2 h39) rfl rfl rfl u_0 (.box u_1 u_1 rfl (.val u_2 (.box u_3 u_3 rfl .nil))) rfl rfl rfl)<|Qa rfl u_0<|o_n) (fun a g hst hb=>?_)
           refine r_s (T:=[⟨[.o 6],_,[],[],[114]⟩,⟨[.p 0 0],_,[],[0],[115]⟩]) (F:=[.o 0,.o 1,.o 2,.o 3,.o 4,.o 5,.o 6,.p 1 0]) hst hb Zb
            (Qm rfl u_0<|o_p rfl (Zf7 rfl rfl u_0 c_i)<|o_n) (fun a g hst hb=>?_)
           refine wp_cond_split (hst.bool 7 rfl) (fun hc40=>?_) (fun hc40=>?_)
           ·replace H0:=Z2 hc40 H0
            refine r_s (L:=[(3,_),(4,_),(6,_),(8,_),(12,_),(14,_)]) (T:=[⟨[.o 4],_,[],[],[116]⟩,⟨[.o 1],_,[],[],[117]⟩,⟨[.o 5],_,[],[],[118]⟩,⟨[.p 2 0],_,[],[2],[119]⟩,⟨[.p 0 0,.o 2],_,[7],[0],[6]⟩,⟨[.p 1 0],_,[],[0,1,4],[7]⟩,⟨[.p 3 0,.o 3],_,[9],Lr 6,[8]⟩]) (F:=[.o 0,.o 1,.p 4 0,.p 5 0,.p 6 0]) (hst.pick [0,1,2,3,4,6] rfl) hb Zb
             (Ql rfl Zbp u_0<|Ql rfl ty_4 u_0<|Qm rfl u_0<|o_p rfl (Zpk rfl rfl u_0)<|o_p rfl (Zba Zbp rfl rfl u_1 u_0)<|Qa rfl u_0<|o_p rfl (Zba Zcj rfl rfl u_1 u_0)<|o_n) (fun a g hst hb=>?_)
            refine wp_ret ?_
            refine Zp ?_
            obtain rfl:=Option.some.inj H0
            obtain ⟨u0,hu0,hq0⟩:=Zbk (P:=Tryd.prog) Zbp (hst.at 2 rfl)
            obtain ⟨u2,hu2,hq2⟩:=Zbk (P:=Tryd.prog) Zcj (hst.at 4 rfl)
            exact Zg2 rfl hst hb hu0 (Zi (s:=7)) hu2 (Zfl hq0 (hst.at 3 rfl) hq2)
           ·replace H0:=Z3 hc40 H0
            refine wp_skip ?_
            refine Zy ?_
            refine r_s (L:=[(3,_),(4,_),(6,_),(8,_),(13,_)]) (T:=[⟨[.o 0],_,[],[],[120]⟩,⟨[.o 1],_,[],[],[121]⟩,⟨[.o 4],_,[],[],[122]⟩,⟨[.p 0 0,.o 2],_,[7],[0],[6]⟩,⟨[.p 1 0],_,[],[0,1,3],[7]⟩,⟨[.p 2 0,.o 3],_,[9],Lr 5,[8]⟩]) (F:=[.o 0,.o 1,.p 3 0,.p 4 0,.p 5 0]) (hst.pick [0,1,2,3,5] rfl) hb Zb
             (QM rfl Zbp u_0<|Ql rfl ty_4 u_0<|QM rfl Zcj u_0<|o_p rfl (Zba Zbp rfl rfl u_1 u_0)<|Qa rfl u_0<|o_p rfl (Zba Zcj rfl rfl u_1 u_0)<|o_n) (fun a g hst hb=>?_)
            refine wp_ret ?_
            obtain rfl:=Option.some.inj H0
            obtain ⟨u0,hu0,hq0⟩:=Zbk (P:=Tryd.prog) Zbp (hst.at 2 rfl)
            obtain ⟨u2,hu2,hq2⟩:=Zbk (P:=Tryd.prog) Zcj (hst.at 4 rfl)
            exact Zg2 rfl hst hb hu0 (Zi (s:=7)) hu2 (Zfl hq0 (hst.at 3 rfl) hq2)
   ·refine wp_cond_split (hst.bool 6 rfl) (fun hc10=>?_) (fun hc10=>?_)
    ·replace H0:=Z2 hc10 H0
     obtain ⟨r11,h12,H0⟩:=Zg H0
     refine r_s (L:=[(3,_),(4,_),(5,_),(6,_),(8,_),(9,_)]) (T:=[⟨[.o 0],_,[],[],[32]⟩,⟨[.p 0 0],_,[],[0],[33]⟩,⟨[.p 1 0],_,[],[0,1],[11]⟩]) (F:=[.o 0,.o 1,.o 2,.o 3,.o 4,.o 5,.p 2 0]) (hst.pick [0,1,2,3,4,5] rfl) hb Zb
      (QM rfl Zbp u_0<|o_p rfl (Zr Zu6 (Zkv _ h12) rfl rfl (.cons (Opd.wk Zeb u_0) .nil))<|Qa rfl u_0<|o_n) (fun a g hst hb=>?_)
     refine r_s (T:=[⟨[.o 6],_,[],[],[34]⟩,⟨[.p 0 0],_,[],[0],[35]⟩]) (F:=[.o 0,.o 1,.o 2,.o 3,.o 4,.o 5,.o 6,.p 1 0]) hst hb Zb
      (Qm rfl u_0<|o_p rfl (Zf7 rfl rfl u_0 c_i)<|o_n) (fun a g hst hb=>?_)
     refine wp_cond_split (hst.bool 7 rfl) (fun hc13=>?_) (fun hc13=>?_)
     ·replace H0:=Z2 hc13 H0
      obtain ⟨r14,h15,H0⟩:=Zg H0
      refine r_s (L:=[(3,_),(4,_),(6,_),(8,_),(9,_),(11,_)]) (T:=[⟨[.o 4],_,[],[],[36]⟩,⟨[.o 5],_,[],[],[37]⟩,⟨[.p 0 0,.p 1 0,.o 0],[(38,(pTup [(Ze.pd r14.1),(Z1 r14.2.1),(Zn.pd r14.2.2.1)])),(3,(pBox Ze 3 r14.2.2.2))],[4],[0,1],[3,9,36,38]⟩,⟨[.p 2 0],_,[],[0,1,2],[39]⟩,⟨[.p 2 0],_,[],[0,1,2],[40]⟩,⟨[.p 2 0],_,[],[0,1,2],[41]⟩,⟨[.p 3 0,.o 2],_,[7],Lr 6,[6]⟩,⟨[.p 4 0],_,[],Lr 7,[7]⟩,⟨[.p 5 0,.o 3],_,[9],Lr 8,[8]⟩]) (F:=[.p 2 1,.o 1,.p 6 0,.p 7 0,.p 8 0]) (hst.pick [0,1,3,4,5,6] rfl) hb Zb
       (Qm rfl u_0<|Qm rfl u_0<|o_p rfl (Zhm (Ps:=[.val (pInt .i64 r11)]) (hs:=[]) (ks:=[(3,none,3)]) Zmj (Ze4 _ _ _ h15) rfl rfl rfl u_0 (.val u_1 .nil) (.box u_2 rfl (.val .nil)) rfl rfl rfl rfl)<|o_p rfl (Z8 rfl rfl u_0 rfl)<|o_p rfl (Z8 rfl rfl u_0 rfl)<|o_p rfl (Z8 rfl rfl u_0 rfl)<|o_p rfl (Zba Zbp rfl rfl u_1 u_0)<|Qa rfl u_0<|o_p rfl (Zba Zcj rfl rfl u_1 u_0)<|o_n) (fun a g hst hb=>?_)
      refine wp_ret ?_
      refine Zp ?_
      refine Zp ?_
      obtain rfl:=Option.some.inj H0
      obtain ⟨u0,hu0,hq0⟩:=Zbk (P:=Tryd.prog) Zbp (hst.at 2 rfl)
      obtain ⟨u2,hu2,hq2⟩:=Zbk (P:=Tryd.prog) Zcj (hst.at 4 rfl)
      exact Zg2 rfl hst hb hu0 (Zi (s:=7)) hu2 (Zfl hq0 (hst.at 3 rfl) hq2)
     ·replace H0:=Z3 hc13 H0
      refine wp_skip ?_
      exact ⟨g,rfl,(hst.pick [0,1,2,3,4,5] rfl),hb,H0⟩
    ·replace H0:=Z3 hc10 H0
     refine wp_skip ?_
     exact ⟨g,rfl,(hst.pick [0,1,2,3,4,5] rfl),hb,H0⟩
 ·refine wp_cond_split (hst.bool 5 rfl) (fun hc1=>?_) (fun hc1=>?_)
  ·replace H0:=Z2 hc1 H0
   refine r_g (L:=[(3,_),(4,_),(5,_),(6,_),(8,_)]) (T:=[⟨[],_,[],[],[17]⟩,⟨[.p 0 0,.o 0],_,[4],[0],[3]⟩]) (F:=[.p 1 0,.o 1,.o 2,.o 3,.o 4]) (hst.pick [0,1,2,3,4] rfl) hb Zb
    (o_p rfl (Zmi rfl rfl )<|o_p rfl (Zba Zck rfl rfl u_1 u_0)<|o_n) (fun a g hst hb=>?_)
   exact ⟨({ Kind:=(0:Int),Num:=(0:Int),Low:=(0:Int),High:=(0:Int),Real:=(0:Nat),Cap:=(0:Int),Text:=ByteArray.empty,List:=([]:List Zc) }:Za),g,rfl,(hst.pick [0,1,2,3,4] rfl),hb,H0⟩
  ·replace H0:=Z3 hc1 H0
   refine wp_skip ?_
   exact ⟨a0,g,rfl,(hst.pick [0,1,2,3,4] rfl),hb,H0⟩
theorem Zke (a0:Za) (a1:Bool) (a2:Zm) {r:Za × Bool × Zd} (h:Ze6 a0 a1 a2=some r):FnOk Tryd.prog 7 [(Zf.pd a0),(Z1 a1),(Zq.pd a2)] (pTup [(Zf.pd r.1),(Z1 r.2.1),(Zbi.pd r.2.2)]):=(Zjk a0 a1 a2 h).imp (Zus (fun _ _ h=>Zeb.pd h) (fun _ _ h=>h) fun _ _ h=>Zn6.pd h)
theorem Zqa (a0:Za) (a1:Bool) (a2:List Zm) {r:Za × Bool × (List Zd)} (h:Zl1 a0 a1 a2=some r):FnOk Tryd.prog 9 [(Zf.pd a0),(Z1 a1),(Zq.sl.pd a2)] (pTup [(Zf.pd r.1),(Z1 r.2.1),(Zbi.sl.pd r.2.2)]):=by
 have H0:=h
 unfold Zl1 at H0
 clear h
 refine Zbv (N:=40) Tryd.func9 rfl rfl (Qe rfl) rfl rfl (fun a g0 hst hb=>?_)
 refine r_s (T:=[⟨[.o 0],_,[4],[],[3]⟩,⟨[],[(6,(pBox Zf 6 (default:Za)))],[7],[],[6]⟩,⟨[],_,[],[],[7]⟩,⟨[],[(8,(Zbi.sl.pd ([]:List Zd)))],[],[2],[8]⟩]) (F:=[.o 1,.o 2,.p 0 0,.p 1 0]) hst hb Zb
  (o_p rfl (Zm5 rfl rfl u_0)<|o_p rfl (Zby (zs:=[.int .i64 0,.int .i64 0,.int .i64 0,.int .i64 0,.float .f64 0,.int .i64 0,.string ByteArray.empty,.slice none 0 0]) (by kernel_rfl) (fun g=>Zc5 g) rfl rfl)<|Qa rfl c_b<|o_p rfl (Zfr rfl rfl (Opd.c (fun g=>Zi4 g)))<|o_n) (fun a g hst hb=>?_)
 refine wp_seq ?_
 refine r_s (T:=[⟨[.o 0],_,[],[],[13]⟩,⟨[.p 0 0],_,[],[0],[14]⟩]) (F:=[.o 0,.o 1,.o 2,.o 3,.p 1 0]) hst hb Zb
  (Qm rfl u_0<|Qn rfl u_0<|o_n) (fun a g hst hb=>?_)
 refine Zdj (fun a w=>∃ (j2:Za) (g:G),w=g.w ∧ St 40 [(1,(Z1 a1)),(2,(Zq.sl.pd a2)),(3,(pBox Zf 3 j2)),(6,(pBox Zf 6 (default:Za)))] a g ∧ Base g0 g ∧ Zh4 a1 a2 j2=some r) ?_ ?_
 ·rintro a w ⟨j2,g,rfl,hst,hb,H0⟩
  unfold Zh4 at H0
  refine Zy ?_
  obtain ⟨r3,h4,H0⟩:=Zg H0
  refine r_s (T:=[⟨[.o 2],_,[],[],[16]⟩,⟨[.p 0 0],_,[],[0],[17]⟩,⟨[.p 1 0,.o 2],_,[4],[0,1],[3]⟩]) (F:=[.o 0,.o 1,.p 2 0,.o 3]) hst hb Zb
   (QM rfl Zck u_0<|o_p rfl (Zr en_6 (Zis _ h4) rfl rfl (.cons u_0 .nil))<|o_p rfl (Zba Zck rfl rfl u_1 u_0)<|o_n) (fun a g hst hb=>?_)
  refine r_s (T:=[⟨[],[(9,(pRow Zbi 33 9 ([]:List Zd)))],[],[],[9]⟩]) (F:=[.o 0,.o 1,.o 2,.o 3,.p 0 0]) hst hb Zb
   (o_p rfl (Zfr rfl rfl (Opd.c (fun g=>Zt2 9 g)))<|o_n) (fun a g hst hb=>?_)
  refine wp_seq ?_
  refine r_s (T:=[⟨[.o 1],_,[],[],[18]⟩,⟨[.p 0 0],_,[],[0],[19]⟩,⟨[],_,[],[],[20]⟩]) (F:=[.o 0,.o 2,.o 3,.o 4,.p 0 0,.p 1 0,.p 2 0]) hst hb Zb
   (Qm rfl u_0<|o_p rfl (Zch Tryd.underlying44 rfl rfl u_0)<|Qm rfl c_i<|o_n) (fun a g hst hb=>?_)
  obtain ⟨z18,hz1,H0⟩:=Zg H0
  refine Zdj (fun a w=>∃ (y15:Bool) (y16:Za) (y17:List Zd) (g:G),w=g.w ∧ St 40 [(1,(Z1 y15)),(3,(pBox Zf 3 y16)),(6,(pBox Zf 6 (default:Za))),(9,(pRow Zbi 33 9 y17))] a g ∧ Base g0 g ∧ (y15,y16,y17)=z18) ?_ ?_
  ·rintro a w ⟨y15,y16,y17,g,rfl,hst,hb,rfl⟩
   refine Zy ?_
   refine r_s (T:=[⟨[.o 1],_,[],[],[37]⟩,⟨[.o 0],_,[],[],[38]⟩,⟨[.o 3],_,[],[],[39]⟩,⟨[.p 0 0,.o 2],_,[7],[0],[6]⟩,⟨[.p 1 0],_,[],[0,1,3],[7]⟩,⟨[.p 2 0],_,[],Lr 5,[8]⟩]) (F:=[.p 3 0,.p 4 0,.p 5 0]) hst hb Zb
    (QM rfl Zck u_0<|Qm rfl u_0<|Qm rfl u_0<|o_p rfl (Zba Zck rfl rfl u_1 u_0)<|Qa rfl u_0<|Qa rfl u_0<|o_n) (fun a g hst hb=>?_)
   refine wp_ret ?_
   obtain rfl:=Option.some.inj H0
   obtain ⟨u0,hu0,hq0⟩:=Zbk (P:=Tryd.prog) Zck (hst.at 0 rfl)
   exact Zg2 rfl hst hb hu0 (Zi (s:=7)) (Zi (s:=8)) (Zfl hq0 (hst.at 1 rfl) (Zst (hst.at 2 rfl)))
  ·refine wp_block ?_
   refine wp_loop_ghost (fun n a w=>∃ (x5:Bool) (x6:Za) (x7:List Zd) (x8:Int) (g:G),w=g.w ∧ St 40 [(1,(Z1 x5)),(3,(pBox Zf 3 x6)),(6,(pBox Zf 6 (default:Za))),(9,(pRow Zbi 33 9 x7)),(18,(Zq.sl.pd a2)),(19,(pInt .i64 (a2.length:Int))),(20,(pInt .i64 x8))] a g ∧ Base g0 g ∧ Zgv a2 n x5 x6 x7 x8=some z18) (Int.toNat ((a2.length:Int) - (0:Int)) + 1) ⟨a1,r3,([]:List Zd),(0:Int),g,rfl,(hst.pick [0,1,2,3,4,5,6] rfl),hb,hz1⟩ (fun n a w hI=>?_)
   obtain ⟨x5,x6,x7,x8,g,rfl,hst,hb,H1⟩:=hI
   cases n with
   | zero=>exact absurd H1 (by simp [Zgv])
   | succ n =>
    rw [Zgv] at H1
    refine r_s (T:=[⟨[.o 6,.o 5],_,[],[],[21]⟩]) (F:=[.o 0,.o 1,.o 2,.o 3,.o 4,.o 5,.o 6,.p 0 0]) hst hb Zb
     (o_p rfl (Zdp rfl rfl u_0 u_1)<|o_n) (fun a g hst hb=>?_)
    refine wp_seq ?_
    refine wp_cond_split (hst.bool 7 rfl) (fun hc9=>?_) (fun hc9=>?_)
    ·replace H1:=Z2 hc9 H1
     refine wp_skip ?_
     refine Zy ?_
     refine wp_seq ?_
     refine wp_block ?_
     obtain ⟨e10,h11,H1⟩:=Zg H1
     refine r_s (L:=[(1,_),(3,_),(6,_),(9,_),(18,_),(19,_),(20,_)]) (T:=[⟨[.o 4,.o 6],_,[],[],[22]⟩,⟨[.p 0 0],_,[],[0],[23]⟩,⟨[],[(11,(pBox Zq 11 (default:Zm)))],[12],[],[11]⟩,⟨[.p 1 0,.p 2 0],_,[12],[0,1,2],[11]⟩]) (F:=[.o 0,.o 1,.o 2,.o 3,.p 3 0,.o 4,.o 5,.o 6]) (hst.pick [0,1,2,3,4,5,6] rfl) hb Zb
      (o_p rfl (Zbt Tryd.underlying44 Zu7 rfl rfl u_0 u_1 h11)<|Ql rfl Zhj u_0<|o_p rfl (Zby (zs:=[.int .i64 0,.string ByteArray.empty,.int .i64 0,.float .f64 0,.string ByteArray.empty,.int .i64 0,.int .i64 0,.int .i64 0,.int .i64 0,.float .f64 0,.int .i64 0,.string ByteArray.empty,.slice none 0 0,.bool false]) (by kernel_rfl) (fun g=>Zmo g) rfl rfl)<|o_p rfl (Zda Zhj rfl rfl u_1 u_0)<|o_n) (fun a g hst hb=>?_)
     refine r_s (T:=[⟨[],[(12,(pBox Zbi 12 (default:Zd)))],[13],[],[12]⟩]) (F:=[.o 0,.o 1,.o 2,.o 3,.o 4,.p 0 0,.o 5,.o 6,.o 7]) hst hb Zb
      (o_p rfl (Zby (zs:=[.int .i64 0,.int .i64 0,.int .i64 0,.int .i64 0,.int .i64 0,.int .i64 0,.float .f64 0,.int .i64 0,.string ByteArray.empty,.slice none 0 0]) (by kernel_rfl) (fun g=>Zih g) rfl rfl)<|o_n) (fun a g hst hb=>?_)
     obtain ⟨r12,h13,H1⟩:=Zg H1
     refine r_s (T:=[⟨[.o 1],_,[],[],[25]⟩,⟨[.o 0],_,[],[],[26]⟩,⟨[.o 4],_,[],[],[27]⟩,⟨[.p 0 0,.p 1 0,.p 2 0],_,[],[0,1,2],[28]⟩,⟨[.p 3 0],_,[],Lr 4,[24]⟩,⟨[.p 4 0],_,[],Lr 5,[29]⟩,⟨[.p 4 0],_,[],Lr 5,[30]⟩,⟨[.p 4 0],_,[],Lr 5,[31]⟩,⟨[.p 5 0,.o 1],_,[4],Lr 6,[3]⟩,⟨[.p 6 0],_,[],[0,1,2,3,4,5,6,8],[1]⟩,⟨[.p 7 0,.o 5],_,[13],Lr 10,[12]⟩]) (F:=[.p 9 0,.p 8 0,.o 2,.o 3,.p 10 0,.o 6,.o 7,.o 8]) hst hb Zb
      (QM rfl Zck u_0<|Qm rfl u_0<|Ql rfl Zhj u_0<|o_p rfl (Zr en_7 (Zke _ _ _ h13) rfl rfl (.cons u_0 (.cons u_1 (.cons u_2 .nil))))<|Qm rfl u_0<|o_p rfl (Z8 rfl rfl u_0 rfl)<|o_p rfl (Z8 rfl rfl u_0 rfl)<|o_p rfl (Z8 rfl rfl u_0 rfl)<|o_p rfl (Zba Zck rfl rfl u_1 u_0)<|Qa rfl u_0<|o_p rfl (Zba Zoe rfl rfl u_1 u_0)<|o_n) (fun a g hst hb=>?_)
     obtain ⟨h14,H1⟩:=Zgx H1
     refine r_g (T:=[⟨[.o 3],_,[],[],[32]⟩,⟨[.o 4],_,[],[],[33]⟩,⟨[.p 1 0],_,[],[1],[34]⟩,⟨[.p 0 0,.p 2 0],_,[10],[0,1,2],[9,32,35]⟩,⟨[.p 3 0],_,[],Lr 4,[9]⟩]) (F:=[.o 0,.o 1,.o 2,.p 4 0,.o 5,.o 6,.o 7]) hst hb Zb
      (Qm rfl u_0<|QM rfl Zoe u_0<|o_p rfl (Zky Zvm (xs:=[.tmp 33]) (.cons u_0 .nil) (by decide) rfl rfl)<|o_p rfl (Zs0 Zvm rfl rfl u_0 u_1 h14)<|Qa rfl u_0<|o_n) (fun a g hst hb=>?_)
     refine Zb7 ?_
     refine Zy ?_
     refine r_g (T:=[⟨[.o 6],_,[],[],[36]⟩,⟨[.p 0 0],_,[],[0],[20]⟩]) (F:=[.o 0,.o 1,.o 2,.o 3,.o 4,.o 5,.p 1 0]) hst hb Zb
      (o_p rfl (Zcv rfl rfl u_0 c_i rfl)<|Qm rfl u_0<|o_n) (fun a g hst hb=>?_)
     exact ⟨n,Nat.lt_succ_self _,r12.2.1,r12.1,(x7 ++ ([r12.2.2]:List Zd)),(IntKind.i64.wrap (x8 + (1:Int))),g,rfl,(hst.pick [0,1,2,3,4,5,6] rfl),hb,H1⟩
    ·replace H1:=Z3 hc9 H1
     refine wp_exit ?_
     refine Zcu ?_
     refine Zcu ?_
     refine Zd5 ?_
     exact ⟨x5,x6,x7,g,rfl,(hst.pick [0,1,2,3] rfl),hb,Option.some.inj H1⟩
 ·refine wp_cond_split (hst.bool 4 rfl) (fun hc1=>?_) (fun hc1=>?_)
  ·replace H0:=Z2 hc1 H0
   refine r_g (L:=[(1,_),(2,_),(3,_),(6,_)]) (T:=[⟨[],_,[],[],[15]⟩,⟨[.p 0 0,.o 2],_,[4],[0],[3]⟩]) (F:=[.o 0,.o 1,.p 1 0,.o 3]) (hst.pick [0,1,2,3] rfl) hb Zb
    (o_p rfl (Zmi rfl rfl )<|o_p rfl (Zba Zck rfl rfl u_1 u_0)<|o_n) (fun a g hst hb=>?_)
   exact ⟨({ Kind:=(0:Int),Num:=(0:Int),Low:=(0:Int),High:=(0:Int),Real:=(0:Nat),Cap:=(0:Int),Text:=ByteArray.empty,List:=([]:List Zc) }:Za),g,rfl,(hst.pick [0,1,2,3] rfl),hb,H0⟩
  ·replace H0:=Z3 hc1 H0
   refine wp_skip ?_
   exact ⟨a0,g,rfl,(hst.pick [0,1,2,3] rfl),hb,H0⟩
theorem Zor (a0:Zd) (a1:Zd) {r:Bool} (h:Zkr a0 a1=some r):FnOk Tryd.prog 10 [(Zbi.pd a0),(Zbi.pd a1)] (Z1 r):=by
 have H0:=h
 unfold Zkr at H0
 clear h
 refine Zbv (N:=24) Tryd.func10 rfl rfl (Qe rfl) rfl rfl (fun a g0 hst hb=>?_)
 refine r_s (T:=[⟨[.o 0],_,[],[],[2]⟩,⟨[.o 1],_,[],[],[3]⟩,⟨[],_,[],[],[4]⟩]) (F:=[.p 0 0,.p 1 0]) hst hb Zb
  (Qb rfl u_0<|Qb rfl u_0<|Qa rfl c_b<|o_n) (fun a g hst hb=>?_)
 obtain ⟨r1,h2,H0⟩:=Zg H0
 refine r_s (T:=⟨[.o 0],_,[],[],[5]⟩ :: ⟨[.p 0 0],_,[],[0],[6]⟩ :: ⟨[.o 1],_,[],[],[7]⟩ :: ⟨[.p 2 0],_,[],[2],[8]⟩ :: ⟨[.p 1 0,.p 3 0],_,[],Lr 4,[9]⟩ :: ⟨[.p 4 0],_,[],Lr 5,[10]⟩ :: ⟨[.p 5 0,.o 0],_,[],Lr 6,[11]⟩ :: ⟨[.p 5 0,.p 6 0],_,[],Lr 7,[12]⟩ :: ⟨[.p 5 0,.o 1],_,[],Lr 6,[13]⟩ :: ⟨[.p 5 0,.p 8 0],_,[],[0,1,2,3,4,5,8],[14]⟩ :: ⟨[.p 5 0,.p 7 0,.p 9 0],_,[],Lr 10,[15]⟩ :: ⟨[.p 5 0,.p 10 0],_,[],Lr 11,[16]⟩ :: ⟨[.p 11 0],_,[],Lr 12,[17]⟩ :: ⟨[.p 12 0,.o 0],_,[],Lr 13,[18]⟩ :: ⟨[.p 12 0,.p 13 0],_,[],Lr 14,[19]⟩ :: ⟨[.p 12 0,.o 1],_,[],Lr 13,[20]⟩ :: ⟨[.p 12 0,.p 15 0],_,[],0 :: 1 :: 2 :: 3 :: 4 :: 5 :: 6 :: 7 :: 8 :: 9 :: 10 :: 11 :: 12 :: 15 :: [],[21]⟩ :: ⟨[.p 12 0,.p 14 0,.p 16 0],_,[],Lr 17,[22]⟩ :: ⟨[.p 12 0,.p 17 0],_,[],Lr 18,[23]⟩ :: ⟨[.p 18 0],_,[],Lr 19,[4]⟩ :: []) (F:=[.p 19 0]) hst hb Zb
  (Qf rfl Zlb u_0<|Ql rfl Zoi u_0<|Qf rfl Zlb u_0<|Ql rfl Zoi u_0<|o_p rfl (Zbq rfl rfl u_0 u_1)<|Qm rfl u_0<|o_g (Qg_t rfl (fun hG=>Zh Zqt rfl rfl u_0))<|o_g (Qg_t rfl (fun hG=>Zo ty_2 rfl rfl (Opd.gd hG u_0)))<|o_g (Qg_t rfl (fun hG=>Zh Zqt rfl rfl u_0))<|o_g (Qg_t rfl (fun hG=>Zo ty_2 rfl rfl (Opd.gd hG u_0)))<|o_g (Qg_t rfl (fun hG=>Zbq rfl rfl (Opd.gd hG u_0) (Opd.gd hG u_1)))<|o_p rfl (Zbh rfl rfl u_0 (fun hz=>(Opd.gd hz u_1)))<|Qm rfl u_0<|o_g (Qg_t rfl (fun hG=>Zh Zqq rfl rfl u_0))<|o_g (Qg_t rfl (fun hG=>Zo Zck rfl rfl (Opd.gd hG u_0)))<|o_g (Qg_t rfl (fun hG=>Zh Zqq rfl rfl u_0))<|o_g (Qg_t rfl (fun hG=>Zo Zck rfl rfl (Opd.gd hG u_0)))<|o_g (Qg_t rfl (fun hG=>Zr Zva (Zlr _ _ (Zbx h2 hG)) rfl rfl (.cons (Opd.gd hG u_0) (.cons (Opd.gd hG u_1) .nil))))<|o_p rfl (Zbh rfl rfl u_0 (fun hz=>(Opd.gd hz u_1)))<|Qa rfl u_0<|o_n) (fun a g hst hb=>?_)
 refine wp_ret ?_
 obtain rfl:=Option.some.inj H0
 exact Zz rfl hst hb (Zi (s:=4)) (hst.at 0 rfl)
theorem Zji {r:Bool} (h:Ze9=some r):FnOk Tryd.prog 4 [] (Z1 r):=by
 have H0:=h
 unfold Ze9 at H0
 clear h
 refine Zbv (N:=59) Tryd.func4 rfl rfl (Qe rfl) rfl rfl (fun a g0 hst hb=>?_)
 refine r_s (T:=[⟨[],_,[],[],[0]⟩]) (F:=[]) hst hb Zb
  (Qa rfl c_b<|o_n) (fun a g hst hb=>?_)
 obtain ⟨r1,h2,H0⟩:=Zg H0
 refine r_s (T:=⟨[],_,[],[],[6]⟩ :: ⟨[],_,[],[],[7]⟩ :: ⟨[.p 0 0,.p 1 0],_,[],[0,1],[8]⟩ :: ⟨[.p 2 0],_,[],[0,1,2],[5]⟩ :: ⟨[.p 3 0],_,[],Lr 4,[9]⟩ :: ⟨[.p 3 0],_,[],Lr 4,[10]⟩ :: ⟨[.p 3 0],_,[],Lr 4,[11]⟩ :: ⟨[],[(1,(pBox Zf 1 (default:Za)))],[2],[],[1]⟩ :: ⟨[],[(3,(pBox Zbi 3 (default:Zd)))],[4],[],[3]⟩ :: ⟨[.p 4 0,.p 7 0],_,[2],[0,1,2,3,4,7,8],[1]⟩ :: ⟨[.p 5 0],_,[],[0,1,2,3,4,5,7,8,9],[2]⟩ :: ⟨[.p 6 0,.p 8 0],_,[4],Lr 11,[3]⟩ :: []) (F:=[.p 9 0,.p 10 0,.p 11 0]) hst hb Zb
  (o_p rfl (Zpy rfl rfl c_i c_i c_i)<|o_p rfl (Zlp rfl rfl c_i c_s c_i)<|o_p rfl (Zr en_7 (Zke _ _ _ h2) rfl rfl (.cons u_0 (.cons c_b (.cons u_1 .nil))))<|Qm rfl u_0<|o_p rfl (Z8 rfl rfl u_0 rfl)<|o_p rfl (Z8 rfl rfl u_0 rfl)<|o_p rfl (Z8 rfl rfl u_0 rfl)<|o_p rfl (Zby (zs:=[.int .i64 0,.int .i64 0,.int .i64 0,.int .i64 0,.float .f64 0,.int .i64 0,.string ByteArray.empty,.slice none 0 0]) (by kernel_rfl) (fun g=>Zc5 g) rfl rfl)<|o_p rfl (Zby (zs:=[.int .i64 0,.int .i64 0,.int .i64 0,.int .i64 0,.int .i64 0,.int .i64 0,.float .f64 0,.int .i64 0,.string ByteArray.empty,.slice none 0 0]) (by kernel_rfl) (fun g=>Zih g) rfl rfl)<|o_p rfl (Zba Zck rfl rfl u_1 u_0)<|Qa rfl u_0<|o_p rfl (Zda Zoe rfl rfl u_1 u_0)<|o_n) (fun a g hst hb=>?_)
 refine wp_seq ?_
 refine r_s (T:=⟨[.o 0],_,[],[],[12]⟩ :: ⟨[.p 0 0],_,[],[0],[13]⟩ :: ⟨[.p 1 0],_,[],[0,1],[14]⟩ :: ⟨[.p 2 0],_,[],[0,1,2],[15]⟩ :: ⟨[.p 3 0,.o 1],_,[],Lr 4,[16]⟩ :: ⟨[.p 3 0,.p 4 0],_,[],Lr 5,[17]⟩ :: ⟨[.p 3 0,.p 5 0],_,[],Lr 6,[18]⟩ :: ⟨[.p 6 0],_,[],Lr 7,[19]⟩ :: ⟨[.p 7 0,.o 2],_,[],Lr 8,[20]⟩ :: ⟨[.p 7 0,.p 8 0],_,[],Lr 9,[21]⟩ :: ⟨[.p 7 0,.p 9 0],_,[],Lr 10,[22]⟩ :: ⟨[.p 7 0,.p 10 0],_,[],Lr 11,[23]⟩ :: []) (F:=[.o 0,.p 11 0]) hst hb Zb
  (o_p rfl (Zs Zgp (off:=1) (by kernel_rfl) rfl rfl u_0)<|QP rfl ty_2 u_0<|o_p rfl (Zf7 rfl rfl u_0 c_i)<|Qm rfl u_0<|o_g (Qg_f rfl (fun hG=>Zbc rfl rfl u_0))<|o_g (Qg_f rfl (fun hG=>Zhi rfl rfl (Opd.gd hG u_0)))<|o_p rfl (Zb3 rfl rfl u_0 (fun hz=>(Opd.gd (bNF hz) u_1)))<|Qm rfl u_0<|o_g (Qg_f rfl (fun hG=>Zh Zlb rfl rfl u_0))<|o_g (Qg_f rfl (fun hG=>Zo Zoi rfl rfl (Opd.gd hG u_0)))<|o_g (Qg_f rfl (fun hG=>Zf7 rfl rfl (Opd.gd hG u_0) c_i))<|o_p rfl (Zb3 rfl rfl u_0 (fun hz=>(Opd.gd (bNF hz) u_1)))<|o_n) (fun a g hst hb=>?_)
 refine wp_cond_split (hst.bool 1 rfl) (fun hc3=>?_) (fun hc3=>?_)
 ·replace H0:=Z2 hc3 H0
  refine r_s (L:=[]) (T:=[⟨[],_,[],[],[0]⟩]) (F:=[.p 0 0]) (hst.pick [] rfl) hb Zb
   (Qa rfl c_b<|o_n) (fun a g hst hb=>?_)
  refine wp_ret ?_
  refine Zp ?_
  obtain rfl:=Option.some.inj H0
  exact Zz rfl hst hb (Zi (s:=0)) (hst.at 0 rfl)
 ·replace H0:=Z3 hc3 H0
  refine wp_skip ?_
  refine Zy ?_
  obtain ⟨r4,h5,H0⟩:=Zg H0
  refine r_s (L:=[(1,_)]) (T:=⟨[],_,[],[],[25]⟩ :: ⟨[],_,[],[],[26]⟩ :: ⟨[.p 1 0],_,[],[1],[27]⟩ :: ⟨[],_,[],[],[28]⟩ :: ⟨[.p 2 0,.p 3 0],_,[],[1,2,3],[29]⟩ :: ⟨[.p 0 0,.p 4 0],_,[],Lr 5,[30]⟩ :: ⟨[.p 5 0],_,[],Lr 6,[24]⟩ :: ⟨[.p 6 0],_,[],Lr 7,[31]⟩ :: ⟨[.p 6 0],_,[],Lr 7,[32]⟩ :: ⟨[.p 6 0],_,[],Lr 7,[33]⟩ :: ⟨[.p 7 0,.o 0],_,[2],Lr 8,[1]⟩ :: ⟨[.p 8 0],_,[],[0,1,2,3,4,5,6,7,8,10],[2]⟩ :: ⟨[.p 9 0],_,[],Lr 12,[4]⟩ :: []) (F:=[.p 10 0,.p 11 0,.p 12 0]) (hst.pick [0] rfl) hb Zb
   (o_p rfl (Zmi rfl rfl )<|o_p rfl (Zth rfl rfl c_i c_i)<|o_p rfl (Zp1 rfl rfl c_i c_s u_0)<|o_p rfl (Zlp rfl rfl c_i c_s c_i)<|o_p rfl (Zky Zvh (xs:=[.tmp 27,.tmp 28]) (.cons u_0 (.cons u_1 .nil)) (by decide) rfl rfl)<|o_p rfl (Zr en_9 (Zqa _ _ _ h5) rfl rfl (.cons u_0 (.cons c_b (.cons u_1 .nil))))<|Qm rfl u_0<|o_p rfl (Z8 rfl rfl u_0 rfl)<|o_p rfl (Z8 rfl rfl u_0 rfl)<|o_p rfl (Z8 rfl rfl u_0 rfl)<|o_p rfl (Zba Zck rfl rfl u_1 u_0)<|Qa rfl u_0<|Qa rfl u_0<|o_n) (fun a g hst hb=>?_)
  obtain ⟨e6,h7,H0⟩:=Zg H0;obtain ⟨r8,h9,H0⟩:=Zg H0;obtain ⟨e10,h11,H0⟩:=Zg H0
  refine r_s (T:=⟨[.o 0],_,[],[],[34]⟩ :: ⟨[.p 0 0],_,[],[0],[35]⟩ :: ⟨[.p 1 0],_,[],[0,1],[36]⟩ :: ⟨[.p 2 0],_,[],[0,1,2],[37]⟩ :: ⟨[.p 3 0,.o 1],_,[],Lr 4,[38]⟩ :: ⟨[.p 3 0,.p 4 0],_,[],Lr 5,[39]⟩ :: ⟨[.p 5 0],_,[],Lr 6,[40]⟩ :: ⟨[.p 6 0,.o 2],_,[],Lr 7,[41]⟩ :: ⟨[.p 6 0,.p 7 0],_,[],Lr 8,[42]⟩ :: ⟨[.p 6 0,.p 8 0],_,[],Lr 9,[43]⟩ :: ⟨[.p 6 0,.p 9 0],_,[],Lr 10,[44]⟩ :: ⟨[.p 10 0],_,[],Lr 11,[45]⟩ :: ⟨[.p 11 0,.o 2],_,[],Lr 12,[46]⟩ :: ⟨[.p 11 0,.p 12 0],_,[],Lr 13,[47]⟩ :: ⟨[.p 11 0,.p 13 0],_,[],Lr 14,[48]⟩ :: ⟨[.p 11 0],_,[],Lr 12,[49]⟩ :: ⟨[.p 11 0,.p 14 0,.p 15 0],_,[],Lr 16,[50]⟩ :: ⟨[.p 11 0,.p 16 0],_,[],Lr 17,[51]⟩ :: ⟨[.p 17 0],_,[],Lr 18,[52]⟩ :: ⟨[.p 18 0,.o 2],_,[],Lr 19,[53]⟩ :: ⟨[.p 18 0,.p 19 0],_,[],Lr 20,[54]⟩ :: ⟨[.p 18 0,.p 20 0],_,[],Lr 21,[55]⟩ :: ⟨[.p 18 0,.p 21 0],_,[],Lr 22,[56]⟩ :: ⟨[.p 18 0,.p 22 0],_,[],Lr 23,[57]⟩ :: ⟨[.p 18 0,.p 23 0],_,[],Lr 24,[58]⟩ :: ⟨[.p 24 0],_,[],Lr 25,[0]⟩ :: []) (F:=[.p 25 0]) hst hb Zb
   (o_p rfl (Zs Zgp (off:=1) (by kernel_rfl) rfl rfl u_0)<|QP rfl ty_2 u_0<|o_p rfl (Zbq rfl rfl u_0 c_i)<|Qm rfl u_0<|o_g (Qg_t rfl (fun hG=>Zbc rfl rfl u_0))<|o_p rfl (Zbh rfl rfl u_0 (fun hz=>(Opd.gd hz u_1)))<|Qm rfl u_0<|o_g (Qg_t rfl (fun hG=>Zbc rfl rfl u_0))<|o_g (Qg_t rfl (fun hG=>Zch Tryd.underlying40 rfl rfl (Opd.gd hG u_0)))<|o_g (Qg_t rfl (fun hG=>Zbq rfl rfl (Opd.gd hG u_0) c_i))<|o_p rfl (Zbh rfl rfl u_0 (fun hz=>(Opd.gd hz u_1)))<|Qm rfl u_0<|o_g (Qg_t rfl (fun hG=>Zbc rfl rfl u_0))<|o_g (Qg_t rfl (fun hG=>Zbt Tryd.underlying40 Zvc rfl rfl (Opd.gd hG u_0) c_i (Zbx h7 hG)))<|o_g (Qg_t rfl (fun hG=>Zo Zoe rfl rfl (Opd.gd hG u_0)))<|o_g (Qg_t rfl (fun hG=>Zw3 rfl rfl ))<|o_g (Qg_t rfl (fun hG=>Zr Zyf (Zor _ _ (Zbx h9 hG)) rfl rfl (.cons (Opd.gd hG u_0) (.cons (Opd.gd hG u_1) .nil))))<|o_p rfl (Zbh rfl rfl u_0 (fun hz=>(Opd.gd hz u_1)))<|Qm rfl u_0<|o_g (Qg_t rfl (fun hG=>Zbc rfl rfl u_0))<|o_g (Qg_t rfl (fun hG=>Zbt Tryd.underlying40 Zvc rfl rfl (Opd.gd hG u_0) c_i (Zbx h11 hG)))<|o_g (Qg_t rfl (fun hG=>Zh Zlb rfl rfl (Opd.gd hG u_0)))<|o_g (Qg_t rfl (fun hG=>Zo Zoi rfl rfl (Opd.gd hG u_0)))<|o_g (Qg_t rfl (fun hG=>Zbq rfl rfl (Opd.gd hG u_0) c_i))<|o_p rfl (Zbh rfl rfl u_0 (fun hz=>(Opd.gd hz u_1)))<|Qa rfl u_0<|o_n) (fun a g hst hb=>?_)
  refine wp_ret ?_
  obtain rfl:=Option.some.inj H0
  exact Zz rfl hst hb (Zi (s:=0)) (hst.at 0 rfl)
theorem Zh7 (a0:Za) {r:Int} (h:Zdg a0=some r):FnOk Tryd.prog 11 [(Zf.pd a0)] (pInt .i64 r):=by
 have H0:=h
 unfold Zdg at H0
 clear h
 refine Zbv (N:=27) Tryd.func11 rfl rfl (Qe rfl) rfl rfl (fun a g0 hst hb=>?_)
 refine r_s (T:=[⟨[.o 0],_,[],[],[1]⟩,⟨[],_,[],[],[2]⟩]) (F:=[.p 0 0]) hst hb Zb
  (Qb rfl u_0<|Qa rfl c_i<|o_n) (fun a g hst hb=>?_)
 refine wp_seq ?_
 refine r_s (T:=[⟨[.o 0],_,[],[],[5]⟩,⟨[.p 0 0],_,[],[0],[6]⟩,⟨[.p 1 0],_,[],[0,1],[7]⟩,⟨[.p 2 0],_,[],[0,1,2],[8]⟩,⟨[.p 3 0],_,[],Lr 4,[9]⟩,⟨[.p 4 0,.o 0],_,[],Lr 5,[10]⟩,⟨[.p 4 0,.p 5 0],_,[],Lr 6,[11]⟩,⟨[.p 4 0,.p 6 0],_,[],Lr 7,[12]⟩,⟨[.p 4 0,.p 7 0],_,[],Lr 8,[13]⟩,⟨[.p 4 0,.p 8 0],_,[],Lr 9,[14]⟩]) (F:=[.o 0,.p 9 0]) hst hb Zb
  (Qf rfl Zdm u_0<|Ql rfl Zfx u_0<|o_p rfl (Zch Tryd.underlying23 rfl rfl u_0)<|o_p rfl (Zc6 rfl rfl u_0 c_i)<|Qm rfl u_0<|o_g (Qg_f rfl (fun hG=>Zh Zh0 rfl rfl u_0))<|o_g (Qg_f rfl (fun hG=>Zo ty_9 rfl rfl (Opd.gd hG u_0)))<|o_g (Qg_f rfl (fun hG=>Zgq Tryd.underlying9 rfl rfl (Opd.gd hG u_0)))<|o_g (Qg_f rfl (fun hG=>Zc6 rfl rfl (Opd.gd hG u_0) c_i))<|o_p rfl (Zb3 rfl rfl u_0 (fun hz=>(Opd.gd (bNF hz) u_1)))<|o_n) (fun a g hst hb=>?_)
 refine wp_cond_split (hst.bool 1 rfl) (fun hc1=>?_) (fun hc1=>?_)
 ·replace H0:=Z2 hc1 H0
  refine r_s (L:=[]) (T:=[⟨[],_,[],[],[2]⟩]) (F:=[.p 0 0]) (hst.pick [] rfl) hb Zb
   (Qa rfl c_i<|o_n) (fun a g hst hb=>?_)
  refine wp_ret ?_
  refine Zp ?_
  obtain rfl:=Option.some.inj H0
  exact Zz rfl hst hb (Zi (s:=2)) (hst.at 0 rfl)
 ·replace H0:=Z3 hc1 H0
  refine wp_skip ?_
  refine Zy ?_
  refine wp_seq ?_
  refine r_s (L:=[(1,_)]) (T:=[⟨[.o 0],_,[],[],[15]⟩,⟨[.p 0 0],_,[],[0],[16]⟩,⟨[.p 1 0],_,[],[0,1],[17]⟩,⟨[],_,[],[],[18]⟩]) (F:=[.p 1 0,.p 2 0,.p 3 0]) (hst.pick [0] rfl) hb Zb
   (Qf rfl Zdm u_0<|Ql rfl Zfx u_0<|o_p rfl (Zch Tryd.underlying23 rfl rfl u_0)<|Qm rfl c_i<|o_n) (fun a g hst hb=>?_)
  obtain ⟨z7,hz1,H0⟩:=Zg H0
  refine Zdj (fun a w=>∃ (g:G),w=g.w ∧ St 27 [] a g ∧ Base g0 g ∧ (.inr ())=z7) ?_ ?_
  ·rintro a w ⟨g,rfl,hst,hb,rfl⟩
   refine Zy ?_
   refine r_s (T:=[⟨[],_,[],[],[2]⟩]) (F:=[.p 0 0]) hst hb Zb
    (Qa rfl c_i<|o_n) (fun a g hst hb=>?_)
   refine wp_ret ?_
   obtain rfl:=Option.some.inj H0
   exact Zz rfl hst hb (Zi (s:=2)) (hst.at 0 rfl)
  ·refine wp_block ?_
   refine wp_loop_ghost (fun n a w=>∃ (x2:Int) (g:G),w=g.w ∧ St 27 [(16,(Zj.sl.pd a0.List)),(17,(pInt .i64 (a0.List.length:Int))),(18,(pInt .i64 x2))] a g ∧ Base g0 g ∧ Zbm a0 n x2=some z7) (Int.toNat ((a0.List.length:Int) - (0:Int)) + 1) ⟨(0:Int),g,rfl,(hst.pick [0,1,2] rfl),hb,hz1⟩ (fun n a w hI=>?_)
   obtain ⟨x2,g,rfl,hst,hb,H1⟩:=hI
   cases n with
   | zero=>exact absurd H1 (by simp [Zbm])
   | succ n =>
    rw [Zbm] at H1
    refine r_s (T:=[⟨[.o 2,.o 1],_,[],[],[19]⟩]) (F:=[.o 0,.o 1,.o 2,.p 0 0]) hst hb Zb
     (o_p rfl (Zdp rfl rfl u_0 u_1)<|o_n) (fun a g hst hb=>?_)
    refine wp_seq ?_
    refine wp_cond_split (hst.bool 3 rfl) (fun hc3=>?_) (fun hc3=>?_)
    ·replace H1:=Z2 hc3 H1
     refine wp_skip ?_
     refine Zy ?_
     refine wp_seq ?_
     refine wp_block ?_
     obtain ⟨e4,h5,H1⟩:=Zg H1
     refine r_s (L:=[(16,_),(17,_),(18,_)]) (T:=[⟨[.o 0,.o 2],_,[],[],[20]⟩,⟨[.p 0 0],_,[],[0],[21]⟩,⟨[],[(4,(pBox Zj 4 (default:Zc)))],[5],[],[4]⟩,⟨[.p 1 0,.p 2 0],_,[5],[0,1,2],[4]⟩]) (F:=[.p 3 0,.o 0,.o 1,.o 2]) (hst.pick [0,1,2] rfl) hb Zb
      (o_p rfl (Zbt Tryd.underlying23 Zel rfl rfl u_0 u_1 h5)<|Ql rfl Zd8 u_0<|o_p rfl (Zby (zs:=[.float .f64 0,.string ByteArray.empty]) (by kernel_rfl) (fun g=>Zgw g) rfl rfl)<|o_p rfl (Zda Zd8 rfl rfl u_1 u_0)<|o_n) (fun a g hst hb=>?_)
     refine r_s (T:=[⟨[.o 0],_,[],[],[22]⟩,⟨[.p 0 0],_,[],[0],[23]⟩,⟨[.p 1 0],_,[],[0,1],[24]⟩,⟨[.p 2 0],_,[],[0,1,2],[25]⟩]) (F:=[.o 1,.o 2,.o 3,.p 3 0]) hst hb Zb
      (Qf rfl Ze0 u_0<|Ql rfl ty_9 u_0<|o_p rfl (Zgq Tryd.underlying9 rfl rfl u_0)<|o_p rfl (Zc6 rfl rfl u_0 c_i)<|o_n) (fun a g hst hb=>?_)
     refine wp_cond_split (hst.bool 3 rfl) (fun hc6=>?_) (fun hc6=>?_)
     ·replace H1:=Z2 hc6 H1
      refine r_s (L:=[]) (T:=[⟨[],_,[],[],[2]⟩]) (F:=[.p 0 0]) (hst.pick [] rfl) hb Zb
       (Qa rfl c_i<|o_n) (fun a g hst hb=>?_)
      refine wp_ret ?_
      refine Zx ?_
      refine Zp ?_
      refine Zp ?_
      refine Zx ?_
      refine Zp ?_
      refine Zp ?_
      obtain rfl:=Option.some.inj H1
      obtain rfl:=Option.some.inj H0
      exact Zz rfl hst hb (Zi (s:=2)) (hst.at 0 rfl)
     ·replace H1:=Z3 hc6 H1
      refine wp_skip ?_
      refine Zb7 ?_
      refine Zy ?_
      refine r_g (L:=[(16,_),(17,_),(18,_)]) (T:=[⟨[.o 2],_,[],[],[26]⟩,⟨[.p 0 0],_,[],[0],[18]⟩]) (F:=[.o 0,.o 1,.p 1 0]) (hst.pick [0,1,2] rfl) hb Zb
       (o_p rfl (Zcv rfl rfl u_0 c_i rfl)<|Qm rfl u_0<|o_n) (fun a g hst hb=>?_)
      exact ⟨n,Nat.lt_succ_self _,(IntKind.i64.wrap (x2 + (1:Int))),g,rfl,(hst.pick [0,1,2] rfl),hb,H1⟩
    ·replace H1:=Z3 hc3 H1
     refine wp_exit ?_
     refine Zcu ?_
     refine Zcu ?_
     refine Zd5 ?_
     exact ⟨g,rfl,(hst.pick [] rfl),hb,Option.some.inj H1⟩
theorem Zkw (a0:Zm) {r:Int} (h:Ze2 a0=some r):FnOk Tryd.prog 12 [(Zq.pd a0)] (pInt .i64 r):=by
 have H0:=h
 unfold Ze2 at H0
 clear h
 refine Zbv (N:=19) Tryd.func12 rfl rfl (Qe rfl) rfl rfl (fun a g0 hst hb=>?_)
 refine r_s (T:=[⟨[.o 0],_,[],[],[1]⟩,⟨[],_,[],[],[2]⟩]) (F:=[.p 0 0]) hst hb Zb
  (Qb rfl u_0<|Qa rfl c_i<|o_n) (fun a g hst hb=>?_)
 refine wp_seq ?_
 obtain ⟨r1,h2,H0⟩:=Zg H0
 refine r_s (T:=⟨[.o 0],_,[],[],[3]⟩ :: ⟨[.p 0 0],_,[],[0],[4]⟩ :: ⟨[.p 1 0],_,[],[0,1],[5]⟩ :: ⟨[.p 2 0],_,[],[0,1,2],[6]⟩ :: ⟨[.p 3 0],_,[],Lr 4,[7]⟩ :: ⟨[.p 4 0,.o 0],_,[],Lr 5,[8]⟩ :: ⟨[.p 4 0,.p 5 0],_,[],Lr 6,[9]⟩ :: ⟨[.p 4 0,.p 6 0],_,[],Lr 7,[10]⟩ :: ⟨[.p 4 0,.p 7 0],_,[],Lr 8,[11]⟩ :: ⟨[.p 4 0,.p 8 0],_,[],Lr 9,[12]⟩ :: ⟨[.p 9 0],_,[],Lr 10,[13]⟩ :: ⟨[.p 10 0,.o 0],_,[],Lr 11,[14]⟩ :: ⟨[.p 10 0,.p 11 0],_,[],Lr 12,[15]⟩ :: ⟨[.p 10 0,.p 12 0],_,[],Lr 13,[16]⟩ :: ⟨[.p 10 0,.p 13 0],_,[],Lr 14,[17]⟩ :: ⟨[.p 10 0,.p 14 0],_,[],Lr 15,[18]⟩ :: []) (F:=[.p 15 0]) hst hb Zb
  (Qf rfl Zm6 u_0<|Ql rfl ty_9 u_0<|o_p rfl (Zgq Tryd.underlying9 rfl rfl u_0)<|o_p rfl (Zc6 rfl rfl u_0 c_i)<|Qm rfl u_0<|o_g (Qg_f rfl (fun hG=>Zh Zf3 rfl rfl u_0))<|o_g (Qg_f rfl (fun hG=>Zo ty_9 rfl rfl (Opd.gd hG u_0)))<|o_g (Qg_f rfl (fun hG=>Zgq Tryd.underlying9 rfl rfl (Opd.gd hG u_0)))<|o_g (Qg_f rfl (fun hG=>Zc6 rfl rfl (Opd.gd hG u_0) c_i))<|o_p rfl (Zb3 rfl rfl u_0 (fun hz=>(Opd.gd (bNF hz) u_1)))<|Qm rfl u_0<|o_g (Qg_f rfl (fun hG=>Zh Zio rfl rfl u_0))<|o_g (Qg_f rfl (fun hG=>Zo Zck rfl rfl (Opd.gd hG u_0)))<|o_g (Qg_f rfl (fun hG=>Zr Zvk (Zh7 _ (Zbx h2 hG)) rfl rfl (.cons (Opd.gd hG u_0) .nil)))<|o_g (Qg_f rfl (fun hG=>Zc6 rfl rfl (Opd.gd hG u_0) c_i))<|o_p rfl (Zb3 rfl rfl u_0 (fun hz=>(Opd.gd (bNF hz) u_1)))<|o_n) (fun a g hst hb=>?_)
 refine wp_cond_split (hst.bool 0 rfl) (fun hc3=>?_) (fun hc3=>?_)
 ·replace H0:=Z2 hc3 H0
  refine r_s (L:=[]) (T:=[⟨[],_,[],[],[2]⟩]) (F:=[.p 0 0]) (hst.pick [] rfl) hb Zb
   (Qa rfl c_i<|o_n) (fun a g hst hb=>?_)
  refine wp_ret ?_
  refine Zp ?_
  obtain rfl:=Option.some.inj H0
  exact Zz rfl hst hb (Zi (s:=2)) (hst.at 0 rfl)
 ·replace H0:=Z3 hc3 H0
  refine wp_skip ?_
  refine Zy ?_
  refine r_s (L:=[]) (T:=[⟨[],_,[],[],[2]⟩]) (F:=[.p 0 0]) (hst.pick [] rfl) hb Zb
   (Qa rfl c_i<|o_n) (fun a g hst hb=>?_)
  refine wp_ret ?_
  obtain rfl:=Option.some.inj H0
  exact Zz rfl hst hb (Zi (s:=2)) (hst.at 0 rfl)
end Go.CL
