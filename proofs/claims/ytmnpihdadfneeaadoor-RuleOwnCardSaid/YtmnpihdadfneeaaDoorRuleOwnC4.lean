/- A part of the proof of RuleOwn. -/
import Derived.Test.YtmnpihdadfneeaaDoorRuleOwnC3
import Derived.KernelRfl
import Derived.Laws.Strings
import Derived.Test.YtmnpihdadfneeaaDoorRows
import Derived.Test.YtmnpihdadfneeaaDoorCards
import Derived.Test.YtmnpihdadfneeaaDoorTie
import Derived.SevenTiedAt
set_option linter.unusedVariables false
set_option linter.unusedSimpArgs false
set_option maxRecDepth 100000
namespace Go.CL
open Go Go.RowKit Go.Proofs
theorem Zkx (a0:Za) (a1:List Zm) {r:Bool} (h:Zc1 a0 a1=some r):FnOk Tryd.prog 5 [(Zf.pd a0),(Zq.sl.pd a1)] (Z1 r):=by
 have H0:=h
 unfold Zc1 at H0
 clear h
 refine Zbv (N:=25) Tryd.func5 rfl rfl (Qe rfl) rfl rfl (fun a g0 hst hb=>?_)
 refine r_s (T:=[⟨[.o 0],_,[],[],[2]⟩,⟨[],_,[],[],[4]⟩]) (F:=[.o 1,.p 0 0]) hst hb Zb
  (Qb rfl u_0<|Qa rfl c_b<|o_n) (fun a g hst hb=>?_)
 refine wp_seq ?_
 obtain ⟨r1,h2,H0⟩:=Zg H0
 refine r_s (T:=[⟨[.o 1],_,[],[],[7]⟩,⟨[.p 0 0],_,[],[0],[8]⟩,⟨[.p 1 0],_,[],[0,1],[9]⟩,⟨[.p 2 0],_,[],[0,1,2],[10]⟩,⟨[.p 3 0,.o 0],_,[],Lr 4,[11]⟩,⟨[.p 3 0,.p 4 0],_,[],Lr 5,[12]⟩,⟨[.p 3 0,.p 5 0],_,[],Lr 6,[13]⟩,⟨[.p 3 0,.p 6 0],_,[],Lr 7,[14]⟩]) (F:=[.o 0,.p 7 0]) hst hb Zb
  (Ql rfl Zck u_0<|o_p rfl (Zr Zvk (Zh7 _ h2) rfl rfl (.cons u_0 .nil))<|o_p rfl (Zc6 rfl rfl u_0 c_i)<|Qm rfl u_0<|o_g (Qg_f rfl (fun hG=>Zbc rfl rfl u_0))<|o_g (Qg_f rfl (fun hG=>Zch Tryd.underlying44 rfl rfl (Opd.gd hG u_0)))<|o_g (Qg_f rfl (fun hG=>Zc6 rfl rfl (Opd.gd hG u_0) c_i))<|o_p rfl (Zb3 rfl rfl u_0 (fun hz=>(Opd.gd (bNF hz) u_1)))<|o_n) (fun a g hst hb=>?_)
 refine wp_cond_split (hst.bool 1 rfl) (fun hc3=>?_) (fun hc3=>?_)
 ·replace H0:=Z2 hc3 H0
  refine r_s (L:=[]) (T:=[⟨[],_,[],[],[4]⟩]) (F:=[.p 0 0]) (hst.pick [] rfl) hb Zb
   (Qa rfl c_b<|o_n) (fun a g hst hb=>?_)
  refine wp_ret ?_
  refine Zp ?_
  obtain rfl:=Option.some.inj H0
  exact Zz rfl hst hb (Zi (s:=4)) (hst.at 0 rfl)
 ·replace H0:=Z3 hc3 H0
  refine wp_skip ?_
  refine Zy ?_
  refine wp_seq ?_
  refine r_s (L:=[(1,_)]) (T:=[⟨[.o 0],_,[],[],[15]⟩,⟨[.p 0 0],_,[],[0],[16]⟩,⟨[],_,[],[],[17]⟩]) (F:=[.p 0 0,.p 1 0,.p 2 0]) (hst.pick [0] rfl) hb Zb
   (Qm rfl u_0<|o_p rfl (Zch Tryd.underlying44 rfl rfl u_0)<|Qm rfl c_i<|o_n) (fun a g hst hb=>?_)
  obtain ⟨z11,hz1,H0⟩:=Zg H0
  refine Zdj (fun a w=>∃ (g:G),w=g.w ∧ St 25 [] a g ∧ Base g0 g ∧ (.inr ())=z11) ?_ ?_
  ·rintro a w ⟨g,rfl,hst,hb,rfl⟩
   refine Zy ?_
   refine r_s (T:=[⟨[],_,[],[],[4]⟩]) (F:=[.p 0 0]) hst hb Zb
    (Qa rfl c_b<|o_n) (fun a g hst hb=>?_)
   refine wp_ret ?_
   obtain rfl:=Option.some.inj H0
   exact Zz rfl hst hb (Zi (s:=4)) (hst.at 0 rfl)
  ·refine wp_block ?_
   refine wp_loop_ghost (fun n a w=>∃ (x4:Int) (g:G),w=g.w ∧ St 25 [(15,(Zq.sl.pd a1)),(16,(pInt .i64 (a1.length:Int))),(17,(pInt .i64 x4))] a g ∧ Base g0 g ∧ Zb8 a1 n x4=some z11) (Int.toNat ((a1.length:Int) - (0:Int)) + 1) ⟨(0:Int),g,rfl,(hst.pick [0,1,2] rfl),hb,hz1⟩ (fun n a w hI=>?_)
   obtain ⟨x4,g,rfl,hst,hb,H1⟩:=hI
   cases n with
   | zero=>exact absurd H1 (by simp [Zb8])
   | succ n =>
    rw [Zb8] at H1
    refine r_s (T:=[⟨[.o 2,.o 1],_,[],[],[18]⟩]) (F:=[.o 0,.o 1,.o 2,.p 0 0]) hst hb Zb
     (o_p rfl (Zdp rfl rfl u_0 u_1)<|o_n) (fun a g hst hb=>?_)
    refine wp_seq ?_
    refine wp_cond_split (hst.bool 3 rfl) (fun hc5=>?_) (fun hc5=>?_)
    ·replace H1:=Z2 hc5 H1
     refine wp_skip ?_
     refine Zy ?_
     refine wp_seq ?_
     refine wp_block ?_
     obtain ⟨e6,h7,H1⟩:=Zg H1
     refine r_s (L:=[(15,_),(16,_),(17,_)]) (T:=[⟨[.o 0,.o 2],_,[],[],[19]⟩,⟨[.p 0 0],_,[],[0],[20]⟩,⟨[],[(6,(pBox Zq 6 (default:Zm)))],[7],[],[6]⟩,⟨[.p 1 0,.p 2 0],_,[7],[0,1,2],[6]⟩]) (F:=[.p 3 0,.o 0,.o 1,.o 2]) (hst.pick [0,1,2] rfl) hb Zb
      (o_p rfl (Zbt Tryd.underlying44 Zu7 rfl rfl u_0 u_1 h7)<|Ql rfl Zhj u_0<|o_p rfl (Zby (zs:=[.int .i64 0,.string ByteArray.empty,.int .i64 0,.float .f64 0,.string ByteArray.empty,.int .i64 0,.int .i64 0,.int .i64 0,.int .i64 0,.float .f64 0,.int .i64 0,.string ByteArray.empty,.slice none 0 0,.bool false]) (by kernel_rfl) (fun g=>Zmo g) rfl rfl)<|o_p rfl (Zda Zhj rfl rfl u_1 u_0)<|o_n) (fun a g hst hb=>?_)
     obtain ⟨r8,h9,H1⟩:=Zg H1
     refine r_s (T:=[⟨[.o 0],_,[],[],[21]⟩,⟨[.p 0 0],_,[],[0],[22]⟩,⟨[.p 1 0],_,[],[0,1],[23]⟩]) (F:=[.o 1,.o 2,.o 3,.p 2 0]) hst hb Zb
      (Ql rfl Zhj u_0<|o_p rfl (Zr Zyp (Zkw _ h9) rfl rfl (.cons u_0 .nil))<|o_p rfl (Zc6 rfl rfl u_0 c_i)<|o_n) (fun a g hst hb=>?_)
     refine wp_cond_split (hst.bool 3 rfl) (fun hc10=>?_) (fun hc10=>?_)
     ·replace H1:=Z2 hc10 H1
      refine r_s (L:=[]) (T:=[⟨[],_,[],[],[4]⟩]) (F:=[.p 0 0]) (hst.pick [] rfl) hb Zb
       (Qa rfl c_b<|o_n) (fun a g hst hb=>?_)
      refine wp_ret ?_
      refine Zx ?_
      refine Zp ?_
      refine Zp ?_
      refine Zx ?_
      refine Zp ?_
      refine Zp ?_
      obtain rfl:=Option.some.inj H1
      obtain rfl:=Option.some.inj H0
      exact Zz rfl hst hb (Zi (s:=4)) (hst.at 0 rfl)
     ·replace H1:=Z3 hc10 H1
      refine wp_skip ?_
      refine Zb7 ?_
      refine Zy ?_
      refine r_g (L:=[(15,_),(16,_),(17,_)]) (T:=[⟨[.o 2],_,[],[],[24]⟩,⟨[.p 0 0],_,[],[0],[17]⟩]) (F:=[.o 0,.o 1,.p 1 0]) (hst.pick [0,1,2] rfl) hb Zb
       (o_p rfl (Zcv rfl rfl u_0 c_i rfl)<|Qm rfl u_0<|o_n) (fun a g hst hb=>?_)
      exact ⟨n,Nat.lt_succ_self _,(IntKind.i64.wrap (x4 + (1:Int))),g,rfl,(hst.pick [0,1,2] rfl),hb,H1⟩
    ·replace H1:=Z3 hc5 H1
     refine wp_exit ?_
     refine Zcu ?_
     refine Zcu ?_
     refine Zd5 ?_
     exact ⟨g,rfl,(hst.pick [] rfl),hb,Option.some.inj H1⟩
theorem Zhq (a0:Nat) {r:Bool} (h:Zcq a0=some r):FnOk Tryd.prog 60 [(pFlt a0)] (Z1 r):=by
 have H0:=h
 unfold Zcq at H0
 clear h
 refine Zbv (N:=6) Tryd.func60 rfl rfl (Qe rfl) rfl rfl (fun a g0 hst hb=>?_)
 refine r_s (T:=[⟨[],_,[],[],[2]⟩]) (F:=[.o 0]) hst hb Zb
  (Qa rfl c_b<|o_n) (fun a g hst hb=>?_)
 refine r_s (T:=[⟨[.o 0],_,[],[],[3]⟩,⟨[.o 0],_,[],[],[4]⟩,⟨[.p 0 0,.p 1 0],_,[],[0,1],[5]⟩,⟨[.p 2 0],_,[],[0,1,2],[2]⟩]) (F:=[.p 3 0]) hst hb Zb
  (Qm rfl u_0<|Qm rfl u_0<|o_p rfl (Zq0 rfl rfl u_0 u_1)<|Qa rfl u_0<|o_n) (fun a g hst hb=>?_)
 refine wp_ret ?_
 obtain rfl:=Option.some.inj H0
 exact Zz rfl hst hb (Zi (s:=2)) (hst.at 0 rfl)
theorem Zhk (a0:Nat) {r:Bool} (h:Zdl a0=some r):FnOk Tryd.prog 61 [(pFlt a0)] (Z1 r):=by
 have H0:=h
 unfold Zdl at H0
 clear h
 refine Zbv (N:=10) Tryd.func61 rfl rfl (Qe rfl) rfl rfl (fun a g0 hst hb=>?_)
 refine r_s (T:=[⟨[],_,[],[],[2]⟩]) (F:=[.o 0]) hst hb Zb
  (Qa rfl c_b<|o_n) (fun a g hst hb=>?_)
 refine wp_seq ?_
 refine r_s (T:=[⟨[.o 0],_,[],[],[3]⟩,⟨[.p 0 0],_,[],[0],[4]⟩]) (F:=[.o 0,.p 1 0]) hst hb Zb
  (Qm rfl u_0<|o_p rfl (Znc rfl rfl u_0 c_f)<|o_n) (fun a g hst hb=>?_)
 refine wp_cond_split (hst.bool 1 rfl) (fun hc1=>?_) (fun hc1=>?_)
 ·replace H0:=Z2 hc1 H0
  obtain ⟨f2,h3,H0⟩:=Zg H0
  refine r_s (L:=[(0,_)]) (T:=[⟨[.o 0],_,[],[],[5]⟩,⟨[.p 0 0],_,[],[0],[6]⟩,⟨[.p 1 0],_,[],[0,1],[7]⟩,⟨[.p 2 0],_,[],[0,1,2],[2]⟩]) (F:=[.p 3 0]) (hst.pick [0] rfl) hb Zb
   (Qm rfl u_0<|o_p rfl (Zwy rfl rfl c_f u_0 h3)<|o_p rfl (Zna rfl rfl u_0 c_f)<|Qa rfl u_0<|o_n) (fun a g hst hb=>?_)
  refine wp_ret ?_
  refine Zp ?_
  obtain rfl:=Option.some.inj H0
  exact Zz rfl hst hb (Zi (s:=2)) (hst.at 0 rfl)
 ·replace H0:=Z3 hc1 H0
  refine wp_skip ?_
  refine Zy ?_
  refine r_s (L:=[(0,_)]) (T:=[⟨[.o 0],_,[],[],[8]⟩,⟨[.p 0 0],_,[],[0],[9]⟩,⟨[.p 1 0],_,[],[0,1],[2]⟩]) (F:=[.p 2 0]) (hst.pick [0] rfl) hb Zb
   (Qm rfl u_0<|o_p rfl (Zna rfl rfl u_0 c_f)<|Qa rfl u_0<|o_n) (fun a g hst hb=>?_)
  refine wp_ret ?_
  obtain rfl:=Option.some.inj H0
  exact Zz rfl hst hb (Zi (s:=2)) (hst.at 0 rfl)
theorem Zhr (a0:Nat) (a1:Nat) {r:Bool} (h:Zci a0 a1=some r):FnOk Tryd.prog 47 [(pFlt a0),(pFlt a1)] (Z1 r):=by
 have H0:=h
 unfold Zci at H0
 clear h
 refine Zbv (N:=25) Tryd.func47 rfl rfl (Qe rfl) rfl rfl (fun a g0 hst hb=>?_)
 refine r_s (T:=[⟨[],_,[],[],[4]⟩]) (F:=[.o 0,.o 1]) hst hb Zb
  (Qa rfl c_b<|o_n) (fun a g hst hb=>?_)
 refine wp_seq ?_
 obtain ⟨r1,h2,H0⟩:=Zg H0
 refine r_s (T:=[⟨[.o 0],_,[],[],[5]⟩,⟨[.p 0 0],_,[],[0],[6]⟩]) (F:=[.o 0,.o 1,.p 1 0]) hst hb Zb
  (Qm rfl u_0<|o_p rfl (Zr Zvg (Zhq _ h2) rfl rfl (.cons u_0 .nil))<|o_n) (fun a g hst hb=>?_)
 refine wp_cond_split (hst.bool 2 rfl) (fun hc3=>?_) (fun hc3=>?_)
 ·replace H0:=Z2 hc3 H0
  refine r_s (L:=[]) (T:=[⟨[],_,[],[],[4]⟩]) (F:=[.p 0 0]) (hst.pick [] rfl) hb Zb
   (Qa rfl c_b<|o_n) (fun a g hst hb=>?_)
  refine wp_ret ?_
  refine Zp ?_
  obtain rfl:=Option.some.inj H0
  exact Zz rfl hst hb (Zi (s:=4)) (hst.at 0 rfl)
 ·replace H0:=Z3 hc3 H0
  refine wp_skip ?_
  refine Zy ?_
  refine wp_seq ?_
  obtain ⟨r4,h5,H0⟩:=Zg H0
  refine r_s (L:=[(0,_),(1,_)]) (T:=[⟨[.o 1],_,[],[],[7]⟩,⟨[.p 0 0],_,[],[0],[8]⟩]) (F:=[.o 0,.o 1,.p 1 0]) (hst.pick [0,1] rfl) hb Zb
   (Qm rfl u_0<|o_p rfl (Zr Zvg (Zhq _ h5) rfl rfl (.cons u_0 .nil))<|o_n) (fun a g hst hb=>?_)
  refine wp_cond_split (hst.bool 2 rfl) (fun hc6=>?_) (fun hc6=>?_)
  ·replace H0:=Z2 hc6 H0
   refine r_s (L:=[]) (T:=[⟨[],_,[],[],[4]⟩]) (F:=[.p 0 0]) (hst.pick [] rfl) hb Zb
    (Qa rfl c_b<|o_n) (fun a g hst hb=>?_)
   refine wp_ret ?_
   refine Zp ?_
   obtain rfl:=Option.some.inj H0
   exact Zz rfl hst hb (Zi (s:=4)) (hst.at 0 rfl)
  ·replace H0:=Z3 hc6 H0
   refine wp_skip ?_
   refine Zy ?_
   refine wp_seq ?_
   refine r_s (L:=[(0,_),(1,_)]) (T:=[⟨[.o 0],_,[],[],[9]⟩,⟨[.p 0 0],_,[],[0],[10]⟩,⟨[.p 1 0],_,[],[0,1],[11]⟩,⟨[.p 2 0,.o 1],_,[],[0,1,2],[12]⟩,⟨[.p 2 0,.p 3 0],_,[],Lr 4,[13]⟩,⟨[.p 2 0,.p 4 0],_,[],Lr 5,[14]⟩]) (F:=[.o 0,.o 1,.p 5 0]) (hst.pick [0,1] rfl) hb Zb
    (Qm rfl u_0<|o_p rfl (Znc rfl rfl u_0 c_f)<|Qm rfl u_0<|o_g (Qg_t rfl (fun hG=>Zbc rfl rfl u_0))<|o_g (Qg_t rfl (fun hG=>Znc rfl rfl (Opd.gd hG u_0) c_f))<|o_p rfl (Zbh rfl rfl u_0 (fun hz=>(Opd.gd hz u_1)))<|o_n) (fun a g hst hb=>?_)
   refine wp_cond_split (hst.bool 2 rfl) (fun hc7=>?_) (fun hc7=>?_)
   ·replace H0:=Z2 hc7 H0
    obtain ⟨r8,h9,H0⟩:=Zg H0;obtain ⟨r10,h11,H0⟩:=Zg H0
    refine r_s (L:=[(0,_),(1,_)]) (T:=[⟨[.o 0],_,[],[],[15]⟩,⟨[.p 0 0],_,[],[0],[16]⟩,⟨[.p 1 0],_,[],[0,1],[17]⟩,⟨[.p 2 0,.o 1],_,[],[0,1,2],[18]⟩,⟨[.p 2 0,.p 3 0],_,[],Lr 4,[19]⟩,⟨[.p 2 0,.p 4 0],_,[],Lr 5,[20]⟩,⟨[.p 2 0,.p 5 0],_,[],Lr 6,[21]⟩,⟨[.p 6 0],_,[],Lr 7,[4]⟩]) (F:=[.p 7 0]) (hst.pick [0,1] rfl) hb Zb
     (Qm rfl u_0<|o_p rfl (Zr Zu4 (Zhk _ h9) rfl rfl (.cons u_0 .nil))<|Qm rfl u_0<|o_g (Qg_t rfl (fun hG=>Zbc rfl rfl u_0))<|o_g (Qg_t rfl (fun hG=>Zr Zu4 (Zhk _ (Zbx h11 hG)) rfl rfl (.cons (Opd.gd hG u_0) .nil)))<|o_g (Qg_t rfl (fun hG=>Zhi rfl rfl (Opd.gd hG u_0)))<|o_p rfl (Zbh rfl rfl u_0 (fun hz=>(Opd.gd hz u_1)))<|Qa rfl u_0<|o_n) (fun a g hst hb=>?_)
    refine wp_ret ?_
    refine Zp ?_
    obtain rfl:=Option.some.inj H0
    exact Zz rfl hst hb (Zi (s:=4)) (hst.at 0 rfl)
   ·replace H0:=Z3 hc7 H0
    refine wp_skip ?_
    refine Zy ?_
    refine r_s (L:=[(0,_),(1,_)]) (T:=[⟨[.o 0],_,[],[],[22]⟩,⟨[.o 1],_,[],[],[23]⟩,⟨[.p 0 0,.p 1 0],_,[],[0,1],[24]⟩,⟨[.p 2 0],_,[],[0,1,2],[4]⟩]) (F:=[.p 3 0]) (hst.pick [0,1] rfl) hb Zb
     (Qm rfl u_0<|Qm rfl u_0<|o_p rfl (Zna rfl rfl u_0 u_1)<|Qa rfl u_0<|o_n) (fun a g hst hb=>?_)
    refine wp_ret ?_
    obtain rfl:=Option.some.inj H0
    exact Zz rfl hst hb (Zi (s:=4)) (hst.at 0 rfl)
theorem Zht (a0:Nat) (a1:Nat) {r:Bool} (h:Zb4 a0 a1=some r):FnOk Tryd.prog 19 [(pFlt a0),(pFlt a1)] (Z1 r):=by
 have H0:=h
 unfold Zb4 at H0
 clear h
 refine Zbv (N:=15) Tryd.func19 rfl rfl (Qe rfl) rfl rfl (fun a g0 hst hb=>?_)
 refine r_s (T:=[⟨[],_,[],[],[4]⟩]) (F:=[.o 0,.o 1]) hst hb Zb
  (Qa rfl c_b<|o_n) (fun a g hst hb=>?_)
 obtain ⟨r1,h2,H0⟩:=Zg H0;obtain ⟨r3,h4,H0⟩:=Zg H0
 refine r_s (T:=[⟨[.o 0],_,[],[],[5]⟩,⟨[.o 1],_,[],[],[6]⟩,⟨[.p 0 0,.p 1 0],_,[],[0,1],[7]⟩,⟨[.p 2 0],_,[],[0,1,2],[8]⟩,⟨[.p 3 0],_,[],Lr 4,[9]⟩,⟨[.p 4 0,.o 1],_,[],Lr 5,[10]⟩,⟨[.p 4 0,.o 0],_,[],Lr 5,[11]⟩,⟨[.p 4 0,.p 5 0,.p 6 0],_,[],Lr 7,[12]⟩,⟨[.p 4 0,.p 7 0],_,[],Lr 8,[13]⟩,⟨[.p 4 0,.p 8 0],_,[],Lr 9,[14]⟩,⟨[.p 9 0],_,[],Lr 10,[4]⟩]) (F:=[.p 10 0]) hst hb Zb
  (Qm rfl u_0<|Qm rfl u_0<|o_p rfl (Zr Zu9 (Zhr _ _ h2) rfl rfl (.cons u_0 (.cons u_1 .nil)))<|Qn rfl u_0<|Qm rfl u_0<|o_g (Qg_t rfl (fun hG=>Zbc rfl rfl u_0))<|o_g (Qg_t rfl (fun hG=>Zbc rfl rfl u_0))<|o_g (Qg_t rfl (fun hG=>Zr Zu9 (Zhr _ _ (Zbx h4 hG)) rfl rfl (.cons (Opd.gd hG u_0) (.cons (Opd.gd hG u_1) .nil))))<|o_g (Qg_t rfl (fun hG=>Zhi rfl rfl (Opd.gd hG u_0)))<|o_p rfl (Zbh rfl rfl u_0 (fun hz=>(Opd.gd hz u_1)))<|Qa rfl u_0<|o_n) (fun a g hst hb=>?_)
 refine wp_ret ?_
 obtain rfl:=Option.some.inj H0
 exact Zz rfl hst hb (Zi (s:=4)) (hst.at 0 rfl)
theorem Zhs (a0:Za) (a1:Za) {r:Bool} (h:Zc8 a0 a1=some r):FnOk Tryd.prog 8 [(Zf.pd a0),(Zf.pd a1)] (Z1 r):=by
 have H0:=h
 unfold Zc8 at H0
 clear h
 refine Zbv (N:=97) Tryd.func8 rfl rfl (Qe rfl) rfl rfl (fun a g0 hst hb=>?_)
 refine r_s (T:=[⟨[.o 0],_,[],[],[2]⟩,⟨[.o 1],_,[],[],[3]⟩,⟨[],_,[],[],[4]⟩]) (F:=[.p 0 0,.p 1 0]) hst hb Zb
  (Qb rfl u_0<|Qb rfl u_0<|Qa rfl c_b<|o_n) (fun a g hst hb=>?_)
 refine wp_seq ?_
 refine r_s (T:=⟨[.o 0],_,[],[],[6]⟩ :: ⟨[.p 0 0],_,[],[0],[7]⟩ :: ⟨[.o 1],_,[],[],[8]⟩ :: ⟨[.p 2 0],_,[],[2],[9]⟩ :: ⟨[.p 1 0,.p 3 0],_,[],Lr 4,[10]⟩ :: ⟨[.p 4 0],_,[],Lr 5,[11]⟩ :: ⟨[.p 5 0,.o 0],_,[],Lr 6,[12]⟩ :: ⟨[.p 5 0,.p 6 0],_,[],Lr 7,[13]⟩ :: ⟨[.p 5 0,.o 1],_,[],Lr 6,[14]⟩ :: ⟨[.p 5 0,.p 8 0],_,[],[0,1,2,3,4,5,8],[15]⟩ :: ⟨[.p 5 0,.p 7 0,.p 9 0],_,[],Lr 10,[16]⟩ :: ⟨[.p 5 0,.p 10 0],_,[],Lr 11,[17]⟩ :: ⟨[.p 11 0],_,[],Lr 12,[18]⟩ :: ⟨[.p 12 0,.o 0],_,[],Lr 13,[19]⟩ :: ⟨[.p 12 0,.p 13 0],_,[],Lr 14,[20]⟩ :: ⟨[.p 12 0,.o 1],_,[],Lr 13,[21]⟩ :: ⟨[.p 12 0,.p 15 0],_,[],0 :: 1 :: 2 :: 3 :: 4 :: 5 :: 6 :: 7 :: 8 :: 9 :: 10 :: 11 :: 12 :: 15 :: [],[22]⟩ :: ⟨[.p 12 0,.p 14 0,.p 16 0],_,[],Lr 17,[23]⟩ :: ⟨[.p 12 0,.p 17 0],_,[],Lr 18,[24]⟩ :: ⟨[.p 18 0],_,[],Lr 19,[25]⟩ :: ⟨[.p 19 0,.o 0],_,[],Lr 20,[26]⟩ :: ⟨[.p 19 0,.p 20 0],_,[],Lr 21,[27]⟩ :: ⟨[.p 19 0,.o 1],_,[],Lr 20,[28]⟩ :: ⟨[.p 19 0,.p 22 0],_,[],0 :: 1 :: 2 :: 3 :: 4 :: 5 :: 6 :: 7 :: 8 :: 9 :: 10 :: 11 :: 12 :: 13 :: 14 :: 15 :: 16 :: 17 :: 18 :: 19 :: 22 :: [],[29]⟩ :: ⟨[.p 19 0,.p 21 0,.p 23 0],_,[],Lr 24,[30]⟩ :: ⟨[.p 19 0,.p 24 0],_,[],Lr 25,[31]⟩ :: ⟨[.p 25 0],_,[],Lr 26,[32]⟩ :: ⟨[.p 26 0,.o 0],_,[],Lr 27,[33]⟩ :: ⟨[.p 26 0,.p 27 0],_,[],Lr 28,[34]⟩ :: ⟨[.p 26 0,.o 1],_,[],Lr 27,[35]⟩ :: ⟨[.p 26 0,.p 29 0],_,[],0 :: 1 :: 2 :: 3 :: 4 :: 5 :: 6 :: 7 :: 8 :: 9 :: 10 :: 11 :: 12 :: 13 :: 14 :: 15 :: 16 :: 17 :: 18 :: 19 :: 20 :: 21 :: 22 :: 23 :: 24 :: 25 :: 26 :: 29 :: [],[36]⟩ :: ⟨[.p 26 0,.p 28 0,.p 30 0],_,[],Lr 31,[37]⟩ :: ⟨[.p 26 0,.p 31 0],_,[],Lr 32,[38]⟩ :: ⟨[.p 32 0],_,[],Lr 33,[39]⟩ :: ⟨[.p 33 0,.o 0],_,[],Lr 34,[40]⟩ :: ⟨[.p 33 0,.p 34 0],_,[],Lr 35,[41]⟩ :: ⟨[.p 33 0,.o 1],_,[],Lr 34,[42]⟩ :: ⟨[.p 33 0,.p 36 0],_,[],0 :: 1 :: 2 :: 3 :: 4 :: 5 :: 6 :: 7 :: 8 :: 9 :: 10 :: 11 :: 12 :: 13 :: 14 :: 15 :: 16 :: 17 :: 18 :: 19 :: 20 :: 21 :: 22 :: 23 :: 24 :: 25 :: 26 :: 27 :: 28 :: 29 :: 30 :: 31 :: 32 :: 33 :: 36 :: [],[43]⟩ :: ⟨[.p 33 0,.p 35 0,.p 37 0],_,[],Lr 38,[44]⟩ :: ⟨[.p 33 0,.p 38 0],_,[],Lr 39,[45]⟩ :: []) (F:=[.o 0,.o 1,.p 39 0]) hst hb Zb
  (Qf rfl Zha u_0<|Ql rfl ty_3 u_0<|Qf rfl Zha u_0<|Ql rfl ty_3 u_0<|o_p rfl (Zf7 rfl rfl u_0 u_1)<|Qm rfl u_0<|o_g (Qg_f rfl (fun hG=>Zh Zgp rfl rfl u_0))<|o_g (Qg_f rfl (fun hG=>Zo ty_2 rfl rfl (Opd.gd hG u_0)))<|o_g (Qg_f rfl (fun hG=>Zh Zgp rfl rfl u_0))<|o_g (Qg_f rfl (fun hG=>Zo ty_2 rfl rfl (Opd.gd hG u_0)))<|o_g (Qg_f rfl (fun hG=>Zf7 rfl rfl (Opd.gd hG u_0) (Opd.gd hG u_1)))<|o_p rfl (Zb3 rfl rfl u_0 (fun hz=>(Opd.gd (bNF hz) u_1)))<|Qm rfl u_0<|o_g (Qg_f rfl (fun hG=>Zh Zh1 rfl rfl u_0))<|o_g (Qg_f rfl (fun hG=>Zo ty_2 rfl rfl (Opd.gd hG u_0)))<|o_g (Qg_f rfl (fun hG=>Zh Zh1 rfl rfl u_0))<|o_g (Qg_f rfl (fun hG=>Zo ty_2 rfl rfl (Opd.gd hG u_0)))<|o_g (Qg_f rfl (fun hG=>Zf7 rfl rfl (Opd.gd hG u_0) (Opd.gd hG u_1)))<|o_p rfl (Zb3 rfl rfl u_0 (fun hz=>(Opd.gd (bNF hz) u_1)))<|Qm rfl u_0<|o_g (Qg_f rfl (fun hG=>Zh Zhz rfl rfl u_0))<|o_g (Qg_f rfl (fun hG=>Zo ty_2 rfl rfl (Opd.gd hG u_0)))<|o_g (Qg_f rfl (fun hG=>Zh Zhz rfl rfl u_0))<|o_g (Qg_f rfl (fun hG=>Zo ty_2 rfl rfl (Opd.gd hG u_0)))<|o_g (Qg_f rfl (fun hG=>Zf7 rfl rfl (Opd.gd hG u_0) (Opd.gd hG u_1)))<|o_p rfl (Zb3 rfl rfl u_0 (fun hz=>(Opd.gd (bNF hz) u_1)))<|Qm rfl u_0<|o_g (Qg_f rfl (fun hG=>Zh Zhc rfl rfl u_0))<|o_g (Qg_f rfl (fun hG=>Zo ty_3 rfl rfl (Opd.gd hG u_0)))<|o_g (Qg_f rfl (fun hG=>Zh Zhc rfl rfl u_0))<|o_g (Qg_f rfl (fun hG=>Zo ty_3 rfl rfl (Opd.gd hG u_0)))<|o_g (Qg_f rfl (fun hG=>Zf7 rfl rfl (Opd.gd hG u_0) (Opd.gd hG u_1)))<|o_p rfl (Zb3 rfl rfl u_0 (fun hz=>(Opd.gd (bNF hz) u_1)))<|Qm rfl u_0<|o_g (Qg_f rfl (fun hG=>Zh Zh0 rfl rfl u_0))<|o_g (Qg_f rfl (fun hG=>Zo ty_9 rfl rfl (Opd.gd hG u_0)))<|o_g (Qg_f rfl (fun hG=>Zh Zh0 rfl rfl u_0))<|o_g (Qg_f rfl (fun hG=>Zo ty_9 rfl rfl (Opd.gd hG u_0)))<|o_g (Qg_f rfl (fun hG=>Zr5 rfl rfl (Opd.gd hG u_0) (Opd.gd hG u_1)))<|o_p rfl (Zb3 rfl rfl u_0 (fun hz=>(Opd.gd (bNF hz) u_1)))<|o_n) (fun a g hst hb=>?_)
 refine wp_cond_split (hst.bool 2 rfl) (fun hc1=>?_) (fun hc1=>?_)
 ·replace H0:=Z2 hc1 H0
  refine r_s (L:=[]) (T:=[⟨[],_,[],[],[4]⟩]) (F:=[.p 0 0]) (hst.pick [] rfl) hb Zb
   (Qa rfl c_b<|o_n) (fun a g hst hb=>?_)
  refine wp_ret ?_
  refine Zp ?_
  obtain rfl:=Option.some.inj H0
  exact Zz rfl hst hb (Zi (s:=4)) (hst.at 0 rfl)
 ·replace H0:=Z3 hc1 H0
  refine wp_skip ?_
  refine Zy ?_
  refine wp_seq ?_
  obtain ⟨r2,h3,H0⟩:=Zg H0
  refine r_s (L:=[(2,_),(3,_)]) (T:=⟨[.o 0],_,[],[],[46]⟩ :: ⟨[.p 0 0],_,[],[0],[47]⟩ :: ⟨[.o 1],_,[],[],[48]⟩ :: ⟨[.p 2 0],_,[],[2],[49]⟩ :: ⟨[.p 1 0,.p 3 0],_,[],Lr 4,[50]⟩ :: ⟨[.p 4 0],_,[],Lr 5,[51]⟩ :: ⟨[.p 5 0],_,[],Lr 6,[52]⟩ :: ⟨[.p 6 0,.o 0],_,[],Lr 7,[53]⟩ :: ⟨[.p 6 0,.p 7 0],_,[],Lr 8,[54]⟩ :: ⟨[.p 6 0,.p 8 0],_,[],Lr 9,[55]⟩ :: ⟨[.p 6 0,.o 1],_,[],Lr 7,[56]⟩ :: ⟨[.p 6 0,.p 10 0],_,[],[0,1,2,3,4,5,6,10],[57]⟩ :: ⟨[.p 6 0,.p 11 0],_,[],[0,1,2,3,4,5,6,10,11],[58]⟩ :: ⟨[.p 6 0,.p 9 0,.p 12 0],_,[],Lr 13,[59]⟩ :: ⟨[.p 6 0,.p 13 0],_,[],Lr 14,[60]⟩ :: []) (F:=[.o 0,.o 1,.p 14 0]) (hst.pick [0,1] rfl) hb Zb
   (Qf rfl Zin u_0<|Ql rfl Zdo u_0<|Qf rfl Zin u_0<|Ql rfl Zdo u_0<|o_p rfl (Zr Zvf (Zht _ _ h3) rfl rfl (.cons u_0 (.cons u_1 .nil)))<|Qn rfl u_0<|Qm rfl u_0<|o_g (Qg_f rfl (fun hG=>Zh Zdm rfl rfl u_0))<|o_g (Qg_f rfl (fun hG=>Zo Zfx rfl rfl (Opd.gd hG u_0)))<|o_g (Qg_f rfl (fun hG=>Zch Tryd.underlying23 rfl rfl (Opd.gd hG u_0)))<|o_g (Qg_f rfl (fun hG=>Zh Zdm rfl rfl u_0))<|o_g (Qg_f rfl (fun hG=>Zo Zfx rfl rfl (Opd.gd hG u_0)))<|o_g (Qg_f rfl (fun hG=>Zch Tryd.underlying23 rfl rfl (Opd.gd hG u_0)))<|o_g (Qg_f rfl (fun hG=>Zf7 rfl rfl (Opd.gd hG u_0) (Opd.gd hG u_1)))<|o_p rfl (Zb3 rfl rfl u_0 (fun hz=>(Opd.gd (bNF hz) u_1)))<|o_n) (fun a g hst hb=>?_)
  refine wp_cond_split (hst.bool 2 rfl) (fun hc4=>?_) (fun hc4=>?_)
  ·replace H0:=Z2 hc4 H0
   refine r_s (L:=[]) (T:=[⟨[],_,[],[],[4]⟩]) (F:=[.p 0 0]) (hst.pick [] rfl) hb Zb
    (Qa rfl c_b<|o_n) (fun a g hst hb=>?_)
   refine wp_ret ?_
   refine Zp ?_
   obtain rfl:=Option.some.inj H0
   exact Zz rfl hst hb (Zi (s:=4)) (hst.at 0 rfl)
  ·replace H0:=Z3 hc4 H0
   refine wp_skip ?_
   refine Zy ?_
   refine wp_seq ?_
   refine r_s (L:=[(2,_),(3,_)]) (T:=[⟨[],_,[],[],[5]⟩]) (F:=[.o 0,.o 1,.p 0 0]) (hst.pick [0,1] rfl) hb Zb
    (Qa rfl c_i<|o_n) (fun a g hst hb=>?_)
   obtain ⟨z18,hz1,H0⟩:=Zg H0
   refine Zdj (fun a w=>∃ (g:G),w=g.w ∧ St 97 [] a g ∧ Base g0 g ∧ (.inr ())=z18) ?_ ?_
   ·rintro a w ⟨g,rfl,hst,hb,rfl⟩
    refine Zy ?_
    refine r_s (T:=[⟨[],_,[],[],[4]⟩]) (F:=[.p 0 0]) hst hb Zb
     (Qa rfl c_b<|o_n) (fun a g hst hb=>?_)
    refine wp_ret ?_
    obtain rfl:=Option.some.inj H0
    exact Zz rfl hst hb (Zi (s:=4)) (hst.at 0 rfl)
   ·refine wp_block ?_
    refine wp_loop_ghost (fun n a w=>∃ (x5:Int) (g:G),w=g.w ∧ St 97 [(2,(Zf.ptr a0)),(3,(Zf.ptr a1)),(5,(pInt .i64 x5))] a g ∧ Base g0 g ∧ Zca a0 a1 n x5=some z18) (Int.toNat ((a0.List.length:Int) - (0:Int)) + 1) ⟨(0:Int),g,rfl,(hst.pick [0,1,2] rfl),hb,hz1⟩ (fun n a w hI=>?_)
    obtain ⟨x5,g,rfl,hst,hb,H1⟩:=hI
    cases n with
    | zero=>exact absurd H1 (by simp [Zca])
    | succ n =>
     rw [Zca] at H1
     refine wp_seq ?_
     refine r_s (T:=[⟨[.o 2],_,[],[],[61]⟩,⟨[.o 0],_,[],[],[62]⟩,⟨[.p 1 0],_,[],[1],[63]⟩,⟨[.p 2 0],_,[],[1,2],[64]⟩,⟨[.p 0 0,.p 3 0],_,[],Lr 4,[65]⟩]) (F:=[.o 0,.o 1,.o 2,.p 4 0]) hst hb Zb
      (Qm rfl u_0<|Qf rfl Zdm u_0<|Ql rfl Zfx u_0<|o_p rfl (Zch Tryd.underlying23 rfl rfl u_0)<|o_p rfl (Zdp rfl rfl u_0 u_1)<|o_n) (fun a g hst hb=>?_)
     refine wp_cond_split (hst.bool 3 rfl) (fun hc6=>?_) (fun hc6=>?_)
     ·replace H1:=Z2 hc6 H1
      refine wp_skip ?_
      refine Zy ?_
      refine wp_seq ?_
      refine wp_block ?_
      obtain ⟨e7,h8,H1⟩:=Zg H1;obtain ⟨e9,h10,H1⟩:=Zg H1;obtain ⟨e11,h12,H1⟩:=Zg H1;obtain ⟨e13,h14,H1⟩:=Zg H1;obtain ⟨r15,h16,H1⟩:=Zg H1
      refine r_s (L:=[(2,_),(3,_),(5,_)]) (T:=⟨[.o 0],_,[],[],[68]⟩ :: ⟨[.p 0 0],_,[],[0],[69]⟩ :: ⟨[.o 2],_,[],[],[70]⟩ :: ⟨[.p 1 0,.p 2 0],_,[],[0,1,2],[71]⟩ :: ⟨[.p 3 0],_,[],Lr 4,[72]⟩ :: ⟨[.p 4 0],_,[],Lr 5,[73]⟩ :: ⟨[.o 1],_,[],[],[74]⟩ :: ⟨[.p 6 0],_,[],[6],[75]⟩ :: ⟨[.o 2],_,[],[],[76]⟩ :: ⟨[.p 7 0,.p 8 0],_,[],[6,7,8],[77]⟩ :: ⟨[.p 9 0],_,[],List.range' 6 4,[78]⟩ :: ⟨[.p 10 0],_,[],List.range' 6 5,[79]⟩ :: ⟨[.p 5 0,.p 11 0],_,[],Lr 12,[80]⟩ :: ⟨[.p 12 0],_,[],Lr 13,[81]⟩ :: ⟨[.p 13 0,.o 0],_,[],Lr 14,[82]⟩ :: ⟨[.p 13 0,.p 14 0],_,[],Lr 15,[83]⟩ :: ⟨[.p 13 0,.o 2],_,[],Lr 14,[84]⟩ :: ⟨[.p 13 0,.p 15 0,.p 16 0],_,[],Lr 17,[85]⟩ :: ⟨[.p 13 0,.p 17 0],_,[],Lr 18,[86]⟩ :: ⟨[.p 13 0,.p 18 0],_,[],Lr 19,[87]⟩ :: ⟨[.p 13 0,.o 1],_,[],Lr 14,[88]⟩ :: ⟨[.p 13 0,.p 20 0],_,[],0 :: 1 :: 2 :: 3 :: 4 :: 5 :: 6 :: 7 :: 8 :: 9 :: 10 :: 11 :: 12 :: 13 :: 20 :: [],[89]⟩ :: ⟨[.p 13 0,.o 2],_,[],Lr 14,[90]⟩ :: ⟨[.p 13 0,.p 21 0,.p 22 0],_,[],0 :: 1 :: 2 :: 3 :: 4 :: 5 :: 6 :: 7 :: 8 :: 9 :: 10 :: 11 :: 12 :: 13 :: 20 :: 21 :: 22 :: [],[91]⟩ :: ⟨[.p 13 0,.p 23 0],_,[],0 :: 1 :: 2 :: 3 :: 4 :: 5 :: 6 :: 7 :: 8 :: 9 :: 10 :: 11 :: 12 :: 13 :: 20 :: 21 :: 22 :: 23 :: [],[92]⟩ :: ⟨[.p 13 0,.p 24 0],_,[],0 :: 1 :: 2 :: 3 :: 4 :: 5 :: 6 :: 7 :: 8 :: 9 :: 10 :: 11 :: 12 :: 13 :: 20 :: 21 :: 22 :: 23 :: 24 :: [],[93]⟩ :: ⟨[.p 13 0,.p 19 0,.p 25 0],_,[],Lr 26,[94]⟩ :: ⟨[.p 13 0,.p 26 0],_,[],Lr 27,[95]⟩ :: ⟨[.p 13 0,.p 27 0],_,[],Lr 28,[96]⟩ :: []) (F:=[.o 0,.o 1,.o 2,.p 28 0]) (hst.pick [0,1,2] rfl) hb Zb
       (Qf rfl Zdm u_0<|Ql rfl Zfx u_0<|Qm rfl u_0<|o_p rfl (Zbt Tryd.underlying23 Zel rfl rfl u_0 u_1 h8)<|Qf rfl Ze0 u_0<|Ql rfl ty_9 u_0<|Qf rfl Zdm u_0<|Ql rfl Zfx u_0<|Qm rfl u_0<|o_p rfl (Zbt Tryd.underlying23 Zel rfl rfl u_0 u_1 h10)<|Qf rfl Ze0 u_0<|Ql rfl ty_9 u_0<|o_p rfl (Zr5 rfl rfl u_0 u_1)<|Qm rfl u_0<|o_g (Qg_f rfl (fun hG=>Zh Zdm rfl rfl u_0))<|o_g (Qg_f rfl (fun hG=>Zo Zfx rfl rfl (Opd.gd hG u_0)))<|o_g (Qg_f rfl (fun hG=>Zbc rfl rfl u_0))<|o_g (Qg_f rfl (fun hG=>Zbt Tryd.underlying23 Zel rfl rfl (Opd.gd hG u_0) (Opd.gd hG u_1) (Zbx h12 hG)))<|o_g (Qg_f rfl (fun hG=>Zh Zf5 rfl rfl (Opd.gd hG u_0)))<|o_g (Qg_f rfl (fun hG=>Zo Zdo rfl rfl (Opd.gd hG u_0)))<|o_g (Qg_f rfl (fun hG=>Zh Zdm rfl rfl u_0))<|o_g (Qg_f rfl (fun hG=>Zo Zfx rfl rfl (Opd.gd hG u_0)))<|o_g (Qg_f rfl (fun hG=>Zbc rfl rfl u_0))<|o_g (Qg_f rfl (fun hG=>Zbt Tryd.underlying23 Zel rfl rfl (Opd.gd hG u_0) (Opd.gd hG u_1) (Zbx h14 hG)))<|o_g (Qg_f rfl (fun hG=>Zh Zf5 rfl rfl (Opd.gd hG u_0)))<|o_g (Qg_f rfl (fun hG=>Zo Zdo rfl rfl (Opd.gd hG u_0)))<|o_g (Qg_f rfl (fun hG=>Zr Zvf (Zht _ _ (Zbx h16 hG)) rfl rfl (.cons (Opd.gd hG u_0) (.cons (Opd.gd hG u_1) .nil))))<|o_g (Qg_f rfl (fun hG=>Zhi rfl rfl (Opd.gd hG u_0)))<|o_p rfl (Zb3 rfl rfl u_0 (fun hz=>(Opd.gd (bNF hz) u_1)))<|o_n) (fun a g hst hb=>?_)
      refine wp_cond_split (hst.bool 3 rfl) (fun hc17=>?_) (fun hc17=>?_)
      ·replace H1:=Z2 hc17 H1
       refine r_s (L:=[]) (T:=[⟨[],_,[],[],[4]⟩]) (F:=[.p 0 0]) (hst.pick [] rfl) hb Zb
        (Qa rfl c_b<|o_n) (fun a g hst hb=>?_)
       refine wp_ret ?_
       refine Zx ?_
       refine Zp ?_
       refine Zp ?_
       refine Zx ?_
       refine Zp ?_
       refine Zp ?_
       obtain rfl:=Option.some.inj H1
       obtain rfl:=Option.some.inj H0
       exact Zz rfl hst hb (Zi (s:=4)) (hst.at 0 rfl)
      ·replace H1:=Z3 hc17 H1
       refine wp_skip ?_
       refine Zb7 ?_
       refine Zy ?_
       refine r_g (L:=[(2,_),(3,_),(5,_)]) (T:=[⟨[.o 2],_,[],[],[66]⟩,⟨[.p 0 0],_,[],[0],[67]⟩,⟨[.p 1 0],_,[],[0,1],[5]⟩]) (F:=[.o 0,.o 1,.p 2 0]) (hst.pick [0,1,2] rfl) hb Zb
        (Qm rfl u_0<|o_p rfl (Zcv rfl rfl u_0 c_i rfl)<|Qa rfl u_0<|o_n) (fun a g hst hb=>?_)
       exact ⟨n,Nat.lt_succ_self _,(IntKind.i64.wrap (x5 + (1:Int))),g,rfl,(hst.pick [0,1,2] rfl),hb,H1⟩
     ·replace H1:=Z3 hc6 H1
      refine wp_exit ?_
      refine Zcu ?_
      refine Zcu ?_
      refine Zd5 ?_
      exact ⟨g,rfl,(hst.pick [] rfl),hb,Option.some.inj H1⟩
theorem Zpx:Zj.RS:=Zkq (Qc.2 ⟨(fun _ _ _ h=>h),(Qc.2 ⟨(fun _ _ _ h=>h),(fun _ h=>by cases h)⟩)⟩)
theorem Zkc:Zf.RS:=Zkq (Qc.2 ⟨(fun _ _ _ h=>h),(Qc.2 ⟨(fun _ _ _ h=>h),(Qc.2 ⟨(fun _ _ _ h=>h),(Qc.2 ⟨(fun _ _ _ h=>h),(Qc.2 ⟨(fun _ _ _ h=>h),(Qc.2 ⟨(fun _ _ _ h=>h),(Qc.2 ⟨(fun _ _ _ h=>h),(Qc.2 ⟨(Zyb Zpx),(fun _ h=>by cases h)⟩)⟩)⟩)⟩)⟩)⟩)⟩)⟩)
theorem Zrr:Zq.RS:=Zkq (Qc.2 ⟨(fun _ _ _ h=>h),(Qc.2 ⟨(fun _ _ _ h=>h),(Qc.2 ⟨(fun _ _ _ h=>h),(Qc.2 ⟨(fun _ _ _ h=>h),(Qc.2 ⟨(fun _ _ _ h=>h),(Qc.2 ⟨Zkc,(Qc.2 ⟨(fun _ _ _ h=>h),(fun _ h=>by cases h)⟩)⟩)⟩)⟩)⟩)⟩)⟩)
theorem Znw {l:List Zc} (h:Ziv l=true):∀ x ∈ l,∀ (g:G) cs,Zj.K g x cs → ∃ s,cs[1]?=some (.string s) ∧ s.size ≤ 1099511627776:=fun x hx g cs hk=>by
 have h1:=List.all_eq_true.1 (Bool.and_eq_true_iff.1 h).2 x hx
 have h2:seg cs 1 1=[.string x.Name]:=hk.2 _ (List.mem_of_getElem? (i:=1) rfl)
 have h3:(seg cs 1 1)[0]?=some (.string x.Name):=by rw [h2];rfl
 exact ⟨x.Name,by simpa [seg,List.getElem?_take,List.getElem?_drop] using h3,of_decide_eq_true h1⟩
theorem Zwp {x:Za} (h:Ziv x.List=true):∀ (g:G) cs,Ze.K g x cs → (Kd.cells 8).K g () cs ∧ ∃ u,cs[7]?=some u ∧ StrL 37 1099511627776 x.List.length g u:=fun g cs hk=>⟨⟨Ze.len hk,Ze.one hk⟩,Zqs rfl (Znw h) (hk.2 _ (List.mem_of_getElem? (i:=7) rfl))⟩
theorem Zv7 {x:Zd} (h:Ziv x.Rec.List=true):∀ (g:G) cs,Zn.K g x cs → (Kd.cells 10).K g () cs ∧ ∃ u,cs[9]?=some u ∧ StrL 37 1099511627776 x.Rec.List.length g u:=fun g cs hk=>⟨⟨Zn.len hk,Zn.one hk⟩,Zqs (m:=9) rfl (Znw h) (by
 have h1:Ze.K g x.Rec (seg cs 2 8):=hk.2 _ (List.mem_of_getElem? (i:=2) rfl)
 have h2:(Zj.slS 37).K g x.Rec.List (seg (seg cs 2 8) 7 1):=h1.2 _ (List.mem_of_getElem? (i:=7) rfl)
 have h3:seg (seg cs 2 8) 7 1=seg cs 9 1:=by simp [seg,List.drop_take,List.take_take,List.drop_drop]
 rw [← h3];exact h2)⟩
theorem Zj9:PF2 Tryd.prog 25 7 7:=by
 unfold PF2
 kernel_rfl
theorem Zpe:PF2 Tryd.prog 33 2 2:=by
 unfold PF2
 kernel_rfl
theorem Zjq:PF2 Tryd.prog 37 1 1:=by
 unfold PF2
 kernel_rfl
theorem Zmm:Zhy Tryd.prog 23:=by
 unfold Zhy
 kernel_rfl
theorem Zu0:Zhy Tryd.prog 9:=by
 unfold Zhy
 kernel_rfl
theorem Zw6:Ty Tryd.prog 25 (Kd.cells 8):=⟨by kernel_rfl,by kernel_rfl⟩
theorem Zxh:Ty Tryd.prog 33 (Kd.cells 10):=⟨by kernel_rfl,by kernel_rfl⟩
theorem Zjf (a0:Za) (a1:Zm) {r:Bool} (h:Zes a0 a1=some r):FnOk Tryd.prog 3 [(Zf.pd a0),(Zq.pd a1)] (Z1 r):=by
 have H0:=h
 unfold Zes at H0
 clear h
 refine Zbv (N:=73) Tryd.func3 rfl rfl (Qe rfl) rfl rfl (fun a g0 hst hb=>?_)
 replace hst:St 73 [(0,(Zf.pd a0)),(1,(Zq.pd a1))] a g0:=hst
 refine r_s (T:=[⟨[.o 0],_,[],[],[2]⟩,⟨[.o 1],_,[],[],[3]⟩,⟨[],_,[],[],[4]⟩]) (F:=[.p 0 0,.p 1 0]) hst hb Zb
  (Qb rfl u_0<|Qb rfl u_0<|Qa rfl c_b<|o_n) (fun a g hst hb=>?_)
 refine wp_seq ?_
 obtain ⟨r1,h2,H0⟩:=Zg H0
 refine r_s (T:=[⟨[],_,[],[],[12]⟩,⟨[.p 0 0],_,[],[0],[13]⟩]) (F:=[.o 0,.o 1,.p 1 0]) hst hb Zb
  (o_p rfl (Zr en_4 (Zji h2) rfl rfl .nil)<|Qn rfl u_0<|o_n) (fun a g hst hb=>?_)
 refine wp_cond_split (hst.bool 2 rfl) (fun hc0=>?_) (fun hc0=>?_)
 ·replace H0:=Z2 hc0 H0
  refine r_s (L:=[]) (T:=[⟨[],_,[],[],[4]⟩]) (F:=[.p 0 0]) (hst.pick [] rfl) hb Zb
   (Qa rfl c_b<|o_n) (fun a g hst hb=>?_)
  refine wp_ret ?_
  refine Zp ?_
  obtain rfl:=Option.some.inj H0
  exact Zz rfl hst hb (Zi (s:=4)) (hst.at 0 rfl)
 replace H0:=Z3 hc0 H0
 refine wp_skip ?_
 refine Zy ?_
 refine wp_seq ?_
 obtain ⟨r3,h4,H0⟩:=Zg H0
 refine r_s (L:=[(2,_),(3,_)]) (T:=[⟨[.o 0],_,[],[],[14]⟩,⟨[.o 1],_,[],[],[15]⟩,⟨[.p 1 0],_,[],[1],[16]⟩,⟨[.p 0 0,.p 2 0],_,[],[0,1,2],[17]⟩]) (F:=[.o 0,.o 1,.p 3 0]) (hst.pick [0,1] rfl) hb Zb
  (Ql rfl Zck u_0<|Ql rfl Zhj u_0<|o_p rfl (Zky Zvh (xs:=[.tmp 15]) (.cons u_0 .nil) (by decide) rfl rfl)<|o_p rfl (Zr en_5 (Zkx _ _ h4) rfl rfl (.cons u_0 (.cons u_1 .nil)))<|o_n) (fun a g hst hb=>?_)
 refine wp_cond_split (hst.bool 2 rfl) (fun hc1=>?_) (fun hc1=>?_)
 ·replace H0:=Z2 hc1 H0
  refine r_s (L:=[]) (T:=[⟨[],_,[],[],[4]⟩]) (F:=[.p 0 0]) (hst.pick [] rfl) hb Zb
   (Qa rfl c_b<|o_n) (fun a g hst hb=>?_)
  refine wp_ret ?_
  refine Zp ?_
  obtain rfl:=Option.some.inj H0
  exact Zz rfl hst hb (Zi (s:=4)) (hst.at 0 rfl)
 replace H0:=Z3 hc1 H0
 refine wp_skip ?_
 refine Zy ?_
 obtain ⟨r5,h6,H0⟩:=Zg H0
 obtain ⟨r7,h8,H0⟩:=Zg H0
 refine r_s (L:=[(2,_),(3,_)]) (T:=[⟨[.o 0],_,[],[],[18]⟩,⟨[.p 0 0],_,[],[0],[19]⟩,⟨[.o 1],_,[],[],[20]⟩,⟨[.p 2 0],_,[],[2],[21]⟩,⟨[.p 3 0],_,[],Lr 4,[22]⟩,⟨[],[(5,(pBox Zf 5 (default:Za)))],[6],[],[5]⟩,⟨[],[(6,(pBox Zf 6 (default:Za)))],[7],[],[6]⟩,⟨[.p 1 0,.p 5 0],_,[6],Lr 7,[5]⟩,⟨[.p 4 0,.p 6 0],_,[7],Lr 8,[6]⟩]) (F:=[.o 0,.o 1,.p 7 0,.p 8 0]) (hst.pick [0,1] rfl) hb Zb
  (Ql rfl Zck u_0<|o_p rfl (Zr en_6 (Zis _ h6) rfl rfl (.cons u_0 .nil))<|Qf rfl Zio u_0<|Ql rfl Zck u_0<|o_p rfl (Zr en_6 (Zis _ h8) rfl rfl (.cons u_0 .nil))<|o_p rfl (Zby (zs:=[.int .i64 0,.int .i64 0,.int .i64 0,.int .i64 0,.float .f64 0,.int .i64 0,.string ByteArray.empty,.slice none 0 0]) (by kernel_rfl) (fun g=>Zc5 g) rfl rfl)<|o_p rfl (Zby (zs:=[.int .i64 0,.int .i64 0,.int .i64 0,.int .i64 0,.float .f64 0,.int .i64 0,.string ByteArray.empty,.slice none 0 0]) (by kernel_rfl) (fun g=>Zc5 g) rfl rfl)<|o_p rfl (Zda Zck rfl rfl u_1 u_0)<|o_p rfl (Zda Zck rfl rfl u_1 u_0)<|o_n) (fun a g hst hb=>?_)
 obtain ⟨x,hx,H0⟩:=Zg H0
 obtain ⟨hn,H0⟩:=Zgx H0
 obtain ⟨hn1,hn2⟩:=Bool.and_eq_true_iff.1 hn
 have hl1:=of_decide_eq_true (Bool.and_eq_true_iff.1 hn1).1
 have hl2:=of_decide_eq_true (Bool.and_eq_true_iff.1 hn2).1
 replace hst:St 73 [(2,(Zf.ptr a0)),(3,(Zq.ptr a1)),(5,(Zf.ptr r5)),(6,(Zf.ptr r7))] a g:=hst.pick [0,1,2,3] rfl
 refine r_s (T:=[⟨[.o 0],_,[],[],[24]⟩,⟨[.o 1],_,[],[],[25]⟩,⟨[.p 0 0,.p 1 0],[(26,(pTup [(pWk 37 8 7 26 1099511627776 x.1.List.length),pAny,(pWk 37 10 9 26 1099511627776 x.2.2.Rec.List.length)]))],[27],[0,1],[26]⟩,⟨[.p 2 0],_,[],[0,1,2],[23]⟩,⟨[.p 3 0],_,[],[0,1,2,3],[27]⟩,⟨[.p 3 0],_,[],[0,1,2,3],[28]⟩,⟨[.p 3 0],_,[],[0,1,2,3],[29]⟩,⟨[],[(7,(pBox Zf 7 (default:Za)))],[8],[],[7]⟩,⟨[],[(9,(pBox Zbi 9 (default:Zd)))],[10],[],[9]⟩,⟨[.p 7 0,.p 4 0],[(7,(pWP 37 8 7 7 26 1099511627776 x.1.List.length 0))],[8],[0,1,2,3,4,7,8],[7]⟩,⟨[.p 5 0],_,[],[0,1,2,3,4,5,7,8,9],[8]⟩,⟨[.p 8 0,.p 6 0],[(9,(pWP 37 10 9 9 26 1099511627776 x.2.2.Rec.List.length 0))],[10],[0,1,2,3,4,5,6,7,8,9,10],[9]⟩]) (F:=[.o 0,.o 1,.o 2,.o 3,.p 9 0,.p 11 0]) hst hb Zb
  (Ql rfl Zck u_0<|Ql rfl Zhj u_0<|o_p rfl (Zp9 (j:=26) en_7 (Zjk a0 true a1 hx) (Ztt (Qc.2 ⟨fun _ _ h=>Zkc.pd h,Qc.2 ⟨fun _ _ h=>h,Qc.2 ⟨fun _ _ h=>Zrr.pd h,fun _ h=>by cases h⟩⟩⟩)) rfl rfl (Zwp hn1) (Zv7 hn2) rfl rfl (.cons u_0 (.cons c_b (.cons u_1 .nil))))<|Qm rfl u_0<|o_p rfl (Z8 rfl rfl u_0 rfl)<|o_p rfl (Z8 rfl rfl u_0 rfl)<|o_p rfl (Z8 rfl rfl u_0 rfl)<|o_p rfl (Zby (zs:=[.int .i64 0,.int .i64 0,.int .i64 0,.int .i64 0,.float .f64 0,.int .i64 0,.string ByteArray.empty,.slice none 0 0]) (by kernel_rfl) (fun g=>Zc5 g) rfl rfl)<|o_p rfl (Zby (zs:=[.int .i64 0,.int .i64 0,.int .i64 0,.int .i64 0,.int .i64 0,.int .i64 0,.float .f64 0,.int .i64 0,.string ByteArray.empty,.slice none 0 0]) (by kernel_rfl) (fun g=>Zih g) rfl rfl)<|o_p rfl (Zns (dk:=Zf) Zw6 rfl rfl u_0 u_1 (by decide))<|Qa rfl u_0<|o_p rfl (Zns (dk:=Zbi) Zxh rfl rfl u_0 u_1 (by decide))<|o_n) (fun a g hst hb=>?_)
 refine wp_seq ?_
 refine Zdj (fun a w=>∃ (g:G),w=g.w ∧ St 73 [(2,(Zf.ptr a0)),(3,(Zq.ptr a1)),(5,(Zf.ptr r5)),(6,(Zf.ptr r7)),(7,(pWP 37 8 7 7 26 (1099511627776 + x.1.List.length) x.1.List.length 0)),(9,(pWP 37 10 9 9 26 (1099511627776 + x.1.List.length) x.2.2.Rec.List.length 0))] a g ∧ Base g0 g) ?_ ?_
 ·rintro a w ⟨g,rfl,hst,hb⟩
  refine Zy ?_
  refine wp_seq ?_
  refine Zdj (fun a w=>∃ (g:G),w=g.w ∧ St 73 [(2,(Zf.ptr a0)),(3,(Zq.ptr a1)),(5,(Zf.ptr r5)),(6,(Zf.ptr r7))] a g ∧ Base g0 g) ?_ ?_
  ·rintro a w ⟨g,rfl,hst,hb⟩
   refine Zy ?_
   obtain ⟨r9,h10,H0⟩:=Zg H0
   obtain ⟨r11,h12,H0⟩:=Zg H0
   refine r_s (T:=[⟨[.o 2],_,[],[],[64]⟩,⟨[.o 0],_,[],[],[65]⟩,⟨[.p 0 0,.p 1 0],_,[],[0,1],[66]⟩,⟨[.p 2 0],_,[],[0,1,2],[67]⟩,⟨[.p 3 0,.o 3],_,[],Lr 4,[68]⟩,⟨[.p 3 0,.o 1],_,[],Lr 4,[69]⟩,⟨[.p 3 0,.p 5 0],_,[],[0,1,2,3,5],[70]⟩,⟨[.p 3 0,.p 4 0,.p 6 0],_,[],Lr 7,[71]⟩,⟨[.p 3 0,.p 7 0],_,[],Lr 8,[72]⟩,⟨[.p 8 0],_,[],Lr 9,[4]⟩]) (F:=[.p 9 0]) hst hb Zb
    (Ql rfl Zck u_0<|Ql rfl Zck u_0<|o_p rfl (Zr en_8 (Zhs _ _ h10) rfl rfl (.cons u_0 (.cons u_1 .nil)))<|Qm rfl u_0<|o_g (Qg_t rfl (fun hG=>Zo Zck rfl rfl u_0))<|o_g (Qg_t rfl (fun hG=>Zh Zio rfl rfl u_0))<|o_g (Qg_t rfl (fun hG=>Zo Zck rfl rfl (Opd.gd hG u_0)))<|o_g (Qg_t rfl (fun hG=>Zr en_8 (Zhs _ _ (Zbx h12 hG)) rfl rfl (.cons (Opd.gd hG u_0) (.cons (Opd.gd hG u_1) .nil))))<|o_p rfl (Zbh rfl rfl u_0 (fun hz=>(Opd.gd hz u_1)))<|Qa rfl u_0<|o_n) (fun a g hst hb=>?_)
   refine wp_ret ?_
   obtain rfl:=Option.some.inj H0
   exact Zz rfl hst hb (Zi (s:=4)) (hst.at 0 rfl)
  ·skip
   refine r_s (T:=[⟨[.o 5],_,[],[],[46]⟩,⟨[.p 0 0],_,[],[0],[47]⟩,⟨[.p 1 0],_,[],[0,1],[48]⟩,⟨[.p 2 0],_,[],[0,1,2],[49]⟩,⟨[],_,[],[],[50]⟩]) (F:=[.o 0,.o 1,.o 2,.o 3,.o 4,.o 5,.p 3 0,.p 4 0]) hst hb Zb
    (o_p rfl (Zhe Zpe (m:=2) rfl rfl rfl u_0)<|o_p rfl (Zhe Zj9 (m:=9) rfl rfl rfl u_0)<|o_p rfl (Zju Zmm rfl rfl u_0)<|o_p rfl (Zqc Tryd.underlying23 rfl rfl u_0)<|Qm rfl c_i<|o_n) (fun a g hst hb=>?_)
   refine wp_block ?_
   refine wp_loop_ghost (fun n a w=>∃ (i:Nat) (g:G),w=g.w ∧ St 73 [(2,(Zf.ptr a0)),(3,(Zq.ptr a1)),(5,(Zf.ptr r5)),(6,(Zf.ptr r7)),(7,(pWP 37 8 7 7 26 ((1099511627776 + x.1.List.length) + i) x.1.List.length 0)),(9,(pWP 37 10 9 9 26 ((1099511627776 + x.1.List.length) + i) x.2.2.Rec.List.length 0)),(49,(pInt .i64 (x.2.2.Rec.List.length:Int))),(50,(pInt .i64 (i:Int)))] a g ∧ Base g0 g ∧ i ≤ x.2.2.Rec.List.length ∧ n=x.2.2.Rec.List.length - i) x.2.2.Rec.List.length ⟨0,g,rfl,hst.pick [0,1,2,3,4,5,6,7] rfl,hb,Nat.zero_le _,rfl⟩ (fun n a w hI=>?_)
   obtain ⟨i,g,rfl,hst,hb,hi,rfl⟩:=hI
   refine r_s (T:=[⟨[.o 7,.o 6],_,[],[],[51]⟩]) (F:=[.o 0,.o 1,.o 2,.o 3,.o 4,.o 5,.o 6,.o 7,.p 0 0]) hst hb Zb
    (o_p rfl (Zdp rfl rfl u_0 u_1)<|o_n) (fun a g hst hb=>?_)
   refine wp_seq ?_
   refine wp_cond_split (hst.bool 8 rfl) (fun hc=>?_) (fun hc=>?_)
   ·have hlt:i < x.2.2.Rec.List.length:=by have:=of_decide_eq_true hc;omega
    refine wp_skip ?_
    refine Zy ?_
    refine wp_seq ?_
    refine wp_block ?_
    replace hst:St 73 [(2,(Zf.ptr a0)),(3,(Zq.ptr a1)),(5,(Zf.ptr r5)),(6,(Zf.ptr r7)),(7,(pWP 37 8 7 7 26 ((1099511627776 + x.1.List.length) + i) x.1.List.length 0)),(9,(pWP 37 10 9 9 26 ((1099511627776 + x.1.List.length) + i) x.2.2.Rec.List.length 0)),(49,(pInt .i64 (x.2.2.Rec.List.length:Int))),(50,(pInt .i64 (i:Int)))] a g:=hst.pick [0,1,2,3,4,5,6,7] rfl
    refine r_s (T:=[⟨[.o 7],_,[],[],[52]⟩,⟨[.p 0 0],_,[],[0],[11]⟩]) (F:=[.o 0,.o 1,.o 2,.o 3,.o 4,.o 5,.o 6,.o 7,.p 1 0]) hst hb Zb
     (Qm rfl u_0<|Qa rfl u_0<|o_n) (fun a g hst hb=>?_)
    replace hst:St 73 [(2,(Zf.ptr a0)),(3,(Zq.ptr a1)),(5,(Zf.ptr r5)),(6,(Zf.ptr r7)),(7,(pWP 37 8 7 7 26 ((1099511627776 + x.1.List.length) + i) x.1.List.length 0)),(9,(pWP 37 10 9 9 26 ((1099511627776 + x.1.List.length) + i) x.2.2.Rec.List.length 0)),(11,(pInt .i64 (i:Int))),(49,(pInt .i64 (x.2.2.Rec.List.length:Int))),(50,(pInt .i64 (i:Int)))] a g:=hst.pick [0,1,2,3,4,5,8,6,7] rfl
    refine r_g (T:=[⟨[.o 5],_,[],[],[53]⟩,⟨[.p 0 0],_,[],[0],[54]⟩,⟨[.p 1 0],_,[],[0,1],[55]⟩,⟨[.o 6],_,[],[],[56]⟩,⟨[.p 2 0,.p 3 0],_,[],[0,1,2,3],[57]⟩,⟨[.p 4 0],_,[],[0,1,2,3,4],[58]⟩,⟨[.p 5 0],_,[],[0,1,2,3,4,5],[59]⟩,⟨[.p 6 0],_,[],[0,1,2,3,4,5,6],[60]⟩,⟨[.p 2 0,.p 3 0],_,[],[0,1,2,3,4,5,6,7],[61]⟩,⟨[.p 8 0],_,[],[0,1,2,3,4,5,6,7,8],[62]⟩,⟨[.o 4,.o 5,.p 9 0,.p 7 0],[(7,(pWP 37 8 7 7 26 ((1099511627776 + x.1.List.length) + i + 1) x.1.List.length 0)),(9,(pWP 37 10 9 9 26 ((1099511627776 + x.1.List.length) + i + 1) x.2.2.Rec.List.length 0))],[27],[0,1,2,3,4,5,6,7,8,9],[7,9,53,54,55,57,58,61,62]⟩]) (F:=[.o 0,.o 1,.o 2,.o 3,.o 7,.o 8,.p 10 0,.p 10 1]) hst hb Zb
     (o_p rfl (Zhe Zpe (m:=2) rfl rfl rfl u_0)<|o_p rfl (Zhe Zj9 (m:=9) rfl rfl rfl u_0)<|o_p rfl (Zju Zmm rfl rfl u_0)<|Qm rfl u_0<|o_p rfl (Zi8 Tryd.underlying23 Zel (Int.natCast_nonneg i) (Int.ofNat_lt.2 hlt) rfl rfl u_0 u_1)<|o_p rfl (Zik Zjq (m:=1) rfl rfl rfl u_0)<|o_p rfl (Zn0 Zu0 rfl rfl u_0)<|o_p rfl (Zqp (by decide) (by omega) rfl rfl u_0 c_s)<|o_p rfl (Zi8 Tryd.underlying23 Zel (Int.natCast_nonneg i) (Int.ofNat_lt.2 hlt) rfl rfl u_0 u_1)<|o_p rfl (Zik Zjq (m:=1) rfl rfl rfl u_0)<|o_p rfl (Zl8 (s1:=7) (s2:=9) ty_9 rfl rfl (by decide) (by decide) u_0 u_1 u_2 u_3)<|o_n) (fun a g hst hb=>?_)
    refine Zb7 ?_
    refine Zy ?_
    replace hst:St 73 [(2,(Zf.ptr a0)),(3,(Zq.ptr a1)),(5,(Zf.ptr r5)),(6,(Zf.ptr r7)),(7,(pWP 37 8 7 7 26 ((1099511627776 + x.1.List.length) + (i + 1)) x.1.List.length 0)),(9,(pWP 37 10 9 9 26 ((1099511627776 + x.1.List.length) + (i + 1)) x.2.2.Rec.List.length 0)),(49,(pInt .i64 (x.2.2.Rec.List.length:Int))),(50,(pInt .i64 (i:Int)))] a g:=hst.pick [0,1,2,3,6,7,4,5] rfl
    refine r_g (T:=[⟨[.o 7],_,[],[],[63]⟩,⟨[.p 0 0],_,[],[0],[50]⟩]) (F:=[.o 0,.o 1,.o 2,.o 3,.o 4,.o 5,.o 6,.p 1 0]) hst hb Zb
     (o_p rfl (Zcv (c:=((i + 1:Nat):Int)) rfl rfl u_0 c_i (by rw [Zld (by omega) (by omega)];rfl))<|Qm rfl u_0<|o_n) (fun a g hst hb=>?_)
    exact ⟨x.2.2.Rec.List.length - (i + 1),by omega,i + 1,g,rfl,hst.pick [0,1,2,3,4,5,6,7] rfl,hb,by omega,rfl⟩
   ·refine wp_exit ?_
    refine Zcu ?_
    refine Zcu ?_
    refine Zd5 ?_
    have hge:i=x.2.2.Rec.List.length:=by have:=of_decide_eq_false hc;omega
    subst hge
    exact ⟨g,rfl,hst.pick [0,1,2,3] rfl,hb⟩
 ·skip
  refine r_s (T:=[⟨[.o 4],_,[],[],[30]⟩,⟨[.p 0 0],_,[],[0],[31]⟩,⟨[.p 1 0],_,[],[0,1],[32]⟩,⟨[],_,[],[],[33]⟩]) (F:=[.o 0,.o 1,.o 2,.o 3,.o 4,.o 5,.p 2 0,.p 3 0]) hst hb Zb
   (o_p rfl (Zhe Zj9 (m:=7) rfl rfl rfl u_0)<|o_p rfl (Zju Zmm rfl rfl u_0)<|o_p rfl (Zqc Tryd.underlying23 rfl rfl u_0)<|Qm rfl c_i<|o_n) (fun a g hst hb=>?_)
  refine wp_block ?_
  refine wp_loop_ghost (fun n a w=>∃ (i:Nat) (g:G),w=g.w ∧ St 73 [(2,(Zf.ptr a0)),(3,(Zq.ptr a1)),(5,(Zf.ptr r5)),(6,(Zf.ptr r7)),(7,(pWP 37 8 7 7 26 (1099511627776 + i) x.1.List.length 0)),(9,(pWP 37 10 9 9 26 (1099511627776 + i) x.2.2.Rec.List.length 0)),(32,(pInt .i64 (x.1.List.length:Int))),(33,(pInt .i64 (i:Int)))] a g ∧ Base g0 g ∧ i ≤ x.1.List.length ∧ n=x.1.List.length - i) x.1.List.length ⟨0,g,rfl,hst.pick [0,1,2,3,4,5,6,7] rfl,hb,Nat.zero_le _,rfl⟩ (fun n a w hI=>?_)
  obtain ⟨i,g,rfl,hst,hb,hi,rfl⟩:=hI
  refine r_s (T:=[⟨[.o 7,.o 6],_,[],[],[34]⟩]) (F:=[.o 0,.o 1,.o 2,.o 3,.o 4,.o 5,.o 6,.o 7,.p 0 0]) hst hb Zb
   (o_p rfl (Zdp rfl rfl u_0 u_1)<|o_n) (fun a g hst hb=>?_)
  refine wp_seq ?_
  refine wp_cond_split (hst.bool 8 rfl) (fun hc=>?_) (fun hc=>?_)
  ·have hlt:i < x.1.List.length:=by have:=of_decide_eq_true hc;omega
   refine wp_skip ?_
   refine Zy ?_
   refine wp_seq ?_
   refine wp_block ?_
   replace hst:St 73 [(2,(Zf.ptr a0)),(3,(Zq.ptr a1)),(5,(Zf.ptr r5)),(6,(Zf.ptr r7)),(7,(pWP 37 8 7 7 26 (1099511627776 + i) x.1.List.length 0)),(9,(pWP 37 10 9 9 26 (1099511627776 + i) x.2.2.Rec.List.length 0)),(32,(pInt .i64 (x.1.List.length:Int))),(33,(pInt .i64 (i:Int)))] a g:=hst.pick [0,1,2,3,4,5,6,7] rfl
   refine r_s (T:=[⟨[.o 7],_,[],[],[35]⟩,⟨[.p 0 0],_,[],[0],[10]⟩]) (F:=[.o 0,.o 1,.o 2,.o 3,.o 4,.o 5,.o 6,.o 7,.p 1 0]) hst hb Zb
    (Qm rfl u_0<|Qa rfl u_0<|o_n) (fun a g hst hb=>?_)
   replace hst:St 73 [(2,(Zf.ptr a0)),(3,(Zq.ptr a1)),(5,(Zf.ptr r5)),(6,(Zf.ptr r7)),(7,(pWP 37 8 7 7 26 (1099511627776 + i) x.1.List.length 0)),(9,(pWP 37 10 9 9 26 (1099511627776 + i) x.2.2.Rec.List.length 0)),(10,(pInt .i64 (i:Int))),(32,(pInt .i64 (x.1.List.length:Int))),(33,(pInt .i64 (i:Int)))] a g:=hst.pick [0,1,2,3,4,5,8,6,7] rfl
   refine r_g (T:=[⟨[.o 4],_,[],[],[36]⟩,⟨[.p 0 0],_,[],[0],[37]⟩,⟨[.o 6],_,[],[],[38]⟩,⟨[.p 1 0,.p 2 0],_,[],[0,1,2],[39]⟩,⟨[.p 3 0],_,[],[0,1,2,3],[40]⟩,⟨[.p 4 0],_,[],[0,1,2,3,4],[41]⟩,⟨[.p 5 0],_,[],[0,1,2,3,4,5],[42]⟩,⟨[.p 1 0,.p 2 0],_,[],[0,1,2,3,4,5,6],[43]⟩,⟨[.p 7 0],_,[],[0,1,2,3,4,5,6,7],[44]⟩,⟨[.o 4,.o 5,.p 8 0,.p 6 0],[(7,(pWP 37 8 7 7 26 (1099511627776 + i + 1) x.1.List.length 0)),(9,(pWP 37 10 9 9 26 (1099511627776 + i + 1) x.2.2.Rec.List.length 0))],[27],[0,1,2,3,4,5,6,7,8],[7,9,36,37,39,40,43,44]⟩]) (F:=[.o 0,.o 1,.o 2,.o 3,.o 7,.o 8,.p 9 0,.p 9 1]) hst hb Zb
    (o_p rfl (Zhe Zj9 (m:=7) rfl rfl rfl u_0)<|o_p rfl (Zju Zmm rfl rfl u_0)<|Qm rfl u_0<|o_p rfl (Zi8 Tryd.underlying23 Zel (Int.natCast_nonneg i) (Int.ofNat_lt.2 hlt) rfl rfl u_0 u_1)<|o_p rfl (Zik Zjq (m:=1) rfl rfl rfl u_0)<|o_p rfl (Zn0 Zu0 rfl rfl u_0)<|o_p rfl (Zqp (by decide) (by omega) rfl rfl u_0 c_s)<|o_p rfl (Zi8 Tryd.underlying23 Zel (Int.natCast_nonneg i) (Int.ofNat_lt.2 hlt) rfl rfl u_0 u_1)<|o_p rfl (Zik Zjq (m:=1) rfl rfl rfl u_0)<|o_p rfl (Zl8 (s1:=7) (s2:=9) ty_9 rfl rfl (by decide) (by decide) u_0 u_1 u_2 u_3)<|o_n) (fun a g hst hb=>?_)
   refine Zb7 ?_
   refine Zy ?_
   replace hst:St 73 [(2,(Zf.ptr a0)),(3,(Zq.ptr a1)),(5,(Zf.ptr r5)),(6,(Zf.ptr r7)),(7,(pWP 37 8 7 7 26 (1099511627776 + (i + 1)) x.1.List.length 0)),(9,(pWP 37 10 9 9 26 (1099511627776 + (i + 1)) x.2.2.Rec.List.length 0)),(32,(pInt .i64 (x.1.List.length:Int))),(33,(pInt .i64 (i:Int)))] a g:=hst.pick [0,1,2,3,6,7,4,5] rfl
   refine r_g (T:=[⟨[.o 7],_,[],[],[45]⟩,⟨[.p 0 0],_,[],[0],[33]⟩]) (F:=[.o 0,.o 1,.o 2,.o 3,.o 4,.o 5,.o 6,.p 1 0]) hst hb Zb
    (o_p rfl (Zcv (c:=((i + 1:Nat):Int)) rfl rfl u_0 c_i (by rw [Zld (by omega) (by omega)];rfl))<|Qm rfl u_0<|o_n) (fun a g hst hb=>?_)
   exact ⟨x.1.List.length - (i + 1),by omega,i + 1,g,rfl,hst.pick [0,1,2,3,4,5,6,7] rfl,hb,by omega,rfl⟩
  ·refine wp_exit ?_
   refine Zcu ?_
   refine Zcu ?_
   refine Zd5 ?_
   have hge:i=x.1.List.length:=by have:=of_decide_eq_false hc;omega
   subst hge
   exact ⟨g,rfl,hst.pick [0,1,2,3,4,5] rfl,hb⟩
end Go.CL
namespace Go.CL
open Go
inductive shelf_nodeT where
 | nil
 | node (key:ByteArray) (rec_:Za) (left:shelf_nodeT) (right:shelf_nodeT) (size:Int)
 deriving Inhabited
def shelf_nodeT.hh:shelf_nodeT → Nat
 | .nil=>0
 | .node x0 x1 x2 x3 x4=>max x2.hh x3.hh + 1
def Zft (a0:Nat):Option (Bool):=((Zb4 a0 (0:Nat)).bind fun r1=>(some r1))
def Zb5 (a1:ByteArray):Nat → (Bool) → (Bool) → (Bool) → (Bool) → (Bool) → (Int) → Option (Bool × Bool × Bool × Bool × Bool)
 | 0,_,_,_,_,_,_=>none
 | n + 1,x1,x2,x3,x4,x5,x6=>(if (decide (x6 < (a1.size:Int))) then ((gd (!x1) (sidx a1 x6)).bind fun b8=>((gd (!x2) (sidx a1 x6)).bind fun b10=>((gd (!x3) (sidx a1 x6)).bind fun b12=>((gd (!x4) (sidx a1 x6)).bind fun b14=>((gd (!x5) (sidx a1 x6)).bind fun b16=>((Zb5 a1 n) (x1 || (b8 == (116:Int))) (x2 || (b10 == (110:Int))) (x3 || (b12 == (98:Int))) (x4 || (b14 == (114:Int))) (x5 || (b16 == (108:Int))) (IntKind.i64.wrap (x6 + (1:Int))))))))) else (some (x1,x2,x3,x4,x5)))
def Zg7 (a0:Za) (a1:ByteArray):Option (Bool):=((Zb5 a1 (Int.toNat ((a1.size:Int) - (0:Int)) + 1) false false false false false (0:Int)).bind fun z23=>match z23 with | (y18,y19,y20,y21,y22)=>(if (((((!y18) && (!sEq a0.Text (⟨#[]⟩:ByteArray))) || ((!y19) && (a0.Num != (0:Int)))) || ((!y20) && (a0.Low != (0:Int)))) || ((!y20) && (a0.High != (0:Int)))) then (some false) else ((gd (!y21) (Zft a0.Real)).bind fun r25=>(some ((y21 || r25) && (y22 || ((a0.Cap == (0:Int)) && ((a0.List.length:Int) == (0:Int)))))))))
def Zia (a0:Int):Option (ByteArray):=(if ((decide (a0 < (1:Int))) || (decide ((9:Int) < a0))) then (some (⟨#[]⟩:ByteArray)) else ((idx ([(⟨#[]⟩:ByteArray),(⟨#[116]⟩:ByteArray),(⟨#[110]⟩:ByteArray),(⟨#[110]⟩:ByteArray),(⟨#[110,98]⟩:ByteArray),(⟨#[114]⟩:ByteArray),(⟨#[114]⟩:ByteArray),(⟨#[114]⟩:ByteArray),(⟨#[108]⟩:ByteArray),(⟨#[108]⟩:ByteArray)]:List ByteArray) a0).bind fun e2=>(some e2)))
def Zd3 (a0:Nat):Option (Bool):=((Zcq a0).bind fun r1=>(some ((!r1) || ((a0:Int) == (9221120237041090561:Int)))))
def Zeg (a0:Zc) (a1:Zc):Option (Bool):=((Zci a1.Score a0.Score).bind fun r1=>(if r1 then (some true) else ((Zb4 a0.Score a1.Score).bind fun r4=>(some (r4 && (sLt a0.Name a1.Name))))))
def Zg5 (a0:Int) (a1:List Zc) (a2:Int):Option (Int):=((idx a1 a2).bind fun e1=>(if (decide ((16:Int) < (e1.Name.size:Int))) then (some (3:Int)) else ((gd (a0 == (8:Int)) (Zft e1.Score)).bind fun r4=>((gd (!((a0 == (8:Int)) && (!r4))) (Zd3 e1.Score)).bind fun r6=>(if (((a0 == (8:Int)) && (!r4)) || (!r6)) then (some (4:Int)) else ((gd ((decide ((0:Int) < a2)) && (a0 == (8:Int))) (idx a1 (IntKind.i64.wrap (a2 - (1:Int))))).bind fun e9=>(if (((decide ((0:Int) < a2)) && (a0 == (8:Int))) && (!(sLt e9.Name e1.Name))) then (some (4:Int)) else ((gd ((decide ((0:Int) < a2)) && (a0 == (9:Int))) (idx a1 (IntKind.i64.wrap (a2 - (1:Int))))).bind fun e12=>((gd ((decide ((0:Int) < a2)) && (a0 == (9:Int))) (Zeg e12 e1)).bind fun r14=>(if (((decide ((0:Int) < a2)) && (a0 == (9:Int))) && (!r14)) then (some (4:Int)) else (some (0:Int))))))))))))
def Zdf (a0:Za):Nat → (Int) → Option ((Int) ⊕ (Unit))
 | 0,_=>none
 | n + 1,x15=>(if (decide (x15 < (a0.List.length:Int))) then ((Zg5 a0.Kind a0.List x15).bind fun r17=>(if (r17 != (0:Int)) then (some (.inl r17)) else ((Zdf a0 n) (IntKind.i64.wrap (x15 + (1:Int)))))) else (some (.inr ())))
def Zcz (a0:Za):Option (Int):=(if ((decide (a0.Kind < (1:Int))) || (decide ((9:Int) < a0.Kind))) then (some (5:Int)) else ((Zia a0.Kind).bind fun r2=>((Zg7 a0 r2).bind fun r4=>(if (!r4) then (some (4:Int)) else (if ((a0.Kind == (1:Int)) && (decide ((64:Int) < (a0.Text.size:Int)))) then (some (3:Int)) else (if ((a0.Kind == (4:Int)) && ((((decide (a0.Low < (IntKind.i64.wrap (0 - (2305843009213693952:Int))))) || (decide ((2305843009213693952:Int) < a0.High))) || (decide (a0.Num < a0.Low))) || (decide (a0.High < a0.Num)))) then (some (1:Int)) else ((Zd3 a0.Real).bind fun r9=>(if (!r9) then (some (4:Int)) else (if (decide (a0.Kind < (8:Int))) then (some (0:Int)) else (if ((decide (a0.Cap < (1:Int))) || (decide ((32:Int) < a0.Cap))) then (some (1:Int)) else (if (decide (a0.Cap < (a0.List.length:Int))) then (some (8:Int)) else ((Zdf a0 (Int.toNat ((a0.List.length:Int) - (0:Int)) + 1) (0:Int)).bind fun z20=>match z20 with | .inl r=>some r | .inr ()=>(some (0:Int))))))))))))))
def Zfo (a0:Int):Option (Int):=(if ((decide (a0 < (0:Int))) || (decide ((21:Int) < a0))) then (some (0:Int)) else ((idx ([(0:Int),(0:Int),(0:Int),(0:Int),(0:Int),(1:Int),(1:Int),(2:Int),(3:Int),(3:Int),(4:Int),(4:Int),(4:Int),(5:Int),(6:Int),(7:Int),(7:Int),(7:Int),(8:Int),(8:Int),(8:Int),(9:Int)]:List Int) a0).bind fun e2=>(some e2)))
def Zkn (a0:Int):Option (ByteArray):=(if ((decide (a0 < (0:Int))) || (decide ((21:Int) < a0))) then (some (⟨#[]⟩:ByteArray)) else ((idx ([(⟨#[]⟩:ByteArray),(⟨#[109]⟩:ByteArray),(⟨#[]⟩:ByteArray),(⟨#[]⟩:ByteArray),(⟨#[]⟩:ByteArray),(⟨#[115]⟩:ByteArray),(⟨#[115]⟩:ByteArray),(⟨#[110]⟩:ByteArray),(⟨#[110]⟩:ByteArray),(⟨#[110]⟩:ByteArray),(⟨#[110]⟩:ByteArray),(⟨#[110]⟩:ByteArray),(⟨#[110]⟩:ByteArray),(⟨#[120]⟩:ByteArray),(⟨#[120]⟩:ByteArray),(⟨#[120]⟩:ByteArray),(⟨#[120]⟩:ByteArray),(⟨#[120]⟩:ByteArray),(⟨#[115]⟩:ByteArray),(⟨#[115]⟩:ByteArray),(⟨#[115]⟩:ByteArray),(⟨#[120,115]⟩:ByteArray)]:List ByteArray) a0).bind fun e2=>(some e2)))
def Zh6 (a1:Int) (r1:ByteArray):Nat → (Int) → Option ((Bool) ⊕ (Unit))
 | 0,_=>none
 | n + 1,x3=>(if (decide (x3 < (r1.size:Int))) then ((sidx r1 x3).bind fun b5=>(if (b5 == a1) then (some (.inl true)) else ((Zh6 a1 r1 n) (IntKind.i64.wrap (x3 + (1:Int)))))) else (some (.inr ())))
def Zcm (a0:Int) (a1:Int):Option (Bool):=((Zkn a0).bind fun r1=>((Zh6 a1 r1 (Int.toNat ((r1.size:Int) - (0:Int)) + 1) (0:Int)).bind fun z8=>match z8 with | .inl r=>some r | .inr ()=>(some false)))
def Zee (a0:Zm):Option (Int):=(if ((decide (a0.Kind < (1:Int))) || (decide ((21:Int) < a0.Kind))) then (some (5:Int)) else (if ((decide ((a0.Key.size:Int) < (1:Int))) || (decide ((24:Int) < (a0.Key.size:Int)))) then (some (1:Int)) else ((Zcm a0.Kind (110:Int)).bind fun r3=>((gd (!((!r3) && (a0.N != (0:Int)))) (Zcm a0.Kind (120:Int))).bind fun r5=>((gd ((!((!r3) && (a0.N != (0:Int)))) && (!r5)) (Zb4 a0.X (0:Nat))).bind fun r7=>((gd (!(((!r3) && (a0.N != (0:Int))) || ((!r5) && (!r7)))) (Zcm a0.Kind (115:Int))).bind fun r9=>(if ((((!r3) && (a0.N != (0:Int))) || ((!r5) && (!r7))) || ((!r9) && (!sEq a0.S (⟨#[]⟩:ByteArray)))) then (some (4:Int)) else ((gd (a0.Kind != (1:Int)) (Zc8 a0.Make ({ Kind:=(0:Int),Num:=(0:Int),Low:=(0:Int),High:=(0:Int),Real:=(0:Nat),Cap:=(0:Int),Text:=ByteArray.empty,List:=([]:List Zc) }:Za))).bind fun r12=>(if ((a0.Kind != (1:Int)) && (!r12)) then (some (4:Int)) else ((Zfo a0.Kind).bind fun r15=>((gd (!((r15 == (1:Int)) && (decide ((64:Int) < (a0.S.size:Int))))) (Zfo a0.Kind)).bind fun r17=>(if (((r15 == (1:Int)) && (decide ((64:Int) < (a0.S.size:Int)))) || ((r17 != (1:Int)) && (decide ((16:Int) < (a0.S.size:Int))))) then (some (3:Int)) else (if (((a0.Kind == (10:Int)) || (a0.Kind == (11:Int))) && ((decide (a0.N < (0:Int))) || (decide ((2305843009213693952:Int) < a0.N)))) then (some (1:Int)) else ((Zd3 a0.X).bind fun r21=>(if (!r21) then (some (4:Int)) else (if (a0.Kind == (1:Int)) then ((Zcz a0.Make).bind fun r25=>(some r25)) else (some (0:Int))))))))))))))))))
def Zgf (a0:Za):Option (Za):=(if (([]:List Zc).length + a0.List.length) * 24 ≤ 140737488355328 then (some ({ a0 with List:=(([]:List Zc) ++ a0.List) })) else none)
def Zg8 (a0:Int) (a1:Int):Option (Bool):=(some ((((decide ((0:Int) < a0)) && (decide ((0:Int) < a1))) && (decide ((IntKind.i64.wrap (a0 + a1)) < (0:Int)))) || (((decide (a0 < (0:Int))) && (decide (a1 < (0:Int)))) && (decide ((0:Int) ≤ (IntKind.i64.wrap (a0 + a1)))))))
def Zho (a0:Nat) (a1:Nat):Option (Nat):=((Zci a0 a1).bind fun r1=>(if r1 then (some a1) else (some a0)))
def Zhp (a0:Nat) (a1:Nat):Option (Nat):=((Zci a1 a0).bind fun r1=>(if r1 then (some a1) else (some a0)))
def Zdc (a0:Int):Option (Nat):=(if (decide ((9223372036854775808:Int) ≤ a0)) then (some (Int.toNat (IntKind.u64.wrap (a0 - (9223372036854775808:Int))))) else (some (Int.toNat (IntKind.u64.wrap ((9223372036854775808:Int) + (IntKind.u64.wrap ((IntKind.u64.wrap ((9223372036854775808:Int) - (1:Int))) - a0)))))))
def Zfi (a0:Nat):Option (Int):=((Zcq a0).bind fun r1=>(if r1 then (some (IntKind.u64.wrap ((9223372036854775808:Int) + (9221120237041090561:Int)))) else (if (decide ((9223372036854775808:Int) ≤ (a0:Int))) then (some (IntKind.u64.wrap ((IntKind.u64.wrap ((9223372036854775808:Int) - (1:Int))) - (IntKind.u64.wrap ((a0:Int) - (9223372036854775808:Int)))))) else (some (IntKind.u64.wrap ((9223372036854775808:Int) + (a0:Int)))))))
def Zdz (a0:List Zc) (a1:ByteArray):Nat → (Int) → Option ((Bool) ⊕ (Unit))
 | 0,_=>none
 | n + 1,x1=>(if (decide (x1 < (a0.length:Int))) then ((idx a0 x1).bind fun e3=>(if (sEq e3.Name a1) then (some (.inl true)) else ((Zdz a0 a1 n) (IntKind.i64.wrap (x1 + (1:Int)))))) else (some (.inr ())))
def Zd9 (a0:List Zc) (a1:ByteArray):Option (Bool):=((Zdz a0 a1 (Int.toNat ((a0.length:Int) - (0:Int)) + 1) (0:Int)).bind fun z6=>match z6 with | .inl r=>some r | .inr ()=>(some false))
def Zet (j30:List Zc):Option (List Zc):=(some j30)
def Zcl (a0:List Zc) (x3:Int) (kk:(List Zc) → (Bool) → (Int) → Option ((List Zc) × Bool)) (j20:List Zc) (j21:Bool):Option ((List Zc) × Bool):=((idx a0 x3).bind fun e22=>(if (j20.length + ([e22]:List Zc).length) * 24 ≤ 140737488355328 then (kk (j20 ++ ([e22]:List Zc)) j21 (IntKind.i64.wrap (x3 + (1:Int)))) else none))
def Zbu (a0:List Zc) (a1:Zc) (a2:Bool):Nat → (List Zc) → (Bool) → (Int) → Option ((List Zc) × Bool)
 | 0,_,_,_=>none
 | n + 1,x1,x2,x3=>(if (decide (x3 < (a0.length:Int))) then ((gd (!a2) (idx a0 x3)).bind fun e5=>((gd (!a2) (Zeg e5 a1)).bind fun r7=>((gd ((!((!a2) && r7)) && a2) (idx a0 x3)).bind fun e9=>((idx a0 x3).bind fun e11=>((gd ((sEq e11.Name a1.Name) && (!a2)) (idx a0 x3)).bind fun e13=>((gd ((sEq e11.Name a1.Name) && (!a2)) (Zb4 e13.Score a1.Score)).bind fun r15=>(if ((!x2) && (!(((!a2) && r7) || (a2 && (sLt e9.Name a1.Name))))) then (if (!((sEq e11.Name a1.Name) && (a2 || r15))) then (if (x1.length + ([a1]:List Zc).length) * 24 ≤ 140737488355328 then (Zcl a0 x3 (Zbu a0 a1 a2 n) (x1 ++ ([a1]:List Zc)) true) else none) else (Zcl a0 x3 (Zbu a0 a1 a2 n) x1 true)) else (Zcl a0 x3 (Zbu a0 a1 a2 n) x1 x2)))))))) else (some (x1,x2)))
def Zdq (a0:List Zc) (a1:Zc) (a2:Bool):Option (List Zc):=((Zbu a0 a1 a2 (Int.toNat ((a0.length:Int) - (0:Int)) + 1) ([]:List Zc) false (0:Int)).bind fun z27=>match z27 with | (y25,y26)=>(if (!y26) then (if (y25.length + ([a1]:List Zc).length) * 24 ≤ 140737488355328 then (Zet (y25 ++ ([a1]:List Zc))) else none) else (Zet y25)))
def Zl (j65:Za) (j66:Zd):Option (Za × Zd):=(some (j65,j66))
def Zgu (x43:Int) (kk:(List Zc) → (Int) → Option (List Zc)) (j51:List Zc):Option (List Zc):=(kk j51 (IntKind.i64.wrap (x43 + (1:Int))))
def Zcy (a0:Za) (a1:Zm):Nat → (List Zc) → (Int) → Option (List Zc)
 | 0,_,_=>none
 | n + 1,x42,x43=>(if (decide (x43 < (a0.List.length:Int))) then ((idx a0.List x43).bind fun e45=>(if (!sEq e45.Name a1.S) then ((idx a0.List x43).bind fun e48=>(if (x42.length + ([e48]:List Zc).length) * 24 ≤ 140737488355328 then (Zgu x43 (Zcy a0 a1 n) (x42 ++ ([e48]:List Zc))) else none)) else (Zgu x43 (Zcy a0 a1 n) x42))) else (some x42))
def Zcw (a0:Za) (j64:List Zc):Option (Za × Zd):=(Zl ({ a0 with List:=j64 }) ({ Code:=(0:Int),Num:=(0:Int),Rec:=(default:Za) }:Zd))
def Zbj (a0:Za) (a1:Zm) (j11:Bool):Option (Za × Zd):=(if j11 then (if (decide (a0.Num < a1.N)) then (Zl a0 ({ ({ Code:=(0:Int),Num:=(0:Int),Rec:=(default:Za) }:Zd) with Code:=(11:Int) })) else (Zl a0 ({ Code:=(0:Int),Num:=(0:Int),Rec:=(default:Za) }:Zd))) else (if (a1.Kind == (10:Int)) then (if (decide (a0.High < (IntKind.i64.wrap (a0.Num + a1.N)))) then (Zl a0 ({ ({ Code:=(0:Int),Num:=(0:Int),Rec:=(default:Za) }:Zd) with Code:=(9:Int) })) else (Zl ({ a0 with Num:=(IntKind.i64.wrap (a0.Num + a1.N)) }) ({ Code:=(0:Int),Num:=(0:Int),Rec:=(default:Za) }:Zd))) else (if (a1.Kind == (11:Int)) then (if (decide ((IntKind.i64.wrap (a0.Num - a1.N)) < a0.Low)) then (Zl a0 ({ ({ Code:=(0:Int),Num:=(0:Int),Rec:=(default:Za) }:Zd) with Code:=(10:Int) })) else (Zl ({ a0 with Num:=(IntKind.i64.wrap (a0.Num - a1.N)) }) ({ Code:=(0:Int),Num:=(0:Int),Rec:=(default:Za) }:Zd))) else (if (a1.Kind == (13:Int)) then ((Zho a0.Real a1.X).bind fun r19=>(Zl ({ a0 with Real:=r19 }) ({ Code:=(0:Int),Num:=(0:Int),Rec:=(default:Za) }:Zd))) else (if (a1.Kind == (14:Int)) then ((Zhp a0.Real a1.X).bind fun r22=>(Zl ({ a0 with Real:=r22 }) ({ Code:=(0:Int),Num:=(0:Int),Rec:=(default:Za) }:Zd))) else (if (a1.Kind == (15:Int)) then ((Zfi (fadd a0.Real a1.X)).bind fun r25=>((Zdc r25).bind fun r27=>(Zl ({ a0 with Real:=r27 }) ({ Code:=(0:Int),Num:=(0:Int),Rec:=(default:Za) }:Zd)))) else (if (a1.Kind == (16:Int)) then ((Zfi (fmul a0.Real a1.X)).bind fun r30=>((Zdc r30).bind fun r32=>(Zl ({ a0 with Real:=r32 }) ({ Code:=(0:Int),Num:=(0:Int),Rec:=(default:Za) }:Zd)))) else (if (a1.Kind == (17:Int)) then (Zl ({ a0 with Real:=a1.X }) ({ Code:=(0:Int),Num:=(0:Int),Rec:=(default:Za) }:Zd)) else (if (a1.Kind == (18:Int)) then ((Zd9 a0.List a1.S).bind fun r36=>(if ((!r36) && (decide (a0.Cap ≤ (a0.List.length:Int)))) then (Zl a0 ({ ({ Code:=(0:Int),Num:=(0:Int),Rec:=(default:Za) }:Zd) with Code:=(8:Int) })) else ((Zdq a0.List ({ Score:=(0:Nat),Name:=a1.S }:Zc) true).bind fun r39=>(Zl ({ a0 with List:=r39 }) ({ Code:=(0:Int),Num:=(0:Int),Rec:=(default:Za) }:Zd))))) else (if (a1.Kind == (19:Int)) then ((Zcy a0 a1 (Int.toNat ((a0.List.length:Int) - (0:Int)) + 1) ([]:List Zc) (0:Int)).bind fun z53=>match z53 with | y52=>(Zl ({ a0 with List:=y52 }) ({ Code:=(0:Int),Num:=(0:Int),Rec:=(default:Za) }:Zd))) else (if (a1.Kind == (20:Int)) then ((Zd9 a0.List a1.S).bind fun r55=>(if (!r55) then (Zl a0 ({ ({ Code:=(0:Int),Num:=(0:Int),Rec:=(default:Za) }:Zd) with Code:=(11:Int) })) else (Zl a0 ({ Code:=(0:Int),Num:=(0:Int),Rec:=(default:Za) }:Zd)))) else (if (a1.Kind == (21:Int)) then ((Zdq a0.List ({ Score:=a1.X,Name:=a1.S }:Zc) false).bind fun r59=>(if (decide (a0.Cap < (r59.length:Int))) then ((cut r59 (0:Int) a0.Cap).bind fun c62=>(Zcw a0 c62)) else (Zcw a0 r59))) else (Zl a0 ({ Code:=(0:Int),Num:=(0:Int),Rec:=(default:Za) }:Zd))))))))))))))
def Z6 (a0:Za) (a1:Zm):Option (Za × Zd):=(if (a1.Kind == (5:Int)) then (Zl ({ a0 with Text:=a1.S }) ({ Code:=(0:Int),Num:=(0:Int),Rec:=(default:Za) }:Zd)) else (if (a1.Kind == (6:Int)) then ((Zgf a0).bind fun r3=>(Zl ({ a0 with Text:=a1.S }) ({ ({ Code:=(0:Int),Num:=(0:Int),Rec:=(default:Za) }:Zd) with Rec:=r3 }))) else (if (a1.Kind == (7:Int)) then (Zl ({ a0 with Num:=(IntKind.i64.wrap (a0.Num + a1.N)) }) ({ Code:=(0:Int),Num:=(0:Int),Rec:=(default:Za) }:Zd)) else (if (a1.Kind == (8:Int)) then ((Zg8 a0.Num a1.N).bind fun r7=>(if r7 then (Zl a0 ({ ({ Code:=(0:Int),Num:=(0:Int),Rec:=(default:Za) }:Zd) with Code:=(9:Int) })) else (Zl ({ a0 with Num:=(IntKind.i64.wrap (a0.Num + a1.N)) }) ({ Code:=(0:Int),Num:=(0:Int),Rec:=(default:Za) }:Zd)))) else (if (a1.Kind == (9:Int)) then (Zbj a0 a1 (a1.Kind == (9:Int))) else (Zbj a0 a1 (a1.Kind == (12:Int))))))))
def NANB:Nat:=9221120237041090561
def keyf (b:Nat):Int:=if isn b then 18444492273895866369 else if TOP ≤ b then 18446744073709551615 - b else b + 9223372036854775808
def Zbn (b:Nat):Nat:=if isn b then NANB else b
theorem Zni {b:Nat} (hb:b < 18446744073709551616):fneq b b=decide (isn b):=by
 unfold fneq
 show (Ieee.double.order b b != some .eq)=_
 by_cases h:isn b
 ·rw [Znr (.inl h)];simp [h]
 ·obtain ⟨o,ho,_,he⟩:=Zj0 hb hb h h
  rw [ho,he.2 rfl];simp [h]
theorem Zgg {b:Nat} (hb:b < 18446744073709551616):Zc2 b=some (Zbn b):=by
 unfold Zc2 Zbn
 rw [Zni hb]
 by_cases h:isn b
 ·simp [h,Zka,NANB]
 ·simp [h]
theorem Zvz {b:Nat} (hb:b < 18446744073709551616):(bAnd .u64 (b:Int) 9223372036854775808 != 0)=decide (TOP ≤ b):=by
 have h1:(BitVec.ofInt 64 (b:Int) &&& BitVec.ofInt 64 9223372036854775808).toNat=b &&& 9223372036854775808:=by
  rw [BitVec.toNat_and]
  have e1:(BitVec.ofInt 64 (b:Int)).toNat=b:=by
   rw [show BitVec.ofInt 64 (b:Int)=BitVec.ofNat 64 b from rfl]
   simp;omega
  rw [e1];rfl
 have h2:b &&& 9223372036854775808=(b.testBit 63).toNat * 9223372036854775808:=by
  apply Nat.eq_of_testBit_eq
  intro i
  rw [Nat.testBit_and,show (9223372036854775808:Nat)=2 ^ 63 from rfl,Nat.testBit_two_pow]
  by_cases hi:63=i
  ·subst hi
   cases b.testBit 63
   ·simp
   ·rw [Bool.toNat_true,Nat.one_mul,Nat.testBit_two_pow];simp
  ·cases b.testBit 63
   ·simp [hi]
   ·rw [Bool.toNat_true,Nat.one_mul,Nat.testBit_two_pow];simp [hi]
 have h3:b.testBit 63=decide (TOP ≤ b):=by
  rw [Nat.testBit_eq_decide_div_mod_eq]
  unfold TOP
  by_cases h:9223372036854775808 ≤ b
  ·have:b / 2 ^ 63 % 2=1:=by omega
   simp [this,h]
  ·have:b / 2 ^ 63 % 2=0:=by omega
   simp [this,h]
 unfold bAnd
 show (IntKind.wrap .u64 ((BitVec.ofInt 64 (b:Int) &&& BitVec.ofInt 64 9223372036854775808).toNat:Int) != 0)=_
 rw [h1,h2,h3]
 by_cases h:TOP ≤ b
 ·simp only [h,decide_true,Bool.toNat_true,Nat.one_mul]
  rfl
 ·simp only [h,decide_false,Bool.toNat_false,Nat.zero_mul]
  rfl
theorem Zwi {b:Nat} (hb:b < 18446744073709551616):bXor .u64 IntKind.u64.max (b:Int)=18446744073709551615 - b:=by
 have h1:(BitVec.ofInt 64 18446744073709551615 ^^^ BitVec.ofInt 64 (b:Int)).toNat=18446744073709551615 - b:=by
  have e1:BitVec.ofInt 64 18446744073709551615=BitVec.allOnes 64:=by decide
  rw [e1,BitVec.allOnes_xor,BitVec.toNat_not]
  have e2:(BitVec.ofInt 64 (b:Int)).toNat=b:=by
   rw [show BitVec.ofInt 64 (b:Int)=BitVec.ofNat 64 b from rfl]
   simp;omega
  rw [e2]
 unfold bXor
 show IntKind.wrap .u64 ((BitVec.ofInt 64 18446744073709551615 ^^^ BitVec.ofInt 64 (b:Int)).toNat:Int)=_
 rw [h1]
 simp [IntKind.wrap,IntKind.signed,IntKind.bits]
 omega
theorem Zxg {b:Nat} (hb:b < 9223372036854775808):bOr .u64 (b:Int) 9223372036854775808=b + 9223372036854775808:=by
 have h1:(BitVec.ofInt 64 (b:Int) ||| BitVec.ofInt 64 9223372036854775808).toNat=b + 9223372036854775808:=by
  rw [BitVec.toNat_or]
  have e1:(BitVec.ofInt 64 (b:Int)).toNat=b:=by
   rw [show BitVec.ofInt 64 (b:Int)=BitVec.ofNat 64 b from rfl]
   simp;omega
  rw [e1,show (BitVec.ofInt 64 9223372036854775808).toNat=2 ^ 63 * 1 from rfl,Nat.or_comm]
  rw [← Nat.two_pow_add_eq_or_of_lt (by simpa using hb)]
  omega
 unfold bOr
 show IntKind.wrap .u64 ((BitVec.ofInt 64 (b:Int) ||| BitVec.ofInt 64 9223372036854775808).toNat:Int)=_
 rw [h1]
 simp [IntKind.wrap,IntKind.signed,IntKind.bits]
 omega
theorem Zlx {b:Nat} (hb:b < 18446744073709551616):Zbn b < 18446744073709551616:=by
 unfold Zbn NANB;split <;> omega
theorem Zmg {b:Nat} (hb:b < 18446744073709551616):Zhb b=some (keyf b):=by
 unfold Zhb
 rw [Zgg hb]
 simp only [Option.bind_some]
 rw [Zvz (Zlx hb)]
 unfold keyf Zbn
 by_cases h:isn b
 ·simp only [h,if_true]
  rfl
 ·simp only [h,if_false]
  by_cases ht:TOP ≤ b
  ·simp only [ht,decide_true,if_true]
   rw [Zwi hb]
  ·simp only [ht,decide_false,if_false,Bool.false_eq_true]
   rw [Zxg (by unfold TOP at ht;omega)]
theorem Zir {a b:Nat} (ha:a < 18446744073709551616) (hb:b < 18446744073709551616):Zfd a b=some (decide (keyf a=keyf b)):=by
 unfold Zfd
 rw [Zmg ha,Zmg hb]
 simp [BEq.beq]
theorem Zm3 {a b:Nat} (ha:a < 18446744073709551616) (hb:b < 18446744073709551616):Zg4 a b=some (decide (keyf a < keyf b)):=by
 unfold Zg4
 rw [Zmg ha,Zmg hb]
 simp
theorem Zkf {a:Nat} (ha:a < 18446744073709551616):Zfy a=some (decide (a=Zbn a)):=by
 unfold Zfy
 rw [Zgg ha]
 congr 1
 by_cases h:a=Zbn a
 ·simp [← h]
 ·have:(a:Int) ≠ (Zbn a:Int):=by omega
  simp [h,this]
theorem Zqg {a b:Nat} (ha:a < 18446744073709551616) (hb:b < 18446744073709551616) (na:¬ isn a) (nb:¬ isn b):keyf a < keyf b ↔ (sg a < sg b ∨ (a=TOP ∧ b=0)):=by
 unfold keyf
 rw [if_neg na,if_neg nb]
 unfold sg isn rg INF TOP at *
 split <;> split <;> omega
theorem Zqk {a b:Nat} (ha:a < 18446744073709551616) (hb:b < 18446744073709551616) (na:¬ isn a) (nb:¬ isn b):feql a b=decide (sg a=sg b):=by
 unfold feql
 show (Ieee.double.order a b == some .eq)=_
 obtain ⟨o,ho,_,he⟩:=Zj0 ha hb na nb
 rw [ho]
 by_cases h:sg a=sg b
 ·rw [he.2 h];simp [h]
 ·have:o ≠ .eq:=fun h'=>h (he.1 h')
  simp [h,this]
theorem Zwr {a b:Nat} (ha:a < 18446744073709551616) (hb:b < 18446744073709551616) (na:¬ isn a) (nb:¬ isn b):flss a b=decide (sg a < sg b):=by
 unfold flss
 show (Ieee.double.order a b == some .lt)=_
 obtain ⟨o,ho,hl,_⟩:=Zj0 ha hb na nb
 rw [ho]
 by_cases h:sg a < sg b
 ·rw [hl.2 h];simp [h]
 ·have:o ≠ .lt:=fun h'=>h (hl.1 h')
  simp [h,this]
theorem Zx7:Zdl 0=some false:=by kernel_rfl
theorem Zxo:Zdl TOP=some true:=by kernel_rfl
theorem nan0:¬ isn 0:=by decide
theorem Zqm {a:Nat} (ha:a < 18446744073709551616):sg a=sg 0 ↔ a=0 ∨ a=TOP:=by
 unfold sg TOP
 split <;> simp <;> omega
theorem Zj1 {a:Nat} (ha:a < 18446744073709551616):Zcq a=some (decide (isn a)):=by
 unfold Zcq;rw [Zni ha]
theorem Zit {a b:Nat} (ha:a < 18446744073709551616) (hb:b < 18446744073709551616):Zci a b=some (decide (keyf a < keyf b)):=by
 unfold Zci
 rw [Zj1 ha,Zj1 hb]
 simp only [Option.bind_some]
 have kb:∀ x,x < 18446744073709551616 → ¬ isn x → keyf x < 18444492273895866369:=by
  intro x hx nx
  unfold keyf
  rw [if_neg nx]
  unfold isn rg INF TOP at *
  split <;> omega
 have kn:∀ x,isn x → keyf x=18444492273895866369:=fun x h=>by unfold keyf;rw [if_pos h]
 by_cases na:isn a
 ·simp only [na,decide_true,if_true]
  by_cases nb:isn b
  ·rw [kn a na,kn b nb];simp
  ·have:=kb b hb nb
   rw [kn a na];simp;omega
 ·simp only [na,decide_false,Bool.false_eq_true,if_false]
  by_cases nb:isn b
  ·have:=kb a ha na
   rw [kn b nb];simp [nb,this]
  ·simp only [nb,decide_false,Bool.false_eq_true,if_false]
   rw [Zqk ha (by decide) na nan0,Zqk hb (by decide) nb nan0,Zwr ha hb na nb]
   by_cases hz:sg a=sg 0 ∧ sg b=sg 0
   ·rw [if_pos (by simp [hz])]
    have hk:=Zqg ha hb na nb
    have h0T:(0:Nat) ≠ TOP:=by decide
    rcases (Zqm ha).1 hz.1 with rfl | rfl <;> rcases (Zqm hb).1 hz.2 with rfl | rfl <;> simp only [Zx7,Zxo,gd,Option.bind_some,if_true,if_false,Bool.false_eq_true,Option.some.injEq] <;> decide
   ·rw [if_neg (by simpa using hz)]
    have hk:=Zqg ha hb na nb
    congr 1
    apply decide_eq_decide.2
    rw [hk]
    constructor
    ·intro h;exact .inl h
    ·rintro (h | ⟨rfl,rfl⟩)
     ·exact h
     ·exact absurd ⟨rfl,rfl⟩ hz
theorem Zh2 {a b:Nat} (ha:a < 18446744073709551616) (hb:b < 18446744073709551616):Zb4 a b=some (decide (keyf a=keyf b)):=by
 unfold Zb4
 rw [Zit ha hb,Zit hb ha]
 simp only [Option.bind_some,gd]
 by_cases h1:keyf a < keyf b
 ·have:keyf a ≠ keyf b:=by omega
  simp [h1,this]
 ·by_cases h2:keyf b < keyf a
  ·have:keyf a ≠ keyf b:=by omega
   simp [h1,h2,this]
  ·have:keyf a=keyf b:=by omega
   simp [this]
theorem Zkb {a:Nat} (ha:a < 18446744073709551616):Zd3 a=some (decide (a=Zbn a)):=by
 unfold Zd3
 rw [Zj1 ha]
 unfold Zbn NANB
 by_cases h:isn a
 ·by_cases h2:a=9221120237041090561
  ·simp [h,h2]
  ·have:(a:Int) ≠ 9221120237041090561:=by omega
   simp [h,h2,this]
 ·simp [h]
theorem wr {x:Int} (h1:-9223372036854775808 ≤ x) (h2:x ≤ 9223372036854775807):IntKind.i64.wrap x=x:=by
 rw [IntKind.wrap_i64];omega
theorem wr1 {i:Nat} (h:i < 9223372036854775807):IntKind.i64.wrap ((i:Int) + 1)=((i + 1:Nat):Int):=by
 rw [wr (by omega) (by omega)];omega
theorem Zy5 (n:Int):IntKind.u64.wrap n=n % 18446744073709551616:=by simp [IntKind.wrap,IntKind.bits,IntKind.signed]
theorem wru {x:Int} (h1:0 ≤ x) (h2:x < 18446744073709551616):IntKind.u64.wrap x=x:=by rw [Zy5];omega
theorem wrm {i:Nat} (h:i < 9223372036854775807) (h0:0 < i):IntKind.i64.wrap ((i:Int) - 1)=((i - 1:Nat):Int):=by
 rw [wr (by omega) (by omega)];omega
theorem idxn {α:Type} (xs:List α) (i:Nat):idx xs (i:Int)=xs[i]?:=by
 unfold idx
 rw [if_pos (by omega)]
 simp
theorem Zc9 {α:Type} {xs:List α} {i:Nat} (h:i < xs.length):idx xs (i:Int)=some xs[i]:=by
 rw [idxn,List.getElem?_eq_getElem h]
theorem gd_t {β:Type} [Inhabited β] (x:Option β):gd true x=x:=rfl
theorem gd_f {β:Type} [Inhabited β] (x:Option β):gd false x=some default:=rfl
theorem Zl9 {a b:ByteArray} (h:a.toList=b.toList):a=b:=by
 rw [_root_.Go.ByteArray.toList_eq,_root_.Go.ByteArray.toList_eq] at h
 exact ByteArray.ext (Array.toList_inj.1 h)
theorem Zip {a b:ByteArray}:sEq a b=true ↔ a=b:=by
 unfold sEq
 constructor
 ·intro h;exact Zl9 (by simpa using h)
 ·rintro rfl;simp
theorem Zjv (a:ByteArray):sEq a a=true:=Zip.2 rfl
theorem Zi1 {a b:ByteArray}:sEq a b=false ↔ a ≠ b:=by
 cases h:sEq a b
 ·simp;intro e;rw [Zip.2 e] at h;cases h
 ·simp;exact Zip.1 h
theorem Zr7:∀ l:List UInt8,Op.bytesLess l l=false
 | []=>rfl
 | x :: l=>by simp [Op.bytesLess,Zr7 l]
theorem Zpi:∀ {a b c:List UInt8},Op.bytesLess a b=true → Op.bytesLess b c=true → Op.bytesLess a c=true
 | [],[],c,h,_=>by simp [Op.bytesLess] at h
 | [],y :: b,[],_,k=>by simp [Op.bytesLess] at k
 | [],y :: b,z :: c,_,_=>rfl
 | x :: a,[],c,h,_=>by simp [Op.bytesLess] at h
 | x :: a,y :: b,[],_,k=>by simp [Op.bytesLess] at k
 | x :: a,y :: b,z :: c,h,k=>by
  simp only [Op.bytesLess,Bool.or_eq_true,Bool.and_eq_true,decide_eq_true_eq,beq_iff_eq] at h k ⊢
  rcases h with h | ⟨h1,h2⟩ <;> rcases k with k | ⟨k1,k2⟩
  ·exact .inl (UInt8.lt_trans h k)
  ·subst k1;exact .inl h
  ·subst h1;exact .inl k
  ·subst h1;subst k1;exact .inr ⟨rfl,Zpi h2 k2⟩
theorem Zsh:∀ (a b:List UInt8),Op.bytesLess a b=false → a ≠ b → Op.bytesLess b a=true
 | [],[],_,h=>absurd rfl h
 | [],y :: b,h,_=>by simp [Op.bytesLess] at h
 | x :: a,[],_,_=>rfl
 | x :: a,y :: b,h,hn=>by
  simp only [Op.bytesLess,Bool.or_eq_false_iff,decide_eq_false_iff_not,Bool.and_eq_false_iff] at h
  simp only [Op.bytesLess,Bool.or_eq_true,Bool.and_eq_true,decide_eq_true_eq,beq_iff_eq]
  by_cases e:x=y
  ·subst e
   right
   refine ⟨rfl,Zsh a b ?_ (fun h'=>hn (by rw [h']))⟩
   rcases h.2 with h | h
   ·simp at h
   ·exact h
  ·left
   rcases UInt8.lt_or_lt_of_ne e with h' | h'
   ·exact absurd h' h.1
   ·exact h'
theorem Zqj (a:ByteArray):sLt a a=false:=Zr7 _
theorem Znv {a b c:ByteArray} (h:sLt a b=true) (k:sLt b c=true):sLt a c=true:=Zpi h k
theorem Zwq {a b:ByteArray} (h:sLt a b=false) (hn:a ≠ b):sLt b a=true:=Zsh _ _ h (fun e=>hn (Zl9 e))
theorem Zsr {a b:ByteArray} (h:sLt a b=true):a ≠ b:=fun e=>by subst e;rw [Zqj] at h;cases h
abbrev W64:Nat:=18446744073709551616
structure Zfj (a:Za):Prop where
 real:a.Real < W64
 len:a.List.length < 4611686018427387904
 sc:∀ e ∈ a.List,e.Score < W64
def Zdu (a b:Zc):Bool:=if keyf a.Score=keyf b.Score then sLt a.Name b.Name else decide (keyf b.Score < keyf a.Score)
theorem Zk4 {a b:Zc} (ha:a.Score < W64) (hb:b.Score < W64):Zfv a b=some (Zdu a b):=by
 unfold Zfv Zdu
 rw [Zir ha hb,Zm3 hb ha]
 by_cases h:keyf a.Score=keyf b.Score <;> simp [h]
theorem Zo4 {a b:Zc} (ha:a.Score < W64) (hb:b.Score < W64):Zeg a b=some (Zdu a b):=by
 unfold Zeg Zdu
 rw [Zit hb ha,Zh2 ha hb]
 by_cases h:keyf a.Score=keyf b.Score
 ·simp [h]
 ·by_cases h2:keyf b.Score < keyf a.Score <;> simp [h,h2]
theorem Zqd {a:Nat} (ha:a < W64):Zft a=some (decide (keyf a=keyf 0)):=by
 unfold Zft
 rw [Zh2 ha (by decide)]
 rfl
def Zfc (k:Int) (l:List Zc) (i:Nat):Int :=
 match l[i]? with
 | none=>0
 | some x =>
  let p:=(l[i - 1]?).getD default
  if (16:Int) < x.Name.size then 3
  else if (k=8 ∧ keyf x.Score ≠ keyf 0) ∨ x.Score ≠ Zbn x.Score then 4
  else if 0 < i ∧ k=8 ∧ sLt p.Name x.Name=false then 4
  else if 0 < i ∧ k=9 ∧ Zdu p x=false then 4
  else 0
theorem Zte {k:Int} {l:List Zc} {i n:Nat} (hi:i < l.length) (hl:l.length < 4611686018427387904) (hs:∀ e ∈ l,e.Score < W64) :
  Zc4 k l (n + 1) (i:Int)=if Zfc k l i=0 then Zc4 k l n ((i + 1:Nat):Int) else some (.inl (Zfc k l i)):=by
 have hx:l[i].Score < W64:=hs _ (List.getElem_mem hi)
 rw [Zc4,if_pos (by simp;omega),Zc9 hi,wr1 (by omega)]
 simp only [Option.bind_some]
 rw [Zir hx (by decide),Zkf hx]
 simp only [Zfc,List.getElem?_eq_getElem hi]
 by_cases h1:(16:Int) < l[i].Name.size
 ·simp [h1]
 ·simp only [h1,decide_false,if_false,Bool.false_eq_true]
  have hz:((0:Nat):Int)=0:=rfl
  by_cases h0:0 < i
  ·have hp:i - 1 < l.length:=by omega
   have hps:l[i - 1].Score < W64:=hs _ (List.getElem_mem hp)
   have hd:(decide ((0:Int) < (i:Int)))=true:=by simp;omega
   rw [hd,wrm (by omega) h0,Zc9 hp]
   simp only [List.getElem?_eq_getElem hp,Option.getD_some,h0,true_and,Bool.true_and]
   by_cases h8:k=8
   ·subst h8
    simp only [beq_self_eq_true,gd_t,Option.bind_some,true_and,Bool.true_and]
    by_cases hk:keyf l[i].Score=keyf 0
    ·by_cases hc:l[i].Score=Zbn l[i].Score
     ·simp [hk,← hc,gd]
      cases sLt l[i - 1].Name l[i].Name <;> simp
     ·simp [hk,hc,gd]
    ·simp [hk,gd]
   ·have h8':(k == 8)=false:=by simpa using h8
    simp only [h8',h8,gd_f,gd_t,Option.bind_some,false_and,false_or,Bool.false_and,Bool.not_false,Bool.false_or]
    by_cases hc:l[i].Score=Zbn l[i].Score
    ·by_cases h9:k=9
     ·subst h9
      simp [← hc,gd,Zk4 hps hx]
      cases Zdu l[i - 1] l[i] <;> simp
     ·simp [← hc,gd,h9]
    ·simp [hc]
  ·have h00:i=0:=by omega
   subst h00
   simp only [Nat.lt_irrefl,false_and,if_false,Int.ofNat_zero,Int.lt_irrefl,decide_false,Bool.false_and,gd_f,Option.bind_some,Int.natCast_zero]
   by_cases h8:k=8
   ·subst h8
    simp only [beq_self_eq_true,gd_t,Option.bind_some,true_and,Bool.true_and]
    by_cases hk:keyf l[0].Score=keyf 0
    ·by_cases hc:l[0].Score=Zbn l[0].Score
     ·simp [hk,← hc,gd]
     ·simp [hk,hc,gd]
    ·simp [hk,gd]
   ·have h8':(k == 8)=false:=by simpa using h8
    simp only [h8',h8,gd_f,gd_t,Option.bind_some,false_and,false_or,Bool.false_and,Bool.not_false,Bool.false_or]
    by_cases hc:l[0].Score=Zbn l[0].Score
    ·simp [← hc,gd]
    ·simp [hc]
theorem Zul {k:Int} {l:List Zc} {i:Nat} (hi:i < l.length) (hl:l.length < 4611686018427387904) (hs:∀ e ∈ l,e.Score < W64):Zg5 k l (i:Int)=some (Zfc k l i):=by
 have hx:l[i].Score < W64:=hs _ (List.getElem_mem hi)
 unfold Zg5
 rw [Zc9 hi]
 simp only [Option.bind_some]
 rw [Zqd hx,Zkb hx]
 simp only [Zfc,List.getElem?_eq_getElem hi]
 by_cases h1:(16:Int) < l[i].Name.size
 ·simp [h1]
 ·simp only [h1,decide_false,if_false,Bool.false_eq_true]
  by_cases h0:0 < i
  ·have hp:i - 1 < l.length:=by omega
   have hps:l[i - 1].Score < W64:=hs _ (List.getElem_mem hp)
   have hd:(decide ((0:Int) < (i:Int)))=true:=by simp;omega
   rw [hd,wrm (by omega) h0,Zc9 hp]
   simp only [List.getElem?_eq_getElem hp,Option.getD_some,h0,true_and,Bool.true_and]
   by_cases h8:k=8
   ·subst h8
    simp only [beq_self_eq_true,gd_t,Option.bind_some,true_and,Bool.true_and]
    by_cases hk:keyf l[i].Score=keyf 0
    ·by_cases hc:l[i].Score=Zbn l[i].Score
     ·simp [hk,← hc,gd]
      cases sLt l[i - 1].Name l[i].Name <;> simp
     ·simp [hk,hc,gd]
    ·simp [hk,gd]
   ·have h8':(k == 8)=false:=by simpa using h8
    simp only [h8',h8,gd_f,gd_t,Option.bind_some,false_and,false_or,Bool.false_and,Bool.not_false,Bool.false_or]
    by_cases hc:l[i].Score=Zbn l[i].Score
    ·by_cases h9:k=9
     ·subst h9
      simp [← hc,gd,Zo4 hps hx]
      cases Zdu l[i - 1] l[i] <;> simp
     ·simp [← hc,gd,h9]
    ·simp [hc]
  ·have h00:i=0:=by omega
   subst h00
   simp only [Nat.lt_irrefl,false_and,if_false,Int.ofNat_zero,Int.lt_irrefl,decide_false,Bool.false_and,gd_f,Option.bind_some,Int.natCast_zero]
   by_cases h8:k=8
   ·subst h8
    simp only [beq_self_eq_true,gd_t,Option.bind_some,true_and,Bool.true_and]
    by_cases hk:keyf l[0].Score=keyf 0
    ·by_cases hc:l[0].Score=Zbn l[0].Score
     ·simp [hk,← hc,gd]
     ·simp [hk,hc,gd]
    ·simp [hk,gd]
   ·have h8':(k == 8)=false:=by simpa using h8
    simp only [h8',h8,gd_f,gd_t,Option.bind_some,false_and,false_or,Bool.false_and,Bool.not_false,Bool.false_or]
    by_cases hc:l[0].Score=Zbn l[0].Score
    ·simp [← hc,gd]
    ·simp [hc]
def Ze5 (k:Int) (l:List Zc):Nat → Nat → Int
 | _,0=>0
 | i,n + 1=>if Zfc k l i=0 then Ze5 k l (i + 1) n else Zfc k l i
def endC (c:Int):Int ⊕ Unit:=if c=0 then .inr () else .inl c
theorem Zlz {k:Int} {l:List Zc} {i n:Nat} (h:Zfc k l i=0):Ze5 k l i (n + 1)=Ze5 k l (i + 1) n:=by simp [Ze5,h]
theorem Zl5 {k:Int} {l:List Zc} {i n:Nat} (h:¬ Zfc k l i=0):Ze5 k l i (n + 1)=Zfc k l i:=by simp [Ze5,h]
theorem Zs5 {c:Int} (h:¬ c=0):endC c=.inl c:=if_neg h
theorem Zmh {k:Int} {l:List Zc} (hl:l.length < 4611686018427387904) (hs:∀ e ∈ l,e.Score < W64):∀ (n i:Nat),i + n=l.length →
  Zc4 k l (n + 1) (i:Int)=some (endC (Ze5 k l i n))
 | 0,i,h=>by
  rw [Zc4,if_neg (by simp;omega)]
  rfl
 | n + 1,i,h=>by
  rw [Zte (by omega) hl hs]
  by_cases hc:Zfc k l i=0
  ·rw [if_pos hc,Zlz hc,Zmh hl hs n (i + 1) (by omega)]
  ·rw [if_neg hc,Zl5 hc,Zs5 hc]
theorem Zup {k:Int} {l:List Zc} (hl:l.length < 4611686018427387904) (hs:∀ e ∈ l,e.Score < W64):Zif k l=some (Ze5 k l 0 l.length):=by
 unfold Zif
 rw [show (Int.toNat ((l.length:Int) - (0:Int)) + 1)=l.length + 1 by omega,show (0:Int)=((0:Nat):Int) from rfl,Zmh hl hs l.length 0 (by omega)]
 unfold endC
 by_cases h:Ze5 k l 0 l.length=0 <;> simp [h]
theorem Zlv {a:Za} (ha:Zfj a):∀ (n i:Nat),i + n=a.List.length →
  Zdf a (n + 1) (i:Int)=some (endC (Ze5 a.Kind a.List i n))
 | 0,i,h=>by
  rw [Zdf,if_neg (by simp;omega)]
  rfl
 | n + 1,i,h=>by
  have hl:=ha.len
  rw [Zdf,if_pos (by simp;omega),Zul (by omega) hl ha.sc,wr1 (by omega)]
  simp only [Option.bind_some]
  by_cases hc:Zfc a.Kind a.List i=0
  ·rw [if_neg (by simp [hc]),Zlz hc,Zlv ha n (i + 1) (by omega)]
  ·rw [if_pos (by simp [hc]),Zl5 hc,Zs5 hc]
def Zfh (t n b r l:Bool) (a:Za):Bool:=(t || sEq a.Text ⟨#[]⟩) && (n || a.Num == 0) && (b || (a.Low == 0 && a.High == 0)) && (r || decide (keyf a.Real=keyf 0)) && (l || (a.Cap == 0 && (a.List.length:Int) == 0))
theorem Zvt {a:Za} (ha:Zfj a) (t n b r l:Bool):Ziz a ⟨t,n,b,r,l⟩=some (Zfh t n b r l a):=by
 unfold Ziz Zfh
 rw [Zir ha.real (by decide)]
 simp only
 generalize sEq a.Text ⟨#[]⟩=x1
 generalize (a.Num == 0)=x2
 generalize (a.Low == 0)=x3
 generalize (a.High == 0)=x4
 generalize decide (keyf a.Real=keyf 0)=x5
 generalize (a.Cap == 0)=x6
 generalize ((a.List.length:Int) == 0)=x7
 revert t n b r l x1 x2 x3 x4 x5 x6 x7
 decide
theorem Zwn {a:Za} (ha:Zfj a) {s:ByteArray} {t n b r l:Bool} (h:Zb5 s (Int.toNat ((s.size:Int) - (0:Int)) + 1) false false false false false 0=some (t,n,b,r,l)):Zg7 a s=some (Zfh t n b r l a):=by
 unfold Zg7 Zfh
 rw [h,Zqd ha.real]
 simp only [Option.bind_some,bne]
 generalize sEq a.Text ⟨#[]⟩=x1
 generalize (a.Num == 0)=x2
 generalize (a.Low == 0)=x3
 generalize (a.High == 0)=x4
 generalize decide (keyf a.Real=keyf 0)=x5
 generalize (a.Cap == 0)=x6
 generalize ((a.List.length:Int) == 0)=x7
 clear h
 revert t n b r l x1 x2 x3 x4 x5 x6 x7
 decide
theorem Zyk:Zb5 ⟨#[116]⟩ (Int.toNat (((⟨#[116]⟩:ByteArray).size:Int) - (0:Int)) + 1) false false false false false 0=some (true,false,false,false,false):=by kernel_rfl
theorem Zuw:Zb5 ⟨#[110]⟩ (Int.toNat (((⟨#[110]⟩:ByteArray).size:Int) - (0:Int)) + 1) false false false false false 0=some (false,true,false,false,false):=by kernel_rfl
theorem Zw7:Zb5 ⟨#[110,98]⟩ (Int.toNat (((⟨#[110,98]⟩:ByteArray).size:Int) - (0:Int)) + 1) false false false false false 0=some (false,true,true,false,false):=by kernel_rfl
theorem Zq6:Zb5 ⟨#[114]⟩ (Int.toNat (((⟨#[114]⟩:ByteArray).size:Int) - (0:Int)) + 1) false false false false false 0=some (false,false,false,true,false):=by kernel_rfl
theorem Zu5:Zb5 ⟨#[108]⟩ (Int.toNat (((⟨#[108]⟩:ByteArray).size:Int) - (0:Int)) + 1) false false false false false 0=some (false,false,false,false,true):=by kernel_rfl
def Zjn (t n b r l:Bool) (a:Za):Int :=
 if Zfh t n b r l a=false then 4
 else if (64:Int) < a.Text.size then 3
 else if b=true ∧ (a.Low < -2305843009213693952 ∨ 2305843009213693952 < a.High ∨ a.Num < a.Low ∨ a.High < a.Num) then 1
 else if a.Real ≠ Zbn a.Real then 4
 else if l=false then 0
 else if a.Cap < 1 ∨ 32 < a.Cap then 1
 else if a.Cap < a.List.length then 8
 else Ze5 a.Kind a.List 0 a.List.length
theorem Zdd {a:Za} (ha:Zfj a) {t n b r l:Bool} (hk:¬ (a.Kind ≤ 0 ∨ 10 ≤ a.Kind)) (hs:Zcc a.Kind=some ⟨t,n,b,r,l⟩):Zcs a=some (Zjn t n b r l a):=by
 unfold Zcs Zjn
 rw [hs]
 simp only [Option.bind_some]
 rw [Zvt ha,Zkf ha.real,Zup ha.len ha.sc]
 simp only [Option.bind_some]
 rw [if_neg (by simpa using hk)]
 by_cases h1:Zfh t n b r l a=false
 ·rw [if_pos h1,if_pos (by simp [h1])]
 ·rw [if_neg h1,if_neg (by simpa using h1)]
  by_cases h2:(64:Int) < a.Text.size
  ·rw [if_pos h2,if_pos (by simpa using h2)]
  ·rw [if_neg h2,if_neg (by simpa using h2)]
   by_cases h3:b=true ∧ (a.Low < -2305843009213693952 ∨ 2305843009213693952 < a.High ∨ a.Num < a.Low ∨ a.High < a.Num)
   ·rw [if_pos h3,if_pos (by simpa [or_assoc] using h3)]
   ·rw [if_neg h3,if_neg (by simpa [or_assoc] using h3)]
    by_cases h4:a.Real=Zbn a.Real
    ·rw [if_neg (show ¬ (a.Real ≠ Zbn a.Real) from fun h=>h h4),decide_eq_true h4]
     simp only [Bool.not_true,Bool.false_eq_true,if_false]
     cases l
     ·simp
     ·simp only [Bool.not_true,Bool.false_eq_true,if_false,Bool.true_eq_false]
      by_cases h5:a.Cap < 1 ∨ 32 < a.Cap
      ·rw [if_pos h5,if_pos (by simpa using h5)]
      ·rw [if_neg h5,if_neg (by simpa using h5)]
       by_cases h6:a.Cap < a.List.length
       ·rw [if_pos h6,if_pos (by simpa using h6)]
       ·rw [if_neg h6,if_neg (by simpa using h6)]
    ·rw [if_pos (show a.Real ≠ Zbn a.Real from h4),decide_eq_false h4]
     rfl
theorem Zsb:Zcc 1=some ⟨true,false,false,false,false⟩:=by kernel_rfl
theorem Zr4:Zcc 2=some ⟨false,true,false,false,false⟩:=by kernel_rfl
theorem Zsk:Zcc 3=some ⟨false,true,false,false,false⟩:=by kernel_rfl
theorem Zti:Zcc 4=some ⟨false,true,true,false,false⟩:=by kernel_rfl
theorem Zss:Zcc 5=some ⟨false,false,false,true,false⟩:=by kernel_rfl
theorem Zsg:Zcc 6=some ⟨false,false,false,true,false⟩:=by kernel_rfl
theorem Zsf:Zcc 7=some ⟨false,false,false,true,false⟩:=by kernel_rfl
theorem Zs4:Zcc 8=some ⟨false,false,false,false,true⟩:=by kernel_rfl
theorem Zsy:Zcc 9=some ⟨false,false,false,false,true⟩:=by kernel_rfl
def Zk9 (t n b r l:Bool) (k:Int) (a:Za):Int :=
 if Zfh t n b r l a=false then 4
 else if k=1 ∧ (64:Int) < a.Text.size then 3
 else if k=4 ∧ (a.Low < -2305843009213693952 ∨ 2305843009213693952 < a.High ∨ a.Num < a.Low ∨ a.High < a.Num) then 1
 else if a.Real ≠ Zbn a.Real then 4
 else if k < 8 then 0
 else if a.Cap < 1 ∨ 32 < a.Cap then 1
 else if a.Cap < a.List.length then 8
 else Ze5 a.Kind a.List 0 a.List.length
theorem Zdi {a:Za} (ha:Zfj a) {t n b r l:Bool} {s:ByteArray} (hk:¬ (a.Kind < 1 ∨ 9 < a.Kind)) (hf:Zia a.Kind=some s)
  (ho:Zb5 s (Int.toNat ((s.size:Int) - (0:Int)) + 1) false false false false false 0=some (t,n,b,r,l)):Zcz a=some (Zk9 t n b r l a.Kind a):=by
 unfold Zcz Zk9
 have hw:IntKind.i64.wrap (0 - (2305843009213693952:Int))=-2305843009213693952:=by decide
 rw [hf,Zkb ha.real,hw,show (Int.toNat ((a.List.length:Int) - (0:Int)) + 1)=a.List.length + 1 by omega]
 have hloop:=Zlv ha a.List.length 0 (by omega)
 rw [show ((0:Nat):Int)=0 from rfl] at hloop
 rw [hloop]
 simp only [Option.bind_some]
 rw [if_neg (by simpa using hk),Zwn ha ho]
 simp only [Option.bind_some]
 by_cases h1:Zfh t n b r l a=false
 ·rw [if_pos h1,if_pos (by simp [h1])]
 ·rw [if_neg h1,if_neg (by simpa using h1)]
  by_cases h2:a.Kind=1 ∧ (64:Int) < a.Text.size
  ·rw [if_pos h2,if_pos (by simpa using h2)]
  ·rw [if_neg h2,if_neg (by simpa using h2)]
   by_cases h3:a.Kind=4 ∧ (a.Low < -2305843009213693952 ∨ 2305843009213693952 < a.High ∨ a.Num < a.Low ∨ a.High < a.Num)
   ·rw [if_pos h3,if_pos (by simpa [or_assoc] using h3)]
   ·rw [if_neg h3,if_neg (by simpa [or_assoc] using h3)]
    by_cases h4:a.Real=Zbn a.Real
    ·rw [if_neg (show ¬ (a.Real ≠ Zbn a.Real) from fun h=>h h4),decide_eq_true h4]
     simp only [Bool.not_true,Bool.false_eq_true,if_false]
     by_cases h7:a.Kind < 8
     ·rw [if_pos h7,if_pos (by simpa using h7)]
     ·rw [if_neg h7,if_neg (by simpa using h7)]
      by_cases h5:a.Cap < 1 ∨ 32 < a.Cap
      ·rw [if_pos h5,if_pos (by simpa using h5)]
      ·rw [if_neg h5,if_neg (by simpa using h5)]
       by_cases h6:a.Cap < a.List.length
       ·rw [if_pos h6,if_pos (by simpa using h6)]
       ·rw [if_neg h6,if_neg (by simpa using h6)]
        unfold endC
        by_cases h:Ze5 a.Kind a.List 0 a.List.length=0 <;> simp [h]
    ·rw [if_pos (show a.Real ≠ Zbn a.Real from h4),decide_eq_false h4]
     rfl
theorem Zwd {t n b r l:Bool} {a:Za} (h:¬ Zfh t n b r l a=false) (ht:t=false):a.Text.size=0:=by
 subst ht
 have:Zfh false n b r l a=true:=by simpa using h
 unfold Zfh at this
 simp only [Bool.false_or,Bool.and_eq_true] at this
 have:=Zip.1 this.1.1.1.1
 rw [this];rfl
theorem D_eq (t n b r l:Bool) (k:Int) (a:Za) (ht:t=true ↔ k=1) (hb:b=true ↔ k=4) (hl:l=false ↔ k < 8):Zk9 t n b r l k a=Zjn t n b r l a:=by
 unfold Zk9 Zjn
 by_cases h1:Zfh t n b r l a=false
 ·rw [if_pos h1,if_pos h1]
 ·rw [if_neg h1,if_neg h1]
  have e2:(k=1 ∧ (64:Int) < a.Text.size) ↔ (64:Int) < a.Text.size:=by
   constructor
   ·exact fun h=>h.2
   ·intro h
    refine ⟨ht.1 ?_,h⟩
    cases t
    ·have:=Zwd h1 rfl;omega
    ·rfl
  simp only [e2,hb,hl]
theorem Zjw {a:Za} (ha:Zfj a):∃ c,Zcs a=some c ∧ Zcz a=some c:=by
 by_cases hk:a.Kind ≤ 0 ∨ 10 ≤ a.Kind
 ·refine ⟨5,?_,?_⟩
  ·unfold Zcs
   have hs:∃ s,Zcc a.Kind=some s:=by
    have h1:¬ a.Kind=1:=by omega
    have h2:¬ a.Kind=2:=by omega
    have h3:¬ a.Kind=3:=by omega
    have h4:¬ a.Kind=4:=by omega
    have h5:¬ a.Kind=5:=by omega
    have h6:¬ a.Kind=6:=by omega
    have h7:¬ a.Kind=7:=by omega
    have h8:¬ a.Kind=8:=by omega
    have h9:¬ a.Kind=9:=by omega
    exact ⟨⟨false,false,false,false,false⟩,by simp [Zcc,Zf0,Zew,Zf1,h1,h2,h3,h4,h5,h6,h7,h8,h9]⟩
   obtain ⟨s,hs⟩:=hs
   rw [hs]
   simp only [Option.bind_some]
   rw [if_pos (by simpa using hk)]
  ·unfold Zcz
   rw [if_pos (by simp;omega)]
 ·have hk2:¬ (a.Kind < 1 ∨ 9 < a.Kind):=by omega
  have hk':a.Kind=1 ∨ a.Kind=2 ∨ a.Kind=3 ∨ a.Kind=4 ∨ a.Kind=5 ∨ a.Kind=6 ∨ a.Kind=7 ∨ a.Kind=8 ∨ a.Kind=9:=by omega
  rcases hk' with h | h | h | h | h | h | h | h | h
  ·exact ⟨_,Zdd ha hk (by rw [h];exact Zsb),by rw [Zdi ha hk2 (by rw [h];kernel_rfl) Zyk,D_eq _ _ _ _ _ _ _ (by simp [h]) (by simp [h]) (by simp [h])]⟩
  ·exact ⟨_,Zdd ha hk (by rw [h];exact Zr4),by rw [Zdi ha hk2 (by rw [h];kernel_rfl) Zuw,D_eq _ _ _ _ _ _ _ (by simp [h]) (by simp [h]) (by simp [h])]⟩
  ·exact ⟨_,Zdd ha hk (by rw [h];exact Zsk),by rw [Zdi ha hk2 (by rw [h];kernel_rfl) Zuw,D_eq _ _ _ _ _ _ _ (by simp [h]) (by simp [h]) (by simp [h])]⟩
  ·exact ⟨_,Zdd ha hk (by rw [h];exact Zti),by rw [Zdi ha hk2 (by rw [h];kernel_rfl) Zw7,D_eq _ _ _ _ _ _ _ (by simp [h]) (by simp [h]) (by simp [h])]⟩
  ·exact ⟨_,Zdd ha hk (by rw [h];exact Zss),by rw [Zdi ha hk2 (by rw [h];kernel_rfl) Zq6,D_eq _ _ _ _ _ _ _ (by simp [h]) (by simp [h]) (by simp [h])]⟩
  ·exact ⟨_,Zdd ha hk (by rw [h];exact Zsg),by rw [Zdi ha hk2 (by rw [h];kernel_rfl) Zq6,D_eq _ _ _ _ _ _ _ (by simp [h]) (by simp [h]) (by simp [h])]⟩
  ·exact ⟨_,Zdd ha hk (by rw [h];exact Zsf),by rw [Zdi ha hk2 (by rw [h];kernel_rfl) Zq6,D_eq _ _ _ _ _ _ _ (by simp [h]) (by simp [h]) (by simp [h])]⟩
  ·exact ⟨_,Zdd ha hk (by rw [h];exact Zs4),by rw [Zdi ha hk2 (by rw [h];kernel_rfl) Zu5,D_eq _ _ _ _ _ _ _ (by simp [h]) (by simp [h]) (by simp [h])]⟩
  ·exact ⟨_,Zdd ha hk (by rw [h];exact Zsy),by rw [Zdi ha hk2 (by rw [h];kernel_rfl) Zu5,D_eq _ _ _ _ _ _ _ (by simp [h]) (by simp [h]) (by simp [h])]⟩
def endB:Bool → Bool ⊕ Unit
 | true=>.inr ()
 | false=>.inl false
def eqI (x y:Zc):Bool:=sEq x.Name y.Name && decide (keyf x.Score=keyf y.Score)
def eqL:List Zc → List Zc → Bool
 | [],[]=>true
 | x :: xs,y :: ys=>eqI x y && eqL xs ys
 | _,_=>false
def Zh3 (a b:Za):Bool:=(a.Kind == b.Kind) && (a.Num == b.Num) && (a.Low == b.Low) && (a.High == b.High) && decide (keyf a.Real=keyf b.Real) && (a.Cap == b.Cap) && sEq a.Text b.Text && eqL a.List b.List
theorem Zng:∀ {a b:List Zc},eqL a b=true → a.length=b.length
 | [],[],_=>rfl
 | x :: xs,y :: ys,h=>by
  simp only [eqL,Bool.and_eq_true] at h
  simp [Zng h.2]
 | [],_ :: _,h=>by simp [eqL] at h
 | _ :: _,[],h=>by simp [eqL] at h
theorem Zt0 {x y:Zc} (hx:x.Score < W64) (hy:y.Score < W64):Ze3 x y=some (eqI x y):=by
 unfold Ze3 eqI
 rw [Zir hx hy]
 cases sEq x.Name y.Name <;> simp [gd]
theorem Zol {a b:List Zc} (ha:∀ e ∈ a,e.Score < W64) (hb:∀ e ∈ b,e.Score < W64) (hl:a.length < 4611686018427387904) (he:a.length=b.length):∀ (n i:Nat),i + n=a.length →
  Zw a b (fun y0 y1=>Ze3 y0 y1) (n + 1) (i:Int)=some (endB (eqL (a.drop i) (b.drop i)))
 | 0,i,h=>by
  rw [Zw,if_neg (by simp;omega),List.drop_of_length_le (by omega),List.drop_of_length_le (by omega)]
  rfl
 | n + 1,i,h=>by
  have h1:i < a.length:=by omega
  have h2:i < b.length:=by omega
  rw [Zw,if_pos (by simp;omega),Zc9 h1,Zc9 h2,wr1 (by omega)]
  simp only [Option.bind_some]
  rw [Zt0 (ha _ (List.getElem_mem h1)) (hb _ (List.getElem_mem h2)),List.drop_eq_getElem_cons h1,List.drop_eq_getElem_cons h2]
  simp only [Option.bind_some,eqL]
  cases hq:eqI a[i] b[i]
  ·simp [endB]
  ·simp only [Bool.not_true,Bool.false_eq_true,if_false,Bool.true_and]
   exact Zol ha hb hl he n (i + 1) (by omega)
theorem Zxw {a b:List Zc} (ha:∀ e ∈ a,e.Score < W64) (hb:∀ e ∈ b,e.Score < W64) (hl:a.length < 4611686018427387904):Zbd a b (fun y0 y1=>Ze3 y0 y1)=some (eqL a b):=by
 unfold Zbd
 by_cases he:a.length=b.length
 ·rw [if_neg (by simp;omega),show (Int.toNat ((a.length:Int) - (0:Int)) + 1)=a.length + 1 by omega]
  have:=Zol ha hb hl he a.length 0 (by omega)
  rw [show ((0:Nat):Int)=0 from rfl] at this
  rw [this]
  simp only [List.drop_zero]
  cases eqL a b <;> simp [endB]
 ·rw [if_pos (by simp;omega)]
  cases h:eqL a b
  ·rfl
  ·exact absurd (Zng h) he
theorem Zt1 {a b:Za} (ha:Zfj a) (hb:Zfj b):Zhw a b=some (Zh3 a b):=by
 unfold Zhw Zh3
 rw [Zir ha.real hb.real,Zxw ha.sc hb.sc ha.len]
 generalize (a.Kind == b.Kind)=x1
 generalize (a.Num == b.Num)=x2
 generalize (a.Low == b.Low)=x3
 generalize (a.High == b.High)=x4
 generalize decide (keyf a.Real=keyf b.Real)=x5
 generalize (a.Cap == b.Cap)=x6
 generalize sEq a.Text b.Text=x7
 generalize eqL a.List b.List=x8
 revert x1 x2 x3 x4 x5 x6 x7 x8
 decide
theorem Zmt {a b:Za} (ha:Zfj a) (hb:Zfj b) (he:a.List.length=b.List.length):∀ (n i:Nat),i + n=a.List.length →
  Zca a b (n + 1) (i:Int)=some (endB (eqL (a.List.drop i) (b.List.drop i)))
 | 0,i,h=>by
  rw [Zca,if_neg (by simp;omega),List.drop_of_length_le (by omega),List.drop_of_length_le (by omega)]
  rfl
 | n + 1,i,h=>by
  have h1:i < a.List.length:=by omega
  have h2:i < b.List.length:=by omega
  have hl:=ha.len
  have hs1:=ha.sc _ (List.getElem_mem h1)
  have hs2:=hb.sc _ (List.getElem_mem h2)
  rw [Zca,if_pos (by simp;omega),Zc9 h1,Zc9 h2,wr1 (by omega),List.drop_eq_getElem_cons h1,List.drop_eq_getElem_cons h2]
  simp only [Option.bind_some,eqL,eqI]
  cases hn:sEq a.List[i].Name b.List[i].Name
  ·simp [gd,endB]
  ·simp only [Bool.not_true,Bool.not_false,gd_t,Option.bind_some]
   rw [Zh2 hs1 hs2]
   simp only [Option.bind_some,Bool.false_or,Bool.true_and]
   by_cases hk:keyf a.List[i].Score=keyf b.List[i].Score
   ·simp only [hk,decide_true,Bool.not_true,Bool.false_eq_true,if_false,Bool.true_and]
    exact Zmt ha hb he n (i + 1) (by omega)
   ·simp [hk,endB]
theorem Zkj {a b:Za} (ha:Zfj a) (hb:Zfj b):Zc8 a b=some (Zh3 a b):=by
 unfold Zc8 Zh3
 rw [Zh2 ha.real hb.real]
 by_cases he:a.List.length=b.List.length
 ·have:=Zmt ha hb he a.List.length 0 (by omega)
  rw [show ((0:Nat):Int)=0 from rfl] at this
  rw [show (Int.toNat ((a.List.length:Int) - (0:Int)) + 1)=a.List.length + 1 by omega,this]
  have hn:((a.List.length:Int) != (b.List.length:Int))=false:=by simp;omega
  rw [hn]
  simp only [List.drop_zero,bne]
  generalize (a.Kind == b.Kind)=x1
  generalize (a.Num == b.Num)=x2
  generalize (a.Low == b.Low)=x3
  generalize (a.High == b.High)=x4
  generalize decide (keyf a.Real=keyf b.Real)=x5
  generalize (a.Cap == b.Cap)=x6
  generalize sEq a.Text b.Text=x7
  generalize eqL a.List b.List=x8
  clear this hn he
  revert x1 x2 x3 x4 x5 x6 x7 x8
  decide
 ·have h8:eqL a.List b.List=false:=by
   cases h:eqL a.List b.List
   ·rfl
   ·exact absurd (Zng h) he
  have hn:((a.List.length:Int) != (b.List.length:Int))=true:=by simp;omega
  rw [hn,h8]
  simp only [bne,Bool.or_true,Option.bind_some,if_true,Bool.and_false,ite_self]
theorem Zmu {a:Za} (hl:a.List.length ≤ 9223372036854775807):∀ (n i:Nat),i + n=a.List.length → ∃ z,Zbm a (n + 1) (i:Int)=some z ∧ (z=.inl 1 ∨ z=.inr ())
 | 0,i,h=>by
  rw [Zbm,if_neg (by simp;omega)]
  exact ⟨_,rfl,.inr rfl⟩
 | n + 1,i,h=>by
  rw [Zbm,if_pos (by simp;omega),Zc9 (by omega),wr1 (by omega)]
  simp only [Option.bind_some]
  split
  ·exact ⟨_,rfl,.inl rfl⟩
  ·exact Zmu hl n (i + 1) (by omega)
theorem Zut {a:Za} (hl:a.List.length ≤ 9223372036854775807):∃ c,Zdg a=some c ∧ (c=0 ∨ c=1) ∧ (c=0 → a.List.length ≤ 100):=by
 unfold Zdg
 by_cases h:(100:Int) < a.List.length ∨ (1000:Int) < a.Text.size
 ·rw [if_pos (by simpa using h)]
  exact ⟨1,rfl,.inr rfl,fun h=>by cases h⟩
 ·rw [if_neg (by simpa using h),show (Int.toNat ((a.List.length:Int) - (0:Int)) + 1)=a.List.length + 1 by omega]
  obtain ⟨z,hz,hc⟩:=Zmu hl a.List.length 0 (by omega)
  rw [show ((0:Nat):Int)=0 from rfl] at hz
  rw [hz]
  rcases hc with rfl | rfl
  ·exact ⟨1,rfl,.inr rfl,fun h=>by cases h⟩
  ·exact ⟨0,rfl,.inl rfl,fun _=>by omega⟩
theorem Zlc {β:Type} [Inhabited β] (c:Bool) (v:β):gd c (some v)=some (if c then v else default):=by cases c <;> rfl
def Zma (a:Zm):Prop:=Zfj a.Make ∧ a.X < W64
abbrev zrc:Za:={ Kind:=0,Num:=0,Low:=0,High:=0,Real:=0,Cap:=0,Text:=ByteArray.empty,List:=[] }
theorem Zsv:Zfj zrc:=⟨by decide,by decide,fun e he=>by cases he⟩
def actD (n x s m o1 k1 k2:Bool) (c:Int) (a:Zm):Int :=
 if (sEq a.Key ⟨#[]⟩ || decide ((24:Int) < a.Key.size))=true then 1
 else if (!(((n || a.N == 0) && (x || decide (keyf a.X=keyf 0))) && (s || sEq a.S ⟨#[]⟩) && (m || Zh3 a.Make zrc)))=true then 4
 else if decide ((if o1=true then (64:Int) else 16) < a.S.size)=true then 3
 else if (k2 && (decide (a.N < 0) || decide (2305843009213693952 < a.N)))=true then 1
 else if (!decide (a.X=Zbn a.X))=true then 4
 else if k1=true then c else 0
theorem Zvw (k:ByteArray):(decide ((k.size:Int) < 1))=sEq k ⟨#[]⟩:=by
 by_cases h:k=⟨#[]⟩
 ·subst h;rw [Zjv];decide
 ·rw [Zi1.2 h]
  have:k.size ≠ 0:=fun e=>h (by
   apply ByteArray.ext
   exact Array.size_eq_zero_iff.1 e)
  simp;omega
theorem Zs6 {a:Zm} (ha:Zma a) {w has:ByteArray} {on c:Int} {n x s m:Bool} (hc:Zcs a.Make=some c) (h1:Zi7 a.Kind=some ⟨w,on,has⟩) (hw:sEq w ⟨#[]⟩=false)
  (fn:Zb2 ⟨w,on,has⟩ 110=some n) (fx:Zb2 ⟨w,on,has⟩ 120=some x) (fs:Zb2 ⟨w,on,has⟩ 115=some s) (fm:Zb2 ⟨w,on,has⟩ 109=some m) :
  Ze8 a=some (actD n x s m (on == 1) (a.Kind == 1) (a.Kind == 10 || a.Kind == 11) c a):=by
 have h0:(0:Nat) < W64:=by decide
 unfold Ze8 Zj4 Zjy
 rw [h1]
 simp only [Option.bind_some,hw,Bool.false_eq_true,if_false,fn,fx,fs,fm,Zlc]
 rw [Zir ha.2 h0,Zt1 ha.1 Zsv,Zkf ha.2,hc]
 simp only [Option.bind_some,Zlc]
 unfold actD
 generalize (sEq a.Key ⟨#[]⟩ || decide ((24:Int) < a.Key.size))=b1
 generalize (a.N == 0)=b2
 generalize decide (keyf a.X=keyf 0)=b3
 generalize sEq a.S ⟨#[]⟩=b4
 generalize Zh3 a.Make zrc=b5
 generalize (a.Kind == 10 || a.Kind == 11)=b6
 generalize (a.Kind == 1)=b7
 generalize (decide (a.N < 0) || decide (2305843009213693952 < a.N))=b8
 generalize decide (a.X=Zbn a.X)=b9
 have e1:decide ((64:Int) < a.S.size)=decide ((if true=true then (64:Int) else 16) < a.S.size):=rfl
 cases b1
 ·have hm:∀ (z:Bool),((if z=true then some (64:Int) else some 16).bind fun r8=>(if decide (r8 < (a.S.size:Int))=true then some (3:Int) else if (b6 && b8)=true then some 1 else if (!b9)=true then some 4 else if b7=true then some c else some 0))=some (if decide ((if z=true then (64:Int) else 16) < a.S.size)=true then 3 else if (b6 && b8)=true then 1 else if (!b9)=true then 4 else if b7=true then c else 0):=by
   intro z
   cases z <;> simp only [Bool.false_eq_true,if_false,if_true,Option.bind_some] <;> (repeat' split) <;> rfl
  rw [hm]
  cases n <;> cases x <;> cases s <;> cases m <;> cases b2 <;> cases b3 <;> cases b4 <;> cases b5 <;> rfl
 ·rfl
theorem Zro {a:Zm} (ha:Zma a) {on c:Int} {n x s m:Bool} (hc:Zcz a.Make=some c) (hk:¬ (a.Kind < 1 ∨ 21 < a.Kind)) (ro:Zfo a.Kind=some on)
  (fn:Zcm a.Kind 110=some n) (fx:Zcm a.Kind 120=some x) (fs:Zcm a.Kind 115=some s) (fm:m=(a.Kind == 1)) :
  Zee a=some (actD n x s m (on == 1) (a.Kind == 1) (a.Kind == 10 || a.Kind == 11) c a):=by
 have h0:(0:Nat) < W64:=by decide
 unfold Zee
 rw [if_neg (by simpa using hk),fn,fx,fs,ro]
 simp only [Option.bind_some,Zlc,Zvw]
 rw [Zh2 ha.2 h0,Zkj ha.1 Zsv,Zkb ha.2,hc]
 simp only [Option.bind_some,Zlc]
 unfold actD
 subst fm
 have hmid:((on == 1 && decide ((64:Int) < a.S.size)) || ((if (!(on == 1 && decide ((64:Int) < a.S.size)))=true then on else default) != 1 && decide ((16:Int) < a.S.size)))=decide ((if (on == 1)=true then (64:Int) else 16) < a.S.size):=by
  by_cases ho:on=1
  ·subst ho
   by_cases h64:(64:Int) < a.S.size <;> simp [h64]
  ·have hb1:(on == 1)=false:=by simpa using ho
   have hb2:(on != 1)=true:=by simpa using ho
   simp [hb1,hb2]
 rw [hmid,show (a.N != 0)=!(a.N == 0) from rfl,show (a.Kind != 1)=!(a.Kind == 1) from rfl]
 generalize decide ((if (on == 1)=true then (64:Int) else 16) < a.S.size)=b10
 generalize (sEq a.Key ⟨#[]⟩ || decide ((24:Int) < a.Key.size))=b1
 generalize (a.N == 0)=b2
 generalize decide (keyf a.X=keyf 0)=b3
 generalize sEq a.S ⟨#[]⟩=b4
 generalize Zh3 a.Make zrc=b5
 generalize (a.Kind == 10 || a.Kind == 11)=b6
 generalize (a.Kind == 1)=b7
 generalize (decide (a.N < 0) || decide (2305843009213693952 < a.N))=b8
 generalize decide (a.X=Zbn a.X)=b9
 have htail:(if b10=true then some (3:Int) else if (b6 && b8)=true then some 1 else if (!b9)=true then some 4 else if b7=true then some c else some 0)=some (if b10=true then 3 else if (b6 && b8)=true then 1 else if (!b9)=true then 4 else if b7=true then c else 0):=by
  (repeat' split) <;> rfl
 rw [htail]
 cases b1
 ·cases n <;> cases x <;> cases s <;> cases b7 <;> cases b2 <;> cases b3 <;> cases b4 <;> cases b5 <;> rfl
 ·rfl
theorem Ztb {n x s m o1 k1 k2:Bool} {c:Int} {a:Zm} (h:actD n x s m o1 k1 k2 c a=0):(sEq a.Key ⟨#[]⟩ || decide ((24:Int) < a.Key.size))=false ∧ decide ((if o1=true then (64:Int) else 16) < a.S.size)=false ∧ (k2 && (decide (a.N < 0) || decide (2305843009213693952 < a.N)))=false ∧ decide (a.X=Zbn a.X)=true ∧ (k1=true → c=0):=by
 unfold actD at h
 revert h
 generalize (sEq a.Key ⟨#[]⟩ || decide ((24:Int) < a.Key.size))=b1
 generalize decide ((if o1=true then (64:Int) else 16) < a.S.size)=b3
 generalize (k2 && (decide (a.N < 0) || decide (2305843009213693952 < a.N)))=b4
 generalize decide (a.X=Zbn a.X)=b5
 generalize (!(((n || a.N == 0) && (x || decide (keyf a.X=keyf 0))) && (s || sEq a.S ⟨#[]⟩) && (m || Zh3 a.Make zrc)))=b2
 cases b1 <;> cases b2 <;> cases b3 <;> cases b4 <;> cases b5 <;> cases k1 <;> simp
theorem Zrv {a:Zm} (ha:Zma a):∃ c,Ze8 a=some c ∧ Zee a=some c ∧ (c=0 → 1 ≤ a.Kind ∧ a.Kind ≤ 21 ∧ a.X=Zbn a.X ∧ a.S.size ≤ 64 ∧ ((a.Kind=10 ∨ a.Kind=11) → 0 ≤ a.N ∧ a.N ≤ 2305843009213693952) ∧ (a.Kind=1 → Zcs a.Make=some 0) ∧ (¬ (5 ≤ a.Kind ∧ a.Kind ≤ 6) → a.S.size ≤ 16) ∧ sEq a.Key ⟨#[]⟩=false ∧ a.Key.size ≤ 24):=by
 by_cases hk:a.Kind < 1 ∨ 21 < a.Kind
 ·refine ⟨5,?_,?_,fun h=>by cases h⟩
  ·unfold Ze8 Zi7
   rw [if_pos (by simp;omega)]
   simp only [Option.bind_some]
   rw [if_pos (show sEq ByteArray.empty ⟨#[]⟩=true by kernel_rfl)]
  ·unfold Zee
   rw [if_pos (by simpa using hk)]
 ·obtain ⟨c,hc1,hc2⟩:=Zjw ha.1
  have fin:∀ {w has:ByteArray} {on:Int} {n x s m:Bool},Zi7 a.Kind=some ⟨w,on,has⟩ → sEq w ⟨#[]⟩=false → Zb2 ⟨w,on,has⟩ 110=some n → Zb2 ⟨w,on,has⟩ 120=some x → Zb2 ⟨w,on,has⟩ 115=some s → Zb2 ⟨w,on,has⟩ 109=some m →
    Zfo a.Kind=some on → Zcm a.Kind 110=some n → Zcm a.Kind 120=some x → Zcm a.Kind 115=some s → m=(a.Kind == 1) → ((on == 1)=true → 5 ≤ a.Kind ∧ a.Kind ≤ 6) →
    ∃ c,Ze8 a=some c ∧ Zee a=some c ∧ (c=0 → 1 ≤ a.Kind ∧ a.Kind ≤ 21 ∧ a.X=Zbn a.X ∧ a.S.size ≤ 64 ∧ ((a.Kind=10 ∨ a.Kind=11) → 0 ≤ a.N ∧ a.N ≤ 2305843009213693952) ∧ (a.Kind=1 → Zcs a.Make=some 0) ∧ (¬ (5 ≤ a.Kind ∧ a.Kind ≤ 6) → a.S.size ≤ 16) ∧ sEq a.Key ⟨#[]⟩=false ∧ a.Key.size ≤ 24):=by
   intro w has on n x s m h1 hw fn fx fs fm ro rn rx rs hm hon
   refine ⟨_,Zs6 ha hc1 h1 hw fn fx fs fm,by rw [hm];exact Zro ha hc2 hk ro rn rx rs rfl,fun h0=>?_⟩
   obtain ⟨g1,g3,g4,g5,g6⟩:=Ztb h0
   simp only [Bool.or_eq_false_iff,decide_eq_false_iff_not] at g1
   have g3':¬ (if (on == 1)=true then (64:Int) else 16) < a.S.size:=of_decide_eq_false g3
   refine ⟨by omega,by omega,of_decide_eq_true g5,?_,fun h=>?_,fun h=>?_,fun h=>?_,g1.1,by omega⟩
   ·split at g3' <;> omega
   ·have h11:(a.Kind == 10 || a.Kind == 11)=true:=by simpa using h
    rw [h11] at g4
    simp only [Bool.true_and,Bool.or_eq_false_iff,decide_eq_false_iff_not] at g4
    omega
   ·rw [hc1,g6 (by simp [h])]
   ·rw [if_neg (fun h2=>h (hon h2))] at g3'
    omega
  have hk':a.Kind=1 ∨ a.Kind=2 ∨ a.Kind=3 ∨ a.Kind=4 ∨ a.Kind=5 ∨ a.Kind=6 ∨ a.Kind=7 ∨ a.Kind=8 ∨ a.Kind=9 ∨ a.Kind=10 ∨ a.Kind=11 ∨ a.Kind=12 ∨ a.Kind=13 ∨ a.Kind=14 ∨ a.Kind=15 ∨ a.Kind=16 ∨ a.Kind=17 ∨ a.Kind=18 ∨ a.Kind=19 ∨ a.Kind=20 ∨ a.Kind=21:=by omega
  rcases hk' with h | h | h | h | h | h | h | h | h | h | h | h | h | h | h | h | h | h | h | h | h <;> rw [h] at fin ⊢
  ·exact fin (w:=⟨#[110,101,119]⟩) (on:=0) (has:=⟨#[109]⟩) (n:=false) (x:=false) (s:=false) (m:=true) (by kernel_rfl) (by kernel_rfl) (by kernel_rfl) (by kernel_rfl) (by kernel_rfl) (by kernel_rfl) (by kernel_rfl) (by kernel_rfl) (by kernel_rfl) (by kernel_rfl) (by decide) (by decide)
  ·exact fin (w:=⟨#[100,114,111,112]⟩) (on:=0) (has:=⟨#[]⟩) (n:=false) (x:=false) (s:=false) (m:=false) (by kernel_rfl) (by kernel_rfl) (by kernel_rfl) (by kernel_rfl) (by kernel_rfl) (by kernel_rfl) (by kernel_rfl) (by kernel_rfl) (by kernel_rfl) (by kernel_rfl) (by decide) (by decide)
  ·exact fin (w:=⟨#[105,115]⟩) (on:=0) (has:=⟨#[]⟩) (n:=false) (x:=false) (s:=false) (m:=false) (by kernel_rfl) (by kernel_rfl) (by kernel_rfl) (by kernel_rfl) (by kernel_rfl) (by kernel_rfl) (by kernel_rfl) (by kernel_rfl) (by kernel_rfl) (by kernel_rfl) (by decide) (by decide)
  ·exact fin (w:=⟨#[108,111,111,107]⟩) (on:=0) (has:=⟨#[]⟩) (n:=false) (x:=false) (s:=false) (m:=false) (by kernel_rfl) (by kernel_rfl) (by kernel_rfl) (by kernel_rfl) (by kernel_rfl) (by kernel_rfl) (by kernel_rfl) (by kernel_rfl) (by kernel_rfl) (by kernel_rfl) (by decide) (by decide)
  ·exact fin (w:=⟨#[112,117,116]⟩) (on:=1) (has:=⟨#[115]⟩) (n:=false) (x:=false) (s:=true) (m:=false) (by kernel_rfl) (by kernel_rfl) (by kernel_rfl) (by kernel_rfl) (by kernel_rfl) (by kernel_rfl) (by kernel_rfl) (by kernel_rfl) (by kernel_rfl) (by kernel_rfl) (by decide) (by decide)
  ·exact fin (w:=⟨#[115,119,97,112]⟩) (on:=1) (has:=⟨#[115]⟩) (n:=false) (x:=false) (s:=true) (m:=false) (by kernel_rfl) (by kernel_rfl) (by kernel_rfl) (by kernel_rfl) (by kernel_rfl) (by kernel_rfl) (by kernel_rfl) (by kernel_rfl) (by kernel_rfl) (by kernel_rfl) (by decide) (by decide)
  ·exact fin (w:=⟨#[97,100,100]⟩) (on:=2) (has:=⟨#[110]⟩) (n:=true) (x:=false) (s:=false) (m:=false) (by kernel_rfl) (by kernel_rfl) (by kernel_rfl) (by kernel_rfl) (by kernel_rfl) (by kernel_rfl) (by kernel_rfl) (by kernel_rfl) (by kernel_rfl) (by kernel_rfl) (by decide) (by decide)
  ·exact fin (w:=⟨#[112,108,117,115]⟩) (on:=3) (has:=⟨#[110]⟩) (n:=true) (x:=false) (s:=false) (m:=false) (by kernel_rfl) (by kernel_rfl) (by kernel_rfl) (by kernel_rfl) (by kernel_rfl) (by kernel_rfl) (by kernel_rfl) (by kernel_rfl) (by kernel_rfl) (by kernel_rfl) (by decide) (by decide)
  ·exact fin (w:=⟨#[114,101,97,99,104]⟩) (on:=3) (has:=⟨#[110]⟩) (n:=true) (x:=false) (s:=false) (m:=false) (by kernel_rfl) (by kernel_rfl) (by kernel_rfl) (by kernel_rfl) (by kernel_rfl) (by kernel_rfl) (by kernel_rfl) (by kernel_rfl) (by kernel_rfl) (by kernel_rfl) (by decide) (by decide)
  ·exact fin (w:=⟨#[105,110]⟩) (on:=4) (has:=⟨#[110]⟩) (n:=true) (x:=false) (s:=false) (m:=false) (by kernel_rfl) (by kernel_rfl) (by kernel_rfl) (by kernel_rfl) (by kernel_rfl) (by kernel_rfl) (by kernel_rfl) (by kernel_rfl) (by kernel_rfl) (by kernel_rfl) (by decide) (by decide)
  ·exact fin (w:=⟨#[111,117,116]⟩) (on:=4) (has:=⟨#[110]⟩) (n:=true) (x:=false) (s:=false) (m:=false) (by kernel_rfl) (by kernel_rfl) (by kernel_rfl) (by kernel_rfl) (by kernel_rfl) (by kernel_rfl) (by kernel_rfl) (by kernel_rfl) (by kernel_rfl) (by kernel_rfl) (by decide) (by decide)
  ·exact fin (w:=⟨#[101,110,111,117,103,104]⟩) (on:=4) (has:=⟨#[110]⟩) (n:=true) (x:=false) (s:=false) (m:=false) (by kernel_rfl) (by kernel_rfl) (by kernel_rfl) (by kernel_rfl) (by kernel_rfl) (by kernel_rfl) (by kernel_rfl) (by kernel_rfl) (by kernel_rfl) (by kernel_rfl) (by decide) (by decide)
  ·exact fin (w:=⟨#[114,97,105,115,101]⟩) (on:=5) (has:=⟨#[120]⟩) (n:=false) (x:=true) (s:=false) (m:=false) (by kernel_rfl) (by kernel_rfl) (by kernel_rfl) (by kernel_rfl) (by kernel_rfl) (by kernel_rfl) (by kernel_rfl) (by kernel_rfl) (by kernel_rfl) (by kernel_rfl) (by decide) (by decide)
  ·exact fin (w:=⟨#[108,111,119,101,114]⟩) (on:=6) (has:=⟨#[120]⟩) (n:=false) (x:=true) (s:=false) (m:=false) (by kernel_rfl) (by kernel_rfl) (by kernel_rfl) (by kernel_rfl) (by kernel_rfl) (by kernel_rfl) (by kernel_rfl) (by kernel_rfl) (by kernel_rfl) (by kernel_rfl) (by decide) (by decide)
  ·exact fin (w:=⟨#[115,104,105,102,116]⟩) (on:=7) (has:=⟨#[120]⟩) (n:=false) (x:=true) (s:=false) (m:=false) (by kernel_rfl) (by kernel_rfl) (by kernel_rfl) (by kernel_rfl) (by kernel_rfl) (by kernel_rfl) (by kernel_rfl) (by kernel_rfl) (by kernel_rfl) (by kernel_rfl) (by decide) (by decide)
  ·exact fin (w:=⟨#[115,99,97,108,101]⟩) (on:=7) (has:=⟨#[120]⟩) (n:=false) (x:=true) (s:=false) (m:=false) (by kernel_rfl) (by kernel_rfl) (by kernel_rfl) (by kernel_rfl) (by kernel_rfl) (by kernel_rfl) (by kernel_rfl) (by kernel_rfl) (by kernel_rfl) (by kernel_rfl) (by decide) (by decide)
  ·exact fin (w:=⟨#[102,105,120]⟩) (on:=7) (has:=⟨#[120]⟩) (n:=false) (x:=true) (s:=false) (m:=false) (by kernel_rfl) (by kernel_rfl) (by kernel_rfl) (by kernel_rfl) (by kernel_rfl) (by kernel_rfl) (by kernel_rfl) (by kernel_rfl) (by kernel_rfl) (by kernel_rfl) (by decide) (by decide)
  ·exact fin (w:=⟨#[106,111,105,110]⟩) (on:=8) (has:=⟨#[115]⟩) (n:=false) (x:=false) (s:=true) (m:=false) (by kernel_rfl) (by kernel_rfl) (by kernel_rfl) (by kernel_rfl) (by kernel_rfl) (by kernel_rfl) (by kernel_rfl) (by kernel_rfl) (by kernel_rfl) (by kernel_rfl) (by decide) (by decide)
  ·exact fin (w:=⟨#[108,101,97,118,101]⟩) (on:=8) (has:=⟨#[115]⟩) (n:=false) (x:=false) (s:=true) (m:=false) (by kernel_rfl) (by kernel_rfl) (by kernel_rfl) (by kernel_rfl) (by kernel_rfl) (by kernel_rfl) (by kernel_rfl) (by kernel_rfl) (by kernel_rfl) (by kernel_rfl) (by decide) (by decide)
  ·exact fin (w:=⟨#[104,97,115]⟩) (on:=8) (has:=⟨#[115]⟩) (n:=false) (x:=false) (s:=true) (m:=false) (by kernel_rfl) (by kernel_rfl) (by kernel_rfl) (by kernel_rfl) (by kernel_rfl) (by kernel_rfl) (by kernel_rfl) (by kernel_rfl) (by kernel_rfl) (by kernel_rfl) (by decide) (by decide)
  ·exact fin (w:=⟨#[111,102,102,101,114]⟩) (on:=9) (has:=⟨#[120,115]⟩) (n:=false) (x:=true) (s:=true) (m:=false) (by kernel_rfl) (by kernel_rfl) (by kernel_rfl) (by kernel_rfl) (by kernel_rfl) (by kernel_rfl) (by kernel_rfl) (by kernel_rfl) (by kernel_rfl) (by kernel_rfl) (by decide) (by decide)
abbrev Zcd:=List Zc
def NS (l:Zcd):Prop:=l.Pairwise fun p q=>sLt p.Name q.Name=true
def pre (f:Zc → Bool):Zcd → Nat
 | []=>0
 | e :: r=>if f e then pre f r + 1 else 0
theorem Zko (f:Zc → Bool):∀ l:Zcd,pre f l ≤ l.length
 | []=>Nat.le_refl _
 | e :: r=>by
  have:=Zko f r
  simp only [pre]
  split <;> simp <;> omega
theorem Zsa {f:Zc → Bool}:∀ {l:Zcd} {k:Nat} (h:k < pre f l),∃ e,l[k]?=some e ∧ f e=true
 | [],k,h=>by simp [pre] at h
 | e :: r,k,h=>by
  simp only [pre] at h
  split at h
  ·rename_i hf
   cases k with
   | zero=>exact ⟨e,rfl,hf⟩
   | succ k=>exact Zsa (l:=r) (by omega)
  ·omega
theorem Zmv {f:Zc → Bool}:∀ {l:Zcd} {e:Zc},l[pre f l]?=some e → f e=false
 | [],e,h=>by simp [pre] at h
 | x :: r,e,h=>by
  simp only [pre] at h
  split at h
  ·exact Zmv (l:=r) (by simpa using h)
  ·rename_i hf
   simp at h;subst h;simpa using hf
theorem Zpf {s:ByteArray} {l:Zcd} (hs:NS l) {k:Nat} (hk:k < l.length):sLt (l[k]).Name s=decide (k < pre (fun e=>sLt e.Name s) l):=by
 by_cases h:k < pre (fun e=>sLt e.Name s) l
 ·obtain ⟨e,he,hf⟩:=Zsa h
  rw [List.getElem?_eq_getElem hk] at he
  obtain rfl:=Option.some.inj he
  simp only [h,decide_true];exact hf
 ·simp only [h,decide_false]
  have hp:pre (fun e=>sLt e.Name s) l < l.length:=by omega
  have h1:=Zmv (List.getElem?_eq_getElem hp)
  rcases Nat.lt_or_eq_of_le (Nat.le_of_not_lt h) with hlt | heq
  ·have h2:=List.pairwise_iff_getElem.1 hs _ _ hp hk hlt
   cases h3:sLt (l[k]).Name s
   ·rfl
   ·rw [Znv h2 h3] at h1;cases h1
  ·have:l[k]=l[pre (fun e=>sLt e.Name s) l]:=by congr 1;exact heq.symm
   rw [this];exact h1
theorem half {i j:Nat} (h:i + j < 4611686018427387904):IntKind.i64.wrap (Int.fdiv (IntKind.u64.wrap (IntKind.i64.wrap ((i:Int) + (j:Int)))) (2 ^ 1))=(((i + j) / 2:Nat):Int):=by
 rw [wr (x:=(i:Int) + j) (by omega) (by omega),wru (by omega) (by omega)]
 have:Int.fdiv ((i:Int) + j) (2 ^ 1)=(((i + j) / 2:Nat):Int):=by
  rw [Int.fdiv_eq_ediv_of_nonneg _ (by decide)];omega
 rw [this,wr (by omega) (by omega)]
theorem Zuz (e:Zc) (s:ByteArray):∃ c:Int,Zff e s=some c ∧ decide (c < 0)=sLt e.Name s ∧ (c == 0)=sEq e.Name s:=by
 unfold Zff
 by_cases h:sLt e.Name s=true
 ·exact ⟨-1,by rw [if_pos h],by rw [h];rfl,by rw [Zi1.2 (Zsr h)];rfl⟩
 ·have h':sLt e.Name s=false:=by simpa using h
  by_cases h2:e.Name=s
  ·exact ⟨0,by rw [if_neg h,h',Zip.2 h2];rfl,by rw [h'];rfl,by rw [Zip.2 h2];rfl⟩
  ·exact ⟨1,by rw [if_neg h,h',Zi1.2 h2];rfl,by rw [h'];rfl,by rw [Zi1.2 h2];rfl⟩
theorem Znf {l:Zcd} {s:ByteArray} (hs:NS l) (hl:l.length < 2305843009213693952):∀ (n i j:Nat),j - i < n → i ≤ pre (fun e=>sLt e.Name s) l → pre (fun e=>sLt e.Name s) l ≤ j → j ≤ l.length →
  Zv l s (fun y0 y1=>Zff y0 y1) n (i:Int) (j:Int)=some ((pre (fun e=>sLt e.Name s) l:Nat):Int)
 | 0,i,j,h,_,_,_=>by omega
 | n + 1,i,j,h,h1,h2,h3=>by
  rw [Zv]
  by_cases hij:i < j
  ·rw [if_pos (by simpa using hij),half (by omega)]
   have hm:(i + j) / 2 < l.length:=by omega
   rw [Zc9 hm]
   obtain ⟨c,hc,hc1,_⟩:=Zuz l[(i + j) / 2] s
   simp only [Option.bind_some,hc]
   rw [hc1,Zpf hs hm]
   unfold Zbf
   by_cases hp:(i + j) / 2 < pre (fun e=>sLt e.Name s) l
   ·rw [if_pos (by simpa using hp),wr1 (by omega)]
    exact Znf hs hl n ((i + j) / 2 + 1) j (by omega) (by omega) h2 h3
   ·rw [if_neg (by simpa using hp)]
    exact Znf hs hl n i ((i + j) / 2) (by omega) h1 (by omega) (by omega)
  ·rw [if_neg (by simpa using hij)]
   congr 2;omega
def isAt (s:ByteArray) (l:Zcd):Bool:=match l[pre (fun e=>sLt e.Name s) l]? with
 | some e=>sEq e.Name s
 | none=>false
theorem Zmy {l:Zcd} {s:ByteArray} (hs:NS l) (hl:l.length < 2305843009213693952):Zgj l s=some (((pre (fun e=>sLt e.Name s) l:Nat):Int),isAt s l):=by
 unfold Zgj Zbo
 have:=Znf (s:=s) hs hl (l.length + 1) 0 l.length (by omega) (Nat.zero_le _) (Zko _ _) (Nat.le_refl _)
 rw [show ((0:Nat):Int)=0 from rfl] at this
 rw [show (Int.toNat ((l.length:Int) - (0:Int)) + 1)=l.length + 1 by omega,this]
 simp only [Option.bind_some]
 unfold isAt
 by_cases hp:pre (fun e=>sLt e.Name s) l < l.length
 ·have hd:decide (((pre (fun e=>sLt e.Name s) l:Nat):Int) < (l.length:Int))=true:=by simpa using hp
  rw [hd,Zc9 hp,List.getElem?_eq_getElem hp]
  obtain ⟨c,hc,_,hc2⟩:=Zuz l[pre (fun e=>sLt e.Name s) l] s
  simp only [gd_t,Option.bind_some,hc,Bool.true_and,hc2]
 ·have hd:decide (((pre (fun e=>sLt e.Name s) l:Nat):Int) < (l.length:Int))=false:=by simpa using hp
  rw [hd,List.getElem?_eq_none (by omega)]
  rfl
def goL (f g:Zc → Bool) (x:Zc):Zcd → Bool → Zcd × Bool
 | [],d=>([],d)
 | e :: r,d=>if (!d && !f e)=true then ((if g e then [] else [x]) ++ e :: (goL f g x r true).1,(goL f g x r true).2) else (e :: (goL f g x r d).1,(goL f g x r d).2)
theorem Zvb (f g:Zc → Bool) (x:Zc):∀ l:Zcd,goL f g x l true=(l,true)
 | []=>rfl
 | e :: r=>by simp [goL,Zvb f g x r]
theorem Zve (f g:Zc → Bool) (x:Zc):∀ l:Zcd,goL f g x l false=match l[pre f l]? with
  | some e=>(l.take (pre f l) ++ (if g e then [] else [x]) ++ l.drop (pre f l),true)
  | none=>(l,false)
 | []=>rfl
 | e :: r=>by
  simp only [goL,pre]
  by_cases hf:f e=true
  ·simp only [hf,Bool.not_true,Bool.and_false,Bool.false_eq_true,if_false,if_true]
   rw [Zve f g x r]
   simp only [List.getElem?_cons_succ]
   cases r[pre f r]? <;> simp
  ·have hf':f e=false:=by simpa using hf
   simp only [hf',Bool.not_false,Bool.and_self,if_true,Bool.false_eq_true,if_false,Zvb,List.getElem?_cons_zero,List.take_zero,List.nil_append,List.drop_zero]
def Zcr (x:Zc) (nm:Bool) (e:Zc):Bool:=if nm then sLt e.Name x.Name else Zdu e x
def Zg1 (x:Zc) (nm:Bool) (e:Zc):Bool:=sEq e.Name x.Name && (nm || decide (keyf e.Score=keyf x.Score))
theorem Zry {l:Zcd} {x:Zc} {nm:Bool} (hx:x.Score < W64) (hsc:∀ e ∈ l,e.Score < W64) {n i:Nat} {out:Zcd} {d:Bool} (h1:i < l.length) :
  Zbu l x nm (n + 1) out d (i:Int)=(if (!d && !Zcr x nm l[i])=true then (if (!Zg1 x nm l[i])=true then (if (out.length + ([x]:List Zc).length) * 24 ≤ 140737488355328 then Zcl l (i:Int) (Zbu l x nm n) (out ++ [x]) true else none) else Zcl l (i:Int) (Zbu l x nm n) out true) else Zcl l (i:Int) (Zbu l x nm n) out d):=by
 have hm:=hsc _ (List.getElem_mem h1)
 have ha:Zeg l[i] x=some (Zdu l[i] x):=Zo4 hm hx
 have hs:Zb4 l[i].Score x.Score=some (decide (keyf l[i].Score=keyf x.Score)):=Zh2 hm hx
 rw [Zbu,if_pos (by simp;omega),Zc9 h1]
 cases nm
 ·simp only [Bool.not_false,gd_t,Option.bind_some,Bool.true_and,ha,Bool.and_false,gd_f,Bool.false_and,Bool.or_false,Bool.and_true,Bool.false_or,Zcr,Zg1,Bool.false_eq_true,if_false]
  cases hq:sEq l[i].Name x.Name
  ·simp only [gd_f,Option.bind_some,Bool.false_and]
  ·simp only [gd_t,Option.bind_some,Bool.true_and,hs]
 ·simp only [Bool.not_true,gd_f,Option.bind_some,Bool.false_and,Bool.not_false,Bool.true_and,gd_t,Bool.false_or,Bool.true_or,Bool.and_false,Bool.and_true,Zcr,Zg1,if_true]
theorem Zjd {l:Zcd} {x:Zc} {nm:Bool} (hx:x.Score < W64) (hsc:∀ e ∈ l,e.Score < W64) (hl:l.length < 1000000):∀ (n i:Nat) (out:Zcd) (d:Bool),i + n=l.length → out.length + (if d=true then 0 else 1) ≤ i + 1 →
  Zbu l x nm (n + 1) out d (i:Int)=some (out ++ (goL (Zcr x nm) (Zg1 x nm) x (l.drop i) d).1,(goL (Zcr x nm) (Zg1 x nm) x (l.drop i) d).2)
 | 0,i,out,d,h,_=>by
  rw [Zbu,if_neg (by simp;omega),List.drop_of_length_le (by omega)]
  simp [goL]
 | n + 1,i,out,d,h,ho=>by
  have h1:i < l.length:=by omega
  rw [Zry hx hsc h1,List.drop_eq_getElem_cons h1]
  simp only [Zcl,Zc9 h1,wr1 (show i < 9223372036854775807 by omega),Option.bind_some,goL]
  by_cases hc:(!d && !Zcr x nm l[i])=true
  ·rw [if_pos hc,if_pos hc]
   have hd:d=false:=by cases d <;> simp_all
   subst hd
   simp only [Bool.false_eq_true,if_false] at ho
   by_cases hs:(!Zg1 x nm l[i])=true
   ·rw [if_pos hs,if_pos (by simp;omega),if_pos (by simp;omega),Zjd hx hsc hl n (i + 1) _ true (by omega) (by simp;omega)]
    have:Zg1 x nm l[i]=false:=by simpa using hs
    simp [this]
   ·rw [if_neg hs,if_pos (by simp;omega),Zjd hx hsc hl n (i + 1) _ true (by omega) (by simp;omega)]
    have:Zg1 x nm l[i]=true:=by simpa using hs
    simp [this]
  ·rw [if_neg hc,if_neg hc,if_pos (by simp;omega),Zjd hx hsc hl n (i + 1) _ d (by omega) (by simp;omega)]
   simp
def layL (x:Zc) (nm:Bool) (l:Zcd):Zcd:=match l[pre (Zcr x nm) l]? with
 | some e=>l.take (pre (Zcr x nm) l) ++ (if Zg1 x nm e then [] else [x]) ++ l.drop (pre (Zcr x nm) l)
 | none=>l ++ [x]
theorem Zqu {l:Zcd} {x:Zc} {nm:Bool} (hx:x.Score < W64) (hsc:∀ e ∈ l,e.Score < W64) (hl:l.length < 1000000):Zdq l x nm=some (layL x nm l):=by
 unfold Zdq
 have:=Zjd (nm:=nm) hx hsc hl l.length 0 [] false (by omega) (by simp)
 rw [show ((0:Nat):Int)=0 from rfl] at this
 rw [show (Int.toNat ((l.length:Int) - (0:Int)) + 1)=l.length + 1 by omega,this]
 simp only [Option.bind_some,List.nil_append,List.drop_zero]
 rw [Zve]
 unfold layL
 cases h:l[pre (Zcr x nm) l]? with
 | none =>
  simp only [Bool.not_false,if_true,Zet]
  rw [if_pos (by simp;omega)]
 | some e=>simp only [Bool.not_true,Bool.false_eq_true,if_false,Zet]
theorem Zpa {l:Zcd} {s:ByteArray} (hl:l.length < 1000000):∀ (n i:Nat),i + n=l.length → Zdz l s (n + 1) (i:Int)=some (cond ((l.drop i).any (fun e=>sEq e.Name s)) (.inl true) (.inr ()))
 | 0,i,h=>by
  rw [Zdz,if_neg (by simp;omega),List.drop_of_length_le (by omega)];rfl
 | n + 1,i,h=>by
  have h1:i < l.length:=by omega
  rw [Zdz,if_pos (by simp;omega),Zc9 h1,List.drop_eq_getElem_cons h1,List.any_cons]
  simp only [Option.bind_some]
  by_cases hq:sEq l[i].Name s=true
  ·rw [if_pos hq,hq];rfl
  ·have hq':sEq l[i].Name s=false:=by simpa using hq
   rw [if_neg hq,wr1 (by omega),Zpa hl n (i + 1) (by omega),hq',Bool.false_or]
theorem Zr8 {l:Zcd} {s:ByteArray} (hl:l.length < 1000000):Zd9 l s=some (l.any (fun e=>sEq e.Name s)):=by
 unfold Zd9
 have:=Zpa (s:=s) hl l.length 0 (by omega)
 rw [show ((0:Nat):Int)=0 from rfl] at this
 rw [show (Int.toNat ((l.length:Int) - (0:Int)) + 1)=l.length + 1 by omega,this]
 simp only [List.drop_zero]
 cases h:l.any (fun e=>sEq e.Name s) <;> rfl
theorem Zkz {a0:Za} {a:Zm} (hl:a0.List.length < 1000000):∀ (n i:Nat) (out:Zcd),i + n=a0.List.length → out.length ≤ i → Zcy a0 a (n + 1) out (i:Int)=some (out ++ (a0.List.drop i).filter (fun e=>!sEq e.Name a.S))
 | 0,i,out,h,_=>by
  rw [Zcy,if_neg (by simp;omega),List.drop_of_length_le (by omega)];simp
 | n + 1,i,out,h,ho=>by
  have h1:i < a0.List.length:=by omega
  rw [Zcy,if_pos (by simp;omega),Zc9 h1,List.drop_eq_getElem_cons h1]
  simp only [Option.bind_some,Zgu,wr1 (show i < 9223372036854775807 by omega)]
  rw [List.filter_cons]
  by_cases hq:(!sEq a0.List[i].Name a.S)=true
  ·rw [if_pos hq,if_pos hq,if_pos (by simp;omega),Zkz hl n (i + 1) _ (by omega) (by simp;omega),List.append_assoc];rfl
  ·rw [if_neg hq,if_neg hq,Zkz hl n (i + 1) _ (by omega) (by omega)]
theorem Zlo {l:Zcd} {s:ByteArray} (hs:NS l):(∀ e ∈ l.take (pre (fun e=>sLt e.Name s) l),sEq e.Name s=false) ∧ (∀ e ∈ l.drop (pre (fun e=>sLt e.Name s) l + 1),sEq e.Name s=false):=by
 constructor
 ·intro e he
  obtain ⟨k,hk,rfl⟩:=List.getElem_of_mem he
  rw [List.length_take] at hk
  rw [List.getElem_take]
  have:=Zpf (s:=s) hs (k:=k) (by omega)
  rw [show decide (k < pre (fun e=>sLt e.Name s) l)=true by simp;omega] at this
  exact Zi1.2 (Zsr this)
 ·intro e he
  obtain ⟨k,hk,rfl⟩:=List.getElem_of_mem he
  rw [List.length_drop] at hk
  rw [List.getElem_drop]
  refine Zi1.2 fun h=>?_
  have hp:pre (fun e=>sLt e.Name s) l < l.length:=by omega
  have h1:=List.pairwise_iff_getElem.1 hs _ _ hp (show pre (fun e=>sLt e.Name s) l + 1 + k < l.length by omega) (by omega)
  rw [h] at h1
  have:=Zmv (List.getElem?_eq_getElem hp)
  rw [h1] at this;cases this
theorem Zl3 (l:Zcd) (k:Nat) (h:k < l.length):l=l.take k ++ l[k] :: l.drop (k + 1):=by
 rw [← List.drop_eq_getElem_cons h,List.take_append_drop]
theorem Zpc {l:Zcd} {s:ByteArray} (hs:NS l):l.any (fun e=>sEq e.Name s)=isAt s l:=by
 obtain ⟨h1,h2⟩:=Zlo (s:=s) hs
 unfold isAt
 by_cases hp:pre (fun e=>sLt e.Name s) l < l.length
 ·rw [List.getElem?_eq_getElem hp]
  conv=>lhs;rw [Zl3 l _ hp]
  have a1:(l.take (pre (fun e=>sLt e.Name s) l)).any (fun e=>sEq e.Name s)=false:=by
   rw [List.any_eq_false];intro e he;rw [h1 e he];decide
  have a2:(l.drop (pre (fun e=>sLt e.Name s) l + 1)).any (fun e=>sEq e.Name s)=false:=by
   rw [List.any_eq_false];intro e he;rw [h2 e he];decide
  rw [List.any_append,List.any_cons,a1,a2];simp
 ·rw [List.getElem?_eq_none (by omega)]
  have:l.take (pre (fun e=>sLt e.Name s) l)=l:=List.take_of_length_le (by omega)
  rw [this] at h1
  rw [List.any_eq_false];intro e he;rw [h1 e he];decide
theorem Zsx {l:Zcd} {s:ByteArray} (hs:NS l):l.filter (fun e=>!sEq e.Name s)=if isAt s l=true then l.take (pre (fun e=>sLt e.Name s) l) ++ l.drop (pre (fun e=>sLt e.Name s) l + 1) else l:=by
 obtain ⟨h1,h2⟩:=Zlo (s:=s) hs
 unfold isAt
 by_cases hp:pre (fun e=>sLt e.Name s) l < l.length
 ·rw [List.getElem?_eq_getElem hp]
  conv=>lhs;rw [Zl3 l _ hp]
  have a1:(l.take (pre (fun e=>sLt e.Name s) l)).filter (fun e=>!sEq e.Name s)=l.take (pre (fun e=>sLt e.Name s) l):=List.filter_eq_self.2 fun e he=>by rw [h1 e he];rfl
  have a2:(l.drop (pre (fun e=>sLt e.Name s) l + 1)).filter (fun e=>!sEq e.Name s)=l.drop (pre (fun e=>sLt e.Name s) l + 1):=List.filter_eq_self.2 fun e he=>by rw [h2 e he];rfl
  rw [List.filter_append,List.filter_cons,a1,a2]
  by_cases hq:sEq (l[pre (fun e=>sLt e.Name s) l]).Name s=true
  ·rw [if_pos hq,if_neg (by rw [hq];decide)]
  ·rw [if_neg hq,if_pos (by simpa using hq)]
   exact (Zl3 l _ hp).symm
 ·rw [List.getElem?_eq_none (by omega)]
  have:l.take (pre (fun e=>sLt e.Name s) l)=l:=List.take_of_length_le (by omega)
  rw [this] at h1
  rw [if_neg (by simp)]
  exact List.filter_eq_self.2 fun e he=>by rw [h1 e he];rfl
theorem Zsi {l:Zcd} {s:ByteArray}:layL { Score:=0,Name:=s } true l=if isAt s l=true then l else l.take (pre (fun e=>sLt e.Name s) l) ++ [{ Score:=0,Name:=s }] ++ l.drop (pre (fun e=>sLt e.Name s) l):=by
 have hf:Zcr { Score:=0,Name:=s } true=fun e=>sLt e.Name s:=rfl
 unfold layL isAt
 rw [hf]
 cases h:l[pre (fun e=>sLt e.Name s) l]? with
 | none =>
  have hp:=List.getElem?_eq_none_iff.1 h
  rw [if_neg (by simp),List.take_of_length_le hp,List.drop_of_length_le hp,List.append_nil]
 | some e =>
  simp only [Zg1,Bool.true_or,Bool.and_true]
  by_cases hq:sEq e.Name s=true
  ·rw [if_pos hq,if_pos hq,List.append_nil,List.take_append_drop]
  ·rw [if_neg hq,if_neg hq]
theorem Zm7 {l:Zcd} (h:l.length < 1000000):Z5 l=some l:=by
 unfold Z5
 rw [if_pos (by omega)]
theorem Zmk {r:Za} {a:Zm} (ha:a.X < W64) (hsc:∀ e ∈ r.List,e.Score < W64) (hl:r.List.length < 1000000):∀ (n i:Nat),i + n=r.List.length →
  Zc7 r a (n + 1) (i:Int)=some ((i + pre (Zcr { Score:=a.X,Name:=a.S } false) (r.List.drop i):Nat):Int)
 | 0,i,h=>by
  have hd:decide ((i:Int) < (r.List.length:Int))=false:=by simp;omega
  rw [Zc7,hd,List.drop_of_length_le (by omega)]
  simp [gd,pre]
 | n + 1,i,h=>by
  have h1:i < r.List.length:=by omega
  have hd:decide ((i:Int) < (r.List.length:Int))=true:=by simp;omega
  rw [Zc7,hd,Zc9 h1,List.drop_eq_getElem_cons h1]
  simp only [gd_t,Option.bind_some,Bool.true_and]
  rw [Zk4 (hsc _ (List.getElem_mem h1)) ha]
  simp only [Option.bind_some,pre,Zcr,Bool.false_eq_true,if_false,wr1 (show i < 9223372036854775807 by omega)]
  by_cases hb:Zdu r.List[i] { Score:=a.X,Name:=a.S }=true
  ·rw [if_pos hb,if_pos hb,Zmk ha hsc hl n (i + 1) (by omega)]
   congr 2;omega
  ·rw [if_neg hb,if_neg hb];simp
theorem Zrw {r:Za} {a:Zm} (ha:a.X < W64) (hsc:∀ e ∈ r.List,e.Score < W64) (hl:r.List.length < 1000000):Zc7 r a (Int.toNat ((r.List.length:Int) - (0:Int)) + 1) (0:Int)=some ((pre (Zcr { Score:=a.X,Name:=a.S } false) r.List:Nat):Int):=by
 have:=Zmk (a:=a) ha hsc hl r.List.length 0 (by omega)
 rw [show ((0:Nat):Int)=0 from rfl] at this
 rw [show (Int.toNat ((r.List.length:Int) - (0:Int)) + 1)=r.List.length + 1 by omega,this]
 simp
theorem Zpt {e x:Zc} (h1:Zdu e x=false):(!Zdu x e)=Zg1 x false e:=by
 unfold Zdu Zg1 at *
 by_cases hk:keyf e.Score=keyf x.Score
 ·rw [if_pos hk] at h1
  rw [if_pos hk.symm,hk]
  simp only [Bool.false_or,decide_true,Bool.and_true]
  by_cases hn:e.Name=x.Name
  ·rw [hn,Zqj,Zjv];rfl
  ·rw [Zwq h1 hn,Zi1.2 hn];rfl
 ·rw [if_neg hk] at h1
  rw [if_neg (fun h=>hk h.symm)]
  have:=of_decide_eq_false h1
  have h3:keyf e.Score < keyf x.Score:=by omega
  simp [h3,hk]
theorem Zlt {k:Int} {l:Zcd}:∀ (n i:Nat),Ze5 k l i n=0 ↔ ∀ j,i ≤ j → j < i + n → Zfc k l j=0
 | 0,i=>⟨fun _ j h1 h2=>by omega,fun _=>rfl⟩
 | n + 1,i=>by
  by_cases h:Zfc k l i=0
  ·rw [Zlz h,Zlt n (i + 1)]
   constructor
   ·intro hh j h1 h2
    by_cases e:j=i
    ·rw [e];exact h
    ·exact hh j (by omega) (by omega)
   ·intro hh j h1 h2;exact hh j (by omega) (by omega)
  ·rw [Zl5 h]
   exact ⟨fun e=>absurd e h,fun hh=>absurd (hh i (Nat.le_refl _) (by omega)) h⟩
theorem Zlw {t n b r l:Bool} {a:Za}:Zjn t n b r l a=0 ↔ Zfh t n b r l a=true ∧ a.Text.size ≤ 64 ∧ (b=true → -2305843009213693952 ≤ a.Low ∧ a.High ≤ 2305843009213693952 ∧ a.Low ≤ a.Num ∧ a.Num ≤ a.High) ∧ a.Real=Zbn a.Real ∧ (l=true → 1 ≤ a.Cap ∧ a.Cap ≤ 32 ∧ (a.List.length:Int) ≤ a.Cap ∧ ∀ i,i < a.List.length → Zfc a.Kind a.List i=0):=by
 unfold Zjn
 by_cases h1:Zfh t n b r l a=false
 ·rw [if_pos h1,h1];simp
 ·have h1':Zfh t n b r l a=true:=by simpa using h1
  rw [if_neg h1,h1']
  by_cases h2:(64:Int) < a.Text.size
  ·rw [if_pos h2];exact ⟨fun h=>absurd h (by decide),fun h=>by omega⟩
  ·rw [if_neg h2]
   by_cases h3:b=true ∧ (a.Low < -2305843009213693952 ∨ 2305843009213693952 < a.High ∨ a.Num < a.Low ∨ a.High < a.Num)
   ·rw [if_pos h3];exact ⟨fun h=>absurd h (by decide),fun h=>by have:=h.2.2.1 h3.1;omega⟩
   ·rw [if_neg h3]
    by_cases h4:a.Real=Zbn a.Real
    ·rw [if_neg (fun h=>h h4)]
     cases l
     ·rw [if_pos rfl]
      refine ⟨fun _=>⟨rfl,by omega,fun hb=>?_,h4,fun h=>absurd h (by decide)⟩,fun _=>rfl⟩
      have:¬ (a.Low < -2305843009213693952 ∨ 2305843009213693952 < a.High ∨ a.Num < a.Low ∨ a.High < a.Num):=fun h=>h3 ⟨hb,h⟩
      omega
     ·rw [if_neg (by decide)]
      by_cases h5:a.Cap < 1 ∨ 32 < a.Cap
      ·rw [if_pos h5];exact ⟨fun h=>absurd h (by decide),fun h=>by have:=h.2.2.2.2 rfl;omega⟩
      ·rw [if_neg h5]
       by_cases h6:a.Cap < a.List.length
       ·rw [if_pos h6];exact ⟨fun h=>absurd h (by decide),fun h=>by have:=h.2.2.2.2 rfl;omega⟩
       ·rw [if_neg h6,Zlt]
        constructor
        ·intro h
         refine ⟨rfl,by omega,fun hb=>?_,h4,fun _=>⟨by omega,by omega,by omega,fun i hi=>h i (Nat.zero_le _) (by omega)⟩⟩
         have:¬ (a.Low < -2305843009213693952 ∨ 2305843009213693952 < a.High ∨ a.Num < a.Low ∨ a.High < a.Num):=fun h=>h3 ⟨hb,h⟩
         omega
        ·intro h j _ hj
         exact (h.2.2.2.2 rfl).2.2.2 j (by omega)
    ·rw [if_pos h4];exact ⟨fun h=>absurd h (by decide),fun h=>absurd h.2.2.2.1 h4⟩
def Zek (a:Za):Prop:=1 ≤ a.Kind ∧ a.Kind ≤ 9 ∧ Zfh (decide (a.Kind=1)) (decide (2 ≤ a.Kind ∧ a.Kind ≤ 4)) (decide (a.Kind=4)) (decide (5 ≤ a.Kind ∧ a.Kind ≤ 7)) (decide (8 ≤ a.Kind)) a=true ∧ a.Text.size ≤ 64 ∧ (a.Kind=4 → -2305843009213693952 ≤ a.Low ∧ a.High ≤ 2305843009213693952 ∧ a.Low ≤ a.Num ∧ a.Num ≤ a.High) ∧ a.Real=Zbn a.Real ∧
 (8 ≤ a.Kind → 1 ≤ a.Cap ∧ a.Cap ≤ 32 ∧ (a.List.length:Int) ≤ a.Cap ∧ ∀ i,i < a.List.length → Zfc a.Kind a.List i=0)
theorem Zml {a:Za} (ha:Zfj a):Zcs a=some 0 ↔ Zek a:=by
 by_cases hk:a.Kind ≤ 0 ∨ 10 ≤ a.Kind
 ·have:Zcs a ≠ some 0:=by
   obtain ⟨c,hc,hc2⟩:=Zjw ha
   unfold Zcz at hc2
   rw [if_pos (by simp;omega)] at hc2
   rw [hc,← hc2];decide
  exact ⟨fun h=>absurd h this,fun h=>by obtain ⟨h1,h2,_⟩:=h;omega⟩
 ·have fin:∀ {t n b r l:Bool},Zcc a.Kind=some ⟨t,n,b,r,l⟩ → t=decide (a.Kind=1) → n=decide (2 ≤ a.Kind ∧ a.Kind ≤ 4) → b=decide (a.Kind=4) → r=decide (5 ≤ a.Kind ∧ a.Kind ≤ 7) → l=decide (8 ≤ a.Kind) → (Zcs a=some 0 ↔ Zek a):=by
   intro t n b r l hs h1 h2 h3 h4 h5
   rw [Zdd ha hk hs]
   constructor
   ·intro h
    obtain ⟨g1,g2,g3,g4,g5⟩:=Zlw.1 (Option.some.inj h)
    refine ⟨by omega,by omega,by rw [← h1,← h2,← h3,← h4,← h5];exact g1,g2,fun hk4=>g3 (by rw [h3];simpa using hk4),g4,fun hk8=>g5 (by rw [h5];simpa using hk8)⟩
   ·rintro ⟨_,_,g1,g2,g3,g4,g5⟩
    congr 1
    exact Zlw.2 ⟨by rw [h1,h2,h3,h4,h5];exact g1,g2,fun hb=>g3 (by rw [h3] at hb;simpa using hb),g4,fun hb=>g5 (by rw [h5] at hb;simpa using hb)⟩
  have hk':a.Kind=1 ∨ a.Kind=2 ∨ a.Kind=3 ∨ a.Kind=4 ∨ a.Kind=5 ∨ a.Kind=6 ∨ a.Kind=7 ∨ a.Kind=8 ∨ a.Kind=9:=by omega
  rcases hk' with h | h | h | h | h | h | h | h | h <;> rw [h] at fin
  ·exact fin Zsb rfl rfl rfl rfl rfl
  ·exact fin Zr4 rfl rfl rfl rfl rfl
  ·exact fin Zsk rfl rfl rfl rfl rfl
  ·exact fin Zti rfl rfl rfl rfl rfl
  ·exact fin Zss rfl rfl rfl rfl rfl
  ·exact fin Zsg rfl rfl rfl rfl rfl
  ·exact fin Zsf rfl rfl rfl rfl rfl
  ·exact fin Zs4 rfl rfl rfl rfl rfl
  ·exact fin Zsy rfl rfl rfl rfl rfl
theorem Zj7 {a:Za} (h:Zek a) (hk:a.Kind=8):NS a.List:=by
 obtain ⟨_,_,_,_,_,_,h8⟩:=h
 obtain ⟨_,_,_,hi⟩:=h8 (by omega)
 have step:∀ i,i + 1 < a.List.length → sLt ((a.List[i]?).getD default).Name ((a.List[i + 1]?).getD default).Name=true:=by
  intro i hi1
  have:=hi (i + 1) hi1
  unfold Zfc at this
  rw [List.getElem?_eq_getElem hi1] at this
  simp only [Nat.add_sub_cancel] at this
  split at this
  ·cases this
  ·split at this
   ·cases this
   ·split at this
    ·cases this
    ·rename_i h3
     rw [List.getElem?_eq_getElem hi1]
     cases hq:sLt ((a.List[i]?).getD default).Name a.List[i + 1].Name
     ·exact absurd ⟨by omega,hk,hq⟩ h3
     ·exact hq
 have far:∀ d i,i + d + 1 < a.List.length → sLt ((a.List[i]?).getD default).Name ((a.List[i + d + 1]?).getD default).Name=true:=by
  intro d
  induction d with
  | zero=>intro i h;exact step i h
  | succ d ih=>intro i h;exact Znv (ih i (by omega)) (step (i + d + 1) (by omega))
 refine List.pairwise_iff_getElem.2 fun i j hi hj hij=>?_
 have:=far (j - i - 1) i (by omega)
 rw [show i + (j - i - 1) + 1=j by omega,List.getElem?_eq_getElem hi,List.getElem?_eq_getElem hj] at this
 exact this
theorem Zne {neg:Bool} {r:Nat} (h:r ≤ Ieee.double.infRung):Ieee.double.word neg r < W64:=by
 have h1:Ieee.double.infRung=9218868437227405312:=by decide
 have h2:Ieee.double.signWeight=9223372036854775808:=by decide
 unfold Ieee.Format.word
 rw [h1] at h
 show _ < 18446744073709551616
 split
 ·rw [h2];omega
 ·omega
theorem Zrh (neg:Bool) (mag:Nat) (place:Int):Ieee.double.nearest neg mag place < W64:=by
 unfold Ieee.Format.nearest
 split
 ·exact Zne (Nat.zero_le _)
 ·exact Zne (Nat.min_le_right _ _)
theorem Zop {d:Ieee.Datum} (h:∀ n f,d ≠ .nan n f):Ieee.double.write d < W64:=by
 cases d with
 | number n m p=>exact Zrh n m p
 | infinity n=>exact Zne (Nat.le_refl _)
 | nan n f=>exact absurd rfl (h n f)
theorem Zwo {x y d:Ieee.Datum} (h:x.sum y=some d):∀ n f,d ≠ .nan n f:=by
 intro n f e
 subst e
 cases x <;> cases y <;> simp [Ieee.Datum.sum] at h
theorem Zpo {x y d:Ieee.Datum} (h:x.product y=some d):∀ n f,d ≠ .nan n f:=by
 intro n f e
 subst e
 cases x <;> cases y <;> simp [Ieee.Datum.product] at h
theorem Zwb (m n:Nat):fadd m n < W64:=by
 unfold fadd Ieee.Format.add
 cases h:(Ieee.double.read m).sum (Ieee.double.read n) with
 | none=>exact (by decide:9221120237041090561 < W64)
 | some d=>simpa using Zop (Zwo h)
theorem Zvv (m n:Nat):fmul m n < W64:=by
 unfold fmul Ieee.Format.mul
 cases h:(Ieee.double.read m).product (Ieee.double.read n) with
 | none=>exact (by decide:9221120237041090561 < W64)
 | some d=>simpa using Zop (Zpo h)
theorem Zks {z:Nat} (hz:z < W64):∃ p,Zfi z=some p ∧ Zdc p=some (Zbn z):=by
 have hz':z < 18446744073709551616:=hz
 unfold Zfi Zdc Zbn NANB
 rw [Zj1 hz]
 simp only [Option.bind_some]
 by_cases hn:isn z
 ·refine ⟨18444492273895866369,by simp [hn];decide,?_⟩
  rw [if_pos (by decide),if_pos hn];decide
 ·simp only [hn,decide_false,Bool.false_eq_true,if_false]
  by_cases ht:(9223372036854775808:Int) ≤ z
  ·rw [if_pos (by simpa using ht)]
   refine ⟨_,rfl,?_⟩
   rw [wru (x:=(9223372036854775808:Int) - 1) (by decide) (by decide),wru (x:=(z:Int) - 9223372036854775808) (by omega) (by omega),wru (by omega) (by omega)]
   rw [if_neg (by simp;omega)]
   rw [wru (x:=(9223372036854775808:Int) - 1 - _) (by omega) (by omega),wru (by omega) (by omega)]
   congr 1;omega
  ·rw [if_neg (by simpa using ht)]
   refine ⟨_,rfl,?_⟩
   rw [wru (by omega) (by omega),if_pos (by simp;omega),wru (by omega) (by omega)]
   congr 1;omega
theorem Ztu {a b:Nat} (ha:a < W64) (hb:b < W64) (ca:a=Zbn a) (cb:b=Zbn b):∃ m,Zg9 a b=some m ∧ Zho a b=some m ∧ (m=a ∨ m=b):=by
 unfold Zg9 Zho
 rw [Zm3 ha hb,Zit ha hb,Zgg ha,Zgg hb,← ca,← cb]
 by_cases h:keyf a < keyf b
 ·exact ⟨b,by simp [h],by simp [h],.inr rfl⟩
 ·exact ⟨a,by simp [h],by simp [h],.inl rfl⟩
theorem Zua {a b:Nat} (ha:a < W64) (hb:b < W64) (ca:a=Zbn a) (cb:b=Zbn b):∃ m,Zhd a b=some m ∧ Zhp a b=some m ∧ (m=a ∨ m=b):=by
 unfold Zhd Zhp
 rw [Zm3 hb ha,Zit hb ha,Zgg ha,Zgg hb,← ca,← cb]
 by_cases h:keyf b < keyf a
 ·exact ⟨b,by simp [h],by simp [h],.inr rfl⟩
 ·exact ⟨a,by simp [h],by simp [h],.inl rfl⟩
def I64 (x:Int):Prop:=-9223372036854775808 ≤ x ∧ x ≤ 9223372036854775807
structure RecW (r:Za):Prop where
 ok:Zfj r
 num:I64 r.Num
 low:I64 r.Low
 high:I64 r.High
 kind:I64 r.Kind
 len:r.List.length ≤ 1000
structure ActW (a:Zm):Prop where
 ok:Zma a
 n:I64 a.N
 mkr:RecW a.Make
 xc:a.X=Zbn a.X
 inout:(a.Kind=10 ∨ a.Kind=11) → 0 ≤ a.N ∧ a.N ≤ 2305843009213693952
 s64:a.S.size ≤ 64
 s16:¬ (5 ≤ a.Kind ∧ a.Kind ≤ 6) → a.S.size ≤ 16
abbrev ans (c:Int):Zd:={ Code:=c,Num:=0,Rec:=default }
def Chg (r:Za) (a:Zm):Prop:=∃ c r' o,Z7 a.Kind r a (default:Zd)=some (c,r',o) ∧ Z6 r a=some (if c=0 then (r',o) else (r,ans c)) ∧ RecW r' ∧ RecW o.Rec ∧ (c=0 → o.Code=0 ∧ o.Num=0)
theorem Zj2 (x:Int):I64 (IntKind.i64.wrap x):=by unfold I64;rw [IntKind.wrap_i64];omega
theorem Zdv:RecW (default:Za):=⟨⟨by decide,by decide,fun e he=>by cases he⟩,by unfold I64;decide,by unfold I64;decide,by unfold I64;decide,by unfold I64;decide,by decide⟩
theorem RecW.withNum {r:Za} (h:RecW r) {x:Int} (hx:I64 x):RecW { r with Num:=x }:=⟨⟨h.ok.real,h.ok.len,h.ok.sc⟩,hx,h.low,h.high,h.kind,h.len⟩
theorem RecW.withText {r:Za} (h:RecW r) (t:ByteArray):RecW { r with Text:=t }:=⟨⟨h.ok.real,h.ok.len,h.ok.sc⟩,h.num,h.low,h.high,h.kind,h.len⟩
theorem RecW.withReal {r:Za} (h:RecW r) {x:Nat} (hx:x < W64):RecW { r with Real:=x }:=⟨⟨hx,h.ok.len,h.ok.sc⟩,h.num,h.low,h.high,h.kind,h.len⟩
theorem RecW.withList {r:Za} (h:RecW r) {l:Zcd} (h1:l.length ≤ 1000) (h2:∀ e ∈ l,e.Score < W64):RecW { r with List:=l }:=⟨⟨h.ok.real,by show l.length < _;omega,h2⟩,h.num,h.low,h.high,h.kind,h1⟩
theorem Zhf {r:Za} (h:r.List.length ≤ 1000):Zc0 r=some r:=by
 unfold Zc0 Z5
 rw [if_pos (by omega)];rfl
theorem Zr6 {r:Za} (h:r.List.length ≤ 1000):Zgf r=some r:=by
 unfold Zgf
 rw [if_pos (by simp;omega)];rfl
variable {r:Za} {a:Zm}
theorem Zwv (h:a.Kind=5) (hr:RecW r):Chg r a:=by
 refine ⟨0,{ r with Text:=a.S },ans 0,?_,?_,hr.withText _,Zdv,fun _=>⟨rfl,rfl⟩⟩
 ·rw [h];rfl
 ·unfold Z6;rw [h];rfl
theorem Zuh (h:a.Kind=6) (hr:RecW r):Chg r a:=by
 refine ⟨0,{ r with Text:=a.S },{ ans 0 with Rec:=r },?_,?_,hr.withText _,hr,fun _=>⟨rfl,rfl⟩⟩
 ·rw [h]
  show Zeq r a default=_
  unfold Zeq
  rw [Zhf hr.len];rfl
 ·unfold Z6;rw [h,Zr6 hr.len];rfl
theorem Zwz (h:a.Kind=7) (hr:RecW r):Chg r a:=by
 refine ⟨0,{ r with Num:=IntKind.i64.wrap (r.Num + a.N) },ans 0,?_,?_,hr.withNum (Zj2 _),Zdv,fun _=>⟨rfl,rfl⟩⟩
 ·rw [h];rfl
 ·unfold Z6;rw [h];rfl
theorem Zsc (hr:I64 r.Num) (hn:I64 a.N):(((decide ((0:Int) < a.N)) && (decide ((IntKind.i64.wrap ((9223372036854775807:Int) - a.N)) < r.Num))) || ((decide (a.N < (0:Int))) && (decide (r.Num < (IntKind.i64.wrap ((-9223372036854775808:Int) - a.N)))))) =
  ((((decide ((0:Int) < r.Num)) && (decide ((0:Int) < a.N))) && (decide ((IntKind.i64.wrap (r.Num + a.N)) < (0:Int)))) || (((decide (r.Num < (0:Int))) && (decide (a.N < (0:Int)))) && (decide ((0:Int) ≤ (IntKind.i64.wrap (r.Num + a.N)))))):=by
 unfold I64 at hr hn
 rw [Bool.eq_iff_iff]
 simp only [Bool.or_eq_true,Bool.and_eq_true,decide_eq_true_eq,IntKind.wrap_i64]
 omega
theorem Zub (h:a.Kind=8) (hr:RecW r) (ha:ActW a):Chg r a:=by
 have e1:Z7 a.Kind r a default=Zhg r a default:=by rw [h];rfl
 have e2:Z6 r a=(Zg8 r.Num a.N).bind fun r7=>(if r7 then (Zl r (ans 9)) else (Zl { r with Num:=IntKind.i64.wrap (r.Num + a.N) } (ans 0))):=by unfold Z6;rw [h];rfl
 have hp:=Zsc hr.num ha.n
 unfold Chg
 rw [e1,e2]
 unfold Zhg Zg8 Zl
 rw [hp]
 simp only [Option.bind_some]
 split
 ·exact ⟨9,r,_,rfl,rfl,hr,Zdv,fun h=>by cases h⟩
 ·exact ⟨0,_,_,rfl,rfl,hr.withNum (Zj2 _),Zdv,fun _=>⟨rfl,rfl⟩⟩
theorem Znp (h:a.Kind=9 ∨ a.Kind=12) (hr:RecW r):Chg r a:=by
 have e1:Z7 a.Kind r a default=Zd2 r a default:=by rcases h with h | h <;> rw [h] <;> rfl
 have e2:Z6 r a=(if (decide (r.Num < a.N)) then (Zl r (ans 11)) else (Zl r (ans 0))):=by rcases h with h | h <;> unfold Z6 Zbj <;> rw [h] <;> rfl
 unfold Chg
 rw [e1,e2]
 unfold Zd2 Zl
 split
 ·exact ⟨11,r,_,rfl,rfl,hr,Zdv,fun h=>by cases h⟩
 ·exact ⟨0,r,_,rfl,rfl,hr,Zdv,fun _=>⟨rfl,rfl⟩⟩
theorem Zvi (hg:Zek r) (hk:r.Kind=4):-2305843009213693952 ≤ r.Low ∧ r.High ≤ 2305843009213693952 ∧ r.Low ≤ r.Num ∧ r.Num ≤ r.High:=hg.2.2.2.2.1 hk
theorem Zxb (h:a.Kind=10) (hr:RecW r) (hg:Zek r) (hk:r.Kind=4) (ha:ActW a):Chg r a:=by
 have e1:Z7 a.Kind r a default=Zeo r a default:=by rw [h];rfl
 have e2:Z6 r a=(if (decide (r.High < IntKind.i64.wrap (r.Num + a.N))) then (Zl r (ans 9)) else (Zl { r with Num:=IntKind.i64.wrap (r.Num + a.N) } (ans 0))):=by unfold Z6 Zbj;rw [h];rfl
 obtain ⟨p1,p2,p3,p4⟩:=Zvi hg hk
 obtain ⟨n1,n2⟩:=ha.inout (.inl h)
 have hd:decide (IntKind.i64.wrap (r.High - r.Num) < a.N)=decide (r.High < IntKind.i64.wrap (r.Num + a.N)):=by
  rw [wr (x:=r.High - r.Num) (by omega) (by omega),wr (x:=r.Num + a.N) (by omega) (by omega)]
  apply decide_eq_decide.2;omega
 unfold Chg
 rw [e1,e2]
 unfold Zeo Zl
 rw [hd]
 split
 ·exact ⟨9,r,_,rfl,rfl,hr,Zdv,fun h=>by cases h⟩
 ·exact ⟨0,_,_,rfl,rfl,hr.withNum (Zj2 _),Zdv,fun _=>⟨rfl,rfl⟩⟩
theorem Zvx (h:a.Kind=11) (hr:RecW r) (hg:Zek r) (hk:r.Kind=4) (ha:ActW a):Chg r a:=by
 have e1:Z7 a.Kind r a default=Zem r a default:=by rw [h];rfl
 have e2:Z6 r a=(if (decide (IntKind.i64.wrap (r.Num - a.N) < r.Low)) then (Zl r (ans 10)) else (Zl { r with Num:=IntKind.i64.wrap (r.Num - a.N) } (ans 0))):=by unfold Z6 Zbj;rw [h];rfl
 obtain ⟨p1,p2,p3,p4⟩:=Zvi hg hk
 obtain ⟨n1,n2⟩:=ha.inout (.inr h)
 have hd:decide (IntKind.i64.wrap (r.Num - r.Low) < a.N)=decide (IntKind.i64.wrap (r.Num - a.N) < r.Low):=by
  rw [wr (x:=r.Num - r.Low) (by omega) (by omega),wr (x:=r.Num - a.N) (by omega) (by omega)]
  apply decide_eq_decide.2;omega
 unfold Chg
 rw [e1,e2]
 unfold Zem Zl
 rw [hd]
 split
 ·exact ⟨10,r,_,rfl,rfl,hr,Zdv,fun h=>by cases h⟩
 ·exact ⟨0,_,_,rfl,rfl,hr.withNum (Zj2 _),Zdv,fun _=>⟨rfl,rfl⟩⟩
theorem Zi3 {m:Nat} {ψ:Nat → Nat → Option Nat} (h:Z7 a.Kind r a default=Zcg ψ r a default) (h1:ψ r.Real a.X=some m) (hm:m < W64) (h2:Z6 r a=some ({ r with Real:=m },ans 0)) (hr:RecW r):Chg r a:=by
 refine ⟨0,{ r with Real:=m },ans 0,?_,h2,hr.withReal hm,Zdv,fun _=>⟨rfl,rfl⟩⟩
 rw [h]
 unfold Zcg
 rw [h1];rfl
theorem Znn (hg:Zek r):r.Real=Zbn r.Real:=hg.2.2.2.2.2.1
theorem Zsd (h:a.Kind=13) (hr:RecW r) (hg:Zek r) (ha:ActW a):Chg r a:=by
 obtain ⟨m,m1,m2,m3⟩:=Ztu hr.ok.real ha.ok.2 (Znn hg) ha.xc
 refine Zi3 (m:=m) (ψ:=fun x y=>Zg9 x y) (by rw [h];rfl) m1 (by rcases m3 with rfl | rfl;exact hr.ok.real;exact ha.ok.2) ?_ hr
 unfold Z6 Zbj;rw [h,m2];rfl
theorem Zrx (h:a.Kind=14) (hr:RecW r) (hg:Zek r) (ha:ActW a):Chg r a:=by
 obtain ⟨m,m1,m2,m3⟩:=Zua hr.ok.real ha.ok.2 (Znn hg) ha.xc
 refine Zi3 (m:=m) (ψ:=fun x y=>Zhd x y) (by rw [h];rfl) m1 (by rcases m3 with rfl | rfl;exact hr.ok.real;exact ha.ok.2) ?_ hr
 unfold Z6 Zbj;rw [h,m2];rfl
theorem Zs3 (h:a.Kind=15) (hr:RecW r):Chg r a:=by
 have hz:=Zwb r.Real a.X
 obtain ⟨p,p1,p2⟩:=Zks hz
 refine Zi3 (m:=Zbn (fadd r.Real a.X)) (ψ:=fun x y=>Zge x y) (by rw [h];rfl) (by show Zge r.Real a.X=_;unfold Zge;rw [Zgg hz];rfl) (Zlx hz) ?_ hr
 unfold Z6 Zbj;rw [h,p1]
 show ((Zdc p).bind _)=_
 rw [p2];rfl
theorem Ztj (h:a.Kind=16) (hr:RecW r):Chg r a:=by
 have hz:=Zvv r.Real a.X
 obtain ⟨p,p1,p2⟩:=Zks hz
 refine Zi3 (m:=Zbn (fmul r.Real a.X)) (ψ:=fun x y=>Zfq x y) (by rw [h];rfl) (by show Zfq r.Real a.X=_;unfold Zfq;rw [Zgg hz];rfl) (Zlx hz) ?_ hr
 unfold Z6 Zbj;rw [h,p1]
 show ((Zdc p).bind _)=_
 rw [p2];rfl
theorem Zwt (h:a.Kind=17) (hr:RecW r) (ha:ActW a):Chg r a:=by
 refine Zi3 (m:=a.X) (ψ:=fun x y=>Zep x y) (by rw [h];rfl) rfl ha.ok.2 ?_ hr
 unfold Z6 Zbj;rw [h];rfl
theorem Zny (hg:Zek r) (hk:8 ≤ r.Kind):1 ≤ r.Cap ∧ r.Cap ≤ 32 ∧ (r.List.length:Int) ≤ r.Cap:=by
 obtain ⟨h1,h2,h3,_⟩:=hg.2.2.2.2.2.2 hk
 exact ⟨h1,h2,h3⟩
theorem Zvo (h:a.Kind=20) (hr:RecW r) (hg:Zek r) (hk:r.Kind=8):Chg r a:=by
 have hs:=Zj7 hg hk
 have hl:=hr.len
 have e1:Z7 a.Kind r a default=Zen r a default:=by rw [h];rfl
 have e2:Z6 r a=(Zd9 r.List a.S).bind fun r59=>(if (!r59) then (Zl r (ans 11)) else (Zl r (ans 0))):=by unfold Z6 Zbj;rw [h];rfl
 unfold Chg
 rw [e1,e2]
 unfold Zen Zl
 rw [Zmy hs (by omega),Zr8 (by omega),Zpc hs]
 simp only [Option.bind_some]
 split
 ·exact ⟨11,r,_,rfl,rfl,hr,Zdv,fun h=>by cases h⟩
 ·exact ⟨0,r,_,rfl,rfl,hr,Zdv,fun _=>⟨rfl,rfl⟩⟩
theorem Ztp (h:a.Kind=18) (hr:RecW r) (hg:Zek r) (hk:r.Kind=8):Chg r a:=by
 have hs:=Zj7 hg hk
 have hl:=hr.len
 obtain ⟨c1,c2,c3⟩:=Zny hg (by omega)
 have e1:Z7 a.Kind r a default=Zgh r a default:=by rw [h];rfl
 have e2:Z6 r a=(Zd9 r.List a.S).bind fun r40=>(if ((!r40) && (decide (r.Cap ≤ (r.List.length:Int)))) then (Zl r (ans 8)) else ((Zdq r.List ({ Score:=(0:Nat),Name:=a.S }:Zc) true).bind fun r43=>(Zl ({ r with List:=r43 }) (ans 0)))):=by unfold Z6 Zbj;rw [h];rfl
 have hple:=Zko (fun e=>sLt e.Name a.S) r.List
 unfold Chg
 rw [e1,e2]
 unfold Zgh Zl
 rw [Zmy hs (by omega),Zr8 (by omega),Zpc hs,Zqu (show (0:Nat) < W64 by decide) hr.ok.sc (by omega),Zsi,Zm7 (by omega)]
 simp only [Option.bind_some]
 by_cases hat:isAt a.S r.List=true
 ·rw [hat]
  exact ⟨0,r,_,rfl,rfl,hr,Zdv,fun _=>⟨rfl,rfl⟩⟩
 ·have hat':isAt a.S r.List=false:=by simpa using hat
  rw [hat']
  simp only [Bool.not_false,Bool.true_and,Bool.false_eq_true,if_false]
  by_cases hc:decide (r.Cap ≤ (r.List.length:Int))=true
  ·rw [if_pos hc,if_pos hc]
   exact ⟨8,r,_,rfl,rfl,hr,Zdv,fun h=>by cases h⟩
  ·rw [if_neg hc,if_neg hc]
   unfold Zbe
   rw [if_pos ⟨by omega,by omega,by simp,by simp;omega⟩]
   refine ⟨0,_,_,rfl,rfl,hr.withList (by simp;omega) fun e he=>?_,Zdv,fun _=>⟨rfl,rfl⟩⟩
   simp only [List.mem_append,List.mem_singleton,Int.toNat_natCast] at he
   rcases he with (he | rfl) | he
   ·exact hr.ok.sc e (List.mem_of_mem_take he)
   ·exact (show (0:Nat) < W64 by decide)
   ·exact hr.ok.sc e (List.mem_of_mem_drop he)
theorem Zs2 (h:a.Kind=19) (hr:RecW r) (hg:Zek r) (hk:r.Kind=8):Chg r a:=by
 have hs:=Zj7 hg hk
 have hl:=hr.len
 have e1:Z7 a.Kind r a default=Zds r a default:=by rw [h];rfl
 have e2:Z6 r a=(Zcy r a (Int.toNat ((r.List.length:Int) - (0:Int)) + 1) ([]:List Zc) (0:Int)).bind fun z57=>match z57 with | y56=>(Zl ({ r with List:=y56 }) (ans 0)):=by unfold Z6 Zbj;rw [h];rfl
 have hple:=Zko (fun e=>sLt e.Name a.S) r.List
 unfold Chg
 rw [e1,e2]
 unfold Zds Zl
 have hf:=Zkz (a:=a) (a0:=r) (by omega) r.List.length 0 [] (by omega) (by simp)
 rw [show ((0:Nat):Int)=0 from rfl] at hf
 rw [Zmy hs (by omega),show (Int.toNat ((r.List.length:Int) - (0:Int)) + 1)=r.List.length + 1 by omega,hf,List.drop_zero,List.nil_append,Zsx hs,Zm7 (by omega)]
 simp only [Option.bind_some]
 by_cases hat:isAt a.S r.List=true
 ·have hp:pre (fun e=>sLt e.Name a.S) r.List < r.List.length:=by
   unfold isAt at hat
   cases hq:r.List[pre (fun e=>sLt e.Name a.S) r.List]? with
   | none=>rw [hq] at hat;cases hat
   | some e=>exact (List.getElem?_eq_some_iff.1 hq).1
  rw [hat]
  simp only [if_true]
  unfold Zbz
  rw [wr1 (by omega),if_pos ⟨by omega,by omega,by omega,by omega,by omega⟩]
  refine ⟨0,_,_,rfl,rfl,hr.withList (by simp;omega) fun e he=>?_,Zdv,fun _=>⟨rfl,rfl⟩⟩
  simp only [List.mem_append,Int.toNat_natCast] at he
  rcases he with he | he
  ·exact hr.ok.sc e (List.mem_of_mem_take he)
  ·exact hr.ok.sc e (List.mem_of_mem_drop he)
 ·have hat':isAt a.S r.List=false:=by simpa using hat
  rw [hat']
  exact ⟨0,r,_,rfl,rfl,hr,Zdv,fun _=>⟨rfl,rfl⟩⟩
variable {r:Za} {a:Zm}
theorem Zuq {l:Zcd} {c:Int} (h1:1 ≤ c) (h2:c ≤ 32):cut l 0 (min (l.length:Int) c)=some (l.take c.toNat):=by
 unfold cut
 rw [if_pos (by omega)]
 simp only [Int.toNat_zero,List.drop_zero,Nat.sub_zero]
 congr 1
 rcases Int.le_total (l.length:Int) c with h | h
 ·rw [Int.min_eq_left h,Int.toNat_natCast,List.take_of_length_le (Nat.le_refl _),List.take_of_length_le (by omega)]
 ·rw [Int.min_eq_right h]
theorem Zsu (h:a.Kind=21) (hr:RecW r) (hg:Zek r) (hk:r.Kind=9) (ha:ActW a):Chg r a:=by
 have hl:=hr.len
 obtain ⟨c1,c2,c3⟩:=Zny hg (by omega)
 have e1:Z7 a.Kind r a default=Zfz r a default:=by rw [h];rfl
 have e2:Z6 r a=(Zdq r.List ({ Score:=a.X,Name:=a.S }:Zc) false).bind fun r63=>(if (decide (r.Cap < (r63.length:Int))) then ((cut r63 (0:Int) r.Cap).bind fun c66=>(Zcw r c66)) else (Zcw r r63)):=by unfold Z6 Zbj;rw [h];rfl
 have hx:({ Score:=a.X,Name:=a.S }:Zc).Score < W64:=ha.ok.2
 have hple:=Zko (Zcr { Score:=a.X,Name:=a.S } false) r.List
 unfold Chg
 rw [e1,e2]
 unfold Zfz
 rw [Zrw ha.ok.2 hr.ok.sc (by omega),Zqu hx hr.ok.sc (by omega),Zm7 (by omega)]
 simp only [Option.bind_some]
 have fin:∀ L:Zcd,L=r.List.take (pre (Zcr { Score:=a.X,Name:=a.S } false) r.List) ++ [{ Score:=a.X,Name:=a.S }] ++ r.List.drop (pre (Zcr { Score:=a.X,Name:=a.S } false) r.List) → layL { Score:=a.X,Name:=a.S } false r.List=L →
   ∃ c r' o,((Zbe r.List ((pre (Zcr { Score:=a.X,Name:=a.S } false) r.List:Nat):Int) ([({ Score:=a.X,Name:=a.S }:Zc)]:List Zc)).bind fun r16=>((cut r16 (0:Int) (min (r16.length:Int) r.Cap)).bind fun c18=>(some ((0:Int),({ r with List:=c18 }),(default:Zd)))))=some (c,r',o) ∧
    (if (decide (r.Cap < ((layL { Score:=a.X,Name:=a.S } false r.List).length:Int)))=true then ((cut (layL { Score:=a.X,Name:=a.S } false r.List) (0:Int) r.Cap).bind fun c66=>(Zcw r c66)) else (Zcw r (layL { Score:=a.X,Name:=a.S } false r.List)))=some (if c=0 then (r',o) else (r,ans c)) ∧ RecW r' ∧ RecW o.Rec ∧ (c=0 → o.Code=0 ∧ o.Num=0):=by
  intro L hL hlay
  have hLl:L.length=r.List.length + 1:=by rw [hL];simp;omega
  have hLs:∀ e ∈ L,e.Score < W64:=fun e he=>by
   rw [hL] at he
   simp only [List.mem_append,List.mem_singleton] at he
   rcases he with (he | rfl) | he
   ·exact hr.ok.sc e (List.mem_of_mem_take he)
   ·exact hx
   ·exact hr.ok.sc e (List.mem_of_mem_drop he)
  rw [hlay]
  unfold Zbe Zcw Zl
  rw [if_pos ⟨by omega,by omega,by simp,by simp;omega⟩]
  simp only [Option.bind_some,Int.toNat_natCast]
  rw [← hL,Zuq c1 c2]
  refine ⟨0,{ r with List:=L.take r.Cap.toNat },ans 0,rfl,?_,hr.withList (by simp;omega) (fun e he=>hLs e (List.mem_of_mem_take he)),Zdv,fun _=>⟨rfl,rfl⟩⟩
  by_cases hc:decide (r.Cap < (L.length:Int))=true
  ·rw [if_pos hc]
   have:r.Cap < (L.length:Int):=of_decide_eq_true hc
   unfold cut
   rw [if_pos (by omega)]
   simp
  ·rw [if_neg hc]
   have:¬ r.Cap < (L.length:Int):=fun h=>hc (decide_eq_true h)
   rw [List.take_of_length_le (by omega)];rfl
 by_cases hp:pre (Zcr { Score:=a.X,Name:=a.S } false) r.List < r.List.length
 ·have hd:decide (((pre (Zcr { Score:=a.X,Name:=a.S } false) r.List:Nat):Int) < (r.List.length:Int))=true:=by simpa using hp
  have hat:=Zmv (List.getElem?_eq_getElem hp)
  have hb:Zdu r.List[pre (Zcr { Score:=a.X,Name:=a.S } false) r.List] { Score:=a.X,Name:=a.S }=false:=hat
  have hbs:=Zpt hb
  rw [hd,Zc9 hp]
  simp only [gd_t,Option.bind_some,Bool.true_and]
  rw [Zk4 hx (hr.ok.sc _ (List.getElem_mem hp))]
  simp only [Option.bind_some]
  by_cases hs:(!Zdu { Score:=a.X,Name:=a.S } r.List[pre (Zcr { Score:=a.X,Name:=a.S } false) r.List])=true
  ·rw [if_pos hs]
   have hlay:layL { Score:=a.X,Name:=a.S } false r.List=r.List:=by
    unfold layL
    rw [List.getElem?_eq_getElem hp]
    simp only
    rw [if_pos (by rw [← hbs];exact hs),List.append_nil,List.take_append_drop]
   rw [hlay,if_neg (by simp;omega)]
   exact ⟨0,r,_,rfl,rfl,hr,Zdv,fun _=>⟨rfl,rfl⟩⟩
  ·rw [if_neg hs]
   refine fin _ rfl ?_
   unfold layL
   rw [List.getElem?_eq_getElem hp]
   simp only
   rw [if_neg (by rw [← hbs];exact hs)]
 ·have hd:decide (((pre (Zcr { Score:=a.X,Name:=a.S } false) r.List:Nat):Int) < (r.List.length:Int))=false:=by simpa using hp
  rw [hd]
  simp only [gd_f,Option.bind_some,Bool.false_and,Bool.false_eq_true,if_false]
  refine fin _ rfl ?_
  unfold layL
  rw [List.getElem?_eq_none (by omega),List.take_of_length_le (by omega),List.drop_of_length_le (by omega),List.append_nil]
theorem Zqb {k:Int} (h1:1 ≤ k) (h2:k ≤ 21):∃ on,Zjp k=some on ∧ Zfo k=some on ∧ (k ≤ 4 → on=0) ∧ (5 ≤ k → on ≠ 0) ∧ ((k=10 ∨ k=11) → on=4) ∧ ((k=18 ∨ k=19 ∨ k=20) → on=8) ∧ (k=21 → on=9) ∧
  ((k=5 ∨ k=6) → on=1) ∧ (k=7 → on=2) ∧ ((k=8 ∨ k=9) → on=3) ∧ (k=12 → on=4) ∧ (k=13 → on=5) ∧ (k=14 → on=6) ∧ ((k=15 ∨ k=16 ∨ k=17) → on=7):=by
 have hk':k=1 ∨ k=2 ∨ k=3 ∨ k=4 ∨ k=5 ∨ k=6 ∨ k=7 ∨ k=8 ∨ k=9 ∨ k=10 ∨ k=11 ∨ k=12 ∨ k=13 ∨ k=14 ∨ k=15 ∨ k=16 ∨ k=17 ∨ k=18 ∨ k=19 ∨ k=20 ∨ k=21:=by omega
 rcases hk' with rfl | rfl | rfl | rfl | rfl | rfl | rfl | rfl | rfl | rfl | rfl | rfl | rfl | rfl | rfl | rfl | rfl | rfl | rfl | rfl | rfl
 all_goals first
  | exact ⟨0,by kernel_rfl,by kernel_rfl,by decide⟩
  | exact ⟨1,by kernel_rfl,by kernel_rfl,by decide⟩
  | exact ⟨2,by kernel_rfl,by kernel_rfl,by decide⟩
  | exact ⟨3,by kernel_rfl,by kernel_rfl,by decide⟩
  | exact ⟨4,by kernel_rfl,by kernel_rfl,by decide⟩
  | exact ⟨5,by kernel_rfl,by kernel_rfl,by decide⟩
  | exact ⟨6,by kernel_rfl,by kernel_rfl,by decide⟩
  | exact ⟨7,by kernel_rfl,by kernel_rfl,by decide⟩
  | exact ⟨8,by kernel_rfl,by kernel_rfl,by decide⟩
  | exact ⟨9,by kernel_rfl,by kernel_rfl,by decide⟩
theorem Zv6 (h5:5 ≤ a.Kind) (h21:a.Kind ≤ 21) (hr:RecW r) (hg:Zek r) (hon:Zjp a.Kind=some r.Kind) (ha:ActW a):Chg r a:=by
 obtain ⟨on,o1,_,_,_,k10,k18,k21,_⟩:=Zqb (k:=a.Kind) (by omega) h21
 rw [hon] at o1
 obtain rfl:=Option.some.inj o1
 have hk':a.Kind=5 ∨ a.Kind=6 ∨ a.Kind=7 ∨ a.Kind=8 ∨ a.Kind=9 ∨ a.Kind=10 ∨ a.Kind=11 ∨ a.Kind=12 ∨ a.Kind=13 ∨ a.Kind=14 ∨ a.Kind=15 ∨ a.Kind=16 ∨ a.Kind=17 ∨ a.Kind=18 ∨ a.Kind=19 ∨ a.Kind=20 ∨ a.Kind=21:=by omega
 rcases hk' with h | h | h | h | h | h | h | h | h | h | h | h | h | h | h | h | h
 ·exact Zwv h hr
 ·exact Zuh h hr
 ·exact Zwz h hr
 ·exact Zub h hr ha
 ·exact Znp (.inl h) hr
 ·exact Zxb h hr hg (k10 (.inl h)) ha
 ·exact Zvx h hr hg (k10 (.inr h)) ha
 ·exact Znp (.inr h) hr
 ·exact Zsd h hr hg ha
 ·exact Zrx h hr hg ha
 ·exact Zs3 h hr
 ·exact Ztj h hr
 ·exact Zwt h hr ha
 ·exact Ztp h hr hg (k18 (.inl h))
 ·exact Zs2 h hr hg (k18 (.inr (.inl h)))
 ·exact Zvo h hr hg (k18 (.inr (.inr h)))
 ·exact Zsu h hr hg (k21 h) ha
structure ActIn (a:Zm):Prop where
 ok:Zma a
 n:I64 a.N
 mkr:RecW a.Make
theorem ActIn.w {a:Zm} (h:ActIn a) {c:Int} (hc:1 ≤ a.Kind ∧ a.Kind ≤ 21 ∧ a.X=Zbn a.X ∧ a.S.size ≤ 64 ∧ ((a.Kind=10 ∨ a.Kind=11) → 0 ≤ a.N ∧ a.N ≤ 2305843009213693952) ∧ (a.Kind=1 → Zcs a.Make=some 0) ∧ (¬ (5 ≤ a.Kind ∧ a.Kind ≤ 6) → a.S.size ≤ 16) ∧ sEq a.Key ⟨#[]⟩=false ∧ a.Key.size ≤ 24):ActW a :=
 ⟨h.ok,h.n,h.mkr,hc.2.2.1,hc.2.2.2.2.1,hc.2.2.2.1,hc.2.2.2.2.2.2.1⟩
theorem Zqz {x:Za} (h:Zex x):x.List.length ≤ 9223372036854775807:=by
 obtain ⟨_,_,_,_,_,_,_,h8,_⟩:=h
 simp only [maxLen] at h8;omega
theorem Zm1 {x:Za} (h:Zex x) (hl:x.List.length ≤ 100):RecW x:=by
 obtain ⟨h1,h2,h3,h4,h5,_,_,h8,h9⟩:=h
 exact ⟨⟨h5,by omega,fun e he=>(h9 e he).1⟩,h2,h3,h4,h1,by omega⟩
theorem eqLr:∀ l:List Zc,eqL l l=true
 | []=>rfl
 | x :: l=>by simp [eqL,eqI,Zjv,eqLr l]
theorem Zxv (a:Za):Zh3 a a=true:=by simp [Zh3,Zjv,eqLr]
theorem Zuk {a:Zm} (h:Zgo a) (hl:a.Make.List.length ≤ 100):ActIn a:=by
 obtain ⟨_,_,h3,h4,_,h6,_⟩:=h
 exact ⟨⟨(Zm1 h6 hl).ok,h4⟩,h3,Zm1 h6 hl⟩
theorem Zzl {a:Zm} (h:Zgo a):∃ c,Ze2 a=some c ∧ (c=0 ∨ c=1) ∧ (c=0 → a.Make.List.length ≤ 100):=by
 obtain ⟨c,e1,e2,e3⟩:=Zut (Zqz h.2.2.2.2.2.1)
 unfold Ze2
 rw [e1]
 by_cases hk:(decide ((200:Int) < (a.Key.size:Int)) || decide ((1000:Int) < (a.S.size:Int)))=true
 ·rw [hk];exact ⟨1,rfl,.inr rfl,fun h=>by cases h⟩
 ·have hk':=Bool.eq_false_iff.2 hk
  rw [hk']
  rcases e2 with rfl | rfl
  ·exact ⟨0,rfl,.inl rfl,fun _=>e3 rfl⟩
  ·exact ⟨1,rfl,.inr rfl,fun h=>by cases h⟩
theorem Znt {l:List Zm} (hl:l.length ≤ 30) (hw:∀ o ∈ l,Zgo o):∀ (n i:Nat),i + n=l.length → (Zb8 l (n + 1) (i:Int)=some (.inl true)) ∨ (Zb8 l (n + 1) (i:Int)=some (.inr ()) ∧ ∀ o ∈ l.drop i,o.Make.List.length ≤ 100)
 | 0,i,h=>by
  right
  rw [Zb8,if_neg (by simp;omega),List.drop_of_length_le (by omega)]
  exact ⟨rfl,fun o ho=>by cases ho⟩
 | n + 1,i,h=>by
  have h1:i < l.length:=by omega
  obtain ⟨c,e1,e2,e3⟩:=Zzl (hw _ (List.getElem_mem h1))
  rw [Zb8,if_pos (by simp;omega),Zc9 h1,wr1 (by omega)]
  simp only [Option.bind_some]
  rw [e1]
  rcases e2 with rfl | rfl
  ·simp only [Int.lt_irrefl,decide_false,Bool.false_eq_true,if_false,Option.bind_some]
   rcases Znt hl hw n (i + 1) (by omega) with h2 | ⟨h2,h3⟩
   ·exact .inl h2
   ·right
    refine ⟨h2,fun o ho=>?_⟩
    rw [List.drop_eq_getElem_cons h1] at ho
    rcases List.mem_cons.1 ho with rfl | ho
    ·exact e3 rfl
    ·exact h3 o ho
  ·left;rfl
theorem big5 {r:Za} {l:List Zm} (hr:Zex r) (hw:∀ o ∈ l,Zgo o):Zc1 r l=some true ∨ (Zc1 r l=some false ∧ RecW r ∧ l.length ≤ 30 ∧ ∀ o ∈ l,ActIn o):=by
 obtain ⟨c,e1,e2,e3⟩:=Zut (Zqz hr)
 unfold Zc1
 rw [e1]
 simp only [Option.bind_some]
 rcases e2 with rfl | rfl
 ·by_cases h:(30:Int) < l.length
  ·left;simp [h]
  ·rw [if_neg (by simp;omega),show (Int.toNat ((l.length:Int) - (0:Int)) + 1)=l.length + 1 by omega]
   have:=Znt (l:=l) (by omega) hw l.length 0 (by omega)
   rw [show ((0:Nat):Int)=0 from rfl] at this
   rcases this with h1 | ⟨h1,h2⟩
   ·left;rw [h1];rfl
   ·right;rw [h1];exact ⟨rfl,Zm1 hr (e3 rfl),by omega,fun o ho=>Zuk (hw o ho) (h2 o ho)⟩
 ·left;rfl
theorem Zww:Ze9=some true:=by kernel_rfl
def Zre (r0:Za) (there:Bool) (a:Zm) (z:Za × Bool × Zd):Prop :=
 (∃ c,c ≠ 0 ∧ z=(r0,there,ans c)) ∨ (Ze8 a=some 0 ∧ ActW a ∧ (there=true → Zek r0) ∧
  ((a.Kind=1 ∧ there=false ∧ Zek a.Make ∧ z=(a.Make,true,ans 0)) ∨ (a.Kind=2 ∧ there=true ∧ z=(zrc,false,ans 0)) ∨ (a.Kind=3 ∧ z=(r0,there,{ ans 0 with Num:=r0.Kind })) ∨ (a.Kind=4 ∧ there=true ∧ z=(r0,true,{ ans 0 with Rec:=r0 })) ∨
   (5 ≤ a.Kind ∧ a.Kind ≤ 21 ∧ there=true ∧ Zjp a.Kind=some r0.Kind ∧ ∃ r' o,Z7 a.Kind r0 a default=some (0,r',o) ∧ o.Code=0 ∧ o.Num=0 ∧ RecW r' ∧ RecW o.Rec ∧ z=(r',true,o))))
theorem Zp2 {r:Za} {there:Bool} {a:Zm} (hr:RecW r) (ha:ActIn a):∃ z,Ze6 r there a=some z ∧ Zre (if there=true then r else zrc) there a z:=by
 suffices hs:∀ r0:Za,RecW r0 → ∃ z,Zev there a r0=some z ∧ Zre r0 there a z by
  unfold Ze6
  cases there
  ·exact hs _ Zdv
  ·exact hs r hr
 intro r0 hr0
 unfold Zev
 rw [Zhf hr0.len]
 obtain ⟨c,h1,h2,h3⟩:=Zrv ha.ok
 rw [h1]
 simp only [Option.bind_some]
 by_cases hc:c=0
 ·subst hc
  have hf:=h3 rfl
  have hw:=ha.w (c:=0) hf
  obtain ⟨on2,o1,o2,o3,o4,_⟩:=Zqb hf.1 hf.2.1
  have main:(there=true → Zek r0) → ∃ z,Zeu there a r0=some z ∧ Zre r0 there a z:=by
   intro hg
   unfold Zeu Zd1
   rw [o1,Zhf hr0.len,Zhf ha.mkr.len]
   simp only [Option.bind_some]
   by_cases k1:a.Kind=1
   ·have hm:Zek a.Make:=(Zml ha.mkr.ok).1 (hf.2.2.2.2.2.1 k1)
    rw [k1]
    cases there
    ·exact ⟨_,rfl,.inr ⟨h1,hw,hg,.inl ⟨k1,rfl,hm,rfl⟩⟩⟩
    ·exact ⟨_,rfl,.inl ⟨7,by decide,rfl⟩⟩
   ·by_cases k3:a.Kind=3
    ·rw [k3]
     exact ⟨_,rfl,.inr ⟨h1,hw,hg,.inr (.inr (.inl ⟨k3,rfl⟩))⟩⟩
    ·by_cases k2:a.Kind=2
     ·rw [k2]
      cases there
      ·exact ⟨_,rfl,.inl ⟨6,by decide,rfl⟩⟩
      ·exact ⟨_,rfl,.inr ⟨h1,hw,hg,.inr (.inl ⟨k2,rfl,rfl⟩)⟩⟩
     ·by_cases k4:a.Kind=4
      ·rw [k4]
       cases there
       ·exact ⟨_,rfl,.inl ⟨6,by decide,rfl⟩⟩
       ·exact ⟨_,rfl,.inr ⟨h1,hw,hg,.inr (.inr (.inr (.inl ⟨k4,rfl,rfl⟩)))⟩⟩
      ·have h5:5 ≤ a.Kind:=by omega
       have b1:(a.Kind == 1)=false:=by simpa using k1
       have b2:(a.Kind == 2)=false:=by simpa using k2
       have b3:(a.Kind == 3)=false:=by simpa using k3
       have b4:(a.Kind == 4)=false:=by simpa using k4
       simp only [b1,b2,b3,b4,Bool.false_and,Bool.false_eq_true,if_false]
       cases there
       ·exact ⟨_,rfl,.inl ⟨6,by decide,rfl⟩⟩
       ·simp only [Bool.not_true,Bool.false_eq_true,if_false]
        by_cases hk:(on2 != r0.Kind)=true
        ·rw [if_pos hk]
         exact ⟨_,rfl,.inl ⟨5,by decide,rfl⟩⟩
        ·rw [if_neg hk,if_pos ⟨h5,hf.2.1⟩]
         have hk':on2=r0.Kind:=by simpa using hk
         obtain ⟨c,r',o,e1,e2,w1,w2,w3⟩:=Zv6 h5 hf.2.1 hr0 (hg rfl) (by rw [← hk'];exact o1) hw
         rw [e1]
         simp only [Option.bind_some]
         by_cases hc:c=0
         ·subst hc
          exact ⟨(r',true,o),rfl,.inr ⟨h1,hw,hg,.inr (.inr (.inr (.inr ⟨h5,hf.2.1,rfl,by rw [← hk'];exact o1,r',o,e1,(w3 rfl).1,(w3 rfl).2,w1,w2,rfl⟩)))⟩⟩
         ·have hcn:(c != 0)=true:=by simpa using hc
          rw [if_pos hcn]
          exact ⟨_,rfl,.inl ⟨c,hc,rfl⟩⟩
  have z1:((0:Int) != 0)=false:=rfl
  rw [z1]
  simp only [Bool.false_eq_true,if_false]
  by_cases ht:there=true
  ·rw [if_pos ht]
   obtain ⟨c2,g1,g2⟩:=Zjw hr0.ok
   rw [g1]
   simp only [Option.bind_some]
   by_cases hc2:c2=0
   ·subst hc2
    rw [z1]
    exact main fun _=>(Zml hr0.ok).1 g1
   ·have hcn:(c2 != 0)=true:=by simpa using hc2
    rw [if_pos hcn]
    exact ⟨_,rfl,.inl ⟨c2,hc2,rfl⟩⟩
  ·rw [if_neg ht]
   exact main fun h=>absurd h ht
 ·have hcn:(c != 0)=true:=by simpa using hc
  rw [if_pos hcn]
  exact ⟨_,rfl,.inl ⟨c,hc,rfl⟩⟩
def Nm (l:List Zc):Prop:=∀ e ∈ l,e.Name.size ≤ 1000
theorem Zjl:Nm []:=fun e h=>by cases h
theorem Zo3 {a b:List Zc} (ha:Nm a) (hb:Nm b):Nm (a ++ b):=fun e h=>(List.mem_append.1 h).elim (ha e) (hb e)
theorem Zmz {a:List Zc} (h:Nm a) (n:Nat):Nm (a.take n):=fun e he=>h e (List.mem_of_mem_take he)
theorem Zm2 {a:List Zc} (h:Nm a) (n:Nat):Nm (a.drop n):=fun e he=>h e (List.mem_of_mem_drop he)
theorem Zs8 {x:Zc} (h:x.Name.size ≤ 1000):Nm [x]:=fun e he=>by rw [List.mem_singleton.1 he];exact h
theorem Zjr {a b:List Zc} (h:Z5 a=some b) (ha:Nm a):Nm b:=by
 unfold Z5 at h
 obtain ⟨_,h⟩:=Zgx h
 obtain rfl:=Option.some.inj h
 exact ha
theorem Zsm {a b c:List Zc} {i:Int} (h:Zbe a i c=some b) (ha:Nm a) (hc:Nm c):Nm b:=by
 unfold Zbe at h
 obtain ⟨_,h⟩:=Zgx h
 obtain rfl:=Option.some.inj h
 exact Zo3 (Zo3 (Zmz ha _) hc) (Zm2 ha _)
theorem Zx3 {a b:List Zc} {i j:Int} (h:Zbz a i j=some b) (ha:Nm a):Nm b:=by
 unfold Zbz at h
 obtain ⟨_,h⟩:=Zgx h
 obtain rfl:=Option.some.inj h
 exact Zo3 (Zmz ha _) (Zm2 ha _)
theorem Zw8 {a b:List Zc} {i j:Int} (h:cut a i j=some b) (ha:Nm a):Nm b:=by
 unfold cut at h
 obtain ⟨_,h⟩:=Zgx h
 obtain rfl:=Option.some.inj h
 exact Zmz (Zm2 ha _) _
abbrev NmR (z:Int × Za × Zd):Prop:=Nm z.2.1.List ∧ Nm z.2.2.Rec.List
theorem Zct:Nm (default:Zd).Rec.List:=Zjl
theorem Zv9 {r:Za} {a:Zm} {z:Int × Za × Zd} (h:Zgh r a default=some z) (hr:Nm r.List) (hs:a.S.size ≤ 1000):NmR z:=by
 unfold Zgh at h
 obtain ⟨r1,_,h⟩:=Zg h
 split at h
 ·obtain rfl:=Option.some.inj h;exact ⟨hr,Zct⟩
 ·split at h
  ·obtain rfl:=Option.some.inj h;exact ⟨hr,Zct⟩
  ·obtain ⟨r5,h5,h⟩:=Zg h
   obtain ⟨r7,h7,h⟩:=Zg h
   obtain rfl:=Option.some.inj h
   exact ⟨Zsm h7 (Zjr h5 hr) (Zs8 hs),Zct⟩
theorem Zt5 {r:Za} {a:Zm} {z:Int × Za × Zd} (h:Zds r a default=some z) (hr:Nm r.List):NmR z:=by
 unfold Zds Zec at h
 obtain ⟨r1,_,h⟩:=Zg h
 split at h
 ·obtain ⟨r5,h5,h⟩:=Zg h
  obtain ⟨r7,h7,h⟩:=Zg h
  obtain rfl:=Option.some.inj h
  exact ⟨Zx3 h7 (Zjr h5 hr),Zct⟩
 ·obtain rfl:=Option.some.inj h;exact ⟨hr,Zct⟩
theorem Zts {r:Za} {a:Zm} {z:Int × Za × Zd} (h:Zfz r a default=some z) (hr:Nm r.List) (hs:a.S.size ≤ 1000):NmR z:=by
 unfold Zfz at h
 obtain ⟨y,_,h⟩:=Zg h
 obtain ⟨e9,_,h⟩:=Zg h
 obtain ⟨r11,_,h⟩:=Zg h
 split at h
 ·obtain rfl:=Option.some.inj h;exact ⟨hr,Zct⟩
 ·obtain ⟨r5,h5,h⟩:=Zg h
  obtain ⟨r7,h7,h⟩:=Zg h
  obtain ⟨c,h8,h⟩:=Zg h
  obtain rfl:=Option.some.inj h
  exact ⟨Zw8 h8 (Zsm h7 (Zjr h5 hr) (Zs8 hs)),Zct⟩
theorem Zd0 {β:Type} {c:Prop} [Decidable c] {x y:Option β} {z:β} (h:(if c then x else y)=some z):(c ∧ x=some z) ∨ (¬ c ∧ y=some z):=by
 by_cases hc:c
 ·rw [if_pos hc] at h;exact .inl ⟨hc,h⟩
 ·rw [if_neg hc] at h;exact .inr ⟨hc,h⟩
theorem Ztc {k:Int} {r:Za} {a:Zm} {z:Int × Za × Zd} (h:Z7 k r a default=some z) (hr:Nm r.List) (hs:a.S.size ≤ 1000):NmR z:=by
 have real:∀ {ψ:Nat → Nat → Option Nat},Zcg ψ r a default=some z → NmR z:=fun {ψ} h=>by
  unfold Zcg at h
  obtain ⟨m,_,h⟩:=Zg h
  obtain rfl:=Option.some.inj h
  exact ⟨hr,Zct⟩
 have two:∀ {c:Prop} [Decidable c] {x y:Int × Za × Zd},NmR x → NmR y → (if c then some x else some y)=some z → NmR z:=fun {c} _ {x y} hx hy h=>by
  split at h
  ·obtain rfl:=Option.some.inj h;exact hx
  ·obtain rfl:=Option.some.inj h;exact hy
 unfold Z7 at h
 rcases Zd0 h with ⟨_,h⟩ | ⟨_,h⟩
 ·unfold Zgm at h;obtain rfl:=Option.some.inj h;exact ⟨hr,Zct⟩
 rcases Zd0 h with ⟨_,h⟩ | ⟨_,h⟩
 ·unfold Zeq Zc0 at h
  obtain ⟨r1,h1,h⟩:=Zg h
  obtain ⟨l,h2,h1⟩:=Zg h1
  obtain rfl:=Option.some.inj h1
  obtain rfl:=Option.some.inj h
  exact ⟨hr,Zjr h2 hr⟩
 rcases Zd0 h with ⟨_,h⟩ | ⟨_,h⟩
 ·unfold Zgr at h;obtain rfl:=Option.some.inj h;exact ⟨hr,Zct⟩
 rcases Zd0 h with ⟨_,h⟩ | ⟨_,h⟩
 ·unfold Zhg at h;exact two ⟨hr,Zct⟩ ⟨hr,Zct⟩ h
 rcases Zd0 h with ⟨_,h⟩ | ⟨_,h⟩
 ·unfold Zd2 at h;exact two ⟨hr,Zct⟩ ⟨hr,Zct⟩ h
 rcases Zd0 h with ⟨_,h⟩ | ⟨_,h⟩
 ·unfold Zeo at h;exact two ⟨hr,Zct⟩ ⟨hr,Zct⟩ h
 rcases Zd0 h with ⟨_,h⟩ | ⟨_,h⟩
 ·unfold Zem at h;exact two ⟨hr,Zct⟩ ⟨hr,Zct⟩ h
 rcases Zd0 h with ⟨_,h⟩ | ⟨_,h⟩
 ·unfold Zd2 at h;exact two ⟨hr,Zct⟩ ⟨hr,Zct⟩ h
 rcases Zd0 h with ⟨_,h⟩ | ⟨_,h⟩
 ·exact real h
 rcases Zd0 h with ⟨_,h⟩ | ⟨_,h⟩
 ·exact real h
 rcases Zd0 h with ⟨_,h⟩ | ⟨_,h⟩
 ·exact real h
 rcases Zd0 h with ⟨_,h⟩ | ⟨_,h⟩
 ·exact real h
 rcases Zd0 h with ⟨_,h⟩ | ⟨_,h⟩
 ·exact real h
 rcases Zd0 h with ⟨_,h⟩ | ⟨_,h⟩
 ·exact Zv9 h hr hs
 rcases Zd0 h with ⟨_,h⟩ | ⟨_,h⟩
 ·exact Zt5 h hr
 rcases Zd0 h with ⟨_,h⟩ | ⟨_,h⟩
 ·unfold Zen at h
  obtain ⟨r1,_,h⟩:=Zg h
  exact two ⟨hr,Zct⟩ ⟨hr,Zct⟩ h
 rcases Zd0 h with ⟨_,h⟩ | ⟨_,h⟩
 ·exact Zts h hr hs
 ·cases h
theorem Znx {a:Za} (hl:a.List.length ≤ 1000):∀ (n i:Nat),i + n=a.List.length → Zbm a (n + 1) (i:Int)=some (.inr ()) → Nm (a.List.drop i)
 | 0,i,he,_=>by rw [List.drop_of_length_le (by omega)];exact Zjl
 | n + 1,i,he,h=>by
  have hi:i < a.List.length:=by omega
  rw [Zbm,if_pos (decide_eq_true (by omega)),Zc9 hi] at h
  simp only [Option.bind_some] at h
  split at h
  ·cases h
  ·rename_i hc
   rw [wr1 (by omega)] at h
   have:=Znx hl n (i + 1) (by omega) h
   rw [List.drop_eq_getElem_cons hi]
   intro e he
   rcases List.mem_cons.1 he with rfl | he
   ·have:¬ ((100:Int) < (a.List[i].Name.size:Int)):=fun h=>hc (decide_eq_true h)
    omega
   ·exact this e he
theorem bigN {r:Za} {l:List Zm} (hl:r.List.length ≤ 1000) (h:Zc1 r l=some false):Nm r.List:=by
 unfold Zc1 at h
 obtain ⟨c,h1,h⟩:=Zg h
 split at h
 ·cases h
 ·rename_i hc
  have hc0:¬ ((0:Int) < c):=fun h=>hc (by rw [decide_eq_true h];rfl)
  unfold Zdg at h1
  split at h1
  ·obtain rfl:=Option.some.inj h1;omega
  ·obtain ⟨z,h2,h1⟩:=Zg h1
   rw [show (Int.toNat ((r.List.length:Int) - (0:Int)) + 1)=r.List.length + 1 by omega] at h2
   cases z with
   | inl m =>
    exfalso
    have:∀ (n i:Nat),i + n=r.List.length → ∀ m,Zbm r (n + 1) (i:Int)=some (.inl m) → m=1:=by
     intro n
     induction n with
     | zero=>intro i he m h;rw [Zbm,if_neg (by simp;omega)] at h;cases h
     | succ n ih =>
      intro i he m h
      have hi:i < r.List.length:=by omega
      rw [Zbm,if_pos (decide_eq_true (by omega)),Zc9 hi] at h
      simp only [Option.bind_some] at h
      split at h
      ·injection h with h;injection h with h;exact h.symm
      ·rw [wr1 (by omega)] at h
       exact ih (i + 1) (by omega) m h
    have h3:=this r.List.length 0 (by omega) m h2
    obtain rfl:=Option.some.inj h1
    omega
   | inr u=>exact Znx hl r.List.length 0 (by omega) h2
theorem Zsp {l:List Zc} (h1:l.length ≤ 1000) (h2:Nm l):Ziv l=true:=by
 unfold Ziv
 rw [Bool.and_eq_true]
 refine ⟨decide_eq_true (by omega),List.all_eq_true.2 fun x hx=>decide_eq_true ?_⟩
 have:=h2 x hx
 omega
theorem RuleOwn_true (a0:Za) (a1:Zm) (ha0:Zex a0) (ha1:Zgo a1):Zes a0 a1=some true:=by
 unfold Zes
 rw [Zww]
 simp only [Option.bind_some,Bool.not_true,Bool.false_eq_true,if_false]
 rcases big5 (l:=[a1]) ha0 (fun o ho=>by rw [List.mem_singleton.1 ho];exact ha1) with hb | ⟨hb,hr,_,hi⟩
 ·rw [hb];rfl
 ·have ha:=hi a1 (List.mem_singleton.2 rfl)
  have hn:=bigN hr.len hb
  rw [hb,Zhf hr.len,Zhf ha.mkr.len]
  simp only [Option.bind_some,Bool.false_eq_true,if_false]
  obtain ⟨z,hz,hs⟩:=Zp2 (there:=true) hr ha
  rw [if_pos rfl] at hs
  have hz0:Nm z.1.List ∧ Nm z.2.2.Rec.List ∧ z.1.List.length ≤ 1000 ∧ z.2.2.Rec.List.length ≤ 1000:=by
   rcases hs with ⟨c,_,rfl⟩ | ⟨h1,h2,h3,⟨_,k,_⟩ | ⟨_,_,rfl⟩ | ⟨_,rfl⟩ | ⟨_,_,rfl⟩ | ⟨_,_,_,k4,r',o,h4,_,_,w1,w2,rfl⟩⟩
   ·exact ⟨hn,Zjl,hr.len,Nat.zero_le _⟩
   ·cases k
   ·exact ⟨Zjl,Zjl,Nat.zero_le _,Nat.zero_le _⟩
   ·exact ⟨hn,Zjl,hr.len,Nat.zero_le _⟩
   ·exact ⟨hn,hn,hr.len,hr.len⟩
   ·have:=Ztc h4 hn (by have:=h2.s64;omega)
    exact ⟨this.1,this.2,w1.len,w2.len⟩
  rw [hz]
  simp only [Option.bind_some]
  rw [Zsp hz0.2.2.1 hz0.1,Zsp hz0.2.2.2 hz0.2.1]
  simp only [Bool.and_self,if_true]
  rw [Zkj hr.ok hr.ok,Zkj ha.mkr.ok ha.mkr.ok]
  simp [Zxv,gd_t]
end Go.CL
namespace Go.CL
open Go Go.RowKit Go.Proofs Go.ChangeShapes Go.WideShapes Go.ChangeAt
theorem Zt3:ownKnob Tryd.prog.godebug=none:=by kernel_rfl
theorem Zno:laidOutB Tryd.prog=true:=by kernel_rfl
theorem op_3:Opn Tryd.prog 3 (Kd.int .i64) (fun x=>((IntKind.i64).min ≤ x ∧ x ≤ (IntKind.i64).max)):=Zqh Tryd.underlying3 (by kernel_rfl)
theorem op_2:Opn Tryd.prog 2 (Kd.int .i64) (fun x=>((IntKind.i64).min ≤ x ∧ x ≤ (IntKind.i64).max)):=Zqh Tryd.underlying2 (by kernel_rfl)
theorem Zra:Opn Tryd.prog 22 Kd.flt (fun x=>(x < 2 ^ 64)):=Zv5 Tryd.underlying22 (by kernel_rfl)
theorem op_9:Opn Tryd.prog 9 Kd.str (fun x=>(x.size ≤ maxLen)):=Zwk Tryd.underlying9 (by kernel_rfl)
theorem Zza:Opn Tryd.prog 37 Zj Zje:=⟨by kernel_rfl,fun hg h=>by
 obtain ⟨hl,n,hf⟩:=Zjs Tryd.underlying37 h
 obtain ⟨y0,h0⟩:=hf 0 _ rfl
 obtain ⟨v0,k0,w0⟩:=Zra.op hg h0
 obtain ⟨y1,h1⟩:=hf 1 _ rfl
 obtain ⟨v1,k1,w1⟩:=op_9.op hg h1
 refine ⟨⟨v0,v1⟩,⟨hl.trans (by kernel_rfl),(Qc.2 ⟨k0,(Qc.2 ⟨k1,(fun _ h=>by cases h)⟩)⟩)⟩,w0,w1⟩,fun h=>Zkl Tryd.underlying37 h⟩
theorem Zy3:Opn Tryd.prog 23 Zj.sl (fun x=>(x.length ≤ maxLen ∧ ∀ e0 ∈ x,(Zje e0))):=Zxz Tryd.underlying23 (by kernel_rfl) Zza (by decide)
theorem Zvd:Opn Tryd.prog 25 Zf Zex:=⟨by kernel_rfl,fun hg h=>by
 obtain ⟨hl,n,hf⟩:=Zjs Tryd.underlying25 h
 obtain ⟨y0,h0⟩:=hf 0 _ rfl
 obtain ⟨v0,k0,w0⟩:=op_3.op hg h0
 obtain ⟨y1,h1⟩:=hf 1 _ rfl
 obtain ⟨v1,k1,w1⟩:=op_2.op hg h1
 obtain ⟨y2,h2⟩:=hf 2 _ rfl
 obtain ⟨v2,k2,w2⟩:=op_2.op hg h2
 obtain ⟨y3,h3⟩:=hf 3 _ rfl
 obtain ⟨v3,k3,w3⟩:=op_2.op hg h3
 obtain ⟨y4,h4⟩:=hf 4 _ rfl
 obtain ⟨v4,k4,w4⟩:=Zra.op hg h4
 obtain ⟨y5,h5⟩:=hf 5 _ rfl
 obtain ⟨v5,k5,w5⟩:=op_3.op hg h5
 obtain ⟨y6,h6⟩:=hf 6 _ rfl
 obtain ⟨v6,k6,w6⟩:=op_9.op hg h6
 obtain ⟨y7,h7⟩:=hf 7 _ rfl
 obtain ⟨v7,k7,w7⟩:=Zy3.op hg h7
 refine ⟨⟨v0,v1,v2,v3,v4,v5,v6,v7⟩,⟨hl.trans (by kernel_rfl),(Qc.2 ⟨k0,(Qc.2 ⟨k1,(Qc.2 ⟨k2,(Qc.2 ⟨k3,(Qc.2 ⟨k4,(Qc.2 ⟨k5,(Qc.2 ⟨k6,(Qc.2 ⟨k7,(fun _ h=>by cases h)⟩)⟩)⟩)⟩)⟩)⟩)⟩)⟩)⟩,w0,w1,w2,w3,w4,w5,w6,w7⟩,fun h=>Zkl Tryd.underlying25 h⟩
theorem op_4:Opn Tryd.prog 4 Kd.bool (fun x=>True):=Ztz Tryd.underlying4 (by kernel_rfl)
theorem Zzc:Opn Tryd.prog 27 Zq Zgo:=⟨by kernel_rfl,fun hg h=>by
 obtain ⟨hl,n,hf⟩:=Zjs Tryd.underlying27 h
 obtain ⟨y0,h0⟩:=hf 0 _ rfl
 obtain ⟨v0,k0,w0⟩:=op_3.op hg h0
 obtain ⟨y1,h1⟩:=hf 1 _ rfl
 obtain ⟨v1,k1,w1⟩:=op_9.op hg h1
 obtain ⟨y2,h2⟩:=hf 2 _ rfl
 obtain ⟨v2,k2,w2⟩:=op_2.op hg h2
 obtain ⟨y3,h3⟩:=hf 3 _ rfl
 obtain ⟨v3,k3,w3⟩:=Zra.op hg h3
 obtain ⟨y4,h4⟩:=hf 4 _ rfl
 obtain ⟨v4,k4,w4⟩:=op_9.op hg h4
 obtain ⟨y5,h5⟩:=hf 5 _ rfl
 obtain ⟨v5,k5,w5⟩:=Zvd.op hg h5
 obtain ⟨y6,h6⟩:=hf 6 _ rfl
 obtain ⟨v6,k6,w6⟩:=op_4.op hg h6
 refine ⟨⟨v0,v1,v2,v3,v4,v5,v6⟩,⟨hl.trans (by kernel_rfl),(Qc.2 ⟨k0,(Qc.2 ⟨k1,(Qc.2 ⟨k2,(Qc.2 ⟨k3,(Qc.2 ⟨k4,(Qc.2 ⟨k5,(Qc.2 ⟨k6,(fun _ h=>by cases h)⟩)⟩)⟩)⟩)⟩)⟩)⟩)⟩,w0,w1,w2,w3,w4,w5,w6⟩,fun h=>Zkl Tryd.underlying27 h⟩
theorem Zuy:Det Tryd.prog 9:=Zvy Tryd.underlying9
theorem Zy2:Det Tryd.prog 3:=Zwl Tryd.underlying3
theorem Zxl:Det Tryd.prog 60:=Zrk Tryd.underlying60 (fun i f h=>match i,f,h with
 | 0,_,h=>by obtain rfl:=Option.some.inj h;exact Zuy
 | 1,_,h=>by obtain rfl:=Option.some.inj h;exact Zy2
 | 2,_,h=>by obtain rfl:=Option.some.inj h;exact Zuy
 | _ + 3,_,h=>by cases h) (by kernel_rfl)
theorem Zxa:Det Tryd.prog 77:=Zv8 Tryd.underlying77 Zxl (by kernel_rfl)
theorem RuleOwn_met (os : Os) (args : Array Value) : laidMetH Tryd.prog [("moiety/act.kinds", Go.Proofs.YtmnpihdadfneeaaDoor.Rows.laid_moiety_act_kinds)] ((World.doorLaid Tryd.prog 400 os).forCall (fun _ _ => 0) ⟨#[], args, []⟩).memory :=
 laidMetH_of_parts3 (fuel:=8) (laidMet_of_run' 8 (by kernel_rfl) (by kernel_rfl)) (by kernel_rfl) (by kernel_rfl)
theorem RuleOwn_gl {W : World} (h : laidMetH Tryd.prog [("moiety/act.kinds", Go.Proofs.YtmnpihdadfneeaaDoor.Rows.laid_moiety_act_kinds)] W) : GLok W (fun b _ => b < W.heap.size) := by
 have g0 := Zt6 (P := Tryd.prog) (nm := "moiety/act.kinds") (d := Go.Proofs.YtmnpihdadfneeaaDoor.Rows.laid_moiety_act_kinds) (g := 0) (t := 77) (W := W) (w0 := W) (cells := [.string ⟨#[]⟩, .int .i64 (0), .string ⟨#[]⟩, .string ⟨#[110, 101, 119]⟩, .int .i64 (0), .string ⟨#[109]⟩, .string ⟨#[100, 114, 111, 112]⟩, .int .i64 (0), .string ⟨#[]⟩, .string ⟨#[105, 115]⟩, .int .i64 (0), .string ⟨#[]⟩, .string ⟨#[108, 111, 111, 107]⟩, .int .i64 (0), .string ⟨#[]⟩, .string ⟨#[112, 117, 116]⟩, .int .i64 (1), .string ⟨#[115]⟩, .string ⟨#[115, 119, 97, 112]⟩, .int .i64 (1), .string ⟨#[115]⟩, .string ⟨#[97, 100, 100]⟩, .int .i64 (2), .string ⟨#[110]⟩, .string ⟨#[112, 108, 117, 115]⟩, .int .i64 (3), .string ⟨#[110]⟩, .string ⟨#[114, 101, 97, 99, 104]⟩, .int .i64 (3), .string ⟨#[110]⟩, .string ⟨#[105, 110]⟩, .int .i64 (4), .string ⟨#[110]⟩, .string ⟨#[111, 117, 116]⟩, .int .i64 (4), .string ⟨#[110]⟩, .string ⟨#[101, 110, 111, 117, 103, 104]⟩, .int .i64 (4), .string ⟨#[110]⟩, .string ⟨#[114, 97, 105, 115, 101]⟩, .int .i64 (5), .string ⟨#[120]⟩, .string ⟨#[108, 111, 119, 101, 114]⟩, .int .i64 (6), .string ⟨#[120]⟩, .string ⟨#[115, 104, 105, 102, 116]⟩, .int .i64 (7), .string ⟨#[120]⟩, .string ⟨#[115, 99, 97, 108, 101]⟩, .int .i64 (7), .string ⟨#[120]⟩, .string ⟨#[102, 105, 120]⟩, .int .i64 (7), .string ⟨#[120]⟩, .string ⟨#[106, 111, 105, 110]⟩, .int .i64 (8), .string ⟨#[115]⟩, .string ⟨#[108, 101, 97, 118, 101]⟩, .int .i64 (8), .string ⟨#[115]⟩, .string ⟨#[104, 97, 115]⟩, .int .i64 (8), .string ⟨#[115]⟩, .string ⟨#[111, 102, 102, 101, 114]⟩, .int .i64 (9), .string ⟨#[120, 115]⟩]) (fu := 8) (by kernel_rfl) (by kernel_rfl) Zxa (by kernel_rfl) (by kernel_rfl) h
 intro e he i v hv
 rcases List.mem_cons.1 he with rfl | he
 ·exact ⟨(Zki (g0 i v hv)).2,g0 i v hv⟩
 cases he
theorem RuleOwn_ret (os:Os) (started:os.Started) (H:Type) (enc:TypeId × Value → H) :
  ReturnsInHanded {} Tryd.checked os 3 .any (fun w args => (Go.Proofs.YtmnpihdadfneeaaDoor.Rows.ruleOwnSpec.pre enc Tryd.prog Tryd.f3 [] false w args ∧ laidMetH Tryd.prog [("moiety/act.kinds", Go.Proofs.YtmnpihdadfneeaaDoor.Rows.laid_moiety_act_kinds)] w) ∧ sizedMet enc Tryd.prog Tryd.f3 (OpenSpec.ofChange Go.Proofs.YtmnpihdadfneeaaDoor.Rows.ruleOwnSpec) false w args) (Go.Proofs.YtmnpihdadfneeaaDoor.Rows.ruleOwnSpec.post enc Tryd.prog Tryd.f3 false true false false) := by
 refine returnsInHanded_of_change_and (C := Tryd.checked) (X := fun w _ => laidMetH Tryd.prog [("moiety/act.kinds", Go.Proofs.YtmnpihdadfneeaaDoor.Rows.laid_moiety_act_kinds)] w) (fun _ _ _ hh h => h.of_heap hh) Zt3 started (by kernel_rfl) Tryd.func3
  (ChangeSpec.witness_shaped (enc := enc) (C := Tryd.checked) (os := os) (X := fun w _ => laidMetH Tryd.prog [("moiety/act.kinds", Go.Proofs.YtmnpihdadfneeaaDoor.Rows.laid_moiety_act_kinds)] w) false (World.doorLaid Tryd.prog 400 os) #[.agg #[.int .i64 0, .int .i64 0, .int .i64 0, .int .i64 0, .float .f64 0, .int .i64 0, .string ByteArray.empty, .slice none 0 0], .agg #[.int .i64 0, .string ByteArray.empty, .int .i64 0, .float .f64 0, .string ByteArray.empty, .int .i64 0, .int .i64 0, .int .i64 0, .int .i64 0, .float .f64 0, .int .i64 0, .string ByteArray.empty, .slice none 0 0, .bool false]] 8 rfl (World.shaped_of_RefB (by kernel_rfl) (by kernel_rfl)) (by kernel_rfl) (by kernel_rfl) (by kernel_rfl) (RuleOwn_met os _)) ?_
 intro W base args ds gs before hval0 hW hcnd _ hL _
 have hval:∀ (j:Nat) t v,Tryd.f3.params[j]?=some t → args[j]?=some v → Value.okWide Tryd.prog W .any base t v:=hval0
 have hW':=hW
 obtain ⟨p,q,hA0,hV,rfl,hfz,hnd⟩:=hW
 have hA:DataW.TrodAll enc Tryd.prog W 0 (fun _=>true) true Tryd.f3.params.toList args.toList ds p:=hA0
 rw [Tryd.params3] at hA hval
 obtain ⟨v0,v1,d0,d1,p0,p1,rfl,rfl,rfl,h0,h1⟩:=trodAll_two hA
 obtain ⟨rfl,rfl⟩:=trodVars_none hV
 simp only [List.append_nil] at hW'
 have hg:GLok W (fun b _=>b < W.heap.size):=(RuleOwn_gl hL)
 have hk0:=h0
 obtain ⟨a0,q0,w0⟩:=Ztk Zvd hg h0 (hval 0 25 v0 rfl rfl)
 have hk1:=h1
 obtain ⟨a1,q1,w1⟩:=Ztk Zzc hg h1 (hval 1 27 v1 rfl rfl)
 refine (Zjf a0 a1 (RuleOwn_true a0 a1 w0 w1) (GW W hg) [v0,v1] (Zjg q0 (Zjg q1 Zce))).mono fun e W' ⟨g',v,he,hw,hs,hq⟩=>?_
 subst he;subst hw
 rw [Zfa.1 hq]
 have hbel:=Zun hs
 have hlt:∀ x ∈ (p0 ++ p1),x.block < W.heap.size:=fun x hx=>by simpa using hW'.lt x hx
 exact ⟨_,rfl,Zn7 (pv:=[]) hW' hbel (trodAll_mk1 (shut_bool Tryd.underlying4 true)) (trodAll_mk2 (Below.trod Zno (by kernel_rfl) (of_decide_eq_true (by kernel_rfl)) hk0 hbel (fun x hx=>hlt x (by simp [hx]))) (Below.trod Zno (by kernel_rfl) (of_decide_eq_true (by kernel_rfl)) hk1 hbel (fun x hx=>hlt x (by simp [hx])))) rfl⟩
theorem RuleOwn_holds:Go.Proofs.YtmnpihdadfneeaaDoor.Rows.RuleOwnSaid :=
 OpenClaim.holds_of_wide 3 Tryd.f3 rfl rfl rfl rfl rfl rfl rfl ⟨rfl,rfl,rfl,rfl,rfl⟩ rfl rfl rfl rfl rfl (by kernel_rfl) Tryd.func3 (by kernel_rfl)
  (of_decide_eq_true (by kernel_rfl)) (by unfold Func.isWrapper;first | (rw [if_pos (by decide +kernel)];kernel_rfl) | (rw [if_neg (by decide +kernel)];exact ⟨rfl,rfl⟩))
  (fun os started H enc _=>RuleOwn_ret os started H enc)
theorem RuleOwn_card:Go.Proofs.YtmnpihdadfneeaaDoor.Rows.RuleOwnCardSaid :=
 Claim7.holds_tied_plain_at .later [] [.data] true (true, "2369975240edf94f4210cbdab82fe171fdd349060dbaefeec9341a4c26ddfc54") false
  RuleOwn_holds (fun _ h=>by cases h) (by kernel_rfl) (fun _ h=>by cases h) Go.Proofs.YtmnpihdadfneeaaDoor.ruleOwn_row_tie rfl ⟨rfl,rfl⟩ (by kernel_rfl) rfl
  (fun f fn hf hfn=>by
   obtain rfl : f = 3 := Option.some.inj ((show Tryd.prog.funcNamed "moiety/moietylaw05.RuleOwn" = some 3 by kernel_rfl).symm.trans hf) |>.symm
   obtain rfl:fn=Tryd.f3:=(Option.some.inj (Tryd.func3.symm.trans hfn)).symm
   exact ⟨by kernel_rfl,fun j t ht=>by
    rw [Tryd.params3] at ht
    have hm:t ∈ [25,27]:=by simpa using Array.mem_of_getElem? ht
    have hall:(([25,27]:List TypeId).all fun u=>!Tryd.prog.wantsStandIn u)=true:=by kernel_rfl
    exact (show Tryd.prog.wantsStandIn t=false by simpa using List.all_eq_true.1 hall t hm)⟩)
  (by kernel_rfl)
end Go.CL
