/- A part of the proof of WholeLots. -/
import Derived.Test.YtblhcbpleiohaaaGreatDoorWholeLotsC3
set_option linter.unusedVariables false
set_option linter.unusedSimpArgs false
set_option maxRecDepth 100000
namespace Go.CL
open Go Go.RowKit Go.Proofs
theorem Z45 (a0:Int) (a1:List Zh) {r:Int} (h:Zq5 a0 a1=some r):FnOk Tryz.prog 68 [(pInt .i64 a0),(Zz.sl.pd a1)] (pInt .i64 r):=by
 have H0:=h
 unfold Zq5 at H0
 clear h
 refine Zb4 (N:=70) Tryz.func68 rfl rfl (Qe rfl) rfl rfl (fun a g0 hst hb=>?_)
 refine r_a [5,15] (L:=[(0,_),(1,_)]) hst hb Za
  (a_p [] rfl (Zd rfl rfl c_i)<|a_n) (fun a g hst hb=>?_)
 refine wp_seq ?_
 refine r_a [5,15,0,10,20] (L:=[(0,_),(1,_)]) hst hb Za
  (Am 15 rfl<|a_p [0] rfl (Zbx Tryz.underlying60 rfl rfl u_0)<|a_p [] rfl (Z6 rfl rfl c_i)<|a_n) (fun a g hst hb=>?_)
 obtain ⟨z19,hz1,H0⟩:=Zc H0
 refine Zbt (fun a w=>∃ (g:G),w=g.w ∧ St 70 [] a g ∧ Base g0 g ∧ (.inr ())=z19) ?_ ?_
 ·rintro a w ⟨g,rfl,hst,hb,rfl⟩
  refine Zo ?_
  refine r_a [0] (L:=[]) hst hb Za
   (a_p [] rfl (Zd rfl rfl c_i)<|a_n) (fun a g hst hb=>?_)
  refine wp_ret ?_
  obtain rfl:=Option.some.inj H0
  exact Z8 rfl hst hb (Zi (s:=4)) (hst.at 0 rfl)
 ·refine wp_block ?_
  refine wp_loop_ghost (fun n a w=>∃ (x1:Int) (g:G),w=g.w ∧ St 70 [(0,(pInt .i64 a0)),(1,(Zz.sl.pd a1)),(7,(Zz.sl.pd a1)),(8,(pInt .i64 (a1.length:Int))),(9,(pInt .i64 x1))] a g ∧ Base g0 g ∧ Zg1 a0 a1 n x1=some z19) (Int.toNat ((a1.length:Int) - (0:Int)) + 1) ⟨(0:Int),g,rfl,(hst.pick [0,1,2,3,4] rfl),hb,hz1⟩ (fun n a w hI=>?_)
  obtain ⟨x1,g,rfl,hst,hb,H1⟩:=hI
  cases n with
  | zero=>exact absurd H1 (by simp [Zg1])
  | succ n =>
   rw [Zg1] at H1
   refine r_a [5,15,25,35,45,0] (L:=[(0,_),(1,_),(7,_),(8,_),(9,_)]) hst hb Za
    (a_p [45,35] rfl (Zcv rfl rfl u_0 u_1)<|a_n) (fun a g hst hb=>?_)
   refine wp_seq ?_
   refine wp_cond_split (hst.bool 5 rfl) (fun hc2=>?_) (fun hc2=>?_)
   ·replace H1:=Z1 hc2 H1
    refine wp_skip ?_
    refine Zo ?_
    refine wp_seq ?_
    refine wp_block ?_
    obtain ⟨e3,h4,H1⟩:=Zc H1
    refine r_a [5,15,40,50,25,35,45] (L:=[(0,_),(1,_),(7,_),(8,_),(9,_)]) (hst.pick [0,1,2,3,4] rfl) hb Za
     (Am 45 rfl<|a_p [25,45] rfl (Zbw Tryz.underlying60 Zho rfl rfl u_0 u_1 h4)<|Al Zfa 0 rfl<|a_p (outs:=[(6,(pBox Zz 6 (default:Zh)))]) (S:=[7]) [] rfl (Zbl (zs:=[.float .f64 0,.string ByteArray.empty]) (by kernel_rfl) (fun g=>Zjx g) rfl rfl)<|Aa 30 rfl<|a_p [20,10] rfl (Zch Zfa rfl rfl u_1 u_0)<|a_n) (fun a g hst hb=>?_)
    refine wp_block ?_
    refine r_a [5,15,25,35,45,55,65,40] (L:=[(0,_),(1,_),(5,_),(6,_),(7,_),(8,_),(9,_)]) hst hb Za
     (Af Zfg 35 rfl<|Al ty_9 0 rfl<|a_p [0] rfl (Zhf Tryz.underlying9 rfl rfl u_0)<|a_p [0] rfl (Zcu rfl rfl u_0 c_i)<|Aa 0 rfl<|a_n) (fun a g hst hb=>?_)
    refine wp_cond_split (hst.bool 7 rfl) (fun hc5=>?_) (fun hc5=>?_)
    ·replace H1:=Z1 hc5 H1
     refine r_a [0] (L:=[]) (hst.pick [] rfl) hb Za
      (a_p [] rfl (Zd rfl rfl c_i)<|a_n) (fun a g hst hb=>?_)
     refine wp_ret ?_
     refine Z5 ?_
     refine Z5 ?_
     refine Zt ?_
     refine Zt ?_
     refine Z5 ?_
     refine Zt ?_
     refine Zt ?_
     obtain rfl:=Option.some.inj H1
     obtain rfl:=Option.some.inj H0
     exact Z8 rfl hst hb (Zi (s:=4)) (hst.at 0 rfl)
    ·replace H1:=Z0 hc5 H1
     obtain ⟨r6,h7,H1⟩:=Zc H1;obtain ⟨r8,h9,H1⟩:=Zc H1
     refine r_a [5,15,25,35,45,55,65,140] (L:=[(0,_),(1,_),(5,_),(6,_),(7,_),(8,_),(9,_)]) (hst.pick [0,1,2,3,4,5,6] rfl) hb Za
      (Am 5 rfl<|a_p [0] rfl (Zci rfl rfl u_0 c_i)<|Am 0 rfl<|a_g [0,35] (Qg_t rfl (fun hG=>Zl Zf2 rfl rfl u_0))<|a_g [10,0] (Qg_t rfl (fun hG=>Z2 Zd7 rfl rfl (Opd.gd hG u_0)))<|a_g [20,0] (Qg_t rfl (fun hG=>Zr Zwi (Zmt _ _ (Zcb h7 hG)) rfl rfl (.cons (Opd.gd hG u_0) (.cons c_f .nil))))<|a_g [30,0] (Qg_t rfl (fun hG=>Zc2 rfl rfl (Opd.gd hG u_0)))<|a_p [40,0] rfl (Zb5 rfl rfl u_0 (fun hz=>(Opd.gd hz u_1)))<|Am 0 rfl<|a_g [0,35] (Qg_f rfl (fun hG=>Zl Zf2 rfl rfl u_0))<|a_g [10,0] (Qg_f rfl (fun hG=>Z2 Zd7 rfl rfl (Opd.gd hG u_0)))<|a_g [20,0] (Qg_f rfl (fun hG=>Zr Z84 (Zq7 _ (Zcb h9 hG)) rfl rfl (.cons (Opd.gd hG u_0) .nil)))<|a_g [30,0] (Qg_f rfl (fun hG=>Zc2 rfl rfl (Opd.gd hG u_0)))<|a_p [40,0] rfl (Zb2 rfl rfl u_0 (fun hz=>(Opd.gd (bNF hz) u_1)))<|Aa 0 rfl<|a_n) (fun a g hst hb=>?_)
     refine wp_cond_split (hst.bool 7 rfl) (fun hc10=>?_) (fun hc10=>?_)
     ·replace H1:=Z1 hc10 H1
      refine r_a [0] (L:=[]) (hst.pick [] rfl) hb Za
       (a_p [] rfl (Zd rfl rfl c_i)<|a_n) (fun a g hst hb=>?_)
      refine wp_ret ?_
      refine Z5 ?_
      refine Z5 ?_
      refine Zt ?_
      refine Zt ?_
      refine Z5 ?_
      refine Zt ?_
      refine Zt ?_
      obtain rfl:=Option.some.inj H1
      obtain rfl:=Option.some.inj H0
      exact Z8 rfl hst hb (Zi (s:=4)) (hst.at 0 rfl)
     ·replace H1:=Z0 hc10 H1
      obtain ⟨e11,h12,H1⟩:=Zc H1
      refine r_a [5,15,25,35,45,55,65,170] (L:=[(0,_),(1,_),(5,_),(6,_),(7,_),(8,_),(9,_)]) (hst.pick [0,1,2,3,4,5,6] rfl) hb Za
       (Am 25 rfl<|a_p [0] rfl (Zcu rfl rfl u_0 c_i)<|Am 0 rfl<|a_g [0,5] (Qg_t rfl (fun hG=>Z6 rfl rfl u_0))<|a_g [10,0] (Qg_t rfl (fun hG=>Zci rfl rfl (Opd.gd hG u_0) c_i))<|a_p [20,0] rfl (Zb5 rfl rfl u_0 (fun hz=>(Opd.gd hz u_1)))<|Am 0 rfl<|a_g [0,15] (Qg_t rfl (fun hG=>Z6 rfl rfl u_0))<|a_g [10,25] (Qg_t rfl (fun hG=>Z6 rfl rfl u_0))<|a_g [20,0] (Qg_t rfl (fun hG=>Zkb rfl rfl (Opd.gd hG u_0) c_i rfl))<|a_g [30,20,0] (Qg_t rfl (fun hG=>Zbw Tryz.underlying60 Zho rfl rfl (Opd.gd hG u_0) (Opd.gd hG u_1) (Zcb h12 hG)))<|a_g [40,0] (Qg_t rfl (fun hG=>Zl Zfg rfl rfl (Opd.gd hG u_0)))<|a_g [50,0] (Qg_t rfl (fun hG=>Z2 ty_9 rfl rfl (Opd.gd hG u_0)))<|a_g [60,35] (Qg_t rfl (fun hG=>Zl Zfg rfl rfl u_0))<|a_g [70,0] (Qg_t rfl (fun hG=>Z2 ty_9 rfl rfl (Opd.gd hG u_0)))<|a_g [80,20,0] (Qg_t rfl (fun hG=>Zbhr rfl rfl (Opd.gd hG u_0) (Opd.gd hG u_1)))<|a_p [90,0] rfl (Zb5 rfl rfl u_0 (fun hz=>(Opd.gd hz u_1)))<|Aa 0 rfl<|a_n) (fun a g hst hb=>?_)
      refine wp_cond_split (hst.bool 7 rfl) (fun hc13=>?_) (fun hc13=>?_)
      ·replace H1:=Z1 hc13 H1
       refine r_a [0] (L:=[]) (hst.pick [] rfl) hb Za
        (a_p [] rfl (Zd rfl rfl c_i)<|a_n) (fun a g hst hb=>?_)
       refine wp_ret ?_
       refine Z5 ?_
       refine Z5 ?_
       refine Zt ?_
       refine Zt ?_
       refine Z5 ?_
       refine Zt ?_
       refine Zt ?_
       obtain rfl:=Option.some.inj H1
       obtain rfl:=Option.some.inj H0
       exact Z8 rfl hst hb (Zi (s:=4)) (hst.at 0 rfl)
      ·replace H1:=Z0 hc13 H1
       obtain ⟨e14,h15,H1⟩:=Zc H1;obtain ⟨r16,h17,H1⟩:=Zc H1
       refine r_a [5,15,45,55,65,160] (L:=[(0,_),(1,_),(5,_),(6,_),(7,_),(8,_),(9,_)]) (hst.pick [0,1,2,3,4,5,6] rfl) hb Za
        (Am 25 rfl<|a_p [0] rfl (Zcu rfl rfl u_0 c_i)<|Am 0 rfl<|a_g [0,5] (Qg_t rfl (fun hG=>Z6 rfl rfl u_0))<|a_g [10,0] (Qg_t rfl (fun hG=>Zci rfl rfl (Opd.gd hG u_0) c_i))<|a_p [20,0] rfl (Zb5 rfl rfl u_0 (fun hz=>(Opd.gd hz u_1)))<|Am 0 rfl<|a_g [0,15] (Qg_t rfl (fun hG=>Z6 rfl rfl u_0))<|a_g [10,25] (Qg_t rfl (fun hG=>Z6 rfl rfl u_0))<|a_g [20,0] (Qg_t rfl (fun hG=>Zkb rfl rfl (Opd.gd hG u_0) c_i rfl))<|a_g [30,20,0] (Qg_t rfl (fun hG=>Zbw Tryz.underlying60 Zho rfl rfl (Opd.gd hG u_0) (Opd.gd hG u_1) (Zcb h15 hG)))<|a_g [40,0] (Qg_t rfl (fun hG=>Z2 Zfa rfl rfl (Opd.gd hG u_0)))<|a_g [50,35] (Qg_t rfl (fun hG=>Z2 Zfa rfl rfl u_0))<|a_g [60,10,0] (Qg_t rfl (fun hG=>Zr Z9f (Zq6 _ _ (Zcb h17 hG)) rfl rfl (.cons (Opd.gd hG u_0) (.cons (Opd.gd hG u_1) .nil))))<|a_g [70,0] (Qg_t rfl (fun hG=>Zc2 rfl rfl (Opd.gd hG u_0)))<|a_p [80,0] rfl (Zb5 rfl rfl u_0 (fun hz=>(Opd.gd hz u_1)))<|Aa 0 rfl<|a_n) (fun a g hst hb=>?_)
       refine wp_cond_split (hst.bool 5 rfl) (fun hc18=>?_) (fun hc18=>?_)
       ·replace H1:=Z1 hc18 H1
        refine r_a [0] (L:=[]) (hst.pick [] rfl) hb Za
         (a_p [] rfl (Zd rfl rfl c_i)<|a_n) (fun a g hst hb=>?_)
        refine wp_ret ?_
        refine Z5 ?_
        refine Z5 ?_
        refine Zt ?_
        refine Zt ?_
        refine Z5 ?_
        refine Zt ?_
        refine Zt ?_
        obtain rfl:=Option.some.inj H1
        obtain rfl:=Option.some.inj H0
        exact Z8 rfl hst hb (Zi (s:=4)) (hst.at 0 rfl)
       ·replace H1:=Z0 hc18 H1
        refine wp_skip ?_
        refine Zbn ?_
        refine Zbn ?_
        refine Zo ?_
        refine r_b [5,15,25,35,10] (L:=[(0,_),(1,_),(7,_),(8,_),(9,_)]) (hst.pick [0,1,2,3,4] rfl) hb Za
         (a_p [45] rfl (Zcf rfl rfl u_0 c_i rfl)<|Am 0 rfl<|a_n) (fun a g hst hb=>?_)
        exact ⟨n,Nat.lt_succ_self _,(IntKind.i64.wrap (x1 + (1:Int))),g,rfl,(hst.pick [0,1,2,3,4] rfl),hb,H1⟩
   ·replace H1:=Z0 hc2 H1
    refine wp_exit ?_
    refine Zb0 ?_
    refine Zb0 ?_
    refine Zcj ?_
    exact ⟨g,rfl,(hst.pick [] rfl),hb,Option.some.inj H1⟩
theorem Zpi (a0:Zb) {r:Int} (h:Zd5 a0=some r):FnOk Tryz.prog 40 [(Zf.pd a0)] (pInt .i64 r):=by
 have H0:=h
 unfold Zd5 at H0
 clear h
 refine Zb4 (N:=83) Tryz.func40 rfl rfl (Qe rfl) rfl rfl (fun a g0 hst hb=>?_)
 refine r_a [0] (L:=[(0,_)]) hst hb Za
  (a_p [5] rfl (Zbq rfl rfl u_0)<|a_p [] rfl (Zd rfl rfl c_i)<|a_n) (fun a g hst hb=>?_)
 obtain ⟨r1,h2,H0⟩:=Zc H0
 refine r_a [5,40] (L:=[(1,_)]) hst hb Za
  (Af Zga 5 rfl<|Al ty_3 0 rfl<|a_p [0] rfl (Zr Z87 (Zq9 _ h2) rfl rfl (.cons u_0 .nil))<|a_p (outs:=[(3,(pBox Zcm 3 (default:Zb6)))]) (S:=[4]) [] rfl (Zbl (zs:=[.bool false,.bool false,.bool false,.bool false,.bool false]) (by kernel_rfl) (fun g=>Zpo g) rfl rfl)<|a_p [10,0] rfl (Zch Zjf rfl rfl u_1 u_0)<|a_n) (fun a g hst hb=>?_)
 refine wp_seq ?_
 refine wp_block ?_
 refine r_a [5,15,80] (L:=[(1,_),(3,_)]) hst hb Za
  (Af Zga 5 rfl<|Al ty_3 0 rfl<|a_p [0] rfl (Zbd3 rfl rfl u_0 c_i)<|Am 0 rfl<|a_g [0,5] (Qg_f rfl (fun hG=>Zl Zga rfl rfl u_0))<|a_g [10,0] (Qg_f rfl (fun hG=>Z2 ty_3 rfl rfl (Opd.gd hG u_0)))<|a_g [20,0] (Qg_f rfl (fun hG=>Zre rfl rfl (Opd.gd hG u_0) c_i))<|a_p [30,0] rfl (Zb2 rfl rfl u_0 (fun hz=>(Opd.gd (bNF hz) u_1)))<|Aa 0 rfl<|a_n) (fun a g hst hb=>?_)
 refine wp_cond_split (hst.bool 2 rfl) (fun hc3=>?_) (fun hc3=>?_)
 ·replace H0:=Z1 hc3 H0
  refine r_a [0] (L:=[]) (hst.pick [] rfl) hb Za
   (a_p [] rfl (Zd rfl rfl c_i)<|a_n) (fun a g hst hb=>?_)
  refine wp_ret ?_
  refine Z5 ?_
  refine Zt ?_
  obtain rfl:=Option.some.inj H0
  exact Z8 rfl hst hb (Zi (s:=2)) (hst.at 0 rfl)
 ·replace H0:=Z0 hc3 H0
  obtain ⟨r4,h5,H0⟩:=Zc H0
  refine r_a [5,15,40] (L:=[(1,_),(3,_)]) (hst.pick [0,1] rfl) hb Za
   (Al Zbr 5 rfl<|Al Zjf 15 rfl<|a_p [10,0] rfl (Zr Zbjy (Z6n _ _ h5) rfl rfl (.cons u_0 (.cons u_1 .nil)))<|a_p [0] rfl (Zc2 rfl rfl u_0)<|Aa 0 rfl<|a_n) (fun a g hst hb=>?_)
  refine wp_cond_split (hst.bool 2 rfl) (fun hc6=>?_) (fun hc6=>?_)
  ·replace H0:=Z1 hc6 H0
   refine r_a [0] (L:=[]) (hst.pick [] rfl) hb Za
    (a_p [] rfl (Zd rfl rfl c_i)<|a_n) (fun a g hst hb=>?_)
   refine wp_ret ?_
   refine Z5 ?_
   refine Zt ?_
   obtain rfl:=Option.some.inj H0
   exact Z8 rfl hst hb (Zi (s:=2)) (hst.at 0 rfl)
  ·replace H0:=Z0 hc6 H0
   refine r_a [5,15,40] (L:=[(1,_),(3,_)]) (hst.pick [0,1] rfl) hb Za
    (Af Zkp 5 rfl<|Al ty_9 0 rfl<|a_p [0] rfl (Zhf Tryz.underlying9 rfl rfl u_0)<|a_p [0] rfl (Zcu rfl rfl u_0 c_i)<|Aa 0 rfl<|a_n) (fun a g hst hb=>?_)
   refine wp_cond_split (hst.bool 2 rfl) (fun hc7=>?_) (fun hc7=>?_)
   ·replace H0:=Z1 hc7 H0
    refine r_a [0] (L:=[]) (hst.pick [] rfl) hb Za
     (a_p [] rfl (Zd rfl rfl c_i)<|a_n) (fun a g hst hb=>?_)
    refine wp_ret ?_
    refine Z5 ?_
    refine Zt ?_
    obtain rfl:=Option.some.inj H0
    exact Z8 rfl hst hb (Zi (s:=2)) (hst.at 0 rfl)
   ·replace H0:=Z0 hc7 H0
    refine r_a [5,15,260] (L:=[(1,_),(3,_)]) (hst.pick [0,1] rfl) hb Za
     (Af Zui 15 rfl<|Al ty_4 0 rfl<|Am 0 rfl<|a_g [0,5] (Qg_t rfl (fun hG=>Zl Zko rfl rfl u_0))<|a_g [10,0] (Qg_t rfl (fun hG=>Z2 ty_2 rfl rfl (Opd.gd hG u_0)))<|a_g [20,0] (Qg_t rfl (fun hG=>Zcv rfl rfl (Opd.gd hG u_0) c_i))<|a_g [30,0] (Qg_t rfl (fun hG=>Z6 rfl rfl (Opd.gd hG u_0)))<|a_g [0,5] (Qg_fi rfl (fun hG=>Zl Zkn rfl rfl u_0))<|a_g [10,0] (Qg_fi rfl (fun hG=>Z2 ty_2 rfl rfl (Opd.gd hG u_0)))<|a_g [20,0] (Qg_fi rfl (fun hG=>Zcu rfl rfl (Opd.gd hG u_0) c_i))<|a_g [70,30,0] (Qg_t rfl (fun hG=>Zb2 rfl rfl (Opd.gd hG u_0) (fun hz=>(Opd.gd (bA hG (bNF hz)) u_1))))<|a_g [80,0] (Qg_t rfl (fun hG=>Z6 rfl rfl (Opd.gd hG u_0)))<|a_g [0,5] (Qg_fi rfl (fun hG=>Zl Zez rfl rfl u_0))<|a_g [10,0] (Qg_fi rfl (fun hG=>Z2 ty_2 rfl rfl (Opd.gd hG u_0)))<|a_g [20,5] (Qg_fi rfl (fun hG=>Zl Zko rfl rfl u_0))<|a_g [30,0] (Qg_fi rfl (fun hG=>Z2 ty_2 rfl rfl (Opd.gd hG u_0)))<|a_g [40,20,0] (Qg_fi rfl (fun hG=>Zcv rfl rfl (Opd.gd hG u_0) (Opd.gd hG u_1)))<|a_g [140,50,0] (Qg_t rfl (fun hG=>Zb2 rfl rfl (Opd.gd hG u_0) (fun hz=>(Opd.gd (bA hG (bNF hz)) u_1))))<|a_g [150,0] (Qg_t rfl (fun hG=>Z6 rfl rfl (Opd.gd hG u_0)))<|a_g [0,5] (Qg_fi rfl (fun hG=>Zl Zez rfl rfl u_0))<|a_g [10,0] (Qg_fi rfl (fun hG=>Z2 ty_2 rfl rfl (Opd.gd hG u_0)))<|a_g [20,5] (Qg_fi rfl (fun hG=>Zl Zkn rfl rfl u_0))<|a_g [30,0] (Qg_fi rfl (fun hG=>Z2 ty_2 rfl rfl (Opd.gd hG u_0)))<|a_g [40,20,0] (Qg_fi rfl (fun hG=>Zcu rfl rfl (Opd.gd hG u_0) (Opd.gd hG u_1)))<|a_g [210,50,0] (Qg_t rfl (fun hG=>Zb2 rfl rfl (Opd.gd hG u_0) (fun hz=>(Opd.gd (bA hG (bNF hz)) u_1))))<|a_p [220,0] rfl (Zb5 rfl rfl u_0 (fun hz=>(Opd.gd hz u_1)))<|Aa 0 rfl<|a_n) (fun a g hst hb=>?_)
    refine wp_cond_split (hst.bool 2 rfl) (fun hc8=>?_) (fun hc8=>?_)
    ·replace H0:=Z1 hc8 H0
     refine r_a [0] (L:=[]) (hst.pick [] rfl) hb Za
      (a_p [] rfl (Zd rfl rfl c_i)<|a_n) (fun a g hst hb=>?_)
     refine wp_ret ?_
     refine Z5 ?_
     refine Zt ?_
     obtain rfl:=Option.some.inj H0
     exact Z8 rfl hst hb (Zi (s:=2)) (hst.at 0 rfl)
    ·replace H0:=Z0 hc8 H0
     obtain ⟨r9,h10,H0⟩:=Zc H0
     refine r_a [5,15,40] (L:=[(1,_),(3,_)]) (hst.pick [0,1] rfl) hb Za
      (Af Zlx 5 rfl<|Al Zd7 0 rfl<|a_p [0] rfl (Zr Z84 (Zq7 _ h10) rfl rfl (.cons u_0 .nil))<|a_p [0] rfl (Zc2 rfl rfl u_0)<|Aa 0 rfl<|a_n) (fun a g hst hb=>?_)
     refine wp_cond_split (hst.bool 2 rfl) (fun hc11=>?_) (fun hc11=>?_)
     ·replace H0:=Z1 hc11 H0
      refine r_a [0] (L:=[]) (hst.pick [] rfl) hb Za
       (a_p [] rfl (Zd rfl rfl c_i)<|a_n) (fun a g hst hb=>?_)
      refine wp_ret ?_
      refine Z5 ?_
      refine Zt ?_
      obtain rfl:=Option.some.inj H0
      exact Z8 rfl hst hb (Zi (s:=2)) (hst.at 0 rfl)
     ·replace H0:=Z0 hc11 H0
      refine r_a [5,30] (L:=[(1,_),(3,_)]) (hst.pick [0,1] rfl) hb Za
       (Af Ztr 15 rfl<|Al ty_4 0 rfl<|a_p [0] rfl (Zc2 rfl rfl u_0)<|Aa 0 rfl<|a_n) (fun a g hst hb=>?_)
      refine wp_cond_split (hst.bool 1 rfl) (fun hc12=>?_) (fun hc12=>?_)
      ·replace H0:=Z1 hc12 H0
       refine r_a [0] (L:=[]) (hst.pick [] rfl) hb Za
        (a_p [] rfl (Zd rfl rfl c_i)<|a_n) (fun a g hst hb=>?_)
       refine wp_ret ?_
       refine Z5 ?_
       refine Zt ?_
       obtain rfl:=Option.some.inj H0
       exact Z8 rfl hst hb (Zi (s:=2)) (hst.at 0 rfl)
      ·replace H0:=Z0 hc12 H0
       refine r_a [5,80] (L:=[(1,_)]) (hst.pick [0] rfl) hb Za
        (Af Zin 5 rfl<|Al ty_3 0 rfl<|a_p [0] rfl (Zcv rfl rfl u_0 c_i)<|Am 0 rfl<|a_g [0,5] (Qg_f rfl (fun hG=>Zl Zin rfl rfl u_0))<|a_g [10,0] (Qg_f rfl (fun hG=>Z2 ty_3 rfl rfl (Opd.gd hG u_0)))<|a_g [20,0] (Qg_f rfl (fun hG=>Zcu rfl rfl (Opd.gd hG u_0) c_i))<|a_p [30,0] rfl (Zb2 rfl rfl u_0 (fun hz=>(Opd.gd (bNF hz) u_1)))<|Aa 0 rfl<|a_n) (fun a g hst hb=>?_)
       refine wp_cond_split (hst.bool 1 rfl) (fun hc13=>?_) (fun hc13=>?_)
       ·replace H0:=Z1 hc13 H0
        refine r_a [0] (L:=[]) (hst.pick [] rfl) hb Za
         (a_p [] rfl (Zd rfl rfl c_i)<|a_n) (fun a g hst hb=>?_)
        refine wp_ret ?_
        refine Z5 ?_
        refine Zt ?_
        obtain rfl:=Option.some.inj H0
        exact Z8 rfl hst hb (Zi (s:=2)) (hst.at 0 rfl)
       ·replace H0:=Z0 hc13 H0
        refine r_a [5,60] (L:=[(1,_)]) (hst.pick [0] rfl) hb Za
         (Af Zc6 5 rfl<|Al Zeg 0 rfl<|a_p [0] rfl (Zbx Tryz.underlying60 rfl rfl u_0)<|Af Zin 5 rfl<|Al ty_3 0 rfl<|a_p [20,0] rfl (Zcu rfl rfl u_0 u_1)<|Aa 0 rfl<|a_n) (fun a g hst hb=>?_)
        refine wp_cond_split (hst.bool 1 rfl) (fun hc14=>?_) (fun hc14=>?_)
        ·replace H0:=Z1 hc14 H0
         refine r_a [0] (L:=[]) (hst.pick [] rfl) hb Za
          (a_p [] rfl (Zd rfl rfl c_i)<|a_n) (fun a g hst hb=>?_)
         refine wp_ret ?_
         refine Z5 ?_
         refine Zt ?_
         obtain rfl:=Option.some.inj H0
         exact Z8 rfl hst hb (Zi (s:=2)) (hst.at 0 rfl)
        ·replace H0:=Z0 hc14 H0
         refine wp_skip ?_
         refine Zbn ?_
         refine Zo ?_
         obtain ⟨r15,h16,H0⟩:=Zc H0
         refine r_a [50] (L:=[(1,_)]) (hst.pick [0] rfl) hb Za
          (Af Zga 5 rfl<|Al ty_3 0 rfl<|Af Zc6 5 rfl<|Al Zeg 0 rfl<|a_p [20,0] rfl (Zr Zbje (Z45 _ _ h16) rfl rfl (.cons u_0 (.cons u_1 .nil)))<|Aa 0 rfl<|a_n) (fun a g hst hb=>?_)
         refine wp_ret ?_
         obtain rfl:=Option.some.inj H0
         exact Z8 rfl hst hb (Zi (s:=2)) (hst.at 0 rfl)
theorem Zsm (a0:Int) {r:Zcx} (h:Zlq a0=some r):FnOk Tryz.prog 61 [(pInt .i64 a0)] (Zda.pd r):=by
 have H0:=h
 unfold Zlq at H0
 clear h
 refine Zb4 (N:=13) Tryz.func61 rfl rfl (Qe rfl) rfl rfl (fun a g0 hst hb=>?_)
 refine r_a [5,0] (L:=[(0,_)]) hst hb Za
  (a_p (outs:=[(2,(pBox Zda 2 (default:Zcx)))]) (S:=[3]) [] rfl (Zbl (zs:=[.string ByteArray.empty,.int .i64 0,.string ByteArray.empty]) (by kernel_rfl) (fun g=>Zql g) rfl rfl)<|a_n) (fun a g hst hb=>?_)
 refine wp_seq ?_
 refine r_a [5,15,50] (L:=[(0,_),(2,_)]) hst hb Za
  (Am 5 rfl<|a_p [0] rfl (Zbd3 rfl rfl u_0 c_i)<|Am 0 rfl<|a_g [0,5] (Qg_f rfl (fun hG=>Z6 rfl rfl u_0))<|a_g [10,0] (Qg_f rfl (fun hG=>Zre rfl rfl (Opd.gd hG u_0) c_i))<|a_p [20,0] rfl (Zb2 rfl rfl u_0 (fun hz=>(Opd.gd (bNF hz) u_1)))<|a_n) (fun a g hst hb=>?_)
 refine wp_cond_split (hst.bool 2 rfl) (fun hc1=>?_) (fun hc1=>?_)
 ·replace H0:=Z1 hc1 H0
  refine r_a [10] (L:=[(2,_)]) (hst.pick [1] rfl) hb Za
   (a_p [] rfl (Zbgg rfl rfl )<|a_p [0,5] rfl (Zbg Zgc rfl rfl u_1 u_0)<|a_n) (fun a g hst hb=>?_)
  refine wp_ret ?_
  refine Zt ?_
  obtain rfl:=Option.some.inj H0
  obtain ⟨u0,hu0,hq0⟩:=Zbo (P:=Tryz.prog) Zgc (hst.at 0 rfl)
  exact Z8 rfl hst hb hu0 hq0
 ·replace H0:=Z0 hc1 H0
  refine wp_skip ?_
  refine Zo ?_
  obtain ⟨e2,h3,H0⟩:=Zc H0
  refine r_a [30] (L:=[(0,_),(2,_)]) (hst.pick [0,1] rfl) hb Za
   (Am 5 rfl<|a_p [0] rfl (Z6b Tryz.underlying158 Zbhd rfl rfl (Opd.glob gm_0 gk_0) u_0 h3)<|Al Zgc 0 rfl<|a_p [0,15] rfl (Zbg Zgc rfl rfl u_1 u_0)<|a_n) (fun a g hst hb=>?_)
  refine wp_ret ?_
  obtain rfl:=Option.some.inj H0
  obtain ⟨u0,hu0,hq0⟩:=Zbo (P:=Tryz.prog) Zgc (hst.at 0 rfl)
  exact Z8 rfl hst hb hu0 hq0
theorem Ziv (f2:Nat) (C2:List Pd) (hC2:Free C2) (e2_:Zk Tryz.prog f2) (φ2:Zh → Zh → Option Bool) (hφ2:∀ (y0:Zh) (y1:Zh) (r:Bool),φ2 y0 y1=some r → FnOk Tryz.prog f2 ([(Zz.pd y0),(Zz.pd y1)] ++ C2) (Zbm r)) (a0:List Zh) (a1:List Zh) {r:Bool} (h:Zco a0 a1 φ2=some r):FnOk Tryz.prog 58 [(Zz.sl.pd a0),(Zz.sl.pd a1),(pClo f2 C2 hC2)] (Zbm r):=by
 have H0:=h
 unfold Zco at H0
 clear h
 refine Zb4 (N:=32) Tryz.func58 rfl rfl (Qe rfl) rfl rfl (fun a g0 hst hb=>?_)
 refine r_a [5,15,25] (L:=[(0,_),(1,_),(2,_)]) hst hb Za
  (a_p [] rfl (Zd rfl rfl c_b)<|a_n) (fun a g hst hb=>?_)
 refine wp_seq ?_
 refine r_a [5,15,25,40] (L:=[(0,_),(1,_),(2,_)]) hst hb Za
  (Am 5 rfl<|a_p [0] rfl (Zbx Tryz.underlying60 rfl rfl u_0)<|Am 15 rfl<|a_p [0] rfl (Zbx Tryz.underlying60 rfl rfl u_0)<|a_p [20,0] rfl (Zdd rfl rfl u_0 u_1)<|a_n) (fun a g hst hb=>?_)
 refine wp_cond_split (hst.bool 3 rfl) (fun hc1=>?_) (fun hc1=>?_)
 ·replace H0:=Z1 hc1 H0
  refine r_a [0] (L:=[]) (hst.pick [] rfl) hb Za
   (a_p [] rfl (Zd rfl rfl c_b)<|a_n) (fun a g hst hb=>?_)
  refine wp_ret ?_
  refine Zt ?_
  obtain rfl:=Option.some.inj H0
  exact Z8 rfl hst hb (Zi (s:=6)) (hst.at 0 rfl)
 ·replace H0:=Z0 hc1 H0
  refine wp_skip ?_
  refine Zo ?_
  refine wp_seq ?_
  refine r_a [15,25,0,10,20] (L:=[(0,_),(1,_),(2,_)]) (hst.pick [0,1,2] rfl) hb Za
   (Am 5 rfl<|a_p [0] rfl (Zbx Tryz.underlying60 rfl rfl u_0)<|a_p [] rfl (Z6 rfl rfl c_i)<|a_n) (fun a g hst hb=>?_)
  obtain ⟨z11,hz1,H0⟩:=Zc H0
  refine Zbt (fun a w=>∃ (g:G),w=g.w ∧ St 32 [] a g ∧ Base g0 g ∧ (.inr ())=z11) ?_ ?_
  ·rintro a w ⟨g,rfl,hst,hb,rfl⟩
   refine Zo ?_
   refine r_a [0] (L:=[]) hst hb Za
    (a_p [] rfl (Zd rfl rfl c_b)<|a_n) (fun a g hst hb=>?_)
   refine wp_ret ?_
   obtain rfl:=Option.some.inj H0
   exact Z8 rfl hst hb (Zi (s:=6)) (hst.at 0 rfl)
  ·refine wp_block ?_
   refine wp_loop_ghost (fun n a w=>∃ (x2:Int) (g:G),w=g.w ∧ St 32 [(1,(Zz.sl.pd a1)),(2,(pClo f2 C2 hC2)),(15,(Zz.sl.pd a0)),(16,(pInt .i64 (a0.length:Int))),(17,(pInt .i64 x2))] a g ∧ Base g0 g ∧ Zbz a0 a1 φ2 n x2=some z11) (Int.toNat ((a0.length:Int) - (0:Int)) + 1) ⟨(0:Int),g,rfl,(hst.pick [0,1,2,3,4] rfl),hb,hz1⟩ (fun n a w hI=>?_)
   obtain ⟨x2,g,rfl,hst,hb,H1⟩:=hI
   cases n with
   | zero=>exact absurd H1 (by simp [Zbz])
   | succ n =>
    rw [Zbz] at H1
    refine r_a [5,15,25,35,45,0] (L:=[(1,_),(2,_),(15,_),(16,_),(17,_)]) hst hb Za
     (a_p [45,35] rfl (Zcv rfl rfl u_0 u_1)<|a_n) (fun a g hst hb=>?_)
    refine wp_seq ?_
    refine wp_cond_split (hst.bool 5 rfl) (fun hc3=>?_) (fun hc3=>?_)
    ·replace H1:=Z1 hc3 H1
     refine wp_skip ?_
     refine Zo ?_
     refine wp_seq ?_
     refine wp_block ?_
     obtain ⟨e4,h5,H1⟩:=Zc H1
     refine r_a [5,15,40,50,25,35,45] (L:=[(1,_),(2,_),(15,_),(16,_),(17,_)]) (hst.pick [0,1,2,3,4] rfl) hb Za
      (Am 45 rfl<|a_p [25,45] rfl (Zbw Tryz.underlying60 Zho rfl rfl u_0 u_1 h5)<|Al Zfa 0 rfl<|a_p (outs:=[(8,(pBox Zz 8 (default:Zh)))]) (S:=[9]) [] rfl (Zbl (zs:=[.float .f64 0,.string ByteArray.empty]) (by kernel_rfl) (fun g=>Zjx g) rfl rfl)<|Aa 30 rfl<|a_p [20,10] rfl (Zch Zfa rfl rfl u_1 u_0)<|a_n) (fun a g hst hb=>?_)
     obtain ⟨e6,h7,H1⟩:=Zc H1
     refine r_a [5,15,35,50,45,55,65] (L:=[(1,_),(2,_),(7,_),(8,_),(15,_),(16,_),(17,_)]) hst hb Za
      (Am 5 rfl<|Am 25 rfl<|a_p [10,0] rfl (Zbw Tryz.underlying60 Zho rfl rfl u_0 u_1 h7)<|Al Zfa 0 rfl<|a_p (outs:=[(9,(pBox Zz 9 (default:Zh)))]) (S:=[10]) [] rfl (Zbl (zs:=[.float .f64 0,.string ByteArray.empty]) (by kernel_rfl) (fun g=>Zjx g) rfl rfl)<|a_p [10,0] rfl (Zch Zfa rfl rfl u_1 u_0)<|a_n) (fun a g hst hb=>?_)
     obtain ⟨r8,h9,H1⟩:=Zc H1
     refine r_a [5,15,45,55,65,40] (L:=[(1,_),(2,_),(8,_),(9,_),(15,_),(16,_),(17,_)]) hst hb Za
      (Am 15 rfl<|Al Zfa 25 rfl<|Al Zfa 35 rfl<|a_p [20,10,0] rfl (Ztu e2_ (hφ2 _ _ _ h9) rfl rfl u_0 (.cons u_1 (.cons u_2 .nil)))<|a_p [0] rfl (Zc2 rfl rfl u_0)<|a_n) (fun a g hst hb=>?_)
     refine wp_cond_split (hst.bool 5 rfl) (fun hc10=>?_) (fun hc10=>?_)
     ·replace H1:=Z1 hc10 H1
      refine r_a [0] (L:=[]) (hst.pick [] rfl) hb Za
       (a_p [] rfl (Zd rfl rfl c_b)<|a_n) (fun a g hst hb=>?_)
      refine wp_ret ?_
      refine Z5 ?_
      refine Zt ?_
      refine Zt ?_
      refine Z5 ?_
      refine Zt ?_
      refine Zt ?_
      obtain rfl:=Option.some.inj H1
      obtain rfl:=Option.some.inj H0
      exact Z8 rfl hst hb (Zi (s:=6)) (hst.at 0 rfl)
     ·replace H1:=Z0 hc10 H1
      refine wp_skip ?_
      refine Zbn ?_
      refine Zo ?_
      refine r_b [5,15,25,35,10] (L:=[(1,_),(2,_),(15,_),(16,_),(17,_)]) (hst.pick [0,1,2,3,4] rfl) hb Za
       (a_p [45] rfl (Zcf rfl rfl u_0 c_i rfl)<|Am 0 rfl<|a_n) (fun a g hst hb=>?_)
      exact ⟨n,Nat.lt_succ_self _,(IntKind.i64.wrap (x2 + (1:Int))),g,rfl,(hst.pick [0,1,2,3,4] rfl),hb,H1⟩
    ·replace H1:=Z0 hc3 H1
     refine wp_exit ?_
     refine Zb0 ?_
     refine Zb0 ?_
     refine Zcj ?_
     exact ⟨g,rfl,(hst.pick [] rfl),hb,Option.some.inj H1⟩
theorem Z2b (a0:Zh) (a1:Zh) {r:Bool} (h:Zkq a0 a1=some r):FnOk Tryz.prog 59 [(Zz.pd a0),(Zz.pd a1)] (Zbm r):=by
 have H0:=h
 unfold Zkq at H0
 clear h
 refine Zb4 (N:=17) Tryz.func59 rfl rfl (Qe rfl) rfl rfl (fun a g0 hst hb=>?_)
 refine r_a [0,10] (L:=[(0,_),(1,_)]) hst hb Za
  (a_p [5] rfl (Zbq rfl rfl u_0)<|a_p [15] rfl (Zbq rfl rfl u_0)<|a_p [] rfl (Zd rfl rfl c_b)<|a_n) (fun a g hst hb=>?_)
 obtain ⟨r1,h2,H0⟩:=Zc H0
 refine r_a [120] (L:=[(2,_),(3,_)]) hst hb Za
  (Af Zfg 5 rfl<|Al ty_9 0 rfl<|Af Zfg 15 rfl<|Al ty_9 0 rfl<|a_p [20,0] rfl (Zqv rfl rfl u_0 u_1)<|Am 0 rfl<|a_g [0,5] (Qg_t rfl (fun hG=>Zl Zf2 rfl rfl u_0))<|a_g [10,0] (Qg_t rfl (fun hG=>Z2 Zd7 rfl rfl (Opd.gd hG u_0)))<|a_g [20,15] (Qg_t rfl (fun hG=>Zl Zf2 rfl rfl u_0))<|a_g [30,0] (Qg_t rfl (fun hG=>Z2 Zd7 rfl rfl (Opd.gd hG u_0)))<|a_g [40,20,0] (Qg_t rfl (fun hG=>Zr Zwi (Zmt _ _ (Zcb h2 hG)) rfl rfl (.cons (Opd.gd hG u_0) (.cons (Opd.gd hG u_1) .nil))))<|a_p [50,0] rfl (Zb5 rfl rfl u_0 (fun hz=>(Opd.gd hz u_1)))<|Aa 0 rfl<|a_n) (fun a g hst hb=>?_)
 refine wp_ret ?_
 obtain rfl:=Option.some.inj H0
 exact Z8 rfl hst hb (Zi (s:=4)) (hst.at 0 rfl)
theorem Zxg (a0:Zb) (a1:Zb) {r:Bool} (h:Zp5 a0 a1=some r):FnOk Tryz.prog 34 [(Zf.pd a0),(Zf.pd a1)] (Zbm r):=by
 have H0:=h
 unfold Zp5 at H0
 clear h
 refine Zb4 (N:=59) Tryz.func34 rfl rfl (Qe rfl) rfl rfl (fun a g0 hst hb=>?_)
 refine r_a [0,10] (L:=[(0,_),(1,_)]) hst hb Za
  (a_p [5] rfl (Zbq rfl rfl u_0)<|a_p [15] rfl (Zbq rfl rfl u_0)<|a_p [] rfl (Zd rfl rfl c_b)<|a_n) (fun a g hst hb=>?_)
 obtain ⟨r1,h2,H0⟩:=Zc H0;obtain ⟨r3,h4,H0⟩:=Zc H0
 refine r_a [540] (L:=[(2,_),(3,_)]) hst hb Za
  (Af Zga 5 rfl<|Al ty_3 0 rfl<|Af Zga 15 rfl<|Al ty_3 0 rfl<|a_p [20,0] rfl (Zci rfl rfl u_0 u_1)<|Am 0 rfl<|a_g [0,5] (Qg_t rfl (fun hG=>Zl Zez rfl rfl u_0))<|a_g [10,0] (Qg_t rfl (fun hG=>Z2 ty_2 rfl rfl (Opd.gd hG u_0)))<|a_g [20,15] (Qg_t rfl (fun hG=>Zl Zez rfl rfl u_0))<|a_g [30,0] (Qg_t rfl (fun hG=>Z2 ty_2 rfl rfl (Opd.gd hG u_0)))<|a_g [40,20,0] (Qg_t rfl (fun hG=>Zci rfl rfl (Opd.gd hG u_0) (Opd.gd hG u_1)))<|a_p [50,0] rfl (Zb5 rfl rfl u_0 (fun hz=>(Opd.gd hz u_1)))<|Am 0 rfl<|a_g [0,5] (Qg_t rfl (fun hG=>Zl Zko rfl rfl u_0))<|a_g [10,0] (Qg_t rfl (fun hG=>Z2 ty_2 rfl rfl (Opd.gd hG u_0)))<|a_g [20,15] (Qg_t rfl (fun hG=>Zl Zko rfl rfl u_0))<|a_g [30,0] (Qg_t rfl (fun hG=>Z2 ty_2 rfl rfl (Opd.gd hG u_0)))<|a_g [40,20,0] (Qg_t rfl (fun hG=>Zci rfl rfl (Opd.gd hG u_0) (Opd.gd hG u_1)))<|a_p [50,0] rfl (Zb5 rfl rfl u_0 (fun hz=>(Opd.gd hz u_1)))<|Am 0 rfl<|a_g [0,5] (Qg_t rfl (fun hG=>Zl Zkn rfl rfl u_0))<|a_g [10,0] (Qg_t rfl (fun hG=>Z2 ty_2 rfl rfl (Opd.gd hG u_0)))<|a_g [20,15] (Qg_t rfl (fun hG=>Zl Zkn rfl rfl u_0))<|a_g [30,0] (Qg_t rfl (fun hG=>Z2 ty_2 rfl rfl (Opd.gd hG u_0)))<|a_g [40,20,0] (Qg_t rfl (fun hG=>Zci rfl rfl (Opd.gd hG u_0) (Opd.gd hG u_1)))<|a_p [50,0] rfl (Zb5 rfl rfl u_0 (fun hz=>(Opd.gd hz u_1)))<|Am 0 rfl<|a_g [0,5] (Qg_t rfl (fun hG=>Zl Zlx rfl rfl u_0))<|a_g [10,0] (Qg_t rfl (fun hG=>Z2 Zd7 rfl rfl (Opd.gd hG u_0)))<|a_g [20,15] (Qg_t rfl (fun hG=>Zl Zlx rfl rfl u_0))<|a_g [30,0] (Qg_t rfl (fun hG=>Z2 Zd7 rfl rfl (Opd.gd hG u_0)))<|a_g [40,20,0] (Qg_t rfl (fun hG=>Zr Zwi (Zmt _ _ (Zcb h2 hG)) rfl rfl (.cons (Opd.gd hG u_0) (.cons (Opd.gd hG u_1) .nil))))<|a_p [50,0] rfl (Zb5 rfl rfl u_0 (fun hz=>(Opd.gd hz u_1)))<|Am 0 rfl<|a_g [0,5] (Qg_t rfl (fun hG=>Zl Zin rfl rfl u_0))<|a_g [10,0] (Qg_t rfl (fun hG=>Z2 ty_3 rfl rfl (Opd.gd hG u_0)))<|a_g [20,15] (Qg_t rfl (fun hG=>Zl Zin rfl rfl u_0))<|a_g [30,0] (Qg_t rfl (fun hG=>Z2 ty_3 rfl rfl (Opd.gd hG u_0)))<|a_g [40,20,0] (Qg_t rfl (fun hG=>Zci rfl rfl (Opd.gd hG u_0) (Opd.gd hG u_1)))<|a_p [50,0] rfl (Zb5 rfl rfl u_0 (fun hz=>(Opd.gd hz u_1)))<|Am 0 rfl<|a_g [0,5] (Qg_t rfl (fun hG=>Zl Zkp rfl rfl u_0))<|a_g [10,0] (Qg_t rfl (fun hG=>Z2 ty_9 rfl rfl (Opd.gd hG u_0)))<|a_g [20,15] (Qg_t rfl (fun hG=>Zl Zkp rfl rfl u_0))<|a_g [30,0] (Qg_t rfl (fun hG=>Z2 ty_9 rfl rfl (Opd.gd hG u_0)))<|a_g [40,20,0] (Qg_t rfl (fun hG=>Zqv rfl rfl (Opd.gd hG u_0) (Opd.gd hG u_1)))<|a_p [50,0] rfl (Zb5 rfl rfl u_0 (fun hz=>(Opd.gd hz u_1)))<|Am 0 rfl<|a_g [0,5] (Qg_t rfl (fun hG=>Zl Zc6 rfl rfl u_0))<|a_g [10,0] (Qg_t rfl (fun hG=>Z2 Zeg rfl rfl (Opd.gd hG u_0)))<|a_g [20,15] (Qg_t rfl (fun hG=>Zl Zc6 rfl rfl u_0))<|a_g [30,0] (Qg_t rfl (fun hG=>Z2 Zeg rfl rfl (Opd.gd hG u_0)))<|a_g [40,20,0] (Qg_t rfl (fun hG=>Zr Zbkl (Ziv 59 [] rfl Zbi4 (fun y0 y1=>Zkq y0 y1) (fun y0 y1 r h=>Z2b y0 y1 h) _ _ (Zcb h4 hG)) rfl rfl (.cons (Opd.gd hG u_0) (.cons (Opd.gd hG u_1) (.cons Opd.fnc .nil)))))<|a_p [50,0] rfl (Zb5 rfl rfl u_0 (fun hz=>(Opd.gd hz u_1)))<|Aa 0 rfl<|a_n) (fun a g hst hb=>?_)
 refine wp_ret ?_
 obtain rfl:=Option.some.inj H0
 exact Z8 rfl hst hb (Zi (s:=4)) (hst.at 0 rfl)
theorem Zdr (a0:Zcx) (a1:Int) {r:Bool} (h:Zbu a0 a1=some r):FnOk Tryz.prog 79 [(Zda.pd a0),(pInt .u8 a1)] (Zbm r):=by
 have H0:=h
 unfold Zbu at H0
 clear h
 refine Zb4 (N:=19) Tryz.func79 rfl rfl (Qe rfl) rfl rfl (fun a g0 hst hb=>?_)
 refine r_a [15,0] (L:=[(0,_),(1,_)]) hst hb Za
  (a_p [5] rfl (Zbq rfl rfl u_0)<|a_p [] rfl (Zd rfl rfl c_b)<|a_n) (fun a g hst hb=>?_)
 refine wp_seq ?_
 refine r_a [5,15,20,30] (L:=[(1,_),(2,_)]) hst hb Za
  (Af Z3p 15 rfl<|Al ty_9 0 rfl<|a_p [0] rfl (Zhf Tryz.underlying9 rfl rfl u_0)<|a_p [] rfl (Z6 rfl rfl c_i)<|a_n) (fun a g hst hb=>?_)
 obtain ⟨z6,hz1,H0⟩:=Zc H0
 refine Zbt (fun a w=>∃ (g:G),w=g.w ∧ St 19 [] a g ∧ Base g0 g ∧ (.inr ())=z6) ?_ ?_
 ·rintro a w ⟨g,rfl,hst,hb,rfl⟩
  refine Zo ?_
  refine r_a [0] (L:=[]) hst hb Za
   (a_p [] rfl (Zd rfl rfl c_b)<|a_n) (fun a g hst hb=>?_)
  refine wp_ret ?_
  obtain rfl:=Option.some.inj H0
  exact Z8 rfl hst hb (Zi (s:=4)) (hst.at 0 rfl)
 ·refine wp_block ?_
  refine wp_loop_ghost (fun n a w=>∃ (x1:Int) (g:G),w=g.w ∧ St 19 [(1,(pInt .u8 a1)),(2,(Zda.ptr a0)),(8,(pInt .i64 (a0.has.size:Int))),(9,(pInt .i64 x1))] a g ∧ Base g0 g ∧ Zjc a0 a1 n x1=some z6) (Int.toNat ((a0.has.size:Int) - (0:Int)) + 1) ⟨(0:Int),g,rfl,(hst.pick [0,1,2,3] rfl),hb,hz1⟩ (fun n a w hI=>?_)
  obtain ⟨x1,g,rfl,hst,hb,H1⟩:=hI
  cases n with
  | zero=>exact absurd H1 (by simp [Zjc])
  | succ n =>
   rw [Zjc] at H1
   refine r_a [5,15,25,35,0] (L:=[(1,_),(2,_),(8,_),(9,_)]) hst hb Za
    (a_p [35,25] rfl (Zcv rfl rfl u_0 u_1)<|a_n) (fun a g hst hb=>?_)
   refine wp_seq ?_
   refine wp_cond_split (hst.bool 4 rfl) (fun hc2=>?_) (fun hc2=>?_)
   ·replace H1:=Z1 hc2 H1
    refine wp_skip ?_
    refine Zo ?_
    refine wp_seq ?_
    refine wp_block ?_
    refine r_a [5,15,10,25,35] (L:=[(1,_),(2,_),(8,_),(9,_)]) (hst.pick [0,1,2,3] rfl) hb Za
     (Am 35 rfl<|Aa 0 rfl<|a_n) (fun a g hst hb=>?_)
    obtain ⟨b3,h4,H1⟩:=Zc H1
    refine r_a [5,15,35,45,50] (L:=[(1,_),(2,_),(5,_),(8,_),(9,_)]) hst hb Za
     (Af Z3p 15 rfl<|Al ty_9 0 rfl<|Am 25 rfl<|a_p [10,0] rfl (Zrn Tryz.underlying9 rfl rfl u_0 u_1 h4)<|Am 5 rfl<|a_p [10,0] rfl (Zci rfl rfl u_0 u_1)<|a_n) (fun a g hst hb=>?_)
    refine wp_cond_split (hst.bool 4 rfl) (fun hc5=>?_) (fun hc5=>?_)
    ·replace H1:=Z1 hc5 H1
     refine r_a [0] (L:=[]) (hst.pick [] rfl) hb Za
      (a_p [] rfl (Zd rfl rfl c_b)<|a_n) (fun a g hst hb=>?_)
     refine wp_ret ?_
     refine Z5 ?_
     refine Zt ?_
     refine Zt ?_
     refine Z5 ?_
     refine Zt ?_
     refine Zt ?_
     obtain rfl:=Option.some.inj H1
     obtain rfl:=Option.some.inj H0
     exact Z8 rfl hst hb (Zi (s:=4)) (hst.at 0 rfl)
    ·replace H1:=Z0 hc5 H1
     refine wp_skip ?_
     refine Zbn ?_
     refine Zo ?_
     refine r_b [5,15,25,10] (L:=[(1,_),(2,_),(8,_),(9,_)]) (hst.pick [0,1,2,3] rfl) hb Za
      (a_p [35] rfl (Zcf rfl rfl u_0 c_i rfl)<|Am 0 rfl<|a_n) (fun a g hst hb=>?_)
     exact ⟨n,Nat.lt_succ_self _,(IntKind.i64.wrap (x1 + (1:Int))),g,rfl,(hst.pick [0,1,2,3] rfl),hb,H1⟩
   ·replace H1:=Z0 hc2 H1
    refine wp_exit ?_
    refine Zb0 ?_
    refine Zb0 ?_
    refine Zcj ?_
    exact ⟨g,rfl,(hst.pick [] rfl),hb,Option.some.inj H1⟩
theorem Z6k (a0:Zs) (a1:Zcx) {r:Bool} (h:Zt5 a0 a1=some r):FnOk Tryz.prog 62 [(Zy.pd a0),(Zda.pd a1)] (Zbm r):=by
 have H0:=h
 unfold Zt5 at H0
 clear h
 refine Zb4 (N:=40) Tryz.func62 rfl rfl (Qe rfl) rfl rfl (fun a g0 hst hb=>?_)
 refine r_a [0,10] (L:=[(0,_),(1,_)]) hst hb Za
  (a_p [5] rfl (Zbq rfl rfl u_0)<|a_p [15] rfl (Zbq rfl rfl u_0)<|a_p [] rfl (Zd rfl rfl c_b)<|a_n) (fun a g hst hb=>?_)
 obtain ⟨r1,h2,H0⟩:=Zc H0;obtain ⟨r3,h4,H0⟩:=Zc H0;obtain ⟨r5,h6,H0⟩:=Zc H0;obtain ⟨r7,h8,H0⟩:=Zc H0;obtain ⟨r9,h10,H0⟩:=Zc H0;obtain ⟨r11,h12,H0⟩:=Zc H0
 refine r_a [350] (L:=[(2,_),(3,_)]) hst hb Za
  (Al Zgc 15 rfl<|a_p [0] rfl (Zr Zos (Zdr _ _ h2) rfl rfl (.cons u_0 (.cons c_i .nil)))<|Am 0 rfl<|a_g [0,5] (Qg_f rfl (fun hG=>Zl Zg0 rfl rfl u_0))<|a_g [10,0] (Qg_f rfl (fun hG=>Z2 ty_2 rfl rfl (Opd.gd hG u_0)))<|a_g [20,0] (Qg_f rfl (fun hG=>Zci rfl rfl (Opd.gd hG u_0) c_i))<|a_p [30,0] rfl (Zb2 rfl rfl u_0 (fun hz=>(Opd.gd (bNF hz) u_1)))<|Am 0 rfl<|a_g [0,15] (Qg_t rfl (fun hG=>Z2 Zgc rfl rfl u_0))<|a_g [10,0] (Qg_t rfl (fun hG=>Zr Zos (Zdr _ _ (Zcb h4 hG)) rfl rfl (.cons (Opd.gd hG u_0) (.cons c_i .nil))))<|a_g [20,0] (Qg_t rfl (fun hG=>Z6 rfl rfl (Opd.gd hG u_0)))<|a_g [0,5] (Qg_fi rfl (fun hG=>Zl Zo8 rfl rfl u_0))<|a_g [10,0] (Qg_fi rfl (fun hG=>Z2 Zd7 rfl rfl (Opd.gd hG u_0)))<|a_g [20,0] (Qg_fi rfl (fun hG=>Zr Zwi (Zmt _ _ (Zcb h6 hG)) rfl rfl (.cons (Opd.gd hG u_0) (.cons c_f .nil))))<|a_g [60,30,0] (Qg_t rfl (fun hG=>Zb2 rfl rfl (Opd.gd hG u_0) (fun hz=>(Opd.gd (bA hG (bNF hz)) u_1))))<|a_p [70,0] rfl (Zb5 rfl rfl u_0 (fun hz=>(Opd.gd hz u_1)))<|Am 0 rfl<|a_g [0,15] (Qg_t rfl (fun hG=>Z2 Zgc rfl rfl u_0))<|a_g [10,0] (Qg_t rfl (fun hG=>Zr Zos (Zdr _ _ (Zcb h8 hG)) rfl rfl (.cons (Opd.gd hG u_0) (.cons c_i .nil))))<|a_g [20,0] (Qg_t rfl (fun hG=>Z6 rfl rfl (Opd.gd hG u_0)))<|a_g [0,5] (Qg_fi rfl (fun hG=>Zl Zi8 rfl rfl u_0))<|a_g [10,0] (Qg_fi rfl (fun hG=>Z2 ty_9 rfl rfl (Opd.gd hG u_0)))<|a_g [20,0] (Qg_fi rfl (fun hG=>Zqv rfl rfl (Opd.gd hG u_0) c_s))<|a_g [60,30,0] (Qg_t rfl (fun hG=>Zb2 rfl rfl (Opd.gd hG u_0) (fun hz=>(Opd.gd (bA hG (bNF hz)) u_1))))<|a_p [70,0] rfl (Zb5 rfl rfl u_0 (fun hz=>(Opd.gd hz u_1)))<|Am 0 rfl<|a_g [0,15] (Qg_t rfl (fun hG=>Z2 Zgc rfl rfl u_0))<|a_g [10,0] (Qg_t rfl (fun hG=>Zr Zos (Zdr _ _ (Zcb h10 hG)) rfl rfl (.cons (Opd.gd hG u_0) (.cons c_i .nil))))<|a_g [20,0] (Qg_t rfl (fun hG=>Z6 rfl rfl (Opd.gd hG u_0)))<|a_g [0,5] (Qg_fi rfl (fun hG=>Zl Zmy rfl rfl u_0))<|a_g [10,0] (Qg_fi rfl (fun hG=>Z2 Zbr rfl rfl (Opd.gd hG u_0)))<|a_g [20] (Qg_fi rfl (fun hG=>Zvw rfl rfl ))<|a_g [30,10,0] (Qg_fi rfl (fun hG=>Zr Zbdy (Zxg _ _ (Zcb h12 hG)) rfl rfl (.cons (Opd.gd hG u_0) (.cons (Opd.gd hG u_1) .nil))))<|a_g [70,40,0] (Qg_t rfl (fun hG=>Zb2 rfl rfl (Opd.gd hG u_0) (fun hz=>(Opd.gd (bA hG (bNF hz)) u_1))))<|a_p [80,0] rfl (Zb5 rfl rfl u_0 (fun hz=>(Opd.gd hz u_1)))<|Aa 0 rfl<|a_n) (fun a g hst hb=>?_)
 refine wp_ret ?_
 obtain rfl:=Option.some.inj H0
 exact Z8 rfl hst hb (Zi (s:=4)) (hst.at 0 rfl)
theorem Zxo (a0:Zcx) {r:Int} (h:Zou a0=some r):FnOk Tryz.prog 63 [(Zda.pd a0)] (pInt .i64 r):=by
 have H0:=h
 unfold Zou at H0
 clear h
 refine Zb4 (N:=6) Tryz.func63 rfl rfl (Qe rfl) rfl rfl (fun a g0 hst hb=>?_)
 refine r_a [0] (L:=[(0,_)]) hst hb Za
  (a_p [5] rfl (Zbq rfl rfl u_0)<|a_p [] rfl (Zd rfl rfl c_i)<|a_n) (fun a g hst hb=>?_)
 refine wp_seq ?_
 refine r_a [20] (L:=[(1,_)]) hst hb Za
  (Af Z4w 5 rfl<|Al ty_3 0 rfl<|a_p [0] rfl (Zci rfl rfl u_0 c_i)<|a_n) (fun a g hst hb=>?_)
 refine wp_cond_split (hst.bool 0 rfl) (fun hc1=>?_) (fun hc1=>?_)
 ·replace H0:=Z1 hc1 H0
  refine r_a [0] (L:=[]) (hst.pick [] rfl) hb Za
   (a_p [] rfl (Zd rfl rfl c_i)<|a_n) (fun a g hst hb=>?_)
  refine wp_ret ?_
  refine Zt ?_
  obtain rfl:=Option.some.inj H0
  exact Z8 rfl hst hb (Zi (s:=2)) (hst.at 0 rfl)
 ·replace H0:=Z0 hc1 H0
  refine wp_skip ?_
  refine Zo ?_
  refine r_a [0] (L:=[]) (hst.pick [] rfl) hb Za
   (a_p [] rfl (Zd rfl rfl c_i)<|a_n) (fun a g hst hb=>?_)
  refine wp_ret ?_
  obtain rfl:=Option.some.inj H0
  exact Z8 rfl hst hb (Zi (s:=2)) (hst.at 0 rfl)
theorem Zru (a0:Zs) {r:Int} (h:Ze4 a0=some r):FnOk Tryz.prog 36 [(Zy.pd a0)] (pInt .i64 r):=by
 have H0:=h
 unfold Ze4 at H0
 clear h
 refine Zb4 (N:=64) Tryz.func36 rfl rfl (Qe rfl) rfl rfl (fun a g0 hst hb=>?_)
 refine r_a [0] (L:=[(0,_)]) hst hb Za
  (a_p [5] rfl (Zbq rfl rfl u_0)<|a_p [] rfl (Zd rfl rfl c_i)<|a_n) (fun a g hst hb=>?_)
 obtain ⟨r1,h2,H0⟩:=Zc H0
 refine r_a [5,40] (L:=[(1,_)]) hst hb Za
  (Af Zgn 5 rfl<|Al ty_3 0 rfl<|a_p [0] rfl (Zr Z2x (Zsm _ h2) rfl rfl (.cons u_0 .nil))<|a_p (outs:=[(3,(pBox Zda 3 (default:Zcx)))]) (S:=[4]) [] rfl (Zbl (zs:=[.string ByteArray.empty,.int .i64 0,.string ByteArray.empty]) (by kernel_rfl) (fun g=>Zql g) rfl rfl)<|a_p [10,0] rfl (Zch Zgc rfl rfl u_1 u_0)<|a_n) (fun a g hst hb=>?_)
 refine wp_seq ?_
 refine wp_block ?_
 refine r_a [5,15,30] (L:=[(1,_),(3,_)]) hst hb Za
  (Af Zbde 15 rfl<|Al ty_9 0 rfl<|a_p [0] rfl (Zqv rfl rfl u_0 c_s)<|Aa 0 rfl<|a_n) (fun a g hst hb=>?_)
 refine wp_cond_split (hst.bool 2 rfl) (fun hc3=>?_) (fun hc3=>?_)
 ·replace H0:=Z1 hc3 H0
  refine r_a [0] (L:=[]) (hst.pick [] rfl) hb Za
   (a_p [] rfl (Zd rfl rfl c_i)<|a_n) (fun a g hst hb=>?_)
  refine wp_ret ?_
  refine Z5 ?_
  refine Zt ?_
  obtain rfl:=Option.some.inj H0
  exact Z8 rfl hst hb (Zi (s:=2)) (hst.at 0 rfl)
 ·replace H0:=Z0 hc3 H0
  refine r_a [5,15,90] (L:=[(1,_),(3,_)]) (hst.pick [0,1] rfl) hb Za
   (Af Zmx 5 rfl<|Al ty_9 0 rfl<|a_p [0] rfl (Zqv rfl rfl u_0 c_s)<|Am 0 rfl<|a_g [0,5] (Qg_f rfl (fun hG=>Zl Zmx rfl rfl u_0))<|a_g [10,0] (Qg_f rfl (fun hG=>Z2 ty_9 rfl rfl (Opd.gd hG u_0)))<|a_g [20,0] (Qg_f rfl (fun hG=>Zhf Tryz.underlying9 rfl rfl (Opd.gd hG u_0)))<|a_g [30,0] (Qg_f rfl (fun hG=>Zcu rfl rfl (Opd.gd hG u_0) c_i))<|a_p [40,0] rfl (Zb2 rfl rfl u_0 (fun hz=>(Opd.gd (bNF hz) u_1)))<|Aa 0 rfl<|a_n) (fun a g hst hb=>?_)
  refine wp_cond_split (hst.bool 2 rfl) (fun hc4=>?_) (fun hc4=>?_)
  ·replace H0:=Z1 hc4 H0
   refine r_a [0] (L:=[]) (hst.pick [] rfl) hb Za
    (a_p [] rfl (Zd rfl rfl c_i)<|a_n) (fun a g hst hb=>?_)
   refine wp_ret ?_
   refine Z5 ?_
   refine Zt ?_
   obtain rfl:=Option.some.inj H0
   exact Z8 rfl hst hb (Zi (s:=2)) (hst.at 0 rfl)
  ·replace H0:=Z0 hc4 H0
   obtain ⟨r5,h6,H0⟩:=Zc H0
   refine r_a [5,15,40] (L:=[(1,_),(3,_)]) (hst.pick [0,1] rfl) hb Za
    (Al Zhh 5 rfl<|Al Zgc 15 rfl<|a_p [10,0] rfl (Zr Zbi9 (Z6k _ _ h6) rfl rfl (.cons u_0 (.cons u_1 .nil)))<|a_p [0] rfl (Zc2 rfl rfl u_0)<|Aa 0 rfl<|a_n) (fun a g hst hb=>?_)
   refine wp_cond_split (hst.bool 2 rfl) (fun hc7=>?_) (fun hc7=>?_)
   ·replace H0:=Z1 hc7 H0
    refine r_a [0] (L:=[]) (hst.pick [] rfl) hb Za
     (a_p [] rfl (Zd rfl rfl c_i)<|a_n) (fun a g hst hb=>?_)
    refine wp_ret ?_
    refine Z5 ?_
    refine Zt ?_
    obtain rfl:=Option.some.inj H0
    exact Z8 rfl hst hb (Zi (s:=2)) (hst.at 0 rfl)
   ·replace H0:=Z0 hc7 H0
    obtain ⟨r8,h9,H0⟩:=Zc H0
    refine r_a [5,60] (L:=[(1,_),(3,_)]) (hst.pick [0,1] rfl) hb Za
     (Af Zi8 5 rfl<|Al ty_9 0 rfl<|a_p [0] rfl (Zhf Tryz.underlying9 rfl rfl u_0)<|Al Zgc 15 rfl<|a_p [0] rfl (Zr Zbey (Zxo _ h9) rfl rfl (.cons u_0 .nil))<|a_p [20,0] rfl (Zcu rfl rfl u_0 u_1)<|Aa 0 rfl<|a_n) (fun a g hst hb=>?_)
    refine wp_cond_split (hst.bool 1 rfl) (fun hc10=>?_) (fun hc10=>?_)
    ·replace H0:=Z1 hc10 H0
     refine r_a [0] (L:=[]) (hst.pick [] rfl) hb Za
      (a_p [] rfl (Zd rfl rfl c_i)<|a_n) (fun a g hst hb=>?_)
     refine wp_ret ?_
     refine Z5 ?_
     refine Zt ?_
     obtain rfl:=Option.some.inj H0
     exact Z8 rfl hst hb (Zi (s:=2)) (hst.at 0 rfl)
    ·replace H0:=Z0 hc10 H0
     refine r_a [5,180] (L:=[(1,_)]) (hst.pick [0] rfl) hb Za
      (Af Zgn 5 rfl<|Al ty_3 0 rfl<|a_p [0] rfl (Zci rfl rfl u_0 c_i)<|Am 0 rfl<|a_g [0,5] (Qg_f rfl (fun hG=>Zl Zgn rfl rfl u_0))<|a_g [10,0] (Qg_f rfl (fun hG=>Z2 ty_3 rfl rfl (Opd.gd hG u_0)))<|a_g [20,0] (Qg_f rfl (fun hG=>Zci rfl rfl (Opd.gd hG u_0) c_i))<|a_p [30,0] rfl (Zb2 rfl rfl u_0 (fun hz=>(Opd.gd (bNF hz) u_1)))<|Am 0 rfl<|a_g [0,5] (Qg_t rfl (fun hG=>Zl Zg0 rfl rfl u_0))<|a_g [10,0] (Qg_t rfl (fun hG=>Z2 ty_2 rfl rfl (Opd.gd hG u_0)))<|a_g [20,0] (Qg_t rfl (fun hG=>Zcv rfl rfl (Opd.gd hG u_0) c_i))<|a_g [30,0] (Qg_t rfl (fun hG=>Z6 rfl rfl (Opd.gd hG u_0)))<|a_g [0,5] (Qg_fi rfl (fun hG=>Zl Zg0 rfl rfl u_0))<|a_g [10,0] (Qg_fi rfl (fun hG=>Z2 ty_2 rfl rfl (Opd.gd hG u_0)))<|a_g [20,0] (Qg_fi rfl (fun hG=>Zcu rfl rfl (Opd.gd hG u_0) c_i))<|a_g [70,30,0] (Qg_t rfl (fun hG=>Zb2 rfl rfl (Opd.gd hG u_0) (fun hz=>(Opd.gd (bA hG (bNF hz)) u_1))))<|a_p [80,0] rfl (Zb5 rfl rfl u_0 (fun hz=>(Opd.gd hz u_1)))<|Aa 0 rfl<|a_n) (fun a g hst hb=>?_)
     refine wp_cond_split (hst.bool 1 rfl) (fun hc11=>?_) (fun hc11=>?_)
     ·replace H0:=Z1 hc11 H0
      refine r_a [0] (L:=[]) (hst.pick [] rfl) hb Za
       (a_p [] rfl (Zd rfl rfl c_i)<|a_n) (fun a g hst hb=>?_)
      refine wp_ret ?_
      refine Z5 ?_
      refine Zt ?_
      obtain rfl:=Option.some.inj H0
      exact Z8 rfl hst hb (Zi (s:=2)) (hst.at 0 rfl)
     ·replace H0:=Z0 hc11 H0
      obtain ⟨r12,h13,H0⟩:=Zc H0
      refine r_a [5,40] (L:=[(1,_)]) (hst.pick [0] rfl) hb Za
       (Af Zo8 5 rfl<|Al Zd7 0 rfl<|a_p [0] rfl (Zr Z84 (Zq7 _ h13) rfl rfl (.cons u_0 .nil))<|a_p [0] rfl (Zc2 rfl rfl u_0)<|Aa 0 rfl<|a_n) (fun a g hst hb=>?_)
      refine wp_cond_split (hst.bool 1 rfl) (fun hc14=>?_) (fun hc14=>?_)
      ·replace H0:=Z1 hc14 H0
       refine r_a [0] (L:=[]) (hst.pick [] rfl) hb Za
        (a_p [] rfl (Zd rfl rfl c_i)<|a_n) (fun a g hst hb=>?_)
       refine wp_ret ?_
       refine Z5 ?_
       refine Zt ?_
       obtain rfl:=Option.some.inj H0
       exact Z8 rfl hst hb (Zi (s:=2)) (hst.at 0 rfl)
      ·replace H0:=Z0 hc14 H0
       refine r_a [5,30] (L:=[(1,_)]) (hst.pick [0] rfl) hb Za
        (Af Zgn 5 rfl<|Al ty_3 0 rfl<|a_p [0] rfl (Zci rfl rfl u_0 c_i)<|Aa 0 rfl<|a_n) (fun a g hst hb=>?_)
       refine wp_cond_split (hst.bool 1 rfl) (fun hc15=>?_) (fun hc15=>?_)
       ·replace H0:=Z1 hc15 H0
        obtain ⟨r16,h17,H0⟩:=Zc H0
        refine r_a [30] (L:=[(1,_)]) (hst.pick [0] rfl) hb Za
         (Af Zmy 5 rfl<|Al Zbr 0 rfl<|a_p [0] rfl (Zr Z3d (Zpi _ h17) rfl rfl (.cons u_0 .nil))<|Aa 0 rfl<|a_n) (fun a g hst hb=>?_)
        refine wp_ret ?_
        refine Z5 ?_
        refine Zt ?_
        obtain rfl:=Option.some.inj H0
        exact Z8 rfl hst hb (Zi (s:=2)) (hst.at 0 rfl)
       ·replace H0:=Z0 hc15 H0
        refine wp_skip ?_
        refine Zbn ?_
        refine Zo ?_
        refine r_a [0] (L:=[]) (hst.pick [] rfl) hb Za
         (a_p [] rfl (Zd rfl rfl c_i)<|a_n) (fun a g hst hb=>?_)
        refine wp_ret ?_
        obtain rfl:=Option.some.inj H0
        exact Z8 rfl hst hb (Zi (s:=2)) (hst.at 0 rfl)
theorem Zuo (a0:Zu) {r:Int × Int} (h:Zht a0=some r):FnOk Tryz.prog 14 [(Zbb.pd a0)] (pTup [(pInt .i64 r.1),(pInt .i64 r.2)]):=by
 have H0:=h
 unfold Zht at H0
 clear h
 refine Zb4 (N:=33) Tryz.func14 rfl rfl (Qe rfl) rfl rfl (fun a g0 hst hb=>?_)
 refine r_a [0] (L:=[(0,_)]) hst hb Za
  (a_p [5] rfl (Zbq rfl rfl u_0)<|a_p [] rfl (Zd rfl rfl c_i)<|a_p [] rfl (Zd rfl rfl c_i)<|a_n) (fun a g hst hb=>?_)
 refine wp_seq ?_
 refine r_a [5,90] (L:=[(1,_)]) hst hb Za
  (Af Zid 5 rfl<|Al Znd 0 rfl<|a_p [0] rfl (Zbx Tryz.underlying51 rfl rfl u_0)<|a_p [0] rfl (Zci rfl rfl u_0 c_i)<|Am 0 rfl<|a_g [0,5] (Qg_f rfl (fun hG=>Zl Zid rfl rfl u_0))<|a_g [10,0] (Qg_f rfl (fun hG=>Z2 Znd rfl rfl (Opd.gd hG u_0)))<|a_g [20,0] (Qg_f rfl (fun hG=>Zbx Tryz.underlying51 rfl rfl (Opd.gd hG u_0)))<|a_g [30,0] (Qg_f rfl (fun hG=>Zcu rfl rfl (Opd.gd hG u_0) c_i))<|a_p [40,0] rfl (Zb2 rfl rfl u_0 (fun hz=>(Opd.gd (bNF hz) u_1)))<|a_n) (fun a g hst hb=>?_)
 refine wp_cond_split (hst.bool 1 rfl) (fun hc1=>?_) (fun hc1=>?_)
 ·replace H0:=Z1 hc1 H0
  refine r_a [0,10] (L:=[]) (hst.pick [] rfl) hb Za
   (a_p [] rfl (Zd rfl rfl c_i)<|a_p [] rfl (Zd rfl rfl c_i)<|a_n) (fun a g hst hb=>?_)
  refine wp_ret ?_
  refine Zt ?_
  obtain rfl:=Option.some.inj H0
  exact Zev rfl hst hb (Zi (s:=2)) (Zi (s:=3)) (Zdc (hst.at 0 rfl) (hst.at 1 rfl))
 ·replace H0:=Z0 hc1 H0
  refine wp_skip ?_
  refine Zo ?_
  refine wp_seq ?_
  refine r_a [10,20,30] (L:=[(1,_)]) (hst.pick [0] rfl) hb Za
   (Af Zid 5 rfl<|Al Znd 0 rfl<|a_p [0] rfl (Zbx Tryz.underlying51 rfl rfl u_0)<|a_p [] rfl (Z6 rfl rfl c_i)<|a_n) (fun a g hst hb=>?_)
  obtain ⟨z9,hz1,H0⟩:=Zc H0
  refine Zbt (fun a w=>∃ (g:G),w=g.w ∧ St 33 [] a g ∧ Base g0 g ∧ (.inr ())=z9) ?_ ?_
  ·rintro a w ⟨g,rfl,hst,hb,rfl⟩
   refine Zo ?_
   refine r_a [0,10] (L:=[]) hst hb Za
    (a_p [] rfl (Zd rfl rfl c_i)<|a_p [] rfl (Zd rfl rfl c_i)<|a_n) (fun a g hst hb=>?_)
   refine wp_ret ?_
   obtain rfl:=Option.some.inj H0
   exact Zev rfl hst hb (Zi (s:=2)) (Zi (s:=3)) (Zdc (hst.at 0 rfl) (hst.at 1 rfl))
  ·refine wp_block ?_
   refine wp_loop_ghost (fun n a w=>∃ (x2:Int) (g:G),w=g.w ∧ St 33 [(18,(Zy.sl.pd a0.Acts)),(19,(pInt .i64 (a0.Acts.length:Int))),(20,(pInt .i64 x2))] a g ∧ Base g0 g ∧ Zej a0 n x2=some z9) (Int.toNat ((a0.Acts.length:Int) - (0:Int)) + 1) ⟨(0:Int),g,rfl,(hst.pick [0,1,2] rfl),hb,hz1⟩ (fun n a w hI=>?_)
   obtain ⟨x2,g,rfl,hst,hb,H1⟩:=hI
   cases n with
   | zero=>exact absurd H1 (by simp [Zej])
   | succ n =>
    rw [Zej] at H1
    refine r_a [5,15,25,0] (L:=[(18,_),(19,_),(20,_)]) hst hb Za
     (a_p [25,15] rfl (Zcv rfl rfl u_0 u_1)<|a_n) (fun a g hst hb=>?_)
    refine wp_seq ?_
    refine wp_cond_split (hst.bool 3 rfl) (fun hc3=>?_) (fun hc3=>?_)
    ·replace H1:=Z1 hc3 H1
     refine wp_skip ?_
     refine Zo ?_
     refine wp_seq ?_
     refine wp_block ?_
     obtain ⟨e4,h5,H1⟩:=Zc H1
     refine r_a [40,50,5,15,25] (L:=[(18,_),(19,_),(20,_)]) (hst.pick [0,1,2] rfl) hb Za
      (Am 25 rfl<|a_p [5,25] rfl (Zbw Tryz.underlying51 Zsj rfl rfl u_0 u_1 h5)<|Al Zhh 0 rfl<|a_p (outs:=[(5,(pBox Zy 5 (default:Zs)))]) (S:=[6]) [] rfl (Zbl (zs:=[.int .i64 0,.string ByteArray.empty,.int .i64 0,.float .f64 0,.string ByteArray.empty,.int .i64 0,.int .i64 0,.int .i64 0,.int .i64 0,.float .f64 0,.int .i64 0,.string ByteArray.empty,.slice none 0 0,.bool false]) (by kernel_rfl) (fun g=>Zn3 g) rfl rfl)<|Aa 30 rfl<|a_p [20,10] rfl (Zch Zhh rfl rfl u_1 u_0)<|a_n) (fun a g hst hb=>?_)
     obtain ⟨r6,h7,H1⟩:=Zc H1
     refine r_a [5,20,25,35,45] (L:=[(4,_),(5,_),(18,_),(19,_),(20,_)]) hst hb Za
      (Al Zhh 15 rfl<|a_p [0] rfl (Zr Z9b (Zru _ h7) rfl rfl (.cons u_0 .nil))<|Aa 0 rfl<|a_n) (fun a g hst hb=>?_)
     refine r_a [5,15,25,35,45,10] (L:=[(4,_),(6,_),(18,_),(19,_),(20,_)]) hst hb Za
      (Am 15 rfl<|a_p [0] rfl (Zdd rfl rfl u_0 c_i)<|a_n) (fun a g hst hb=>?_)
     refine wp_cond_split (hst.bool 5 rfl) (fun hc8=>?_) (fun hc8=>?_)
     ·replace H1:=Z1 hc8 H1
      refine r_a [30,40] (L:=[(4,_),(6,_)]) (hst.pick [0,1] rfl) hb Za
       (Am 15 rfl<|Am 5 rfl<|a_p [0] rfl (Zcf rfl rfl u_0 c_i rfl)<|Aa 20 rfl<|Aa 10 rfl<|a_n) (fun a g hst hb=>?_)
      refine wp_ret ?_
      refine Z5 ?_
      refine Zt ?_
      refine Zt ?_
      refine Z5 ?_
      refine Zt ?_
      refine Zt ?_
      obtain rfl:=Option.some.inj H1
      obtain rfl:=Option.some.inj H0
      exact Zev rfl hst hb (Zi (s:=2)) (Zi (s:=3)) (Zdc (hst.at 0 rfl) (hst.at 1 rfl))
     ·replace H1:=Z0 hc8 H1
      refine wp_skip ?_
      refine Zbn ?_
      refine Zo ?_
      refine r_b [5,15,10] (L:=[(18,_),(19,_),(20,_)]) (hst.pick [2,3,4] rfl) hb Za
       (a_p [25] rfl (Zcf rfl rfl u_0 c_i rfl)<|Am 0 rfl<|a_n) (fun a g hst hb=>?_)
      exact ⟨n,Nat.lt_succ_self _,(IntKind.i64.wrap (x2 + (1:Int))),g,rfl,(hst.pick [0,1,2] rfl),hb,H1⟩
    ·replace H1:=Z0 hc3 H1
     refine wp_exit ?_
     refine Zb0 ?_
     refine Zb0 ?_
     refine Zcj ?_
     exact ⟨g,rfl,(hst.pick [] rfl),hb,Option.some.inj H1⟩
theorem Zfi (a0:Zn) (a1:Int) {r:Zn} (h:Zdq a0 a1=some r):FnMR Tryz.prog 37 obWr a0 r [(pInt .u64 a1)] (pTup []):=by
 have H0:=h
 unfold Zdq at H0
 clear h
 refine Zn2 (N:=31) Tryz.func37 rfl rfl (Qe rfl) rfl rfl (fun a g0 b0 hst hb=>?_)
 replace hst:St 31 [(0,(pEq (ptrB b0 0))),(1,(pInt .u64 a1)),(1002,(pSJ Zbh Z9 (hpL (pRow (Kd.int .u8) 5 1000000 (Zce a0))) 0 b0 a0))] _ _:=Zl6 hst
 let g:=g0
 obtain ⟨z7,hz1,H0⟩:=Zc H0
 refine wp_seq ?_
 refine Zbt (fun a w=>∃ (y5:Int) (y6:Zn) (g:G),w=g.w ∧ St 31 [(0,(pEq (ptrB b0 0))),(1,(pInt .u64 y5)),(1002,(pSJ Zbh Z9 (hpL (pRow (Kd.int .u8) 5 1000000 (Zce y6))) 0 b0 y6))] a g ∧ Base g0 g ∧ (y5,y6)=z7) ?_ ?_
 ·rintro a w ⟨y5,y6,g,rfl,hst,hb,rfl⟩
  refine Zo ?_
  obtain ⟨h8,H0⟩:=Ze0 H0
  refine r_b [5,110] (L:=[(0,_),(1,_),(1002,_)]) hst hb Za
   (Am 5 rfl<|Am 5 rfl<|a_p [0] rfl (Zm rfl rfl u_0 (fun _ _ h=>⟨_,h⟩))<|a_p [0] rfl (Zcr Zj1 rfl rfl u_0)<|a_p (outs:=[(24,(pRow (Kd.int .u8) 5 1000000 y6.b))]) (S:=[]) [0,25] rfl (Zlb Zlv (fun g s cs h=>Zuh h) rfl rfl u_1 u_0)<|Am 15 rfl<|a_p [0] rfl (Zen Tryz.underlying95 Tryz.underlying5 rfl rfl u_0 rfl)<|a_p [0] rfl (Zjd Zor (xs:=[.tmp 26]) (.cons u_0 .nil) (by decide) rfl rfl)<|a_p (outs:=[(1002,(pSJ Zbh Z9 hpT 0 b0 y6)),(28,(pRow (Kd.int .u8) 5 1000000 (y6.b ++ ([(IntKind.u8.wrap y5)]:List Int))))]) (S:=[1000001]) [30,0,25] rfl (OB.frameU (Zfc Zor rfl rfl u_0 u_1 h8) (Opd.imp u_2 (fun _ _ h=>sj_T h)) (fun k hk hS=>Zs1 (List.mem_singleton.1 hk) (List.mem_singleton.1 hS) (by decide)) (fun h=>by cases h))<|a_p [80] rfl (Zm rfl rfl u_0 (fun _ _ h=>⟨_,h⟩))<|a_p [0] rfl (Zcr Zj1 rfl rfl u_0)<|a_p (outs:=[(1002,(pSJ Zbh Z9 (hpL (pRow (Kd.int .u8) 5 1000000 (Zce ({ b:=(y6.b ++ ([(IntKind.u8.wrap y5)]:List Int)) }:Zn)))) 0 b0 ({ b:=(y6.b ++ ([(IntKind.u8.wrap y5)]:List Int)) }:Zn)))]) (S:=[1]) [0,21,20] rfl (Zlo (x':=({ b:=(y6.b ++ ([(IntKind.u8.wrap y5)]:List Int)) }:Zn)) Zlv rfl rfl (fun _ _ h=>Zmv h) (fun k hk=>by cases hk) (fun k hk=>by rw [List.mem_singleton.1 hk];decide) u_2 u_0 u_1 (fun g cs s0 s1 ys h hy=>Zif h hy))<|a_n) (fun a g hst hb=>?_)
  obtain rfl:=Option.some.inj H0
  exact Zpc rfl hst hb (hst.at 1 rfl)
 ·refine wp_block ?_
  refine wp_loop_ghost (fun n a w=>∃ (x1:Int) (x2:Zn) (g:G),w=g.w ∧ St 31 [(0,(pEq (ptrB b0 0))),(1,(pInt .u64 x1)),(1002,(pSJ Zbh Z9 (hpL (pRow (Kd.int .u8) 5 1000000 (Zce x2))) 0 b0 x2))] a g ∧ Base g0 g ∧ Zfl n x1 x2=some z7) 11 ⟨a1,a0,g,rfl,(hst.pick [0,1,2] rfl),hb,hz1⟩ (fun n a w hI=>?_)
  obtain ⟨x1,x2,g,rfl,hst,hb,H1⟩:=hI
  cases n with
  | zero=>exact absurd H1 (by simp [Zfl])
  | succ n =>
   rw [Zfl] at H1
   refine wp_seq ?_
   refine r_a [5,15,10,25] (L:=[(0,_),(1,_),(1002,_)]) hst hb Za
    (Am 15 rfl<|a_p [0] rfl (Zre rfl rfl u_0 c_i)<|a_n) (fun a g hst hb=>?_)
   refine wp_cond_split (hst.bool 2 rfl) (fun hc3=>?_) (fun hc3=>?_)
   ·replace H1:=Z1 hc3 H1
    refine wp_skip ?_
    refine Zo ?_
    refine wp_block ?_
    obtain ⟨h4,H1⟩:=Ze0 H1
    refine r_a [5,15,120] (L:=[(0,_),(1,_),(1002,_)]) (hst.pick [0,1,3] rfl) hb Za
     (Am 5 rfl<|Am 5 rfl<|a_p [0] rfl (Zm rfl rfl u_0 (fun _ _ h=>⟨_,h⟩))<|a_p [0] rfl (Zcr Zj1 rfl rfl u_0)<|a_p (outs:=[(10,(pRow (Kd.int .u8) 5 1000000 x2.b))]) (S:=[]) [0,25] rfl (Zlb Zlv (fun g s cs h=>Zuh h) rfl rfl u_1 u_0)<|Am 15 rfl<|a_p [0] rfl (Zen Tryz.underlying95 Tryz.underlying5 rfl rfl u_0 rfl)<|a_p [0] rfl (Z3g rfl rfl u_0 c_i)<|a_p [0] rfl (Zjd Zor (xs:=[.tmp 13]) (.cons u_0 .nil) (by decide) rfl rfl)<|a_p (outs:=[(1002,(pSJ Zbh Z9 hpT 0 b0 x2)),(15,(pRow (Kd.int .u8) 5 1000000 (x2.b ++ ([(bOr .u8 (IntKind.u8.wrap x1) (128:Int))]:List Int))))]) (S:=[1000001]) [40,0,25] rfl (OB.frameU (Zfc Zor rfl rfl u_0 u_1 h4) (Opd.imp u_2 (fun _ _ h=>sj_T h)) (fun k hk hS=>Zs1 (List.mem_singleton.1 hk) (List.mem_singleton.1 hS) (by decide)) (fun h=>by cases h))<|a_p [90] rfl (Zm rfl rfl u_0 (fun _ _ h=>⟨_,h⟩))<|a_p [0] rfl (Zcr Zj1 rfl rfl u_0)<|a_p (outs:=[(1002,(pSJ Zbh Z9 (hpL (pRow (Kd.int .u8) 5 1000000 (Zce ({ b:=(x2.b ++ ([(bOr .u8 (IntKind.u8.wrap x1) (128:Int))]:List Int)) }:Zn)))) 0 b0 ({ b:=(x2.b ++ ([(bOr .u8 (IntKind.u8.wrap x1) (128:Int))]:List Int)) }:Zn)))]) (S:=[1]) [0,21,20] rfl (Zlo (x':=({ b:=(x2.b ++ ([(bOr .u8 (IntKind.u8.wrap x1) (128:Int))]:List Int)) }:Zn)) Zlv rfl rfl (fun _ _ h=>Zmv h) (fun k hk=>by cases hk) (fun k hk=>by rw [List.mem_singleton.1 hk];decide) u_2 u_0 u_1 (fun g cs s0 s1 ys h hy=>Zif h hy))<|a_n) (fun a g hst hb=>?_)
    refine r_b [5,20,25] (L:=[(0,_),(1,_),(1002,_)]) hst hb Za
     (Am 15 rfl<|a_p [0] rfl (Zv4 rfl rfl u_0 c_i (by decide) rfl)<|Aa 0 rfl<|a_n) (fun a g hst hb=>?_)
    refine Zbn ?_
    exact ⟨n,Nat.lt_succ_self _,(Int.fdiv x1 (2 ^ 7)),({ b:=(x2.b ++ ([(bOr .u8 (IntKind.u8.wrap x1) (128:Int))]:List Int)) }:Zn),g,rfl,(hst.pick [0,1,2] rfl),hb,H1⟩
   ·replace H1:=Z0 hc3 H1
    refine wp_exit ?_
    refine Zb0 ?_
    refine Zb0 ?_
    refine Zcj ?_
    exact ⟨x1,x2,g,rfl,(hst.pick [0,1,3] rfl),hb,Option.some.inj H1⟩
theorem Zus (a0:Zn) (a1:Bool) {r:Zn} (h:Zib a0 a1=some r):FnMR Tryz.prog 91 obWr a0 r [(Zbm a1)] (pTup []):=by
 have H0:=h
 unfold Zib at H0
 clear h
 refine Zn2 (N:=23) Tryz.func91 rfl rfl (Qe rfl) rfl rfl (fun a g0 b0 hst hb=>?_)
 replace hst:St 23 [(0,(pEq (ptrB b0 0))),(1,(Zbm a1)),(1002,(pSJ Zbh Z9 (hpL (pRow (Kd.int .u8) 5 1000000 (Zce a0))) 0 b0 a0))] _ _:=Zl6 hst
 refine wp_seq ?_
 refine r_a [5,0,25] (L:=[(0,_),(1,_),(1002,_)]) hst hb Za
  (Am 15 rfl<|a_n) (fun a g hst hb=>?_)
 refine wp_cond_split (hst.bool 1 rfl) (fun hc1=>?_) (fun hc1=>?_)
 ·replace H0:=Z1 hc1 H0
  obtain ⟨h2,H0⟩:=Ze0 H0
  refine r_a [5,90] (L:=[(0,_),(1002,_)]) (hst.pick [0,2] rfl) hb Za
   (Am 5 rfl<|Am 5 rfl<|a_p [0] rfl (Zm rfl rfl u_0 (fun _ _ h=>⟨_,h⟩))<|a_p [0] rfl (Zcr Zj1 rfl rfl u_0)<|a_p (outs:=[(9,(pRow (Kd.int .u8) 5 1000000 a0.b))]) (S:=[]) [0,15] rfl (Zlb Zlv (fun g s cs h=>Zuh h) rfl rfl u_1 u_0)<|a_p [] rfl (Zjd Zor (xs:=[.const (.int .u8 1)]) (.cons c_i .nil) (by decide) rfl rfl)<|a_p (outs:=[(1002,(pSJ Zbh Z9 hpT 0 b0 a0)),(11,(pRow (Kd.int .u8) 5 1000000 (a0.b ++ ([(1:Int)]:List Int))))]) (S:=[1000001]) [10,0,15] rfl (OB.frameU (Zfc Zor rfl rfl u_0 u_1 h2) (Opd.imp u_2 (fun _ _ h=>sj_T h)) (fun k hk hS=>Zs1 (List.mem_singleton.1 hk) (List.mem_singleton.1 hS) (by decide)) (fun h=>by cases h))<|a_p [60] rfl (Zm rfl rfl u_0 (fun _ _ h=>⟨_,h⟩))<|a_p [0] rfl (Zcr Zj1 rfl rfl u_0)<|a_p (outs:=[(1002,(pSJ Zbh Z9 (hpL (pRow (Kd.int .u8) 5 1000000 (Zce ({ b:=(a0.b ++ ([(1:Int)]:List Int)) }:Zn)))) 0 b0 ({ b:=(a0.b ++ ([(1:Int)]:List Int)) }:Zn)))]) (S:=[1]) [0,21,20] rfl (Zlo (x':=({ b:=(a0.b ++ ([(1:Int)]:List Int)) }:Zn)) Zlv rfl rfl (fun _ _ h=>Zmv h) (fun k hk=>by cases hk) (fun k hk=>by rw [List.mem_singleton.1 hk];decide) u_2 u_0 u_1 (fun g cs s0 s1 ys h hy=>Zif h hy))<|a_n) (fun a g hst hb=>?_)
  refine wp_ret ?_
  refine Zt ?_
  obtain rfl:=Option.some.inj H0
  exact Zbbk rfl hst hb (hst.at 1 rfl)
 ·replace H0:=Z0 hc1 H0
  refine wp_skip ?_
  refine Zo ?_
  obtain ⟨h3,H0⟩:=Ze0 H0
  refine r_b [5,90] (L:=[(0,_),(1002,_)]) (hst.pick [0,2] rfl) hb Za
   (Am 5 rfl<|Am 5 rfl<|a_p [0] rfl (Zm rfl rfl u_0 (fun _ _ h=>⟨_,h⟩))<|a_p [0] rfl (Zcr Zj1 rfl rfl u_0)<|a_p (outs:=[(18,(pRow (Kd.int .u8) 5 1000000 a0.b))]) (S:=[]) [0,15] rfl (Zlb Zlv (fun g s cs h=>Zuh h) rfl rfl u_1 u_0)<|a_p [] rfl (Zjd Zor (xs:=[.const (.int .u8 0)]) (.cons c_i .nil) (by decide) rfl rfl)<|a_p (outs:=[(1002,(pSJ Zbh Z9 hpT 0 b0 a0)),(20,(pRow (Kd.int .u8) 5 1000000 (a0.b ++ ([(0:Int)]:List Int))))]) (S:=[1000001]) [10,0,15] rfl (OB.frameU (Zfc Zor rfl rfl u_0 u_1 h3) (Opd.imp u_2 (fun _ _ h=>sj_T h)) (fun k hk hS=>Zs1 (List.mem_singleton.1 hk) (List.mem_singleton.1 hS) (by decide)) (fun h=>by cases h))<|a_p [60] rfl (Zm rfl rfl u_0 (fun _ _ h=>⟨_,h⟩))<|a_p [0] rfl (Zcr Zj1 rfl rfl u_0)<|a_p (outs:=[(1002,(pSJ Zbh Z9 (hpL (pRow (Kd.int .u8) 5 1000000 (Zce ({ b:=(a0.b ++ ([(0:Int)]:List Int)) }:Zn)))) 0 b0 ({ b:=(a0.b ++ ([(0:Int)]:List Int)) }:Zn)))]) (S:=[1]) [0,21,20] rfl (Zlo (x':=({ b:=(a0.b ++ ([(0:Int)]:List Int)) }:Zn)) Zlv rfl rfl (fun _ _ h=>Zmv h) (fun k hk=>by cases hk) (fun k hk=>by rw [List.mem_singleton.1 hk];decide) u_2 u_0 u_1 (fun g cs s0 s1 ys h hy=>Zif h hy))<|a_n) (fun a g hst hb=>?_)
  obtain rfl:=Option.some.inj H0
  exact Zpc rfl hst hb (hst.at 1 rfl)
theorem Zl8 (a0:Zn) (a1:ByteArray) {r:Zn} (h:Zfp a0 a1=some r):FnMR Tryz.prog 92 obWr a0 r [(pStr a1)] (pTup []):=by
 have H0:=h
 unfold Zfp at H0
 clear h
 refine Zn2 (N:=18) Tryz.func92 rfl rfl (Qe rfl) rfl rfl (fun a g0 b0 hst hb=>?_)
 replace hst:St 18 [(0,(pEq (ptrB b0 0))),(1,(pStr a1)),(1002,(pSJ Zbh Z9 (hpL (pRow (Kd.int .u8) 5 1000000 (Zce a0))) 0 b0 a0))] _ _:=Zl6 hst
 obtain ⟨r1,h2,H0⟩:=Zc H0
 refine r_a [5,15,41] (L:=[(0,_),(1,_),(1002,_)]) hst hb Za
  (Am 5 rfl<|Am 15 rfl<|a_p [0] rfl (Zhf Tryz.underlying9 rfl rfl u_0)<|a_p [0] rfl (Zen Tryz.underlying3 Tryz.underlying95 rfl rfl u_0 rfl)<|a_p [30,25,0] rfl (Zcy (m:=1002) (lst:=Zce) Zrj (Zfi _ _ h2) rfl rfl rfl (by decide) u_1 u_0 (.cons u_2 .nil))<|a_n) (fun a g hst hb=>?_)
 obtain ⟨h3,H0⟩:=Ze0 H0
 refine r_b [5,90] (L:=[(0,_),(1,_),(1002,_)]) hst hb Za
  (Am 5 rfl<|Am 5 rfl<|a_p [0] rfl (Zm rfl rfl u_0 (fun _ _ h=>⟨_,h⟩))<|a_p [0] rfl (Zcr Zj1 rfl rfl u_0)<|a_p (outs:=[(13,(pRow (Kd.int .u8) 5 1000000 r1.b))]) (S:=[]) [0,25] rfl (Zlb Zlv (fun g s cs h=>Zuh h) rfl rfl u_1 u_0)<|Am 15 rfl<|a_p (outs:=[(1002,(pSJ Zbh Z9 hpT 0 b0 r1)),(15,(pRow (Kd.int .u8) 5 1000000 (r1.b ++ bts a1)))]) (S:=[1000001]) [10,0,25] rfl (OB.frameU (Z54 Zor Tryz.underlying9 rfl rfl u_0 u_1 h3) (Opd.imp u_2 (fun _ _ h=>sj_T h)) (fun k hk hS=>Zs1 (List.mem_singleton.1 hk) (List.mem_singleton.1 hS) (by decide)) (fun h=>by cases h))<|a_p [60] rfl (Zm rfl rfl u_0 (fun _ _ h=>⟨_,h⟩))<|a_p [0] rfl (Zcr Zj1 rfl rfl u_0)<|a_p (outs:=[(1002,(pSJ Zbh Z9 (hpL (pRow (Kd.int .u8) 5 1000000 (Zce ({ b:=(r1.b ++ bts a1) }:Zn)))) 0 b0 ({ b:=(r1.b ++ bts a1) }:Zn)))]) (S:=[1]) [0,21,20] rfl (Zlo (x':=({ b:=(r1.b ++ bts a1) }:Zn)) Zlv rfl rfl (fun _ _ h=>Zmv h) (fun k hk=>by cases hk) (fun k hk=>by rw [List.mem_singleton.1 hk];decide) u_2 u_0 u_1 (fun g cs s0 s1 ys h hy=>Zif h hy))<|a_n) (fun a g hst hb=>?_)
 obtain rfl:=Option.some.inj H0
 exact Zpc rfl hst hb (hst.at 1 rfl)
theorem Zmh (a0:Zn) (a1:Int) {r:Zn} (h:Zfs a0 a1=some r):FnMR Tryz.prog 93 obWr a0 r [(pInt .i64 a1)] (pTup []):=by
 have H0:=h
 unfold Zfs at H0
 clear h
 refine Zn2 (N:=13) Tryz.func93 rfl rfl (Qe rfl) rfl rfl (fun a g0 b0 hst hb=>?_)
 replace hst:St 13 [(0,(pEq (ptrB b0 0))),(1,(pInt .i64 a1)),(1002,(pSJ Zbh Z9 (hpL (pRow (Kd.int .u8) 5 1000000 (Zce a0))) 0 b0 a0))] _ _:=Zl6 hst
 obtain ⟨r1,h2,H0⟩:=Zc H0
 refine r_b [5,81] (L:=[(0,_),(1,_),(1002,_)]) hst hb Za
  (Am 5 rfl<|Am 15 rfl<|a_p [0] rfl (Zen Tryz.underlying2 Tryz.underlying95 rfl rfl u_0 rfl)<|a_p [0] rfl (Z36 rfl rfl u_0 c_i (by decide) rfl)<|Am 15 rfl<|a_p [0] rfl (Zv4 rfl rfl u_0 c_i (by decide) rfl)<|a_p [0] rfl (Zen Tryz.underlying2 Tryz.underlying95 rfl rfl u_0 rfl)<|a_p [30,0] rfl (Zbaz rfl rfl u_0 u_1)<|a_p [70,25,0] rfl (Zcy (m:=1002) (lst:=Zce) Zrj (Zfi _ _ h2) rfl rfl rfl (by decide) u_1 u_0 (.cons u_2 .nil))<|a_n) (fun a g hst hb=>?_)
 obtain rfl:=Option.some.inj H0
 exact Zpc rfl hst hb (hst.at 1 rfl)
theorem Zo3 (a0:Zn) (a1:Nat) {r:Zn} (h:Zfr a0 a1=some r):FnMR Tryz.prog 94 obWr a0 r [(pFlt a1)] (pTup []):=by
 have H0:=h
 unfold Zfr at H0
 clear h
 refine Zn2 (N:=25) Tryz.func94 rfl rfl (Qe rfl) rfl rfl (fun a g0 b0 hst hb=>?_)
 replace hst:St 25 [(0,(pEq (ptrB b0 0))),(1,(pFlt a1)),(1002,(pSJ Zbh Z9 (hpL (pRow (Kd.int .u8) 5 1000000 (Zce a0))) 0 b0 a0))] _ _:=Zl6 hst
 obtain ⟨r1,h2,H0⟩:=Zc H0
 refine r_a [5,20,25] (L:=[(0,_),(1,_),(1002,_)]) hst hb Za
  (Am 15 rfl<|a_p [0] rfl (Zr Zwc (Zn0 _ h2) rfl rfl (.cons u_0 .nil))<|Aa 0 rfl<|a_n) (fun a g hst hb=>?_)
 refine r_a [5,15,0,25] (L:=[(0,_),(4,_),(1002,_)]) hst hb Za
  (a_p [] rfl (Zd rfl rfl c_i)<|a_n) (fun a g hst hb=>?_)
 obtain ⟨z9,hz1,H0⟩:=Zc H0
 refine Zbt (fun a w=>∃ (y8:Zn) (g:G),w=g.w ∧ St 25 [(0,(pEq (ptrB b0 0))),(1002,(pSJ Zbh Z9 (hpL (pRow (Kd.int .u8) 5 1000000 (Zce y8))) 0 b0 y8))] a g ∧ Base g0 g ∧ y8=z9) ?_ ?_
 ·rintro a w ⟨y8,g,rfl,hst,hb,rfl⟩
  obtain rfl:=Option.some.inj H0
  exact Zpc rfl hst hb (hst.at 1 rfl)
 ·refine wp_block ?_
  refine wp_loop_ghost (fun n a w=>∃ (x3:Int) (x4:Zn) (g:G),w=g.w ∧ St 25 [(0,(pEq (ptrB b0 0))),(4,(pInt .u64 r1)),(5,(pInt .i64 x3)),(1002,(pSJ Zbh Z9 (hpL (pRow (Kd.int .u8) 5 1000000 (Zce x4))) 0 b0 x4))] a g ∧ Base g0 g ∧ Zgi r1 n x3 x4=some z9) (Int.toNat ((56:Int) + 1 - (0:Int)) + 1) ⟨(56:Int),a0,g,rfl,(hst.pick [0,1,2,3] rfl),hb,hz1⟩ (fun n a w hI=>?_)
  obtain ⟨x3,x4,g,rfl,hst,hb,H1⟩:=hI
  cases n with
  | zero=>exact absurd H1 (by simp [Zgi])
  | succ n =>
   rw [Zgi] at H1
   refine wp_seq ?_
   refine r_a [5,15,25,10,35] (L:=[(0,_),(4,_),(5,_),(1002,_)]) hst hb Za
    (Am 25 rfl<|a_p [0] rfl (Zre rfl rfl u_0 c_i)<|a_n) (fun a g hst hb=>?_)
   refine wp_cond_split (hst.bool 3 rfl) (fun hc5=>?_) (fun hc5=>?_)
   ·replace H1:=Z1 hc5 H1
    refine wp_skip ?_
    refine Zo ?_
    refine wp_seq ?_
    refine wp_block ?_
    obtain ⟨h6,H1⟩:=Ze0 H1;obtain ⟨h7,H1⟩:=Ze0 H1
    refine r_b [5,15,25,130] (L:=[(0,_),(4,_),(5,_),(1002,_)]) (hst.pick [0,1,2,4] rfl) hb Za
     (Am 5 rfl<|Am 5 rfl<|a_p [0] rfl (Zm rfl rfl u_0 (fun _ _ h=>⟨_,h⟩))<|a_p [0] rfl (Zcr Zj1 rfl rfl u_0)<|a_p (outs:=[(16,(pRow (Kd.int .u8) 5 1000000 x4.b))]) (S:=[]) [0,35] rfl (Zlb Zlv (fun g s cs h=>Zuh h) rfl rfl u_1 u_0)<|Am 15 rfl<|Am 25 rfl<|a_p [10,0] rfl (Zv4 rfl rfl u_0 u_1 h6 rfl)<|a_p [0] rfl (Zen Tryz.underlying95 Tryz.underlying5 rfl rfl u_0 rfl)<|a_p [0] rfl (Zjd Zor (xs:=[.tmp 20]) (.cons u_0 .nil) (by decide) rfl rfl)<|a_p (outs:=[(1002,(pSJ Zbh Z9 hpT 0 b0 x4)),(22,(pRow (Kd.int .u8) 5 1000000 (x4.b ++ ([(IntKind.u8.wrap (Int.fdiv r1 (2 ^ (min (Int.toNat x3) (IntKind.u64).bits))))]:List Int))))]) (S:=[1000001]) [50,0,35] rfl (OB.frameU (Zfc Zor rfl rfl u_0 u_1 h7) (Opd.imp u_2 (fun _ _ h=>sj_T h)) (fun k hk hS=>Zs1 (List.mem_singleton.1 hk) (List.mem_singleton.1 hS) (by decide)) (fun h=>by cases h))<|a_p [100] rfl (Zm rfl rfl u_0 (fun _ _ h=>⟨_,h⟩))<|a_p [0] rfl (Zcr Zj1 rfl rfl u_0)<|a_p (outs:=[(1002,(pSJ Zbh Z9 (hpL (pRow (Kd.int .u8) 5 1000000 (Zce ({ b:=(x4.b ++ ([(IntKind.u8.wrap (Int.fdiv r1 (2 ^ (min (Int.toNat x3) (IntKind.u64).bits))))]:List Int)) }:Zn)))) 0 b0 ({ b:=(x4.b ++ ([(IntKind.u8.wrap (Int.fdiv r1 (2 ^ (min (Int.toNat x3) (IntKind.u64).bits))))]:List Int)) }:Zn)))]) (S:=[1]) [0,21,20] rfl (Zlo (x':=({ b:=(x4.b ++ ([(IntKind.u8.wrap (Int.fdiv r1 (2 ^ (min (Int.toNat x3) (IntKind.u64).bits))))]:List Int)) }:Zn)) Zlv rfl rfl (fun _ _ h=>Zmv h) (fun k hk=>by cases hk) (fun k hk=>by rw [List.mem_singleton.1 hk];decide) u_2 u_0 u_1 (fun g cs s0 s1 ys h hy=>Zif h hy))<|a_n) (fun a g hst hb=>?_)
    refine Zbn ?_
    refine Zo ?_
    refine r_b [5,15,20,35] (L:=[(0,_),(4,_),(5,_),(1002,_)]) hst hb Za
     (Am 25 rfl<|a_p [0] rfl (Zkb rfl rfl u_0 c_i rfl)<|Aa 0 rfl<|a_n) (fun a g hst hb=>?_)
    exact ⟨n,Nat.lt_succ_self _,(IntKind.i64.wrap (x3 - (8:Int))),({ b:=(x4.b ++ ([(IntKind.u8.wrap (Int.fdiv r1 (2 ^ (min (Int.toNat x3) (IntKind.u64).bits))))]:List Int)) }:Zn),g,rfl,(hst.pick [0,1,2,3] rfl),hb,H1⟩
   ·replace H1:=Z0 hc5 H1
    refine wp_exit ?_
    refine Zb0 ?_
    refine Zb0 ?_
    refine Zcj ?_
    exact ⟨x4,g,rfl,(hst.pick [0,4] rfl),hb,Option.some.inj H1⟩
theorem Z79 (a0:Zn) (a1:Zb) {r:Zn} (h:Zqa a0 a1=some r):FnMR Tryz.prog 95 obWr a0 r [(Zf.pd a1)] (pTup []):=by
 have H0:=h
 unfold Zqa at H0
 clear h
 refine Zn2 (N:=76) Tryz.func95 rfl rfl (Qe rfl) rfl rfl (fun a g0 b0 hst hb=>?_)
 replace hst:St 76 [(0,(pEq (ptrB b0 0))),(1,(Zf.pd a1)),(1002,(pSJ Zbh Z9 (hpL (pRow (Kd.int .u8) 5 1000000 (Zce a0))) 0 b0 a0))] _ _:=Zl6 hst
 refine r_a [5,0,25] (L:=[(0,_),(1,_),(1002,_)]) hst hb Za
  (a_p [15] rfl (Zbq rfl rfl u_0)<|a_n) (fun a g hst hb=>?_)
 obtain ⟨r1,h2,H0⟩:=Zc H0
 refine r_a [5,15,40,25] (L:=[(0,_),(3,_),(1002,_)]) hst hb Za
  (Af Zga 15 rfl<|Al ty_3 0 rfl<|a_p [0] rfl (Zr Z87 (Zq9 _ h2) rfl rfl (.cons u_0 .nil))<|a_p (outs:=[(4,(pBox Zcm 4 (default:Zb6)))]) (S:=[5]) [] rfl (Zbl (zs:=[.bool false,.bool false,.bool false,.bool false,.bool false]) (by kernel_rfl) (fun g=>Zpo g) rfl rfl)<|a_p [10,0] rfl (Zch Zjf rfl rfl u_1 u_0)<|a_n) (fun a g hst hb=>?_)
 obtain ⟨r3,h4,H0⟩:=Zc H0
 refine r_a [5,15,25,41] (L:=[(0,_),(3,_),(4,_),(1002,_)]) hst hb Za
  (Am 5 rfl<|Af Zga 15 rfl<|Al ty_3 0 rfl<|a_p [0] rfl (Zen Tryz.underlying3 Tryz.underlying95 rfl rfl u_0 rfl)<|a_p [30,35,0] rfl (Zcy (m:=1002) (lst:=Zce) Zrj (Zfi _ _ h4) rfl rfl rfl (by decide) u_1 u_0 (.cons u_2 .nil))<|a_n) (fun a g hst hb=>?_)
 refine wp_seq ?_
 refine r_a [5,15,25,10,35] (L:=[(0,_),(3,_),(4,_),(1002,_)]) hst hb Za
  (Af Zxx 25 rfl<|Al ty_4 0 rfl<|a_n) (fun a g hst hb=>?_)
 refine Zbt (fun a w=>∃ (j8:Zn) (g:G),w=g.w ∧ St 76 [(0,(pEq (ptrB b0 0))),(3,(Zf.ptr a1)),(4,(Zcm.ptr r1)),(1002,(pSJ Zbh Z9 (hpL (pRow (Kd.int .u8) 5 1000000 (Zce j8))) 0 b0 j8))] a g ∧ Base g0 g ∧ Zmc a1 r1 j8=some r) ?_ ?_
 ·rintro a w ⟨j8,g,rfl,hst,hb,H0⟩
  unfold Zmc at H0
  refine Zo ?_
  refine wp_seq ?_
  refine r_a [5,15,25,10,35] (L:=[(0,_),(3,_),(4,_),(1002,_)]) hst hb Za
   (Af Zui 25 rfl<|Al ty_4 0 rfl<|a_n) (fun a g hst hb=>?_)
  refine Zbt (fun a w=>∃ (j14:Zn) (g:G),w=g.w ∧ St 76 [(0,(pEq (ptrB b0 0))),(3,(Zf.ptr a1)),(4,(Zcm.ptr r1)),(1002,(pSJ Zbh Z9 (hpL (pRow (Kd.int .u8) 5 1000000 (Zce j14))) 0 b0 j14))] a g ∧ Base g0 g ∧ Znw a1 r1 j14=some r) ?_ ?_
  ·rintro a w ⟨j14,g,rfl,hst,hb,H0⟩
   unfold Znw at H0
   refine Zo ?_
   refine wp_seq ?_
   refine r_a [5,15,25,10,35] (L:=[(0,_),(3,_),(4,_),(1002,_)]) hst hb Za
    (Af Zyn 25 rfl<|Al ty_4 0 rfl<|a_n) (fun a g hst hb=>?_)
   refine Zbt (fun a w=>∃ (j18:Zn) (g:G),w=g.w ∧ St 76 [(0,(pEq (ptrB b0 0))),(3,(Zf.ptr a1)),(4,(Zcm.ptr r1)),(1002,(pSJ Zbh Z9 (hpL (pRow (Kd.int .u8) 5 1000000 (Zce j18))) 0 b0 j18))] a g ∧ Base g0 g ∧ Zn7 a1 r1 j18=some r) ?_ ?_
   ·rintro a w ⟨j18,g,rfl,hst,hb,H0⟩
    unfold Zn7 at H0
    refine Zo ?_
    refine wp_seq ?_
    refine r_a [5,15,25,10,35] (L:=[(0,_),(3,_),(4,_),(1002,_)]) hst hb Za
     (Af Zyo 25 rfl<|Al ty_4 0 rfl<|a_n) (fun a g hst hb=>?_)
    refine Zbt (fun a w=>∃ (j22:Zn) (g:G),w=g.w ∧ St 76 [(0,(pEq (ptrB b0 0))),(3,(Zf.ptr a1)),(4,(Zcm.ptr r1)),(1002,(pSJ Zbh Z9 (hpL (pRow (Kd.int .u8) 5 1000000 (Zce j22))) 0 b0 j22))] a g ∧ Base g0 g ∧ Znx a1 r1 j22=some r) ?_ ?_
    ·rintro a w ⟨j22,g,rfl,hst,hb,H0⟩
     unfold Znx at H0
     refine Zo ?_
     refine wp_seq ?_
     refine r_a [5,15,20,35] (L:=[(0,_),(3,_),(4,_),(1002,_)]) hst hb Za
      (Af Ztr 25 rfl<|Al ty_4 0 rfl<|a_p [0] rfl (Zc2 rfl rfl u_0)<|a_n) (fun a g hst hb=>?_)
     refine wp_cond_split (hst.bool 2 rfl) (fun hc23=>?_) (fun hc23=>?_)
     ·replace H0:=Z1 hc23 H0
      refine wp_ret ?_
      refine Zt ?_
      obtain rfl:=Option.some.inj H0
      exact Zbbk rfl hst hb (hst.at 3 rfl)
     ·replace H0:=Z0 hc23 H0
      refine wp_skip ?_
      refine Zo ?_
      obtain ⟨r24,h25,H0⟩:=Zc H0
      refine r_a [5,15,41] (L:=[(0,_),(3,_),(1002,_)]) (hst.pick [0,1,3] rfl) hb Za
       (Am 5 rfl<|Af Zin 15 rfl<|Al ty_3 0 rfl<|a_p [0] rfl (Zen Tryz.underlying3 Tryz.underlying95 rfl rfl u_0 rfl)<|a_p [30,25,0] rfl (Zcy (m:=1002) (lst:=Zce) Zrj (Zfi _ _ h25) rfl rfl rfl (by decide) u_1 u_0 (.cons u_2 .nil))<|a_n) (fun a g hst hb=>?_)
      obtain ⟨r26,h27,H0⟩:=Zc H0
      refine r_a [5,15,51] (L:=[(0,_),(3,_),(1002,_)]) hst hb Za
       (Am 5 rfl<|Af Zc6 15 rfl<|Al Zeg 0 rfl<|a_p [0] rfl (Zbx Tryz.underlying60 rfl rfl u_0)<|a_p [0] rfl (Zen Tryz.underlying3 Tryz.underlying95 rfl rfl u_0 rfl)<|a_p [40,25,0] rfl (Zcy (m:=1002) (lst:=Zce) Zrj (Zfi _ _ h27) rfl rfl rfl (by decide) u_1 u_0 (.cons u_2 .nil))<|a_n) (fun a g hst hb=>?_)
      refine r_a [5,15,10,20,30,25] (L:=[(0,_),(3,_),(1002,_)]) hst hb Za
       (Af Zc6 15 rfl<|Al Zeg 0 rfl<|a_p [0] rfl (Zbx Tryz.underlying60 rfl rfl u_0)<|a_p [] rfl (Z6 rfl rfl c_i)<|a_n) (fun a g hst hb=>?_)
      obtain ⟨z40,hz1,H0⟩:=Zc H0
      refine Zbt (fun a w=>∃ (y39:Zn) (g:G),w=g.w ∧ St 76 [(0,(pEq (ptrB b0 0))),(1002,(pSJ Zbh Z9 (hpL (pRow (Kd.int .u8) 5 1000000 (Zce y39))) 0 b0 y39))] a g ∧ Base g0 g ∧ y39=z40) ?_ ?_
      ·rintro a w ⟨y39,g,rfl,hst,hb,rfl⟩
       obtain rfl:=Option.some.inj H0
       exact Zpc rfl hst hb (hst.at 1 rfl)
      ·refine wp_block ?_
       refine wp_loop_ghost (fun n a w=>∃ (x28:Int) (x29:Zn) (g:G),w=g.w ∧ St 76 [(0,(pEq (ptrB b0 0))),(3,(Zf.ptr a1)),(58,(Zz.sl.pd a1.List)),(59,(pInt .i64 (a1.List.length:Int))),(60,(pInt .i64 x28)),(1002,(pSJ Zbh Z9 (hpL (pRow (Kd.int .u8) 5 1000000 (Zce x29))) 0 b0 x29))] a g ∧ Base g0 g ∧ Zhw a1 n x28 x29=some z40) (Int.toNat ((a1.List.length:Int) - (0:Int)) + 1) ⟨(0:Int),r26,g,rfl,(hst.pick [0,1,2,3,4,5] rfl),hb,hz1⟩ (fun n a w hI=>?_)
       obtain ⟨x28,x29,g,rfl,hst,hb,H1⟩:=hI
       cases n with
       | zero=>exact absurd H1 (by simp [Zhw])
       | succ n =>
        rw [Zhw] at H1
        refine r_a [5,15,25,35,45,0,55] (L:=[(0,_),(3,_),(58,_),(59,_),(60,_),(1002,_)]) hst hb Za
         (a_p [45,35] rfl (Zcv rfl rfl u_0 u_1)<|a_n) (fun a g hst hb=>?_)
        refine wp_seq ?_
        refine wp_cond_split (hst.bool 5 rfl) (fun hc30=>?_) (fun hc30=>?_)
        ·replace H1:=Z1 hc30 H1
         refine wp_skip ?_
         refine Zo ?_
         refine wp_seq ?_
         refine wp_block ?_
         obtain ⟨e31,h32,H1⟩:=Zc H1
         refine r_a [5,15,30,25,35,45,55] (L:=[(0,_),(3,_),(58,_),(59,_),(60,_),(1002,_)]) (hst.pick [0,1,2,3,4,6] rfl) hb Za
          (a_p [25,45] rfl (Zbw Tryz.underlying60 Zho rfl rfl u_0 u_1 h32)<|Al Zfa 0 rfl<|a_p (outs:=[(6,(pBox Zz 6 (default:Zh)))]) (S:=[7]) [] rfl (Zbl (zs:=[.float .f64 0,.string ByteArray.empty]) (by kernel_rfl) (fun g=>Zjx g) rfl rfl)<|a_p [10,0] rfl (Zch Zfa rfl rfl u_1 u_0)<|a_n) (fun a g hst hb=>?_)
         refine wp_seq ?_
         refine r_a [5,15,25,35,45,55,20,65] (L:=[(0,_),(3,_),(6,_),(58,_),(59,_),(60,_),(1002,_)]) hst hb Za
          (Af Zga 15 rfl<|Al ty_3 0 rfl<|a_p [0] rfl (Zci rfl rfl u_0 c_i)<|a_n) (fun a g hst hb=>?_)
         refine Zbt (fun a w=>∃ (j36:Zn) (g:G),w=g.w ∧ St 76 [(0,(pEq (ptrB b0 0))),(3,(Zf.ptr a1)),(6,(Zz.ptr e31)),(58,(Zz.sl.pd a1.List)),(59,(pInt .i64 (a1.List.length:Int))),(60,(pInt .i64 x28)),(1002,(pSJ Zbh Z9 (hpL (pRow (Kd.int .u8) 5 1000000 (Zce j36))) 0 b0 j36))] a g ∧ Base g0 g ∧ Znv x28 e31 (Zhw a1 n) j36=some z40) ?_ ?_
         ·rintro a w ⟨j36,g,rfl,hst,hb,H1⟩
          unfold Znv at H1
          refine Zo ?_
          obtain ⟨r37,h38,H1⟩:=Zc H1
          refine r_b [5,15,35,45,55,31] (L:=[(0,_),(3,_),(6,_),(58,_),(59,_),(60,_),(1002,_)]) hst hb Za
           (Am 5 rfl<|Af Zfg 25 rfl<|Al ty_9 0 rfl<|a_p [20,65,0] rfl (Zcy (m:=1002) (lst:=Zce) Z2z (Zl8 _ _ h38) rfl rfl rfl (by decide) u_1 u_0 (.cons u_2 .nil))<|a_n) (fun a g hst hb=>?_)
          refine Zbn ?_
          refine Zo ?_
          refine r_b [5,15,25,35,10,55] (L:=[(0,_),(3,_),(58,_),(59,_),(60,_),(1002,_)]) hst hb Za
           (a_p [45] rfl (Zcf rfl rfl u_0 c_i rfl)<|Am 0 rfl<|a_n) (fun a g hst hb=>?_)
          exact ⟨n,Nat.lt_succ_self _,(IntKind.i64.wrap (x28 + (1:Int))),r37,g,rfl,(hst.pick [0,1,2,3,4,5] rfl),hb,H1⟩
         ·refine wp_cond_split (hst.bool 6 rfl) (fun hc33=>?_) (fun hc33=>?_)
          ·replace H1:=Z1 hc33 H1
           obtain ⟨r34,h35,H1⟩:=Zc H1
           refine r_b [5,15,25,35,45,55,31] (L:=[(0,_),(3,_),(6,_),(58,_),(59,_),(60,_),(1002,_)]) (hst.pick [0,1,2,3,4,5,7] rfl) hb Za
            (Am 5 rfl<|Af Zf2 25 rfl<|Al Zd7 0 rfl<|a_p [20,65,0] rfl (Zcy (m:=1002) (lst:=Zce) Z80 (Zo3 _ _ h35) rfl rfl rfl (by decide) u_1 u_0 (.cons u_2 .nil))<|a_n) (fun a g hst hb=>?_)
           exact ⟨r34,g,rfl,(hst.pick [0,1,2,3,4,5,6] rfl),hb,H1⟩
          ·replace H1:=Z0 hc33 H1
           refine wp_skip ?_
           exact ⟨x29,g,rfl,(hst.pick [0,1,2,3,4,5,7] rfl),hb,H1⟩
        ·replace H1:=Z0 hc30 H1
         refine wp_exit ?_
         refine Zb0 ?_
         refine Zb0 ?_
         refine Zcj ?_
         exact ⟨x29,g,rfl,(hst.pick [0,6] rfl),hb,Option.some.inj H1⟩
    ·refine wp_cond_split (hst.bool 3 rfl) (fun hc19=>?_) (fun hc19=>?_)
     ·replace H0:=Z1 hc19 H0
      obtain ⟨r20,h21,H0⟩:=Zc H0
      refine r_b [5,15,25,31] (L:=[(0,_),(3,_),(4,_),(1002,_)]) (hst.pick [0,1,2,4] rfl) hb Za
       (Am 5 rfl<|Af Zlx 15 rfl<|Al Zd7 0 rfl<|a_p [20,35,0] rfl (Zcy (m:=1002) (lst:=Zce) Z80 (Zo3 _ _ h21) rfl rfl rfl (by decide) u_1 u_0 (.cons u_2 .nil))<|a_n) (fun a g hst hb=>?_)
      exact ⟨r20,g,rfl,(hst.pick [0,1,2,3] rfl),hb,H0⟩
     ·replace H0:=Z0 hc19 H0
      refine wp_skip ?_
      exact ⟨j18,g,rfl,(hst.pick [0,1,2,4] rfl),hb,H0⟩
   ·refine wp_cond_split (hst.bool 3 rfl) (fun hc15=>?_) (fun hc15=>?_)
    ·replace H0:=Z1 hc15 H0
     obtain ⟨r16,h17,H0⟩:=Zc H0
     refine r_b [5,15,25,31] (L:=[(0,_),(3,_),(4,_),(1002,_)]) (hst.pick [0,1,2,4] rfl) hb Za
      (Am 5 rfl<|Af Zez 15 rfl<|Al ty_2 0 rfl<|a_p [20,35,0] rfl (Zcy (m:=1002) (lst:=Zce) Z29 (Zmh _ _ h17) rfl rfl rfl (by decide) u_1 u_0 (.cons u_2 .nil))<|a_n) (fun a g hst hb=>?_)
     exact ⟨r16,g,rfl,(hst.pick [0,1,2,3] rfl),hb,H0⟩
    ·replace H0:=Z0 hc15 H0
     refine wp_skip ?_
     exact ⟨j14,g,rfl,(hst.pick [0,1,2,4] rfl),hb,H0⟩
  ·refine wp_cond_split (hst.bool 3 rfl) (fun hc9=>?_) (fun hc9=>?_)
   ·replace H0:=Z1 hc9 H0
    obtain ⟨r10,h11,H0⟩:=Zc H0
    refine r_a [5,15,25,31] (L:=[(0,_),(3,_),(4,_),(1002,_)]) (hst.pick [0,1,2,4] rfl) hb Za
     (Am 5 rfl<|Af Zko 15 rfl<|Al ty_2 0 rfl<|a_p [20,35,0] rfl (Zcy (m:=1002) (lst:=Zce) Z29 (Zmh _ _ h11) rfl rfl rfl (by decide) u_1 u_0 (.cons u_2 .nil))<|a_n) (fun a g hst hb=>?_)
    obtain ⟨r12,h13,H0⟩:=Zc H0
    refine r_b [5,15,25,31] (L:=[(0,_),(3,_),(4,_),(1002,_)]) hst hb Za
     (Am 5 rfl<|Af Zkn 15 rfl<|Al ty_2 0 rfl<|a_p [20,35,0] rfl (Zcy (m:=1002) (lst:=Zce) Z29 (Zmh _ _ h13) rfl rfl rfl (by decide) u_1 u_0 (.cons u_2 .nil))<|a_n) (fun a g hst hb=>?_)
    exact ⟨r12,g,rfl,(hst.pick [0,1,2,3] rfl),hb,H0⟩
   ·replace H0:=Z0 hc9 H0
    refine wp_skip ?_
    exact ⟨j8,g,rfl,(hst.pick [0,1,2,4] rfl),hb,H0⟩
 ·refine wp_cond_split (hst.bool 3 rfl) (fun hc5=>?_) (fun hc5=>?_)
  ·replace H0:=Z1 hc5 H0
   obtain ⟨r6,h7,H0⟩:=Zc H0
   refine r_b [5,15,25,31] (L:=[(0,_),(3,_),(4,_),(1002,_)]) (hst.pick [0,1,2,4] rfl) hb Za
    (Am 5 rfl<|Af Zkp 15 rfl<|Al ty_9 0 rfl<|a_p [20,35,0] rfl (Zcy (m:=1002) (lst:=Zce) Z2z (Zl8 _ _ h7) rfl rfl rfl (by decide) u_1 u_0 (.cons u_2 .nil))<|a_n) (fun a g hst hb=>?_)
   exact ⟨r6,g,rfl,(hst.pick [0,1,2,3] rfl),hb,H0⟩
  ·replace H0:=Z0 hc5 H0
   refine wp_skip ?_
   exact ⟨r3,g,rfl,(hst.pick [0,1,2,4] rfl),hb,H0⟩
theorem Z50 (a0:Zn) (a1:Zs) {r:Zn} (h:Zo7 a0 a1=some r):FnMR Tryz.prog 65 obWr a0 r [(Zy.pd a1)] (pTup []):=by
 have H0:=h
 unfold Zo7 at H0
 clear h
 refine Zn2 (N:=45) Tryz.func65 rfl rfl (Qe rfl) rfl rfl (fun a g0 b0 hst hb=>?_)
 replace hst:St 45 [(0,(pEq (ptrB b0 0))),(1,(Zy.pd a1)),(1002,(pSJ Zbh Z9 (hpL (pRow (Kd.int .u8) 5 1000000 (Zce a0))) 0 b0 a0))] _ _:=Zl6 hst
 refine r_a [5,0,25] (L:=[(0,_),(1,_),(1002,_)]) hst hb Za
  (a_p [15] rfl (Zbq rfl rfl u_0)<|a_n) (fun a g hst hb=>?_)
 obtain ⟨r1,h2,H0⟩:=Zc H0
 refine r_a [5,15,40,25] (L:=[(0,_),(3,_),(1002,_)]) hst hb Za
  (Af Zgn 15 rfl<|Al ty_3 0 rfl<|a_p [0] rfl (Zr Z2x (Zsm _ h2) rfl rfl (.cons u_0 .nil))<|a_p (outs:=[(4,(pBox Zda 4 (default:Zcx)))]) (S:=[5]) [] rfl (Zbl (zs:=[.string ByteArray.empty,.int .i64 0,.string ByteArray.empty]) (by kernel_rfl) (fun g=>Zql g) rfl rfl)<|a_p [10,0] rfl (Zch Zgc rfl rfl u_1 u_0)<|a_n) (fun a g hst hb=>?_)
 obtain ⟨r3,h4,H0⟩:=Zc H0
 refine r_a [5,15,25,41] (L:=[(0,_),(3,_),(4,_),(1002,_)]) hst hb Za
  (Am 5 rfl<|Af Zgn 15 rfl<|Al ty_3 0 rfl<|a_p [0] rfl (Zen Tryz.underlying3 Tryz.underlying95 rfl rfl u_0 rfl)<|a_p [30,35,0] rfl (Zcy (m:=1002) (lst:=Zce) Zrj (Zfi _ _ h4) rfl rfl rfl (by decide) u_1 u_0 (.cons u_2 .nil))<|a_n) (fun a g hst hb=>?_)
 obtain ⟨r5,h6,H0⟩:=Zc H0
 refine r_a [5,15,25,31] (L:=[(0,_),(3,_),(4,_),(1002,_)]) hst hb Za
  (Am 5 rfl<|Af Zro 15 rfl<|Al ty_4 0 rfl<|a_p [20,35,0] rfl (Zcy (m:=1002) (lst:=Zce) Zbjq (Zus _ _ h6) rfl rfl rfl (by decide) u_1 u_0 (.cons u_2 .nil))<|a_n) (fun a g hst hb=>?_)
 obtain ⟨r7,h8,H0⟩:=Zc H0
 refine r_a [5,15,25,31] (L:=[(0,_),(3,_),(4,_),(1002,_)]) hst hb Za
  (Am 5 rfl<|Af Zmx 15 rfl<|Al ty_9 0 rfl<|a_p [20,35,0] rfl (Zcy (m:=1002) (lst:=Zce) Z2z (Zl8 _ _ h8) rfl rfl rfl (by decide) u_1 u_0 (.cons u_2 .nil))<|a_n) (fun a g hst hb=>?_)
 refine wp_seq ?_
 obtain ⟨r9,h10,H0⟩:=Zc H0
 refine r_a [5,15,25,10,35] (L:=[(0,_),(3,_),(4,_),(1002,_)]) hst hb Za
  (Al Zgc 25 rfl<|a_p [0] rfl (Zr Zos (Zdr _ _ h10) rfl rfl (.cons u_0 (.cons c_i .nil)))<|a_n) (fun a g hst hb=>?_)
 refine Zbt (fun a w=>∃ (j14:Zn) (g:G),w=g.w ∧ St 45 [(0,(pEq (ptrB b0 0))),(3,(Zy.ptr a1)),(4,(Zda.ptr r1)),(1002,(pSJ Zbh Z9 (hpL (pRow (Kd.int .u8) 5 1000000 (Zce j14))) 0 b0 j14))] a g ∧ Base g0 g ∧ Zls a1 r1 j14=some r) ?_ ?_
 ·rintro a w ⟨j14,g,rfl,hst,hb,H0⟩
  unfold Zls at H0
  refine Zo ?_
  refine wp_seq ?_
  obtain ⟨r15,h16,H0⟩:=Zc H0
  refine r_a [5,15,25,10,35] (L:=[(0,_),(3,_),(4,_),(1002,_)]) hst hb Za
   (Al Zgc 25 rfl<|a_p [0] rfl (Zr Zos (Zdr _ _ h16) rfl rfl (.cons u_0 (.cons c_i .nil)))<|a_n) (fun a g hst hb=>?_)
  refine Zbt (fun a w=>∃ (j20:Zn) (g:G),w=g.w ∧ St 45 [(0,(pEq (ptrB b0 0))),(3,(Zy.ptr a1)),(4,(Zda.ptr r1)),(1002,(pSJ Zbh Z9 (hpL (pRow (Kd.int .u8) 5 1000000 (Zce j20))) 0 b0 j20))] a g ∧ Base g0 g ∧ Zlr a1 r1 j20=some r) ?_ ?_
  ·rintro a w ⟨j20,g,rfl,hst,hb,H0⟩
   unfold Zlr at H0
   refine Zo ?_
   refine wp_seq ?_
   obtain ⟨r21,h22,H0⟩:=Zc H0
   refine r_a [5,15,25,10,35] (L:=[(0,_),(3,_),(4,_),(1002,_)]) hst hb Za
    (Al Zgc 25 rfl<|a_p [0] rfl (Zr Zos (Zdr _ _ h22) rfl rfl (.cons u_0 (.cons c_i .nil)))<|a_n) (fun a g hst hb=>?_)
   refine Zbt (fun a w=>∃ (j26:Zn) (g:G),w=g.w ∧ St 45 [(0,(pEq (ptrB b0 0))),(3,(Zy.ptr a1)),(4,(Zda.ptr r1)),(1002,(pSJ Zbh Z9 (hpL (pRow (Kd.int .u8) 5 1000000 (Zce j26))) 0 b0 j26))] a g ∧ Base g0 g ∧ Zlt a1 r1 j26=some r) ?_ ?_
   ·rintro a w ⟨j26,g,rfl,hst,hb,H0⟩
    unfold Zlt at H0
    refine Zo ?_
    obtain ⟨r27,h28,H0⟩:=Zc H0
    refine r_a [5,15,10,35] (L:=[(0,_),(3,_),(4,_),(1002,_)]) hst hb Za
     (Al Zgc 25 rfl<|a_p [0] rfl (Zr Zos (Zdr _ _ h28) rfl rfl (.cons u_0 (.cons c_i .nil)))<|a_n) (fun a g hst hb=>?_)
    refine Zbt (fun a w=>∃ (j32:Zn) (g:G),w=g.w ∧ St 45 [(0,(pEq (ptrB b0 0))),(1002,(pSJ Zbh Z9 (hpL (pRow (Kd.int .u8) 5 1000000 (Zce j32))) 0 b0 j32))] a g ∧ Base g0 g ∧ Zly j32=some r) ?_ ?_
    ·rintro a w ⟨j32,g,rfl,hst,hb,H0⟩
     unfold Zly at H0
     obtain rfl:=Option.some.inj H0
     exact Zpc rfl hst hb (hst.at 1 rfl)
    ·refine wp_cond_split (hst.bool 2 rfl) (fun hc29=>?_) (fun hc29=>?_)
     ·replace H0:=Z1 hc29 H0
      obtain ⟨r30,h31,H0⟩:=Zc H0
      refine r_b [5,31] (L:=[(0,_),(3,_),(1002,_)]) (hst.pick [0,1,3] rfl) hb Za
       (Am 5 rfl<|Af Zmy 15 rfl<|Al Zbr 0 rfl<|a_p [20,25,0] rfl (Zcy (m:=1002) (lst:=Zce) Zbjx (Z79 _ _ h31) rfl rfl rfl (by decide) u_1 u_0 (.cons u_2 .nil))<|a_n) (fun a g hst hb=>?_)
      exact ⟨r30,g,rfl,(hst.pick [0,1] rfl),hb,H0⟩
     ·replace H0:=Z0 hc29 H0
      refine wp_skip ?_
      exact ⟨j26,g,rfl,(hst.pick [0,3] rfl),hb,H0⟩
   ·refine wp_cond_split (hst.bool 3 rfl) (fun hc23=>?_) (fun hc23=>?_)
    ·replace H0:=Z1 hc23 H0
     obtain ⟨r24,h25,H0⟩:=Zc H0
     refine r_b [5,15,25,31] (L:=[(0,_),(3,_),(4,_),(1002,_)]) (hst.pick [0,1,2,4] rfl) hb Za
      (Am 5 rfl<|Af Zi8 15 rfl<|Al ty_9 0 rfl<|a_p [20,35,0] rfl (Zcy (m:=1002) (lst:=Zce) Z2z (Zl8 _ _ h25) rfl rfl rfl (by decide) u_1 u_0 (.cons u_2 .nil))<|a_n) (fun a g hst hb=>?_)
     exact ⟨r24,g,rfl,(hst.pick [0,1,2,3] rfl),hb,H0⟩
    ·replace H0:=Z0 hc23 H0
     refine wp_skip ?_
     exact ⟨j20,g,rfl,(hst.pick [0,1,2,4] rfl),hb,H0⟩
  ·refine wp_cond_split (hst.bool 3 rfl) (fun hc17=>?_) (fun hc17=>?_)
   ·replace H0:=Z1 hc17 H0
    obtain ⟨r18,h19,H0⟩:=Zc H0
    refine r_b [5,15,25,31] (L:=[(0,_),(3,_),(4,_),(1002,_)]) (hst.pick [0,1,2,4] rfl) hb Za
     (Am 5 rfl<|Af Zo8 15 rfl<|Al Zd7 0 rfl<|a_p [20,35,0] rfl (Zcy (m:=1002) (lst:=Zce) Z80 (Zo3 _ _ h19) rfl rfl rfl (by decide) u_1 u_0 (.cons u_2 .nil))<|a_n) (fun a g hst hb=>?_)
    exact ⟨r18,g,rfl,(hst.pick [0,1,2,3] rfl),hb,H0⟩
   ·replace H0:=Z0 hc17 H0
    refine wp_skip ?_
    exact ⟨j14,g,rfl,(hst.pick [0,1,2,4] rfl),hb,H0⟩
 ·refine wp_cond_split (hst.bool 3 rfl) (fun hc11=>?_) (fun hc11=>?_)
  ·replace H0:=Z1 hc11 H0
   obtain ⟨r12,h13,H0⟩:=Zc H0
   refine r_b [5,15,25,31] (L:=[(0,_),(3,_),(4,_),(1002,_)]) (hst.pick [0,1,2,4] rfl) hb Za
    (Am 5 rfl<|Af Zg0 15 rfl<|Al ty_2 0 rfl<|a_p [20,35,0] rfl (Zcy (m:=1002) (lst:=Zce) Z29 (Zmh _ _ h13) rfl rfl rfl (by decide) u_1 u_0 (.cons u_2 .nil))<|a_n) (fun a g hst hb=>?_)
   exact ⟨r12,g,rfl,(hst.pick [0,1,2,3] rfl),hb,H0⟩
  ·replace H0:=Z0 hc11 H0
   refine wp_skip ?_
   exact ⟨r7,g,rfl,(hst.pick [0,1,2,4] rfl),hb,H0⟩
theorem Z2f (a0:Zn) (a1:Zu) {r:Zn} (h:Zn4 a0 a1=some r):FnMR Tryz.prog 38 obWr a0 r [(Zbb.pd a1)] (pTup []):=by
 have H0:=h
 unfold Zn4 at H0
 clear h
 refine Zn2 (N:=23) Tryz.func38 rfl rfl (Qe rfl) rfl rfl (fun a g0 b0 hst hb=>?_)
 replace hst:St 23 [(0,(pEq (ptrB b0 0))),(1,(Zbb.pd a1)),(1002,(pSJ Zbh Z9 (hpL (pRow (Kd.int .u8) 5 1000000 (Zce a0))) 0 b0 a0))] _ _:=Zl6 hst
 refine r_a [5,0,25] (L:=[(0,_),(1,_),(1002,_)]) hst hb Za
  (a_p [15] rfl (Zbq rfl rfl u_0)<|a_n) (fun a g hst hb=>?_)
 obtain ⟨r1,h2,H0⟩:=Zc H0
 refine r_a [5,15,51] (L:=[(0,_),(3,_),(1002,_)]) hst hb Za
  (Am 5 rfl<|Af Zid 15 rfl<|Al Znd 0 rfl<|a_p [0] rfl (Zbx Tryz.underlying51 rfl rfl u_0)<|a_p [0] rfl (Zen Tryz.underlying3 Tryz.underlying95 rfl rfl u_0 rfl)<|a_p [40,25,0] rfl (Zcy (m:=1002) (lst:=Zce) Zrj (Zfi _ _ h2) rfl rfl rfl (by decide) u_1 u_0 (.cons u_2 .nil))<|a_n) (fun a g hst hb=>?_)
 refine r_a [5,10,20,30,25] (L:=[(0,_),(3,_),(1002,_)]) hst hb Za
  (Af Zid 15 rfl<|Al Znd 0 rfl<|a_p [0] rfl (Zbx Tryz.underlying51 rfl rfl u_0)<|a_p [] rfl (Z6 rfl rfl c_i)<|a_n) (fun a g hst hb=>?_)
 obtain ⟨z11,hz1,H0⟩:=Zc H0
 refine Zbt (fun a w=>∃ (y10:Zn) (g:G),w=g.w ∧ St 23 [(0,(pEq (ptrB b0 0))),(1002,(pSJ Zbh Z9 (hpL (pRow (Kd.int .u8) 5 1000000 (Zce y10))) 0 b0 y10))] a g ∧ Base g0 g ∧ y10=z11) ?_ ?_
 ·rintro a w ⟨y10,g,rfl,hst,hb,rfl⟩
  obtain rfl:=Option.some.inj H0
  exact Zpc rfl hst hb (hst.at 1 rfl)
 ·refine wp_block ?_
  refine wp_loop_ghost (fun n a w=>∃ (x3:Int) (x4:Zn) (g:G),w=g.w ∧ St 23 [(0,(pEq (ptrB b0 0))),(13,(Zy.sl.pd a1.Acts)),(14,(pInt .i64 (a1.Acts.length:Int))),(15,(pInt .i64 x3)),(1002,(pSJ Zbh Z9 (hpL (pRow (Kd.int .u8) 5 1000000 (Zce x4))) 0 b0 x4))] a g ∧ Base g0 g ∧ Zh4 a1 n x3 x4=some z11) (Int.toNat ((a1.Acts.length:Int) - (0:Int)) + 1) ⟨(0:Int),r1,g,rfl,(hst.pick [0,1,2,3,4] rfl),hb,hz1⟩ (fun n a w hI=>?_)
  obtain ⟨x3,x4,g,rfl,hst,hb,H1⟩:=hI
  cases n with
  | zero=>exact absurd H1 (by simp [Zh4])
  | succ n =>
   rw [Zh4] at H1
   refine r_a [5,15,25,35,0,45] (L:=[(0,_),(13,_),(14,_),(15,_),(1002,_)]) hst hb Za
    (a_p [35,25] rfl (Zcv rfl rfl u_0 u_1)<|a_n) (fun a g hst hb=>?_)
   refine wp_seq ?_
   refine wp_cond_split (hst.bool 4 rfl) (fun hc5=>?_) (fun hc5=>?_)
   ·replace H1:=Z1 hc5 H1
    refine wp_skip ?_
    refine Zo ?_
    refine wp_seq ?_
    refine wp_block ?_
    obtain ⟨e6,h7,H1⟩:=Zc H1
    refine r_a [5,30,15,25,35,45] (L:=[(0,_),(13,_),(14,_),(15,_),(1002,_)]) (hst.pick [0,1,2,3,5] rfl) hb Za
     (a_p [15,35] rfl (Zbw Tryz.underlying51 Zsj rfl rfl u_0 u_1 h7)<|Al Zhh 0 rfl<|a_p (outs:=[(5,(pBox Zy 5 (default:Zs)))]) (S:=[6]) [] rfl (Zbl (zs:=[.int .i64 0,.string ByteArray.empty,.int .i64 0,.float .f64 0,.string ByteArray.empty,.int .i64 0,.int .i64 0,.int .i64 0,.int .i64 0,.float .f64 0,.int .i64 0,.string ByteArray.empty,.slice none 0 0,.bool false]) (by kernel_rfl) (fun g=>Zn3 g) rfl rfl)<|a_p [10,0] rfl (Zch Zhh rfl rfl u_1 u_0)<|a_n) (fun a g hst hb=>?_)
    obtain ⟨r8,h9,H1⟩:=Zc H1
    refine r_b [5,25,35,45,21] (L:=[(0,_),(5,_),(13,_),(14,_),(15,_),(1002,_)]) hst hb Za
     (Am 5 rfl<|Al Zhh 15 rfl<|a_p [10,55,0] rfl (Zcy (m:=1002) (lst:=Zce) Zbkc (Z50 _ _ h9) rfl rfl rfl (by decide) u_1 u_0 (.cons u_2 .nil))<|a_n) (fun a g hst hb=>?_)
    refine Zbn ?_
    refine Zo ?_
    refine r_b [5,15,25,10,45] (L:=[(0,_),(13,_),(14,_),(15,_),(1002,_)]) hst hb Za
     (a_p [35] rfl (Zcf rfl rfl u_0 c_i rfl)<|Am 0 rfl<|a_n) (fun a g hst hb=>?_)
    exact ⟨n,Nat.lt_succ_self _,(IntKind.i64.wrap (x3 + (1:Int))),r8,g,rfl,(hst.pick [0,1,2,3,4] rfl),hb,H1⟩
   ·replace H1:=Z0 hc5 H1
    refine wp_exit ?_
    refine Zb0 ?_
    refine Zb0 ?_
    refine Zcj ?_
    exact ⟨x4,g,rfl,(hst.pick [0,5] rfl),hb,Option.some.inj H1⟩
theorem Zth (a0:Zn) {r:(List Int) × Zn} (h:Zlk a0=some r):FnMR Tryz.prog 39 obWr a0 r.2 [] ((Kd.int .u8).sl.pd r.1):=by
 have H0:=h
 unfold Zlk at H0
 clear h
 refine Zn2 (N:=8) Tryz.func39 rfl rfl (Qe rfl) rfl rfl (fun a g0 b0 hst hb=>?_)
 replace hst:St 8 [(0,(pEq (ptrB b0 0))),(1002,(pSJ Zbh Z9 (hpL (pRow (Kd.int .u8) 5 1000000 (Zce a0))) 0 b0 a0))] _ _:=Zl6 hst
 refine r_a [5,15] (L:=[(0,_),(1002,_)]) hst hb Za
  (a_p (outs:=[(2,((Kd.int .u8).sl.pd ([]:List Int)))]) (S:=[]) [] rfl (Zd rfl rfl (Opd.c (fun g=>Zg7 g)))<|a_n) (fun a g hst hb=>?_)
 obtain ⟨h1,H0⟩:=Ze0 H0
 refine r_a [5,50,15] (L:=[(0,_),(1002,_)]) hst hb Za
  (Am 5 rfl<|a_p [0] rfl (Zm rfl rfl u_0 (fun _ _ h=>⟨_,h⟩))<|a_p [0] rfl (Zcr Zj1 rfl rfl u_0)<|a_p (outs:=[(6,(pRow (Kd.int .u8) 5 1000000 a0.b))]) (S:=[]) [0,15] rfl (Zlb Zlv (fun g s cs h=>Zuh h) rfl rfl u_1 u_0)<|a_p (outs:=[(7,(pRow (Kd.int .u8) 5 7 (([]:List Int) ++ a0.b)))]) (S:=[8]) [0] rfl (Zfc Zor rfl rfl (Opd.c (fun g=>Zmm 7 g)) (Opd.imp u_0 (fun _ _ h=>Zne h)) h1)<|Aa 0 rfl<|a_n) (fun a g hst hb=>?_)
 refine wp_ret ?_
 obtain rfl:=Option.some.inj H0
 exact Zbj4 rfl hst hb (Zi (s:=2)) (Zne (hst.at 1 rfl)) (hst.at 2 rfl)
theorem Ztf (a0:Zbk) {r:List Int} (h:Zm6 a0=some r):FnOk Tryz.prog 15 [(Zcs.pd a0)] ((Kd.int .u8).sl.pd r):=by
 have H0:=h
 unfold Zm6 at H0
 clear h
 refine Zb4 (N:=26) Tryz.func15 rfl rfl (Qe rfl) rfl rfl (fun a g0 hst hb=>?_)
 refine r_a [0] (L:=[(0,_)]) hst hb Za
  (a_p [5] rfl (Zbq rfl rfl u_0)<|a_p (outs:=[(2,((Kd.int .u8).sl.pd ([]:List Int)))]) (S:=[]) [] rfl (Zd rfl rfl (Opd.c (fun g=>Zg7 g)))<|a_n) (fun a g hst hb=>?_)
 refine wp_seq ?_
 refine r_b [5,0] (L:=[(1,_)]) hst hb Za
  (a_p (outs:=[(3,(Zc5 none Zbh Z9 (hpL (pRow (Kd.int .u8) 5 1000003 (Zce ({ b:=([]:List Int) }:Zn)))) 3 ({ b:=([]:List Int) }:Zn)))]) (S:=[4]) [] rfl (Zqx (xv:=({ b:=([]:List Int) }:Zn)) (R:=hpL (pRow (Kd.int .u8) 5 1000003 (Zce ({ b:=([]:List Int) }:Zn)))) (zs:=[.slice none 0 0]) (none,0,0) (by kernel_rfl) (fun g=>Zyf g) (fun g=>Zmm 1000003 g) rfl rfl)<|a_n) (fun a g hst hb=>?_)
 obtain ⟨b0,hst⟩:=Z9x (i:=1) (s:=3) (m:=1002) rfl hst
 replace hst:St 26 [(1,(Zcs.ptr a0)),(3,(pEq (ptrB b0 0))),(1002,(pSJ Zbh Z9 (hpL (pRow (Kd.int .u8) 5 1000003 (Zce ({ b:=([]:List Int) }:Zn)))) 3 b0 ({ b:=([]:List Int) }:Zn)))] a g:=hst
 refine Zo ?_
 obtain ⟨r1,h2,H0⟩:=Zc H0
 refine r_a [5,15,31] (L:=[(1,_),(3,_),(1002,_)]) hst hb Za
  (Af Zs7 5 rfl<|Al ty_3 0 rfl<|a_p [0] rfl (Zen Tryz.underlying3 Tryz.underlying95 rfl rfl u_0 rfl)<|a_p [15,25,0] rfl (Zcy (m:=1002) (lst:=Zce) Zrj (Zfi _ _ h2) rfl rfl rfl (by decide) u_1 u_0 (.cons u_2 .nil))<|a_n) (fun a g hst hb=>?_)
 obtain ⟨r3,h4,H0⟩:=Zc H0
 refine r_a [5,15,41] (L:=[(1,_),(3,_),(1002,_)]) hst hb Za
  (Af Zii 5 rfl<|Al Zml 0 rfl<|a_p [0] rfl (Zbx Tryz.underlying23 rfl rfl u_0)<|a_p [0] rfl (Zen Tryz.underlying3 Tryz.underlying95 rfl rfl u_0 rfl)<|a_p [15,25,0] rfl (Zcy (m:=1002) (lst:=Zce) Zrj (Zfi _ _ h4) rfl rfl rfl (by decide) u_1 u_0 (.cons u_2 .nil))<|a_n) (fun a g hst hb=>?_)
 refine wp_seq ?_
 refine r_a [15,10,20,30,25] (L:=[(1,_),(3,_),(1002,_)]) hst hb Za
  (Af Zii 5 rfl<|Al Zml 0 rfl<|a_p [0] rfl (Zbx Tryz.underlying23 rfl rfl u_0)<|a_p [] rfl (Z6 rfl rfl c_i)<|a_n) (fun a g hst hb=>?_)
 obtain ⟨z13,hz1,H0⟩:=Zc H0
 refine Zbt (fun a w=>∃ (y12:Zn) (g:G),w=g.w ∧ St 26 [(3,(pEq (ptrB b0 0))),(1002,(pSJ Zbh Z9 (hpL (pRow (Kd.int .u8) 5 1000003 (Zce y12))) 3 b0 y12))] a g ∧ Base g0 g ∧ y12=z13) ?_ ?_
 ·rintro a w ⟨y12,g,rfl,hst,hb,rfl⟩
  refine Zo ?_
  obtain ⟨r14,h15,H0⟩:=Zc H0
  refine r_a [10,1] (L:=[(3,_),(1002,_)]) hst hb Za
   (a_p [5,15] rfl (Zcy (m:=1002) (lst:=Zce) Zbkb (Zth _ h15) rfl rfl rfl (by decide) u_1 u_0 .nil)<|Aa 0 rfl<|a_n) (fun a g hst hb=>?_)
  refine wp_ret ?_
  obtain rfl:=Option.some.inj H0
  exact Z8 rfl hst hb (Zi (s:=2)) (hst.at 0 rfl)
 ·refine wp_block ?_
  refine wp_loop_ghost (fun n a w=>∃ (x5:Int) (x6:Zn) (g:G),w=g.w ∧ St 26 [(3,(pEq (ptrB b0 0))),(16,(Zbb.sl.pd a0.Deals)),(17,(pInt .i64 (a0.Deals.length:Int))),(18,(pInt .i64 x5)),(1002,(pSJ Zbh Z9 (hpL (pRow (Kd.int .u8) 5 1000003 (Zce x6))) 3 b0 x6))] a g ∧ Base g0 g ∧ Zhe a0 n x5 x6=some z13) (Int.toNat ((a0.Deals.length:Int) - (0:Int)) + 1) ⟨(0:Int),r3,g,rfl,(hst.pick [0,1,2,3,4] rfl),hb,hz1⟩ (fun n a w hI=>?_)
  obtain ⟨x5,x6,g,rfl,hst,hb,H1⟩:=hI
  cases n with
  | zero=>exact absurd H1 (by simp [Zhe])
  | succ n =>
   rw [Zhe] at H1
   refine r_a [5,15,25,35,0,45] (L:=[(3,_),(16,_),(17,_),(18,_),(1002,_)]) hst hb Za
    (a_p [35,25] rfl (Zcv rfl rfl u_0 u_1)<|a_n) (fun a g hst hb=>?_)
   refine wp_seq ?_
   refine wp_cond_split (hst.bool 4 rfl) (fun hc7=>?_) (fun hc7=>?_)
   ·replace H1:=Z1 hc7 H1
    refine wp_skip ?_
    refine Zo ?_
    refine wp_seq ?_
    refine wp_block ?_
    obtain ⟨e8,h9,H1⟩:=Zc H1
    refine r_a [5,30,15,25,35,45] (L:=[(3,_),(16,_),(17,_),(18,_),(1002,_)]) (hst.pick [0,1,2,3,5] rfl) hb Za
     (a_p [15,35] rfl (Zbw Tryz.underlying23 Zon rfl rfl u_0 u_1 h9)<|Al Zgx 0 rfl<|a_p (outs:=[(5,(pBox Zbb 5 (default:Zu)))]) (S:=[6]) [] rfl (Zbl (zs:=[.slice none 0 0]) (by kernel_rfl) (fun g=>Zju g) rfl rfl)<|a_p [10,0] rfl (Zch Zgx rfl rfl u_1 u_0)<|a_n) (fun a g hst hb=>?_)
    obtain ⟨r10,h11,H1⟩:=Zc H1
    refine r_b [5,25,35,45,11] (L:=[(3,_),(5,_),(16,_),(17,_),(18,_),(1002,_)]) hst hb Za
     (Al Zgx 15 rfl<|a_p [5,55,0] rfl (Zcy (m:=1002) (lst:=Zce) Zbj2 (Z2f _ _ h11) rfl rfl rfl (by decide) u_1 u_0 (.cons u_2 .nil))<|a_n) (fun a g hst hb=>?_)
    refine Zbn ?_
    refine Zo ?_
    refine r_b [5,15,25,10,45] (L:=[(3,_),(16,_),(17,_),(18,_),(1002,_)]) hst hb Za
     (a_p [35] rfl (Zcf rfl rfl u_0 c_i rfl)<|Am 0 rfl<|a_n) (fun a g hst hb=>?_)
    exact ⟨n,Nat.lt_succ_self _,(IntKind.i64.wrap (x5 + (1:Int))),r10,g,rfl,(hst.pick [0,1,2,3,4] rfl),hb,H1⟩
   ·replace H1:=Z0 hc7 H1
    refine wp_exit ?_
    refine Zb0 ?_
    refine Zb0 ?_
    refine Zcj ?_
    exact ⟨x6,g,rfl,(hst.pick [0,5] rfl),hb,Option.some.inj H1⟩
theorem Znl (a0:Zbk) {r:Int × Int} (h:Zgg a0=some r):FnOk Tryz.prog 4 [(Zcs.pd a0)] (pTup [(pInt .i64 r.1),(pInt .i64 r.2)]):=by
 have H0:=h
 unfold Zgg at H0
 clear h
 refine Zb4 (N:=45) Tryz.func4 rfl rfl (Qe rfl) rfl rfl (fun a g0 hst hb=>?_)
 refine r_a [0] (L:=[(0,_)]) hst hb Za
  (a_p [5] rfl (Zbq rfl rfl u_0)<|a_p [] rfl (Zd rfl rfl c_i)<|a_p [] rfl (Zd rfl rfl c_i)<|a_n) (fun a g hst hb=>?_)
 refine wp_seq ?_
 refine wp_block ?_
 refine r_a [5,80] (L:=[(1,_)]) hst hb Za
  (Af Zs7 5 rfl<|Al ty_3 0 rfl<|a_p [0] rfl (Zcv rfl rfl u_0 c_i)<|Am 0 rfl<|a_g [0,5] (Qg_f rfl (fun hG=>Zl Zs7 rfl rfl u_0))<|a_g [10,0] (Qg_f rfl (fun hG=>Z2 ty_3 rfl rfl (Opd.gd hG u_0)))<|a_g [20,0] (Qg_f rfl (fun hG=>Zcu rfl rfl (Opd.gd hG u_0) c_i))<|a_p [30,0] rfl (Zb2 rfl rfl u_0 (fun hz=>(Opd.gd (bNF hz) u_1)))<|Aa 0 rfl<|a_n) (fun a g hst hb=>?_)
 refine wp_cond_split (hst.bool 1 rfl) (fun hc1=>?_) (fun hc1=>?_)
 ·replace H0:=Z1 hc1 H0
  refine r_a [0,10] (L:=[]) (hst.pick [] rfl) hb Za
   (a_p [] rfl (Zd rfl rfl c_i)<|a_p [] rfl (Zd rfl rfl c_i)<|a_n) (fun a g hst hb=>?_)
  refine wp_ret ?_
  refine Z5 ?_
  refine Zt ?_
  obtain rfl:=Option.some.inj H0
  exact Zev rfl hst hb (Zi (s:=2)) (Zi (s:=3)) (Zdc (hst.at 0 rfl) (hst.at 1 rfl))
 ·replace H0:=Z0 hc1 H0
  refine r_a [5,40] (L:=[(1,_)]) (hst.pick [0] rfl) hb Za
   (Af Zii 5 rfl<|Al Zml 0 rfl<|a_p [0] rfl (Zbx Tryz.underlying23 rfl rfl u_0)<|a_p [0] rfl (Zcu rfl rfl u_0 c_i)<|Aa 0 rfl<|a_n) (fun a g hst hb=>?_)
  refine wp_cond_split (hst.bool 1 rfl) (fun hc2=>?_) (fun hc2=>?_)
  ·replace H0:=Z1 hc2 H0
   refine r_a [0,10] (L:=[]) (hst.pick [] rfl) hb Za
    (a_p [] rfl (Zd rfl rfl c_i)<|a_p [] rfl (Zd rfl rfl c_i)<|a_n) (fun a g hst hb=>?_)
   refine wp_ret ?_
   refine Z5 ?_
   refine Zt ?_
   obtain rfl:=Option.some.inj H0
   exact Zev rfl hst hb (Zi (s:=2)) (Zi (s:=3)) (Zdc (hst.at 0 rfl) (hst.at 1 rfl))
  ·replace H0:=Z0 hc2 H0
   refine wp_skip ?_
   refine Zbn ?_
   refine Zo ?_
   refine wp_seq ?_
   refine r_a [5,10,20,30] (L:=[(1,_)]) (hst.pick [0] rfl) hb Za
    (Af Zii 5 rfl<|Al Zml 0 rfl<|a_p [0] rfl (Zbx Tryz.underlying23 rfl rfl u_0)<|a_p [] rfl (Z6 rfl rfl c_i)<|a_n) (fun a g hst hb=>?_)
   obtain ⟨z10,hz1,H0⟩:=Zc H0
   refine Zbt (fun a w=>∃ (g:G),w=g.w ∧ St 45 [(1,(Zcs.ptr a0))] a g ∧ Base g0 g ∧ (.inr ())=z10) ?_ ?_
   ·rintro a w ⟨g,rfl,hst,hb,rfl⟩
    refine Zo ?_
    refine wp_seq ?_
    obtain ⟨r11,h12,H0⟩:=Zc H0
    refine r_a [30] (L:=[(1,_)]) hst hb Za
     (Al Zi7 5 rfl<|a_p [0] rfl (Zr Zbes (Ztf _ h12) rfl rfl (.cons u_0 .nil))<|a_p [0] rfl (Zbx Tryz.underlying29 rfl rfl u_0)<|a_p [0] rfl (Zcu rfl rfl u_0 c_i)<|a_n) (fun a g hst hb=>?_)
    refine wp_cond_split (hst.bool 0 rfl) (fun hc13=>?_) (fun hc13=>?_)
    ·replace H0:=Z1 hc13 H0
     refine r_a [0,10] (L:=[]) (hst.pick [] rfl) hb Za
      (a_p [] rfl (Zd rfl rfl c_i)<|a_p [] rfl (Zd rfl rfl c_i)<|a_n) (fun a g hst hb=>?_)
     refine wp_ret ?_
     refine Zt ?_
     obtain rfl:=Option.some.inj H0
     exact Zev rfl hst hb (Zi (s:=2)) (Zi (s:=3)) (Zdc (hst.at 0 rfl) (hst.at 1 rfl))
    ·replace H0:=Z0 hc13 H0
     refine wp_skip ?_
     refine Zo ?_
     refine r_a [0,10] (L:=[]) (hst.pick [] rfl) hb Za
      (a_p [] rfl (Zd rfl rfl c_i)<|a_p [] rfl (Zd rfl rfl c_i)<|a_n) (fun a g hst hb=>?_)
     refine wp_ret ?_
     obtain rfl:=Option.some.inj H0
     exact Zev rfl hst hb (Zi (s:=2)) (Zi (s:=3)) (Zdc (hst.at 0 rfl) (hst.at 1 rfl))
   ·refine wp_block ?_
    refine wp_loop_ghost (fun n a w=>∃ (x3:Int) (g:G),w=g.w ∧ St 45 [(1,(Zcs.ptr a0)),(23,(Zbb.sl.pd a0.Deals)),(24,(pInt .i64 (a0.Deals.length:Int))),(25,(pInt .i64 x3))] a g ∧ Base g0 g ∧ Zfq a0 n x3=some z10) (Int.toNat ((a0.Deals.length:Int) - (0:Int)) + 1) ⟨(0:Int),g,rfl,(hst.pick [0,1,2,3] rfl),hb,hz1⟩ (fun n a w hI=>?_)
    obtain ⟨x3,g,rfl,hst,hb,H1⟩:=hI
    cases n with
    | zero=>exact absurd H1 (by simp [Zfq])
    | succ n =>
     rw [Zfq] at H1
     refine r_a [5,15,25,35,0] (L:=[(1,_),(23,_),(24,_),(25,_)]) hst hb Za
      (a_p [35,25] rfl (Zcv rfl rfl u_0 u_1)<|a_n) (fun a g hst hb=>?_)
     refine wp_seq ?_
     refine wp_cond_split (hst.bool 4 rfl) (fun hc4=>?_) (fun hc4=>?_)
     ·replace H1:=Z1 hc4 H1
      refine wp_skip ?_
      refine Zo ?_
      refine wp_seq ?_
      refine wp_block ?_
      obtain ⟨e5,h6,H1⟩:=Zc H1
      refine r_a [5,40,50,15,25,35] (L:=[(1,_),(23,_),(24,_),(25,_)]) (hst.pick [0,1,2,3] rfl) hb Za
       (Am 35 rfl<|a_p [15,35] rfl (Zbw Tryz.underlying23 Zon rfl rfl u_0 u_1 h6)<|Al Zgx 0 rfl<|a_p (outs:=[(5,(pBox Zbb 5 (default:Zu)))]) (S:=[6]) [] rfl (Zbl (zs:=[.slice none 0 0]) (by kernel_rfl) (fun g=>Zju g) rfl rfl)<|Aa 30 rfl<|a_p [20,10] rfl (Zch Zgx rfl rfl u_1 u_0)<|a_n) (fun a g hst hb=>?_)
      obtain ⟨r7,h8,H1⟩:=Zc H1
      refine r_a [5,15,50,35,45,55] (L:=[(1,_),(4,_),(5,_),(23,_),(24,_),(25,_)]) hst hb Za
       (Al Zgx 25 rfl<|a_p [0] rfl (Zr Zbej (Zuo _ h8) rfl rfl (.cons u_0 .nil))<|Am 0 rfl<|a_p [0] rfl (Zba rfl rfl u_0 rfl)<|a_p [10] rfl (Zba rfl rfl u_0 rfl)<|Aa 10 rfl<|Aa 10 rfl<|a_n) (fun a g hst hb=>?_)
      refine r_a [5,15,25,35,45,55,10] (L:=[(1,_),(4,_),(6,_),(23,_),(24,_),(25,_)]) hst hb Za
       (Am 25 rfl<|a_p [0] rfl (Zdd rfl rfl u_0 c_i)<|a_n) (fun a g hst hb=>?_)
      refine wp_cond_split (hst.bool 6 rfl) (fun hc9=>?_) (fun hc9=>?_)
      ·replace H1:=Z1 hc9 H1
       refine r_a [30,40] (L:=[(4,_),(6,_)]) (hst.pick [1,2] rfl) hb Za
        (Am 15 rfl<|Am 5 rfl<|a_p [0] rfl (Zcf rfl rfl u_0 c_i rfl)<|Aa 20 rfl<|Aa 10 rfl<|a_n) (fun a g hst hb=>?_)
       refine wp_ret ?_
       refine Z5 ?_
       refine Zt ?_
       refine Zt ?_
       refine Z5 ?_
       refine Zt ?_
       refine Zt ?_
       obtain rfl:=Option.some.inj H1
       obtain rfl:=Option.some.inj H0
       exact Zev rfl hst hb (Zi (s:=2)) (Zi (s:=3)) (Zdc (hst.at 0 rfl) (hst.at 1 rfl))
      ·replace H1:=Z0 hc9 H1
       refine wp_skip ?_
       refine Zbn ?_
       refine Zo ?_
       refine r_b [5,15,25,10] (L:=[(1,_),(23,_),(24,_),(25,_)]) (hst.pick [0,3,4,5] rfl) hb Za
        (a_p [35] rfl (Zcf rfl rfl u_0 c_i rfl)<|Am 0 rfl<|a_n) (fun a g hst hb=>?_)
       exact ⟨n,Nat.lt_succ_self _,(IntKind.i64.wrap (x3 + (1:Int))),g,rfl,(hst.pick [0,1,2,3] rfl),hb,H1⟩
     ·replace H1:=Z0 hc4 H1
      refine wp_exit ?_
      refine Zb0 ?_
      refine Zb0 ?_
      refine Zcj ?_
      exact ⟨g,rfl,(hst.pick [0] rfl),hb,Option.some.inj H1⟩
theorem Zvr (a0:Zbk) {r:List Int} (h:Zo4 a0=some r):FnOk Tryz.prog 5 [(Zcs.pd a0)] ((Kd.int .u8).sl.pd r):=by
 have H0:=h
 unfold Zo4 at H0
 clear h
 refine Zb4 (N:=14) Tryz.func5 rfl rfl (Qe rfl) rfl rfl (fun a g0 hst hb=>?_)
 refine r_a [0] (L:=[(0,_)]) hst hb Za
  (a_p [5] rfl (Zbq rfl rfl u_0)<|a_p (outs:=[(2,((Kd.int .u8).sl.pd ([]:List Int)))]) (S:=[]) [] rfl (Zd rfl rfl (Opd.c (fun g=>Zg7 g)))<|a_n) (fun a g hst hb=>?_)
 refine wp_seq ?_
 obtain ⟨r1,h2,H0⟩:=Zc H0
 refine r_a [5,50] (L:=[(1,_)]) hst hb Za
  (Al Zi7 5 rfl<|a_p [0] rfl (Zr en_4 (Znl _ h2) rfl rfl (.cons u_0 .nil))<|Am 0 rfl<|a_p [0] rfl (Zba rfl rfl u_0 rfl)<|a_p [10] rfl (Zba rfl rfl u_0 rfl)<|Aa 10 rfl<|Aa 10 rfl<|a_n) (fun a g hst hb=>?_)
 refine r_a [5,10] (L:=[(1,_),(3,_)]) hst hb Za
  (Am 15 rfl<|a_p [0] rfl (Zdd rfl rfl u_0 c_i)<|a_n) (fun a g hst hb=>?_)
 refine wp_cond_split (hst.bool 1 rfl) (fun hc3=>?_) (fun hc3=>?_)
 ·replace H0:=Z1 hc3 H0
  refine r_a [0] (L:=[]) (hst.pick [] rfl) hb Za
   (a_p (outs:=[(2,((Kd.int .u8).sl.pd ([]:List Int)))]) (S:=[]) [] rfl (Zd rfl rfl (Opd.c (fun g=>Zg7 g)))<|a_n) (fun a g hst hb=>?_)
  refine wp_ret ?_
  refine Zt ?_
  obtain rfl:=Option.some.inj H0
  exact Z8 rfl hst hb (Zi (s:=2)) (hst.at 0 rfl)
 ·replace H0:=Z0 hc3 H0
  refine wp_skip ?_
  refine Zo ?_
  obtain ⟨r4,h5,H0⟩:=Zc H0
  refine r_a [20] (L:=[(1,_)]) (hst.pick [0] rfl) hb Za
   (Al Zi7 5 rfl<|a_p [0] rfl (Zr Zbes (Ztf _ h5) rfl rfl (.cons u_0 .nil))<|Aa 0 rfl<|a_n) (fun a g hst hb=>?_)
  refine wp_ret ?_
  obtain rfl:=Option.some.inj H0
  exact Z8 rfl hst hb (Zi (s:=2)) (hst.at 0 rfl)
theorem Z4r (a0:Int) {r:Zp × Int} (h:Zsd a0=some r):FnOk Tryz.prog 16 [(pInt .i64 a0)] (pTup [(Z4.pd r.1),(pInt .i64 r.2)]):=by
 have H0:=h
 unfold Zsd at H0
 clear h
 refine Zb4 (N:=13) Tryz.func16 rfl rfl (Qe rfl) rfl rfl (fun a g0 hst hb=>?_)
 refine r_a [5,0] (L:=[(0,_)]) hst hb Za
  (a_p (outs:=[(2,(pBox Z4 2 (default:Zp)))]) (S:=[3]) [] rfl (Zbl (zs:=[.pointer none,.int .i64 0]) (by kernel_rfl) (fun g=>Zd6 g) rfl rfl)<|a_p [] rfl (Zd rfl rfl c_i)<|a_n) (fun a g hst hb=>?_)
 refine wp_seq ?_
 refine r_a [5,15,50] (L:=[(0,_),(2,_)]) hst hb Za
  (Am 5 rfl<|a_p [0] rfl (Zcv rfl rfl u_0 c_i)<|Am 0 rfl<|a_g [0,5] (Qg_f rfl (fun hG=>Z6 rfl rfl u_0))<|a_g [10,0] (Qg_f rfl (fun hG=>Zcu rfl rfl (Opd.gd hG u_0) c_i))<|a_p [20,0] rfl (Zb2 rfl rfl u_0 (fun hz=>(Opd.gd (bNF hz) u_1)))<|a_n) (fun a g hst hb=>?_)
 refine wp_cond_split (hst.bool 2 rfl) (fun hc1=>?_) (fun hc1=>?_)
 ·replace H0:=Z1 hc1 H0
  refine r_a [10,20] (L:=[(2,_)]) (hst.pick [1] rfl) hb Za
   (a_p [] rfl (Zbhm rfl rfl )<|a_p [0,5] rfl (Zbg Zb7 rfl rfl u_1 u_0)<|a_p [] rfl (Zd rfl rfl c_i)<|a_n) (fun a g hst hb=>?_)
  refine wp_ret ?_
  refine Zt ?_
  obtain rfl:=Option.some.inj H0
  obtain ⟨u0,hu0,hq0⟩:=Zbo (P:=Tryz.prog) Zb7 (hst.at 0 rfl)
  exact Zev rfl hst hb hu0 (Zi (s:=3)) (Zdc hq0 (hst.at 1 rfl))
 ·replace H0:=Z0 hc1 H0
  refine wp_skip ?_
  refine Zo ?_
  refine r_a [20,30] (L:=[(0,_),(2,_)]) (hst.pick [0,1] rfl) hb Za
   (Am 5 rfl<|a_p [0] rfl (Zbge rfl rfl u_0)<|a_p [0,15] rfl (Zbg Zb7 rfl rfl u_1 u_0)<|a_p [] rfl (Zd rfl rfl c_i)<|a_n) (fun a g hst hb=>?_)
  refine wp_ret ?_
  obtain rfl:=Option.some.inj H0
  obtain ⟨u0,hu0,hq0⟩:=Zbo (P:=Tryz.prog) Zb7 (hst.at 0 rfl)
  exact Zev rfl hst hb hu0 (Zi (s:=3)) (Zdc hq0 (hst.at 1 rfl))
theorem Zqu (a0:Zb) {r:Int} (h:Zi6 a0=some r):FnOk Tryz.prog 17 [(Zf.pd a0)] (pInt .i64 r):=by
 have H0:=h
 unfold Zi6 at H0
 clear h
 refine Zb4 (N:=27) Tryz.func17 rfl rfl (Qe rfl) rfl rfl (fun a g0 hst hb=>?_)
 refine r_a [0] (L:=[(0,_)]) hst hb Za
  (a_p [5] rfl (Zbq rfl rfl u_0)<|a_p [] rfl (Zd rfl rfl c_i)<|a_n) (fun a g hst hb=>?_)
 refine wp_seq ?_
 refine r_a [5,90] (L:=[(1,_)]) hst hb Za
  (Af Zc6 5 rfl<|Al Zeg 0 rfl<|a_p [0] rfl (Zbx Tryz.underlying60 rfl rfl u_0)<|a_p [0] rfl (Zcu rfl rfl u_0 c_i)<|Am 0 rfl<|a_g [0,5] (Qg_f rfl (fun hG=>Zl Zkp rfl rfl u_0))<|a_g [10,0] (Qg_f rfl (fun hG=>Z2 ty_9 rfl rfl (Opd.gd hG u_0)))<|a_g [20,0] (Qg_f rfl (fun hG=>Zhf Tryz.underlying9 rfl rfl (Opd.gd hG u_0)))<|a_g [30,0] (Qg_f rfl (fun hG=>Zcu rfl rfl (Opd.gd hG u_0) c_i))<|a_p [40,0] rfl (Zb2 rfl rfl u_0 (fun hz=>(Opd.gd (bNF hz) u_1)))<|a_n) (fun a g hst hb=>?_)
 refine wp_cond_split (hst.bool 1 rfl) (fun hc1=>?_) (fun hc1=>?_)
 ·replace H0:=Z1 hc1 H0
  refine r_a [0] (L:=[]) (hst.pick [] rfl) hb Za
   (a_p [] rfl (Zd rfl rfl c_i)<|a_n) (fun a g hst hb=>?_)
  refine wp_ret ?_
  refine Zt ?_
  obtain rfl:=Option.some.inj H0
  exact Z8 rfl hst hb (Zi (s:=2)) (hst.at 0 rfl)
 ·replace H0:=Z0 hc1 H0
  refine wp_skip ?_
  refine Zo ?_
  refine wp_seq ?_
  refine r_a [10,20,30] (L:=[(1,_)]) (hst.pick [0] rfl) hb Za
   (Af Zc6 5 rfl<|Al Zeg 0 rfl<|a_p [0] rfl (Zbx Tryz.underlying60 rfl rfl u_0)<|a_p [] rfl (Z6 rfl rfl c_i)<|a_n) (fun a g hst hb=>?_)
  obtain ⟨z7,hz1,H0⟩:=Zc H0
  refine Zbt (fun a w=>∃ (g:G),w=g.w ∧ St 27 [] a g ∧ Base g0 g ∧ (.inr ())=z7) ?_ ?_
  ·rintro a w ⟨g,rfl,hst,hb,rfl⟩
   refine Zo ?_
   refine r_a [0] (L:=[]) hst hb Za
    (a_p [] rfl (Zd rfl rfl c_i)<|a_n) (fun a g hst hb=>?_)
   refine wp_ret ?_
   obtain rfl:=Option.some.inj H0
   exact Z8 rfl hst hb (Zi (s:=2)) (hst.at 0 rfl)
  ·refine wp_block ?_
   refine wp_loop_ghost (fun n a w=>∃ (x2:Int) (g:G),w=g.w ∧ St 27 [(16,(Zz.sl.pd a0.List)),(17,(pInt .i64 (a0.List.length:Int))),(18,(pInt .i64 x2))] a g ∧ Base g0 g ∧ Zfe a0 n x2=some z7) (Int.toNat ((a0.List.length:Int) - (0:Int)) + 1) ⟨(0:Int),g,rfl,(hst.pick [0,1,2] rfl),hb,hz1⟩ (fun n a w hI=>?_)
   obtain ⟨x2,g,rfl,hst,hb,H1⟩:=hI
   cases n with
   | zero=>exact absurd H1 (by simp [Zfe])
   | succ n =>
    rw [Zfe] at H1
    refine r_a [5,15,25,0] (L:=[(16,_),(17,_),(18,_)]) hst hb Za
     (a_p [25,15] rfl (Zcv rfl rfl u_0 u_1)<|a_n) (fun a g hst hb=>?_)
    refine wp_seq ?_
    refine wp_cond_split (hst.bool 3 rfl) (fun hc3=>?_) (fun hc3=>?_)
    ·replace H1:=Z1 hc3 H1
     refine wp_skip ?_
     refine Zo ?_
     refine wp_seq ?_
     refine wp_block ?_
     obtain ⟨e4,h5,H1⟩:=Zc H1
     refine r_a [30,5,15,25] (L:=[(16,_),(17,_),(18,_)]) (hst.pick [0,1,2] rfl) hb Za
      (a_p [5,25] rfl (Zbw Tryz.underlying60 Zho rfl rfl u_0 u_1 h5)<|Al Zfa 0 rfl<|a_p (outs:=[(4,(pBox Zz 4 (default:Zh)))]) (S:=[5]) [] rfl (Zbl (zs:=[.float .f64 0,.string ByteArray.empty]) (by kernel_rfl) (fun g=>Zjx g) rfl rfl)<|a_p [10,0] rfl (Zch Zfa rfl rfl u_1 u_0)<|a_n) (fun a g hst hb=>?_)
     refine r_a [15,25,35,30] (L:=[(4,_),(16,_),(17,_),(18,_)]) hst hb Za
      (Af Zfg 5 rfl<|Al ty_9 0 rfl<|a_p [0] rfl (Zhf Tryz.underlying9 rfl rfl u_0)<|a_p [0] rfl (Zcu rfl rfl u_0 c_i)<|a_n) (fun a g hst hb=>?_)
     refine wp_cond_split (hst.bool 3 rfl) (fun hc6=>?_) (fun hc6=>?_)
     ·replace H1:=Z1 hc6 H1
      refine r_a [0] (L:=[]) (hst.pick [] rfl) hb Za
       (a_p [] rfl (Zd rfl rfl c_i)<|a_n) (fun a g hst hb=>?_)
      refine wp_ret ?_
      refine Z5 ?_
      refine Zt ?_
      refine Zt ?_
      refine Z5 ?_
      refine Zt ?_
      refine Zt ?_
      obtain rfl:=Option.some.inj H1
      obtain rfl:=Option.some.inj H0
      exact Z8 rfl hst hb (Zi (s:=2)) (hst.at 0 rfl)
     ·replace H1:=Z0 hc6 H1
      refine wp_skip ?_
      refine Zbn ?_
      refine Zo ?_
      refine r_b [5,15,10] (L:=[(16,_),(17,_),(18,_)]) (hst.pick [0,1,2] rfl) hb Za
       (a_p [25] rfl (Zcf rfl rfl u_0 c_i rfl)<|Am 0 rfl<|a_n) (fun a g hst hb=>?_)
      exact ⟨n,Nat.lt_succ_self _,(IntKind.i64.wrap (x2 + (1:Int))),g,rfl,(hst.pick [0,1,2] rfl),hb,H1⟩
    ·replace H1:=Z0 hc3 H1
     refine wp_exit ?_
     refine Zb0 ?_
     refine Zb0 ?_
     refine Zcj ?_
     exact ⟨g,rfl,(hst.pick [] rfl),hb,Option.some.inj H1⟩
theorem Zdw (a0:shelf_nodeT) {r:Int} (h:Zc1 a0=some r):FnOk Tryz.prog 56 [(Zbe.pd a0)] (pInt .i64 r):=by
 have H0:=h
 unfold Zc1 at H0
 clear h
 refine Zb4 (N:=9) Tryz.func56 rfl rfl (Qe rfl) rfl rfl (fun a g0 hst hb=>?_)
 refine r_a [5] (L:=[(0,_)]) hst hb Za
  (a_p [] rfl (Zd rfl rfl c_i)<|a_n) (fun a g hst hb=>?_)
 refine wp_seq ?_
 refine r_a [5,10] (L:=[(0,_)]) hst hb Za
  (Am 5 rfl<|a_p [0] rfl (Zsy Tryz.underlying31 rfl rfl u_0 (Zfy _))<|a_n) (fun a g hst hb=>?_)
 refine wp_cond_split (hst.bool 1 rfl) (fun hc1=>?_) (fun hc1=>?_)
 ·replace H0:=Z1 hc1 H0
  refine r_a [0] (L:=[]) (hst.pick [] rfl) hb Za
   (a_p [] rfl (Zd rfl rfl c_i)<|a_n) (fun a g hst hb=>?_)
  refine wp_ret ?_
  refine Zt ?_
  obtain rfl:=Option.some.inj H0
  exact Z8 rfl hst hb (Zi (s:=2)) (hst.at 0 rfl)
 ·replace H0:=Z0 hc1 H0
  refine wp_skip ?_
  refine Zo ?_
  obtain ⟨n2,h3,H0⟩:=Zc H0
  refine r_a [40] (L:=[(0,_)]) (hst.pick [0] rfl) hb Za
   (Am 5 rfl<|a_p [0] rfl (Zm rfl rfl (Opd.imp u_0 (fun _ _ h=>Zw h3 h)) (fun _ _ ⟨_,_,_,e,_⟩=>⟨_,e⟩))<|Af Zbc1 0 rfl<|Al ty_3 0 rfl<|Aa 0 rfl<|a_n) (fun a g hst hb=>?_)
  refine wp_ret ?_
  obtain rfl:=Option.some.inj H0
  exact Z8 rfl hst hb (Zi (s:=2)) (hst.at 0 rfl)
theorem Zk5 (a0:Zp) {r:Int} (h:Zf6 a0=some r):FnOk Tryz.prog 32 [(Z4.pd a0)] (pInt .i64 r):=by
 have H0:=h
 unfold Zf6 at H0
 clear h
 refine Zb4 (N:=6) Tryz.func32 rfl rfl (Qe rfl) rfl rfl (fun a g0 hst hb=>?_)
 refine r_a [0] (L:=[(0,_)]) hst hb Za
  (a_p [5] rfl (Zbq rfl rfl u_0)<|a_p [] rfl (Zd rfl rfl c_i)<|a_n) (fun a g hst hb=>?_)
 obtain ⟨r1,h2,H0⟩:=Zc H0
 refine r_a [30] (L:=[(1,_)]) hst hb Za
  (Af Zsz 5 rfl<|Al Zdj 0 rfl<|a_p [0] rfl (Zr Zqi (Zdw _ h2) rfl rfl (.cons u_0 .nil))<|Aa 0 rfl<|a_n) (fun a g hst hb=>?_)
 refine wp_ret ?_
 obtain rfl:=Option.some.inj H0
 exact Z8 rfl hst hb (Zi (s:=2)) (hst.at 0 rfl)
theorem Zoj (a0:(List Zh)) {r:(List Zh)} (h:Zb9 a0=some r):FnOk Tryz.prog 71 [(Zz.sl.pd a0)] (Zz.sl.pd r):=by
 unfold Zb9 at h
 obtain ⟨hsz,H0⟩:=Ze0 h
 obtain rfl:=Option.some.inj H0
 refine Zb4 (N:=8) Tryz.func71 rfl rfl (Qe rfl) rfl rfl (fun a g0 hst hb=>?_)
 refine wp_seq ?_
 refine Zrt Za (N:=8) (L:=[(0,(Zz.sl.pd a0))]) (T:=[⟨[],[(2,(Zz.sl.pd []))],[],[],[2]⟩]) (F:=[.o 0]) (by kernel_rfl)
  (Zk2 (OT.plain rfl (Zd rfl rfl (Opd.c (fun g=>Zg7 g)))) Zsn) hst hb (fun a g hst hb=>?_)
 refine Zo ?_
 refine wp_seq ?_
 refine wp_seq ?_
 refine Zrt Za (N:=8) (L:=[(0,(Zz.sl.pd a0))]) (T:=[⟨[.o 0],[(3,(Zz.sl.pd a0))],[],[],[3]⟩,⟨[.p 0 0],[(4,Zbev a0)],[],[0],[4]⟩]) (F:=[.o 0,.p 1 0]) (by kernel_rfl)
  (Zk2 (OT.plain rfl (Z6 rfl rfl Opd.t0)) (Zk2 (OT.plain rfl (Z0c Tryz.underlying60 rfl rfl Opd.t0)) Zsn)) hst hb (fun a g hst hb=>?_)
 refine Zo ?_
 obtain ⟨c,hc,hc'⟩:=hst.at 1 rfl
 refine wp_cond_split hc (fun ht=>?_) (fun hf=>?_)
 ·obtain rfl:=hc' ht
  refine wp_seq ?_
  refine Zrt Za (N:=8) (L:=[]) (T:=[⟨[],[(2,(Zz.sl.pd []))],[],[],[2]⟩]) (F:=[.p 0 0]) (by kernel_rfl)
   (Zk2 (OT.plain rfl (Zd rfl rfl (Opd.c (fun g=>Zg7 g)))) Zsn) (hst.pick [] rfl) hb (fun a g hst hb=>?_)
  refine Zo ?_
  refine wp_ret ?_
  refine Zt ?_
  exact Z8 rfl hst hb (Zi (s:=2)) (hst.at 0 rfl)
 ·refine wp_skip ?_
  refine Zo ?_
  refine wp_seq ?_
  have hsz':(([]:(List Zh)).length + a0.length) * 24 ≤ 140737488355328:=by simpa using hsz
  refine Zrt Za (N:=8) (L:=[(0,(Zz.sl.pd a0))]) (T:=[⟨[],[(5,(pRow Zz 100 5 []))],[6],[],[5]⟩,⟨[.o 0],[(6,(Zz.sl.pd a0))],[],[],[6]⟩,⟨[.p 0 0,.p 1 0],[(7,(pRow Zz 100 5 ([] ++ a0)))],[6],[0,1],[5,7]⟩,⟨[.p 2 0],[(2,(pRow Zz 100 5 ([] ++ a0)))],[],[0,1,2],[2]⟩]) (F:=[.p 3 0]) (by kernel_rfl)
   (Zk2 (OT.plain rfl (Z1w 5 Ze6 (xs:=[]) .nil (by decide) rfl rfl)) (Zk2 (OT.plain rfl (Z6 rfl rfl Opd.t0)) (Zk2 (OT.plain rfl (Zfc Ze6 rfl rfl Opd.t0 (Opd.tl Opd.t0) hsz')) (Zk2 (OT.plain rfl (Zd rfl rfl Opd.t0)) Zsn)))) (hst.pick [0] rfl) hb (fun a g hst hb=>?_)
  refine Zo ?_
  refine wp_ret ?_
  exact Z8 rfl hst hb (Zi (s:=2)) (Zne (hst.at 0 rfl))
theorem Zge (a0:(List Zh)) {r:(List Zh)} (h:Zb9 a0=some r):Zwh Tryz.prog 71 [(Zz.sl.pd a0)] Zz 100 r:=by
 unfold Zb9 at h
 obtain ⟨hsz,H0⟩:=Ze0 h
 obtain rfl:=Option.some.inj H0
 refine Zzo (N:=8) Tryz.func71 rfl rfl (Qe rfl) rfl (fun a g0 h0 hst hb=>?_)
 refine r_s (T:=[⟨[],[(2,(Zz.sl.pd []))],[],[],[2]⟩]) (F:=[.o 0]) hst hb Za
  (o_p rfl (Zd rfl rfl (Opd.c (fun g=>Zg7 g)))<|o_n) (fun a g hst hb=>?_)
 refine wp_seq ?_
 refine r_s (T:=[⟨[.o 0],_,[],[],[3]⟩,⟨[.p 0 0],_,[],[0],[4]⟩]) (F:=[.o 0,.p 1 0]) hst hb Za
  (Qm rfl u_0<|o_p rfl (Z0c Tryz.underlying60 rfl rfl u_0)<|o_n) (fun a g hst hb=>?_)
 obtain ⟨c,hc,hc'⟩:=hst.at 1 rfl
 refine wp_cond_split hc (fun ht=>?_) (fun hf=>?_)
 ·obtain rfl:=hc' ht
  refine r_s (L:=[]) (T:=[⟨[],[(2,(pEq (.slice none 0 0)))],[],[],[2]⟩]) (F:=[.p 0 0]) (hst.pick [] rfl) hb Za
   (o_p rfl (Zd rfl rfl (Opd.c (fun g=>rfl)))<|o_n) (fun a g hst hb=>?_)
  refine wp_ret ?_
  refine Zt ?_
  exact Zxh rfl hst hb (Zi (s:=2)) ⟨none,hst.at 0 rfl⟩
 ·refine wp_skip ?_
  refine Zo ?_
  refine r_s (L:=[(0,_)]) (T:=[⟨[],[(5,(pOwn Zz 100 5 (some 0) (([]:(List Zh)).map some)))],[6],[],[5]⟩,⟨[.o 0],_,[],[],[6]⟩,⟨[.p 0 0,.p 1 0],_,[6],[0,1],[5,7]⟩,⟨[.p 2 0],_,[],[0,1,2],[2]⟩]) (F:=[.p 3 0]) (hst.pick [0] rfl) hb Za
   (o_p rfl (Z1u (ty:=0) Ze6 rfl rfl)<|Qm rfl u_0<|o_p rfl (Zty Ze6 rfl rfl u_0 u_1 (by simpa using hsz))<|Qa rfl u_0<|o_n) (fun a g hst hb=>?_)
  refine wp_ret ?_
  exact Z5v rfl h0 hst hb (Zi (s:=2)) (hst.at 0 rfl)
theorem Zhv (a0:Zb) {r:Zb} (h:Zf0 a0=some r):FnOk Tryz.prog 43 [(Zf.pd a0)] (Zf.pd r):=by
 have H0:=h
 unfold Zf0 at H0
 clear h
 refine Zb4 (N:=8) Tryz.func43 rfl rfl (Qe rfl) rfl rfl (fun a g0 hst hb=>?_)
 refine r_a [0,10] (L:=[(0,_)]) hst hb Za
  (a_p (outs:=[(1,(pBox Zf 1 a0))]) (S:=[2]) [5] rfl (Zrp rfl rfl u_0)<|a_p (outs:=[(2,(pBox Zf 2 (default:Zb)))]) (S:=[3]) [] rfl (Zbl (zs:=[.int .i64 0,.int .i64 0,.int .i64 0,.int .i64 0,.float .f64 0,.int .i64 0,.string ByteArray.empty,.slice none 0 0]) (by kernel_rfl) (fun g=>Zc4 g) rfl rfl)<|a_n) (fun a g hst hb=>?_)
 obtain ⟨r1,h2,H0⟩:=Zc H0
 refine r_a [40,15] (L:=[(1,_),(2,_)]) hst hb Za
  (a_p [5] rfl (Zbf Zc6 (off:=7) (by kernel_rfl) rfl rfl u_0)<|AP Zeg 0 rfl<|a_p [0] rfl (Zr Z24 (Zoj _ h2) rfl rfl (.cons u_0 .nil))<|a_p [5] rfl (Zbf Zc6 (off:=7) (by kernel_rfl) rfl rfl u_0)<|a_p [10,0,5] rfl (Zwa Zeg rfl rfl u_2 u_1 u_0)<|a_n) (fun a g hst hb=>?_)
 refine r_a [10] (L:=[(1,_),(2,_)]) hst hb Za
  (AM Zbr 5 rfl<|a_p [0,15] rfl (Zbg Zbr rfl rfl u_1 u_0)<|a_n) (fun a g hst hb=>?_)
 refine wp_ret ?_
 obtain rfl:=Option.some.inj H0
 obtain ⟨u0,hu0,hq0⟩:=Zbo (P:=Tryz.prog) Zbr (hst.at 0 rfl)
 exact Z8 rfl hst hb hu0 hq0
theorem Zng (a0:Zp) (a1:ByteArray) {r:Zb × Bool} (h:Zgw a0 a1=some r):FnOk Tryz.prog 41 [(Z4.pd a0),(pStr a1)] (pTup [(Zf.pd r.1),(Zbm r.2)]):=by
 have H0:=h
 unfold Zgw at H0
 clear h
 refine Zb4 (N:=39) Tryz.func41 rfl rfl (Qe rfl) rfl rfl (fun a g0 hst hb=>?_)
 refine r_a [15,0,10] (L:=[(0,_),(1,_)]) hst hb Za
  (a_p [5] rfl (Zbq rfl rfl u_0)<|a_p (outs:=[(4,(pBox Zf 4 (default:Zb)))]) (S:=[5]) [] rfl (Zbl (zs:=[.int .i64 0,.int .i64 0,.int .i64 0,.int .i64 0,.float .f64 0,.int .i64 0,.string ByteArray.empty,.slice none 0 0]) (by kernel_rfl) (fun g=>Zc4 g) rfl rfl)<|a_p [] rfl (Zd rfl rfl c_b)<|a_n) (fun a g hst hb=>?_)
 refine wp_seq ?_
 refine r_a [5,25,20] (L:=[(1,_),(2,_),(4,_)]) hst hb Za
  (Af Zsz 15 rfl<|Al Zdj 0 rfl<|Aa 0 rfl<|a_n) (fun a g hst hb=>?_)
 obtain ⟨z12,hz1,H0⟩:=Zc H0
 refine Zbt (fun a w=>∃ (y11:Zb) (g:G),w=g.w ∧ St 39 [(4,(pBox Zf 4 y11))] a g ∧ Base g0 g ∧ (.inr y11)=z12) ?_ ?_
 ·rintro a w ⟨y11,g,rfl,hst,hb,rfl⟩
  refine Zo ?_
  refine r_a [10,20] (L:=[(4,_)]) hst hb Za
   (a_p [] rfl (Zvw rfl rfl )<|a_p [0,5] rfl (Zbg Zbr rfl rfl u_1 u_0)<|a_p [] rfl (Zd rfl rfl c_b)<|a_n) (fun a g hst hb=>?_)
  refine wp_ret ?_
  obtain rfl:=Option.some.inj H0
  obtain ⟨u0,hu0,hq0⟩:=Zbo (P:=Tryz.prog) Zbr (hst.at 0 rfl)
  exact Zev rfl hst hb hu0 (Zi (s:=5)) (Zdc hq0 (hst.at 1 rfl))
 ·refine wp_block ?_
  refine wp_loop_ghost (fun n a w=>∃ (x1:Zb) (x2:shelf_nodeT) (g:G),w=g.w ∧ St 39 [(1,(pStr a1)),(4,(pBox Zf 4 x1)),(6,(Zbe.pd x2))] a g ∧ Base g0 g ∧ Zeo a1 n x1 x2=some z12) (a0.top.hh + 1) ⟨(default:Zb),a0.top,g,rfl,(hst.pick [0,1,2] rfl),hb,hz1⟩ (fun n a w hI=>?_)
  obtain ⟨x1,x2,g,rfl,hst,hb,H1⟩:=hI
  cases n with
  | zero=>exact absurd H1 (by simp [Zeo])
  | succ n =>
   rw [Zeo] at H1
   refine wp_seq ?_
   refine r_a [5,15,25,10] (L:=[(1,_),(4,_),(6,_)]) hst hb Za
    (Am 25 rfl<|a_p [0] rfl (Z5w Tryz.underlying31 rfl rfl u_0 (Zfy _))<|a_n) (fun a g hst hb=>?_)
   refine wp_cond_split (hst.bool 3 rfl) (fun hc3=>?_) (fun hc3=>?_)
   ·replace H1:=Z1 hc3 H1
    refine wp_skip ?_
    refine Zo ?_
    refine Zbt (fun a w=>∃ (j10:shelf_nodeT) (g:G),w=g.w ∧ St 39 [(1,(pStr a1)),(4,(pBox Zf 4 x1)),(6,(Zbe.pd j10))] a g ∧ Base g0 g ∧ Zi0 x1 (Zeo a1 n) j10=some z12) ?_ ?_
    ·rintro a w ⟨j10,g,rfl,hst,hb,H1⟩
     unfold Zi0 at H1
     exact ⟨n,Nat.lt_succ_self _,x1,j10,g,rfl,(hst.pick [0,1,2] rfl),hb,H1⟩
    ·refine wp_block ?_
     refine wp_block ?_
     obtain ⟨n4,h5,H1⟩:=Zc H1
     refine r_a [5,15,25,60] (L:=[(1,_),(4,_),(6,_)]) (hst.pick [0,1,2] rfl) hb Za
      (Am 5 rfl<|Am 25 rfl<|a_p [0] rfl (Zm rfl rfl (Opd.imp u_0 (fun _ _ h=>Zw h5 h)) (fun _ _ ⟨_,_,_,e,_⟩=>⟨_,e⟩))<|Af Zfh 0 rfl<|Al ty_9 0 rfl<|a_p [40,0] rfl (Zqz rfl rfl u_0 u_1)<|Aa 0 rfl<|a_n) (fun a g hst hb=>?_)
     refine wp_cond_split (hst.bool 3 rfl) (fun hc6=>?_) (fun hc6=>?_)
     ·replace H1:=Z1 hc6 H1
      refine r_b [5,15,40] (L:=[(1,_),(4,_),(6,_)]) (hst.pick [0,1,2] rfl) hb Za
       (Am 25 rfl<|a_p [0] rfl (Zm rfl rfl (Opd.imp u_0 (fun _ _ h=>Zw h5 h)) (fun _ _ ⟨_,_,_,e,_⟩=>⟨_,e⟩))<|Af Zex 0 rfl<|Al Zdj 0 rfl<|Aa 0 rfl<|a_n) (fun a g hst hb=>?_)
      refine Zbn ?_
      refine Zbn ?_
      exact ⟨n4.left,g,rfl,(hst.pick [0,1,2] rfl),hb,H1⟩
     ·replace H1:=Z0 hc6 H1
      refine r_a [5,15,25,60] (L:=[(1,_),(4,_),(6,_)]) (hst.pick [0,1,2] rfl) hb Za
       (Am 5 rfl<|Am 25 rfl<|a_p [0] rfl (Zm rfl rfl (Opd.imp u_0 (fun _ _ h=>Zw h5 h)) (fun _ _ ⟨_,_,_,e,_⟩=>⟨_,e⟩))<|Af Zfh 0 rfl<|Al ty_9 0 rfl<|a_p [40,0] rfl (Zzr rfl rfl u_0 u_1)<|Aa 0 rfl<|a_n) (fun a g hst hb=>?_)
      refine wp_cond_split (hst.bool 3 rfl) (fun hc7=>?_) (fun hc7=>?_)
      ·replace H1:=Z1 hc7 H1
       refine r_b [5,15,40] (L:=[(1,_),(4,_),(6,_)]) (hst.pick [0,1,2] rfl) hb Za
        (Am 25 rfl<|a_p [0] rfl (Zm rfl rfl (Opd.imp u_0 (fun _ _ h=>Zw h5 h)) (fun _ _ ⟨_,_,_,e,_⟩=>⟨_,e⟩))<|Af Zfo 0 rfl<|Al Zdj 0 rfl<|Aa 0 rfl<|a_n) (fun a g hst hb=>?_)
       refine Zbn ?_
       refine Zbn ?_
       exact ⟨n4.right,g,rfl,(hst.pick [0,1,2] rfl),hb,H1⟩
      ·replace H1:=Z0 hc7 H1
       obtain ⟨r8,h9,H1⟩:=Zc H1
       refine r_a [50,60] (L:=[(4,_),(6,_)]) (hst.pick [1,2] rfl) hb Za
        (Am 15 rfl<|a_p [0] rfl (Zm rfl rfl (Opd.imp u_0 (fun _ _ h=>Zw h5 h)) (fun _ _ ⟨_,_,_,e,_⟩=>⟨_,e⟩))<|Af Zim 0 rfl<|Al Zbr 0 rfl<|a_p [0] rfl (Zr Zrd (Zhv _ h9) rfl rfl (.cons u_0 .nil))<|a_p [0,5] rfl (Zbg Zbr rfl rfl u_1 u_0)<|a_p [] rfl (Zd rfl rfl c_b)<|a_n) (fun a g hst hb=>?_)
       refine wp_ret ?_
       refine Z5 ?_
       refine Z5 ?_
       refine Zt ?_
       refine Zt ?_
       refine Z5 ?_
       refine Zt ?_
       refine Zt ?_
       obtain rfl:=Option.some.inj H1
       obtain rfl:=Option.some.inj H0
       obtain ⟨u0,hu0,hq0⟩:=Zbo (P:=Tryz.prog) Zbr (hst.at 0 rfl)
       exact Zev rfl hst hb hu0 (Zi (s:=5)) (Zdc hq0 (hst.at 1 rfl))
   ·replace H1:=Z0 hc3 H1
    refine wp_exit ?_
    refine Zb0 ?_
    refine Zb0 ?_
    refine Zcj ?_
    exact ⟨x1,g,rfl,(hst.pick [1] rfl),hb,Option.some.inj H1⟩
theorem Zel (a0:ByteArray) (a1:Zb) (a2:shelf_nodeT) (a3:shelf_nodeT) {r:shelf_nodeT} (h:Zeb a0 a1 a2 a3=some r):FnOk Tryz.prog 69 [(pStr a0),(Zf.pd a1),(Zbe.pd a2),(Zbe.pd a3)] (Zbe.pd r):=by
 have H0:=h
 unfold Zeb at H0
 clear h
 refine Zb4 (N:=21) Tryz.func69 rfl rfl (Qe rfl) rfl rfl (fun a g0 hst hb=>?_)
 refine r_a [5,25,35,0] (L:=[(0,_),(1,_),(2,_),(3,_)]) hst hb Za
  (a_p [15] rfl (Zbq rfl rfl u_0)<|a_p (outs:=[(8,(Zbe.pd shelf_nodeT.nil))]) (S:=[]) [] rfl (Zd rfl rfl (Opd.c (fun g=>Ze5 g)))<|a_n) (fun a g hst hb=>?_)
 obtain ⟨r1,h2,H0⟩:=Zc H0;obtain ⟨r3,h4,H0⟩:=Zc H0
 refine r_a [120] (L:=[(0,_),(2,_),(3,_),(5,_)]) hst hb Za
  (Am 5 rfl<|Al Zbr 35 rfl<|Am 15 rfl<|Am 25 rfl<|Am 15 rfl<|a_p [0] rfl (Zr Zqi (Zdw _ h2) rfl rfl (.cons u_0 .nil))<|Am 25 rfl<|a_p [0] rfl (Zr Zqi (Zdw _ h4) rfl rfl (.cons u_0 .nil))<|a_p [20,0] rfl (Zcf rfl rfl u_0 u_1 rfl)<|a_p [0] rfl (Zcf rfl rfl u_0 c_i rfl)<|a_p [90,80,70,60,0] rfl (Zye rfl rfl u_0 u_1 u_2 u_3 u_4)<|a_p [0] rfl (Zbq rfl rfl u_0)<|a_p [0] rfl (Zd rfl rfl (Opd.imp u_0 (fun _ _ h=>Z0k h)))<|a_n) (fun a g hst hb=>?_)
 refine wp_ret ?_
 obtain rfl:=Option.some.inj H0
 exact Z8 rfl hst hb (Zi (s:=8)) (hst.at 0 rfl)
theorem Zn8 (a0:shelf_nodeT) (a1:shelf_nodeT) {r:Bool} (h:Zjw a0 a1=some r):FnOk Tryz.prog 97 [(Zbe.pd a0),(Zbe.pd a1)] (Zbm r):=by
 have H0:=h
 unfold Zjw at H0
 clear h
 refine Zb4 (N:=13) Tryz.func97 rfl rfl (Qe rfl) rfl rfl (fun a g0 hst hb=>?_)
 refine r_a [5,15] (L:=[(0,_),(1,_)]) hst hb Za
  (a_p [] rfl (Zd rfl rfl c_b)<|a_n) (fun a g hst hb=>?_)
 obtain ⟨r1,h2,H0⟩:=Zc H0;obtain ⟨r3,h4,H0⟩:=Zc H0
 refine r_a [80] (L:=[(0,_),(1,_)]) hst hb Za
  (Am 5 rfl<|a_p [0] rfl (Zr Zqi (Zdw _ h2) rfl rfl (.cons u_0 .nil))<|a_p [0] rfl (Zcf rfl rfl u_0 c_i rfl)<|Am 15 rfl<|a_p [0] rfl (Zr Zqi (Zdw _ h4) rfl rfl (.cons u_0 .nil))<|a_p [0] rfl (Zcf rfl rfl u_0 c_i rfl)<|a_p [0] rfl (Z3k rfl rfl c_i u_0 rfl)<|a_p [40,0] rfl (Zcu rfl rfl u_0 u_1)<|Aa 0 rfl<|a_n) (fun a g hst hb=>?_)
 refine wp_ret ?_
 obtain rfl:=Option.some.inj H0
 exact Z8 rfl hst hb (Zi (s:=4)) (hst.at 0 rfl)
theorem Zmp (a0:ByteArray) (a1:Zb) (a2:shelf_nodeT) (a3:shelf_nodeT) {r:shelf_nodeT} (h:Zjp a0 a1 a2 a3=some r):FnOk Tryz.prog 70 [(pStr a0),(Zf.pd a1),(Zbe.pd a2),(Zbe.pd a3)] (Zbe.pd r):=by
 have H0:=h
 unfold Zjp at H0
 clear h
 refine Zb4 (N:=182) Tryz.func70 rfl rfl (Qe rfl) rfl rfl (fun a g0 hst hb=>?_)
 refine r_a [5,25,35,0] (L:=[(0,_),(1,_),(2,_),(3,_)]) hst hb Za
  (a_p [15] rfl (Zbq rfl rfl u_0)<|a_p (outs:=[(8,(Zbe.pd shelf_nodeT.nil))]) (S:=[]) [] rfl (Zd rfl rfl (Opd.c (fun g=>Ze5 g)))<|a_n) (fun a g hst hb=>?_)
 refine wp_seq ?_
 refine wp_block ?_
 obtain ⟨r1,h2,H0⟩:=Zc H0;obtain ⟨n3,h4,H0⟩:=Zc H0;obtain ⟨r5,h6,H0⟩:=Zc H0;obtain ⟨n7,h8,H0⟩:=Zc H0;obtain ⟨r9,h10,H0⟩:=Zc H0
 refine r_a [5,15,25,35,190] (L:=[(0,_),(2,_),(3,_),(5,_)]) hst hb Za
  (Am 25 rfl<|Am 15 rfl<|a_p [10,0] rfl (Zr Z3e (Zn8 _ _ h2) rfl rfl (.cons u_0 (.cons u_1 .nil)))<|Am 0 rfl<|a_g [0,25] (Qg_t rfl (fun hG=>Z6 rfl rfl u_0))<|a_g [10,0] (Qg_t rfl (fun hG=>Zm rfl rfl (Opd.imp (Opd.gd hG u_0) (fun _ _ h=>Zw (Zcb h4 hG) h)) (fun _ _ ⟨_,_,_,e,_⟩=>⟨_,e⟩)))<|a_g [20,0] (Qg_t rfl (fun hG=>Zl Zex rfl rfl (Opd.gd hG u_0)))<|a_g [30,0] (Qg_t rfl (fun hG=>Z2 Zdj rfl rfl (Opd.gd hG u_0)))<|a_g [40,0] (Qg_t rfl (fun hG=>Zr Zqi (Zdw _ (Zcb h6 hG)) rfl rfl (.cons (Opd.gd hG u_0) .nil)))<|a_g [50,0] (Qg_t rfl (fun hG=>Zcf rfl rfl (Opd.gd hG u_0) c_i rfl))<|a_g [60,25] (Qg_t rfl (fun hG=>Z6 rfl rfl u_0))<|a_g [70,0] (Qg_t rfl (fun hG=>Zm rfl rfl (Opd.imp (Opd.gd hG u_0) (fun _ _ h=>Zw (Zcb h8 hG) h)) (fun _ _ ⟨_,_,_,e,_⟩=>⟨_,e⟩)))<|a_g [80,0] (Qg_t rfl (fun hG=>Zl Zfo rfl rfl (Opd.gd hG u_0)))<|a_g [90,0] (Qg_t rfl (fun hG=>Z2 Zdj rfl rfl (Opd.gd hG u_0)))<|a_g [100,0] (Qg_t rfl (fun hG=>Zr Zqi (Zdw _ (Zcb h10 hG)) rfl rfl (.cons (Opd.gd hG u_0) .nil)))<|a_g [110,0] (Qg_t rfl (fun hG=>Zcf rfl rfl (Opd.gd hG u_0) c_i rfl))<|a_g [120,0] (Qg_t rfl (fun hG=>Z3k rfl rfl c_i (Opd.gd hG u_0) rfl))<|a_g [130,70,0] (Qg_t rfl (fun hG=>Zcv rfl rfl (Opd.gd hG u_0) (Opd.gd hG u_1)))<|a_p [140,0] rfl (Zb5 rfl rfl u_0 (fun hz=>(Opd.gd hz u_1)))<|Aa 0 rfl<|a_n) (fun a g hst hb=>?_)
 refine wp_cond_split (hst.bool 4 rfl) (fun hc11=>?_) (fun hc11=>?_)
 ·replace H0:=Z1 hc11 H0
  obtain ⟨n12,h13,H0⟩:=Zc H0;obtain ⟨r14,h15,H0⟩:=Zc H0;obtain ⟨r16,h17,H0⟩:=Zc H0
  refine r_a [210] (L:=[(0,_),(2,_),(3,_),(5,_)]) (hst.pick [0,1,2,3] rfl) hb Za
   (Am 25 rfl<|a_p [0] rfl (Zm rfl rfl (Opd.imp u_0 (fun _ _ h=>Zw h13 h)) (fun _ _ ⟨_,_,_,e,_⟩=>⟨_,e⟩))<|Af Zfh 0 rfl<|Al ty_9 0 rfl<|Am 25 rfl<|a_p [0] rfl (Zm rfl rfl (Opd.imp u_0 (fun _ _ h=>Zw h13 h)) (fun _ _ ⟨_,_,_,e,_⟩=>⟨_,e⟩))<|Af Zim 0 rfl<|Al Zbr 0 rfl<|Am 5 rfl<|Al Zbr 35 rfl<|Am 15 rfl<|Am 25 rfl<|a_p [0] rfl (Zm rfl rfl (Opd.imp u_0 (fun _ _ h=>Zw h13 h)) (fun _ _ ⟨_,_,_,e,_⟩=>⟨_,e⟩))<|Af Zex 0 rfl<|Al Zdj 0 rfl<|a_p [60,50,40,0] rfl (Zr Zoa (Zel _ _ _ _ h15) rfl rfl (.cons u_0 (.cons u_1 (.cons u_2 (.cons u_3 .nil)))))<|Am 25 rfl<|a_p [0] rfl (Zm rfl rfl (Opd.imp u_0 (fun _ _ h=>Zw h13 h)) (fun _ _ ⟨_,_,_,e,_⟩=>⟨_,e⟩))<|Af Zfo 0 rfl<|Al Zdj 0 rfl<|a_p [160,120,40,0] rfl (Zr Zoa (Zel _ _ _ _ h17) rfl rfl (.cons u_0 (.cons u_1 (.cons u_2 (.cons u_3 .nil)))))<|Aa 0 rfl<|a_n) (fun a g hst hb=>?_)
  refine wp_ret ?_
  refine Z5 ?_
  refine Zt ?_
  obtain rfl:=Option.some.inj H0
  exact Z8 rfl hst hb (Zi (s:=8)) (hst.at 0 rfl)
 ·replace H0:=Z0 hc11 H0
  obtain ⟨r18,h19,H0⟩:=Zc H0
  refine r_a [5,15,25,35,30] (L:=[(0,_),(2,_),(3,_),(5,_)]) (hst.pick [0,1,2,3] rfl) hb Za
   (Am 25 rfl<|Am 15 rfl<|a_p [10,0] rfl (Zr Z3e (Zn8 _ _ h19) rfl rfl (.cons u_0 (.cons u_1 .nil)))<|Aa 0 rfl<|a_n) (fun a g hst hb=>?_)
  refine wp_cond_split (hst.bool 4 rfl) (fun hc20=>?_) (fun hc20=>?_)
  ·replace H0:=Z1 hc20 H0
   obtain ⟨n21,h22,H0⟩:=Zc H0
   refine r_a [5,15,25,35,40] (L:=[(0,_),(2,_),(3,_),(5,_)]) (hst.pick [0,1,2,3] rfl) hb Za
    (Am 25 rfl<|a_p [0] rfl (Zm rfl rfl (Opd.imp u_0 (fun _ _ h=>Zw h22 h)) (fun _ _ ⟨_,_,_,e,_⟩=>⟨_,e⟩))<|Af Zex 0 rfl<|Al Zdj 0 rfl<|Aa 0 rfl<|a_n) (fun a g hst hb=>?_)
   obtain ⟨n23,h24,H0⟩:=Zc H0;obtain ⟨r25,h26,H0⟩:=Zc H0;obtain ⟨r27,h28,H0⟩:=Zc H0;obtain ⟨r29,h30,H0⟩:=Zc H0
   refine r_a [340] (L:=[(0,_),(2,_),(3,_),(5,_),(9,_)]) hst hb Za
    (Am 45 rfl<|a_p [0] rfl (Zm rfl rfl (Opd.imp u_0 (fun _ _ h=>Zw h24 h)) (fun _ _ ⟨_,_,_,e,_⟩=>⟨_,e⟩))<|Af Zfh 0 rfl<|Al ty_9 0 rfl<|Am 45 rfl<|a_p [0] rfl (Zm rfl rfl (Opd.imp u_0 (fun _ _ h=>Zw h24 h)) (fun _ _ ⟨_,_,_,e,_⟩=>⟨_,e⟩))<|Af Zim 0 rfl<|Al Zbr 0 rfl<|Am 5 rfl<|Al Zbr 35 rfl<|Am 15 rfl<|Am 45 rfl<|a_p [0] rfl (Zm rfl rfl (Opd.imp u_0 (fun _ _ h=>Zw h24 h)) (fun _ _ ⟨_,_,_,e,_⟩=>⟨_,e⟩))<|Af Zex 0 rfl<|Al Zdj 0 rfl<|a_p [60,50,40,0] rfl (Zr Zoa (Zel _ _ _ _ h26) rfl rfl (.cons u_0 (.cons u_1 (.cons u_2 (.cons u_3 .nil)))))<|Am 25 rfl<|a_p [0] rfl (Zm rfl rfl (Opd.imp u_0 (fun _ _ h=>Zw h22 h)) (fun _ _ ⟨_,_,_,e,_⟩=>⟨_,e⟩))<|Af Zfh 0 rfl<|Al ty_9 0 rfl<|Am 25 rfl<|a_p [0] rfl (Zm rfl rfl (Opd.imp u_0 (fun _ _ h=>Zw h22 h)) (fun _ _ ⟨_,_,_,e,_⟩=>⟨_,e⟩))<|Af Zim 0 rfl<|Al Zbr 0 rfl<|Am 45 rfl<|a_p [0] rfl (Zm rfl rfl (Opd.imp u_0 (fun _ _ h=>Zw h24 h)) (fun _ _ ⟨_,_,_,e,_⟩=>⟨_,e⟩))<|Af Zfo 0 rfl<|Al Zdj 0 rfl<|Am 25 rfl<|a_p [0] rfl (Zm rfl rfl (Opd.imp u_0 (fun _ _ h=>Zw h22 h)) (fun _ _ ⟨_,_,_,e,_⟩=>⟨_,e⟩))<|Af Zfo 0 rfl<|Al Zdj 0 rfl<|a_p [120,80,40,0] rfl (Zr Zoa (Zel _ _ _ _ h28) rfl rfl (.cons u_0 (.cons u_1 (.cons u_2 (.cons u_3 .nil)))))<|a_p [290,250,170,0] rfl (Zr Zoa (Zel _ _ _ _ h30) rfl rfl (.cons u_0 (.cons u_1 (.cons u_2 (.cons u_3 .nil)))))<|Aa 0 rfl<|a_n) (fun a g hst hb=>?_)
   refine wp_ret ?_
   refine Z5 ?_
   refine Zt ?_
   obtain rfl:=Option.some.inj H0
   exact Z8 rfl hst hb (Zi (s:=8)) (hst.at 0 rfl)
  ·replace H0:=Z0 hc20 H0
   obtain ⟨r31,h32,H0⟩:=Zc H0;obtain ⟨n33,h34,H0⟩:=Zc H0;obtain ⟨r35,h36,H0⟩:=Zc H0;obtain ⟨n37,h38,H0⟩:=Zc H0;obtain ⟨r39,h40,H0⟩:=Zc H0
   refine r_a [5,15,25,35,190] (L:=[(0,_),(2,_),(3,_),(5,_)]) (hst.pick [0,1,2,3] rfl) hb Za
    (Am 15 rfl<|Am 25 rfl<|a_p [10,0] rfl (Zr Z3e (Zn8 _ _ h32) rfl rfl (.cons u_0 (.cons u_1 .nil)))<|Am 0 rfl<|a_g [0,15] (Qg_t rfl (fun hG=>Z6 rfl rfl u_0))<|a_g [10,0] (Qg_t rfl (fun hG=>Zm rfl rfl (Opd.imp (Opd.gd hG u_0) (fun _ _ h=>Zw (Zcb h34 hG) h)) (fun _ _ ⟨_,_,_,e,_⟩=>⟨_,e⟩)))<|a_g [20,0] (Qg_t rfl (fun hG=>Zl Zfo rfl rfl (Opd.gd hG u_0)))<|a_g [30,0] (Qg_t rfl (fun hG=>Z2 Zdj rfl rfl (Opd.gd hG u_0)))<|a_g [40,0] (Qg_t rfl (fun hG=>Zr Zqi (Zdw _ (Zcb h36 hG)) rfl rfl (.cons (Opd.gd hG u_0) .nil)))<|a_g [50,0] (Qg_t rfl (fun hG=>Zcf rfl rfl (Opd.gd hG u_0) c_i rfl))<|a_g [60,15] (Qg_t rfl (fun hG=>Z6 rfl rfl u_0))<|a_g [70,0] (Qg_t rfl (fun hG=>Zm rfl rfl (Opd.imp (Opd.gd hG u_0) (fun _ _ h=>Zw (Zcb h38 hG) h)) (fun _ _ ⟨_,_,_,e,_⟩=>⟨_,e⟩)))<|a_g [80,0] (Qg_t rfl (fun hG=>Zl Zex rfl rfl (Opd.gd hG u_0)))<|a_g [90,0] (Qg_t rfl (fun hG=>Z2 Zdj rfl rfl (Opd.gd hG u_0)))<|a_g [100,0] (Qg_t rfl (fun hG=>Zr Zqi (Zdw _ (Zcb h40 hG)) rfl rfl (.cons (Opd.gd hG u_0) .nil)))<|a_g [110,0] (Qg_t rfl (fun hG=>Zcf rfl rfl (Opd.gd hG u_0) c_i rfl))<|a_g [120,0] (Qg_t rfl (fun hG=>Z3k rfl rfl c_i (Opd.gd hG u_0) rfl))<|a_g [130,70,0] (Qg_t rfl (fun hG=>Zcv rfl rfl (Opd.gd hG u_0) (Opd.gd hG u_1)))<|a_p [140,0] rfl (Zb5 rfl rfl u_0 (fun hz=>(Opd.gd hz u_1)))<|Aa 0 rfl<|a_n) (fun a g hst hb=>?_)
   refine wp_cond_split (hst.bool 4 rfl) (fun hc41=>?_) (fun hc41=>?_)
   ·replace H0:=Z1 hc41 H0
    obtain ⟨n42,h43,H0⟩:=Zc H0;obtain ⟨r44,h45,H0⟩:=Zc H0;obtain ⟨r46,h47,H0⟩:=Zc H0
    refine r_a [210] (L:=[(0,_),(2,_),(3,_),(5,_)]) (hst.pick [0,1,2,3] rfl) hb Za
     (Am 15 rfl<|a_p [0] rfl (Zm rfl rfl (Opd.imp u_0 (fun _ _ h=>Zw h43 h)) (fun _ _ ⟨_,_,_,e,_⟩=>⟨_,e⟩))<|Af Zfh 0 rfl<|Al ty_9 0 rfl<|Am 15 rfl<|a_p [0] rfl (Zm rfl rfl (Opd.imp u_0 (fun _ _ h=>Zw h43 h)) (fun _ _ ⟨_,_,_,e,_⟩=>⟨_,e⟩))<|Af Zim 0 rfl<|Al Zbr 0 rfl<|Am 15 rfl<|a_p [0] rfl (Zm rfl rfl (Opd.imp u_0 (fun _ _ h=>Zw h43 h)) (fun _ _ ⟨_,_,_,e,_⟩=>⟨_,e⟩))<|Af Zex 0 rfl<|Al Zdj 0 rfl<|Am 5 rfl<|Al Zbr 35 rfl<|Am 15 rfl<|a_p [0] rfl (Zm rfl rfl (Opd.imp u_0 (fun _ _ h=>Zw h43 h)) (fun _ _ ⟨_,_,_,e,_⟩=>⟨_,e⟩))<|Af Zfo 0 rfl<|Al Zdj 0 rfl<|Am 25 rfl<|a_p [60,50,10,0] rfl (Zr Zoa (Zel _ _ _ _ h45) rfl rfl (.cons u_0 (.cons u_1 (.cons u_2 (.cons u_3 .nil)))))<|a_p [160,120,80,0] rfl (Zr Zoa (Zel _ _ _ _ h47) rfl rfl (.cons u_0 (.cons u_1 (.cons u_2 (.cons u_3 .nil)))))<|Aa 0 rfl<|a_n) (fun a g hst hb=>?_)
    refine wp_ret ?_
    refine Z5 ?_
    refine Zt ?_
    obtain rfl:=Option.some.inj H0
    exact Z8 rfl hst hb (Zi (s:=8)) (hst.at 0 rfl)
   ·replace H0:=Z0 hc41 H0
    obtain ⟨r48,h49,H0⟩:=Zc H0
    refine r_a [5,15,25,35,30] (L:=[(0,_),(2,_),(3,_),(5,_)]) (hst.pick [0,1,2,3] rfl) hb Za
     (Am 15 rfl<|Am 25 rfl<|a_p [10,0] rfl (Zr Z3e (Zn8 _ _ h49) rfl rfl (.cons u_0 (.cons u_1 .nil)))<|Aa 0 rfl<|a_n) (fun a g hst hb=>?_)
    refine wp_cond_split (hst.bool 4 rfl) (fun hc50=>?_) (fun hc50=>?_)
    ·replace H0:=Z1 hc50 H0
     obtain ⟨n51,h52,H0⟩:=Zc H0
     refine r_a [5,15,25,35,40] (L:=[(0,_),(2,_),(3,_),(5,_)]) (hst.pick [0,1,2,3] rfl) hb Za
      (Am 15 rfl<|a_p [0] rfl (Zm rfl rfl (Opd.imp u_0 (fun _ _ h=>Zw h52 h)) (fun _ _ ⟨_,_,_,e,_⟩=>⟨_,e⟩))<|Af Zfo 0 rfl<|Al Zdj 0 rfl<|Aa 0 rfl<|a_n) (fun a g hst hb=>?_)
     obtain ⟨n53,h54,H0⟩:=Zc H0;obtain ⟨r55,h56,H0⟩:=Zc H0;obtain ⟨r57,h58,H0⟩:=Zc H0;obtain ⟨r59,h60,H0⟩:=Zc H0
     refine r_a [340] (L:=[(0,_),(2,_),(3,_),(5,_),(10,_)]) hst hb Za
      (Am 45 rfl<|a_p [0] rfl (Zm rfl rfl (Opd.imp u_0 (fun _ _ h=>Zw h54 h)) (fun _ _ ⟨_,_,_,e,_⟩=>⟨_,e⟩))<|Af Zfh 0 rfl<|Al ty_9 0 rfl<|Am 45 rfl<|a_p [0] rfl (Zm rfl rfl (Opd.imp u_0 (fun _ _ h=>Zw h54 h)) (fun _ _ ⟨_,_,_,e,_⟩=>⟨_,e⟩))<|Af Zim 0 rfl<|Al Zbr 0 rfl<|Am 15 rfl<|a_p [0] rfl (Zm rfl rfl (Opd.imp u_0 (fun _ _ h=>Zw h52 h)) (fun _ _ ⟨_,_,_,e,_⟩=>⟨_,e⟩))<|Af Zfh 0 rfl<|Al ty_9 0 rfl<|Am 15 rfl<|a_p [0] rfl (Zm rfl rfl (Opd.imp u_0 (fun _ _ h=>Zw h52 h)) (fun _ _ ⟨_,_,_,e,_⟩=>⟨_,e⟩))<|Af Zim 0 rfl<|Al Zbr 0 rfl<|Am 15 rfl<|a_p [0] rfl (Zm rfl rfl (Opd.imp u_0 (fun _ _ h=>Zw h52 h)) (fun _ _ ⟨_,_,_,e,_⟩=>⟨_,e⟩))<|Af Zex 0 rfl<|Al Zdj 0 rfl<|Am 45 rfl<|a_p [0] rfl (Zm rfl rfl (Opd.imp u_0 (fun _ _ h=>Zw h54 h)) (fun _ _ ⟨_,_,_,e,_⟩=>⟨_,e⟩))<|Af Zex 0 rfl<|Al Zdj 0 rfl<|a_p [120,80,40,0] rfl (Zr Zoa (Zel _ _ _ _ h56) rfl rfl (.cons u_0 (.cons u_1 (.cons u_2 (.cons u_3 .nil)))))<|Am 5 rfl<|Al Zbr 35 rfl<|Am 45 rfl<|a_p [0] rfl (Zm rfl rfl (Opd.imp u_0 (fun _ _ h=>Zw h54 h)) (fun _ _ ⟨_,_,_,e,_⟩=>⟨_,e⟩))<|Af Zfo 0 rfl<|Al Zdj 0 rfl<|Am 25 rfl<|a_p [60,50,10,0] rfl (Zr Zoa (Zel _ _ _ _ h58) rfl rfl (.cons u_0 (.cons u_1 (.cons u_2 (.cons u_3 .nil)))))<|a_p [290,250,80,0] rfl (Zr Zoa (Zel _ _ _ _ h60) rfl rfl (.cons u_0 (.cons u_1 (.cons u_2 (.cons u_3 .nil)))))<|Aa 0 rfl<|a_n) (fun a g hst hb=>?_)
     refine wp_ret ?_
     refine Z5 ?_
     refine Zt ?_
     obtain rfl:=Option.some.inj H0
     exact Z8 rfl hst hb (Zi (s:=8)) (hst.at 0 rfl)
    ·replace H0:=Z0 hc50 H0
     refine wp_skip ?_
     refine Zbn ?_
     refine Zo ?_
     obtain ⟨r61,h62,H0⟩:=Zc H0
     refine r_a [50] (L:=[(0,_),(2,_),(3,_),(5,_)]) (hst.pick [0,1,2,3] rfl) hb Za
      (Am 5 rfl<|Al Zbr 35 rfl<|Am 15 rfl<|Am 25 rfl<|a_p [30,20,10,0] rfl (Zr Zoa (Zel _ _ _ _ h62) rfl rfl (.cons u_0 (.cons u_1 (.cons u_2 (.cons u_3 .nil)))))<|Aa 0 rfl<|a_n) (fun a g hst hb=>?_)
     refine wp_ret ?_
     obtain rfl:=Option.some.inj H0
     exact Z8 rfl hst hb (Zi (s:=8)) (hst.at 0 rfl)
theorem Zur (self:shelf_nodeT → ByteArray → Zb → Option (shelf_nodeT)) (hself:∀ (a0:shelf_nodeT) (a1:ByteArray) (a2:Zb) {r:shelf_nodeT},self a0 a1 a2=some r → FnOk Tryz.prog 42 [(Zbe.pd a0),(pStr a1),(Zf.pd a2)] (Zbe.pd r)) (a0:shelf_nodeT) (a1:ByteArray) (a2:Zb) {r:shelf_nodeT} (h:Zkj self a0 a1 a2=some r):FnOk Tryz.prog 42 [(Zbe.pd a0),(pStr a1),(Zf.pd a2)] (Zbe.pd r):=by
 have H0:=h
 unfold Zkj at H0
 clear h
 refine Zb4 (N:=78) Tryz.func42 rfl rfl (Qe rfl) rfl rfl (fun a g0 hst hb=>?_)
 refine r_a [5,15,0] (L:=[(0,_),(1,_),(2,_)]) hst hb Za
  (a_p [25] rfl (Zbq rfl rfl u_0)<|a_p (outs:=[(6,(Zbe.pd shelf_nodeT.nil))]) (S:=[]) [] rfl (Zd rfl rfl (Opd.c (fun g=>Ze5 g)))<|a_n) (fun a g hst hb=>?_)
 refine wp_seq ?_
 refine wp_block ?_
 refine r_a [5,15,25,20] (L:=[(0,_),(1,_),(5,_)]) hst hb Za
  (Am 5 rfl<|a_p [0] rfl (Zsy Tryz.underlying31 rfl rfl u_0 (Zfy _))<|Aa 0 rfl<|a_n) (fun a g hst hb=>?_)
 refine wp_cond_split (hst.bool 3 rfl) (fun hc1=>?_) (fun hc1=>?_)
 ·replace H0:=Z1 hc1 H0
  obtain ⟨r2,h3,H0⟩:=Zc H0
  refine r_a [30] (L:=[(1,_),(5,_)]) (hst.pick [1,2] rfl) hb Za
   (Am 5 rfl<|Al Zbr 15 rfl<|a_p (outs:=[(12,(Zbe.pd r2))]) (S:=[]) [10,0] rfl (Zr Zoa (Zel _ _ _ _ h3) rfl rfl (.cons u_0 (.cons u_1 (.cons (Opd.c (fun g=>Ze5 g)) (.cons (Opd.c (fun g=>Ze5 g)) .nil)))))<|Aa 0 rfl<|a_n) (fun a g hst hb=>?_)
  refine wp_ret ?_
  refine Z5 ?_
  refine Zt ?_
  obtain rfl:=Option.some.inj H0
  exact Z8 rfl hst hb (Zi (s:=6)) (hst.at 0 rfl)
 ·replace H0:=Z0 hc1 H0
  obtain ⟨n4,h5,H0⟩:=Zc H0
  refine r_a [5,15,25,60] (L:=[(0,_),(1,_),(5,_)]) (hst.pick [0,1,2] rfl) hb Za
   (Am 15 rfl<|Am 5 rfl<|a_p [0] rfl (Zm rfl rfl (Opd.imp u_0 (fun _ _ h=>Zw h5 h)) (fun _ _ ⟨_,_,_,e,_⟩=>⟨_,e⟩))<|Af Zfh 0 rfl<|Al ty_9 0 rfl<|a_p [40,0] rfl (Zqz rfl rfl u_0 u_1)<|Aa 0 rfl<|a_n) (fun a g hst hb=>?_)
  refine wp_cond_split (hst.bool 3 rfl) (fun hc6=>?_) (fun hc6=>?_)
  ·replace H0:=Z1 hc6 H0
   obtain ⟨r7,h8,H0⟩:=Zc H0;obtain ⟨r9,h10,H0⟩:=Zc H0
   refine r_a [200] (L:=[(0,_),(1,_),(5,_)]) (hst.pick [0,1,2] rfl) hb Za
    (Am 5 rfl<|a_p [0] rfl (Zm rfl rfl (Opd.imp u_0 (fun _ _ h=>Zw h5 h)) (fun _ _ ⟨_,_,_,e,_⟩=>⟨_,e⟩))<|Af Zfh 0 rfl<|Al ty_9 0 rfl<|Am 5 rfl<|a_p [0] rfl (Zm rfl rfl (Opd.imp u_0 (fun _ _ h=>Zw h5 h)) (fun _ _ ⟨_,_,_,e,_⟩=>⟨_,e⟩))<|Af Zim 0 rfl<|Al Zbr 0 rfl<|Am 5 rfl<|a_p [0] rfl (Zm rfl rfl (Opd.imp u_0 (fun _ _ h=>Zw h5 h)) (fun _ _ ⟨_,_,_,e,_⟩=>⟨_,e⟩))<|Af Zex 0 rfl<|Al Zdj 0 rfl<|Am 15 rfl<|Al Zbr 25 rfl<|a_p [20,10,0] rfl (Zr Z8k (hself _ _ _ h8) rfl rfl (.cons u_0 (.cons u_1 (.cons u_2 .nil))))<|Am 5 rfl<|a_p [0] rfl (Zm rfl rfl (Opd.imp u_0 (fun _ _ h=>Zw h5 h)) (fun _ _ ⟨_,_,_,e,_⟩=>⟨_,e⟩))<|Af Zfo 0 rfl<|Al Zdj 0 rfl<|a_p [150,110,40,0] rfl (Zr Zy6 (Zmp _ _ _ _ h10) rfl rfl (.cons u_0 (.cons u_1 (.cons u_2 (.cons u_3 .nil)))))<|Aa 0 rfl<|a_n) (fun a g hst hb=>?_)
   refine wp_ret ?_
   refine Z5 ?_
   refine Zt ?_
   obtain rfl:=Option.some.inj H0
   exact Z8 rfl hst hb (Zi (s:=6)) (hst.at 0 rfl)
  ·replace H0:=Z0 hc6 H0
   refine r_a [5,15,25,60] (L:=[(0,_),(1,_),(5,_)]) (hst.pick [0,1,2] rfl) hb Za
    (Am 15 rfl<|Am 5 rfl<|a_p [0] rfl (Zm rfl rfl (Opd.imp u_0 (fun _ _ h=>Zw h5 h)) (fun _ _ ⟨_,_,_,e,_⟩=>⟨_,e⟩))<|Af Zfh 0 rfl<|Al ty_9 0 rfl<|a_p [40,0] rfl (Zzr rfl rfl u_0 u_1)<|Aa 0 rfl<|a_n) (fun a g hst hb=>?_)
   refine wp_cond_split (hst.bool 3 rfl) (fun hc11=>?_) (fun hc11=>?_)
   ·replace H0:=Z1 hc11 H0
    obtain ⟨r12,h13,H0⟩:=Zc H0;obtain ⟨r14,h15,H0⟩:=Zc H0
    refine r_a [200] (L:=[(0,_),(1,_),(5,_)]) (hst.pick [0,1,2] rfl) hb Za
     (Am 5 rfl<|a_p [0] rfl (Zm rfl rfl (Opd.imp u_0 (fun _ _ h=>Zw h5 h)) (fun _ _ ⟨_,_,_,e,_⟩=>⟨_,e⟩))<|Af Zfh 0 rfl<|Al ty_9 0 rfl<|Am 5 rfl<|a_p [0] rfl (Zm rfl rfl (Opd.imp u_0 (fun _ _ h=>Zw h5 h)) (fun _ _ ⟨_,_,_,e,_⟩=>⟨_,e⟩))<|Af Zim 0 rfl<|Al Zbr 0 rfl<|Am 5 rfl<|a_p [0] rfl (Zm rfl rfl (Opd.imp u_0 (fun _ _ h=>Zw h5 h)) (fun _ _ ⟨_,_,_,e,_⟩=>⟨_,e⟩))<|Af Zex 0 rfl<|Al Zdj 0 rfl<|Am 5 rfl<|a_p [0] rfl (Zm rfl rfl (Opd.imp u_0 (fun _ _ h=>Zw h5 h)) (fun _ _ ⟨_,_,_,e,_⟩=>⟨_,e⟩))<|Af Zfo 0 rfl<|Al Zdj 0 rfl<|Am 15 rfl<|Al Zbr 25 rfl<|a_p [20,10,0] rfl (Zr Z8k (hself _ _ _ h13) rfl rfl (.cons u_0 (.cons u_1 (.cons u_2 .nil))))<|a_p [150,110,70,0] rfl (Zr Zy6 (Zmp _ _ _ _ h15) rfl rfl (.cons u_0 (.cons u_1 (.cons u_2 (.cons u_3 .nil)))))<|Aa 0 rfl<|a_n) (fun a g hst hb=>?_)
    refine wp_ret ?_
    refine Z5 ?_
    refine Zt ?_
    obtain rfl:=Option.some.inj H0
    exact Z8 rfl hst hb (Zi (s:=6)) (hst.at 0 rfl)
   ·replace H0:=Z0 hc11 H0
    refine wp_skip ?_
    refine Zbn ?_
    refine Zo ?_
    obtain ⟨r16,h17,H0⟩:=Zc H0
    refine r_a [110] (L:=[(0,_),(1,_),(5,_)]) (hst.pick [0,1,2] rfl) hb Za
     (Am 15 rfl<|Al Zbr 25 rfl<|Am 5 rfl<|a_p [0] rfl (Zm rfl rfl (Opd.imp u_0 (fun _ _ h=>Zw h5 h)) (fun _ _ ⟨_,_,_,e,_⟩=>⟨_,e⟩))<|Af Zex 0 rfl<|Al Zdj 0 rfl<|Am 5 rfl<|a_p [0] rfl (Zm rfl rfl (Opd.imp u_0 (fun _ _ h=>Zw h5 h)) (fun _ _ ⟨_,_,_,e,_⟩=>⟨_,e⟩))<|Af Zfo 0 rfl<|Al Zdj 0 rfl<|a_p [90,80,40,0] rfl (Zr Zoa (Zel _ _ _ _ h17) rfl rfl (.cons u_0 (.cons u_1 (.cons u_2 (.cons u_3 .nil)))))<|Aa 0 rfl<|a_n) (fun a g hst hb=>?_)
    refine wp_ret ?_
    obtain rfl:=Option.some.inj H0
    exact Z8 rfl hst hb (Zi (s:=6)) (hst.at 0 rfl)
theorem Zp0:∀ (n:Nat) (a0:shelf_nodeT) (a1:ByteArray) (a2:Zb) {r:shelf_nodeT},Zgf n a0 a1 a2=some r → FnOk Tryz.prog 42 [(Zbe.pd a0),(pStr a1),(Zf.pd a2)] (Zbe.pd r)
 | 0,_,_,_,_,h=>by simp [Zgf] at h
 | n + 1,a0,a1,a2,_,h=>Zur (Zgf n) (fun a0 a1 a2 r h=>Zp0 n a0 a1 a2 h) a0 a1 a2 h
theorem Zw4 (a0:shelf_nodeT) (a1:ByteArray) (a2:Zb) {r:shelf_nodeT} (h:Zqf a0 a1 a2=some r):FnOk Tryz.prog 42 [(Zbe.pd a0),(pStr a1),(Zf.pd a2)] (Zbe.pd r):=Zp0 _ a0 a1 a2 h
theorem Zqw (a0:Zp) (a1:ByteArray) (a2:Zb) {r:Zp × Int} (h:Zet a0 a1 a2=some r):FnOk Tryz.prog 18 [(Z4.pd a0),(pStr a1),(Zf.pd a2)] (pTup [(Z4.pd r.1),(pInt .i64 r.2)]):=by
 have H0:=h
 unfold Zet at H0
 clear h
 refine Zb4 (N:=50) Tryz.func18 rfl rfl (Qe rfl) rfl rfl (fun a g0 hst hb=>?_)
 refine r_a [15,0,10,20] (L:=[(0,_),(1,_),(2,_)]) hst hb Za
  (a_p [5] rfl (Zbq rfl rfl u_0)<|a_p [25] rfl (Zbq rfl rfl u_0)<|a_p (outs:=[(6,(pBox Z4 6 (default:Zp)))]) (S:=[7]) [] rfl (Zbl (zs:=[.pointer none,.int .i64 0]) (by kernel_rfl) (fun g=>Zd6 g) rfl rfl)<|a_p [] rfl (Zd rfl rfl c_i)<|a_n) (fun a g hst hb=>?_)
 refine wp_seq ?_
 refine r_a [5,15,25,35,60] (L:=[(1,_),(3,_),(5,_),(6,_)]) hst hb Za
  (Am 5 rfl<|a_p [0] rfl (Zqv rfl rfl u_0 c_s)<|Am 0 rfl<|a_g [0,5] (Qg_f rfl (fun hG=>Z6 rfl rfl u_0))<|a_g [10,0] (Qg_f rfl (fun hG=>Zhf Tryz.underlying9 rfl rfl (Opd.gd hG u_0)))<|a_g [20,0] (Qg_f rfl (fun hG=>Zcu rfl rfl (Opd.gd hG u_0) c_i))<|a_p [30,0] rfl (Zb2 rfl rfl u_0 (fun hz=>(Opd.gd (bNF hz) u_1)))<|a_n) (fun a g hst hb=>?_)
 refine wp_cond_split (hst.bool 4 rfl) (fun hc1=>?_) (fun hc1=>?_)
 ·replace H0:=Z1 hc1 H0
  refine r_a [10,20] (L:=[(3,_),(6,_)]) (hst.pick [1,3] rfl) hb Za
   (Al Zb7 5 rfl<|a_p [0,15] rfl (Zbg Zb7 rfl rfl u_1 u_0)<|a_p [] rfl (Zd rfl rfl c_i)<|a_n) (fun a g hst hb=>?_)
  refine wp_ret ?_
  refine Zt ?_
  obtain rfl:=Option.some.inj H0
  obtain ⟨u0,hu0,hq0⟩:=Zbo (P:=Tryz.prog) Zb7 (hst.at 0 rfl)
  exact Zev rfl hst hb hu0 (Zi (s:=7)) (Zdc hq0 (hst.at 1 rfl))
 ·replace H0:=Z0 hc1 H0
  refine wp_skip ?_
  refine Zo ?_
  refine wp_seq ?_
  obtain ⟨r2,h3,H0⟩:=Zc H0
  refine r_a [5,15,25,35,20] (L:=[(1,_),(3,_),(5,_),(6,_)]) (hst.pick [0,1,2,3] rfl) hb Za
   (Al Zbr 25 rfl<|a_p [0] rfl (Zr Z3d (Zpi _ h3) rfl rfl (.cons u_0 .nil))<|Aa 0 rfl<|a_n) (fun a g hst hb=>?_)
  refine r_a [5,15,25,35,45,10] (L:=[(1,_),(3,_),(5,_),(6,_),(8,_)]) hst hb Za
   (Am 45 rfl<|a_p [0] rfl (Zdd rfl rfl u_0 c_i)<|a_n) (fun a g hst hb=>?_)
  refine wp_cond_split (hst.bool 5 rfl) (fun hc4=>?_) (fun hc4=>?_)
  ·replace H0:=Z1 hc4 H0
   refine r_a [20,30] (L:=[(3,_),(6,_),(8,_)]) (hst.pick [1,3,4] rfl) hb Za
    (Al Zb7 5 rfl<|Am 25 rfl<|a_p [10,15] rfl (Zbg Zb7 rfl rfl u_1 u_0)<|Aa 10 rfl<|a_n) (fun a g hst hb=>?_)
   refine wp_ret ?_
   refine Zt ?_
   obtain rfl:=Option.some.inj H0
   obtain ⟨u0,hu0,hq0⟩:=Zbo (P:=Tryz.prog) Zb7 (hst.at 0 rfl)
   exact Zev rfl hst hb hu0 (Zi (s:=7)) (Zdc hq0 (hst.at 1 rfl))
  ·replace H0:=Z0 hc4 H0
   refine wp_skip ?_
   refine Zo ?_
   refine wp_seq ?_
   obtain ⟨r5,h6,H0⟩:=Zc H0
   refine r_a [5,15,25,35,80] (L:=[(1,_),(3,_),(5,_),(6,_)]) (hst.pick [0,1,2,3] rfl) hb Za
    (Al Zb7 15 rfl<|Am 5 rfl<|a_p [10,0] rfl (Zr Z8d (Zng _ _ h6) rfl rfl (.cons u_0 (.cons u_1 .nil)))<|Am 0 rfl<|a_p [0] rfl (Zba rfl rfl u_0 rfl)<|a_p [10] rfl (Zba rfl rfl u_0 rfl)<|a_p (outs:=[(9,(pBox Zf 9 (default:Zb)))]) (S:=[10]) [] rfl (Zbl (zs:=[.int .i64 0,.int .i64 0,.int .i64 0,.int .i64 0,.float .f64 0,.int .i64 0,.string ByteArray.empty,.slice none 0 0]) (by kernel_rfl) (fun g=>Zc4 g) rfl rfl)<|a_p [20,0] rfl (Zch Zbr rfl rfl u_1 u_0)<|Aa 20 rfl<|a_n) (fun a g hst hb=>?_)
   obtain ⟨r7,h8,H0⟩:=Zc H0
   refine r_a [5,15,25,35,80] (L:=[(1,_),(3,_),(5,_),(6,_),(10,_)]) hst hb Za
    (Am 45 rfl<|a_p [0] rfl (Zc2 rfl rfl u_0)<|Am 0 rfl<|a_g [0,15] (Qg_t rfl (fun hG=>Z2 Zb7 rfl rfl u_0))<|a_g [10,0] (Qg_t rfl (fun hG=>Zr Z3f (Zk5 _ (Zcb h8 hG)) rfl rfl (.cons (Opd.gd hG u_0) .nil)))<|a_g [20,15] (Qg_t rfl (fun hG=>Zl Z01 rfl rfl u_0))<|a_g [30,0] (Qg_t rfl (fun hG=>Z2 ty_3 rfl rfl (Opd.gd hG u_0)))<|a_g [40,20,0] (Qg_t rfl (fun hG=>Zre rfl rfl (Opd.gd hG u_0) (Opd.gd hG u_1)))<|a_p [50,0] rfl (Zb5 rfl rfl u_0 (fun hz=>(Opd.gd hz u_1)))<|a_n) (fun a g hst hb=>?_)
   refine wp_cond_split (hst.bool 4 rfl) (fun hc9=>?_) (fun hc9=>?_)
   ·replace H0:=Z1 hc9 H0
    refine r_a [10,20] (L:=[(3,_),(6,_)]) (hst.pick [1,3] rfl) hb Za
     (Al Zb7 5 rfl<|a_p [0,15] rfl (Zbg Zb7 rfl rfl u_1 u_0)<|a_p [] rfl (Zd rfl rfl c_i)<|a_n) (fun a g hst hb=>?_)
    refine wp_ret ?_
    refine Zt ?_
    obtain rfl:=Option.some.inj H0
    obtain ⟨u0,hu0,hq0⟩:=Zbo (P:=Tryz.prog) Zb7 (hst.at 0 rfl)
    exact Zev rfl hst hb hu0 (Zi (s:=7)) (Zdc hq0 (hst.at 1 rfl))
   ·replace H0:=Z0 hc9 H0
    refine wp_skip ?_
    refine Zo ?_
    obtain ⟨r10,h11,H0⟩:=Zc H0;obtain ⟨r12,h13,H0⟩:=Zc H0
    refine r_a [90,100] (L:=[(1,_),(3,_),(5,_),(6,_)]) (hst.pick [0,1,2,3] rfl) hb Za
     (Af Zsz 15 rfl<|Al Zdj 0 rfl<|Am 5 rfl<|Al Zbr 25 rfl<|a_p [0] rfl (Zr Zrd (Zhv _ h11) rfl rfl (.cons u_0 .nil))<|a_p [30,20,0] rfl (Zr Z8k (Zw4 _ _ _ h13) rfl rfl (.cons u_0 (.cons u_1 (.cons u_2 .nil))))<|Af Z01 15 rfl<|Al ty_3 0 rfl<|a_p [20,0] rfl (Z1b rfl rfl u_0 u_1)<|a_p [0,35] rfl (Zbg Zb7 rfl rfl u_1 u_0)<|a_p [] rfl (Zd rfl rfl c_i)<|a_n) (fun a g hst hb=>?_)
    refine wp_ret ?_
    obtain rfl:=Option.some.inj H0
    obtain ⟨u0,hu0,hq0⟩:=Zbo (P:=Tryz.prog) Zb7 (hst.at 0 rfl)
    exact Zev rfl hst hb hu0 (Zi (s:=7)) (Zdc hq0 (hst.at 1 rfl))
theorem Zm7 (a0:Nat) {r:Bool} (h:Zgh a0=some r):FnOk Tryz.prog 99 [(pFlt a0)] (Zbm r):=by
 have H0:=h
 unfold Zgh at H0
 clear h
 refine Zb4 (N:=6) Tryz.func99 rfl rfl (Qe rfl) rfl rfl (fun a g0 hst hb=>?_)
 refine r_a [5] (L:=[(0,_)]) hst hb Za
  (a_p [] rfl (Zd rfl rfl c_b)<|a_n) (fun a g hst hb=>?_)
 refine r_a [30] (L:=[(0,_)]) hst hb Za
  (Am 5 rfl<|Am 5 rfl<|a_p [10,0] rfl (Z7u rfl rfl u_0 u_1)<|Aa 0 rfl<|a_n) (fun a g hst hb=>?_)
 refine wp_ret ?_
 obtain rfl:=Option.some.inj H0
 exact Z8 rfl hst hb (Zi (s:=2)) (hst.at 0 rfl)
theorem Zpg (a0:Nat) {r:Bool} (h:Zhy a0=some r):FnOk Tryz.prog 110 [(pFlt a0)] (Zbm r):=by
 have H0:=h
 unfold Zhy at H0
 clear h
 refine Zb4 (N:=10) Tryz.func110 rfl rfl (Qe rfl) rfl rfl (fun a g0 hst hb=>?_)
 refine r_a [5] (L:=[(0,_)]) hst hb Za
  (a_p [] rfl (Zd rfl rfl c_b)<|a_n) (fun a g hst hb=>?_)
 refine wp_seq ?_
 refine r_a [5,10] (L:=[(0,_)]) hst hb Za
  (Am 5 rfl<|a_p [0] rfl (Z0a rfl rfl u_0 c_f)<|a_n) (fun a g hst hb=>?_)
 refine wp_cond_split (hst.bool 1 rfl) (fun hc1=>?_) (fun hc1=>?_)
 ·replace H0:=Z1 hc1 H0
  obtain ⟨f2,h3,H0⟩:=Zc H0
  refine r_a [30] (L:=[(0,_)]) (hst.pick [0] rfl) hb Za
   (Am 5 rfl<|a_p [0] rfl (Zbf3 rfl rfl c_f u_0 h3)<|a_p [0] rfl (Z0t rfl rfl u_0 c_f)<|Aa 0 rfl<|a_n) (fun a g hst hb=>?_)
  refine wp_ret ?_
  refine Zt ?_
  obtain rfl:=Option.some.inj H0
  exact Z8 rfl hst hb (Zi (s:=2)) (hst.at 0 rfl)
 ·replace H0:=Z0 hc1 H0
  refine wp_skip ?_
  refine Zo ?_
  refine r_a [20] (L:=[(0,_)]) (hst.pick [0] rfl) hb Za
   (Am 5 rfl<|a_p [0] rfl (Z0t rfl rfl u_0 c_f)<|Aa 0 rfl<|a_n) (fun a g hst hb=>?_)
  refine wp_ret ?_
  obtain rfl:=Option.some.inj H0
  exact Z8 rfl hst hb (Zi (s:=2)) (hst.at 0 rfl)
theorem Zm8 (a0:Nat) (a1:Nat) {r:Bool} (h:Zfk a0 a1=some r):FnOk Tryz.prog 102 [(pFlt a0),(pFlt a1)] (Zbm r):=by
 have H0:=h
 unfold Zfk at H0
 clear h
 refine Zb4 (N:=25) Tryz.func102 rfl rfl (Qe rfl) rfl rfl (fun a g0 hst hb=>?_)
 refine r_a [5,15] (L:=[(0,_),(1,_)]) hst hb Za
  (a_p [] rfl (Zd rfl rfl c_b)<|a_n) (fun a g hst hb=>?_)
 refine wp_seq ?_
 obtain ⟨r1,h2,H0⟩:=Zc H0
 refine r_a [5,15,10] (L:=[(0,_),(1,_)]) hst hb Za
  (Am 5 rfl<|a_p [0] rfl (Zr Z8z (Zm7 _ h2) rfl rfl (.cons u_0 .nil))<|a_n) (fun a g hst hb=>?_)
 refine wp_cond_split (hst.bool 2 rfl) (fun hc3=>?_) (fun hc3=>?_)
 ·replace H0:=Z1 hc3 H0
  refine r_a [0] (L:=[]) (hst.pick [] rfl) hb Za
   (a_p [] rfl (Zd rfl rfl c_b)<|a_n) (fun a g hst hb=>?_)
  refine wp_ret ?_
  refine Zt ?_
  obtain rfl:=Option.some.inj H0
  exact Z8 rfl hst hb (Zi (s:=4)) (hst.at 0 rfl)
 ·replace H0:=Z0 hc3 H0
  refine wp_skip ?_
  refine Zo ?_
  refine wp_seq ?_
  obtain ⟨r4,h5,H0⟩:=Zc H0
  refine r_a [5,15,10] (L:=[(0,_),(1,_)]) (hst.pick [0,1] rfl) hb Za
   (Am 15 rfl<|a_p [0] rfl (Zr Z8z (Zm7 _ h5) rfl rfl (.cons u_0 .nil))<|a_n) (fun a g hst hb=>?_)
  refine wp_cond_split (hst.bool 2 rfl) (fun hc6=>?_) (fun hc6=>?_)
  ·replace H0:=Z1 hc6 H0
   refine r_a [0] (L:=[]) (hst.pick [] rfl) hb Za
    (a_p [] rfl (Zd rfl rfl c_b)<|a_n) (fun a g hst hb=>?_)
   refine wp_ret ?_
   refine Zt ?_
   obtain rfl:=Option.some.inj H0
   exact Z8 rfl hst hb (Zi (s:=4)) (hst.at 0 rfl)
  ·replace H0:=Z0 hc6 H0
   refine wp_skip ?_
   refine Zo ?_
   refine wp_seq ?_
   refine r_a [5,15,50] (L:=[(0,_),(1,_)]) (hst.pick [0,1] rfl) hb Za
    (Am 5 rfl<|a_p [0] rfl (Z0a rfl rfl u_0 c_f)<|Am 0 rfl<|a_g [0,15] (Qg_t rfl (fun hG=>Z6 rfl rfl u_0))<|a_g [10,0] (Qg_t rfl (fun hG=>Z0a rfl rfl (Opd.gd hG u_0) c_f))<|a_p [20,0] rfl (Zb5 rfl rfl u_0 (fun hz=>(Opd.gd hz u_1)))<|a_n) (fun a g hst hb=>?_)
   refine wp_cond_split (hst.bool 2 rfl) (fun hc7=>?_) (fun hc7=>?_)
   ·replace H0:=Z1 hc7 H0
    obtain ⟨r8,h9,H0⟩:=Zc H0;obtain ⟨r10,h11,H0⟩:=Zc H0
    refine r_a [70] (L:=[(0,_),(1,_)]) (hst.pick [0,1] rfl) hb Za
     (Am 5 rfl<|a_p [0] rfl (Zr Zbap (Zpg _ h9) rfl rfl (.cons u_0 .nil))<|Am 0 rfl<|a_g [0,15] (Qg_t rfl (fun hG=>Z6 rfl rfl u_0))<|a_g [10,0] (Qg_t rfl (fun hG=>Zr Zbap (Zpg _ (Zcb h11 hG)) rfl rfl (.cons (Opd.gd hG u_0) .nil)))<|a_g [20,0] (Qg_t rfl (fun hG=>Zc2 rfl rfl (Opd.gd hG u_0)))<|a_p [30,0] rfl (Zb5 rfl rfl u_0 (fun hz=>(Opd.gd hz u_1)))<|Aa 0 rfl<|a_n) (fun a g hst hb=>?_)
    refine wp_ret ?_
    refine Zt ?_
    obtain rfl:=Option.some.inj H0
    exact Z8 rfl hst hb (Zi (s:=4)) (hst.at 0 rfl)
   ·replace H0:=Z0 hc7 H0
    refine wp_skip ?_
    refine Zo ?_
    refine r_a [30] (L:=[(0,_),(1,_)]) (hst.pick [0,1] rfl) hb Za
     (Am 5 rfl<|Am 15 rfl<|a_p [10,0] rfl (Z0t rfl rfl u_0 u_1)<|Aa 0 rfl<|a_n) (fun a g hst hb=>?_)
    refine wp_ret ?_
    obtain rfl:=Option.some.inj H0
    exact Z8 rfl hst hb (Zi (s:=4)) (hst.at 0 rfl)
theorem Zia (a0:Nat) (a1:Nat) {r:Bool} (h:Zdy a0 a1=some r):FnOk Tryz.prog 83 [(pFlt a0),(pFlt a1)] (Zbm r):=by
 have H0:=h
 unfold Zdy at H0
 clear h
 refine Zb4 (N:=15) Tryz.func83 rfl rfl (Qe rfl) rfl rfl (fun a g0 hst hb=>?_)
 refine r_a [5,15] (L:=[(0,_),(1,_)]) hst hb Za
  (a_p [] rfl (Zd rfl rfl c_b)<|a_n) (fun a g hst hb=>?_)
 obtain ⟨r1,h2,H0⟩:=Zc H0;obtain ⟨r3,h4,H0⟩:=Zc H0
 refine r_a [100] (L:=[(0,_),(1,_)]) hst hb Za
  (Am 5 rfl<|Am 15 rfl<|a_p [10,0] rfl (Zr Z4m (Zm8 _ _ h2) rfl rfl (.cons u_0 (.cons u_1 .nil)))<|a_p [0] rfl (Zc2 rfl rfl u_0)<|Am 0 rfl<|a_g [0,15] (Qg_t rfl (fun hG=>Z6 rfl rfl u_0))<|a_g [10,5] (Qg_t rfl (fun hG=>Z6 rfl rfl u_0))<|a_g [20,10,0] (Qg_t rfl (fun hG=>Zr Z4m (Zm8 _ _ (Zcb h4 hG)) rfl rfl (.cons (Opd.gd hG u_0) (.cons (Opd.gd hG u_1) .nil))))<|a_g [30,0] (Qg_t rfl (fun hG=>Zc2 rfl rfl (Opd.gd hG u_0)))<|a_p [40,0] rfl (Zb5 rfl rfl u_0 (fun hz=>(Opd.gd hz u_1)))<|Aa 0 rfl<|a_n) (fun a g hst hb=>?_)
 refine wp_ret ?_
 obtain rfl:=Option.some.inj H0
 exact Z8 rfl hst hb (Zi (s:=4)) (hst.at 0 rfl)
theorem Zpy (a0:Nat) {r:Bool} (h:Zip a0=some r):FnOk Tryz.prog 98 [(pFlt a0)] (Zbm r):=by
 have H0:=h
 unfold Zip at H0
 clear h
 refine Zb4 (N:=5) Tryz.func98 rfl rfl (Qe rfl) rfl rfl (fun a g0 hst hb=>?_)
 refine r_a [5] (L:=[(0,_)]) hst hb Za
  (a_p [] rfl (Zd rfl rfl c_b)<|a_n) (fun a g hst hb=>?_)
 obtain ⟨r1,h2,H0⟩:=Zc H0
 refine r_a [20] (L:=[(0,_)]) hst hb Za
  (Am 5 rfl<|a_p [0] rfl (Zr Zzf (Zia _ _ h2) rfl rfl (.cons u_0 (.cons c_f .nil)))<|Aa 0 rfl<|a_n) (fun a g hst hb=>?_)
 refine wp_ret ?_
 obtain rfl:=Option.some.inj H0
 exact Z8 rfl hst hb (Zi (s:=2)) (hst.at 0 rfl)
theorem Zu0 (a0:Zb) (a1:ByteArray) {r:Bool} (h:Zj7 a0 a1=some r):FnOk Tryz.prog 72 [(Zf.pd a0),(pStr a1)] (Zbm r):=by
 have H0:=h
 unfold Zj7 at H0
 clear h
 refine Zb4 (N:=106) Tryz.func72 rfl rfl (Qe rfl) rfl rfl (fun a g0 hst hb=>?_)
 refine r_a [15,0] (L:=[(0,_),(1,_)]) hst hb Za
  (a_p [5] rfl (Zbq rfl rfl u_0)<|a_p [] rfl (Zd rfl rfl c_b)<|a_n) (fun a g hst hb=>?_)
 refine r_a [5,15,0,10,20,30,40] (L:=[(1,_),(2,_)]) hst hb Za
  (a_p [] rfl (Zd rfl rfl c_b)<|a_p [] rfl (Zd rfl rfl c_b)<|a_p [] rfl (Zd rfl rfl c_b)<|a_p [] rfl (Zd rfl rfl c_b)<|a_p [] rfl (Zd rfl rfl c_b)<|a_n) (fun a g hst hb=>?_)
 refine wp_seq ?_
 refine r_a [5,15,25,35,45,55,65,0] (L:=[(1,_),(2,_),(5,_),(6,_),(7,_),(8,_),(9,_)]) hst hb Za
  (a_p [] rfl (Zd rfl rfl c_i)<|a_n) (fun a g hst hb=>?_)
 obtain ⟨z23,hz1,H0⟩:=Zc H0
 refine Zbt (fun a w=>∃ (y18:Bool) (y19:Bool) (y20:Bool) (y21:Bool) (y22:Bool) (g:G),w=g.w ∧ St 106 [(2,(Zf.ptr a0)),(5,(Zbm y18)),(6,(Zbm y19)),(7,(Zbm y20)),(8,(Zbm y21)),(9,(Zbm y22))] a g ∧ Base g0 g ∧ (y18,y19,y20,y21,y22)=z23) ?_ ?_
 ·rintro a w ⟨y18,y19,y20,y21,y22,g,rfl,hst,hb,rfl⟩
  refine Zo ?_
  refine wp_seq ?_
  refine r_a [5,45,55,330] (L:=[(2,_),(5,_),(6,_),(7,_),(8,_),(9,_)]) hst hb Za
   (Am 15 rfl<|a_p [0] rfl (Zc2 rfl rfl u_0)<|Am 0 rfl<|a_g [0,5] (Qg_t rfl (fun hG=>Zl Zkp rfl rfl u_0))<|a_g [10,0] (Qg_t rfl (fun hG=>Z2 ty_9 rfl rfl (Opd.gd hG u_0)))<|a_g [20,0] (Qg_t rfl (fun hG=>Zs2 rfl rfl (Opd.gd hG u_0) c_s))<|a_p [30,0] rfl (Zb5 rfl rfl u_0 (fun hz=>(Opd.gd hz u_1)))<|Am 0 rfl<|a_g [0,25] (Qg_f rfl (fun hG=>Z6 rfl rfl u_0))<|a_g [10,0] (Qg_f rfl (fun hG=>Zc2 rfl rfl (Opd.gd hG u_0)))<|a_g [20,0] (Qg_f rfl (fun hG=>Z6 rfl rfl (Opd.gd hG u_0)))<|a_g [0,5] (Qg_ti rfl (fun hG=>Zl Zez rfl rfl u_0))<|a_g [10,0] (Qg_ti rfl (fun hG=>Z2 ty_2 rfl rfl (Opd.gd hG u_0)))<|a_g [20,0] (Qg_ti rfl (fun hG=>Zdd rfl rfl (Opd.gd hG u_0) c_i))<|a_g [60,30,0] (Qg_f rfl (fun hG=>Zb5 rfl rfl (Opd.gd hG u_0) (fun hz=>(Opd.gd (bA hG hz) u_1))))<|a_p [70,0] rfl (Zb2 rfl rfl u_0 (fun hz=>(Opd.gd (bNF hz) u_1)))<|Am 0 rfl<|a_g [0,35] (Qg_f rfl (fun hG=>Z6 rfl rfl u_0))<|a_g [10,0] (Qg_f rfl (fun hG=>Zc2 rfl rfl (Opd.gd hG u_0)))<|a_g [20,0] (Qg_f rfl (fun hG=>Z6 rfl rfl (Opd.gd hG u_0)))<|a_g [0,5] (Qg_ti rfl (fun hG=>Zl Zko rfl rfl u_0))<|a_g [10,0] (Qg_ti rfl (fun hG=>Z2 ty_2 rfl rfl (Opd.gd hG u_0)))<|a_g [20,0] (Qg_ti rfl (fun hG=>Zdd rfl rfl (Opd.gd hG u_0) c_i))<|a_g [60,30,0] (Qg_f rfl (fun hG=>Zb5 rfl rfl (Opd.gd hG u_0) (fun hz=>(Opd.gd (bA hG hz) u_1))))<|a_p [70,0] rfl (Zb2 rfl rfl u_0 (fun hz=>(Opd.gd (bNF hz) u_1)))<|Am 0 rfl<|a_g [0,35] (Qg_f rfl (fun hG=>Z6 rfl rfl u_0))<|a_g [10,0] (Qg_f rfl (fun hG=>Zc2 rfl rfl (Opd.gd hG u_0)))<|a_g [20,0] (Qg_f rfl (fun hG=>Z6 rfl rfl (Opd.gd hG u_0)))<|a_g [0,5] (Qg_ti rfl (fun hG=>Zl Zkn rfl rfl u_0))<|a_g [10,0] (Qg_ti rfl (fun hG=>Z2 ty_2 rfl rfl (Opd.gd hG u_0)))<|a_g [20,0] (Qg_ti rfl (fun hG=>Zdd rfl rfl (Opd.gd hG u_0) c_i))<|a_g [60,30,0] (Qg_f rfl (fun hG=>Zb5 rfl rfl (Opd.gd hG u_0) (fun hz=>(Opd.gd (bA hG hz) u_1))))<|a_p [70,0] rfl (Zb2 rfl rfl u_0 (fun hz=>(Opd.gd (bNF hz) u_1)))<|a_n) (fun a g hst hb=>?_)
  refine wp_cond_split (hst.bool 3 rfl) (fun hc24=>?_) (fun hc24=>?_)
  ·replace H0:=Z1 hc24 H0
   refine r_a [0] (L:=[]) (hst.pick [] rfl) hb Za
    (a_p [] rfl (Zd rfl rfl c_b)<|a_n) (fun a g hst hb=>?_)
   refine wp_ret ?_
   refine Zt ?_
   obtain rfl:=Option.some.inj H0
   exact Z8 rfl hst hb (Zi (s:=4)) (hst.at 0 rfl)
  ·replace H0:=Z0 hc24 H0
   refine wp_skip ?_
   refine Zo ?_
   obtain ⟨r25,h26,H0⟩:=Zc H0
   refine r_a [200] (L:=[(2,_),(8,_),(9,_)]) (hst.pick [0,1,2] rfl) hb Za
    (Am 15 rfl<|Am 0 rfl<|a_g [0,5] (Qg_f rfl (fun hG=>Zl Zlx rfl rfl u_0))<|a_g [10,0] (Qg_f rfl (fun hG=>Z2 Zd7 rfl rfl (Opd.gd hG u_0)))<|a_g [20,0] (Qg_f rfl (fun hG=>Zr Zbeu (Zpy _ (Zcb h26 hG)) rfl rfl (.cons (Opd.gd hG u_0) .nil)))<|a_p [30,0] rfl (Zb2 rfl rfl u_0 (fun hz=>(Opd.gd (bNF hz) u_1)))<|Am 0 rfl<|a_g [0,25] (Qg_t rfl (fun hG=>Z6 rfl rfl u_0))<|a_g [10,0] (Qg_t rfl (fun hG=>Z6 rfl rfl (Opd.gd hG u_0)))<|a_g [0,5] (Qg_fi rfl (fun hG=>Zl Zin rfl rfl u_0))<|a_g [10,0] (Qg_fi rfl (fun hG=>Z2 ty_3 rfl rfl (Opd.gd hG u_0)))<|a_g [20,0] (Qg_fi rfl (fun hG=>Zci rfl rfl (Opd.gd hG u_0) c_i))<|a_g [30,0] (Qg_fi rfl (fun hG=>Z6 rfl rfl (Opd.gd hG u_0)))<|a_g [0,5] (Qg_ti rfl (fun hG=>Zl Zc6 rfl rfl u_0))<|a_g [10,0] (Qg_ti rfl (fun hG=>Z2 Zeg rfl rfl (Opd.gd hG u_0)))<|a_g [20,0] (Qg_ti rfl (fun hG=>Zbx Tryz.underlying60 rfl rfl (Opd.gd hG u_0)))<|a_g [30,0] (Qg_ti rfl (fun hG=>Zci rfl rfl (Opd.gd hG u_0) c_i))<|a_g [80,40,0] (Qg_fi rfl (fun hG=>Zb5 rfl rfl (Opd.gd hG u_0) (fun hz=>(Opd.gd (bA hG hz) u_1))))<|a_g [110,90,0] (Qg_t rfl (fun hG=>Zb2 rfl rfl (Opd.gd hG u_0) (fun hz=>(Opd.gd (bA hG (bNF hz)) u_1))))<|a_p [120,0] rfl (Zb5 rfl rfl u_0 (fun hz=>(Opd.gd hz u_1)))<|Aa 0 rfl<|a_n) (fun a g hst hb=>?_)
   refine wp_ret ?_
   obtain rfl:=Option.some.inj H0
   exact Z8 rfl hst hb (Zi (s:=4)) (hst.at 0 rfl)
 ·refine wp_block ?_
  refine wp_loop_ghost (fun n a w=>∃ (x1:Bool) (x2:Bool) (x3:Bool) (x4:Bool) (x5:Bool) (x6:Int) (g:G),w=g.w ∧ St 106 [(1,(pStr a1)),(2,(Zf.ptr a0)),(5,(Zbm x1)),(6,(Zbm x2)),(7,(Zbm x3)),(8,(Zbm x4)),(9,(Zbm x5)),(10,(pInt .i64 x6))] a g ∧ Base g0 g ∧ Zdb a1 n x1 x2 x3 x4 x5 x6=some z23) (Int.toNat ((a1.size:Int) - (0:Int)) + 1) ⟨false,false,false,false,false,(0:Int),g,rfl,(hst.pick [0,1,2,3,4,5,6,7] rfl),hb,hz1⟩ (fun n a w hI=>?_)
  obtain ⟨x1,x2,x3,x4,x5,x6,g,rfl,hst,hb,H1⟩:=hI
  cases n with
  | zero=>exact absurd H1 (by simp [Zdb])
  | succ n =>
   rw [Zdb] at H1
   refine wp_seq ?_
   refine r_a [5,15,25,35,45,55,65,75,30] (L:=[(1,_),(2,_),(5,_),(6,_),(7,_),(8,_),(9,_),(10,_)]) hst hb Za
    (Am 75 rfl<|Am 5 rfl<|a_p [0] rfl (Zhf Tryz.underlying9 rfl rfl u_0)<|a_p [20,0] rfl (Zcv rfl rfl u_0 u_1)<|a_n) (fun a g hst hb=>?_)
   refine wp_cond_split (hst.bool 8 rfl) (fun hc7=>?_) (fun hc7=>?_)
   ·replace H1:=Z1 hc7 H1
    refine wp_skip ?_
    refine Zo ?_
    refine wp_seq ?_
    refine wp_block ?_
    obtain ⟨b8,h9,H1⟩:=Zc H1
    refine r_a [5,15,70,35,45,55,65,75] (L:=[(1,_),(2,_),(5,_),(6,_),(7,_),(8,_),(9,_),(10,_)]) (hst.pick [0,1,2,3,4,5,6,7] rfl) hb Za
     (Am 25 rfl<|Am 0 rfl<|a_g [0,5] (Qg_f rfl (fun hG=>Z6 rfl rfl u_0))<|a_g [10,75] (Qg_f rfl (fun hG=>Z6 rfl rfl u_0))<|a_g [20,10,0] (Qg_f rfl (fun hG=>Zrn Tryz.underlying9 rfl rfl (Opd.gd hG u_0) (Opd.gd hG u_1) (Zcb h9 hG)))<|a_g [30,0] (Qg_f rfl (fun hG=>Zci rfl rfl (Opd.gd hG u_0) c_i))<|a_p [40,0] rfl (Zb2 rfl rfl u_0 (fun hz=>(Opd.gd (bNF hz) u_1)))<|Aa 0 rfl<|a_n) (fun a g hst hb=>?_)
    obtain ⟨b10,h11,H1⟩:=Zc H1
    refine r_a [5,15,25,70,45,55,65,75] (L:=[(1,_),(2,_),(5,_),(6,_),(7,_),(8,_),(9,_),(10,_)]) hst hb Za
     (Am 35 rfl<|Am 0 rfl<|a_g [0,5] (Qg_f rfl (fun hG=>Z6 rfl rfl u_0))<|a_g [10,75] (Qg_f rfl (fun hG=>Z6 rfl rfl u_0))<|a_g [20,10,0] (Qg_f rfl (fun hG=>Zrn Tryz.underlying9 rfl rfl (Opd.gd hG u_0) (Opd.gd hG u_1) (Zcb h11 hG)))<|a_g [30,0] (Qg_f rfl (fun hG=>Zci rfl rfl (Opd.gd hG u_0) c_i))<|a_p [40,0] rfl (Zb2 rfl rfl u_0 (fun hz=>(Opd.gd (bNF hz) u_1)))<|Aa 0 rfl<|a_n) (fun a g hst hb=>?_)
    obtain ⟨b12,h13,H1⟩:=Zc H1
    refine r_a [5,15,25,35,70,55,65,75] (L:=[(1,_),(2,_),(5,_),(6,_),(7,_),(8,_),(9,_),(10,_)]) hst hb Za
     (Am 45 rfl<|Am 0 rfl<|a_g [0,5] (Qg_f rfl (fun hG=>Z6 rfl rfl u_0))<|a_g [10,75] (Qg_f rfl (fun hG=>Z6 rfl rfl u_0))<|a_g [20,10,0] (Qg_f rfl (fun hG=>Zrn Tryz.underlying9 rfl rfl (Opd.gd hG u_0) (Opd.gd hG u_1) (Zcb h13 hG)))<|a_g [30,0] (Qg_f rfl (fun hG=>Zci rfl rfl (Opd.gd hG u_0) c_i))<|a_p [40,0] rfl (Zb2 rfl rfl u_0 (fun hz=>(Opd.gd (bNF hz) u_1)))<|Aa 0 rfl<|a_n) (fun a g hst hb=>?_)
    obtain ⟨b14,h15,H1⟩:=Zc H1
    refine r_a [5,15,25,35,45,70,65,75] (L:=[(1,_),(2,_),(5,_),(6,_),(7,_),(8,_),(9,_),(10,_)]) hst hb Za
     (Am 55 rfl<|Am 0 rfl<|a_g [0,5] (Qg_f rfl (fun hG=>Z6 rfl rfl u_0))<|a_g [10,75] (Qg_f rfl (fun hG=>Z6 rfl rfl u_0))<|a_g [20,10,0] (Qg_f rfl (fun hG=>Zrn Tryz.underlying9 rfl rfl (Opd.gd hG u_0) (Opd.gd hG u_1) (Zcb h15 hG)))<|a_g [30,0] (Qg_f rfl (fun hG=>Zci rfl rfl (Opd.gd hG u_0) c_i))<|a_p [40,0] rfl (Zb2 rfl rfl u_0 (fun hz=>(Opd.gd (bNF hz) u_1)))<|Aa 0 rfl<|a_n) (fun a g hst hb=>?_)
    obtain ⟨b16,h17,H1⟩:=Zc H1
    refine r_b [5,15,25,35,45,55,70,75] (L:=[(1,_),(2,_),(5,_),(6,_),(7,_),(8,_),(9,_),(10,_)]) hst hb Za
     (Am 65 rfl<|Am 0 rfl<|a_g [0,5] (Qg_f rfl (fun hG=>Z6 rfl rfl u_0))<|a_g [10,75] (Qg_f rfl (fun hG=>Z6 rfl rfl u_0))<|a_g [20,10,0] (Qg_f rfl (fun hG=>Zrn Tryz.underlying9 rfl rfl (Opd.gd hG u_0) (Opd.gd hG u_1) (Zcb h17 hG)))<|a_g [30,0] (Qg_f rfl (fun hG=>Zci rfl rfl (Opd.gd hG u_0) c_i))<|a_p [40,0] rfl (Zb2 rfl rfl u_0 (fun hz=>(Opd.gd (bNF hz) u_1)))<|Aa 0 rfl<|a_n) (fun a g hst hb=>?_)
    refine Zbn ?_
    refine Zo ?_
    refine r_b [5,15,25,35,45,55,65,20] (L:=[(1,_),(2,_),(5,_),(6,_),(7,_),(8,_),(9,_),(10,_)]) hst hb Za
     (Am 75 rfl<|a_p [0] rfl (Zcf rfl rfl u_0 c_i rfl)<|Aa 0 rfl<|a_n) (fun a g hst hb=>?_)
    exact ⟨n,Nat.lt_succ_self _,(x1 || (b8 == (116:Int))),(x2 || (b10 == (110:Int))),(x3 || (b12 == (98:Int))),(x4 || (b14 == (114:Int))),(x5 || (b16 == (108:Int))),(IntKind.i64.wrap (x6 + (1:Int))),g,rfl,(hst.pick [0,1,2,3,4,5,6,7] rfl),hb,H1⟩
   ·replace H1:=Z0 hc7 H1
    refine wp_exit ?_
    refine Zb0 ?_
    refine Zb0 ?_
    refine Zcj ?_
    exact ⟨x1,x2,x3,x4,x5,g,rfl,(hst.pick [1,2,3,4,5,6] rfl),hb,Option.some.inj H1⟩
theorem Zsx (a0:Int) {r:ByteArray} (h:Zkr a0=some r):FnOk Tryz.prog 73 [(pInt .i64 a0)] (pStr r):=by
 have H0:=h
 unfold Zkr at H0
 clear h
 refine Zb4 (N:=15) Tryz.func73 rfl rfl (Qe rfl) rfl rfl (fun a g0 hst hb=>?_)
 refine r_a [5] (L:=[(0,_)]) hst hb Za
  (a_p [] rfl (Zd rfl rfl c_s)<|a_n) (fun a g hst hb=>?_)
 refine r_a [5,10] (L:=[(0,_)]) hst hb Za
  (a_p [] rfl (Zjd Zbit (xs:=[.const (.string ⟨#[]⟩),.const (.string ⟨#[116]⟩),.const (.string ⟨#[110]⟩),.const (.string ⟨#[110]⟩),.const (.string ⟨#[110,98]⟩),.const (.string ⟨#[114]⟩),.const (.string ⟨#[114]⟩),.const (.string ⟨#[114]⟩),.const (.string ⟨#[108]⟩),.const (.string ⟨#[108]⟩)]) (.cons c_s (.cons c_s (.cons c_s (.cons c_s (.cons c_s (.cons c_s (.cons c_s (.cons c_s (.cons c_s (.cons c_s .nil)))))))))) (by decide) rfl rfl)<|Aa 0 rfl<|a_n) (fun a g hst hb=>?_)
 refine wp_seq ?_
 refine r_a [5,15,50] (L:=[(0,_),(3,_)]) hst hb Za
  (Am 5 rfl<|a_p [0] rfl (Zcv rfl rfl u_0 c_i)<|Am 0 rfl<|a_g [0,5] (Qg_f rfl (fun hG=>Z6 rfl rfl u_0))<|a_g [10,0] (Qg_f rfl (fun hG=>Zcu rfl rfl (Opd.gd hG u_0) c_i))<|a_p [20,0] rfl (Zb2 rfl rfl u_0 (fun hz=>(Opd.gd (bNF hz) u_1)))<|a_n) (fun a g hst hb=>?_)
 refine wp_cond_split (hst.bool 2 rfl) (fun hc1=>?_) (fun hc1=>?_)
 ·replace H0:=Z1 hc1 H0
  refine r_a [0] (L:=[]) (hst.pick [] rfl) hb Za
   (a_p [] rfl (Zd rfl rfl c_s)<|a_n) (fun a g hst hb=>?_)
  refine wp_ret ?_
  refine Zt ?_
  obtain rfl:=Option.some.inj H0
  exact Z8 rfl hst hb (Zi (s:=2)) (hst.at 0 rfl)
 ·replace H0:=Z0 hc1 H0
  refine wp_skip ?_
  refine Zo ?_
  obtain ⟨e2,h3,H0⟩:=Zc H0
  refine r_a [40] (L:=[(0,_),(3,_)]) (hst.pick [0,1] rfl) hb Za
   (Am 15 rfl<|Am 5 rfl<|a_p [10,0] rfl (Zbw Tryz.underlying166 sz_9 rfl rfl u_0 u_1 h3)<|Al ty_9 0 rfl<|Aa 0 rfl<|a_n) (fun a g hst hb=>?_)
  refine wp_ret ?_
  obtain rfl:=Option.some.inj H0
  exact Z8 rfl hst hb (Zi (s:=2)) (hst.at 0 rfl)
theorem Zo5 (a0:Nat) {r:Bool} (h:Zgd a0=some r):FnOk Tryz.prog 74 [(pFlt a0)] (Zbm r):=by
 have H0:=h
 unfold Zgd at H0
 clear h
 refine Zb4 (N:=11) Tryz.func74 rfl rfl (Qe rfl) rfl rfl (fun a g0 hst hb=>?_)
 refine r_a [5] (L:=[(0,_)]) hst hb Za
  (a_p [] rfl (Zd rfl rfl c_b)<|a_n) (fun a g hst hb=>?_)
 obtain ⟨r1,h2,H0⟩:=Zc H0
 refine r_a [80] (L:=[(0,_)]) hst hb Za
  (Am 5 rfl<|a_p [0] rfl (Zr Z8z (Zm7 _ h2) rfl rfl (.cons u_0 .nil))<|a_p [0] rfl (Zc2 rfl rfl u_0)<|Am 0 rfl<|a_g [0,5] (Qg_f rfl (fun hG=>Z6 rfl rfl u_0))<|a_g [10,0] (Qg_f rfl (fun hG=>Zv7 Z27 rfl rfl (Opd.gd hG u_0)))<|a_g [20,0] (Qg_f rfl (fun hG=>Zci rfl rfl (Opd.gd hG u_0) c_i))<|a_p [30,0] rfl (Zb2 rfl rfl u_0 (fun hz=>(Opd.gd (bNF hz) u_1)))<|Aa 0 rfl<|a_n) (fun a g hst hb=>?_)
 refine wp_ret ?_
 obtain rfl:=Option.some.inj H0
 exact Z8 rfl hst hb (Zi (s:=2)) (hst.at 0 rfl)
theorem Ztm (a0:Zh) (a1:Zh) {r:Bool} (h:Zgs a0 a1=some r):FnOk Tryz.prog 100 [(Zz.pd a0),(Zz.pd a1)] (Zbm r):=by
 have H0:=h
 unfold Zgs at H0
 clear h
 refine Zb4 (N:=22) Tryz.func100 rfl rfl (Qe rfl) rfl rfl (fun a g0 hst hb=>?_)
 refine r_a [0,10] (L:=[(0,_),(1,_)]) hst hb Za
  (a_p [5] rfl (Zbq rfl rfl u_0)<|a_p [15] rfl (Zbq rfl rfl u_0)<|a_p [] rfl (Zd rfl rfl c_b)<|a_n) (fun a g hst hb=>?_)
 refine wp_seq ?_
 obtain ⟨r1,h2,H0⟩:=Zc H0
 refine r_a [5,15,40] (L:=[(2,_),(3,_)]) hst hb Za
  (Af Zf2 15 rfl<|Al Zd7 0 rfl<|Af Zf2 5 rfl<|Al Zd7 0 rfl<|a_p [20,0] rfl (Zr Z4m (Zm8 _ _ h2) rfl rfl (.cons u_0 (.cons u_1 .nil)))<|a_n) (fun a g hst hb=>?_)
 refine wp_cond_split (hst.bool 2 rfl) (fun hc3=>?_) (fun hc3=>?_)
 ·replace H0:=Z1 hc3 H0
  refine r_a [0] (L:=[]) (hst.pick [] rfl) hb Za
   (a_p [] rfl (Zd rfl rfl c_b)<|a_n) (fun a g hst hb=>?_)
  refine wp_ret ?_
  refine Zt ?_
  obtain rfl:=Option.some.inj H0
  exact Z8 rfl hst hb (Zi (s:=4)) (hst.at 0 rfl)
 ·replace H0:=Z0 hc3 H0
  refine wp_skip ?_
  refine Zo ?_
  obtain ⟨r4,h5,H0⟩:=Zc H0
  refine r_a [120] (L:=[(2,_),(3,_)]) (hst.pick [0,1] rfl) hb Za
   (Af Zf2 5 rfl<|Al Zd7 0 rfl<|Af Zf2 15 rfl<|Al Zd7 0 rfl<|a_p [20,0] rfl (Zr Zzf (Zia _ _ h5) rfl rfl (.cons u_0 (.cons u_1 .nil)))<|Am 0 rfl<|a_g [0,5] (Qg_t rfl (fun hG=>Zl Zfg rfl rfl u_0))<|a_g [10,0] (Qg_t rfl (fun hG=>Z2 ty_9 rfl rfl (Opd.gd hG u_0)))<|a_g [20,15] (Qg_t rfl (fun hG=>Zl Zfg rfl rfl u_0))<|a_g [30,0] (Qg_t rfl (fun hG=>Z2 ty_9 rfl rfl (Opd.gd hG u_0)))<|a_g [40,20,0] (Qg_t rfl (fun hG=>Zqz rfl rfl (Opd.gd hG u_0) (Opd.gd hG u_1)))<|a_p [50,0] rfl (Zb5 rfl rfl u_0 (fun hz=>(Opd.gd hz u_1)))<|Aa 0 rfl<|a_n) (fun a g hst hb=>?_)
  refine wp_ret ?_
  obtain rfl:=Option.some.inj H0
  exact Z8 rfl hst hb (Zi (s:=4)) (hst.at 0 rfl)
theorem Zuz (a0:Int) (a1:List Zh) (a2:Int) {r:Int} (h:Zj3 a0 a1 a2=some r):FnOk Tryz.prog 75 [(pInt .i64 a0),(Zz.sl.pd a1),(pInt .i64 a2)] (pInt .i64 r):=by
 have H0:=h
 unfold Zj3 at H0
 clear h
 refine Zb4 (N:=64) Tryz.func75 rfl rfl (Qe rfl) rfl rfl (fun a g0 hst hb=>?_)
 refine r_a [5,15,25] (L:=[(0,_),(1,_),(2,_)]) hst hb Za
  (a_p [] rfl (Zd rfl rfl c_i)<|a_n) (fun a g hst hb=>?_)
 obtain ⟨e1,h2,H0⟩:=Zc H0
 refine r_a [5,15,25,50] (L:=[(0,_),(1,_),(2,_)]) hst hb Za
  (Am 15 rfl<|Am 25 rfl<|a_p [10,0] rfl (Zbw Tryz.underlying60 Zho rfl rfl u_0 u_1 h2)<|Al Zfa 0 rfl<|a_p (outs:=[(7,(pBox Zz 7 (default:Zh)))]) (S:=[8]) [] rfl (Zbl (zs:=[.float .f64 0,.string ByteArray.empty]) (by kernel_rfl) (fun g=>Zjx g) rfl rfl)<|a_p [10,0] rfl (Zch Zfa rfl rfl u_1 u_0)<|a_n) (fun a g hst hb=>?_)
 refine wp_seq ?_
 refine r_a [5,15,25,35,30] (L:=[(0,_),(1,_),(2,_),(7,_)]) hst hb Za
  (Af Zfg 35 rfl<|Al ty_9 0 rfl<|a_p [0] rfl (Zhf Tryz.underlying9 rfl rfl u_0)<|a_p [0] rfl (Zcu rfl rfl u_0 c_i)<|a_n) (fun a g hst hb=>?_)
 refine wp_cond_split (hst.bool 4 rfl) (fun hc3=>?_) (fun hc3=>?_)
 ·replace H0:=Z1 hc3 H0
  refine r_a [0] (L:=[]) (hst.pick [] rfl) hb Za
   (a_p [] rfl (Zd rfl rfl c_i)<|a_n) (fun a g hst hb=>?_)
  refine wp_ret ?_
  refine Zt ?_
  obtain rfl:=Option.some.inj H0
  exact Z8 rfl hst hb (Zi (s:=6)) (hst.at 0 rfl)
 ·replace H0:=Z0 hc3 H0
  refine wp_skip ?_
  refine Zo ?_
  refine wp_seq ?_
  obtain ⟨r4,h5,H0⟩:=Zc H0;obtain ⟨r6,h7,H0⟩:=Zc H0
  refine r_a [5,15,25,35,130] (L:=[(0,_),(1,_),(2,_),(7,_)]) (hst.pick [0,1,2,3] rfl) hb Za
   (Am 5 rfl<|a_p [0] rfl (Zci rfl rfl u_0 c_i)<|Am 0 rfl<|a_g [0,35] (Qg_t rfl (fun hG=>Zl Zf2 rfl rfl u_0))<|a_g [10,0] (Qg_t rfl (fun hG=>Z2 Zd7 rfl rfl (Opd.gd hG u_0)))<|a_g [20,0] (Qg_t rfl (fun hG=>Zr Zbeu (Zpy _ (Zcb h5 hG)) rfl rfl (.cons (Opd.gd hG u_0) .nil)))<|a_g [30,0] (Qg_t rfl (fun hG=>Zc2 rfl rfl (Opd.gd hG u_0)))<|a_p [40,0] rfl (Zb5 rfl rfl u_0 (fun hz=>(Opd.gd hz u_1)))<|Am 0 rfl<|a_g [0,35] (Qg_f rfl (fun hG=>Zl Zf2 rfl rfl u_0))<|a_g [10,0] (Qg_f rfl (fun hG=>Z2 Zd7 rfl rfl (Opd.gd hG u_0)))<|a_g [20,0] (Qg_f rfl (fun hG=>Zr Zbex (Zo5 _ (Zcb h7 hG)) rfl rfl (.cons (Opd.gd hG u_0) .nil)))<|a_g [30,0] (Qg_f rfl (fun hG=>Zc2 rfl rfl (Opd.gd hG u_0)))<|a_p [40,0] rfl (Zb2 rfl rfl u_0 (fun hz=>(Opd.gd (bNF hz) u_1)))<|a_n) (fun a g hst hb=>?_)
  refine wp_cond_split (hst.bool 4 rfl) (fun hc8=>?_) (fun hc8=>?_)
  ·replace H0:=Z1 hc8 H0
   refine r_a [0] (L:=[]) (hst.pick [] rfl) hb Za
    (a_p [] rfl (Zd rfl rfl c_i)<|a_n) (fun a g hst hb=>?_)
   refine wp_ret ?_
   refine Zt ?_
   obtain rfl:=Option.some.inj H0
   exact Z8 rfl hst hb (Zi (s:=6)) (hst.at 0 rfl)
  ·replace H0:=Z0 hc8 H0
   refine wp_skip ?_
   refine Zo ?_
   refine wp_seq ?_
   obtain ⟨e9,h10,H0⟩:=Zc H0
   refine r_a [5,15,25,35,170] (L:=[(0,_),(1,_),(2,_),(7,_)]) (hst.pick [0,1,2,3] rfl) hb Za
    (Am 25 rfl<|a_p [0] rfl (Zcu rfl rfl u_0 c_i)<|Am 0 rfl<|a_g [0,5] (Qg_t rfl (fun hG=>Z6 rfl rfl u_0))<|a_g [10,0] (Qg_t rfl (fun hG=>Zci rfl rfl (Opd.gd hG u_0) c_i))<|a_p [20,0] rfl (Zb5 rfl rfl u_0 (fun hz=>(Opd.gd hz u_1)))<|Am 0 rfl<|a_g [0,15] (Qg_t rfl (fun hG=>Z6 rfl rfl u_0))<|a_g [10,25] (Qg_t rfl (fun hG=>Z6 rfl rfl u_0))<|a_g [20,0] (Qg_t rfl (fun hG=>Zkb rfl rfl (Opd.gd hG u_0) c_i rfl))<|a_g [30,20,0] (Qg_t rfl (fun hG=>Zbw Tryz.underlying60 Zho rfl rfl (Opd.gd hG u_0) (Opd.gd hG u_1) (Zcb h10 hG)))<|a_g [40,0] (Qg_t rfl (fun hG=>Zl Zfg rfl rfl (Opd.gd hG u_0)))<|a_g [50,0] (Qg_t rfl (fun hG=>Z2 ty_9 rfl rfl (Opd.gd hG u_0)))<|a_g [60,35] (Qg_t rfl (fun hG=>Zl Zfg rfl rfl u_0))<|a_g [70,0] (Qg_t rfl (fun hG=>Z2 ty_9 rfl rfl (Opd.gd hG u_0)))<|a_g [80,20,0] (Qg_t rfl (fun hG=>Zqz rfl rfl (Opd.gd hG u_0) (Opd.gd hG u_1)))<|a_g [90,0] (Qg_t rfl (fun hG=>Zc2 rfl rfl (Opd.gd hG u_0)))<|a_p [100,0] rfl (Zb5 rfl rfl u_0 (fun hz=>(Opd.gd hz u_1)))<|a_n) (fun a g hst hb=>?_)
   refine wp_cond_split (hst.bool 4 rfl) (fun hc11=>?_) (fun hc11=>?_)
   ·replace H0:=Z1 hc11 H0
    refine r_a [0] (L:=[]) (hst.pick [] rfl) hb Za
     (a_p [] rfl (Zd rfl rfl c_i)<|a_n) (fun a g hst hb=>?_)
    refine wp_ret ?_
    refine Zt ?_
    obtain rfl:=Option.some.inj H0
    exact Z8 rfl hst hb (Zi (s:=6)) (hst.at 0 rfl)
   ·replace H0:=Z0 hc11 H0
    refine wp_skip ?_
    refine Zo ?_
    refine wp_seq ?_
    obtain ⟨e12,h13,H0⟩:=Zc H0;obtain ⟨r14,h15,H0⟩:=Zc H0
    refine r_a [150] (L:=[(0,_),(1,_),(2,_),(7,_)]) (hst.pick [0,1,2,3] rfl) hb Za
     (Am 25 rfl<|a_p [0] rfl (Zcu rfl rfl u_0 c_i)<|Am 0 rfl<|a_g [0,5] (Qg_t rfl (fun hG=>Z6 rfl rfl u_0))<|a_g [10,0] (Qg_t rfl (fun hG=>Zci rfl rfl (Opd.gd hG u_0) c_i))<|a_p [20,0] rfl (Zb5 rfl rfl u_0 (fun hz=>(Opd.gd hz u_1)))<|Am 0 rfl<|a_g [0,15] (Qg_t rfl (fun hG=>Z6 rfl rfl u_0))<|a_g [10,25] (Qg_t rfl (fun hG=>Z6 rfl rfl u_0))<|a_g [20,0] (Qg_t rfl (fun hG=>Zkb rfl rfl (Opd.gd hG u_0) c_i rfl))<|a_g [30,20,0] (Qg_t rfl (fun hG=>Zbw Tryz.underlying60 Zho rfl rfl (Opd.gd hG u_0) (Opd.gd hG u_1) (Zcb h13 hG)))<|a_g [40,0] (Qg_t rfl (fun hG=>Z2 Zfa rfl rfl (Opd.gd hG u_0)))<|a_g [50,35] (Qg_t rfl (fun hG=>Z2 Zfa rfl rfl u_0))<|a_g [60,10,0] (Qg_t rfl (fun hG=>Zr Zbg6 (Ztm _ _ (Zcb h15 hG)) rfl rfl (.cons (Opd.gd hG u_0) (.cons (Opd.gd hG u_1) .nil))))<|a_g [70,0] (Qg_t rfl (fun hG=>Zc2 rfl rfl (Opd.gd hG u_0)))<|a_p [80,0] rfl (Zb5 rfl rfl u_0 (fun hz=>(Opd.gd hz u_1)))<|a_n) (fun a g hst hb=>?_)
    refine wp_cond_split (hst.bool 0 rfl) (fun hc16=>?_) (fun hc16=>?_)
    ·replace H0:=Z1 hc16 H0
     refine r_a [0] (L:=[]) (hst.pick [] rfl) hb Za
      (a_p [] rfl (Zd rfl rfl c_i)<|a_n) (fun a g hst hb=>?_)
     refine wp_ret ?_
     refine Zt ?_
     obtain rfl:=Option.some.inj H0
     exact Z8 rfl hst hb (Zi (s:=6)) (hst.at 0 rfl)
    ·replace H0:=Z0 hc16 H0
     refine wp_skip ?_
     refine Zo ?_
     refine r_a [0] (L:=[]) (hst.pick [] rfl) hb Za
      (a_p [] rfl (Zd rfl rfl c_i)<|a_n) (fun a g hst hb=>?_)
     refine wp_ret ?_
     obtain rfl:=Option.some.inj H0
     exact Z8 rfl hst hb (Zi (s:=6)) (hst.at 0 rfl)
theorem Zue (a0:Zb) {r:Int} (h:Zd2 a0=some r):FnOk Tryz.prog 44 [(Zf.pd a0)] (pInt .i64 r):=by
 have H0:=h
 unfold Zd2 at H0
 clear h
 refine Zb4 (N:=96) Tryz.func44 rfl rfl (Qe rfl) rfl rfl (fun a g0 hst hb=>?_)
 refine r_a [0] (L:=[(0,_)]) hst hb Za
  (a_p [5] rfl (Zbq rfl rfl u_0)<|a_p [] rfl (Zd rfl rfl c_i)<|a_n) (fun a g hst hb=>?_)
 refine wp_seq ?_
 refine r_a [5,70] (L:=[(1,_)]) hst hb Za
  (Af Zga 5 rfl<|Al ty_3 0 rfl<|a_p [0] rfl (Zcv rfl rfl u_0 c_i)<|Am 0 rfl<|a_g [0,5] (Qg_f rfl (fun hG=>Zl Zga rfl rfl u_0))<|a_g [10,0] (Qg_f rfl (fun hG=>Z2 ty_3 rfl rfl (Opd.gd hG u_0)))<|a_g [20,0] (Qg_f rfl (fun hG=>Zcu rfl rfl (Opd.gd hG u_0) c_i))<|a_p [30,0] rfl (Zb2 rfl rfl u_0 (fun hz=>(Opd.gd (bNF hz) u_1)))<|a_n) (fun a g hst hb=>?_)
 refine wp_cond_split (hst.bool 1 rfl) (fun hc1=>?_) (fun hc1=>?_)
 ·replace H0:=Z1 hc1 H0
  refine r_a [0] (L:=[]) (hst.pick [] rfl) hb Za
   (a_p [] rfl (Zd rfl rfl c_i)<|a_n) (fun a g hst hb=>?_)
  refine wp_ret ?_
  refine Zt ?_
  obtain rfl:=Option.some.inj H0
  exact Z8 rfl hst hb (Zi (s:=2)) (hst.at 0 rfl)
 ·replace H0:=Z0 hc1 H0
  refine wp_skip ?_
  refine Zo ?_
  refine wp_seq ?_
  obtain ⟨r2,h3,H0⟩:=Zc H0;obtain ⟨r4,h5,H0⟩:=Zc H0
  refine r_a [5,50] (L:=[(1,_)]) (hst.pick [0] rfl) hb Za
   (Al Zbr 5 rfl<|Af Zga 5 rfl<|Al ty_3 0 rfl<|a_p [0] rfl (Zr Zbi0 (Zsx _ h3) rfl rfl (.cons u_0 .nil))<|a_p [30,0] rfl (Zr Zbjt (Zu0 _ _ h5) rfl rfl (.cons u_0 (.cons u_1 .nil)))<|a_p [0] rfl (Zc2 rfl rfl u_0)<|a_n) (fun a g hst hb=>?_)
  refine wp_cond_split (hst.bool 1 rfl) (fun hc6=>?_) (fun hc6=>?_)
  ·replace H0:=Z1 hc6 H0
   refine r_a [0] (L:=[]) (hst.pick [] rfl) hb Za
    (a_p [] rfl (Zd rfl rfl c_i)<|a_n) (fun a g hst hb=>?_)
   refine wp_ret ?_
   refine Zt ?_
   obtain rfl:=Option.some.inj H0
   exact Z8 rfl hst hb (Zi (s:=2)) (hst.at 0 rfl)
  ·replace H0:=Z0 hc6 H0
   refine wp_skip ?_
   refine Zo ?_
   refine wp_seq ?_
   refine r_a [5,80] (L:=[(1,_)]) (hst.pick [0] rfl) hb Za
    (Af Zga 5 rfl<|Al ty_3 0 rfl<|a_p [0] rfl (Zci rfl rfl u_0 c_i)<|Am 0 rfl<|a_g [0,5] (Qg_t rfl (fun hG=>Zl Zkp rfl rfl u_0))<|a_g [10,0] (Qg_t rfl (fun hG=>Z2 ty_9 rfl rfl (Opd.gd hG u_0)))<|a_g [20,0] (Qg_t rfl (fun hG=>Zhf Tryz.underlying9 rfl rfl (Opd.gd hG u_0)))<|a_g [30,0] (Qg_t rfl (fun hG=>Zcu rfl rfl (Opd.gd hG u_0) c_i))<|a_p [40,0] rfl (Zb5 rfl rfl u_0 (fun hz=>(Opd.gd hz u_1)))<|a_n) (fun a g hst hb=>?_)
   refine wp_cond_split (hst.bool 1 rfl) (fun hc7=>?_) (fun hc7=>?_)
   ·replace H0:=Z1 hc7 H0
    refine r_a [0] (L:=[]) (hst.pick [] rfl) hb Za
     (a_p [] rfl (Zd rfl rfl c_i)<|a_n) (fun a g hst hb=>?_)
    refine wp_ret ?_
    refine Zt ?_
    obtain rfl:=Option.some.inj H0
    exact Z8 rfl hst hb (Zi (s:=2)) (hst.at 0 rfl)
   ·replace H0:=Z0 hc7 H0
    refine wp_skip ?_
    refine Zo ?_
    refine r_a [5,0] (L:=[(1,_)]) (hst.pick [0] rfl) hb Za
     (a_p [] rfl (Zd rfl rfl c_i)<|a_n) (fun a g hst hb=>?_)
    refine wp_seq ?_
    refine r_a [5,290] (L:=[(1,_),(3,_)]) hst hb Za
     (Af Zga 5 rfl<|Al ty_3 0 rfl<|a_p [0] rfl (Zci rfl rfl u_0 c_i)<|Am 0 rfl<|a_g [0,5] (Qg_t rfl (fun hG=>Zl Zko rfl rfl u_0))<|a_g [10,0] (Qg_t rfl (fun hG=>Z2 ty_2 rfl rfl (Opd.gd hG u_0)))<|a_g [20,15] (Qg_t rfl (fun hG=>Z6 rfl rfl u_0))<|a_g [30,0] (Qg_t rfl (fun hG=>Zbaj rfl rfl (Opd.gd hG u_0) rfl))<|a_g [40,20,0] (Qg_t rfl (fun hG=>Zcv rfl rfl (Opd.gd hG u_0) (Opd.gd hG u_1)))<|a_g [50,0] (Qg_t rfl (fun hG=>Z6 rfl rfl (Opd.gd hG u_0)))<|a_g [0,5] (Qg_fi rfl (fun hG=>Zl Zkn rfl rfl u_0))<|a_g [10,0] (Qg_fi rfl (fun hG=>Z2 ty_2 rfl rfl (Opd.gd hG u_0)))<|a_g [20,15] (Qg_fi rfl (fun hG=>Z6 rfl rfl u_0))<|a_g [30,10,0] (Qg_fi rfl (fun hG=>Zcu rfl rfl (Opd.gd hG u_0) (Opd.gd hG u_1)))<|a_g [100,40,0] (Qg_t rfl (fun hG=>Zb2 rfl rfl (Opd.gd hG u_0) (fun hz=>(Opd.gd (bA hG (bNF hz)) u_1))))<|a_g [110,0] (Qg_t rfl (fun hG=>Z6 rfl rfl (Opd.gd hG u_0)))<|a_g [0,5] (Qg_fi rfl (fun hG=>Zl Zez rfl rfl u_0))<|a_g [10,0] (Qg_fi rfl (fun hG=>Z2 ty_2 rfl rfl (Opd.gd hG u_0)))<|a_g [20,5] (Qg_fi rfl (fun hG=>Zl Zko rfl rfl u_0))<|a_g [30,0] (Qg_fi rfl (fun hG=>Z2 ty_2 rfl rfl (Opd.gd hG u_0)))<|a_g [40,20,0] (Qg_fi rfl (fun hG=>Zcv rfl rfl (Opd.gd hG u_0) (Opd.gd hG u_1)))<|a_g [170,50,0] (Qg_t rfl (fun hG=>Zb2 rfl rfl (Opd.gd hG u_0) (fun hz=>(Opd.gd (bA hG (bNF hz)) u_1))))<|a_g [180,0] (Qg_t rfl (fun hG=>Z6 rfl rfl (Opd.gd hG u_0)))<|a_g [0,5] (Qg_fi rfl (fun hG=>Zl Zez rfl rfl u_0))<|a_g [10,0] (Qg_fi rfl (fun hG=>Z2 ty_2 rfl rfl (Opd.gd hG u_0)))<|a_g [20,5] (Qg_fi rfl (fun hG=>Zl Zkn rfl rfl u_0))<|a_g [30,0] (Qg_fi rfl (fun hG=>Z2 ty_2 rfl rfl (Opd.gd hG u_0)))<|a_g [40,20,0] (Qg_fi rfl (fun hG=>Zcu rfl rfl (Opd.gd hG u_0) (Opd.gd hG u_1)))<|a_g [240,50,0] (Qg_t rfl (fun hG=>Zb2 rfl rfl (Opd.gd hG u_0) (fun hz=>(Opd.gd (bA hG (bNF hz)) u_1))))<|a_p [250,0] rfl (Zb5 rfl rfl u_0 (fun hz=>(Opd.gd hz u_1)))<|a_n) (fun a g hst hb=>?_)
    refine wp_cond_split (hst.bool 1 rfl) (fun hc8=>?_) (fun hc8=>?_)
    ·replace H0:=Z1 hc8 H0
     refine r_a [0] (L:=[]) (hst.pick [] rfl) hb Za
      (a_p [] rfl (Zd rfl rfl c_i)<|a_n) (fun a g hst hb=>?_)
     refine wp_ret ?_
     refine Zt ?_
     obtain rfl:=Option.some.inj H0
     exact Z8 rfl hst hb (Zi (s:=2)) (hst.at 0 rfl)
    ·replace H0:=Z0 hc8 H0
     refine wp_skip ?_
     refine Zo ?_
     refine wp_seq ?_
     obtain ⟨r9,h10,H0⟩:=Zc H0
     refine r_a [5,30] (L:=[(1,_)]) (hst.pick [0] rfl) hb Za
      (Af Zlx 5 rfl<|Al Zd7 0 rfl<|a_p [0] rfl (Zr Zbex (Zo5 _ h10) rfl rfl (.cons u_0 .nil))<|a_p [0] rfl (Zc2 rfl rfl u_0)<|a_n) (fun a g hst hb=>?_)
     refine wp_cond_split (hst.bool 1 rfl) (fun hc11=>?_) (fun hc11=>?_)
     ·replace H0:=Z1 hc11 H0
      refine r_a [0] (L:=[]) (hst.pick [] rfl) hb Za
       (a_p [] rfl (Zd rfl rfl c_i)<|a_n) (fun a g hst hb=>?_)
      refine wp_ret ?_
      refine Zt ?_
      obtain rfl:=Option.some.inj H0
      exact Z8 rfl hst hb (Zi (s:=2)) (hst.at 0 rfl)
     ·replace H0:=Z0 hc11 H0
      refine wp_skip ?_
      refine Zo ?_
      refine wp_seq ?_
      refine r_a [5,20] (L:=[(1,_)]) (hst.pick [0] rfl) hb Za
       (Af Zga 5 rfl<|Al ty_3 0 rfl<|a_p [0] rfl (Zcv rfl rfl u_0 c_i)<|a_n) (fun a g hst hb=>?_)
      refine wp_cond_split (hst.bool 1 rfl) (fun hc12=>?_) (fun hc12=>?_)
      ·replace H0:=Z1 hc12 H0
       refine r_a [0] (L:=[]) (hst.pick [] rfl) hb Za
        (a_p [] rfl (Zd rfl rfl c_i)<|a_n) (fun a g hst hb=>?_)
       refine wp_ret ?_
       refine Zt ?_
       obtain rfl:=Option.some.inj H0
       exact Z8 rfl hst hb (Zi (s:=2)) (hst.at 0 rfl)
      ·replace H0:=Z0 hc12 H0
       refine wp_skip ?_
       refine Zo ?_
       refine wp_seq ?_
       refine r_a [5,70] (L:=[(1,_)]) (hst.pick [0] rfl) hb Za
        (Af Zin 5 rfl<|Al ty_3 0 rfl<|a_p [0] rfl (Zcv rfl rfl u_0 c_i)<|Am 0 rfl<|a_g [0,5] (Qg_f rfl (fun hG=>Zl Zin rfl rfl u_0))<|a_g [10,0] (Qg_f rfl (fun hG=>Z2 ty_3 rfl rfl (Opd.gd hG u_0)))<|a_g [20,0] (Qg_f rfl (fun hG=>Zcu rfl rfl (Opd.gd hG u_0) c_i))<|a_p [30,0] rfl (Zb2 rfl rfl u_0 (fun hz=>(Opd.gd (bNF hz) u_1)))<|a_n) (fun a g hst hb=>?_)
       refine wp_cond_split (hst.bool 1 rfl) (fun hc13=>?_) (fun hc13=>?_)
       ·replace H0:=Z1 hc13 H0
        refine r_a [0] (L:=[]) (hst.pick [] rfl) hb Za
         (a_p [] rfl (Zd rfl rfl c_i)<|a_n) (fun a g hst hb=>?_)
        refine wp_ret ?_
        refine Zt ?_
        obtain rfl:=Option.some.inj H0
        exact Z8 rfl hst hb (Zi (s:=2)) (hst.at 0 rfl)
       ·replace H0:=Z0 hc13 H0
        refine wp_skip ?_
        refine Zo ?_
        refine wp_seq ?_
        refine r_a [5,50] (L:=[(1,_)]) (hst.pick [0] rfl) hb Za
         (Af Zc6 5 rfl<|Al Zeg 0 rfl<|a_p [0] rfl (Zbx Tryz.underlying60 rfl rfl u_0)<|Af Zin 5 rfl<|Al ty_3 0 rfl<|a_p [20,0] rfl (Zcu rfl rfl u_0 u_1)<|a_n) (fun a g hst hb=>?_)
        refine wp_cond_split (hst.bool 1 rfl) (fun hc14=>?_) (fun hc14=>?_)
        ·replace H0:=Z1 hc14 H0
         refine r_a [0] (L:=[]) (hst.pick [] rfl) hb Za
          (a_p [] rfl (Zd rfl rfl c_i)<|a_n) (fun a g hst hb=>?_)
         refine wp_ret ?_
         refine Zt ?_
         obtain rfl:=Option.some.inj H0
         exact Z8 rfl hst hb (Zi (s:=2)) (hst.at 0 rfl)
        ·replace H0:=Z0 hc14 H0
         refine wp_skip ?_
         refine Zo ?_
         refine wp_seq ?_
         refine r_a [5,0] (L:=[(1,_)]) (hst.pick [0] rfl) hb Za
          (a_p [] rfl (Zd rfl rfl c_i)<|a_n) (fun a g hst hb=>?_)
         obtain ⟨z20,hz1,H0⟩:=Zc H0
         refine Zbt (fun a w=>∃ (g:G),w=g.w ∧ St 96 [] a g ∧ Base g0 g ∧ (.inr ())=z20) ?_ ?_
         ·rintro a w ⟨g,rfl,hst,hb,rfl⟩
          refine Zo ?_
          refine r_a [0] (L:=[]) hst hb Za
           (a_p [] rfl (Zd rfl rfl c_i)<|a_n) (fun a g hst hb=>?_)
          refine wp_ret ?_
          obtain rfl:=Option.some.inj H0
          exact Z8 rfl hst hb (Zi (s:=2)) (hst.at 0 rfl)
         ·refine wp_block ?_
          refine wp_loop_ghost (fun n a w=>∃ (x15:Int) (g:G),w=g.w ∧ St 96 [(1,(Zf.ptr a0)),(4,(pInt .i64 x15))] a g ∧ Base g0 g ∧ Zes a0 n x15=some z20) (Int.toNat ((a0.List.length:Int) - (0:Int)) + 1) ⟨(0:Int),g,rfl,(hst.pick [0,1] rfl),hb,hz1⟩ (fun n a w hI=>?_)
          obtain ⟨x15,g,rfl,hst,hb,H1⟩:=hI
          cases n with
          | zero=>exact absurd H1 (by simp [Zes])
          | succ n =>
           rw [Zes] at H1
           refine wp_seq ?_
           refine r_a [5,15,40] (L:=[(1,_),(4,_)]) hst hb Za
            (Am 15 rfl<|Af Zc6 5 rfl<|Al Zeg 0 rfl<|a_p [0] rfl (Zbx Tryz.underlying60 rfl rfl u_0)<|a_p [30,0] rfl (Zcv rfl rfl u_0 u_1)<|a_n) (fun a g hst hb=>?_)
           refine wp_cond_split (hst.bool 2 rfl) (fun hc16=>?_) (fun hc16=>?_)
           ·replace H1:=Z1 hc16 H1
            refine wp_skip ?_
            refine Zo ?_
            refine wp_seq ?_
            refine wp_block ?_
            obtain ⟨r17,h18,H1⟩:=Zc H1
            refine r_a [5,15,60] (L:=[(1,_),(4,_)]) (hst.pick [0,1] rfl) hb Za
             (Af Zga 5 rfl<|Al ty_3 0 rfl<|Af Zc6 5 rfl<|Al Zeg 0 rfl<|Am 15 rfl<|a_p [30,10,0] rfl (Zr Zbi3 (Zuz _ _ _ h18) rfl rfl (.cons u_0 (.cons u_1 (.cons u_2 .nil))))<|Aa 0 rfl<|a_n) (fun a g hst hb=>?_)
            refine r_a [5,15,25,10] (L:=[(1,_),(4,_),(5,_)]) hst hb Za
             (Am 25 rfl<|a_p [0] rfl (Zdd rfl rfl u_0 c_i)<|a_n) (fun a g hst hb=>?_)
            refine wp_cond_split (hst.bool 3 rfl) (fun hc19=>?_) (fun hc19=>?_)
            ·replace H1:=Z1 hc19 H1
             refine r_a [10] (L:=[(5,_)]) (hst.pick [2] rfl) hb Za
              (Am 5 rfl<|Aa 0 rfl<|a_n) (fun a g hst hb=>?_)
             refine wp_ret ?_
             refine Z5 ?_
             refine Zt ?_
             refine Zt ?_
             refine Z5 ?_
             refine Zt ?_
             refine Zt ?_
             obtain rfl:=Option.some.inj H1
             obtain rfl:=Option.some.inj H0
             exact Z8 rfl hst hb (Zi (s:=2)) (hst.at 0 rfl)
            ·replace H1:=Z0 hc19 H1
             refine wp_skip ?_
             refine Zbn ?_
             refine Zo ?_
             refine r_b [5,20] (L:=[(1,_),(4,_)]) (hst.pick [0,1] rfl) hb Za
              (Am 15 rfl<|a_p [0] rfl (Zcf rfl rfl u_0 c_i rfl)<|Aa 0 rfl<|a_n) (fun a g hst hb=>?_)
             exact ⟨n,Nat.lt_succ_self _,(IntKind.i64.wrap (x15 + (1:Int))),g,rfl,(hst.pick [0,1] rfl),hb,H1⟩
           ·replace H1:=Z0 hc16 H1
            refine wp_exit ?_
            refine Zb0 ?_
            refine Zb0 ?_
            refine Zcj ?_
            exact ⟨g,rfl,(hst.pick [] rfl),hb,Option.some.inj H1⟩
theorem Zrf (a0:Zx) (a1:ByteArray) {r:Int} (h:Zfv a0 a1=some r):FnOk Tryz.prog 45 [(Zcc.pd a0),(pStr a1)] (pInt .i64 r):=by
 have H0:=h
 unfold Zfv at H0
 clear h
 refine Zb4 (N:=24) Tryz.func45 rfl rfl (Qe rfl) rfl rfl (fun a g0 hst hb=>?_)
 refine r_a [15,0] (L:=[(0,_),(1,_)]) hst hb Za
  (a_p [5] rfl (Zbq rfl rfl u_0)<|a_p [] rfl (Zd rfl rfl c_i)<|a_n) (fun a g hst hb=>?_)
 refine r_a [5,15,0] (L:=[(1,_),(2,_)]) hst hb Za
  (a_p [] rfl (Zd rfl rfl c_i)<|a_n) (fun a g hst hb=>?_)
 obtain ⟨z6,hz1,H0⟩:=Zc H0
 refine wp_seq ?_
 refine Zbt (fun a w=>∃ (y5:Int) (g:G),w=g.w ∧ St 24 [(5,(pInt .i64 y5))] a g ∧ Base g0 g ∧ y5=z6) ?_ ?_
 ·rintro a w ⟨y5,g,rfl,hst,hb,rfl⟩
  refine Zo ?_
  refine r_a [10] (L:=[(5,_)]) hst hb Za
   (Am 5 rfl<|Aa 0 rfl<|a_n) (fun a g hst hb=>?_)
  refine wp_ret ?_
  obtain rfl:=Option.some.inj H0
  exact Z8 rfl hst hb (Zi (s:=4)) (hst.at 0 rfl)
 ·refine wp_block ?_
  refine wp_loop_ghost (fun n a w=>∃ (x1:Int) (g:G),w=g.w ∧ St 24 [(1,(pStr a1)),(2,(Zcc.ptr a0)),(5,(pInt .i64 x1))] a g ∧ Base g0 g ∧ Zdl a0 a1 n x1=some z6) (Int.toNat ((a0.L.length:Int) - (0:Int)) + 1) ⟨(0:Int),g,rfl,(hst.pick [0,1,2] rfl),hb,hz1⟩ (fun n a w hI=>?_)
  obtain ⟨x1,g,rfl,hst,hb,H1⟩:=hI
  cases n with
  | zero=>exact absurd H1 (by simp [Zdl])
  | succ n =>
   rw [Zdl] at H1
   refine wp_seq ?_
   obtain ⟨e2,h3,H1⟩:=Zc H1
   refine r_a [5,15,25,140] (L:=[(1,_),(2,_),(5,_)]) hst hb Za
    (Am 25 rfl<|Af Zqh 15 rfl<|Al Zud 0 rfl<|a_p [0] rfl (Zbx Tryz.underlying22 rfl rfl u_0)<|a_p [30,0] rfl (Zcv rfl rfl u_0 u_1)<|Am 0 rfl<|a_g [0,15] (Qg_t rfl (fun hG=>Zl Zqh rfl rfl u_0))<|a_g [10,0] (Qg_t rfl (fun hG=>Z2 Zud rfl rfl (Opd.gd hG u_0)))<|a_g [20,25] (Qg_t rfl (fun hG=>Z6 rfl rfl u_0))<|a_g [30,10,0] (Qg_t rfl (fun hG=>Zbw Tryz.underlying22 Zzx rfl rfl (Opd.gd hG u_0) (Opd.gd hG u_1) (Zcb h3 hG)))<|a_g [40,0] (Qg_t rfl (fun hG=>Zl Ztg rfl rfl (Opd.gd hG u_0)))<|a_g [50,0] (Qg_t rfl (fun hG=>Z2 ty_9 rfl rfl (Opd.gd hG u_0)))<|a_g [60,5] (Qg_t rfl (fun hG=>Z6 rfl rfl u_0))<|a_g [70,10,0] (Qg_t rfl (fun hG=>Zqz rfl rfl (Opd.gd hG u_0) (Opd.gd hG u_1)))<|a_p [80,0] rfl (Zb5 rfl rfl u_0 (fun hz=>(Opd.gd hz u_1)))<|a_n) (fun a g hst hb=>?_)
   refine wp_cond_split (hst.bool 3 rfl) (fun hc4=>?_) (fun hc4=>?_)
   ·replace H1:=Z1 hc4 H1
    refine wp_skip ?_
    refine Zo ?_
    refine wp_block ?_
    refine r_b [5,15,20] (L:=[(1,_),(2,_),(5,_)]) (hst.pick [0,1,2] rfl) hb Za
     (Am 25 rfl<|a_p [0] rfl (Zcf rfl rfl u_0 c_i rfl)<|Aa 0 rfl<|a_n) (fun a g hst hb=>?_)
    refine Zbn ?_
    exact ⟨n,Nat.lt_succ_self _,(IntKind.i64.wrap (x1 + (1:Int))),g,rfl,(hst.pick [0,1,2] rfl),hb,H1⟩
   ·replace H1:=Z0 hc4 H1
    refine wp_exit ?_
    refine Zb0 ?_
    refine Zb0 ?_
    refine Zcj ?_
    exact ⟨x1,g,rfl,(hst.pick [2] rfl),hb,Option.some.inj H1⟩
theorem Zr0 (a0:Zx) (a1:ByteArray) (a2:Zb) {r:Zx × Int} (h:Zf9 a0 a1 a2=some r):FnOk Tryz.prog 19 [(Zcc.pd a0),(pStr a1),(Zf.pd a2)] (pTup [(Zcc.pd r.1),(pInt .i64 r.2)]):=by
 have H0:=h
 unfold Zf9 at H0
 clear h
 refine Zb4 (N:=80) Tryz.func19 rfl rfl (Qe rfl) rfl rfl (fun a g0 hst hb=>?_)
 refine r_a [15,0,10,20] (L:=[(0,_),(1,_),(2,_)]) hst hb Za
  (a_p [5] rfl (Zbq rfl rfl u_0)<|a_p [25] rfl (Zbq rfl rfl u_0)<|a_p (outs:=[(6,(pBox Zcc 6 (default:Zx)))]) (S:=[7]) [] rfl (Zbl (zs:=[.slice none 0 0,.int .i64 0]) (by kernel_rfl) (fun g=>Zpv g) rfl rfl)<|a_p [] rfl (Zd rfl rfl c_i)<|a_n) (fun a g hst hb=>?_)
 refine wp_seq ?_
 refine r_a [5,15,25,35,70] (L:=[(1,_),(3,_),(5,_),(6,_)]) hst hb Za
  (Am 5 rfl<|a_p [0] rfl (Zhf Tryz.underlying9 rfl rfl u_0)<|a_p [0] rfl (Zcv rfl rfl u_0 c_i)<|Am 0 rfl<|a_g [0,5] (Qg_f rfl (fun hG=>Z6 rfl rfl u_0))<|a_g [10,0] (Qg_f rfl (fun hG=>Zhf Tryz.underlying9 rfl rfl (Opd.gd hG u_0)))<|a_g [20,0] (Qg_f rfl (fun hG=>Zcu rfl rfl (Opd.gd hG u_0) c_i))<|a_p [30,0] rfl (Zb2 rfl rfl u_0 (fun hz=>(Opd.gd (bNF hz) u_1)))<|a_n) (fun a g hst hb=>?_)
 refine wp_cond_split (hst.bool 4 rfl) (fun hc1=>?_) (fun hc1=>?_)
 ·replace H0:=Z1 hc1 H0
  refine r_a [10,20] (L:=[(3,_),(6,_)]) (hst.pick [1,3] rfl) hb Za
   (Al Zmk 5 rfl<|a_p [0,15] rfl (Zbg Zmk rfl rfl u_1 u_0)<|a_p [] rfl (Zd rfl rfl c_i)<|a_n) (fun a g hst hb=>?_)
  refine wp_ret ?_
  refine Zt ?_
  obtain rfl:=Option.some.inj H0
  obtain ⟨u0,hu0,hq0⟩:=Zbo (P:=Tryz.prog) Zmk (hst.at 0 rfl)
  exact Zev rfl hst hb hu0 (Zi (s:=7)) (Zdc hq0 (hst.at 1 rfl))
 ·replace H0:=Z0 hc1 H0
  refine wp_skip ?_
  refine Zo ?_
  obtain ⟨r2,h3,H0⟩:=Zc H0
  refine r_a [5,15,25,35,20] (L:=[(1,_),(3,_),(5,_),(6,_)]) (hst.pick [0,1,2,3] rfl) hb Za
   (Al Zbr 25 rfl<|a_p [0] rfl (Zr Zbj8 (Zue _ h3) rfl rfl (.cons u_0 .nil))<|Aa 0 rfl<|a_n) (fun a g hst hb=>?_)
  refine wp_seq ?_
  refine r_a [5,15,25,35,45,10] (L:=[(1,_),(3,_),(5,_),(6,_),(8,_)]) hst hb Za
   (Am 45 rfl<|a_p [0] rfl (Zdd rfl rfl u_0 c_i)<|a_n) (fun a g hst hb=>?_)
  refine wp_cond_split (hst.bool 5 rfl) (fun hc4=>?_) (fun hc4=>?_)
  ·replace H0:=Z1 hc4 H0
   refine r_a [20,30] (L:=[(3,_),(6,_),(8,_)]) (hst.pick [1,3,4] rfl) hb Za
    (Al Zmk 5 rfl<|Am 25 rfl<|a_p [10,15] rfl (Zbg Zmk rfl rfl u_1 u_0)<|Aa 10 rfl<|a_n) (fun a g hst hb=>?_)
   refine wp_ret ?_
   refine Zt ?_
   obtain rfl:=Option.some.inj H0
   obtain ⟨u0,hu0,hq0⟩:=Zbo (P:=Tryz.prog) Zmk (hst.at 0 rfl)
   exact Zev rfl hst hb hu0 (Zi (s:=7)) (Zdc hq0 (hst.at 1 rfl))
  ·replace H0:=Z0 hc4 H0
   refine wp_skip ?_
   refine Zo ?_
   obtain ⟨r5,h6,H0⟩:=Zc H0
   refine r_a [5,15,25,35,30] (L:=[(1,_),(3,_),(5,_),(6,_)]) (hst.pick [0,1,2,3] rfl) hb Za
    (Al Zmk 15 rfl<|Am 5 rfl<|a_p [10,0] rfl (Zr Zbks (Zrf _ _ h6) rfl rfl (.cons u_0 (.cons u_1 .nil)))<|Aa 0 rfl<|a_n) (fun a g hst hb=>?_)
   obtain ⟨e7,h8,H0⟩:=Zc H0
   refine r_a [5,15,25,35,45,150] (L:=[(1,_),(3,_),(5,_),(6,_),(9,_)]) hst hb Za
    (Am 45 rfl<|Af Zqh 15 rfl<|Al Zud 0 rfl<|a_p [0] rfl (Zbx Tryz.underlying22 rfl rfl u_0)<|a_p [30,0] rfl (Zcv rfl rfl u_0 u_1)<|Am 0 rfl<|a_g [0,15] (Qg_t rfl (fun hG=>Zl Zqh rfl rfl u_0))<|a_g [10,0] (Qg_t rfl (fun hG=>Z2 Zud rfl rfl (Opd.gd hG u_0)))<|a_g [20,45] (Qg_t rfl (fun hG=>Z6 rfl rfl u_0))<|a_g [30,10,0] (Qg_t rfl (fun hG=>Zbw Tryz.underlying22 Zzx rfl rfl (Opd.gd hG u_0) (Opd.gd hG u_1) (Zcb h8 hG)))<|a_g [40,0] (Qg_t rfl (fun hG=>Zl Ztg rfl rfl (Opd.gd hG u_0)))<|a_g [50,0] (Qg_t rfl (fun hG=>Z2 ty_9 rfl rfl (Opd.gd hG u_0)))<|a_g [60,5] (Qg_t rfl (fun hG=>Z6 rfl rfl u_0))<|a_g [70,10,0] (Qg_t rfl (fun hG=>Zqv rfl rfl (Opd.gd hG u_0) (Opd.gd hG u_1)))<|a_p [80,0] rfl (Zb5 rfl rfl u_0 (fun hz=>(Opd.gd hz u_1)))<|Aa 0 rfl<|a_n) (fun a g hst hb=>?_)
   refine wp_seq ?_
   refine r_a [5,15,25,35,45,55,90] (L:=[(1,_),(3,_),(5,_),(6,_),(9,_),(10,_)]) hst hb Za
    (Am 55 rfl<|a_p [0] rfl (Zc2 rfl rfl u_0)<|Am 0 rfl<|a_g [0,15] (Qg_t rfl (fun hG=>Zl Zqh rfl rfl u_0))<|a_g [10,0] (Qg_t rfl (fun hG=>Z2 Zud rfl rfl (Opd.gd hG u_0)))<|a_g [20,0] (Qg_t rfl (fun hG=>Zbx Tryz.underlying22 rfl rfl (Opd.gd hG u_0)))<|a_g [30,15] (Qg_t rfl (fun hG=>Zl Z7j rfl rfl u_0))<|a_g [40,0] (Qg_t rfl (fun hG=>Z2 ty_3 rfl rfl (Opd.gd hG u_0)))<|a_g [50,20,0] (Qg_t rfl (fun hG=>Zre rfl rfl (Opd.gd hG u_0) (Opd.gd hG u_1)))<|a_p [60,0] rfl (Zb5 rfl rfl u_0 (fun hz=>(Opd.gd hz u_1)))<|a_n) (fun a g hst hb=>?_)
   refine wp_cond_split (hst.bool 6 rfl) (fun hc9=>?_) (fun hc9=>?_)
   ·replace H0:=Z1 hc9 H0
    refine r_a [10,20] (L:=[(3,_),(6,_)]) (hst.pick [1,3] rfl) hb Za
     (Al Zmk 5 rfl<|a_p [0,15] rfl (Zbg Zmk rfl rfl u_1 u_0)<|a_p [] rfl (Zd rfl rfl c_i)<|a_n) (fun a g hst hb=>?_)
    refine wp_ret ?_
    refine Zt ?_
    obtain rfl:=Option.some.inj H0
    obtain ⟨u0,hu0,hq0⟩:=Zbo (P:=Tryz.prog) Zmk (hst.at 0 rfl)
    exact Zev rfl hst hb hu0 (Zi (s:=7)) (Zdc hq0 (hst.at 1 rfl))
   ·replace H0:=Z0 hc9 H0
    refine wp_skip ?_
    refine Zo ?_
    obtain ⟨c10,h11,H0⟩:=Zc H0;obtain ⟨h12,H0⟩:=Ze0 H0
    refine r_a [5,15,25,35,45,55,60] (L:=[(1,_),(3,_),(5,_),(6,_),(9,_),(10,_)]) (hst.pick [0,1,2,3,4,5] rfl) hb Za
     (a_p [] rfl (Z1w 56 Zys (xs:=[]) .nil (by decide) rfl rfl)<|Af Zqh 15 rfl<|Al Zud 0 rfl<|Am 45 rfl<|a_p [10,0] rfl (Zwo Tryz.underlying22 Zzx rfl rfl u_0 u_1 h11)<|a_p [40,0] rfl (Zfc Zys rfl rfl u_0 u_1 h12)<|Aa 0 rfl<|a_n) (fun a g hst hb=>?_)
    obtain ⟨h13,H0⟩:=Ze0 H0
    refine r_a [15,35,45,55,60] (L:=[(1,_),(3,_),(5,_),(6,_),(9,_),(10,_),(11,_)]) hst hb Za
     (Am 65 rfl<|Am 5 rfl<|Al Zbr 25 rfl<|a_p [10,0] rfl (Zbbu rfl rfl u_0 u_1)<|a_p [0] rfl (Zjd Zys (xs:=[.tmp 65]) (.cons u_0 .nil) (by decide) rfl rfl)<|a_p [40,0] rfl (Zfc Zys rfl rfl u_0 u_1 h13)<|Aa 0 rfl<|a_n) (fun a g hst hb=>?_)
    refine wp_seq ?_
    refine r_a [5,15,25,45,0] (L:=[(3,_),(6,_),(9,_),(10,_),(11,_)]) hst hb Za
     (Am 35 rfl<|a_n) (fun a g hst hb=>?_)
    refine Zbt (fun a w=>∃ (j15:Int) (g:G),w=g.w ∧ St 80 [(3,(Zcc.ptr a0)),(6,(pBox Zcc 6 (default:Zx))),(9,(pInt .i64 j15)),(11,(pRow Zck 64 56 ((([]:List Zbj) ++ c10) ++ ([({ Key:=a1,Rec:=a2 }:Zbj)]:List Zbj))))] a g ∧ Base g0 g ∧ Ze9 a0 a1 a2 c10 j15=some r) ?_ ?_
    ·rintro a w ⟨j15,g,rfl,hst,hb,H0⟩
     unfold Ze9 at H0
     refine Zo ?_
     obtain ⟨c16,h17,H0⟩:=Zc H0;obtain ⟨h18,H0⟩:=Ze0 H0
     refine r_a [90,100] (L:=[(3,_),(6,_),(9,_),(11,_)]) hst hb Za
      (Am 35 rfl<|Af Zqh 5 rfl<|Al Zud 0 rfl<|Am 25 rfl<|a_p [10,0] rfl (Z7l Tryz.underlying22 Zzx rfl rfl u_0 u_1 h17)<|a_p [40,0] rfl (Zfc Zys rfl rfl u_0 u_1 h18)<|Af Z7j 5 rfl<|Al ty_3 0 rfl<|a_p [20,0] rfl (Z92 rfl rfl (Opd.imp u_0 (fun _ _ h=>Zne h)) u_1)<|a_p [0,15] rfl (Zbg Zmk rfl rfl u_1 u_0)<|a_p [] rfl (Zd rfl rfl c_i)<|a_n) (fun a g hst hb=>?_)
     refine wp_ret ?_
     obtain rfl:=Option.some.inj H0
     obtain ⟨u0,hu0,hq0⟩:=Zbo (P:=Tryz.prog) Zmk (hst.at 0 rfl)
     exact Zev rfl hst hb hu0 (Zi (s:=7)) (Zdc hq0 (hst.at 1 rfl))
    ·refine wp_cond_split (hst.bool 4 rfl) (fun hc14=>?_) (fun hc14=>?_)
     ·replace H0:=Z1 hc14 H0
      refine r_b [5,15,20,35] (L:=[(3,_),(6,_),(9,_),(11,_)]) (hst.pick [0,1,2,3] rfl) hb Za
       (Am 25 rfl<|a_p [0] rfl (Zcf rfl rfl u_0 c_i rfl)<|Aa 0 rfl<|a_n) (fun a g hst hb=>?_)
      exact ⟨(IntKind.i64.wrap (r5 + (1:Int))),g,rfl,(hst.pick [0,1,2,3] rfl),hb,H0⟩
     ·replace H0:=Z0 hc14 H0
      refine wp_skip ?_
      exact ⟨r5,g,rfl,(hst.pick [0,1,2,3] rfl),hb,H0⟩
end Go.CL
