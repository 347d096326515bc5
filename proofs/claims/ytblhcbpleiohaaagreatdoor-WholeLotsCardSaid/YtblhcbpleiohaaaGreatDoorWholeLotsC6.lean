/- A part of the proof of WholeLots. -/
import Derived.Test.YtblhcbpleiohaaaGreatDoorWholeLotsC5
import Derived.KernelRfl
import Derived.Laws.Strings
set_option linter.unusedVariables false
set_option linter.unusedSimpArgs false
set_option maxRecDepth 100000
namespace Go.CL
open Go Go.RowKit Go.Proofs
theorem Zw5 (a0:Zb) (a1:Zs) (a2:Zj) {r:Int × Zb × Zj} (h:Zlu a0 a1 a2=some r):FnB Tryz.prog 125 [.box Zf a0 r.2.1,.val (Zy.pd a1),.box Z3 a2 r.2.2] (pInt .i64 r.1):=by
 have H0:=h
 unfold Zlu at H0
 clear h
 refine Ze8 (N:=32) Tryz.func125 rfl rfl (Qe rfl) rfl rfl (fun a g0 bs hbs hst hb=>?_)
 obtain ⟨b0,b2,rfl⟩:=Zop hbs
 replace hst:St 32 [(0,(Zbi (some b0) Zf 0 a0)),(1,(Zy.pd a1)),(2,(Zbi (some b2) Z3 2 a2))] _ _:=hst
 refine r_a [5,25,0] (L:=[(0,_),(1,_),(2,_)]) hst hb Za
  (a_p [15] rfl (Zbq rfl rfl u_0)<|a_p [] rfl (Zd rfl rfl c_i)<|a_n) (fun a g hst hb=>?_)
 refine wp_seq ?_
 obtain ⟨r1,h2,H0⟩:=Zc H0
 refine r_a [5,15,100,110] (L:=[(0,_),(2,_),(4,_)]) hst hb Za
  (Am 5 rfl<|a_p [0] rfl (Zm rfl rfl u_0 (fun _ _ ⟨_,_,_,e,_⟩=>⟨_,e⟩))<|a_p [0] rfl (Zbf Zc6 (off:=7) (by kernel_rfl) rfl rfl u_0)<|AP Zeg 0 rfl<|Af Zi8 25 rfl<|Al ty_9 0 rfl<|a_p [20,0] rfl (Zr Z47 (Zr6 _ _ h2) rfl rfl (.cons u_0 (.cons u_1 .nil)))<|Am 0 rfl<|a_p [0] rfl (Zba rfl rfl u_0 rfl)<|a_p [10] rfl (Zba rfl rfl u_0 rfl)<|Aa 10 rfl<|Aa 10 rfl<|a_n) (fun a g hst hb=>?_)
 refine r_a [5,15,25,0] (L:=[(0,_),(2,_),(7,_),(8,_)]) hst hb Za
  (Am 35 rfl<|a_n) (fun a g hst hb=>?_)
 refine Zbt (fun a w=>∃ (j8:Zb) (g:G),w=g.w ∧ St 32 [(0,(Zbi (some b0) Zf 0 j8)),(2,(Zbi (some b2) Z3 2 a2))] a g ∧ Base g0 g ∧ Zll a2 j8=some r) ?_ ?_
 ·rintro a w ⟨j8,g,rfl,hst,hb,H0⟩
  unfold Zll at H0
  refine Zo ?_
  refine r_a [5,15,0] (L:=[(0,_),(2,_)]) hst hb Za
   (a_p [] rfl (Zd rfl rfl c_i)<|a_n) (fun a g hst hb=>?_)
  refine wp_ret ?_
  obtain rfl:=Option.some.inj H0
  exact Zfm rfl hst hb (Zi (s:=6)) (hst.at 2 rfl) ⟨Zc7 (hst.at 0 rfl),Zc7 (hst.at 1 rfl),trivial⟩
 ·refine wp_cond_split (hst.bool 3 rfl) (fun hc3=>?_) (fun hc3=>?_)
  ·replace H0:=Z1 hc3 H0
   obtain ⟨r4,h5,H0⟩:=Zc H0;obtain ⟨r6,h7,H0⟩:=Zc H0
   refine r_b [120,15] (L:=[(0,_),(2,_),(7,_)]) (hst.pick [0,1,2] rfl) hb Za
    (Am 5 rfl<|Am 5 rfl<|a_p [0] rfl (Zm rfl rfl u_0 (fun _ _ ⟨_,_,_,e,_⟩=>⟨_,e⟩))<|a_p [0] rfl (Zbf Zc6 (off:=7) (by kernel_rfl) rfl rfl u_0)<|AP Zeg 0 rfl<|a_p [0] rfl (Zpr (j:=25) Z24 (Zge _ h5) rfl rfl (.cons u_0 .nil))<|Am 25 rfl<|Am 25 rfl<|a_p [0] rfl (Zcf rfl rfl u_0 c_i rfl)<|a_p [30,20,0] rfl (Zto Zbh0 (Zoe _ _ _ h7) rfl rfl rfl u_0 (.cons u_1 (.cons u_2 .nil)))<|a_p [90] rfl (Zm rfl rfl u_0 (fun _ _ ⟨_,_,_,e,_⟩=>⟨_,e⟩))<|a_p [0] rfl (Zbf Zc6 (off:=7) (by kernel_rfl) rfl rfl u_0)<|a_p [20,0,5] rfl (Zwa Zeg rfl rfl u_2 u_1 u_0)<|a_n) (fun a g hst hb=>?_)
   refine ⟨_,g,rfl,?_,hb,H0⟩
   exact (hst.pick [0,1] rfl)
  ·replace H0:=Z0 hc3 H0
   refine wp_skip ?_
   exact ⟨a0,g,rfl,(hst.pick [0,1] rfl),hb,H0⟩
theorem Zw3 (a0:Zb) (a1:Zs) (a2:Zj) {r:Int × Zb × Zj} (h:Zig a0 a1 a2=some r):FnB Tryz.prog 128 [.box Zf a0 r.2.1,.val (Zy.pd a1),.box Z3 a2 r.2.2] (pInt .i64 r.1):=by
 have H0:=h
 unfold Zig at H0
 clear h
 refine Ze8 (N:=21) Tryz.func128 rfl rfl (Qe rfl) rfl rfl (fun a g0 bs hbs hst hb=>?_)
 obtain ⟨b0,b2,rfl⟩:=Zop hbs
 replace hst:St 21 [(0,(Zbi (some b0) Zf 0 a0)),(1,(Zy.pd a1)),(2,(Zbi (some b2) Z3 2 a2))] _ _:=hst
 refine r_a [5,25,0] (L:=[(0,_),(1,_),(2,_)]) hst hb Za
  (a_p [15] rfl (Zbq rfl rfl u_0)<|a_p [] rfl (Zd rfl rfl c_i)<|a_n) (fun a g hst hb=>?_)
 refine wp_seq ?_
 obtain ⟨r1,h2,H0⟩:=Zc H0
 refine r_a [5,15,110] (L:=[(0,_),(2,_),(4,_)]) hst hb Za
  (Am 5 rfl<|a_p [0] rfl (Zm rfl rfl u_0 (fun _ _ ⟨_,_,_,e,_⟩=>⟨_,e⟩))<|a_p [0] rfl (Zbf Zc6 (off:=7) (by kernel_rfl) rfl rfl u_0)<|AP Zeg 0 rfl<|Af Zi8 25 rfl<|Al ty_9 0 rfl<|a_p [20,0] rfl (Zr Z47 (Zr6 _ _ h2) rfl rfl (.cons u_0 (.cons u_1 .nil)))<|Am 0 rfl<|a_p [0] rfl (Zba rfl rfl u_0 rfl)<|a_p [10] rfl (Zba rfl rfl u_0 rfl)<|Aa 10 rfl<|Aa 10 rfl<|a_n) (fun a g hst hb=>?_)
 refine r_a [5,15,10] (L:=[(0,_),(2,_),(8,_)]) hst hb Za
  (Am 25 rfl<|a_p [0] rfl (Zc2 rfl rfl u_0)<|a_n) (fun a g hst hb=>?_)
 refine wp_cond_split (hst.bool 2 rfl) (fun hc3=>?_) (fun hc3=>?_)
 ·replace H0:=Z1 hc3 H0
  refine r_a [5,15,0] (L:=[(0,_),(2,_)]) (hst.pick [0,1] rfl) hb Za
   (a_p [] rfl (Zd rfl rfl c_i)<|a_n) (fun a g hst hb=>?_)
  refine wp_ret ?_
  refine Zt ?_
  obtain rfl:=Option.some.inj H0
  exact Zfm rfl hst hb (Zi (s:=6)) (hst.at 2 rfl) ⟨Zc7 (hst.at 0 rfl),Zc7 (hst.at 1 rfl),trivial⟩
 ·replace H0:=Z0 hc3 H0
  refine wp_skip ?_
  refine Zo ?_
  refine r_a [5,15,0] (L:=[(0,_),(2,_)]) (hst.pick [0,1] rfl) hb Za
   (a_p [] rfl (Zd rfl rfl c_i)<|a_n) (fun a g hst hb=>?_)
  refine wp_ret ?_
  obtain rfl:=Option.some.inj H0
  exact Zfm rfl hst hb (Zi (s:=6)) (hst.at 2 rfl) ⟨Zc7 (hst.at 0 rfl),Zc7 (hst.at 1 rfl),trivial⟩
theorem Z2n (a0:Zb) (a1:Zs) (a2:Zj) {r:Int × Zb × Zj} (h:Zl4 a0 a1 a2=some r):FnB Tryz.prog 129 [.box Zf a0 r.2.1,.val (Zy.pd a1),.box Z3 a2 r.2.2] (pInt .i64 r.1):=by
 have H0:=h
 unfold Zl4 at H0
 clear h
 refine Ze8 (N:=75) Tryz.func129 rfl rfl (Qe rfl) rfl rfl (fun a g0 bs hbs hst hb=>?_)
 obtain ⟨b0,b2,rfl⟩:=Zop hbs
 replace hst:St 75 [(0,(Zbi (some b0) Zf 0 a0)),(1,(Zy.pd a1)),(2,(Zbi (some b2) Z3 2 a2))] _ _:=hst
 refine r_a [5,25,0] (L:=[(0,_),(1,_),(2,_)]) hst hb Za
  (a_p [15] rfl (Zbq rfl rfl u_0)<|a_p [] rfl (Zd rfl rfl c_i)<|a_n) (fun a g hst hb=>?_)
 refine r_a [5,15,60] (L:=[(0,_),(2,_),(4,_)]) hst hb Za
  (Af Zo8 25 rfl<|Al Zd7 0 rfl<|Af Zi8 25 rfl<|Al ty_9 0 rfl<|a_p [20,0] rfl (Z8b rfl rfl u_0 u_1)<|a_p (outs:=[(7,(pBox Zz 7 (default:Zh)))]) (S:=[8]) [] rfl (Zbl (zs:=[.float .f64 0,.string ByteArray.empty]) (by kernel_rfl) (fun g=>Zjx g) rfl rfl)<|a_p [10,0] rfl (Zch Zfa rfl rfl u_1 u_0)<|a_n) (fun a g hst hb=>?_)
 refine r_a [5,15,25,0] (L:=[(0,_),(2,_),(7,_)]) hst hb Za
  (a_p [] rfl (Zd rfl rfl c_i)<|a_n) (fun a g hst hb=>?_)
 obtain ⟨z8,hz1,H0⟩:=Zc H0
 refine wp_seq ?_
 refine Zbt (fun a w=>∃ (y7:Int) (g:G),w=g.w ∧ St 75 [(0,(Zbi (some b0) Zf 0 a0)),(2,(Zbi (some b2) Z3 2 a2)),(7,(Zz.ptr ({ Score:=a1.X,Name:=a1.S }:Zh))),(8,(pInt .i64 y7))] a g ∧ Base g0 g ∧ y7=z8) ?_ ?_
 ·rintro a w ⟨y7,g,rfl,hst,hb,rfl⟩
  refine Zo ?_
  refine wp_seq ?_
  obtain ⟨e9,h10,H0⟩:=Zc H0;obtain ⟨r11,h12,H0⟩:=Zc H0
  refine r_a [5,15,25,35,180] (L:=[(0,_),(2,_),(7,_),(8,_)]) hst hb Za
   (Am 35 rfl<|Am 5 rfl<|a_p [0] rfl (Zm rfl rfl u_0 (fun _ _ ⟨_,_,_,e,_⟩=>⟨_,e⟩))<|a_p [0] rfl (Zbf Zc6 (off:=7) (by kernel_rfl) rfl rfl u_0)<|AP Zeg 0 rfl<|a_p [0] rfl (Zbx Tryz.underlying60 rfl rfl u_0)<|a_p [50,0] rfl (Zcv rfl rfl u_0 u_1)<|Am 0 rfl<|a_g [0,25] (Qg_t rfl (fun hG=>Z2 Zfa rfl rfl u_0))<|a_g [10,5] (Qg_t rfl (fun hG=>Z6 rfl rfl u_0))<|a_g [20,0] (Qg_t rfl (fun hG=>Zm rfl rfl (Opd.gd hG u_0) (fun _ _ ⟨_,_,_,e,_⟩=>⟨_,e⟩)))<|a_g [30,0] (Qg_t rfl (fun hG=>Zbf Zc6 (off:=7) (by kernel_rfl) rfl rfl (Opd.gd hG u_0)))<|a_g [40,0] (Qg_t rfl (fun hG=>Zmb Zeg rfl rfl (Opd.gd hG u_0)))<|a_g [50,35] (Qg_t rfl (fun hG=>Z6 rfl rfl u_0))<|a_g [60,10,0] (Qg_t rfl (fun hG=>Zbw Tryz.underlying60 Zho rfl rfl (Opd.gd hG u_0) (Opd.gd hG u_1) (Zcb h10 hG)))<|a_g [70,0] (Qg_t rfl (fun hG=>Z2 Zfa rfl rfl (Opd.gd hG u_0)))<|a_g [80,70,0] (Qg_t rfl (fun hG=>Zr Z9f (Zq6 _ _ (Zcb h12 hG)) rfl rfl (.cons (Opd.gd hG u_0) (.cons (Opd.gd hG u_1) .nil))))<|a_g [90,0] (Qg_t rfl (fun hG=>Zc2 rfl rfl (Opd.gd hG u_0)))<|a_p [100,0] rfl (Zb5 rfl rfl u_0 (fun hz=>(Opd.gd hz u_1)))<|a_n) (fun a g hst hb=>?_)
  refine wp_cond_split (hst.bool 4 rfl) (fun hc13=>?_) (fun hc13=>?_)
  ·replace H0:=Z1 hc13 H0
   refine r_a [5,15,0] (L:=[(0,_),(2,_)]) (hst.pick [0,1] rfl) hb Za
    (a_p [] rfl (Zd rfl rfl c_i)<|a_n) (fun a g hst hb=>?_)
   refine wp_ret ?_
   refine Zt ?_
   obtain rfl:=Option.some.inj H0
   exact Zfm rfl hst hb (Zi (s:=6)) (hst.at 2 rfl) ⟨Zc7 (hst.at 0 rfl),Zc7 (hst.at 1 rfl),trivial⟩
  ·replace H0:=Z0 hc13 H0
   refine wp_skip ?_
   refine Zo ?_
   obtain ⟨r14,h15,H0⟩:=Zc H0;obtain ⟨r16,h17,H0⟩:=Zc H0
   refine r_a [5,15,90] (L:=[(0,_),(2,_),(7,_),(8,_)]) (hst.pick [0,1,2,3] rfl) hb Za
    (Am 5 rfl<|a_p [0] rfl (Zm rfl rfl u_0 (fun _ _ ⟨_,_,_,e,_⟩=>⟨_,e⟩))<|a_p [0] rfl (Zbf Zc6 (off:=7) (by kernel_rfl) rfl rfl u_0)<|AP Zeg 0 rfl<|a_p [0] rfl (Zpr (j:=58) Z24 (Zge _ h15) rfl rfl (.cons u_0 .nil))<|Am 35 rfl<|Al Zfa 25 rfl<|a_p [0] rfl (Zjd Ze6 (xs:=[.tmp 60]) (.cons u_0 .nil) (by decide) rfl rfl)<|a_p [30,20,0] rfl (Zto Zba9 (Zji _ _ _ h17) rfl rfl rfl u_0 (.cons u_1 (.cons u_2 .nil)))<|Aa 0 rfl<|a_n) (fun a g hst hb=>?_)
   obtain ⟨c18,h19,H0⟩:=Zc H0
   refine r_a [120,15] (L:=[(0,_),(2,_),(9,_)]) hst hb Za
    (Am 5 rfl<|Am 25 rfl<|Am 25 rfl<|a_p [0] rfl (Zbx Tryz.underlying60 rfl rfl u_0)<|Am 5 rfl<|a_p [0] rfl (Zm rfl rfl u_0 (fun _ _ ⟨_,_,_,e,_⟩=>⟨_,e⟩))<|a_p [0] rfl (Zbf Zin (off:=5) (by kernel_rfl) rfl rfl u_0)<|AP ty_3 0 rfl<|a_p [40,0] rfl (Zbhk rfl rfl u_0 u_1)<|a_p [70,0] rfl (Zwo Tryz.underlying60 Zho rfl rfl u_0 u_1 h19)<|a_p [90] rfl (Zm rfl rfl u_0 (fun _ _ ⟨_,_,_,e,_⟩=>⟨_,e⟩))<|a_p [0] rfl (Zbf Zc6 (off:=7) (by kernel_rfl) rfl rfl u_0)<|a_p [20,0,5] rfl (Zwa Zeg rfl rfl u_2 u_1 u_0)<|a_n) (fun a g hst hb=>?_)
   refine r_a [5,15,0] (L:=[(0,_),(2,_)]) hst hb Za
    (a_p [] rfl (Zd rfl rfl c_i)<|a_n) (fun a g hst hb=>?_)
   refine wp_ret ?_
   obtain rfl:=Option.some.inj H0
   exact Zfm rfl hst hb (Zi (s:=6)) (hst.at 2 rfl) ⟨Zc7 (hst.at 0 rfl),Zc7 (hst.at 1 rfl),trivial⟩
 ·refine wp_block ?_
  refine wp_loop_ghost (fun n a w=>∃ (x1:Int) (g:G),w=g.w ∧ St 75 [(0,(Zbi (some b0) Zf 0 a0)),(2,(Zbi (some b2) Z3 2 a2)),(7,(Zz.ptr ({ Score:=a1.X,Name:=a1.S }:Zh))),(8,(pInt .i64 x1))] a g ∧ Base g0 g ∧ Zg4 a0 a1 n x1=some z8) (Int.toNat ((a0.List.length:Int) - (0:Int)) + 1) ⟨(0:Int),g,rfl,(hst.pick [0,1,2,3] rfl),hb,hz1⟩ (fun n a w hI=>?_)
  obtain ⟨x1,g,rfl,hst,hb,H1⟩:=hI
  cases n with
  | zero=>exact absurd H1 (by simp [Zg4])
  | succ n =>
   rw [Zg4] at H1
   refine wp_seq ?_
   obtain ⟨e2,h3,H1⟩:=Zc H1;obtain ⟨r4,h5,H1⟩:=Zc H1
   refine r_a [5,15,25,35,170] (L:=[(0,_),(2,_),(7,_),(8,_)]) hst hb Za
    (Am 35 rfl<|Am 5 rfl<|a_p [0] rfl (Zm rfl rfl u_0 (fun _ _ ⟨_,_,_,e,_⟩=>⟨_,e⟩))<|a_p [0] rfl (Zbf Zc6 (off:=7) (by kernel_rfl) rfl rfl u_0)<|AP Zeg 0 rfl<|a_p [0] rfl (Zbx Tryz.underlying60 rfl rfl u_0)<|a_p [50,0] rfl (Zcv rfl rfl u_0 u_1)<|Am 0 rfl<|a_g [0,5] (Qg_t rfl (fun hG=>Z6 rfl rfl u_0))<|a_g [10,0] (Qg_t rfl (fun hG=>Zm rfl rfl (Opd.gd hG u_0) (fun _ _ ⟨_,_,_,e,_⟩=>⟨_,e⟩)))<|a_g [20,0] (Qg_t rfl (fun hG=>Zbf Zc6 (off:=7) (by kernel_rfl) rfl rfl (Opd.gd hG u_0)))<|a_g [30,0] (Qg_t rfl (fun hG=>Zmb Zeg rfl rfl (Opd.gd hG u_0)))<|a_g [40,35] (Qg_t rfl (fun hG=>Z6 rfl rfl u_0))<|a_g [50,10,0] (Qg_t rfl (fun hG=>Zbw Tryz.underlying60 Zho rfl rfl (Opd.gd hG u_0) (Opd.gd hG u_1) (Zcb h3 hG)))<|a_g [60,0] (Qg_t rfl (fun hG=>Z2 Zfa rfl rfl (Opd.gd hG u_0)))<|a_g [70,25] (Qg_t rfl (fun hG=>Z2 Zfa rfl rfl u_0))<|a_g [80,10,0] (Qg_t rfl (fun hG=>Zr Z9f (Zq6 _ _ (Zcb h5 hG)) rfl rfl (.cons (Opd.gd hG u_0) (.cons (Opd.gd hG u_1) .nil))))<|a_p [90,0] rfl (Zb5 rfl rfl u_0 (fun hz=>(Opd.gd hz u_1)))<|a_n) (fun a g hst hb=>?_)
   refine wp_cond_split (hst.bool 4 rfl) (fun hc6=>?_) (fun hc6=>?_)
   ·replace H1:=Z1 hc6 H1
    refine wp_skip ?_
    refine Zo ?_
    refine wp_block ?_
    refine r_b [5,15,25,20] (L:=[(0,_),(2,_),(7,_),(8,_)]) (hst.pick [0,1,2,3] rfl) hb Za
     (Am 35 rfl<|a_p [0] rfl (Zcf rfl rfl u_0 c_i rfl)<|Aa 0 rfl<|a_n) (fun a g hst hb=>?_)
    refine Zbn ?_
    exact ⟨n,Nat.lt_succ_self _,(IntKind.i64.wrap (x1 + (1:Int))),g,rfl,(hst.pick [0,1,2,3] rfl),hb,H1⟩
   ·replace H1:=Z0 hc6 H1
    refine wp_exit ?_
    refine Zb0 ?_
    refine Zb0 ?_
    refine Zcj ?_
    exact ⟨x1,g,rfl,(hst.pick [0,1,2,3] rfl),hb,Option.some.inj H1⟩
def Phi (k:Int) (f:FuncId) (C:List Pd):Prop:=∀ (x0 x1:Zb) (a:Zs) (y0 y1:Zj) (c:Int),Zbs k x0 a y0=some (c,x1,y1) → FnB Tryz.prog f ([.box Zf x0 x1,.val (Zy.pd a),.box Z3 y0 y1] ++ C.map .val) (pInt .i64 c)
theorem Zbgc {k:Int} {x0:Zb} {a:Zs} {y0:Zj} {r:Int × Zb × Zj} (h:Zbs k x0 a y0=some r):∀ f C,Phi k f C → FnB Tryz.prog f ([.box Zf x0 r.2.1,.val (Zy.pd a),.box Z3 y0 r.2.2] ++ C.map .val) (pInt .i64 r.1):=fun f C hΦ=>hΦ _ _ _ _ _ _ h
def tabT:TabT:=fun k=>if 5 ≤ k ∧ k ≤ 21 then some (Phi k) else none
theorem Zbib {i:Int} (h:5 ≤ i ∧ i ≤ 21):tabT i.toNat=some (Phi i):=by
 unfold tabT
 rw [if_pos (by omega),show ((i.toNat:Nat):Int)=i by omega]
theorem Zbjp:Phi 5 111 []:=fun x0 x1 a y0 y1 c h=>Zww x0 a y0 (r:=(c,x1,y1)) (by simpa [Zbs] using h)
theorem Zbi8:Phi 6 112 []:=fun x0 x1 a y0 y1 c h=>Zwv x0 a y0 (r:=(c,x1,y1)) (by simpa [Zbs] using h)
theorem Zbjh:Phi 7 113 []:=fun x0 x1 a y0 y1 c h=>Zw9 x0 a y0 (r:=(c,x1,y1)) (by simpa [Zbs] using h)
theorem Zbi7:Phi 8 114 []:=fun x0 x1 a y0 y1 c h=>Z4x x0 a y0 (r:=(c,x1,y1)) (by simpa [Zbs] using h)
theorem Zbkk:Phi 9 115 []:=fun x0 x1 a y0 y1 c h=>Zsa x0 a y0 (r:=(c,x1,y1)) (by simpa [Zbs] using h)
theorem Zbid:Phi 10 116 []:=fun x0 x1 a y0 y1 c h=>Zw1 x0 a y0 (r:=(c,x1,y1)) (by simpa [Zbs] using h)
theorem Zbir:Phi 11 117 []:=fun x0 x1 a y0 y1 c h=>Zwx x0 a y0 (r:=(c,x1,y1)) (by simpa [Zbs] using h)
theorem Zbig:Phi 12 115 []:=fun x0 x1 a y0 y1 c h=>Zsa x0 a y0 (r:=(c,x1,y1)) (by simpa [Zbs] using h)
theorem Zbg5:Phi 13 131 [(Kd.fnc.ptr 119)]:=fun x0 x1 a y0 y1 c h=>by
 have h':Zfb (fun x y=>Zn1 x y) x0 a y0=some (c,x1,y1):=by simpa [Zbs] using h
 obtain ⟨z,hz,h2⟩:=Zc h'
 injection h2 with h2
 simp only [Prod.mk.injEq] at h2
 obtain ⟨rfl,rfl,rfl⟩:=h2
 exact Zl0 119 Zbim (fun x y=>Zn1 x y) (fun x y z h=>Z83 x y h) x0 a y0 hz
theorem Zbie:Phi 14 131 [(Kd.fnc.ptr 120)]:=fun x0 x1 a y0 y1 c h=>by
 have h':Zfb (fun x y=>Zob x y) x0 a y0=some (c,x1,y1):=by simpa [Zbs] using h
 obtain ⟨z,hz,h2⟩:=Zc h'
 injection h2 with h2
 simp only [Prod.mk.injEq] at h2
 obtain ⟨rfl,rfl,rfl⟩:=h2
 exact Zl0 120 Zbg9 (fun x y=>Zob x y) (fun x y z h=>Z8w x y h) x0 a y0 hz
theorem Zbin:Phi 15 131 [(Kd.fnc.ptr 121)]:=fun x0 x1 a y0 y1 c h=>by
 have h':Zfb (fun x y=>Zkd x y) x0 a y0=some (c,x1,y1):=by simpa [Zbs] using h
 obtain ⟨z,hz,h2⟩:=Zc h'
 injection h2 with h2
 simp only [Prod.mk.injEq] at h2
 obtain ⟨rfl,rfl,rfl⟩:=h2
 exact Zl0 121 Zbho (fun x y=>Zkd x y) (fun x y z h=>Z6f x y h) x0 a y0 hz
theorem Zbhl:Phi 16 131 [(Kd.fnc.ptr 122)]:=fun x0 x1 a y0 y1 c h=>by
 have h':Zfb (fun x y=>Zi2 x y) x0 a y0=some (c,x1,y1):=by simpa [Zbs] using h
 obtain ⟨z,hz,h2⟩:=Zc h'
 injection h2 with h2
 simp only [Prod.mk.injEq] at h2
 obtain ⟨rfl,rfl,rfl⟩:=h2
 exact Zl0 122 Zbix (fun x y=>Zi2 x y) (fun x y z h=>Z5d x y h) x0 a y0 hz
theorem Zbhc:Phi 17 131 [(Kd.fnc.ptr 123)]:=fun x0 x1 a y0 y1 c h=>by
 have h':Zfb (fun x y=>Zih x y) x0 a y0=some (c,x1,y1):=by simpa [Zbs] using h
 obtain ⟨z,hz,h2⟩:=Zc h'
 injection h2 with h2
 simp only [Prod.mk.injEq] at h2
 obtain ⟨rfl,rfl,rfl⟩:=h2
 exact Zl0 123 Zbij (fun x y=>Zih x y) (fun x y z h=>Zw7 x y h) x0 a y0 hz
theorem Zbip:Phi 18 124 []:=fun x0 x1 a y0 y1 c h=>Z52 x0 a y0 (r:=(c,x1,y1)) (by simpa [Zbs] using h)
theorem Zbg3:Phi 19 125 []:=fun x0 x1 a y0 y1 c h=>Zw5 x0 a y0 (r:=(c,x1,y1)) (by simpa [Zbs] using h)
theorem Zbif:Phi 20 128 []:=fun x0 x1 a y0 y1 c h=>Zw3 x0 a y0 (r:=(c,x1,y1)) (by simpa [Zbs] using h)
theorem Zbg2:Phi 21 129 []:=fun x0 x1 a y0 y1 c h=>Z2n x0 a y0 (r:=(c,x1,y1)) (by simpa [Zbs] using h)
theorem Z6d {N d:Nat} {o:Oper} {uses:Zbd} (hop:o.op=.build 172 #[(5,.func 111),(6,.func 112),(7,.func 113),(8,.func 114),(9,.func 115),(12,.func 115),(10,.func 116),(11,.func 117),(13,.tmp 1),(14,.tmp 2),(15,.tmp 3),(16,.tmp 4),(17,.tmp 5),(18,.func 124),(19,.func 125),(20,.func 128),(21,.func 129)]) (hd:o.dst=some d) (h1:Opd uses (.tmp 1) (pClo 131 [(Kd.fnc.ptr 119)] rfl)) (h2:Opd uses (.tmp 2) (pClo 131 [(Kd.fnc.ptr 120)] rfl)) (h3:Opd uses (.tmp 3) (pClo 131 [(Kd.fnc.ptr 121)] rfl)) (h4:Opd uses (.tmp 4) (pClo 131 [(Kd.fnc.ptr 122)] rfl)) (h5:Opd uses (.tmp 5) (pClo 131 [(Kd.fnc.ptr 123)] rfl)):OB Tryz.prog N o uses [(d,((Kd.tab Tryz.prog 22 (by decide)).pd tabT))] [] :=
 Zcg hd fun a g hh=>by
  obtain ⟨c1,e1,k1⟩:=h1 a g hh
  obtain ⟨c2,e2,k2⟩:=h2 a g hh
  obtain ⟨c3,e3,k3⟩:=h3 a g hh
  obtain ⟨c4,e4,k4⟩:=h4 a g hh
  obtain ⟨c5,e5,k5⟩:=h5 a g hh
  refine ⟨.agg #[.nilFunc,.nilFunc,.nilFunc,.nilFunc,.nilFunc,.func (.func 111) #[] #[],.func (.func 112) #[] #[],.func (.func 113) #[] #[],.func (.func 114) #[] #[],.func (.func 115) #[] #[],.func (.func 116) #[] #[],.func (.func 117) #[] #[],.func (.func 115) #[] #[],.func (.func 131) #[] c1.toArray,.func (.func 131) #[] c2.toArray,.func (.func 131) #[] c3.toArray,.func (.func 131) #[] c4.toArray,.func (.func 131) #[] c5.toArray,.func (.func 124) #[] #[],.func (.func 125) #[] #[],.func (.func 128) #[] #[],.func (.func 129) #[] #[]],?_,[.nilFunc,.nilFunc,.nilFunc,.nilFunc,.nilFunc,.func (.func 111) #[] #[],.func (.func 112) #[] #[],.func (.func 113) #[] #[],.func (.func 114) #[] #[],.func (.func 115) #[] #[],.func (.func 116) #[] #[],.func (.func 117) #[] #[],.func (.func 115) #[] #[],.func (.func 131) #[] c1.toArray,.func (.func 131) #[] c2.toArray,.func (.func 131) #[] c3.toArray,.func (.func 131) #[] c4.toArray,.func (.func 131) #[] c5.toArray,.func (.func 124) #[] #[],.func (.func 125) #[] #[],.func (.func 128) #[] #[],.func (.func 129) #[] #[]],⟨rfl,?_,?_⟩,rfl⟩
  ·simp only [execOp,hop,Sem.run_bind,Sem.run_pure,Result.andThen_ok,List.map_toArray,List.map_cons,List.map_nil,e1,e2,e3,e4,e5]
   rw [Z5y Tryz.underlying172 (zero:=.agg #[.nilFunc,.nilFunc,.nilFunc,.nilFunc,.nilFunc,.nilFunc,.nilFunc,.nilFunc,.nilFunc,.nilFunc,.nilFunc,.nilFunc,.nilFunc,.nilFunc,.nilFunc,.nilFunc,.nilFunc,.nilFunc,.nilFunc,.nilFunc,.nilFunc,.nilFunc]) (by kernel_rfl) (by kernel_rfl) (cells:=#[.nilFunc,.nilFunc,.nilFunc,.nilFunc,.nilFunc,.func (.func 111) #[] #[],.func (.func 112) #[] #[],.func (.func 113) #[] #[],.func (.func 114) #[] #[],.func (.func 115) #[] #[],.func (.func 116) #[] #[],.func (.func 117) #[] #[],.func (.func 115) #[] #[],.func (.func 131) #[] c1.toArray,.func (.func 131) #[] c2.toArray,.func (.func 131) #[] c3.toArray,.func (.func 131) #[] c4.toArray,.func (.func 131) #[] c5.toArray,.func (.func 124) #[] #[],.func (.func 125) #[] #[],.func (.func 128) #[] #[],.func (.func 129) #[] #[]]) (by kernel_rfl) g.w]
   rfl
  ·intro u hu
   simp only [List.mem_cons,List.not_mem_nil,or_false] at hu
   rcases hu with rfl | rfl | rfl | rfl | rfl | rfl | rfl | rfl | rfl | rfl | rfl | rfl | rfl | rfl | rfl | rfl | rfl | rfl | rfl | rfl | rfl | rfl <;> rfl
  ·intro k F u hF hu
   unfold tabT at hF
   split at hF
   ·rename_i hk
    obtain rfl:=Option.some.inj hF
    obtain ⟨hk1,hk2⟩:=hk
    have hk:k=5 ∨ k=6 ∨ k=7 ∨ k=8 ∨ k=9 ∨ k=10 ∨ k=11 ∨ k=12 ∨ k=13 ∨ k=14 ∨ k=15 ∨ k=16 ∨ k=17 ∨ k=18 ∨ k=19 ∨ k=20 ∨ k=21:=by omega
    rcases hk with rfl | rfl | rfl | rfl | rfl | rfl | rfl | rfl | rfl | rfl | rfl | rfl | rfl | rfl | rfl | rfl | rfl
    ·obtain rfl:=Option.some.inj hu;exact ⟨111,[],[],rfl,Zbhv,rfl,Zbjp,Ze7,fun q hq=>by cases hq⟩
    ·obtain rfl:=Option.some.inj hu;exact ⟨112,[],[],rfl,Zbic,rfl,Zbi8,Ze7,fun q hq=>by cases hq⟩
    ·obtain rfl:=Option.some.inj hu;exact ⟨113,[],[],rfl,Zbik,rfl,Zbjh,Ze7,fun q hq=>by cases hq⟩
    ·obtain rfl:=Option.some.inj hu;exact ⟨114,[],[],rfl,Zbh2,rfl,Zbi7,Ze7,fun q hq=>by cases hq⟩
    ·obtain rfl:=Option.some.inj hu;exact ⟨115,[],[],rfl,Zbbv,rfl,Zbkk,Ze7,fun q hq=>by cases hq⟩
    ·obtain rfl:=Option.some.inj hu;exact ⟨116,[],[],rfl,Zbh3,rfl,Zbid,Ze7,fun q hq=>by cases hq⟩
    ·obtain rfl:=Option.some.inj hu;exact ⟨117,[],[],rfl,Zbhs,rfl,Zbir,Ze7,fun q hq=>by cases hq⟩
    ·obtain rfl:=Option.some.inj hu;exact ⟨115,[],[],rfl,Zbbv,rfl,Zbig,Ze7,fun q hq=>by cases hq⟩
    ·obtain rfl:=Option.some.inj hu;exact ⟨131,_,c1,rfl,Zvb,rfl,Zbg5,k1,Znk⟩
    ·obtain rfl:=Option.some.inj hu;exact ⟨131,_,c2,rfl,Zvb,rfl,Zbie,k2,Znk⟩
    ·obtain rfl:=Option.some.inj hu;exact ⟨131,_,c3,rfl,Zvb,rfl,Zbin,k3,Znk⟩
    ·obtain rfl:=Option.some.inj hu;exact ⟨131,_,c4,rfl,Zvb,rfl,Zbhl,k4,Znk⟩
    ·obtain rfl:=Option.some.inj hu;exact ⟨131,_,c5,rfl,Zvb,rfl,Zbhc,k5,Znk⟩
    ·obtain rfl:=Option.some.inj hu;exact ⟨124,[],[],rfl,Zbiv,rfl,Zbip,Ze7,fun q hq=>by cases hq⟩
    ·obtain rfl:=Option.some.inj hu;exact ⟨125,[],[],rfl,Zbh9,rfl,Zbg3,Ze7,fun q hq=>by cases hq⟩
    ·obtain rfl:=Option.some.inj hu;exact ⟨128,[],[],rfl,Zbhy,rfl,Zbif,Ze7,fun q hq=>by cases hq⟩
    ·obtain rfl:=Option.some.inj hu;exact ⟨129,[],[],rfl,Zbhx,rfl,Zbg2,Ze7,fun q hq=>by cases hq⟩
   ·cases hF
theorem Zbbp:Ty Tryz.prog 172 (Kd.tab Tryz.prog 22 (by decide)):=⟨by kernel_rfl,by kernel_rfl⟩
theorem Zz1:FnOk Tryz.prog 105 [] (pTab Tryz.prog 22 tabT):=by
 refine Zb4 (N:=7) Tryz.func105 rfl rfl (Qe rfl) rfl rfl (fun a g0 hst hb=>?_)
 refine r_s (T:=[⟨[],[(0,(pBox (Kd.tab Tryz.prog 22 (by decide)) 0 (fun _=>none)))],[1],[],[0]⟩]) (F:=[.p 0 0]) hst hb Za
  (o_p rfl (Zbl (zs:=[.nilFunc,.nilFunc,.nilFunc,.nilFunc,.nilFunc,.nilFunc,.nilFunc,.nilFunc,.nilFunc,.nilFunc,.nilFunc,.nilFunc,.nilFunc,.nilFunc,.nilFunc,.nilFunc,.nilFunc,.nilFunc,.nilFunc,.nilFunc,.nilFunc,.nilFunc]) (by kernel_rfl) (fun g=>⟨rfl,by decide,fun k F u h=>by cases h⟩) rfl rfl)<|o_n) (fun a g hst hb=>?_)
 refine r_s (T:=[⟨[],_,[],[],[1]⟩,⟨[],_,[],[0],[2]⟩,⟨[],_,[],[0,1],[3]⟩,⟨[],_,[],[0,1,2],[4]⟩,⟨[],_,[],[0,1,2,3],[5]⟩,⟨[.p 0 0,.p 1 0,.p 2 0,.p 3 0,.p 4 0],_,[],[0,1,2,3,4],[6]⟩,⟨[.p 5 0,.o 0],[(0,(pBox (Kd.tab Tryz.prog 22 (by decide)) 0 tabT))],[1],[0,1,2,3,4,5],[0]⟩]) (F:=[.p 6 0]) hst hb Za
  (o_p rfl (Zr Zvt (Znr 119) rfl rfl (.cons Opd.fncv .nil))<|o_p rfl (Zr Zvt (Znr 120) rfl rfl (.cons Opd.fncv .nil))<|o_p rfl (Zr Zvt (Znr 121) rfl rfl (.cons Opd.fncv .nil))<|o_p rfl (Zr Zvt (Znr 122) rfl rfl (.cons Opd.fncv .nil))<|o_p rfl (Zr Zvt (Znr 123) rfl rfl (.cons Opd.fncv .nil))<|o_p rfl (Z6d rfl rfl u_0 u_1 u_2 u_3 u_4)<|o_p rfl (Zbg Zbbp rfl rfl u_1 u_0)<|o_n) (fun a g hst hb=>?_)
 refine wp_ret ?_
 obtain ⟨u0,hu0,hq0⟩:=Zbo (P:=Tryz.prog) Zbbp (hst.at 0 rfl)
 exact Z8 rfl hst hb hu0 (Zbcb hq0)
theorem Z2e (a0:Zb) (a1:Bool) (a2:Zs) {r:Zb × Bool × Zj} (h:Zmj a0 a1 a2=some r):FnOk Tryz.prog 85 [(Zf.pd a0),(Zbm a1),(Zy.pd a2)] (pTup [(Zf.pd r.1),(Zbm r.2.1),(Z3.pd r.2.2)]):=by
 have H0:=h
 unfold Zmj at H0
 clear h
 refine Zb4 (N:=123) Tryz.func85 rfl rfl (Qe rfl) rfl rfl (fun a g0 hst hb=>?_)
 refine r_a [0,10,20,30,50] (L:=[(0,_),(1,_),(2,_)]) hst hb Za
  (a_p (outs:=[(3,(pBox Zf 3 a0))]) (S:=[4]) [5] rfl (Zrp rfl rfl u_0)<|a_p [15] rfl (Zbq rfl rfl u_0)<|a_p [25] rfl (Zbq rfl rfl u_0)<|a_p (outs:=[(6,(pBox Zf 6 (default:Zb)))]) (S:=[7]) [] rfl (Zbl (zs:=[.int .i64 0,.int .i64 0,.int .i64 0,.int .i64 0,.float .f64 0,.int .i64 0,.string ByteArray.empty,.slice none 0 0]) (by kernel_rfl) (fun g=>Zc4 g) rfl rfl)<|a_p [] rfl (Zd rfl rfl c_b)<|a_p (outs:=[(8,(pBox Z3 8 (default:Zj)))]) (S:=[9]) [] rfl (Zbl (zs:=[.int .i64 0,.int .i64 0,.int .i64 0,.int .i64 0,.int .i64 0,.int .i64 0,.float .f64 0,.int .i64 0,.string ByteArray.empty,.slice none 0 0]) (by kernel_rfl) (fun g=>Zh3 g) rfl rfl)<|a_n) (fun a g hst hb=>?_)
 refine wp_seq ?_
 refine r_a [5,15,25,35,45,10] (L:=[(3,_),(4,_),(5,_),(6,_),(8,_)]) hst hb Za
  (Al ty_4 15 rfl<|a_p [0] rfl (Zc2 rfl rfl u_0)<|a_n) (fun a g hst hb=>?_)
 refine Zbt (fun a w=>∃ (j2:Zb) (g:G),w=g.w ∧ St 123 [(3,(pBox Zf 3 j2)),(4,(Kd.bool.ptr a1)),(5,(Zy.ptr a2)),(6,(pBox Zf 6 (default:Zb))),(8,(pBox Z3 8 (default:Zj)))] a g ∧ Base g0 g ∧ Zhz a1 a2 j2=some r) ?_ ?_
 ·rintro a w ⟨j2,g,rfl,hst,hb,H0⟩
  unfold Zhz at H0
  refine Zo ?_
  obtain ⟨r3,h4,H0⟩:=Zc H0
  refine r_a [20,15,25,35,45] (L:=[(3,_),(4,_),(5,_),(6,_),(8,_)]) hst hb Za
   (AM Zbr 5 rfl<|a_p [0] rfl (Zr Zrd (Zhv _ h4) rfl rfl (.cons u_0 .nil))<|a_p [0,5] rfl (Zbg Zbr rfl rfl u_1 u_0)<|a_n) (fun a g hst hb=>?_)
  refine r_a [5,15,25,35,45,10] (L:=[(3,_),(4,_),(5,_),(6,_),(8,_)]) hst hb Za
   (a_p [5,15] rfl (Z5k rfl rfl (.cons u_0 (.cons u_1 .nil)))<|Aa 0 rfl<|a_n) (fun a g hst hb=>?_)
  refine wp_seq ?_
  obtain ⟨r5,h6,H0⟩:=Zc H0
  refine r_a [5,15,25,35,45,55,20] (L:=[(3,_),(4,_),(5,_),(6,_),(8,_),(9,_)]) hst hb Za
   (Al Zhh 25 rfl<|a_p [0] rfl (Zr Z9b (Zru _ h6) rfl rfl (.cons u_0 .nil))<|Aa 0 rfl<|a_n) (fun a g hst hb=>?_)
  refine r_a [5,15,25,35,45,55,65,10] (L:=[(3,_),(4,_),(5,_),(6,_),(8,_),(9,_),(10,_)]) hst hb Za
   (Am 65 rfl<|a_p [0] rfl (Zdd rfl rfl u_0 c_i)<|a_n) (fun a g hst hb=>?_)
  refine wp_cond_split (hst.bool 7 rfl) (fun hc7=>?_) (fun hc7=>?_)
  ·replace H0:=Z1 hc7 H0
   obtain ⟨r8,h9,H0⟩:=Zc H0
   refine r_a [21,15,60,70,80] (L:=[(3,_),(4,_),(6,_),(8,_),(9,_),(10,_)]) (hst.pick [0,1,3,4,5,6] rfl) hb Za
    (Am 45 rfl<|Am 55 rfl<|a_p (outs:=[(27,(pTup [(Zf.pd r8.1),(Zbm r8.2.1),(Z3.pd r8.2.2.1)])),(3,(pBox Zf 3 r8.2.2.2))]) (S:=[4]) [10,0,5] rfl (Zpq (Ps:=[.val (pInt .i64 r5)]) (hs:=[]) (ks:=[(3,none,3)]) Zu5 (Zkx _ _ _ h9) rfl rfl rfl u_0 (.val u_1 .nil) (.box u_2 rfl (.val .nil)) rfl rfl rfl rfl)<|a_p [0] rfl (Zba rfl rfl u_0 rfl)<|a_p [10] rfl (Zba rfl rfl u_0 rfl)<|a_p [20] rfl (Zba rfl rfl u_0 rfl)<|a_p [20,25] rfl (Zbg Zbr rfl rfl u_1 u_0)<|Aa 20 rfl<|a_p [20,35] rfl (Zbg Zcw rfl rfl u_1 u_0)<|a_n) (fun a g hst hb=>?_)
   refine wp_ret ?_
   refine Zt ?_
   obtain rfl:=Option.some.inj H0
   obtain ⟨u0,hu0,hq0⟩:=Zbo (P:=Tryz.prog) Zbr (hst.at 2 rfl)
   obtain ⟨u2,hu2,hq2⟩:=Zbo (P:=Tryz.prog) Zcw (hst.at 4 rfl)
   exact Zod rfl hst hb hu0 (Zi (s:=7)) hu2 (Zkz hq0 (hst.at 3 rfl) hq2)
  ·replace H0:=Z0 hc7 H0
   refine wp_skip ?_
   refine Zo ?_
   refine wp_seq ?_
   refine r_a [5,15,25,35,45,55,0] (L:=[(3,_),(4,_),(5,_),(6,_),(8,_),(9,_)]) (hst.pick [0,1,2,3,4,5] rfl) hb Za
    (Al ty_4 15 rfl<|a_n) (fun a g hst hb=>?_)
   refine Zbt (fun a w=>∃ (g:G),w=g.w ∧ St 123 [(3,(pBox Zf 3 r3)),(4,(Kd.bool.ptr a1)),(5,(Zy.ptr a2)),(6,(pBox Zf 6 (default:Zb))),(8,(pBox Z3 8 (default:Zj))),(9,(Z23 103 [(pBox Zf 3 r3),(Kd.bool.ptr a1)]))] a g ∧ Base g0 g ∧ Zh0 a1 a2 r3=some r) ?_ ?_
   ·rintro a w ⟨g,rfl,hst,hb,H0⟩
    unfold Zh0 at H0
    refine Zo ?_
    refine wp_seq ?_
    refine wp_block ?_
    refine r_a [5,15,25,35,45,55,60] (L:=[(3,_),(4,_),(5,_),(6,_),(8,_),(9,_)]) hst hb Za
     (Af Zgn 25 rfl<|Al ty_3 0 rfl<|a_p [0] rfl (Zci rfl rfl u_0 c_i)<|Am 0 rfl<|a_g [0,15] (Qg_t rfl (fun hG=>Z2 ty_4 rfl rfl u_0))<|a_p [10,0] rfl (Zb5 rfl rfl u_0 (fun hz=>(Opd.gd hz u_1)))<|Aa 0 rfl<|a_n) (fun a g hst hb=>?_)
    refine wp_cond_split (hst.bool 6 rfl) (fun hc16=>?_) (fun hc16=>?_)
    ·replace H0:=Z1 hc16 H0
     obtain ⟨r17,h18,H0⟩:=Zc H0
     refine r_a [11,15,50,60,70] (L:=[(3,_),(4,_),(6,_),(8,_),(9,_)]) (hst.pick [0,1,3,4,5] rfl) hb Za
      (Am 45 rfl<|a_p (outs:=[(50,(pTup [(Zf.pd r17.1),(Zbm r17.2.1),(Z3.pd r17.2.2.1)])),(3,(pBox Zf 3 r17.2.2.2))]) (S:=[4]) [0,5] rfl (Zpq (Ps:=[.val (pInt .i64 (7:Int))]) (hs:=[]) (ks:=[(3,none,3)]) Zu5 (Zkx _ _ _ h18) rfl rfl rfl u_0 (.val c_i .nil) (.box u_1 rfl (.val .nil)) rfl rfl rfl rfl)<|a_p [0] rfl (Zba rfl rfl u_0 rfl)<|a_p [10] rfl (Zba rfl rfl u_0 rfl)<|a_p [20] rfl (Zba rfl rfl u_0 rfl)<|a_p [20,25] rfl (Zbg Zbr rfl rfl u_1 u_0)<|Aa 20 rfl<|a_p [20,35] rfl (Zbg Zcw rfl rfl u_1 u_0)<|a_n) (fun a g hst hb=>?_)
     refine wp_ret ?_
     refine Z5 ?_
     refine Zt ?_
     obtain rfl:=Option.some.inj H0
     obtain ⟨u0,hu0,hq0⟩:=Zbo (P:=Tryz.prog) Zbr (hst.at 2 rfl)
     obtain ⟨u2,hu2,hq2⟩:=Zbo (P:=Tryz.prog) Zcw (hst.at 4 rfl)
     exact Zod rfl hst hb hu0 (Zi (s:=7)) hu2 (Zkz hq0 (hst.at 3 rfl) hq2)
    ·replace H0:=Z0 hc16 H0
     refine r_a [5,15,25,35,45,55,30] (L:=[(3,_),(4,_),(5,_),(6,_),(8,_),(9,_)]) (hst.pick [0,1,2,3,4,5] rfl) hb Za
      (Af Zgn 25 rfl<|Al ty_3 0 rfl<|a_p [0] rfl (Zci rfl rfl u_0 c_i)<|Aa 0 rfl<|a_n) (fun a g hst hb=>?_)
     refine wp_cond_split (hst.bool 6 rfl) (fun hc19=>?_) (fun hc19=>?_)
     ·replace H0:=Z1 hc19 H0
      obtain ⟨r20,h21,H0⟩:=Zc H0
      refine r_a [5,15,40,50,60] (L:=[(3,_),(4,_),(5,_),(6,_),(8,_)]) (hst.pick [0,1,2,3,4] rfl) hb Za
       (Af Zmy 25 rfl<|Al Zbr 0 rfl<|a_p [0] rfl (Zr Zrd (Zhv _ h21) rfl rfl (.cons u_0 .nil))<|a_p [] rfl (Z63 rfl rfl )<|a_p [10,35] rfl (Zbg Zbr rfl rfl u_1 u_0)<|a_p [] rfl (Zd rfl rfl c_b)<|a_p [20,45] rfl (Zbg Zcw rfl rfl u_1 u_0)<|a_n) (fun a g hst hb=>?_)
      refine wp_ret ?_
      refine Z5 ?_
      refine Zt ?_
      obtain rfl:=Option.some.inj H0
      obtain ⟨u0,hu0,hq0⟩:=Zbo (P:=Tryz.prog) Zbr (hst.at 2 rfl)
      obtain ⟨u2,hu2,hq2⟩:=Zbo (P:=Tryz.prog) Zcw (hst.at 4 rfl)
      exact Zod rfl hst hb hu0 (Zi (s:=7)) hu2 (Zkz hq0 (hst.at 3 rfl) hq2)
     ·replace H0:=Z0 hc19 H0
      refine r_a [5,15,25,35,45,55,30] (L:=[(3,_),(4,_),(5,_),(6,_),(8,_),(9,_)]) (hst.pick [0,1,2,3,4,5] rfl) hb Za
       (Af Zgn 25 rfl<|Al ty_3 0 rfl<|a_p [0] rfl (Zci rfl rfl u_0 c_i)<|Aa 0 rfl<|a_n) (fun a g hst hb=>?_)
      refine wp_cond_split (hst.bool 6 rfl) (fun hc22=>?_) (fun hc22=>?_)
      ·replace H0:=Z1 hc22 H0
       refine r_a [5,15,50,60,70] (L:=[(3,_),(4,_),(6,_),(8,_)]) (hst.pick [0,1,3,4] rfl) hb Za
        (AM Zbr 5 rfl<|Al ty_4 15 rfl<|a_p [5] rfl (Zbf Zga (off:=0) (by kernel_rfl) rfl rfl u_0)<|AP ty_3 0 rfl<|a_p [0] rfl (Zbc2 rfl rfl u_0)<|a_p [40,25] rfl (Zbg Zbr rfl rfl u_1 u_0)<|Aa 40 rfl<|a_p [20,35] rfl (Zbg Zcw rfl rfl u_1 u_0)<|a_n) (fun a g hst hb=>?_)
       refine wp_ret ?_
       refine Z5 ?_
       refine Zt ?_
       obtain rfl:=Option.some.inj H0
       obtain ⟨u0,hu0,hq0⟩:=Zbo (P:=Tryz.prog) Zbr (hst.at 2 rfl)
       obtain ⟨u2,hu2,hq2⟩:=Zbo (P:=Tryz.prog) Zcw (hst.at 4 rfl)
       exact Zod rfl hst hb hu0 (Zi (s:=7)) hu2 (Zkz hq0 (hst.at 3 rfl) hq2)
      ·replace H0:=Z0 hc22 H0
       refine r_a [5,15,25,35,45,55,20] (L:=[(3,_),(4,_),(5,_),(6,_),(8,_),(9,_)]) (hst.pick [0,1,2,3,4,5] rfl) hb Za
        (Al ty_4 15 rfl<|a_p [0] rfl (Zc2 rfl rfl u_0)<|Aa 0 rfl<|a_n) (fun a g hst hb=>?_)
       refine wp_cond_split (hst.bool 6 rfl) (fun hc23=>?_) (fun hc23=>?_)
       ·replace H0:=Z1 hc23 H0
        obtain ⟨r24,h25,H0⟩:=Zc H0
        refine r_a [11,15,50,60,70] (L:=[(3,_),(4,_),(6,_),(8,_),(9,_)]) (hst.pick [0,1,3,4,5] rfl) hb Za
         (Am 45 rfl<|a_p (outs:=[(75,(pTup [(Zf.pd r24.1),(Zbm r24.2.1),(Z3.pd r24.2.2.1)])),(3,(pBox Zf 3 r24.2.2.2))]) (S:=[4]) [0,5] rfl (Zpq (Ps:=[.val (pInt .i64 (6:Int))]) (hs:=[]) (ks:=[(3,none,3)]) Zu5 (Zkx _ _ _ h25) rfl rfl rfl u_0 (.val c_i .nil) (.box u_1 rfl (.val .nil)) rfl rfl rfl rfl)<|a_p [0] rfl (Zba rfl rfl u_0 rfl)<|a_p [10] rfl (Zba rfl rfl u_0 rfl)<|a_p [20] rfl (Zba rfl rfl u_0 rfl)<|a_p [20,25] rfl (Zbg Zbr rfl rfl u_1 u_0)<|Aa 20 rfl<|a_p [20,35] rfl (Zbg Zcw rfl rfl u_1 u_0)<|a_n) (fun a g hst hb=>?_)
        refine wp_ret ?_
        refine Z5 ?_
        refine Zt ?_
        obtain rfl:=Option.some.inj H0
        obtain ⟨u0,hu0,hq0⟩:=Zbo (P:=Tryz.prog) Zbr (hst.at 2 rfl)
        obtain ⟨u2,hu2,hq2⟩:=Zbo (P:=Tryz.prog) Zcw (hst.at 4 rfl)
        exact Zod rfl hst hb hu0 (Zi (s:=7)) hu2 (Zkz hq0 (hst.at 3 rfl) hq2)
       ·replace H0:=Z0 hc23 H0
        refine r_a [5,15,25,35,45,55,30] (L:=[(3,_),(4,_),(5,_),(6,_),(8,_),(9,_)]) (hst.pick [0,1,2,3,4,5] rfl) hb Za
         (Af Zgn 25 rfl<|Al ty_3 0 rfl<|a_p [0] rfl (Zci rfl rfl u_0 c_i)<|Aa 0 rfl<|a_n) (fun a g hst hb=>?_)
        refine wp_cond_split (hst.bool 6 rfl) (fun hc26=>?_) (fun hc26=>?_)
        ·replace H0:=Z1 hc26 H0
         refine r_a [5,15,20,30,40] (L:=[(3,_),(4,_),(6,_),(8,_)]) (hst.pick [0,1,3,4] rfl) hb Za
          (a_p [] rfl (Zvw rfl rfl )<|a_p [] rfl (Z63 rfl rfl )<|a_p [10,25] rfl (Zbg Zbr rfl rfl u_1 u_0)<|a_p [] rfl (Zd rfl rfl c_b)<|a_p [20,35] rfl (Zbg Zcw rfl rfl u_1 u_0)<|a_n) (fun a g hst hb=>?_)
         refine wp_ret ?_
         refine Z5 ?_
         refine Zt ?_
         obtain rfl:=Option.some.inj H0
         obtain ⟨u0,hu0,hq0⟩:=Zbo (P:=Tryz.prog) Zbr (hst.at 2 rfl)
         obtain ⟨u2,hu2,hq2⟩:=Zbo (P:=Tryz.prog) Zcw (hst.at 4 rfl)
         exact Zod rfl hst hb hu0 (Zi (s:=7)) hu2 (Zkz hq0 (hst.at 3 rfl) hq2)
        ·replace H0:=Z0 hc26 H0
         refine r_a [5,15,25,35,45,55,30] (L:=[(3,_),(4,_),(5,_),(6,_),(8,_),(9,_)]) (hst.pick [0,1,2,3,4,5] rfl) hb Za
          (Af Zgn 25 rfl<|Al ty_3 0 rfl<|a_p [0] rfl (Zci rfl rfl u_0 c_i)<|Aa 0 rfl<|a_n) (fun a g hst hb=>?_)
         refine wp_cond_split (hst.bool 6 rfl) (fun hc27=>?_) (fun hc27=>?_)
         ·replace H0:=Z1 hc27 H0
          obtain ⟨r28,h29,H0⟩:=Zc H0
          refine r_a [5,15,50,60,70] (L:=[(3,_),(4,_),(6,_),(8,_)]) (hst.pick [0,1,3,4] rfl) hb Za
           (AM Zbr 5 rfl<|Al ty_4 15 rfl<|AM Zbr 5 rfl<|a_p [0] rfl (Zr Zrd (Zhv _ h29) rfl rfl (.cons u_0 .nil))<|a_p [0] rfl (Zbcn rfl rfl u_0)<|a_p [40,25] rfl (Zbg Zbr rfl rfl u_1 u_0)<|Aa 40 rfl<|a_p [20,35] rfl (Zbg Zcw rfl rfl u_1 u_0)<|a_n) (fun a g hst hb=>?_)
          refine wp_ret ?_
          refine Z5 ?_
          refine Zt ?_
          obtain rfl:=Option.some.inj H0
          obtain ⟨u0,hu0,hq0⟩:=Zbo (P:=Tryz.prog) Zbr (hst.at 2 rfl)
          obtain ⟨u2,hu2,hq2⟩:=Zbo (P:=Tryz.prog) Zcw (hst.at 4 rfl)
          exact Zod rfl hst hb hu0 (Zi (s:=7)) hu2 (Zkz hq0 (hst.at 3 rfl) hq2)
         ·replace H0:=Z0 hc27 H0
          obtain ⟨r30,h31,H0⟩:=Zc H0
          refine r_a [5,15,25,35,45,55,60] (L:=[(3,_),(4,_),(5,_),(6,_),(8,_),(9,_)]) (hst.pick [0,1,2,3,4,5] rfl) hb Za
           (Af Zgn 25 rfl<|Al ty_3 0 rfl<|a_p [0] rfl (Zr Zbh1 (Zbbr _ h31) rfl rfl (.cons u_0 .nil))<|a_p [5] rfl (Zbf Zga (off:=0) (by kernel_rfl) rfl rfl u_0)<|AP ty_3 0 rfl<|a_p [20,0] rfl (Zdd rfl rfl u_0 u_1)<|Aa 0 rfl<|a_n) (fun a g hst hb=>?_)
          refine wp_cond_split (hst.bool 6 rfl) (fun hc32=>?_) (fun hc32=>?_)
          ·replace H0:=Z1 hc32 H0
           obtain ⟨r33,h34,H0⟩:=Zc H0
           refine r_a [11,15,50,60,70] (L:=[(3,_),(4,_),(6,_),(8,_),(9,_)]) (hst.pick [0,1,3,4,5] rfl) hb Za
            (Am 45 rfl<|a_p (outs:=[(102,(pTup [(Zf.pd r33.1),(Zbm r33.2.1),(Z3.pd r33.2.2.1)])),(3,(pBox Zf 3 r33.2.2.2))]) (S:=[4]) [0,5] rfl (Zpq (Ps:=[.val (pInt .i64 (5:Int))]) (hs:=[]) (ks:=[(3,none,3)]) Zu5 (Zkx _ _ _ h34) rfl rfl rfl u_0 (.val c_i .nil) (.box u_1 rfl (.val .nil)) rfl rfl rfl rfl)<|a_p [0] rfl (Zba rfl rfl u_0 rfl)<|a_p [10] rfl (Zba rfl rfl u_0 rfl)<|a_p [20] rfl (Zba rfl rfl u_0 rfl)<|a_p [20,25] rfl (Zbg Zbr rfl rfl u_1 u_0)<|Aa 20 rfl<|a_p [20,35] rfl (Zbg Zcw rfl rfl u_1 u_0)<|a_n) (fun a g hst hb=>?_)
           refine wp_ret ?_
           refine Z5 ?_
           refine Zt ?_
           obtain rfl:=Option.some.inj H0
           obtain ⟨u0,hu0,hq0⟩:=Zbo (P:=Tryz.prog) Zbr (hst.at 2 rfl)
           obtain ⟨u2,hu2,hq2⟩:=Zbo (P:=Tryz.prog) Zcw (hst.at 4 rfl)
           exact Zod rfl hst hb hu0 (Zi (s:=7)) hu2 (Zkz hq0 (hst.at 3 rfl) hq2)
          ·replace H0:=Z0 hc32 H0
           refine wp_skip ?_
           refine Zbn ?_
           refine Zo ?_
           obtain ⟨r35,h36,H0⟩:=Zc H0
           refine r_a [5,15,25,35,45,30] (L:=[(3,_),(4,_),(5,_),(6,_),(8,_)]) (hst.pick [0,1,2,3,4] rfl) hb Za
            (AM Zbr 5 rfl<|a_p [0] rfl (Zr Zrd (Zhv _ h36) rfl rfl (.cons u_0 .nil))<|a_p (outs:=[(12,(pBox Zf 12 (default:Zb)))]) (S:=[13]) [] rfl (Zbl (zs:=[.int .i64 0,.int .i64 0,.int .i64 0,.int .i64 0,.float .f64 0,.int .i64 0,.string ByteArray.empty,.slice none 0 0]) (by kernel_rfl) (fun g=>Zc4 g) rfl rfl)<|a_p [10,0] rfl (Zch Zbr rfl rfl u_1 u_0)<|a_n) (fun a g hst hb=>?_)
           refine r_a [5,15,25,35,45,55,0] (L:=[(3,_),(4,_),(5,_),(6,_),(8,_),(12,_)]) hst hb Za
            (a_p (outs:=[(13,(pBox Z3 13 (default:Zj)))]) (S:=[14]) [] rfl (Zbl (zs:=[.int .i64 0,.int .i64 0,.int .i64 0,.int .i64 0,.int .i64 0,.int .i64 0,.float .f64 0,.int .i64 0,.string ByteArray.empty,.slice none 0 0]) (by kernel_rfl) (fun g=>Zh3 g) rfl rfl)<|a_n) (fun a g hst hb=>?_)
           refine wp_seq ?_
           obtain ⟨h37,H0⟩:=Ze0 H0;obtain ⟨r38,h39,H0⟩:=Zc H0
           refine r_a [51,15,35,45,55,52,60] (L:=[(3,_),(4,_),(5,_),(6,_),(8,_),(12,_),(13,_)]) hst hb Za
            (a_p [] rfl (Zr Zbgz Zz1 rfl rfl .nil)<|Af Zgn 25 rfl<|Al ty_3 0 rfl<|a_p (outs:=[(111,(pFun Tryz.prog (Phi a2.Kind)))]) (S:=[]) [20,0] rfl (Z6o Tryz.underlying172 (by kernel_rfl) ⟨_,Tryz.underlying171,rfl⟩ (by have:=h37;omega) (Zbib h37) (by have:=h37;omega) rfl rfl u_0 u_1)<|Al Zhh 25 rfl<|a_p (outs:=[(113,(pInt .i64 r38.1)),(3,(pBox Zf 3 r38.2.1)),(13,(pBox Z3 13 r38.2.2))]) (S:=[4,14]) [10,5,0,65] rfl (Z8v (hs:=[(3,none,3),(13,none,13)]) (Zbgc h39) rfl rfl rfl u_0 (.box u_1 u_1 rfl (.val u_2 (.box u_3 u_3 rfl .nil))) rfl rfl rfl)<|Aa 0 rfl<|a_n) (fun a g hst hb=>?_)
           refine r_a [5,15,25,35,45,55,65,10] (L:=[(3,_),(4,_),(6,_),(8,_),(12,_),(13,_),(14,_)]) hst hb Za
            (Am 65 rfl<|a_p [0] rfl (Zdd rfl rfl u_0 c_i)<|a_n) (fun a g hst hb=>?_)
           refine wp_cond_split (hst.bool 7 rfl) (fun hc40=>?_) (fun hc40=>?_)
           ·replace H0:=Z1 hc40 H0
            refine r_a [5,15,40,50,60] (L:=[(3,_),(4,_),(6,_),(8,_),(12,_),(14,_)]) (hst.pick [0,1,2,3,4,6] rfl) hb Za
             (Al Zbr 45 rfl<|Al ty_4 15 rfl<|Am 55 rfl<|a_p [0] rfl (Zx1 rfl rfl u_0)<|a_p [30,25] rfl (Zbg Zbr rfl rfl u_1 u_0)<|Aa 30 rfl<|a_p [20,35] rfl (Zbg Zcw rfl rfl u_1 u_0)<|a_n) (fun a g hst hb=>?_)
            refine wp_ret ?_
            refine Zt ?_
            obtain rfl:=Option.some.inj H0
            obtain ⟨u0,hu0,hq0⟩:=Zbo (P:=Tryz.prog) Zbr (hst.at 2 rfl)
            obtain ⟨u2,hu2,hq2⟩:=Zbo (P:=Tryz.prog) Zcw (hst.at 4 rfl)
            exact Zod rfl hst hb hu0 (Zi (s:=7)) hu2 (Zkz hq0 (hst.at 3 rfl) hq2)
           ·replace H0:=Z0 hc40 H0
            refine wp_skip ?_
            refine Zo ?_
            refine r_a [5,15,30,40,50] (L:=[(3,_),(4,_),(6,_),(8,_),(13,_)]) (hst.pick [0,1,2,3,5] rfl) hb Za
             (AM Zbr 5 rfl<|Al ty_4 15 rfl<|AM Zcw 45 rfl<|a_p [20,25] rfl (Zbg Zbr rfl rfl u_1 u_0)<|Aa 20 rfl<|a_p [20,35] rfl (Zbg Zcw rfl rfl u_1 u_0)<|a_n) (fun a g hst hb=>?_)
            refine wp_ret ?_
            obtain rfl:=Option.some.inj H0
            obtain ⟨u0,hu0,hq0⟩:=Zbo (P:=Tryz.prog) Zbr (hst.at 2 rfl)
            obtain ⟨u2,hu2,hq2⟩:=Zbo (P:=Tryz.prog) Zcw (hst.at 4 rfl)
            exact Zod rfl hst hb hu0 (Zi (s:=7)) hu2 (Zkz hq0 (hst.at 3 rfl) hq2)
   ·refine wp_cond_split (hst.bool 6 rfl) (fun hc10=>?_) (fun hc10=>?_)
    ·replace H0:=Z1 hc10 H0
     obtain ⟨r11,h12,H0⟩:=Zc H0
     refine r_a [5,15,25,35,45,55,20] (L:=[(3,_),(4,_),(5,_),(6,_),(8,_),(9,_)]) (hst.pick [0,1,2,3,4,5] rfl) hb Za
      (AM Zbr 5 rfl<|a_p [0] rfl (Zr Z3d (Zpi _ h12) rfl rfl (.cons u_0 .nil))<|Aa 0 rfl<|a_n) (fun a g hst hb=>?_)
     refine r_a [5,15,25,35,45,55,65,10] (L:=[(3,_),(4,_),(5,_),(6,_),(8,_),(9,_),(11,_)]) hst hb Za
      (Am 65 rfl<|a_p [0] rfl (Zdd rfl rfl u_0 c_i)<|a_n) (fun a g hst hb=>?_)
     refine wp_cond_split (hst.bool 7 rfl) (fun hc13=>?_) (fun hc13=>?_)
     ·replace H0:=Z1 hc13 H0
      obtain ⟨r14,h15,H0⟩:=Zc H0
      refine r_a [21,15,60,70,80] (L:=[(3,_),(4,_),(6,_),(8,_),(9,_),(11,_)]) (hst.pick [0,1,3,4,5,6] rfl) hb Za
       (Am 45 rfl<|Am 55 rfl<|a_p (outs:=[(38,(pTup [(Zf.pd r14.1),(Zbm r14.2.1),(Z3.pd r14.2.2.1)])),(3,(pBox Zf 3 r14.2.2.2))]) (S:=[4]) [10,0,5] rfl (Zpq (Ps:=[.val (pInt .i64 r11)]) (hs:=[]) (ks:=[(3,none,3)]) Zu5 (Zkx _ _ _ h15) rfl rfl rfl u_0 (.val u_1 .nil) (.box u_2 rfl (.val .nil)) rfl rfl rfl rfl)<|a_p [0] rfl (Zba rfl rfl u_0 rfl)<|a_p [10] rfl (Zba rfl rfl u_0 rfl)<|a_p [20] rfl (Zba rfl rfl u_0 rfl)<|a_p [20,25] rfl (Zbg Zbr rfl rfl u_1 u_0)<|Aa 20 rfl<|a_p [20,35] rfl (Zbg Zcw rfl rfl u_1 u_0)<|a_n) (fun a g hst hb=>?_)
      refine wp_ret ?_
      refine Zt ?_
      refine Zt ?_
      obtain rfl:=Option.some.inj H0
      obtain ⟨u0,hu0,hq0⟩:=Zbo (P:=Tryz.prog) Zbr (hst.at 2 rfl)
      obtain ⟨u2,hu2,hq2⟩:=Zbo (P:=Tryz.prog) Zcw (hst.at 4 rfl)
      exact Zod rfl hst hb hu0 (Zi (s:=7)) hu2 (Zkz hq0 (hst.at 3 rfl) hq2)
     ·replace H0:=Z0 hc13 H0
      refine wp_skip ?_
      exact ⟨g,rfl,(hst.pick [0,1,2,3,4,5] rfl),hb,H0⟩
    ·replace H0:=Z0 hc10 H0
     refine wp_skip ?_
     exact ⟨g,rfl,(hst.pick [0,1,2,3,4,5] rfl),hb,H0⟩
 ·refine wp_cond_split (hst.bool 5 rfl) (fun hc1=>?_) (fun hc1=>?_)
  ·replace H0:=Z1 hc1 H0
   refine r_b [10,15,25,35,45] (L:=[(3,_),(4,_),(5,_),(6,_),(8,_)]) (hst.pick [0,1,2,3,4] rfl) hb Za
    (a_p [] rfl (Zvw rfl rfl )<|a_p [0,5] rfl (Zbg Zbr rfl rfl u_1 u_0)<|a_n) (fun a g hst hb=>?_)
   exact ⟨({ Kind:=(0:Int),Num:=(0:Int),Low:=(0:Int),High:=(0:Int),Real:=(0:Nat),Cap:=(0:Int),Text:=ByteArray.empty,List:=([]:List Zh) }:Zb),g,rfl,(hst.pick [0,1,2,3,4] rfl),hb,H0⟩
  ·replace H0:=Z0 hc1 H0
   refine wp_skip ?_
   exact ⟨a0,g,rfl,(hst.pick [0,1,2,3,4] rfl),hb,H0⟩
theorem Z30 (a0:Int) {r:Bool} (h:Zsg a0=some r):FnOk Tryz.prog 86 [(pInt .i64 a0)] (Zbm r):=by
 have H0:=h
 unfold Zsg at H0
 clear h
 refine Zb4 (N:=21) Tryz.func86 rfl rfl (Qe rfl) rfl rfl (fun a g0 hst hb=>?_)
 refine r_a [5] (L:=[(0,_)]) hst hb Za
  (a_p [] rfl (Zd rfl rfl c_b)<|a_n) (fun a g hst hb=>?_)
 refine r_a [180] (L:=[(0,_)]) hst hb Za
  (Am 5 rfl<|a_p [0] rfl (Zci rfl rfl u_0 c_i)<|Am 0 rfl<|a_g [0,5] (Qg_f rfl (fun hG=>Z6 rfl rfl u_0))<|a_g [10,0] (Qg_f rfl (fun hG=>Zci rfl rfl (Opd.gd hG u_0) c_i))<|a_p [20,0] rfl (Zb2 rfl rfl u_0 (fun hz=>(Opd.gd (bNF hz) u_1)))<|Am 0 rfl<|a_g [0,5] (Qg_f rfl (fun hG=>Z6 rfl rfl u_0))<|a_g [10,0] (Qg_f rfl (fun hG=>Zci rfl rfl (Opd.gd hG u_0) c_i))<|a_p [20,0] rfl (Zb2 rfl rfl u_0 (fun hz=>(Opd.gd (bNF hz) u_1)))<|Am 0 rfl<|a_g [0,5] (Qg_f rfl (fun hG=>Z6 rfl rfl u_0))<|a_g [10,0] (Qg_f rfl (fun hG=>Zci rfl rfl (Opd.gd hG u_0) c_i))<|a_p [20,0] rfl (Zb2 rfl rfl u_0 (fun hz=>(Opd.gd (bNF hz) u_1)))<|Am 0 rfl<|a_g [0,5] (Qg_f rfl (fun hG=>Z6 rfl rfl u_0))<|a_g [10,0] (Qg_f rfl (fun hG=>Zci rfl rfl (Opd.gd hG u_0) c_i))<|a_p [20,0] rfl (Zb2 rfl rfl u_0 (fun hz=>(Opd.gd (bNF hz) u_1)))<|Aa 0 rfl<|a_n) (fun a g hst hb=>?_)
 refine wp_ret ?_
 obtain rfl:=Option.some.inj H0
 exact Z8 rfl hst hb (Zi (s:=2)) (hst.at 0 rfl)
theorem Zuw (a0:shelf_nodeT) {r:shelf_nodeT} (h:Zj4 a0=some r):FnOk Tryz.prog 130 [(Zbe.pd a0)] (Zbe.pd r):=by
 have H0:=h
 unfold Zj4 at H0
 clear h
 refine Zb4 (N:=13) Tryz.func130 rfl rfl (Qe rfl) rfl rfl (fun a g0 hst hb=>?_)
 refine r_a [5] (L:=[(0,_)]) hst hb Za
  (a_p (outs:=[(2,(Zbe.pd shelf_nodeT.nil))]) (S:=[]) [] rfl (Zd rfl rfl (Opd.c (fun g=>Ze5 g)))<|a_n) (fun a g hst hb=>?_)
 obtain ⟨z6,hz1,H0⟩:=Zc H0
 refine wp_seq ?_
 refine Zbt (fun a w=>∃ (y5:shelf_nodeT) (g:G),w=g.w ∧ St 13 [(0,(Zbe.pd y5))] a g ∧ Base g0 g ∧ y5=z6) ?_ ?_
 ·rintro a w ⟨y5,g,rfl,hst,hb,rfl⟩
  refine Zo ?_
  refine r_a [10] (L:=[(0,_)]) hst hb Za
   (Am 5 rfl<|Aa 0 rfl<|a_n) (fun a g hst hb=>?_)
  refine wp_ret ?_
  obtain rfl:=Option.some.inj H0
  exact Z8 rfl hst hb (Zi (s:=2)) (hst.at 0 rfl)
 ·refine wp_block ?_
  refine wp_loop_ghost (fun n a w=>∃ (x1:shelf_nodeT) (g:G),w=g.w ∧ St 13 [(0,(Zbe.pd x1))] a g ∧ Base g0 g ∧ Zf5 n x1=some z6) (a0.hh + 1) ⟨a0,g,rfl,(hst.pick [0] rfl),hb,hz1⟩ (fun n a w hI=>?_)
  obtain ⟨x1,g,rfl,hst,hb,H1⟩:=hI
  cases n with
  | zero=>exact absurd H1 (by simp [Zf5])
  | succ n =>
   rw [Zf5] at H1
   refine wp_seq ?_
   obtain ⟨n2,h3,H1⟩:=Zc H1
   refine r_a [5,40] (L:=[(0,_)]) hst hb Za
    (Am 5 rfl<|a_p [0] rfl (Zm rfl rfl (Opd.imp u_0 (fun _ _ h=>Zw h3 h)) (fun _ _ ⟨_,_,_,e,_⟩=>⟨_,e⟩))<|Af Zex 0 rfl<|Al Zdj 0 rfl<|a_p [0] rfl (Z5w Tryz.underlying31 rfl rfl u_0 (Zfy _))<|a_n) (fun a g hst hb=>?_)
   refine wp_cond_split (hst.bool 1 rfl) (fun hc4=>?_) (fun hc4=>?_)
   ·replace H1:=Z1 hc4 H1
    refine wp_skip ?_
    refine Zo ?_
    refine wp_block ?_
    refine r_b [40] (L:=[(0,_)]) (hst.pick [0] rfl) hb Za
     (Am 5 rfl<|a_p [0] rfl (Zm rfl rfl (Opd.imp u_0 (fun _ _ h=>Zw h3 h)) (fun _ _ ⟨_,_,_,e,_⟩=>⟨_,e⟩))<|Af Zex 0 rfl<|Al Zdj 0 rfl<|Aa 0 rfl<|a_n) (fun a g hst hb=>?_)
    refine Zbn ?_
    exact ⟨n,Nat.lt_succ_self _,n2.left,g,rfl,(hst.pick [0] rfl),hb,H1⟩
   ·replace H1:=Z0 hc4 H1
    refine wp_exit ?_
    refine Zb0 ?_
    refine Zb0 ?_
    refine Zcj ?_
    exact ⟨x1,g,rfl,(hst.pick [0] rfl),hb,Option.some.inj H1⟩
theorem Zuq (self:shelf_nodeT → ByteArray → Option (shelf_nodeT)) (hself:∀ (a0:shelf_nodeT) (a1:ByteArray) {r:shelf_nodeT},self a0 a1=some r → FnOk Tryz.prog 106 [(Zbe.pd a0),(pStr a1)] (Zbe.pd r)) (a0:shelf_nodeT) (a1:ByteArray) {r:shelf_nodeT} (h:Zmn self a0 a1=some r):FnOk Tryz.prog 106 [(Zbe.pd a0),(pStr a1)] (Zbe.pd r):=by
 have H0:=h
 unfold Zmn at H0
 clear h
 refine Zb4 (N:=108) Tryz.func106 rfl rfl (Qe rfl) rfl rfl (fun a g0 hst hb=>?_)
 refine r_a [5,15] (L:=[(0,_),(1,_)]) hst hb Za
  (a_p (outs:=[(4,(Zbe.pd shelf_nodeT.nil))]) (S:=[]) [] rfl (Zd rfl rfl (Opd.c (fun g=>Ze5 g)))<|a_n) (fun a g hst hb=>?_)
 refine wp_seq ?_
 refine wp_block ?_
 refine r_a [5,15,20] (L:=[(0,_),(1,_)]) hst hb Za
  (Am 5 rfl<|a_p [0] rfl (Zsy Tryz.underlying31 rfl rfl u_0 (Zfy _))<|Aa 0 rfl<|a_n) (fun a g hst hb=>?_)
 refine wp_cond_split (hst.bool 2 rfl) (fun hc1=>?_) (fun hc1=>?_)
 ·replace H0:=Z1 hc1 H0
  refine r_a [0] (L:=[]) (hst.pick [] rfl) hb Za
   (a_p (outs:=[(4,(Zbe.pd shelf_nodeT.nil))]) (S:=[]) [] rfl (Zd rfl rfl (Opd.c (fun g=>Ze5 g)))<|a_n) (fun a g hst hb=>?_)
  refine wp_ret ?_
  refine Z5 ?_
  refine Zt ?_
  obtain rfl:=Option.some.inj H0
  exact Z8 rfl hst hb (Zi (s:=4)) (hst.at 0 rfl)
 ·replace H0:=Z0 hc1 H0
  obtain ⟨n2,h3,H0⟩:=Zc H0
  refine r_a [5,15,60] (L:=[(0,_),(1,_)]) (hst.pick [0,1] rfl) hb Za
   (Am 15 rfl<|Am 5 rfl<|a_p [0] rfl (Zm rfl rfl (Opd.imp u_0 (fun _ _ h=>Zw h3 h)) (fun _ _ ⟨_,_,_,e,_⟩=>⟨_,e⟩))<|Af Zfh 0 rfl<|Al ty_9 0 rfl<|a_p [40,0] rfl (Zqz rfl rfl u_0 u_1)<|Aa 0 rfl<|a_n) (fun a g hst hb=>?_)
  refine wp_cond_split (hst.bool 2 rfl) (fun hc4=>?_) (fun hc4=>?_)
  ·replace H0:=Z1 hc4 H0
   obtain ⟨r5,h6,H0⟩:=Zc H0;obtain ⟨r7,h8,H0⟩:=Zc H0
   refine r_a [190] (L:=[(0,_),(1,_)]) (hst.pick [0,1] rfl) hb Za
    (Am 5 rfl<|a_p [0] rfl (Zm rfl rfl (Opd.imp u_0 (fun _ _ h=>Zw h3 h)) (fun _ _ ⟨_,_,_,e,_⟩=>⟨_,e⟩))<|Af Zfh 0 rfl<|Al ty_9 0 rfl<|Am 5 rfl<|a_p [0] rfl (Zm rfl rfl (Opd.imp u_0 (fun _ _ h=>Zw h3 h)) (fun _ _ ⟨_,_,_,e,_⟩=>⟨_,e⟩))<|Af Zim 0 rfl<|Al Zbr 0 rfl<|Am 5 rfl<|a_p [0] rfl (Zm rfl rfl (Opd.imp u_0 (fun _ _ h=>Zw h3 h)) (fun _ _ ⟨_,_,_,e,_⟩=>⟨_,e⟩))<|Af Zex 0 rfl<|Al Zdj 0 rfl<|Am 15 rfl<|a_p [10,0] rfl (Zr Zzh (hself _ _ h6) rfl rfl (.cons u_0 (.cons u_1 .nil)))<|Am 5 rfl<|a_p [0] rfl (Zm rfl rfl (Opd.imp u_0 (fun _ _ h=>Zw h3 h)) (fun _ _ ⟨_,_,_,e,_⟩=>⟨_,e⟩))<|Af Zfo 0 rfl<|Al Zdj 0 rfl<|a_p [140,100,40,0] rfl (Zr Zy6 (Zmp _ _ _ _ h8) rfl rfl (.cons u_0 (.cons u_1 (.cons u_2 (.cons u_3 .nil)))))<|Aa 0 rfl<|a_n) (fun a g hst hb=>?_)
   refine wp_ret ?_
   refine Z5 ?_
   refine Zt ?_
   obtain rfl:=Option.some.inj H0
   exact Z8 rfl hst hb (Zi (s:=4)) (hst.at 0 rfl)
  ·replace H0:=Z0 hc4 H0
   refine r_a [5,15,60] (L:=[(0,_),(1,_)]) (hst.pick [0,1] rfl) hb Za
    (Am 15 rfl<|Am 5 rfl<|a_p [0] rfl (Zm rfl rfl (Opd.imp u_0 (fun _ _ h=>Zw h3 h)) (fun _ _ ⟨_,_,_,e,_⟩=>⟨_,e⟩))<|Af Zfh 0 rfl<|Al ty_9 0 rfl<|a_p [40,0] rfl (Zzr rfl rfl u_0 u_1)<|Aa 0 rfl<|a_n) (fun a g hst hb=>?_)
   refine wp_cond_split (hst.bool 2 rfl) (fun hc9=>?_) (fun hc9=>?_)
   ·replace H0:=Z1 hc9 H0
    obtain ⟨r10,h11,H0⟩:=Zc H0;obtain ⟨r12,h13,H0⟩:=Zc H0
    refine r_a [190] (L:=[(0,_),(1,_)]) (hst.pick [0,1] rfl) hb Za
     (Am 5 rfl<|a_p [0] rfl (Zm rfl rfl (Opd.imp u_0 (fun _ _ h=>Zw h3 h)) (fun _ _ ⟨_,_,_,e,_⟩=>⟨_,e⟩))<|Af Zfh 0 rfl<|Al ty_9 0 rfl<|Am 5 rfl<|a_p [0] rfl (Zm rfl rfl (Opd.imp u_0 (fun _ _ h=>Zw h3 h)) (fun _ _ ⟨_,_,_,e,_⟩=>⟨_,e⟩))<|Af Zim 0 rfl<|Al Zbr 0 rfl<|Am 5 rfl<|a_p [0] rfl (Zm rfl rfl (Opd.imp u_0 (fun _ _ h=>Zw h3 h)) (fun _ _ ⟨_,_,_,e,_⟩=>⟨_,e⟩))<|Af Zex 0 rfl<|Al Zdj 0 rfl<|Am 5 rfl<|a_p [0] rfl (Zm rfl rfl (Opd.imp u_0 (fun _ _ h=>Zw h3 h)) (fun _ _ ⟨_,_,_,e,_⟩=>⟨_,e⟩))<|Af Zfo 0 rfl<|Al Zdj 0 rfl<|Am 15 rfl<|a_p [10,0] rfl (Zr Zzh (hself _ _ h11) rfl rfl (.cons u_0 (.cons u_1 .nil)))<|a_p [140,100,60,0] rfl (Zr Zy6 (Zmp _ _ _ _ h13) rfl rfl (.cons u_0 (.cons u_1 (.cons u_2 (.cons u_3 .nil)))))<|Aa 0 rfl<|a_n) (fun a g hst hb=>?_)
    refine wp_ret ?_
    refine Z5 ?_
    refine Zt ?_
    obtain rfl:=Option.some.inj H0
    exact Z8 rfl hst hb (Zi (s:=4)) (hst.at 0 rfl)
   ·replace H0:=Z0 hc9 H0
    refine r_a [5,50] (L:=[(0,_)]) (hst.pick [0] rfl) hb Za
     (Am 5 rfl<|a_p [0] rfl (Zm rfl rfl (Opd.imp u_0 (fun _ _ h=>Zw h3 h)) (fun _ _ ⟨_,_,_,e,_⟩=>⟨_,e⟩))<|Af Zex 0 rfl<|Al Zdj 0 rfl<|a_p [0] rfl (Zsy Tryz.underlying31 rfl rfl u_0 (Zfy _))<|Aa 0 rfl<|a_n) (fun a g hst hb=>?_)
    refine wp_cond_split (hst.bool 1 rfl) (fun hc14=>?_) (fun hc14=>?_)
    ·replace H0:=Z1 hc14 H0
     refine r_a [40] (L:=[(0,_)]) (hst.pick [0] rfl) hb Za
      (Am 5 rfl<|a_p [0] rfl (Zm rfl rfl (Opd.imp u_0 (fun _ _ h=>Zw h3 h)) (fun _ _ ⟨_,_,_,e,_⟩=>⟨_,e⟩))<|Af Zfo 0 rfl<|Al Zdj 0 rfl<|Aa 0 rfl<|a_n) (fun a g hst hb=>?_)
     refine wp_ret ?_
     refine Z5 ?_
     refine Zt ?_
     obtain rfl:=Option.some.inj H0
     exact Z8 rfl hst hb (Zi (s:=4)) (hst.at 0 rfl)
    ·replace H0:=Z0 hc14 H0
     refine r_a [5,50] (L:=[(0,_)]) (hst.pick [0] rfl) hb Za
      (Am 5 rfl<|a_p [0] rfl (Zm rfl rfl (Opd.imp u_0 (fun _ _ h=>Zw h3 h)) (fun _ _ ⟨_,_,_,e,_⟩=>⟨_,e⟩))<|Af Zfo 0 rfl<|Al Zdj 0 rfl<|a_p [0] rfl (Zsy Tryz.underlying31 rfl rfl u_0 (Zfy _))<|Aa 0 rfl<|a_n) (fun a g hst hb=>?_)
     refine wp_cond_split (hst.bool 1 rfl) (fun hc15=>?_) (fun hc15=>?_)
     ·replace H0:=Z1 hc15 H0
      refine r_a [40] (L:=[(0,_)]) (hst.pick [0] rfl) hb Za
       (Am 5 rfl<|a_p [0] rfl (Zm rfl rfl (Opd.imp u_0 (fun _ _ h=>Zw h3 h)) (fun _ _ ⟨_,_,_,e,_⟩=>⟨_,e⟩))<|Af Zex 0 rfl<|Al Zdj 0 rfl<|Aa 0 rfl<|a_n) (fun a g hst hb=>?_)
      refine wp_ret ?_
      refine Z5 ?_
      refine Zt ?_
      obtain rfl:=Option.some.inj H0
      exact Z8 rfl hst hb (Zi (s:=4)) (hst.at 0 rfl)
     ·replace H0:=Z0 hc15 H0
      refine wp_skip ?_
      refine Zbn ?_
      refine Zo ?_
      obtain ⟨r16,h17,H0⟩:=Zc H0
      refine r_a [5,50] (L:=[(0,_)]) (hst.pick [0] rfl) hb Za
       (Am 5 rfl<|a_p [0] rfl (Zm rfl rfl (Opd.imp u_0 (fun _ _ h=>Zw h3 h)) (fun _ _ ⟨_,_,_,e,_⟩=>⟨_,e⟩))<|Af Zfo 0 rfl<|Al Zdj 0 rfl<|a_p [0] rfl (Zr Zbgy (Zuw _ h17) rfl rfl (.cons u_0 .nil))<|Aa 0 rfl<|a_n) (fun a g hst hb=>?_)
      obtain ⟨n18,h19,H0⟩:=Zc H0;obtain ⟨r20,h21,H0⟩:=Zc H0;obtain ⟨r22,h23,H0⟩:=Zc H0
      refine r_a [220] (L:=[(0,_),(5,_)]) hst hb Za
       (Am 15 rfl<|a_p [0] rfl (Zm rfl rfl (Opd.imp u_0 (fun _ _ h=>Zw h19 h)) (fun _ _ ⟨_,_,_,e,_⟩=>⟨_,e⟩))<|Af Zfh 0 rfl<|Al ty_9 0 rfl<|Am 15 rfl<|a_p [0] rfl (Zm rfl rfl (Opd.imp u_0 (fun _ _ h=>Zw h19 h)) (fun _ _ ⟨_,_,_,e,_⟩=>⟨_,e⟩))<|Af Zim 0 rfl<|Al Zbr 0 rfl<|Am 5 rfl<|a_p [0] rfl (Zm rfl rfl (Opd.imp u_0 (fun _ _ h=>Zw h3 h)) (fun _ _ ⟨_,_,_,e,_⟩=>⟨_,e⟩))<|Af Zex 0 rfl<|Al Zdj 0 rfl<|Am 5 rfl<|a_p [0] rfl (Zm rfl rfl (Opd.imp u_0 (fun _ _ h=>Zw h3 h)) (fun _ _ ⟨_,_,_,e,_⟩=>⟨_,e⟩))<|Af Zfo 0 rfl<|Al Zdj 0 rfl<|Am 15 rfl<|a_p [0] rfl (Zm rfl rfl (Opd.imp u_0 (fun _ _ h=>Zw h19 h)) (fun _ _ ⟨_,_,_,e,_⟩=>⟨_,e⟩))<|Af Zfh 0 rfl<|Al ty_9 0 rfl<|a_p [40,0] rfl (Zr Zzh (hself _ _ h21) rfl rfl (.cons u_0 (.cons u_1 .nil)))<|a_p [170,130,90,0] rfl (Zr Zy6 (Zmp _ _ _ _ h23) rfl rfl (.cons u_0 (.cons u_1 (.cons u_2 (.cons u_3 .nil)))))<|Aa 0 rfl<|a_n) (fun a g hst hb=>?_)
      refine wp_ret ?_
      obtain rfl:=Option.some.inj H0
      exact Z8 rfl hst hb (Zi (s:=4)) (hst.at 0 rfl)
theorem Zpw:∀ (n:Nat) (a0:shelf_nodeT) (a1:ByteArray) {r:shelf_nodeT},Zg8 n a0 a1=some r → FnOk Tryz.prog 106 [(Zbe.pd a0),(pStr a1)] (Zbe.pd r)
 | 0,_,_,_,h=>by simp [Zg8] at h
 | n + 1,a0,a1,_,h=>Zuq (Zg8 n) (fun a0 a1 r h=>Zpw n a0 a1 h) a0 a1 h
theorem Zw8 (a0:shelf_nodeT) (a1:ByteArray) {r:shelf_nodeT} (h:Zqc a0 a1=some r):FnOk Tryz.prog 106 [(Zbe.pd a0),(pStr a1)] (Zbe.pd r):=Zpw _ a0 a1 h
theorem Zv1 (a0:Zp) (a1:ByteArray) {r:Zp × Bool} (h:Zhr a0 a1=some r):FnOk Tryz.prog 87 [(Z4.pd a0),(pStr a1)] (pTup [(Z4.pd r.1),(Zbm r.2)]):=by
 have H0:=h
 unfold Zhr at H0
 clear h
 refine Zb4 (N:=24) Tryz.func87 rfl rfl (Qe rfl) rfl rfl (fun a g0 hst hb=>?_)
 refine r_a [15,0,10] (L:=[(0,_),(1,_)]) hst hb Za
  (a_p [5] rfl (Zbq rfl rfl u_0)<|a_p (outs:=[(4,(pBox Z4 4 (default:Zp)))]) (S:=[5]) [] rfl (Zbl (zs:=[.pointer none,.int .i64 0]) (by kernel_rfl) (fun g=>Zd6 g) rfl rfl)<|a_p [] rfl (Zd rfl rfl c_b)<|a_n) (fun a g hst hb=>?_)
 refine wp_seq ?_
 obtain ⟨r1,h2,H0⟩:=Zc H0
 refine r_a [5,15,25,80] (L:=[(1,_),(2,_),(4,_)]) hst hb Za
  (Al Zb7 15 rfl<|Am 5 rfl<|a_p [10,0] rfl (Zr Z8d (Zng _ _ h2) rfl rfl (.cons u_0 (.cons u_1 .nil)))<|Am 0 rfl<|a_p [0] rfl (Zba rfl rfl u_0 rfl)<|a_p [10] rfl (Zba rfl rfl u_0 rfl)<|a_p (outs:=[(6,(pBox Zf 6 (default:Zb)))]) (S:=[7]) [] rfl (Zbl (zs:=[.int .i64 0,.int .i64 0,.int .i64 0,.int .i64 0,.float .f64 0,.int .i64 0,.string ByteArray.empty,.slice none 0 0]) (by kernel_rfl) (fun g=>Zc4 g) rfl rfl)<|a_p [20,0] rfl (Zch Zbr rfl rfl u_1 u_0)<|Aa 20 rfl<|a_n) (fun a g hst hb=>?_)
 refine r_a [5,15,25,10] (L:=[(1,_),(2,_),(4,_),(7,_)]) hst hb Za
  (Am 35 rfl<|a_p [0] rfl (Zc2 rfl rfl u_0)<|a_n) (fun a g hst hb=>?_)
 refine wp_cond_split (hst.bool 3 rfl) (fun hc3=>?_) (fun hc3=>?_)
 ·replace H0:=Z1 hc3 H0
  refine r_a [10,20] (L:=[(2,_),(4,_)]) (hst.pick [1,2] rfl) hb Za
   (Al Zb7 5 rfl<|a_p [0,15] rfl (Zbg Zb7 rfl rfl u_1 u_0)<|a_p [] rfl (Zd rfl rfl c_b)<|a_n) (fun a g hst hb=>?_)
  refine wp_ret ?_
  refine Zt ?_
  obtain rfl:=Option.some.inj H0
  obtain ⟨u0,hu0,hq0⟩:=Zbo (P:=Tryz.prog) Zb7 (hst.at 0 rfl)
  exact Zev rfl hst hb hu0 (Zi (s:=5)) (Zdc hq0 (hst.at 1 rfl))
 ·replace H0:=Z0 hc3 H0
  refine wp_skip ?_
  refine Zo ?_
  obtain ⟨r4,h5,H0⟩:=Zc H0
  refine r_a [70,80] (L:=[(1,_),(2,_),(4,_)]) (hst.pick [0,1,2] rfl) hb Za
   (Af Zsz 15 rfl<|Al Zdj 0 rfl<|Am 5 rfl<|a_p [10,0] rfl (Zr Zzh (Zw8 _ _ h5) rfl rfl (.cons u_0 (.cons u_1 .nil)))<|Af Z01 15 rfl<|Al ty_3 0 rfl<|a_p [20,0] rfl (Z1b rfl rfl u_0 u_1)<|a_p [0,25] rfl (Zbg Zb7 rfl rfl u_1 u_0)<|a_p [] rfl (Zd rfl rfl c_b)<|a_n) (fun a g hst hb=>?_)
  refine wp_ret ?_
  obtain rfl:=Option.some.inj H0
  obtain ⟨u0,hu0,hq0⟩:=Zbo (P:=Tryz.prog) Zb7 (hst.at 0 rfl)
  exact Zev rfl hst hb hu0 (Zi (s:=5)) (Zdc hq0 (hst.at 1 rfl))
theorem Z6i (a0:Zp) (a1:Zs) {r:Zp × Zj} (h:Zrs a0 a1=some r):FnOk Tryz.prog 54 [(Z4.pd a0),(Zy.pd a1)] (pTup [(Z4.pd r.1),(Z3.pd r.2)]):=by
 have H0:=h
 unfold Zrs at H0
 clear h
 refine Zb4 (N:=66) Tryz.func54 rfl rfl (Qe rfl) rfl rfl (fun a g0 hst hb=>?_)
 refine r_a [0,10,20,30] (L:=[(0,_),(1,_)]) hst hb Za
  (a_p (outs:=[(2,(pBox Z4 2 a0))]) (S:=[3]) [5] rfl (Zrp rfl rfl u_0)<|a_p [15] rfl (Zbq rfl rfl u_0)<|a_p (outs:=[(4,(pBox Z4 4 (default:Zp)))]) (S:=[5]) [] rfl (Zbl (zs:=[.pointer none,.int .i64 0]) (by kernel_rfl) (fun g=>Zd6 g) rfl rfl)<|a_p (outs:=[(5,(pBox Z3 5 (default:Zj)))]) (S:=[6]) [] rfl (Zbl (zs:=[.int .i64 0,.int .i64 0,.int .i64 0,.int .i64 0,.int .i64 0,.int .i64 0,.float .f64 0,.int .i64 0,.string ByteArray.empty,.slice none 0 0]) (by kernel_rfl) (fun g=>Zh3 g) rfl rfl)<|a_n) (fun a g hst hb=>?_)
 obtain ⟨r1,h2,H0⟩:=Zc H0
 refine r_a [5,15,25,35,80,90] (L:=[(2,_),(3,_),(4,_),(5,_)]) hst hb Za
  (AM Zb7 5 rfl<|Af Zmx 15 rfl<|Al ty_9 0 rfl<|a_p [20,0] rfl (Zr Z8d (Zng _ _ h2) rfl rfl (.cons u_0 (.cons u_1 .nil)))<|Am 0 rfl<|a_p [0] rfl (Zba rfl rfl u_0 rfl)<|a_p [10] rfl (Zba rfl rfl u_0 rfl)<|a_p (outs:=[(6,(pBox Zf 6 (default:Zb)))]) (S:=[7]) [] rfl (Zbl (zs:=[.int .i64 0,.int .i64 0,.int .i64 0,.int .i64 0,.float .f64 0,.int .i64 0,.string ByteArray.empty,.slice none 0 0]) (by kernel_rfl) (fun g=>Zc4 g) rfl rfl)<|a_p [20,0] rfl (Zch Zbr rfl rfl u_1 u_0)<|Aa 20 rfl<|a_n) (fun a g hst hb=>?_)
 obtain ⟨r3,h4,H0⟩:=Zc H0
 refine r_a [5,15,25,35,100,110,120] (L:=[(2,_),(3,_),(4,_),(5,_),(6,_),(7,_)]) hst hb Za
  (Al Zbr 45 rfl<|Am 55 rfl<|Al Zhh 15 rfl<|a_p [20,10,0] rfl (Zr Zbkq (Z2e _ _ _ h4) rfl rfl (.cons u_0 (.cons u_1 (.cons u_2 .nil))))<|Am 0 rfl<|a_p [0] rfl (Zba rfl rfl u_0 rfl)<|a_p [10] rfl (Zba rfl rfl u_0 rfl)<|a_p [20] rfl (Zba rfl rfl u_0 rfl)<|a_p (outs:=[(8,(pBox Zf 8 (default:Zb)))]) (S:=[9]) [] rfl (Zbl (zs:=[.int .i64 0,.int .i64 0,.int .i64 0,.int .i64 0,.float .f64 0,.int .i64 0,.string ByteArray.empty,.slice none 0 0]) (by kernel_rfl) (fun g=>Zc4 g) rfl rfl)<|a_p (outs:=[(10,(pBox Z3 10 (default:Zj)))]) (S:=[11]) [] rfl (Zbl (zs:=[.int .i64 0,.int .i64 0,.int .i64 0,.int .i64 0,.int .i64 0,.int .i64 0,.float .f64 0,.int .i64 0,.string ByteArray.empty,.slice none 0 0]) (by kernel_rfl) (fun g=>Zh3 g) rfl rfl)<|a_p [40,10] rfl (Zch Zbr rfl rfl u_1 u_0)<|Aa 40 rfl<|a_p [40,20] rfl (Zch Zcw rfl rfl u_1 u_0)<|a_n) (fun a g hst hb=>?_)
 refine wp_seq ?_
 refine wp_block ?_
 obtain ⟨r5,h6,H0⟩:=Zc H0
 refine r_a [5,15,25,35,45,55,65,80] (L:=[(2,_),(3,_),(4,_),(5,_),(8,_),(9,_),(10,_)]) hst hb Za
  (Af Zqd 65 rfl<|Al Zpk 0 rfl<|a_p [0] rfl (Zdd rfl rfl u_0 c_i)<|Am 0 rfl<|a_g [0,15] (Qg_f rfl (fun hG=>Zl Zgn rfl rfl u_0))<|a_g [10,0] (Qg_f rfl (fun hG=>Z2 ty_3 rfl rfl (Opd.gd hG u_0)))<|a_g [20,0] (Qg_f rfl (fun hG=>Zr Zbki (Z30 _ (Zcb h6 hG)) rfl rfl (.cons (Opd.gd hG u_0) .nil)))<|a_p [30,0] rfl (Zb2 rfl rfl u_0 (fun hz=>(Opd.gd (bNF hz) u_1)))<|Aa 0 rfl<|a_n) (fun a g hst hb=>?_)
 refine wp_cond_split (hst.bool 7 rfl) (fun hc7=>?_) (fun hc7=>?_)
 ·replace H0:=Z1 hc7 H0
  refine r_a [20,30] (L:=[(2,_),(4,_),(5,_),(10,_)]) (hst.pick [0,2,3,6] rfl) hb Za
   (AM Zb7 5 rfl<|Al Zcw 35 rfl<|a_p [10,15] rfl (Zbg Zb7 rfl rfl u_1 u_0)<|a_p [10,25] rfl (Zbg Zcw rfl rfl u_1 u_0)<|a_n) (fun a g hst hb=>?_)
  refine wp_ret ?_
  refine Z5 ?_
  refine Zt ?_
  obtain rfl:=Option.some.inj H0
  obtain ⟨u0,hu0,hq0⟩:=Zbo (P:=Tryz.prog) Zb7 (hst.at 0 rfl)
  obtain ⟨u1,hu1,hq1⟩:=Zbo (P:=Tryz.prog) Zcw (hst.at 1 rfl)
  exact Zev rfl hst hb hu0 hu1 (Zdc hq0 hq1)
 ·replace H0:=Z0 hc7 H0
  refine r_a [5,15,25,35,45,65,20] (L:=[(2,_),(3,_),(4,_),(5,_),(8,_),(9,_),(10,_)]) (hst.pick [0,1,2,3,4,5,6] rfl) hb Za
   (Am 55 rfl<|a_p [0] rfl (Zc2 rfl rfl u_0)<|Aa 0 rfl<|a_n) (fun a g hst hb=>?_)
  refine wp_cond_split (hst.bool 6 rfl) (fun hc8=>?_) (fun hc8=>?_)
  ·replace H0:=Z1 hc8 H0
   obtain ⟨r9,h10,H0⟩:=Zc H0
   refine r_a [70,25,35,45] (L:=[(2,_),(3,_),(4,_),(5,_),(10,_)]) (hst.pick [0,1,2,3,5] rfl) hb Za
    (AM Zb7 5 rfl<|Af Zmx 15 rfl<|Al ty_9 0 rfl<|a_p [20,0] rfl (Zr Zbi6 (Zv1 _ _ h10) rfl rfl (.cons u_0 (.cons u_1 .nil)))<|Am 0 rfl<|a_p [0] rfl (Zba rfl rfl u_0 rfl)<|a_p [10] rfl (Zba rfl rfl u_0 rfl)<|a_p [10,5] rfl (Zbg Zb7 rfl rfl u_1 u_0)<|a_n) (fun a g hst hb=>?_)
   refine r_a [20,30] (L:=[(2,_),(4,_),(5,_),(10,_)]) hst hb Za
    (AM Zb7 5 rfl<|Al Zcw 35 rfl<|a_p [10,15] rfl (Zbg Zb7 rfl rfl u_1 u_0)<|a_p [10,25] rfl (Zbg Zcw rfl rfl u_1 u_0)<|a_n) (fun a g hst hb=>?_)
   refine wp_ret ?_
   refine Z5 ?_
   refine Zt ?_
   obtain rfl:=Option.some.inj H0
   obtain ⟨u0,hu0,hq0⟩:=Zbo (P:=Tryz.prog) Zb7 (hst.at 0 rfl)
   obtain ⟨u1,hu1,hq1⟩:=Zbo (P:=Tryz.prog) Zcw (hst.at 1 rfl)
   exact Zev rfl hst hb hu0 hu1 (Zdc hq0 hq1)
  ·replace H0:=Z0 hc8 H0
   refine wp_skip ?_
   refine Zbn ?_
   refine Zo ?_
   obtain ⟨r11,h12,H0⟩:=Zc H0
   refine r_a [5,25,35,55,90,100] (L:=[(2,_),(3,_),(4,_),(5,_),(8,_),(10,_)]) (hst.pick [0,1,2,3,4,5] rfl) hb Za
    (AM Zb7 5 rfl<|Af Zmx 15 rfl<|Al ty_9 0 rfl<|Al Zbr 45 rfl<|a_p [30,10,0] rfl (Zr Zbdz (Zqw _ _ _ h12) rfl rfl (.cons u_0 (.cons u_1 (.cons u_2 .nil))))<|Am 0 rfl<|a_p [0] rfl (Zba rfl rfl u_0 rfl)<|a_p [10] rfl (Zba rfl rfl u_0 rfl)<|a_p (outs:=[(11,(pBox Z4 11 (default:Zp)))]) (S:=[12]) [] rfl (Zbl (zs:=[.pointer none,.int .i64 0]) (by kernel_rfl) (fun g=>Zd6 g) rfl rfl)<|a_p [20,0] rfl (Zch Zb7 rfl rfl u_1 u_0)<|Aa 20 rfl<|a_n) (fun a g hst hb=>?_)
   refine wp_seq ?_
   refine r_a [5,15,25,35,45,55,10] (L:=[(2,_),(4,_),(5,_),(10,_),(11,_),(12,_)]) hst hb Za
    (Am 55 rfl<|a_p [0] rfl (Zdd rfl rfl u_0 c_i)<|a_n) (fun a g hst hb=>?_)
   refine wp_cond_split (hst.bool 6 rfl) (fun hc13=>?_) (fun hc13=>?_)
   ·replace H0:=Z1 hc13 H0
    refine r_a [30,40] (L:=[(2,_),(4,_),(5,_),(12,_)]) (hst.pick [0,1,2,5] rfl) hb Za
     (AM Zb7 5 rfl<|Am 35 rfl<|a_p [0] rfl (Zx1 rfl rfl u_0)<|a_p [20,15] rfl (Zbg Zb7 rfl rfl u_1 u_0)<|a_p [10,25] rfl (Zbg Zcw rfl rfl u_1 u_0)<|a_n) (fun a g hst hb=>?_)
    refine wp_ret ?_
    refine Zt ?_
    obtain rfl:=Option.some.inj H0
    obtain ⟨u0,hu0,hq0⟩:=Zbo (P:=Tryz.prog) Zb7 (hst.at 0 rfl)
    obtain ⟨u1,hu1,hq1⟩:=Zbo (P:=Tryz.prog) Zcw (hst.at 1 rfl)
    exact Zev rfl hst hb hu0 hu1 (Zdc hq0 hq1)
   ·replace H0:=Z0 hc13 H0
    refine wp_skip ?_
    refine Zo ?_
    refine r_a [20,30] (L:=[(4,_),(5,_),(10,_),(11,_)]) (hst.pick [1,2,3,4] rfl) hb Za
     (Al Zb7 35 rfl<|Al Zcw 25 rfl<|a_p [10,5] rfl (Zbg Zb7 rfl rfl u_1 u_0)<|a_p [10,15] rfl (Zbg Zcw rfl rfl u_1 u_0)<|a_n) (fun a g hst hb=>?_)
    refine wp_ret ?_
    obtain rfl:=Option.some.inj H0
    obtain ⟨u0,hu0,hq0⟩:=Zbo (P:=Tryz.prog) Zb7 (hst.at 0 rfl)
    obtain ⟨u1,hu1,hq1⟩:=Zbo (P:=Tryz.prog) Zcw (hst.at 1 rfl)
    exact Zev rfl hst hb hu0 hu1 (Zdc hq0 hq1)
theorem Z5i (a0:Zs) (a1:Zj) (a2:Int) {r:Zj} (h:Zqt a0 a1 a2=some r):FnOk Tryz.prog 55 [(Zy.pd a0),(Z3.pd a1),(pInt .i64 a2)] (Z3.pd r):=by
 have H0:=h
 unfold Zqt at H0
 clear h
 refine Zb4 (N:=20) Tryz.func55 rfl rfl (Qe rfl) rfl rfl (fun a g0 hst hb=>?_)
 refine r_a [25,0,10,20] (L:=[(0,_),(1,_),(2,_)]) hst hb Za
  (a_p [5] rfl (Zbq rfl rfl u_0)<|a_p [15] rfl (Zbq rfl rfl u_0)<|a_p (outs:=[(6,(pBox Z3 6 (default:Zj)))]) (S:=[7]) [] rfl (Zbl (zs:=[.int .i64 0,.int .i64 0,.int .i64 0,.int .i64 0,.int .i64 0,.int .i64 0,.float .f64 0,.int .i64 0,.string ByteArray.empty,.slice none 0 0]) (by kernel_rfl) (fun g=>Zh3 g) rfl rfl)<|a_n) (fun a g hst hb=>?_)
 refine wp_seq ?_
 refine r_a [5,25,35,60] (L:=[(2,_),(3,_),(4,_),(6,_)]) hst hb Za
  (Af Zro 15 rfl<|Al ty_4 0 rfl<|Am 0 rfl<|a_g [0,25] (Qg_t rfl (fun hG=>Zl Zqd rfl rfl u_0))<|a_g [10,0] (Qg_t rfl (fun hG=>Z2 Zpk rfl rfl (Opd.gd hG u_0)))<|a_g [20,0] (Qg_t rfl (fun hG=>Zdd rfl rfl (Opd.gd hG u_0) c_i))<|a_p [30,0] rfl (Zb5 rfl rfl u_0 (fun hz=>(Opd.gd hz u_1)))<|a_n) (fun a g hst hb=>?_)
 refine Zbt (fun a w=>∃ (g:G),w=g.w ∧ St 20 [(4,(Z3.ptr a1)),(6,(pBox Z3 6 (default:Zj)))] a g ∧ Base g0 g ∧ Zr1 a1=some r) ?_ ?_
 ·rintro a w ⟨g,rfl,hst,hb,H0⟩
  unfold Zr1 at H0
  refine Zo ?_
  refine r_a [10] (L:=[(4,_),(6,_)]) hst hb Za
   (Al Zcw 5 rfl<|a_p [0,15] rfl (Zbg Zcw rfl rfl u_1 u_0)<|a_n) (fun a g hst hb=>?_)
  refine wp_ret ?_
  obtain rfl:=Option.some.inj H0
  obtain ⟨u0,hu0,hq0⟩:=Zbo (P:=Tryz.prog) Zcw (hst.at 0 rfl)
  exact Z8 rfl hst hb hu0 hq0
 ·refine wp_cond_split (hst.bool 3 rfl) (fun hc1=>?_) (fun hc1=>?_)
  ·replace H0:=Z1 hc1 H0
   cases H0
  ·replace H0:=Z0 hc1 H0
   refine wp_skip ?_
   exact ⟨g,rfl,(hst.pick [1,2] rfl),hb,H0⟩
theorem Z0n (a0:Zs) (a1:Zj) (a2:Int) {r:Zea} (h:Zoi a0 a1 a2=some r):Z8o Tryz.prog 55 [(Zy.pd a0),(Z3.pd a1),(pInt .i64 a2)] (Zok 116 (Zgm.pd r)):=by
 have H0:=h
 unfold Zoi at H0
 clear h
 refine Zbck (N:=20) Tryz.func55 rfl rfl (Qe rfl) rfl rfl (fun a g0 hst hb=>?_)
 refine r_a [25,0,10,20] (L:=[(0,_),(1,_),(2,_)]) hst hb Za
  (a_p [5] rfl (Zbq rfl rfl u_0)<|a_p [15] rfl (Zbq rfl rfl u_0)<|a_p (outs:=[(6,(pBox Z3 6 (default:Zj)))]) (S:=[7]) [] rfl (Zbl (zs:=[.int .i64 0,.int .i64 0,.int .i64 0,.int .i64 0,.int .i64 0,.int .i64 0,.float .f64 0,.int .i64 0,.string ByteArray.empty,.slice none 0 0]) (by kernel_rfl) (fun g=>Zh3 g) rfl rfl)<|a_n) (fun a g hst hb=>?_)
 refine wp_seq ?_
 refine r_a [5,25,35,60] (L:=[(2,_),(3,_),(4,_),(6,_)]) hst hb Za
  (Af Zro 15 rfl<|Al ty_4 0 rfl<|Am 0 rfl<|a_g [0,25] (Qg_t rfl (fun hG=>Zl Zqd rfl rfl u_0))<|a_g [10,0] (Qg_t rfl (fun hG=>Z2 Zpk rfl rfl (Opd.gd hG u_0)))<|a_g [20,0] (Qg_t rfl (fun hG=>Zdd rfl rfl (Opd.gd hG u_0) c_i))<|a_p [30,0] rfl (Zb5 rfl rfl u_0 (fun hz=>(Opd.gd hz u_1)))<|a_n) (fun a g hst hb=>?_)
 refine Zbt (fun a w=>∃ (g:G),w=g.w ∧ St 20 [(4,(Z3.ptr a1)),(6,(pBox Z3 6 (default:Zj)))] a g ∧ Base g0 g ∧ Zp9=some r) ?_ ?_
 ·rintro a w ⟨g,rfl,hst,hb,H0⟩
  unfold Zp9 at H0
  refine Zo ?_
  refine r_a [10] (L:=[(4,_),(6,_)]) hst hb Za
   (Al Zcw 5 rfl<|a_p [0,15] rfl (Zbg Zcw rfl rfl u_1 u_0)<|a_n) (fun a g hst hb=>?_)
  cases H0
 ·refine wp_cond_split (hst.bool 3 rfl) (fun hc1=>?_) (fun hc1=>?_)
  ·replace H0:=Z1 hc1 H0
   obtain rfl:=Option.some.inj H0
   refine r_gQ (L:=[(2,_),(4,_),(6,_)]) (T:=[⟨[.o 1],_,[],[],[14]⟩,⟨[.p 0 0],_,[],[0],[15]⟩,⟨[.o 0],_,[],[],[16]⟩,⟨[.p 1 0,.p 2 0],_,[],[0,1,2],[17]⟩,⟨[.p 3 0],_,[],Lr 4,[18]⟩,⟨[.p 4 0],[(1001,pNo)],[],Lr 5,[1001]⟩]) (F:=[.p 5 0]) (hst.pick [0,1,2] rfl) hb Za
    (q_p rfl (Zl Zqd rfl rfl u_0)<|q_p rfl (Z2 Zpk rfl rfl u_0)<|q_p rfl (Z6 rfl rfl u_0)<|q_p rfl (Z8f rfl rfl u_0 u_1)<|q_p rfl (Zbdk (by kernel_rfl) rfl rfl u_0)<|q_q (Zbbt rfl rfl u_0 (fun a g v hN hD hb hu hv=>by refine Zs6 ?_;refine Zs6 ?_;exact Zbhj hD hb hv))<|q_n) (by kernel_rfl) (fun a g hst hb=>(hst.at 0 rfl).elim)
  ·replace H0:=Z0 hc1 H0
   refine wp_skip ?_
   exact ⟨g,rfl,(hst.pick [1,2] rfl),hb,H0⟩
theorem Z61 (a0:Zp) (a1:Zu) {r:Zp × Z7} (h:Zni a0 a1=some r):FnOk Tryz.prog 31 [(Z4.pd a0),(Zbb.pd a1)] (pTup [(Z4.pd r.1),(Zcd.pd r.2)]):=by
 have H0:=h
 unfold Zni at H0
 clear h
 refine Zba3 (N:=52) Tryz.func31 rfl rfl (Qe rfl) rfl rfl (fun a g0 h0 hst hb=>?_)
 refine r_a [0,10,20,30] (L:=[(0,_),(1,_)]) hst hb Za
  (a_p [5] rfl (Zbq rfl rfl u_0)<|a_p [15] rfl (Zbq rfl rfl u_0)<|a_p (outs:=[(4,(pBox Z4 4 (default:Zp)))]) (S:=[5]) [] rfl (Zbl (zs:=[.pointer none,.int .i64 0]) (by kernel_rfl) (fun g=>Zd6 g) rfl rfl)<|a_p (outs:=[(5,(Zc5 none Zdn Zd8 (hpL (pRow Z3 118 505 ((default:Z7).Answers))) 5 (default:Z7)))]) (S:=[6]) [] rfl (Zqx (R:=hpL (pRow Z3 118 505 ((default:Z7).Answers))) (zs:=[.int .i64 0,.int .i64 0,.slice none 0 0]) (none,0,0) (by kernel_rfl) Zzu (fun g=>Zmm 505 g) rfl rfl)<|a_n) (fun a g hst hb=>?_)
 refine wp_seq ?_
 obtain ⟨r1,h2,H0⟩:=Zc H0
 refine r_a [5,15,25,35,50,60] (L:=[(2,_),(3,_),(4,_),(5,_)]) hst hb Za
  (Al Zgx 15 rfl<|a_p [0] rfl (Zr Zbej (Zuo _ h2) rfl rfl (.cons u_0 .nil))<|Am 0 rfl<|a_p [0] rfl (Zba rfl rfl u_0 rfl)<|a_p [10] rfl (Zba rfl rfl u_0 rfl)<|Aa 10 rfl<|Aa 10 rfl<|a_n) (fun a g hst hb=>?_)
 refine r_a [5,15,25,35,45,55,10] (L:=[(2,_),(3,_),(4,_),(5,_),(6,_),(7,_)]) hst hb Za
  (Am 45 rfl<|a_p [0] rfl (Zdd rfl rfl u_0 c_i)<|a_n) (fun a g hst hb=>?_)
 refine wp_cond_split (hst.bool 6 rfl) (fun hc3=>?_) (fun hc3=>?_)
 ·replace H0:=Z1 hc3 H0
  refine r_a [5,40,50] (L:=[(2,_),(4,_),(5,_),(6,_),(7,_)]) (hst.pick [0,2,3,4,5] rfl) hb Za
   (Al Zb7 5 rfl<|Am 35 rfl<|Am 45 rfl<|a_p [10,0] rfl (Z1l rfl rfl u_0 u_1)<|a_p [30,15] rfl (Zbg Zb7 rfl rfl u_1 u_0)<|a_p [10,25] rfl (Zrk (kV:=Zdn) (by rfl) Zpe rfl rfl u_1 u_0)<|a_n) (fun a g hst hb=>?_)
  refine wp_ret ?_
  refine Zt ?_
  obtain rfl:=Option.some.inj H0
  obtain ⟨u0,hu0,hq0⟩:=Zbo (P:=Tryz.prog) Zb7 (hst.at 1 rfl)
  obtain ⟨u1,hu1,hq1⟩:=Zbo (P:=Tryz.prog) Zpe (hst.at 2 rfl)
  exact Zbh7 rfl hst hb hu0 hu1 (Zdc hq0 hq1)
 ·replace H0:=Z0 hc3 H0
  refine wp_skip ?_
  refine Zo ?_
  obtain ⟨b4,e4,q4⟩:=Z0f (hst.at 2 rfl)
  obtain ⟨b5,e5,q5⟩:=Z7b (hst.at 3 rfl)
  refine wp_seq ?_
  have q2:=(hst.at 0 rfl)
  obtain ⟨v2,hv2⟩:∃ v2,Act.at a 2=v2:=⟨_,rfl⟩
  refine Zbbi (f:=53) (d1:=23) (x1:=2) (x2:=4) (x3:=5) ?_ ?_ ?_ ?_ ?_ ?_ ?_ hv2 e4 e5 hst.df ?_
  ·rfl
  ·rfl
  ·rfl
  ·rfl
  ·rfl
  ·rfl
  ·rw [hst.size];decide
  replace hst:StD (dfr3 53 v2 b4 b5) 52 [(2,(Z4.ptr a0)),(3,(Zbb.ptr a1)),(4,(Zbi (some b4) Z4 4 (default:Zp))),(5,(Zc5 (some b5) Zdn Zd8 (hpL (pRow Z3 118 505 ((default:Z7).Answers))) 5 (default:Z7))),(1000,(pAt v2 (Z4.ptr a0)))] (dact a 23 (.func (.func 53) #[] #[v2,.pointer (some ⟨b4,0,none⟩),.pointer (some ⟨b5,0,none⟩)]) (dfr3 53 v2 b4 b5)) g:=⟨(Zr8 ..).trans hst.size,rfl,(Zfn (Zp4 (by decide) (hst.at 0 rfl)) (Zfn (Zp4 (by decide) (hst.at 1 rfl)) (Zfn (Zp4 (by decide) q4) (Zfn (Zp4 (by decide) q5) (Zfn (Zbcj q2 hv2) Zq2)))))⟩
  refine Zo ?_
  refine r_a [5,15,25,35,20,45] (L:=[(2,_),(3,_),(4,_),(5,_),(1000,_)]) hst hb Za
   (Al Zb7 5 rfl<|a_p (outs:=[(8,(pBox Z4 8 (default:Zp)))]) (S:=[9]) [] rfl (Zbl (zs:=[.pointer none,.int .i64 0]) (by kernel_rfl) (fun g=>Zd6 g) rfl rfl)<|a_p [10,0] rfl (Zbg Zb7 rfl rfl u_1 u_0)<|a_n) (fun a g hst hb=>?_)
  refine wp_seq ?_
  refine r_a [5,25,35,45,10,20,30,55] (L:=[(2,_),(3,_),(4,_),(5,_),(8,_),(1000,_)]) hst hb Za
   (Af Zid 15 rfl<|Al Znd 0 rfl<|a_p [0] rfl (Zbx Tryz.underlying51 rfl rfl u_0)<|a_p [] rfl (Z6 rfl rfl c_i)<|a_n) (fun a g hst hb=>?_)
  obtain ⟨z19,hz1,H0⟩:=Zc H0
  refine Zbt (fun a w=>∃ (y17:Z7) (y18:Zp) (g:G),w=g.w ∧ StD (dfr3 53 v2 b4 b5) 52 [(2,(Z4.ptr a0)),(4,(Zbi (some b4) Z4 4 (default:Zp))),(5,(Zc5 (some b5) Zdn Zd8 (hpL (pRow Z3 118 505 y17.Answers)) 5 y17)),(8,(pBox Z4 8 y18)),(1000,(pAt v2 (Z4.ptr a0)))] a g ∧ Base g0 g ∧ (.inr (y17,y18))=z19) ?_ ?_
  ·rintro a w ⟨y17,y18,g,rfl,hst,hb,rfl⟩
   refine Zo ?_
   refine r_a [5,20,30,45] (L:=[(2,_),(4,_),(5,_),(8,_),(1000,_)]) hst hb Za
    (AM Zb7 35 rfl<|a_p [25] rfl (Zp6 Zzj Zpe rfl rfl u_0)<|a_p [10,15] rfl (Zbg Zb7 rfl rfl u_1 u_0)<|a_p [10,25] rfl (Zrk (kV:=Zdn) (by rfl) Zpe rfl rfl u_1 u_0)<|a_n) (fun a g hst hb=>?_)
   refine wp_ret ?_
   obtain rfl:=Option.some.inj H0
   exact Zbfq Z0o Zbek rfl Zb7 Zpe hst hb (hst.at 1 rfl) (hst.at 2 rfl)
  ·refine wp_block ?_
   refine wp_loop_ghost (fun n a w=>∃ (x4:Z7) (x5:Zp) (x6:Int) (g:G),w=g.w ∧ StD (dfr3 53 v2 b4 b5) 52 [(2,(Z4.ptr a0)),(4,(Zbi (some b4) Z4 4 (default:Zp))),(5,(Zc5 (some b5) Zdn Zd8 (hpL (pRow Z3 118 505 x4.Answers)) 5 x4)),(8,(pBox Z4 8 x5)),(26,(Zy.sl.pd a1.Acts)),(27,(pInt .i64 (a1.Acts.length:Int))),(28,(pInt .i64 x6)),(1000,(pAt v2 (Z4.ptr a0)))] a g ∧ Base g0 g ∧ Zit a0 a1 n x4 x5 x6=some z19) (Int.toNat ((a1.Acts.length:Int) - (0:Int)) + 1) ⟨(default:Z7),a0,(0:Int),g,rfl,(hst.pick [0,1,2,3,4,5,6,7] rfl),hb,hz1⟩ (fun n a w hI=>?_)
   obtain ⟨x4,x5,x6,g,rfl,hst,hb,H1⟩:=hI
   cases n with
   | zero=>exact absurd H1 (by simp [Zit])
   | succ n =>
    rw [Zit] at H1
    refine r_a [5,15,25,35,45,55,65,0,75] (L:=[(2,_),(4,_),(5,_),(8,_),(26,_),(27,_),(28,_),(1000,_)]) hst hb Za
     (a_p [65,55] rfl (Zcv rfl rfl u_0 u_1)<|a_n) (fun a g hst hb=>?_)
    refine wp_seq ?_
    refine wp_cond_split (hst.bool 7 rfl) (fun hc7=>?_) (fun hc7=>?_)
    ·replace H1:=Z1 hc7 H1
     refine wp_skip ?_
     refine Zo ?_
     refine wp_seq ?_
     refine wp_block ?_
     obtain ⟨e8,h9,H1⟩:=Zc H1
     refine r_a [5,15,25,35,40,50,45,55,65,75] (L:=[(2,_),(4,_),(5,_),(8,_),(26,_),(27,_),(28,_),(1000,_)]) (hst.pick [0,1,2,3,4,5,6,8] rfl) hb Za
      (Am 65 rfl<|a_p [45,65] rfl (Zbw Tryz.underlying51 Zsj rfl rfl u_0 u_1 h9)<|Al Zhh 0 rfl<|a_p (outs:=[(10,(pBox Zy 10 (default:Zs)))]) (S:=[11]) [] rfl (Zbl (zs:=[.int .i64 0,.string ByteArray.empty,.int .i64 0,.float .f64 0,.string ByteArray.empty,.int .i64 0,.int .i64 0,.int .i64 0,.int .i64 0,.float .f64 0,.int .i64 0,.string ByteArray.empty,.slice none 0 0,.bool false]) (by kernel_rfl) (fun g=>Zn3 g) rfl rfl)<|Aa 30 rfl<|a_p [20,10] rfl (Zch Zhh rfl rfl u_1 u_0)<|a_n) (fun a g hst hb=>?_)
     refine r_a [5,15,25,35,45,55,0,65,75,85,95] (L:=[(2,_),(4,_),(5,_),(8,_),(9,_),(10,_),(26,_),(27,_),(28,_),(1000,_)]) hst hb Za
      (a_p (outs:=[(11,(pBox Z3 11 (default:Zj)))]) (S:=[12]) [] rfl (Zbl (zs:=[.int .i64 0,.int .i64 0,.int .i64 0,.int .i64 0,.int .i64 0,.int .i64 0,.float .f64 0,.int .i64 0,.string ByteArray.empty,.slice none 0 0]) (by kernel_rfl) (fun g=>Zh3 g) rfl rfl)<|a_n) (fun a g hst hb=>?_)
     obtain ⟨r10,h11,H1⟩:=Zc H1
     refine r_a [5,15,25,60,45,55,70,75,85,95,105] (L:=[(2,_),(4,_),(5,_),(8,_),(9,_),(10,_),(11,_),(26,_),(27,_),(28,_),(1000,_)]) hst hb Za
      (AM Zb7 35 rfl<|Al Zhh 55 rfl<|a_p [10,0] rfl (Zr Zbi5 (Z6i _ _ h11) rfl rfl (.cons u_0 (.cons u_1 .nil)))<|Am 0 rfl<|a_p [0] rfl (Zba rfl rfl u_0 rfl)<|a_p [10] rfl (Zba rfl rfl u_0 rfl)<|a_p [10,35] rfl (Zbg Zb7 rfl rfl u_1 u_0)<|a_p [10,65] rfl (Zbg Zcw rfl rfl u_1 u_0)<|a_n) (fun a g hst hb=>?_)
     rcases Zbb0 H1 with ⟨p12,h13,H1⟩ | ⟨h13,H1⟩
     ·obtain rfl:=Option.some.inj H1
      obtain rfl:=Option.some.inj H0
      refine r_gQ (L:=[(2,_),(4,_),(5,_),(8,_),(9,_),(10,_),(11,_),(26,_),(27,_),(28,_),(1000,_)]) (T:=[⟨[.o 2],_,[],[],[39]⟩,⟨[.p 0 0],_,[],[0],[40]⟩,⟨[.o 5],_,[],[],[41]⟩,⟨[.o 6],_,[],[],[42]⟩,⟨[.o 4],_,[],[],[43]⟩,⟨[.p 4 0],_,[],[4],[44]⟩,⟨[.p 2 0,.p 3 0,.p 5 0,.o 1,.o 2,.o 10],[(45,pNo)],[],List.range' 2 4,[45]⟩,⟨[.p 6 0],[],[],List.range' 2 5,[46]⟩,⟨[.p 6 0],[],[],Lr 8,[47]⟩,⟨[.p 6 0],[],[],Lr 9,[48]⟩,⟨[.p 6 0],[],[],Lr 10,[]⟩]) (F:=[.p 6 0]) hst hb Za
       (q_p rfl (Zk0 Zxu (off:=2) (q:=(pRow Z3 118 505 x4.Answers)) (by kernel_rfl) (pr:=id) (fun _=>rfl) (fun _ _ h=>h) rfl rfl u_0)<|q_p rfl (Zrq Z3i rfl rfl u_0)<|q_p rfl (Z2 Zhh rfl rfl u_0)<|q_p rfl (Ztk Zcw rfl rfl u_0)<|q_p rfl (Z6 rfl rfl u_0)<|q_p rfl (Zcf rfl rfl u_0 c_i rfl)<|q_q (Z6w Zbep (Z0n _ _ _ h13) rfl rfl (.cons u_0 (.cons u_1 (.cons u_2 .nil))) (fun a g v hN hD hb hu hv=>by refine Z1t ?_;refine Zs6 ?_;refine Zs6 ?_;refine Z1t ?_;refine Zs6 ?_;refine Zs6 ?_;exact Z98 (r:=p12) (s4:=4) (s5:=5) Z0q Zbek rfl Zb7 Zpe h0 hD hb (by decide) (hu _ (List.mem_of_getElem? (i:=5) rfl)) (hu _ (List.mem_of_getElem? (i:=3) rfl)) (hu _ (List.mem_of_getElem? (i:=4) rfl)) hv))<|q_p rfl (Zzb u_0)<|q_p rfl (Zzb u_0)<|q_p rfl (Zzb u_0)<|q_p rfl (Zzb u_0)<|q_n) (by kernel_rfl) (fun a g hst hb=>(hst.at 0 rfl).elim)
     ·obtain ⟨r14,h15,H1⟩:=Zc H1;obtain ⟨h16,H1⟩:=Ze0 H1
      refine r_b [5,15,100,35,75,85,95,105] (L:=[(2,_),(4,_),(5,_),(8,_),(9,_),(10,_),(11,_),(26,_),(27,_),(28,_),(1000,_)]) hst hb Za
       (a_p [25] rfl (Zk0 Zxu (off:=2) (q:=(pRow Z3 118 505 x4.Answers)) (by kernel_rfl) (pr:=id) (fun _=>rfl) (fun _ _ h=>h) rfl rfl u_0)<|a_p [0] rfl (Zrq Z3i rfl rfl u_0)<|Al Zhh 55 rfl<|AM Zcw 65 rfl<|Am 45 rfl<|a_p [0] rfl (Zcf rfl rfl u_0 c_i rfl)<|a_p [30,20,0] rfl (Zr Zbep (Z5i _ _ _ h15) rfl rfl (.cons u_0 (.cons u_1 (.cons u_2 .nil))))<|a_p [0] rfl (Zjd Zbdw (xs:=[.tmp 45]) (.cons u_0 .nil) (by decide) rfl rfl)<|a_p (outs:=[(5,(Zc5 (some b5) Zdn Zd8 hpT 5 x4)),(47,(pRow Z3 118 505 (x4.Answers ++ ([r14]:List Zj))))]) (S:=[506]) [60,0,25] rfl (OB.frameU (Zfc Zbdw rfl rfl u_0 u_1 h16) (Opd.imp u_2 (fun _ _ h=>Zzq h)) (fun k hk hS=>Z3a (List.mem_singleton.1 hk) (List.mem_singleton.1 hS) (by decide)) (fun h=>by cases h))<|a_p [0] rfl (Zk0 Zxu (off:=2) (q:=pAny) (by kernel_rfl) (pr:=id) (fun _=>rfl) (fun _ _ _=>trivial) rfl rfl u_0)<|a_p [11,0,10] rfl (Zsq (x':=({ x4 with Answers:=(x4.Answers ++ ([r14]:List Zj)) }:Z7)) (R2:=hpL (pRow Z3 118 505 (({ x4 with Answers:=(x4.Answers ++ ([r14]:List Zj)) }:Z7).Answers))) (upd:=fun _ s2=>s2) Z3i rfl rfl (fun _ _ h=>Zmv h) (fun k hk=>by rw [List.mem_singleton.1 hk];decide) (fun k hk=>by cases hk) u_2 (fun a g hh=>Zv9 (u_1 a g hh)) u_0 (fun _ _ _ _ h=>h) (fun g cs s0 s1 ys h k=>Zzm h k))<|a_n) (fun a g hst hb=>?_)
      refine Zbn ?_
      refine Zo ?_
      refine r_b [5,15,25,35,45,55,10,75] (L:=[(2,_),(4,_),(5,_),(8,_),(26,_),(27,_),(28,_),(1000,_)]) hst hb Za
       (a_p [65] rfl (Zcf rfl rfl u_0 c_i rfl)<|Am 0 rfl<|a_n) (fun a g hst hb=>?_)
      exact ⟨n,Nat.lt_succ_self _,({ x4 with Answers:=(x4.Answers ++ ([r14]:List Zj)) }:Z7),r10.1,(IntKind.i64.wrap (x6 + (1:Int))),g,rfl,(hst.pick [0,1,2,3,4,5,6,7] rfl),hb,H1⟩
    ·replace H1:=Z0 hc7 H1
     refine wp_exit ?_
     refine Zb0 ?_
     refine Zb0 ?_
     refine Zcj ?_
     exact ⟨x4,x5,g,rfl,(hst.pick [0,1,2,3,8] rfl),hb,Option.some.inj H1⟩
theorem Zxq (a0:Zp) (a1:List Zu) {r:Zp × (List Z7)} (h:Zp7 a0 a1=some r):FnOk Tryz.prog 11 [(Z4.pd a0),(Zbb.sl.pd a1)] (pTup [(Z4.pd r.1),(Zcd.sl.pd r.2)]):=by
 have H0:=h
 unfold Zp7 at H0
 clear h
 refine Zb4 (N:=29) Tryz.func11 rfl rfl (Qe rfl) rfl rfl (fun a g0 hst hb=>?_)
 refine r_a [15,0,10] (L:=[(0,_),(1,_)]) hst hb Za
  (a_p (outs:=[(2,(pBox Z4 2 a0))]) (S:=[3]) [5] rfl (Zrp rfl rfl u_0)<|a_p (outs:=[(4,(pBox Z4 4 (default:Zp)))]) (S:=[5]) [] rfl (Zbl (zs:=[.pointer none,.int .i64 0]) (by kernel_rfl) (fun g=>Zd6 g) rfl rfl)<|a_p (outs:=[(5,(Zcd.sl.pd ([]:List Z7)))]) (S:=[]) [] rfl (Zd rfl rfl (Opd.c (fun g=>Zg7 g)))<|a_n) (fun a g hst hb=>?_)
 refine r_a [5,15,25,0] (L:=[(1,_),(2,_),(4,_)]) hst hb Za
  (a_p (outs:=[(6,(pRow Zcd 81 6 ([]:List Z7)))]) (S:=[]) [] rfl (Zd rfl rfl (Opd.c (fun g=>Zmm 6 g)))<|a_n) (fun a g hst hb=>?_)
 refine wp_seq ?_
 refine r_a [15,25,35,0,10,20] (L:=[(1,_),(2,_),(4,_),(6,_)]) hst hb Za
  (Am 5 rfl<|a_p [0] rfl (Zbx Tryz.underlying23 rfl rfl u_0)<|a_p [] rfl (Z6 rfl rfl c_i)<|a_n) (fun a g hst hb=>?_)
 obtain ⟨z12,hz1,H0⟩:=Zc H0
 refine Zbt (fun a w=>∃ (y10:Zp) (y11:List Z7) (g:G),w=g.w ∧ St 29 [(2,(pBox Z4 2 y10)),(4,(pBox Z4 4 (default:Zp))),(6,(pRow Zcd 81 6 y11))] a g ∧ Base g0 g ∧ (y10,y11)=z12) ?_ ?_
 ·rintro a w ⟨y10,y11,g,rfl,hst,hb,rfl⟩
  refine Zo ?_
  refine r_a [20,30] (L:=[(2,_),(4,_),(6,_)]) hst hb Za
   (AM Zb7 5 rfl<|Am 25 rfl<|a_p [10,15] rfl (Zbg Zb7 rfl rfl u_1 u_0)<|Aa 10 rfl<|a_n) (fun a g hst hb=>?_)
  refine wp_ret ?_
  obtain rfl:=Option.some.inj H0
  obtain ⟨u0,hu0,hq0⟩:=Zbo (P:=Tryz.prog) Zb7 (hst.at 0 rfl)
  exact Zev rfl hst hb hu0 (Zi (s:=5)) (Zdc hq0 (Zne (hst.at 1 rfl)))
 ·refine wp_block ?_
  refine wp_loop_ghost (fun n a w=>∃ (x1:Zp) (x2:List Z7) (x3:Int) (g:G),w=g.w ∧ St 29 [(2,(pBox Z4 2 x1)),(4,(pBox Z4 4 (default:Zp))),(6,(pRow Zcd 81 6 x2)),(10,(Zbb.sl.pd a1)),(11,(pInt .i64 (a1.length:Int))),(12,(pInt .i64 x3))] a g ∧ Base g0 g ∧ Zjv a1 n x1 x2 x3=some z12) (Int.toNat ((a1.length:Int) - (0:Int)) + 1) ⟨a0,([]:List Z7),(0:Int),g,rfl,(hst.pick [0,1,2,3,4,5] rfl),hb,hz1⟩ (fun n a w hI=>?_)
  obtain ⟨x1,x2,x3,g,rfl,hst,hb,H1⟩:=hI
  cases n with
  | zero=>exact absurd H1 (by simp [Zjv])
  | succ n =>
   rw [Zjv] at H1
   refine r_a [5,15,25,35,45,55,0] (L:=[(2,_),(4,_),(6,_),(10,_),(11,_),(12,_)]) hst hb Za
    (a_p [55,45] rfl (Zcv rfl rfl u_0 u_1)<|a_n) (fun a g hst hb=>?_)
   refine wp_seq ?_
   refine wp_cond_split (hst.bool 6 rfl) (fun hc4=>?_) (fun hc4=>?_)
   ·replace H1:=Z1 hc4 H1
    refine wp_skip ?_
    refine Zo ?_
    refine wp_seq ?_
    refine wp_block ?_
    obtain ⟨e5,h6,H1⟩:=Zc H1
    refine r_a [5,15,25,30,35,45,55] (L:=[(2,_),(4,_),(6,_),(10,_),(11,_),(12,_)]) (hst.pick [0,1,2,3,4,5] rfl) hb Za
     (a_p [35,55] rfl (Zbw Tryz.underlying23 Zon rfl rfl u_0 u_1 h6)<|Al Zgx 0 rfl<|a_p (outs:=[(8,(pBox Zbb 8 (default:Zu)))]) (S:=[9]) [] rfl (Zbl (zs:=[.slice none 0 0]) (by kernel_rfl) (fun g=>Zju g) rfl rfl)<|a_p [10,0] rfl (Zch Zgx rfl rfl u_1 u_0)<|a_n) (fun a g hst hb=>?_)
    refine r_a [5,15,25,35,0,45,55,65] (L:=[(2,_),(4,_),(6,_),(8,_),(10,_),(11,_),(12,_)]) hst hb Za
     (a_p (outs:=[(9,(pBox Zcd 9 (default:Z7)))]) (S:=[10]) [] rfl (Zbl (zs:=[.int .i64 0,.int .i64 0,.slice none 0 0]) (by kernel_rfl) (fun g=>Z2m g) rfl rfl)<|a_n) (fun a g hst hb=>?_)
    obtain ⟨r7,h8,H1⟩:=Zc H1
    refine r_a [60,15,25,70,55,65,75] (L:=[(2,_),(4,_),(6,_),(8,_),(9,_),(10,_),(11,_),(12,_)]) hst hb Za
     (AM Zb7 5 rfl<|Al Zgx 35 rfl<|a_p [10,0] rfl (Zr Zbj0 (Z61 _ _ h8) rfl rfl (.cons u_0 (.cons u_1 .nil)))<|Am 0 rfl<|a_p [0] rfl (Zba rfl rfl u_0 rfl)<|a_p [10] rfl (Zba rfl rfl u_0 rfl)<|a_p [10,5] rfl (Zbg Zb7 rfl rfl u_1 u_0)<|a_p [10,45] rfl (Zbg Zpe rfl rfl u_1 u_0)<|a_n) (fun a g hst hb=>?_)
    obtain ⟨h9,H1⟩:=Ze0 H1
    refine r_b [5,15,40,45,55,65] (L:=[(2,_),(4,_),(6,_),(9,_),(10,_),(11,_),(12,_)]) hst hb Za
     (Am 25 rfl<|AM Zpe 35 rfl<|a_p [0] rfl (Zjd Z8r (xs:=[.tmp 23]) (.cons u_0 .nil) (by decide) rfl rfl)<|a_p [20,0] rfl (Zfc Z8r rfl rfl u_0 u_1 h9)<|Aa 0 rfl<|a_n) (fun a g hst hb=>?_)
    refine Zbn ?_
    refine Zo ?_
    refine r_b [5,15,25,35,45,10] (L:=[(2,_),(4,_),(6,_),(10,_),(11,_),(12,_)]) hst hb Za
     (a_p [55] rfl (Zcf rfl rfl u_0 c_i rfl)<|Am 0 rfl<|a_n) (fun a g hst hb=>?_)
    exact ⟨n,Nat.lt_succ_self _,r7.1,(x2 ++ ([r7.2]:List Z7)),(IntKind.i64.wrap (x3 + (1:Int))),g,rfl,(hst.pick [0,1,2,3,4,5] rfl),hb,H1⟩
   ·replace H1:=Z0 hc4 H1
    refine wp_exit ?_
    refine Zb0 ?_
    refine Zb0 ?_
    refine Zcj ?_
    exact ⟨x1,x2,g,rfl,(hst.pick [0,1,2] rfl),hb,Option.some.inj H1⟩
theorem Zra (a0:Zp) (a1:Int) {r:ByteArray × Zb × Bool} (h:Zjz a0 a1=some r):FnOk Tryz.prog 33 [(Z4.pd a0),(pInt .i64 a1)] (pTup [(pStr r.1),(Zf.pd r.2.1),(Zbm r.2.2)]):=by
 have H0:=h
 unfold Zjz at H0
 clear h
 refine Zb4 (N:=48) Tryz.func33 rfl rfl (Qe rfl) rfl rfl (fun a g0 hst hb=>?_)
 refine r_a [15,0,20] (L:=[(0,_),(1,_)]) hst hb Za
  (a_p [5] rfl (Zbq rfl rfl u_0)<|a_p [] rfl (Zd rfl rfl c_s)<|a_p (outs:=[(5,(pBox Zf 5 (default:Zb)))]) (S:=[6]) [] rfl (Zbl (zs:=[.int .i64 0,.int .i64 0,.int .i64 0,.int .i64 0,.float .f64 0,.int .i64 0,.string ByteArray.empty,.slice none 0 0]) (by kernel_rfl) (fun g=>Zc4 g) rfl rfl)<|a_p [] rfl (Zd rfl rfl c_b)<|a_n) (fun a g hst hb=>?_)
 refine wp_seq ?_
 refine r_a [5,25,20] (L:=[(1,_),(2,_),(5,_)]) hst hb Za
  (Af Zsz 15 rfl<|Al Zdj 0 rfl<|Aa 0 rfl<|a_n) (fun a g hst hb=>?_)
 obtain ⟨z16,hz1,H0⟩:=Zc H0
 refine Zbt (fun a w=>∃ (y15:Zb) (g:G),w=g.w ∧ St 48 [(5,(pBox Zf 5 y15))] a g ∧ Base g0 g ∧ (.inr y15)=z16) ?_ ?_
 ·rintro a w ⟨y15,g,rfl,hst,hb,rfl⟩
  refine Zo ?_
  refine r_a [10,20,30] (L:=[(5,_)]) hst hb Za
   (a_p [] rfl (Zvw rfl rfl )<|a_p [] rfl (Zd rfl rfl c_s)<|a_p [10,5] rfl (Zbg Zbr rfl rfl u_1 u_0)<|a_p [] rfl (Zd rfl rfl c_b)<|a_n) (fun a g hst hb=>?_)
  refine wp_ret ?_
  obtain rfl:=Option.some.inj H0
  obtain ⟨u1,hu1,hq1⟩:=Zbo (P:=Tryz.prog) Zbr (hst.at 1 rfl)
  exact Zod rfl hst hb (Zi (s:=4)) hu1 (Zi (s:=6)) (Zkz (hst.at 0 rfl) hq1 (hst.at 2 rfl))
 ·refine wp_block ?_
  refine wp_loop_ghost (fun n a w=>∃ (x1:Int) (x2:Zb) (x3:shelf_nodeT) (g:G),w=g.w ∧ St 48 [(1,(pInt .i64 x1)),(5,(pBox Zf 5 x2)),(7,(Zbe.pd x3))] a g ∧ Base g0 g ∧ Zee n x1 x2 x3=some z16) (a0.top.hh + 1) ⟨a1,(default:Zb),a0.top,g,rfl,(hst.pick [0,1,2] rfl),hb,hz1⟩ (fun n a w hI=>?_)
  obtain ⟨x1,x2,x3,g,rfl,hst,hb,H1⟩:=hI
  cases n with
  | zero=>exact absurd H1 (by simp [Zee])
  | succ n =>
   rw [Zee] at H1
   refine wp_seq ?_
   refine r_a [5,15,25,10] (L:=[(1,_),(5,_),(7,_)]) hst hb Za
    (Am 25 rfl<|a_p [0] rfl (Z5w Tryz.underlying31 rfl rfl u_0 (Zfy _))<|a_n) (fun a g hst hb=>?_)
   refine wp_cond_split (hst.bool 3 rfl) (fun hc4=>?_) (fun hc4=>?_)
   ·replace H1:=Z1 hc4 H1
    refine wp_skip ?_
    refine Zo ?_
    refine Zbt (fun a w=>∃ (j13:Int) (j14:shelf_nodeT) (g:G),w=g.w ∧ St 48 [(1,(pInt .i64 j13)),(5,(pBox Zf 5 x2)),(7,(Zbe.pd j14))] a g ∧ Base g0 g ∧ Zjg x2 (Zee n) j13 j14=some z16) ?_ ?_
    ·rintro a w ⟨j13,j14,g,rfl,hst,hb,H1⟩
     unfold Zjg at H1
     exact ⟨n,Nat.lt_succ_self _,j13,x2,j14,g,rfl,(hst.pick [0,1,2] rfl),hb,H1⟩
    ·refine wp_block ?_
     obtain ⟨n5,h6,H1⟩:=Zc H1;obtain ⟨r7,h8,H1⟩:=Zc H1
     refine r_a [5,15,25,50] (L:=[(1,_),(5,_),(7,_)]) (hst.pick [0,1,2] rfl) hb Za
      (Am 25 rfl<|a_p [0] rfl (Zm rfl rfl (Opd.imp u_0 (fun _ _ h=>Zw h6 h)) (fun _ _ ⟨_,_,_,e,_⟩=>⟨_,e⟩))<|Af Zex 0 rfl<|Al Zdj 0 rfl<|a_p [0] rfl (Zr Zqi (Zdw _ h8) rfl rfl (.cons u_0 .nil))<|Aa 0 rfl<|a_n) (fun a g hst hb=>?_)
     refine wp_block ?_
     refine r_a [5,15,25,35,30] (L:=[(1,_),(5,_),(7,_),(8,_)]) hst hb Za
      (Am 5 rfl<|Am 35 rfl<|a_p [10,0] rfl (Zcv rfl rfl u_0 u_1)<|Aa 0 rfl<|a_n) (fun a g hst hb=>?_)
     refine wp_cond_split (hst.bool 4 rfl) (fun hc9=>?_) (fun hc9=>?_)
     ·replace H1:=Z1 hc9 H1
      refine r_b [5,15,40] (L:=[(1,_),(5,_),(7,_)]) (hst.pick [0,1,2] rfl) hb Za
       (Am 25 rfl<|a_p [0] rfl (Zm rfl rfl (Opd.imp u_0 (fun _ _ h=>Zw h6 h)) (fun _ _ ⟨_,_,_,e,_⟩=>⟨_,e⟩))<|Af Zex 0 rfl<|Al Zdj 0 rfl<|Aa 0 rfl<|a_n) (fun a g hst hb=>?_)
      refine Zbn ?_
      refine Zbn ?_
      exact ⟨x1,n5.left,g,rfl,(hst.pick [0,1,2] rfl),hb,H1⟩
     ·replace H1:=Z0 hc9 H1
      refine r_a [5,15,25,35,30] (L:=[(1,_),(5,_),(7,_),(8,_)]) (hst.pick [0,1,2,3] rfl) hb Za
       (Am 5 rfl<|Am 35 rfl<|a_p [10,0] rfl (Zcu rfl rfl u_0 u_1)<|Aa 0 rfl<|a_n) (fun a g hst hb=>?_)
      refine wp_cond_split (hst.bool 4 rfl) (fun hc10=>?_) (fun hc10=>?_)
      ·replace H1:=Z1 hc10 H1
       refine r_a [40,15,25] (L:=[(1,_),(5,_),(7,_),(8,_)]) (hst.pick [0,1,2,3] rfl) hb Za
        (Am 5 rfl<|Am 35 rfl<|a_p [0] rfl (Zcf rfl rfl u_0 c_i rfl)<|a_p [20,0] rfl (Zkb rfl rfl u_0 u_1 rfl)<|Aa 0 rfl<|a_n) (fun a g hst hb=>?_)
       refine r_b [5,15,40] (L:=[(1,_),(5,_),(7,_)]) hst hb Za
        (Am 25 rfl<|a_p [0] rfl (Zm rfl rfl (Opd.imp u_0 (fun _ _ h=>Zw h6 h)) (fun _ _ ⟨_,_,_,e,_⟩=>⟨_,e⟩))<|Af Zfo 0 rfl<|Al Zdj 0 rfl<|Aa 0 rfl<|a_n) (fun a g hst hb=>?_)
       refine Zbn ?_
       refine Zbn ?_
       exact ⟨(IntKind.i64.wrap (x1 - (IntKind.i64.wrap (r7 + (1:Int))))),n5.right,g,rfl,(hst.pick [0,1,2] rfl),hb,H1⟩
      ·replace H1:=Z0 hc10 H1
       obtain ⟨r11,h12,H1⟩:=Zc H1
       refine r_a [90,100,110] (L:=[(5,_),(7,_)]) (hst.pick [1,2] rfl) hb Za
        (Am 15 rfl<|a_p [0] rfl (Zm rfl rfl (Opd.imp u_0 (fun _ _ h=>Zw h6 h)) (fun _ _ ⟨_,_,_,e,_⟩=>⟨_,e⟩))<|Af Zfh 0 rfl<|Al ty_9 0 rfl<|Am 15 rfl<|a_p [0] rfl (Zm rfl rfl (Opd.imp u_0 (fun _ _ h=>Zw h6 h)) (fun _ _ ⟨_,_,_,e,_⟩=>⟨_,e⟩))<|Af Zim 0 rfl<|Al Zbr 0 rfl<|a_p [0] rfl (Zr Zrd (Zhv _ h12) rfl rfl (.cons u_0 .nil))<|Aa 50 rfl<|a_p [10,5] rfl (Zbg Zbr rfl rfl u_1 u_0)<|a_p [] rfl (Zd rfl rfl c_b)<|a_n) (fun a g hst hb=>?_)
       refine wp_ret ?_
       refine Z5 ?_
       refine Z5 ?_
       refine Zt ?_
       refine Zt ?_
       refine Z5 ?_
       refine Zt ?_
       refine Zt ?_
       obtain rfl:=Option.some.inj H1
       obtain rfl:=Option.some.inj H0
       obtain ⟨u1,hu1,hq1⟩:=Zbo (P:=Tryz.prog) Zbr (hst.at 1 rfl)
       exact Zod rfl hst hb (Zi (s:=4)) hu1 (Zi (s:=6)) (Zkz (hst.at 0 rfl) hq1 (hst.at 2 rfl))
   ·replace H1:=Z0 hc4 H1
    refine wp_exit ?_
    refine Zb0 ?_
    refine Zb0 ?_
    refine Zcj ?_
    exact ⟨x2,g,rfl,(hst.pick [1] rfl),hb,Option.some.inj H1⟩
theorem Z2o (a0:Zp) (a1:Zp) {r:Bool} (h:Znt a0 a1=some r):FnOk Tryz.prog 12 [(Z4.pd a0),(Z4.pd a1)] (Zbm r):=by
 have H0:=h
 unfold Znt at H0
 clear h
 refine Zb4 (N:=46) Tryz.func12 rfl rfl (Qe rfl) rfl rfl (fun a g0 hst hb=>?_)
 refine r_a [0,10] (L:=[(0,_),(1,_)]) hst hb Za
  (a_p [5] rfl (Zbq rfl rfl u_0)<|a_p [15] rfl (Zbq rfl rfl u_0)<|a_p [] rfl (Zd rfl rfl c_b)<|a_n) (fun a g hst hb=>?_)
 refine wp_seq ?_
 obtain ⟨r1,h2,H0⟩:=Zc H0;obtain ⟨r3,h4,H0⟩:=Zc H0
 refine r_a [5,15,40] (L:=[(2,_),(3,_)]) hst hb Za
  (Al Zb7 5 rfl<|a_p [0] rfl (Zr Z3f (Zk5 _ h2) rfl rfl (.cons u_0 .nil))<|Al Zb7 15 rfl<|a_p [0] rfl (Zr Z3f (Zk5 _ h4) rfl rfl (.cons u_0 .nil))<|a_p [20,0] rfl (Zdd rfl rfl u_0 u_1)<|a_n) (fun a g hst hb=>?_)
 refine wp_cond_split (hst.bool 2 rfl) (fun hc5=>?_) (fun hc5=>?_)
 ·replace H0:=Z1 hc5 H0
  refine r_a [0] (L:=[]) (hst.pick [] rfl) hb Za
   (a_p [] rfl (Zd rfl rfl c_b)<|a_n) (fun a g hst hb=>?_)
  refine wp_ret ?_
  refine Zt ?_
  obtain rfl:=Option.some.inj H0
  exact Z8 rfl hst hb (Zi (s:=4)) (hst.at 0 rfl)
 ·replace H0:=Z0 hc5 H0
  refine wp_skip ?_
  refine Zo ?_
  refine wp_seq ?_
  obtain ⟨r6,h7,H0⟩:=Zc H0
  refine r_a [5,15,10,20] (L:=[(2,_),(3,_)]) (hst.pick [0,1] rfl) hb Za
   (Al Zb7 5 rfl<|a_p [0] rfl (Zr Z3f (Zk5 _ h7) rfl rfl (.cons u_0 .nil))<|a_p [] rfl (Z6 rfl rfl c_i)<|a_n) (fun a g hst hb=>?_)
  obtain ⟨z17,hz1,H0⟩:=Zc H0
  refine Zbt (fun a w=>∃ (g:G),w=g.w ∧ St 46 [] a g ∧ Base g0 g ∧ (.inr ())=z17) ?_ ?_
  ·rintro a w ⟨g,rfl,hst,hb,rfl⟩
   refine Zo ?_
   refine r_a [0] (L:=[]) hst hb Za
    (a_p [] rfl (Zd rfl rfl c_b)<|a_n) (fun a g hst hb=>?_)
   refine wp_ret ?_
   obtain rfl:=Option.some.inj H0
   exact Z8 rfl hst hb (Zi (s:=4)) (hst.at 0 rfl)
  ·refine wp_block ?_
   refine wp_loop_ghost (fun n a w=>∃ (x8:Int) (g:G),w=g.w ∧ St 46 [(2,(Z4.ptr a0)),(3,(Z4.ptr a1)),(18,(pInt .i64 r6)),(19,(pInt .i64 x8))] a g ∧ Base g0 g ∧ Zh2 a0 a1 r6 n x8=some z17) (Int.toNat (r6 - (0:Int)) + 1) ⟨(0:Int),g,rfl,(hst.pick [0,1,2,3] rfl),hb,hz1⟩ (fun n a w hI=>?_)
   obtain ⟨x8,g,rfl,hst,hb,H1⟩:=hI
   cases n with
   | zero=>exact absurd H1 (by simp [Zh2])
   | succ n =>
    rw [Zh2] at H1
    refine r_a [5,15,25,35,0] (L:=[(2,_),(3,_),(18,_),(19,_)]) hst hb Za
     (a_p [35,25] rfl (Zcv rfl rfl u_0 u_1)<|a_n) (fun a g hst hb=>?_)
    refine wp_seq ?_
    refine wp_cond_split (hst.bool 4 rfl) (fun hc9=>?_) (fun hc9=>?_)
    ·replace H1:=Z1 hc9 H1
     refine wp_skip ?_
     refine Zo ?_
     refine wp_seq ?_
     refine wp_block ?_
     refine r_a [5,15,10,25,35] (L:=[(2,_),(3,_),(18,_),(19,_)]) (hst.pick [0,1,2,3] rfl) hb Za
      (Am 35 rfl<|Aa 0 rfl<|a_n) (fun a g hst hb=>?_)
     obtain ⟨r10,h11,H1⟩:=Zc H1
     refine r_a [5,15,25,80,90,35,45] (L:=[(2,_),(3,_),(5,_),(18,_),(19,_)]) hst hb Za
      (Al Zb7 5 rfl<|Am 25 rfl<|a_p [10,0] rfl (Zr Zbed (Zra _ _ h11) rfl rfl (.cons u_0 (.cons u_1 .nil)))<|Am 0 rfl<|a_p [0] rfl (Zba rfl rfl u_0 rfl)<|a_p [10] rfl (Zba rfl rfl u_0 rfl)<|a_p [20] rfl (Zba rfl rfl u_0 rfl)<|a_p (outs:=[(7,(pBox Zf 7 (default:Zb)))]) (S:=[8]) [] rfl (Zbl (zs:=[.int .i64 0,.int .i64 0,.int .i64 0,.int .i64 0,.float .f64 0,.int .i64 0,.string ByteArray.empty,.slice none 0 0]) (by kernel_rfl) (fun g=>Zc4 g) rfl rfl)<|Aa 30 rfl<|a_p [30,10] rfl (Zch Zbr rfl rfl u_1 u_0)<|Aa 30 rfl<|a_n) (fun a g hst hb=>?_)
     obtain ⟨r12,h13,H1⟩:=Zc H1
     refine r_a [5,15,35,45,80,90,55,65] (L:=[(2,_),(3,_),(5,_),(6,_),(7,_),(18,_),(19,_)]) hst hb Za
      (Al Zb7 15 rfl<|Am 25 rfl<|a_p [10,0] rfl (Zr Zbed (Zra _ _ h13) rfl rfl (.cons u_0 (.cons u_1 .nil)))<|Am 0 rfl<|a_p [0] rfl (Zba rfl rfl u_0 rfl)<|a_p [10] rfl (Zba rfl rfl u_0 rfl)<|a_p [20] rfl (Zba rfl rfl u_0 rfl)<|a_p (outs:=[(10,(pBox Zf 10 (default:Zb)))]) (S:=[11]) [] rfl (Zbl (zs:=[.int .i64 0,.int .i64 0,.int .i64 0,.int .i64 0,.float .f64 0,.int .i64 0,.string ByteArray.empty,.slice none 0 0]) (by kernel_rfl) (fun g=>Zc4 g) rfl rfl)<|Aa 30 rfl<|a_p [30,10] rfl (Zch Zbr rfl rfl u_1 u_0)<|Aa 30 rfl<|a_n) (fun a g hst hb=>?_)
     obtain ⟨r14,h15,H1⟩:=Zc H1
     refine r_a [5,15,65,75,80] (L:=[(2,_),(3,_),(6,_),(7,_),(9,_),(10,_),(18,_),(19,_)]) hst hb Za
      (Am 25 rfl<|Am 45 rfl<|a_p [10,0] rfl (Zs2 rfl rfl u_0 u_1)<|Am 0 rfl<|a_g [0,35] (Qg_f rfl (fun hG=>Z2 Zbr rfl rfl u_0))<|a_g [10,55] (Qg_f rfl (fun hG=>Z2 Zbr rfl rfl u_0))<|a_g [20,10,0] (Qg_f rfl (fun hG=>Zr Zbdy (Zxg _ _ (Zcb h15 hG)) rfl rfl (.cons (Opd.gd hG u_0) (.cons (Opd.gd hG u_1) .nil))))<|a_g [30,0] (Qg_f rfl (fun hG=>Zc2 rfl rfl (Opd.gd hG u_0)))<|a_p [40,0] rfl (Zb2 rfl rfl u_0 (fun hz=>(Opd.gd (bNF hz) u_1)))<|a_n) (fun a g hst hb=>?_)
     refine wp_cond_split (hst.bool 4 rfl) (fun hc16=>?_) (fun hc16=>?_)
     ·replace H1:=Z1 hc16 H1
      refine r_a [0] (L:=[]) (hst.pick [] rfl) hb Za
       (a_p [] rfl (Zd rfl rfl c_b)<|a_n) (fun a g hst hb=>?_)
      refine wp_ret ?_
      refine Z5 ?_
      refine Zt ?_
      refine Zt ?_
      refine Z5 ?_
      refine Zt ?_
      refine Zt ?_
      obtain rfl:=Option.some.inj H1
      obtain rfl:=Option.some.inj H0
      exact Z8 rfl hst hb (Zi (s:=4)) (hst.at 0 rfl)
     ·replace H1:=Z0 hc16 H1
      refine wp_skip ?_
      refine Zbn ?_
      refine Zo ?_
      refine r_b [5,15,25,10] (L:=[(2,_),(3,_),(18,_),(19,_)]) (hst.pick [0,1,2,3] rfl) hb Za
       (a_p [35] rfl (Zcf rfl rfl u_0 c_i rfl)<|Am 0 rfl<|a_n) (fun a g hst hb=>?_)
      exact ⟨n,Nat.lt_succ_self _,(IntKind.i64.wrap (x8 + (1:Int))),g,rfl,(hst.pick [0,1,2,3] rfl),hb,H1⟩
    ·replace H1:=Z0 hc9 H1
     refine wp_exit ?_
     refine Zb0 ?_
     refine Zb0 ?_
     refine Zcj ?_
     exact ⟨g,rfl,(hst.pick [] rfl),hb,Option.some.inj H1⟩
theorem Zuu (a0:Zj) (a1:Zj) {r:Bool} (h:Zka a0 a1=some r):FnOk Tryz.prog 60 [(Z3.pd a0),(Z3.pd a1)] (Zbm r):=by
 have H0:=h
 unfold Zka at H0
 clear h
 refine Zb4 (N:=24) Tryz.func60 rfl rfl (Qe rfl) rfl rfl (fun a g0 hst hb=>?_)
 refine r_a [0,10] (L:=[(0,_),(1,_)]) hst hb Za
  (a_p [5] rfl (Zbq rfl rfl u_0)<|a_p [15] rfl (Zbq rfl rfl u_0)<|a_p [] rfl (Zd rfl rfl c_b)<|a_n) (fun a g hst hb=>?_)
 obtain ⟨r1,h2,H0⟩:=Zc H0
 refine r_a [190] (L:=[(2,_),(3,_)]) hst hb Za
  (Af Zqd 5 rfl<|Al Zpk 0 rfl<|Af Zqd 15 rfl<|Al Zpk 0 rfl<|a_p [20,0] rfl (Zci rfl rfl u_0 u_1)<|Am 0 rfl<|a_g [0,5] (Qg_t rfl (fun hG=>Zl Z3x rfl rfl u_0))<|a_g [10,0] (Qg_t rfl (fun hG=>Z2 ty_2 rfl rfl (Opd.gd hG u_0)))<|a_g [20,15] (Qg_t rfl (fun hG=>Zl Z3x rfl rfl u_0))<|a_g [30,0] (Qg_t rfl (fun hG=>Z2 ty_2 rfl rfl (Opd.gd hG u_0)))<|a_g [40,20,0] (Qg_t rfl (fun hG=>Zci rfl rfl (Opd.gd hG u_0) (Opd.gd hG u_1)))<|a_p [50,0] rfl (Zb5 rfl rfl u_0 (fun hz=>(Opd.gd hz u_1)))<|Am 0 rfl<|a_g [0,5] (Qg_t rfl (fun hG=>Zl Zyg rfl rfl u_0))<|a_g [10,0] (Qg_t rfl (fun hG=>Z2 Zbr rfl rfl (Opd.gd hG u_0)))<|a_g [20,15] (Qg_t rfl (fun hG=>Zl Zyg rfl rfl u_0))<|a_g [30,0] (Qg_t rfl (fun hG=>Z2 Zbr rfl rfl (Opd.gd hG u_0)))<|a_g [40,20,0] (Qg_t rfl (fun hG=>Zr Zbel (Zpz _ _ (Zcb h2 hG)) rfl rfl (.cons (Opd.gd hG u_0) (.cons (Opd.gd hG u_1) .nil))))<|a_p [50,0] rfl (Zb5 rfl rfl u_0 (fun hz=>(Opd.gd hz u_1)))<|Aa 0 rfl<|a_n) (fun a g hst hb=>?_)
 refine wp_ret ?_
 obtain rfl:=Option.some.inj H0
 exact Z8 rfl hst hb (Zi (s:=4)) (hst.at 0 rfl)
theorem Ztj (a0:Z7) (a1:Z7) {r:Bool} (h:Zjh a0 a1=some r):FnOk Tryz.prog 35 [(Zcd.pd a0),(Zcd.pd a1)] (Zbm r):=by
 have H0:=h
 unfold Zjh at H0
 clear h
 refine Zb4 (N:=46) Tryz.func35 rfl rfl (Qe rfl) rfl rfl (fun a g0 hst hb=>?_)
 refine r_a [0,10] (L:=[(0,_),(1,_)]) hst hb Za
  (a_p [5] rfl (Zbq rfl rfl u_0)<|a_p [15] rfl (Zbq rfl rfl u_0)<|a_p [] rfl (Zd rfl rfl c_b)<|a_n) (fun a g hst hb=>?_)
 refine wp_seq ?_
 refine r_a [5,15,200] (L:=[(2,_),(3,_)]) hst hb Za
  (Af Z7i 5 rfl<|Al Zpk 0 rfl<|Af Z7i 15 rfl<|Al Zpk 0 rfl<|a_p [20,0] rfl (Zdd rfl rfl u_0 u_1)<|Am 0 rfl<|a_g [0,5] (Qg_f rfl (fun hG=>Zl Z7h rfl rfl u_0))<|a_g [10,0] (Qg_f rfl (fun hG=>Z2 ty_3 rfl rfl (Opd.gd hG u_0)))<|a_g [20,15] (Qg_f rfl (fun hG=>Zl Z7h rfl rfl u_0))<|a_g [30,0] (Qg_f rfl (fun hG=>Z2 ty_3 rfl rfl (Opd.gd hG u_0)))<|a_g [40,20,0] (Qg_f rfl (fun hG=>Zdd rfl rfl (Opd.gd hG u_0) (Opd.gd hG u_1)))<|a_p [50,0] rfl (Zb2 rfl rfl u_0 (fun hz=>(Opd.gd (bNF hz) u_1)))<|Am 0 rfl<|a_g [0,5] (Qg_f rfl (fun hG=>Zl Zs4 rfl rfl u_0))<|a_g [10,0] (Qg_f rfl (fun hG=>Z2 Zzi rfl rfl (Opd.gd hG u_0)))<|a_g [20,0] (Qg_f rfl (fun hG=>Zbx Tryz.underlying79 rfl rfl (Opd.gd hG u_0)))<|a_g [30,15] (Qg_f rfl (fun hG=>Zl Zs4 rfl rfl u_0))<|a_g [40,0] (Qg_f rfl (fun hG=>Z2 Zzi rfl rfl (Opd.gd hG u_0)))<|a_g [50,0] (Qg_f rfl (fun hG=>Zbx Tryz.underlying79 rfl rfl (Opd.gd hG u_0)))<|a_g [60,30,0] (Qg_f rfl (fun hG=>Zdd rfl rfl (Opd.gd hG u_0) (Opd.gd hG u_1)))<|a_p [70,0] rfl (Zb2 rfl rfl u_0 (fun hz=>(Opd.gd (bNF hz) u_1)))<|a_n) (fun a g hst hb=>?_)
 refine wp_cond_split (hst.bool 2 rfl) (fun hc1=>?_) (fun hc1=>?_)
 ·replace H0:=Z1 hc1 H0
  refine r_a [0] (L:=[]) (hst.pick [] rfl) hb Za
   (a_p [] rfl (Zd rfl rfl c_b)<|a_n) (fun a g hst hb=>?_)
  refine wp_ret ?_
  refine Zt ?_
  obtain rfl:=Option.some.inj H0
  exact Z8 rfl hst hb (Zi (s:=4)) (hst.at 0 rfl)
 ·replace H0:=Z0 hc1 H0
  refine wp_skip ?_
  refine Zo ?_
  refine wp_seq ?_
  refine r_a [5,15,0] (L:=[(2,_),(3,_)]) (hst.pick [0,1] rfl) hb Za
   (a_p [] rfl (Zd rfl rfl c_i)<|a_n) (fun a g hst hb=>?_)
  obtain ⟨z11,hz1,H0⟩:=Zc H0
  refine Zbt (fun a w=>∃ (g:G),w=g.w ∧ St 46 [] a g ∧ Base g0 g ∧ (.inr ())=z11) ?_ ?_
  ·rintro a w ⟨g,rfl,hst,hb,rfl⟩
   refine Zo ?_
   refine r_a [0] (L:=[]) hst hb Za
    (a_p [] rfl (Zd rfl rfl c_b)<|a_n) (fun a g hst hb=>?_)
   refine wp_ret ?_
   obtain rfl:=Option.some.inj H0
   exact Z8 rfl hst hb (Zi (s:=4)) (hst.at 0 rfl)
  ·refine wp_block ?_
   refine wp_loop_ghost (fun n a w=>∃ (x2:Int) (g:G),w=g.w ∧ St 46 [(2,(Zcd.ptr a0)),(3,(Zcd.ptr a1)),(5,(pInt .i64 x2))] a g ∧ Base g0 g ∧ Zeq a0 a1 n x2=some z11) (Int.toNat ((a0.Answers.length:Int) - (0:Int)) + 1) ⟨(0:Int),g,rfl,(hst.pick [0,1,2] rfl),hb,hz1⟩ (fun n a w hI=>?_)
   obtain ⟨x2,g,rfl,hst,hb,H1⟩:=hI
   cases n with
   | zero=>exact absurd H1 (by simp [Zeq])
   | succ n =>
    rw [Zeq] at H1
    refine wp_seq ?_
    refine r_a [5,15,25,40] (L:=[(2,_),(3,_),(5,_)]) hst hb Za
     (Am 25 rfl<|Af Zs4 5 rfl<|Al Zzi 0 rfl<|a_p [0] rfl (Zbx Tryz.underlying79 rfl rfl u_0)<|a_p [30,0] rfl (Zcv rfl rfl u_0 u_1)<|a_n) (fun a g hst hb=>?_)
    refine wp_cond_split (hst.bool 3 rfl) (fun hc3=>?_) (fun hc3=>?_)
    ·replace H1:=Z1 hc3 H1
     refine wp_skip ?_
     refine Zo ?_
     refine wp_seq ?_
     refine wp_block ?_
     obtain ⟨e4,h5,H1⟩:=Zc H1;obtain ⟨e6,h7,H1⟩:=Zc H1;obtain ⟨r8,h9,H1⟩:=Zc H1
     refine r_a [5,15,25,110] (L:=[(2,_),(3,_),(5,_)]) (hst.pick [0,1,2] rfl) hb Za
      (Af Zs4 5 rfl<|Al Zzi 0 rfl<|Am 25 rfl<|a_p [10,0] rfl (Zbw Tryz.underlying79 Zbba rfl rfl u_0 u_1 h5)<|Al Zcw 0 rfl<|Af Zs4 15 rfl<|Al Zzi 0 rfl<|Am 25 rfl<|a_p [10,0] rfl (Zbw Tryz.underlying79 Zbba rfl rfl u_0 u_1 h7)<|Al Zcw 0 rfl<|a_p [50,0] rfl (Zr Zbkh (Zuu _ _ h9) rfl rfl (.cons u_0 (.cons u_1 .nil)))<|a_p [0] rfl (Zc2 rfl rfl u_0)<|a_n) (fun a g hst hb=>?_)
     refine wp_cond_split (hst.bool 3 rfl) (fun hc10=>?_) (fun hc10=>?_)
     ·replace H1:=Z1 hc10 H1
      refine r_a [0] (L:=[]) (hst.pick [] rfl) hb Za
       (a_p [] rfl (Zd rfl rfl c_b)<|a_n) (fun a g hst hb=>?_)
      refine wp_ret ?_
      refine Z5 ?_
      refine Zt ?_
      refine Zt ?_
      refine Z5 ?_
      refine Zt ?_
      refine Zt ?_
      obtain rfl:=Option.some.inj H1
      obtain rfl:=Option.some.inj H0
      exact Z8 rfl hst hb (Zi (s:=4)) (hst.at 0 rfl)
     ·replace H1:=Z0 hc10 H1
      refine wp_skip ?_
      refine Zbn ?_
      refine Zo ?_
      refine r_b [5,15,20] (L:=[(2,_),(3,_),(5,_)]) (hst.pick [0,1,2] rfl) hb Za
       (Am 25 rfl<|a_p [0] rfl (Zcf rfl rfl u_0 c_i rfl)<|Aa 0 rfl<|a_n) (fun a g hst hb=>?_)
      exact ⟨n,Nat.lt_succ_self _,(IntKind.i64.wrap (x2 + (1:Int))),g,rfl,(hst.pick [0,1,2] rfl),hb,H1⟩
    ·replace H1:=Z0 hc3 H1
     refine wp_exit ?_
     refine Zb0 ?_
     refine Zb0 ?_
     refine Zcj ?_
     exact ⟨g,rfl,(hst.pick [] rfl),hb,Option.some.inj H1⟩
theorem Ztp (a0:List Z7) (a1:List Z7) {r:Bool} (h:Zjb a0 a1=some r):FnOk Tryz.prog 13 [(Zcd.sl.pd a0),(Zcd.sl.pd a1)] (Zbm r):=by
 have H0:=h
 unfold Zjb at H0
 clear h
 refine Zb4 (N:=27) Tryz.func13 rfl rfl (Qe rfl) rfl rfl (fun a g0 hst hb=>?_)
 refine r_a [5,15] (L:=[(0,_),(1,_)]) hst hb Za
  (a_p [] rfl (Zd rfl rfl c_b)<|a_n) (fun a g hst hb=>?_)
 refine wp_seq ?_
 refine r_a [5,15,40] (L:=[(0,_),(1,_)]) hst hb Za
  (Am 5 rfl<|a_p [0] rfl (Zbx Tryz.underlying38 rfl rfl u_0)<|Am 15 rfl<|a_p [0] rfl (Zbx Tryz.underlying38 rfl rfl u_0)<|a_p [20,0] rfl (Zdd rfl rfl u_0 u_1)<|a_n) (fun a g hst hb=>?_)
 refine wp_cond_split (hst.bool 2 rfl) (fun hc1=>?_) (fun hc1=>?_)
 ·replace H0:=Z1 hc1 H0
  refine r_a [0] (L:=[]) (hst.pick [] rfl) hb Za
   (a_p [] rfl (Zd rfl rfl c_b)<|a_n) (fun a g hst hb=>?_)
  refine wp_ret ?_
  refine Zt ?_
  obtain rfl:=Option.some.inj H0
  exact Z8 rfl hst hb (Zi (s:=4)) (hst.at 0 rfl)
 ·replace H0:=Z0 hc1 H0
  refine wp_skip ?_
  refine Zo ?_
  refine wp_seq ?_
  refine r_a [5,15,0] (L:=[(0,_),(1,_)]) (hst.pick [0,1] rfl) hb Za
   (a_p [] rfl (Zd rfl rfl c_i)<|a_n) (fun a g hst hb=>?_)
  obtain ⟨z11,hz1,H0⟩:=Zc H0
  refine Zbt (fun a w=>∃ (g:G),w=g.w ∧ St 27 [] a g ∧ Base g0 g ∧ (.inr ())=z11) ?_ ?_
  ·rintro a w ⟨g,rfl,hst,hb,rfl⟩
   refine Zo ?_
   refine r_a [0] (L:=[]) hst hb Za
    (a_p [] rfl (Zd rfl rfl c_b)<|a_n) (fun a g hst hb=>?_)
   refine wp_ret ?_
   obtain rfl:=Option.some.inj H0
   exact Z8 rfl hst hb (Zi (s:=4)) (hst.at 0 rfl)
  ·refine wp_block ?_
   refine wp_loop_ghost (fun n a w=>∃ (x2:Int) (g:G),w=g.w ∧ St 27 [(0,(Zcd.sl.pd a0)),(1,(Zcd.sl.pd a1)),(5,(pInt .i64 x2))] a g ∧ Base g0 g ∧ Zep a0 a1 n x2=some z11) (Int.toNat ((a0.length:Int) - (0:Int)) + 1) ⟨(0:Int),g,rfl,(hst.pick [0,1,2] rfl),hb,hz1⟩ (fun n a w hI=>?_)
   obtain ⟨x2,g,rfl,hst,hb,H1⟩:=hI
   cases n with
   | zero=>exact absurd H1 (by simp [Zep])
   | succ n =>
    rw [Zep] at H1
    refine wp_seq ?_
    refine r_a [5,15,25,30] (L:=[(0,_),(1,_),(5,_)]) hst hb Za
     (Am 25 rfl<|Am 5 rfl<|a_p [0] rfl (Zbx Tryz.underlying38 rfl rfl u_0)<|a_p [20,0] rfl (Zcv rfl rfl u_0 u_1)<|a_n) (fun a g hst hb=>?_)
    refine wp_cond_split (hst.bool 3 rfl) (fun hc3=>?_) (fun hc3=>?_)
    ·replace H1:=Z1 hc3 H1
     refine wp_skip ?_
     refine Zo ?_
     refine wp_seq ?_
     refine wp_block ?_
     obtain ⟨e4,h5,H1⟩:=Zc H1;obtain ⟨e6,h7,H1⟩:=Zc H1;obtain ⟨r8,h9,H1⟩:=Zc H1
     refine r_a [5,15,25,90] (L:=[(0,_),(1,_),(5,_)]) (hst.pick [0,1,2] rfl) hb Za
      (Am 5 rfl<|Am 25 rfl<|a_p [10,0] rfl (Zbw Tryz.underlying38 Zbd0 rfl rfl u_0 u_1 h5)<|Al Zpe 0 rfl<|Am 15 rfl<|Am 25 rfl<|a_p [10,0] rfl (Zbw Tryz.underlying38 Zbd0 rfl rfl u_0 u_1 h7)<|Al Zpe 0 rfl<|a_p [40,0] rfl (Zr Zbjo (Ztj _ _ h9) rfl rfl (.cons u_0 (.cons u_1 .nil)))<|a_p [0] rfl (Zc2 rfl rfl u_0)<|a_n) (fun a g hst hb=>?_)
     refine wp_cond_split (hst.bool 3 rfl) (fun hc10=>?_) (fun hc10=>?_)
     ·replace H1:=Z1 hc10 H1
      refine r_a [0] (L:=[]) (hst.pick [] rfl) hb Za
       (a_p [] rfl (Zd rfl rfl c_b)<|a_n) (fun a g hst hb=>?_)
      refine wp_ret ?_
      refine Z5 ?_
      refine Zt ?_
      refine Zt ?_
      refine Z5 ?_
      refine Zt ?_
      refine Zt ?_
      obtain rfl:=Option.some.inj H1
      obtain rfl:=Option.some.inj H0
      exact Z8 rfl hst hb (Zi (s:=4)) (hst.at 0 rfl)
     ·replace H1:=Z0 hc10 H1
      refine wp_skip ?_
      refine Zbn ?_
      refine Zo ?_
      refine r_b [5,15,20] (L:=[(0,_),(1,_),(5,_)]) (hst.pick [0,1,2] rfl) hb Za
       (Am 25 rfl<|a_p [0] rfl (Zcf rfl rfl u_0 c_i rfl)<|Aa 0 rfl<|a_n) (fun a g hst hb=>?_)
      exact ⟨n,Nat.lt_succ_self _,(IntKind.i64.wrap (x2 + (1:Int))),g,rfl,(hst.pick [0,1,2] rfl),hb,H1⟩
    ·replace H1:=Z0 hc3 H1
     refine wp_exit ?_
     refine Zb0 ?_
     refine Zb0 ?_
     refine Zcj ?_
     exact ⟨g,rfl,(hst.pick [] rfl),hb,Option.some.inj H1⟩
theorem Zsu (a0:Int) (a1:List Zbj) (a2:List Zu) {r:Bool} (h:Zkl a0 a1 a2=some r):FnOk Tryz.prog 3 [(pInt .i64 a0),(Zck.sl.pd a1),(Zbb.sl.pd a2)] (Zbm r):=by
 have H0:=h
 unfold Zkl at H0
 clear h
 refine Zb4 (N:=142) Tryz.func3 rfl rfl (Qe rfl) rfl rfl (fun a g0 hst hb=>?_)
 refine r_a [5,15,25] (L:=[(0,_),(1,_),(2,_)]) hst hb Za
  (a_p [] rfl (Zd rfl rfl c_b)<|a_n) (fun a g hst hb=>?_)
 refine wp_seq ?_
 obtain ⟨r1,h2,H0⟩:=Zc H0
 refine r_a [5,15,25,50] (L:=[(0,_),(1,_),(2,_)]) hst hb Za
  (a_p [] rfl (Z0s rfl rfl c_i)<|a_p [0] rfl (Zr en_4 (Znl _ h2) rfl rfl (.cons u_0 .nil))<|Am 0 rfl<|a_p [0] rfl (Zba rfl rfl u_0 rfl)<|a_p [10] rfl (Zba rfl rfl u_0 rfl)<|Aa 10 rfl<|Aa 10 rfl<|a_n) (fun a g hst hb=>?_)
 obtain ⟨r3,h4,H0⟩:=Zc H0
 refine r_a [5,15,25,70] (L:=[(0,_),(1,_),(2,_),(7,_)]) hst hb Za
  (Am 35 rfl<|a_p [0] rfl (Zdd rfl rfl u_0 c_i)<|Am 0 rfl<|a_g [0] (Qg_f rfl (fun hG=>Z0s rfl rfl c_i))<|a_g [10,0] (Qg_f rfl (fun hG=>Zr en_5 (Zvr _ (Zcb h4 hG)) rfl rfl (.cons (Opd.gd hG u_0) .nil)))<|a_g [20,0] (Qg_f rfl (fun hG=>Zbx Tryz.underlying29 rfl rfl (Opd.gd hG u_0)))<|a_g [30,0] (Qg_f rfl (fun hG=>Zdd rfl rfl (Opd.gd hG u_0) c_i))<|a_p [40,0] rfl (Zb2 rfl rfl u_0 (fun hz=>(Opd.gd (bNF hz) u_1)))<|a_n) (fun a g hst hb=>?_)
 refine wp_cond_split (hst.bool 3 rfl) (fun hc5=>?_) (fun hc5=>?_)
 ·replace H0:=Z1 hc5 H0
  refine r_a [0] (L:=[]) (hst.pick [] rfl) hb Za
   (a_p [] rfl (Zd rfl rfl c_b)<|a_n) (fun a g hst hb=>?_)
  refine wp_ret ?_
  refine Zt ?_
  obtain rfl:=Option.some.inj H0
  exact Z8 rfl hst hb (Zi (s:=6)) (hst.at 0 rfl)
 ·replace H0:=Z0 hc5 H0
  refine wp_skip ?_
  refine Zo ?_
  obtain ⟨r6,h7,H0⟩:=Zc H0
  refine r_a [5,25,60,70] (L:=[(0,_),(1,_),(2,_)]) (hst.pick [0,1,2] rfl) hb Za
   (Am 15 rfl<|a_p [0] rfl (Zr en_6 (Zti _ _ h7) rfl rfl (.cons c_i (.cons u_0 .nil)))<|Am 0 rfl<|a_p [0] rfl (Zba rfl rfl u_0 rfl)<|a_p [10] rfl (Zba rfl rfl u_0 rfl)<|a_p (outs:=[(9,(pBox Z4 9 (default:Zp)))]) (S:=[10]) [] rfl (Zbl (zs:=[.pointer none,.int .i64 0]) (by kernel_rfl) (fun g=>Zd6 g) rfl rfl)<|a_p [20,0] rfl (Zbg Zb7 rfl rfl u_1 u_0)<|Aa 20 rfl<|a_n) (fun a g hst hb=>?_)
  refine wp_seq ?_
  obtain ⟨r8,h9,H0⟩:=Zc H0
  refine r_a [5,15,25,140] (L:=[(0,_),(2,_),(9,_),(10,_)]) hst hb Za
   (Am 35 rfl<|a_p [0] rfl (Zsy Tryz.underlying34 rfl rfl u_0 Zba4)<|Am 0 rfl<|a_g [0,15] (Qg_f rfl (fun hG=>Z6 rfl rfl u_0))<|a_g [10,0] (Qg_f rfl (fun hG=>Zr en_7 (Zv2 _ (Zcb h9 hG)) rfl rfl (.cons (Opd.gd hG u_0) .nil)))<|a_g [20,0] (Qg_f rfl (fun hG=>Zcu rfl rfl (Opd.gd hG u_0) c_i))<|a_p [30,0] rfl (Zb2 rfl rfl u_0 (fun hz=>(Opd.gd (bNF hz) u_1)))<|Am 0 rfl<|a_g [0,5] (Qg_f rfl (fun hG=>Z6 rfl rfl u_0))<|a_g [10,0] (Qg_f rfl (fun hG=>Zcv rfl rfl (Opd.gd hG u_0) c_i))<|a_p [20,0] rfl (Zb2 rfl rfl u_0 (fun hz=>(Opd.gd (bNF hz) u_1)))<|Am 0 rfl<|a_g [0,5] (Qg_f rfl (fun hG=>Z6 rfl rfl u_0))<|a_g [10,0] (Qg_f rfl (fun hG=>Zcu rfl rfl (Opd.gd hG u_0) c_i))<|a_p [20,0] rfl (Zb2 rfl rfl u_0 (fun hz=>(Opd.gd (bNF hz) u_1)))<|a_n) (fun a g hst hb=>?_)
  refine wp_cond_split (hst.bool 3 rfl) (fun hc10=>?_) (fun hc10=>?_)
  ·replace H0:=Z1 hc10 H0
   refine r_a [0] (L:=[]) (hst.pick [] rfl) hb Za
    (a_p [] rfl (Zd rfl rfl c_b)<|a_n) (fun a g hst hb=>?_)
   refine wp_ret ?_
   refine Zt ?_
   obtain rfl:=Option.some.inj H0
   exact Z8 rfl hst hb (Zi (s:=6)) (hst.at 0 rfl)
  ·replace H0:=Z0 hc10 H0
   refine wp_skip ?_
   refine Zo ?_
   refine r_a [5,15,25,30,40,50] (L:=[(0,_),(2,_),(9,_)]) (hst.pick [0,1,2] rfl) hb Za
    (AM Zb7 25 rfl<|Am 15 rfl<|a_p (outs:=[(11,(pBox Z4 11 (default:Zp)))]) (S:=[12]) [] rfl (Zbl (zs:=[.pointer none,.int .i64 0]) (by kernel_rfl) (fun g=>Zd6 g) rfl rfl)<|a_p [20,0] rfl (Zch Zb7 rfl rfl u_1 u_0)<|Aa 20 rfl<|a_p [] rfl (Zd rfl rfl c_i)<|a_n) (fun a g hst hb=>?_)
   refine r_a [5,15,25,35,45,55,0] (L:=[(0,_),(2,_),(9,_),(11,_),(12,_),(13,_)]) hst hb Za
    (a_p (outs:=[(14,(pRow Zcd 81 14 ([]:List Z7)))]) (S:=[]) [] rfl (Zd rfl rfl (Opd.c (fun g=>Zmm 14 g)))<|a_n) (fun a g hst hb=>?_)
   obtain ⟨z34,hz1,H0⟩:=Zc H0
   refine wp_seq ?_
   refine Zbt (fun a w=>∃ (y29:Int) (y30:Zp) (y31:List Zu) (y32:Int) (y33:List Z7) (g:G),w=g.w ∧ St 142 [(0,(pInt .i64 y29)),(2,(Zbb.sl.pd a2)),(9,(pBox Z4 9 y30)),(11,(Z4.ptr r6.1)),(12,(Zbb.sl.pd y31)),(13,(pInt .i64 y32)),(14,(pRow Zcd 81 14 y33))] a g ∧ Base g0 g ∧ (.inr (y29,y30,y31,y32,y33))=z34) ?_ ?_
   ·rintro a w ⟨y29,y30,y31,y32,y33,g,rfl,hst,hb,rfl⟩
    refine Zo ?_
    obtain ⟨c35,h36,H0⟩:=Zc H0;obtain ⟨r37,h38,H0⟩:=Zc H0
    refine r_a [5,25,45,65,90,100] (L:=[(0,_),(2,_),(9,_),(11,_),(12,_),(13,_),(14,_)]) hst hb Za
     (Al Zb7 35 rfl<|Am 15 rfl<|Am 55 rfl<|a_p [10,0] rfl (Zwo Tryz.underlying23 Zon rfl rfl u_0 u_1 h36)<|a_p [30,0] rfl (Zr Zbea (Zxq _ _ h38) rfl rfl (.cons u_0 (.cons u_1 .nil)))<|Am 0 rfl<|a_p [0] rfl (Zba rfl rfl u_0 rfl)<|a_p [10] rfl (Zba rfl rfl u_0 rfl)<|a_p (outs:=[(20,(pBox Z4 20 (default:Zp)))]) (S:=[21]) [] rfl (Zbl (zs:=[.pointer none,.int .i64 0]) (by kernel_rfl) (fun g=>Zd6 g) rfl rfl)<|a_p [20,0] rfl (Zch Zb7 rfl rfl u_1 u_0)<|Aa 20 rfl<|a_n) (fun a g hst hb=>?_)
    refine wp_seq ?_
    refine r_a [5,15,25,35,45,55,20] (L:=[(0,_),(9,_),(12,_),(14,_),(20,_),(21,_)]) hst hb Za
     (Am 25 rfl<|a_p [0] rfl (Zbx Tryz.underlying23 rfl rfl u_0)<|a_p [0] rfl (Zcu rfl rfl u_0 c_i)<|a_n) (fun a g hst hb=>?_)
    refine Zbt (fun a w=>∃ (g:G),w=g.w ∧ St 142 [(9,(pBox Z4 9 y30)),(14,(pRow Zcd 81 14 y33)),(20,(Z4.ptr r37.1)),(21,(Zcd.sl.pd r37.2))] a g ∧ Base g0 g ∧ Zfx y30 y33 r37=some r) ?_ ?_
    ·rintro a w ⟨g,rfl,hst,hb,H0⟩
     unfold Zfx at H0
     refine Zo ?_
     obtain ⟨r45,h46,H0⟩:=Zc H0;obtain ⟨r47,h48,H0⟩:=Zc H0
     refine r_a [80] (L:=[(9,_),(14,_),(20,_),(21,_)]) hst hb Za
      (AM Zb7 5 rfl<|Al Zb7 25 rfl<|a_p [10,0] rfl (Zr Zbjz (Z2o _ _ h46) rfl rfl (.cons u_0 (.cons u_1 .nil)))<|Am 0 rfl<|a_g [0,15] (Qg_t rfl (fun hG=>Z6 rfl rfl u_0))<|a_g [10,35] (Qg_t rfl (fun hG=>Z6 rfl rfl u_0))<|a_g [20,10,0] (Qg_t rfl (fun hG=>Zr Zbji (Ztp _ _ (Zcb h48 hG)) rfl rfl (.cons (Opd.imp (Opd.gd hG u_0) (fun _ _ h=>Zne h)) (.cons (Opd.gd hG u_1) .nil))))<|a_p [30,0] rfl (Zb5 rfl rfl u_0 (fun hz=>(Opd.gd hz u_1)))<|Aa 0 rfl<|a_n) (fun a g hst hb=>?_)
     refine wp_ret ?_
     obtain rfl:=Option.some.inj H0
     exact Z8 rfl hst hb (Zi (s:=6)) (hst.at 0 rfl)
    ·refine wp_cond_split (hst.bool 6 rfl) (fun hc39=>?_) (fun hc39=>?_)
     ·replace H0:=Z1 hc39 H0
      obtain ⟨c40,h41,H0⟩:=Zc H0;obtain ⟨r42,h43,H0⟩:=Zc H0
      refine r_a [15,35,45,55,80] (L:=[(0,_),(9,_),(12,_),(14,_),(20,_),(21,_)]) (hst.pick [0,1,2,3,4,5] rfl) hb Za
       (Am 5 rfl<|Am 25 rfl<|a_p [0] rfl (Zwo Tryz.underlying23 Zon rfl rfl u_0 c_i h41)<|a_p [20,0] rfl (Z19 rfl rfl u_0 u_1)<|a_p [0] rfl (Zr en_4 (Znl _ h43) rfl rfl (.cons u_0 .nil))<|Am 0 rfl<|a_p [0] rfl (Zba rfl rfl u_0 rfl)<|a_p [10] rfl (Zba rfl rfl u_0 rfl)<|Aa 10 rfl<|Aa 10 rfl<|a_n) (fun a g hst hb=>?_)
      refine r_a [5,15,25,35,10] (L:=[(9,_),(14,_),(20,_),(21,_),(22,_)]) hst hb Za
       (Am 45 rfl<|a_p [0] rfl (Zci rfl rfl u_0 c_i)<|a_n) (fun a g hst hb=>?_)
      refine wp_cond_split (hst.bool 4 rfl) (fun hc44=>?_) (fun hc44=>?_)
      ·replace H0:=Z1 hc44 H0
       refine r_a [0] (L:=[]) (hst.pick [] rfl) hb Za
        (a_p [] rfl (Zd rfl rfl c_b)<|a_n) (fun a g hst hb=>?_)
       refine wp_ret ?_
       refine Zt ?_
       refine Zt ?_
       obtain rfl:=Option.some.inj H0
       exact Z8 rfl hst hb (Zi (s:=6)) (hst.at 0 rfl)
      ·replace H0:=Z0 hc44 H0
       refine wp_skip ?_
       exact ⟨g,rfl,(hst.pick [0,1,2,3] rfl),hb,H0⟩
     ·replace H0:=Z0 hc39 H0
      refine wp_skip ?_
      exact ⟨g,rfl,(hst.pick [1,3,4,5] rfl),hb,H0⟩
   ·refine wp_block ?_
    refine wp_loop_ghost (fun n a w=>∃ (x11:Int) (x12:Zp) (x13:List Zu) (x14:Int) (x15:List Z7) (g:G),w=g.w ∧ St 142 [(0,(pInt .i64 x11)),(2,(Zbb.sl.pd a2)),(9,(pBox Z4 9 x12)),(11,(Z4.ptr r6.1)),(12,(Zbb.sl.pd x13)),(13,(pInt .i64 x14)),(14,(pRow Zcd 81 14 x15))] a g ∧ Base g0 g ∧ Zey n x11 x12 x13 x14 x15=some z34) (a2.length + 2) ⟨a0,r6.1,a2,(0:Int),([]:List Z7),g,rfl,(hst.pick [0,1,2,3,4,5,6] rfl),hb,hz1⟩ (fun n a w hI=>?_)
    obtain ⟨x11,x12,x13,x14,x15,g,rfl,hst,hb,H1⟩:=hI
    cases n with
    | zero=>exact absurd H1 (by simp [Zey])
    | succ n =>
     rw [Zey] at H1
     refine wp_block ?_
     obtain ⟨r16,h17,H1⟩:=Zc H1
     refine r_a [5,15,25,35,45,55,65,70,80] (L:=[(0,_),(2,_),(9,_),(11,_),(12,_),(13,_),(14,_)]) hst hb Za
      (Am 5 rfl<|Am 45 rfl<|a_p [10,0] rfl (Zr en_8 (Z9c _ _ h17) rfl rfl (.cons u_0 (.cons u_1 .nil)))<|Am 0 rfl<|a_p [0] rfl (Zba rfl rfl u_0 rfl)<|a_p [10] rfl (Zba rfl rfl u_0 rfl)<|a_p (outs:=[(15,(pBox Zcs 15 (default:Zbk)))]) (S:=[16]) [] rfl (Zbl (zs:=[.int .i64 0,.slice none 0 0]) (by kernel_rfl) (fun g=>Zps g) rfl rfl)<|a_p [20,0] rfl (Zch Zi7 rfl rfl u_1 u_0)<|Aa 20 rfl<|a_n) (fun a g hst hb=>?_)
     refine wp_seq ?_
     refine r_a [5,15,25,35,45,55,65,75,85,30] (L:=[(0,_),(2,_),(9,_),(11,_),(12,_),(13,_),(14,_),(15,_),(16,_)]) hst hb Za
      (Af Zii 75 rfl<|Al Zml 0 rfl<|a_p [0] rfl (Zbx Tryz.underlying23 rfl rfl u_0)<|a_p [0] rfl (Zci rfl rfl u_0 c_i)<|a_n) (fun a g hst hb=>?_)
     refine wp_cond_split (hst.bool 9 rfl) (fun hc18=>?_) (fun hc18=>?_)
     ·replace H1:=Z1 hc18 H1
      refine wp_exit ?_
      refine Zb0 ?_
      refine Z12 (by decide) ?_
      refine Zb0 ?_
      refine Zcj ?_
      exact ⟨x11,x12,x13,x14,x15,g,rfl,(hst.pick [0,1,2,3,4,5,6] rfl),hb,Option.some.inj H1⟩
     ·replace H1:=Z0 hc18 H1
      refine wp_skip ?_
      refine Zo ?_
      obtain ⟨r19,h20,H1⟩:=Zc H1;obtain ⟨r21,h22,H1⟩:=Zc H1
      refine r_a [5,15,25,35,45,55,65,75,85,80,90] (L:=[(0,_),(2,_),(9,_),(11,_),(12,_),(13,_),(14,_),(15,_),(16,_)]) (hst.pick [0,1,2,3,4,5,6,7,8] rfl) hb Za
       (Al Zi7 75 rfl<|a_p [0] rfl (Zr en_5 (Zvr _ h20) rfl rfl (.cons u_0 .nil))<|a_p [0] rfl (Zr en_9 (Z6z _ h22) rfl rfl (.cons u_0 .nil))<|Am 0 rfl<|a_p [0] rfl (Zba rfl rfl u_0 rfl)<|a_p [10] rfl (Zba rfl rfl u_0 rfl)<|a_p (outs:=[(17,(pBox Zcs 17 (default:Zbk)))]) (S:=[18]) [] rfl (Zbl (zs:=[.int .i64 0,.slice none 0 0]) (by kernel_rfl) (fun g=>Zps g) rfl rfl)<|a_p (outs:=[(18,(pBox Zc9 18 (default:Zcz)))]) (S:=[19]) [] rfl (Zbl (zs:=[.int .i64 0,.int .i64 0]) (by kernel_rfl) (fun g=>Zoo g) rfl rfl)<|a_p [30,10] rfl (Zch Zi7 rfl rfl u_1 u_0)<|a_p [30,10] rfl (Zch Zwb rfl rfl u_1 u_0)<|a_n) (fun a g hst hb=>?_)
      refine wp_seq ?_
      obtain ⟨r23,h24,H1⟩:=Zc H1
      refine r_a [5,15,25,35,55,65,75,85,95,190] (L:=[(0,_),(2,_),(9,_),(11,_),(12,_),(13,_),(14,_),(15,_),(16,_),(17,_),(18,_)]) hst hb Za
       (Af Z7f 105 rfl<|Al Zpk 0 rfl<|a_p [0] rfl (Zdd rfl rfl u_0 c_i)<|Am 0 rfl<|a_g [0,95] (Qg_f rfl (fun hG=>Z2 Zi7 rfl rfl u_0))<|a_g [10,75] (Qg_f rfl (fun hG=>Z2 Zi7 rfl rfl u_0))<|a_g [20,10,0] (Qg_f rfl (fun hG=>Zr Zbja (Zup _ _ (Zcb h24 hG)) rfl rfl (.cons (Opd.gd hG u_0) (.cons (Opd.gd hG u_1) .nil))))<|a_g [30,0] (Qg_f rfl (fun hG=>Zc2 rfl rfl (Opd.gd hG u_0)))<|a_p [40,0] rfl (Zb2 rfl rfl u_0 (fun hz=>(Opd.gd (bNF hz) u_1)))<|Am 0 rfl<|a_g [0,75] (Qg_f rfl (fun hG=>Zl Zii rfl rfl u_0))<|a_g [10,0] (Qg_f rfl (fun hG=>Z2 Zml rfl rfl (Opd.gd hG u_0)))<|a_g [20,0] (Qg_f rfl (fun hG=>Zbx Tryz.underlying23 rfl rfl (Opd.gd hG u_0)))<|a_g [30,85] (Qg_f rfl (fun hG=>Z6 rfl rfl u_0))<|a_g [40,0] (Qg_f rfl (fun hG=>Zbx Tryz.underlying23 rfl rfl (Opd.gd hG u_0)))<|a_g [50,20,0] (Qg_f rfl (fun hG=>Zcf rfl rfl (Opd.gd hG u_0) (Opd.gd hG u_1) rfl))<|a_g [60,45] (Qg_f rfl (fun hG=>Z6 rfl rfl u_0))<|a_g [70,0] (Qg_f rfl (fun hG=>Zbx Tryz.underlying23 rfl rfl (Opd.gd hG u_0)))<|a_g [80,20,0] (Qg_f rfl (fun hG=>Zdd rfl rfl (Opd.gd hG u_0) (Opd.gd hG u_1)))<|a_p [90,0] rfl (Zb2 rfl rfl u_0 (fun hz=>(Opd.gd (bNF hz) u_1)))<|a_n) (fun a g hst hb=>?_)
      refine wp_cond_split (hst.bool 9 rfl) (fun hc25=>?_) (fun hc25=>?_)
      ·replace H1:=Z1 hc25 H1
       refine r_a [0] (L:=[]) (hst.pick [] rfl) hb Za
        (a_p [] rfl (Zd rfl rfl c_b)<|a_n) (fun a g hst hb=>?_)
       refine wp_ret ?_
       refine Zt ?_
       refine Z5 ?_
       refine Zt ?_
       refine Z5 ?_
       refine Zt ?_
       refine Zt ?_
       obtain rfl:=Option.some.inj H1
       obtain rfl:=Option.some.inj H0
       exact Z8 rfl hst hb (Zi (s:=6)) (hst.at 0 rfl)
      ·replace H1:=Z0 hc25 H1
       refine wp_skip ?_
       refine Zo ?_
       refine r_a [5,15,25,35,45,55,65,75,85] (L:=[(0,_),(2,_),(9,_),(11,_),(13,_),(14,_),(15,_),(16,_),(17,_)]) (hst.pick [0,1,2,3,4,5,6,7,8] rfl) hb Za
        (a_p (outs:=[(19,(Zcd.sl.pd ([]:List Z7)))]) (S:=[]) [] rfl (Zd rfl rfl (Opd.c (fun g=>Zg7 g)))<|a_n) (fun a g hst hb=>?_)
       obtain ⟨r26,h27,H1⟩:=Zc H1
       refine r_a [5,15,70,35,45,55,65,75,80] (L:=[(0,_),(2,_),(9,_),(11,_),(13,_),(14,_),(15,_),(16,_),(17,_)]) hst hb Za
        (AM Zb7 25 rfl<|Af Zii 85 rfl<|Al Zml 0 rfl<|a_p [20,0] rfl (Zr Zbea (Zxq _ _ h27) rfl rfl (.cons u_0 (.cons u_1 .nil)))<|Am 0 rfl<|a_p [0] rfl (Zba rfl rfl u_0 rfl)<|a_p [10] rfl (Zba rfl rfl u_0 rfl)<|a_p [10,25] rfl (Zbg Zb7 rfl rfl u_1 u_0)<|Aa 10 rfl<|a_n) (fun a g hst hb=>?_)
       obtain ⟨h28,H1⟩:=Ze0 H1
       refine r_a [5,15,25,35,45,30,65,75] (L:=[(0,_),(2,_),(9,_),(11,_),(13,_),(14,_),(15,_),(16,_),(19,_)]) hst hb Za
        (Am 55 rfl<|Am 85 rfl<|a_p [10,0] rfl (Zfc Z8r rfl rfl u_0 u_1 h28)<|Aa 0 rfl<|a_n) (fun a g hst hb=>?_)
       refine r_a [5,15,25,35,50,55,75] (L:=[(0,_),(2,_),(9,_),(11,_),(13,_),(14,_),(15,_),(16,_)]) hst hb Za
        (Am 45 rfl<|Af Zii 65 rfl<|Al Zml 0 rfl<|a_p [0] rfl (Zbx Tryz.underlying23 rfl rfl u_0)<|a_p [30,0] rfl (Zcf rfl rfl u_0 u_1 rfl)<|Aa 0 rfl<|a_n) (fun a g hst hb=>?_)
       refine r_a [5,15,25,35,10,45,55] (L:=[(0,_),(2,_),(9,_),(11,_),(13,_),(14,_),(16,_)]) hst hb Za
        (Am 65 rfl<|Aa 0 rfl<|a_n) (fun a g hst hb=>?_)
       refine r_b [20,15,25,35,45,55,65] (L:=[(0,_),(2,_),(9,_),(11,_),(12,_),(13,_),(14,_)]) hst hb Za
        (Am 5 rfl<|a_p [0] rfl (Zcf rfl rfl u_0 c_i rfl)<|Aa 0 rfl<|a_n) (fun a g hst hb=>?_)
       refine Zbn ?_
       exact ⟨n,Nat.lt_succ_self _,(IntKind.i64.wrap (x11 + (1:Int))),r26.1,r16.2,(IntKind.i64.wrap (x14 + (r16.1.Deals.length:Int))),(x15 ++ r26.2),g,rfl,(hst.pick [0,1,2,3,4,5,6] rfl),hb,H1⟩
end Go.CL
namespace Go.CL
open Go
def Zo9 (a0:Zx) (a1:ByteArray):Option (Zx × Bool):=((Zfv a0 a1).bind fun r1=>((gd (!(decide ((a0.L.length:Int) ≤ r1))) (idx a0.L r1)).bind fun e3=>(if ((decide ((a0.L.length:Int) ≤ r1)) || (!sEq e3.Key a1)) then (some (a0,false)) else ((cut a0.L (0:Int) r1).bind fun c6=>(if (([]:List Zbj).length + c6.length) * 104 ≤ 140737488355328 then ((cut a0.L (IntKind.i64.wrap (r1 + (1:Int))) (a0.L.length:Int)).bind fun c9=>(if ((([]:List Zbj) ++ c6).length + c9.length) * 104 ≤ 140737488355328 then (some (({ L:=((([]:List Zbj) ++ c6) ++ c9),Room:=a0.Room }:Zx),true)) else none)) else none)))))
def Zgk (a0:Int):Option (Int):=(if ((decide (a0 < (0:Int))) || (decide ((21:Int) < a0))) then (some (0:Int)) else ((idx ([(0:Int),(0:Int),(0:Int),(0:Int),(0:Int),(1:Int),(1:Int),(2:Int),(3:Int),(3:Int),(4:Int),(4:Int),(4:Int),(5:Int),(6:Int),(7:Int),(7:Int),(7:Int),(8:Int),(8:Int),(8:Int),(9:Int)]:List Int) a0).bind fun e2=>(some e2)))
def Zu2 (a0:Int):Option (ByteArray):=(if ((decide (a0 < (0:Int))) || (decide ((21:Int) < a0))) then (some (⟨#[]⟩:ByteArray)) else ((idx ([(⟨#[]⟩:ByteArray),(⟨#[109]⟩:ByteArray),(⟨#[]⟩:ByteArray),(⟨#[]⟩:ByteArray),(⟨#[]⟩:ByteArray),(⟨#[115]⟩:ByteArray),(⟨#[115]⟩:ByteArray),(⟨#[110]⟩:ByteArray),(⟨#[110]⟩:ByteArray),(⟨#[110]⟩:ByteArray),(⟨#[110]⟩:ByteArray),(⟨#[110]⟩:ByteArray),(⟨#[110]⟩:ByteArray),(⟨#[120]⟩:ByteArray),(⟨#[120]⟩:ByteArray),(⟨#[120]⟩:ByteArray),(⟨#[120]⟩:ByteArray),(⟨#[120]⟩:ByteArray),(⟨#[115]⟩:ByteArray),(⟨#[115]⟩:ByteArray),(⟨#[115]⟩:ByteArray),(⟨#[120,115]⟩:ByteArray)]:List ByteArray) a0).bind fun e2=>(some e2)))
def Zqo (a1:Int) (r1:ByteArray):Nat → (Int) → Option ((Bool) ⊕ (Unit))
 | 0,_=>none
 | n + 1,x3=>(if (decide (x3 < (r1.size:Int))) then ((sidx r1 x3).bind fun b5=>(if (b5 == a1) then (some (.inl true)) else ((Zqo a1 r1 n) (IntKind.i64.wrap (x3 + (1:Int)))))) else (some (.inr ())))
def Zf7 (a0:Int) (a1:Int):Option (Bool):=((Zu2 a0).bind fun r1=>((Zqo a1 r1 (Int.toNat ((r1.size:Int) - (0:Int)) + 1) (0:Int)).bind fun z8=>match z8 with | .inl r=>some r | .inr ()=>(some false)))
def Zgu (a0:Zs):Option (Int):=(if ((decide (a0.Kind < (1:Int))) || (decide ((21:Int) < a0.Kind))) then (some (5:Int)) else (if ((decide ((a0.Key.size:Int) < (1:Int))) || (decide ((24:Int) < (a0.Key.size:Int)))) then (some (1:Int)) else ((Zf7 a0.Kind (110:Int)).bind fun r3=>((gd (!((!r3) && (a0.N != (0:Int)))) (Zf7 a0.Kind (120:Int))).bind fun r5=>((gd ((!((!r3) && (a0.N != (0:Int)))) && (!r5)) (Zdy a0.X (0:Nat))).bind fun r7=>((gd (!(((!r3) && (a0.N != (0:Int))) || ((!r5) && (!r7)))) (Zf7 a0.Kind (115:Int))).bind fun r9=>(if ((((!r3) && (a0.N != (0:Int))) || ((!r5) && (!r7))) || ((!r9) && (!sEq a0.S (⟨#[]⟩:ByteArray)))) then (some (4:Int)) else ((gd (a0.Kind != (1:Int)) (Zg9 a0.Make ({ Kind:=(0:Int),Num:=(0:Int),Low:=(0:Int),High:=(0:Int),Real:=(0:Nat),Cap:=(0:Int),Text:=ByteArray.empty,List:=([]:List Zh) }:Zb))).bind fun r12=>(if ((a0.Kind != (1:Int)) && (!r12)) then (some (4:Int)) else ((Zgk a0.Kind).bind fun r15=>((gd (!((r15 == (1:Int)) && (decide ((64:Int) < (a0.S.size:Int))))) (Zgk a0.Kind)).bind fun r17=>(if (((r15 == (1:Int)) && (decide ((64:Int) < (a0.S.size:Int)))) || ((r17 != (1:Int)) && (decide ((16:Int) < (a0.S.size:Int))))) then (some (3:Int)) else (if (((a0.Kind == (10:Int)) || (a0.Kind == (11:Int))) && ((decide (a0.N < (0:Int))) || (decide ((2305843009213693952:Int) < a0.N)))) then (some (1:Int)) else ((Zgd a0.X).bind fun r21=>(if (!r21) then (some (4:Int)) else (if (a0.Kind == (1:Int)) then ((Zd2 a0.Make).bind fun r25=>(some r25)) else (some (0:Int))))))))))))))))))
def Zhg (a0:Zb):Option (Zb):=(if (([]:List Zh).length + a0.List.length) * 24 ≤ 140737488355328 then (some ({ a0 with List:=(([]:List Zh) ++ a0.List) })) else none)
def Zoy (a0:Int) (a1:Int):Option (Bool):=(some ((((decide ((0:Int) < a0)) && (decide ((0:Int) < a1))) && (decide ((IntKind.i64.wrap (a0 + a1)) < (0:Int)))) || (((decide (a0 < (0:Int))) && (decide (a1 < (0:Int)))) && (decide ((0:Int) ≤ (IntKind.i64.wrap (a0 + a1)))))))
def Zpt (a0:Nat) (a1:Nat):Option (Nat):=((Zfk a0 a1).bind fun r1=>(if r1 then (some a1) else (some a0)))
def Zpp (a0:Nat) (a1:Nat):Option (Nat):=((Zfk a1 a0).bind fun r1=>(if r1 then (some a1) else (some a0)))
def Zhd (a0:Int):Option (Nat):=(if (decide ((9223372036854775808:Int) ≤ a0)) then (some (Int.toNat (IntKind.u64.wrap (a0 - (9223372036854775808:Int))))) else (some (Int.toNat (IntKind.u64.wrap ((9223372036854775808:Int) + (IntKind.u64.wrap ((IntKind.u64.wrap ((9223372036854775808:Int) - (1:Int))) - a0)))))))
def Zlm (a0:Nat):Option (Int):=((Zgh a0).bind fun r1=>(if r1 then (some (IntKind.u64.wrap ((9223372036854775808:Int) + (9221120237041090561:Int)))) else (if (decide ((9223372036854775808:Int) ≤ (a0:Int))) then (some (IntKind.u64.wrap ((IntKind.u64.wrap ((9223372036854775808:Int) - (1:Int))) - (IntKind.u64.wrap ((a0:Int) - (9223372036854775808:Int)))))) else (some (IntKind.u64.wrap ((9223372036854775808:Int) + (a0:Int)))))))
def Zix (a0:List Zh) (a1:ByteArray):Nat → (Int) → Option ((Bool) ⊕ (Unit))
 | 0,_=>none
 | n + 1,x1=>(if (decide (x1 < (a0.length:Int))) then ((idx a0 x1).bind fun e3=>(if (sEq e3.Name a1) then (some (.inl true)) else ((Zix a0 a1 n) (IntKind.i64.wrap (x1 + (1:Int)))))) else (some (.inr ())))
def Zi5 (a0:List Zh) (a1:ByteArray):Option (Bool):=((Zix a0 a1 (Int.toNat ((a0.length:Int) - (0:Int)) + 1) (0:Int)).bind fun z6=>match z6 with | .inl r=>some r | .inr ()=>(some false))
def Zkk (j30:List Zh):Option (List Zh):=(some j30)
def Zf4 (a0:List Zh) (x3:Int) (kk:(List Zh) → (Bool) → (Int) → Option ((List Zh) × Bool)) (j20:List Zh) (j21:Bool):Option ((List Zh) × Bool):=((idx a0 x3).bind fun e22=>(if (j20.length + ([e22]:List Zh).length) * 24 ≤ 140737488355328 then (kk (j20 ++ ([e22]:List Zh)) j21 (IntKind.i64.wrap (x3 + (1:Int)))) else none))
def Zdk (a0:List Zh) (a1:Zh) (a2:Bool):Nat → (List Zh) → (Bool) → (Int) → Option ((List Zh) × Bool)
 | 0,_,_,_=>none
 | n + 1,x1,x2,x3=>(if (decide (x3 < (a0.length:Int))) then ((gd (!a2) (idx a0 x3)).bind fun e5=>((gd (!a2) (Zgs e5 a1)).bind fun r7=>((gd ((!((!a2) && r7)) && a2) (idx a0 x3)).bind fun e9=>((idx a0 x3).bind fun e11=>((gd ((sEq e11.Name a1.Name) && (!a2)) (idx a0 x3)).bind fun e13=>((gd ((sEq e11.Name a1.Name) && (!a2)) (Zdy e13.Score a1.Score)).bind fun r15=>(if ((!x2) && (!(((!a2) && r7) || (a2 && (sLt e9.Name a1.Name))))) then (if (!((sEq e11.Name a1.Name) && (a2 || r15))) then (if (x1.length + ([a1]:List Zh).length) * 24 ≤ 140737488355328 then (Zf4 a0 x3 (Zdk a0 a1 a2 n) (x1 ++ ([a1]:List Zh)) true) else none) else (Zf4 a0 x3 (Zdk a0 a1 a2 n) x1 true)) else (Zf4 a0 x3 (Zdk a0 a1 a2 n) x1 x2)))))))) else (some (x1,x2)))
def Zij (a0:List Zh) (a1:Zh) (a2:Bool):Option (List Zh):=((Zdk a0 a1 a2 (Int.toNat ((a0.length:Int) - (0:Int)) + 1) ([]:List Zh) false (0:Int)).bind fun z27=>match z27 with | (y25,y26)=>(if (!y26) then (if (y25.length + ([a1]:List Zh).length) * 24 ≤ 140737488355328 then (Zkk (y25 ++ ([a1]:List Zh))) else none) else (Zkk y25)))
def Zbc (j65:Zb) (j66:Zj):Option (Zb × Zj):=(some (j65,j66))
def Zog (x43:Int) (kk:(List Zh) → (Int) → Option (List Zh)) (j51:List Zh):Option (List Zh):=(kk j51 (IntKind.i64.wrap (x43 + (1:Int))))
def Zfz (a0:Zb) (a1:Zs):Nat → (List Zh) → (Int) → Option (List Zh)
 | 0,_,_=>none
 | n + 1,x42,x43=>(if (decide (x43 < (a0.List.length:Int))) then ((idx a0.List x43).bind fun e45=>(if (!sEq e45.Name a1.S) then ((idx a0.List x43).bind fun e48=>(if (x42.length + ([e48]:List Zh).length) * 24 ≤ 140737488355328 then (Zog x43 (Zfz a0 a1 n) (x42 ++ ([e48]:List Zh))) else none)) else (Zog x43 (Zfz a0 a1 n) x42))) else (some x42))
def Zgr (a0:Zb) (j64:List Zh):Option (Zb × Zj):=(Zbc ({ a0 with List:=j64 }) ({ Code:=(0:Int),Num:=(0:Int),Rec:=(default:Zb) }:Zj))
def Zc0 (a0:Zb) (a1:Zs) (j11:Bool):Option (Zb × Zj):=(if j11 then (if (decide (a0.Num < a1.N)) then (Zbc a0 ({ ({ Code:=(0:Int),Num:=(0:Int),Rec:=(default:Zb) }:Zj) with Code:=(11:Int) })) else (Zbc a0 ({ Code:=(0:Int),Num:=(0:Int),Rec:=(default:Zb) }:Zj))) else (if (a1.Kind == (10:Int)) then (if (decide (a0.High < (IntKind.i64.wrap (a0.Num + a1.N)))) then (Zbc a0 ({ ({ Code:=(0:Int),Num:=(0:Int),Rec:=(default:Zb) }:Zj) with Code:=(9:Int) })) else (Zbc ({ a0 with Num:=(IntKind.i64.wrap (a0.Num + a1.N)) }) ({ Code:=(0:Int),Num:=(0:Int),Rec:=(default:Zb) }:Zj))) else (if (a1.Kind == (11:Int)) then (if (decide ((IntKind.i64.wrap (a0.Num - a1.N)) < a0.Low)) then (Zbc a0 ({ ({ Code:=(0:Int),Num:=(0:Int),Rec:=(default:Zb) }:Zj) with Code:=(10:Int) })) else (Zbc ({ a0 with Num:=(IntKind.i64.wrap (a0.Num - a1.N)) }) ({ Code:=(0:Int),Num:=(0:Int),Rec:=(default:Zb) }:Zj))) else (if (a1.Kind == (13:Int)) then ((Zpt a0.Real a1.X).bind fun r19=>(Zbc ({ a0 with Real:=r19 }) ({ Code:=(0:Int),Num:=(0:Int),Rec:=(default:Zb) }:Zj))) else (if (a1.Kind == (14:Int)) then ((Zpp a0.Real a1.X).bind fun r22=>(Zbc ({ a0 with Real:=r22 }) ({ Code:=(0:Int),Num:=(0:Int),Rec:=(default:Zb) }:Zj))) else (if (a1.Kind == (15:Int)) then ((Zlm (fadd a0.Real a1.X)).bind fun r25=>((Zhd r25).bind fun r27=>(Zbc ({ a0 with Real:=r27 }) ({ Code:=(0:Int),Num:=(0:Int),Rec:=(default:Zb) }:Zj)))) else (if (a1.Kind == (16:Int)) then ((Zlm (fmul a0.Real a1.X)).bind fun r30=>((Zhd r30).bind fun r32=>(Zbc ({ a0 with Real:=r32 }) ({ Code:=(0:Int),Num:=(0:Int),Rec:=(default:Zb) }:Zj)))) else (if (a1.Kind == (17:Int)) then (Zbc ({ a0 with Real:=a1.X }) ({ Code:=(0:Int),Num:=(0:Int),Rec:=(default:Zb) }:Zj)) else (if (a1.Kind == (18:Int)) then ((Zi5 a0.List a1.S).bind fun r36=>(if ((!r36) && (decide (a0.Cap ≤ (a0.List.length:Int)))) then (Zbc a0 ({ ({ Code:=(0:Int),Num:=(0:Int),Rec:=(default:Zb) }:Zj) with Code:=(8:Int) })) else ((Zij a0.List ({ Score:=(0:Nat),Name:=a1.S }:Zh) true).bind fun r39=>(Zbc ({ a0 with List:=r39 }) ({ Code:=(0:Int),Num:=(0:Int),Rec:=(default:Zb) }:Zj))))) else (if (a1.Kind == (19:Int)) then ((Zfz a0 a1 (Int.toNat ((a0.List.length:Int) - (0:Int)) + 1) ([]:List Zh) (0:Int)).bind fun z53=>match z53 with | y52=>(Zbc ({ a0 with List:=y52 }) ({ Code:=(0:Int),Num:=(0:Int),Rec:=(default:Zb) }:Zj))) else (if (a1.Kind == (20:Int)) then ((Zi5 a0.List a1.S).bind fun r55=>(if (!r55) then (Zbc a0 ({ ({ Code:=(0:Int),Num:=(0:Int),Rec:=(default:Zb) }:Zj) with Code:=(11:Int) })) else (Zbc a0 ({ Code:=(0:Int),Num:=(0:Int),Rec:=(default:Zb) }:Zj)))) else (if (a1.Kind == (21:Int)) then ((Zij a0.List ({ Score:=a1.X,Name:=a1.S }:Zh) false).bind fun r59=>(if (decide (a0.Cap < (r59.length:Int))) then ((cut r59 (0:Int) a0.Cap).bind fun c62=>(Zgr a0 c62)) else (Zgr a0 r59))) else (Zbc a0 ({ Code:=(0:Int),Num:=(0:Int),Rec:=(default:Zb) }:Zj))))))))))))))
def Zb8 (a0:Zb) (a1:Zs):Option (Zb × Zj):=(if (a1.Kind == (5:Int)) then (Zbc ({ a0 with Text:=a1.S }) ({ Code:=(0:Int),Num:=(0:Int),Rec:=(default:Zb) }:Zj)) else (if (a1.Kind == (6:Int)) then ((Zhg a0).bind fun r3=>(Zbc ({ a0 with Text:=a1.S }) ({ ({ Code:=(0:Int),Num:=(0:Int),Rec:=(default:Zb) }:Zj) with Rec:=r3 }))) else (if (a1.Kind == (7:Int)) then (Zbc ({ a0 with Num:=(IntKind.i64.wrap (a0.Num + a1.N)) }) ({ Code:=(0:Int),Num:=(0:Int),Rec:=(default:Zb) }:Zj)) else (if (a1.Kind == (8:Int)) then ((Zoy a0.Num a1.N).bind fun r7=>(if r7 then (Zbc a0 ({ ({ Code:=(0:Int),Num:=(0:Int),Rec:=(default:Zb) }:Zj) with Code:=(9:Int) })) else (Zbc ({ a0 with Num:=(IntKind.i64.wrap (a0.Num + a1.N)) }) ({ Code:=(0:Int),Num:=(0:Int),Rec:=(default:Zb) }:Zj)))) else (if (a1.Kind == (9:Int)) then (Zc0 a0 a1 (a1.Kind == (9:Int))) else (Zc0 a0 a1 (a1.Kind == (12:Int))))))))
def Zjm (a1:Bool) (a2:Zs) (r3:Zb) (j18:Int):Option (Zb × Bool × Zj):=(if (j18 != (0:Int)) then (some (r3,a1,({ Code:=j18,Num:=(0:Int),Rec:=(default:Zb) }:Zj))) else (if (a2.Kind == (1:Int)) then ((Zhg a2.Make).bind fun r21=>(some (r21,true,({ Code:=(0:Int),Num:=(0:Int),Rec:=(default:Zb) }:Zj)))) else (if (a2.Kind == (2:Int)) then (some (({ Kind:=(0:Int),Num:=(0:Int),Low:=(0:Int),High:=(0:Int),Real:=(0:Nat),Cap:=(0:Int),Text:=ByteArray.empty,List:=([]:List Zh) }:Zb),false,({ Code:=(0:Int),Num:=(0:Int),Rec:=(default:Zb) }:Zj))) else (if (a2.Kind == (3:Int)) then (some (r3,a1,({ Code:=(0:Int),Num:=r3.Kind,Rec:=(default:Zb) }:Zj))) else (if (a2.Kind == (4:Int)) then ((Zhg r3).bind fun r26=>(some (r3,a1,({ Code:=(0:Int),Num:=(0:Int),Rec:=r26 }:Zj)))) else ((Zb8 r3 a2).bind fun r28=>(some (r28.1,a1,r28.2))))))))
def Zjo (a1:Bool) (a2:Zs) (r3:Zb) (j14:Int):Option (Zb × Bool × Zj):=((Zgk a2.Kind).bind fun r15=>(if (((j14 == (0:Int)) && (r15 != (0:Int))) && (r15 != r3.Kind)) then (Zjm a1 a2 r3 (5:Int)) else (Zjm a1 a2 r3 j14)))
def Zjk (a1:Bool) (a2:Zs) (r3:Zb) (j12:Int):Option (Zb × Bool × Zj):=(if ((((j12 == (0:Int)) && (!a1)) && (a2.Kind != (1:Int))) && (a2.Kind != (3:Int))) then (Zjo a1 a2 r3 (6:Int)) else (Zjo a1 a2 r3 j12))
def Zgo (a1:Bool) (a2:Zs) (r3:Zb) (j10:Int):Option (Zb × Bool × Zj):=(if (((j10 == (0:Int)) && (a2.Kind == (1:Int))) && a1) then (Zjk a1 a2 r3 (7:Int)) else (Zjk a1 a2 r3 j10))
def Zjn (a1:Bool) (a2:Zs) (j2:Zb):Option (Zb × Bool × Zj):=((Zhg j2).bind fun r3=>((Zgu a2).bind fun r5=>(if ((r5 == (0:Int)) && a1) then ((Zd2 r3).bind fun r8=>(Zgo a1 a2 r3 r8)) else (Zgo a1 a2 r3 r5))))
def Zrc (a0:Zb) (a1:Bool) (a2:Zs):Option (Zb × Bool × Zj):=(if (!a1) then (Zjn a1 a2 ({ Kind:=(0:Int),Num:=(0:Int),Low:=(0:Int),High:=(0:Int),Real:=(0:Nat),Cap:=(0:Int),Text:=ByteArray.empty,List:=([]:List Zh) }:Zb)) else (Zjn a1 a2 a0))
def Zhq (a0:Zu):Nat → (Int) → Option ((Int × Int) ⊕ (Unit))
 | 0,_=>none
 | n + 1,x2=>(if (decide (x2 < (a0.Acts.length:Int))) then ((idx a0.Acts x2).bind fun e4=>((Zgu e4).bind fun r6=>(if (r6 != (0:Int)) then (some (.inl (r6,(IntKind.i64.wrap (x2 + (1:Int)))))) else ((Zhq a0 n) (IntKind.i64.wrap (x2 + (1:Int))))))) else (some (.inr ())))
def Zrb (a0:Zu):Option (Int × Int):=(if ((decide ((a0.Acts.length:Int) < (1:Int))) || (decide ((12:Int) < (a0.Acts.length:Int)))) then (some ((1:Int),(0:Int))) else ((Zhq a0 (Int.toNat ((a0.Acts.length:Int) - (0:Int)) + 1) (0:Int)).bind fun z9=>match z9 with | .inl r=>some r | .inr ()=>(some ((0:Int),(0:Int)))))
def NANB:Nat:=9221120237041090561
def keyf (b:Nat):Int:=if isn b then 18444492273895866369 else if TOP ≤ b then 18446744073709551615 - b else b + 9223372036854775808
def Zcl (b:Nat):Nat:=if isn b then NANB else b
theorem Z1a {b:Nat} (hb:b < 18446744073709551616):fneq b b=decide (isn b):=by
 unfold fneq
 show (Ieee.double.order b b != some .eq)=_
 by_cases h:isn b
 ·rw [Z1e (.inl h)];simp [h]
 ·obtain ⟨o,ho,_,he⟩:=Zts hb hb h h
  rw [ho,he.2 rfl];simp [h]
theorem Zli {b:Nat} (hb:b < 18446744073709551616):Zgv b=some (Zcl b):=by
 unfold Zgv Zcl
 rw [Z1a hb]
 by_cases h:isn b
 ·simp [h,Zt2,NANB]
 ·simp [h]
theorem Z0m {b:Nat} (hb:b < 18446744073709551616):(bAnd .u64 (b:Int) 9223372036854775808 != 0)=decide (TOP ≤ b):=by
 have h1:(BitVec.ofInt 64 (b:Int) &&& BitVec.ofInt 64 9223372036854775808).toNat=b &&& 9223372036854775808:=by
  rw [BitVec.toNat_and]
  have e1:(BitVec.ofInt 64 (b:Int)).toNat=b:=by
   rw [show BitVec.ofInt 64 (b:Int)=BitVec.ofNat 64 b from rfl]
   simp;omega
  rw [e1];rfl
 have h2:b &&& 9223372036854775808=(b.testBit 63).toNat * 9223372036854775808:=by
  apply Nat.eq_of_testBit_eq
  intro i
  rw [Nat.testBit_and,show (9223372036854775808:Nat)=2 ^ 63 from rfl,Nat.testBit_two_pow]
  by_cases hi:63=i
  ·subst hi
   cases b.testBit 63
   ·simp
   ·rw [Bool.toNat_true,Nat.one_mul,Nat.testBit_two_pow];simp
  ·cases b.testBit 63
   ·simp [hi]
   ·rw [Bool.toNat_true,Nat.one_mul,Nat.testBit_two_pow];simp [hi]
 have h3:b.testBit 63=decide (TOP ≤ b):=by
  rw [Nat.testBit_eq_decide_div_mod_eq]
  unfold TOP
  by_cases h:9223372036854775808 ≤ b
  ·have:b / 2 ^ 63 % 2=1:=by omega
   simp [this,h]
  ·have:b / 2 ^ 63 % 2=0:=by omega
   simp [this,h]
 unfold bAnd
 show (IntKind.wrap .u64 ((BitVec.ofInt 64 (b:Int) &&& BitVec.ofInt 64 9223372036854775808).toNat:Int) != 0)=_
 rw [h1,h2,h3]
 by_cases h:TOP ≤ b
 ·simp only [h,decide_true,Bool.toNat_true,Nat.one_mul]
  rfl
 ·simp only [h,decide_false,Bool.toNat_false,Nat.zero_mul]
  rfl
theorem Z00 {b:Nat} (hb:b < 18446744073709551616):bXor .u64 IntKind.u64.max (b:Int)=18446744073709551615 - b:=by
 have h1:(BitVec.ofInt 64 18446744073709551615 ^^^ BitVec.ofInt 64 (b:Int)).toNat=18446744073709551615 - b:=by
  have e1:BitVec.ofInt 64 18446744073709551615=BitVec.allOnes 64:=by decide
  rw [e1,BitVec.allOnes_xor,BitVec.toNat_not]
  have e2:(BitVec.ofInt 64 (b:Int)).toNat=b:=by
   rw [show BitVec.ofInt 64 (b:Int)=BitVec.ofNat 64 b from rfl]
   simp;omega
  rw [e2]
 unfold bXor
 show IntKind.wrap .u64 ((BitVec.ofInt 64 18446744073709551615 ^^^ BitVec.ofInt 64 (b:Int)).toNat:Int)=_
 rw [h1]
 simp [IntKind.wrap,IntKind.signed,IntKind.bits]
 omega
theorem Zbhz {b:Nat} (hb:b < 9223372036854775808):bOr .u64 (b:Int) 9223372036854775808=b + 9223372036854775808:=by
 have h1:(BitVec.ofInt 64 (b:Int) ||| BitVec.ofInt 64 9223372036854775808).toNat=b + 9223372036854775808:=by
  rw [BitVec.toNat_or]
  have e1:(BitVec.ofInt 64 (b:Int)).toNat=b:=by
   rw [show BitVec.ofInt 64 (b:Int)=BitVec.ofNat 64 b from rfl]
   simp;omega
  rw [e1,show (BitVec.ofInt 64 9223372036854775808).toNat=2 ^ 63 * 1 from rfl,Nat.or_comm]
  rw [← Nat.two_pow_add_eq_or_of_lt (by simpa using hb)]
  omega
 unfold bOr
 show IntKind.wrap .u64 ((BitVec.ofInt 64 (b:Int) ||| BitVec.ofInt 64 9223372036854775808).toNat:Int)=_
 rw [h1]
 simp [IntKind.wrap,IntKind.signed,IntKind.bits]
 omega
theorem Zyi {b:Nat} (hb:b < 18446744073709551616):Zcl b < 18446744073709551616:=by
 unfold Zcl NANB;split <;> omega
theorem Zs5 {b:Nat} (hb:b < 18446744073709551616):Zm4 b=some (keyf b):=by
 unfold Zm4
 rw [Zli hb]
 simp only [Option.bind_some]
 rw [Z0m (Zyi hb)]
 unfold keyf Zcl
 by_cases h:isn b
 ·simp only [h,if_true]
  rfl
 ·simp only [h,if_false]
  by_cases ht:TOP ≤ b
  ·simp only [ht,decide_true,if_true]
   rw [Z00 hb]
  ·simp only [ht,decide_false,if_false,Bool.false_eq_true]
   rw [Zbhz (by unfold TOP at ht;omega)]
theorem Zrl {a b:Nat} (ha:a < 18446744073709551616) (hb:b < 18446744073709551616):Zlg a b=some (decide (keyf a=keyf b)):=by
 unfold Zlg
 rw [Zs5 ha,Zs5 hb]
 simp [BEq.beq]
theorem Z0x {a b:Nat} (ha:a < 18446744073709551616) (hb:b < 18446744073709551616):Zo1 a b=some (decide (keyf a < keyf b)):=by
 unfold Zo1
 rw [Zs5 ha,Zs5 hb]
 simp
theorem Zvz {a:Nat} (ha:a < 18446744073709551616):Zma a=some (decide (a=Zcl a)):=by
 unfold Zma
 rw [Zli ha]
 congr 1
 by_cases h:a=Zcl a
 ·simp [← h]
 ·have:(a:Int) ≠ (Zcl a:Int):=by omega
  simp [h,this]
theorem Z7k {a b:Nat} (ha:a < 18446744073709551616) (hb:b < 18446744073709551616) (na:¬ isn a) (nb:¬ isn b):keyf a < keyf b ↔ (sg a < sg b ∨ (a=TOP ∧ b=0)):=by
 unfold keyf
 rw [if_neg na,if_neg nb]
 unfold sg isn rg INF TOP at *
 split <;> split <;> omega
theorem Z7z {a b:Nat} (ha:a < 18446744073709551616) (hb:b < 18446744073709551616) (na:¬ isn a) (nb:¬ isn b):feql a b=decide (sg a=sg b):=by
 unfold feql
 show (Ieee.double.order a b == some .eq)=_
 obtain ⟨o,ho,_,he⟩:=Zts ha hb na nb
 rw [ho]
 by_cases h:sg a=sg b
 ·rw [he.2 h];simp [h]
 ·have:o ≠ .eq:=fun h'=>h (he.1 h')
  simp [h,this]
theorem Zbgp {a b:Nat} (ha:a < 18446744073709551616) (hb:b < 18446744073709551616) (na:¬ isn a) (nb:¬ isn b):flss a b=decide (sg a < sg b):=by
 unfold flss
 show (Ieee.double.order a b == some .lt)=_
 obtain ⟨o,ho,hl,_⟩:=Zts ha hb na nb
 rw [ho]
 by_cases h:sg a < sg b
 ·rw [hl.2 h];simp [h]
 ·have:o ≠ .lt:=fun h'=>h (hl.1 h')
  simp [h,this]
theorem Zbhn:Zhy 0=some false:=by kernel_rfl
theorem Zbil:Zhy TOP=some true:=by kernel_rfl
theorem nan0:¬ isn 0:=by decide
theorem Z7m {a:Nat} (ha:a < 18446744073709551616):sg a=sg 0 ↔ a=0 ∨ a=TOP:=by
 unfold sg TOP
 split <;> simp <;> omega
theorem Ztx {a:Nat} (ha:a < 18446744073709551616):Zgh a=some (decide (isn a)):=by
 unfold Zgh;rw [Z1a ha]
theorem Zr4 {a b:Nat} (ha:a < 18446744073709551616) (hb:b < 18446744073709551616):Zfk a b=some (decide (keyf a < keyf b)):=by
 unfold Zfk
 rw [Ztx ha,Ztx hb]
 simp only [Option.bind_some]
 have kb:∀ x,x < 18446744073709551616 → ¬ isn x → keyf x < 18444492273895866369:=by
  intro x hx nx
  unfold keyf
  rw [if_neg nx]
  unfold isn rg INF TOP at *
  split <;> omega
 have kn:∀ x,isn x → keyf x=18444492273895866369:=fun x h=>by unfold keyf;rw [if_pos h]
 by_cases na:isn a
 ·simp only [na,decide_true,if_true]
  by_cases nb:isn b
  ·rw [kn a na,kn b nb];simp
  ·have:=kb b hb nb
   rw [kn a na];simp;omega
 ·simp only [na,decide_false,Bool.false_eq_true,if_false]
  by_cases nb:isn b
  ·have:=kb a ha na
   rw [kn b nb];simp [nb,this]
  ·simp only [nb,decide_false,Bool.false_eq_true,if_false]
   rw [Z7z ha (by decide) na nan0,Z7z hb (by decide) nb nan0,Zbgp ha hb na nb]
   by_cases hz:sg a=sg 0 ∧ sg b=sg 0
   ·rw [if_pos (by simp [hz])]
    have hk:=Z7k ha hb na nb
    have h0T:(0:Nat) ≠ TOP:=by decide
    rcases (Z7m ha).1 hz.1 with rfl | rfl <;> rcases (Z7m hb).1 hz.2 with rfl | rfl <;> simp only [Zbhn,Zbil,gd,Option.bind_some,if_true,if_false,Bool.false_eq_true,Option.some.injEq] <;> decide
   ·rw [if_neg (by simpa using hz)]
    have hk:=Z7k ha hb na nb
    congr 1
    apply decide_eq_decide.2
    rw [hk]
    constructor
    ·intro h;exact .inl h
    ·rintro (h | ⟨rfl,rfl⟩)
     ·exact h
     ·exact absurd ⟨rfl,rfl⟩ hz
theorem Zot {a b:Nat} (ha:a < 18446744073709551616) (hb:b < 18446744073709551616):Zdy a b=some (decide (keyf a=keyf b)):=by
 unfold Zdy
 rw [Zr4 ha hb,Zr4 hb ha]
 simp only [Option.bind_some,gd]
 by_cases h1:keyf a < keyf b
 ·have:keyf a ≠ keyf b:=by omega
  simp [h1,this]
 ·by_cases h2:keyf b < keyf a
  ·have:keyf a ≠ keyf b:=by omega
   simp [h1,h2,this]
  ·have:keyf a=keyf b:=by omega
   simp [this]
theorem Ztw {a:Nat} (ha:a < 18446744073709551616):Zgd a=some (decide (a=Zcl a)):=by
 unfold Zgd
 rw [Ztx ha]
 unfold Zcl NANB
 by_cases h:isn a
 ·by_cases h2:a=9221120237041090561
  ·simp [h,h2]
  ·have:(a:Int) ≠ 9221120237041090561:=by omega
   simp [h,h2,this]
 ·simp [h]
theorem wr {x:Int} (h1:-9223372036854775808 ≤ x) (h2:x ≤ 9223372036854775807):IntKind.i64.wrap x=x:=by
 rw [IntKind.wrap_i64];omega
theorem wr1 {i:Nat} (h:i < 9223372036854775807):IntKind.i64.wrap ((i:Int) + 1)=((i + 1:Nat):Int):=by
 rw [wr (by omega) (by omega)];omega
theorem Zsp (n:Int):IntKind.u64.wrap n=n % 18446744073709551616:=by simp [IntKind.wrap,IntKind.bits,IntKind.signed]
theorem wru {x:Int} (h1:0 ≤ x) (h2:x < 18446744073709551616):IntKind.u64.wrap x=x:=by rw [Zsp];omega
theorem wrm {i:Nat} (h:i < 9223372036854775807) (h0:0 < i):IntKind.i64.wrap ((i:Int) - 1)=((i - 1:Nat):Int):=by
 rw [wr (by omega) (by omega)];omega
theorem idxn {α:Type} (xs:List α) (i:Nat):idx xs (i:Int)=xs[i]?:=by
 unfold idx
 rw [if_pos (by omega)]
 simp
theorem Zc3 {α:Type} {xs:List α} {i:Nat} (h:i < xs.length):idx xs (i:Int)=some xs[i]:=by
 rw [idxn,List.getElem?_eq_getElem h]
theorem gd_t {β:Type} [Inhabited β] (x:Option β):gd true x=x:=rfl
theorem gd_f {β:Type} [Inhabited β] (x:Option β):gd false x=some default:=rfl
theorem Zlh {α:Type} {xs:List α} {l h:Nat} (h1:l ≤ h) (h2:h ≤ xs.length):cut xs (l:Int) (h:Int)=some ((xs.drop l).take (h - l)):=by
 unfold cut
 rw [if_pos (by omega)]
 simp
theorem Zy8 {a b:ByteArray} (h:a.toList=b.toList):a=b:=by
 rw [_root_.Go.ByteArray.toList_eq,_root_.Go.ByteArray.toList_eq] at h
 exact ByteArray.ext (Array.toList_inj.1 h)
theorem Zj2 {a b:ByteArray}:sEq a b=true ↔ a=b:=by
 unfold sEq
 constructor
 ·intro h;exact Zy8 (by simpa using h)
 ·rintro rfl;simp
theorem Zfj (a:ByteArray):sEq a a=true:=Zj2.2 rfl
theorem Zff {a b:ByteArray}:sEq a b=false ↔ a ≠ b:=by
 cases h:sEq a b
 ·simp;intro e;rw [Zj2.2 e] at h;cases h
 ·simp;exact Zj2.1 h
theorem Zbbj:∀ l:List UInt8,Op.bytesLess l l=false
 | []=>rfl
 | x :: l=>by simp [Op.bytesLess,Zbbj l]
theorem Z5e:∀ {a b c:List UInt8},Op.bytesLess a b=true → Op.bytesLess b c=true → Op.bytesLess a c=true
 | [],[],c,h,_=>by simp [Op.bytesLess] at h
 | [],y :: b,[],_,k=>by simp [Op.bytesLess] at k
 | [],y :: b,z :: c,_,_=>rfl
 | x :: a,[],c,h,_=>by simp [Op.bytesLess] at h
 | x :: a,y :: b,[],_,k=>by simp [Op.bytesLess] at k
 | x :: a,y :: b,z :: c,h,k=>by
  simp only [Op.bytesLess,Bool.or_eq_true,Bool.and_eq_true,decide_eq_true_eq,beq_iff_eq] at h k ⊢
  rcases h with h | ⟨h1,h2⟩ <;> rcases k with k | ⟨k1,k2⟩
  ·exact .inl (UInt8.lt_trans h k)
  ·subst k1;exact .inl h
  ·subst h1;exact .inl k
  ·subst h1;subst k1;exact .inr ⟨rfl,Z5e h2 k2⟩
theorem Zba1:∀ (a b:List UInt8),Op.bytesLess a b=false → a ≠ b → Op.bytesLess b a=true
 | [],[],_,h=>absurd rfl h
 | [],y :: b,h,_=>by simp [Op.bytesLess] at h
 | x :: a,[],_,_=>rfl
 | x :: a,y :: b,h,hn=>by
  simp only [Op.bytesLess,Bool.or_eq_false_iff,decide_eq_false_iff_not,Bool.and_eq_false_iff] at h
  simp only [Op.bytesLess,Bool.or_eq_true,Bool.and_eq_true,decide_eq_true_eq,beq_iff_eq]
  by_cases e:x=y
  ·subst e
   right
   refine ⟨rfl,Zba1 a b ?_ (fun h'=>hn (by rw [h']))⟩
   rcases h.2 with h | h
   ·simp at h
   ·exact h
  ·left
   rcases UInt8.lt_or_lt_of_ne e with h' | h'
   ·exact absurd h' h.1
   ·exact h'
theorem Zo6 (a:ByteArray):sLt a a=false:=Zbbj _
theorem Zhc {a b c:ByteArray} (h:sLt a b=true) (k:sLt b c=true):sLt a c=true:=Z5e h k
theorem Zp2 {a b:ByteArray} (h:sLt a b=false) (hn:a ≠ b):sLt b a=true:=Zba1 _ _ h (fun e=>hn (Zy8 e))
theorem Zx9 {a b:ByteArray} (h:sLt a b=true):sLt b a=false:=by
 cases k:sLt b a
 ·rfl
 ·have:=Zhc h k
  rw [Zo6] at this;cases this
theorem Zpu {a b:ByteArray} (h:sLt a b=true):a ≠ b:=fun e=>by subst e;rw [Zo6] at h;cases h
theorem Zqb {b:Nat} (hb:b < 18446744073709551616):(BitVec.ofInt 64 (b:Int)).toNat=b:=by
 rw [show BitVec.ofInt 64 (b:Int)=BitVec.ofNat 64 b from rfl]
 simp;omega
theorem u8w (x:Int):IntKind.u8.wrap x=x % 256:=by simp [IntKind.wrap,IntKind.bits,IntKind.signed]
theorem or8 {x:Int} (h:0 ≤ x):bOr .u8 (IntKind.u8.wrap x) 128=x % 128 + 128:=by
 have key:∀ n:Nat,n < 256 → bOr .u8 (n:Int) 128=(n:Int) % 128 + 128:=by decide +kernel
 have:=key (x % 256).toNat (by omega)
 rw [u8w,show x % 256=(((x % 256).toNat:Nat):Int) by omega,this]
 omega
theorem and8 {x:Int} (h:0 ≤ x) (h2:x < 256):bAnd .u8 x 127=x % 128:=by
 have key:∀ n:Nat,n < 256 → bAnd .u8 (n:Int) 127=(n:Int) % 128:=by decide +kernel
 have:=key x.toNat (by omega)
 rw [show x=((x.toNat:Nat):Int) by omega,this]
theorem orN {m n:Nat} (hm:m < 18446744073709551616) (hn:n < 18446744073709551616):bOr .u64 (m:Int) (n:Int)=((m ||| n:Nat):Int):=by
 have h:=Nat.or_lt_two_pow (n:=64) hm hn
 unfold bOr
 show IntKind.wrap .u64 ((BitVec.ofInt 64 (m:Int) ||| BitVec.ofInt 64 (n:Int)).toNat:Int)=_
 rw [BitVec.toNat_or,Zqb hm,Zqb hn,Zsp]
 omega
theorem Zbbx {m a i:Nat} (hm:m < 2 ^ i) (h:m + a * 2 ^ i < 18446744073709551616):bOr .u64 (m:Int) ((a * 2 ^ i:Nat):Int)=((m + a * 2 ^ i:Nat):Int):=by
 rw [orN (by omega) (by omega),Nat.or_comm,Nat.mul_comm,← Nat.two_pow_add_eq_or_of_lt hm,Nat.add_comm]
theorem Zbfi {m a i:Nat} (hm:m < 2 ^ i) (h:m + a * 2 ^ i < 18446744073709551616):bOr .u64 ((a * 2 ^ i:Nat):Int) (m:Int)=((m + a * 2 ^ i:Nat):Int):=by
 rw [orN (by omega) (by omega),Nat.mul_comm,← Nat.two_pow_add_eq_or_of_lt hm,Nat.add_comm]
theorem Zbfs {m:Nat} (hm:m < 18446744073709551616):bAnd .u64 (m:Int) 1=((m % 2:Nat):Int):=by
 unfold bAnd
 show IntKind.wrap .u64 ((BitVec.ofInt 64 (m:Int) &&& BitVec.ofInt 64 1).toNat:Int)=_
 rw [BitVec.toNat_and,Zqb hm,show (BitVec.ofInt 64 1).toNat=1 from rfl,Nat.and_one_is_mod,Zsp]
 omega
theorem Z8e {m:Nat} (h1:9223372036854775808 ≤ m) (hm:m < 18446744073709551616):Zs3 .u64 (m:Int) 9223372036854775808=((m - 9223372036854775808:Nat):Int):=by
 unfold Zs3
 show IntKind.wrap .u64 ((BitVec.ofInt 64 (m:Int) &&& ~~~BitVec.ofInt 64 9223372036854775808).toNat:Int)=_
 rw [BitVec.toNat_and,Zqb hm,show (~~~BitVec.ofInt 64 9223372036854775808).toNat=2 ^ 63 - 1 from by decide,Nat.and_two_pow_sub_one_eq_mod,Zsp]
 omega
theorem Zbas (k:IntKind) (m n:Int):bXor k m n=bXor k n m:=by unfold bXor;rw [BitVec.xor_comm]
theorem Zbcw {m:Nat} (hm:m < 18446744073709551616):bXor .u64 (m:Int) 0=m:=by
 unfold bXor
 show IntKind.wrap .u64 ((BitVec.ofInt 64 (m:Int) ^^^ BitVec.ofInt 64 0).toNat:Int)=_
 rw [show BitVec.ofInt 64 0=0#64 from rfl,BitVec.xor_zero,Zqb hm,Zsp]
 omega
def zig (x:Int):Nat:=if 0 ≤ x then (2 * x).toNat else (-2 * x - 1).toNat
theorem Z49 {x:Int} (h1:-9223372036854775808 ≤ x) (h2:x ≤ 9223372036854775807):zig x < 18446744073709551616:=by unfold zig;split <;> omega
theorem Zbhp {x:Int} (h1:-9223372036854775808 ≤ x) (h2:x ≤ 9223372036854775807):bXor .u64 (IntKind.u64.wrap ((IntKind.u64.wrap x) * 2 ^ 1)) (IntKind.u64.wrap (Int.fdiv x (2 ^ 63)))=(zig x:Nat):=by
 rw [Int.fdiv_eq_ediv_of_nonneg _ (by decide),Zsp,Zsp,Zsp]
 unfold zig
 by_cases h:0 ≤ x
 ·rw [if_pos h,show (x % 18446744073709551616 * 2 ^ 1) % 18446744073709551616=(((2 * x).toNat:Nat):Int) by omega,show (x / 2 ^ 63) % 18446744073709551616=0 by omega,Zbcw (by omega)]
 ·rw [if_neg h,show (x % 18446744073709551616 * 2 ^ 1) % 18446744073709551616=(((18446744073709551616 + 2 * x).toNat:Nat):Int) by omega,show (x / 2 ^ 63) % 18446744073709551616=IntKind.u64.max by
   show _=(18446744073709551615:Int)
   omega,Zbas,Z00 (by omega)]
  omega
theorem Zbht {x:Int} (h1:-9223372036854775808 ≤ x) (h2:x ≤ 9223372036854775807):bXor .i64 (IntKind.i64.wrap (Int.fdiv ((zig x:Nat):Int) (2 ^ 1))) (IntKind.i64.wrap (0 - (IntKind.i64.wrap (bAnd .u64 ((zig x:Nat):Int) (1:Int)))))=x:=by
 have hz:=Z49 h1 h2
 rw [Zbfs hz,Int.fdiv_eq_ediv_of_nonneg _ (by decide)]
 unfold zig
 by_cases h:0 ≤ x
 ·rw [if_pos h,show ((((2 * x).toNat:Nat):Int) / 2 ^ 1)=((x.toNat:Nat):Int) by omega,show (2 * x).toNat % 2=0 by omega,show IntKind.i64.wrap (0 - IntKind.i64.wrap ((0:Nat):Int))=0 by decide,wr (by omega) (by omega)]
  unfold bXor
  show IntKind.wrap .i64 ((BitVec.ofInt 64 ((x.toNat:Nat):Int) ^^^ BitVec.ofInt 64 0).toNat:Int)=_
  rw [show BitVec.ofInt 64 0=0#64 from rfl,BitVec.xor_zero,Zqb (by omega),wr (by omega) (by omega)]
  omega
 ·rw [if_neg h,show ((((-2 * x - 1).toNat:Nat):Int) / 2 ^ 1)=(((-x - 1).toNat:Nat):Int) by omega,show (-2 * x - 1).toNat % 2=1 by omega,show IntKind.i64.wrap (0 - IntKind.i64.wrap ((1:Nat):Int))=-1 by decide,wr (by omega) (by omega)]
  unfold bXor
  show IntKind.wrap .i64 ((BitVec.ofInt 64 (((-x - 1).toNat:Nat):Int) ^^^ BitVec.ofInt 64 (-1)).toNat:Int)=_
  rw [show BitVec.ofInt 64 (-1)=BitVec.allOnes 64 by decide,BitVec.xor_allOnes,BitVec.toNat_not,Zqb (by omega)]
  have e:((2 ^ 64 - 1 - (-x - 1).toNat:Nat):Int)=18446744073709551616 + x:=by omega
  rw [e]
  simp [IntKind.wrap,IntKind.signed,IntKind.bits]
  omega
theorem Zwk {x:Nat} (hx:x < 18446744073709551616) (hc:x=Zcl x):∃ k:Nat,keyf x=k ∧ k < 18446744073709551616 ∧ Zp8 (k:Int)=some (x,true):=by
 have hk:keyf x=if TOP ≤ x then 18446744073709551615 - (x:Int) else x + 9223372036854775808:=by
  unfold keyf
  by_cases h:isn x
  ·rw [if_pos h]
   unfold Zcl at hc;rw [if_pos h] at hc
   subst hc;decide
  ·rw [if_neg h]
 have hkey:=Zs5 hx
 rw [hk] at hkey ⊢
 by_cases h:TOP ≤ x
 ·rw [if_pos h] at hkey ⊢
  unfold TOP at h
  refine ⟨18446744073709551615 - x,by omega,by omega,?_⟩
  unfold Zp8 Zmu
  rw [Z0m (by omega),decide_eq_false (by unfold TOP;omega),if_neg (by simp),Z00 (by omega),show ((18446744073709551615:Int) - ((18446744073709551615 - x:Nat):Int)).toNat=x by omega,hkey,Option.bind_some,if_neg (by simp;omega)]
 ·rw [if_neg h] at hkey ⊢
  unfold TOP at h
  refine ⟨x + 9223372036854775808,by omega,by omega,?_⟩
  unfold Zp8 Zmu
  rw [Z0m (by omega),decide_eq_true (by unfold TOP;omega),if_pos rfl,Z8e (by omega) (by omega),show (((x + 9223372036854775808 - 9223372036854775808:Nat):Int)).toNat=x by omega,hkey,Option.bind_some,if_neg (by simp)]
theorem Z5a:∀ (l:List UInt8) (r:ByteArray),((l.map fun b=>(b.toNat:Int)).foldl (fun r n=>r.push (UInt8.ofNat n.toNat)) r).data.toList=r.data.toList ++ l
 | [],r=>by simp
 | b :: l,r=>by
  simp only [List.map_cons,List.foldl_cons]
  rw [Z5a l]
  simp [ByteArray.push]
theorem Zbcg (s:ByteArray):bstr (bts s)=s:=by
 have h:=Z5a s.data.toList ByteArray.empty
 have h2:(bstr (bts s)).data.toList=s.data.toList:=by
  unfold bstr bts
  rw [h];rfl
 cases hs:bstr (bts s) with
 | mk d =>
  cases s with
  | mk e =>
   rw [hs] at h2
   exact congrArg ByteArray.mk (Array.toList_inj.1 h2)
def Puts (put:Zn → Option Zn) (bs:List Int):Prop:=∀ b:List Int,b.length + bs.length ≤ 1000000000 → put ⟨b⟩=some ⟨b ++ bs⟩
def Zph {α:Type} (take:Ze → Option (α × Ze)) (bs:List Int) (x:α):Prop:=∀ (X:List Int) (i:Nat) (post:List Int),X.length ≤ 1000000000 → X.drop i=bs ++ post → take ⟨X,(i:Int)⟩=some (x,⟨X,((i + bs.length:Nat):Int)⟩)
theorem Zdm {X bs post:List Int} {i:Nat} (h:X.drop i=bs ++ post):X.drop (i + bs.length)=post:=by
 rw [← List.drop_drop,h,List.drop_left]
theorem Z5o {X bs post:List Int} {i:Nat} (h:X.drop i=bs ++ post) (h0:0 < bs.length):i + bs.length ≤ X.length:=by
 have:=congrArg List.length h
 simp at this;omega
theorem Zzp {X post:List Int} {b:Int} {i:Nat} (hX:X.length ≤ 1000000000) (h:X.drop i=b :: post):Zhp ⟨X,(i:Int)⟩=some (b,⟨X,((i + 1:Nat):Int)⟩):=by
 have hl:=Z5o (bs:=[b]) (post:=post) h (by simp)
 simp only [List.length_singleton] at hl
 unfold Zhp Zi1
 have e:IntKind.i64.wrap ((i:Int) + 1)=((i + 1:Nat):Int):=wr1 (by omega)
 have e2:IntKind.i64.wrap ((((i + 1:Nat):Int)) - 1)=(i:Int):=by rw [wrm (by omega) (by omega)];rfl
 rw [if_neg (by simp;omega)]
 simp only [e,e2]
 rw [idxn,show X[i]?=some b by
  have:=congrArg (·[0]?) h
  simpa using this]
 rfl
def enc:Nat → Nat → List Int
 | 0,v=>[(v:Int)]
 | n + 1,v=>if 128 ≤ v then ((v % 128 + 128:Nat):Int) :: enc n (v / 128) else [(v:Int)]
theorem Z73:∀ n v,1 ≤ (enc n v).length ∧ (enc n v).length ≤ n + 1
 | 0,v=>by simp [enc]
 | n + 1,v=>by
  unfold enc
  split
  ·have:=Z73 n (v / 128);simp;omega
  ·simp
theorem Z9z {v:Nat} {b:List Int} {m:Nat} (hv:v < 128) (hb:b.length + 1 ≤ 1000000000):((Zfl (m + 1) (v:Int) ⟨b⟩).bind fun z7=>match z7 with | (y5,y6)=>(if (y6.b.length + ([(IntKind.u8.wrap y5)]:List Int).length) * 1 ≤ 140737488355328 then (some ({ b:=(y6.b ++ ([(IntKind.u8.wrap y5)]:List Int)) }:Zn)) else none))=some ⟨b ++ [(v:Int)]⟩:=by
 rw [Zfl,if_neg (by simp;omega),Option.bind_some]
 simp only []
 rw [if_pos (by simp;omega),u8w,show (v:Int) % 256=v by omega]
theorem Zbem:∀ (n m v:Nat) (b:List Int),n < m → v < 128 ^ (n + 1) → b.length + (enc n v).length ≤ 1000000000 → ((Zfl m (v:Int) ⟨b⟩).bind fun z7=>match z7 with | (y5,y6)=>(if (y6.b.length + ([(IntKind.u8.wrap y5)]:List Int).length) * 1 ≤ 140737488355328 then (some ({ b:=(y6.b ++ ([(IntKind.u8.wrap y5)]:List Int)) }:Zn)) else none))=some ⟨b ++ enc n v⟩
 | _,0,_,_,h,_,_=>by omega
 | 0,m + 1,v,b,h,hv,hb=>Z9z (by simpa using hv) (by simpa [enc] using hb)
 | n + 1,m + 1,v,b,h,hv,hb=>by
  by_cases h1:128 ≤ v
  ·have he:enc (n + 1) v=((v % 128 + 128:Nat):Int) :: enc n (v / 128):=by rw [enc,if_pos h1]
   rw [he] at hb ⊢
   simp only [List.length_cons] at hb
   rw [Zfl,if_pos (by simp;omega),if_pos (by simp;omega),or8 (by omega),Int.fdiv_eq_ediv_of_nonneg _ (by decide),show (v:Int) / 2 ^ 7=((v / 128:Nat):Int) by omega,show (v:Int) % 128 + 128=((v % 128 + 128:Nat):Int) by omega]
   rw [Zbem n m (v / 128) _ (by omega) (by rw [Nat.pow_succ] at hv;exact Nat.div_lt_of_lt_mul (by rw [Nat.mul_comm];exact hv)) (by simp;omega)]
   simp
  ·have he:enc (n + 1) v=[(v:Int)]:=by rw [enc,if_neg h1]
   rw [he] at hb ⊢
   exact Z9z (by omega) (by simpa using hb)
theorem Z3t {d j:Nat} (hj:j ≤ 9) (h:d * 128 ^ j < 18446744073709551616):IntKind.u64.wrap ((d:Int) * 2 ^ (min (Int.toNat ((7 * j:Nat):Int)) (IntKind.u64).bits))=((d * 2 ^ (7 * j):Nat):Int):=by
 have h2:(128:Nat) ^ j=2 ^ (7 * j):=by rw [Nat.pow_mul]
 rw [show min (Int.toNat ((7 * j:Nat):Int)) (IntKind.u64).bits=7 * j by
  show min _ 64=_
  omega,show ((d:Int) * 2 ^ (7 * j))=((d * 2 ^ (7 * j):Nat):Int) by simp]
 rw [h2] at h
 exact wru (by omega) (by omega)
theorem Z9s:∀ (n j m a v i:Nat) (X post:List Int),n + j ≤ 9 → n < m → a < 128 ^ j → v < 128 ^ (n + 1) → (0 < j → 0 < v) → a + v * 128 ^ j < 18446744073709551616 → X.length ≤ 1000000000 → X.drop i=enc n v ++ post →
  Zd9 m (a:Int) ((7 * j:Nat):Int) ⟨X,(i:Int)⟩=some (.inl (((a + v * 128 ^ j:Nat):Int),⟨X,((i + (enc n v).length:Nat):Int)⟩))
 | _,_,0,_,_,_,_,_,_,h,_,_,_,_,_,_=>by omega
 | n,j,m + 1,a,v,i,X,post,hj,hm,ha,hv,h0,ht,hX,hd=>by
  have hpj:0 < 128 ^ j:=Nat.pow_pos (by decide)
  have hp2:(128:Nat) ^ j=2 ^ (7 * j):=by rw [Nat.pow_mul]
  have last:v < 128 → enc n v=[(v:Int)] → Zd9 (m + 1) (a:Int) ((7 * j:Nat):Int) ⟨X,(i:Int)⟩=some (.inl (((a + v * 128 ^ j:Nat):Int),⟨X,((i + (enc n v).length:Nat):Int)⟩)):=fun hv1 he=>by
   rw [he] at hd ⊢
   rw [Zd9,Zzp hX hd,Option.bind_some]
   have hno:¬ (((((7 * j:Nat):Int)) == 63 && decide ((1:Int) < (v:Int)))=true):=by
    intro hc
    simp only [Bool.and_eq_true,beq_iff_eq,decide_eq_true_eq] at hc
    have hj9:j=9:=by omega
    subst hj9
    have:2 * 128 ^ 9 ≤ v * 128 ^ 9:=Nat.mul_le_mul_right _ (by omega)
    have e9:(2:Nat) * 128 ^ 9=18446744073709551616:=by decide
    omega
   have hle:v * 128 ^ j < 18446744073709551616:=by omega
   rw [if_neg hno,Zil,if_pos (by omega),if_neg (by simp;omega),if_neg (by simp;omega),Zkf,and8 (by omega) (by omega),show (v:Int) % 128=(v:Int) by omega,wru (x:=(v:Int)) (by omega) (by omega),Z3t (by omega) hle,Zbbx (by rw [← hp2];exact ha) (by rw [← hp2];exact ht),← hp2]
   rfl
  cases n with
  | zero=>exact last (by simpa using hv) rfl
  | succ n =>
   by_cases h1:128 ≤ v
   ·have he:enc (n + 1) v=((v % 128 + 128:Nat):Int) :: enc n (v / 128):=by rw [enc,if_pos h1]
    rw [he] at hd ⊢
    have hmod:(v % 128) * 128 ^ j ≤ v * 128 ^ j:=Nat.mul_le_mul_right _ (Nat.mod_le _ _)
    have hsum:v * 128 ^ j=(v % 128) * 128 ^ j + (v / 128) * 128 ^ (j + 1):=by
     rw [Nat.pow_succ,show v / 128 * (128 ^ j * 128)=(v / 128 * 128) * 128 ^ j by rw [Nat.mul_comm (128 ^ j),Nat.mul_assoc],← Nat.add_mul]
     congr 1;omega
    have ha2:a + (v % 128) * 128 ^ j < 128 ^ (j + 1):=by
     have:(v % 128) * 128 ^ j ≤ 127 * 128 ^ j:=Nat.mul_le_mul_right _ (by omega)
     rw [Nat.pow_succ];omega
    rw [Zd9,Zzp hX hd,Option.bind_some,if_neg (by simp;omega),Zil,if_pos (by omega),if_pos (by simp;omega),and8 (by omega) (by omega),show (((v % 128 + 128:Nat):Int)) % 128=((v % 128:Nat):Int) by omega,wru (x:=((v % 128:Nat):Int)) (by omega) (by omega),Z3t (by omega) (by omega),Zbbx (by rw [← hp2];exact ha) (by rw [← hp2];omega),← hp2,show IntKind.i64.wrap (((7 * j:Nat):Int) + 7)=((7 * (j + 1):Nat):Int) by rw [wr (by omega) (by omega)];omega]
    rw [Z9s n (j + 1) m _ (v / 128) (i + 1) X post (by omega) (by omega) ha2 (by rw [Nat.pow_succ] at hv;exact Nat.div_lt_of_lt_mul (by rw [Nat.mul_comm];exact hv)) (fun _=>by omega) (by omega) hX (by
     have:=Zdm (bs:=[((v % 128 + 128:Nat):Int)]) hd
     simpa using this)]
    rw [show a + v % 128 * 128 ^ j + v / 128 * 128 ^ (j + 1)=a + v * 128 ^ j by omega,show i + 1 + (enc n (v / 128)).length=i + (((v % 128 + 128:Nat):Int) :: enc n (v / 128)).length by simp;omega]
   ·exact last (by omega) (by rw [enc,if_neg h1])
abbrev W:Nat → List Int:=enc 9
theorem Zlj (v:Nat):1 ≤ (W v).length ∧ (W v).length ≤ 10:=Z73 9 v
theorem Zpl {v:Nat} (hv:v < 18446744073709551616):Puts (fun w=>Zdq w (v:Int)) (W v):=fun b hb=>by
 show Zdq ⟨b⟩ (v:Int)=_
 unfold Zdq
 exact Zbem 9 11 v b (by omega) (Nat.lt_trans hv (by decide)) hb
theorem Zz7 {v:Nat} (hv:v < 18446744073709551616):Zph Zi9 (W v) (v:Int):=fun X i post hX hd=>by
 unfold Zi9
 have:=Z9s 9 0 11 0 v i X post (by omega) (by omega) (by decide) (Nat.lt_trans hv (by decide)) (fun h=>by omega) (by simpa using hv) hX hd
 simp only [Nat.mul_zero,Nat.pow_zero,Nat.mul_one,Nat.zero_add] at this
 rw [show ((0:Nat):Int)=0 from rfl] at this
 rw [this];rfl
theorem Zl9 {v:Nat} {l:Int} (hv:(v:Int) ≤ l) (hl:l < 9223372036854775808):Zph (fun r=>Zdo r l) (W v) (v:Int):=fun X i post hX hd=>by
 show Zdo _ l=_
 unfold Zdo Zh8
 rw [Zz7 (v:=v) (by omega) X i post hX hd,Option.bind_some]
 simp only []
 rw [if_neg (by rw [show max l 0=l by omega,wru (by omega) (by omega)];simp;omega),wr (by omega) (by omega)]
theorem Zy1 {s:ByteArray} (hs:s.size < 1000000):Puts (fun w=>Zfp w s) (W s.size ++ bts s):=fun b hb=>by
 show Zfp _ s=_
 simp only [List.length_append,Zmz] at hb
 unfold Zfp
 rw [wru (by omega) (by omega),show Zdq ⟨b⟩ (s.size:Int)=some ⟨b ++ W s.size⟩ from Zpl (by omega) b (by omega),Option.bind_some]
 rw [if_pos (by simp;omega)]
 simp
theorem Zwl {s:ByteArray} {l:Int} (hs:(s.size:Int) ≤ l) (hl:l < 1000000):Zph (fun r=>Zem r l) (W s.size ++ bts s) s:=fun X i post hX hd=>by
 show Zem _ l=_
 have hW:=Zlj s.size
 have hln:=Z5o hd (by simp;omega)
 simp only [List.length_append,Zmz] at hln
 unfold Zem Zio
 rw [Zz7 (v:=s.size) (by omega) X i (bts s ++ post) hX (by simpa using hd),Option.bind_some]
 simp only []
 rw [if_neg (by rw [show max l 0=l by omega,wru (by omega) (by omega)];simp;omega),Option.bind_some]
 simp only []
 rw [wr (by omega) (by omega),if_neg (by rw [wru (by omega) (by omega)];simp;omega)]
 unfold Ziq
 simp only []
 rw [wr (x:=(s.size:Int)) (by omega) (by omega),show IntKind.i64.wrap (((i + (W s.size).length:Nat):Int) + (s.size:Int))=((i + (W s.size).length + s.size:Nat):Int) by rw [wr (by omega) (by omega)];omega,
  show IntKind.i64.wrap (((i + (W s.size).length + s.size:Nat):Int) - (s.size:Int))=((i + (W s.size).length:Nat):Int) by rw [wr (by omega) (by omega)];omega,Zlh (by omega) (by omega),Option.bind_some]
 have hd2:X.drop (i + (W s.size).length)=bts s ++ post:=Zdm (by simpa using hd)
 rw [hd2,show i + (W s.size).length + s.size - (i + (W s.size).length)=(bts s).length by rw [Zmz];omega,List.take_left,Zbcg]
 simp [Zmz,Nat.add_assoc]
abbrev fl (c:Bool):List Int:=[if c then 1 else 0]
theorem Zbab (c:Bool):Puts (fun w=>Zib w c) (fl c):=fun b hb=>by
 show Zib _ c=_
 unfold Zib
 simp only [List.length_singleton] at hb
 cases c
 ·rw [if_neg (by simp),if_pos (by simp;omega)];rfl
 ·rw [if_pos rfl,if_pos (by simp;omega)];rfl
theorem Z8n (c:Bool):Zph Zj6 (fl c) c:=fun X i post hX hd=>by
 unfold Zj6 Zh7
 rw [Zzp hX hd,Option.bind_some]
 cases c <;> simp
theorem Zyv {x:Int} (h1:-9223372036854775808 ≤ x) (h2:x ≤ 9223372036854775807):Puts (fun w=>Zfs w x) (W (zig x)):=fun b hb=>by
 show Zfs _ x=_
 unfold Zfs
 rw [Zbhp h1 h2,show Zdq ⟨b⟩ ((zig x:Nat):Int)=some ⟨b ++ W (zig x)⟩ from Zpl (Z49 h1 h2) b hb];rfl
theorem Zwm {x:Int} (h1:-9223372036854775808 ≤ x) (h2:x ≤ 9223372036854775807):Zph Zek (W (zig x)) x:=fun X i post hX hd=>by
 unfold Zek
 rw [Zz7 (Z49 h1 h2) X i post hX hd,Option.bind_some]
 simp only []
 rw [Zbht h1 h2]
def be (k:Nat):Nat → List Int
 | 0=>[]
 | j + 1=>((k / 2 ^ (8 * j) % 256:Nat):Int) :: be k j
theorem Z9q (k:Nat):∀ j,(be k j).length=j
 | 0=>rfl
 | j + 1=>by simp [be,Z9q k j]
theorem Zbew (k:Nat):∀ (j m:Nat) (b:List Int),j ≤ 8 → j < m → b.length + j ≤ 1000000000 → Zgi (k:Int) m (((8 * j:Nat):Int) - 8) ⟨b⟩=some ⟨b ++ be k j⟩
 | _,0,_,_,h,_=>by omega
 | 0,m + 1,b,_,_,_=>by rw [Zgi,if_neg (by simp)];simp [be]
 | j + 1,m + 1,b,hj,hm,hb=>by
  have e:IntKind.u8.wrap (Int.fdiv (k:Int) (2 ^ (min (Int.toNat (((8 * (j + 1):Nat):Int) - 8)) (IntKind.u64).bits)))=((k / 2 ^ (8 * j) % 256:Nat):Int):=by
   rw [show min (Int.toNat (((8 * (j + 1):Nat):Int) - 8)) (IntKind.u64).bits=8 * j by
    show min _ 64=_
    omega,Int.fdiv_eq_ediv_of_nonneg _ (by have:(0:Int) < 2 ^ (8 * j):=Int.pow_pos (by decide);omega),u8w,show ((k:Int) / 2 ^ (8 * j))=((k / 2 ^ (8 * j):Nat):Int) by simp]
   omega
  rw [Zgi,if_pos (by simp;omega),if_pos (by omega),e,if_pos (by simp;omega),wr (by omega) (by omega),show (((8 * (j + 1):Nat):Int) - 8 - 8)=((8 * j:Nat):Int) - 8 by omega,Zbew k j m _ (by omega) (by omega) (by simp;omega)]
  simp [be]
theorem Z9m {k:Nat} (hk:k < 18446744073709551616):∀ (j m i:Nat) (X post:List Int),j ≤ 8 → j < m → X.length ≤ 1000000000 → X.drop i=be k j ++ post → Zgb m ((k / 2 ^ (8 * j):Nat):Int) ((8 - j:Nat):Int) ⟨X,(i:Int)⟩=some ((k:Int),⟨X,((i + j:Nat):Int)⟩)
 | _,0,_,_,_,_,h,_,_=>by omega
 | 0,m + 1,i,X,post,_,_,_,_=>by rw [Zgb,if_neg (by simp)];simp
 | j + 1,m + 1,i,X,post,hj,hm,hX,hd=>by
  have hp:k / 2 ^ (8 * (j + 1))=k / 2 ^ (8 * j) / 256:=by rw [Nat.mul_add,Nat.pow_add,Nat.div_div_eq_div_mul]
  have hle:k / 2 ^ (8 * j) < 18446744073709551616:=Nat.lt_of_le_of_lt (Nat.div_le_self _ _) hk
  have e1:IntKind.u64.wrap (((k / 2 ^ (8 * (j + 1)):Nat):Int) * 2 ^ 8)=((k / 2 ^ (8 * j) / 256 * 2 ^ 8:Nat):Int):=by
   rw [hp]
   generalize k / 2 ^ (8 * j)=q at hle ⊢
   rw [wru (by omega) (by omega)];omega
  rw [Zgb,if_pos (by simp;omega),Zzp hX hd,Option.bind_some]
  simp only []
  rw [e1,wru (x:=((k / 2 ^ (8 * j) % 256:Nat):Int)) (by omega) (by omega),Zbfi (i:=8) (by omega) (by omega),show k / 2 ^ (8 * j) % 256 + k / 2 ^ (8 * j) / 256 * 2 ^ 8=k / 2 ^ (8 * j) by omega,show IntKind.i64.wrap (((8 - (j + 1):Nat):Int) + 1)=((8 - j:Nat):Int) by rw [wr (by omega) (by omega)];omega]
  rw [Z9m hk j m (i + 1) X post (by omega) (by omega) hX (by
   have:=Zdm (bs:=[((k / 2 ^ (8 * j) % 256:Nat):Int)]) hd
   simpa using this)]
  rw [show i + 1 + j=i + (j + 1) by omega]
def F8 (x:Nat):List Int:=be (keyf x).toNat 8
theorem Zvx (x:Nat):(F8 x).length=8:=Z9q _ _
theorem Z4e {x:Nat} (hx:x < 18446744073709551616) (hc:x=Zcl x):Puts (fun w=>Zfr w x) (F8 x):=fun b hb'=>by
 obtain ⟨k,e,hk,hb⟩:=Zwk hx hc
 rw [Zvx] at hb'
 show Zfr _ x=_
 unfold Zfr F8
 rw [Zs5 hx,Option.bind_some,e]
 have:=Zbew k 8 58 b (by omega) (by omega) hb'
 rw [show (Int.toNat ((56:Int) + 1 - (0:Int)) + 1)=58 from rfl,show (56:Int)=((8 * 8:Nat):Int) - 8 from rfl,this]
 rfl
theorem Z0l {x:Nat} (hx:x < 18446744073709551616) (hc:x=Zcl x):Zph Zgj (F8 x) x:=fun X i post hX hd=>by
 obtain ⟨k,e,hk,hb⟩:=Zwk hx hc
 unfold F8 at hd
 rw [e] at hd
 unfold Zgj Zj5
 have:=Z9m hk 8 9 i X post (by omega) (by omega) hX hd
 rw [show k / 2 ^ (8 * 8)=0 from Nat.div_eq_of_lt hk] at this
 rw [show (Int.toNat ((8:Int) - (0:Int)) + 1)=9 from rfl]
 rw [show ((0:Nat):Int)=0 from rfl] at this
 rw [this,Option.bind_some]
 simp only []
 rw [hb,Option.bind_some,if_neg (by simp),Zvx]
theorem Z1x {x:Nat} (hx:x < 18446744073709551616) (hc:x=Zcl x) (h:keyf x=keyf 0):x=0:=by
 obtain ⟨k,e,_,hb⟩:=Zwk hx hc
 obtain ⟨k2,e2,_,hb2⟩:=Zwk (x:=0) (by decide) (by decide)
 have:k=k2:=by rw [e,e2] at h;omega
 rw [this,hb2] at hb
 have:=Option.some.inj hb
 exact (congrArg Prod.fst this).symm
theorem Zmi {put:Zn → Option Zn} {bs:List Int} {β:Type} (h:Puts put bs) {b:List Int} (hb:b.length + bs.length ≤ 1000000000) (k:Zn → Option β):(put ⟨b⟩).bind k=k ⟨b ++ bs⟩:=by rw [h b hb];rfl
theorem optP {put:Zn → Option Zn} {bs:List Int} {β:Type} {c:Bool} (h:c=true → Puts put bs) (h0:c=false → bs=[]) {b:List Int} (hb:b.length + bs.length ≤ 1000000000) (k:Zn → Option β):(if c=true then (put ⟨b⟩).bind k else k ⟨b⟩)=k ⟨b ++ bs⟩:=by
 cases c with
 | true=>rw [if_pos rfl,Zmi (h rfl) hb]
 | false=>rw [if_neg (by simp),h0 rfl,List.append_nil]
theorem Zm9 {α β:Type} {take:Ze → Option (α × Ze)} {bs:List Int} {x:α} (h:Zph take bs x) {X post:List Int} {i:Nat} (hX:X.length ≤ 1000000000) (hd:X.drop i=bs ++ post) (K:α → Ze → Option β):(take ⟨X,(i:Int)⟩).bind (fun r=>K r.1 r.2)=K x ⟨X,((i + bs.length:Nat):Int)⟩:=by rw [h X i post hX hd];rfl
theorem optT {α β:Type} {take:Ze → Option (α × Ze)} {bs:List Int} {x:α} {c:Bool} {X post:List Int} {i:Nat} {Z:Option β} (K:α → Ze → Option β) (h:c=true → Zph take bs x) (h0:c=false → bs=[] ∧ Z=K x ⟨X,(i:Int)⟩) (hX:X.length ≤ 1000000000) (hd:X.drop i=bs ++ post) :
  (if c=true then (take ⟨X,(i:Int)⟩).bind (fun r=>K r.1 r.2) else Z)=K x ⟨X,((i + bs.length:Nat):Int)⟩:=by
 cases c with
 | true=>rw [if_pos rfl,Zm9 (h rfl) hX hd]
 | false =>
  obtain ⟨e1,e2⟩:=h0 rfl
  rw [if_neg (by simp),e2,e1];rfl
abbrev W64:Nat:=18446744073709551616
structure Zjq (a:Zb):Prop where
 real:a.Real < W64
 len:a.List.length < 4611686018427387904
 sc:∀ e ∈ a.List,e.Score < W64
def Zdt (a b:Zh):Bool:=if keyf a.Score=keyf b.Score then sLt a.Name b.Name else decide (keyf b.Score < keyf a.Score)
theorem Zsl {a b:Zh} (ha:a.Score < W64) (hb:b.Score < W64):Zl7 a b=some (Zdt a b):=by
 unfold Zl7 Zdt
 rw [Zrl ha hb,Z0x hb ha]
 by_cases h:keyf a.Score=keyf b.Score <;> simp [h]
theorem Z5u {a b:Zh} (ha:a.Score < W64) (hb:b.Score < W64):Zgs a b=some (Zdt a b):=by
 unfold Zgs Zdt
 rw [Zr4 hb ha,Zot ha hb]
 by_cases h:keyf a.Score=keyf b.Score
 ·simp [h]
 ·by_cases h2:keyf b.Score < keyf a.Score <;> simp [h,h2]
theorem Z71 {a:Nat} (ha:a < W64):Zip a=some (decide (keyf a=keyf 0)):=by
 unfold Zip
 rw [Zot ha (by decide)]
 rfl
def Zis (k:Int) (l:List Zh) (i:Nat):Int :=
 match l[i]? with
 | none=>0
 | some x =>
  let p:=(l[i - 1]?).getD default
  if (16:Int) < x.Name.size then 3
  else if (k=8 ∧ keyf x.Score ≠ keyf 0) ∨ x.Score ≠ Zcl x.Score then 4
  else if 0 < i ∧ k=8 ∧ sLt p.Name x.Name=false then 4
  else if 0 < i ∧ k=9 ∧ Zdt p x=false then 4
  else 0
theorem Zbal {k:Int} {l:List Zh} {i n:Nat} (hi:i < l.length) (hl:l.length < 4611686018427387904) (hs:∀ e ∈ l,e.Score < W64) :
  Zg1 k l (n + 1) (i:Int)=if Zis k l i=0 then Zg1 k l n ((i + 1:Nat):Int) else some (.inl (Zis k l i)):=by
 have hx:l[i].Score < W64:=hs _ (List.getElem_mem hi)
 rw [Zg1,if_pos (by simp;omega),Zc3 hi,wr1 (by omega)]
 simp only [Option.bind_some]
 rw [Zrl hx (by decide),Zvz hx]
 simp only [Zis,List.getElem?_eq_getElem hi]
 by_cases h1:(16:Int) < l[i].Name.size
 ·simp [h1]
 ·simp only [h1,decide_false,if_false,Bool.false_eq_true]
  have hz:((0:Nat):Int)=0:=rfl
  by_cases h0:0 < i
  ·have hp:i - 1 < l.length:=by omega
   have hps:l[i - 1].Score < W64:=hs _ (List.getElem_mem hp)
   have hd:(decide ((0:Int) < (i:Int)))=true:=by simp;omega
   rw [hd,wrm (by omega) h0,Zc3 hp]
   simp only [List.getElem?_eq_getElem hp,Option.getD_some,h0,true_and,Bool.true_and]
   by_cases h8:k=8
   ·subst h8
    simp only [beq_self_eq_true,gd_t,Option.bind_some,true_and,Bool.true_and]
    by_cases hk:keyf l[i].Score=keyf 0
    ·by_cases hc:l[i].Score=Zcl l[i].Score
     ·simp [hk,← hc,gd]
      cases sLt l[i - 1].Name l[i].Name <;> simp
     ·simp [hk,hc,gd]
    ·simp [hk,gd]
   ·have h8':(k == 8)=false:=by simpa using h8
    simp only [h8',h8,gd_f,gd_t,Option.bind_some,false_and,false_or,Bool.false_and,Bool.not_false,Bool.false_or]
    by_cases hc:l[i].Score=Zcl l[i].Score
    ·by_cases h9:k=9
     ·subst h9
      simp [← hc,gd,Zsl hps hx]
      cases Zdt l[i - 1] l[i] <;> simp
     ·simp [← hc,gd,h9]
    ·simp [hc]
  ·have h00:i=0:=by omega
   subst h00
   simp only [Nat.lt_irrefl,false_and,if_false,Int.ofNat_zero,Int.lt_irrefl,decide_false,Bool.false_and,gd_f,Option.bind_some,Int.natCast_zero]
   by_cases h8:k=8
   ·subst h8
    simp only [beq_self_eq_true,gd_t,Option.bind_some,true_and,Bool.true_and]
    by_cases hk:keyf l[0].Score=keyf 0
    ·by_cases hc:l[0].Score=Zcl l[0].Score
     ·simp [hk,← hc,gd]
     ·simp [hk,hc,gd]
    ·simp [hk,gd]
   ·have h8':(k == 8)=false:=by simpa using h8
    simp only [h8',h8,gd_f,gd_t,Option.bind_some,false_and,false_or,Bool.false_and,Bool.not_false,Bool.false_or]
    by_cases hc:l[0].Score=Zcl l[0].Score
    ·simp [← hc,gd]
    ·simp [hc]
theorem Zbb5 {k:Int} {l:List Zh} {i:Nat} (hi:i < l.length) (hl:l.length < 4611686018427387904) (hs:∀ e ∈ l,e.Score < W64):Zj3 k l (i:Int)=some (Zis k l i):=by
 have hx:l[i].Score < W64:=hs _ (List.getElem_mem hi)
 unfold Zj3
 rw [Zc3 hi]
 simp only [Option.bind_some]
 rw [Z71 hx,Ztw hx]
 simp only [Zis,List.getElem?_eq_getElem hi]
 by_cases h1:(16:Int) < l[i].Name.size
 ·simp [h1]
 ·simp only [h1,decide_false,if_false,Bool.false_eq_true]
  by_cases h0:0 < i
  ·have hp:i - 1 < l.length:=by omega
   have hps:l[i - 1].Score < W64:=hs _ (List.getElem_mem hp)
   have hd:(decide ((0:Int) < (i:Int)))=true:=by simp;omega
   rw [hd,wrm (by omega) h0,Zc3 hp]
   simp only [List.getElem?_eq_getElem hp,Option.getD_some,h0,true_and,Bool.true_and]
   by_cases h8:k=8
   ·subst h8
    simp only [beq_self_eq_true,gd_t,Option.bind_some,true_and,Bool.true_and]
    by_cases hk:keyf l[i].Score=keyf 0
    ·by_cases hc:l[i].Score=Zcl l[i].Score
     ·simp [hk,← hc,gd]
      cases sLt l[i - 1].Name l[i].Name <;> simp
     ·simp [hk,hc,gd]
    ·simp [hk,gd]
   ·have h8':(k == 8)=false:=by simpa using h8
    simp only [h8',h8,gd_f,gd_t,Option.bind_some,false_and,false_or,Bool.false_and,Bool.not_false,Bool.false_or]
    by_cases hc:l[i].Score=Zcl l[i].Score
    ·by_cases h9:k=9
     ·subst h9
      simp [← hc,gd,Z5u hps hx]
      cases Zdt l[i - 1] l[i] <;> simp
     ·simp [← hc,gd,h9]
    ·simp [hc]
  ·have h00:i=0:=by omega
   subst h00
   simp only [Nat.lt_irrefl,false_and,if_false,Int.ofNat_zero,Int.lt_irrefl,decide_false,Bool.false_and,gd_f,Option.bind_some,Int.natCast_zero]
   by_cases h8:k=8
   ·subst h8
    simp only [beq_self_eq_true,gd_t,Option.bind_some,true_and,Bool.true_and]
    by_cases hk:keyf l[0].Score=keyf 0
    ·by_cases hc:l[0].Score=Zcl l[0].Score
     ·simp [hk,← hc,gd]
     ·simp [hk,hc,gd]
    ·simp [hk,gd]
   ·have h8':(k == 8)=false:=by simpa using h8
    simp only [h8',h8,gd_f,gd_t,Option.bind_some,false_and,false_or,Bool.false_and,Bool.not_false,Bool.false_or]
    by_cases hc:l[0].Score=Zcl l[0].Score
    ·simp [← hc,gd]
    ·simp [hc]
def Zkt (k:Int) (l:List Zh):Nat → Nat → Int
 | _,0=>0
 | i,n + 1=>if Zis k l i=0 then Zkt k l (i + 1) n else Zis k l i
def endC (c:Int):Int ⊕ Unit:=if c=0 then .inr () else .inl c
theorem Zx7 {k:Int} {l:List Zh} {i n:Nat} (h:Zis k l i=0):Zkt k l i (n + 1)=Zkt k l (i + 1) n:=by simp [Zkt,h]
theorem Zyj {k:Int} {l:List Zh} {i n:Nat} (h:¬ Zis k l i=0):Zkt k l i (n + 1)=Zis k l i:=by simp [Zkt,h]
theorem Zbbm {c:Int} (h:¬ c=0):endC c=.inl c:=if_neg h
theorem Zzw {k:Int} {l:List Zh} (hl:l.length < 4611686018427387904) (hs:∀ e ∈ l,e.Score < W64):∀ (n i:Nat),i + n=l.length →
  Zg1 k l (n + 1) (i:Int)=some (endC (Zkt k l i n))
 | 0,i,h=>by
  rw [Zg1,if_neg (by simp;omega)]
  rfl
 | n + 1,i,h=>by
  rw [Zbal (by omega) hl hs]
  by_cases hc:Zis k l i=0
  ·rw [if_pos hc,Zx7 hc,Zzw hl hs n (i + 1) (by omega)]
  ·rw [if_neg hc,Zyj hc,Zbbm hc]
theorem Zbdr {k:Int} {l:List Zh} (hl:l.length < 4611686018427387904) (hs:∀ e ∈ l,e.Score < W64):Zq5 k l=some (Zkt k l 0 l.length):=by
 unfold Zq5
 rw [show (Int.toNat ((l.length:Int) - (0:Int)) + 1)=l.length + 1 by omega,show (0:Int)=((0:Nat):Int) from rfl,Zzw hl hs l.length 0 (by omega)]
 unfold endC
 by_cases h:Zkt k l 0 l.length=0 <;> simp [h]
theorem Zxr {a:Zb} (ha:Zjq a):∀ (n i:Nat),i + n=a.List.length →
  Zes a (n + 1) (i:Int)=some (endC (Zkt a.Kind a.List i n))
 | 0,i,h=>by
  rw [Zes,if_neg (by simp;omega)]
  rfl
 | n + 1,i,h=>by
  have hl:=ha.len
  rw [Zes,if_pos (by simp;omega),Zbb5 (by omega) hl ha.sc,wr1 (by omega)]
  simp only [Option.bind_some]
  by_cases hc:Zis a.Kind a.List i=0
  ·rw [if_neg (by simp [hc]),Zx7 hc,Zxr ha n (i + 1) (by omega)]
  ·rw [if_pos (by simp [hc]),Zyj hc,Zbbm hc]
def Zh5 (t n b r l:Bool) (a:Zb):Bool:=(t || sEq a.Text ⟨#[]⟩) && (n || a.Num == 0) && (b || (a.Low == 0 && a.High == 0)) && (r || decide (keyf a.Real=keyf 0)) && (l || (a.Cap == 0 && (a.List.length:Int) == 0))
theorem Zbfd {a:Zb} (ha:Zjq a) (t n b r l:Bool):Zrw a ⟨t,n,b,r,l⟩=some (Zh5 t n b r l a):=by
 unfold Zrw Zh5
 rw [Zrl ha.real (by decide)]
 simp only
 generalize sEq a.Text ⟨#[]⟩=x1
 generalize (a.Num == 0)=x2
 generalize (a.Low == 0)=x3
 generalize (a.High == 0)=x4
 generalize decide (keyf a.Real=keyf 0)=x5
 generalize (a.Cap == 0)=x6
 generalize ((a.List.length:Int) == 0)=x7
 revert t n b r l x1 x2 x3 x4 x5 x6 x7
 decide
theorem Zbfa {a:Zb} (ha:Zjq a) {s:ByteArray} {t n b r l:Bool} (h:Zdb s (Int.toNat ((s.size:Int) - (0:Int)) + 1) false false false false false 0=some (t,n,b,r,l)):Zj7 a s=some (Zh5 t n b r l a):=by
 unfold Zj7 Zh5
 rw [h,Z71 ha.real]
 simp only [Option.bind_some,bne]
 generalize sEq a.Text ⟨#[]⟩=x1
 generalize (a.Num == 0)=x2
 generalize (a.Low == 0)=x3
 generalize (a.High == 0)=x4
 generalize decide (keyf a.Real=keyf 0)=x5
 generalize (a.Cap == 0)=x6
 generalize ((a.List.length:Int) == 0)=x7
 clear h
 revert t n b r l x1 x2 x3 x4 x5 x6 x7
 decide
theorem Zbiy:Zdb ⟨#[116]⟩ (Int.toNat (((⟨#[116]⟩:ByteArray).size:Int) - (0:Int)) + 1) false false false false false 0=some (true,false,false,false,false):=by kernel_rfl
theorem Zbeb:Zdb ⟨#[110]⟩ (Int.toNat (((⟨#[110]⟩:ByteArray).size:Int) - (0:Int)) + 1) false false false false false 0=some (false,true,false,false,false):=by kernel_rfl
theorem Zbg4:Zdb ⟨#[110,98]⟩ (Int.toNat (((⟨#[110,98]⟩:ByteArray).size:Int) - (0:Int)) + 1) false false false false false 0=some (false,true,true,false,false):=by kernel_rfl
theorem Z8q:Zdb ⟨#[114]⟩ (Int.toNat (((⟨#[114]⟩:ByteArray).size:Int) - (0:Int)) + 1) false false false false false 0=some (false,false,false,true,false):=by kernel_rfl
theorem Zbd2:Zdb ⟨#[108]⟩ (Int.toNat (((⟨#[108]⟩:ByteArray).size:Int) - (0:Int)) + 1) false false false false false 0=some (false,false,false,false,true):=by kernel_rfl
def Zs9 (t n b r l:Bool) (a:Zb):Int :=
 if Zh5 t n b r l a=false then 4
 else if (64:Int) < a.Text.size then 3
 else if b=true ∧ (a.Low < -2305843009213693952 ∨ 2305843009213693952 < a.High ∨ a.Num < a.Low ∨ a.High < a.Num) then 1
 else if a.Real ≠ Zcl a.Real then 4
 else if l=false then 0
 else if a.Cap < 1 ∨ 32 < a.Cap then 1
 else if a.Cap < a.List.length then 8
 else Zkt a.Kind a.List 0 a.List.length
theorem Zhk {a:Zb} (ha:Zjq a) {t n b r l:Bool} (hk:¬ (a.Kind ≤ 0 ∨ 10 ≤ a.Kind)) (hs:Zd3 a.Kind=some ⟨t,n,b,r,l⟩):Zd5 a=some (Zs9 t n b r l a):=by
 unfold Zd5 Zs9
 rw [hs]
 simp only [Option.bind_some]
 rw [Zbfd ha,Zvz ha.real,Zbdr ha.len ha.sc]
 simp only [Option.bind_some]
 rw [if_neg (by simpa using hk)]
 by_cases h1:Zh5 t n b r l a=false
 ·rw [if_pos h1,if_pos (by simp [h1])]
 ·rw [if_neg h1,if_neg (by simpa using h1)]
  by_cases h2:(64:Int) < a.Text.size
  ·rw [if_pos h2,if_pos (by simpa using h2)]
  ·rw [if_neg h2,if_neg (by simpa using h2)]
   by_cases h3:b=true ∧ (a.Low < -2305843009213693952 ∨ 2305843009213693952 < a.High ∨ a.Num < a.Low ∨ a.High < a.Num)
   ·rw [if_pos h3,if_pos (by simpa [or_assoc] using h3)]
   ·rw [if_neg h3,if_neg (by simpa [or_assoc] using h3)]
    by_cases h4:a.Real=Zcl a.Real
    ·rw [if_neg (show ¬ (a.Real ≠ Zcl a.Real) from fun h=>h h4),decide_eq_true h4]
     simp only [Bool.not_true,Bool.false_eq_true,if_false]
     cases l
     ·simp
     ·simp only [Bool.not_true,Bool.false_eq_true,if_false,Bool.true_eq_false]
      by_cases h5:a.Cap < 1 ∨ 32 < a.Cap
      ·rw [if_pos h5,if_pos (by simpa using h5)]
      ·rw [if_neg h5,if_neg (by simpa using h5)]
       by_cases h6:a.Cap < a.List.length
       ·rw [if_pos h6,if_pos (by simpa using h6)]
       ·rw [if_neg h6,if_neg (by simpa using h6)]
    ·rw [if_pos (show a.Real ≠ Zcl a.Real from h4),decide_eq_false h4]
     rfl
theorem Z3q:Zd3 1=some ⟨true,false,false,false,false⟩:=by kernel_rfl
theorem Z4y:Zd3 2=some ⟨false,true,false,false,false⟩:=by kernel_rfl
theorem Z5s:Zd3 3=some ⟨false,true,false,false,false⟩:=by kernel_rfl
theorem Z3r:Zd3 4=some ⟨false,true,true,false,false⟩:=by kernel_rfl
theorem Z42:Zd3 5=some ⟨false,false,false,true,false⟩:=by kernel_rfl
theorem Z4f:Zd3 6=some ⟨false,false,false,true,false⟩:=by kernel_rfl
theorem Z4n:Zd3 7=some ⟨false,false,false,true,false⟩:=by kernel_rfl
theorem Z4s:Zd3 8=some ⟨false,false,false,false,true⟩:=by kernel_rfl
theorem Z5g:Zd3 9=some ⟨false,false,false,false,true⟩:=by kernel_rfl
def Zwj (t n b r l:Bool) (k:Int) (a:Zb):Int :=
 if Zh5 t n b r l a=false then 4
 else if k=1 ∧ (64:Int) < a.Text.size then 3
 else if k=4 ∧ (a.Low < -2305843009213693952 ∨ 2305843009213693952 < a.High ∨ a.Num < a.Low ∨ a.High < a.Num) then 1
 else if a.Real ≠ Zcl a.Real then 4
 else if k < 8 then 0
 else if a.Cap < 1 ∨ 32 < a.Cap then 1
 else if a.Cap < a.List.length then 8
 else Zkt a.Kind a.List 0 a.List.length
theorem Zhs {a:Zb} (ha:Zjq a) {t n b r l:Bool} {s:ByteArray} (hk:¬ (a.Kind < 1 ∨ 9 < a.Kind)) (hf:Zkr a.Kind=some s)
  (ho:Zdb s (Int.toNat ((s.size:Int) - (0:Int)) + 1) false false false false false 0=some (t,n,b,r,l)):Zd2 a=some (Zwj t n b r l a.Kind a):=by
 unfold Zd2 Zwj
 have hw:IntKind.i64.wrap (0 - (2305843009213693952:Int))=-2305843009213693952:=by decide
 rw [hf,Ztw ha.real,hw,show (Int.toNat ((a.List.length:Int) - (0:Int)) + 1)=a.List.length + 1 by omega]
 have hloop:=Zxr ha a.List.length 0 (by omega)
 rw [show ((0:Nat):Int)=0 from rfl] at hloop
 rw [hloop]
 simp only [Option.bind_some]
 rw [if_neg (by simpa using hk),Zbfa ha ho]
 simp only [Option.bind_some]
 by_cases h1:Zh5 t n b r l a=false
 ·rw [if_pos h1,if_pos (by simp [h1])]
 ·rw [if_neg h1,if_neg (by simpa using h1)]
  by_cases h2:a.Kind=1 ∧ (64:Int) < a.Text.size
  ·rw [if_pos h2,if_pos (by simpa using h2)]
  ·rw [if_neg h2,if_neg (by simpa using h2)]
   by_cases h3:a.Kind=4 ∧ (a.Low < -2305843009213693952 ∨ 2305843009213693952 < a.High ∨ a.Num < a.Low ∨ a.High < a.Num)
   ·rw [if_pos h3,if_pos (by simpa [or_assoc] using h3)]
   ·rw [if_neg h3,if_neg (by simpa [or_assoc] using h3)]
    by_cases h4:a.Real=Zcl a.Real
    ·rw [if_neg (show ¬ (a.Real ≠ Zcl a.Real) from fun h=>h h4),decide_eq_true h4]
     simp only [Bool.not_true,Bool.false_eq_true,if_false]
     by_cases h7:a.Kind < 8
     ·rw [if_pos h7,if_pos (by simpa using h7)]
     ·rw [if_neg h7,if_neg (by simpa using h7)]
      by_cases h5:a.Cap < 1 ∨ 32 < a.Cap
      ·rw [if_pos h5,if_pos (by simpa using h5)]
      ·rw [if_neg h5,if_neg (by simpa using h5)]
       by_cases h6:a.Cap < a.List.length
       ·rw [if_pos h6,if_pos (by simpa using h6)]
       ·rw [if_neg h6,if_neg (by simpa using h6)]
        unfold endC
        by_cases h:Zkt a.Kind a.List 0 a.List.length=0 <;> simp [h]
    ·rw [if_pos (show a.Real ≠ Zcl a.Real from h4),decide_eq_false h4]
     rfl
theorem Zbfh {t n b r l:Bool} {a:Zb} (h:¬ Zh5 t n b r l a=false) (ht:t=false):a.Text.size=0:=by
 subst ht
 have:Zh5 false n b r l a=true:=by simpa using h
 unfold Zh5 at this
 simp only [Bool.false_or,Bool.and_eq_true] at this
 have:=Zj2.1 this.1.1.1.1
 rw [this];rfl
theorem D_eq (t n b r l:Bool) (k:Int) (a:Zb) (ht:t=true ↔ k=1) (hb:b=true ↔ k=4) (hl:l=false ↔ k < 8):Zwj t n b r l k a=Zs9 t n b r l a:=by
 unfold Zwj Zs9
 by_cases h1:Zh5 t n b r l a=false
 ·rw [if_pos h1,if_pos h1]
 ·rw [if_neg h1,if_neg h1]
  have e2:(k=1 ∧ (64:Int) < a.Text.size) ↔ (64:Int) < a.Text.size:=by
   constructor
   ·exact fun h=>h.2
   ·intro h
    refine ⟨ht.1 ?_,h⟩
    cases t
    ·have:=Zbfh h1 rfl;omega
    ·rfl
  simp only [e2,hb,hl]
theorem Zoc {a:Zb} (ha:Zjq a):∃ c,Zd5 a=some c ∧ Zd2 a=some c:=by
 by_cases hk:a.Kind ≤ 0 ∨ 10 ≤ a.Kind
 ·refine ⟨5,?_,?_⟩
  ·unfold Zd5
   have hs:∃ s,Zd3 a.Kind=some s:=by
    have h1:¬ a.Kind=1:=by omega
    have h2:¬ a.Kind=2:=by omega
    have h3:¬ a.Kind=3:=by omega
    have h4:¬ a.Kind=4:=by omega
    have h5:¬ a.Kind=5:=by omega
    have h6:¬ a.Kind=6:=by omega
    have h7:¬ a.Kind=7:=by omega
    have h8:¬ a.Kind=8:=by omega
    have h9:¬ a.Kind=9:=by omega
    exact ⟨⟨false,false,false,false,false⟩,by simp [Zd3,Zmr,Zkm,Zmq,h1,h2,h3,h4,h5,h6,h7,h8,h9]⟩
   obtain ⟨s,hs⟩:=hs
   rw [hs]
   simp only [Option.bind_some]
   rw [if_pos (by simpa using hk)]
  ·unfold Zd2
   rw [if_pos (by simp;omega)]
 ·have hk2:¬ (a.Kind < 1 ∨ 9 < a.Kind):=by omega
  have hk':a.Kind=1 ∨ a.Kind=2 ∨ a.Kind=3 ∨ a.Kind=4 ∨ a.Kind=5 ∨ a.Kind=6 ∨ a.Kind=7 ∨ a.Kind=8 ∨ a.Kind=9:=by omega
  rcases hk' with h | h | h | h | h | h | h | h | h
  ·exact ⟨_,Zhk ha hk (by rw [h];exact Z3q),by rw [Zhs ha hk2 (by rw [h];kernel_rfl) Zbiy,D_eq _ _ _ _ _ _ _ (by simp [h]) (by simp [h]) (by simp [h])]⟩
  ·exact ⟨_,Zhk ha hk (by rw [h];exact Z4y),by rw [Zhs ha hk2 (by rw [h];kernel_rfl) Zbeb,D_eq _ _ _ _ _ _ _ (by simp [h]) (by simp [h]) (by simp [h])]⟩
  ·exact ⟨_,Zhk ha hk (by rw [h];exact Z5s),by rw [Zhs ha hk2 (by rw [h];kernel_rfl) Zbeb,D_eq _ _ _ _ _ _ _ (by simp [h]) (by simp [h]) (by simp [h])]⟩
  ·exact ⟨_,Zhk ha hk (by rw [h];exact Z3r),by rw [Zhs ha hk2 (by rw [h];kernel_rfl) Zbg4,D_eq _ _ _ _ _ _ _ (by simp [h]) (by simp [h]) (by simp [h])]⟩
  ·exact ⟨_,Zhk ha hk (by rw [h];exact Z42),by rw [Zhs ha hk2 (by rw [h];kernel_rfl) Z8q,D_eq _ _ _ _ _ _ _ (by simp [h]) (by simp [h]) (by simp [h])]⟩
  ·exact ⟨_,Zhk ha hk (by rw [h];exact Z4f),by rw [Zhs ha hk2 (by rw [h];kernel_rfl) Z8q,D_eq _ _ _ _ _ _ _ (by simp [h]) (by simp [h]) (by simp [h])]⟩
  ·exact ⟨_,Zhk ha hk (by rw [h];exact Z4n),by rw [Zhs ha hk2 (by rw [h];kernel_rfl) Z8q,D_eq _ _ _ _ _ _ _ (by simp [h]) (by simp [h]) (by simp [h])]⟩
  ·exact ⟨_,Zhk ha hk (by rw [h];exact Z4s),by rw [Zhs ha hk2 (by rw [h];kernel_rfl) Zbd2,D_eq _ _ _ _ _ _ _ (by simp [h]) (by simp [h]) (by simp [h])]⟩
  ·exact ⟨_,Zhk ha hk (by rw [h];exact Z5g),by rw [Zhs ha hk2 (by rw [h];kernel_rfl) Zbd2,D_eq _ _ _ _ _ _ _ (by simp [h]) (by simp [h]) (by simp [h])]⟩
def endB:Bool → Bool ⊕ Unit
 | true=>.inr ()
 | false=>.inl false
def eqI (x y:Zh):Bool:=sEq x.Name y.Name && decide (keyf x.Score=keyf y.Score)
def eqL:List Zh → List Zh → Bool
 | [],[]=>true
 | x :: xs,y :: ys=>eqI x y && eqL xs ys
 | _,_=>false
def Zjl (a b:Zb):Bool:=(a.Kind == b.Kind) && (a.Num == b.Num) && (a.Low == b.Low) && (a.High == b.High) && decide (keyf a.Real=keyf b.Real) && (a.Cap == b.Cap) && sEq a.Text b.Text && eqL a.List b.List
theorem Zwt:∀ {a b:List Zh},eqL a b=true → a.length=b.length
 | [],[],_=>rfl
 | x :: xs,y :: ys,h=>by
  simp only [eqL,Bool.and_eq_true] at h
  simp [Zwt h.2]
 | [],_ :: _,h=>by simp [eqL] at h
 | _ :: _,[],h=>by simp [eqL] at h
theorem Zbc9 {x y:Zh} (hx:x.Score < W64) (hy:y.Score < W64):Zkq x y=some (eqI x y):=by
 unfold Zkq eqI
 rw [Zrl hx hy]
 cases sEq x.Name y.Name <;> simp [gd]
theorem Z3u {a b:List Zh} (ha:∀ e ∈ a,e.Score < W64) (hb:∀ e ∈ b,e.Score < W64) (hl:a.length < 4611686018427387904) (he:a.length=b.length):∀ (n i:Nat),i + n=a.length →
  Zbz a b (fun y0 y1=>Zkq y0 y1) (n + 1) (i:Int)=some (endB (eqL (a.drop i) (b.drop i)))
 | 0,i,h=>by
  rw [Zbz,if_neg (by simp;omega),List.drop_of_length_le (by omega),List.drop_of_length_le (by omega)]
  rfl
 | n + 1,i,h=>by
  have h1:i < a.length:=by omega
  have h2:i < b.length:=by omega
  rw [Zbz,if_pos (by simp;omega),Zc3 h1,Zc3 h2,wr1 (by omega)]
  simp only [Option.bind_some]
  rw [Zbc9 (ha _ (List.getElem_mem h1)) (hb _ (List.getElem_mem h2)),List.drop_eq_getElem_cons h1,List.drop_eq_getElem_cons h2]
  simp only [Option.bind_some,eqL]
  cases hq:eqI a[i] b[i]
  ·simp [endB]
  ·simp only [Bool.not_true,Bool.false_eq_true,if_false,Bool.true_and]
   exact Z3u ha hb hl he n (i + 1) (by omega)
theorem Zbhq {a b:List Zh} (ha:∀ e ∈ a,e.Score < W64) (hb:∀ e ∈ b,e.Score < W64) (hl:a.length < 4611686018427387904):Zco a b (fun y0 y1=>Zkq y0 y1)=some (eqL a b):=by
 unfold Zco
 by_cases he:a.length=b.length
 ·rw [if_neg (by simp;omega),show (Int.toNat ((a.length:Int) - (0:Int)) + 1)=a.length + 1 by omega]
  have:=Z3u ha hb hl he a.length 0 (by omega)
  rw [show ((0:Nat):Int)=0 from rfl] at this
  rw [this]
  simp only [List.drop_zero]
  cases eqL a b <;> simp [endB]
 ·rw [if_pos (by simp;omega)]
  cases h:eqL a b
  ·rfl
  ·exact absurd (Zwt h) he
theorem Z37 {a b:Zb} (ha:Zjq a) (hb:Zjq b):Zp5 a b=some (Zjl a b):=by
 unfold Zp5 Zjl
 rw [Zrl ha.real hb.real,Zbhq ha.sc hb.sc ha.len]
 generalize (a.Kind == b.Kind)=x1
 generalize (a.Num == b.Num)=x2
 generalize (a.Low == b.Low)=x3
 generalize (a.High == b.High)=x4
 generalize decide (keyf a.Real=keyf b.Real)=x5
 generalize (a.Cap == b.Cap)=x6
 generalize sEq a.Text b.Text=x7
 generalize eqL a.List b.List=x8
 revert x1 x2 x3 x4 x5 x6 x7 x8
 decide
theorem Zzy {a b:Zb} (ha:Zjq a) (hb:Zjq b) (he:a.List.length=b.List.length):∀ (n i:Nat),i + n=a.List.length →
  Ze3 a b (n + 1) (i:Int)=some (endB (eqL (a.List.drop i) (b.List.drop i)))
 | 0,i,h=>by
  rw [Ze3,if_neg (by simp;omega),List.drop_of_length_le (by omega),List.drop_of_length_le (by omega)]
  rfl
 | n + 1,i,h=>by
  have h1:i < a.List.length:=by omega
  have h2:i < b.List.length:=by omega
  have hl:=ha.len
  have hs1:=ha.sc _ (List.getElem_mem h1)
  have hs2:=hb.sc _ (List.getElem_mem h2)
  rw [Ze3,if_pos (by simp;omega),Zc3 h1,Zc3 h2,wr1 (by omega),List.drop_eq_getElem_cons h1,List.drop_eq_getElem_cons h2]
  simp only [Option.bind_some,eqL,eqI]
  cases hn:sEq a.List[i].Name b.List[i].Name
  ·simp [gd,endB]
  ·simp only [Bool.not_true,Bool.not_false,gd_t,Option.bind_some]
   rw [Zot hs1 hs2]
   simp only [Option.bind_some,Bool.false_or,Bool.true_and]
   by_cases hk:keyf a.List[i].Score=keyf b.List[i].Score
   ·simp only [hk,decide_true,Bool.not_true,Bool.false_eq_true,if_false,Bool.true_and]
    exact Zzy ha hb he n (i + 1) (by omega)
   ·simp [hk,endB]
theorem Zvn {a b:Zb} (ha:Zjq a) (hb:Zjq b):Zg9 a b=some (Zjl a b):=by
 unfold Zg9 Zjl
 rw [Zot ha.real hb.real]
 by_cases he:a.List.length=b.List.length
 ·have:=Zzy ha hb he a.List.length 0 (by omega)
  rw [show ((0:Nat):Int)=0 from rfl] at this
  rw [show (Int.toNat ((a.List.length:Int) - (0:Int)) + 1)=a.List.length + 1 by omega,this]
  have hn:((a.List.length:Int) != (b.List.length:Int))=false:=by simp;omega
  rw [hn]
  simp only [List.drop_zero,bne]
  generalize (a.Kind == b.Kind)=x1
  generalize (a.Num == b.Num)=x2
  generalize (a.Low == b.Low)=x3
  generalize (a.High == b.High)=x4
  generalize decide (keyf a.Real=keyf b.Real)=x5
  generalize (a.Cap == b.Cap)=x6
  generalize sEq a.Text b.Text=x7
  generalize eqL a.List b.List=x8
  clear this hn he
  revert x1 x2 x3 x4 x5 x6 x7 x8
  decide
 ·have h8:eqL a.List b.List=false:=by
   cases h:eqL a.List b.List
   ·rfl
   ·exact absurd (Zwt h) he
  have hn:((a.List.length:Int) != (b.List.length:Int))=true:=by simp;omega
  rw [hn,h8]
  simp only [bne,Bool.or_true,Option.bind_some,if_true,Bool.and_false,ite_self]
theorem Zz5 {a:Zb} (hl:a.List.length ≤ 9223372036854775807):∀ (n i:Nat),i + n=a.List.length → ∃ z,Zfe a (n + 1) (i:Int)=some z ∧ (z=.inl 1 ∨ z=.inr ())
 | 0,i,h=>by
  rw [Zfe,if_neg (by simp;omega)]
  exact ⟨_,rfl,.inr rfl⟩
 | n + 1,i,h=>by
  rw [Zfe,if_pos (by simp;omega),Zc3 (by omega),wr1 (by omega)]
  simp only [Option.bind_some]
  split
  ·exact ⟨_,rfl,.inl rfl⟩
  ·exact Zz5 hl n (i + 1) (by omega)
theorem Zber {a:Zb} (hl:a.List.length ≤ 9223372036854775807):∃ c,Zi6 a=some c ∧ (c=0 ∨ c=1) ∧ (c=0 → a.List.length ≤ 100):=by
 unfold Zi6
 by_cases h:(100:Int) < a.List.length ∨ (1000:Int) < a.Text.size
 ·rw [if_pos (by simpa using h)]
  exact ⟨1,rfl,.inr rfl,fun h=>by cases h⟩
 ·rw [if_neg (by simpa using h),show (Int.toNat ((a.List.length:Int) - (0:Int)) + 1)=a.List.length + 1 by omega]
  obtain ⟨z,hz,hc⟩:=Zz5 hl a.List.length 0 (by omega)
  rw [show ((0:Nat):Int)=0 from rfl] at hz
  rw [hz]
  rcases hc with rfl | rfl
  ·exact ⟨1,rfl,.inr rfl,fun h=>by cases h⟩
  ·exact ⟨0,rfl,.inl rfl,fun _=>by omega⟩
end Go.CL
