/- A part of the proof of HandSplit. -/
import Derived.Test.YtlanlccmokaajaaGreatDoorHandSplitC4
set_option linter.unusedVariables false
set_option linter.unusedSimpArgs false
set_option maxRecDepth 100000
namespace Go.CL
open Go Go.RowKit Go.Proofs
theorem Zku (h:Nat) (he:Zn Tryz.prog h) (ψ:Nat → Nat → Option Nat) (hψ:∀ x y z,ψ x y=some z → FnOk Tryz.prog h [pFlt x,pFlt y] (pFlt z)) (a0:Zb) (a1:Zm) (a2:Zc) {z:Nat} (hz:ψ a0.Real a1.X=some z):FnB Tryz.prog 135 [.box Ze a0 { a0 with Real:=z },.val (Zy.pd a1),.box Zj a2 a2,.val (Kd.fnc.ptr h)] (pInt .i64 0):=by
 refine Zkt (N:=19) Tryz.func135 rfl rfl (Qe rfl) rfl rfl (fun a g0 bs hbs hst hb=>?_)
 obtain ⟨b0,b2,rfl⟩:=Zmn hbs
 replace hst:St 19 [(0,(Zcb (some b0) Ze 0 a0)),(1,(Zy.pd a1)),(2,(Zcb (some b2) Zj 2 a2)),(3,(Kd.fnc.ptr h))] _ _:=hst
 refine r_s (T:=[⟨[.o 1],_,[],[],[5]⟩,⟨[],_,[],[],[7]⟩]) (F:=[.o 0,.o 2,.o 3,.p 0 0]) hst hb Za
  (Qb rfl u_0<|Qa rfl c_i<|o_n) (fun a g hst hb=>?_)
 refine r_s (T:=[⟨[.o 0],_,[],[],[8]⟩,⟨[.o 2],_,[],[],[9]⟩,⟨[.o 0],_,[],[],[10]⟩,⟨[.p 2 0],_,[],[2],[11]⟩,⟨[.p 3 0],_,[],[2,3],[12]⟩,⟨[.p 4 0],_,[],[2,3,4],[13]⟩,⟨[.o 3],_,[],[],[14]⟩,⟨[.p 6 0],_,[],[6],[15]⟩,⟨[.p 1 0,.p 5 0,.p 7 0],[(16,(pFlt z))],[],[1,2,3,4,5,6,7],[16]⟩,⟨[.p 0 0],_,[],[0,1,2,3,4,5,6,7,8],[17]⟩,⟨[.p 9 0],_,[],[0,1,2,3,4,5,6,7,8,9],[18]⟩,⟨[.p 8 0,.p 10 0,.o 0],_,[1],[0,1,2,3,4,5,6,7,8,9,10],[0,8,10,11,12,17,18]⟩]) (F:=[.p 11 0,.o 1]) hst hb Za
  (Qm rfl u_0<|Ql rfl Z9j u_0<|Qm rfl u_0<|o_p rfl (Zo rfl rfl u_0 (fun _ _ ⟨_,_,_,e,_⟩=>⟨_,e⟩))<|o_p rfl (Zr Zgi (off:=4) (by kernel_rfl) rfl rfl u_0)<|QP rfl Zc0 u_0<|Qf rfl Ziu u_0<|Ql rfl Zc0 u_0<|o_p rfl (Zrm (C:=[]) (hC:=rfl) he (hψ _ _ _ hz) rfl rfl (Opd.imp u_0 (fun _ _ h=>Z9k h)) (.cons u_1 (.cons u_2 .nil)))<|o_p rfl (Zo rfl rfl u_0 (fun _ _ ⟨_,_,_,e,_⟩=>⟨_,e⟩))<|o_p rfl (Zr Zgi (off:=4) (by kernel_rfl) rfl rfl u_0)<|o_p rfl (Zpo Zc0 rfl rfl u_2 u_1 u_0)<|o_n) (fun a g hst hb=>?_)
 refine r_s (T:=[⟨[],_,[],[],[7]⟩]) (F:=[.o 0,.o 1,.p 0 0]) hst hb Za
  (Qa rfl c_i<|o_n) (fun a g hst hb=>?_)
 refine wp_ret ?_
 exact Zit rfl hst hb (Zg (s:=7)) (hst.at 2 rfl) ⟨Zc5 (hst.at 0 rfl),Zc5 (hst.at 1 rfl),trivial⟩
theorem Zlv (h:Nat):FnOk Tryz.prog 120 [(Kd.fnc.pd h)] (pClo 135 [(Kd.fnc.ptr h)] rfl):=by
 refine Zbt (N:=4) Tryz.func120 rfl rfl (Qe rfl) rfl rfl (fun a g0 hst hb=>?_)
 refine r_s (T:=[⟨[.o 0],_,[],[],[1]⟩,⟨[],[],[],[],[2]⟩]) (F:=[.p 0 0]) hst hb Za
  (Qb rfl u_0<|o_p rfl (Z1b (.inr rfl))<|o_n) (fun a g hst hb=>?_)
 refine r_s (T:=[⟨[.o 0],[(3,(pClo 135 [(Kd.fnc.ptr h)] rfl))],[],[],[3]⟩,⟨[.p 0 0],_,[],[0],[2]⟩]) (F:=[.p 1 0]) hst hb Za
  (o_p rfl (Z1z rfl rfl (.cons u_0 .nil))<|Qa rfl u_0<|o_n) (fun a g hst hb=>?_)
 refine wp_ret ?_
 exact Z4 rfl hst hb (Zg (s:=2)) (hst.at 0 rfl)
theorem Z3r (a0:Nat) (a1:Nat) {r:Nat} (h:Zmk a0 a1=some r):FnOk Tryz.prog 121 [(pFlt a0),(pFlt a1)] (pFlt r):=by
 have H0:=h
 unfold Zmk at H0
 clear h
 refine Zbt (N:=12) Tryz.func121 rfl rfl (Qe rfl) rfl rfl (fun a g0 hst hb=>?_)
 refine r_s (T:=[⟨[],_,[],[],[4]⟩]) (F:=[.o 0,.o 1]) hst hb Za
  (Qa rfl c_f<|o_n) (fun a g hst hb=>?_)
 refine wp_seq ?_
 obtain ⟨r1,h2,H0⟩:=Zd H0
 refine r_s (T:=[⟨[.o 0],_,[],[],[5]⟩,⟨[.o 1],_,[],[],[6]⟩,⟨[.p 0 0,.p 1 0],_,[],[0,1],[7]⟩]) (F:=[.o 0,.o 1,.p 2 0]) hst hb Za
  (Qm rfl u_0<|Qm rfl u_0<|o_p rfl (Zl Z1a (Zqv _ _ h2) rfl rfl (.cons u_0 (.cons u_1 .nil)))<|o_n) (fun a g hst hb=>?_)
 refine wp_cond_split (hst.bool 2 rfl) (fun hc3=>?_) (fun hc3=>?_)
 ·replace H0:=Zu hc3 H0
  obtain ⟨r4,h5,H0⟩:=Zd H0
  refine r_s (L:=[(1,_)]) (T:=[⟨[.o 0],_,[],[],[8]⟩,⟨[.p 0 0],_,[],[0],[9]⟩,⟨[.p 1 0],_,[],[0,1],[4]⟩]) (F:=[.p 2 0]) (hst.pick [1] rfl) hb Za
   (Qm rfl u_0<|o_p rfl (Zl Zoy (Zim _ h5) rfl rfl (.cons u_0 .nil))<|Qa rfl u_0<|o_n) (fun a g hst hb=>?_)
  refine wp_ret ?_
  refine Zp ?_
  obtain rfl:=Option.some.inj H0
  exact Z4 rfl hst hb (Zg (s:=4)) (hst.at 0 rfl)
 ·replace H0:=Zt hc3 H0
  refine wp_skip ?_
  refine Zq ?_
  obtain ⟨r6,h7,H0⟩:=Zd H0
  refine r_s (L:=[(0,_)]) (T:=[⟨[.o 0],_,[],[],[10]⟩,⟨[.p 0 0],_,[],[0],[11]⟩,⟨[.p 1 0],_,[],[0,1],[4]⟩]) (F:=[.p 2 0]) (hst.pick [0] rfl) hb Za
   (Qm rfl u_0<|o_p rfl (Zl Zoy (Zim _ h7) rfl rfl (.cons u_0 .nil))<|Qa rfl u_0<|o_n) (fun a g hst hb=>?_)
  refine wp_ret ?_
  obtain rfl:=Option.some.inj H0
  exact Z4 rfl hst hb (Zg (s:=4)) (hst.at 0 rfl)
theorem Z3u (a0:Nat) (a1:Nat) {r:Nat} (h:Zmo a0 a1=some r):FnOk Tryz.prog 122 [(pFlt a0),(pFlt a1)] (pFlt r):=by
 have H0:=h
 unfold Zmo at H0
 clear h
 refine Zbt (N:=12) Tryz.func122 rfl rfl (Qe rfl) rfl rfl (fun a g0 hst hb=>?_)
 refine r_s (T:=[⟨[],_,[],[],[4]⟩]) (F:=[.o 0,.o 1]) hst hb Za
  (Qa rfl c_f<|o_n) (fun a g hst hb=>?_)
 refine wp_seq ?_
 obtain ⟨r1,h2,H0⟩:=Zd H0
 refine r_s (T:=[⟨[.o 1],_,[],[],[5]⟩,⟨[.o 0],_,[],[],[6]⟩,⟨[.p 0 0,.p 1 0],_,[],[0,1],[7]⟩]) (F:=[.o 0,.o 1,.p 2 0]) hst hb Za
  (Qm rfl u_0<|Qm rfl u_0<|o_p rfl (Zl Z1a (Zqv _ _ h2) rfl rfl (.cons u_0 (.cons u_1 .nil)))<|o_n) (fun a g hst hb=>?_)
 refine wp_cond_split (hst.bool 2 rfl) (fun hc3=>?_) (fun hc3=>?_)
 ·replace H0:=Zu hc3 H0
  obtain ⟨r4,h5,H0⟩:=Zd H0
  refine r_s (L:=[(1,_)]) (T:=[⟨[.o 0],_,[],[],[8]⟩,⟨[.p 0 0],_,[],[0],[9]⟩,⟨[.p 1 0],_,[],[0,1],[4]⟩]) (F:=[.p 2 0]) (hst.pick [1] rfl) hb Za
   (Qm rfl u_0<|o_p rfl (Zl Zoy (Zim _ h5) rfl rfl (.cons u_0 .nil))<|Qa rfl u_0<|o_n) (fun a g hst hb=>?_)
  refine wp_ret ?_
  refine Zp ?_
  obtain rfl:=Option.some.inj H0
  exact Z4 rfl hst hb (Zg (s:=4)) (hst.at 0 rfl)
 ·replace H0:=Zt hc3 H0
  refine wp_skip ?_
  refine Zq ?_
  obtain ⟨r6,h7,H0⟩:=Zd H0
  refine r_s (L:=[(0,_)]) (T:=[⟨[.o 0],_,[],[],[10]⟩,⟨[.p 0 0],_,[],[0],[11]⟩,⟨[.p 1 0],_,[],[0,1],[4]⟩]) (F:=[.p 2 0]) (hst.pick [0] rfl) hb Za
   (Qm rfl u_0<|o_p rfl (Zl Zoy (Zim _ h7) rfl rfl (.cons u_0 .nil))<|Qa rfl u_0<|o_n) (fun a g hst hb=>?_)
  refine wp_ret ?_
  obtain rfl:=Option.some.inj H0
  exact Z4 rfl hst hb (Zg (s:=4)) (hst.at 0 rfl)
theorem Z18 (a0:Nat) (a1:Nat) {r:Nat} (h:Zjm a0 a1=some r):FnOk Tryz.prog 123 [(pFlt a0),(pFlt a1)] (pFlt r):=by
 have H0:=h
 unfold Zjm at H0
 clear h
 refine Zbt (N:=9) Tryz.func123 rfl rfl (Qe rfl) rfl rfl (fun a g0 hst hb=>?_)
 refine r_s (T:=[⟨[],_,[],[],[4]⟩]) (F:=[.o 0,.o 1]) hst hb Za
  (Qa rfl c_f<|o_n) (fun a g hst hb=>?_)
 obtain ⟨r1,h2,H0⟩:=Zd H0
 refine r_s (T:=[⟨[.o 0],_,[],[],[5]⟩,⟨[.o 1],_,[],[],[6]⟩,⟨[.p 0 0,.p 1 0],_,[],[0,1],[7]⟩,⟨[.p 2 0],_,[],[0,1,2],[8]⟩,⟨[.p 3 0],_,[],Lr 4,[4]⟩]) (F:=[.p 4 0]) hst hb Za
  (Qm rfl u_0<|Qm rfl u_0<|o_p rfl (Zzw rfl rfl u_0 u_1)<|o_p rfl (Zl Zoy (Zrt (fun r z hr hz=>by simp only [Zgm,hr,hz,Option.bind_some,if_true]) (fun z r h=>Zim z h) h2) rfl rfl (.cons u_0 .nil))<|Qa rfl u_0<|o_n) (fun a g hst hb=>?_)
 refine wp_ret ?_
 obtain rfl:=Option.some.inj H0
 exact Z4 rfl hst hb (Zg (s:=4)) (hst.at 0 rfl)
theorem Z05 (a0:Nat) (a1:Nat) {r:Nat} (h:Zii a0 a1=some r):FnOk Tryz.prog 124 [(pFlt a0),(pFlt a1)] (pFlt r):=by
 have H0:=h
 unfold Zii at H0
 clear h
 refine Zbt (N:=9) Tryz.func124 rfl rfl (Qe rfl) rfl rfl (fun a g0 hst hb=>?_)
 refine r_s (T:=[⟨[],_,[],[],[4]⟩]) (F:=[.o 0,.o 1]) hst hb Za
  (Qa rfl c_f<|o_n) (fun a g hst hb=>?_)
 obtain ⟨r1,h2,H0⟩:=Zd H0
 refine r_s (T:=[⟨[.o 0],_,[],[],[5]⟩,⟨[.o 1],_,[],[],[6]⟩,⟨[.p 0 0,.p 1 0],_,[],[0,1],[7]⟩,⟨[.p 2 0],_,[],[0,1,2],[8]⟩,⟨[.p 3 0],_,[],Lr 4,[4]⟩]) (F:=[.p 4 0]) hst hb Za
  (Qm rfl u_0<|Qm rfl u_0<|o_p rfl (Z0h rfl rfl u_0 u_1)<|o_p rfl (Zl Zoy (Zrt (fun r z hr hz=>by simp only [Zgm,hr,hz,Option.bind_some,if_true]) (fun z r h=>Zim z h) h2) rfl rfl (.cons u_0 .nil))<|Qa rfl u_0<|o_n) (fun a g hst hb=>?_)
 refine wp_ret ?_
 obtain rfl:=Option.some.inj H0
 exact Z4 rfl hst hb (Zg (s:=4)) (hst.at 0 rfl)
theorem Zuo (a0:Nat) (a1:Nat) {r:Nat} (h:Zh5 a0 a1=some r):FnOk Tryz.prog 125 [(pFlt a0),(pFlt a1)] (pFlt r):=by
 have H0:=h
 unfold Zh5 at H0
 clear h
 refine Zbt (N:=6) Tryz.func125 rfl rfl (Qe rfl) rfl rfl (fun a g0 hst hb=>?_)
 refine r_s (L:=[(1,_)]) (T:=[⟨[],_,[],[],[4]⟩]) (F:=[.o 0]) (hst.pick [1] rfl) hb Za
  (Qa rfl c_f<|o_n) (fun a g hst hb=>?_)
 refine r_s (T:=[⟨[.o 0],_,[],[],[5]⟩,⟨[.p 0 0],_,[],[0],[4]⟩]) (F:=[.p 1 0]) hst hb Za
  (Qm rfl u_0<|Qa rfl u_0<|o_n) (fun a g hst hb=>?_)
 refine wp_ret ?_
 obtain rfl:=Option.some.inj H0
 exact Z4 rfl hst hb (Zg (s:=4)) (hst.at 0 rfl)
theorem Zi0 (f2:Nat) (C2:List Pd) (hC2:Free C2) (e2_:Zn Tryz.prog f2) (φ2:Zi → ByteArray → Option Int) (hφ2:∀ (y0:Zi) (y1:ByteArray) (r:Int),φ2 y0 y1=some r → FnOk Tryz.prog f2 ([(Zz.pd y0),(pStr y1)] ++ C2) (pInt .i64 r)) (a0:List Zi) (a1:ByteArray) {r:Int × Bool} (h:Zdb a0 a1 φ2=some r):FnOk Tryz.prog 137 [(Zz.sl.pd a0),(pStr a1),(pClo f2 C2 hC2)] (pTup [(pInt .i64 r.1),(Zbd r.2)]):=by
 have H0:=h
 unfold Zdb at H0
 clear h
 refine Zbt (N:=49) Tryz.func137 rfl rfl (Qe rfl) rfl rfl (fun a g0 hst hb=>?_)
 refine r_s (T:=[⟨[],_,[],[],[6]⟩,⟨[],_,[],[0],[7]⟩]) (F:=[.o 0,.o 1,.o 2]) hst hb Za
  (Qa rfl c_i<|Qa rfl c_b<|o_n) (fun a g hst hb=>?_)
 refine r_s (T:=[⟨[.o 0],_,[],[],[12]⟩,⟨[.p 0 0],_,[],[0],[13]⟩,⟨[.p 1 0],_,[],[0,1],[8]⟩]) (F:=[.o 0,.o 1,.o 2,.p 2 0,.p 0 0]) hst hb Za
  (Qm rfl u_0<|o_p rfl (Zbv Tryz.underlying36 rfl rfl u_0)<|Qa rfl u_0<|o_n) (fun a g hst hb=>?_)
 refine r_s (T:=[⟨[.o 3],_,[],[],[14]⟩,⟨[],_,[],[],[9]⟩,⟨[.p 0 0],_,[],[0,1],[10]⟩]) (F:=[.o 0,.o 1,.o 2,.o 3,.p 1 0,.p 2 0,.o 4]) hst hb Za
  (Qm rfl u_0<|Qa rfl c_i<|Qa rfl u_0<|o_n) (fun a g hst hb=>?_)
 obtain ⟨z12,hz1,H0⟩:=Zd H0
 refine wp_seq ?_
 refine Zb3 (fun a w=>∃ (y11:Int) (g:G),w=g.w ∧ St 49 [(0,(Zz.sl.pd a0)),(1,(pStr a1)),(2,(pClo f2 C2 hC2)),(8,(pInt .i64 (a0.length:Int))),(9,(pInt .i64 y11)),(12,(Zz.sl.pd a0))] a g ∧ Base g0 g ∧ y11=z12) ?_ ?_
 ·rintro a w ⟨y11,g,rfl,hst,hb,rfl⟩
  refine Zq ?_
  obtain ⟨e13,h14,H0⟩:=Zd H0;obtain ⟨r15,h16,H0⟩:=Zd H0
  refine r_s (T:=⟨[.o 4],_,[],[],[35]⟩ :: ⟨[.o 4],_,[],[],[36]⟩ :: ⟨[.o 3],_,[],[],[37]⟩ :: ⟨[.p 1 0,.p 2 0],_,[],[1,2],[38]⟩ :: ⟨[.p 3 0],_,[],[1,2,3],[39]⟩ :: ⟨[.p 4 0,.o 2],_,[],List.range' 1 4,[40]⟩ :: ⟨[.p 4 0,.o 0],_,[],List.range' 1 4,[41]⟩ :: ⟨[.p 4 0,.o 4],_,[],List.range' 1 4,[42]⟩ :: ⟨[.p 4 0,.p 6 0,.p 7 0],_,[],[1,2,3,4,6,7],[43]⟩ :: ⟨[.p 4 0,.p 8 0],_,[],[1,2,3,4,6,7,8],[44]⟩ :: ⟨[.p 4 0,.o 1],_,[],List.range' 1 4,[45]⟩ :: ⟨[.p 4 0,.p 5 0,.p 9 0,.p 10 0],_,[],List.range' 1 10,[46]⟩ :: ⟨[.p 4 0,.p 11 0],_,[],List.range' 1 11,[47]⟩ :: ⟨[.p 4 0,.p 12 0],_,[],List.range' 1 12,[48]⟩ :: ⟨[.p 0 0],_,[],Lr 12,[6]⟩ :: ⟨[.p 13 0],_,[],Lr 15,[7]⟩ :: []) (F:=[.p 14 0,.p 15 0]) hst hb Za
   (Qm rfl u_0<|Qm rfl u_0<|Qm rfl u_0<|o_p rfl (Zca rfl rfl u_0 u_1)<|Qm rfl u_0<|o_g (Qg_t rfl (fun hG=>Z1 rfl rfl u_0))<|o_g (Qg_t rfl (fun hG=>Z1 rfl rfl u_0))<|o_g (Qg_t rfl (fun hG=>Z1 rfl rfl u_0))<|o_g (Qg_t rfl (fun hG=>Zbi Tryz.underlying36 Zfb rfl rfl (Opd.gd hG u_0) (Opd.gd hG u_1) (Zbn h14 hG)))<|o_g (Qg_t rfl (fun hG=>Zs Zed rfl rfl (Opd.gd hG u_0)))<|o_g (Qg_t rfl (fun hG=>Z1 rfl rfl u_0))<|o_g (Qg_t rfl (fun hG=>Zrm e2_ (hφ2 _ _ _ (Zbn h16 hG)) rfl rfl (Opd.gd hG u_0) (.cons (Opd.gd hG u_1) (.cons (Opd.gd hG u_2) .nil))))<|o_g (Qg_t rfl (fun hG=>Zbr rfl rfl (Opd.gd hG u_0) c_i))<|o_p rfl (Zbg rfl rfl u_0 (fun hz=>(Opd.gd hz u_1)))<|Qa rfl u_0<|Qa rfl u_0<|o_n) (fun a g hst hb=>?_)
  refine wp_ret ?_
  obtain rfl:=Option.some.inj H0
  exact Zdt rfl hst hb (Zg (s:=6)) (Zg (s:=7)) (Zcr (hst.at 0 rfl) (hst.at 1 rfl))
 ·refine wp_block ?_
  refine wp_loop_ghost (fun n a w=>∃ (x1:Int) (x2:Int) (g:G),w=g.w ∧ St 49 [(0,(Zz.sl.pd a0)),(1,(pStr a1)),(2,(pClo f2 C2 hC2)),(8,(pInt .i64 (a0.length:Int))),(9,(pInt .i64 x1)),(10,(pInt .i64 x2)),(12,(Zz.sl.pd a0))] a g ∧ Base g0 g ∧ Zbq a0 a1 φ2 n x1 x2=some z12) (Int.toNat ((a0.length:Int) - (0:Int)) + 1) ⟨(0:Int),(a0.length:Int),g,rfl,(hst.pick [0,1,2,3,4,5,6] rfl),hb,hz1⟩ (fun n a w hI=>?_)
  obtain ⟨x1,x2,g,rfl,hst,hb,H1⟩:=hI
  cases n with
  | zero=>exact absurd H1 (by simp [Zbq])
  | succ n =>
   rw [Zbq] at H1
   refine wp_seq ?_
   refine r_s (T:=[⟨[.o 4],_,[],[],[15]⟩,⟨[.o 5],_,[],[],[16]⟩,⟨[.p 0 0,.p 1 0],_,[],[0,1],[17]⟩]) (F:=[.o 0,.o 1,.o 2,.o 3,.o 4,.o 5,.o 6,.p 2 0]) hst hb Za
    (Qm rfl u_0<|Qm rfl u_0<|o_p rfl (Zca rfl rfl u_0 u_1)<|o_n) (fun a g hst hb=>?_)
   refine wp_cond_split (hst.bool 7 rfl) (fun hc3=>?_) (fun hc3=>?_)
   ·replace H1:=Zu hc3 H1
    refine wp_skip ?_
    refine Zq ?_
    refine Zb3 (fun a w=>∃ (j9:Int) (j10:Int) (g:G),w=g.w ∧ St 49 [(0,(Zz.sl.pd a0)),(1,(pStr a1)),(2,(pClo f2 C2 hC2)),(8,(pInt .i64 (a0.length:Int))),(9,(pInt .i64 j9)),(10,(pInt .i64 j10)),(12,(Zz.sl.pd a0))] a g ∧ Base g0 g ∧ Zcl (Zbq a0 a1 φ2 n) j9 j10=some z12) ?_ ?_
    ·rintro a w ⟨j9,j10,g,rfl,hst,hb,H1⟩
     unfold Zcl at H1
     exact ⟨n,Nat.lt_succ_self _,j9,j10,g,rfl,(hst.pick [0,1,2,3,4,5,6] rfl),hb,H1⟩
    ·refine wp_block ?_
     refine r_s (L:=[(0,_),(1,_),(2,_),(8,_),(9,_),(10,_),(12,_)]) (T:=[⟨[.o 4],_,[],[],[18]⟩,⟨[.o 5],_,[],[],[19]⟩,⟨[.p 0 0,.p 1 0],_,[],[0,1],[20]⟩,⟨[.p 2 0],_,[],[0,1,2],[21]⟩,⟨[.p 3 0],_,[],Lr 4,[22]⟩,⟨[.p 4 0],_,[],Lr 5,[23]⟩,⟨[.p 5 0],_,[],Lr 6,[11]⟩]) (F:=[.o 0,.o 1,.o 2,.o 3,.o 4,.o 5,.p 6 0,.o 6]) (hst.pick [0,1,2,3,4,5,6] rfl) hb Za
      (Qm rfl u_0<|Qm rfl u_0<|o_p rfl (Zbz rfl rfl u_0 u_1 rfl)<|o_p rfl (Z2u Tryz.underlying3 Tryz.underlying181 rfl rfl u_0 rfl)<|o_p rfl (Zbbl rfl rfl u_0 c_i (by decide) rfl)<|o_p rfl (Z2u Tryz.underlying181 Tryz.underlying3 rfl rfl u_0 rfl)<|Qa rfl u_0<|o_n) (fun a g hst hb=>?_)
     obtain ⟨e4,h5,H1⟩:=Zd H1;obtain ⟨r6,h7,H1⟩:=Zd H1
     refine r_s (T:=[⟨[.o 2],_,[],[],[24]⟩,⟨[.o 0],_,[],[],[25]⟩,⟨[.o 6],_,[],[],[26]⟩,⟨[.p 1 0,.p 2 0],_,[],[1,2],[27]⟩,⟨[.p 3 0],_,[],[1,2,3],[28]⟩,⟨[.o 1],_,[],[],[29]⟩,⟨[.p 0 0,.p 4 0,.p 5 0],_,[],Lr 6,[30]⟩,⟨[.p 6 0],_,[],Lr 7,[31]⟩]) (F:=[.o 0,.o 1,.o 2,.o 3,.o 4,.o 5,.o 6,.o 7,.p 7 0]) hst hb Za
      (Qm rfl u_0<|Qm rfl u_0<|Qm rfl u_0<|o_p rfl (Zbi Tryz.underlying36 Zfb rfl rfl u_0 u_1 h5)<|Ql rfl Zed u_0<|Qm rfl u_0<|o_p rfl (Zrm e2_ (hφ2 _ _ _ h7) rfl rfl u_0 (.cons u_1 (.cons u_2 .nil)))<|o_p rfl (Zca rfl rfl u_0 c_i)<|o_n) (fun a g hst hb=>?_)
     refine wp_cond_split (hst.bool 8 rfl) (fun hc8=>?_) (fun hc8=>?_)
     ·replace H1:=Zu hc8 H1
      refine r_g (L:=[(0,_),(1,_),(2,_),(8,_),(10,_),(11,_),(12,_)]) (T:=[⟨[.o 5],_,[],[],[32]⟩,⟨[.p 0 0],_,[],[0],[33]⟩,⟨[.p 1 0],_,[],[0,1],[9]⟩]) (F:=[.o 0,.o 1,.o 2,.o 3,.p 2 0,.o 4,.o 6]) (hst.pick [0,1,2,3,5,6,7] rfl) hb Za
       (Qm rfl u_0<|o_p rfl (Zbz rfl rfl u_0 c_i rfl)<|Qa rfl u_0<|o_n) (fun a g hst hb=>?_)
      refine Zbc ?_
      exact ⟨(IntKind.i64.wrap ((IntKind.i64.wrap (Int.fdiv (IntKind.u64.wrap (IntKind.i64.wrap (x1 + x2))) (2 ^ 1))) + (1:Int))),x2,g,rfl,(hst.pick [0,1,2,3,4,5,6] rfl),hb,H1⟩
     ·replace H1:=Zt hc8 H1
      refine r_g (L:=[(0,_),(1,_),(2,_),(8,_),(9,_),(11,_),(12,_)]) (T:=[⟨[.o 5],_,[],[],[34]⟩,⟨[.p 0 0],_,[],[0],[10]⟩]) (F:=[.o 0,.o 1,.o 2,.o 3,.o 4,.p 1 0,.o 6]) (hst.pick [0,1,2,3,4,6,7] rfl) hb Za
       (Qm rfl u_0<|Qa rfl u_0<|o_n) (fun a g hst hb=>?_)
      refine Zbc ?_
      exact ⟨x1,(IntKind.i64.wrap (Int.fdiv (IntKind.u64.wrap (IntKind.i64.wrap (x1 + x2))) (2 ^ 1))),g,rfl,(hst.pick [0,1,2,3,4,5,6] rfl),hb,H1⟩
   ·replace H1:=Zt hc3 H1
    refine wp_exit ?_
    refine Zby ?_
    refine Zby ?_
    refine Zce ?_
    exact ⟨x1,g,rfl,(hst.pick [0,1,2,3,4,6] rfl),hb,Option.some.inj H1⟩
theorem Zxf (a0:Zi) (a1:ByteArray) {r:Int} (h:Zkh a0 a1=some r):FnOk Tryz.prog 138 [(Zz.pd a0),(pStr a1)] (pInt .i64 r):=by
 have H0:=h
 unfold Zkh at H0
 clear h
 refine Zbt (N:=15) Tryz.func138 rfl rfl (Qe rfl) rfl rfl (fun a g0 hst hb=>?_)
 refine r_s (T:=[⟨[.o 0],_,[],[],[2]⟩,⟨[],_,[],[],[4]⟩]) (F:=[.o 1,.p 0 0]) hst hb Za
  (Qb rfl u_0<|Qa rfl c_i<|o_n) (fun a g hst hb=>?_)
 refine wp_seq ?_
 refine wp_block ?_
 refine r_s (T:=[⟨[.o 1],_,[],[],[6]⟩,⟨[.p 0 0],_,[],[0],[7]⟩,⟨[.o 0],_,[],[],[8]⟩,⟨[.p 1 0,.p 2 0],_,[],[0,1,2],[9]⟩,⟨[.p 3 0],_,[],Lr 4,[5]⟩]) (F:=[.o 0,.o 1,.p 4 0]) hst hb Za
  (Qf rfl Zd7 u_0<|Ql rfl ty_9 u_0<|Qm rfl u_0<|o_p rfl (Zni rfl rfl u_0 u_1)<|Qa rfl u_0<|o_n) (fun a g hst hb=>?_)
 refine wp_cond_split (hst.bool 2 rfl) (fun hc1=>?_) (fun hc1=>?_)
 ·replace H0:=Zu hc1 H0
  refine r_s (L:=[]) (T:=[⟨[],_,[],[],[4]⟩]) (F:=[.p 0 0]) (hst.pick [] rfl) hb Za
   (Qa rfl c_i<|o_n) (fun a g hst hb=>?_)
  refine wp_ret ?_
  refine Z5 ?_
  refine Zp ?_
  obtain rfl:=Option.some.inj H0
  exact Z4 rfl hst hb (Zg (s:=4)) (hst.at 0 rfl)
 ·replace H0:=Zt hc1 H0
  refine r_s (L:=[(1,_),(2,_)]) (T:=[⟨[.o 1],_,[],[],[11]⟩,⟨[.p 0 0],_,[],[0],[12]⟩,⟨[.o 0],_,[],[],[13]⟩,⟨[.p 1 0,.p 2 0],_,[],[0,1,2],[14]⟩,⟨[.p 3 0],_,[],Lr 4,[10]⟩]) (F:=[.p 4 0]) (hst.pick [0,1] rfl) hb Za
   (Qf rfl Zd7 u_0<|Ql rfl ty_9 u_0<|Qm rfl u_0<|o_p rfl (Zwb rfl rfl u_0 u_1)<|Qa rfl u_0<|o_n) (fun a g hst hb=>?_)
  refine wp_cond_split (hst.bool 0 rfl) (fun hc2=>?_) (fun hc2=>?_)
  ·replace H0:=Zu hc2 H0
   refine r_s (L:=[]) (T:=[⟨[],_,[],[],[4]⟩]) (F:=[.p 0 0]) (hst.pick [] rfl) hb Za
    (Qa rfl c_i<|o_n) (fun a g hst hb=>?_)
   refine wp_ret ?_
   refine Z5 ?_
   refine Zp ?_
   obtain rfl:=Option.some.inj H0
   exact Z4 rfl hst hb (Zg (s:=4)) (hst.at 0 rfl)
  ·replace H0:=Zt hc2 H0
   refine wp_skip ?_
   refine Zbc ?_
   refine Zq ?_
   refine r_s (L:=[]) (T:=[⟨[],_,[],[],[4]⟩]) (F:=[.p 0 0]) (hst.pick [] rfl) hb Za
    (Qa rfl c_i<|o_n) (fun a g hst hb=>?_)
   refine wp_ret ?_
   obtain rfl:=Option.some.inj H0
   exact Z4 rfl hst hb (Zg (s:=4)) (hst.at 0 rfl)
theorem Zpv (a0:List Zi) (a1:ByteArray) {r:Int × Bool} (h:Zmc a0 a1=some r):FnOk Tryz.prog 128 [(Zz.sl.pd a0),(pStr a1)] (pTup [(pInt .i64 r.1),(Zbd r.2)]):=by
 have H0:=h
 unfold Zmc at H0
 clear h
 refine Zbt (N:=11) Tryz.func128 rfl rfl (Qe rfl) rfl rfl (fun a g0 hst hb=>?_)
 refine r_s (T:=[⟨[],_,[],[],[4]⟩,⟨[],_,[],[0],[5]⟩]) (F:=[.o 0,.o 1]) hst hb Za
  (Qa rfl c_i<|Qa rfl c_b<|o_n) (fun a g hst hb=>?_)
 obtain ⟨r1,h2,H0⟩:=Zd H0
 refine r_s (T:=[⟨[.o 0],_,[],[],[6]⟩,⟨[.o 1],_,[],[],[7]⟩,⟨[.p 0 0,.p 1 0],_,[],[0,1],[8]⟩,⟨[.p 2 0],_,[],[0,1,2],[9]⟩,⟨[.p 2 0],_,[],[0,1,2],[10]⟩,⟨[.p 3 0],_,[],Lr 5,[4]⟩,⟨[.p 4 0],_,[],Lr 6,[5]⟩]) (F:=[.p 5 0,.p 6 0]) hst hb Za
  (Qm rfl u_0<|Qm rfl u_0<|o_p rfl (Zl Zbau (Zi0 138 [] rfl Zbbs (fun y0 y1=>Zkh y0 y1) (fun y0 y1 r h=>Zxf y0 y1 h) _ _ h2) rfl rfl (.cons u_0 (.cons u_1 (.cons Opd.fnc .nil))))<|o_p rfl (Z2 rfl rfl u_0 rfl)<|o_p rfl (Z2 rfl rfl u_0 rfl)<|Qa rfl u_0<|Qa rfl u_0<|o_n) (fun a g hst hb=>?_)
 refine wp_ret ?_
 obtain rfl:=Option.some.inj H0
 exact Zdt rfl hst hb (Zg (s:=4)) (Zg (s:=5)) (Zcr (hst.at 0 rfl) (hst.at 1 rfl))
set_option maxHeartbeats 1000000 in
theorem Zi3 (a0:List Zi) (a1:Int) (a2:List Zi) {r:List Zi} (h:Zcj a0 a1 a2=some r):Zzn Tryz.prog 136 Zz 116 a0 [(pInt .i64 a1),(Zz.sl.pd a2)] (Zz.sl.pd r):=by
 unfold Zcj at h
 obtain ⟨⟨hi0,hi1,hm,hsz⟩,H0⟩:=Zev h
 obtain rfl:=Option.some.inj H0
 obtain ⟨k,rfl⟩:=Int.eq_ofNat_of_zero_le hi0
 have hk:k ≤ a0.length:=by omega
 have hb0:(a0.length + a2.length) ≤ 140737488355328:=Nat.le_trans (Nat.le_mul_of_pos_right _ (by decide)) hsz
 simp only [Int.toNat_natCast]
 refine Z0b (N:=95) Tryz.func136 rfl rfl (Qe rfl) rfl (fun hx a g A0 hst hb=>?_) (fun a g cap hcap hmax hst hb=>?_)
 ·subst hx
  obtain rfl:k=0:=by simpa using hk
  refine r_s (T:=[⟨[],[(6,(Zz.sl.pd []))],[],[],[6]⟩]) (F:=[.o 0,.o 1,.o 2]) hst hb Za
   (o_p rfl (Zch rfl rfl (Opd.c (fun g=>Zhe g)))<|o_n) (fun a g hst hb=>?_)
  refine r_s (T:=[⟨[.o 0],_,[],[],[10]⟩,⟨[.o 1],_,[],[],[11]⟩,⟨[.p 0 0,.p 1 0],_,[],[0,1],[12]⟩]) (F:=[.o 0,.o 1,.o 2]) hst hb Za
   (Qm rfl u_0<|Qm rfl u_0<|o_p rfl (Z4y Zdm rfl u_0 u_1)<|o_n) (fun a g hst hb=>?_)
  refine r_s (T:=[⟨[.o 2],_,[],[],[13]⟩,⟨[.p 0 0],_,[],[0],[14]⟩,⟨[.p 1 0],_,[],[0,1],[7]⟩]) (F:=[.o 0,.o 1,.o 2,.p 2 0]) hst hb Za
   (Qm rfl u_0<|o_p rfl (Zbv Tryz.underlying36 rfl rfl u_0)<|Qa rfl u_0<|o_n) (fun a g hst hb=>?_)
  refine wp_seq ?_
  refine r_s (T:=[⟨[.o 3],_,[],[],[15]⟩,⟨[.p 0 0],_,[],[0],[16]⟩]) (F:=[.o 0,.o 1,.o 2,.o 3,.p 1 0]) hst hb Za
   (Qm rfl u_0<|o_p rfl (Zbr rfl rfl u_0 c_i)<|o_n) (fun a g hst hb=>?_)
  refine wp_cond_split (hst.bool 4 rfl) (fun hc=>?_) (fun hc=>?_)
  ·exact absurd (beq_iff_eq.1 hc) (by omega)
  ·refine wp_skip ?_
   refine Zq ?_
   refine r_s (L:=[(0,_),(1,_),(2,_),(7,_)]) (T:=[⟨[.o 0],_,[],[],[18]⟩,⟨[.p 0 0],_,[],[0],[19]⟩,⟨[.p 1 0],_,[],[0,1],[8]⟩]) (F:=[.o 0,.o 1,.o 2,.o 3,.p 2 0]) (hst.pick [0,1,2,3] rfl) hb Za
    (Qm rfl u_0<|o_p rfl (Z99 Tryz.underlying36 rfl rfl u_0)<|Qa rfl u_0<|o_n) (fun a g hst hb=>?_)
   refine wp_seq ?_
   refine r_s (T:=[⟨[.o 1],_,[],[],[20]⟩,⟨[.o 4],_,[],[],[21]⟩,⟨[.p 0 0,.p 1 0],_,[],[0,1],[22]⟩]) (F:=[.o 0,.o 1,.o 2,.o 3,.o 4,.p 2 0]) hst hb Za
    (Qm rfl u_0<|Qm rfl u_0<|o_p rfl (Zbr rfl rfl u_0 u_1)<|o_n) (fun a g hst hb=>?_)
   refine wp_cond_split (hst.bool 5 rfl) (fun hc=>?_) (fun hc=>?_)
   ·refine r_s (L:=[(0,_),(2,_)]) (T:=[⟨[.o 0],_,[],[],[23]⟩,⟨[.o 1],_,[],[],[24]⟩,⟨[.p 0 0,.p 1 0],[(25,(pOwn Zz 116 25 none (a2.map some)))],[26],[0,1],[25]⟩,⟨[.p 2 0],_,[],[0,1,2],[6]⟩]) (F:=[.p 3 0]) (hst.pick [0,2] rfl) hb Za
     (Qm rfl u_0<|Qm rfl u_0<|o_p rfl (Z4s Zdm rfl rfl u_0 u_1 hm (by simpa using hsz))<|Qa rfl u_0<|o_n) (fun a g hst hb=>?_)
    refine wp_ret ?_
    refine Zp ?_
    have hq:=hst.at 0 rfl
    have he:([]:List Zi).take 0 ++ a2 ++ ([]:List Zi).drop 0=a2:=by simp
    rw [he]
    exact Zrd rfl hst hb (Zg (s:=6)) hq
   ·exact absurd hc (by simp)
 ·refine r_s (T:=[⟨[],[(6,(Zz.sl.pd []))],[],[],[6]⟩]) (F:=[.o 0,.o 1,.o 2]) hst hb Za
   (o_p rfl (Zch rfl rfl (Opd.c (fun g=>Zhe g)))<|o_n) (fun a g hst hb=>?_)
  refine r_s (T:=[⟨[.o 0],_,[],[],[10]⟩,⟨[.o 1],_,[],[],[11]⟩,⟨[.p 0 0,.p 1 0],_,[],[0,1],[12]⟩]) (F:=[.o 0,.o 1,.o 2]) hst hb Za
   (Qm rfl u_0<|Qm rfl u_0<|o_p rfl (Zic Zdm (by simpa using hk) rfl rfl u_0 u_1)<|o_n) (fun a g hst hb=>?_)
  refine r_s (T:=[⟨[.o 2],_,[],[],[13]⟩,⟨[.p 0 0],_,[],[0],[14]⟩,⟨[.p 1 0],_,[],[0,1],[7]⟩]) (F:=[.o 0,.o 1,.o 2,.p 2 0]) hst hb Za
   (Qm rfl u_0<|o_p rfl (Zbv Tryz.underlying36 rfl rfl u_0)<|Qa rfl u_0<|o_n) (fun a g hst hb=>?_)
  refine wp_seq ?_
  refine r_s (T:=[⟨[.o 3],_,[],[],[15]⟩,⟨[.p 0 0],_,[],[0],[16]⟩]) (F:=[.o 0,.o 1,.o 2,.o 3,.p 1 0]) hst hb Za
   (Qm rfl u_0<|o_p rfl (Zbr rfl rfl u_0 c_i)<|o_n) (fun a g hst hb=>?_)
  refine wp_cond_split (hst.bool 4 rfl) (fun hc=>?_) (fun hc=>?_)
  ·exact absurd (beq_iff_eq.1 hc) (by omega)
  ·refine wp_skip ?_
   refine Zq ?_
   refine r_s (L:=[(0,_),(1,_),(2,_),(7,_)]) (T:=[⟨[.o 0],_,[],[],[18]⟩,⟨[.p 0 0],_,[],[0],[19]⟩,⟨[.p 1 0],_,[],[0,1],[8]⟩]) (F:=[.o 0,.o 1,.o 2,.o 3,.p 2 0]) (hst.pick [0,1,2,3] rfl) hb Za
    (Qm rfl u_0<|o_p rfl (Zt7 Tryz.underlying36 rfl rfl u_0)<|Qa rfl u_0<|o_n) (fun a g hst hb=>?_)
   refine wp_seq ?_
   refine r_s (T:=[⟨[.o 1],_,[],[],[20]⟩,⟨[.o 4],_,[],[],[21]⟩,⟨[.p 0 0,.p 1 0],_,[],[0,1],[22]⟩]) (F:=[.o 0,.o 1,.o 2,.o 3,.o 4,.p 2 0]) hst hb Za
    (Qm rfl u_0<|Qm rfl u_0<|o_p rfl (Zbr rfl rfl u_0 u_1)<|o_n) (fun a g hst hb=>?_)
   refine wp_cond_split (hst.bool 5 rfl) (fun hc=>?_) (fun hc=>?_)
   ·refine r_s (L:=[(0,_),(2,_)]) (T:=[⟨[.o 0],_,[],[],[23]⟩,⟨[.o 1],_,[],[],[24]⟩,⟨[.p 0 0,.p 1 0],_,[1],[0,1],[25,0,23]⟩,⟨[.p 2 0],_,[],[0,1,2],[6]⟩]) (F:=[.p 3 0]) (hst.pick [0,2] rfl) hb Za
     (Qm rfl u_0<|Qm rfl u_0<|o_p rfl (Zpe Zdm rfl rfl u_0 u_1 hsz)<|Qa rfl u_0<|o_n) (fun a g hst hb=>?_)
    refine wp_ret ?_
    refine Zp ?_
    have hq:=hst.at 0 rfl
    have hkn:=beq_iff_eq.1 hc
    simp only [List.length_map] at hkn
    have hkn:k=a0.length:=by omega
    have he:a0.take k ++ a2 ++ a0.drop k=a0 ++ a2:=by simp [hkn]
    rw [he]
    exact Zrd rfl hst hb (Zg (s:=6)) hq
   ·have hkn:k ≠ a0.length:=fun h=>(beq_eq_false_iff_ne.1 hc) (by simp only [List.length_map];omega)
    refine wp_skip ?_
    refine Zq ?_
    refine wp_seq ?_
    refine r_s (L:=[(0,_),(1,_),(2,_),(7,_),(8,_)]) (T:=[⟨[.o 4],_,[],[],[26]⟩,⟨[.o 3],_,[],[],[27]⟩,⟨[.p 0 0,.p 1 0],_,[],[0,1],[28]⟩,⟨[.o 0],_,[],[],[29]⟩,⟨[.p 3 0],_,[],[3],[30]⟩,⟨[.p 2 0,.p 4 0],_,[],[0,1,2,3,4],[31]⟩]) (F:=[.o 0,.o 1,.o 2,.o 3,.o 4,.p 5 0]) (hst.pick [0,1,2,3,4] rfl) hb Za
     (Qm rfl u_0<|Qm rfl u_0<|o_p rfl (Zbz rfl rfl u_0 u_1 (Ztz (by simp only [List.length_map];omega)))<|Qm rfl u_0<|o_p rfl (Z9o Tryz.underlying36 rfl rfl u_0)<|o_p rfl (Zcv rfl rfl u_0 u_1)<|o_n) (fun a g hst hb=>?_)
    refine wp_cond_split (hst.bool 5 rfl) (fun hc2=>?_) (fun hc2=>?_)
    ·have hgr:cap < k + (a0.length + a2.length - k):=by have:=of_decide_eq_true hc2;simp only [List.length_map] at this;omega
     refine r_s (L:=[(0,_),(1,_),(2,_),(7,_),(8,_)]) (T:=[⟨[.o 0],_,[],[],[32]⟩,⟨[.o 1],_,[],[],[33]⟩,⟨[.p 0 0,.p 1 0],_,[],[0,1],[34]⟩,⟨[.o 4],_,[],[],[35]⟩,⟨[.o 3],_,[],[],[36]⟩,⟨[.p 3 0,.p 4 0],_,[],[3,4],[37]⟩,⟨[.o 1],_,[],[],[38]⟩,⟨[.p 5 0,.p 6 0],_,[],[3,4,5,6],[39]⟩,⟨[.p 2 0,.p 7 0,.o 0],[(40,(pOwn Zz 116 40 none ((a0.take k).map some ++ List.replicate (a0.length + a2.length - k) none)))],[41],[0,1,2,3,4,5,6,7],[40]⟩,⟨[.p 8 0],_,[],[0,1,2,3,4,5,6,7,8],[9]⟩]) (F:=[.o 0,.o 1,.o 2,.o 3,.p 9 0]) (hst.pick [0,1,2,3,4] rfl) hb Za
      (Qm rfl u_0<|Qm rfl u_0<|o_p rfl (Ztd Zdm (by simpa using hk) rfl rfl u_0 u_1)<|Qm rfl u_0<|Qm rfl u_0<|o_p rfl (Zbz rfl rfl u_0 u_1 (Ztz (by simp only [List.length_map];omega)))<|Qm rfl u_0<|o_p rfl (Zg7 rfl rfl u_0 u_1 (Zbav (n:=a0.length + a2.length) (by simp only [List.length_map]) (by omega) (by omega)))<|o_p rfl (Z3z (s:=0) (d2:=40) (xs:=a0.take k) Zdm Tryz.underlying3 (by simp;omega) (by simp;omega) (by omega) hgr (by rw [show k + (a0.length + a2.length - k)=a0.length + a2.length by omega];exact hsz) (Zwx a0 k) rfl rfl u_0 u_1 u_2)<|Qa rfl u_0<|o_n) (fun a g hst hb=>?_)
     have hl1:(((a0.take k).map some ++ List.replicate (a0.length + a2.length - k) none):List (Option Zi)).length=a0.length + a2.length:=by simp;omega
     refine r_s (T:=[⟨[.o 4],_,[],[],[41]⟩,⟨[.o 1],_,[],[],[42]⟩,⟨[.p 0 0,.p 1 0],_,[],[0,1],[43]⟩,⟨[.o 2],_,[],[],[44]⟩,⟨[.p 2 0,.p 3 0,.o 4],_,[41],[0,1,2,3],[45,9,41,43]⟩]) (F:=[.o 0,.o 1,.o 2,.o 3,.p 4 1]) hst hb Za
      (Qm rfl u_0<|Qm rfl u_0<|o_p rfl (Zic Zdm (by rw [hl1];omega) rfl rfl u_0 u_1)<|Qm rfl u_0<|o_p rfl (Z0o (s:=9) Zdm (by rw [hl1];omega) (by rw [hl1];omega) rfl rfl (by decide) u_0 u_1 u_2)<|o_n) (fun a g hst hb=>?_)
     have hl2:(over (((a0.take k).map some ++ List.replicate (a0.length + a2.length - k) none):List (Option Zi)) k a2).length=a0.length + a2.length:=by rw [Zm1 (by rw [hl1];omega),hl1]
     refine r_s (T:=[⟨[.o 4],_,[],[],[46]⟩,⟨[.o 1],_,[],[],[47]⟩,⟨[.o 3],_,[],[],[48]⟩,⟨[.p 1 0,.p 2 0],_,[],[1,2],[49]⟩,⟨[.p 0 0,.p 3 0],_,[],[0,1,2,3],[50]⟩,⟨[.o 0],_,[],[],[51]⟩,⟨[.o 1],_,[],[],[52]⟩,⟨[.p 5 0,.p 6 0],_,[],[5,6],[53]⟩,⟨[.p 4 0,.p 7 0,.o 4,.o 0],_,[41],[0,1,2,3,4,5,6,7],[54,9,46,50]⟩]) (F:=[.p 8 1]) hst hb Za
      (Qm rfl u_0<|Qm rfl u_0<|Qm rfl u_0<|o_p rfl (Zbz rfl rfl u_0 u_1 (Ztz (by omega)))<|o_p rfl (Zic Zdm (by rw [hl2];omega) rfl rfl u_0 u_1)<|Qm rfl u_0<|Qm rfl u_0<|o_p rfl (Zic Zdm (by simpa using hk) rfl rfl u_0 u_1)<|o_p rfl (Zz9 (s:=9) (s2:=0) (ws:=a0.drop k) Zdm (by rw [hl2];omega) (by simp;omega) (by rw [hl2,List.length_map,List.length_drop];exact (Nat.min_eq_left (by omega)).symm) (fun i x hx=>by rw [List.getElem?_drop] at hx;rw [List.getElem?_map,hx];rfl) rfl rfl (by decide) u_0 u_1 u_2 u_3)<|o_n) (fun a g hst hb=>?_)
     refine r_s (T:=[⟨[.o 0],_,[],[],[55]⟩,⟨[.p 0 0],_,[],[0],[6]⟩]) (F:=[.p 1 0]) hst hb Za
      (Qm rfl u_0<|Qa rfl u_0<|o_n) (fun a g hst hb=>?_)
     refine wp_ret ?_
     refine Zp ?_
     have hq:=hst.at 0 rfl
     rw [ins1 hk] at hq
     exact Zrd rfl hst hb (Zg (s:=6)) hq
    ·have hroom:a0.length + a2.length ≤ cap:=by have:=of_decide_eq_false hc2;simp only [List.length_map] at this;omega
     refine wp_skip ?_
     refine Zq ?_
     refine r_s (L:=[(0,_),(1,_),(2,_),(7,_),(8,_)]) (T:=[⟨[.o 0],_,[],[],[56]⟩,⟨[.o 4],_,[],[],[57]⟩,⟨[.o 3],_,[],[],[58]⟩,⟨[.p 1 0,.p 2 0],_,[],[1,2],[59]⟩,⟨[.p 0 0,.p 3 0],[(60,(pOwn Zz 116 0 (some cap) (a0.map some ++ List.replicate (a0.length + a2.length - (a0.map some).length) none)))],[],[0,1,2,3],[60]⟩,⟨[.p 4 0],_,[],[0,1,2,3,4],[0]⟩]) (F:=[.p 5 0,.o 1,.o 2,.o 3]) (hst.pick [0,1,2,3,4] rfl) hb Za
      (Qm rfl u_0<|Qm rfl u_0<|Qm rfl u_0<|o_p rfl (Zbz rfl rfl u_0 u_1 (Ztz (by simp only [List.length_map];omega)))<|o_p rfl (Z12 (h:=a0.length + a2.length) Zdm (by simp) hroom rfl rfl u_0 (Opd.to u_1 (by simp)))<|Qa rfl u_0<|o_n) (fun a g hst hb=>?_)
     have hl1:((a0.map some ++ List.replicate (a0.length + a2.length - (a0.map some).length) none):List (Option Zi)).length=a0.length + a2.length:=by simp
     refine wp_seq ?_
     refine r_s (T:=[⟨[.o 2],_,[],[],[61]⟩,⟨[.o 0],_,[],[],[62]⟩,⟨[.o 1],_,[],[],[63]⟩,⟨[.o 3],_,[],[],[64]⟩,⟨[.p 2 0,.p 3 0],_,[],[2,3],[65]⟩,⟨[.p 1 0,.p 4 0],_,[],[1,2,3,4],[66]⟩,⟨[.p 0 0,.p 5 0,.o 0],_,[],[0,1,2,3,4,5],[67]⟩,⟨[.p 6 0],_,[],[0,1,2,3,4,5,6],[68]⟩]) (F:=[.o 0,.o 1,.o 2,.o 3,.p 7 0]) hst hb Za
      (Qm rfl u_0<|Qm rfl u_0<|Qm rfl u_0<|Qm rfl u_0<|o_p rfl (Zbz rfl rfl u_0 u_1 (Ztz (by omega)))<|o_p rfl (Zic Zdm (by rw [hl1];omega) rfl rfl u_0 u_1)<|o_p rfl (Z1y (s:=0) Zdm rfl Zbbv (by rw [hl1];omega) rfl rfl u_0 u_1 u_2)<|Qn rfl u_0<|o_n) (fun a g hst hb=>?_)
     refine wp_cond_split (hst.bool 4 rfl) (fun hc3=>?_) (fun hc3=>absurd hc3 (by simp))
     refine r_s (L:=[(0,_),(1,_),(2,_),(7,_)]) (T:=[⟨[.o 0],_,[],[],[69]⟩,⟨[.o 1],_,[],[],[70]⟩,⟨[.o 3],_,[],[],[71]⟩,⟨[.p 1 0,.p 2 0],_,[],[1,2],[72]⟩,⟨[.p 0 0,.p 3 0],_,[],[0,1,2,3],[73]⟩,⟨[.o 0],_,[],[],[74]⟩,⟨[.o 1],_,[],[],[75]⟩,⟨[.p 5 0,.p 6 0],_,[],[5,6],[76]⟩,⟨[.p 4 0,.p 7 0,.o 0,.o 0],_,[1],[0,1,2,3,4,5,6,7],[77,0,69,73,74,76]⟩]) (F:=[.p 8 1,.o 1,.o 2,.o 3]) (hst.pick [0,1,2,3] rfl) hb Za
      (Qm rfl u_0<|Qm rfl u_0<|Qm rfl u_0<|o_p rfl (Zbz rfl rfl u_0 u_1 (Ztz (by omega)))<|o_p rfl (Zic Zdm (by rw [hl1];omega) rfl rfl u_0 u_1)<|Qm rfl u_0<|Qm rfl u_0<|o_p rfl (Zic Zdm (by rw [hl1];omega) rfl rfl u_0 u_1)<|o_p rfl (Zz9 (s:=0) (s2:=0) (ws:=a0.drop k) Zdm (by rw [hl1];omega) (by rw [hl1];omega) (by rw [hl1,List.length_drop];have hm1:Nat.min (a0.length + a2.length - k) (a0.length + a2.length - (k + a2.length))=a0.length + a2.length - (k + a2.length):=Nat.min_eq_right (by omega);rw [hm1];omega) (fun i x hx=>by have hi:=(List.getElem?_eq_some_iff.1 hx).1;rw [List.length_drop] at hi;rw [List.getElem?_drop] at hx;rw [List.getElem?_append_left (by simp;omega),List.getElem?_map,hx];rfl) rfl rfl (by decide) u_0 u_1 u_2 u_3)<|o_n) (fun a g hst hb=>?_)
     have hl2:(over ((a0.map some ++ List.replicate (a0.length + a2.length - (a0.map some).length) none):List (Option Zi)) (k + a2.length) (a0.drop k)).length=a0.length + a2.length:=by rw [Zm1 (by rw [hl1,List.length_drop];omega),hl1]
     refine r_s (T:=[⟨[.o 0],_,[],[],[78]⟩,⟨[.o 1],_,[],[],[79]⟩,⟨[.p 0 0,.p 1 0],_,[],[0,1],[80]⟩,⟨[.o 2],_,[],[],[81]⟩,⟨[.p 2 0,.p 3 0,.o 0],_,[1],[0,1,2,3],[82,0,78,80]⟩]) (F:=[.p 4 1]) hst hb Za
      (Qm rfl u_0<|Qm rfl u_0<|o_p rfl (Zic Zdm (by rw [hl2];omega) rfl rfl u_0 u_1)<|Qm rfl u_0<|o_p rfl (Z0o (s:=0) Zdm (by rw [hl2];omega) (by rw [hl2];omega) rfl rfl (by decide) u_0 u_1 u_2)<|o_n) (fun a g hst hb=>?_)
     refine r_s (T:=[⟨[.o 0],_,[],[],[83]⟩,⟨[.p 0 0],_,[],[0],[6]⟩]) (F:=[.p 1 0]) hst hb Za
      (Qm rfl u_0<|Qa rfl u_0<|o_n) (fun a g hst hb=>?_)
     refine wp_ret ?_
     refine Zp ?_
     have hq:=hst.at 0 rfl
     rw [ins2 hk] at hq
     exact Zrd rfl hst hb (Zg (s:=6)) hq
theorem Z0v (a0:Zb) (a1:Zm) (a2:Zc) {r:Int × Zb × Zc} (h:Zl7 a0 a1 a2=some r):FnB Tryz.prog 126 [.box Ze a0 r.2.1,.val (Zy.pd a1),.box Zj a2 r.2.2] (pInt .i64 r.1):=by
 have H0:=h
 unfold Zl7 at H0
 clear h
 refine Zkt (N:=46) Tryz.func126 rfl rfl (Qe rfl) rfl rfl (fun a g0 bs hbs hst hb=>?_)
 obtain ⟨b0,b2,rfl⟩:=Zmn hbs
 replace hst:St 46 [(0,(Zcb (some b0) Ze 0 a0)),(1,(Zy.pd a1)),(2,(Zcb (some b2) Zj 2 a2))] _ _:=hst
 refine r_s (T:=[⟨[.o 1],_,[],[],[4]⟩,⟨[],_,[],[],[6]⟩]) (F:=[.o 0,.o 2,.p 0 0]) hst hb Za
  (Qb rfl u_0<|Qa rfl c_i<|o_n) (fun a g hst hb=>?_)
 obtain ⟨r1,h2,H0⟩:=Zd H0
 refine r_s (T:=⟨[.o 0],_,[],[],[10]⟩ :: ⟨[.p 0 0],_,[],[0],[11]⟩ :: ⟨[.p 1 0],_,[],[0,1],[12]⟩ :: ⟨[.p 2 0],_,[],[0,1,2],[13]⟩ :: ⟨[.o 2],_,[],[],[14]⟩ :: ⟨[.p 4 0],_,[],[4],[15]⟩ :: ⟨[.p 3 0,.p 5 0],_,[],Lr 6,[16]⟩ :: ⟨[.p 6 0],_,[],Lr 7,[9]⟩ :: ⟨[.p 7 0],_,[],Lr 8,[17]⟩ :: ⟨[.p 7 0],_,[],Lr 8,[18]⟩ :: ⟨[.p 8 0],_,[],Lr 9,[7]⟩ :: ⟨[.p 9 0],_,[],Lr 11,[8]⟩ :: []) (F:=[.o 0,.o 1,.o 2,.p 10 0,.p 11 0]) hst hb Za
  (Qm rfl u_0<|o_p rfl (Zo rfl rfl u_0 (fun _ _ ⟨_,_,_,e,_⟩=>⟨_,e⟩))<|o_p rfl (Zr Zcc (off:=7) (by kernel_rfl) rfl rfl u_0)<|QP rfl Zdc u_0<|Qf rfl Zfs u_0<|Ql rfl ty_9 u_0<|o_p rfl (Zl Z0r (Zpv _ _ h2) rfl rfl (.cons u_0 (.cons u_1 .nil)))<|Qm rfl u_0<|o_p rfl (Z2 rfl rfl u_0 rfl)<|o_p rfl (Z2 rfl rfl u_0 rfl)<|Qa rfl u_0<|Qa rfl u_0<|o_n) (fun a g hst hb=>?_)
 refine wp_seq ?_
 refine wp_block ?_
 refine r_s (T:=[⟨[.o 4],_,[],[],[20]⟩,⟨[.p 0 0],_,[],[0],[19]⟩]) (F:=[.o 0,.o 1,.o 2,.o 3,.p 1 0]) hst hb Za
  (Qm rfl u_0<|Qa rfl u_0<|o_n) (fun a g hst hb=>?_)
 refine wp_cond_split (hst.bool 4 rfl) (fun hc3=>?_) (fun hc3=>?_)
 ·replace H0:=Zu hc3 H0
  refine r_s (L:=[(0,_),(2,_)]) (T:=[⟨[],_,[],[],[6]⟩]) (F:=[.o 0,.o 1,.p 0 0]) (hst.pick [0,1] rfl) hb Za
   (Qa rfl c_i<|o_n) (fun a g hst hb=>?_)
  refine wp_ret ?_
  refine Z5 ?_
  refine Zp ?_
  obtain rfl:=Option.some.inj H0
  exact Zit rfl hst hb (Zg (s:=6)) (hst.at 2 rfl) ⟨Zc5 (hst.at 0 rfl),Zc5 (hst.at 1 rfl),trivial⟩
 ·replace H0:=Zt hc3 H0
  refine r_s (L:=[(0,_),(2,_),(4,_),(7,_)]) (T:=[⟨[.o 0],_,[],[],[22]⟩,⟨[.p 0 0],_,[],[0],[23]⟩,⟨[.p 1 0],_,[],[0,1],[24]⟩,⟨[.p 2 0],_,[],[0,1,2],[25]⟩,⟨[.p 3 0],_,[],Lr 4,[26]⟩,⟨[.o 0],_,[],[],[27]⟩,⟨[.p 5 0],_,[],[5],[28]⟩,⟨[.p 6 0],_,[],[5,6],[29]⟩,⟨[.p 7 0],_,[],[5,6,7],[30]⟩,⟨[.p 4 0,.p 8 0],_,[],Lr 9,[31]⟩,⟨[.p 9 0],_,[],Lr 10,[21]⟩]) (F:=[.o 0,.o 1,.o 2,.o 3,.p 10 0]) (hst.pick [0,1,2,3] rfl) hb Za
   (Qm rfl u_0<|o_p rfl (Zo rfl rfl u_0 (fun _ _ ⟨_,_,_,e,_⟩=>⟨_,e⟩))<|o_p rfl (Zr Zcc (off:=7) (by kernel_rfl) rfl rfl u_0)<|QP rfl Zdc u_0<|o_p rfl (Zbv Tryz.underlying36 rfl rfl u_0)<|Qm rfl u_0<|o_p rfl (Zo rfl rfl u_0 (fun _ _ ⟨_,_,_,e,_⟩=>⟨_,e⟩))<|o_p rfl (Zr Zg8 (off:=5) (by kernel_rfl) rfl rfl u_0)<|QP rfl ty_3 u_0<|o_p rfl (Zmz rfl rfl u_0 u_1)<|Qa rfl u_0<|o_n) (fun a g hst hb=>?_)
  refine wp_cond_split (hst.bool 4 rfl) (fun hc4=>?_) (fun hc4=>?_)
  ·replace H0:=Zu hc4 H0
   refine r_s (L:=[(0,_),(2,_)]) (T:=[⟨[],_,[],[],[6]⟩]) (F:=[.o 0,.o 1,.p 0 0]) (hst.pick [0,1] rfl) hb Za
    (Qa rfl c_i<|o_n) (fun a g hst hb=>?_)
   refine wp_ret ?_
   refine Z5 ?_
   refine Zp ?_
   obtain rfl:=Option.some.inj H0
   exact Zit rfl hst hb (Zg (s:=6)) (hst.at 2 rfl) ⟨Zc5 (hst.at 0 rfl),Zc5 (hst.at 1 rfl),trivial⟩
  ·replace H0:=Zt hc4 H0
   refine wp_skip ?_
   refine Zbc ?_
   refine Zq ?_
   obtain ⟨r5,h6,H0⟩:=Zd H0;obtain ⟨r7,h8,H0⟩:=Zd H0
   refine r_s (L:=[(0,_),(2,_),(4,_),(7,_)]) (T:=⟨[.o 0],_,[],[],[32]⟩ :: ⟨[.o 0],_,[],[],[33]⟩ :: ⟨[.p 1 0],_,[],[1],[34]⟩ :: ⟨[.p 2 0],_,[],[1,2],[35]⟩ :: ⟨[.p 3 0],_,[],[1,2,3],[36]⟩ :: ⟨[.p 4 0],_,[38],List.range' 1 4,[37]⟩ :: ⟨[.o 3],_,[],[],[38]⟩ :: ⟨[.o 2],_,[],[],[39]⟩ :: ⟨[.p 7 0],_,[],[7],[40]⟩ :: ⟨[.p 8 0],_,[],[7,8],[41]⟩ :: ⟨[.p 9 0],_,[],[7,8,9],[42]⟩ :: ⟨[.p 5 0,.p 6 0,.p 10 0],_,[38],List.range' 1 10,[37,43]⟩ :: ⟨[.p 0 0],_,[],Lr 12,[44]⟩ :: ⟨[.p 12 0],_,[],Lr 13,[45]⟩ :: ⟨[.p 11 0,.p 13 0,.o 0],_,[1],Lr 14,[0,32,33,34,35,44,45]⟩ :: []) (F:=[.p 14 0,.o 1]) (hst.pick [0,1,2,3] rfl) hb Za
    (Qm rfl u_0<|Qm rfl u_0<|o_p rfl (Zo rfl rfl u_0 (fun _ _ ⟨_,_,_,e,_⟩=>⟨_,e⟩))<|o_p rfl (Zr Zcc (off:=7) (by kernel_rfl) rfl rfl u_0)<|QP rfl Zdc u_0<|o_p rfl (Zl5 (j:=37) Zzp (Zf6 _ h6) rfl rfl (.cons u_0 .nil))<|Qm rfl u_0<|Qf rfl Zfs u_0<|Ql rfl ty_9 u_0<|o_p rfl (Z0g rfl rfl u_0)<|o_p rfl (Zhd Zdm (xs:=[.tmp 41]) (.cons u_0 .nil) (by decide) rfl rfl)<|o_p rfl (Zrs Z40 (Zi3 _ _ _ h8) rfl rfl rfl u_0 (.cons u_1 (.cons u_2 .nil)))<|o_p rfl (Zo rfl rfl u_0 (fun _ _ ⟨_,_,_,e,_⟩=>⟨_,e⟩))<|o_p rfl (Zr Zcc (off:=7) (by kernel_rfl) rfl rfl u_0)<|o_p rfl (Zne Zdc rfl rfl u_2 u_1 u_0)<|o_n) (fun a g hst hb=>?_)
   refine r_s (T:=[⟨[],_,[],[],[6]⟩]) (F:=[.o 0,.o 1,.p 0 0]) hst hb Za
    (Qa rfl c_i<|o_n) (fun a g hst hb=>?_)
   refine wp_ret ?_
   obtain rfl:=Option.some.inj H0
   exact Zit rfl hst hb (Zg (s:=6)) (hst.at 2 rfl) ⟨Zc5 (hst.at 0 rfl),Zc5 (hst.at 1 rfl),trivial⟩
theorem Zmt (a0:List Zi) (a1 a2:Int) {r:List Zi} (h:Zfr a0 a1 a2=some r):Zzn Tryz.prog 129 Zz 116 a0 [(pInt .i64 a1),(pInt .i64 a2)] (Zz.sl.pd r):=by
 unfold Zfr at h
 obtain ⟨⟨hpos,hi0,hij,hj,hsz⟩,H0⟩:=Zev h
 obtain rfl:=Option.some.inj H0
 obtain ⟨k,rfl⟩:=Int.eq_ofNat_of_zero_le hi0
 obtain ⟨l,rfl⟩:=Int.eq_ofNat_of_zero_le (Int.le_trans hi0 hij)
 have hkl:k ≤ l:=by omega
 have hl:l ≤ a0.length:=by omega
 simp only [Int.toNat_natCast]
 refine Z0b (N:=33) Tryz.func129 rfl rfl (Qe rfl) rfl (fun hx a g A0 hst hb=>?_) (fun a g cap hcap hmax hst hb=>?_)
 ·rw [hx] at hpos;cases hpos
 ·refine r_s (T:=[⟨[],[(6,(Zz.sl.pd []))],[],[],[6]⟩]) (F:=[.o 0,.o 1,.o 2]) hst hb Za
   (o_p rfl (Zch rfl rfl (Opd.c (fun g=>Zhe g)))<|o_n) (fun a g hst hb=>?_)
  refine r_s (T:=[⟨[.o 0],_,[],[],[8]⟩,⟨[.o 1],_,[],[],[9]⟩,⟨[.o 2],_,[],[],[10]⟩,⟨[.o 0],_,[],[],[11]⟩,⟨[.p 3 0],_,[],[3],[12]⟩,⟨[.p 0 0,.p 1 0,.p 2 0,.p 4 0],[],[],[0,1,2,3,4],[13]⟩]) (F:=[.o 0,.o 1,.o 2]) hst hb Za
   (Qm rfl u_0<|Qm rfl u_0<|Qm rfl u_0<|Qm rfl u_0<|o_p rfl (Zt7 Tryz.underlying36 rfl rfl u_0)<|o_p rfl (Z46 Zdm hkl (by simpa using hl) (Nat.le_refl _) rfl u_0 u_1 u_2 u_3)<|o_n) (fun a g hst hb=>?_)
  refine wp_seq ?_
  refine r_s (T:=[⟨[.o 1],_,[],[],[14]⟩,⟨[.o 2],_,[],[],[15]⟩,⟨[.p 0 0,.p 1 0],_,[],[0,1],[16]⟩]) (F:=[.o 0,.o 1,.o 2,.p 2 0]) hst hb Za
   (Qm rfl u_0<|Qm rfl u_0<|o_p rfl (Zbr rfl rfl u_0 u_1)<|o_n) (fun a g hst hb=>?_)
  refine wp_cond_split (hst.bool 3 rfl) (fun hc=>?_) (fun hc=>?_)
  ·refine r_s (L:=[(0,_)]) (T:=[⟨[.o 0],_,[],[],[17]⟩,⟨[.p 0 0],_,[],[0],[6]⟩]) (F:=[.p 1 0]) (hst.pick [0] rfl) hb Za
    (Qm rfl u_0<|Qa rfl u_0<|o_n) (fun a g hst hb=>?_)
   refine wp_ret ?_
   refine Zp ?_
   have hq:=hst.at 0 rfl
   have hkl2:=beq_iff_eq.1 hc
   have he:a0.take k ++ a0.drop l=a0:=by rw [show l=k by omega,List.take_append_drop]
   rw [he]
   exact Zrd rfl hst hb (Zg (s:=6)) hq
  ·refine wp_skip ?_
   refine Zq ?_
   refine r_s (L:=[(0,_),(1,_),(2,_)]) (T:=[⟨[.o 0],_,[],[],[18]⟩,⟨[.p 0 0],_,[],[0],[19]⟩,⟨[.p 1 0],_,[],[0,1],[7]⟩]) (F:=[.o 0,.o 1,.o 2,.p 2 0]) (hst.pick [0,1,2] rfl) hb Za
    (Qm rfl u_0<|o_p rfl (Zt7 Tryz.underlying36 rfl rfl u_0)<|Qa rfl u_0<|o_n) (fun a g hst hb=>?_)
   refine r_s (T:=[⟨[.o 0],_,[],[],[20]⟩,⟨[.o 1],_,[],[],[21]⟩,⟨[.p 0 0,.p 1 0],_,[],[0,1],[22]⟩,⟨[.o 0],_,[],[],[23]⟩,⟨[.o 2],_,[],[],[24]⟩,⟨[.p 3 0,.p 4 0],_,[],[3,4],[25]⟩,⟨[.p 2 0,.p 5 0,.o 0],[(26,(pOwn Zz 116 0 (some cap) ((a0.take k ++ a0.drop l).map some)))],[1],[0,1,2,3,4,5],[26,0,20,22,23,25]⟩,⟨[.p 6 0],_,[],[0,1,2,3,4,5,6],[0]⟩]) (F:=[.p 7 0,.o 3]) hst hb Za
    (Qm rfl u_0<|Qm rfl u_0<|o_p rfl (Ztd Zdm (by simp;omega) rfl rfl u_0 u_1)<|Qm rfl u_0<|Qm rfl u_0<|o_p rfl (Zic Zdm (by simpa using hl) rfl rfl u_0 u_1)<|o_p rfl (Z4w (s:=0) (k:=cap) (xs:=a0.take k) (ws:=a0.drop l) Zdm (by simp;omega) (by simp;omega) (by simp;omega) (by simp) (Zwx a0 k) (Z4f a0 l) rfl rfl u_0 u_1 u_2)<|Qa rfl u_0<|o_n) (fun a g hst hb=>?_)
   have hl2:((a0.take k ++ a0.drop l).map some).length=k + (a0.length - l):=by simp;omega
   refine r_s (T:=[⟨[.o 0],_,[],[],[27]⟩,⟨[.o 0],_,[],[],[28]⟩,⟨[.p 1 0],_,[],[1],[29]⟩,⟨[.o 1],_,[],[],[30]⟩,⟨[.p 0 0,.p 2 0,.p 3 0],_,[],[0,1,2,3],[31]⟩,⟨[.p 4 0,.o 0],_,[1],[0,1,2,3,4],[0,27,28,31]⟩]) (F:=[.p 5 0]) hst hb Za
    (Qm rfl u_0<|Qm rfl u_0<|o_p rfl (Zt7 Tryz.underlying36 rfl rfl u_0)<|Qm rfl u_0<|o_p rfl (Z5t (k:=cap) Zdm (by rw [hl2,List.length_map];omega) (by rw [List.length_map];omega) rfl rfl u_0 u_1 u_2)<|o_p rfl (Z5y (s:=0) (k:=cap) Zdm (by kernel_rfl) (Nat.le_refl _) (by rw [hl2,List.length_map];omega) rfl rfl u_0 u_1)<|o_n) (fun a g hst hb=>?_)
   refine r_s (T:=[⟨[.o 0],_,[],[],[32]⟩,⟨[.p 0 0],_,[],[0],[6]⟩]) (F:=[.p 1 0]) hst hb Za
    (Qm rfl u_0<|Qa rfl u_0<|o_n) (fun a g hst hb=>?_)
   refine wp_ret ?_
   exact Zrd rfl hst hb (Zg (s:=6)) (hst.at 0 rfl)
theorem Zuj (a0:Zb) (a1:Zm) (a2:Zc) {r:Int × Zb × Zc} (h:Zkp a0 a1 a2=some r):FnB Tryz.prog 127 [.box Ze a0 r.2.1,.val (Zy.pd a1),.box Zj a2 r.2.2] (pInt .i64 r.1):=by
 have H0:=h
 unfold Zkp at H0
 clear h
 refine Zkt (N:=32) Tryz.func127 rfl rfl (Qe rfl) rfl rfl (fun a g0 bs hbs hst hb=>?_)
 obtain ⟨b0,b2,rfl⟩:=Zmn hbs
 replace hst:St 32 [(0,(Zcb (some b0) Ze 0 a0)),(1,(Zy.pd a1)),(2,(Zcb (some b2) Zj 2 a2))] _ _:=hst
 refine r_s (T:=[⟨[.o 1],_,[],[],[4]⟩,⟨[],_,[],[],[6]⟩]) (F:=[.o 0,.o 2,.p 0 0]) hst hb Za
  (Qb rfl u_0<|Qa rfl c_i<|o_n) (fun a g hst hb=>?_)
 refine wp_seq ?_
 obtain ⟨r1,h2,H0⟩:=Zd H0
 refine r_s (T:=⟨[.o 0],_,[],[],[10]⟩ :: ⟨[.p 0 0],_,[],[0],[11]⟩ :: ⟨[.p 1 0],_,[],[0,1],[12]⟩ :: ⟨[.p 2 0],_,[],[0,1,2],[13]⟩ :: ⟨[.o 2],_,[],[],[14]⟩ :: ⟨[.p 4 0],_,[],[4],[15]⟩ :: ⟨[.p 3 0,.p 5 0],_,[],Lr 6,[16]⟩ :: ⟨[.p 6 0],_,[],Lr 7,[9]⟩ :: ⟨[.p 7 0],_,[],Lr 8,[17]⟩ :: ⟨[.p 7 0],_,[],Lr 8,[18]⟩ :: ⟨[.p 8 0],_,[],Lr 9,[7]⟩ :: ⟨[.p 9 0],_,[],Lr 11,[8]⟩ :: []) (F:=[.o 0,.o 1,.p 10 0,.p 11 0]) hst hb Za
  (Qm rfl u_0<|o_p rfl (Zo rfl rfl u_0 (fun _ _ ⟨_,_,_,e,_⟩=>⟨_,e⟩))<|o_p rfl (Zr Zcc (off:=7) (by kernel_rfl) rfl rfl u_0)<|QP rfl Zdc u_0<|Qf rfl Zfs u_0<|Ql rfl ty_9 u_0<|o_p rfl (Zl Z0r (Zpv _ _ h2) rfl rfl (.cons u_0 (.cons u_1 .nil)))<|Qm rfl u_0<|o_p rfl (Z2 rfl rfl u_0 rfl)<|o_p rfl (Z2 rfl rfl u_0 rfl)<|Qa rfl u_0<|Qa rfl u_0<|o_n) (fun a g hst hb=>?_)
 refine r_s (T:=[⟨[.o 3],_,[],[],[19]⟩]) (F:=[.o 0,.o 1,.o 2,.p 0 0]) hst hb Za
  (Qm rfl u_0<|o_n) (fun a g hst hb=>?_)
 refine Zb3 (fun a w=>∃ (j8:Zb) (g:G),w=g.w ∧ St 32 [(0,(Zcb (some b0) Ze 0 j8)),(2,(Zcb (some b2) Zj 2 a2))] a g ∧ Base g0 g ∧ Zkn a2 j8=some r) ?_ ?_
 ·rintro a w ⟨j8,g,rfl,hst,hb,H0⟩
  unfold Zkn at H0
  refine Zq ?_
  refine r_s (T:=[⟨[],_,[],[],[6]⟩]) (F:=[.o 0,.o 1,.p 0 0]) hst hb Za
   (Qa rfl c_i<|o_n) (fun a g hst hb=>?_)
  refine wp_ret ?_
  obtain rfl:=Option.some.inj H0
  exact Zit rfl hst hb (Zg (s:=6)) (hst.at 2 rfl) ⟨Zc5 (hst.at 0 rfl),Zc5 (hst.at 1 rfl),trivial⟩
 ·refine wp_cond_split (hst.bool 3 rfl) (fun hc3=>?_) (fun hc3=>?_)
  ·replace H0:=Zu hc3 H0
   obtain ⟨r4,h5,H0⟩:=Zd H0;obtain ⟨r6,h7,H0⟩:=Zd H0
   refine r_g (L:=[(0,_),(2,_),(7,_)]) (T:=⟨[.o 0],_,[],[],[20]⟩ :: ⟨[.o 0],_,[],[],[21]⟩ :: ⟨[.p 1 0],_,[],[1],[22]⟩ :: ⟨[.p 2 0],_,[],[1,2],[23]⟩ :: ⟨[.p 3 0],_,[],[1,2,3],[24]⟩ :: ⟨[.p 4 0],_,[26],List.range' 1 4,[25]⟩ :: ⟨[.o 2],_,[],[],[26]⟩ :: ⟨[.o 2],_,[],[],[27]⟩ :: ⟨[.p 7 0],_,[],[7],[28]⟩ :: ⟨[.p 5 0,.p 6 0,.p 8 0],_,[26],List.range' 1 8,[25,29]⟩ :: ⟨[.p 0 0],_,[],Lr 10,[30]⟩ :: ⟨[.p 10 0],_,[],Lr 11,[31]⟩ :: ⟨[.p 9 0,.p 11 0,.o 0],_,[1],Lr 12,[0,20,21,22,23,30,31]⟩ :: []) (F:=[.p 12 0,.o 1]) (hst.pick [0,1,2] rfl) hb Za
    (Qm rfl u_0<|Qm rfl u_0<|o_p rfl (Zo rfl rfl u_0 (fun _ _ ⟨_,_,_,e,_⟩=>⟨_,e⟩))<|o_p rfl (Zr Zcc (off:=7) (by kernel_rfl) rfl rfl u_0)<|QP rfl Zdc u_0<|o_p rfl (Zl5 (j:=25) Zzp (Zf6 _ h5) rfl rfl (.cons u_0 .nil))<|Qm rfl u_0<|Qm rfl u_0<|o_p rfl (Zbz rfl rfl u_0 c_i rfl)<|o_p rfl (Zrs Zbbx (Zmt _ _ _ h7) rfl rfl rfl u_0 (.cons u_1 (.cons u_2 .nil)))<|o_p rfl (Zo rfl rfl u_0 (fun _ _ ⟨_,_,_,e,_⟩=>⟨_,e⟩))<|o_p rfl (Zr Zcc (off:=7) (by kernel_rfl) rfl rfl u_0)<|o_p rfl (Zne Zdc rfl rfl u_2 u_1 u_0)<|o_n) (fun a g hst hb=>?_)
   exact ⟨({ a0 with List:=r6 }),g,rfl,(hst.pick [0,1] rfl),hb,H0⟩
  ·replace H0:=Zt hc3 H0
   refine wp_skip ?_
   exact ⟨a0,g,rfl,(hst.pick [0,1] rfl),hb,H0⟩
theorem Zun (a0:Zb) (a1:Zm) (a2:Zc) {r:Int × Zb × Zc} (h:Zgg a0 a1 a2=some r):FnB Tryz.prog 130 [.box Ze a0 r.2.1,.val (Zy.pd a1),.box Zj a2 r.2.2] (pInt .i64 r.1):=by
 have H0:=h
 unfold Zgg at H0
 clear h
 refine Zkt (N:=21) Tryz.func130 rfl rfl (Qe rfl) rfl rfl (fun a g0 bs hbs hst hb=>?_)
 obtain ⟨b0,b2,rfl⟩:=Zmn hbs
 replace hst:St 21 [(0,(Zcb (some b0) Ze 0 a0)),(1,(Zy.pd a1)),(2,(Zcb (some b2) Zj 2 a2))] _ _:=hst
 refine r_s (T:=[⟨[.o 1],_,[],[],[4]⟩,⟨[],_,[],[],[6]⟩]) (F:=[.o 0,.o 2,.p 0 0]) hst hb Za
  (Qb rfl u_0<|Qa rfl c_i<|o_n) (fun a g hst hb=>?_)
 refine wp_seq ?_
 obtain ⟨r1,h2,H0⟩:=Zd H0
 refine r_s (T:=⟨[.o 0],_,[],[],[10]⟩ :: ⟨[.p 0 0],_,[],[0],[11]⟩ :: ⟨[.p 1 0],_,[],[0,1],[12]⟩ :: ⟨[.p 2 0],_,[],[0,1,2],[13]⟩ :: ⟨[.o 2],_,[],[],[14]⟩ :: ⟨[.p 4 0],_,[],[4],[15]⟩ :: ⟨[.p 3 0,.p 5 0],_,[],Lr 6,[16]⟩ :: ⟨[.p 6 0],_,[],Lr 7,[9]⟩ :: ⟨[.p 7 0],_,[],Lr 8,[17]⟩ :: ⟨[.p 7 0],_,[],Lr 8,[18]⟩ :: ⟨[.p 8 0],_,[],Lr 9,[7]⟩ :: ⟨[.p 9 0],_,[],Lr 11,[8]⟩ :: []) (F:=[.o 0,.o 1,.p 11 0]) hst hb Za
  (Qm rfl u_0<|o_p rfl (Zo rfl rfl u_0 (fun _ _ ⟨_,_,_,e,_⟩=>⟨_,e⟩))<|o_p rfl (Zr Zcc (off:=7) (by kernel_rfl) rfl rfl u_0)<|QP rfl Zdc u_0<|Qf rfl Zfs u_0<|Ql rfl ty_9 u_0<|o_p rfl (Zl Z0r (Zpv _ _ h2) rfl rfl (.cons u_0 (.cons u_1 .nil)))<|Qm rfl u_0<|o_p rfl (Z2 rfl rfl u_0 rfl)<|o_p rfl (Z2 rfl rfl u_0 rfl)<|Qa rfl u_0<|Qa rfl u_0<|o_n) (fun a g hst hb=>?_)
 refine r_s (T:=[⟨[.o 2],_,[],[],[19]⟩,⟨[.p 0 0],_,[],[0],[20]⟩]) (F:=[.o 0,.o 1,.p 1 0]) hst hb Za
  (Qm rfl u_0<|Qn rfl u_0<|o_n) (fun a g hst hb=>?_)
 refine wp_cond_split (hst.bool 2 rfl) (fun hc3=>?_) (fun hc3=>?_)
 ·replace H0:=Zu hc3 H0
  refine r_s (L:=[(0,_),(2,_)]) (T:=[⟨[],_,[],[],[6]⟩]) (F:=[.o 0,.o 1,.p 0 0]) (hst.pick [0,1] rfl) hb Za
   (Qa rfl c_i<|o_n) (fun a g hst hb=>?_)
  refine wp_ret ?_
  refine Zp ?_
  obtain rfl:=Option.some.inj H0
  exact Zit rfl hst hb (Zg (s:=6)) (hst.at 2 rfl) ⟨Zc5 (hst.at 0 rfl),Zc5 (hst.at 1 rfl),trivial⟩
 ·replace H0:=Zt hc3 H0
  refine wp_skip ?_
  refine Zq ?_
  refine r_s (L:=[(0,_),(2,_)]) (T:=[⟨[],_,[],[],[6]⟩]) (F:=[.o 0,.o 1,.p 0 0]) (hst.pick [0,1] rfl) hb Za
   (Qa rfl c_i<|o_n) (fun a g hst hb=>?_)
  refine wp_ret ?_
  obtain rfl:=Option.some.inj H0
  exact Zit rfl hst hb (Zg (s:=6)) (hst.at 2 rfl) ⟨Zc5 (hst.at 0 rfl),Zc5 (hst.at 1 rfl),trivial⟩
theorem Zzb (a0:Zb) (a1:Zm) (a2:Zc) {r:Int × Zb × Zc} (h:Zk9 a0 a1 a2=some r):FnB Tryz.prog 131 [.box Ze a0 r.2.1,.val (Zy.pd a1),.box Zj a2 r.2.2] (pInt .i64 r.1):=by
 have H0:=h
 unfold Zk9 at H0
 clear h
 refine Zkt (N:=75) Tryz.func131 rfl rfl (Qe rfl) rfl rfl (fun a g0 bs hbs hst hb=>?_)
 obtain ⟨b0,b2,rfl⟩:=Zmn hbs
 replace hst:St 75 [(0,(Zcb (some b0) Ze 0 a0)),(1,(Zy.pd a1)),(2,(Zcb (some b2) Zj 2 a2))] _ _:=hst
 refine r_s (T:=[⟨[.o 1],_,[],[],[4]⟩,⟨[],_,[],[],[6]⟩]) (F:=[.o 0,.o 2,.p 0 0]) hst hb Za
  (Qb rfl u_0<|Qa rfl c_i<|o_n) (fun a g hst hb=>?_)
 refine r_s (T:=[⟨[.o 2],_,[],[],[10]⟩,⟨[.p 0 0],_,[],[0],[11]⟩,⟨[.o 2],_,[],[],[12]⟩,⟨[.p 2 0],_,[],[2],[13]⟩,⟨[.p 1 0,.p 3 0],_,[],Lr 4,[14]⟩,⟨[],[(7,(pBox Zz 7 (default:Zi)))],[8],[],[7]⟩,⟨[.p 4 0,.p 5 0],_,[8],Lr 6,[7]⟩]) (F:=[.o 0,.o 1,.p 6 0]) hst hb Za
  (Qf rfl Ziu u_0<|Ql rfl Zc0 u_0<|Qf rfl Zfs u_0<|Ql rfl ty_9 u_0<|o_p rfl (Zvw rfl rfl u_0 u_1)<|o_p rfl (Zbh (zs:=[.float .f64 0,.string ByteArray.empty]) (by kernel_rfl) (fun g=>Zlj g) rfl rfl)<|o_p rfl (Zb6 Zed rfl rfl u_1 u_0)<|o_n) (fun a g hst hb=>?_)
 refine r_s (T:=[⟨[],_,[],[],[8]⟩]) (F:=[.o 0,.o 1,.o 2,.p 0 0]) hst hb Za
  (Qa rfl c_i<|o_n) (fun a g hst hb=>?_)
 obtain ⟨z8,hz1,H0⟩:=Zd H0
 refine wp_seq ?_
 refine Zb3 (fun a w=>∃ (y7:Int) (g:G),w=g.w ∧ St 75 [(0,(Zcb (some b0) Ze 0 a0)),(2,(Zcb (some b2) Zj 2 a2)),(7,(Zz.ptr ({ Score:=a1.X,Name:=a1.S }:Zi))),(8,(pInt .i64 y7))] a g ∧ Base g0 g ∧ y7=z8) ?_ ?_
 ·rintro a w ⟨y7,g,rfl,hst,hb,rfl⟩
  refine Zq ?_
  refine wp_seq ?_
  obtain ⟨e9,h10,H0⟩:=Zd H0;obtain ⟨r11,h12,H0⟩:=Zd H0
  refine r_s (T:=⟨[.o 3],_,[],[],[35]⟩ :: ⟨[.o 0],_,[],[],[36]⟩ :: ⟨[.p 1 0],_,[],[1],[37]⟩ :: ⟨[.p 2 0],_,[],[1,2],[38]⟩ :: ⟨[.p 3 0],_,[],[1,2,3],[39]⟩ :: ⟨[.p 4 0],_,[],List.range' 1 4,[40]⟩ :: ⟨[.p 0 0,.p 5 0],_,[],Lr 6,[41]⟩ :: ⟨[.p 6 0],_,[],Lr 7,[42]⟩ :: ⟨[.p 7 0,.o 2],_,[],Lr 8,[43]⟩ :: ⟨[.p 7 0,.o 0],_,[],Lr 8,[44]⟩ :: ⟨[.p 7 0,.p 9 0],_,[],[0,1,2,3,4,5,6,7,9],[45]⟩ :: ⟨[.p 7 0,.p 10 0],_,[],[0,1,2,3,4,5,6,7,9,10],[46]⟩ :: ⟨[.p 7 0,.p 11 0],_,[],[0,1,2,3,4,5,6,7,9,10,11],[47]⟩ :: ⟨[.p 7 0,.o 3],_,[],Lr 8,[48]⟩ :: ⟨[.p 7 0,.p 12 0,.p 13 0],_,[],0 :: 1 :: 2 :: 3 :: 4 :: 5 :: 6 :: 7 :: 9 :: 10 :: 11 :: 12 :: 13 :: [],[49]⟩ :: ⟨[.p 7 0,.p 14 0],_,[],0 :: 1 :: 2 :: 3 :: 4 :: 5 :: 6 :: 7 :: 9 :: 10 :: 11 :: 12 :: 13 :: 14 :: [],[50]⟩ :: ⟨[.p 7 0,.p 8 0,.p 15 0],_,[],Lr 16,[51]⟩ :: ⟨[.p 7 0,.p 16 0],_,[],Lr 17,[52]⟩ :: ⟨[.p 7 0,.p 17 0],_,[],Lr 18,[53]⟩ :: []) (F:=[.o 0,.o 1,.o 2,.o 3,.p 18 0]) hst hb Za
   (Qm rfl u_0<|Qm rfl u_0<|o_p rfl (Zo rfl rfl u_0 (fun _ _ ⟨_,_,_,e,_⟩=>⟨_,e⟩))<|o_p rfl (Zr Zcc (off:=7) (by kernel_rfl) rfl rfl u_0)<|QP rfl Zdc u_0<|o_p rfl (Zbv Tryz.underlying36 rfl rfl u_0)<|o_p rfl (Zca rfl rfl u_0 u_1)<|Qm rfl u_0<|o_g (Qg_t rfl (fun hG=>Zs Zed rfl rfl u_0))<|o_g (Qg_t rfl (fun hG=>Z1 rfl rfl u_0))<|o_g (Qg_t rfl (fun hG=>Zo rfl rfl (Opd.gd hG u_0) (fun _ _ ⟨_,_,_,e,_⟩=>⟨_,e⟩)))<|o_g (Qg_t rfl (fun hG=>Zr Zcc (off:=7) (by kernel_rfl) rfl rfl (Opd.gd hG u_0)))<|o_g (Qg_t rfl (fun hG=>Zh3 Zdc rfl rfl (Opd.gd hG u_0)))<|o_g (Qg_t rfl (fun hG=>Z1 rfl rfl u_0))<|o_g (Qg_t rfl (fun hG=>Zbi Tryz.underlying36 Zfb rfl rfl (Opd.gd hG u_0) (Opd.gd hG u_1) (Zbn h10 hG)))<|o_g (Qg_t rfl (fun hG=>Zs Zed rfl rfl (Opd.gd hG u_0)))<|o_g (Qg_t rfl (fun hG=>Zl Zz5 (Zo9 _ _ (Zbn h12 hG)) rfl rfl (.cons (Opd.gd hG u_0) (.cons (Opd.gd hG u_1) .nil))))<|o_g (Qg_t rfl (fun hG=>Zfh rfl rfl (Opd.gd hG u_0)))<|o_p rfl (Zbg rfl rfl u_0 (fun hz=>(Opd.gd hz u_1)))<|o_n) (fun a g hst hb=>?_)
  refine wp_cond_split (hst.bool 4 rfl) (fun hc13=>?_) (fun hc13=>?_)
  ·replace H0:=Zu hc13 H0
   refine r_s (L:=[(0,_),(2,_)]) (T:=[⟨[],_,[],[],[6]⟩]) (F:=[.o 0,.o 1,.p 0 0]) (hst.pick [0,1] rfl) hb Za
    (Qa rfl c_i<|o_n) (fun a g hst hb=>?_)
   refine wp_ret ?_
   refine Zp ?_
   obtain rfl:=Option.some.inj H0
   exact Zit rfl hst hb (Zg (s:=6)) (hst.at 2 rfl) ⟨Zc5 (hst.at 0 rfl),Zc5 (hst.at 1 rfl),trivial⟩
  ·replace H0:=Zt hc13 H0
   refine wp_skip ?_
   refine Zq ?_
   obtain ⟨r14,h15,H0⟩:=Zd H0;obtain ⟨r16,h17,H0⟩:=Zd H0
   refine r_s (L:=[(0,_),(2,_),(7,_),(8,_)]) (T:=[⟨[.o 0],_,[],[],[54]⟩,⟨[.p 0 0],_,[],[0],[55]⟩,⟨[.p 1 0],_,[],[0,1],[56]⟩,⟨[.p 2 0],_,[],[0,1,2],[57]⟩,⟨[.p 3 0],_,[59],Lr 4,[58]⟩,⟨[.o 3],_,[],[],[59]⟩,⟨[.o 2],_,[],[],[60]⟩,⟨[.p 6 0],_,[],[6],[61]⟩,⟨[.p 4 0,.p 5 0,.p 7 0],_,[59],Lr 8,[58,62]⟩,⟨[.p 8 0],_,[],Lr 9,[9]⟩]) (F:=[.o 0,.o 1,.p 9 0]) (hst.pick [0,1,2,3] rfl) hb Za
    (Qm rfl u_0<|o_p rfl (Zo rfl rfl u_0 (fun _ _ ⟨_,_,_,e,_⟩=>⟨_,e⟩))<|o_p rfl (Zr Zcc (off:=7) (by kernel_rfl) rfl rfl u_0)<|QP rfl Zdc u_0<|o_p rfl (Zl5 (j:=58) Zzp (Zf6 _ h15) rfl rfl (.cons u_0 .nil))<|Qm rfl u_0<|Ql rfl Zed u_0<|o_p rfl (Zhd Zdm (xs:=[.tmp 60]) (.cons u_0 .nil) (by decide) rfl rfl)<|o_p rfl (Zrs Z40 (Zi3 _ _ _ h17) rfl rfl rfl u_0 (.cons u_1 (.cons u_2 .nil)))<|Qa rfl u_0<|o_n) (fun a g hst hb=>?_)
   obtain ⟨c18,h19,H0⟩:=Zd H0
   refine r_s (T:=⟨[.o 0],_,[],[],[63]⟩ :: ⟨[.o 2],_,[],[],[64]⟩ :: ⟨[.o 2],_,[],[],[65]⟩ :: ⟨[.p 2 0],_,[],[2],[66]⟩ :: ⟨[.o 0],_,[],[],[67]⟩ :: ⟨[.p 4 0],_,[],[4],[68]⟩ :: ⟨[.p 5 0],_,[],[4,5],[69]⟩ :: ⟨[.p 6 0],_,[],[4,5,6],[70]⟩ :: ⟨[.p 3 0,.p 7 0],_,[],List.range' 2 6,[71]⟩ :: ⟨[.p 1 0,.p 8 0],_,[],List.range' 1 8,[72]⟩ :: ⟨[.p 0 0],_,[],Lr 10,[73]⟩ :: ⟨[.p 10 0],_,[],Lr 11,[74]⟩ :: ⟨[.p 9 0,.p 11 0,.o 0],_,[1],Lr 12,[0,63,67,68,69,73,74]⟩ :: []) (F:=[.p 12 0,.o 1]) hst hb Za
    (Qm rfl u_0<|Qm rfl u_0<|Qm rfl u_0<|o_p rfl (Zbv Tryz.underlying36 rfl rfl u_0)<|Qm rfl u_0<|o_p rfl (Zo rfl rfl u_0 (fun _ _ ⟨_,_,_,e,_⟩=>⟨_,e⟩))<|o_p rfl (Zr Zg8 (off:=5) (by kernel_rfl) rfl rfl u_0)<|QP rfl ty_3 u_0<|o_p rfl (Zbbq rfl rfl u_0 u_1)<|o_p rfl (Zt4 Tryz.underlying36 Zfb rfl rfl u_0 u_1 h19)<|o_p rfl (Zo rfl rfl u_0 (fun _ _ ⟨_,_,_,e,_⟩=>⟨_,e⟩))<|o_p rfl (Zr Zcc (off:=7) (by kernel_rfl) rfl rfl u_0)<|o_p rfl (Zne Zdc rfl rfl u_2 u_1 u_0)<|o_n) (fun a g hst hb=>?_)
   refine r_s (T:=[⟨[],_,[],[],[6]⟩]) (F:=[.o 0,.o 1,.p 0 0]) hst hb Za
    (Qa rfl c_i<|o_n) (fun a g hst hb=>?_)
   refine wp_ret ?_
   obtain rfl:=Option.some.inj H0
   exact Zit rfl hst hb (Zg (s:=6)) (hst.at 2 rfl) ⟨Zc5 (hst.at 0 rfl),Zc5 (hst.at 1 rfl),trivial⟩
 ·refine wp_block ?_
  refine wp_loop_ghost (fun n a w=>∃ (x1:Int) (g:G),w=g.w ∧ St 75 [(0,(Zcb (some b0) Ze 0 a0)),(2,(Zcb (some b2) Zj 2 a2)),(7,(Zz.ptr ({ Score:=a1.X,Name:=a1.S }:Zi))),(8,(pInt .i64 x1))] a g ∧ Base g0 g ∧ Zgx a0 a1 n x1=some z8) (Int.toNat ((a0.List.length:Int) - (0:Int)) + 1) ⟨(0:Int),g,rfl,(hst.pick [0,1,2,3] rfl),hb,hz1⟩ (fun n a w hI=>?_)
  obtain ⟨x1,g,rfl,hst,hb,H1⟩:=hI
  cases n with
  | zero=>exact absurd H1 (by simp [Zgx])
  | succ n =>
   rw [Zgx] at H1
   refine wp_seq ?_
   obtain ⟨e2,h3,H1⟩:=Zd H1;obtain ⟨r4,h5,H1⟩:=Zd H1
   refine r_s (T:=⟨[.o 3],_,[],[],[15]⟩ :: ⟨[.o 0],_,[],[],[16]⟩ :: ⟨[.p 1 0],_,[],[1],[17]⟩ :: ⟨[.p 2 0],_,[],[1,2],[18]⟩ :: ⟨[.p 3 0],_,[],[1,2,3],[19]⟩ :: ⟨[.p 4 0],_,[],List.range' 1 4,[20]⟩ :: ⟨[.p 0 0,.p 5 0],_,[],Lr 6,[21]⟩ :: ⟨[.p 6 0],_,[],Lr 7,[22]⟩ :: ⟨[.p 7 0,.o 0],_,[],Lr 8,[23]⟩ :: ⟨[.p 7 0,.p 8 0],_,[],Lr 9,[24]⟩ :: ⟨[.p 7 0,.p 9 0],_,[],Lr 10,[25]⟩ :: ⟨[.p 7 0,.p 10 0],_,[],Lr 11,[26]⟩ :: ⟨[.p 7 0,.o 3],_,[],Lr 8,[27]⟩ :: ⟨[.p 7 0,.p 11 0,.p 12 0],_,[],Lr 13,[28]⟩ :: ⟨[.p 7 0,.p 13 0],_,[],Lr 14,[29]⟩ :: ⟨[.p 7 0,.o 2],_,[],Lr 8,[30]⟩ :: ⟨[.p 7 0,.p 14 0,.p 15 0],_,[],Lr 16,[31]⟩ :: ⟨[.p 7 0,.p 16 0],_,[],Lr 17,[32]⟩ :: []) (F:=[.o 0,.o 1,.o 2,.o 3,.p 17 0]) hst hb Za
    (Qm rfl u_0<|Qm rfl u_0<|o_p rfl (Zo rfl rfl u_0 (fun _ _ ⟨_,_,_,e,_⟩=>⟨_,e⟩))<|o_p rfl (Zr Zcc (off:=7) (by kernel_rfl) rfl rfl u_0)<|QP rfl Zdc u_0<|o_p rfl (Zbv Tryz.underlying36 rfl rfl u_0)<|o_p rfl (Zca rfl rfl u_0 u_1)<|Qm rfl u_0<|o_g (Qg_t rfl (fun hG=>Z1 rfl rfl u_0))<|o_g (Qg_t rfl (fun hG=>Zo rfl rfl (Opd.gd hG u_0) (fun _ _ ⟨_,_,_,e,_⟩=>⟨_,e⟩)))<|o_g (Qg_t rfl (fun hG=>Zr Zcc (off:=7) (by kernel_rfl) rfl rfl (Opd.gd hG u_0)))<|o_g (Qg_t rfl (fun hG=>Zh3 Zdc rfl rfl (Opd.gd hG u_0)))<|o_g (Qg_t rfl (fun hG=>Z1 rfl rfl u_0))<|o_g (Qg_t rfl (fun hG=>Zbi Tryz.underlying36 Zfb rfl rfl (Opd.gd hG u_0) (Opd.gd hG u_1) (Zbn h3 hG)))<|o_g (Qg_t rfl (fun hG=>Zs Zed rfl rfl (Opd.gd hG u_0)))<|o_g (Qg_t rfl (fun hG=>Zs Zed rfl rfl u_0))<|o_g (Qg_t rfl (fun hG=>Zl Zz5 (Zo9 _ _ (Zbn h5 hG)) rfl rfl (.cons (Opd.gd hG u_0) (.cons (Opd.gd hG u_1) .nil))))<|o_p rfl (Zbg rfl rfl u_0 (fun hz=>(Opd.gd hz u_1)))<|o_n) (fun a g hst hb=>?_)
   refine wp_cond_split (hst.bool 4 rfl) (fun hc6=>?_) (fun hc6=>?_)
   ·replace H1:=Zu hc6 H1
    refine wp_skip ?_
    refine Zq ?_
    refine wp_block ?_
    refine r_g (L:=[(0,_),(2,_),(7,_),(8,_)]) (T:=[⟨[.o 3],_,[],[],[33]⟩,⟨[.p 0 0],_,[],[0],[34]⟩,⟨[.p 1 0],_,[],[0,1],[8]⟩]) (F:=[.o 0,.o 1,.o 2,.p 2 0]) (hst.pick [0,1,2,3] rfl) hb Za
     (Qm rfl u_0<|o_p rfl (Zbz rfl rfl u_0 c_i rfl)<|Qa rfl u_0<|o_n) (fun a g hst hb=>?_)
    refine Zbc ?_
    exact ⟨n,Nat.lt_succ_self _,(IntKind.i64.wrap (x1 + (1:Int))),g,rfl,(hst.pick [0,1,2,3] rfl),hb,H1⟩
   ·replace H1:=Zt hc6 H1
    refine wp_exit ?_
    refine Zby ?_
    refine Zby ?_
    refine Zce ?_
    exact ⟨x1,g,rfl,(hst.pick [0,1,2,3] rfl),hb,Option.some.inj H1⟩
def Phi (k:Int) (f:FuncId) (C:List Pd):Prop:=∀ (x0 x1:Zb) (a:Zm) (y0 y1:Zc) (c:Int),Zbl k x0 a y0=some (c,x1,y1) → FnB Tryz.prog f ([.box Ze x0 x1,.val (Zy.pd a),.box Zj y0 y1] ++ C.map .val) (pInt .i64 c)
theorem Zbac {k:Int} {x0:Zb} {a:Zm} {y0:Zc} {r:Int × Zb × Zc} (h:Zbl k x0 a y0=some r):∀ f C,Phi k f C → FnB Tryz.prog f ([.box Ze x0 r.2.1,.val (Zy.pd a),.box Zj y0 r.2.2] ++ C.map .val) (pInt .i64 r.1):=fun f C hΦ=>hΦ _ _ _ _ _ _ h
def tabT:TabT:=fun k=>if 5 ≤ k ∧ k ≤ 21 then some (Phi k) else none
theorem Zba3 {i:Int} (h:5 ≤ i ∧ i ≤ 21):tabT i.toNat=some (Phi i):=by
 unfold tabT
 rw [if_pos (by omega),show ((i.toNat:Nat):Int)=i by omega]
theorem Zbcw:Phi 5 113 []:=fun x0 x1 a y0 y1 c h=>Zui x0 a y0 (r:=(c,x1,y1)) (by simpa [Zbl] using h)
theorem Zbea:Phi 6 114 []:=fun x0 x1 a y0 y1 c h=>Zup x0 a y0 (r:=(c,x1,y1)) (by simpa [Zbl] using h)
theorem Zbcy:Phi 7 115 []:=fun x0 x1 a y0 y1 c h=>Zum x0 a y0 (r:=(c,x1,y1)) (by simpa [Zbl] using h)
theorem Zbcs:Phi 8 116 []:=fun x0 x1 a y0 y1 c h=>Z0q x0 a y0 (r:=(c,x1,y1)) (by simpa [Zbl] using h)
theorem Zbdd:Phi 9 117 []:=fun x0 x1 a y0 y1 c h=>Zqn x0 a y0 (r:=(c,x1,y1)) (by simpa [Zbl] using h)
theorem Zbbb:Phi 10 118 []:=fun x0 x1 a y0 y1 c h=>Zul x0 a y0 (r:=(c,x1,y1)) (by simpa [Zbl] using h)
theorem Zbat:Phi 11 119 []:=fun x0 x1 a y0 y1 c h=>Zug x0 a y0 (r:=(c,x1,y1)) (by simpa [Zbl] using h)
theorem Zbay:Phi 12 117 []:=fun x0 x1 a y0 y1 c h=>Zqn x0 a y0 (r:=(c,x1,y1)) (by simpa [Zbl] using h)
theorem Zba8:Phi 13 135 [(Kd.fnc.ptr 121)]:=fun x0 x1 a y0 y1 c h=>by
 have h':Zfe (fun x y=>Zmk x y) x0 a y0=some (c,x1,y1):=by simpa [Zbl] using h
 obtain ⟨z,hz,h2⟩:=Zd h'
 injection h2 with h2
 simp only [Prod.mk.injEq] at h2
 obtain ⟨rfl,rfl,rfl⟩:=h2
 exact Zku 121 Zbas (fun x y=>Zmk x y) (fun x y z h=>Z3r x y h) x0 a y0 hz
theorem Zbbt:Phi 14 135 [(Kd.fnc.ptr 122)]:=fun x0 x1 a y0 y1 c h=>by
 have h':Zfe (fun x y=>Zmo x y) x0 a y0=some (c,x1,y1):=by simpa [Zbl] using h
 obtain ⟨z,hz,h2⟩:=Zd h'
 injection h2 with h2
 simp only [Prod.mk.injEq] at h2
 obtain ⟨rfl,rfl,rfl⟩:=h2
 exact Zku 122 Zbbg (fun x y=>Zmo x y) (fun x y z h=>Z3u x y h) x0 a y0 hz
theorem Zbcf:Phi 15 135 [(Kd.fnc.ptr 123)]:=fun x0 x1 a y0 y1 c h=>by
 have h':Zfe (fun x y=>Zjm x y) x0 a y0=some (c,x1,y1):=by simpa [Zbl] using h
 obtain ⟨z,hz,h2⟩:=Zd h'
 injection h2 with h2
 simp only [Prod.mk.injEq] at h2
 obtain ⟨rfl,rfl,rfl⟩:=h2
 exact Zku 123 Zbci (fun x y=>Zjm x y) (fun x y z h=>Z18 x y h) x0 a y0 hz
theorem Zbca:Phi 16 135 [(Kd.fnc.ptr 124)]:=fun x0 x1 a y0 y1 c h=>by
 have h':Zfe (fun x y=>Zii x y) x0 a y0=some (c,x1,y1):=by simpa [Zbl] using h
 obtain ⟨z,hz,h2⟩:=Zd h'
 injection h2 with h2
 simp only [Prod.mk.injEq] at h2
 obtain ⟨rfl,rfl,rfl⟩:=h2
 exact Zku 124 Zbb5 (fun x y=>Zii x y) (fun x y z h=>Z05 x y h) x0 a y0 hz
theorem Zbbw:Phi 17 135 [(Kd.fnc.ptr 125)]:=fun x0 x1 a y0 y1 c h=>by
 have h':Zfe (fun x y=>Zh5 x y) x0 a y0=some (c,x1,y1):=by simpa [Zbl] using h
 obtain ⟨z,hz,h2⟩:=Zd h'
 injection h2 with h2
 simp only [Prod.mk.injEq] at h2
 obtain ⟨rfl,rfl,rfl⟩:=h2
 exact Zku 125 Zba4 (fun x y=>Zh5 x y) (fun x y z h=>Zuo x y h) x0 a y0 hz
theorem Zba0:Phi 18 126 []:=fun x0 x1 a y0 y1 c h=>Z0v x0 a y0 (r:=(c,x1,y1)) (by simpa [Zbl] using h)
theorem Zbbr:Phi 19 127 []:=fun x0 x1 a y0 y1 c h=>Zuj x0 a y0 (r:=(c,x1,y1)) (by simpa [Zbl] using h)
theorem Zbcb:Phi 20 130 []:=fun x0 x1 a y0 y1 c h=>Zun x0 a y0 (r:=(c,x1,y1)) (by simpa [Zbl] using h)
theorem Zbbd:Phi 21 131 []:=fun x0 x1 a y0 y1 c h=>Zzb x0 a y0 (r:=(c,x1,y1)) (by simpa [Zbl] using h)
theorem Z14 {N d:Nat} {o:Oper} {uses:Zbj} (hop:o.op=.build 157 #[(5,.func 113),(6,.func 114),(7,.func 115),(8,.func 116),(9,.func 117),(12,.func 117),(10,.func 118),(11,.func 119),(13,.tmp 1),(14,.tmp 2),(15,.tmp 3),(16,.tmp 4),(17,.tmp 5),(18,.func 126),(19,.func 127),(20,.func 130),(21,.func 131)]) (hd:o.dst=some d) (h1:Opd uses (.tmp 1) (pClo 135 [(Kd.fnc.ptr 121)] rfl)) (h2:Opd uses (.tmp 2) (pClo 135 [(Kd.fnc.ptr 122)] rfl)) (h3:Opd uses (.tmp 3) (pClo 135 [(Kd.fnc.ptr 123)] rfl)) (h4:Opd uses (.tmp 4) (pClo 135 [(Kd.fnc.ptr 124)] rfl)) (h5:Opd uses (.tmp 5) (pClo 135 [(Kd.fnc.ptr 125)] rfl)):OB Tryz.prog N o uses [(d,((Kd.tab Tryz.prog 22 (by decide)).pd tabT))] [] :=
 Zcf hd fun a g hh=>by
  obtain ⟨c1,e1,k1⟩:=h1 a g hh
  obtain ⟨c2,e2,k2⟩:=h2 a g hh
  obtain ⟨c3,e3,k3⟩:=h3 a g hh
  obtain ⟨c4,e4,k4⟩:=h4 a g hh
  obtain ⟨c5,e5,k5⟩:=h5 a g hh
  refine ⟨.agg #[.nilFunc,.nilFunc,.nilFunc,.nilFunc,.nilFunc,.func (.func 113) #[] #[],.func (.func 114) #[] #[],.func (.func 115) #[] #[],.func (.func 116) #[] #[],.func (.func 117) #[] #[],.func (.func 118) #[] #[],.func (.func 119) #[] #[],.func (.func 117) #[] #[],.func (.func 135) #[] c1.toArray,.func (.func 135) #[] c2.toArray,.func (.func 135) #[] c3.toArray,.func (.func 135) #[] c4.toArray,.func (.func 135) #[] c5.toArray,.func (.func 126) #[] #[],.func (.func 127) #[] #[],.func (.func 130) #[] #[],.func (.func 131) #[] #[]],?_,[.nilFunc,.nilFunc,.nilFunc,.nilFunc,.nilFunc,.func (.func 113) #[] #[],.func (.func 114) #[] #[],.func (.func 115) #[] #[],.func (.func 116) #[] #[],.func (.func 117) #[] #[],.func (.func 118) #[] #[],.func (.func 119) #[] #[],.func (.func 117) #[] #[],.func (.func 135) #[] c1.toArray,.func (.func 135) #[] c2.toArray,.func (.func 135) #[] c3.toArray,.func (.func 135) #[] c4.toArray,.func (.func 135) #[] c5.toArray,.func (.func 126) #[] #[],.func (.func 127) #[] #[],.func (.func 130) #[] #[],.func (.func 131) #[] #[]],⟨rfl,?_,?_⟩,rfl⟩
  ·simp only [execOp,hop,Sem.run_bind,Sem.run_pure,Result.andThen_ok,List.map_toArray,List.map_cons,List.map_nil,e1,e2,e3,e4,e5]
   rw [Z1v Tryz.underlying157 (zero:=.agg #[.nilFunc,.nilFunc,.nilFunc,.nilFunc,.nilFunc,.nilFunc,.nilFunc,.nilFunc,.nilFunc,.nilFunc,.nilFunc,.nilFunc,.nilFunc,.nilFunc,.nilFunc,.nilFunc,.nilFunc,.nilFunc,.nilFunc,.nilFunc,.nilFunc,.nilFunc]) (by kernel_rfl) (by kernel_rfl) (cells:=#[.nilFunc,.nilFunc,.nilFunc,.nilFunc,.nilFunc,.func (.func 113) #[] #[],.func (.func 114) #[] #[],.func (.func 115) #[] #[],.func (.func 116) #[] #[],.func (.func 117) #[] #[],.func (.func 118) #[] #[],.func (.func 119) #[] #[],.func (.func 117) #[] #[],.func (.func 135) #[] c1.toArray,.func (.func 135) #[] c2.toArray,.func (.func 135) #[] c3.toArray,.func (.func 135) #[] c4.toArray,.func (.func 135) #[] c5.toArray,.func (.func 126) #[] #[],.func (.func 127) #[] #[],.func (.func 130) #[] #[],.func (.func 131) #[] #[]]) (by kernel_rfl) g.w]
   rfl
  ·intro u hu
   simp only [List.mem_cons,List.not_mem_nil,or_false] at hu
   rcases hu with rfl | rfl | rfl | rfl | rfl | rfl | rfl | rfl | rfl | rfl | rfl | rfl | rfl | rfl | rfl | rfl | rfl | rfl | rfl | rfl | rfl | rfl <;> rfl
  ·intro k F u hF hu
   unfold tabT at hF
   split at hF
   ·rename_i hk
    obtain rfl:=Option.some.inj hF
    obtain ⟨hk1,hk2⟩:=hk
    have hk:k=5 ∨ k=6 ∨ k=7 ∨ k=8 ∨ k=9 ∨ k=10 ∨ k=11 ∨ k=12 ∨ k=13 ∨ k=14 ∨ k=15 ∨ k=16 ∨ k=17 ∨ k=18 ∨ k=19 ∨ k=20 ∨ k=21:=by omega
    rcases hk with rfl | rfl | rfl | rfl | rfl | rfl | rfl | rfl | rfl | rfl | rfl | rfl | rfl | rfl | rfl | rfl | rfl
    ·obtain rfl:=Option.some.inj hu;exact ⟨113,[],[],rfl,Zbbu,rfl,Zbcw,Ze4,fun q hq=>by cases hq⟩
    ·obtain rfl:=Option.some.inj hu;exact ⟨114,[],[],rfl,Zba9,rfl,Zbea,Ze4,fun q hq=>by cases hq⟩
    ·obtain rfl:=Option.some.inj hu;exact ⟨115,[],[],rfl,Zbbf,rfl,Zbcy,Ze4,fun q hq=>by cases hq⟩
    ·obtain rfl:=Option.some.inj hu;exact ⟨116,[],[],rfl,Zbb4,rfl,Zbcs,Ze4,fun q hq=>by cases hq⟩
    ·obtain rfl:=Option.some.inj hu;exact ⟨117,[],[],rfl,Z6d,rfl,Zbdd,Ze4,fun q hq=>by cases hq⟩
    ·obtain rfl:=Option.some.inj hu;exact ⟨118,[],[],rfl,Zbcc,rfl,Zbbb,Ze4,fun q hq=>by cases hq⟩
    ·obtain rfl:=Option.some.inj hu;exact ⟨119,[],[],rfl,Zbbz,rfl,Zbat,Ze4,fun q hq=>by cases hq⟩
    ·obtain rfl:=Option.some.inj hu;exact ⟨117,[],[],rfl,Z6d,rfl,Zbay,Ze4,fun q hq=>by cases hq⟩
    ·obtain rfl:=Option.some.inj hu;exact ⟨135,_,c1,rfl,Ztn,rfl,Zba8,k1,Zl8⟩
    ·obtain rfl:=Option.some.inj hu;exact ⟨135,_,c2,rfl,Ztn,rfl,Zbbt,k2,Zl8⟩
    ·obtain rfl:=Option.some.inj hu;exact ⟨135,_,c3,rfl,Ztn,rfl,Zbcf,k3,Zl8⟩
    ·obtain rfl:=Option.some.inj hu;exact ⟨135,_,c4,rfl,Ztn,rfl,Zbca,k4,Zl8⟩
    ·obtain rfl:=Option.some.inj hu;exact ⟨135,_,c5,rfl,Ztn,rfl,Zbbw,k5,Zl8⟩
    ·obtain rfl:=Option.some.inj hu;exact ⟨126,[],[],rfl,Zbb8,rfl,Zba0,Ze4,fun q hq=>by cases hq⟩
    ·obtain rfl:=Option.some.inj hu;exact ⟨127,[],[],rfl,Zbb7,rfl,Zbbr,Ze4,fun q hq=>by cases hq⟩
    ·obtain rfl:=Option.some.inj hu;exact ⟨130,[],[],rfl,Zbbj,rfl,Zbcb,Ze4,fun q hq=>by cases hq⟩
    ·obtain rfl:=Option.some.inj hu;exact ⟨131,[],[],rfl,Zbby,rfl,Zbbd,Ze4,fun q hq=>by cases hq⟩
   ·cases hF
theorem Z4z:Ty Tryz.prog 157 (Kd.tab Tryz.prog 22 (by decide)):=⟨by kernel_rfl,by kernel_rfl⟩
theorem Zwi:FnOk Tryz.prog 94 [] (pTab Tryz.prog 22 tabT):=by
 refine Zbt (N:=7) Tryz.func94 rfl rfl (Qe rfl) rfl rfl (fun a g0 hst hb=>?_)
 refine r_s (T:=[⟨[],[(0,(pBox (Kd.tab Tryz.prog 22 (by decide)) 0 (fun _=>none)))],[1],[],[0]⟩]) (F:=[.p 0 0]) hst hb Za
  (o_p rfl (Zbh (zs:=[.nilFunc,.nilFunc,.nilFunc,.nilFunc,.nilFunc,.nilFunc,.nilFunc,.nilFunc,.nilFunc,.nilFunc,.nilFunc,.nilFunc,.nilFunc,.nilFunc,.nilFunc,.nilFunc,.nilFunc,.nilFunc,.nilFunc,.nilFunc,.nilFunc,.nilFunc]) (by kernel_rfl) (fun g=>⟨rfl,by decide,fun k F u h=>by cases h⟩) rfl rfl)<|o_n) (fun a g hst hb=>?_)
 refine r_s (T:=[⟨[],_,[],[],[1]⟩,⟨[],_,[],[0],[2]⟩,⟨[],_,[],[0,1],[3]⟩,⟨[],_,[],[0,1,2],[4]⟩,⟨[],_,[],[0,1,2,3],[5]⟩,⟨[.p 0 0,.p 1 0,.p 2 0,.p 3 0,.p 4 0],_,[],[0,1,2,3,4],[6]⟩,⟨[.p 5 0,.o 0],[(0,(pBox (Kd.tab Tryz.prog 22 (by decide)) 0 tabT))],[1],[0,1,2,3,4,5],[0]⟩]) (F:=[.p 6 0]) hst hb Za
  (o_p rfl (Zl Zsw (Zlv 121) rfl rfl (.cons Opd.fncv .nil))<|o_p rfl (Zl Zsw (Zlv 122) rfl rfl (.cons Opd.fncv .nil))<|o_p rfl (Zl Zsw (Zlv 123) rfl rfl (.cons Opd.fncv .nil))<|o_p rfl (Zl Zsw (Zlv 124) rfl rfl (.cons Opd.fncv .nil))<|o_p rfl (Zl Zsw (Zlv 125) rfl rfl (.cons Opd.fncv .nil))<|o_p rfl (Z14 rfl rfl u_0 u_1 u_2 u_3 u_4)<|o_p rfl (Z3 Z4z rfl rfl u_1 u_0)<|o_n) (fun a g hst hb=>?_)
 refine wp_ret ?_
 obtain ⟨u0,hu0,hq0⟩:=Zbf (P:=Tryz.prog) Z4z (hst.at 0 rfl)
 exact Z4 rfl hst hb hu0 (Z7g hq0)
theorem Zy7 (a0:Zb) (a1:Bool) (a2:Zm) {r:Zb × Bool × Zc} (h:Zih a0 a1 a2=some r):FnOk Tryz.prog 68 [(Ze.pd a0),(Zbd a1),(Zy.pd a2)] (pTup [(Ze.pd r.1),(Zbd r.2.1),(Zj.pd r.2.2)]):=by
 have H0:=h
 unfold Zih at H0
 clear h
 refine Zbt (N:=123) Tryz.func68 rfl rfl (Qe rfl) rfl rfl (fun a g0 hst hb=>?_)
 refine r_s (T:=[⟨[.o 0],_,[4],[],[3]⟩,⟨[.o 1],_,[],[],[4]⟩,⟨[.o 2],_,[],[],[5]⟩,⟨[],[(6,(pBox Ze 6 (default:Zb)))],[7],[],[6]⟩,⟨[],_,[],[],[7]⟩,⟨[],[(8,(pBox Zj 8 (default:Zc)))],[9],[],[8]⟩]) (F:=[.p 0 0,.p 1 0,.p 2 0,.p 3 0,.p 5 0]) hst hb Za
  (o_p rfl (Zkr rfl rfl u_0)<|Qb rfl u_0<|Qb rfl u_0<|o_p rfl (Zbh (zs:=[.int .i64 0,.int .i64 0,.int .i64 0,.int .i64 0,.float .f64 0,.int .i64 0,.string ByteArray.empty,.slice none 0 0]) (by kernel_rfl) (fun g=>Zb0 g) rfl rfl)<|Qa rfl c_b<|o_p rfl (Zbh (zs:=[.int .i64 0,.int .i64 0,.int .i64 0,.int .i64 0,.int .i64 0,.int .i64 0,.float .f64 0,.int .i64 0,.string ByteArray.empty,.slice none 0 0]) (by kernel_rfl) (fun g=>Zd6 g) rfl rfl)<|o_n) (fun a g hst hb=>?_)
 refine wp_seq ?_
 refine r_s (T:=[⟨[.o 1],_,[],[],[15]⟩,⟨[.p 0 0],_,[],[0],[16]⟩]) (F:=[.o 0,.o 1,.o 2,.o 3,.o 4,.p 1 0]) hst hb Za
  (Ql rfl ty_4 u_0<|Qn rfl u_0<|o_n) (fun a g hst hb=>?_)
 refine Zb3 (fun a w=>∃ (j2:Zb) (g:G),w=g.w ∧ St 123 [(3,(pBox Ze 3 j2)),(4,(Kd.bool.ptr a1)),(5,(Zy.ptr a2)),(6,(pBox Ze 6 (default:Zb))),(8,(pBox Zj 8 (default:Zc)))] a g ∧ Base g0 g ∧ Zhr a1 a2 j2=some r) ?_ ?_
 ·rintro a w ⟨j2,g,rfl,hst,hb,H0⟩
  unfold Zhr at H0
  refine Zq ?_
  obtain ⟨r3,h4,H0⟩:=Zd H0
  refine r_s (T:=[⟨[.o 0],_,[],[],[18]⟩,⟨[.p 0 0],_,[],[0],[19]⟩,⟨[.p 1 0,.o 0],_,[4],[0,1],[3]⟩]) (F:=[.p 2 0,.o 1,.o 2,.o 3,.o 4]) hst hb Za
   (QM rfl Zbb u_0<|o_p rfl (Zl Zoq (Zgv _ h4) rfl rfl (.cons u_0 .nil))<|o_p rfl (Z3 Zbb rfl rfl u_1 u_0)<|o_n) (fun a g hst hb=>?_)
  refine r_s (T:=[⟨[.o 0,.o 1],_,[],[],[20]⟩,⟨[.p 0 0],_,[],[0],[9]⟩]) (F:=[.o 0,.o 1,.o 2,.o 3,.o 4,.p 1 0]) hst hb Za
   (o_p rfl (Z0c rfl rfl (.cons u_0 (.cons u_1 .nil)))<|Qa rfl u_0<|o_n) (fun a g hst hb=>?_)
  refine wp_seq ?_
  obtain ⟨r5,h6,H0⟩:=Zd H0
  refine r_s (T:=[⟨[.o 2],_,[],[],[21]⟩,⟨[.p 0 0],_,[],[0],[22]⟩,⟨[.p 1 0],_,[],[0,1],[10]⟩]) (F:=[.o 0,.o 1,.o 2,.o 3,.o 4,.o 5,.p 2 0]) hst hb Za
   (Ql rfl Zhb u_0<|o_p rfl (Zl Z8w (Ztg _ h6) rfl rfl (.cons u_0 .nil))<|Qa rfl u_0<|o_n) (fun a g hst hb=>?_)
  refine r_s (T:=[⟨[.o 6],_,[],[],[23]⟩,⟨[.p 0 0],_,[],[0],[24]⟩]) (F:=[.o 0,.o 1,.o 2,.o 3,.o 4,.o 5,.o 6,.p 1 0]) hst hb Za
   (Qm rfl u_0<|o_p rfl (Zcz rfl rfl u_0 c_i)<|o_n) (fun a g hst hb=>?_)
  refine wp_cond_split (hst.bool 7 rfl) (fun hc7=>?_) (fun hc7=>?_)
  ·replace H0:=Zu hc7 H0
   obtain ⟨r8,h9,H0⟩:=Zd H0
   refine r_s (L:=[(3,_),(4,_),(6,_),(8,_),(9,_),(10,_)]) (T:=[⟨[.o 4],_,[],[],[25]⟩,⟨[.o 5],_,[],[],[26]⟩,⟨[.p 0 0,.p 1 0,.o 0],[(27,(pTup [(Ze.pd r8.1),(Zbd r8.2.1),(Zj.pd r8.2.2.1)])),(3,(pBox Ze 3 r8.2.2.2))],[4],[0,1],[3,9,25,27]⟩,⟨[.p 2 0],_,[],[0,1,2],[28]⟩,⟨[.p 2 0],_,[],[0,1,2],[29]⟩,⟨[.p 2 0],_,[],[0,1,2],[30]⟩,⟨[.p 3 0,.o 2],_,[7],Lr 6,[6]⟩,⟨[.p 4 0],_,[],Lr 7,[7]⟩,⟨[.p 5 0,.o 3],_,[9],Lr 8,[8]⟩]) (F:=[.p 2 1,.o 1,.p 6 0,.p 7 0,.p 8 0]) (hst.pick [0,1,3,4,5,6] rfl) hb Za
    (Qm rfl u_0<|Qm rfl u_0<|o_p rfl (Znq (Ps:=[.val (pInt .i64 r5)]) (hs:=[]) (ks:=[(3,none,3)]) Zwl (Zjz _ _ _ h9) rfl rfl rfl u_0 (.val u_1 .nil) (.box u_2 rfl (.val .nil)) rfl rfl rfl rfl)<|o_p rfl (Z2 rfl rfl u_0 rfl)<|o_p rfl (Z2 rfl rfl u_0 rfl)<|o_p rfl (Z2 rfl rfl u_0 rfl)<|o_p rfl (Z3 Zbb rfl rfl u_1 u_0)<|Qa rfl u_0<|o_p rfl (Z3 Zb2 rfl rfl u_1 u_0)<|o_n) (fun a g hst hb=>?_)
   refine wp_ret ?_
   refine Zp ?_
   obtain rfl:=Option.some.inj H0
   obtain ⟨u0,hu0,hq0⟩:=Zbf (P:=Tryz.prog) Zbb (hst.at 2 rfl)
   obtain ⟨u2,hu2,hq2⟩:=Zbf (P:=Tryz.prog) Zb2 (hst.at 4 rfl)
   exact Zi7 rfl hst hb hu0 (Zg (s:=7)) hu2 (Zg9 hq0 (hst.at 3 rfl) hq2)
  ·replace H0:=Zt hc7 H0
   refine wp_skip ?_
   refine Zq ?_
   refine wp_seq ?_
   refine r_s (L:=[(3,_),(4,_),(5,_),(6,_),(8,_),(9,_)]) (T:=[⟨[.o 1],_,[],[],[31]⟩]) (F:=[.o 0,.o 1,.o 2,.o 3,.o 4,.o 5,.p 0 0]) (hst.pick [0,1,2,3,4,5] rfl) hb Za
    (Ql rfl ty_4 u_0<|o_n) (fun a g hst hb=>?_)
   refine Zb3 (fun a w=>∃ (g:G),w=g.w ∧ St 123 [(3,(pBox Ze 3 r3)),(4,(Kd.bool.ptr a1)),(5,(Zy.ptr a2)),(6,(pBox Ze 6 (default:Zb))),(8,(pBox Zj 8 (default:Zc))),(9,(Zzt 92 [(pBox Ze 3 r3),(Kd.bool.ptr a1)]))] a g ∧ Base g0 g ∧ Zht a1 a2 r3=some r) ?_ ?_
   ·rintro a w ⟨g,rfl,hst,hb,H0⟩
    unfold Zht at H0
    refine Zq ?_
    refine wp_seq ?_
    refine wp_block ?_
    refine r_s (T:=[⟨[.o 2],_,[],[],[43]⟩,⟨[.p 0 0],_,[],[0],[44]⟩,⟨[.p 1 0],_,[],[0,1],[45]⟩,⟨[.p 2 0],_,[],[0,1,2],[46]⟩,⟨[.p 3 0,.o 1],_,[],Lr 4,[47]⟩,⟨[.p 3 0,.p 4 0],_,[],Lr 5,[48]⟩,⟨[.p 5 0],_,[],Lr 6,[42]⟩]) (F:=[.o 0,.o 1,.o 2,.o 3,.o 4,.o 5,.p 6 0]) hst hb Za
     (Qf rfl Zde u_0<|Ql rfl ty_3 u_0<|o_p rfl (Zbr rfl rfl u_0 c_i)<|Qm rfl u_0<|o_g (Qg_t rfl (fun hG=>Zs ty_4 rfl rfl u_0))<|o_p rfl (Zbg rfl rfl u_0 (fun hz=>(Opd.gd hz u_1)))<|Qa rfl u_0<|o_n) (fun a g hst hb=>?_)
    refine wp_cond_split (hst.bool 6 rfl) (fun hc16=>?_) (fun hc16=>?_)
    ·replace H0:=Zu hc16 H0
     obtain ⟨r17,h18,H0⟩:=Zd H0
     refine r_s (L:=[(3,_),(4,_),(6,_),(8,_),(9,_)]) (T:=[⟨[.o 4],_,[],[],[49]⟩,⟨[.p 0 0,.o 0],[(50,(pTup [(Ze.pd r17.1),(Zbd r17.2.1),(Zj.pd r17.2.2.1)])),(3,(pBox Ze 3 r17.2.2.2))],[4],[0],[3,9,49,50]⟩,⟨[.p 1 0],_,[],[0,1],[51]⟩,⟨[.p 1 0],_,[],[0,1],[52]⟩,⟨[.p 1 0],_,[],[0,1],[53]⟩,⟨[.p 2 0,.o 2],_,[7],Lr 5,[6]⟩,⟨[.p 3 0],_,[],Lr 6,[7]⟩,⟨[.p 4 0,.o 3],_,[9],Lr 7,[8]⟩]) (F:=[.p 1 1,.o 1,.p 5 0,.p 6 0,.p 7 0]) (hst.pick [0,1,3,4,5] rfl) hb Za
      (Qm rfl u_0<|o_p rfl (Znq (Ps:=[.val (pInt .i64 (7:Int))]) (hs:=[]) (ks:=[(3,none,3)]) Zwl (Zjz _ _ _ h18) rfl rfl rfl u_0 (.val c_i .nil) (.box u_1 rfl (.val .nil)) rfl rfl rfl rfl)<|o_p rfl (Z2 rfl rfl u_0 rfl)<|o_p rfl (Z2 rfl rfl u_0 rfl)<|o_p rfl (Z2 rfl rfl u_0 rfl)<|o_p rfl (Z3 Zbb rfl rfl u_1 u_0)<|Qa rfl u_0<|o_p rfl (Z3 Zb2 rfl rfl u_1 u_0)<|o_n) (fun a g hst hb=>?_)
     refine wp_ret ?_
     refine Z5 ?_
     refine Zp ?_
     obtain rfl:=Option.some.inj H0
     obtain ⟨u0,hu0,hq0⟩:=Zbf (P:=Tryz.prog) Zbb (hst.at 2 rfl)
     obtain ⟨u2,hu2,hq2⟩:=Zbf (P:=Tryz.prog) Zb2 (hst.at 4 rfl)
     exact Zi7 rfl hst hb hu0 (Zg (s:=7)) hu2 (Zg9 hq0 (hst.at 3 rfl) hq2)
    ·replace H0:=Zt hc16 H0
     refine r_s (L:=[(3,_),(4,_),(5,_),(6,_),(8,_),(9,_)]) (T:=[⟨[.o 2],_,[],[],[55]⟩,⟨[.p 0 0],_,[],[0],[56]⟩,⟨[.p 1 0],_,[],[0,1],[57]⟩,⟨[.p 2 0],_,[],[0,1,2],[54]⟩]) (F:=[.o 0,.o 1,.o 2,.o 3,.o 4,.o 5,.p 3 0]) (hst.pick [0,1,2,3,4,5] rfl) hb Za
      (Qf rfl Zde u_0<|Ql rfl ty_3 u_0<|o_p rfl (Zbr rfl rfl u_0 c_i)<|Qa rfl u_0<|o_n) (fun a g hst hb=>?_)
     refine wp_cond_split (hst.bool 6 rfl) (fun hc19=>?_) (fun hc19=>?_)
     ·replace H0:=Zu hc19 H0
      obtain ⟨r20,h21,H0⟩:=Zd H0
      refine r_s (L:=[(3,_),(4,_),(5,_),(6,_),(8,_)]) (T:=[⟨[.o 2],_,[],[],[58]⟩,⟨[.p 0 0],_,[],[0],[59]⟩,⟨[.p 1 0],_,[],[0,1],[60]⟩,⟨[],_,[],[],[61]⟩,⟨[.p 2 0,.o 3],_,[7],[0,1,2],[6]⟩,⟨[],_,[],[0,1,2,4],[7]⟩,⟨[.p 3 0,.o 4],_,[9],Lr 6,[8]⟩]) (F:=[.o 0,.o 1,.p 4 0,.p 5 0,.p 6 0]) (hst.pick [0,1,2,3,4] rfl) hb Za
       (Qf rfl Zll u_0<|Ql rfl Zbb u_0<|o_p rfl (Zl Zoq (Zgv _ h21) rfl rfl (.cons u_0 .nil))<|o_p rfl (Zq4 rfl rfl )<|o_p rfl (Z3 Zbb rfl rfl u_1 u_0)<|Qa rfl c_b<|o_p rfl (Z3 Zb2 rfl rfl u_1 u_0)<|o_n) (fun a g hst hb=>?_)
      refine wp_ret ?_
      refine Z5 ?_
      refine Zp ?_
      obtain rfl:=Option.some.inj H0
      obtain ⟨u0,hu0,hq0⟩:=Zbf (P:=Tryz.prog) Zbb (hst.at 2 rfl)
      obtain ⟨u2,hu2,hq2⟩:=Zbf (P:=Tryz.prog) Zb2 (hst.at 4 rfl)
      exact Zi7 rfl hst hb hu0 (Zg (s:=7)) hu2 (Zg9 hq0 (hst.at 3 rfl) hq2)
     ·replace H0:=Zt hc19 H0
      refine r_s (L:=[(3,_),(4,_),(5,_),(6,_),(8,_),(9,_)]) (T:=[⟨[.o 2],_,[],[],[63]⟩,⟨[.p 0 0],_,[],[0],[64]⟩,⟨[.p 1 0],_,[],[0,1],[65]⟩,⟨[.p 2 0],_,[],[0,1,2],[62]⟩]) (F:=[.o 0,.o 1,.o 2,.o 3,.o 4,.o 5,.p 3 0]) (hst.pick [0,1,2,3,4,5] rfl) hb Za
       (Qf rfl Zde u_0<|Ql rfl ty_3 u_0<|o_p rfl (Zbr rfl rfl u_0 c_i)<|Qa rfl u_0<|o_n) (fun a g hst hb=>?_)
      refine wp_cond_split (hst.bool 6 rfl) (fun hc22=>?_) (fun hc22=>?_)
      ·replace H0:=Zu hc22 H0
       refine r_s (L:=[(3,_),(4,_),(6,_),(8,_)]) (T:=[⟨[.o 0],_,[],[],[66]⟩,⟨[.o 1],_,[],[],[67]⟩,⟨[.o 0],_,[],[],[68]⟩,⟨[.p 2 0],_,[],[2],[69]⟩,⟨[.p 3 0],_,[],[2,3],[70]⟩,⟨[.p 0 0,.o 2],_,[7],[0],[6]⟩,⟨[.p 1 0],_,[],[0,1,5],[7]⟩,⟨[.p 4 0,.o 3],_,[9],Lr 7,[8]⟩]) (F:=[.o 0,.o 1,.p 5 0,.p 6 0,.p 7 0]) (hst.pick [0,1,3,4] rfl) hb Za
        (QM rfl Zbb u_0<|Ql rfl ty_4 u_0<|o_p rfl (Zr Zgb (off:=0) (by kernel_rfl) rfl rfl u_0)<|QP rfl ty_3 u_0<|o_p rfl (Z23 rfl rfl u_0)<|o_p rfl (Z3 Zbb rfl rfl u_1 u_0)<|Qa rfl u_0<|o_p rfl (Z3 Zb2 rfl rfl u_1 u_0)<|o_n) (fun a g hst hb=>?_)
       refine wp_ret ?_
       refine Z5 ?_
       refine Zp ?_
       obtain rfl:=Option.some.inj H0
       obtain ⟨u0,hu0,hq0⟩:=Zbf (P:=Tryz.prog) Zbb (hst.at 2 rfl)
       obtain ⟨u2,hu2,hq2⟩:=Zbf (P:=Tryz.prog) Zb2 (hst.at 4 rfl)
       exact Zi7 rfl hst hb hu0 (Zg (s:=7)) hu2 (Zg9 hq0 (hst.at 3 rfl) hq2)
      ·replace H0:=Zt hc22 H0
       refine r_s (L:=[(3,_),(4,_),(5,_),(6,_),(8,_),(9,_)]) (T:=[⟨[.o 1],_,[],[],[72]⟩,⟨[.p 0 0],_,[],[0],[73]⟩,⟨[.p 1 0],_,[],[0,1],[71]⟩]) (F:=[.o 0,.o 1,.o 2,.o 3,.o 4,.o 5,.p 2 0]) (hst.pick [0,1,2,3,4,5] rfl) hb Za
        (Ql rfl ty_4 u_0<|Qn rfl u_0<|Qa rfl u_0<|o_n) (fun a g hst hb=>?_)
       refine wp_cond_split (hst.bool 6 rfl) (fun hc23=>?_) (fun hc23=>?_)
       ·replace H0:=Zu hc23 H0
        obtain ⟨r24,h25,H0⟩:=Zd H0
        refine r_s (L:=[(3,_),(4,_),(6,_),(8,_),(9,_)]) (T:=[⟨[.o 4],_,[],[],[74]⟩,⟨[.p 0 0,.o 0],[(75,(pTup [(Ze.pd r24.1),(Zbd r24.2.1),(Zj.pd r24.2.2.1)])),(3,(pBox Ze 3 r24.2.2.2))],[4],[0],[3,9,74,75]⟩,⟨[.p 1 0],_,[],[0,1],[76]⟩,⟨[.p 1 0],_,[],[0,1],[77]⟩,⟨[.p 1 0],_,[],[0,1],[78]⟩,⟨[.p 2 0,.o 2],_,[7],Lr 5,[6]⟩,⟨[.p 3 0],_,[],Lr 6,[7]⟩,⟨[.p 4 0,.o 3],_,[9],Lr 7,[8]⟩]) (F:=[.p 1 1,.o 1,.p 5 0,.p 6 0,.p 7 0]) (hst.pick [0,1,3,4,5] rfl) hb Za
         (Qm rfl u_0<|o_p rfl (Znq (Ps:=[.val (pInt .i64 (6:Int))]) (hs:=[]) (ks:=[(3,none,3)]) Zwl (Zjz _ _ _ h25) rfl rfl rfl u_0 (.val c_i .nil) (.box u_1 rfl (.val .nil)) rfl rfl rfl rfl)<|o_p rfl (Z2 rfl rfl u_0 rfl)<|o_p rfl (Z2 rfl rfl u_0 rfl)<|o_p rfl (Z2 rfl rfl u_0 rfl)<|o_p rfl (Z3 Zbb rfl rfl u_1 u_0)<|Qa rfl u_0<|o_p rfl (Z3 Zb2 rfl rfl u_1 u_0)<|o_n) (fun a g hst hb=>?_)
        refine wp_ret ?_
        refine Z5 ?_
        refine Zp ?_
        obtain rfl:=Option.some.inj H0
        obtain ⟨u0,hu0,hq0⟩:=Zbf (P:=Tryz.prog) Zbb (hst.at 2 rfl)
        obtain ⟨u2,hu2,hq2⟩:=Zbf (P:=Tryz.prog) Zb2 (hst.at 4 rfl)
        exact Zi7 rfl hst hb hu0 (Zg (s:=7)) hu2 (Zg9 hq0 (hst.at 3 rfl) hq2)
       ·replace H0:=Zt hc23 H0
        refine r_s (L:=[(3,_),(4,_),(5,_),(6,_),(8,_),(9,_)]) (T:=[⟨[.o 2],_,[],[],[80]⟩,⟨[.p 0 0],_,[],[0],[81]⟩,⟨[.p 1 0],_,[],[0,1],[82]⟩,⟨[.p 2 0],_,[],[0,1,2],[79]⟩]) (F:=[.o 0,.o 1,.o 2,.o 3,.o 4,.o 5,.p 3 0]) (hst.pick [0,1,2,3,4,5] rfl) hb Za
         (Qf rfl Zde u_0<|Ql rfl ty_3 u_0<|o_p rfl (Zbr rfl rfl u_0 c_i)<|Qa rfl u_0<|o_n) (fun a g hst hb=>?_)
        refine wp_cond_split (hst.bool 6 rfl) (fun hc26=>?_) (fun hc26=>?_)
        ·replace H0:=Zu hc26 H0
         refine r_s (L:=[(3,_),(4,_),(6,_),(8,_)]) (T:=[⟨[],_,[],[],[83]⟩,⟨[],_,[],[],[84]⟩,⟨[.p 0 0,.o 2],_,[7],[0],[6]⟩,⟨[],_,[],[0,2],[7]⟩,⟨[.p 1 0,.o 3],_,[9],Lr 4,[8]⟩]) (F:=[.o 0,.o 1,.p 2 0,.p 3 0,.p 4 0]) (hst.pick [0,1,3,4] rfl) hb Za
          (o_p rfl (Zno rfl rfl )<|o_p rfl (Zq4 rfl rfl )<|o_p rfl (Z3 Zbb rfl rfl u_1 u_0)<|Qa rfl c_b<|o_p rfl (Z3 Zb2 rfl rfl u_1 u_0)<|o_n) (fun a g hst hb=>?_)
         refine wp_ret ?_
         refine Z5 ?_
         refine Zp ?_
         obtain rfl:=Option.some.inj H0
         obtain ⟨u0,hu0,hq0⟩:=Zbf (P:=Tryz.prog) Zbb (hst.at 2 rfl)
         obtain ⟨u2,hu2,hq2⟩:=Zbf (P:=Tryz.prog) Zb2 (hst.at 4 rfl)
         exact Zi7 rfl hst hb hu0 (Zg (s:=7)) hu2 (Zg9 hq0 (hst.at 3 rfl) hq2)
        ·replace H0:=Zt hc26 H0
         refine r_s (L:=[(3,_),(4,_),(5,_),(6,_),(8,_),(9,_)]) (T:=[⟨[.o 2],_,[],[],[86]⟩,⟨[.p 0 0],_,[],[0],[87]⟩,⟨[.p 1 0],_,[],[0,1],[88]⟩,⟨[.p 2 0],_,[],[0,1,2],[85]⟩]) (F:=[.o 0,.o 1,.o 2,.o 3,.o 4,.o 5,.p 3 0]) (hst.pick [0,1,2,3,4,5] rfl) hb Za
          (Qf rfl Zde u_0<|Ql rfl ty_3 u_0<|o_p rfl (Zbr rfl rfl u_0 c_i)<|Qa rfl u_0<|o_n) (fun a g hst hb=>?_)
         refine wp_cond_split (hst.bool 6 rfl) (fun hc27=>?_) (fun hc27=>?_)
         ·replace H0:=Zu hc27 H0
          obtain ⟨r28,h29,H0⟩:=Zd H0
          refine r_s (L:=[(3,_),(4,_),(6,_),(8,_)]) (T:=[⟨[.o 0],_,[],[],[89]⟩,⟨[.o 1],_,[],[],[90]⟩,⟨[.o 0],_,[],[],[91]⟩,⟨[.p 2 0],_,[],[2],[92]⟩,⟨[.p 3 0],_,[],[2,3],[93]⟩,⟨[.p 0 0,.o 2],_,[7],[0,2,3],[6]⟩,⟨[.p 1 0],_,[],[0,1,2,3,5],[7]⟩,⟨[.p 4 0,.o 3],_,[9],Lr 7,[8]⟩]) (F:=[.o 0,.o 1,.p 5 0,.p 6 0,.p 7 0]) (hst.pick [0,1,3,4] rfl) hb Za
           (QM rfl Zbb u_0<|Ql rfl ty_4 u_0<|QM rfl Zbb u_0<|o_p rfl (Zl Zoq (Zgv _ h29) rfl rfl (.cons u_0 .nil))<|o_p rfl (Z3k rfl rfl u_0)<|o_p rfl (Z3 Zbb rfl rfl u_1 u_0)<|Qa rfl u_0<|o_p rfl (Z3 Zb2 rfl rfl u_1 u_0)<|o_n) (fun a g hst hb=>?_)
          refine wp_ret ?_
          refine Z5 ?_
          refine Zp ?_
          obtain rfl:=Option.some.inj H0
          obtain ⟨u0,hu0,hq0⟩:=Zbf (P:=Tryz.prog) Zbb (hst.at 2 rfl)
          obtain ⟨u2,hu2,hq2⟩:=Zbf (P:=Tryz.prog) Zb2 (hst.at 4 rfl)
          exact Zi7 rfl hst hb hu0 (Zg (s:=7)) hu2 (Zg9 hq0 (hst.at 3 rfl) hq2)
         ·replace H0:=Zt hc27 H0
          obtain ⟨r30,h31,H0⟩:=Zd H0
          refine r_s (L:=[(3,_),(4,_),(5,_),(6,_),(8,_),(9,_)]) (T:=[⟨[.o 2],_,[],[],[95]⟩,⟨[.p 0 0],_,[],[0],[96]⟩,⟨[.p 1 0],_,[],[0,1],[97]⟩,⟨[.o 0],_,[],[],[98]⟩,⟨[.p 3 0],_,[],[3],[99]⟩,⟨[.p 2 0,.p 4 0],_,[],Lr 5,[100]⟩,⟨[.p 5 0],_,[],Lr 6,[94]⟩]) (F:=[.o 0,.o 1,.o 2,.o 3,.o 4,.o 5,.p 6 0]) (hst.pick [0,1,2,3,4,5] rfl) hb Za
           (Qf rfl Zde u_0<|Ql rfl ty_3 u_0<|o_p rfl (Zl Zbcv (Z47 _ h31) rfl rfl (.cons u_0 .nil))<|o_p rfl (Zr Zgb (off:=0) (by kernel_rfl) rfl rfl u_0)<|QP rfl ty_3 u_0<|o_p rfl (Zcz rfl rfl u_0 u_1)<|Qa rfl u_0<|o_n) (fun a g hst hb=>?_)
          refine wp_cond_split (hst.bool 6 rfl) (fun hc32=>?_) (fun hc32=>?_)
          ·replace H0:=Zu hc32 H0
           obtain ⟨r33,h34,H0⟩:=Zd H0
           refine r_s (L:=[(3,_),(4,_),(6,_),(8,_),(9,_)]) (T:=[⟨[.o 4],_,[],[],[101]⟩,⟨[.p 0 0,.o 0],[(102,(pTup [(Ze.pd r33.1),(Zbd r33.2.1),(Zj.pd r33.2.2.1)])),(3,(pBox Ze 3 r33.2.2.2))],[4],[0],[3,9,101,102]⟩,⟨[.p 1 0],_,[],[0,1],[103]⟩,⟨[.p 1 0],_,[],[0,1],[104]⟩,⟨[.p 1 0],_,[],[0,1],[105]⟩,⟨[.p 2 0,.o 2],_,[7],Lr 5,[6]⟩,⟨[.p 3 0],_,[],Lr 6,[7]⟩,⟨[.p 4 0,.o 3],_,[9],Lr 7,[8]⟩]) (F:=[.p 1 1,.o 1,.p 5 0,.p 6 0,.p 7 0]) (hst.pick [0,1,3,4,5] rfl) hb Za
            (Qm rfl u_0<|o_p rfl (Znq (Ps:=[.val (pInt .i64 (5:Int))]) (hs:=[]) (ks:=[(3,none,3)]) Zwl (Zjz _ _ _ h34) rfl rfl rfl u_0 (.val c_i .nil) (.box u_1 rfl (.val .nil)) rfl rfl rfl rfl)<|o_p rfl (Z2 rfl rfl u_0 rfl)<|o_p rfl (Z2 rfl rfl u_0 rfl)<|o_p rfl (Z2 rfl rfl u_0 rfl)<|o_p rfl (Z3 Zbb rfl rfl u_1 u_0)<|Qa rfl u_0<|o_p rfl (Z3 Zb2 rfl rfl u_1 u_0)<|o_n) (fun a g hst hb=>?_)
           refine wp_ret ?_
           refine Z5 ?_
           refine Zp ?_
           obtain rfl:=Option.some.inj H0
           obtain ⟨u0,hu0,hq0⟩:=Zbf (P:=Tryz.prog) Zbb (hst.at 2 rfl)
           obtain ⟨u2,hu2,hq2⟩:=Zbf (P:=Tryz.prog) Zb2 (hst.at 4 rfl)
           exact Zi7 rfl hst hb hu0 (Zg (s:=7)) hu2 (Zg9 hq0 (hst.at 3 rfl) hq2)
          ·replace H0:=Zt hc32 H0
           refine wp_skip ?_
           refine Zbc ?_
           refine Zq ?_
           obtain ⟨r35,h36,H0⟩:=Zd H0
           refine r_s (L:=[(3,_),(4,_),(5,_),(6,_),(8,_)]) (T:=[⟨[.o 0],_,[],[],[106]⟩,⟨[.p 0 0],_,[],[0],[107]⟩,⟨[],[(12,(pBox Ze 12 (default:Zb)))],[13],[],[12]⟩,⟨[.p 1 0,.p 2 0],_,[13],[0,1,2],[12]⟩]) (F:=[.o 0,.o 1,.o 2,.o 3,.o 4,.p 3 0]) (hst.pick [0,1,2,3,4] rfl) hb Za
            (QM rfl Zbb u_0<|o_p rfl (Zl Zoq (Zgv _ h36) rfl rfl (.cons u_0 .nil))<|o_p rfl (Zbh (zs:=[.int .i64 0,.int .i64 0,.int .i64 0,.int .i64 0,.float .f64 0,.int .i64 0,.string ByteArray.empty,.slice none 0 0]) (by kernel_rfl) (fun g=>Zb0 g) rfl rfl)<|o_p rfl (Zb6 Zbb rfl rfl u_1 u_0)<|o_n) (fun a g hst hb=>?_)
           refine r_s (T:=[⟨[],[(13,(pBox Zj 13 (default:Zc)))],[14],[],[13]⟩]) (F:=[.o 0,.o 1,.o 2,.o 3,.o 4,.o 5,.p 0 0]) hst hb Za
            (o_p rfl (Zbh (zs:=[.int .i64 0,.int .i64 0,.int .i64 0,.int .i64 0,.int .i64 0,.int .i64 0,.float .f64 0,.int .i64 0,.string ByteArray.empty,.slice none 0 0]) (by kernel_rfl) (fun g=>Zd6 g) rfl rfl)<|o_n) (fun a g hst hb=>?_)
           refine wp_seq ?_
           obtain ⟨h37,H0⟩:=Zev H0;obtain ⟨r38,h39,H0⟩:=Zd H0
           refine r_s (T:=[⟨[],_,[],[],[108]⟩,⟨[.o 2],_,[],[],[109]⟩,⟨[.p 1 0],_,[],[1],[110]⟩,⟨[.p 0 0,.p 2 0],[(111,(pFun Tryz.prog (Phi a2.Kind)))],[],[0,1,2],[111]⟩,⟨[.o 2],_,[],[],[112]⟩,⟨[.p 3 0,.o 0,.p 4 0,.o 6],[(113,(pInt .i64 r38.1)),(3,(pBox Ze 3 r38.2.1)),(13,(pBox Zj 13 r38.2.2))],[4,14],Lr 5,[3,13,113]⟩,⟨[.p 5 0],_,[],Lr 6,[14]⟩]) (F:=[.p 5 1,.o 1,.o 3,.o 4,.o 5,.p 5 2,.p 6 0]) hst hb Za
            (o_p rfl (Zl Zbc7 Zwi rfl rfl .nil)<|Qf rfl Zde u_0<|Ql rfl ty_3 u_0<|o_p rfl (Z17 Tryz.underlying157 (by kernel_rfl) ⟨_,Tryz.underlying156,rfl⟩ (by have:=h37;omega) (Zba3 h37) (by have:=h37;omega) rfl rfl u_0 u_1)<|Ql rfl Zhb u_0<|o_p rfl (Z4e (hs:=[(3,none,3),(13,none,13)]) (Zbac h39) rfl rfl rfl u_0 (.box u_1 u_1 rfl (.val u_2 (.box u_3 u_3 rfl .nil))) rfl rfl rfl)<|Qa rfl u_0<|o_n) (fun a g hst hb=>?_)
           refine r_s (T:=[⟨[.o 6],_,[],[],[114]⟩,⟨[.p 0 0],_,[],[0],[115]⟩]) (F:=[.o 0,.o 1,.o 2,.o 3,.o 4,.o 5,.o 6,.p 1 0]) hst hb Za
            (Qm rfl u_0<|o_p rfl (Zcz rfl rfl u_0 c_i)<|o_n) (fun a g hst hb=>?_)
           refine wp_cond_split (hst.bool 7 rfl) (fun hc40=>?_) (fun hc40=>?_)
           ·replace H0:=Zu hc40 H0
            refine r_s (L:=[(3,_),(4,_),(6,_),(8,_),(12,_),(14,_)]) (T:=[⟨[.o 4],_,[],[],[116]⟩,⟨[.o 1],_,[],[],[117]⟩,⟨[.o 5],_,[],[],[118]⟩,⟨[.p 2 0],_,[],[2],[119]⟩,⟨[.p 0 0,.o 2],_,[7],[0],[6]⟩,⟨[.p 1 0],_,[],[0,1,4],[7]⟩,⟨[.p 3 0,.o 3],_,[9],Lr 6,[8]⟩]) (F:=[.o 0,.o 1,.p 4 0,.p 5 0,.p 6 0]) (hst.pick [0,1,2,3,4,6] rfl) hb Za
             (Ql rfl Zbb u_0<|Ql rfl ty_4 u_0<|Qm rfl u_0<|o_p rfl (Zrf rfl rfl u_0)<|o_p rfl (Z3 Zbb rfl rfl u_1 u_0)<|Qa rfl u_0<|o_p rfl (Z3 Zb2 rfl rfl u_1 u_0)<|o_n) (fun a g hst hb=>?_)
            refine wp_ret ?_
            refine Zp ?_
            obtain rfl:=Option.some.inj H0
            obtain ⟨u0,hu0,hq0⟩:=Zbf (P:=Tryz.prog) Zbb (hst.at 2 rfl)
            obtain ⟨u2,hu2,hq2⟩:=Zbf (P:=Tryz.prog) Zb2 (hst.at 4 rfl)
            exact Zi7 rfl hst hb hu0 (Zg (s:=7)) hu2 (Zg9 hq0 (hst.at 3 rfl) hq2)
           ·replace H0:=Zt hc40 H0
            refine wp_skip ?_
            refine Zq ?_
            refine r_s (L:=[(3,_),(4,_),(6,_),(8,_),(13,_)]) (T:=[⟨[.o 0],_,[],[],[120]⟩,⟨[.o 1],_,[],[],[121]⟩,⟨[.o 4],_,[],[],[122]⟩,⟨[.p 0 0,.o 2],_,[7],[0],[6]⟩,⟨[.p 1 0],_,[],[0,1,3],[7]⟩,⟨[.p 2 0,.o 3],_,[9],Lr 5,[8]⟩]) (F:=[.o 0,.o 1,.p 3 0,.p 4 0,.p 5 0]) (hst.pick [0,1,2,3,5] rfl) hb Za
             (QM rfl Zbb u_0<|Ql rfl ty_4 u_0<|QM rfl Zb2 u_0<|o_p rfl (Z3 Zbb rfl rfl u_1 u_0)<|Qa rfl u_0<|o_p rfl (Z3 Zb2 rfl rfl u_1 u_0)<|o_n) (fun a g hst hb=>?_)
            refine wp_ret ?_
            obtain rfl:=Option.some.inj H0
            obtain ⟨u0,hu0,hq0⟩:=Zbf (P:=Tryz.prog) Zbb (hst.at 2 rfl)
            obtain ⟨u2,hu2,hq2⟩:=Zbf (P:=Tryz.prog) Zb2 (hst.at 4 rfl)
            exact Zi7 rfl hst hb hu0 (Zg (s:=7)) hu2 (Zg9 hq0 (hst.at 3 rfl) hq2)
   ·refine wp_cond_split (hst.bool 6 rfl) (fun hc10=>?_) (fun hc10=>?_)
    ·replace H0:=Zu hc10 H0
     obtain ⟨r11,h12,H0⟩:=Zd H0
     refine r_s (L:=[(3,_),(4,_),(5,_),(6,_),(8,_),(9,_)]) (T:=[⟨[.o 0],_,[],[],[32]⟩,⟨[.p 0 0],_,[],[0],[33]⟩,⟨[.p 1 0],_,[],[0,1],[11]⟩]) (F:=[.o 0,.o 1,.o 2,.o 3,.o 4,.o 5,.p 2 0]) (hst.pick [0,1,2,3,4,5] rfl) hb Za
      (QM rfl Zbb u_0<|o_p rfl (Zl Z4d (Zp4 _ h12) rfl rfl (.cons u_0 .nil))<|Qa rfl u_0<|o_n) (fun a g hst hb=>?_)
     refine r_s (T:=[⟨[.o 6],_,[],[],[34]⟩,⟨[.p 0 0],_,[],[0],[35]⟩]) (F:=[.o 0,.o 1,.o 2,.o 3,.o 4,.o 5,.o 6,.p 1 0]) hst hb Za
      (Qm rfl u_0<|o_p rfl (Zcz rfl rfl u_0 c_i)<|o_n) (fun a g hst hb=>?_)
     refine wp_cond_split (hst.bool 7 rfl) (fun hc13=>?_) (fun hc13=>?_)
     ·replace H0:=Zu hc13 H0
      obtain ⟨r14,h15,H0⟩:=Zd H0
      refine r_s (L:=[(3,_),(4,_),(6,_),(8,_),(9,_),(11,_)]) (T:=[⟨[.o 4],_,[],[],[36]⟩,⟨[.o 5],_,[],[],[37]⟩,⟨[.p 0 0,.p 1 0,.o 0],[(38,(pTup [(Ze.pd r14.1),(Zbd r14.2.1),(Zj.pd r14.2.2.1)])),(3,(pBox Ze 3 r14.2.2.2))],[4],[0,1],[3,9,36,38]⟩,⟨[.p 2 0],_,[],[0,1,2],[39]⟩,⟨[.p 2 0],_,[],[0,1,2],[40]⟩,⟨[.p 2 0],_,[],[0,1,2],[41]⟩,⟨[.p 3 0,.o 2],_,[7],Lr 6,[6]⟩,⟨[.p 4 0],_,[],Lr 7,[7]⟩,⟨[.p 5 0,.o 3],_,[9],Lr 8,[8]⟩]) (F:=[.p 2 1,.o 1,.p 6 0,.p 7 0,.p 8 0]) (hst.pick [0,1,3,4,5,6] rfl) hb Za
       (Qm rfl u_0<|Qm rfl u_0<|o_p rfl (Znq (Ps:=[.val (pInt .i64 r11)]) (hs:=[]) (ks:=[(3,none,3)]) Zwl (Zjz _ _ _ h15) rfl rfl rfl u_0 (.val u_1 .nil) (.box u_2 rfl (.val .nil)) rfl rfl rfl rfl)<|o_p rfl (Z2 rfl rfl u_0 rfl)<|o_p rfl (Z2 rfl rfl u_0 rfl)<|o_p rfl (Z2 rfl rfl u_0 rfl)<|o_p rfl (Z3 Zbb rfl rfl u_1 u_0)<|Qa rfl u_0<|o_p rfl (Z3 Zb2 rfl rfl u_1 u_0)<|o_n) (fun a g hst hb=>?_)
      refine wp_ret ?_
      refine Zp ?_
      refine Zp ?_
      obtain rfl:=Option.some.inj H0
      obtain ⟨u0,hu0,hq0⟩:=Zbf (P:=Tryz.prog) Zbb (hst.at 2 rfl)
      obtain ⟨u2,hu2,hq2⟩:=Zbf (P:=Tryz.prog) Zb2 (hst.at 4 rfl)
      exact Zi7 rfl hst hb hu0 (Zg (s:=7)) hu2 (Zg9 hq0 (hst.at 3 rfl) hq2)
     ·replace H0:=Zt hc13 H0
      refine wp_skip ?_
      exact ⟨g,rfl,(hst.pick [0,1,2,3,4,5] rfl),hb,H0⟩
    ·replace H0:=Zt hc10 H0
     refine wp_skip ?_
     exact ⟨g,rfl,(hst.pick [0,1,2,3,4,5] rfl),hb,H0⟩
 ·refine wp_cond_split (hst.bool 5 rfl) (fun hc1=>?_) (fun hc1=>?_)
  ·replace H0:=Zu hc1 H0
   refine r_g (L:=[(3,_),(4,_),(5,_),(6,_),(8,_)]) (T:=[⟨[],_,[],[],[17]⟩,⟨[.p 0 0,.o 0],_,[4],[0],[3]⟩]) (F:=[.p 1 0,.o 1,.o 2,.o 3,.o 4]) (hst.pick [0,1,2,3,4] rfl) hb Za
    (o_p rfl (Zno rfl rfl )<|o_p rfl (Z3 Zbb rfl rfl u_1 u_0)<|o_n) (fun a g hst hb=>?_)
   exact ⟨({ Kind:=(0:Int),Num:=(0:Int),Low:=(0:Int),High:=(0:Int),Real:=(0:Nat),Cap:=(0:Int),Text:=ByteArray.empty,List:=([]:List Zi) }:Zb),g,rfl,(hst.pick [0,1,2,3,4] rfl),hb,H0⟩
  ·replace H0:=Zt hc1 H0
   refine wp_skip ?_
   exact ⟨a0,g,rfl,(hst.pick [0,1,2,3,4] rfl),hb,H0⟩
theorem Z2d (a0:Zk) (a1:Zm) {r:Zk × Zc} (h:Zm3 a0 a1=some r):FnOk Tryz.prog 44 [(Zx.pd a0),(Zy.pd a1)] (pTup [(Zx.pd r.1),(Zj.pd r.2)]):=by
 have H0:=h
 unfold Zm3 at H0
 clear h
 refine Zbt (N:=66) Tryz.func44 rfl rfl (Qe rfl) rfl rfl (fun a g0 hst hb=>?_)
 refine r_s (T:=[⟨[.o 0],_,[3],[],[2]⟩,⟨[.o 1],_,[],[],[3]⟩,⟨[],[(4,(pBox Zx 4 (default:Zk)))],[5],[],[4]⟩,⟨[],[(5,(pBox Zj 5 (default:Zc)))],[6],[],[5]⟩]) (F:=[.p 0 0,.p 1 0,.p 2 0,.p 3 0]) hst hb Za
  (o_p rfl (Zkr rfl rfl u_0)<|Qb rfl u_0<|o_p rfl (Zbh (zs:=[.pointer none,.int .i64 0]) (by kernel_rfl) (fun g=>Zd5 g) rfl rfl)<|o_p rfl (Zbh (zs:=[.int .i64 0,.int .i64 0,.int .i64 0,.int .i64 0,.int .i64 0,.int .i64 0,.float .f64 0,.int .i64 0,.string ByteArray.empty,.slice none 0 0]) (by kernel_rfl) (fun g=>Zd6 g) rfl rfl)<|o_n) (fun a g hst hb=>?_)
 obtain ⟨r1,h2,H0⟩:=Zd H0
 refine r_s (T:=[⟨[.o 0],_,[],[],[14]⟩,⟨[.o 1],_,[],[],[15]⟩,⟨[.p 1 0],_,[],[1],[16]⟩,⟨[.p 0 0,.p 2 0],_,[],[0,1,2],[17]⟩,⟨[.p 3 0],_,[],Lr 4,[13]⟩,⟨[.p 4 0],_,[],Lr 5,[18]⟩,⟨[.p 4 0],_,[],Lr 5,[19]⟩,⟨[],[(6,(pBox Ze 6 (default:Zb)))],[7],[],[6]⟩,⟨[.p 5 0,.p 7 0],_,[7],[0,1,2,3,4,5,7],[6]⟩,⟨[.p 6 0],_,[],Lr 9,[7]⟩]) (F:=[.o 0,.o 1,.o 2,.o 3,.p 8 0,.p 9 0]) hst hb Za
  (QM rfl Zbu u_0<|Qf rfl Zhj u_0<|Ql rfl ty_9 u_0<|o_p rfl (Zl Zt1 (Zg6 _ _ h2) rfl rfl (.cons u_0 (.cons u_1 .nil)))<|Qm rfl u_0<|o_p rfl (Z2 rfl rfl u_0 rfl)<|o_p rfl (Z2 rfl rfl u_0 rfl)<|o_p rfl (Zbh (zs:=[.int .i64 0,.int .i64 0,.int .i64 0,.int .i64 0,.float .f64 0,.int .i64 0,.string ByteArray.empty,.slice none 0 0]) (by kernel_rfl) (fun g=>Zb0 g) rfl rfl)<|o_p rfl (Zb6 Zbb rfl rfl u_1 u_0)<|Qa rfl u_0<|o_n) (fun a g hst hb=>?_)
 obtain ⟨r3,h4,H0⟩:=Zd H0
 refine r_s (T:=⟨[.o 4],_,[],[],[21]⟩ :: ⟨[.o 5],_,[],[],[22]⟩ :: ⟨[.o 1],_,[],[],[23]⟩ :: ⟨[.p 0 0,.p 1 0,.p 2 0],_,[],[0,1,2],[24]⟩ :: ⟨[.p 3 0],_,[],Lr 4,[20]⟩ :: ⟨[.p 4 0],_,[],Lr 5,[25]⟩ :: ⟨[.p 4 0],_,[],Lr 5,[26]⟩ :: ⟨[.p 4 0],_,[],Lr 5,[27]⟩ :: ⟨[],[(8,(pBox Ze 8 (default:Zb)))],[9],[],[8]⟩ :: ⟨[],[(10,(pBox Zj 10 (default:Zc)))],[11],[],[10]⟩ :: ⟨[.p 5 0,.p 8 0],_,[9],[0,1,2,3,4,5,8,9],[8]⟩ :: ⟨[.p 6 0],_,[],[0,1,2,3,4,5,6,8,9,10],[9]⟩ :: ⟨[.p 7 0,.p 9 0],_,[11],Lr 12,[10]⟩ :: []) (F:=[.o 0,.o 1,.o 2,.o 3,.p 10 0,.p 11 0,.p 12 0]) hst hb Za
  (Ql rfl Zbb u_0<|Qm rfl u_0<|Ql rfl Zhb u_0<|o_p rfl (Zl Zbc0 (Zy7 _ _ _ h4) rfl rfl (.cons u_0 (.cons u_1 (.cons u_2 .nil))))<|Qm rfl u_0<|o_p rfl (Z2 rfl rfl u_0 rfl)<|o_p rfl (Z2 rfl rfl u_0 rfl)<|o_p rfl (Z2 rfl rfl u_0 rfl)<|o_p rfl (Zbh (zs:=[.int .i64 0,.int .i64 0,.int .i64 0,.int .i64 0,.float .f64 0,.int .i64 0,.string ByteArray.empty,.slice none 0 0]) (by kernel_rfl) (fun g=>Zb0 g) rfl rfl)<|o_p rfl (Zbh (zs:=[.int .i64 0,.int .i64 0,.int .i64 0,.int .i64 0,.int .i64 0,.int .i64 0,.float .f64 0,.int .i64 0,.string ByteArray.empty,.slice none 0 0]) (by kernel_rfl) (fun g=>Zd6 g) rfl rfl)<|o_p rfl (Zb6 Zbb rfl rfl u_1 u_0)<|Qa rfl u_0<|o_p rfl (Zb6 Zb2 rfl rfl u_1 u_0)<|o_n) (fun a g hst hb=>?_)
 refine wp_seq ?_
 refine wp_block ?_
 obtain ⟨r5,h6,H0⟩:=Zd H0
 refine r_s (T:=[⟨[.o 6],_,[],[],[29]⟩,⟨[.p 0 0],_,[],[0],[30]⟩,⟨[.p 1 0],_,[],[0,1],[31]⟩,⟨[.p 2 0],_,[],[0,1,2],[32]⟩,⟨[.p 3 0,.o 1],_,[],Lr 4,[33]⟩,⟨[.p 3 0,.p 4 0],_,[],Lr 5,[34]⟩,⟨[.p 3 0,.p 5 0],_,[],Lr 6,[35]⟩,⟨[.p 3 0,.p 6 0],_,[],Lr 7,[36]⟩,⟨[.p 7 0],_,[],Lr 8,[28]⟩]) (F:=[.o 0,.o 1,.o 2,.o 3,.o 4,.o 5,.o 6,.p 8 0]) hst hb Za
  (Qf rfl Zio u_0<|Ql rfl Zjb u_0<|o_p rfl (Zcz rfl rfl u_0 c_i)<|Qm rfl u_0<|o_g (Qg_f rfl (fun hG=>Zh Zde rfl rfl u_0))<|o_g (Qg_f rfl (fun hG=>Zs ty_3 rfl rfl (Opd.gd hG u_0)))<|o_g (Qg_f rfl (fun hG=>Zl Z8q (Zti _ (Zbn h6 hG)) rfl rfl (.cons (Opd.gd hG u_0) .nil)))<|o_p rfl (Zbm rfl rfl u_0 (fun hz=>(Opd.gd (bNF hz) u_1)))<|Qa rfl u_0<|o_n) (fun a g hst hb=>?_)
 refine wp_cond_split (hst.bool 7 rfl) (fun hc7=>?_) (fun hc7=>?_)
 ·replace H0:=Zu hc7 H0
  refine r_s (L:=[(2,_),(4,_),(5,_),(10,_)]) (T:=[⟨[.o 0],_,[],[],[37]⟩,⟨[.o 3],_,[],[],[38]⟩,⟨[.p 0 0,.o 1],_,[5],[0],[4]⟩,⟨[.p 1 0,.o 2],_,[6],[0,1,2],[5]⟩]) (F:=[.p 2 0,.p 3 0]) (hst.pick [0,2,3,6] rfl) hb Za
   (QM rfl Zbu u_0<|Ql rfl Zb2 u_0<|o_p rfl (Z3 Zbu rfl rfl u_1 u_0)<|o_p rfl (Z3 Zb2 rfl rfl u_1 u_0)<|o_n) (fun a g hst hb=>?_)
  refine wp_ret ?_
  refine Z5 ?_
  refine Zp ?_
  obtain rfl:=Option.some.inj H0
  obtain ⟨u0,hu0,hq0⟩:=Zbf (P:=Tryz.prog) Zbu (hst.at 0 rfl)
  obtain ⟨u1,hu1,hq1⟩:=Zbf (P:=Tryz.prog) Zb2 (hst.at 1 rfl)
  exact Zdt rfl hst hb hu0 hu1 (Zcr hq0 hq1)
 ·replace H0:=Zt hc7 H0
  refine r_s (L:=[(2,_),(3,_),(4,_),(5,_),(8,_),(9,_),(10,_)]) (T:=[⟨[.o 5],_,[],[],[40]⟩,⟨[.p 0 0],_,[],[0],[41]⟩,⟨[.p 1 0],_,[],[0,1],[39]⟩]) (F:=[.o 0,.o 1,.o 2,.o 3,.o 4,.o 6,.p 2 0]) (hst.pick [0,1,2,3,4,5,6] rfl) hb Za
   (Qm rfl u_0<|Qn rfl u_0<|Qa rfl u_0<|o_n) (fun a g hst hb=>?_)
  refine wp_cond_split (hst.bool 6 rfl) (fun hc8=>?_) (fun hc8=>?_)
  ·replace H0:=Zu hc8 H0
   obtain ⟨r9,h10,H0⟩:=Zd H0
   refine r_s (L:=[(2,_),(3,_),(4,_),(5,_),(10,_)]) (T:=[⟨[.o 0],_,[],[],[43]⟩,⟨[.o 1],_,[],[],[44]⟩,⟨[.p 1 0],_,[],[1],[45]⟩,⟨[.p 0 0,.p 2 0],_,[],[0,1,2],[46]⟩,⟨[.p 3 0],_,[],Lr 4,[42]⟩,⟨[.p 4 0],_,[],Lr 5,[47]⟩,⟨[.p 4 0],_,[],Lr 5,[48]⟩,⟨[.p 5 0,.o 0],_,[3],Lr 6,[2]⟩]) (F:=[.p 7 0,.o 2,.o 3,.o 4]) (hst.pick [0,1,2,3,5] rfl) hb Za
    (QM rfl Zbu u_0<|Qf rfl Zhj u_0<|Ql rfl ty_9 u_0<|o_p rfl (Zl Z8p (Zo5 _ _ h10) rfl rfl (.cons u_0 (.cons u_1 .nil)))<|Qm rfl u_0<|o_p rfl (Z2 rfl rfl u_0 rfl)<|o_p rfl (Z2 rfl rfl u_0 rfl)<|o_p rfl (Z3 Zbu rfl rfl u_1 u_0)<|o_n) (fun a g hst hb=>?_)
   refine r_s (T:=[⟨[.o 0],_,[],[],[49]⟩,⟨[.o 3],_,[],[],[50]⟩,⟨[.p 0 0,.o 1],_,[5],[0],[4]⟩,⟨[.p 1 0,.o 2],_,[6],[0,1,2],[5]⟩]) (F:=[.p 2 0,.p 3 0]) hst hb Za
    (QM rfl Zbu u_0<|Ql rfl Zb2 u_0<|o_p rfl (Z3 Zbu rfl rfl u_1 u_0)<|o_p rfl (Z3 Zb2 rfl rfl u_1 u_0)<|o_n) (fun a g hst hb=>?_)
   refine wp_ret ?_
   refine Z5 ?_
   refine Zp ?_
   obtain rfl:=Option.some.inj H0
   obtain ⟨u0,hu0,hq0⟩:=Zbf (P:=Tryz.prog) Zbu (hst.at 0 rfl)
   obtain ⟨u1,hu1,hq1⟩:=Zbf (P:=Tryz.prog) Zb2 (hst.at 1 rfl)
   exact Zdt rfl hst hb hu0 hu1 (Zcr hq0 hq1)
  ·replace H0:=Zt hc8 H0
   refine wp_skip ?_
   refine Zbc ?_
   refine Zq ?_
   obtain ⟨r11,h12,H0⟩:=Zd H0
   refine r_s (L:=[(2,_),(3,_),(4,_),(5,_),(8,_),(10,_)]) (T:=[⟨[.o 0],_,[],[],[52]⟩,⟨[.o 1],_,[],[],[53]⟩,⟨[.p 1 0],_,[],[1],[54]⟩,⟨[.o 4],_,[],[],[55]⟩,⟨[.p 0 0,.p 2 0,.p 3 0],_,[],Lr 4,[56]⟩,⟨[.p 4 0],_,[],Lr 5,[51]⟩,⟨[.p 5 0],_,[],Lr 6,[57]⟩,⟨[.p 5 0],_,[],Lr 6,[58]⟩,⟨[],[(11,(pBox Zx 11 (default:Zk)))],[12],[],[11]⟩,⟨[.p 6 0,.p 8 0],_,[12],[0,1,2,3,4,5,6,8],[11]⟩,⟨[.p 7 0],_,[],Lr 10,[12]⟩]) (F:=[.o 0,.o 2,.o 3,.o 5,.p 9 0,.p 10 0]) (hst.pick [0,1,2,3,4,5] rfl) hb Za
    (QM rfl Zbu u_0<|Qf rfl Zhj u_0<|Ql rfl ty_9 u_0<|Ql rfl Zbb u_0<|o_p rfl (Zl Zzm (Zj5 _ _ _ h12) rfl rfl (.cons u_0 (.cons u_1 (.cons u_2 .nil))))<|Qm rfl u_0<|o_p rfl (Z2 rfl rfl u_0 rfl)<|o_p rfl (Z2 rfl rfl u_0 rfl)<|o_p rfl (Zbh (zs:=[.pointer none,.int .i64 0]) (by kernel_rfl) (fun g=>Zd5 g) rfl rfl)<|o_p rfl (Zb6 Zbu rfl rfl u_1 u_0)<|Qa rfl u_0<|o_n) (fun a g hst hb=>?_)
   refine wp_seq ?_
   refine r_s (T:=[⟨[.o 5],_,[],[],[59]⟩,⟨[.p 0 0],_,[],[0],[60]⟩]) (F:=[.o 0,.o 1,.o 2,.o 3,.o 4,.o 5,.p 1 0]) hst hb Za
    (Qm rfl u_0<|o_p rfl (Zcz rfl rfl u_0 c_i)<|o_n) (fun a g hst hb=>?_)
   refine wp_cond_split (hst.bool 6 rfl) (fun hc13=>?_) (fun hc13=>?_)
   ·replace H0:=Zu hc13 H0
    refine r_s (L:=[(2,_),(4,_),(5,_),(12,_)]) (T:=[⟨[.o 0],_,[],[],[61]⟩,⟨[.o 3],_,[],[],[62]⟩,⟨[.p 1 0],_,[],[1],[63]⟩,⟨[.p 0 0,.o 1],_,[5],[0],[4]⟩,⟨[.p 2 0,.o 2],_,[6],Lr 4,[5]⟩]) (F:=[.p 3 0,.p 4 0]) (hst.pick [0,1,2,5] rfl) hb Za
     (QM rfl Zbu u_0<|Qm rfl u_0<|o_p rfl (Zrf rfl rfl u_0)<|o_p rfl (Z3 Zbu rfl rfl u_1 u_0)<|o_p rfl (Z3 Zb2 rfl rfl u_1 u_0)<|o_n) (fun a g hst hb=>?_)
    refine wp_ret ?_
    refine Zp ?_
    obtain rfl:=Option.some.inj H0
    obtain ⟨u0,hu0,hq0⟩:=Zbf (P:=Tryz.prog) Zbu (hst.at 0 rfl)
    obtain ⟨u1,hu1,hq1⟩:=Zbf (P:=Tryz.prog) Zb2 (hst.at 1 rfl)
    exact Zdt rfl hst hb hu0 hu1 (Zcr hq0 hq1)
   ·replace H0:=Zt hc13 H0
    refine wp_skip ?_
    refine Zq ?_
    refine r_s (L:=[(4,_),(5,_),(10,_),(11,_)]) (T:=[⟨[.o 3],_,[],[],[64]⟩,⟨[.o 2],_,[],[],[65]⟩,⟨[.p 0 0,.o 0],_,[5],[0],[4]⟩,⟨[.p 1 0,.o 1],_,[6],[0,1,2],[5]⟩]) (F:=[.p 2 0,.p 3 0]) (hst.pick [1,2,3,4] rfl) hb Za
     (Ql rfl Zbu u_0<|Ql rfl Zb2 u_0<|o_p rfl (Z3 Zbu rfl rfl u_1 u_0)<|o_p rfl (Z3 Zb2 rfl rfl u_1 u_0)<|o_n) (fun a g hst hb=>?_)
    refine wp_ret ?_
    obtain rfl:=Option.some.inj H0
    obtain ⟨u0,hu0,hq0⟩:=Zbf (P:=Tryz.prog) Zbu (hst.at 0 rfl)
    obtain ⟨u1,hu1,hq1⟩:=Zbf (P:=Tryz.prog) Zb2 (hst.at 1 rfl)
    exact Zdt rfl hst hb hu0 hu1 (Zcr hq0 hq1)
theorem Zsi (a0:Z0) {r:Bool × Z0} (h:Zji a0=some r):FnMR Tryz.prog 19 Zcq a0 r.2 [] (Zbd r.1):=by
 have H0:=h
 unfold Zji at H0
 clear h
 refine Zt8 (N:=86) Tryz.func19 rfl rfl (Qe rfl) rfl rfl (fun a g0 b0 hst hb=>?_)
 replace hst:St 86 [(0,(pEq (ptrB b0 0))),(1002,(pSJ Zbo Zb7 (hpL (pRow Zj 68 1000000 (Zdp a0))) 0 b0 a0))] _ _:=Zrh hst
 refine r_s (T:=[⟨[],_,[],[],[2]⟩]) (F:=[.o 0,.o 1]) hst hb Za
  (Qa rfl c_b<|o_n) (fun a g hst hb=>?_)
 refine wp_seq ?_
 refine r_s (T:=[⟨[.o 0],_,[],[],[6]⟩,⟨[.p 0 0],_,[],[0],[7]⟩,⟨[.p 1 0],_,[],[0,1],[8]⟩,⟨[.p 2 0,.o 1],_,[],[0,1,2],[9]⟩]) (F:=[.o 0,.p 3 0,.o 1]) hst hb Za
  (Qm rfl u_0<|o_p rfl (Zo rfl rfl u_0 (fun _ _ h=>⟨_,h⟩))<|o_p rfl (Zb9 Zn9 rfl rfl u_0)<|o_p rfl (Zf1 (u:=a0.over) ty_4 (fun g s cs h _=>kp_4 h) rfl rfl u_1 u_0)<|o_n) (fun a g hst hb=>?_)
 refine wp_cond_split (hst.bool 1 rfl) (fun hc1=>?_) (fun hc1=>?_)
 ·replace H0:=Zu hc1 H0
  refine r_s (L:=[(0,_),(1002,_)]) (T:=[⟨[],_,[],[],[2]⟩]) (F:=[.o 0,.p 0 0,.o 1]) (hst.pick [0,2] rfl) hb Za
   (Qa rfl c_b<|o_n) (fun a g hst hb=>?_)
  refine wp_ret ?_
  refine Zp ?_
  obtain rfl:=Option.some.inj H0
  exact Zzq rfl hst hb (Zg (s:=2)) (hst.at 1 rfl) (hst.at 2 rfl)
 ·replace H0:=Zt hc1 H0
  refine wp_skip ?_
  refine Zq ?_
  refine r_s (L:=[(0,_),(1002,_)]) (T:=[⟨[.o 0],_,[],[],[10]⟩,⟨[.p 0 0],_,[],[0],[11]⟩,⟨[.p 1 0],_,[],[0,1],[12]⟩,⟨[.p 2 0],_,[],[0,1,2],[13]⟩,⟨[.p 3 0,.o 1],[(14,(pRow Zj 68 1000000 a0.out.Answers))],[],Lr 4,[14]⟩,⟨[.p 4 0],_,[],Lr 5,[15]⟩,⟨[.p 5 0],_,[],Lr 6,[3]⟩]) (F:=[.o 0,.p 6 0,.p 4 0,.o 1]) (hst.pick [0,2] rfl) hb Za
   (Qm rfl u_0<|o_p rfl (Zo rfl rfl u_0 (fun _ _ h=>⟨_,h⟩))<|o_p rfl (Zb9 Zoi rfl rfl u_0)<|o_p rfl (Zb9 Zxe rfl rfl u_0)<|o_p rfl (Zu5 Zp2 (fun g s cs h=>Z5r h) rfl rfl u_1 u_0)<|o_p rfl (Zbv Tryz.underlying47 rfl rfl (Opd.imp u_0 (fun _ _ h=>Zd0 h)))<|Qa rfl u_0<|o_n) (fun a g hst hb=>?_)
  obtain ⟨e2,h3,H0⟩:=Zd H0
  refine r_s (T:=[⟨[.o 0],_,[],[],[16]⟩,⟨[.p 0 0],_,[],[0],[17]⟩,⟨[.p 1 0],_,[],[0,1],[18]⟩,⟨[.p 2 0],_,[],[0,1,2],[19]⟩,⟨[.p 3 0,.o 3],_,[],Lr 4,[20]⟩,⟨[.o 1],_,[],[],[21]⟩,⟨[.p 4 0,.p 5 0],_,[],Lr 6,[22]⟩,⟨[.p 6 0],_,[],Lr 7,[23]⟩,⟨[],[(4,(pBox Zy 4 (default:Zm)))],[5],[],[4]⟩,⟨[.p 7 0,.p 8 0],_,[5],Lr 9,[4]⟩]) (F:=[.o 0,.o 1,.p 9 0,.o 2,.o 3]) hst hb Za
   (Qm rfl u_0<|o_p rfl (Zo rfl rfl u_0 (fun _ _ h=>⟨_,h⟩))<|o_p rfl (Zb9 Zxj rfl rfl u_0)<|o_p rfl (Zb9 Zxp rfl rfl u_0)<|o_p rfl (Zf1 (u:=a0.d.Acts) Zkk (fun g s cs h _=>Z1f h) rfl rfl u_1 u_0)<|Qm rfl u_0<|o_p rfl (Zbi Tryz.underlying23 Znr rfl rfl u_0 u_1 h3)<|Ql rfl Zhb u_0<|o_p rfl (Zbh (zs:=[.int .i64 0,.string ByteArray.empty,.int .i64 0,.float .f64 0,.string ByteArray.empty,.int .i64 0,.int .i64 0,.int .i64 0,.int .i64 0,.float .f64 0,.int .i64 0,.string ByteArray.empty,.slice none 0 0,.bool false]) (by kernel_rfl) (fun g=>Zpf g) rfl rfl)<|o_p rfl (Zb6 Zhb rfl rfl u_1 u_0)<|o_n) (fun a g hst hb=>?_)
  refine r_s (T:=[⟨[],[(5,(pBox Zj 5 (default:Zc)))],[6],[],[5]⟩]) (F:=[.o 0,.o 1,.o 2,.p 0 0,.o 3,.o 4]) hst hb Za
   (o_p rfl (Zbh (zs:=[.int .i64 0,.int .i64 0,.int .i64 0,.int .i64 0,.int .i64 0,.int .i64 0,.float .f64 0,.int .i64 0,.string ByteArray.empty,.slice none 0 0]) (by kernel_rfl) (fun g=>Zd6 g) rfl rfl)<|o_n) (fun a g hst hb=>?_)
  refine wp_seq ?_
  obtain ⟨r4,h5,H0⟩:=Zd H0
  refine r_s (T:=[⟨[.o 0],_,[],[],[24]⟩,⟨[.p 0 0],_,[],[0],[25]⟩,⟨[.p 1 0],_,[],[0,1],[26]⟩,⟨[.p 2 0,.o 5],_,[],[0,1,2],[27]⟩,⟨[.o 2],_,[],[],[28]⟩,⟨[.p 4 0],_,[],[4],[29]⟩,⟨[.p 3 0,.p 5 0],_,[],Lr 6,[30]⟩,⟨[.p 6 0],_,[],Lr 7,[31]⟩]) (F:=[.o 0,.o 1,.o 2,.o 3,.o 4,.p 7 0,.o 5]) hst hb Za
   (Qm rfl u_0<|o_p rfl (Zo rfl rfl u_0 (fun _ _ h=>⟨_,h⟩))<|o_p rfl (Zb9 Z2m rfl rfl u_0)<|o_p rfl (Zf1 (u:=a0.split) Z74 (fun g s cs h _=>kp_1 h) rfl rfl u_1 u_0)<|Qf rfl Zhj u_0<|Ql rfl ty_9 u_0<|o_p rfl (Zl Z8f (Zjl _ _ h5) rfl rfl (.cons u_0 (.cons u_1 .nil)))<|Qn rfl u_0<|o_n) (fun a g hst hb=>?_)
  refine Zb3 (fun a w=>∃ (j9:Zc) (j10:Z0) (g:G),w=g.w ∧ St 86 [(0,(pEq (ptrB b0 0))),(3,(pInt .i64 (a0.out.Answers.length:Int))),(4,(Zy.ptr e2)),(5,(pBox Zj 5 j9)),(14,(pRow Zj 68 1000000 a0.out.Answers)),(1002,(pSJ Zbo Zb7 (hpL (pRow Zj 68 1000000 (Zdp j10))) 0 b0 j10))] a g ∧ Base g0 g ∧ Zhm a0 e2 j9 j10=some r) ?_ ?_
  ·rintro a w ⟨j9,j10,g,rfl,hst,hb,H0⟩
   unfold Zhm at H0
   refine Zq ?_
   refine wp_seq ?_
   refine r_s (T:=[⟨[.o 2],_,[],[],[44]⟩,⟨[.p 0 0],_,[],[0],[45]⟩,⟨[.p 1 0],_,[],[0,1],[46]⟩,⟨[.p 2 0,.o 3],_,[],[0,1,2],[47]⟩,⟨[.p 2 0,.p 3 0],_,[],Lr 4,[48]⟩,⟨[.p 2 0,.p 4 0],_,[],Lr 5,[49]⟩,⟨[.p 2 0,.p 5 0],_,[],Lr 6,[50]⟩]) (F:=[.o 0,.o 1,.o 3,.o 4,.p 6 0,.o 5]) hst hb Za
    (Qf rfl Zuc u_0<|Ql rfl ty_4 u_0<|Qm rfl u_0<|o_g (Qg_t rfl (fun hG=>Zr Zio (off:=0) (by kernel_rfl) rfl rfl u_0))<|o_g (Qg_t rfl (fun hG=>Zh3 Zjb rfl rfl (Opd.gd hG u_0)))<|o_g (Qg_t rfl (fun hG=>Zcz rfl rfl (Opd.gd hG u_0) c_i))<|o_p rfl (Zbg rfl rfl u_0 (fun hz=>(Opd.gd hz u_1)))<|o_n) (fun a g hst hb=>?_)
   refine wp_cond_split (hst.bool 4 rfl) (fun hc11=>?_) (fun hc11=>?_)
   ·replace H0:=Zu hc11 H0
    refine r_s (L:=[(0,_),(3,_),(5,_),(14,_),(1002,_)]) (T:=⟨[.o 0],_,[],[],[51]⟩ :: ⟨[.o 0],_,[],[],[52]⟩ :: ⟨[.o 2],_,[],[],[53]⟩ :: ⟨[.p 2 0],_,[],[2],[54]⟩ :: ⟨[.o 1],_,[],[],[55]⟩ :: ⟨[.p 4 0],_,[],[4],[56]⟩ :: ⟨[.p 3 0,.p 5 0],[(57,(Zb4.pd (Zb8 ({ Code:=j9.Code,At:=(IntKind.i64.wrap ((a0.out.Answers.length:Int) + (1:Int))),Answers:=([]:List Zc) }:Zw) (none,0,0))))],[],List.range' 2 4,[57]⟩ :: ⟨[.p 0 0],_,[],[0,2,3,4,5,6],[58]⟩ :: ⟨[.p 7 0],_,[],[0,2,3,4,5,6,7],[59]⟩ :: ⟨[.p 8 0,.p 6 0,.o 4],[(1002,(pSJ Zbo Zb7 (hpL (pRow Zj 68 1000000 (Zdp ({ j10 with out:=({ Code:=j9.Code,At:=(IntKind.i64.wrap ((a0.out.Answers.length:Int) + (1:Int))),Answers:=([]:List Zc) }:Zw) }:Z0)))) 0 b0 ({ j10 with out:=({ Code:=j9.Code,At:=(IntKind.i64.wrap ((a0.out.Answers.length:Int) + (1:Int))),Answers:=([]:List Zc) }:Zw) }:Z0)))],[1],[0,2,3,4,5,6,7,8],[1002]⟩ :: ⟨[.p 1 0],_,[],Lr 10,[60]⟩ :: ⟨[.p 10 0],_,[],Lr 11,[61]⟩ :: ⟨[.p 11 0,.p 9 0],[(1002,(pSJ Zbo Zb7 (hpL (pRow Zj 68 1000000 (Zdp ({ ({ j10 with out:=({ Code:=j9.Code,At:=(IntKind.i64.wrap ((a0.out.Answers.length:Int) + (1:Int))),Answers:=([]:List Zc) }:Zw) }:Z0) with over:=true }:Z0)))) 0 b0 ({ ({ j10 with out:=({ Code:=j9.Code,At:=(IntKind.i64.wrap ((a0.out.Answers.length:Int) + (1:Int))),Answers:=([]:List Zc) }:Zw) }:Z0) with over:=true }:Z0)))],[1],Lr 12,[1002]⟩ :: []) (F:=[.o 0,.p 12 0]) (hst.pick [0,1,2,3,5] rfl) hb Za
     (Qm rfl u_0<|Qm rfl u_0<|o_p rfl (Zr Zio (off:=0) (by kernel_rfl) rfl rfl u_0)<|QP rfl Zjb u_0<|Qm rfl u_0<|o_p rfl (Zbz rfl rfl u_0 c_i rfl)<|o_p rfl (Zwe rfl rfl u_0 u_1)<|o_p rfl (Zo rfl rfl u_0 (fun _ _ h=>⟨_,h⟩))<|o_p rfl (Zb9 Zoi rfl rfl u_0)<|o_p rfl (Zlm Z5s rfl rfl (fun k hk=>by rw [List.mem_singleton.1 hk];decide) u_2 u_0 u_1 (fun g g' cs s0 ys h hr hy=>⟨(none,0,0),Z42 h hy,Zma 1000000 g'⟩))<|o_p rfl (Zo rfl rfl u_0 (fun _ _ h=>⟨_,h⟩))<|o_p rfl (Zb9 Zn9 rfl rfl u_0)<|o_p rfl (Zlm ty_4 rfl rfl (fun k hk=>by rw [List.mem_singleton.1 hk];decide) u_1 u_0 c_b (fun g g' cs s0 ys h hr hy=>⟨s0,wp_4 h hy,hr⟩))<|o_n) (fun a g hst hb=>?_)
    refine r_s (T:=[⟨[],_,[],[],[2]⟩]) (F:=[.o 0,.p 0 0,.o 1]) hst hb Za
     (Qa rfl c_b<|o_n) (fun a g hst hb=>?_)
    refine wp_ret ?_
    refine Zp ?_
    obtain rfl:=Option.some.inj H0
    exact Zzq rfl hst hb (Zg (s:=2)) (hst.at 1 rfl) (hst.at 2 rfl)
   ·replace H0:=Zt hc11 H0
    refine wp_skip ?_
    refine Zq ?_
    obtain ⟨h12,H0⟩:=Zev H0
    refine r_s (L:=[(0,_),(3,_),(5,_),(14,_),(1002,_)]) (T:=⟨[.o 0],_,[],[],[62]⟩ :: ⟨[.o 0],_,[],[],[63]⟩ :: ⟨[.p 1 0],_,[],[1],[64]⟩ :: ⟨[.p 2 0],_,[],[1,2],[65]⟩ :: ⟨[.p 3 0],_,[],[1,2,3],[66]⟩ :: ⟨[.p 4 0,.o 4],[(67,(pRow Zj 68 1000000 j10.out.Answers))],[],List.range' 1 4,[67]⟩ :: ⟨[.o 2],_,[],[],[68]⟩ :: ⟨[.p 6 0],_,[],[6],[69]⟩ :: ⟨[.p 5 0,.p 7 0,.o 4],[(1002,(pSJ Zbo Zb7 hpT 0 b0 j10)),(70,(pRow Zj 68 1000000 (j10.out.Answers ++ ([j9]:List Zc))))],[1000001],List.range' 1 7,[14,67,70,1002]⟩ :: ⟨[.p 0 0],_,[],Lr 9,[71]⟩ :: ⟨[.p 9 0],_,[],Lr 10,[72]⟩ :: ⟨[.p 10 0],_,[],Lr 11,[73]⟩ :: ⟨[.p 11 0,.p 8 1,.p 8 0],[(1002,(pSJ Zbo Zb7 (hpL (pRow Zj 68 1000000 (Zdp ({ j10 with out:={ j10.out with Answers:=(j10.out.Answers ++ ([j9]:List Zc)) } }:Z0)))) 0 b0 ({ j10 with out:={ j10.out with Answers:=(j10.out.Answers ++ ([j9]:List Zc)) } }:Z0)))],[1],Lr 12,[1002]⟩ :: []) (F:=[.o 0,.o 1,.p 12 0]) (hst.pick [0,1,2,3,5] rfl) hb Za
     (Qm rfl u_0<|Qm rfl u_0<|o_p rfl (Zo rfl rfl u_0 (fun _ _ h=>⟨_,h⟩))<|o_p rfl (Zb9 Zoi rfl rfl u_0)<|o_p rfl (Zb9 Zxe rfl rfl u_0)<|o_p rfl (Zu5 Zp2 (fun g s cs h=>Z5r h) rfl rfl u_1 u_0)<|QM rfl Zb2 u_0<|o_p rfl (Zhd Zqf (xs:=[.tmp 68]) (.cons u_0 .nil) (by decide) rfl rfl)<|o_p rfl (OB.frameU (Zej Zqf rfl rfl u_0 u_1 h12) (Opd.imp u_2 (fun _ _ h=>sj_T h)) (fun k hk hS=>Zbcj (List.mem_singleton.1 hk) (List.mem_singleton.1 hS) (by decide)) (fun h=>by cases h))<|o_p rfl (Zo rfl rfl u_0 (fun _ _ h=>⟨_,h⟩))<|o_p rfl (Zb9 Zoi rfl rfl u_0)<|o_p rfl (Zb9 Zxe rfl rfl u_0)<|o_p rfl (Z1l Zp2 rfl rfl (fun _ _ h=>Z9r h) (fun k hk=>by cases hk) (fun k hk=>by rw [List.mem_singleton.1 hk];decide) u_2 u_0 u_1 (fun g cs s0 s1 ys h hy=>Zbbm h hy))<|o_n) (fun a g hst hb=>?_)
    refine r_s (T:=⟨[.o 0],_,[],[],[74]⟩ :: ⟨[.o 1],_,[],[],[75]⟩ :: ⟨[.p 1 0],_,[],[1],[76]⟩ :: ⟨[.o 0],_,[],[],[77]⟩ :: ⟨[.p 3 0],_,[],[3],[78]⟩ :: ⟨[.p 4 0],_,[],[3,4],[79]⟩ :: ⟨[.p 5 0],_,[],[3,4,5],[80]⟩ :: ⟨[.p 6 0,.o 2],_,[],List.range' 3 4,[81]⟩ :: ⟨[.p 7 0],_,[],List.range' 3 5,[82]⟩ :: ⟨[.p 2 0,.p 8 0],_,[],List.range' 1 8,[83]⟩ :: ⟨[.p 0 0],_,[],Lr 10,[84]⟩ :: ⟨[.p 10 0],_,[],Lr 11,[85]⟩ :: ⟨[.p 11 0,.p 9 0,.o 2],[(1002,(pSJ Zbo Zb7 (hpL (pRow Zj 68 1000000 (Zdp ({ ({ j10 with out:={ j10.out with Answers:=(j10.out.Answers ++ ([j9]:List Zc)) } }:Z0) with over:=((IntKind.i64.wrap ((a0.out.Answers.length:Int) + (1:Int))) == (((({ j10 with out:={ j10.out with Answers:=(j10.out.Answers ++ ([j9]:List Zc)) } }:Z0).d).Acts).length:Int)) }:Z0)))) 0 b0 ({ ({ j10 with out:={ j10.out with Answers:=(j10.out.Answers ++ ([j9]:List Zc)) } }:Z0) with over:=((IntKind.i64.wrap ((a0.out.Answers.length:Int) + (1:Int))) == (((({ j10 with out:={ j10.out with Answers:=(j10.out.Answers ++ ([j9]:List Zc)) } }:Z0).d).Acts).length:Int)) }:Z0)))],[1],Lr 12,[1002]⟩ :: []) (F:=[.o 0,.p 12 0]) hst hb Za
     (Qm rfl u_0<|Qm rfl u_0<|o_p rfl (Zbz rfl rfl u_0 c_i rfl)<|Qm rfl u_0<|o_p rfl (Zo rfl rfl u_0 (fun _ _ h=>⟨_,h⟩))<|o_p rfl (Zb9 Zxj rfl rfl u_0)<|o_p rfl (Zb9 Zxp rfl rfl u_0)<|o_p rfl (Zf1 (u:=(({ j10 with out:={ j10.out with Answers:=(j10.out.Answers ++ ([j9]:List Zc)) } }:Z0).d).Acts) Zkk (fun g s cs h _=>Z1f h) rfl rfl u_1 u_0)<|o_p rfl (Zbv Tryz.underlying23 rfl rfl u_0)<|o_p rfl (Zbr rfl rfl u_0 u_1)<|o_p rfl (Zo rfl rfl u_0 (fun _ _ h=>⟨_,h⟩))<|o_p rfl (Zb9 Zn9 rfl rfl u_0)<|o_p rfl (Zlm ty_4 rfl rfl (fun k hk=>by rw [List.mem_singleton.1 hk];decide) u_2 u_0 u_1 (fun g g' cs s0 ys h hr hy=>⟨s0,wp_4 h hy,hr⟩))<|o_n) (fun a g hst hb=>?_)
    refine r_s (T:=[⟨[],_,[],[],[2]⟩]) (F:=[.o 0,.p 0 0,.o 1]) hst hb Za
     (Qa rfl c_b<|o_n) (fun a g hst hb=>?_)
    refine wp_ret ?_
    obtain rfl:=Option.some.inj H0
    exact Zzq rfl hst hb (Zg (s:=2)) (hst.at 1 rfl) (hst.at 2 rfl)
  ·refine wp_cond_split (hst.bool 5 rfl) (fun hc6=>?_) (fun hc6=>?_)
   ·replace H0:=Zu hc6 H0
    obtain ⟨r7,h8,H0⟩:=Zd H0
    refine r_g (L:=[(0,_),(3,_),(4,_),(5,_),(14,_),(1002,_)]) (T:=⟨[.o 0],_,[],[],[33]⟩ :: ⟨[.o 0],_,[],[],[34]⟩ :: ⟨[.p 1 0],_,[],[1],[35]⟩ :: ⟨[.p 2 0],_,[],[1,2],[36]⟩ :: ⟨[.p 3 0,.o 5],_,[],[1,2,3],[37]⟩ :: ⟨[.o 2],_,[],[],[38]⟩ :: ⟨[.p 4 0,.p 5 0],_,[],List.range' 1 5,[39]⟩ :: ⟨[.p 6 0],_,[],List.range' 1 6,[32]⟩ :: ⟨[.p 7 0],_,[],List.range' 1 7,[40]⟩ :: ⟨[.p 7 0],_,[],List.range' 1 7,[41]⟩ :: ⟨[.p 0 0],_,[],Lr 9,[42]⟩ :: ⟨[.p 10 0],_,[],[0,1,2,3,4,5,6,7,8,10],[43]⟩ :: ⟨[.p 11 0,.p 8 0,.o 5],[(1002,(pSJ Zbo Zb7 (hpL (pRow Zj 68 1000000 (Zdp ({ a0 with now:=r7.1 }:Z0)))) 0 b0 ({ a0 with now:=r7.1 }:Z0)))],[1],[0,1,2,3,4,5,6,7,8,10,11],[1002]⟩ :: ⟨[.p 9 0,.o 3],_,[6],Lr 13,[5]⟩ :: []) (F:=[.o 0,.o 1,.o 2,.p 13 0,.o 4,.p 12 0]) (hst.pick [0,1,2,3,4,6] rfl) hb Za
     (Qm rfl u_0<|Qm rfl u_0<|o_p rfl (Zo rfl rfl u_0 (fun _ _ h=>⟨_,h⟩))<|o_p rfl (Zb9 Ztv rfl rfl u_0)<|o_p rfl (Zf1 (u:=a0.now) Zbu (fun g s cs h _=>kp_2 h) rfl rfl u_1 u_0)<|Ql rfl Zhb u_0<|o_p rfl (Zl Zbdz (Z2d _ _ h8) rfl rfl (.cons u_0 (.cons u_1 .nil)))<|Qm rfl u_0<|o_p rfl (Z2 rfl rfl u_0 rfl)<|o_p rfl (Z2 rfl rfl u_0 rfl)<|o_p rfl (Zo rfl rfl u_0 (fun _ _ h=>⟨_,h⟩))<|o_p rfl (Zb9 Ztv rfl rfl u_0)<|o_p rfl (Zlm Zbu rfl rfl (fun k hk=>by rw [List.mem_singleton.1 hk];decide) u_2 u_0 u_1 (fun g g' cs s0 ys h hr hy=>⟨s0,wp_2 h hy,hr⟩))<|o_p rfl (Z3 Zb2 rfl rfl u_1 u_0)<|o_n) (fun a g hst hb=>?_)
    exact ⟨r7.2,({ a0 with now:=r7.1 }:Z0),g,rfl,(hst.pick [0,1,2,3,4,5] rfl),hb,H0⟩
   ·replace H0:=Zt hc6 H0
    refine wp_skip ?_
    exact ⟨(default:Zc),a0,g,rfl,(hst.pick [0,1,2,3,4,6] rfl),hb,H0⟩
theorem Zkj (a0:Z0) {r:Z0 × Bool} (h:Zg4 a0=some r):FnMR Tryz.prog 19 Zcq a0 r.1 [] (Zbd r.2):=by
 obtain ⟨u,h1,h2⟩:=Zd h
 obtain rfl:=Option.some.inj h2
 exact Zsi a0 h1
theorem Zs8 (a0:Int) {r:Zk × Int} (h:Zo2 a0=some r):FnOk Tryz.prog 28 [(pInt .i64 a0)] (pTup [(Zx.pd r.1),(pInt .i64 r.2)]):=by
 have H0:=h
 unfold Zo2 at H0
 clear h
 refine Zbt (N:=13) Tryz.func28 rfl rfl (Qe rfl) rfl rfl (fun a g0 hst hb=>?_)
 refine r_s (T:=[⟨[],[(2,(pBox Zx 2 (default:Zk)))],[3],[],[2]⟩,⟨[],_,[],[],[3]⟩]) (F:=[.o 0,.p 0 0]) hst hb Za
  (o_p rfl (Zbh (zs:=[.pointer none,.int .i64 0]) (by kernel_rfl) (fun g=>Zd5 g) rfl rfl)<|Qa rfl c_i<|o_n) (fun a g hst hb=>?_)
 refine wp_seq ?_
 refine r_s (T:=[⟨[.o 0],_,[],[],[4]⟩,⟨[.p 0 0],_,[],[0],[5]⟩,⟨[.p 1 0],_,[],[0,1],[6]⟩,⟨[.p 2 0,.o 0],_,[],[0,1,2],[7]⟩,⟨[.p 2 0,.p 3 0],_,[],Lr 4,[8]⟩,⟨[.p 2 0,.p 4 0],_,[],Lr 5,[9]⟩]) (F:=[.o 0,.o 1,.p 5 0]) hst hb Za
  (Qm rfl u_0<|o_p rfl (Zca rfl rfl u_0 c_i)<|Qm rfl u_0<|o_g (Qg_f rfl (fun hG=>Z1 rfl rfl u_0))<|o_g (Qg_f rfl (fun hG=>Zcv rfl rfl (Opd.gd hG u_0) c_i))<|o_p rfl (Zbm rfl rfl u_0 (fun hz=>(Opd.gd (bNF hz) u_1)))<|o_n) (fun a g hst hb=>?_)
 refine wp_cond_split (hst.bool 2 rfl) (fun hc1=>?_) (fun hc1=>?_)
 ·replace H0:=Zu hc1 H0
  refine r_s (L:=[(2,_)]) (T:=[⟨[],_,[],[],[10]⟩,⟨[.p 0 0,.o 0],_,[3],[0],[2]⟩,⟨[],_,[],[0,1],[3]⟩]) (F:=[.p 1 0,.p 2 0]) (hst.pick [1] rfl) hb Za
   (o_p rfl (Zbbi rfl rfl )<|o_p rfl (Z3 Zbu rfl rfl u_1 u_0)<|Qa rfl c_i<|o_n) (fun a g hst hb=>?_)
  refine wp_ret ?_
  refine Zp ?_
  obtain rfl:=Option.some.inj H0
  obtain ⟨u0,hu0,hq0⟩:=Zbf (P:=Tryz.prog) Zbu (hst.at 0 rfl)
  exact Zdt rfl hst hb hu0 (Zg (s:=3)) (Zcr hq0 (hst.at 1 rfl))
 ·replace H0:=Zt hc1 H0
  refine wp_skip ?_
  refine Zq ?_
  refine r_s (L:=[(0,_),(2,_)]) (T:=[⟨[.o 0],_,[],[],[11]⟩,⟨[.p 0 0],_,[],[0],[12]⟩,⟨[.p 1 0,.o 1],_,[3],[0,1],[2]⟩,⟨[],_,[],[0,1,2],[3]⟩]) (F:=[.p 2 0,.p 3 0]) (hst.pick [0,1] rfl) hb Za
   (Qm rfl u_0<|o_p rfl (Z9e rfl rfl u_0)<|o_p rfl (Z3 Zbu rfl rfl u_1 u_0)<|Qa rfl c_i<|o_n) (fun a g hst hb=>?_)
  refine wp_ret ?_
  obtain rfl:=Option.some.inj H0
  obtain ⟨u0,hu0,hq0⟩:=Zbf (P:=Tryz.prog) Zbu (hst.at 0 rfl)
  exact Zdt rfl hst hb hu0 (Zg (s:=3)) (Zcr hq0 (hst.at 1 rfl))
theorem Zqz {r:Bool} (h:Zka=some r):FnOk Tryz.prog 7 [] (Zbd r):=by
 have H0:=h
 unfold Zka at H0
 clear h
 refine Zbt (N:=112) Tryz.func7 rfl rfl (Qe rfl) rfl rfl (fun a g0 hst hb=>?_)
 refine r_s (T:=[⟨[],_,[],[],[0]⟩]) (F:=[]) hst hb Za
  (Qa rfl c_b<|o_n) (fun a g hst hb=>?_)
 obtain ⟨r1,h2,H0⟩:=Zd H0
 refine r_s (T:=[⟨[],_,[],[],[15]⟩,⟨[.p 0 0],_,[],[0],[14]⟩,⟨[.p 1 0],_,[],[0,1],[16]⟩,⟨[.p 1 0],_,[],[0,1],[17]⟩,⟨[],[(1,(pBox Zx 1 (default:Zk)))],[2],[],[1]⟩,⟨[.p 2 0,.p 4 0],_,[2],[0,1,2,4],[1]⟩,⟨[.p 3 0],_,[],Lr 6,[2]⟩]) (F:=[.p 5 0]) hst hb Za
  (o_p rfl (Zl Z8s (Zs8 _ h2) rfl rfl (.cons c_i .nil))<|Qm rfl u_0<|o_p rfl (Z2 rfl rfl u_0 rfl)<|o_p rfl (Z2 rfl rfl u_0 rfl)<|o_p rfl (Zbh (zs:=[.pointer none,.int .i64 0]) (by kernel_rfl) (fun g=>Zd5 g) rfl rfl)<|o_p rfl (Z3 Zbu rfl rfl u_1 u_0)<|Qa rfl u_0<|o_n) (fun a g hst hb=>?_)
 obtain ⟨r3,h4,H0⟩:=Zd H0
 refine r_s (T:=[⟨[.o 0],_,[],[],[19]⟩,⟨[],_,[],[],[20]⟩,⟨[.p 0 0,.p 1 0],_,[],[0,1],[21]⟩,⟨[.p 2 0],_,[],[0,1,2],[18]⟩,⟨[.p 3 0],_,[],Lr 4,[22]⟩,⟨[.p 3 0],_,[],Lr 4,[23]⟩,⟨[.p 4 0,.o 0],_,[2],Lr 5,[1]⟩]) (F:=[.p 6 0]) hst hb Za
  (QM rfl Zbu u_0<|o_p rfl (Z41 rfl rfl c_i c_i)<|o_p rfl (Zl Zzm (Zj5 _ _ _ h4) rfl rfl (.cons u_0 (.cons c_s (.cons u_1 .nil))))<|Qm rfl u_0<|o_p rfl (Z2 rfl rfl u_0 rfl)<|o_p rfl (Z2 rfl rfl u_0 rfl)<|o_p rfl (Z3 Zbu rfl rfl u_1 u_0)<|o_n) (fun a g hst hb=>?_)
 refine r_s (T:=[⟨[],_,[],[],[24]⟩,⟨[.p 0 0],_,[],[0],[25]⟩,⟨[.p 1 0],_,[],[0,1],[26]⟩,⟨[],[(3,(pBox Zb5 3 (default:Zbk)))],[4],[],[3]⟩,⟨[.p 2 0,.p 3 0],_,[4],Lr 4,[3]⟩]) (F:=[.o 0,.p 4 0]) hst hb Za
  (o_p rfl (Z2h rfl rfl c_i c_s c_i)<|o_p rfl (Zhd Zpi (xs:=[.tmp 24]) (.cons u_0 .nil) (by decide) rfl rfl)<|o_p rfl (Zw7 rfl rfl u_0)<|o_p rfl (Zbh (zs:=[.slice none 0 0]) (by kernel_rfl) (fun g=>Zu4 g) rfl rfl)<|o_p rfl (Zb6 Zol rfl rfl u_1 u_0)<|o_n) (fun a g hst hb=>?_)
 obtain ⟨r5,h6,H0⟩:=Zd H0;obtain ⟨r7,h8,H0⟩:=Zd H0
 refine r_s (T:=[⟨[.o 1],_,[],[],[27]⟩,⟨[.o 0],_,[],[],[28]⟩,⟨[.p 0 0,.p 1 0],[(29,(Zcw none Zcq 29 r5))],[30,1000030],[0,1],[29]⟩,⟨[.o 1],_,[],[],[30]⟩,⟨[.o 0],_,[],[],[31]⟩,⟨[],_,[],[],[32]⟩,⟨[.p 3 0,.p 4 0,.p 5 0],[(33,(Zcw none Zcq 33 r7))],[34,1000034],Lr 6,[33]⟩,⟨[.p 2 0],[(4,(Zcw none Zcq 29 r5))],[],Lr 7,[4]⟩,⟨[.p 6 0],[(5,(Zcw none Zcq 33 r7))],[],Lr 8,[5]⟩]) (F:=[.o 0,.p 7 0,.p 8 0]) hst hb Za
  (Ql rfl Zol u_0<|QM rfl Zbu u_0<|o_p rfl (Zqp Z4u (Zqo _ _ _ h6) rfl rfl (.cons u_0 (.cons u_1 (.cons (Opd.c (fun g=>Zhe g)) .nil))))<|Ql rfl Zol u_0<|QM rfl Zbu u_0<|o_p rfl (Zhd Zr0 (xs:=[.const (.string ⟨#[97]⟩)]) (.cons c_s .nil) (by decide) rfl rfl)<|o_p rfl (Zqp Z4u (Zqo _ _ _ h8) rfl rfl (.cons u_0 (.cons u_1 (.cons u_2 .nil))))<|Qa rfl u_0<|Qa rfl u_0<|o_n) (fun a g hst hb=>?_)
 refine wp_seq ?_
 obtain ⟨r9,h10,H0⟩:=Zd H0;obtain ⟨r11,h12,H0⟩:=Zd H0;obtain ⟨r13,h14,H0⟩:=Zd H0;obtain ⟨r15,h16,H0⟩:=Zd H0;obtain ⟨r17,h18,H0⟩:=Zd H0
 refine r_s (T:=⟨[.o 1],[(34,(Zcw none Zcq 29 r5))],[],[],[34]⟩ :: ⟨[.p 0 0],_,[],[0],[35]⟩ :: ⟨[.p 1 0],_,[],[0,1],[36]⟩ :: ⟨[.p 2 0,.o 2],[(37,(pIf (!false) (Zcw none Zcq 33 r7)))],[],[0,1,2],[37]⟩ :: ⟨[.p 2 0,.p 3 0],_,[],Lr 4,[38]⟩ :: ⟨[.p 2 0,.p 4 0],_,[],Lr 5,[39]⟩ :: ⟨[.p 5 0],_,[],Lr 6,[40]⟩ :: ⟨[.p 6 0,.o 1],[(41,(pIf (!(false || false)) (Zcw none Zcq 29 r5)))],[],Lr 7,[41]⟩ :: ⟨[.p 6 0,.p 7 0,.o 1],[(42,(pIf (!(false || false)) (Zbd r9))),(4,(Zcw none Zcq 29 r5))],[30,1000030],Lr 8,[4,34,41,42]⟩ :: ⟨[.p 6 0,.p 8 0],_,[],Lr 9,[43]⟩ :: ⟨[.p 9 0],_,[],Lr 10,[44]⟩ :: ⟨[.p 10 0,.p 8 1],[(45,(pIf (!((false || false) || r9)) (Zcw none Zcq 29 r5)))],[],Lr 11,[45]⟩ :: ⟨[.p 10 0,.p 11 0,.p 8 1],[(46,(pIf (!((false || false) || r9)) (Zbd r11.2))),(4,(Zcw none Zcq 29 (if (!((false || false) || r9))=true then r11.1 else r5)))],[30,1000030],Lr 12,[4,34,41,45,46]⟩ :: ⟨[.p 10 0,.p 12 0],_,[],Lr 13,[47]⟩ :: ⟨[.p 10 0,.p 13 0],_,[],Lr 14,[48]⟩ :: ⟨[.p 14 0],_,[],Lr 15,[49]⟩ :: ⟨[.p 15 0,.p 12 1],[(50,(pIf (!(((false || false) || r9) || (!r11.2))) (Zcw none Zcq 29 (if (!((false || false) || r9))=true then r11.1 else r5))))],[],Lr 16,[50]⟩ :: ⟨[.p 15 0,.p 16 0,.p 12 1],[(51,(pIf (!(((false || false) || r9) || (!r11.2))) (Zbd r13.2))),(4,(Zcw none Zcq 29 (if (!(((false || false) || r9) || (!r11.2)))=true then r13.1 else (if (!((false || false) || r9))=true then r11.1 else r5))))],[30,1000030],Lr 17,[4,34,41,45,50,51]⟩ :: ⟨[.p 15 0,.p 17 0],_,[],Lr 18,[52]⟩ :: ⟨[.p 18 0],_,[],Lr 19,[53]⟩ :: ⟨[.p 19 0,.p 17 1],[(54,(pIf (!((((false || false) || r9) || (!r11.2)) || r13.2)) (Zcw none Zcq 29 (if (!(((false || false) || r9) || (!r11.2)))=true then r13.1 else (if (!((false || false) || r9))=true then r11.1 else r5)))))],[],Lr 20,[54]⟩ :: ⟨[.p 19 0,.p 20 0,.p 17 1],[(55,(pIf (!((((false || false) || r9) || (!r11.2)) || r13.2)) (Zbd r15))),(4,(Zcw none Zcq 29 (if (!(((false || false) || r9) || (!r11.2)))=true then r13.1 else (if (!((false || false) || r9))=true then r11.1 else r5))))],[30,1000030],Lr 21,[4,34,41,45,50,54,55]⟩ :: ⟨[.p 19 0,.p 21 0],_,[],Lr 22,[56]⟩ :: ⟨[.p 19 0,.p 22 0],_,[],Lr 23,[57]⟩ :: ⟨[.p 23 0],_,[],Lr 24,[58]⟩ :: ⟨[.p 24 0,.o 2],[(59,(pIf (!(((((false || false) || r9) || (!r11.2)) || r13.2) || (!r15))) (Zcw none Zcq 33 r7)))],[],Lr 25,[59]⟩ :: ⟨[.p 24 0,.p 25 0,.o 2],[(60,(pIf (!(((((false || false) || r9) || (!r11.2)) || r13.2) || (!r15))) (Zbd r17.2))),(5,(Zcw none Zcq 33 (if (!(((((false || false) || r9) || (!r11.2)) || r13.2) || (!r15)))=true then r17.1 else r7)))],[34,1000034],Lr 26,[5,37,59,60]⟩ :: ⟨[.p 24 0,.p 26 0],_,[],Lr 27,[61]⟩ :: ⟨[.p 24 0,.p 27 0],_,[],Lr 28,[62]⟩ :: []) (F:=[.o 0,.p 21 1,.p 26 1,.p 28 0]) hst hb Za
  (Qm rfl u_0<|o_p rfl (Zow Tryz.underlying43 rfl rfl u_0 Z1j)<|Qm rfl u_0<|o_g (Qg_f rfl (fun hG=>Z1 rfl rfl u_0))<|o_g (Qg_f rfl (fun hG=>Zow Tryz.underlying43 rfl rfl (Opd.gd hG u_0) Z1j))<|o_p rfl (Zbm rfl rfl u_0 (fun hz=>(Opd.gd (bNF hz) u_1)))<|Qm rfl u_0<|o_g (Qg_f rfl (fun hG=>Z1 rfl rfl u_0))<|o_g (OT.guardMR (!(false || false)) (gF (false || false)).1 (gF (false || false)).2 rfl rfl rfl (by decide) u_1 (fun hG=>Zhp Z8d (Zpa _ (Zbn h10 hG)) rfl rfl rfl (by decide) u_1 (Opd.gd hG u_0) .nil) (ite_self _).symm)<|o_p rfl (Zbm rfl rfl u_0 (fun hz=>(Opd.gd (bNF hz) u_1)))<|Qm rfl u_0<|o_g (Qg_f rfl (fun hG=>Z1 rfl rfl u_0))<|o_g (OT.guardMR (!((false || false) || r9)) (gF ((false || false) || r9)).1 (gF ((false || false) || r9)).2 rfl rfl rfl (by decide) u_1 (fun hG=>Zhp Zzo (Zkj _ (Zbn h12 hG)) rfl rfl rfl (by decide) u_1 (Opd.gd hG u_0) .nil) rfl)<|o_g (Qg_f rfl (fun hG=>Zfh rfl rfl (Opd.gd hG u_0)))<|o_p rfl (Zbm rfl rfl u_0 (fun hz=>(Opd.gd (bNF hz) u_1)))<|Qm rfl u_0<|o_g (Qg_f rfl (fun hG=>Z1 rfl rfl u_0))<|o_g (OT.guardMR (!(((false || false) || r9) || (!r11.2))) (gF (((false || false) || r9) || (!r11.2))).1 (gF (((false || false) || r9) || (!r11.2))).2 rfl rfl rfl (by decide) u_1 (fun hG=>Zhp Zzo (Zkj _ (Zbn h14 hG)) rfl rfl rfl (by decide) u_1 (Opd.gd hG u_0) .nil) rfl)<|o_p rfl (Zbm rfl rfl u_0 (fun hz=>(Opd.gd (bNF hz) u_1)))<|Qm rfl u_0<|o_g (Qg_f rfl (fun hG=>Z1 rfl rfl u_0))<|o_g (OT.guardMR (!((((false || false) || r9) || (!r11.2)) || r13.2)) (gF ((((false || false) || r9) || (!r11.2)) || r13.2)).1 (gF ((((false || false) || r9) || (!r11.2)) || r13.2)).2 rfl rfl rfl (by decide) u_1 (fun hG=>Zhp Z8d (Zpa _ (Zbn h16 hG)) rfl rfl rfl (by decide) u_1 (Opd.gd hG u_0) .nil) (ite_self _).symm)<|o_g (Qg_f rfl (fun hG=>Zfh rfl rfl (Opd.gd hG u_0)))<|o_p rfl (Zbm rfl rfl u_0 (fun hz=>(Opd.gd (bNF hz) u_1)))<|Qm rfl u_0<|o_g (Qg_f rfl (fun hG=>Z1 rfl rfl u_0))<|o_g (OT.guardMR (!(((((false || false) || r9) || (!r11.2)) || r13.2) || (!r15))) (gF (((((false || false) || r9) || (!r11.2)) || r13.2) || (!r15))).1 (gF (((((false || false) || r9) || (!r11.2)) || r13.2) || (!r15))).2 rfl rfl rfl (by decide) u_1 (fun hG=>Zhp Zzo (Zkj _ (Zbn h18 hG)) rfl rfl rfl (by decide) u_1 (Opd.gd hG u_0) .nil) rfl)<|o_g (Qg_f rfl (fun hG=>Zfh rfl rfl (Opd.gd hG u_0)))<|o_p rfl (Zbm rfl rfl u_0 (fun hz=>(Opd.gd (bNF hz) u_1)))<|o_n) (fun a g hst hb=>?_)
 refine wp_cond_split (hst.bool 3 rfl) (fun hc19=>?_) (fun hc19=>?_)
 ·replace H0:=Zu hc19 H0
  refine r_s (L:=[]) (T:=[⟨[],_,[],[],[0]⟩]) (F:=[.p 0 0]) (hst.pick [] rfl) hb Za
   (Qa rfl c_b<|o_n) (fun a g hst hb=>?_)
  refine wp_ret ?_
  refine Zp ?_
  obtain rfl:=Option.some.inj H0
  exact Z4 rfl hst hb (Zg (s:=0)) (hst.at 0 rfl)
 ·replace H0:=Zt hc19 H0
  refine wp_skip ?_
  refine Zq ?_
  obtain ⟨r20,h21,H0⟩:=Zd H0
  refine r_s (L:=[(1,_),(4,_),(5,_)]) (T:=[⟨[.o 1],[(64,(Zcw none Zcq 29 (if (!(((false || false) || r9) || (!r11.2)))=true then r13.1 else (if (!((false || false) || r9))=true then r11.1 else r5))))],[],[],[64]⟩,⟨[.o 0],_,[],[],[65]⟩,⟨[.p 0 0,.p 1 0,.o 1],[(66,(pTup [(Zx.pd r20.1),(Zy.sl.pd r20.2)])),(4,(Zcw none Zcq 29 (if (!(((false || false) || r9) || (!r11.2)))=true then r13.1 else (if (!((false || false) || r9))=true then r11.1 else r5))))],[30,1000030],[0,1],[4,64,66]⟩,⟨[.p 2 0],_,[],[0,1,2],[63]⟩,⟨[.p 3 0],_,[],Lr 4,[67]⟩,⟨[.p 3 0],_,[],Lr 4,[68]⟩,⟨[],[(6,(pBox Zx 6 (default:Zk)))],[7],[],[6]⟩,⟨[.p 4 0,.p 6 0],_,[7],[0,1,2,3,4,6],[6]⟩,⟨[.p 5 0],_,[],Lr 8,[7]⟩]) (F:=[.o 0,.o 2,.p 7 0,.p 8 0]) (hst.pick [0,1,2] rfl) hb Za
   (Qm rfl u_0<|QM rfl Zbu u_0<|o_p rfl (Zhp Z3o (Zlo _ _ h21) rfl rfl rfl (by decide) u_2 u_0 (.cons u_1 .nil))<|Qm rfl u_0<|o_p rfl (Z2 rfl rfl u_0 rfl)<|o_p rfl (Z2 rfl rfl u_0 rfl)<|o_p rfl (Zbh (zs:=[.pointer none,.int .i64 0]) (by kernel_rfl) (fun g=>Zd5 g) rfl rfl)<|o_p rfl (Zb6 Zbu rfl rfl u_1 u_0)<|Qa rfl u_0<|o_n) (fun a g hst hb=>?_)
  obtain ⟨r22,h23,H0⟩:=Zd H0
  refine r_s (T:=[⟨[.o 1],[(70,(Zcw none Zcq 33 (if (!(((((false || false) || r9) || (!r11.2)) || r13.2) || (!r15)))=true then r17.1 else r7)))],[],[],[70]⟩,⟨[.o 0],_,[],[],[71]⟩,⟨[.p 0 0,.p 1 0,.o 1],[(72,(pTup [(Zx.pd r22.1),(Zy.sl.pd r22.2)])),(5,(Zcw none Zcq 33 (if (!(((((false || false) || r9) || (!r11.2)) || r13.2) || (!r15)))=true then r17.1 else r7)))],[34,1000034],[0,1],[5,70,72]⟩,⟨[.p 2 0],_,[],[0,1,2],[69]⟩,⟨[.p 3 0],_,[],Lr 4,[73]⟩,⟨[.p 3 0],_,[],Lr 4,[74]⟩,⟨[],[(8,(pBox Zx 8 (default:Zk)))],[9],[],[8]⟩,⟨[.p 4 0,.p 6 0],_,[9],[0,1,2,3,4,6],[8]⟩,⟨[.p 5 0],_,[],Lr 8,[9]⟩]) (F:=[.o 0,.p 2 1,.o 2,.o 3,.p 7 0,.p 8 0]) hst hb Za
   (Qm rfl u_0<|QM rfl Zbu u_0<|o_p rfl (Zhp Z3o (Zlo _ _ h23) rfl rfl rfl (by decide) u_2 u_0 (.cons u_1 .nil))<|Qm rfl u_0<|o_p rfl (Z2 rfl rfl u_0 rfl)<|o_p rfl (Z2 rfl rfl u_0 rfl)<|o_p rfl (Zbh (zs:=[.pointer none,.int .i64 0]) (by kernel_rfl) (fun g=>Zd5 g) rfl rfl)<|o_p rfl (Zb6 Zbu rfl rfl u_1 u_0)<|Qa rfl u_0<|o_n) (fun a g hst hb=>?_)
  obtain ⟨r24,h25,H0⟩:=Zd H0
  refine r_s (T:=[⟨[.o 2],_,[],[],[76]⟩,⟨[.p 0 0],_,[],[0],[77]⟩,⟨[.p 1 0],_,[],[0,1],[75]⟩,⟨[.p 2 0],_,[],[0,1,2],[78]⟩,⟨[.p 2 0],_,[],[0,1,2],[79]⟩,⟨[],[(10,(pBox Ze 10 (default:Zb)))],[11],[],[10]⟩,⟨[.p 3 0,.p 5 0],_,[11],[0,1,2,3,5],[10]⟩,⟨[.p 4 0],_,[],Lr 7,[11]⟩]) (F:=[.o 0,.o 1,.o 3,.o 4,.o 5,.p 6 0]) hst hb Za
   (Ql rfl Zbu u_0<|o_p rfl (Zl Zt1 (Zg6 _ _ h25) rfl rfl (.cons u_0 (.cons c_s .nil)))<|Qm rfl u_0<|o_p rfl (Z2 rfl rfl u_0 rfl)<|o_p rfl (Z2 rfl rfl u_0 rfl)<|o_p rfl (Zbh (zs:=[.int .i64 0,.int .i64 0,.int .i64 0,.int .i64 0,.float .f64 0,.int .i64 0,.string ByteArray.empty,.slice none 0 0]) (by kernel_rfl) (fun g=>Zb0 g) rfl rfl)<|o_p rfl (Zb6 Zbb rfl rfl u_1 u_0)<|Qa rfl u_0<|o_n) (fun a g hst hb=>?_)
  obtain ⟨r26,h27,H0⟩:=Zd H0
  refine r_s (T:=[⟨[.o 1],[(81,(Zcw none Zcq 33 (if (!(((((false || false) || r9) || (!r11.2)) || r13.2) || (!r15)))=true then r17.1 else r7)))],[],[],[81]⟩,⟨[.p 0 0,.o 1],[(82,(pTup [(Zbp.pd r26.1),(Zbd r26.2)])),(5,(Zcw none Zcq 33 (if (!(((((false || false) || r9) || (!r11.2)) || r13.2) || (!r15)))=true then r17.1 else r7)))],[34,1000034],[0],[5,81,82]⟩,⟨[.p 1 0],_,[],[0,1],[80]⟩,⟨[.p 2 0],_,[],[0,1,2],[83]⟩,⟨[.p 2 0],_,[],[0,1,2],[84]⟩,⟨[],[(12,(pBox Zbp 12 (default:Zw)))],[13],[],[12]⟩,⟨[.p 3 0,.p 5 0],_,[13],[0,1,2,3,5],[12]⟩,⟨[.p 4 0],_,[],Lr 7,[13]⟩]) (F:=[.o 0,.o 2,.o 3,.o 4,.o 5,.p 6 0,.p 7 0]) hst hb Za
   (Qm rfl u_0<|o_p rfl (Zhp Z8i (Zn2 _ h27) rfl rfl rfl (by decide) u_1 u_0 .nil)<|Qm rfl u_0<|o_p rfl (Z2 rfl rfl u_0 rfl)<|o_p rfl (Z2 rfl rfl u_0 rfl)<|o_p rfl (Zbh (zs:=[.int .i64 0,.int .i64 0,.slice none 0 0]) (by kernel_rfl) (fun g=>Zjt g) rfl rfl)<|o_p rfl (Zb6 Zi5 rfl rfl u_1 u_0)<|Qa rfl u_0<|o_n) (fun a g hst hb=>?_)
  obtain ⟨r28,h29,H0⟩:=Zd H0
  refine r_s (T:=⟨[.o 1],_,[],[],[85]⟩ :: ⟨[.p 0 0],_,[],[0],[86]⟩ :: ⟨[.p 1 0],_,[],[0,1],[87]⟩ :: ⟨[.p 2 0],_,[],[0,1,2],[88]⟩ :: ⟨[.p 3 0,.o 4],_,[],Lr 4,[89]⟩ :: ⟨[.p 3 0,.p 4 0],_,[],Lr 5,[90]⟩ :: ⟨[.p 3 0,.p 5 0],_,[],Lr 6,[91]⟩ :: ⟨[.p 3 0,.p 6 0],_,[],Lr 7,[92]⟩ :: ⟨[.p 7 0],_,[],Lr 8,[93]⟩ :: ⟨[.p 8 0,.o 0],_,[],Lr 9,[94]⟩ :: ⟨[.p 8 0,.o 2],_,[],Lr 9,[95]⟩ :: ⟨[.p 8 0,.p 9 0,.p 10 0],_,[],Lr 11,[96]⟩ :: ⟨[.p 8 0,.p 11 0],_,[],Lr 12,[97]⟩ :: ⟨[.p 12 0],_,[],Lr 13,[98]⟩ :: ⟨[.p 13 0,.o 3],_,[],Lr 14,[99]⟩ :: ⟨[.p 13 0,.p 14 0],_,[],Lr 15,[100]⟩ :: ⟨[.p 13 0,.p 15 0],_,[],Lr 16,[101]⟩ :: ⟨[.p 13 0,.p 16 0],_,[],Lr 17,[102]⟩ :: ⟨[.p 17 0],_,[],Lr 18,[103]⟩ :: ⟨[.p 18 0,.o 6],_,[],Lr 19,[104]⟩ :: ⟨[.p 18 0,.p 19 0],_,[],Lr 20,[105]⟩ :: ⟨[.p 20 0],_,[],Lr 21,[106]⟩ :: ⟨[.p 21 0,.o 5],_,[],Lr 22,[107]⟩ :: ⟨[.p 21 0,.p 22 0],_,[],Lr 23,[108]⟩ :: ⟨[.p 21 0,.p 23 0],_,[],Lr 24,[109]⟩ :: ⟨[.p 21 0,.p 24 0],_,[],Lr 25,[110]⟩ :: ⟨[.p 21 0,.p 25 0],_,[],Lr 26,[111]⟩ :: ⟨[.p 26 0],_,[],Lr 27,[0]⟩ :: []) (F:=[.p 27 0]) hst hb Za
   (Qm rfl u_0<|o_p rfl (Zbv Tryz.underlying23 rfl rfl u_0)<|o_p rfl (Zbr rfl rfl u_0 c_i)<|Qm rfl u_0<|o_g (Qg_t rfl (fun hG=>Zh Zc2 rfl rfl u_0))<|o_g (Qg_t rfl (fun hG=>Zs ty_2 rfl rfl (Opd.gd hG u_0)))<|o_g (Qg_t rfl (fun hG=>Zbr rfl rfl (Opd.gd hG u_0) c_i))<|o_p rfl (Zbg rfl rfl u_0 (fun hz=>(Opd.gd hz u_1)))<|Qm rfl u_0<|o_g (Qg_t rfl (fun hG=>Zve Zbu rfl rfl u_0))<|o_g (Qg_t rfl (fun hG=>Zs Zbu rfl rfl u_0))<|o_g (Qg_t rfl (fun hG=>Zl Z8l (Zr9 _ _ (Zbn h29 hG)) rfl rfl (.cons (Opd.gd hG u_0) (.cons (Opd.gd hG u_1) .nil))))<|o_p rfl (Zbg rfl rfl u_0 (fun hz=>(Opd.gd hz u_1)))<|Qm rfl u_0<|o_g (Qg_t rfl (fun hG=>Z1 rfl rfl u_0))<|o_g (Qg_t rfl (fun hG=>Zbv Tryz.underlying23 rfl rfl (Opd.gd hG u_0)))<|o_g (Qg_t rfl (fun hG=>Zbr rfl rfl (Opd.gd hG u_0) c_i))<|o_p rfl (Zbg rfl rfl u_0 (fun hz=>(Opd.gd hz u_1)))<|Qm rfl u_0<|o_g (Qg_t rfl (fun hG=>Z1 rfl rfl u_0))<|o_p rfl (Zbg rfl rfl u_0 (fun hz=>(Opd.gd hz u_1)))<|Qm rfl u_0<|o_g (Qg_t rfl (fun hG=>Zh Zli rfl rfl u_0))<|o_g (Qg_t rfl (fun hG=>Zs Zpd rfl rfl (Opd.gd hG u_0)))<|o_g (Qg_t rfl (fun hG=>Zbv Tryz.underlying47 rfl rfl (Opd.gd hG u_0)))<|o_g (Qg_t rfl (fun hG=>Zbr rfl rfl (Opd.gd hG u_0) c_i))<|o_p rfl (Zbg rfl rfl u_0 (fun hz=>(Opd.gd hz u_1)))<|Qa rfl u_0<|o_n) (fun a g hst hb=>?_)
  refine wp_ret ?_
  obtain rfl:=Option.some.inj H0
  exact Z4 rfl hst hb (Zg (s:=0)) (hst.at 0 rfl)
theorem Ztm (a0:Zb) {r:Int} (h:Zj1 a0=some r):FnOk Tryz.prog 31 [(Ze.pd a0)] (pInt .i64 r):=by
 have H0:=h
 unfold Zj1 at H0
 clear h
 refine Zbt (N:=27) Tryz.func31 rfl rfl (Qe rfl) rfl rfl (fun a g0 hst hb=>?_)
 refine r_s (T:=[⟨[.o 0],_,[],[],[1]⟩,⟨[],_,[],[],[2]⟩]) (F:=[.p 0 0]) hst hb Za
  (Qb rfl u_0<|Qa rfl c_i<|o_n) (fun a g hst hb=>?_)
 refine wp_seq ?_
 refine r_s (T:=[⟨[.o 0],_,[],[],[5]⟩,⟨[.p 0 0],_,[],[0],[6]⟩,⟨[.p 1 0],_,[],[0,1],[7]⟩,⟨[.p 2 0],_,[],[0,1,2],[8]⟩,⟨[.p 3 0],_,[],Lr 4,[9]⟩,⟨[.p 4 0,.o 0],_,[],Lr 5,[10]⟩,⟨[.p 4 0,.p 5 0],_,[],Lr 6,[11]⟩,⟨[.p 4 0,.p 6 0],_,[],Lr 7,[12]⟩,⟨[.p 4 0,.p 7 0],_,[],Lr 8,[13]⟩,⟨[.p 4 0,.p 8 0],_,[],Lr 9,[14]⟩]) (F:=[.o 0,.p 9 0]) hst hb Za
  (Qf rfl Zcc u_0<|Ql rfl Zdc u_0<|o_p rfl (Zbv Tryz.underlying36 rfl rfl u_0)<|o_p rfl (Zcv rfl rfl u_0 c_i)<|Qm rfl u_0<|o_g (Qg_f rfl (fun hG=>Zh Zjh rfl rfl u_0))<|o_g (Qg_f rfl (fun hG=>Zs ty_9 rfl rfl (Opd.gd hG u_0)))<|o_g (Qg_f rfl (fun hG=>Zge Tryz.underlying9 rfl rfl (Opd.gd hG u_0)))<|o_g (Qg_f rfl (fun hG=>Zcv rfl rfl (Opd.gd hG u_0) c_i))<|o_p rfl (Zbm rfl rfl u_0 (fun hz=>(Opd.gd (bNF hz) u_1)))<|o_n) (fun a g hst hb=>?_)
 refine wp_cond_split (hst.bool 1 rfl) (fun hc1=>?_) (fun hc1=>?_)
 ·replace H0:=Zu hc1 H0
  refine r_s (L:=[]) (T:=[⟨[],_,[],[],[2]⟩]) (F:=[.p 0 0]) (hst.pick [] rfl) hb Za
   (Qa rfl c_i<|o_n) (fun a g hst hb=>?_)
  refine wp_ret ?_
  refine Zp ?_
  obtain rfl:=Option.some.inj H0
  exact Z4 rfl hst hb (Zg (s:=2)) (hst.at 0 rfl)
 ·replace H0:=Zt hc1 H0
  refine wp_skip ?_
  refine Zq ?_
  refine wp_seq ?_
  refine r_s (L:=[(1,_)]) (T:=[⟨[.o 0],_,[],[],[15]⟩,⟨[.p 0 0],_,[],[0],[16]⟩,⟨[.p 1 0],_,[],[0,1],[17]⟩,⟨[],_,[],[],[18]⟩]) (F:=[.p 1 0,.p 2 0,.p 3 0]) (hst.pick [0] rfl) hb Za
   (Qf rfl Zcc u_0<|Ql rfl Zdc u_0<|o_p rfl (Zbv Tryz.underlying36 rfl rfl u_0)<|Qm rfl c_i<|o_n) (fun a g hst hb=>?_)
  obtain ⟨z7,hz1,H0⟩:=Zd H0
  refine Zb3 (fun a w=>∃ (g:G),w=g.w ∧ St 27 [] a g ∧ Base g0 g ∧ (.inr ())=z7) ?_ ?_
  ·rintro a w ⟨g,rfl,hst,hb,rfl⟩
   refine Zq ?_
   refine r_s (T:=[⟨[],_,[],[],[2]⟩]) (F:=[.p 0 0]) hst hb Za
    (Qa rfl c_i<|o_n) (fun a g hst hb=>?_)
   refine wp_ret ?_
   obtain rfl:=Option.some.inj H0
   exact Z4 rfl hst hb (Zg (s:=2)) (hst.at 0 rfl)
  ·refine wp_block ?_
   refine wp_loop_ghost (fun n a w=>∃ (x2:Int) (g:G),w=g.w ∧ St 27 [(16,(Zz.sl.pd a0.List)),(17,(pInt .i64 (a0.List.length:Int))),(18,(pInt .i64 x2))] a g ∧ Base g0 g ∧ Zfk a0 n x2=some z7) (Int.toNat ((a0.List.length:Int) - (0:Int)) + 1) ⟨(0:Int),g,rfl,(hst.pick [0,1,2] rfl),hb,hz1⟩ (fun n a w hI=>?_)
   obtain ⟨x2,g,rfl,hst,hb,H1⟩:=hI
   cases n with
   | zero=>exact absurd H1 (by simp [Zfk])
   | succ n =>
    rw [Zfk] at H1
    refine r_s (T:=[⟨[.o 2,.o 1],_,[],[],[19]⟩]) (F:=[.o 0,.o 1,.o 2,.p 0 0]) hst hb Za
     (o_p rfl (Zca rfl rfl u_0 u_1)<|o_n) (fun a g hst hb=>?_)
    refine wp_seq ?_
    refine wp_cond_split (hst.bool 3 rfl) (fun hc3=>?_) (fun hc3=>?_)
    ·replace H1:=Zu hc3 H1
     refine wp_skip ?_
     refine Zq ?_
     refine wp_seq ?_
     refine wp_block ?_
     obtain ⟨e4,h5,H1⟩:=Zd H1
     refine r_s (L:=[(16,_),(17,_),(18,_)]) (T:=[⟨[.o 0,.o 2],_,[],[],[20]⟩,⟨[.p 0 0],_,[],[0],[21]⟩,⟨[],[(4,(pBox Zz 4 (default:Zi)))],[5],[],[4]⟩,⟨[.p 1 0,.p 2 0],_,[5],[0,1,2],[4]⟩]) (F:=[.p 3 0,.o 0,.o 1,.o 2]) (hst.pick [0,1,2] rfl) hb Za
      (o_p rfl (Zbi Tryz.underlying36 Zfb rfl rfl u_0 u_1 h5)<|Ql rfl Zed u_0<|o_p rfl (Zbh (zs:=[.float .f64 0,.string ByteArray.empty]) (by kernel_rfl) (fun g=>Zlj g) rfl rfl)<|o_p rfl (Zb6 Zed rfl rfl u_1 u_0)<|o_n) (fun a g hst hb=>?_)
     refine r_s (T:=[⟨[.o 0],_,[],[],[22]⟩,⟨[.p 0 0],_,[],[0],[23]⟩,⟨[.p 1 0],_,[],[0,1],[24]⟩,⟨[.p 2 0],_,[],[0,1,2],[25]⟩]) (F:=[.o 1,.o 2,.o 3,.p 3 0]) hst hb Za
      (Qf rfl Zd7 u_0<|Ql rfl ty_9 u_0<|o_p rfl (Zge Tryz.underlying9 rfl rfl u_0)<|o_p rfl (Zcv rfl rfl u_0 c_i)<|o_n) (fun a g hst hb=>?_)
     refine wp_cond_split (hst.bool 3 rfl) (fun hc6=>?_) (fun hc6=>?_)
     ·replace H1:=Zu hc6 H1
      refine r_s (L:=[]) (T:=[⟨[],_,[],[],[2]⟩]) (F:=[.p 0 0]) (hst.pick [] rfl) hb Za
       (Qa rfl c_i<|o_n) (fun a g hst hb=>?_)
      refine wp_ret ?_
      refine Z5 ?_
      refine Zp ?_
      refine Zp ?_
      refine Z5 ?_
      refine Zp ?_
      refine Zp ?_
      obtain rfl:=Option.some.inj H1
      obtain rfl:=Option.some.inj H0
      exact Z4 rfl hst hb (Zg (s:=2)) (hst.at 0 rfl)
     ·replace H1:=Zt hc6 H1
      refine wp_skip ?_
      refine Zbc ?_
      refine Zq ?_
      refine r_g (L:=[(16,_),(17,_),(18,_)]) (T:=[⟨[.o 2],_,[],[],[26]⟩,⟨[.p 0 0],_,[],[0],[18]⟩]) (F:=[.o 0,.o 1,.p 1 0]) (hst.pick [0,1,2] rfl) hb Za
       (o_p rfl (Zbz rfl rfl u_0 c_i rfl)<|Qm rfl u_0<|o_n) (fun a g hst hb=>?_)
      exact ⟨n,Nat.lt_succ_self _,(IntKind.i64.wrap (x2 + (1:Int))),g,rfl,(hst.pick [0,1,2] rfl),hb,H1⟩
    ·replace H1:=Zt hc3 H1
     refine wp_exit ?_
     refine Zby ?_
     refine Zby ?_
     refine Zce ?_
     exact ⟨g,rfl,(hst.pick [] rfl),hb,Option.some.inj H1⟩
theorem Zjs (a0:Nat) {r:Bool} (h:Zet a0=some r):FnOk Tryz.prog 96 [(pFlt a0)] (Zbd r):=by
 have H0:=h
 unfold Zet at H0
 clear h
 refine Zbt (N:=6) Tryz.func96 rfl rfl (Qe rfl) rfl rfl (fun a g0 hst hb=>?_)
 refine r_s (T:=[⟨[],_,[],[],[2]⟩]) (F:=[.o 0]) hst hb Za
  (Qa rfl c_b<|o_n) (fun a g hst hb=>?_)
 refine r_s (T:=[⟨[.o 0],_,[],[],[3]⟩,⟨[.o 0],_,[],[],[4]⟩,⟨[.p 0 0,.p 1 0],_,[],[0,1],[5]⟩,⟨[.p 2 0],_,[],[0,1,2],[2]⟩]) (F:=[.p 3 0]) hst hb Za
  (Qm rfl u_0<|Qm rfl u_0<|o_p rfl (Z3g rfl rfl u_0 u_1)<|Qa rfl u_0<|o_n) (fun a g hst hb=>?_)
 refine wp_ret ?_
 obtain rfl:=Option.some.inj H0
 exact Z4 rfl hst hb (Zg (s:=2)) (hst.at 0 rfl)
theorem Zko (a0:Nat) {r:Bool} (h:Zf8 a0=some r):FnOk Tryz.prog 71 [(pFlt a0)] (Zbd r):=by
 have H0:=h
 unfold Zf8 at H0
 clear h
 refine Zbt (N:=11) Tryz.func71 rfl rfl (Qe rfl) rfl rfl (fun a g0 hst hb=>?_)
 refine r_s (T:=[⟨[],_,[],[],[2]⟩]) (F:=[.o 0]) hst hb Za
  (Qa rfl c_b<|o_n) (fun a g hst hb=>?_)
 obtain ⟨r1,h2,H0⟩:=Zd H0
 refine r_s (T:=[⟨[.o 0],_,[],[],[3]⟩,⟨[.p 0 0],_,[],[0],[4]⟩,⟨[.p 1 0],_,[],[0,1],[5]⟩,⟨[.p 2 0],_,[],[0,1,2],[6]⟩,⟨[.p 3 0,.o 0],_,[],Lr 4,[7]⟩,⟨[.p 3 0,.p 4 0],_,[],Lr 5,[8]⟩,⟨[.p 3 0,.p 5 0],_,[],Lr 6,[9]⟩,⟨[.p 3 0,.p 6 0],_,[],Lr 7,[10]⟩,⟨[.p 7 0],_,[],Lr 8,[2]⟩]) (F:=[.p 8 0]) hst hb Za
  (Qm rfl u_0<|o_p rfl (Zl Zzg (Zjs _ h2) rfl rfl (.cons u_0 .nil))<|Qn rfl u_0<|Qm rfl u_0<|o_g (Qg_f rfl (fun hG=>Z1 rfl rfl u_0))<|o_g (Qg_f rfl (fun hG=>Zq8 Zww rfl rfl (Opd.gd hG u_0)))<|o_g (Qg_f rfl (fun hG=>Zbr rfl rfl (Opd.gd hG u_0) c_i))<|o_p rfl (Zbm rfl rfl u_0 (fun hz=>(Opd.gd (bNF hz) u_1)))<|Qa rfl u_0<|o_n) (fun a g hst hb=>?_)
 refine wp_ret ?_
 obtain rfl:=Option.some.inj H0
 exact Z4 rfl hst hb (Zg (s:=2)) (hst.at 0 rfl)
theorem Znt (a0:Nat) {r:Bool} (h:Zhk a0=some r):FnOk Tryz.prog 98 [(pFlt a0)] (Zbd r):=by
 have H0:=h
 unfold Zhk at H0
 clear h
 refine Zbt (N:=10) Tryz.func98 rfl rfl (Qe rfl) rfl rfl (fun a g0 hst hb=>?_)
 refine r_s (T:=[⟨[],_,[],[],[2]⟩]) (F:=[.o 0]) hst hb Za
  (Qa rfl c_b<|o_n) (fun a g hst hb=>?_)
 refine wp_seq ?_
 refine r_s (T:=[⟨[.o 0],_,[],[],[3]⟩,⟨[.p 0 0],_,[],[0],[4]⟩]) (F:=[.o 0,.p 1 0]) hst hb Za
  (Qm rfl u_0<|o_p rfl (Zxl rfl rfl u_0 c_f)<|o_n) (fun a g hst hb=>?_)
 refine wp_cond_split (hst.bool 1 rfl) (fun hc1=>?_) (fun hc1=>?_)
 ·replace H0:=Zu hc1 H0
  obtain ⟨f2,h3,H0⟩:=Zd H0
  refine r_s (L:=[(0,_)]) (T:=[⟨[.o 0],_,[],[],[5]⟩,⟨[.p 0 0],_,[],[0],[6]⟩,⟨[.p 1 0],_,[],[0,1],[7]⟩,⟨[.p 2 0],_,[],[0,1,2],[2]⟩]) (F:=[.p 3 0]) (hst.pick [0] rfl) hb Za
   (Qm rfl u_0<|o_p rfl (Z81 rfl rfl c_f u_0 h3)<|o_p rfl (Zxd rfl rfl u_0 c_f)<|Qa rfl u_0<|o_n) (fun a g hst hb=>?_)
  refine wp_ret ?_
  refine Zp ?_
  obtain rfl:=Option.some.inj H0
  exact Z4 rfl hst hb (Zg (s:=2)) (hst.at 0 rfl)
 ·replace H0:=Zt hc1 H0
  refine wp_skip ?_
  refine Zq ?_
  refine r_s (L:=[(0,_)]) (T:=[⟨[.o 0],_,[],[],[8]⟩,⟨[.p 0 0],_,[],[0],[9]⟩,⟨[.p 1 0],_,[],[0,1],[2]⟩]) (F:=[.p 2 0]) (hst.pick [0] rfl) hb Za
   (Qm rfl u_0<|o_p rfl (Zxd rfl rfl u_0 c_f)<|Qa rfl u_0<|o_n) (fun a g hst hb=>?_)
  refine wp_ret ?_
  obtain rfl:=Option.some.inj H0
  exact Z4 rfl hst hb (Zg (s:=2)) (hst.at 0 rfl)
theorem Zhy (a0:Nat) (a1:Nat) {r:Bool} (h:Zfo a0 a1=some r):FnOk Tryz.prog 72 [(pFlt a0),(pFlt a1)] (Zbd r):=by
 have H0:=h
 unfold Zfo at H0
 clear h
 refine Zbt (N:=25) Tryz.func72 rfl rfl (Qe rfl) rfl rfl (fun a g0 hst hb=>?_)
 refine r_s (T:=[⟨[],_,[],[],[4]⟩]) (F:=[.o 0,.o 1]) hst hb Za
  (Qa rfl c_b<|o_n) (fun a g hst hb=>?_)
 refine wp_seq ?_
 obtain ⟨r1,h2,H0⟩:=Zd H0
 refine r_s (T:=[⟨[.o 0],_,[],[],[5]⟩,⟨[.p 0 0],_,[],[0],[6]⟩]) (F:=[.o 0,.o 1,.p 1 0]) hst hb Za
  (Qm rfl u_0<|o_p rfl (Zl Zzg (Zjs _ h2) rfl rfl (.cons u_0 .nil))<|o_n) (fun a g hst hb=>?_)
 refine wp_cond_split (hst.bool 2 rfl) (fun hc3=>?_) (fun hc3=>?_)
 ·replace H0:=Zu hc3 H0
  refine r_s (L:=[]) (T:=[⟨[],_,[],[],[4]⟩]) (F:=[.p 0 0]) (hst.pick [] rfl) hb Za
   (Qa rfl c_b<|o_n) (fun a g hst hb=>?_)
  refine wp_ret ?_
  refine Zp ?_
  obtain rfl:=Option.some.inj H0
  exact Z4 rfl hst hb (Zg (s:=4)) (hst.at 0 rfl)
 ·replace H0:=Zt hc3 H0
  refine wp_skip ?_
  refine Zq ?_
  refine wp_seq ?_
  obtain ⟨r4,h5,H0⟩:=Zd H0
  refine r_s (L:=[(0,_),(1,_)]) (T:=[⟨[.o 1],_,[],[],[7]⟩,⟨[.p 0 0],_,[],[0],[8]⟩]) (F:=[.o 0,.o 1,.p 1 0]) (hst.pick [0,1] rfl) hb Za
   (Qm rfl u_0<|o_p rfl (Zl Zzg (Zjs _ h5) rfl rfl (.cons u_0 .nil))<|o_n) (fun a g hst hb=>?_)
  refine wp_cond_split (hst.bool 2 rfl) (fun hc6=>?_) (fun hc6=>?_)
  ·replace H0:=Zu hc6 H0
   refine r_s (L:=[]) (T:=[⟨[],_,[],[],[4]⟩]) (F:=[.p 0 0]) (hst.pick [] rfl) hb Za
    (Qa rfl c_b<|o_n) (fun a g hst hb=>?_)
   refine wp_ret ?_
   refine Zp ?_
   obtain rfl:=Option.some.inj H0
   exact Z4 rfl hst hb (Zg (s:=4)) (hst.at 0 rfl)
  ·replace H0:=Zt hc6 H0
   refine wp_skip ?_
   refine Zq ?_
   refine wp_seq ?_
   refine r_s (L:=[(0,_),(1,_)]) (T:=[⟨[.o 0],_,[],[],[9]⟩,⟨[.p 0 0],_,[],[0],[10]⟩,⟨[.p 1 0],_,[],[0,1],[11]⟩,⟨[.p 2 0,.o 1],_,[],[0,1,2],[12]⟩,⟨[.p 2 0,.p 3 0],_,[],Lr 4,[13]⟩,⟨[.p 2 0,.p 4 0],_,[],Lr 5,[14]⟩]) (F:=[.o 0,.o 1,.p 5 0]) (hst.pick [0,1] rfl) hb Za
    (Qm rfl u_0<|o_p rfl (Zxl rfl rfl u_0 c_f)<|Qm rfl u_0<|o_g (Qg_t rfl (fun hG=>Z1 rfl rfl u_0))<|o_g (Qg_t rfl (fun hG=>Zxl rfl rfl (Opd.gd hG u_0) c_f))<|o_p rfl (Zbg rfl rfl u_0 (fun hz=>(Opd.gd hz u_1)))<|o_n) (fun a g hst hb=>?_)
   refine wp_cond_split (hst.bool 2 rfl) (fun hc7=>?_) (fun hc7=>?_)
   ·replace H0:=Zu hc7 H0
    obtain ⟨r8,h9,H0⟩:=Zd H0;obtain ⟨r10,h11,H0⟩:=Zd H0
    refine r_s (L:=[(0,_),(1,_)]) (T:=[⟨[.o 0],_,[],[],[15]⟩,⟨[.p 0 0],_,[],[0],[16]⟩,⟨[.p 1 0],_,[],[0,1],[17]⟩,⟨[.p 2 0,.o 1],_,[],[0,1,2],[18]⟩,⟨[.p 2 0,.p 3 0],_,[],Lr 4,[19]⟩,⟨[.p 2 0,.p 4 0],_,[],Lr 5,[20]⟩,⟨[.p 2 0,.p 5 0],_,[],Lr 6,[21]⟩,⟨[.p 6 0],_,[],Lr 7,[4]⟩]) (F:=[.p 7 0]) (hst.pick [0,1] rfl) hb Za
     (Qm rfl u_0<|o_p rfl (Zl Z76 (Znt _ h9) rfl rfl (.cons u_0 .nil))<|Qm rfl u_0<|o_g (Qg_t rfl (fun hG=>Z1 rfl rfl u_0))<|o_g (Qg_t rfl (fun hG=>Zl Z76 (Znt _ (Zbn h11 hG)) rfl rfl (.cons (Opd.gd hG u_0) .nil)))<|o_g (Qg_t rfl (fun hG=>Zfh rfl rfl (Opd.gd hG u_0)))<|o_p rfl (Zbg rfl rfl u_0 (fun hz=>(Opd.gd hz u_1)))<|Qa rfl u_0<|o_n) (fun a g hst hb=>?_)
    refine wp_ret ?_
    refine Zp ?_
    obtain rfl:=Option.some.inj H0
    exact Z4 rfl hst hb (Zg (s:=4)) (hst.at 0 rfl)
   ·replace H0:=Zt hc7 H0
    refine wp_skip ?_
    refine Zq ?_
    refine r_s (L:=[(0,_),(1,_)]) (T:=[⟨[.o 0],_,[],[],[22]⟩,⟨[.o 1],_,[],[],[23]⟩,⟨[.p 0 0,.p 1 0],_,[],[0,1],[24]⟩,⟨[.p 2 0],_,[],[0,1,2],[4]⟩]) (F:=[.p 3 0]) (hst.pick [0,1] rfl) hb Za
     (Qm rfl u_0<|Qm rfl u_0<|o_p rfl (Zxd rfl rfl u_0 u_1)<|Qa rfl u_0<|o_n) (fun a g hst hb=>?_)
    refine wp_ret ?_
    obtain rfl:=Option.some.inj H0
    exact Z4 rfl hst hb (Zg (s:=4)) (hst.at 0 rfl)
theorem Zfz (a0:Nat) (a1:Nat) {r:Bool} (h:Zdy a0 a1=some r):FnOk Tryz.prog 49 [(pFlt a0),(pFlt a1)] (Zbd r):=by
 have H0:=h
 unfold Zdy at H0
 clear h
 refine Zbt (N:=15) Tryz.func49 rfl rfl (Qe rfl) rfl rfl (fun a g0 hst hb=>?_)
 refine r_s (T:=[⟨[],_,[],[],[4]⟩]) (F:=[.o 0,.o 1]) hst hb Za
  (Qa rfl c_b<|o_n) (fun a g hst hb=>?_)
 obtain ⟨r1,h2,H0⟩:=Zd H0;obtain ⟨r3,h4,H0⟩:=Zd H0
 refine r_s (T:=[⟨[.o 0],_,[],[],[5]⟩,⟨[.o 1],_,[],[],[6]⟩,⟨[.p 0 0,.p 1 0],_,[],[0,1],[7]⟩,⟨[.p 2 0],_,[],[0,1,2],[8]⟩,⟨[.p 3 0],_,[],Lr 4,[9]⟩,⟨[.p 4 0,.o 1],_,[],Lr 5,[10]⟩,⟨[.p 4 0,.o 0],_,[],Lr 5,[11]⟩,⟨[.p 4 0,.p 5 0,.p 6 0],_,[],Lr 7,[12]⟩,⟨[.p 4 0,.p 7 0],_,[],Lr 8,[13]⟩,⟨[.p 4 0,.p 8 0],_,[],Lr 9,[14]⟩,⟨[.p 9 0],_,[],Lr 10,[4]⟩]) (F:=[.p 10 0]) hst hb Za
  (Qm rfl u_0<|Qm rfl u_0<|o_p rfl (Zl Zwj (Zhy _ _ h2) rfl rfl (.cons u_0 (.cons u_1 .nil)))<|Qn rfl u_0<|Qm rfl u_0<|o_g (Qg_t rfl (fun hG=>Z1 rfl rfl u_0))<|o_g (Qg_t rfl (fun hG=>Z1 rfl rfl u_0))<|o_g (Qg_t rfl (fun hG=>Zl Zwj (Zhy _ _ (Zbn h4 hG)) rfl rfl (.cons (Opd.gd hG u_0) (.cons (Opd.gd hG u_1) .nil))))<|o_g (Qg_t rfl (fun hG=>Zfh rfl rfl (Opd.gd hG u_0)))<|o_p rfl (Zbg rfl rfl u_0 (fun hz=>(Opd.gd hz u_1)))<|Qa rfl u_0<|o_n) (fun a g hst hb=>?_)
 refine wp_ret ?_
 obtain rfl:=Option.some.inj H0
 exact Z4 rfl hst hb (Zg (s:=4)) (hst.at 0 rfl)
theorem Znz (a0:Nat) {r:Bool} (h:Zia a0=some r):FnOk Tryz.prog 103 [(pFlt a0)] (Zbd r):=by
 have H0:=h
 unfold Zia at H0
 clear h
 refine Zbt (N:=5) Tryz.func103 rfl rfl (Qe rfl) rfl rfl (fun a g0 hst hb=>?_)
 refine r_s (T:=[⟨[],_,[],[],[2]⟩]) (F:=[.o 0]) hst hb Za
  (Qa rfl c_b<|o_n) (fun a g hst hb=>?_)
 obtain ⟨r1,h2,H0⟩:=Zd H0
 refine r_s (T:=[⟨[.o 0],_,[],[],[3]⟩,⟨[.p 0 0],_,[],[0],[4]⟩,⟨[.p 1 0],_,[],[0,1],[2]⟩]) (F:=[.p 2 0]) hst hb Za
  (Qm rfl u_0<|o_p rfl (Zl Zru (Zfz _ _ h2) rfl rfl (.cons u_0 (.cons c_f .nil)))<|Qa rfl u_0<|o_n) (fun a g hst hb=>?_)
 refine wp_ret ?_
 obtain rfl:=Option.some.inj H0
 exact Z4 rfl hst hb (Zg (s:=2)) (hst.at 0 rfl)
theorem Zsm (a0:Zb) (a1:ByteArray) {r:Bool} (h:Zf3 a0 a1=some r):FnOk Tryz.prog 82 [(Ze.pd a0),(pStr a1)] (Zbd r):=by
 have H0:=h
 unfold Zf3 at H0
 clear h
 refine Zbt (N:=106) Tryz.func82 rfl rfl (Qe rfl) rfl rfl (fun a g0 hst hb=>?_)
 refine r_s (T:=[⟨[.o 0],_,[],[],[2]⟩,⟨[],_,[],[],[4]⟩]) (F:=[.o 1,.p 0 0]) hst hb Za
  (Qb rfl u_0<|Qa rfl c_b<|o_n) (fun a g hst hb=>?_)
 refine r_s (T:=[⟨[],_,[],[],[5]⟩,⟨[],_,[],[0],[6]⟩,⟨[],_,[],[0,1],[7]⟩,⟨[],_,[],[0,1,2],[8]⟩,⟨[],_,[],Lr 4,[9]⟩]) (F:=[.o 0,.o 1,.p 0 0,.p 1 0,.p 2 0,.p 3 0,.p 4 0]) hst hb Za
  (Qa rfl c_b<|Qa rfl c_b<|Qa rfl c_b<|Qa rfl c_b<|Qa rfl c_b<|o_n) (fun a g hst hb=>?_)
 refine wp_seq ?_
 refine r_s (T:=[⟨[],_,[],[],[10]⟩]) (F:=[.o 0,.o 1,.o 2,.o 3,.o 4,.o 5,.o 6,.p 0 0]) hst hb Za
  (Qa rfl c_i<|o_n) (fun a g hst hb=>?_)
 obtain ⟨z23,hz1,H0⟩:=Zd H0
 refine Zb3 (fun a w=>∃ (y18:Bool) (y19:Bool) (y20:Bool) (y21:Bool) (y22:Bool) (g:G),w=g.w ∧ St 106 [(2,(Ze.ptr a0)),(5,(Zbd y18)),(6,(Zbd y19)),(7,(Zbd y20)),(8,(Zbd y21)),(9,(Zbd y22))] a g ∧ Base g0 g ∧ (y18,y19,y20,y21,y22)=z23) ?_ ?_
 ·rintro a w ⟨y18,y19,y20,y21,y22,g,rfl,hst,hb,rfl⟩
  refine Zq ?_
  refine wp_seq ?_
  refine r_s (T:=⟨[.o 1],_,[],[],[52]⟩ :: ⟨[.p 0 0],_,[],[0],[53]⟩ :: ⟨[.p 1 0],_,[],[0,1],[54]⟩ :: ⟨[.p 2 0,.o 0],_,[],[0,1,2],[55]⟩ :: ⟨[.p 2 0,.p 3 0],_,[],Lr 4,[56]⟩ :: ⟨[.p 2 0,.p 4 0],_,[],Lr 5,[57]⟩ :: ⟨[.p 2 0,.p 5 0],_,[],Lr 6,[58]⟩ :: ⟨[.p 6 0],_,[],Lr 7,[59]⟩ :: ⟨[.p 7 0,.o 2],_,[],Lr 8,[60]⟩ :: ⟨[.p 7 0,.p 8 0],_,[],Lr 9,[61]⟩ :: ⟨[.p 7 0,.p 9 0],_,[],Lr 10,[62]⟩ :: ⟨[.p 10 0,.o 0],_,[],Lr 11,[63]⟩ :: ⟨[.p 10 0,.p 11 0],_,[],Lr 12,[64]⟩ :: ⟨[.p 10 0,.p 12 0],_,[],Lr 13,[65]⟩ :: ⟨[.p 7 0,.p 10 0,.p 13 0],_,[],Lr 14,[66]⟩ :: ⟨[.p 7 0,.p 14 0],_,[],Lr 15,[67]⟩ :: ⟨[.p 15 0],_,[],Lr 16,[68]⟩ :: ⟨[.p 16 0,.o 3],_,[],Lr 17,[69]⟩ :: ⟨[.p 16 0,.p 17 0],_,[],Lr 18,[70]⟩ :: ⟨[.p 16 0,.p 18 0],_,[],Lr 19,[71]⟩ :: ⟨[.p 19 0,.o 0],_,[],Lr 20,[72]⟩ :: ⟨[.p 19 0,.p 20 0],_,[],Lr 21,[73]⟩ :: ⟨[.p 19 0,.p 21 0],_,[],Lr 22,[74]⟩ :: ⟨[.p 16 0,.p 19 0,.p 22 0],_,[],Lr 23,[75]⟩ :: ⟨[.p 16 0,.p 23 0],_,[],Lr 24,[76]⟩ :: ⟨[.p 24 0],_,[],Lr 25,[77]⟩ :: ⟨[.p 25 0,.o 3],_,[],Lr 26,[78]⟩ :: ⟨[.p 25 0,.p 26 0],_,[],Lr 27,[79]⟩ :: ⟨[.p 25 0,.p 27 0],_,[],Lr 28,[80]⟩ :: ⟨[.p 28 0,.o 0],_,[],Lr 29,[81]⟩ :: ⟨[.p 28 0,.p 29 0],_,[],Lr 30,[82]⟩ :: ⟨[.p 28 0,.p 30 0],_,[],Lr 31,[83]⟩ :: ⟨[.p 25 0,.p 28 0,.p 31 0],_,[],Lr 32,[84]⟩ :: ⟨[.p 25 0,.p 32 0],_,[],Lr 33,[85]⟩ :: []) (F:=[.o 0,.o 4,.o 5,.p 33 0]) hst hb Za
   (Qm rfl u_0<|Qn rfl u_0<|Qm rfl u_0<|o_g (Qg_t rfl (fun hG=>Zh Zjh rfl rfl u_0))<|o_g (Qg_t rfl (fun hG=>Zs ty_9 rfl rfl (Opd.gd hG u_0)))<|o_g (Qg_t rfl (fun hG=>Zmv rfl rfl (Opd.gd hG u_0) c_s))<|o_p rfl (Zbg rfl rfl u_0 (fun hz=>(Opd.gd hz u_1)))<|Qm rfl u_0<|o_g (Qg_f rfl (fun hG=>Z1 rfl rfl u_0))<|o_g (Qg_f rfl (fun hG=>Zfh rfl rfl (Opd.gd hG u_0)))<|o_g (Qg_f rfl (fun hG=>Z1 rfl rfl (Opd.gd hG u_0)))<|o_g (Qg_ti rfl (fun hG=>Zh Zc2 rfl rfl u_0))<|o_g (Qg_ti rfl (fun hG=>Zs ty_2 rfl rfl (Opd.gd hG u_0)))<|o_g (Qg_ti rfl (fun hG=>Zcz rfl rfl (Opd.gd hG u_0) c_i))<|o_g (Qg_f rfl (fun hG=>Zbg rfl rfl (Opd.gd hG u_0) (fun hz=>(Opd.gd (bA hG hz) u_1))))<|o_p rfl (Zbm rfl rfl u_0 (fun hz=>(Opd.gd (bNF hz) u_1)))<|Qm rfl u_0<|o_g (Qg_f rfl (fun hG=>Z1 rfl rfl u_0))<|o_g (Qg_f rfl (fun hG=>Zfh rfl rfl (Opd.gd hG u_0)))<|o_g (Qg_f rfl (fun hG=>Z1 rfl rfl (Opd.gd hG u_0)))<|o_g (Qg_ti rfl (fun hG=>Zh Zjv rfl rfl u_0))<|o_g (Qg_ti rfl (fun hG=>Zs ty_2 rfl rfl (Opd.gd hG u_0)))<|o_g (Qg_ti rfl (fun hG=>Zcz rfl rfl (Opd.gd hG u_0) c_i))<|o_g (Qg_f rfl (fun hG=>Zbg rfl rfl (Opd.gd hG u_0) (fun hz=>(Opd.gd (bA hG hz) u_1))))<|o_p rfl (Zbm rfl rfl u_0 (fun hz=>(Opd.gd (bNF hz) u_1)))<|Qm rfl u_0<|o_g (Qg_f rfl (fun hG=>Z1 rfl rfl u_0))<|o_g (Qg_f rfl (fun hG=>Zfh rfl rfl (Opd.gd hG u_0)))<|o_g (Qg_f rfl (fun hG=>Z1 rfl rfl (Opd.gd hG u_0)))<|o_g (Qg_ti rfl (fun hG=>Zh Zjw rfl rfl u_0))<|o_g (Qg_ti rfl (fun hG=>Zs ty_2 rfl rfl (Opd.gd hG u_0)))<|o_g (Qg_ti rfl (fun hG=>Zcz rfl rfl (Opd.gd hG u_0) c_i))<|o_g (Qg_f rfl (fun hG=>Zbg rfl rfl (Opd.gd hG u_0) (fun hz=>(Opd.gd (bA hG hz) u_1))))<|o_p rfl (Zbm rfl rfl u_0 (fun hz=>(Opd.gd (bNF hz) u_1)))<|o_n) (fun a g hst hb=>?_)
  refine wp_cond_split (hst.bool 3 rfl) (fun hc24=>?_) (fun hc24=>?_)
  ·replace H0:=Zu hc24 H0
   refine r_s (L:=[]) (T:=[⟨[],_,[],[],[4]⟩]) (F:=[.p 0 0]) (hst.pick [] rfl) hb Za
    (Qa rfl c_b<|o_n) (fun a g hst hb=>?_)
   refine wp_ret ?_
   refine Zp ?_
   obtain rfl:=Option.some.inj H0
   exact Z4 rfl hst hb (Zg (s:=4)) (hst.at 0 rfl)
  ·replace H0:=Zt hc24 H0
   refine wp_skip ?_
   refine Zq ?_
   obtain ⟨r25,h26,H0⟩:=Zd H0
   refine r_s (L:=[(2,_),(8,_),(9,_)]) (T:=⟨[.o 1],_,[],[],[86]⟩ :: ⟨[.p 0 0],_,[],[0],[87]⟩ :: ⟨[.p 1 0,.o 0],_,[],[0,1],[88]⟩ :: ⟨[.p 1 0,.p 2 0],_,[],[0,1,2],[89]⟩ :: ⟨[.p 1 0,.p 3 0],_,[],Lr 4,[90]⟩ :: ⟨[.p 1 0,.p 4 0],_,[],Lr 5,[91]⟩ :: ⟨[.p 5 0],_,[],Lr 6,[92]⟩ :: ⟨[.p 6 0,.o 2],_,[],Lr 7,[93]⟩ :: ⟨[.p 6 0,.p 7 0],_,[],Lr 8,[94]⟩ :: ⟨[.p 8 0,.o 0],_,[],Lr 9,[95]⟩ :: ⟨[.p 8 0,.p 9 0],_,[],Lr 10,[96]⟩ :: ⟨[.p 8 0,.p 10 0],_,[],Lr 11,[97]⟩ :: ⟨[.p 8 0,.p 11 0],_,[],Lr 12,[98]⟩ :: ⟨[.p 12 0,.o 0],_,[],Lr 13,[99]⟩ :: ⟨[.p 12 0,.p 13 0],_,[],Lr 14,[100]⟩ :: ⟨[.p 12 0,.p 14 0],_,[],Lr 15,[101]⟩ :: ⟨[.p 12 0,.p 15 0],_,[],Lr 16,[102]⟩ :: ⟨[.p 8 0,.p 12 0,.p 16 0],_,[],Lr 17,[103]⟩ :: ⟨[.p 6 0,.p 8 0,.p 17 0],_,[],Lr 18,[104]⟩ :: ⟨[.p 6 0,.p 18 0],_,[],Lr 19,[105]⟩ :: ⟨[.p 19 0],_,[],Lr 20,[4]⟩ :: []) (F:=[.p 20 0]) (hst.pick [0,1,2] rfl) hb Za
    (Qm rfl u_0<|Qm rfl u_0<|o_g (Qg_f rfl (fun hG=>Zh Zgi rfl rfl u_0))<|o_g (Qg_f rfl (fun hG=>Zs Zc0 rfl rfl (Opd.gd hG u_0)))<|o_g (Qg_f rfl (fun hG=>Zl Z5k (Znz _ (Zbn h26 hG)) rfl rfl (.cons (Opd.gd hG u_0) .nil)))<|o_p rfl (Zbm rfl rfl u_0 (fun hz=>(Opd.gd (bNF hz) u_1)))<|Qm rfl u_0<|o_g (Qg_t rfl (fun hG=>Z1 rfl rfl u_0))<|o_g (Qg_t rfl (fun hG=>Z1 rfl rfl (Opd.gd hG u_0)))<|o_g (Qg_fi rfl (fun hG=>Zh Zg8 rfl rfl u_0))<|o_g (Qg_fi rfl (fun hG=>Zs ty_3 rfl rfl (Opd.gd hG u_0)))<|o_g (Qg_fi rfl (fun hG=>Zbr rfl rfl (Opd.gd hG u_0) c_i))<|o_g (Qg_fi rfl (fun hG=>Z1 rfl rfl (Opd.gd hG u_0)))<|o_g (Qg_ti rfl (fun hG=>Zh Zcc rfl rfl u_0))<|o_g (Qg_ti rfl (fun hG=>Zs Zdc rfl rfl (Opd.gd hG u_0)))<|o_g (Qg_ti rfl (fun hG=>Zbv Tryz.underlying36 rfl rfl (Opd.gd hG u_0)))<|o_g (Qg_ti rfl (fun hG=>Zbr rfl rfl (Opd.gd hG u_0) c_i))<|o_g (Qg_fi rfl (fun hG=>Zbg rfl rfl (Opd.gd hG u_0) (fun hz=>(Opd.gd (bA hG hz) u_1))))<|o_g (Qg_t rfl (fun hG=>Zbm rfl rfl (Opd.gd hG u_0) (fun hz=>(Opd.gd (bA hG (bNF hz)) u_1))))<|o_p rfl (Zbg rfl rfl u_0 (fun hz=>(Opd.gd hz u_1)))<|Qa rfl u_0<|o_n) (fun a g hst hb=>?_)
   refine wp_ret ?_
   obtain rfl:=Option.some.inj H0
   exact Z4 rfl hst hb (Zg (s:=4)) (hst.at 0 rfl)
 ·refine wp_block ?_
  refine wp_loop_ghost (fun n a w=>∃ (x1:Bool) (x2:Bool) (x3:Bool) (x4:Bool) (x5:Bool) (x6:Int) (g:G),w=g.w ∧ St 106 [(1,(pStr a1)),(2,(Ze.ptr a0)),(5,(Zbd x1)),(6,(Zbd x2)),(7,(Zbd x3)),(8,(Zbd x4)),(9,(Zbd x5)),(10,(pInt .i64 x6))] a g ∧ Base g0 g ∧ Zc8 a1 n x1 x2 x3 x4 x5 x6=some z23) (Int.toNat ((a1.size:Int) - (0:Int)) + 1) ⟨false,false,false,false,false,(0:Int),g,rfl,(hst.pick [0,1,2,3,4,5,6,7] rfl),hb,hz1⟩ (fun n a w hI=>?_)
  obtain ⟨x1,x2,x3,x4,x5,x6,g,rfl,hst,hb,H1⟩:=hI
  cases n with
  | zero=>exact absurd H1 (by simp [Zc8])
  | succ n =>
   rw [Zc8] at H1
   refine wp_seq ?_
   refine r_s (T:=[⟨[.o 7],_,[],[],[11]⟩,⟨[.o 0],_,[],[],[12]⟩,⟨[.p 1 0],_,[],[1],[13]⟩,⟨[.p 0 0,.p 2 0],_,[],[0,1,2],[14]⟩]) (F:=[.o 0,.o 1,.o 2,.o 3,.o 4,.o 5,.o 6,.o 7,.p 3 0]) hst hb Za
    (Qm rfl u_0<|Qm rfl u_0<|o_p rfl (Zge Tryz.underlying9 rfl rfl u_0)<|o_p rfl (Zca rfl rfl u_0 u_1)<|o_n) (fun a g hst hb=>?_)
   refine wp_cond_split (hst.bool 8 rfl) (fun hc7=>?_) (fun hc7=>?_)
   ·replace H1:=Zu hc7 H1
    refine wp_skip ?_
    refine Zq ?_
    refine wp_seq ?_
    refine wp_block ?_
    obtain ⟨b8,h9,H1⟩:=Zd H1
    refine r_s (L:=[(1,_),(2,_),(5,_),(6,_),(7,_),(8,_),(9,_),(10,_)]) (T:=[⟨[.o 2],_,[],[],[17]⟩,⟨[.p 0 0],_,[],[0],[18]⟩,⟨[.p 1 0,.o 0],_,[],[0,1],[19]⟩,⟨[.p 1 0,.o 7],_,[],[0,1],[20]⟩,⟨[.p 1 0,.p 2 0,.p 3 0],_,[],Lr 4,[21]⟩,⟨[.p 1 0,.p 4 0],_,[],Lr 5,[22]⟩,⟨[.p 1 0,.p 5 0],_,[],Lr 6,[23]⟩,⟨[.p 6 0],_,[],Lr 7,[5]⟩]) (F:=[.o 0,.o 1,.p 7 0,.o 3,.o 4,.o 5,.o 6,.o 7]) (hst.pick [0,1,2,3,4,5,6,7] rfl) hb Za
     (Qm rfl u_0<|Qm rfl u_0<|o_g (Qg_f rfl (fun hG=>Z1 rfl rfl u_0))<|o_g (Qg_f rfl (fun hG=>Z1 rfl rfl u_0))<|o_g (Qg_f rfl (fun hG=>Zn6 Tryz.underlying9 rfl rfl (Opd.gd hG u_0) (Opd.gd hG u_1) (Zbn h9 hG)))<|o_g (Qg_f rfl (fun hG=>Zbr rfl rfl (Opd.gd hG u_0) c_i))<|o_p rfl (Zbm rfl rfl u_0 (fun hz=>(Opd.gd (bNF hz) u_1)))<|Qa rfl u_0<|o_n) (fun a g hst hb=>?_)
    obtain ⟨b10,h11,H1⟩:=Zd H1
    refine r_s (T:=[⟨[.o 3],_,[],[],[24]⟩,⟨[.p 0 0],_,[],[0],[25]⟩,⟨[.p 1 0,.o 0],_,[],[0,1],[26]⟩,⟨[.p 1 0,.o 7],_,[],[0,1],[27]⟩,⟨[.p 1 0,.p 2 0,.p 3 0],_,[],Lr 4,[28]⟩,⟨[.p 1 0,.p 4 0],_,[],Lr 5,[29]⟩,⟨[.p 1 0,.p 5 0],_,[],Lr 6,[30]⟩,⟨[.p 6 0],_,[],Lr 7,[6]⟩]) (F:=[.o 0,.o 1,.o 2,.p 7 0,.o 4,.o 5,.o 6,.o 7]) hst hb Za
     (Qm rfl u_0<|Qm rfl u_0<|o_g (Qg_f rfl (fun hG=>Z1 rfl rfl u_0))<|o_g (Qg_f rfl (fun hG=>Z1 rfl rfl u_0))<|o_g (Qg_f rfl (fun hG=>Zn6 Tryz.underlying9 rfl rfl (Opd.gd hG u_0) (Opd.gd hG u_1) (Zbn h11 hG)))<|o_g (Qg_f rfl (fun hG=>Zbr rfl rfl (Opd.gd hG u_0) c_i))<|o_p rfl (Zbm rfl rfl u_0 (fun hz=>(Opd.gd (bNF hz) u_1)))<|Qa rfl u_0<|o_n) (fun a g hst hb=>?_)
    obtain ⟨b12,h13,H1⟩:=Zd H1
    refine r_s (T:=[⟨[.o 4],_,[],[],[31]⟩,⟨[.p 0 0],_,[],[0],[32]⟩,⟨[.p 1 0,.o 0],_,[],[0,1],[33]⟩,⟨[.p 1 0,.o 7],_,[],[0,1],[34]⟩,⟨[.p 1 0,.p 2 0,.p 3 0],_,[],Lr 4,[35]⟩,⟨[.p 1 0,.p 4 0],_,[],Lr 5,[36]⟩,⟨[.p 1 0,.p 5 0],_,[],Lr 6,[37]⟩,⟨[.p 6 0],_,[],Lr 7,[7]⟩]) (F:=[.o 0,.o 1,.o 2,.o 3,.p 7 0,.o 5,.o 6,.o 7]) hst hb Za
     (Qm rfl u_0<|Qm rfl u_0<|o_g (Qg_f rfl (fun hG=>Z1 rfl rfl u_0))<|o_g (Qg_f rfl (fun hG=>Z1 rfl rfl u_0))<|o_g (Qg_f rfl (fun hG=>Zn6 Tryz.underlying9 rfl rfl (Opd.gd hG u_0) (Opd.gd hG u_1) (Zbn h13 hG)))<|o_g (Qg_f rfl (fun hG=>Zbr rfl rfl (Opd.gd hG u_0) c_i))<|o_p rfl (Zbm rfl rfl u_0 (fun hz=>(Opd.gd (bNF hz) u_1)))<|Qa rfl u_0<|o_n) (fun a g hst hb=>?_)
    obtain ⟨b14,h15,H1⟩:=Zd H1
    refine r_s (T:=[⟨[.o 5],_,[],[],[38]⟩,⟨[.p 0 0],_,[],[0],[39]⟩,⟨[.p 1 0,.o 0],_,[],[0,1],[40]⟩,⟨[.p 1 0,.o 7],_,[],[0,1],[41]⟩,⟨[.p 1 0,.p 2 0,.p 3 0],_,[],Lr 4,[42]⟩,⟨[.p 1 0,.p 4 0],_,[],Lr 5,[43]⟩,⟨[.p 1 0,.p 5 0],_,[],Lr 6,[44]⟩,⟨[.p 6 0],_,[],Lr 7,[8]⟩]) (F:=[.o 0,.o 1,.o 2,.o 3,.o 4,.p 7 0,.o 6,.o 7]) hst hb Za
     (Qm rfl u_0<|Qm rfl u_0<|o_g (Qg_f rfl (fun hG=>Z1 rfl rfl u_0))<|o_g (Qg_f rfl (fun hG=>Z1 rfl rfl u_0))<|o_g (Qg_f rfl (fun hG=>Zn6 Tryz.underlying9 rfl rfl (Opd.gd hG u_0) (Opd.gd hG u_1) (Zbn h15 hG)))<|o_g (Qg_f rfl (fun hG=>Zbr rfl rfl (Opd.gd hG u_0) c_i))<|o_p rfl (Zbm rfl rfl u_0 (fun hz=>(Opd.gd (bNF hz) u_1)))<|Qa rfl u_0<|o_n) (fun a g hst hb=>?_)
    obtain ⟨b16,h17,H1⟩:=Zd H1
    refine r_g (T:=[⟨[.o 6],_,[],[],[45]⟩,⟨[.p 0 0],_,[],[0],[46]⟩,⟨[.p 1 0,.o 0],_,[],[0,1],[47]⟩,⟨[.p 1 0,.o 7],_,[],[0,1],[48]⟩,⟨[.p 1 0,.p 2 0,.p 3 0],_,[],Lr 4,[49]⟩,⟨[.p 1 0,.p 4 0],_,[],Lr 5,[50]⟩,⟨[.p 1 0,.p 5 0],_,[],Lr 6,[51]⟩,⟨[.p 6 0],_,[],Lr 7,[9]⟩]) (F:=[.o 0,.o 1,.o 2,.o 3,.o 4,.o 5,.p 7 0,.o 7]) hst hb Za
     (Qm rfl u_0<|Qm rfl u_0<|o_g (Qg_f rfl (fun hG=>Z1 rfl rfl u_0))<|o_g (Qg_f rfl (fun hG=>Z1 rfl rfl u_0))<|o_g (Qg_f rfl (fun hG=>Zn6 Tryz.underlying9 rfl rfl (Opd.gd hG u_0) (Opd.gd hG u_1) (Zbn h17 hG)))<|o_g (Qg_f rfl (fun hG=>Zbr rfl rfl (Opd.gd hG u_0) c_i))<|o_p rfl (Zbm rfl rfl u_0 (fun hz=>(Opd.gd (bNF hz) u_1)))<|Qa rfl u_0<|o_n) (fun a g hst hb=>?_)
    refine Zbc ?_
    refine Zq ?_
    refine r_g (T:=[⟨[.o 7],_,[],[],[15]⟩,⟨[.p 0 0],_,[],[0],[16]⟩,⟨[.p 1 0],_,[],[0,1],[10]⟩]) (F:=[.o 0,.o 1,.o 2,.o 3,.o 4,.o 5,.o 6,.p 2 0]) hst hb Za
     (Qm rfl u_0<|o_p rfl (Zbz rfl rfl u_0 c_i rfl)<|Qa rfl u_0<|o_n) (fun a g hst hb=>?_)
    exact ⟨n,Nat.lt_succ_self _,(x1 || (b8 == (116:Int))),(x2 || (b10 == (110:Int))),(x3 || (b12 == (98:Int))),(x4 || (b14 == (114:Int))),(x5 || (b16 == (108:Int))),(IntKind.i64.wrap (x6 + (1:Int))),g,rfl,(hst.pick [0,1,2,3,4,5,6,7] rfl),hb,H1⟩
   ·replace H1:=Zt hc7 H1
    refine wp_exit ?_
    refine Zby ?_
    refine Zby ?_
    refine Zce ?_
    exact ⟨x1,x2,x3,x4,x5,g,rfl,(hst.pick [1,2,3,4,5,6] rfl),hb,Option.some.inj H1⟩
theorem Zra (a0:Int) {r:ByteArray} (h:Zjy a0=some r):FnOk Tryz.prog 83 [(pInt .i64 a0)] (pStr r):=by
 have H0:=h
 unfold Zjy at H0
 clear h
 refine Zbt (N:=15) Tryz.func83 rfl rfl (Qe rfl) rfl rfl (fun a g0 hst hb=>?_)
 refine r_s (T:=[⟨[],_,[],[],[2]⟩]) (F:=[.o 0]) hst hb Za
  (Qa rfl c_s<|o_n) (fun a g hst hb=>?_)
 refine r_s (T:=[⟨[],_,[],[],[4]⟩,⟨[.p 0 0],_,[],[0],[3]⟩]) (F:=[.o 0,.p 1 0]) hst hb Za
  (o_p rfl (Zhd Zr0 (xs:=[.const (.string ⟨#[]⟩),.const (.string ⟨#[116]⟩),.const (.string ⟨#[110]⟩),.const (.string ⟨#[110]⟩),.const (.string ⟨#[110,98]⟩),.const (.string ⟨#[114]⟩),.const (.string ⟨#[114]⟩),.const (.string ⟨#[114]⟩),.const (.string ⟨#[108]⟩),.const (.string ⟨#[108]⟩)]) (.cons c_s (.cons c_s (.cons c_s (.cons c_s (.cons c_s (.cons c_s (.cons c_s (.cons c_s (.cons c_s (.cons c_s .nil)))))))))) (by decide) rfl rfl)<|Qa rfl u_0<|o_n) (fun a g hst hb=>?_)
 refine wp_seq ?_
 refine r_s (T:=[⟨[.o 0],_,[],[],[5]⟩,⟨[.p 0 0],_,[],[0],[6]⟩,⟨[.p 1 0],_,[],[0,1],[7]⟩,⟨[.p 2 0,.o 0],_,[],[0,1,2],[8]⟩,⟨[.p 2 0,.p 3 0],_,[],Lr 4,[9]⟩,⟨[.p 2 0,.p 4 0],_,[],Lr 5,[10]⟩]) (F:=[.o 0,.o 1,.p 5 0]) hst hb Za
  (Qm rfl u_0<|o_p rfl (Zca rfl rfl u_0 c_i)<|Qm rfl u_0<|o_g (Qg_f rfl (fun hG=>Z1 rfl rfl u_0))<|o_g (Qg_f rfl (fun hG=>Zcv rfl rfl (Opd.gd hG u_0) c_i))<|o_p rfl (Zbm rfl rfl u_0 (fun hz=>(Opd.gd (bNF hz) u_1)))<|o_n) (fun a g hst hb=>?_)
 refine wp_cond_split (hst.bool 2 rfl) (fun hc1=>?_) (fun hc1=>?_)
 ·replace H0:=Zu hc1 H0
  refine r_s (L:=[]) (T:=[⟨[],_,[],[],[2]⟩]) (F:=[.p 0 0]) (hst.pick [] rfl) hb Za
   (Qa rfl c_s<|o_n) (fun a g hst hb=>?_)
  refine wp_ret ?_
  refine Zp ?_
  obtain rfl:=Option.some.inj H0
  exact Z4 rfl hst hb (Zg (s:=2)) (hst.at 0 rfl)
 ·replace H0:=Zt hc1 H0
  refine wp_skip ?_
  refine Zq ?_
  obtain ⟨e2,h3,H0⟩:=Zd H0
  refine r_s (L:=[(0,_),(3,_)]) (T:=[⟨[.o 1],_,[],[],[11]⟩,⟨[.o 0],_,[],[],[12]⟩,⟨[.p 0 0,.p 1 0],_,[],[0,1],[13]⟩,⟨[.p 2 0],_,[],[0,1,2],[14]⟩,⟨[.p 3 0],_,[],Lr 4,[2]⟩]) (F:=[.p 4 0]) (hst.pick [0,1] rfl) hb Za
   (Qm rfl u_0<|Qm rfl u_0<|o_p rfl (Zbi Tryz.underlying26 sz_9 rfl rfl u_0 u_1 h3)<|Ql rfl ty_9 u_0<|Qa rfl u_0<|o_n) (fun a g hst hb=>?_)
  refine wp_ret ?_
  obtain rfl:=Option.some.inj H0
  exact Z4 rfl hst hb (Zg (s:=2)) (hst.at 0 rfl)
theorem Znp (a0:Zi) (a1:Zi) {r:Bool} (h:Zgl a0 a1=some r):FnOk Tryz.prog 104 [(Zz.pd a0),(Zz.pd a1)] (Zbd r):=by
 have H0:=h
 unfold Zgl at H0
 clear h
 refine Zbt (N:=22) Tryz.func104 rfl rfl (Qe rfl) rfl rfl (fun a g0 hst hb=>?_)
 refine r_s (T:=[⟨[.o 0],_,[],[],[2]⟩,⟨[.o 1],_,[],[],[3]⟩,⟨[],_,[],[],[4]⟩]) (F:=[.p 0 0,.p 1 0]) hst hb Za
  (Qb rfl u_0<|Qb rfl u_0<|Qa rfl c_b<|o_n) (fun a g hst hb=>?_)
 refine wp_seq ?_
 obtain ⟨r1,h2,H0⟩:=Zd H0
 refine r_s (T:=[⟨[.o 1],_,[],[],[5]⟩,⟨[.p 0 0],_,[],[0],[6]⟩,⟨[.o 0],_,[],[],[7]⟩,⟨[.p 2 0],_,[],[2],[8]⟩,⟨[.p 1 0,.p 3 0],_,[],Lr 4,[9]⟩]) (F:=[.o 0,.o 1,.p 4 0]) hst hb Za
  (Qf rfl Zfy u_0<|Ql rfl Zc0 u_0<|Qf rfl Zfy u_0<|Ql rfl Zc0 u_0<|o_p rfl (Zl Zwj (Zhy _ _ h2) rfl rfl (.cons u_0 (.cons u_1 .nil)))<|o_n) (fun a g hst hb=>?_)
 refine wp_cond_split (hst.bool 2 rfl) (fun hc3=>?_) (fun hc3=>?_)
 ·replace H0:=Zu hc3 H0
  refine r_s (L:=[]) (T:=[⟨[],_,[],[],[4]⟩]) (F:=[.p 0 0]) (hst.pick [] rfl) hb Za
   (Qa rfl c_b<|o_n) (fun a g hst hb=>?_)
  refine wp_ret ?_
  refine Zp ?_
  obtain rfl:=Option.some.inj H0
  exact Z4 rfl hst hb (Zg (s:=4)) (hst.at 0 rfl)
 ·replace H0:=Zt hc3 H0
  refine wp_skip ?_
  refine Zq ?_
  obtain ⟨r4,h5,H0⟩:=Zd H0
  refine r_s (L:=[(2,_),(3,_)]) (T:=⟨[.o 0],_,[],[],[10]⟩ :: ⟨[.p 0 0],_,[],[0],[11]⟩ :: ⟨[.o 1],_,[],[],[12]⟩ :: ⟨[.p 2 0],_,[],[2],[13]⟩ :: ⟨[.p 1 0,.p 3 0],_,[],Lr 4,[14]⟩ :: ⟨[.p 4 0],_,[],Lr 5,[15]⟩ :: ⟨[.p 5 0,.o 0],_,[],Lr 6,[16]⟩ :: ⟨[.p 5 0,.p 6 0],_,[],Lr 7,[17]⟩ :: ⟨[.p 5 0,.o 1],_,[],Lr 6,[18]⟩ :: ⟨[.p 5 0,.p 8 0],_,[],[0,1,2,3,4,5,8],[19]⟩ :: ⟨[.p 5 0,.p 7 0,.p 9 0],_,[],Lr 10,[20]⟩ :: ⟨[.p 5 0,.p 10 0],_,[],Lr 11,[21]⟩ :: ⟨[.p 11 0],_,[],Lr 12,[4]⟩ :: []) (F:=[.p 12 0]) (hst.pick [0,1] rfl) hb Za
   (Qf rfl Zfy u_0<|Ql rfl Zc0 u_0<|Qf rfl Zfy u_0<|Ql rfl Zc0 u_0<|o_p rfl (Zl Zru (Zfz _ _ h5) rfl rfl (.cons u_0 (.cons u_1 .nil)))<|Qm rfl u_0<|o_g (Qg_t rfl (fun hG=>Zh Zd7 rfl rfl u_0))<|o_g (Qg_t rfl (fun hG=>Zs ty_9 rfl rfl (Opd.gd hG u_0)))<|o_g (Qg_t rfl (fun hG=>Zh Zd7 rfl rfl u_0))<|o_g (Qg_t rfl (fun hG=>Zs ty_9 rfl rfl (Opd.gd hG u_0)))<|o_g (Qg_t rfl (fun hG=>Zni rfl rfl (Opd.gd hG u_0) (Opd.gd hG u_1)))<|o_p rfl (Zbg rfl rfl u_0 (fun hz=>(Opd.gd hz u_1)))<|Qa rfl u_0<|o_n) (fun a g hst hb=>?_)
  refine wp_ret ?_
  obtain rfl:=Option.some.inj H0
  exact Z4 rfl hst hb (Zg (s:=4)) (hst.at 0 rfl)
theorem Zsl (a0:Int) (a1:List Zi) (a2:Int) {r:Int} (h:Zjo a0 a1 a2=some r):FnOk Tryz.prog 84 [(pInt .i64 a0),(Zz.sl.pd a1),(pInt .i64 a2)] (pInt .i64 r):=by
 have H0:=h
 unfold Zjo at H0
 clear h
 refine Zbt (N:=64) Tryz.func84 rfl rfl (Qe rfl) rfl rfl (fun a g0 hst hb=>?_)
 refine r_s (T:=[⟨[],_,[],[],[6]⟩]) (F:=[.o 0,.o 1,.o 2]) hst hb Za
  (Qa rfl c_i<|o_n) (fun a g hst hb=>?_)
 obtain ⟨e1,h2,H0⟩:=Zd H0
 refine r_s (T:=[⟨[.o 1],_,[],[],[8]⟩,⟨[.o 2],_,[],[],[9]⟩,⟨[.p 0 0,.p 1 0],_,[],[0,1],[10]⟩,⟨[.p 2 0],_,[],[0,1,2],[11]⟩,⟨[],[(7,(pBox Zz 7 (default:Zi)))],[8],[],[7]⟩,⟨[.p 3 0,.p 4 0],_,[8],Lr 5,[7]⟩]) (F:=[.o 0,.o 1,.o 2,.p 5 0]) hst hb Za
  (Qm rfl u_0<|Qm rfl u_0<|o_p rfl (Zbi Tryz.underlying36 Zfb rfl rfl u_0 u_1 h2)<|Ql rfl Zed u_0<|o_p rfl (Zbh (zs:=[.float .f64 0,.string ByteArray.empty]) (by kernel_rfl) (fun g=>Zlj g) rfl rfl)<|o_p rfl (Zb6 Zed rfl rfl u_1 u_0)<|o_n) (fun a g hst hb=>?_)
 refine wp_seq ?_
 refine r_s (T:=[⟨[.o 3],_,[],[],[12]⟩,⟨[.p 0 0],_,[],[0],[13]⟩,⟨[.p 1 0],_,[],[0,1],[14]⟩,⟨[.p 2 0],_,[],[0,1,2],[15]⟩]) (F:=[.o 0,.o 1,.o 2,.o 3,.p 3 0]) hst hb Za
  (Qf rfl Zd7 u_0<|Ql rfl ty_9 u_0<|o_p rfl (Zge Tryz.underlying9 rfl rfl u_0)<|o_p rfl (Zcv rfl rfl u_0 c_i)<|o_n) (fun a g hst hb=>?_)
 refine wp_cond_split (hst.bool 4 rfl) (fun hc3=>?_) (fun hc3=>?_)
 ·replace H0:=Zu hc3 H0
  refine r_s (L:=[]) (T:=[⟨[],_,[],[],[6]⟩]) (F:=[.p 0 0]) (hst.pick [] rfl) hb Za
   (Qa rfl c_i<|o_n) (fun a g hst hb=>?_)
  refine wp_ret ?_
  refine Zp ?_
  obtain rfl:=Option.some.inj H0
  exact Z4 rfl hst hb (Zg (s:=6)) (hst.at 0 rfl)
 ·replace H0:=Zt hc3 H0
  refine wp_skip ?_
  refine Zq ?_
  refine wp_seq ?_
  obtain ⟨r4,h5,H0⟩:=Zd H0;obtain ⟨r6,h7,H0⟩:=Zd H0
  refine r_s (L:=[(0,_),(1,_),(2,_),(7,_)]) (T:=⟨[.o 0],_,[],[],[16]⟩ :: ⟨[.p 0 0],_,[],[0],[17]⟩ :: ⟨[.p 1 0],_,[],[0,1],[18]⟩ :: ⟨[.p 2 0,.o 3],_,[],[0,1,2],[19]⟩ :: ⟨[.p 2 0,.p 3 0],_,[],Lr 4,[20]⟩ :: ⟨[.p 2 0,.p 4 0],_,[],Lr 5,[21]⟩ :: ⟨[.p 2 0,.p 5 0],_,[],Lr 6,[22]⟩ :: ⟨[.p 2 0,.p 6 0],_,[],Lr 7,[23]⟩ :: ⟨[.p 7 0],_,[],Lr 8,[24]⟩ :: ⟨[.p 8 0,.o 3],_,[],Lr 9,[25]⟩ :: ⟨[.p 8 0,.p 9 0],_,[],Lr 10,[26]⟩ :: ⟨[.p 8 0,.p 10 0],_,[],Lr 11,[27]⟩ :: ⟨[.p 8 0,.p 11 0],_,[],Lr 12,[28]⟩ :: ⟨[.p 8 0,.p 12 0],_,[],Lr 13,[29]⟩ :: []) (F:=[.o 0,.o 1,.o 2,.o 3,.p 13 0]) (hst.pick [0,1,2,3] rfl) hb Za
   (Qm rfl u_0<|o_p rfl (Zbr rfl rfl u_0 c_i)<|Qm rfl u_0<|o_g (Qg_t rfl (fun hG=>Zh Zfy rfl rfl u_0))<|o_g (Qg_t rfl (fun hG=>Zs Zc0 rfl rfl (Opd.gd hG u_0)))<|o_g (Qg_t rfl (fun hG=>Zl Z5k (Znz _ (Zbn h5 hG)) rfl rfl (.cons (Opd.gd hG u_0) .nil)))<|o_g (Qg_t rfl (fun hG=>Zfh rfl rfl (Opd.gd hG u_0)))<|o_p rfl (Zbg rfl rfl u_0 (fun hz=>(Opd.gd hz u_1)))<|Qm rfl u_0<|o_g (Qg_f rfl (fun hG=>Zh Zfy rfl rfl u_0))<|o_g (Qg_f rfl (fun hG=>Zs Zc0 rfl rfl (Opd.gd hG u_0)))<|o_g (Qg_f rfl (fun hG=>Zl Z30 (Zko _ (Zbn h7 hG)) rfl rfl (.cons (Opd.gd hG u_0) .nil)))<|o_g (Qg_f rfl (fun hG=>Zfh rfl rfl (Opd.gd hG u_0)))<|o_p rfl (Zbm rfl rfl u_0 (fun hz=>(Opd.gd (bNF hz) u_1)))<|o_n) (fun a g hst hb=>?_)
  refine wp_cond_split (hst.bool 4 rfl) (fun hc8=>?_) (fun hc8=>?_)
  ·replace H0:=Zu hc8 H0
   refine r_s (L:=[]) (T:=[⟨[],_,[],[],[6]⟩]) (F:=[.p 0 0]) (hst.pick [] rfl) hb Za
    (Qa rfl c_i<|o_n) (fun a g hst hb=>?_)
   refine wp_ret ?_
   refine Zp ?_
   obtain rfl:=Option.some.inj H0
   exact Z4 rfl hst hb (Zg (s:=6)) (hst.at 0 rfl)
  ·replace H0:=Zt hc8 H0
   refine wp_skip ?_
   refine Zq ?_
   refine wp_seq ?_
   obtain ⟨e9,h10,H0⟩:=Zd H0
   refine r_s (L:=[(0,_),(1,_),(2,_),(7,_)]) (T:=⟨[.o 2],_,[],[],[30]⟩ :: ⟨[.p 0 0],_,[],[0],[31]⟩ :: ⟨[.p 1 0],_,[],[0,1],[32]⟩ :: ⟨[.p 2 0,.o 0],_,[],[0,1,2],[33]⟩ :: ⟨[.p 2 0,.p 3 0],_,[],Lr 4,[34]⟩ :: ⟨[.p 2 0,.p 4 0],_,[],Lr 5,[35]⟩ :: ⟨[.p 5 0],_,[],Lr 6,[36]⟩ :: ⟨[.p 6 0,.o 1],_,[],Lr 7,[37]⟩ :: ⟨[.p 6 0,.o 2],_,[],Lr 7,[38]⟩ :: ⟨[.p 6 0,.p 8 0],_,[],[0,1,2,3,4,5,6,8],[39]⟩ :: ⟨[.p 6 0,.p 7 0,.p 9 0],_,[],Lr 10,[40]⟩ :: ⟨[.p 6 0,.p 10 0],_,[],Lr 11,[41]⟩ :: ⟨[.p 6 0,.p 11 0],_,[],Lr 12,[42]⟩ :: ⟨[.p 6 0,.o 3],_,[],Lr 7,[43]⟩ :: ⟨[.p 6 0,.p 13 0],_,[],[0,1,2,3,4,5,6,13],[44]⟩ :: ⟨[.p 6 0,.p 12 0,.p 14 0],_,[],Lr 15,[45]⟩ :: ⟨[.p 6 0,.p 15 0],_,[],Lr 16,[46]⟩ :: ⟨[.p 6 0,.p 16 0],_,[],Lr 17,[47]⟩ :: []) (F:=[.o 0,.o 1,.o 2,.o 3,.p 17 0]) (hst.pick [0,1,2,3] rfl) hb Za
    (Qm rfl u_0<|o_p rfl (Zcv rfl rfl u_0 c_i)<|Qm rfl u_0<|o_g (Qg_t rfl (fun hG=>Z1 rfl rfl u_0))<|o_g (Qg_t rfl (fun hG=>Zbr rfl rfl (Opd.gd hG u_0) c_i))<|o_p rfl (Zbg rfl rfl u_0 (fun hz=>(Opd.gd hz u_1)))<|Qm rfl u_0<|o_g (Qg_t rfl (fun hG=>Z1 rfl rfl u_0))<|o_g (Qg_t rfl (fun hG=>Z1 rfl rfl u_0))<|o_g (Qg_t rfl (fun hG=>Zg7 rfl rfl (Opd.gd hG u_0) c_i rfl))<|o_g (Qg_t rfl (fun hG=>Zbi Tryz.underlying36 Zfb rfl rfl (Opd.gd hG u_0) (Opd.gd hG u_1) (Zbn h10 hG)))<|o_g (Qg_t rfl (fun hG=>Zh Zd7 rfl rfl (Opd.gd hG u_0)))<|o_g (Qg_t rfl (fun hG=>Zs ty_9 rfl rfl (Opd.gd hG u_0)))<|o_g (Qg_t rfl (fun hG=>Zh Zd7 rfl rfl u_0))<|o_g (Qg_t rfl (fun hG=>Zs ty_9 rfl rfl (Opd.gd hG u_0)))<|o_g (Qg_t rfl (fun hG=>Zni rfl rfl (Opd.gd hG u_0) (Opd.gd hG u_1)))<|o_g (Qg_t rfl (fun hG=>Zfh rfl rfl (Opd.gd hG u_0)))<|o_p rfl (Zbg rfl rfl u_0 (fun hz=>(Opd.gd hz u_1)))<|o_n) (fun a g hst hb=>?_)
   refine wp_cond_split (hst.bool 4 rfl) (fun hc11=>?_) (fun hc11=>?_)
   ·replace H0:=Zu hc11 H0
    refine r_s (L:=[]) (T:=[⟨[],_,[],[],[6]⟩]) (F:=[.p 0 0]) (hst.pick [] rfl) hb Za
     (Qa rfl c_i<|o_n) (fun a g hst hb=>?_)
    refine wp_ret ?_
    refine Zp ?_
    obtain rfl:=Option.some.inj H0
    exact Z4 rfl hst hb (Zg (s:=6)) (hst.at 0 rfl)
   ·replace H0:=Zt hc11 H0
    refine wp_skip ?_
    refine Zq ?_
    refine wp_seq ?_
    obtain ⟨e12,h13,H0⟩:=Zd H0;obtain ⟨r14,h15,H0⟩:=Zd H0
    refine r_s (L:=[(0,_),(1,_),(2,_),(7,_)]) (T:=⟨[.o 2],_,[],[],[48]⟩ :: ⟨[.p 0 0],_,[],[0],[49]⟩ :: ⟨[.p 1 0],_,[],[0,1],[50]⟩ :: ⟨[.p 2 0,.o 0],_,[],[0,1,2],[51]⟩ :: ⟨[.p 2 0,.p 3 0],_,[],Lr 4,[52]⟩ :: ⟨[.p 2 0,.p 4 0],_,[],Lr 5,[53]⟩ :: ⟨[.p 5 0],_,[],Lr 6,[54]⟩ :: ⟨[.p 6 0,.o 1],_,[],Lr 7,[55]⟩ :: ⟨[.p 6 0,.o 2],_,[],Lr 7,[56]⟩ :: ⟨[.p 6 0,.p 8 0],_,[],[0,1,2,3,4,5,6,8],[57]⟩ :: ⟨[.p 6 0,.p 7 0,.p 9 0],_,[],Lr 10,[58]⟩ :: ⟨[.p 6 0,.p 10 0],_,[],Lr 11,[59]⟩ :: ⟨[.p 6 0,.o 3],_,[],Lr 7,[60]⟩ :: ⟨[.p 6 0,.p 11 0,.p 12 0],_,[],Lr 13,[61]⟩ :: ⟨[.p 6 0,.p 13 0],_,[],Lr 14,[62]⟩ :: ⟨[.p 6 0,.p 14 0],_,[],Lr 15,[63]⟩ :: []) (F:=[.p 15 0]) (hst.pick [0,1,2,3] rfl) hb Za
     (Qm rfl u_0<|o_p rfl (Zcv rfl rfl u_0 c_i)<|Qm rfl u_0<|o_g (Qg_t rfl (fun hG=>Z1 rfl rfl u_0))<|o_g (Qg_t rfl (fun hG=>Zbr rfl rfl (Opd.gd hG u_0) c_i))<|o_p rfl (Zbg rfl rfl u_0 (fun hz=>(Opd.gd hz u_1)))<|Qm rfl u_0<|o_g (Qg_t rfl (fun hG=>Z1 rfl rfl u_0))<|o_g (Qg_t rfl (fun hG=>Z1 rfl rfl u_0))<|o_g (Qg_t rfl (fun hG=>Zg7 rfl rfl (Opd.gd hG u_0) c_i rfl))<|o_g (Qg_t rfl (fun hG=>Zbi Tryz.underlying36 Zfb rfl rfl (Opd.gd hG u_0) (Opd.gd hG u_1) (Zbn h13 hG)))<|o_g (Qg_t rfl (fun hG=>Zs Zed rfl rfl (Opd.gd hG u_0)))<|o_g (Qg_t rfl (fun hG=>Zs Zed rfl rfl u_0))<|o_g (Qg_t rfl (fun hG=>Zl Z5a (Znp _ _ (Zbn h15 hG)) rfl rfl (.cons (Opd.gd hG u_0) (.cons (Opd.gd hG u_1) .nil))))<|o_g (Qg_t rfl (fun hG=>Zfh rfl rfl (Opd.gd hG u_0)))<|o_p rfl (Zbg rfl rfl u_0 (fun hz=>(Opd.gd hz u_1)))<|o_n) (fun a g hst hb=>?_)
    refine wp_cond_split (hst.bool 0 rfl) (fun hc16=>?_) (fun hc16=>?_)
    ·replace H0:=Zu hc16 H0
     refine r_s (L:=[]) (T:=[⟨[],_,[],[],[6]⟩]) (F:=[.p 0 0]) (hst.pick [] rfl) hb Za
      (Qa rfl c_i<|o_n) (fun a g hst hb=>?_)
     refine wp_ret ?_
     refine Zp ?_
     obtain rfl:=Option.some.inj H0
     exact Z4 rfl hst hb (Zg (s:=6)) (hst.at 0 rfl)
    ·replace H0:=Zt hc16 H0
     refine wp_skip ?_
     refine Zq ?_
     refine r_s (L:=[]) (T:=[⟨[],_,[],[],[6]⟩]) (F:=[.p 0 0]) (hst.pick [] rfl) hb Za
      (Qa rfl c_i<|o_n) (fun a g hst hb=>?_)
     refine wp_ret ?_
     obtain rfl:=Option.some.inj H0
     exact Z4 rfl hst hb (Zg (s:=6)) (hst.at 0 rfl)
theorem Zk8 (a0:Zb) {r:Int} (h:Zc4 a0=some r):FnOk Tryz.prog 54 [(Ze.pd a0)] (pInt .i64 r):=by
 have H0:=h
 unfold Zc4 at H0
 clear h
 refine Zbt (N:=96) Tryz.func54 rfl rfl (Qe rfl) rfl rfl (fun a g0 hst hb=>?_)
 refine r_s (T:=[⟨[.o 0],_,[],[],[1]⟩,⟨[],_,[],[],[2]⟩]) (F:=[.p 0 0]) hst hb Za
  (Qb rfl u_0<|Qa rfl c_i<|o_n) (fun a g hst hb=>?_)
 refine wp_seq ?_
 refine r_s (T:=[⟨[.o 0],_,[],[],[6]⟩,⟨[.p 0 0],_,[],[0],[7]⟩,⟨[.p 1 0],_,[],[0,1],[8]⟩,⟨[.p 2 0],_,[],[0,1,2],[9]⟩,⟨[.p 3 0,.o 0],_,[],Lr 4,[10]⟩,⟨[.p 3 0,.p 4 0],_,[],Lr 5,[11]⟩,⟨[.p 3 0,.p 5 0],_,[],Lr 6,[12]⟩,⟨[.p 3 0,.p 6 0],_,[],Lr 7,[13]⟩]) (F:=[.o 0,.p 7 0]) hst hb Za
  (Qf rfl Zgb u_0<|Ql rfl ty_3 u_0<|o_p rfl (Zca rfl rfl u_0 c_i)<|Qm rfl u_0<|o_g (Qg_f rfl (fun hG=>Zh Zgb rfl rfl u_0))<|o_g (Qg_f rfl (fun hG=>Zs ty_3 rfl rfl (Opd.gd hG u_0)))<|o_g (Qg_f rfl (fun hG=>Zcv rfl rfl (Opd.gd hG u_0) c_i))<|o_p rfl (Zbm rfl rfl u_0 (fun hz=>(Opd.gd (bNF hz) u_1)))<|o_n) (fun a g hst hb=>?_)
 refine wp_cond_split (hst.bool 1 rfl) (fun hc1=>?_) (fun hc1=>?_)
 ·replace H0:=Zu hc1 H0
  refine r_s (L:=[]) (T:=[⟨[],_,[],[],[2]⟩]) (F:=[.p 0 0]) (hst.pick [] rfl) hb Za
   (Qa rfl c_i<|o_n) (fun a g hst hb=>?_)
  refine wp_ret ?_
  refine Zp ?_
  obtain rfl:=Option.some.inj H0
  exact Z4 rfl hst hb (Zg (s:=2)) (hst.at 0 rfl)
 ·replace H0:=Zt hc1 H0
  refine wp_skip ?_
  refine Zq ?_
  refine wp_seq ?_
  obtain ⟨r2,h3,H0⟩:=Zd H0;obtain ⟨r4,h5,H0⟩:=Zd H0
  refine r_s (L:=[(1,_)]) (T:=[⟨[.o 0],_,[],[],[14]⟩,⟨[.o 0],_,[],[],[15]⟩,⟨[.p 1 0],_,[],[1],[16]⟩,⟨[.p 2 0],_,[],[1,2],[17]⟩,⟨[.p 0 0,.p 3 0],_,[],Lr 4,[18]⟩,⟨[.p 4 0],_,[],Lr 5,[19]⟩]) (F:=[.o 0,.p 5 0]) (hst.pick [0] rfl) hb Za
   (Ql rfl Zbb u_0<|Qf rfl Zgb u_0<|Ql rfl ty_3 u_0<|o_p rfl (Zl Zbdy (Zra _ h3) rfl rfl (.cons u_0 .nil))<|o_p rfl (Zl Zbdv (Zsm _ _ h5) rfl rfl (.cons u_0 (.cons u_1 .nil)))<|Qn rfl u_0<|o_n) (fun a g hst hb=>?_)
  refine wp_cond_split (hst.bool 1 rfl) (fun hc6=>?_) (fun hc6=>?_)
  ·replace H0:=Zu hc6 H0
   refine r_s (L:=[]) (T:=[⟨[],_,[],[],[2]⟩]) (F:=[.p 0 0]) (hst.pick [] rfl) hb Za
    (Qa rfl c_i<|o_n) (fun a g hst hb=>?_)
   refine wp_ret ?_
   refine Zp ?_
   obtain rfl:=Option.some.inj H0
   exact Z4 rfl hst hb (Zg (s:=2)) (hst.at 0 rfl)
  ·replace H0:=Zt hc6 H0
   refine wp_skip ?_
   refine Zq ?_
   refine wp_seq ?_
   refine r_s (L:=[(1,_)]) (T:=[⟨[.o 0],_,[],[],[20]⟩,⟨[.p 0 0],_,[],[0],[21]⟩,⟨[.p 1 0],_,[],[0,1],[22]⟩,⟨[.p 2 0],_,[],[0,1,2],[23]⟩,⟨[.p 3 0,.o 0],_,[],Lr 4,[24]⟩,⟨[.p 3 0,.p 4 0],_,[],Lr 5,[25]⟩,⟨[.p 3 0,.p 5 0],_,[],Lr 6,[26]⟩,⟨[.p 3 0,.p 6 0],_,[],Lr 7,[27]⟩,⟨[.p 3 0,.p 7 0],_,[],Lr 8,[28]⟩]) (F:=[.o 0,.p 8 0]) (hst.pick [0] rfl) hb Za
    (Qf rfl Zgb u_0<|Ql rfl ty_3 u_0<|o_p rfl (Zbr rfl rfl u_0 c_i)<|Qm rfl u_0<|o_g (Qg_t rfl (fun hG=>Zh Zjh rfl rfl u_0))<|o_g (Qg_t rfl (fun hG=>Zs ty_9 rfl rfl (Opd.gd hG u_0)))<|o_g (Qg_t rfl (fun hG=>Zge Tryz.underlying9 rfl rfl (Opd.gd hG u_0)))<|o_g (Qg_t rfl (fun hG=>Zcv rfl rfl (Opd.gd hG u_0) c_i))<|o_p rfl (Zbg rfl rfl u_0 (fun hz=>(Opd.gd hz u_1)))<|o_n) (fun a g hst hb=>?_)
   refine wp_cond_split (hst.bool 1 rfl) (fun hc7=>?_) (fun hc7=>?_)
   ·replace H0:=Zu hc7 H0
    refine r_s (L:=[]) (T:=[⟨[],_,[],[],[2]⟩]) (F:=[.p 0 0]) (hst.pick [] rfl) hb Za
     (Qa rfl c_i<|o_n) (fun a g hst hb=>?_)
    refine wp_ret ?_
    refine Zp ?_
    obtain rfl:=Option.some.inj H0
    exact Z4 rfl hst hb (Zg (s:=2)) (hst.at 0 rfl)
   ·replace H0:=Zt hc7 H0
    refine wp_skip ?_
    refine Zq ?_
    refine r_s (L:=[(1,_)]) (T:=[⟨[],_,[],[],[3]⟩]) (F:=[.o 0,.p 0 0]) (hst.pick [0] rfl) hb Za
     (Qa rfl c_i<|o_n) (fun a g hst hb=>?_)
    refine wp_seq ?_
    refine r_s (T:=⟨[.o 0],_,[],[],[29]⟩ :: ⟨[.p 0 0],_,[],[0],[30]⟩ :: ⟨[.p 1 0],_,[],[0,1],[31]⟩ :: ⟨[.p 2 0],_,[],[0,1,2],[32]⟩ :: ⟨[.p 3 0,.o 0],_,[],Lr 4,[33]⟩ :: ⟨[.p 3 0,.p 4 0],_,[],Lr 5,[34]⟩ :: ⟨[.p 3 0,.o 1],_,[],Lr 4,[35]⟩ :: ⟨[.p 3 0,.p 6 0],_,[],[0,1,2,3,6],[36]⟩ :: ⟨[.p 3 0,.p 5 0,.p 7 0],_,[],Lr 8,[37]⟩ :: ⟨[.p 3 0,.p 8 0],_,[],Lr 9,[38]⟩ :: ⟨[.p 9 0,.o 0],_,[],Lr 10,[39]⟩ :: ⟨[.p 9 0,.p 10 0],_,[],Lr 11,[40]⟩ :: ⟨[.p 9 0,.o 1],_,[],Lr 10,[41]⟩ :: ⟨[.p 9 0,.p 11 0,.p 12 0],_,[],Lr 13,[42]⟩ :: ⟨[.p 3 0,.p 9 0,.p 13 0],_,[],Lr 14,[43]⟩ :: ⟨[.p 3 0,.p 14 0],_,[],Lr 15,[44]⟩ :: ⟨[.p 15 0,.o 0],_,[],Lr 16,[45]⟩ :: ⟨[.p 15 0,.p 16 0],_,[],Lr 17,[46]⟩ :: ⟨[.p 15 0,.o 0],_,[],Lr 16,[47]⟩ :: ⟨[.p 15 0,.p 18 0],_,[],0 :: 1 :: 2 :: 3 :: 4 :: 5 :: 6 :: 7 :: 8 :: 9 :: 10 :: 11 :: 12 :: 13 :: 14 :: 15 :: 18 :: [],[48]⟩ :: ⟨[.p 15 0,.p 17 0,.p 19 0],_,[],Lr 20,[49]⟩ :: ⟨[.p 3 0,.p 15 0,.p 20 0],_,[],Lr 21,[50]⟩ :: ⟨[.p 3 0,.p 21 0],_,[],Lr 22,[51]⟩ :: ⟨[.p 22 0,.o 0],_,[],Lr 23,[52]⟩ :: ⟨[.p 22 0,.p 23 0],_,[],Lr 24,[53]⟩ :: ⟨[.p 22 0,.o 0],_,[],Lr 23,[54]⟩ :: ⟨[.p 22 0,.p 25 0],_,[],0 :: 1 :: 2 :: 3 :: 4 :: 5 :: 6 :: 7 :: 8 :: 9 :: 10 :: 11 :: 12 :: 13 :: 14 :: 15 :: 16 :: 17 :: 18 :: 19 :: 20 :: 21 :: 22 :: 25 :: [],[55]⟩ :: ⟨[.p 22 0,.p 24 0,.p 26 0],_,[],Lr 27,[56]⟩ :: ⟨[.p 3 0,.p 22 0,.p 27 0],_,[],Lr 28,[57]⟩ :: ⟨[.p 3 0,.p 28 0],_,[],Lr 29,[58]⟩ :: []) (F:=[.o 0,.p 29 0]) hst hb Za
     (Qf rfl Zgb u_0<|Ql rfl ty_3 u_0<|o_p rfl (Zbr rfl rfl u_0 c_i)<|Qm rfl u_0<|o_g (Qg_t rfl (fun hG=>Zh Zjv rfl rfl u_0))<|o_g (Qg_t rfl (fun hG=>Zs ty_2 rfl rfl (Opd.gd hG u_0)))<|o_g (Qg_t rfl (fun hG=>Z1 rfl rfl u_0))<|o_g (Qg_t rfl (fun hG=>Zba2 rfl rfl (Opd.gd hG u_0) rfl))<|o_g (Qg_t rfl (fun hG=>Zca rfl rfl (Opd.gd hG u_0) (Opd.gd hG u_1)))<|o_g (Qg_t rfl (fun hG=>Z1 rfl rfl (Opd.gd hG u_0)))<|o_g (Qg_fi rfl (fun hG=>Zh Zjw rfl rfl u_0))<|o_g (Qg_fi rfl (fun hG=>Zs ty_2 rfl rfl (Opd.gd hG u_0)))<|o_g (Qg_fi rfl (fun hG=>Z1 rfl rfl u_0))<|o_g (Qg_fi rfl (fun hG=>Zcv rfl rfl (Opd.gd hG u_0) (Opd.gd hG u_1)))<|o_g (Qg_t rfl (fun hG=>Zbm rfl rfl (Opd.gd hG u_0) (fun hz=>(Opd.gd (bA hG (bNF hz)) u_1))))<|o_g (Qg_t rfl (fun hG=>Z1 rfl rfl (Opd.gd hG u_0)))<|o_g (Qg_fi rfl (fun hG=>Zh Zc2 rfl rfl u_0))<|o_g (Qg_fi rfl (fun hG=>Zs ty_2 rfl rfl (Opd.gd hG u_0)))<|o_g (Qg_fi rfl (fun hG=>Zh Zjv rfl rfl u_0))<|o_g (Qg_fi rfl (fun hG=>Zs ty_2 rfl rfl (Opd.gd hG u_0)))<|o_g (Qg_fi rfl (fun hG=>Zca rfl rfl (Opd.gd hG u_0) (Opd.gd hG u_1)))<|o_g (Qg_t rfl (fun hG=>Zbm rfl rfl (Opd.gd hG u_0) (fun hz=>(Opd.gd (bA hG (bNF hz)) u_1))))<|o_g (Qg_t rfl (fun hG=>Z1 rfl rfl (Opd.gd hG u_0)))<|o_g (Qg_fi rfl (fun hG=>Zh Zc2 rfl rfl u_0))<|o_g (Qg_fi rfl (fun hG=>Zs ty_2 rfl rfl (Opd.gd hG u_0)))<|o_g (Qg_fi rfl (fun hG=>Zh Zjw rfl rfl u_0))<|o_g (Qg_fi rfl (fun hG=>Zs ty_2 rfl rfl (Opd.gd hG u_0)))<|o_g (Qg_fi rfl (fun hG=>Zcv rfl rfl (Opd.gd hG u_0) (Opd.gd hG u_1)))<|o_g (Qg_t rfl (fun hG=>Zbm rfl rfl (Opd.gd hG u_0) (fun hz=>(Opd.gd (bA hG (bNF hz)) u_1))))<|o_p rfl (Zbg rfl rfl u_0 (fun hz=>(Opd.gd hz u_1)))<|o_n) (fun a g hst hb=>?_)
    refine wp_cond_split (hst.bool 1 rfl) (fun hc8=>?_) (fun hc8=>?_)
    ·replace H0:=Zu hc8 H0
     refine r_s (L:=[]) (T:=[⟨[],_,[],[],[2]⟩]) (F:=[.p 0 0]) (hst.pick [] rfl) hb Za
      (Qa rfl c_i<|o_n) (fun a g hst hb=>?_)
     refine wp_ret ?_
     refine Zp ?_
     obtain rfl:=Option.some.inj H0
     exact Z4 rfl hst hb (Zg (s:=2)) (hst.at 0 rfl)
    ·replace H0:=Zt hc8 H0
     refine wp_skip ?_
     refine Zq ?_
     refine wp_seq ?_
     obtain ⟨r9,h10,H0⟩:=Zd H0
     refine r_s (L:=[(1,_)]) (T:=[⟨[.o 0],_,[],[],[59]⟩,⟨[.p 0 0],_,[],[0],[60]⟩,⟨[.p 1 0],_,[],[0,1],[61]⟩,⟨[.p 2 0],_,[],[0,1,2],[62]⟩]) (F:=[.o 0,.p 3 0]) (hst.pick [0] rfl) hb Za
      (Qf rfl Zgi u_0<|Ql rfl Zc0 u_0<|o_p rfl (Zl Z30 (Zko _ h10) rfl rfl (.cons u_0 .nil))<|Qn rfl u_0<|o_n) (fun a g hst hb=>?_)
     refine wp_cond_split (hst.bool 1 rfl) (fun hc11=>?_) (fun hc11=>?_)
     ·replace H0:=Zu hc11 H0
      refine r_s (L:=[]) (T:=[⟨[],_,[],[],[2]⟩]) (F:=[.p 0 0]) (hst.pick [] rfl) hb Za
       (Qa rfl c_i<|o_n) (fun a g hst hb=>?_)
      refine wp_ret ?_
      refine Zp ?_
      obtain rfl:=Option.some.inj H0
      exact Z4 rfl hst hb (Zg (s:=2)) (hst.at 0 rfl)
     ·replace H0:=Zt hc11 H0
      refine wp_skip ?_
      refine Zq ?_
      refine wp_seq ?_
      refine r_s (L:=[(1,_)]) (T:=[⟨[.o 0],_,[],[],[63]⟩,⟨[.p 0 0],_,[],[0],[64]⟩,⟨[.p 1 0],_,[],[0,1],[65]⟩]) (F:=[.o 0,.p 2 0]) (hst.pick [0] rfl) hb Za
       (Qf rfl Zgb u_0<|Ql rfl ty_3 u_0<|o_p rfl (Zca rfl rfl u_0 c_i)<|o_n) (fun a g hst hb=>?_)
      refine wp_cond_split (hst.bool 1 rfl) (fun hc12=>?_) (fun hc12=>?_)
      ·replace H0:=Zu hc12 H0
       refine r_s (L:=[]) (T:=[⟨[],_,[],[],[2]⟩]) (F:=[.p 0 0]) (hst.pick [] rfl) hb Za
        (Qa rfl c_i<|o_n) (fun a g hst hb=>?_)
       refine wp_ret ?_
       refine Zp ?_
       obtain rfl:=Option.some.inj H0
       exact Z4 rfl hst hb (Zg (s:=2)) (hst.at 0 rfl)
      ·replace H0:=Zt hc12 H0
       refine wp_skip ?_
       refine Zq ?_
       refine wp_seq ?_
       refine r_s (L:=[(1,_)]) (T:=[⟨[.o 0],_,[],[],[66]⟩,⟨[.p 0 0],_,[],[0],[67]⟩,⟨[.p 1 0],_,[],[0,1],[68]⟩,⟨[.p 2 0],_,[],[0,1,2],[69]⟩,⟨[.p 3 0,.o 0],_,[],Lr 4,[70]⟩,⟨[.p 3 0,.p 4 0],_,[],Lr 5,[71]⟩,⟨[.p 3 0,.p 5 0],_,[],Lr 6,[72]⟩,⟨[.p 3 0,.p 6 0],_,[],Lr 7,[73]⟩]) (F:=[.o 0,.p 7 0]) (hst.pick [0] rfl) hb Za
        (Qf rfl Zg8 u_0<|Ql rfl ty_3 u_0<|o_p rfl (Zca rfl rfl u_0 c_i)<|Qm rfl u_0<|o_g (Qg_f rfl (fun hG=>Zh Zg8 rfl rfl u_0))<|o_g (Qg_f rfl (fun hG=>Zs ty_3 rfl rfl (Opd.gd hG u_0)))<|o_g (Qg_f rfl (fun hG=>Zcv rfl rfl (Opd.gd hG u_0) c_i))<|o_p rfl (Zbm rfl rfl u_0 (fun hz=>(Opd.gd (bNF hz) u_1)))<|o_n) (fun a g hst hb=>?_)
       refine wp_cond_split (hst.bool 1 rfl) (fun hc13=>?_) (fun hc13=>?_)
       ·replace H0:=Zu hc13 H0
        refine r_s (L:=[]) (T:=[⟨[],_,[],[],[2]⟩]) (F:=[.p 0 0]) (hst.pick [] rfl) hb Za
         (Qa rfl c_i<|o_n) (fun a g hst hb=>?_)
        refine wp_ret ?_
        refine Zp ?_
        obtain rfl:=Option.some.inj H0
        exact Z4 rfl hst hb (Zg (s:=2)) (hst.at 0 rfl)
       ·replace H0:=Zt hc13 H0
        refine wp_skip ?_
        refine Zq ?_
        refine wp_seq ?_
        refine r_s (L:=[(1,_)]) (T:=[⟨[.o 0],_,[],[],[74]⟩,⟨[.p 0 0],_,[],[0],[75]⟩,⟨[.p 1 0],_,[],[0,1],[76]⟩,⟨[.o 0],_,[],[],[77]⟩,⟨[.p 3 0],_,[],[3],[78]⟩,⟨[.p 2 0,.p 4 0],_,[],Lr 5,[79]⟩]) (F:=[.o 0,.p 5 0]) (hst.pick [0] rfl) hb Za
         (Qf rfl Zcc u_0<|Ql rfl Zdc u_0<|o_p rfl (Zbv Tryz.underlying36 rfl rfl u_0)<|Qf rfl Zg8 u_0<|Ql rfl ty_3 u_0<|o_p rfl (Zcv rfl rfl u_0 u_1)<|o_n) (fun a g hst hb=>?_)
        refine wp_cond_split (hst.bool 1 rfl) (fun hc14=>?_) (fun hc14=>?_)
        ·replace H0:=Zu hc14 H0
         refine r_s (L:=[]) (T:=[⟨[],_,[],[],[2]⟩]) (F:=[.p 0 0]) (hst.pick [] rfl) hb Za
          (Qa rfl c_i<|o_n) (fun a g hst hb=>?_)
         refine wp_ret ?_
         refine Zp ?_
         obtain rfl:=Option.some.inj H0
         exact Z4 rfl hst hb (Zg (s:=2)) (hst.at 0 rfl)
        ·replace H0:=Zt hc14 H0
         refine wp_skip ?_
         refine Zq ?_
         refine wp_seq ?_
         refine r_s (L:=[(1,_)]) (T:=[⟨[],_,[],[],[4]⟩]) (F:=[.o 0,.p 0 0]) (hst.pick [0] rfl) hb Za
          (Qa rfl c_i<|o_n) (fun a g hst hb=>?_)
         obtain ⟨z20,hz1,H0⟩:=Zd H0
         refine Zb3 (fun a w=>∃ (g:G),w=g.w ∧ St 96 [] a g ∧ Base g0 g ∧ (.inr ())=z20) ?_ ?_
         ·rintro a w ⟨g,rfl,hst,hb,rfl⟩
          refine Zq ?_
          refine r_s (T:=[⟨[],_,[],[],[2]⟩]) (F:=[.p 0 0]) hst hb Za
           (Qa rfl c_i<|o_n) (fun a g hst hb=>?_)
          refine wp_ret ?_
          obtain rfl:=Option.some.inj H0
          exact Z4 rfl hst hb (Zg (s:=2)) (hst.at 0 rfl)
         ·refine wp_block ?_
          refine wp_loop_ghost (fun n a w=>∃ (x15:Int) (g:G),w=g.w ∧ St 96 [(1,(Ze.ptr a0)),(4,(pInt .i64 x15))] a g ∧ Base g0 g ∧ Zen a0 n x15=some z20) (Int.toNat ((a0.List.length:Int) - (0:Int)) + 1) ⟨(0:Int),g,rfl,(hst.pick [0,1] rfl),hb,hz1⟩ (fun n a w hI=>?_)
          obtain ⟨x15,g,rfl,hst,hb,H1⟩:=hI
          cases n with
          | zero=>exact absurd H1 (by simp [Zen])
          | succ n =>
           rw [Zen] at H1
           refine wp_seq ?_
           refine r_s (T:=[⟨[.o 1],_,[],[],[80]⟩,⟨[.o 0],_,[],[],[81]⟩,⟨[.p 1 0],_,[],[1],[82]⟩,⟨[.p 2 0],_,[],[1,2],[83]⟩,⟨[.p 0 0,.p 3 0],_,[],Lr 4,[84]⟩]) (F:=[.o 0,.o 1,.p 4 0]) hst hb Za
            (Qm rfl u_0<|Qf rfl Zcc u_0<|Ql rfl Zdc u_0<|o_p rfl (Zbv Tryz.underlying36 rfl rfl u_0)<|o_p rfl (Zca rfl rfl u_0 u_1)<|o_n) (fun a g hst hb=>?_)
           refine wp_cond_split (hst.bool 2 rfl) (fun hc16=>?_) (fun hc16=>?_)
           ·replace H1:=Zu hc16 H1
            refine wp_skip ?_
            refine Zq ?_
            refine wp_seq ?_
            refine wp_block ?_
            obtain ⟨r17,h18,H1⟩:=Zd H1
            refine r_s (L:=[(1,_),(4,_)]) (T:=[⟨[.o 0],_,[],[],[87]⟩,⟨[.p 0 0],_,[],[0],[88]⟩,⟨[.o 0],_,[],[],[89]⟩,⟨[.p 2 0],_,[],[2],[90]⟩,⟨[.o 1],_,[],[],[91]⟩,⟨[.p 1 0,.p 3 0,.p 4 0],_,[],Lr 5,[92]⟩,⟨[.p 5 0],_,[],Lr 6,[5]⟩]) (F:=[.o 0,.o 1,.p 6 0]) (hst.pick [0,1] rfl) hb Za
             (Qf rfl Zgb u_0<|Ql rfl ty_3 u_0<|Qf rfl Zcc u_0<|Ql rfl Zdc u_0<|Qm rfl u_0<|o_p rfl (Zl Zbd7 (Zsl _ _ _ h18) rfl rfl (.cons u_0 (.cons u_1 (.cons u_2 .nil))))<|Qa rfl u_0<|o_n) (fun a g hst hb=>?_)
            refine r_s (T:=[⟨[.o 2],_,[],[],[93]⟩,⟨[.p 0 0],_,[],[0],[94]⟩]) (F:=[.o 0,.o 1,.o 2,.p 1 0]) hst hb Za
             (Qm rfl u_0<|o_p rfl (Zcz rfl rfl u_0 c_i)<|o_n) (fun a g hst hb=>?_)
            refine wp_cond_split (hst.bool 3 rfl) (fun hc19=>?_) (fun hc19=>?_)
            ·replace H1:=Zu hc19 H1
             refine r_s (L:=[(5,_)]) (T:=[⟨[.o 0],_,[],[],[95]⟩,⟨[.p 0 0],_,[],[0],[2]⟩]) (F:=[.p 1 0]) (hst.pick [2] rfl) hb Za
              (Qm rfl u_0<|Qa rfl u_0<|o_n) (fun a g hst hb=>?_)
             refine wp_ret ?_
             refine Z5 ?_
             refine Zp ?_
             refine Zp ?_
             refine Z5 ?_
             refine Zp ?_
             refine Zp ?_
             obtain rfl:=Option.some.inj H1
             obtain rfl:=Option.some.inj H0
             exact Z4 rfl hst hb (Zg (s:=2)) (hst.at 0 rfl)
            ·replace H1:=Zt hc19 H1
             refine wp_skip ?_
             refine Zbc ?_
             refine Zq ?_
             refine r_g (L:=[(1,_),(4,_)]) (T:=[⟨[.o 1],_,[],[],[85]⟩,⟨[.p 0 0],_,[],[0],[86]⟩,⟨[.p 1 0],_,[],[0,1],[4]⟩]) (F:=[.o 0,.p 2 0]) (hst.pick [0,1] rfl) hb Za
              (Qm rfl u_0<|o_p rfl (Zbz rfl rfl u_0 c_i rfl)<|Qa rfl u_0<|o_n) (fun a g hst hb=>?_)
             exact ⟨n,Nat.lt_succ_self _,(IntKind.i64.wrap (x15 + (1:Int))),g,rfl,(hst.pick [0,1] rfl),hb,H1⟩
           ·replace H1:=Zt hc16 H1
            refine wp_exit ?_
            refine Zby ?_
            refine Zby ?_
            refine Zce ?_
            exact ⟨g,rfl,(hst.pick [] rfl),hb,Option.some.inj H1⟩
theorem Zja (a0:Zf) (a1:ByteArray) {r:Int} (h:Zes a0 a1=some r):FnOk Tryz.prog 55 [(Z9.pd a0),(pStr a1)] (pInt .i64 r):=by
 have H0:=h
 unfold Zes at H0
 clear h
 refine Zbt (N:=24) Tryz.func55 rfl rfl (Qe rfl) rfl rfl (fun a g0 hst hb=>?_)
 refine r_s (T:=[⟨[.o 0],_,[],[],[2]⟩,⟨[],_,[],[],[4]⟩]) (F:=[.o 1,.p 0 0]) hst hb Za
  (Qb rfl u_0<|Qa rfl c_i<|o_n) (fun a g hst hb=>?_)
 refine r_s (T:=[⟨[],_,[],[],[5]⟩]) (F:=[.o 0,.o 1,.p 0 0]) hst hb Za
  (Qa rfl c_i<|o_n) (fun a g hst hb=>?_)
 obtain ⟨z6,hz1,H0⟩:=Zd H0
 refine wp_seq ?_
 refine Zb3 (fun a w=>∃ (y5:Int) (g:G),w=g.w ∧ St 24 [(5,(pInt .i64 y5))] a g ∧ Base g0 g ∧ y5=z6) ?_ ?_
 ·rintro a w ⟨y5,g,rfl,hst,hb,rfl⟩
  refine Zq ?_
  refine r_s (T:=[⟨[.o 0],_,[],[],[23]⟩,⟨[.p 0 0],_,[],[0],[4]⟩]) (F:=[.p 1 0]) hst hb Za
   (Qm rfl u_0<|Qa rfl u_0<|o_n) (fun a g hst hb=>?_)
  refine wp_ret ?_
  obtain rfl:=Option.some.inj H0
  exact Z4 rfl hst hb (Zg (s:=4)) (hst.at 0 rfl)
 ·refine wp_block ?_
  refine wp_loop_ghost (fun n a w=>∃ (x1:Int) (g:G),w=g.w ∧ St 24 [(1,(pStr a1)),(2,(Z9.ptr a0)),(5,(pInt .i64 x1))] a g ∧ Base g0 g ∧ Zdj a0 a1 n x1=some z6) (Int.toNat ((a0.L.length:Int) - (0:Int)) + 1) ⟨(0:Int),g,rfl,(hst.pick [0,1,2] rfl),hb,hz1⟩ (fun n a w hI=>?_)
  obtain ⟨x1,g,rfl,hst,hb,H1⟩:=hI
  cases n with
  | zero=>exact absurd H1 (by simp [Zdj])
  | succ n =>
   rw [Zdj] at H1
   refine wp_seq ?_
   obtain ⟨e2,h3,H1⟩:=Zd H1
   refine r_s (T:=⟨[.o 2],_,[],[],[6]⟩ :: ⟨[.o 1],_,[],[],[7]⟩ :: ⟨[.p 1 0],_,[],[1],[8]⟩ :: ⟨[.p 2 0],_,[],[1,2],[9]⟩ :: ⟨[.p 0 0,.p 3 0],_,[],Lr 4,[10]⟩ :: ⟨[.p 4 0],_,[],Lr 5,[11]⟩ :: ⟨[.p 5 0,.o 1],_,[],Lr 6,[12]⟩ :: ⟨[.p 5 0,.p 6 0],_,[],Lr 7,[13]⟩ :: ⟨[.p 5 0,.o 2],_,[],Lr 6,[14]⟩ :: ⟨[.p 5 0,.p 7 0,.p 8 0],_,[],Lr 9,[15]⟩ :: ⟨[.p 5 0,.p 9 0],_,[],Lr 10,[16]⟩ :: ⟨[.p 5 0,.p 10 0],_,[],Lr 11,[17]⟩ :: ⟨[.p 5 0,.o 0],_,[],Lr 6,[18]⟩ :: ⟨[.p 5 0,.p 11 0,.p 12 0],_,[],Lr 13,[19]⟩ :: ⟨[.p 5 0,.p 13 0],_,[],Lr 14,[20]⟩ :: []) (F:=[.o 0,.o 1,.o 2,.p 14 0]) hst hb Za
    (Qm rfl u_0<|Qf rfl Zg5 u_0<|Ql rfl Zj2 u_0<|o_p rfl (Zbv Tryz.underlying22 rfl rfl u_0)<|o_p rfl (Zca rfl rfl u_0 u_1)<|Qm rfl u_0<|o_g (Qg_t rfl (fun hG=>Zh Zg5 rfl rfl u_0))<|o_g (Qg_t rfl (fun hG=>Zs Zj2 rfl rfl (Opd.gd hG u_0)))<|o_g (Qg_t rfl (fun hG=>Z1 rfl rfl u_0))<|o_g (Qg_t rfl (fun hG=>Zbi Tryz.underlying22 Znf rfl rfl (Opd.gd hG u_0) (Opd.gd hG u_1) (Zbn h3 hG)))<|o_g (Qg_t rfl (fun hG=>Zh Znd rfl rfl (Opd.gd hG u_0)))<|o_g (Qg_t rfl (fun hG=>Zs ty_9 rfl rfl (Opd.gd hG u_0)))<|o_g (Qg_t rfl (fun hG=>Z1 rfl rfl u_0))<|o_g (Qg_t rfl (fun hG=>Zni rfl rfl (Opd.gd hG u_0) (Opd.gd hG u_1)))<|o_p rfl (Zbg rfl rfl u_0 (fun hz=>(Opd.gd hz u_1)))<|o_n) (fun a g hst hb=>?_)
   refine wp_cond_split (hst.bool 3 rfl) (fun hc4=>?_) (fun hc4=>?_)
   ·replace H1:=Zu hc4 H1
    refine wp_skip ?_
    refine Zq ?_
    refine wp_block ?_
    refine r_g (L:=[(1,_),(2,_),(5,_)]) (T:=[⟨[.o 2],_,[],[],[21]⟩,⟨[.p 0 0],_,[],[0],[22]⟩,⟨[.p 1 0],_,[],[0,1],[5]⟩]) (F:=[.o 0,.o 1,.p 2 0]) (hst.pick [0,1,2] rfl) hb Za
     (Qm rfl u_0<|o_p rfl (Zbz rfl rfl u_0 c_i rfl)<|Qa rfl u_0<|o_n) (fun a g hst hb=>?_)
    refine Zbc ?_
    exact ⟨n,Nat.lt_succ_self _,(IntKind.i64.wrap (x1 + (1:Int))),g,rfl,(hst.pick [0,1,2] rfl),hb,H1⟩
   ·replace H1:=Zt hc4 H1
    refine wp_exit ?_
    refine Zby ?_
    refine Zby ?_
    refine Zce ?_
    exact ⟨x1,g,rfl,(hst.pick [2] rfl),hb,Option.some.inj H1⟩
end Go.CL
