/- A part of the proof of HandApart. -/
import Derived.Test.YtlanlccmokaajaaGreatDoorHandApartC4
set_option linter.unusedVariables false
set_option linter.unusedSimpArgs false
set_option maxRecDepth 100000
namespace Go.CL
open Go Go.RowKit Go.Proofs
theorem Zle (h:Nat) (he:Zm Tryz.prog h) (ψ:Nat → Nat → Option Nat) (hψ:∀ x y z,ψ x y=some z → FnOk Tryz.prog h [pFlt x,pFlt y] (pFlt z)) (a0:Zb) (a1:Zn) (a2:Zd) {z:Nat} (hz:ψ a0.Real a1.X=some z):FnB Tryz.prog 135 [.box Ze a0 { a0 with Real:=z },.val (Z0.pd a1),.box Zj a2 a2,.val (Kd.fnc.ptr h)] (pInt .i64 0):=by
 refine Zlc (N:=19) Tryz.func135 rfl rfl (Qe rfl) rfl rfl (fun a g0 bs hbs hst hb=>?_)
 obtain ⟨b0,b2,rfl⟩:=Zmy hbs
 replace hst:St 19 [(0,(Zch (some b0) Ze 0 a0)),(1,(Z0.pd a1)),(2,(Zch (some b2) Zj 2 a2)),(3,(Kd.fnc.ptr h))] _ _:=hst
 refine r_s (T:=[⟨[.o 1],_,[],[],[5]⟩,⟨[],_,[],[],[7]⟩]) (F:=[.o 0,.o 2,.o 3,.p 0 0]) hst hb Za
  (Qb rfl u_0<|Qa rfl c_i<|o_n) (fun a g hst hb=>?_)
 refine r_s (T:=[⟨[.o 0],_,[],[],[8]⟩,⟨[.o 2],_,[],[],[9]⟩,⟨[.o 0],_,[],[],[10]⟩,⟨[.p 2 0],_,[],[2],[11]⟩,⟨[.p 3 0],_,[],[2,3],[12]⟩,⟨[.p 4 0],_,[],[2,3,4],[13]⟩,⟨[.o 3],_,[],[],[14]⟩,⟨[.p 6 0],_,[],[6],[15]⟩,⟨[.p 1 0,.p 5 0,.p 7 0],[(16,(pFlt z))],[],[1,2,3,4,5,6,7],[16]⟩,⟨[.p 0 0],_,[],[0,1,2,3,4,5,6,7,8],[17]⟩,⟨[.p 9 0],_,[],[0,1,2,3,4,5,6,7,8,9],[18]⟩,⟨[.p 8 0,.p 10 0,.o 0],_,[1],[0,1,2,3,4,5,6,7,8,9,10],[0,8,10,11,12,17,18]⟩]) (F:=[.p 11 0,.o 1]) hst hb Za
  (Qm rfl u_0<|Ql rfl Zbbs u_0<|Qm rfl u_0<|o_p rfl (Zq rfl rfl u_0 (fun _ _ ⟨_,_,_,e,_⟩=>⟨_,e⟩))<|o_p rfl (Zr Zgl (off:=4) (by kernel_rfl) rfl rfl u_0)<|QP rfl Zc6 u_0<|Qf rfl Zkc u_0<|Ql rfl Zc6 u_0<|o_p rfl (Zqf (C:=[]) (hC:=rfl) he (hψ _ _ _ hz) rfl rfl (Opd.imp u_0 (fun _ _ h=>Zba3 h)) (.cons u_1 (.cons u_2 .nil)))<|o_p rfl (Zq rfl rfl u_0 (fun _ _ ⟨_,_,_,e,_⟩=>⟨_,e⟩))<|o_p rfl (Zr Zgl (off:=4) (by kernel_rfl) rfl rfl u_0)<|o_p rfl (Zp9 Zc6 rfl rfl u_2 u_1 u_0)<|o_n) (fun a g hst hb=>?_)
 refine r_s (T:=[⟨[],_,[],[],[7]⟩]) (F:=[.o 0,.o 1,.p 0 0]) hst hb Za
  (Qa rfl c_i<|o_n) (fun a g hst hb=>?_)
 refine wp_ret ?_
 exact Zi9 rfl hst hb (Zg (s:=7)) (hst.at 2 rfl) ⟨Zc5 (hst.at 0 rfl),Zc5 (hst.at 1 rfl),trivial⟩
theorem Zmn (h:Nat):FnOk Tryz.prog 120 [(Kd.fnc.pd h)] (pClo 135 [(Kd.fnc.ptr h)] rfl):=by
 refine Zbs (N:=4) Tryz.func120 rfl rfl (Qe rfl) rfl rfl (fun a g0 hst hb=>?_)
 refine r_s (T:=[⟨[.o 0],_,[],[],[1]⟩,⟨[],[],[],[],[2]⟩]) (F:=[.p 0 0]) hst hb Za
  (Qb rfl u_0<|o_p rfl (Z2i (.inr rfl))<|o_n) (fun a g hst hb=>?_)
 refine r_s (T:=[⟨[.o 0],[(3,(pClo 135 [(Kd.fnc.ptr h)] rfl))],[],[],[3]⟩,⟨[.p 0 0],_,[],[0],[2]⟩]) (F:=[.p 1 0]) hst hb Za
  (o_p rfl (Z3a rfl rfl (.cons u_0 .nil))<|Qa rfl u_0<|o_n) (fun a g hst hb=>?_)
 refine wp_ret ?_
 exact Z4 rfl hst hb (Zg (s:=2)) (hst.at 0 rfl)
theorem Z5x (a0:Nat) (a1:Nat) {r:Nat} (h:Zl3 a0 a1=some r):FnOk Tryz.prog 121 [(pFlt a0),(pFlt a1)] (pFlt r):=by
 have H0:=h
 unfold Zl3 at H0
 clear h
 refine Zbs (N:=12) Tryz.func121 rfl rfl (Qe rfl) rfl rfl (fun a g0 hst hb=>?_)
 refine r_s (T:=[⟨[],_,[],[],[4]⟩]) (F:=[.o 0,.o 1]) hst hb Za
  (Qa rfl c_f<|o_n) (fun a g hst hb=>?_)
 refine wp_seq ?_
 obtain ⟨r1,h2,H0⟩:=Zc H0
 refine r_s (T:=[⟨[.o 0],_,[],[],[5]⟩,⟨[.o 1],_,[],[],[6]⟩,⟨[.p 0 0,.p 1 0],_,[],[0,1],[7]⟩]) (F:=[.o 0,.o 1,.p 2 0]) hst hb Za
  (Qm rfl u_0<|Qm rfl u_0<|o_p rfl (Zl Z22 (Zrk _ _ h2) rfl rfl (.cons u_0 (.cons u_1 .nil)))<|o_n) (fun a g hst hb=>?_)
 refine wp_cond_split (hst.bool 2 rfl) (fun hc3=>?_) (fun hc3=>?_)
 ·replace H0:=Zu hc3 H0
  obtain ⟨r4,h5,H0⟩:=Zc H0
  refine r_s (L:=[(1,_)]) (T:=[⟨[.o 0],_,[],[],[8]⟩,⟨[.p 0 0],_,[],[0],[9]⟩,⟨[.p 1 0],_,[],[0,1],[4]⟩]) (F:=[.p 2 0]) (hst.pick [1] rfl) hb Za
   (Qm rfl u_0<|o_p rfl (Zl Zpf (Zi0 _ h5) rfl rfl (.cons u_0 .nil))<|Qa rfl u_0<|o_n) (fun a g hst hb=>?_)
  refine wp_ret ?_
  refine Zo ?_
  obtain rfl:=Option.some.inj H0
  exact Z4 rfl hst hb (Zg (s:=4)) (hst.at 0 rfl)
 ·replace H0:=Zt hc3 H0
  refine wp_skip ?_
  refine Zp ?_
  obtain ⟨r6,h7,H0⟩:=Zc H0
  refine r_s (L:=[(0,_)]) (T:=[⟨[.o 0],_,[],[],[10]⟩,⟨[.p 0 0],_,[],[0],[11]⟩,⟨[.p 1 0],_,[],[0,1],[4]⟩]) (F:=[.p 2 0]) (hst.pick [0] rfl) hb Za
   (Qm rfl u_0<|o_p rfl (Zl Zpf (Zi0 _ h7) rfl rfl (.cons u_0 .nil))<|Qa rfl u_0<|o_n) (fun a g hst hb=>?_)
  refine wp_ret ?_
  obtain rfl:=Option.some.inj H0
  exact Z4 rfl hst hb (Zg (s:=4)) (hst.at 0 rfl)
theorem Z5z (a0:Nat) (a1:Nat) {r:Nat} (h:Zl2 a0 a1=some r):FnOk Tryz.prog 122 [(pFlt a0),(pFlt a1)] (pFlt r):=by
 have H0:=h
 unfold Zl2 at H0
 clear h
 refine Zbs (N:=12) Tryz.func122 rfl rfl (Qe rfl) rfl rfl (fun a g0 hst hb=>?_)
 refine r_s (T:=[⟨[],_,[],[],[4]⟩]) (F:=[.o 0,.o 1]) hst hb Za
  (Qa rfl c_f<|o_n) (fun a g hst hb=>?_)
 refine wp_seq ?_
 obtain ⟨r1,h2,H0⟩:=Zc H0
 refine r_s (T:=[⟨[.o 1],_,[],[],[5]⟩,⟨[.o 0],_,[],[],[6]⟩,⟨[.p 0 0,.p 1 0],_,[],[0,1],[7]⟩]) (F:=[.o 0,.o 1,.p 2 0]) hst hb Za
  (Qm rfl u_0<|Qm rfl u_0<|o_p rfl (Zl Z22 (Zrk _ _ h2) rfl rfl (.cons u_0 (.cons u_1 .nil)))<|o_n) (fun a g hst hb=>?_)
 refine wp_cond_split (hst.bool 2 rfl) (fun hc3=>?_) (fun hc3=>?_)
 ·replace H0:=Zu hc3 H0
  obtain ⟨r4,h5,H0⟩:=Zc H0
  refine r_s (L:=[(1,_)]) (T:=[⟨[.o 0],_,[],[],[8]⟩,⟨[.p 0 0],_,[],[0],[9]⟩,⟨[.p 1 0],_,[],[0,1],[4]⟩]) (F:=[.p 2 0]) (hst.pick [1] rfl) hb Za
   (Qm rfl u_0<|o_p rfl (Zl Zpf (Zi0 _ h5) rfl rfl (.cons u_0 .nil))<|Qa rfl u_0<|o_n) (fun a g hst hb=>?_)
  refine wp_ret ?_
  refine Zo ?_
  obtain rfl:=Option.some.inj H0
  exact Z4 rfl hst hb (Zg (s:=4)) (hst.at 0 rfl)
 ·replace H0:=Zt hc3 H0
  refine wp_skip ?_
  refine Zp ?_
  obtain ⟨r6,h7,H0⟩:=Zc H0
  refine r_s (L:=[(0,_)]) (T:=[⟨[.o 0],_,[],[],[10]⟩,⟨[.p 0 0],_,[],[0],[11]⟩,⟨[.p 1 0],_,[],[0,1],[4]⟩]) (F:=[.p 2 0]) (hst.pick [0] rfl) hb Za
   (Qm rfl u_0<|o_p rfl (Zl Zpf (Zi0 _ h7) rfl rfl (.cons u_0 .nil))<|Qa rfl u_0<|o_n) (fun a g hst hb=>?_)
  refine wp_ret ?_
  obtain rfl:=Option.some.inj H0
  exact Z4 rfl hst hb (Zg (s:=4)) (hst.at 0 rfl)
theorem Z3g (a0:Nat) (a1:Nat) {r:Nat} (h:Zje a0 a1=some r):FnOk Tryz.prog 123 [(pFlt a0),(pFlt a1)] (pFlt r):=by
 have H0:=h
 unfold Zje at H0
 clear h
 refine Zbs (N:=9) Tryz.func123 rfl rfl (Qe rfl) rfl rfl (fun a g0 hst hb=>?_)
 refine r_s (T:=[⟨[],_,[],[],[4]⟩]) (F:=[.o 0,.o 1]) hst hb Za
  (Qa rfl c_f<|o_n) (fun a g hst hb=>?_)
 obtain ⟨r1,h2,H0⟩:=Zc H0
 refine r_s (T:=[⟨[.o 0],_,[],[],[5]⟩,⟨[.o 1],_,[],[],[6]⟩,⟨[.p 0 0,.p 1 0],_,[],[0,1],[7]⟩,⟨[.p 2 0],_,[],[0,1,2],[8]⟩,⟨[.p 3 0],_,[],Lr 4,[4]⟩]) (F:=[.p 4 0]) hst hb Za
  (Qm rfl u_0<|Qm rfl u_0<|o_p rfl (Z2j rfl rfl u_0 u_1)<|o_p rfl (Zl Zpf (Zsf (fun r z hr hz=>by simp only [Zgv,hr,hz,Option.bind_some,if_true]) (fun z r h=>Zi0 z h) h2) rfl rfl (.cons u_0 .nil))<|Qa rfl u_0<|o_n) (fun a g hst hb=>?_)
 refine wp_ret ?_
 obtain rfl:=Option.some.inj H0
 exact Z4 rfl hst hb (Zg (s:=4)) (hst.at 0 rfl)
theorem Z1w (a0:Nat) (a1:Nat) {r:Nat} (h:Zic a0 a1=some r):FnOk Tryz.prog 124 [(pFlt a0),(pFlt a1)] (pFlt r):=by
 have H0:=h
 unfold Zic at H0
 clear h
 refine Zbs (N:=9) Tryz.func124 rfl rfl (Qe rfl) rfl rfl (fun a g0 hst hb=>?_)
 refine r_s (T:=[⟨[],_,[],[],[4]⟩]) (F:=[.o 0,.o 1]) hst hb Za
  (Qa rfl c_f<|o_n) (fun a g hst hb=>?_)
 obtain ⟨r1,h2,H0⟩:=Zc H0
 refine r_s (T:=[⟨[.o 0],_,[],[],[5]⟩,⟨[.o 1],_,[],[],[6]⟩,⟨[.p 0 0,.p 1 0],_,[],[0,1],[7]⟩,⟨[.p 2 0],_,[],[0,1,2],[8]⟩,⟨[.p 3 0],_,[],Lr 4,[4]⟩]) (F:=[.p 4 0]) hst hb Za
  (Qm rfl u_0<|Qm rfl u_0<|o_p rfl (Z2b rfl rfl u_0 u_1)<|o_p rfl (Zl Zpf (Zsf (fun r z hr hz=>by simp only [Zgv,hr,hz,Option.bind_some,if_true]) (fun z r h=>Zi0 z h) h2) rfl rfl (.cons u_0 .nil))<|Qa rfl u_0<|o_n) (fun a g hst hb=>?_)
 refine wp_ret ?_
 obtain rfl:=Option.some.inj H0
 exact Z4 rfl hst hb (Zg (s:=4)) (hst.at 0 rfl)
theorem Zvm (a0:Nat) (a1:Nat) {r:Nat} (h:Zhg a0 a1=some r):FnOk Tryz.prog 125 [(pFlt a0),(pFlt a1)] (pFlt r):=by
 have H0:=h
 unfold Zhg at H0
 clear h
 refine Zbs (N:=6) Tryz.func125 rfl rfl (Qe rfl) rfl rfl (fun a g0 hst hb=>?_)
 refine r_s (L:=[(1,_)]) (T:=[⟨[],_,[],[],[4]⟩]) (F:=[.o 0]) (hst.pick [1] rfl) hb Za
  (Qa rfl c_f<|o_n) (fun a g hst hb=>?_)
 refine r_s (T:=[⟨[.o 0],_,[],[],[5]⟩,⟨[.p 0 0],_,[],[0],[4]⟩]) (F:=[.p 1 0]) hst hb Za
  (Qm rfl u_0<|Qa rfl u_0<|o_n) (fun a g hst hb=>?_)
 refine wp_ret ?_
 obtain rfl:=Option.some.inj H0
 exact Z4 rfl hst hb (Zg (s:=4)) (hst.at 0 rfl)
theorem Zjk (f2:Nat) (C2:List Pd) (hC2:Free C2) (e2_:Zm Tryz.prog f2) (φ2:Zh → ByteArray → Option Int) (hφ2:∀ (y0:Zh) (y1:ByteArray) (r:Int),φ2 y0 y1=some r → FnOk Tryz.prog f2 ([(Z2.pd y0),(pStr y1)] ++ C2) (pInt .i64 r)) (a0:List Zh) (a1:ByteArray) {r:Int × Bool} (h:Zda a0 a1 φ2=some r):FnOk Tryz.prog 137 [(Z2.sl.pd a0),(pStr a1),(pClo f2 C2 hC2)] (pTup [(pInt .i64 r.1),(Zbf r.2)]):=by
 have H0:=h
 unfold Zda at H0
 clear h
 refine Zbs (N:=49) Tryz.func137 rfl rfl (Qe rfl) rfl rfl (fun a g0 hst hb=>?_)
 refine r_s (T:=[⟨[],_,[],[],[6]⟩,⟨[],_,[],[0],[7]⟩]) (F:=[.o 0,.o 1,.o 2]) hst hb Za
  (Qa rfl c_i<|Qa rfl c_b<|o_n) (fun a g hst hb=>?_)
 refine r_s (T:=[⟨[.o 0],_,[],[],[12]⟩,⟨[.p 0 0],_,[],[0],[13]⟩,⟨[.p 1 0],_,[],[0,1],[8]⟩]) (F:=[.o 0,.o 1,.o 2,.p 2 0,.p 0 0]) hst hb Za
  (Qm rfl u_0<|o_p rfl (Zbx Tryz.underlying36 rfl rfl u_0)<|Qa rfl u_0<|o_n) (fun a g hst hb=>?_)
 refine r_s (T:=[⟨[.o 3],_,[],[],[14]⟩,⟨[],_,[],[],[9]⟩,⟨[.p 0 0],_,[],[0,1],[10]⟩]) (F:=[.o 0,.o 1,.o 2,.o 3,.p 1 0,.p 2 0,.o 4]) hst hb Za
  (Qm rfl u_0<|Qa rfl c_i<|Qa rfl u_0<|o_n) (fun a g hst hb=>?_)
 obtain ⟨z12,hz1,H0⟩:=Zc H0
 refine wp_seq ?_
 refine Zb3 (fun a w=>∃ (y11:Int) (g:G),w=g.w ∧ St 49 [(0,(Z2.sl.pd a0)),(1,(pStr a1)),(2,(pClo f2 C2 hC2)),(8,(pInt .i64 (a0.length:Int))),(9,(pInt .i64 y11)),(12,(Z2.sl.pd a0))] a g ∧ Base g0 g ∧ y11=z12) ?_ ?_
 ·rintro a w ⟨y11,g,rfl,hst,hb,rfl⟩
  refine Zp ?_
  obtain ⟨e13,h14,H0⟩:=Zc H0;obtain ⟨r15,h16,H0⟩:=Zc H0
  refine r_s (T:=⟨[.o 4],_,[],[],[35]⟩ :: ⟨[.o 4],_,[],[],[36]⟩ :: ⟨[.o 3],_,[],[],[37]⟩ :: ⟨[.p 1 0,.p 2 0],_,[],[1,2],[38]⟩ :: ⟨[.p 3 0],_,[],[1,2,3],[39]⟩ :: ⟨[.p 4 0,.o 2],_,[],List.range' 1 4,[40]⟩ :: ⟨[.p 4 0,.o 0],_,[],List.range' 1 4,[41]⟩ :: ⟨[.p 4 0,.o 4],_,[],List.range' 1 4,[42]⟩ :: ⟨[.p 4 0,.p 6 0,.p 7 0],_,[],[1,2,3,4,6,7],[43]⟩ :: ⟨[.p 4 0,.p 8 0],_,[],[1,2,3,4,6,7,8],[44]⟩ :: ⟨[.p 4 0,.o 1],_,[],List.range' 1 4,[45]⟩ :: ⟨[.p 4 0,.p 5 0,.p 9 0,.p 10 0],_,[],List.range' 1 10,[46]⟩ :: ⟨[.p 4 0,.p 11 0],_,[],List.range' 1 11,[47]⟩ :: ⟨[.p 4 0,.p 12 0],_,[],List.range' 1 12,[48]⟩ :: ⟨[.p 0 0],_,[],Lr 12,[6]⟩ :: ⟨[.p 13 0],_,[],Lr 15,[7]⟩ :: []) (F:=[.p 14 0,.p 15 0]) hst hb Za
   (Qm rfl u_0<|Qm rfl u_0<|Qm rfl u_0<|o_p rfl (Zca rfl rfl u_0 u_1)<|Qm rfl u_0<|o_g (Qg_t rfl (fun hG=>Z6 rfl rfl u_0))<|o_g (Qg_t rfl (fun hG=>Z6 rfl rfl u_0))<|o_g (Qg_t rfl (fun hG=>Z6 rfl rfl u_0))<|o_g (Qg_t rfl (fun hG=>Zbl Tryz.underlying36 Zfe rfl rfl (Opd.gd hG u_0) (Opd.gd hG u_1) (Zbn h14 hG)))<|o_g (Qg_t rfl (fun hG=>Zv Zeb rfl rfl (Opd.gd hG u_0)))<|o_g (Qg_t rfl (fun hG=>Z6 rfl rfl u_0))<|o_g (Qg_t rfl (fun hG=>Zqf e2_ (hφ2 _ _ _ (Zbn h16 hG)) rfl rfl (Opd.gd hG u_0) (.cons (Opd.gd hG u_1) (.cons (Opd.gd hG u_2) .nil))))<|o_g (Qg_t rfl (fun hG=>Zbt rfl rfl (Opd.gd hG u_0) c_i))<|o_p rfl (Zbk rfl rfl u_0 (fun hz=>(Opd.gd hz u_1)))<|Qa rfl u_0<|Qa rfl u_0<|o_n) (fun a g hst hb=>?_)
  refine wp_ret ?_
  obtain rfl:=Option.some.inj H0
  exact Zdw rfl hst hb (Zg (s:=6)) (Zg (s:=7)) (Zcw (hst.at 0 rfl) (hst.at 1 rfl))
 ·refine wp_block ?_
  refine wp_loop_ghost (fun n a w=>∃ (x1:Int) (x2:Int) (g:G),w=g.w ∧ St 49 [(0,(Z2.sl.pd a0)),(1,(pStr a1)),(2,(pClo f2 C2 hC2)),(8,(pInt .i64 (a0.length:Int))),(9,(pInt .i64 x1)),(10,(pInt .i64 x2)),(12,(Z2.sl.pd a0))] a g ∧ Base g0 g ∧ Zbu a0 a1 φ2 n x1 x2=some z12) (Int.toNat ((a0.length:Int) - (0:Int)) + 1) ⟨(0:Int),(a0.length:Int),g,rfl,(hst.pick [0,1,2,3,4,5,6] rfl),hb,hz1⟩ (fun n a w hI=>?_)
  obtain ⟨x1,x2,g,rfl,hst,hb,H1⟩:=hI
  cases n with
  | zero=>exact absurd H1 (by simp [Zbu])
  | succ n =>
   rw [Zbu] at H1
   refine wp_seq ?_
   refine r_s (T:=[⟨[.o 4],_,[],[],[15]⟩,⟨[.o 5],_,[],[],[16]⟩,⟨[.p 0 0,.p 1 0],_,[],[0,1],[17]⟩]) (F:=[.o 0,.o 1,.o 2,.o 3,.o 4,.o 5,.o 6,.p 2 0]) hst hb Za
    (Qm rfl u_0<|Qm rfl u_0<|o_p rfl (Zca rfl rfl u_0 u_1)<|o_n) (fun a g hst hb=>?_)
   refine wp_cond_split (hst.bool 7 rfl) (fun hc3=>?_) (fun hc3=>?_)
   ·replace H1:=Zu hc3 H1
    refine wp_skip ?_
    refine Zp ?_
    refine Zb3 (fun a w=>∃ (j9:Int) (j10:Int) (g:G),w=g.w ∧ St 49 [(0,(Z2.sl.pd a0)),(1,(pStr a1)),(2,(pClo f2 C2 hC2)),(8,(pInt .i64 (a0.length:Int))),(9,(pInt .i64 j9)),(10,(pInt .i64 j10)),(12,(Z2.sl.pd a0))] a g ∧ Base g0 g ∧ Zcq (Zbu a0 a1 φ2 n) j9 j10=some z12) ?_ ?_
    ·rintro a w ⟨j9,j10,g,rfl,hst,hb,H1⟩
     unfold Zcq at H1
     exact ⟨n,Nat.lt_succ_self _,j9,j10,g,rfl,(hst.pick [0,1,2,3,4,5,6] rfl),hb,H1⟩
    ·refine wp_block ?_
     refine r_s (L:=[(0,_),(1,_),(2,_),(8,_),(9,_),(10,_),(12,_)]) (T:=[⟨[.o 4],_,[],[],[18]⟩,⟨[.o 5],_,[],[],[19]⟩,⟨[.p 0 0,.p 1 0],_,[],[0,1],[20]⟩,⟨[.p 2 0],_,[],[0,1,2],[21]⟩,⟨[.p 3 0],_,[],Lr 4,[22]⟩,⟨[.p 4 0],_,[],Lr 5,[23]⟩,⟨[.p 5 0],_,[],Lr 6,[11]⟩]) (F:=[.o 0,.o 1,.o 2,.o 3,.o 4,.o 5,.p 6 0,.o 6]) (hst.pick [0,1,2,3,4,5,6] rfl) hb Za
      (Qm rfl u_0<|Qm rfl u_0<|o_p rfl (Zb0 rfl rfl u_0 u_1 rfl)<|o_p rfl (Z4v Tryz.underlying3 Tryz.underlying181 rfl rfl u_0 rfl)<|o_p rfl (Zbdz rfl rfl u_0 c_i (by decide) rfl)<|o_p rfl (Z4v Tryz.underlying181 Tryz.underlying3 rfl rfl u_0 rfl)<|Qa rfl u_0<|o_n) (fun a g hst hb=>?_)
     obtain ⟨e4,h5,H1⟩:=Zc H1;obtain ⟨r6,h7,H1⟩:=Zc H1
     refine r_s (T:=[⟨[.o 2],_,[],[],[24]⟩,⟨[.o 0],_,[],[],[25]⟩,⟨[.o 6],_,[],[],[26]⟩,⟨[.p 1 0,.p 2 0],_,[],[1,2],[27]⟩,⟨[.p 3 0],_,[],[1,2,3],[28]⟩,⟨[.o 1],_,[],[],[29]⟩,⟨[.p 0 0,.p 4 0,.p 5 0],_,[],Lr 6,[30]⟩,⟨[.p 6 0],_,[],Lr 7,[31]⟩]) (F:=[.o 0,.o 1,.o 2,.o 3,.o 4,.o 5,.o 6,.o 7,.p 7 0]) hst hb Za
      (Qm rfl u_0<|Qm rfl u_0<|Qm rfl u_0<|o_p rfl (Zbl Tryz.underlying36 Zfe rfl rfl u_0 u_1 h5)<|Ql rfl Zeb u_0<|Qm rfl u_0<|o_p rfl (Zqf e2_ (hφ2 _ _ _ h7) rfl rfl u_0 (.cons u_1 (.cons u_2 .nil)))<|o_p rfl (Zca rfl rfl u_0 c_i)<|o_n) (fun a g hst hb=>?_)
     refine wp_cond_split (hst.bool 8 rfl) (fun hc8=>?_) (fun hc8=>?_)
     ·replace H1:=Zu hc8 H1
      refine r_g (L:=[(0,_),(1,_),(2,_),(8,_),(10,_),(11,_),(12,_)]) (T:=[⟨[.o 5],_,[],[],[32]⟩,⟨[.p 0 0],_,[],[0],[33]⟩,⟨[.p 1 0],_,[],[0,1],[9]⟩]) (F:=[.o 0,.o 1,.o 2,.o 3,.p 2 0,.o 4,.o 6]) (hst.pick [0,1,2,3,5,6,7] rfl) hb Za
       (Qm rfl u_0<|o_p rfl (Zb0 rfl rfl u_0 c_i rfl)<|Qa rfl u_0<|o_n) (fun a g hst hb=>?_)
      refine Zbc ?_
      exact ⟨(IntKind.i64.wrap ((IntKind.i64.wrap (Int.fdiv (IntKind.u64.wrap (IntKind.i64.wrap (x1 + x2))) (2 ^ 1))) + (1:Int))),x2,g,rfl,(hst.pick [0,1,2,3,4,5,6] rfl),hb,H1⟩
     ·replace H1:=Zt hc8 H1
      refine r_g (L:=[(0,_),(1,_),(2,_),(8,_),(9,_),(11,_),(12,_)]) (T:=[⟨[.o 5],_,[],[],[34]⟩,⟨[.p 0 0],_,[],[0],[10]⟩]) (F:=[.o 0,.o 1,.o 2,.o 3,.o 4,.p 1 0,.o 6]) (hst.pick [0,1,2,3,4,6,7] rfl) hb Za
       (Qm rfl u_0<|Qa rfl u_0<|o_n) (fun a g hst hb=>?_)
      refine Zbc ?_
      exact ⟨x1,(IntKind.i64.wrap (Int.fdiv (IntKind.u64.wrap (IntKind.i64.wrap (x1 + x2))) (2 ^ 1))),g,rfl,(hst.pick [0,1,2,3,4,5,6] rfl),hb,H1⟩
   ·replace H1:=Zt hc3 H1
    refine wp_exit ?_
    refine Zby ?_
    refine Zby ?_
    refine Zcb ?_
    exact ⟨x1,g,rfl,(hst.pick [0,1,2,3,4,6] rfl),hb,Option.some.inj H1⟩
theorem Zy0 (a0:Zh) (a1:ByteArray) {r:Int} (h:Zk4 a0 a1=some r):FnOk Tryz.prog 138 [(Z2.pd a0),(pStr a1)] (pInt .i64 r):=by
 have H0:=h
 unfold Zk4 at H0
 clear h
 refine Zbs (N:=15) Tryz.func138 rfl rfl (Qe rfl) rfl rfl (fun a g0 hst hb=>?_)
 refine r_s (T:=[⟨[.o 0],_,[],[],[2]⟩,⟨[],_,[],[],[4]⟩]) (F:=[.o 1,.p 0 0]) hst hb Za
  (Qb rfl u_0<|Qa rfl c_i<|o_n) (fun a g hst hb=>?_)
 refine wp_seq ?_
 refine wp_block ?_
 refine r_s (T:=[⟨[.o 1],_,[],[],[6]⟩,⟨[.p 0 0],_,[],[0],[7]⟩,⟨[.o 0],_,[],[],[8]⟩,⟨[.p 1 0,.p 2 0],_,[],[0,1,2],[9]⟩,⟨[.p 3 0],_,[],Lr 4,[5]⟩]) (F:=[.o 0,.o 1,.p 4 0]) hst hb Za
  (Qf rfl Zd6 u_0<|Ql rfl ty_9 u_0<|Qm rfl u_0<|o_p rfl (Zn7 rfl rfl u_0 u_1)<|Qa rfl u_0<|o_n) (fun a g hst hb=>?_)
 refine wp_cond_split (hst.bool 2 rfl) (fun hc1=>?_) (fun hc1=>?_)
 ·replace H0:=Zu hc1 H0
  refine r_s (L:=[]) (T:=[⟨[],_,[],[],[4]⟩]) (F:=[.p 0 0]) (hst.pick [] rfl) hb Za
   (Qa rfl c_i<|o_n) (fun a g hst hb=>?_)
  refine wp_ret ?_
  refine Z5 ?_
  refine Zo ?_
  obtain rfl:=Option.some.inj H0
  exact Z4 rfl hst hb (Zg (s:=4)) (hst.at 0 rfl)
 ·replace H0:=Zt hc1 H0
  refine r_s (L:=[(1,_),(2,_)]) (T:=[⟨[.o 1],_,[],[],[11]⟩,⟨[.p 0 0],_,[],[0],[12]⟩,⟨[.o 0],_,[],[],[13]⟩,⟨[.p 1 0,.p 2 0],_,[],[0,1,2],[14]⟩,⟨[.p 3 0],_,[],Lr 4,[10]⟩]) (F:=[.p 4 0]) (hst.pick [0,1] rfl) hb Za
   (Qf rfl Zd6 u_0<|Ql rfl ty_9 u_0<|Qm rfl u_0<|o_p rfl (Zxp rfl rfl u_0 u_1)<|Qa rfl u_0<|o_n) (fun a g hst hb=>?_)
  refine wp_cond_split (hst.bool 0 rfl) (fun hc2=>?_) (fun hc2=>?_)
  ·replace H0:=Zu hc2 H0
   refine r_s (L:=[]) (T:=[⟨[],_,[],[],[4]⟩]) (F:=[.p 0 0]) (hst.pick [] rfl) hb Za
    (Qa rfl c_i<|o_n) (fun a g hst hb=>?_)
   refine wp_ret ?_
   refine Z5 ?_
   refine Zo ?_
   obtain rfl:=Option.some.inj H0
   exact Z4 rfl hst hb (Zg (s:=4)) (hst.at 0 rfl)
  ·replace H0:=Zt hc2 H0
   refine wp_skip ?_
   refine Zbc ?_
   refine Zp ?_
   refine r_s (L:=[]) (T:=[⟨[],_,[],[],[4]⟩]) (F:=[.p 0 0]) (hst.pick [] rfl) hb Za
    (Qa rfl c_i<|o_n) (fun a g hst hb=>?_)
   refine wp_ret ?_
   obtain rfl:=Option.some.inj H0
   exact Z4 rfl hst hb (Zg (s:=4)) (hst.at 0 rfl)
theorem Zqh (a0:List Zh) (a1:ByteArray) {r:Int × Bool} (h:Zmk a0 a1=some r):FnOk Tryz.prog 128 [(Z2.sl.pd a0),(pStr a1)] (pTup [(pInt .i64 r.1),(Zbf r.2)]):=by
 have H0:=h
 unfold Zmk at H0
 clear h
 refine Zbs (N:=11) Tryz.func128 rfl rfl (Qe rfl) rfl rfl (fun a g0 hst hb=>?_)
 refine r_s (T:=[⟨[],_,[],[],[4]⟩,⟨[],_,[],[0],[5]⟩]) (F:=[.o 0,.o 1]) hst hb Za
  (Qa rfl c_i<|Qa rfl c_b<|o_n) (fun a g hst hb=>?_)
 obtain ⟨r1,h2,H0⟩:=Zc H0
 refine r_s (T:=[⟨[.o 0],_,[],[],[6]⟩,⟨[.o 1],_,[],[],[7]⟩,⟨[.p 0 0,.p 1 0],_,[],[0,1],[8]⟩,⟨[.p 2 0],_,[],[0,1,2],[9]⟩,⟨[.p 2 0],_,[],[0,1,2],[10]⟩,⟨[.p 3 0],_,[],Lr 5,[4]⟩,⟨[.p 4 0],_,[],Lr 6,[5]⟩]) (F:=[.p 5 0,.p 6 0]) hst hb Za
  (Qm rfl u_0<|Qm rfl u_0<|o_p rfl (Zl Zbco (Zjk 138 [] rfl Zbc6 (fun y0 y1=>Zk4 y0 y1) (fun y0 y1 r h=>Zy0 y0 y1 h) _ _ h2) rfl rfl (.cons u_0 (.cons u_1 (.cons Opd.fnc .nil))))<|o_p rfl (Zz rfl rfl u_0 rfl)<|o_p rfl (Zz rfl rfl u_0 rfl)<|Qa rfl u_0<|Qa rfl u_0<|o_n) (fun a g hst hb=>?_)
 refine wp_ret ?_
 obtain rfl:=Option.some.inj H0
 exact Zdw rfl hst hb (Zg (s:=4)) (Zg (s:=5)) (Zcw (hst.at 0 rfl) (hst.at 1 rfl))
set_option maxHeartbeats 1000000 in
theorem Zjq (a0:List Zh) (a1:Int) (a2:List Zh) {r:List Zh} (h:Zcp a0 a1 a2=some r):Z0v Tryz.prog 136 Z2 116 a0 [(pInt .i64 a1),(Z2.sl.pd a2)] (Z2.sl.pd r):=by
 unfold Zcp at h
 obtain ⟨⟨hi0,hi1,hm,hsz⟩,H0⟩:=Zfv h
 obtain rfl:=Option.some.inj H0
 obtain ⟨k,rfl⟩:=Int.eq_ofNat_of_zero_le hi0
 have hk:k ≤ a0.length:=by omega
 have hb0:(a0.length + a2.length) ≤ 140737488355328:=Nat.le_trans (Nat.le_mul_of_pos_right _ (by decide)) hsz
 simp only [Int.toNat_natCast]
 refine Z1f (N:=95) Tryz.func136 rfl rfl (Qe rfl) rfl (fun hx a g A0 hst hb=>?_) (fun a g cap hcap hmax hst hb=>?_)
 ·subst hx
  obtain rfl:k=0:=by simpa using hk
  refine r_s (T:=[⟨[],[(6,(Z2.sl.pd []))],[],[],[6]⟩]) (F:=[.o 0,.o 1,.o 2]) hst hb Za
   (o_p rfl (Zcu rfl rfl (Opd.c (fun g=>Zf4 g)))<|o_n) (fun a g hst hb=>?_)
  refine r_s (T:=[⟨[.o 0],_,[],[],[10]⟩,⟨[.o 1],_,[],[],[11]⟩,⟨[.p 0 0,.p 1 0],_,[],[0,1],[12]⟩]) (F:=[.o 0,.o 1,.o 2]) hst hb Za
   (Qm rfl u_0<|Qm rfl u_0<|o_p rfl (Z6f Zdr rfl u_0 u_1)<|o_n) (fun a g hst hb=>?_)
  refine r_s (T:=[⟨[.o 2],_,[],[],[13]⟩,⟨[.p 0 0],_,[],[0],[14]⟩,⟨[.p 1 0],_,[],[0,1],[7]⟩]) (F:=[.o 0,.o 1,.o 2,.p 2 0]) hst hb Za
   (Qm rfl u_0<|o_p rfl (Zbx Tryz.underlying36 rfl rfl u_0)<|Qa rfl u_0<|o_n) (fun a g hst hb=>?_)
  refine wp_seq ?_
  refine r_s (T:=[⟨[.o 3],_,[],[],[15]⟩,⟨[.p 0 0],_,[],[0],[16]⟩]) (F:=[.o 0,.o 1,.o 2,.o 3,.p 1 0]) hst hb Za
   (Qm rfl u_0<|o_p rfl (Zbt rfl rfl u_0 c_i)<|o_n) (fun a g hst hb=>?_)
  refine wp_cond_split (hst.bool 4 rfl) (fun hc=>?_) (fun hc=>?_)
  ·exact absurd (beq_iff_eq.1 hc) (by omega)
  ·refine wp_skip ?_
   refine Zp ?_
   refine r_s (L:=[(0,_),(1,_),(2,_),(7,_)]) (T:=[⟨[.o 0],_,[],[],[18]⟩,⟨[.p 0 0],_,[],[0],[19]⟩,⟨[.p 1 0],_,[],[0,1],[8]⟩]) (F:=[.o 0,.o 1,.o 2,.o 3,.p 2 0]) (hst.pick [0,1,2,3] rfl) hb Za
    (Qm rfl u_0<|o_p rfl (Zba7 Tryz.underlying36 rfl rfl u_0)<|Qa rfl u_0<|o_n) (fun a g hst hb=>?_)
   refine wp_seq ?_
   refine r_s (T:=[⟨[.o 1],_,[],[],[20]⟩,⟨[.o 4],_,[],[],[21]⟩,⟨[.p 0 0,.p 1 0],_,[],[0,1],[22]⟩]) (F:=[.o 0,.o 1,.o 2,.o 3,.o 4,.p 2 0]) hst hb Za
    (Qm rfl u_0<|Qm rfl u_0<|o_p rfl (Zbt rfl rfl u_0 u_1)<|o_n) (fun a g hst hb=>?_)
   refine wp_cond_split (hst.bool 5 rfl) (fun hc=>?_) (fun hc=>?_)
   ·refine r_s (L:=[(0,_),(2,_)]) (T:=[⟨[.o 0],_,[],[],[23]⟩,⟨[.o 1],_,[],[],[24]⟩,⟨[.p 0 0,.p 1 0],[(25,(pOwn Z2 116 25 none (a2.map some)))],[26],[0,1],[25]⟩,⟨[.p 2 0],_,[],[0,1,2],[6]⟩]) (F:=[.p 3 0]) (hst.pick [0,2] rfl) hb Za
     (Qm rfl u_0<|Qm rfl u_0<|o_p rfl (Z5i Zdr rfl rfl u_0 u_1 hm (by simpa using hsz))<|Qa rfl u_0<|o_n) (fun a g hst hb=>?_)
    refine wp_ret ?_
    refine Zo ?_
    have hq:=hst.at 0 rfl
    have he:([]:List Zh).take 0 ++ a2 ++ ([]:List Zh).drop 0=a2:=by simp
    rw [he]
    exact Zr8 rfl hst hb (Zg (s:=6)) hq
   ·exact absurd hc (by simp)
 ·refine r_s (T:=[⟨[],[(6,(Z2.sl.pd []))],[],[],[6]⟩]) (F:=[.o 0,.o 1,.o 2]) hst hb Za
   (o_p rfl (Zcu rfl rfl (Opd.c (fun g=>Zf4 g)))<|o_n) (fun a g hst hb=>?_)
  refine r_s (T:=[⟨[.o 0],_,[],[],[10]⟩,⟨[.o 1],_,[],[],[11]⟩,⟨[.p 0 0,.p 1 0],_,[],[0,1],[12]⟩]) (F:=[.o 0,.o 1,.o 2]) hst hb Za
   (Qm rfl u_0<|Qm rfl u_0<|o_p rfl (Ziv Zdr (by simpa using hk) rfl rfl u_0 u_1)<|o_n) (fun a g hst hb=>?_)
  refine r_s (T:=[⟨[.o 2],_,[],[],[13]⟩,⟨[.p 0 0],_,[],[0],[14]⟩,⟨[.p 1 0],_,[],[0,1],[7]⟩]) (F:=[.o 0,.o 1,.o 2,.p 2 0]) hst hb Za
   (Qm rfl u_0<|o_p rfl (Zbx Tryz.underlying36 rfl rfl u_0)<|Qa rfl u_0<|o_n) (fun a g hst hb=>?_)
  refine wp_seq ?_
  refine r_s (T:=[⟨[.o 3],_,[],[],[15]⟩,⟨[.p 0 0],_,[],[0],[16]⟩]) (F:=[.o 0,.o 1,.o 2,.o 3,.p 1 0]) hst hb Za
   (Qm rfl u_0<|o_p rfl (Zbt rfl rfl u_0 c_i)<|o_n) (fun a g hst hb=>?_)
  refine wp_cond_split (hst.bool 4 rfl) (fun hc=>?_) (fun hc=>?_)
  ·exact absurd (beq_iff_eq.1 hc) (by omega)
  ·refine wp_skip ?_
   refine Zp ?_
   refine r_s (L:=[(0,_),(1,_),(2,_),(7,_)]) (T:=[⟨[.o 0],_,[],[],[18]⟩,⟨[.p 0 0],_,[],[0],[19]⟩,⟨[.p 1 0],_,[],[0,1],[8]⟩]) (F:=[.o 0,.o 1,.o 2,.o 3,.p 2 0]) (hst.pick [0,1,2,3] rfl) hb Za
    (Qm rfl u_0<|o_p rfl (Zuy Tryz.underlying36 rfl rfl u_0)<|Qa rfl u_0<|o_n) (fun a g hst hb=>?_)
   refine wp_seq ?_
   refine r_s (T:=[⟨[.o 1],_,[],[],[20]⟩,⟨[.o 4],_,[],[],[21]⟩,⟨[.p 0 0,.p 1 0],_,[],[0,1],[22]⟩]) (F:=[.o 0,.o 1,.o 2,.o 3,.o 4,.p 2 0]) hst hb Za
    (Qm rfl u_0<|Qm rfl u_0<|o_p rfl (Zbt rfl rfl u_0 u_1)<|o_n) (fun a g hst hb=>?_)
   refine wp_cond_split (hst.bool 5 rfl) (fun hc=>?_) (fun hc=>?_)
   ·refine r_s (L:=[(0,_),(2,_)]) (T:=[⟨[.o 0],_,[],[],[23]⟩,⟨[.o 1],_,[],[],[24]⟩,⟨[.p 0 0,.p 1 0],_,[1],[0,1],[25,0,23]⟩,⟨[.p 2 0],_,[],[0,1,2],[6]⟩]) (F:=[.p 3 0]) (hst.pick [0,2] rfl) hb Za
     (Qm rfl u_0<|Qm rfl u_0<|o_p rfl (Zp4 Zdr rfl rfl u_0 u_1 hsz)<|Qa rfl u_0<|o_n) (fun a g hst hb=>?_)
    refine wp_ret ?_
    refine Zo ?_
    have hq:=hst.at 0 rfl
    have hkn:=beq_iff_eq.1 hc
    simp only [List.length_map] at hkn
    have hkn:k=a0.length:=by omega
    have he:a0.take k ++ a2 ++ a0.drop k=a0 ++ a2:=by simp [hkn]
    rw [he]
    exact Zr8 rfl hst hb (Zg (s:=6)) hq
   ·have hkn:k ≠ a0.length:=fun h=>(beq_eq_false_iff_ne.1 hc) (by simp only [List.length_map];omega)
    refine wp_skip ?_
    refine Zp ?_
    refine wp_seq ?_
    refine r_s (L:=[(0,_),(1,_),(2,_),(7,_),(8,_)]) (T:=[⟨[.o 4],_,[],[],[26]⟩,⟨[.o 3],_,[],[],[27]⟩,⟨[.p 0 0,.p 1 0],_,[],[0,1],[28]⟩,⟨[.o 0],_,[],[],[29]⟩,⟨[.p 3 0],_,[],[3],[30]⟩,⟨[.p 2 0,.p 4 0],_,[],[0,1,2,3,4],[31]⟩]) (F:=[.o 0,.o 1,.o 2,.o 3,.o 4,.p 5 0]) (hst.pick [0,1,2,3,4] rfl) hb Za
     (Qm rfl u_0<|Qm rfl u_0<|o_p rfl (Zb0 rfl rfl u_0 u_1 (Zvg (by simp only [List.length_map];omega)))<|Qm rfl u_0<|o_p rfl (Zbb2 Tryz.underlying36 rfl rfl u_0)<|o_p rfl (Zct rfl rfl u_0 u_1)<|o_n) (fun a g hst hb=>?_)
    refine wp_cond_split (hst.bool 5 rfl) (fun hc2=>?_) (fun hc2=>?_)
    ·have hgr:cap < k + (a0.length + a2.length - k):=by have:=of_decide_eq_true hc2;simp only [List.length_map] at this;omega
     refine r_s (L:=[(0,_),(1,_),(2,_),(7,_),(8,_)]) (T:=[⟨[.o 0],_,[],[],[32]⟩,⟨[.o 1],_,[],[],[33]⟩,⟨[.p 0 0,.p 1 0],_,[],[0,1],[34]⟩,⟨[.o 4],_,[],[],[35]⟩,⟨[.o 3],_,[],[],[36]⟩,⟨[.p 3 0,.p 4 0],_,[],[3,4],[37]⟩,⟨[.o 1],_,[],[],[38]⟩,⟨[.p 5 0,.p 6 0],_,[],[3,4,5,6],[39]⟩,⟨[.p 2 0,.p 7 0,.o 0],[(40,(pOwn Z2 116 40 none ((a0.take k).map some ++ List.replicate (a0.length + a2.length - k) none)))],[41],[0,1,2,3,4,5,6,7],[40]⟩,⟨[.p 8 0],_,[],[0,1,2,3,4,5,6,7,8],[9]⟩]) (F:=[.o 0,.o 1,.o 2,.o 3,.p 9 0]) (hst.pick [0,1,2,3,4] rfl) hb Za
      (Qm rfl u_0<|Qm rfl u_0<|o_p rfl (Zum Zdr (by simpa using hk) rfl rfl u_0 u_1)<|Qm rfl u_0<|Qm rfl u_0<|o_p rfl (Zb0 rfl rfl u_0 u_1 (Zvg (by simp only [List.length_map];omega)))<|Qm rfl u_0<|o_p rfl (Zh1 rfl rfl u_0 u_1 (Zbdw (n:=a0.length + a2.length) (by simp only [List.length_map]) (by omega) (by omega)))<|o_p rfl (Z5v (s:=0) (d2:=40) (xs:=a0.take k) Zdr Tryz.underlying3 (by simp;omega) (by simp;omega) (by omega) hgr (by rw [show k + (a0.length + a2.length - k)=a0.length + a2.length by omega];exact hsz) (Zw8 a0 k) rfl rfl u_0 u_1 u_2)<|Qa rfl u_0<|o_n) (fun a g hst hb=>?_)
     have hl1:(((a0.take k).map some ++ List.replicate (a0.length + a2.length - k) none):List (Option Zh)).length=a0.length + a2.length:=by simp;omega
     refine r_s (T:=[⟨[.o 4],_,[],[],[41]⟩,⟨[.o 1],_,[],[],[42]⟩,⟨[.p 0 0,.p 1 0],_,[],[0,1],[43]⟩,⟨[.o 2],_,[],[],[44]⟩,⟨[.p 2 0,.p 3 0,.o 4],_,[41],[0,1,2,3],[45,9,41,43]⟩]) (F:=[.o 0,.o 1,.o 2,.o 3,.p 4 1]) hst hb Za
      (Qm rfl u_0<|Qm rfl u_0<|o_p rfl (Ziv Zdr (by rw [hl1];omega) rfl rfl u_0 u_1)<|Qm rfl u_0<|o_p rfl (Z01 (s:=9) Zdr (by rw [hl1];omega) (by rw [hl1];omega) rfl rfl (by decide) u_0 u_1 u_2)<|o_n) (fun a g hst hb=>?_)
     have hl2:(over (((a0.take k).map some ++ List.replicate (a0.length + a2.length - k) none):List (Option Zh)) k a2).length=a0.length + a2.length:=by rw [Znn (by rw [hl1];omega),hl1]
     refine r_s (T:=[⟨[.o 4],_,[],[],[46]⟩,⟨[.o 1],_,[],[],[47]⟩,⟨[.o 3],_,[],[],[48]⟩,⟨[.p 1 0,.p 2 0],_,[],[1,2],[49]⟩,⟨[.p 0 0,.p 3 0],_,[],[0,1,2,3],[50]⟩,⟨[.o 0],_,[],[],[51]⟩,⟨[.o 1],_,[],[],[52]⟩,⟨[.p 5 0,.p 6 0],_,[],[5,6],[53]⟩,⟨[.p 4 0,.p 7 0,.o 4,.o 0],_,[41],[0,1,2,3,4,5,6,7],[54,9,46,50]⟩]) (F:=[.p 8 1]) hst hb Za
      (Qm rfl u_0<|Qm rfl u_0<|Qm rfl u_0<|o_p rfl (Zb0 rfl rfl u_0 u_1 (Zvg (by omega)))<|o_p rfl (Ziv Zdr (by rw [hl2];omega) rfl rfl u_0 u_1)<|Qm rfl u_0<|Qm rfl u_0<|o_p rfl (Ziv Zdr (by simpa using hk) rfl rfl u_0 u_1)<|o_p rfl (Z2g (s:=9) (s2:=0) (ws:=a0.drop k) Zdr (by rw [hl2];omega) (by simp;omega) (by rw [hl2,List.length_map,List.length_drop];exact (Nat.min_eq_left (by omega)).symm) (fun i x hx=>by rw [List.getElem?_drop] at hx;rw [List.getElem?_map,hx];rfl) rfl rfl (by decide) u_0 u_1 u_2 u_3)<|o_n) (fun a g hst hb=>?_)
     refine r_s (T:=[⟨[.o 0],_,[],[],[55]⟩,⟨[.p 0 0],_,[],[0],[6]⟩]) (F:=[.p 1 0]) hst hb Za
      (Qm rfl u_0<|Qa rfl u_0<|o_n) (fun a g hst hb=>?_)
     refine wp_ret ?_
     refine Zo ?_
     have hq:=hst.at 0 rfl
     rw [ins1 hk] at hq
     exact Zr8 rfl hst hb (Zg (s:=6)) hq
    ·have hroom:a0.length + a2.length ≤ cap:=by have:=of_decide_eq_false hc2;simp only [List.length_map] at this;omega
     refine wp_skip ?_
     refine Zp ?_
     refine r_s (L:=[(0,_),(1,_),(2,_),(7,_),(8,_)]) (T:=[⟨[.o 0],_,[],[],[56]⟩,⟨[.o 4],_,[],[],[57]⟩,⟨[.o 3],_,[],[],[58]⟩,⟨[.p 1 0,.p 2 0],_,[],[1,2],[59]⟩,⟨[.p 0 0,.p 3 0],[(60,(pOwn Z2 116 0 (some cap) (a0.map some ++ List.replicate (a0.length + a2.length - (a0.map some).length) none)))],[],[0,1,2,3],[60]⟩,⟨[.p 4 0],_,[],[0,1,2,3,4],[0]⟩]) (F:=[.p 5 0,.o 1,.o 2,.o 3]) (hst.pick [0,1,2,3,4] rfl) hb Za
      (Qm rfl u_0<|Qm rfl u_0<|Qm rfl u_0<|o_p rfl (Zb0 rfl rfl u_0 u_1 (Zvg (by simp only [List.length_map];omega)))<|o_p rfl (Z3e (h:=a0.length + a2.length) Zdr (by simp) hroom rfl rfl u_0 (Opd.to u_1 (by simp)))<|Qa rfl u_0<|o_n) (fun a g hst hb=>?_)
     have hl1:((a0.map some ++ List.replicate (a0.length + a2.length - (a0.map some).length) none):List (Option Zh)).length=a0.length + a2.length:=by simp
     refine wp_seq ?_
     refine r_s (T:=[⟨[.o 2],_,[],[],[61]⟩,⟨[.o 0],_,[],[],[62]⟩,⟨[.o 1],_,[],[],[63]⟩,⟨[.o 3],_,[],[],[64]⟩,⟨[.p 2 0,.p 3 0],_,[],[2,3],[65]⟩,⟨[.p 1 0,.p 4 0],_,[],[1,2,3,4],[66]⟩,⟨[.p 0 0,.p 5 0,.o 0],_,[],[0,1,2,3,4,5],[67]⟩,⟨[.p 6 0],_,[],[0,1,2,3,4,5,6],[68]⟩]) (F:=[.o 0,.o 1,.o 2,.o 3,.p 7 0]) hst hb Za
      (Qm rfl u_0<|Qm rfl u_0<|Qm rfl u_0<|Qm rfl u_0<|o_p rfl (Zb0 rfl rfl u_0 u_1 (Zvg (by omega)))<|o_p rfl (Ziv Zdr (by rw [hl1];omega) rfl rfl u_0 u_1)<|o_p rfl (Z3f (s:=0) Zdr rfl Zbcd (by rw [hl1];omega) rfl rfl u_0 u_1 u_2)<|Qn rfl u_0<|o_n) (fun a g hst hb=>?_)
     refine wp_cond_split (hst.bool 4 rfl) (fun hc3=>?_) (fun hc3=>absurd hc3 (by simp))
     refine r_s (L:=[(0,_),(1,_),(2,_),(7,_)]) (T:=[⟨[.o 0],_,[],[],[69]⟩,⟨[.o 1],_,[],[],[70]⟩,⟨[.o 3],_,[],[],[71]⟩,⟨[.p 1 0,.p 2 0],_,[],[1,2],[72]⟩,⟨[.p 0 0,.p 3 0],_,[],[0,1,2,3],[73]⟩,⟨[.o 0],_,[],[],[74]⟩,⟨[.o 1],_,[],[],[75]⟩,⟨[.p 5 0,.p 6 0],_,[],[5,6],[76]⟩,⟨[.p 4 0,.p 7 0,.o 0,.o 0],_,[1],[0,1,2,3,4,5,6,7],[77,0,69,73,74,76]⟩]) (F:=[.p 8 1,.o 1,.o 2,.o 3]) (hst.pick [0,1,2,3] rfl) hb Za
      (Qm rfl u_0<|Qm rfl u_0<|Qm rfl u_0<|o_p rfl (Zb0 rfl rfl u_0 u_1 (Zvg (by omega)))<|o_p rfl (Ziv Zdr (by rw [hl1];omega) rfl rfl u_0 u_1)<|Qm rfl u_0<|Qm rfl u_0<|o_p rfl (Ziv Zdr (by rw [hl1];omega) rfl rfl u_0 u_1)<|o_p rfl (Z2g (s:=0) (s2:=0) (ws:=a0.drop k) Zdr (by rw [hl1];omega) (by rw [hl1];omega) (by rw [hl1,List.length_drop];have hm1:Nat.min (a0.length + a2.length - k) (a0.length + a2.length - (k + a2.length))=a0.length + a2.length - (k + a2.length):=Nat.min_eq_right (by omega);rw [hm1];omega) (fun i x hx=>by have hi:=(List.getElem?_eq_some_iff.1 hx).1;rw [List.length_drop] at hi;rw [List.getElem?_drop] at hx;rw [List.getElem?_append_left (by simp;omega),List.getElem?_map,hx];rfl) rfl rfl (by decide) u_0 u_1 u_2 u_3)<|o_n) (fun a g hst hb=>?_)
     have hl2:(over ((a0.map some ++ List.replicate (a0.length + a2.length - (a0.map some).length) none):List (Option Zh)) (k + a2.length) (a0.drop k)).length=a0.length + a2.length:=by rw [Znn (by rw [hl1,List.length_drop];omega),hl1]
     refine r_s (T:=[⟨[.o 0],_,[],[],[78]⟩,⟨[.o 1],_,[],[],[79]⟩,⟨[.p 0 0,.p 1 0],_,[],[0,1],[80]⟩,⟨[.o 2],_,[],[],[81]⟩,⟨[.p 2 0,.p 3 0,.o 0],_,[1],[0,1,2,3],[82,0,78,80]⟩]) (F:=[.p 4 1]) hst hb Za
      (Qm rfl u_0<|Qm rfl u_0<|o_p rfl (Ziv Zdr (by rw [hl2];omega) rfl rfl u_0 u_1)<|Qm rfl u_0<|o_p rfl (Z01 (s:=0) Zdr (by rw [hl2];omega) (by rw [hl2];omega) rfl rfl (by decide) u_0 u_1 u_2)<|o_n) (fun a g hst hb=>?_)
     refine r_s (T:=[⟨[.o 0],_,[],[],[83]⟩,⟨[.p 0 0],_,[],[0],[6]⟩]) (F:=[.p 1 0]) hst hb Za
      (Qm rfl u_0<|Qa rfl u_0<|o_n) (fun a g hst hb=>?_)
     refine wp_ret ?_
     refine Zo ?_
     have hq:=hst.at 0 rfl
     rw [ins2 hk] at hq
     exact Zr8 rfl hst hb (Zg (s:=6)) hq
theorem Z25 (a0:Zb) (a1:Zn) (a2:Zd) {r:Int × Zb × Zd} (h:Zkr a0 a1 a2=some r):FnB Tryz.prog 126 [.box Ze a0 r.2.1,.val (Z0.pd a1),.box Zj a2 r.2.2] (pInt .i64 r.1):=by
 have H0:=h
 unfold Zkr at H0
 clear h
 refine Zlc (N:=46) Tryz.func126 rfl rfl (Qe rfl) rfl rfl (fun a g0 bs hbs hst hb=>?_)
 obtain ⟨b0,b2,rfl⟩:=Zmy hbs
 replace hst:St 46 [(0,(Zch (some b0) Ze 0 a0)),(1,(Z0.pd a1)),(2,(Zch (some b2) Zj 2 a2))] _ _:=hst
 refine r_s (T:=[⟨[.o 1],_,[],[],[4]⟩,⟨[],_,[],[],[6]⟩]) (F:=[.o 0,.o 2,.p 0 0]) hst hb Za
  (Qb rfl u_0<|Qa rfl c_i<|o_n) (fun a g hst hb=>?_)
 obtain ⟨r1,h2,H0⟩:=Zc H0
 refine r_s (T:=⟨[.o 0],_,[],[],[10]⟩ :: ⟨[.p 0 0],_,[],[0],[11]⟩ :: ⟨[.p 1 0],_,[],[0,1],[12]⟩ :: ⟨[.p 2 0],_,[],[0,1,2],[13]⟩ :: ⟨[.o 2],_,[],[],[14]⟩ :: ⟨[.p 4 0],_,[],[4],[15]⟩ :: ⟨[.p 3 0,.p 5 0],_,[],Lr 6,[16]⟩ :: ⟨[.p 6 0],_,[],Lr 7,[9]⟩ :: ⟨[.p 7 0],_,[],Lr 8,[17]⟩ :: ⟨[.p 7 0],_,[],Lr 8,[18]⟩ :: ⟨[.p 8 0],_,[],Lr 9,[7]⟩ :: ⟨[.p 9 0],_,[],Lr 11,[8]⟩ :: []) (F:=[.o 0,.o 1,.o 2,.p 10 0,.p 11 0]) hst hb Za
  (Qm rfl u_0<|o_p rfl (Zq rfl rfl u_0 (fun _ _ ⟨_,_,_,e,_⟩=>⟨_,e⟩))<|o_p rfl (Zr Zci (off:=7) (by kernel_rfl) rfl rfl u_0)<|QP rfl Zdb u_0<|Qf rfl Zgc u_0<|Ql rfl ty_9 u_0<|o_p rfl (Zl Z13 (Zqh _ _ h2) rfl rfl (.cons u_0 (.cons u_1 .nil)))<|Qm rfl u_0<|o_p rfl (Zz rfl rfl u_0 rfl)<|o_p rfl (Zz rfl rfl u_0 rfl)<|Qa rfl u_0<|Qa rfl u_0<|o_n) (fun a g hst hb=>?_)
 refine wp_seq ?_
 refine wp_block ?_
 refine r_s (T:=[⟨[.o 4],_,[],[],[20]⟩,⟨[.p 0 0],_,[],[0],[19]⟩]) (F:=[.o 0,.o 1,.o 2,.o 3,.p 1 0]) hst hb Za
  (Qm rfl u_0<|Qa rfl u_0<|o_n) (fun a g hst hb=>?_)
 refine wp_cond_split (hst.bool 4 rfl) (fun hc3=>?_) (fun hc3=>?_)
 ·replace H0:=Zu hc3 H0
  refine r_s (L:=[(0,_),(2,_)]) (T:=[⟨[],_,[],[],[6]⟩]) (F:=[.o 0,.o 1,.p 0 0]) (hst.pick [0,1] rfl) hb Za
   (Qa rfl c_i<|o_n) (fun a g hst hb=>?_)
  refine wp_ret ?_
  refine Z5 ?_
  refine Zo ?_
  obtain rfl:=Option.some.inj H0
  exact Zi9 rfl hst hb (Zg (s:=6)) (hst.at 2 rfl) ⟨Zc5 (hst.at 0 rfl),Zc5 (hst.at 1 rfl),trivial⟩
 ·replace H0:=Zt hc3 H0
  refine r_s (L:=[(0,_),(2,_),(4,_),(7,_)]) (T:=[⟨[.o 0],_,[],[],[22]⟩,⟨[.p 0 0],_,[],[0],[23]⟩,⟨[.p 1 0],_,[],[0,1],[24]⟩,⟨[.p 2 0],_,[],[0,1,2],[25]⟩,⟨[.p 3 0],_,[],Lr 4,[26]⟩,⟨[.o 0],_,[],[],[27]⟩,⟨[.p 5 0],_,[],[5],[28]⟩,⟨[.p 6 0],_,[],[5,6],[29]⟩,⟨[.p 7 0],_,[],[5,6,7],[30]⟩,⟨[.p 4 0,.p 8 0],_,[],Lr 9,[31]⟩,⟨[.p 9 0],_,[],Lr 10,[21]⟩]) (F:=[.o 0,.o 1,.o 2,.o 3,.p 10 0]) (hst.pick [0,1,2,3] rfl) hb Za
   (Qm rfl u_0<|o_p rfl (Zq rfl rfl u_0 (fun _ _ ⟨_,_,_,e,_⟩=>⟨_,e⟩))<|o_p rfl (Zr Zci (off:=7) (by kernel_rfl) rfl rfl u_0)<|QP rfl Zdb u_0<|o_p rfl (Zbx Tryz.underlying36 rfl rfl u_0)<|Qm rfl u_0<|o_p rfl (Zq rfl rfl u_0 (fun _ _ ⟨_,_,_,e,_⟩=>⟨_,e⟩))<|o_p rfl (Zr Zhf (off:=5) (by kernel_rfl) rfl rfl u_0)<|QP rfl ty_3 u_0<|o_p rfl (Zmx rfl rfl u_0 u_1)<|Qa rfl u_0<|o_n) (fun a g hst hb=>?_)
  refine wp_cond_split (hst.bool 4 rfl) (fun hc4=>?_) (fun hc4=>?_)
  ·replace H0:=Zu hc4 H0
   refine r_s (L:=[(0,_),(2,_)]) (T:=[⟨[],_,[],[],[6]⟩]) (F:=[.o 0,.o 1,.p 0 0]) (hst.pick [0,1] rfl) hb Za
    (Qa rfl c_i<|o_n) (fun a g hst hb=>?_)
   refine wp_ret ?_
   refine Z5 ?_
   refine Zo ?_
   obtain rfl:=Option.some.inj H0
   exact Zi9 rfl hst hb (Zg (s:=6)) (hst.at 2 rfl) ⟨Zc5 (hst.at 0 rfl),Zc5 (hst.at 1 rfl),trivial⟩
  ·replace H0:=Zt hc4 H0
   refine wp_skip ?_
   refine Zbc ?_
   refine Zp ?_
   obtain ⟨r5,h6,H0⟩:=Zc H0;obtain ⟨r7,h8,H0⟩:=Zc H0
   refine r_s (L:=[(0,_),(2,_),(4,_),(7,_)]) (T:=⟨[.o 0],_,[],[],[32]⟩ :: ⟨[.o 0],_,[],[],[33]⟩ :: ⟨[.p 1 0],_,[],[1],[34]⟩ :: ⟨[.p 2 0],_,[],[1,2],[35]⟩ :: ⟨[.p 3 0],_,[],[1,2,3],[36]⟩ :: ⟨[.p 4 0],_,[38],List.range' 1 4,[37]⟩ :: ⟨[.o 3],_,[],[],[38]⟩ :: ⟨[.o 2],_,[],[],[39]⟩ :: ⟨[.p 7 0],_,[],[7],[40]⟩ :: ⟨[.p 8 0],_,[],[7,8],[41]⟩ :: ⟨[.p 9 0],_,[],[7,8,9],[42]⟩ :: ⟨[.p 5 0,.p 6 0,.p 10 0],_,[38],List.range' 1 10,[37,43]⟩ :: ⟨[.p 0 0],_,[],Lr 12,[44]⟩ :: ⟨[.p 12 0],_,[],Lr 13,[45]⟩ :: ⟨[.p 11 0,.p 13 0,.o 0],_,[1],Lr 14,[0,32,33,34,35,44,45]⟩ :: []) (F:=[.p 14 0,.o 1]) (hst.pick [0,1,2,3] rfl) hb Za
    (Qm rfl u_0<|Qm rfl u_0<|o_p rfl (Zq rfl rfl u_0 (fun _ _ ⟨_,_,_,e,_⟩=>⟨_,e⟩))<|o_p rfl (Zr Zci (off:=7) (by kernel_rfl) rfl rfl u_0)<|QP rfl Zdb u_0<|o_p rfl (Zmg (j:=37) Z0r (Zgf _ h6) rfl rfl (.cons u_0 .nil))<|Qm rfl u_0<|Qf rfl Zgc u_0<|Ql rfl ty_9 u_0<|o_p rfl (Z1e rfl rfl u_0)<|o_p rfl (Zig Zdr (xs:=[.tmp 41]) (.cons u_0 .nil) (by decide) rfl rfl)<|o_p rfl (Zsz Z6n (Zjq _ _ _ h8) rfl rfl rfl u_0 (.cons u_1 (.cons u_2 .nil)))<|o_p rfl (Zq rfl rfl u_0 (fun _ _ ⟨_,_,_,e,_⟩=>⟨_,e⟩))<|o_p rfl (Zr Zci (off:=7) (by kernel_rfl) rfl rfl u_0)<|o_p rfl (Znv Zdb rfl rfl u_2 u_1 u_0)<|o_n) (fun a g hst hb=>?_)
   refine r_s (T:=[⟨[],_,[],[],[6]⟩]) (F:=[.o 0,.o 1,.p 0 0]) hst hb Za
    (Qa rfl c_i<|o_n) (fun a g hst hb=>?_)
   refine wp_ret ?_
   obtain rfl:=Option.some.inj H0
   exact Zi9 rfl hst hb (Zg (s:=6)) (hst.at 2 rfl) ⟨Zc5 (hst.at 0 rfl),Zc5 (hst.at 1 rfl),trivial⟩
theorem Zna (a0:List Zh) (a1 a2:Int) {r:List Zh} (h:Zfw a0 a1 a2=some r):Z0v Tryz.prog 129 Z2 116 a0 [(pInt .i64 a1),(pInt .i64 a2)] (Z2.sl.pd r):=by
 unfold Zfw at h
 obtain ⟨⟨hpos,hi0,hij,hj,hsz⟩,H0⟩:=Zfv h
 obtain rfl:=Option.some.inj H0
 obtain ⟨k,rfl⟩:=Int.eq_ofNat_of_zero_le hi0
 obtain ⟨l,rfl⟩:=Int.eq_ofNat_of_zero_le (Int.le_trans hi0 hij)
 have hkl:k ≤ l:=by omega
 have hl:l ≤ a0.length:=by omega
 simp only [Int.toNat_natCast]
 refine Z1f (N:=33) Tryz.func129 rfl rfl (Qe rfl) rfl (fun hx a g A0 hst hb=>?_) (fun a g cap hcap hmax hst hb=>?_)
 ·rw [hx] at hpos;cases hpos
 ·refine r_s (T:=[⟨[],[(6,(Z2.sl.pd []))],[],[],[6]⟩]) (F:=[.o 0,.o 1,.o 2]) hst hb Za
   (o_p rfl (Zcu rfl rfl (Opd.c (fun g=>Zf4 g)))<|o_n) (fun a g hst hb=>?_)
  refine r_s (T:=[⟨[.o 0],_,[],[],[8]⟩,⟨[.o 1],_,[],[],[9]⟩,⟨[.o 2],_,[],[],[10]⟩,⟨[.o 0],_,[],[],[11]⟩,⟨[.p 3 0],_,[],[3],[12]⟩,⟨[.p 0 0,.p 1 0,.p 2 0,.p 4 0],[],[],[0,1,2,3,4],[13]⟩]) (F:=[.o 0,.o 1,.o 2]) hst hb Za
   (Qm rfl u_0<|Qm rfl u_0<|Qm rfl u_0<|Qm rfl u_0<|o_p rfl (Zuy Tryz.underlying36 rfl rfl u_0)<|o_p rfl (Z7i Zdr hkl (by simpa using hl) (Nat.le_refl _) rfl u_0 u_1 u_2 u_3)<|o_n) (fun a g hst hb=>?_)
  refine wp_seq ?_
  refine r_s (T:=[⟨[.o 1],_,[],[],[14]⟩,⟨[.o 2],_,[],[],[15]⟩,⟨[.p 0 0,.p 1 0],_,[],[0,1],[16]⟩]) (F:=[.o 0,.o 1,.o 2,.p 2 0]) hst hb Za
   (Qm rfl u_0<|Qm rfl u_0<|o_p rfl (Zbt rfl rfl u_0 u_1)<|o_n) (fun a g hst hb=>?_)
  refine wp_cond_split (hst.bool 3 rfl) (fun hc=>?_) (fun hc=>?_)
  ·refine r_s (L:=[(0,_)]) (T:=[⟨[.o 0],_,[],[],[17]⟩,⟨[.p 0 0],_,[],[0],[6]⟩]) (F:=[.p 1 0]) (hst.pick [0] rfl) hb Za
    (Qm rfl u_0<|Qa rfl u_0<|o_n) (fun a g hst hb=>?_)
   refine wp_ret ?_
   refine Zo ?_
   have hq:=hst.at 0 rfl
   have hkl2:=beq_iff_eq.1 hc
   have he:a0.take k ++ a0.drop l=a0:=by rw [show l=k by omega,List.take_append_drop]
   rw [he]
   exact Zr8 rfl hst hb (Zg (s:=6)) hq
  ·refine wp_skip ?_
   refine Zp ?_
   refine r_s (L:=[(0,_),(1,_),(2,_)]) (T:=[⟨[.o 0],_,[],[],[18]⟩,⟨[.p 0 0],_,[],[0],[19]⟩,⟨[.p 1 0],_,[],[0,1],[7]⟩]) (F:=[.o 0,.o 1,.o 2,.p 2 0]) (hst.pick [0,1,2] rfl) hb Za
    (Qm rfl u_0<|o_p rfl (Zuy Tryz.underlying36 rfl rfl u_0)<|Qa rfl u_0<|o_n) (fun a g hst hb=>?_)
   refine r_s (T:=[⟨[.o 0],_,[],[],[20]⟩,⟨[.o 1],_,[],[],[21]⟩,⟨[.p 0 0,.p 1 0],_,[],[0,1],[22]⟩,⟨[.o 0],_,[],[],[23]⟩,⟨[.o 2],_,[],[],[24]⟩,⟨[.p 3 0,.p 4 0],_,[],[3,4],[25]⟩,⟨[.p 2 0,.p 5 0,.o 0],[(26,(pOwn Z2 116 0 (some cap) ((a0.take k ++ a0.drop l).map some)))],[1],[0,1,2,3,4,5],[26,0,20,22,23,25]⟩,⟨[.p 6 0],_,[],[0,1,2,3,4,5,6],[0]⟩]) (F:=[.p 7 0,.o 3]) hst hb Za
    (Qm rfl u_0<|Qm rfl u_0<|o_p rfl (Zum Zdr (by simp;omega) rfl rfl u_0 u_1)<|Qm rfl u_0<|Qm rfl u_0<|o_p rfl (Ziv Zdr (by simpa using hl) rfl rfl u_0 u_1)<|o_p rfl (Z5g (s:=0) (k:=cap) (xs:=a0.take k) (ws:=a0.drop l) Zdr (by simp;omega) (by simp;omega) (by simp;omega) (by simp) (Zw8 a0 k) (Z5n a0 l) rfl rfl u_0 u_1 u_2)<|Qa rfl u_0<|o_n) (fun a g hst hb=>?_)
   have hl2:((a0.take k ++ a0.drop l).map some).length=k + (a0.length - l):=by simp;omega
   refine r_s (T:=[⟨[.o 0],_,[],[],[27]⟩,⟨[.o 0],_,[],[],[28]⟩,⟨[.p 1 0],_,[],[1],[29]⟩,⟨[.o 1],_,[],[],[30]⟩,⟨[.p 0 0,.p 2 0,.p 3 0],_,[],[0,1,2,3],[31]⟩,⟨[.p 4 0,.o 0],_,[1],[0,1,2,3,4],[0,27,28,31]⟩]) (F:=[.p 5 0]) hst hb Za
    (Qm rfl u_0<|Qm rfl u_0<|o_p rfl (Zuy Tryz.underlying36 rfl rfl u_0)<|Qm rfl u_0<|o_p rfl (Z7d (k:=cap) Zdr (by rw [hl2,List.length_map];omega) (by rw [List.length_map];omega) rfl rfl u_0 u_1 u_2)<|o_p rfl (Z6s (s:=0) (k:=cap) Zdr (by kernel_rfl) (Nat.le_refl _) (by rw [hl2,List.length_map];omega) rfl rfl u_0 u_1)<|o_n) (fun a g hst hb=>?_)
   refine r_s (T:=[⟨[.o 0],_,[],[],[32]⟩,⟨[.p 0 0],_,[],[0],[6]⟩]) (F:=[.p 1 0]) hst hb Za
    (Qm rfl u_0<|Qa rfl u_0<|o_n) (fun a g hst hb=>?_)
   refine wp_ret ?_
   exact Zr8 rfl hst hb (Zg (s:=6)) (hst.at 0 rfl)
theorem Zvo (a0:Zb) (a1:Zn) (a2:Zd) {r:Int × Zb × Zd} (h:Zin a0 a1 a2=some r):FnB Tryz.prog 127 [.box Ze a0 r.2.1,.val (Z0.pd a1),.box Zj a2 r.2.2] (pInt .i64 r.1):=by
 have H0:=h
 unfold Zin at H0
 clear h
 refine Zlc (N:=32) Tryz.func127 rfl rfl (Qe rfl) rfl rfl (fun a g0 bs hbs hst hb=>?_)
 obtain ⟨b0,b2,rfl⟩:=Zmy hbs
 replace hst:St 32 [(0,(Zch (some b0) Ze 0 a0)),(1,(Z0.pd a1)),(2,(Zch (some b2) Zj 2 a2))] _ _:=hst
 refine r_s (T:=[⟨[.o 1],_,[],[],[4]⟩,⟨[],_,[],[],[6]⟩]) (F:=[.o 0,.o 2,.p 0 0]) hst hb Za
  (Qb rfl u_0<|Qa rfl c_i<|o_n) (fun a g hst hb=>?_)
 refine wp_seq ?_
 obtain ⟨r1,h2,H0⟩:=Zc H0
 refine r_s (T:=⟨[.o 0],_,[],[],[10]⟩ :: ⟨[.p 0 0],_,[],[0],[11]⟩ :: ⟨[.p 1 0],_,[],[0,1],[12]⟩ :: ⟨[.p 2 0],_,[],[0,1,2],[13]⟩ :: ⟨[.o 2],_,[],[],[14]⟩ :: ⟨[.p 4 0],_,[],[4],[15]⟩ :: ⟨[.p 3 0,.p 5 0],_,[],Lr 6,[16]⟩ :: ⟨[.p 6 0],_,[],Lr 7,[9]⟩ :: ⟨[.p 7 0],_,[],Lr 8,[17]⟩ :: ⟨[.p 7 0],_,[],Lr 8,[18]⟩ :: ⟨[.p 8 0],_,[],Lr 9,[7]⟩ :: ⟨[.p 9 0],_,[],Lr 11,[8]⟩ :: []) (F:=[.o 0,.o 1,.p 10 0,.p 11 0]) hst hb Za
  (Qm rfl u_0<|o_p rfl (Zq rfl rfl u_0 (fun _ _ ⟨_,_,_,e,_⟩=>⟨_,e⟩))<|o_p rfl (Zr Zci (off:=7) (by kernel_rfl) rfl rfl u_0)<|QP rfl Zdb u_0<|Qf rfl Zgc u_0<|Ql rfl ty_9 u_0<|o_p rfl (Zl Z13 (Zqh _ _ h2) rfl rfl (.cons u_0 (.cons u_1 .nil)))<|Qm rfl u_0<|o_p rfl (Zz rfl rfl u_0 rfl)<|o_p rfl (Zz rfl rfl u_0 rfl)<|Qa rfl u_0<|Qa rfl u_0<|o_n) (fun a g hst hb=>?_)
 refine r_s (T:=[⟨[.o 3],_,[],[],[19]⟩]) (F:=[.o 0,.o 1,.o 2,.p 0 0]) hst hb Za
  (Qm rfl u_0<|o_n) (fun a g hst hb=>?_)
 refine Zb3 (fun a w=>∃ (j8:Zb) (g:G),w=g.w ∧ St 32 [(0,(Zch (some b0) Ze 0 j8)),(2,(Zch (some b2) Zj 2 a2))] a g ∧ Base g0 g ∧ Zjh a2 j8=some r) ?_ ?_
 ·rintro a w ⟨j8,g,rfl,hst,hb,H0⟩
  unfold Zjh at H0
  refine Zp ?_
  refine r_s (T:=[⟨[],_,[],[],[6]⟩]) (F:=[.o 0,.o 1,.p 0 0]) hst hb Za
   (Qa rfl c_i<|o_n) (fun a g hst hb=>?_)
  refine wp_ret ?_
  obtain rfl:=Option.some.inj H0
  exact Zi9 rfl hst hb (Zg (s:=6)) (hst.at 2 rfl) ⟨Zc5 (hst.at 0 rfl),Zc5 (hst.at 1 rfl),trivial⟩
 ·refine wp_cond_split (hst.bool 3 rfl) (fun hc3=>?_) (fun hc3=>?_)
  ·replace H0:=Zu hc3 H0
   obtain ⟨r4,h5,H0⟩:=Zc H0;obtain ⟨r6,h7,H0⟩:=Zc H0
   refine r_g (L:=[(0,_),(2,_),(7,_)]) (T:=⟨[.o 0],_,[],[],[20]⟩ :: ⟨[.o 0],_,[],[],[21]⟩ :: ⟨[.p 1 0],_,[],[1],[22]⟩ :: ⟨[.p 2 0],_,[],[1,2],[23]⟩ :: ⟨[.p 3 0],_,[],[1,2,3],[24]⟩ :: ⟨[.p 4 0],_,[26],List.range' 1 4,[25]⟩ :: ⟨[.o 2],_,[],[],[26]⟩ :: ⟨[.o 2],_,[],[],[27]⟩ :: ⟨[.p 7 0],_,[],[7],[28]⟩ :: ⟨[.p 5 0,.p 6 0,.p 8 0],_,[26],List.range' 1 8,[25,29]⟩ :: ⟨[.p 0 0],_,[],Lr 10,[30]⟩ :: ⟨[.p 10 0],_,[],Lr 11,[31]⟩ :: ⟨[.p 9 0,.p 11 0,.o 0],_,[1],Lr 12,[0,20,21,22,23,30,31]⟩ :: []) (F:=[.p 12 0,.o 1]) (hst.pick [0,1,2] rfl) hb Za
    (Qm rfl u_0<|Qm rfl u_0<|o_p rfl (Zq rfl rfl u_0 (fun _ _ ⟨_,_,_,e,_⟩=>⟨_,e⟩))<|o_p rfl (Zr Zci (off:=7) (by kernel_rfl) rfl rfl u_0)<|QP rfl Zdb u_0<|o_p rfl (Zmg (j:=25) Z0r (Zgf _ h5) rfl rfl (.cons u_0 .nil))<|Qm rfl u_0<|Qm rfl u_0<|o_p rfl (Zb0 rfl rfl u_0 c_i rfl)<|o_p rfl (Zsz Zbch (Zna _ _ _ h7) rfl rfl rfl u_0 (.cons u_1 (.cons u_2 .nil)))<|o_p rfl (Zq rfl rfl u_0 (fun _ _ ⟨_,_,_,e,_⟩=>⟨_,e⟩))<|o_p rfl (Zr Zci (off:=7) (by kernel_rfl) rfl rfl u_0)<|o_p rfl (Znv Zdb rfl rfl u_2 u_1 u_0)<|o_n) (fun a g hst hb=>?_)
   exact ⟨({ a0 with List:=r6 }),g,rfl,(hst.pick [0,1] rfl),hb,H0⟩
  ·replace H0:=Zt hc3 H0
   refine wp_skip ?_
   exact ⟨a0,g,rfl,(hst.pick [0,1] rfl),hb,H0⟩
theorem Zvn (a0:Zb) (a1:Zn) (a2:Zd) {r:Int × Zb × Zd} (h:Zfh a0 a1 a2=some r):FnB Tryz.prog 130 [.box Ze a0 r.2.1,.val (Z0.pd a1),.box Zj a2 r.2.2] (pInt .i64 r.1):=by
 have H0:=h
 unfold Zfh at H0
 clear h
 refine Zlc (N:=21) Tryz.func130 rfl rfl (Qe rfl) rfl rfl (fun a g0 bs hbs hst hb=>?_)
 obtain ⟨b0,b2,rfl⟩:=Zmy hbs
 replace hst:St 21 [(0,(Zch (some b0) Ze 0 a0)),(1,(Z0.pd a1)),(2,(Zch (some b2) Zj 2 a2))] _ _:=hst
 refine r_s (T:=[⟨[.o 1],_,[],[],[4]⟩,⟨[],_,[],[],[6]⟩]) (F:=[.o 0,.o 2,.p 0 0]) hst hb Za
  (Qb rfl u_0<|Qa rfl c_i<|o_n) (fun a g hst hb=>?_)
 refine wp_seq ?_
 obtain ⟨r1,h2,H0⟩:=Zc H0
 refine r_s (T:=⟨[.o 0],_,[],[],[10]⟩ :: ⟨[.p 0 0],_,[],[0],[11]⟩ :: ⟨[.p 1 0],_,[],[0,1],[12]⟩ :: ⟨[.p 2 0],_,[],[0,1,2],[13]⟩ :: ⟨[.o 2],_,[],[],[14]⟩ :: ⟨[.p 4 0],_,[],[4],[15]⟩ :: ⟨[.p 3 0,.p 5 0],_,[],Lr 6,[16]⟩ :: ⟨[.p 6 0],_,[],Lr 7,[9]⟩ :: ⟨[.p 7 0],_,[],Lr 8,[17]⟩ :: ⟨[.p 7 0],_,[],Lr 8,[18]⟩ :: ⟨[.p 8 0],_,[],Lr 9,[7]⟩ :: ⟨[.p 9 0],_,[],Lr 11,[8]⟩ :: []) (F:=[.o 0,.o 1,.p 11 0]) hst hb Za
  (Qm rfl u_0<|o_p rfl (Zq rfl rfl u_0 (fun _ _ ⟨_,_,_,e,_⟩=>⟨_,e⟩))<|o_p rfl (Zr Zci (off:=7) (by kernel_rfl) rfl rfl u_0)<|QP rfl Zdb u_0<|Qf rfl Zgc u_0<|Ql rfl ty_9 u_0<|o_p rfl (Zl Z13 (Zqh _ _ h2) rfl rfl (.cons u_0 (.cons u_1 .nil)))<|Qm rfl u_0<|o_p rfl (Zz rfl rfl u_0 rfl)<|o_p rfl (Zz rfl rfl u_0 rfl)<|Qa rfl u_0<|Qa rfl u_0<|o_n) (fun a g hst hb=>?_)
 refine r_s (T:=[⟨[.o 2],_,[],[],[19]⟩,⟨[.p 0 0],_,[],[0],[20]⟩]) (F:=[.o 0,.o 1,.p 1 0]) hst hb Za
  (Qm rfl u_0<|Qn rfl u_0<|o_n) (fun a g hst hb=>?_)
 refine wp_cond_split (hst.bool 2 rfl) (fun hc3=>?_) (fun hc3=>?_)
 ·replace H0:=Zu hc3 H0
  refine r_s (L:=[(0,_),(2,_)]) (T:=[⟨[],_,[],[],[6]⟩]) (F:=[.o 0,.o 1,.p 0 0]) (hst.pick [0,1] rfl) hb Za
   (Qa rfl c_i<|o_n) (fun a g hst hb=>?_)
  refine wp_ret ?_
  refine Zo ?_
  obtain rfl:=Option.some.inj H0
  exact Zi9 rfl hst hb (Zg (s:=6)) (hst.at 2 rfl) ⟨Zc5 (hst.at 0 rfl),Zc5 (hst.at 1 rfl),trivial⟩
 ·replace H0:=Zt hc3 H0
  refine wp_skip ?_
  refine Zp ?_
  refine r_s (L:=[(0,_),(2,_)]) (T:=[⟨[],_,[],[],[6]⟩]) (F:=[.o 0,.o 1,.p 0 0]) (hst.pick [0,1] rfl) hb Za
   (Qa rfl c_i<|o_n) (fun a g hst hb=>?_)
  refine wp_ret ?_
  obtain rfl:=Option.some.inj H0
  exact Zi9 rfl hst hb (Zg (s:=6)) (hst.at 2 rfl) ⟨Zc5 (hst.at 0 rfl),Zc5 (hst.at 1 rfl),trivial⟩
theorem Z0f (a0:Zb) (a1:Zn) (a2:Zd) {r:Int × Zb × Zd} (h:Zjt a0 a1 a2=some r):FnB Tryz.prog 131 [.box Ze a0 r.2.1,.val (Z0.pd a1),.box Zj a2 r.2.2] (pInt .i64 r.1):=by
 have H0:=h
 unfold Zjt at H0
 clear h
 refine Zlc (N:=75) Tryz.func131 rfl rfl (Qe rfl) rfl rfl (fun a g0 bs hbs hst hb=>?_)
 obtain ⟨b0,b2,rfl⟩:=Zmy hbs
 replace hst:St 75 [(0,(Zch (some b0) Ze 0 a0)),(1,(Z0.pd a1)),(2,(Zch (some b2) Zj 2 a2))] _ _:=hst
 refine r_s (T:=[⟨[.o 1],_,[],[],[4]⟩,⟨[],_,[],[],[6]⟩]) (F:=[.o 0,.o 2,.p 0 0]) hst hb Za
  (Qb rfl u_0<|Qa rfl c_i<|o_n) (fun a g hst hb=>?_)
 refine r_s (T:=[⟨[.o 2],_,[],[],[10]⟩,⟨[.p 0 0],_,[],[0],[11]⟩,⟨[.o 2],_,[],[],[12]⟩,⟨[.p 2 0],_,[],[2],[13]⟩,⟨[.p 1 0,.p 3 0],_,[],Lr 4,[14]⟩,⟨[],[(7,(pBox Z2 7 (default:Zh)))],[8],[],[7]⟩,⟨[.p 4 0,.p 5 0],_,[8],Lr 6,[7]⟩]) (F:=[.o 0,.o 1,.p 6 0]) hst hb Za
  (Qf rfl Zkc u_0<|Ql rfl Zc6 u_0<|Qf rfl Zgc u_0<|Ql rfl ty_9 u_0<|o_p rfl (Zxc rfl rfl u_0 u_1)<|o_p rfl (Zbi (zs:=[.float .f64 0,.string ByteArray.empty]) (by kernel_rfl) (fun g=>Zl5 g) rfl rfl)<|o_p rfl (Zb5 Zeb rfl rfl u_1 u_0)<|o_n) (fun a g hst hb=>?_)
 refine r_s (T:=[⟨[],_,[],[],[8]⟩]) (F:=[.o 0,.o 1,.o 2,.p 0 0]) hst hb Za
  (Qa rfl c_i<|o_n) (fun a g hst hb=>?_)
 obtain ⟨z8,hz1,H0⟩:=Zc H0
 refine wp_seq ?_
 refine Zb3 (fun a w=>∃ (y7:Int) (g:G),w=g.w ∧ St 75 [(0,(Zch (some b0) Ze 0 a0)),(2,(Zch (some b2) Zj 2 a2)),(7,(Z2.ptr ({ Score:=a1.X,Name:=a1.S }:Zh))),(8,(pInt .i64 y7))] a g ∧ Base g0 g ∧ y7=z8) ?_ ?_
 ·rintro a w ⟨y7,g,rfl,hst,hb,rfl⟩
  refine Zp ?_
  refine wp_seq ?_
  obtain ⟨e9,h10,H0⟩:=Zc H0;obtain ⟨r11,h12,H0⟩:=Zc H0
  refine r_s (T:=⟨[.o 3],_,[],[],[35]⟩ :: ⟨[.o 0],_,[],[],[36]⟩ :: ⟨[.p 1 0],_,[],[1],[37]⟩ :: ⟨[.p 2 0],_,[],[1,2],[38]⟩ :: ⟨[.p 3 0],_,[],[1,2,3],[39]⟩ :: ⟨[.p 4 0],_,[],List.range' 1 4,[40]⟩ :: ⟨[.p 0 0,.p 5 0],_,[],Lr 6,[41]⟩ :: ⟨[.p 6 0],_,[],Lr 7,[42]⟩ :: ⟨[.p 7 0,.o 2],_,[],Lr 8,[43]⟩ :: ⟨[.p 7 0,.o 0],_,[],Lr 8,[44]⟩ :: ⟨[.p 7 0,.p 9 0],_,[],[0,1,2,3,4,5,6,7,9],[45]⟩ :: ⟨[.p 7 0,.p 10 0],_,[],[0,1,2,3,4,5,6,7,9,10],[46]⟩ :: ⟨[.p 7 0,.p 11 0],_,[],[0,1,2,3,4,5,6,7,9,10,11],[47]⟩ :: ⟨[.p 7 0,.o 3],_,[],Lr 8,[48]⟩ :: ⟨[.p 7 0,.p 12 0,.p 13 0],_,[],0 :: 1 :: 2 :: 3 :: 4 :: 5 :: 6 :: 7 :: 9 :: 10 :: 11 :: 12 :: 13 :: [],[49]⟩ :: ⟨[.p 7 0,.p 14 0],_,[],0 :: 1 :: 2 :: 3 :: 4 :: 5 :: 6 :: 7 :: 9 :: 10 :: 11 :: 12 :: 13 :: 14 :: [],[50]⟩ :: ⟨[.p 7 0,.p 8 0,.p 15 0],_,[],Lr 16,[51]⟩ :: ⟨[.p 7 0,.p 16 0],_,[],Lr 17,[52]⟩ :: ⟨[.p 7 0,.p 17 0],_,[],Lr 18,[53]⟩ :: []) (F:=[.o 0,.o 1,.o 2,.o 3,.p 18 0]) hst hb Za
   (Qm rfl u_0<|Qm rfl u_0<|o_p rfl (Zq rfl rfl u_0 (fun _ _ ⟨_,_,_,e,_⟩=>⟨_,e⟩))<|o_p rfl (Zr Zci (off:=7) (by kernel_rfl) rfl rfl u_0)<|QP rfl Zdb u_0<|o_p rfl (Zbx Tryz.underlying36 rfl rfl u_0)<|o_p rfl (Zca rfl rfl u_0 u_1)<|Qm rfl u_0<|o_g (Qg_t rfl (fun hG=>Zv Zeb rfl rfl u_0))<|o_g (Qg_t rfl (fun hG=>Z6 rfl rfl u_0))<|o_g (Qg_t rfl (fun hG=>Zq rfl rfl (Opd.gd hG u_0) (fun _ _ ⟨_,_,_,e,_⟩=>⟨_,e⟩)))<|o_g (Qg_t rfl (fun hG=>Zr Zci (off:=7) (by kernel_rfl) rfl rfl (Opd.gd hG u_0)))<|o_g (Qg_t rfl (fun hG=>Zjc Zdb rfl rfl (Opd.gd hG u_0)))<|o_g (Qg_t rfl (fun hG=>Z6 rfl rfl u_0))<|o_g (Qg_t rfl (fun hG=>Zbl Tryz.underlying36 Zfe rfl rfl (Opd.gd hG u_0) (Opd.gd hG u_1) (Zbn h10 hG)))<|o_g (Qg_t rfl (fun hG=>Zv Zeb rfl rfl (Opd.gd hG u_0)))<|o_g (Qg_t rfl (fun hG=>Zl Z2r (Zpw _ _ (Zbn h12 hG)) rfl rfl (.cons (Opd.gd hG u_0) (.cons (Opd.gd hG u_1) .nil))))<|o_g (Qg_t rfl (fun hG=>Ze1 rfl rfl (Opd.gd hG u_0)))<|o_p rfl (Zbk rfl rfl u_0 (fun hz=>(Opd.gd hz u_1)))<|o_n) (fun a g hst hb=>?_)
  refine wp_cond_split (hst.bool 4 rfl) (fun hc13=>?_) (fun hc13=>?_)
  ·replace H0:=Zu hc13 H0
   refine r_s (L:=[(0,_),(2,_)]) (T:=[⟨[],_,[],[],[6]⟩]) (F:=[.o 0,.o 1,.p 0 0]) (hst.pick [0,1] rfl) hb Za
    (Qa rfl c_i<|o_n) (fun a g hst hb=>?_)
   refine wp_ret ?_
   refine Zo ?_
   obtain rfl:=Option.some.inj H0
   exact Zi9 rfl hst hb (Zg (s:=6)) (hst.at 2 rfl) ⟨Zc5 (hst.at 0 rfl),Zc5 (hst.at 1 rfl),trivial⟩
  ·replace H0:=Zt hc13 H0
   refine wp_skip ?_
   refine Zp ?_
   obtain ⟨r14,h15,H0⟩:=Zc H0;obtain ⟨r16,h17,H0⟩:=Zc H0
   refine r_s (L:=[(0,_),(2,_),(7,_),(8,_)]) (T:=[⟨[.o 0],_,[],[],[54]⟩,⟨[.p 0 0],_,[],[0],[55]⟩,⟨[.p 1 0],_,[],[0,1],[56]⟩,⟨[.p 2 0],_,[],[0,1,2],[57]⟩,⟨[.p 3 0],_,[59],Lr 4,[58]⟩,⟨[.o 3],_,[],[],[59]⟩,⟨[.o 2],_,[],[],[60]⟩,⟨[.p 6 0],_,[],[6],[61]⟩,⟨[.p 4 0,.p 5 0,.p 7 0],_,[59],Lr 8,[58,62]⟩,⟨[.p 8 0],_,[],Lr 9,[9]⟩]) (F:=[.o 0,.o 1,.p 9 0]) (hst.pick [0,1,2,3] rfl) hb Za
    (Qm rfl u_0<|o_p rfl (Zq rfl rfl u_0 (fun _ _ ⟨_,_,_,e,_⟩=>⟨_,e⟩))<|o_p rfl (Zr Zci (off:=7) (by kernel_rfl) rfl rfl u_0)<|QP rfl Zdb u_0<|o_p rfl (Zmg (j:=58) Z0r (Zgf _ h15) rfl rfl (.cons u_0 .nil))<|Qm rfl u_0<|Ql rfl Zeb u_0<|o_p rfl (Zig Zdr (xs:=[.tmp 60]) (.cons u_0 .nil) (by decide) rfl rfl)<|o_p rfl (Zsz Z6n (Zjq _ _ _ h17) rfl rfl rfl u_0 (.cons u_1 (.cons u_2 .nil)))<|Qa rfl u_0<|o_n) (fun a g hst hb=>?_)
   obtain ⟨c18,h19,H0⟩:=Zc H0
   refine r_s (T:=⟨[.o 0],_,[],[],[63]⟩ :: ⟨[.o 2],_,[],[],[64]⟩ :: ⟨[.o 2],_,[],[],[65]⟩ :: ⟨[.p 2 0],_,[],[2],[66]⟩ :: ⟨[.o 0],_,[],[],[67]⟩ :: ⟨[.p 4 0],_,[],[4],[68]⟩ :: ⟨[.p 5 0],_,[],[4,5],[69]⟩ :: ⟨[.p 6 0],_,[],[4,5,6],[70]⟩ :: ⟨[.p 3 0,.p 7 0],_,[],List.range' 2 6,[71]⟩ :: ⟨[.p 1 0,.p 8 0],_,[],List.range' 1 8,[72]⟩ :: ⟨[.p 0 0],_,[],Lr 10,[73]⟩ :: ⟨[.p 10 0],_,[],Lr 11,[74]⟩ :: ⟨[.p 9 0,.p 11 0,.o 0],_,[1],Lr 12,[0,63,67,68,69,73,74]⟩ :: []) (F:=[.p 12 0,.o 1]) hst hb Za
    (Qm rfl u_0<|Qm rfl u_0<|Qm rfl u_0<|o_p rfl (Zbx Tryz.underlying36 rfl rfl u_0)<|Qm rfl u_0<|o_p rfl (Zq rfl rfl u_0 (fun _ _ ⟨_,_,_,e,_⟩=>⟨_,e⟩))<|o_p rfl (Zr Zhf (off:=5) (by kernel_rfl) rfl rfl u_0)<|QP rfl ty_3 u_0<|o_p rfl (Zbdr rfl rfl u_0 u_1)<|o_p rfl (Zvi Tryz.underlying36 Zfe rfl rfl u_0 u_1 h19)<|o_p rfl (Zq rfl rfl u_0 (fun _ _ ⟨_,_,_,e,_⟩=>⟨_,e⟩))<|o_p rfl (Zr Zci (off:=7) (by kernel_rfl) rfl rfl u_0)<|o_p rfl (Znv Zdb rfl rfl u_2 u_1 u_0)<|o_n) (fun a g hst hb=>?_)
   refine r_s (T:=[⟨[],_,[],[],[6]⟩]) (F:=[.o 0,.o 1,.p 0 0]) hst hb Za
    (Qa rfl c_i<|o_n) (fun a g hst hb=>?_)
   refine wp_ret ?_
   obtain rfl:=Option.some.inj H0
   exact Zi9 rfl hst hb (Zg (s:=6)) (hst.at 2 rfl) ⟨Zc5 (hst.at 0 rfl),Zc5 (hst.at 1 rfl),trivial⟩
 ·refine wp_block ?_
  refine wp_loop_ghost (fun n a w=>∃ (x1:Int) (g:G),w=g.w ∧ St 75 [(0,(Zch (some b0) Ze 0 a0)),(2,(Zch (some b2) Zj 2 a2)),(7,(Z2.ptr ({ Score:=a1.X,Name:=a1.S }:Zh))),(8,(pInt .i64 x1))] a g ∧ Base g0 g ∧ Zg7 a0 a1 n x1=some z8) (Int.toNat ((a0.List.length:Int) - (0:Int)) + 1) ⟨(0:Int),g,rfl,(hst.pick [0,1,2,3] rfl),hb,hz1⟩ (fun n a w hI=>?_)
  obtain ⟨x1,g,rfl,hst,hb,H1⟩:=hI
  cases n with
  | zero=>exact absurd H1 (by simp [Zg7])
  | succ n =>
   rw [Zg7] at H1
   refine wp_seq ?_
   obtain ⟨e2,h3,H1⟩:=Zc H1;obtain ⟨r4,h5,H1⟩:=Zc H1
   refine r_s (T:=⟨[.o 3],_,[],[],[15]⟩ :: ⟨[.o 0],_,[],[],[16]⟩ :: ⟨[.p 1 0],_,[],[1],[17]⟩ :: ⟨[.p 2 0],_,[],[1,2],[18]⟩ :: ⟨[.p 3 0],_,[],[1,2,3],[19]⟩ :: ⟨[.p 4 0],_,[],List.range' 1 4,[20]⟩ :: ⟨[.p 0 0,.p 5 0],_,[],Lr 6,[21]⟩ :: ⟨[.p 6 0],_,[],Lr 7,[22]⟩ :: ⟨[.p 7 0,.o 0],_,[],Lr 8,[23]⟩ :: ⟨[.p 7 0,.p 8 0],_,[],Lr 9,[24]⟩ :: ⟨[.p 7 0,.p 9 0],_,[],Lr 10,[25]⟩ :: ⟨[.p 7 0,.p 10 0],_,[],Lr 11,[26]⟩ :: ⟨[.p 7 0,.o 3],_,[],Lr 8,[27]⟩ :: ⟨[.p 7 0,.p 11 0,.p 12 0],_,[],Lr 13,[28]⟩ :: ⟨[.p 7 0,.p 13 0],_,[],Lr 14,[29]⟩ :: ⟨[.p 7 0,.o 2],_,[],Lr 8,[30]⟩ :: ⟨[.p 7 0,.p 14 0,.p 15 0],_,[],Lr 16,[31]⟩ :: ⟨[.p 7 0,.p 16 0],_,[],Lr 17,[32]⟩ :: []) (F:=[.o 0,.o 1,.o 2,.o 3,.p 17 0]) hst hb Za
    (Qm rfl u_0<|Qm rfl u_0<|o_p rfl (Zq rfl rfl u_0 (fun _ _ ⟨_,_,_,e,_⟩=>⟨_,e⟩))<|o_p rfl (Zr Zci (off:=7) (by kernel_rfl) rfl rfl u_0)<|QP rfl Zdb u_0<|o_p rfl (Zbx Tryz.underlying36 rfl rfl u_0)<|o_p rfl (Zca rfl rfl u_0 u_1)<|Qm rfl u_0<|o_g (Qg_t rfl (fun hG=>Z6 rfl rfl u_0))<|o_g (Qg_t rfl (fun hG=>Zq rfl rfl (Opd.gd hG u_0) (fun _ _ ⟨_,_,_,e,_⟩=>⟨_,e⟩)))<|o_g (Qg_t rfl (fun hG=>Zr Zci (off:=7) (by kernel_rfl) rfl rfl (Opd.gd hG u_0)))<|o_g (Qg_t rfl (fun hG=>Zjc Zdb rfl rfl (Opd.gd hG u_0)))<|o_g (Qg_t rfl (fun hG=>Z6 rfl rfl u_0))<|o_g (Qg_t rfl (fun hG=>Zbl Tryz.underlying36 Zfe rfl rfl (Opd.gd hG u_0) (Opd.gd hG u_1) (Zbn h3 hG)))<|o_g (Qg_t rfl (fun hG=>Zv Zeb rfl rfl (Opd.gd hG u_0)))<|o_g (Qg_t rfl (fun hG=>Zv Zeb rfl rfl u_0))<|o_g (Qg_t rfl (fun hG=>Zl Z2r (Zpw _ _ (Zbn h5 hG)) rfl rfl (.cons (Opd.gd hG u_0) (.cons (Opd.gd hG u_1) .nil))))<|o_p rfl (Zbk rfl rfl u_0 (fun hz=>(Opd.gd hz u_1)))<|o_n) (fun a g hst hb=>?_)
   refine wp_cond_split (hst.bool 4 rfl) (fun hc6=>?_) (fun hc6=>?_)
   ·replace H1:=Zu hc6 H1
    refine wp_skip ?_
    refine Zp ?_
    refine wp_block ?_
    refine r_g (L:=[(0,_),(2,_),(7,_),(8,_)]) (T:=[⟨[.o 3],_,[],[],[33]⟩,⟨[.p 0 0],_,[],[0],[34]⟩,⟨[.p 1 0],_,[],[0,1],[8]⟩]) (F:=[.o 0,.o 1,.o 2,.p 2 0]) (hst.pick [0,1,2,3] rfl) hb Za
     (Qm rfl u_0<|o_p rfl (Zb0 rfl rfl u_0 c_i rfl)<|Qa rfl u_0<|o_n) (fun a g hst hb=>?_)
    refine Zbc ?_
    exact ⟨n,Nat.lt_succ_self _,(IntKind.i64.wrap (x1 + (1:Int))),g,rfl,(hst.pick [0,1,2,3] rfl),hb,H1⟩
   ·replace H1:=Zt hc6 H1
    refine wp_exit ?_
    refine Zby ?_
    refine Zby ?_
    refine Zcb ?_
    exact ⟨x1,g,rfl,(hst.pick [0,1,2,3] rfl),hb,Option.some.inj H1⟩
def Phi (k:Int) (f:FuncId) (C:List Pd):Prop:=∀ (x0 x1:Zb) (a:Zn) (y0 y1:Zd) (c:Int),Zbb k x0 a y0=some (c,x1,y1) → FnB Tryz.prog f ([.box Ze x0 x1,.val (Z0.pd a),.box Zj y0 y1] ++ C.map .val) (pInt .i64 c)
theorem Zbae {k:Int} {x0:Zb} {a:Zn} {y0:Zd} {r:Int × Zb × Zd} (h:Zbb k x0 a y0=some r):∀ f C,Phi k f C → FnB Tryz.prog f ([.box Ze x0 r.2.1,.val (Z0.pd a),.box Zj y0 r.2.2] ++ C.map .val) (pInt .i64 r.1):=fun f C hΦ=>hΦ _ _ _ _ _ _ h
def tabT:TabT:=fun k=>if 5 ≤ k ∧ k ≤ 21 then some (Phi k) else none
theorem Zbcx {i:Int} (h:5 ≤ i ∧ i ≤ 21):tabT i.toNat=some (Phi i):=by
 unfold tabT
 rw [if_pos (by omega),show ((i.toNat:Nat):Int)=i by omega]
theorem Zbey:Phi 5 113 []:=fun x0 x1 a y0 y1 c h=>Zvp x0 a y0 (r:=(c,x1,y1)) (by simpa [Zbb] using h)
theorem Zbe5:Phi 6 114 []:=fun x0 x1 a y0 y1 c h=>Zvq x0 a y0 (r:=(c,x1,y1)) (by simpa [Zbb] using h)
theorem Zbe9:Phi 7 115 []:=fun x0 x1 a y0 y1 c h=>Zvr x0 a y0 (r:=(c,x1,y1)) (by simpa [Zbb] using h)
theorem Zbft:Phi 8 116 []:=fun x0 x1 a y0 y1 c h=>Z08 x0 a y0 (r:=(c,x1,y1)) (by simpa [Zbb] using h)
theorem Zbd4:Phi 9 117 []:=fun x0 x1 a y0 y1 c h=>Zq8 x0 a y0 (r:=(c,x1,y1)) (by simpa [Zbb] using h)
theorem Zbcs:Phi 10 118 []:=fun x0 x1 a y0 y1 c h=>Zvs x0 a y0 (r:=(c,x1,y1)) (by simpa [Zbb] using h)
theorem Zbc9:Phi 11 119 []:=fun x0 x1 a y0 y1 c h=>Zvk x0 a y0 (r:=(c,x1,y1)) (by simpa [Zbb] using h)
theorem Zbck:Phi 12 117 []:=fun x0 x1 a y0 y1 c h=>Zq8 x0 a y0 (r:=(c,x1,y1)) (by simpa [Zbb] using h)
theorem Zbc3:Phi 13 135 [(Kd.fnc.ptr 121)]:=fun x0 x1 a y0 y1 c h=>by
 have h':Zc9 (fun x y=>Zl3 x y) x0 a y0=some (c,x1,y1):=by simpa [Zbb] using h
 obtain ⟨z,hz,h2⟩:=Zc h'
 injection h2 with h2
 simp only [Prod.mk.injEq] at h2
 obtain ⟨rfl,rfl,rfl⟩:=h2
 exact Zle 121 Zbdb (fun x y=>Zl3 x y) (fun x y z h=>Z5x x y h) x0 a y0 hz
theorem Zbcy:Phi 14 135 [(Kd.fnc.ptr 122)]:=fun x0 x1 a y0 y1 c h=>by
 have h':Zc9 (fun x y=>Zl2 x y) x0 a y0=some (c,x1,y1):=by simpa [Zbb] using h
 obtain ⟨z,hz,h2⟩:=Zc h'
 injection h2 with h2
 simp only [Prod.mk.injEq] at h2
 obtain ⟨rfl,rfl,rfl⟩:=h2
 exact Zle 122 Zbb9 (fun x y=>Zl2 x y) (fun x y z h=>Z5z x y h) x0 a y0 hz
theorem Zbb7:Phi 15 135 [(Kd.fnc.ptr 123)]:=fun x0 x1 a y0 y1 c h=>by
 have h':Zc9 (fun x y=>Zje x y) x0 a y0=some (c,x1,y1):=by simpa [Zbb] using h
 obtain ⟨z,hz,h2⟩:=Zc h'
 injection h2 with h2
 simp only [Prod.mk.injEq] at h2
 obtain ⟨rfl,rfl,rfl⟩:=h2
 exact Zle 123 Zbct (fun x y=>Zje x y) (fun x y z h=>Z3g x y h) x0 a y0 hz
theorem Zbcj:Phi 16 135 [(Kd.fnc.ptr 124)]:=fun x0 x1 a y0 y1 c h=>by
 have h':Zc9 (fun x y=>Zic x y) x0 a y0=some (c,x1,y1):=by simpa [Zbb] using h
 obtain ⟨z,hz,h2⟩:=Zc h'
 injection h2 with h2
 simp only [Prod.mk.injEq] at h2
 obtain ⟨rfl,rfl,rfl⟩:=h2
 exact Zle 124 Zbb5 (fun x y=>Zic x y) (fun x y z h=>Z1w x y h) x0 a y0 hz
theorem Zbda:Phi 17 135 [(Kd.fnc.ptr 125)]:=fun x0 x1 a y0 y1 c h=>by
 have h':Zc9 (fun x y=>Zhg x y) x0 a y0=some (c,x1,y1):=by simpa [Zbb] using h
 obtain ⟨z,hz,h2⟩:=Zc h'
 injection h2 with h2
 simp only [Prod.mk.injEq] at h2
 obtain ⟨rfl,rfl,rfl⟩:=h2
 exact Zle 125 Zbds (fun x y=>Zhg x y) (fun x y z h=>Zvm x y h) x0 a y0 hz
theorem Zbd2:Phi 18 126 []:=fun x0 x1 a y0 y1 c h=>Z25 x0 a y0 (r:=(c,x1,y1)) (by simpa [Zbb] using h)
theorem Zbb4:Phi 19 127 []:=fun x0 x1 a y0 y1 c h=>Zvo x0 a y0 (r:=(c,x1,y1)) (by simpa [Zbb] using h)
theorem Zbc7:Phi 20 130 []:=fun x0 x1 a y0 y1 c h=>Zvn x0 a y0 (r:=(c,x1,y1)) (by simpa [Zbb] using h)
theorem Zbdd:Phi 21 131 []:=fun x0 x1 a y0 y1 c h=>Z0f x0 a y0 (r:=(c,x1,y1)) (by simpa [Zbb] using h)
theorem Z3q {N d:Nat} {o:Oper} {uses:Zbm} (hop:o.op=.build 157 #[(5,.func 113),(6,.func 114),(7,.func 115),(8,.func 116),(9,.func 117),(12,.func 117),(10,.func 118),(11,.func 119),(13,.tmp 1),(14,.tmp 2),(15,.tmp 3),(16,.tmp 4),(17,.tmp 5),(18,.func 126),(19,.func 127),(20,.func 130),(21,.func 131)]) (hd:o.dst=some d) (h1:Opd uses (.tmp 1) (pClo 135 [(Kd.fnc.ptr 121)] rfl)) (h2:Opd uses (.tmp 2) (pClo 135 [(Kd.fnc.ptr 122)] rfl)) (h3:Opd uses (.tmp 3) (pClo 135 [(Kd.fnc.ptr 123)] rfl)) (h4:Opd uses (.tmp 4) (pClo 135 [(Kd.fnc.ptr 124)] rfl)) (h5:Opd uses (.tmp 5) (pClo 135 [(Kd.fnc.ptr 125)] rfl)):OB Tryz.prog N o uses [(d,((Kd.tab Tryz.prog 22 (by decide)).pd tabT))] [] :=
 Zck hd fun a g hh=>by
  obtain ⟨c1,e1,k1⟩:=h1 a g hh
  obtain ⟨c2,e2,k2⟩:=h2 a g hh
  obtain ⟨c3,e3,k3⟩:=h3 a g hh
  obtain ⟨c4,e4,k4⟩:=h4 a g hh
  obtain ⟨c5,e5,k5⟩:=h5 a g hh
  refine ⟨.agg #[.nilFunc,.nilFunc,.nilFunc,.nilFunc,.nilFunc,.func (.func 113) #[] #[],.func (.func 114) #[] #[],.func (.func 115) #[] #[],.func (.func 116) #[] #[],.func (.func 117) #[] #[],.func (.func 118) #[] #[],.func (.func 119) #[] #[],.func (.func 117) #[] #[],.func (.func 135) #[] c1.toArray,.func (.func 135) #[] c2.toArray,.func (.func 135) #[] c3.toArray,.func (.func 135) #[] c4.toArray,.func (.func 135) #[] c5.toArray,.func (.func 126) #[] #[],.func (.func 127) #[] #[],.func (.func 130) #[] #[],.func (.func 131) #[] #[]],?_,[.nilFunc,.nilFunc,.nilFunc,.nilFunc,.nilFunc,.func (.func 113) #[] #[],.func (.func 114) #[] #[],.func (.func 115) #[] #[],.func (.func 116) #[] #[],.func (.func 117) #[] #[],.func (.func 118) #[] #[],.func (.func 119) #[] #[],.func (.func 117) #[] #[],.func (.func 135) #[] c1.toArray,.func (.func 135) #[] c2.toArray,.func (.func 135) #[] c3.toArray,.func (.func 135) #[] c4.toArray,.func (.func 135) #[] c5.toArray,.func (.func 126) #[] #[],.func (.func 127) #[] #[],.func (.func 130) #[] #[],.func (.func 131) #[] #[]],⟨rfl,?_,?_⟩,rfl⟩
  ·simp only [execOp,hop,Sem.run_bind,Sem.run_pure,Result.andThen_ok,List.map_toArray,List.map_cons,List.map_nil,e1,e2,e3,e4,e5]
   rw [Z1z Tryz.underlying157 (zero:=.agg #[.nilFunc,.nilFunc,.nilFunc,.nilFunc,.nilFunc,.nilFunc,.nilFunc,.nilFunc,.nilFunc,.nilFunc,.nilFunc,.nilFunc,.nilFunc,.nilFunc,.nilFunc,.nilFunc,.nilFunc,.nilFunc,.nilFunc,.nilFunc,.nilFunc,.nilFunc]) (by kernel_rfl) (by kernel_rfl) (cells:=#[.nilFunc,.nilFunc,.nilFunc,.nilFunc,.nilFunc,.func (.func 113) #[] #[],.func (.func 114) #[] #[],.func (.func 115) #[] #[],.func (.func 116) #[] #[],.func (.func 117) #[] #[],.func (.func 118) #[] #[],.func (.func 119) #[] #[],.func (.func 117) #[] #[],.func (.func 135) #[] c1.toArray,.func (.func 135) #[] c2.toArray,.func (.func 135) #[] c3.toArray,.func (.func 135) #[] c4.toArray,.func (.func 135) #[] c5.toArray,.func (.func 126) #[] #[],.func (.func 127) #[] #[],.func (.func 130) #[] #[],.func (.func 131) #[] #[]]) (by kernel_rfl) g.w]
   rfl
  ·intro u hu
   simp only [List.mem_cons,List.not_mem_nil,or_false] at hu
   rcases hu with rfl | rfl | rfl | rfl | rfl | rfl | rfl | rfl | rfl | rfl | rfl | rfl | rfl | rfl | rfl | rfl | rfl | rfl | rfl | rfl | rfl | rfl <;> rfl
  ·intro k F u hF hu
   unfold tabT at hF
   split at hF
   ·rename_i hk
    obtain rfl:=Option.some.inj hF
    obtain ⟨hk1,hk2⟩:=hk
    have hk:k=5 ∨ k=6 ∨ k=7 ∨ k=8 ∨ k=9 ∨ k=10 ∨ k=11 ∨ k=12 ∨ k=13 ∨ k=14 ∨ k=15 ∨ k=16 ∨ k=17 ∨ k=18 ∨ k=19 ∨ k=20 ∨ k=21:=by omega
    rcases hk with rfl | rfl | rfl | rfl | rfl | rfl | rfl | rfl | rfl | rfl | rfl | rfl | rfl | rfl | rfl | rfl | rfl
    ·obtain rfl:=Option.some.inj hu;exact ⟨113,[],[],rfl,Zbdo,rfl,Zbey,Zfa,fun q hq=>by cases hq⟩
    ·obtain rfl:=Option.some.inj hu;exact ⟨114,[],[],rfl,Zbcu,rfl,Zbe5,Zfa,fun q hq=>by cases hq⟩
    ·obtain rfl:=Option.some.inj hu;exact ⟨115,[],[],rfl,Zbdl,rfl,Zbe9,Zfa,fun q hq=>by cases hq⟩
    ·obtain rfl:=Option.some.inj hu;exact ⟨116,[],[],rfl,Zbdn,rfl,Zbft,Zfa,fun q hq=>by cases hq⟩
    ·obtain rfl:=Option.some.inj hu;exact ⟨117,[],[],rfl,Z6y,rfl,Zbd4,Zfa,fun q hq=>by cases hq⟩
    ·obtain rfl:=Option.some.inj hu;exact ⟨118,[],[],rfl,Zbcf,rfl,Zbcs,Zfa,fun q hq=>by cases hq⟩
    ·obtain rfl:=Option.some.inj hu;exact ⟨119,[],[],rfl,Zbcp,rfl,Zbc9,Zfa,fun q hq=>by cases hq⟩
    ·obtain rfl:=Option.some.inj hu;exact ⟨117,[],[],rfl,Z6y,rfl,Zbck,Zfa,fun q hq=>by cases hq⟩
    ·obtain rfl:=Option.some.inj hu;exact ⟨135,_,c1,rfl,Zuc,rfl,Zbc3,k1,Zmh⟩
    ·obtain rfl:=Option.some.inj hu;exact ⟨135,_,c2,rfl,Zuc,rfl,Zbcy,k2,Zmh⟩
    ·obtain rfl:=Option.some.inj hu;exact ⟨135,_,c3,rfl,Zuc,rfl,Zbb7,k3,Zmh⟩
    ·obtain rfl:=Option.some.inj hu;exact ⟨135,_,c4,rfl,Zuc,rfl,Zbcj,k4,Zmh⟩
    ·obtain rfl:=Option.some.inj hu;exact ⟨135,_,c5,rfl,Zuc,rfl,Zbda,k5,Zmh⟩
    ·obtain rfl:=Option.some.inj hu;exact ⟨126,[],[],rfl,Zbdf,rfl,Zbd2,Zfa,fun q hq=>by cases hq⟩
    ·obtain rfl:=Option.some.inj hu;exact ⟨127,[],[],rfl,Zbdq,rfl,Zbb4,Zfa,fun q hq=>by cases hq⟩
    ·obtain rfl:=Option.some.inj hu;exact ⟨130,[],[],rfl,Zbce,rfl,Zbc7,Zfa,fun q hq=>by cases hq⟩
    ·obtain rfl:=Option.some.inj hu;exact ⟨131,[],[],rfl,Zbc2,rfl,Zbdd,Zfa,fun q hq=>by cases hq⟩
   ·cases hF
theorem Z57:Ty Tryz.prog 157 (Kd.tab Tryz.prog 22 (by decide)):=⟨by kernel_rfl,by kernel_rfl⟩
theorem Zxu:FnOk Tryz.prog 94 [] (pTab Tryz.prog 22 tabT):=by
 refine Zbs (N:=7) Tryz.func94 rfl rfl (Qe rfl) rfl rfl (fun a g0 hst hb=>?_)
 refine r_s (T:=[⟨[],[(0,(pBox (Kd.tab Tryz.prog 22 (by decide)) 0 (fun _=>none)))],[1],[],[0]⟩]) (F:=[.p 0 0]) hst hb Za
  (o_p rfl (Zbi (zs:=[.nilFunc,.nilFunc,.nilFunc,.nilFunc,.nilFunc,.nilFunc,.nilFunc,.nilFunc,.nilFunc,.nilFunc,.nilFunc,.nilFunc,.nilFunc,.nilFunc,.nilFunc,.nilFunc,.nilFunc,.nilFunc,.nilFunc,.nilFunc,.nilFunc,.nilFunc]) (by kernel_rfl) (fun g=>⟨rfl,by decide,fun k F u h=>by cases h⟩) rfl rfl)<|o_n) (fun a g hst hb=>?_)
 refine r_s (T:=[⟨[],_,[],[],[1]⟩,⟨[],_,[],[0],[2]⟩,⟨[],_,[],[0,1],[3]⟩,⟨[],_,[],[0,1,2],[4]⟩,⟨[],_,[],[0,1,2,3],[5]⟩,⟨[.p 0 0,.p 1 0,.p 2 0,.p 3 0,.p 4 0],_,[],[0,1,2,3,4],[6]⟩,⟨[.p 5 0,.o 0],[(0,(pBox (Kd.tab Tryz.prog 22 (by decide)) 0 tabT))],[1],[0,1,2,3,4,5],[0]⟩]) (F:=[.p 6 0]) hst hb Za
  (o_p rfl (Zl Zt0 (Zmn 121) rfl rfl (.cons Opd.fncv .nil))<|o_p rfl (Zl Zt0 (Zmn 122) rfl rfl (.cons Opd.fncv .nil))<|o_p rfl (Zl Zt0 (Zmn 123) rfl rfl (.cons Opd.fncv .nil))<|o_p rfl (Zl Zt0 (Zmn 124) rfl rfl (.cons Opd.fncv .nil))<|o_p rfl (Zl Zt0 (Zmn 125) rfl rfl (.cons Opd.fncv .nil))<|o_p rfl (Z3q rfl rfl u_0 u_1 u_2 u_3 u_4)<|o_p rfl (Z3 Z57 rfl rfl u_1 u_0)<|o_n) (fun a g hst hb=>?_)
 refine wp_ret ?_
 obtain ⟨u0,hu0,hq0⟩:=Zbh (P:=Tryz.prog) Z57 (hst.at 0 rfl)
 exact Z4 rfl hst hb hu0 (Z9b hq0)
theorem Z0d (a0:Zb) (a1:Bool) (a2:Zn) {r:Zb × Bool × Zd} (h:Zc0 a0 a1 a2=some r):FnOk Tryz.prog 68 [(Ze.pd a0),(Zbf a1),(Z0.pd a2)] (pTup [(Ze.pd r.1),(Zbf r.2.1),(Zj.pd r.2.2)]):=by
 have H0:=h
 unfold Zc0 at H0
 clear h
 refine Zbs (N:=123) Tryz.func68 rfl rfl (Qe rfl) rfl rfl (fun a g0 hst hb=>?_)
 refine r_s (T:=[⟨[.o 0],_,[4],[],[3]⟩,⟨[.o 1],_,[],[],[4]⟩,⟨[.o 2],_,[],[],[5]⟩,⟨[],[(6,(pBox Ze 6 (default:Zb)))],[7],[],[6]⟩,⟨[],_,[],[],[7]⟩,⟨[],[(8,(pBox Zj 8 (default:Zd)))],[9],[],[8]⟩]) (F:=[.p 0 0,.p 1 0,.p 2 0,.p 3 0,.p 5 0]) hst hb Za
  (o_p rfl (Zkb rfl rfl u_0)<|Qb rfl u_0<|Qb rfl u_0<|o_p rfl (Zbi (zs:=[.int .i64 0,.int .i64 0,.int .i64 0,.int .i64 0,.float .f64 0,.int .i64 0,.string ByteArray.empty,.slice none 0 0]) (by kernel_rfl) (fun g=>Zb2 g) rfl rfl)<|Qa rfl c_b<|o_p rfl (Zbi (zs:=[.int .i64 0,.int .i64 0,.int .i64 0,.int .i64 0,.int .i64 0,.int .i64 0,.float .f64 0,.int .i64 0,.string ByteArray.empty,.slice none 0 0]) (by kernel_rfl) (fun g=>Zed g) rfl rfl)<|o_n) (fun a g hst hb=>?_)
 refine wp_seq ?_
 refine r_s (T:=[⟨[.o 1],_,[],[],[15]⟩,⟨[.p 0 0],_,[],[0],[16]⟩]) (F:=[.o 0,.o 1,.o 2,.o 3,.o 4,.p 1 0]) hst hb Za
  (Ql rfl ty_4 u_0<|Qn rfl u_0<|o_n) (fun a g hst hb=>?_)
 refine Zb3 (fun a w=>∃ (j2:Zb) (g:G),w=g.w ∧ St 123 [(3,(pBox Ze 3 j2)),(4,(Kd.bool.ptr a1)),(5,(Z0.ptr a2)),(6,(pBox Ze 6 (default:Zb))),(8,(pBox Zj 8 (default:Zd)))] a g ∧ Base g0 g ∧ Zfd a1 a2 j2=some r) ?_ ?_
 ·rintro a w ⟨j2,g,rfl,hst,hb,H0⟩
  unfold Zfd at H0
  refine Zp ?_
  obtain ⟨r3,h4,H0⟩:=Zc H0
  refine r_s (T:=[⟨[.o 0],_,[],[],[18]⟩,⟨[.p 0 0],_,[],[0],[19]⟩,⟨[.p 1 0,.o 0],_,[4],[0,1],[3]⟩]) (F:=[.p 2 0,.o 1,.o 2,.o 3,.o 4]) hst hb Za
   (QM rfl Zbe u_0<|o_p rfl (Zl Zo2 (Zg4 _ h4) rfl rfl (.cons u_0 .nil))<|o_p rfl (Z3 Zbe rfl rfl u_1 u_0)<|o_n) (fun a g hst hb=>?_)
  refine r_s (T:=[⟨[.o 0,.o 1],_,[],[],[20]⟩,⟨[.p 0 0],_,[],[0],[9]⟩]) (F:=[.o 0,.o 1,.o 2,.o 3,.o 4,.p 1 0]) hst hb Za
   (o_p rfl (Z2v rfl rfl (.cons u_0 (.cons u_1 .nil)))<|Qa rfl u_0<|o_n) (fun a g hst hb=>?_)
  refine wp_seq ?_
  obtain ⟨r5,h6,H0⟩:=Zc H0
  refine r_s (T:=[⟨[.o 2],_,[],[],[21]⟩,⟨[.p 0 0],_,[],[0],[22]⟩,⟨[.p 1 0],_,[],[0,1],[10]⟩]) (F:=[.o 0,.o 1,.o 2,.o 3,.o 4,.o 5,.p 2 0]) hst hb Za
   (Ql rfl Zgw u_0<|o_p rfl (Zl Z9k (Zup _ h6) rfl rfl (.cons u_0 .nil))<|Qa rfl u_0<|o_n) (fun a g hst hb=>?_)
  refine r_s (T:=[⟨[.o 6],_,[],[],[23]⟩,⟨[.p 0 0],_,[],[0],[24]⟩]) (F:=[.o 0,.o 1,.o 2,.o 3,.o 4,.o 5,.o 6,.p 1 0]) hst hb Za
   (Qm rfl u_0<|o_p rfl (Zdn rfl rfl u_0 c_i)<|o_n) (fun a g hst hb=>?_)
  refine wp_cond_split (hst.bool 7 rfl) (fun hc7=>?_) (fun hc7=>?_)
  ·replace H0:=Zu hc7 H0
   obtain ⟨r8,h9,H0⟩:=Zc H0
   refine r_s (L:=[(3,_),(4,_),(6,_),(8,_),(9,_),(10,_)]) (T:=[⟨[.o 4],_,[],[],[25]⟩,⟨[.o 5],_,[],[],[26]⟩,⟨[.p 0 0,.p 1 0,.o 0],[(27,(pTup [(Ze.pd r8.1),(Zbf r8.2.1),(Zj.pd r8.2.2.1)])),(3,(pBox Ze 3 r8.2.2.2))],[4],[0,1],[3,9,25,27]⟩,⟨[.p 2 0],_,[],[0,1,2],[28]⟩,⟨[.p 2 0],_,[],[0,1,2],[29]⟩,⟨[.p 2 0],_,[],[0,1,2],[30]⟩,⟨[.p 3 0,.o 2],_,[7],Lr 6,[6]⟩,⟨[.p 4 0],_,[],Lr 7,[7]⟩,⟨[.p 5 0,.o 3],_,[9],Lr 8,[8]⟩]) (F:=[.p 2 1,.o 1,.p 6 0,.p 7 0,.p 8 0]) (hst.pick [0,1,3,4,5,6] rfl) hb Za
    (Qm rfl u_0<|Qm rfl u_0<|o_p rfl (Zoe (Ps:=[.val (pInt .i64 r5)]) (hs:=[]) (ks:=[(3,none,3)]) Zw0 (Zk1 _ _ _ h9) rfl rfl rfl u_0 (.val u_1 .nil) (.box u_2 rfl (.val .nil)) rfl rfl rfl rfl)<|o_p rfl (Zz rfl rfl u_0 rfl)<|o_p rfl (Zz rfl rfl u_0 rfl)<|o_p rfl (Zz rfl rfl u_0 rfl)<|o_p rfl (Z3 Zbe rfl rfl u_1 u_0)<|Qa rfl u_0<|o_p rfl (Z3 Zb8 rfl rfl u_1 u_0)<|o_n) (fun a g hst hb=>?_)
   refine wp_ret ?_
   refine Zo ?_
   obtain rfl:=Option.some.inj H0
   obtain ⟨u0,hu0,hq0⟩:=Zbh (P:=Tryz.prog) Zbe (hst.at 2 rfl)
   obtain ⟨u2,hu2,hq2⟩:=Zbh (P:=Tryz.prog) Zb8 (hst.at 4 rfl)
   exact Zjr rfl hst hb hu0 (Zg (s:=7)) hu2 (Zhl hq0 (hst.at 3 rfl) hq2)
  ·replace H0:=Zt hc7 H0
   refine wp_skip ?_
   refine Zp ?_
   refine wp_seq ?_
   refine r_s (L:=[(3,_),(4,_),(5,_),(6,_),(8,_),(9,_)]) (T:=[⟨[.o 1],_,[],[],[31]⟩]) (F:=[.o 0,.o 1,.o 2,.o 3,.o 4,.o 5,.p 0 0]) (hst.pick [0,1,2,3,4,5] rfl) hb Za
    (Ql rfl ty_4 u_0<|o_n) (fun a g hst hb=>?_)
   refine Zb3 (fun a w=>∃ (g:G),w=g.w ∧ St 123 [(3,(pBox Ze 3 r3)),(4,(Kd.bool.ptr a1)),(5,(Z0.ptr a2)),(6,(pBox Ze 6 (default:Zb))),(8,(pBox Zj 8 (default:Zd))),(9,(Z0y 92 [(pBox Ze 3 r3),(Kd.bool.ptr a1)]))] a g ∧ Base g0 g ∧ Zgj a1 a2 r3=some r) ?_ ?_
   ·rintro a w ⟨g,rfl,hst,hb,H0⟩
    unfold Zgj at H0
    refine Zp ?_
    refine wp_seq ?_
    refine wp_block ?_
    refine r_s (T:=[⟨[.o 2],_,[],[],[43]⟩,⟨[.p 0 0],_,[],[0],[44]⟩,⟨[.p 1 0],_,[],[0,1],[45]⟩,⟨[.p 2 0],_,[],[0,1,2],[46]⟩,⟨[.p 3 0,.o 1],_,[],Lr 4,[47]⟩,⟨[.p 3 0,.p 4 0],_,[],Lr 5,[48]⟩,⟨[.p 5 0],_,[],Lr 6,[42]⟩]) (F:=[.o 0,.o 1,.o 2,.o 3,.o 4,.o 5,.p 6 0]) hst hb Za
     (Qf rfl Zc4 u_0<|Ql rfl ty_3 u_0<|o_p rfl (Zbt rfl rfl u_0 c_i)<|Qm rfl u_0<|o_g (Qg_t rfl (fun hG=>Zv ty_4 rfl rfl u_0))<|o_p rfl (Zbk rfl rfl u_0 (fun hz=>(Opd.gd hz u_1)))<|Qa rfl u_0<|o_n) (fun a g hst hb=>?_)
    refine wp_cond_split (hst.bool 6 rfl) (fun hc16=>?_) (fun hc16=>?_)
    ·replace H0:=Zu hc16 H0
     obtain ⟨r17,h18,H0⟩:=Zc H0
     refine r_s (L:=[(3,_),(4,_),(6,_),(8,_),(9,_)]) (T:=[⟨[.o 4],_,[],[],[49]⟩,⟨[.p 0 0,.o 0],[(50,(pTup [(Ze.pd r17.1),(Zbf r17.2.1),(Zj.pd r17.2.2.1)])),(3,(pBox Ze 3 r17.2.2.2))],[4],[0],[3,9,49,50]⟩,⟨[.p 1 0],_,[],[0,1],[51]⟩,⟨[.p 1 0],_,[],[0,1],[52]⟩,⟨[.p 1 0],_,[],[0,1],[53]⟩,⟨[.p 2 0,.o 2],_,[7],Lr 5,[6]⟩,⟨[.p 3 0],_,[],Lr 6,[7]⟩,⟨[.p 4 0,.o 3],_,[9],Lr 7,[8]⟩]) (F:=[.p 1 1,.o 1,.p 5 0,.p 6 0,.p 7 0]) (hst.pick [0,1,3,4,5] rfl) hb Za
      (Qm rfl u_0<|o_p rfl (Zoe (Ps:=[.val (pInt .i64 (7:Int))]) (hs:=[]) (ks:=[(3,none,3)]) Zw0 (Zk1 _ _ _ h18) rfl rfl rfl u_0 (.val c_i .nil) (.box u_1 rfl (.val .nil)) rfl rfl rfl rfl)<|o_p rfl (Zz rfl rfl u_0 rfl)<|o_p rfl (Zz rfl rfl u_0 rfl)<|o_p rfl (Zz rfl rfl u_0 rfl)<|o_p rfl (Z3 Zbe rfl rfl u_1 u_0)<|Qa rfl u_0<|o_p rfl (Z3 Zb8 rfl rfl u_1 u_0)<|o_n) (fun a g hst hb=>?_)
     refine wp_ret ?_
     refine Z5 ?_
     refine Zo ?_
     obtain rfl:=Option.some.inj H0
     obtain ⟨u0,hu0,hq0⟩:=Zbh (P:=Tryz.prog) Zbe (hst.at 2 rfl)
     obtain ⟨u2,hu2,hq2⟩:=Zbh (P:=Tryz.prog) Zb8 (hst.at 4 rfl)
     exact Zjr rfl hst hb hu0 (Zg (s:=7)) hu2 (Zhl hq0 (hst.at 3 rfl) hq2)
    ·replace H0:=Zt hc16 H0
     refine r_s (L:=[(3,_),(4,_),(5,_),(6,_),(8,_),(9,_)]) (T:=[⟨[.o 2],_,[],[],[55]⟩,⟨[.p 0 0],_,[],[0],[56]⟩,⟨[.p 1 0],_,[],[0,1],[57]⟩,⟨[.p 2 0],_,[],[0,1,2],[54]⟩]) (F:=[.o 0,.o 1,.o 2,.o 3,.o 4,.o 5,.p 3 0]) (hst.pick [0,1,2,3,4,5] rfl) hb Za
      (Qf rfl Zc4 u_0<|Ql rfl ty_3 u_0<|o_p rfl (Zbt rfl rfl u_0 c_i)<|Qa rfl u_0<|o_n) (fun a g hst hb=>?_)
     refine wp_cond_split (hst.bool 6 rfl) (fun hc19=>?_) (fun hc19=>?_)
     ·replace H0:=Zu hc19 H0
      obtain ⟨r20,h21,H0⟩:=Zc H0
      refine r_s (L:=[(3,_),(4,_),(5,_),(6,_),(8,_)]) (T:=[⟨[.o 2],_,[],[],[58]⟩,⟨[.p 0 0],_,[],[0],[59]⟩,⟨[.p 1 0],_,[],[0,1],[60]⟩,⟨[],_,[],[],[61]⟩,⟨[.p 2 0,.o 3],_,[7],[0,1,2],[6]⟩,⟨[],_,[],[0,1,2,4],[7]⟩,⟨[.p 3 0,.o 4],_,[9],Lr 6,[8]⟩]) (F:=[.o 0,.o 1,.p 4 0,.p 5 0,.p 6 0]) (hst.pick [0,1,2,3,4] rfl) hb Za
       (Qf rfl Zm2 u_0<|Ql rfl Zbe u_0<|o_p rfl (Zl Zo2 (Zg4 _ h21) rfl rfl (.cons u_0 .nil))<|o_p rfl (Zrx rfl rfl )<|o_p rfl (Z3 Zbe rfl rfl u_1 u_0)<|Qa rfl c_b<|o_p rfl (Z3 Zb8 rfl rfl u_1 u_0)<|o_n) (fun a g hst hb=>?_)
      refine wp_ret ?_
      refine Z5 ?_
      refine Zo ?_
      obtain rfl:=Option.some.inj H0
      obtain ⟨u0,hu0,hq0⟩:=Zbh (P:=Tryz.prog) Zbe (hst.at 2 rfl)
      obtain ⟨u2,hu2,hq2⟩:=Zbh (P:=Tryz.prog) Zb8 (hst.at 4 rfl)
      exact Zjr rfl hst hb hu0 (Zg (s:=7)) hu2 (Zhl hq0 (hst.at 3 rfl) hq2)
     ·replace H0:=Zt hc19 H0
      refine r_s (L:=[(3,_),(4,_),(5,_),(6,_),(8,_),(9,_)]) (T:=[⟨[.o 2],_,[],[],[63]⟩,⟨[.p 0 0],_,[],[0],[64]⟩,⟨[.p 1 0],_,[],[0,1],[65]⟩,⟨[.p 2 0],_,[],[0,1,2],[62]⟩]) (F:=[.o 0,.o 1,.o 2,.o 3,.o 4,.o 5,.p 3 0]) (hst.pick [0,1,2,3,4,5] rfl) hb Za
       (Qf rfl Zc4 u_0<|Ql rfl ty_3 u_0<|o_p rfl (Zbt rfl rfl u_0 c_i)<|Qa rfl u_0<|o_n) (fun a g hst hb=>?_)
      refine wp_cond_split (hst.bool 6 rfl) (fun hc22=>?_) (fun hc22=>?_)
      ·replace H0:=Zu hc22 H0
       refine r_s (L:=[(3,_),(4,_),(6,_),(8,_)]) (T:=[⟨[.o 0],_,[],[],[66]⟩,⟨[.o 1],_,[],[],[67]⟩,⟨[.o 0],_,[],[],[68]⟩,⟨[.p 2 0],_,[],[2],[69]⟩,⟨[.p 3 0],_,[],[2,3],[70]⟩,⟨[.p 0 0,.o 2],_,[7],[0],[6]⟩,⟨[.p 1 0],_,[],[0,1,5],[7]⟩,⟨[.p 4 0,.o 3],_,[9],Lr 7,[8]⟩]) (F:=[.o 0,.o 1,.p 5 0,.p 6 0,.p 7 0]) (hst.pick [0,1,3,4] rfl) hb Za
        (QM rfl Zbe u_0<|Ql rfl ty_4 u_0<|o_p rfl (Zr Zgm (off:=0) (by kernel_rfl) rfl rfl u_0)<|QP rfl ty_3 u_0<|o_p rfl (Z4u rfl rfl u_0)<|o_p rfl (Z3 Zbe rfl rfl u_1 u_0)<|Qa rfl u_0<|o_p rfl (Z3 Zb8 rfl rfl u_1 u_0)<|o_n) (fun a g hst hb=>?_)
       refine wp_ret ?_
       refine Z5 ?_
       refine Zo ?_
       obtain rfl:=Option.some.inj H0
       obtain ⟨u0,hu0,hq0⟩:=Zbh (P:=Tryz.prog) Zbe (hst.at 2 rfl)
       obtain ⟨u2,hu2,hq2⟩:=Zbh (P:=Tryz.prog) Zb8 (hst.at 4 rfl)
       exact Zjr rfl hst hb hu0 (Zg (s:=7)) hu2 (Zhl hq0 (hst.at 3 rfl) hq2)
      ·replace H0:=Zt hc22 H0
       refine r_s (L:=[(3,_),(4,_),(5,_),(6,_),(8,_),(9,_)]) (T:=[⟨[.o 1],_,[],[],[72]⟩,⟨[.p 0 0],_,[],[0],[73]⟩,⟨[.p 1 0],_,[],[0,1],[71]⟩]) (F:=[.o 0,.o 1,.o 2,.o 3,.o 4,.o 5,.p 2 0]) (hst.pick [0,1,2,3,4,5] rfl) hb Za
        (Ql rfl ty_4 u_0<|Qn rfl u_0<|Qa rfl u_0<|o_n) (fun a g hst hb=>?_)
       refine wp_cond_split (hst.bool 6 rfl) (fun hc23=>?_) (fun hc23=>?_)
       ·replace H0:=Zu hc23 H0
        obtain ⟨r24,h25,H0⟩:=Zc H0
        refine r_s (L:=[(3,_),(4,_),(6,_),(8,_),(9,_)]) (T:=[⟨[.o 4],_,[],[],[74]⟩,⟨[.p 0 0,.o 0],[(75,(pTup [(Ze.pd r24.1),(Zbf r24.2.1),(Zj.pd r24.2.2.1)])),(3,(pBox Ze 3 r24.2.2.2))],[4],[0],[3,9,74,75]⟩,⟨[.p 1 0],_,[],[0,1],[76]⟩,⟨[.p 1 0],_,[],[0,1],[77]⟩,⟨[.p 1 0],_,[],[0,1],[78]⟩,⟨[.p 2 0,.o 2],_,[7],Lr 5,[6]⟩,⟨[.p 3 0],_,[],Lr 6,[7]⟩,⟨[.p 4 0,.o 3],_,[9],Lr 7,[8]⟩]) (F:=[.p 1 1,.o 1,.p 5 0,.p 6 0,.p 7 0]) (hst.pick [0,1,3,4,5] rfl) hb Za
         (Qm rfl u_0<|o_p rfl (Zoe (Ps:=[.val (pInt .i64 (6:Int))]) (hs:=[]) (ks:=[(3,none,3)]) Zw0 (Zk1 _ _ _ h25) rfl rfl rfl u_0 (.val c_i .nil) (.box u_1 rfl (.val .nil)) rfl rfl rfl rfl)<|o_p rfl (Zz rfl rfl u_0 rfl)<|o_p rfl (Zz rfl rfl u_0 rfl)<|o_p rfl (Zz rfl rfl u_0 rfl)<|o_p rfl (Z3 Zbe rfl rfl u_1 u_0)<|Qa rfl u_0<|o_p rfl (Z3 Zb8 rfl rfl u_1 u_0)<|o_n) (fun a g hst hb=>?_)
        refine wp_ret ?_
        refine Z5 ?_
        refine Zo ?_
        obtain rfl:=Option.some.inj H0
        obtain ⟨u0,hu0,hq0⟩:=Zbh (P:=Tryz.prog) Zbe (hst.at 2 rfl)
        obtain ⟨u2,hu2,hq2⟩:=Zbh (P:=Tryz.prog) Zb8 (hst.at 4 rfl)
        exact Zjr rfl hst hb hu0 (Zg (s:=7)) hu2 (Zhl hq0 (hst.at 3 rfl) hq2)
       ·replace H0:=Zt hc23 H0
        refine r_s (L:=[(3,_),(4,_),(5,_),(6,_),(8,_),(9,_)]) (T:=[⟨[.o 2],_,[],[],[80]⟩,⟨[.p 0 0],_,[],[0],[81]⟩,⟨[.p 1 0],_,[],[0,1],[82]⟩,⟨[.p 2 0],_,[],[0,1,2],[79]⟩]) (F:=[.o 0,.o 1,.o 2,.o 3,.o 4,.o 5,.p 3 0]) (hst.pick [0,1,2,3,4,5] rfl) hb Za
         (Qf rfl Zc4 u_0<|Ql rfl ty_3 u_0<|o_p rfl (Zbt rfl rfl u_0 c_i)<|Qa rfl u_0<|o_n) (fun a g hst hb=>?_)
        refine wp_cond_split (hst.bool 6 rfl) (fun hc26=>?_) (fun hc26=>?_)
        ·replace H0:=Zu hc26 H0
         refine r_s (L:=[(3,_),(4,_),(6,_),(8,_)]) (T:=[⟨[],_,[],[],[83]⟩,⟨[],_,[],[],[84]⟩,⟨[.p 0 0,.o 2],_,[7],[0],[6]⟩,⟨[],_,[],[0,2],[7]⟩,⟨[.p 1 0,.o 3],_,[9],Lr 4,[8]⟩]) (F:=[.o 0,.o 1,.p 2 0,.p 3 0,.p 4 0]) (hst.pick [0,1,3,4] rfl) hb Za
          (o_p rfl (Zob rfl rfl )<|o_p rfl (Zrx rfl rfl )<|o_p rfl (Z3 Zbe rfl rfl u_1 u_0)<|Qa rfl c_b<|o_p rfl (Z3 Zb8 rfl rfl u_1 u_0)<|o_n) (fun a g hst hb=>?_)
         refine wp_ret ?_
         refine Z5 ?_
         refine Zo ?_
         obtain rfl:=Option.some.inj H0
         obtain ⟨u0,hu0,hq0⟩:=Zbh (P:=Tryz.prog) Zbe (hst.at 2 rfl)
         obtain ⟨u2,hu2,hq2⟩:=Zbh (P:=Tryz.prog) Zb8 (hst.at 4 rfl)
         exact Zjr rfl hst hb hu0 (Zg (s:=7)) hu2 (Zhl hq0 (hst.at 3 rfl) hq2)
        ·replace H0:=Zt hc26 H0
         refine r_s (L:=[(3,_),(4,_),(5,_),(6,_),(8,_),(9,_)]) (T:=[⟨[.o 2],_,[],[],[86]⟩,⟨[.p 0 0],_,[],[0],[87]⟩,⟨[.p 1 0],_,[],[0,1],[88]⟩,⟨[.p 2 0],_,[],[0,1,2],[85]⟩]) (F:=[.o 0,.o 1,.o 2,.o 3,.o 4,.o 5,.p 3 0]) (hst.pick [0,1,2,3,4,5] rfl) hb Za
          (Qf rfl Zc4 u_0<|Ql rfl ty_3 u_0<|o_p rfl (Zbt rfl rfl u_0 c_i)<|Qa rfl u_0<|o_n) (fun a g hst hb=>?_)
         refine wp_cond_split (hst.bool 6 rfl) (fun hc27=>?_) (fun hc27=>?_)
         ·replace H0:=Zu hc27 H0
          obtain ⟨r28,h29,H0⟩:=Zc H0
          refine r_s (L:=[(3,_),(4,_),(6,_),(8,_)]) (T:=[⟨[.o 0],_,[],[],[89]⟩,⟨[.o 1],_,[],[],[90]⟩,⟨[.o 0],_,[],[],[91]⟩,⟨[.p 2 0],_,[],[2],[92]⟩,⟨[.p 3 0],_,[],[2,3],[93]⟩,⟨[.p 0 0,.o 2],_,[7],[0,2,3],[6]⟩,⟨[.p 1 0],_,[],[0,1,2,3,5],[7]⟩,⟨[.p 4 0,.o 3],_,[9],Lr 7,[8]⟩]) (F:=[.o 0,.o 1,.p 5 0,.p 6 0,.p 7 0]) (hst.pick [0,1,3,4] rfl) hb Za
           (QM rfl Zbe u_0<|Ql rfl ty_4 u_0<|QM rfl Zbe u_0<|o_p rfl (Zl Zo2 (Zg4 _ h29) rfl rfl (.cons u_0 .nil))<|o_p rfl (Z4c rfl rfl u_0)<|o_p rfl (Z3 Zbe rfl rfl u_1 u_0)<|Qa rfl u_0<|o_p rfl (Z3 Zb8 rfl rfl u_1 u_0)<|o_n) (fun a g hst hb=>?_)
          refine wp_ret ?_
          refine Z5 ?_
          refine Zo ?_
          obtain rfl:=Option.some.inj H0
          obtain ⟨u0,hu0,hq0⟩:=Zbh (P:=Tryz.prog) Zbe (hst.at 2 rfl)
          obtain ⟨u2,hu2,hq2⟩:=Zbh (P:=Tryz.prog) Zb8 (hst.at 4 rfl)
          exact Zjr rfl hst hb hu0 (Zg (s:=7)) hu2 (Zhl hq0 (hst.at 3 rfl) hq2)
         ·replace H0:=Zt hc27 H0
          obtain ⟨r30,h31,H0⟩:=Zc H0
          refine r_s (L:=[(3,_),(4,_),(5,_),(6,_),(8,_),(9,_)]) (T:=[⟨[.o 2],_,[],[],[95]⟩,⟨[.p 0 0],_,[],[0],[96]⟩,⟨[.p 1 0],_,[],[0,1],[97]⟩,⟨[.o 0],_,[],[],[98]⟩,⟨[.p 3 0],_,[],[3],[99]⟩,⟨[.p 2 0,.p 4 0],_,[],Lr 5,[100]⟩,⟨[.p 5 0],_,[],Lr 6,[94]⟩]) (F:=[.o 0,.o 1,.o 2,.o 3,.o 4,.o 5,.p 6 0]) (hst.pick [0,1,2,3,4,5] rfl) hb Za
           (Qf rfl Zc4 u_0<|Ql rfl ty_3 u_0<|o_p rfl (Zl Zbfs (Z6i _ h31) rfl rfl (.cons u_0 .nil))<|o_p rfl (Zr Zgm (off:=0) (by kernel_rfl) rfl rfl u_0)<|QP rfl ty_3 u_0<|o_p rfl (Zdn rfl rfl u_0 u_1)<|Qa rfl u_0<|o_n) (fun a g hst hb=>?_)
          refine wp_cond_split (hst.bool 6 rfl) (fun hc32=>?_) (fun hc32=>?_)
          ·replace H0:=Zu hc32 H0
           obtain ⟨r33,h34,H0⟩:=Zc H0
           refine r_s (L:=[(3,_),(4,_),(6,_),(8,_),(9,_)]) (T:=[⟨[.o 4],_,[],[],[101]⟩,⟨[.p 0 0,.o 0],[(102,(pTup [(Ze.pd r33.1),(Zbf r33.2.1),(Zj.pd r33.2.2.1)])),(3,(pBox Ze 3 r33.2.2.2))],[4],[0],[3,9,101,102]⟩,⟨[.p 1 0],_,[],[0,1],[103]⟩,⟨[.p 1 0],_,[],[0,1],[104]⟩,⟨[.p 1 0],_,[],[0,1],[105]⟩,⟨[.p 2 0,.o 2],_,[7],Lr 5,[6]⟩,⟨[.p 3 0],_,[],Lr 6,[7]⟩,⟨[.p 4 0,.o 3],_,[9],Lr 7,[8]⟩]) (F:=[.p 1 1,.o 1,.p 5 0,.p 6 0,.p 7 0]) (hst.pick [0,1,3,4,5] rfl) hb Za
            (Qm rfl u_0<|o_p rfl (Zoe (Ps:=[.val (pInt .i64 (5:Int))]) (hs:=[]) (ks:=[(3,none,3)]) Zw0 (Zk1 _ _ _ h34) rfl rfl rfl u_0 (.val c_i .nil) (.box u_1 rfl (.val .nil)) rfl rfl rfl rfl)<|o_p rfl (Zz rfl rfl u_0 rfl)<|o_p rfl (Zz rfl rfl u_0 rfl)<|o_p rfl (Zz rfl rfl u_0 rfl)<|o_p rfl (Z3 Zbe rfl rfl u_1 u_0)<|Qa rfl u_0<|o_p rfl (Z3 Zb8 rfl rfl u_1 u_0)<|o_n) (fun a g hst hb=>?_)
           refine wp_ret ?_
           refine Z5 ?_
           refine Zo ?_
           obtain rfl:=Option.some.inj H0
           obtain ⟨u0,hu0,hq0⟩:=Zbh (P:=Tryz.prog) Zbe (hst.at 2 rfl)
           obtain ⟨u2,hu2,hq2⟩:=Zbh (P:=Tryz.prog) Zb8 (hst.at 4 rfl)
           exact Zjr rfl hst hb hu0 (Zg (s:=7)) hu2 (Zhl hq0 (hst.at 3 rfl) hq2)
          ·replace H0:=Zt hc32 H0
           refine wp_skip ?_
           refine Zbc ?_
           refine Zp ?_
           obtain ⟨r35,h36,H0⟩:=Zc H0
           refine r_s (L:=[(3,_),(4,_),(5,_),(6,_),(8,_)]) (T:=[⟨[.o 0],_,[],[],[106]⟩,⟨[.p 0 0],_,[],[0],[107]⟩,⟨[],[(12,(pBox Ze 12 (default:Zb)))],[13],[],[12]⟩,⟨[.p 1 0,.p 2 0],_,[13],[0,1,2],[12]⟩]) (F:=[.o 0,.o 1,.o 2,.o 3,.o 4,.p 3 0]) (hst.pick [0,1,2,3,4] rfl) hb Za
            (QM rfl Zbe u_0<|o_p rfl (Zl Zo2 (Zg4 _ h36) rfl rfl (.cons u_0 .nil))<|o_p rfl (Zbi (zs:=[.int .i64 0,.int .i64 0,.int .i64 0,.int .i64 0,.float .f64 0,.int .i64 0,.string ByteArray.empty,.slice none 0 0]) (by kernel_rfl) (fun g=>Zb2 g) rfl rfl)<|o_p rfl (Zb5 Zbe rfl rfl u_1 u_0)<|o_n) (fun a g hst hb=>?_)
           refine r_s (T:=[⟨[],[(13,(pBox Zj 13 (default:Zd)))],[14],[],[13]⟩]) (F:=[.o 0,.o 1,.o 2,.o 3,.o 4,.o 5,.p 0 0]) hst hb Za
            (o_p rfl (Zbi (zs:=[.int .i64 0,.int .i64 0,.int .i64 0,.int .i64 0,.int .i64 0,.int .i64 0,.float .f64 0,.int .i64 0,.string ByteArray.empty,.slice none 0 0]) (by kernel_rfl) (fun g=>Zed g) rfl rfl)<|o_n) (fun a g hst hb=>?_)
           refine wp_seq ?_
           obtain ⟨h37,H0⟩:=Zfv H0;obtain ⟨r38,h39,H0⟩:=Zc H0
           refine r_s (T:=[⟨[],_,[],[],[108]⟩,⟨[.o 2],_,[],[],[109]⟩,⟨[.p 1 0],_,[],[1],[110]⟩,⟨[.p 0 0,.p 2 0],[(111,(pFun Tryz.prog (Phi a2.Kind)))],[],[0,1,2],[111]⟩,⟨[.o 2],_,[],[],[112]⟩,⟨[.p 3 0,.o 0,.p 4 0,.o 6],[(113,(pInt .i64 r38.1)),(3,(pBox Ze 3 r38.2.1)),(13,(pBox Zj 13 r38.2.2))],[4,14],Lr 5,[3,13,113]⟩,⟨[.p 5 0],_,[],Lr 6,[14]⟩]) (F:=[.p 5 1,.o 1,.o 3,.o 4,.o 5,.p 5 2,.p 6 0]) hst hb Za
            (o_p rfl (Zl Zbek Zxu rfl rfl .nil)<|Qf rfl Zc4 u_0<|Ql rfl ty_3 u_0<|o_p rfl (Z3s Tryz.underlying157 (by kernel_rfl) ⟨_,Tryz.underlying156,rfl⟩ (by have:=h37;omega) (Zbcx h37) (by have:=h37;omega) rfl rfl u_0 u_1)<|Ql rfl Zgw u_0<|o_p rfl (Z50 (hs:=[(3,none,3),(13,none,13)]) (Zbae h39) rfl rfl rfl u_0 (.box u_1 u_1 rfl (.val u_2 (.box u_3 u_3 rfl .nil))) rfl rfl rfl)<|Qa rfl u_0<|o_n) (fun a g hst hb=>?_)
           refine r_s (T:=[⟨[.o 6],_,[],[],[114]⟩,⟨[.p 0 0],_,[],[0],[115]⟩]) (F:=[.o 0,.o 1,.o 2,.o 3,.o 4,.o 5,.o 6,.p 1 0]) hst hb Za
            (Qm rfl u_0<|o_p rfl (Zdn rfl rfl u_0 c_i)<|o_n) (fun a g hst hb=>?_)
           refine wp_cond_split (hst.bool 7 rfl) (fun hc40=>?_) (fun hc40=>?_)
           ·replace H0:=Zu hc40 H0
            refine r_s (L:=[(3,_),(4,_),(6,_),(8,_),(12,_),(14,_)]) (T:=[⟨[.o 4],_,[],[],[116]⟩,⟨[.o 1],_,[],[],[117]⟩,⟨[.o 5],_,[],[],[118]⟩,⟨[.p 2 0],_,[],[2],[119]⟩,⟨[.p 0 0,.o 2],_,[7],[0],[6]⟩,⟨[.p 1 0],_,[],[0,1,4],[7]⟩,⟨[.p 3 0,.o 3],_,[9],Lr 6,[8]⟩]) (F:=[.o 0,.o 1,.p 4 0,.p 5 0,.p 6 0]) (hst.pick [0,1,2,3,4,6] rfl) hb Za
             (Ql rfl Zbe u_0<|Ql rfl ty_4 u_0<|Qm rfl u_0<|o_p rfl (Zrz rfl rfl u_0)<|o_p rfl (Z3 Zbe rfl rfl u_1 u_0)<|Qa rfl u_0<|o_p rfl (Z3 Zb8 rfl rfl u_1 u_0)<|o_n) (fun a g hst hb=>?_)
            refine wp_ret ?_
            refine Zo ?_
            obtain rfl:=Option.some.inj H0
            obtain ⟨u0,hu0,hq0⟩:=Zbh (P:=Tryz.prog) Zbe (hst.at 2 rfl)
            obtain ⟨u2,hu2,hq2⟩:=Zbh (P:=Tryz.prog) Zb8 (hst.at 4 rfl)
            exact Zjr rfl hst hb hu0 (Zg (s:=7)) hu2 (Zhl hq0 (hst.at 3 rfl) hq2)
           ·replace H0:=Zt hc40 H0
            refine wp_skip ?_
            refine Zp ?_
            refine r_s (L:=[(3,_),(4,_),(6,_),(8,_),(13,_)]) (T:=[⟨[.o 0],_,[],[],[120]⟩,⟨[.o 1],_,[],[],[121]⟩,⟨[.o 4],_,[],[],[122]⟩,⟨[.p 0 0,.o 2],_,[7],[0],[6]⟩,⟨[.p 1 0],_,[],[0,1,3],[7]⟩,⟨[.p 2 0,.o 3],_,[9],Lr 5,[8]⟩]) (F:=[.o 0,.o 1,.p 3 0,.p 4 0,.p 5 0]) (hst.pick [0,1,2,3,5] rfl) hb Za
             (QM rfl Zbe u_0<|Ql rfl ty_4 u_0<|QM rfl Zb8 u_0<|o_p rfl (Z3 Zbe rfl rfl u_1 u_0)<|Qa rfl u_0<|o_p rfl (Z3 Zb8 rfl rfl u_1 u_0)<|o_n) (fun a g hst hb=>?_)
            refine wp_ret ?_
            obtain rfl:=Option.some.inj H0
            obtain ⟨u0,hu0,hq0⟩:=Zbh (P:=Tryz.prog) Zbe (hst.at 2 rfl)
            obtain ⟨u2,hu2,hq2⟩:=Zbh (P:=Tryz.prog) Zb8 (hst.at 4 rfl)
            exact Zjr rfl hst hb hu0 (Zg (s:=7)) hu2 (Zhl hq0 (hst.at 3 rfl) hq2)
   ·refine wp_cond_split (hst.bool 6 rfl) (fun hc10=>?_) (fun hc10=>?_)
    ·replace H0:=Zu hc10 H0
     obtain ⟨r11,h12,H0⟩:=Zc H0
     refine r_s (L:=[(3,_),(4,_),(5,_),(6,_),(8,_),(9,_)]) (T:=[⟨[.o 0],_,[],[],[32]⟩,⟨[.p 0 0],_,[],[0],[33]⟩,⟨[.p 1 0],_,[],[0,1],[11]⟩]) (F:=[.o 0,.o 1,.o 2,.o 3,.o 4,.o 5,.p 2 0]) (hst.pick [0,1,2,3,4,5] rfl) hb Za
      (QM rfl Zbe u_0<|o_p rfl (Zl Z5q (Zqv _ h12) rfl rfl (.cons u_0 .nil))<|Qa rfl u_0<|o_n) (fun a g hst hb=>?_)
     refine r_s (T:=[⟨[.o 6],_,[],[],[34]⟩,⟨[.p 0 0],_,[],[0],[35]⟩]) (F:=[.o 0,.o 1,.o 2,.o 3,.o 4,.o 5,.o 6,.p 1 0]) hst hb Za
      (Qm rfl u_0<|o_p rfl (Zdn rfl rfl u_0 c_i)<|o_n) (fun a g hst hb=>?_)
     refine wp_cond_split (hst.bool 7 rfl) (fun hc13=>?_) (fun hc13=>?_)
     ·replace H0:=Zu hc13 H0
      obtain ⟨r14,h15,H0⟩:=Zc H0
      refine r_s (L:=[(3,_),(4,_),(6,_),(8,_),(9,_),(11,_)]) (T:=[⟨[.o 4],_,[],[],[36]⟩,⟨[.o 5],_,[],[],[37]⟩,⟨[.p 0 0,.p 1 0,.o 0],[(38,(pTup [(Ze.pd r14.1),(Zbf r14.2.1),(Zj.pd r14.2.2.1)])),(3,(pBox Ze 3 r14.2.2.2))],[4],[0,1],[3,9,36,38]⟩,⟨[.p 2 0],_,[],[0,1,2],[39]⟩,⟨[.p 2 0],_,[],[0,1,2],[40]⟩,⟨[.p 2 0],_,[],[0,1,2],[41]⟩,⟨[.p 3 0,.o 2],_,[7],Lr 6,[6]⟩,⟨[.p 4 0],_,[],Lr 7,[7]⟩,⟨[.p 5 0,.o 3],_,[9],Lr 8,[8]⟩]) (F:=[.p 2 1,.o 1,.p 6 0,.p 7 0,.p 8 0]) (hst.pick [0,1,3,4,5,6] rfl) hb Za
       (Qm rfl u_0<|Qm rfl u_0<|o_p rfl (Zoe (Ps:=[.val (pInt .i64 r11)]) (hs:=[]) (ks:=[(3,none,3)]) Zw0 (Zk1 _ _ _ h15) rfl rfl rfl u_0 (.val u_1 .nil) (.box u_2 rfl (.val .nil)) rfl rfl rfl rfl)<|o_p rfl (Zz rfl rfl u_0 rfl)<|o_p rfl (Zz rfl rfl u_0 rfl)<|o_p rfl (Zz rfl rfl u_0 rfl)<|o_p rfl (Z3 Zbe rfl rfl u_1 u_0)<|Qa rfl u_0<|o_p rfl (Z3 Zb8 rfl rfl u_1 u_0)<|o_n) (fun a g hst hb=>?_)
      refine wp_ret ?_
      refine Zo ?_
      refine Zo ?_
      obtain rfl:=Option.some.inj H0
      obtain ⟨u0,hu0,hq0⟩:=Zbh (P:=Tryz.prog) Zbe (hst.at 2 rfl)
      obtain ⟨u2,hu2,hq2⟩:=Zbh (P:=Tryz.prog) Zb8 (hst.at 4 rfl)
      exact Zjr rfl hst hb hu0 (Zg (s:=7)) hu2 (Zhl hq0 (hst.at 3 rfl) hq2)
     ·replace H0:=Zt hc13 H0
      refine wp_skip ?_
      exact ⟨g,rfl,(hst.pick [0,1,2,3,4,5] rfl),hb,H0⟩
    ·replace H0:=Zt hc10 H0
     refine wp_skip ?_
     exact ⟨g,rfl,(hst.pick [0,1,2,3,4,5] rfl),hb,H0⟩
 ·refine wp_cond_split (hst.bool 5 rfl) (fun hc1=>?_) (fun hc1=>?_)
  ·replace H0:=Zu hc1 H0
   refine r_g (L:=[(3,_),(4,_),(5,_),(6,_),(8,_)]) (T:=[⟨[],_,[],[],[17]⟩,⟨[.p 0 0,.o 0],_,[4],[0],[3]⟩]) (F:=[.p 1 0,.o 1,.o 2,.o 3,.o 4]) (hst.pick [0,1,2,3,4] rfl) hb Za
    (o_p rfl (Zob rfl rfl )<|o_p rfl (Z3 Zbe rfl rfl u_1 u_0)<|o_n) (fun a g hst hb=>?_)
   exact ⟨({ Kind:=(0:Int),Num:=(0:Int),Low:=(0:Int),High:=(0:Int),Real:=(0:Nat),Cap:=(0:Int),Text:=ByteArray.empty,List:=([]:List Zh) }:Zb),g,rfl,(hst.pick [0,1,2,3,4] rfl),hb,H0⟩
  ·replace H0:=Zt hc1 H0
   refine wp_skip ?_
   exact ⟨a0,g,rfl,(hst.pick [0,1,2,3,4] rfl),hb,H0⟩
theorem Z3i (a0:Zk) (a1:Zn) {r:Zk × Zd} (h:Znm a0 a1=some r):FnOk Tryz.prog 44 [(Zy.pd a0),(Z0.pd a1)] (pTup [(Zy.pd r.1),(Zj.pd r.2)]):=by
 have H0:=h
 unfold Znm at H0
 clear h
 refine Zbs (N:=66) Tryz.func44 rfl rfl (Qe rfl) rfl rfl (fun a g0 hst hb=>?_)
 refine r_s (T:=[⟨[.o 0],_,[3],[],[2]⟩,⟨[.o 1],_,[],[],[3]⟩,⟨[],[(4,(pBox Zy 4 (default:Zk)))],[5],[],[4]⟩,⟨[],[(5,(pBox Zj 5 (default:Zd)))],[6],[],[5]⟩]) (F:=[.p 0 0,.p 1 0,.p 2 0,.p 3 0]) hst hb Za
  (o_p rfl (Zkb rfl rfl u_0)<|Qb rfl u_0<|o_p rfl (Zbi (zs:=[.pointer none,.int .i64 0]) (by kernel_rfl) (fun g=>Zdx g) rfl rfl)<|o_p rfl (Zbi (zs:=[.int .i64 0,.int .i64 0,.int .i64 0,.int .i64 0,.int .i64 0,.int .i64 0,.float .f64 0,.int .i64 0,.string ByteArray.empty,.slice none 0 0]) (by kernel_rfl) (fun g=>Zed g) rfl rfl)<|o_n) (fun a g hst hb=>?_)
 obtain ⟨r1,h2,H0⟩:=Zc H0
 refine r_s (T:=[⟨[.o 0],_,[],[],[14]⟩,⟨[.o 1],_,[],[],[15]⟩,⟨[.p 1 0],_,[],[1],[16]⟩,⟨[.p 0 0,.p 2 0],_,[],[0,1,2],[17]⟩,⟨[.p 3 0],_,[],Lr 4,[13]⟩,⟨[.p 4 0],_,[],Lr 5,[18]⟩,⟨[.p 4 0],_,[],Lr 5,[19]⟩,⟨[],[(6,(pBox Ze 6 (default:Zb)))],[7],[],[6]⟩,⟨[.p 5 0,.p 7 0],_,[7],[0,1,2,3,4,5,7],[6]⟩,⟨[.p 6 0],_,[],Lr 9,[7]⟩]) (F:=[.o 0,.o 1,.o 2,.o 3,.p 8 0,.p 9 0]) hst hb Za
  (QM rfl Zbv u_0<|Qf rfl Zhk u_0<|Ql rfl ty_9 u_0<|o_p rfl (Zl Zva (Zhj _ _ h2) rfl rfl (.cons u_0 (.cons u_1 .nil)))<|Qm rfl u_0<|o_p rfl (Zz rfl rfl u_0 rfl)<|o_p rfl (Zz rfl rfl u_0 rfl)<|o_p rfl (Zbi (zs:=[.int .i64 0,.int .i64 0,.int .i64 0,.int .i64 0,.float .f64 0,.int .i64 0,.string ByteArray.empty,.slice none 0 0]) (by kernel_rfl) (fun g=>Zb2 g) rfl rfl)<|o_p rfl (Zb5 Zbe rfl rfl u_1 u_0)<|Qa rfl u_0<|o_n) (fun a g hst hb=>?_)
 obtain ⟨r3,h4,H0⟩:=Zc H0
 refine r_s (T:=⟨[.o 4],_,[],[],[21]⟩ :: ⟨[.o 5],_,[],[],[22]⟩ :: ⟨[.o 1],_,[],[],[23]⟩ :: ⟨[.p 0 0,.p 1 0,.p 2 0],_,[],[0,1,2],[24]⟩ :: ⟨[.p 3 0],_,[],Lr 4,[20]⟩ :: ⟨[.p 4 0],_,[],Lr 5,[25]⟩ :: ⟨[.p 4 0],_,[],Lr 5,[26]⟩ :: ⟨[.p 4 0],_,[],Lr 5,[27]⟩ :: ⟨[],[(8,(pBox Ze 8 (default:Zb)))],[9],[],[8]⟩ :: ⟨[],[(10,(pBox Zj 10 (default:Zd)))],[11],[],[10]⟩ :: ⟨[.p 5 0,.p 8 0],_,[9],[0,1,2,3,4,5,8,9],[8]⟩ :: ⟨[.p 6 0],_,[],[0,1,2,3,4,5,6,8,9,10],[9]⟩ :: ⟨[.p 7 0,.p 9 0],_,[11],Lr 12,[10]⟩ :: []) (F:=[.o 0,.o 1,.o 2,.o 3,.p 10 0,.p 11 0,.p 12 0]) hst hb Za
  (Ql rfl Zbe u_0<|Qm rfl u_0<|Ql rfl Zgw u_0<|o_p rfl (Zl Zbd7 (Z0d _ _ _ h4) rfl rfl (.cons u_0 (.cons u_1 (.cons u_2 .nil))))<|Qm rfl u_0<|o_p rfl (Zz rfl rfl u_0 rfl)<|o_p rfl (Zz rfl rfl u_0 rfl)<|o_p rfl (Zz rfl rfl u_0 rfl)<|o_p rfl (Zbi (zs:=[.int .i64 0,.int .i64 0,.int .i64 0,.int .i64 0,.float .f64 0,.int .i64 0,.string ByteArray.empty,.slice none 0 0]) (by kernel_rfl) (fun g=>Zb2 g) rfl rfl)<|o_p rfl (Zbi (zs:=[.int .i64 0,.int .i64 0,.int .i64 0,.int .i64 0,.int .i64 0,.int .i64 0,.float .f64 0,.int .i64 0,.string ByteArray.empty,.slice none 0 0]) (by kernel_rfl) (fun g=>Zed g) rfl rfl)<|o_p rfl (Zb5 Zbe rfl rfl u_1 u_0)<|Qa rfl u_0<|o_p rfl (Zb5 Zb8 rfl rfl u_1 u_0)<|o_n) (fun a g hst hb=>?_)
 refine wp_seq ?_
 refine wp_block ?_
 obtain ⟨r5,h6,H0⟩:=Zc H0
 refine r_s (T:=[⟨[.o 6],_,[],[],[29]⟩,⟨[.p 0 0],_,[],[0],[30]⟩,⟨[.p 1 0],_,[],[0,1],[31]⟩,⟨[.p 2 0],_,[],[0,1,2],[32]⟩,⟨[.p 3 0,.o 1],_,[],Lr 4,[33]⟩,⟨[.p 3 0,.p 4 0],_,[],Lr 5,[34]⟩,⟨[.p 3 0,.p 5 0],_,[],Lr 6,[35]⟩,⟨[.p 3 0,.p 6 0],_,[],Lr 7,[36]⟩,⟨[.p 7 0],_,[],Lr 8,[28]⟩]) (F:=[.o 0,.o 1,.o 2,.o 3,.o 4,.o 5,.o 6,.p 8 0]) hst hb Za
  (Qf rfl Zi6 u_0<|Ql rfl Zkm u_0<|o_p rfl (Zdn rfl rfl u_0 c_i)<|Qm rfl u_0<|o_g (Qg_f rfl (fun hG=>Zi Zc4 rfl rfl u_0))<|o_g (Qg_f rfl (fun hG=>Zv ty_3 rfl rfl (Opd.gd hG u_0)))<|o_g (Qg_f rfl (fun hG=>Zl Z00 (Zn3 _ (Zbn h6 hG)) rfl rfl (.cons (Opd.gd hG u_0) .nil)))<|o_p rfl (Zbp rfl rfl u_0 (fun hz=>(Opd.gd (bNF hz) u_1)))<|Qa rfl u_0<|o_n) (fun a g hst hb=>?_)
 refine wp_cond_split (hst.bool 7 rfl) (fun hc7=>?_) (fun hc7=>?_)
 ·replace H0:=Zu hc7 H0
  refine r_s (L:=[(2,_),(4,_),(5,_),(10,_)]) (T:=[⟨[.o 0],_,[],[],[37]⟩,⟨[.o 3],_,[],[],[38]⟩,⟨[.p 0 0,.o 1],_,[5],[0],[4]⟩,⟨[.p 1 0,.o 2],_,[6],[0,1,2],[5]⟩]) (F:=[.p 2 0,.p 3 0]) (hst.pick [0,2,3,6] rfl) hb Za
   (QM rfl Zbv u_0<|Ql rfl Zb8 u_0<|o_p rfl (Z3 Zbv rfl rfl u_1 u_0)<|o_p rfl (Z3 Zb8 rfl rfl u_1 u_0)<|o_n) (fun a g hst hb=>?_)
  refine wp_ret ?_
  refine Z5 ?_
  refine Zo ?_
  obtain rfl:=Option.some.inj H0
  obtain ⟨u0,hu0,hq0⟩:=Zbh (P:=Tryz.prog) Zbv (hst.at 0 rfl)
  obtain ⟨u1,hu1,hq1⟩:=Zbh (P:=Tryz.prog) Zb8 (hst.at 1 rfl)
  exact Zdw rfl hst hb hu0 hu1 (Zcw hq0 hq1)
 ·replace H0:=Zt hc7 H0
  refine r_s (L:=[(2,_),(3,_),(4,_),(5,_),(8,_),(9,_),(10,_)]) (T:=[⟨[.o 5],_,[],[],[40]⟩,⟨[.p 0 0],_,[],[0],[41]⟩,⟨[.p 1 0],_,[],[0,1],[39]⟩]) (F:=[.o 0,.o 1,.o 2,.o 3,.o 4,.o 6,.p 2 0]) (hst.pick [0,1,2,3,4,5,6] rfl) hb Za
   (Qm rfl u_0<|Qn rfl u_0<|Qa rfl u_0<|o_n) (fun a g hst hb=>?_)
  refine wp_cond_split (hst.bool 6 rfl) (fun hc8=>?_) (fun hc8=>?_)
  ·replace H0:=Zu hc8 H0
   obtain ⟨r9,h10,H0⟩:=Zc H0
   refine r_s (L:=[(2,_),(3,_),(4,_),(5,_),(10,_)]) (T:=[⟨[.o 0],_,[],[],[43]⟩,⟨[.o 1],_,[],[],[44]⟩,⟨[.p 1 0],_,[],[1],[45]⟩,⟨[.p 0 0,.p 2 0],_,[],[0,1,2],[46]⟩,⟨[.p 3 0],_,[],Lr 4,[42]⟩,⟨[.p 4 0],_,[],Lr 5,[47]⟩,⟨[.p 4 0],_,[],Lr 5,[48]⟩,⟨[.p 5 0,.o 0],_,[3],Lr 6,[2]⟩]) (F:=[.p 7 0,.o 2,.o 3,.o 4]) (hst.pick [0,1,2,3,5] rfl) hb Za
    (QM rfl Zbv u_0<|Qf rfl Zhk u_0<|Ql rfl ty_9 u_0<|o_p rfl (Zl Z93 (Zpj _ _ h10) rfl rfl (.cons u_0 (.cons u_1 .nil)))<|Qm rfl u_0<|o_p rfl (Zz rfl rfl u_0 rfl)<|o_p rfl (Zz rfl rfl u_0 rfl)<|o_p rfl (Z3 Zbv rfl rfl u_1 u_0)<|o_n) (fun a g hst hb=>?_)
   refine r_s (T:=[⟨[.o 0],_,[],[],[49]⟩,⟨[.o 3],_,[],[],[50]⟩,⟨[.p 0 0,.o 1],_,[5],[0],[4]⟩,⟨[.p 1 0,.o 2],_,[6],[0,1,2],[5]⟩]) (F:=[.p 2 0,.p 3 0]) hst hb Za
    (QM rfl Zbv u_0<|Ql rfl Zb8 u_0<|o_p rfl (Z3 Zbv rfl rfl u_1 u_0)<|o_p rfl (Z3 Zb8 rfl rfl u_1 u_0)<|o_n) (fun a g hst hb=>?_)
   refine wp_ret ?_
   refine Z5 ?_
   refine Zo ?_
   obtain rfl:=Option.some.inj H0
   obtain ⟨u0,hu0,hq0⟩:=Zbh (P:=Tryz.prog) Zbv (hst.at 0 rfl)
   obtain ⟨u1,hu1,hq1⟩:=Zbh (P:=Tryz.prog) Zb8 (hst.at 1 rfl)
   exact Zdw rfl hst hb hu0 hu1 (Zcw hq0 hq1)
  ·replace H0:=Zt hc8 H0
   refine wp_skip ?_
   refine Zbc ?_
   refine Zp ?_
   obtain ⟨r11,h12,H0⟩:=Zc H0
   refine r_s (L:=[(2,_),(3,_),(4,_),(5,_),(8,_),(10,_)]) (T:=[⟨[.o 0],_,[],[],[52]⟩,⟨[.o 1],_,[],[],[53]⟩,⟨[.p 1 0],_,[],[1],[54]⟩,⟨[.o 4],_,[],[],[55]⟩,⟨[.p 0 0,.p 2 0,.p 3 0],_,[],Lr 4,[56]⟩,⟨[.p 4 0],_,[],Lr 5,[51]⟩,⟨[.p 5 0],_,[],Lr 6,[57]⟩,⟨[.p 5 0],_,[],Lr 6,[58]⟩,⟨[],[(11,(pBox Zy 11 (default:Zk)))],[12],[],[11]⟩,⟨[.p 6 0,.p 8 0],_,[12],[0,1,2,3,4,5,6,8],[11]⟩,⟨[.p 7 0],_,[],Lr 10,[12]⟩]) (F:=[.o 0,.o 2,.o 3,.o 5,.p 9 0,.p 10 0]) (hst.pick [0,1,2,3,4,5] rfl) hb Za
    (QM rfl Zbv u_0<|Qf rfl Zhk u_0<|Ql rfl ty_9 u_0<|Ql rfl Zbe u_0<|o_p rfl (Zl Z0l (Zkw _ _ _ h12) rfl rfl (.cons u_0 (.cons u_1 (.cons u_2 .nil))))<|Qm rfl u_0<|o_p rfl (Zz rfl rfl u_0 rfl)<|o_p rfl (Zz rfl rfl u_0 rfl)<|o_p rfl (Zbi (zs:=[.pointer none,.int .i64 0]) (by kernel_rfl) (fun g=>Zdx g) rfl rfl)<|o_p rfl (Zb5 Zbv rfl rfl u_1 u_0)<|Qa rfl u_0<|o_n) (fun a g hst hb=>?_)
   refine wp_seq ?_
   refine r_s (T:=[⟨[.o 5],_,[],[],[59]⟩,⟨[.p 0 0],_,[],[0],[60]⟩]) (F:=[.o 0,.o 1,.o 2,.o 3,.o 4,.o 5,.p 1 0]) hst hb Za
    (Qm rfl u_0<|o_p rfl (Zdn rfl rfl u_0 c_i)<|o_n) (fun a g hst hb=>?_)
   refine wp_cond_split (hst.bool 6 rfl) (fun hc13=>?_) (fun hc13=>?_)
   ·replace H0:=Zu hc13 H0
    refine r_s (L:=[(2,_),(4,_),(5,_),(12,_)]) (T:=[⟨[.o 0],_,[],[],[61]⟩,⟨[.o 3],_,[],[],[62]⟩,⟨[.p 1 0],_,[],[1],[63]⟩,⟨[.p 0 0,.o 1],_,[5],[0],[4]⟩,⟨[.p 2 0,.o 2],_,[6],Lr 4,[5]⟩]) (F:=[.p 3 0,.p 4 0]) (hst.pick [0,1,2,5] rfl) hb Za
     (QM rfl Zbv u_0<|Qm rfl u_0<|o_p rfl (Zrz rfl rfl u_0)<|o_p rfl (Z3 Zbv rfl rfl u_1 u_0)<|o_p rfl (Z3 Zb8 rfl rfl u_1 u_0)<|o_n) (fun a g hst hb=>?_)
    refine wp_ret ?_
    refine Zo ?_
    obtain rfl:=Option.some.inj H0
    obtain ⟨u0,hu0,hq0⟩:=Zbh (P:=Tryz.prog) Zbv (hst.at 0 rfl)
    obtain ⟨u1,hu1,hq1⟩:=Zbh (P:=Tryz.prog) Zb8 (hst.at 1 rfl)
    exact Zdw rfl hst hb hu0 hu1 (Zcw hq0 hq1)
   ·replace H0:=Zt hc13 H0
    refine wp_skip ?_
    refine Zp ?_
    refine r_s (L:=[(4,_),(5,_),(10,_),(11,_)]) (T:=[⟨[.o 3],_,[],[],[64]⟩,⟨[.o 2],_,[],[],[65]⟩,⟨[.p 0 0,.o 0],_,[5],[0],[4]⟩,⟨[.p 1 0,.o 1],_,[6],[0,1,2],[5]⟩]) (F:=[.p 2 0,.p 3 0]) (hst.pick [1,2,3,4] rfl) hb Za
     (Ql rfl Zbv u_0<|Ql rfl Zb8 u_0<|o_p rfl (Z3 Zbv rfl rfl u_1 u_0)<|o_p rfl (Z3 Zb8 rfl rfl u_1 u_0)<|o_n) (fun a g hst hb=>?_)
    refine wp_ret ?_
    obtain rfl:=Option.some.inj H0
    obtain ⟨u0,hu0,hq0⟩:=Zbh (P:=Tryz.prog) Zbv (hst.at 0 rfl)
    obtain ⟨u1,hu1,hq1⟩:=Zbh (P:=Tryz.prog) Zb8 (hst.at 1 rfl)
    exact Zdw rfl hst hb hu0 hu1 (Zcw hq0 hq1)
theorem Zth (a0:Zw) {r:Bool × Zw} (h:Zj7 a0=some r):FnMR Tryz.prog 19 Zb4 a0 r.2 [] (Zbf r.1):=by
 have H0:=h
 unfold Zj7 at H0
 clear h
 refine Zu8 (N:=86) Tryz.func19 rfl rfl (Qe rfl) rfl rfl (fun a g0 b0 hst hb=>?_)
 replace hst:St 86 [(0,(pEq (ptrB b0 0))),(1002,(pSJ Zbr Zce (hpL (pRow Zj 68 1000000 (Zdt a0))) 0 b0 a0))] _ _:=Zs2 hst
 refine r_s (T:=[⟨[],_,[],[],[2]⟩]) (F:=[.o 0,.o 1]) hst hb Za
  (Qa rfl c_b<|o_n) (fun a g hst hb=>?_)
 refine wp_seq ?_
 refine r_s (T:=[⟨[.o 0],_,[],[],[6]⟩,⟨[.p 0 0],_,[],[0],[7]⟩,⟨[.p 1 0],_,[],[0,1],[8]⟩,⟨[.p 2 0,.o 1],_,[],[0,1,2],[9]⟩]) (F:=[.o 0,.p 3 0,.o 1]) hst hb Za
  (Qm rfl u_0<|o_p rfl (Zq rfl rfl u_0 (fun _ _ h=>⟨_,h⟩))<|o_p rfl (Zcg Zoz rfl rfl u_0)<|o_p rfl (Zga (u:=a0.over) ty_4 (fun g s cs h _=>kp_4 h) rfl rfl u_1 u_0)<|o_n) (fun a g hst hb=>?_)
 refine wp_cond_split (hst.bool 1 rfl) (fun hc1=>?_) (fun hc1=>?_)
 ·replace H0:=Zu hc1 H0
  refine r_s (L:=[(0,_),(1002,_)]) (T:=[⟨[],_,[],[],[2]⟩]) (F:=[.o 0,.p 0 0,.o 1]) (hst.pick [0,2] rfl) hb Za
   (Qa rfl c_b<|o_n) (fun a g hst hb=>?_)
  refine wp_ret ?_
  refine Zo ?_
  obtain rfl:=Option.some.inj H0
  exact Z0x rfl hst hb (Zg (s:=2)) (hst.at 1 rfl) (hst.at 2 rfl)
 ·replace H0:=Zt hc1 H0
  refine wp_skip ?_
  refine Zp ?_
  refine r_s (L:=[(0,_),(1002,_)]) (T:=[⟨[.o 0],_,[],[],[10]⟩,⟨[.p 0 0],_,[],[0],[11]⟩,⟨[.p 1 0],_,[],[0,1],[12]⟩,⟨[.p 2 0],_,[],[0,1,2],[13]⟩,⟨[.p 3 0,.o 1],[(14,(pRow Zj 68 1000000 a0.out.Answers))],[],Lr 4,[14]⟩,⟨[.p 4 0],_,[],Lr 5,[15]⟩,⟨[.p 5 0],_,[],Lr 6,[3]⟩]) (F:=[.o 0,.p 6 0,.p 4 0,.o 1]) (hst.pick [0,2] rfl) hb Za
   (Qm rfl u_0<|o_p rfl (Zq rfl rfl u_0 (fun _ _ h=>⟨_,h⟩))<|o_p rfl (Zcg Zov rfl rfl u_0)<|o_p rfl (Zcg Zyn rfl rfl u_0)<|o_p rfl (Zv4 Zql (fun g s cs h=>Z62 h) rfl rfl u_1 u_0)<|o_p rfl (Zbx Tryz.underlying47 rfl rfl (Opd.imp u_0 (fun _ _ h=>Zgd h)))<|Qa rfl u_0<|o_n) (fun a g hst hb=>?_)
  obtain ⟨e2,h3,H0⟩:=Zc H0
  refine r_s (T:=[⟨[.o 0],_,[],[],[16]⟩,⟨[.p 0 0],_,[],[0],[17]⟩,⟨[.p 1 0],_,[],[0,1],[18]⟩,⟨[.p 2 0],_,[],[0,1,2],[19]⟩,⟨[.p 3 0,.o 3],_,[],Lr 4,[20]⟩,⟨[.o 1],_,[],[],[21]⟩,⟨[.p 4 0,.p 5 0],_,[],Lr 6,[22]⟩,⟨[.p 6 0],_,[],Lr 7,[23]⟩,⟨[],[(4,(pBox Z0 4 (default:Zn)))],[5],[],[4]⟩,⟨[.p 7 0,.p 8 0],_,[5],Lr 9,[4]⟩]) (F:=[.o 0,.o 1,.p 9 0,.o 2,.o 3]) hst hb Za
   (Qm rfl u_0<|o_p rfl (Zq rfl rfl u_0 (fun _ _ h=>⟨_,h⟩))<|o_p rfl (Zcg Zyt rfl rfl u_0)<|o_p rfl (Zcg Zyk rfl rfl u_0)<|o_p rfl (Zga (u:=a0.d.Acts) Zjw (fun g s cs h _=>Z23 h) rfl rfl u_1 u_0)<|Qm rfl u_0<|o_p rfl (Zbl Tryz.underlying23 Znj rfl rfl u_0 u_1 h3)<|Ql rfl Zgw u_0<|o_p rfl (Zbi (zs:=[.int .i64 0,.string ByteArray.empty,.int .i64 0,.float .f64 0,.string ByteArray.empty,.int .i64 0,.int .i64 0,.int .i64 0,.int .i64 0,.float .f64 0,.int .i64 0,.string ByteArray.empty,.slice none 0 0,.bool false]) (by kernel_rfl) (fun g=>Zmt g) rfl rfl)<|o_p rfl (Zb5 Zgw rfl rfl u_1 u_0)<|o_n) (fun a g hst hb=>?_)
  refine r_s (T:=[⟨[],[(5,(pBox Zj 5 (default:Zd)))],[6],[],[5]⟩]) (F:=[.o 0,.o 1,.o 2,.p 0 0,.o 3,.o 4]) hst hb Za
   (o_p rfl (Zbi (zs:=[.int .i64 0,.int .i64 0,.int .i64 0,.int .i64 0,.int .i64 0,.int .i64 0,.float .f64 0,.int .i64 0,.string ByteArray.empty,.slice none 0 0]) (by kernel_rfl) (fun g=>Zed g) rfl rfl)<|o_n) (fun a g hst hb=>?_)
  refine wp_seq ?_
  obtain ⟨r4,h5,H0⟩:=Zc H0
  refine r_s (T:=[⟨[.o 0],_,[],[],[24]⟩,⟨[.p 0 0],_,[],[0],[25]⟩,⟨[.p 1 0],_,[],[0,1],[26]⟩,⟨[.p 2 0,.o 5],_,[],[0,1,2],[27]⟩,⟨[.o 2],_,[],[],[28]⟩,⟨[.p 4 0],_,[],[4],[29]⟩,⟨[.p 3 0,.p 5 0],_,[],Lr 6,[30]⟩,⟨[.p 6 0],_,[],Lr 7,[31]⟩]) (F:=[.o 0,.o 1,.o 2,.o 3,.o 4,.p 7 0,.o 5]) hst hb Za
   (Qm rfl u_0<|o_p rfl (Zq rfl rfl u_0 (fun _ _ h=>⟨_,h⟩))<|o_p rfl (Zcg Z4m rfl rfl u_0)<|o_p rfl (Zga (u:=a0.split) Z9q (fun g s cs h _=>kp_1 h) rfl rfl u_1 u_0)<|Qf rfl Zhk u_0<|Ql rfl ty_9 u_0<|o_p rfl (Zl Z53 (Zhb _ _ h5) rfl rfl (.cons u_0 (.cons u_1 .nil)))<|Qn rfl u_0<|o_n) (fun a g hst hb=>?_)
  refine Zb3 (fun a w=>∃ (j9:Zd) (j10:Zw) (g:G),w=g.w ∧ St 86 [(0,(pEq (ptrB b0 0))),(3,(pInt .i64 (a0.out.Answers.length:Int))),(4,(Z0.ptr e2)),(5,(pBox Zj 5 j9)),(14,(pRow Zj 68 1000000 a0.out.Answers)),(1002,(pSJ Zbr Zce (hpL (pRow Zj 68 1000000 (Zdt j10))) 0 b0 j10))] a g ∧ Base g0 g ∧ Zh9 a0 e2 j9 j10=some r) ?_ ?_
  ·rintro a w ⟨j9,j10,g,rfl,hst,hb,H0⟩
   unfold Zh9 at H0
   refine Zp ?_
   refine wp_seq ?_
   refine r_s (T:=[⟨[.o 2],_,[],[],[44]⟩,⟨[.p 0 0],_,[],[0],[45]⟩,⟨[.p 1 0],_,[],[0,1],[46]⟩,⟨[.p 2 0,.o 3],_,[],[0,1,2],[47]⟩,⟨[.p 2 0,.p 3 0],_,[],Lr 4,[48]⟩,⟨[.p 2 0,.p 4 0],_,[],Lr 5,[49]⟩,⟨[.p 2 0,.p 5 0],_,[],Lr 6,[50]⟩]) (F:=[.o 0,.o 1,.o 3,.o 4,.p 6 0,.o 5]) hst hb Za
    (Qf rfl Z4k u_0<|Ql rfl ty_4 u_0<|Qm rfl u_0<|o_g (Qg_t rfl (fun hG=>Zr Zi6 (off:=0) (by kernel_rfl) rfl rfl u_0))<|o_g (Qg_t rfl (fun hG=>Zjc Zkm rfl rfl (Opd.gd hG u_0)))<|o_g (Qg_t rfl (fun hG=>Zdn rfl rfl (Opd.gd hG u_0) c_i))<|o_p rfl (Zbk rfl rfl u_0 (fun hz=>(Opd.gd hz u_1)))<|o_n) (fun a g hst hb=>?_)
   refine wp_cond_split (hst.bool 4 rfl) (fun hc11=>?_) (fun hc11=>?_)
   ·replace H0:=Zu hc11 H0
    refine r_s (L:=[(0,_),(3,_),(5,_),(14,_),(1002,_)]) (T:=⟨[.o 0],_,[],[],[51]⟩ :: ⟨[.o 0],_,[],[],[52]⟩ :: ⟨[.o 2],_,[],[],[53]⟩ :: ⟨[.p 2 0],_,[],[2],[54]⟩ :: ⟨[.o 1],_,[],[],[55]⟩ :: ⟨[.p 4 0],_,[],[4],[56]⟩ :: ⟨[.p 3 0,.p 5 0],[(57,(Zb7.pd (Zcd ({ Code:=j9.Code,At:=(IntKind.i64.wrap ((a0.out.Answers.length:Int) + (1:Int))),Answers:=([]:List Zd) }:Zs) (none,0,0))))],[],List.range' 2 4,[57]⟩ :: ⟨[.p 0 0],_,[],[0,2,3,4,5,6],[58]⟩ :: ⟨[.p 7 0],_,[],[0,2,3,4,5,6,7],[59]⟩ :: ⟨[.p 8 0,.p 6 0,.o 4],[(1002,(pSJ Zbr Zce (hpL (pRow Zj 68 1000000 (Zdt ({ j10 with out:=({ Code:=j9.Code,At:=(IntKind.i64.wrap ((a0.out.Answers.length:Int) + (1:Int))),Answers:=([]:List Zd) }:Zs) }:Zw)))) 0 b0 ({ j10 with out:=({ Code:=j9.Code,At:=(IntKind.i64.wrap ((a0.out.Answers.length:Int) + (1:Int))),Answers:=([]:List Zd) }:Zs) }:Zw)))],[1],[0,2,3,4,5,6,7,8],[1002]⟩ :: ⟨[.p 1 0],_,[],Lr 10,[60]⟩ :: ⟨[.p 10 0],_,[],Lr 11,[61]⟩ :: ⟨[.p 11 0,.p 9 0],[(1002,(pSJ Zbr Zce (hpL (pRow Zj 68 1000000 (Zdt ({ ({ j10 with out:=({ Code:=j9.Code,At:=(IntKind.i64.wrap ((a0.out.Answers.length:Int) + (1:Int))),Answers:=([]:List Zd) }:Zs) }:Zw) with over:=true }:Zw)))) 0 b0 ({ ({ j10 with out:=({ Code:=j9.Code,At:=(IntKind.i64.wrap ((a0.out.Answers.length:Int) + (1:Int))),Answers:=([]:List Zd) }:Zs) }:Zw) with over:=true }:Zw)))],[1],Lr 12,[1002]⟩ :: []) (F:=[.o 0,.p 12 0]) (hst.pick [0,1,2,3,5] rfl) hb Za
     (Qm rfl u_0<|Qm rfl u_0<|o_p rfl (Zr Zi6 (off:=0) (by kernel_rfl) rfl rfl u_0)<|QP rfl Zkm u_0<|Qm rfl u_0<|o_p rfl (Zb0 rfl rfl u_0 c_i rfl)<|o_p rfl (Zw6 rfl rfl u_0 u_1)<|o_p rfl (Zq rfl rfl u_0 (fun _ _ h=>⟨_,h⟩))<|o_p rfl (Zcg Zov rfl rfl u_0)<|o_p rfl (Zl4 Z7r rfl rfl (fun k hk=>by rw [List.mem_singleton.1 hk];decide) u_2 u_0 u_1 (fun g g' cs s0 ys h hr hy=>⟨(none,0,0),Z6e h hy,Zqn 1000000 g'⟩))<|o_p rfl (Zq rfl rfl u_0 (fun _ _ h=>⟨_,h⟩))<|o_p rfl (Zcg Zoz rfl rfl u_0)<|o_p rfl (Zl4 ty_4 rfl rfl (fun k hk=>by rw [List.mem_singleton.1 hk];decide) u_1 u_0 c_b (fun g g' cs s0 ys h hr hy=>⟨s0,wp_4 h hy,hr⟩))<|o_n) (fun a g hst hb=>?_)
    refine r_s (T:=[⟨[],_,[],[],[2]⟩]) (F:=[.o 0,.p 0 0,.o 1]) hst hb Za
     (Qa rfl c_b<|o_n) (fun a g hst hb=>?_)
    refine wp_ret ?_
    refine Zo ?_
    obtain rfl:=Option.some.inj H0
    exact Z0x rfl hst hb (Zg (s:=2)) (hst.at 1 rfl) (hst.at 2 rfl)
   ·replace H0:=Zt hc11 H0
    refine wp_skip ?_
    refine Zp ?_
    obtain ⟨h12,H0⟩:=Zfv H0
    refine r_s (L:=[(0,_),(3,_),(5,_),(14,_),(1002,_)]) (T:=⟨[.o 0],_,[],[],[62]⟩ :: ⟨[.o 0],_,[],[],[63]⟩ :: ⟨[.p 1 0],_,[],[1],[64]⟩ :: ⟨[.p 2 0],_,[],[1,2],[65]⟩ :: ⟨[.p 3 0],_,[],[1,2,3],[66]⟩ :: ⟨[.p 4 0,.o 4],[(67,(pRow Zj 68 1000000 j10.out.Answers))],[],List.range' 1 4,[67]⟩ :: ⟨[.o 2],_,[],[],[68]⟩ :: ⟨[.p 6 0],_,[],[6],[69]⟩ :: ⟨[.p 5 0,.p 7 0,.o 4],[(1002,(pSJ Zbr Zce hpT 0 b0 j10)),(70,(pRow Zj 68 1000000 (j10.out.Answers ++ ([j9]:List Zd))))],[1000001],List.range' 1 7,[14,67,70,1002]⟩ :: ⟨[.p 0 0],_,[],Lr 9,[71]⟩ :: ⟨[.p 9 0],_,[],Lr 10,[72]⟩ :: ⟨[.p 10 0],_,[],Lr 11,[73]⟩ :: ⟨[.p 11 0,.p 8 1,.p 8 0],[(1002,(pSJ Zbr Zce (hpL (pRow Zj 68 1000000 (Zdt ({ j10 with out:={ j10.out with Answers:=(j10.out.Answers ++ ([j9]:List Zd)) } }:Zw)))) 0 b0 ({ j10 with out:={ j10.out with Answers:=(j10.out.Answers ++ ([j9]:List Zd)) } }:Zw)))],[1],Lr 12,[1002]⟩ :: []) (F:=[.o 0,.o 1,.p 12 0]) (hst.pick [0,1,2,3,5] rfl) hb Za
     (Qm rfl u_0<|Qm rfl u_0<|o_p rfl (Zq rfl rfl u_0 (fun _ _ h=>⟨_,h⟩))<|o_p rfl (Zcg Zov rfl rfl u_0)<|o_p rfl (Zcg Zyn rfl rfl u_0)<|o_p rfl (Zv4 Zql (fun g s cs h=>Z62 h) rfl rfl u_1 u_0)<|QM rfl Zb8 u_0<|o_p rfl (Zig Zs7 (xs:=[.tmp 68]) (.cons u_0 .nil) (by decide) rfl rfl)<|o_p rfl (OB.frameU (Zfq Zs7 rfl rfl u_0 u_1 h12) (Opd.imp u_2 (fun _ _ h=>sj_T h)) (fun k hk hS=>Zbcg (List.mem_singleton.1 hk) (List.mem_singleton.1 hS) (by decide)) (fun h=>by cases h))<|o_p rfl (Zq rfl rfl u_0 (fun _ _ h=>⟨_,h⟩))<|o_p rfl (Zcg Zov rfl rfl u_0)<|o_p rfl (Zcg Zyn rfl rfl u_0)<|o_p rfl (Z07 Zql rfl rfl (fun _ _ h=>Zbak h) (fun k hk=>by cases hk) (fun k hk=>by rw [List.mem_singleton.1 hk];decide) u_2 u_0 u_1 (fun g cs s0 s1 ys h hy=>Zbdy h hy))<|o_n) (fun a g hst hb=>?_)
    refine r_s (T:=⟨[.o 0],_,[],[],[74]⟩ :: ⟨[.o 1],_,[],[],[75]⟩ :: ⟨[.p 1 0],_,[],[1],[76]⟩ :: ⟨[.o 0],_,[],[],[77]⟩ :: ⟨[.p 3 0],_,[],[3],[78]⟩ :: ⟨[.p 4 0],_,[],[3,4],[79]⟩ :: ⟨[.p 5 0],_,[],[3,4,5],[80]⟩ :: ⟨[.p 6 0,.o 2],_,[],List.range' 3 4,[81]⟩ :: ⟨[.p 7 0],_,[],List.range' 3 5,[82]⟩ :: ⟨[.p 2 0,.p 8 0],_,[],List.range' 1 8,[83]⟩ :: ⟨[.p 0 0],_,[],Lr 10,[84]⟩ :: ⟨[.p 10 0],_,[],Lr 11,[85]⟩ :: ⟨[.p 11 0,.p 9 0,.o 2],[(1002,(pSJ Zbr Zce (hpL (pRow Zj 68 1000000 (Zdt ({ ({ j10 with out:={ j10.out with Answers:=(j10.out.Answers ++ ([j9]:List Zd)) } }:Zw) with over:=((IntKind.i64.wrap ((a0.out.Answers.length:Int) + (1:Int))) == (((({ j10 with out:={ j10.out with Answers:=(j10.out.Answers ++ ([j9]:List Zd)) } }:Zw).d).Acts).length:Int)) }:Zw)))) 0 b0 ({ ({ j10 with out:={ j10.out with Answers:=(j10.out.Answers ++ ([j9]:List Zd)) } }:Zw) with over:=((IntKind.i64.wrap ((a0.out.Answers.length:Int) + (1:Int))) == (((({ j10 with out:={ j10.out with Answers:=(j10.out.Answers ++ ([j9]:List Zd)) } }:Zw).d).Acts).length:Int)) }:Zw)))],[1],Lr 12,[1002]⟩ :: []) (F:=[.o 0,.p 12 0]) hst hb Za
     (Qm rfl u_0<|Qm rfl u_0<|o_p rfl (Zb0 rfl rfl u_0 c_i rfl)<|Qm rfl u_0<|o_p rfl (Zq rfl rfl u_0 (fun _ _ h=>⟨_,h⟩))<|o_p rfl (Zcg Zyt rfl rfl u_0)<|o_p rfl (Zcg Zyk rfl rfl u_0)<|o_p rfl (Zga (u:=(({ j10 with out:={ j10.out with Answers:=(j10.out.Answers ++ ([j9]:List Zd)) } }:Zw).d).Acts) Zjw (fun g s cs h _=>Z23 h) rfl rfl u_1 u_0)<|o_p rfl (Zbx Tryz.underlying23 rfl rfl u_0)<|o_p rfl (Zbt rfl rfl u_0 u_1)<|o_p rfl (Zq rfl rfl u_0 (fun _ _ h=>⟨_,h⟩))<|o_p rfl (Zcg Zoz rfl rfl u_0)<|o_p rfl (Zl4 ty_4 rfl rfl (fun k hk=>by rw [List.mem_singleton.1 hk];decide) u_2 u_0 u_1 (fun g g' cs s0 ys h hr hy=>⟨s0,wp_4 h hy,hr⟩))<|o_n) (fun a g hst hb=>?_)
    refine r_s (T:=[⟨[],_,[],[],[2]⟩]) (F:=[.o 0,.p 0 0,.o 1]) hst hb Za
     (Qa rfl c_b<|o_n) (fun a g hst hb=>?_)
    refine wp_ret ?_
    obtain rfl:=Option.some.inj H0
    exact Z0x rfl hst hb (Zg (s:=2)) (hst.at 1 rfl) (hst.at 2 rfl)
  ·refine wp_cond_split (hst.bool 5 rfl) (fun hc6=>?_) (fun hc6=>?_)
   ·replace H0:=Zu hc6 H0
    obtain ⟨r7,h8,H0⟩:=Zc H0
    refine r_g (L:=[(0,_),(3,_),(4,_),(5,_),(14,_),(1002,_)]) (T:=⟨[.o 0],_,[],[],[33]⟩ :: ⟨[.o 0],_,[],[],[34]⟩ :: ⟨[.p 1 0],_,[],[1],[35]⟩ :: ⟨[.p 2 0],_,[],[1,2],[36]⟩ :: ⟨[.p 3 0,.o 5],_,[],[1,2,3],[37]⟩ :: ⟨[.o 2],_,[],[],[38]⟩ :: ⟨[.p 4 0,.p 5 0],_,[],List.range' 1 5,[39]⟩ :: ⟨[.p 6 0],_,[],List.range' 1 6,[32]⟩ :: ⟨[.p 7 0],_,[],List.range' 1 7,[40]⟩ :: ⟨[.p 7 0],_,[],List.range' 1 7,[41]⟩ :: ⟨[.p 0 0],_,[],Lr 9,[42]⟩ :: ⟨[.p 10 0],_,[],[0,1,2,3,4,5,6,7,8,10],[43]⟩ :: ⟨[.p 11 0,.p 8 0,.o 5],[(1002,(pSJ Zbr Zce (hpL (pRow Zj 68 1000000 (Zdt ({ a0 with now:=r7.1 }:Zw)))) 0 b0 ({ a0 with now:=r7.1 }:Zw)))],[1],[0,1,2,3,4,5,6,7,8,10,11],[1002]⟩ :: ⟨[.p 9 0,.o 3],_,[6],Lr 13,[5]⟩ :: []) (F:=[.o 0,.o 1,.o 2,.p 13 0,.o 4,.p 12 0]) (hst.pick [0,1,2,3,4,6] rfl) hb Za
     (Qm rfl u_0<|Qm rfl u_0<|o_p rfl (Zq rfl rfl u_0 (fun _ _ h=>⟨_,h⟩))<|o_p rfl (Zcg Zuu rfl rfl u_0)<|o_p rfl (Zga (u:=a0.now) Zbv (fun g s cs h _=>kp_2 h) rfl rfl u_1 u_0)<|Ql rfl Zgw u_0<|o_p rfl (Zl Zbf1 (Z3i _ _ h8) rfl rfl (.cons u_0 (.cons u_1 .nil)))<|Qm rfl u_0<|o_p rfl (Zz rfl rfl u_0 rfl)<|o_p rfl (Zz rfl rfl u_0 rfl)<|o_p rfl (Zq rfl rfl u_0 (fun _ _ h=>⟨_,h⟩))<|o_p rfl (Zcg Zuu rfl rfl u_0)<|o_p rfl (Zl4 Zbv rfl rfl (fun k hk=>by rw [List.mem_singleton.1 hk];decide) u_2 u_0 u_1 (fun g g' cs s0 ys h hr hy=>⟨s0,wp_2 h hy,hr⟩))<|o_p rfl (Z3 Zb8 rfl rfl u_1 u_0)<|o_n) (fun a g hst hb=>?_)
    exact ⟨r7.2,({ a0 with now:=r7.1 }:Zw),g,rfl,(hst.pick [0,1,2,3,4,5] rfl),hb,H0⟩
   ·replace H0:=Zt hc6 H0
    refine wp_skip ?_
    exact ⟨(default:Zd),a0,g,rfl,(hst.pick [0,1,2,3,4,6] rfl),hb,H0⟩
theorem Zh6 (a0:Zw) {r:Zw × Bool} (h:Zfg a0=some r):FnMR Tryz.prog 19 Zb4 a0 r.1 [] (Zbf r.2):=by
 obtain ⟨u,h1,h2⟩:=Zc h
 obtain rfl:=Option.some.inj h2
 exact Zth a0 h1
theorem Zt8 (a0:Int) {r:Zk × Int} (h:Zpl a0=some r):FnOk Tryz.prog 28 [(pInt .i64 a0)] (pTup [(Zy.pd r.1),(pInt .i64 r.2)]):=by
 have H0:=h
 unfold Zpl at H0
 clear h
 refine Zbs (N:=13) Tryz.func28 rfl rfl (Qe rfl) rfl rfl (fun a g0 hst hb=>?_)
 refine r_s (T:=[⟨[],[(2,(pBox Zy 2 (default:Zk)))],[3],[],[2]⟩,⟨[],_,[],[],[3]⟩]) (F:=[.o 0,.p 0 0]) hst hb Za
  (o_p rfl (Zbi (zs:=[.pointer none,.int .i64 0]) (by kernel_rfl) (fun g=>Zdx g) rfl rfl)<|Qa rfl c_i<|o_n) (fun a g hst hb=>?_)
 refine wp_seq ?_
 refine r_s (T:=[⟨[.o 0],_,[],[],[4]⟩,⟨[.p 0 0],_,[],[0],[5]⟩,⟨[.p 1 0],_,[],[0,1],[6]⟩,⟨[.p 2 0,.o 0],_,[],[0,1,2],[7]⟩,⟨[.p 2 0,.p 3 0],_,[],Lr 4,[8]⟩,⟨[.p 2 0,.p 4 0],_,[],Lr 5,[9]⟩]) (F:=[.o 0,.o 1,.p 5 0]) hst hb Za
  (Qm rfl u_0<|o_p rfl (Zca rfl rfl u_0 c_i)<|Qm rfl u_0<|o_g (Qg_f rfl (fun hG=>Z6 rfl rfl u_0))<|o_g (Qg_f rfl (fun hG=>Zct rfl rfl (Opd.gd hG u_0) c_i))<|o_p rfl (Zbp rfl rfl u_0 (fun hz=>(Opd.gd (bNF hz) u_1)))<|o_n) (fun a g hst hb=>?_)
 refine wp_cond_split (hst.bool 2 rfl) (fun hc1=>?_) (fun hc1=>?_)
 ·replace H0:=Zu hc1 H0
  refine r_s (L:=[(2,_)]) (T:=[⟨[],_,[],[],[10]⟩,⟨[.p 0 0,.o 0],_,[3],[0],[2]⟩,⟨[],_,[],[0,1],[3]⟩]) (F:=[.p 1 0,.p 2 0]) (hst.pick [1] rfl) hb Za
   (o_p rfl (Zbb6 rfl rfl )<|o_p rfl (Z3 Zbv rfl rfl u_1 u_0)<|Qa rfl c_i<|o_n) (fun a g hst hb=>?_)
  refine wp_ret ?_
  refine Zo ?_
  obtain rfl:=Option.some.inj H0
  obtain ⟨u0,hu0,hq0⟩:=Zbh (P:=Tryz.prog) Zbv (hst.at 0 rfl)
  exact Zdw rfl hst hb hu0 (Zg (s:=3)) (Zcw hq0 (hst.at 1 rfl))
 ·replace H0:=Zt hc1 H0
  refine wp_skip ?_
  refine Zp ?_
  refine r_s (L:=[(0,_),(2,_)]) (T:=[⟨[.o 0],_,[],[],[11]⟩,⟨[.p 0 0],_,[],[0],[12]⟩,⟨[.p 1 0,.o 1],_,[3],[0,1],[2]⟩,⟨[],_,[],[0,1,2],[3]⟩]) (F:=[.p 2 0,.p 3 0]) (hst.pick [0,1] rfl) hb Za
   (Qm rfl u_0<|o_p rfl (Zbah rfl rfl u_0)<|o_p rfl (Z3 Zbv rfl rfl u_1 u_0)<|Qa rfl c_i<|o_n) (fun a g hst hb=>?_)
  refine wp_ret ?_
  obtain rfl:=Option.some.inj H0
  obtain ⟨u0,hu0,hq0⟩:=Zbh (P:=Tryz.prog) Zbv (hst.at 0 rfl)
  exact Zdw rfl hst hb hu0 (Zg (s:=3)) (Zcw hq0 (hst.at 1 rfl))
theorem Zrw {r:Bool} (h:Zkp=some r):FnOk Tryz.prog 7 [] (Zbf r):=by
 have H0:=h
 unfold Zkp at H0
 clear h
 refine Zbs (N:=112) Tryz.func7 rfl rfl (Qe rfl) rfl rfl (fun a g0 hst hb=>?_)
 refine r_s (T:=[⟨[],_,[],[],[0]⟩]) (F:=[]) hst hb Za
  (Qa rfl c_b<|o_n) (fun a g hst hb=>?_)
 obtain ⟨r1,h2,H0⟩:=Zc H0
 refine r_s (T:=[⟨[],_,[],[],[15]⟩,⟨[.p 0 0],_,[],[0],[14]⟩,⟨[.p 1 0],_,[],[0,1],[16]⟩,⟨[.p 1 0],_,[],[0,1],[17]⟩,⟨[],[(1,(pBox Zy 1 (default:Zk)))],[2],[],[1]⟩,⟨[.p 2 0,.p 4 0],_,[2],[0,1,2,4],[1]⟩,⟨[.p 3 0],_,[],Lr 6,[2]⟩]) (F:=[.p 5 0]) hst hb Za
  (o_p rfl (Zl Z9m (Zt8 _ h2) rfl rfl (.cons c_i .nil))<|Qm rfl u_0<|o_p rfl (Zz rfl rfl u_0 rfl)<|o_p rfl (Zz rfl rfl u_0 rfl)<|o_p rfl (Zbi (zs:=[.pointer none,.int .i64 0]) (by kernel_rfl) (fun g=>Zdx g) rfl rfl)<|o_p rfl (Z3 Zbv rfl rfl u_1 u_0)<|Qa rfl u_0<|o_n) (fun a g hst hb=>?_)
 obtain ⟨r3,h4,H0⟩:=Zc H0
 refine r_s (T:=[⟨[.o 0],_,[],[],[19]⟩,⟨[],_,[],[],[20]⟩,⟨[.p 0 0,.p 1 0],_,[],[0,1],[21]⟩,⟨[.p 2 0],_,[],[0,1,2],[18]⟩,⟨[.p 3 0],_,[],Lr 4,[22]⟩,⟨[.p 3 0],_,[],Lr 4,[23]⟩,⟨[.p 4 0,.o 0],_,[2],Lr 5,[1]⟩]) (F:=[.p 6 0]) hst hb Za
  (QM rfl Zbv u_0<|o_p rfl (Z6u rfl rfl c_i c_i)<|o_p rfl (Zl Z0l (Zkw _ _ _ h4) rfl rfl (.cons u_0 (.cons c_s (.cons u_1 .nil))))<|Qm rfl u_0<|o_p rfl (Zz rfl rfl u_0 rfl)<|o_p rfl (Zz rfl rfl u_0 rfl)<|o_p rfl (Z3 Zbv rfl rfl u_1 u_0)<|o_n) (fun a g hst hb=>?_)
 refine r_s (T:=[⟨[],_,[],[],[24]⟩,⟨[.p 0 0],_,[],[0],[25]⟩,⟨[.p 1 0],_,[],[0,1],[26]⟩,⟨[],[(3,(pBox Zbq 3 (default:Z9)))],[4],[],[3]⟩,⟨[.p 2 0,.p 3 0],_,[4],Lr 4,[3]⟩]) (F:=[.o 0,.p 4 0]) hst hb Za
  (o_p rfl (Z3u rfl rfl c_i c_s c_i)<|o_p rfl (Zig Zw7 (xs:=[.tmp 24]) (.cons u_0 .nil) (by decide) rfl rfl)<|o_p rfl (Z3w rfl rfl u_0)<|o_p rfl (Zbi (zs:=[.slice none 0 0]) (by kernel_rfl) (fun g=>Zrh g) rfl rfl)<|o_p rfl (Zb5 Zka rfl rfl u_1 u_0)<|o_n) (fun a g hst hb=>?_)
 obtain ⟨r5,h6,H0⟩:=Zc H0;obtain ⟨r7,h8,H0⟩:=Zc H0
 refine r_s (T:=[⟨[.o 1],_,[],[],[27]⟩,⟨[.o 0],_,[],[],[28]⟩,⟨[.p 0 0,.p 1 0],[(29,(Zcc none Zb4 29 r5))],[30,1000030],[0,1],[29]⟩,⟨[.o 1],_,[],[],[30]⟩,⟨[.o 0],_,[],[],[31]⟩,⟨[],_,[],[],[32]⟩,⟨[.p 3 0,.p 4 0,.p 5 0],[(33,(Zcc none Zb4 33 r7))],[34,1000034],Lr 6,[33]⟩,⟨[.p 2 0],[(4,(Zcc none Zb4 29 r5))],[],Lr 7,[4]⟩,⟨[.p 6 0],[(5,(Zcc none Zb4 33 r7))],[],Lr 8,[5]⟩]) (F:=[.o 0,.p 7 0,.p 8 0]) hst hb Za
  (Ql rfl Zka u_0<|QM rfl Zbv u_0<|o_p rfl (Zo3 Z0t (Zo4 _ _ _ h6) rfl rfl (.cons u_0 (.cons u_1 (.cons (Opd.c (fun g=>Zf4 g)) .nil))))<|Ql rfl Zka u_0<|QM rfl Zbv u_0<|o_p rfl (Zig Zsy (xs:=[.const (.string ⟨#[97]⟩)]) (.cons c_s .nil) (by decide) rfl rfl)<|o_p rfl (Zo3 Z0t (Zo4 _ _ _ h8) rfl rfl (.cons u_0 (.cons u_1 (.cons u_2 .nil))))<|Qa rfl u_0<|Qa rfl u_0<|o_n) (fun a g hst hb=>?_)
 refine wp_seq ?_
 obtain ⟨r9,h10,H0⟩:=Zc H0;obtain ⟨r11,h12,H0⟩:=Zc H0;obtain ⟨r13,h14,H0⟩:=Zc H0;obtain ⟨r15,h16,H0⟩:=Zc H0;obtain ⟨r17,h18,H0⟩:=Zc H0
 refine r_s (T:=⟨[.o 1],[(34,(Zcc none Zb4 29 r5))],[],[],[34]⟩ :: ⟨[.p 0 0],_,[],[0],[35]⟩ :: ⟨[.p 1 0],_,[],[0,1],[36]⟩ :: ⟨[.p 2 0,.o 2],[(37,(pIf (!false) (Zcc none Zb4 33 r7)))],[],[0,1,2],[37]⟩ :: ⟨[.p 2 0,.p 3 0],_,[],Lr 4,[38]⟩ :: ⟨[.p 2 0,.p 4 0],_,[],Lr 5,[39]⟩ :: ⟨[.p 5 0],_,[],Lr 6,[40]⟩ :: ⟨[.p 6 0,.o 1],[(41,(pIf (!(false || false)) (Zcc none Zb4 29 r5)))],[],Lr 7,[41]⟩ :: ⟨[.p 6 0,.p 7 0,.o 1],[(42,(pIf (!(false || false)) (Zbf r9))),(4,(Zcc none Zb4 29 r5))],[30,1000030],Lr 8,[4,34,41,42]⟩ :: ⟨[.p 6 0,.p 8 0],_,[],Lr 9,[43]⟩ :: ⟨[.p 9 0],_,[],Lr 10,[44]⟩ :: ⟨[.p 10 0,.p 8 1],[(45,(pIf (!((false || false) || r9)) (Zcc none Zb4 29 r5)))],[],Lr 11,[45]⟩ :: ⟨[.p 10 0,.p 11 0,.p 8 1],[(46,(pIf (!((false || false) || r9)) (Zbf r11.2))),(4,(Zcc none Zb4 29 (if (!((false || false) || r9))=true then r11.1 else r5)))],[30,1000030],Lr 12,[4,34,41,45,46]⟩ :: ⟨[.p 10 0,.p 12 0],_,[],Lr 13,[47]⟩ :: ⟨[.p 10 0,.p 13 0],_,[],Lr 14,[48]⟩ :: ⟨[.p 14 0],_,[],Lr 15,[49]⟩ :: ⟨[.p 15 0,.p 12 1],[(50,(pIf (!(((false || false) || r9) || (!r11.2))) (Zcc none Zb4 29 (if (!((false || false) || r9))=true then r11.1 else r5))))],[],Lr 16,[50]⟩ :: ⟨[.p 15 0,.p 16 0,.p 12 1],[(51,(pIf (!(((false || false) || r9) || (!r11.2))) (Zbf r13.2))),(4,(Zcc none Zb4 29 (if (!(((false || false) || r9) || (!r11.2)))=true then r13.1 else (if (!((false || false) || r9))=true then r11.1 else r5))))],[30,1000030],Lr 17,[4,34,41,45,50,51]⟩ :: ⟨[.p 15 0,.p 17 0],_,[],Lr 18,[52]⟩ :: ⟨[.p 18 0],_,[],Lr 19,[53]⟩ :: ⟨[.p 19 0,.p 17 1],[(54,(pIf (!((((false || false) || r9) || (!r11.2)) || r13.2)) (Zcc none Zb4 29 (if (!(((false || false) || r9) || (!r11.2)))=true then r13.1 else (if (!((false || false) || r9))=true then r11.1 else r5)))))],[],Lr 20,[54]⟩ :: ⟨[.p 19 0,.p 20 0,.p 17 1],[(55,(pIf (!((((false || false) || r9) || (!r11.2)) || r13.2)) (Zbf r15))),(4,(Zcc none Zb4 29 (if (!(((false || false) || r9) || (!r11.2)))=true then r13.1 else (if (!((false || false) || r9))=true then r11.1 else r5))))],[30,1000030],Lr 21,[4,34,41,45,50,54,55]⟩ :: ⟨[.p 19 0,.p 21 0],_,[],Lr 22,[56]⟩ :: ⟨[.p 19 0,.p 22 0],_,[],Lr 23,[57]⟩ :: ⟨[.p 23 0],_,[],Lr 24,[58]⟩ :: ⟨[.p 24 0,.o 2],[(59,(pIf (!(((((false || false) || r9) || (!r11.2)) || r13.2) || (!r15))) (Zcc none Zb4 33 r7)))],[],Lr 25,[59]⟩ :: ⟨[.p 24 0,.p 25 0,.o 2],[(60,(pIf (!(((((false || false) || r9) || (!r11.2)) || r13.2) || (!r15))) (Zbf r17.2))),(5,(Zcc none Zb4 33 (if (!(((((false || false) || r9) || (!r11.2)) || r13.2) || (!r15)))=true then r17.1 else r7)))],[34,1000034],Lr 26,[5,37,59,60]⟩ :: ⟨[.p 24 0,.p 26 0],_,[],Lr 27,[61]⟩ :: ⟨[.p 24 0,.p 27 0],_,[],Lr 28,[62]⟩ :: []) (F:=[.o 0,.p 21 1,.p 26 1,.p 28 0]) hst hb Za
  (Qm rfl u_0<|o_p rfl (Zpr Tryz.underlying43 rfl rfl u_0 Z1d)<|Qm rfl u_0<|o_g (Qg_f rfl (fun hG=>Z6 rfl rfl u_0))<|o_g (Qg_f rfl (fun hG=>Zpr Tryz.underlying43 rfl rfl (Opd.gd hG u_0) Z1d))<|o_p rfl (Zbp rfl rfl u_0 (fun hz=>(Opd.gd (bNF hz) u_1)))<|Qm rfl u_0<|o_g (Qg_f rfl (fun hG=>Z6 rfl rfl u_0))<|o_g (OT.guardMR (!(false || false)) (gF (false || false)).1 (gF (false || false)).2 rfl rfl rfl (by decide) u_1 (fun hG=>Zef Z9j (Zp0 _ (Zbn h10 hG)) rfl rfl rfl (by decide) u_1 (Opd.gd hG u_0) .nil) (ite_self _).symm)<|o_p rfl (Zbp rfl rfl u_0 (fun hz=>(Opd.gd (bNF hz) u_1)))<|Qm rfl u_0<|o_g (Qg_f rfl (fun hG=>Z6 rfl rfl u_0))<|o_g (OT.guardMR (!((false || false) || r9)) (gF ((false || false) || r9)).1 (gF ((false || false) || r9)).2 rfl rfl rfl (by decide) u_1 (fun hG=>Zef Zu4 (Zh6 _ (Zbn h12 hG)) rfl rfl rfl (by decide) u_1 (Opd.gd hG u_0) .nil) rfl)<|o_g (Qg_f rfl (fun hG=>Ze1 rfl rfl (Opd.gd hG u_0)))<|o_p rfl (Zbp rfl rfl u_0 (fun hz=>(Opd.gd (bNF hz) u_1)))<|Qm rfl u_0<|o_g (Qg_f rfl (fun hG=>Z6 rfl rfl u_0))<|o_g (OT.guardMR (!(((false || false) || r9) || (!r11.2))) (gF (((false || false) || r9) || (!r11.2))).1 (gF (((false || false) || r9) || (!r11.2))).2 rfl rfl rfl (by decide) u_1 (fun hG=>Zef Zu4 (Zh6 _ (Zbn h14 hG)) rfl rfl rfl (by decide) u_1 (Opd.gd hG u_0) .nil) rfl)<|o_p rfl (Zbp rfl rfl u_0 (fun hz=>(Opd.gd (bNF hz) u_1)))<|Qm rfl u_0<|o_g (Qg_f rfl (fun hG=>Z6 rfl rfl u_0))<|o_g (OT.guardMR (!((((false || false) || r9) || (!r11.2)) || r13.2)) (gF ((((false || false) || r9) || (!r11.2)) || r13.2)).1 (gF ((((false || false) || r9) || (!r11.2)) || r13.2)).2 rfl rfl rfl (by decide) u_1 (fun hG=>Zef Z9j (Zp0 _ (Zbn h16 hG)) rfl rfl rfl (by decide) u_1 (Opd.gd hG u_0) .nil) (ite_self _).symm)<|o_g (Qg_f rfl (fun hG=>Ze1 rfl rfl (Opd.gd hG u_0)))<|o_p rfl (Zbp rfl rfl u_0 (fun hz=>(Opd.gd (bNF hz) u_1)))<|Qm rfl u_0<|o_g (Qg_f rfl (fun hG=>Z6 rfl rfl u_0))<|o_g (OT.guardMR (!(((((false || false) || r9) || (!r11.2)) || r13.2) || (!r15))) (gF (((((false || false) || r9) || (!r11.2)) || r13.2) || (!r15))).1 (gF (((((false || false) || r9) || (!r11.2)) || r13.2) || (!r15))).2 rfl rfl rfl (by decide) u_1 (fun hG=>Zef Zu4 (Zh6 _ (Zbn h18 hG)) rfl rfl rfl (by decide) u_1 (Opd.gd hG u_0) .nil) rfl)<|o_g (Qg_f rfl (fun hG=>Ze1 rfl rfl (Opd.gd hG u_0)))<|o_p rfl (Zbp rfl rfl u_0 (fun hz=>(Opd.gd (bNF hz) u_1)))<|o_n) (fun a g hst hb=>?_)
 refine wp_cond_split (hst.bool 3 rfl) (fun hc19=>?_) (fun hc19=>?_)
 ·replace H0:=Zu hc19 H0
  refine r_s (L:=[]) (T:=[⟨[],_,[],[],[0]⟩]) (F:=[.p 0 0]) (hst.pick [] rfl) hb Za
   (Qa rfl c_b<|o_n) (fun a g hst hb=>?_)
  refine wp_ret ?_
  refine Zo ?_
  obtain rfl:=Option.some.inj H0
  exact Z4 rfl hst hb (Zg (s:=0)) (hst.at 0 rfl)
 ·replace H0:=Zt hc19 H0
  refine wp_skip ?_
  refine Zp ?_
  obtain ⟨r20,h21,H0⟩:=Zc H0
  refine r_s (L:=[(1,_),(4,_),(5,_)]) (T:=[⟨[.o 1],[(64,(Zcc none Zb4 29 (if (!(((false || false) || r9) || (!r11.2)))=true then r13.1 else (if (!((false || false) || r9))=true then r11.1 else r5))))],[],[],[64]⟩,⟨[.o 0],_,[],[],[65]⟩,⟨[.p 0 0,.p 1 0,.o 1],[(66,(pTup [(Zy.pd r20.1),(Z0.sl.pd r20.2)])),(4,(Zcc none Zb4 29 (if (!(((false || false) || r9) || (!r11.2)))=true then r13.1 else (if (!((false || false) || r9))=true then r11.1 else r5))))],[30,1000030],[0,1],[4,64,66]⟩,⟨[.p 2 0],_,[],[0,1,2],[63]⟩,⟨[.p 3 0],_,[],Lr 4,[67]⟩,⟨[.p 3 0],_,[],Lr 4,[68]⟩,⟨[],[(6,(pBox Zy 6 (default:Zk)))],[7],[],[6]⟩,⟨[.p 4 0,.p 6 0],_,[7],[0,1,2,3,4,6],[6]⟩,⟨[.p 5 0],_,[],Lr 8,[7]⟩]) (F:=[.o 0,.o 2,.p 7 0,.p 8 0]) (hst.pick [0,1,2] rfl) hb Za
   (Qm rfl u_0<|QM rfl Zbv u_0<|o_p rfl (Zef Zu0 (Zg1 _ _ h21) rfl rfl rfl (by decide) u_2 u_0 (.cons u_1 .nil))<|Qm rfl u_0<|o_p rfl (Zz rfl rfl u_0 rfl)<|o_p rfl (Zz rfl rfl u_0 rfl)<|o_p rfl (Zbi (zs:=[.pointer none,.int .i64 0]) (by kernel_rfl) (fun g=>Zdx g) rfl rfl)<|o_p rfl (Zb5 Zbv rfl rfl u_1 u_0)<|Qa rfl u_0<|o_n) (fun a g hst hb=>?_)
  obtain ⟨r22,h23,H0⟩:=Zc H0
  refine r_s (T:=[⟨[.o 1],[(70,(Zcc none Zb4 33 (if (!(((((false || false) || r9) || (!r11.2)) || r13.2) || (!r15)))=true then r17.1 else r7)))],[],[],[70]⟩,⟨[.o 0],_,[],[],[71]⟩,⟨[.p 0 0,.p 1 0,.o 1],[(72,(pTup [(Zy.pd r22.1),(Z0.sl.pd r22.2)])),(5,(Zcc none Zb4 33 (if (!(((((false || false) || r9) || (!r11.2)) || r13.2) || (!r15)))=true then r17.1 else r7)))],[34,1000034],[0,1],[5,70,72]⟩,⟨[.p 2 0],_,[],[0,1,2],[69]⟩,⟨[.p 3 0],_,[],Lr 4,[73]⟩,⟨[.p 3 0],_,[],Lr 4,[74]⟩,⟨[],[(8,(pBox Zy 8 (default:Zk)))],[9],[],[8]⟩,⟨[.p 4 0,.p 6 0],_,[9],[0,1,2,3,4,6],[8]⟩,⟨[.p 5 0],_,[],Lr 8,[9]⟩]) (F:=[.o 0,.p 2 1,.o 2,.o 3,.p 7 0,.p 8 0]) hst hb Za
   (Qm rfl u_0<|QM rfl Zbv u_0<|o_p rfl (Zef Zu0 (Zg1 _ _ h23) rfl rfl rfl (by decide) u_2 u_0 (.cons u_1 .nil))<|Qm rfl u_0<|o_p rfl (Zz rfl rfl u_0 rfl)<|o_p rfl (Zz rfl rfl u_0 rfl)<|o_p rfl (Zbi (zs:=[.pointer none,.int .i64 0]) (by kernel_rfl) (fun g=>Zdx g) rfl rfl)<|o_p rfl (Zb5 Zbv rfl rfl u_1 u_0)<|Qa rfl u_0<|o_n) (fun a g hst hb=>?_)
  obtain ⟨r24,h25,H0⟩:=Zc H0
  refine r_s (T:=[⟨[.o 2],_,[],[],[76]⟩,⟨[.p 0 0],_,[],[0],[77]⟩,⟨[.p 1 0],_,[],[0,1],[75]⟩,⟨[.p 2 0],_,[],[0,1,2],[78]⟩,⟨[.p 2 0],_,[],[0,1,2],[79]⟩,⟨[],[(10,(pBox Ze 10 (default:Zb)))],[11],[],[10]⟩,⟨[.p 3 0,.p 5 0],_,[11],[0,1,2,3,5],[10]⟩,⟨[.p 4 0],_,[],Lr 7,[11]⟩]) (F:=[.o 0,.o 1,.o 3,.o 4,.o 5,.p 6 0]) hst hb Za
   (Ql rfl Zbv u_0<|o_p rfl (Zl Zva (Zhj _ _ h25) rfl rfl (.cons u_0 (.cons c_s .nil)))<|Qm rfl u_0<|o_p rfl (Zz rfl rfl u_0 rfl)<|o_p rfl (Zz rfl rfl u_0 rfl)<|o_p rfl (Zbi (zs:=[.int .i64 0,.int .i64 0,.int .i64 0,.int .i64 0,.float .f64 0,.int .i64 0,.string ByteArray.empty,.slice none 0 0]) (by kernel_rfl) (fun g=>Zb2 g) rfl rfl)<|o_p rfl (Zb5 Zbe rfl rfl u_1 u_0)<|Qa rfl u_0<|o_n) (fun a g hst hb=>?_)
  obtain ⟨r26,h27,H0⟩:=Zc H0
  refine r_s (T:=[⟨[.o 1],[(81,(Zcc none Zb4 33 (if (!(((((false || false) || r9) || (!r11.2)) || r13.2) || (!r15)))=true then r17.1 else r7)))],[],[],[81]⟩,⟨[.p 0 0,.o 1],[(82,(pTup [(Zbo.pd r26.1),(Zbf r26.2)])),(5,(Zcc none Zb4 33 (if (!(((((false || false) || r9) || (!r11.2)) || r13.2) || (!r15)))=true then r17.1 else r7)))],[34,1000034],[0],[5,81,82]⟩,⟨[.p 1 0],_,[],[0,1],[80]⟩,⟨[.p 2 0],_,[],[0,1,2],[83]⟩,⟨[.p 2 0],_,[],[0,1,2],[84]⟩,⟨[],[(12,(pBox Zbo 12 (default:Zs)))],[13],[],[12]⟩,⟨[.p 3 0,.p 5 0],_,[13],[0,1,2,3,5],[12]⟩,⟨[.p 4 0],_,[],Lr 7,[13]⟩]) (F:=[.o 0,.o 2,.o 3,.o 4,.o 5,.p 6 0,.p 7 0]) hst hb Za
   (Qm rfl u_0<|o_p rfl (Zef Z44 (Zl9 _ h27) rfl rfl rfl (by decide) u_1 u_0 .nil)<|Qm rfl u_0<|o_p rfl (Zz rfl rfl u_0 rfl)<|o_p rfl (Zz rfl rfl u_0 rfl)<|o_p rfl (Zbi (zs:=[.int .i64 0,.int .i64 0,.slice none 0 0]) (by kernel_rfl) (fun g=>Zjd g) rfl rfl)<|o_p rfl (Zb5 Zh4 rfl rfl u_1 u_0)<|Qa rfl u_0<|o_n) (fun a g hst hb=>?_)
  obtain ⟨r28,h29,H0⟩:=Zc H0
  refine r_s (T:=⟨[.o 1],_,[],[],[85]⟩ :: ⟨[.p 0 0],_,[],[0],[86]⟩ :: ⟨[.p 1 0],_,[],[0,1],[87]⟩ :: ⟨[.p 2 0],_,[],[0,1,2],[88]⟩ :: ⟨[.p 3 0,.o 4],_,[],Lr 4,[89]⟩ :: ⟨[.p 3 0,.p 4 0],_,[],Lr 5,[90]⟩ :: ⟨[.p 3 0,.p 5 0],_,[],Lr 6,[91]⟩ :: ⟨[.p 3 0,.p 6 0],_,[],Lr 7,[92]⟩ :: ⟨[.p 7 0],_,[],Lr 8,[93]⟩ :: ⟨[.p 8 0,.o 0],_,[],Lr 9,[94]⟩ :: ⟨[.p 8 0,.o 2],_,[],Lr 9,[95]⟩ :: ⟨[.p 8 0,.p 9 0,.p 10 0],_,[],Lr 11,[96]⟩ :: ⟨[.p 8 0,.p 11 0],_,[],Lr 12,[97]⟩ :: ⟨[.p 12 0],_,[],Lr 13,[98]⟩ :: ⟨[.p 13 0,.o 3],_,[],Lr 14,[99]⟩ :: ⟨[.p 13 0,.p 14 0],_,[],Lr 15,[100]⟩ :: ⟨[.p 13 0,.p 15 0],_,[],Lr 16,[101]⟩ :: ⟨[.p 13 0,.p 16 0],_,[],Lr 17,[102]⟩ :: ⟨[.p 17 0],_,[],Lr 18,[103]⟩ :: ⟨[.p 18 0,.o 6],_,[],Lr 19,[104]⟩ :: ⟨[.p 18 0,.p 19 0],_,[],Lr 20,[105]⟩ :: ⟨[.p 20 0],_,[],Lr 21,[106]⟩ :: ⟨[.p 21 0,.o 5],_,[],Lr 22,[107]⟩ :: ⟨[.p 21 0,.p 22 0],_,[],Lr 23,[108]⟩ :: ⟨[.p 21 0,.p 23 0],_,[],Lr 24,[109]⟩ :: ⟨[.p 21 0,.p 24 0],_,[],Lr 25,[110]⟩ :: ⟨[.p 21 0,.p 25 0],_,[],Lr 26,[111]⟩ :: ⟨[.p 26 0],_,[],Lr 27,[0]⟩ :: []) (F:=[.p 27 0]) hst hb Za
   (Qm rfl u_0<|o_p rfl (Zbx Tryz.underlying23 rfl rfl u_0)<|o_p rfl (Zbt rfl rfl u_0 c_i)<|Qm rfl u_0<|o_g (Qg_t rfl (fun hG=>Zi Zc3 rfl rfl u_0))<|o_g (Qg_t rfl (fun hG=>Zv ty_2 rfl rfl (Opd.gd hG u_0)))<|o_g (Qg_t rfl (fun hG=>Zbt rfl rfl (Opd.gd hG u_0) c_i))<|o_p rfl (Zbk rfl rfl u_0 (fun hz=>(Opd.gd hz u_1)))<|Qm rfl u_0<|o_g (Qg_t rfl (fun hG=>Zsc Zbv rfl rfl u_0))<|o_g (Qg_t rfl (fun hG=>Zv Zbv rfl rfl u_0))<|o_g (Qg_t rfl (fun hG=>Zl Zbew (Z0c _ _ (Zbn h29 hG)) rfl rfl (.cons (Opd.gd hG u_0) (.cons (Opd.gd hG u_1) .nil))))<|o_p rfl (Zbk rfl rfl u_0 (fun hz=>(Opd.gd hz u_1)))<|Qm rfl u_0<|o_g (Qg_t rfl (fun hG=>Z6 rfl rfl u_0))<|o_g (Qg_t rfl (fun hG=>Zbx Tryz.underlying23 rfl rfl (Opd.gd hG u_0)))<|o_g (Qg_t rfl (fun hG=>Zbt rfl rfl (Opd.gd hG u_0) c_i))<|o_p rfl (Zbk rfl rfl u_0 (fun hz=>(Opd.gd hz u_1)))<|Qm rfl u_0<|o_g (Qg_t rfl (fun hG=>Z6 rfl rfl u_0))<|o_p rfl (Zbk rfl rfl u_0 (fun hz=>(Opd.gd hz u_1)))<|Qm rfl u_0<|o_g (Qg_t rfl (fun hG=>Zi Zn0 rfl rfl u_0))<|o_g (Qg_t rfl (fun hG=>Zv Zs9 rfl rfl (Opd.gd hG u_0)))<|o_g (Qg_t rfl (fun hG=>Zbx Tryz.underlying47 rfl rfl (Opd.gd hG u_0)))<|o_g (Qg_t rfl (fun hG=>Zbt rfl rfl (Opd.gd hG u_0) c_i))<|o_p rfl (Zbk rfl rfl u_0 (fun hz=>(Opd.gd hz u_1)))<|Qa rfl u_0<|o_n) (fun a g hst hb=>?_)
  refine wp_ret ?_
  obtain rfl:=Option.some.inj H0
  exact Z4 rfl hst hb (Zg (s:=0)) (hst.at 0 rfl)
theorem Zps (a0:Zb) {r:Int} (h:Zja a0=some r):FnOk Tryz.prog 31 [(Ze.pd a0)] (pInt .i64 r):=by
 have H0:=h
 unfold Zja at H0
 clear h
 refine Zbs (N:=27) Tryz.func31 rfl rfl (Qe rfl) rfl rfl (fun a g0 hst hb=>?_)
 refine r_s (T:=[⟨[.o 0],_,[],[],[1]⟩,⟨[],_,[],[],[2]⟩]) (F:=[.p 0 0]) hst hb Za
  (Qb rfl u_0<|Qa rfl c_i<|o_n) (fun a g hst hb=>?_)
 refine wp_seq ?_
 refine r_s (T:=[⟨[.o 0],_,[],[],[5]⟩,⟨[.p 0 0],_,[],[0],[6]⟩,⟨[.p 1 0],_,[],[0,1],[7]⟩,⟨[.p 2 0],_,[],[0,1,2],[8]⟩,⟨[.p 3 0],_,[],Lr 4,[9]⟩,⟨[.p 4 0,.o 0],_,[],Lr 5,[10]⟩,⟨[.p 4 0,.p 5 0],_,[],Lr 6,[11]⟩,⟨[.p 4 0,.p 6 0],_,[],Lr 7,[12]⟩,⟨[.p 4 0,.p 7 0],_,[],Lr 8,[13]⟩,⟨[.p 4 0,.p 8 0],_,[],Lr 9,[14]⟩]) (F:=[.o 0,.p 9 0]) hst hb Za
  (Qf rfl Zci u_0<|Ql rfl Zdb u_0<|o_p rfl (Zbx Tryz.underlying36 rfl rfl u_0)<|o_p rfl (Zct rfl rfl u_0 c_i)<|Qm rfl u_0<|o_g (Qg_f rfl (fun hG=>Zi Zj2 rfl rfl u_0))<|o_g (Qg_f rfl (fun hG=>Zv ty_9 rfl rfl (Opd.gd hG u_0)))<|o_g (Qg_f rfl (fun hG=>Zfy Tryz.underlying9 rfl rfl (Opd.gd hG u_0)))<|o_g (Qg_f rfl (fun hG=>Zct rfl rfl (Opd.gd hG u_0) c_i))<|o_p rfl (Zbp rfl rfl u_0 (fun hz=>(Opd.gd (bNF hz) u_1)))<|o_n) (fun a g hst hb=>?_)
 refine wp_cond_split (hst.bool 1 rfl) (fun hc1=>?_) (fun hc1=>?_)
 ·replace H0:=Zu hc1 H0
  refine r_s (L:=[]) (T:=[⟨[],_,[],[],[2]⟩]) (F:=[.p 0 0]) (hst.pick [] rfl) hb Za
   (Qa rfl c_i<|o_n) (fun a g hst hb=>?_)
  refine wp_ret ?_
  refine Zo ?_
  obtain rfl:=Option.some.inj H0
  exact Z4 rfl hst hb (Zg (s:=2)) (hst.at 0 rfl)
 ·replace H0:=Zt hc1 H0
  refine wp_skip ?_
  refine Zp ?_
  refine wp_seq ?_
  refine r_s (L:=[(1,_)]) (T:=[⟨[.o 0],_,[],[],[15]⟩,⟨[.p 0 0],_,[],[0],[16]⟩,⟨[.p 1 0],_,[],[0,1],[17]⟩,⟨[],_,[],[],[18]⟩]) (F:=[.p 1 0,.p 2 0,.p 3 0]) (hst.pick [0] rfl) hb Za
   (Qf rfl Zci u_0<|Ql rfl Zdb u_0<|o_p rfl (Zbx Tryz.underlying36 rfl rfl u_0)<|Qm rfl c_i<|o_n) (fun a g hst hb=>?_)
  obtain ⟨z7,hz1,H0⟩:=Zc H0
  refine Zb3 (fun a w=>∃ (g:G),w=g.w ∧ St 27 [] a g ∧ Base g0 g ∧ (.inr ())=z7) ?_ ?_
  ·rintro a w ⟨g,rfl,hst,hb,rfl⟩
   refine Zp ?_
   refine r_s (T:=[⟨[],_,[],[],[2]⟩]) (F:=[.p 0 0]) hst hb Za
    (Qa rfl c_i<|o_n) (fun a g hst hb=>?_)
   refine wp_ret ?_
   obtain rfl:=Option.some.inj H0
   exact Z4 rfl hst hb (Zg (s:=2)) (hst.at 0 rfl)
  ·refine wp_block ?_
   refine wp_loop_ghost (fun n a w=>∃ (x2:Int) (g:G),w=g.w ∧ St 27 [(16,(Z2.sl.pd a0.List)),(17,(pInt .i64 (a0.List.length:Int))),(18,(pInt .i64 x2))] a g ∧ Base g0 g ∧ Zfl a0 n x2=some z7) (Int.toNat ((a0.List.length:Int) - (0:Int)) + 1) ⟨(0:Int),g,rfl,(hst.pick [0,1,2] rfl),hb,hz1⟩ (fun n a w hI=>?_)
   obtain ⟨x2,g,rfl,hst,hb,H1⟩:=hI
   cases n with
   | zero=>exact absurd H1 (by simp [Zfl])
   | succ n =>
    rw [Zfl] at H1
    refine r_s (T:=[⟨[.o 2,.o 1],_,[],[],[19]⟩]) (F:=[.o 0,.o 1,.o 2,.p 0 0]) hst hb Za
     (o_p rfl (Zca rfl rfl u_0 u_1)<|o_n) (fun a g hst hb=>?_)
    refine wp_seq ?_
    refine wp_cond_split (hst.bool 3 rfl) (fun hc3=>?_) (fun hc3=>?_)
    ·replace H1:=Zu hc3 H1
     refine wp_skip ?_
     refine Zp ?_
     refine wp_seq ?_
     refine wp_block ?_
     obtain ⟨e4,h5,H1⟩:=Zc H1
     refine r_s (L:=[(16,_),(17,_),(18,_)]) (T:=[⟨[.o 0,.o 2],_,[],[],[20]⟩,⟨[.p 0 0],_,[],[0],[21]⟩,⟨[],[(4,(pBox Z2 4 (default:Zh)))],[5],[],[4]⟩,⟨[.p 1 0,.p 2 0],_,[5],[0,1,2],[4]⟩]) (F:=[.p 3 0,.o 0,.o 1,.o 2]) (hst.pick [0,1,2] rfl) hb Za
      (o_p rfl (Zbl Tryz.underlying36 Zfe rfl rfl u_0 u_1 h5)<|Ql rfl Zeb u_0<|o_p rfl (Zbi (zs:=[.float .f64 0,.string ByteArray.empty]) (by kernel_rfl) (fun g=>Zl5 g) rfl rfl)<|o_p rfl (Zb5 Zeb rfl rfl u_1 u_0)<|o_n) (fun a g hst hb=>?_)
     refine r_s (T:=[⟨[.o 0],_,[],[],[22]⟩,⟨[.p 0 0],_,[],[0],[23]⟩,⟨[.p 1 0],_,[],[0,1],[24]⟩,⟨[.p 2 0],_,[],[0,1,2],[25]⟩]) (F:=[.o 1,.o 2,.o 3,.p 3 0]) hst hb Za
      (Qf rfl Zd6 u_0<|Ql rfl ty_9 u_0<|o_p rfl (Zfy Tryz.underlying9 rfl rfl u_0)<|o_p rfl (Zct rfl rfl u_0 c_i)<|o_n) (fun a g hst hb=>?_)
     refine wp_cond_split (hst.bool 3 rfl) (fun hc6=>?_) (fun hc6=>?_)
     ·replace H1:=Zu hc6 H1
      refine r_s (L:=[]) (T:=[⟨[],_,[],[],[2]⟩]) (F:=[.p 0 0]) (hst.pick [] rfl) hb Za
       (Qa rfl c_i<|o_n) (fun a g hst hb=>?_)
      refine wp_ret ?_
      refine Z5 ?_
      refine Zo ?_
      refine Zo ?_
      refine Z5 ?_
      refine Zo ?_
      refine Zo ?_
      obtain rfl:=Option.some.inj H1
      obtain rfl:=Option.some.inj H0
      exact Z4 rfl hst hb (Zg (s:=2)) (hst.at 0 rfl)
     ·replace H1:=Zt hc6 H1
      refine wp_skip ?_
      refine Zbc ?_
      refine Zp ?_
      refine r_g (L:=[(16,_),(17,_),(18,_)]) (T:=[⟨[.o 2],_,[],[],[26]⟩,⟨[.p 0 0],_,[],[0],[18]⟩]) (F:=[.o 0,.o 1,.p 1 0]) (hst.pick [0,1,2] rfl) hb Za
       (o_p rfl (Zb0 rfl rfl u_0 c_i rfl)<|Qm rfl u_0<|o_n) (fun a g hst hb=>?_)
      exact ⟨n,Nat.lt_succ_self _,(IntKind.i64.wrap (x2 + (1:Int))),g,rfl,(hst.pick [0,1,2] rfl),hb,H1⟩
    ·replace H1:=Zt hc3 H1
     refine wp_exit ?_
     refine Zby ?_
     refine Zby ?_
     refine Zcb ?_
     exact ⟨g,rfl,(hst.pick [] rfl),hb,Option.some.inj H1⟩
theorem Zj9 (a0:Nat) {r:Bool} (h:Zew a0=some r):FnOk Tryz.prog 96 [(pFlt a0)] (Zbf r):=by
 have H0:=h
 unfold Zew at H0
 clear h
 refine Zbs (N:=6) Tryz.func96 rfl rfl (Qe rfl) rfl rfl (fun a g0 hst hb=>?_)
 refine r_s (T:=[⟨[],_,[],[],[2]⟩]) (F:=[.o 0]) hst hb Za
  (Qa rfl c_b<|o_n) (fun a g hst hb=>?_)
 refine r_s (T:=[⟨[.o 0],_,[],[],[3]⟩,⟨[.o 0],_,[],[],[4]⟩,⟨[.p 0 0,.p 1 0],_,[],[0,1],[5]⟩,⟨[.p 2 0],_,[],[0,1,2],[2]⟩]) (F:=[.p 3 0]) hst hb Za
  (Qm rfl u_0<|Qm rfl u_0<|o_p rfl (Z4p rfl rfl u_0 u_1)<|Qa rfl u_0<|o_n) (fun a g hst hb=>?_)
 refine wp_ret ?_
 obtain rfl:=Option.some.inj H0
 exact Z4 rfl hst hb (Zg (s:=2)) (hst.at 0 rfl)
theorem Zlh (a0:Nat) {r:Bool} (h:Zge a0=some r):FnOk Tryz.prog 71 [(pFlt a0)] (Zbf r):=by
 have H0:=h
 unfold Zge at H0
 clear h
 refine Zbs (N:=11) Tryz.func71 rfl rfl (Qe rfl) rfl rfl (fun a g0 hst hb=>?_)
 refine r_s (T:=[⟨[],_,[],[],[2]⟩]) (F:=[.o 0]) hst hb Za
  (Qa rfl c_b<|o_n) (fun a g hst hb=>?_)
 obtain ⟨r1,h2,H0⟩:=Zc H0
 refine r_s (T:=[⟨[.o 0],_,[],[],[3]⟩,⟨[.p 0 0],_,[],[0],[4]⟩,⟨[.p 1 0],_,[],[0,1],[5]⟩,⟨[.p 2 0],_,[],[0,1,2],[6]⟩,⟨[.p 3 0,.o 0],_,[],Lr 4,[7]⟩,⟨[.p 3 0,.p 4 0],_,[],Lr 5,[8]⟩,⟨[.p 3 0,.p 5 0],_,[],Lr 6,[9]⟩,⟨[.p 3 0,.p 6 0],_,[],Lr 7,[10]⟩,⟨[.p 7 0],_,[],Lr 8,[2]⟩]) (F:=[.p 8 0]) hst hb Za
  (Qm rfl u_0<|o_p rfl (Zl Z0z (Zj9 _ h2) rfl rfl (.cons u_0 .nil))<|Qn rfl u_0<|Qm rfl u_0<|o_g (Qg_f rfl (fun hG=>Z6 rfl rfl u_0))<|o_g (Qg_f rfl (fun hG=>Zru Zxz rfl rfl (Opd.gd hG u_0)))<|o_g (Qg_f rfl (fun hG=>Zbt rfl rfl (Opd.gd hG u_0) c_i))<|o_p rfl (Zbp rfl rfl u_0 (fun hz=>(Opd.gd (bNF hz) u_1)))<|Qa rfl u_0<|o_n) (fun a g hst hb=>?_)
 refine wp_ret ?_
 obtain rfl:=Option.some.inj H0
 exact Z4 rfl hst hb (Zg (s:=2)) (hst.at 0 rfl)
theorem Zn6 (a0:Nat) {r:Bool} (h:Zh5 a0=some r):FnOk Tryz.prog 98 [(pFlt a0)] (Zbf r):=by
 have H0:=h
 unfold Zh5 at H0
 clear h
 refine Zbs (N:=10) Tryz.func98 rfl rfl (Qe rfl) rfl rfl (fun a g0 hst hb=>?_)
 refine r_s (T:=[⟨[],_,[],[],[2]⟩]) (F:=[.o 0]) hst hb Za
  (Qa rfl c_b<|o_n) (fun a g hst hb=>?_)
 refine wp_seq ?_
 refine r_s (T:=[⟨[.o 0],_,[],[],[3]⟩,⟨[.p 0 0],_,[],[0],[4]⟩]) (F:=[.o 0,.p 1 0]) hst hb Za
  (Qm rfl u_0<|o_p rfl (Zyy rfl rfl u_0 c_f)<|o_n) (fun a g hst hb=>?_)
 refine wp_cond_split (hst.bool 1 rfl) (fun hc1=>?_) (fun hc1=>?_)
 ·replace H0:=Zu hc1 H0
  obtain ⟨f2,h3,H0⟩:=Zc H0
  refine r_s (L:=[(0,_)]) (T:=[⟨[.o 0],_,[],[],[5]⟩,⟨[.p 0 0],_,[],[0],[6]⟩,⟨[.p 1 0],_,[],[0,1],[7]⟩,⟨[.p 2 0],_,[],[0,1,2],[2]⟩]) (F:=[.p 3 0]) (hst.pick [0] rfl) hb Za
   (Qm rfl u_0<|o_p rfl (Zba9 rfl rfl c_f u_0 h3)<|o_p rfl (Zys rfl rfl u_0 c_f)<|Qa rfl u_0<|o_n) (fun a g hst hb=>?_)
  refine wp_ret ?_
  refine Zo ?_
  obtain rfl:=Option.some.inj H0
  exact Z4 rfl hst hb (Zg (s:=2)) (hst.at 0 rfl)
 ·replace H0:=Zt hc1 H0
  refine wp_skip ?_
  refine Zp ?_
  refine r_s (L:=[(0,_)]) (T:=[⟨[.o 0],_,[],[],[8]⟩,⟨[.p 0 0],_,[],[0],[9]⟩,⟨[.p 1 0],_,[],[0,1],[2]⟩]) (F:=[.p 2 0]) (hst.pick [0] rfl) hb Za
   (Qm rfl u_0<|o_p rfl (Zys rfl rfl u_0 c_f)<|Qa rfl u_0<|o_n) (fun a g hst hb=>?_)
  refine wp_ret ?_
  obtain rfl:=Option.some.inj H0
  exact Z4 rfl hst hb (Zg (s:=2)) (hst.at 0 rfl)
theorem Zih (a0:Nat) (a1:Nat) {r:Bool} (h:Zft a0 a1=some r):FnOk Tryz.prog 72 [(pFlt a0),(pFlt a1)] (Zbf r):=by
 have H0:=h
 unfold Zft at H0
 clear h
 refine Zbs (N:=25) Tryz.func72 rfl rfl (Qe rfl) rfl rfl (fun a g0 hst hb=>?_)
 refine r_s (T:=[⟨[],_,[],[],[4]⟩]) (F:=[.o 0,.o 1]) hst hb Za
  (Qa rfl c_b<|o_n) (fun a g hst hb=>?_)
 refine wp_seq ?_
 obtain ⟨r1,h2,H0⟩:=Zc H0
 refine r_s (T:=[⟨[.o 0],_,[],[],[5]⟩,⟨[.p 0 0],_,[],[0],[6]⟩]) (F:=[.o 0,.o 1,.p 1 0]) hst hb Za
  (Qm rfl u_0<|o_p rfl (Zl Z0z (Zj9 _ h2) rfl rfl (.cons u_0 .nil))<|o_n) (fun a g hst hb=>?_)
 refine wp_cond_split (hst.bool 2 rfl) (fun hc3=>?_) (fun hc3=>?_)
 ·replace H0:=Zu hc3 H0
  refine r_s (L:=[]) (T:=[⟨[],_,[],[],[4]⟩]) (F:=[.p 0 0]) (hst.pick [] rfl) hb Za
   (Qa rfl c_b<|o_n) (fun a g hst hb=>?_)
  refine wp_ret ?_
  refine Zo ?_
  obtain rfl:=Option.some.inj H0
  exact Z4 rfl hst hb (Zg (s:=4)) (hst.at 0 rfl)
 ·replace H0:=Zt hc3 H0
  refine wp_skip ?_
  refine Zp ?_
  refine wp_seq ?_
  obtain ⟨r4,h5,H0⟩:=Zc H0
  refine r_s (L:=[(0,_),(1,_)]) (T:=[⟨[.o 1],_,[],[],[7]⟩,⟨[.p 0 0],_,[],[0],[8]⟩]) (F:=[.o 0,.o 1,.p 1 0]) (hst.pick [0,1] rfl) hb Za
   (Qm rfl u_0<|o_p rfl (Zl Z0z (Zj9 _ h5) rfl rfl (.cons u_0 .nil))<|o_n) (fun a g hst hb=>?_)
  refine wp_cond_split (hst.bool 2 rfl) (fun hc6=>?_) (fun hc6=>?_)
  ·replace H0:=Zu hc6 H0
   refine r_s (L:=[]) (T:=[⟨[],_,[],[],[4]⟩]) (F:=[.p 0 0]) (hst.pick [] rfl) hb Za
    (Qa rfl c_b<|o_n) (fun a g hst hb=>?_)
   refine wp_ret ?_
   refine Zo ?_
   obtain rfl:=Option.some.inj H0
   exact Z4 rfl hst hb (Zg (s:=4)) (hst.at 0 rfl)
  ·replace H0:=Zt hc6 H0
   refine wp_skip ?_
   refine Zp ?_
   refine wp_seq ?_
   refine r_s (L:=[(0,_),(1,_)]) (T:=[⟨[.o 0],_,[],[],[9]⟩,⟨[.p 0 0],_,[],[0],[10]⟩,⟨[.p 1 0],_,[],[0,1],[11]⟩,⟨[.p 2 0,.o 1],_,[],[0,1,2],[12]⟩,⟨[.p 2 0,.p 3 0],_,[],Lr 4,[13]⟩,⟨[.p 2 0,.p 4 0],_,[],Lr 5,[14]⟩]) (F:=[.o 0,.o 1,.p 5 0]) (hst.pick [0,1] rfl) hb Za
    (Qm rfl u_0<|o_p rfl (Zyy rfl rfl u_0 c_f)<|Qm rfl u_0<|o_g (Qg_t rfl (fun hG=>Z6 rfl rfl u_0))<|o_g (Qg_t rfl (fun hG=>Zyy rfl rfl (Opd.gd hG u_0) c_f))<|o_p rfl (Zbk rfl rfl u_0 (fun hz=>(Opd.gd hz u_1)))<|o_n) (fun a g hst hb=>?_)
   refine wp_cond_split (hst.bool 2 rfl) (fun hc7=>?_) (fun hc7=>?_)
   ·replace H0:=Zu hc7 H0
    obtain ⟨r8,h9,H0⟩:=Zc H0;obtain ⟨r10,h11,H0⟩:=Zc H0
    refine r_s (L:=[(0,_),(1,_)]) (T:=[⟨[.o 0],_,[],[],[15]⟩,⟨[.p 0 0],_,[],[0],[16]⟩,⟨[.p 1 0],_,[],[0,1],[17]⟩,⟨[.p 2 0,.o 1],_,[],[0,1,2],[18]⟩,⟨[.p 2 0,.p 3 0],_,[],Lr 4,[19]⟩,⟨[.p 2 0,.p 4 0],_,[],Lr 5,[20]⟩,⟨[.p 2 0,.p 5 0],_,[],Lr 6,[21]⟩,⟨[.p 6 0],_,[],Lr 7,[4]⟩]) (F:=[.p 7 0]) (hst.pick [0,1] rfl) hb Za
     (Qm rfl u_0<|o_p rfl (Zl Z9w (Zn6 _ h9) rfl rfl (.cons u_0 .nil))<|Qm rfl u_0<|o_g (Qg_t rfl (fun hG=>Z6 rfl rfl u_0))<|o_g (Qg_t rfl (fun hG=>Zl Z9w (Zn6 _ (Zbn h11 hG)) rfl rfl (.cons (Opd.gd hG u_0) .nil)))<|o_g (Qg_t rfl (fun hG=>Ze1 rfl rfl (Opd.gd hG u_0)))<|o_p rfl (Zbk rfl rfl u_0 (fun hz=>(Opd.gd hz u_1)))<|Qa rfl u_0<|o_n) (fun a g hst hb=>?_)
    refine wp_ret ?_
    refine Zo ?_
    obtain rfl:=Option.some.inj H0
    exact Z4 rfl hst hb (Zg (s:=4)) (hst.at 0 rfl)
   ·replace H0:=Zt hc7 H0
    refine wp_skip ?_
    refine Zp ?_
    refine r_s (L:=[(0,_),(1,_)]) (T:=[⟨[.o 0],_,[],[],[22]⟩,⟨[.o 1],_,[],[],[23]⟩,⟨[.p 0 0,.p 1 0],_,[],[0,1],[24]⟩,⟨[.p 2 0],_,[],[0,1,2],[4]⟩]) (F:=[.p 3 0]) (hst.pick [0,1] rfl) hb Za
     (Qm rfl u_0<|Qm rfl u_0<|o_p rfl (Zys rfl rfl u_0 u_1)<|Qa rfl u_0<|o_n) (fun a g hst hb=>?_)
    refine wp_ret ?_
    obtain rfl:=Option.some.inj H0
    exact Z4 rfl hst hb (Zg (s:=4)) (hst.at 0 rfl)
theorem Zg0 (a0:Nat) (a1:Nat) {r:Bool} (h:Zd5 a0 a1=some r):FnOk Tryz.prog 49 [(pFlt a0),(pFlt a1)] (Zbf r):=by
 have H0:=h
 unfold Zd5 at H0
 clear h
 refine Zbs (N:=15) Tryz.func49 rfl rfl (Qe rfl) rfl rfl (fun a g0 hst hb=>?_)
 refine r_s (T:=[⟨[],_,[],[],[4]⟩]) (F:=[.o 0,.o 1]) hst hb Za
  (Qa rfl c_b<|o_n) (fun a g hst hb=>?_)
 obtain ⟨r1,h2,H0⟩:=Zc H0;obtain ⟨r3,h4,H0⟩:=Zc H0
 refine r_s (T:=[⟨[.o 0],_,[],[],[5]⟩,⟨[.o 1],_,[],[],[6]⟩,⟨[.p 0 0,.p 1 0],_,[],[0,1],[7]⟩,⟨[.p 2 0],_,[],[0,1,2],[8]⟩,⟨[.p 3 0],_,[],Lr 4,[9]⟩,⟨[.p 4 0,.o 1],_,[],Lr 5,[10]⟩,⟨[.p 4 0,.o 0],_,[],Lr 5,[11]⟩,⟨[.p 4 0,.p 5 0,.p 6 0],_,[],Lr 7,[12]⟩,⟨[.p 4 0,.p 7 0],_,[],Lr 8,[13]⟩,⟨[.p 4 0,.p 8 0],_,[],Lr 9,[14]⟩,⟨[.p 9 0],_,[],Lr 10,[4]⟩]) (F:=[.p 10 0]) hst hb Za
  (Qm rfl u_0<|Qm rfl u_0<|o_p rfl (Zl Zxd (Zih _ _ h2) rfl rfl (.cons u_0 (.cons u_1 .nil)))<|Qn rfl u_0<|Qm rfl u_0<|o_g (Qg_t rfl (fun hG=>Z6 rfl rfl u_0))<|o_g (Qg_t rfl (fun hG=>Z6 rfl rfl u_0))<|o_g (Qg_t rfl (fun hG=>Zl Zxd (Zih _ _ (Zbn h4 hG)) rfl rfl (.cons (Opd.gd hG u_0) (.cons (Opd.gd hG u_1) .nil))))<|o_g (Qg_t rfl (fun hG=>Ze1 rfl rfl (Opd.gd hG u_0)))<|o_p rfl (Zbk rfl rfl u_0 (fun hz=>(Opd.gd hz u_1)))<|Qa rfl u_0<|o_n) (fun a g hst hb=>?_)
 refine wp_ret ?_
 obtain rfl:=Option.some.inj H0
 exact Z4 rfl hst hb (Zg (s:=4)) (hst.at 0 rfl)
theorem Zok (a0:Nat) {r:Bool} (h:Ziq a0=some r):FnOk Tryz.prog 103 [(pFlt a0)] (Zbf r):=by
 have H0:=h
 unfold Ziq at H0
 clear h
 refine Zbs (N:=5) Tryz.func103 rfl rfl (Qe rfl) rfl rfl (fun a g0 hst hb=>?_)
 refine r_s (T:=[⟨[],_,[],[],[2]⟩]) (F:=[.o 0]) hst hb Za
  (Qa rfl c_b<|o_n) (fun a g hst hb=>?_)
 obtain ⟨r1,h2,H0⟩:=Zc H0
 refine r_s (T:=[⟨[.o 0],_,[],[],[3]⟩,⟨[.p 0 0],_,[],[0],[4]⟩,⟨[.p 1 0],_,[],[0,1],[2]⟩]) (F:=[.p 2 0]) hst hb Za
  (Qm rfl u_0<|o_p rfl (Zl Zvc (Zg0 _ _ h2) rfl rfl (.cons u_0 (.cons c_f .nil)))<|Qa rfl u_0<|o_n) (fun a g hst hb=>?_)
 refine wp_ret ?_
 obtain rfl:=Option.some.inj H0
 exact Z4 rfl hst hb (Zg (s:=2)) (hst.at 0 rfl)
theorem Ztm (a0:Zb) (a1:ByteArray) {r:Bool} (h:Zj4 a0 a1=some r):FnOk Tryz.prog 82 [(Ze.pd a0),(pStr a1)] (Zbf r):=by
 have H0:=h
 unfold Zj4 at H0
 clear h
 refine Zbs (N:=106) Tryz.func82 rfl rfl (Qe rfl) rfl rfl (fun a g0 hst hb=>?_)
 refine r_s (T:=[⟨[.o 0],_,[],[],[2]⟩,⟨[],_,[],[],[4]⟩]) (F:=[.o 1,.p 0 0]) hst hb Za
  (Qb rfl u_0<|Qa rfl c_b<|o_n) (fun a g hst hb=>?_)
 refine r_s (T:=[⟨[],_,[],[],[5]⟩,⟨[],_,[],[0],[6]⟩,⟨[],_,[],[0,1],[7]⟩,⟨[],_,[],[0,1,2],[8]⟩,⟨[],_,[],Lr 4,[9]⟩]) (F:=[.o 0,.o 1,.p 0 0,.p 1 0,.p 2 0,.p 3 0,.p 4 0]) hst hb Za
  (Qa rfl c_b<|Qa rfl c_b<|Qa rfl c_b<|Qa rfl c_b<|Qa rfl c_b<|o_n) (fun a g hst hb=>?_)
 refine wp_seq ?_
 refine r_s (T:=[⟨[],_,[],[],[10]⟩]) (F:=[.o 0,.o 1,.o 2,.o 3,.o 4,.o 5,.o 6,.p 0 0]) hst hb Za
  (Qa rfl c_i<|o_n) (fun a g hst hb=>?_)
 obtain ⟨z23,hz1,H0⟩:=Zc H0
 refine Zb3 (fun a w=>∃ (y18:Bool) (y19:Bool) (y20:Bool) (y21:Bool) (y22:Bool) (g:G),w=g.w ∧ St 106 [(2,(Ze.ptr a0)),(5,(Zbf y18)),(6,(Zbf y19)),(7,(Zbf y20)),(8,(Zbf y21)),(9,(Zbf y22))] a g ∧ Base g0 g ∧ (y18,y19,y20,y21,y22)=z23) ?_ ?_
 ·rintro a w ⟨y18,y19,y20,y21,y22,g,rfl,hst,hb,rfl⟩
  refine Zp ?_
  refine wp_seq ?_
  refine r_s (T:=⟨[.o 1],_,[],[],[52]⟩ :: ⟨[.p 0 0],_,[],[0],[53]⟩ :: ⟨[.p 1 0],_,[],[0,1],[54]⟩ :: ⟨[.p 2 0,.o 0],_,[],[0,1,2],[55]⟩ :: ⟨[.p 2 0,.p 3 0],_,[],Lr 4,[56]⟩ :: ⟨[.p 2 0,.p 4 0],_,[],Lr 5,[57]⟩ :: ⟨[.p 2 0,.p 5 0],_,[],Lr 6,[58]⟩ :: ⟨[.p 6 0],_,[],Lr 7,[59]⟩ :: ⟨[.p 7 0,.o 2],_,[],Lr 8,[60]⟩ :: ⟨[.p 7 0,.p 8 0],_,[],Lr 9,[61]⟩ :: ⟨[.p 7 0,.p 9 0],_,[],Lr 10,[62]⟩ :: ⟨[.p 10 0,.o 0],_,[],Lr 11,[63]⟩ :: ⟨[.p 10 0,.p 11 0],_,[],Lr 12,[64]⟩ :: ⟨[.p 10 0,.p 12 0],_,[],Lr 13,[65]⟩ :: ⟨[.p 7 0,.p 10 0,.p 13 0],_,[],Lr 14,[66]⟩ :: ⟨[.p 7 0,.p 14 0],_,[],Lr 15,[67]⟩ :: ⟨[.p 15 0],_,[],Lr 16,[68]⟩ :: ⟨[.p 16 0,.o 3],_,[],Lr 17,[69]⟩ :: ⟨[.p 16 0,.p 17 0],_,[],Lr 18,[70]⟩ :: ⟨[.p 16 0,.p 18 0],_,[],Lr 19,[71]⟩ :: ⟨[.p 19 0,.o 0],_,[],Lr 20,[72]⟩ :: ⟨[.p 19 0,.p 20 0],_,[],Lr 21,[73]⟩ :: ⟨[.p 19 0,.p 21 0],_,[],Lr 22,[74]⟩ :: ⟨[.p 16 0,.p 19 0,.p 22 0],_,[],Lr 23,[75]⟩ :: ⟨[.p 16 0,.p 23 0],_,[],Lr 24,[76]⟩ :: ⟨[.p 24 0],_,[],Lr 25,[77]⟩ :: ⟨[.p 25 0,.o 3],_,[],Lr 26,[78]⟩ :: ⟨[.p 25 0,.p 26 0],_,[],Lr 27,[79]⟩ :: ⟨[.p 25 0,.p 27 0],_,[],Lr 28,[80]⟩ :: ⟨[.p 28 0,.o 0],_,[],Lr 29,[81]⟩ :: ⟨[.p 28 0,.p 29 0],_,[],Lr 30,[82]⟩ :: ⟨[.p 28 0,.p 30 0],_,[],Lr 31,[83]⟩ :: ⟨[.p 25 0,.p 28 0,.p 31 0],_,[],Lr 32,[84]⟩ :: ⟨[.p 25 0,.p 32 0],_,[],Lr 33,[85]⟩ :: []) (F:=[.o 0,.o 4,.o 5,.p 33 0]) hst hb Za
   (Qm rfl u_0<|Qn rfl u_0<|Qm rfl u_0<|o_g (Qg_t rfl (fun hG=>Zi Zj2 rfl rfl u_0))<|o_g (Qg_t rfl (fun hG=>Zv ty_9 rfl rfl (Opd.gd hG u_0)))<|o_g (Qg_t rfl (fun hG=>Zpg rfl rfl (Opd.gd hG u_0) c_s))<|o_p rfl (Zbk rfl rfl u_0 (fun hz=>(Opd.gd hz u_1)))<|Qm rfl u_0<|o_g (Qg_f rfl (fun hG=>Z6 rfl rfl u_0))<|o_g (Qg_f rfl (fun hG=>Ze1 rfl rfl (Opd.gd hG u_0)))<|o_g (Qg_f rfl (fun hG=>Z6 rfl rfl (Opd.gd hG u_0)))<|o_g (Qg_ti rfl (fun hG=>Zi Zc3 rfl rfl u_0))<|o_g (Qg_ti rfl (fun hG=>Zv ty_2 rfl rfl (Opd.gd hG u_0)))<|o_g (Qg_ti rfl (fun hG=>Zdn rfl rfl (Opd.gd hG u_0) c_i))<|o_g (Qg_f rfl (fun hG=>Zbk rfl rfl (Opd.gd hG u_0) (fun hz=>(Opd.gd (bA hG hz) u_1))))<|o_p rfl (Zbp rfl rfl u_0 (fun hz=>(Opd.gd (bNF hz) u_1)))<|Qm rfl u_0<|o_g (Qg_f rfl (fun hG=>Z6 rfl rfl u_0))<|o_g (Qg_f rfl (fun hG=>Ze1 rfl rfl (Opd.gd hG u_0)))<|o_g (Qg_f rfl (fun hG=>Z6 rfl rfl (Opd.gd hG u_0)))<|o_g (Qg_ti rfl (fun hG=>Zi Zkf rfl rfl u_0))<|o_g (Qg_ti rfl (fun hG=>Zv ty_2 rfl rfl (Opd.gd hG u_0)))<|o_g (Qg_ti rfl (fun hG=>Zdn rfl rfl (Opd.gd hG u_0) c_i))<|o_g (Qg_f rfl (fun hG=>Zbk rfl rfl (Opd.gd hG u_0) (fun hz=>(Opd.gd (bA hG hz) u_1))))<|o_p rfl (Zbp rfl rfl u_0 (fun hz=>(Opd.gd (bNF hz) u_1)))<|Qm rfl u_0<|o_g (Qg_f rfl (fun hG=>Z6 rfl rfl u_0))<|o_g (Qg_f rfl (fun hG=>Ze1 rfl rfl (Opd.gd hG u_0)))<|o_g (Qg_f rfl (fun hG=>Z6 rfl rfl (Opd.gd hG u_0)))<|o_g (Qg_ti rfl (fun hG=>Zi Zkd rfl rfl u_0))<|o_g (Qg_ti rfl (fun hG=>Zv ty_2 rfl rfl (Opd.gd hG u_0)))<|o_g (Qg_ti rfl (fun hG=>Zdn rfl rfl (Opd.gd hG u_0) c_i))<|o_g (Qg_f rfl (fun hG=>Zbk rfl rfl (Opd.gd hG u_0) (fun hz=>(Opd.gd (bA hG hz) u_1))))<|o_p rfl (Zbp rfl rfl u_0 (fun hz=>(Opd.gd (bNF hz) u_1)))<|o_n) (fun a g hst hb=>?_)
  refine wp_cond_split (hst.bool 3 rfl) (fun hc24=>?_) (fun hc24=>?_)
  ·replace H0:=Zu hc24 H0
   refine r_s (L:=[]) (T:=[⟨[],_,[],[],[4]⟩]) (F:=[.p 0 0]) (hst.pick [] rfl) hb Za
    (Qa rfl c_b<|o_n) (fun a g hst hb=>?_)
   refine wp_ret ?_
   refine Zo ?_
   obtain rfl:=Option.some.inj H0
   exact Z4 rfl hst hb (Zg (s:=4)) (hst.at 0 rfl)
  ·replace H0:=Zt hc24 H0
   refine wp_skip ?_
   refine Zp ?_
   obtain ⟨r25,h26,H0⟩:=Zc H0
   refine r_s (L:=[(2,_),(8,_),(9,_)]) (T:=⟨[.o 1],_,[],[],[86]⟩ :: ⟨[.p 0 0],_,[],[0],[87]⟩ :: ⟨[.p 1 0,.o 0],_,[],[0,1],[88]⟩ :: ⟨[.p 1 0,.p 2 0],_,[],[0,1,2],[89]⟩ :: ⟨[.p 1 0,.p 3 0],_,[],Lr 4,[90]⟩ :: ⟨[.p 1 0,.p 4 0],_,[],Lr 5,[91]⟩ :: ⟨[.p 5 0],_,[],Lr 6,[92]⟩ :: ⟨[.p 6 0,.o 2],_,[],Lr 7,[93]⟩ :: ⟨[.p 6 0,.p 7 0],_,[],Lr 8,[94]⟩ :: ⟨[.p 8 0,.o 0],_,[],Lr 9,[95]⟩ :: ⟨[.p 8 0,.p 9 0],_,[],Lr 10,[96]⟩ :: ⟨[.p 8 0,.p 10 0],_,[],Lr 11,[97]⟩ :: ⟨[.p 8 0,.p 11 0],_,[],Lr 12,[98]⟩ :: ⟨[.p 12 0,.o 0],_,[],Lr 13,[99]⟩ :: ⟨[.p 12 0,.p 13 0],_,[],Lr 14,[100]⟩ :: ⟨[.p 12 0,.p 14 0],_,[],Lr 15,[101]⟩ :: ⟨[.p 12 0,.p 15 0],_,[],Lr 16,[102]⟩ :: ⟨[.p 8 0,.p 12 0,.p 16 0],_,[],Lr 17,[103]⟩ :: ⟨[.p 6 0,.p 8 0,.p 17 0],_,[],Lr 18,[104]⟩ :: ⟨[.p 6 0,.p 18 0],_,[],Lr 19,[105]⟩ :: ⟨[.p 19 0],_,[],Lr 20,[4]⟩ :: []) (F:=[.p 20 0]) (hst.pick [0,1,2] rfl) hb Za
    (Qm rfl u_0<|Qm rfl u_0<|o_g (Qg_f rfl (fun hG=>Zi Zgl rfl rfl u_0))<|o_g (Qg_f rfl (fun hG=>Zv Zc6 rfl rfl (Opd.gd hG u_0)))<|o_g (Qg_f rfl (fun hG=>Zl Z64 (Zok _ (Zbn h26 hG)) rfl rfl (.cons (Opd.gd hG u_0) .nil)))<|o_p rfl (Zbp rfl rfl u_0 (fun hz=>(Opd.gd (bNF hz) u_1)))<|Qm rfl u_0<|o_g (Qg_t rfl (fun hG=>Z6 rfl rfl u_0))<|o_g (Qg_t rfl (fun hG=>Z6 rfl rfl (Opd.gd hG u_0)))<|o_g (Qg_fi rfl (fun hG=>Zi Zhf rfl rfl u_0))<|o_g (Qg_fi rfl (fun hG=>Zv ty_3 rfl rfl (Opd.gd hG u_0)))<|o_g (Qg_fi rfl (fun hG=>Zbt rfl rfl (Opd.gd hG u_0) c_i))<|o_g (Qg_fi rfl (fun hG=>Z6 rfl rfl (Opd.gd hG u_0)))<|o_g (Qg_ti rfl (fun hG=>Zi Zci rfl rfl u_0))<|o_g (Qg_ti rfl (fun hG=>Zv Zdb rfl rfl (Opd.gd hG u_0)))<|o_g (Qg_ti rfl (fun hG=>Zbx Tryz.underlying36 rfl rfl (Opd.gd hG u_0)))<|o_g (Qg_ti rfl (fun hG=>Zbt rfl rfl (Opd.gd hG u_0) c_i))<|o_g (Qg_fi rfl (fun hG=>Zbk rfl rfl (Opd.gd hG u_0) (fun hz=>(Opd.gd (bA hG hz) u_1))))<|o_g (Qg_t rfl (fun hG=>Zbp rfl rfl (Opd.gd hG u_0) (fun hz=>(Opd.gd (bA hG (bNF hz)) u_1))))<|o_p rfl (Zbk rfl rfl u_0 (fun hz=>(Opd.gd hz u_1)))<|Qa rfl u_0<|o_n) (fun a g hst hb=>?_)
   refine wp_ret ?_
   obtain rfl:=Option.some.inj H0
   exact Z4 rfl hst hb (Zg (s:=4)) (hst.at 0 rfl)
 ·refine wp_block ?_
  refine wp_loop_ghost (fun n a w=>∃ (x1:Bool) (x2:Bool) (x3:Bool) (x4:Bool) (x5:Bool) (x6:Int) (g:G),w=g.w ∧ St 106 [(1,(pStr a1)),(2,(Ze.ptr a0)),(5,(Zbf x1)),(6,(Zbf x2)),(7,(Zbf x3)),(8,(Zbf x4)),(9,(Zbf x5)),(10,(pInt .i64 x6))] a g ∧ Base g0 g ∧ Zc7 a1 n x1 x2 x3 x4 x5 x6=some z23) (Int.toNat ((a1.size:Int) - (0:Int)) + 1) ⟨false,false,false,false,false,(0:Int),g,rfl,(hst.pick [0,1,2,3,4,5,6,7] rfl),hb,hz1⟩ (fun n a w hI=>?_)
  obtain ⟨x1,x2,x3,x4,x5,x6,g,rfl,hst,hb,H1⟩:=hI
  cases n with
  | zero=>exact absurd H1 (by simp [Zc7])
  | succ n =>
   rw [Zc7] at H1
   refine wp_seq ?_
   refine r_s (T:=[⟨[.o 7],_,[],[],[11]⟩,⟨[.o 0],_,[],[],[12]⟩,⟨[.p 1 0],_,[],[1],[13]⟩,⟨[.p 0 0,.p 2 0],_,[],[0,1,2],[14]⟩]) (F:=[.o 0,.o 1,.o 2,.o 3,.o 4,.o 5,.o 6,.o 7,.p 3 0]) hst hb Za
    (Qm rfl u_0<|Qm rfl u_0<|o_p rfl (Zfy Tryz.underlying9 rfl rfl u_0)<|o_p rfl (Zca rfl rfl u_0 u_1)<|o_n) (fun a g hst hb=>?_)
   refine wp_cond_split (hst.bool 8 rfl) (fun hc7=>?_) (fun hc7=>?_)
   ·replace H1:=Zu hc7 H1
    refine wp_skip ?_
    refine Zp ?_
    refine wp_seq ?_
    refine wp_block ?_
    obtain ⟨b8,h9,H1⟩:=Zc H1
    refine r_s (L:=[(1,_),(2,_),(5,_),(6,_),(7,_),(8,_),(9,_),(10,_)]) (T:=[⟨[.o 2],_,[],[],[17]⟩,⟨[.p 0 0],_,[],[0],[18]⟩,⟨[.p 1 0,.o 0],_,[],[0,1],[19]⟩,⟨[.p 1 0,.o 7],_,[],[0,1],[20]⟩,⟨[.p 1 0,.p 2 0,.p 3 0],_,[],Lr 4,[21]⟩,⟨[.p 1 0,.p 4 0],_,[],Lr 5,[22]⟩,⟨[.p 1 0,.p 5 0],_,[],Lr 6,[23]⟩,⟨[.p 6 0],_,[],Lr 7,[5]⟩]) (F:=[.o 0,.o 1,.p 7 0,.o 3,.o 4,.o 5,.o 6,.o 7]) (hst.pick [0,1,2,3,4,5,6,7] rfl) hb Za
     (Qm rfl u_0<|Qm rfl u_0<|o_g (Qg_f rfl (fun hG=>Z6 rfl rfl u_0))<|o_g (Qg_f rfl (fun hG=>Z6 rfl rfl u_0))<|o_g (Qg_f rfl (fun hG=>Zow Tryz.underlying9 rfl rfl (Opd.gd hG u_0) (Opd.gd hG u_1) (Zbn h9 hG)))<|o_g (Qg_f rfl (fun hG=>Zbt rfl rfl (Opd.gd hG u_0) c_i))<|o_p rfl (Zbp rfl rfl u_0 (fun hz=>(Opd.gd (bNF hz) u_1)))<|Qa rfl u_0<|o_n) (fun a g hst hb=>?_)
    obtain ⟨b10,h11,H1⟩:=Zc H1
    refine r_s (T:=[⟨[.o 3],_,[],[],[24]⟩,⟨[.p 0 0],_,[],[0],[25]⟩,⟨[.p 1 0,.o 0],_,[],[0,1],[26]⟩,⟨[.p 1 0,.o 7],_,[],[0,1],[27]⟩,⟨[.p 1 0,.p 2 0,.p 3 0],_,[],Lr 4,[28]⟩,⟨[.p 1 0,.p 4 0],_,[],Lr 5,[29]⟩,⟨[.p 1 0,.p 5 0],_,[],Lr 6,[30]⟩,⟨[.p 6 0],_,[],Lr 7,[6]⟩]) (F:=[.o 0,.o 1,.o 2,.p 7 0,.o 4,.o 5,.o 6,.o 7]) hst hb Za
     (Qm rfl u_0<|Qm rfl u_0<|o_g (Qg_f rfl (fun hG=>Z6 rfl rfl u_0))<|o_g (Qg_f rfl (fun hG=>Z6 rfl rfl u_0))<|o_g (Qg_f rfl (fun hG=>Zow Tryz.underlying9 rfl rfl (Opd.gd hG u_0) (Opd.gd hG u_1) (Zbn h11 hG)))<|o_g (Qg_f rfl (fun hG=>Zbt rfl rfl (Opd.gd hG u_0) c_i))<|o_p rfl (Zbp rfl rfl u_0 (fun hz=>(Opd.gd (bNF hz) u_1)))<|Qa rfl u_0<|o_n) (fun a g hst hb=>?_)
    obtain ⟨b12,h13,H1⟩:=Zc H1
    refine r_s (T:=[⟨[.o 4],_,[],[],[31]⟩,⟨[.p 0 0],_,[],[0],[32]⟩,⟨[.p 1 0,.o 0],_,[],[0,1],[33]⟩,⟨[.p 1 0,.o 7],_,[],[0,1],[34]⟩,⟨[.p 1 0,.p 2 0,.p 3 0],_,[],Lr 4,[35]⟩,⟨[.p 1 0,.p 4 0],_,[],Lr 5,[36]⟩,⟨[.p 1 0,.p 5 0],_,[],Lr 6,[37]⟩,⟨[.p 6 0],_,[],Lr 7,[7]⟩]) (F:=[.o 0,.o 1,.o 2,.o 3,.p 7 0,.o 5,.o 6,.o 7]) hst hb Za
     (Qm rfl u_0<|Qm rfl u_0<|o_g (Qg_f rfl (fun hG=>Z6 rfl rfl u_0))<|o_g (Qg_f rfl (fun hG=>Z6 rfl rfl u_0))<|o_g (Qg_f rfl (fun hG=>Zow Tryz.underlying9 rfl rfl (Opd.gd hG u_0) (Opd.gd hG u_1) (Zbn h13 hG)))<|o_g (Qg_f rfl (fun hG=>Zbt rfl rfl (Opd.gd hG u_0) c_i))<|o_p rfl (Zbp rfl rfl u_0 (fun hz=>(Opd.gd (bNF hz) u_1)))<|Qa rfl u_0<|o_n) (fun a g hst hb=>?_)
    obtain ⟨b14,h15,H1⟩:=Zc H1
    refine r_s (T:=[⟨[.o 5],_,[],[],[38]⟩,⟨[.p 0 0],_,[],[0],[39]⟩,⟨[.p 1 0,.o 0],_,[],[0,1],[40]⟩,⟨[.p 1 0,.o 7],_,[],[0,1],[41]⟩,⟨[.p 1 0,.p 2 0,.p 3 0],_,[],Lr 4,[42]⟩,⟨[.p 1 0,.p 4 0],_,[],Lr 5,[43]⟩,⟨[.p 1 0,.p 5 0],_,[],Lr 6,[44]⟩,⟨[.p 6 0],_,[],Lr 7,[8]⟩]) (F:=[.o 0,.o 1,.o 2,.o 3,.o 4,.p 7 0,.o 6,.o 7]) hst hb Za
     (Qm rfl u_0<|Qm rfl u_0<|o_g (Qg_f rfl (fun hG=>Z6 rfl rfl u_0))<|o_g (Qg_f rfl (fun hG=>Z6 rfl rfl u_0))<|o_g (Qg_f rfl (fun hG=>Zow Tryz.underlying9 rfl rfl (Opd.gd hG u_0) (Opd.gd hG u_1) (Zbn h15 hG)))<|o_g (Qg_f rfl (fun hG=>Zbt rfl rfl (Opd.gd hG u_0) c_i))<|o_p rfl (Zbp rfl rfl u_0 (fun hz=>(Opd.gd (bNF hz) u_1)))<|Qa rfl u_0<|o_n) (fun a g hst hb=>?_)
    obtain ⟨b16,h17,H1⟩:=Zc H1
    refine r_g (T:=[⟨[.o 6],_,[],[],[45]⟩,⟨[.p 0 0],_,[],[0],[46]⟩,⟨[.p 1 0,.o 0],_,[],[0,1],[47]⟩,⟨[.p 1 0,.o 7],_,[],[0,1],[48]⟩,⟨[.p 1 0,.p 2 0,.p 3 0],_,[],Lr 4,[49]⟩,⟨[.p 1 0,.p 4 0],_,[],Lr 5,[50]⟩,⟨[.p 1 0,.p 5 0],_,[],Lr 6,[51]⟩,⟨[.p 6 0],_,[],Lr 7,[9]⟩]) (F:=[.o 0,.o 1,.o 2,.o 3,.o 4,.o 5,.p 7 0,.o 7]) hst hb Za
     (Qm rfl u_0<|Qm rfl u_0<|o_g (Qg_f rfl (fun hG=>Z6 rfl rfl u_0))<|o_g (Qg_f rfl (fun hG=>Z6 rfl rfl u_0))<|o_g (Qg_f rfl (fun hG=>Zow Tryz.underlying9 rfl rfl (Opd.gd hG u_0) (Opd.gd hG u_1) (Zbn h17 hG)))<|o_g (Qg_f rfl (fun hG=>Zbt rfl rfl (Opd.gd hG u_0) c_i))<|o_p rfl (Zbp rfl rfl u_0 (fun hz=>(Opd.gd (bNF hz) u_1)))<|Qa rfl u_0<|o_n) (fun a g hst hb=>?_)
    refine Zbc ?_
    refine Zp ?_
    refine r_g (T:=[⟨[.o 7],_,[],[],[15]⟩,⟨[.p 0 0],_,[],[0],[16]⟩,⟨[.p 1 0],_,[],[0,1],[10]⟩]) (F:=[.o 0,.o 1,.o 2,.o 3,.o 4,.o 5,.o 6,.p 2 0]) hst hb Za
     (Qm rfl u_0<|o_p rfl (Zb0 rfl rfl u_0 c_i rfl)<|Qa rfl u_0<|o_n) (fun a g hst hb=>?_)
    exact ⟨n,Nat.lt_succ_self _,(x1 || (b8 == (116:Int))),(x2 || (b10 == (110:Int))),(x3 || (b12 == (98:Int))),(x4 || (b14 == (114:Int))),(x5 || (b16 == (108:Int))),(IntKind.i64.wrap (x6 + (1:Int))),g,rfl,(hst.pick [0,1,2,3,4,5,6,7] rfl),hb,H1⟩
   ·replace H1:=Zt hc7 H1
    refine wp_exit ?_
    refine Zby ?_
    refine Zby ?_
    refine Zcb ?_
    exact ⟨x1,x2,x3,x4,x5,g,rfl,(hst.pick [1,2,3,4,5,6] rfl),hb,Option.some.inj H1⟩
theorem Zr1 (a0:Int) {r:ByteArray} (h:Zks a0=some r):FnOk Tryz.prog 83 [(pInt .i64 a0)] (pStr r):=by
 have H0:=h
 unfold Zks at H0
 clear h
 refine Zbs (N:=15) Tryz.func83 rfl rfl (Qe rfl) rfl rfl (fun a g0 hst hb=>?_)
 refine r_s (T:=[⟨[],_,[],[],[2]⟩]) (F:=[.o 0]) hst hb Za
  (Qa rfl c_s<|o_n) (fun a g hst hb=>?_)
 refine r_s (T:=[⟨[],_,[],[],[4]⟩,⟨[.p 0 0],_,[],[0],[3]⟩]) (F:=[.o 0,.p 1 0]) hst hb Za
  (o_p rfl (Zig Zsy (xs:=[.const (.string ⟨#[]⟩),.const (.string ⟨#[116]⟩),.const (.string ⟨#[110]⟩),.const (.string ⟨#[110]⟩),.const (.string ⟨#[110,98]⟩),.const (.string ⟨#[114]⟩),.const (.string ⟨#[114]⟩),.const (.string ⟨#[114]⟩),.const (.string ⟨#[108]⟩),.const (.string ⟨#[108]⟩)]) (.cons c_s (.cons c_s (.cons c_s (.cons c_s (.cons c_s (.cons c_s (.cons c_s (.cons c_s (.cons c_s (.cons c_s .nil)))))))))) (by decide) rfl rfl)<|Qa rfl u_0<|o_n) (fun a g hst hb=>?_)
 refine wp_seq ?_
 refine r_s (T:=[⟨[.o 0],_,[],[],[5]⟩,⟨[.p 0 0],_,[],[0],[6]⟩,⟨[.p 1 0],_,[],[0,1],[7]⟩,⟨[.p 2 0,.o 0],_,[],[0,1,2],[8]⟩,⟨[.p 2 0,.p 3 0],_,[],Lr 4,[9]⟩,⟨[.p 2 0,.p 4 0],_,[],Lr 5,[10]⟩]) (F:=[.o 0,.o 1,.p 5 0]) hst hb Za
  (Qm rfl u_0<|o_p rfl (Zca rfl rfl u_0 c_i)<|Qm rfl u_0<|o_g (Qg_f rfl (fun hG=>Z6 rfl rfl u_0))<|o_g (Qg_f rfl (fun hG=>Zct rfl rfl (Opd.gd hG u_0) c_i))<|o_p rfl (Zbp rfl rfl u_0 (fun hz=>(Opd.gd (bNF hz) u_1)))<|o_n) (fun a g hst hb=>?_)
 refine wp_cond_split (hst.bool 2 rfl) (fun hc1=>?_) (fun hc1=>?_)
 ·replace H0:=Zu hc1 H0
  refine r_s (L:=[]) (T:=[⟨[],_,[],[],[2]⟩]) (F:=[.p 0 0]) (hst.pick [] rfl) hb Za
   (Qa rfl c_s<|o_n) (fun a g hst hb=>?_)
  refine wp_ret ?_
  refine Zo ?_
  obtain rfl:=Option.some.inj H0
  exact Z4 rfl hst hb (Zg (s:=2)) (hst.at 0 rfl)
 ·replace H0:=Zt hc1 H0
  refine wp_skip ?_
  refine Zp ?_
  obtain ⟨e2,h3,H0⟩:=Zc H0
  refine r_s (L:=[(0,_),(3,_)]) (T:=[⟨[.o 1],_,[],[],[11]⟩,⟨[.o 0],_,[],[],[12]⟩,⟨[.p 0 0,.p 1 0],_,[],[0,1],[13]⟩,⟨[.p 2 0],_,[],[0,1,2],[14]⟩,⟨[.p 3 0],_,[],Lr 4,[2]⟩]) (F:=[.p 4 0]) (hst.pick [0,1] rfl) hb Za
   (Qm rfl u_0<|Qm rfl u_0<|o_p rfl (Zbl Tryz.underlying26 sz_9 rfl rfl u_0 u_1 h3)<|Ql rfl ty_9 u_0<|Qa rfl u_0<|o_n) (fun a g hst hb=>?_)
  refine wp_ret ?_
  obtain rfl:=Option.some.inj H0
  exact Z4 rfl hst hb (Zg (s:=2)) (hst.at 0 rfl)
theorem Zn4 (a0:Zh) (a1:Zh) {r:Bool} (h:Zgu a0 a1=some r):FnOk Tryz.prog 104 [(Z2.pd a0),(Z2.pd a1)] (Zbf r):=by
 have H0:=h
 unfold Zgu at H0
 clear h
 refine Zbs (N:=22) Tryz.func104 rfl rfl (Qe rfl) rfl rfl (fun a g0 hst hb=>?_)
 refine r_s (T:=[⟨[.o 0],_,[],[],[2]⟩,⟨[.o 1],_,[],[],[3]⟩,⟨[],_,[],[],[4]⟩]) (F:=[.p 0 0,.p 1 0]) hst hb Za
  (Qb rfl u_0<|Qb rfl u_0<|Qa rfl c_b<|o_n) (fun a g hst hb=>?_)
 refine wp_seq ?_
 obtain ⟨r1,h2,H0⟩:=Zc H0
 refine r_s (T:=[⟨[.o 1],_,[],[],[5]⟩,⟨[.p 0 0],_,[],[0],[6]⟩,⟨[.o 0],_,[],[],[7]⟩,⟨[.p 2 0],_,[],[2],[8]⟩,⟨[.p 1 0,.p 3 0],_,[],Lr 4,[9]⟩]) (F:=[.o 0,.o 1,.p 4 0]) hst hb Za
  (Qf rfl Zf3 u_0<|Ql rfl Zc6 u_0<|Qf rfl Zf3 u_0<|Ql rfl Zc6 u_0<|o_p rfl (Zl Zxd (Zih _ _ h2) rfl rfl (.cons u_0 (.cons u_1 .nil)))<|o_n) (fun a g hst hb=>?_)
 refine wp_cond_split (hst.bool 2 rfl) (fun hc3=>?_) (fun hc3=>?_)
 ·replace H0:=Zu hc3 H0
  refine r_s (L:=[]) (T:=[⟨[],_,[],[],[4]⟩]) (F:=[.p 0 0]) (hst.pick [] rfl) hb Za
   (Qa rfl c_b<|o_n) (fun a g hst hb=>?_)
  refine wp_ret ?_
  refine Zo ?_
  obtain rfl:=Option.some.inj H0
  exact Z4 rfl hst hb (Zg (s:=4)) (hst.at 0 rfl)
 ·replace H0:=Zt hc3 H0
  refine wp_skip ?_
  refine Zp ?_
  obtain ⟨r4,h5,H0⟩:=Zc H0
  refine r_s (L:=[(2,_),(3,_)]) (T:=⟨[.o 0],_,[],[],[10]⟩ :: ⟨[.p 0 0],_,[],[0],[11]⟩ :: ⟨[.o 1],_,[],[],[12]⟩ :: ⟨[.p 2 0],_,[],[2],[13]⟩ :: ⟨[.p 1 0,.p 3 0],_,[],Lr 4,[14]⟩ :: ⟨[.p 4 0],_,[],Lr 5,[15]⟩ :: ⟨[.p 5 0,.o 0],_,[],Lr 6,[16]⟩ :: ⟨[.p 5 0,.p 6 0],_,[],Lr 7,[17]⟩ :: ⟨[.p 5 0,.o 1],_,[],Lr 6,[18]⟩ :: ⟨[.p 5 0,.p 8 0],_,[],[0,1,2,3,4,5,8],[19]⟩ :: ⟨[.p 5 0,.p 7 0,.p 9 0],_,[],Lr 10,[20]⟩ :: ⟨[.p 5 0,.p 10 0],_,[],Lr 11,[21]⟩ :: ⟨[.p 11 0],_,[],Lr 12,[4]⟩ :: []) (F:=[.p 12 0]) (hst.pick [0,1] rfl) hb Za
   (Qf rfl Zf3 u_0<|Ql rfl Zc6 u_0<|Qf rfl Zf3 u_0<|Ql rfl Zc6 u_0<|o_p rfl (Zl Zvc (Zg0 _ _ h5) rfl rfl (.cons u_0 (.cons u_1 .nil)))<|Qm rfl u_0<|o_g (Qg_t rfl (fun hG=>Zi Zd6 rfl rfl u_0))<|o_g (Qg_t rfl (fun hG=>Zv ty_9 rfl rfl (Opd.gd hG u_0)))<|o_g (Qg_t rfl (fun hG=>Zi Zd6 rfl rfl u_0))<|o_g (Qg_t rfl (fun hG=>Zv ty_9 rfl rfl (Opd.gd hG u_0)))<|o_g (Qg_t rfl (fun hG=>Zn7 rfl rfl (Opd.gd hG u_0) (Opd.gd hG u_1)))<|o_p rfl (Zbk rfl rfl u_0 (fun hz=>(Opd.gd hz u_1)))<|Qa rfl u_0<|o_n) (fun a g hst hb=>?_)
  refine wp_ret ?_
  obtain rfl:=Option.some.inj H0
  exact Z4 rfl hst hb (Zg (s:=4)) (hst.at 0 rfl)
theorem Ztk (a0:Int) (a1:List Zh) (a2:Int) {r:Int} (h:Zj6 a0 a1 a2=some r):FnOk Tryz.prog 84 [(pInt .i64 a0),(Z2.sl.pd a1),(pInt .i64 a2)] (pInt .i64 r):=by
 have H0:=h
 unfold Zj6 at H0
 clear h
 refine Zbs (N:=64) Tryz.func84 rfl rfl (Qe rfl) rfl rfl (fun a g0 hst hb=>?_)
 refine r_s (T:=[⟨[],_,[],[],[6]⟩]) (F:=[.o 0,.o 1,.o 2]) hst hb Za
  (Qa rfl c_i<|o_n) (fun a g hst hb=>?_)
 obtain ⟨e1,h2,H0⟩:=Zc H0
 refine r_s (T:=[⟨[.o 1],_,[],[],[8]⟩,⟨[.o 2],_,[],[],[9]⟩,⟨[.p 0 0,.p 1 0],_,[],[0,1],[10]⟩,⟨[.p 2 0],_,[],[0,1,2],[11]⟩,⟨[],[(7,(pBox Z2 7 (default:Zh)))],[8],[],[7]⟩,⟨[.p 3 0,.p 4 0],_,[8],Lr 5,[7]⟩]) (F:=[.o 0,.o 1,.o 2,.p 5 0]) hst hb Za
  (Qm rfl u_0<|Qm rfl u_0<|o_p rfl (Zbl Tryz.underlying36 Zfe rfl rfl u_0 u_1 h2)<|Ql rfl Zeb u_0<|o_p rfl (Zbi (zs:=[.float .f64 0,.string ByteArray.empty]) (by kernel_rfl) (fun g=>Zl5 g) rfl rfl)<|o_p rfl (Zb5 Zeb rfl rfl u_1 u_0)<|o_n) (fun a g hst hb=>?_)
 refine wp_seq ?_
 refine r_s (T:=[⟨[.o 3],_,[],[],[12]⟩,⟨[.p 0 0],_,[],[0],[13]⟩,⟨[.p 1 0],_,[],[0,1],[14]⟩,⟨[.p 2 0],_,[],[0,1,2],[15]⟩]) (F:=[.o 0,.o 1,.o 2,.o 3,.p 3 0]) hst hb Za
  (Qf rfl Zd6 u_0<|Ql rfl ty_9 u_0<|o_p rfl (Zfy Tryz.underlying9 rfl rfl u_0)<|o_p rfl (Zct rfl rfl u_0 c_i)<|o_n) (fun a g hst hb=>?_)
 refine wp_cond_split (hst.bool 4 rfl) (fun hc3=>?_) (fun hc3=>?_)
 ·replace H0:=Zu hc3 H0
  refine r_s (L:=[]) (T:=[⟨[],_,[],[],[6]⟩]) (F:=[.p 0 0]) (hst.pick [] rfl) hb Za
   (Qa rfl c_i<|o_n) (fun a g hst hb=>?_)
  refine wp_ret ?_
  refine Zo ?_
  obtain rfl:=Option.some.inj H0
  exact Z4 rfl hst hb (Zg (s:=6)) (hst.at 0 rfl)
 ·replace H0:=Zt hc3 H0
  refine wp_skip ?_
  refine Zp ?_
  refine wp_seq ?_
  obtain ⟨r4,h5,H0⟩:=Zc H0;obtain ⟨r6,h7,H0⟩:=Zc H0
  refine r_s (L:=[(0,_),(1,_),(2,_),(7,_)]) (T:=⟨[.o 0],_,[],[],[16]⟩ :: ⟨[.p 0 0],_,[],[0],[17]⟩ :: ⟨[.p 1 0],_,[],[0,1],[18]⟩ :: ⟨[.p 2 0,.o 3],_,[],[0,1,2],[19]⟩ :: ⟨[.p 2 0,.p 3 0],_,[],Lr 4,[20]⟩ :: ⟨[.p 2 0,.p 4 0],_,[],Lr 5,[21]⟩ :: ⟨[.p 2 0,.p 5 0],_,[],Lr 6,[22]⟩ :: ⟨[.p 2 0,.p 6 0],_,[],Lr 7,[23]⟩ :: ⟨[.p 7 0],_,[],Lr 8,[24]⟩ :: ⟨[.p 8 0,.o 3],_,[],Lr 9,[25]⟩ :: ⟨[.p 8 0,.p 9 0],_,[],Lr 10,[26]⟩ :: ⟨[.p 8 0,.p 10 0],_,[],Lr 11,[27]⟩ :: ⟨[.p 8 0,.p 11 0],_,[],Lr 12,[28]⟩ :: ⟨[.p 8 0,.p 12 0],_,[],Lr 13,[29]⟩ :: []) (F:=[.o 0,.o 1,.o 2,.o 3,.p 13 0]) (hst.pick [0,1,2,3] rfl) hb Za
   (Qm rfl u_0<|o_p rfl (Zbt rfl rfl u_0 c_i)<|Qm rfl u_0<|o_g (Qg_t rfl (fun hG=>Zi Zf3 rfl rfl u_0))<|o_g (Qg_t rfl (fun hG=>Zv Zc6 rfl rfl (Opd.gd hG u_0)))<|o_g (Qg_t rfl (fun hG=>Zl Z64 (Zok _ (Zbn h5 hG)) rfl rfl (.cons (Opd.gd hG u_0) .nil)))<|o_g (Qg_t rfl (fun hG=>Ze1 rfl rfl (Opd.gd hG u_0)))<|o_p rfl (Zbk rfl rfl u_0 (fun hz=>(Opd.gd hz u_1)))<|Qm rfl u_0<|o_g (Qg_f rfl (fun hG=>Zi Zf3 rfl rfl u_0))<|o_g (Qg_f rfl (fun hG=>Zv Zc6 rfl rfl (Opd.gd hG u_0)))<|o_g (Qg_f rfl (fun hG=>Zl Z4z (Zlh _ (Zbn h7 hG)) rfl rfl (.cons (Opd.gd hG u_0) .nil)))<|o_g (Qg_f rfl (fun hG=>Ze1 rfl rfl (Opd.gd hG u_0)))<|o_p rfl (Zbp rfl rfl u_0 (fun hz=>(Opd.gd (bNF hz) u_1)))<|o_n) (fun a g hst hb=>?_)
  refine wp_cond_split (hst.bool 4 rfl) (fun hc8=>?_) (fun hc8=>?_)
  ·replace H0:=Zu hc8 H0
   refine r_s (L:=[]) (T:=[⟨[],_,[],[],[6]⟩]) (F:=[.p 0 0]) (hst.pick [] rfl) hb Za
    (Qa rfl c_i<|o_n) (fun a g hst hb=>?_)
   refine wp_ret ?_
   refine Zo ?_
   obtain rfl:=Option.some.inj H0
   exact Z4 rfl hst hb (Zg (s:=6)) (hst.at 0 rfl)
  ·replace H0:=Zt hc8 H0
   refine wp_skip ?_
   refine Zp ?_
   refine wp_seq ?_
   obtain ⟨e9,h10,H0⟩:=Zc H0
   refine r_s (L:=[(0,_),(1,_),(2,_),(7,_)]) (T:=⟨[.o 2],_,[],[],[30]⟩ :: ⟨[.p 0 0],_,[],[0],[31]⟩ :: ⟨[.p 1 0],_,[],[0,1],[32]⟩ :: ⟨[.p 2 0,.o 0],_,[],[0,1,2],[33]⟩ :: ⟨[.p 2 0,.p 3 0],_,[],Lr 4,[34]⟩ :: ⟨[.p 2 0,.p 4 0],_,[],Lr 5,[35]⟩ :: ⟨[.p 5 0],_,[],Lr 6,[36]⟩ :: ⟨[.p 6 0,.o 1],_,[],Lr 7,[37]⟩ :: ⟨[.p 6 0,.o 2],_,[],Lr 7,[38]⟩ :: ⟨[.p 6 0,.p 8 0],_,[],[0,1,2,3,4,5,6,8],[39]⟩ :: ⟨[.p 6 0,.p 7 0,.p 9 0],_,[],Lr 10,[40]⟩ :: ⟨[.p 6 0,.p 10 0],_,[],Lr 11,[41]⟩ :: ⟨[.p 6 0,.p 11 0],_,[],Lr 12,[42]⟩ :: ⟨[.p 6 0,.o 3],_,[],Lr 7,[43]⟩ :: ⟨[.p 6 0,.p 13 0],_,[],[0,1,2,3,4,5,6,13],[44]⟩ :: ⟨[.p 6 0,.p 12 0,.p 14 0],_,[],Lr 15,[45]⟩ :: ⟨[.p 6 0,.p 15 0],_,[],Lr 16,[46]⟩ :: ⟨[.p 6 0,.p 16 0],_,[],Lr 17,[47]⟩ :: []) (F:=[.o 0,.o 1,.o 2,.o 3,.p 17 0]) (hst.pick [0,1,2,3] rfl) hb Za
    (Qm rfl u_0<|o_p rfl (Zct rfl rfl u_0 c_i)<|Qm rfl u_0<|o_g (Qg_t rfl (fun hG=>Z6 rfl rfl u_0))<|o_g (Qg_t rfl (fun hG=>Zbt rfl rfl (Opd.gd hG u_0) c_i))<|o_p rfl (Zbk rfl rfl u_0 (fun hz=>(Opd.gd hz u_1)))<|Qm rfl u_0<|o_g (Qg_t rfl (fun hG=>Z6 rfl rfl u_0))<|o_g (Qg_t rfl (fun hG=>Z6 rfl rfl u_0))<|o_g (Qg_t rfl (fun hG=>Zh1 rfl rfl (Opd.gd hG u_0) c_i rfl))<|o_g (Qg_t rfl (fun hG=>Zbl Tryz.underlying36 Zfe rfl rfl (Opd.gd hG u_0) (Opd.gd hG u_1) (Zbn h10 hG)))<|o_g (Qg_t rfl (fun hG=>Zi Zd6 rfl rfl (Opd.gd hG u_0)))<|o_g (Qg_t rfl (fun hG=>Zv ty_9 rfl rfl (Opd.gd hG u_0)))<|o_g (Qg_t rfl (fun hG=>Zi Zd6 rfl rfl u_0))<|o_g (Qg_t rfl (fun hG=>Zv ty_9 rfl rfl (Opd.gd hG u_0)))<|o_g (Qg_t rfl (fun hG=>Zn7 rfl rfl (Opd.gd hG u_0) (Opd.gd hG u_1)))<|o_g (Qg_t rfl (fun hG=>Ze1 rfl rfl (Opd.gd hG u_0)))<|o_p rfl (Zbk rfl rfl u_0 (fun hz=>(Opd.gd hz u_1)))<|o_n) (fun a g hst hb=>?_)
   refine wp_cond_split (hst.bool 4 rfl) (fun hc11=>?_) (fun hc11=>?_)
   ·replace H0:=Zu hc11 H0
    refine r_s (L:=[]) (T:=[⟨[],_,[],[],[6]⟩]) (F:=[.p 0 0]) (hst.pick [] rfl) hb Za
     (Qa rfl c_i<|o_n) (fun a g hst hb=>?_)
    refine wp_ret ?_
    refine Zo ?_
    obtain rfl:=Option.some.inj H0
    exact Z4 rfl hst hb (Zg (s:=6)) (hst.at 0 rfl)
   ·replace H0:=Zt hc11 H0
    refine wp_skip ?_
    refine Zp ?_
    refine wp_seq ?_
    obtain ⟨e12,h13,H0⟩:=Zc H0;obtain ⟨r14,h15,H0⟩:=Zc H0
    refine r_s (L:=[(0,_),(1,_),(2,_),(7,_)]) (T:=⟨[.o 2],_,[],[],[48]⟩ :: ⟨[.p 0 0],_,[],[0],[49]⟩ :: ⟨[.p 1 0],_,[],[0,1],[50]⟩ :: ⟨[.p 2 0,.o 0],_,[],[0,1,2],[51]⟩ :: ⟨[.p 2 0,.p 3 0],_,[],Lr 4,[52]⟩ :: ⟨[.p 2 0,.p 4 0],_,[],Lr 5,[53]⟩ :: ⟨[.p 5 0],_,[],Lr 6,[54]⟩ :: ⟨[.p 6 0,.o 1],_,[],Lr 7,[55]⟩ :: ⟨[.p 6 0,.o 2],_,[],Lr 7,[56]⟩ :: ⟨[.p 6 0,.p 8 0],_,[],[0,1,2,3,4,5,6,8],[57]⟩ :: ⟨[.p 6 0,.p 7 0,.p 9 0],_,[],Lr 10,[58]⟩ :: ⟨[.p 6 0,.p 10 0],_,[],Lr 11,[59]⟩ :: ⟨[.p 6 0,.o 3],_,[],Lr 7,[60]⟩ :: ⟨[.p 6 0,.p 11 0,.p 12 0],_,[],Lr 13,[61]⟩ :: ⟨[.p 6 0,.p 13 0],_,[],Lr 14,[62]⟩ :: ⟨[.p 6 0,.p 14 0],_,[],Lr 15,[63]⟩ :: []) (F:=[.p 15 0]) (hst.pick [0,1,2,3] rfl) hb Za
     (Qm rfl u_0<|o_p rfl (Zct rfl rfl u_0 c_i)<|Qm rfl u_0<|o_g (Qg_t rfl (fun hG=>Z6 rfl rfl u_0))<|o_g (Qg_t rfl (fun hG=>Zbt rfl rfl (Opd.gd hG u_0) c_i))<|o_p rfl (Zbk rfl rfl u_0 (fun hz=>(Opd.gd hz u_1)))<|Qm rfl u_0<|o_g (Qg_t rfl (fun hG=>Z6 rfl rfl u_0))<|o_g (Qg_t rfl (fun hG=>Z6 rfl rfl u_0))<|o_g (Qg_t rfl (fun hG=>Zh1 rfl rfl (Opd.gd hG u_0) c_i rfl))<|o_g (Qg_t rfl (fun hG=>Zbl Tryz.underlying36 Zfe rfl rfl (Opd.gd hG u_0) (Opd.gd hG u_1) (Zbn h13 hG)))<|o_g (Qg_t rfl (fun hG=>Zv Zeb rfl rfl (Opd.gd hG u_0)))<|o_g (Qg_t rfl (fun hG=>Zv Zeb rfl rfl u_0))<|o_g (Qg_t rfl (fun hG=>Zl Z7z (Zn4 _ _ (Zbn h15 hG)) rfl rfl (.cons (Opd.gd hG u_0) (.cons (Opd.gd hG u_1) .nil))))<|o_g (Qg_t rfl (fun hG=>Ze1 rfl rfl (Opd.gd hG u_0)))<|o_p rfl (Zbk rfl rfl u_0 (fun hz=>(Opd.gd hz u_1)))<|o_n) (fun a g hst hb=>?_)
    refine wp_cond_split (hst.bool 0 rfl) (fun hc16=>?_) (fun hc16=>?_)
    ·replace H0:=Zu hc16 H0
     refine r_s (L:=[]) (T:=[⟨[],_,[],[],[6]⟩]) (F:=[.p 0 0]) (hst.pick [] rfl) hb Za
      (Qa rfl c_i<|o_n) (fun a g hst hb=>?_)
     refine wp_ret ?_
     refine Zo ?_
     obtain rfl:=Option.some.inj H0
     exact Z4 rfl hst hb (Zg (s:=6)) (hst.at 0 rfl)
    ·replace H0:=Zt hc16 H0
     refine wp_skip ?_
     refine Zp ?_
     refine r_s (L:=[]) (T:=[⟨[],_,[],[],[6]⟩]) (F:=[.p 0 0]) (hst.pick [] rfl) hb Za
      (Qa rfl c_i<|o_n) (fun a g hst hb=>?_)
     refine wp_ret ?_
     obtain rfl:=Option.some.inj H0
     exact Z4 rfl hst hb (Zg (s:=6)) (hst.at 0 rfl)
theorem Zls (a0:Zb) {r:Int} (h:Zd2 a0=some r):FnOk Tryz.prog 54 [(Ze.pd a0)] (pInt .i64 r):=by
 have H0:=h
 unfold Zd2 at H0
 clear h
 refine Zbs (N:=96) Tryz.func54 rfl rfl (Qe rfl) rfl rfl (fun a g0 hst hb=>?_)
 refine r_s (T:=[⟨[.o 0],_,[],[],[1]⟩,⟨[],_,[],[],[2]⟩]) (F:=[.p 0 0]) hst hb Za
  (Qb rfl u_0<|Qa rfl c_i<|o_n) (fun a g hst hb=>?_)
 refine wp_seq ?_
 refine r_s (T:=[⟨[.o 0],_,[],[],[6]⟩,⟨[.p 0 0],_,[],[0],[7]⟩,⟨[.p 1 0],_,[],[0,1],[8]⟩,⟨[.p 2 0],_,[],[0,1,2],[9]⟩,⟨[.p 3 0,.o 0],_,[],Lr 4,[10]⟩,⟨[.p 3 0,.p 4 0],_,[],Lr 5,[11]⟩,⟨[.p 3 0,.p 5 0],_,[],Lr 6,[12]⟩,⟨[.p 3 0,.p 6 0],_,[],Lr 7,[13]⟩]) (F:=[.o 0,.p 7 0]) hst hb Za
  (Qf rfl Zgm u_0<|Ql rfl ty_3 u_0<|o_p rfl (Zca rfl rfl u_0 c_i)<|Qm rfl u_0<|o_g (Qg_f rfl (fun hG=>Zi Zgm rfl rfl u_0))<|o_g (Qg_f rfl (fun hG=>Zv ty_3 rfl rfl (Opd.gd hG u_0)))<|o_g (Qg_f rfl (fun hG=>Zct rfl rfl (Opd.gd hG u_0) c_i))<|o_p rfl (Zbp rfl rfl u_0 (fun hz=>(Opd.gd (bNF hz) u_1)))<|o_n) (fun a g hst hb=>?_)
 refine wp_cond_split (hst.bool 1 rfl) (fun hc1=>?_) (fun hc1=>?_)
 ·replace H0:=Zu hc1 H0
  refine r_s (L:=[]) (T:=[⟨[],_,[],[],[2]⟩]) (F:=[.p 0 0]) (hst.pick [] rfl) hb Za
   (Qa rfl c_i<|o_n) (fun a g hst hb=>?_)
  refine wp_ret ?_
  refine Zo ?_
  obtain rfl:=Option.some.inj H0
  exact Z4 rfl hst hb (Zg (s:=2)) (hst.at 0 rfl)
 ·replace H0:=Zt hc1 H0
  refine wp_skip ?_
  refine Zp ?_
  refine wp_seq ?_
  obtain ⟨r2,h3,H0⟩:=Zc H0;obtain ⟨r4,h5,H0⟩:=Zc H0
  refine r_s (L:=[(1,_)]) (T:=[⟨[.o 0],_,[],[],[14]⟩,⟨[.o 0],_,[],[],[15]⟩,⟨[.p 1 0],_,[],[1],[16]⟩,⟨[.p 2 0],_,[],[1,2],[17]⟩,⟨[.p 0 0,.p 3 0],_,[],Lr 4,[18]⟩,⟨[.p 4 0],_,[],Lr 5,[19]⟩]) (F:=[.o 0,.p 5 0]) (hst.pick [0] rfl) hb Za
   (Ql rfl Zbe u_0<|Qf rfl Zgm u_0<|Ql rfl ty_3 u_0<|o_p rfl (Zl Zbfr (Zr1 _ h3) rfl rfl (.cons u_0 .nil))<|o_p rfl (Zl Zbfg (Ztm _ _ h5) rfl rfl (.cons u_0 (.cons u_1 .nil)))<|Qn rfl u_0<|o_n) (fun a g hst hb=>?_)
  refine wp_cond_split (hst.bool 1 rfl) (fun hc6=>?_) (fun hc6=>?_)
  ·replace H0:=Zu hc6 H0
   refine r_s (L:=[]) (T:=[⟨[],_,[],[],[2]⟩]) (F:=[.p 0 0]) (hst.pick [] rfl) hb Za
    (Qa rfl c_i<|o_n) (fun a g hst hb=>?_)
   refine wp_ret ?_
   refine Zo ?_
   obtain rfl:=Option.some.inj H0
   exact Z4 rfl hst hb (Zg (s:=2)) (hst.at 0 rfl)
  ·replace H0:=Zt hc6 H0
   refine wp_skip ?_
   refine Zp ?_
   refine wp_seq ?_
   refine r_s (L:=[(1,_)]) (T:=[⟨[.o 0],_,[],[],[20]⟩,⟨[.p 0 0],_,[],[0],[21]⟩,⟨[.p 1 0],_,[],[0,1],[22]⟩,⟨[.p 2 0],_,[],[0,1,2],[23]⟩,⟨[.p 3 0,.o 0],_,[],Lr 4,[24]⟩,⟨[.p 3 0,.p 4 0],_,[],Lr 5,[25]⟩,⟨[.p 3 0,.p 5 0],_,[],Lr 6,[26]⟩,⟨[.p 3 0,.p 6 0],_,[],Lr 7,[27]⟩,⟨[.p 3 0,.p 7 0],_,[],Lr 8,[28]⟩]) (F:=[.o 0,.p 8 0]) (hst.pick [0] rfl) hb Za
    (Qf rfl Zgm u_0<|Ql rfl ty_3 u_0<|o_p rfl (Zbt rfl rfl u_0 c_i)<|Qm rfl u_0<|o_g (Qg_t rfl (fun hG=>Zi Zj2 rfl rfl u_0))<|o_g (Qg_t rfl (fun hG=>Zv ty_9 rfl rfl (Opd.gd hG u_0)))<|o_g (Qg_t rfl (fun hG=>Zfy Tryz.underlying9 rfl rfl (Opd.gd hG u_0)))<|o_g (Qg_t rfl (fun hG=>Zct rfl rfl (Opd.gd hG u_0) c_i))<|o_p rfl (Zbk rfl rfl u_0 (fun hz=>(Opd.gd hz u_1)))<|o_n) (fun a g hst hb=>?_)
   refine wp_cond_split (hst.bool 1 rfl) (fun hc7=>?_) (fun hc7=>?_)
   ·replace H0:=Zu hc7 H0
    refine r_s (L:=[]) (T:=[⟨[],_,[],[],[2]⟩]) (F:=[.p 0 0]) (hst.pick [] rfl) hb Za
     (Qa rfl c_i<|o_n) (fun a g hst hb=>?_)
    refine wp_ret ?_
    refine Zo ?_
    obtain rfl:=Option.some.inj H0
    exact Z4 rfl hst hb (Zg (s:=2)) (hst.at 0 rfl)
   ·replace H0:=Zt hc7 H0
    refine wp_skip ?_
    refine Zp ?_
    refine r_s (L:=[(1,_)]) (T:=[⟨[],_,[],[],[3]⟩]) (F:=[.o 0,.p 0 0]) (hst.pick [0] rfl) hb Za
     (Qa rfl c_i<|o_n) (fun a g hst hb=>?_)
    refine wp_seq ?_
    refine r_s (T:=⟨[.o 0],_,[],[],[29]⟩ :: ⟨[.p 0 0],_,[],[0],[30]⟩ :: ⟨[.p 1 0],_,[],[0,1],[31]⟩ :: ⟨[.p 2 0],_,[],[0,1,2],[32]⟩ :: ⟨[.p 3 0,.o 0],_,[],Lr 4,[33]⟩ :: ⟨[.p 3 0,.p 4 0],_,[],Lr 5,[34]⟩ :: ⟨[.p 3 0,.o 1],_,[],Lr 4,[35]⟩ :: ⟨[.p 3 0,.p 6 0],_,[],[0,1,2,3,6],[36]⟩ :: ⟨[.p 3 0,.p 5 0,.p 7 0],_,[],Lr 8,[37]⟩ :: ⟨[.p 3 0,.p 8 0],_,[],Lr 9,[38]⟩ :: ⟨[.p 9 0,.o 0],_,[],Lr 10,[39]⟩ :: ⟨[.p 9 0,.p 10 0],_,[],Lr 11,[40]⟩ :: ⟨[.p 9 0,.o 1],_,[],Lr 10,[41]⟩ :: ⟨[.p 9 0,.p 11 0,.p 12 0],_,[],Lr 13,[42]⟩ :: ⟨[.p 3 0,.p 9 0,.p 13 0],_,[],Lr 14,[43]⟩ :: ⟨[.p 3 0,.p 14 0],_,[],Lr 15,[44]⟩ :: ⟨[.p 15 0,.o 0],_,[],Lr 16,[45]⟩ :: ⟨[.p 15 0,.p 16 0],_,[],Lr 17,[46]⟩ :: ⟨[.p 15 0,.o 0],_,[],Lr 16,[47]⟩ :: ⟨[.p 15 0,.p 18 0],_,[],0 :: 1 :: 2 :: 3 :: 4 :: 5 :: 6 :: 7 :: 8 :: 9 :: 10 :: 11 :: 12 :: 13 :: 14 :: 15 :: 18 :: [],[48]⟩ :: ⟨[.p 15 0,.p 17 0,.p 19 0],_,[],Lr 20,[49]⟩ :: ⟨[.p 3 0,.p 15 0,.p 20 0],_,[],Lr 21,[50]⟩ :: ⟨[.p 3 0,.p 21 0],_,[],Lr 22,[51]⟩ :: ⟨[.p 22 0,.o 0],_,[],Lr 23,[52]⟩ :: ⟨[.p 22 0,.p 23 0],_,[],Lr 24,[53]⟩ :: ⟨[.p 22 0,.o 0],_,[],Lr 23,[54]⟩ :: ⟨[.p 22 0,.p 25 0],_,[],0 :: 1 :: 2 :: 3 :: 4 :: 5 :: 6 :: 7 :: 8 :: 9 :: 10 :: 11 :: 12 :: 13 :: 14 :: 15 :: 16 :: 17 :: 18 :: 19 :: 20 :: 21 :: 22 :: 25 :: [],[55]⟩ :: ⟨[.p 22 0,.p 24 0,.p 26 0],_,[],Lr 27,[56]⟩ :: ⟨[.p 3 0,.p 22 0,.p 27 0],_,[],Lr 28,[57]⟩ :: ⟨[.p 3 0,.p 28 0],_,[],Lr 29,[58]⟩ :: []) (F:=[.o 0,.p 29 0]) hst hb Za
     (Qf rfl Zgm u_0<|Ql rfl ty_3 u_0<|o_p rfl (Zbt rfl rfl u_0 c_i)<|Qm rfl u_0<|o_g (Qg_t rfl (fun hG=>Zi Zkf rfl rfl u_0))<|o_g (Qg_t rfl (fun hG=>Zv ty_2 rfl rfl (Opd.gd hG u_0)))<|o_g (Qg_t rfl (fun hG=>Z6 rfl rfl u_0))<|o_g (Qg_t rfl (fun hG=>Zbdx rfl rfl (Opd.gd hG u_0) rfl))<|o_g (Qg_t rfl (fun hG=>Zca rfl rfl (Opd.gd hG u_0) (Opd.gd hG u_1)))<|o_g (Qg_t rfl (fun hG=>Z6 rfl rfl (Opd.gd hG u_0)))<|o_g (Qg_fi rfl (fun hG=>Zi Zkd rfl rfl u_0))<|o_g (Qg_fi rfl (fun hG=>Zv ty_2 rfl rfl (Opd.gd hG u_0)))<|o_g (Qg_fi rfl (fun hG=>Z6 rfl rfl u_0))<|o_g (Qg_fi rfl (fun hG=>Zct rfl rfl (Opd.gd hG u_0) (Opd.gd hG u_1)))<|o_g (Qg_t rfl (fun hG=>Zbp rfl rfl (Opd.gd hG u_0) (fun hz=>(Opd.gd (bA hG (bNF hz)) u_1))))<|o_g (Qg_t rfl (fun hG=>Z6 rfl rfl (Opd.gd hG u_0)))<|o_g (Qg_fi rfl (fun hG=>Zi Zc3 rfl rfl u_0))<|o_g (Qg_fi rfl (fun hG=>Zv ty_2 rfl rfl (Opd.gd hG u_0)))<|o_g (Qg_fi rfl (fun hG=>Zi Zkf rfl rfl u_0))<|o_g (Qg_fi rfl (fun hG=>Zv ty_2 rfl rfl (Opd.gd hG u_0)))<|o_g (Qg_fi rfl (fun hG=>Zca rfl rfl (Opd.gd hG u_0) (Opd.gd hG u_1)))<|o_g (Qg_t rfl (fun hG=>Zbp rfl rfl (Opd.gd hG u_0) (fun hz=>(Opd.gd (bA hG (bNF hz)) u_1))))<|o_g (Qg_t rfl (fun hG=>Z6 rfl rfl (Opd.gd hG u_0)))<|o_g (Qg_fi rfl (fun hG=>Zi Zc3 rfl rfl u_0))<|o_g (Qg_fi rfl (fun hG=>Zv ty_2 rfl rfl (Opd.gd hG u_0)))<|o_g (Qg_fi rfl (fun hG=>Zi Zkd rfl rfl u_0))<|o_g (Qg_fi rfl (fun hG=>Zv ty_2 rfl rfl (Opd.gd hG u_0)))<|o_g (Qg_fi rfl (fun hG=>Zct rfl rfl (Opd.gd hG u_0) (Opd.gd hG u_1)))<|o_g (Qg_t rfl (fun hG=>Zbp rfl rfl (Opd.gd hG u_0) (fun hz=>(Opd.gd (bA hG (bNF hz)) u_1))))<|o_p rfl (Zbk rfl rfl u_0 (fun hz=>(Opd.gd hz u_1)))<|o_n) (fun a g hst hb=>?_)
    refine wp_cond_split (hst.bool 1 rfl) (fun hc8=>?_) (fun hc8=>?_)
    ·replace H0:=Zu hc8 H0
     refine r_s (L:=[]) (T:=[⟨[],_,[],[],[2]⟩]) (F:=[.p 0 0]) (hst.pick [] rfl) hb Za
      (Qa rfl c_i<|o_n) (fun a g hst hb=>?_)
     refine wp_ret ?_
     refine Zo ?_
     obtain rfl:=Option.some.inj H0
     exact Z4 rfl hst hb (Zg (s:=2)) (hst.at 0 rfl)
    ·replace H0:=Zt hc8 H0
     refine wp_skip ?_
     refine Zp ?_
     refine wp_seq ?_
     obtain ⟨r9,h10,H0⟩:=Zc H0
     refine r_s (L:=[(1,_)]) (T:=[⟨[.o 0],_,[],[],[59]⟩,⟨[.p 0 0],_,[],[0],[60]⟩,⟨[.p 1 0],_,[],[0,1],[61]⟩,⟨[.p 2 0],_,[],[0,1,2],[62]⟩]) (F:=[.o 0,.p 3 0]) (hst.pick [0] rfl) hb Za
      (Qf rfl Zgl u_0<|Ql rfl Zc6 u_0<|o_p rfl (Zl Z4z (Zlh _ h10) rfl rfl (.cons u_0 .nil))<|Qn rfl u_0<|o_n) (fun a g hst hb=>?_)
     refine wp_cond_split (hst.bool 1 rfl) (fun hc11=>?_) (fun hc11=>?_)
     ·replace H0:=Zu hc11 H0
      refine r_s (L:=[]) (T:=[⟨[],_,[],[],[2]⟩]) (F:=[.p 0 0]) (hst.pick [] rfl) hb Za
       (Qa rfl c_i<|o_n) (fun a g hst hb=>?_)
      refine wp_ret ?_
      refine Zo ?_
      obtain rfl:=Option.some.inj H0
      exact Z4 rfl hst hb (Zg (s:=2)) (hst.at 0 rfl)
     ·replace H0:=Zt hc11 H0
      refine wp_skip ?_
      refine Zp ?_
      refine wp_seq ?_
      refine r_s (L:=[(1,_)]) (T:=[⟨[.o 0],_,[],[],[63]⟩,⟨[.p 0 0],_,[],[0],[64]⟩,⟨[.p 1 0],_,[],[0,1],[65]⟩]) (F:=[.o 0,.p 2 0]) (hst.pick [0] rfl) hb Za
       (Qf rfl Zgm u_0<|Ql rfl ty_3 u_0<|o_p rfl (Zca rfl rfl u_0 c_i)<|o_n) (fun a g hst hb=>?_)
      refine wp_cond_split (hst.bool 1 rfl) (fun hc12=>?_) (fun hc12=>?_)
      ·replace H0:=Zu hc12 H0
       refine r_s (L:=[]) (T:=[⟨[],_,[],[],[2]⟩]) (F:=[.p 0 0]) (hst.pick [] rfl) hb Za
        (Qa rfl c_i<|o_n) (fun a g hst hb=>?_)
       refine wp_ret ?_
       refine Zo ?_
       obtain rfl:=Option.some.inj H0
       exact Z4 rfl hst hb (Zg (s:=2)) (hst.at 0 rfl)
      ·replace H0:=Zt hc12 H0
       refine wp_skip ?_
       refine Zp ?_
       refine wp_seq ?_
       refine r_s (L:=[(1,_)]) (T:=[⟨[.o 0],_,[],[],[66]⟩,⟨[.p 0 0],_,[],[0],[67]⟩,⟨[.p 1 0],_,[],[0,1],[68]⟩,⟨[.p 2 0],_,[],[0,1,2],[69]⟩,⟨[.p 3 0,.o 0],_,[],Lr 4,[70]⟩,⟨[.p 3 0,.p 4 0],_,[],Lr 5,[71]⟩,⟨[.p 3 0,.p 5 0],_,[],Lr 6,[72]⟩,⟨[.p 3 0,.p 6 0],_,[],Lr 7,[73]⟩]) (F:=[.o 0,.p 7 0]) (hst.pick [0] rfl) hb Za
        (Qf rfl Zhf u_0<|Ql rfl ty_3 u_0<|o_p rfl (Zca rfl rfl u_0 c_i)<|Qm rfl u_0<|o_g (Qg_f rfl (fun hG=>Zi Zhf rfl rfl u_0))<|o_g (Qg_f rfl (fun hG=>Zv ty_3 rfl rfl (Opd.gd hG u_0)))<|o_g (Qg_f rfl (fun hG=>Zct rfl rfl (Opd.gd hG u_0) c_i))<|o_p rfl (Zbp rfl rfl u_0 (fun hz=>(Opd.gd (bNF hz) u_1)))<|o_n) (fun a g hst hb=>?_)
       refine wp_cond_split (hst.bool 1 rfl) (fun hc13=>?_) (fun hc13=>?_)
       ·replace H0:=Zu hc13 H0
        refine r_s (L:=[]) (T:=[⟨[],_,[],[],[2]⟩]) (F:=[.p 0 0]) (hst.pick [] rfl) hb Za
         (Qa rfl c_i<|o_n) (fun a g hst hb=>?_)
        refine wp_ret ?_
        refine Zo ?_
        obtain rfl:=Option.some.inj H0
        exact Z4 rfl hst hb (Zg (s:=2)) (hst.at 0 rfl)
       ·replace H0:=Zt hc13 H0
        refine wp_skip ?_
        refine Zp ?_
        refine wp_seq ?_
        refine r_s (L:=[(1,_)]) (T:=[⟨[.o 0],_,[],[],[74]⟩,⟨[.p 0 0],_,[],[0],[75]⟩,⟨[.p 1 0],_,[],[0,1],[76]⟩,⟨[.o 0],_,[],[],[77]⟩,⟨[.p 3 0],_,[],[3],[78]⟩,⟨[.p 2 0,.p 4 0],_,[],Lr 5,[79]⟩]) (F:=[.o 0,.p 5 0]) (hst.pick [0] rfl) hb Za
         (Qf rfl Zci u_0<|Ql rfl Zdb u_0<|o_p rfl (Zbx Tryz.underlying36 rfl rfl u_0)<|Qf rfl Zhf u_0<|Ql rfl ty_3 u_0<|o_p rfl (Zct rfl rfl u_0 u_1)<|o_n) (fun a g hst hb=>?_)
        refine wp_cond_split (hst.bool 1 rfl) (fun hc14=>?_) (fun hc14=>?_)
        ·replace H0:=Zu hc14 H0
         refine r_s (L:=[]) (T:=[⟨[],_,[],[],[2]⟩]) (F:=[.p 0 0]) (hst.pick [] rfl) hb Za
          (Qa rfl c_i<|o_n) (fun a g hst hb=>?_)
         refine wp_ret ?_
         refine Zo ?_
         obtain rfl:=Option.some.inj H0
         exact Z4 rfl hst hb (Zg (s:=2)) (hst.at 0 rfl)
        ·replace H0:=Zt hc14 H0
         refine wp_skip ?_
         refine Zp ?_
         refine wp_seq ?_
         refine r_s (L:=[(1,_)]) (T:=[⟨[],_,[],[],[4]⟩]) (F:=[.o 0,.p 0 0]) (hst.pick [0] rfl) hb Za
          (Qa rfl c_i<|o_n) (fun a g hst hb=>?_)
         obtain ⟨z20,hz1,H0⟩:=Zc H0
         refine Zb3 (fun a w=>∃ (g:G),w=g.w ∧ St 96 [] a g ∧ Base g0 g ∧ (.inr ())=z20) ?_ ?_
         ·rintro a w ⟨g,rfl,hst,hb,rfl⟩
          refine Zp ?_
          refine r_s (T:=[⟨[],_,[],[],[2]⟩]) (F:=[.p 0 0]) hst hb Za
           (Qa rfl c_i<|o_n) (fun a g hst hb=>?_)
          refine wp_ret ?_
          obtain rfl:=Option.some.inj H0
          exact Z4 rfl hst hb (Zg (s:=2)) (hst.at 0 rfl)
         ·refine wp_block ?_
          refine wp_loop_ghost (fun n a w=>∃ (x15:Int) (g:G),w=g.w ∧ St 96 [(1,(Ze.ptr a0)),(4,(pInt .i64 x15))] a g ∧ Base g0 g ∧ Zek a0 n x15=some z20) (Int.toNat ((a0.List.length:Int) - (0:Int)) + 1) ⟨(0:Int),g,rfl,(hst.pick [0,1] rfl),hb,hz1⟩ (fun n a w hI=>?_)
          obtain ⟨x15,g,rfl,hst,hb,H1⟩:=hI
          cases n with
          | zero=>exact absurd H1 (by simp [Zek])
          | succ n =>
           rw [Zek] at H1
           refine wp_seq ?_
           refine r_s (T:=[⟨[.o 1],_,[],[],[80]⟩,⟨[.o 0],_,[],[],[81]⟩,⟨[.p 1 0],_,[],[1],[82]⟩,⟨[.p 2 0],_,[],[1,2],[83]⟩,⟨[.p 0 0,.p 3 0],_,[],Lr 4,[84]⟩]) (F:=[.o 0,.o 1,.p 4 0]) hst hb Za
            (Qm rfl u_0<|Qf rfl Zci u_0<|Ql rfl Zdb u_0<|o_p rfl (Zbx Tryz.underlying36 rfl rfl u_0)<|o_p rfl (Zca rfl rfl u_0 u_1)<|o_n) (fun a g hst hb=>?_)
           refine wp_cond_split (hst.bool 2 rfl) (fun hc16=>?_) (fun hc16=>?_)
           ·replace H1:=Zu hc16 H1
            refine wp_skip ?_
            refine Zp ?_
            refine wp_seq ?_
            refine wp_block ?_
            obtain ⟨r17,h18,H1⟩:=Zc H1
            refine r_s (L:=[(1,_),(4,_)]) (T:=[⟨[.o 0],_,[],[],[87]⟩,⟨[.p 0 0],_,[],[0],[88]⟩,⟨[.o 0],_,[],[],[89]⟩,⟨[.p 2 0],_,[],[2],[90]⟩,⟨[.o 1],_,[],[],[91]⟩,⟨[.p 1 0,.p 3 0,.p 4 0],_,[],Lr 5,[92]⟩,⟨[.p 5 0],_,[],Lr 6,[5]⟩]) (F:=[.o 0,.o 1,.p 6 0]) (hst.pick [0,1] rfl) hb Za
             (Qf rfl Zgm u_0<|Ql rfl ty_3 u_0<|Qf rfl Zci u_0<|Ql rfl Zdb u_0<|Qm rfl u_0<|o_p rfl (Zl Zbee (Ztk _ _ _ h18) rfl rfl (.cons u_0 (.cons u_1 (.cons u_2 .nil))))<|Qa rfl u_0<|o_n) (fun a g hst hb=>?_)
            refine r_s (T:=[⟨[.o 2],_,[],[],[93]⟩,⟨[.p 0 0],_,[],[0],[94]⟩]) (F:=[.o 0,.o 1,.o 2,.p 1 0]) hst hb Za
             (Qm rfl u_0<|o_p rfl (Zdn rfl rfl u_0 c_i)<|o_n) (fun a g hst hb=>?_)
            refine wp_cond_split (hst.bool 3 rfl) (fun hc19=>?_) (fun hc19=>?_)
            ·replace H1:=Zu hc19 H1
             refine r_s (L:=[(5,_)]) (T:=[⟨[.o 0],_,[],[],[95]⟩,⟨[.p 0 0],_,[],[0],[2]⟩]) (F:=[.p 1 0]) (hst.pick [2] rfl) hb Za
              (Qm rfl u_0<|Qa rfl u_0<|o_n) (fun a g hst hb=>?_)
             refine wp_ret ?_
             refine Z5 ?_
             refine Zo ?_
             refine Zo ?_
             refine Z5 ?_
             refine Zo ?_
             refine Zo ?_
             obtain rfl:=Option.some.inj H1
             obtain rfl:=Option.some.inj H0
             exact Z4 rfl hst hb (Zg (s:=2)) (hst.at 0 rfl)
            ·replace H1:=Zt hc19 H1
             refine wp_skip ?_
             refine Zbc ?_
             refine Zp ?_
             refine r_g (L:=[(1,_),(4,_)]) (T:=[⟨[.o 1],_,[],[],[85]⟩,⟨[.p 0 0],_,[],[0],[86]⟩,⟨[.p 1 0],_,[],[0,1],[4]⟩]) (F:=[.o 0,.p 2 0]) (hst.pick [0,1] rfl) hb Za
              (Qm rfl u_0<|o_p rfl (Zb0 rfl rfl u_0 c_i rfl)<|Qa rfl u_0<|o_n) (fun a g hst hb=>?_)
             exact ⟨n,Nat.lt_succ_self _,(IntKind.i64.wrap (x15 + (1:Int))),g,rfl,(hst.pick [0,1] rfl),hb,H1⟩
           ·replace H1:=Zt hc16 H1
            refine wp_exit ?_
            refine Zby ?_
            refine Zby ?_
            refine Zcb ?_
            exact ⟨g,rfl,(hst.pick [] rfl),hb,Option.some.inj H1⟩
theorem Zjv (a0:Zf) (a1:ByteArray) {r:Int} (h:Zez a0 a1=some r):FnOk Tryz.prog 55 [(Z7.pd a0),(pStr a1)] (pInt .i64 r):=by
 have H0:=h
 unfold Zez at H0
 clear h
 refine Zbs (N:=24) Tryz.func55 rfl rfl (Qe rfl) rfl rfl (fun a g0 hst hb=>?_)
 refine r_s (T:=[⟨[.o 0],_,[],[],[2]⟩,⟨[],_,[],[],[4]⟩]) (F:=[.o 1,.p 0 0]) hst hb Za
  (Qb rfl u_0<|Qa rfl c_i<|o_n) (fun a g hst hb=>?_)
 refine r_s (T:=[⟨[],_,[],[],[5]⟩]) (F:=[.o 0,.o 1,.p 0 0]) hst hb Za
  (Qa rfl c_i<|o_n) (fun a g hst hb=>?_)
 obtain ⟨z6,hz1,H0⟩:=Zc H0
 refine wp_seq ?_
 refine Zb3 (fun a w=>∃ (y5:Int) (g:G),w=g.w ∧ St 24 [(5,(pInt .i64 y5))] a g ∧ Base g0 g ∧ y5=z6) ?_ ?_
 ·rintro a w ⟨y5,g,rfl,hst,hb,rfl⟩
  refine Zp ?_
  refine r_s (T:=[⟨[.o 0],_,[],[],[23]⟩,⟨[.p 0 0],_,[],[0],[4]⟩]) (F:=[.p 1 0]) hst hb Za
   (Qm rfl u_0<|Qa rfl u_0<|o_n) (fun a g hst hb=>?_)
  refine wp_ret ?_
  obtain rfl:=Option.some.inj H0
  exact Z4 rfl hst hb (Zg (s:=4)) (hst.at 0 rfl)
 ·refine wp_block ?_
  refine wp_loop_ghost (fun n a w=>∃ (x1:Int) (g:G),w=g.w ∧ St 24 [(1,(pStr a1)),(2,(Z7.ptr a0)),(5,(pInt .i64 x1))] a g ∧ Base g0 g ∧ Zdo a0 a1 n x1=some z6) (Int.toNat ((a0.L.length:Int) - (0:Int)) + 1) ⟨(0:Int),g,rfl,(hst.pick [0,1,2] rfl),hb,hz1⟩ (fun n a w hI=>?_)
  obtain ⟨x1,g,rfl,hst,hb,H1⟩:=hI
  cases n with
  | zero=>exact absurd H1 (by simp [Zdo])
  | succ n =>
   rw [Zdo] at H1
   refine wp_seq ?_
   obtain ⟨e2,h3,H1⟩:=Zc H1
   refine r_s (T:=⟨[.o 2],_,[],[],[6]⟩ :: ⟨[.o 1],_,[],[],[7]⟩ :: ⟨[.p 1 0],_,[],[1],[8]⟩ :: ⟨[.p 2 0],_,[],[1,2],[9]⟩ :: ⟨[.p 0 0,.p 3 0],_,[],Lr 4,[10]⟩ :: ⟨[.p 4 0],_,[],Lr 5,[11]⟩ :: ⟨[.p 5 0,.o 1],_,[],Lr 6,[12]⟩ :: ⟨[.p 5 0,.p 6 0],_,[],Lr 7,[13]⟩ :: ⟨[.p 5 0,.o 2],_,[],Lr 6,[14]⟩ :: ⟨[.p 5 0,.p 7 0,.p 8 0],_,[],Lr 9,[15]⟩ :: ⟨[.p 5 0,.p 9 0],_,[],Lr 10,[16]⟩ :: ⟨[.p 5 0,.p 10 0],_,[],Lr 11,[17]⟩ :: ⟨[.p 5 0,.o 0],_,[],Lr 6,[18]⟩ :: ⟨[.p 5 0,.p 11 0,.p 12 0],_,[],Lr 13,[19]⟩ :: ⟨[.p 5 0,.p 13 0],_,[],Lr 14,[20]⟩ :: []) (F:=[.o 0,.o 1,.o 2,.p 14 0]) hst hb Za
    (Qm rfl u_0<|Qf rfl Zhq u_0<|Ql rfl Zkz u_0<|o_p rfl (Zbx Tryz.underlying22 rfl rfl u_0)<|o_p rfl (Zca rfl rfl u_0 u_1)<|Qm rfl u_0<|o_g (Qg_t rfl (fun hG=>Zi Zhq rfl rfl u_0))<|o_g (Qg_t rfl (fun hG=>Zv Zkz rfl rfl (Opd.gd hG u_0)))<|o_g (Qg_t rfl (fun hG=>Z6 rfl rfl u_0))<|o_g (Qg_t rfl (fun hG=>Zbl Tryz.underlying22 Zoa rfl rfl (Opd.gd hG u_0) (Opd.gd hG u_1) (Zbn h3 hG)))<|o_g (Qg_t rfl (fun hG=>Zi Znz rfl rfl (Opd.gd hG u_0)))<|o_g (Qg_t rfl (fun hG=>Zv ty_9 rfl rfl (Opd.gd hG u_0)))<|o_g (Qg_t rfl (fun hG=>Z6 rfl rfl u_0))<|o_g (Qg_t rfl (fun hG=>Zn7 rfl rfl (Opd.gd hG u_0) (Opd.gd hG u_1)))<|o_p rfl (Zbk rfl rfl u_0 (fun hz=>(Opd.gd hz u_1)))<|o_n) (fun a g hst hb=>?_)
   refine wp_cond_split (hst.bool 3 rfl) (fun hc4=>?_) (fun hc4=>?_)
   ·replace H1:=Zu hc4 H1
    refine wp_skip ?_
    refine Zp ?_
    refine wp_block ?_
    refine r_g (L:=[(1,_),(2,_),(5,_)]) (T:=[⟨[.o 2],_,[],[],[21]⟩,⟨[.p 0 0],_,[],[0],[22]⟩,⟨[.p 1 0],_,[],[0,1],[5]⟩]) (F:=[.o 0,.o 1,.p 2 0]) (hst.pick [0,1,2] rfl) hb Za
     (Qm rfl u_0<|o_p rfl (Zb0 rfl rfl u_0 c_i rfl)<|Qa rfl u_0<|o_n) (fun a g hst hb=>?_)
    refine Zbc ?_
    exact ⟨n,Nat.lt_succ_self _,(IntKind.i64.wrap (x1 + (1:Int))),g,rfl,(hst.pick [0,1,2] rfl),hb,H1⟩
   ·replace H1:=Zt hc4 H1
    refine wp_exit ?_
    refine Zby ?_
    refine Zby ?_
    refine Zcb ?_
    exact ⟨x1,g,rfl,(hst.pick [2] rfl),hb,Option.some.inj H1⟩
end Go.CL
