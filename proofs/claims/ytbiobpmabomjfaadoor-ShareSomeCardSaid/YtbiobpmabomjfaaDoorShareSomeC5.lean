/- A part of the proof of ShareSome. -/
import Derived.Test.YtbiobpmabomjfaaDoorShareSomeC4
import Derived.KernelRfl
import Derived.Laws.Strings
set_option linter.unusedVariables false
set_option linter.unusedSimpArgs false
set_option maxRecDepth 100000
namespace Go.CL
open Go Go.RowKit Go.Proofs
theorem Zom (a0:Za) (a1:ByteArray) {r:Bool} (h:Zgw a0 a1=some r):FnOk Tryd.prog 44 [(Zc.pd a0),(pStr a1)] (Z7 r):=by
 have H0:=h
 unfold Zgw at H0
 clear h
 refine Zbw (N:=106) Tryd.func44 rfl rfl (Qe rfl) rfl rfl (fun a g0 hst hb=>?_)
 refine r_s (T:=[⟨[.o 0],_,[],[],[2]⟩,⟨[],_,[],[],[4]⟩]) (F:=[.o 1,.p 0 0]) hst hb Zb
  (Qb rfl u_0<|Qa rfl c_b<|o_n) (fun a g hst hb=>?_)
 refine r_s (T:=[⟨[],_,[],[],[5]⟩,⟨[],_,[],[0],[6]⟩,⟨[],_,[],[0,1],[7]⟩,⟨[],_,[],[0,1,2],[8]⟩,⟨[],_,[],Lr 4,[9]⟩]) (F:=[.o 0,.o 1,.p 0 0,.p 1 0,.p 2 0,.p 3 0,.p 4 0]) hst hb Zb
  (Qa rfl c_b<|Qa rfl c_b<|Qa rfl c_b<|Qa rfl c_b<|Qa rfl c_b<|o_n) (fun a g hst hb=>?_)
 refine wp_seq ?_
 refine r_s (T:=[⟨[],_,[],[],[10]⟩]) (F:=[.o 0,.o 1,.o 2,.o 3,.o 4,.o 5,.o 6,.p 0 0]) hst hb Zb
  (Qa rfl c_i<|o_n) (fun a g hst hb=>?_)
 obtain ⟨z23,hz1,H0⟩:=Ze H0
 refine Zce (fun a w=>∃ (y18:Bool) (y19:Bool) (y20:Bool) (y21:Bool) (y22:Bool) (g:G),w=g.w ∧ St 106 [(2,(Zc.ptr a0)),(5,(Z7 y18)),(6,(Z7 y19)),(7,(Z7 y20)),(8,(Z7 y21)),(9,(Z7 y22))] a g ∧ Base g0 g ∧ (y18,y19,y20,y21,y22)=z23) ?_ ?_
 ·rintro a w ⟨y18,y19,y20,y21,y22,g,rfl,hst,hb,rfl⟩
  refine Zm ?_
  refine wp_seq ?_
  refine r_s (T:=⟨[.o 1],_,[],[],[52]⟩ :: ⟨[.p 0 0],_,[],[0],[53]⟩ :: ⟨[.p 1 0],_,[],[0,1],[54]⟩ :: ⟨[.p 2 0,.o 0],_,[],[0,1,2],[55]⟩ :: ⟨[.p 2 0,.p 3 0],_,[],Lr 4,[56]⟩ :: ⟨[.p 2 0,.p 4 0],_,[],Lr 5,[57]⟩ :: ⟨[.p 2 0,.p 5 0],_,[],Lr 6,[58]⟩ :: ⟨[.p 6 0],_,[],Lr 7,[59]⟩ :: ⟨[.p 7 0,.o 2],_,[],Lr 8,[60]⟩ :: ⟨[.p 7 0,.p 8 0],_,[],Lr 9,[61]⟩ :: ⟨[.p 7 0,.p 9 0],_,[],Lr 10,[62]⟩ :: ⟨[.p 10 0,.o 0],_,[],Lr 11,[63]⟩ :: ⟨[.p 10 0,.p 11 0],_,[],Lr 12,[64]⟩ :: ⟨[.p 10 0,.p 12 0],_,[],Lr 13,[65]⟩ :: ⟨[.p 7 0,.p 10 0,.p 13 0],_,[],Lr 14,[66]⟩ :: ⟨[.p 7 0,.p 14 0],_,[],Lr 15,[67]⟩ :: ⟨[.p 15 0],_,[],Lr 16,[68]⟩ :: ⟨[.p 16 0,.o 3],_,[],Lr 17,[69]⟩ :: ⟨[.p 16 0,.p 17 0],_,[],Lr 18,[70]⟩ :: ⟨[.p 16 0,.p 18 0],_,[],Lr 19,[71]⟩ :: ⟨[.p 19 0,.o 0],_,[],Lr 20,[72]⟩ :: ⟨[.p 19 0,.p 20 0],_,[],Lr 21,[73]⟩ :: ⟨[.p 19 0,.p 21 0],_,[],Lr 22,[74]⟩ :: ⟨[.p 16 0,.p 19 0,.p 22 0],_,[],Lr 23,[75]⟩ :: ⟨[.p 16 0,.p 23 0],_,[],Lr 24,[76]⟩ :: ⟨[.p 24 0],_,[],Lr 25,[77]⟩ :: ⟨[.p 25 0,.o 3],_,[],Lr 26,[78]⟩ :: ⟨[.p 25 0,.p 26 0],_,[],Lr 27,[79]⟩ :: ⟨[.p 25 0,.p 27 0],_,[],Lr 28,[80]⟩ :: ⟨[.p 28 0,.o 0],_,[],Lr 29,[81]⟩ :: ⟨[.p 28 0,.p 29 0],_,[],Lr 30,[82]⟩ :: ⟨[.p 28 0,.p 30 0],_,[],Lr 31,[83]⟩ :: ⟨[.p 25 0,.p 28 0,.p 31 0],_,[],Lr 32,[84]⟩ :: ⟨[.p 25 0,.p 32 0],_,[],Lr 33,[85]⟩ :: []) (F:=[.o 0,.o 4,.o 5,.p 33 0]) hst hb Zb
   (Qm rfl u_0<|Qn rfl u_0<|Qm rfl u_0<|o_g (Qg_t rfl (fun hG=>Zh Zia rfl rfl u_0))<|o_g (Qg_t rfl (fun hG=>Zn ty_9 rfl rfl (Opd.gd hG u_0)))<|o_g (Qg_t rfl (fun hG=>Zrw rfl rfl (Opd.gd hG u_0) c_s))<|o_p rfl (Zbi rfl rfl u_0 (fun hz=>(Opd.gd hz u_1)))<|Qm rfl u_0<|o_g (Qg_f rfl (fun hG=>Z0 rfl rfl u_0))<|o_g (Qg_f rfl (fun hG=>Ze5 rfl rfl (Opd.gd hG u_0)))<|o_g (Qg_f rfl (fun hG=>Z0 rfl rfl (Opd.gd hG u_0)))<|o_g (Qg_ti rfl (fun hG=>Zh Zcl rfl rfl u_0))<|o_g (Qg_ti rfl (fun hG=>Zn ty_2 rfl rfl (Opd.gd hG u_0)))<|o_g (Qg_ti rfl (fun hG=>Zdu rfl rfl (Opd.gd hG u_0) c_i))<|o_g (Qg_f rfl (fun hG=>Zbi rfl rfl (Opd.gd hG u_0) (fun hz=>(Opd.gd (bA hG hz) u_1))))<|o_p rfl (Zbk rfl rfl u_0 (fun hz=>(Opd.gd (bNF hz) u_1)))<|Qm rfl u_0<|o_g (Qg_f rfl (fun hG=>Z0 rfl rfl u_0))<|o_g (Qg_f rfl (fun hG=>Ze5 rfl rfl (Opd.gd hG u_0)))<|o_g (Qg_f rfl (fun hG=>Z0 rfl rfl (Opd.gd hG u_0)))<|o_g (Qg_ti rfl (fun hG=>Zh Zg6 rfl rfl u_0))<|o_g (Qg_ti rfl (fun hG=>Zn ty_2 rfl rfl (Opd.gd hG u_0)))<|o_g (Qg_ti rfl (fun hG=>Zdu rfl rfl (Opd.gd hG u_0) c_i))<|o_g (Qg_f rfl (fun hG=>Zbi rfl rfl (Opd.gd hG u_0) (fun hz=>(Opd.gd (bA hG hz) u_1))))<|o_p rfl (Zbk rfl rfl u_0 (fun hz=>(Opd.gd (bNF hz) u_1)))<|Qm rfl u_0<|o_g (Qg_f rfl (fun hG=>Z0 rfl rfl u_0))<|o_g (Qg_f rfl (fun hG=>Ze5 rfl rfl (Opd.gd hG u_0)))<|o_g (Qg_f rfl (fun hG=>Z0 rfl rfl (Opd.gd hG u_0)))<|o_g (Qg_ti rfl (fun hG=>Zh Zg8 rfl rfl u_0))<|o_g (Qg_ti rfl (fun hG=>Zn ty_2 rfl rfl (Opd.gd hG u_0)))<|o_g (Qg_ti rfl (fun hG=>Zdu rfl rfl (Opd.gd hG u_0) c_i))<|o_g (Qg_f rfl (fun hG=>Zbi rfl rfl (Opd.gd hG u_0) (fun hz=>(Opd.gd (bA hG hz) u_1))))<|o_p rfl (Zbk rfl rfl u_0 (fun hz=>(Opd.gd (bNF hz) u_1)))<|o_n) (fun a g hst hb=>?_)
  refine wp_cond_split (hst.bool 3 rfl) (fun hc24=>?_) (fun hc24=>?_)
  ·replace H0:=Zp hc24 H0
   refine r_s (L:=[]) (T:=[⟨[],_,[],[],[4]⟩]) (F:=[.p 0 0]) (hst.pick [] rfl) hb Zb
    (Qa rfl c_b<|o_n) (fun a g hst hb=>?_)
   refine wp_ret ?_
   refine Zj ?_
   obtain rfl:=Option.some.inj H0
   exact Zx rfl hst hb (Zf (s:=4)) (hst.at 0 rfl)
  ·replace H0:=Zq hc24 H0
   refine wp_skip ?_
   refine Zm ?_
   obtain ⟨r25,h26,H0⟩:=Ze H0
   refine r_s (L:=[(2,_),(8,_),(9,_)]) (T:=⟨[.o 1],_,[],[],[86]⟩ :: ⟨[.p 0 0],_,[],[0],[87]⟩ :: ⟨[.p 1 0,.o 0],_,[],[0,1],[88]⟩ :: ⟨[.p 1 0,.p 2 0],_,[],[0,1,2],[89]⟩ :: ⟨[.p 1 0,.p 3 0],_,[],Lr 4,[90]⟩ :: ⟨[.p 1 0,.p 4 0],_,[],Lr 5,[91]⟩ :: ⟨[.p 5 0],_,[],Lr 6,[92]⟩ :: ⟨[.p 6 0,.o 2],_,[],Lr 7,[93]⟩ :: ⟨[.p 6 0,.p 7 0],_,[],Lr 8,[94]⟩ :: ⟨[.p 8 0,.o 0],_,[],Lr 9,[95]⟩ :: ⟨[.p 8 0,.p 9 0],_,[],Lr 10,[96]⟩ :: ⟨[.p 8 0,.p 10 0],_,[],Lr 11,[97]⟩ :: ⟨[.p 8 0,.p 11 0],_,[],Lr 12,[98]⟩ :: ⟨[.p 12 0,.o 0],_,[],Lr 13,[99]⟩ :: ⟨[.p 12 0,.p 13 0],_,[],Lr 14,[100]⟩ :: ⟨[.p 12 0,.p 14 0],_,[],Lr 15,[101]⟩ :: ⟨[.p 12 0,.p 15 0],_,[],Lr 16,[102]⟩ :: ⟨[.p 8 0,.p 12 0,.p 16 0],_,[],Lr 17,[103]⟩ :: ⟨[.p 6 0,.p 8 0,.p 17 0],_,[],Lr 18,[104]⟩ :: ⟨[.p 6 0,.p 18 0],_,[],Lr 19,[105]⟩ :: ⟨[.p 19 0],_,[],Lr 20,[4]⟩ :: []) (F:=[.p 20 0]) (hst.pick [0,1,2] rfl) hb Zb
    (Qm rfl u_0<|Qm rfl u_0<|o_g (Qg_f rfl (fun hG=>Zh Zfd rfl rfl u_0))<|o_g (Qg_f rfl (fun hG=>Zn Zcv rfl rfl (Opd.gd hG u_0)))<|o_g (Qg_f rfl (fun hG=>Zr Z2o (Zko _ (Zbs h26 hG)) rfl rfl (.cons (Opd.gd hG u_0) .nil)))<|o_p rfl (Zbk rfl rfl u_0 (fun hz=>(Opd.gd (bNF hz) u_1)))<|Qm rfl u_0<|o_g (Qg_t rfl (fun hG=>Z0 rfl rfl u_0))<|o_g (Qg_t rfl (fun hG=>Z0 rfl rfl (Opd.gd hG u_0)))<|o_g (Qg_fi rfl (fun hG=>Zh Zfb rfl rfl u_0))<|o_g (Qg_fi rfl (fun hG=>Zn ty_3 rfl rfl (Opd.gd hG u_0)))<|o_g (Qg_fi rfl (fun hG=>Zbc rfl rfl (Opd.gd hG u_0) c_i))<|o_g (Qg_fi rfl (fun hG=>Z0 rfl rfl (Opd.gd hG u_0)))<|o_g (Qg_ti rfl (fun hG=>Zh Zb5 rfl rfl u_0))<|o_g (Qg_ti rfl (fun hG=>Zn Zc4 rfl rfl (Opd.gd hG u_0)))<|o_g (Qg_ti rfl (fun hG=>Zcc Tryd.underlying23 rfl rfl (Opd.gd hG u_0)))<|o_g (Qg_ti rfl (fun hG=>Zbc rfl rfl (Opd.gd hG u_0) c_i))<|o_g (Qg_fi rfl (fun hG=>Zbi rfl rfl (Opd.gd hG u_0) (fun hz=>(Opd.gd (bA hG hz) u_1))))<|o_g (Qg_t rfl (fun hG=>Zbk rfl rfl (Opd.gd hG u_0) (fun hz=>(Opd.gd (bA hG (bNF hz)) u_1))))<|o_p rfl (Zbi rfl rfl u_0 (fun hz=>(Opd.gd hz u_1)))<|Qa rfl u_0<|o_n) (fun a g hst hb=>?_)
   refine wp_ret ?_
   obtain rfl:=Option.some.inj H0
   exact Zx rfl hst hb (Zf (s:=4)) (hst.at 0 rfl)
 ·refine wp_block ?_
  refine wp_loop_ghost (fun n a w=>∃ (x1:Bool) (x2:Bool) (x3:Bool) (x4:Bool) (x5:Bool) (x6:Int) (g:G),w=g.w ∧ St 106 [(1,(pStr a1)),(2,(Zc.ptr a0)),(5,(Z7 x1)),(6,(Z7 x2)),(7,(Z7 x3)),(8,(Z7 x4)),(9,(Z7 x5)),(10,(pInt .i64 x6))] a g ∧ Base g0 g ∧ Zb9 a1 n x1 x2 x3 x4 x5 x6=some z23) (Int.toNat ((a1.size:Int) - (0:Int)) + 1) ⟨false,false,false,false,false,(0:Int),g,rfl,(hst.pick [0,1,2,3,4,5,6,7] rfl),hb,hz1⟩ (fun n a w hI=>?_)
  obtain ⟨x1,x2,x3,x4,x5,x6,g,rfl,hst,hb,H1⟩:=hI
  cases n with
  | zero=>exact absurd H1 (by simp [Zb9])
  | succ n =>
   rw [Zb9] at H1
   refine wp_seq ?_
   refine r_s (T:=[⟨[.o 7],_,[],[],[11]⟩,⟨[.o 0],_,[],[],[12]⟩,⟨[.p 1 0],_,[],[1],[13]⟩,⟨[.p 0 0,.p 2 0],_,[],[0,1,2],[14]⟩]) (F:=[.o 0,.o 1,.o 2,.o 3,.o 4,.o 5,.o 6,.o 7,.p 3 0]) hst hb Zb
    (Qm rfl u_0<|Qm rfl u_0<|o_p rfl (Zex Tryd.underlying9 rfl rfl u_0)<|o_p rfl (Zb8 rfl rfl u_0 u_1)<|o_n) (fun a g hst hb=>?_)
   refine wp_cond_split (hst.bool 8 rfl) (fun hc7=>?_) (fun hc7=>?_)
   ·replace H1:=Zp hc7 H1
    refine wp_skip ?_
    refine Zm ?_
    refine wp_seq ?_
    refine wp_block ?_
    obtain ⟨b8,h9,H1⟩:=Ze H1
    refine r_s (L:=[(1,_),(2,_),(5,_),(6,_),(7,_),(8,_),(9,_),(10,_)]) (T:=[⟨[.o 2],_,[],[],[17]⟩,⟨[.p 0 0],_,[],[0],[18]⟩,⟨[.p 1 0,.o 0],_,[],[0,1],[19]⟩,⟨[.p 1 0,.o 7],_,[],[0,1],[20]⟩,⟨[.p 1 0,.p 2 0,.p 3 0],_,[],Lr 4,[21]⟩,⟨[.p 1 0,.p 4 0],_,[],Lr 5,[22]⟩,⟨[.p 1 0,.p 5 0],_,[],Lr 6,[23]⟩,⟨[.p 6 0],_,[],Lr 7,[5]⟩]) (F:=[.o 0,.o 1,.p 7 0,.o 3,.o 4,.o 5,.o 6,.o 7]) (hst.pick [0,1,2,3,4,5,6,7] rfl) hb Zb
     (Qm rfl u_0<|Qm rfl u_0<|o_g (Qg_f rfl (fun hG=>Z0 rfl rfl u_0))<|o_g (Qg_f rfl (fun hG=>Z0 rfl rfl u_0))<|o_g (Qg_f rfl (fun hG=>Zkz Tryd.underlying9 rfl rfl (Opd.gd hG u_0) (Opd.gd hG u_1) (Zbs h9 hG)))<|o_g (Qg_f rfl (fun hG=>Zbc rfl rfl (Opd.gd hG u_0) c_i))<|o_p rfl (Zbk rfl rfl u_0 (fun hz=>(Opd.gd (bNF hz) u_1)))<|Qa rfl u_0<|o_n) (fun a g hst hb=>?_)
    obtain ⟨b10,h11,H1⟩:=Ze H1
    refine r_s (T:=[⟨[.o 3],_,[],[],[24]⟩,⟨[.p 0 0],_,[],[0],[25]⟩,⟨[.p 1 0,.o 0],_,[],[0,1],[26]⟩,⟨[.p 1 0,.o 7],_,[],[0,1],[27]⟩,⟨[.p 1 0,.p 2 0,.p 3 0],_,[],Lr 4,[28]⟩,⟨[.p 1 0,.p 4 0],_,[],Lr 5,[29]⟩,⟨[.p 1 0,.p 5 0],_,[],Lr 6,[30]⟩,⟨[.p 6 0],_,[],Lr 7,[6]⟩]) (F:=[.o 0,.o 1,.o 2,.p 7 0,.o 4,.o 5,.o 6,.o 7]) hst hb Zb
     (Qm rfl u_0<|Qm rfl u_0<|o_g (Qg_f rfl (fun hG=>Z0 rfl rfl u_0))<|o_g (Qg_f rfl (fun hG=>Z0 rfl rfl u_0))<|o_g (Qg_f rfl (fun hG=>Zkz Tryd.underlying9 rfl rfl (Opd.gd hG u_0) (Opd.gd hG u_1) (Zbs h11 hG)))<|o_g (Qg_f rfl (fun hG=>Zbc rfl rfl (Opd.gd hG u_0) c_i))<|o_p rfl (Zbk rfl rfl u_0 (fun hz=>(Opd.gd (bNF hz) u_1)))<|Qa rfl u_0<|o_n) (fun a g hst hb=>?_)
    obtain ⟨b12,h13,H1⟩:=Ze H1
    refine r_s (T:=[⟨[.o 4],_,[],[],[31]⟩,⟨[.p 0 0],_,[],[0],[32]⟩,⟨[.p 1 0,.o 0],_,[],[0,1],[33]⟩,⟨[.p 1 0,.o 7],_,[],[0,1],[34]⟩,⟨[.p 1 0,.p 2 0,.p 3 0],_,[],Lr 4,[35]⟩,⟨[.p 1 0,.p 4 0],_,[],Lr 5,[36]⟩,⟨[.p 1 0,.p 5 0],_,[],Lr 6,[37]⟩,⟨[.p 6 0],_,[],Lr 7,[7]⟩]) (F:=[.o 0,.o 1,.o 2,.o 3,.p 7 0,.o 5,.o 6,.o 7]) hst hb Zb
     (Qm rfl u_0<|Qm rfl u_0<|o_g (Qg_f rfl (fun hG=>Z0 rfl rfl u_0))<|o_g (Qg_f rfl (fun hG=>Z0 rfl rfl u_0))<|o_g (Qg_f rfl (fun hG=>Zkz Tryd.underlying9 rfl rfl (Opd.gd hG u_0) (Opd.gd hG u_1) (Zbs h13 hG)))<|o_g (Qg_f rfl (fun hG=>Zbc rfl rfl (Opd.gd hG u_0) c_i))<|o_p rfl (Zbk rfl rfl u_0 (fun hz=>(Opd.gd (bNF hz) u_1)))<|Qa rfl u_0<|o_n) (fun a g hst hb=>?_)
    obtain ⟨b14,h15,H1⟩:=Ze H1
    refine r_s (T:=[⟨[.o 5],_,[],[],[38]⟩,⟨[.p 0 0],_,[],[0],[39]⟩,⟨[.p 1 0,.o 0],_,[],[0,1],[40]⟩,⟨[.p 1 0,.o 7],_,[],[0,1],[41]⟩,⟨[.p 1 0,.p 2 0,.p 3 0],_,[],Lr 4,[42]⟩,⟨[.p 1 0,.p 4 0],_,[],Lr 5,[43]⟩,⟨[.p 1 0,.p 5 0],_,[],Lr 6,[44]⟩,⟨[.p 6 0],_,[],Lr 7,[8]⟩]) (F:=[.o 0,.o 1,.o 2,.o 3,.o 4,.p 7 0,.o 6,.o 7]) hst hb Zb
     (Qm rfl u_0<|Qm rfl u_0<|o_g (Qg_f rfl (fun hG=>Z0 rfl rfl u_0))<|o_g (Qg_f rfl (fun hG=>Z0 rfl rfl u_0))<|o_g (Qg_f rfl (fun hG=>Zkz Tryd.underlying9 rfl rfl (Opd.gd hG u_0) (Opd.gd hG u_1) (Zbs h15 hG)))<|o_g (Qg_f rfl (fun hG=>Zbc rfl rfl (Opd.gd hG u_0) c_i))<|o_p rfl (Zbk rfl rfl u_0 (fun hz=>(Opd.gd (bNF hz) u_1)))<|Qa rfl u_0<|o_n) (fun a g hst hb=>?_)
    obtain ⟨b16,h17,H1⟩:=Ze H1
    refine r_g (T:=[⟨[.o 6],_,[],[],[45]⟩,⟨[.p 0 0],_,[],[0],[46]⟩,⟨[.p 1 0,.o 0],_,[],[0,1],[47]⟩,⟨[.p 1 0,.o 7],_,[],[0,1],[48]⟩,⟨[.p 1 0,.p 2 0,.p 3 0],_,[],Lr 4,[49]⟩,⟨[.p 1 0,.p 4 0],_,[],Lr 5,[50]⟩,⟨[.p 1 0,.p 5 0],_,[],Lr 6,[51]⟩,⟨[.p 6 0],_,[],Lr 7,[9]⟩]) (F:=[.o 0,.o 1,.o 2,.o 3,.o 4,.o 5,.p 7 0,.o 7]) hst hb Zb
     (Qm rfl u_0<|Qm rfl u_0<|o_g (Qg_f rfl (fun hG=>Z0 rfl rfl u_0))<|o_g (Qg_f rfl (fun hG=>Z0 rfl rfl u_0))<|o_g (Qg_f rfl (fun hG=>Zkz Tryd.underlying9 rfl rfl (Opd.gd hG u_0) (Opd.gd hG u_1) (Zbs h17 hG)))<|o_g (Qg_f rfl (fun hG=>Zbc rfl rfl (Opd.gd hG u_0) c_i))<|o_p rfl (Zbk rfl rfl u_0 (fun hz=>(Opd.gd (bNF hz) u_1)))<|Qa rfl u_0<|o_n) (fun a g hst hb=>?_)
    refine Zbj ?_
    refine Zm ?_
    refine r_g (T:=[⟨[.o 7],_,[],[],[15]⟩,⟨[.p 0 0],_,[],[0],[16]⟩,⟨[.p 1 0],_,[],[0,1],[10]⟩]) (F:=[.o 0,.o 1,.o 2,.o 3,.o 4,.o 5,.o 6,.p 2 0]) hst hb Zb
     (Qm rfl u_0<|o_p rfl (Zcs rfl rfl u_0 c_i rfl)<|Qa rfl u_0<|o_n) (fun a g hst hb=>?_)
    exact ⟨n,Nat.lt_succ_self _,(x1 || (b8 == (116:Int))),(x2 || (b10 == (110:Int))),(x3 || (b12 == (98:Int))),(x4 || (b14 == (114:Int))),(x5 || (b16 == (108:Int))),(IntKind.i64.wrap (x6 + (1:Int))),g,rfl,(hst.pick [0,1,2,3,4,5,6,7] rfl),hb,H1⟩
   ·replace H1:=Zq hc7 H1
    refine wp_exit ?_
    refine Zca ?_
    refine Zca ?_
    refine Zc5 ?_
    exact ⟨x1,x2,x3,x4,x5,g,rfl,(hst.pick [1,2,3,4,5,6] rfl),hb,Option.some.inj H1⟩
theorem Zna (a0:Int) {r:ByteArray} (h:Zhd a0=some r):FnOk Tryd.prog 45 [(pInt .i64 a0)] (pStr r):=by
 have H0:=h
 unfold Zhd at H0
 clear h
 refine Zbw (N:=15) Tryd.func45 rfl rfl (Qe rfl) rfl rfl (fun a g0 hst hb=>?_)
 refine r_s (T:=[⟨[],_,[],[],[2]⟩]) (F:=[.o 0]) hst hb Zb
  (Qa rfl c_s<|o_n) (fun a g hst hb=>?_)
 refine r_s (T:=[⟨[],_,[],[],[4]⟩,⟨[.p 0 0],_,[],[0],[3]⟩]) (F:=[.o 0,.p 1 0]) hst hb Zb
  (o_p rfl (Zi5 Zzu (xs:=[.const (.string ⟨#[]⟩),.const (.string ⟨#[116]⟩),.const (.string ⟨#[110]⟩),.const (.string ⟨#[110]⟩),.const (.string ⟨#[110,98]⟩),.const (.string ⟨#[114]⟩),.const (.string ⟨#[114]⟩),.const (.string ⟨#[114]⟩),.const (.string ⟨#[108]⟩),.const (.string ⟨#[108]⟩)]) (.cons c_s (.cons c_s (.cons c_s (.cons c_s (.cons c_s (.cons c_s (.cons c_s (.cons c_s (.cons c_s (.cons c_s .nil)))))))))) (by decide) rfl rfl)<|Qa rfl u_0<|o_n) (fun a g hst hb=>?_)
 refine wp_seq ?_
 refine r_s (T:=[⟨[.o 0],_,[],[],[5]⟩,⟨[.p 0 0],_,[],[0],[6]⟩,⟨[.p 1 0],_,[],[0,1],[7]⟩,⟨[.p 2 0,.o 0],_,[],[0,1,2],[8]⟩,⟨[.p 2 0,.p 3 0],_,[],Lr 4,[9]⟩,⟨[.p 2 0,.p 4 0],_,[],Lr 5,[10]⟩]) (F:=[.o 0,.o 1,.p 5 0]) hst hb Zb
  (Qm rfl u_0<|o_p rfl (Zb8 rfl rfl u_0 c_i)<|Qm rfl u_0<|o_g (Qg_f rfl (fun hG=>Z0 rfl rfl u_0))<|o_g (Qg_f rfl (fun hG=>Zcf rfl rfl (Opd.gd hG u_0) c_i))<|o_p rfl (Zbk rfl rfl u_0 (fun hz=>(Opd.gd (bNF hz) u_1)))<|o_n) (fun a g hst hb=>?_)
 refine wp_cond_split (hst.bool 2 rfl) (fun hc1=>?_) (fun hc1=>?_)
 ·replace H0:=Zp hc1 H0
  refine r_s (L:=[]) (T:=[⟨[],_,[],[],[2]⟩]) (F:=[.p 0 0]) (hst.pick [] rfl) hb Zb
   (Qa rfl c_s<|o_n) (fun a g hst hb=>?_)
  refine wp_ret ?_
  refine Zj ?_
  obtain rfl:=Option.some.inj H0
  exact Zx rfl hst hb (Zf (s:=2)) (hst.at 0 rfl)
 ·replace H0:=Zq hc1 H0
  refine wp_skip ?_
  refine Zm ?_
  obtain ⟨e2,h3,H0⟩:=Ze H0
  refine r_s (L:=[(0,_),(3,_)]) (T:=[⟨[.o 1],_,[],[],[11]⟩,⟨[.o 0],_,[],[],[12]⟩,⟨[.p 0 0,.p 1 0],_,[],[0,1],[13]⟩,⟨[.p 2 0],_,[],[0,1,2],[14]⟩,⟨[.p 3 0],_,[],Lr 4,[2]⟩]) (F:=[.p 4 0]) (hst.pick [0,1] rfl) hb Zb
   (Qm rfl u_0<|Qm rfl u_0<|o_p rfl (Zbp Tryd.underlying122 sz_9 rfl rfl u_0 u_1 h3)<|Ql rfl ty_9 u_0<|Qa rfl u_0<|o_n) (fun a g hst hb=>?_)
  refine wp_ret ?_
  obtain rfl:=Option.some.inj H0
  exact Zx rfl hst hb (Zf (s:=2)) (hst.at 0 rfl)
theorem Zib (a0:Nat) {r:Bool} (h:Zd6 a0=some r):FnOk Tryd.prog 46 [(pFlt a0)] (Z7 r):=by
 have H0:=h
 unfold Zd6 at H0
 clear h
 refine Zbw (N:=11) Tryd.func46 rfl rfl (Qe rfl) rfl rfl (fun a g0 hst hb=>?_)
 refine r_s (T:=[⟨[],_,[],[],[2]⟩]) (F:=[.o 0]) hst hb Zb
  (Qa rfl c_b<|o_n) (fun a g hst hb=>?_)
 obtain ⟨r1,h2,H0⟩:=Ze H0
 refine r_s (T:=[⟨[.o 0],_,[],[],[3]⟩,⟨[.p 0 0],_,[],[0],[4]⟩,⟨[.p 1 0],_,[],[0,1],[5]⟩,⟨[.p 2 0],_,[],[0,1,2],[6]⟩,⟨[.p 3 0,.o 0],_,[],Lr 4,[7]⟩,⟨[.p 3 0,.p 4 0],_,[],Lr 5,[8]⟩,⟨[.p 3 0,.p 5 0],_,[],Lr 6,[9]⟩,⟨[.p 3 0,.p 6 0],_,[],Lr 7,[10]⟩,⟨[.p 7 0],_,[],Lr 8,[2]⟩]) (F:=[.p 8 0]) hst hb Zb
  (Qm rfl u_0<|o_p rfl (Zr Zx6 (Ziv _ h2) rfl rfl (.cons u_0 .nil))<|Qn rfl u_0<|Qm rfl u_0<|o_g (Qg_f rfl (fun hG=>Z0 rfl rfl u_0))<|o_g (Qg_f rfl (fun hG=>Zpw Zt8 rfl rfl (Opd.gd hG u_0)))<|o_g (Qg_f rfl (fun hG=>Zbc rfl rfl (Opd.gd hG u_0) c_i))<|o_p rfl (Zbk rfl rfl u_0 (fun hz=>(Opd.gd (bNF hz) u_1)))<|Qa rfl u_0<|o_n) (fun a g hst hb=>?_)
 refine wp_ret ?_
 obtain rfl:=Option.some.inj H0
 exact Zx rfl hst hb (Zf (s:=2)) (hst.at 0 rfl)
theorem Zns (a0:Zd) (a1:Zd) {r:Bool} (h:Zee a0 a1=some r):FnOk Tryd.prog 74 [(Zo.pd a0),(Zo.pd a1)] (Z7 r):=by
 have H0:=h
 unfold Zee at H0
 clear h
 refine Zbw (N:=22) Tryd.func74 rfl rfl (Qe rfl) rfl rfl (fun a g0 hst hb=>?_)
 refine r_s (T:=[⟨[.o 0],_,[],[],[2]⟩,⟨[.o 1],_,[],[],[3]⟩,⟨[],_,[],[],[4]⟩]) (F:=[.p 0 0,.p 1 0]) hst hb Zb
  (Qb rfl u_0<|Qb rfl u_0<|Qa rfl c_b<|o_n) (fun a g hst hb=>?_)
 refine wp_seq ?_
 obtain ⟨r1,h2,H0⟩:=Ze H0
 refine r_s (T:=[⟨[.o 1],_,[],[],[5]⟩,⟨[.p 0 0],_,[],[0],[6]⟩,⟨[.o 0],_,[],[],[7]⟩,⟨[.p 2 0],_,[],[2],[8]⟩,⟨[.p 1 0,.p 3 0],_,[],Lr 4,[9]⟩]) (F:=[.o 0,.o 1,.p 4 0]) hst hb Zb
  (Qf rfl Zet u_0<|Ql rfl Zcv u_0<|Qf rfl Zet u_0<|Ql rfl Zcv u_0<|o_p rfl (Zr Zyg (Ziu _ _ h2) rfl rfl (.cons u_0 (.cons u_1 .nil)))<|o_n) (fun a g hst hb=>?_)
 refine wp_cond_split (hst.bool 2 rfl) (fun hc3=>?_) (fun hc3=>?_)
 ·replace H0:=Zp hc3 H0
  refine r_s (L:=[]) (T:=[⟨[],_,[],[],[4]⟩]) (F:=[.p 0 0]) (hst.pick [] rfl) hb Zb
   (Qa rfl c_b<|o_n) (fun a g hst hb=>?_)
  refine wp_ret ?_
  refine Zj ?_
  obtain rfl:=Option.some.inj H0
  exact Zx rfl hst hb (Zf (s:=4)) (hst.at 0 rfl)
 ·replace H0:=Zq hc3 H0
  refine wp_skip ?_
  refine Zm ?_
  obtain ⟨r4,h5,H0⟩:=Ze H0
  refine r_s (L:=[(2,_),(3,_)]) (T:=⟨[.o 0],_,[],[],[10]⟩ :: ⟨[.p 0 0],_,[],[0],[11]⟩ :: ⟨[.o 1],_,[],[],[12]⟩ :: ⟨[.p 2 0],_,[],[2],[13]⟩ :: ⟨[.p 1 0,.p 3 0],_,[],Lr 4,[14]⟩ :: ⟨[.p 4 0],_,[],Lr 5,[15]⟩ :: ⟨[.p 5 0,.o 0],_,[],Lr 6,[16]⟩ :: ⟨[.p 5 0,.p 6 0],_,[],Lr 7,[17]⟩ :: ⟨[.p 5 0,.o 1],_,[],Lr 6,[18]⟩ :: ⟨[.p 5 0,.p 8 0],_,[],[0,1,2,3,4,5,8],[19]⟩ :: ⟨[.p 5 0,.p 7 0,.p 9 0],_,[],Lr 10,[20]⟩ :: ⟨[.p 5 0,.p 10 0],_,[],Lr 11,[21]⟩ :: ⟨[.p 11 0],_,[],Lr 12,[4]⟩ :: []) (F:=[.p 12 0]) (hst.pick [0,1] rfl) hb Zb
   (Qf rfl Zet u_0<|Ql rfl Zcv u_0<|Qf rfl Zet u_0<|Ql rfl Zcv u_0<|o_p rfl (Zr Zq9 (Zfj _ _ h5) rfl rfl (.cons u_0 (.cons u_1 .nil)))<|Qm rfl u_0<|o_g (Qg_t rfl (fun hG=>Zh Zed rfl rfl u_0))<|o_g (Qg_t rfl (fun hG=>Zn ty_9 rfl rfl (Opd.gd hG u_0)))<|o_g (Qg_t rfl (fun hG=>Zh Zed rfl rfl u_0))<|o_g (Qg_t rfl (fun hG=>Zn ty_9 rfl rfl (Opd.gd hG u_0)))<|o_g (Qg_t rfl (fun hG=>Zrf rfl rfl (Opd.gd hG u_0) (Opd.gd hG u_1)))<|o_p rfl (Zbi rfl rfl u_0 (fun hz=>(Opd.gd hz u_1)))<|Qa rfl u_0<|o_n) (fun a g hst hb=>?_)
  refine wp_ret ?_
  obtain rfl:=Option.some.inj H0
  exact Zx rfl hst hb (Zf (s:=4)) (hst.at 0 rfl)
theorem Zol (a0:Int) (a1:List Zd) (a2:Int) {r:Int} (h:Zgv a0 a1 a2=some r):FnOk Tryd.prog 47 [(pInt .i64 a0),(Zo.sl.pd a1),(pInt .i64 a2)] (pInt .i64 r):=by
 have H0:=h
 unfold Zgv at H0
 clear h
 refine Zbw (N:=64) Tryd.func47 rfl rfl (Qe rfl) rfl rfl (fun a g0 hst hb=>?_)
 refine r_s (T:=[⟨[],_,[],[],[6]⟩]) (F:=[.o 0,.o 1,.o 2]) hst hb Zb
  (Qa rfl c_i<|o_n) (fun a g hst hb=>?_)
 obtain ⟨e1,h2,H0⟩:=Ze H0
 refine r_s (T:=[⟨[.o 1],_,[],[],[8]⟩,⟨[.o 2],_,[],[],[9]⟩,⟨[.p 0 0,.p 1 0],_,[],[0,1],[10]⟩,⟨[.p 2 0],_,[],[0,1,2],[11]⟩,⟨[],[(7,(pBox Zo 7 (default:Zd)))],[8],[],[7]⟩,⟨[.p 3 0,.p 4 0],_,[8],Lr 5,[7]⟩]) (F:=[.o 0,.o 1,.o 2,.p 5 0]) hst hb Zb
  (Qm rfl u_0<|Qm rfl u_0<|o_p rfl (Zbp Tryd.underlying23 Zga rfl rfl u_0 u_1 h2)<|Ql rfl Zd2 u_0<|o_p rfl (Zbt (zs:=[.float .f64 0,.string ByteArray.empty]) (by kernel_rfl) (fun g=>Zgr g) rfl rfl)<|o_p rfl (Zcg Zd2 rfl rfl u_1 u_0)<|o_n) (fun a g hst hb=>?_)
 refine wp_seq ?_
 refine r_s (T:=[⟨[.o 3],_,[],[],[12]⟩,⟨[.p 0 0],_,[],[0],[13]⟩,⟨[.p 1 0],_,[],[0,1],[14]⟩,⟨[.p 2 0],_,[],[0,1,2],[15]⟩]) (F:=[.o 0,.o 1,.o 2,.o 3,.p 3 0]) hst hb Zb
  (Qf rfl Zed u_0<|Ql rfl ty_9 u_0<|o_p rfl (Zex Tryd.underlying9 rfl rfl u_0)<|o_p rfl (Zcf rfl rfl u_0 c_i)<|o_n) (fun a g hst hb=>?_)
 refine wp_cond_split (hst.bool 4 rfl) (fun hc3=>?_) (fun hc3=>?_)
 ·replace H0:=Zp hc3 H0
  refine r_s (L:=[]) (T:=[⟨[],_,[],[],[6]⟩]) (F:=[.p 0 0]) (hst.pick [] rfl) hb Zb
   (Qa rfl c_i<|o_n) (fun a g hst hb=>?_)
  refine wp_ret ?_
  refine Zj ?_
  obtain rfl:=Option.some.inj H0
  exact Zx rfl hst hb (Zf (s:=6)) (hst.at 0 rfl)
 ·replace H0:=Zq hc3 H0
  refine wp_skip ?_
  refine Zm ?_
  refine wp_seq ?_
  obtain ⟨r4,h5,H0⟩:=Ze H0;obtain ⟨r6,h7,H0⟩:=Ze H0
  refine r_s (L:=[(0,_),(1,_),(2,_),(7,_)]) (T:=⟨[.o 0],_,[],[],[16]⟩ :: ⟨[.p 0 0],_,[],[0],[17]⟩ :: ⟨[.p 1 0],_,[],[0,1],[18]⟩ :: ⟨[.p 2 0,.o 3],_,[],[0,1,2],[19]⟩ :: ⟨[.p 2 0,.p 3 0],_,[],Lr 4,[20]⟩ :: ⟨[.p 2 0,.p 4 0],_,[],Lr 5,[21]⟩ :: ⟨[.p 2 0,.p 5 0],_,[],Lr 6,[22]⟩ :: ⟨[.p 2 0,.p 6 0],_,[],Lr 7,[23]⟩ :: ⟨[.p 7 0],_,[],Lr 8,[24]⟩ :: ⟨[.p 8 0,.o 3],_,[],Lr 9,[25]⟩ :: ⟨[.p 8 0,.p 9 0],_,[],Lr 10,[26]⟩ :: ⟨[.p 8 0,.p 10 0],_,[],Lr 11,[27]⟩ :: ⟨[.p 8 0,.p 11 0],_,[],Lr 12,[28]⟩ :: ⟨[.p 8 0,.p 12 0],_,[],Lr 13,[29]⟩ :: []) (F:=[.o 0,.o 1,.o 2,.o 3,.p 13 0]) (hst.pick [0,1,2,3] rfl) hb Zb
   (Qm rfl u_0<|o_p rfl (Zbc rfl rfl u_0 c_i)<|Qm rfl u_0<|o_g (Qg_t rfl (fun hG=>Zh Zet rfl rfl u_0))<|o_g (Qg_t rfl (fun hG=>Zn Zcv rfl rfl (Opd.gd hG u_0)))<|o_g (Qg_t rfl (fun hG=>Zr Z2o (Zko _ (Zbs h5 hG)) rfl rfl (.cons (Opd.gd hG u_0) .nil)))<|o_g (Qg_t rfl (fun hG=>Ze5 rfl rfl (Opd.gd hG u_0)))<|o_p rfl (Zbi rfl rfl u_0 (fun hz=>(Opd.gd hz u_1)))<|Qm rfl u_0<|o_g (Qg_f rfl (fun hG=>Zh Zet rfl rfl u_0))<|o_g (Qg_f rfl (fun hG=>Zn Zcv rfl rfl (Opd.gd hG u_0)))<|o_g (Qg_f rfl (fun hG=>Zr Zyn (Zib _ (Zbs h7 hG)) rfl rfl (.cons (Opd.gd hG u_0) .nil)))<|o_g (Qg_f rfl (fun hG=>Ze5 rfl rfl (Opd.gd hG u_0)))<|o_p rfl (Zbk rfl rfl u_0 (fun hz=>(Opd.gd (bNF hz) u_1)))<|o_n) (fun a g hst hb=>?_)
  refine wp_cond_split (hst.bool 4 rfl) (fun hc8=>?_) (fun hc8=>?_)
  ·replace H0:=Zp hc8 H0
   refine r_s (L:=[]) (T:=[⟨[],_,[],[],[6]⟩]) (F:=[.p 0 0]) (hst.pick [] rfl) hb Zb
    (Qa rfl c_i<|o_n) (fun a g hst hb=>?_)
   refine wp_ret ?_
   refine Zj ?_
   obtain rfl:=Option.some.inj H0
   exact Zx rfl hst hb (Zf (s:=6)) (hst.at 0 rfl)
  ·replace H0:=Zq hc8 H0
   refine wp_skip ?_
   refine Zm ?_
   refine wp_seq ?_
   obtain ⟨e9,h10,H0⟩:=Ze H0
   refine r_s (L:=[(0,_),(1,_),(2,_),(7,_)]) (T:=⟨[.o 2],_,[],[],[30]⟩ :: ⟨[.p 0 0],_,[],[0],[31]⟩ :: ⟨[.p 1 0],_,[],[0,1],[32]⟩ :: ⟨[.p 2 0,.o 0],_,[],[0,1,2],[33]⟩ :: ⟨[.p 2 0,.p 3 0],_,[],Lr 4,[34]⟩ :: ⟨[.p 2 0,.p 4 0],_,[],Lr 5,[35]⟩ :: ⟨[.p 5 0],_,[],Lr 6,[36]⟩ :: ⟨[.p 6 0,.o 1],_,[],Lr 7,[37]⟩ :: ⟨[.p 6 0,.o 2],_,[],Lr 7,[38]⟩ :: ⟨[.p 6 0,.p 8 0],_,[],[0,1,2,3,4,5,6,8],[39]⟩ :: ⟨[.p 6 0,.p 7 0,.p 9 0],_,[],Lr 10,[40]⟩ :: ⟨[.p 6 0,.p 10 0],_,[],Lr 11,[41]⟩ :: ⟨[.p 6 0,.p 11 0],_,[],Lr 12,[42]⟩ :: ⟨[.p 6 0,.o 3],_,[],Lr 7,[43]⟩ :: ⟨[.p 6 0,.p 13 0],_,[],[0,1,2,3,4,5,6,13],[44]⟩ :: ⟨[.p 6 0,.p 12 0,.p 14 0],_,[],Lr 15,[45]⟩ :: ⟨[.p 6 0,.p 15 0],_,[],Lr 16,[46]⟩ :: ⟨[.p 6 0,.p 16 0],_,[],Lr 17,[47]⟩ :: []) (F:=[.o 0,.o 1,.o 2,.o 3,.p 17 0]) (hst.pick [0,1,2,3] rfl) hb Zb
    (Qm rfl u_0<|o_p rfl (Zcf rfl rfl u_0 c_i)<|Qm rfl u_0<|o_g (Qg_t rfl (fun hG=>Z0 rfl rfl u_0))<|o_g (Qg_t rfl (fun hG=>Zbc rfl rfl (Opd.gd hG u_0) c_i))<|o_p rfl (Zbi rfl rfl u_0 (fun hz=>(Opd.gd hz u_1)))<|Qm rfl u_0<|o_g (Qg_t rfl (fun hG=>Z0 rfl rfl u_0))<|o_g (Qg_t rfl (fun hG=>Z0 rfl rfl u_0))<|o_g (Qg_t rfl (fun hG=>Ze6 rfl rfl (Opd.gd hG u_0) c_i rfl))<|o_g (Qg_t rfl (fun hG=>Zbp Tryd.underlying23 Zga rfl rfl (Opd.gd hG u_0) (Opd.gd hG u_1) (Zbs h10 hG)))<|o_g (Qg_t rfl (fun hG=>Zh Zed rfl rfl (Opd.gd hG u_0)))<|o_g (Qg_t rfl (fun hG=>Zn ty_9 rfl rfl (Opd.gd hG u_0)))<|o_g (Qg_t rfl (fun hG=>Zh Zed rfl rfl u_0))<|o_g (Qg_t rfl (fun hG=>Zn ty_9 rfl rfl (Opd.gd hG u_0)))<|o_g (Qg_t rfl (fun hG=>Zrf rfl rfl (Opd.gd hG u_0) (Opd.gd hG u_1)))<|o_g (Qg_t rfl (fun hG=>Ze5 rfl rfl (Opd.gd hG u_0)))<|o_p rfl (Zbi rfl rfl u_0 (fun hz=>(Opd.gd hz u_1)))<|o_n) (fun a g hst hb=>?_)
   refine wp_cond_split (hst.bool 4 rfl) (fun hc11=>?_) (fun hc11=>?_)
   ·replace H0:=Zp hc11 H0
    refine r_s (L:=[]) (T:=[⟨[],_,[],[],[6]⟩]) (F:=[.p 0 0]) (hst.pick [] rfl) hb Zb
     (Qa rfl c_i<|o_n) (fun a g hst hb=>?_)
    refine wp_ret ?_
    refine Zj ?_
    obtain rfl:=Option.some.inj H0
    exact Zx rfl hst hb (Zf (s:=6)) (hst.at 0 rfl)
   ·replace H0:=Zq hc11 H0
    refine wp_skip ?_
    refine Zm ?_
    refine wp_seq ?_
    obtain ⟨e12,h13,H0⟩:=Ze H0;obtain ⟨r14,h15,H0⟩:=Ze H0
    refine r_s (L:=[(0,_),(1,_),(2,_),(7,_)]) (T:=⟨[.o 2],_,[],[],[48]⟩ :: ⟨[.p 0 0],_,[],[0],[49]⟩ :: ⟨[.p 1 0],_,[],[0,1],[50]⟩ :: ⟨[.p 2 0,.o 0],_,[],[0,1,2],[51]⟩ :: ⟨[.p 2 0,.p 3 0],_,[],Lr 4,[52]⟩ :: ⟨[.p 2 0,.p 4 0],_,[],Lr 5,[53]⟩ :: ⟨[.p 5 0],_,[],Lr 6,[54]⟩ :: ⟨[.p 6 0,.o 1],_,[],Lr 7,[55]⟩ :: ⟨[.p 6 0,.o 2],_,[],Lr 7,[56]⟩ :: ⟨[.p 6 0,.p 8 0],_,[],[0,1,2,3,4,5,6,8],[57]⟩ :: ⟨[.p 6 0,.p 7 0,.p 9 0],_,[],Lr 10,[58]⟩ :: ⟨[.p 6 0,.p 10 0],_,[],Lr 11,[59]⟩ :: ⟨[.p 6 0,.o 3],_,[],Lr 7,[60]⟩ :: ⟨[.p 6 0,.p 11 0,.p 12 0],_,[],Lr 13,[61]⟩ :: ⟨[.p 6 0,.p 13 0],_,[],Lr 14,[62]⟩ :: ⟨[.p 6 0,.p 14 0],_,[],Lr 15,[63]⟩ :: []) (F:=[.p 15 0]) (hst.pick [0,1,2,3] rfl) hb Zb
     (Qm rfl u_0<|o_p rfl (Zcf rfl rfl u_0 c_i)<|Qm rfl u_0<|o_g (Qg_t rfl (fun hG=>Z0 rfl rfl u_0))<|o_g (Qg_t rfl (fun hG=>Zbc rfl rfl (Opd.gd hG u_0) c_i))<|o_p rfl (Zbi rfl rfl u_0 (fun hz=>(Opd.gd hz u_1)))<|Qm rfl u_0<|o_g (Qg_t rfl (fun hG=>Z0 rfl rfl u_0))<|o_g (Qg_t rfl (fun hG=>Z0 rfl rfl u_0))<|o_g (Qg_t rfl (fun hG=>Ze6 rfl rfl (Opd.gd hG u_0) c_i rfl))<|o_g (Qg_t rfl (fun hG=>Zbp Tryd.underlying23 Zga rfl rfl (Opd.gd hG u_0) (Opd.gd hG u_1) (Zbs h13 hG)))<|o_g (Qg_t rfl (fun hG=>Zn Zd2 rfl rfl (Opd.gd hG u_0)))<|o_g (Qg_t rfl (fun hG=>Zn Zd2 rfl rfl u_0))<|o_g (Qg_t rfl (fun hG=>Zr Z70 (Zns _ _ (Zbs h15 hG)) rfl rfl (.cons (Opd.gd hG u_0) (.cons (Opd.gd hG u_1) .nil))))<|o_g (Qg_t rfl (fun hG=>Ze5 rfl rfl (Opd.gd hG u_0)))<|o_p rfl (Zbi rfl rfl u_0 (fun hz=>(Opd.gd hz u_1)))<|o_n) (fun a g hst hb=>?_)
    refine wp_cond_split (hst.bool 0 rfl) (fun hc16=>?_) (fun hc16=>?_)
    ·replace H0:=Zp hc16 H0
     refine r_s (L:=[]) (T:=[⟨[],_,[],[],[6]⟩]) (F:=[.p 0 0]) (hst.pick [] rfl) hb Zb
      (Qa rfl c_i<|o_n) (fun a g hst hb=>?_)
     refine wp_ret ?_
     refine Zj ?_
     obtain rfl:=Option.some.inj H0
     exact Zx rfl hst hb (Zf (s:=6)) (hst.at 0 rfl)
    ·replace H0:=Zq hc16 H0
     refine wp_skip ?_
     refine Zm ?_
     refine r_s (L:=[]) (T:=[⟨[],_,[],[],[6]⟩]) (F:=[.p 0 0]) (hst.pick [] rfl) hb Zb
      (Qa rfl c_i<|o_n) (fun a g hst hb=>?_)
     refine wp_ret ?_
     obtain rfl:=Option.some.inj H0
     exact Zx rfl hst hb (Zf (s:=6)) (hst.at 0 rfl)
theorem Zkf (a0:Za) {r:Int} (h:Zcw a0=some r):FnOk Tryd.prog 19 [(Zc.pd a0)] (pInt .i64 r):=by
 have H0:=h
 unfold Zcw at H0
 clear h
 refine Zbw (N:=96) Tryd.func19 rfl rfl (Qe rfl) rfl rfl (fun a g0 hst hb=>?_)
 refine r_s (T:=[⟨[.o 0],_,[],[],[1]⟩,⟨[],_,[],[],[2]⟩]) (F:=[.p 0 0]) hst hb Zb
  (Qb rfl u_0<|Qa rfl c_i<|o_n) (fun a g hst hb=>?_)
 refine wp_seq ?_
 refine r_s (T:=[⟨[.o 0],_,[],[],[6]⟩,⟨[.p 0 0],_,[],[0],[7]⟩,⟨[.p 1 0],_,[],[0,1],[8]⟩,⟨[.p 2 0],_,[],[0,1,2],[9]⟩,⟨[.p 3 0,.o 0],_,[],Lr 4,[10]⟩,⟨[.p 3 0,.p 4 0],_,[],Lr 5,[11]⟩,⟨[.p 3 0,.p 5 0],_,[],Lr 6,[12]⟩,⟨[.p 3 0,.p 6 0],_,[],Lr 7,[13]⟩]) (F:=[.o 0,.p 7 0]) hst hb Zb
  (Qf rfl Zdr u_0<|Ql rfl ty_3 u_0<|o_p rfl (Zb8 rfl rfl u_0 c_i)<|Qm rfl u_0<|o_g (Qg_f rfl (fun hG=>Zh Zdr rfl rfl u_0))<|o_g (Qg_f rfl (fun hG=>Zn ty_3 rfl rfl (Opd.gd hG u_0)))<|o_g (Qg_f rfl (fun hG=>Zcf rfl rfl (Opd.gd hG u_0) c_i))<|o_p rfl (Zbk rfl rfl u_0 (fun hz=>(Opd.gd (bNF hz) u_1)))<|o_n) (fun a g hst hb=>?_)
 refine wp_cond_split (hst.bool 1 rfl) (fun hc1=>?_) (fun hc1=>?_)
 ·replace H0:=Zp hc1 H0
  refine r_s (L:=[]) (T:=[⟨[],_,[],[],[2]⟩]) (F:=[.p 0 0]) (hst.pick [] rfl) hb Zb
   (Qa rfl c_i<|o_n) (fun a g hst hb=>?_)
  refine wp_ret ?_
  refine Zj ?_
  obtain rfl:=Option.some.inj H0
  exact Zx rfl hst hb (Zf (s:=2)) (hst.at 0 rfl)
 ·replace H0:=Zq hc1 H0
  refine wp_skip ?_
  refine Zm ?_
  refine wp_seq ?_
  obtain ⟨r2,h3,H0⟩:=Ze H0;obtain ⟨r4,h5,H0⟩:=Ze H0
  refine r_s (L:=[(1,_)]) (T:=[⟨[.o 0],_,[],[],[14]⟩,⟨[.o 0],_,[],[],[15]⟩,⟨[.p 1 0],_,[],[1],[16]⟩,⟨[.p 2 0],_,[],[1,2],[17]⟩,⟨[.p 0 0,.p 3 0],_,[],Lr 4,[18]⟩,⟨[.p 4 0],_,[],Lr 5,[19]⟩]) (F:=[.o 0,.p 5 0]) (hst.pick [0] rfl) hb Zb
   (Ql rfl Z8 u_0<|Qf rfl Zdr u_0<|Ql rfl ty_3 u_0<|o_p rfl (Zr Z6y (Zna _ h3) rfl rfl (.cons u_0 .nil))<|o_p rfl (Zr Z75 (Zom _ _ h5) rfl rfl (.cons u_0 (.cons u_1 .nil)))<|Qn rfl u_0<|o_n) (fun a g hst hb=>?_)
  refine wp_cond_split (hst.bool 1 rfl) (fun hc6=>?_) (fun hc6=>?_)
  ·replace H0:=Zp hc6 H0
   refine r_s (L:=[]) (T:=[⟨[],_,[],[],[2]⟩]) (F:=[.p 0 0]) (hst.pick [] rfl) hb Zb
    (Qa rfl c_i<|o_n) (fun a g hst hb=>?_)
   refine wp_ret ?_
   refine Zj ?_
   obtain rfl:=Option.some.inj H0
   exact Zx rfl hst hb (Zf (s:=2)) (hst.at 0 rfl)
  ·replace H0:=Zq hc6 H0
   refine wp_skip ?_
   refine Zm ?_
   refine wp_seq ?_
   refine r_s (L:=[(1,_)]) (T:=[⟨[.o 0],_,[],[],[20]⟩,⟨[.p 0 0],_,[],[0],[21]⟩,⟨[.p 1 0],_,[],[0,1],[22]⟩,⟨[.p 2 0],_,[],[0,1,2],[23]⟩,⟨[.p 3 0,.o 0],_,[],Lr 4,[24]⟩,⟨[.p 3 0,.p 4 0],_,[],Lr 5,[25]⟩,⟨[.p 3 0,.p 5 0],_,[],Lr 6,[26]⟩,⟨[.p 3 0,.p 6 0],_,[],Lr 7,[27]⟩,⟨[.p 3 0,.p 7 0],_,[],Lr 8,[28]⟩]) (F:=[.o 0,.p 8 0]) (hst.pick [0] rfl) hb Zb
    (Qf rfl Zdr u_0<|Ql rfl ty_3 u_0<|o_p rfl (Zbc rfl rfl u_0 c_i)<|Qm rfl u_0<|o_g (Qg_t rfl (fun hG=>Zh Zia rfl rfl u_0))<|o_g (Qg_t rfl (fun hG=>Zn ty_9 rfl rfl (Opd.gd hG u_0)))<|o_g (Qg_t rfl (fun hG=>Zex Tryd.underlying9 rfl rfl (Opd.gd hG u_0)))<|o_g (Qg_t rfl (fun hG=>Zcf rfl rfl (Opd.gd hG u_0) c_i))<|o_p rfl (Zbi rfl rfl u_0 (fun hz=>(Opd.gd hz u_1)))<|o_n) (fun a g hst hb=>?_)
   refine wp_cond_split (hst.bool 1 rfl) (fun hc7=>?_) (fun hc7=>?_)
   ·replace H0:=Zp hc7 H0
    refine r_s (L:=[]) (T:=[⟨[],_,[],[],[2]⟩]) (F:=[.p 0 0]) (hst.pick [] rfl) hb Zb
     (Qa rfl c_i<|o_n) (fun a g hst hb=>?_)
    refine wp_ret ?_
    refine Zj ?_
    obtain rfl:=Option.some.inj H0
    exact Zx rfl hst hb (Zf (s:=2)) (hst.at 0 rfl)
   ·replace H0:=Zq hc7 H0
    refine wp_skip ?_
    refine Zm ?_
    refine r_s (L:=[(1,_)]) (T:=[⟨[],_,[],[],[3]⟩]) (F:=[.o 0,.p 0 0]) (hst.pick [0] rfl) hb Zb
     (Qa rfl c_i<|o_n) (fun a g hst hb=>?_)
    refine wp_seq ?_
    refine r_s (T:=⟨[.o 0],_,[],[],[29]⟩ :: ⟨[.p 0 0],_,[],[0],[30]⟩ :: ⟨[.p 1 0],_,[],[0,1],[31]⟩ :: ⟨[.p 2 0],_,[],[0,1,2],[32]⟩ :: ⟨[.p 3 0,.o 0],_,[],Lr 4,[33]⟩ :: ⟨[.p 3 0,.p 4 0],_,[],Lr 5,[34]⟩ :: ⟨[.p 3 0,.o 1],_,[],Lr 4,[35]⟩ :: ⟨[.p 3 0,.p 6 0],_,[],[0,1,2,3,6],[36]⟩ :: ⟨[.p 3 0,.p 5 0,.p 7 0],_,[],Lr 8,[37]⟩ :: ⟨[.p 3 0,.p 8 0],_,[],Lr 9,[38]⟩ :: ⟨[.p 9 0,.o 0],_,[],Lr 10,[39]⟩ :: ⟨[.p 9 0,.p 10 0],_,[],Lr 11,[40]⟩ :: ⟨[.p 9 0,.o 1],_,[],Lr 10,[41]⟩ :: ⟨[.p 9 0,.p 11 0,.p 12 0],_,[],Lr 13,[42]⟩ :: ⟨[.p 3 0,.p 9 0,.p 13 0],_,[],Lr 14,[43]⟩ :: ⟨[.p 3 0,.p 14 0],_,[],Lr 15,[44]⟩ :: ⟨[.p 15 0,.o 0],_,[],Lr 16,[45]⟩ :: ⟨[.p 15 0,.p 16 0],_,[],Lr 17,[46]⟩ :: ⟨[.p 15 0,.o 0],_,[],Lr 16,[47]⟩ :: ⟨[.p 15 0,.p 18 0],_,[],0 :: 1 :: 2 :: 3 :: 4 :: 5 :: 6 :: 7 :: 8 :: 9 :: 10 :: 11 :: 12 :: 13 :: 14 :: 15 :: 18 :: [],[48]⟩ :: ⟨[.p 15 0,.p 17 0,.p 19 0],_,[],Lr 20,[49]⟩ :: ⟨[.p 3 0,.p 15 0,.p 20 0],_,[],Lr 21,[50]⟩ :: ⟨[.p 3 0,.p 21 0],_,[],Lr 22,[51]⟩ :: ⟨[.p 22 0,.o 0],_,[],Lr 23,[52]⟩ :: ⟨[.p 22 0,.p 23 0],_,[],Lr 24,[53]⟩ :: ⟨[.p 22 0,.o 0],_,[],Lr 23,[54]⟩ :: ⟨[.p 22 0,.p 25 0],_,[],0 :: 1 :: 2 :: 3 :: 4 :: 5 :: 6 :: 7 :: 8 :: 9 :: 10 :: 11 :: 12 :: 13 :: 14 :: 15 :: 16 :: 17 :: 18 :: 19 :: 20 :: 21 :: 22 :: 25 :: [],[55]⟩ :: ⟨[.p 22 0,.p 24 0,.p 26 0],_,[],Lr 27,[56]⟩ :: ⟨[.p 3 0,.p 22 0,.p 27 0],_,[],Lr 28,[57]⟩ :: ⟨[.p 3 0,.p 28 0],_,[],Lr 29,[58]⟩ :: []) (F:=[.o 0,.p 29 0]) hst hb Zb
     (Qf rfl Zdr u_0<|Ql rfl ty_3 u_0<|o_p rfl (Zbc rfl rfl u_0 c_i)<|Qm rfl u_0<|o_g (Qg_t rfl (fun hG=>Zh Zg6 rfl rfl u_0))<|o_g (Qg_t rfl (fun hG=>Zn ty_2 rfl rfl (Opd.gd hG u_0)))<|o_g (Qg_t rfl (fun hG=>Z0 rfl rfl u_0))<|o_g (Qg_t rfl (fun hG=>Zu6 rfl rfl (Opd.gd hG u_0) rfl))<|o_g (Qg_t rfl (fun hG=>Zb8 rfl rfl (Opd.gd hG u_0) (Opd.gd hG u_1)))<|o_g (Qg_t rfl (fun hG=>Z0 rfl rfl (Opd.gd hG u_0)))<|o_g (Qg_fi rfl (fun hG=>Zh Zg8 rfl rfl u_0))<|o_g (Qg_fi rfl (fun hG=>Zn ty_2 rfl rfl (Opd.gd hG u_0)))<|o_g (Qg_fi rfl (fun hG=>Z0 rfl rfl u_0))<|o_g (Qg_fi rfl (fun hG=>Zcf rfl rfl (Opd.gd hG u_0) (Opd.gd hG u_1)))<|o_g (Qg_t rfl (fun hG=>Zbk rfl rfl (Opd.gd hG u_0) (fun hz=>(Opd.gd (bA hG (bNF hz)) u_1))))<|o_g (Qg_t rfl (fun hG=>Z0 rfl rfl (Opd.gd hG u_0)))<|o_g (Qg_fi rfl (fun hG=>Zh Zcl rfl rfl u_0))<|o_g (Qg_fi rfl (fun hG=>Zn ty_2 rfl rfl (Opd.gd hG u_0)))<|o_g (Qg_fi rfl (fun hG=>Zh Zg6 rfl rfl u_0))<|o_g (Qg_fi rfl (fun hG=>Zn ty_2 rfl rfl (Opd.gd hG u_0)))<|o_g (Qg_fi rfl (fun hG=>Zb8 rfl rfl (Opd.gd hG u_0) (Opd.gd hG u_1)))<|o_g (Qg_t rfl (fun hG=>Zbk rfl rfl (Opd.gd hG u_0) (fun hz=>(Opd.gd (bA hG (bNF hz)) u_1))))<|o_g (Qg_t rfl (fun hG=>Z0 rfl rfl (Opd.gd hG u_0)))<|o_g (Qg_fi rfl (fun hG=>Zh Zcl rfl rfl u_0))<|o_g (Qg_fi rfl (fun hG=>Zn ty_2 rfl rfl (Opd.gd hG u_0)))<|o_g (Qg_fi rfl (fun hG=>Zh Zg8 rfl rfl u_0))<|o_g (Qg_fi rfl (fun hG=>Zn ty_2 rfl rfl (Opd.gd hG u_0)))<|o_g (Qg_fi rfl (fun hG=>Zcf rfl rfl (Opd.gd hG u_0) (Opd.gd hG u_1)))<|o_g (Qg_t rfl (fun hG=>Zbk rfl rfl (Opd.gd hG u_0) (fun hz=>(Opd.gd (bA hG (bNF hz)) u_1))))<|o_p rfl (Zbi rfl rfl u_0 (fun hz=>(Opd.gd hz u_1)))<|o_n) (fun a g hst hb=>?_)
    refine wp_cond_split (hst.bool 1 rfl) (fun hc8=>?_) (fun hc8=>?_)
    ·replace H0:=Zp hc8 H0
     refine r_s (L:=[]) (T:=[⟨[],_,[],[],[2]⟩]) (F:=[.p 0 0]) (hst.pick [] rfl) hb Zb
      (Qa rfl c_i<|o_n) (fun a g hst hb=>?_)
     refine wp_ret ?_
     refine Zj ?_
     obtain rfl:=Option.some.inj H0
     exact Zx rfl hst hb (Zf (s:=2)) (hst.at 0 rfl)
    ·replace H0:=Zq hc8 H0
     refine wp_skip ?_
     refine Zm ?_
     refine wp_seq ?_
     obtain ⟨r9,h10,H0⟩:=Ze H0
     refine r_s (L:=[(1,_)]) (T:=[⟨[.o 0],_,[],[],[59]⟩,⟨[.p 0 0],_,[],[0],[60]⟩,⟨[.p 1 0],_,[],[0,1],[61]⟩,⟨[.p 2 0],_,[],[0,1,2],[62]⟩]) (F:=[.o 0,.p 3 0]) (hst.pick [0] rfl) hb Zb
      (Qf rfl Zfd u_0<|Ql rfl Zcv u_0<|o_p rfl (Zr Zyn (Zib _ h10) rfl rfl (.cons u_0 .nil))<|Qn rfl u_0<|o_n) (fun a g hst hb=>?_)
     refine wp_cond_split (hst.bool 1 rfl) (fun hc11=>?_) (fun hc11=>?_)
     ·replace H0:=Zp hc11 H0
      refine r_s (L:=[]) (T:=[⟨[],_,[],[],[2]⟩]) (F:=[.p 0 0]) (hst.pick [] rfl) hb Zb
       (Qa rfl c_i<|o_n) (fun a g hst hb=>?_)
      refine wp_ret ?_
      refine Zj ?_
      obtain rfl:=Option.some.inj H0
      exact Zx rfl hst hb (Zf (s:=2)) (hst.at 0 rfl)
     ·replace H0:=Zq hc11 H0
      refine wp_skip ?_
      refine Zm ?_
      refine wp_seq ?_
      refine r_s (L:=[(1,_)]) (T:=[⟨[.o 0],_,[],[],[63]⟩,⟨[.p 0 0],_,[],[0],[64]⟩,⟨[.p 1 0],_,[],[0,1],[65]⟩]) (F:=[.o 0,.p 2 0]) (hst.pick [0] rfl) hb Zb
       (Qf rfl Zdr u_0<|Ql rfl ty_3 u_0<|o_p rfl (Zb8 rfl rfl u_0 c_i)<|o_n) (fun a g hst hb=>?_)
      refine wp_cond_split (hst.bool 1 rfl) (fun hc12=>?_) (fun hc12=>?_)
      ·replace H0:=Zp hc12 H0
       refine r_s (L:=[]) (T:=[⟨[],_,[],[],[2]⟩]) (F:=[.p 0 0]) (hst.pick [] rfl) hb Zb
        (Qa rfl c_i<|o_n) (fun a g hst hb=>?_)
       refine wp_ret ?_
       refine Zj ?_
       obtain rfl:=Option.some.inj H0
       exact Zx rfl hst hb (Zf (s:=2)) (hst.at 0 rfl)
      ·replace H0:=Zq hc12 H0
       refine wp_skip ?_
       refine Zm ?_
       refine wp_seq ?_
       refine r_s (L:=[(1,_)]) (T:=[⟨[.o 0],_,[],[],[66]⟩,⟨[.p 0 0],_,[],[0],[67]⟩,⟨[.p 1 0],_,[],[0,1],[68]⟩,⟨[.p 2 0],_,[],[0,1,2],[69]⟩,⟨[.p 3 0,.o 0],_,[],Lr 4,[70]⟩,⟨[.p 3 0,.p 4 0],_,[],Lr 5,[71]⟩,⟨[.p 3 0,.p 5 0],_,[],Lr 6,[72]⟩,⟨[.p 3 0,.p 6 0],_,[],Lr 7,[73]⟩]) (F:=[.o 0,.p 7 0]) (hst.pick [0] rfl) hb Zb
        (Qf rfl Zfb u_0<|Ql rfl ty_3 u_0<|o_p rfl (Zb8 rfl rfl u_0 c_i)<|Qm rfl u_0<|o_g (Qg_f rfl (fun hG=>Zh Zfb rfl rfl u_0))<|o_g (Qg_f rfl (fun hG=>Zn ty_3 rfl rfl (Opd.gd hG u_0)))<|o_g (Qg_f rfl (fun hG=>Zcf rfl rfl (Opd.gd hG u_0) c_i))<|o_p rfl (Zbk rfl rfl u_0 (fun hz=>(Opd.gd (bNF hz) u_1)))<|o_n) (fun a g hst hb=>?_)
       refine wp_cond_split (hst.bool 1 rfl) (fun hc13=>?_) (fun hc13=>?_)
       ·replace H0:=Zp hc13 H0
        refine r_s (L:=[]) (T:=[⟨[],_,[],[],[2]⟩]) (F:=[.p 0 0]) (hst.pick [] rfl) hb Zb
         (Qa rfl c_i<|o_n) (fun a g hst hb=>?_)
        refine wp_ret ?_
        refine Zj ?_
        obtain rfl:=Option.some.inj H0
        exact Zx rfl hst hb (Zf (s:=2)) (hst.at 0 rfl)
       ·replace H0:=Zq hc13 H0
        refine wp_skip ?_
        refine Zm ?_
        refine wp_seq ?_
        refine r_s (L:=[(1,_)]) (T:=[⟨[.o 0],_,[],[],[74]⟩,⟨[.p 0 0],_,[],[0],[75]⟩,⟨[.p 1 0],_,[],[0,1],[76]⟩,⟨[.o 0],_,[],[],[77]⟩,⟨[.p 3 0],_,[],[3],[78]⟩,⟨[.p 2 0,.p 4 0],_,[],Lr 5,[79]⟩]) (F:=[.o 0,.p 5 0]) (hst.pick [0] rfl) hb Zb
         (Qf rfl Zb5 u_0<|Ql rfl Zc4 u_0<|o_p rfl (Zcc Tryd.underlying23 rfl rfl u_0)<|Qf rfl Zfb u_0<|Ql rfl ty_3 u_0<|o_p rfl (Zcf rfl rfl u_0 u_1)<|o_n) (fun a g hst hb=>?_)
        refine wp_cond_split (hst.bool 1 rfl) (fun hc14=>?_) (fun hc14=>?_)
        ·replace H0:=Zp hc14 H0
         refine r_s (L:=[]) (T:=[⟨[],_,[],[],[2]⟩]) (F:=[.p 0 0]) (hst.pick [] rfl) hb Zb
          (Qa rfl c_i<|o_n) (fun a g hst hb=>?_)
         refine wp_ret ?_
         refine Zj ?_
         obtain rfl:=Option.some.inj H0
         exact Zx rfl hst hb (Zf (s:=2)) (hst.at 0 rfl)
        ·replace H0:=Zq hc14 H0
         refine wp_skip ?_
         refine Zm ?_
         refine wp_seq ?_
         refine r_s (L:=[(1,_)]) (T:=[⟨[],_,[],[],[4]⟩]) (F:=[.o 0,.p 0 0]) (hst.pick [0] rfl) hb Zb
          (Qa rfl c_i<|o_n) (fun a g hst hb=>?_)
         obtain ⟨z20,hz1,H0⟩:=Ze H0
         refine Zce (fun a w=>∃ (g:G),w=g.w ∧ St 96 [] a g ∧ Base g0 g ∧ (.inr ())=z20) ?_ ?_
         ·rintro a w ⟨g,rfl,hst,hb,rfl⟩
          refine Zm ?_
          refine r_s (T:=[⟨[],_,[],[],[2]⟩]) (F:=[.p 0 0]) hst hb Zb
           (Qa rfl c_i<|o_n) (fun a g hst hb=>?_)
          refine wp_ret ?_
          obtain rfl:=Option.some.inj H0
          exact Zx rfl hst hb (Zf (s:=2)) (hst.at 0 rfl)
         ·refine wp_block ?_
          refine wp_loop_ghost (fun n a w=>∃ (x15:Int) (g:G),w=g.w ∧ St 96 [(1,(Zc.ptr a0)),(4,(pInt .i64 x15))] a g ∧ Base g0 g ∧ Zdc a0 n x15=some z20) (Int.toNat ((a0.List.length:Int) - (0:Int)) + 1) ⟨(0:Int),g,rfl,(hst.pick [0,1] rfl),hb,hz1⟩ (fun n a w hI=>?_)
          obtain ⟨x15,g,rfl,hst,hb,H1⟩:=hI
          cases n with
          | zero=>exact absurd H1 (by simp [Zdc])
          | succ n =>
           rw [Zdc] at H1
           refine wp_seq ?_
           refine r_s (T:=[⟨[.o 1],_,[],[],[80]⟩,⟨[.o 0],_,[],[],[81]⟩,⟨[.p 1 0],_,[],[1],[82]⟩,⟨[.p 2 0],_,[],[1,2],[83]⟩,⟨[.p 0 0,.p 3 0],_,[],Lr 4,[84]⟩]) (F:=[.o 0,.o 1,.p 4 0]) hst hb Zb
            (Qm rfl u_0<|Qf rfl Zb5 u_0<|Ql rfl Zc4 u_0<|o_p rfl (Zcc Tryd.underlying23 rfl rfl u_0)<|o_p rfl (Zb8 rfl rfl u_0 u_1)<|o_n) (fun a g hst hb=>?_)
           refine wp_cond_split (hst.bool 2 rfl) (fun hc16=>?_) (fun hc16=>?_)
           ·replace H1:=Zp hc16 H1
            refine wp_skip ?_
            refine Zm ?_
            refine wp_seq ?_
            refine wp_block ?_
            obtain ⟨r17,h18,H1⟩:=Ze H1
            refine r_s (L:=[(1,_),(4,_)]) (T:=[⟨[.o 0],_,[],[],[87]⟩,⟨[.p 0 0],_,[],[0],[88]⟩,⟨[.o 0],_,[],[],[89]⟩,⟨[.p 2 0],_,[],[2],[90]⟩,⟨[.o 1],_,[],[],[91]⟩,⟨[.p 1 0,.p 3 0,.p 4 0],_,[],Lr 5,[92]⟩,⟨[.p 5 0],_,[],Lr 6,[5]⟩]) (F:=[.o 0,.o 1,.p 6 0]) (hst.pick [0,1] rfl) hb Zb
             (Qf rfl Zdr u_0<|Ql rfl ty_3 u_0<|Qf rfl Zb5 u_0<|Ql rfl Zc4 u_0<|Qm rfl u_0<|o_p rfl (Zr Z7k (Zol _ _ _ h18) rfl rfl (.cons u_0 (.cons u_1 (.cons u_2 .nil))))<|Qa rfl u_0<|o_n) (fun a g hst hb=>?_)
            refine r_s (T:=[⟨[.o 2],_,[],[],[93]⟩,⟨[.p 0 0],_,[],[0],[94]⟩]) (F:=[.o 0,.o 1,.o 2,.p 1 0]) hst hb Zb
             (Qm rfl u_0<|o_p rfl (Zdu rfl rfl u_0 c_i)<|o_n) (fun a g hst hb=>?_)
            refine wp_cond_split (hst.bool 3 rfl) (fun hc19=>?_) (fun hc19=>?_)
            ·replace H1:=Zp hc19 H1
             refine r_s (L:=[(5,_)]) (T:=[⟨[.o 0],_,[],[],[95]⟩,⟨[.p 0 0],_,[],[0],[2]⟩]) (F:=[.p 1 0]) (hst.pick [2] rfl) hb Zb
              (Qm rfl u_0<|Qa rfl u_0<|o_n) (fun a g hst hb=>?_)
             refine wp_ret ?_
             refine Zw ?_
             refine Zj ?_
             refine Zj ?_
             refine Zw ?_
             refine Zj ?_
             refine Zj ?_
             obtain rfl:=Option.some.inj H1
             obtain rfl:=Option.some.inj H0
             exact Zx rfl hst hb (Zf (s:=2)) (hst.at 0 rfl)
            ·replace H1:=Zq hc19 H1
             refine wp_skip ?_
             refine Zbj ?_
             refine Zm ?_
             refine r_g (L:=[(1,_),(4,_)]) (T:=[⟨[.o 1],_,[],[],[85]⟩,⟨[.p 0 0],_,[],[0],[86]⟩,⟨[.p 1 0],_,[],[0,1],[4]⟩]) (F:=[.o 0,.p 2 0]) (hst.pick [0,1] rfl) hb Zb
              (Qm rfl u_0<|o_p rfl (Zcs rfl rfl u_0 c_i rfl)<|Qa rfl u_0<|o_n) (fun a g hst hb=>?_)
             exact ⟨n,Nat.lt_succ_self _,(IntKind.i64.wrap (x15 + (1:Int))),g,rfl,(hst.pick [0,1] rfl),hb,H1⟩
           ·replace H1:=Zq hc16 H1
            refine wp_exit ?_
            refine Zca ?_
            refine Zca ?_
            refine Zc5 ?_
            exact ⟨g,rfl,(hst.pick [] rfl),hb,Option.some.inj H1⟩
theorem Znw (a0:Za) (a1:Int) (a2:List Zv) {r:(List Zv) × Bool} (h:Zfc a0 a1 a2=some r):FnOk Tryd.prog 20 [(Zc.pd a0),(pInt .i64 a1),(Zba.sl.pd a2)] (pTup [(Zba.sl.pd r.1),(Z7 r.2)]):=by
 have H0:=h
 unfold Zfc at H0
 clear h
 refine Zbw (N:=45) Tryd.func20 rfl rfl (Qe rfl) rfl rfl (fun a g0 hst hb=>?_)
 refine r_s (T:=[⟨[.o 0],_,[],[],[3]⟩,⟨[],[(6,(Zba.sl.pd ([]:List Zv)))],[],[],[6]⟩,⟨[],_,[],[1],[7]⟩]) (F:=[.o 1,.o 2,.p 0 0]) hst hb Zb
  (Qb rfl u_0<|o_p rfl (Zdy rfl rfl (Opd.c (fun g=>Zji g)))<|Qa rfl c_b<|o_n) (fun a g hst hb=>?_)
 obtain ⟨r1,h2,H0⟩:=Ze H0
 refine r_s (T:=[⟨[.o 2],_,[],[],[14]⟩,⟨[.o 0],_,[],[],[15]⟩,⟨[.p 0 0,.p 1 0],[(16,(pTup [(Zjl Zcq 16 r1.1),(pInt .i64 r1.2)]))],[17,1000017],[0,1],[16]⟩,⟨[.p 2 0],_,[],[0,1,2],[13]⟩,⟨[.p 3 0],_,[],Lr 4,[17]⟩,⟨[.p 3 0],_,[],Lr 4,[18]⟩,⟨[.p 4 0],_,[],Lr 5,[8]⟩,⟨[.p 5 0],_,[],Lr 7,[9]⟩]) (F:=[.o 1,.p 6 0,.p 7 0]) hst hb Zb
  (Ql rfl Z8 u_0<|Qm rfl u_0<|o_p rfl (Zqi Z2t (Zot _ _ h2) rfl rfl rfl (.cons u_0 (.cons u_1 .nil)))<|Qm rfl u_0<|o_p rfl (Zbg rfl rfl u_0 rfl)<|o_p rfl (Zbg rfl rfl u_0 rfl)<|Qa rfl u_0<|Qa rfl u_0<|o_n) (fun a g hst hb=>?_)
 refine wp_seq ?_
 refine r_s (T:=[⟨[.o 2],_,[],[],[19]⟩,⟨[.p 0 0],_,[],[0],[20]⟩,⟨[.p 1 0],_,[],[0,1],[21]⟩,⟨[.p 2 0,.o 1],_,[],[0,1,2],[22]⟩,⟨[.p 2 0,.p 3 0],_,[],Lr 4,[23]⟩,⟨[.p 2 0,.p 4 0],_,[],Lr 5,[24]⟩]) (F:=[.o 0,.o 1,.p 5 0]) hst hb Zb
  (Qm rfl u_0<|o_p rfl (Zdu rfl rfl u_0 c_i)<|Qm rfl u_0<|o_g (Qg_f rfl (fun hG=>Z0 rfl rfl u_0))<|o_g (Qg_f rfl (fun hG=>Zzk Tryd.underlying54 rfl rfl (Opd.gd hG u_0) Zvd))<|o_p rfl (Zbk rfl rfl u_0 (fun hz=>(Opd.gd (bNF hz) u_1)))<|o_n) (fun a g hst hb=>?_)
 refine wp_cond_split (hst.bool 2 rfl) (fun hc3=>?_) (fun hc3=>?_)
 ·replace H0:=Zp hc3 H0
  refine r_s (L:=[]) (T:=[⟨[],[(6,(Zba.sl.pd ([]:List Zv)))],[],[],[6]⟩,⟨[],_,[],[0],[7]⟩]) (F:=[.p 0 0,.p 1 0]) (hst.pick [] rfl) hb Zb
   (o_p rfl (Zdy rfl rfl (Opd.c (fun g=>Zji g)))<|Qa rfl c_b<|o_n) (fun a g hst hb=>?_)
  refine wp_ret ?_
  refine Zj ?_
  obtain rfl:=Option.some.inj H0
  exact Zhe rfl hst hb (Zf (s:=6)) (Zf (s:=7)) (Zfi (hst.at 0 rfl) (hst.at 1 rfl))
 ·replace H0:=Zq hc3 H0
  refine wp_skip ?_
  refine Zm ?_
  refine r_s (L:=[(2,_),(8,_)]) (T:=[⟨[],[(10,(pRow Zba 39 10 ([]:List Zv)))],[],[],[10]⟩]) (F:=[.o 0,.o 1,.p 0 0]) (hst.pick [0,1] rfl) hb Zb
   (o_p rfl (Zdy rfl rfl (Opd.c (fun g=>Z1s 10 g)))<|o_n) (fun a g hst hb=>?_)
  refine wp_seq ?_
  refine r_s (T:=[⟨[.o 0],_,[],[],[25]⟩,⟨[.p 0 0],_,[],[0],[26]⟩,⟨[],_,[],[],[27]⟩]) (F:=[.o 1,.o 2,.p 0 0,.p 1 0,.p 2 0]) hst hb Zb
   (Qm rfl u_0<|o_p rfl (Zcc Tryd.underlying40 rfl rfl u_0)<|Qm rfl c_i<|o_n) (fun a g hst hb=>?_)
  obtain ⟨z19,hz1,H0⟩:=Ze H0
  refine Zce (fun a w=>∃ (y18:List Zv) (g:G),w=g.w ∧ St 45 [(10,(pRow Zba 39 10 y18))] a g ∧ Base g0 g ∧ y18=z19) ?_ ?_
  ·rintro a w ⟨y18,g,rfl,hst,hb,rfl⟩
   refine Zm ?_
   refine r_s (T:=[⟨[.o 0],_,[],[],[44]⟩,⟨[.p 0 0],_,[],[0],[6]⟩,⟨[],_,[],[0,1],[7]⟩]) (F:=[.p 1 0,.p 2 0]) hst hb Zb
    (Qm rfl u_0<|Qa rfl u_0<|Qa rfl c_b<|o_n) (fun a g hst hb=>?_)
   refine wp_ret ?_
   obtain rfl:=Option.some.inj H0
   exact Zhe rfl hst hb (Zf (s:=6)) (Zf (s:=7)) (Zfi (Ztg (hst.at 0 rfl)) (hst.at 1 rfl))
  ·refine wp_block ?_
   refine wp_loop_ghost (fun n a w=>∃ (x4:Option Zu) (x5:List Zv) (x6:Int) (g:G),w=g.w ∧ St 45 [(8,(Zjl Zcq 16 x4)),(10,(pRow Zba 39 10 x5)),(25,(Zba.sl.pd a2)),(26,(pInt .i64 (a2.length:Int))),(27,(pInt .i64 x6))] a g ∧ Base g0 g ∧ Zcm a2 n x4 x5 x6=some z19) (Int.toNat ((a2.length:Int) - (0:Int)) + 1) ⟨r1.1,([]:List Zv),(0:Int),g,rfl,(hst.pick [0,1,2,3,4] rfl),hb,hz1⟩ (fun n a w hI=>?_)
   obtain ⟨x4,x5,x6,g,rfl,hst,hb,H1⟩:=hI
   cases n with
   | zero=>exact absurd H1 (by simp [Zcm])
   | succ n =>
    rw [Zcm] at H1
    refine r_s (T:=[⟨[.o 4,.o 3],_,[],[],[28]⟩]) (F:=[.o 0,.o 1,.o 2,.o 3,.o 4,.p 0 0]) hst hb Zb
     (o_p rfl (Zb8 rfl rfl u_0 u_1)<|o_n) (fun a g hst hb=>?_)
    refine wp_seq ?_
    refine wp_cond_split (hst.bool 5 rfl) (fun hc7=>?_) (fun hc7=>?_)
    ·replace H1:=Zp hc7 H1
     refine wp_skip ?_
     refine Zm ?_
     refine wp_seq ?_
     refine Zce (fun a w=>∃ (j16:Option Zu) (j17:List Zv) (g:G),w=g.w ∧ St 45 [(8,(Zjl Zcq 16 j16)),(10,(pRow Zba 39 10 j17)),(25,(Zba.sl.pd a2)),(26,(pInt .i64 (a2.length:Int))),(27,(pInt .i64 x6))] a g ∧ Base g0 g ∧ Ze2 x6 (Zcm a2 n) j16 j17=some z19) ?_ ?_
     ·rintro a w ⟨j16,j17,g,rfl,hst,hb,H1⟩
      unfold Ze2 at H1
      refine Zm ?_
      refine r_g (T:=[⟨[.o 4],_,[],[],[43]⟩,⟨[.p 0 0],_,[],[0],[27]⟩]) (F:=[.o 0,.o 1,.o 2,.o 3,.p 1 0]) hst hb Zb
       (o_p rfl (Zcs rfl rfl u_0 c_i rfl)<|Qm rfl u_0<|o_n) (fun a g hst hb=>?_)
      exact ⟨n,Nat.lt_succ_self _,j16,j17,(IntKind.i64.wrap (x6 + (1:Int))),g,rfl,(hst.pick [0,1,2,3,4] rfl),hb,H1⟩
     ·refine wp_block ?_
      obtain ⟨e8,h9,H1⟩:=Ze H1
      refine r_s (L:=[(8,_),(10,_),(25,_),(26,_),(27,_)]) (T:=[⟨[.o 2,.o 4],_,[],[],[29]⟩,⟨[.p 0 0],_,[],[0],[30]⟩,⟨[],[(12,(pBox Zba 12 (default:Zv)))],[13],[],[12]⟩,⟨[.p 1 0,.p 2 0],_,[13],[0,1,2],[12]⟩]) (F:=[.o 0,.o 1,.p 3 0,.o 2,.o 3,.o 4]) (hst.pick [0,1,2,3,4] rfl) hb Zb
       (o_p rfl (Zbp Tryd.underlying40 Zx7 rfl rfl u_0 u_1 h9)<|Ql rfl Zny u_0<|o_p rfl (Zbt (zs:=[.int .i64 0,.int .i64 0,.string ByteArray.empty,.int .i64 0,.float .f64 0,.string ByteArray.empty,.int .i64 0,.int .i64 0,.int .i64 0,.int .i64 0,.float .f64 0,.int .i64 0,.string ByteArray.empty,.slice none 0 0,.bool false]) (by kernel_rfl) (fun g=>Zit g) rfl rfl)<|o_p rfl (Zcg Zny rfl rfl u_1 u_0)<|o_n) (fun a g hst hb=>?_)
      obtain ⟨n10,h11,H1⟩:=Ze H1;obtain ⟨r12,h13,H1⟩:=Ze H1
      refine r_s (T:=[⟨[.o 0],_,[],[],[31]⟩,⟨[.o 2],_,[],[],[32]⟩,⟨[.p 1 0],_,[],[1],[33]⟩,⟨[.o 2],_,[],[],[34]⟩,⟨[.p 3 0],_,[],[3],[35]⟩,⟨[.p 4 0],_,[],[3,4],[36]⟩,⟨[.p 0 0,.p 2 0,.p 5 0,.o 0],[(37,(pInt .i64 r12.2)),(8,(Zjl Zcq 16 (some r12.1)))],[17,1000017],Lr 6,[8,31,37]⟩,⟨[.p 6 0],_,[],Lr 7,[38]⟩]) (F:=[.p 6 1,.o 1,.o 2,.o 3,.o 4,.o 5,.p 7 0]) hst hb Zb
       (Qm rfl u_0<|Qf rfl Zmz u_0<|Ql rfl ty_3 u_0<|Qf rfl Zpi u_0<|Ql rfl Zg3 u_0<|o_p rfl (Zi5 Zyk (xs:=[.tmp 35]) (.cons u_0 .nil) (by decide) rfl rfl)<|o_p rfl (OB.objO (Zly Zxq (Zif _ _ _ h13) rfl rfl rfl (by decide) (Opd.imp u_3 (fun _ _ h=>Zfz h11 h)) (Opd.imp u_0 (fun _ _ h=>Zfz h11 h)) (.cons u_1 (.cons u_2 .nil))))<|o_p rfl (Zbc rfl rfl u_0 c_i)<|o_n) (fun a g hst hb=>?_)
      refine wp_cond_split (hst.bool 6 rfl) (fun hc14=>?_) (fun hc14=>?_)
      ·replace H1:=Zp hc14 H1
       obtain ⟨h15,H1⟩:=Zje H1
       refine r_g (L:=[(8,_),(10,_),(12,_),(25,_),(26,_),(27,_)]) (T:=[⟨[.o 1],_,[],[],[39]⟩,⟨[.o 2],_,[],[],[40]⟩,⟨[.p 1 0],_,[],[1],[41]⟩,⟨[.p 0 0,.p 2 0],_,[11],[0,1,2],[10,39,42]⟩,⟨[.p 3 0],_,[],Lr 4,[10]⟩]) (F:=[.o 0,.p 4 0,.o 3,.o 4,.o 5]) (hst.pick [0,1,2,3,4,5] rfl) hb Zb
        (Qm rfl u_0<|Ql rfl Zny u_0<|o_p rfl (Zi5 Z25 (xs:=[.tmp 40]) (.cons u_0 .nil) (by decide) rfl rfl)<|o_p rfl (Zs4 Z25 rfl rfl u_0 u_1 h15)<|Qa rfl u_0<|o_n) (fun a g hst hb=>?_)
       refine Zbj ?_
       exact ⟨(some r12.1),(x5 ++ ([e8]:List Zv)),g,rfl,(hst.pick [0,1,2,3,4] rfl),hb,H1⟩
      ·replace H1:=Zq hc14 H1
       refine wp_skip ?_
       refine Zbj ?_
       exact ⟨(some r12.1),x5,g,rfl,(hst.pick [0,1,3,4,5] rfl),hb,H1⟩
    ·replace H1:=Zq hc7 H1
     refine wp_exit ?_
     refine Zca ?_
     refine Zca ?_
     refine Zc5 ?_
     exact ⟨x5,g,rfl,(hst.pick [1] rfl),hb,Option.some.inj H1⟩
theorem Zlg (a0:Int) {r:Int} (h:Zc8 a0=some r):FnOk Tryd.prog 35 [(pInt .i64 a0)] (pInt .i64 r):=by
 have H0:=h
 unfold Zc8 at H0
 clear h
 refine Zbw (N:=15) Tryd.func35 rfl rfl (Qe rfl) rfl rfl (fun a g0 hst hb=>?_)
 refine r_s (T:=[⟨[],_,[],[],[2]⟩]) (F:=[.o 0]) hst hb Zb
  (Qa rfl c_i<|o_n) (fun a g hst hb=>?_)
 refine r_s (T:=[⟨[],_,[],[],[4]⟩,⟨[.p 0 0],_,[],[0],[3]⟩]) (F:=[.o 0,.p 1 0]) hst hb Zb
  (o_p rfl (Zi5 Z53 (xs:=[.const (.int .i64 0),.const (.int .i64 0),.const (.int .i64 0),.const (.int .i64 0),.const (.int .i64 0),.const (.int .i64 1),.const (.int .i64 1),.const (.int .i64 2),.const (.int .i64 3),.const (.int .i64 3),.const (.int .i64 4),.const (.int .i64 4),.const (.int .i64 4),.const (.int .i64 5),.const (.int .i64 6),.const (.int .i64 7),.const (.int .i64 7),.const (.int .i64 7),.const (.int .i64 8),.const (.int .i64 8),.const (.int .i64 8),.const (.int .i64 9)]) (.cons c_i (.cons c_i (.cons c_i (.cons c_i (.cons c_i (.cons c_i (.cons c_i (.cons c_i (.cons c_i (.cons c_i (.cons c_i (.cons c_i (.cons c_i (.cons c_i (.cons c_i (.cons c_i (.cons c_i (.cons c_i (.cons c_i (.cons c_i (.cons c_i (.cons c_i .nil)))))))))))))))))))))) (by decide) rfl rfl)<|Qa rfl u_0<|o_n) (fun a g hst hb=>?_)
 refine wp_seq ?_
 refine r_s (T:=[⟨[.o 0],_,[],[],[5]⟩,⟨[.p 0 0],_,[],[0],[6]⟩,⟨[.p 1 0],_,[],[0,1],[7]⟩,⟨[.p 2 0,.o 0],_,[],[0,1,2],[8]⟩,⟨[.p 2 0,.p 3 0],_,[],Lr 4,[9]⟩,⟨[.p 2 0,.p 4 0],_,[],Lr 5,[10]⟩]) (F:=[.o 0,.o 1,.p 5 0]) hst hb Zb
  (Qm rfl u_0<|o_p rfl (Zb8 rfl rfl u_0 c_i)<|Qm rfl u_0<|o_g (Qg_f rfl (fun hG=>Z0 rfl rfl u_0))<|o_g (Qg_f rfl (fun hG=>Zcf rfl rfl (Opd.gd hG u_0) c_i))<|o_p rfl (Zbk rfl rfl u_0 (fun hz=>(Opd.gd (bNF hz) u_1)))<|o_n) (fun a g hst hb=>?_)
 refine wp_cond_split (hst.bool 2 rfl) (fun hc1=>?_) (fun hc1=>?_)
 ·replace H0:=Zp hc1 H0
  refine r_s (L:=[]) (T:=[⟨[],_,[],[],[2]⟩]) (F:=[.p 0 0]) (hst.pick [] rfl) hb Zb
   (Qa rfl c_i<|o_n) (fun a g hst hb=>?_)
  refine wp_ret ?_
  refine Zj ?_
  obtain rfl:=Option.some.inj H0
  exact Zx rfl hst hb (Zf (s:=2)) (hst.at 0 rfl)
 ·replace H0:=Zq hc1 H0
  refine wp_skip ?_
  refine Zm ?_
  obtain ⟨e2,h3,H0⟩:=Ze H0
  refine r_s (L:=[(0,_),(3,_)]) (T:=[⟨[.o 1],_,[],[],[11]⟩,⟨[.o 0],_,[],[],[12]⟩,⟨[.p 0 0,.p 1 0],_,[],[0,1],[13]⟩,⟨[.p 2 0],_,[],[0,1,2],[14]⟩,⟨[.p 3 0],_,[],Lr 4,[2]⟩]) (F:=[.p 4 0]) (hst.pick [0,1] rfl) hb Zb
   (Qm rfl u_0<|Qm rfl u_0<|o_p rfl (Zbp Tryd.underlying110 sz_3 rfl rfl u_0 u_1 h3)<|Ql rfl ty_3 u_0<|Qa rfl u_0<|o_n) (fun a g hst hb=>?_)
  refine wp_ret ?_
  obtain rfl:=Option.some.inj H0
  exact Zx rfl hst hb (Zf (s:=2)) (hst.at 0 rfl)
theorem Zne (a0:Int) {r:ByteArray} (h:Zi4 a0=some r):FnOk Tryd.prog 75 [(pInt .i64 a0)] (pStr r):=by
 have H0:=h
 unfold Zi4 at H0
 clear h
 refine Zbw (N:=15) Tryd.func75 rfl rfl (Qe rfl) rfl rfl (fun a g0 hst hb=>?_)
 refine r_s (T:=[⟨[],_,[],[],[2]⟩]) (F:=[.o 0]) hst hb Zb
  (Qa rfl c_s<|o_n) (fun a g hst hb=>?_)
 refine r_s (T:=[⟨[],_,[],[],[4]⟩,⟨[.p 0 0],_,[],[0],[3]⟩]) (F:=[.o 0,.p 1 0]) hst hb Zb
  (o_p rfl (Zi5 Zzu (xs:=[.const (.string ⟨#[]⟩),.const (.string ⟨#[109]⟩),.const (.string ⟨#[]⟩),.const (.string ⟨#[]⟩),.const (.string ⟨#[]⟩),.const (.string ⟨#[115]⟩),.const (.string ⟨#[115]⟩),.const (.string ⟨#[110]⟩),.const (.string ⟨#[110]⟩),.const (.string ⟨#[110]⟩),.const (.string ⟨#[110]⟩),.const (.string ⟨#[110]⟩),.const (.string ⟨#[110]⟩),.const (.string ⟨#[120]⟩),.const (.string ⟨#[120]⟩),.const (.string ⟨#[120]⟩),.const (.string ⟨#[120]⟩),.const (.string ⟨#[120]⟩),.const (.string ⟨#[115]⟩),.const (.string ⟨#[115]⟩),.const (.string ⟨#[115]⟩),.const (.string ⟨#[120,115]⟩)]) (.cons c_s (.cons c_s (.cons c_s (.cons c_s (.cons c_s (.cons c_s (.cons c_s (.cons c_s (.cons c_s (.cons c_s (.cons c_s (.cons c_s (.cons c_s (.cons c_s (.cons c_s (.cons c_s (.cons c_s (.cons c_s (.cons c_s (.cons c_s (.cons c_s (.cons c_s .nil)))))))))))))))))))))) (by decide) rfl rfl)<|Qa rfl u_0<|o_n) (fun a g hst hb=>?_)
 refine wp_seq ?_
 refine r_s (T:=[⟨[.o 0],_,[],[],[5]⟩,⟨[.p 0 0],_,[],[0],[6]⟩,⟨[.p 1 0],_,[],[0,1],[7]⟩,⟨[.p 2 0,.o 0],_,[],[0,1,2],[8]⟩,⟨[.p 2 0,.p 3 0],_,[],Lr 4,[9]⟩,⟨[.p 2 0,.p 4 0],_,[],Lr 5,[10]⟩]) (F:=[.o 0,.o 1,.p 5 0]) hst hb Zb
  (Qm rfl u_0<|o_p rfl (Zb8 rfl rfl u_0 c_i)<|Qm rfl u_0<|o_g (Qg_f rfl (fun hG=>Z0 rfl rfl u_0))<|o_g (Qg_f rfl (fun hG=>Zcf rfl rfl (Opd.gd hG u_0) c_i))<|o_p rfl (Zbk rfl rfl u_0 (fun hz=>(Opd.gd (bNF hz) u_1)))<|o_n) (fun a g hst hb=>?_)
 refine wp_cond_split (hst.bool 2 rfl) (fun hc1=>?_) (fun hc1=>?_)
 ·replace H0:=Zp hc1 H0
  refine r_s (L:=[]) (T:=[⟨[],_,[],[],[2]⟩]) (F:=[.p 0 0]) (hst.pick [] rfl) hb Zb
   (Qa rfl c_s<|o_n) (fun a g hst hb=>?_)
  refine wp_ret ?_
  refine Zj ?_
  obtain rfl:=Option.some.inj H0
  exact Zx rfl hst hb (Zf (s:=2)) (hst.at 0 rfl)
 ·replace H0:=Zq hc1 H0
  refine wp_skip ?_
  refine Zm ?_
  obtain ⟨e2,h3,H0⟩:=Ze H0
  refine r_s (L:=[(0,_),(3,_)]) (T:=[⟨[.o 1],_,[],[],[11]⟩,⟨[.o 0],_,[],[],[12]⟩,⟨[.p 0 0,.p 1 0],_,[],[0,1],[13]⟩,⟨[.p 2 0],_,[],[0,1,2],[14]⟩,⟨[.p 3 0],_,[],Lr 4,[2]⟩]) (F:=[.p 4 0]) (hst.pick [0,1] rfl) hb Zb
   (Qm rfl u_0<|Qm rfl u_0<|o_p rfl (Zbp Tryd.underlying122 sz_9 rfl rfl u_0 u_1 h3)<|Ql rfl ty_9 u_0<|Qa rfl u_0<|o_n) (fun a g hst hb=>?_)
  refine wp_ret ?_
  obtain rfl:=Option.some.inj H0
  exact Zx rfl hst hb (Zf (s:=2)) (hst.at 0 rfl)
theorem Zi7 (a0:Int) (a1:Int) {r:Bool} (h:Zdb a0 a1=some r):FnOk Tryd.prog 48 [(pInt .i64 a0),(pInt .u8 a1)] (Z7 r):=by
 have H0:=h
 unfold Zdb at H0
 clear h
 refine Zbw (N:=20) Tryd.func48 rfl rfl (Qe rfl) rfl rfl (fun a g0 hst hb=>?_)
 refine r_s (T:=[⟨[],_,[],[],[4]⟩]) (F:=[.o 0,.o 1]) hst hb Zb
  (Qa rfl c_b<|o_n) (fun a g hst hb=>?_)
 obtain ⟨r1,h2,H0⟩:=Ze H0
 refine r_s (T:=[⟨[.o 0],_,[],[],[7]⟩,⟨[.p 0 0],_,[],[0],[8]⟩,⟨[.p 1 0],_,[],[0,1],[5]⟩]) (F:=[.o 1,.p 2 0]) hst hb Zb
  (Qm rfl u_0<|o_p rfl (Zr Z7s (Zne _ h2) rfl rfl (.cons u_0 .nil))<|Qa rfl u_0<|o_n) (fun a g hst hb=>?_)
 refine wp_seq ?_
 refine r_s (T:=[⟨[],_,[],[],[6]⟩]) (F:=[.o 0,.o 1,.p 0 0]) hst hb Zb
  (Qa rfl c_i<|o_n) (fun a g hst hb=>?_)
 obtain ⟨z8,hz1,H0⟩:=Ze H0
 refine Zce (fun a w=>∃ (g:G),w=g.w ∧ St 20 [] a g ∧ Base g0 g ∧ (.inr ())=z8) ?_ ?_
 ·rintro a w ⟨g,rfl,hst,hb,rfl⟩
  refine Zm ?_
  refine r_s (T:=[⟨[],_,[],[],[4]⟩]) (F:=[.p 0 0]) hst hb Zb
   (Qa rfl c_b<|o_n) (fun a g hst hb=>?_)
  refine wp_ret ?_
  obtain rfl:=Option.some.inj H0
  exact Zx rfl hst hb (Zf (s:=4)) (hst.at 0 rfl)
 ·refine wp_block ?_
  refine wp_loop_ghost (fun n a w=>∃ (x3:Int) (g:G),w=g.w ∧ St 20 [(1,(pInt .u8 a1)),(5,(pStr r1)),(6,(pInt .i64 x3))] a g ∧ Base g0 g ∧ Zf3 a1 r1 n x3=some z8) (Int.toNat ((r1.size:Int) - (0:Int)) + 1) ⟨(0:Int),g,rfl,(hst.pick [0,1,2] rfl),hb,hz1⟩ (fun n a w hI=>?_)
  obtain ⟨x3,g,rfl,hst,hb,H1⟩:=hI
  cases n with
  | zero=>exact absurd H1 (by simp [Zf3])
  | succ n =>
   rw [Zf3] at H1
   refine wp_seq ?_
   refine r_s (T:=[⟨[.o 2],_,[],[],[9]⟩,⟨[.o 1],_,[],[],[10]⟩,⟨[.p 1 0],_,[],[1],[11]⟩,⟨[.p 0 0,.p 2 0],_,[],[0,1,2],[12]⟩]) (F:=[.o 0,.o 1,.o 2,.p 3 0]) hst hb Zb
    (Qm rfl u_0<|Qm rfl u_0<|o_p rfl (Zex Tryd.underlying9 rfl rfl u_0)<|o_p rfl (Zb8 rfl rfl u_0 u_1)<|o_n) (fun a g hst hb=>?_)
   refine wp_cond_split (hst.bool 3 rfl) (fun hc4=>?_) (fun hc4=>?_)
   ·replace H1:=Zp hc4 H1
    refine wp_skip ?_
    refine Zm ?_
    refine wp_seq ?_
    refine wp_block ?_
    obtain ⟨b5,h6,H1⟩:=Ze H1
    refine r_s (L:=[(1,_),(5,_),(6,_)]) (T:=[⟨[.o 1],_,[],[],[15]⟩,⟨[.o 2],_,[],[],[16]⟩,⟨[.p 0 0,.p 1 0],_,[],[0,1],[17]⟩,⟨[.o 0],_,[],[],[18]⟩,⟨[.p 2 0,.p 3 0],_,[],Lr 4,[19]⟩]) (F:=[.o 0,.o 1,.o 2,.p 4 0]) (hst.pick [0,1,2] rfl) hb Zb
     (Qm rfl u_0<|Qm rfl u_0<|o_p rfl (Zkz Tryd.underlying9 rfl rfl u_0 u_1 h6)<|Qm rfl u_0<|o_p rfl (Zbc rfl rfl u_0 u_1)<|o_n) (fun a g hst hb=>?_)
    refine wp_cond_split (hst.bool 3 rfl) (fun hc7=>?_) (fun hc7=>?_)
    ·replace H1:=Zp hc7 H1
     refine r_s (L:=[]) (T:=[⟨[],_,[],[],[4]⟩]) (F:=[.p 0 0]) (hst.pick [] rfl) hb Zb
      (Qa rfl c_b<|o_n) (fun a g hst hb=>?_)
     refine wp_ret ?_
     refine Zw ?_
     refine Zj ?_
     refine Zj ?_
     refine Zw ?_
     refine Zj ?_
     refine Zj ?_
     obtain rfl:=Option.some.inj H1
     obtain rfl:=Option.some.inj H0
     exact Zx rfl hst hb (Zf (s:=4)) (hst.at 0 rfl)
    ·replace H1:=Zq hc7 H1
     refine wp_skip ?_
     refine Zbj ?_
     refine Zm ?_
     refine r_g (L:=[(1,_),(5,_),(6,_)]) (T:=[⟨[.o 2],_,[],[],[13]⟩,⟨[.p 0 0],_,[],[0],[14]⟩,⟨[.p 1 0],_,[],[0,1],[6]⟩]) (F:=[.o 0,.o 1,.p 2 0]) (hst.pick [0,1,2] rfl) hb Zb
      (Qm rfl u_0<|o_p rfl (Zcs rfl rfl u_0 c_i rfl)<|Qa rfl u_0<|o_n) (fun a g hst hb=>?_)
     exact ⟨n,Nat.lt_succ_self _,(IntKind.i64.wrap (x3 + (1:Int))),g,rfl,(hst.pick [0,1,2] rfl),hb,H1⟩
   ·replace H1:=Zq hc4 H1
    refine wp_exit ?_
    refine Zca ?_
    refine Zca ?_
    refine Zc5 ?_
    exact ⟨g,rfl,(hst.pick [] rfl),hb,Option.some.inj H1⟩
theorem Zoa (a0:Zg) {r:Int} (h:Zc6 a0=some r):FnOk Tryd.prog 22 [(Z1.pd a0)] (pInt .i64 r):=by
 have H0:=h
 unfold Zc6 at H0
 clear h
 refine Zbw (N:=113) Tryd.func22 rfl rfl (Qe rfl) rfl rfl (fun a g0 hst hb=>?_)
 refine r_s (T:=[⟨[.o 0],_,[],[],[1]⟩,⟨[],_,[],[],[2]⟩]) (F:=[.p 0 0]) hst hb Zb
  (Qb rfl u_0<|Qa rfl c_i<|o_n) (fun a g hst hb=>?_)
 refine wp_seq ?_
 refine r_s (T:=[⟨[.o 0],_,[],[],[3]⟩,⟨[.p 0 0],_,[],[0],[4]⟩,⟨[.p 1 0],_,[],[0,1],[5]⟩,⟨[.p 2 0],_,[],[0,1,2],[6]⟩,⟨[.p 3 0,.o 0],_,[],Lr 4,[7]⟩,⟨[.p 3 0,.p 4 0],_,[],Lr 5,[8]⟩,⟨[.p 3 0,.p 5 0],_,[],Lr 6,[9]⟩,⟨[.p 3 0,.p 6 0],_,[],Lr 7,[10]⟩]) (F:=[.o 0,.p 7 0]) hst hb Zb
  (Qf rfl Zcp u_0<|Ql rfl ty_3 u_0<|o_p rfl (Zb8 rfl rfl u_0 c_i)<|Qm rfl u_0<|o_g (Qg_f rfl (fun hG=>Zh Zcp rfl rfl u_0))<|o_g (Qg_f rfl (fun hG=>Zn ty_3 rfl rfl (Opd.gd hG u_0)))<|o_g (Qg_f rfl (fun hG=>Zcf rfl rfl (Opd.gd hG u_0) c_i))<|o_p rfl (Zbk rfl rfl u_0 (fun hz=>(Opd.gd (bNF hz) u_1)))<|o_n) (fun a g hst hb=>?_)
 refine wp_cond_split (hst.bool 1 rfl) (fun hc1=>?_) (fun hc1=>?_)
 ·replace H0:=Zp hc1 H0
  refine r_s (L:=[]) (T:=[⟨[],_,[],[],[2]⟩]) (F:=[.p 0 0]) (hst.pick [] rfl) hb Zb
   (Qa rfl c_i<|o_n) (fun a g hst hb=>?_)
  refine wp_ret ?_
  refine Zj ?_
  obtain rfl:=Option.some.inj H0
  exact Zx rfl hst hb (Zf (s:=2)) (hst.at 0 rfl)
 ·replace H0:=Zq hc1 H0
  refine wp_skip ?_
  refine Zm ?_
  refine wp_seq ?_
  refine r_s (L:=[(1,_)]) (T:=[⟨[.o 0],_,[],[],[11]⟩,⟨[.p 0 0],_,[],[0],[12]⟩,⟨[.p 1 0],_,[],[0,1],[13]⟩,⟨[.p 2 0],_,[],[0,1,2],[14]⟩,⟨[.p 3 0],_,[],Lr 4,[15]⟩,⟨[.p 4 0,.o 0],_,[],Lr 5,[16]⟩,⟨[.p 4 0,.p 5 0],_,[],Lr 6,[17]⟩,⟨[.p 4 0,.p 6 0],_,[],Lr 7,[18]⟩,⟨[.p 4 0,.p 7 0],_,[],Lr 8,[19]⟩,⟨[.p 4 0,.p 8 0],_,[],Lr 9,[20]⟩]) (F:=[.o 0,.p 9 0]) (hst.pick [0] rfl) hb Zb
   (Qf rfl Zm2 u_0<|Ql rfl ty_9 u_0<|o_p rfl (Zex Tryd.underlying9 rfl rfl u_0)<|o_p rfl (Zb8 rfl rfl u_0 c_i)<|Qm rfl u_0<|o_g (Qg_f rfl (fun hG=>Zh Zm2 rfl rfl u_0))<|o_g (Qg_f rfl (fun hG=>Zn ty_9 rfl rfl (Opd.gd hG u_0)))<|o_g (Qg_f rfl (fun hG=>Zex Tryd.underlying9 rfl rfl (Opd.gd hG u_0)))<|o_g (Qg_f rfl (fun hG=>Zcf rfl rfl (Opd.gd hG u_0) c_i))<|o_p rfl (Zbk rfl rfl u_0 (fun hz=>(Opd.gd (bNF hz) u_1)))<|o_n) (fun a g hst hb=>?_)
  refine wp_cond_split (hst.bool 1 rfl) (fun hc2=>?_) (fun hc2=>?_)
  ·replace H0:=Zp hc2 H0
   refine r_s (L:=[]) (T:=[⟨[],_,[],[],[2]⟩]) (F:=[.p 0 0]) (hst.pick [] rfl) hb Zb
    (Qa rfl c_i<|o_n) (fun a g hst hb=>?_)
   refine wp_ret ?_
   refine Zj ?_
   obtain rfl:=Option.some.inj H0
   exact Zx rfl hst hb (Zf (s:=2)) (hst.at 0 rfl)
  ·replace H0:=Zq hc2 H0
   refine wp_skip ?_
   refine Zm ?_
   refine wp_seq ?_
   obtain ⟨r3,h4,H0⟩:=Ze H0;obtain ⟨r5,h6,H0⟩:=Ze H0;obtain ⟨r7,h8,H0⟩:=Ze H0;obtain ⟨r9,h10,H0⟩:=Ze H0
   refine r_s (L:=[(1,_)]) (T:=⟨[.o 0],_,[],[],[21]⟩ :: ⟨[.p 0 0],_,[],[0],[22]⟩ :: ⟨[.p 1 0],_,[],[0,1],[23]⟩ :: ⟨[.p 2 0],_,[],[0,1,2],[24]⟩ :: ⟨[.p 3 0],_,[],Lr 4,[25]⟩ :: ⟨[.p 4 0,.o 0],_,[],Lr 5,[26]⟩ :: ⟨[.p 4 0,.p 5 0],_,[],Lr 6,[27]⟩ :: ⟨[.p 4 0,.p 6 0],_,[],Lr 7,[28]⟩ :: ⟨[.p 4 0,.p 7 0],_,[],Lr 8,[29]⟩ :: ⟨[.p 8 0],_,[],Lr 9,[30]⟩ :: ⟨[.p 9 0,.o 0],_,[],Lr 10,[31]⟩ :: ⟨[.p 9 0,.p 10 0],_,[],Lr 11,[32]⟩ :: ⟨[.p 9 0,.p 11 0],_,[],Lr 12,[33]⟩ :: ⟨[.p 9 0,.p 12 0],_,[],Lr 13,[34]⟩ :: ⟨[.p 9 0,.p 13 0],_,[],Lr 14,[35]⟩ :: ⟨[.p 14 0,.o 0],_,[],Lr 15,[36]⟩ :: ⟨[.p 14 0,.p 15 0],_,[],Lr 16,[37]⟩ :: ⟨[.p 14 0,.p 16 0],_,[],Lr 17,[38]⟩ :: ⟨[.p 14 0,.p 17 0],_,[],Lr 18,[39]⟩ :: ⟨[.p 9 0,.p 14 0,.p 18 0],_,[],Lr 19,[40]⟩ :: ⟨[.p 9 0,.p 19 0],_,[],Lr 20,[41]⟩ :: ⟨[.p 20 0],_,[],Lr 21,[42]⟩ :: ⟨[.p 21 0,.o 0],_,[],Lr 22,[43]⟩ :: ⟨[.p 21 0,.p 22 0],_,[],Lr 23,[44]⟩ :: ⟨[.p 21 0,.p 23 0],_,[],Lr 24,[45]⟩ :: ⟨[.p 21 0,.p 24 0],_,[],Lr 25,[46]⟩ :: ⟨[.p 21 0,.p 25 0],_,[],Lr 26,[47]⟩ :: ⟨[.p 26 0,.o 0],_,[],Lr 27,[48]⟩ :: ⟨[.p 26 0,.p 27 0],_,[],Lr 28,[49]⟩ :: ⟨[.p 26 0,.p 28 0],_,[],Lr 29,[50]⟩ :: ⟨[.p 21 0,.p 26 0,.p 29 0],_,[],Lr 30,[51]⟩ :: ⟨[.p 21 0,.p 30 0],_,[],Lr 31,[52]⟩ :: []) (F:=[.o 0,.p 31 0]) (hst.pick [0] rfl) hb Zb
    (Qf rfl Zcp u_0<|Ql rfl ty_3 u_0<|o_p rfl (Zr Zx0 (Zi7 _ _ h4) rfl rfl (.cons u_0 (.cons c_i .nil)))<|Qn rfl u_0<|Qm rfl u_0<|o_g (Qg_t rfl (fun hG=>Zh Zdf rfl rfl u_0))<|o_g (Qg_t rfl (fun hG=>Zn ty_2 rfl rfl (Opd.gd hG u_0)))<|o_g (Qg_t rfl (fun hG=>Zdu rfl rfl (Opd.gd hG u_0) c_i))<|o_p rfl (Zbi rfl rfl u_0 (fun hz=>(Opd.gd hz u_1)))<|Qm rfl u_0<|o_g (Qg_f rfl (fun hG=>Zh Zcp rfl rfl u_0))<|o_g (Qg_f rfl (fun hG=>Zn ty_3 rfl rfl (Opd.gd hG u_0)))<|o_g (Qg_f rfl (fun hG=>Zr Zx0 (Zi7 _ _ (Zbs h6 hG)) rfl rfl (.cons (Opd.gd hG u_0) (.cons c_i .nil))))<|o_g (Qg_f rfl (fun hG=>Ze5 rfl rfl (Opd.gd hG u_0)))<|o_g (Qg_f rfl (fun hG=>Z0 rfl rfl (Opd.gd hG u_0)))<|o_g (Qg_ti rfl (fun hG=>Zh Zk0 rfl rfl u_0))<|o_g (Qg_ti rfl (fun hG=>Zn Zcv rfl rfl (Opd.gd hG u_0)))<|o_g (Qg_ti rfl (fun hG=>Zr Zq9 (Zfj _ _ (Zbs h8 hG)) rfl rfl (.cons (Opd.gd hG u_0) (.cons c_f .nil))))<|o_g (Qg_ti rfl (fun hG=>Ze5 rfl rfl (Opd.gd hG u_0)))<|o_g (Qg_f rfl (fun hG=>Zbi rfl rfl (Opd.gd hG u_0) (fun hz=>(Opd.gd (bA hG hz) u_1))))<|o_p rfl (Zbk rfl rfl u_0 (fun hz=>(Opd.gd (bNF hz) u_1)))<|Qm rfl u_0<|o_g (Qg_f rfl (fun hG=>Zh Zcp rfl rfl u_0))<|o_g (Qg_f rfl (fun hG=>Zn ty_3 rfl rfl (Opd.gd hG u_0)))<|o_g (Qg_f rfl (fun hG=>Zr Zx0 (Zi7 _ _ (Zbs h10 hG)) rfl rfl (.cons (Opd.gd hG u_0) (.cons c_i .nil))))<|o_g (Qg_f rfl (fun hG=>Ze5 rfl rfl (Opd.gd hG u_0)))<|o_g (Qg_f rfl (fun hG=>Z0 rfl rfl (Opd.gd hG u_0)))<|o_g (Qg_ti rfl (fun hG=>Zh Zf7 rfl rfl u_0))<|o_g (Qg_ti rfl (fun hG=>Zn ty_9 rfl rfl (Opd.gd hG u_0)))<|o_g (Qg_ti rfl (fun hG=>Zrw rfl rfl (Opd.gd hG u_0) c_s))<|o_g (Qg_f rfl (fun hG=>Zbi rfl rfl (Opd.gd hG u_0) (fun hz=>(Opd.gd (bA hG hz) u_1))))<|o_p rfl (Zbk rfl rfl u_0 (fun hz=>(Opd.gd (bNF hz) u_1)))<|o_n) (fun a g hst hb=>?_)
   refine wp_cond_split (hst.bool 1 rfl) (fun hc11=>?_) (fun hc11=>?_)
   ·replace H0:=Zp hc11 H0
    refine r_s (L:=[]) (T:=[⟨[],_,[],[],[2]⟩]) (F:=[.p 0 0]) (hst.pick [] rfl) hb Zb
     (Qa rfl c_i<|o_n) (fun a g hst hb=>?_)
    refine wp_ret ?_
    refine Zj ?_
    obtain rfl:=Option.some.inj H0
    exact Zx rfl hst hb (Zf (s:=2)) (hst.at 0 rfl)
   ·replace H0:=Zq hc11 H0
    refine wp_skip ?_
    refine Zm ?_
    refine wp_seq ?_
    obtain ⟨r12,h13,H0⟩:=Ze H0
    refine r_s (L:=[(1,_)]) (T:=[⟨[.o 0],_,[],[],[53]⟩,⟨[.p 0 0],_,[],[0],[54]⟩,⟨[.p 1 0],_,[],[0,1],[55]⟩,⟨[.p 2 0],_,[],[0,1,2],[56]⟩,⟨[.p 3 0,.o 0],_,[],Lr 4,[57]⟩,⟨[.p 3 0,.p 4 0],_,[],Lr 5,[58]⟩,⟨[.p 3 0],_,[],Lr 4,[59]⟩,⟨[.p 3 0,.p 5 0,.p 6 0],_,[],Lr 7,[60]⟩,⟨[.p 3 0,.p 7 0],_,[],Lr 8,[61]⟩,⟨[.p 3 0,.p 8 0],_,[],Lr 9,[62]⟩]) (F:=[.o 0,.p 9 0]) (hst.pick [0] rfl) hb Zb
     (Qf rfl Zcp u_0<|Ql rfl ty_3 u_0<|o_p rfl (Zdu rfl rfl u_0 c_i)<|Qm rfl u_0<|o_g (Qg_t rfl (fun hG=>Zh Zlr rfl rfl u_0))<|o_g (Qg_t rfl (fun hG=>Zn Z8 rfl rfl (Opd.gd hG u_0)))<|o_g (Qg_t rfl (fun hG=>Zm9 rfl rfl ))<|o_g (Qg_t rfl (fun hG=>Zr Z2b (Zkn _ _ (Zbs h13 hG)) rfl rfl (.cons (Opd.gd hG u_0) (.cons (Opd.gd hG u_1) .nil))))<|o_g (Qg_t rfl (fun hG=>Ze5 rfl rfl (Opd.gd hG u_0)))<|o_p rfl (Zbi rfl rfl u_0 (fun hz=>(Opd.gd hz u_1)))<|o_n) (fun a g hst hb=>?_)
    refine wp_cond_split (hst.bool 1 rfl) (fun hc14=>?_) (fun hc14=>?_)
    ·replace H0:=Zp hc14 H0
     refine r_s (L:=[]) (T:=[⟨[],_,[],[],[2]⟩]) (F:=[.p 0 0]) (hst.pick [] rfl) hb Zb
      (Qa rfl c_i<|o_n) (fun a g hst hb=>?_)
     refine wp_ret ?_
     refine Zj ?_
     obtain rfl:=Option.some.inj H0
     exact Zx rfl hst hb (Zf (s:=2)) (hst.at 0 rfl)
    ·replace H0:=Zq hc14 H0
     refine wp_skip ?_
     refine Zm ?_
     refine wp_seq ?_
     obtain ⟨r15,h16,H0⟩:=Ze H0;obtain ⟨r17,h18,H0⟩:=Ze H0
     refine r_s (L:=[(1,_)]) (T:=⟨[.o 0],_,[],[],[63]⟩ :: ⟨[.p 0 0],_,[],[0],[64]⟩ :: ⟨[.p 1 0],_,[],[0,1],[65]⟩ :: ⟨[.p 2 0],_,[],[0,1,2],[66]⟩ :: ⟨[.p 3 0],_,[],Lr 4,[67]⟩ :: ⟨[.p 4 0,.o 0],_,[],Lr 5,[68]⟩ :: ⟨[.p 4 0,.p 5 0],_,[],Lr 6,[69]⟩ :: ⟨[.p 4 0,.p 6 0],_,[],Lr 7,[70]⟩ :: ⟨[.p 4 0,.p 7 0],_,[],Lr 8,[71]⟩ :: ⟨[.p 4 0,.p 8 0],_,[],Lr 9,[72]⟩ :: ⟨[.p 9 0],_,[],Lr 10,[73]⟩ :: ⟨[.p 10 0,.o 0],_,[],Lr 11,[74]⟩ :: ⟨[.p 10 0,.p 11 0],_,[],Lr 12,[75]⟩ :: ⟨[.p 10 0,.p 12 0],_,[],Lr 13,[76]⟩ :: ⟨[.p 10 0,.p 13 0],_,[],Lr 14,[77]⟩ :: ⟨[.p 10 0,.p 14 0],_,[],Lr 15,[78]⟩ :: ⟨[.p 15 0,.o 0],_,[],Lr 16,[79]⟩ :: ⟨[.p 15 0,.p 16 0],_,[],Lr 17,[80]⟩ :: ⟨[.p 15 0,.p 17 0],_,[],Lr 18,[81]⟩ :: ⟨[.p 15 0,.p 18 0],_,[],Lr 19,[82]⟩ :: ⟨[.p 10 0,.p 15 0,.p 19 0],_,[],Lr 20,[83]⟩ :: ⟨[.p 10 0,.p 20 0],_,[],Lr 21,[84]⟩ :: []) (F:=[.o 0,.p 21 0]) (hst.pick [0] rfl) hb Zb
      (Qf rfl Zcp u_0<|Ql rfl ty_3 u_0<|o_p rfl (Zr Z21 (Zlg _ h16) rfl rfl (.cons u_0 .nil))<|o_p rfl (Zbc rfl rfl u_0 c_i)<|Qm rfl u_0<|o_g (Qg_t rfl (fun hG=>Zh Zf7 rfl rfl u_0))<|o_g (Qg_t rfl (fun hG=>Zn ty_9 rfl rfl (Opd.gd hG u_0)))<|o_g (Qg_t rfl (fun hG=>Zex Tryd.underlying9 rfl rfl (Opd.gd hG u_0)))<|o_g (Qg_t rfl (fun hG=>Zcf rfl rfl (Opd.gd hG u_0) c_i))<|o_p rfl (Zbi rfl rfl u_0 (fun hz=>(Opd.gd hz u_1)))<|Qm rfl u_0<|o_g (Qg_f rfl (fun hG=>Zh Zcp rfl rfl u_0))<|o_g (Qg_f rfl (fun hG=>Zn ty_3 rfl rfl (Opd.gd hG u_0)))<|o_g (Qg_f rfl (fun hG=>Zr Z21 (Zlg _ (Zbs h18 hG)) rfl rfl (.cons (Opd.gd hG u_0) .nil)))<|o_g (Qg_f rfl (fun hG=>Zdu rfl rfl (Opd.gd hG u_0) c_i))<|o_g (Qg_f rfl (fun hG=>Z0 rfl rfl (Opd.gd hG u_0)))<|o_g (Qg_ti rfl (fun hG=>Zh Zf7 rfl rfl u_0))<|o_g (Qg_ti rfl (fun hG=>Zn ty_9 rfl rfl (Opd.gd hG u_0)))<|o_g (Qg_ti rfl (fun hG=>Zex Tryd.underlying9 rfl rfl (Opd.gd hG u_0)))<|o_g (Qg_ti rfl (fun hG=>Zcf rfl rfl (Opd.gd hG u_0) c_i))<|o_g (Qg_f rfl (fun hG=>Zbi rfl rfl (Opd.gd hG u_0) (fun hz=>(Opd.gd (bA hG hz) u_1))))<|o_p rfl (Zbk rfl rfl u_0 (fun hz=>(Opd.gd (bNF hz) u_1)))<|o_n) (fun a g hst hb=>?_)
     refine wp_cond_split (hst.bool 1 rfl) (fun hc19=>?_) (fun hc19=>?_)
     ·replace H0:=Zp hc19 H0
      refine r_s (L:=[]) (T:=[⟨[],_,[],[],[2]⟩]) (F:=[.p 0 0]) (hst.pick [] rfl) hb Zb
       (Qa rfl c_i<|o_n) (fun a g hst hb=>?_)
      refine wp_ret ?_
      refine Zj ?_
      obtain rfl:=Option.some.inj H0
      exact Zx rfl hst hb (Zf (s:=2)) (hst.at 0 rfl)
     ·replace H0:=Zq hc19 H0
      refine wp_skip ?_
      refine Zm ?_
      refine wp_seq ?_
      refine r_s (L:=[(1,_)]) (T:=⟨[.o 0],_,[],[],[85]⟩ :: ⟨[.p 0 0],_,[],[0],[86]⟩ :: ⟨[.p 1 0],_,[],[0,1],[87]⟩ :: ⟨[.p 2 0],_,[],[0,1,2],[88]⟩ :: ⟨[.p 3 0,.o 0],_,[],Lr 4,[89]⟩ :: ⟨[.p 3 0,.p 4 0],_,[],Lr 5,[90]⟩ :: ⟨[.p 3 0,.p 5 0],_,[],Lr 6,[91]⟩ :: ⟨[.p 3 0,.p 6 0],_,[],Lr 7,[92]⟩ :: ⟨[.p 7 0],_,[],Lr 8,[93]⟩ :: ⟨[.p 8 0,.o 0],_,[],Lr 9,[94]⟩ :: ⟨[.p 8 0,.p 9 0],_,[],Lr 10,[95]⟩ :: ⟨[.p 8 0,.p 10 0],_,[],Lr 11,[96]⟩ :: ⟨[.p 8 0,.p 11 0],_,[],Lr 12,[97]⟩ :: ⟨[.p 12 0,.o 0],_,[],Lr 13,[98]⟩ :: ⟨[.p 12 0,.p 13 0],_,[],Lr 14,[99]⟩ :: ⟨[.p 12 0,.p 14 0],_,[],Lr 15,[100]⟩ :: ⟨[.p 8 0,.p 12 0,.p 15 0],_,[],Lr 16,[101]⟩ :: ⟨[.p 8 0,.p 16 0],_,[],Lr 17,[102]⟩ :: []) (F:=[.o 0,.p 17 0]) (hst.pick [0] rfl) hb Zb
       (Qf rfl Zcp u_0<|Ql rfl ty_3 u_0<|o_p rfl (Zbc rfl rfl u_0 c_i)<|Qm rfl u_0<|o_g (Qg_f rfl (fun hG=>Zh Zcp rfl rfl u_0))<|o_g (Qg_f rfl (fun hG=>Zn ty_3 rfl rfl (Opd.gd hG u_0)))<|o_g (Qg_f rfl (fun hG=>Zbc rfl rfl (Opd.gd hG u_0) c_i))<|o_p rfl (Zbk rfl rfl u_0 (fun hz=>(Opd.gd (bNF hz) u_1)))<|Qm rfl u_0<|o_g (Qg_t rfl (fun hG=>Zh Zdf rfl rfl u_0))<|o_g (Qg_t rfl (fun hG=>Zn ty_2 rfl rfl (Opd.gd hG u_0)))<|o_g (Qg_t rfl (fun hG=>Zb8 rfl rfl (Opd.gd hG u_0) c_i))<|o_g (Qg_t rfl (fun hG=>Z0 rfl rfl (Opd.gd hG u_0)))<|o_g (Qg_fi rfl (fun hG=>Zh Zdf rfl rfl u_0))<|o_g (Qg_fi rfl (fun hG=>Zn ty_2 rfl rfl (Opd.gd hG u_0)))<|o_g (Qg_fi rfl (fun hG=>Zcf rfl rfl (Opd.gd hG u_0) c_i))<|o_g (Qg_t rfl (fun hG=>Zbk rfl rfl (Opd.gd hG u_0) (fun hz=>(Opd.gd (bA hG (bNF hz)) u_1))))<|o_p rfl (Zbi rfl rfl u_0 (fun hz=>(Opd.gd hz u_1)))<|o_n) (fun a g hst hb=>?_)
      refine wp_cond_split (hst.bool 1 rfl) (fun hc20=>?_) (fun hc20=>?_)
      ·replace H0:=Zp hc20 H0
       refine r_s (L:=[]) (T:=[⟨[],_,[],[],[2]⟩]) (F:=[.p 0 0]) (hst.pick [] rfl) hb Zb
        (Qa rfl c_i<|o_n) (fun a g hst hb=>?_)
       refine wp_ret ?_
       refine Zj ?_
       obtain rfl:=Option.some.inj H0
       exact Zx rfl hst hb (Zf (s:=2)) (hst.at 0 rfl)
      ·replace H0:=Zq hc20 H0
       refine wp_skip ?_
       refine Zm ?_
       refine wp_seq ?_
       obtain ⟨r21,h22,H0⟩:=Ze H0
       refine r_s (L:=[(1,_)]) (T:=[⟨[.o 0],_,[],[],[103]⟩,⟨[.p 0 0],_,[],[0],[104]⟩,⟨[.p 1 0],_,[],[0,1],[105]⟩,⟨[.p 2 0],_,[],[0,1,2],[106]⟩]) (F:=[.o 0,.p 3 0]) (hst.pick [0] rfl) hb Zb
        (Qf rfl Zk0 u_0<|Ql rfl Zcv u_0<|o_p rfl (Zr Zyn (Zib _ h22) rfl rfl (.cons u_0 .nil))<|Qn rfl u_0<|o_n) (fun a g hst hb=>?_)
       refine wp_cond_split (hst.bool 1 rfl) (fun hc23=>?_) (fun hc23=>?_)
       ·replace H0:=Zp hc23 H0
        refine r_s (L:=[]) (T:=[⟨[],_,[],[],[2]⟩]) (F:=[.p 0 0]) (hst.pick [] rfl) hb Zb
         (Qa rfl c_i<|o_n) (fun a g hst hb=>?_)
        refine wp_ret ?_
        refine Zj ?_
        obtain rfl:=Option.some.inj H0
        exact Zx rfl hst hb (Zf (s:=2)) (hst.at 0 rfl)
       ·replace H0:=Zq hc23 H0
        refine wp_skip ?_
        refine Zm ?_
        refine wp_seq ?_
        refine r_s (L:=[(1,_)]) (T:=[⟨[.o 0],_,[],[],[107]⟩,⟨[.p 0 0],_,[],[0],[108]⟩,⟨[.p 1 0],_,[],[0,1],[109]⟩]) (F:=[.o 0,.p 2 0]) (hst.pick [0] rfl) hb Zb
         (Qf rfl Zcp u_0<|Ql rfl ty_3 u_0<|o_p rfl (Zbc rfl rfl u_0 c_i)<|o_n) (fun a g hst hb=>?_)
        refine wp_cond_split (hst.bool 1 rfl) (fun hc24=>?_) (fun hc24=>?_)
        ·replace H0:=Zp hc24 H0
         obtain ⟨r25,h26,H0⟩:=Ze H0
         refine r_s (L:=[(1,_)]) (T:=[⟨[.o 0],_,[],[],[110]⟩,⟨[.p 0 0],_,[],[0],[111]⟩,⟨[.p 1 0],_,[],[0,1],[112]⟩,⟨[.p 2 0],_,[],[0,1,2],[2]⟩]) (F:=[.p 3 0]) (hst.pick [0] rfl) hb Zb
          (Qf rfl Zlr u_0<|Ql rfl Z8 u_0<|o_p rfl (Zr Z1z (Zkf _ h26) rfl rfl (.cons u_0 .nil))<|Qa rfl u_0<|o_n) (fun a g hst hb=>?_)
         refine wp_ret ?_
         refine Zj ?_
         obtain rfl:=Option.some.inj H0
         exact Zx rfl hst hb (Zf (s:=2)) (hst.at 0 rfl)
        ·replace H0:=Zq hc24 H0
         refine wp_skip ?_
         refine Zm ?_
         refine r_s (L:=[]) (T:=[⟨[],_,[],[],[2]⟩]) (F:=[.p 0 0]) (hst.pick [] rfl) hb Zb
          (Qa rfl c_i<|o_n) (fun a g hst hb=>?_)
         refine wp_ret ?_
         obtain rfl:=Option.some.inj H0
         exact Zx rfl hst hb (Zf (s:=2)) (hst.at 0 rfl)
end Go.CL
namespace Go.CL
open Go Go.RowKit
section
variable {P:Program} {N:Nat} {o:Oper} {uses outs:Z4} {S:List Nat} {d:Nat} {q:Pd} {x y z:Operand} {α β γ:Type} {dk:Kd β} {t e j:Nat}
theorem Z5a {a:Act} {g0 g:G} {L:Z4} {i s:Nat} {xs:List β} (hi:L[i]?=some (s,pArr dk e j xs)) (hd:(L.eraseIdx i).all (fun x=>!(x.2.fp.contains (j + 1)))=true) (h:St N L a g) (hb:Base g0 g):∃ g',g'.w=g.w ∧ St N (L.set i (s,dk.sl.pd xs)) a g' ∧ Base g0 g':=by
 have h0:=h.h _ (List.mem_of_getElem? hi)
 have key:∀ g':G,Step [j + 1] g g' → (dk.sl.pd xs).p g' (Act.at a s) → g'.w=g.w → ∃ g',g'.w=g.w ∧ St N (L.set i (s,dk.sl.pd xs)) a g' ∧ Base g0 g':=fun g' hs hp hw=>by
   refine ⟨g',hw,⟨h.size,h.df,fun en he=>?_⟩,hb.step hs (by simp)⟩
   obtain ⟨k,hk⟩:=List.mem_iff_getElem?.1 he
   rw [List.getElem?_set] at hk
   split at hk
   · split at hk
     · obtain rfl:=Option.some.inj hk;exact hp
     · cases hk
   · rename_i hne
     have hm:en ∈ L.eraseIdx i:=List.mem_eraseIdx_iff_getElem?.2 ⟨k,fun e=>hne e.symm,hk⟩
     have:=List.all_eq_true.1 hd en hm
     refine en.2.st hs (fun j' hj' hS=>?_) (h.h en (List.mem_of_getElem? hk))
     rw [List.mem_singleton.1 hS] at hj'
     simp [hj'] at this
 rcases h0 with ⟨rfl,A,hv⟩ | ⟨b,cap,cur,hv,hO⟩
 · refine key g (Step.refl _ _) ?_ rfl
   show (dk.sl.pd []).p g (Act.at a s)
   rw [show Act.at a s=_ from hv]
   exact Kd.sl_V.2 ⟨A,0,rfl,Nat.le_refl _,by simp,.inl rfl⟩
 · refine key (g.give b hO.lt) (Zs5 hO.lt hO.own) ?_ rfl
   rw [show Act.at a s=_ from hv]
   exact Zuh hO
end
end Go.CL
namespace Go.CL
open Go Go.RowKit Go.Proofs
theorem Zlw (a0:Za) (a1:List Zv) (a2:List Bool) {r:Bool} (h:Zgg a0 a1 a2=some r):FnOk Tryd.prog 6 [(Zc.pd a0),(Zba.sl.pd a1),(Kd.bool.sl.pd a2)] (Z7 r):=by
 have H0:=h
 unfold Zgg at H0
 clear h
 refine Zbw (N:=134) Tryd.func6 rfl rfl (Qe rfl) rfl rfl (fun a g0 hst hb=>?_)
 refine r_s (T:=[⟨[.o 0],_,[],[],[3]⟩,⟨[],_,[],[],[6]⟩]) (F:=[.o 1,.o 2,.p 0 0]) hst hb Zb
  (Qb rfl u_0<|Qa rfl c_b<|o_n) (fun a g hst hb=>?_)
 refine wp_seq ?_
 obtain ⟨r1,h2,H0⟩:=Ze H0
 refine r_s (T:=[⟨[],_,[],[],[17]⟩,⟨[.p 0 0],_,[],[0],[18]⟩]) (F:=[.o 0,.o 1,.o 2,.p 1 0]) hst hb Zb
  (o_p rfl (Zr en_8 (Zm1 h2) rfl rfl .nil)<|Qn rfl u_0<|o_n) (fun a g hst hb=>?_)
 refine wp_cond_split (hst.bool 3 rfl) (fun hc3=>?_) (fun hc3=>?_)
 ·replace H0:=Zp hc3 H0
  refine r_s (L:=[]) (T:=[⟨[],_,[],[],[6]⟩]) (F:=[.p 0 0]) (hst.pick [] rfl) hb Zb
   (Qa rfl c_b<|o_n) (fun a g hst hb=>?_)
  refine wp_ret ?_
  refine Zj ?_
  obtain rfl:=Option.some.inj H0
  exact Zx rfl hst hb (Zf (s:=6)) (hst.at 0 rfl)
 ·replace H0:=Zq hc3 H0
  refine wp_skip ?_
  refine Zm ?_
  refine wp_seq ?_
  obtain ⟨r4,h5,H0⟩:=Ze H0;obtain ⟨r6,h7,H0⟩:=Ze H0
  refine r_s (L:=[(1,_),(2,_),(3,_)]) (T:=[⟨[.o 2],_,[],[],[19]⟩,⟨[.o 0],_,[],[],[20]⟩,⟨[.p 0 0,.p 1 0],_,[],[0,1],[21]⟩,⟨[.p 2 0],_,[],[0,1,2],[22]⟩,⟨[.p 3 0,.o 2],_,[],Lr 4,[23]⟩,⟨[.p 3 0,.p 4 0],_,[],Lr 5,[24]⟩,⟨[.p 3 0,.p 5 0],_,[],Lr 6,[25]⟩,⟨[.p 3 0,.p 6 0],_,[],Lr 7,[26]⟩]) (F:=[.o 0,.o 1,.o 2,.p 7 0]) (hst.pick [0,1,2] rfl) hb Zb
   (Ql rfl Z8 u_0<|Qm rfl u_0<|o_p rfl (Zr en_9 (Zo2 _ _ h5) rfl rfl (.cons u_0 (.cons u_1 .nil)))<|Qm rfl u_0<|o_g (Qg_f rfl (fun hG=>Zn Z8 rfl rfl u_0))<|o_g (Qg_f rfl (fun hG=>Zr Z1z (Zkf _ (Zbs h7 hG)) rfl rfl (.cons (Opd.gd hG u_0) .nil)))<|o_g (Qg_f rfl (fun hG=>Zdu rfl rfl (Opd.gd hG u_0) c_i))<|o_p rfl (Zbk rfl rfl u_0 (fun hz=>(Opd.gd (bNF hz) u_1)))<|o_n) (fun a g hst hb=>?_)
  refine wp_cond_split (hst.bool 3 rfl) (fun hc8=>?_) (fun hc8=>?_)
  ·replace H0:=Zp hc8 H0
   refine r_s (L:=[]) (T:=[⟨[],_,[],[],[6]⟩]) (F:=[.p 0 0]) (hst.pick [] rfl) hb Zb
    (Qa rfl c_b<|o_n) (fun a g hst hb=>?_)
   refine wp_ret ?_
   refine Zj ?_
   obtain rfl:=Option.some.inj H0
   exact Zx rfl hst hb (Zf (s:=6)) (hst.at 0 rfl)
  ·replace H0:=Zq hc8 H0
   refine wp_skip ?_
   refine Zm ?_
   refine r_s (L:=[(1,_),(2,_),(3,_)]) (T:=[⟨[.o 1],_,[],[],[27]⟩,⟨[.p 0 0],_,[],[0],[28]⟩,⟨[.p 1 0],_,[],[0,1],[29]⟩,⟨[.p 2 0],_,[],[0,1,2],[30]⟩,⟨[.p 3 0],_,[],Lr 4,[7]⟩]) (F:=[.o 0,.o 1,.o 2,.p 4 0]) (hst.pick [0,1,2] rfl) hb Zb
    (Qm rfl u_0<|o_p rfl (Zcc Tryd.underlying49 rfl rfl u_0)<|o_p rfl (Zzc rfl rfl u_0 c_i (by decide))<|o_p rfl (Zcs rfl rfl c_i u_0 rfl)<|Qa rfl u_0<|o_n) (fun a g hst hb=>?_)
   obtain ⟨r9,h10,H0⟩:=Ze H0
   refine r_s (T:=[⟨[.o 2],_,[],[],[32]⟩,⟨[.o 3],_,[],[],[33]⟩,⟨[.o 0],_,[],[],[34]⟩,⟨[.p 0 0,.p 1 0,.p 2 0],_,[],[0,1,2],[35]⟩,⟨[.p 3 0],_,[],Lr 4,[31]⟩,⟨[.p 4 0],_,[],Lr 5,[36]⟩,⟨[.p 4 0],_,[],Lr 5,[37]⟩,⟨[.p 5 0],_,[],Lr 6,[8]⟩,⟨[.p 6 0],_,[],Lr 8,[9]⟩]) (F:=[.o 1,.o 2,.o 3,.p 7 0,.p 8 0]) hst hb Zb
    (Ql rfl Z8 u_0<|Qm rfl u_0<|Qm rfl u_0<|o_p rfl (Zr Z7c (Znw _ _ _ h10) rfl rfl (.cons u_0 (.cons u_1 (.cons u_2 .nil))))<|Qm rfl u_0<|o_p rfl (Zbg rfl rfl u_0 rfl)<|o_p rfl (Zbg rfl rfl u_0 rfl)<|Qa rfl u_0<|Qa rfl u_0<|o_n) (fun a g hst hb=>?_)
   refine wp_seq ?_
   refine r_s (T:=[⟨[.o 4],_,[],[],[38]⟩,⟨[.p 0 0],_,[],[0],[39]⟩]) (F:=[.o 0,.o 1,.o 2,.o 3,.p 1 0]) hst hb Zb
    (Qm rfl u_0<|Qn rfl u_0<|o_n) (fun a g hst hb=>?_)
   refine wp_cond_split (hst.bool 4 rfl) (fun hc11=>?_) (fun hc11=>?_)
   ·replace H0:=Zp hc11 H0
    refine r_s (L:=[]) (T:=[⟨[],_,[],[],[6]⟩]) (F:=[.p 0 0]) (hst.pick [] rfl) hb Zb
     (Qa rfl c_b<|o_n) (fun a g hst hb=>?_)
    refine wp_ret ?_
    refine Zj ?_
    obtain rfl:=Option.some.inj H0
    exact Zx rfl hst hb (Zf (s:=6)) (hst.at 0 rfl)
   ·replace H0:=Zq hc11 H0
    refine wp_skip ?_
    refine Zm ?_
    obtain ⟨h12,H0⟩:=Zje H0
    refine r_s (L:=[(2,_),(3,_),(7,_),(8,_)]) (T:=[⟨[.o 2],_,[],[],[40]⟩,⟨[.p 0 0],[(41,(pArr Zc 25 41 (List.replicate (Int.toNat (IntKind.i64.wrap ((1:Int) + (Int.tmod (a2.length:Int) (8:Int))))) (default:Za))))],[42],[0],[41]⟩,⟨[.p 1 0],_,[],[0,1],[10]⟩]) (F:=[.o 0,.o 1,.o 2,.o 3,.p 2 0]) (hst.pick [0,1,2,3] rfl) hb Zb
     (Qm rfl u_0<|o_p rfl (Z3s (zs:=[.int .i64 0,.int .i64 0,.int .i64 0,.int .i64 0,.float .f64 0,.int .i64 0,.string ByteArray.empty,.slice none 0 0]) (zv:=(default:Za)) Zt3 (by kernel_rfl) (fun g=>Zb2 g) (by decide) rfl rfl (Opd.to u_0 (congrArg (pInt .i64) (Int.toNat_of_nonneg h12.1).symm)) (Opd.to u_0 (congrArg (pInt .i64) (Int.toNat_of_nonneg h12.1).symm)) h12.2 (Nat.le_trans (Nat.le_mul_of_pos_right _ (by decide)) h12.2))<|Qa rfl u_0<|o_n) (fun a g hst hb=>?_)
    refine wp_seq ?_
    refine r_s (T:=[⟨[.o 4],_,[],[],[42]⟩,⟨[.p 0 0],_,[],[0],[43]⟩,⟨[],_,[],[],[44]⟩]) (F:=[.o 0,.o 1,.o 2,.o 3,.o 4,.p 1 0,.p 2 0]) hst hb Zb
     (Qm rfl u_0<|o_p rfl (Zsf Tryd.underlying33 rfl rfl u_0)<|Qm rfl c_i<|o_n) (fun a g hst hb=>?_)
    obtain ⟨z21,hz1,H0⟩:=Ze H0
    refine Zce (fun a w=>∃ (y20:List Za) (g:G),w=g.w ∧ St 134 [(2,(Kd.bool.sl.pd a2)),(3,(Zc.ptr a0)),(7,(pInt .i64 (IntKind.i64.wrap ((1:Int) + (Int.tmod (a2.length:Int) (8:Int)))))),(8,(Zba.sl.pd r9.1)),(10,(pArr Zc 25 41 y20))] a g ∧ Base g0 g ∧ y20=z21) ?_ ?_
    ·rintro a w ⟨y20,g,rfl,hst,hb,rfl⟩
     refine Zm ?_
     refine wp_seq ?_
     refine r_s (T:=[⟨[.o 3],_,[],[],[56]⟩,⟨[.p 0 0],_,[],[0],[57]⟩,⟨[],_,[],[],[58]⟩]) (F:=[.o 0,.o 1,.o 2,.o 4,.p 0 0,.p 1 0,.p 2 0]) hst hb Zb
      (Qm rfl u_0<|o_p rfl (Zcc Tryd.underlying40 rfl rfl u_0)<|Qm rfl c_i<|o_n) (fun a g hst hb=>?_)
     obtain ⟨z41,hz2,H0⟩:=Ze H0
     refine Zce (fun a w=>∃ (y40:List Za) (g:G),w=g.w ∧ St 134 [(3,(Zc.ptr a0)),(10,(pArr Zc 25 41 y40))] a g ∧ Base g0 g ∧ (.inr y40)=z41) ?_ ?_
     ·rintro a w ⟨y40,g,rfl,hst,hb,rfl⟩
      refine Zm ?_
      obtain ⟨g1,hw,hst,hb⟩:=Z5a (i:=1) rfl (by kernel_rfl) hst hb
      refine wp_seq ?_
      replace hst:St 134 [(3,(Zc.ptr a0)),(10,(Zc.sl.pd y40))] a g1:=hst
      rw [← hw]
      obtain ⟨r42,h43,H0⟩:=Ze H0
      refine r_g (T:=[⟨[.o 0],_,[],[],[101]⟩,⟨[.o 1],_,[],[],[102]⟩,⟨[.p 0 0,.p 1 0],_,[],[0,1],[103]⟩,⟨[],[(14,(pBox Zc 14 (default:Za)))],[15],[],[14]⟩,⟨[.p 2 0,.p 3 0],_,[15],Lr 4,[14]⟩]) (F:=[.o 0,.o 1,.p 4 0]) hst hb Zb
       (Ql rfl Z8 u_0<|Qm rfl u_0<|o_p rfl (Zr Zx9 (Zkw _ _ h43) rfl rfl (.cons u_0 (.cons u_1 .nil)))<|o_p rfl (Zbt (zs:=[.int .i64 0,.int .i64 0,.int .i64 0,.int .i64 0,.float .f64 0,.int .i64 0,.string ByteArray.empty,.slice none 0 0]) (by kernel_rfl) (fun g=>Zb2 g) rfl rfl)<|o_p rfl (Zcg Z8 rfl rfl u_1 u_0)<|o_n) (fun a g hst hb=>?_)
      refine Zm ?_
      obtain ⟨h44,H0⟩:=Zje H0
      refine r_s (T:=[⟨[],_,[105],[],[104]⟩,⟨[.o 1],_,[],[],[105]⟩,⟨[.p 0 0,.p 1 0],_,[105],[0,1],[104,106]⟩,⟨[.p 2 0],_,[],[0,1,2],[15]⟩]) (F:=[.o 0,.o 1,.o 2,.p 3 0]) hst hb Zb
       (o_p rfl (Zs6 (ty:=0) Zt3 rfl rfl)<|Qm rfl u_0<|o_p rfl (OB.ownA (Zlh (xs:=[]) Zt3 rfl rfl u_0 u_1 h44))<|Qa rfl u_0<|o_n) (fun a g hst hb=>?_)
      refine wp_seq ?_
      refine r_s (T:=[⟨[.o 3],_,[],[],[107]⟩,⟨[.p 0 0],_,[],[0],[108]⟩,⟨[],_,[],[],[109]⟩]) (F:=[.o 0,.o 1,.o 2,.o 3,.p 1 0,.p 2 0]) hst hb Zb
       (Qm rfl u_0<|o_p rfl (Zsf Tryd.underlying33 rfl rfl u_0)<|Qm rfl c_i<|o_n) (fun a g hst hb=>?_)
      obtain ⟨z53,hz3,H0⟩:=Ze H0
      refine Zce (fun a w=>∃ (y52:List Za) (g:G),w=g.w ∧ St 134 [(3,(Zc.ptr a0)),(14,(Zc.ptr r42)),(15,(pArr Zc 25 104 y52))] a g ∧ Base g0 g ∧ y52=z53) ?_ ?_
      ·rintro a w ⟨y52,g,rfl,hst,hb,rfl⟩
       refine Zm ?_
       obtain ⟨r54,h55,H0⟩:=Ze H0;obtain ⟨r56,h57,H0⟩:=Ze H0;obtain ⟨r58,h59,H0⟩:=Ze H0
       refine r_s (T:=[⟨[.o 1],_,[],[],[124]⟩,⟨[.p 0 0],_,[],[0],[125]⟩,⟨[.p 1 0],_,[],[0,1],[126]⟩,⟨[.p 2 0],_,[],[0,1,2],[127]⟩,⟨[.p 3 0,.o 1],_,[],Lr 4,[128]⟩,⟨[.p 3 0,.o 0],_,[],Lr 4,[129]⟩,⟨[.p 3 0,.o 2],_,[105],Lr 4,[15,130]⟩,⟨[.p 3 0,.p 5 0,.p 6 0],_,[],[0,1,2,3,5,6],[131]⟩,⟨[.p 3 0,.p 4 0,.p 7 0],_,[],Lr 8,[132]⟩,⟨[.p 3 0,.p 8 0],_,[],Lr 9,[133]⟩,⟨[.p 9 0],_,[],Lr 10,[6]⟩]) (F:=[.p 10 0]) hst hb Zb
        (Ql rfl Z8 u_0<|o_p rfl (Zr Zre (Zjb _ h55) rfl rfl (.cons u_0 .nil))<|o_p rfl (Zbc rfl rfl u_0 c_i)<|Qm rfl u_0<|o_g (Qg_t rfl (fun hG=>Zn Z8 rfl rfl u_0))<|o_g (Qg_t rfl (fun hG=>Zn Z8 rfl rfl u_0))<|o_g (Qg_t rfl (fun hG=>Z0r (.inl rfl) rfl u_0))<|o_g (Qg_t rfl (fun hG=>Zr Zx9 (Zkw _ _ (Zbs h57 hG)) rfl rfl (.cons (Opd.gd hG u_0) (.cons (Opd.gd hG u_1) .nil))))<|o_g (Qg_t rfl (fun hG=>Zr Z2b (Zkn _ _ (Zbs h59 hG)) rfl rfl (.cons (Opd.gd hG u_0) (.cons (Opd.gd hG u_1) .nil))))<|o_p rfl (Zbi rfl rfl u_0 (fun hz=>(Opd.gd hz u_1)))<|Qa rfl u_0<|o_n) (fun a g hst hb=>?_)
       refine wp_ret ?_
       obtain rfl:=Option.some.inj H0
       exact Zx rfl hst hb (Zf (s:=6)) (hst.at 0 rfl)
      ·refine wp_block ?_
       refine wp_loop_ghost (fun n a w=>∃ (x45:List Za) (x46:Int) (g:G),w=g.w ∧ St 134 [(3,(Zc.ptr a0)),(10,(Zc.sl.pd y40)),(14,(Zc.ptr r42)),(15,(pArr Zc 25 104 x45)),(108,(pInt .i64 ((([]:List Za) ++ y40).length:Int))),(109,(pInt .i64 x46))] a g ∧ Base g0 g ∧ Zco y40 n x45 x46=some z53) (Int.toNat (((([]:List Za) ++ y40).length:Int) - (0:Int)) + 1) ⟨(([]:List Za) ++ y40),(0:Int),g,rfl,(hst.pick [0,1,2,3,4,5] rfl),hb,hz3⟩ (fun n a w hI=>?_)
       obtain ⟨x45,x46,g,rfl,hst,hb,H1⟩:=hI
       cases n with
       | zero=>exact absurd H1 (by simp [Zco])
       | succ n =>
        rw [Zco] at H1
        refine r_s (T:=[⟨[.o 5,.o 4],_,[],[],[110]⟩]) (F:=[.o 0,.o 1,.o 2,.o 3,.o 4,.o 5,.p 0 0]) hst hb Zb
         (o_p rfl (Zb8 rfl rfl u_0 u_1)<|o_n) (fun a g hst hb=>?_)
        refine wp_seq ?_
        refine wp_cond_split (hst.bool 6 rfl) (fun hc47=>?_) (fun hc47=>?_)
        ·replace H1:=Zp hc47 H1
         refine wp_skip ?_
         refine Zm ?_
         refine wp_seq ?_
         refine wp_block ?_
         refine r_s (L:=[(3,_),(10,_),(14,_),(15,_),(108,_),(109,_)]) (T:=[⟨[.o 5],_,[],[],[111]⟩,⟨[.p 0 0],_,[],[0],[16]⟩]) (F:=[.o 0,.o 1,.o 2,.o 3,.p 1 0,.o 4,.o 5]) (hst.pick [0,1,2,3,4,5] rfl) hb Zb
          (Qm rfl u_0<|Qa rfl u_0<|o_n) (fun a g hst hb=>?_)
         obtain ⟨e48,h49,H1⟩:=Ze H1;obtain ⟨e50,h51,H1⟩:=Ze H1
         refine r_g (T:=⟨[.o 3],_,[],[],[112]⟩ :: ⟨[.o 4],_,[],[],[113]⟩ :: ⟨[.o 1],_,[],[],[114]⟩ :: ⟨[.o 1],_,[],[],[115]⟩ :: ⟨[.p 3 0],_,[],[3],[116]⟩ :: ⟨[.p 4 0],_,[],[3,4],[117]⟩ :: ⟨[.o 4],_,[],[],[118]⟩ :: ⟨[.p 5 0,.p 6 0],_,[],List.range' 3 4,[119]⟩ :: ⟨[.p 2 0,.p 7 0],_,[],List.range' 2 6,[120]⟩ :: ⟨[.p 8 0],_,[],List.range' 2 7,[121]⟩ :: ⟨[.p 0 0,.p 1 0],_,[],Lr 10,[122]⟩ :: ⟨[.p 9 0,.p 10 0,.o 3],_,[105],Lr 11,[15,112,122]⟩ :: []) (F:=[.o 0,.o 1,.o 2,.p 11 0,.o 5,.o 6]) hst hb Zb
          (Qm rfl u_0<|Qm rfl u_0<|Qm rfl u_0<|Qm rfl u_0<|o_p rfl (Zcc Tryd.underlying33 rfl rfl u_0)<|o_p rfl (Ze6 rfl rfl u_0 c_i rfl)<|Qm rfl u_0<|o_p rfl (Ze6 rfl rfl u_0 u_1 rfl)<|o_p rfl (Zbp Tryd.underlying33 Zps rfl rfl u_0 u_1 h49)<|Ql rfl Z8 u_0<|o_p rfl (Zka Tryd.underlying33 Zps rfl rfl u_0 u_1 h51)<|o_p rfl (Zmt (u:=e50) Z8 rfl rfl u_2 u_1 u_0 (Zpx h51) (by decide))<|o_n) (fun a g hst hb=>?_)
         refine Zbj ?_
         refine Zm ?_
         refine r_g (T:=[⟨[.o 5],_,[],[],[123]⟩,⟨[.p 0 0],_,[],[0],[109]⟩]) (F:=[.o 0,.o 1,.o 2,.o 3,.o 4,.p 1 0]) hst hb Zb
          (o_p rfl (Zcs rfl rfl u_0 c_i rfl)<|Qm rfl u_0<|o_n) (fun a g hst hb=>?_)
         exact ⟨n,Nat.lt_succ_self _,(x45.set (Int.toNat x46) e48),(IntKind.i64.wrap (x46 + (1:Int))),g,rfl,(hst.pick [0,1,2,3,4,5] rfl),hb,H1⟩
        ·replace H1:=Zq hc47 H1
         refine wp_exit ?_
         refine Zca ?_
         refine Zca ?_
         refine Zc5 ?_
         exact ⟨x45,g,rfl,(hst.pick [0,2,3] rfl),hb,Option.some.inj H1⟩
     ·refine wp_block ?_
      refine wp_loop_ghost (fun n a w=>∃ (x22:List Za) (x23:Int) (g:G),w=g.w ∧ St 134 [(2,(Kd.bool.sl.pd a2)),(3,(Zc.ptr a0)),(7,(pInt .i64 (IntKind.i64.wrap ((1:Int) + (Int.tmod (a2.length:Int) (8:Int)))))),(10,(pArr Zc 25 41 x22)),(56,(Zba.sl.pd r9.1)),(57,(pInt .i64 (r9.1.length:Int))),(58,(pInt .i64 x23))] a g ∧ Base g0 g ∧ Zb6 a2 r9 n x22 x23=some z41) (Int.toNat ((r9.1.length:Int) - (0:Int)) + 1) ⟨y20,(0:Int),g,rfl,(hst.pick [0,1,2,3,4,5,6] rfl),hb,hz2⟩ (fun n a w hI=>?_)
      obtain ⟨x22,x23,g,rfl,hst,hb,H1⟩:=hI
      cases n with
      | zero=>exact absurd H1 (by simp [Zb6])
      | succ n =>
       rw [Zb6] at H1
       refine r_s (T:=[⟨[.o 6,.o 5],_,[],[],[59]⟩]) (F:=[.o 0,.o 1,.o 2,.o 3,.o 4,.o 5,.o 6,.p 0 0]) hst hb Zb
        (o_p rfl (Zb8 rfl rfl u_0 u_1)<|o_n) (fun a g hst hb=>?_)
       refine wp_seq ?_
       refine wp_cond_split (hst.bool 7 rfl) (fun hc24=>?_) (fun hc24=>?_)
       ·replace H1:=Zp hc24 H1
        refine wp_skip ?_
        refine Zm ?_
        refine wp_seq ?_
        refine Zce (fun a w=>∃ (j39:List Za) (g:G),w=g.w ∧ St 134 [(2,(Kd.bool.sl.pd a2)),(3,(Zc.ptr a0)),(7,(pInt .i64 (IntKind.i64.wrap ((1:Int) + (Int.tmod (a2.length:Int) (8:Int)))))),(10,(pArr Zc 25 41 j39)),(56,(Zba.sl.pd r9.1)),(57,(pInt .i64 (r9.1.length:Int))),(58,(pInt .i64 x23))] a g ∧ Base g0 g ∧ Zdn x23 (Zb6 a2 r9 n) j39=some z41) ?_ ?_
        ·rintro a w ⟨j39,g,rfl,hst,hb,H1⟩
         unfold Zdn at H1
         refine Zm ?_
         refine r_g (T:=[⟨[.o 6],_,[],[],[100]⟩,⟨[.p 0 0],_,[],[0],[58]⟩]) (F:=[.o 0,.o 1,.o 2,.o 3,.o 4,.o 5,.p 1 0]) hst hb Zb
          (o_p rfl (Zcs rfl rfl u_0 c_i rfl)<|Qm rfl u_0<|o_n) (fun a g hst hb=>?_)
         exact ⟨n,Nat.lt_succ_self _,j39,(IntKind.i64.wrap (x23 + (1:Int))),g,rfl,(hst.pick [0,1,2,3,4,5,6] rfl),hb,H1⟩
        ·refine wp_block ?_
         obtain ⟨e25,h26,H1⟩:=Ze H1
         refine r_s (L:=[(2,_),(3,_),(7,_),(10,_),(56,_),(57,_),(58,_)]) (T:=[⟨[.o 6],_,[],[],[60]⟩,⟨[.o 4,.o 6],_,[],[],[61]⟩,⟨[.p 1 0],_,[],[1],[62]⟩,⟨[],[(13,(pBox Zba 13 (default:Zv)))],[14],[],[13]⟩,⟨[.p 0 0],_,[],Lr 4,[12]⟩,⟨[.p 2 0,.p 3 0],_,[14],Lr 5,[13]⟩]) (F:=[.o 0,.o 1,.o 2,.o 3,.p 4 0,.p 5 0,.o 4,.o 5,.o 6]) (hst.pick [0,1,2,3,4,5,6] rfl) hb Zb
          (Qm rfl u_0<|o_p rfl (Zbp Tryd.underlying40 Zx7 rfl rfl u_0 u_1 h26)<|Ql rfl Zny u_0<|o_p rfl (Zbt (zs:=[.int .i64 0,.int .i64 0,.string ByteArray.empty,.int .i64 0,.float .f64 0,.string ByteArray.empty,.int .i64 0,.int .i64 0,.int .i64 0,.int .i64 0,.float .f64 0,.int .i64 0,.string ByteArray.empty,.slice none 0 0,.bool false]) (by kernel_rfl) (fun g=>Zit g) rfl rfl)<|Qa rfl u_0<|o_p rfl (Zcg Zny rfl rfl u_1 u_0)<|o_n) (fun a g hst hb=>?_)
         refine wp_seq ?_
         obtain ⟨r27,h28,H1⟩:=Ze H1
         refine r_s (T:=⟨[.o 5],_,[],[],[63]⟩ :: ⟨[.p 0 0],_,[],[0],[64]⟩ :: ⟨[.p 1 0],_,[],[0,1],[65]⟩ :: ⟨[.p 2 0],_,[],[0,1,2],[66]⟩ :: ⟨[.p 3 0],_,[],Lr 4,[67]⟩ :: ⟨[.p 4 0,.o 5],_,[],Lr 5,[68]⟩ :: ⟨[.p 4 0,.p 5 0],_,[],Lr 6,[69]⟩ :: ⟨[.p 4 0,.p 6 0],_,[],Lr 7,[70]⟩ :: ⟨[.p 4 0,.p 7 0],_,[],Lr 8,[71]⟩ :: ⟨[.p 8 0],_,[],Lr 9,[72]⟩ :: ⟨[.p 9 0,.o 5],_,[],Lr 10,[73]⟩ :: ⟨[.p 9 0,.p 10 0],_,[],Lr 11,[74]⟩ :: ⟨[.p 9 0,.o 2],_,[],Lr 10,[75]⟩ :: ⟨[.p 9 0,.p 11 0,.p 12 0],_,[],Lr 13,[76]⟩ :: ⟨[.p 9 0,.p 13 0],_,[],Lr 14,[77]⟩ :: []) (F:=[.o 0,.o 1,.o 2,.o 3,.o 4,.o 5,.o 6,.o 7,.o 8,.p 14 0]) hst hb Zb
          (Qf rfl Zpi u_0<|Ql rfl Zg3 u_0<|o_p rfl (Zr Z66 (Zoa _ h28) rfl rfl (.cons u_0 .nil))<|o_p rfl (Zdu rfl rfl u_0 c_i)<|Qm rfl u_0<|o_g (Qg_f rfl (fun hG=>Zh Zmz rfl rfl u_0))<|o_g (Qg_f rfl (fun hG=>Zn ty_3 rfl rfl (Opd.gd hG u_0)))<|o_g (Qg_f rfl (fun hG=>Zb8 rfl rfl (Opd.gd hG u_0) c_i))<|o_p rfl (Zbk rfl rfl u_0 (fun hz=>(Opd.gd (bNF hz) u_1)))<|Qm rfl u_0<|o_g (Qg_f rfl (fun hG=>Zh Zmz rfl rfl u_0))<|o_g (Qg_f rfl (fun hG=>Zn ty_3 rfl rfl (Opd.gd hG u_0)))<|o_g (Qg_f rfl (fun hG=>Z0 rfl rfl u_0))<|o_g (Qg_f rfl (fun hG=>Znq rfl rfl (Opd.gd hG u_0) (Opd.gd hG u_1)))<|o_p rfl (Zbk rfl rfl u_0 (fun hz=>(Opd.gd (bNF hz) u_1)))<|o_n) (fun a g hst hb=>?_)
         refine wp_cond_split (hst.bool 9 rfl) (fun hc29=>?_) (fun hc29=>?_)
         ·replace H1:=Zp hc29 H1
          refine r_s (L:=[]) (T:=[⟨[],_,[],[],[6]⟩]) (F:=[.p 0 0]) (hst.pick [] rfl) hb Zb
           (Qa rfl c_b<|o_n) (fun a g hst hb=>?_)
          refine wp_ret ?_
          refine Zj ?_
          refine Zw ?_
          refine Zj ?_
          refine Zj ?_
          refine Zj ?_
          refine Zw ?_
          refine Zj ?_
          refine Zj ?_
          obtain rfl:=Option.some.inj H1
          obtain rfl:=Option.some.inj H0
          exact Zx rfl hst hb (Zf (s:=6)) (hst.at 0 rfl)
         ·replace H1:=Zq hc29 H1
          refine wp_skip ?_
          refine Zm ?_
          obtain ⟨e30,h31,H1⟩:=Ze H1
          refine r_s (L:=[(2,_),(3,_),(7,_),(10,_),(12,_),(13,_),(56,_),(57,_),(58,_)]) (T:=[⟨[.o 4],_,[],[],[78]⟩,⟨[.o 0],_,[],[],[79]⟩,⟨[.p 1 0],_,[],[1],[80]⟩,⟨[.p 0 0,.p 2 0],_,[],[0,1,2],[81]⟩,⟨[.p 3 0],_,[],Lr 4,[82]⟩,⟨[.p 4 0,.o 0],_,[],Lr 5,[83]⟩,⟨[.p 4 0,.o 4],_,[],Lr 5,[84]⟩,⟨[.p 4 0,.p 5 0,.p 6 0],_,[],Lr 7,[85]⟩,⟨[.p 4 0,.p 7 0],_,[],Lr 8,[86]⟩,⟨[.p 4 0,.p 8 0],_,[],Lr 9,[87]⟩]) (F:=[.o 0,.o 1,.o 2,.o 3,.o 5,.o 6,.o 7,.o 8,.p 9 0]) (hst.pick [0,1,2,3,4,5,6,7,8] rfl) hb Zb
           (Qm rfl u_0<|Qm rfl u_0<|o_p rfl (Zcc Tryd.underlying49 rfl rfl u_0)<|o_p rfl (Zb8 rfl rfl u_0 u_1)<|Qm rfl u_0<|o_g (Qg_t rfl (fun hG=>Z0 rfl rfl u_0))<|o_g (Qg_t rfl (fun hG=>Z0 rfl rfl u_0))<|o_g (Qg_t rfl (fun hG=>Zbp Tryd.underlying49 sz_4 rfl rfl (Opd.gd hG u_0) (Opd.gd hG u_1) (Zbs h31 hG)))<|o_g (Qg_t rfl (fun hG=>Zn ty_4 rfl rfl (Opd.gd hG u_0)))<|o_p rfl (Zbi rfl rfl u_0 (fun hz=>(Opd.gd hz u_1)))<|o_n) (fun a g hst hb=>?_)
          refine wp_cond_split (hst.bool 8 rfl) (fun hc32=>?_) (fun hc32=>?_)
          ·replace H1:=Zp hc32 H1
           obtain ⟨e33,h34,H1⟩:=Ze H1;obtain ⟨r35,h36,H1⟩:=Ze H1;obtain ⟨e37,h38,H1⟩:=Ze H1
           refine r_g (L:=[(2,_),(3,_),(7,_),(10,_),(13,_),(56,_),(57,_),(58,_)]) (T:=⟨[.o 3],_,[],[],[88]⟩ :: ⟨[.o 4],_,[],[],[89]⟩ :: ⟨[.p 1 0],_,[],[1],[90]⟩ :: ⟨[.o 3],_,[],[],[91]⟩ :: ⟨[.o 4],_,[],[],[92]⟩ :: ⟨[.p 4 0],_,[],[4],[93]⟩ :: ⟨[.p 3 0,.p 5 0],_,[],[3,4,5],[94]⟩ :: ⟨[.p 6 0],_,[],List.range' 3 4,[95]⟩ :: ⟨[.o 4],_,[],[],[96]⟩ :: ⟨[.p 8 0],_,[],[8],[97]⟩ :: ⟨[.p 7 0,.p 9 0],_,[],List.range' 3 7,[98]⟩ :: ⟨[.p 0 0,.p 2 0],_,[],Lr 11,[99]⟩ :: ⟨[.p 10 0,.p 11 0,.o 3],_,[42],Lr 12,[10,88,91,94,99]⟩ :: []) (F:=[.o 0,.o 1,.o 2,.p 12 0,.o 5,.o 6,.o 7]) (hst.pick [0,1,2,3,4,5,6,7] rfl) hb Zb
            (Qm rfl u_0<|Qf rfl Zmz u_0<|Ql rfl ty_3 u_0<|Qm rfl u_0<|Qf rfl Zmz u_0<|Ql rfl ty_3 u_0<|o_p rfl (Zka Tryd.underlying33 Zps rfl rfl u_0 u_1 h34)<|o_p rfl (Ztk Z8 rfl rfl u_0)<|Qf rfl Zpi u_0<|Ql rfl Zg3 u_0<|o_p rfl (Zr Z23 (Zqa _ _ h36) rfl rfl (.cons u_0 (.cons u_1 .nil)))<|o_p rfl (Zka Tryd.underlying33 Zps rfl rfl u_0 u_1 h38)<|o_p rfl (Zmt (u:=e37) Z8 rfl rfl u_2 u_1 u_0 (Zpx h38) (by decide))<|o_n) (fun a g hst hb=>?_)
           refine Zbj ?_
           exact ⟨(x22.set (Int.toNat e25.Worker) r35),g,rfl,(hst.pick [0,1,2,3,4,5,6] rfl),hb,H1⟩
          ·replace H1:=Zq hc32 H1
           refine wp_skip ?_
           refine Zbj ?_
           exact ⟨x22,g,rfl,(hst.pick [0,1,2,3,5,6,7] rfl),hb,H1⟩
       ·replace H1:=Zq hc24 H1
        refine wp_exit ?_
        refine Zca ?_
        refine Zca ?_
        refine Zc5 ?_
        exact ⟨x22,g,rfl,(hst.pick [1,3] rfl),hb,Option.some.inj H1⟩
    ·refine wp_block ?_
     refine wp_loop_ghost (fun n a w=>∃ (x13:List Za) (x14:Int) (g:G),w=g.w ∧ St 134 [(2,(Kd.bool.sl.pd a2)),(3,(Zc.ptr a0)),(7,(pInt .i64 (IntKind.i64.wrap ((1:Int) + (Int.tmod (a2.length:Int) (8:Int)))))),(8,(Zba.sl.pd r9.1)),(10,(pArr Zc 25 41 x13)),(43,(pInt .i64 ((List.replicate (Int.toNat (IntKind.i64.wrap ((1:Int) + (Int.tmod (a2.length:Int) (8:Int))))) (default:Za)).length:Int))),(44,(pInt .i64 x14))] a g ∧ Base g0 g ∧ Zc1 a0 a2 n x13 x14=some z21) (Int.toNat (((List.replicate (Int.toNat (IntKind.i64.wrap ((1:Int) + (Int.tmod (a2.length:Int) (8:Int))))) (default:Za)).length:Int) - (0:Int)) + 1) ⟨(List.replicate (Int.toNat (IntKind.i64.wrap ((1:Int) + (Int.tmod (a2.length:Int) (8:Int))))) (default:Za)),(0:Int),g,rfl,(hst.pick [0,1,2,3,4,5,6] rfl),hb,hz1⟩ (fun n a w hI=>?_)
     obtain ⟨x13,x14,g,rfl,hst,hb,H1⟩:=hI
     cases n with
     | zero=>exact absurd H1 (by simp [Zc1])
     | succ n =>
      rw [Zc1] at H1
      refine r_s (T:=[⟨[.o 6,.o 5],_,[],[],[45]⟩]) (F:=[.o 0,.o 1,.o 2,.o 3,.o 4,.o 5,.o 6,.p 0 0]) hst hb Zb
       (o_p rfl (Zb8 rfl rfl u_0 u_1)<|o_n) (fun a g hst hb=>?_)
      refine wp_seq ?_
      refine wp_cond_split (hst.bool 7 rfl) (fun hc15=>?_) (fun hc15=>?_)
      ·replace H1:=Zp hc15 H1
       refine wp_skip ?_
       refine Zm ?_
       refine wp_seq ?_
       refine wp_block ?_
       refine r_s (L:=[(2,_),(3,_),(7,_),(8,_),(10,_),(43,_),(44,_)]) (T:=[⟨[.o 6],_,[],[],[46]⟩,⟨[.p 0 0],_,[],[0],[11]⟩]) (F:=[.o 0,.o 1,.o 2,.o 3,.o 4,.p 1 0,.o 5,.o 6]) (hst.pick [0,1,2,3,4,5,6] rfl) hb Zb
        (Qm rfl u_0<|Qa rfl u_0<|o_n) (fun a g hst hb=>?_)
       obtain ⟨r16,h17,H1⟩:=Ze H1;obtain ⟨e18,h19,H1⟩:=Ze H1
       refine r_g (T:=[⟨[.o 4],_,[],[],[48]⟩,⟨[.o 5],_,[],[],[49]⟩,⟨[.o 1],_,[],[],[50]⟩,⟨[.p 2 0],_,[],[2],[51]⟩,⟨[.p 3 0],_,[],[2,3],[47]⟩,⟨[.p 4 0],_,[],[2,3,4],[52]⟩,⟨[.p 4 0],_,[],[2,3,4],[53]⟩,⟨[.p 0 0,.p 1 0],_,[],Lr 6,[54]⟩,⟨[.p 5 0,.p 7 0,.o 4],_,[42],[0,1,2,3,4,5,7],[10,48,54]⟩]) (F:=[.o 0,.o 1,.o 2,.o 3,.p 8 0,.o 6,.o 7]) hst hb Zb
        (Qm rfl u_0<|Qm rfl u_0<|Ql rfl Z8 u_0<|o_p rfl (Zr Zxs (Zkt _ h17) rfl rfl (.cons u_0 .nil))<|Qm rfl u_0<|o_p rfl (Zbg rfl rfl u_0 rfl)<|o_p rfl (Zbg rfl rfl u_0 rfl)<|o_p rfl (Zka Tryd.underlying33 Zps rfl rfl u_0 u_1 h19)<|o_p rfl (Zmt (u:=e18) Z8 rfl rfl u_2 u_1 u_0 (Zpx h19) (by decide))<|o_n) (fun a g hst hb=>?_)
       refine Zbj ?_
       refine Zm ?_
       refine r_g (T:=[⟨[.o 6],_,[],[],[55]⟩,⟨[.p 0 0],_,[],[0],[44]⟩]) (F:=[.o 0,.o 1,.o 2,.o 3,.o 4,.o 5,.p 1 0]) hst hb Zb
        (o_p rfl (Zcs rfl rfl u_0 c_i rfl)<|Qm rfl u_0<|o_n) (fun a g hst hb=>?_)
       exact ⟨n,Nat.lt_succ_self _,(x13.set (Int.toNat x14) r16.1),(IntKind.i64.wrap (x14 + (1:Int))),g,rfl,(hst.pick [0,1,2,3,4,5,6] rfl),hb,H1⟩
      ·replace H1:=Zq hc15 H1
       refine wp_exit ?_
       refine Zca ?_
       refine Zca ?_
       refine Zc5 ?_
       exact ⟨x13,g,rfl,(hst.pick [0,1,2,3,4] rfl),hb,Option.some.inj H1⟩
end Go.CL
namespace Go.CL
open Go
inductive shelf_nodeT where
 | nil
 | node (key:ByteArray) (rec_:Za) (left:shelf_nodeT) (right:shelf_nodeT) (size:Int)
 deriving Inhabited
structure shelf_node where
 key:ByteArray
 rec_:Za
 left:shelf_nodeT
 right:shelf_nodeT
 size:Int
 deriving Inhabited
def shelf_node.up (x:shelf_node):shelf_nodeT:=.node x.key x.rec_ x.left x.right x.size
def shelf_nodeT.hh:shelf_nodeT → Nat
 | .nil=>0
 | .node x0 x1 x2 x3 x4=>max x2.hh x3.hh + 1
def NANB:Nat:=9221120237041090561
def keyf (b:Nat):Int:=if isn b then 18444492273895866369 else if TOP ≤ b then 18446744073709551615 - b else b + 9223372036854775808
def Zbh (b:Nat):Nat:=if isn b then NANB else b
theorem Zte {b:Nat} (hb:b < 18446744073709551616):fneq b b=decide (isn b):=by
 unfold fneq
 show (Ieee.double.order b b != some .eq)=_
 by_cases h:isn b
 ·rw [Zst (.inl h)];simp [h]
 ·obtain ⟨o,ho,_,he⟩:=Zoc hb hb h h
  rw [ho,he.2 rfl];simp [h]
theorem Zef {b:Nat} (hb:b < 18446744073709551616):Zej b=some (Zbh b):=by
 unfold Zej Zbh
 rw [Zte hb]
 by_cases h:isn b
 ·simp [h,Zj2,NANB]
 ·simp [h]
theorem Z3l {b:Nat} (hb:b < 18446744073709551616):(bAnd .u64 (b:Int) 9223372036854775808 != 0)=decide (TOP ≤ b):=by
 have h1:(BitVec.ofInt 64 (b:Int) &&& BitVec.ofInt 64 9223372036854775808).toNat=b &&& 9223372036854775808:=by
  rw [BitVec.toNat_and]
  have e1:(BitVec.ofInt 64 (b:Int)).toNat=b:=by
   rw [show BitVec.ofInt 64 (b:Int)=BitVec.ofNat 64 b from rfl]
   simp;omega
  rw [e1];rfl
 have h2:b &&& 9223372036854775808=(b.testBit 63).toNat * 9223372036854775808:=by
  apply Nat.eq_of_testBit_eq
  intro i
  rw [Nat.testBit_and,show (9223372036854775808:Nat)=2 ^ 63 from rfl,Nat.testBit_two_pow]
  by_cases hi:63=i
  ·subst hi
   cases b.testBit 63
   ·simp
   ·rw [Bool.toNat_true,Nat.one_mul,Nat.testBit_two_pow];simp
  ·cases b.testBit 63
   ·simp [hi]
   ·rw [Bool.toNat_true,Nat.one_mul,Nat.testBit_two_pow];simp [hi]
 have h3:b.testBit 63=decide (TOP ≤ b):=by
  rw [Nat.testBit_eq_decide_div_mod_eq]
  unfold TOP
  by_cases h:9223372036854775808 ≤ b
  ·have:b / 2 ^ 63 % 2=1:=by omega
   simp [this,h]
  ·have:b / 2 ^ 63 % 2=0:=by omega
   simp [this,h]
 unfold bAnd
 show (IntKind.wrap .u64 ((BitVec.ofInt 64 (b:Int) &&& BitVec.ofInt 64 9223372036854775808).toNat:Int) != 0)=_
 rw [h1,h2,h3]
 by_cases h:TOP ≤ b
 ·simp only [h,decide_true,Bool.toNat_true,Nat.one_mul]
  rfl
 ·simp only [h,decide_false,Bool.toNat_false,Nat.zero_mul]
  rfl
theorem Z4m {b:Nat} (hb:b < 18446744073709551616):bXor .u64 IntKind.u64.max (b:Int)=18446744073709551615 - b:=by
 have h1:(BitVec.ofInt 64 18446744073709551615 ^^^ BitVec.ofInt 64 (b:Int)).toNat=18446744073709551615 - b:=by
  have e1:BitVec.ofInt 64 18446744073709551615=BitVec.allOnes 64:=by decide
  rw [e1,BitVec.allOnes_xor,BitVec.toNat_not]
  have e2:(BitVec.ofInt 64 (b:Int)).toNat=b:=by
   rw [show BitVec.ofInt 64 (b:Int)=BitVec.ofNat 64 b from rfl]
   simp;omega
  rw [e2]
 unfold bXor
 show IntKind.wrap .u64 ((BitVec.ofInt 64 18446744073709551615 ^^^ BitVec.ofInt 64 (b:Int)).toNat:Int)=_
 rw [h1]
 simp [IntKind.wrap,IntKind.signed,IntKind.bits]
 omega
theorem Z6h {b:Nat} (hb:b < 9223372036854775808):bOr .u64 (b:Int) 9223372036854775808=b + 9223372036854775808:=by
 have h1:(BitVec.ofInt 64 (b:Int) ||| BitVec.ofInt 64 9223372036854775808).toNat=b + 9223372036854775808:=by
  rw [BitVec.toNat_or]
  have e1:(BitVec.ofInt 64 (b:Int)).toNat=b:=by
   rw [show BitVec.ofInt 64 (b:Int)=BitVec.ofNat 64 b from rfl]
   simp;omega
  rw [e1,show (BitVec.ofInt 64 9223372036854775808).toNat=2 ^ 63 * 1 from rfl,Nat.or_comm]
  rw [← Nat.two_pow_add_eq_or_of_lt (by simpa using hb)]
  omega
 unfold bOr
 show IntKind.wrap .u64 ((BitVec.ofInt 64 (b:Int) ||| BitVec.ofInt 64 9223372036854775808).toNat:Int)=_
 rw [h1]
 simp [IntKind.wrap,IntKind.signed,IntKind.bits]
 omega
theorem Zqt {b:Nat} (hb:b < 18446744073709551616):Zbh b < 18446744073709551616:=by
 unfold Zbh NANB;split <;> omega
theorem Zq8 {b:Nat} (hb:b < 18446744073709551616):Zj8 b=some (keyf b):=by
 unfold Zj8
 rw [Zef hb]
 simp only [Option.bind_some]
 rw [Z3l (Zqt hb)]
 unfold keyf Zbh
 by_cases h:isn b
 ·simp only [h,if_true]
  rfl
 ·simp only [h,if_false]
  by_cases ht:TOP ≤ b
  ·simp only [ht,decide_true,if_true]
   rw [Z4m hb]
  ·simp only [ht,decide_false,if_false,Bool.false_eq_true]
   rw [Z6h (by unfold TOP at ht;omega)]
theorem Zlt {a b:Nat} (ha:a < 18446744073709551616) (hb:b < 18446744073709551616):Zhv a b=some (decide (keyf a=keyf b)):=by
 unfold Zhv
 rw [Zq8 ha,Zq8 hb]
 simp [BEq.beq]
theorem Zkp {a b:Nat} (ha:a < 18446744073709551616) (hb:b < 18446744073709551616):Zj7 a b=some (decide (keyf a < keyf b)):=by
 unfold Zj7
 rw [Zq8 ha,Zq8 hb]
 simp
theorem Zoy {a:Nat} (ha:a < 18446744073709551616):Zid a=some (decide (a=Zbh a)):=by
 unfold Zid
 rw [Zef ha]
 congr 1
 by_cases h:a=Zbh a
 ·simp [← h]
 ·have:(a:Int) ≠ (Zbh a:Int):=by omega
  simp [h,this]
theorem Zwy {a b:Nat} (ha:a < 18446744073709551616) (hb:b < 18446744073709551616) (na:¬ isn a) (nb:¬ isn b):keyf a < keyf b ↔ (sg a < sg b ∨ (a=TOP ∧ b=0)):=by
 unfold keyf
 rw [if_neg na,if_neg nb]
 unfold sg isn rg INF TOP at *
 split <;> split <;> omega
theorem Zxl {a b:Nat} (ha:a < 18446744073709551616) (hb:b < 18446744073709551616) (na:¬ isn a) (nb:¬ isn b):feql a b=decide (sg a=sg b):=by
 unfold feql
 show (Ieee.double.order a b == some .eq)=_
 obtain ⟨o,ho,_,he⟩:=Zoc ha hb na nb
 rw [ho]
 by_cases h:sg a=sg b
 ·rw [he.2 h];simp [h]
 ·have:o ≠ .eq:=fun h'=>h (he.1 h')
  simp [h,this]
theorem Z28 {a b:Nat} (ha:a < 18446744073709551616) (hb:b < 18446744073709551616) (na:¬ isn a) (nb:¬ isn b):flss a b=decide (sg a < sg b):=by
 unfold flss
 show (Ieee.double.order a b == some .lt)=_
 obtain ⟨o,ho,hl,_⟩:=Zoc ha hb na nb
 rw [ho]
 by_cases h:sg a < sg b
 ·rw [hl.2 h];simp [h]
 ·have:o ≠ .lt:=fun h'=>h (hl.1 h')
  simp [h,this]
theorem Z5n:Zfe 0=some false:=by kernel_rfl
theorem Z5y:Zfe TOP=some true:=by kernel_rfl
theorem nan0:¬ isn 0:=by decide
theorem Zw4 {a:Nat} (ha:a < 18446744073709551616):sg a=sg 0 ↔ a=0 ∨ a=TOP:=by
 unfold sg TOP
 split <;> simp <;> omega
theorem Zn1 {a:Nat} (ha:a < 18446744073709551616):Zd4 a=some (decide (isn a)):=by
 unfold Zd4;rw [Zte ha]
theorem Zj4 {a b:Nat} (ha:a < 18446744073709551616) (hb:b < 18446744073709551616):Zds a b=some (decide (keyf a < keyf b)):=by
 unfold Zds
 rw [Zn1 ha,Zn1 hb]
 simp only [Option.bind_some]
 have kb:∀ x,x < 18446744073709551616 → ¬ isn x → keyf x < 18444492273895866369:=by
  intro x hx nx
  unfold keyf
  rw [if_neg nx]
  unfold isn rg INF TOP at *
  split <;> omega
 have kn:∀ x,isn x → keyf x=18444492273895866369:=fun x h=>by unfold keyf;rw [if_pos h]
 by_cases na:isn a
 ·simp only [na,decide_true,if_true]
  by_cases nb:isn b
  ·rw [kn a na,kn b nb];simp
  ·have:=kb b hb nb
   rw [kn a na];simp;omega
 ·simp only [na,decide_false,Bool.false_eq_true,if_false]
  by_cases nb:isn b
  ·have:=kb a ha na
   rw [kn b nb];simp [nb,this]
  ·simp only [nb,decide_false,Bool.false_eq_true,if_false]
   rw [Zxl ha (by decide) na nan0,Zxl hb (by decide) nb nan0,Z28 ha hb na nb]
   by_cases hz:sg a=sg 0 ∧ sg b=sg 0
   ·rw [if_pos (by simp [hz])]
    have hk:=Zwy ha hb na nb
    have h0T:(0:Nat) ≠ TOP:=by decide
    rcases (Zw4 ha).1 hz.1 with rfl | rfl <;> rcases (Zw4 hb).1 hz.2 with rfl | rfl <;> simp only [Z5n,Z5y,gd,Option.bind_some,if_true,if_false,Bool.false_eq_true,Option.some.injEq] <;> decide
   ·rw [if_neg (by simpa using hz)]
    have hk:=Zwy ha hb na nb
    congr 1
    apply decide_eq_decide.2
    rw [hk]
    constructor
    ·intro h;exact .inl h
    ·rintro (h | ⟨rfl,rfl⟩)
     ·exact h
     ·exact absurd ⟨rfl,rfl⟩ hz
theorem Zkr {a b:Nat} (ha:a < 18446744073709551616) (hb:b < 18446744073709551616):Zc2 a b=some (decide (keyf a=keyf b)):=by
 unfold Zc2
 rw [Zj4 ha hb,Zj4 hb ha]
 simp only [Option.bind_some,gd]
 by_cases h1:keyf a < keyf b
 ·have:keyf a ≠ keyf b:=by omega
  simp [h1,this]
 ·by_cases h2:keyf b < keyf a
  ·have:keyf a ≠ keyf b:=by omega
   simp [h1,h2,this]
  ·have:keyf a=keyf b:=by omega
   simp [this]
theorem Znk {a:Nat} (ha:a < 18446744073709551616):Zd6 a=some (decide (a=Zbh a)):=by
 unfold Zd6
 rw [Zn1 ha]
 unfold Zbh NANB
 by_cases h:isn a
 ·by_cases h2:a=9221120237041090561
  ·simp [h,h2]
  ·have:(a:Int) ≠ 9221120237041090561:=by omega
   simp [h,h2,this]
 ·simp [h]
theorem wr {x:Int} (h1:-9223372036854775808 ≤ x) (h2:x ≤ 9223372036854775807):IntKind.i64.wrap x=x:=by
 rw [IntKind.wrap_i64];omega
theorem wr1 {i:Nat} (h:i < 9223372036854775807):IntKind.i64.wrap ((i:Int) + 1)=((i + 1:Nat):Int):=by
 rw [wr (by omega) (by omega)];omega
theorem Zpv (n:Int):IntKind.u64.wrap n=n % 18446744073709551616:=by simp [IntKind.wrap,IntKind.bits,IntKind.signed]
theorem wru {x:Int} (h1:0 ≤ x) (h2:x < 18446744073709551616):IntKind.u64.wrap x=x:=by rw [Zpv];omega
theorem wrm {i:Nat} (h:i < 9223372036854775807) (h0:0 < i):IntKind.i64.wrap ((i:Int) - 1)=((i - 1:Nat):Int):=by
 rw [wr (by omega) (by omega)];omega
theorem idxn {α:Type} (xs:List α) (i:Nat):idx xs (i:Int)=xs[i]?:=by
 unfold idx
 rw [if_pos (by omega)]
 simp
theorem Zcy {α:Type} {xs:List α} {i:Nat} (h:i < xs.length):idx xs (i:Int)=some xs[i]:=by
 rw [idxn,List.getElem?_eq_getElem h]
theorem gd_t {β:Type} [Inhabited β] (x:Option β):gd true x=x:=rfl
theorem gd_f {β:Type} [Inhabited β] (x:Option β):gd false x=some default:=rfl
theorem Zrp {a b:ByteArray} (h:a.toList=b.toList):a=b:=by
 rw [_root_.Go.ByteArray.toList_eq,_root_.Go.ByteArray.toList_eq] at h
 exact ByteArray.ext (Array.toList_inj.1 h)
theorem Zg9 {a b:ByteArray}:sEq a b=true ↔ a=b:=by
 unfold sEq
 constructor
 ·intro h;exact Zrp (by simpa using h)
 ·rintro rfl;simp
theorem Zlz (a:ByteArray):sEq a a=true:=Zg9.2 rfl
theorem Zjt {a b:ByteArray}:sEq a b=false ↔ a ≠ b:=by
 cases h:sEq a b
 ·simp;intro e;rw [Zg9.2 e] at h;cases h
 ·simp;exact Zg9.1 h
theorem Z0k:∀ l:List UInt8,Op.bytesLess l l=false
 | []=>rfl
 | x :: l=>by simp [Op.bytesLess,Z0k l]
theorem Zvi:∀ {a b c:List UInt8},Op.bytesLess a b=true → Op.bytesLess b c=true → Op.bytesLess a c=true
 | [],[],c,h,_=>by simp [Op.bytesLess] at h
 | [],y :: b,[],_,k=>by simp [Op.bytesLess] at k
 | [],y :: b,z :: c,_,_=>rfl
 | x :: a,[],c,h,_=>by simp [Op.bytesLess] at h
 | x :: a,y :: b,[],_,k=>by simp [Op.bytesLess] at k
 | x :: a,y :: b,z :: c,h,k=>by
  simp only [Op.bytesLess,Bool.or_eq_true,Bool.and_eq_true,decide_eq_true_eq,beq_iff_eq] at h k ⊢
  rcases h with h | ⟨h1,h2⟩ <;> rcases k with k | ⟨k1,k2⟩
  ·exact .inl (UInt8.lt_trans h k)
  ·subst k1;exact .inl h
  ·subst h1;exact .inl k
  ·subst h1;subst k1;exact .inr ⟨rfl,Zvi h2 k2⟩
theorem Z0e:∀ (a b:List UInt8),Op.bytesLess a b=false → a ≠ b → Op.bytesLess b a=true
 | [],[],_,h=>absurd rfl h
 | [],y :: b,h,_=>by simp [Op.bytesLess] at h
 | x :: a,[],_,_=>rfl
 | x :: a,y :: b,h,hn=>by
  simp only [Op.bytesLess,Bool.or_eq_false_iff,decide_eq_false_iff_not,Bool.and_eq_false_iff] at h
  simp only [Op.bytesLess,Bool.or_eq_true,Bool.and_eq_true,decide_eq_true_eq,beq_iff_eq]
  by_cases e:x=y
  ·subst e
   right
   refine ⟨rfl,Z0e a b ?_ (fun h'=>hn (by rw [h']))⟩
   rcases h.2 with h | h
   ·simp at h
   ·exact h
  ·left
   rcases UInt8.lt_or_lt_of_ne e with h' | h'
   ·exact absurd h' h.1
   ·exact h'
theorem Zlp (a:ByteArray):sLt a a=false:=Z0k _
theorem Zi6 {a b c:ByteArray} (h:sLt a b=true) (k:sLt b c=true):sLt a c=true:=Zvi h k
theorem Zsm {a b:ByteArray} (h:sLt a b=false) (hn:a ≠ b):sLt b a=true:=Z0e _ _ h (fun e=>hn (Zrp e))
theorem Z1b {a b:ByteArray} (h:sLt a b=true):sLt b a=false:=by
 cases k:sLt b a
 ·rfl
 ·have:=Zi6 h k
  rw [Zlp] at this;cases this
theorem Zpe {a b:ByteArray} (h:sLt a b=true):a ≠ b:=fun e=>by subst e;rw [Zlp] at h;cases h
abbrev W64:Nat:=18446744073709551616
structure Zh0 (a:Za):Prop where
 real:a.Real < W64
 len:a.List.length < 4611686018427387904
 sc:∀ e ∈ a.List,e.Score < W64
def Zb0 (a b:Zd):Bool:=if keyf a.Score=keyf b.Score then sLt a.Name b.Name else decide (keyf b.Score < keyf a.Score)
theorem Zmj {a b:Zd} (ha:a.Score < W64) (hb:b.Score < W64):Zij a b=some (Zb0 a b):=by
 unfold Zij Zb0
 rw [Zlt ha hb,Zkp hb ha]
 by_cases h:keyf a.Score=keyf b.Score <;> simp [h]
theorem Zu1 {a b:Zd} (ha:a.Score < W64) (hb:b.Score < W64):Zee a b=some (Zb0 a b):=by
 unfold Zee Zb0
 rw [Zj4 hb ha,Zkr ha hb]
 by_cases h:keyf a.Score=keyf b.Score
 ·simp [h]
 ·by_cases h2:keyf b.Score < keyf a.Score <;> simp [h,h2]
theorem Zw5 {a:Nat} (ha:a < W64):Zfk a=some (decide (keyf a=keyf 0)):=by
 unfold Zfk
 rw [Zkr ha (by decide)]
 rfl
def Zgc (k:Int) (l:List Zd) (i:Nat):Int :=
 match l[i]? with
 | none=>0
 | some x =>
  let p:=(l[i - 1]?).getD default
  if (16:Int) < x.Name.size then 3
  else if (k=8 ∧ keyf x.Score ≠ keyf 0) ∨ x.Score ≠ Zbh x.Score then 4
  else if 0 < i ∧ k=8 ∧ sLt p.Name x.Name=false then 4
  else if 0 < i ∧ k=9 ∧ Zb0 p x=false then 4
  else 0
theorem Zy5 {k:Int} {l:List Zd} {i n:Nat} (hi:i < l.length) (hl:l.length < 4611686018427387904) (hs:∀ e ∈ l,e.Score < W64) :
  Zem k l (n + 1) (i:Int)=if Zgc k l i=0 then Zem k l n ((i + 1:Nat):Int) else some (.inl (Zgc k l i)):=by
 have hx:l[i].Score < W64:=hs _ (List.getElem_mem hi)
 rw [Zem,if_pos (by simp;omega),Zcy hi,wr1 (by omega)]
 simp only [Option.bind_some]
 rw [Zlt hx (by decide),Zoy hx]
 simp only [Zgc,List.getElem?_eq_getElem hi]
 by_cases h1:(16:Int) < l[i].Name.size
 ·simp [h1]
 ·simp only [h1,decide_false,if_false,Bool.false_eq_true]
  have hz:((0:Nat):Int)=0:=rfl
  by_cases h0:0 < i
  ·have hp:i - 1 < l.length:=by omega
   have hps:l[i - 1].Score < W64:=hs _ (List.getElem_mem hp)
   have hd:(decide ((0:Int) < (i:Int)))=true:=by simp;omega
   rw [hd,wrm (by omega) h0,Zcy hp]
   simp only [List.getElem?_eq_getElem hp,Option.getD_some,h0,true_and,Bool.true_and]
   by_cases h8:k=8
   ·subst h8
    simp only [beq_self_eq_true,gd_t,Option.bind_some,true_and,Bool.true_and]
    by_cases hk:keyf l[i].Score=keyf 0
    ·by_cases hc:l[i].Score=Zbh l[i].Score
     ·simp [hk,← hc,gd]
      cases sLt l[i - 1].Name l[i].Name <;> simp
     ·simp [hk,hc,gd]
    ·simp [hk,gd]
   ·have h8':(k == 8)=false:=by simpa using h8
    simp only [h8',h8,gd_f,gd_t,Option.bind_some,false_and,false_or,Bool.false_and,Bool.not_false,Bool.false_or]
    by_cases hc:l[i].Score=Zbh l[i].Score
    ·by_cases h9:k=9
     ·subst h9
      simp [← hc,gd,Zmj hps hx]
      cases Zb0 l[i - 1] l[i] <;> simp
     ·simp [← hc,gd,h9]
    ·simp [hc]
  ·have h00:i=0:=by omega
   subst h00
   simp only [Nat.lt_irrefl,false_and,if_false,Int.ofNat_zero,Int.lt_irrefl,decide_false,Bool.false_and,gd_f,Option.bind_some,Int.natCast_zero]
   by_cases h8:k=8
   ·subst h8
    simp only [beq_self_eq_true,gd_t,Option.bind_some,true_and,Bool.true_and]
    by_cases hk:keyf l[0].Score=keyf 0
    ·by_cases hc:l[0].Score=Zbh l[0].Score
     ·simp [hk,← hc,gd]
     ·simp [hk,hc,gd]
    ·simp [hk,gd]
   ·have h8':(k == 8)=false:=by simpa using h8
    simp only [h8',h8,gd_f,gd_t,Option.bind_some,false_and,false_or,Bool.false_and,Bool.not_false,Bool.false_or]
    by_cases hc:l[0].Score=Zbh l[0].Score
    ·simp [← hc,gd]
    ·simp [hc]
theorem Z0p {k:Int} {l:List Zd} {i:Nat} (hi:i < l.length) (hl:l.length < 4611686018427387904) (hs:∀ e ∈ l,e.Score < W64):Zgv k l (i:Int)=some (Zgc k l i):=by
 have hx:l[i].Score < W64:=hs _ (List.getElem_mem hi)
 unfold Zgv
 rw [Zcy hi]
 simp only [Option.bind_some]
 rw [Zw5 hx,Znk hx]
 simp only [Zgc,List.getElem?_eq_getElem hi]
 by_cases h1:(16:Int) < l[i].Name.size
 ·simp [h1]
 ·simp only [h1,decide_false,if_false,Bool.false_eq_true]
  by_cases h0:0 < i
  ·have hp:i - 1 < l.length:=by omega
   have hps:l[i - 1].Score < W64:=hs _ (List.getElem_mem hp)
   have hd:(decide ((0:Int) < (i:Int)))=true:=by simp;omega
   rw [hd,wrm (by omega) h0,Zcy hp]
   simp only [List.getElem?_eq_getElem hp,Option.getD_some,h0,true_and,Bool.true_and]
   by_cases h8:k=8
   ·subst h8
    simp only [beq_self_eq_true,gd_t,Option.bind_some,true_and,Bool.true_and]
    by_cases hk:keyf l[i].Score=keyf 0
    ·by_cases hc:l[i].Score=Zbh l[i].Score
     ·simp [hk,← hc,gd]
      cases sLt l[i - 1].Name l[i].Name <;> simp
     ·simp [hk,hc,gd]
    ·simp [hk,gd]
   ·have h8':(k == 8)=false:=by simpa using h8
    simp only [h8',h8,gd_f,gd_t,Option.bind_some,false_and,false_or,Bool.false_and,Bool.not_false,Bool.false_or]
    by_cases hc:l[i].Score=Zbh l[i].Score
    ·by_cases h9:k=9
     ·subst h9
      simp [← hc,gd,Zu1 hps hx]
      cases Zb0 l[i - 1] l[i] <;> simp
     ·simp [← hc,gd,h9]
    ·simp [hc]
  ·have h00:i=0:=by omega
   subst h00
   simp only [Nat.lt_irrefl,false_and,if_false,Int.ofNat_zero,Int.lt_irrefl,decide_false,Bool.false_and,gd_f,Option.bind_some,Int.natCast_zero]
   by_cases h8:k=8
   ·subst h8
    simp only [beq_self_eq_true,gd_t,Option.bind_some,true_and,Bool.true_and]
    by_cases hk:keyf l[0].Score=keyf 0
    ·by_cases hc:l[0].Score=Zbh l[0].Score
     ·simp [hk,← hc,gd]
     ·simp [hk,hc,gd]
    ·simp [hk,gd]
   ·have h8':(k == 8)=false:=by simpa using h8
    simp only [h8',h8,gd_f,gd_t,Option.bind_some,false_and,false_or,Bool.false_and,Bool.not_false,Bool.false_or]
    by_cases hc:l[0].Score=Zbh l[0].Score
    ·simp [← hc,gd]
    ·simp [hc]
def Zhk (k:Int) (l:List Zd):Nat → Nat → Int
 | _,0=>0
 | i,n + 1=>if Zgc k l i=0 then Zhk k l (i + 1) n else Zgc k l i
def endC (c:Int):Int ⊕ Unit:=if c=0 then .inr () else .inl c
theorem Zqw {k:Int} {l:List Zd} {i n:Nat} (h:Zgc k l i=0):Zhk k l i (n + 1)=Zhk k l (i + 1) n:=by simp [Zhk,h]
theorem Zq0 {k:Int} {l:List Zd} {i n:Nat} (h:¬ Zgc k l i=0):Zhk k l i (n + 1)=Zgc k l i:=by simp [Zhk,h]
theorem Zzs {c:Int} (h:¬ c=0):endC c=.inl c:=if_neg h
theorem Zq7 {k:Int} {l:List Zd} (hl:l.length < 4611686018427387904) (hs:∀ e ∈ l,e.Score < W64):∀ (n i:Nat),i + n=l.length →
  Zem k l (n + 1) (i:Int)=some (endC (Zhk k l i n))
 | 0,i,h=>by
  rw [Zem,if_neg (by simp;omega)]
  rfl
 | n + 1,i,h=>by
  rw [Zy5 (by omega) hl hs]
  by_cases hc:Zgc k l i=0
  ·rw [if_pos hc,Zqw hc,Zq7 hl hs n (i + 1) (by omega)]
  ·rw [if_neg hc,Zq0 hc,Zzs hc]
theorem Z0o {k:Int} {l:List Zd} (hl:l.length < 4611686018427387904) (hs:∀ e ∈ l,e.Score < W64):Zk7 k l=some (Zhk k l 0 l.length):=by
 unfold Zk7
 rw [show (Int.toNat ((l.length:Int) - (0:Int)) + 1)=l.length + 1 by omega,show (0:Int)=((0:Nat):Int) from rfl,Zq7 hl hs l.length 0 (by omega)]
 unfold endC
 by_cases h:Zhk k l 0 l.length=0 <;> simp [h]
theorem Zqb {a:Za} (ha:Zh0 a):∀ (n i:Nat),i + n=a.List.length →
  Zdc a (n + 1) (i:Int)=some (endC (Zhk a.Kind a.List i n))
 | 0,i,h=>by
  rw [Zdc,if_neg (by simp;omega)]
  rfl
 | n + 1,i,h=>by
  have hl:=ha.len
  rw [Zdc,if_pos (by simp;omega),Z0p (by omega) hl ha.sc,wr1 (by omega)]
  simp only [Option.bind_some]
  by_cases hc:Zgc a.Kind a.List i=0
  ·rw [if_neg (by simp [hc]),Zqw hc,Zqb ha n (i + 1) (by omega)]
  ·rw [if_pos (by simp [hc]),Zq0 hc,Zzs hc]
def Zgb (t n b r l:Bool) (a:Za):Bool:=(t || sEq a.Text ⟨#[]⟩) && (n || a.Num == 0) && (b || (a.Low == 0 && a.High == 0)) && (r || decide (keyf a.Real=keyf 0)) && (l || (a.Cap == 0 && (a.List.length:Int) == 0))
theorem Z4r {a:Za} (ha:Zh0 a) (t n b r l:Bool):Zma a ⟨t,n,b,r,l⟩=some (Zgb t n b r l a):=by
 unfold Zma Zgb
 rw [Zlt ha.real (by decide)]
 simp only
 generalize sEq a.Text ⟨#[]⟩=x1
 generalize (a.Num == 0)=x2
 generalize (a.Low == 0)=x3
 generalize (a.High == 0)=x4
 generalize decide (keyf a.Real=keyf 0)=x5
 generalize (a.Cap == 0)=x6
 generalize ((a.List.length:Int) == 0)=x7
 revert t n b r l x1 x2 x3 x4 x5 x6 x7
 decide
theorem Z3q {a:Za} (ha:Zh0 a) {s:ByteArray} {t n b r l:Bool} (h:Zb9 s (Int.toNat ((s.size:Int) - (0:Int)) + 1) false false false false false 0=some (t,n,b,r,l)):Zgw a s=some (Zgb t n b r l a):=by
 unfold Zgw Zgb
 rw [h,Zw5 ha.real]
 simp only [Option.bind_some,bne]
 generalize sEq a.Text ⟨#[]⟩=x1
 generalize (a.Num == 0)=x2
 generalize (a.Low == 0)=x3
 generalize (a.High == 0)=x4
 generalize decide (keyf a.Real=keyf 0)=x5
 generalize (a.Cap == 0)=x6
 generalize ((a.List.length:Int) == 0)=x7
 clear h
 revert t n b r l x1 x2 x3 x4 x5 x6 x7
 decide
theorem Z62:Zb9 ⟨#[116]⟩ (Int.toNat (((⟨#[116]⟩:ByteArray).size:Int) - (0:Int)) + 1) false false false false false 0=some (true,false,false,false,false):=by kernel_rfl
theorem Z18:Zb9 ⟨#[110]⟩ (Int.toNat (((⟨#[110]⟩:ByteArray).size:Int) - (0:Int)) + 1) false false false false false 0=some (false,true,false,false,false):=by kernel_rfl
theorem Z58:Zb9 ⟨#[110,98]⟩ (Int.toNat (((⟨#[110,98]⟩:ByteArray).size:Int) - (0:Int)) + 1) false false false false false 0=some (false,true,true,false,false):=by kernel_rfl
theorem Zyc:Zb9 ⟨#[114]⟩ (Int.toNat (((⟨#[114]⟩:ByteArray).size:Int) - (0:Int)) + 1) false false false false false 0=some (false,false,false,true,false):=by kernel_rfl
theorem Z2h:Zb9 ⟨#[108]⟩ (Int.toNat (((⟨#[108]⟩:ByteArray).size:Int) - (0:Int)) + 1) false false false false false 0=some (false,false,false,false,true):=by kernel_rfl
def Zng (t n b r l:Bool) (a:Za):Int :=
 if Zgb t n b r l a=false then 4
 else if (64:Int) < a.Text.size then 3
 else if b=true ∧ (a.Low < -2305843009213693952 ∨ 2305843009213693952 < a.High ∨ a.Num < a.Low ∨ a.High < a.Num) then 1
 else if a.Real ≠ Zbh a.Real then 4
 else if l=false then 0
 else if a.Cap < 1 ∨ 32 < a.Cap then 1
 else if a.Cap < a.List.length then 8
 else Zhk a.Kind a.List 0 a.List.length
theorem Zey {a:Za} (ha:Zh0 a) {t n b r l:Bool} (hk:¬ (a.Kind ≤ 0 ∨ 10 ≤ a.Kind)) (hs:Zdl a.Kind=some ⟨t,n,b,r,l⟩):Zdg a=some (Zng t n b r l a):=by
 unfold Zdg Zng
 rw [hs]
 simp only [Option.bind_some]
 rw [Z4r ha,Zoy ha.real,Z0o ha.len ha.sc]
 simp only [Option.bind_some]
 rw [if_neg (by simpa using hk)]
 by_cases h1:Zgb t n b r l a=false
 ·rw [if_pos h1,if_pos (by simp [h1])]
 ·rw [if_neg h1,if_neg (by simpa using h1)]
  by_cases h2:(64:Int) < a.Text.size
  ·rw [if_pos h2,if_pos (by simpa using h2)]
  ·rw [if_neg h2,if_neg (by simpa using h2)]
   by_cases h3:b=true ∧ (a.Low < -2305843009213693952 ∨ 2305843009213693952 < a.High ∨ a.Num < a.Low ∨ a.High < a.Num)
   ·rw [if_pos h3,if_pos (by simpa [or_assoc] using h3)]
   ·rw [if_neg h3,if_neg (by simpa [or_assoc] using h3)]
    by_cases h4:a.Real=Zbh a.Real
    ·rw [if_neg (show ¬ (a.Real ≠ Zbh a.Real) from fun h=>h h4),decide_eq_true h4]
     simp only [Bool.not_true,Bool.false_eq_true,if_false]
     cases l
     ·simp
     ·simp only [Bool.not_true,Bool.false_eq_true,if_false,Bool.true_eq_false]
      by_cases h5:a.Cap < 1 ∨ 32 < a.Cap
      ·rw [if_pos h5,if_pos (by simpa using h5)]
      ·rw [if_neg h5,if_neg (by simpa using h5)]
       by_cases h6:a.Cap < a.List.length
       ·rw [if_pos h6,if_pos (by simpa using h6)]
       ·rw [if_neg h6,if_neg (by simpa using h6)]
    ·rw [if_pos (show a.Real ≠ Zbh a.Real from h4),decide_eq_false h4]
     rfl
theorem Zzo:Zdl 1=some ⟨true,false,false,false,false⟩:=by kernel_rfl
theorem Zzn:Zdl 2=some ⟨false,true,false,false,false⟩:=by kernel_rfl
theorem Z0j:Zdl 3=some ⟨false,true,false,false,false⟩:=by kernel_rfl
theorem Zz2:Zdl 4=some ⟨false,true,true,false,false⟩:=by kernel_rfl
theorem Z0g:Zdl 5=some ⟨false,false,false,true,false⟩:=by kernel_rfl
theorem Zzx:Zdl 6=some ⟨false,false,false,true,false⟩:=by kernel_rfl
theorem Z0i:Zdl 7=some ⟨false,false,false,true,false⟩:=by kernel_rfl
theorem Z0f:Zdl 8=some ⟨false,false,false,false,true⟩:=by kernel_rfl
theorem Zy4:Zdl 9=some ⟨false,false,false,false,true⟩:=by kernel_rfl
def Zpl (t n b r l:Bool) (k:Int) (a:Za):Int :=
 if Zgb t n b r l a=false then 4
 else if k=1 ∧ (64:Int) < a.Text.size then 3
 else if k=4 ∧ (a.Low < -2305843009213693952 ∨ 2305843009213693952 < a.High ∨ a.Num < a.Low ∨ a.High < a.Num) then 1
 else if a.Real ≠ Zbh a.Real then 4
 else if k < 8 then 0
 else if a.Cap < 1 ∨ 32 < a.Cap then 1
 else if a.Cap < a.List.length then 8
 else Zhk a.Kind a.List 0 a.List.length
theorem Zez {a:Za} (ha:Zh0 a) {t n b r l:Bool} {s:ByteArray} (hk:¬ (a.Kind < 1 ∨ 9 < a.Kind)) (hf:Zhd a.Kind=some s)
  (ho:Zb9 s (Int.toNat ((s.size:Int) - (0:Int)) + 1) false false false false false 0=some (t,n,b,r,l)):Zcw a=some (Zpl t n b r l a.Kind a):=by
 unfold Zcw Zpl
 have hw:IntKind.i64.wrap (0 - (2305843009213693952:Int))=-2305843009213693952:=by decide
 rw [hf,Znk ha.real,hw,show (Int.toNat ((a.List.length:Int) - (0:Int)) + 1)=a.List.length + 1 by omega]
 have hloop:=Zqb ha a.List.length 0 (by omega)
 rw [show ((0:Nat):Int)=0 from rfl] at hloop
 rw [hloop]
 simp only [Option.bind_some]
 rw [if_neg (by simpa using hk),Z3q ha ho]
 simp only [Option.bind_some]
 by_cases h1:Zgb t n b r l a=false
 ·rw [if_pos h1,if_pos (by simp [h1])]
 ·rw [if_neg h1,if_neg (by simpa using h1)]
  by_cases h2:a.Kind=1 ∧ (64:Int) < a.Text.size
  ·rw [if_pos h2,if_pos (by simpa using h2)]
  ·rw [if_neg h2,if_neg (by simpa using h2)]
   by_cases h3:a.Kind=4 ∧ (a.Low < -2305843009213693952 ∨ 2305843009213693952 < a.High ∨ a.Num < a.Low ∨ a.High < a.Num)
   ·rw [if_pos h3,if_pos (by simpa [or_assoc] using h3)]
   ·rw [if_neg h3,if_neg (by simpa [or_assoc] using h3)]
    by_cases h4:a.Real=Zbh a.Real
    ·rw [if_neg (show ¬ (a.Real ≠ Zbh a.Real) from fun h=>h h4),decide_eq_true h4]
     simp only [Bool.not_true,Bool.false_eq_true,if_false]
     by_cases h7:a.Kind < 8
     ·rw [if_pos h7,if_pos (by simpa using h7)]
     ·rw [if_neg h7,if_neg (by simpa using h7)]
      by_cases h5:a.Cap < 1 ∨ 32 < a.Cap
      ·rw [if_pos h5,if_pos (by simpa using h5)]
      ·rw [if_neg h5,if_neg (by simpa using h5)]
       by_cases h6:a.Cap < a.List.length
       ·rw [if_pos h6,if_pos (by simpa using h6)]
       ·rw [if_neg h6,if_neg (by simpa using h6)]
        unfold endC
        by_cases h:Zhk a.Kind a.List 0 a.List.length=0 <;> simp [h]
    ·rw [if_pos (show a.Real ≠ Zbh a.Real from h4),decide_eq_false h4]
     rfl
theorem Z3v {t n b r l:Bool} {a:Za} (h:¬ Zgb t n b r l a=false) (ht:t=false):a.Text.size=0:=by
 subst ht
 have:Zgb false n b r l a=true:=by simpa using h
 unfold Zgb at this
 simp only [Bool.false_or,Bool.and_eq_true] at this
 have:=Zg9.1 this.1.1.1.1
 rw [this];rfl
theorem D_eq (t n b r l:Bool) (k:Int) (a:Za) (ht:t=true ↔ k=1) (hb:b=true ↔ k=4) (hl:l=false ↔ k < 8):Zpl t n b r l k a=Zng t n b r l a:=by
 unfold Zpl Zng
 by_cases h1:Zgb t n b r l a=false
 ·rw [if_pos h1,if_pos h1]
 ·rw [if_neg h1,if_neg h1]
  have e2:(k=1 ∧ (64:Int) < a.Text.size) ↔ (64:Int) < a.Text.size:=by
   constructor
   ·exact fun h=>h.2
   ·intro h
    refine ⟨ht.1 ?_,h⟩
    cases t
    ·have:=Z3v h1 rfl;omega
    ·rfl
  simp only [e2,hb,hl]
theorem Zki {a:Za} (ha:Zh0 a):∃ c,Zdg a=some c ∧ Zcw a=some c:=by
 by_cases hk:a.Kind ≤ 0 ∨ 10 ≤ a.Kind
 ·refine ⟨5,?_,?_⟩
  ·unfold Zdg
   have hs:∃ s,Zdl a.Kind=some s:=by
    have h1:¬ a.Kind=1:=by omega
    have h2:¬ a.Kind=2:=by omega
    have h3:¬ a.Kind=3:=by omega
    have h4:¬ a.Kind=4:=by omega
    have h5:¬ a.Kind=5:=by omega
    have h6:¬ a.Kind=6:=by omega
    have h7:¬ a.Kind=7:=by omega
    have h8:¬ a.Kind=8:=by omega
    have h9:¬ a.Kind=9:=by omega
    exact ⟨⟨false,false,false,false,false⟩,by simp [Zdl,Zio,Zg5,Zik,h1,h2,h3,h4,h5,h6,h7,h8,h9]⟩
   obtain ⟨s,hs⟩:=hs
   rw [hs]
   simp only [Option.bind_some]
   rw [if_pos (by simpa using hk)]
  ·unfold Zcw
   rw [if_pos (by simp;omega)]
 ·have hk2:¬ (a.Kind < 1 ∨ 9 < a.Kind):=by omega
  have hk':a.Kind=1 ∨ a.Kind=2 ∨ a.Kind=3 ∨ a.Kind=4 ∨ a.Kind=5 ∨ a.Kind=6 ∨ a.Kind=7 ∨ a.Kind=8 ∨ a.Kind=9:=by omega
  rcases hk' with h | h | h | h | h | h | h | h | h
  ·exact ⟨_,Zey ha hk (by rw [h];exact Zzo),by rw [Zez ha hk2 (by rw [h];kernel_rfl) Z62,D_eq _ _ _ _ _ _ _ (by simp [h]) (by simp [h]) (by simp [h])]⟩
  ·exact ⟨_,Zey ha hk (by rw [h];exact Zzn),by rw [Zez ha hk2 (by rw [h];kernel_rfl) Z18,D_eq _ _ _ _ _ _ _ (by simp [h]) (by simp [h]) (by simp [h])]⟩
  ·exact ⟨_,Zey ha hk (by rw [h];exact Z0j),by rw [Zez ha hk2 (by rw [h];kernel_rfl) Z18,D_eq _ _ _ _ _ _ _ (by simp [h]) (by simp [h]) (by simp [h])]⟩
  ·exact ⟨_,Zey ha hk (by rw [h];exact Zz2),by rw [Zez ha hk2 (by rw [h];kernel_rfl) Z58,D_eq _ _ _ _ _ _ _ (by simp [h]) (by simp [h]) (by simp [h])]⟩
  ·exact ⟨_,Zey ha hk (by rw [h];exact Z0g),by rw [Zez ha hk2 (by rw [h];kernel_rfl) Zyc,D_eq _ _ _ _ _ _ _ (by simp [h]) (by simp [h]) (by simp [h])]⟩
  ·exact ⟨_,Zey ha hk (by rw [h];exact Zzx),by rw [Zez ha hk2 (by rw [h];kernel_rfl) Zyc,D_eq _ _ _ _ _ _ _ (by simp [h]) (by simp [h]) (by simp [h])]⟩
  ·exact ⟨_,Zey ha hk (by rw [h];exact Z0i),by rw [Zez ha hk2 (by rw [h];kernel_rfl) Zyc,D_eq _ _ _ _ _ _ _ (by simp [h]) (by simp [h]) (by simp [h])]⟩
  ·exact ⟨_,Zey ha hk (by rw [h];exact Z0f),by rw [Zez ha hk2 (by rw [h];kernel_rfl) Z2h,D_eq _ _ _ _ _ _ _ (by simp [h]) (by simp [h]) (by simp [h])]⟩
  ·exact ⟨_,Zey ha hk (by rw [h];exact Zy4),by rw [Zez ha hk2 (by rw [h];kernel_rfl) Z2h,D_eq _ _ _ _ _ _ _ (by simp [h]) (by simp [h]) (by simp [h])]⟩
def endB:Bool → Bool ⊕ Unit
 | true=>.inr ()
 | false=>.inl false
def eqI (x y:Zd):Bool:=sEq x.Name y.Name && decide (keyf x.Score=keyf y.Score)
def eqL:List Zd → List Zd → Bool
 | [],[]=>true
 | x :: xs,y :: ys=>eqI x y && eqL xs ys
 | _,_=>false
def Zjk (a b:Za):Bool:=(a.Kind == b.Kind) && (a.Num == b.Num) && (a.Low == b.Low) && (a.High == b.High) && decide (keyf a.Real=keyf b.Real) && (a.Cap == b.Cap) && sEq a.Text b.Text && eqL a.List b.List
theorem Zr2:∀ {a b:List Zd},eqL a b=true → a.length=b.length
 | [],[],_=>rfl
 | x :: xs,y :: ys,h=>by
  simp only [eqL,Bool.and_eq_true] at h
  simp [Zr2 h.2]
 | [],_ :: _,h=>by simp [eqL] at h
 | _ :: _,[],h=>by simp [eqL] at h
theorem Z0u {x y:Zd} (hx:x.Score < W64) (hy:y.Score < W64):Zhm x y=some (eqI x y):=by
 unfold Zhm eqI
 rw [Zlt hx hy]
 cases sEq x.Name y.Name <;> simp [gd]
theorem Zut {a b:List Zd} (ha:∀ e ∈ a,e.Score < W64) (hb:∀ e ∈ b,e.Score < W64) (hl:a.length < 4611686018427387904) (he:a.length=b.length):∀ (n i:Nat),i + n=a.length →
  Zbd a b (fun y0 y1=>Zhm y0 y1) (n + 1) (i:Int)=some (endB (eqL (a.drop i) (b.drop i)))
 | 0,i,h=>by
  rw [Zbd,if_neg (by simp;omega),List.drop_of_length_le (by omega),List.drop_of_length_le (by omega)]
  rfl
 | n + 1,i,h=>by
  have h1:i < a.length:=by omega
  have h2:i < b.length:=by omega
  rw [Zbd,if_pos (by simp;omega),Zcy h1,Zcy h2,wr1 (by omega)]
  simp only [Option.bind_some]
  rw [Z0u (ha _ (List.getElem_mem h1)) (hb _ (List.getElem_mem h2)),List.drop_eq_getElem_cons h1,List.drop_eq_getElem_cons h2]
  simp only [Option.bind_some,eqL]
  cases hq:eqI a[i] b[i]
  ·simp [endB]
  ·simp only [Bool.not_true,Bool.false_eq_true,if_false,Bool.true_and]
   exact Zut ha hb hl he n (i + 1) (by omega)
theorem Z6p {a b:List Zd} (ha:∀ e ∈ a,e.Score < W64) (hb:∀ e ∈ b,e.Score < W64) (hl:a.length < 4611686018427387904):Zbx a b (fun y0 y1=>Zhm y0 y1)=some (eqL a b):=by
 unfold Zbx
 by_cases he:a.length=b.length
 ·rw [if_neg (by simp;omega),show (Int.toNat ((a.length:Int) - (0:Int)) + 1)=a.length + 1 by omega]
  have:=Zut ha hb hl he a.length 0 (by omega)
  rw [show ((0:Nat):Int)=0 from rfl] at this
  rw [this]
  simp only [List.drop_zero]
  cases eqL a b <;> simp [endB]
 ·rw [if_pos (by simp;omega)]
  cases h:eqL a b
  ·rfl
  ·exact absurd (Zr2 h) he
theorem Z0s {a b:Za} (ha:Zh0 a) (hb:Zh0 b):Zlv a b=some (Zjk a b):=by
 unfold Zlv Zjk
 rw [Zlt ha.real hb.real,Z6p ha.sc hb.sc ha.len]
 generalize (a.Kind == b.Kind)=x1
 generalize (a.Num == b.Num)=x2
 generalize (a.Low == b.Low)=x3
 generalize (a.High == b.High)=x4
 generalize decide (keyf a.Real=keyf b.Real)=x5
 generalize (a.Cap == b.Cap)=x6
 generalize sEq a.Text b.Text=x7
 generalize eqL a.List b.List=x8
 revert x1 x2 x3 x4 x5 x6 x7 x8
 decide
theorem Zra {a b:Za} (ha:Zh0 a) (hb:Zh0 b) (he:a.List.length=b.List.length):∀ (n i:Nat),i + n=a.List.length →
  Zdh a b (n + 1) (i:Int)=some (endB (eqL (a.List.drop i) (b.List.drop i)))
 | 0,i,h=>by
  rw [Zdh,if_neg (by simp;omega),List.drop_of_length_le (by omega),List.drop_of_length_le (by omega)]
  rfl
 | n + 1,i,h=>by
  have h1:i < a.List.length:=by omega
  have h2:i < b.List.length:=by omega
  have hl:=ha.len
  have hs1:=ha.sc _ (List.getElem_mem h1)
  have hs2:=hb.sc _ (List.getElem_mem h2)
  rw [Zdh,if_pos (by simp;omega),Zcy h1,Zcy h2,wr1 (by omega),List.drop_eq_getElem_cons h1,List.drop_eq_getElem_cons h2]
  simp only [Option.bind_some,eqL,eqI]
  cases hn:sEq a.List[i].Name b.List[i].Name
  ·simp [gd,endB]
  ·simp only [Bool.not_true,Bool.not_false,gd_t,Option.bind_some]
   rw [Zkr hs1 hs2]
   simp only [Option.bind_some,Bool.false_or,Bool.true_and]
   by_cases hk:keyf a.List[i].Score=keyf b.List[i].Score
   ·simp only [hk,decide_true,Bool.not_true,Bool.false_eq_true,if_false,Bool.true_and]
    exact Zra ha hb he n (i + 1) (by omega)
   ·simp [hk,endB]
theorem Zs9 {a b:Za} (ha:Zh0 a) (hb:Zh0 b):Zes a b=some (Zjk a b):=by
 unfold Zes Zjk
 rw [Zkr ha.real hb.real]
 by_cases he:a.List.length=b.List.length
 ·have:=Zra ha hb he a.List.length 0 (by omega)
  rw [show ((0:Nat):Int)=0 from rfl] at this
  rw [show (Int.toNat ((a.List.length:Int) - (0:Int)) + 1)=a.List.length + 1 by omega,this]
  have hn:((a.List.length:Int) != (b.List.length:Int))=false:=by simp;omega
  rw [hn]
  simp only [List.drop_zero,bne]
  generalize (a.Kind == b.Kind)=x1
  generalize (a.Num == b.Num)=x2
  generalize (a.Low == b.Low)=x3
  generalize (a.High == b.High)=x4
  generalize decide (keyf a.Real=keyf b.Real)=x5
  generalize (a.Cap == b.Cap)=x6
  generalize sEq a.Text b.Text=x7
  generalize eqL a.List b.List=x8
  clear this hn he
  revert x1 x2 x3 x4 x5 x6 x7 x8
  decide
 ·have h8:eqL a.List b.List=false:=by
   cases h:eqL a.List b.List
   ·rfl
   ·exact absurd (Zr2 h) he
  have hn:((a.List.length:Int) != (b.List.length:Int))=true:=by simp;omega
  rw [hn,h8]
  simp only [bne,Bool.or_true,Option.bind_some,if_true,Bool.and_false,ite_self]
theorem Zrm {a:Za} (hl:a.List.length ≤ 9223372036854775807):∀ (n i:Nat),i + n=a.List.length → ∃ z,Zdq a (n + 1) (i:Int)=some z ∧ (z=.inl 1 ∨ z=.inr ())
 | 0,i,h=>by
  rw [Zdq,if_neg (by simp;omega)]
  exact ⟨_,rfl,.inr rfl⟩
 | n + 1,i,h=>by
  rw [Zdq,if_pos (by simp;omega),Zcy (by omega),wr1 (by omega)]
  simp only [Option.bind_some]
  split
  ·exact ⟨_,rfl,.inl rfl⟩
  ·exact Zrm hl n (i + 1) (by omega)
theorem Z2u {a:Za} (hl:a.List.length ≤ 9223372036854775807):∃ c,Zf9 a=some c ∧ (c=0 ∨ c=1) ∧ (c=0 → a.List.length ≤ 100):=by
 unfold Zf9
 by_cases h:(100:Int) < a.List.length ∨ (1000:Int) < a.Text.size
 ·rw [if_pos (by simpa using h)]
  exact ⟨1,rfl,.inr rfl,fun h=>by cases h⟩
 ·rw [if_neg (by simpa using h),show (Int.toNat ((a.List.length:Int) - (0:Int)) + 1)=a.List.length + 1 by omega]
  obtain ⟨z,hz,hc⟩:=Zrm hl a.List.length 0 (by omega)
  rw [show ((0:Nat):Int)=0 from rfl] at hz
  rw [hz]
  rcases hc with rfl | rfl
  ·exact ⟨1,rfl,.inr rfl,fun h=>by cases h⟩
  ·exact ⟨0,rfl,.inl rfl,fun _=>by omega⟩
theorem Zpo {β:Type} [Inhabited β] (c:Bool) (v:β):gd c (some v)=some (if c then v else default):=by cases c <;> rfl
def Zpn (a:Zg):Prop:=Zh0 a.Make ∧ a.X < W64
abbrev zrc:Za:={ Kind:=0,Num:=0,Low:=0,High:=0,Real:=0,Cap:=0,Text:=ByteArray.empty,List:=[] }
theorem Z0a:Zh0 zrc:=⟨by decide,by decide,fun e he=>by cases he⟩
def actD (n x s m o1 k1 k2:Bool) (c:Int) (a:Zg):Int :=
 if (sEq a.Key ⟨#[]⟩ || decide ((24:Int) < a.Key.size))=true then 1
 else if (!(((n || a.N == 0) && (x || decide (keyf a.X=keyf 0))) && (s || sEq a.S ⟨#[]⟩) && (m || Zjk a.Make zrc)))=true then 4
 else if decide ((if o1=true then (64:Int) else 16) < a.S.size)=true then 3
 else if (k2 && (decide (a.N < 0) || decide (2305843009213693952 < a.N)))=true then 1
 else if (!decide (a.X=Zbh a.X))=true then 4
 else if k1=true then c else 0
theorem Z3m (k:ByteArray):(decide ((k.size:Int) < 1))=sEq k ⟨#[]⟩:=by
 by_cases h:k=⟨#[]⟩
 ·subst h;rw [Zlz];decide
 ·rw [Zjt.2 h]
  have:k.size ≠ 0:=fun e=>h (by
   apply ByteArray.ext
   exact Array.size_eq_zero_iff.1 e)
  simp;omega
theorem Zi2 {a:Zg} (ha:Zpn a) {w has:ByteArray} {on c:Int} {n x s m:Bool} (hc:Zdg a.Make=some c) (h1:Zmb a.Kind=some ⟨w,on,has⟩) (hw:sEq w ⟨#[]⟩=false)
  (fn:Zcr ⟨w,on,has⟩ 110=some n) (fx:Zcr ⟨w,on,has⟩ 120=some x) (fs:Zcr ⟨w,on,has⟩ 115=some s) (fm:Zcr ⟨w,on,has⟩ 109=some m) :
  Zeg a=some (actD n x s m (on == 1) (a.Kind == 1) (a.Kind == 10 || a.Kind == 11) c a):=by
 have h0:(0:Nat) < W64:=by decide
 unfold Zeg Znp Znr
 rw [h1]
 simp only [Option.bind_some,hw,Bool.false_eq_true,if_false,fn,fx,fs,fm,Zpo]
 rw [Zlt ha.2 h0,Z0s ha.1 Z0a,Zoy ha.2,hc]
 simp only [Option.bind_some,Zpo]
 unfold actD
 generalize (sEq a.Key ⟨#[]⟩ || decide ((24:Int) < a.Key.size))=b1
 generalize (a.N == 0)=b2
 generalize decide (keyf a.X=keyf 0)=b3
 generalize sEq a.S ⟨#[]⟩=b4
 generalize Zjk a.Make zrc=b5
 generalize (a.Kind == 10 || a.Kind == 11)=b6
 generalize (a.Kind == 1)=b7
 generalize (decide (a.N < 0) || decide (2305843009213693952 < a.N))=b8
 generalize decide (a.X=Zbh a.X)=b9
 have e1:decide ((64:Int) < a.S.size)=decide ((if true=true then (64:Int) else 16) < a.S.size):=rfl
 cases b1
 ·have hm:∀ (z:Bool),((if z=true then some (64:Int) else some 16).bind fun r8=>(if decide (r8 < (a.S.size:Int))=true then some (3:Int) else if (b6 && b8)=true then some 1 else if (!b9)=true then some 4 else if b7=true then some c else some 0))=some (if decide ((if z=true then (64:Int) else 16) < a.S.size)=true then 3 else if (b6 && b8)=true then 1 else if (!b9)=true then 4 else if b7=true then c else 0):=by
   intro z
   cases z <;> simp only [Bool.false_eq_true,if_false,if_true,Option.bind_some] <;> (repeat' split) <;> rfl
  rw [hm]
  cases n <;> cases x <;> cases s <;> cases m <;> cases b2 <;> cases b3 <;> cases b4 <;> cases b5 <;> rfl
 ·rfl
theorem Zxy {a:Zg} (ha:Zpn a) {on c:Int} {n x s m:Bool} (hc:Zcw a.Make=some c) (hk:¬ (a.Kind < 1 ∨ 21 < a.Kind)) (ro:Zc8 a.Kind=some on)
  (fn:Zdb a.Kind 110=some n) (fx:Zdb a.Kind 120=some x) (fs:Zdb a.Kind 115=some s) (fm:m=(a.Kind == 1)) :
  Zc6 a=some (actD n x s m (on == 1) (a.Kind == 1) (a.Kind == 10 || a.Kind == 11) c a):=by
 have h0:(0:Nat) < W64:=by decide
 unfold Zc6
 rw [if_neg (by simpa using hk),fn,fx,fs,ro]
 simp only [Option.bind_some,Zpo,Z3m]
 rw [Zkr ha.2 h0,Zs9 ha.1 Z0a,Znk ha.2,hc]
 simp only [Option.bind_some,Zpo]
 unfold actD
 subst fm
 have hmid:((on == 1 && decide ((64:Int) < a.S.size)) || ((if (!(on == 1 && decide ((64:Int) < a.S.size)))=true then on else default) != 1 && decide ((16:Int) < a.S.size)))=decide ((if (on == 1)=true then (64:Int) else 16) < a.S.size):=by
  by_cases ho:on=1
  ·subst ho
   by_cases h64:(64:Int) < a.S.size <;> simp [h64]
  ·have hb1:(on == 1)=false:=by simpa using ho
   have hb2:(on != 1)=true:=by simpa using ho
   simp [hb1,hb2]
 rw [hmid,show (a.N != 0)=!(a.N == 0) from rfl,show (a.Kind != 1)=!(a.Kind == 1) from rfl]
 generalize decide ((if (on == 1)=true then (64:Int) else 16) < a.S.size)=b10
 generalize (sEq a.Key ⟨#[]⟩ || decide ((24:Int) < a.Key.size))=b1
 generalize (a.N == 0)=b2
 generalize decide (keyf a.X=keyf 0)=b3
 generalize sEq a.S ⟨#[]⟩=b4
 generalize Zjk a.Make zrc=b5
 generalize (a.Kind == 10 || a.Kind == 11)=b6
 generalize (a.Kind == 1)=b7
 generalize (decide (a.N < 0) || decide (2305843009213693952 < a.N))=b8
 generalize decide (a.X=Zbh a.X)=b9
 have htail:(if b10=true then some (3:Int) else if (b6 && b8)=true then some 1 else if (!b9)=true then some 4 else if b7=true then some c else some 0)=some (if b10=true then 3 else if (b6 && b8)=true then 1 else if (!b9)=true then 4 else if b7=true then c else 0):=by
  (repeat' split) <;> rfl
 rw [htail]
 cases b1
 ·cases n <;> cases x <;> cases s <;> cases b7 <;> cases b2 <;> cases b3 <;> cases b4 <;> cases b5 <;> rfl
 ·rfl
theorem Zzp {n x s m o1 k1 k2:Bool} {c:Int} {a:Zg} (h:actD n x s m o1 k1 k2 c a=0):(sEq a.Key ⟨#[]⟩ || decide ((24:Int) < a.Key.size))=false ∧ decide ((if o1=true then (64:Int) else 16) < a.S.size)=false ∧ (k2 && (decide (a.N < 0) || decide (2305843009213693952 < a.N)))=false ∧ decide (a.X=Zbh a.X)=true ∧ (k1=true → c=0):=by
 unfold actD at h
 revert h
 generalize (sEq a.Key ⟨#[]⟩ || decide ((24:Int) < a.Key.size))=b1
 generalize decide ((if o1=true then (64:Int) else 16) < a.S.size)=b3
 generalize (k2 && (decide (a.N < 0) || decide (2305843009213693952 < a.N)))=b4
 generalize decide (a.X=Zbh a.X)=b5
 generalize (!(((n || a.N == 0) && (x || decide (keyf a.X=keyf 0))) && (s || sEq a.S ⟨#[]⟩) && (m || Zjk a.Make zrc)))=b2
 cases b1 <;> cases b2 <;> cases b3 <;> cases b4 <;> cases b5 <;> cases k1 <;> simp
theorem Zk2 {a:Zg} (ha:Zpn a):∃ c,Zeg a=some c ∧ Zc6 a=some c ∧ (c=0 → 1 ≤ a.Kind ∧ a.Kind ≤ 21 ∧ a.X=Zbh a.X ∧ a.S.size ≤ 64 ∧ ((a.Kind=10 ∨ a.Kind=11) → 0 ≤ a.N ∧ a.N ≤ 2305843009213693952) ∧ (a.Kind=1 → Zdg a.Make=some 0) ∧ (¬ (5 ≤ a.Kind ∧ a.Kind ≤ 6) → a.S.size ≤ 16) ∧ sEq a.Key ⟨#[]⟩=false ∧ a.Key.size ≤ 24):=by
 by_cases hk:a.Kind < 1 ∨ 21 < a.Kind
 ·refine ⟨5,?_,?_,fun h=>by cases h⟩
  ·unfold Zeg Zmb
   rw [if_pos (by simp;omega)]
   simp only [Option.bind_some]
   rw [if_pos (show sEq ByteArray.empty ⟨#[]⟩=true by kernel_rfl)]
  ·unfold Zc6
   rw [if_pos (by simpa using hk)]
 ·obtain ⟨c,hc1,hc2⟩:=Zki ha.1
  have fin:∀ {w has:ByteArray} {on:Int} {n x s m:Bool},Zmb a.Kind=some ⟨w,on,has⟩ → sEq w ⟨#[]⟩=false → Zcr ⟨w,on,has⟩ 110=some n → Zcr ⟨w,on,has⟩ 120=some x → Zcr ⟨w,on,has⟩ 115=some s → Zcr ⟨w,on,has⟩ 109=some m →
    Zc8 a.Kind=some on → Zdb a.Kind 110=some n → Zdb a.Kind 120=some x → Zdb a.Kind 115=some s → m=(a.Kind == 1) → ((on == 1)=true → 5 ≤ a.Kind ∧ a.Kind ≤ 6) →
    ∃ c,Zeg a=some c ∧ Zc6 a=some c ∧ (c=0 → 1 ≤ a.Kind ∧ a.Kind ≤ 21 ∧ a.X=Zbh a.X ∧ a.S.size ≤ 64 ∧ ((a.Kind=10 ∨ a.Kind=11) → 0 ≤ a.N ∧ a.N ≤ 2305843009213693952) ∧ (a.Kind=1 → Zdg a.Make=some 0) ∧ (¬ (5 ≤ a.Kind ∧ a.Kind ≤ 6) → a.S.size ≤ 16) ∧ sEq a.Key ⟨#[]⟩=false ∧ a.Key.size ≤ 24):=by
   intro w has on n x s m h1 hw fn fx fs fm ro rn rx rs hm hon
   refine ⟨_,Zi2 ha hc1 h1 hw fn fx fs fm,by rw [hm];exact Zxy ha hc2 hk ro rn rx rs rfl,fun h0=>?_⟩
   obtain ⟨g1,g3,g4,g5,g6⟩:=Zzp h0
   simp only [Bool.or_eq_false_iff,decide_eq_false_iff_not] at g1
   have g3':¬ (if (on == 1)=true then (64:Int) else 16) < a.S.size:=of_decide_eq_false g3
   refine ⟨by omega,by omega,of_decide_eq_true g5,?_,fun h=>?_,fun h=>?_,fun h=>?_,g1.1,by omega⟩
   ·split at g3' <;> omega
   ·have h11:(a.Kind == 10 || a.Kind == 11)=true:=by simpa using h
    rw [h11] at g4
    simp only [Bool.true_and,Bool.or_eq_false_iff,decide_eq_false_iff_not] at g4
    omega
   ·rw [hc1,g6 (by simp [h])]
   ·rw [if_neg (fun h2=>h (hon h2))] at g3'
    omega
  have hk':a.Kind=1 ∨ a.Kind=2 ∨ a.Kind=3 ∨ a.Kind=4 ∨ a.Kind=5 ∨ a.Kind=6 ∨ a.Kind=7 ∨ a.Kind=8 ∨ a.Kind=9 ∨ a.Kind=10 ∨ a.Kind=11 ∨ a.Kind=12 ∨ a.Kind=13 ∨ a.Kind=14 ∨ a.Kind=15 ∨ a.Kind=16 ∨ a.Kind=17 ∨ a.Kind=18 ∨ a.Kind=19 ∨ a.Kind=20 ∨ a.Kind=21:=by omega
  rcases hk' with h | h | h | h | h | h | h | h | h | h | h | h | h | h | h | h | h | h | h | h | h <;> rw [h] at fin ⊢
  ·exact fin (w:=⟨#[110,101,119]⟩) (on:=0) (has:=⟨#[109]⟩) (n:=false) (x:=false) (s:=false) (m:=true) (by kernel_rfl) (by kernel_rfl) (by kernel_rfl) (by kernel_rfl) (by kernel_rfl) (by kernel_rfl) (by kernel_rfl) (by kernel_rfl) (by kernel_rfl) (by kernel_rfl) (by decide) (by decide)
  ·exact fin (w:=⟨#[100,114,111,112]⟩) (on:=0) (has:=⟨#[]⟩) (n:=false) (x:=false) (s:=false) (m:=false) (by kernel_rfl) (by kernel_rfl) (by kernel_rfl) (by kernel_rfl) (by kernel_rfl) (by kernel_rfl) (by kernel_rfl) (by kernel_rfl) (by kernel_rfl) (by kernel_rfl) (by decide) (by decide)
  ·exact fin (w:=⟨#[105,115]⟩) (on:=0) (has:=⟨#[]⟩) (n:=false) (x:=false) (s:=false) (m:=false) (by kernel_rfl) (by kernel_rfl) (by kernel_rfl) (by kernel_rfl) (by kernel_rfl) (by kernel_rfl) (by kernel_rfl) (by kernel_rfl) (by kernel_rfl) (by kernel_rfl) (by decide) (by decide)
  ·exact fin (w:=⟨#[108,111,111,107]⟩) (on:=0) (has:=⟨#[]⟩) (n:=false) (x:=false) (s:=false) (m:=false) (by kernel_rfl) (by kernel_rfl) (by kernel_rfl) (by kernel_rfl) (by kernel_rfl) (by kernel_rfl) (by kernel_rfl) (by kernel_rfl) (by kernel_rfl) (by kernel_rfl) (by decide) (by decide)
  ·exact fin (w:=⟨#[112,117,116]⟩) (on:=1) (has:=⟨#[115]⟩) (n:=false) (x:=false) (s:=true) (m:=false) (by kernel_rfl) (by kernel_rfl) (by kernel_rfl) (by kernel_rfl) (by kernel_rfl) (by kernel_rfl) (by kernel_rfl) (by kernel_rfl) (by kernel_rfl) (by kernel_rfl) (by decide) (by decide)
  ·exact fin (w:=⟨#[115,119,97,112]⟩) (on:=1) (has:=⟨#[115]⟩) (n:=false) (x:=false) (s:=true) (m:=false) (by kernel_rfl) (by kernel_rfl) (by kernel_rfl) (by kernel_rfl) (by kernel_rfl) (by kernel_rfl) (by kernel_rfl) (by kernel_rfl) (by kernel_rfl) (by kernel_rfl) (by decide) (by decide)
  ·exact fin (w:=⟨#[97,100,100]⟩) (on:=2) (has:=⟨#[110]⟩) (n:=true) (x:=false) (s:=false) (m:=false) (by kernel_rfl) (by kernel_rfl) (by kernel_rfl) (by kernel_rfl) (by kernel_rfl) (by kernel_rfl) (by kernel_rfl) (by kernel_rfl) (by kernel_rfl) (by kernel_rfl) (by decide) (by decide)
  ·exact fin (w:=⟨#[112,108,117,115]⟩) (on:=3) (has:=⟨#[110]⟩) (n:=true) (x:=false) (s:=false) (m:=false) (by kernel_rfl) (by kernel_rfl) (by kernel_rfl) (by kernel_rfl) (by kernel_rfl) (by kernel_rfl) (by kernel_rfl) (by kernel_rfl) (by kernel_rfl) (by kernel_rfl) (by decide) (by decide)
  ·exact fin (w:=⟨#[114,101,97,99,104]⟩) (on:=3) (has:=⟨#[110]⟩) (n:=true) (x:=false) (s:=false) (m:=false) (by kernel_rfl) (by kernel_rfl) (by kernel_rfl) (by kernel_rfl) (by kernel_rfl) (by kernel_rfl) (by kernel_rfl) (by kernel_rfl) (by kernel_rfl) (by kernel_rfl) (by decide) (by decide)
  ·exact fin (w:=⟨#[105,110]⟩) (on:=4) (has:=⟨#[110]⟩) (n:=true) (x:=false) (s:=false) (m:=false) (by kernel_rfl) (by kernel_rfl) (by kernel_rfl) (by kernel_rfl) (by kernel_rfl) (by kernel_rfl) (by kernel_rfl) (by kernel_rfl) (by kernel_rfl) (by kernel_rfl) (by decide) (by decide)
  ·exact fin (w:=⟨#[111,117,116]⟩) (on:=4) (has:=⟨#[110]⟩) (n:=true) (x:=false) (s:=false) (m:=false) (by kernel_rfl) (by kernel_rfl) (by kernel_rfl) (by kernel_rfl) (by kernel_rfl) (by kernel_rfl) (by kernel_rfl) (by kernel_rfl) (by kernel_rfl) (by kernel_rfl) (by decide) (by decide)
  ·exact fin (w:=⟨#[101,110,111,117,103,104]⟩) (on:=4) (has:=⟨#[110]⟩) (n:=true) (x:=false) (s:=false) (m:=false) (by kernel_rfl) (by kernel_rfl) (by kernel_rfl) (by kernel_rfl) (by kernel_rfl) (by kernel_rfl) (by kernel_rfl) (by kernel_rfl) (by kernel_rfl) (by kernel_rfl) (by decide) (by decide)
  ·exact fin (w:=⟨#[114,97,105,115,101]⟩) (on:=5) (has:=⟨#[120]⟩) (n:=false) (x:=true) (s:=false) (m:=false) (by kernel_rfl) (by kernel_rfl) (by kernel_rfl) (by kernel_rfl) (by kernel_rfl) (by kernel_rfl) (by kernel_rfl) (by kernel_rfl) (by kernel_rfl) (by kernel_rfl) (by decide) (by decide)
  ·exact fin (w:=⟨#[108,111,119,101,114]⟩) (on:=6) (has:=⟨#[120]⟩) (n:=false) (x:=true) (s:=false) (m:=false) (by kernel_rfl) (by kernel_rfl) (by kernel_rfl) (by kernel_rfl) (by kernel_rfl) (by kernel_rfl) (by kernel_rfl) (by kernel_rfl) (by kernel_rfl) (by kernel_rfl) (by decide) (by decide)
  ·exact fin (w:=⟨#[115,104,105,102,116]⟩) (on:=7) (has:=⟨#[120]⟩) (n:=false) (x:=true) (s:=false) (m:=false) (by kernel_rfl) (by kernel_rfl) (by kernel_rfl) (by kernel_rfl) (by kernel_rfl) (by kernel_rfl) (by kernel_rfl) (by kernel_rfl) (by kernel_rfl) (by kernel_rfl) (by decide) (by decide)
  ·exact fin (w:=⟨#[115,99,97,108,101]⟩) (on:=7) (has:=⟨#[120]⟩) (n:=false) (x:=true) (s:=false) (m:=false) (by kernel_rfl) (by kernel_rfl) (by kernel_rfl) (by kernel_rfl) (by kernel_rfl) (by kernel_rfl) (by kernel_rfl) (by kernel_rfl) (by kernel_rfl) (by kernel_rfl) (by decide) (by decide)
  ·exact fin (w:=⟨#[102,105,120]⟩) (on:=7) (has:=⟨#[120]⟩) (n:=false) (x:=true) (s:=false) (m:=false) (by kernel_rfl) (by kernel_rfl) (by kernel_rfl) (by kernel_rfl) (by kernel_rfl) (by kernel_rfl) (by kernel_rfl) (by kernel_rfl) (by kernel_rfl) (by kernel_rfl) (by decide) (by decide)
  ·exact fin (w:=⟨#[106,111,105,110]⟩) (on:=8) (has:=⟨#[115]⟩) (n:=false) (x:=false) (s:=true) (m:=false) (by kernel_rfl) (by kernel_rfl) (by kernel_rfl) (by kernel_rfl) (by kernel_rfl) (by kernel_rfl) (by kernel_rfl) (by kernel_rfl) (by kernel_rfl) (by kernel_rfl) (by decide) (by decide)
  ·exact fin (w:=⟨#[108,101,97,118,101]⟩) (on:=8) (has:=⟨#[115]⟩) (n:=false) (x:=false) (s:=true) (m:=false) (by kernel_rfl) (by kernel_rfl) (by kernel_rfl) (by kernel_rfl) (by kernel_rfl) (by kernel_rfl) (by kernel_rfl) (by kernel_rfl) (by kernel_rfl) (by kernel_rfl) (by decide) (by decide)
  ·exact fin (w:=⟨#[104,97,115]⟩) (on:=8) (has:=⟨#[115]⟩) (n:=false) (x:=false) (s:=true) (m:=false) (by kernel_rfl) (by kernel_rfl) (by kernel_rfl) (by kernel_rfl) (by kernel_rfl) (by kernel_rfl) (by kernel_rfl) (by kernel_rfl) (by kernel_rfl) (by kernel_rfl) (by decide) (by decide)
  ·exact fin (w:=⟨#[111,102,102,101,114]⟩) (on:=9) (has:=⟨#[120,115]⟩) (n:=false) (x:=true) (s:=true) (m:=false) (by kernel_rfl) (by kernel_rfl) (by kernel_rfl) (by kernel_rfl) (by kernel_rfl) (by kernel_rfl) (by kernel_rfl) (by kernel_rfl) (by kernel_rfl) (by kernel_rfl) (by decide) (by decide)
abbrev Zbf:=List Zd
def NS (l:Zbf):Prop:=l.Pairwise fun p q=>sLt p.Name q.Name=true
def pre (f:Zd → Bool):Zbf → Nat
 | []=>0
 | e :: r=>if f e then pre f r + 1 else 0
theorem Zk3 (f:Zd → Bool):∀ l:Zbf,pre f l ≤ l.length
 | []=>Nat.le_refl _
 | e :: r=>by
  have:=Zk3 f r
  simp only [pre]
  split <;> simp <;> omega
theorem Zvo {f:Zd → Bool}:∀ {l:Zbf} {k:Nat} (h:k < pre f l),∃ e,l[k]?=some e ∧ f e=true
 | [],k,h=>by simp [pre] at h
 | e :: r,k,h=>by
  simp only [pre] at h
  split at h
  ·rename_i hf
   cases k with
   | zero=>exact ⟨e,rfl,hf⟩
   | succ k=>exact Zvo (l:=r) (by omega)
  ·omega
theorem Zrn {f:Zd → Bool}:∀ {l:Zbf} {e:Zd},l[pre f l]?=some e → f e=false
 | [],e,h=>by simp [pre] at h
 | x :: r,e,h=>by
  simp only [pre] at h
  split at h
  ·exact Zrn (l:=r) (by simpa using h)
  ·rename_i hf
   simp at h;subst h;simpa using hf
theorem Zqp {s:ByteArray} {l:Zbf} (hs:NS l) {k:Nat} (hk:k < l.length):sLt (l[k]).Name s=decide (k < pre (fun e=>sLt e.Name s) l):=by
 by_cases h:k < pre (fun e=>sLt e.Name s) l
 ·obtain ⟨e,he,hf⟩:=Zvo h
  rw [List.getElem?_eq_getElem hk] at he
  obtain rfl:=Option.some.inj he
  simp only [h,decide_true];exact hf
 ·simp only [h,decide_false]
  have hp:pre (fun e=>sLt e.Name s) l < l.length:=by omega
  have h1:=Zrn (List.getElem?_eq_getElem hp)
  rcases Nat.lt_or_eq_of_le (Nat.le_of_not_lt h) with hlt | heq
  ·have h2:=List.pairwise_iff_getElem.1 hs _ _ hp hk hlt
   cases h3:sLt (l[k]).Name s
   ·rfl
   ·rw [Zi6 h2 h3] at h1;cases h1
  ·have:l[k]=l[pre (fun e=>sLt e.Name s) l]:=by congr 1;exact heq.symm
   rw [this];exact h1
theorem half {i j:Nat} (h:i + j < 4611686018427387904):IntKind.i64.wrap (Int.fdiv (IntKind.u64.wrap (IntKind.i64.wrap ((i:Int) + (j:Int)))) (2 ^ 1))=(((i + j) / 2:Nat):Int):=by
 rw [wr (x:=(i:Int) + j) (by omega) (by omega),wru (by omega) (by omega)]
 have:Int.fdiv ((i:Int) + j) (2 ^ 1)=(((i + j) / 2:Nat):Int):=by
  rw [Int.fdiv_eq_ediv_of_nonneg _ (by decide)];omega
 rw [this,wr (by omega) (by omega)]
theorem Z14 (e:Zd) (s:ByteArray):∃ c:Int,Zhs e s=some c ∧ decide (c < 0)=sLt e.Name s ∧ (c == 0)=sEq e.Name s:=by
 unfold Zhs
 by_cases h:sLt e.Name s=true
 ·exact ⟨-1,by rw [if_pos h],by rw [h];rfl,by rw [Zjt.2 (Zpe h)];rfl⟩
 ·have h':sLt e.Name s=false:=by simpa using h
  by_cases h2:e.Name=s
  ·exact ⟨0,by rw [if_neg h,h',Zg9.2 h2];rfl,by rw [h'];rfl,by rw [Zg9.2 h2];rfl⟩
  ·exact ⟨1,by rw [if_neg h,h',Zjt.2 h2];rfl,by rw [h'];rfl,by rw [Zjt.2 h2];rfl⟩
theorem Zr9 {l:Zbf} {s:ByteArray} (hs:NS l) (hl:l.length < 2305843009213693952):∀ (n i j:Nat),j - i < n → i ≤ pre (fun e=>sLt e.Name s) l → pre (fun e=>sLt e.Name s) l ≤ j → j ≤ l.length →
  Zbb l s (fun y0 y1=>Zhs y0 y1) n (i:Int) (j:Int)=some ((pre (fun e=>sLt e.Name s) l:Nat):Int)
 | 0,i,j,h,_,_,_=>by omega
 | n + 1,i,j,h,h1,h2,h3=>by
  rw [Zbb]
  by_cases hij:i < j
  ·rw [if_pos (by simpa using hij),half (by omega)]
   have hm:(i + j) / 2 < l.length:=by omega
   rw [Zcy hm]
   obtain ⟨c,hc,hc1,_⟩:=Z14 l[(i + j) / 2] s
   simp only [Option.bind_some,hc]
   rw [hc1,Zqp hs hm]
   unfold Zbz
   by_cases hp:(i + j) / 2 < pre (fun e=>sLt e.Name s) l
   ·rw [if_pos (by simpa using hp),wr1 (by omega)]
    exact Zr9 hs hl n ((i + j) / 2 + 1) j (by omega) (by omega) h2 h3
   ·rw [if_neg (by simpa using hp)]
    exact Zr9 hs hl n i ((i + j) / 2) (by omega) h1 (by omega) (by omega)
  ·rw [if_neg (by simpa using hij)]
   congr 2;omega
def isAt (s:ByteArray) (l:Zbf):Bool:=match l[pre (fun e=>sLt e.Name s) l]? with
 | some e=>sEq e.Name s
 | none=>false
theorem Zmy {l:Zbf} {s:ByteArray} (hs:NS l) (hl:l.length < 2305843009213693952):Zjc l s=some (((pre (fun e=>sLt e.Name s) l:Nat):Int),isAt s l):=by
 unfold Zjc Zcd
 have:=Zr9 (s:=s) hs hl (l.length + 1) 0 l.length (by omega) (Nat.zero_le _) (Zk3 _ _) (Nat.le_refl _)
 rw [show ((0:Nat):Int)=0 from rfl] at this
 rw [show (Int.toNat ((l.length:Int) - (0:Int)) + 1)=l.length + 1 by omega,this]
 simp only [Option.bind_some]
 unfold isAt
 by_cases hp:pre (fun e=>sLt e.Name s) l < l.length
 ·have hd:decide (((pre (fun e=>sLt e.Name s) l:Nat):Int) < (l.length:Int))=true:=by simpa using hp
  rw [hd,Zcy hp,List.getElem?_eq_getElem hp]
  obtain ⟨c,hc,_,hc2⟩:=Z14 l[pre (fun e=>sLt e.Name s) l] s
  simp only [gd_t,Option.bind_some,hc,Bool.true_and,hc2]
 ·have hd:decide (((pre (fun e=>sLt e.Name s) l:Nat):Int) < (l.length:Int))=false:=by simpa using hp
  rw [hd,List.getElem?_eq_none (by omega)]
  rfl
def goL (f g:Zd → Bool) (x:Zd):Zbf → Bool → Zbf × Bool
 | [],d=>([],d)
 | e :: r,d=>if (!d && !f e)=true then ((if g e then [] else [x]) ++ e :: (goL f g x r true).1,(goL f g x r true).2) else (e :: (goL f g x r d).1,(goL f g x r d).2)
theorem Z20 (f g:Zd → Bool) (x:Zd):∀ l:Zbf,goL f g x l true=(l,true)
 | []=>rfl
 | e :: r=>by simp [goL,Z20 f g x r]
theorem Z2c (f g:Zd → Bool) (x:Zd):∀ l:Zbf,goL f g x l false=match l[pre f l]? with
  | some e=>(l.take (pre f l) ++ (if g e then [] else [x]) ++ l.drop (pre f l),true)
  | none=>(l,false)
 | []=>rfl
 | e :: r=>by
  simp only [goL,pre]
  by_cases hf:f e=true
  ·simp only [hf,Bool.not_true,Bool.and_false,Bool.false_eq_true,if_false,if_true]
   rw [Z2c f g x r]
   simp only [List.getElem?_cons_succ]
   cases r[pre f r]? <;> simp
  ·have hf':f e=false:=by simpa using hf
   simp only [hf',Bool.not_false,Bool.and_self,if_true,Bool.false_eq_true,if_false,Z20,List.getElem?_cons_zero,List.take_zero,List.nil_append,List.drop_zero]
def Zcb (x:Zd) (nm:Bool) (e:Zd):Bool:=if nm then sLt e.Name x.Name else Zb0 e x
def Zei (x:Zd) (nm:Bool) (e:Zd):Bool:=sEq e.Name x.Name && (nm || decide (keyf e.Score=keyf x.Score))
theorem Zzi {l:Zbf} {x:Zd} {nm:Bool} (hx:x.Score < W64) (hsc:∀ e ∈ l,e.Score < W64) {n i:Nat} {out:Zbf} {d:Bool} (h1:i < l.length) :
  Zcj l x nm (n + 1) out d (i:Int)=(if (!d && !Zcb x nm l[i])=true then (if (!Zei x nm l[i])=true then (if (out.length + ([x]:List Zd).length) * 24 ≤ 140737488355328 then Zdz l (i:Int) (Zcj l x nm n) (out ++ [x]) true else none) else Zdz l (i:Int) (Zcj l x nm n) out true) else Zdz l (i:Int) (Zcj l x nm n) out d):=by
 have hm:=hsc _ (List.getElem_mem h1)
 have ha:Zee l[i] x=some (Zb0 l[i] x):=Zu1 hm hx
 have hs:Zc2 l[i].Score x.Score=some (decide (keyf l[i].Score=keyf x.Score)):=Zkr hm hx
 rw [Zcj,if_pos (by simp;omega),Zcy h1]
 cases nm
 ·simp only [Bool.not_false,gd_t,Option.bind_some,Bool.true_and,ha,Bool.and_false,gd_f,Bool.false_and,Bool.or_false,Bool.and_true,Bool.false_or,Zcb,Zei,Bool.false_eq_true,if_false]
  cases hq:sEq l[i].Name x.Name
  ·simp only [gd_f,Option.bind_some,Bool.false_and]
  ·simp only [gd_t,Option.bind_some,Bool.true_and,hs]
 ·simp only [Bool.not_true,gd_f,Option.bind_some,Bool.false_and,Bool.not_false,Bool.true_and,gd_t,Bool.false_or,Bool.true_or,Bool.and_false,Bool.and_true,Zcb,Zei,if_true]
theorem Zms {l:Zbf} {x:Zd} {nm:Bool} (hx:x.Score < W64) (hsc:∀ e ∈ l,e.Score < W64) (hl:l.length < 1000000):∀ (n i:Nat) (out:Zbf) (d:Bool),i + n=l.length → out.length + (if d=true then 0 else 1) ≤ i + 1 →
  Zcj l x nm (n + 1) out d (i:Int)=some (out ++ (goL (Zcb x nm) (Zei x nm) x (l.drop i) d).1,(goL (Zcb x nm) (Zei x nm) x (l.drop i) d).2)
 | 0,i,out,d,h,_=>by
  rw [Zcj,if_neg (by simp;omega),List.drop_of_length_le (by omega)]
  simp [goL]
 | n + 1,i,out,d,h,ho=>by
  have h1:i < l.length:=by omega
  rw [Zzi hx hsc h1,List.drop_eq_getElem_cons h1]
  simp only [Zdz,Zcy h1,wr1 (show i < 9223372036854775807 by omega),Option.bind_some,goL]
  by_cases hc:(!d && !Zcb x nm l[i])=true
  ·rw [if_pos hc,if_pos hc]
   have hd:d=false:=by cases d <;> simp_all
   subst hd
   simp only [Bool.false_eq_true,if_false] at ho
   by_cases hs:(!Zei x nm l[i])=true
   ·rw [if_pos hs,if_pos (by simp;omega),if_pos (by simp;omega),Zms hx hsc hl n (i + 1) _ true (by omega) (by simp;omega)]
    have:Zei x nm l[i]=false:=by simpa using hs
    simp [this]
   ·rw [if_neg hs,if_pos (by simp;omega),Zms hx hsc hl n (i + 1) _ true (by omega) (by simp;omega)]
    have:Zei x nm l[i]=true:=by simpa using hs
    simp [this]
  ·rw [if_neg hc,if_neg hc,if_pos (by simp;omega),Zms hx hsc hl n (i + 1) _ d (by omega) (by simp;omega)]
   simp
def layL (x:Zd) (nm:Bool) (l:Zbf):Zbf:=match l[pre (Zcb x nm) l]? with
 | some e=>l.take (pre (Zcb x nm) l) ++ (if Zei x nm e then [] else [x]) ++ l.drop (pre (Zcb x nm) l)
 | none=>l ++ [x]
theorem Zpk {l:Zbf} {x:Zd} {nm:Bool} (hx:x.Score < W64) (hsc:∀ e ∈ l,e.Score < W64) (hl:l.length < 1000000):Zd7 l x nm=some (layL x nm l):=by
 unfold Zd7
 have:=Zms (nm:=nm) hx hsc hl l.length 0 [] false (by omega) (by simp)
 rw [show ((0:Nat):Int)=0 from rfl] at this
 rw [show (Int.toNat ((l.length:Int) - (0:Int)) + 1)=l.length + 1 by omega,this]
 simp only [Option.bind_some,List.nil_append,List.drop_zero]
 rw [Z2c]
 unfold layL
 cases h:l[pre (Zcb x nm) l]? with
 | none =>
  simp only [Bool.not_false,if_true,Zg4]
  rw [if_pos (by simp;omega)]
 | some e=>simp only [Bool.not_true,Bool.false_eq_true,if_false,Zg4]
theorem Zug {l:Zbf} {s:ByteArray} (hl:l.length < 1000000):∀ (n i:Nat),i + n=l.length → Zf5 l s (n + 1) (i:Int)=some (cond ((l.drop i).any (fun e=>sEq e.Name s)) (.inl true) (.inr ()))
 | 0,i,h=>by
  rw [Zf5,if_neg (by simp;omega),List.drop_of_length_le (by omega)];rfl
 | n + 1,i,h=>by
  have h1:i < l.length:=by omega
  rw [Zf5,if_pos (by simp;omega),Zcy h1,List.drop_eq_getElem_cons h1,List.any_cons]
  simp only [Option.bind_some]
  by_cases hq:sEq l[i].Name s=true
  ·rw [if_pos hq,hq];rfl
  ·have hq':sEq l[i].Name s=false:=by simpa using hq
   rw [if_neg hq,wr1 (by omega),Zug hl n (i + 1) (by omega),hq',Bool.false_or]
theorem Zvv {l:Zbf} {s:ByteArray} (hl:l.length < 1000000):Ze0 l s=some (l.any (fun e=>sEq e.Name s)):=by
 unfold Ze0
 have:=Zug (s:=s) hl l.length 0 (by omega)
 rw [show ((0:Nat):Int)=0 from rfl] at this
 rw [show (Int.toNat ((l.length:Int) - (0:Int)) + 1)=l.length + 1 by omega,this]
 simp only [List.drop_zero]
 cases h:l.any (fun e=>sEq e.Name s) <;> rfl
theorem Zlb {a0:Za} {a:Zg} (hl:a0.List.length < 1000000):∀ (n i:Nat) (out:Zbf),i + n=a0.List.length → out.length ≤ i → Zdi a0 a (n + 1) out (i:Int)=some (out ++ (a0.List.drop i).filter (fun e=>!sEq e.Name a.S))
 | 0,i,out,h,_=>by
  rw [Zdi,if_neg (by simp;omega),List.drop_of_length_le (by omega)];simp
 | n + 1,i,out,h,ho=>by
  have h1:i < a0.List.length:=by omega
  rw [Zdi,if_pos (by simp;omega),Zcy h1,List.drop_eq_getElem_cons h1]
  simp only [Option.bind_some,Zjq,wr1 (show i < 9223372036854775807 by omega)]
  rw [List.filter_cons]
  by_cases hq:(!sEq a0.List[i].Name a.S)=true
  ·rw [if_pos hq,if_pos hq,if_pos (by simp;omega),Zlb hl n (i + 1) _ (by omega) (by simp;omega),List.append_assoc];rfl
  ·rw [if_neg hq,if_neg hq,Zlb hl n (i + 1) _ (by omega) (by omega)]
theorem Zqd {l:Zbf} {s:ByteArray} (hs:NS l):(∀ e ∈ l.take (pre (fun e=>sLt e.Name s) l),sEq e.Name s=false) ∧ (∀ e ∈ l.drop (pre (fun e=>sLt e.Name s) l + 1),sEq e.Name s=false):=by
 constructor
 ·intro e he
  obtain ⟨k,hk,rfl⟩:=List.getElem_of_mem he
  rw [List.length_take] at hk
  rw [List.getElem_take]
  have:=Zqp (s:=s) hs (k:=k) (by omega)
  rw [show decide (k < pre (fun e=>sLt e.Name s) l)=true by simp;omega] at this
  exact Zjt.2 (Zpe this)
 ·intro e he
  obtain ⟨k,hk,rfl⟩:=List.getElem_of_mem he
  rw [List.length_drop] at hk
  rw [List.getElem_drop]
  refine Zjt.2 fun h=>?_
  have hp:pre (fun e=>sLt e.Name s) l < l.length:=by omega
  have h1:=List.pairwise_iff_getElem.1 hs _ _ hp (show pre (fun e=>sLt e.Name s) l + 1 + k < l.length by omega) (by omega)
  rw [h] at h1
  have:=Zrn (List.getElem?_eq_getElem hp)
  rw [h1] at this;cases this
theorem Zq1 (l:Zbf) (k:Nat) (h:k < l.length):l=l.take k ++ l[k] :: l.drop (k + 1):=by
 rw [← List.drop_eq_getElem_cons h,List.take_append_drop]
theorem Zj1 {l:Zbf} {s:ByteArray} (hs:NS l):l.any (fun e=>sEq e.Name s)=isAt s l:=by
 obtain ⟨h1,h2⟩:=Zqd (s:=s) hs
 unfold isAt
 by_cases hp:pre (fun e=>sLt e.Name s) l < l.length
 ·rw [List.getElem?_eq_getElem hp]
  conv=>lhs;rw [Zq1 l _ hp]
  have a1:(l.take (pre (fun e=>sLt e.Name s) l)).any (fun e=>sEq e.Name s)=false:=by
   rw [List.any_eq_false];intro e he;rw [h1 e he];decide
  have a2:(l.drop (pre (fun e=>sLt e.Name s) l + 1)).any (fun e=>sEq e.Name s)=false:=by
   rw [List.any_eq_false];intro e he;rw [h2 e he];decide
  rw [List.any_append,List.any_cons,a1,a2];simp
 ·rw [List.getElem?_eq_none (by omega)]
  have:l.take (pre (fun e=>sLt e.Name s) l)=l:=List.take_of_length_le (by omega)
  rw [this] at h1
  rw [List.any_eq_false];intro e he;rw [h1 e he];decide
theorem Zz0 {l:Zbf} {s:ByteArray} (hs:NS l):l.filter (fun e=>!sEq e.Name s)=if isAt s l=true then l.take (pre (fun e=>sLt e.Name s) l) ++ l.drop (pre (fun e=>sLt e.Name s) l + 1) else l:=by
 obtain ⟨h1,h2⟩:=Zqd (s:=s) hs
 unfold isAt
 by_cases hp:pre (fun e=>sLt e.Name s) l < l.length
 ·rw [List.getElem?_eq_getElem hp]
  conv=>lhs;rw [Zq1 l _ hp]
  have a1:(l.take (pre (fun e=>sLt e.Name s) l)).filter (fun e=>!sEq e.Name s)=l.take (pre (fun e=>sLt e.Name s) l):=List.filter_eq_self.2 fun e he=>by rw [h1 e he];rfl
  have a2:(l.drop (pre (fun e=>sLt e.Name s) l + 1)).filter (fun e=>!sEq e.Name s)=l.drop (pre (fun e=>sLt e.Name s) l + 1):=List.filter_eq_self.2 fun e he=>by rw [h2 e he];rfl
  rw [List.filter_append,List.filter_cons,a1,a2]
  by_cases hq:sEq (l[pre (fun e=>sLt e.Name s) l]).Name s=true
  ·rw [if_pos hq,if_neg (by rw [hq];decide)]
  ·rw [if_neg hq,if_pos (by simpa using hq)]
   exact (Zq1 l _ hp).symm
 ·rw [List.getElem?_eq_none (by omega)]
  have:l.take (pre (fun e=>sLt e.Name s) l)=l:=List.take_of_length_le (by omega)
  rw [this] at h1
  rw [if_neg (by simp)]
  exact List.filter_eq_self.2 fun e he=>by rw [h1 e he];rfl
theorem Zj9 {l:Zbf} {s:ByteArray}:layL { Score:=0,Name:=s } true l=if isAt s l=true then l else l.take (pre (fun e=>sLt e.Name s) l) ++ [{ Score:=0,Name:=s }] ++ l.drop (pre (fun e=>sLt e.Name s) l):=by
 have hf:Zcb { Score:=0,Name:=s } true=fun e=>sLt e.Name s:=rfl
 unfold layL isAt
 rw [hf]
 cases h:l[pre (fun e=>sLt e.Name s) l]? with
 | none =>
  have hp:=List.getElem?_eq_none_iff.1 h
  rw [if_neg (by simp),List.take_of_length_le hp,List.drop_of_length_le hp,List.append_nil]
 | some e =>
  simp only [Zei,Bool.true_or,Bool.and_true]
  by_cases hq:sEq e.Name s=true
  ·rw [if_pos hq,if_pos hq,List.append_nil,List.take_append_drop]
  ·rw [if_neg hq,if_neg hq]
theorem Znc {l:Zbf} (h:l.length < 1000000):Zbr l=some l:=by
 unfold Zbr
 rw [if_pos (by omega)]
theorem Zrc {r:Za} {a:Zg} (ha:a.X < W64) (hsc:∀ e ∈ r.List,e.Score < W64) (hl:r.List.length < 1000000):∀ (n i:Nat),i + n=r.List.length →
  Zeq r a (n + 1) (i:Int)=some ((i + pre (Zcb { Score:=a.X,Name:=a.S } false) (r.List.drop i):Nat):Int)
 | 0,i,h=>by
  have hd:decide ((i:Int) < (r.List.length:Int))=false:=by simp;omega
  rw [Zeq,hd,List.drop_of_length_le (by omega)]
  simp [gd,pre]
 | n + 1,i,h=>by
  have h1:i < r.List.length:=by omega
  have hd:decide ((i:Int) < (r.List.length:Int))=true:=by simp;omega
  rw [Zeq,hd,Zcy h1,List.drop_eq_getElem_cons h1]
  simp only [gd_t,Option.bind_some,Bool.true_and]
  rw [Zmj (hsc _ (List.getElem_mem h1)) ha]
  simp only [Option.bind_some,pre,Zcb,Bool.false_eq_true,if_false,wr1 (show i < 9223372036854775807 by omega)]
  by_cases hb:Zb0 r.List[i] { Score:=a.X,Name:=a.S }=true
  ·rw [if_pos hb,if_pos hb,Zrc ha hsc hl n (i + 1) (by omega)]
   congr 2;omega
  ·rw [if_neg hb,if_neg hb];simp
theorem Zsz {r:Za} {a:Zg} (ha:a.X < W64) (hsc:∀ e ∈ r.List,e.Score < W64) (hl:r.List.length < 1000000):Zeq r a (Int.toNat ((r.List.length:Int) - (0:Int)) + 1) (0:Int)=some ((pre (Zcb { Score:=a.X,Name:=a.S } false) r.List:Nat):Int):=by
 have:=Zrc (a:=a) ha hsc hl r.List.length 0 (by omega)
 rw [show ((0:Nat):Int)=0 from rfl] at this
 rw [show (Int.toNat ((r.List.length:Int) - (0:Int)) + 1)=r.List.length + 1 by omega,this]
 simp
theorem Zqk {e x:Zd} (h1:Zb0 e x=false):(!Zb0 x e)=Zei x false e:=by
 unfold Zb0 Zei at *
 by_cases hk:keyf e.Score=keyf x.Score
 ·rw [if_pos hk] at h1
  rw [if_pos hk.symm,hk]
  simp only [Bool.false_or,decide_true,Bool.and_true]
  by_cases hn:e.Name=x.Name
  ·rw [hn,Zlp,Zlz];rfl
  ·rw [Zsm h1 hn,Zjt.2 hn];rfl
 ·rw [if_neg hk] at h1
  rw [if_neg (fun h=>hk h.symm)]
  have:=of_decide_eq_false h1
  have h3:keyf e.Score < keyf x.Score:=by omega
  simp [h3,hk]
theorem Zqe {k:Int} {l:Zbf}:∀ (n i:Nat),Zhk k l i n=0 ↔ ∀ j,i ≤ j → j < i + n → Zgc k l j=0
 | 0,i=>⟨fun _ j h1 h2=>by omega,fun _=>rfl⟩
 | n + 1,i=>by
  by_cases h:Zgc k l i=0
  ·rw [Zqw h,Zqe n (i + 1)]
   constructor
   ·intro hh j h1 h2
    by_cases e:j=i
    ·rw [e];exact h
    ·exact hh j (by omega) (by omega)
   ·intro hh j h1 h2;exact hh j (by omega) (by omega)
  ·rw [Zq0 h]
   exact ⟨fun e=>absurd e h,fun hh=>absurd (hh i (Nat.le_refl _) (by omega)) h⟩
theorem Zqn {t n b r l:Bool} {a:Za}:Zng t n b r l a=0 ↔ Zgb t n b r l a=true ∧ a.Text.size ≤ 64 ∧ (b=true → -2305843009213693952 ≤ a.Low ∧ a.High ≤ 2305843009213693952 ∧ a.Low ≤ a.Num ∧ a.Num ≤ a.High) ∧ a.Real=Zbh a.Real ∧ (l=true → 1 ≤ a.Cap ∧ a.Cap ≤ 32 ∧ (a.List.length:Int) ≤ a.Cap ∧ ∀ i,i < a.List.length → Zgc a.Kind a.List i=0):=by
 unfold Zng
 by_cases h1:Zgb t n b r l a=false
 ·rw [if_pos h1,h1];simp
 ·have h1':Zgb t n b r l a=true:=by simpa using h1
  rw [if_neg h1,h1']
  by_cases h2:(64:Int) < a.Text.size
  ·rw [if_pos h2];exact ⟨fun h=>absurd h (by decide),fun h=>by omega⟩
  ·rw [if_neg h2]
   by_cases h3:b=true ∧ (a.Low < -2305843009213693952 ∨ 2305843009213693952 < a.High ∨ a.Num < a.Low ∨ a.High < a.Num)
   ·rw [if_pos h3];exact ⟨fun h=>absurd h (by decide),fun h=>by have:=h.2.2.1 h3.1;omega⟩
   ·rw [if_neg h3]
    by_cases h4:a.Real=Zbh a.Real
    ·rw [if_neg (fun h=>h h4)]
     cases l
     ·rw [if_pos rfl]
      refine ⟨fun _=>⟨rfl,by omega,fun hb=>?_,h4,fun h=>absurd h (by decide)⟩,fun _=>rfl⟩
      have:¬ (a.Low < -2305843009213693952 ∨ 2305843009213693952 < a.High ∨ a.Num < a.Low ∨ a.High < a.Num):=fun h=>h3 ⟨hb,h⟩
      omega
     ·rw [if_neg (by decide)]
      by_cases h5:a.Cap < 1 ∨ 32 < a.Cap
      ·rw [if_pos h5];exact ⟨fun h=>absurd h (by decide),fun h=>by have:=h.2.2.2.2 rfl;omega⟩
      ·rw [if_neg h5]
       by_cases h6:a.Cap < a.List.length
       ·rw [if_pos h6];exact ⟨fun h=>absurd h (by decide),fun h=>by have:=h.2.2.2.2 rfl;omega⟩
       ·rw [if_neg h6,Zqe]
        constructor
        ·intro h
         refine ⟨rfl,by omega,fun hb=>?_,h4,fun _=>⟨by omega,by omega,by omega,fun i hi=>h i (Nat.zero_le _) (by omega)⟩⟩
         have:¬ (a.Low < -2305843009213693952 ∨ 2305843009213693952 < a.High ∨ a.Num < a.Low ∨ a.High < a.Num):=fun h=>h3 ⟨hb,h⟩
         omega
        ·intro h j _ hj
         exact (h.2.2.2.2 rfl).2.2.2 j (by omega)
    ·rw [if_pos h4];exact ⟨fun h=>absurd h (by decide),fun h=>absurd h.2.2.2.1 h4⟩
def Zbv (a:Za):Prop:=1 ≤ a.Kind ∧ a.Kind ≤ 9 ∧ Zgb (decide (a.Kind=1)) (decide (2 ≤ a.Kind ∧ a.Kind ≤ 4)) (decide (a.Kind=4)) (decide (5 ≤ a.Kind ∧ a.Kind ≤ 7)) (decide (8 ≤ a.Kind)) a=true ∧ a.Text.size ≤ 64 ∧ (a.Kind=4 → -2305843009213693952 ≤ a.Low ∧ a.High ≤ 2305843009213693952 ∧ a.Low ≤ a.Num ∧ a.Num ≤ a.High) ∧ a.Real=Zbh a.Real ∧
 (8 ≤ a.Kind → 1 ≤ a.Cap ∧ a.Cap ≤ 32 ∧ (a.List.length:Int) ≤ a.Cap ∧ ∀ i,i < a.List.length → Zgc a.Kind a.List i=0)
theorem Ze1 {a:Za} (ha:Zh0 a):Zdg a=some 0 ↔ Zbv a:=by
 by_cases hk:a.Kind ≤ 0 ∨ 10 ≤ a.Kind
 ·have:Zdg a ≠ some 0:=by
   obtain ⟨c,hc,hc2⟩:=Zki ha
   unfold Zcw at hc2
   rw [if_pos (by simp;omega)] at hc2
   rw [hc,← hc2];decide
  exact ⟨fun h=>absurd h this,fun h=>by obtain ⟨h1,h2,_⟩:=h;omega⟩
 ·have fin:∀ {t n b r l:Bool},Zdl a.Kind=some ⟨t,n,b,r,l⟩ → t=decide (a.Kind=1) → n=decide (2 ≤ a.Kind ∧ a.Kind ≤ 4) → b=decide (a.Kind=4) → r=decide (5 ≤ a.Kind ∧ a.Kind ≤ 7) → l=decide (8 ≤ a.Kind) → (Zdg a=some 0 ↔ Zbv a):=by
   intro t n b r l hs h1 h2 h3 h4 h5
   rw [Zey ha hk hs]
   constructor
   ·intro h
    obtain ⟨g1,g2,g3,g4,g5⟩:=Zqn.1 (Option.some.inj h)
    refine ⟨by omega,by omega,by rw [← h1,← h2,← h3,← h4,← h5];exact g1,g2,fun hk4=>g3 (by rw [h3];simpa using hk4),g4,fun hk8=>g5 (by rw [h5];simpa using hk8)⟩
   ·rintro ⟨_,_,g1,g2,g3,g4,g5⟩
    congr 1
    exact Zqn.2 ⟨by rw [h1,h2,h3,h4,h5];exact g1,g2,fun hb=>g3 (by rw [h3] at hb;simpa using hb),g4,fun hb=>g5 (by rw [h5] at hb;simpa using hb)⟩
  have hk':a.Kind=1 ∨ a.Kind=2 ∨ a.Kind=3 ∨ a.Kind=4 ∨ a.Kind=5 ∨ a.Kind=6 ∨ a.Kind=7 ∨ a.Kind=8 ∨ a.Kind=9:=by omega
  rcases hk' with h | h | h | h | h | h | h | h | h <;> rw [h] at fin
  ·exact fin Zzo rfl rfl rfl rfl rfl
  ·exact fin Zzn rfl rfl rfl rfl rfl
  ·exact fin Z0j rfl rfl rfl rfl rfl
  ·exact fin Zz2 rfl rfl rfl rfl rfl
  ·exact fin Z0g rfl rfl rfl rfl rfl
  ·exact fin Zzx rfl rfl rfl rfl rfl
  ·exact fin Z0i rfl rfl rfl rfl rfl
  ·exact fin Z0f rfl rfl rfl rfl rfl
  ·exact fin Zy4 rfl rfl rfl rfl rfl
theorem Zig {a:Za} (h:Zbv a) (hk:a.Kind=8):NS a.List:=by
 obtain ⟨_,_,_,_,_,_,h8⟩:=h
 obtain ⟨_,_,_,hi⟩:=h8 (by omega)
 have step:∀ i,i + 1 < a.List.length → sLt ((a.List[i]?).getD default).Name ((a.List[i + 1]?).getD default).Name=true:=by
  intro i hi1
  have:=hi (i + 1) hi1
  unfold Zgc at this
  rw [List.getElem?_eq_getElem hi1] at this
  simp only [Nat.add_sub_cancel] at this
  split at this
  ·cases this
  ·split at this
   ·cases this
   ·split at this
    ·cases this
    ·rename_i h3
     rw [List.getElem?_eq_getElem hi1]
     cases hq:sLt ((a.List[i]?).getD default).Name a.List[i + 1].Name
     ·exact absurd ⟨by omega,hk,hq⟩ h3
     ·exact hq
 have far:∀ d i,i + d + 1 < a.List.length → sLt ((a.List[i]?).getD default).Name ((a.List[i + d + 1]?).getD default).Name=true:=by
  intro d
  induction d with
  | zero=>intro i h;exact step i h
  | succ d ih=>intro i h;exact Zi6 (ih i (by omega)) (step (i + d + 1) (by omega))
 refine List.pairwise_iff_getElem.2 fun i j hi hj hij=>?_
 have:=far (j - i - 1) i (by omega)
 rw [show i + (j - i - 1) + 1=j by omega,List.getElem?_eq_getElem hi,List.getElem?_eq_getElem hj] at this
 exact this
theorem Zsk {neg:Bool} {r:Nat} (h:r ≤ Ieee.double.infRung):Ieee.double.word neg r < W64:=by
 have h1:Ieee.double.infRung=9218868437227405312:=by decide
 have h2:Ieee.double.signWeight=9223372036854775808:=by decide
 unfold Ieee.Format.word
 rw [h1] at h
 show _ < 18446744073709551616
 split
 ·rw [h2];omega
 ·omega
theorem Zym (neg:Bool) (mag:Nat) (place:Int):Ieee.double.nearest neg mag place < W64:=by
 unfold Ieee.Format.nearest
 split
 ·exact Zsk (Nat.zero_le _)
 ·exact Zsk (Nat.min_le_right _ _)
theorem Zu5 {d:Ieee.Datum} (h:∀ n f,d ≠ .nan n f):Ieee.double.write d < W64:=by
 cases d with
 | number n m p=>exact Zym n m p
 | infinity n=>exact Zsk (Nat.le_refl _)
 | nan n f=>exact absurd rfl (h n f)
theorem Z3w {x y d:Ieee.Datum} (h:x.sum y=some d):∀ n f,d ≠ .nan n f:=by
 intro n f e
 subst e
 cases x <;> cases y <;> simp [Ieee.Datum.sum] at h
theorem Zwk {x y d:Ieee.Datum} (h:x.product y=some d):∀ n f,d ≠ .nan n f:=by
 intro n f e
 subst e
 cases x <;> cases y <;> simp [Ieee.Datum.product] at h
theorem Zw1 (m n:Nat):fadd m n < W64:=by
 unfold fadd Ieee.Format.add
 cases h:(Ieee.double.read m).sum (Ieee.double.read n) with
 | none=>exact (by decide:9221120237041090561 < W64)
 | some d=>simpa using Zu5 (Z3w h)
theorem Zw2 (m n:Nat):fmul m n < W64:=by
 unfold fmul Ieee.Format.mul
 cases h:(Ieee.double.read m).product (Ieee.double.read n) with
 | none=>exact (by decide:9221120237041090561 < W64)
 | some d=>simpa using Zu5 (Zwk h)
theorem Zo4 {z:Nat} (hz:z < W64):∃ p,Zhx z=some p ∧ Zew p=some (Zbh z):=by
 have hz':z < 18446744073709551616:=hz
 unfold Zhx Zew Zbh NANB
 rw [Zn1 hz]
 simp only [Option.bind_some]
 by_cases hn:isn z
 ·refine ⟨18444492273895866369,by simp [hn];decide,?_⟩
  rw [if_pos (by decide),if_pos hn];decide
 ·simp only [hn,decide_false,Bool.false_eq_true,if_false]
  by_cases ht:(9223372036854775808:Int) ≤ z
  ·rw [if_pos (by simpa using ht)]
   refine ⟨_,rfl,?_⟩
   rw [wru (x:=(9223372036854775808:Int) - 1) (by decide) (by decide),wru (x:=(z:Int) - 9223372036854775808) (by omega) (by omega),wru (by omega) (by omega)]
   rw [if_neg (by simp;omega)]
   rw [wru (x:=(9223372036854775808:Int) - 1 - _) (by omega) (by omega),wru (by omega) (by omega)]
   congr 1;omega
  ·rw [if_neg (by simpa using ht)]
   refine ⟨_,rfl,?_⟩
   rw [wru (by omega) (by omega),if_pos (by simp;omega),wru (by omega) (by omega)]
   congr 1;omega
theorem Zqm {z:Nat}:Zbh (Zbh z)=Zbh z:=by
 unfold Zbh
 by_cases h:isn z
 ·rw [if_pos h,if_pos (show isn NANB by unfold isn rg INF NANB TOP;decide)]
 ·rw [if_neg h,if_neg h]
theorem Zvl {a b:Nat} (ha:a < W64) (hb:b < W64) (ca:a=Zbh a) (cb:b=Zbh b):∃ m,Zge a b=some m ∧ Zhn a b=some m ∧ (m=a ∨ m=b):=by
 unfold Zge Zhn
 rw [Zkp ha hb,Zj4 ha hb,Zef ha,Zef hb,← ca,← cb]
 by_cases h:keyf a < keyf b
 ·exact ⟨b,by simp [h],by simp [h],.inr rfl⟩
 ·exact ⟨a,by simp [h],by simp [h],.inl rfl⟩
theorem Zup {a b:Nat} (ha:a < W64) (hb:b < W64) (ca:a=Zbh a) (cb:b=Zbh b):∃ m,Zgh a b=some m ∧ Zhp a b=some m ∧ (m=a ∨ m=b):=by
 unfold Zgh Zhp
 rw [Zkp hb ha,Zj4 hb ha,Zef ha,Zef hb,← ca,← cb]
 by_cases h:keyf b < keyf a
 ·exact ⟨b,by simp [h],by simp [h],.inr rfl⟩
 ·exact ⟨a,by simp [h],by simp [h],.inl rfl⟩
def I64 (x:Int):Prop:=-9223372036854775808 ≤ x ∧ x ≤ 9223372036854775807
structure RecW (r:Za):Prop where
 ok:Zh0 r
 num:I64 r.Num
 low:I64 r.Low
 high:I64 r.High
 kind:I64 r.Kind
 len:r.List.length ≤ 1000
structure ActW (a:Zg):Prop where
 ok:Zpn a
 n:I64 a.N
 mkr:RecW a.Make
 xc:a.X=Zbh a.X
 inout:(a.Kind=10 ∨ a.Kind=11) → 0 ≤ a.N ∧ a.N ≤ 2305843009213693952
 s64:a.S.size ≤ 64
 s16:¬ (5 ≤ a.Kind ∧ a.Kind ≤ 6) → a.S.size ≤ 16
abbrev ans (c:Int):Zi:={ Code:=c,Num:=0,Rec:=default }
def Chg (r:Za) (a:Zg):Prop:=∃ c r' o,Z6 a.Kind r a (default:Zi)=some (c,r',o) ∧ Z3 r a=some (if c=0 then (r',o) else (r,ans c)) ∧ RecW r' ∧ RecW o.Rec ∧ (c=0 → o.Code=0 ∧ o.Num=0)
theorem Zku (x:Int):I64 (IntKind.i64.wrap x):=by unfold I64;rw [IntKind.wrap_i64];omega
theorem Zc0:RecW (default:Za):=⟨⟨by decide,by decide,fun e he=>by cases he⟩,by unfold I64;decide,by unfold I64;decide,by unfold I64;decide,by unfold I64;decide,by decide⟩
theorem RecW.withNum {r:Za} (h:RecW r) {x:Int} (hx:I64 x):RecW { r with Num:=x }:=⟨⟨h.ok.real,h.ok.len,h.ok.sc⟩,hx,h.low,h.high,h.kind,h.len⟩
theorem RecW.withText {r:Za} (h:RecW r) (t:ByteArray):RecW { r with Text:=t }:=⟨⟨h.ok.real,h.ok.len,h.ok.sc⟩,h.num,h.low,h.high,h.kind,h.len⟩
theorem RecW.withReal {r:Za} (h:RecW r) {x:Nat} (hx:x < W64):RecW { r with Real:=x }:=⟨⟨hx,h.ok.len,h.ok.sc⟩,h.num,h.low,h.high,h.kind,h.len⟩
theorem RecW.withList {r:Za} (h:RecW r) {l:Zbf} (h1:l.length ≤ 1000) (h2:∀ e ∈ l,e.Score < W64):RecW { r with List:=l }:=⟨⟨h.ok.real,by show l.length < _;omega,h2⟩,h.num,h.low,h.high,h.kind,h1⟩
theorem Zf2 {r:Za} (h:r.List.length ≤ 1000):Zf1 r=some r:=by
 unfold Zf1 Zbr
 rw [if_pos (by omega)];rfl
theorem Zmg {r:Za} (h:r.List.length ≤ 1000):Zeu r=some r:=by
 unfold Zeu
 rw [if_pos (by simp;omega)];rfl
variable {r:Za} {a:Zg}
theorem Z3f (h:a.Kind=5) (hr:RecW r):Chg r a:=by
 refine ⟨0,{ r with Text:=a.S },ans 0,?_,?_,hr.withText _,Zc0,fun _=>⟨rfl,rfl⟩⟩
 ·rw [h];rfl
 ·unfold Z3;rw [h];rfl
theorem Z0w (h:a.Kind=6) (hr:RecW r):Chg r a:=by
 refine ⟨0,{ r with Text:=a.S },{ ans 0 with Rec:=r },?_,?_,hr.withText _,hr,fun _=>⟨rfl,rfl⟩⟩
 ·rw [h]
  show Zfp r a default=_
  unfold Zfp
  rw [Zf2 hr.len];rfl
 ·unfold Z3;rw [h,Zmg hr.len];rfl
theorem Z37 (h:a.Kind=7) (hr:RecW r):Chg r a:=by
 refine ⟨0,{ r with Num:=IntKind.i64.wrap (r.Num + a.N) },ans 0,?_,?_,hr.withNum (Zku _),Zc0,fun _=>⟨rfl,rfl⟩⟩
 ·rw [h];rfl
 ·unfold Z3;rw [h];rfl
theorem Zzw (hr:I64 r.Num) (hn:I64 a.N):(((decide ((0:Int) < a.N)) && (decide ((IntKind.i64.wrap ((9223372036854775807:Int) - a.N)) < r.Num))) || ((decide (a.N < (0:Int))) && (decide (r.Num < (IntKind.i64.wrap ((-9223372036854775808:Int) - a.N)))))) =
  ((((decide ((0:Int) < r.Num)) && (decide ((0:Int) < a.N))) && (decide ((IntKind.i64.wrap (r.Num + a.N)) < (0:Int)))) || (((decide (r.Num < (0:Int))) && (decide (a.N < (0:Int)))) && (decide ((0:Int) ≤ (IntKind.i64.wrap (r.Num + a.N)))))):=by
 unfold I64 at hr hn
 rw [Bool.eq_iff_iff]
 simp only [Bool.or_eq_true,Bool.and_eq_true,decide_eq_true_eq,IntKind.wrap_i64]
 omega
theorem Z0z (h:a.Kind=8) (hr:RecW r) (ha:ActW a):Chg r a:=by
 have e1:Z6 a.Kind r a default=Zjg r a default:=by rw [h];rfl
 have e2:Z3 r a=(Zg0 r.Num a.N).bind fun r7=>(if r7 then (Zk r (ans 9)) else (Zk { r with Num:=IntKind.i64.wrap (r.Num + a.N) } (ans 0))):=by unfold Z3;rw [h];rfl
 have hp:=Zzw hr.num ha.n
 unfold Chg
 rw [e1,e2]
 unfold Zjg Zg0 Zk
 rw [hp]
 simp only [Option.bind_some]
 split
 ·exact ⟨9,r,_,rfl,rfl,hr,Zc0,fun h=>by cases h⟩
 ·exact ⟨0,_,_,rfl,rfl,hr.withNum (Zku _),Zc0,fun _=>⟨rfl,rfl⟩⟩
theorem Zs2 (h:a.Kind=9 ∨ a.Kind=12) (hr:RecW r):Chg r a:=by
 have e1:Z6 a.Kind r a default=Zeo r a default:=by rcases h with h | h <;> rw [h] <;> rfl
 have e2:Z3 r a=(if (decide (r.Num < a.N)) then (Zk r (ans 11)) else (Zk r (ans 0))):=by rcases h with h | h <;> unfold Z3 Zbm <;> rw [h] <;> rfl
 unfold Chg
 rw [e1,e2]
 unfold Zeo Zk
 split
 ·exact ⟨11,r,_,rfl,rfl,hr,Zc0,fun h=>by cases h⟩
 ·exact ⟨0,r,_,rfl,rfl,hr,Zc0,fun _=>⟨rfl,rfl⟩⟩
theorem Zmk (hg:Zbv r) (hk:r.Kind=4):-2305843009213693952 ≤ r.Low ∧ r.High ≤ 2305843009213693952 ∧ r.Low ≤ r.Num ∧ r.Num ≤ r.High:=hg.2.2.2.2.1 hk
theorem Z6b (h:a.Kind=10) (hr:RecW r) (hg:Zbv r) (hk:r.Kind=4) (ha:ActW a):Chg r a:=by
 have e1:Z6 a.Kind r a default=Zfl r a default:=by rw [h];rfl
 have e2:Z3 r a=(if (decide (r.High < IntKind.i64.wrap (r.Num + a.N))) then (Zk r (ans 9)) else (Zk { r with Num:=IntKind.i64.wrap (r.Num + a.N) } (ans 0))):=by unfold Z3 Zbm;rw [h];rfl
 obtain ⟨p1,p2,p3,p4⟩:=Zmk hg hk
 obtain ⟨n1,n2⟩:=ha.inout (.inl h)
 have hd:decide (IntKind.i64.wrap (r.High - r.Num) < a.N)=decide (r.High < IntKind.i64.wrap (r.Num + a.N)):=by
  rw [wr (x:=r.High - r.Num) (by omega) (by omega),wr (x:=r.Num + a.N) (by omega) (by omega)]
  apply decide_eq_decide.2;omega
 unfold Chg
 rw [e1,e2]
 unfold Zfl Zk
 rw [hd]
 split
 ·exact ⟨9,r,_,rfl,rfl,hr,Zc0,fun h=>by cases h⟩
 ·exact ⟨0,_,_,rfl,rfl,hr.withNum (Zku _),Zc0,fun _=>⟨rfl,rfl⟩⟩
theorem Z5b (h:a.Kind=11) (hr:RecW r) (hg:Zbv r) (hk:r.Kind=4) (ha:ActW a):Chg r a:=by
 have e1:Z6 a.Kind r a default=Zft r a default:=by rw [h];rfl
 have e2:Z3 r a=(if (decide (IntKind.i64.wrap (r.Num - a.N) < r.Low)) then (Zk r (ans 10)) else (Zk { r with Num:=IntKind.i64.wrap (r.Num - a.N) } (ans 0))):=by unfold Z3 Zbm;rw [h];rfl
 obtain ⟨p1,p2,p3,p4⟩:=Zmk hg hk
 obtain ⟨n1,n2⟩:=ha.inout (.inr h)
 have hd:decide (IntKind.i64.wrap (r.Num - r.Low) < a.N)=decide (IntKind.i64.wrap (r.Num - a.N) < r.Low):=by
  rw [wr (x:=r.Num - r.Low) (by omega) (by omega),wr (x:=r.Num - a.N) (by omega) (by omega)]
  apply decide_eq_decide.2;omega
 unfold Chg
 rw [e1,e2]
 unfold Zft Zk
 rw [hd]
 split
 ·exact ⟨10,r,_,rfl,rfl,hr,Zc0,fun h=>by cases h⟩
 ·exact ⟨0,_,_,rfl,rfl,hr.withNum (Zku _),Zc0,fun _=>⟨rfl,rfl⟩⟩
theorem Zl3 {m:Nat} {ψ:Nat → Nat → Option Nat} (h:Z6 a.Kind r a default=Zdo ψ r a default) (h1:ψ r.Real a.X=some m) (hm:m < W64) (h2:Z3 r a=some ({ r with Real:=m },ans 0)) (hr:RecW r):Chg r a:=by
 refine ⟨0,{ r with Real:=m },ans 0,?_,h2,hr.withReal hm,Zc0,fun _=>⟨rfl,rfl⟩⟩
 rw [h]
 unfold Zdo
 rw [h1];rfl
theorem Zk6 (hg:Zbv r):r.Real=Zbh r.Real:=hg.2.2.2.2.2.1
theorem Zyy (h:a.Kind=13) (hr:RecW r) (hg:Zbv r) (ha:ActW a):Chg r a:=by
 obtain ⟨m,m1,m2,m3⟩:=Zvl hr.ok.real ha.ok.2 (Zk6 hg) ha.xc
 refine Zl3 (m:=m) (ψ:=fun x y=>Zge x y) (by rw [h];rfl) m1 (by rcases m3 with rfl | rfl;exact hr.ok.real;exact ha.ok.2) ?_ hr
 unfold Z3 Zbm;rw [h,m2];rfl
theorem Zz9 (h:a.Kind=14) (hr:RecW r) (hg:Zbv r) (ha:ActW a):Chg r a:=by
 obtain ⟨m,m1,m2,m3⟩:=Zup hr.ok.real ha.ok.2 (Zk6 hg) ha.xc
 refine Zl3 (m:=m) (ψ:=fun x y=>Zgh x y) (by rw [h];rfl) m1 (by rcases m3 with rfl | rfl;exact hr.ok.real;exact ha.ok.2) ?_ hr
 unfold Z3 Zbm;rw [h,m2];rfl
theorem Zzt (h:a.Kind=15) (hr:RecW r):Chg r a:=by
 have hz:=Zw1 r.Real a.X
 obtain ⟨p,p1,p2⟩:=Zo4 hz
 refine Zl3 (m:=Zbh (fadd r.Real a.X)) (ψ:=fun x y=>Zgy x y) (by rw [h];rfl) (by show Zgy r.Real a.X=_;unfold Zgy;rw [Zef hz];rfl) (Zqt hz) ?_ hr
 unfold Z3 Zbm;rw [h,p1]
 show ((Zew p).bind _)=_
 rw [p2];rfl
theorem Zzm (h:a.Kind=16) (hr:RecW r):Chg r a:=by
 have hz:=Zw2 r.Real a.X
 obtain ⟨p,p1,p2⟩:=Zo4 hz
 refine Zl3 (m:=Zbh (fmul r.Real a.X)) (ψ:=fun x y=>Zfx x y) (by rw [h];rfl) (by show Zfx r.Real a.X=_;unfold Zfx;rw [Zef hz];rfl) (Zqt hz) ?_ hr
 unfold Z3 Zbm;rw [h,p1]
 show ((Zew p).bind _)=_
 rw [p2];rfl
theorem Z4j (h:a.Kind=17) (hr:RecW r) (ha:ActW a):Chg r a:=by
 refine Zl3 (m:=a.X) (ψ:=fun x y=>Zfq x y) (by rw [h];rfl) rfl ha.ok.2 ?_ hr
 unfold Z3 Zbm;rw [h];rfl
theorem Zkb (hg:Zbv r) (hk:8 ≤ r.Kind):1 ≤ r.Cap ∧ r.Cap ≤ 32 ∧ (r.List.length:Int) ≤ r.Cap:=by
 obtain ⟨h1,h2,h3,_⟩:=hg.2.2.2.2.2.2 hk
 exact ⟨h1,h2,h3⟩
theorem Z3o (h:a.Kind=20) (hr:RecW r) (hg:Zbv r) (hk:r.Kind=8):Chg r a:=by
 have hs:=Zig hg hk
 have hl:=hr.len
 have e1:Z6 a.Kind r a default=Zfm r a default:=by rw [h];rfl
 have e2:Z3 r a=(Ze0 r.List a.S).bind fun r59=>(if (!r59) then (Zk r (ans 11)) else (Zk r (ans 0))):=by unfold Z3 Zbm;rw [h];rfl
 unfold Chg
 rw [e1,e2]
 unfold Zfm Zk
 rw [Zmy hs (by omega),Zvv (by omega),Zj1 hs]
 simp only [Option.bind_some]
 split
 ·exact ⟨11,r,_,rfl,rfl,hr,Zc0,fun h=>by cases h⟩
 ·exact ⟨0,r,_,rfl,rfl,hr,Zc0,fun _=>⟨rfl,rfl⟩⟩
theorem Z04 (h:a.Kind=18) (hr:RecW r) (hg:Zbv r) (hk:r.Kind=8):Chg r a:=by
 have hs:=Zig hg hk
 have hl:=hr.len
 obtain ⟨c1,c2,c3⟩:=Zkb hg (by omega)
 have e1:Z6 a.Kind r a default=Zi9 r a default:=by rw [h];rfl
 have e2:Z3 r a=(Ze0 r.List a.S).bind fun r40=>(if ((!r40) && (decide (r.Cap ≤ (r.List.length:Int)))) then (Zk r (ans 8)) else ((Zd7 r.List ({ Score:=(0:Nat),Name:=a.S }:Zd) true).bind fun r43=>(Zk ({ r with List:=r43 }) (ans 0)))):=by unfold Z3 Zbm;rw [h];rfl
 have hple:=Zk3 (fun e=>sLt e.Name a.S) r.List
 unfold Chg
 rw [e1,e2]
 unfold Zi9 Zk
 rw [Zmy hs (by omega),Zvv (by omega),Zj1 hs,Zpk (show (0:Nat) < W64 by decide) hr.ok.sc (by omega),Zj9,Znc (by omega)]
 simp only [Option.bind_some]
 by_cases hat:isAt a.S r.List=true
 ·rw [hat]
  exact ⟨0,r,_,rfl,rfl,hr,Zc0,fun _=>⟨rfl,rfl⟩⟩
 ·have hat':isAt a.S r.List=false:=by simpa using hat
  rw [hat']
  simp only [Bool.not_false,Bool.true_and,Bool.false_eq_true,if_false]
  by_cases hc:decide (r.Cap ≤ (r.List.length:Int))=true
  ·rw [if_pos hc,if_pos hc]
   exact ⟨8,r,_,rfl,rfl,hr,Zc0,fun h=>by cases h⟩
  ·rw [if_neg hc,if_neg hc]
   unfold Zby
   rw [if_pos ⟨by omega,by omega,by simp,by simp;omega⟩]
   refine ⟨0,_,_,rfl,rfl,hr.withList (by simp;omega) fun e he=>?_,Zc0,fun _=>⟨rfl,rfl⟩⟩
   simp only [List.mem_append,List.mem_singleton,Int.toNat_natCast] at he
   rcases he with (he | rfl) | he
   ·exact hr.ok.sc e (List.mem_of_mem_take he)
   ·exact (show (0:Nat) < W64 by decide)
   ·exact hr.ok.sc e (List.mem_of_mem_drop he)
theorem Zs7 (h:a.Kind=19) (hr:RecW r) (hg:Zbv r) (hk:r.Kind=8):Chg r a:=by
 have hs:=Zig hg hk
 have hl:=hr.len
 have e1:Z6 a.Kind r a default=Zh6 r a default:=by rw [h];rfl
 have e2:Z3 r a=(Zdi r a (Int.toNat ((r.List.length:Int) - (0:Int)) + 1) ([]:List Zd) (0:Int)).bind fun z57=>match z57 with | y56=>(Zk ({ r with List:=y56 }) (ans 0)):=by unfold Z3 Zbm;rw [h];rfl
 have hple:=Zk3 (fun e=>sLt e.Name a.S) r.List
 unfold Chg
 rw [e1,e2]
 unfold Zh6 Zk
 have hf:=Zlb (a:=a) (a0:=r) (by omega) r.List.length 0 [] (by omega) (by simp)
 rw [show ((0:Nat):Int)=0 from rfl] at hf
 rw [Zmy hs (by omega),show (Int.toNat ((r.List.length:Int) - (0:Int)) + 1)=r.List.length + 1 by omega,hf,List.drop_zero,List.nil_append,Zz0 hs,Znc (by omega)]
 simp only [Option.bind_some]
 by_cases hat:isAt a.S r.List=true
 ·have hp:pre (fun e=>sLt e.Name a.S) r.List < r.List.length:=by
   unfold isAt at hat
   cases hq:r.List[pre (fun e=>sLt e.Name a.S) r.List]? with
   | none=>rw [hq] at hat;cases hat
   | some e=>exact (List.getElem?_eq_some_iff.1 hq).1
  rw [hat]
  simp only [if_true]
  unfold Zdv
  rw [wr1 (by omega),if_pos ⟨by omega,by omega,by omega,by omega,by omega⟩]
  refine ⟨0,_,_,rfl,rfl,hr.withList (by simp;omega) fun e he=>?_,Zc0,fun _=>⟨rfl,rfl⟩⟩
  simp only [List.mem_append,Int.toNat_natCast] at he
  rcases he with he | he
  ·exact hr.ok.sc e (List.mem_of_mem_take he)
  ·exact hr.ok.sc e (List.mem_of_mem_drop he)
 ·have hat':isAt a.S r.List=false:=by simpa using hat
  rw [hat']
  exact ⟨0,r,_,rfl,rfl,hr,Zc0,fun _=>⟨rfl,rfl⟩⟩
variable {r:Za} {a:Zg}
theorem Zu8 {l:Zbf} {c:Int} (h1:1 ≤ c) (h2:c ≤ 32):cut l 0 (min (l.length:Int) c)=some (l.take c.toNat):=by
 unfold cut
 rw [if_pos (by omega)]
 simp only [Int.toNat_zero,List.drop_zero,Nat.sub_zero]
 congr 1
 rcases Int.le_total (l.length:Int) c with h | h
 ·rw [Int.min_eq_left h,Int.toNat_natCast,List.take_of_length_le (Nat.le_refl _),List.take_of_length_le (by omega)]
 ·rw [Int.min_eq_right h]
theorem Zy7 (h:a.Kind=21) (hr:RecW r) (hg:Zbv r) (hk:r.Kind=9) (ha:ActW a):Chg r a:=by
 have hl:=hr.len
 obtain ⟨c1,c2,c3⟩:=Zkb hg (by omega)
 have e1:Z6 a.Kind r a default=Zii r a default:=by rw [h];rfl
 have e2:Z3 r a=(Zd7 r.List ({ Score:=a.X,Name:=a.S }:Zd) false).bind fun r63=>(if (decide (r.Cap < (r63.length:Int))) then ((cut r63 (0:Int) r.Cap).bind fun c66=>(Zc7 r c66)) else (Zc7 r r63)):=by unfold Z3 Zbm;rw [h];rfl
 have hx:({ Score:=a.X,Name:=a.S }:Zd).Score < W64:=ha.ok.2
 have hple:=Zk3 (Zcb { Score:=a.X,Name:=a.S } false) r.List
 unfold Chg
 rw [e1,e2]
 unfold Zii
 rw [Zsz ha.ok.2 hr.ok.sc (by omega),Zpk hx hr.ok.sc (by omega),Znc (by omega)]
 simp only [Option.bind_some]
 have fin:∀ L:Zbf,L=r.List.take (pre (Zcb { Score:=a.X,Name:=a.S } false) r.List) ++ [{ Score:=a.X,Name:=a.S }] ++ r.List.drop (pre (Zcb { Score:=a.X,Name:=a.S } false) r.List) → layL { Score:=a.X,Name:=a.S } false r.List=L →
   ∃ c r' o,((Zby r.List ((pre (Zcb { Score:=a.X,Name:=a.S } false) r.List:Nat):Int) ([({ Score:=a.X,Name:=a.S }:Zd)]:List Zd)).bind fun r16=>((cut r16 (0:Int) (min (r16.length:Int) r.Cap)).bind fun c18=>(some ((0:Int),({ r with List:=c18 }),(default:Zi)))))=some (c,r',o) ∧
    (if (decide (r.Cap < ((layL { Score:=a.X,Name:=a.S } false r.List).length:Int)))=true then ((cut (layL { Score:=a.X,Name:=a.S } false r.List) (0:Int) r.Cap).bind fun c66=>(Zc7 r c66)) else (Zc7 r (layL { Score:=a.X,Name:=a.S } false r.List)))=some (if c=0 then (r',o) else (r,ans c)) ∧ RecW r' ∧ RecW o.Rec ∧ (c=0 → o.Code=0 ∧ o.Num=0):=by
  intro L hL hlay
  have hLl:L.length=r.List.length + 1:=by rw [hL];simp;omega
  have hLs:∀ e ∈ L,e.Score < W64:=fun e he=>by
   rw [hL] at he
   simp only [List.mem_append,List.mem_singleton] at he
   rcases he with (he | rfl) | he
   ·exact hr.ok.sc e (List.mem_of_mem_take he)
   ·exact hx
   ·exact hr.ok.sc e (List.mem_of_mem_drop he)
  rw [hlay]
  unfold Zby Zc7 Zk
  rw [if_pos ⟨by omega,by omega,by simp,by simp;omega⟩]
  simp only [Option.bind_some,Int.toNat_natCast]
  rw [← hL,Zu8 c1 c2]
  refine ⟨0,{ r with List:=L.take r.Cap.toNat },ans 0,rfl,?_,hr.withList (by simp;omega) (fun e he=>hLs e (List.mem_of_mem_take he)),Zc0,fun _=>⟨rfl,rfl⟩⟩
  by_cases hc:decide (r.Cap < (L.length:Int))=true
  ·rw [if_pos hc]
   have:r.Cap < (L.length:Int):=of_decide_eq_true hc
   unfold cut
   rw [if_pos (by omega)]
   simp
  ·rw [if_neg hc]
   have:¬ r.Cap < (L.length:Int):=fun h=>hc (decide_eq_true h)
   rw [List.take_of_length_le (by omega)];rfl
 by_cases hp:pre (Zcb { Score:=a.X,Name:=a.S } false) r.List < r.List.length
 ·have hd:decide (((pre (Zcb { Score:=a.X,Name:=a.S } false) r.List:Nat):Int) < (r.List.length:Int))=true:=by simpa using hp
  have hat:=Zrn (List.getElem?_eq_getElem hp)
  have hb:Zb0 r.List[pre (Zcb { Score:=a.X,Name:=a.S } false) r.List] { Score:=a.X,Name:=a.S }=false:=hat
  have hbs:=Zqk hb
  rw [hd,Zcy hp]
  simp only [gd_t,Option.bind_some,Bool.true_and]
  rw [Zmj hx (hr.ok.sc _ (List.getElem_mem hp))]
  simp only [Option.bind_some]
  by_cases hs:(!Zb0 { Score:=a.X,Name:=a.S } r.List[pre (Zcb { Score:=a.X,Name:=a.S } false) r.List])=true
  ·rw [if_pos hs]
   have hlay:layL { Score:=a.X,Name:=a.S } false r.List=r.List:=by
    unfold layL
    rw [List.getElem?_eq_getElem hp]
    simp only
    rw [if_pos (by rw [← hbs];exact hs),List.append_nil,List.take_append_drop]
   rw [hlay,if_neg (by simp;omega)]
   exact ⟨0,r,_,rfl,rfl,hr,Zc0,fun _=>⟨rfl,rfl⟩⟩
  ·rw [if_neg hs]
   refine fin _ rfl ?_
   unfold layL
   rw [List.getElem?_eq_getElem hp]
   simp only
   rw [if_neg (by rw [← hbs];exact hs)]
 ·have hd:decide (((pre (Zcb { Score:=a.X,Name:=a.S } false) r.List:Nat):Int) < (r.List.length:Int))=false:=by simpa using hp
  rw [hd]
  simp only [gd_f,Option.bind_some,Bool.false_and,Bool.false_eq_true,if_false]
  refine fin _ rfl ?_
  unfold layL
  rw [List.getElem?_eq_none (by omega),List.take_of_length_le (by omega),List.drop_of_length_le (by omega),List.append_nil]
theorem Zkx {k:Int} (h1:1 ≤ k) (h2:k ≤ 21):∃ on,Zd5 k=some on ∧ Zc8 k=some on ∧ (k ≤ 4 → on=0) ∧ (5 ≤ k → on ≠ 0) ∧ ((k=10 ∨ k=11) → on=4) ∧ ((k=18 ∨ k=19 ∨ k=20) → on=8) ∧ (k=21 → on=9) ∧
  ((k=5 ∨ k=6) → on=1) ∧ (k=7 → on=2) ∧ ((k=8 ∨ k=9) → on=3) ∧ (k=12 → on=4) ∧ (k=13 → on=5) ∧ (k=14 → on=6) ∧ ((k=15 ∨ k=16 ∨ k=17) → on=7):=by
 have hk':k=1 ∨ k=2 ∨ k=3 ∨ k=4 ∨ k=5 ∨ k=6 ∨ k=7 ∨ k=8 ∨ k=9 ∨ k=10 ∨ k=11 ∨ k=12 ∨ k=13 ∨ k=14 ∨ k=15 ∨ k=16 ∨ k=17 ∨ k=18 ∨ k=19 ∨ k=20 ∨ k=21:=by omega
 rcases hk' with rfl | rfl | rfl | rfl | rfl | rfl | rfl | rfl | rfl | rfl | rfl | rfl | rfl | rfl | rfl | rfl | rfl | rfl | rfl | rfl | rfl
 all_goals first
  | exact ⟨0,by kernel_rfl,by kernel_rfl,by decide⟩
  | exact ⟨1,by kernel_rfl,by kernel_rfl,by decide⟩
  | exact ⟨2,by kernel_rfl,by kernel_rfl,by decide⟩
  | exact ⟨3,by kernel_rfl,by kernel_rfl,by decide⟩
  | exact ⟨4,by kernel_rfl,by kernel_rfl,by decide⟩
  | exact ⟨5,by kernel_rfl,by kernel_rfl,by decide⟩
  | exact ⟨6,by kernel_rfl,by kernel_rfl,by decide⟩
  | exact ⟨7,by kernel_rfl,by kernel_rfl,by decide⟩
  | exact ⟨8,by kernel_rfl,by kernel_rfl,by decide⟩
  | exact ⟨9,by kernel_rfl,by kernel_rfl,by decide⟩
theorem Zsd (h5:5 ≤ a.Kind) (h21:a.Kind ≤ 21) (hr:RecW r) (hg:Zbv r) (hon:Zd5 a.Kind=some r.Kind) (ha:ActW a):Chg r a:=by
 obtain ⟨on,o1,_,_,_,k10,k18,k21,_⟩:=Zkx (k:=a.Kind) (by omega) h21
 rw [hon] at o1
 obtain rfl:=Option.some.inj o1
 have hk':a.Kind=5 ∨ a.Kind=6 ∨ a.Kind=7 ∨ a.Kind=8 ∨ a.Kind=9 ∨ a.Kind=10 ∨ a.Kind=11 ∨ a.Kind=12 ∨ a.Kind=13 ∨ a.Kind=14 ∨ a.Kind=15 ∨ a.Kind=16 ∨ a.Kind=17 ∨ a.Kind=18 ∨ a.Kind=19 ∨ a.Kind=20 ∨ a.Kind=21:=by omega
 rcases hk' with h | h | h | h | h | h | h | h | h | h | h | h | h | h | h | h | h
 ·exact Z3f h hr
 ·exact Z0w h hr
 ·exact Z37 h hr
 ·exact Z0z h hr ha
 ·exact Zs2 (.inl h) hr
 ·exact Z6b h hr hg (k10 (.inl h)) ha
 ·exact Z5b h hr hg (k10 (.inr h)) ha
 ·exact Zs2 (.inr h) hr
 ·exact Zyy h hr hg ha
 ·exact Zz9 h hr hg ha
 ·exact Zzt h hr
 ·exact Zzm h hr
 ·exact Z4j h hr ha
 ·exact Z04 h hr hg (k18 (.inl h))
 ·exact Zs7 h hr hg (k18 (.inr (.inl h)))
 ·exact Z3o h hr hg (k18 (.inr (.inr h)))
 ·exact Zy7 h hr hg (k21 h) ha
structure ActIn (a:Zg):Prop where
 ok:Zpn a
 n:I64 a.N
 mkr:RecW a.Make
theorem ActIn.w {a:Zg} (h:ActIn a) {c:Int} (hc:1 ≤ a.Kind ∧ a.Kind ≤ 21 ∧ a.X=Zbh a.X ∧ a.S.size ≤ 64 ∧ ((a.Kind=10 ∨ a.Kind=11) → 0 ≤ a.N ∧ a.N ≤ 2305843009213693952) ∧ (a.Kind=1 → Zdg a.Make=some 0) ∧ (¬ (5 ≤ a.Kind ∧ a.Kind ≤ 6) → a.S.size ≤ 16) ∧ sEq a.Key ⟨#[]⟩=false ∧ a.Key.size ≤ 24):ActW a :=
 ⟨h.ok,h.n,h.mkr,hc.2.2.1,hc.2.2.2.2.1,hc.2.2.2.1,hc.2.2.2.2.2.2.1⟩
theorem Zws {there:Bool} {r:Za} {c:Int} (hc:c ≠ 0) {on:Int} (ho:Zc8 a.Kind=some on):Zec there a r c=some (r,there,ans c):=by
 have h1:(c == 0)=false:=by simpa using hc
 have h2:(c != 0)=true:=by simpa using hc
 unfold Zec
 simp only [h1,Bool.false_and,Bool.false_eq_true,if_false]
 unfold Zgm
 simp only [h1,Bool.false_and,Bool.false_eq_true,if_false]
 unfold Zgp
 rw [ho]
 simp only [h1,Bool.false_and,Bool.false_eq_true,if_false,Option.bind_some]
 unfold Zgq
 rw [if_pos h2]
theorem Z32 (k:Int):∃ on,Zc8 k=some on:=by
 by_cases h:k < 0 ∨ 21 < k
 ·exact ⟨0,by unfold Zc8;rw [if_pos (by simpa using h)]⟩
 ·by_cases h0:k=0
  ·exact ⟨0,by rw [h0];kernel_rfl⟩
  ·obtain ⟨on,_,h2,_⟩:=Zkx (k:=k) (by omega) (by omega)
   exact ⟨on,h2⟩
theorem Zyl {r:Za} {there:Bool} {a:Zg} (hr:RecW r) (ha:ActIn a):∃ x is out,Zc3 r there a=some (x,is,out) ∧ Zjs r there a=some (x,is,out) ∧ RecW x ∧ RecW out.Rec:=by
 suffices hs:∀ r0:Za,RecW r0 → ∃ x is out,Zd9 there a r0=some (x,is,out) ∧ Zgo there a r0=some (x,is,out) ∧ RecW x ∧ RecW out.Rec by
  unfold Zc3 Zjs
  cases there
  ·exact hs _ Zc0
  ·exact hs r hr
 intro r0 hr0
 unfold Zd9 Zgo
 rw [Zf2 hr0.len,Zmg hr0.len]
 obtain ⟨c,h1,h2,h3⟩:=Zk2 ha.ok
 obtain ⟨on,hon⟩:=Z32 a.Kind
 rw [h1,h2]
 simp only [Option.bind_some]
 by_cases hc:c=0
 ·subst hc
  have hf:=h3 rfl
  have hw:=ha.w (c:=0) hf
  obtain ⟨on2,o1,o2,o3,o4,_⟩:=Zkx hf.1 hf.2.1
  have main:(there=true → Zbv r0) → ∃ x is out,Zff there a r0=some (x,is,out) ∧ Zec there a r0 0=some (x,is,out) ∧ RecW x ∧ RecW out.Rec:=by
   intro hg
   unfold Zff Ze7 Zec Zgm Zgp
   rw [o1,o2,Zf2 hr0.len,Zf2 ha.mkr.len]
   unfold Zgq
   rw [Zmg hr0.len,Zmg ha.mkr.len]
   simp only [Option.bind_some]
   by_cases k1:a.Kind=1
   ·rw [k1,o3 (by omega)]
    cases there
    ·exact ⟨a.Make,true,ans 0,rfl,rfl,ha.mkr,Zc0⟩
    ·exact ⟨r0,true,ans 7,rfl,rfl,hr0,Zc0⟩
   ·by_cases k3:a.Kind=3
    ·rw [k3,o3 (by omega)]
     cases there
     ·exact ⟨r0,false,{ ans 0 with Num:=r0.Kind },rfl,rfl,hr0,Zc0⟩
     ·exact ⟨r0,true,{ ans 0 with Num:=r0.Kind },rfl,rfl,hr0,Zc0⟩
    ·by_cases k2:a.Kind=2
     ·rw [k2,o3 (by omega)]
      cases there
      ·exact ⟨r0,false,ans 6,rfl,rfl,hr0,Zc0⟩
      ·exact ⟨zrc,false,ans 0,rfl,rfl,Zc0,Zc0⟩
     ·by_cases k4:a.Kind=4
      ·rw [k4,o3 (by omega)]
       cases there
       ·exact ⟨r0,false,ans 6,rfl,rfl,hr0,Zc0⟩
       ·exact ⟨r0,true,{ ans 0 with Rec:=r0 },rfl,rfl,hr0,hr0⟩
      ·have h5:5 ≤ a.Kind:=by omega
       have b1:(a.Kind == 1)=false:=by simpa using k1
       have b2:(a.Kind == 2)=false:=by simpa using k2
       have b3:(a.Kind == 3)=false:=by simpa using k3
       have b4:(a.Kind == 4)=false:=by simpa using k4
       have b1':(a.Kind != 1)=true:=by simpa using k1
       have b3':(a.Kind != 3)=true:=by simpa using k3
       have bo:(on2 != 0)=true:=by simpa using o4 h5
       simp only [b1,b2,b3,b4,b1',b3',bo,Bool.false_and,Bool.and_false,Bool.and_true,Bool.true_and,Bool.false_eq_true,if_false,beq_self_eq_true]
       cases there
       ·exact ⟨r0,false,ans 6,rfl,rfl,hr0,Zc0⟩
       ·simp only [Bool.not_true,Bool.false_eq_true,if_false,Bool.and_false,Bool.false_and,beq_self_eq_true,Bool.true_and]
        by_cases hk:(on2 != r0.Kind)=true
        ·rw [if_pos hk,if_pos hk]
         exact ⟨r0,true,ans 5,rfl,rfl,hr0,Zc0⟩
        ·rw [if_neg hk,if_neg hk,if_pos ⟨h5,hf.2.1⟩]
         have hk':on2=r0.Kind:=by simpa using hk
         obtain ⟨c,r',o,e1,e2,w1,w2,_⟩:=Zsd h5 hf.2.1 hr0 (hg rfl) (by rw [← hk'];exact o1) hw
         rw [e1,e2]
         simp only [Option.bind_some]
         by_cases hc:c=0
         ·subst hc
          exact ⟨r',true,o,rfl,rfl,w1,w2⟩
         ·have hcn:(c != 0)=true:=by simpa using hc
          rw [if_pos hcn,if_neg hc]
          exact ⟨r0,true,ans c,rfl,rfl,hr0,Zc0⟩
  have z1:((0:Int) != 0)=false:=rfl
  have z2:((0:Int) == 0)=true:=rfl
  rw [z1,z2]
  simp only [Bool.false_eq_true,if_false,Bool.true_and]
  by_cases ht:there=true
  ·rw [if_pos ht,if_pos ht]
   obtain ⟨c2,g1,g2⟩:=Zki hr0.ok
   rw [g1,g2]
   simp only [Option.bind_some]
   by_cases hc2:c2=0
   ·subst hc2
    rw [z1]
    exact main fun _=>(Ze1 hr0.ok).1 g1
   ·have hcn:(c2 != 0)=true:=by simpa using hc2
    rw [if_pos hcn,Zws hc2 o2]
    exact ⟨r0,there,ans c2,rfl,rfl,hr0,Zc0⟩
  ·rw [if_neg ht,if_neg ht]
   exact main fun h=>absurd h ht
 ·have hcn:(c != 0)=true:=by simpa using hc
  have hcz:(c == 0)=false:=by simpa using hc
  rw [if_pos hcn,hcz]
  simp only [Bool.false_and,Bool.false_eq_true,if_false]
  rw [Zws hc hon]
  exact ⟨r0,there,ans c,rfl,rfl,hr0,Zc0⟩
end Go.CL
