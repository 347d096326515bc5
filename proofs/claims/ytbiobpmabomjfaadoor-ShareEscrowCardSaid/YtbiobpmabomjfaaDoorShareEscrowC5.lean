/- A part of the proof of ShareEscrow. -/
import Derived.Test.YtbiobpmabomjfaaDoorShareEscrowC4
set_option linter.unusedVariables false
set_option linter.unusedSimpArgs false
set_option maxRecDepth 100000
namespace Go.CL
open Go Go.RowKit Go.Proofs
theorem Zo5 (a0:Za) (a1:ByteArray) {r:Bool} (h:Zhj a0 a1=some r):FnOk Tryd.prog 44 [(Zc.pd a0),(pStr a1)] (Zba r):=by
 have H0:=h
 unfold Zhj at H0
 clear h
 refine Zbt (N:=106) Tryd.func44 rfl rfl (Qe rfl) rfl rfl (fun a g0 hst hb=>?_)
 refine r_s (T:=[⟨[.o 0],_,[],[],[2]⟩,⟨[],_,[],[],[4]⟩]) (F:=[.o 1,.p 0 0]) hst hb Zb
  (Qb rfl u_0<|Qa rfl c_b<|o_n) (fun a g hst hb=>?_)
 refine r_s (T:=[⟨[],_,[],[],[5]⟩,⟨[],_,[],[0],[6]⟩,⟨[],_,[],[0,1],[7]⟩,⟨[],_,[],[0,1,2],[8]⟩,⟨[],_,[],Lr 4,[9]⟩]) (F:=[.o 0,.o 1,.p 0 0,.p 1 0,.p 2 0,.p 3 0,.p 4 0]) hst hb Zb
  (Qa rfl c_b<|Qa rfl c_b<|Qa rfl c_b<|Qa rfl c_b<|Qa rfl c_b<|o_n) (fun a g hst hb=>?_)
 refine wp_seq ?_
 refine r_s (T:=[⟨[],_,[],[],[10]⟩]) (F:=[.o 0,.o 1,.o 2,.o 3,.o 4,.o 5,.o 6,.p 0 0]) hst hb Zb
  (Qa rfl c_i<|o_n) (fun a g hst hb=>?_)
 obtain ⟨z23,hz1,H0⟩:=Zf H0
 refine Zbz (fun a w=>∃ (y18:Bool) (y19:Bool) (y20:Bool) (y21:Bool) (y22:Bool) (g:G),w=g.w ∧ St 106 [(2,(Zc.ptr a0)),(5,(Zba y18)),(6,(Zba y19)),(7,(Zba y20)),(8,(Zba y21)),(9,(Zba y22))] a g ∧ Base g0 g ∧ (y18,y19,y20,y21,y22)=z23) ?_ ?_
 ·rintro a w ⟨y18,y19,y20,y21,y22,g,rfl,hst,hb,rfl⟩
  refine Zm ?_
  refine wp_seq ?_
  refine r_s (T:=⟨[.o 1],_,[],[],[52]⟩ :: ⟨[.p 0 0],_,[],[0],[53]⟩ :: ⟨[.p 1 0],_,[],[0,1],[54]⟩ :: ⟨[.p 2 0,.o 0],_,[],[0,1,2],[55]⟩ :: ⟨[.p 2 0,.p 3 0],_,[],Lr 4,[56]⟩ :: ⟨[.p 2 0,.p 4 0],_,[],Lr 5,[57]⟩ :: ⟨[.p 2 0,.p 5 0],_,[],Lr 6,[58]⟩ :: ⟨[.p 6 0],_,[],Lr 7,[59]⟩ :: ⟨[.p 7 0,.o 2],_,[],Lr 8,[60]⟩ :: ⟨[.p 7 0,.p 8 0],_,[],Lr 9,[61]⟩ :: ⟨[.p 7 0,.p 9 0],_,[],Lr 10,[62]⟩ :: ⟨[.p 10 0,.o 0],_,[],Lr 11,[63]⟩ :: ⟨[.p 10 0,.p 11 0],_,[],Lr 12,[64]⟩ :: ⟨[.p 10 0,.p 12 0],_,[],Lr 13,[65]⟩ :: ⟨[.p 7 0,.p 10 0,.p 13 0],_,[],Lr 14,[66]⟩ :: ⟨[.p 7 0,.p 14 0],_,[],Lr 15,[67]⟩ :: ⟨[.p 15 0],_,[],Lr 16,[68]⟩ :: ⟨[.p 16 0,.o 3],_,[],Lr 17,[69]⟩ :: ⟨[.p 16 0,.p 17 0],_,[],Lr 18,[70]⟩ :: ⟨[.p 16 0,.p 18 0],_,[],Lr 19,[71]⟩ :: ⟨[.p 19 0,.o 0],_,[],Lr 20,[72]⟩ :: ⟨[.p 19 0,.p 20 0],_,[],Lr 21,[73]⟩ :: ⟨[.p 19 0,.p 21 0],_,[],Lr 22,[74]⟩ :: ⟨[.p 16 0,.p 19 0,.p 22 0],_,[],Lr 23,[75]⟩ :: ⟨[.p 16 0,.p 23 0],_,[],Lr 24,[76]⟩ :: ⟨[.p 24 0],_,[],Lr 25,[77]⟩ :: ⟨[.p 25 0,.o 3],_,[],Lr 26,[78]⟩ :: ⟨[.p 25 0,.p 26 0],_,[],Lr 27,[79]⟩ :: ⟨[.p 25 0,.p 27 0],_,[],Lr 28,[80]⟩ :: ⟨[.p 28 0,.o 0],_,[],Lr 29,[81]⟩ :: ⟨[.p 28 0,.p 29 0],_,[],Lr 30,[82]⟩ :: ⟨[.p 28 0,.p 30 0],_,[],Lr 31,[83]⟩ :: ⟨[.p 25 0,.p 28 0,.p 31 0],_,[],Lr 32,[84]⟩ :: ⟨[.p 25 0,.p 32 0],_,[],Lr 33,[85]⟩ :: []) (F:=[.o 0,.o 4,.o 5,.p 33 0]) hst hb Zb
   (Qm rfl u_0<|Qn rfl u_0<|Qm rfl u_0<|o_g (Qg_t rfl (fun hG=>Zj Zhc rfl rfl u_0))<|o_g (Qg_t rfl (fun hG=>Zs ty_9 rfl rfl (Opd.gd hG u_0)))<|o_g (Qg_t rfl (fun hG=>Zpl rfl rfl (Opd.gd hG u_0) c_s))<|o_p rfl (Zbe rfl rfl u_0 (fun hz=>(Opd.gd hz u_1)))<|Qm rfl u_0<|o_g (Qg_f rfl (fun hG=>Zy rfl rfl u_0))<|o_g (Qg_f rfl (fun hG=>Zem rfl rfl (Opd.gd hG u_0)))<|o_g (Qg_f rfl (fun hG=>Zy rfl rfl (Opd.gd hG u_0)))<|o_g (Qg_ti rfl (fun hG=>Zj Zb2 rfl rfl u_0))<|o_g (Qg_ti rfl (fun hG=>Zs ty_2 rfl rfl (Opd.gd hG u_0)))<|o_g (Qg_ti rfl (fun hG=>Zdq rfl rfl (Opd.gd hG u_0) c_i))<|o_g (Qg_f rfl (fun hG=>Zbe rfl rfl (Opd.gd hG u_0) (fun hz=>(Opd.gd (bA hG hz) u_1))))<|o_p rfl (Zbl rfl rfl u_0 (fun hz=>(Opd.gd (bNF hz) u_1)))<|Qm rfl u_0<|o_g (Qg_f rfl (fun hG=>Zy rfl rfl u_0))<|o_g (Qg_f rfl (fun hG=>Zem rfl rfl (Opd.gd hG u_0)))<|o_g (Qg_f rfl (fun hG=>Zy rfl rfl (Opd.gd hG u_0)))<|o_g (Qg_ti rfl (fun hG=>Zj Zha rfl rfl u_0))<|o_g (Qg_ti rfl (fun hG=>Zs ty_2 rfl rfl (Opd.gd hG u_0)))<|o_g (Qg_ti rfl (fun hG=>Zdq rfl rfl (Opd.gd hG u_0) c_i))<|o_g (Qg_f rfl (fun hG=>Zbe rfl rfl (Opd.gd hG u_0) (fun hz=>(Opd.gd (bA hG hz) u_1))))<|o_p rfl (Zbl rfl rfl u_0 (fun hz=>(Opd.gd (bNF hz) u_1)))<|Qm rfl u_0<|o_g (Qg_f rfl (fun hG=>Zy rfl rfl u_0))<|o_g (Qg_f rfl (fun hG=>Zem rfl rfl (Opd.gd hG u_0)))<|o_g (Qg_f rfl (fun hG=>Zy rfl rfl (Opd.gd hG u_0)))<|o_g (Qg_ti rfl (fun hG=>Zj Zg9 rfl rfl u_0))<|o_g (Qg_ti rfl (fun hG=>Zs ty_2 rfl rfl (Opd.gd hG u_0)))<|o_g (Qg_ti rfl (fun hG=>Zdq rfl rfl (Opd.gd hG u_0) c_i))<|o_g (Qg_f rfl (fun hG=>Zbe rfl rfl (Opd.gd hG u_0) (fun hz=>(Opd.gd (bA hG hz) u_1))))<|o_p rfl (Zbl rfl rfl u_0 (fun hz=>(Opd.gd (bNF hz) u_1)))<|o_n) (fun a g hst hb=>?_)
  refine wp_cond_split (hst.bool 3 rfl) (fun hc24=>?_) (fun hc24=>?_)
  ·replace H0:=Zn hc24 H0
   refine r_s (L:=[]) (T:=[⟨[],_,[],[],[4]⟩]) (F:=[.p 0 0]) (hst.pick [] rfl) hb Zb
    (Qa rfl c_b<|o_n) (fun a g hst hb=>?_)
   refine wp_ret ?_
   refine Zk ?_
   obtain rfl:=Option.some.inj H0
   exact Zz rfl hst hb (Zg (s:=4)) (hst.at 0 rfl)
  ·replace H0:=Zo hc24 H0
   refine wp_skip ?_
   refine Zm ?_
   obtain ⟨r25,h26,H0⟩:=Zf H0
   refine r_s (L:=[(2,_),(8,_),(9,_)]) (T:=⟨[.o 1],_,[],[],[86]⟩ :: ⟨[.p 0 0],_,[],[0],[87]⟩ :: ⟨[.p 1 0,.o 0],_,[],[0,1],[88]⟩ :: ⟨[.p 1 0,.p 2 0],_,[],[0,1,2],[89]⟩ :: ⟨[.p 1 0,.p 3 0],_,[],Lr 4,[90]⟩ :: ⟨[.p 1 0,.p 4 0],_,[],Lr 5,[91]⟩ :: ⟨[.p 5 0],_,[],Lr 6,[92]⟩ :: ⟨[.p 6 0,.o 2],_,[],Lr 7,[93]⟩ :: ⟨[.p 6 0,.p 7 0],_,[],Lr 8,[94]⟩ :: ⟨[.p 8 0,.o 0],_,[],Lr 9,[95]⟩ :: ⟨[.p 8 0,.p 9 0],_,[],Lr 10,[96]⟩ :: ⟨[.p 8 0,.p 10 0],_,[],Lr 11,[97]⟩ :: ⟨[.p 8 0,.p 11 0],_,[],Lr 12,[98]⟩ :: ⟨[.p 12 0,.o 0],_,[],Lr 13,[99]⟩ :: ⟨[.p 12 0,.p 13 0],_,[],Lr 14,[100]⟩ :: ⟨[.p 12 0,.p 14 0],_,[],Lr 15,[101]⟩ :: ⟨[.p 12 0,.p 15 0],_,[],Lr 16,[102]⟩ :: ⟨[.p 8 0,.p 12 0,.p 16 0],_,[],Lr 17,[103]⟩ :: ⟨[.p 6 0,.p 8 0,.p 17 0],_,[],Lr 18,[104]⟩ :: ⟨[.p 6 0,.p 18 0],_,[],Lr 19,[105]⟩ :: ⟨[.p 19 0],_,[],Lr 20,[4]⟩ :: []) (F:=[.p 20 0]) (hst.pick [0,1,2] rfl) hb Zb
    (Qm rfl u_0<|Qm rfl u_0<|o_g (Qg_f rfl (fun hG=>Zj Zdi rfl rfl u_0))<|o_g (Qg_f rfl (fun hG=>Zs Zb8 rfl rfl (Opd.gd hG u_0)))<|o_g (Qg_f rfl (fun hG=>Zr Z22 (Zk2 _ (Zbq h26 hG)) rfl rfl (.cons (Opd.gd hG u_0) .nil)))<|o_p rfl (Zbl rfl rfl u_0 (fun hz=>(Opd.gd (bNF hz) u_1)))<|Qm rfl u_0<|o_g (Qg_t rfl (fun hG=>Zy rfl rfl u_0))<|o_g (Qg_t rfl (fun hG=>Zy rfl rfl (Opd.gd hG u_0)))<|o_g (Qg_fi rfl (fun hG=>Zj Zet rfl rfl u_0))<|o_g (Qg_fi rfl (fun hG=>Zs ty_3 rfl rfl (Opd.gd hG u_0)))<|o_g (Qg_fi rfl (fun hG=>Z8 rfl rfl (Opd.gd hG u_0) c_i))<|o_g (Qg_fi rfl (fun hG=>Zy rfl rfl (Opd.gd hG u_0)))<|o_g (Qg_ti rfl (fun hG=>Zj Zbw rfl rfl u_0))<|o_g (Qg_ti rfl (fun hG=>Zs Zcg rfl rfl (Opd.gd hG u_0)))<|o_g (Qg_ti rfl (fun hG=>Zcc Tryd.underlying23 rfl rfl (Opd.gd hG u_0)))<|o_g (Qg_ti rfl (fun hG=>Z8 rfl rfl (Opd.gd hG u_0) c_i))<|o_g (Qg_fi rfl (fun hG=>Zbe rfl rfl (Opd.gd hG u_0) (fun hz=>(Opd.gd (bA hG hz) u_1))))<|o_g (Qg_t rfl (fun hG=>Zbl rfl rfl (Opd.gd hG u_0) (fun hz=>(Opd.gd (bA hG (bNF hz)) u_1))))<|o_p rfl (Zbe rfl rfl u_0 (fun hz=>(Opd.gd hz u_1)))<|Qa rfl u_0<|o_n) (fun a g hst hb=>?_)
   refine wp_ret ?_
   obtain rfl:=Option.some.inj H0
   exact Zz rfl hst hb (Zg (s:=4)) (hst.at 0 rfl)
 ·refine wp_block ?_
  refine wp_loop_ghost (fun n a w=>∃ (x1:Bool) (x2:Bool) (x3:Bool) (x4:Bool) (x5:Bool) (x6:Int) (g:G),w=g.w ∧ St 106 [(1,(pStr a1)),(2,(Zc.ptr a0)),(5,(Zba x1)),(6,(Zba x2)),(7,(Zba x3)),(8,(Zba x4)),(9,(Zba x5)),(10,(pInt .i64 x6))] a g ∧ Base g0 g ∧ Zcj a1 n x1 x2 x3 x4 x5 x6=some z23) (Int.toNat ((a1.size:Int) - (0:Int)) + 1) ⟨false,false,false,false,false,(0:Int),g,rfl,(hst.pick [0,1,2,3,4,5,6,7] rfl),hb,hz1⟩ (fun n a w hI=>?_)
  obtain ⟨x1,x2,x3,x4,x5,x6,g,rfl,hst,hb,H1⟩:=hI
  cases n with
  | zero=>exact absurd H1 (by simp [Zcj])
  | succ n =>
   rw [Zcj] at H1
   refine wp_seq ?_
   refine r_s (T:=[⟨[.o 7],_,[],[],[11]⟩,⟨[.o 0],_,[],[],[12]⟩,⟨[.p 1 0],_,[],[1],[13]⟩,⟨[.p 0 0,.p 2 0],_,[],[0,1,2],[14]⟩]) (F:=[.o 0,.o 1,.o 2,.o 3,.o 4,.o 5,.o 6,.o 7,.p 3 0]) hst hb Zb
    (Qm rfl u_0<|Qm rfl u_0<|o_p rfl (Zff Tryd.underlying9 rfl rfl u_0)<|o_p rfl (Zb6 rfl rfl u_0 u_1)<|o_n) (fun a g hst hb=>?_)
   refine wp_cond_split (hst.bool 8 rfl) (fun hc7=>?_) (fun hc7=>?_)
   ·replace H1:=Zn hc7 H1
    refine wp_skip ?_
    refine Zm ?_
    refine wp_seq ?_
    refine wp_block ?_
    obtain ⟨b8,h9,H1⟩:=Zf H1
    refine r_s (L:=[(1,_),(2,_),(5,_),(6,_),(7,_),(8,_),(9,_),(10,_)]) (T:=[⟨[.o 2],_,[],[],[17]⟩,⟨[.p 0 0],_,[],[0],[18]⟩,⟨[.p 1 0,.o 0],_,[],[0,1],[19]⟩,⟨[.p 1 0,.o 7],_,[],[0,1],[20]⟩,⟨[.p 1 0,.p 2 0,.p 3 0],_,[],Lr 4,[21]⟩,⟨[.p 1 0,.p 4 0],_,[],Lr 5,[22]⟩,⟨[.p 1 0,.p 5 0],_,[],Lr 6,[23]⟩,⟨[.p 6 0],_,[],Lr 7,[5]⟩]) (F:=[.o 0,.o 1,.p 7 0,.o 3,.o 4,.o 5,.o 6,.o 7]) (hst.pick [0,1,2,3,4,5,6,7] rfl) hb Zb
     (Qm rfl u_0<|Qm rfl u_0<|o_g (Qg_f rfl (fun hG=>Zy rfl rfl u_0))<|o_g (Qg_f rfl (fun hG=>Zy rfl rfl u_0))<|o_g (Qg_f rfl (fun hG=>Zlc Tryd.underlying9 rfl rfl (Opd.gd hG u_0) (Opd.gd hG u_1) (Zbq h9 hG)))<|o_g (Qg_f rfl (fun hG=>Z8 rfl rfl (Opd.gd hG u_0) c_i))<|o_p rfl (Zbl rfl rfl u_0 (fun hz=>(Opd.gd (bNF hz) u_1)))<|Qa rfl u_0<|o_n) (fun a g hst hb=>?_)
    obtain ⟨b10,h11,H1⟩:=Zf H1
    refine r_s (T:=[⟨[.o 3],_,[],[],[24]⟩,⟨[.p 0 0],_,[],[0],[25]⟩,⟨[.p 1 0,.o 0],_,[],[0,1],[26]⟩,⟨[.p 1 0,.o 7],_,[],[0,1],[27]⟩,⟨[.p 1 0,.p 2 0,.p 3 0],_,[],Lr 4,[28]⟩,⟨[.p 1 0,.p 4 0],_,[],Lr 5,[29]⟩,⟨[.p 1 0,.p 5 0],_,[],Lr 6,[30]⟩,⟨[.p 6 0],_,[],Lr 7,[6]⟩]) (F:=[.o 0,.o 1,.o 2,.p 7 0,.o 4,.o 5,.o 6,.o 7]) hst hb Zb
     (Qm rfl u_0<|Qm rfl u_0<|o_g (Qg_f rfl (fun hG=>Zy rfl rfl u_0))<|o_g (Qg_f rfl (fun hG=>Zy rfl rfl u_0))<|o_g (Qg_f rfl (fun hG=>Zlc Tryd.underlying9 rfl rfl (Opd.gd hG u_0) (Opd.gd hG u_1) (Zbq h11 hG)))<|o_g (Qg_f rfl (fun hG=>Z8 rfl rfl (Opd.gd hG u_0) c_i))<|o_p rfl (Zbl rfl rfl u_0 (fun hz=>(Opd.gd (bNF hz) u_1)))<|Qa rfl u_0<|o_n) (fun a g hst hb=>?_)
    obtain ⟨b12,h13,H1⟩:=Zf H1
    refine r_s (T:=[⟨[.o 4],_,[],[],[31]⟩,⟨[.p 0 0],_,[],[0],[32]⟩,⟨[.p 1 0,.o 0],_,[],[0,1],[33]⟩,⟨[.p 1 0,.o 7],_,[],[0,1],[34]⟩,⟨[.p 1 0,.p 2 0,.p 3 0],_,[],Lr 4,[35]⟩,⟨[.p 1 0,.p 4 0],_,[],Lr 5,[36]⟩,⟨[.p 1 0,.p 5 0],_,[],Lr 6,[37]⟩,⟨[.p 6 0],_,[],Lr 7,[7]⟩]) (F:=[.o 0,.o 1,.o 2,.o 3,.p 7 0,.o 5,.o 6,.o 7]) hst hb Zb
     (Qm rfl u_0<|Qm rfl u_0<|o_g (Qg_f rfl (fun hG=>Zy rfl rfl u_0))<|o_g (Qg_f rfl (fun hG=>Zy rfl rfl u_0))<|o_g (Qg_f rfl (fun hG=>Zlc Tryd.underlying9 rfl rfl (Opd.gd hG u_0) (Opd.gd hG u_1) (Zbq h13 hG)))<|o_g (Qg_f rfl (fun hG=>Z8 rfl rfl (Opd.gd hG u_0) c_i))<|o_p rfl (Zbl rfl rfl u_0 (fun hz=>(Opd.gd (bNF hz) u_1)))<|Qa rfl u_0<|o_n) (fun a g hst hb=>?_)
    obtain ⟨b14,h15,H1⟩:=Zf H1
    refine r_s (T:=[⟨[.o 5],_,[],[],[38]⟩,⟨[.p 0 0],_,[],[0],[39]⟩,⟨[.p 1 0,.o 0],_,[],[0,1],[40]⟩,⟨[.p 1 0,.o 7],_,[],[0,1],[41]⟩,⟨[.p 1 0,.p 2 0,.p 3 0],_,[],Lr 4,[42]⟩,⟨[.p 1 0,.p 4 0],_,[],Lr 5,[43]⟩,⟨[.p 1 0,.p 5 0],_,[],Lr 6,[44]⟩,⟨[.p 6 0],_,[],Lr 7,[8]⟩]) (F:=[.o 0,.o 1,.o 2,.o 3,.o 4,.p 7 0,.o 6,.o 7]) hst hb Zb
     (Qm rfl u_0<|Qm rfl u_0<|o_g (Qg_f rfl (fun hG=>Zy rfl rfl u_0))<|o_g (Qg_f rfl (fun hG=>Zy rfl rfl u_0))<|o_g (Qg_f rfl (fun hG=>Zlc Tryd.underlying9 rfl rfl (Opd.gd hG u_0) (Opd.gd hG u_1) (Zbq h15 hG)))<|o_g (Qg_f rfl (fun hG=>Z8 rfl rfl (Opd.gd hG u_0) c_i))<|o_p rfl (Zbl rfl rfl u_0 (fun hz=>(Opd.gd (bNF hz) u_1)))<|Qa rfl u_0<|o_n) (fun a g hst hb=>?_)
    obtain ⟨b16,h17,H1⟩:=Zf H1
    refine r_g (T:=[⟨[.o 6],_,[],[],[45]⟩,⟨[.p 0 0],_,[],[0],[46]⟩,⟨[.p 1 0,.o 0],_,[],[0,1],[47]⟩,⟨[.p 1 0,.o 7],_,[],[0,1],[48]⟩,⟨[.p 1 0,.p 2 0,.p 3 0],_,[],Lr 4,[49]⟩,⟨[.p 1 0,.p 4 0],_,[],Lr 5,[50]⟩,⟨[.p 1 0,.p 5 0],_,[],Lr 6,[51]⟩,⟨[.p 6 0],_,[],Lr 7,[9]⟩]) (F:=[.o 0,.o 1,.o 2,.o 3,.o 4,.o 5,.p 7 0,.o 7]) hst hb Zb
     (Qm rfl u_0<|Qm rfl u_0<|o_g (Qg_f rfl (fun hG=>Zy rfl rfl u_0))<|o_g (Qg_f rfl (fun hG=>Zy rfl rfl u_0))<|o_g (Qg_f rfl (fun hG=>Zlc Tryd.underlying9 rfl rfl (Opd.gd hG u_0) (Opd.gd hG u_1) (Zbq h17 hG)))<|o_g (Qg_f rfl (fun hG=>Z8 rfl rfl (Opd.gd hG u_0) c_i))<|o_p rfl (Zbl rfl rfl u_0 (fun hz=>(Opd.gd (bNF hz) u_1)))<|Qa rfl u_0<|o_n) (fun a g hst hb=>?_)
    refine Z4 ?_
    refine Zm ?_
    refine r_g (T:=[⟨[.o 7],_,[],[],[15]⟩,⟨[.p 0 0],_,[],[0],[16]⟩,⟨[.p 1 0],_,[],[0,1],[10]⟩]) (F:=[.o 0,.o 1,.o 2,.o 3,.o 4,.o 5,.o 6,.p 2 0]) hst hb Zb
     (Qm rfl u_0<|o_p rfl (Zca rfl rfl u_0 c_i rfl)<|Qa rfl u_0<|o_n) (fun a g hst hb=>?_)
    exact ⟨n,Nat.lt_succ_self _,(x1 || (b8 == (116:Int))),(x2 || (b10 == (110:Int))),(x3 || (b12 == (98:Int))),(x4 || (b14 == (114:Int))),(x5 || (b16 == (108:Int))),(IntKind.i64.wrap (x6 + (1:Int))),g,rfl,(hst.pick [0,1,2,3,4,5,6,7] rfl),hb,H1⟩
   ·replace H1:=Zo hc7 H1
    refine wp_exit ?_
    refine Zb7 ?_
    refine Zb7 ?_
    refine Zct ?_
    exact ⟨x1,x2,x3,x4,x5,g,rfl,(hst.pick [1,2,3,4,5,6] rfl),hb,Option.some.inj H1⟩
theorem Znd (a0:Int) {r:ByteArray} (h:Zhq a0=some r):FnOk Tryd.prog 45 [(pInt .i64 a0)] (pStr r):=by
 have H0:=h
 unfold Zhq at H0
 clear h
 refine Zbt (N:=15) Tryd.func45 rfl rfl (Qe rfl) rfl rfl (fun a g0 hst hb=>?_)
 refine r_s (T:=[⟨[],_,[],[],[2]⟩]) (F:=[.o 0]) hst hb Zb
  (Qa rfl c_s<|o_n) (fun a g hst hb=>?_)
 refine r_s (T:=[⟨[],_,[],[],[4]⟩,⟨[.p 0 0],_,[],[0],[3]⟩]) (F:=[.o 0,.p 1 0]) hst hb Zb
  (o_p rfl (Zhg Zzq (xs:=[.const (.string ⟨#[]⟩),.const (.string ⟨#[116]⟩),.const (.string ⟨#[110]⟩),.const (.string ⟨#[110]⟩),.const (.string ⟨#[110,98]⟩),.const (.string ⟨#[114]⟩),.const (.string ⟨#[114]⟩),.const (.string ⟨#[114]⟩),.const (.string ⟨#[108]⟩),.const (.string ⟨#[108]⟩)]) (.cons c_s (.cons c_s (.cons c_s (.cons c_s (.cons c_s (.cons c_s (.cons c_s (.cons c_s (.cons c_s (.cons c_s .nil)))))))))) (by decide) rfl rfl)<|Qa rfl u_0<|o_n) (fun a g hst hb=>?_)
 refine wp_seq ?_
 refine r_s (T:=[⟨[.o 0],_,[],[],[5]⟩,⟨[.p 0 0],_,[],[0],[6]⟩,⟨[.p 1 0],_,[],[0,1],[7]⟩,⟨[.p 2 0,.o 0],_,[],[0,1,2],[8]⟩,⟨[.p 2 0,.p 3 0],_,[],Lr 4,[9]⟩,⟨[.p 2 0,.p 4 0],_,[],Lr 5,[10]⟩]) (F:=[.o 0,.o 1,.p 5 0]) hst hb Zb
  (Qm rfl u_0<|o_p rfl (Zb6 rfl rfl u_0 c_i)<|Qm rfl u_0<|o_g (Qg_f rfl (fun hG=>Zy rfl rfl u_0))<|o_g (Qg_f rfl (fun hG=>Zcf rfl rfl (Opd.gd hG u_0) c_i))<|o_p rfl (Zbl rfl rfl u_0 (fun hz=>(Opd.gd (bNF hz) u_1)))<|o_n) (fun a g hst hb=>?_)
 refine wp_cond_split (hst.bool 2 rfl) (fun hc1=>?_) (fun hc1=>?_)
 ·replace H0:=Zn hc1 H0
  refine r_s (L:=[]) (T:=[⟨[],_,[],[],[2]⟩]) (F:=[.p 0 0]) (hst.pick [] rfl) hb Zb
   (Qa rfl c_s<|o_n) (fun a g hst hb=>?_)
  refine wp_ret ?_
  refine Zk ?_
  obtain rfl:=Option.some.inj H0
  exact Zz rfl hst hb (Zg (s:=2)) (hst.at 0 rfl)
 ·replace H0:=Zo hc1 H0
  refine wp_skip ?_
  refine Zm ?_
  obtain ⟨e2,h3,H0⟩:=Zf H0
  refine r_s (L:=[(0,_),(3,_)]) (T:=[⟨[.o 1],_,[],[],[11]⟩,⟨[.o 0],_,[],[],[12]⟩,⟨[.p 0 0,.p 1 0],_,[],[0,1],[13]⟩,⟨[.p 2 0],_,[],[0,1,2],[14]⟩,⟨[.p 3 0],_,[],Lr 4,[2]⟩]) (F:=[.p 4 0]) (hst.pick [0,1] rfl) hb Zb
   (Qm rfl u_0<|Qm rfl u_0<|o_p rfl (Zbk Tryd.underlying122 sz_9 rfl rfl u_0 u_1 h3)<|Ql rfl ty_9 u_0<|Qa rfl u_0<|o_n) (fun a g hst hb=>?_)
  refine wp_ret ?_
  obtain rfl:=Option.some.inj H0
  exact Zz rfl hst hb (Zg (s:=2)) (hst.at 0 rfl)
theorem Zig (a0:Nat) {r:Bool} (h:Zen a0=some r):FnOk Tryd.prog 46 [(pFlt a0)] (Zba r):=by
 have H0:=h
 unfold Zen at H0
 clear h
 refine Zbt (N:=11) Tryd.func46 rfl rfl (Qe rfl) rfl rfl (fun a g0 hst hb=>?_)
 refine r_s (T:=[⟨[],_,[],[],[2]⟩]) (F:=[.o 0]) hst hb Zb
  (Qa rfl c_b<|o_n) (fun a g hst hb=>?_)
 obtain ⟨r1,h2,H0⟩:=Zf H0
 refine r_s (T:=[⟨[.o 0],_,[],[],[3]⟩,⟨[.p 0 0],_,[],[0],[4]⟩,⟨[.p 1 0],_,[],[0,1],[5]⟩,⟨[.p 2 0],_,[],[0,1,2],[6]⟩,⟨[.p 3 0,.o 0],_,[],Lr 4,[7]⟩,⟨[.p 3 0,.p 4 0],_,[],Lr 5,[8]⟩,⟨[.p 3 0,.p 5 0],_,[],Lr 6,[9]⟩,⟨[.p 3 0,.p 6 0],_,[],Lr 7,[10]⟩,⟨[.p 7 0],_,[],Lr 8,[2]⟩]) (F:=[.p 8 0]) hst hb Zb
  (Qm rfl u_0<|o_p rfl (Zr Zui (Zhl _ h2) rfl rfl (.cons u_0 .nil))<|Qn rfl u_0<|Qm rfl u_0<|o_g (Qg_f rfl (fun hG=>Zy rfl rfl u_0))<|o_g (Qg_f rfl (fun hG=>Znw Zsa rfl rfl (Opd.gd hG u_0)))<|o_g (Qg_f rfl (fun hG=>Z8 rfl rfl (Opd.gd hG u_0) c_i))<|o_p rfl (Zbl rfl rfl u_0 (fun hz=>(Opd.gd (bNF hz) u_1)))<|Qa rfl u_0<|o_n) (fun a g hst hb=>?_)
 refine wp_ret ?_
 obtain rfl:=Option.some.inj H0
 exact Zz rfl hst hb (Zg (s:=2)) (hst.at 0 rfl)
theorem Zkq (a0:Zd) (a1:Zd) {r:Bool} (h:Zez a0 a1=some r):FnOk Tryd.prog 74 [(Zp.pd a0),(Zp.pd a1)] (Zba r):=by
 have H0:=h
 unfold Zez at H0
 clear h
 refine Zbt (N:=22) Tryd.func74 rfl rfl (Qe rfl) rfl rfl (fun a g0 hst hb=>?_)
 refine r_s (T:=[⟨[.o 0],_,[],[],[2]⟩,⟨[.o 1],_,[],[],[3]⟩,⟨[],_,[],[],[4]⟩]) (F:=[.p 0 0,.p 1 0]) hst hb Zb
  (Qb rfl u_0<|Qb rfl u_0<|Qa rfl c_b<|o_n) (fun a g hst hb=>?_)
 refine wp_seq ?_
 obtain ⟨r1,h2,H0⟩:=Zf H0
 refine r_s (T:=[⟨[.o 1],_,[],[],[5]⟩,⟨[.p 0 0],_,[],[0],[6]⟩,⟨[.o 0],_,[],[],[7]⟩,⟨[.p 2 0],_,[],[2],[8]⟩,⟨[.p 1 0,.p 3 0],_,[],Lr 4,[9]⟩]) (F:=[.o 0,.o 1,.p 4 0]) hst hb Zb
  (Qf rfl Zev u_0<|Ql rfl Zb8 u_0<|Qf rfl Zev u_0<|Ql rfl Zb8 u_0<|o_p rfl (Zr Zsd (Zf0 _ _ h2) rfl rfl (.cons u_0 (.cons u_1 .nil)))<|o_n) (fun a g hst hb=>?_)
 refine wp_cond_split (hst.bool 2 rfl) (fun hc3=>?_) (fun hc3=>?_)
 ·replace H0:=Zn hc3 H0
  refine r_s (L:=[]) (T:=[⟨[],_,[],[],[4]⟩]) (F:=[.p 0 0]) (hst.pick [] rfl) hb Zb
   (Qa rfl c_b<|o_n) (fun a g hst hb=>?_)
  refine wp_ret ?_
  refine Zk ?_
  obtain rfl:=Option.some.inj H0
  exact Zz rfl hst hb (Zg (s:=4)) (hst.at 0 rfl)
 ·replace H0:=Zo hc3 H0
  refine wp_skip ?_
  refine Zm ?_
  obtain ⟨r4,h5,H0⟩:=Zf H0
  refine r_s (L:=[(2,_),(3,_)]) (T:=⟨[.o 0],_,[],[],[10]⟩ :: ⟨[.p 0 0],_,[],[0],[11]⟩ :: ⟨[.o 1],_,[],[],[12]⟩ :: ⟨[.p 2 0],_,[],[2],[13]⟩ :: ⟨[.p 1 0,.p 3 0],_,[],Lr 4,[14]⟩ :: ⟨[.p 4 0],_,[],Lr 5,[15]⟩ :: ⟨[.p 5 0,.o 0],_,[],Lr 6,[16]⟩ :: ⟨[.p 5 0,.p 6 0],_,[],Lr 7,[17]⟩ :: ⟨[.p 5 0,.o 1],_,[],Lr 6,[18]⟩ :: ⟨[.p 5 0,.p 8 0],_,[],[0,1,2,3,4,5,8],[19]⟩ :: ⟨[.p 5 0,.p 7 0,.p 9 0],_,[],Lr 10,[20]⟩ :: ⟨[.p 5 0,.p 10 0],_,[],Lr 11,[21]⟩ :: ⟨[.p 11 0],_,[],Lr 12,[4]⟩ :: []) (F:=[.p 12 0]) (hst.pick [0,1] rfl) hb Zb
   (Qf rfl Zev u_0<|Ql rfl Zb8 u_0<|Qf rfl Zev u_0<|Ql rfl Zb8 u_0<|o_p rfl (Zr Zqd (Ze5 _ _ h5) rfl rfl (.cons u_0 (.cons u_1 .nil)))<|Qm rfl u_0<|o_g (Qg_t rfl (fun hG=>Zj Zdh rfl rfl u_0))<|o_g (Qg_t rfl (fun hG=>Zs ty_9 rfl rfl (Opd.gd hG u_0)))<|o_g (Qg_t rfl (fun hG=>Zj Zdh rfl rfl u_0))<|o_g (Qg_t rfl (fun hG=>Zs ty_9 rfl rfl (Opd.gd hG u_0)))<|o_g (Qg_t rfl (fun hG=>Zpq rfl rfl (Opd.gd hG u_0) (Opd.gd hG u_1)))<|o_p rfl (Zbe rfl rfl u_0 (fun hz=>(Opd.gd hz u_1)))<|Qa rfl u_0<|o_n) (fun a g hst hb=>?_)
  refine wp_ret ?_
  obtain rfl:=Option.some.inj H0
  exact Zz rfl hst hb (Zg (s:=4)) (hst.at 0 rfl)
theorem Zo6 (a0:Int) (a1:List Zd) (a2:Int) {r:Int} (h:Zhf a0 a1 a2=some r):FnOk Tryd.prog 47 [(pInt .i64 a0),(Zp.sl.pd a1),(pInt .i64 a2)] (pInt .i64 r):=by
 have H0:=h
 unfold Zhf at H0
 clear h
 refine Zbt (N:=64) Tryd.func47 rfl rfl (Qe rfl) rfl rfl (fun a g0 hst hb=>?_)
 refine r_s (T:=[⟨[],_,[],[],[6]⟩]) (F:=[.o 0,.o 1,.o 2]) hst hb Zb
  (Qa rfl c_i<|o_n) (fun a g hst hb=>?_)
 obtain ⟨e1,h2,H0⟩:=Zf H0
 refine r_s (T:=[⟨[.o 1],_,[],[],[8]⟩,⟨[.o 2],_,[],[],[9]⟩,⟨[.p 0 0,.p 1 0],_,[],[0,1],[10]⟩,⟨[.p 2 0],_,[],[0,1,2],[11]⟩,⟨[],[(7,(pBox Zp 7 (default:Zd)))],[8],[],[7]⟩,⟨[.p 3 0,.p 4 0],_,[8],Lr 5,[7]⟩]) (F:=[.o 0,.o 1,.o 2,.p 5 0]) hst hb Zb
  (Qm rfl u_0<|Qm rfl u_0<|o_p rfl (Zbk Tryd.underlying23 Zee rfl rfl u_0 u_1 h2)<|Ql rfl Zdt u_0<|o_p rfl (Zbm (zs:=[.float .f64 0,.string ByteArray.empty]) (by kernel_rfl) (fun g=>Zg6 g) rfl rfl)<|o_p rfl (Zb9 Zdt rfl rfl u_1 u_0)<|o_n) (fun a g hst hb=>?_)
 refine wp_seq ?_
 refine r_s (T:=[⟨[.o 3],_,[],[],[12]⟩,⟨[.p 0 0],_,[],[0],[13]⟩,⟨[.p 1 0],_,[],[0,1],[14]⟩,⟨[.p 2 0],_,[],[0,1,2],[15]⟩]) (F:=[.o 0,.o 1,.o 2,.o 3,.p 3 0]) hst hb Zb
  (Qf rfl Zdh u_0<|Ql rfl ty_9 u_0<|o_p rfl (Zff Tryd.underlying9 rfl rfl u_0)<|o_p rfl (Zcf rfl rfl u_0 c_i)<|o_n) (fun a g hst hb=>?_)
 refine wp_cond_split (hst.bool 4 rfl) (fun hc3=>?_) (fun hc3=>?_)
 ·replace H0:=Zn hc3 H0
  refine r_s (L:=[]) (T:=[⟨[],_,[],[],[6]⟩]) (F:=[.p 0 0]) (hst.pick [] rfl) hb Zb
   (Qa rfl c_i<|o_n) (fun a g hst hb=>?_)
  refine wp_ret ?_
  refine Zk ?_
  obtain rfl:=Option.some.inj H0
  exact Zz rfl hst hb (Zg (s:=6)) (hst.at 0 rfl)
 ·replace H0:=Zo hc3 H0
  refine wp_skip ?_
  refine Zm ?_
  refine wp_seq ?_
  obtain ⟨r4,h5,H0⟩:=Zf H0;obtain ⟨r6,h7,H0⟩:=Zf H0
  refine r_s (L:=[(0,_),(1,_),(2,_),(7,_)]) (T:=⟨[.o 0],_,[],[],[16]⟩ :: ⟨[.p 0 0],_,[],[0],[17]⟩ :: ⟨[.p 1 0],_,[],[0,1],[18]⟩ :: ⟨[.p 2 0,.o 3],_,[],[0,1,2],[19]⟩ :: ⟨[.p 2 0,.p 3 0],_,[],Lr 4,[20]⟩ :: ⟨[.p 2 0,.p 4 0],_,[],Lr 5,[21]⟩ :: ⟨[.p 2 0,.p 5 0],_,[],Lr 6,[22]⟩ :: ⟨[.p 2 0,.p 6 0],_,[],Lr 7,[23]⟩ :: ⟨[.p 7 0],_,[],Lr 8,[24]⟩ :: ⟨[.p 8 0,.o 3],_,[],Lr 9,[25]⟩ :: ⟨[.p 8 0,.p 9 0],_,[],Lr 10,[26]⟩ :: ⟨[.p 8 0,.p 10 0],_,[],Lr 11,[27]⟩ :: ⟨[.p 8 0,.p 11 0],_,[],Lr 12,[28]⟩ :: ⟨[.p 8 0,.p 12 0],_,[],Lr 13,[29]⟩ :: []) (F:=[.o 0,.o 1,.o 2,.o 3,.p 13 0]) (hst.pick [0,1,2,3] rfl) hb Zb
   (Qm rfl u_0<|o_p rfl (Z8 rfl rfl u_0 c_i)<|Qm rfl u_0<|o_g (Qg_t rfl (fun hG=>Zj Zev rfl rfl u_0))<|o_g (Qg_t rfl (fun hG=>Zs Zb8 rfl rfl (Opd.gd hG u_0)))<|o_g (Qg_t rfl (fun hG=>Zr Z22 (Zk2 _ (Zbq h5 hG)) rfl rfl (.cons (Opd.gd hG u_0) .nil)))<|o_g (Qg_t rfl (fun hG=>Zem rfl rfl (Opd.gd hG u_0)))<|o_p rfl (Zbe rfl rfl u_0 (fun hz=>(Opd.gd hz u_1)))<|Qm rfl u_0<|o_g (Qg_f rfl (fun hG=>Zj Zev rfl rfl u_0))<|o_g (Qg_f rfl (fun hG=>Zs Zb8 rfl rfl (Opd.gd hG u_0)))<|o_g (Qg_f rfl (fun hG=>Zr Zyt (Zig _ (Zbq h7 hG)) rfl rfl (.cons (Opd.gd hG u_0) .nil)))<|o_g (Qg_f rfl (fun hG=>Zem rfl rfl (Opd.gd hG u_0)))<|o_p rfl (Zbl rfl rfl u_0 (fun hz=>(Opd.gd (bNF hz) u_1)))<|o_n) (fun a g hst hb=>?_)
  refine wp_cond_split (hst.bool 4 rfl) (fun hc8=>?_) (fun hc8=>?_)
  ·replace H0:=Zn hc8 H0
   refine r_s (L:=[]) (T:=[⟨[],_,[],[],[6]⟩]) (F:=[.p 0 0]) (hst.pick [] rfl) hb Zb
    (Qa rfl c_i<|o_n) (fun a g hst hb=>?_)
   refine wp_ret ?_
   refine Zk ?_
   obtain rfl:=Option.some.inj H0
   exact Zz rfl hst hb (Zg (s:=6)) (hst.at 0 rfl)
  ·replace H0:=Zo hc8 H0
   refine wp_skip ?_
   refine Zm ?_
   refine wp_seq ?_
   obtain ⟨e9,h10,H0⟩:=Zf H0
   refine r_s (L:=[(0,_),(1,_),(2,_),(7,_)]) (T:=⟨[.o 2],_,[],[],[30]⟩ :: ⟨[.p 0 0],_,[],[0],[31]⟩ :: ⟨[.p 1 0],_,[],[0,1],[32]⟩ :: ⟨[.p 2 0,.o 0],_,[],[0,1,2],[33]⟩ :: ⟨[.p 2 0,.p 3 0],_,[],Lr 4,[34]⟩ :: ⟨[.p 2 0,.p 4 0],_,[],Lr 5,[35]⟩ :: ⟨[.p 5 0],_,[],Lr 6,[36]⟩ :: ⟨[.p 6 0,.o 1],_,[],Lr 7,[37]⟩ :: ⟨[.p 6 0,.o 2],_,[],Lr 7,[38]⟩ :: ⟨[.p 6 0,.p 8 0],_,[],[0,1,2,3,4,5,6,8],[39]⟩ :: ⟨[.p 6 0,.p 7 0,.p 9 0],_,[],Lr 10,[40]⟩ :: ⟨[.p 6 0,.p 10 0],_,[],Lr 11,[41]⟩ :: ⟨[.p 6 0,.p 11 0],_,[],Lr 12,[42]⟩ :: ⟨[.p 6 0,.o 3],_,[],Lr 7,[43]⟩ :: ⟨[.p 6 0,.p 13 0],_,[],[0,1,2,3,4,5,6,13],[44]⟩ :: ⟨[.p 6 0,.p 12 0,.p 14 0],_,[],Lr 15,[45]⟩ :: ⟨[.p 6 0,.p 15 0],_,[],Lr 16,[46]⟩ :: ⟨[.p 6 0,.p 16 0],_,[],Lr 17,[47]⟩ :: []) (F:=[.o 0,.o 1,.o 2,.o 3,.p 17 0]) (hst.pick [0,1,2,3] rfl) hb Zb
    (Qm rfl u_0<|o_p rfl (Zcf rfl rfl u_0 c_i)<|Qm rfl u_0<|o_g (Qg_t rfl (fun hG=>Zy rfl rfl u_0))<|o_g (Qg_t rfl (fun hG=>Z8 rfl rfl (Opd.gd hG u_0) c_i))<|o_p rfl (Zbe rfl rfl u_0 (fun hz=>(Opd.gd hz u_1)))<|Qm rfl u_0<|o_g (Qg_t rfl (fun hG=>Zy rfl rfl u_0))<|o_g (Qg_t rfl (fun hG=>Zy rfl rfl u_0))<|o_g (Qg_t rfl (fun hG=>Zd7 rfl rfl (Opd.gd hG u_0) c_i rfl))<|o_g (Qg_t rfl (fun hG=>Zbk Tryd.underlying23 Zee rfl rfl (Opd.gd hG u_0) (Opd.gd hG u_1) (Zbq h10 hG)))<|o_g (Qg_t rfl (fun hG=>Zj Zdh rfl rfl (Opd.gd hG u_0)))<|o_g (Qg_t rfl (fun hG=>Zs ty_9 rfl rfl (Opd.gd hG u_0)))<|o_g (Qg_t rfl (fun hG=>Zj Zdh rfl rfl u_0))<|o_g (Qg_t rfl (fun hG=>Zs ty_9 rfl rfl (Opd.gd hG u_0)))<|o_g (Qg_t rfl (fun hG=>Zpq rfl rfl (Opd.gd hG u_0) (Opd.gd hG u_1)))<|o_g (Qg_t rfl (fun hG=>Zem rfl rfl (Opd.gd hG u_0)))<|o_p rfl (Zbe rfl rfl u_0 (fun hz=>(Opd.gd hz u_1)))<|o_n) (fun a g hst hb=>?_)
   refine wp_cond_split (hst.bool 4 rfl) (fun hc11=>?_) (fun hc11=>?_)
   ·replace H0:=Zn hc11 H0
    refine r_s (L:=[]) (T:=[⟨[],_,[],[],[6]⟩]) (F:=[.p 0 0]) (hst.pick [] rfl) hb Zb
     (Qa rfl c_i<|o_n) (fun a g hst hb=>?_)
    refine wp_ret ?_
    refine Zk ?_
    obtain rfl:=Option.some.inj H0
    exact Zz rfl hst hb (Zg (s:=6)) (hst.at 0 rfl)
   ·replace H0:=Zo hc11 H0
    refine wp_skip ?_
    refine Zm ?_
    refine wp_seq ?_
    obtain ⟨e12,h13,H0⟩:=Zf H0;obtain ⟨r14,h15,H0⟩:=Zf H0
    refine r_s (L:=[(0,_),(1,_),(2,_),(7,_)]) (T:=⟨[.o 2],_,[],[],[48]⟩ :: ⟨[.p 0 0],_,[],[0],[49]⟩ :: ⟨[.p 1 0],_,[],[0,1],[50]⟩ :: ⟨[.p 2 0,.o 0],_,[],[0,1,2],[51]⟩ :: ⟨[.p 2 0,.p 3 0],_,[],Lr 4,[52]⟩ :: ⟨[.p 2 0,.p 4 0],_,[],Lr 5,[53]⟩ :: ⟨[.p 5 0],_,[],Lr 6,[54]⟩ :: ⟨[.p 6 0,.o 1],_,[],Lr 7,[55]⟩ :: ⟨[.p 6 0,.o 2],_,[],Lr 7,[56]⟩ :: ⟨[.p 6 0,.p 8 0],_,[],[0,1,2,3,4,5,6,8],[57]⟩ :: ⟨[.p 6 0,.p 7 0,.p 9 0],_,[],Lr 10,[58]⟩ :: ⟨[.p 6 0,.p 10 0],_,[],Lr 11,[59]⟩ :: ⟨[.p 6 0,.o 3],_,[],Lr 7,[60]⟩ :: ⟨[.p 6 0,.p 11 0,.p 12 0],_,[],Lr 13,[61]⟩ :: ⟨[.p 6 0,.p 13 0],_,[],Lr 14,[62]⟩ :: ⟨[.p 6 0,.p 14 0],_,[],Lr 15,[63]⟩ :: []) (F:=[.p 15 0]) (hst.pick [0,1,2,3] rfl) hb Zb
     (Qm rfl u_0<|o_p rfl (Zcf rfl rfl u_0 c_i)<|Qm rfl u_0<|o_g (Qg_t rfl (fun hG=>Zy rfl rfl u_0))<|o_g (Qg_t rfl (fun hG=>Z8 rfl rfl (Opd.gd hG u_0) c_i))<|o_p rfl (Zbe rfl rfl u_0 (fun hz=>(Opd.gd hz u_1)))<|Qm rfl u_0<|o_g (Qg_t rfl (fun hG=>Zy rfl rfl u_0))<|o_g (Qg_t rfl (fun hG=>Zy rfl rfl u_0))<|o_g (Qg_t rfl (fun hG=>Zd7 rfl rfl (Opd.gd hG u_0) c_i rfl))<|o_g (Qg_t rfl (fun hG=>Zbk Tryd.underlying23 Zee rfl rfl (Opd.gd hG u_0) (Opd.gd hG u_1) (Zbq h13 hG)))<|o_g (Qg_t rfl (fun hG=>Zs Zdt rfl rfl (Opd.gd hG u_0)))<|o_g (Qg_t rfl (fun hG=>Zs Zdt rfl rfl u_0))<|o_g (Qg_t rfl (fun hG=>Zr Z2w (Zkq _ _ (Zbq h15 hG)) rfl rfl (.cons (Opd.gd hG u_0) (.cons (Opd.gd hG u_1) .nil))))<|o_g (Qg_t rfl (fun hG=>Zem rfl rfl (Opd.gd hG u_0)))<|o_p rfl (Zbe rfl rfl u_0 (fun hz=>(Opd.gd hz u_1)))<|o_n) (fun a g hst hb=>?_)
    refine wp_cond_split (hst.bool 0 rfl) (fun hc16=>?_) (fun hc16=>?_)
    ·replace H0:=Zn hc16 H0
     refine r_s (L:=[]) (T:=[⟨[],_,[],[],[6]⟩]) (F:=[.p 0 0]) (hst.pick [] rfl) hb Zb
      (Qa rfl c_i<|o_n) (fun a g hst hb=>?_)
     refine wp_ret ?_
     refine Zk ?_
     obtain rfl:=Option.some.inj H0
     exact Zz rfl hst hb (Zg (s:=6)) (hst.at 0 rfl)
    ·replace H0:=Zo hc16 H0
     refine wp_skip ?_
     refine Zm ?_
     refine r_s (L:=[]) (T:=[⟨[],_,[],[],[6]⟩]) (F:=[.p 0 0]) (hst.pick [] rfl) hb Zb
      (Qa rfl c_i<|o_n) (fun a g hst hb=>?_)
     refine wp_ret ?_
     obtain rfl:=Option.some.inj H0
     exact Zz rfl hst hb (Zg (s:=6)) (hst.at 0 rfl)
theorem Zis (a0:Za) {r:Int} (h:Zc4 a0=some r):FnOk Tryd.prog 19 [(Zc.pd a0)] (pInt .i64 r):=by
 have H0:=h
 unfold Zc4 at H0
 clear h
 refine Zbt (N:=96) Tryd.func19 rfl rfl (Qe rfl) rfl rfl (fun a g0 hst hb=>?_)
 refine r_s (T:=[⟨[.o 0],_,[],[],[1]⟩,⟨[],_,[],[],[2]⟩]) (F:=[.p 0 0]) hst hb Zb
  (Qb rfl u_0<|Qa rfl c_i<|o_n) (fun a g hst hb=>?_)
 refine wp_seq ?_
 refine r_s (T:=[⟨[.o 0],_,[],[],[6]⟩,⟨[.p 0 0],_,[],[0],[7]⟩,⟨[.p 1 0],_,[],[0,1],[8]⟩,⟨[.p 2 0],_,[],[0,1,2],[9]⟩,⟨[.p 3 0,.o 0],_,[],Lr 4,[10]⟩,⟨[.p 3 0,.p 4 0],_,[],Lr 5,[11]⟩,⟨[.p 3 0,.p 5 0],_,[],Lr 6,[12]⟩,⟨[.p 3 0,.p 6 0],_,[],Lr 7,[13]⟩]) (F:=[.o 0,.p 7 0]) hst hb Zb
  (Qf rfl Zde u_0<|Ql rfl ty_3 u_0<|o_p rfl (Zb6 rfl rfl u_0 c_i)<|Qm rfl u_0<|o_g (Qg_f rfl (fun hG=>Zj Zde rfl rfl u_0))<|o_g (Qg_f rfl (fun hG=>Zs ty_3 rfl rfl (Opd.gd hG u_0)))<|o_g (Qg_f rfl (fun hG=>Zcf rfl rfl (Opd.gd hG u_0) c_i))<|o_p rfl (Zbl rfl rfl u_0 (fun hz=>(Opd.gd (bNF hz) u_1)))<|o_n) (fun a g hst hb=>?_)
 refine wp_cond_split (hst.bool 1 rfl) (fun hc1=>?_) (fun hc1=>?_)
 ·replace H0:=Zn hc1 H0
  refine r_s (L:=[]) (T:=[⟨[],_,[],[],[2]⟩]) (F:=[.p 0 0]) (hst.pick [] rfl) hb Zb
   (Qa rfl c_i<|o_n) (fun a g hst hb=>?_)
  refine wp_ret ?_
  refine Zk ?_
  obtain rfl:=Option.some.inj H0
  exact Zz rfl hst hb (Zg (s:=2)) (hst.at 0 rfl)
 ·replace H0:=Zo hc1 H0
  refine wp_skip ?_
  refine Zm ?_
  refine wp_seq ?_
  obtain ⟨r2,h3,H0⟩:=Zf H0;obtain ⟨r4,h5,H0⟩:=Zf H0
  refine r_s (L:=[(1,_)]) (T:=[⟨[.o 0],_,[],[],[14]⟩,⟨[.o 0],_,[],[],[15]⟩,⟨[.p 1 0],_,[],[1],[16]⟩,⟨[.p 2 0],_,[],[1,2],[17]⟩,⟨[.p 0 0,.p 3 0],_,[],Lr 4,[18]⟩,⟨[.p 4 0],_,[],Lr 5,[19]⟩]) (F:=[.o 0,.p 5 0]) (hst.pick [0] rfl) hb Zb
   (Ql rfl Z0 u_0<|Qf rfl Zde u_0<|Ql rfl ty_3 u_0<|o_p rfl (Zr Z7g (Znd _ h3) rfl rfl (.cons u_0 .nil))<|o_p rfl (Zr Z8g (Zo5 _ _ h5) rfl rfl (.cons u_0 (.cons u_1 .nil)))<|Qn rfl u_0<|o_n) (fun a g hst hb=>?_)
  refine wp_cond_split (hst.bool 1 rfl) (fun hc6=>?_) (fun hc6=>?_)
  ·replace H0:=Zn hc6 H0
   refine r_s (L:=[]) (T:=[⟨[],_,[],[],[2]⟩]) (F:=[.p 0 0]) (hst.pick [] rfl) hb Zb
    (Qa rfl c_i<|o_n) (fun a g hst hb=>?_)
   refine wp_ret ?_
   refine Zk ?_
   obtain rfl:=Option.some.inj H0
   exact Zz rfl hst hb (Zg (s:=2)) (hst.at 0 rfl)
  ·replace H0:=Zo hc6 H0
   refine wp_skip ?_
   refine Zm ?_
   refine wp_seq ?_
   refine r_s (L:=[(1,_)]) (T:=[⟨[.o 0],_,[],[],[20]⟩,⟨[.p 0 0],_,[],[0],[21]⟩,⟨[.p 1 0],_,[],[0,1],[22]⟩,⟨[.p 2 0],_,[],[0,1,2],[23]⟩,⟨[.p 3 0,.o 0],_,[],Lr 4,[24]⟩,⟨[.p 3 0,.p 4 0],_,[],Lr 5,[25]⟩,⟨[.p 3 0,.p 5 0],_,[],Lr 6,[26]⟩,⟨[.p 3 0,.p 6 0],_,[],Lr 7,[27]⟩,⟨[.p 3 0,.p 7 0],_,[],Lr 8,[28]⟩]) (F:=[.o 0,.p 8 0]) (hst.pick [0] rfl) hb Zb
    (Qf rfl Zde u_0<|Ql rfl ty_3 u_0<|o_p rfl (Z8 rfl rfl u_0 c_i)<|Qm rfl u_0<|o_g (Qg_t rfl (fun hG=>Zj Zhc rfl rfl u_0))<|o_g (Qg_t rfl (fun hG=>Zs ty_9 rfl rfl (Opd.gd hG u_0)))<|o_g (Qg_t rfl (fun hG=>Zff Tryd.underlying9 rfl rfl (Opd.gd hG u_0)))<|o_g (Qg_t rfl (fun hG=>Zcf rfl rfl (Opd.gd hG u_0) c_i))<|o_p rfl (Zbe rfl rfl u_0 (fun hz=>(Opd.gd hz u_1)))<|o_n) (fun a g hst hb=>?_)
   refine wp_cond_split (hst.bool 1 rfl) (fun hc7=>?_) (fun hc7=>?_)
   ·replace H0:=Zn hc7 H0
    refine r_s (L:=[]) (T:=[⟨[],_,[],[],[2]⟩]) (F:=[.p 0 0]) (hst.pick [] rfl) hb Zb
     (Qa rfl c_i<|o_n) (fun a g hst hb=>?_)
    refine wp_ret ?_
    refine Zk ?_
    obtain rfl:=Option.some.inj H0
    exact Zz rfl hst hb (Zg (s:=2)) (hst.at 0 rfl)
   ·replace H0:=Zo hc7 H0
    refine wp_skip ?_
    refine Zm ?_
    refine r_s (L:=[(1,_)]) (T:=[⟨[],_,[],[],[3]⟩]) (F:=[.o 0,.p 0 0]) (hst.pick [0] rfl) hb Zb
     (Qa rfl c_i<|o_n) (fun a g hst hb=>?_)
    refine wp_seq ?_
    refine r_s (T:=⟨[.o 0],_,[],[],[29]⟩ :: ⟨[.p 0 0],_,[],[0],[30]⟩ :: ⟨[.p 1 0],_,[],[0,1],[31]⟩ :: ⟨[.p 2 0],_,[],[0,1,2],[32]⟩ :: ⟨[.p 3 0,.o 0],_,[],Lr 4,[33]⟩ :: ⟨[.p 3 0,.p 4 0],_,[],Lr 5,[34]⟩ :: ⟨[.p 3 0,.o 1],_,[],Lr 4,[35]⟩ :: ⟨[.p 3 0,.p 6 0],_,[],[0,1,2,3,6],[36]⟩ :: ⟨[.p 3 0,.p 5 0,.p 7 0],_,[],Lr 8,[37]⟩ :: ⟨[.p 3 0,.p 8 0],_,[],Lr 9,[38]⟩ :: ⟨[.p 9 0,.o 0],_,[],Lr 10,[39]⟩ :: ⟨[.p 9 0,.p 10 0],_,[],Lr 11,[40]⟩ :: ⟨[.p 9 0,.o 1],_,[],Lr 10,[41]⟩ :: ⟨[.p 9 0,.p 11 0,.p 12 0],_,[],Lr 13,[42]⟩ :: ⟨[.p 3 0,.p 9 0,.p 13 0],_,[],Lr 14,[43]⟩ :: ⟨[.p 3 0,.p 14 0],_,[],Lr 15,[44]⟩ :: ⟨[.p 15 0,.o 0],_,[],Lr 16,[45]⟩ :: ⟨[.p 15 0,.p 16 0],_,[],Lr 17,[46]⟩ :: ⟨[.p 15 0,.o 0],_,[],Lr 16,[47]⟩ :: ⟨[.p 15 0,.p 18 0],_,[],0 :: 1 :: 2 :: 3 :: 4 :: 5 :: 6 :: 7 :: 8 :: 9 :: 10 :: 11 :: 12 :: 13 :: 14 :: 15 :: 18 :: [],[48]⟩ :: ⟨[.p 15 0,.p 17 0,.p 19 0],_,[],Lr 20,[49]⟩ :: ⟨[.p 3 0,.p 15 0,.p 20 0],_,[],Lr 21,[50]⟩ :: ⟨[.p 3 0,.p 21 0],_,[],Lr 22,[51]⟩ :: ⟨[.p 22 0,.o 0],_,[],Lr 23,[52]⟩ :: ⟨[.p 22 0,.p 23 0],_,[],Lr 24,[53]⟩ :: ⟨[.p 22 0,.o 0],_,[],Lr 23,[54]⟩ :: ⟨[.p 22 0,.p 25 0],_,[],0 :: 1 :: 2 :: 3 :: 4 :: 5 :: 6 :: 7 :: 8 :: 9 :: 10 :: 11 :: 12 :: 13 :: 14 :: 15 :: 16 :: 17 :: 18 :: 19 :: 20 :: 21 :: 22 :: 25 :: [],[55]⟩ :: ⟨[.p 22 0,.p 24 0,.p 26 0],_,[],Lr 27,[56]⟩ :: ⟨[.p 3 0,.p 22 0,.p 27 0],_,[],Lr 28,[57]⟩ :: ⟨[.p 3 0,.p 28 0],_,[],Lr 29,[58]⟩ :: []) (F:=[.o 0,.p 29 0]) hst hb Zb
     (Qf rfl Zde u_0<|Ql rfl ty_3 u_0<|o_p rfl (Z8 rfl rfl u_0 c_i)<|Qm rfl u_0<|o_g (Qg_t rfl (fun hG=>Zj Zha rfl rfl u_0))<|o_g (Qg_t rfl (fun hG=>Zs ty_2 rfl rfl (Opd.gd hG u_0)))<|o_g (Qg_t rfl (fun hG=>Zy rfl rfl u_0))<|o_g (Qg_t rfl (fun hG=>Zwb rfl rfl (Opd.gd hG u_0) rfl))<|o_g (Qg_t rfl (fun hG=>Zb6 rfl rfl (Opd.gd hG u_0) (Opd.gd hG u_1)))<|o_g (Qg_t rfl (fun hG=>Zy rfl rfl (Opd.gd hG u_0)))<|o_g (Qg_fi rfl (fun hG=>Zj Zg9 rfl rfl u_0))<|o_g (Qg_fi rfl (fun hG=>Zs ty_2 rfl rfl (Opd.gd hG u_0)))<|o_g (Qg_fi rfl (fun hG=>Zy rfl rfl u_0))<|o_g (Qg_fi rfl (fun hG=>Zcf rfl rfl (Opd.gd hG u_0) (Opd.gd hG u_1)))<|o_g (Qg_t rfl (fun hG=>Zbl rfl rfl (Opd.gd hG u_0) (fun hz=>(Opd.gd (bA hG (bNF hz)) u_1))))<|o_g (Qg_t rfl (fun hG=>Zy rfl rfl (Opd.gd hG u_0)))<|o_g (Qg_fi rfl (fun hG=>Zj Zb2 rfl rfl u_0))<|o_g (Qg_fi rfl (fun hG=>Zs ty_2 rfl rfl (Opd.gd hG u_0)))<|o_g (Qg_fi rfl (fun hG=>Zj Zha rfl rfl u_0))<|o_g (Qg_fi rfl (fun hG=>Zs ty_2 rfl rfl (Opd.gd hG u_0)))<|o_g (Qg_fi rfl (fun hG=>Zb6 rfl rfl (Opd.gd hG u_0) (Opd.gd hG u_1)))<|o_g (Qg_t rfl (fun hG=>Zbl rfl rfl (Opd.gd hG u_0) (fun hz=>(Opd.gd (bA hG (bNF hz)) u_1))))<|o_g (Qg_t rfl (fun hG=>Zy rfl rfl (Opd.gd hG u_0)))<|o_g (Qg_fi rfl (fun hG=>Zj Zb2 rfl rfl u_0))<|o_g (Qg_fi rfl (fun hG=>Zs ty_2 rfl rfl (Opd.gd hG u_0)))<|o_g (Qg_fi rfl (fun hG=>Zj Zg9 rfl rfl u_0))<|o_g (Qg_fi rfl (fun hG=>Zs ty_2 rfl rfl (Opd.gd hG u_0)))<|o_g (Qg_fi rfl (fun hG=>Zcf rfl rfl (Opd.gd hG u_0) (Opd.gd hG u_1)))<|o_g (Qg_t rfl (fun hG=>Zbl rfl rfl (Opd.gd hG u_0) (fun hz=>(Opd.gd (bA hG (bNF hz)) u_1))))<|o_p rfl (Zbe rfl rfl u_0 (fun hz=>(Opd.gd hz u_1)))<|o_n) (fun a g hst hb=>?_)
    refine wp_cond_split (hst.bool 1 rfl) (fun hc8=>?_) (fun hc8=>?_)
    ·replace H0:=Zn hc8 H0
     refine r_s (L:=[]) (T:=[⟨[],_,[],[],[2]⟩]) (F:=[.p 0 0]) (hst.pick [] rfl) hb Zb
      (Qa rfl c_i<|o_n) (fun a g hst hb=>?_)
     refine wp_ret ?_
     refine Zk ?_
     obtain rfl:=Option.some.inj H0
     exact Zz rfl hst hb (Zg (s:=2)) (hst.at 0 rfl)
    ·replace H0:=Zo hc8 H0
     refine wp_skip ?_
     refine Zm ?_
     refine wp_seq ?_
     obtain ⟨r9,h10,H0⟩:=Zf H0
     refine r_s (L:=[(1,_)]) (T:=[⟨[.o 0],_,[],[],[59]⟩,⟨[.p 0 0],_,[],[0],[60]⟩,⟨[.p 1 0],_,[],[0,1],[61]⟩,⟨[.p 2 0],_,[],[0,1,2],[62]⟩]) (F:=[.o 0,.p 3 0]) (hst.pick [0] rfl) hb Zb
      (Qf rfl Zdi u_0<|Ql rfl Zb8 u_0<|o_p rfl (Zr Zyt (Zig _ h10) rfl rfl (.cons u_0 .nil))<|Qn rfl u_0<|o_n) (fun a g hst hb=>?_)
     refine wp_cond_split (hst.bool 1 rfl) (fun hc11=>?_) (fun hc11=>?_)
     ·replace H0:=Zn hc11 H0
      refine r_s (L:=[]) (T:=[⟨[],_,[],[],[2]⟩]) (F:=[.p 0 0]) (hst.pick [] rfl) hb Zb
       (Qa rfl c_i<|o_n) (fun a g hst hb=>?_)
      refine wp_ret ?_
      refine Zk ?_
      obtain rfl:=Option.some.inj H0
      exact Zz rfl hst hb (Zg (s:=2)) (hst.at 0 rfl)
     ·replace H0:=Zo hc11 H0
      refine wp_skip ?_
      refine Zm ?_
      refine wp_seq ?_
      refine r_s (L:=[(1,_)]) (T:=[⟨[.o 0],_,[],[],[63]⟩,⟨[.p 0 0],_,[],[0],[64]⟩,⟨[.p 1 0],_,[],[0,1],[65]⟩]) (F:=[.o 0,.p 2 0]) (hst.pick [0] rfl) hb Zb
       (Qf rfl Zde u_0<|Ql rfl ty_3 u_0<|o_p rfl (Zb6 rfl rfl u_0 c_i)<|o_n) (fun a g hst hb=>?_)
      refine wp_cond_split (hst.bool 1 rfl) (fun hc12=>?_) (fun hc12=>?_)
      ·replace H0:=Zn hc12 H0
       refine r_s (L:=[]) (T:=[⟨[],_,[],[],[2]⟩]) (F:=[.p 0 0]) (hst.pick [] rfl) hb Zb
        (Qa rfl c_i<|o_n) (fun a g hst hb=>?_)
       refine wp_ret ?_
       refine Zk ?_
       obtain rfl:=Option.some.inj H0
       exact Zz rfl hst hb (Zg (s:=2)) (hst.at 0 rfl)
      ·replace H0:=Zo hc12 H0
       refine wp_skip ?_
       refine Zm ?_
       refine wp_seq ?_
       refine r_s (L:=[(1,_)]) (T:=[⟨[.o 0],_,[],[],[66]⟩,⟨[.p 0 0],_,[],[0],[67]⟩,⟨[.p 1 0],_,[],[0,1],[68]⟩,⟨[.p 2 0],_,[],[0,1,2],[69]⟩,⟨[.p 3 0,.o 0],_,[],Lr 4,[70]⟩,⟨[.p 3 0,.p 4 0],_,[],Lr 5,[71]⟩,⟨[.p 3 0,.p 5 0],_,[],Lr 6,[72]⟩,⟨[.p 3 0,.p 6 0],_,[],Lr 7,[73]⟩]) (F:=[.o 0,.p 7 0]) (hst.pick [0] rfl) hb Zb
        (Qf rfl Zet u_0<|Ql rfl ty_3 u_0<|o_p rfl (Zb6 rfl rfl u_0 c_i)<|Qm rfl u_0<|o_g (Qg_f rfl (fun hG=>Zj Zet rfl rfl u_0))<|o_g (Qg_f rfl (fun hG=>Zs ty_3 rfl rfl (Opd.gd hG u_0)))<|o_g (Qg_f rfl (fun hG=>Zcf rfl rfl (Opd.gd hG u_0) c_i))<|o_p rfl (Zbl rfl rfl u_0 (fun hz=>(Opd.gd (bNF hz) u_1)))<|o_n) (fun a g hst hb=>?_)
       refine wp_cond_split (hst.bool 1 rfl) (fun hc13=>?_) (fun hc13=>?_)
       ·replace H0:=Zn hc13 H0
        refine r_s (L:=[]) (T:=[⟨[],_,[],[],[2]⟩]) (F:=[.p 0 0]) (hst.pick [] rfl) hb Zb
         (Qa rfl c_i<|o_n) (fun a g hst hb=>?_)
        refine wp_ret ?_
        refine Zk ?_
        obtain rfl:=Option.some.inj H0
        exact Zz rfl hst hb (Zg (s:=2)) (hst.at 0 rfl)
       ·replace H0:=Zo hc13 H0
        refine wp_skip ?_
        refine Zm ?_
        refine wp_seq ?_
        refine r_s (L:=[(1,_)]) (T:=[⟨[.o 0],_,[],[],[74]⟩,⟨[.p 0 0],_,[],[0],[75]⟩,⟨[.p 1 0],_,[],[0,1],[76]⟩,⟨[.o 0],_,[],[],[77]⟩,⟨[.p 3 0],_,[],[3],[78]⟩,⟨[.p 2 0,.p 4 0],_,[],Lr 5,[79]⟩]) (F:=[.o 0,.p 5 0]) (hst.pick [0] rfl) hb Zb
         (Qf rfl Zbw u_0<|Ql rfl Zcg u_0<|o_p rfl (Zcc Tryd.underlying23 rfl rfl u_0)<|Qf rfl Zet u_0<|Ql rfl ty_3 u_0<|o_p rfl (Zcf rfl rfl u_0 u_1)<|o_n) (fun a g hst hb=>?_)
        refine wp_cond_split (hst.bool 1 rfl) (fun hc14=>?_) (fun hc14=>?_)
        ·replace H0:=Zn hc14 H0
         refine r_s (L:=[]) (T:=[⟨[],_,[],[],[2]⟩]) (F:=[.p 0 0]) (hst.pick [] rfl) hb Zb
          (Qa rfl c_i<|o_n) (fun a g hst hb=>?_)
         refine wp_ret ?_
         refine Zk ?_
         obtain rfl:=Option.some.inj H0
         exact Zz rfl hst hb (Zg (s:=2)) (hst.at 0 rfl)
        ·replace H0:=Zo hc14 H0
         refine wp_skip ?_
         refine Zm ?_
         refine wp_seq ?_
         refine r_s (L:=[(1,_)]) (T:=[⟨[],_,[],[],[4]⟩]) (F:=[.o 0,.p 0 0]) (hst.pick [0] rfl) hb Zb
          (Qa rfl c_i<|o_n) (fun a g hst hb=>?_)
         obtain ⟨z20,hz1,H0⟩:=Zf H0
         refine Zbz (fun a w=>∃ (g:G),w=g.w ∧ St 96 [] a g ∧ Base g0 g ∧ (.inr ())=z20) ?_ ?_
         ·rintro a w ⟨g,rfl,hst,hb,rfl⟩
          refine Zm ?_
          refine r_s (T:=[⟨[],_,[],[],[2]⟩]) (F:=[.p 0 0]) hst hb Zb
           (Qa rfl c_i<|o_n) (fun a g hst hb=>?_)
          refine wp_ret ?_
          obtain rfl:=Option.some.inj H0
          exact Zz rfl hst hb (Zg (s:=2)) (hst.at 0 rfl)
         ·refine wp_block ?_
          refine wp_loop_ghost (fun n a w=>∃ (x15:Int) (g:G),w=g.w ∧ St 96 [(1,(Zc.ptr a0)),(4,(pInt .i64 x15))] a g ∧ Base g0 g ∧ Zdp a0 n x15=some z20) (Int.toNat ((a0.List.length:Int) - (0:Int)) + 1) ⟨(0:Int),g,rfl,(hst.pick [0,1] rfl),hb,hz1⟩ (fun n a w hI=>?_)
          obtain ⟨x15,g,rfl,hst,hb,H1⟩:=hI
          cases n with
          | zero=>exact absurd H1 (by simp [Zdp])
          | succ n =>
           rw [Zdp] at H1
           refine wp_seq ?_
           refine r_s (T:=[⟨[.o 1],_,[],[],[80]⟩,⟨[.o 0],_,[],[],[81]⟩,⟨[.p 1 0],_,[],[1],[82]⟩,⟨[.p 2 0],_,[],[1,2],[83]⟩,⟨[.p 0 0,.p 3 0],_,[],Lr 4,[84]⟩]) (F:=[.o 0,.o 1,.p 4 0]) hst hb Zb
            (Qm rfl u_0<|Qf rfl Zbw u_0<|Ql rfl Zcg u_0<|o_p rfl (Zcc Tryd.underlying23 rfl rfl u_0)<|o_p rfl (Zb6 rfl rfl u_0 u_1)<|o_n) (fun a g hst hb=>?_)
           refine wp_cond_split (hst.bool 2 rfl) (fun hc16=>?_) (fun hc16=>?_)
           ·replace H1:=Zn hc16 H1
            refine wp_skip ?_
            refine Zm ?_
            refine wp_seq ?_
            refine wp_block ?_
            obtain ⟨r17,h18,H1⟩:=Zf H1
            refine r_s (L:=[(1,_),(4,_)]) (T:=[⟨[.o 0],_,[],[],[87]⟩,⟨[.p 0 0],_,[],[0],[88]⟩,⟨[.o 0],_,[],[],[89]⟩,⟨[.p 2 0],_,[],[2],[90]⟩,⟨[.o 1],_,[],[],[91]⟩,⟨[.p 1 0,.p 3 0,.p 4 0],_,[],Lr 5,[92]⟩,⟨[.p 5 0],_,[],Lr 6,[5]⟩]) (F:=[.o 0,.o 1,.p 6 0]) (hst.pick [0,1] rfl) hb Zb
             (Qf rfl Zde u_0<|Ql rfl ty_3 u_0<|Qf rfl Zbw u_0<|Ql rfl Zcg u_0<|Qm rfl u_0<|o_p rfl (Zr Z8h (Zo6 _ _ _ h18) rfl rfl (.cons u_0 (.cons u_1 (.cons u_2 .nil))))<|Qa rfl u_0<|o_n) (fun a g hst hb=>?_)
            refine r_s (T:=[⟨[.o 2],_,[],[],[93]⟩,⟨[.p 0 0],_,[],[0],[94]⟩]) (F:=[.o 0,.o 1,.o 2,.p 1 0]) hst hb Zb
             (Qm rfl u_0<|o_p rfl (Zdq rfl rfl u_0 c_i)<|o_n) (fun a g hst hb=>?_)
            refine wp_cond_split (hst.bool 3 rfl) (fun hc19=>?_) (fun hc19=>?_)
            ·replace H1:=Zn hc19 H1
             refine r_s (L:=[(5,_)]) (T:=[⟨[.o 0],_,[],[],[95]⟩,⟨[.p 0 0],_,[],[0],[2]⟩]) (F:=[.p 1 0]) (hst.pick [2] rfl) hb Zb
              (Qm rfl u_0<|Qa rfl u_0<|o_n) (fun a g hst hb=>?_)
             refine wp_ret ?_
             refine Zv ?_
             refine Zk ?_
             refine Zk ?_
             refine Zv ?_
             refine Zk ?_
             refine Zk ?_
             obtain rfl:=Option.some.inj H1
             obtain rfl:=Option.some.inj H0
             exact Zz rfl hst hb (Zg (s:=2)) (hst.at 0 rfl)
            ·replace H1:=Zo hc19 H1
             refine wp_skip ?_
             refine Z4 ?_
             refine Zm ?_
             refine r_g (L:=[(1,_),(4,_)]) (T:=[⟨[.o 1],_,[],[],[85]⟩,⟨[.p 0 0],_,[],[0],[86]⟩,⟨[.p 1 0],_,[],[0,1],[4]⟩]) (F:=[.o 0,.p 2 0]) (hst.pick [0,1] rfl) hb Zb
              (Qm rfl u_0<|o_p rfl (Zca rfl rfl u_0 c_i rfl)<|Qa rfl u_0<|o_n) (fun a g hst hb=>?_)
             exact ⟨n,Nat.lt_succ_self _,(IntKind.i64.wrap (x15 + (1:Int))),g,rfl,(hst.pick [0,1] rfl),hb,H1⟩
           ·replace H1:=Zo hc16 H1
            refine wp_exit ?_
            refine Zb7 ?_
            refine Zb7 ?_
            refine Zct ?_
            exact ⟨g,rfl,(hst.pick [] rfl),hb,Option.some.inj H1⟩
theorem Znx (a0:Za) (a1:Int) (a2:List Zu) {r:(List Zu) × Bool} (h:Zfp a0 a1 a2=some r):FnOk Tryd.prog 20 [(Zc.pd a0),(pInt .i64 a1),(Z9.sl.pd a2)] (pTup [(Z9.sl.pd r.1),(Zba r.2)]):=by
 have H0:=h
 unfold Zfp at H0
 clear h
 refine Zbt (N:=45) Tryd.func20 rfl rfl (Qe rfl) rfl rfl (fun a g0 hst hb=>?_)
 refine r_s (T:=[⟨[.o 0],_,[],[],[3]⟩,⟨[],[(6,(Z9.sl.pd ([]:List Zu)))],[],[],[6]⟩,⟨[],_,[],[1],[7]⟩]) (F:=[.o 1,.o 2,.p 0 0]) hst hb Zb
  (Qb rfl u_0<|o_p rfl (Zd1 rfl rfl (Opd.c (fun g=>Zit g)))<|Qa rfl c_b<|o_n) (fun a g hst hb=>?_)
 obtain ⟨r1,h2,H0⟩:=Zf H0
 refine r_s (T:=[⟨[.o 2],_,[],[],[14]⟩,⟨[.o 0],_,[],[],[15]⟩,⟨[.p 0 0,.p 1 0],[(16,(pTup [(Zjy Zcz 16 r1.1),(pInt .i64 r1.2)]))],[17,1000017],[0,1],[16]⟩,⟨[.p 2 0],_,[],[0,1,2],[13]⟩,⟨[.p 3 0],_,[],Lr 4,[17]⟩,⟨[.p 3 0],_,[],Lr 4,[18]⟩,⟨[.p 4 0],_,[],Lr 5,[8]⟩,⟨[.p 5 0],_,[],Lr 7,[9]⟩]) (F:=[.o 1,.p 6 0,.p 7 0]) hst hb Zb
  (Ql rfl Z0 u_0<|Qm rfl u_0<|o_p rfl (Zq9 Z3y (Zpo _ _ h2) rfl rfl rfl (.cons u_0 (.cons u_1 .nil)))<|Qm rfl u_0<|o_p rfl (Zbc rfl rfl u_0 rfl)<|o_p rfl (Zbc rfl rfl u_0 rfl)<|Qa rfl u_0<|Qa rfl u_0<|o_n) (fun a g hst hb=>?_)
 refine wp_seq ?_
 refine r_s (T:=[⟨[.o 2],_,[],[],[19]⟩,⟨[.p 0 0],_,[],[0],[20]⟩,⟨[.p 1 0],_,[],[0,1],[21]⟩,⟨[.p 2 0,.o 1],_,[],[0,1,2],[22]⟩,⟨[.p 2 0,.p 3 0],_,[],Lr 4,[23]⟩,⟨[.p 2 0,.p 4 0],_,[],Lr 5,[24]⟩]) (F:=[.o 0,.o 1,.p 5 0]) hst hb Zb
  (Qm rfl u_0<|o_p rfl (Zdq rfl rfl u_0 c_i)<|Qm rfl u_0<|o_g (Qg_f rfl (fun hG=>Zy rfl rfl u_0))<|o_g (Qg_f rfl (fun hG=>Zzx Tryd.underlying54 rfl rfl (Opd.gd hG u_0) Zv5))<|o_p rfl (Zbl rfl rfl u_0 (fun hz=>(Opd.gd (bNF hz) u_1)))<|o_n) (fun a g hst hb=>?_)
 refine wp_cond_split (hst.bool 2 rfl) (fun hc3=>?_) (fun hc3=>?_)
 ·replace H0:=Zn hc3 H0
  refine r_s (L:=[]) (T:=[⟨[],[(6,(Z9.sl.pd ([]:List Zu)))],[],[],[6]⟩,⟨[],_,[],[0],[7]⟩]) (F:=[.p 0 0,.p 1 0]) (hst.pick [] rfl) hb Zb
   (o_p rfl (Zd1 rfl rfl (Opd.c (fun g=>Zit g)))<|Qa rfl c_b<|o_n) (fun a g hst hb=>?_)
  refine wp_ret ?_
  refine Zk ?_
  obtain rfl:=Option.some.inj H0
  exact Zgx rfl hst hb (Zg (s:=6)) (Zg (s:=7)) (Zfb (hst.at 0 rfl) (hst.at 1 rfl))
 ·replace H0:=Zo hc3 H0
  refine wp_skip ?_
  refine Zm ?_
  refine r_s (L:=[(2,_),(8,_)]) (T:=[⟨[],[(10,(pRow Z9 39 10 ([]:List Zu)))],[],[],[10]⟩]) (F:=[.o 0,.o 1,.p 0 0]) (hst.pick [0,1] rfl) hb Zb
   (o_p rfl (Zd1 rfl rfl (Opd.c (fun g=>Z2f 10 g)))<|o_n) (fun a g hst hb=>?_)
  refine wp_seq ?_
  refine r_s (T:=[⟨[.o 0],_,[],[],[25]⟩,⟨[.p 0 0],_,[],[0],[26]⟩,⟨[],_,[],[],[27]⟩]) (F:=[.o 1,.o 2,.p 0 0,.p 1 0,.p 2 0]) hst hb Zb
   (Qm rfl u_0<|o_p rfl (Zcc Tryd.underlying40 rfl rfl u_0)<|Qm rfl c_i<|o_n) (fun a g hst hb=>?_)
  obtain ⟨z19,hz1,H0⟩:=Zf H0
  refine Zbz (fun a w=>∃ (y18:List Zu) (g:G),w=g.w ∧ St 45 [(10,(pRow Z9 39 10 y18))] a g ∧ Base g0 g ∧ y18=z19) ?_ ?_
  ·rintro a w ⟨y18,g,rfl,hst,hb,rfl⟩
   refine Zm ?_
   refine r_s (T:=[⟨[.o 0],_,[],[],[44]⟩,⟨[.p 0 0],_,[],[0],[6]⟩,⟨[],_,[],[0,1],[7]⟩]) (F:=[.p 1 0,.p 2 0]) hst hb Zb
    (Qm rfl u_0<|Qa rfl u_0<|Qa rfl c_b<|o_n) (fun a g hst hb=>?_)
   refine wp_ret ?_
   obtain rfl:=Option.some.inj H0
   exact Zgx rfl hst hb (Zg (s:=6)) (Zg (s:=7)) (Zfb (Zlr (hst.at 0 rfl)) (hst.at 1 rfl))
  ·refine wp_block ?_
   refine wp_loop_ghost (fun n a w=>∃ (x4:Option Zx) (x5:List Zu) (x6:Int) (g:G),w=g.w ∧ St 45 [(8,(Zjy Zcz 16 x4)),(10,(pRow Z9 39 10 x5)),(25,(Z9.sl.pd a2)),(26,(pInt .i64 (a2.length:Int))),(27,(pInt .i64 x6))] a g ∧ Base g0 g ∧ Zcw a2 n x4 x5 x6=some z19) (Int.toNat ((a2.length:Int) - (0:Int)) + 1) ⟨r1.1,([]:List Zu),(0:Int),g,rfl,(hst.pick [0,1,2,3,4] rfl),hb,hz1⟩ (fun n a w hI=>?_)
   obtain ⟨x4,x5,x6,g,rfl,hst,hb,H1⟩:=hI
   cases n with
   | zero=>exact absurd H1 (by simp [Zcw])
   | succ n =>
    rw [Zcw] at H1
    refine r_s (T:=[⟨[.o 4,.o 3],_,[],[],[28]⟩]) (F:=[.o 0,.o 1,.o 2,.o 3,.o 4,.p 0 0]) hst hb Zb
     (o_p rfl (Zb6 rfl rfl u_0 u_1)<|o_n) (fun a g hst hb=>?_)
    refine wp_seq ?_
    refine wp_cond_split (hst.bool 5 rfl) (fun hc7=>?_) (fun hc7=>?_)
    ·replace H1:=Zn hc7 H1
     refine wp_skip ?_
     refine Zm ?_
     refine wp_seq ?_
     refine Zbz (fun a w=>∃ (j16:Option Zx) (j17:List Zu) (g:G),w=g.w ∧ St 45 [(8,(Zjy Zcz 16 j16)),(10,(pRow Z9 39 10 j17)),(25,(Z9.sl.pd a2)),(26,(pInt .i64 (a2.length:Int))),(27,(pInt .i64 x6))] a g ∧ Base g0 g ∧ Zfj x6 (Zcw a2 n) j16 j17=some z19) ?_ ?_
     ·rintro a w ⟨j16,j17,g,rfl,hst,hb,H1⟩
      unfold Zfj at H1
      refine Zm ?_
      refine r_g (T:=[⟨[.o 4],_,[],[],[43]⟩,⟨[.p 0 0],_,[],[0],[27]⟩]) (F:=[.o 0,.o 1,.o 2,.o 3,.p 1 0]) hst hb Zb
       (o_p rfl (Zca rfl rfl u_0 c_i rfl)<|Qm rfl u_0<|o_n) (fun a g hst hb=>?_)
      exact ⟨n,Nat.lt_succ_self _,j16,j17,(IntKind.i64.wrap (x6 + (1:Int))),g,rfl,(hst.pick [0,1,2,3,4] rfl),hb,H1⟩
     ·refine wp_block ?_
      obtain ⟨e8,h9,H1⟩:=Zf H1
      refine r_s (L:=[(8,_),(10,_),(25,_),(26,_),(27,_)]) (T:=[⟨[.o 2,.o 4],_,[],[],[29]⟩,⟨[.p 0 0],_,[],[0],[30]⟩,⟨[],[(12,(pBox Z9 12 (default:Zu)))],[13],[],[12]⟩,⟨[.p 1 0,.p 2 0],_,[13],[0,1,2],[12]⟩]) (F:=[.o 0,.o 1,.p 3 0,.o 2,.o 3,.o 4]) (hst.pick [0,1,2,3,4] rfl) hb Zb
       (o_p rfl (Zbk Tryd.underlying40 Zr5 rfl rfl u_0 u_1 h9)<|Ql rfl Zoe u_0<|o_p rfl (Zbm (zs:=[.int .i64 0,.int .i64 0,.string ByteArray.empty,.int .i64 0,.float .f64 0,.string ByteArray.empty,.int .i64 0,.int .i64 0,.int .i64 0,.int .i64 0,.float .f64 0,.int .i64 0,.string ByteArray.empty,.slice none 0 0,.bool false]) (by kernel_rfl) (fun g=>Zja g) rfl rfl)<|o_p rfl (Zb9 Zoe rfl rfl u_1 u_0)<|o_n) (fun a g hst hb=>?_)
      obtain ⟨n10,h11,H1⟩:=Zf H1;obtain ⟨r12,h13,H1⟩:=Zf H1
      refine r_s (T:=[⟨[.o 0],_,[],[],[31]⟩,⟨[.o 2],_,[],[],[32]⟩,⟨[.p 1 0],_,[],[1],[33]⟩,⟨[.o 2],_,[],[],[34]⟩,⟨[.p 3 0],_,[],[3],[35]⟩,⟨[.p 4 0],_,[],[3,4],[36]⟩,⟨[.p 0 0,.p 2 0,.p 5 0,.o 0],[(37,(pInt .i64 r12.2)),(8,(Zjy Zcz 16 (some r12.1)))],[17,1000017],Lr 6,[8,31,37]⟩,⟨[.p 6 0],_,[],Lr 7,[38]⟩]) (F:=[.p 6 1,.o 1,.o 2,.o 3,.o 4,.o 5,.p 7 0]) hst hb Zb
       (Qm rfl u_0<|Qf rfl Znt u_0<|Ql rfl ty_3 u_0<|Qf rfl Zp5 u_0<|Ql rfl Zgr u_0<|o_p rfl (Zhg Zyk (xs:=[.tmp 35]) (.cons u_0 .nil) (by decide) rfl rfl)<|o_p rfl (OB.objO (Zmi Zy0 (Zix _ _ _ h13) rfl rfl rfl (by decide) (Opd.imp u_3 (fun _ _ h=>Zgg h11 h)) (Opd.imp u_0 (fun _ _ h=>Zgg h11 h)) (.cons u_1 (.cons u_2 .nil))))<|o_p rfl (Z8 rfl rfl u_0 c_i)<|o_n) (fun a g hst hb=>?_)
      refine wp_cond_split (hst.bool 6 rfl) (fun hc14=>?_) (fun hc14=>?_)
      ·replace H1:=Zn hc14 H1
       obtain ⟨h15,H1⟩:=Zg2 H1
       refine r_g (L:=[(8,_),(10,_),(12,_),(25,_),(26,_),(27,_)]) (T:=[⟨[.o 1],_,[],[],[39]⟩,⟨[.o 2],_,[],[],[40]⟩,⟨[.p 1 0],_,[],[1],[41]⟩,⟨[.p 0 0,.p 2 0],_,[11],[0,1,2],[10,39,42]⟩,⟨[.p 3 0],_,[],Lr 4,[10]⟩]) (F:=[.o 0,.p 4 0,.o 3,.o 4,.o 5]) (hst.pick [0,1,2,3,4,5] rfl) hb Zb
        (Qm rfl u_0<|Ql rfl Zoe u_0<|o_p rfl (Zhg Z2q (xs:=[.tmp 40]) (.cons u_0 .nil) (by decide) rfl rfl)<|o_p rfl (Zjh Z2q rfl rfl u_0 u_1 h15)<|Qa rfl u_0<|o_n) (fun a g hst hb=>?_)
       refine Z4 ?_
       exact ⟨(some r12.1),(x5 ++ ([e8]:List Zu)),g,rfl,(hst.pick [0,1,2,3,4] rfl),hb,H1⟩
      ·replace H1:=Zo hc14 H1
       refine wp_skip ?_
       refine Z4 ?_
       exact ⟨(some r12.1),x5,g,rfl,(hst.pick [0,1,3,4,5] rfl),hb,H1⟩
    ·replace H1:=Zo hc7 H1
     refine wp_exit ?_
     refine Zb7 ?_
     refine Zb7 ?_
     refine Zct ?_
     exact ⟨x5,g,rfl,(hst.pick [1] rfl),hb,Option.some.inj H1⟩
theorem Zj6 (a0:Int) {r:Int} (h:Zdg a0=some r):FnOk Tryd.prog 35 [(pInt .i64 a0)] (pInt .i64 r):=by
 have H0:=h
 unfold Zdg at H0
 clear h
 refine Zbt (N:=15) Tryd.func35 rfl rfl (Qe rfl) rfl rfl (fun a g0 hst hb=>?_)
 refine r_s (T:=[⟨[],_,[],[],[2]⟩]) (F:=[.o 0]) hst hb Zb
  (Qa rfl c_i<|o_n) (fun a g hst hb=>?_)
 refine r_s (T:=[⟨[],_,[],[],[4]⟩,⟨[.p 0 0],_,[],[0],[3]⟩]) (F:=[.o 0,.p 1 0]) hst hb Zb
  (o_p rfl (Zhg Z6i (xs:=[.const (.int .i64 0),.const (.int .i64 0),.const (.int .i64 0),.const (.int .i64 0),.const (.int .i64 0),.const (.int .i64 1),.const (.int .i64 1),.const (.int .i64 2),.const (.int .i64 3),.const (.int .i64 3),.const (.int .i64 4),.const (.int .i64 4),.const (.int .i64 4),.const (.int .i64 5),.const (.int .i64 6),.const (.int .i64 7),.const (.int .i64 7),.const (.int .i64 7),.const (.int .i64 8),.const (.int .i64 8),.const (.int .i64 8),.const (.int .i64 9)]) (.cons c_i (.cons c_i (.cons c_i (.cons c_i (.cons c_i (.cons c_i (.cons c_i (.cons c_i (.cons c_i (.cons c_i (.cons c_i (.cons c_i (.cons c_i (.cons c_i (.cons c_i (.cons c_i (.cons c_i (.cons c_i (.cons c_i (.cons c_i (.cons c_i (.cons c_i .nil)))))))))))))))))))))) (by decide) rfl rfl)<|Qa rfl u_0<|o_n) (fun a g hst hb=>?_)
 refine wp_seq ?_
 refine r_s (T:=[⟨[.o 0],_,[],[],[5]⟩,⟨[.p 0 0],_,[],[0],[6]⟩,⟨[.p 1 0],_,[],[0,1],[7]⟩,⟨[.p 2 0,.o 0],_,[],[0,1,2],[8]⟩,⟨[.p 2 0,.p 3 0],_,[],Lr 4,[9]⟩,⟨[.p 2 0,.p 4 0],_,[],Lr 5,[10]⟩]) (F:=[.o 0,.o 1,.p 5 0]) hst hb Zb
  (Qm rfl u_0<|o_p rfl (Zb6 rfl rfl u_0 c_i)<|Qm rfl u_0<|o_g (Qg_f rfl (fun hG=>Zy rfl rfl u_0))<|o_g (Qg_f rfl (fun hG=>Zcf rfl rfl (Opd.gd hG u_0) c_i))<|o_p rfl (Zbl rfl rfl u_0 (fun hz=>(Opd.gd (bNF hz) u_1)))<|o_n) (fun a g hst hb=>?_)
 refine wp_cond_split (hst.bool 2 rfl) (fun hc1=>?_) (fun hc1=>?_)
 ·replace H0:=Zn hc1 H0
  refine r_s (L:=[]) (T:=[⟨[],_,[],[],[2]⟩]) (F:=[.p 0 0]) (hst.pick [] rfl) hb Zb
   (Qa rfl c_i<|o_n) (fun a g hst hb=>?_)
  refine wp_ret ?_
  refine Zk ?_
  obtain rfl:=Option.some.inj H0
  exact Zz rfl hst hb (Zg (s:=2)) (hst.at 0 rfl)
 ·replace H0:=Zo hc1 H0
  refine wp_skip ?_
  refine Zm ?_
  obtain ⟨e2,h3,H0⟩:=Zf H0
  refine r_s (L:=[(0,_),(3,_)]) (T:=[⟨[.o 1],_,[],[],[11]⟩,⟨[.o 0],_,[],[],[12]⟩,⟨[.p 0 0,.p 1 0],_,[],[0,1],[13]⟩,⟨[.p 2 0],_,[],[0,1,2],[14]⟩,⟨[.p 3 0],_,[],Lr 4,[2]⟩]) (F:=[.p 4 0]) (hst.pick [0,1] rfl) hb Zb
   (Qm rfl u_0<|Qm rfl u_0<|o_p rfl (Zbk Tryd.underlying110 sz_3 rfl rfl u_0 u_1 h3)<|Ql rfl ty_3 u_0<|Qa rfl u_0<|o_n) (fun a g hst hb=>?_)
  refine wp_ret ?_
  obtain rfl:=Option.some.inj H0
  exact Zz rfl hst hb (Zg (s:=2)) (hst.at 0 rfl)
theorem Zng (a0:Int) {r:ByteArray} (h:Zjw a0=some r):FnOk Tryd.prog 75 [(pInt .i64 a0)] (pStr r):=by
 have H0:=h
 unfold Zjw at H0
 clear h
 refine Zbt (N:=15) Tryd.func75 rfl rfl (Qe rfl) rfl rfl (fun a g0 hst hb=>?_)
 refine r_s (T:=[⟨[],_,[],[],[2]⟩]) (F:=[.o 0]) hst hb Zb
  (Qa rfl c_s<|o_n) (fun a g hst hb=>?_)
 refine r_s (T:=[⟨[],_,[],[],[4]⟩,⟨[.p 0 0],_,[],[0],[3]⟩]) (F:=[.o 0,.p 1 0]) hst hb Zb
  (o_p rfl (Zhg Zzq (xs:=[.const (.string ⟨#[]⟩),.const (.string ⟨#[109]⟩),.const (.string ⟨#[]⟩),.const (.string ⟨#[]⟩),.const (.string ⟨#[]⟩),.const (.string ⟨#[115]⟩),.const (.string ⟨#[115]⟩),.const (.string ⟨#[110]⟩),.const (.string ⟨#[110]⟩),.const (.string ⟨#[110]⟩),.const (.string ⟨#[110]⟩),.const (.string ⟨#[110]⟩),.const (.string ⟨#[110]⟩),.const (.string ⟨#[120]⟩),.const (.string ⟨#[120]⟩),.const (.string ⟨#[120]⟩),.const (.string ⟨#[120]⟩),.const (.string ⟨#[120]⟩),.const (.string ⟨#[115]⟩),.const (.string ⟨#[115]⟩),.const (.string ⟨#[115]⟩),.const (.string ⟨#[120,115]⟩)]) (.cons c_s (.cons c_s (.cons c_s (.cons c_s (.cons c_s (.cons c_s (.cons c_s (.cons c_s (.cons c_s (.cons c_s (.cons c_s (.cons c_s (.cons c_s (.cons c_s (.cons c_s (.cons c_s (.cons c_s (.cons c_s (.cons c_s (.cons c_s (.cons c_s (.cons c_s .nil)))))))))))))))))))))) (by decide) rfl rfl)<|Qa rfl u_0<|o_n) (fun a g hst hb=>?_)
 refine wp_seq ?_
 refine r_s (T:=[⟨[.o 0],_,[],[],[5]⟩,⟨[.p 0 0],_,[],[0],[6]⟩,⟨[.p 1 0],_,[],[0,1],[7]⟩,⟨[.p 2 0,.o 0],_,[],[0,1,2],[8]⟩,⟨[.p 2 0,.p 3 0],_,[],Lr 4,[9]⟩,⟨[.p 2 0,.p 4 0],_,[],Lr 5,[10]⟩]) (F:=[.o 0,.o 1,.p 5 0]) hst hb Zb
  (Qm rfl u_0<|o_p rfl (Zb6 rfl rfl u_0 c_i)<|Qm rfl u_0<|o_g (Qg_f rfl (fun hG=>Zy rfl rfl u_0))<|o_g (Qg_f rfl (fun hG=>Zcf rfl rfl (Opd.gd hG u_0) c_i))<|o_p rfl (Zbl rfl rfl u_0 (fun hz=>(Opd.gd (bNF hz) u_1)))<|o_n) (fun a g hst hb=>?_)
 refine wp_cond_split (hst.bool 2 rfl) (fun hc1=>?_) (fun hc1=>?_)
 ·replace H0:=Zn hc1 H0
  refine r_s (L:=[]) (T:=[⟨[],_,[],[],[2]⟩]) (F:=[.p 0 0]) (hst.pick [] rfl) hb Zb
   (Qa rfl c_s<|o_n) (fun a g hst hb=>?_)
  refine wp_ret ?_
  refine Zk ?_
  obtain rfl:=Option.some.inj H0
  exact Zz rfl hst hb (Zg (s:=2)) (hst.at 0 rfl)
 ·replace H0:=Zo hc1 H0
  refine wp_skip ?_
  refine Zm ?_
  obtain ⟨e2,h3,H0⟩:=Zf H0
  refine r_s (L:=[(0,_),(3,_)]) (T:=[⟨[.o 1],_,[],[],[11]⟩,⟨[.o 0],_,[],[],[12]⟩,⟨[.p 0 0,.p 1 0],_,[],[0,1],[13]⟩,⟨[.p 2 0],_,[],[0,1,2],[14]⟩,⟨[.p 3 0],_,[],Lr 4,[2]⟩]) (F:=[.p 4 0]) (hst.pick [0,1] rfl) hb Zb
   (Qm rfl u_0<|Qm rfl u_0<|o_p rfl (Zbk Tryd.underlying122 sz_9 rfl rfl u_0 u_1 h3)<|Ql rfl ty_9 u_0<|Qa rfl u_0<|o_n) (fun a g hst hb=>?_)
  refine wp_ret ?_
  obtain rfl:=Option.some.inj H0
  exact Zz rfl hst hb (Zg (s:=2)) (hst.at 0 rfl)
theorem Zjl (a0:Int) (a1:Int) {r:Bool} (h:Zdl a0 a1=some r):FnOk Tryd.prog 48 [(pInt .i64 a0),(pInt .u8 a1)] (Zba r):=by
 have H0:=h
 unfold Zdl at H0
 clear h
 refine Zbt (N:=20) Tryd.func48 rfl rfl (Qe rfl) rfl rfl (fun a g0 hst hb=>?_)
 refine r_s (T:=[⟨[],_,[],[],[4]⟩]) (F:=[.o 0,.o 1]) hst hb Zb
  (Qa rfl c_b<|o_n) (fun a g hst hb=>?_)
 obtain ⟨r1,h2,H0⟩:=Zf H0
 refine r_s (T:=[⟨[.o 0],_,[],[],[7]⟩,⟨[.p 0 0],_,[],[0],[8]⟩,⟨[.p 1 0],_,[],[0,1],[5]⟩]) (F:=[.o 1,.p 2 0]) hst hb Zb
  (Qm rfl u_0<|o_p rfl (Zr Z8u (Zng _ h2) rfl rfl (.cons u_0 .nil))<|Qa rfl u_0<|o_n) (fun a g hst hb=>?_)
 refine wp_seq ?_
 refine r_s (T:=[⟨[],_,[],[],[6]⟩]) (F:=[.o 0,.o 1,.p 0 0]) hst hb Zb
  (Qa rfl c_i<|o_n) (fun a g hst hb=>?_)
 obtain ⟨z8,hz1,H0⟩:=Zf H0
 refine Zbz (fun a w=>∃ (g:G),w=g.w ∧ St 20 [] a g ∧ Base g0 g ∧ (.inr ())=z8) ?_ ?_
 ·rintro a w ⟨g,rfl,hst,hb,rfl⟩
  refine Zm ?_
  refine r_s (T:=[⟨[],_,[],[],[4]⟩]) (F:=[.p 0 0]) hst hb Zb
   (Qa rfl c_b<|o_n) (fun a g hst hb=>?_)
  refine wp_ret ?_
  obtain rfl:=Option.some.inj H0
  exact Zz rfl hst hb (Zg (s:=4)) (hst.at 0 rfl)
 ·refine wp_block ?_
  refine wp_loop_ghost (fun n a w=>∃ (x3:Int) (g:G),w=g.w ∧ St 20 [(1,(pInt .u8 a1)),(5,(pStr r1)),(6,(pInt .i64 x3))] a g ∧ Base g0 g ∧ Zgh a1 r1 n x3=some z8) (Int.toNat ((r1.size:Int) - (0:Int)) + 1) ⟨(0:Int),g,rfl,(hst.pick [0,1,2] rfl),hb,hz1⟩ (fun n a w hI=>?_)
  obtain ⟨x3,g,rfl,hst,hb,H1⟩:=hI
  cases n with
  | zero=>exact absurd H1 (by simp [Zgh])
  | succ n =>
   rw [Zgh] at H1
   refine wp_seq ?_
   refine r_s (T:=[⟨[.o 2],_,[],[],[9]⟩,⟨[.o 1],_,[],[],[10]⟩,⟨[.p 1 0],_,[],[1],[11]⟩,⟨[.p 0 0,.p 2 0],_,[],[0,1,2],[12]⟩]) (F:=[.o 0,.o 1,.o 2,.p 3 0]) hst hb Zb
    (Qm rfl u_0<|Qm rfl u_0<|o_p rfl (Zff Tryd.underlying9 rfl rfl u_0)<|o_p rfl (Zb6 rfl rfl u_0 u_1)<|o_n) (fun a g hst hb=>?_)
   refine wp_cond_split (hst.bool 3 rfl) (fun hc4=>?_) (fun hc4=>?_)
   ·replace H1:=Zn hc4 H1
    refine wp_skip ?_
    refine Zm ?_
    refine wp_seq ?_
    refine wp_block ?_
    obtain ⟨b5,h6,H1⟩:=Zf H1
    refine r_s (L:=[(1,_),(5,_),(6,_)]) (T:=[⟨[.o 1],_,[],[],[15]⟩,⟨[.o 2],_,[],[],[16]⟩,⟨[.p 0 0,.p 1 0],_,[],[0,1],[17]⟩,⟨[.o 0],_,[],[],[18]⟩,⟨[.p 2 0,.p 3 0],_,[],Lr 4,[19]⟩]) (F:=[.o 0,.o 1,.o 2,.p 4 0]) (hst.pick [0,1,2] rfl) hb Zb
     (Qm rfl u_0<|Qm rfl u_0<|o_p rfl (Zlc Tryd.underlying9 rfl rfl u_0 u_1 h6)<|Qm rfl u_0<|o_p rfl (Z8 rfl rfl u_0 u_1)<|o_n) (fun a g hst hb=>?_)
    refine wp_cond_split (hst.bool 3 rfl) (fun hc7=>?_) (fun hc7=>?_)
    ·replace H1:=Zn hc7 H1
     refine r_s (L:=[]) (T:=[⟨[],_,[],[],[4]⟩]) (F:=[.p 0 0]) (hst.pick [] rfl) hb Zb
      (Qa rfl c_b<|o_n) (fun a g hst hb=>?_)
     refine wp_ret ?_
     refine Zv ?_
     refine Zk ?_
     refine Zk ?_
     refine Zv ?_
     refine Zk ?_
     refine Zk ?_
     obtain rfl:=Option.some.inj H1
     obtain rfl:=Option.some.inj H0
     exact Zz rfl hst hb (Zg (s:=4)) (hst.at 0 rfl)
    ·replace H1:=Zo hc7 H1
     refine wp_skip ?_
     refine Z4 ?_
     refine Zm ?_
     refine r_g (L:=[(1,_),(5,_),(6,_)]) (T:=[⟨[.o 2],_,[],[],[13]⟩,⟨[.p 0 0],_,[],[0],[14]⟩,⟨[.p 1 0],_,[],[0,1],[6]⟩]) (F:=[.o 0,.o 1,.p 2 0]) (hst.pick [0,1,2] rfl) hb Zb
      (Qm rfl u_0<|o_p rfl (Zca rfl rfl u_0 c_i rfl)<|Qa rfl u_0<|o_n) (fun a g hst hb=>?_)
     exact ⟨n,Nat.lt_succ_self _,(IntKind.i64.wrap (x3 + (1:Int))),g,rfl,(hst.pick [0,1,2] rfl),hb,H1⟩
   ·replace H1:=Zo hc4 H1
    refine wp_exit ?_
    refine Zb7 ?_
    refine Zb7 ?_
    refine Zct ?_
    exact ⟨g,rfl,(hst.pick [] rfl),hb,Option.some.inj H1⟩
theorem Zob (a0:Zi) {r:Int} (h:Zec a0=some r):FnOk Tryd.prog 22 [(Z1.pd a0)] (pInt .i64 r):=by
 have H0:=h
 unfold Zec at H0
 clear h
 refine Zbt (N:=113) Tryd.func22 rfl rfl (Qe rfl) rfl rfl (fun a g0 hst hb=>?_)
 refine r_s (T:=[⟨[.o 0],_,[],[],[1]⟩,⟨[],_,[],[],[2]⟩]) (F:=[.p 0 0]) hst hb Zb
  (Qb rfl u_0<|Qa rfl c_i<|o_n) (fun a g hst hb=>?_)
 refine wp_seq ?_
 refine r_s (T:=[⟨[.o 0],_,[],[],[3]⟩,⟨[.p 0 0],_,[],[0],[4]⟩,⟨[.p 1 0],_,[],[0,1],[5]⟩,⟨[.p 2 0],_,[],[0,1,2],[6]⟩,⟨[.p 3 0,.o 0],_,[],Lr 4,[7]⟩,⟨[.p 3 0,.p 4 0],_,[],Lr 5,[8]⟩,⟨[.p 3 0,.p 5 0],_,[],Lr 6,[9]⟩,⟨[.p 3 0,.p 6 0],_,[],Lr 7,[10]⟩]) (F:=[.o 0,.p 7 0]) hst hb Zb
  (Qf rfl Zch u_0<|Ql rfl ty_3 u_0<|o_p rfl (Zb6 rfl rfl u_0 c_i)<|Qm rfl u_0<|o_g (Qg_f rfl (fun hG=>Zj Zch rfl rfl u_0))<|o_g (Qg_f rfl (fun hG=>Zs ty_3 rfl rfl (Opd.gd hG u_0)))<|o_g (Qg_f rfl (fun hG=>Zcf rfl rfl (Opd.gd hG u_0) c_i))<|o_p rfl (Zbl rfl rfl u_0 (fun hz=>(Opd.gd (bNF hz) u_1)))<|o_n) (fun a g hst hb=>?_)
 refine wp_cond_split (hst.bool 1 rfl) (fun hc1=>?_) (fun hc1=>?_)
 ·replace H0:=Zn hc1 H0
  refine r_s (L:=[]) (T:=[⟨[],_,[],[],[2]⟩]) (F:=[.p 0 0]) (hst.pick [] rfl) hb Zb
   (Qa rfl c_i<|o_n) (fun a g hst hb=>?_)
  refine wp_ret ?_
  refine Zk ?_
  obtain rfl:=Option.some.inj H0
  exact Zz rfl hst hb (Zg (s:=2)) (hst.at 0 rfl)
 ·replace H0:=Zo hc1 H0
  refine wp_skip ?_
  refine Zm ?_
  refine wp_seq ?_
  refine r_s (L:=[(1,_)]) (T:=[⟨[.o 0],_,[],[],[11]⟩,⟨[.p 0 0],_,[],[0],[12]⟩,⟨[.p 1 0],_,[],[0,1],[13]⟩,⟨[.p 2 0],_,[],[0,1,2],[14]⟩,⟨[.p 3 0],_,[],Lr 4,[15]⟩,⟨[.p 4 0,.o 0],_,[],Lr 5,[16]⟩,⟨[.p 4 0,.p 5 0],_,[],Lr 6,[17]⟩,⟨[.p 4 0,.p 6 0],_,[],Lr 7,[18]⟩,⟨[.p 4 0,.p 7 0],_,[],Lr 8,[19]⟩,⟨[.p 4 0,.p 8 0],_,[],Lr 9,[20]⟩]) (F:=[.o 0,.p 9 0]) (hst.pick [0] rfl) hb Zb
   (Qf rfl Znr u_0<|Ql rfl ty_9 u_0<|o_p rfl (Zff Tryd.underlying9 rfl rfl u_0)<|o_p rfl (Zb6 rfl rfl u_0 c_i)<|Qm rfl u_0<|o_g (Qg_f rfl (fun hG=>Zj Znr rfl rfl u_0))<|o_g (Qg_f rfl (fun hG=>Zs ty_9 rfl rfl (Opd.gd hG u_0)))<|o_g (Qg_f rfl (fun hG=>Zff Tryd.underlying9 rfl rfl (Opd.gd hG u_0)))<|o_g (Qg_f rfl (fun hG=>Zcf rfl rfl (Opd.gd hG u_0) c_i))<|o_p rfl (Zbl rfl rfl u_0 (fun hz=>(Opd.gd (bNF hz) u_1)))<|o_n) (fun a g hst hb=>?_)
  refine wp_cond_split (hst.bool 1 rfl) (fun hc2=>?_) (fun hc2=>?_)
  ·replace H0:=Zn hc2 H0
   refine r_s (L:=[]) (T:=[⟨[],_,[],[],[2]⟩]) (F:=[.p 0 0]) (hst.pick [] rfl) hb Zb
    (Qa rfl c_i<|o_n) (fun a g hst hb=>?_)
   refine wp_ret ?_
   refine Zk ?_
   obtain rfl:=Option.some.inj H0
   exact Zz rfl hst hb (Zg (s:=2)) (hst.at 0 rfl)
  ·replace H0:=Zo hc2 H0
   refine wp_skip ?_
   refine Zm ?_
   refine wp_seq ?_
   obtain ⟨r3,h4,H0⟩:=Zf H0;obtain ⟨r5,h6,H0⟩:=Zf H0;obtain ⟨r7,h8,H0⟩:=Zf H0;obtain ⟨r9,h10,H0⟩:=Zf H0
   refine r_s (L:=[(1,_)]) (T:=⟨[.o 0],_,[],[],[21]⟩ :: ⟨[.p 0 0],_,[],[0],[22]⟩ :: ⟨[.p 1 0],_,[],[0,1],[23]⟩ :: ⟨[.p 2 0],_,[],[0,1,2],[24]⟩ :: ⟨[.p 3 0],_,[],Lr 4,[25]⟩ :: ⟨[.p 4 0,.o 0],_,[],Lr 5,[26]⟩ :: ⟨[.p 4 0,.p 5 0],_,[],Lr 6,[27]⟩ :: ⟨[.p 4 0,.p 6 0],_,[],Lr 7,[28]⟩ :: ⟨[.p 4 0,.p 7 0],_,[],Lr 8,[29]⟩ :: ⟨[.p 8 0],_,[],Lr 9,[30]⟩ :: ⟨[.p 9 0,.o 0],_,[],Lr 10,[31]⟩ :: ⟨[.p 9 0,.p 10 0],_,[],Lr 11,[32]⟩ :: ⟨[.p 9 0,.p 11 0],_,[],Lr 12,[33]⟩ :: ⟨[.p 9 0,.p 12 0],_,[],Lr 13,[34]⟩ :: ⟨[.p 9 0,.p 13 0],_,[],Lr 14,[35]⟩ :: ⟨[.p 14 0,.o 0],_,[],Lr 15,[36]⟩ :: ⟨[.p 14 0,.p 15 0],_,[],Lr 16,[37]⟩ :: ⟨[.p 14 0,.p 16 0],_,[],Lr 17,[38]⟩ :: ⟨[.p 14 0,.p 17 0],_,[],Lr 18,[39]⟩ :: ⟨[.p 9 0,.p 14 0,.p 18 0],_,[],Lr 19,[40]⟩ :: ⟨[.p 9 0,.p 19 0],_,[],Lr 20,[41]⟩ :: ⟨[.p 20 0],_,[],Lr 21,[42]⟩ :: ⟨[.p 21 0,.o 0],_,[],Lr 22,[43]⟩ :: ⟨[.p 21 0,.p 22 0],_,[],Lr 23,[44]⟩ :: ⟨[.p 21 0,.p 23 0],_,[],Lr 24,[45]⟩ :: ⟨[.p 21 0,.p 24 0],_,[],Lr 25,[46]⟩ :: ⟨[.p 21 0,.p 25 0],_,[],Lr 26,[47]⟩ :: ⟨[.p 26 0,.o 0],_,[],Lr 27,[48]⟩ :: ⟨[.p 26 0,.p 27 0],_,[],Lr 28,[49]⟩ :: ⟨[.p 26 0,.p 28 0],_,[],Lr 29,[50]⟩ :: ⟨[.p 21 0,.p 26 0,.p 29 0],_,[],Lr 30,[51]⟩ :: ⟨[.p 21 0,.p 30 0],_,[],Lr 31,[52]⟩ :: []) (F:=[.o 0,.p 31 0]) (hst.pick [0] rfl) hb Zb
    (Qf rfl Zch u_0<|Ql rfl ty_3 u_0<|o_p rfl (Zr Zyc (Zjl _ _ h4) rfl rfl (.cons u_0 (.cons c_i .nil)))<|Qn rfl u_0<|Qm rfl u_0<|o_g (Qg_t rfl (fun hG=>Zj Zcq rfl rfl u_0))<|o_g (Qg_t rfl (fun hG=>Zs ty_2 rfl rfl (Opd.gd hG u_0)))<|o_g (Qg_t rfl (fun hG=>Zdq rfl rfl (Opd.gd hG u_0) c_i))<|o_p rfl (Zbe rfl rfl u_0 (fun hz=>(Opd.gd hz u_1)))<|Qm rfl u_0<|o_g (Qg_f rfl (fun hG=>Zj Zch rfl rfl u_0))<|o_g (Qg_f rfl (fun hG=>Zs ty_3 rfl rfl (Opd.gd hG u_0)))<|o_g (Qg_f rfl (fun hG=>Zr Zyc (Zjl _ _ (Zbq h6 hG)) rfl rfl (.cons (Opd.gd hG u_0) (.cons c_i .nil))))<|o_g (Qg_f rfl (fun hG=>Zem rfl rfl (Opd.gd hG u_0)))<|o_g (Qg_f rfl (fun hG=>Zy rfl rfl (Opd.gd hG u_0)))<|o_g (Qg_ti rfl (fun hG=>Zj Zg8 rfl rfl u_0))<|o_g (Qg_ti rfl (fun hG=>Zs Zb8 rfl rfl (Opd.gd hG u_0)))<|o_g (Qg_ti rfl (fun hG=>Zr Zqd (Ze5 _ _ (Zbq h8 hG)) rfl rfl (.cons (Opd.gd hG u_0) (.cons c_f .nil))))<|o_g (Qg_ti rfl (fun hG=>Zem rfl rfl (Opd.gd hG u_0)))<|o_g (Qg_f rfl (fun hG=>Zbe rfl rfl (Opd.gd hG u_0) (fun hz=>(Opd.gd (bA hG hz) u_1))))<|o_p rfl (Zbl rfl rfl u_0 (fun hz=>(Opd.gd (bNF hz) u_1)))<|Qm rfl u_0<|o_g (Qg_f rfl (fun hG=>Zj Zch rfl rfl u_0))<|o_g (Qg_f rfl (fun hG=>Zs ty_3 rfl rfl (Opd.gd hG u_0)))<|o_g (Qg_f rfl (fun hG=>Zr Zyc (Zjl _ _ (Zbq h10 hG)) rfl rfl (.cons (Opd.gd hG u_0) (.cons c_i .nil))))<|o_g (Qg_f rfl (fun hG=>Zem rfl rfl (Opd.gd hG u_0)))<|o_g (Qg_f rfl (fun hG=>Zy rfl rfl (Opd.gd hG u_0)))<|o_g (Qg_ti rfl (fun hG=>Zj Zea rfl rfl u_0))<|o_g (Qg_ti rfl (fun hG=>Zs ty_9 rfl rfl (Opd.gd hG u_0)))<|o_g (Qg_ti rfl (fun hG=>Zpl rfl rfl (Opd.gd hG u_0) c_s))<|o_g (Qg_f rfl (fun hG=>Zbe rfl rfl (Opd.gd hG u_0) (fun hz=>(Opd.gd (bA hG hz) u_1))))<|o_p rfl (Zbl rfl rfl u_0 (fun hz=>(Opd.gd (bNF hz) u_1)))<|o_n) (fun a g hst hb=>?_)
   refine wp_cond_split (hst.bool 1 rfl) (fun hc11=>?_) (fun hc11=>?_)
   ·replace H0:=Zn hc11 H0
    refine r_s (L:=[]) (T:=[⟨[],_,[],[],[2]⟩]) (F:=[.p 0 0]) (hst.pick [] rfl) hb Zb
     (Qa rfl c_i<|o_n) (fun a g hst hb=>?_)
    refine wp_ret ?_
    refine Zk ?_
    obtain rfl:=Option.some.inj H0
    exact Zz rfl hst hb (Zg (s:=2)) (hst.at 0 rfl)
   ·replace H0:=Zo hc11 H0
    refine wp_skip ?_
    refine Zm ?_
    refine wp_seq ?_
    obtain ⟨r12,h13,H0⟩:=Zf H0
    refine r_s (L:=[(1,_)]) (T:=[⟨[.o 0],_,[],[],[53]⟩,⟨[.p 0 0],_,[],[0],[54]⟩,⟨[.p 1 0],_,[],[0,1],[55]⟩,⟨[.p 2 0],_,[],[0,1,2],[56]⟩,⟨[.p 3 0,.o 0],_,[],Lr 4,[57]⟩,⟨[.p 3 0,.p 4 0],_,[],Lr 5,[58]⟩,⟨[.p 3 0],_,[],Lr 4,[59]⟩,⟨[.p 3 0,.p 5 0,.p 6 0],_,[],Lr 7,[60]⟩,⟨[.p 3 0,.p 7 0],_,[],Lr 8,[61]⟩,⟨[.p 3 0,.p 8 0],_,[],Lr 9,[62]⟩]) (F:=[.o 0,.p 9 0]) (hst.pick [0] rfl) hb Zb
     (Qf rfl Zch u_0<|Ql rfl ty_3 u_0<|o_p rfl (Zdq rfl rfl u_0 c_i)<|Qm rfl u_0<|o_g (Qg_t rfl (fun hG=>Zj Zk3 rfl rfl u_0))<|o_g (Qg_t rfl (fun hG=>Zs Z0 rfl rfl (Opd.gd hG u_0)))<|o_g (Qg_t rfl (fun hG=>Zlk rfl rfl ))<|o_g (Qg_t rfl (fun hG=>Zr Zzc (Zi9 _ _ (Zbq h13 hG)) rfl rfl (.cons (Opd.gd hG u_0) (.cons (Opd.gd hG u_1) .nil))))<|o_g (Qg_t rfl (fun hG=>Zem rfl rfl (Opd.gd hG u_0)))<|o_p rfl (Zbe rfl rfl u_0 (fun hz=>(Opd.gd hz u_1)))<|o_n) (fun a g hst hb=>?_)
    refine wp_cond_split (hst.bool 1 rfl) (fun hc14=>?_) (fun hc14=>?_)
    ·replace H0:=Zn hc14 H0
     refine r_s (L:=[]) (T:=[⟨[],_,[],[],[2]⟩]) (F:=[.p 0 0]) (hst.pick [] rfl) hb Zb
      (Qa rfl c_i<|o_n) (fun a g hst hb=>?_)
     refine wp_ret ?_
     refine Zk ?_
     obtain rfl:=Option.some.inj H0
     exact Zz rfl hst hb (Zg (s:=2)) (hst.at 0 rfl)
    ·replace H0:=Zo hc14 H0
     refine wp_skip ?_
     refine Zm ?_
     refine wp_seq ?_
     obtain ⟨r15,h16,H0⟩:=Zf H0;obtain ⟨r17,h18,H0⟩:=Zf H0
     refine r_s (L:=[(1,_)]) (T:=⟨[.o 0],_,[],[],[63]⟩ :: ⟨[.p 0 0],_,[],[0],[64]⟩ :: ⟨[.p 1 0],_,[],[0,1],[65]⟩ :: ⟨[.p 2 0],_,[],[0,1,2],[66]⟩ :: ⟨[.p 3 0],_,[],Lr 4,[67]⟩ :: ⟨[.p 4 0,.o 0],_,[],Lr 5,[68]⟩ :: ⟨[.p 4 0,.p 5 0],_,[],Lr 6,[69]⟩ :: ⟨[.p 4 0,.p 6 0],_,[],Lr 7,[70]⟩ :: ⟨[.p 4 0,.p 7 0],_,[],Lr 8,[71]⟩ :: ⟨[.p 4 0,.p 8 0],_,[],Lr 9,[72]⟩ :: ⟨[.p 9 0],_,[],Lr 10,[73]⟩ :: ⟨[.p 10 0,.o 0],_,[],Lr 11,[74]⟩ :: ⟨[.p 10 0,.p 11 0],_,[],Lr 12,[75]⟩ :: ⟨[.p 10 0,.p 12 0],_,[],Lr 13,[76]⟩ :: ⟨[.p 10 0,.p 13 0],_,[],Lr 14,[77]⟩ :: ⟨[.p 10 0,.p 14 0],_,[],Lr 15,[78]⟩ :: ⟨[.p 15 0,.o 0],_,[],Lr 16,[79]⟩ :: ⟨[.p 15 0,.p 16 0],_,[],Lr 17,[80]⟩ :: ⟨[.p 15 0,.p 17 0],_,[],Lr 18,[81]⟩ :: ⟨[.p 15 0,.p 18 0],_,[],Lr 19,[82]⟩ :: ⟨[.p 10 0,.p 15 0,.p 19 0],_,[],Lr 20,[83]⟩ :: ⟨[.p 10 0,.p 20 0],_,[],Lr 21,[84]⟩ :: []) (F:=[.o 0,.p 21 0]) (hst.pick [0] rfl) hb Zb
      (Qf rfl Zch u_0<|Ql rfl ty_3 u_0<|o_p rfl (Zr Zx9 (Zj6 _ h16) rfl rfl (.cons u_0 .nil))<|o_p rfl (Z8 rfl rfl u_0 c_i)<|Qm rfl u_0<|o_g (Qg_t rfl (fun hG=>Zj Zea rfl rfl u_0))<|o_g (Qg_t rfl (fun hG=>Zs ty_9 rfl rfl (Opd.gd hG u_0)))<|o_g (Qg_t rfl (fun hG=>Zff Tryd.underlying9 rfl rfl (Opd.gd hG u_0)))<|o_g (Qg_t rfl (fun hG=>Zcf rfl rfl (Opd.gd hG u_0) c_i))<|o_p rfl (Zbe rfl rfl u_0 (fun hz=>(Opd.gd hz u_1)))<|Qm rfl u_0<|o_g (Qg_f rfl (fun hG=>Zj Zch rfl rfl u_0))<|o_g (Qg_f rfl (fun hG=>Zs ty_3 rfl rfl (Opd.gd hG u_0)))<|o_g (Qg_f rfl (fun hG=>Zr Zx9 (Zj6 _ (Zbq h18 hG)) rfl rfl (.cons (Opd.gd hG u_0) .nil)))<|o_g (Qg_f rfl (fun hG=>Zdq rfl rfl (Opd.gd hG u_0) c_i))<|o_g (Qg_f rfl (fun hG=>Zy rfl rfl (Opd.gd hG u_0)))<|o_g (Qg_ti rfl (fun hG=>Zj Zea rfl rfl u_0))<|o_g (Qg_ti rfl (fun hG=>Zs ty_9 rfl rfl (Opd.gd hG u_0)))<|o_g (Qg_ti rfl (fun hG=>Zff Tryd.underlying9 rfl rfl (Opd.gd hG u_0)))<|o_g (Qg_ti rfl (fun hG=>Zcf rfl rfl (Opd.gd hG u_0) c_i))<|o_g (Qg_f rfl (fun hG=>Zbe rfl rfl (Opd.gd hG u_0) (fun hz=>(Opd.gd (bA hG hz) u_1))))<|o_p rfl (Zbl rfl rfl u_0 (fun hz=>(Opd.gd (bNF hz) u_1)))<|o_n) (fun a g hst hb=>?_)
     refine wp_cond_split (hst.bool 1 rfl) (fun hc19=>?_) (fun hc19=>?_)
     ·replace H0:=Zn hc19 H0
      refine r_s (L:=[]) (T:=[⟨[],_,[],[],[2]⟩]) (F:=[.p 0 0]) (hst.pick [] rfl) hb Zb
       (Qa rfl c_i<|o_n) (fun a g hst hb=>?_)
      refine wp_ret ?_
      refine Zk ?_
      obtain rfl:=Option.some.inj H0
      exact Zz rfl hst hb (Zg (s:=2)) (hst.at 0 rfl)
     ·replace H0:=Zo hc19 H0
      refine wp_skip ?_
      refine Zm ?_
      refine wp_seq ?_
      refine r_s (L:=[(1,_)]) (T:=⟨[.o 0],_,[],[],[85]⟩ :: ⟨[.p 0 0],_,[],[0],[86]⟩ :: ⟨[.p 1 0],_,[],[0,1],[87]⟩ :: ⟨[.p 2 0],_,[],[0,1,2],[88]⟩ :: ⟨[.p 3 0,.o 0],_,[],Lr 4,[89]⟩ :: ⟨[.p 3 0,.p 4 0],_,[],Lr 5,[90]⟩ :: ⟨[.p 3 0,.p 5 0],_,[],Lr 6,[91]⟩ :: ⟨[.p 3 0,.p 6 0],_,[],Lr 7,[92]⟩ :: ⟨[.p 7 0],_,[],Lr 8,[93]⟩ :: ⟨[.p 8 0,.o 0],_,[],Lr 9,[94]⟩ :: ⟨[.p 8 0,.p 9 0],_,[],Lr 10,[95]⟩ :: ⟨[.p 8 0,.p 10 0],_,[],Lr 11,[96]⟩ :: ⟨[.p 8 0,.p 11 0],_,[],Lr 12,[97]⟩ :: ⟨[.p 12 0,.o 0],_,[],Lr 13,[98]⟩ :: ⟨[.p 12 0,.p 13 0],_,[],Lr 14,[99]⟩ :: ⟨[.p 12 0,.p 14 0],_,[],Lr 15,[100]⟩ :: ⟨[.p 8 0,.p 12 0,.p 15 0],_,[],Lr 16,[101]⟩ :: ⟨[.p 8 0,.p 16 0],_,[],Lr 17,[102]⟩ :: []) (F:=[.o 0,.p 17 0]) (hst.pick [0] rfl) hb Zb
       (Qf rfl Zch u_0<|Ql rfl ty_3 u_0<|o_p rfl (Z8 rfl rfl u_0 c_i)<|Qm rfl u_0<|o_g (Qg_f rfl (fun hG=>Zj Zch rfl rfl u_0))<|o_g (Qg_f rfl (fun hG=>Zs ty_3 rfl rfl (Opd.gd hG u_0)))<|o_g (Qg_f rfl (fun hG=>Z8 rfl rfl (Opd.gd hG u_0) c_i))<|o_p rfl (Zbl rfl rfl u_0 (fun hz=>(Opd.gd (bNF hz) u_1)))<|Qm rfl u_0<|o_g (Qg_t rfl (fun hG=>Zj Zcq rfl rfl u_0))<|o_g (Qg_t rfl (fun hG=>Zs ty_2 rfl rfl (Opd.gd hG u_0)))<|o_g (Qg_t rfl (fun hG=>Zb6 rfl rfl (Opd.gd hG u_0) c_i))<|o_g (Qg_t rfl (fun hG=>Zy rfl rfl (Opd.gd hG u_0)))<|o_g (Qg_fi rfl (fun hG=>Zj Zcq rfl rfl u_0))<|o_g (Qg_fi rfl (fun hG=>Zs ty_2 rfl rfl (Opd.gd hG u_0)))<|o_g (Qg_fi rfl (fun hG=>Zcf rfl rfl (Opd.gd hG u_0) c_i))<|o_g (Qg_t rfl (fun hG=>Zbl rfl rfl (Opd.gd hG u_0) (fun hz=>(Opd.gd (bA hG (bNF hz)) u_1))))<|o_p rfl (Zbe rfl rfl u_0 (fun hz=>(Opd.gd hz u_1)))<|o_n) (fun a g hst hb=>?_)
      refine wp_cond_split (hst.bool 1 rfl) (fun hc20=>?_) (fun hc20=>?_)
      ·replace H0:=Zn hc20 H0
       refine r_s (L:=[]) (T:=[⟨[],_,[],[],[2]⟩]) (F:=[.p 0 0]) (hst.pick [] rfl) hb Zb
        (Qa rfl c_i<|o_n) (fun a g hst hb=>?_)
       refine wp_ret ?_
       refine Zk ?_
       obtain rfl:=Option.some.inj H0
       exact Zz rfl hst hb (Zg (s:=2)) (hst.at 0 rfl)
      ·replace H0:=Zo hc20 H0
       refine wp_skip ?_
       refine Zm ?_
       refine wp_seq ?_
       obtain ⟨r21,h22,H0⟩:=Zf H0
       refine r_s (L:=[(1,_)]) (T:=[⟨[.o 0],_,[],[],[103]⟩,⟨[.p 0 0],_,[],[0],[104]⟩,⟨[.p 1 0],_,[],[0,1],[105]⟩,⟨[.p 2 0],_,[],[0,1,2],[106]⟩]) (F:=[.o 0,.p 3 0]) (hst.pick [0] rfl) hb Zb
        (Qf rfl Zg8 u_0<|Ql rfl Zb8 u_0<|o_p rfl (Zr Zyt (Zig _ h22) rfl rfl (.cons u_0 .nil))<|Qn rfl u_0<|o_n) (fun a g hst hb=>?_)
       refine wp_cond_split (hst.bool 1 rfl) (fun hc23=>?_) (fun hc23=>?_)
       ·replace H0:=Zn hc23 H0
        refine r_s (L:=[]) (T:=[⟨[],_,[],[],[2]⟩]) (F:=[.p 0 0]) (hst.pick [] rfl) hb Zb
         (Qa rfl c_i<|o_n) (fun a g hst hb=>?_)
        refine wp_ret ?_
        refine Zk ?_
        obtain rfl:=Option.some.inj H0
        exact Zz rfl hst hb (Zg (s:=2)) (hst.at 0 rfl)
       ·replace H0:=Zo hc23 H0
        refine wp_skip ?_
        refine Zm ?_
        refine wp_seq ?_
        refine r_s (L:=[(1,_)]) (T:=[⟨[.o 0],_,[],[],[107]⟩,⟨[.p 0 0],_,[],[0],[108]⟩,⟨[.p 1 0],_,[],[0,1],[109]⟩]) (F:=[.o 0,.p 2 0]) (hst.pick [0] rfl) hb Zb
         (Qf rfl Zch u_0<|Ql rfl ty_3 u_0<|o_p rfl (Z8 rfl rfl u_0 c_i)<|o_n) (fun a g hst hb=>?_)
        refine wp_cond_split (hst.bool 1 rfl) (fun hc24=>?_) (fun hc24=>?_)
        ·replace H0:=Zn hc24 H0
         obtain ⟨r25,h26,H0⟩:=Zf H0
         refine r_s (L:=[(1,_)]) (T:=[⟨[.o 0],_,[],[],[110]⟩,⟨[.p 0 0],_,[],[0],[111]⟩,⟨[.p 1 0],_,[],[0,1],[112]⟩,⟨[.p 2 0],_,[],[0,1,2],[2]⟩]) (F:=[.p 3 0]) (hst.pick [0] rfl) hb Zb
          (Qf rfl Zk3 u_0<|Ql rfl Z0 u_0<|o_p rfl (Zr Zy8 (Zis _ h26) rfl rfl (.cons u_0 .nil))<|Qa rfl u_0<|o_n) (fun a g hst hb=>?_)
         refine wp_ret ?_
         refine Zk ?_
         obtain rfl:=Option.some.inj H0
         exact Zz rfl hst hb (Zg (s:=2)) (hst.at 0 rfl)
        ·replace H0:=Zo hc24 H0
         refine wp_skip ?_
         refine Zm ?_
         refine r_s (L:=[]) (T:=[⟨[],_,[],[],[2]⟩]) (F:=[.p 0 0]) (hst.pick [] rfl) hb Zb
          (Qa rfl c_i<|o_n) (fun a g hst hb=>?_)
         refine wp_ret ?_
         obtain rfl:=Option.some.inj H0
         exact Zz rfl hst hb (Zg (s:=2)) (hst.at 0 rfl)
theorem Zgt (a0:Za) {r:Za} (h:Zd2 a0=some r):FnOk Tryd.prog 69 [(Zc.pd a0)] (Zc.pd r):=by
 have H0:=h
 unfold Zd2 at H0
 clear h
 refine Zbt (N:=9) Tryd.func69 rfl rfl (Qe rfl) rfl rfl (fun a g0 hst hb=>?_)
 refine r_s (T:=[⟨[.o 0],_,[2],[],[1]⟩,⟨[],[(2,(pBox Zc 2 (default:Za)))],[3],[],[2]⟩]) (F:=[.p 0 0,.p 1 0]) hst hb Zb
  (o_p rfl (Zj0 rfl rfl u_0)<|o_p rfl (Zbm (zs:=[.int .i64 0,.int .i64 0,.int .i64 0,.int .i64 0,.float .f64 0,.int .i64 0,.string ByteArray.empty,.slice none 0 0]) (by kernel_rfl) (fun g=>Zbr g) rfl rfl)<|o_n) (fun a g hst hb=>?_)
 obtain ⟨h1,H0⟩:=Zg2 H0
 refine r_s (T:=[⟨[],_,[4],[],[3]⟩,⟨[.o 0],_,[],[],[4]⟩,⟨[.p 1 0],_,[],[1],[5]⟩,⟨[.p 0 0,.p 2 0],_,[4],[0,1,2],[3,6]⟩,⟨[.o 0],_,[],Lr 4,[7]⟩,⟨[.p 3 0,.p 4 0,.o 0],_,[2],Lr 5,[1,4,7]⟩]) (F:=[.p 5 0,.o 1]) hst hb Zb
  (o_p rfl (Zm4 3 Zcx (xs:=[]) .nil (by decide) rfl rfl)<|o_p rfl (Zh Zbw (off:=7) (by kernel_rfl) rfl rfl u_0)<|QP rfl Zcg u_0<|o_p rfl (Zjh Zcx rfl rfl u_0 u_1 h1)<|o_p rfl (Zh Zbw (off:=7) (by kernel_rfl) rfl rfl u_0)<|o_p rfl (Zkl Zcg rfl rfl u_2 u_1 (Opd.imp u_0 (fun _ _ h=>Zlr h)))<|o_n) (fun a g hst hb=>?_)
 refine r_s (T:=[⟨[.o 0],_,[],[],[8]⟩,⟨[.p 0 0,.o 1],_,[3],[0],[2]⟩]) (F:=[.p 1 0]) hst hb Zb
  (QM rfl Z0 u_0<|o_p rfl (Z6 Z0 rfl rfl u_1 u_0)<|o_n) (fun a g hst hb=>?_)
 refine wp_ret ?_
 obtain rfl:=Option.some.inj H0
 obtain ⟨u0,hu0,hq0⟩:=Zbh (P:=Tryd.prog) Z0 (hst.at 0 rfl)
 exact Zz rfl hst hb hu0 hq0
theorem Zo9 (a0:Nat) (a1:Nat) {r:Nat} (h:Zfk a0 a1=some r):FnOk Tryd.prog 42 [(pFlt a0),(pFlt a1)] (pFlt r):=by
 have H0:=h
 unfold Zfk at H0
 clear h
 refine Zbt (N:=10) Tryd.func42 rfl rfl (Qe rfl) rfl rfl (fun a g0 hst hb=>?_)
 refine r_s (T:=[⟨[],_,[],[],[4]⟩]) (F:=[.o 0,.o 1]) hst hb Zb
  (Qa rfl c_f<|o_n) (fun a g hst hb=>?_)
 refine wp_seq ?_
 obtain ⟨r1,h2,H0⟩:=Zf H0
 refine r_s (T:=[⟨[.o 0],_,[],[],[5]⟩,⟨[.o 1],_,[],[],[6]⟩,⟨[.p 0 0,.p 1 0],_,[],[0,1],[7]⟩]) (F:=[.o 0,.o 1,.p 2 0]) hst hb Zb
  (Qm rfl u_0<|Qm rfl u_0<|o_p rfl (Zr Zsd (Zf0 _ _ h2) rfl rfl (.cons u_0 (.cons u_1 .nil)))<|o_n) (fun a g hst hb=>?_)
 refine wp_cond_split (hst.bool 2 rfl) (fun hc3=>?_) (fun hc3=>?_)
 ·replace H0:=Zn hc3 H0
  refine r_s (L:=[(1,_)]) (T:=[⟨[.o 0],_,[],[],[8]⟩,⟨[.p 0 0],_,[],[0],[4]⟩]) (F:=[.p 1 0]) (hst.pick [1] rfl) hb Zb
   (Qm rfl u_0<|Qa rfl u_0<|o_n) (fun a g hst hb=>?_)
  refine wp_ret ?_
  refine Zk ?_
  obtain rfl:=Option.some.inj H0
  exact Zz rfl hst hb (Zg (s:=4)) (hst.at 0 rfl)
 ·replace H0:=Zo hc3 H0
  refine wp_skip ?_
  refine Zm ?_
  refine r_s (L:=[(0,_)]) (T:=[⟨[.o 0],_,[],[],[9]⟩,⟨[.p 0 0],_,[],[0],[4]⟩]) (F:=[.p 1 0]) (hst.pick [0] rfl) hb Zb
   (Qm rfl u_0<|Qa rfl u_0<|o_n) (fun a g hst hb=>?_)
  refine wp_ret ?_
  obtain rfl:=Option.some.inj H0
  exact Zz rfl hst hb (Zg (s:=4)) (hst.at 0 rfl)
theorem Zpf (a0:Nat) (a1:Nat) {r:Nat} (h:Zfl a0 a1=some r):FnOk Tryd.prog 43 [(pFlt a0),(pFlt a1)] (pFlt r):=by
 have H0:=h
 unfold Zfl at H0
 clear h
 refine Zbt (N:=10) Tryd.func43 rfl rfl (Qe rfl) rfl rfl (fun a g0 hst hb=>?_)
 refine r_s (T:=[⟨[],_,[],[],[4]⟩]) (F:=[.o 0,.o 1]) hst hb Zb
  (Qa rfl c_f<|o_n) (fun a g hst hb=>?_)
 refine wp_seq ?_
 obtain ⟨r1,h2,H0⟩:=Zf H0
 refine r_s (T:=[⟨[.o 1],_,[],[],[5]⟩,⟨[.o 0],_,[],[],[6]⟩,⟨[.p 0 0,.p 1 0],_,[],[0,1],[7]⟩]) (F:=[.o 0,.o 1,.p 2 0]) hst hb Zb
  (Qm rfl u_0<|Qm rfl u_0<|o_p rfl (Zr Zsd (Zf0 _ _ h2) rfl rfl (.cons u_0 (.cons u_1 .nil)))<|o_n) (fun a g hst hb=>?_)
 refine wp_cond_split (hst.bool 2 rfl) (fun hc3=>?_) (fun hc3=>?_)
 ·replace H0:=Zn hc3 H0
  refine r_s (L:=[(1,_)]) (T:=[⟨[.o 0],_,[],[],[8]⟩,⟨[.p 0 0],_,[],[0],[4]⟩]) (F:=[.p 1 0]) (hst.pick [1] rfl) hb Zb
   (Qm rfl u_0<|Qa rfl u_0<|o_n) (fun a g hst hb=>?_)
  refine wp_ret ?_
  refine Zk ?_
  obtain rfl:=Option.some.inj H0
  exact Zz rfl hst hb (Zg (s:=4)) (hst.at 0 rfl)
 ·replace H0:=Zo hc3 H0
  refine wp_skip ?_
  refine Zm ?_
  refine r_s (L:=[(0,_)]) (T:=[⟨[.o 0],_,[],[],[9]⟩,⟨[.p 0 0],_,[],[0],[4]⟩]) (F:=[.p 1 0]) (hst.pick [0] rfl) hb Zb
   (Qm rfl u_0<|Qa rfl u_0<|o_n) (fun a g hst hb=>?_)
  refine wp_ret ?_
  obtain rfl:=Option.some.inj H0
  exact Zz rfl hst hb (Zg (s:=4)) (hst.at 0 rfl)
theorem Zo4 (a0:Int) (a1:Int) {r:Bool} (h:Zfe a0 a1=some r):FnOk Tryd.prog 99 [(pInt .i64 a0),(pInt .i64 a1)] (Zba r):=by
 have H0:=h
 unfold Zfe at H0
 clear h
 refine Zbt (N:=31) Tryd.func99 rfl rfl (Qe rfl) rfl rfl (fun a g0 hst hb=>?_)
 refine r_s (T:=[⟨[],_,[],[],[4]⟩]) (F:=[.o 0,.o 1]) hst hb Zb
  (Qa rfl c_b<|o_n) (fun a g hst hb=>?_)
 refine r_s (T:=[⟨[.o 0],_,[],[],[6]⟩,⟨[.o 1],_,[],[],[7]⟩,⟨[.p 0 0,.p 1 0],_,[],[0,1],[8]⟩,⟨[.p 2 0],_,[],[0,1,2],[5]⟩]) (F:=[.o 0,.o 1,.p 3 0]) hst hb Zb
  (Qm rfl u_0<|Qm rfl u_0<|o_p rfl (Zca rfl rfl u_0 u_1 rfl)<|Qa rfl u_0<|o_n) (fun a g hst hb=>?_)
 refine r_s (T:=⟨[.o 0],_,[],[],[9]⟩ :: ⟨[.p 0 0],_,[],[0],[10]⟩ :: ⟨[.p 1 0],_,[],[0,1],[11]⟩ :: ⟨[.p 2 0,.o 1],_,[],[0,1,2],[12]⟩ :: ⟨[.p 2 0,.p 3 0],_,[],Lr 4,[13]⟩ :: ⟨[.p 2 0,.p 4 0],_,[],Lr 5,[14]⟩ :: ⟨[.p 5 0],_,[],Lr 6,[15]⟩ :: ⟨[.p 6 0,.o 2],_,[],Lr 7,[16]⟩ :: ⟨[.p 6 0,.p 7 0],_,[],Lr 8,[17]⟩ :: ⟨[.p 6 0,.p 8 0],_,[],Lr 9,[18]⟩ :: ⟨[.p 9 0],_,[],Lr 10,[19]⟩ :: ⟨[.p 10 0,.o 0],_,[],Lr 11,[20]⟩ :: ⟨[.p 10 0,.p 11 0],_,[],Lr 12,[21]⟩ :: ⟨[.p 10 0,.p 12 0],_,[],Lr 13,[22]⟩ :: ⟨[.p 13 0,.o 1],_,[],Lr 14,[23]⟩ :: ⟨[.p 13 0,.p 14 0],_,[],Lr 15,[24]⟩ :: ⟨[.p 10 0,.p 13 0,.p 15 0],_,[],Lr 16,[25]⟩ :: ⟨[.p 10 0,.p 16 0],_,[],Lr 17,[26]⟩ :: ⟨[.p 17 0,.o 2],_,[],Lr 18,[27]⟩ :: ⟨[.p 17 0,.p 18 0],_,[],Lr 19,[28]⟩ :: ⟨[.p 10 0,.p 17 0,.p 19 0],_,[],Lr 20,[29]⟩ :: ⟨[.p 10 0,.p 20 0],_,[],Lr 21,[30]⟩ :: ⟨[.p 21 0],_,[],Lr 22,[4]⟩ :: []) (F:=[.p 22 0]) hst hb Zb
  (Qm rfl u_0<|o_p rfl (Zcf rfl rfl u_0 c_i)<|Qm rfl u_0<|o_g (Qg_t rfl (fun hG=>Zy rfl rfl u_0))<|o_g (Qg_t rfl (fun hG=>Zcf rfl rfl (Opd.gd hG u_0) c_i))<|o_p rfl (Zbe rfl rfl u_0 (fun hz=>(Opd.gd hz u_1)))<|Qm rfl u_0<|o_g (Qg_t rfl (fun hG=>Zy rfl rfl u_0))<|o_g (Qg_t rfl (fun hG=>Zb6 rfl rfl (Opd.gd hG u_0) c_i))<|o_p rfl (Zbe rfl rfl u_0 (fun hz=>(Opd.gd hz u_1)))<|Qm rfl u_0<|o_g (Qg_f rfl (fun hG=>Zy rfl rfl u_0))<|o_g (Qg_f rfl (fun hG=>Zb6 rfl rfl (Opd.gd hG u_0) c_i))<|o_g (Qg_f rfl (fun hG=>Zy rfl rfl (Opd.gd hG u_0)))<|o_g (Qg_ti rfl (fun hG=>Zy rfl rfl u_0))<|o_g (Qg_ti rfl (fun hG=>Zb6 rfl rfl (Opd.gd hG u_0) c_i))<|o_g (Qg_f rfl (fun hG=>Zbe rfl rfl (Opd.gd hG u_0) (fun hz=>(Opd.gd (bA hG hz) u_1))))<|o_g (Qg_f rfl (fun hG=>Zy rfl rfl (Opd.gd hG u_0)))<|o_g (Qg_ti rfl (fun hG=>Zy rfl rfl u_0))<|o_g (Qg_ti rfl (fun hG=>Zkz rfl rfl (Opd.gd hG u_0) c_i))<|o_g (Qg_f rfl (fun hG=>Zbe rfl rfl (Opd.gd hG u_0) (fun hz=>(Opd.gd (bA hG hz) u_1))))<|o_p rfl (Zbl rfl rfl u_0 (fun hz=>(Opd.gd (bNF hz) u_1)))<|Qa rfl u_0<|o_n) (fun a g hst hb=>?_)
 refine wp_ret ?_
 obtain rfl:=Option.some.inj H0
 exact Zz rfl hst hb (Zg (s:=4)) (hst.at 0 rfl)
theorem Zkj (a0:Int) {r:Nat} (h:Zd5 a0=some r):FnOk Tryd.prog 100 [(pInt .u64 a0)] (pFlt r):=by
 have H0:=h
 unfold Zd5 at H0
 clear h
 refine Zbt (N:=18) Tryd.func100 rfl rfl (Qe rfl) rfl rfl (fun a g0 hst hb=>?_)
 refine r_s (T:=[⟨[],_,[],[],[2]⟩]) (F:=[.o 0]) hst hb Zb
  (Qa rfl c_f<|o_n) (fun a g hst hb=>?_)
 refine r_s (T:=[⟨[],_,[],[],[3]⟩]) (F:=[.o 0,.p 0 0]) hst hb Zb
  (Qa rfl c_i<|o_n) (fun a g hst hb=>?_)
 refine wp_seq ?_
 refine r_s (T:=[⟨[.o 0],_,[],[],[4]⟩,⟨[.o 1],_,[],[],[5]⟩,⟨[.p 0 0,.p 1 0],_,[],[0,1],[6]⟩]) (F:=[.o 0,.o 1,.p 2 0]) hst hb Zb
  (Qm rfl u_0<|Qm rfl u_0<|o_p rfl (Zkz rfl rfl u_0 u_1)<|o_n) (fun a g hst hb=>?_)
 refine wp_cond_split (hst.bool 2 rfl) (fun hc1=>?_) (fun hc1=>?_)
 ·replace H0:=Zn hc1 H0
  refine r_s (L:=[(0,_),(3,_)]) (T:=[⟨[.o 0],_,[],[],[7]⟩,⟨[.o 1],_,[],[],[8]⟩,⟨[.p 0 0,.p 1 0],_,[],[0,1],[9]⟩,⟨[.p 2 0],_,[],[0,1,2],[10]⟩,⟨[.p 3 0],_,[],Lr 4,[2]⟩]) (F:=[.p 4 0]) (hst.pick [0,1] rfl) hb Zb
   (Qm rfl u_0<|Qm rfl u_0<|o_p rfl (Zd7 rfl rfl u_0 u_1 rfl)<|o_p rfl (Zlf Zuu rfl rfl u_0)<|Qa rfl u_0<|o_n) (fun a g hst hb=>?_)
  refine wp_ret ?_
  refine Zk ?_
  obtain rfl:=Option.some.inj H0
  exact Zz rfl hst hb (Zg (s:=2)) (hst.at 0 rfl)
 ·replace H0:=Zo hc1 H0
  refine wp_skip ?_
  refine Zm ?_
  refine r_s (L:=[(0,_),(3,_)]) (T:=[⟨[.o 1],_,[],[],[11]⟩,⟨[.o 1],_,[],[],[12]⟩,⟨[.p 1 0],_,[],[1],[13]⟩,⟨[.o 0],_,[],[],[14]⟩,⟨[.p 2 0,.p 3 0],_,[],[1,2,3],[15]⟩,⟨[.p 0 0,.p 4 0],_,[],Lr 5,[16]⟩,⟨[.p 5 0],_,[],Lr 6,[17]⟩,⟨[.p 6 0],_,[],Lr 7,[2]⟩]) (F:=[.p 7 0]) (hst.pick [0,1] rfl) hb Zb
   (Qm rfl u_0<|Qm rfl u_0<|o_p rfl (Zd7 rfl rfl u_0 c_i rfl)<|Qm rfl u_0<|o_p rfl (Zd7 rfl rfl u_0 u_1 rfl)<|o_p rfl (Zca rfl rfl u_0 u_1 rfl)<|o_p rfl (Zlf Zuu rfl rfl u_0)<|Qa rfl u_0<|o_n) (fun a g hst hb=>?_)
  refine wp_ret ?_
  obtain rfl:=Option.some.inj H0
  exact Zz rfl hst hb (Zg (s:=2)) (hst.at 0 rfl)
theorem Zkw (a0:Nat) {r:Int} (h:Zed a0=some r):FnOk Tryd.prog 101 [(pFlt a0)] (pInt .u64 r):=by
 have H0:=h
 unfold Zed at H0
 clear h
 refine Zbt (N:=23) Tryd.func101 rfl rfl (Qe rfl) rfl rfl (fun a g0 hst hb=>?_)
 refine r_s (T:=[⟨[],_,[],[],[2]⟩]) (F:=[.o 0]) hst hb Zb
  (Qa rfl c_i<|o_n) (fun a g hst hb=>?_)
 refine r_s (T:=[⟨[],_,[],[],[3]⟩]) (F:=[.o 0,.p 0 0]) hst hb Zb
  (Qa rfl c_i<|o_n) (fun a g hst hb=>?_)
 refine wp_seq ?_
 obtain ⟨r1,h2,H0⟩:=Zf H0
 refine r_s (T:=[⟨[.o 0],_,[],[],[5]⟩,⟨[.p 0 0],_,[],[0],[6]⟩]) (F:=[.o 0,.o 1,.p 1 0]) hst hb Zb
  (Qm rfl u_0<|o_p rfl (Zr Zui (Zhl _ h2) rfl rfl (.cons u_0 .nil))<|o_n) (fun a g hst hb=>?_)
 refine wp_cond_split (hst.bool 2 rfl) (fun hc3=>?_) (fun hc3=>?_)
 ·replace H0:=Zn hc3 H0
  refine r_s (L:=[(3,_)]) (T:=[⟨[.o 0],_,[],[],[7]⟩,⟨[.p 0 0],_,[],[0],[8]⟩,⟨[.p 1 0],_,[],[0,1],[2]⟩]) (F:=[.p 2 0]) (hst.pick [1] rfl) hb Zb
   (Qm rfl u_0<|o_p rfl (Zca rfl rfl u_0 c_i rfl)<|Qa rfl u_0<|o_n) (fun a g hst hb=>?_)
  refine wp_ret ?_
  refine Zk ?_
  obtain rfl:=Option.some.inj H0
  exact Zz rfl hst hb (Zg (s:=2)) (hst.at 0 rfl)
 ·replace H0:=Zo hc3 H0
  refine wp_skip ?_
  refine Zm ?_
  refine r_s (L:=[(0,_),(3,_)]) (T:=[⟨[.o 0],_,[],[],[9]⟩,⟨[.p 0 0],_,[],[0],[10]⟩,⟨[.p 1 0],_,[],[0,1],[4]⟩]) (F:=[.o 1,.p 2 0]) (hst.pick [0,1] rfl) hb Zb
   (Qm rfl u_0<|o_p rfl (Znw Zsa rfl rfl u_0)<|Qa rfl u_0<|o_n) (fun a g hst hb=>?_)
  refine wp_seq ?_
  refine r_s (T:=[⟨[.o 1],_,[],[],[11]⟩,⟨[.o 0],_,[],[],[12]⟩,⟨[.p 0 0,.p 1 0],_,[],[0,1],[13]⟩]) (F:=[.o 0,.o 1,.p 2 0]) hst hb Zb
   (Qm rfl u_0<|Qm rfl u_0<|o_p rfl (Zkz rfl rfl u_0 u_1)<|o_n) (fun a g hst hb=>?_)
  refine wp_cond_split (hst.bool 2 rfl) (fun hc4=>?_) (fun hc4=>?_)
  ·replace H0:=Zn hc4 H0
   refine r_s (L:=[(3,_),(4,_)]) (T:=[⟨[.o 0],_,[],[],[14]⟩,⟨[.p 0 0],_,[],[0],[15]⟩,⟨[.o 1],_,[],[],[16]⟩,⟨[.o 0],_,[],[],[17]⟩,⟨[.p 2 0,.p 3 0],_,[],[2,3],[18]⟩,⟨[.p 1 0,.p 4 0],_,[],Lr 5,[19]⟩,⟨[.p 5 0],_,[],Lr 6,[2]⟩]) (F:=[.p 6 0]) (hst.pick [0,1] rfl) hb Zb
    (Qm rfl u_0<|o_p rfl (Zd7 rfl rfl u_0 c_i rfl)<|Qm rfl u_0<|Qm rfl u_0<|o_p rfl (Zd7 rfl rfl u_0 u_1 rfl)<|o_p rfl (Zd7 rfl rfl u_0 u_1 rfl)<|Qa rfl u_0<|o_n) (fun a g hst hb=>?_)
   refine wp_ret ?_
   refine Zk ?_
   obtain rfl:=Option.some.inj H0
   exact Zz rfl hst hb (Zg (s:=2)) (hst.at 0 rfl)
  ·replace H0:=Zo hc4 H0
   refine wp_skip ?_
   refine Zm ?_
   refine r_s (L:=[(3,_),(4,_)]) (T:=[⟨[.o 0],_,[],[],[20]⟩,⟨[.o 1],_,[],[],[21]⟩,⟨[.p 0 0,.p 1 0],_,[],[0,1],[22]⟩,⟨[.p 2 0],_,[],[0,1,2],[2]⟩]) (F:=[.p 3 0]) (hst.pick [0,1] rfl) hb Zb
    (Qm rfl u_0<|Qm rfl u_0<|o_p rfl (Zca rfl rfl u_0 u_1 rfl)<|Qa rfl u_0<|o_n) (fun a g hst hb=>?_)
   refine wp_ret ?_
   obtain rfl:=Option.some.inj H0
   exact Zz rfl hst hb (Zg (s:=2)) (hst.at 0 rfl)
theorem Zlm (a0:List Zd) (a1:ByteArray) {r:Bool} (h:Zef a0 a1=some r):FnOk Tryd.prog 102 [(Zp.sl.pd a0),(pStr a1)] (Zba r):=by
 have H0:=h
 unfold Zef at H0
 clear h
 refine Zbt (N:=19) Tryd.func102 rfl rfl (Qe rfl) rfl rfl (fun a g0 hst hb=>?_)
 refine r_s (T:=[⟨[],_,[],[],[4]⟩]) (F:=[.o 0,.o 1]) hst hb Zb
  (Qa rfl c_b<|o_n) (fun a g hst hb=>?_)
 refine wp_seq ?_
 refine r_s (T:=[⟨[],_,[],[],[5]⟩]) (F:=[.o 0,.o 1,.p 0 0]) hst hb Zb
  (Qa rfl c_i<|o_n) (fun a g hst hb=>?_)
 obtain ⟨z6,hz1,H0⟩:=Zf H0
 refine Zbz (fun a w=>∃ (g:G),w=g.w ∧ St 19 [] a g ∧ Base g0 g ∧ (.inr ())=z6) ?_ ?_
 ·rintro a w ⟨g,rfl,hst,hb,rfl⟩
  refine Zm ?_
  refine r_s (T:=[⟨[],_,[],[],[4]⟩]) (F:=[.p 0 0]) hst hb Zb
   (Qa rfl c_b<|o_n) (fun a g hst hb=>?_)
  refine wp_ret ?_
  obtain rfl:=Option.some.inj H0
  exact Zz rfl hst hb (Zg (s:=4)) (hst.at 0 rfl)
 ·refine wp_block ?_
  refine wp_loop_ghost (fun n a w=>∃ (x1:Int) (g:G),w=g.w ∧ St 19 [(0,(Zp.sl.pd a0)),(1,(pStr a1)),(5,(pInt .i64 x1))] a g ∧ Base g0 g ∧ Zd4 a0 a1 n x1=some z6) (Int.toNat ((a0.length:Int) - (0:Int)) + 1) ⟨(0:Int),g,rfl,(hst.pick [0,1,2] rfl),hb,hz1⟩ (fun n a w hI=>?_)
  obtain ⟨x1,g,rfl,hst,hb,H1⟩:=hI
  cases n with
  | zero=>exact absurd H1 (by simp [Zd4])
  | succ n =>
   rw [Zd4] at H1
   refine wp_seq ?_
   refine r_s (T:=[⟨[.o 2],_,[],[],[6]⟩,⟨[.o 0],_,[],[],[7]⟩,⟨[.p 1 0],_,[],[1],[8]⟩,⟨[.p 0 0,.p 2 0],_,[],[0,1,2],[9]⟩]) (F:=[.o 0,.o 1,.o 2,.p 3 0]) hst hb Zb
    (Qm rfl u_0<|Qm rfl u_0<|o_p rfl (Zcc Tryd.underlying23 rfl rfl u_0)<|o_p rfl (Zb6 rfl rfl u_0 u_1)<|o_n) (fun a g hst hb=>?_)
   refine wp_cond_split (hst.bool 3 rfl) (fun hc2=>?_) (fun hc2=>?_)
   ·replace H1:=Zn hc2 H1
    refine wp_skip ?_
    refine Zm ?_
    refine wp_seq ?_
    refine wp_block ?_
    obtain ⟨e3,h4,H1⟩:=Zf H1
    refine r_s (L:=[(0,_),(1,_),(5,_)]) (T:=[⟨[.o 0],_,[],[],[12]⟩,⟨[.o 2],_,[],[],[13]⟩,⟨[.p 0 0,.p 1 0],_,[],[0,1],[14]⟩,⟨[.p 2 0],_,[],[0,1,2],[15]⟩,⟨[.p 3 0],_,[],Lr 4,[16]⟩,⟨[.o 1],_,[],[],[17]⟩,⟨[.p 4 0,.p 5 0],_,[],Lr 6,[18]⟩]) (F:=[.o 0,.o 1,.o 2,.p 6 0]) (hst.pick [0,1,2] rfl) hb Zb
     (Qm rfl u_0<|Qm rfl u_0<|o_p rfl (Zbk Tryd.underlying23 Zee rfl rfl u_0 u_1 h4)<|Qf rfl Zdh u_0<|Ql rfl ty_9 u_0<|Qm rfl u_0<|o_p rfl (Zkr rfl rfl u_0 u_1)<|o_n) (fun a g hst hb=>?_)
    refine wp_cond_split (hst.bool 3 rfl) (fun hc5=>?_) (fun hc5=>?_)
    ·replace H1:=Zn hc5 H1
     refine r_s (L:=[]) (T:=[⟨[],_,[],[],[4]⟩]) (F:=[.p 0 0]) (hst.pick [] rfl) hb Zb
      (Qa rfl c_b<|o_n) (fun a g hst hb=>?_)
     refine wp_ret ?_
     refine Zv ?_
     refine Zk ?_
     refine Zk ?_
     refine Zv ?_
     refine Zk ?_
     refine Zk ?_
     obtain rfl:=Option.some.inj H1
     obtain rfl:=Option.some.inj H0
     exact Zz rfl hst hb (Zg (s:=4)) (hst.at 0 rfl)
    ·replace H1:=Zo hc5 H1
     refine wp_skip ?_
     refine Z4 ?_
     refine Zm ?_
     refine r_g (L:=[(0,_),(1,_),(5,_)]) (T:=[⟨[.o 2],_,[],[],[10]⟩,⟨[.p 0 0],_,[],[0],[11]⟩,⟨[.p 1 0],_,[],[0,1],[5]⟩]) (F:=[.o 0,.o 1,.p 2 0]) (hst.pick [0,1,2] rfl) hb Zb
      (Qm rfl u_0<|o_p rfl (Zca rfl rfl u_0 c_i rfl)<|Qa rfl u_0<|o_n) (fun a g hst hb=>?_)
     exact ⟨n,Nat.lt_succ_self _,(IntKind.i64.wrap (x1 + (1:Int))),g,rfl,(hst.pick [0,1,2] rfl),hb,H1⟩
   ·replace H1:=Zo hc2 H1
    refine wp_exit ?_
    refine Zb7 ?_
    refine Zb7 ?_
    refine Zct ?_
    exact ⟨g,rfl,(hst.pick [] rfl),hb,Option.some.inj H1⟩
theorem Zk1 (a0:List Zd) (a1:Zd) (a2:Bool) {r:List Zd} (h:Zds a0 a1 a2=some r):FnOk Tryd.prog 103 [(Zp.sl.pd a0),(Zp.pd a1),(Zba a2)] (Zp.sl.pd r):=by
 have H0:=h
 unfold Zds at H0
 clear h
 refine Zbt (N:=89) Tryd.func103 rfl rfl (Qe rfl) rfl rfl (fun a g0 hst hb=>?_)
 refine r_s (T:=[⟨[.o 1],_,[],[],[4]⟩,⟨[],[(6,(Zp.sl.pd ([]:List Zd)))],[],[],[6]⟩]) (F:=[.o 0,.o 2,.p 0 0]) hst hb Zb
  (Qb rfl u_0<|o_p rfl (Zd1 rfl rfl (Opd.c (fun g=>Zit g)))<|o_n) (fun a g hst hb=>?_)
 refine r_s (T:=[⟨[],_,[13],[],[12]⟩,⟨[.p 0 0],_,[],[0],[7]⟩,⟨[],_,[],[0,1],[8]⟩]) (F:=[.o 0,.o 1,.o 2,.p 1 0,.p 2 0]) hst hb Zb
  (o_p rfl (Zm4 12 Zcx (xs:=[]) .nil (by decide) rfl rfl)<|Qa rfl u_0<|Qa rfl c_b<|o_n) (fun a g hst hb=>?_)
 refine wp_seq ?_
 refine r_s (T:=[⟨[],_,[],[],[9]⟩]) (F:=[.o 0,.o 1,.o 2,.o 3,.o 4,.p 0 0]) hst hb Zb
  (Qa rfl c_i<|o_n) (fun a g hst hb=>?_)
 obtain ⟨z27,hz1,H0⟩:=Zf H0
 refine Zbz (fun a w=>∃ (y25:List Zd) (y26:Bool) (g:G),w=g.w ∧ St 89 [(4,(Zp.ptr a1)),(7,(pRow Zp 75 12 y25)),(8,(Zba y26))] a g ∧ Base g0 g ∧ (y25,y26)=z27) ?_ ?_
 ·rintro a w ⟨y25,y26,g,rfl,hst,hb,rfl⟩
  refine Zm ?_
  refine wp_seq ?_
  refine r_s (T:=[⟨[.o 2],_,[],[],[82]⟩,⟨[.p 0 0],_,[],[0],[83]⟩]) (F:=[.o 0,.o 1,.p 1 0]) hst hb Zb
   (Qm rfl u_0<|Qn rfl u_0<|o_n) (fun a g hst hb=>?_)
  refine Zbz (fun a w=>∃ (j30:List Zd) (g:G),w=g.w ∧ St 89 [(7,(pRow Zp 75 12 j30))] a g ∧ Base g0 g ∧ Ze4 j30=some r) ?_ ?_
  ·rintro a w ⟨j30,g,rfl,hst,hb,H0⟩
   unfold Ze4 at H0
   refine Zm ?_
   refine r_s (T:=[⟨[.o 0],_,[],[],[88]⟩,⟨[.p 0 0],_,[],[0],[6]⟩]) (F:=[.p 1 0]) hst hb Zb
    (Qm rfl u_0<|Qa rfl u_0<|o_n) (fun a g hst hb=>?_)
   refine wp_ret ?_
   obtain rfl:=Option.some.inj H0
   exact Zz rfl hst hb (Zg (s:=6)) (Zlr (hst.at 0 rfl))
  ·refine wp_cond_split (hst.bool 2 rfl) (fun hc28=>?_) (fun hc28=>?_)
   ·replace H0:=Zn hc28 H0
    obtain ⟨h29,H0⟩:=Zg2 H0
    refine r_g (L:=[(4,_),(7,_)]) (T:=[⟨[.o 1],_,[],[],[84]⟩,⟨[.o 0],_,[],[],[85]⟩,⟨[.p 1 0],_,[],[1],[86]⟩,⟨[.p 0 0,.p 2 0],_,[13],[0,1,2],[7,84,87]⟩,⟨[.p 3 0],_,[],Lr 4,[7]⟩]) (F:=[.p 4 0]) (hst.pick [0,1] rfl) hb Zb
     (Qm rfl u_0<|Ql rfl Zdt u_0<|o_p rfl (Zhg Zcx (xs:=[.tmp 85]) (.cons u_0 .nil) (by decide) rfl rfl)<|o_p rfl (Zjh Zcx rfl rfl u_0 u_1 h29)<|Qa rfl u_0<|o_n) (fun a g hst hb=>?_)
    exact ⟨(y25 ++ ([a1]:List Zd)),g,rfl,(hst.pick [0] rfl),hb,H0⟩
   ·replace H0:=Zo hc28 H0
    refine wp_skip ?_
    exact ⟨y25,g,rfl,(hst.pick [1] rfl),hb,H0⟩
 ·refine wp_block ?_
  refine wp_loop_ghost (fun n a w=>∃ (x1:List Zd) (x2:Bool) (x3:Int) (g:G),w=g.w ∧ St 89 [(0,(Zp.sl.pd a0)),(2,(Zba a2)),(4,(Zp.ptr a1)),(7,(pRow Zp 75 12 x1)),(8,(Zba x2)),(9,(pInt .i64 x3))] a g ∧ Base g0 g ∧ Zb4 a0 a1 a2 n x1 x2 x3=some z27) (Int.toNat ((a0.length:Int) - (0:Int)) + 1) ⟨([]:List Zd),false,(0:Int),g,rfl,(hst.pick [0,1,2,3,4,5] rfl),hb,hz1⟩ (fun n a w hI=>?_)
  obtain ⟨x1,x2,x3,g,rfl,hst,hb,H1⟩:=hI
  cases n with
  | zero=>exact absurd H1 (by simp [Zb4])
  | succ n =>
   rw [Zb4] at H1
   refine wp_seq ?_
   refine r_s (T:=[⟨[.o 5],_,[],[],[13]⟩,⟨[.o 0],_,[],[],[14]⟩,⟨[.p 1 0],_,[],[1],[15]⟩,⟨[.p 0 0,.p 2 0],_,[],[0,1,2],[16]⟩]) (F:=[.o 0,.o 1,.o 2,.o 3,.o 4,.o 5,.p 3 0]) hst hb Zb
    (Qm rfl u_0<|Qm rfl u_0<|o_p rfl (Zcc Tryd.underlying23 rfl rfl u_0)<|o_p rfl (Zb6 rfl rfl u_0 u_1)<|o_n) (fun a g hst hb=>?_)
   refine wp_cond_split (hst.bool 6 rfl) (fun hc4=>?_) (fun hc4=>?_)
   ·replace H1:=Zn hc4 H1
    refine wp_skip ?_
    refine Zm ?_
    refine wp_seq ?_
    refine wp_block ?_
    obtain ⟨e5,h6,H1⟩:=Zf H1;obtain ⟨r7,h8,H1⟩:=Zf H1;obtain ⟨e9,h10,H1⟩:=Zf H1
    refine r_s (L:=[(0,_),(2,_),(4,_),(7,_),(8,_),(9,_)]) (T:=⟨[.o 1],_,[],[],[19]⟩ :: ⟨[.p 0 0],_,[],[0],[20]⟩ :: ⟨[.p 1 0],_,[],[0,1],[21]⟩ :: ⟨[.p 2 0,.o 0],_,[],[0,1,2],[22]⟩ :: ⟨[.p 2 0,.o 5],_,[],[0,1,2],[23]⟩ :: ⟨[.p 2 0,.p 3 0,.p 4 0],_,[],Lr 5,[24]⟩ :: ⟨[.p 2 0,.p 5 0],_,[],Lr 6,[25]⟩ :: ⟨[.p 2 0,.o 2],_,[],[0,1,2],[26]⟩ :: ⟨[.p 2 0,.p 6 0,.p 7 0],_,[],Lr 8,[27]⟩ :: ⟨[.p 2 0,.p 8 0],_,[],Lr 9,[28]⟩ :: ⟨[.p 9 0],_,[],Lr 10,[29]⟩ :: ⟨[.p 10 0,.o 1],_,[],Lr 11,[30]⟩ :: ⟨[.p 10 0,.p 11 0],_,[],Lr 12,[31]⟩ :: ⟨[.p 12 0,.o 0],_,[],Lr 13,[32]⟩ :: ⟨[.p 12 0,.o 5],_,[],Lr 13,[33]⟩ :: ⟨[.p 12 0,.p 13 0,.p 14 0],_,[],Lr 15,[34]⟩ :: ⟨[.p 12 0,.p 15 0],_,[],Lr 16,[35]⟩ :: ⟨[.p 12 0,.p 16 0],_,[],Lr 17,[36]⟩ :: ⟨[.p 12 0,.o 2],_,[],Lr 13,[37]⟩ :: ⟨[.p 12 0,.p 18 0],_,[],0 :: 1 :: 2 :: 3 :: 4 :: 5 :: 6 :: 7 :: 8 :: 9 :: 10 :: 11 :: 12 :: 18 :: [],[38]⟩ :: ⟨[.p 12 0,.p 17 0,.p 19 0],_,[],Lr 20,[39]⟩ :: ⟨[.p 10 0,.p 12 0,.p 20 0],_,[],Lr 21,[40]⟩ :: ⟨[.p 10 0,.p 21 0],_,[],Lr 22,[41]⟩ :: ⟨[.p 22 0],_,[],Lr 23,[10]⟩ :: []) (F:=[.o 0,.o 1,.o 2,.o 3,.o 4,.o 5,.p 23 0]) (hst.pick [0,1,2,3,4,5] rfl) hb Zb
     (Qm rfl u_0<|Qn rfl u_0<|Qm rfl u_0<|o_g (Qg_t rfl (fun hG=>Zy rfl rfl u_0))<|o_g (Qg_t rfl (fun hG=>Zy rfl rfl u_0))<|o_g (Qg_t rfl (fun hG=>Zbk Tryd.underlying23 Zee rfl rfl (Opd.gd hG u_0) (Opd.gd hG u_1) (Zbq h6 hG)))<|o_g (Qg_t rfl (fun hG=>Zs Zdt rfl rfl (Opd.gd hG u_0)))<|o_g (Qg_t rfl (fun hG=>Zs Zdt rfl rfl u_0))<|o_g (Qg_t rfl (fun hG=>Zr Z2w (Zkq _ _ (Zbq h8 hG)) rfl rfl (.cons (Opd.gd hG u_0) (.cons (Opd.gd hG u_1) .nil))))<|o_p rfl (Zbe rfl rfl u_0 (fun hz=>(Opd.gd hz u_1)))<|Qm rfl u_0<|o_g (Qg_f rfl (fun hG=>Zy rfl rfl u_0))<|o_g (Qg_f rfl (fun hG=>Zy rfl rfl (Opd.gd hG u_0)))<|o_g (Qg_ti rfl (fun hG=>Zy rfl rfl u_0))<|o_g (Qg_ti rfl (fun hG=>Zy rfl rfl u_0))<|o_g (Qg_ti rfl (fun hG=>Zbk Tryd.underlying23 Zee rfl rfl (Opd.gd hG u_0) (Opd.gd hG u_1) (Zbq h10 hG)))<|o_g (Qg_ti rfl (fun hG=>Zj Zdh rfl rfl (Opd.gd hG u_0)))<|o_g (Qg_ti rfl (fun hG=>Zs ty_9 rfl rfl (Opd.gd hG u_0)))<|o_g (Qg_ti rfl (fun hG=>Zj Zdh rfl rfl u_0))<|o_g (Qg_ti rfl (fun hG=>Zs ty_9 rfl rfl (Opd.gd hG u_0)))<|o_g (Qg_ti rfl (fun hG=>Zpq rfl rfl (Opd.gd hG u_0) (Opd.gd hG u_1)))<|o_g (Qg_f rfl (fun hG=>Zbe rfl rfl (Opd.gd hG u_0) (fun hz=>(Opd.gd (bA hG hz) u_1))))<|o_p rfl (Zbl rfl rfl u_0 (fun hz=>(Opd.gd (bNF hz) u_1)))<|Qa rfl u_0<|o_n) (fun a g hst hb=>?_)
    obtain ⟨e11,h12,H1⟩:=Zf H1;obtain ⟨e13,h14,H1⟩:=Zf H1;obtain ⟨r15,h16,H1⟩:=Zf H1
    refine r_s (T:=⟨[.o 0],_,[],[],[42]⟩ :: ⟨[.o 5],_,[],[],[43]⟩ :: ⟨[.p 0 0,.p 1 0],_,[],[0,1],[44]⟩ :: ⟨[.p 2 0],_,[],[0,1,2],[45]⟩ :: ⟨[.p 3 0],_,[],Lr 4,[46]⟩ :: ⟨[.o 2],_,[],[],[47]⟩ :: ⟨[.p 5 0],_,[],[5],[48]⟩ :: ⟨[.p 4 0,.p 6 0],_,[],Lr 7,[49]⟩ :: ⟨[.p 7 0],_,[],Lr 8,[50]⟩ :: ⟨[.p 8 0,.o 1],_,[],Lr 9,[51]⟩ :: ⟨[.p 8 0,.p 9 0],_,[],Lr 10,[52]⟩ :: ⟨[.p 10 0,.o 0],_,[],Lr 11,[53]⟩ :: ⟨[.p 10 0,.o 5],_,[],Lr 11,[54]⟩ :: ⟨[.p 10 0,.p 11 0,.p 12 0],_,[],Lr 13,[55]⟩ :: ⟨[.p 10 0,.p 13 0],_,[],Lr 14,[56]⟩ :: ⟨[.p 10 0,.p 14 0],_,[],Lr 15,[57]⟩ :: ⟨[.p 10 0,.o 2],_,[],Lr 11,[58]⟩ :: ⟨[.p 10 0,.p 16 0],_,[],0 :: 1 :: 2 :: 3 :: 4 :: 5 :: 6 :: 7 :: 8 :: 9 :: 10 :: 16 :: [],[59]⟩ :: ⟨[.p 10 0,.p 15 0,.p 17 0],_,[],Lr 18,[60]⟩ :: ⟨[.p 8 0,.p 10 0,.p 18 0],_,[],Lr 19,[61]⟩ :: ⟨[.p 8 0,.p 19 0],_,[],Lr 20,[62]⟩ :: ⟨[.p 20 0],_,[],Lr 21,[11]⟩ :: []) (F:=[.o 0,.o 1,.o 2,.o 3,.o 4,.o 5,.o 6,.p 21 0]) hst hb Zb
     (Qm rfl u_0<|Qm rfl u_0<|o_p rfl (Zbk Tryd.underlying23 Zee rfl rfl u_0 u_1 h12)<|Qf rfl Zdh u_0<|Ql rfl ty_9 u_0<|Qf rfl Zdh u_0<|Ql rfl ty_9 u_0<|o_p rfl (Zkr rfl rfl u_0 u_1)<|Qm rfl u_0<|o_g (Qg_t rfl (fun hG=>Zy rfl rfl u_0))<|o_g (Qg_t rfl (fun hG=>Zy rfl rfl (Opd.gd hG u_0)))<|o_g (Qg_fi rfl (fun hG=>Zy rfl rfl u_0))<|o_g (Qg_fi rfl (fun hG=>Zy rfl rfl u_0))<|o_g (Qg_fi rfl (fun hG=>Zbk Tryd.underlying23 Zee rfl rfl (Opd.gd hG u_0) (Opd.gd hG u_1) (Zbq h14 hG)))<|o_g (Qg_fi rfl (fun hG=>Zj Zev rfl rfl (Opd.gd hG u_0)))<|o_g (Qg_fi rfl (fun hG=>Zs Zb8 rfl rfl (Opd.gd hG u_0)))<|o_g (Qg_fi rfl (fun hG=>Zj Zev rfl rfl u_0))<|o_g (Qg_fi rfl (fun hG=>Zs Zb8 rfl rfl (Opd.gd hG u_0)))<|o_g (Qg_fi rfl (fun hG=>Zr Zqd (Ze5 _ _ (Zbq h16 hG)) rfl rfl (.cons (Opd.gd hG u_0) (.cons (Opd.gd hG u_1) .nil))))<|o_g (Qg_t rfl (fun hG=>Zbl rfl rfl (Opd.gd hG u_0) (fun hz=>(Opd.gd (bA hG (bNF hz)) u_1))))<|o_p rfl (Zbe rfl rfl u_0 (fun hz=>(Opd.gd hz u_1)))<|Qa rfl u_0<|o_n) (fun a g hst hb=>?_)
    refine wp_seq ?_
    refine r_s (T:=[⟨[.o 4],_,[],[],[63]⟩,⟨[.p 0 0],_,[],[0],[64]⟩,⟨[.p 1 0],_,[],[0,1],[65]⟩,⟨[.p 2 0,.o 6],_,[],[0,1,2],[66]⟩,⟨[.p 2 0,.p 3 0],_,[],Lr 4,[67]⟩,⟨[.p 2 0,.p 4 0],_,[],Lr 5,[68]⟩]) (F:=[.o 0,.o 1,.o 2,.o 3,.o 4,.o 5,.o 7,.p 5 0]) hst hb Zb
     (Qm rfl u_0<|Qn rfl u_0<|Qm rfl u_0<|o_g (Qg_t rfl (fun hG=>Zy rfl rfl u_0))<|o_g (Qg_t rfl (fun hG=>Zem rfl rfl (Opd.gd hG u_0)))<|o_p rfl (Zbe rfl rfl u_0 (fun hz=>(Opd.gd hz u_1)))<|o_n) (fun a g hst hb=>?_)
    refine Zbz (fun a w=>∃ (j20:List Zd) (j21:Bool) (g:G),w=g.w ∧ St 89 [(0,(Zp.sl.pd a0)),(2,(Zba a2)),(4,(Zp.ptr a1)),(7,(pRow Zp 75 12 j20)),(8,(Zba j21)),(9,(pInt .i64 x3))] a g ∧ Base g0 g ∧ Zdd a0 x3 (Zb4 a0 a1 a2 n) j20 j21=some z27) ?_ ?_
    ·rintro a w ⟨j20,j21,g,rfl,hst,hb,H1⟩
     unfold Zdd at H1
     refine Zm ?_
     obtain ⟨e22,h23,H1⟩:=Zf H1;obtain ⟨h24,H1⟩:=Zg2 H1
     refine r_g (T:=[⟨[.o 3],_,[],[],[75]⟩,⟨[.o 0],_,[],[],[76]⟩,⟨[.o 5],_,[],[],[77]⟩,⟨[.p 1 0,.p 2 0],_,[],[1,2],[78]⟩,⟨[.p 3 0],_,[],[1,2,3],[79]⟩,⟨[.p 4 0],_,[],List.range' 1 4,[80]⟩,⟨[.p 0 0,.p 5 0],_,[13],Lr 6,[7,75,81]⟩,⟨[.p 6 0],_,[],Lr 7,[7]⟩]) (F:=[.o 0,.o 1,.o 2,.p 7 0,.o 4,.o 5]) hst hb Zb
      (Qm rfl u_0<|Qm rfl u_0<|Qm rfl u_0<|o_p rfl (Zbk Tryd.underlying23 Zee rfl rfl u_0 u_1 h23)<|Ql rfl Zdt u_0<|o_p rfl (Zhg Zcx (xs:=[.tmp 79]) (.cons u_0 .nil) (by decide) rfl rfl)<|o_p rfl (Zjh Zcx rfl rfl u_0 u_1 h24)<|Qa rfl u_0<|o_n) (fun a g hst hb=>?_)
     refine Z4 ?_
     refine Zm ?_
     refine r_g (T:=[⟨[.o 5],_,[],[],[17]⟩,⟨[.p 0 0],_,[],[0],[18]⟩,⟨[.p 1 0],_,[],[0,1],[9]⟩]) (F:=[.o 0,.o 1,.o 2,.o 3,.o 4,.p 2 0]) hst hb Zb
      (Qm rfl u_0<|o_p rfl (Zca rfl rfl u_0 c_i rfl)<|Qa rfl u_0<|o_n) (fun a g hst hb=>?_)
     exact ⟨n,Nat.lt_succ_self _,(j20 ++ ([e22]:List Zd)),j21,(IntKind.i64.wrap (x3 + (1:Int))),g,rfl,(hst.pick [0,1,2,3,4,5] rfl),hb,H1⟩
    ·refine wp_cond_split (hst.bool 7 rfl) (fun hc17=>?_) (fun hc17=>?_)
     ·replace H1:=Zn hc17 H1
      refine r_s (L:=[(0,_),(2,_),(4,_),(7,_),(9,_),(11,_)]) (T:=[⟨[],_,[],[],[8]⟩]) (F:=[.o 0,.o 1,.o 2,.o 3,.p 0 0,.o 4,.o 5]) (hst.pick [0,1,2,3,5,6] rfl) hb Zb
       (Qa rfl c_b<|o_n) (fun a g hst hb=>?_)
      refine r_s (T:=[⟨[.o 6],_,[],[],[69]⟩,⟨[.p 0 0],_,[],[0],[70]⟩]) (F:=[.o 0,.o 1,.o 2,.o 3,.o 4,.o 5,.p 1 0]) hst hb Zb
       (Qm rfl u_0<|Qn rfl u_0<|o_n) (fun a g hst hb=>?_)
      refine wp_cond_split (hst.bool 6 rfl) (fun hc18=>?_) (fun hc18=>?_)
      ·replace H1:=Zn hc18 H1
       obtain ⟨h19,H1⟩:=Zg2 H1
       refine r_g (L:=[(0,_),(2,_),(4,_),(7,_),(8,_),(9,_)]) (T:=[⟨[.o 3],_,[],[],[71]⟩,⟨[.o 2],_,[],[],[72]⟩,⟨[.p 1 0],_,[],[1],[73]⟩,⟨[.p 0 0,.p 2 0],_,[13],[0,1,2],[7,71,74]⟩,⟨[.p 3 0],_,[],Lr 4,[7]⟩]) (F:=[.o 0,.o 1,.o 2,.p 4 0,.o 4,.o 5]) (hst.pick [0,1,2,3,4,5] rfl) hb Zb
        (Qm rfl u_0<|Ql rfl Zdt u_0<|o_p rfl (Zhg Zcx (xs:=[.tmp 72]) (.cons u_0 .nil) (by decide) rfl rfl)<|o_p rfl (Zjh Zcx rfl rfl u_0 u_1 h19)<|Qa rfl u_0<|o_n) (fun a g hst hb=>?_)
       exact ⟨(x1 ++ ([a1]:List Zd)),true,g,rfl,(hst.pick [0,1,2,3,4,5] rfl),hb,H1⟩
      ·replace H1:=Zo hc18 H1
       refine wp_skip ?_
       exact ⟨x1,true,g,rfl,(hst.pick [0,1,2,3,4,5] rfl),hb,H1⟩
     ·replace H1:=Zo hc17 H1
      refine wp_skip ?_
      exact ⟨x1,x2,g,rfl,(hst.pick [0,1,2,3,4,5] rfl),hb,H1⟩
   ·replace H1:=Zo hc4 H1
    refine wp_exit ?_
    refine Zb7 ?_
    refine Zb7 ?_
    refine Zct ?_
    exact ⟨x1,x2,g,rfl,(hst.pick [2,3,4] rfl),hb,Option.some.inj H1⟩
theorem Zqs (a0:Za) (a1:Zi) {r:Za × Ze} (h:Z5 a0 a1=some r):FnOk Tryd.prog 70 [(Zc.pd a0),(Z1.pd a1)] (pTup [(Zc.pd r.1),(Zt.pd r.2)]):=by
 have H0:=h
 unfold Z5 at H0
 clear h
 refine Zbt (N:=217) Tryd.func70 rfl rfl (Qe rfl) rfl rfl (fun a g0 hst hb=>?_)
 refine r_s (T:=[⟨[.o 0],_,[3],[],[2]⟩,⟨[.o 1],_,[],[],[3]⟩,⟨[],[(4,(pBox Zc 4 (default:Za)))],[5],[],[4]⟩,⟨[],[(5,(pBox Zt 5 (default:Ze)))],[6],[],[5]⟩]) (F:=[.p 0 0,.p 1 0,.p 2 0,.p 3 0]) hst hb Zb
  (o_p rfl (Zj0 rfl rfl u_0)<|Qb rfl u_0<|o_p rfl (Zbm (zs:=[.int .i64 0,.int .i64 0,.int .i64 0,.int .i64 0,.float .f64 0,.int .i64 0,.string ByteArray.empty,.slice none 0 0]) (by kernel_rfl) (fun g=>Zbr g) rfl rfl)<|o_p rfl (Zbm (zs:=[.int .i64 0,.int .i64 0,.int .i64 0,.int .i64 0,.int .i64 0,.int .i64 0,.float .f64 0,.int .i64 0,.string ByteArray.empty,.slice none 0 0]) (by kernel_rfl) (fun g=>Zfd g) rfl rfl)<|o_n) (fun a g hst hb=>?_)
 refine r_s (T:=[⟨[],_,[],[],[10]⟩,⟨[],[(6,(pBox Zt 6 (default:Ze)))],[7],[],[6]⟩,⟨[.p 0 0,.p 1 0],_,[7],[0,1],[6]⟩]) (F:=[.o 0,.o 1,.o 2,.o 3,.p 2 0]) hst hb Zb
  (o_p rfl (Zph rfl rfl )<|o_p rfl (Zbm (zs:=[.int .i64 0,.int .i64 0,.int .i64 0,.int .i64 0,.int .i64 0,.int .i64 0,.float .f64 0,.int .i64 0,.string ByteArray.empty,.slice none 0 0]) (by kernel_rfl) (fun g=>Zfd g) rfl rfl)<|o_p rfl (Z6 Zcs rfl rfl u_1 u_0)<|o_n) (fun a g hst hb=>?_)
 refine wp_seq ?_
 refine r_s (T:=[⟨[.o 1],_,[],[],[11]⟩,⟨[.p 0 0],_,[],[0],[12]⟩]) (F:=[.o 0,.o 1,.o 2,.o 3,.o 4,.p 1 0]) hst hb Zb
  (Qf rfl Zch u_0<|Ql rfl ty_3 u_0<|o_n) (fun a g hst hb=>?_)
 refine Zbz (fun a w=>∃ (j65:Za) (j66:Ze) (g:G),w=g.w ∧ St 217 [(2,(pBox Zc 2 j65)),(4,(pBox Zc 4 (default:Za))),(5,(pBox Zt 5 (default:Ze))),(6,(pBox Zt 6 j66))] a g ∧ Base g0 g ∧ Zq j65 j66=some r) ?_ ?_
 ·rintro a w ⟨j65,j66,g,rfl,hst,hb,H0⟩
  unfold Zq at H0
  refine Zm ?_
  refine r_s (T:=[⟨[.o 0],_,[],[],[215]⟩,⟨[.o 3],_,[],[],[216]⟩,⟨[.p 0 0,.o 1],_,[5],[0],[4]⟩,⟨[.p 1 0,.o 2],_,[6],[0,1,2],[5]⟩]) (F:=[.p 2 0,.p 3 0]) hst hb Zb
   (QM rfl Z0 u_0<|QM rfl Zcs u_0<|o_p rfl (Z6 Z0 rfl rfl u_1 u_0)<|o_p rfl (Z6 Zcs rfl rfl u_1 u_0)<|o_n) (fun a g hst hb=>?_)
  refine wp_ret ?_
  obtain rfl:=Option.some.inj H0
  obtain ⟨u0,hu0,hq0⟩:=Zbh (P:=Tryd.prog) Z0 (hst.at 0 rfl)
  obtain ⟨u1,hu1,hq1⟩:=Zbh (P:=Tryd.prog) Zcs (hst.at 1 rfl)
  exact Zgx rfl hst hb hu0 hu1 (Zfb hq0 hq1)
 ·refine wp_block ?_
  refine r_s (T:=[⟨[.o 5],_,[],[],[14]⟩,⟨[.p 0 0],_,[],[0],[13]⟩]) (F:=[.o 0,.o 1,.o 2,.o 3,.o 4,.o 5,.p 1 0]) hst hb Zb
   (o_p rfl (Z8 rfl rfl u_0 c_i)<|Qa rfl u_0<|o_n) (fun a g hst hb=>?_)
  refine wp_cond_split (hst.bool 6 rfl) (fun hc1=>?_) (fun hc1=>?_)
  ·replace H0:=Zn hc1 H0
   refine r_g (L:=[(2,_),(3,_),(4,_),(5,_),(6,_)]) (T:=[⟨[.o 1],_,[],[],[15]⟩,⟨[.p 0 0],_,[],[0],[16]⟩,⟨[.o 0],_,[],[0,1],[17]⟩,⟨[.p 1 0,.p 2 0,.o 0],_,[3],[0,1,2],[2,17]⟩]) (F:=[.p 3 0,.o 2,.o 3,.o 4]) (hst.pick [0,1,2,3,4] rfl) hb Zb
    (Qf rfl Zea u_0<|Ql rfl ty_9 u_0<|o_p rfl (Zh Zhc (off:=6) (by kernel_rfl) rfl rfl u_0)<|o_p rfl (Zqh ty_9 rfl rfl u_2 u_1 u_0)<|o_n) (fun a g hst hb=>?_)
   refine Z4 ?_
   exact ⟨({ a0 with Text:=a1.S }),({ Code:=(0:Int),Num:=(0:Int),Rec:=(default:Za) }:Ze),g,rfl,(hst.pick [0,1,2,3] rfl),hb,H0⟩
  ·replace H0:=Zo hc1 H0
   refine r_s (L:=[(2,_),(3,_),(4,_),(5,_),(6,_),(12,_)]) (T:=[⟨[.o 5],_,[],[],[19]⟩,⟨[.p 0 0],_,[],[0],[18]⟩]) (F:=[.o 0,.o 1,.o 2,.o 3,.o 4,.o 5,.p 1 0]) (hst.pick [0,1,2,3,4,5] rfl) hb Zb
    (o_p rfl (Z8 rfl rfl u_0 c_i)<|Qa rfl u_0<|o_n) (fun a g hst hb=>?_)
   refine wp_cond_split (hst.bool 6 rfl) (fun hc2=>?_) (fun hc2=>?_)
   ·replace H0:=Zn hc2 H0
    obtain ⟨r3,h4,H0⟩:=Zf H0
    refine r_s (L:=[(2,_),(3,_),(4,_),(5,_),(6,_)]) (T:=[⟨[.o 0],_,[],[],[20]⟩,⟨[.p 0 0],_,[],[0],[21]⟩,⟨[.o 4],_,[],[0,1],[22]⟩,⟨[.p 1 0,.p 2 0,.o 4],_,[7],[0,1,2],[6,22]⟩]) (F:=[.o 0,.o 1,.o 2,.o 3,.p 3 0]) (hst.pick [0,1,2,3,4] rfl) hb Zb
     (QM rfl Z0 u_0<|o_p rfl (Zr Zul (Zgt _ h4) rfl rfl (.cons u_0 .nil))<|o_p rfl (Zh Zw9 (off:=2) (by kernel_rfl) rfl rfl u_0)<|o_p rfl (Zxf Z0 rfl rfl u_2 u_1 u_0)<|o_n) (fun a g hst hb=>?_)
    refine r_g (T:=[⟨[.o 1],_,[],[],[23]⟩,⟨[.p 0 0],_,[],[0],[24]⟩,⟨[.o 0],_,[],[0,1],[25]⟩,⟨[.p 1 0,.p 2 0,.o 0],_,[3],[0,1,2],[2,25]⟩]) (F:=[.p 3 0,.o 2,.o 3,.o 4]) hst hb Zb
     (Qf rfl Zea u_0<|Ql rfl ty_9 u_0<|o_p rfl (Zh Zhc (off:=6) (by kernel_rfl) rfl rfl u_0)<|o_p rfl (Zqh ty_9 rfl rfl u_2 u_1 u_0)<|o_n) (fun a g hst hb=>?_)
    refine Z4 ?_
    exact ⟨({ a0 with Text:=a1.S }),({ ({ Code:=(0:Int),Num:=(0:Int),Rec:=(default:Za) }:Ze) with Rec:=r3 }),g,rfl,(hst.pick [0,1,2,3] rfl),hb,H0⟩
   ·replace H0:=Zo hc2 H0
    refine r_s (L:=[(2,_),(3,_),(4,_),(5,_),(6,_),(12,_)]) (T:=[⟨[.o 5],_,[],[],[27]⟩,⟨[.p 0 0],_,[],[0],[26]⟩]) (F:=[.o 0,.o 1,.o 2,.o 3,.o 4,.o 5,.p 1 0]) (hst.pick [0,1,2,3,4,5] rfl) hb Zb
     (o_p rfl (Z8 rfl rfl u_0 c_i)<|Qa rfl u_0<|o_n) (fun a g hst hb=>?_)
    refine wp_cond_split (hst.bool 6 rfl) (fun hc5=>?_) (fun hc5=>?_)
    ·replace H0:=Zn hc5 H0
     refine r_g (L:=[(2,_),(3,_),(4,_),(5,_),(6,_)]) (T:=[⟨[.o 0],_,[],[],[28]⟩,⟨[.p 0 0],_,[],[0],[29]⟩,⟨[.o 1],_,[],[],[30]⟩,⟨[.p 2 0],_,[],[2],[31]⟩,⟨[.p 1 0,.p 3 0],_,[],Lr 4,[32]⟩,⟨[.o 0],_,[],Lr 5,[33]⟩,⟨[.p 4 0,.p 5 0,.o 0],_,[3],Lr 6,[2,28,33]⟩]) (F:=[.p 6 0,.o 2,.o 3,.o 4]) (hst.pick [0,1,2,3,4] rfl) hb Zb
      (o_p rfl (Zh Zb2 (off:=1) (by kernel_rfl) rfl rfl u_0)<|QP rfl ty_2 u_0<|Qf rfl Zcq u_0<|Ql rfl ty_2 u_0<|o_p rfl (Zca rfl rfl u_0 u_1 rfl)<|o_p rfl (Zh Zb2 (off:=1) (by kernel_rfl) rfl rfl u_0)<|o_p rfl (Zjx ty_2 rfl rfl u_2 u_1 u_0)<|o_n) (fun a g hst hb=>?_)
     refine Z4 ?_
     exact ⟨({ a0 with Num:=(IntKind.i64.wrap (a0.Num + a1.N)) }),({ Code:=(0:Int),Num:=(0:Int),Rec:=(default:Za) }:Ze),g,rfl,(hst.pick [0,1,2,3] rfl),hb,H0⟩
    ·replace H0:=Zo hc5 H0
     refine r_s (L:=[(2,_),(3,_),(4,_),(5,_),(6,_),(12,_)]) (T:=[⟨[.o 5],_,[],[],[35]⟩,⟨[.p 0 0],_,[],[0],[34]⟩]) (F:=[.o 0,.o 1,.o 2,.o 3,.o 4,.o 5,.p 1 0]) (hst.pick [0,1,2,3,4,5] rfl) hb Zb
      (o_p rfl (Z8 rfl rfl u_0 c_i)<|Qa rfl u_0<|o_n) (fun a g hst hb=>?_)
     refine wp_cond_split (hst.bool 6 rfl) (fun hc6=>?_) (fun hc6=>?_)
     ·replace H0:=Zn hc6 H0
      obtain ⟨r7,h8,H0⟩:=Zf H0
      refine r_s (L:=[(2,_),(3,_),(4,_),(5,_),(6,_)]) (T:=[⟨[.o 0],_,[],[],[36]⟩,⟨[.p 0 0],_,[],[0],[37]⟩,⟨[.o 1],_,[],[],[38]⟩,⟨[.p 2 0],_,[],[2],[39]⟩,⟨[.p 1 0,.p 3 0],_,[],Lr 4,[40]⟩]) (F:=[.o 0,.o 1,.o 2,.o 3,.o 4,.p 4 0]) (hst.pick [0,1,2,3,4] rfl) hb Zb
       (o_p rfl (Zh Zb2 (off:=1) (by kernel_rfl) rfl rfl u_0)<|QP rfl ty_2 u_0<|Qf rfl Zcq u_0<|Ql rfl ty_2 u_0<|o_p rfl (Zr Z79 (Zo4 _ _ h8) rfl rfl (.cons u_0 (.cons u_1 .nil)))<|o_n) (fun a g hst hb=>?_)
      refine wp_cond_split (hst.bool 5 rfl) (fun hc9=>?_) (fun hc9=>?_)
      ·replace H0:=Zn hc9 H0
       refine r_g (L:=[(2,_),(4,_),(5,_),(6,_)]) (T:=[⟨[.o 3],_,[],[],[41]⟩,⟨[.p 0 0,.o 3],_,[7],[0],[6,41]⟩]) (F:=[.o 0,.o 1,.o 2,.p 1 0]) (hst.pick [0,2,3,4] rfl) hb Zb
        (o_p rfl (Zh Zk9 (off:=0) (by kernel_rfl) rfl rfl u_0)<|o_p rfl (Zl9 Zom rfl rfl u_1 u_0 c_i)<|o_n) (fun a g hst hb=>?_)
       refine Z4 ?_
       exact ⟨a0,({ ({ Code:=(0:Int),Num:=(0:Int),Rec:=(default:Za) }:Ze) with Code:=(9:Int) }),g,rfl,(hst.pick [0,1,2,3] rfl),hb,H0⟩
      ·replace H0:=Zo hc9 H0
       refine r_g (L:=[(2,_),(3,_),(4,_),(5,_),(6,_)]) (T:=[⟨[.o 0],_,[],[],[42]⟩,⟨[.p 0 0],_,[],[0],[43]⟩,⟨[.o 1],_,[],[],[44]⟩,⟨[.p 2 0],_,[],[2],[45]⟩,⟨[.p 1 0,.p 3 0],_,[],Lr 4,[46]⟩,⟨[.o 0],_,[],Lr 5,[47]⟩,⟨[.p 4 0,.p 5 0,.o 0],_,[3],Lr 6,[2,42,47]⟩]) (F:=[.p 6 0,.o 2,.o 3,.o 4]) (hst.pick [0,1,2,3,4] rfl) hb Zb
        (o_p rfl (Zh Zb2 (off:=1) (by kernel_rfl) rfl rfl u_0)<|QP rfl ty_2 u_0<|Qf rfl Zcq u_0<|Ql rfl ty_2 u_0<|o_p rfl (Zca rfl rfl u_0 u_1 rfl)<|o_p rfl (Zh Zb2 (off:=1) (by kernel_rfl) rfl rfl u_0)<|o_p rfl (Zjx ty_2 rfl rfl u_2 u_1 u_0)<|o_n) (fun a g hst hb=>?_)
       refine Z4 ?_
       exact ⟨({ a0 with Num:=(IntKind.i64.wrap (a0.Num + a1.N)) }),({ Code:=(0:Int),Num:=(0:Int),Rec:=(default:Za) }:Ze),g,rfl,(hst.pick [0,1,2,3] rfl),hb,H0⟩
     ·replace H0:=Zo hc6 H0
      refine wp_seq ?_
      refine r_s (L:=[(2,_),(3,_),(4,_),(5,_),(6,_),(12,_)]) (T:=[⟨[.o 5],_,[],[],[49]⟩,⟨[.p 0 0],_,[],[0],[48]⟩]) (F:=[.o 0,.o 1,.o 2,.o 3,.o 4,.o 5,.p 1 0]) (hst.pick [0,1,2,3,4,5] rfl) hb Zb
       (o_p rfl (Z8 rfl rfl u_0 c_i)<|Qa rfl u_0<|o_n) (fun a g hst hb=>?_)
      refine Zbz (fun a w=>∃ (j11:Bool) (g:G),w=g.w ∧ St 217 [(2,(pBox Zc 2 a0)),(3,(Z1.ptr a1)),(4,(pBox Zc 4 (default:Za))),(5,(pBox Zt 5 (default:Ze))),(6,(pBox Zt 6 ({ Code:=(0:Int),Num:=(0:Int),Rec:=(default:Za) }:Ze))),(12,(pInt .i64 a1.Kind)),(48,(Zba j11))] a g ∧ Base g0 g ∧ Zbo a0 a1 j11=some r) ?_ ?_
      ·rintro a w ⟨j11,g,rfl,hst,hb,H0⟩
       unfold Zbo at H0
       refine Zm ?_
       refine wp_cond_split (hst.bool 6 rfl) (fun hc12=>?_) (fun hc12=>?_)
       ·replace H0:=Zn hc12 H0
        refine r_s (L:=[(2,_),(3,_),(4,_),(5,_),(6,_)]) (T:=[⟨[.o 0],_,[],[],[51]⟩,⟨[.p 0 0],_,[],[0],[52]⟩,⟨[.o 1],_,[],[],[53]⟩,⟨[.p 2 0],_,[],[2],[54]⟩,⟨[.p 1 0,.p 3 0],_,[],Lr 4,[55]⟩]) (F:=[.o 0,.o 2,.o 3,.o 4,.p 4 0]) (hst.pick [0,1,2,3,4] rfl) hb Zb
         (o_p rfl (Zh Zb2 (off:=1) (by kernel_rfl) rfl rfl u_0)<|QP rfl ty_2 u_0<|Qf rfl Zcq u_0<|Ql rfl ty_2 u_0<|o_p rfl (Zb6 rfl rfl u_0 u_1)<|o_n) (fun a g hst hb=>?_)
        refine wp_cond_split (hst.bool 4 rfl) (fun hc13=>?_) (fun hc13=>?_)
        ·replace H0:=Zn hc13 H0
         refine r_g (L:=[(2,_),(4,_),(5,_),(6,_)]) (T:=[⟨[.o 3],_,[],[],[56]⟩,⟨[.p 0 0,.o 3],_,[7],[0],[6,56]⟩]) (F:=[.o 0,.o 1,.o 2,.p 1 0]) (hst.pick [0,1,2,3] rfl) hb Zb
          (o_p rfl (Zh Zk9 (off:=0) (by kernel_rfl) rfl rfl u_0)<|o_p rfl (Zl9 Zom rfl rfl u_1 u_0 c_i)<|o_n) (fun a g hst hb=>?_)
         refine Z4 ?_
         exact ⟨a0,({ ({ Code:=(0:Int),Num:=(0:Int),Rec:=(default:Za) }:Ze) with Code:=(11:Int) }),g,rfl,(hst.pick [0,1,2,3] rfl),hb,H0⟩
        ·replace H0:=Zo hc13 H0
         refine wp_skip ?_
         refine Z4 ?_
         exact ⟨a0,({ Code:=(0:Int),Num:=(0:Int),Rec:=(default:Za) }:Ze),g,rfl,(hst.pick [0,1,2,3] rfl),hb,H0⟩
       ·replace H0:=Zo hc12 H0
        refine r_s (L:=[(2,_),(3,_),(4,_),(5,_),(6,_),(12,_)]) (T:=[⟨[.o 5],_,[],[],[58]⟩,⟨[.p 0 0],_,[],[0],[57]⟩]) (F:=[.o 0,.o 1,.o 2,.o 3,.o 4,.o 5,.p 1 0]) (hst.pick [0,1,2,3,4,5] rfl) hb Zb
         (o_p rfl (Z8 rfl rfl u_0 c_i)<|Qa rfl u_0<|o_n) (fun a g hst hb=>?_)
        refine wp_cond_split (hst.bool 6 rfl) (fun hc14=>?_) (fun hc14=>?_)
        ·replace H0:=Zn hc14 H0
         refine r_s (L:=[(2,_),(3,_),(4,_),(5,_),(6,_)]) (T:=[⟨[.o 0],_,[],[],[59]⟩,⟨[.p 0 0],_,[],[0],[60]⟩,⟨[.o 1],_,[],[],[61]⟩,⟨[.p 2 0],_,[],[2],[62]⟩,⟨[.p 1 0,.p 3 0],_,[],Lr 4,[63]⟩,⟨[.o 0],_,[],[],[64]⟩,⟨[.p 5 0],_,[],[5],[65]⟩,⟨[.p 4 0,.p 6 0],_,[],Lr 7,[66]⟩]) (F:=[.o 0,.o 1,.o 2,.o 3,.o 4,.p 7 0]) (hst.pick [0,1,2,3,4] rfl) hb Zb
          (o_p rfl (Zh Zb2 (off:=1) (by kernel_rfl) rfl rfl u_0)<|QP rfl ty_2 u_0<|Qf rfl Zcq u_0<|Ql rfl ty_2 u_0<|o_p rfl (Zca rfl rfl u_0 u_1 rfl)<|o_p rfl (Zh Zg9 (off:=3) (by kernel_rfl) rfl rfl u_0)<|QP rfl ty_2 u_0<|o_p rfl (Zcf rfl rfl u_0 u_1)<|o_n) (fun a g hst hb=>?_)
         refine wp_cond_split (hst.bool 5 rfl) (fun hc15=>?_) (fun hc15=>?_)
         ·replace H0:=Zn hc15 H0
          refine r_g (L:=[(2,_),(4,_),(5,_),(6,_)]) (T:=[⟨[.o 3],_,[],[],[67]⟩,⟨[.p 0 0,.o 3],_,[7],[0],[6,67]⟩]) (F:=[.o 0,.o 1,.o 2,.p 1 0]) (hst.pick [0,2,3,4] rfl) hb Zb
           (o_p rfl (Zh Zk9 (off:=0) (by kernel_rfl) rfl rfl u_0)<|o_p rfl (Zl9 Zom rfl rfl u_1 u_0 c_i)<|o_n) (fun a g hst hb=>?_)
          refine Z4 ?_
          exact ⟨a0,({ ({ Code:=(0:Int),Num:=(0:Int),Rec:=(default:Za) }:Ze) with Code:=(9:Int) }),g,rfl,(hst.pick [0,1,2,3] rfl),hb,H0⟩
         ·replace H0:=Zo hc15 H0
          refine r_g (L:=[(2,_),(3,_),(4,_),(5,_),(6,_)]) (T:=[⟨[.o 0],_,[],[],[68]⟩,⟨[.p 0 0],_,[],[0],[69]⟩,⟨[.o 1],_,[],[],[70]⟩,⟨[.p 2 0],_,[],[2],[71]⟩,⟨[.p 1 0,.p 3 0],_,[],Lr 4,[72]⟩,⟨[.o 0],_,[],Lr 5,[73]⟩,⟨[.p 4 0,.p 5 0,.o 0],_,[3],Lr 6,[2,68,73]⟩]) (F:=[.p 6 0,.o 2,.o 3,.o 4]) (hst.pick [0,1,2,3,4] rfl) hb Zb
           (o_p rfl (Zh Zb2 (off:=1) (by kernel_rfl) rfl rfl u_0)<|QP rfl ty_2 u_0<|Qf rfl Zcq u_0<|Ql rfl ty_2 u_0<|o_p rfl (Zca rfl rfl u_0 u_1 rfl)<|o_p rfl (Zh Zb2 (off:=1) (by kernel_rfl) rfl rfl u_0)<|o_p rfl (Zjx ty_2 rfl rfl u_2 u_1 u_0)<|o_n) (fun a g hst hb=>?_)
          refine Z4 ?_
          exact ⟨({ a0 with Num:=(IntKind.i64.wrap (a0.Num + a1.N)) }),({ Code:=(0:Int),Num:=(0:Int),Rec:=(default:Za) }:Ze),g,rfl,(hst.pick [0,1,2,3] rfl),hb,H0⟩
        ·replace H0:=Zo hc14 H0
         refine r_s (L:=[(2,_),(3,_),(4,_),(5,_),(6,_),(12,_)]) (T:=[⟨[.o 5],_,[],[],[75]⟩,⟨[.p 0 0],_,[],[0],[74]⟩]) (F:=[.o 0,.o 1,.o 2,.o 3,.o 4,.o 5,.p 1 0]) (hst.pick [0,1,2,3,4,5] rfl) hb Zb
          (o_p rfl (Z8 rfl rfl u_0 c_i)<|Qa rfl u_0<|o_n) (fun a g hst hb=>?_)
         refine wp_cond_split (hst.bool 6 rfl) (fun hc16=>?_) (fun hc16=>?_)
         ·replace H0:=Zn hc16 H0
          refine r_s (L:=[(2,_),(3,_),(4,_),(5,_),(6,_)]) (T:=[⟨[.o 0],_,[],[],[76]⟩,⟨[.p 0 0],_,[],[0],[77]⟩,⟨[.o 1],_,[],[],[78]⟩,⟨[.p 2 0],_,[],[2],[79]⟩,⟨[.p 1 0,.p 3 0],_,[],Lr 4,[80]⟩,⟨[.o 0],_,[],[],[81]⟩,⟨[.p 5 0],_,[],[5],[82]⟩,⟨[.p 4 0,.p 6 0],_,[],Lr 7,[83]⟩]) (F:=[.o 0,.o 1,.o 2,.o 3,.o 4,.p 7 0]) (hst.pick [0,1,2,3,4] rfl) hb Zb
           (o_p rfl (Zh Zb2 (off:=1) (by kernel_rfl) rfl rfl u_0)<|QP rfl ty_2 u_0<|Qf rfl Zcq u_0<|Ql rfl ty_2 u_0<|o_p rfl (Zd7 rfl rfl u_0 u_1 rfl)<|o_p rfl (Zh Zha (off:=2) (by kernel_rfl) rfl rfl u_0)<|QP rfl ty_2 u_0<|o_p rfl (Zb6 rfl rfl u_0 u_1)<|o_n) (fun a g hst hb=>?_)
          refine wp_cond_split (hst.bool 5 rfl) (fun hc17=>?_) (fun hc17=>?_)
          ·replace H0:=Zn hc17 H0
           refine r_g (L:=[(2,_),(4,_),(5,_),(6,_)]) (T:=[⟨[.o 3],_,[],[],[84]⟩,⟨[.p 0 0,.o 3],_,[7],[0],[6,84]⟩]) (F:=[.o 0,.o 1,.o 2,.p 1 0]) (hst.pick [0,2,3,4] rfl) hb Zb
            (o_p rfl (Zh Zk9 (off:=0) (by kernel_rfl) rfl rfl u_0)<|o_p rfl (Zl9 Zom rfl rfl u_1 u_0 c_i)<|o_n) (fun a g hst hb=>?_)
           refine Z4 ?_
           exact ⟨a0,({ ({ Code:=(0:Int),Num:=(0:Int),Rec:=(default:Za) }:Ze) with Code:=(10:Int) }),g,rfl,(hst.pick [0,1,2,3] rfl),hb,H0⟩
          ·replace H0:=Zo hc17 H0
           refine r_g (L:=[(2,_),(3,_),(4,_),(5,_),(6,_)]) (T:=[⟨[.o 0],_,[],[],[85]⟩,⟨[.p 0 0],_,[],[0],[86]⟩,⟨[.o 1],_,[],[],[87]⟩,⟨[.p 2 0],_,[],[2],[88]⟩,⟨[.p 1 0,.p 3 0],_,[],Lr 4,[89]⟩,⟨[.o 0],_,[],Lr 5,[90]⟩,⟨[.p 4 0,.p 5 0,.o 0],_,[3],Lr 6,[2,85,90]⟩]) (F:=[.p 6 0,.o 2,.o 3,.o 4]) (hst.pick [0,1,2,3,4] rfl) hb Zb
            (o_p rfl (Zh Zb2 (off:=1) (by kernel_rfl) rfl rfl u_0)<|QP rfl ty_2 u_0<|Qf rfl Zcq u_0<|Ql rfl ty_2 u_0<|o_p rfl (Zd7 rfl rfl u_0 u_1 rfl)<|o_p rfl (Zh Zb2 (off:=1) (by kernel_rfl) rfl rfl u_0)<|o_p rfl (Zjx ty_2 rfl rfl u_2 u_1 u_0)<|o_n) (fun a g hst hb=>?_)
           refine Z4 ?_
           exact ⟨({ a0 with Num:=(IntKind.i64.wrap (a0.Num - a1.N)) }),({ Code:=(0:Int),Num:=(0:Int),Rec:=(default:Za) }:Ze),g,rfl,(hst.pick [0,1,2,3] rfl),hb,H0⟩
         ·replace H0:=Zo hc16 H0
          refine r_s (L:=[(2,_),(3,_),(4,_),(5,_),(6,_),(12,_)]) (T:=[⟨[.o 5],_,[],[],[92]⟩,⟨[.p 0 0],_,[],[0],[91]⟩]) (F:=[.o 0,.o 1,.o 2,.o 3,.o 4,.o 5,.p 1 0]) (hst.pick [0,1,2,3,4,5] rfl) hb Zb
           (o_p rfl (Z8 rfl rfl u_0 c_i)<|Qa rfl u_0<|o_n) (fun a g hst hb=>?_)
          refine wp_cond_split (hst.bool 6 rfl) (fun hc18=>?_) (fun hc18=>?_)
          ·replace H0:=Zn hc18 H0
           obtain ⟨r19,h20,H0⟩:=Zf H0
           refine r_g (L:=[(2,_),(3,_),(4,_),(5,_),(6,_)]) (T:=[⟨[.o 0],_,[],[],[93]⟩,⟨[.p 0 0],_,[],[0],[94]⟩,⟨[.o 1],_,[],[],[95]⟩,⟨[.p 2 0],_,[],[2],[96]⟩,⟨[.p 1 0,.p 3 0],_,[],Lr 4,[97]⟩,⟨[.o 0],_,[],Lr 5,[98]⟩,⟨[.p 4 0,.p 5 0,.o 0],_,[3],Lr 6,[2,93,98]⟩]) (F:=[.p 6 0,.o 2,.o 3,.o 4]) (hst.pick [0,1,2,3,4] rfl) hb Zb
            (o_p rfl (Zh Zdi (off:=4) (by kernel_rfl) rfl rfl u_0)<|QP rfl Zb8 u_0<|Qf rfl Zg8 u_0<|Ql rfl Zb8 u_0<|o_p rfl (Zr Z8a (Zo9 _ _ h20) rfl rfl (.cons u_0 (.cons u_1 .nil)))<|o_p rfl (Zh Zdi (off:=4) (by kernel_rfl) rfl rfl u_0)<|o_p rfl (Zkm Zb8 rfl rfl u_2 u_1 u_0)<|o_n) (fun a g hst hb=>?_)
           refine Z4 ?_
           exact ⟨({ a0 with Real:=r19 }),({ Code:=(0:Int),Num:=(0:Int),Rec:=(default:Za) }:Ze),g,rfl,(hst.pick [0,1,2,3] rfl),hb,H0⟩
          ·replace H0:=Zo hc18 H0
           refine r_s (L:=[(2,_),(3,_),(4,_),(5,_),(6,_),(12,_)]) (T:=[⟨[.o 5],_,[],[],[100]⟩,⟨[.p 0 0],_,[],[0],[99]⟩]) (F:=[.o 0,.o 1,.o 2,.o 3,.o 4,.o 5,.p 1 0]) (hst.pick [0,1,2,3,4,5] rfl) hb Zb
            (o_p rfl (Z8 rfl rfl u_0 c_i)<|Qa rfl u_0<|o_n) (fun a g hst hb=>?_)
           refine wp_cond_split (hst.bool 6 rfl) (fun hc21=>?_) (fun hc21=>?_)
           ·replace H0:=Zn hc21 H0
            obtain ⟨r22,h23,H0⟩:=Zf H0
            refine r_g (L:=[(2,_),(3,_),(4,_),(5,_),(6,_)]) (T:=[⟨[.o 0],_,[],[],[101]⟩,⟨[.p 0 0],_,[],[0],[102]⟩,⟨[.o 1],_,[],[],[103]⟩,⟨[.p 2 0],_,[],[2],[104]⟩,⟨[.p 1 0,.p 3 0],_,[],Lr 4,[105]⟩,⟨[.o 0],_,[],Lr 5,[106]⟩,⟨[.p 4 0,.p 5 0,.o 0],_,[3],Lr 6,[2,101,106]⟩]) (F:=[.p 6 0,.o 2,.o 3,.o 4]) (hst.pick [0,1,2,3,4] rfl) hb Zb
             (o_p rfl (Zh Zdi (off:=4) (by kernel_rfl) rfl rfl u_0)<|QP rfl Zb8 u_0<|Qf rfl Zg8 u_0<|Ql rfl Zb8 u_0<|o_p rfl (Zr Z8t (Zpf _ _ h23) rfl rfl (.cons u_0 (.cons u_1 .nil)))<|o_p rfl (Zh Zdi (off:=4) (by kernel_rfl) rfl rfl u_0)<|o_p rfl (Zkm Zb8 rfl rfl u_2 u_1 u_0)<|o_n) (fun a g hst hb=>?_)
            refine Z4 ?_
            exact ⟨({ a0 with Real:=r22 }),({ Code:=(0:Int),Num:=(0:Int),Rec:=(default:Za) }:Ze),g,rfl,(hst.pick [0,1,2,3] rfl),hb,H0⟩
           ·replace H0:=Zo hc21 H0
            refine r_s (L:=[(2,_),(3,_),(4,_),(5,_),(6,_),(12,_)]) (T:=[⟨[.o 5],_,[],[],[108]⟩,⟨[.p 0 0],_,[],[0],[107]⟩]) (F:=[.o 0,.o 1,.o 2,.o 3,.o 4,.o 5,.p 1 0]) (hst.pick [0,1,2,3,4,5] rfl) hb Zb
             (o_p rfl (Z8 rfl rfl u_0 c_i)<|Qa rfl u_0<|o_n) (fun a g hst hb=>?_)
            refine wp_cond_split (hst.bool 6 rfl) (fun hc24=>?_) (fun hc24=>?_)
            ·replace H0:=Zn hc24 H0
             obtain ⟨r25,h26,H0⟩:=Zf H0;obtain ⟨r27,h28,H0⟩:=Zf H0
             refine r_g (L:=[(2,_),(3,_),(4,_),(5,_),(6,_)]) (T:=[⟨[.o 0],_,[],[],[109]⟩,⟨[.p 0 0],_,[],[0],[110]⟩,⟨[.o 1],_,[],[],[111]⟩,⟨[.p 2 0],_,[],[2],[112]⟩,⟨[.p 1 0,.p 3 0],_,[],Lr 4,[113]⟩,⟨[.p 4 0],_,[],Lr 5,[114]⟩,⟨[.p 5 0],_,[],Lr 6,[115]⟩,⟨[.o 0],_,[],Lr 7,[116]⟩,⟨[.p 6 0,.p 7 0,.o 0],_,[3],Lr 8,[2,109,116]⟩]) (F:=[.p 8 0,.o 2,.o 3,.o 4]) (hst.pick [0,1,2,3,4] rfl) hb Zb
              (o_p rfl (Zh Zdi (off:=4) (by kernel_rfl) rfl rfl u_0)<|QP rfl Zb8 u_0<|Qf rfl Zg8 u_0<|Ql rfl Zb8 u_0<|o_p rfl (Zwg rfl rfl u_0 u_1)<|o_p rfl (Zr Zzn (Zn6 (fun r z hr hz=>by simp only [Zed,Zdr,hr,hz,Option.bind_some,if_true]) (fun z r h=>Zkw z h) h26) rfl rfl (.cons u_0 .nil))<|o_p rfl (Zr Z0s (Zkj _ h28) rfl rfl (.cons u_0 .nil))<|o_p rfl (Zh Zdi (off:=4) (by kernel_rfl) rfl rfl u_0)<|o_p rfl (Zkm Zb8 rfl rfl u_2 u_1 u_0)<|o_n) (fun a g hst hb=>?_)
             refine Z4 ?_
             exact ⟨({ a0 with Real:=r27 }),({ Code:=(0:Int),Num:=(0:Int),Rec:=(default:Za) }:Ze),g,rfl,(hst.pick [0,1,2,3] rfl),hb,H0⟩
            ·replace H0:=Zo hc24 H0
             refine r_s (L:=[(2,_),(3,_),(4,_),(5,_),(6,_),(12,_)]) (T:=[⟨[.o 5],_,[],[],[118]⟩,⟨[.p 0 0],_,[],[0],[117]⟩]) (F:=[.o 0,.o 1,.o 2,.o 3,.o 4,.o 5,.p 1 0]) (hst.pick [0,1,2,3,4,5] rfl) hb Zb
              (o_p rfl (Z8 rfl rfl u_0 c_i)<|Qa rfl u_0<|o_n) (fun a g hst hb=>?_)
             refine wp_cond_split (hst.bool 6 rfl) (fun hc29=>?_) (fun hc29=>?_)
             ·replace H0:=Zn hc29 H0
              obtain ⟨r30,h31,H0⟩:=Zf H0;obtain ⟨r32,h33,H0⟩:=Zf H0
              refine r_g (L:=[(2,_),(3,_),(4,_),(5,_),(6,_)]) (T:=[⟨[.o 0],_,[],[],[119]⟩,⟨[.p 0 0],_,[],[0],[120]⟩,⟨[.o 1],_,[],[],[121]⟩,⟨[.p 2 0],_,[],[2],[122]⟩,⟨[.p 1 0,.p 3 0],_,[],Lr 4,[123]⟩,⟨[.p 4 0],_,[],Lr 5,[124]⟩,⟨[.p 5 0],_,[],Lr 6,[125]⟩,⟨[.o 0],_,[],Lr 7,[126]⟩,⟨[.p 6 0,.p 7 0,.o 0],_,[3],Lr 8,[2,119,126]⟩]) (F:=[.p 8 0,.o 2,.o 3,.o 4]) (hst.pick [0,1,2,3,4] rfl) hb Zb
               (o_p rfl (Zh Zdi (off:=4) (by kernel_rfl) rfl rfl u_0)<|QP rfl Zb8 u_0<|Qf rfl Zg8 u_0<|Ql rfl Zb8 u_0<|o_p rfl (Zvr rfl rfl u_0 u_1)<|o_p rfl (Zr Zzn (Zn6 (fun r z hr hz=>by simp only [Zed,Zdr,hr,hz,Option.bind_some,if_true]) (fun z r h=>Zkw z h) h31) rfl rfl (.cons u_0 .nil))<|o_p rfl (Zr Z0s (Zkj _ h33) rfl rfl (.cons u_0 .nil))<|o_p rfl (Zh Zdi (off:=4) (by kernel_rfl) rfl rfl u_0)<|o_p rfl (Zkm Zb8 rfl rfl u_2 u_1 u_0)<|o_n) (fun a g hst hb=>?_)
              refine Z4 ?_
              exact ⟨({ a0 with Real:=r32 }),({ Code:=(0:Int),Num:=(0:Int),Rec:=(default:Za) }:Ze),g,rfl,(hst.pick [0,1,2,3] rfl),hb,H0⟩
             ·replace H0:=Zo hc29 H0
              refine r_s (L:=[(2,_),(3,_),(4,_),(5,_),(6,_),(12,_)]) (T:=[⟨[.o 5],_,[],[],[128]⟩,⟨[.p 0 0],_,[],[0],[127]⟩]) (F:=[.o 0,.o 1,.o 2,.o 3,.o 4,.o 5,.p 1 0]) (hst.pick [0,1,2,3,4,5] rfl) hb Zb
               (o_p rfl (Z8 rfl rfl u_0 c_i)<|Qa rfl u_0<|o_n) (fun a g hst hb=>?_)
              refine wp_cond_split (hst.bool 6 rfl) (fun hc34=>?_) (fun hc34=>?_)
              ·replace H0:=Zn hc34 H0
               refine r_g (L:=[(2,_),(3,_),(4,_),(5,_),(6,_)]) (T:=[⟨[.o 1],_,[],[],[129]⟩,⟨[.p 0 0],_,[],[0],[130]⟩,⟨[.o 0],_,[],[0,1],[131]⟩,⟨[.p 1 0,.p 2 0,.o 0],_,[3],[0,1,2],[2,131]⟩]) (F:=[.p 3 0,.o 2,.o 3,.o 4]) (hst.pick [0,1,2,3,4] rfl) hb Zb
                (Qf rfl Zg8 u_0<|Ql rfl Zb8 u_0<|o_p rfl (Zh Zdi (off:=4) (by kernel_rfl) rfl rfl u_0)<|o_p rfl (Zkm Zb8 rfl rfl u_2 u_1 u_0)<|o_n) (fun a g hst hb=>?_)
               refine Z4 ?_
               exact ⟨({ a0 with Real:=a1.X }),({ Code:=(0:Int),Num:=(0:Int),Rec:=(default:Za) }:Ze),g,rfl,(hst.pick [0,1,2,3] rfl),hb,H0⟩
              ·replace H0:=Zo hc34 H0
               refine r_s (L:=[(2,_),(3,_),(4,_),(5,_),(6,_),(12,_)]) (T:=[⟨[.o 5],_,[],[],[133]⟩,⟨[.p 0 0],_,[],[0],[132]⟩]) (F:=[.o 0,.o 1,.o 2,.o 3,.o 4,.o 5,.p 1 0]) (hst.pick [0,1,2,3,4,5] rfl) hb Zb
                (o_p rfl (Z8 rfl rfl u_0 c_i)<|Qa rfl u_0<|o_n) (fun a g hst hb=>?_)
               refine wp_cond_split (hst.bool 6 rfl) (fun hc35=>?_) (fun hc35=>?_)
               ·replace H0:=Zn hc35 H0
                obtain ⟨r36,h37,H0⟩:=Zf H0
                refine r_s (L:=[(2,_),(3,_),(4,_),(5,_),(6,_)]) (T:=⟨[.o 0],_,[],[],[134]⟩ :: ⟨[.p 0 0],_,[],[0],[135]⟩ :: ⟨[.o 1],_,[],[],[136]⟩ :: ⟨[.p 2 0],_,[],[2],[137]⟩ :: ⟨[.p 1 0,.p 3 0],_,[],Lr 4,[138]⟩ :: ⟨[.p 4 0],_,[],Lr 5,[139]⟩ :: ⟨[.p 5 0],_,[],Lr 6,[140]⟩ :: ⟨[.p 6 0,.o 0],_,[],Lr 7,[141]⟩ :: ⟨[.p 6 0,.p 7 0],_,[],Lr 8,[142]⟩ :: ⟨[.p 6 0,.p 8 0],_,[],Lr 9,[143]⟩ :: ⟨[.p 6 0,.o 0],_,[],Lr 7,[144]⟩ :: ⟨[.p 6 0,.p 10 0],_,[],[0,1,2,3,4,5,6,10],[145]⟩ :: ⟨[.p 6 0,.p 9 0,.p 11 0],_,[],Lr 12,[146]⟩ :: ⟨[.p 6 0,.p 12 0],_,[],Lr 13,[147]⟩ :: []) (F:=[.o 0,.o 1,.o 2,.o 3,.o 4,.p 13 0]) (hst.pick [0,1,2,3,4] rfl) hb Zb
                 (o_p rfl (Zh Zbw (off:=7) (by kernel_rfl) rfl rfl u_0)<|QP rfl Zcg u_0<|Qf rfl Zea u_0<|Ql rfl ty_9 u_0<|o_p rfl (Zr Z0t (Zlm _ _ h37) rfl rfl (.cons u_0 (.cons u_1 .nil)))<|Qn rfl u_0<|Qm rfl u_0<|o_g (Qg_t rfl (fun hG=>Zh Zbw (off:=7) (by kernel_rfl) rfl rfl u_0))<|o_g (Qg_t rfl (fun hG=>Zh5 Zcg rfl rfl (Opd.gd hG u_0)))<|o_g (Qg_t rfl (fun hG=>Zcc Tryd.underlying23 rfl rfl (Opd.gd hG u_0)))<|o_g (Qg_t rfl (fun hG=>Zh Zet (off:=5) (by kernel_rfl) rfl rfl u_0))<|o_g (Qg_t rfl (fun hG=>Zh5 ty_3 rfl rfl (Opd.gd hG u_0)))<|o_g (Qg_t rfl (fun hG=>Zkz rfl rfl (Opd.gd hG u_0) (Opd.gd hG u_1)))<|o_p rfl (Zbe rfl rfl u_0 (fun hz=>(Opd.gd hz u_1)))<|o_n) (fun a g hst hb=>?_)
                refine wp_cond_split (hst.bool 5 rfl) (fun hc38=>?_) (fun hc38=>?_)
                ·replace H0:=Zn hc38 H0
                 refine r_g (L:=[(2,_),(4,_),(5,_),(6,_)]) (T:=[⟨[.o 3],_,[],[],[148]⟩,⟨[.p 0 0,.o 3],_,[7],[0],[6,148]⟩]) (F:=[.o 0,.o 1,.o 2,.p 1 0]) (hst.pick [0,2,3,4] rfl) hb Zb
                  (o_p rfl (Zh Zk9 (off:=0) (by kernel_rfl) rfl rfl u_0)<|o_p rfl (Zl9 Zom rfl rfl u_1 u_0 c_i)<|o_n) (fun a g hst hb=>?_)
                 refine Z4 ?_
                 exact ⟨a0,({ ({ Code:=(0:Int),Num:=(0:Int),Rec:=(default:Za) }:Ze) with Code:=(8:Int) }),g,rfl,(hst.pick [0,1,2,3] rfl),hb,H0⟩
                ·replace H0:=Zo hc38 H0
                 obtain ⟨r39,h40,H0⟩:=Zf H0
                 refine r_g (L:=[(2,_),(3,_),(4,_),(5,_),(6,_)]) (T:=[⟨[.o 0],_,[],[],[149]⟩,⟨[.p 0 0],_,[],[0],[150]⟩,⟨[.o 1],_,[],[],[151]⟩,⟨[.p 2 0],_,[],[2],[152]⟩,⟨[.p 3 0],_,[],[2,3],[153]⟩,⟨[.p 1 0,.p 4 0],_,[],Lr 5,[154]⟩,⟨[.o 0],_,[],Lr 6,[155]⟩,⟨[.p 5 0,.p 6 0,.o 0],_,[3],Lr 7,[2,149,155]⟩]) (F:=[.p 7 0,.o 2,.o 3,.o 4]) (hst.pick [0,1,2,3,4] rfl) hb Zb
                  (o_p rfl (Zh Zbw (off:=7) (by kernel_rfl) rfl rfl u_0)<|QP rfl Zcg u_0<|Qf rfl Zea u_0<|Ql rfl ty_9 u_0<|o_p rfl (Zxd rfl rfl u_0)<|o_p rfl (Zr Zzj (Zk1 _ _ _ h40) rfl rfl (.cons u_0 (.cons u_1 (.cons c_b .nil))))<|o_p rfl (Zh Zbw (off:=7) (by kernel_rfl) rfl rfl u_0)<|o_p rfl (Zkl Zcg rfl rfl u_2 u_1 u_0)<|o_n) (fun a g hst hb=>?_)
                 refine Z4 ?_
                 exact ⟨({ a0 with List:=r39 }),({ Code:=(0:Int),Num:=(0:Int),Rec:=(default:Za) }:Ze),g,rfl,(hst.pick [0,1,2,3] rfl),hb,H0⟩
               ·replace H0:=Zo hc35 H0
                refine r_s (L:=[(2,_),(3,_),(4,_),(5,_),(6,_),(12,_)]) (T:=[⟨[.o 5],_,[],[],[157]⟩,⟨[.p 0 0],_,[],[0],[156]⟩]) (F:=[.o 0,.o 1,.o 2,.o 3,.o 4,.o 5,.p 1 0]) (hst.pick [0,1,2,3,4,5] rfl) hb Zb
                 (o_p rfl (Z8 rfl rfl u_0 c_i)<|Qa rfl u_0<|o_n) (fun a g hst hb=>?_)
                refine wp_cond_split (hst.bool 6 rfl) (fun hc41=>?_) (fun hc41=>?_)
                ·replace H0:=Zn hc41 H0
                 refine r_s (L:=[(2,_),(3,_),(4,_),(5,_),(6,_)]) (T:=[⟨[],_,[159],[],[158]⟩,⟨[.p 0 0],_,[],[0],[7]⟩]) (F:=[.o 0,.o 1,.o 2,.o 3,.o 4,.p 1 0]) (hst.pick [0,1,2,3,4] rfl) hb Zb
                  (o_p rfl (Zm4 158 Zcx (xs:=[]) .nil (by decide) rfl rfl)<|Qa rfl u_0<|o_n) (fun a g hst hb=>?_)
                 refine wp_seq ?_
                 refine r_s (T:=[⟨[],_,[],[],[8]⟩]) (F:=[.o 0,.o 1,.o 2,.o 3,.o 4,.o 5,.p 0 0]) hst hb Zb
                  (Qa rfl c_i<|o_n) (fun a g hst hb=>?_)
                 obtain ⟨z53,hz1,H0⟩:=Zf H0
                 refine Zbz (fun a w=>∃ (y52:List Zd) (g:G),w=g.w ∧ St 217 [(2,(pBox Zc 2 a0)),(4,(pBox Zc 4 (default:Za))),(5,(pBox Zt 5 (default:Ze))),(6,(pBox Zt 6 ({ Code:=(0:Int),Num:=(0:Int),Rec:=(default:Za) }:Ze))),(7,(pRow Zp 75 158 y52))] a g ∧ Base g0 g ∧ y52=z53) ?_ ?_
                 ·rintro a w ⟨y52,g,rfl,hst,hb,rfl⟩
                  refine Zm ?_
                  refine r_g (T:=[⟨[.o 4],_,[],[],[183]⟩,⟨[.o 0],_,[],[0],[184]⟩,⟨[.p 0 0,.p 1 0,.o 0],_,[3],[0,1],[2,184]⟩]) (F:=[.p 2 0,.o 1,.o 2,.o 3]) hst hb Zb
                   (Qm rfl u_0<|o_p rfl (Zh Zbw (off:=7) (by kernel_rfl) rfl rfl u_0)<|o_p rfl (Zkl Zcg rfl rfl u_2 u_1 (Opd.imp u_0 (fun _ _ h=>Zlr h)))<|o_n) (fun a g hst hb=>?_)
                  refine Z4 ?_
                  exact ⟨({ a0 with List:=y52 }),({ Code:=(0:Int),Num:=(0:Int),Rec:=(default:Za) }:Ze),g,rfl,(hst.pick [0,1,2,3] rfl),hb,H0⟩
                 ·refine wp_block ?_
                  refine wp_loop_ghost (fun n a w=>∃ (x42:List Zd) (x43:Int) (g:G),w=g.w ∧ St 217 [(2,(pBox Zc 2 a0)),(3,(Z1.ptr a1)),(4,(pBox Zc 4 (default:Za))),(5,(pBox Zt 5 (default:Ze))),(6,(pBox Zt 6 ({ Code:=(0:Int),Num:=(0:Int),Rec:=(default:Za) }:Ze))),(7,(pRow Zp 75 158 x42)),(8,(pInt .i64 x43))] a g ∧ Base g0 g ∧ Zcm a0 a1 n x42 x43=some z53) (Int.toNat ((a0.List.length:Int) - (0:Int)) + 1) ⟨([]:List Zd),(0:Int),g,rfl,(hst.pick [0,1,2,3,4,5,6] rfl),hb,hz1⟩ (fun n a w hI=>?_)
                  obtain ⟨x42,x43,g,rfl,hst,hb,H1⟩:=hI
                  cases n with
                  | zero=>exact absurd H1 (by simp [Zcm])
                  | succ n =>
                   rw [Zcm] at H1
                   refine wp_seq ?_
                   refine r_s (T:=[⟨[.o 6],_,[],[],[159]⟩,⟨[.o 0],_,[],[],[160]⟩,⟨[.p 1 0],_,[],[1],[161]⟩,⟨[.p 2 0],_,[],[1,2],[162]⟩,⟨[.p 0 0,.p 3 0],_,[],Lr 4,[163]⟩]) (F:=[.o 0,.o 1,.o 2,.o 3,.o 4,.o 5,.o 6,.p 4 0]) hst hb Zb
                    (Qm rfl u_0<|o_p rfl (Zh Zbw (off:=7) (by kernel_rfl) rfl rfl u_0)<|QP rfl Zcg u_0<|o_p rfl (Zcc Tryd.underlying23 rfl rfl u_0)<|o_p rfl (Zb6 rfl rfl u_0 u_1)<|o_n) (fun a g hst hb=>?_)
                   refine wp_cond_split (hst.bool 7 rfl) (fun hc44=>?_) (fun hc44=>?_)
                   ·replace H1:=Zn hc44 H1
                    refine wp_skip ?_
                    refine Zm ?_
                    refine wp_seq ?_
                    refine Zbz (fun a w=>∃ (j51:List Zd) (g:G),w=g.w ∧ St 217 [(2,(pBox Zc 2 a0)),(3,(Z1.ptr a1)),(4,(pBox Zc 4 (default:Za))),(5,(pBox Zt 5 (default:Ze))),(6,(pBox Zt 6 ({ Code:=(0:Int),Num:=(0:Int),Rec:=(default:Za) }:Ze))),(7,(pRow Zp 75 158 j51)),(8,(pInt .i64 x43))] a g ∧ Base g0 g ∧ Zg0 x43 (Zcm a0 a1 n) j51=some z53) ?_ ?_
                    ·rintro a w ⟨j51,g,rfl,hst,hb,H1⟩
                     unfold Zg0 at H1
                     refine Zm ?_
                     refine r_g (T:=[⟨[.o 6],_,[],[],[164]⟩,⟨[.p 0 0],_,[],[0],[165]⟩,⟨[.p 1 0],_,[],[0,1],[8]⟩]) (F:=[.o 0,.o 1,.o 2,.o 3,.o 4,.o 5,.p 2 0]) hst hb Zb
                      (Qm rfl u_0<|o_p rfl (Zca rfl rfl u_0 c_i rfl)<|Qa rfl u_0<|o_n) (fun a g hst hb=>?_)
                     exact ⟨n,Nat.lt_succ_self _,j51,(IntKind.i64.wrap (x43 + (1:Int))),g,rfl,(hst.pick [0,1,2,3,4,5,6] rfl),hb,H1⟩
                    ·refine wp_block ?_
                     obtain ⟨e45,h46,H1⟩:=Zf H1
                     refine r_s (L:=[(2,_),(3,_),(4,_),(5,_),(6,_),(7,_),(8,_)]) (T:=[⟨[.o 0],_,[],[],[166]⟩,⟨[.p 0 0],_,[],[0],[167]⟩,⟨[.o 6],_,[],[],[168]⟩,⟨[.p 1 0,.p 2 0],_,[],[0,1,2],[169]⟩,⟨[.p 3 0],_,[],Lr 4,[170]⟩,⟨[.p 4 0],_,[],Lr 5,[171]⟩,⟨[.o 1],_,[],[],[172]⟩,⟨[.p 6 0],_,[],[6],[173]⟩,⟨[.p 5 0,.p 7 0],_,[],Lr 8,[174]⟩]) (F:=[.o 0,.o 1,.o 2,.o 3,.o 4,.o 5,.o 6,.p 8 0]) (hst.pick [0,1,2,3,4,5,6] rfl) hb Zb
                      (o_p rfl (Zh Zbw (off:=7) (by kernel_rfl) rfl rfl u_0)<|QP rfl Zcg u_0<|Qm rfl u_0<|o_p rfl (Zbk Tryd.underlying23 Zee rfl rfl u_0 u_1 h46)<|Qf rfl Zdh u_0<|Ql rfl ty_9 u_0<|Qf rfl Zea u_0<|Ql rfl ty_9 u_0<|o_p rfl (Zpl rfl rfl u_0 u_1)<|o_n) (fun a g hst hb=>?_)
                     refine wp_cond_split (hst.bool 7 rfl) (fun hc47=>?_) (fun hc47=>?_)
                     ·replace H1:=Zn hc47 H1
                      obtain ⟨e48,h49,H1⟩:=Zf H1;obtain ⟨h50,H1⟩:=Zg2 H1
                      refine r_g (L:=[(2,_),(3,_),(4,_),(5,_),(6,_),(7,_),(8,_)]) (T:=[⟨[.o 5],_,[],[],[175]⟩,⟨[.o 0],_,[],[],[176]⟩,⟨[.p 1 0],_,[],[1],[177]⟩,⟨[.o 6],_,[],[],[178]⟩,⟨[.p 2 0,.p 3 0],_,[],[1,2,3],[179]⟩,⟨[.p 4 0],_,[],List.range' 1 4,[180]⟩,⟨[.p 5 0],_,[],List.range' 1 5,[181]⟩,⟨[.p 0 0,.p 6 0],_,[159],Lr 7,[7,175,182]⟩,⟨[.p 7 0],_,[],Lr 8,[7]⟩]) (F:=[.o 0,.o 1,.o 2,.o 3,.o 4,.p 8 0,.o 6]) (hst.pick [0,1,2,3,4,5,6] rfl) hb Zb
                       (Qm rfl u_0<|o_p rfl (Zh Zbw (off:=7) (by kernel_rfl) rfl rfl u_0)<|QP rfl Zcg u_0<|Qm rfl u_0<|o_p rfl (Zbk Tryd.underlying23 Zee rfl rfl u_0 u_1 h49)<|Ql rfl Zdt u_0<|o_p rfl (Zhg Zcx (xs:=[.tmp 180]) (.cons u_0 .nil) (by decide) rfl rfl)<|o_p rfl (Zjh Zcx rfl rfl u_0 u_1 h50)<|Qa rfl u_0<|o_n) (fun a g hst hb=>?_)
                      refine Z4 ?_
                      exact ⟨(x42 ++ ([e48]:List Zd)),g,rfl,(hst.pick [0,1,2,3,4,5,6] rfl),hb,H1⟩
                     ·replace H1:=Zo hc47 H1
                      refine wp_skip ?_
                      refine Z4 ?_
                      exact ⟨x42,g,rfl,(hst.pick [0,1,2,3,4,5,6] rfl),hb,H1⟩
                   ·replace H1:=Zo hc44 H1
                    refine wp_exit ?_
                    refine Zb7 ?_
                    refine Zb7 ?_
                    refine Zct ?_
                    exact ⟨x42,g,rfl,(hst.pick [0,2,3,4,5] rfl),hb,Option.some.inj H1⟩
                ·replace H0:=Zo hc41 H0
                 refine r_s (L:=[(2,_),(3,_),(4,_),(5,_),(6,_),(12,_)]) (T:=[⟨[.o 5],_,[],[],[186]⟩,⟨[.p 0 0],_,[],[0],[185]⟩]) (F:=[.o 0,.o 1,.o 2,.o 3,.o 4,.o 5,.p 1 0]) (hst.pick [0,1,2,3,4,5] rfl) hb Zb
                  (o_p rfl (Z8 rfl rfl u_0 c_i)<|Qa rfl u_0<|o_n) (fun a g hst hb=>?_)
                 refine wp_cond_split (hst.bool 6 rfl) (fun hc54=>?_) (fun hc54=>?_)
                 ·replace H0:=Zn hc54 H0
                  obtain ⟨r55,h56,H0⟩:=Zf H0
                  refine r_s (L:=[(2,_),(3,_),(4,_),(5,_),(6,_)]) (T:=[⟨[.o 0],_,[],[],[187]⟩,⟨[.p 0 0],_,[],[0],[188]⟩,⟨[.o 1],_,[],[],[189]⟩,⟨[.p 2 0],_,[],[2],[190]⟩,⟨[.p 1 0,.p 3 0],_,[],Lr 4,[191]⟩,⟨[.p 4 0],_,[],Lr 5,[192]⟩]) (F:=[.o 0,.o 2,.o 3,.o 4,.p 5 0]) (hst.pick [0,1,2,3,4] rfl) hb Zb
                   (o_p rfl (Zh Zbw (off:=7) (by kernel_rfl) rfl rfl u_0)<|QP rfl Zcg u_0<|Qf rfl Zea u_0<|Ql rfl ty_9 u_0<|o_p rfl (Zr Z0t (Zlm _ _ h56) rfl rfl (.cons u_0 (.cons u_1 .nil)))<|Qn rfl u_0<|o_n) (fun a g hst hb=>?_)
                  refine wp_cond_split (hst.bool 4 rfl) (fun hc57=>?_) (fun hc57=>?_)
                  ·replace H0:=Zn hc57 H0
                   refine r_g (L:=[(2,_),(4,_),(5,_),(6,_)]) (T:=[⟨[.o 3],_,[],[],[193]⟩,⟨[.p 0 0,.o 3],_,[7],[0],[6,193]⟩]) (F:=[.o 0,.o 1,.o 2,.p 1 0]) (hst.pick [0,1,2,3] rfl) hb Zb
                    (o_p rfl (Zh Zk9 (off:=0) (by kernel_rfl) rfl rfl u_0)<|o_p rfl (Zl9 Zom rfl rfl u_1 u_0 c_i)<|o_n) (fun a g hst hb=>?_)
                   refine Z4 ?_
                   exact ⟨a0,({ ({ Code:=(0:Int),Num:=(0:Int),Rec:=(default:Za) }:Ze) with Code:=(11:Int) }),g,rfl,(hst.pick [0,1,2,3] rfl),hb,H0⟩
                  ·replace H0:=Zo hc57 H0
                   refine wp_skip ?_
                   refine Z4 ?_
                   exact ⟨a0,({ Code:=(0:Int),Num:=(0:Int),Rec:=(default:Za) }:Ze),g,rfl,(hst.pick [0,1,2,3] rfl),hb,H0⟩
                 ·replace H0:=Zo hc54 H0
                  refine r_s (L:=[(2,_),(3,_),(4,_),(5,_),(6,_),(12,_)]) (T:=[⟨[.o 5],_,[],[],[195]⟩,⟨[.p 0 0],_,[],[0],[194]⟩]) (F:=[.o 0,.o 1,.o 2,.o 3,.o 4,.p 1 0]) (hst.pick [0,1,2,3,4,5] rfl) hb Zb
                   (o_p rfl (Z8 rfl rfl u_0 c_i)<|Qa rfl u_0<|o_n) (fun a g hst hb=>?_)
                  refine wp_cond_split (hst.bool 5 rfl) (fun hc58=>?_) (fun hc58=>?_)
                  ·replace H0:=Zn hc58 H0
                   obtain ⟨r59,h60,H0⟩:=Zf H0
                   refine r_s (L:=[(2,_),(3,_),(4,_),(5,_),(6,_)]) (T:=[⟨[.o 0],_,[],[],[196]⟩,⟨[.p 0 0],_,[],[0],[197]⟩,⟨[.o 1],_,[],[],[198]⟩,⟨[.p 2 0],_,[],[2],[199]⟩,⟨[.o 1],_,[],[],[200]⟩,⟨[.p 4 0],_,[],[4],[201]⟩,⟨[.p 3 0,.p 5 0],_,[],List.range' 2 4,[202]⟩,⟨[.p 1 0,.p 6 0],_,[],Lr 7,[203]⟩,⟨[.p 7 0],_,[],Lr 8,[9]⟩]) (F:=[.o 0,.o 2,.o 3,.o 4,.p 8 0]) (hst.pick [0,1,2,3,4] rfl) hb Zb
                    (o_p rfl (Zh Zbw (off:=7) (by kernel_rfl) rfl rfl u_0)<|QP rfl Zcg u_0<|Qf rfl Zg8 u_0<|Ql rfl Zb8 u_0<|Qf rfl Zea u_0<|Ql rfl ty_9 u_0<|o_p rfl (Zt4 rfl rfl u_0 u_1)<|o_p rfl (Zr Zzj (Zk1 _ _ _ h60) rfl rfl (.cons u_0 (.cons u_1 (.cons c_b .nil))))<|Qa rfl u_0<|o_n) (fun a g hst hb=>?_)
                   refine wp_seq ?_
                   refine r_s (T:=[⟨[.o 4],_,[],[],[204]⟩,⟨[.p 0 0],_,[],[0],[205]⟩,⟨[.o 0],_,[],[],[206]⟩,⟨[.p 2 0],_,[],[2],[207]⟩,⟨[.p 1 0,.p 3 0],_,[],Lr 4,[208]⟩]) (F:=[.o 0,.o 1,.o 2,.o 3,.o 4,.p 4 0]) hst hb Zb
                    (Qm rfl u_0<|o_p rfl (Zcc Tryd.underlying23 rfl rfl u_0)<|o_p rfl (Zh Zet (off:=5) (by kernel_rfl) rfl rfl u_0)<|QP rfl ty_3 u_0<|o_p rfl (Zcf rfl rfl u_0 u_1)<|o_n) (fun a g hst hb=>?_)
                   refine Zbz (fun a w=>∃ (j64:List Zd) (g:G),w=g.w ∧ St 217 [(2,(pBox Zc 2 a0)),(4,(pBox Zc 4 (default:Za))),(5,(pBox Zt 5 (default:Ze))),(6,(pBox Zt 6 ({ Code:=(0:Int),Num:=(0:Int),Rec:=(default:Za) }:Ze))),(9,(Zp.sl.pd j64))] a g ∧ Base g0 g ∧ Zcv a0 j64=some r) ?_ ?_
                   ·rintro a w ⟨j64,g,rfl,hst,hb,H0⟩
                    unfold Zcv at H0
                    refine Zm ?_
                    refine r_g (T:=[⟨[.o 4],_,[],[],[213]⟩,⟨[.o 0],_,[],[0],[214]⟩,⟨[.p 0 0,.p 1 0,.o 0],_,[3],[0,1],[2,214]⟩]) (F:=[.p 2 0,.o 1,.o 2,.o 3]) hst hb Zb
                     (Qm rfl u_0<|o_p rfl (Zh Zbw (off:=7) (by kernel_rfl) rfl rfl u_0)<|o_p rfl (Zkl Zcg rfl rfl u_2 u_1 u_0)<|o_n) (fun a g hst hb=>?_)
                    refine Z4 ?_
                    exact ⟨({ a0 with List:=j64 }),({ Code:=(0:Int),Num:=(0:Int),Rec:=(default:Za) }:Ze),g,rfl,(hst.pick [0,1,2,3] rfl),hb,H0⟩
                   ·refine wp_cond_split (hst.bool 5 rfl) (fun hc61=>?_) (fun hc61=>?_)
                    ·replace H0:=Zn hc61 H0
                     obtain ⟨c62,h63,H0⟩:=Zf H0
                     refine r_g (L:=[(2,_),(4,_),(5,_),(6,_),(9,_)]) (T:=[⟨[.o 4],_,[],[],[209]⟩,⟨[.o 0],_,[],[],[210]⟩,⟨[.p 1 0],_,[],[1],[211]⟩,⟨[.p 0 0,.p 2 0],_,[],[0,1,2],[212]⟩,⟨[.p 3 0],_,[],Lr 4,[9]⟩]) (F:=[.o 0,.o 1,.o 2,.o 3,.p 4 0]) (hst.pick [0,1,2,3,4] rfl) hb Zb
                      (Qm rfl u_0<|o_p rfl (Zh Zet (off:=5) (by kernel_rfl) rfl rfl u_0)<|QP rfl ty_3 u_0<|o_p rfl (Zsl Tryd.underlying23 Zee rfl rfl u_0 u_1 h63)<|Qa rfl u_0<|o_n) (fun a g hst hb=>?_)
                     exact ⟨c62,g,rfl,(hst.pick [0,1,2,3,4] rfl),hb,H0⟩
                    ·replace H0:=Zo hc61 H0
                     refine wp_skip ?_
                     exact ⟨r59,g,rfl,(hst.pick [0,1,2,3,4] rfl),hb,H0⟩
                  ·replace H0:=Zo hc58 H0
                   refine wp_skip ?_
                   refine Z4 ?_
                   exact ⟨a0,({ Code:=(0:Int),Num:=(0:Int),Rec:=(default:Za) }:Ze),g,rfl,(hst.pick [0,2,3,4] rfl),hb,H0⟩
      ·refine wp_cond_split (hst.bool 6 rfl) (fun hc10=>?_) (fun hc10=>?_)
       ·replace H0:=Zn hc10 H0
        refine wp_skip ?_
        exact ⟨(a1.Kind == (9:Int)),g,rfl,(hst.pick [0,1,2,3,4,5,6] rfl),hb,H0⟩
       ·replace H0:=Zo hc10 H0
        refine r_g (L:=[(2,_),(3,_),(4,_),(5,_),(6,_),(12,_)]) (T:=[⟨[.o 5],_,[],[],[50]⟩,⟨[.p 0 0],_,[],[0],[48]⟩]) (F:=[.o 0,.o 1,.o 2,.o 3,.o 4,.o 5,.p 1 0]) (hst.pick [0,1,2,3,4,5] rfl) hb Zb
         (o_p rfl (Z8 rfl rfl u_0 c_i)<|Qa rfl u_0<|o_n) (fun a g hst hb=>?_)
        exact ⟨(a1.Kind == (12:Int)),g,rfl,(hst.pick [0,1,2,3,4,5,6] rfl),hb,H0⟩
theorem Zod (a0:Za) (a1:Bool) (a2:Zi) {r:Za × Bool × Ze} (h:Zfo a0 a1 a2=some r):FnOk Tryd.prog 41 [(Zc.pd a0),(Zba a1),(Z1.pd a2)] (pTup [(Zc.pd r.1),(Zba r.2.1),(Zt.pd r.2.2)]):=by
 have H0:=h
 unfold Zfo at H0
 clear h
 refine Zbt (N:=109) Tryd.func41 rfl rfl (Qe rfl) rfl rfl (fun a g0 hst hb=>?_)
 refine r_s (T:=[⟨[.o 0],_,[4],[],[3]⟩,⟨[.o 2],_,[],[],[5]⟩,⟨[],[(6,(pBox Zc 6 (default:Za)))],[7],[],[6]⟩,⟨[],_,[],[],[7]⟩,⟨[],[(8,(pBox Zt 8 (default:Ze)))],[9],[],[8]⟩]) (F:=[.o 1,.p 0 0,.p 1 0,.p 2 0,.p 4 0]) hst hb Zb
  (o_p rfl (Zj0 rfl rfl u_0)<|Qb rfl u_0<|o_p rfl (Zbm (zs:=[.int .i64 0,.int .i64 0,.int .i64 0,.int .i64 0,.float .f64 0,.int .i64 0,.string ByteArray.empty,.slice none 0 0]) (by kernel_rfl) (fun g=>Zbr g) rfl rfl)<|Qa rfl c_b<|o_p rfl (Zbm (zs:=[.int .i64 0,.int .i64 0,.int .i64 0,.int .i64 0,.int .i64 0,.int .i64 0,.float .f64 0,.int .i64 0,.string ByteArray.empty,.slice none 0 0]) (by kernel_rfl) (fun g=>Zfd g) rfl rfl)<|o_n) (fun a g hst hb=>?_)
 refine wp_seq ?_
 refine r_s (T:=[⟨[.o 0],_,[],[],[13]⟩,⟨[.p 0 0],_,[],[0],[14]⟩]) (F:=[.o 0,.o 1,.o 2,.o 3,.o 4,.p 1 0]) hst hb Zb
  (Qm rfl u_0<|Qn rfl u_0<|o_n) (fun a g hst hb=>?_)
 refine Zbz (fun a w=>∃ (j2:Za) (g:G),w=g.w ∧ St 109 [(1,(Zba a1)),(3,(pBox Zc 3 j2)),(5,(Z1.ptr a2)),(6,(pBox Zc 6 (default:Za))),(8,(pBox Zt 8 (default:Ze)))] a g ∧ Base g0 g ∧ Zeq a1 a2 j2=some r) ?_ ?_
 ·rintro a w ⟨j2,g,rfl,hst,hb,H0⟩
  unfold Zeq at H0
  refine Zm ?_
  obtain ⟨r3,h4,H0⟩:=Zf H0
  refine r_s (T:=[⟨[.o 1],_,[],[],[16]⟩,⟨[.p 0 0],_,[],[0],[17]⟩,⟨[.p 1 0,.o 1],_,[4],[0,1],[3]⟩]) (F:=[.o 0,.p 2 0,.o 2,.o 3,.o 4]) hst hb Zb
   (QM rfl Z0 u_0<|o_p rfl (Zr Zul (Zgt _ h4) rfl rfl (.cons u_0 .nil))<|o_p rfl (Z6 Z0 rfl rfl u_1 u_0)<|o_n) (fun a g hst hb=>?_)
  obtain ⟨r5,h6,H0⟩:=Zf H0
  refine r_s (T:=[⟨[.o 2],_,[],[],[18]⟩,⟨[.p 0 0],_,[],[0],[19]⟩,⟨[.p 1 0],_,[],[0,1],[9]⟩]) (F:=[.o 0,.o 1,.o 2,.o 3,.o 4,.p 2 0]) hst hb Zb
   (Ql rfl Zgr u_0<|o_p rfl (Zr Z7f (Zob _ h6) rfl rfl (.cons u_0 .nil))<|Qa rfl u_0<|o_n) (fun a g hst hb=>?_)
  refine wp_seq ?_
  refine r_s (T:=[⟨[.o 5],_,[],[],[20]⟩,⟨[.p 0 0],_,[],[0],[21]⟩,⟨[.p 1 0],_,[],[0,1],[22]⟩,⟨[.p 2 0,.o 0],_,[],[0,1,2],[23]⟩,⟨[.p 2 0,.p 3 0],_,[],Lr 4,[24]⟩]) (F:=[.o 0,.o 1,.o 2,.o 3,.o 4,.o 5,.p 4 0]) hst hb Zb
   (Qm rfl u_0<|o_p rfl (Z8 rfl rfl u_0 c_i)<|Qm rfl u_0<|o_g (Qg_t rfl (fun hG=>Zy rfl rfl u_0))<|o_p rfl (Zbe rfl rfl u_0 (fun hz=>(Opd.gd hz u_1)))<|o_n) (fun a g hst hb=>?_)
  refine Zbz (fun a w=>∃ (j10:Int) (g:G),w=g.w ∧ St 109 [(1,(Zba a1)),(3,(pBox Zc 3 r3)),(5,(Z1.ptr a2)),(6,(pBox Zc 6 (default:Za))),(8,(pBox Zt 8 (default:Ze))),(9,(pInt .i64 j10))] a g ∧ Base g0 g ∧ Zdn a1 a2 r3 j10=some r) ?_ ?_
  ·rintro a w ⟨j10,g,rfl,hst,hb,H0⟩
   unfold Zdn at H0
   refine Zm ?_
   refine wp_seq ?_
   refine r_s (T:=[⟨[.o 5],_,[],[],[27]⟩,⟨[.p 0 0],_,[],[0],[28]⟩,⟨[.p 1 0],_,[],[0,1],[29]⟩,⟨[.p 2 0,.o 2],_,[],[0,1,2],[30]⟩,⟨[.p 2 0,.p 3 0],_,[],Lr 4,[31]⟩,⟨[.p 2 0,.p 4 0],_,[],Lr 5,[32]⟩,⟨[.p 2 0,.p 5 0],_,[],Lr 6,[33]⟩,⟨[.p 6 0],_,[],Lr 7,[34]⟩,⟨[.p 7 0,.o 0],_,[],Lr 8,[35]⟩,⟨[.p 7 0,.p 8 0],_,[],Lr 9,[36]⟩]) (F:=[.o 0,.o 1,.o 2,.o 3,.o 4,.o 5,.p 9 0]) hst hb Zb
    (Qm rfl u_0<|o_p rfl (Z8 rfl rfl u_0 c_i)<|Qm rfl u_0<|o_g (Qg_t rfl (fun hG=>Zj Zch rfl rfl u_0))<|o_g (Qg_t rfl (fun hG=>Zs ty_3 rfl rfl (Opd.gd hG u_0)))<|o_g (Qg_t rfl (fun hG=>Z8 rfl rfl (Opd.gd hG u_0) c_i))<|o_p rfl (Zbe rfl rfl u_0 (fun hz=>(Opd.gd hz u_1)))<|Qm rfl u_0<|o_g (Qg_t rfl (fun hG=>Zy rfl rfl u_0))<|o_p rfl (Zbe rfl rfl u_0 (fun hz=>(Opd.gd hz u_1)))<|o_n) (fun a g hst hb=>?_)
   refine Zbz (fun a w=>∃ (j12:Int) (g:G),w=g.w ∧ St 109 [(1,(Zba a1)),(3,(pBox Zc 3 r3)),(5,(Z1.ptr a2)),(6,(pBox Zc 6 (default:Za))),(8,(pBox Zt 8 (default:Ze))),(9,(pInt .i64 j12))] a g ∧ Base g0 g ∧ Zes a1 a2 r3 j12=some r) ?_ ?_
   ·rintro a w ⟨j12,g,rfl,hst,hb,H0⟩
    unfold Zes at H0
    refine Zm ?_
    refine wp_seq ?_
    refine r_s (T:=⟨[.o 5],_,[],[],[37]⟩ :: ⟨[.p 0 0],_,[],[0],[38]⟩ :: ⟨[.p 1 0],_,[],[0,1],[39]⟩ :: ⟨[.p 2 0,.o 0],_,[],[0,1,2],[40]⟩ :: ⟨[.p 2 0,.p 3 0],_,[],Lr 4,[41]⟩ :: ⟨[.p 2 0,.p 4 0],_,[],Lr 5,[42]⟩ :: ⟨[.p 5 0],_,[],Lr 6,[43]⟩ :: ⟨[.p 6 0,.o 2],_,[],Lr 7,[44]⟩ :: ⟨[.p 6 0,.p 7 0],_,[],Lr 8,[45]⟩ :: ⟨[.p 6 0,.p 8 0],_,[],Lr 9,[46]⟩ :: ⟨[.p 6 0,.p 9 0],_,[],Lr 10,[47]⟩ :: ⟨[.p 10 0],_,[],Lr 11,[48]⟩ :: ⟨[.p 11 0,.o 2],_,[],Lr 12,[49]⟩ :: ⟨[.p 11 0,.p 12 0],_,[],Lr 13,[50]⟩ :: ⟨[.p 11 0,.p 13 0],_,[],Lr 14,[51]⟩ :: ⟨[.p 11 0,.p 14 0],_,[],Lr 15,[52]⟩ :: []) (F:=[.o 0,.o 1,.o 2,.o 3,.o 4,.o 5,.p 15 0]) hst hb Zb
     (Qm rfl u_0<|o_p rfl (Z8 rfl rfl u_0 c_i)<|Qm rfl u_0<|o_g (Qg_t rfl (fun hG=>Zy rfl rfl u_0))<|o_g (Qg_t rfl (fun hG=>Zem rfl rfl (Opd.gd hG u_0)))<|o_p rfl (Zbe rfl rfl u_0 (fun hz=>(Opd.gd hz u_1)))<|Qm rfl u_0<|o_g (Qg_t rfl (fun hG=>Zj Zch rfl rfl u_0))<|o_g (Qg_t rfl (fun hG=>Zs ty_3 rfl rfl (Opd.gd hG u_0)))<|o_g (Qg_t rfl (fun hG=>Zdq rfl rfl (Opd.gd hG u_0) c_i))<|o_p rfl (Zbe rfl rfl u_0 (fun hz=>(Opd.gd hz u_1)))<|Qm rfl u_0<|o_g (Qg_t rfl (fun hG=>Zj Zch rfl rfl u_0))<|o_g (Qg_t rfl (fun hG=>Zs ty_3 rfl rfl (Opd.gd hG u_0)))<|o_g (Qg_t rfl (fun hG=>Zdq rfl rfl (Opd.gd hG u_0) c_i))<|o_p rfl (Zbe rfl rfl u_0 (fun hz=>(Opd.gd hz u_1)))<|o_n) (fun a g hst hb=>?_)
    refine Zbz (fun a w=>∃ (j14:Int) (g:G),w=g.w ∧ St 109 [(1,(Zba a1)),(3,(pBox Zc 3 r3)),(5,(Z1.ptr a2)),(6,(pBox Zc 6 (default:Za))),(8,(pBox Zt 8 (default:Ze))),(9,(pInt .i64 j14))] a g ∧ Base g0 g ∧ Zew a1 a2 r3 j14=some r) ?_ ?_
    ·rintro a w ⟨j14,g,rfl,hst,hb,H0⟩
     unfold Zew at H0
     refine Zm ?_
     obtain ⟨r15,h16,H0⟩:=Zf H0
     refine r_s (T:=[⟨[.o 2],_,[],[],[53]⟩,⟨[.p 0 0],_,[],[0],[54]⟩,⟨[.p 1 0],_,[],[0,1],[55]⟩,⟨[.p 2 0],_,[],[0,1,2],[10]⟩]) (F:=[.o 0,.o 1,.o 2,.o 3,.o 4,.o 5,.p 3 0]) hst hb Zb
      (Qf rfl Zch u_0<|Ql rfl ty_3 u_0<|o_p rfl (Zr Zx9 (Zj6 _ h16) rfl rfl (.cons u_0 .nil))<|Qa rfl u_0<|o_n) (fun a g hst hb=>?_)
     refine wp_seq ?_
     refine r_s (T:=⟨[.o 5],_,[],[],[56]⟩ :: ⟨[.p 0 0],_,[],[0],[57]⟩ :: ⟨[.p 1 0],_,[],[0,1],[58]⟩ :: ⟨[.p 2 0,.o 6],_,[],[0,1,2],[59]⟩ :: ⟨[.p 2 0,.p 3 0],_,[],Lr 4,[60]⟩ :: ⟨[.p 2 0,.p 4 0],_,[],Lr 5,[61]⟩ :: ⟨[.p 5 0],_,[],Lr 6,[62]⟩ :: ⟨[.p 6 0,.o 6],_,[],Lr 7,[63]⟩ :: ⟨[.p 6 0,.o 1],_,[],Lr 7,[64]⟩ :: ⟨[.p 6 0,.p 8 0],_,[],[0,1,2,3,4,5,6,8],[65]⟩ :: ⟨[.p 6 0,.p 7 0,.p 9 0],_,[],Lr 10,[66]⟩ :: ⟨[.p 6 0,.p 10 0],_,[],Lr 11,[67]⟩ :: []) (F:=[.o 0,.o 1,.o 2,.o 3,.o 4,.o 5,.p 11 0]) hst hb Zb
      (Qm rfl u_0<|o_p rfl (Z8 rfl rfl u_0 c_i)<|Qm rfl u_0<|o_g (Qg_t rfl (fun hG=>Zy rfl rfl u_0))<|o_g (Qg_t rfl (fun hG=>Zdq rfl rfl (Opd.gd hG u_0) c_i))<|o_p rfl (Zbe rfl rfl u_0 (fun hz=>(Opd.gd hz u_1)))<|Qm rfl u_0<|o_g (Qg_t rfl (fun hG=>Zy rfl rfl u_0))<|o_g (Qg_t rfl (fun hG=>Zh Zde (off:=0) (by kernel_rfl) rfl rfl u_0))<|o_g (Qg_t rfl (fun hG=>Zh5 ty_3 rfl rfl (Opd.gd hG u_0)))<|o_g (Qg_t rfl (fun hG=>Zdq rfl rfl (Opd.gd hG u_0) (Opd.gd hG u_1)))<|o_p rfl (Zbe rfl rfl u_0 (fun hz=>(Opd.gd hz u_1)))<|o_n) (fun a g hst hb=>?_)
     refine Zbz (fun a w=>∃ (j18:Int) (g:G),w=g.w ∧ St 109 [(1,(Zba a1)),(3,(pBox Zc 3 r3)),(5,(Z1.ptr a2)),(6,(pBox Zc 6 (default:Za))),(8,(pBox Zt 8 (default:Ze))),(9,(pInt .i64 j18))] a g ∧ Base g0 g ∧ Zer a1 a2 r3 j18=some r) ?_ ?_
     ·rintro a w ⟨j18,g,rfl,hst,hb,H0⟩
      unfold Zer at H0
      refine Zm ?_
      refine wp_seq ?_
      refine r_s (T:=[⟨[.o 5],_,[],[],[68]⟩,⟨[.p 0 0],_,[],[0],[69]⟩]) (F:=[.o 0,.o 1,.o 2,.o 3,.o 4,.o 5,.p 1 0]) hst hb Zb
       (Qm rfl u_0<|o_p rfl (Zdq rfl rfl u_0 c_i)<|o_n) (fun a g hst hb=>?_)
      refine wp_cond_split (hst.bool 6 rfl) (fun hc19=>?_) (fun hc19=>?_)
      ·replace H0:=Zn hc19 H0
       refine r_s (L:=[(1,_),(3,_),(6,_),(8,_),(9,_)]) (T:=[⟨[.o 1],_,[],[],[70]⟩,⟨[.o 0],_,[],[],[71]⟩,⟨[.o 4],_,[],[],[72]⟩,⟨[.p 2 0],_,[],[2],[73]⟩,⟨[.p 0 0,.o 2],_,[7],[0],[6]⟩,⟨[.p 1 0],_,[],[0,1,4],[7]⟩,⟨[.p 3 0,.o 3],_,[9],Lr 6,[8]⟩]) (F:=[.p 4 0,.p 5 0,.p 6 0]) (hst.pick [0,1,3,4,5] rfl) hb Zb
        (QM rfl Z0 u_0<|Qm rfl u_0<|Qm rfl u_0<|o_p rfl (Zta rfl rfl u_0)<|o_p rfl (Z6 Z0 rfl rfl u_1 u_0)<|Qa rfl u_0<|o_p rfl (Z6 Zcs rfl rfl u_1 u_0)<|o_n) (fun a g hst hb=>?_)
       refine wp_ret ?_
       refine Zk ?_
       obtain rfl:=Option.some.inj H0
       obtain ⟨u0,hu0,hq0⟩:=Zbh (P:=Tryd.prog) Z0 (hst.at 0 rfl)
       obtain ⟨u2,hu2,hq2⟩:=Zbh (P:=Tryd.prog) Zcs (hst.at 2 rfl)
       exact Zhv rfl hst hb hu0 (Zg (s:=7)) hu2 (Zfy hq0 (hst.at 1 rfl) hq2)
      ·replace H0:=Zo hc19 H0
       refine wp_skip ?_
       refine Zm ?_
       refine wp_seq ?_
       refine r_s (L:=[(1,_),(3,_),(5,_),(6,_),(8,_)]) (T:=[⟨[.o 2],_,[],[],[74]⟩,⟨[.p 0 0],_,[],[0],[75]⟩]) (F:=[.o 0,.o 1,.o 2,.o 3,.o 4,.p 1 0]) (hst.pick [0,1,2,3,4] rfl) hb Zb
        (Qf rfl Zch u_0<|Ql rfl ty_3 u_0<|o_n) (fun a g hst hb=>?_)
       refine wp_block ?_
       refine r_s (T:=[⟨[.o 5],_,[],[],[77]⟩,⟨[.p 0 0],_,[],[0],[76]⟩]) (F:=[.o 0,.o 1,.o 2,.o 3,.o 4,.o 5,.p 1 0]) hst hb Zb
        (o_p rfl (Z8 rfl rfl u_0 c_i)<|Qa rfl u_0<|o_n) (fun a g hst hb=>?_)
       refine wp_cond_split (hst.bool 6 rfl) (fun hc20=>?_) (fun hc20=>?_)
       ·replace H0:=Zn hc20 H0
        obtain ⟨r21,h22,H0⟩:=Zf H0
        refine r_s (L:=[(5,_),(6,_),(8,_)]) (T:=[⟨[.o 0],_,[],[],[78]⟩,⟨[.p 0 0],_,[],[0],[79]⟩,⟨[.p 1 0],_,[],[0,1],[80]⟩,⟨[],_,[],[],[81]⟩,⟨[.p 2 0,.o 1],_,[7],[0,1,2],[6]⟩,⟨[],_,[],[0,1,2,4],[7]⟩,⟨[.p 3 0,.o 2],_,[9],Lr 6,[8]⟩]) (F:=[.p 4 0,.p 5 0,.p 6 0]) (hst.pick [2,3,4] rfl) hb Zb
         (Qf rfl Zk3 u_0<|Ql rfl Z0 u_0<|o_p rfl (Zr Zul (Zgt _ h22) rfl rfl (.cons u_0 .nil))<|o_p rfl (Zph rfl rfl )<|o_p rfl (Z6 Z0 rfl rfl u_1 u_0)<|Qa rfl c_b<|o_p rfl (Z6 Zcs rfl rfl u_1 u_0)<|o_n) (fun a g hst hb=>?_)
        refine wp_ret ?_
        refine Zv ?_
        refine Zk ?_
        obtain rfl:=Option.some.inj H0
        obtain ⟨u0,hu0,hq0⟩:=Zbh (P:=Tryd.prog) Z0 (hst.at 0 rfl)
        obtain ⟨u2,hu2,hq2⟩:=Zbh (P:=Tryd.prog) Zcs (hst.at 2 rfl)
        exact Zhv rfl hst hb hu0 (Zg (s:=7)) hu2 (Zfy hq0 (hst.at 1 rfl) hq2)
       ·replace H0:=Zo hc20 H0
        refine r_s (L:=[(1,_),(3,_),(5,_),(6,_),(8,_),(75,_)]) (T:=[⟨[.o 5],_,[],[],[83]⟩,⟨[.p 0 0],_,[],[0],[82]⟩]) (F:=[.o 0,.o 1,.o 2,.o 3,.o 4,.o 5,.p 1 0]) (hst.pick [0,1,2,3,4,5] rfl) hb Zb
         (o_p rfl (Z8 rfl rfl u_0 c_i)<|Qa rfl u_0<|o_n) (fun a g hst hb=>?_)
        refine wp_cond_split (hst.bool 6 rfl) (fun hc23=>?_) (fun hc23=>?_)
        ·replace H0:=Zn hc23 H0
         refine r_s (L:=[(6,_),(8,_)]) (T:=[⟨[],_,[],[],[84]⟩,⟨[],_,[],[],[85]⟩,⟨[.p 0 0,.o 0],_,[7],[0],[6]⟩,⟨[],_,[],[0,2],[7]⟩,⟨[.p 1 0,.o 1],_,[9],Lr 4,[8]⟩]) (F:=[.p 2 0,.p 3 0,.p 4 0]) (hst.pick [3,4] rfl) hb Zb
          (o_p rfl (Zlk rfl rfl )<|o_p rfl (Zph rfl rfl )<|o_p rfl (Z6 Z0 rfl rfl u_1 u_0)<|Qa rfl c_b<|o_p rfl (Z6 Zcs rfl rfl u_1 u_0)<|o_n) (fun a g hst hb=>?_)
         refine wp_ret ?_
         refine Zv ?_
         refine Zk ?_
         obtain rfl:=Option.some.inj H0
         obtain ⟨u0,hu0,hq0⟩:=Zbh (P:=Tryd.prog) Z0 (hst.at 0 rfl)
         obtain ⟨u2,hu2,hq2⟩:=Zbh (P:=Tryd.prog) Zcs (hst.at 2 rfl)
         exact Zhv rfl hst hb hu0 (Zg (s:=7)) hu2 (Zfy hq0 (hst.at 1 rfl) hq2)
        ·replace H0:=Zo hc23 H0
         refine r_s (L:=[(1,_),(3,_),(5,_),(6,_),(8,_),(75,_)]) (T:=[⟨[.o 5],_,[],[],[87]⟩,⟨[.p 0 0],_,[],[0],[86]⟩]) (F:=[.o 0,.o 1,.o 2,.o 3,.o 4,.o 5,.p 1 0]) (hst.pick [0,1,2,3,4,5] rfl) hb Zb
          (o_p rfl (Z8 rfl rfl u_0 c_i)<|Qa rfl u_0<|o_n) (fun a g hst hb=>?_)
         refine wp_cond_split (hst.bool 6 rfl) (fun hc24=>?_) (fun hc24=>?_)
         ·replace H0:=Zn hc24 H0
          refine r_s (L:=[(1,_),(3,_),(6,_),(8,_)]) (T:=[⟨[.o 1],_,[],[],[88]⟩,⟨[.o 0],_,[],[],[89]⟩,⟨[.o 1],_,[],[],[90]⟩,⟨[.p 2 0],_,[],[2],[91]⟩,⟨[.p 3 0],_,[],[2,3],[92]⟩,⟨[.p 0 0,.o 2],_,[7],[0],[6]⟩,⟨[.p 1 0],_,[],[0,1,5],[7]⟩,⟨[.p 4 0,.o 3],_,[9],Lr 7,[8]⟩]) (F:=[.p 5 0,.p 6 0,.p 7 0]) (hst.pick [0,1,3,4] rfl) hb Zb
           (QM rfl Z0 u_0<|Qm rfl u_0<|o_p rfl (Zh Zde (off:=0) (by kernel_rfl) rfl rfl u_0)<|QP rfl ty_3 u_0<|o_p rfl (Zx6 rfl rfl u_0)<|o_p rfl (Z6 Z0 rfl rfl u_1 u_0)<|Qa rfl u_0<|o_p rfl (Z6 Zcs rfl rfl u_1 u_0)<|o_n) (fun a g hst hb=>?_)
          refine wp_ret ?_
          refine Zv ?_
          refine Zk ?_
          obtain rfl:=Option.some.inj H0
          obtain ⟨u0,hu0,hq0⟩:=Zbh (P:=Tryd.prog) Z0 (hst.at 0 rfl)
          obtain ⟨u2,hu2,hq2⟩:=Zbh (P:=Tryd.prog) Zcs (hst.at 2 rfl)
          exact Zhv rfl hst hb hu0 (Zg (s:=7)) hu2 (Zfy hq0 (hst.at 1 rfl) hq2)
         ·replace H0:=Zo hc24 H0
          refine r_s (L:=[(1,_),(3,_),(5,_),(6,_),(8,_),(75,_)]) (T:=[⟨[.o 5],_,[],[],[94]⟩,⟨[.p 0 0],_,[],[0],[93]⟩]) (F:=[.o 0,.o 1,.o 2,.o 3,.o 4,.p 1 0]) (hst.pick [0,1,2,3,4,5] rfl) hb Zb
           (o_p rfl (Z8 rfl rfl u_0 c_i)<|Qa rfl u_0<|o_n) (fun a g hst hb=>?_)
          refine wp_cond_split (hst.bool 5 rfl) (fun hc25=>?_) (fun hc25=>?_)
          ·replace H0:=Zn hc25 H0
           obtain ⟨r26,h27,H0⟩:=Zf H0
           refine r_s (L:=[(1,_),(3,_),(6,_),(8,_)]) (T:=[⟨[.o 1],_,[],[],[95]⟩,⟨[.o 0],_,[],[],[96]⟩,⟨[.o 1],_,[],[],[97]⟩,⟨[.p 2 0],_,[],[2],[98]⟩,⟨[.p 3 0],_,[],[2,3],[99]⟩,⟨[.p 0 0,.o 2],_,[7],[0,2,3],[6]⟩,⟨[.p 1 0],_,[],[0,1,2,3,5],[7]⟩,⟨[.p 4 0,.o 3],_,[9],Lr 7,[8]⟩]) (F:=[.p 5 0,.p 6 0,.p 7 0]) (hst.pick [0,1,3,4] rfl) hb Zb
            (QM rfl Z0 u_0<|Qm rfl u_0<|QM rfl Z0 u_0<|o_p rfl (Zr Zul (Zgt _ h27) rfl rfl (.cons u_0 .nil))<|o_p rfl (Zx2 rfl rfl u_0)<|o_p rfl (Z6 Z0 rfl rfl u_1 u_0)<|Qa rfl u_0<|o_p rfl (Z6 Zcs rfl rfl u_1 u_0)<|o_n) (fun a g hst hb=>?_)
           refine wp_ret ?_
           refine Zv ?_
           refine Zk ?_
           obtain rfl:=Option.some.inj H0
           obtain ⟨u0,hu0,hq0⟩:=Zbh (P:=Tryd.prog) Z0 (hst.at 0 rfl)
           obtain ⟨u2,hu2,hq2⟩:=Zbh (P:=Tryd.prog) Zcs (hst.at 2 rfl)
           exact Zhv rfl hst hb hu0 (Zg (s:=7)) hu2 (Zfy hq0 (hst.at 1 rfl) hq2)
          ·replace H0:=Zo hc25 H0
           refine wp_skip ?_
           refine Z4 ?_
           refine Zm ?_
           obtain ⟨r28,h29,H0⟩:=Zf H0
           refine r_s (L:=[(1,_),(3,_),(5,_),(6,_),(8,_)]) (T:=[⟨[.o 1],_,[],[],[101]⟩,⟨[.o 2],_,[],[],[102]⟩,⟨[.p 0 0,.p 1 0],_,[],[0,1],[103]⟩,⟨[.p 2 0],_,[],[0,1,2],[100]⟩,⟨[.p 3 0],_,[],Lr 4,[104]⟩,⟨[.p 3 0],_,[],Lr 4,[105]⟩,⟨[],[(11,(pBox Zc 11 (default:Za)))],[12],[],[11]⟩,⟨[],[(12,(pBox Zt 12 (default:Ze)))],[13],[],[12]⟩,⟨[.p 4 0,.p 6 0],_,[12],[0,1,2,3,4,6,7],[11]⟩,⟨[.p 5 0,.p 7 0],_,[13],Lr 9,[12]⟩]) (F:=[.o 0,.o 3,.o 4,.p 8 0,.p 9 0]) (hst.pick [0,1,2,3,4] rfl) hb Zb
            (QM rfl Z0 u_0<|Ql rfl Zgr u_0<|o_p rfl (Zr Z7n (Zqs _ _ h29) rfl rfl (.cons u_0 (.cons u_1 .nil)))<|Qm rfl u_0<|o_p rfl (Zbc rfl rfl u_0 rfl)<|o_p rfl (Zbc rfl rfl u_0 rfl)<|o_p rfl (Zbm (zs:=[.int .i64 0,.int .i64 0,.int .i64 0,.int .i64 0,.float .f64 0,.int .i64 0,.string ByteArray.empty,.slice none 0 0]) (by kernel_rfl) (fun g=>Zbr g) rfl rfl)<|o_p rfl (Zbm (zs:=[.int .i64 0,.int .i64 0,.int .i64 0,.int .i64 0,.int .i64 0,.int .i64 0,.float .f64 0,.int .i64 0,.string ByteArray.empty,.slice none 0 0]) (by kernel_rfl) (fun g=>Zfd g) rfl rfl)<|o_p rfl (Zb9 Z0 rfl rfl u_1 u_0)<|o_p rfl (Zb9 Zcs rfl rfl u_1 u_0)<|o_n) (fun a g hst hb=>?_)
           refine r_s (T:=[⟨[.o 3],_,[],[],[106]⟩,⟨[.o 0],_,[],[],[107]⟩,⟨[.o 4],_,[],[],[108]⟩,⟨[.p 0 0,.o 1],_,[7],[0],[6]⟩,⟨[.p 1 0],_,[],[0,1,3],[7]⟩,⟨[.p 2 0,.o 2],_,[9],Lr 5,[8]⟩]) (F:=[.p 3 0,.p 4 0,.p 5 0]) hst hb Zb
            (Ql rfl Z0 u_0<|Qm rfl u_0<|Ql rfl Zcs u_0<|o_p rfl (Z6 Z0 rfl rfl u_1 u_0)<|Qa rfl u_0<|o_p rfl (Z6 Zcs rfl rfl u_1 u_0)<|o_n) (fun a g hst hb=>?_)
           refine wp_ret ?_
           obtain rfl:=Option.some.inj H0
           obtain ⟨u0,hu0,hq0⟩:=Zbh (P:=Tryd.prog) Z0 (hst.at 0 rfl)
           obtain ⟨u2,hu2,hq2⟩:=Zbh (P:=Tryd.prog) Zcs (hst.at 2 rfl)
           exact Zhv rfl hst hb hu0 (Zg (s:=7)) hu2 (Zfy hq0 (hst.at 1 rfl) hq2)
     ·refine wp_cond_split (hst.bool 6 rfl) (fun hc17=>?_) (fun hc17=>?_)
      ·replace H0:=Zn hc17 H0
       refine r_g (L:=[(1,_),(3,_),(5,_),(6,_),(8,_)]) (T:=[⟨[],_,[],[],[9]⟩]) (F:=[.o 0,.o 1,.o 2,.o 3,.o 4,.p 0 0]) (hst.pick [0,1,2,3,4] rfl) hb Zb
        (Qa rfl c_i<|o_n) (fun a g hst hb=>?_)
       exact ⟨(5:Int),g,rfl,(hst.pick [0,1,2,3,4,5] rfl),hb,H0⟩
      ·replace H0:=Zo hc17 H0
       refine wp_skip ?_
       exact ⟨j14,g,rfl,(hst.pick [0,1,2,3,4,5] rfl),hb,H0⟩
    ·refine wp_cond_split (hst.bool 6 rfl) (fun hc13=>?_) (fun hc13=>?_)
     ·replace H0:=Zn hc13 H0
      refine r_g (L:=[(1,_),(3,_),(5,_),(6,_),(8,_)]) (T:=[⟨[],_,[],[],[9]⟩]) (F:=[.o 0,.o 1,.o 2,.o 3,.o 4,.p 0 0]) (hst.pick [0,1,2,3,4] rfl) hb Zb
       (Qa rfl c_i<|o_n) (fun a g hst hb=>?_)
      exact ⟨(6:Int),g,rfl,(hst.pick [0,1,2,3,4,5] rfl),hb,H0⟩
     ·replace H0:=Zo hc13 H0
      refine wp_skip ?_
      exact ⟨j12,g,rfl,(hst.pick [0,1,2,3,4,5] rfl),hb,H0⟩
   ·refine wp_cond_split (hst.bool 6 rfl) (fun hc11=>?_) (fun hc11=>?_)
    ·replace H0:=Zn hc11 H0
     refine r_g (L:=[(1,_),(3,_),(5,_),(6,_),(8,_)]) (T:=[⟨[],_,[],[],[9]⟩]) (F:=[.o 0,.o 1,.o 2,.o 3,.o 4,.p 0 0]) (hst.pick [0,1,2,3,4] rfl) hb Zb
      (Qa rfl c_i<|o_n) (fun a g hst hb=>?_)
     exact ⟨(7:Int),g,rfl,(hst.pick [0,1,2,3,4,5] rfl),hb,H0⟩
    ·replace H0:=Zo hc11 H0
     refine wp_skip ?_
     exact ⟨j10,g,rfl,(hst.pick [0,1,2,3,4,5] rfl),hb,H0⟩
  ·refine wp_cond_split (hst.bool 6 rfl) (fun hc7=>?_) (fun hc7=>?_)
   ·replace H0:=Zn hc7 H0
    obtain ⟨r8,h9,H0⟩:=Zf H0
    refine r_g (L:=[(1,_),(3,_),(5,_),(6,_),(8,_)]) (T:=[⟨[.o 1],_,[],[],[25]⟩,⟨[.p 0 0],_,[],[0],[26]⟩,⟨[.p 1 0],_,[],[0,1],[9]⟩]) (F:=[.o 0,.o 1,.o 2,.o 3,.o 4,.p 2 0]) (hst.pick [0,1,2,3,4] rfl) hb Zb
     (QM rfl Z0 u_0<|o_p rfl (Zr Zy8 (Zis _ h9) rfl rfl (.cons u_0 .nil))<|Qa rfl u_0<|o_n) (fun a g hst hb=>?_)
    exact ⟨r8,g,rfl,(hst.pick [0,1,2,3,4,5] rfl),hb,H0⟩
   ·replace H0:=Zo hc7 H0
    refine wp_skip ?_
    exact ⟨r5,g,rfl,(hst.pick [0,1,2,3,4,5] rfl),hb,H0⟩
 ·refine wp_cond_split (hst.bool 5 rfl) (fun hc1=>?_) (fun hc1=>?_)
  ·replace H0:=Zn hc1 H0
   refine r_g (L:=[(1,_),(3,_),(5,_),(6,_),(8,_)]) (T:=[⟨[],_,[],[],[15]⟩,⟨[.p 0 0,.o 1],_,[4],[0],[3]⟩]) (F:=[.o 0,.p 1 0,.o 2,.o 3,.o 4]) (hst.pick [0,1,2,3,4] rfl) hb Zb
    (o_p rfl (Zlk rfl rfl )<|o_p rfl (Z6 Z0 rfl rfl u_1 u_0)<|o_n) (fun a g hst hb=>?_)
   exact ⟨({ Kind:=(0:Int),Num:=(0:Int),Low:=(0:Int),High:=(0:Int),Real:=(0:Nat),Cap:=(0:Int),Text:=ByteArray.empty,List:=([]:List Zd) }:Za),g,rfl,(hst.pick [0,1,2,3,4] rfl),hb,H0⟩
  ·replace H0:=Zo hc1 H0
   refine wp_skip ?_
   exact ⟨a0,g,rfl,(hst.pick [0,1,2,3,4] rfl),hb,H0⟩
theorem Ziz (a0:Za) (a1:List Zu) (a2:Int) {r:Za × Bool} (h:Zey a0 a1 a2=some r):FnOk Tryd.prog 21 [(Zc.pd a0),(Z9.sl.pd a1),(pInt .i64 a2)] (pTup [(Zc.pd r.1),(Zba r.2)]):=by
 have H0:=h
 unfold Zey at H0
 clear h
 refine Zbt (N:=44) Tryd.func21 rfl rfl (Qe rfl) rfl rfl (fun a g0 hst hb=>?_)
 refine r_s (T:=[⟨[.o 0],_,[4],[],[3]⟩,⟨[],[(6,(pBox Zc 6 (default:Za)))],[7],[],[6]⟩,⟨[],_,[],[],[7]⟩]) (F:=[.o 1,.o 2,.p 0 0,.p 1 0]) hst hb Zb
  (o_p rfl (Zj0 rfl rfl u_0)<|o_p rfl (Zbm (zs:=[.int .i64 0,.int .i64 0,.int .i64 0,.int .i64 0,.float .f64 0,.int .i64 0,.string ByteArray.empty,.slice none 0 0]) (by kernel_rfl) (fun g=>Zbr g) rfl rfl)<|Qa rfl c_b<|o_n) (fun a g hst hb=>?_)
 refine wp_seq ?_
 refine r_s (T:=[⟨[.o 0],_,[],[],[12]⟩,⟨[.p 0 0],_,[],[0],[13]⟩,⟨[],_,[],[],[14]⟩]) (F:=[.o 0,.o 1,.o 2,.o 3,.p 0 0,.p 1 0,.p 2 0]) hst hb Zb
  (Qm rfl u_0<|o_p rfl (Zcc Tryd.underlying40 rfl rfl u_0)<|Qm rfl c_i<|o_n) (fun a g hst hb=>?_)
 obtain ⟨z13,hz1,H0⟩:=Zf H0
 refine Zbz (fun a w=>∃ (y11:Za) (y12:Za) (g:G),w=g.w ∧ St 44 [(3,(pBox Zc 3 y11)),(6,(pBox Zc 6 y12))] a g ∧ Base g0 g ∧ (.inr (y11,y12))=z13) ?_ ?_
 ·rintro a w ⟨y11,y12,g,rfl,hst,hb,rfl⟩
  refine Zm ?_
  refine r_s (T:=[⟨[.o 0],_,[],[],[43]⟩,⟨[.p 0 0,.o 1],_,[7],[0],[6]⟩,⟨[],_,[],[0,1],[7]⟩]) (F:=[.p 1 0,.p 2 0]) hst hb Zb
   (QM rfl Z0 u_0<|o_p rfl (Z6 Z0 rfl rfl u_1 u_0)<|Qa rfl c_b<|o_n) (fun a g hst hb=>?_)
  refine wp_ret ?_
  obtain rfl:=Option.some.inj H0
  obtain ⟨u0,hu0,hq0⟩:=Zbh (P:=Tryd.prog) Z0 (hst.at 0 rfl)
  exact Zgx rfl hst hb hu0 (Zg (s:=7)) (Zfb hq0 (hst.at 1 rfl))
 ·refine wp_block ?_
  refine wp_loop_ghost (fun n a w=>∃ (x1:Za) (x2:Za) (x3:Int) (g:G),w=g.w ∧ St 44 [(1,(Z9.sl.pd a1)),(2,(pInt .i64 a2)),(3,(pBox Zc 3 x1)),(6,(pBox Zc 6 x2)),(12,(Z9.sl.pd a1)),(13,(pInt .i64 (a1.length:Int))),(14,(pInt .i64 x3))] a g ∧ Base g0 g ∧ Zdo a1 a2 n x1 x2 x3=some z13) (Int.toNat ((a1.length:Int) - (0:Int)) + 1) ⟨a0,(default:Za),(0:Int),g,rfl,(hst.pick [0,1,2,3,4,5,6] rfl),hb,hz1⟩ (fun n a w hI=>?_)
  obtain ⟨x1,x2,x3,g,rfl,hst,hb,H1⟩:=hI
  cases n with
  | zero=>exact absurd H1 (by simp [Zdo])
  | succ n =>
   rw [Zdo] at H1
   refine r_s (T:=[⟨[.o 6,.o 5],_,[],[],[15]⟩]) (F:=[.o 0,.o 1,.o 2,.o 3,.o 4,.o 5,.o 6,.p 0 0]) hst hb Zb
    (o_p rfl (Zb6 rfl rfl u_0 u_1)<|o_n) (fun a g hst hb=>?_)
   refine wp_seq ?_
   refine wp_cond_split (hst.bool 7 rfl) (fun hc4=>?_) (fun hc4=>?_)
   ·replace H1:=Zn hc4 H1
    refine wp_skip ?_
    refine Zm ?_
    refine wp_seq ?_
    refine wp_block ?_
    refine r_s (L:=[(1,_),(2,_),(3,_),(6,_),(12,_),(13,_),(14,_)]) (T:=[⟨[.o 6],_,[],[],[16]⟩,⟨[.p 0 0],_,[],[0],[8]⟩]) (F:=[.o 0,.o 1,.o 2,.o 3,.p 1 0,.o 4,.o 5,.o 6]) (hst.pick [0,1,2,3,4,5,6] rfl) hb Zb
     (Qm rfl u_0<|Qa rfl u_0<|o_n) (fun a g hst hb=>?_)
    obtain ⟨h5,H1⟩:=Zg2 H1;obtain ⟨e6,h7,H1⟩:=Zf H1;obtain ⟨r8,h9,H1⟩:=Zf H1
    refine r_s (T:=⟨[.o 2],_,[],[],[18]⟩ :: ⟨[.o 0],_,[],[],[19]⟩ :: ⟨[.o 1],_,[],[],[20]⟩ :: ⟨[.o 4],_,[],[],[21]⟩ :: ⟨[.p 2 0,.p 3 0],_,[],[2,3],[22]⟩ :: ⟨[.o 0],_,[],[],[23]⟩ :: ⟨[.p 5 0],_,[],[5],[24]⟩ :: ⟨[.p 4 0,.p 6 0],_,[],List.range' 2 5,[25]⟩ :: ⟨[.p 1 0,.p 7 0],_,[],List.range' 1 7,[26]⟩ :: ⟨[.p 8 0],_,[],List.range' 1 8,[27]⟩ :: ⟨[.p 9 0],_,[],List.range' 1 9,[28]⟩ :: ⟨[.p 0 0,.p 10 0],_,[],Lr 11,[29]⟩ :: ⟨[.p 11 0],_,[],Lr 12,[17]⟩ :: ⟨[.p 12 0],_,[],Lr 13,[30]⟩ :: ⟨[.p 12 0],_,[],Lr 13,[31]⟩ :: ⟨[.p 12 0],_,[],Lr 13,[32]⟩ :: ⟨[],[(9,(pBox Zc 9 (default:Za)))],[10],[],[9]⟩ :: ⟨[],[(11,(pBox Zt 11 (default:Ze)))],[12],[],[11]⟩ :: ⟨[.p 13 0,.p 16 0],_,[10],0 :: 1 :: 2 :: 3 :: 4 :: 5 :: 6 :: 7 :: 8 :: 9 :: 10 :: 11 :: 12 :: 13 :: 16 :: 17 :: [],[9]⟩ :: ⟨[.p 14 0],_,[],0 :: 1 :: 2 :: 3 :: 4 :: 5 :: 6 :: 7 :: 8 :: 9 :: 10 :: 11 :: 12 :: 13 :: 14 :: 16 :: 17 :: 18 :: [],[10]⟩ :: ⟨[.p 15 0,.p 17 0],_,[12],Lr 20,[11]⟩ :: []) (F:=[.o 0,.o 1,.o 2,.o 3,.p 18 0,.p 19 0,.p 20 0,.o 5,.o 6,.o 7]) hst hb Zb
     (QM rfl Z0 u_0<|Qm rfl u_0<|Qm rfl u_0<|Qm rfl u_0<|o_p rfl (Zca rfl rfl u_0 u_1 rfl)<|Qm rfl u_0<|o_p rfl (Zcc Tryd.underlying40 rfl rfl u_0)<|o_p rfl (Z1a rfl rfl u_0 u_1 h5)<|o_p rfl (Zbk Tryd.underlying40 Zr5 rfl rfl u_0 u_1 h7)<|Qf rfl Zp5 u_0<|Ql rfl Zgr u_0<|o_p rfl (Zr Z78 (Zod _ _ _ h9) rfl rfl (.cons u_0 (.cons c_b (.cons u_1 .nil))))<|Qm rfl u_0<|o_p rfl (Zbc rfl rfl u_0 rfl)<|o_p rfl (Zbc rfl rfl u_0 rfl)<|o_p rfl (Zbc rfl rfl u_0 rfl)<|o_p rfl (Zbm (zs:=[.int .i64 0,.int .i64 0,.int .i64 0,.int .i64 0,.float .f64 0,.int .i64 0,.string ByteArray.empty,.slice none 0 0]) (by kernel_rfl) (fun g=>Zbr g) rfl rfl)<|o_p rfl (Zbm (zs:=[.int .i64 0,.int .i64 0,.int .i64 0,.int .i64 0,.int .i64 0,.int .i64 0,.float .f64 0,.int .i64 0,.string ByteArray.empty,.slice none 0 0]) (by kernel_rfl) (fun g=>Zfd g) rfl rfl)<|o_p rfl (Zb9 Z0 rfl rfl u_1 u_0)<|Qa rfl u_0<|o_p rfl (Zb9 Zcs rfl rfl u_1 u_0)<|o_n) (fun a g hst hb=>?_)
    refine wp_seq ?_
    refine r_s (T:=[⟨[.o 5],_,[],[],[33]⟩,⟨[.p 0 0],_,[],[0],[34]⟩,⟨[.p 1 0],_,[],[0,1],[35]⟩,⟨[.p 2 0,.o 6],_,[],[0,1,2],[36]⟩,⟨[.p 2 0,.p 3 0],_,[],Lr 4,[37]⟩,⟨[.p 2 0,.p 4 0],_,[],Lr 5,[38]⟩,⟨[.p 2 0,.p 5 0],_,[],Lr 6,[39]⟩]) (F:=[.o 0,.o 1,.o 2,.o 3,.o 4,.o 7,.o 8,.o 9,.p 6 0]) hst hb Zb
     (Qm rfl u_0<|Qn rfl u_0<|Qm rfl u_0<|o_g (Qg_f rfl (fun hG=>Zj Zk9 rfl rfl u_0))<|o_g (Qg_f rfl (fun hG=>Zs Zom rfl rfl (Opd.gd hG u_0)))<|o_g (Qg_f rfl (fun hG=>Zdq rfl rfl (Opd.gd hG u_0) c_i))<|o_p rfl (Zbl rfl rfl u_0 (fun hz=>(Opd.gd (bNF hz) u_1)))<|o_n) (fun a g hst hb=>?_)
    refine wp_cond_split (hst.bool 8 rfl) (fun hc10=>?_) (fun hc10=>?_)
    ·replace H1:=Zn hc10 H1
     refine r_s (L:=[(3,_),(6,_)]) (T:=[⟨[.o 0],_,[],[],[40]⟩,⟨[.p 0 0,.o 1],_,[7],[0],[6]⟩,⟨[],_,[],[0,1],[7]⟩]) (F:=[.p 1 0,.p 2 0]) (hst.pick [2,3] rfl) hb Zb
      (QM rfl Z0 u_0<|o_p rfl (Z6 Z0 rfl rfl u_1 u_0)<|Qa rfl c_b<|o_n) (fun a g hst hb=>?_)
     refine wp_ret ?_
     refine Zk ?_
     refine Zv ?_
     refine Zk ?_
     refine Zk ?_
     refine Zv ?_
     refine Zk ?_
     refine Zk ?_
     obtain rfl:=Option.some.inj H1
     obtain rfl:=Option.some.inj H0
     obtain ⟨u0,hu0,hq0⟩:=Zbh (P:=Tryd.prog) Z0 (hst.at 0 rfl)
     exact Zgx rfl hst hb hu0 (Zg (s:=7)) (Zfb hq0 (hst.at 1 rfl))
    ·replace H1:=Zo hc10 H1
     refine wp_skip ?_
     refine Zm ?_
     refine r_g (L:=[(1,_),(2,_),(3,_),(6,_),(9,_),(12,_),(13,_),(14,_)]) (T:=[⟨[.o 4],_,[],[],[41]⟩,⟨[.p 0 0,.o 2],_,[4],[0],[3]⟩]) (F:=[.o 0,.o 1,.p 1 0,.o 3,.o 5,.o 6,.o 7]) (hst.pick [0,1,2,3,4,5,6,7] rfl) hb Zb
      (Ql rfl Z0 u_0<|o_p rfl (Z6 Z0 rfl rfl u_1 u_0)<|o_n) (fun a g hst hb=>?_)
     refine Z4 ?_
     refine Zm ?_
     refine r_g (T:=[⟨[.o 6],_,[],[],[42]⟩,⟨[.p 0 0],_,[],[0],[14]⟩]) (F:=[.o 0,.o 1,.o 2,.o 3,.o 4,.o 5,.p 1 0]) hst hb Zb
      (o_p rfl (Zca rfl rfl u_0 c_i rfl)<|Qm rfl u_0<|o_n) (fun a g hst hb=>?_)
     exact ⟨n,Nat.lt_succ_self _,r8.1,x2,(IntKind.i64.wrap (x3 + (1:Int))),g,rfl,(hst.pick [0,1,2,3,4,5,6] rfl),hb,H1⟩
   ·replace H1:=Zo hc4 H1
    refine wp_exit ?_
    refine Zb7 ?_
    refine Zb7 ?_
    refine Zct ?_
    exact ⟨x1,x2,g,rfl,(hst.pick [2,3] rfl),hb,Option.some.inj H1⟩
end Go.CL
namespace Go.CL
open Go Go.RowKit
section
variable {P:Program} {N:Nat} {o:Oper} {uses outs:Z7} {S:List Nat} {d:Nat} {q:Pd} {x y z:Operand} {α β γ:Type} {dk:Kd β} {t e j:Nat}
def Z3f (dk:Kd β) (q:Pd):Prop:=∀ (g1 g2:G) (v:Value) (b n:Nat) (cur:Array Value) (tt:TypeId),g2.w=g1.w → (∀ b' o,b' ≠ b → g1.pr b' o → g2.pr b' o) → g1.w.heap[b]?=some (.cells cur tt (0,0)) → (∀ o,g1.pr b o → o < n * dk.sz) → (∀ i,i < n → ∃ x,dk.K g1 x (seg cur.toList (i * dk.sz) dk.sz)) → q.p g1 v → q.p g2 v
theorem Zv2 {f : FuncId} {q1 : Pd} {x1 : Operand} {ty : Array TypeId} {l : List β} (he : Zl P f) (hok : FnOk P f [q1, dk.sl.pd l] q) (hap : Z3f dk q) (hop : o.op = .call { callee := .value (.func f), args := #[x1, x], argTypes := ty }) (hd : o.dst = some d)
   (h1:Opd uses x1 q1) (hA:Free [q1]) (hx:Opd uses x (pArr dk e j l)):OB P N o uses [(d,q)] []:=by
 intro a g K Q hN hdN hu hK
 have hr:(execOp a.eval o).run P g.w=.ok (.enter f #[a.eval x1,a.eval x]) g.w:=by
   simp [execOp,hop,resolve,Zma,Deferred.ofValue,invoke,Zg7 he]
 unfold Oper.wp
 rw [hr]
 show Calls P f _ g.w _
 have ha1:ArgsOk [q1] g [a.eval x1]:=Zga (h1 a g hu) Zc5
 rcases hx a g hu with ⟨rfl,A0,hv⟩ | ⟨b,cap,cur,hv,hO⟩
 · refine Calls.mono (hok g [a.eval x1,a.eval x] (Zlv ha1 (Zga (by rw [hv];exact Kd.sl_V.2 ⟨A0,0,rfl,Nat.le_refl _,by simp,.inl rfl⟩) Zc5))) ?_
   rintro en w' ⟨g',v,rfl,rfl,hs,hq'⟩
   refine hK v g' hs fun e he=>?_
   rw [List.mem_singleton.1 he,hd,Zdf v (by rw [hN];exact hdN d hd)]
   exact hq'
 · have hll:=hO.len
   rw [List.length_map] at hll
   have hm:=hO.max
   let gL:G:=⟨g.w,fun b' o=>g.pr b' o ∨ (b'=b ∧ o < l.length * dk.sz),g.own,fun b' o h=>h.elim (g.hpr b' o) (fun h=>by rw [h.1];exact hO.lt),g.gl.le (fun _ _ h=>.inl h) (fun _ _ _=>rfl)⟩
   have hle:g.le gL:=⟨Nat.le_refl _,fun _ _ h=>.inl h,fun _ _ _=>rfl,fun _ _=>rfl⟩
   have hlst:(dk.sl.pd l).p gL (a.eval x):=by
     rw [hv]
     refine Kd.sl_V.2 ⟨_,cap,rfl,hll,by simp only [maxLen] at hm;omega,.inr ⟨b,0,rfl,fun i x hx=>?_⟩⟩
     have hil:i < l.length:=(List.getElem?_eq_some_iff.1 hx).1
     have hsz:=Nat.mul_le_mul_right dk.sz (show i + 1 ≤ l.length by omega)
     rw [Nat.add_mul,Nat.one_mul] at hsz
     refine ⟨_,dk.mono hle (hO.known i x (by rw [List.getElem?_map,hx];rfl)),fun k u hk=>?_⟩
     simp only [seg,List.getElem?_take,List.getElem?_drop] at hk
     split at hk
     · rename_i hlt
       refine ⟨.inr ⟨rfl,by omega⟩,?_⟩
       show g.w.cell? _=_
       simp only [World.cell?,hO.heap]
       simpa using hk
     · cases hk
   refine Calls.mono (hok gL [a.eval x1,a.eval x] (Zlv (ha1.le hA hle rfl rfl rfl) (Zga hlst Zc5))) ?_
   rintro en w' ⟨g',v,rfl,rfl,hs,hq'⟩
   have hbl:b < g'.w.heap.size:=Nat.lt_of_lt_of_le hO.lt hs.le.size
   let g2:G:=⟨g'.w,fun b' o=>g'.pr b' o ∧ b' ≠ b,g'.own,fun b' o h=>g'.hpr b' o h.1,fun en hen i v hv=>by
     obtain ⟨k1,k2⟩:=g'.gl en hen i v hv
     exact ⟨⟨k1,fun h=>hO.npr i (h ▸ (g.gl en hen i v hv).1)⟩,k2⟩⟩
   have hb':=hs.same b hO.lt (fun h=>by cases h)
   have hpb:g'.pr b=gL.pr b:=hb'.2.1
   refine hK v g2 ⟨⟨hs.le.size,fun b' o h=>⟨hs.le.pr b' o (.inl h),fun h'=>hO.npr o (h' ▸ h)⟩,fun b' o h=>hs.le.cell b' o (.inl h),fun b' h=>hs.le.blk b' (fun o=>.inl (h o))⟩,hs.os,hs.tape,hs.output,fun b' hb'' hn=>?_,hs.new,hs.old⟩ fun e he=>?_
   · obtain ⟨k1,k2,k3⟩:=hs.same b' hb'' hn
     refine ⟨k1,?_,k3⟩
     funext o
     show (g'.pr b' o ∧ b' ≠ b)=g.pr b' o
     rw [k2]
     by_cases h:b'=b
     · subst h
       have:=hO.npr o
       simp [this]
     · simp [gL,h]
   · rw [List.mem_singleton.1 he,hd,Zdf v (by rw [hN];exact hdN d hd)]
     refine hap g' g2 v b l.length cur _ rfl (fun b' o hne h=>⟨h,hne⟩) (hb'.1.trans hO.heap) (fun o ho=>?_) (fun i hi=>⟨l[i],?_⟩) hq'
     · rw [hpb] at ho
       rcases ho with ho | ho
       · exact absurd ho (hO.npr o)
       · exact ho.2
     · exact dk.mono hs.le (dk.mono hle (hO.known i l[i] (by rw [List.getElem?_map,List.getElem?_eq_getElem hi];rfl)))
end
theorem Zi8 {cs:List Value} {o:Nat} {v:Value} (h:seg cs o 1=[v]):cs[o]?=some v:=by
 have:=congrArg (fun l=>l[0]?) h
 simpa [seg] using this
theorem Z0d {g:G} {x:Za} {cs:List Value} (h:Zc.K g x cs) {p u:Nat} (hp:cs[p]?=some (.float .f64 u)):p=4:=by
 obtain ⟨hl,hf⟩:=h
 have hlt:=(List.getElem?_eq_some_iff.1 hp).1
 have h0:cs[0]?=some (.int .i64 x.Kind):=Zi8 (hf _ (List.mem_of_getElem? (i:=0) rfl))
 have h1:cs[1]?=some (.int .i64 x.Num):=Zi8 (hf _ (List.mem_of_getElem? (i:=1) rfl))
 have h2:cs[2]?=some (.int .i64 x.Low):=Zi8 (hf _ (List.mem_of_getElem? (i:=2) rfl))
 have h3:cs[3]?=some (.int .i64 x.High):=Zi8 (hf _ (List.mem_of_getElem? (i:=3) rfl))
 have h5:cs[5]?=some (.int .i64 x.Cap):=Zi8 (hf _ (List.mem_of_getElem? (i:=5) rfl))
 have h6:cs[6]?=some (.string x.Text):=Zi8 (hf _ (List.mem_of_getElem? (i:=6) rfl))
 obtain ⟨A,c,h7,_⟩:=hf _ (List.mem_of_getElem? (i:=7) rfl)
 have h7:cs[7]?=some (.slice A x.List.length c):=Zi8 h7
 rw [hl] at hlt
 have hc:p=0 ∨ p=1 ∨ p=2 ∨ p=3 ∨ p=4 ∨ p=5 ∨ p=6 ∨ p=7:=by omega
 rcases hc with rfl | rfl | rfl | rfl | rfl | rfl | rfl | rfl
 ·rw [h0] at hp;cases hp
 ·rw [h1] at hp;cases hp
 ·rw [h2] at hp;cases hp
 ·rw [h3] at hp;cases hp
 ·rfl
 ·rw [h5] at hp;cases hp
 ·rw [h6] at hp;cases hp
 ·rw [h7] at hp;cases hp
theorem Z0g {r:Za}:Z3f Zc (Zc.pd r):=by
 intro g1 g2 v b n cur tt hw hpr hh hlim hrow ⟨cs,⟨hl,hf⟩,he⟩
 refine ⟨cs,⟨hl,List.forall_mem_cons.2 ⟨hf _ (List.mem_of_getElem? (i:=0) rfl),List.forall_mem_cons.2 ⟨hf _ (List.mem_of_getElem? (i:=1) rfl),List.forall_mem_cons.2 ⟨hf _ (List.mem_of_getElem? (i:=2) rfl),List.forall_mem_cons.2 ⟨hf _ (List.mem_of_getElem? (i:=3) rfl),List.forall_mem_cons.2 ⟨hf _ (List.mem_of_getElem? (i:=4) rfl),List.forall_mem_cons.2 ⟨hf _ (List.mem_of_getElem? (i:=5) rfl),List.forall_mem_cons.2 ⟨hf _ (List.mem_of_getElem? (i:=6) rfl),List.forall_mem_cons.2 ⟨?_,fun _ h=>by cases h⟩⟩⟩⟩⟩⟩⟩⟩⟩,he⟩
 obtain ⟨A,c,e1,e2,e3,hrw⟩:=hf _ (List.mem_of_getElem? (i:=7) rfl)
 refine ⟨A,c,e1,e2,e3,?_⟩
 rcases hrw with hn | ⟨b',o',ea,hr⟩
 ·exact .inl hn
 ·by_cases hb:b'=b
  ·left
   cases hls:r.List with
   | nil=>exact hls
   | cons it tl =>
    exfalso
    subst hb
    obtain ⟨ci,⟨_,hif⟩,hc⟩:=hr 0 it (by show r.List[0]?=_;rw [hls];rfl)
    have c0:=hc 0 _ (Zi8 (hif _ (List.mem_of_getElem? (i:=0) rfl)))
    have c1:=hc 1 _ (Zi8 (hif _ (List.mem_of_getElem? (i:=1) rfl)))
    simp only [Nat.zero_mul,Nat.add_zero] at c0 c1
    have l1:o' + 1 < n * 8:=hlim _ c1.1
    have v0:cur.toList[o']?=some (.float .f64 it.Score):=by
     have:=c0.2
     simp only [World.cell?,hh] at this
     simpa using this
    have v1:cur.toList[o' + 1]?=some (.string it.Name):=by
     have:=c1.2
     simp only [World.cell?,hh] at this
     simpa using this
    have hlt:o' / 8 < n:=by omega
    obtain ⟨x,hx⟩:=hrow (o' / 8) hlt
    have sg:∀ p,p < 8 → (seg cur.toList (o' / 8 * 8) 8)[p]?=cur.toList[o' / 8 * 8 + p]?:=fun p hp=>by
     simp only [seg,List.getElem?_take,List.getElem?_drop]
     rw [if_pos hp]
    have hp:=Z0d (p:=o' % 8) (u:=it.Score) hx (by
     show (seg cur.toList (o' / 8 * 8) 8)[o' % 8]?=_
     rw [sg _ (by omega),show o' / 8 * 8 + o' % 8=o' by omega,v0])
    have h5:(seg cur.toList (o' / 8 * 8) 8)[5]?=some (.int .i64 x.Cap):=Zi8 (hx.2 _ (List.mem_of_getElem? (i:=5) rfl))
    rw [sg 5 (by omega),show o' / 8 * 8 + 5=o' + 1 by omega,v1] at h5
    cases h5
  ·refine .inr ⟨b',o',ea,fun i it hi=>?_⟩
   obtain ⟨ci,⟨k1,k2⟩,hc⟩:=hr i it hi
   refine ⟨ci,⟨k1,List.forall_mem_cons.2 ⟨k2 _ (List.mem_of_getElem? (i:=0) rfl),List.forall_mem_cons.2 ⟨k2 _ (List.mem_of_getElem? (i:=1) rfl),fun _ h=>by cases h⟩⟩⟩,fun k u hk=>?_⟩
   obtain ⟨h1,h2⟩:=hc k u hk
   exact ⟨hpr _ _ hb h1,by rw [hw];exact h2⟩
end Go.CL
