/- A part of the proof of HeatBounds. -/
import Derived.Test.YtbbmlejgoepmfaaDoorHeatBoundsC2
import Derived.Test.YtbbmlejgoepmfaaDoorRows
import Derived.Test.YtbbmlejgoepmfaaDoorCards
import Derived.Test.YtbbmlejgoepmfaaDoorTie
import Derived.SevenTiedAt
set_option linter.unusedVariables false
set_option linter.unusedSimpArgs false
set_option maxRecDepth 100000
namespace Go.CL
open Go Go.RowKit Go.Proofs
theorem Zed (a0:List Zw) (a1:ByteArray) {r:Bool} (h:Zb3 a0 a1=some r):FnOk Tryd.prog 6 [(Zl.sl.pd a0),(pStr a1)] (Zm r):=by
 have H0:=h
 unfold Zb3 at H0
 clear h
 refine Zcp (N:=118) Tryd.func6 rfl rfl (Qe rfl) rfl rfl (fun a g0 hst hb=>?_)
 refine r_s (T:=[⟨[],_,[],[],[4]⟩]) (F:=[.o 0,.o 1]) hst hb Za
  (Qa rfl c_b<|o_n) (fun a g hst hb=>?_)
 refine wp_seq ?_
 obtain ⟨r1,h2,H0⟩:=Zf H0
 refine r_s (T:=[⟨[],_,[],[],[16]⟩,⟨[.p 0 0],_,[],[0],[17]⟩]) (F:=[.o 0,.o 1,.p 1 0]) hst hb Za
  (o_p rfl (Zbs en_7 (Ze2 h2) rfl rfl .nil)<|Qn rfl u_0<|o_n) (fun a g hst hb=>?_)
 refine wp_cond_split (hst.bool 2 rfl) (fun hc3=>?_) (fun hc3=>?_)
 ·replace H0:=Z4 hc3 H0
  refine r_s (L:=[]) (T:=[⟨[],_,[],[],[4]⟩]) (F:=[.p 0 0]) (hst.pick [] rfl) hb Za
   (Qa rfl c_b<|o_n) (fun a g hst hb=>?_)
  refine wp_ret ?_
  refine Zo ?_
  obtain rfl:=Option.some.inj H0
  exact Z1 rfl hst hb (Zk (s:=4)) (hst.at 0 rfl)
 ·replace H0:=Z3 hc3 H0
  refine wp_skip ?_
  refine Zg ?_
  refine wp_seq ?_
  obtain ⟨r4,h5,H0⟩:=Zf H0
  refine r_s (L:=[(0,_),(1,_)]) (T:=[⟨[.o 0],_,[],[],[18]⟩,⟨[.p 0 0],_,[],[0],[19]⟩]) (F:=[.o 0,.o 1,.p 1 0]) (hst.pick [0,1] rfl) hb Za
   (Qm rfl u_0<|o_p rfl (Zbs en_8 (Zfv _ h5) rfl rfl (.cons u_0 .nil))<|o_n) (fun a g hst hb=>?_)
  refine wp_cond_split (hst.bool 2 rfl) (fun hc6=>?_) (fun hc6=>?_)
  ·replace H0:=Z4 hc6 H0
   refine r_s (L:=[]) (T:=[⟨[],_,[],[],[4]⟩]) (F:=[.p 0 0]) (hst.pick [] rfl) hb Za
    (Qa rfl c_b<|o_n) (fun a g hst hb=>?_)
   refine wp_ret ?_
   refine Zo ?_
   obtain rfl:=Option.some.inj H0
   exact Z1 rfl hst hb (Zk (s:=4)) (hst.at 0 rfl)
  ·replace H0:=Z3 hc6 H0
   refine wp_skip ?_
   refine Zg ?_
   refine r_s (L:=[(0,_),(1,_)]) (T:=[⟨[],[(5,(Zba none Z0 5 (⟨[]⟩:Zv)))],[6,1000006],[],[5]⟩]) (F:=[.o 0,.o 1,.p 0 0]) (hst.pick [0,1] rfl) hb Za
    (o_p rfl (Zho (by kernel_rfl) rfl rfl)<|o_n) (fun a g hst hb=>?_)
   refine r_s (T:=[⟨[],_,[],[],[6]⟩]) (F:=[.o 0,.o 1,.o 2,.p 0 0]) hst hb Za
    (Qa rfl c_i<|o_n) (fun a g hst hb=>?_)
   refine wp_seq ?_
   refine r_s (T:=[⟨[.o 0],_,[],[],[20]⟩,⟨[.p 0 0],_,[],[0],[21]⟩,⟨[],_,[],[],[22]⟩]) (F:=[.o 1,.o 2,.o 3,.p 0 0,.p 1 0,.p 2 0]) hst hb Za
    (Qm rfl u_0<|o_p rfl (Zby Tryd.underlying22 rfl rfl u_0)<|Qm rfl c_i<|o_n) (fun a g hst hb=>?_)
   obtain ⟨z38,hz1,H0⟩:=Zf H0
   refine Zcz (fun a w=>∃ (g:G),w=g.w ∧ St 118 [] a g ∧ Base g0 g ∧ (.inr ())=z38) ?_ ?_
   ·rintro a w ⟨g,rfl,hst,hb,rfl⟩
    refine Zg ?_
    refine r_s (T:=[⟨[],_,[],[],[4]⟩]) (F:=[.p 0 0]) hst hb Za
     (Qa rfl c_b<|o_n) (fun a g hst hb=>?_)
    refine wp_ret ?_
    obtain rfl:=Option.some.inj H0
    exact Z1 rfl hst hb (Zk (s:=4)) (hst.at 0 rfl)
   ·refine wp_block ?_
    refine wp_loop_ghost (fun n a w=>∃ (x7:Zv) (x8:Int) (x9:Int) (g:G),w=g.w ∧ St 118 [(1,(pStr a1)),(5,(Zba none Z0 5 x7)),(6,(pInt .i64 x8)),(20,(Zl.sl.pd a0)),(21,(pInt .i64 (a0.length:Int))),(22,(pInt .i64 x9))] a g ∧ Base g0 g ∧ Zz a0 a1 n x7 x8 x9=some z38) (Int.toNat ((a0.length:Int) - (0:Int)) + 1) ⟨(⟨[]⟩:Zv),(0:Int),(0:Int),g,rfl,(hst.pick [0,1,2,3,4,5] rfl),hb,hz1⟩ (fun n a w hI=>?_)
    obtain ⟨x7,x8,x9,g,rfl,hst,hb,H1⟩:=hI
    cases n with
    | zero=>exact absurd H1 (by simp [Zz])
    | succ n =>
     rw [Zz] at H1
     refine r_s (T:=[⟨[.o 5,.o 4],_,[],[],[23]⟩]) (F:=[.o 0,.o 1,.o 2,.o 3,.o 4,.o 5,.p 0 0]) hst hb Za
      (o_p rfl (Zdn rfl rfl u_0 u_1)<|o_n) (fun a g hst hb=>?_)
     refine wp_seq ?_
     refine wp_cond_split (hst.bool 6 rfl) (fun hc10=>?_) (fun hc10=>?_)
     ·replace H1:=Z4 hc10 H1
      refine wp_skip ?_
      refine Zg ?_
      refine wp_seq ?_
      refine wp_block ?_
      obtain ⟨e11,h12,H1⟩:=Zf H1
      refine r_s (L:=[(1,_),(5,_),(6,_),(20,_),(21,_),(22,_)]) (T:=[⟨[.o 3,.o 5],_,[],[],[24]⟩,⟨[.p 0 0],_,[],[0],[25]⟩,⟨[],[(8,(pBox Zl 8 (default:Zw)))],[9],[],[8]⟩,⟨[.p 1 0,.p 2 0],_,[9],[0,1,2],[8]⟩]) (F:=[.o 0,.o 1,.o 2,.p 3 0,.o 3,.o 4,.o 5]) (hst.pick [0,1,2,3,4,5] rfl) hb Za
       (o_p rfl (Zbi Tryd.underlying22 Zm5 rfl rfl u_0 u_1 h12)<|Ql rfl Zgx u_0<|o_p rfl (Zcd (zs:=[.int .i64 0,.slice none 0 0]) (by kernel_rfl) (fun g=>Zg1 g) rfl rfl)<|o_p rfl (Zb5 Zgx rfl rfl u_1 u_0)<|o_n) (fun a g hst hb=>?_)
      obtain ⟨r13,h14,H1⟩:=Zf H1
      refine r_s (T:=[⟨[.o 0],_,[],[],[26]⟩,⟨[.o 1,.p 0 0],[(27,(pInt .i64 r13)),(5,(Zba none Z0 5 x7))],[6,1000006],[0],[5,27]⟩,⟨[.p 1 0],_,[],[0,1],[9]⟩,⟨[],_,[],[0,1,2],[10]⟩]) (F:=[.o 0,.p 1 1,.o 2,.o 3,.p 2 0,.p 3 0,.o 4,.o 5,.o 6]) hst hb Za
       (Qm rfl u_0<|o_p rfl (Zci Zia (Zc0 _ _ h14) rfl rfl rfl (by decide) u_0 u_0 (.cons u_1 .nil))<|Qa rfl u_0<|Qa rfl c_i<|o_n) (fun a g hst hb=>?_)
      refine wp_seq ?_
      refine r_s (T:=[⟨[.o 3],_,[],[],[28]⟩,⟨[.p 0 0],_,[],[0],[29]⟩,⟨[.p 1 0],_,[],[0,1],[30]⟩,⟨[],_,[],[],[31]⟩]) (F:=[.o 0,.o 1,.o 2,.o 3,.o 4,.o 5,.o 6,.o 7,.o 8,.p 1 0,.p 2 0,.p 3 0]) hst hb Za
       (Qf rfl Zhd u_0<|Ql rfl Zkq u_0<|o_p rfl (Zby Tryd.underlying29 rfl rfl u_0)<|Qm rfl c_i<|o_n) (fun a g hst hb=>?_)
      obtain ⟨z30,hz2,H1⟩:=Zf H1
      refine Zcz (fun a w=>∃ (y29:Int) (g:G),w=g.w ∧ St 118 [(1,(pStr a1)),(5,(Zba none Z0 5 x7)),(6,(pInt .i64 x8)),(8,(Zl.ptr e11)),(9,(pInt .i64 r13)),(10,(pInt .i64 y29)),(20,(Zl.sl.pd a0)),(21,(pInt .i64 (a0.length:Int))),(22,(pInt .i64 x9))] a g ∧ Base g0 g ∧ y29=z30) ?_ ?_
      ·rintro a w ⟨y29,g,rfl,hst,hb,rfl⟩
       refine Zg ?_
       refine r_s (T:=[⟨[.o 2],_,[],[],[90]⟩,⟨[.o 5],_,[],[],[91]⟩,⟨[.p 0 0,.p 1 0],_,[],[0,1],[92]⟩,⟨[.p 2 0],_,[],[0,1,2],[6]⟩]) (F:=[.o 0,.o 1,.p 3 0,.o 3,.o 4,.o 5,.o 6,.o 7,.o 8]) hst hb Za
        (Qm rfl u_0<|Qm rfl u_0<|o_p rfl (Zoy rfl rfl u_0 u_1)<|Qa rfl u_0<|o_n) (fun a g hst hb=>?_)
       obtain ⟨r31,h32,H1⟩:=Zf H1
       refine r_s (T:=[⟨[.o 3],_,[],[],[93]⟩,⟨[.o 1,.p 0 0],[(94,(pTup [])),(5,(Zba none Z0 5 r31.1))],[6,1000006],[0],[5,94]⟩]) (F:=[.o 0,.p 1 1,.o 2,.o 4,.o 5,.o 6,.o 7,.o 8]) hst hb Za
        (Ql rfl Zgx u_0<|o_p rfl (Zci en_9 (Zdp _ _ h32) rfl rfl rfl (by decide) u_0 u_0 (.cons u_1 .nil))<|o_n) (fun a g hst hb=>?_)
       obtain ⟨r33,h34,H1⟩:=Zf H1
       refine r_s (T:=[⟨[.o 0],_,[],[],[95]⟩,⟨[.o 1,.p 0 0],[(96,(pInt .i64 r33)),(5,(Zba none Z0 5 r31.1))],[6,1000006],[0],[5,96]⟩,⟨[.p 1 0],_,[],[0,1],[15]⟩]) (F:=[.o 0,.p 1 1,.o 2,.o 3,.o 4,.p 2 0,.o 5,.o 6,.o 7]) hst hb Za
        (Qm rfl u_0<|o_p rfl (Zci Zia (Zc0 _ _ h34) rfl rfl rfl (by decide) u_0 u_0 (.cons u_1 .nil))<|Qa rfl u_0<|o_n) (fun a g hst hb=>?_)
       obtain ⟨r35,h36,H1⟩:=Zf H1
       refine r_s (T:=⟨[.o 5],_,[],[],[97]⟩ :: ⟨[.o 2],_,[],[],[98]⟩ :: ⟨[.p 1 0],_,[],[1],[99]⟩ :: ⟨[.p 0 0,.p 2 0],_,[],[0,1,2],[100]⟩ :: ⟨[.p 3 0],_,[],Lr 4,[101]⟩ :: ⟨[.p 4 0,.o 5],_,[],Lr 5,[102]⟩ :: ⟨[.p 4 0,.o 3],_,[],Lr 5,[103]⟩ :: ⟨[.p 4 0,.p 6 0],_,[],[0,1,2,3,4,6],[104]⟩ :: ⟨[.p 4 0,.o 4],_,[],Lr 5,[105]⟩ :: ⟨[.p 4 0,.p 7 0,.p 8 0],_,[],[0,1,2,3,4,6,7,8],[106]⟩ :: ⟨[.p 4 0,.p 5 0,.p 9 0],_,[],Lr 10,[107]⟩ :: ⟨[.p 4 0,.p 10 0],_,[],Lr 11,[108]⟩ :: ⟨[.p 11 0,.o 5],_,[],Lr 12,[109]⟩ :: ⟨[.p 11 0,.p 12 0],_,[],Lr 13,[110]⟩ :: ⟨[.p 11 0,.p 13 0],_,[],Lr 14,[111]⟩ :: ⟨[.p 14 0,.o 1],[(112,(pIf (((!(decide ((IntKind.i64.wrap ((2:Int) * (max x8 y29))) < r33))) && (r33 != (IntKind.i64.wrap ((IntKind.i64.wrap (Int.tdiv r13 (2:Int))) + y29)))) && (!(r33 != (0:Int)))) (pInt .i64 r35))),(5,(Zba none Z0 5 r31.1))],[6,1000006],Lr 15,[5,112]⟩ :: ⟨[.p 14 0,.p 15 0],_,[],Lr 16,[113]⟩ :: ⟨[.p 11 0,.p 14 0,.p 16 0],_,[],Lr 17,[114]⟩ :: ⟨[.p 4 0,.p 11 0,.p 17 0],_,[],Lr 18,[115]⟩ :: ⟨[.p 4 0,.p 18 0],_,[],Lr 19,[116]⟩ :: []) (F:=[.o 0,.p 15 1,.o 2,.o 6,.o 7,.o 8,.p 19 0]) hst hb Za
        (Qm rfl u_0<|Qm rfl u_0<|o_p rfl (Zow rfl rfl c_i u_0 rfl)<|o_p rfl (Zc8 rfl rfl u_0 u_1)<|Qm rfl u_0<|o_g (Qg_f rfl (fun hG=>Zbp rfl rfl u_0))<|o_g (Qg_f rfl (fun hG=>Zbp rfl rfl u_0))<|o_g (Qg_f rfl (fun hG=>Zk1 rfl rfl (Opd.gd hG u_0) c_i (by decide)))<|o_g (Qg_f rfl (fun hG=>Zbp rfl rfl u_0))<|o_g (Qg_f rfl (fun hG=>Zco rfl rfl (Opd.gd hG u_0) (Opd.gd hG u_1) rfl))<|o_g (Qg_f rfl (fun hG=>Zib rfl rfl (Opd.gd hG u_0) (Opd.gd hG u_1)))<|o_g (Qg_f rfl (fun hG=>Zbp rfl rfl (Opd.gd hG u_0)))<|o_g (Qg_ti rfl (fun hG=>Zbp rfl rfl u_0))<|o_g (Qg_ti rfl (fun hG=>Zib rfl rfl (Opd.gd hG u_0) c_i))<|o_g (Qg_ti rfl (fun hG=>Zbp rfl rfl (Opd.gd hG u_0)))<|o_g (OT.guardMR (((!(decide ((IntKind.i64.wrap ((2:Int) * (max x8 y29))) < r33))) && (r33 != (IntKind.i64.wrap ((IntKind.i64.wrap (Int.tdiv r13 (2:Int))) + y29)))) && (!(r33 != (0:Int)))) (giF ((!(decide ((IntKind.i64.wrap ((2:Int) * (max x8 y29))) < r33))) && (r33 != (IntKind.i64.wrap ((IntKind.i64.wrap (Int.tdiv r13 (2:Int))) + y29)))) (r33 != (0:Int))).1 (giF ((!(decide ((IntKind.i64.wrap ((2:Int) * (max x8 y29))) < r33))) && (r33 != (IntKind.i64.wrap ((IntKind.i64.wrap (Int.tdiv r13 (2:Int))) + y29)))) (r33 != (0:Int))).2 rfl rfl rfl (by decide) u_0 (fun hG=>Zci Zm9 (Zek _ (Zeg h36 hG)) rfl rfl rfl (by decide) u_0 u_0 .nil) (ite_self _).symm)<|o_g (Qg_fi rfl (fun hG=>Zdn rfl rfl (Opd.gd hG u_0) c_i))<|o_g (Qg_ti rfl (fun hG=>Zc3 rfl rfl (Opd.gd hG u_0) (fun hz=>(Opd.gd (bA hG (bNF hz)) u_1))))<|o_g (Qg_f rfl (fun hG=>Zd0 rfl rfl (Opd.gd hG u_0) (fun hz=>(Opd.gd (bA hG hz) u_1))))<|o_p rfl (Zc3 rfl rfl u_0 (fun hz=>(Opd.gd (bNF hz) u_1)))<|o_n) (fun a g hst hb=>?_)
       refine wp_cond_split (hst.bool 6 rfl) (fun hc37=>?_) (fun hc37=>?_)
       ·replace H1:=Z4 hc37 H1
        refine r_s (L:=[]) (T:=[⟨[],_,[],[],[4]⟩]) (F:=[.p 0 0]) (hst.pick [] rfl) hb Za
         (Qa rfl c_b<|o_n) (fun a g hst hb=>?_)
        refine wp_ret ?_
        refine Zbt ?_
        refine Zo ?_
        refine Zo ?_
        refine Zbt ?_
        refine Zo ?_
        refine Zo ?_
        obtain rfl:=Option.some.inj H1
        obtain rfl:=Option.some.inj H0
        exact Z1 rfl hst hb (Zk (s:=4)) (hst.at 0 rfl)
       ·replace H1:=Z3 hc37 H1
        refine wp_skip ?_
        refine Zbe ?_
        refine Zg ?_
        refine r_g (L:=[(1,_),(5,_),(6,_),(20,_),(21,_),(22,_)]) (T:=[⟨[.o 5],_,[],[],[117]⟩,⟨[.p 0 0],_,[],[0],[22]⟩]) (F:=[.o 0,.o 1,.o 2,.o 3,.o 4,.p 1 0]) (hst.pick [0,1,2,3,4,5] rfl) hb Za
         (o_p rfl (Zco rfl rfl u_0 c_i rfl)<|Qm rfl u_0<|o_n) (fun a g hst hb=>?_)
        exact ⟨n,Nat.lt_succ_self _,r31.1,(max x8 y29),(IntKind.i64.wrap (x9 + (1:Int))),g,rfl,(hst.pick [0,1,2,3,4,5] rfl),hb,H1⟩
      ·refine wp_block ?_
       refine wp_loop_ghost (fun n a w=>∃ (x15:Int) (x16:Int) (g:G),w=g.w ∧ St 118 [(1,(pStr a1)),(5,(Zba none Z0 5 x7)),(6,(pInt .i64 x8)),(8,(Zl.ptr e11)),(9,(pInt .i64 r13)),(10,(pInt .i64 x15)),(20,(Zl.sl.pd a0)),(21,(pInt .i64 (a0.length:Int))),(22,(pInt .i64 x9)),(29,(Zq.sl.pd e11.Deals)),(30,(pInt .i64 (e11.Deals.length:Int))),(31,(pInt .i64 x16))] a g ∧ Base g0 g ∧ Zu a1 e11 n x15 x16=some z30) (Int.toNat ((e11.Deals.length:Int) - (0:Int)) + 1) ⟨(0:Int),(0:Int),g,rfl,(hst.pick [0,1,2,3,4,5,6,7,8,9,10,11] rfl),hb,hz2⟩ (fun n a w hI=>?_)
       obtain ⟨x15,x16,g,rfl,hst,hb,H2⟩:=hI
       cases n with
       | zero=>exact absurd H2 (by simp [Zu])
       | succ n =>
        rw [Zu] at H2
        refine r_s (T:=[⟨[.o 11,.o 10],_,[],[],[32]⟩]) (F:=[.o 0,.o 1,.o 2,.o 3,.o 4,.o 5,.o 6,.o 7,.o 8,.o 9,.o 10,.o 11,.p 0 0]) hst hb Za
         (o_p rfl (Zdn rfl rfl u_0 u_1)<|o_n) (fun a g hst hb=>?_)
        refine wp_seq ?_
        refine wp_cond_split (hst.bool 12 rfl) (fun hc17=>?_) (fun hc17=>?_)
        ·replace H2:=Z4 hc17 H2
         refine wp_skip ?_
         refine Zg ?_
         refine wp_seq ?_
         refine wp_block ?_
         obtain ⟨e18,h19,H2⟩:=Zf H2
         refine r_s (L:=[(1,_),(5,_),(6,_),(8,_),(9,_),(10,_),(20,_),(21,_),(22,_),(29,_),(30,_),(31,_)]) (T:=[⟨[.o 9,.o 11],_,[],[],[33]⟩,⟨[.p 0 0],_,[],[0],[34]⟩,⟨[],[(12,(pBox Zq 12 (default:Zt)))],[13],[],[12]⟩,⟨[.p 1 0,.p 2 0],_,[13],[0,1,2],[12]⟩]) (F:=[.o 0,.o 1,.o 2,.o 3,.o 4,.o 5,.p 3 0,.o 6,.o 7,.o 8,.o 9,.o 10,.o 11]) (hst.pick [0,1,2,3,4,5,6,7,8,9,10,11] rfl) hb Za
          (o_p rfl (Zbi Tryd.underlying29 Zke rfl rfl u_0 u_1 h19)<|Ql rfl Ze7 u_0<|o_p rfl (Zcd (zs:=[.slice none 0 0]) (by kernel_rfl) (fun g=>Zet g) rfl rfl)<|o_p rfl (Zb5 Ze7 rfl rfl u_1 u_0)<|o_n) (fun a g hst hb=>?_)
         refine r_s (T:=[⟨[.o 6],_,[],[],[35]⟩,⟨[.p 0 0],_,[],[0],[36]⟩,⟨[.p 1 0],_,[],[0,1],[37]⟩,⟨[],_,[],[],[38]⟩]) (F:=[.o 0,.o 1,.o 2,.o 3,.o 4,.o 5,.o 7,.o 8,.o 9,.o 10,.o 11,.o 12,.p 1 0,.p 2 0,.p 3 0]) hst hb Za
          (Qf rfl Zf7 u_0<|Ql rfl Zic u_0<|o_p rfl (Zby Tryd.underlying52 rfl rfl u_0)<|Qm rfl c_i<|o_n) (fun a g hst hb=>?_)
         obtain ⟨z28,hz3,H2⟩:=Zf H2
         refine Zcz (fun a w=>∃ (y27:Int) (g:G),w=g.w ∧ St 118 [(1,(pStr a1)),(5,(Zba none Z0 5 x7)),(6,(pInt .i64 x8)),(8,(Zl.ptr e11)),(9,(pInt .i64 r13)),(10,(pInt .i64 y27)),(20,(Zl.sl.pd a0)),(21,(pInt .i64 (a0.length:Int))),(22,(pInt .i64 x9)),(29,(Zq.sl.pd e11.Deals)),(30,(pInt .i64 (e11.Deals.length:Int))),(31,(pInt .i64 x16))] a g ∧ Base g0 g ∧ y27=z28) ?_ ?_
         ·rintro a w ⟨y27,g,rfl,hst,hb,rfl⟩
          refine Zbe ?_
          refine Zg ?_
          refine r_g (T:=[⟨[.o 11],_,[],[],[89]⟩,⟨[.p 0 0],_,[],[0],[31]⟩]) (F:=[.o 0,.o 1,.o 2,.o 3,.o 4,.o 5,.o 6,.o 7,.o 8,.o 9,.o 10,.p 1 0]) hst hb Za
           (o_p rfl (Zco rfl rfl u_0 c_i rfl)<|Qm rfl u_0<|o_n) (fun a g hst hb=>?_)
          exact ⟨n,Nat.lt_succ_self _,y27,(IntKind.i64.wrap (x16 + (1:Int))),g,rfl,(hst.pick [0,1,2,3,4,5,6,7,8,9,10,11] rfl),hb,H2⟩
         ·refine wp_block ?_
          refine wp_loop_ghost (fun n a w=>∃ (x20:Int) (x21:Int) (g:G),w=g.w ∧ St 118 [(1,(pStr a1)),(5,(Zba none Z0 5 x7)),(6,(pInt .i64 x8)),(8,(Zl.ptr e11)),(9,(pInt .i64 r13)),(10,(pInt .i64 x20)),(20,(Zl.sl.pd a0)),(21,(pInt .i64 (a0.length:Int))),(22,(pInt .i64 x9)),(29,(Zq.sl.pd e11.Deals)),(30,(pInt .i64 (e11.Deals.length:Int))),(31,(pInt .i64 x16)),(36,(Zy.sl.pd e18.Acts)),(37,(pInt .i64 (e18.Acts.length:Int))),(38,(pInt .i64 x21))] a g ∧ Base g0 g ∧ Zp a1 e18 n x20 x21=some z28) (Int.toNat ((e18.Acts.length:Int) - (0:Int)) + 1) ⟨x15,(0:Int),g,rfl,(hst.pick [0,1,2,3,4,5,6,7,8,9,10,11,12,13,14] rfl),hb,hz3⟩ (fun n a w hI=>?_)
          obtain ⟨x20,x21,g,rfl,hst,hb,H3⟩:=hI
          cases n with
          | zero=>exact absurd H3 (by simp [Zp])
          | succ n =>
           rw [Zp] at H3
           refine r_s (T:=[⟨[.o 14,.o 13],_,[],[],[39]⟩]) (F:=[.o 0,.o 1,.o 2,.o 3,.o 4,.o 5,.o 6,.o 7,.o 8,.o 9,.o 10,.o 11,.o 12,.o 13,.o 14,.p 0 0]) hst hb Za
            (o_p rfl (Zdn rfl rfl u_0 u_1)<|o_n) (fun a g hst hb=>?_)
           refine wp_seq ?_
           refine wp_cond_split (hst.bool 15 rfl) (fun hc22=>?_) (fun hc22=>?_)
           ·replace H3:=Z4 hc22 H3
            refine wp_skip ?_
            refine Zg ?_
            refine wp_seq ?_
            refine Zcz (fun a w=>∃ (j26:Int) (g:G),w=g.w ∧ St 118 [(1,(pStr a1)),(5,(Zba none Z0 5 x7)),(6,(pInt .i64 x8)),(8,(Zl.ptr e11)),(9,(pInt .i64 r13)),(10,(pInt .i64 j26)),(20,(Zl.sl.pd a0)),(21,(pInt .i64 (a0.length:Int))),(22,(pInt .i64 x9)),(29,(Zq.sl.pd e11.Deals)),(30,(pInt .i64 (e11.Deals.length:Int))),(31,(pInt .i64 x16)),(36,(Zy.sl.pd e18.Acts)),(37,(pInt .i64 (e18.Acts.length:Int))),(38,(pInt .i64 x21))] a g ∧ Base g0 g ∧ Zbk x21 (Zp a1 e18 n) j26=some z28) ?_ ?_
            ·rintro a w ⟨j26,g,rfl,hst,hb,H3⟩
             unfold Zbk at H3
             refine Zg ?_
             refine r_g (T:=[⟨[.o 14],_,[],[],[88]⟩,⟨[.p 0 0],_,[],[0],[38]⟩]) (F:=[.o 0,.o 1,.o 2,.o 3,.o 4,.o 5,.o 6,.o 7,.o 8,.o 9,.o 10,.o 11,.o 12,.o 13,.p 1 0]) hst hb Za
              (o_p rfl (Zco rfl rfl u_0 c_i rfl)<|Qm rfl u_0<|o_n) (fun a g hst hb=>?_)
             exact ⟨n,Nat.lt_succ_self _,j26,(IntKind.i64.wrap (x21 + (1:Int))),g,rfl,(hst.pick [0,1,2,3,4,5,6,7,8,9,10,11,12,13,14] rfl),hb,H3⟩
            ·refine wp_block ?_
             obtain ⟨e23,h24,H3⟩:=Zf H3
             refine r_s (L:=[(1,_),(5,_),(6,_),(8,_),(9,_),(10,_),(20,_),(21,_),(22,_),(29,_),(30,_),(31,_),(36,_),(37,_),(38,_)]) (T:=[⟨[.o 12,.o 14],_,[],[],[40]⟩,⟨[.p 0 0],_,[],[0],[41]⟩,⟨[],[(14,(pBox Zy 14 (default:Zj)))],[15],[],[14]⟩,⟨[.p 1 0,.p 2 0],_,[15],[0,1,2],[14]⟩]) (F:=[.o 0,.o 1,.o 2,.o 3,.o 4,.o 5,.p 3 0,.o 6,.o 7,.o 8,.o 9,.o 10,.o 11,.o 12,.o 13,.o 14]) (hst.pick [0,1,2,3,4,5,6,7,8,9,10,11,12,13,14] rfl) hb Za
              (o_p rfl (Zbi Tryd.underlying52 Zj3 rfl rfl u_0 u_1 h24)<|Ql rfl Zdx u_0<|o_p rfl (Zcd (zs:=[.int .i64 0,.string ByteArray.empty,.int .i64 0,.float .f64 0,.string ByteArray.empty,.int .i64 0,.int .i64 0,.int .i64 0,.int .i64 0,.float .f64 0,.int .i64 0,.string ByteArray.empty,.slice none 0 0,.bool false]) (by kernel_rfl) (fun g=>Zee g) rfl rfl)<|o_p rfl (Zb5 Zdx rfl rfl u_1 u_0)<|o_n) (fun a g hst hb=>?_)
             refine r_s (T:=⟨[.o 6],_,[],[],[42]⟩ :: ⟨[.p 0 0],_,[],[0],[43]⟩ :: ⟨[.o 0],_,[],[],[44]⟩ :: ⟨[.p 1 0,.p 2 0],_,[],[0,1,2],[45]⟩ :: ⟨[.p 3 0],_,[],Lr 4,[46]⟩ :: ⟨[.p 4 0,.o 6],_,[],Lr 5,[47]⟩ :: ⟨[.p 4 0,.p 5 0],_,[],Lr 6,[48]⟩ :: ⟨[.p 4 0,.p 6 0],_,[],Lr 7,[49]⟩ :: ⟨[.p 4 0,.p 7 0],_,[],Lr 8,[50]⟩ :: ⟨[.p 8 0,.o 6],_,[],Lr 9,[51]⟩ :: ⟨[.p 8 0,.p 9 0],_,[],Lr 10,[52]⟩ :: ⟨[.p 8 0,.p 10 0],_,[],Lr 11,[53]⟩ :: ⟨[.p 4 0,.p 8 0,.p 11 0],_,[],Lr 12,[54]⟩ :: ⟨[.p 4 0,.p 12 0],_,[],Lr 13,[55]⟩ :: ⟨[.p 13 0,.o 6],_,[],Lr 14,[56]⟩ :: ⟨[.p 13 0,.p 14 0],_,[],Lr 15,[57]⟩ :: ⟨[.p 13 0,.p 15 0],_,[],Lr 16,[58]⟩ :: ⟨[.p 4 0,.p 13 0,.p 16 0],_,[],Lr 17,[59]⟩ :: ⟨[.p 4 0,.p 17 0],_,[],Lr 18,[60]⟩ :: ⟨[.p 18 0,.o 6],_,[],Lr 19,[61]⟩ :: ⟨[.p 18 0,.p 19 0],_,[],Lr 20,[62]⟩ :: ⟨[.p 18 0,.p 20 0],_,[],Lr 21,[63]⟩ :: ⟨[.p 4 0,.p 18 0,.p 21 0],_,[],Lr 22,[64]⟩ :: ⟨[.p 4 0,.p 22 0],_,[],Lr 23,[65]⟩ :: ⟨[.p 23 0,.o 6],_,[],Lr 24,[66]⟩ :: ⟨[.p 23 0,.p 24 0],_,[],Lr 25,[67]⟩ :: ⟨[.p 23 0,.p 25 0],_,[],Lr 26,[68]⟩ :: ⟨[.p 4 0,.p 23 0,.p 26 0],_,[],Lr 27,[69]⟩ :: ⟨[.p 4 0,.p 27 0],_,[],Lr 28,[70]⟩ :: ⟨[.p 28 0,.o 6],_,[],Lr 29,[71]⟩ :: ⟨[.p 28 0,.p 29 0],_,[],Lr 30,[72]⟩ :: ⟨[.p 28 0,.p 30 0],_,[],Lr 31,[73]⟩ :: ⟨[.p 4 0,.p 28 0,.p 31 0],_,[],Lr 32,[74]⟩ :: ⟨[.p 4 0,.p 32 0],_,[],Lr 33,[75]⟩ :: ⟨[.p 33 0,.o 6],_,[],Lr 34,[76]⟩ :: ⟨[.p 33 0,.p 34 0],_,[],Lr 35,[77]⟩ :: ⟨[.p 33 0,.p 35 0],_,[],Lr 36,[78]⟩ :: ⟨[.p 4 0,.p 33 0,.p 36 0],_,[],Lr 37,[79]⟩ :: ⟨[.p 4 0,.p 37 0],_,[],Lr 38,[80]⟩ :: ⟨[.p 38 0,.o 6],_,[],Lr 39,[81]⟩ :: ⟨[.p 38 0,.p 39 0],_,[],Lr 40,[82]⟩ :: ⟨[.p 38 0,.p 40 0],_,[],Lr 41,[83]⟩ :: ⟨[.p 4 0,.p 38 0,.p 41 0],_,[],Lr 42,[84]⟩ :: ⟨[.p 4 0,.p 42 0],_,[],Lr 43,[85]⟩ :: []) (F:=[.o 0,.o 1,.o 2,.o 3,.o 4,.o 5,.o 7,.o 8,.o 9,.o 10,.o 11,.o 12,.o 13,.o 14,.o 15,.p 43 0]) hst hb Za
              (Qf rfl Zg9 u_0<|Ql rfl ty_9 u_0<|Qm rfl u_0<|o_p rfl (Zox rfl rfl u_0 u_1)<|Qm rfl u_0<|o_g (Qg_t rfl (fun hG=>Zbj Zdb rfl rfl u_0))<|o_g (Qg_t rfl (fun hG=>Zcl ty_3 rfl rfl (Opd.gd hG u_0)))<|o_g (Qg_t rfl (fun hG=>Zb2 rfl rfl (Opd.gd hG u_0) c_i))<|o_g (Qg_t rfl (fun hG=>Zbp rfl rfl (Opd.gd hG u_0)))<|o_g (Qg_fi rfl (fun hG=>Zbj Zdb rfl rfl u_0))<|o_g (Qg_fi rfl (fun hG=>Zcl ty_3 rfl rfl (Opd.gd hG u_0)))<|o_g (Qg_fi rfl (fun hG=>Zb2 rfl rfl (Opd.gd hG u_0) c_i))<|o_g (Qg_t rfl (fun hG=>Zc3 rfl rfl (Opd.gd hG u_0) (fun hz=>(Opd.gd (bA hG (bNF hz)) u_1))))<|o_g (Qg_t rfl (fun hG=>Zbp rfl rfl (Opd.gd hG u_0)))<|o_g (Qg_fi rfl (fun hG=>Zbj Zdb rfl rfl u_0))<|o_g (Qg_fi rfl (fun hG=>Zcl ty_3 rfl rfl (Opd.gd hG u_0)))<|o_g (Qg_fi rfl (fun hG=>Zb2 rfl rfl (Opd.gd hG u_0) c_i))<|o_g (Qg_t rfl (fun hG=>Zc3 rfl rfl (Opd.gd hG u_0) (fun hz=>(Opd.gd (bA hG (bNF hz)) u_1))))<|o_g (Qg_t rfl (fun hG=>Zbp rfl rfl (Opd.gd hG u_0)))<|o_g (Qg_fi rfl (fun hG=>Zbj Zdb rfl rfl u_0))<|o_g (Qg_fi rfl (fun hG=>Zcl ty_3 rfl rfl (Opd.gd hG u_0)))<|o_g (Qg_fi rfl (fun hG=>Zb2 rfl rfl (Opd.gd hG u_0) c_i))<|o_g (Qg_t rfl (fun hG=>Zc3 rfl rfl (Opd.gd hG u_0) (fun hz=>(Opd.gd (bA hG (bNF hz)) u_1))))<|o_g (Qg_t rfl (fun hG=>Zbp rfl rfl (Opd.gd hG u_0)))<|o_g (Qg_fi rfl (fun hG=>Zbj Zdb rfl rfl u_0))<|o_g (Qg_fi rfl (fun hG=>Zcl ty_3 rfl rfl (Opd.gd hG u_0)))<|o_g (Qg_fi rfl (fun hG=>Zb2 rfl rfl (Opd.gd hG u_0) c_i))<|o_g (Qg_t rfl (fun hG=>Zc3 rfl rfl (Opd.gd hG u_0) (fun hz=>(Opd.gd (bA hG (bNF hz)) u_1))))<|o_g (Qg_t rfl (fun hG=>Zbp rfl rfl (Opd.gd hG u_0)))<|o_g (Qg_fi rfl (fun hG=>Zbj Zdb rfl rfl u_0))<|o_g (Qg_fi rfl (fun hG=>Zcl ty_3 rfl rfl (Opd.gd hG u_0)))<|o_g (Qg_fi rfl (fun hG=>Zb2 rfl rfl (Opd.gd hG u_0) c_i))<|o_g (Qg_t rfl (fun hG=>Zc3 rfl rfl (Opd.gd hG u_0) (fun hz=>(Opd.gd (bA hG (bNF hz)) u_1))))<|o_g (Qg_t rfl (fun hG=>Zbp rfl rfl (Opd.gd hG u_0)))<|o_g (Qg_fi rfl (fun hG=>Zbj Zdb rfl rfl u_0))<|o_g (Qg_fi rfl (fun hG=>Zcl ty_3 rfl rfl (Opd.gd hG u_0)))<|o_g (Qg_fi rfl (fun hG=>Zb2 rfl rfl (Opd.gd hG u_0) c_i))<|o_g (Qg_t rfl (fun hG=>Zc3 rfl rfl (Opd.gd hG u_0) (fun hz=>(Opd.gd (bA hG (bNF hz)) u_1))))<|o_g (Qg_t rfl (fun hG=>Zbp rfl rfl (Opd.gd hG u_0)))<|o_g (Qg_fi rfl (fun hG=>Zbj Zdb rfl rfl u_0))<|o_g (Qg_fi rfl (fun hG=>Zcl ty_3 rfl rfl (Opd.gd hG u_0)))<|o_g (Qg_fi rfl (fun hG=>Zb2 rfl rfl (Opd.gd hG u_0) c_i))<|o_g (Qg_t rfl (fun hG=>Zc3 rfl rfl (Opd.gd hG u_0) (fun hz=>(Opd.gd (bA hG (bNF hz)) u_1))))<|o_p rfl (Zd0 rfl rfl u_0 (fun hz=>(Opd.gd hz u_1)))<|o_n) (fun a g hst hb=>?_)
             refine wp_cond_split (hst.bool 15 rfl) (fun hc25=>?_) (fun hc25=>?_)
             ·replace H3:=Z4 hc25 H3
              refine r_g (L:=[(1,_),(5,_),(6,_),(8,_),(9,_),(10,_),(20,_),(21,_),(22,_),(29,_),(30,_),(31,_),(36,_),(37,_),(38,_)]) (T:=[⟨[.o 5],_,[],[],[86]⟩,⟨[.p 0 0],_,[],[0],[87]⟩,⟨[.p 1 0],_,[],[0,1],[10]⟩]) (F:=[.o 0,.o 1,.o 2,.o 3,.o 4,.p 2 0,.o 6,.o 7,.o 8,.o 9,.o 10,.o 11,.o 12,.o 13,.o 14]) (hst.pick [0,1,2,3,4,5,6,7,8,9,10,11,12,13,14] rfl) hb Za
               (Qm rfl u_0<|o_p rfl (Zco rfl rfl u_0 c_i rfl)<|Qa rfl u_0<|o_n) (fun a g hst hb=>?_)
              refine Zbe ?_
              exact ⟨(IntKind.i64.wrap (x20 + (1:Int))),g,rfl,(hst.pick [0,1,2,3,4,5,6,7,8,9,10,11,12,13,14] rfl),hb,H3⟩
             ·replace H3:=Z3 hc25 H3
              refine wp_skip ?_
              refine Zbe ?_
              exact ⟨x20,g,rfl,(hst.pick [0,1,2,3,4,5,6,7,8,9,10,11,12,13,14] rfl),hb,H3⟩
           ·replace H3:=Z3 hc22 H3
            refine wp_exit ?_
            refine Zbd ?_
            refine Zbd ?_
            refine Zbr ?_
            exact ⟨x20,g,rfl,(hst.pick [0,1,2,3,4,5,6,7,8,9,10,11] rfl),hb,Option.some.inj H3⟩
        ·replace H2:=Z3 hc17 H2
         refine wp_exit ?_
         refine Zbd ?_
         refine Zbd ?_
         refine Zbr ?_
         exact ⟨x15,g,rfl,(hst.pick [0,1,2,3,4,5,6,7,8] rfl),hb,Option.some.inj H2⟩
     ·replace H1:=Z3 hc10 H1
      refine wp_exit ?_
      refine Zbd ?_
      refine Zbd ?_
      refine Zbr ?_
      exact ⟨g,rfl,(hst.pick [] rfl),hb,Option.some.inj H1⟩
end Go.CL
namespace Go.CL
open Go
abbrev BI:=List (ByteArray × Int)
abbrev RM:=Zgk
def Zda (k:Int):Bool:=((((((((k == (7:Int)) || (k == (8:Int))) || (k == (10:Int))) || (k == (11:Int))) || (k == (13:Int))) || (k == (14:Int))) || (k == (18:Int))) || (k == (21:Int)))
theorem Zn8 (k:Int):∃ o,Zd9 k=some o:=by
 unfold Zd9 Zgz
 by_cases h:k ≤ 0 ∨ 22 ≤ k
 ·rw [if_pos (by simpa using h)];exact ⟨_,rfl⟩
 ·rw [if_neg (by simpa using h)]
  obtain ⟨n,rfl⟩:=Int.eq_ofNat_of_zero_le (show 0 ≤ k by omega)
  have hl:n < g_0.length:=by have:g_0.length=22:=rfl;omega
  have:idx g_0 (n:Int)=some g_0[n]:=Zd8 hl
  rw [this];exact ⟨_,rfl⟩
theorem Zlu {k o:Int} (h:Zd9 k=some o):Zdk o k=some (Zda k):=by
 have key:∀ b:Bool,(if b=true then ((Zd9 k).bind fun r10=>some (r10 == o)) else some false)=some b:=by
  intro b;cases b <;> simp [h]
 unfold Zdk Z8 Zda
 simp only [key]
 cases (k == (7:Int)) <;> cases (k == (8:Int)) <;> cases (k == (10:Int)) <;> cases (k == (11:Int)) <;> cases (k == (13:Int)) <;> cases (k == (14:Int)) <;> cases (k == (18:Int)) <;> cases (k == (21:Int)) <;> rfl
def bump (nx:BI) (k:ByteArray):BI:=setS nx k (IntKind.i64.wrap ((getS nx k).getD 0 + 1))
theorem Zja (nx:BI) (a:Zj):Zem nx a=some (if Zda a.Kind then bump nx a.Key else nx):=by
 obtain ⟨o,ho⟩:=Zn8 a.Kind
 unfold Zem
 rw [ho,Option.bind_some,Zlu ho,Option.bind_some];rfl
def Zcq (l:List Zj):List ByteArray:=(l.filter fun a=>Zda a.Kind).map (·.Key)
def Zc6 (l:List Zt):List ByteArray:=l.flatMap fun d=>Zcq d.Acts
theorem Zg5 (a:Zj) (l:List Zj):Zcq (a :: l)=if Zda a.Kind then a.Key :: Zcq l else Zcq l:=by
 unfold Zcq
 by_cases h:Zda a.Kind=true <;> simp [h]
theorem Zf3:∀ (l:List Zj) (nx:BI),Zdl l nx=some ((Zcq l).foldl bump nx)
 | [],nx=>rfl
 | a :: l,nx=>by
  rw [Zdl,Zja,Option.bind_some,Zf3 l,Zg5]
  split <;> rfl
theorem Zfn:∀ (l:List Zt) (nx:BI),Zdm l nx=some ((Zc6 l).foldl bump nx)
 | [],nx=>rfl
 | d :: l,nx=>by
  rw [Zdm,Zf3,Option.bind_some,Zfn l]
  show _=some ((Zcq d.Acts ++ Zc6 l).foldl bump nx)
  rw [List.foldl_append]
def Zbb (m:BI) (x:Zw):BI:=(Zc6 x.Deals).foldl bump (Ze m)
theorem Zep {h:Zv} {x:Zw} (hl:(Zbb h.by_ x).length ≤ 1000000000):Z5 h x=some (⟨Zn (Zbb h.by_ x)⟩,()):=by
 unfold Z5
 rw [Zfn,Option.bind_some]
 show (Z7 ⟨Zbb h.by_ x⟩).bind _=_
 unfold Z7
 rw [if_pos (by show (Zbb h.by_ x).length * 24 ≤ _;omega)]
 rfl
theorem Zmr (m:BI) (k:ByteArray) (n:Int):(setS m k n).length ≤ m.length + 1:=by
 unfold setS
 have:=List.length_filter_le (fun e:ByteArray × Int=>decide (e.1 ≠ k)) m
 simp only [List.length_cons];omega
theorem Zhl:∀ (l:List ByteArray) (m:BI),(l.foldl bump m).length ≤ m.length + l.length
 | [],m=>by simp
 | k :: l,m=>by
  have:=Zhl l (bump m k)
  have h2:(bump m k).length ≤ m.length + 1:=Zmr ..
  simp only [List.foldl_cons,List.length_cons];omega
theorem Zl8 (m:BI):(Ze m).length ≤ m.length:=by
 unfold Ze
 rw [List.length_map];exact List.length_filter_le ..
def toP (l:List RM):BI:=l.map fun m=>(m.Key,m.Score)
def cv (m:RM):Zb:=⟨m.Key,m.Score⟩
def OrdR (l:List RM):Prop:=l.Pairwise fun x y=>¬ Hot (cv y) (cv x)
theorem Zlo {m:BI} (hk:(m.map (·.1)).Nodup) (k:ByteArray):((bump m k).map (·.1)).Nodup:=Zf2 hk k _
theorem Zg0:∀ (l:List ByteArray) {m:BI},(m.map (·.1)).Nodup → ((l.foldl bump m).map (·.1)).Nodup
 | [],_,h=>h
 | k :: l,_,h=>Zg0 l (Zlo h k)
theorem Zkl {m:BI} (hk:(m.map (·.1)).Nodup):((Ze m).map (·.1)).Nodup:=by
 unfold Ze
 rw [List.map_map]
 exact List.Nodup.sublist (List.Sublist.map _ List.filter_sublist) hk
theorem Zob (l:List RM):(toP l).map Zr=l.map cv:=by unfold toP;rw [List.map_map];rfl
structure Same12 (h:Zv) (w:List RM):Prop where
 eq:h.by_=toP w
 keys:(w.map (·.Key)).Nodup
 ord:OrdR w
 len:w.length ≤ 256
theorem Zj4 (r:Zs):∃ c,Zcb r=some c:=by
 unfold Zcb
 by_cases h:(decide ((100:Int) < (r.List.length:Int)) || decide ((1000:Int) < (r.Text.size:Int)))=true
 ·rw [if_pos h];exact ⟨_,rfl⟩
 ·rw [if_neg h]
  have hl100:r.List.length ≤ 100:=by
   simp only [Bool.or_eq_true,decide_eq_true_eq,not_or] at h
   omega
  have go:∀ (n i:Nat),i + n=r.List.length → ∃ z,Zbc r (n + 1) (i:Int)=some z:=by
   intro n
   induction n with
   | zero=>intro i hi;rw [Zbc,if_neg (by simp;omega)];exact ⟨_,rfl⟩
   | succ n ih =>
    intro i hi
    rw [Zbc,if_pos (by simp;omega),Zd8 (show i < r.List.length by omega),Option.bind_some]
    split
    ·exact ⟨_,rfl⟩
    ·rw [wr1 (by omega)];exact ih (i + 1) (by omega)
  obtain ⟨z,hz⟩:=go r.List.length 0 (by omega)
  rw [show ((0:Nat):Int)=0 from rfl] at hz
  rw [show Int.toNat ((r.List.length:Int) - (0:Int)) + 1=r.List.length + 1 by omega,hz]
  cases z <;> exact ⟨_,rfl⟩
theorem Zkr (a:Zj):∃ c,Zct a=some c:=by
 unfold Zct
 obtain ⟨c,hc⟩:=Zj4 a.Make
 have:∃ y,gd (!(decide ((200:Int) < (a.Key.size:Int)) || decide ((1000:Int) < (a.S.size:Int)))) (Zcb a.Make)=some y:=by
  rw [hc]
  cases (!(decide ((200:Int) < (a.Key.size:Int)) || decide ((1000:Int) < (a.S.size:Int)))) with
  | true=>exact ⟨c,rfl⟩
  | false=>exact ⟨_,rfl⟩
 obtain ⟨y,hy⟩:=this
 rw [hy,Option.bind_some]
 split <;> exact ⟨_,rfl⟩
theorem Zj7 (d:Zt):∃ c,Zcx d=some c ∧ (¬ 0 < c → d.Acts.length ≤ 40):=by
 unfold Zcx
 by_cases h:40 < d.Acts.length
 ·rw [if_pos (by simp;omega)];exact ⟨1,rfl,fun h=>by omega⟩
 ·rw [if_neg (by simp;omega)]
  have go:∀ (n i:Nat),i + n=d.Acts.length → ∃ z,Zbg d (n + 1) (i:Int)=some z:=by
   intro n
   induction n with
   | zero=>intro i hi;rw [Zbg,if_neg (by simp;omega)];exact ⟨_,rfl⟩
   | succ n ih =>
    intro i hi
    obtain ⟨c,hc⟩:=Zkr (d.Acts[i]'(by omega))
    rw [Zbg,if_pos (by simp;omega),Zd8 (show i < d.Acts.length by omega),Option.bind_some,hc,Option.bind_some]
    split
    ·exact ⟨_,rfl⟩
    ·rw [wr1 (by omega)];exact ih (i + 1) (by omega)
  obtain ⟨z,hz⟩:=go d.Acts.length 0 (by omega)
  rw [show ((0:Nat):Int)=0 from rfl] at hz
  rw [show Int.toNat ((d.Acts.length:Int) - (0:Int)) + 1=d.Acts.length + 1 by omega,hz]
  cases z <;> exact ⟨_,rfl,fun _=>by omega⟩
theorem Zj2 (l:List Zt):∃ c,Zcw l=some c ∧ (¬ 0 < c → l.length ≤ 40 ∧ ∀ d ∈ l,d.Acts.length ≤ 40):=by
 unfold Zcw
 by_cases h:40 < l.length
 ·rw [if_pos (by simp;omega)];exact ⟨1,rfl,fun h=>by omega⟩
 ·rw [if_neg (by simp;omega)]
  have go:∀ (n i:Nat),i + n=l.length → ∃ z,Zbf l (n + 1) (i:Int)=some z ∧ ((z=.inl 1) ∨ (z=.inr () ∧ ∀ d ∈ l.drop i,d.Acts.length ≤ 40)):=by
   intro n
   induction n with
   | zero=>intro i hi;rw [Zbf,if_neg (by simp;omega),List.drop_of_length_le (by omega)];exact ⟨_,rfl,.inr ⟨rfl,fun d hd=>by cases hd⟩⟩
   | succ n ih =>
    intro i hi
    have hil:i < l.length:=by omega
    obtain ⟨c,hc,hc2⟩:=Zj7 l[i]
    rw [Zbf,if_pos (by simp;omega),Zd8 hil,Option.bind_some,hc,Option.bind_some]
    by_cases h0:0 < c
    ·rw [if_pos (by simpa using h0)];exact ⟨_,rfl,.inl rfl⟩
    ·rw [if_neg (by simpa using h0),wr1 (by omega)]
     obtain ⟨z,hz,hz2⟩:=ih (i + 1) (by omega)
     refine ⟨z,hz,hz2.imp id fun ⟨e,hd⟩=>⟨e,fun d hm=>?_⟩⟩
     rw [List.drop_eq_getElem_cons hil] at hm
     rcases List.mem_cons.1 hm with rfl | hm
     ·exact hc2 h0
     ·exact hd d hm
  obtain ⟨z,hz,hz2⟩:=go l.length 0 (by omega)
  rw [show ((0:Nat):Int)=0 from rfl] at hz
  rw [show Int.toNat ((l.length:Int) - (0:Int)) + 1=l.length + 1 by omega,hz]
  rcases hz2 with rfl | ⟨rfl,hd⟩
  ·exact ⟨1,rfl,fun h=>by omega⟩
  ·exact ⟨0,rfl,fun _=>⟨by omega,hd⟩⟩
structure LotOk (x:Zw):Prop where
 deals:x.Deals.length ≤ 40
 acts:∀ d ∈ x.Deals,d.Acts.length ≤ 40
theorem Zhm (l:List Zj):(Zcq l).length ≤ l.length:=by
 unfold Zcq
 rw [List.length_map];exact List.length_filter_le ..
theorem Zh1:∀ {l:List Zt},(∀ d ∈ l,d.Acts.length ≤ 40) → (Zc6 l).length ≤ l.length * 40
 | [],_=>by simp [Zc6]
 | d :: l,h=>by
  have h1:=Zhm d.Acts
  have h2:=h d (List.mem_cons_self ..)
  have h3:=Zh1 (l:=l) fun d hd=>h d (List.mem_cons_of_mem _ hd)
  show (Zcq d.Acts ++ Zc6 l).length ≤ (l.length + 1) * 40
  rw [List.length_append];omega
theorem LotOk.hits {x:Zw} (h:LotOk x):(Zc6 x.Deals).length ≤ 1600:=by
 have:=Zh1 h.acts
 have:=h.deals
 omega
theorem Zkn (l:List Zw):Zb9 l=some true ∨ (Zb9 l=some false ∧ l.length ≤ 12 ∧ ∀ x ∈ l,LotOk x):=by
 unfold Zb9
 by_cases h:12 < l.length
 ·rw [if_pos (by simp;omega)];exact .inl rfl
 ·rw [if_neg (by simp;omega)]
  have go:∀ (n i:Nat),i + n=l.length → Z9 l (n + 1) (i:Int)=some (.inl true) ∨ (Z9 l (n + 1) (i:Int)=some (.inr ()) ∧ ∀ x ∈ l.drop i,LotOk x):=by
   intro n
   induction n with
   | zero=>intro i hi;rw [Z9,if_neg (by simp;omega),List.drop_of_length_le (by omega)];exact .inr ⟨rfl,fun d hd=>by cases hd⟩
   | succ n ih =>
    intro i hi
    have hil:i < l.length:=by omega
    obtain ⟨c,hc,hc2⟩:=Zj2 l[i].Deals
    rw [Z9,if_pos (by simp;omega),Zd8 hil,Option.bind_some,hc,Option.bind_some]
    by_cases h0:0 < c
    ·rw [if_pos (by simpa using h0)];exact .inl rfl
    ·rw [if_neg (by simpa using h0),wr1 (by omega)]
     refine (ih (i + 1) (by omega)).imp id fun ⟨e,hd⟩=>⟨e,fun d hm=>?_⟩
     rw [List.drop_eq_getElem_cons hil] at hm
     rcases List.mem_cons.1 hm with rfl | hm
     ·exact ⟨(hc2 h0).1,(hc2 h0).2⟩
     ·exact hd d hm
  have h2:=go l.length 0 (by omega)
  rw [show ((0:Nat):Int)=0 from rfl] at h2
  rw [show Int.toNat ((l.length:Int) - (0:Int)) + 1=l.length + 1 by omega]
  rcases h2 with h2 | ⟨h2,h3⟩
  ·rw [h2];exact .inl rfl
  ·rw [h2];exact .inr ⟨rfl,by omega,h3⟩
theorem Zjs (e:ByteArray × Int):Zn [e]=[e]:=by
 unfold Zn Z2
 rw [List.map_cons,List.map_nil,List.mergeSort_singleton]
 rfl
def keyA:ByteArray:=⟨#[97]⟩
def actA:Zj:={ Kind:=(7:Int),Key:=(⟨#[97]⟩:ByteArray),N:=(1:Int),X:=(0:Nat),S:=ByteArray.empty,Make:=(default:Zs),Must:=false }
def lotA:Zw:={ Number:=(0:Int),Deals:=[{ Acts:=[actA,actA] },{ Acts:=[actA] }] }
def lotE:Zw:={ Number:=(0:Int),Deals:=[] }
theorem finA:Zbb [] lotA=[(keyA,3)]:=by kernel_rfl
theorem finE:Zbb [(keyA,3)] lotE=[(keyA,1)]:=by kernel_rfl
theorem Zps:Z5 ⟨[]⟩ lotA=some (⟨[(keyA,3)]⟩,()):=by
 rw [Zep (by show (Zbb [] lotA).length ≤ _;rw [finA];decide)]
 show some ((⟨Zn (Zbb [] lotA)⟩:Zv),())=_
 rw [finA,Zjs]
theorem Zpa:Z5 ⟨[(keyA,3)]⟩ lotE=some (⟨[(keyA,1)]⟩,()):=by
 rw [Zep (by show (Zbb [(keyA,3)] lotE).length ≤ _;rw [finE];decide)]
 show some ((⟨Zn (Zbb [(keyA,3)] lotE)⟩:Zv),())=_
 rw [finE,Zjs]
theorem allA:Z7 ⟨[(keyA,1)]⟩=some [⟨keyA,1⟩]:=by
 unfold Z7 Z2
 rw [if_pos (by decide)]
 show some (List.mergeSort [Zr (keyA,1)] _)=_
 rw [List.mergeSort_singleton];rfl
theorem Zmp:Zb7=some true:=by
 unfold Zb7
 show (Z5 ⟨[]⟩ lotA).bind _=_
 rw [Zps,Option.bind_some]
 show (Z5 ⟨[(keyA,3)]⟩ lotE).bind _=_
 rw [Zpa,Option.bind_some]
 show (Z7 ⟨[(keyA,1)]⟩).bind _=_
 rw [allA,Option.bind_some]
 kernel_rfl
theorem Same12.all {h:Zv} {w:List RM} (hs:Same12 h w):Z7 h=some (w.map cv):=by
 have hl:=hs.len
 unfold Z7
 rw [hs.eq,if_pos (by unfold toP;rw [List.length_map];omega),Zob]
 congr 1
 exact Zfk (Zcg _) (Zex _) (List.pairwise_map.2 hs.ord)
theorem LotOk.wf {x:Zw} (h:LotOk x):(∀ d ∈ x.Deals,d.Acts.length ≤ maxLen) ∧ x.Deals.length ≤ maxLen:=⟨fun d hd=>by have:=h.acts d hd;simp only [maxLen];omega,by have:=h.deals;simp only [maxLen];omega⟩
def val (m:BI) (k:ByteArray):Int:=(getS m k).getD 0
def cnt (k:ByteArray) (l:List ByteArray):Nat:=(l.filter fun x=>decide (x=k)).length
theorem Zih (k x:ByteArray) (l:List ByteArray):cnt k (x :: l)=(if x=k then 1 else 0) + cnt k l:=by
 unfold cnt
 by_cases h:x=k <;> simp [h] <;> omega
theorem Zoe (k:ByteArray) (a b:List ByteArray):cnt k (a ++ b)=cnt k a + cnt k b:=by simp [cnt]
theorem Zle (k:ByteArray) (l:List ByteArray):cnt k l ≤ l.length:=List.length_filter_le ..
theorem Zgm {k k':ByteArray} (h:k ≠ k'):∀ m:BI,getS (m.filter fun e=>decide (e.1 ≠ k)) k'=getS m k'
 | []=>rfl
 | e :: m=>by
  by_cases he:e.1=k
  ·rw [List.filter_cons_of_neg (by simp [he]),Zgm h m]
   simp only [getS]
   rw [if_neg (fun h2=>h (he.symm.trans h2))]
  ·rw [List.filter_cons_of_pos (by simp [he])]
   simp only [getS]
   rw [Zgm h m]
theorem Zk9 (m:BI) (k k':ByteArray) (n:Int):getS (setS m k n) k'=if k=k' then some n else getS m k':=by
 unfold setS
 simp only [getS]
 split
 ·rfl
 ·rename_i h;exact Zgm h m
theorem Zmx (m:BI) (k k':ByteArray):val (bump m k) k'=if k=k' then IntKind.i64.wrap (val m k + 1) else val m k':=by
 unfold val bump
 rw [Zk9]
 split <;> rfl
theorem Zh0 (k:ByteArray):∀ (l:List ByteArray) (m:BI),0 ≤ val m k → val m k + l.length ≤ 1000000000 → val (l.foldl bump m) k=val m k + cnt k l
 | [],m,h0,h1=>by simp [cnt]
 | x :: l,m,h0,h1=>by
  simp only [List.length_cons] at h1
  have hv:val (bump m x) k=val m k + (if x=k then 1 else 0):=by
   rw [Zmx]
   by_cases hx:x=k
   ·subst hx;rw [if_pos rfl,if_pos rfl,wr (by omega) (by omega)]
   ·rw [if_neg hx,if_neg hx];omega
  rw [List.foldl_cons,Zh0 k l (bump m x) (by rw [hv];split <;> omega) (by rw [hv];split <;> omega),hv,Zih]
  split <;> omega
theorem Ziq (k:ByteArray):∀ {m:BI},(m.map (·.1)).Nodup → 0 ≤ val m k → val m k ≤ 1000000000 → val (Ze m) k=Int.tdiv (val m k) 2
 | [],_,_,_=>rfl
 | e :: m,hk,h0,h1=>by
  obtain ⟨n1,n2⟩:=List.nodup_cons.1 hk
  by_cases he:e.1=k
  ·have hv:val (e :: m) k=e.2:=by unfold val;simp [getS,he]
   rw [hv] at h0 h1 ⊢
   by_cases h2:1 < e.2
   ·have hh:Ze (e :: m)=(e.1,IntKind.i64.wrap (Int.tdiv e.2 2)) :: Ze m:=by simp [Ze,h2]
    rw [hh]
    unfold val
    simp only [getS]
    rw [if_pos he,Option.getD_some,Int.tdiv_eq_ediv_of_nonneg h0,wr (by omega) (by omega)]
   ·have hh:Ze (e :: m)=Ze m:=by simp [Ze,h2]
    rw [hh]
    have:getS (Ze m) k=none:=Zd6 fun u hu heq=>by
     obtain ⟨u2,h3,h4⟩:=Zhu ⟨u,hu,heq⟩
     exact n1 (List.mem_map.2 ⟨u2,h3,h4.trans he.symm⟩)
    unfold val
    rw [this,Option.getD_none,Int.tdiv_eq_ediv_of_nonneg h0]
    omega
  ·have hv:val (e :: m) k=val m k:=by unfold val;simp [getS,he]
   rw [hv] at h0 h1 ⊢
   rw [← Ziq k n2 h0 h1]
   by_cases h2:1 < e.2
   ·have hh:Ze (e :: m)=(e.1,IntKind.i64.wrap (Int.tdiv e.2 2)) :: Ze m:=by simp [Ze,h2]
    rw [hh]
    unfold val
    simp only [getS]
    rw [if_neg he]
   ·have hh:Ze (e :: m)=Ze m:=by simp [Ze,h2]
    rw [hh]
theorem Zjv {m:BI} (hk:(m.map (·.1)).Nodup) {e:ByteArray × Int} (he:e ∈ m):val m e.1=e.2:=by
 unfold val
 have hg:getS m e.1=some e.2:=Zgi hk he
 rw [hg];rfl
def un (x:Zb):ByteArray × Int:=(x.Key,x.Score)
theorem Zhe (m:BI):((Z2 (m.map Zr)).map un).Perm m:=by
 have:=(Zcg (m.map Zr)).map un
 rw [List.map_map] at this
 have e:(un ∘ Zr)=id:=rfl
 rw [e,List.map_id] at this
 exact this
theorem Zni {m:BI} {e:ByteArray × Int} (h:e ∈ Zn m):e ∈ m:=by
 obtain ⟨x,hx,rfl⟩:=List.mem_map.1 h
 exact (Zhe m).mem_iff.1 (List.mem_map.2 ⟨x,List.mem_of_mem_take hx,rfl⟩)
theorem Ziu {m:BI} (hk:(m.map (·.1)).Nodup):((Zn m).map (·.1)).Nodup:=by
 have h2:=(((Zhe m).map (·.1)).nodup_iff).2 hk
 unfold Zn
 rw [List.map_map] at *
 exact List.Nodup.sublist (List.Sublist.map _ (List.take_sublist ..)) h2
theorem Zjy (m:BI):(Zn m).length=min 256 m.length:=by
 unfold Zn
 rw [List.length_map,List.length_take,(Zcg _).length_eq,List.length_map]
theorem Znu {m:BI} (hk:(m.map (·.1)).Nodup) (k:ByteArray):val (Zn m) k=val m k ∨ (val (Zn m) k=0 ∧ (Zn m).length=256):=by
 by_cases h:∃ e ∈ Zn m,e.1=k
 ·obtain ⟨e,he,rfl⟩:=h
  left
  rw [Zjv (Ziu hk) he,Zjv hk (Zni he)]
 ·have h0:val (Zn m) k=0:=by
   unfold val
   rw [Zd6 fun e he heq=>h ⟨e,he,heq⟩];rfl
  by_cases h2:∃ e ∈ m,e.1=k
  ·right
   refine ⟨h0,?_⟩
   rw [Zjy]
   rcases Nat.lt_or_ge m.length 256 with hl | hl
   ·obtain ⟨e,he,hek⟩:=h2
    refine absurd ⟨e,?_,hek⟩ h
    have:=(Zhe m).mem_iff.2 he
    obtain ⟨x,hx,rfl⟩:=List.mem_map.1 this
    refine List.mem_map.2 ⟨x,?_,rfl⟩
    rw [List.take_of_length_le (by rw [(Zcg _).length_eq,List.length_map];omega)]
    exact hx
   ·omega
  ·left
   rw [h0]
   unfold val
   rw [Zd6 fun e he heq=>h2 ⟨e,he,heq⟩];rfl
structure HOk (m:BI):Prop where
 keys:(m.map (·.1)).Nodup
 len:m.length ≤ 256
theorem Zn6:HOk []:=⟨List.nodup_nil,by simp⟩
theorem Zk4 {h:Zv} {x:Zw} (hs:HOk h.by_) (hx:LotOk x):Z5 h x=some (⟨Zn (Zbb h.by_ x)⟩,()) ∧ HOk (Zn (Zbb h.by_ x)) ∧ ((Zbb h.by_ x).map (·.1)).Nodup:=by
 have hkf:((Zbb h.by_ x).map (·.1)).Nodup:=Zg0 _ (Zkl hs.keys)
 have h1:=Zhl (Zc6 x.Deals) (Ze h.by_)
 have h2:=Zl8 h.by_
 have h3:=hx.hits
 have h4:=hs.len
 exact ⟨Zep (by unfold Zbb;omega),⟨Ziu hkf,by rw [Zjy];omega⟩,hkf⟩
theorem Zn0 {m:BI} {x:Zw} {k:ByteArray} (hs:HOk m) (hx:LotOk x) (h0:0 ≤ val m k) (h1:val m k ≤ 1000000):val (Zbb m x) k=Int.tdiv (val m k) 2 + cnt k (Zc6 x.Deals):=by
 have hh:=Ziq k hs.keys h0 (by omega)
 have h3:=hx.hits
 have hd:Int.tdiv (val m k) 2=val m k / 2:=Int.tdiv_eq_ediv_of_nonneg h0
 unfold Zbb
 rw [Zh0 k _ _ (by rw [hh,hd];omega) (by rw [hh,hd];omega),hh]
theorem Zkx (k:ByteArray) (a:Zj) (l:List Zj):cnt k (Zcq (a :: l))=(if (sEq a.Key k && Zda a.Kind)=true then 1 else 0) + cnt k (Zcq l):=by
 rw [Zg5]
 by_cases hs:Zda a.Kind=true
 ·rw [if_pos hs,Zih]
  by_cases hk:a.Key=k
  ·rw [if_pos hk,if_pos (by rw [Zgb.2 hk,hs];rfl)]
  ·rw [if_neg hk,if_neg (by rw [Zkv.2 hk];simp)]
 ·rw [if_neg hs,if_neg (by simp [hs])];omega
theorem Zgn {k:ByteArray} {d:Zt} (hd:d.Acts.length ≤ 40):∀ (n i:Nat) (c:Int),i + n=d.Acts.length → 0 ≤ c → c + n ≤ 1000000 → Zp k d (n + 1) c (i:Int)=some (c + cnt k (Zcq (d.Acts.drop i)))
 | 0,i,c,hi,h0,h1=>by
  rw [Zp,if_neg (by simp;omega),List.drop_of_length_le (by omega)]
  simp [Zcq,cnt]
 | n + 1,i,c,hi,h0,h1=>by
  have hil:i < d.Acts.length:=by omega
  rw [Zp,if_pos (by simp;omega),Zd8 hil,Option.bind_some,List.drop_eq_getElem_cons hil,Zkx]
  unfold Zbk
  show (if (sEq d.Acts[i].Key k && Zda d.Acts[i].Kind)=true then _ else _)=_
  rw [wr1 (by omega)]
  by_cases hq:(sEq d.Acts[i].Key k && Zda d.Acts[i].Kind)=true
  ·rw [if_pos hq,if_pos hq,wr (by omega) (by omega),Zgn hd n (i + 1) (c + 1) (by omega) (by omega) (by omega)]
   congr 1;omega
  ·rw [if_neg hq,if_neg hq,Zgn hd n (i + 1) c (by omega) h0 (by omega)]
   simp
theorem Zhz {k:ByteArray} {x:Zw} (hx:LotOk x):∀ (n i:Nat) (c:Int),i + n=x.Deals.length → 0 ≤ c → c + n * 40 ≤ 900000 → Zu k x (n + 1) c (i:Int)=some (c + cnt k (Zc6 (x.Deals.drop i)))
 | 0,i,c,hi,h0,h1=>by
  rw [Zu,if_neg (by simp;omega),List.drop_of_length_le (by omega)]
  simp [Zc6,cnt]
 | n + 1,i,c,hi,h0,h1=>by
  have hil:i < x.Deals.length:=by omega
  have hdl:=hx.deals
  have hda:=hx.acts _ (List.getElem_mem hil)
  have hcons:Zc6 (x.Deals[i] :: x.Deals.drop (i + 1))=Zcq x.Deals[i].Acts ++ Zc6 (x.Deals.drop (i + 1)):=rfl
  rw [Zu,if_pos (by simp;omega),Zd8 hil,Option.bind_some,List.drop_eq_getElem_cons hil,hcons,Zoe]
  have h2:=Zgn (k:=k) hda x.Deals[i].Acts.length 0 c (by omega) h0 (by omega)
  rw [show ((0:Nat):Int)=0 from rfl,List.drop_zero] at h2
  rw [show Int.toNat ((x.Deals[i].Acts.length:Int) - (0:Int)) + 1=x.Deals[i].Acts.length + 1 by omega,h2]
  have hc:=Zle k (Zcq x.Deals[i].Acts)
  have hc2:=Zhm x.Deals[i].Acts
  show (Zu k x (n + 1) (c + cnt k (Zcq x.Deals[i].Acts)) (IntKind.i64.wrap ((i:Int) + 1)))=_
  rw [wr1 (by omega),Zhz hx n (i + 1) (c + cnt k (Zcq x.Deals[i].Acts)) (by omega) (by omega) (by omega)]
  congr 1
  omega
theorem Zou (c:Bool) (h:Zv):∃ y,gd c (Zcr h)=some y ∧ (c=true → y=(h.by_.length:Int)):=by
 cases c
 ·exact ⟨_,gd_f _,fun h=>by cases h⟩
 ·exact ⟨_,rfl,fun _=>rfl⟩
theorem Zgg {l:List Zw} {k:ByteArray} (hl:l.length ≤ 12) (hx:∀ x ∈ l,LotOk x):∀ (n i:Nat) {h:Zv} {mo:Int},i + n=l.length → HOk h.by_ → 0 ≤ val h.by_ k → val h.by_ k ≤ 2 * mo → mo ≤ 1600 → Zz l k (n + 1) h mo (i:Int)=some (.inr ())
 | 0,i,h,mo,hi,hs,h0,h1,h2=>by rw [Zz,if_neg (by simp;omega)]
 | n + 1,i,h,mo,hi,hs,h0,h1,h2=>by
  have hil:i < l.length:=by omega
  have hxi:=hx _ (List.getElem_mem hil)
  obtain ⟨e1,hs',hkf⟩:=Zk4 hs hxi
  rw [Zz,if_pos (by simp;omega),Zd8 hil,Option.bind_some]
  have hsc:Zbl h k=some (val h.by_ k):=rfl
  have hd:=Zhz (k:=k) hxi l[i].Deals.length 0 0 (by omega) (by omega) (by have:=hxi.deals;omega)
  rw [show ((0:Nat):Int)=0 from rfl,List.drop_zero,Int.zero_add] at hd
  rw [hsc,Option.bind_some,show Int.toNat ((l[i].Deals.length:Int) - (0:Int)) + 1=l[i].Deals.length + 1 by omega,hd]
  have hc1:=Zle k (Zc6 l[i].Deals)
  have hc2:=hxi.hits
  have hvf:=Zn0 (k:=k) hs hxi h0 (by omega)
  have hdv:Int.tdiv (val h.by_ k) 2=val h.by_ k / 2:=Int.tdiv_eq_ediv_of_nonneg h0
  rw [hdv] at hvf
  generalize hcn:((cnt k (Zc6 l[i].Deals):Nat):Int)=c at *
  have hc0:0 ≤ c:=by omega
  have hc3:c ≤ 1600:=by omega
  show (Z5 h l[i]).bind _=_
  rw [e1,Option.bind_some]
  have hsc2:Zbl ⟨Zn (Zbb h.by_ l[i])⟩ k=some (val (Zn (Zbb h.by_ l[i])) k):=rfl
  simp only []
  rw [hsc2,Option.bind_some]
  have ht:=Znu hkf k
  rw [hvf] at ht
  have hm1:mo ≤ max mo c:=by omega
  have hm2:c ≤ max mo c:=by omega
  have hm3:max mo c ≤ 1600:=by omega
  have hw1:IntKind.i64.wrap ((2:Int) * (max mo c))=2 * max mo c:=wr (by omega) (by omega)
  have hw2:IntKind.i64.wrap (Int.tdiv (val h.by_ k) 2)=val h.by_ k / 2:=by rw [hdv];exact wr (by omega) (by omega)
  have hw3:IntKind.i64.wrap (val h.by_ k / 2 + c)=val h.by_ k / 2 + c:=wr (by omega) (by omega)
  rw [hw1,hw2,hw3]
  have hno:0 ≤ val (Zn (Zbb h.by_ l[i])) k ∧ val (Zn (Zbb h.by_ l[i])) k ≤ 2 * max mo c:=by
   rcases ht with ht | ⟨ht,_⟩ <;> rw [ht] <;> omega
  have hlt:decide (2 * max mo c < val (Zn (Zbb h.by_ l[i])) k)=false:=decide_eq_false (by omega)
  rw [hlt]
  obtain ⟨y,hy,hy2⟩:=Zou ((!false && (val (Zn (Zbb h.by_ l[i])) k != val h.by_ k / 2 + c)) && !(val (Zn (Zbb h.by_ l[i])) k != 0)) ⟨Zn (Zbb h.by_ l[i])⟩
  rw [hy,Option.bind_some]
  have hfin:(false || ((val (Zn (Zbb h.by_ l[i])) k != val h.by_ k / 2 + c) && ((val (Zn (Zbb h.by_ l[i])) k != 0) || decide (y < 256))))=false:=by
   rcases ht with ht | ⟨ht,hlen⟩
   ·have:(val (Zn (Zbb h.by_ l[i])) k != val h.by_ k / 2 + c)=false:=by rw [ht];simp
    rw [this];rfl
   ·have h5:(val (Zn (Zbb h.by_ l[i])) k != 0)=false:=by rw [ht];rfl
    rw [h5] at hy2 ⊢
    by_cases h6:(val (Zn (Zbb h.by_ l[i])) k != val h.by_ k / 2 + c)=true
    ·rw [h6] at hy2 ⊢
     have:=hy2 rfl
     rw [this]
     show (false || (true && (false || decide (((Zn (Zbb h.by_ l[i])).length:Int) < 256))))=false
     rw [hlen];decide
    ·have h7:(val (Zn (Zbb h.by_ l[i])) k != val h.by_ k / 2 + c)=false:=by simpa using h6
     rw [h7];rfl
  rw [hfin,if_neg (by decide),wr1 (by omega)]
  exact Zgg hl hx n (i + 1) (by omega) hs' hno.1 hno.2 hm3
theorem HeatBounds_true (a0:List Zw) (a1:ByteArray) (w0:a0.length ≤ maxLen ∧ ∀ e0 ∈ a0,Zfd e0) (w1:a1.size ≤ maxLen):Zb3 a0 a1=some true:=by
 unfold Zb3
 rw [Zmp,Option.bind_some,if_neg (by decide)]
 rcases Zkn a0 with hb | ⟨hb,hl,hx⟩
 ·rw [hb];rfl
 ·rw [hb,Option.bind_some,if_neg (by decide)]
  have hv:val ([]:BI) a1=0:=rfl
  have:=Zgg (k:=a1) hl hx a0.length 0 (h:=⟨[]⟩) (mo:=0) (by omega) Zn6 (by show 0 ≤ val [] a1;rw [hv];decide) (by show val [] a1 ≤ _;rw [hv];decide) (by decide)
  rw [show ((0:Nat):Int)=0 from rfl] at this
  rw [show Int.toNat ((a0.length:Int) - (0:Int)) + 1=a0.length + 1 by omega,this]
  rfl
end Go.CL
namespace Go.CL
open Go Go.RowKit Go.Proofs Go.ChangeShapes Go.WideShapes Go.ChangeAt
theorem Zmj:ownKnob Tryd.prog.godebug=none:=by kernel_rfl
theorem Zht:laidOutB Tryd.prog=true:=by kernel_rfl
theorem op_3:Opn Tryd.prog 3 (Kd.int .i64) (fun x=>((IntKind.i64).min ≤ x ∧ x ≤ (IntKind.i64).max)):=Zjm Tryd.underlying3 (by kernel_rfl)
theorem op_9:Opn Tryd.prog 9 Kd.str (fun x=>(x.size ≤ maxLen)):=Zof Tryd.underlying9 (by kernel_rfl)
theorem op_2:Opn Tryd.prog 2 (Kd.int .i64) (fun x=>((IntKind.i64).min ≤ x ∧ x ≤ (IntKind.i64).max)):=Zjm Tryd.underlying2 (by kernel_rfl)
theorem Zkm:Opn Tryd.prog 46 Kd.flt (fun x=>(x < 2 ^ 64)):=Znt Tryd.underlying46 (by kernel_rfl)
theorem Zo3:Opn Tryd.prog 105 Zbq Zeu:=⟨by kernel_rfl,fun hg h=>by
 obtain ⟨hl,n,hf⟩:=Zdu Tryd.underlying105 h
 obtain ⟨y0,h0⟩:=hf 0 _ rfl
 obtain ⟨v0,k0,w0⟩:=Zkm.op hg h0
 obtain ⟨y1,h1⟩:=hf 1 _ rfl
 obtain ⟨v1,k1,w1⟩:=op_9.op hg h1
 refine ⟨⟨v0,v1⟩,⟨hl.trans (by kernel_rfl),(Qc.2 ⟨k0,(Qc.2 ⟨k1,(fun _ h=>by cases h)⟩)⟩)⟩,w0,w1⟩,fun h=>Zd7 Tryd.underlying105 h⟩
theorem Zo6:Opn Tryd.prog 47 Zbq.sl (fun x=>(x.length ≤ maxLen ∧ ∀ e0 ∈ x,(Zeu e0))):=Zgs Tryd.underlying47 (by kernel_rfl) Zo3 (by decide)
theorem Zpt:Opn Tryd.prog 49 Zbv Zfm:=⟨by kernel_rfl,fun hg h=>by
 obtain ⟨hl,n,hf⟩:=Zdu Tryd.underlying49 h
 obtain ⟨y0,h0⟩:=hf 0 _ rfl
 obtain ⟨v0,k0,w0⟩:=op_3.op hg h0
 obtain ⟨y1,h1⟩:=hf 1 _ rfl
 obtain ⟨v1,k1,w1⟩:=op_2.op hg h1
 obtain ⟨y2,h2⟩:=hf 2 _ rfl
 obtain ⟨v2,k2,w2⟩:=op_2.op hg h2
 obtain ⟨y3,h3⟩:=hf 3 _ rfl
 obtain ⟨v3,k3,w3⟩:=op_2.op hg h3
 obtain ⟨y4,h4⟩:=hf 4 _ rfl
 obtain ⟨v4,k4,w4⟩:=Zkm.op hg h4
 obtain ⟨y5,h5⟩:=hf 5 _ rfl
 obtain ⟨v5,k5,w5⟩:=op_3.op hg h5
 obtain ⟨y6,h6⟩:=hf 6 _ rfl
 obtain ⟨v6,k6,w6⟩:=op_9.op hg h6
 obtain ⟨y7,h7⟩:=hf 7 _ rfl
 obtain ⟨v7,k7,w7⟩:=Zo6.op hg h7
 refine ⟨⟨v0,v1,v2,v3,v4,v5,v6,v7⟩,⟨hl.trans (by kernel_rfl),(Qc.2 ⟨k0,(Qc.2 ⟨k1,(Qc.2 ⟨k2,(Qc.2 ⟨k3,(Qc.2 ⟨k4,(Qc.2 ⟨k5,(Qc.2 ⟨k6,(Qc.2 ⟨k7,(fun _ h=>by cases h)⟩)⟩)⟩)⟩)⟩)⟩)⟩)⟩)⟩,w0,w1,w2,w3,w4,w5,w6,w7⟩,fun h=>Zd7 Tryd.underlying49 h⟩
theorem op_4:Opn Tryd.prog 4 Kd.bool (fun x=>True):=Zmh Tryd.underlying4 (by kernel_rfl)
theorem Zpb:Opn Tryd.prog 51 Zy Ze8:=⟨by kernel_rfl,fun hg h=>by
 obtain ⟨hl,n,hf⟩:=Zdu Tryd.underlying51 h
 obtain ⟨y0,h0⟩:=hf 0 _ rfl
 obtain ⟨v0,k0,w0⟩:=op_3.op hg h0
 obtain ⟨y1,h1⟩:=hf 1 _ rfl
 obtain ⟨v1,k1,w1⟩:=op_9.op hg h1
 obtain ⟨y2,h2⟩:=hf 2 _ rfl
 obtain ⟨v2,k2,w2⟩:=op_2.op hg h2
 obtain ⟨y3,h3⟩:=hf 3 _ rfl
 obtain ⟨v3,k3,w3⟩:=Zkm.op hg h3
 obtain ⟨y4,h4⟩:=hf 4 _ rfl
 obtain ⟨v4,k4,w4⟩:=op_9.op hg h4
 obtain ⟨y5,h5⟩:=hf 5 _ rfl
 obtain ⟨v5,k5,w5⟩:=Zpt.op hg h5
 obtain ⟨y6,h6⟩:=hf 6 _ rfl
 obtain ⟨v6,k6,w6⟩:=op_4.op hg h6
 refine ⟨⟨v0,v1,v2,v3,v4,v5,v6⟩,⟨hl.trans (by kernel_rfl),(Qc.2 ⟨k0,(Qc.2 ⟨k1,(Qc.2 ⟨k2,(Qc.2 ⟨k3,(Qc.2 ⟨k4,(Qc.2 ⟨k5,(Qc.2 ⟨k6,(fun _ h=>by cases h)⟩)⟩)⟩)⟩)⟩)⟩)⟩)⟩,w0,w1,w2,w3,w4,w5,w6⟩,fun h=>Zd7 Tryd.underlying51 h⟩
theorem Zpd:Opn Tryd.prog 52 Zy.sl (fun x=>(x.length ≤ maxLen ∧ ∀ e0 ∈ x,(Ze8 e0))):=Zgs Tryd.underlying52 (by kernel_rfl) Zpb (by decide)
theorem Zp0:Opn Tryd.prog 54 Zq Zev:=⟨by kernel_rfl,fun hg h=>by
 obtain ⟨hl,n,hf⟩:=Zdu Tryd.underlying54 h
 obtain ⟨y0,h0⟩:=hf 0 _ rfl
 obtain ⟨v0,k0,w0⟩:=Zpd.op hg h0
 refine ⟨⟨v0⟩,⟨hl.trans (by kernel_rfl),(Qc.2 ⟨k0,(fun _ h=>by cases h)⟩)⟩,w0⟩,fun h=>Zd7 Tryd.underlying54 h⟩
theorem Zpz:Opn Tryd.prog 29 Zq.sl (fun x=>(x.length ≤ maxLen ∧ ∀ e0 ∈ x,(Zev e0))):=Zgs Tryd.underlying29 (by kernel_rfl) Zp0 (by decide)
theorem Zpc:Opn Tryd.prog 31 Zl Zfd:=⟨by kernel_rfl,fun hg h=>by
 obtain ⟨hl,n,hf⟩:=Zdu Tryd.underlying31 h
 obtain ⟨y0,h0⟩:=hf 0 _ rfl
 obtain ⟨v0,k0,w0⟩:=op_3.op hg h0
 obtain ⟨y1,h1⟩:=hf 1 _ rfl
 obtain ⟨v1,k1,w1⟩:=Zpz.op hg h1
 refine ⟨⟨v0,v1⟩,⟨hl.trans (by kernel_rfl),(Qc.2 ⟨k0,(Qc.2 ⟨k1,(fun _ h=>by cases h)⟩)⟩)⟩,w0,w1⟩,fun h=>Zd7 Tryd.underlying31 h⟩
theorem Zo5:Opn Tryd.prog 22 Zl.sl (fun x=>(x.length ≤ maxLen ∧ ∀ e0 ∈ x,(Zfd e0))):=Zgs Tryd.underlying22 (by kernel_rfl) Zpc (by decide)
theorem Znb:Det Tryd.prog 9:=Znh Tryd.underlying9
theorem Zpg:Det Tryd.prog 3:=Znq Tryd.underlying3
theorem Zo0:Det Tryd.prog 74:=Zkk Tryd.underlying74 (fun i f h=>match i,f,h with
 | 0,_,h=>by obtain rfl:=Option.some.inj h;exact Znb
 | 1,_,h=>by obtain rfl:=Option.some.inj h;exact Zpg
 | 2,_,h=>by obtain rfl:=Option.some.inj h;exact Znb
 | _ + 3,_,h=>by cases h) (by kernel_rfl)
theorem Zon:Det Tryd.prog 84:=Znx Tryd.underlying84 Zo0 (by kernel_rfl)
theorem HeatBounds_met (os : Os) (args : Array Value) : laidMetH Tryd.prog [("moiety/act.kinds", Go.Proofs.YtbbmlejgoepmfaaDoor.Rows.laid_moiety_act_kinds)] ((World.doorLaid Tryd.prog 400 os).forCall (fun _ _ => 0) ⟨#[], args, []⟩).memory :=
 laidMetH_of_parts3 (fuel:=8) (laidMet_of_run' 8 (by kernel_rfl) (by kernel_rfl)) (by kernel_rfl) (by kernel_rfl)
theorem HeatBounds_gl {W : World} (h : laidMetH Tryd.prog [("moiety/act.kinds", Go.Proofs.YtbbmlejgoepmfaaDoor.Rows.laid_moiety_act_kinds)] W) : GLok W (fun b _ => b < W.heap.size) := by
 have g0 := Zm1 (P := Tryd.prog) (nm := "moiety/act.kinds") (d := Go.Proofs.YtbbmlejgoepmfaaDoor.Rows.laid_moiety_act_kinds) (g := 0) (t := 84) (W := W) (w0 := W) (cells := [.string ⟨#[]⟩, .int .i64 (0), .string ⟨#[]⟩, .string ⟨#[110, 101, 119]⟩, .int .i64 (0), .string ⟨#[109]⟩, .string ⟨#[100, 114, 111, 112]⟩, .int .i64 (0), .string ⟨#[]⟩, .string ⟨#[105, 115]⟩, .int .i64 (0), .string ⟨#[]⟩, .string ⟨#[108, 111, 111, 107]⟩, .int .i64 (0), .string ⟨#[]⟩, .string ⟨#[112, 117, 116]⟩, .int .i64 (1), .string ⟨#[115]⟩, .string ⟨#[115, 119, 97, 112]⟩, .int .i64 (1), .string ⟨#[115]⟩, .string ⟨#[97, 100, 100]⟩, .int .i64 (2), .string ⟨#[110]⟩, .string ⟨#[112, 108, 117, 115]⟩, .int .i64 (3), .string ⟨#[110]⟩, .string ⟨#[114, 101, 97, 99, 104]⟩, .int .i64 (3), .string ⟨#[110]⟩, .string ⟨#[105, 110]⟩, .int .i64 (4), .string ⟨#[110]⟩, .string ⟨#[111, 117, 116]⟩, .int .i64 (4), .string ⟨#[110]⟩, .string ⟨#[101, 110, 111, 117, 103, 104]⟩, .int .i64 (4), .string ⟨#[110]⟩, .string ⟨#[114, 97, 105, 115, 101]⟩, .int .i64 (5), .string ⟨#[120]⟩, .string ⟨#[108, 111, 119, 101, 114]⟩, .int .i64 (6), .string ⟨#[120]⟩, .string ⟨#[115, 104, 105, 102, 116]⟩, .int .i64 (7), .string ⟨#[120]⟩, .string ⟨#[115, 99, 97, 108, 101]⟩, .int .i64 (7), .string ⟨#[120]⟩, .string ⟨#[102, 105, 120]⟩, .int .i64 (7), .string ⟨#[120]⟩, .string ⟨#[106, 111, 105, 110]⟩, .int .i64 (8), .string ⟨#[115]⟩, .string ⟨#[108, 101, 97, 118, 101]⟩, .int .i64 (8), .string ⟨#[115]⟩, .string ⟨#[104, 97, 115]⟩, .int .i64 (8), .string ⟨#[115]⟩, .string ⟨#[111, 102, 102, 101, 114]⟩, .int .i64 (9), .string ⟨#[120, 115]⟩]) (fu := 8) (by kernel_rfl) (by kernel_rfl) Zon (by kernel_rfl) (by kernel_rfl) h
 intro e he i v hv
 rcases List.mem_cons.1 he with rfl | he
 ·exact ⟨(Zf0 (g0 i v hv)).2,g0 i v hv⟩
 cases he
theorem HeatBounds_ret (os:Os) (started:os.Started) (H:Type) (enc:TypeId × Value → H) :
  ReturnsInHanded {} Tryd.checked os 6 .any (fun w args => (Go.Proofs.YtbbmlejgoepmfaaDoor.Rows.heatBoundsSpec.pre enc Tryd.prog Tryd.f6 [] false w args ∧ laidMetH Tryd.prog [("moiety/act.kinds", Go.Proofs.YtbbmlejgoepmfaaDoor.Rows.laid_moiety_act_kinds)] w) ∧ sizedMet enc Tryd.prog Tryd.f6 (OpenSpec.ofChange Go.Proofs.YtbbmlejgoepmfaaDoor.Rows.heatBoundsSpec) false w args) (Go.Proofs.YtbbmlejgoepmfaaDoor.Rows.heatBoundsSpec.post enc Tryd.prog Tryd.f6 false true false false) := by
 refine returnsInHanded_of_change_and (C := Tryd.checked) (X := fun w _ => laidMetH Tryd.prog [("moiety/act.kinds", Go.Proofs.YtbbmlejgoepmfaaDoor.Rows.laid_moiety_act_kinds)] w) (fun _ _ _ hh h => h.of_heap hh) Zmj started (by kernel_rfl) Tryd.func6
  (ChangeSpec.witness_shaped (enc := enc) (C := Tryd.checked) (os := os) (X := fun w _ => laidMetH Tryd.prog [("moiety/act.kinds", Go.Proofs.YtbbmlejgoepmfaaDoor.Rows.laid_moiety_act_kinds)] w) false (World.doorLaid Tryd.prog 400 os) #[.slice none 0 0, .string ByteArray.empty] 8 rfl (World.shaped_of_RefB (by kernel_rfl) (by kernel_rfl)) (by kernel_rfl) (by kernel_rfl) (by kernel_rfl) (HeatBounds_met os _)) ?_
 intro W base args ds gs before hval0 hW hcnd _ hL _
 have hval:∀ (j:Nat) t v,Tryd.f6.params[j]?=some t → args[j]?=some v → Value.okWide Tryd.prog W .any base t v:=hval0
 have hW':=hW
 obtain ⟨p,q,hA0,hV,rfl,hfz,hnd⟩:=hW
 have hA:DataW.TrodAll enc Tryd.prog W 0 (fun _=>true) true Tryd.f6.params.toList args.toList ds p:=hA0
 rw [Tryd.params6] at hA hval
 obtain ⟨v0,v1,d0,d1,p0,p1,rfl,rfl,rfl,h0,h1⟩:=trodAll_two hA
 obtain ⟨rfl,rfl⟩:=trodVars_none hV
 simp only [List.append_nil] at hW'
 have hg:GLok W (fun b _=>b < W.heap.size):=(HeatBounds_gl hL)
 have hk0:=h0
 obtain ⟨a0,q0,w0⟩:=Zk3 Zo5 hg h0 (hval 0 22 v0 rfl rfl)
 have hk1:=h1
 obtain ⟨a1,q1,w1⟩:=Zk3 op_9 hg h1 (hval 1 9 v1 rfl rfl)
 refine (Zed a0 a1 (HeatBounds_true a0 a1 w0 w1) (GW W hg) [v0,v1] (Zcj q0 (Zcj q1 Zdv))).mono fun e W' ⟨g',v,he,hw,hs,hq⟩=>?_
 subst he;subst hw
 rw [Zb6.1 hq]
 have hbel:=Zmf hs
 have hlt:∀ x ∈ (p0 ++ p1),x.block < W.heap.size:=fun x hx=>by simpa using hW'.lt x hx
 exact ⟨_,rfl,Zh5 (pv:=[]) hW' hbel (trodAll_mk1 (shut_bool Tryd.underlying4 true)) (trodAll_mk2 (Below.trod Zht (by kernel_rfl) (of_decide_eq_true (by kernel_rfl)) hk0 hbel (fun x hx=>hlt x (by simp [hx]))) (Below.trod Zht (by kernel_rfl) (of_decide_eq_true (by kernel_rfl)) hk1 hbel (fun x hx=>hlt x (by simp [hx])))) rfl⟩
theorem HeatBounds_holds:Go.Proofs.YtbbmlejgoepmfaaDoor.Rows.HeatBoundsSaid :=
 OpenClaim.holds_of_wide 6 Tryd.f6 rfl rfl rfl rfl rfl rfl rfl ⟨rfl,rfl,rfl,rfl,rfl⟩ rfl rfl rfl rfl rfl (by kernel_rfl) Tryd.func6 (by kernel_rfl)
  (of_decide_eq_true (by kernel_rfl)) (by unfold Func.isWrapper;first | (rw [if_pos (by decide +kernel)];kernel_rfl) | (rw [if_neg (by decide +kernel)];exact ⟨rfl,rfl⟩))
  (fun os started H enc _=>HeatBounds_ret os started H enc)
theorem HeatBounds_card:Go.Proofs.YtbbmlejgoepmfaaDoor.Rows.HeatBoundsCardSaid :=
 Claim7.holds_tied_plain_at .later [] [.data] true (true, "0f385618a5a781f486d398e3341a6d17e16545868650a458dabb3384b4aaa6c1") true
  HeatBounds_holds (fun _ h=>by cases h) (by kernel_rfl) (fun _ h=>by cases h) Go.Proofs.YtbbmlejgoepmfaaDoor.heatBounds_row_tie rfl ⟨rfl,rfl⟩ (by kernel_rfl) rfl
  (fun f fn hf hfn=>by
   obtain rfl : f = 6 := Option.some.inj ((show Tryd.prog.funcNamed "moiety/moietylaw12.HeatBounds" = some 6 by kernel_rfl).symm.trans hf) |>.symm
   obtain rfl:fn=Tryd.f6:=(Option.some.inj (Tryd.func6.symm.trans hfn)).symm
   exact ⟨by kernel_rfl,fun j t ht=>by
    rw [Tryd.params6] at ht
    have hm:t ∈ [22,9]:=by simpa using Array.mem_of_getElem? ht
    have hall:(([22,9]:List TypeId).all fun u=>!Tryd.prog.wantsStandIn u)=true:=by kernel_rfl
    exact (show Tryd.prog.wantsStandIn t=false by simpa using List.all_eq_true.1 hall t hm)⟩)
  (by kernel_rfl)
end Go.CL
