/- A part of the proof of HeatMarks. -/
import Derived.Test.YtbbmlejgoepmfaaDoorHeatMarksC2
import Derived.Test.YtbbmlejgoepmfaaDoorRows
import Derived.Test.YtbbmlejgoepmfaaDoorCards
import Derived.Test.YtbbmlejgoepmfaaDoorTie
import Derived.SevenTiedAt
set_option linter.unusedVariables false
set_option linter.unusedSimpArgs false
set_option maxRecDepth 100000
namespace Go.CL
open Go Go.RowKit Go.Proofs
theorem Zem (a0:Int) (a1:List Int) {r:Bool} (h:Zb5 a0 a1=some r):FnOk Tryd.prog 5 [(pInt .u16 a0),((Kd.int .u16).sl.pd a1)] (Zo r):=by
 have H0:=h
 unfold Zb5 at H0
 clear h
 refine Zcx (N:=107) Tryd.func5 rfl rfl (Qe rfl) rfl rfl (fun a g0 hst hb=>?_)
 refine r_s (T:=[⟨[],_,[],[],[4]⟩]) (F:=[.o 0,.o 1]) hst hb Za
  (Qa rfl c_b<|o_n) (fun a g hst hb=>?_)
 refine wp_seq ?_
 obtain ⟨r1,h2,H0⟩:=Zn H0
 refine r_s (T:=[⟨[],_,[],[],[18]⟩,⟨[.p 0 0],_,[],[0],[19]⟩]) (F:=[.o 0,.o 1,.p 1 0]) hst hb Za
  (o_p rfl (Zb6 en_7 (Zev h2) rfl rfl .nil)<|Qn rfl u_0<|o_n) (fun a g hst hb=>?_)
 refine wp_cond_split (hst.bool 2 rfl) (fun hc3=>?_) (fun hc3=>?_)
 ·replace H0:=Zbf hc3 H0
  refine r_s (L:=[]) (T:=[⟨[],_,[],[],[4]⟩]) (F:=[.p 0 0]) (hst.pick [] rfl) hb Za
   (Qa rfl c_b<|o_n) (fun a g hst hb=>?_)
  refine wp_ret ?_
  refine Zbc ?_
  obtain rfl:=Option.some.inj H0
  exact Z8 rfl hst hb (Zw (s:=4)) (hst.at 0 rfl)
 ·replace H0:=Zbe hc3 H0
  refine wp_skip ?_
  refine Zr ?_
  refine wp_seq ?_
  refine r_s (L:=[(0,_),(1,_)]) (T:=[⟨[.o 1],_,[],[],[20]⟩,⟨[.p 0 0],_,[],[0],[21]⟩,⟨[.p 1 0],_,[],[0,1],[22]⟩]) (F:=[.o 0,.o 1,.p 2 0]) (hst.pick [0,1] rfl) hb Za
   (Qm rfl u_0<|o_p rfl (Zcm Tryd.underlying44 rfl rfl u_0)<|o_p rfl (Zj2 rfl rfl u_0 c_i)<|o_n) (fun a g hst hb=>?_)
  refine wp_cond_split (hst.bool 2 rfl) (fun hc4=>?_) (fun hc4=>?_)
  ·replace H0:=Zbf hc4 H0
   refine r_s (L:=[]) (T:=[⟨[],_,[],[],[4]⟩]) (F:=[.p 0 0]) (hst.pick [] rfl) hb Za
    (Qa rfl c_b<|o_n) (fun a g hst hb=>?_)
   refine wp_ret ?_
   refine Zbc ?_
   obtain rfl:=Option.some.inj H0
   exact Z8 rfl hst hb (Zw (s:=4)) (hst.at 0 rfl)
  ·replace H0:=Zbe hc4 H0
   refine wp_skip ?_
   refine Zr ?_
   refine r_s (L:=[(0,_),(1,_)]) (T:=[⟨[.o 0],_,[],[],[23]⟩,⟨[.p 0 0],_,[],[0],[24]⟩,⟨[.p 1 0],_,[],[0,1],[25]⟩,⟨[.p 2 0],_,[],[0,1,2],[5]⟩]) (F:=[.o 1,.p 3 0]) (hst.pick [0,1] rfl) hb Za
    (Qm rfl u_0<|o_p rfl (Zey Tryd.underlying43 Tryd.underlying3 rfl rfl u_0 rfl)<|o_p rfl (Zg2 rfl rfl u_0 c_i (by decide))<|Qa rfl u_0<|o_n) (fun a g hst hb=>?_)
   refine r_s (T:=[⟨[],[(6,(Zcg none Z6 Z2 (hpL (pRow Zk 54 506 ((default:Ze).Deals))) 6 (default:Ze)))],[7],[],[6]⟩]) (F:=[.o 0,.o 1,.p 0 0]) hst hb Za
    (o_p rfl (Zly (R:=hpL (pRow Zk 54 506 ((default:Ze).Deals))) (zs:=[.int .i64 0,.slice none 0 0]) (none,0,0) (by kernel_rfl) Zim (fun g=>Zit 506 g) rfl rfl)<|o_n) (fun a g hst hb=>?_)
   refine wp_seq ?_
   refine r_s (T:=[⟨[.o 1],_,[],[],[26]⟩,⟨[],_,[],[],[27]⟩]) (F:=[.o 0,.o 1,.o 2,.p 0 0,.p 1 0]) hst hb Za
    (Qm rfl u_0<|Qm rfl c_i<|o_n) (fun a g hst hb=>?_)
   obtain ⟨z12,hz1,H0⟩:=Zn H0
   refine Zc2 (fun a w=>∃ (y11:Ze) (g:G),w=g.w ∧ St 107 [(1,((Kd.int .u16).sl.pd a1)),(5,(pInt .i64 (Int.tmod (IntKind.i64.wrap a0) (400:Int)))),(6,(Zcg none Z6 Z2 (hpL (pRow Zk 54 506 y11.Deals)) 6 y11))] a g ∧ Base g0 g ∧ y11=z12) ?_ ?_
   ·rintro a w ⟨y11,g,rfl,hst,hb,rfl⟩
    refine Zr ?_
    refine r_s (T:=[⟨[],[(8,(pRow Kd.str 9 8 ([]:List ByteArray)))],[],[],[8]⟩]) (F:=[.o 0,.o 1,.o 2,.p 0 0]) hst hb Za
     (o_p rfl (Zer rfl rfl (Opd.c (fun g=>Zit 8 g)))<|o_n) (fun a g hst hb=>?_)
    refine wp_seq ?_
    refine r_s (T:=[⟨[.o 0],_,[],[],[41]⟩,⟨[.p 0 0],_,[],[0],[42]⟩,⟨[],_,[],[],[43]⟩]) (F:=[.o 1,.o 2,.o 3,.p 0 0,.p 1 0,.p 2 0]) hst hb Za
     (Qm rfl u_0<|o_p rfl (Zcm Tryd.underlying44 rfl rfl u_0)<|Qm rfl c_i<|o_n) (fun a g hst hb=>?_)
    obtain ⟨z36,hz2,H0⟩:=Zn H0
    refine Zc2 (fun a w=>∃ (y34:Ze) (y35:List ByteArray) (g:G),w=g.w ∧ St 107 [(5,(pInt .i64 (Int.tmod (IntKind.i64.wrap a0) (400:Int)))),(6,(Zcg none Z6 Z2 (hpL (pRow Zk 54 506 y34.Deals)) 6 y34)),(8,(pRow Kd.str 9 8 y35))] a g ∧ Base g0 g ∧ (y34,y35)=z36) ?_ ?_
    ·rintro a w ⟨y34,y35,g,rfl,hst,hb,rfl⟩
     refine Zr ?_
     refine r_s (T:=[⟨[],[(15,(Z9 none Zz 15 (⟨[]⟩:Zs)))],[16,1000016],[],[15]⟩]) (F:=[.o 0,.o 1,.o 2,.p 0 0]) hst hb Za
      (o_p rfl (Zhq (by kernel_rfl) rfl rfl)<|o_n) (fun a g hst hb=>?_)
     obtain ⟨r37,h38,H0⟩:=Zn H0
     refine r_s (T:=[⟨[.o 1],_,[],[],[82]⟩,⟨[.o 3,.p 0 0],[(83,(pTup [])),(15,(Z9 none Zz 15 r37.1))],[16,1000016],[0],[15,83]⟩]) (F:=[.o 0,.o 2,.p 1 1]) hst hb Za
      (o_p rfl (Zmy Zif Zpq rfl rfl u_0)<|o_p rfl (Zb1 en_9 (Zda _ _ h38) rfl rfl rfl (by decide) u_0 u_0 (.cons u_1 .nil))<|o_n) (fun a g hst hb=>?_)
     refine wp_seq ?_
     refine r_s (T:=[⟨[.o 1],_,[],[],[84]⟩,⟨[.p 0 0],_,[],[0],[85]⟩,⟨[],_,[],[],[86]⟩]) (F:=[.o 0,.o 1,.o 2,.p 0 0,.p 1 0,.p 2 0]) hst hb Za
      (Qm rfl u_0<|o_p rfl (Zcm Tryd.underlying55 rfl rfl (Opd.imp u_0 (fun _ _ h=>Zdw h)))<|Qm rfl c_i<|o_n) (fun a g hst hb=>?_)
     obtain ⟨z48,hz4,H0⟩:=Zn H0
     refine Zc2 (fun a w=>∃ (y47:Zs) (g:G),w=g.w ∧ St 107 [(5,(pInt .i64 (Int.tmod (IntKind.i64.wrap a0) (400:Int)))),(8,(pRow Kd.str 9 8 y35)),(15,(Z9 none Zz 15 y47))] a g ∧ Base g0 g ∧ (.inr y47)=z48) ?_ ?_
     ·rintro a w ⟨y47,g,rfl,hst,hb,rfl⟩
      refine Zr ?_
      obtain ⟨r49,h50,H0⟩:=Zn H0;obtain ⟨r51,h52,H0⟩:=Zn H0;obtain ⟨r53,h54,H0⟩:=Zn H0
      refine r_s (T:=⟨[.o 2],[(94,(pInt .i64 r49)),(15,(Z9 none Zz 15 y47))],[16,1000016],[],[15,94]⟩ :: ⟨[.o 0],_,[],[],[95]⟩ :: ⟨[.o 1],_,[],[],[96]⟩ :: ⟨[.p 2 0],_,[],[2],[97]⟩ :: ⟨[.p 1 0,.p 3 0],_,[],[1,2,3],[98]⟩ :: ⟨[.p 4 0],_,[],List.range' 1 4,[99]⟩ :: ⟨[.p 0 0,.p 5 0],_,[],Lr 6,[100]⟩ :: ⟨[.p 6 0],_,[],Lr 7,[101]⟩ :: ⟨[.p 7 0,.p 0 1],[(102,(pIf (r49 == (min (max (Int.tmod (IntKind.i64.wrap a0) (400:Int)) (y35.length:Int)) (256:Int))) (Zj.sl.pd r51))),(15,(Z9 none Zz 15 y47))],[16,1000016],Lr 8,[15,102]⟩ :: ⟨[.p 7 0,.p 8 0],_,[],Lr 9,[103]⟩ :: ⟨[.p 7 0,.p 8 1],[(104,(pIf (r49 == (min (max (Int.tmod (IntKind.i64.wrap a0) (400:Int)) (y35.length:Int)) (256:Int))) (pInt .i64 r53))),(15,(Z9 none Zz 15 y47))],[16,1000016],Lr 9,[15,104]⟩ :: ⟨[.p 7 0,.p 9 0,.p 10 0],_,[],Lr 11,[105]⟩ :: ⟨[.p 7 0,.p 11 0],_,[],Lr 12,[106]⟩ :: ⟨[.p 12 0],_,[],Lr 13,[4]⟩ :: []) (F:=[.p 13 0]) hst hb Za
       (o_p rfl (Zb1 Zkp (Zdc _ h50) rfl rfl rfl (by decide) u_0 u_0 .nil)<|Qm rfl u_0<|Qm rfl u_0<|o_p rfl (Zcm Tryd.underlying55 rfl rfl (Opd.imp u_0 (fun _ _ h=>Zdw h)))<|o_p rfl (Zk8 rfl rfl u_0 u_1)<|o_p rfl (Zlg rfl rfl u_0 c_i)<|o_p rfl (Zct rfl rfl u_0 u_1)<|Qm rfl u_0<|o_g (OT.guardMR (r49 == (min (max (Int.tmod (IntKind.i64.wrap a0) (400:Int)) (y35.length:Int)) (256:Int))) (gT (r49 == (min (max (Int.tmod (IntKind.i64.wrap a0) (400:Int)) (y35.length:Int)) (256:Int)))).1 (gT (r49 == (min (max (Int.tmod (IntKind.i64.wrap a0) (400:Int)) (y35.length:Int)) (256:Int)))).2 rfl rfl rfl (by decide) u_0 (fun hG=>Zb1 Zkt (Zeh _ (Zd8 h52 hG)) rfl rfl rfl (by decide) u_0 u_0 .nil) (ite_self _).symm)<|o_g (Qg_t rfl (fun hG=>Zcm Tryd.underlying41 rfl rfl (Opd.gd hG u_0)))<|o_g (OT.guardMR (r49 == (min (max (Int.tmod (IntKind.i64.wrap a0) (400:Int)) (y35.length:Int)) (256:Int))) (gT (r49 == (min (max (Int.tmod (IntKind.i64.wrap a0) (400:Int)) (y35.length:Int)) (256:Int)))).1 (gT (r49 == (min (max (Int.tmod (IntKind.i64.wrap a0) (400:Int)) (y35.length:Int)) (256:Int)))).2 rfl rfl rfl (by decide) u_0 (fun hG=>Zb1 Zkp (Zdc _ (Zd8 h54 hG)) rfl rfl rfl (by decide) u_0 u_0 .nil) (ite_self _).symm)<|o_g (Qg_t rfl (fun hG=>Zct rfl rfl (Opd.gd hG u_0) (Opd.gd hG u_1)))<|o_p rfl (Zd9 rfl rfl u_0 (fun hz=>(Opd.gd hz u_1)))<|Qa rfl u_0<|o_n) (fun a g hst hb=>?_)
      refine wp_ret ?_
      obtain rfl:=Option.some.inj H0
      exact Z8 rfl hst hb (Zw (s:=4)) (hst.at 0 rfl)
     ·refine wp_block ?_
      refine wp_loop_ghost (fun n a w=>∃ (x39:Zs) (x40:Int) (g:G),w=g.w ∧ St 107 [(5,(pInt .i64 (Int.tmod (IntKind.i64.wrap a0) (400:Int)))),(8,(pRow Kd.str 9 8 y35)),(15,(Z9 none Zz 15 x39)),(84,(pRow Kd.str 9 8 y35)),(85,(pInt .i64 (y35.length:Int))),(86,(pInt .i64 x40))] a g ∧ Base g0 g ∧ Zt y35 n x39 x40=some z48) (Int.toNat ((y35.length:Int) - (0:Int)) + 1) ⟨r37.1,(0:Int),g,rfl,(hst.pick [0,1,2,3,4,5] rfl),hb,hz4⟩ (fun n a w hI=>?_)
      obtain ⟨x39,x40,g,rfl,hst,hb,H1⟩:=hI
      cases n with
      | zero=>exact absurd H1 (by simp [Zt])
      | succ n =>
       rw [Zt] at H1
       refine r_s (T:=[⟨[.o 5,.o 4],_,[],[],[87]⟩]) (F:=[.o 0,.o 1,.o 2,.o 3,.o 4,.o 5,.p 0 0]) hst hb Za
        (o_p rfl (Zdr rfl rfl u_0 u_1)<|o_n) (fun a g hst hb=>?_)
       refine wp_seq ?_
       refine wp_cond_split (hst.bool 6 rfl) (fun hc41=>?_) (fun hc41=>?_)
       ·replace H1:=Zbf hc41 H1
        refine wp_skip ?_
        refine Zr ?_
        refine wp_seq ?_
        refine wp_block ?_
        obtain ⟨e42,h43,H1⟩:=Zn H1
        refine r_s (L:=[(5,_),(8,_),(15,_),(84,_),(85,_),(86,_)]) (T:=[⟨[.o 3,.o 5],_,[],[],[88]⟩,⟨[.p 0 0],_,[],[0],[89]⟩,⟨[.p 1 0],_,[],[0,1],[17]⟩]) (F:=[.o 0,.o 1,.o 2,.p 2 0,.o 3,.o 4,.o 5]) (hst.pick [0,1,2,3,4,5] rfl) hb Za
         (o_p rfl (Zb3 Tryd.underlying55 sz_9 rfl rfl (Opd.imp u_0 (fun _ _ h=>Zdw h)) u_1 h43)<|Ql rfl ty_9 u_0<|Qa rfl u_0<|o_n) (fun a g hst hb=>?_)
        obtain ⟨r44,h45,H1⟩:=Zn H1
        refine r_s (T:=[⟨[.o 3],_,[],[],[90]⟩,⟨[.o 2,.p 0 0],[(91,(pInt .i64 r44)),(15,(Z9 none Zz 15 x39))],[16,1000016],[0],[15,91]⟩,⟨[.p 1 0],_,[],[0,1],[92]⟩]) (F:=[.o 0,.o 1,.p 1 1,.o 4,.o 5,.o 6,.p 2 0]) hst hb Za
         (Qm rfl u_0<|o_p rfl (Zb1 Zj3 (Zcz _ _ h45) rfl rfl rfl (by decide) u_0 u_0 (.cons u_1 .nil))<|o_p rfl (Zdr rfl rfl u_0 c_i)<|o_n) (fun a g hst hb=>?_)
        refine wp_cond_split (hst.bool 6 rfl) (fun hc46=>?_) (fun hc46=>?_)
        ·replace H1:=Zbf hc46 H1
         refine r_s (L:=[]) (T:=[⟨[],_,[],[],[4]⟩]) (F:=[.p 0 0]) (hst.pick [] rfl) hb Za
          (Qa rfl c_b<|o_n) (fun a g hst hb=>?_)
         refine wp_ret ?_
         refine Zdx ?_
         refine Zbc ?_
         refine Zbc ?_
         refine Zdx ?_
         refine Zbc ?_
         refine Zbc ?_
         obtain rfl:=Option.some.inj H1
         obtain rfl:=Option.some.inj H0
         exact Z8 rfl hst hb (Zw (s:=4)) (hst.at 0 rfl)
        ·replace H1:=Zbe hc46 H1
         refine wp_skip ?_
         refine Zbh ?_
         refine Zr ?_
         refine r_g (L:=[(5,_),(8,_),(15,_),(84,_),(85,_),(86,_)]) (T:=[⟨[.o 5],_,[],[],[93]⟩,⟨[.p 0 0],_,[],[0],[86]⟩]) (F:=[.o 0,.o 1,.o 2,.o 3,.o 4,.p 1 0]) (hst.pick [0,1,2,3,4,5] rfl) hb Za
          (o_p rfl (Zcn rfl rfl u_0 c_i rfl)<|Qm rfl u_0<|o_n) (fun a g hst hb=>?_)
         exact ⟨n,Nat.lt_succ_self _,x39,(IntKind.i64.wrap (x40 + (1:Int))),g,rfl,(hst.pick [0,1,2,3,4,5] rfl),hb,H1⟩
       ·replace H1:=Zbe hc41 H1
        refine wp_exit ?_
        refine Zbm ?_
        refine Zbm ?_
        refine Zcb ?_
        exact ⟨x39,g,rfl,(hst.pick [0,1,2] rfl),hb,Option.some.inj H1⟩
    ·refine wp_block ?_
     refine wp_loop_ghost (fun n a w=>∃ (x13:Ze) (x14:List ByteArray) (x15:Int) (g:G),w=g.w ∧ St 107 [(5,(pInt .i64 (Int.tmod (IntKind.i64.wrap a0) (400:Int)))),(6,(Zcg none Z6 Z2 (hpL (pRow Zk 54 506 x13.Deals)) 6 x13)),(8,(pRow Kd.str 9 8 x14)),(41,((Kd.int .u16).sl.pd a1)),(42,(pInt .i64 (a1.length:Int))),(43,(pInt .i64 x15))] a g ∧ Base g0 g ∧ Zm a0 a1 n x13 x14 x15=some z36) (Int.toNat ((a1.length:Int) - (0:Int)) + 1) ⟨y11,([]:List ByteArray),(0:Int),g,rfl,(hst.pick [0,1,2,3,4,5] rfl),hb,hz2⟩ (fun n a w hI=>?_)
     obtain ⟨x13,x14,x15,g,rfl,hst,hb,H1⟩:=hI
     cases n with
     | zero=>exact absurd H1 (by simp [Zm])
     | succ n =>
      rw [Zm] at H1
      refine r_s (T:=[⟨[.o 5,.o 4],_,[],[],[44]⟩]) (F:=[.o 0,.o 1,.o 2,.o 3,.o 4,.o 5,.p 0 0]) hst hb Za
       (o_p rfl (Zdr rfl rfl u_0 u_1)<|o_n) (fun a g hst hb=>?_)
      refine wp_seq ?_
      refine wp_cond_split (hst.bool 6 rfl) (fun hc16=>?_) (fun hc16=>?_)
      ·replace H1:=Zbf hc16 H1
       refine wp_skip ?_
       refine Zr ?_
       refine wp_seq ?_
       refine Zc2 (fun a w=>∃ (j32:Ze) (j33:List ByteArray) (g:G),w=g.w ∧ St 107 [(5,(pInt .i64 (Int.tmod (IntKind.i64.wrap a0) (400:Int)))),(6,(Zcg none Z6 Z2 (hpL (pRow Zk 54 506 j32.Deals)) 6 j32)),(8,(pRow Kd.str 9 8 j33)),(41,((Kd.int .u16).sl.pd a1)),(42,(pInt .i64 (a1.length:Int))),(43,(pInt .i64 x15))] a g ∧ Base g0 g ∧ Zbg x15 (Zm a0 a1 n) j32 j33=some z36) ?_ ?_
       ·rintro a w ⟨j32,j33,g,rfl,hst,hb,H1⟩
        unfold Zbg at H1
        refine Zr ?_
        refine r_g (T:=[⟨[.o 5],_,[],[],[81]⟩,⟨[.p 0 0],_,[],[0],[43]⟩]) (F:=[.o 0,.o 1,.o 2,.o 3,.o 4,.p 1 0]) hst hb Za
         (o_p rfl (Zcn rfl rfl u_0 c_i rfl)<|Qm rfl u_0<|o_n) (fun a g hst hb=>?_)
        exact ⟨n,Nat.lt_succ_self _,j32,j33,(IntKind.i64.wrap (x15 + (1:Int))),g,rfl,(hst.pick [0,1,2,3,4,5] rfl),hb,H1⟩
       ·refine wp_block ?_
        obtain ⟨e17,h18,H1⟩:=Zn H1
        refine r_s (L:=[(5,_),(6,_),(8,_),(41,_),(42,_),(43,_)]) (T:=[⟨[.o 3,.o 5],_,[],[],[45]⟩,⟨[.p 0 0],_,[],[0],[46]⟩,⟨[.p 1 0],_,[],[0,1],[10]⟩]) (F:=[.o 0,.o 1,.o 2,.p 2 0,.o 3,.o 4,.o 5]) (hst.pick [0,1,2,3,4,5] rfl) hb Za
         (o_p rfl (Zb3 Tryd.underlying44 Zps rfl rfl u_0 u_1 h18)<|Ql rfl Zo7 u_0<|Qa rfl u_0<|o_n) (fun a g hst hb=>?_)
        obtain ⟨h19,H1⟩:=Zek H1;obtain ⟨r20,h21,H1⟩:=Zn H1
        refine r_s (T:=[⟨[.o 3],_,[],[],[47]⟩,⟨[.p 0 0],_,[],[0],[48]⟩,⟨[.o 0],_,[],[],[49]⟩,⟨[.p 2 0],_,[],[2],[50]⟩,⟨[.p 1 0,.p 3 0],_,[],Lr 4,[51]⟩,⟨[.p 4 0],_,[],Lr 5,[52]⟩,⟨[.p 5 0],_,[],Lr 6,[11]⟩]) (F:=[.o 0,.o 1,.o 2,.p 6 0,.o 4,.o 5,.o 6]) hst hb Za
         (Qm rfl u_0<|o_p rfl (Zey Tryd.underlying43 Tryd.underlying3 rfl rfl u_0 rfl)<|Qm rfl u_0<|o_p rfl (Zk8 rfl rfl u_0 c_i)<|o_p rfl (Zg2 rfl rfl u_0 u_1 h19)<|o_p rfl (Zb6 Znc (Zdi _ h21) rfl rfl (.cons u_0 .nil))<|Qa rfl u_0<|o_n) (fun a g hst hb=>?_)
        obtain ⟨h22,H1⟩:=Zek H1
        refine r_s (T:=[⟨[.o 1],_,[],[],[53]⟩,⟨[.p 0 0],_,[],[0],[54]⟩,⟨[.o 3],_,[],[],[55]⟩,⟨[.p 2 0],_,[],[2],[56]⟩,⟨[.p 3 0],_,[],[2,3],[57]⟩,⟨[.p 4 0],_,[],[2,3,4],[58]⟩,⟨[.p 5 0],_,[],List.range' 2 4,[59]⟩,⟨[.p 1 0,.p 6 0,.o 1],[(6,(Zcg none Z6 Z2 hpT 6 x13)),(60,(pRow Zk 54 506 (x13.Deals ++ ([({ Acts:=([({ Kind:=(18:Int),Key:=r20,N:=(0:Int),X:=(0:Nat),S:=(⟨#[97]⟩:ByteArray),Make:=(default:Zg),Must:=false }:Zd)]:List Zd) }:Zc)]:List Zc))))],[507],Lr 7,[6,53,54,60]⟩,⟨[.p 7 0],_,[],Lr 8,[61]⟩,⟨[.p 7 1,.p 8 0,.p 7 0],_,[7],Lr 9,[6,53,61]⟩]) (F:=[.o 0,.p 9 0,.o 2,.o 3,.o 4,.o 5,.o 6]) hst hb Za
         (o_p rfl (Zep Ze9 (off:=1) (q:=(pRow Zk 54 506 x13.Deals)) (by kernel_rfl) (pr:=id) (fun _=>rfl) (fun _ _ h=>h) rfl rfl u_0)<|o_p rfl (Zi0 Zgq rfl rfl u_0)<|Qm rfl u_0<|o_p rfl (Zi8 rfl rfl c_i u_0 c_s)<|o_p rfl (Zc4 Zh1 (xs:=[.tmp 56]) (.cons u_0 .nil) (by decide) rfl rfl)<|o_p rfl (Zf2 rfl rfl u_0)<|o_p rfl (Zc4 Zgt (xs:=[.tmp 58]) (.cons u_0 .nil) (by decide) rfl rfl)<|o_p rfl (OB.frameU (Zfw Zgt rfl rfl u_0 u_1 h22) (Opd.imp u_2 (fun _ _ h=>Zm7 h)) (fun k hk hS=>Znf (List.mem_singleton.1 hk) (List.mem_singleton.1 hS) (by decide)) (fun h=>by cases h))<|o_p rfl (Zep Ze9 (off:=1) (q:=pAny) (by kernel_rfl) (pr:=id) (fun _=>rfl) (fun _ _ _=>trivial) rfl rfl u_0)<|o_p rfl (Zhn (x':=({ x13 with Deals:=(x13.Deals ++ ([({ Acts:=([({ Kind:=(18:Int),Key:=r20,N:=(0:Int),X:=(0:Nat),S:=(⟨#[97]⟩:ByteArray),Make:=(default:Zg),Must:=false }:Zd)]:List Zd) }:Zc)]:List Zc)) }:Ze)) (R2:=hpL (pRow Zk 54 506 (({ x13 with Deals:=(x13.Deals ++ ([({ Acts:=([({ Kind:=(18:Int),Key:=r20,N:=(0:Int),X:=(0:Nat),S:=(⟨#[97]⟩:ByteArray),Make:=(default:Zg),Must:=false }:Zd)]:List Zd) }:Zc)]:List Zc)) }:Ze).Deals))) (upd:=fun _ s2=>s2) Zgq rfl rfl (fun _ _ h=>Zjn h) (fun k hk=>by rw [List.mem_singleton.1 hk];decide) (fun k hk=>by cases hk) u_2 (fun a g hh=>Zju (u_1 a g hh)) u_0 (fun _ _ _ _ h=>h) (fun g cs s0 s1 ys h k=>Zfl h k))<|o_n) (fun a g hst hb=>?_)
        refine r_s (T:=[⟨[],_,[],[],[12]⟩]) (F:=[.o 0,.o 1,.o 2,.o 3,.p 0 0,.o 4,.o 5,.o 6]) hst hb Za
         (Qa rfl c_b<|o_n) (fun a g hst hb=>?_)
        refine wp_seq ?_
        refine r_s (T:=[⟨[.o 2],_,[],[],[62]⟩,⟨[.p 0 0],_,[],[0],[63]⟩,⟨[],_,[],[],[64]⟩]) (F:=[.o 0,.o 1,.o 2,.o 3,.o 4,.o 5,.o 6,.o 7,.p 0 0,.p 1 0,.p 2 0]) hst hb Za
         (Qm rfl u_0<|o_p rfl (Zcm Tryd.underlying55 rfl rfl (Opd.imp u_0 (fun _ _ h=>Zdw h)))<|Qm rfl c_i<|o_n) (fun a g hst hb=>?_)
        obtain ⟨z29,hz3,H1⟩:=Zn H1
        refine Zc2 (fun a w=>∃ (y28:Bool) (g:G),w=g.w ∧ St 107 [(5,(pInt .i64 (Int.tmod (IntKind.i64.wrap a0) (400:Int)))),(6,(Zcg none Z6 Z2 (hpL (pRow Zk 54 506 (({ x13 with Deals:=(x13.Deals ++ ([({ Acts:=([({ Kind:=(18:Int),Key:=r20,N:=(0:Int),X:=(0:Nat),S:=(⟨#[97]⟩:ByteArray),Make:=(default:Zg),Must:=false }:Zd)]:List Zd) }:Zc)]:List Zc)) }:Ze).Deals))) 6 ({ x13 with Deals:=(x13.Deals ++ ([({ Acts:=([({ Kind:=(18:Int),Key:=r20,N:=(0:Int),X:=(0:Nat),S:=(⟨#[97]⟩:ByteArray),Make:=(default:Zg),Must:=false }:Zd)]:List Zd) }:Zc)]:List Zc)) }:Ze))),(8,(pRow Kd.str 9 8 x14)),(11,(pStr r20)),(12,(Zo y28)),(41,((Kd.int .u16).sl.pd a1)),(42,(pInt .i64 (a1.length:Int))),(43,(pInt .i64 x15))] a g ∧ Base g0 g ∧ y28=z29) ?_ ?_
        ·rintro a w ⟨y28,g,rfl,hst,hb,rfl⟩
         refine Zr ?_
         refine r_s (T:=[⟨[.o 4],_,[],[],[75]⟩,⟨[.p 0 0],_,[],[0],[76]⟩]) (F:=[.o 0,.o 1,.o 2,.o 3,.o 5,.o 6,.o 7,.p 1 0]) hst hb Za
          (Qm rfl u_0<|Qn rfl u_0<|o_n) (fun a g hst hb=>?_)
         refine wp_cond_split (hst.bool 7 rfl) (fun hc30=>?_) (fun hc30=>?_)
         ·replace H1:=Zbf hc30 H1
          obtain ⟨h31,H1⟩:=Zek H1
          refine r_g (L:=[(5,_),(6,_),(8,_),(11,_),(41,_),(42,_),(43,_)]) (T:=[⟨[.o 2],_,[],[],[77]⟩,⟨[.o 3],_,[],[],[78]⟩,⟨[.p 1 0],_,[],[1],[79]⟩,⟨[.p 0 0,.p 2 0],_,[9],[0,1,2],[8,77,80]⟩,⟨[.p 3 0],_,[],Lr 4,[8]⟩]) (F:=[.o 0,.o 1,.p 4 0,.o 4,.o 5,.o 6]) (hst.pick [0,1,2,3,4,5,6] rfl) hb Za
           (Qm rfl u_0<|Qm rfl u_0<|o_p rfl (Zc4 Zni (xs:=[.tmp 78]) (.cons u_0 .nil) (by decide) rfl rfl)<|o_p rfl (Zfw Zni rfl rfl u_0 u_1 h31)<|Qa rfl u_0<|o_n) (fun a g hst hb=>?_)
          refine Zbh ?_
          exact ⟨({ x13 with Deals:=(x13.Deals ++ ([({ Acts:=([({ Kind:=(18:Int),Key:=r20,N:=(0:Int),X:=(0:Nat),S:=(⟨#[97]⟩:ByteArray),Make:=(default:Zg),Must:=false }:Zd)]:List Zd) }:Zc)]:List Zc)) }:Ze),(x14 ++ ([r20]:List ByteArray)),g,rfl,(hst.pick [0,1,2,3,4,5] rfl),hb,H1⟩
         ·replace H1:=Zbe hc30 H1
          refine wp_skip ?_
          refine Zbh ?_
          exact ⟨({ x13 with Deals:=(x13.Deals ++ ([({ Acts:=([({ Kind:=(18:Int),Key:=r20,N:=(0:Int),X:=(0:Nat),S:=(⟨#[97]⟩:ByteArray),Make:=(default:Zg),Must:=false }:Zd)]:List Zd) }:Zc)]:List Zc)) }:Ze),x14,g,rfl,(hst.pick [0,1,2,4,5,6] rfl),hb,H1⟩
        ·refine wp_block ?_
         refine wp_loop_ghost (fun n a w=>∃ (x23:Bool) (x24:Int) (g:G),w=g.w ∧ St 107 [(5,(pInt .i64 (Int.tmod (IntKind.i64.wrap a0) (400:Int)))),(6,(Zcg none Z6 Z2 (hpL (pRow Zk 54 506 (({ x13 with Deals:=(x13.Deals ++ ([({ Acts:=([({ Kind:=(18:Int),Key:=r20,N:=(0:Int),X:=(0:Nat),S:=(⟨#[97]⟩:ByteArray),Make:=(default:Zg),Must:=false }:Zd)]:List Zd) }:Zc)]:List Zc)) }:Ze).Deals))) 6 ({ x13 with Deals:=(x13.Deals ++ ([({ Acts:=([({ Kind:=(18:Int),Key:=r20,N:=(0:Int),X:=(0:Nat),S:=(⟨#[97]⟩:ByteArray),Make:=(default:Zg),Must:=false }:Zd)]:List Zd) }:Zc)]:List Zc)) }:Ze))),(8,(pRow Kd.str 9 8 x14)),(11,(pStr r20)),(12,(Zo x23)),(41,((Kd.int .u16).sl.pd a1)),(42,(pInt .i64 (a1.length:Int))),(43,(pInt .i64 x15)),(62,(pRow Kd.str 9 8 x14)),(63,(pInt .i64 (x14.length:Int))),(64,(pInt .i64 x24))] a g ∧ Base g0 g ∧ Zy x14 r20 n x23 x24=some z29) (Int.toNat ((x14.length:Int) - (0:Int)) + 1) ⟨false,(0:Int),g,rfl,(hst.pick [0,1,2,3,4,5,6,7,8,9,10] rfl),hb,hz3⟩ (fun n a w hI=>?_)
         obtain ⟨x23,x24,g,rfl,hst,hb,H2⟩:=hI
         cases n with
         | zero=>exact absurd H2 (by simp [Zy])
         | succ n =>
          rw [Zy] at H2
          refine r_s (T:=[⟨[.o 10,.o 9],_,[],[],[65]⟩]) (F:=[.o 0,.o 1,.o 2,.o 3,.o 4,.o 5,.o 6,.o 7,.o 8,.o 9,.o 10,.p 0 0]) hst hb Za
           (o_p rfl (Zdr rfl rfl u_0 u_1)<|o_n) (fun a g hst hb=>?_)
          refine wp_seq ?_
          refine wp_cond_split (hst.bool 11 rfl) (fun hc25=>?_) (fun hc25=>?_)
          ·replace H2:=Zbf hc25 H2
           refine wp_skip ?_
           refine Zr ?_
           refine wp_seq ?_
           refine wp_block ?_
           obtain ⟨e26,h27,H2⟩:=Zn H2
           refine r_s (L:=[(5,_),(6,_),(8,_),(11,_),(12,_),(41,_),(42,_),(43,_),(62,_),(63,_),(64,_)]) (T:=[⟨[.o 8,.o 10],_,[],[],[66]⟩,⟨[.p 0 0],_,[],[0],[67]⟩,⟨[.p 1 0],_,[],[0,1],[14]⟩]) (F:=[.o 0,.o 1,.o 2,.o 3,.o 4,.p 2 0,.o 5,.o 6,.o 7,.o 8,.o 9,.o 10]) (hst.pick [0,1,2,3,4,5,6,7,8,9,10] rfl) hb Za
            (o_p rfl (Zb3 Tryd.underlying55 sz_9 rfl rfl (Opd.imp u_0 (fun _ _ h=>Zdw h)) u_1 h27)<|Ql rfl ty_9 u_0<|Qa rfl u_0<|o_n) (fun a g hst hb=>?_)
           refine r_g (T:=[⟨[.o 4],_,[],[],[68]⟩,⟨[.p 0 0],_,[],[0],[69]⟩,⟨[.p 1 0,.o 5],_,[],[0,1],[70]⟩,⟨[.p 1 0,.o 3],_,[],[0,1],[71]⟩,⟨[.p 1 0,.p 2 0,.p 3 0],_,[],Lr 4,[72]⟩,⟨[.p 1 0,.p 4 0],_,[],Lr 5,[73]⟩,⟨[.p 5 0],_,[],Lr 6,[12]⟩]) (F:=[.o 0,.o 1,.o 2,.o 3,.p 6 0,.o 6,.o 7,.o 8,.o 9,.o 10,.o 11]) hst hb Za
            (Qm rfl u_0<|Qm rfl u_0<|o_g (Qg_f rfl (fun hG=>Zdm rfl rfl u_0))<|o_g (Qg_f rfl (fun hG=>Zdm rfl rfl u_0))<|o_g (Qg_f rfl (fun hG=>Zoz rfl rfl (Opd.gd hG u_0) (Opd.gd hG u_1)))<|o_p rfl (Zls rfl rfl u_0 (fun hz=>(Opd.gd (bNF hz) u_1)))<|Qa rfl u_0<|o_n) (fun a g hst hb=>?_)
           refine Zbh ?_
           refine Zr ?_
           refine r_g (T:=[⟨[.o 10],_,[],[],[74]⟩,⟨[.p 0 0],_,[],[0],[64]⟩]) (F:=[.o 0,.o 1,.o 2,.o 3,.o 4,.o 5,.o 6,.o 7,.o 8,.o 9,.p 1 0]) hst hb Za
            (o_p rfl (Zcn rfl rfl u_0 c_i rfl)<|Qm rfl u_0<|o_n) (fun a g hst hb=>?_)
           exact ⟨n,Nat.lt_succ_self _,(x23 || (sEq e26 r20)),(IntKind.i64.wrap (x24 + (1:Int))),g,rfl,(hst.pick [0,1,2,3,4,5,6,7,8,9,10] rfl),hb,H2⟩
          ·replace H2:=Zbe hc25 H2
           refine wp_exit ?_
           refine Zbm ?_
           refine Zbm ?_
           refine Zcb ?_
           exact ⟨x23,g,rfl,(hst.pick [0,1,2,3,4,5,6,7] rfl),hb,Option.some.inj H2⟩
      ·replace H1:=Zbe hc16 H1
       refine wp_exit ?_
       refine Zbm ?_
       refine Zbm ?_
       refine Zcb ?_
       exact ⟨x13,x14,g,rfl,(hst.pick [0,1,2] rfl),hb,Option.some.inj H1⟩
   ·refine wp_block ?_
    refine wp_loop_ghost (fun n a w=>∃ (x5:Ze) (x6:Int) (g:G),w=g.w ∧ St 107 [(1,((Kd.int .u16).sl.pd a1)),(5,(pInt .i64 (Int.tmod (IntKind.i64.wrap a0) (400:Int)))),(6,(Zcg none Z6 Z2 (hpL (pRow Zk 54 506 x5.Deals)) 6 x5)),(26,(pInt .i64 (Int.tmod (IntKind.i64.wrap a0) (400:Int)))),(27,(pInt .i64 x6))] a g ∧ Base g0 g ∧ Zx a0 n x5 x6=some z12) (Int.toNat ((Int.tmod (IntKind.i64.wrap a0) (400:Int)) - (0:Int)) + 1) ⟨(default:Ze),(0:Int),g,rfl,(hst.pick [0,1,2,3,4] rfl),hb,hz1⟩ (fun n a w hI=>?_)
    obtain ⟨x5,x6,g,rfl,hst,hb,H1⟩:=hI
    cases n with
    | zero=>exact absurd H1 (by simp [Zx])
    | succ n =>
     rw [Zx] at H1
     refine r_s (T:=[⟨[.o 4,.o 3],_,[],[],[28]⟩]) (F:=[.o 0,.o 1,.o 2,.o 3,.o 4,.p 0 0]) hst hb Za
      (o_p rfl (Zdr rfl rfl u_0 u_1)<|o_n) (fun a g hst hb=>?_)
     refine wp_seq ?_
     refine wp_cond_split (hst.bool 5 rfl) (fun hc7=>?_) (fun hc7=>?_)
     ·replace H1:=Zbf hc7 H1
      refine wp_skip ?_
      refine Zr ?_
      refine wp_seq ?_
      refine wp_block ?_
      refine r_s (L:=[(1,_),(5,_),(6,_),(26,_),(27,_)]) (T:=[⟨[.o 4],_,[],[],[29]⟩,⟨[.p 0 0],_,[],[0],[7]⟩]) (F:=[.o 0,.o 1,.o 2,.p 1 0,.o 3,.o 4]) (hst.pick [0,1,2,3,4] rfl) hb Za
       (Qm rfl u_0<|Qa rfl u_0<|o_n) (fun a g hst hb=>?_)
      obtain ⟨r8,h9,H1⟩:=Zn H1;obtain ⟨h10,H1⟩:=Zek H1
      refine r_g (T:=[⟨[.o 2],_,[],[],[30]⟩,⟨[.p 0 0],_,[],[0],[31]⟩,⟨[.o 3],_,[],[],[32]⟩,⟨[.p 2 0],_,[],[2],[33]⟩,⟨[.p 3 0],_,[],[2,3],[34]⟩,⟨[.p 4 0],_,[],[2,3,4],[35]⟩,⟨[.p 5 0],_,[],List.range' 2 4,[36]⟩,⟨[.p 6 0],_,[],List.range' 2 5,[37]⟩,⟨[.p 1 0,.p 7 0,.o 2],[(6,(Zcg none Z6 Z2 hpT 6 x5)),(38,(pRow Zk 54 506 (x5.Deals ++ ([({ Acts:=([({ Kind:=(8:Int),Key:=r8,N:=(1:Int),X:=(0:Nat),S:=ByteArray.empty,Make:=(default:Zg),Must:=false }:Zd)]:List Zd) }:Zc)]:List Zc))))],[507],Lr 8,[6,30,31,38]⟩,⟨[.p 8 0],_,[],Lr 9,[39]⟩,⟨[.p 8 1,.p 9 0,.p 8 0],_,[7],Lr 10,[6,30,39]⟩]) (F:=[.o 0,.o 1,.p 10 0,.o 4,.o 5]) hst hb Za
       (o_p rfl (Zep Ze9 (off:=1) (q:=(pRow Zk 54 506 x5.Deals)) (by kernel_rfl) (pr:=id) (fun _=>rfl) (fun _ _ h=>h) rfl rfl u_0)<|o_p rfl (Zi0 Zgq rfl rfl u_0)<|Qm rfl u_0<|o_p rfl (Zb6 Znc (Zdi _ h9) rfl rfl (.cons u_0 .nil))<|o_p rfl (Zf7 rfl rfl c_i u_0 c_i)<|o_p rfl (Zc4 Zh1 (xs:=[.tmp 34]) (.cons u_0 .nil) (by decide) rfl rfl)<|o_p rfl (Zf2 rfl rfl u_0)<|o_p rfl (Zc4 Zgt (xs:=[.tmp 36]) (.cons u_0 .nil) (by decide) rfl rfl)<|o_p rfl (OB.frameU (Zfw Zgt rfl rfl u_0 u_1 h10) (Opd.imp u_2 (fun _ _ h=>Zm7 h)) (fun k hk hS=>Znf (List.mem_singleton.1 hk) (List.mem_singleton.1 hS) (by decide)) (fun h=>by cases h))<|o_p rfl (Zep Ze9 (off:=1) (q:=pAny) (by kernel_rfl) (pr:=id) (fun _=>rfl) (fun _ _ _=>trivial) rfl rfl u_0)<|o_p rfl (Zhn (x':=({ x5 with Deals:=(x5.Deals ++ ([({ Acts:=([({ Kind:=(8:Int),Key:=r8,N:=(1:Int),X:=(0:Nat),S:=ByteArray.empty,Make:=(default:Zg),Must:=false }:Zd)]:List Zd) }:Zc)]:List Zc)) }:Ze)) (R2:=hpL (pRow Zk 54 506 (({ x5 with Deals:=(x5.Deals ++ ([({ Acts:=([({ Kind:=(8:Int),Key:=r8,N:=(1:Int),X:=(0:Nat),S:=ByteArray.empty,Make:=(default:Zg),Must:=false }:Zd)]:List Zd) }:Zc)]:List Zc)) }:Ze).Deals))) (upd:=fun _ s2=>s2) Zgq rfl rfl (fun _ _ h=>Zjn h) (fun k hk=>by rw [List.mem_singleton.1 hk];decide) (fun k hk=>by cases hk) u_2 (fun a g hh=>Zju (u_1 a g hh)) u_0 (fun _ _ _ _ h=>h) (fun g cs s0 s1 ys h k=>Zfl h k))<|o_n) (fun a g hst hb=>?_)
      refine Zbh ?_
      refine Zr ?_
      refine r_g (T:=[⟨[.o 4],_,[],[],[40]⟩,⟨[.p 0 0],_,[],[0],[27]⟩]) (F:=[.o 0,.o 1,.o 2,.o 3,.p 1 0]) hst hb Za
       (o_p rfl (Zcn rfl rfl u_0 c_i rfl)<|Qm rfl u_0<|o_n) (fun a g hst hb=>?_)
      exact ⟨n,Nat.lt_succ_self _,({ x5 with Deals:=(x5.Deals ++ ([({ Acts:=([({ Kind:=(8:Int),Key:=r8,N:=(1:Int),X:=(0:Nat),S:=ByteArray.empty,Make:=(default:Zg),Must:=false }:Zd)]:List Zd) }:Zc)]:List Zc)) }:Ze),(IntKind.i64.wrap (x6 + (1:Int))),g,rfl,(hst.pick [0,1,2,3,4] rfl),hb,H1⟩
     ·replace H1:=Zbe hc7 H1
      refine wp_exit ?_
      refine Zbm ?_
      refine Zbm ?_
      refine Zcb ?_
      exact ⟨x5,g,rfl,(hst.pick [0,1,2] rfl),hb,Option.some.inj H1⟩
end Go.CL
namespace Go.CL
open Go
abbrev BI:=List (ByteArray × Int)
abbrev RM:=Zgc
def Zd7 (k:Int):Bool:=((((((((k == (7:Int)) || (k == (8:Int))) || (k == (10:Int))) || (k == (11:Int))) || (k == (13:Int))) || (k == (14:Int))) || (k == (18:Int))) || (k == (21:Int)))
theorem Zn7 (k:Int):∃ o,Zdv k=some o:=by
 unfold Zdv Zg0
 by_cases h:k ≤ 0 ∨ 22 ≤ k
 ·rw [if_pos (by simpa using h)];exact ⟨_,rfl⟩
 ·rw [if_neg (by simpa using h)]
  obtain ⟨n,rfl⟩:=Int.eq_ofNat_of_zero_le (show 0 ≤ k by omega)
  have hl:n < g_0.length:=by have:g_0.length=22:=rfl;omega
  have:idx g_0 (n:Int)=some g_0[n]:=Zgu hl
  rw [this];exact ⟨_,rfl⟩
theorem Zkz {k o:Int} (h:Zdv k=some o):Zc6 o k=some (Zd7 k):=by
 have key:∀ b:Bool,(if b=true then ((Zdv k).bind fun r10=>some (r10 == o)) else some false)=some b:=by
  intro b;cases b <;> simp [h]
 unfold Zc6 Z5 Zd7
 simp only [key]
 cases (k == (7:Int)) <;> cases (k == (8:Int)) <;> cases (k == (10:Int)) <;> cases (k == (11:Int)) <;> cases (k == (13:Int)) <;> cases (k == (14:Int)) <;> cases (k == (18:Int)) <;> cases (k == (21:Int)) <;> rfl
def bump (nx:BI) (k:ByteArray):BI:=setS nx k (IntKind.i64.wrap ((getS nx k).getD 0 + 1))
theorem Zjc (nx:BI) (a:Zd):Zel nx a=some (if Zd7 a.Kind then bump nx a.Key else nx):=by
 obtain ⟨o,ho⟩:=Zn7 a.Kind
 unfold Zel
 rw [ho,Option.bind_some,Zkz ho,Option.bind_some];rfl
def Ze5 (l:List Zd):List ByteArray:=(l.filter fun a=>Zd7 a.Kind).map (·.Key)
def Zdb (l:List Zc):List ByteArray:=l.flatMap fun d=>Ze5 d.Acts
theorem Zj9 (a:Zd) (l:List Zd):Ze5 (a :: l)=if Zd7 a.Kind then a.Key :: Ze5 l else Ze5 l:=by
 unfold Ze5
 by_cases h:Zd7 a.Kind=true <;> simp [h]
theorem Zfv:∀ (l:List Zd) (nx:BI),Zc1 l nx=some ((Ze5 l).foldl bump nx)
 | [],nx=>rfl
 | a :: l,nx=>by
  rw [Zc1,Zjc,Option.bind_some,Zfv l,Zj9]
  split <;> rfl
theorem Zfh:∀ (l:List Zc) (nx:BI),Zc9 l nx=some ((Zdb l).foldl bump nx)
 | [],nx=>rfl
 | d :: l,nx=>by
  rw [Zc9,Zfv,Option.bind_some,Zfh l]
  show _=some ((Ze5 d.Acts ++ Zdb l).foldl bump nx)
  rw [List.foldl_append]
def Zc8 (m:BI) (x:Ze):BI:=(Zdb x.Deals).foldl bump (Z4 m)
theorem Zeg {h:Zs} {x:Ze} (hl:(Zc8 h.by_ x).length ≤ 1000000000):Z1 h x=some (⟨Zl (Zc8 h.by_ x)⟩,()):=by
 unfold Z1
 rw [Zfh,Option.bind_some]
 show (Zv ⟨Zc8 h.by_ x⟩).bind _=_
 unfold Zv
 rw [if_pos (by show (Zc8 h.by_ x).length * 24 ≤ _;omega)]
 rfl
theorem Zmk (m:BI) (k:ByteArray) (n:Int):(setS m k n).length ≤ m.length + 1:=by
 unfold setS
 have:=List.length_filter_le (fun e:ByteArray × Int=>decide (e.1 ≠ k)) m
 simp only [List.length_cons];omega
theorem Zhi:∀ (l:List ByteArray) (m:BI),(l.foldl bump m).length ≤ m.length + l.length
 | [],m=>by simp
 | k :: l,m=>by
  have:=Zhi l (bump m k)
  have h2:(bump m k).length ≤ m.length + 1:=Zmk ..
  simp only [List.foldl_cons,List.length_cons];omega
def toP (l:List RM):BI:=l.map fun m=>(m.Key,m.Score)
def cv (m:RM):Zb:=⟨m.Key,m.Score⟩
def OrdR (l:List RM):Prop:=l.Pairwise fun x y=>¬ Hot (cv y) (cv x)
theorem Zlh {m:BI} (hk:(m.map (·.1)).Nodup) (k:ByteArray):((bump m k).map (·.1)).Nodup:=Zfo hk k _
theorem Zgy:∀ (l:List ByteArray) {m:BI},(m.map (·.1)).Nodup → ((l.foldl bump m).map (·.1)).Nodup
 | [],_,h=>h
 | k :: l,_,h=>Zgy l (Zlh h k)
theorem Zn1 (l:List RM):(toP l).map Zi=l.map cv:=by unfold toP;rw [List.map_map];rfl
structure Same12 (h:Zs) (w:List RM):Prop where
 eq:h.by_=toP w
 keys:(w.map (·.Key)).Nodup
 ord:OrdR w
 len:w.length ≤ 256
structure LotOk (x:Ze):Prop where
 deals:x.Deals.length ≤ 40
 acts:∀ d ∈ x.Deals,d.Acts.length ≤ 40
theorem Zjl (e:ByteArray × Int):Zl [e]=[e]:=by
 unfold Zl Zq
 rw [List.map_cons,List.map_nil,List.mergeSort_singleton]
 rfl
def keyA:ByteArray:=⟨#[97]⟩
def actA:Zd:={ Kind:=(7:Int),Key:=(⟨#[97]⟩:ByteArray),N:=(1:Int),X:=(0:Nat),S:=ByteArray.empty,Make:=(default:Zg),Must:=false }
def lotA:Ze:={ Number:=(0:Int),Deals:=[{ Acts:=[actA,actA] },{ Acts:=[actA] }] }
def lotE:Ze:={ Number:=(0:Int),Deals:=[] }
theorem finA:Zc8 [] lotA=[(keyA,3)]:=by kernel_rfl
theorem finE:Zc8 [(keyA,3)] lotE=[(keyA,1)]:=by kernel_rfl
theorem Zpx:Z1 ⟨[]⟩ lotA=some (⟨[(keyA,3)]⟩,()):=by
 rw [Zeg (by show (Zc8 [] lotA).length ≤ _;rw [finA];decide)]
 show some ((⟨Zl (Zc8 [] lotA)⟩:Zs),())=_
 rw [finA,Zjl]
theorem Zpn:Z1 ⟨[(keyA,3)]⟩ lotE=some (⟨[(keyA,1)]⟩,()):=by
 rw [Zeg (by show (Zc8 [(keyA,3)] lotE).length ≤ _;rw [finE];decide)]
 show some ((⟨Zl (Zc8 [(keyA,3)] lotE)⟩:Zs),())=_
 rw [finE,Zjl]
theorem allA:Zv ⟨[(keyA,1)]⟩=some [⟨keyA,1⟩]:=by
 unfold Zv Zq
 rw [if_pos (by decide)]
 show some (List.mergeSort [Zi (keyA,1)] _)=_
 rw [List.mergeSort_singleton];rfl
theorem Zmz:Zb4=some true:=by
 unfold Zb4
 show (Z1 ⟨[]⟩ lotA).bind _=_
 rw [Zpx,Option.bind_some]
 show (Z1 ⟨[(keyA,3)]⟩ lotE).bind _=_
 rw [Zpn,Option.bind_some]
 show (Zv ⟨[(keyA,1)]⟩).bind _=_
 rw [allA,Option.bind_some]
 kernel_rfl
theorem Same12.all {h:Zs} {w:List RM} (hs:Same12 h w):Zv h=some (w.map cv):=by
 have hl:=hs.len
 unfold Zv
 rw [hs.eq,if_pos (by unfold toP;rw [List.length_map];omega),Zn1]
 congr 1
 exact Zfi (Zbp _) (Zds _) (List.pairwise_map.2 hs.ord)
theorem LotOk.wf {x:Ze} (h:LotOk x):(∀ d ∈ x.Deals,d.Acts.length ≤ maxLen) ∧ x.Deals.length ≤ maxLen:=⟨fun d hd=>by have:=h.acts d hd;simp only [maxLen];omega,by have:=h.deals;simp only [maxLen];omega⟩
def val (m:BI) (k:ByteArray):Int:=(getS m k).getD 0
def cnt (k:ByteArray) (l:List ByteArray):Nat:=(l.filter fun x=>decide (x=k)).length
theorem Zl6 (k x:ByteArray) (l:List ByteArray):cnt k (x :: l)=(if x=k then 1 else 0) + cnt k l:=by
 unfold cnt
 by_cases h:x=k <;> simp [h] <;> omega
theorem Zj0 (k:ByteArray) (a b:List ByteArray):cnt k (a ++ b)=cnt k a + cnt k b:=by simp [cnt]
theorem Zgd {k k':ByteArray} (h:k ≠ k'):∀ m:BI,getS (m.filter fun e=>decide (e.1 ≠ k)) k'=getS m k'
 | []=>rfl
 | e :: m=>by
  by_cases he:e.1=k
  ·rw [List.filter_cons_of_neg (by simp [he]),Zgd h m]
   simp only [getS]
   rw [if_neg (fun h2=>h (he.symm.trans h2))]
  ·rw [List.filter_cons_of_pos (by simp [he])]
   simp only [getS]
   rw [Zgd h m]
theorem Zlb (m:BI) (k k':ByteArray) (n:Int):getS (setS m k n) k'=if k=k' then some n else getS m k':=by
 unfold setS
 simp only [getS]
 split
 ·rfl
 ·rename_i h;exact Zgd h m
theorem Zl8 (m:BI) (k k':ByteArray):val (bump m k) k'=if k=k' then IntKind.i64.wrap (val m k + 1) else val m k':=by
 unfold val bump
 rw [Zlb]
 split <;> rfl
theorem Zhv (k:ByteArray):∀ (l:List ByteArray) (m:BI),0 ≤ val m k → val m k + l.length ≤ 1000000000 → val (l.foldl bump m) k=val m k + cnt k l
 | [],m,h0,h1=>by simp [cnt]
 | x :: l,m,h0,h1=>by
  simp only [List.length_cons] at h1
  have hv:val (bump m x) k=val m k + (if x=k then 1 else 0):=by
   rw [Zl8]
   by_cases hx:x=k
   ·subst hx;rw [if_pos rfl,if_pos rfl,wr (by omega) (by omega)]
   ·rw [if_neg hx,if_neg hx];omega
  rw [List.foldl_cons,Zhv k l (bump m x) (by rw [hv];split <;> omega) (by rw [hv];split <;> omega),hv,Zl6]
  split <;> omega
theorem Zea {m:BI} (hk:(m.map (·.1)).Nodup) {e:ByteArray × Int} (he:e ∈ m):val m e.1=e.2:=by
 unfold val
 have hg:getS m e.1=some e.2:=Zge hk he
 rw [hg];rfl
def un (x:Zb):ByteArray × Int:=(x.Key,x.Score)
theorem Zf5 (m:BI):((Zq (m.map Zi)).map un).Perm m:=by
 have:=(Zbp (m.map Zi)).map un
 rw [List.map_map] at this
 have e:(un ∘ Zi)=id:=rfl
 rw [e,List.map_id] at this
 exact this
theorem Zg8 {m:BI} {e:ByteArray × Int} (h:e ∈ Zl m):e ∈ m:=by
 obtain ⟨x,hx,rfl⟩:=List.mem_map.1 h
 exact (Zf5 m).mem_iff.1 (List.mem_map.2 ⟨x,List.mem_of_mem_take hx,rfl⟩)
theorem Zgh {m:BI} (hk:(m.map (·.1)).Nodup):((Zl m).map (·.1)).Nodup:=by
 have h2:=(((Zf5 m).map (·.1)).nodup_iff).2 hk
 unfold Zl
 rw [List.map_map] at *
 exact List.Nodup.sublist (List.Sublist.map _ (List.take_sublist ..)) h2
theorem Ze1 (m:BI):(Zl m).length=min 256 m.length:=by
 unfold Zl
 rw [List.length_map,List.length_take,(Zbp _).length_eq,List.length_map]
theorem Zoa {m:BI} (hk:(m.map (·.1)).Nodup) (k:ByteArray):val (Zl m) k=val m k ∨ (val (Zl m) k=0 ∧ (Zl m).length=256):=by
 by_cases h:∃ e ∈ Zl m,e.1=k
 ·obtain ⟨e,he,rfl⟩:=h
  left
  rw [Zea (Zgh hk) he,Zea hk (Zg8 he)]
 ·have h0:val (Zl m) k=0:=by
   unfold val
   rw [Zdu fun e he heq=>h ⟨e,he,heq⟩];rfl
  by_cases h2:∃ e ∈ m,e.1=k
  ·right
   refine ⟨h0,?_⟩
   rw [Ze1]
   rcases Nat.lt_or_ge m.length 256 with hl | hl
   ·obtain ⟨e,he,hek⟩:=h2
    refine absurd ⟨e,?_,hek⟩ h
    have:=(Zf5 m).mem_iff.2 he
    obtain ⟨x,hx,rfl⟩:=List.mem_map.1 this
    refine List.mem_map.2 ⟨x,?_,rfl⟩
    rw [List.take_of_length_le (by rw [(Zbp _).length_eq,List.length_map];omega)]
    exact hx
   ·omega
  ·left
   rw [h0]
   unfold val
   rw [Zdu fun e he heq=>h2 ⟨e,he,heq⟩];rfl
theorem Zks (n:Int):IntKind.u8.wrap n=n % 256:=by simp [IntKind.wrap,IntKind.bits,IntKind.signed]
def wd (n:Nat):ByteArray:=bstr [((97 + n / 100:Nat):Int),((97 + n / 10 % 10:Nat):Int),((97 + n % 10:Nat):Int)]
theorem Zjx {n:Nat} (h:n < 400):Zbx (n:Int)=some (wd n):=by
 unfold Zbx wd
 have e1:IntKind.u8.wrap (IntKind.i64.wrap ((97:Int) + (IntKind.i64.wrap (Int.tdiv (n:Int) (100:Int)))))=((97 + n / 100:Nat):Int):=by
  rw [Int.tdiv_eq_ediv_of_nonneg (by omega),wr (x:=(n:Int) / 100) (by omega) (by omega),wr (by omega) (by omega),Zks];omega
 have e2:IntKind.u8.wrap (IntKind.i64.wrap ((97:Int) + (Int.tmod (IntKind.i64.wrap (Int.tdiv (n:Int) (10:Int))) (10:Int))))=((97 + n / 10 % 10:Nat):Int):=by
  rw [Int.tdiv_eq_ediv_of_nonneg (by omega),wr (x:=(n:Int) / 10) (by omega) (by omega),Int.tmod_eq_emod_of_nonneg (by omega),wr (by omega) (by omega),Zks];omega
 have e3:IntKind.u8.wrap (IntKind.i64.wrap ((97:Int) + (Int.tmod (n:Int) (10:Int))))=((97 + n % 10:Nat):Int):=by
  rw [Int.tmod_eq_emod_of_nonneg (by omega),wr (by omega) (by omega),Zks];omega
 rw [e1,e2,e3,if_pos (by simp)]
theorem Zo3 {n m:Nat} (hn:n < 400) (hm:m < 400) (h:wd n=wd m):n=m:=by
 have hb:∀ a b c:Int,bstr [a,b,c]=⟨#[UInt8.ofNat a.toNat,UInt8.ofNat b.toNat,UInt8.ofNat c.toNat]⟩:=fun a b c=>rfl
 unfold wd at h
 rw [hb,hb] at h
 simp only [ByteArray.mk.injEq,Array.mk.injEq,List.cons.injEq,and_true,Int.toNat_natCast] at h
 obtain ⟨h1,h2,h3⟩:=h
 have k1:=congrArg UInt8.toNat h1
 have k2:=congrArg UInt8.toNat h2
 have k3:=congrArg UInt8.toNat h3
 simp only [UInt8.toNat_ofNat'] at k1 k2 k3
 omega
theorem Zcq {α:Type}:∀ {a b:List α},a.Nodup → (∀ x ∈ a,x ∈ b) → a.length ≤ b.length
 | [],b,_,_=>by simp
 | x :: a,b,h,hs=>by
  obtain ⟨h1,h2⟩:=List.nodup_cons.1 h
  obtain ⟨A,B,rfl⟩:=List.append_of_mem (hs x (List.mem_cons_self ..))
  have:=Zcq h2 (b:=A ++ B) fun y hy=>by
   have hne:y ≠ x:=fun e=>h1 (e ▸ hy)
   rcases List.mem_append.1 (hs y (List.mem_cons_of_mem _ hy)) with h3 | h3
   ·exact List.mem_append.2 (.inl h3)
   ·rcases List.mem_cons.1 h3 with h3 | h3
    ·exact absurd h3 hne
    ·exact List.mem_append.2 (.inr h3)
  simp only [List.length_append,List.length_cons] at this ⊢
  omega
theorem Zm1 {m:BI} {k k':ByteArray} {n:Int}:k' ∈ (setS m k n).map (·.1) ↔ k'=k ∨ k' ∈ m.map (·.1):=by
 unfold setS
 rw [List.map_cons,List.mem_cons]
 constructor
 ·rintro (h | h)
  ·exact .inl h
  ·obtain ⟨e,he,rfl⟩:=List.mem_map.1 h
   exact .inr (List.mem_map.2 ⟨e,(List.mem_filter.1 he).1,rfl⟩)
 ·rintro (h | h)
  ·exact .inl h
  ·by_cases hk:k'=k
   ·exact .inl hk
   ·obtain ⟨e,he,rfl⟩:=List.mem_map.1 h
    exact .inr (List.mem_map.2 ⟨e,List.mem_filter.2 ⟨he,by simpa using hk⟩,rfl⟩)
theorem Zhd {k:ByteArray}:∀ (l:List ByteArray) {m:BI},k ∈ (l.foldl bump m).map (·.1) ↔ k ∈ l ∨ k ∈ m.map (·.1)
 | [],m=>by simp
 | x :: l,m=>by
  rw [List.foldl_cons,Zhd l,List.mem_cons]
  unfold bump
  rw [Zm1]
  constructor
  ·rintro (h | h | h)
   ·exact .inl (.inr h)
   ·exact .inl (.inl h)
   ·exact .inr h
  ·rintro ((h | h) | h)
   ·exact .inr (.inl h)
   ·exact .inl h
   ·exact .inr (.inr h)
theorem Zg7 {k:ByteArray} {l:List ByteArray} (h:k ∈ l):1 ≤ cnt k l:=by
 unfold cnt
 exact List.length_pos_of_mem (List.mem_filter.2 ⟨h,by simp⟩)
theorem Zn5 {k:ByteArray} {l:List ByteArray} (h:1 ≤ cnt k l):k ∈ l:=by
 unfold cnt at h
 obtain ⟨x,hx⟩:=List.exists_mem_of_length_pos (show 0 < (l.filter fun x=>decide (x=k)).length by omega)
 obtain ⟨h1,h2⟩:=List.mem_filter.1 hx
 rw [← of_decide_eq_true h2];exact h1
theorem Zl2 {k:ByteArray} {l:List ByteArray} (h:l.Nodup):cnt k l ≤ 1:=by
 unfold cnt
 have hs:(l.filter fun x=>decide (x=k)).Nodup:=List.Nodup.sublist List.filter_sublist h
 have:=Zcq hs (b:=[k]) fun x hx=>by
  have:=(List.mem_filter.1 hx).2
  rw [of_decide_eq_true this];exact List.mem_singleton.2 rfl
 simpa using this
def Zki (j:Nat):Zc:={ Acts:=[{ Kind:=(8:Int),Key:=wd j,N:=(1:Int),X:=(0:Nat),S:=ByteArray.empty,Make:=(default:Zg),Must:=false }] }
def Zd3 (k:ByteArray):Zc:={ Acts:=[{ Kind:=(18:Int),Key:=k,N:=(0:Int),X:=(0:Nat),S:=(⟨#[97]⟩:ByteArray),Make:=(default:Zg),Must:=false }] }
theorem Zos (l:List Nat):Zdb (l.map Zki)=l.map wd:=by
 unfold Zdb
 induction l with
 | nil=>rfl
 | cons j l ih=>rw [List.map_cons,List.flatMap_cons,ih,List.map_cons];rfl
theorem Zoq (l:List ByteArray):Zdb (l.map Zd3)=l:=by
 unfold Zdb
 induction l with
 | nil=>rfl
 | cons j l ih=>rw [List.map_cons,List.flatMap_cons,ih];rfl
theorem Zlz (a b:List Zc):Zdb (a ++ b)=Zdb a ++ Zdb b:=by unfold Zdb;rw [List.flatMap_append]
section
variable {a0:Int} {N:Nat}
theorem Ziq (hN:Int.tmod (IntKind.i64.wrap a0) (400:Int)=(N:Int)) (hlt:N < 400):∀ (n i:Nat) (lot:Ze),i + n=N → lot.Deals.length + n ≤ 1000000 → Zx a0 (n + 1) lot (i:Int)=some { lot with Deals:=lot.Deals ++ (List.range' i n).map Zki }
 | 0,i,lot,hi,hl=>by
  rw [Zx,hN,if_neg (by simp;omega)];simp
 | n + 1,i,lot,hi,hl=>by
  rw [Zx,hN,if_pos (by simp;omega),Zjx (by omega),Option.bind_some,if_pos (by simp;omega),wr1 (by omega)]
  rw [Ziq hN hlt n (i + 1) _ (by omega) (by simp;omega)]
  congr 1
  simp only [Ze.mk.injEq,true_and]
  rw [List.append_assoc,List.range'_succ]
  rfl
def wdx (N:Nat) (e:Int):ByteArray:=wd (e.toNat % max N 1)
def addH (hot:List ByteArray) (k:ByteArray):List ByteArray:=if hot.any (fun x=>sEq x k)=true then hot else hot ++ [k]
theorem Ziv {hot:List ByteArray} {k:ByteArray} (hh:hot.length ≤ 1000000):∀ (n i:Nat) (b:Bool),i + n=hot.length → Zy hot k (n + 1) b (i:Int)=some (b || (hot.drop i).any fun x=>sEq x k)
 | 0,i,b,hi=>by
  rw [Zy,if_neg (by simp;omega),List.drop_of_length_le (by omega)];simp
 | n + 1,i,b,hi=>by
  have hil:i < hot.length:=by omega
  rw [Zy,if_pos (by simp;omega),Zgu hil,Option.bind_some,wr1 (by omega),Ziv hh n (i + 1) _ (by omega),List.drop_eq_getElem_cons hil,List.any_cons,Bool.or_assoc]
theorem Zh9 (hot:List ByteArray) (k:ByteArray):(addH hot k).length ≤ hot.length + 1:=by
 unfold addH
 split <;> simp
theorem Zia (hN:Int.tmod (IntKind.i64.wrap a0) (400:Int)=(N:Int)) (hlt:N < 400) {l:List Int} (hw:∀ e ∈ l,0 ≤ e ∧ e ≤ 65535) (hll:l.length ≤ 100000):∀ (n i:Nat) (lot:Ze) (hot:List ByteArray),i + n=l.length → lot.Deals.length + n ≤ 1000000 → hot.length + n ≤ 100000 → n ≤ 100000 →
  Zm a0 l (n + 1) lot hot (i:Int)=some ({ lot with Deals:=lot.Deals ++ ((l.drop i).map (wdx N)).map Zd3 },((l.drop i).map (wdx N)).foldl addH hot)
 | 0,i,lot,hot,hi,hl,hh,hn=>by
  rw [Zm,if_neg (by simp;omega),List.drop_of_length_le (by omega)];simp
 | n + 1,i,lot,hot,hi,hl,hh,hn=>by
  have hil:i < l.length:=by omega
  obtain ⟨h0,h1⟩:=hw _ (List.getElem_mem hil)
  have hmx:max (N:Int) (1:Int)=((max N 1:Nat):Int):=by omega
  have hM:0 < max N 1:=by omega
  have hmod:Int.tmod (IntKind.i64.wrap l[i]) ((max N 1:Nat):Int)=((l[i].toNat % max N 1:Nat):Int):=by
   rw [wr (by omega) (by omega),Int.tmod_eq_emod_of_nonneg h0]
   conv=>lhs;rw [← Int.toNat_of_nonneg h0]
   rw [Int.natCast_emod]
  have hlm:l[i].toNat % max N 1 < 400:=Nat.lt_of_lt_of_le (Nat.mod_lt _ hM) (by omega)
  rw [Zm,hN,if_pos (by simp;omega),Zgu hil,Option.bind_some,hmx,if_pos (by omega),hmod,Zjx hlm,Option.bind_some,if_pos (by simp;omega)]
  have h3:=Ziv (hot:=hot) (k:=wd (l[i].toNat % max N 1)) (by omega) hot.length 0 false (by omega)
  rw [show ((0:Nat):Int)=0 from rfl,List.drop_zero,Bool.false_or] at h3
  rw [show Int.toNat ((hot.length:Int) - (0:Int)) + 1=hot.length + 1 by omega,h3,Option.bind_some]
  unfold Zbg
  rw [wr1 (by omega)]
  have hdr:(l.drop i).map (wdx N)=wd (l[i].toNat % max N 1) :: (l.drop (i + 1)).map (wdx N):=by rw [List.drop_eq_getElem_cons hil];rfl
  rw [hdr,List.map_cons,List.foldl_cons]
  have hal:=Zh9 hot (wd (l[i].toNat % max N 1))
  have ih:=Zia hN hlt hw hll n (i + 1) { lot with Deals:=lot.Deals ++ [Zd3 (wd (l[i].toNat % max N 1))] } (addH hot (wd (l[i].toNat % max N 1))) (by omega) (by simp;omega) (by omega) (by omega)
  have hgoal:some (({ lot with Deals:=(lot.Deals ++ [Zd3 (wd (l[i].toNat % max N 1))]) ++ ((l.drop (i + 1)).map (wdx N)).map Zd3 }:Ze),((l.drop (i + 1)).map (wdx N)).foldl addH (addH hot (wd (l[i].toNat % max N 1))))=some (({ lot with Deals:=lot.Deals ++ Zd3 (wd (l[i].toNat % max N 1)) :: ((l.drop (i + 1)).map (wdx N)).map Zd3 }:Ze),((l.drop (i + 1)).map (wdx N)).foldl addH (addH hot (wd (l[i].toNat % max N 1)))):=by
   rw [List.append_assoc];rfl
  rw [← hgoal]
  refine Eq.trans ?_ ih
  unfold addH
  by_cases hq:(hot.any fun x=>sEq x (wd (l[i].toNat % max N 1)))=true
  ·simp only [hq,Bool.not_true,Bool.false_eq_true,if_false,if_true];rfl
  ·have hq':(hot.any fun x=>sEq x (wd (l[i].toNat % max N 1)))=false:=by simpa using hq
   simp only [hq',Bool.not_false,if_true,Bool.false_eq_true,if_false]
   rw [if_pos (by simp only [List.length_singleton];omega)];rfl
end
theorem Zmj {hot:List ByteArray} {k x:ByteArray}:x ∈ addH hot k ↔ x ∈ hot ∨ x=k:=by
 unfold addH
 split
 ·rename_i h
  obtain ⟨y,hy,he⟩:=List.any_eq_true.1 h
  have:=Ze0.1 he
  subst this
  exact ⟨.inl,fun h=>h.elim id (fun h=>h ▸ hy)⟩
 ·simp
theorem Zj5 {hot:List ByteArray} (h:hot.Nodup) (k:ByteArray):(addH hot k).Nodup:=by
 unfold addH
 split
 ·exact h
 ·rename_i hq
  refine List.nodup_append.2 ⟨h,by simp,fun a ha b hb=>?_⟩
  rw [List.mem_singleton.1 hb]
  exact fun e=>hq (List.any_eq_true.2 ⟨a,ha,Ze0.2 e⟩)
theorem Zjq {x:ByteArray}:∀ (l:List ByteArray) {hot:List ByteArray},x ∈ l.foldl addH hot ↔ x ∈ hot ∨ x ∈ l
 | [],hot=>by simp
 | k :: l,hot=>by
  rw [List.foldl_cons,Zjq l,Zmj,List.mem_cons]
  constructor
  ·rintro ((h | h) | h)
   ·exact .inl h
   ·exact .inr (.inl h)
   ·exact .inr (.inr h)
  ·rintro (h | h | h)
   ·exact .inl (.inl h)
   ·exact .inl (.inr h)
   ·exact .inr h
theorem Zhu:∀ (l:List ByteArray) {hot:List ByteArray},hot.Nodup → (l.foldl addH hot).Nodup
 | [],_,h=>h
 | k :: l,_,h=>Zhu l (Zj5 h k)
theorem Zjs:∀ (l:List ByteArray) (hot:List ByteArray),(l.foldl addH hot).length ≤ hot.length + l.length
 | [],_=>by simp
 | k :: l,hot=>by
  have h1:=Zjs l (addH hot k)
  have h2:=Zh9 hot k
  simp only [List.foldl_cons,List.length_cons];omega
theorem Zof {m:BI} {hot:List ByteArray} {k:ByteArray} (hk:(m.map (·.1)).Nodup) (hh:hot.length ≤ 255) (h2:∀ k,2 ≤ val m k → k ∈ hot) (hv:2 ≤ val m k):val (Zl m) k=val m k:=by
 by_cases ht:∃ e ∈ Zl m,e.1=k
 ·obtain ⟨e,he,rfl⟩:=ht
  rw [Zea (Zgh hk) he,Zea hk (Zg8 he)]
 ·exfalso
  obtain ⟨e,he,rfl⟩:∃ e ∈ m,e.1=k:=Classical.byContradiction fun hn=>by
   have:val m k=0:=by
    unfold val
    rw [Zdu fun e he heq=>hn ⟨e,he,heq⟩];rfl
   omega
  have hev:=Zea hk he
  obtain ⟨x,hx,hxe⟩:=List.mem_map.1 ((Zf5 m).mem_iff.2 he)
  have hs:=Zds (m.map Zi)
  rw [← List.take_append_drop 256 (Zq (m.map Zi))] at hx hs
  have hxd:x ∈ (Zq (m.map Zi)).drop 256:=(List.mem_append.1 hx).resolve_left fun h=>ht ⟨e,List.mem_map.2 ⟨x,h,hxe⟩,rfl⟩
  have hlen:256 < (Zq (m.map Zi)).length:=Nat.lt_of_not_le fun hle=>by
   rw [List.drop_of_length_le hle] at hxd;cases hxd
  have hpw:=(List.pairwise_append.1 hs).2.2
  have hall:∀ u ∈ Zl m,u.1 ∈ hot:=fun u hu=>by
   obtain ⟨y,hy,rfl⟩:=List.mem_map.1 hu
   refine h2 _ ?_
   have hyv:=Zea hk (Zg8 hu)
   have hn:=hpw y hy x hxd
   have h3:¬ y.Score < x.Score:=fun h=>hn (.inl h)
   have hxs:x.Score=e.2:=congrArg (·.2) hxe
   show 2 ≤ val m y.Key
   have hyv:val m y.Key=y.Score:=hyv
   rw [hyv];omega
  have h5:=Zcq (Zgh hk) (b:=hot) fun k hk'=>by
   obtain ⟨u,hu,rfl⟩:=List.mem_map.1 hk'
   exact hall u hu
  rw [List.length_map,Ze1] at h5
  have h6:(Zq (m.map Zi)).length=m.length:=by rw [(Zbp _).length_eq,List.length_map]
  omega
theorem Ziw {hot:List ByteArray} {h:Zs} (hh:hot.length ≤ 1000) (hv:∀ k ∈ hot,1 ≤ val h.by_ k):∀ (n i:Nat),i + n=hot.length → Zt hot (n + 1) h (i:Int)=some (.inr h)
 | 0,i,hi=>by rw [Zt,if_neg (by simp;omega)]
 | n + 1,i,hi=>by
  have hil:i < hot.length:=by omega
  have hs:Zbt h hot[i]=some (val h.by_ hot[i]):=rfl
  have:=hv _ (List.getElem_mem hil)
  rw [Zt,if_pos (by simp;omega),Zgu hil,Option.bind_some,hs,Option.bind_some,if_neg (by simp;omega),wr1 (by omega)]
  exact Ziw hh hv n (i + 1) (by omega)
theorem HeatMarks_true (a0:Int) (a1:List Int) (w0:(IntKind.u16).min ≤ a0 ∧ a0 ≤ (IntKind.u16).max) (w1:a1.length ≤ maxLen ∧ ∀ e0 ∈ a1,((IntKind.u16).min ≤ e0 ∧ e0 ≤ (IntKind.u16).max)):Zb5 a0 a1=some true:=by
 have hmin:(IntKind.u16).min=0:=by decide
 have hmax:(IntKind.u16).max=65535:=by decide
 rw [hmin,hmax] at w0 w1
 unfold Zb5
 rw [Zmz,Option.bind_some,if_neg (by decide)]
 by_cases hb:40 < a1.length
 ·rw [if_pos (by simp;omega)]
 ·rw [if_neg (by simp;omega)]
  obtain ⟨N,hN,hlt⟩:∃ N:Nat,Int.tmod (IntKind.i64.wrap a0) (400:Int)=(N:Int) ∧ N < 400:=by
   refine ⟨(a0 % 400).toNat,?_,by omega⟩
   rw [wr (by omega) (by omega),Int.tmod_eq_emod_of_nonneg w0.1];omega
  have e1:=Ziq hN hlt N 0 (default:Ze) (by omega) (by show 0 + N ≤ _;omega)
  rw [show ((0:Nat):Int)=0 from rfl] at e1
  rw [hN,show Int.toNat ((N:Int) - (0:Int)) + 1=N + 1 by omega,e1,Option.bind_some]
  let P:List Zc:=(List.range' 0 N).map Zki
  let W:List ByteArray:=a1.map (wdx N)
  have hPl:P.length=N:=by simp [P]
  have e2:=Zia hN hlt w1.2 (by omega) a1.length 0 { (default:Ze) with Deals:=([]:List Zc) ++ P } [] (by omega) (by simp [hPl];omega) (by simp;omega) (by omega)
  rw [show ((0:Nat):Int)=0 from rfl,List.drop_zero] at e2
  rw [show Int.toNat ((a1.length:Int) - (0:Int)) + 1=a1.length + 1 by omega]
  show (Zm a0 a1 (a1.length + 1) { (default:Ze) with Deals:=([]:List Zc) ++ P } [] (0:Int)).bind _=_
  rw [e2,Option.bind_some]
  let H:List ByteArray:=W.foldl addH []
  let L:List ByteArray:=(List.range' 0 N).map wd ++ W
  let lot:Ze:={ (default:Ze) with Deals:=(([]:List Zc) ++ P) ++ W.map Zd3 }
  let fin:BI:=L.foldl bump []
  have hL:Zc8 [] lot=fin:=by
   show (Zdb ((([]:List Zc) ++ P) ++ W.map Zd3)).foldl bump (Z4 [])=_
   rw [List.nil_append,Zlz,Zos,Zoq];rfl
  have hWl:W.length=a1.length:=by simp [W]
  have hLl:L.length=N + a1.length:=by simp [L,hWl]
  have hfl:fin.length ≤ 0 + L.length:=Zhi L []
  have e3:Z1 (⟨[]⟩:Zs) lot=some (⟨Zl fin⟩,()):=by
   rw [Zeg (by show (Zc8 [] lot).length ≤ _;rw [hL];omega)]
   show some ((⟨Zl (Zc8 [] lot)⟩:Zs),())=_
   rw [hL]
  have hkf:(fin.map (·.1)).Nodup:=Zgy L List.nodup_nil
  have hval:∀ k,val fin k=cnt k L:=fun k=>by
   have h0:val ([]:BI) k=0:=rfl
   have:=Zhv k L [] (by rw [h0];decide) (by rw [h0];omega)
   rw [h0,Int.zero_add] at this;exact this
  have hmem:∀ k,k ∈ fin.map (·.1) ↔ k ∈ L:=fun k=>by
   have:=Zhd (k:=k) L (m:=[])
   simpa using this
  have hHn:H.Nodup:=Zhu W List.nodup_nil
  have hHm:∀ k,k ∈ H ↔ k ∈ W:=fun k=>by
   have:=Zjq (x:=k) W (hot:=[])
   simpa using this
  have hHl:H.length ≤ 40:=by have h9:H.length ≤ 0 + W.length:=Zjs W [];omega
  have hrn:((List.range' 0 N).map wd).Nodup:=List.pairwise_map.2 (List.Pairwise.imp_of_mem (fun {a b} ha hb hne h=>by
   have h1:=List.mem_range'_1.1 ha
   have h2:=List.mem_range'_1.1 hb
   exact hne (Zo3 (by omega) (by omega) h)) List.nodup_range')
  have hrm:∀ k ∈ W,0 < N → k ∈ (List.range' 0 N).map wd:=fun k hk h0=>by
   obtain ⟨e,he,rfl⟩:=List.mem_map.1 hk
   refine List.mem_map.2 ⟨e.toNat % max N 1,List.mem_range'_1.2 ⟨Nat.zero_le _,?_⟩,rfl⟩
   have:max N 1=N:=by omega
   rw [this,Nat.zero_add];exact Nat.mod_lt _ h0
  have hlen:fin.length=max N H.length:=by
   have hfk:fin.length=(fin.map (·.1)).length:=by rw [List.length_map]
   rcases Nat.eq_zero_or_pos N with h0 | h0
   ·subst h0
    have hLW:L=W:=by simp [L]
    have h1:=Zcq hkf (b:=H) fun k hk=>(hHm k).2 (by rw [← hLW];exact (hmem k).1 hk)
    have h2:=Zcq hHn (b:=fin.map (·.1)) fun k hk=>(hmem k).2 (by rw [hLW];exact (hHm k).1 hk)
    omega
   ·have h1:=Zcq hkf (b:=(List.range' 0 N).map wd) fun k hk=>by
     rcases List.mem_append.1 ((hmem k).1 hk) with h | h
     ·exact h
     ·exact hrm k h h0
    have h2:=Zcq hrn (b:=fin.map (·.1)) fun k hk=>(hmem k).2 (List.mem_append.2 (.inl hk))
    have h3:=Zcq hHn (b:=(List.range' 0 N).map wd) fun k hk=>hrm k ((hHm k).1 hk) h0
    simp only [List.length_map,List.length_range'] at h1 h2 h3
    omega
  have hhot:∀ k ∈ H,1 ≤ val (Zl fin) k:=fun k hk=>by
   have hkW:=(hHm k).1 hk
   have hkL:k ∈ L:=List.mem_append.2 (.inr hkW)
   have hc1:(1:Int) ≤ val fin k:=by rw [hval];have:=Zg7 hkL;omega
   rcases Nat.eq_zero_or_pos N with h0 | h0
   ·rcases Zoa hkf k with ht | ⟨_,ht⟩
    ·rw [ht];exact hc1
    ·rw [Ze1,hlen,h0] at ht;omega
   ·have hc2:(2:Int) ≤ val fin k:=by
     rw [hval]
     have h1:=Zg7 (hrm k hkW h0)
     have h2:=Zg7 hkW
     have h3:cnt k L=cnt k ((List.range' 0 N).map wd) + cnt k W:=Zj0 ..
     omega
    rw [Zof (hot:=H) hkf (by omega) (fun k' hk'=>?_) hc2]
    ·exact hc1
    ·rw [hval] at hk'
     have h3:cnt k' L=cnt k' ((List.range' 0 N).map wd) + cnt k' W:=Zj0 ..
     have h4:=Zl2 (k:=k') hrn
     exact (hHm k').2 (Zn5 (by omega))
  have e4:=Ziw (h:=⟨Zl fin⟩) (hot:=H) (by omega) hhot H.length 0 (by omega)
  rw [show ((0:Nat):Int)=0 from rfl] at e4
  show (Z1 (⟨[]⟩:Zs) lot).bind _=_
  rw [e3,Option.bind_some]
  show (Zt H (Int.toNat ((H.length:Int) - (0:Int)) + 1) ⟨Zl fin⟩ (0:Int)).bind _=_
  rw [show Int.toNat ((H.length:Int) - (0:Int)) + 1=H.length + 1 by omega,e4,Option.bind_some]
  have hln:Zbv ⟨Zl fin⟩=some ((Zl fin).length:Int):=rfl
  show (Zbv ⟨Zl fin⟩).bind _=_
  rw [hln,Option.bind_some]
  have heq:(((Zl fin).length:Int) == (min (max (N:Int) (H.length:Int)) (256:Int)))=true:=by
   rw [Ze1,hlen,beq_iff_eq];omega
  show (gd (((Zl fin).length:Int) == (min (max (N:Int) (H.length:Int)) (256:Int))) (Zv ⟨Zl fin⟩)).bind _=_
  rw [heq,gd_t]
  have hal:Zv ⟨Zl fin⟩=some (Zq ((Zl fin).map Zi)):=by
   unfold Zv
   rw [if_pos (by show (Zl fin).length * 24 ≤ _;rw [Ze1];omega)]
  rw [hal,Option.bind_some]
  simp only [gd_t,Option.bind_some]
  have:(((Zq ((Zl fin).map Zi)).length:Int) == ((Zl fin).length:Int))=true:=by
   rw [(Zbp _).length_eq,List.length_map];exact beq_self_eq_true _
  rw [this];rfl
end Go.CL
namespace Go.CL
open Go Go.RowKit Go.Proofs Go.ChangeShapes Go.WideShapes Go.ChangeAt
theorem Zmx:ownKnob Tryd.prog.godebug=none:=by kernel_rfl
theorem Zhc:laidOutB Tryd.prog=true:=by kernel_rfl
theorem Zna:Opn Tryd.prog 43 (Kd.int .u16) (fun x=>((IntKind.u16).min ≤ x ∧ x ≤ (IntKind.u16).max)):=Zod Tryd.underlying43 (by kernel_rfl)
theorem Zpc:Opn Tryd.prog 44 (Kd.int .u16).sl (fun x=>(x.length ≤ maxLen ∧ ∀ e0 ∈ x,((IntKind.u16).min ≤ e0 ∧ e0 ≤ (IntKind.u16).max))):=Zo2 Tryd.underlying44 (by kernel_rfl) Zna (by decide)
theorem Zm8:Det Tryd.prog 9:=Znu Tryd.underlying9
theorem Zpu:Det Tryd.prog 3:=Zoj Tryd.underlying3
theorem Zo5:Det Tryd.prog 74:=Zkc Tryd.underlying74 (fun i f h=>match i,f,h with
 | 0,_,h=>by obtain rfl:=Option.some.inj h;exact Zm8
 | 1,_,h=>by obtain rfl:=Option.some.inj h;exact Zpu
 | 2,_,h=>by obtain rfl:=Option.some.inj h;exact Zm8
 | _ + 3,_,h=>by cases h) (by kernel_rfl)
theorem Zov:Det Tryd.prog 84:=Zno Tryd.underlying84 Zo5 (by kernel_rfl)
theorem HeatMarks_met (os : Os) (args : Array Value) : laidMetH Tryd.prog [("moiety/act.kinds", Go.Proofs.YtbbmlejgoepmfaaDoor.Rows.laid_moiety_act_kinds)] ((World.doorLaid Tryd.prog 400 os).forCall (fun _ _ => 0) ⟨#[], args, []⟩).memory :=
 laidMetH_of_parts3 (fuel:=8) (laidMet_of_run' 8 (by kernel_rfl) (by kernel_rfl)) (by kernel_rfl) (by kernel_rfl)
theorem HeatMarks_gl {W : World} (h : laidMetH Tryd.prog [("moiety/act.kinds", Go.Proofs.YtbbmlejgoepmfaaDoor.Rows.laid_moiety_act_kinds)] W) : GLok W (fun b _ => b < W.heap.size) := by
 have g0 := Zl5 (P := Tryd.prog) (nm := "moiety/act.kinds") (d := Go.Proofs.YtbbmlejgoepmfaaDoor.Rows.laid_moiety_act_kinds) (g := 0) (t := 84) (W := W) (w0 := W) (cells := [.string ⟨#[]⟩, .int .i64 (0), .string ⟨#[]⟩, .string ⟨#[110, 101, 119]⟩, .int .i64 (0), .string ⟨#[109]⟩, .string ⟨#[100, 114, 111, 112]⟩, .int .i64 (0), .string ⟨#[]⟩, .string ⟨#[105, 115]⟩, .int .i64 (0), .string ⟨#[]⟩, .string ⟨#[108, 111, 111, 107]⟩, .int .i64 (0), .string ⟨#[]⟩, .string ⟨#[112, 117, 116]⟩, .int .i64 (1), .string ⟨#[115]⟩, .string ⟨#[115, 119, 97, 112]⟩, .int .i64 (1), .string ⟨#[115]⟩, .string ⟨#[97, 100, 100]⟩, .int .i64 (2), .string ⟨#[110]⟩, .string ⟨#[112, 108, 117, 115]⟩, .int .i64 (3), .string ⟨#[110]⟩, .string ⟨#[114, 101, 97, 99, 104]⟩, .int .i64 (3), .string ⟨#[110]⟩, .string ⟨#[105, 110]⟩, .int .i64 (4), .string ⟨#[110]⟩, .string ⟨#[111, 117, 116]⟩, .int .i64 (4), .string ⟨#[110]⟩, .string ⟨#[101, 110, 111, 117, 103, 104]⟩, .int .i64 (4), .string ⟨#[110]⟩, .string ⟨#[114, 97, 105, 115, 101]⟩, .int .i64 (5), .string ⟨#[120]⟩, .string ⟨#[108, 111, 119, 101, 114]⟩, .int .i64 (6), .string ⟨#[120]⟩, .string ⟨#[115, 104, 105, 102, 116]⟩, .int .i64 (7), .string ⟨#[120]⟩, .string ⟨#[115, 99, 97, 108, 101]⟩, .int .i64 (7), .string ⟨#[120]⟩, .string ⟨#[102, 105, 120]⟩, .int .i64 (7), .string ⟨#[120]⟩, .string ⟨#[106, 111, 105, 110]⟩, .int .i64 (8), .string ⟨#[115]⟩, .string ⟨#[108, 101, 97, 118, 101]⟩, .int .i64 (8), .string ⟨#[115]⟩, .string ⟨#[104, 97, 115]⟩, .int .i64 (8), .string ⟨#[115]⟩, .string ⟨#[111, 102, 102, 101, 114]⟩, .int .i64 (9), .string ⟨#[120, 115]⟩]) (fu := 8) (by kernel_rfl) (by kernel_rfl) Zov (by kernel_rfl) (by kernel_rfl) h
 intro e he i v hv
 rcases List.mem_cons.1 he with rfl | he
 ·exact ⟨(Zfz (g0 i v hv)).2,g0 i v hv⟩
 cases he
theorem HeatMarks_ret (os:Os) (started:os.Started) (H:Type) (enc:TypeId × Value → H) :
  ReturnsInHanded {} Tryd.checked os 5 .any (fun w args => (Go.Proofs.YtbbmlejgoepmfaaDoor.Rows.heatMarksSpec.pre enc Tryd.prog Tryd.f5 [] false w args ∧ laidMetH Tryd.prog [("moiety/act.kinds", Go.Proofs.YtbbmlejgoepmfaaDoor.Rows.laid_moiety_act_kinds)] w) ∧ sizedMet enc Tryd.prog Tryd.f5 (OpenSpec.ofChange Go.Proofs.YtbbmlejgoepmfaaDoor.Rows.heatMarksSpec) false w args) (Go.Proofs.YtbbmlejgoepmfaaDoor.Rows.heatMarksSpec.post enc Tryd.prog Tryd.f5 false true false false) := by
 refine returnsInHanded_of_change_and (C := Tryd.checked) (X := fun w _ => laidMetH Tryd.prog [("moiety/act.kinds", Go.Proofs.YtbbmlejgoepmfaaDoor.Rows.laid_moiety_act_kinds)] w) (fun _ _ _ hh h => h.of_heap hh) Zmx started (by kernel_rfl) Tryd.func5
  (ChangeSpec.witness_shaped (enc := enc) (C := Tryd.checked) (os := os) (X := fun w _ => laidMetH Tryd.prog [("moiety/act.kinds", Go.Proofs.YtbbmlejgoepmfaaDoor.Rows.laid_moiety_act_kinds)] w) false (World.doorLaid Tryd.prog 400 os) #[.int .u16 0, .slice none 0 0] 8 rfl (World.shaped_of_RefB (by kernel_rfl) (by kernel_rfl)) (by kernel_rfl) (by kernel_rfl) (by kernel_rfl) (HeatMarks_met os _)) ?_
 intro W base args ds gs before hval0 hW hcnd _ hL _
 have hval:∀ (j:Nat) t v,Tryd.f5.params[j]?=some t → args[j]?=some v → Value.okWide Tryd.prog W .any base t v:=hval0
 have hW':=hW
 obtain ⟨p,q,hA0,hV,rfl,hfz,hnd⟩:=hW
 have hA:DataW.TrodAll enc Tryd.prog W 0 (fun _=>true) true Tryd.f5.params.toList args.toList ds p:=hA0
 rw [Tryd.params5] at hA hval
 obtain ⟨v0,v1,d0,d1,p0,p1,rfl,rfl,rfl,h0,h1⟩:=trodAll_two hA
 obtain ⟨rfl,rfl⟩:=trodVars_none hV
 simp only [List.append_nil] at hW'
 have hg:GLok W (fun b _=>b < W.heap.size):=(HeatMarks_gl hL)
 have hk0:=h0
 obtain ⟨a0,q0,w0⟩:=Zl4 Zna hg h0 (hval 0 43 v0 rfl rfl)
 have hk1:=h1
 obtain ⟨a1,q1,w1⟩:=Zl4 Zpc hg h1 (hval 1 44 v1 rfl rfl)
 refine (Zem a0 a1 (HeatMarks_true a0 a1 w0 w1) (GW W hg) [v0,v1] (Zcc q0 (Zcc q1 Zdg))).mono fun e W' ⟨g',v,he,hw,hs,hq⟩=>?_
 subst he;subst hw
 rw [Zb2.1 hq]
 have hbel:=Zm0 hs
 have hlt:∀ x ∈ (p0 ++ p1),x.block < W.heap.size:=fun x hx=>by simpa using hW'.lt x hx
 exact ⟨_,rfl,Zhw (pv:=[]) hW' hbel (trodAll_mk1 (shut_bool Tryd.underlying4 true)) (trodAll_mk2 (Below.trod Zhc (by kernel_rfl) (of_decide_eq_true (by kernel_rfl)) hk0 hbel (fun x hx=>hlt x (by simp [hx]))) (Below.trod Zhc (by kernel_rfl) (of_decide_eq_true (by kernel_rfl)) hk1 hbel (fun x hx=>hlt x (by simp [hx])))) rfl⟩
theorem HeatMarks_holds:Go.Proofs.YtbbmlejgoepmfaaDoor.Rows.HeatMarksSaid :=
 OpenClaim.holds_of_wide 5 Tryd.f5 rfl rfl rfl rfl rfl rfl rfl ⟨rfl,rfl,rfl,rfl,rfl⟩ rfl rfl rfl rfl rfl (by kernel_rfl) Tryd.func5 (by kernel_rfl)
  (of_decide_eq_true (by kernel_rfl)) (by unfold Func.isWrapper;first | (rw [if_pos (by decide +kernel)];kernel_rfl) | (rw [if_neg (by decide +kernel)];exact ⟨rfl,rfl⟩))
  (fun os started H enc _=>HeatMarks_ret os started H enc)
theorem HeatMarks_card:Go.Proofs.YtbbmlejgoepmfaaDoor.Rows.HeatMarksCardSaid :=
 Claim7.holds_tied_plain_at .later [] [.data] true (true, "0f385618a5a781f486d398e3341a6d17e16545868650a458dabb3384b4aaa6c1") true
  HeatMarks_holds (fun _ h=>by cases h) (by kernel_rfl) (fun _ h=>by cases h) Go.Proofs.YtbbmlejgoepmfaaDoor.heatMarks_row_tie rfl ⟨rfl,rfl⟩ (by kernel_rfl) rfl
  (fun f fn hf hfn=>by
   obtain rfl : f = 5 := Option.some.inj ((show Tryd.prog.funcNamed "moiety/moietylaw12.HeatMarks" = some 5 by kernel_rfl).symm.trans hf) |>.symm
   obtain rfl:fn=Tryd.f5:=(Option.some.inj (Tryd.func5.symm.trans hfn)).symm
   exact ⟨by kernel_rfl,fun j t ht=>by
    rw [Tryd.params5] at ht
    have hm:t ∈ [43,44]:=by simpa using Array.mem_of_getElem? ht
    have hall:(([43,44]:List TypeId).all fun u=>!Tryd.prog.wantsStandIn u)=true:=by kernel_rfl
    exact (show Tryd.prog.wantsStandIn t=false by simpa using List.all_eq_true.1 hall t hm)⟩)
  (by kernel_rfl)
end Go.CL
