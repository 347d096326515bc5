/- A part of the proof of HeatNotes. -/
import Derived.Test.YtbbmlejgoepmfaaDoorHeatNotesC2
import Derived.Test.YtbbmlejgoepmfaaDoorRows
import Derived.Test.YtbbmlejgoepmfaaDoorCards
import Derived.Test.YtbbmlejgoepmfaaDoorTie
import Derived.SevenTiedAt
set_option linter.unusedVariables false
set_option linter.unusedSimpArgs false
set_option maxRecDepth 100000
namespace Go.CL
open Go Go.RowKit Go.Proofs
theorem Zhh (a0:Zl):Zkh Tryd.prog 15 [(Z1.ptr a0)] Zw a0:=by
 refine Zn2 (N:=10) Tryd.func15 rfl rfl (Qe rfl) rfl (fun a g0 h0 hst hb=>?_)
 replace hst:St 10 [(0,(Z1.ptr a0))] a g0:=hst
 refine r_s (T:=[⟨[],_,[],[],[2]⟩]) (F:=[.o 0]) hst hb Zb
  (o_p rfl (Zpc (.inr rfl))<|o_n) (fun a g hst hb=>?_)
 refine r_s (T:=[⟨[.o 0],_,[],[],[3]⟩,⟨[.p 0 0],_,[],[0],[4]⟩,⟨[.p 1 0],_,[],[0,1],[5]⟩,⟨[.p 2 0],_,[],[0,1,2],[6]⟩,⟨[.p 3 0],[(7,(Zfd 7 a0.by_))],[8],Lr 4,[7]⟩,⟨[.p 4 0],_,[],Lr 5,[8]⟩,⟨[.p 5 0],[(9,(Zis 9 7 a0.by_))],[10],Lr 6,[9]⟩,⟨[.p 6 0],_,[],Lr 7,[2]⟩]) (F:=[.p 7 0]) hst hb Zb
  (Qm rfl u_0<|o_p rfl (Zd2 rfl rfl u_0 (fun _ _ ⟨_,_,_,e,_⟩=>⟨_,e⟩))<|Qf rfl Zf5 u_0<|Ql rfl Zhs u_0<|o_p rfl (Zj6 Zmv rfl Zr5 rfl rfl u_0)<|o_p rfl (Znm Tryd.underlying27 (by kernel_rfl) (by kernel_rfl) rfl rfl u_0)<|o_p rfl (Zpt (by decide) rfl rfl u_0)<|Qa rfl u_0<|o_n) (fun a g hst hb=>?_)
 refine wp_ret ?_
 exact Zr1 rfl hst hb (Zi (s:=2)) (by decide) (hst.at 0 rfl)
theorem Zfz {r:Bool} (h:Zcs=some r):FnOk Tryd.prog 7 [] (Zn r):=by
 have H0:=h
 unfold Zcs at H0
 clear h
 refine Zcd (N:=47) Tryd.func7 rfl rfl (Qe rfl) rfl rfl (fun a g0 hst hb=>?_)
 refine r_s (T:=[⟨[],_,[],[],[0]⟩]) (F:=[]) hst hb Zb
  (Qa rfl c_b<|o_n) (fun a g hst hb=>?_)
 refine r_s (T:=[⟨[],_,[],[],[5]⟩,⟨[],[(1,(pBox Zy 1 (default:Zo)))],[2],[],[1]⟩,⟨[.p 0 0,.p 1 0],_,[2],[0,1],[1]⟩]) (F:=[.p 2 0]) hst hb Zb
  (o_p rfl (Zkw rfl rfl c_i c_s c_i)<|o_p rfl (Zc4 (zs:=[.int .i64 0,.string ByteArray.empty,.int .i64 0,.float .f64 0,.string ByteArray.empty,.int .i64 0,.int .i64 0,.int .i64 0,.int .i64 0,.float .f64 0,.int .i64 0,.string ByteArray.empty,.slice none 0 0,.bool false]) (by kernel_rfl) (fun g=>Zfc g) rfl rfl)<|o_p rfl (Zcv Zem rfl rfl u_1 u_0)<|o_n) (fun a g hst hb=>?_)
 refine r_s (T:=[⟨[],[(2,(Z8 none Zw 2 (⟨[]⟩:Zl)))],[3,1000003],[],[2]⟩]) (F:=[.o 0,.p 0 0]) hst hb Zb
  (o_p rfl (Zjt (by kernel_rfl) rfl rfl)<|o_n) (fun a g hst hb=>?_)
 obtain ⟨r1,h2,H0⟩:=Zd H0
 refine r_s (T:=[⟨[.o 0],_,[],[],[6]⟩,⟨[.o 0],_,[],[],[7]⟩,⟨[.p 0 0,.p 1 0],_,[],[0,1],[8]⟩,⟨[.p 2 0],_,[],[0,1,2],[9]⟩,⟨[.o 0],_,[],[],[10]⟩,⟨[.p 4 0],_,[],[4],[11]⟩,⟨[.p 5 0],_,[],[4,5],[12]⟩,⟨[.p 3 0,.p 6 0],_,[],Lr 7,[13]⟩,⟨[.p 7 0],_,[],Lr 8,[14]⟩,⟨[.o 1,.p 8 0],[(15,(pTup [])),(2,(Z8 none Zw 2 r1.1))],[3,1000003],Lr 9,[2,15]⟩]) (F:=[.p 9 1]) hst hb Zb
  (Ql rfl Zem u_0<|Ql rfl Zem u_0<|o_p rfl (Zen Zpj (xs:=[.tmp 6,.tmp 7]) (.cons u_0 (.cons u_1 .nil)) (by decide) rfl rfl)<|o_p rfl (Zld rfl rfl u_0)<|Ql rfl Zem u_0<|o_p rfl (Zen Zpj (xs:=[.tmp 10]) (.cons u_0 .nil) (by decide) rfl rfl)<|o_p rfl (Zld rfl rfl u_0)<|o_p rfl (Zen Zrk (xs:=[.tmp 9,.tmp 12]) (.cons u_0 (.cons u_1 .nil)) (by decide) rfl rfl)<|o_p rfl (Zqk rfl rfl u_0)<|o_p rfl (Zb8 en_9 (Zeg _ _ h2) rfl rfl rfl (by decide) u_0 u_0 (.cons u_1 .nil))<|o_n) (fun a g hst hb=>?_)
 refine r_s (T:=[⟨[.o 0],[(16,(Z8 none Zw 16 r1.1))],[17,1000017],[],[16]⟩,⟨[.p 0 0],[(3,(Z8 none Zw 16 r1.1))],[],[0],[3]⟩]) (F:=[.o 0,.p 1 0]) hst hb Zb
  (o_p rfl (Znq Zrg (Zhh _) rfl rfl u_0)<|Qa rfl u_0<|o_n) (fun a g hst hb=>?_)
 obtain ⟨r3,h4,H0⟩:=Zd H0
 refine r_s (T:=[⟨[],_,[],[],[17]⟩,⟨[.o 0,.p 0 0],[(18,(pTup [])),(2,(Z8 none Zw 2 r3.1))],[3,1000003],[0],[2,18]⟩]) (F:=[.p 1 1,.o 1]) hst hb Zb
  (o_p rfl (Zqu rfl rfl )<|o_p rfl (Zb8 en_9 (Zeg _ _ h4) rfl rfl rfl (by decide) u_0 u_0 (.cons u_1 .nil))<|o_n) (fun a g hst hb=>?_)
 obtain ⟨r5,h6,H0⟩:=Zd H0
 refine r_s (T:=[⟨[.o 0],[(19,(Zk.sl.pd r5)),(2,(Z8 none Zw 2 r3.1))],[3,1000003],[],[2,19]⟩,⟨[.p 0 0],_,[],[0],[4]⟩]) (F:=[.p 0 1,.o 1,.p 1 0]) hst hb Zb
  (o_p rfl (Zb8 Zl8 (Zfl _ h6) rfl rfl rfl (by decide) u_0 u_0 .nil)<|Qa rfl u_0<|o_n) (fun a g hst hb=>?_)
 obtain ⟨r7,h8,H0⟩:=Zd H0;obtain ⟨r9,h10,H0⟩:=Zd H0;obtain ⟨r11,h12,H0⟩:=Zd H0;obtain ⟨e13,h14,H0⟩:=Zd H0
 refine r_s (T:=⟨[.o 1],[(20,(Z8 none Zw 16 r1.1))],[],[],[20]⟩ :: ⟨[.p 0 0],_,[],[0],[21]⟩ :: ⟨[.p 1 0],_,[],[0,1],[22]⟩ :: ⟨[.p 2 0,.o 1],[(23,(pIf (!false) (Z8 none Zw 16 r1.1)))],[],[0,1,2],[23]⟩ :: ⟨[.p 2 0,.p 3 0,.o 1],[(24,(pIf (!false) (pInt .i64 r7))),(3,(Z8 none Zw 16 r1.1))],[17,1000017],Lr 4,[3,20,23,24]⟩ :: ⟨[.p 2 0,.p 4 0],_,[],Lr 5,[25]⟩ :: ⟨[.p 2 0,.p 5 0],_,[],Lr 6,[26]⟩ :: ⟨[.p 6 0],_,[],Lr 7,[27]⟩ :: ⟨[.p 7 0,.o 0],[(28,(pIf ((!false) && (r7 == (3:Int))) (pInt .i64 r9))),(2,(Z8 none Zw 2 r3.1))],[3,1000003],Lr 8,[2,28]⟩ :: ⟨[.p 7 0,.p 8 0],_,[],Lr 9,[29]⟩ :: ⟨[.p 7 0,.p 9 0],_,[],Lr 10,[30]⟩ :: ⟨[.p 10 0],_,[],Lr 11,[31]⟩ :: ⟨[.p 11 0,.p 8 1],[(32,(pIf (((!false) && (r7 == (3:Int))) && (r9 == (1:Int))) (pInt .i64 r11))),(2,(Z8 none Zw 2 r3.1))],[3,1000003],Lr 12,[2,32]⟩ :: ⟨[.p 11 0,.p 12 0],_,[],Lr 13,[33]⟩ :: ⟨[.p 11 0,.p 13 0],_,[],Lr 14,[34]⟩ :: ⟨[.p 14 0],_,[],Lr 15,[35]⟩ :: ⟨[.p 15 0,.o 2],_,[],Lr 16,[36]⟩ :: ⟨[.p 15 0,.p 16 0],_,[],Lr 17,[37]⟩ :: ⟨[.p 15 0,.p 17 0],_,[],Lr 18,[38]⟩ :: ⟨[.p 15 0,.p 18 0],_,[],Lr 19,[39]⟩ :: ⟨[.p 19 0],_,[],Lr 20,[40]⟩ :: ⟨[.p 20 0,.o 2],_,[],Lr 21,[41]⟩ :: ⟨[.p 20 0,.p 21 0],_,[],Lr 22,[42]⟩ :: ⟨[.p 20 0,.p 22 0],_,[],Lr 23,[43]⟩ :: ⟨[.p 20 0],_,[],Lr 21,[44]⟩ :: ⟨[.p 20 0,.p 23 0,.p 24 0],_,[],Lr 25,[45]⟩ :: ⟨[.p 20 0,.p 25 0],_,[],Lr 26,[46]⟩ :: ⟨[.p 26 0],_,[],Lr 27,[0]⟩ :: []) (F:=[.p 27 0]) hst hb Zb
  (Qm rfl u_0<|o_p rfl (Zq6 Tryd.underlying35 rfl rfl u_0 Zox)<|Qm rfl u_0<|o_g (Qg_t rfl (fun hG=>Zbk rfl rfl u_0))<|o_g (OT.guardMR (!false) (gT (!false)).1 (gT (!false)).2 rfl rfl rfl (by decide) u_1 (fun hG=>Zb8 Zj3 (Zdl _ _ (Zc0 h8 hG)) rfl rfl rfl (by decide) u_1 (Opd.gd hG u_0) (.cons c_s .nil)) (ite_self _).symm)<|o_g (Qg_t rfl (fun hG=>Zcm rfl rfl (Opd.gd hG u_0) c_i))<|o_p rfl (Zeu rfl rfl u_0 (fun hz=>(Opd.gd hz u_1)))<|Qm rfl u_0<|o_g (OT.guardMR ((!false) && (r7 == (3:Int))) (gT ((!false) && (r7 == (3:Int)))).1 (gT ((!false) && (r7 == (3:Int)))).2 rfl rfl rfl (by decide) u_0 (fun hG=>Zb8 Zj3 (Zdl _ _ (Zc0 h10 hG)) rfl rfl rfl (by decide) u_0 u_0 (.cons c_s .nil)) (ite_self _).symm)<|o_g (Qg_t rfl (fun hG=>Zcm rfl rfl (Opd.gd hG u_0) c_i))<|o_p rfl (Zeu rfl rfl u_0 (fun hz=>(Opd.gd hz u_1)))<|Qm rfl u_0<|o_g (OT.guardMR (((!false) && (r7 == (3:Int))) && (r9 == (1:Int))) (gT (((!false) && (r7 == (3:Int))) && (r9 == (1:Int)))).1 (gT (((!false) && (r7 == (3:Int))) && (r9 == (1:Int)))).2 rfl rfl rfl (by decide) u_0 (fun hG=>Zb8 Zl9 (Zeh _ (Zc0 h12 hG)) rfl rfl rfl (by decide) u_0 u_0 .nil) (ite_self _).symm)<|o_g (Qg_t rfl (fun hG=>Zcm rfl rfl (Opd.gd hG u_0) c_i))<|o_p rfl (Zeu rfl rfl u_0 (fun hz=>(Opd.gd hz u_1)))<|Qm rfl u_0<|o_g (Qg_t rfl (fun hG=>Zbk rfl rfl u_0))<|o_g (Qg_t rfl (fun hG=>Zbl Tryd.underlying41 rfl rfl (Opd.gd hG u_0)))<|o_g (Qg_t rfl (fun hG=>Zcm rfl rfl (Opd.gd hG u_0) c_i))<|o_p rfl (Zeu rfl rfl u_0 (fun hz=>(Opd.gd hz u_1)))<|Qm rfl u_0<|o_g (Qg_t rfl (fun hG=>Zbk rfl rfl u_0))<|o_g (Qg_t rfl (fun hG=>Zq Tryd.underlying41 Zit rfl rfl (Opd.gd hG u_0) c_i (Zc0 h14 hG)))<|o_g (Qg_t rfl (fun hG=>Zcq Zl2 rfl rfl (Opd.gd hG u_0)))<|o_g (Qg_t rfl (fun hG=>Zjo rfl rfl c_s c_i))<|o_g (Qg_t rfl (fun hG=>Zqa rfl Zpf Tryd.underlying58 (by kernel_rfl) (by kernel_rfl) Zq7 rfl rfl (Opd.gd hG u_0) (Opd.gd hG u_1)))<|o_p rfl (Zeu rfl rfl u_0 (fun hz=>(Opd.gd hz u_1)))<|Qa rfl u_0<|o_n) (fun a g hst hb=>?_)
 refine wp_ret ?_
 obtain rfl:=Option.some.inj H0
 exact Zx rfl hst hb (Zi (s:=0)) (hst.at 0 rfl)
theorem Zg8 (a0:Zu) {r:Int} (h:Zcy a0=some r):FnOk Tryd.prog 48 [(Zcc.pd a0)] (pInt .i64 r):=by
 have H0:=h
 unfold Zcy at H0
 clear h
 refine Zcd (N:=27) Tryd.func48 rfl rfl (Qe rfl) rfl rfl (fun a g0 hst hb=>?_)
 refine r_s (T:=[⟨[.o 0],_,[],[],[1]⟩,⟨[],_,[],[],[2]⟩]) (F:=[.p 0 0]) hst hb Zb
  (Qb rfl u_0<|Qa rfl c_i<|o_n) (fun a g hst hb=>?_)
 refine wp_seq ?_
 refine r_s (T:=[⟨[.o 0],_,[],[],[5]⟩,⟨[.p 0 0],_,[],[0],[6]⟩,⟨[.p 1 0],_,[],[0,1],[7]⟩,⟨[.p 2 0],_,[],[0,1,2],[8]⟩,⟨[.p 3 0],_,[],Lr 4,[9]⟩,⟨[.p 4 0,.o 0],_,[],Lr 5,[10]⟩,⟨[.p 4 0,.p 5 0],_,[],Lr 6,[11]⟩,⟨[.p 4 0,.p 6 0],_,[],Lr 7,[12]⟩,⟨[.p 4 0,.p 7 0],_,[],Lr 8,[13]⟩,⟨[.p 4 0,.p 8 0],_,[],Lr 9,[14]⟩]) (F:=[.o 0,.p 9 0]) hst hb Zb
  (Qf rfl Zlr u_0<|Ql rfl Zph u_0<|o_p rfl (Zbl Tryd.underlying47 rfl rfl u_0)<|o_p rfl (Zdi rfl rfl u_0 c_i)<|Qm rfl u_0<|o_g (Qg_f rfl (fun hG=>Zbv Zqo rfl rfl u_0))<|o_g (Qg_f rfl (fun hG=>Zcq ty_9 rfl rfl (Opd.gd hG u_0)))<|o_g (Qg_f rfl (fun hG=>Zhp Tryd.underlying9 rfl rfl (Opd.gd hG u_0)))<|o_g (Qg_f rfl (fun hG=>Zdi rfl rfl (Opd.gd hG u_0) c_i))<|o_p rfl (Zcw rfl rfl u_0 (fun hz=>(Opd.gd (bNF hz) u_1)))<|o_n) (fun a g hst hb=>?_)
 refine wp_cond_split (hst.bool 1 rfl) (fun hc1=>?_) (fun hc1=>?_)
 ·replace H0:=Zt hc1 H0
  refine r_s (L:=[]) (T:=[⟨[],_,[],[],[2]⟩]) (F:=[.p 0 0]) (hst.pick [] rfl) hb Zb
   (Qa rfl c_i<|o_n) (fun a g hst hb=>?_)
  refine wp_ret ?_
  refine Zm ?_
  obtain rfl:=Option.some.inj H0
  exact Zx rfl hst hb (Zi (s:=2)) (hst.at 0 rfl)
 ·replace H0:=Zs hc1 H0
  refine wp_skip ?_
  refine Zg ?_
  refine wp_seq ?_
  refine r_s (L:=[(1,_)]) (T:=[⟨[.o 0],_,[],[],[15]⟩,⟨[.p 0 0],_,[],[0],[16]⟩,⟨[.p 1 0],_,[],[0,1],[17]⟩,⟨[],_,[],[],[18]⟩]) (F:=[.p 1 0,.p 2 0,.p 3 0]) (hst.pick [0] rfl) hb Zb
   (Qf rfl Zlr u_0<|Ql rfl Zph u_0<|o_p rfl (Zbl Tryd.underlying47 rfl rfl u_0)<|Qm rfl c_i<|o_n) (fun a g hst hb=>?_)
  obtain ⟨z7,hz1,H0⟩:=Zd H0
  refine Zb1 (fun a w=>∃ (g:G),w=g.w ∧ St 27 [] a g ∧ Base g0 g ∧ (.inr ())=z7) ?_ ?_
  ·rintro a w ⟨g,rfl,hst,hb,rfl⟩
   refine Zg ?_
   refine r_s (T:=[⟨[],_,[],[],[2]⟩]) (F:=[.p 0 0]) hst hb Zb
    (Qa rfl c_i<|o_n) (fun a g hst hb=>?_)
   refine wp_ret ?_
   obtain rfl:=Option.some.inj H0
   exact Zx rfl hst hb (Zi (s:=2)) (hst.at 0 rfl)
  ·refine wp_block ?_
   refine wp_loop_ghost (fun n a w=>∃ (x2:Int) (g:G),w=g.w ∧ St 27 [(16,(Zb5.sl.pd a0.List)),(17,(pInt .i64 (a0.List.length:Int))),(18,(pInt .i64 x2))] a g ∧ Base g0 g ∧ Zbt a0 n x2=some z7) (Int.toNat ((a0.List.length:Int) - (0:Int)) + 1) ⟨(0:Int),g,rfl,(hst.pick [0,1,2] rfl),hb,hz1⟩ (fun n a w hI=>?_)
   obtain ⟨x2,g,rfl,hst,hb,H1⟩:=hI
   cases n with
   | zero=>exact absurd H1 (by simp [Zbt])
   | succ n =>
    rw [Zbt] at H1
    refine r_s (T:=[⟨[.o 2,.o 1],_,[],[],[19]⟩]) (F:=[.o 0,.o 1,.o 2,.p 0 0]) hst hb Zb
     (o_p rfl (Zdf rfl rfl u_0 u_1)<|o_n) (fun a g hst hb=>?_)
    refine wp_seq ?_
    refine wp_cond_split (hst.bool 3 rfl) (fun hc3=>?_) (fun hc3=>?_)
    ·replace H1:=Zt hc3 H1
     refine wp_skip ?_
     refine Zg ?_
     refine wp_seq ?_
     refine wp_block ?_
     obtain ⟨e4,h5,H1⟩:=Zd H1
     refine r_s (L:=[(16,_),(17,_),(18,_)]) (T:=[⟨[.o 0,.o 2],_,[],[],[20]⟩,⟨[.p 0 0],_,[],[0],[21]⟩,⟨[],[(4,(pBox Zb5 4 (default:Zdq)))],[5],[],[4]⟩,⟨[.p 1 0,.p 2 0],_,[5],[0,1,2],[4]⟩]) (F:=[.p 3 0,.o 0,.o 1,.o 2]) (hst.pick [0,1,2] rfl) hb Zb
      (o_p rfl (Zq Tryd.underlying47 Zq0 rfl rfl u_0 u_1 h5)<|Ql rfl Zn6 u_0<|o_p rfl (Zc4 (zs:=[.float .f64 0,.string ByteArray.empty]) (by kernel_rfl) (fun g=>Zkv g) rfl rfl)<|o_p rfl (Zcv Zn6 rfl rfl u_1 u_0)<|o_n) (fun a g hst hb=>?_)
     refine r_s (T:=[⟨[.o 0],_,[],[],[22]⟩,⟨[.p 0 0],_,[],[0],[23]⟩,⟨[.p 1 0],_,[],[0,1],[24]⟩,⟨[.p 2 0],_,[],[0,1,2],[25]⟩]) (F:=[.o 1,.o 2,.o 3,.p 3 0]) hst hb Zb
      (Qf rfl Zo4 u_0<|Ql rfl ty_9 u_0<|o_p rfl (Zhp Tryd.underlying9 rfl rfl u_0)<|o_p rfl (Zdi rfl rfl u_0 c_i)<|o_n) (fun a g hst hb=>?_)
     refine wp_cond_split (hst.bool 3 rfl) (fun hc6=>?_) (fun hc6=>?_)
     ·replace H1:=Zt hc6 H1
      refine r_s (L:=[]) (T:=[⟨[],_,[],[],[2]⟩]) (F:=[.p 0 0]) (hst.pick [] rfl) hb Zb
       (Qa rfl c_i<|o_n) (fun a g hst hb=>?_)
      refine wp_ret ?_
      refine Zbs ?_
      refine Zm ?_
      refine Zm ?_
      refine Zbs ?_
      refine Zm ?_
      refine Zm ?_
      obtain rfl:=Option.some.inj H1
      obtain rfl:=Option.some.inj H0
      exact Zx rfl hst hb (Zi (s:=2)) (hst.at 0 rfl)
     ·replace H1:=Zs hc6 H1
      refine wp_skip ?_
      refine Z2 ?_
      refine Zg ?_
      refine r_g (L:=[(16,_),(17,_),(18,_)]) (T:=[⟨[.o 2],_,[],[],[26]⟩,⟨[.p 0 0],_,[],[0],[18]⟩]) (F:=[.o 0,.o 1,.p 1 0]) (hst.pick [0,1,2] rfl) hb Zb
       (o_p rfl (Zb7 rfl rfl u_0 c_i rfl)<|Qm rfl u_0<|o_n) (fun a g hst hb=>?_)
      exact ⟨n,Nat.lt_succ_self _,(IntKind.i64.wrap (x2 + (1:Int))),g,rfl,(hst.pick [0,1,2] rfl),hb,H1⟩
    ·replace H1:=Zs hc3 H1
     refine wp_exit ?_
     refine Z0 ?_
     refine Z0 ?_
     refine Zbj ?_
     exact ⟨g,rfl,(hst.pick [] rfl),hb,Option.some.inj H1⟩
theorem Zhe (a0:Zo) {r:Int} (h:Zdo a0=some r):FnOk Tryd.prog 37 [(Zy.pd a0)] (pInt .i64 r):=by
 have H0:=h
 unfold Zdo at H0
 clear h
 refine Zcd (N:=19) Tryd.func37 rfl rfl (Qe rfl) rfl rfl (fun a g0 hst hb=>?_)
 refine r_s (T:=[⟨[.o 0],_,[],[],[1]⟩,⟨[],_,[],[],[2]⟩]) (F:=[.p 0 0]) hst hb Zb
  (Qb rfl u_0<|Qa rfl c_i<|o_n) (fun a g hst hb=>?_)
 refine wp_seq ?_
 obtain ⟨r1,h2,H0⟩:=Zd H0
 refine r_s (T:=⟨[.o 0],_,[],[],[3]⟩ :: ⟨[.p 0 0],_,[],[0],[4]⟩ :: ⟨[.p 1 0],_,[],[0,1],[5]⟩ :: ⟨[.p 2 0],_,[],[0,1,2],[6]⟩ :: ⟨[.p 3 0],_,[],Lr 4,[7]⟩ :: ⟨[.p 4 0,.o 0],_,[],Lr 5,[8]⟩ :: ⟨[.p 4 0,.p 5 0],_,[],Lr 6,[9]⟩ :: ⟨[.p 4 0,.p 6 0],_,[],Lr 7,[10]⟩ :: ⟨[.p 4 0,.p 7 0],_,[],Lr 8,[11]⟩ :: ⟨[.p 4 0,.p 8 0],_,[],Lr 9,[12]⟩ :: ⟨[.p 9 0],_,[],Lr 10,[13]⟩ :: ⟨[.p 10 0,.o 0],_,[],Lr 11,[14]⟩ :: ⟨[.p 10 0,.p 11 0],_,[],Lr 12,[15]⟩ :: ⟨[.p 10 0,.p 12 0],_,[],Lr 13,[16]⟩ :: ⟨[.p 10 0,.p 13 0],_,[],Lr 14,[17]⟩ :: ⟨[.p 10 0,.p 14 0],_,[],Lr 15,[18]⟩ :: []) (F:=[.p 15 0]) hst hb Zb
  (Qf rfl Zhq u_0<|Ql rfl ty_9 u_0<|o_p rfl (Zhp Tryd.underlying9 rfl rfl u_0)<|o_p rfl (Zdi rfl rfl u_0 c_i)<|Qm rfl u_0<|o_g (Qg_f rfl (fun hG=>Zbv Zqr rfl rfl u_0))<|o_g (Qg_f rfl (fun hG=>Zcq ty_9 rfl rfl (Opd.gd hG u_0)))<|o_g (Qg_f rfl (fun hG=>Zhp Tryd.underlying9 rfl rfl (Opd.gd hG u_0)))<|o_g (Qg_f rfl (fun hG=>Zdi rfl rfl (Opd.gd hG u_0) c_i))<|o_p rfl (Zcw rfl rfl u_0 (fun hz=>(Opd.gd (bNF hz) u_1)))<|Qm rfl u_0<|o_g (Qg_f rfl (fun hG=>Zbv Zqg rfl rfl u_0))<|o_g (Qg_f rfl (fun hG=>Zcq Zro rfl rfl (Opd.gd hG u_0)))<|o_g (Qg_f rfl (fun hG=>Zbu Zri (Zg8 _ (Zc0 h2 hG)) rfl rfl (.cons (Opd.gd hG u_0) .nil)))<|o_g (Qg_f rfl (fun hG=>Zdi rfl rfl (Opd.gd hG u_0) c_i))<|o_p rfl (Zcw rfl rfl u_0 (fun hz=>(Opd.gd (bNF hz) u_1)))<|o_n) (fun a g hst hb=>?_)
 refine wp_cond_split (hst.bool 0 rfl) (fun hc3=>?_) (fun hc3=>?_)
 ·replace H0:=Zt hc3 H0
  refine r_s (L:=[]) (T:=[⟨[],_,[],[],[2]⟩]) (F:=[.p 0 0]) (hst.pick [] rfl) hb Zb
   (Qa rfl c_i<|o_n) (fun a g hst hb=>?_)
  refine wp_ret ?_
  refine Zm ?_
  obtain rfl:=Option.some.inj H0
  exact Zx rfl hst hb (Zi (s:=2)) (hst.at 0 rfl)
 ·replace H0:=Zs hc3 H0
  refine wp_skip ?_
  refine Zg ?_
  refine r_s (L:=[]) (T:=[⟨[],_,[],[],[2]⟩]) (F:=[.p 0 0]) (hst.pick [] rfl) hb Zb
   (Qa rfl c_i<|o_n) (fun a g hst hb=>?_)
  refine wp_ret ?_
  obtain rfl:=Option.some.inj H0
  exact Zx rfl hst hb (Zi (s:=2)) (hst.at 0 rfl)
theorem Zhf (a0:Zz) {r:Int} (h:Zdg a0=some r):FnOk Tryd.prog 29 [(Z5.pd a0)] (pInt .i64 r):=by
 have H0:=h
 unfold Zdg at H0
 clear h
 refine Zcd (N:=20) Tryd.func29 rfl rfl (Qe rfl) rfl rfl (fun a g0 hst hb=>?_)
 refine r_s (T:=[⟨[.o 0],_,[],[],[1]⟩,⟨[],_,[],[],[2]⟩]) (F:=[.p 0 0]) hst hb Zb
  (Qb rfl u_0<|Qa rfl c_i<|o_n) (fun a g hst hb=>?_)
 refine wp_seq ?_
 refine r_s (T:=[⟨[.o 0],_,[],[],[5]⟩,⟨[.p 0 0],_,[],[0],[6]⟩,⟨[.p 1 0],_,[],[0,1],[7]⟩,⟨[.p 2 0],_,[],[0,1,2],[8]⟩]) (F:=[.o 0,.p 3 0]) hst hb Zb
  (Qf rfl Zf4 u_0<|Ql rfl Zik u_0<|o_p rfl (Zbl Tryd.underlying52 rfl rfl u_0)<|o_p rfl (Zdi rfl rfl u_0 c_i)<|o_n) (fun a g hst hb=>?_)
 refine wp_cond_split (hst.bool 1 rfl) (fun hc1=>?_) (fun hc1=>?_)
 ·replace H0:=Zt hc1 H0
  refine r_s (L:=[]) (T:=[⟨[],_,[],[],[2]⟩]) (F:=[.p 0 0]) (hst.pick [] rfl) hb Zb
   (Qa rfl c_i<|o_n) (fun a g hst hb=>?_)
  refine wp_ret ?_
  refine Zm ?_
  obtain rfl:=Option.some.inj H0
  exact Zx rfl hst hb (Zi (s:=2)) (hst.at 0 rfl)
 ·replace H0:=Zs hc1 H0
  refine wp_skip ?_
  refine Zg ?_
  refine wp_seq ?_
  refine r_s (L:=[(1,_)]) (T:=[⟨[.o 0],_,[],[],[9]⟩,⟨[.p 0 0],_,[],[0],[10]⟩,⟨[.p 1 0],_,[],[0,1],[11]⟩,⟨[],_,[],[],[12]⟩]) (F:=[.p 1 0,.p 2 0,.p 3 0]) (hst.pick [0] rfl) hb Zb
   (Qf rfl Zf4 u_0<|Ql rfl Zik u_0<|o_p rfl (Zbl Tryd.underlying52 rfl rfl u_0)<|Qm rfl c_i<|o_n) (fun a g hst hb=>?_)
  obtain ⟨z9,hz1,H0⟩:=Zd H0
  refine Zb1 (fun a w=>∃ (g:G),w=g.w ∧ St 20 [] a g ∧ Base g0 g ∧ (.inr ())=z9) ?_ ?_
  ·rintro a w ⟨g,rfl,hst,hb,rfl⟩
   refine Zg ?_
   refine r_s (T:=[⟨[],_,[],[],[2]⟩]) (F:=[.p 0 0]) hst hb Zb
    (Qa rfl c_i<|o_n) (fun a g hst hb=>?_)
   refine wp_ret ?_
   obtain rfl:=Option.some.inj H0
   exact Zx rfl hst hb (Zi (s:=2)) (hst.at 0 rfl)
  ·refine wp_block ?_
   refine wp_loop_ghost (fun n a w=>∃ (x2:Int) (g:G),w=g.w ∧ St 20 [(10,(Zy.sl.pd a0.Acts)),(11,(pInt .i64 (a0.Acts.length:Int))),(12,(pInt .i64 x2))] a g ∧ Base g0 g ∧ Zbr a0 n x2=some z9) (Int.toNat ((a0.Acts.length:Int) - (0:Int)) + 1) ⟨(0:Int),g,rfl,(hst.pick [0,1,2] rfl),hb,hz1⟩ (fun n a w hI=>?_)
   obtain ⟨x2,g,rfl,hst,hb,H1⟩:=hI
   cases n with
   | zero=>exact absurd H1 (by simp [Zbr])
   | succ n =>
    rw [Zbr] at H1
    refine r_s (T:=[⟨[.o 2,.o 1],_,[],[],[13]⟩]) (F:=[.o 0,.o 1,.o 2,.p 0 0]) hst hb Zb
     (o_p rfl (Zdf rfl rfl u_0 u_1)<|o_n) (fun a g hst hb=>?_)
    refine wp_seq ?_
    refine wp_cond_split (hst.bool 3 rfl) (fun hc3=>?_) (fun hc3=>?_)
    ·replace H1:=Zt hc3 H1
     refine wp_skip ?_
     refine Zg ?_
     refine wp_seq ?_
     refine wp_block ?_
     obtain ⟨e4,h5,H1⟩:=Zd H1
     refine r_s (L:=[(10,_),(11,_),(12,_)]) (T:=[⟨[.o 0,.o 2],_,[],[],[14]⟩,⟨[.p 0 0],_,[],[0],[15]⟩,⟨[],[(4,(pBox Zy 4 (default:Zo)))],[5],[],[4]⟩,⟨[.p 1 0,.p 2 0],_,[5],[0,1,2],[4]⟩]) (F:=[.p 3 0,.o 0,.o 1,.o 2]) (hst.pick [0,1,2] rfl) hb Zb
      (o_p rfl (Zq Tryd.underlying52 Zmc rfl rfl u_0 u_1 h5)<|Ql rfl Zem u_0<|o_p rfl (Zc4 (zs:=[.int .i64 0,.string ByteArray.empty,.int .i64 0,.float .f64 0,.string ByteArray.empty,.int .i64 0,.int .i64 0,.int .i64 0,.int .i64 0,.float .f64 0,.int .i64 0,.string ByteArray.empty,.slice none 0 0,.bool false]) (by kernel_rfl) (fun g=>Zfc g) rfl rfl)<|o_p rfl (Zcv Zem rfl rfl u_1 u_0)<|o_n) (fun a g hst hb=>?_)
     obtain ⟨r6,h7,H1⟩:=Zd H1
     refine r_s (T:=[⟨[.o 0],_,[],[],[16]⟩,⟨[.p 0 0],_,[],[0],[17]⟩,⟨[.p 1 0],_,[],[0,1],[18]⟩]) (F:=[.o 1,.o 2,.o 3,.p 2 0]) hst hb Zb
      (Ql rfl Zem u_0<|o_p rfl (Zbu Zr8 (Zhe _ h7) rfl rfl (.cons u_0 .nil))<|o_p rfl (Zdi rfl rfl u_0 c_i)<|o_n) (fun a g hst hb=>?_)
     refine wp_cond_split (hst.bool 3 rfl) (fun hc8=>?_) (fun hc8=>?_)
     ·replace H1:=Zt hc8 H1
      refine r_s (L:=[]) (T:=[⟨[],_,[],[],[2]⟩]) (F:=[.p 0 0]) (hst.pick [] rfl) hb Zb
       (Qa rfl c_i<|o_n) (fun a g hst hb=>?_)
      refine wp_ret ?_
      refine Zbs ?_
      refine Zm ?_
      refine Zm ?_
      refine Zbs ?_
      refine Zm ?_
      refine Zm ?_
      obtain rfl:=Option.some.inj H1
      obtain rfl:=Option.some.inj H0
      exact Zx rfl hst hb (Zi (s:=2)) (hst.at 0 rfl)
     ·replace H1:=Zs hc8 H1
      refine wp_skip ?_
      refine Z2 ?_
      refine Zg ?_
      refine r_g (L:=[(10,_),(11,_),(12,_)]) (T:=[⟨[.o 2],_,[],[],[19]⟩,⟨[.p 0 0],_,[],[0],[12]⟩]) (F:=[.o 0,.o 1,.p 1 0]) (hst.pick [0,1,2] rfl) hb Zb
       (o_p rfl (Zb7 rfl rfl u_0 c_i rfl)<|Qm rfl u_0<|o_n) (fun a g hst hb=>?_)
      exact ⟨n,Nat.lt_succ_self _,(IntKind.i64.wrap (x2 + (1:Int))),g,rfl,(hst.pick [0,1,2] rfl),hb,H1⟩
    ·replace H1:=Zs hc3 H1
     refine wp_exit ?_
     refine Z0 ?_
     refine Z0 ?_
     refine Zbj ?_
     exact ⟨g,rfl,(hst.pick [] rfl),hb,Option.some.inj H1⟩
theorem Zg5 (a0:List Zz) {r:Int} (h:Zdk a0=some r):FnOk Tryd.prog 18 [(Z5.sl.pd a0)] (pInt .i64 r):=by
 have H0:=h
 unfold Zdk at H0
 clear h
 refine Zcd (N:=18) Tryd.func18 rfl rfl (Qe rfl) rfl rfl (fun a g0 hst hb=>?_)
 refine r_s (T:=[⟨[],_,[],[],[2]⟩]) (F:=[.o 0]) hst hb Zb
  (Qa rfl c_i<|o_n) (fun a g hst hb=>?_)
 refine wp_seq ?_
 refine r_s (T:=[⟨[.o 0],_,[],[],[5]⟩,⟨[.p 0 0],_,[],[0],[6]⟩,⟨[.p 1 0],_,[],[0,1],[7]⟩]) (F:=[.o 0,.p 2 0]) hst hb Zb
  (Qm rfl u_0<|o_p rfl (Zbl Tryd.underlying29 rfl rfl u_0)<|o_p rfl (Zdi rfl rfl u_0 c_i)<|o_n) (fun a g hst hb=>?_)
 refine wp_cond_split (hst.bool 1 rfl) (fun hc1=>?_) (fun hc1=>?_)
 ·replace H0:=Zt hc1 H0
  refine r_s (L:=[]) (T:=[⟨[],_,[],[],[2]⟩]) (F:=[.p 0 0]) (hst.pick [] rfl) hb Zb
   (Qa rfl c_i<|o_n) (fun a g hst hb=>?_)
  refine wp_ret ?_
  refine Zm ?_
  obtain rfl:=Option.some.inj H0
  exact Zx rfl hst hb (Zi (s:=2)) (hst.at 0 rfl)
 ·replace H0:=Zs hc1 H0
  refine wp_skip ?_
  refine Zg ?_
  refine wp_seq ?_
  refine r_s (L:=[(0,_)]) (T:=[⟨[.o 0],_,[],[],[8]⟩,⟨[.p 0 0],_,[],[0],[9]⟩,⟨[],_,[],[],[10]⟩]) (F:=[.p 0 0,.p 1 0,.p 2 0]) (hst.pick [0] rfl) hb Zb
   (Qm rfl u_0<|o_p rfl (Zbl Tryd.underlying29 rfl rfl u_0)<|Qm rfl c_i<|o_n) (fun a g hst hb=>?_)
  obtain ⟨z9,hz1,H0⟩:=Zd H0
  refine Zb1 (fun a w=>∃ (g:G),w=g.w ∧ St 18 [] a g ∧ Base g0 g ∧ (.inr ())=z9) ?_ ?_
  ·rintro a w ⟨g,rfl,hst,hb,rfl⟩
   refine Zg ?_
   refine r_s (T:=[⟨[],_,[],[],[2]⟩]) (F:=[.p 0 0]) hst hb Zb
    (Qa rfl c_i<|o_n) (fun a g hst hb=>?_)
   refine wp_ret ?_
   obtain rfl:=Option.some.inj H0
   exact Zx rfl hst hb (Zi (s:=2)) (hst.at 0 rfl)
  ·refine wp_block ?_
   refine wp_loop_ghost (fun n a w=>∃ (x2:Int) (g:G),w=g.w ∧ St 18 [(8,(Z5.sl.pd a0)),(9,(pInt .i64 (a0.length:Int))),(10,(pInt .i64 x2))] a g ∧ Base g0 g ∧ Zbq a0 n x2=some z9) (Int.toNat ((a0.length:Int) - (0:Int)) + 1) ⟨(0:Int),g,rfl,(hst.pick [0,1,2] rfl),hb,hz1⟩ (fun n a w hI=>?_)
   obtain ⟨x2,g,rfl,hst,hb,H1⟩:=hI
   cases n with
   | zero=>exact absurd H1 (by simp [Zbq])
   | succ n =>
    rw [Zbq] at H1
    refine r_s (T:=[⟨[.o 2,.o 1],_,[],[],[11]⟩]) (F:=[.o 0,.o 1,.o 2,.p 0 0]) hst hb Zb
     (o_p rfl (Zdf rfl rfl u_0 u_1)<|o_n) (fun a g hst hb=>?_)
    refine wp_seq ?_
    refine wp_cond_split (hst.bool 3 rfl) (fun hc3=>?_) (fun hc3=>?_)
    ·replace H1:=Zt hc3 H1
     refine wp_skip ?_
     refine Zg ?_
     refine wp_seq ?_
     refine wp_block ?_
     obtain ⟨e4,h5,H1⟩:=Zd H1
     refine r_s (L:=[(8,_),(9,_),(10,_)]) (T:=[⟨[.o 0,.o 2],_,[],[],[12]⟩,⟨[.p 0 0],_,[],[0],[13]⟩,⟨[],[(4,(pBox Z5 4 (default:Zz)))],[5],[],[4]⟩,⟨[.p 1 0,.p 2 0],_,[5],[0,1,2],[4]⟩]) (F:=[.p 3 0,.o 0,.o 1,.o 2]) (hst.pick [0,1,2] rfl) hb Zb
      (o_p rfl (Zq Tryd.underlying29 Zj4 rfl rfl u_0 u_1 h5)<|Ql rfl Zir u_0<|o_p rfl (Zc4 (zs:=[.slice none 0 0]) (by kernel_rfl) (fun g=>Zhz g) rfl rfl)<|o_p rfl (Zcv Zir rfl rfl u_1 u_0)<|o_n) (fun a g hst hb=>?_)
     obtain ⟨r6,h7,H1⟩:=Zd H1
     refine r_s (T:=[⟨[.o 0],_,[],[],[14]⟩,⟨[.p 0 0],_,[],[0],[15]⟩,⟨[.p 1 0],_,[],[0,1],[16]⟩]) (F:=[.o 1,.o 2,.o 3,.p 2 0]) hst hb Zb
      (Ql rfl Zir u_0<|o_p rfl (Zbu Zr7 (Zhf _ h7) rfl rfl (.cons u_0 .nil))<|o_p rfl (Zdi rfl rfl u_0 c_i)<|o_n) (fun a g hst hb=>?_)
     refine wp_cond_split (hst.bool 3 rfl) (fun hc8=>?_) (fun hc8=>?_)
     ·replace H1:=Zt hc8 H1
      refine r_s (L:=[]) (T:=[⟨[],_,[],[],[2]⟩]) (F:=[.p 0 0]) (hst.pick [] rfl) hb Zb
       (Qa rfl c_i<|o_n) (fun a g hst hb=>?_)
      refine wp_ret ?_
      refine Zbs ?_
      refine Zm ?_
      refine Zm ?_
      refine Zbs ?_
      refine Zm ?_
      refine Zm ?_
      obtain rfl:=Option.some.inj H1
      obtain rfl:=Option.some.inj H0
      exact Zx rfl hst hb (Zi (s:=2)) (hst.at 0 rfl)
     ·replace H1:=Zs hc8 H1
      refine wp_skip ?_
      refine Z2 ?_
      refine Zg ?_
      refine r_g (L:=[(8,_),(9,_),(10,_)]) (T:=[⟨[.o 2],_,[],[],[17]⟩,⟨[.p 0 0],_,[],[0],[10]⟩]) (F:=[.o 0,.o 1,.p 1 0]) (hst.pick [0,1,2] rfl) hb Zb
       (o_p rfl (Zb7 rfl rfl u_0 c_i rfl)<|Qm rfl u_0<|o_n) (fun a g hst hb=>?_)
      exact ⟨n,Nat.lt_succ_self _,(IntKind.i64.wrap (x2 + (1:Int))),g,rfl,(hst.pick [0,1,2] rfl),hb,H1⟩
    ·replace H1:=Zs hc3 H1
     refine wp_exit ?_
     refine Z0 ?_
     refine Z0 ?_
     refine Zbj ?_
     exact ⟨g,rfl,(hst.pick [] rfl),hb,Option.some.inj H1⟩
theorem Zho (a0:List Zr) {r:Bool} (h:Zc1 a0=some r):FnOk Tryd.prog 8 [(Zp.sl.pd a0)] (Zn r):=by
 have H0:=h
 unfold Zc1 at H0
 clear h
 refine Zcd (N:=19) Tryd.func8 rfl rfl (Qe rfl) rfl rfl (fun a g0 hst hb=>?_)
 refine r_s (T:=[⟨[],_,[],[],[2]⟩]) (F:=[.o 0]) hst hb Zb
  (Qa rfl c_b<|o_n) (fun a g hst hb=>?_)
 refine wp_seq ?_
 refine r_s (T:=[⟨[.o 0],_,[],[],[5]⟩,⟨[.p 0 0],_,[],[0],[6]⟩,⟨[.p 1 0],_,[],[0,1],[7]⟩]) (F:=[.o 0,.p 2 0]) hst hb Zb
  (Qm rfl u_0<|o_p rfl (Zbl Tryd.underlying22 rfl rfl u_0)<|o_p rfl (Zdi rfl rfl u_0 c_i)<|o_n) (fun a g hst hb=>?_)
 refine wp_cond_split (hst.bool 1 rfl) (fun hc1=>?_) (fun hc1=>?_)
 ·replace H0:=Zt hc1 H0
  refine r_s (L:=[]) (T:=[⟨[],_,[],[],[2]⟩]) (F:=[.p 0 0]) (hst.pick [] rfl) hb Zb
   (Qa rfl c_b<|o_n) (fun a g hst hb=>?_)
  refine wp_ret ?_
  refine Zm ?_
  obtain rfl:=Option.some.inj H0
  exact Zx rfl hst hb (Zi (s:=2)) (hst.at 0 rfl)
 ·replace H0:=Zs hc1 H0
  refine wp_skip ?_
  refine Zg ?_
  refine wp_seq ?_
  refine r_s (L:=[(0,_)]) (T:=[⟨[.o 0],_,[],[],[8]⟩,⟨[.p 0 0],_,[],[0],[9]⟩,⟨[],_,[],[],[10]⟩]) (F:=[.p 0 0,.p 1 0,.p 2 0]) (hst.pick [0] rfl) hb Zb
   (Qm rfl u_0<|o_p rfl (Zbl Tryd.underlying22 rfl rfl u_0)<|Qm rfl c_i<|o_n) (fun a g hst hb=>?_)
  obtain ⟨z9,hz1,H0⟩:=Zd H0
  refine Zb1 (fun a w=>∃ (g:G),w=g.w ∧ St 19 [] a g ∧ Base g0 g ∧ (.inr ())=z9) ?_ ?_
  ·rintro a w ⟨g,rfl,hst,hb,rfl⟩
   refine Zg ?_
   refine r_s (T:=[⟨[],_,[],[],[2]⟩]) (F:=[.p 0 0]) hst hb Zb
    (Qa rfl c_b<|o_n) (fun a g hst hb=>?_)
   refine wp_ret ?_
   obtain rfl:=Option.some.inj H0
   exact Zx rfl hst hb (Zi (s:=2)) (hst.at 0 rfl)
  ·refine wp_block ?_
   refine wp_loop_ghost (fun n a w=>∃ (x2:Int) (g:G),w=g.w ∧ St 19 [(8,(Zp.sl.pd a0)),(9,(pInt .i64 (a0.length:Int))),(10,(pInt .i64 x2))] a g ∧ Base g0 g ∧ Zbm a0 n x2=some z9) (Int.toNat ((a0.length:Int) - (0:Int)) + 1) ⟨(0:Int),g,rfl,(hst.pick [0,1,2] rfl),hb,hz1⟩ (fun n a w hI=>?_)
   obtain ⟨x2,g,rfl,hst,hb,H1⟩:=hI
   cases n with
   | zero=>exact absurd H1 (by simp [Zbm])
   | succ n =>
    rw [Zbm] at H1
    refine r_s (T:=[⟨[.o 2,.o 1],_,[],[],[11]⟩]) (F:=[.o 0,.o 1,.o 2,.p 0 0]) hst hb Zb
     (o_p rfl (Zdf rfl rfl u_0 u_1)<|o_n) (fun a g hst hb=>?_)
    refine wp_seq ?_
    refine wp_cond_split (hst.bool 3 rfl) (fun hc3=>?_) (fun hc3=>?_)
    ·replace H1:=Zt hc3 H1
     refine wp_skip ?_
     refine Zg ?_
     refine wp_seq ?_
     refine wp_block ?_
     obtain ⟨e4,h5,H1⟩:=Zd H1
     refine r_s (L:=[(8,_),(9,_),(10,_)]) (T:=[⟨[.o 0,.o 2],_,[],[],[12]⟩,⟨[.p 0 0],_,[],[0],[13]⟩,⟨[],[(4,(pBox Zp 4 (default:Zr)))],[5],[],[4]⟩,⟨[.p 1 0,.p 2 0],_,[5],[0,1,2],[4]⟩]) (F:=[.p 3 0,.o 0,.o 1,.o 2]) (hst.pick [0,1,2] rfl) hb Zb
      (o_p rfl (Zq Tryd.underlying22 Zpe rfl rfl u_0 u_1 h5)<|Ql rfl Zht u_0<|o_p rfl (Zc4 (zs:=[.int .i64 0,.slice none 0 0]) (by kernel_rfl) (fun g=>Zij g) rfl rfl)<|o_p rfl (Zcv Zht rfl rfl u_1 u_0)<|o_n) (fun a g hst hb=>?_)
     obtain ⟨r6,h7,H1⟩:=Zd H1
     refine r_s (T:=[⟨[.o 0],_,[],[],[14]⟩,⟨[.p 0 0],_,[],[0],[15]⟩,⟨[.p 1 0],_,[],[0,1],[16]⟩,⟨[.p 2 0],_,[],[0,1,2],[17]⟩]) (F:=[.o 1,.o 2,.o 3,.p 3 0]) hst hb Zb
      (Qf rfl Zf3 u_0<|Ql rfl Ziv u_0<|o_p rfl (Zbu Zrn (Zg5 _ h7) rfl rfl (.cons u_0 .nil))<|o_p rfl (Zdi rfl rfl u_0 c_i)<|o_n) (fun a g hst hb=>?_)
     refine wp_cond_split (hst.bool 3 rfl) (fun hc8=>?_) (fun hc8=>?_)
     ·replace H1:=Zt hc8 H1
      refine r_s (L:=[]) (T:=[⟨[],_,[],[],[2]⟩]) (F:=[.p 0 0]) (hst.pick [] rfl) hb Zb
       (Qa rfl c_b<|o_n) (fun a g hst hb=>?_)
      refine wp_ret ?_
      refine Zbs ?_
      refine Zm ?_
      refine Zm ?_
      refine Zbs ?_
      refine Zm ?_
      refine Zm ?_
      obtain rfl:=Option.some.inj H1
      obtain rfl:=Option.some.inj H0
      exact Zx rfl hst hb (Zi (s:=2)) (hst.at 0 rfl)
     ·replace H1:=Zs hc8 H1
      refine wp_skip ?_
      refine Z2 ?_
      refine Zg ?_
      refine r_g (L:=[(8,_),(9,_),(10,_)]) (T:=[⟨[.o 2],_,[],[],[18]⟩,⟨[.p 0 0],_,[],[0],[10]⟩]) (F:=[.o 0,.o 1,.p 1 0]) (hst.pick [0,1,2] rfl) hb Zb
       (o_p rfl (Zb7 rfl rfl u_0 c_i rfl)<|Qm rfl u_0<|o_n) (fun a g hst hb=>?_)
      exact ⟨n,Nat.lt_succ_self _,(IntKind.i64.wrap (x2 + (1:Int))),g,rfl,(hst.pick [0,1,2] rfl),hb,H1⟩
    ·replace H1:=Zs hc3 H1
     refine wp_exit ?_
     refine Z0 ?_
     refine Z0 ?_
     refine Zbj ?_
     exact ⟨g,rfl,(hst.pick [] rfl),hb,Option.some.inj H1⟩
theorem Zf2 (a0:Int) {r:Bool} (h:Zdh a0=some r):FnOk Tryd.prog 21 [(pInt .i64 a0)] (Zn r):=by
 have H0:=h
 unfold Zdh at H0
 clear h
 refine Zcd (N:=33) Tryd.func21 rfl rfl (Qe rfl) rfl rfl (fun a g0 hst hb=>?_)
 refine r_s (T:=[⟨[],_,[],[],[2]⟩]) (F:=[.o 0]) hst hb Zb
  (Qa rfl c_b<|o_n) (fun a g hst hb=>?_)
 refine r_s (T:=⟨[.o 0],_,[],[],[3]⟩ :: ⟨[.p 0 0],_,[],[0],[4]⟩ :: ⟨[.p 1 0],_,[],[0,1],[5]⟩ :: ⟨[.p 2 0,.o 0],_,[],[0,1,2],[6]⟩ :: ⟨[.p 2 0,.p 3 0],_,[],Lr 4,[7]⟩ :: ⟨[.p 2 0,.p 4 0],_,[],Lr 5,[8]⟩ :: ⟨[.p 5 0],_,[],Lr 6,[9]⟩ :: ⟨[.p 6 0,.o 0],_,[],Lr 7,[10]⟩ :: ⟨[.p 6 0,.p 7 0],_,[],Lr 8,[11]⟩ :: ⟨[.p 6 0,.p 8 0],_,[],Lr 9,[12]⟩ :: ⟨[.p 9 0],_,[],Lr 10,[13]⟩ :: ⟨[.p 10 0,.o 0],_,[],Lr 11,[14]⟩ :: ⟨[.p 10 0,.p 11 0],_,[],Lr 12,[15]⟩ :: ⟨[.p 10 0,.p 12 0],_,[],Lr 13,[16]⟩ :: ⟨[.p 13 0],_,[],Lr 14,[17]⟩ :: ⟨[.p 14 0,.o 0],_,[],Lr 15,[18]⟩ :: ⟨[.p 14 0,.p 15 0],_,[],Lr 16,[19]⟩ :: ⟨[.p 14 0,.p 16 0],_,[],Lr 17,[20]⟩ :: ⟨[.p 17 0],_,[],Lr 18,[21]⟩ :: ⟨[.p 18 0,.o 0],_,[],Lr 19,[22]⟩ :: ⟨[.p 18 0,.p 19 0],_,[],Lr 20,[23]⟩ :: ⟨[.p 18 0,.p 20 0],_,[],Lr 21,[24]⟩ :: ⟨[.p 21 0],_,[],Lr 22,[25]⟩ :: ⟨[.p 22 0,.o 0],_,[],Lr 23,[26]⟩ :: ⟨[.p 22 0,.p 23 0],_,[],Lr 24,[27]⟩ :: ⟨[.p 22 0,.p 24 0],_,[],Lr 25,[28]⟩ :: ⟨[.p 25 0],_,[],Lr 26,[29]⟩ :: ⟨[.p 26 0,.o 0],_,[],Lr 27,[30]⟩ :: ⟨[.p 26 0,.p 27 0],_,[],Lr 28,[31]⟩ :: ⟨[.p 26 0,.p 28 0],_,[],Lr 29,[32]⟩ :: ⟨[.p 29 0],_,[],Lr 30,[2]⟩ :: []) (F:=[.p 30 0]) hst hb Zb
  (Qm rfl u_0<|o_p rfl (Zcm rfl rfl u_0 c_i)<|Qm rfl u_0<|o_g (Qg_f rfl (fun hG=>Zbk rfl rfl u_0))<|o_g (Qg_f rfl (fun hG=>Zcm rfl rfl (Opd.gd hG u_0) c_i))<|o_p rfl (Zcw rfl rfl u_0 (fun hz=>(Opd.gd (bNF hz) u_1)))<|Qm rfl u_0<|o_g (Qg_f rfl (fun hG=>Zbk rfl rfl u_0))<|o_g (Qg_f rfl (fun hG=>Zcm rfl rfl (Opd.gd hG u_0) c_i))<|o_p rfl (Zcw rfl rfl u_0 (fun hz=>(Opd.gd (bNF hz) u_1)))<|Qm rfl u_0<|o_g (Qg_f rfl (fun hG=>Zbk rfl rfl u_0))<|o_g (Qg_f rfl (fun hG=>Zcm rfl rfl (Opd.gd hG u_0) c_i))<|o_p rfl (Zcw rfl rfl u_0 (fun hz=>(Opd.gd (bNF hz) u_1)))<|Qm rfl u_0<|o_g (Qg_f rfl (fun hG=>Zbk rfl rfl u_0))<|o_g (Qg_f rfl (fun hG=>Zcm rfl rfl (Opd.gd hG u_0) c_i))<|o_p rfl (Zcw rfl rfl u_0 (fun hz=>(Opd.gd (bNF hz) u_1)))<|Qm rfl u_0<|o_g (Qg_f rfl (fun hG=>Zbk rfl rfl u_0))<|o_g (Qg_f rfl (fun hG=>Zcm rfl rfl (Opd.gd hG u_0) c_i))<|o_p rfl (Zcw rfl rfl u_0 (fun hz=>(Opd.gd (bNF hz) u_1)))<|Qm rfl u_0<|o_g (Qg_f rfl (fun hG=>Zbk rfl rfl u_0))<|o_g (Qg_f rfl (fun hG=>Zcm rfl rfl (Opd.gd hG u_0) c_i))<|o_p rfl (Zcw rfl rfl u_0 (fun hz=>(Opd.gd (bNF hz) u_1)))<|Qm rfl u_0<|o_g (Qg_f rfl (fun hG=>Zbk rfl rfl u_0))<|o_g (Qg_f rfl (fun hG=>Zcm rfl rfl (Opd.gd hG u_0) c_i))<|o_p rfl (Zcw rfl rfl u_0 (fun hz=>(Opd.gd (bNF hz) u_1)))<|Qa rfl u_0<|o_n) (fun a g hst hb=>?_)
 refine wp_ret ?_
 obtain rfl:=Option.some.inj H0
 exact Zx rfl hst hb (Zi (s:=2)) (hst.at 0 rfl)
theorem Zf0 (a0:Za) (a1:Za) {r:Bool} (h:Zdm a0 a1=some r):FnOk Tryd.prog 31 [(Zc.pd a0),(Zc.pd a1)] (Zn r):=by
 have H0:=h
 unfold Zdm at H0
 clear h
 refine Zcd (N:=24) Tryd.func31 rfl rfl (Qe rfl) rfl rfl (fun a g0 hst hb=>?_)
 refine r_s (T:=[⟨[.o 0],_,[],[],[2]⟩,⟨[.o 1],_,[],[],[3]⟩,⟨[],_,[],[],[4]⟩]) (F:=[.p 0 0,.p 1 0]) hst hb Zb
  (Qb rfl u_0<|Qb rfl u_0<|Qa rfl c_b<|o_n) (fun a g hst hb=>?_)
 refine r_s (T:=⟨[.o 0],_,[],[],[5]⟩ :: ⟨[.p 0 0],_,[],[0],[6]⟩ :: ⟨[.o 1],_,[],[],[7]⟩ :: ⟨[.p 2 0],_,[],[2],[8]⟩ :: ⟨[.p 1 0,.p 3 0],_,[],Lr 4,[9]⟩ :: ⟨[.p 4 0],_,[],Lr 5,[10]⟩ :: ⟨[.p 5 0,.o 0],_,[],Lr 6,[11]⟩ :: ⟨[.p 5 0,.p 6 0],_,[],Lr 7,[12]⟩ :: ⟨[.p 5 0,.o 1],_,[],Lr 6,[13]⟩ :: ⟨[.p 5 0,.p 8 0],_,[],[0,1,2,3,4,5,8],[14]⟩ :: ⟨[.p 5 0,.p 7 0,.p 9 0],_,[],Lr 10,[15]⟩ :: ⟨[.p 5 0,.p 10 0],_,[],Lr 11,[16]⟩ :: ⟨[.p 11 0,.o 0],_,[],Lr 12,[17]⟩ :: ⟨[.p 11 0,.p 12 0],_,[],Lr 13,[18]⟩ :: ⟨[.p 11 0,.o 1],_,[],Lr 12,[19]⟩ :: ⟨[.p 11 0,.p 14 0],_,[],0 :: 1 :: 2 :: 3 :: 4 :: 5 :: 6 :: 7 :: 8 :: 9 :: 10 :: 11 :: 14 :: [],[20]⟩ :: ⟨[.p 11 0,.p 13 0,.p 15 0],_,[],Lr 16,[21]⟩ :: ⟨[.p 5 0,.p 11 0,.p 16 0],_,[],Lr 17,[22]⟩ :: ⟨[.p 5 0,.p 17 0],_,[],Lr 18,[23]⟩ :: ⟨[.p 18 0],_,[],Lr 19,[4]⟩ :: []) (F:=[.p 19 0]) hst hb Zb
  (Qf rfl Zdu u_0<|Ql rfl ty_3 u_0<|Qf rfl Zdu u_0<|Ql rfl ty_3 u_0<|o_p rfl (Zdi rfl rfl u_0 u_1)<|Qm rfl u_0<|o_g (Qg_f rfl (fun hG=>Zbv Zdu rfl rfl u_0))<|o_g (Qg_f rfl (fun hG=>Zcq ty_3 rfl rfl (Opd.gd hG u_0)))<|o_g (Qg_f rfl (fun hG=>Zbv Zdu rfl rfl u_0))<|o_g (Qg_f rfl (fun hG=>Zcq ty_3 rfl rfl (Opd.gd hG u_0)))<|o_g (Qg_f rfl (fun hG=>Zcm rfl rfl (Opd.gd hG u_0) (Opd.gd hG u_1)))<|o_g (Qg_f rfl (fun hG=>Zbk rfl rfl (Opd.gd hG u_0)))<|o_g (Qg_ti rfl (fun hG=>Zbv Zev rfl rfl u_0))<|o_g (Qg_ti rfl (fun hG=>Zcq ty_9 rfl rfl (Opd.gd hG u_0)))<|o_g (Qg_ti rfl (fun hG=>Zbv Zev rfl rfl u_0))<|o_g (Qg_ti rfl (fun hG=>Zcq ty_9 rfl rfl (Opd.gd hG u_0)))<|o_g (Qg_ti rfl (fun hG=>Znc rfl rfl (Opd.gd hG u_0) (Opd.gd hG u_1)))<|o_g (Qg_f rfl (fun hG=>Zeu rfl rfl (Opd.gd hG u_0) (fun hz=>(Opd.gd (bA hG hz) u_1))))<|o_p rfl (Zcw rfl rfl u_0 (fun hz=>(Opd.gd (bNF hz) u_1)))<|Qa rfl u_0<|o_n) (fun a g hst hb=>?_)
 refine wp_ret ?_
 obtain rfl:=Option.some.inj H0
 exact Zx rfl hst hb (Zi (s:=4)) (hst.at 0 rfl)
theorem Zf7 (a0:List Za) {r:List Za} (h:Zcu a0=some r):FnOk Tryd.prog 22 [(Zc.sl.pd a0)] (Zc.sl.pd r):=by
 have H0:=h
 unfold Zcu at H0
 clear h
 refine Zcd (N:=49) Tryd.func22 rfl rfl (Qe rfl) rfl rfl (fun a g0 hst hb=>?_)
 refine r_s (T:=[⟨[],[(2,(Zc.sl.pd ([]:List Za)))],[],[],[2]⟩]) (F:=[.o 0]) hst hb Zb
  (o_p rfl (Zej rfl rfl (Opd.c (fun g=>Zh6 g)))<|o_n) (fun a g hst hb=>?_)
 refine r_s (T:=[⟨[],_,[],[],[7]⟩,⟨[.p 0 0],_,[],[0],[3]⟩]) (F:=[.o 0,.p 1 0]) hst hb Zb
  (o_p rfl (Zen Zer (xs:=[]) .nil (by decide) rfl rfl)<|Qa rfl u_0<|o_n) (fun a g hst hb=>?_)
 refine wp_seq ?_
 refine r_s (T:=[⟨[],_,[],[],[4]⟩]) (F:=[.o 0,.o 1,.p 0 0]) hst hb Zb
  (Qa rfl c_i<|o_n) (fun a g hst hb=>?_)
 obtain ⟨z24,hz1,H0⟩:=Zd H0
 refine Zb1 (fun a w=>∃ (y23:List Za) (g:G),w=g.w ∧ St 49 [(3,(Zc.sl.pd y23))] a g ∧ Base g0 g ∧ y23=z24) ?_ ?_
 ·rintro a w ⟨y23,g,rfl,hst,hb,rfl⟩
  refine Zg ?_
  refine r_s (T:=[⟨[.o 0],_,[],[],[48]⟩,⟨[.p 0 0],_,[],[0],[2]⟩]) (F:=[.p 1 0]) hst hb Zb
   (Qm rfl u_0<|Qa rfl u_0<|o_n) (fun a g hst hb=>?_)
  refine wp_ret ?_
  obtain rfl:=Option.some.inj H0
  exact Zx rfl hst hb (Zi (s:=2)) (hst.at 0 rfl)
 ·refine wp_block ?_
  refine wp_loop_ghost (fun n a w=>∃ (x1:List Za) (x2:Int) (g:G),w=g.w ∧ St 49 [(0,(Zc.sl.pd a0)),(3,(Zc.sl.pd x1)),(4,(pInt .i64 x2))] a g ∧ Base g0 g ∧ Zbh a0 n x1 x2=some z24) (Int.toNat ((a0.length:Int) - (0:Int)) + 1) ⟨([]:List Za),(0:Int),g,rfl,(hst.pick [0,1,2] rfl),hb,hz1⟩ (fun n a w hI=>?_)
  obtain ⟨x1,x2,g,rfl,hst,hb,H1⟩:=hI
  cases n with
  | zero=>exact absurd H1 (by simp [Zbh])
  | succ n =>
   rw [Zbh] at H1
   refine wp_seq ?_
   refine r_s (T:=[⟨[.o 2],_,[],[],[8]⟩,⟨[.o 0],_,[],[],[9]⟩,⟨[.p 1 0],_,[],[1],[10]⟩,⟨[.p 0 0,.p 2 0],_,[],[0,1,2],[11]⟩]) (F:=[.o 0,.o 1,.o 2,.p 3 0]) hst hb Zb
    (Qm rfl u_0<|Qm rfl u_0<|o_p rfl (Zbl Tryd.underlying28 rfl rfl u_0)<|o_p rfl (Zdf rfl rfl u_0 u_1)<|o_n) (fun a g hst hb=>?_)
   refine wp_cond_split (hst.bool 3 rfl) (fun hc3=>?_) (fun hc3=>?_)
   ·replace H1:=Zt hc3 H1
    refine wp_skip ?_
    refine Zg ?_
    refine wp_seq ?_
    refine wp_block ?_
    refine r_s (L:=[(0,_),(3,_),(4,_)]) (T:=[⟨[],_,[],[],[5]⟩]) (F:=[.o 0,.o 1,.o 2,.p 0 0]) (hst.pick [0,1,2] rfl) hb Zb
     (Qa rfl c_i<|o_n) (fun a g hst hb=>?_)
    obtain ⟨z13,hz2,H1⟩:=Zd H1
    refine wp_seq ?_
    refine Zb1 (fun a w=>∃ (y12:Int) (g:G),w=g.w ∧ St 49 [(0,(Zc.sl.pd a0)),(3,(Zc.sl.pd x1)),(4,(pInt .i64 x2)),(5,(pInt .i64 y12))] a g ∧ Base g0 g ∧ y12=z13) ?_ ?_
    ·rintro a w ⟨y12,g,rfl,hst,hb,rfl⟩
     refine Zg ?_
     obtain ⟨c14,h15,H1⟩:=Zd H1;obtain ⟨h16,H1⟩:=Zfj H1
     refine r_s (T:=[⟨[],_,[32],[],[31]⟩,⟨[.o 1],_,[],[],[32]⟩,⟨[.o 3],_,[],[],[33]⟩,⟨[.p 1 0,.p 2 0],_,[],[1,2],[34]⟩,⟨[.p 0 0,.p 3 0],_,[32],Lr 4,[31,35]⟩,⟨[.p 4 0],_,[],Lr 5,[6]⟩]) (F:=[.o 0,.o 1,.o 2,.o 3,.p 5 0]) hst hb Zb
      (o_p rfl (Zm4 31 Zer (xs:=[]) .nil (by decide) rfl rfl)<|Qm rfl u_0<|Qm rfl u_0<|o_p rfl (Zle Tryd.underlying28 Zdx rfl rfl u_0 u_1 h15)<|o_p rfl (Zg4 Zer rfl rfl u_0 u_1 h16)<|Qa rfl u_0<|o_n) (fun a g hst hb=>?_)
     obtain ⟨e17,h18,H1⟩:=Zd H1;obtain ⟨h19,H1⟩:=Zfj H1
     refine r_s (T:=[⟨[.o 4],_,[],[],[36]⟩,⟨[.o 0],_,[],[],[37]⟩,⟨[.o 2],_,[],[],[38]⟩,⟨[.p 1 0,.p 2 0],_,[],[1,2],[39]⟩,⟨[.p 3 0],_,[],[1,2,3],[40]⟩,⟨[.p 4 0],_,[],List.range' 1 4,[41]⟩,⟨[.p 0 0,.p 5 0],_,[32],Lr 6,[6,36,42]⟩,⟨[.p 6 0],_,[],Lr 7,[6]⟩]) (F:=[.o 0,.o 1,.o 2,.o 3,.p 7 0]) hst hb Zb
      (Qm rfl u_0<|Qm rfl u_0<|Qm rfl u_0<|o_p rfl (Zq Tryd.underlying28 Zdx rfl rfl u_0 u_1 h18)<|Ql rfl Zid u_0<|o_p rfl (Zen Zer (xs:=[.tmp 40]) (.cons u_0 .nil) (by decide) rfl rfl)<|o_p rfl (Zg4 Zer rfl rfl u_0 u_1 h19)<|Qa rfl u_0<|o_n) (fun a g hst hb=>?_)
     obtain ⟨c20,h21,H1⟩:=Zd H1;obtain ⟨h22,H1⟩:=Zfj H1
     refine r_g (T:=[⟨[.o 4],_,[],[],[43]⟩,⟨[.o 1],_,[],[],[44]⟩,⟨[.o 3],_,[],[],[45]⟩,⟨[.p 1 0,.p 2 0],_,[],[1,2],[46]⟩,⟨[.p 0 0,.p 3 0],_,[32],Lr 4,[6,43,47]⟩,⟨[.p 4 0],_,[],Lr 5,[3]⟩]) (F:=[.o 0,.p 5 0,.o 2]) hst hb Zb
      (Qm rfl u_0<|Qm rfl u_0<|Qm rfl u_0<|o_p rfl (Zlq Tryd.underlying28 Zdx rfl rfl u_0 u_1 h21)<|o_p rfl (Zg4 Zer rfl rfl u_0 u_1 h22)<|Qa rfl u_0<|o_n) (fun a g hst hb=>?_)
     refine Z2 ?_
     refine Zg ?_
     refine r_g (T:=[⟨[.o 2],_,[],[],[12]⟩,⟨[.p 0 0],_,[],[0],[13]⟩,⟨[.p 1 0],_,[],[0,1],[4]⟩]) (F:=[.o 0,.o 1,.p 2 0]) hst hb Zb
      (Qm rfl u_0<|o_p rfl (Zb7 rfl rfl u_0 c_i rfl)<|Qa rfl u_0<|o_n) (fun a g hst hb=>?_)
     exact ⟨n,Nat.lt_succ_self _,(((([]:List Za) ++ c14) ++ ([e17]:List Za)) ++ c20),(IntKind.i64.wrap (x2 + (1:Int))),g,rfl,⟨hst.size,hst.df,(Zcg (hst.at 0 rfl) (Zcg (Znp (hst.at 1 rfl)) (Zcg (hst.at 2 rfl) Zhl)))⟩,hb,H1⟩
    ·refine wp_block ?_
     refine wp_loop_ghost (fun n a w=>∃ (x4:Int) (g:G),w=g.w ∧ St 49 [(0,(Zc.sl.pd a0)),(3,(Zc.sl.pd x1)),(4,(pInt .i64 x2)),(5,(pInt .i64 x4))] a g ∧ Base g0 g ∧ Zbi a0 x1 x2 n x4=some z13) (Int.toNat ((x1.length:Int) - (0:Int)) + 1) ⟨(0:Int),g,rfl,(hst.pick [0,1,2,3] rfl),hb,hz2⟩ (fun n a w hI=>?_)
     obtain ⟨x4,g,rfl,hst,hb,H2⟩:=hI
     cases n with
     | zero=>exact absurd H2 (by simp [Zbi])
     | succ n =>
      rw [Zbi] at H2
      refine wp_seq ?_
      obtain ⟨e5,h6,H2⟩:=Zd H2;obtain ⟨e7,h8,H2⟩:=Zd H2;obtain ⟨r9,h10,H2⟩:=Zd H2
      refine r_s (T:=⟨[.o 3],_,[],[],[14]⟩ :: ⟨[.o 1],_,[],[],[15]⟩ :: ⟨[.p 1 0],_,[],[1],[16]⟩ :: ⟨[.p 0 0,.p 2 0],_,[],[0,1,2],[17]⟩ :: ⟨[.p 3 0],_,[],Lr 4,[18]⟩ :: ⟨[.p 4 0,.o 1],_,[],Lr 5,[19]⟩ :: ⟨[.p 4 0,.o 3],_,[],Lr 5,[20]⟩ :: ⟨[.p 4 0,.p 5 0,.p 6 0],_,[],Lr 7,[21]⟩ :: ⟨[.p 4 0,.p 7 0],_,[],Lr 8,[22]⟩ :: ⟨[.p 4 0,.o 0],_,[],Lr 5,[23]⟩ :: ⟨[.p 4 0,.o 2],_,[],Lr 5,[24]⟩ :: ⟨[.p 4 0,.p 9 0,.p 10 0],_,[],[0,1,2,3,4,9,10],[25]⟩ :: ⟨[.p 4 0,.p 11 0],_,[],[0,1,2,3,4,9,10,11],[26]⟩ :: ⟨[.p 4 0,.p 8 0,.p 12 0],_,[],Lr 13,[27]⟩ :: ⟨[.p 4 0,.p 13 0],_,[],Lr 14,[28]⟩ :: []) (F:=[.o 0,.o 1,.o 2,.o 3,.p 14 0]) hst hb Zb
       (Qm rfl u_0<|Qm rfl u_0<|o_p rfl (Zbl Tryd.underlying28 rfl rfl u_0)<|o_p rfl (Zdf rfl rfl u_0 u_1)<|Qm rfl u_0<|o_g (Qg_t rfl (fun hG=>Zbk rfl rfl u_0))<|o_g (Qg_t rfl (fun hG=>Zbk rfl rfl u_0))<|o_g (Qg_t rfl (fun hG=>Zq Tryd.underlying28 Zdx rfl rfl (Opd.gd hG u_0) (Opd.gd hG u_1) (Zc0 h6 hG)))<|o_g (Qg_t rfl (fun hG=>Zcq Zid rfl rfl (Opd.gd hG u_0)))<|o_g (Qg_t rfl (fun hG=>Zbk rfl rfl u_0))<|o_g (Qg_t rfl (fun hG=>Zbk rfl rfl u_0))<|o_g (Qg_t rfl (fun hG=>Zq Tryd.underlying28 Zdx rfl rfl (Opd.gd hG u_0) (Opd.gd hG u_1) (Zc0 h8 hG)))<|o_g (Qg_t rfl (fun hG=>Zcq Zid rfl rfl (Opd.gd hG u_0)))<|o_g (Qg_t rfl (fun hG=>Zbu Zrj (Zf0 _ _ (Zc0 h10 hG)) rfl rfl (.cons (Opd.gd hG u_0) (.cons (Opd.gd hG u_1) .nil))))<|o_p rfl (Zeu rfl rfl u_0 (fun hz=>(Opd.gd hz u_1)))<|o_n) (fun a g hst hb=>?_)
      refine wp_cond_split (hst.bool 4 rfl) (fun hc11=>?_) (fun hc11=>?_)
      ·replace H2:=Zt hc11 H2
       refine wp_skip ?_
       refine Zg ?_
       refine wp_block ?_
       refine r_g (L:=[(0,_),(3,_),(4,_),(5,_)]) (T:=[⟨[.o 3],_,[],[],[29]⟩,⟨[.p 0 0],_,[],[0],[30]⟩,⟨[.p 1 0],_,[],[0,1],[5]⟩]) (F:=[.o 0,.o 1,.o 2,.p 2 0]) (hst.pick [0,1,2,3] rfl) hb Zb
        (Qm rfl u_0<|o_p rfl (Zb7 rfl rfl u_0 c_i rfl)<|Qa rfl u_0<|o_n) (fun a g hst hb=>?_)
       refine Z2 ?_
       exact ⟨n,Nat.lt_succ_self _,(IntKind.i64.wrap (x4 + (1:Int))),g,rfl,(hst.pick [0,1,2,3] rfl),hb,H2⟩
      ·replace H2:=Zs hc11 H2
       refine wp_exit ?_
       refine Z0 ?_
       refine Z0 ?_
       refine Zbj ?_
       exact ⟨x4,g,rfl,(hst.pick [0,1,2,3] rfl),hb,Option.some.inj H2⟩
   ·replace H1:=Zs hc3 H1
    refine wp_exit ?_
    refine Z0 ?_
    refine Z0 ?_
    refine Zbj ?_
    exact ⟨x1,g,rfl,(hst.pick [1] rfl),hb,Option.some.inj H1⟩
end Go.CL
namespace Go.CL
open Go Go.RowKit
section
variable {P:Program} {N:Nat} {o:Oper} {uses outs:Zf} {S:List Nat} {d:Nat} {q:Pd} {x y z:Operand} {α β γ:Type} {kV:Kd γ} {raw:α → SlV × SlV → γ} {l1 l2:α → List β} {k:Kd α} {dk:Kd β} {t e j:Nat} {xv:α}
theorem ArrB.st {xs:List β} {g g':G} {v:Value} {B:Nat → Prop} (h:ArrB dk e xs g v B) (hle:g.le g') (hh:∀ c,B c → g'.w.heap[c]?=g.w.heap[c]?):ArrB dk e xs g' v B:=by
 rcases h with h | ⟨c,cap,cur,k1,k2,k3,k4,k5,k6,k7⟩
 · exact .inl h
 · exact .inr ⟨c,cap,cur,k1,k2,(hh c k2).trans k3,k4,k5,k6,fun i x hx=>dk.mono hle (k7 i x hx)⟩
end
section
variable {P:Program} {N:Nat} {o:Oper} {uses outs:Zf} {S:List Nat} {d:Nat} {q:Pd} {x y z:Operand} {α β γ:Type} {kV:Kd γ} {raw:α → SlV × SlV → γ} {l1 l2:α → List β} {dk:Kd β} {t e j:Nat}
structure OAt (kV:Kd γ) (raw:α → SlV × SlV → γ) (l1 l2:α → List β) (dk:Kd β) (e j:Nat) (x:α) (g:G) (b:Nat) (B:Nat → Prop) (s:SlV × SlV):Prop where
 heap:∃ cs t,g.w.heap[b]?=some (.cells (List.toArray cs) t (0,0)) ∧ kV.K g (raw x s) cs
 a1:ArrB dk e (l1 x) g (slv s.1) B
 a2:ArrB dk e (l2 x) g (slv s.2) B
 lt:b < g.w.heap.size
 own:g.own b=j + 1
 bown:∀ c,B c → c < g.w.heap.size ∧ g.own c=j + 1 + AUX
variable {xv:α}
theorem OAt.st {g g':G} {b:Nat} {B:Nat → Prop} {s:SlV × SlV} (h:OAt kV raw l1 l2 dk e j xv g b B s) (st:Step S g g') (h1:j + 1 ∉ S) (h2:j + 1 + AUX ∉ S):OAt kV raw l1 l2 dk e j xv g' b B s:=by
 obtain ⟨cs,t,e1,e2⟩:=h.heap
 obtain ⟨k1,_,k3⟩:=st.same b h.lt (by rw [h.own];exact h1)
 have hB:∀ c,B c → g'.w.heap[c]?=g.w.heap[c]?:=fun c hc=>(st.same c (h.bown c hc).1 (by rw [(h.bown c hc).2];exact h2)).1
 exact ⟨⟨cs,t,k1.trans e1,kV.mono st.le e2⟩,h.a1.st st.le hB,h.a2.st st.le hB,Nat.lt_of_lt_of_le h.lt st.le.size,k3.trans h.own,fun c hc=>by
   obtain ⟨m1,m2⟩:=h.bown c hc
   exact ⟨Nat.lt_of_lt_of_le m1 st.le.size,(st.same c m1 (by rw [m2];exact h2)).2.2.trans m2⟩⟩
theorem OB.ownA {xs:List β} {c:Option Nat} (h:OB P N o uses [(d,pOwn dk e j c (xs.map some))] S):OB P N o uses [(d,pArr dk e j xs)] S:=h.weak fun g a h en he=>by
 rw [List.mem_singleton.1 he]
 obtain ⟨b,cap,cur,hv,hO,_⟩:=h (d,pOwn dk e j c (xs.map some)) (List.mem_singleton.2 rfl)
 exact .inr ⟨b,cap,cur,by simpa using hv,hO⟩
end
section
variable {P:Program} {N:Nat} {o:Oper} {uses outs:Zf} {S:List Nat} {d:Nat} {q:Pd} {x y z:Operand} {α β γ:Type} {dk:Kd β} {t e j:Nat}
theorem Zpz {a:Act} {g0 g:G} {L:Zf} {i s:Nat} {xs:List β} (hi:L[i]?=some (s,pArr dk e j xs)) (hd:(L.eraseIdx i).all (fun x=>!(x.2.fp.contains (j + 1)))=true) (h:St N L a g) (hb:Base g0 g):∃ g',g'.w=g.w ∧ St N (L.set i (s,dk.sl.pd xs)) a g' ∧ Base g0 g':=by
 have h0:=h.h _ (List.mem_of_getElem? hi)
 have key:∀ g':G,Step [j + 1] g g' → (dk.sl.pd xs).p g' (Act.at a s) → g'.w=g.w → ∃ g',g'.w=g.w ∧ St N (L.set i (s,dk.sl.pd xs)) a g' ∧ Base g0 g':=fun g' hs hp hw=>by
   refine ⟨g',hw,⟨h.size,h.df,fun en he=>?_⟩,hb.step hs (by simp)⟩
   obtain ⟨k,hk⟩:=List.mem_iff_getElem?.1 he
   rw [List.getElem?_set] at hk
   split at hk
   · split at hk
     · obtain rfl:=Option.some.inj hk;exact hp
     · cases hk
   · rename_i hne
     have hm:en ∈ L.eraseIdx i:=List.mem_eraseIdx_iff_getElem?.2 ⟨k,fun e=>hne e.symm,hk⟩
     have:=List.all_eq_true.1 hd en hm
     refine en.2.st hs (fun j' hj' hS=>?_) (h.h en (List.mem_of_getElem? hk))
     rw [List.mem_singleton.1 hS] at hj'
     simp [hj'] at this
 rcases h0 with ⟨rfl,A,hv⟩ | ⟨b,cap,cur,hv,hO⟩
 · refine key g (Step.refl _ _) ?_ rfl
   show (dk.sl.pd []).p g (Act.at a s)
   rw [show Act.at a s=_ from hv]
   exact Kd.sl_V.2 ⟨A,0,rfl,Nat.le_refl _,by simp,.inl rfl⟩
 · refine key (g.give b hO.lt) (Zm8 hO.lt hO.own) ?_ rfl
   rw [show Act.at a s=_ from hv]
   exact Zom hO
end
end Go.CL
namespace Go.CL
open Go Go.RowKit Go.Proofs
theorem Zg0 (a0:List Za) (a1:Zr) {r:List Za} (h:Zb6 a0 a1=some r):FnOk Tryd.prog 10 [(Zc.sl.pd a0),(Zp.pd a1)] (Zc.sl.pd r):=by
 have H0:=h
 unfold Zb6 at H0
 clear h
 refine Zcd (N:=109) Tryd.func10 rfl rfl (Qe rfl) rfl rfl (fun a g0 hst hb=>?_)
 refine r_s (T:=[⟨[.o 1],_,[],[],[3]⟩,⟨[],[(4,(Zc.sl.pd ([]:List Za)))],[],[],[4]⟩]) (F:=[.o 0,.p 0 0]) hst hb Zb
  (Qb rfl u_0<|o_p rfl (Zej rfl rfl (Opd.c (fun g=>Zh6 g)))<|o_n) (fun a g hst hb=>?_)
 refine r_s (T:=[⟨[],_,[13],[],[12]⟩,⟨[.p 0 0],_,[],[0],[5]⟩]) (F:=[.o 0,.o 1,.p 1 0]) hst hb Zb
  (o_p rfl (OB.ownA (xs:=[]) (Zmw (ty:=0) Zer rfl rfl))<|Qa rfl u_0<|o_n) (fun a g hst hb=>?_)
 refine wp_seq ?_
 refine r_s (T:=[⟨[],_,[],[],[6]⟩]) (F:=[.o 0,.o 1,.o 2,.p 0 0]) hst hb Zb
  (Qa rfl c_i<|o_n) (fun a g hst hb=>?_)
 obtain ⟨z14,hz1,H0⟩:=Zd H0
 refine Zb1 (fun a w=>∃ (y13:List Za) (g:G),w=g.w ∧ St 109 [(3,(Zp.ptr a1)),(5,(pArr Zc 62 12 y13))] a g ∧ Base g0 g ∧ y13=z14) ?_ ?_
 ·rintro a w ⟨y13,g,rfl,hst,hb,rfl⟩
  refine Zg ?_
  refine wp_seq ?_
  refine r_s (T:=[⟨[],_,[],[],[7]⟩]) (F:=[.o 0,.o 1,.p 0 0]) hst hb Zb
   (Qa rfl c_i<|o_n) (fun a g hst hb=>?_)
  obtain ⟨z52,hz2,H0⟩:=Zd H0
  refine Zb1 (fun a w=>∃ (y51:List Za) (g:G),w=g.w ∧ St 109 [(5,(pArr Zc 62 12 y51))] a g ∧ Base g0 g ∧ y51=z52) ?_ ?_
  ·rintro a w ⟨y51,g,rfl,hst,hb,rfl⟩
   refine Zg ?_
   obtain ⟨g1,hw,hst,hb⟩:=Zpz (i:=0) rfl (by kernel_rfl) hst hb
   refine wp_seq ?_
   replace hst:St 109 [(5,(Zc.sl.pd y51))] a g1:=hst
   rw [← hw]
   obtain ⟨r53,h54,H0⟩:=Zd H0
   refine r_g (T:=[⟨[.o 0],_,[],[],[101]⟩,⟨[.p 0 0],_,[],[0],[102]⟩,⟨[.p 1 0],_,[],[0,1],[5]⟩]) (F:=[.p 2 0]) hst hb Zb
    (Qm rfl u_0<|o_p rfl (Zbu Zr3 (Zf7 _ h54) rfl rfl (.cons u_0 .nil))<|Qa rfl u_0<|o_n) (fun a g hst hb=>?_)
   refine Zg ?_
   refine wp_seq ?_
   refine r_s (T:=[⟨[.o 0],_,[],[],[103]⟩,⟨[.p 0 0],_,[],[0],[104]⟩,⟨[.p 1 0],_,[],[0,1],[105]⟩]) (F:=[.o 0,.p 2 0]) hst hb Zb
    (Qm rfl u_0<|o_p rfl (Zbl Tryd.underlying28 rfl rfl u_0)<|o_p rfl (Zdi rfl rfl u_0 c_i)<|o_n) (fun a g hst hb=>?_)
   refine Zb1 (fun a w=>∃ (j58:List Za) (g:G),w=g.w ∧ St 109 [(5,(Zc.sl.pd j58))] a g ∧ Base g0 g ∧ Zcp j58=some r) ?_ ?_
   ·rintro a w ⟨j58,g,rfl,hst,hb,H0⟩
    unfold Zcp at H0
    refine Zg ?_
    refine r_s (T:=[⟨[.o 0],_,[],[],[108]⟩,⟨[.p 0 0],_,[],[0],[4]⟩]) (F:=[.p 1 0]) hst hb Zb
     (Qm rfl u_0<|Qa rfl u_0<|o_n) (fun a g hst hb=>?_)
    refine wp_ret ?_
    obtain rfl:=Option.some.inj H0
    exact Zx rfl hst hb (Zi (s:=4)) (hst.at 0 rfl)
   ·refine wp_cond_split (hst.bool 1 rfl) (fun hc55=>?_) (fun hc55=>?_)
    ·replace H0:=Zt hc55 H0
     obtain ⟨c56,h57,H0⟩:=Zd H0
     refine r_g (L:=[(5,_)]) (T:=[⟨[.o 0],_,[],[],[106]⟩,⟨[.p 0 0],_,[],[0],[107]⟩,⟨[.p 1 0],_,[],[0,1],[5]⟩]) (F:=[.p 2 0]) (hst.pick [0] rfl) hb Zb
      (Qm rfl u_0<|o_p rfl (Zle Tryd.underlying28 Zdx rfl rfl u_0 c_i h57)<|Qa rfl u_0<|o_n) (fun a g hst hb=>?_)
     exact ⟨c56,g,rfl,(hst.pick [0] rfl),hb,H0⟩
    ·replace H0:=Zs hc55 H0
     refine wp_skip ?_
     exact ⟨r53,g,rfl,(hst.pick [0] rfl),hb,H0⟩
  ·refine wp_block ?_
   refine wp_loop_ghost (fun n a w=>∃ (x15:List Za) (x16:Int) (g:G),w=g.w ∧ St 109 [(3,(Zp.ptr a1)),(5,(pArr Zc 62 12 x15)),(7,(pInt .i64 x16))] a g ∧ Base g0 g ∧ Zbp a1 n x15 x16=some z52) (Int.toNat ((a1.Deals.length:Int) - (0:Int)) + 1) ⟨y13,(0:Int),g,rfl,(hst.pick [0,1,2] rfl),hb,hz2⟩ (fun n a w hI=>?_)
   obtain ⟨x15,x16,g,rfl,hst,hb,H1⟩:=hI
   cases n with
   | zero=>exact absurd H1 (by simp [Zbp])
   | succ n =>
    rw [Zbp] at H1
    refine wp_seq ?_
    refine r_s (T:=[⟨[.o 2],_,[],[],[40]⟩,⟨[.o 0],_,[],[],[41]⟩,⟨[.p 1 0],_,[],[1],[42]⟩,⟨[.p 2 0],_,[],[1,2],[43]⟩,⟨[.p 0 0,.p 3 0],_,[],Lr 4,[44]⟩]) (F:=[.o 0,.o 1,.o 2,.p 4 0]) hst hb Zb
     (Qm rfl u_0<|Qf rfl Zf3 u_0<|Ql rfl Ziv u_0<|o_p rfl (Zbl Tryd.underlying29 rfl rfl u_0)<|o_p rfl (Zdf rfl rfl u_0 u_1)<|o_n) (fun a g hst hb=>?_)
    refine wp_cond_split (hst.bool 3 rfl) (fun hc17=>?_) (fun hc17=>?_)
    ·replace H1:=Zt hc17 H1
     refine wp_skip ?_
     refine Zg ?_
     refine wp_seq ?_
     refine wp_block ?_
     refine r_s (L:=[(3,_),(5,_),(7,_)]) (T:=[⟨[],_,[],[],[8]⟩]) (F:=[.o 0,.o 1,.o 2,.p 0 0]) (hst.pick [0,1,2] rfl) hb Zb
      (Qa rfl c_i<|o_n) (fun a g hst hb=>?_)
     obtain ⟨z50,hz3,H1⟩:=Zd H1
     refine Zb1 (fun a w=>∃ (y49:List Za) (g:G),w=g.w ∧ St 109 [(3,(Zp.ptr a1)),(5,(pArr Zc 62 12 y49)),(7,(pInt .i64 x16))] a g ∧ Base g0 g ∧ y49=z50) ?_ ?_
     ·rintro a w ⟨y49,g,rfl,hst,hb,rfl⟩
      refine Z2 ?_
      refine Zg ?_
      refine r_g (T:=[⟨[.o 2],_,[],[],[45]⟩,⟨[.p 0 0],_,[],[0],[46]⟩,⟨[.p 1 0],_,[],[0,1],[7]⟩]) (F:=[.o 0,.o 1,.p 2 0]) hst hb Zb
       (Qm rfl u_0<|o_p rfl (Zb7 rfl rfl u_0 c_i rfl)<|Qa rfl u_0<|o_n) (fun a g hst hb=>?_)
      exact ⟨n,Nat.lt_succ_self _,y49,(IntKind.i64.wrap (x16 + (1:Int))),g,rfl,(hst.pick [0,1,2] rfl),hb,H1⟩
     ·refine wp_block ?_
      refine wp_loop_ghost (fun n a w=>∃ (x18:List Za) (x19:Int) (g:G),w=g.w ∧ St 109 [(3,(Zp.ptr a1)),(5,(pArr Zc 62 12 x18)),(7,(pInt .i64 x16)),(8,(pInt .i64 x19))] a g ∧ Base g0 g ∧ Z4 a1 x16 n x18 x19=some z50) ((idx a1.Deals x16).elim 0 fun e20=>(Int.toNat ((e20.Acts.length:Int) - (0:Int)) + 1)) ⟨x15,(0:Int),g,rfl,(hst.pick [0,1,2,3] rfl),hb,hz3⟩ (fun n a w hI=>?_)
      obtain ⟨x18,x19,g,rfl,hst,hb,H2⟩:=hI
      cases n with
      | zero=>exact absurd H2 (by simp [Z4])
      | succ n =>
       rw [Z4] at H2
       refine wp_seq ?_
       obtain ⟨e20,h21,H2⟩:=Zd H2
       refine r_s (T:=[⟨[.o 3],_,[],[],[47]⟩,⟨[.o 0],_,[],[],[48]⟩,⟨[.p 1 0],_,[],[1],[49]⟩,⟨[.o 2],_,[],[],[50]⟩,⟨[.p 2 0,.p 3 0],_,[],[1,2,3],[51]⟩,⟨[.p 4 0],_,[],List.range' 1 4,[52]⟩,⟨[.p 5 0],_,[],List.range' 1 5,[53]⟩,⟨[.p 6 0],_,[],List.range' 1 6,[54]⟩,⟨[.p 0 0,.p 7 0],_,[],Lr 8,[55]⟩]) (F:=[.o 0,.o 1,.o 2,.o 3,.p 8 0]) hst hb Zb
        (Qm rfl u_0<|Qf rfl Zf3 u_0<|Ql rfl Ziv u_0<|Qm rfl u_0<|o_p rfl (Zq Tryd.underlying29 Zj4 rfl rfl u_0 u_1 h21)<|Qf rfl Zf4 u_0<|Ql rfl Zik u_0<|o_p rfl (Zbl Tryd.underlying52 rfl rfl u_0)<|o_p rfl (Zdf rfl rfl u_0 u_1)<|o_n) (fun a g hst hb=>?_)
       refine wp_cond_split (hst.bool 4 rfl) (fun hc22=>?_) (fun hc22=>?_)
       ·replace H2:=Zt hc22 H2
        refine wp_skip ?_
        refine Zg ?_
        refine wp_seq ?_
        refine Zb1 (fun a w=>∃ (j48:List Za) (g:G),w=g.w ∧ St 109 [(3,(Zp.ptr a1)),(5,(pArr Zc 62 12 j48)),(7,(pInt .i64 x16)),(8,(pInt .i64 x19))] a g ∧ Base g0 g ∧ Zb4 x19 (Z4 a1 x16 n) j48=some z50) ?_ ?_
        ·rintro a w ⟨j48,g,rfl,hst,hb,H2⟩
         unfold Zb4 at H2
         refine Zg ?_
         refine r_g (T:=[⟨[.o 3],_,[],[],[56]⟩,⟨[.p 0 0],_,[],[0],[57]⟩,⟨[.p 1 0],_,[],[0,1],[8]⟩]) (F:=[.o 0,.o 1,.o 2,.p 2 0]) hst hb Zb
          (Qm rfl u_0<|o_p rfl (Zb7 rfl rfl u_0 c_i rfl)<|Qa rfl u_0<|o_n) (fun a g hst hb=>?_)
         exact ⟨n,Nat.lt_succ_self _,j48,(IntKind.i64.wrap (x19 + (1:Int))),g,rfl,(hst.pick [0,1,2,3] rfl),hb,H2⟩
        ·refine wp_block ?_
         obtain ⟨e23,h24,H2⟩:=Zd H2;obtain ⟨e25,h26,H2⟩:=Zd H2
         refine r_s (L:=[(3,_),(5,_),(7,_),(8,_)]) (T:=[⟨[.o 0],_,[],[],[58]⟩,⟨[.p 0 0],_,[],[0],[59]⟩,⟨[.o 2],_,[],[],[60]⟩,⟨[.p 1 0,.p 2 0],_,[],[0,1,2],[61]⟩,⟨[.p 3 0],_,[],Lr 4,[62]⟩,⟨[.p 4 0],_,[],Lr 5,[63]⟩,⟨[.o 3],_,[],[],[64]⟩,⟨[.p 5 0,.p 6 0],_,[],Lr 7,[65]⟩,⟨[.p 7 0],_,[],Lr 8,[66]⟩,⟨[],[(9,(pBox Zy 9 (default:Zo)))],[10],[],[9]⟩,⟨[.p 8 0,.p 9 0],_,[10],Lr 10,[9]⟩]) (F:=[.o 0,.o 1,.o 2,.o 3,.p 10 0]) (hst.pick [0,1,2,3] rfl) hb Zb
          (Qf rfl Zf3 u_0<|Ql rfl Ziv u_0<|Qm rfl u_0<|o_p rfl (Zq Tryd.underlying29 Zj4 rfl rfl u_0 u_1 h24)<|Qf rfl Zf4 u_0<|Ql rfl Zik u_0<|Qm rfl u_0<|o_p rfl (Zq Tryd.underlying52 Zmc rfl rfl u_0 u_1 h26)<|Ql rfl Zem u_0<|o_p rfl (Zc4 (zs:=[.int .i64 0,.string ByteArray.empty,.int .i64 0,.float .f64 0,.string ByteArray.empty,.int .i64 0,.int .i64 0,.int .i64 0,.int .i64 0,.float .f64 0,.int .i64 0,.string ByteArray.empty,.slice none 0 0,.bool false]) (by kernel_rfl) (fun g=>Zfc g) rfl rfl)<|o_p rfl (Zcv Zem rfl rfl u_1 u_0)<|o_n) (fun a g hst hb=>?_)
         refine wp_seq ?_
         obtain ⟨r27,h28,H2⟩:=Zd H2
         refine r_s (T:=[⟨[.o 4],_,[],[],[67]⟩,⟨[.p 0 0],_,[],[0],[68]⟩,⟨[.p 1 0],_,[],[0,1],[69]⟩,⟨[.p 2 0],_,[],[0,1,2],[70]⟩]) (F:=[.o 0,.o 1,.o 2,.o 3,.o 4,.p 3 0]) hst hb Zb
          (Qf rfl Zi0 u_0<|Ql rfl ty_3 u_0<|o_p rfl (Zbu Zrt (Zf2 _ h28) rfl rfl (.cons u_0 .nil))<|Qn rfl u_0<|o_n) (fun a g hst hb=>?_)
         refine wp_cond_split (hst.bool 5 rfl) (fun hc29=>?_) (fun hc29=>?_)
         ·replace H2:=Zt hc29 H2
          refine wp_exit ?_
          refine Z0 ?_
          refine Zbj ?_
          exact ⟨x18,g,rfl,(hst.pick [0,1,2,3] rfl),hb,H2⟩
         ·replace H2:=Zs hc29 H2
          refine wp_skip ?_
          refine Zg ?_
          refine r_s (L:=[(3,_),(5,_),(7,_),(8,_),(9,_)]) (T:=[⟨[],_,[],[],[10]⟩]) (F:=[.o 0,.o 1,.o 2,.o 3,.o 4,.p 0 0]) (hst.pick [0,1,2,3,4] rfl) hb Zb
           (Qa rfl c_b<|o_n) (fun a g hst hb=>?_)
          refine wp_seq ?_
          refine r_s (T:=[⟨[],_,[],[],[11]⟩]) (F:=[.o 0,.o 1,.o 2,.o 3,.o 4,.o 5,.p 0 0]) hst hb Zb
           (Qa rfl c_i<|o_n) (fun a g hst hb=>?_)
          obtain ⟨z45,hz4,H2⟩:=Zd H2
          refine Zb1 (fun a w=>∃ (y43:List Za) (y44:Bool) (g:G),w=g.w ∧ St 109 [(3,(Zp.ptr a1)),(5,(pArr Zc 62 12 y43)),(7,(pInt .i64 x16)),(8,(pInt .i64 x19)),(9,(Zy.ptr e25)),(10,(Zn y44))] a g ∧ Base g0 g ∧ (y43,y44)=z45) ?_ ?_
          ·rintro a w ⟨y43,y44,g,rfl,hst,hb,rfl⟩
           refine Zg ?_
           refine r_s (T:=[⟨[.o 5],_,[],[],[93]⟩,⟨[.p 0 0],_,[],[0],[94]⟩]) (F:=[.o 0,.o 1,.o 2,.o 3,.o 4,.p 1 0]) hst hb Zb
            (Qm rfl u_0<|Qn rfl u_0<|o_n) (fun a g hst hb=>?_)
           refine wp_cond_split (hst.bool 5 rfl) (fun hc46=>?_) (fun hc46=>?_)
           ·replace H2:=Zt hc46 H2
            obtain ⟨h47,H2⟩:=Zfj H2
            refine r_g (L:=[(3,_),(5,_),(7,_),(8,_),(9,_)]) (T:=[⟨[.o 1],_,[],[],[95]⟩,⟨[.o 4],_,[],[],[96]⟩,⟨[.p 1 0],_,[],[1],[97]⟩,⟨[.p 2 0],_,[],[1,2],[98]⟩,⟨[.p 3 0],_,[],[1,2,3],[99]⟩,⟨[.p 0 0,.p 4 0],_,[13],Lr 5,[5,95,100]⟩,⟨[.p 5 0],_,[],Lr 6,[5]⟩]) (F:=[.o 0,.p 6 0,.o 2,.o 3]) (hst.pick [0,1,2,3,4] rfl) hb Zb
             (Qm rfl u_0<|Qf rfl Zhq u_0<|Ql rfl ty_9 u_0<|o_p rfl (Zi9 rfl rfl u_0 c_i)<|o_p rfl (Zen Zer (xs:=[.tmp 98]) (.cons u_0 .nil) (by decide) rfl rfl)<|o_p rfl (Zgo Zer rfl rfl u_0 u_1 (by simp) h47)<|Qa rfl u_0<|o_n) (fun a g hst hb=>?_)
            refine Z2 ?_
            exact ⟨(y43 ++ ([({ Key:=e25.Key,Score:=(1:Int) }:Za)]:List Za)),g,rfl,(hst.pick [0,1,2,3] rfl),hb,H2⟩
           ·replace H2:=Zs hc46 H2
            refine wp_skip ?_
            refine Z2 ?_
            exact ⟨y43,g,rfl,(hst.pick [0,1,2,3] rfl),hb,H2⟩
          ·refine wp_block ?_
           refine wp_loop_ghost (fun n a w=>∃ (x30:List Za) (x31:Bool) (x32:Int) (g:G),w=g.w ∧ St 109 [(3,(Zp.ptr a1)),(5,(pArr Zc 62 12 x30)),(7,(pInt .i64 x16)),(8,(pInt .i64 x19)),(9,(Zy.ptr e25)),(10,(Zn x31)),(11,(pInt .i64 x32))] a g ∧ Base g0 g ∧ Z3 e25 n x30 x31 x32=some z45) (Int.toNat ((x18.length:Int) - (0:Int)) + 1) ⟨x18,false,(0:Int),g,rfl,(hst.pick [0,1,2,3,4,5,6] rfl),hb,hz4⟩ (fun n a w hI=>?_)
           obtain ⟨x30,x31,x32,g,rfl,hst,hb,H3⟩:=hI
           cases n with
           | zero=>exact absurd H3 (by simp [Z3])
           | succ n =>
            rw [Z3] at H3
            refine wp_seq ?_
            refine r_s (T:=[⟨[.o 6],_,[],[],[71]⟩,⟨[.o 1],_,[],[],[72]⟩,⟨[.p 1 0],_,[],[1],[73]⟩,⟨[.p 0 0,.p 2 0],_,[],[0,1,2],[74]⟩]) (F:=[.o 0,.o 1,.o 2,.o 3,.o 4,.o 5,.o 6,.p 3 0]) hst hb Zb
             (Qm rfl u_0<|Qm rfl u_0<|o_p rfl (Zqc Tryd.underlying28 rfl rfl u_0)<|o_p rfl (Zdf rfl rfl u_0 u_1)<|o_n) (fun a g hst hb=>?_)
            refine wp_cond_split (hst.bool 7 rfl) (fun hc33=>?_) (fun hc33=>?_)
            ·replace H3:=Zt hc33 H3
             refine wp_skip ?_
             refine Zg ?_
             refine wp_seq ?_
             refine Zb1 (fun a w=>∃ (j41:List Za) (j42:Bool) (g:G),w=g.w ∧ St 109 [(3,(Zp.ptr a1)),(5,(pArr Zc 62 12 j41)),(7,(pInt .i64 x16)),(8,(pInt .i64 x19)),(9,(Zy.ptr e25)),(10,(Zn j42)),(11,(pInt .i64 x32))] a g ∧ Base g0 g ∧ Zcn x32 (Z3 e25 n) j41 j42=some z45) ?_ ?_
             ·rintro a w ⟨j41,j42,g,rfl,hst,hb,H3⟩
              unfold Zcn at H3
              refine Zg ?_
              refine r_g (T:=[⟨[.o 6],_,[],[],[75]⟩,⟨[.p 0 0],_,[],[0],[76]⟩,⟨[.p 1 0],_,[],[0,1],[11]⟩]) (F:=[.o 0,.o 1,.o 2,.o 3,.o 4,.o 5,.p 2 0]) hst hb Zb
               (Qm rfl u_0<|o_p rfl (Zb7 rfl rfl u_0 c_i rfl)<|Qa rfl u_0<|o_n) (fun a g hst hb=>?_)
              exact ⟨n,Nat.lt_succ_self _,j41,j42,(IntKind.i64.wrap (x32 + (1:Int))),g,rfl,(hst.pick [0,1,2,3,4,5,6] rfl),hb,H3⟩
             ·refine wp_block ?_
              obtain ⟨e34,h35,H3⟩:=Zd H3
              refine r_s (L:=[(3,_),(5,_),(7,_),(8,_),(9,_),(10,_),(11,_)]) (T:=[⟨[.o 1],_,[],[],[77]⟩,⟨[.o 6],_,[],[],[78]⟩,⟨[.p 0 0,.p 1 0],_,[],[0,1],[79]⟩,⟨[.p 2 0],_,[],[0,1,2],[80]⟩,⟨[.p 3 0],_,[],Lr 4,[81]⟩,⟨[.o 4],_,[],[],[82]⟩,⟨[.p 5 0],_,[],[5],[83]⟩,⟨[.p 4 0,.p 6 0],_,[],Lr 7,[84]⟩]) (F:=[.o 0,.o 1,.o 2,.o 3,.o 4,.o 5,.o 6,.p 7 0]) (hst.pick [0,1,2,3,4,5,6] rfl) hb Zb
               (Qm rfl u_0<|Qm rfl u_0<|o_p rfl (Zhn Tryd.underlying28 Zdx rfl rfl u_0 u_1 h35)<|o_p rfl (Zgf Zev (off2:=0) (by kernel_rfl) (by decide) rfl rfl u_0)<|o_p rfl (Zjs ty_9 rfl rfl u_0)<|Qf rfl Zhq u_0<|Ql rfl ty_9 u_0<|o_p rfl (Zn8 rfl rfl u_0 u_1)<|o_n) (fun a g hst hb=>?_)
              refine wp_cond_split (hst.bool 7 rfl) (fun hc36=>?_) (fun hc36=>?_)
              ·replace H3:=Zt hc36 H3
               obtain ⟨e37,h38,H3⟩:=Zd H3;obtain ⟨e39,h40,H3⟩:=Zd H3
               refine r_s (L:=[(3,_),(5,_),(7,_),(8,_),(9,_),(11,_)]) (T:=[⟨[.o 1],_,[],[],[85]⟩,⟨[.o 5],_,[],[],[86]⟩,⟨[.p 0 0,.p 1 0],_,[],[0,1],[87]⟩,⟨[.p 2 0],_,[],[0,1,2],[88]⟩,⟨[.p 3 0],_,[],Lr 4,[89]⟩,⟨[.p 4 0],_,[],Lr 5,[90]⟩,⟨[.p 0 0,.p 1 0],_,[],Lr 6,[91]⟩,⟨[.p 6 0],_,[],Lr 7,[92]⟩,⟨[.p 5 0,.p 7 0,.o 1],_,[13],Lr 8,[5,85,87,88,91,92]⟩]) (F:=[.o 0,.p 8 0,.o 2,.o 3,.o 4,.o 5]) (hst.pick [0,1,2,3,4,6] rfl) hb Zb
                (Qm rfl u_0<|Qm rfl u_0<|o_p rfl (Zhn Tryd.underlying28 Zdx rfl rfl u_0 u_1 h38)<|o_p rfl (Zgf Zdu (off2:=1) (by kernel_rfl) (by decide) rfl rfl u_0)<|o_p rfl (Zjs ty_3 rfl rfl u_0)<|o_p rfl (Zb7 rfl rfl u_0 c_i rfl)<|o_p rfl (Zhn Tryd.underlying28 Zdx rfl rfl u_0 u_1 h40)<|o_p rfl (Zgf Zdu (off2:=1) (by kernel_rfl) (by decide) rfl rfl u_0)<|o_p rfl (Zlv ty_3 rfl rfl u_2 u_1 u_0 (Zqf h40) (by decide) (Zpy _ _))<|o_n) (fun a g hst hb=>?_)
               refine r_g (T:=[⟨[],_,[],[],[10]⟩]) (F:=[.o 0,.o 1,.o 2,.o 3,.o 4,.p 0 0,.o 5]) hst hb Zb
                (Qa rfl c_b<|o_n) (fun a g hst hb=>?_)
               refine Z2 ?_
               exact ⟨(x30.set (Int.toNat x32) { e39 with Score:=(IntKind.i64.wrap (e37.Score + (1:Int))) }),true,g,rfl,(hst.pick [0,1,2,3,4,5,6] rfl),hb,H3⟩
              ·replace H3:=Zs hc36 H3
               refine wp_skip ?_
               refine Z2 ?_
               exact ⟨x30,x31,g,rfl,(hst.pick [0,1,2,3,4,5,6] rfl),hb,H3⟩
            ·replace H3:=Zs hc33 H3
             refine wp_exit ?_
             refine Z0 ?_
             refine Z0 ?_
             refine Zbj ?_
             exact ⟨x30,x31,g,rfl,(hst.pick [0,1,2,3,4,5] rfl),hb,Option.some.inj H3⟩
       ·replace H2:=Zs hc22 H2
        refine wp_exit ?_
        refine Z0 ?_
        refine Z0 ?_
        refine Zbj ?_
        exact ⟨x18,g,rfl,(hst.pick [0,1,2] rfl),hb,Option.some.inj H2⟩
    ·replace H1:=Zs hc17 H1
     refine wp_exit ?_
     refine Z0 ?_
     refine Z0 ?_
     refine Zbj ?_
     exact ⟨x15,g,rfl,(hst.pick [1] rfl),hb,Option.some.inj H1⟩
 ·refine wp_block ?_
  refine wp_loop_ghost (fun n a w=>∃ (x1:List Za) (x2:Int) (g:G),w=g.w ∧ St 109 [(0,(Zc.sl.pd a0)),(3,(Zp.ptr a1)),(5,(pArr Zc 62 12 x1)),(6,(pInt .i64 x2))] a g ∧ Base g0 g ∧ Zba a0 n x1 x2=some z14) (Int.toNat ((a0.length:Int) - (0:Int)) + 1) ⟨([]:List Za),(0:Int),g,rfl,(hst.pick [0,1,2,3] rfl),hb,hz1⟩ (fun n a w hI=>?_)
  obtain ⟨x1,x2,g,rfl,hst,hb,H1⟩:=hI
  cases n with
  | zero=>exact absurd H1 (by simp [Zba])
  | succ n =>
   rw [Zba] at H1
   refine wp_seq ?_
   refine r_s (T:=[⟨[.o 3],_,[],[],[13]⟩,⟨[.o 0],_,[],[],[14]⟩,⟨[.p 1 0],_,[],[1],[15]⟩,⟨[.p 0 0,.p 2 0],_,[],[0,1,2],[16]⟩]) (F:=[.o 0,.o 1,.o 2,.o 3,.p 3 0]) hst hb Zb
    (Qm rfl u_0<|Qm rfl u_0<|o_p rfl (Zbl Tryd.underlying28 rfl rfl u_0)<|o_p rfl (Zdf rfl rfl u_0 u_1)<|o_n) (fun a g hst hb=>?_)
   refine wp_cond_split (hst.bool 4 rfl) (fun hc3=>?_) (fun hc3=>?_)
   ·replace H1:=Zt hc3 H1
    refine wp_skip ?_
    refine Zg ?_
    refine wp_seq ?_
    refine Zb1 (fun a w=>∃ (j12:List Za) (g:G),w=g.w ∧ St 109 [(0,(Zc.sl.pd a0)),(3,(Zp.ptr a1)),(5,(pArr Zc 62 12 j12)),(6,(pInt .i64 x2))] a g ∧ Base g0 g ∧ Zco x2 (Zba a0 n) j12=some z14) ?_ ?_
    ·rintro a w ⟨j12,g,rfl,hst,hb,H1⟩
     unfold Zco at H1
     refine Zg ?_
     refine r_g (T:=[⟨[.o 3],_,[],[],[17]⟩,⟨[.p 0 0],_,[],[0],[18]⟩,⟨[.p 1 0],_,[],[0,1],[6]⟩]) (F:=[.o 0,.o 1,.o 2,.p 2 0]) hst hb Zb
      (Qm rfl u_0<|o_p rfl (Zb7 rfl rfl u_0 c_i rfl)<|Qa rfl u_0<|o_n) (fun a g hst hb=>?_)
     exact ⟨n,Nat.lt_succ_self _,j12,(IntKind.i64.wrap (x2 + (1:Int))),g,rfl,(hst.pick [0,1,2,3] rfl),hb,H1⟩
    ·refine wp_block ?_
     obtain ⟨e4,h5,H1⟩:=Zd H1
     refine r_s (L:=[(0,_),(3,_),(5,_),(6,_)]) (T:=[⟨[.o 0],_,[],[],[19]⟩,⟨[.o 3],_,[],[],[20]⟩,⟨[.p 0 0,.p 1 0],_,[],[0,1],[21]⟩,⟨[.p 2 0],_,[],[0,1,2],[22]⟩,⟨[.p 3 0],_,[],Lr 4,[23]⟩,⟨[.p 4 0],_,[],Lr 5,[24]⟩]) (F:=[.o 0,.o 1,.o 2,.o 3,.p 5 0]) (hst.pick [0,1,2,3] rfl) hb Zb
      (Qm rfl u_0<|Qm rfl u_0<|o_p rfl (Zq Tryd.underlying28 Zdx rfl rfl u_0 u_1 h5)<|Qf rfl Zdu u_0<|Ql rfl ty_3 u_0<|o_p rfl (Zpm rfl rfl u_0 c_i)<|o_n) (fun a g hst hb=>?_)
     refine wp_cond_split (hst.bool 4 rfl) (fun hc6=>?_) (fun hc6=>?_)
     ·replace H1:=Zt hc6 H1
      obtain ⟨e7,h8,H1⟩:=Zd H1;obtain ⟨e9,h10,H1⟩:=Zd H1;obtain ⟨h11,H1⟩:=Zfj H1
      refine r_g (L:=[(0,_),(3,_),(5,_),(6,_)]) (T:=⟨[.o 2],_,[],[],[25]⟩ :: ⟨[.o 0],_,[],[],[26]⟩ :: ⟨[.o 3],_,[],[],[27]⟩ :: ⟨[.p 1 0,.p 2 0],_,[],[1,2],[28]⟩ :: ⟨[.p 3 0],_,[],[1,2,3],[29]⟩ :: ⟨[.p 4 0],_,[],List.range' 1 4,[30]⟩ :: ⟨[.o 0],_,[],[],[31]⟩ :: ⟨[.o 3],_,[],[],[32]⟩ :: ⟨[.p 6 0,.p 7 0],_,[],[6,7],[33]⟩ :: ⟨[.p 8 0],_,[],[6,7,8],[34]⟩ :: ⟨[.p 9 0],_,[],List.range' 6 4,[35]⟩ :: ⟨[.p 10 0],_,[],List.range' 6 5,[36]⟩ :: ⟨[.p 5 0,.p 11 0],_,[],List.range' 1 11,[37]⟩ :: ⟨[.p 12 0],_,[],List.range' 1 12,[38]⟩ :: ⟨[.p 0 0,.p 13 0],_,[13],Lr 14,[5,25,39]⟩ :: ⟨[.p 14 0],_,[],Lr 15,[5]⟩ :: []) (F:=[.o 0,.o 1,.p 15 0,.o 3]) (hst.pick [0,1,2,3] rfl) hb Zb
       (Qm rfl u_0<|Qm rfl u_0<|Qm rfl u_0<|o_p rfl (Zq Tryd.underlying28 Zdx rfl rfl u_0 u_1 h8)<|Qf rfl Zev u_0<|Ql rfl ty_9 u_0<|Qm rfl u_0<|Qm rfl u_0<|o_p rfl (Zq Tryd.underlying28 Zdx rfl rfl u_0 u_1 h10)<|Qf rfl Zdu u_0<|Ql rfl ty_3 u_0<|o_p rfl (Zms rfl rfl u_0 c_i (by decide))<|o_p rfl (Zi9 rfl rfl u_0 u_1)<|o_p rfl (Zen Zer (xs:=[.tmp 37]) (.cons u_0 .nil) (by decide) rfl rfl)<|o_p rfl (Zgo Zer rfl rfl u_0 u_1 (by simp) h11)<|Qa rfl u_0<|o_n) (fun a g hst hb=>?_)
      refine Z2 ?_
      exact ⟨(x1 ++ ([({ Key:=e7.Key,Score:=(IntKind.i64.wrap (Int.tdiv e9.Score (2:Int))) }:Za)]:List Za)),g,rfl,(hst.pick [0,1,2,3] rfl),hb,H1⟩
     ·replace H1:=Zs hc6 H1
      refine wp_skip ?_
      refine Z2 ?_
      exact ⟨x1,g,rfl,(hst.pick [0,1,2,3] rfl),hb,H1⟩
   ·replace H1:=Zs hc3 H1
    refine wp_exit ?_
    refine Z0 ?_
    refine Z0 ?_
    refine Zbj ?_
    exact ⟨x1,g,rfl,(hst.pick [1,2] rfl),hb,Option.some.inj H1⟩
theorem Zgz (a0:Zl) (a1:List Za) {r:Bool × Zl} (h:Zdy a0 a1=some r):FnMR Tryd.prog 11 Zw a0 r.2 [(Zc.sl.pd a1)] (Zn r.1):=by
 have H0:=h
 unfold Zdy at H0
 clear h
 refine Zp5 (N:=57) Tryd.func11 rfl rfl (Qe rfl) rfl rfl (fun a g0 b0 hst hb=>?_)
 replace hst:St 57 [(0,(Z8 (some b0) Zw 0 a0)),(1,(Zc.sl.pd a1))] _ _:=hst
 refine r_s (T:=[⟨[],_,[],[],[4]⟩]) (F:=[.o 0,.o 1]) hst hb Zb
  (Qa rfl c_b<|o_n) (fun a g hst hb=>?_)
 obtain ⟨r1,h2,H0⟩:=Zd H0
 refine r_s (T:=[⟨[.o 0],[(8,(Z8 (some b0) Zw 0 a0))],[],[],[8]⟩,⟨[.p 0 0,.o 0],[(9,(Zk.sl.pd r1)),(0,(Z8 (some b0) Zw 0 a0))],[1,1000001],[0],[0,8,9]⟩,⟨[.p 1 0],_,[],[0,1],[5]⟩]) (F:=[.p 1 1,.o 1,.p 2 0]) hst hb Zb
  (Qm rfl u_0<|o_p rfl (Zb8 Zl8 (Zfl _ h2) rfl rfl rfl (by decide) u_1 u_0 .nil)<|Qa rfl u_0<|o_n) (fun a g hst hb=>?_)
 refine wp_seq ?_
 obtain ⟨r3,h4,H0⟩:=Zd H0
 refine r_s (T:=⟨[.o 2],_,[],[],[10]⟩ :: ⟨[.p 0 0],_,[],[0],[11]⟩ :: ⟨[.o 1],_,[],[],[12]⟩ :: ⟨[.p 2 0],_,[],[2],[13]⟩ :: ⟨[.p 1 0,.p 3 0],_,[],Lr 4,[14]⟩ :: ⟨[.p 4 0],_,[],Lr 5,[15]⟩ :: ⟨[.p 5 0,.o 0],[(16,(pIf (!((r1.length:Int) != (a1.length:Int))) (Z8 (some b0) Zw 0 a0)))],[],Lr 6,[16]⟩ :: ⟨[.p 5 0,.p 6 0,.o 0],[(17,(pIf (!((r1.length:Int) != (a1.length:Int))) (pInt .i64 r3))),(0,(Z8 (some b0) Zw 0 a0))],[1,1000001],Lr 7,[0,16,17]⟩ :: ⟨[.p 5 0,.o 1],_,[],Lr 6,[18]⟩ :: ⟨[.p 5 0,.p 8 0],_,[],[0,1,2,3,4,5,8],[19]⟩ :: ⟨[.p 5 0,.p 7 0,.p 9 0],_,[],Lr 10,[20]⟩ :: ⟨[.p 5 0,.p 10 0],_,[],Lr 11,[21]⟩ :: []) (F:=[.p 7 1,.o 1,.o 2,.p 11 0]) hst hb Zb
  (Qm rfl u_0<|o_p rfl (Zbl Tryd.underlying41 rfl rfl u_0)<|Qm rfl u_0<|o_p rfl (Zbl Tryd.underlying28 rfl rfl u_0)<|o_p rfl (Zgn rfl rfl u_0 u_1)<|Qm rfl u_0<|o_g (Qg_f rfl (fun hG=>Zbk rfl rfl u_0))<|o_g (OT.guardMR (!((r1.length:Int) != (a1.length:Int))) (gF ((r1.length:Int) != (a1.length:Int))).1 (gF ((r1.length:Int) != (a1.length:Int))).2 rfl rfl rfl (by decide) u_1 (fun hG=>Zb8 Zl9 (Zeh _ (Zc0 h4 hG)) rfl rfl rfl (by decide) u_1 (Opd.gd hG u_0) .nil) (ite_self _).symm)<|o_g (Qg_f rfl (fun hG=>Zbk rfl rfl u_0))<|o_g (Qg_f rfl (fun hG=>Zbl Tryd.underlying28 rfl rfl (Opd.gd hG u_0)))<|o_g (Qg_f rfl (fun hG=>Zgn rfl rfl (Opd.gd hG u_0) (Opd.gd hG u_1)))<|o_p rfl (Zcw rfl rfl u_0 (fun hz=>(Opd.gd (bNF hz) u_1)))<|o_n) (fun a g hst hb=>?_)
 refine wp_cond_split (hst.bool 3 rfl) (fun hc5=>?_) (fun hc5=>?_)
 ·replace H0:=Zt hc5 H0
  refine r_s (L:=[(0,_)]) (T:=[⟨[],_,[],[],[4]⟩]) (F:=[.o 0,.p 0 0]) (hst.pick [0] rfl) hb Zb
   (Qa rfl c_b<|o_n) (fun a g hst hb=>?_)
  refine wp_ret ?_
  refine Zm ?_
  obtain rfl:=Option.some.inj H0
  exact Zl0 rfl hst hb (Zi (s:=4)) (hst.at 1 rfl) (hst.at 0 rfl)
 ·replace H0:=Zs hc5 H0
  refine wp_skip ?_
  refine Zg ?_
  refine wp_seq ?_
  refine r_s (L:=[(0,_),(1,_),(5,_)]) (T:=[⟨[.o 1],_,[],[],[22]⟩,⟨[.p 0 0],_,[],[0],[23]⟩,⟨[],_,[],[],[24]⟩]) (F:=[.o 0,.o 2,.p 0 0,.p 1 0,.p 2 0]) (hst.pick [0,1,2] rfl) hb Zb
   (Qm rfl u_0<|o_p rfl (Zbl Tryd.underlying28 rfl rfl u_0)<|Qm rfl c_i<|o_n) (fun a g hst hb=>?_)
  obtain ⟨z19,hz1,H0⟩:=Zd H0
  refine Zb1 (fun a w=>∃ (y18:Zl) (g:G),w=g.w ∧ St 57 [(0,(Z8 (some b0) Zw 0 y18))] a g ∧ Base g0 g ∧ (.inr y18)=z19) ?_ ?_
  ·rintro a w ⟨y18,g,rfl,hst,hb,rfl⟩
   refine Zg ?_
   refine r_s (T:=[⟨[],_,[],[],[4]⟩]) (F:=[.o 0,.p 0 0]) hst hb Zb
    (Qa rfl c_b<|o_n) (fun a g hst hb=>?_)
   refine wp_ret ?_
   obtain rfl:=Option.some.inj H0
   exact Zl0 rfl hst hb (Zi (s:=4)) (hst.at 1 rfl) (hst.at 0 rfl)
  ·refine wp_block ?_
   refine wp_loop_ghost (fun n a w=>∃ (x6:Zl) (x7:Int) (g:G),w=g.w ∧ St 57 [(0,(Z8 (some b0) Zw 0 x6)),(5,(Zk.sl.pd r1)),(22,(Zc.sl.pd a1)),(23,(pInt .i64 (a1.length:Int))),(24,(pInt .i64 x7))] a g ∧ Base g0 g ∧ Zbx a1 r1 n x6 x7=some z19) (Int.toNat ((a1.length:Int) - (0:Int)) + 1) ⟨a0,(0:Int),g,rfl,(hst.pick [0,1,2,3,4] rfl),hb,hz1⟩ (fun n a w hI=>?_)
   obtain ⟨x6,x7,g,rfl,hst,hb,H1⟩:=hI
   cases n with
   | zero=>exact absurd H1 (by simp [Zbx])
   | succ n =>
    rw [Zbx] at H1
    refine r_s (T:=[⟨[.o 4,.o 3],_,[],[],[25]⟩]) (F:=[.o 0,.o 1,.o 2,.o 3,.o 4,.p 0 0]) hst hb Zb
     (o_p rfl (Zdf rfl rfl u_0 u_1)<|o_n) (fun a g hst hb=>?_)
    refine wp_seq ?_
    refine wp_cond_split (hst.bool 5 rfl) (fun hc8=>?_) (fun hc8=>?_)
    ·replace H1:=Zt hc8 H1
     refine wp_skip ?_
     refine Zg ?_
     refine wp_seq ?_
     refine wp_block ?_
     obtain ⟨e9,h10,H1⟩:=Zd H1
     refine r_s (L:=[(0,_),(5,_),(22,_),(23,_),(24,_)]) (T:=[⟨[.o 4],_,[],[],[26]⟩,⟨[.o 2,.o 4],_,[],[],[27]⟩,⟨[.p 1 0],_,[],[1],[28]⟩,⟨[],[(7,(pBox Zc 7 (default:Za)))],[8],[],[7]⟩,⟨[.p 0 0],_,[],Lr 4,[6]⟩,⟨[.p 2 0,.p 3 0],_,[8],Lr 5,[7]⟩]) (F:=[.o 0,.o 1,.p 4 0,.p 5 0,.o 2,.o 3,.o 4]) (hst.pick [0,1,2,3,4] rfl) hb Zb
      (Qm rfl u_0<|o_p rfl (Zq Tryd.underlying28 Zdx rfl rfl u_0 u_1 h10)<|Ql rfl Zid u_0<|o_p rfl (Zc4 (zs:=[.string ByteArray.empty,.int .i64 0]) (by kernel_rfl) (fun g=>Zg1 g) rfl rfl)<|Qa rfl u_0<|o_p rfl (Zcv Zid rfl rfl u_1 u_0)<|o_n) (fun a g hst hb=>?_)
     obtain ⟨e11,h12,H1⟩:=Zd H1;obtain ⟨e13,h14,H1⟩:=Zd H1;obtain ⟨r15,h16,H1⟩:=Zd H1
     refine r_s (T:=⟨[.o 1],_,[],[],[29]⟩ :: ⟨[.o 2],_,[],[],[30]⟩ :: ⟨[.p 0 0,.p 1 0],_,[],[0,1],[31]⟩ :: ⟨[.p 2 0],_,[],[0,1,2],[32]⟩ :: ⟨[.p 3 0],_,[],Lr 4,[33]⟩ :: ⟨[.o 3],_,[],[],[34]⟩ :: ⟨[.p 5 0],_,[],[5],[35]⟩ :: ⟨[.p 4 0,.p 6 0],_,[],Lr 7,[36]⟩ :: ⟨[.p 7 0],_,[],Lr 8,[37]⟩ :: ⟨[.p 8 0,.o 1],_,[],Lr 9,[38]⟩ :: ⟨[.p 8 0,.o 2],_,[],Lr 9,[39]⟩ :: ⟨[.p 8 0,.p 9 0,.p 10 0],_,[],Lr 11,[40]⟩ :: ⟨[.p 8 0,.p 11 0],_,[],Lr 12,[41]⟩ :: ⟨[.p 8 0,.p 12 0],_,[],Lr 13,[42]⟩ :: ⟨[.p 8 0,.o 3],_,[],Lr 9,[43]⟩ :: ⟨[.p 8 0,.p 14 0],_,[],[0,1,2,3,4,5,6,7,8,14],[44]⟩ :: ⟨[.p 8 0,.p 13 0,.p 15 0],_,[],Lr 16,[45]⟩ :: ⟨[.p 8 0,.p 16 0],_,[],Lr 17,[46]⟩ :: ⟨[.p 17 0],_,[],Lr 18,[47]⟩ :: ⟨[.p 18 0,.o 0],[(48,(pIf (!((!sEq e11.Key e9.Key) || (e13.Score != e9.Score))) (Z8 (some b0) Zw 0 x6)))],[],Lr 19,[48]⟩ :: ⟨[.p 18 0,.o 3],_,[],Lr 19,[49]⟩ :: ⟨[.p 18 0,.p 20 0],_,[],0 :: 1 :: 2 :: 3 :: 4 :: 5 :: 6 :: 7 :: 8 :: 9 :: 10 :: 11 :: 12 :: 13 :: 14 :: 15 :: 16 :: 17 :: 18 :: 20 :: [],[50]⟩ :: ⟨[.p 18 0,.p 19 0,.p 21 0,.o 0],[(51,(pIf (!((!sEq e11.Key e9.Key) || (e13.Score != e9.Score))) (pInt .i64 r15))),(0,(Z8 (some b0) Zw 0 x6))],[1,1000001],Lr 22,[0,48,51]⟩ :: ⟨[.p 18 0,.o 3],_,[],Lr 19,[52]⟩ :: ⟨[.p 18 0,.p 23 0],_,[],0 :: 1 :: 2 :: 3 :: 4 :: 5 :: 6 :: 7 :: 8 :: 9 :: 10 :: 11 :: 12 :: 13 :: 14 :: 15 :: 16 :: 17 :: 18 :: 23 :: [],[53]⟩ :: ⟨[.p 18 0,.p 22 0,.p 24 0],_,[],Lr 25,[54]⟩ :: ⟨[.p 18 0,.p 25 0],_,[],Lr 26,[55]⟩ :: []) (F:=[.p 22 1,.o 1,.o 4,.o 5,.o 6,.p 26 0]) hst hb Zb
      (Qm rfl u_0<|Qm rfl u_0<|o_p rfl (Zq Tryd.underlying41 Zit rfl rfl u_0 u_1 h12)<|Qf rfl Zhu u_0<|Ql rfl ty_9 u_0<|Qf rfl Zev u_0<|Ql rfl ty_9 u_0<|o_p rfl (Znr rfl rfl u_0 u_1)<|Qm rfl u_0<|o_g (Qg_f rfl (fun hG=>Zbk rfl rfl u_0))<|o_g (Qg_f rfl (fun hG=>Zbk rfl rfl u_0))<|o_g (Qg_f rfl (fun hG=>Zq Tryd.underlying41 Zit rfl rfl (Opd.gd hG u_0) (Opd.gd hG u_1) (Zc0 h14 hG)))<|o_g (Qg_f rfl (fun hG=>Zbv Zi2 rfl rfl (Opd.gd hG u_0)))<|o_g (Qg_f rfl (fun hG=>Zcq ty_3 rfl rfl (Opd.gd hG u_0)))<|o_g (Qg_f rfl (fun hG=>Zbv Zdu rfl rfl u_0))<|o_g (Qg_f rfl (fun hG=>Zcq ty_3 rfl rfl (Opd.gd hG u_0)))<|o_g (Qg_f rfl (fun hG=>Zgn rfl rfl (Opd.gd hG u_0) (Opd.gd hG u_1)))<|o_p rfl (Zcw rfl rfl u_0 (fun hz=>(Opd.gd (bNF hz) u_1)))<|Qm rfl u_0<|o_g (Qg_f rfl (fun hG=>Zbk rfl rfl u_0))<|o_g (Qg_f rfl (fun hG=>Zbv Zev rfl rfl u_0))<|o_g (Qg_f rfl (fun hG=>Zcq ty_9 rfl rfl (Opd.gd hG u_0)))<|o_g (OT.guardMR (!((!sEq e11.Key e9.Key) || (e13.Score != e9.Score))) (gF ((!sEq e11.Key e9.Key) || (e13.Score != e9.Score))).1 (gF ((!sEq e11.Key e9.Key) || (e13.Score != e9.Score))).2 rfl rfl rfl (by decide) u_2 (fun hG=>Zb8 Zj3 (Zdl _ _ (Zc0 h16 hG)) rfl rfl rfl (by decide) u_2 (Opd.gd hG u_0) (.cons (Opd.gd hG u_1) .nil)) (ite_self _).symm)<|o_g (Qg_f rfl (fun hG=>Zbv Zdu rfl rfl u_0))<|o_g (Qg_f rfl (fun hG=>Zcq ty_3 rfl rfl (Opd.gd hG u_0)))<|o_g (Qg_f rfl (fun hG=>Zgn rfl rfl (Opd.gd hG u_0) (Opd.gd hG u_1)))<|o_p rfl (Zcw rfl rfl u_0 (fun hz=>(Opd.gd (bNF hz) u_1)))<|o_n) (fun a g hst hb=>?_)
     refine wp_cond_split (hst.bool 5 rfl) (fun hc17=>?_) (fun hc17=>?_)
     ·replace H1:=Zt hc17 H1
      refine r_s (L:=[(0,_)]) (T:=[⟨[],_,[],[],[4]⟩]) (F:=[.o 0,.p 0 0]) (hst.pick [0] rfl) hb Zb
       (Qa rfl c_b<|o_n) (fun a g hst hb=>?_)
      refine wp_ret ?_
      refine Zbs ?_
      refine Zm ?_
      refine Zm ?_
      refine Zbs ?_
      refine Zm ?_
      refine Zm ?_
      obtain rfl:=Option.some.inj H1
      obtain rfl:=Option.some.inj H0
      exact Zl0 rfl hst hb (Zi (s:=4)) (hst.at 1 rfl) (hst.at 0 rfl)
     ·replace H1:=Zs hc17 H1
      refine wp_skip ?_
      refine Z2 ?_
      refine Zg ?_
      refine r_g (L:=[(0,_),(5,_),(22,_),(23,_),(24,_)]) (T:=[⟨[.o 4],_,[],[],[56]⟩,⟨[.p 0 0],_,[],[0],[24]⟩]) (F:=[.o 0,.o 1,.o 2,.o 3,.p 1 0]) (hst.pick [0,1,2,3,4] rfl) hb Zb
       (o_p rfl (Zb7 rfl rfl u_0 c_i rfl)<|Qm rfl u_0<|o_n) (fun a g hst hb=>?_)
      exact ⟨n,Nat.lt_succ_self _,x6,(IntKind.i64.wrap (x7 + (1:Int))),g,rfl,(hst.pick [0,1,2,3,4] rfl),hb,H1⟩
    ·replace H1:=Zs hc8 H1
     refine wp_exit ?_
     refine Z0 ?_
     refine Z0 ?_
     refine Zbj ?_
     exact ⟨x6,g,rfl,(hst.pick [0] rfl),hb,Option.some.inj H1⟩
theorem Zhw (a0:Zl) (a1:List Za) {r:Zl × Bool} (h:Zeb a0 a1=some r):FnMR Tryd.prog 11 Zw a0 r.1 [(Zc.sl.pd a1)] (Zn r.2):=by
 obtain ⟨u,h1,h2⟩:=Zd h
 obtain rfl:=Option.some.inj h2
 exact Zgz a0 a1 h1
theorem Zgj (a0:List Za) (a1:ByteArray) {r:Int} (h:Zc5 a0 a1=some r):FnOk Tryd.prog 13 [(Zc.sl.pd a0),(pStr a1)] (pInt .i64 r):=by
 have H0:=h
 unfold Zc5 at H0
 clear h
 refine Zcd (N:=24) Tryd.func13 rfl rfl (Qe rfl) rfl rfl (fun a g0 hst hb=>?_)
 refine r_s (T:=[⟨[],_,[],[],[4]⟩]) (F:=[.o 0,.o 1]) hst hb Zb
  (Qa rfl c_i<|o_n) (fun a g hst hb=>?_)
 refine wp_seq ?_
 refine r_s (T:=[⟨[],_,[],[],[5]⟩]) (F:=[.o 0,.o 1,.p 0 0]) hst hb Zb
  (Qa rfl c_i<|o_n) (fun a g hst hb=>?_)
 obtain ⟨z8,hz1,H0⟩:=Zd H0
 refine Zb1 (fun a w=>∃ (g:G),w=g.w ∧ St 24 [] a g ∧ Base g0 g ∧ (.inr ())=z8) ?_ ?_
 ·rintro a w ⟨g,rfl,hst,hb,rfl⟩
  refine Zg ?_
  refine r_s (T:=[⟨[],_,[],[],[4]⟩]) (F:=[.p 0 0]) hst hb Zb
   (Qa rfl c_i<|o_n) (fun a g hst hb=>?_)
  refine wp_ret ?_
  obtain rfl:=Option.some.inj H0
  exact Zx rfl hst hb (Zi (s:=4)) (hst.at 0 rfl)
 ·refine wp_block ?_
  refine wp_loop_ghost (fun n a w=>∃ (x1:Int) (g:G),w=g.w ∧ St 24 [(0,(Zc.sl.pd a0)),(1,(pStr a1)),(5,(pInt .i64 x1))] a g ∧ Base g0 g ∧ Zbo a0 a1 n x1=some z8) (Int.toNat ((a0.length:Int) - (0:Int)) + 1) ⟨(0:Int),g,rfl,(hst.pick [0,1,2] rfl),hb,hz1⟩ (fun n a w hI=>?_)
  obtain ⟨x1,g,rfl,hst,hb,H1⟩:=hI
  cases n with
  | zero=>exact absurd H1 (by simp [Zbo])
  | succ n =>
   rw [Zbo] at H1
   refine wp_seq ?_
   refine r_s (T:=[⟨[.o 2],_,[],[],[6]⟩,⟨[.o 0],_,[],[],[7]⟩,⟨[.p 1 0],_,[],[1],[8]⟩,⟨[.p 0 0,.p 2 0],_,[],[0,1,2],[9]⟩]) (F:=[.o 0,.o 1,.o 2,.p 3 0]) hst hb Zb
    (Qm rfl u_0<|Qm rfl u_0<|o_p rfl (Zbl Tryd.underlying28 rfl rfl u_0)<|o_p rfl (Zdf rfl rfl u_0 u_1)<|o_n) (fun a g hst hb=>?_)
   refine wp_cond_split (hst.bool 3 rfl) (fun hc2=>?_) (fun hc2=>?_)
   ·replace H1:=Zt hc2 H1
    refine wp_skip ?_
    refine Zg ?_
    refine wp_seq ?_
    refine wp_block ?_
    obtain ⟨e3,h4,H1⟩:=Zd H1
    refine r_s (L:=[(0,_),(1,_),(5,_)]) (T:=[⟨[.o 0],_,[],[],[12]⟩,⟨[.o 2],_,[],[],[13]⟩,⟨[.p 0 0,.p 1 0],_,[],[0,1],[14]⟩,⟨[.p 2 0],_,[],[0,1,2],[15]⟩,⟨[.p 3 0],_,[],Lr 4,[16]⟩,⟨[.o 1],_,[],[],[17]⟩,⟨[.p 4 0,.p 5 0],_,[],Lr 6,[18]⟩]) (F:=[.o 0,.o 1,.o 2,.p 6 0]) (hst.pick [0,1,2] rfl) hb Zb
     (Qm rfl u_0<|Qm rfl u_0<|o_p rfl (Zq Tryd.underlying28 Zdx rfl rfl u_0 u_1 h4)<|Qf rfl Zev u_0<|Ql rfl ty_9 u_0<|Qm rfl u_0<|o_p rfl (Zn8 rfl rfl u_0 u_1)<|o_n) (fun a g hst hb=>?_)
    refine wp_cond_split (hst.bool 3 rfl) (fun hc5=>?_) (fun hc5=>?_)
    ·replace H1:=Zt hc5 H1
     obtain ⟨e6,h7,H1⟩:=Zd H1
     refine r_s (L:=[(0,_),(5,_)]) (T:=[⟨[.o 0],_,[],[],[19]⟩,⟨[.o 1],_,[],[],[20]⟩,⟨[.p 0 0,.p 1 0],_,[],[0,1],[21]⟩,⟨[.p 2 0],_,[],[0,1,2],[22]⟩,⟨[.p 3 0],_,[],Lr 4,[23]⟩,⟨[.p 4 0],_,[],Lr 5,[4]⟩]) (F:=[.p 5 0]) (hst.pick [0,2] rfl) hb Zb
      (Qm rfl u_0<|Qm rfl u_0<|o_p rfl (Zq Tryd.underlying28 Zdx rfl rfl u_0 u_1 h7)<|Qf rfl Zdu u_0<|Ql rfl ty_3 u_0<|Qa rfl u_0<|o_n) (fun a g hst hb=>?_)
     refine wp_ret ?_
     refine Zbs ?_
     refine Zm ?_
     refine Zm ?_
     refine Zbs ?_
     refine Zm ?_
     refine Zm ?_
     obtain rfl:=Option.some.inj H1
     obtain rfl:=Option.some.inj H0
     exact Zx rfl hst hb (Zi (s:=4)) (hst.at 0 rfl)
    ·replace H1:=Zs hc5 H1
     refine wp_skip ?_
     refine Z2 ?_
     refine Zg ?_
     refine r_g (L:=[(0,_),(1,_),(5,_)]) (T:=[⟨[.o 2],_,[],[],[10]⟩,⟨[.p 0 0],_,[],[0],[11]⟩,⟨[.p 1 0],_,[],[0,1],[5]⟩]) (F:=[.o 0,.o 1,.p 2 0]) (hst.pick [0,1,2] rfl) hb Zb
      (Qm rfl u_0<|o_p rfl (Zb7 rfl rfl u_0 c_i rfl)<|Qa rfl u_0<|o_n) (fun a g hst hb=>?_)
     exact ⟨n,Nat.lt_succ_self _,(IntKind.i64.wrap (x1 + (1:Int))),g,rfl,(hst.pick [0,1,2] rfl),hb,H1⟩
   ·replace H1:=Zs hc2 H1
    refine wp_exit ?_
    refine Z0 ?_
    refine Z0 ?_
    refine Zbj ?_
    exact ⟨g,rfl,(hst.pick [] rfl),hb,Option.some.inj H1⟩
theorem Zfq (a0:List Zr) (a1:ByteArray) {r:Bool} (h:Zcz a0 a1=some r):FnOk Tryd.prog 3 [(Zp.sl.pd a0),(pStr a1)] (Zn r):=by
 have H0:=h
 unfold Zcz at H0
 clear h
 refine Zcd (N:=40) Tryd.func3 rfl rfl (Qe rfl) rfl rfl (fun a g0 hst hb=>?_)
 refine r_s (T:=[⟨[],_,[],[],[4]⟩]) (F:=[.o 0,.o 1]) hst hb Zb
  (Qa rfl c_b<|o_n) (fun a g hst hb=>?_)
 refine wp_seq ?_
 obtain ⟨r1,h2,H0⟩:=Zd H0
 refine r_s (T:=[⟨[],_,[],[],[9]⟩,⟨[.p 0 0],_,[],[0],[10]⟩]) (F:=[.o 0,.o 1,.p 1 0]) hst hb Zb
  (o_p rfl (Zbu en_7 (Zfz h2) rfl rfl .nil)<|Qn rfl u_0<|o_n) (fun a g hst hb=>?_)
 refine wp_cond_split (hst.bool 2 rfl) (fun hc3=>?_) (fun hc3=>?_)
 ·replace H0:=Zt hc3 H0
  refine r_s (L:=[]) (T:=[⟨[],_,[],[],[4]⟩]) (F:=[.p 0 0]) (hst.pick [] rfl) hb Zb
   (Qa rfl c_b<|o_n) (fun a g hst hb=>?_)
  refine wp_ret ?_
  refine Zm ?_
  obtain rfl:=Option.some.inj H0
  exact Zx rfl hst hb (Zi (s:=4)) (hst.at 0 rfl)
 ·replace H0:=Zs hc3 H0
  refine wp_skip ?_
  refine Zg ?_
  refine wp_seq ?_
  obtain ⟨r4,h5,H0⟩:=Zd H0
  refine r_s (L:=[(0,_),(1,_)]) (T:=[⟨[.o 0],_,[],[],[11]⟩,⟨[.p 0 0],_,[],[0],[12]⟩]) (F:=[.o 0,.o 1,.p 1 0]) (hst.pick [0,1] rfl) hb Zb
   (Qm rfl u_0<|o_p rfl (Zbu en_8 (Zho _ h5) rfl rfl (.cons u_0 .nil))<|o_n) (fun a g hst hb=>?_)
  refine wp_cond_split (hst.bool 2 rfl) (fun hc6=>?_) (fun hc6=>?_)
  ·replace H0:=Zt hc6 H0
   refine r_s (L:=[]) (T:=[⟨[],_,[],[],[4]⟩]) (F:=[.p 0 0]) (hst.pick [] rfl) hb Zb
    (Qa rfl c_b<|o_n) (fun a g hst hb=>?_)
   refine wp_ret ?_
   refine Zm ?_
   obtain rfl:=Option.some.inj H0
   exact Zx rfl hst hb (Zi (s:=4)) (hst.at 0 rfl)
  ·replace H0:=Zs hc6 H0
   refine wp_skip ?_
   refine Zg ?_
   refine r_s (L:=[(0,_),(1,_)]) (T:=[⟨[],[(5,(Z8 none Zw 5 (⟨[]⟩:Zl)))],[6,1000006],[],[5]⟩]) (F:=[.o 0,.o 1,.p 0 0]) (hst.pick [0,1] rfl) hb Zb
    (o_p rfl (Zjt (by kernel_rfl) rfl rfl)<|o_n) (fun a g hst hb=>?_)
   refine r_s (T:=[⟨[],[(6,(Zc.sl.pd ([]:List Za)))],[],[],[6]⟩]) (F:=[.o 0,.o 1,.o 2,.p 0 0]) hst hb Zb
    (o_p rfl (Zej rfl rfl (Opd.c (fun g=>Zh6 g)))<|o_n) (fun a g hst hb=>?_)
   refine wp_seq ?_
   refine r_s (T:=[⟨[.o 0],_,[],[],[13]⟩,⟨[.p 0 0],_,[],[0],[14]⟩,⟨[],_,[],[],[15]⟩]) (F:=[.o 1,.o 2,.o 3,.p 0 0,.p 1 0,.p 2 0]) hst hb Zb
    (Qm rfl u_0<|o_p rfl (Zbl Tryd.underlying22 rfl rfl u_0)<|Qm rfl c_i<|o_n) (fun a g hst hb=>?_)
   obtain ⟨z26,hz1,H0⟩:=Zd H0
   refine Zb1 (fun a w=>∃ (g:G),w=g.w ∧ St 40 [] a g ∧ Base g0 g ∧ (.inr ())=z26) ?_ ?_
   ·rintro a w ⟨g,rfl,hst,hb,rfl⟩
    refine Zg ?_
    refine r_s (T:=[⟨[],_,[],[],[4]⟩]) (F:=[.p 0 0]) hst hb Zb
     (Qa rfl c_b<|o_n) (fun a g hst hb=>?_)
    refine wp_ret ?_
    obtain rfl:=Option.some.inj H0
    exact Zx rfl hst hb (Zi (s:=4)) (hst.at 0 rfl)
   ·refine wp_block ?_
    refine wp_loop_ghost (fun n a w=>∃ (x7:Zl) (x8:List Za) (x9:Int) (g:G),w=g.w ∧ St 40 [(1,(pStr a1)),(5,(Z8 none Zw 5 x7)),(6,(Zc.sl.pd x8)),(13,(Zp.sl.pd a0)),(14,(pInt .i64 (a0.length:Int))),(15,(pInt .i64 x9))] a g ∧ Base g0 g ∧ Z6 a0 a1 n x7 x8 x9=some z26) (Int.toNat ((a0.length:Int) - (0:Int)) + 1) ⟨(⟨[]⟩:Zl),([]:List Za),(0:Int),g,rfl,(hst.pick [0,1,2,3,4,5] rfl),hb,hz1⟩ (fun n a w hI=>?_)
    obtain ⟨x7,x8,x9,g,rfl,hst,hb,H1⟩:=hI
    cases n with
    | zero=>exact absurd H1 (by simp [Z6])
    | succ n =>
     rw [Z6] at H1
     refine r_s (T:=[⟨[.o 5,.o 4],_,[],[],[16]⟩]) (F:=[.o 0,.o 1,.o 2,.o 3,.o 4,.o 5,.p 0 0]) hst hb Zb
      (o_p rfl (Zdf rfl rfl u_0 u_1)<|o_n) (fun a g hst hb=>?_)
     refine wp_seq ?_
     refine wp_cond_split (hst.bool 6 rfl) (fun hc10=>?_) (fun hc10=>?_)
     ·replace H1:=Zt hc10 H1
      refine wp_skip ?_
      refine Zg ?_
      refine wp_seq ?_
      refine wp_block ?_
      obtain ⟨e11,h12,H1⟩:=Zd H1
      refine r_s (L:=[(1,_),(5,_),(6,_),(13,_),(14,_),(15,_)]) (T:=[⟨[.o 3,.o 5],_,[],[],[17]⟩,⟨[.p 0 0],_,[],[0],[18]⟩,⟨[],[(8,(pBox Zp 8 (default:Zr)))],[9],[],[8]⟩,⟨[.p 1 0,.p 2 0],_,[9],[0,1,2],[8]⟩]) (F:=[.o 0,.o 1,.o 2,.p 3 0,.o 3,.o 4,.o 5]) (hst.pick [0,1,2,3,4,5] rfl) hb Zb
       (o_p rfl (Zq Tryd.underlying22 Zpe rfl rfl u_0 u_1 h12)<|Ql rfl Zht u_0<|o_p rfl (Zc4 (zs:=[.int .i64 0,.slice none 0 0]) (by kernel_rfl) (fun g=>Zij g) rfl rfl)<|o_p rfl (Zcv Zht rfl rfl u_1 u_0)<|o_n) (fun a g hst hb=>?_)
      obtain ⟨r13,h14,H1⟩:=Zd H1
      refine r_s (T:=[⟨[.o 3],_,[],[],[19]⟩,⟨[.o 1,.p 0 0],[(20,(pTup [])),(5,(Z8 none Zw 5 r13.1))],[6,1000006],[0],[5,20]⟩]) (F:=[.o 0,.p 1 1,.o 2,.o 3,.o 4,.o 5,.o 6]) hst hb Zb
       (Ql rfl Zht u_0<|o_p rfl (Zb8 en_9 (Zeg _ _ h14) rfl rfl rfl (by decide) u_0 u_0 (.cons u_1 .nil))<|o_n) (fun a g hst hb=>?_)
      obtain ⟨r15,h16,H1⟩:=Zd H1
      refine r_s (T:=[⟨[.o 2],_,[],[],[21]⟩,⟨[.o 3],_,[],[],[22]⟩,⟨[.p 0 0,.p 1 0],_,[],[0,1],[23]⟩,⟨[.p 2 0],_,[],[0,1,2],[6]⟩]) (F:=[.o 0,.o 1,.p 3 0,.o 4,.o 5,.o 6]) hst hb Zb
       (Qm rfl u_0<|Ql rfl Zht u_0<|o_p rfl (Zbu Zrz (Zg0 _ _ h16) rfl rfl (.cons u_0 (.cons u_1 .nil)))<|Qa rfl u_0<|o_n) (fun a g hst hb=>?_)
      obtain ⟨r17,h18,H1⟩:=Zd H1;obtain ⟨r19,h20,H1⟩:=Zd H1;obtain ⟨r21,h22,H1⟩:=Zd H1;obtain ⟨r23,h24,H1⟩:=Zd H1
      refine r_s (T:=⟨[.o 2],_,[],[],[24]⟩ :: ⟨[.o 1,.p 0 0],[(25,(Zn r17.2)),(5,(Z8 none Zw 5 r17.1))],[6,1000006],[0],[5,25]⟩ :: ⟨[.p 1 0],_,[],[0,1],[26]⟩ :: ⟨[.p 2 0],_,[],[0,1,2],[27]⟩ :: ⟨[.p 3 0,.o 0],_,[],Lr 4,[28]⟩ :: ⟨[.p 3 0,.p 1 1,.p 4 0],[(29,(pIf (!(!r17.2)) (pInt .i64 r19))),(5,(Z8 none Zw 5 r17.1))],[6,1000006],Lr 5,[5,29]⟩ :: ⟨[.p 3 0,.o 2],_,[],Lr 4,[30]⟩ :: ⟨[.p 3 0,.o 0],_,[],Lr 4,[31]⟩ :: ⟨[.p 3 0,.p 6 0,.p 7 0],_,[],Lr 8,[32]⟩ :: ⟨[.p 3 0,.p 5 0,.p 8 0],_,[],Lr 9,[33]⟩ :: ⟨[.p 3 0,.p 9 0],_,[],Lr 10,[34]⟩ :: ⟨[.p 10 0],_,[],Lr 11,[35]⟩ :: ⟨[.p 11 0,.p 5 1],[(36,(pIf (!((!r17.2) || (r19 != r21))) (pInt .i64 r23))),(5,(Z8 none Zw 5 r17.1))],[6,1000006],Lr 12,[5,36]⟩ :: ⟨[.p 11 0,.p 12 0],_,[],Lr 13,[37]⟩ :: ⟨[.p 11 0,.p 13 0],_,[],Lr 14,[38]⟩ :: []) (F:=[.o 0,.p 12 1,.o 2,.o 3,.o 4,.o 5,.p 14 0]) hst hb Zb
       (Qm rfl u_0<|o_p rfl (Zb8 Zr4 (Zhw _ _ h18) rfl rfl rfl (by decide) u_0 u_0 (.cons u_1 .nil))<|Qn rfl u_0<|Qm rfl u_0<|o_g (Qg_f rfl (fun hG=>Zbk rfl rfl u_0))<|o_g (OT.guardMR (!(!r17.2)) (gF (!r17.2)).1 (gF (!r17.2)).2 rfl rfl rfl (by decide) u_0 (fun hG=>Zb8 Zj3 (Zdl _ _ (Zc0 h20 hG)) rfl rfl rfl (by decide) u_0 u_0 (.cons (Opd.gd hG u_1) .nil)) (ite_self _).symm)<|o_g (Qg_f rfl (fun hG=>Zbk rfl rfl u_0))<|o_g (Qg_f rfl (fun hG=>Zbk rfl rfl u_0))<|o_g (Qg_f rfl (fun hG=>Zbu Zrq (Zgj _ _ (Zc0 h22 hG)) rfl rfl (.cons (Opd.gd hG u_0) (.cons (Opd.gd hG u_1) .nil))))<|o_g (Qg_f rfl (fun hG=>Zgn rfl rfl (Opd.gd hG u_0) (Opd.gd hG u_1)))<|o_p rfl (Zcw rfl rfl u_0 (fun hz=>(Opd.gd (bNF hz) u_1)))<|Qm rfl u_0<|o_g (OT.guardMR (!((!r17.2) || (r19 != r21))) (gF ((!r17.2) || (r19 != r21))).1 (gF ((!r17.2) || (r19 != r21))).2 rfl rfl rfl (by decide) u_0 (fun hG=>Zb8 Zl9 (Zeh _ (Zc0 h24 hG)) rfl rfl rfl (by decide) u_0 u_0 .nil) (ite_self _).symm)<|o_g (Qg_f rfl (fun hG=>Zdi rfl rfl (Opd.gd hG u_0) c_i))<|o_p rfl (Zcw rfl rfl u_0 (fun hz=>(Opd.gd (bNF hz) u_1)))<|o_n) (fun a g hst hb=>?_)
      refine wp_cond_split (hst.bool 6 rfl) (fun hc25=>?_) (fun hc25=>?_)
      ·replace H1:=Zt hc25 H1
       refine r_s (L:=[]) (T:=[⟨[],_,[],[],[4]⟩]) (F:=[.p 0 0]) (hst.pick [] rfl) hb Zb
        (Qa rfl c_b<|o_n) (fun a g hst hb=>?_)
       refine wp_ret ?_
       refine Zbs ?_
       refine Zm ?_
       refine Zm ?_
       refine Zbs ?_
       refine Zm ?_
       refine Zm ?_
       obtain rfl:=Option.some.inj H1
       obtain rfl:=Option.some.inj H0
       exact Zx rfl hst hb (Zi (s:=4)) (hst.at 0 rfl)
      ·replace H1:=Zs hc25 H1
       refine wp_skip ?_
       refine Z2 ?_
       refine Zg ?_
       refine r_g (L:=[(1,_),(5,_),(6,_),(13,_),(14,_),(15,_)]) (T:=[⟨[.o 5],_,[],[],[39]⟩,⟨[.p 0 0],_,[],[0],[15]⟩]) (F:=[.o 0,.o 1,.o 2,.o 3,.o 4,.p 1 0]) (hst.pick [0,1,2,3,4,5] rfl) hb Zb
        (o_p rfl (Zb7 rfl rfl u_0 c_i rfl)<|Qm rfl u_0<|o_n) (fun a g hst hb=>?_)
       exact ⟨n,Nat.lt_succ_self _,r17.1,r15,(IntKind.i64.wrap (x9 + (1:Int))),g,rfl,(hst.pick [0,1,2,3,4,5] rfl),hb,H1⟩
     ·replace H1:=Zs hc10 H1
      refine wp_exit ?_
      refine Z0 ?_
      refine Z0 ?_
      refine Zbj ?_
      exact ⟨g,rfl,(hst.pick [] rfl),hb,Option.some.inj H1⟩
end Go.CL
namespace Go.CL
open Go
abbrev BI:=List (ByteArray × Int)
abbrev RM:=Za
def Zee (k:Int):Bool:=((((((((k == (7:Int)) || (k == (8:Int))) || (k == (10:Int))) || (k == (11:Int))) || (k == (13:Int))) || (k == (14:Int))) || (k == (18:Int))) || (k == (21:Int)))
theorem Zqm (k:Int):∃ o,Ze2 k=some o:=by
 unfold Ze2 Ziy
 by_cases h:k ≤ 0 ∨ 22 ≤ k
 ·rw [if_pos (by simpa using h)];exact ⟨_,rfl⟩
 ·rw [if_neg (by simpa using h)]
  obtain ⟨n,rfl⟩:=Int.eq_ofNat_of_zero_le (show 0 ≤ k by omega)
  have hl:n < g_0.length:=by have:g_0.length=22:=rfl;omega
  have:idx g_0 (n:Int)=some g_0[n]:=Zd0 hl
  rw [this];exact ⟨_,rfl⟩
theorem Znj {k o:Int} (h:Ze2 k=some o):Zd7 o k=some (Zee k):=by
 have key:∀ b:Bool,(if b=true then ((Ze2 k).bind fun r10=>some (r10 == o)) else some false)=some b:=by
  intro b;cases b <;> simp [h]
 unfold Zd7 Zbn Zee
 simp only [key]
 cases (k == (7:Int)) <;> cases (k == (8:Int)) <;> cases (k == (10:Int)) <;> cases (k == (11:Int)) <;> cases (k == (13:Int)) <;> cases (k == (14:Int)) <;> cases (k == (18:Int)) <;> cases (k == (21:Int)) <;> rfl
def bump (nx:BI) (k:ByteArray):BI:=setS nx k (IntKind.i64.wrap ((getS nx k).getD 0 + 1))
theorem Zk4 (nx:BI) (a:Zo):Zfk nx a=some (if Zee a.Kind then bump nx a.Key else nx):=by
 obtain ⟨o,ho⟩:=Zqm a.Kind
 unfold Zfk
 rw [ho,Option.bind_some,Znj ho,Option.bind_some];rfl
def Zd3 (l:List Zo):List ByteArray:=(l.filter fun a=>Zee a.Kind).map (·.Key)
def Zcl (l:List Zz):List ByteArray:=l.flatMap fun d=>Zd3 d.Acts
theorem Ziw (a:Zo) (l:List Zo):Zd3 (a :: l)=if Zee a.Kind then a.Key :: Zd3 l else Zd3 l:=by
 unfold Zd3
 by_cases h:Zee a.Kind=true <;> simp [h]
theorem Zhc:∀ (l:List Zo) (nx:BI),Zd8 l nx=some ((Zd3 l).foldl bump nx)
 | [],nx=>rfl
 | a :: l,nx=>by
  rw [Zd8,Zk4,Option.bind_some,Zhc l,Ziw]
  split <;> rfl
theorem Zgw:∀ (l:List Zz) (nx:BI),Zef l nx=some ((Zcl l).foldl bump nx)
 | [],nx=>rfl
 | d :: l,nx=>by
  rw [Zef,Zhc,Option.bind_some,Zgw l]
  show _=some ((Zd3 d.Acts ++ Zcl l).foldl bump nx)
  rw [List.foldl_append]
def Zdr (m:BI) (x:Zr):BI:=(Zcl x.Deals).foldl bump (Zbb m)
theorem Zfg {h:Zl} {x:Zr} (hl:(Zdr h.by_ x).length ≤ 1000000000):Zbc h x=some (⟨Zde (Zdr h.by_ x)⟩,()):=by
 unfold Zbc
 rw [Zgw,Option.bind_some]
 show (Zbd ⟨Zdr h.by_ x⟩).bind _=_
 unfold Zbd
 rw [if_pos (by show (Zdr h.by_ x).length * 24 ≤ _;omega)]
 rfl
def toP (l:List RM):BI:=l.map fun m=>(m.Key,m.Score)
def cv (m:RM):Ze:=⟨m.Key,m.Score⟩
def rinc (k:ByteArray) (m:RM):RM:=if sEq m.Key k=true then { m with Score:=IntKind.i64.wrap (m.Score + 1) } else m
def rhas (out:List RM) (k:ByteArray):Bool:=out.any fun m=>sEq m.Key k
def Zc8 (out:List RM) (k:ByteArray):List RM:=if rhas out k=true then out.map (rinc k) else out ++ [⟨k,1⟩]
def Zb9 (l:List RM):List RM:=(l.filter fun m=>decide (2 ≤ m.Score)).map fun m=>⟨m.Key,IntKind.i64.wrap (Int.tdiv m.Score 2)⟩
theorem Zno {α:Type} (p r:List α) (m:α):idx (p ++ m :: r) (p.length:Int)=some m:=by
 rw [idxn];simp
theorem Zh8 (e:Zo):∀ (r p:List RM) (b:Bool),(p ++ r).length ≤ 1000000000 → Z3 e (r.length + 1) (p ++ r) b (p.length:Int)=some (p ++ r.map (rinc e.Key),b || rhas r e.Key)
 | [],p,b,h=>by
  rw [Z3,if_neg (by simp)];simp [rhas]
 | m :: r,p,b,h=>by
  have hl:p.length < (p ++ m :: r).length:=by simp
  simp only [List.length_append,List.length_cons] at h
  rw [List.length_cons,Z3,if_pos (by simp;omega),Zno,Option.bind_some,Option.bind_some,Option.bind_some]
  unfold Zcn
  rw [wr1 (by omega)]
  by_cases hk:sEq m.Key e.Key=true
  ·rw [if_pos hk]
   have hs:(p ++ m :: r).set (p.length:Int).toNat { m with Score:=IntKind.i64.wrap (m.Score + 1) }=(p ++ [rinc e.Key m]) ++ r:=by
    rw [Int.toNat_natCast,List.set_append_right _ _ (Nat.le_refl _),Nat.sub_self]
    simp [rinc,hk]
   rw [hs]
   have:=Zh8 e r (p ++ [rinc e.Key m]) true (by simp;omega)
   rw [List.length_append,List.length_singleton] at this
   rw [this]
   simp [rhas,hk]
  ·rw [if_neg hk]
   have hm:rinc e.Key m=m:=by simp [rinc,hk]
   have:=Zh8 e r (p ++ [m]) b (by simp;omega)
   rw [List.length_append,List.length_singleton,List.append_assoc,List.singleton_append] at this
   rw [this]
   simp [rhas,hk,hm]
theorem Zqd (e:Zo) (x:List RM) (h:x.length ≤ 1000000000):Z3 e (Int.toNat ((x.length:Int) - (0:Int)) + 1) x false (0:Int)=some (x.map (rinc e.Key),rhas x e.Key):=by
 have:=Zh8 e x [] false (by simpa using h)
 rw [show Int.toNat ((x.length:Int) - (0:Int)) + 1=x.length + 1 by omega]
 simpa using this
theorem Zjg (x:List RM) (k:ByteArray):(Zc8 x k).length ≤ x.length + 1:=by
 unfold Zc8
 split <;> simp
theorem Zfa:∀ (l:List ByteArray) (x:List RM),(l.foldl Zc8 x).length ≤ x.length + l.length
 | [],x=>by simp
 | k :: l,x=>by
  have:=Zfa l (Zc8 x k)
  have:=Zjg x k
  simp only [List.foldl_cons,List.length_cons];omega
theorem Zi5 {k:ByteArray} {x:List RM} (h:rhas x k=false):x.map (rinc k)=x:=by
 refine (List.map_congr_left fun m hm=>?_).trans (List.map_id x)
 have:sEq m.Key k=false:=by
  cases hq:sEq m.Key k with
  | false=>rfl
  | true=>have:rhas x k=true:=List.any_eq_true.2 ⟨m,hm,hq⟩;rw [h] at this;cases this
 simp [rinc,this]
theorem Zg6 {a1:Zr} {x16:Int} {d:Zz} (hd:idx a1.Deals x16=some d) (hw:d.Acts.length ≤ maxLen):∀ (n i:Nat) (x:List RM),i + n=d.Acts.length → x.length + (Zd3 (d.Acts.drop i)).length ≤ 900000000 → Z4 a1 x16 (n + 1) x (i:Int)=some ((Zd3 (d.Acts.drop i)).foldl Zc8 x)
 | 0,i,x,h,hx=>by
  rw [Z4,hd,Option.bind_some,if_neg (by simp;omega),List.drop_of_length_le (by omega)];rfl
 | n + 1,i,x,h,hx=>by
  have hi:i < d.Acts.length:=by omega
  simp only [maxLen] at hw
  have hdr:=List.drop_eq_getElem_cons hi
  rw [Z4,hd,Option.bind_some,if_pos (by simp;omega),Option.bind_some,Zd0 hi,Option.bind_some]
  have hsp:Zdh d.Acts[i].Kind=some (Zee d.Acts[i].Kind):=rfl
  rw [hsp,Option.bind_some]
  rw [hdr,Ziw] at hx ⊢
  unfold Zb4
  by_cases hs:Zee d.Acts[i].Kind=true
  ·rw [if_pos hs] at hx ⊢
   rw [hs]
   simp only [Bool.not_true,Bool.false_eq_true,if_false]
   simp only [List.length_cons] at hx
   rw [Zqd _ _ (by omega)]
   simp only [Option.bind_some]
   have ih:=Zg6 hd (by simp only [maxLen];exact hw) n (i + 1) (Zc8 x d.Acts[i].Key) (by omega) (by have:=Zjg x d.Acts[i].Key;omega)
   rw [wr1 (by omega),List.foldl_cons]
   by_cases hh:rhas x d.Acts[i].Key=true
   ·rw [hh]
    simp only [Bool.not_true,Bool.false_eq_true,if_false]
    rw [← ih]
    unfold Zc8
    rw [if_pos hh]
   ·have hh':rhas x d.Acts[i].Key=false:=by simpa using hh
    rw [hh']
    simp only [Bool.not_false,if_true]
    have hmap:x.map (rinc d.Acts[i].Key)=x:=Zi5 hh'
    rw [hmap,if_pos (by simp only [List.length_singleton];omega),← ih]
    unfold Zc8
    rw [if_neg hh]
  ·rw [if_neg hs] at hx ⊢
   have hs':Zee d.Acts[i].Kind=false:=by simpa using hs
   rw [hs']
   simp only [Bool.not_false,if_true]
   rw [wr1 (by omega)]
   exact Zg6 hd (by simp only [maxLen];exact hw) n (i + 1) x (by omega) hx
theorem Zh9 {a1:Zr} (hw:∀ d ∈ a1.Deals,d.Acts.length ≤ maxLen) (hwl:a1.Deals.length ≤ maxLen):∀ (n i:Nat) (x:List RM),i + n=a1.Deals.length → x.length + (Zcl (a1.Deals.drop i)).length ≤ 900000000 → Zbp a1 (n + 1) x (i:Int)=some ((Zcl (a1.Deals.drop i)).foldl Zc8 x)
 | 0,i,x,h,hx=>by
  rw [Zbp,if_neg (by simp;omega),List.drop_of_length_le (by omega)];rfl
 | n + 1,i,x,h,hx=>by
  have hi:i < a1.Deals.length:=by omega
  have hwl':=hwl
  simp only [maxLen] at hwl'
  have hdr:=List.drop_eq_getElem_cons hi
  rw [hdr] at hx ⊢
  have hcons:Zcl (a1.Deals[i] :: a1.Deals.drop (i + 1))=Zd3 a1.Deals[i].Acts ++ Zcl (a1.Deals.drop (i + 1)):=rfl
  rw [hcons] at hx ⊢
  rw [List.length_append] at hx
  rw [Zbp,if_pos (by simp;omega)]
  have hd:idx a1.Deals (i:Int)=some a1.Deals[i]:=Zd0 hi
  rw [hd]
  have hf:(Option.elim (some a1.Deals[i]) 0 fun e20=>Int.toNat ((e20.Acts.length:Int) - (0:Int)) + 1)=a1.Deals[i].Acts.length + 1:=by
   show Int.toNat ((a1.Deals[i].Acts.length:Int) - (0:Int)) + 1=_
   omega
  rw [hf]
  have:=Zg6 hd (hw _ (List.getElem_mem hi)) a1.Deals[i].Acts.length 0 x (by omega) (by rw [List.drop_zero];omega)
  rw [List.drop_zero] at this
  rw [show ((0:Nat):Int)=0 from rfl] at this
  rw [this]
  simp only [Option.bind_some]
  rw [wr1 (by omega),List.foldl_append]
  exact Zh9 hw hwl n (i + 1) _ (by omega) (by have:=Zfa (Zd3 a1.Deals[i].Acts) x;omega)
theorem Zl1 (m:RM) (l:List RM):Zb9 (m :: l)=if decide (2 ≤ m.Score)=true then ⟨m.Key,IntKind.i64.wrap (Int.tdiv m.Score 2)⟩ :: Zb9 l else Zb9 l:=by
 unfold Zb9
 by_cases h:2 ≤ m.Score <;> simp [h]
theorem Zg9 (a0:List RM) (hl:a0.length ≤ 900000000):∀ (n i:Nat) (x:List RM),i + n=a0.length → x.length + n ≤ 900000000 → Zba a0 (n + 1) x (i:Int)=some (x ++ Zb9 (a0.drop i))
 | 0,i,x,h,hx=>by
  rw [Zba,if_neg (by simp;omega),List.drop_of_length_le (by omega)];simp [Zb9]
 | n + 1,i,x,h,hx=>by
  have hi:i < a0.length:=by omega
  rw [Zba,if_pos (by simp;omega),Zd0 hi,List.drop_eq_getElem_cons hi,Zl1]
  simp only [Option.bind_some]
  unfold Zco
  rw [wr1 (by omega)]
  by_cases hs:decide (2 ≤ a0[i].Score)=true
  ·rw [if_pos hs,if_pos hs,if_pos (by simp;omega)]
   rw [Zg9 a0 hl n (i + 1) _ (by omega) (by simp;omega)]
   simp
  ·rw [if_neg hs,if_neg hs]
   exact Zg9 a0 hl n (i + 1) x (by omega) (by omega)
def hotR (a b:RM):Bool:=decide (b.Score < a.Score) || (a.Score == b.Score && sLt a.Key b.Key)
theorem Zkk (a b:RM):hotR a b=true ↔ Hot (cv a) (cv b):=by
 unfold hotR Hot cv
 simp
def insR (e:RM) (x:List RM):List RM:=x.takeWhile (fun m=>hotR m e) ++ e :: x.dropWhile (fun m=>hotR m e)
theorem Zks {a0:List RM} {x2:Int} {e:RM} (he:idx a0 x2=some e):∀ (r p:List RM),(p ++ r).length ≤ 1000000000 → Zbi a0 (p ++ r) x2 (r.length + 1) (p.length:Int)=some (((p.length + (r.takeWhile fun m=>hotR m e).length:Nat)):Int)
 | [],p,h=>by
  have hd:decide ((p.length:Int) < ((p ++ ([]:List RM)).length:Int))=false:=by simp
  rw [List.length_nil,Zbi,hd]
  simp [gd_f]
 | m :: r,p,h=>by
  simp only [List.length_append,List.length_cons] at h
  rw [List.length_cons,Zbi,show decide ((p.length:Int) < ((p ++ m :: r).length:Int))=true by simp;omega]
  simp only [gd_t,Bool.true_and]
  rw [Zno,Option.bind_some,he,Option.bind_some]
  have hh:Zdm m e=some (hotR m e):=rfl
  rw [hh,Option.bind_some]
  by_cases hq:hotR m e=true
  ·rw [if_pos hq,wr1 (by omega),List.takeWhile_cons_of_pos (p:=fun m=>hotR m e) hq]
   have:=Zks he r (p ++ [m]) (by simp;omega)
   rw [List.length_append,List.length_singleton,List.append_assoc,List.singleton_append] at this
   rw [this]
   simp only [List.length_cons]
   congr 2;omega
  ·rw [if_neg hq,List.takeWhile_cons_of_neg (p:=fun m=>hotR m e) hq]
   simp
theorem Zo0 (e:RM) (x:List RM):(insR e x).length=x.length + 1:=by
 have:=congrArg List.length (List.takeWhile_append_dropWhile (p:=fun m=>hotR m e) (l:=x))
 unfold insR
 simp only [List.length_append,List.length_cons] at this ⊢
 omega
theorem Zmu (e:RM) (x:List RM):x.take (x.takeWhile fun m=>hotR m e).length=x.takeWhile (fun m=>hotR m e) ∧ x.drop (x.takeWhile fun m=>hotR m e).length=x.dropWhile (fun m=>hotR m e):=by
 have h:=List.takeWhile_append_dropWhile (p:=fun m=>hotR m e) (l:=x)
 constructor
 ·conv=>lhs;arg 2;rw [← h]
  exact List.take_left
 ·conv=>lhs;arg 2;rw [← h]
  exact List.drop_left
theorem Zjn (a0:List RM):∀ (n i:Nat) (x:List RM),i + n=a0.length → x.length + n ≤ 900000000 → a0.length ≤ 900000000 → Zbh a0 (n + 1) x (i:Int)=some ((a0.drop i).foldl (fun x e=>insR e x) x)
 | 0,i,x,h,hx,hl=>by
  rw [Zbh,if_neg (by simp;omega),List.drop_of_length_le (by omega)];rfl
 | n + 1,i,x,h,hx,hl=>by
  have hi:i < a0.length:=by omega
  have he:idx a0 (i:Int)=some a0[i]:=Zd0 hi
  rw [Zbh,if_pos (by simp;omega)]
  have hk:=Zks he x [] (by simp;omega)
  rw [List.nil_append] at hk
  rw [show Int.toNat ((x.length:Int) - (0:Int)) + 1=x.length + 1 by omega,show ((0:Int))=((([]:List RM).length:Nat):Int) from rfl,hk]
  have htl:(x.takeWhile fun m=>hotR m a0[i]).length ≤ x.length:=(List.takeWhile_sublist _).length_le
  simp only [Option.bind_some,List.length_nil,Nat.zero_add]
  have hc:=Zh3 (xs:=x) (l:=0) (h:=(x.takeWhile fun m=>hotR m a0[i]).length) (by omega) htl
  have hc2:=Zh3 (xs:=x) (l:=(x.takeWhile fun m=>hotR m a0[i]).length) (h:=x.length) htl (Nat.le_refl _)
  obtain ⟨t1,t2⟩:=Zmu a0[i] x
  rw [hc,Option.bind_some,List.drop_zero,Nat.sub_zero,t1,he]
  rw [if_pos (by omega),Option.bind_some,if_pos (by simp;omega),hc2,Option.bind_some,t2,List.take_of_length_le (by rw [← t2,List.length_drop];omega)]
  rw [if_pos (by rw [← t2];simp;omega),wr1 (by omega),List.drop_eq_getElem_cons hi,List.foldl_cons]
  have hins:([] ++ List.takeWhile (fun m=>hotR m a0[i]) x ++ [a0[i]] ++ List.dropWhile (fun m=>hotR m a0[i]) x)=insR a0[i] x:=by simp [insR]
  rw [hins]
  exact Zjn a0 n (i + 1) _ (by omega) (by rw [Zo0];omega) hl
def Zgg (l:List RM):List RM:=l.foldl (fun x e=>insR e x) []
theorem Zm5 {l:List RM} (hl:l.length ≤ 400000000):Zcu l=some (Zgg l):=by
 unfold Zcu
 have:=Zjn l l.length 0 [] (by omega) (by simp;omega) (by omega)
 rw [show ((0:Nat):Int)=(0:Int) from rfl,List.drop_zero] at this
 rw [show Int.toNat ((l.length:Int) - (0:Int)) + 1=l.length + 1 by omega,this]
 rfl
theorem Zm6 (e:RM) (x:List RM):(insR e x).Perm (e :: x):=by
 unfold insR
 refine List.perm_middle.trans (List.Perm.cons _ ?_)
 rw [List.takeWhile_append_dropWhile]
theorem Zgt:∀ (l x:List RM),(l.foldl (fun x e=>insR e x) x).Perm (l ++ x)
 | [],x=>.refl _
 | e :: l,x=>(Zgt l (insR e x)).trans (((Zm6 e x).append_left l).trans List.perm_middle)
theorem Zgk (l:List RM):(Zgg l).Perm l:=by have:=Zgt l [];rwa [List.append_nil] at this
def OrdR (l:List RM):Prop:=l.Pairwise fun x y=>¬ Hot (cv y) (cv x)
theorem Zlg {e:RM}:∀ {x:List RM} {y:RM} {r:List RM},x.dropWhile (fun m=>hotR m e)=y :: r → hotR y e=false
 | [],y,r,h=>by cases h
 | m :: x,y,r,h=>by
  by_cases hq:hotR m e=true
  ·rw [List.dropWhile_cons_of_pos (p:=fun m=>hotR m e) hq] at h;exact Zlg h
  ·rw [List.dropWhile_cons_of_neg (p:=fun m=>hotR m e) hq] at h
   injection h with h1 h2
   rw [← h1];simpa using hq
theorem Znw {e:RM}:∀ {x:List RM} {y:RM},y ∈ x.takeWhile (fun m=>hotR m e) → hotR y e=true
 | [],y,h=>by cases h
 | m :: x,y,h=>by
  by_cases hq:hotR m e=true
  ·rw [List.takeWhile_cons_of_pos (p:=fun m=>hotR m e) hq] at h
   rcases List.mem_cons.1 h with rfl | h
   ·exact hq
   ·exact Znw h
  ·rw [List.takeWhile_cons_of_neg (p:=fun m=>hotR m e) hq] at h;cases h
theorem Zo9 {e:RM} {x:List RM} (h:OrdR x):OrdR (insR e x):=by
 unfold OrdR insR at *
 rw [← List.takeWhile_append_dropWhile (p:=fun m=>hotR m e) (l:=x)] at h
 obtain ⟨h1,h2,h3⟩:=List.pairwise_append.1 h
 have hd:∀ y ∈ x.dropWhile (fun m=>hotR m e),¬ Hot (cv y) (cv e):=by
  cases hq:x.dropWhile (fun m=>hotR m e) with
  | nil=>intro y hy;cases hy
  | cons a r =>
   rw [hq] at h2
   have ha:¬ Hot (cv a) (cv e):=fun hh=>by
    have:=Zlg hq
    rw [(Zkk a e).2 hh] at this;cases this
   intro y hy
   rcases List.mem_cons.1 hy with rfl | hy
   ·exact ha
   ·exact Hot.ntr ((List.pairwise_cons.1 h2).1 y hy) ha
 refine List.pairwise_append.2 ⟨h1,List.pairwise_cons.2 ⟨hd,h2⟩,fun a ha b hb=>?_⟩
 rcases List.mem_cons.1 hb with rfl | hb
 ·have hh:=(Zkk a b).1 (Znw ha)
  exact fun k=>Hot.irr _ (k.trans hh)
 ·exact h3 a ha b hb
theorem Zju (l:List RM):OrdR (Zgg l):=by
 have go:∀ (l x:List RM),OrdR x → OrdR (l.foldl (fun x e=>insR e x) x):=by
  intro l
  induction l with
  | nil=>intro x h;exact h
  | cons e l ih=>intro x h;exact ih _ (Zo9 h)
 exact go l [] List.Pairwise.nil
theorem Zkz {l:List RM} {x:Zr} (hw:∀ d ∈ x.Deals,d.Acts.length ≤ maxLen) (hwl:x.Deals.length ≤ maxLen) (hl:l.length + (Zcl x.Deals).length ≤ 400000000) :
  Zb6 l x=some ((Zgg ((Zcl x.Deals).foldl Zc8 (Zb9 l))).take 256):=by
 have hrl:(Zb9 l).length ≤ l.length:=by
  unfold Zb9
  rw [List.length_map];exact List.length_filter_le ..
 unfold Zb6
 have h1:=Zg9 l (by omega) l.length 0 [] (by omega) (by simp;omega)
 rw [show ((0:Nat):Int)=(0:Int) from rfl,List.drop_zero,List.nil_append] at h1
 rw [show Int.toNat ((l.length:Int) - (0:Int)) + 1=l.length + 1 by omega,h1,Option.bind_some]
 have h2:=Zh9 (a1:=x) hw hwl x.Deals.length 0 (Zb9 l) (by omega) (by rw [List.drop_zero];omega)
 rw [show ((0:Nat):Int)=(0:Int) from rfl,List.drop_zero] at h2
 simp only []
 rw [show Int.toNat ((x.Deals.length:Int) - (0:Int)) + 1=x.Deals.length + 1 by omega,h2,Option.bind_some]
 have hb:=Zfa (Zcl x.Deals) (Zb9 l)
 rw [Zm5 (by omega),Option.bind_some]
 have hsl:=(Zgk ((Zcl x.Deals).foldl Zc8 (Zb9 l))).length_eq
 unfold Zcp
 by_cases hg:256 < (Zgg ((Zcl x.Deals).foldl Zc8 (Zb9 l))).length
 ·rw [if_pos (by simp;omega)]
  have:=Zh3 (xs:=Zgg ((Zcl x.Deals).foldl Zc8 (Zb9 l))) (l:=0) (h:=256) (by omega) (by omega)
  rw [show ((0:Nat):Int)=(0:Int) from rfl,show ((256:Nat):Int)=(256:Int) from rfl,List.drop_zero,Nat.sub_zero] at this
  rw [this];rfl
 ·rw [if_neg (by simp;omega),List.take_of_length_le (by omega)]
theorem Zok (l:List RM):Zbb (toP l)=toP (Zb9 l):=by
 unfold Zbb toP Zb9
 rw [List.filter_map,List.map_map,List.map_map]
 congr 1
theorem Zei (l:List RM):(toP l).map (·.1)=l.map (·.Key):=by simp [toP]
theorem Zmz {m m':BI} (hk:(m.map (·.1)).Nodup) (h:m.Perm m') (k:ByteArray):getS m k=getS m' k:=by
 have hk':=((h.map (·.1)).nodup_iff).1 hk
 by_cases he:∃ n,(k,n) ∈ m
 ·obtain ⟨n,hn⟩:=he
  rw [Zew hk hn,Zew hk' (h.mem_iff.1 hn)]
 ·rw [Ze3 fun e hm heq=>he ⟨e.2,by rw [← heq];exact hm⟩,Ze3 fun e hm heq=>he ⟨e.2,by rw [← heq];exact h.mem_iff.2 hm⟩]
theorem Zm2 {m m':BI} (h:m.Perm m') (k:ByteArray) (n:Int):(setS m k n).Perm (setS m' k n):=(h.filter _).cons _
theorem Znh {m m':BI} (hk:(m.map (·.1)).Nodup) (h:m.Perm m') (k:ByteArray):(bump m k).Perm (bump m' k):=by
 unfold bump
 rw [Zmz hk h];exact Zm2 h _ _
theorem Zjl {m:BI} (hk:(m.map (·.1)).Nodup) (k:ByteArray):((bump m k).map (·.1)).Nodup:=Zha hk k _
theorem Ziq:∀ (l:List ByteArray) {m:BI},(m.map (·.1)).Nodup → ((l.foldl bump m).map (·.1)).Nodup
 | [],_,h=>h
 | k :: l,_,h=>Ziq l (Zjl h k)
theorem Zkl {x:List RM} (hk:(x.map (·.Key)).Nodup) (k:ByteArray):(bump (toP x) k).Perm (toP (Zc8 x k)):=by
 have hkp:((toP x).map (·.1)).Nodup:=by rw [Zei];exact hk
 unfold Zc8
 by_cases h:rhas x k=true
 ·rw [if_pos h]
  obtain ⟨m,hm,hq⟩:=List.any_eq_true.1 h
  have hmk:=Zek.1 hq
  subst hmk
  obtain ⟨A,B,rfl⟩:=List.append_of_mem hm
  rw [List.map_append,List.map_cons] at hk
  obtain ⟨n1,n2,n3⟩:=List.nodup_append.1 hk
  obtain ⟨n4,n5⟩:=List.nodup_cons.1 n2
  have nA:∀ u ∈ A,u.Key ≠ m.Key:=fun u hu=>n3 u.Key (List.mem_map.2 ⟨u,hu,rfl⟩) m.Key (List.mem_cons_self ..)
  have nB:∀ u ∈ B,u.Key ≠ m.Key:=fun u hu e=>n4 (by rw [← e];exact List.mem_map.2 ⟨u,hu,rfl⟩)
  have hg:getS (toP (A ++ m :: B)) m.Key=some m.Score:=Zew hkp (List.mem_map.2 ⟨m,by simp,rfl⟩)
  have rA:A.map (rinc m.Key)=A:=Zi5 (by
   rw [Bool.eq_false_iff];intro hh
   obtain ⟨u,hu,h2⟩:=List.any_eq_true.1 hh
   exact nA u hu (Zek.1 h2))
  have rB:B.map (rinc m.Key)=B:=Zi5 (by
   rw [Bool.eq_false_iff];intro hh
   obtain ⟨u,hu,h2⟩:=List.any_eq_true.1 hh
   exact nB u hu (Zek.1 h2))
  have hmm:rinc m.Key m={ m with Score:=IntKind.i64.wrap (m.Score + 1) }:=by simp [rinc,Zge]
  rw [List.map_append,List.map_cons,rA,rB,hmm]
  unfold bump setS
  rw [hg,Option.getD_some]
  have hf:(toP (A ++ m :: B)).filter (fun e=>decide (e.1 ≠ m.Key))=toP A ++ toP B:=by
   unfold toP
   rw [List.map_append,List.map_cons,List.filter_append,List.filter_cons_of_neg (by simp)]
   have f1:(A.map fun m=>(m.Key,m.Score)).filter (fun e=>decide (e.1 ≠ m.Key))=A.map fun m=>(m.Key,m.Score):=List.filter_eq_self.2 fun e he=>by
    obtain ⟨u,hu,rfl⟩:=List.mem_map.1 he
    simpa using nA u hu
   have f2:(B.map fun m=>(m.Key,m.Score)).filter (fun e=>decide (e.1 ≠ m.Key))=B.map fun m=>(m.Key,m.Score):=List.filter_eq_self.2 fun e he=>by
    obtain ⟨u,hu,rfl⟩:=List.mem_map.1 he
    simpa using nB u hu
   rw [f1,f2]
  rw [hf]
  show ((m.Key,IntKind.i64.wrap (m.Score + 1)) :: (toP A ++ toP B)).Perm (toP (A ++ _ :: B))
  unfold toP
  rw [List.map_append,List.map_cons]
  exact List.perm_middle.symm
 ·rw [if_neg h]
  have hno:∀ e ∈ toP x,e.1 ≠ k:=fun e he heq=>by
   obtain ⟨u,hu,rfl⟩:=List.mem_map.1 he
   exact h (List.any_eq_true.2 ⟨u,hu,Zek.2 heq⟩)
  unfold bump
  rw [Ze3 hno,Zki hno]
  have hw:IntKind.i64.wrap ((none:Option Int).getD 0 + 1)=1:=by decide
  rw [hw]
  show ((k,(1:Int)) :: toP x).Perm (toP (x ++ [⟨k,1⟩]))
  unfold toP
  rw [List.map_append]
  exact (List.perm_append_comm (l₁:=[(k,(1:Int))]))
theorem Zmm {x:List RM} (hk:(x.map (·.Key)).Nodup) (k:ByteArray):((Zc8 x k).map (·.Key)).Nodup:=by
 have hkp:((toP x).map (·.1)).Nodup:=by rw [Zei];exact hk
 have:=(((Zkl hk k).map (·.1)).nodup_iff).1 (Zjl hkp k)
 rwa [Zei] at this
theorem Zg2:∀ (l:List ByteArray) {m:BI} {x:List RM},(x.map (·.Key)).Nodup → m.Perm (toP x) → (l.foldl bump m).Perm (toP (l.foldl Zc8 x))
 | [],_,_,_,h=>h
 | k :: l,m,x,hk,h=>by
  have hkp:((toP x).map (·.1)).Nodup:=by rw [Zei];exact hk
  have hkm:=((h.map (·.1)).nodup_iff).2 hkp
  exact Zg2 l (Zmm hk k) ((Znh hkm h k).trans (Zkl hk k))
theorem Zlt (l:List RM):(toP l).map Zv=l.map cv:=by unfold toP;rw [List.map_map];rfl
theorem Zp9 (l:List RM):Z7 ((toP l).map Zv)=(Zgg l).map cv:=by
 rw [Zlt]
 refine Ze9 ((Zd1 _).trans ((Zgk l).symm.map cv)) (Zey _) ?_
 exact List.pairwise_map.2 (Zju l)
structure Same12 (h:Zl) (w:List RM):Prop where
 eq:h.by_=toP w
 keys:(w.map (·.Key)).Nodup
 ord:OrdR w
 len:w.length ≤ 256
theorem Znb {h:Zl} {w:List RM} {x:Zr} (hs:Same12 h w) (hw:∀ d ∈ x.Deals,d.Acts.length ≤ maxLen) (hwl:x.Deals.length ≤ maxLen) (hl:(Zcl x.Deals).length ≤ 300000000) :
  ∃ h' w',Zbc h x=some (h',()) ∧ Zb6 w x=some w' ∧ Same12 h' w' ∧ h'.by_=Zde (Zdr h.by_ x):=by
 have h1:=hs.len
 have hrl:(Zb9 w).length ≤ w.length:=by
  unfold Zb9
  rw [List.length_map];exact List.length_filter_le ..
 have hkr:((Zb9 w).map (·.Key)).Nodup:=by
  unfold Zb9
  rw [List.map_map]
  exact List.Nodup.sublist (List.Sublist.map _ List.filter_sublist) hs.keys
 have hp:(Zdr h.by_ x).Perm (toP ((Zcl x.Deals).foldl Zc8 (Zb9 w))):=by
  unfold Zdr
  exact Zg2 _ hkr (by rw [hs.eq,Zok])
 have hb:=Zfa (Zcl x.Deals) (Zb9 w)
 have hfl:(Zdr h.by_ x).length ≤ 1000000000:=by
  rw [hp.length_eq];unfold toP;rw [List.length_map];omega
 refine ⟨_,_,Zfg hfl,Zkz hw hwl (by omega),?_,rfl⟩
 have hkb:(((Zcl x.Deals).foldl Zc8 (Zb9 w)).map (·.Key)).Nodup:=by
  have hkm:((toP (Zb9 w)).map (·.1)).Nodup:=by rw [Zei];exact hkr
  have:=(((Zg2 (Zcl x.Deals) hkr (.refl _)).map (·.1)).nodup_iff).1 (Ziq _ hkm)
  rwa [Zei] at this
 refine ⟨?_,?_,?_,?_⟩
 ·show Zde (Zdr h.by_ x)=_
  unfold Zde
  rw [Zfy (hp.map Zv),Zp9,← List.map_take,List.map_map]
  rfl
 ·exact List.Nodup.sublist (List.Sublist.map _ (List.take_sublist ..)) ((((Zgk _).map (·.Key)).nodup_iff).2 hkb)
 ·exact List.Pairwise.sublist (List.take_sublist ..) (Zju _)
 ·exact List.length_take_le ..
theorem Zlz (r:Zu):∃ c,Zcy r=some c:=by
 unfold Zcy
 by_cases h:(decide ((100:Int) < (r.List.length:Int)) || decide ((1000:Int) < (r.Text.size:Int)))=true
 ·rw [if_pos h];exact ⟨_,rfl⟩
 ·rw [if_neg h]
  have hl100:r.List.length ≤ 100:=by
   simp only [Bool.or_eq_true,decide_eq_true_eq,not_or] at h
   omega
  have go:∀ (n i:Nat),i + n=r.List.length → ∃ z,Zbt r (n + 1) (i:Int)=some z:=by
   intro n
   induction n with
   | zero=>intro i hi;rw [Zbt,if_neg (by simp;omega)];exact ⟨_,rfl⟩
   | succ n ih =>
    intro i hi
    rw [Zbt,if_pos (by simp;omega),Zd0 (show i < r.List.length by omega),Option.bind_some]
    split
    ·exact ⟨_,rfl⟩
    ·rw [wr1 (by omega)];exact ih (i + 1) (by omega)
  obtain ⟨z,hz⟩:=go r.List.length 0 (by omega)
  rw [show ((0:Nat):Int)=0 from rfl] at hz
  rw [show Int.toNat ((r.List.length:Int) - (0:Int)) + 1=r.List.length + 1 by omega,hz]
  cases z <;> exact ⟨_,rfl⟩
theorem Zmo (a:Zo):∃ c,Zdo a=some c:=by
 unfold Zdo
 obtain ⟨c,hc⟩:=Zlz a.Make
 have:∃ y,gd (!(decide ((200:Int) < (a.Key.size:Int)) || decide ((1000:Int) < (a.S.size:Int)))) (Zcy a.Make)=some y:=by
  rw [hc]
  cases (!(decide ((200:Int) < (a.Key.size:Int)) || decide ((1000:Int) < (a.S.size:Int)))) with
  | true=>exact ⟨c,rfl⟩
  | false=>exact ⟨_,rfl⟩
 obtain ⟨y,hy⟩:=this
 rw [hy,Option.bind_some]
 split <;> exact ⟨_,rfl⟩
theorem Zme (d:Zz):∃ c,Zdg d=some c ∧ (¬ 0 < c → d.Acts.length ≤ 40):=by
 unfold Zdg
 by_cases h:40 < d.Acts.length
 ·rw [if_pos (by simp;omega)];exact ⟨1,rfl,fun h=>by omega⟩
 ·rw [if_neg (by simp;omega)]
  have go:∀ (n i:Nat),i + n=d.Acts.length → ∃ z,Zbr d (n + 1) (i:Int)=some z:=by
   intro n
   induction n with
   | zero=>intro i hi;rw [Zbr,if_neg (by simp;omega)];exact ⟨_,rfl⟩
   | succ n ih =>
    intro i hi
    obtain ⟨c,hc⟩:=Zmo (d.Acts[i]'(by omega))
    rw [Zbr,if_pos (by simp;omega),Zd0 (show i < d.Acts.length by omega),Option.bind_some,hc,Option.bind_some]
    split
    ·exact ⟨_,rfl⟩
    ·rw [wr1 (by omega)];exact ih (i + 1) (by omega)
  obtain ⟨z,hz⟩:=go d.Acts.length 0 (by omega)
  rw [show ((0:Nat):Int)=0 from rfl] at hz
  rw [show Int.toNat ((d.Acts.length:Int) - (0:Int)) + 1=d.Acts.length + 1 by omega,hz]
  cases z <;> exact ⟨_,rfl,fun _=>by omega⟩
theorem Zmb (l:List Zz):∃ c,Zdk l=some c ∧ (¬ 0 < c → l.length ≤ 40 ∧ ∀ d ∈ l,d.Acts.length ≤ 40):=by
 unfold Zdk
 by_cases h:40 < l.length
 ·rw [if_pos (by simp;omega)];exact ⟨1,rfl,fun h=>by omega⟩
 ·rw [if_neg (by simp;omega)]
  have go:∀ (n i:Nat),i + n=l.length → ∃ z,Zbq l (n + 1) (i:Int)=some z ∧ ((z=.inl 1) ∨ (z=.inr () ∧ ∀ d ∈ l.drop i,d.Acts.length ≤ 40)):=by
   intro n
   induction n with
   | zero=>intro i hi;rw [Zbq,if_neg (by simp;omega),List.drop_of_length_le (by omega)];exact ⟨_,rfl,.inr ⟨rfl,fun d hd=>by cases hd⟩⟩
   | succ n ih =>
    intro i hi
    have hil:i < l.length:=by omega
    obtain ⟨c,hc,hc2⟩:=Zme l[i]
    rw [Zbq,if_pos (by simp;omega),Zd0 hil,Option.bind_some,hc,Option.bind_some]
    by_cases h0:0 < c
    ·rw [if_pos (by simpa using h0)];exact ⟨_,rfl,.inl rfl⟩
    ·rw [if_neg (by simpa using h0),wr1 (by omega)]
     obtain ⟨z,hz,hz2⟩:=ih (i + 1) (by omega)
     refine ⟨z,hz,hz2.imp id fun ⟨e,hd⟩=>⟨e,fun d hm=>?_⟩⟩
     rw [List.drop_eq_getElem_cons hil] at hm
     rcases List.mem_cons.1 hm with rfl | hm
     ·exact hc2 h0
     ·exact hd d hm
  obtain ⟨z,hz,hz2⟩:=go l.length 0 (by omega)
  rw [show ((0:Nat):Int)=0 from rfl] at hz
  rw [show Int.toNat ((l.length:Int) - (0:Int)) + 1=l.length + 1 by omega,hz]
  rcases hz2 with rfl | ⟨rfl,hd⟩
  ·exact ⟨1,rfl,fun h=>by omega⟩
  ·exact ⟨0,rfl,fun _=>⟨by omega,hd⟩⟩
structure LotOk (x:Zr):Prop where
 deals:x.Deals.length ≤ 40
 acts:∀ d ∈ x.Deals,d.Acts.length ≤ 40
theorem Zm0 (l:List Zo):(Zd3 l).length ≤ l.length:=by
 unfold Zd3
 rw [List.length_map];exact List.length_filter_le ..
theorem Zja:∀ {l:List Zz},(∀ d ∈ l,d.Acts.length ≤ 40) → (Zcl l).length ≤ l.length * 40
 | [],_=>by simp [Zcl]
 | d :: l,h=>by
  have h1:=Zm0 d.Acts
  have h2:=h d (List.mem_cons_self ..)
  have h3:=Zja (l:=l) fun d hd=>h d (List.mem_cons_of_mem _ hd)
  show (Zd3 d.Acts ++ Zcl l).length ≤ (l.length + 1) * 40
  rw [List.length_append];omega
theorem LotOk.hits {x:Zr} (h:LotOk x):(Zcl x.Deals).length ≤ 1600:=by
 have:=Zja h.acts
 have:=h.deals
 omega
theorem Zmp (l:List Zr):Zc1 l=some true ∨ (Zc1 l=some false ∧ l.length ≤ 12 ∧ ∀ x ∈ l,LotOk x):=by
 unfold Zc1
 by_cases h:12 < l.length
 ·rw [if_pos (by simp;omega)];exact .inl rfl
 ·rw [if_neg (by simp;omega)]
  have go:∀ (n i:Nat),i + n=l.length → Zbm l (n + 1) (i:Int)=some (.inl true) ∨ (Zbm l (n + 1) (i:Int)=some (.inr ()) ∧ ∀ x ∈ l.drop i,LotOk x):=by
   intro n
   induction n with
   | zero=>intro i hi;rw [Zbm,if_neg (by simp;omega),List.drop_of_length_le (by omega)];exact .inr ⟨rfl,fun d hd=>by cases hd⟩
   | succ n ih =>
    intro i hi
    have hil:i < l.length:=by omega
    obtain ⟨c,hc,hc2⟩:=Zmb l[i].Deals
    rw [Zbm,if_pos (by simp;omega),Zd0 hil,Option.bind_some,hc,Option.bind_some]
    by_cases h0:0 < c
    ·rw [if_pos (by simpa using h0)];exact .inl rfl
    ·rw [if_neg (by simpa using h0),wr1 (by omega)]
     refine (ih (i + 1) (by omega)).imp id fun ⟨e,hd⟩=>⟨e,fun d hm=>?_⟩
     rw [List.drop_eq_getElem_cons hil] at hm
     rcases List.mem_cons.1 hm with rfl | hm
     ·exact ⟨(hc2 h0).1,(hc2 h0).2⟩
     ·exact hd d hm
  have h2:=go l.length 0 (by omega)
  rw [show ((0:Nat):Int)=0 from rfl] at h2
  rw [show Int.toNat ((l.length:Int) - (0:Int)) + 1=l.length + 1 by omega]
  rcases h2 with h2 | ⟨h2,h3⟩
  ·rw [h2];exact .inl rfl
  ·rw [h2];exact .inr ⟨rfl,by omega,h3⟩
theorem Zls (e:ByteArray × Int):Zde [e]=[e]:=by
 unfold Zde Z7
 rw [List.map_cons,List.map_nil,List.mergeSort_singleton]
 rfl
def keyA:ByteArray:=⟨#[97]⟩
def actA:Zo:={ Kind:=(7:Int),Key:=(⟨#[97]⟩:ByteArray),N:=(1:Int),X:=(0:Nat),S:=ByteArray.empty,Make:=(default:Zu),Must:=false }
def lotA:Zr:={ Number:=(0:Int),Deals:=[{ Acts:=[actA,actA] },{ Acts:=[actA] }] }
def lotE:Zr:={ Number:=(0:Int),Deals:=[] }
theorem finA:Zdr [] lotA=[(keyA,3)]:=by kernel_rfl
theorem finE:Zdr [(keyA,3)] lotE=[(keyA,1)]:=by kernel_rfl
theorem Zre:Zbc ⟨[]⟩ lotA=some (⟨[(keyA,3)]⟩,()):=by
 rw [Zfg (by show (Zdr [] lotA).length ≤ _;rw [finA];decide)]
 show some ((⟨Zde (Zdr [] lotA)⟩:Zl),())=_
 rw [finA,Zls]
theorem Zr6:Zbc ⟨[(keyA,3)]⟩ lotE=some (⟨[(keyA,1)]⟩,()):=by
 rw [Zfg (by show (Zdr [(keyA,3)] lotE).length ≤ _;rw [finE];decide)]
 show some ((⟨Zde (Zdr [(keyA,3)] lotE)⟩:Zl),())=_
 rw [finE,Zls]
theorem allA:Zbd ⟨[(keyA,1)]⟩=some [⟨keyA,1⟩]:=by
 unfold Zbd Z7
 rw [if_pos (by decide)]
 show some (List.mergeSort [Zv (keyA,1)] _)=_
 rw [List.mergeSort_singleton];rfl
theorem Zoa:Zcs=some true:=by
 unfold Zcs
 show (Zbc ⟨[]⟩ lotA).bind _=_
 rw [Zre,Option.bind_some]
 show (Zbc ⟨[(keyA,3)]⟩ lotE).bind _=_
 rw [Zr6,Option.bind_some]
 show (Zbd ⟨[(keyA,1)]⟩).bind _=_
 rw [allA,Option.bind_some]
 kernel_rfl
theorem Same12.all {h:Zl} {w:List RM} (hs:Same12 h w):Zbd h=some (w.map cv):=by
 have hl:=hs.len
 unfold Zbd
 rw [hs.eq,if_pos (by unfold toP;rw [List.length_map];omega),Zlt]
 congr 1
 exact Ze9 (Zd1 _) (Zey _) (List.pairwise_map.2 hs.ord)
theorem Same12.blen {h:Zl} {w:List RM} (hs:Same12 h w):Zck h=some (w.length:Int):=by
 unfold Zck
 rw [hs.eq];unfold toP;rw [List.length_map]
theorem Same12.score {h:Zl} {w:List RM} (hs:Same12 h w) {m:RM} (hm:m ∈ w):Zbe h m.Key=some m.Score:=by
 unfold Zbe
 have hg:getS (toP w) m.Key=some m.Score:=Zew (by rw [Zei];exact hs.keys) (List.mem_map.2 ⟨m,hm,rfl⟩)
 rw [hs.eq,hg];rfl
theorem Zlf {h:Zl} {w:List RM} (hs:Same12 h w):∀ (n i:Nat),i + n=w.length → Zbx w (w.map cv) (n + 1) h (i:Int)=some (.inr h)
 | 0,i,hi=>by rw [Zbx,if_neg (by simp;omega)]
 | n + 1,i,hi=>by
  have hl:=hs.len
  have hil:i < w.length:=by omega
  have h2:idx (w.map cv) (i:Int)=some (cv w[i]):=by rw [idxn,List.getElem?_map,List.getElem?_eq_getElem hil];rfl
  rw [Zbx,if_pos (by simp;omega),Zd0 hil,Option.bind_some,h2,Option.bind_some]
  have e1:sEq (cv w[i]).Key w[i].Key=true:=Zge _
  have e2:((cv w[i]).Score != w[i].Score)=false:=by simp [cv]
  simp only [e1,e2,Bool.not_true,Bool.not_false,gd_t,Bool.or_false,Option.bind_some,Bool.or_self]
  rw [hs.score (List.getElem_mem hil),Option.bind_some]
  simp only [bne_self_eq_false,Bool.false_eq_true,if_false]
  rw [wr1 (by omega)]
  exact Zlf hs n (i + 1) (by omega)
theorem Same12.is {h:Zl} {w:List RM} (hs:Same12 h w):Zeb h w=some (h,true):=by
 unfold Zeb Zdy
 rw [hs.all,Option.bind_some,hs.blen]
 have hlen:(((w.map cv).length:Int) != (w.length:Int))=false:=by simp
 simp only [hlen,Bool.not_false,gd_t,Option.bind_some,bne_self_eq_false,Bool.or_self,Bool.false_eq_true,if_false]
 have:=Zlf hs w.length 0 (by omega)
 rw [show ((0:Nat):Int)=0 from rfl] at this
 rw [show Int.toNat ((w.length:Int) - (0:Int)) + 1=w.length + 1 by omega,this]
 rfl
theorem Zil (w:List RM) (k:ByteArray) (hl:w.length ≤ 1000000):∀ (n i:Nat),i + n=w.length → Zbo w k (n + 1) (i:Int)=some (match getS (toP (w.drop i)) k with | some s=>.inl s | none=>.inr ())
 | 0,i,hi=>by rw [Zbo,if_neg (by simp;omega),List.drop_of_length_le (by omega)];rfl
 | n + 1,i,hi=>by
  have hil:i < w.length:=by omega
  rw [Zbo,if_pos (by simp;omega),Zd0 hil,Option.bind_some,List.drop_eq_getElem_cons hil]
  have hg:getS (toP (w[i] :: w.drop (i + 1))) k=if w[i].Key=k then some w[i].Score else getS (toP (w.drop (i + 1))) k:=rfl
  rw [hg]
  by_cases hk:w[i].Key=k
  ·rw [if_pos (Zek.2 hk),if_pos hk];rfl
  ·rw [if_neg (by rw [Zmx.2 hk];decide),if_neg hk,wr1 (by omega)]
   exact Zil w k hl n (i + 1) (by omega)
theorem Same12.refScore {h:Zl} {w:List RM} (hs:Same12 h w) (k:ByteArray):Zc5 w k=Zbe h k:=by
 have hl:=hs.len
 unfold Zc5 Zbe
 have:=Zil w k (by omega) w.length 0 (by omega)
 rw [show ((0:Nat):Int)=0 from rfl,List.drop_zero] at this
 rw [show Int.toNat ((w.length:Int) - (0:Int)) + 1=w.length + 1 by omega,this,hs.eq]
 cases getS (toP w) k <;> rfl
theorem Zoo:Same12 ⟨[]⟩ []:=⟨rfl,List.nodup_nil,List.Pairwise.nil,by simp⟩
theorem LotOk.wf {x:Zr} (h:LotOk x):(∀ d ∈ x.Deals,d.Acts.length ≤ maxLen) ∧ x.Deals.length ≤ maxLen:=⟨fun d hd=>by have:=h.acts d hd;simp only [maxLen];omega,by have:=h.deals;simp only [maxLen];omega⟩
theorem Zqv {h:Zl} {w:List RM} {x:Zr} (hs:Same12 h w) (hx:LotOk x):∃ h' w',Zbc h x=some (h',()) ∧ Zb6 w x=some w' ∧ Same12 h' w' ∧ h'.by_=Zde (Zdr h.by_ x) :=
 Znb hs hx.wf.1 hx.wf.2 (by have:=hx.hits;omega)
theorem Zix {l:List Zr} {k:ByteArray} (hl:l.length ≤ 12) (hx:∀ x ∈ l,LotOk x):∀ (n i:Nat) {h:Zl} {w:List RM},i + n=l.length → Same12 h w → Z6 l k (n + 1) h w (i:Int)=some (.inr ())
 | 0,i,h,w,hi,hs=>by rw [Z6,if_neg (by simp;omega)]
 | n + 1,i,h,w,hi,hs=>by
  have hil:i < l.length:=by omega
  obtain ⟨h',w',e1,e2,hs',_⟩:=Zqv hs (hx _ (List.getElem_mem hil))
  rw [Z6,if_pos (by simp;omega),Zd0 hil,Option.bind_some,e1,Option.bind_some,e2,Option.bind_some]
  simp only []
  rw [hs'.is,Option.bind_some]
  simp only [Bool.not_true,Bool.not_false,gd_t,Bool.false_or]
  rw [hs'.refScore]
  have hsc:Zbe h' k=some ((getS h'.by_ k).getD 0):=rfl
  rw [hsc,hs'.blen]
  simp only [Option.bind_some,bne_self_eq_false,Bool.not_false,gd_t,Bool.false_or]
  have:=hs'.len
  rw [if_neg (by simp;omega),wr1 (by omega)]
  exact Zix hl hx n (i + 1) (by omega) hs'
theorem HeatNotes_true (a0:List Zr) (a1:ByteArray) (w0:a0.length ≤ maxLen ∧ ∀ e0 ∈ a0,Zgd e0) (w1:a1.size ≤ maxLen):Zcz a0 a1=some true:=by
 unfold Zcz
 rw [Zoa,Option.bind_some,if_neg (by decide)]
 rcases Zmp a0 with hb | ⟨hb,hl,hx⟩
 ·rw [hb];rfl
 ·rw [hb,Option.bind_some,if_neg (by decide)]
  have:=Zix (k:=a1) hl hx a0.length 0 (by omega) Zoo
  rw [show ((0:Nat):Int)=0 from rfl] at this
  rw [show Int.toNat ((a0.length:Int) - (0:Int)) + 1=a0.length + 1 by omega,this]
  rfl
end Go.CL
namespace Go.CL
open Go Go.RowKit Go.Proofs Go.ChangeShapes Go.WideShapes Go.ChangeAt
theorem Zoi:ownKnob Tryd.prog.godebug=none:=by kernel_rfl
theorem Zjf:laidOutB Tryd.prog=true:=by kernel_rfl
theorem op_3:Opn Tryd.prog 3 (Kd.int .i64) (fun x=>((IntKind.i64).min ≤ x ∧ x ≤ (IntKind.i64).max)):=Zlc Tryd.underlying3 (by kernel_rfl)
theorem op_9:Opn Tryd.prog 9 Kd.str (fun x=>(x.size ≤ maxLen)):=Zqp Tryd.underlying9 (by kernel_rfl)
theorem op_2:Opn Tryd.prog 2 (Kd.int .i64) (fun x=>((IntKind.i64).min ≤ x ∧ x ≤ (IntKind.i64).max)):=Zlc Tryd.underlying2 (by kernel_rfl)
theorem Zlx:Opn Tryd.prog 46 Kd.flt (fun x=>(x < 2 ^ 64)):=Zqn Tryd.underlying46 (by kernel_rfl)
theorem Zqz:Opn Tryd.prog 105 Zb5 Zfv:=⟨by kernel_rfl,fun hg h=>by
 obtain ⟨hl,n,hf⟩:=Zel Tryd.underlying105 h
 obtain ⟨y0,h0⟩:=hf 0 _ rfl
 obtain ⟨v0,k0,w0⟩:=Zlx.op hg h0
 obtain ⟨y1,h1⟩:=hf 1 _ rfl
 obtain ⟨v1,k1,w1⟩:=op_9.op hg h1
 refine ⟨⟨v0,v1⟩,⟨hl.trans (by kernel_rfl),(Qc.2 ⟨k0,(Qc.2 ⟨k1,(fun _ h=>by cases h)⟩)⟩)⟩,w0,w1⟩,fun h=>Ze5 Tryd.underlying105 h⟩
theorem Zrl:Opn Tryd.prog 47 Zb5.sl (fun x=>(x.length ≤ maxLen ∧ ∀ e0 ∈ x,(Zfv e0))):=Zib Tryd.underlying47 (by kernel_rfl) Zqz (by decide)
theorem Zrf:Opn Tryd.prog 49 Zcc Zgs:=⟨by kernel_rfl,fun hg h=>by
 obtain ⟨hl,n,hf⟩:=Zel Tryd.underlying49 h
 obtain ⟨y0,h0⟩:=hf 0 _ rfl
 obtain ⟨v0,k0,w0⟩:=op_3.op hg h0
 obtain ⟨y1,h1⟩:=hf 1 _ rfl
 obtain ⟨v1,k1,w1⟩:=op_2.op hg h1
 obtain ⟨y2,h2⟩:=hf 2 _ rfl
 obtain ⟨v2,k2,w2⟩:=op_2.op hg h2
 obtain ⟨y3,h3⟩:=hf 3 _ rfl
 obtain ⟨v3,k3,w3⟩:=op_2.op hg h3
 obtain ⟨y4,h4⟩:=hf 4 _ rfl
 obtain ⟨v4,k4,w4⟩:=Zlx.op hg h4
 obtain ⟨y5,h5⟩:=hf 5 _ rfl
 obtain ⟨v5,k5,w5⟩:=op_3.op hg h5
 obtain ⟨y6,h6⟩:=hf 6 _ rfl
 obtain ⟨v6,k6,w6⟩:=op_9.op hg h6
 obtain ⟨y7,h7⟩:=hf 7 _ rfl
 obtain ⟨v7,k7,w7⟩:=Zrl.op hg h7
 refine ⟨⟨v0,v1,v2,v3,v4,v5,v6,v7⟩,⟨hl.trans (by kernel_rfl),(Qc.2 ⟨k0,(Qc.2 ⟨k1,(Qc.2 ⟨k2,(Qc.2 ⟨k3,(Qc.2 ⟨k4,(Qc.2 ⟨k5,(Qc.2 ⟨k6,(Qc.2 ⟨k7,(fun _ h=>by cases h)⟩)⟩)⟩)⟩)⟩)⟩)⟩)⟩)⟩,w0,w1,w2,w3,w4,w5,w6,w7⟩,fun h=>Ze5 Tryd.underlying49 h⟩
theorem op_4:Opn Tryd.prog 4 Kd.bool (fun x=>True):=Zoz Tryd.underlying4 (by kernel_rfl)
theorem Zrb:Opn Tryd.prog 51 Zy Zgh:=⟨by kernel_rfl,fun hg h=>by
 obtain ⟨hl,n,hf⟩:=Zel Tryd.underlying51 h
 obtain ⟨y0,h0⟩:=hf 0 _ rfl
 obtain ⟨v0,k0,w0⟩:=op_3.op hg h0
 obtain ⟨y1,h1⟩:=hf 1 _ rfl
 obtain ⟨v1,k1,w1⟩:=op_9.op hg h1
 obtain ⟨y2,h2⟩:=hf 2 _ rfl
 obtain ⟨v2,k2,w2⟩:=op_2.op hg h2
 obtain ⟨y3,h3⟩:=hf 3 _ rfl
 obtain ⟨v3,k3,w3⟩:=Zlx.op hg h3
 obtain ⟨y4,h4⟩:=hf 4 _ rfl
 obtain ⟨v4,k4,w4⟩:=op_9.op hg h4
 obtain ⟨y5,h5⟩:=hf 5 _ rfl
 obtain ⟨v5,k5,w5⟩:=Zrf.op hg h5
 obtain ⟨y6,h6⟩:=hf 6 _ rfl
 obtain ⟨v6,k6,w6⟩:=op_4.op hg h6
 refine ⟨⟨v0,v1,v2,v3,v4,v5,v6⟩,⟨hl.trans (by kernel_rfl),(Qc.2 ⟨k0,(Qc.2 ⟨k1,(Qc.2 ⟨k2,(Qc.2 ⟨k3,(Qc.2 ⟨k4,(Qc.2 ⟨k5,(Qc.2 ⟨k6,(fun _ h=>by cases h)⟩)⟩)⟩)⟩)⟩)⟩)⟩)⟩,w0,w1,w2,w3,w4,w5,w6⟩,fun h=>Ze5 Tryd.underlying51 h⟩
theorem Zq8:Opn Tryd.prog 52 Zy.sl (fun x=>(x.length ≤ maxLen ∧ ∀ e0 ∈ x,(Zgh e0))):=Zib Tryd.underlying52 (by kernel_rfl) Zrb (by decide)
theorem Zrd:Opn Tryd.prog 54 Z5 Zfw:=⟨by kernel_rfl,fun hg h=>by
 obtain ⟨hl,n,hf⟩:=Zel Tryd.underlying54 h
 obtain ⟨y0,h0⟩:=hf 0 _ rfl
 obtain ⟨v0,k0,w0⟩:=Zq8.op hg h0
 refine ⟨⟨v0⟩,⟨hl.trans (by kernel_rfl),(Qc.2 ⟨k0,(fun _ h=>by cases h)⟩)⟩,w0⟩,fun h=>Ze5 Tryd.underlying54 h⟩
theorem Zsa:Opn Tryd.prog 29 Z5.sl (fun x=>(x.length ≤ maxLen ∧ ∀ e0 ∈ x,(Zfw e0))):=Zib Tryd.underlying29 (by kernel_rfl) Zrd (by decide)
theorem Zru:Opn Tryd.prog 31 Zp Zgd:=⟨by kernel_rfl,fun hg h=>by
 obtain ⟨hl,n,hf⟩:=Zel Tryd.underlying31 h
 obtain ⟨y0,h0⟩:=hf 0 _ rfl
 obtain ⟨v0,k0,w0⟩:=op_3.op hg h0
 obtain ⟨y1,h1⟩:=hf 1 _ rfl
 obtain ⟨v1,k1,w1⟩:=Zsa.op hg h1
 refine ⟨⟨v0,v1⟩,⟨hl.trans (by kernel_rfl),(Qc.2 ⟨k0,(Qc.2 ⟨k1,(fun _ h=>by cases h)⟩)⟩)⟩,w0,w1⟩,fun h=>Ze5 Tryd.underlying31 h⟩
theorem Zr2:Opn Tryd.prog 22 Zp.sl (fun x=>(x.length ≤ maxLen ∧ ∀ e0 ∈ x,(Zgd e0))):=Zib Tryd.underlying22 (by kernel_rfl) Zru (by decide)
theorem Zpk:Det Tryd.prog 9:=Zqs Tryd.underlying9
theorem Zsb:Det Tryd.prog 3:=Zp0 Tryd.underlying3
theorem Zq2:Det Tryd.prog 74:=Zmf Tryd.underlying74 (fun i f h=>match i,f,h with
 | 0,_,h=>by obtain rfl:=Option.some.inj h;exact Zpk
 | 1,_,h=>by obtain rfl:=Option.some.inj h;exact Zsb
 | 2,_,h=>by obtain rfl:=Option.some.inj h;exact Zpk
 | _ + 3,_,h=>by cases h) (by kernel_rfl)
theorem Zq5:Det Tryd.prog 84:=Zps Tryd.underlying84 Zq2 (by kernel_rfl)
theorem HeatNotes_met (os : Os) (args : Array Value) : laidMetH Tryd.prog [("moiety/act.kinds", Go.Proofs.YtbbmlejgoepmfaaDoor.Rows.laid_moiety_act_kinds)] ((World.doorLaid Tryd.prog 400 os).forCall (fun _ _ => 0) ⟨#[], args, []⟩).memory :=
 laidMetH_of_parts3 (fuel:=8) (laidMet_of_run' 8 (by kernel_rfl) (by kernel_rfl)) (by kernel_rfl) (by kernel_rfl)
theorem HeatNotes_gl {W : World} (h : laidMetH Tryd.prog [("moiety/act.kinds", Go.Proofs.YtbbmlejgoepmfaaDoor.Rows.laid_moiety_act_kinds)] W) : GLok W (fun b _ => b < W.heap.size) := by
 have g0 := Zpb (P := Tryd.prog) (nm := "moiety/act.kinds") (d := Go.Proofs.YtbbmlejgoepmfaaDoor.Rows.laid_moiety_act_kinds) (g := 0) (t := 84) (W := W) (w0 := W) (cells := [.string ⟨#[]⟩, .int .i64 (0), .string ⟨#[]⟩, .string ⟨#[110, 101, 119]⟩, .int .i64 (0), .string ⟨#[109]⟩, .string ⟨#[100, 114, 111, 112]⟩, .int .i64 (0), .string ⟨#[]⟩, .string ⟨#[105, 115]⟩, .int .i64 (0), .string ⟨#[]⟩, .string ⟨#[108, 111, 111, 107]⟩, .int .i64 (0), .string ⟨#[]⟩, .string ⟨#[112, 117, 116]⟩, .int .i64 (1), .string ⟨#[115]⟩, .string ⟨#[115, 119, 97, 112]⟩, .int .i64 (1), .string ⟨#[115]⟩, .string ⟨#[97, 100, 100]⟩, .int .i64 (2), .string ⟨#[110]⟩, .string ⟨#[112, 108, 117, 115]⟩, .int .i64 (3), .string ⟨#[110]⟩, .string ⟨#[114, 101, 97, 99, 104]⟩, .int .i64 (3), .string ⟨#[110]⟩, .string ⟨#[105, 110]⟩, .int .i64 (4), .string ⟨#[110]⟩, .string ⟨#[111, 117, 116]⟩, .int .i64 (4), .string ⟨#[110]⟩, .string ⟨#[101, 110, 111, 117, 103, 104]⟩, .int .i64 (4), .string ⟨#[110]⟩, .string ⟨#[114, 97, 105, 115, 101]⟩, .int .i64 (5), .string ⟨#[120]⟩, .string ⟨#[108, 111, 119, 101, 114]⟩, .int .i64 (6), .string ⟨#[120]⟩, .string ⟨#[115, 104, 105, 102, 116]⟩, .int .i64 (7), .string ⟨#[120]⟩, .string ⟨#[115, 99, 97, 108, 101]⟩, .int .i64 (7), .string ⟨#[120]⟩, .string ⟨#[102, 105, 120]⟩, .int .i64 (7), .string ⟨#[120]⟩, .string ⟨#[106, 111, 105, 110]⟩, .int .i64 (8), .string ⟨#[115]⟩, .string ⟨#[108, 101, 97, 118, 101]⟩, .int .i64 (8), .string ⟨#[115]⟩, .string ⟨#[104, 97, 115]⟩, .int .i64 (8), .string ⟨#[115]⟩, .string ⟨#[111, 102, 102, 101, 114]⟩, .int .i64 (9), .string ⟨#[120, 115]⟩]) (fu := 8) (by kernel_rfl) (by kernel_rfl) Zq5 (by kernel_rfl) (by kernel_rfl) h
 intro e he i v hv
 rcases List.mem_cons.1 he with rfl | he
 ·exact ⟨(Zg3 (g0 i v hv)).2,g0 i v hv⟩
 cases he
theorem HeatNotes_ret (os:Os) (started:os.Started) (H:Type) (enc:TypeId × Value → H) :
  ReturnsInHanded {} Tryd.checked os 3 .any (fun w args => (Go.Proofs.YtbbmlejgoepmfaaDoor.Rows.heatNotesSpec.pre enc Tryd.prog Tryd.f3 [] false w args ∧ laidMetH Tryd.prog [("moiety/act.kinds", Go.Proofs.YtbbmlejgoepmfaaDoor.Rows.laid_moiety_act_kinds)] w) ∧ sizedMet enc Tryd.prog Tryd.f3 (OpenSpec.ofChange Go.Proofs.YtbbmlejgoepmfaaDoor.Rows.heatNotesSpec) false w args) (Go.Proofs.YtbbmlejgoepmfaaDoor.Rows.heatNotesSpec.post enc Tryd.prog Tryd.f3 false true false false) := by
 refine returnsInHanded_of_change_and (C := Tryd.checked) (X := fun w _ => laidMetH Tryd.prog [("moiety/act.kinds", Go.Proofs.YtbbmlejgoepmfaaDoor.Rows.laid_moiety_act_kinds)] w) (fun _ _ _ hh h => h.of_heap hh) Zoi started (by kernel_rfl) Tryd.func3
  (ChangeSpec.witness_shaped (enc := enc) (C := Tryd.checked) (os := os) (X := fun w _ => laidMetH Tryd.prog [("moiety/act.kinds", Go.Proofs.YtbbmlejgoepmfaaDoor.Rows.laid_moiety_act_kinds)] w) false (World.doorLaid Tryd.prog 400 os) #[.slice none 0 0, .string ByteArray.empty] 8 rfl (World.shaped_of_RefB (by kernel_rfl) (by kernel_rfl)) (by kernel_rfl) (by kernel_rfl) (by kernel_rfl) (HeatNotes_met os _)) ?_
 intro W base args ds gs before hval0 hW hcnd _ hL _
 have hval:∀ (j:Nat) t v,Tryd.f3.params[j]?=some t → args[j]?=some v → Value.okWide Tryd.prog W .any base t v:=hval0
 have hW':=hW
 obtain ⟨p,q,hA0,hV,rfl,hfz,hnd⟩:=hW
 have hA:DataW.TrodAll enc Tryd.prog W 0 (fun _=>true) true Tryd.f3.params.toList args.toList ds p:=hA0
 rw [Tryd.params3] at hA hval
 obtain ⟨v0,v1,d0,d1,p0,p1,rfl,rfl,rfl,h0,h1⟩:=trodAll_two hA
 obtain ⟨rfl,rfl⟩:=trodVars_none hV
 simp only [List.append_nil] at hW'
 have hg:GLok W (fun b _=>b < W.heap.size):=(HeatNotes_gl hL)
 have hk0:=h0
 obtain ⟨a0,q0,w0⟩:=Znn Zr2 hg h0 (hval 0 22 v0 rfl rfl)
 have hk1:=h1
 obtain ⟨a1,q1,w1⟩:=Znn op_9 hg h1 (hval 1 9 v1 rfl rfl)
 refine (Zfq a0 a1 (HeatNotes_true a0 a1 w0 w1) (GW W hg) [v0,v1] (Zc9 q0 (Zc9 q1 Zeq))).mono fun e W' ⟨g',v,he,hw,hs,hq⟩=>?_
 subst he;subst hw
 rw [Zcx.1 hq]
 have hbel:=Zpa hs
 have hlt:∀ x ∈ (p0 ++ p1),x.block < W.heap.size:=fun x hx=>by simpa using hW'.lt x hx
 exact ⟨_,rfl,Zj0 (pv:=[]) hW' hbel (trodAll_mk1 (shut_bool Tryd.underlying4 true)) (trodAll_mk2 (Below.trod Zjf (by kernel_rfl) (of_decide_eq_true (by kernel_rfl)) hk0 hbel (fun x hx=>hlt x (by simp [hx]))) (Below.trod Zjf (by kernel_rfl) (of_decide_eq_true (by kernel_rfl)) hk1 hbel (fun x hx=>hlt x (by simp [hx])))) rfl⟩
theorem HeatNotes_holds:Go.Proofs.YtbbmlejgoepmfaaDoor.Rows.HeatNotesSaid :=
 OpenClaim.holds_of_wide 3 Tryd.f3 rfl rfl rfl rfl rfl rfl rfl ⟨rfl,rfl,rfl,rfl,rfl⟩ rfl rfl rfl rfl rfl (by kernel_rfl) Tryd.func3 (by kernel_rfl)
  (of_decide_eq_true (by kernel_rfl)) (by unfold Func.isWrapper;first | (rw [if_pos (by decide +kernel)];kernel_rfl) | (rw [if_neg (by decide +kernel)];exact ⟨rfl,rfl⟩))
  (fun os started H enc _=>HeatNotes_ret os started H enc)
theorem HeatNotes_card:Go.Proofs.YtbbmlejgoepmfaaDoor.Rows.HeatNotesCardSaid :=
 Claim7.holds_tied_plain_at .later [] [.data] true (true, "0f385618a5a781f486d398e3341a6d17e16545868650a458dabb3384b4aaa6c1") true
  HeatNotes_holds (fun _ h=>by cases h) (by kernel_rfl) (fun _ h=>by cases h) Go.Proofs.YtbbmlejgoepmfaaDoor.heatNotes_row_tie rfl ⟨rfl,rfl⟩ (by kernel_rfl) rfl
  (fun f fn hf hfn=>by
   obtain rfl : f = 3 := Option.some.inj ((show Tryd.prog.funcNamed "moiety/moietylaw12.HeatNotes" = some 3 by kernel_rfl).symm.trans hf) |>.symm
   obtain rfl:fn=Tryd.f3:=(Option.some.inj (Tryd.func3.symm.trans hfn)).symm
   exact ⟨by kernel_rfl,fun j t ht=>by
    rw [Tryd.params3] at ht
    have hm:t ∈ [22,9]:=by simpa using Array.mem_of_getElem? ht
    have hall:(([22,9]:List TypeId).all fun u=>!Tryd.prog.wantsStandIn u)=true:=by kernel_rfl
    exact (show Tryd.prog.wantsStandIn t=false by simpa using List.all_eq_true.1 hall t hm)⟩)
  (by kernel_rfl)
end Go.CL
