/- A part of the proof of HeatFades. -/
import Derived.Test.YtbbmlejgoepmfaaDoorHeatFadesC2
import Derived.Test.YtbbmlejgoepmfaaDoorRows
import Derived.Test.YtbbmlejgoepmfaaDoorCards
import Derived.Test.YtbbmlejgoepmfaaDoorTie
import Derived.SevenTiedAt
set_option linter.unusedVariables false
set_option linter.unusedSimpArgs false
set_option maxRecDepth 100000
namespace Go.CL
open Go Go.RowKit Go.Proofs
theorem Zf3 {r:Bool} (h:Zcv=some r):FnOk Tryd.prog 7 [] (Zn r):=by
 have H0:=h
 unfold Zcv at H0
 clear h
 refine Zco (N:=47) Tryd.func7 rfl rfl (Qe rfl) rfl rfl (fun a g0 hst hb=>?_)
 refine r_s (T:=[⟨[],_,[],[],[0]⟩]) (F:=[]) hst hb Zb
  (Qa rfl c_b<|o_n) (fun a g hst hb=>?_)
 refine r_s (T:=[⟨[],_,[],[],[5]⟩,⟨[],[(1,(pBox Z1 1 (default:Zo)))],[2],[],[1]⟩,⟨[.p 0 0,.p 1 0],_,[2],[0,1],[1]⟩]) (F:=[.p 2 0]) hst hb Zb
  (o_p rfl (Zk2 rfl rfl c_i c_s c_i)<|o_p rfl (Zc5 (zs:=[.int .i64 0,.string ByteArray.empty,.int .i64 0,.float .f64 0,.string ByteArray.empty,.int .i64 0,.int .i64 0,.int .i64 0,.int .i64 0,.float .f64 0,.int .i64 0,.string ByteArray.empty,.slice none 0 0,.bool false]) (by kernel_rfl) (fun g=>Zfc g) rfl rfl)<|o_p rfl (Zcz Zen rfl rfl u_1 u_0)<|o_n) (fun a g hst hb=>?_)
 refine r_s (T:=[⟨[],[(2,(Zy none Zq 2 (⟨[]⟩:Zi)))],[3,1000003],[],[2]⟩]) (F:=[.o 0,.p 0 0]) hst hb Zb
  (o_p rfl (Zi8 (by kernel_rfl) rfl rfl)<|o_n) (fun a g hst hb=>?_)
 obtain ⟨r1,h2,H0⟩:=Zd H0
 refine r_s (T:=[⟨[.o 0],_,[],[],[6]⟩,⟨[.o 0],_,[],[],[7]⟩,⟨[.p 0 0,.p 1 0],_,[],[0,1],[8]⟩,⟨[.p 2 0],_,[],[0,1,2],[9]⟩,⟨[.o 0],_,[],[],[10]⟩,⟨[.p 4 0],_,[],[4],[11]⟩,⟨[.p 5 0],_,[],[4,5],[12]⟩,⟨[.p 3 0,.p 6 0],_,[],Lr 7,[13]⟩,⟨[.p 7 0],_,[],Lr 8,[14]⟩,⟨[.o 1,.p 8 0],[(15,(pTup [])),(2,(Zy none Zq 2 r1.1))],[3,1000003],Lr 9,[2,15]⟩]) (F:=[.p 9 1]) hst hb Zb
  (Ql rfl Zen u_0<|Ql rfl Zen u_0<|o_p rfl (Zeo Zpu (xs:=[.tmp 6,.tmp 7]) (.cons u_0 (.cons u_1 .nil)) (by decide) rfl rfl)<|o_p rfl (Zlt rfl rfl u_0)<|Ql rfl Zen u_0<|o_p rfl (Zeo Zpu (xs:=[.tmp 10]) (.cons u_0 .nil) (by decide) rfl rfl)<|o_p rfl (Zlt rfl rfl u_0)<|o_p rfl (Zeo Zsm (xs:=[.tmp 9,.tmp 12]) (.cons u_0 (.cons u_1 .nil)) (by decide) rfl rfl)<|o_p rfl (Zqd rfl rfl u_0)<|o_p rfl (Zb1 en_9 (Zdt _ _ h2) rfl rfl rfl (by decide) u_0 u_0 (.cons u_1 .nil))<|o_n) (fun a g hst hb=>?_)
 refine r_s (T:=[⟨[.o 0],[(16,(Zy none Zq 16 r1.1))],[17,1000017],[],[16]⟩,⟨[.p 0 0],[(3,(Zy none Zq 16 r1.1))],[],[0],[3]⟩]) (F:=[.o 0,.p 1 0]) hst hb Zb
  (o_p rfl (Zi9 Zp3 (Ze5 _) rfl rfl u_0)<|Qa rfl u_0<|o_n) (fun a g hst hb=>?_)
 obtain ⟨r3,h4,H0⟩:=Zd H0
 refine r_s (T:=[⟨[],_,[],[],[17]⟩,⟨[.o 0,.p 0 0],[(18,(pTup [])),(2,(Zy none Zq 2 r3.1))],[3,1000003],[0],[2,18]⟩]) (F:=[.p 1 1,.o 1]) hst hb Zb
  (o_p rfl (Zns rfl rfl )<|o_p rfl (Zb1 en_9 (Zdt _ _ h4) rfl rfl rfl (by decide) u_0 u_0 (.cons u_1 .nil))<|o_n) (fun a g hst hb=>?_)
 obtain ⟨r5,h6,H0⟩:=Zd H0
 refine r_s (T:=[⟨[.o 0],[(19,(Zl.sl.pd r5)),(2,(Zy none Zq 2 r3.1))],[3,1000003],[],[2,19]⟩,⟨[.p 0 0],_,[],[0],[4]⟩]) (F:=[.p 0 1,.o 1,.p 1 0]) hst hb Zb
  (o_p rfl (Zb1 Zj6 (Zek _ h6) rfl rfl rfl (by decide) u_0 u_0 .nil)<|Qa rfl u_0<|o_n) (fun a g hst hb=>?_)
 obtain ⟨r7,h8,H0⟩:=Zd H0;obtain ⟨r9,h10,H0⟩:=Zd H0;obtain ⟨r11,h12,H0⟩:=Zd H0;obtain ⟨e13,h14,H0⟩:=Zd H0
 refine r_s (T:=⟨[.o 1],[(20,(Zy none Zq 16 r1.1))],[],[],[20]⟩ :: ⟨[.p 0 0],_,[],[0],[21]⟩ :: ⟨[.p 1 0],_,[],[0,1],[22]⟩ :: ⟨[.p 2 0,.o 1],[(23,(pIf (!false) (Zy none Zq 16 r1.1)))],[],[0,1,2],[23]⟩ :: ⟨[.p 2 0,.p 3 0,.o 1],[(24,(pIf (!false) (pInt .i64 r7))),(3,(Zy none Zq 16 r1.1))],[17,1000017],Lr 4,[3,20,23,24]⟩ :: ⟨[.p 2 0,.p 4 0],_,[],Lr 5,[25]⟩ :: ⟨[.p 2 0,.p 5 0],_,[],Lr 6,[26]⟩ :: ⟨[.p 6 0],_,[],Lr 7,[27]⟩ :: ⟨[.p 7 0,.o 0],[(28,(pIf ((!false) && (r7 == (3:Int))) (pInt .i64 r9))),(2,(Zy none Zq 2 r3.1))],[3,1000003],Lr 8,[2,28]⟩ :: ⟨[.p 7 0,.p 8 0],_,[],Lr 9,[29]⟩ :: ⟨[.p 7 0,.p 9 0],_,[],Lr 10,[30]⟩ :: ⟨[.p 10 0],_,[],Lr 11,[31]⟩ :: ⟨[.p 11 0,.p 8 1],[(32,(pIf (((!false) && (r7 == (3:Int))) && (r9 == (1:Int))) (pInt .i64 r11))),(2,(Zy none Zq 2 r3.1))],[3,1000003],Lr 12,[2,32]⟩ :: ⟨[.p 11 0,.p 12 0],_,[],Lr 13,[33]⟩ :: ⟨[.p 11 0,.p 13 0],_,[],Lr 14,[34]⟩ :: ⟨[.p 14 0],_,[],Lr 15,[35]⟩ :: ⟨[.p 15 0,.o 2],_,[],Lr 16,[36]⟩ :: ⟨[.p 15 0,.p 16 0],_,[],Lr 17,[37]⟩ :: ⟨[.p 15 0,.p 17 0],_,[],Lr 18,[38]⟩ :: ⟨[.p 15 0,.p 18 0],_,[],Lr 19,[39]⟩ :: ⟨[.p 19 0],_,[],Lr 20,[40]⟩ :: ⟨[.p 20 0,.o 2],_,[],Lr 21,[41]⟩ :: ⟨[.p 20 0,.p 21 0],_,[],Lr 22,[42]⟩ :: ⟨[.p 20 0,.p 22 0],_,[],Lr 23,[43]⟩ :: ⟨[.p 20 0],_,[],Lr 21,[44]⟩ :: ⟨[.p 20 0,.p 23 0,.p 24 0],_,[],Lr 25,[45]⟩ :: ⟨[.p 20 0,.p 25 0],_,[],Lr 26,[46]⟩ :: ⟨[.p 26 0],_,[],Lr 27,[0]⟩ :: []) (F:=[.p 27 0]) hst hb Zb
  (Qm rfl u_0<|o_p rfl (Zrf Tryd.underlying35 rfl rfl u_0 Zot)<|Qm rfl u_0<|o_g (Qg_t rfl (fun hG=>Zbo rfl rfl u_0))<|o_g (OT.guardMR (!false) (gT (!false)).1 (gT (!false)).2 rfl rfl rfl (by decide) u_1 (fun hG=>Zb1 Zmx (Zd5 _ _ (Zdb h8 hG)) rfl rfl rfl (by decide) u_1 (Opd.gd hG u_0) (.cons c_s .nil)) (ite_self _).symm)<|o_g (Qg_t rfl (fun hG=>Zcd rfl rfl (Opd.gd hG u_0) c_i))<|o_p rfl (Zei rfl rfl u_0 (fun hz=>(Opd.gd hz u_1)))<|Qm rfl u_0<|o_g (OT.guardMR ((!false) && (r7 == (3:Int))) (gT ((!false) && (r7 == (3:Int)))).1 (gT ((!false) && (r7 == (3:Int)))).2 rfl rfl rfl (by decide) u_0 (fun hG=>Zb1 Zmx (Zd5 _ _ (Zdb h10 hG)) rfl rfl rfl (by decide) u_0 u_0 (.cons c_s .nil)) (ite_self _).symm)<|o_g (Qg_t rfl (fun hG=>Zcd rfl rfl (Opd.gd hG u_0) c_i))<|o_p rfl (Zei rfl rfl u_0 (fun hz=>(Opd.gd hz u_1)))<|Qm rfl u_0<|o_g (OT.guardMR (((!false) && (r7 == (3:Int))) && (r9 == (1:Int))) (gT (((!false) && (r7 == (3:Int))) && (r9 == (1:Int)))).1 (gT (((!false) && (r7 == (3:Int))) && (r9 == (1:Int)))).2 rfl rfl rfl (by decide) u_0 (fun hG=>Zb1 Zma (Zel _ (Zdb h12 hG)) rfl rfl rfl (by decide) u_0 u_0 .nil) (ite_self _).symm)<|o_g (Qg_t rfl (fun hG=>Zcd rfl rfl (Opd.gd hG u_0) c_i))<|o_p rfl (Zei rfl rfl u_0 (fun hz=>(Opd.gd hz u_1)))<|Qm rfl u_0<|o_g (Qg_t rfl (fun hG=>Zbo rfl rfl u_0))<|o_g (Qg_t rfl (fun hG=>Zbl Tryd.underlying41 rfl rfl (Opd.gd hG u_0)))<|o_g (Qg_t rfl (fun hG=>Zcd rfl rfl (Opd.gd hG u_0) c_i))<|o_p rfl (Zei rfl rfl u_0 (fun hz=>(Opd.gd hz u_1)))<|Qm rfl u_0<|o_g (Qg_t rfl (fun hG=>Zbo rfl rfl u_0))<|o_g (Qg_t rfl (fun hG=>Zu Tryd.underlying41 Zix rfl rfl (Opd.gd hG u_0) c_i (Zdb h14 hG)))<|o_g (Qg_t rfl (fun hG=>Zcs Zmh rfl rfl (Opd.gd hG u_0)))<|o_g (Qg_t rfl (fun hG=>Zjh rfl rfl c_s c_i))<|o_g (Qg_t rfl (fun hG=>Zqo rfl Zpx Tryd.underlying58 (by kernel_rfl) (by kernel_rfl) Zrj rfl rfl (Opd.gd hG u_0) (Opd.gd hG u_1)))<|o_p rfl (Zei rfl rfl u_0 (fun hz=>(Opd.gd hz u_1)))<|Qa rfl u_0<|o_n) (fun a g hst hb=>?_)
 refine wp_ret ?_
 obtain rfl:=Option.some.inj H0
 exact Z6 rfl hst hb (Zm (s:=0)) (hst.at 0 rfl)
theorem Zhg (a0:Zv) {r:Int} (h:Zc0 a0=some r):FnOk Tryd.prog 48 [(Zcl.pd a0)] (pInt .i64 r):=by
 have H0:=h
 unfold Zc0 at H0
 clear h
 refine Zco (N:=27) Tryd.func48 rfl rfl (Qe rfl) rfl rfl (fun a g0 hst hb=>?_)
 refine r_s (T:=[⟨[.o 0],_,[],[],[1]⟩,⟨[],_,[],[],[2]⟩]) (F:=[.p 0 0]) hst hb Zb
  (Qb rfl u_0<|Qa rfl c_i<|o_n) (fun a g hst hb=>?_)
 refine wp_seq ?_
 refine r_s (T:=[⟨[.o 0],_,[],[],[5]⟩,⟨[.p 0 0],_,[],[0],[6]⟩,⟨[.p 1 0],_,[],[0,1],[7]⟩,⟨[.p 2 0],_,[],[0,1,2],[8]⟩,⟨[.p 3 0],_,[],Lr 4,[9]⟩,⟨[.p 4 0,.o 0],_,[],Lr 5,[10]⟩,⟨[.p 4 0,.p 5 0],_,[],Lr 6,[11]⟩,⟨[.p 4 0,.p 6 0],_,[],Lr 7,[12]⟩,⟨[.p 4 0,.p 7 0],_,[],Lr 8,[13]⟩,⟨[.p 4 0,.p 8 0],_,[],Lr 9,[14]⟩]) (F:=[.o 0,.p 9 0]) hst hb Zb
  (Qf rfl Zlq u_0<|Ql rfl Zpz u_0<|o_p rfl (Zbl Tryd.underlying47 rfl rfl u_0)<|o_p rfl (Zdq rfl rfl u_0 c_i)<|Qm rfl u_0<|o_g (Qg_f rfl (fun hG=>Zbt Zqw rfl rfl u_0))<|o_g (Qg_f rfl (fun hG=>Zcs ty_9 rfl rfl (Opd.gd hG u_0)))<|o_g (Qg_f rfl (fun hG=>Zhv Tryd.underlying9 rfl rfl (Opd.gd hG u_0)))<|o_g (Qg_f rfl (fun hG=>Zdq rfl rfl (Opd.gd hG u_0) c_i))<|o_p rfl (Zde rfl rfl u_0 (fun hz=>(Opd.gd (bNF hz) u_1)))<|o_n) (fun a g hst hb=>?_)
 refine wp_cond_split (hst.bool 1 rfl) (fun hc1=>?_) (fun hc1=>?_)
 ·replace H0:=Zx hc1 H0
  refine r_s (L:=[]) (T:=[⟨[],_,[],[],[2]⟩]) (F:=[.p 0 0]) (hst.pick [] rfl) hb Zb
   (Qa rfl c_i<|o_n) (fun a g hst hb=>?_)
  refine wp_ret ?_
  refine Zt ?_
  obtain rfl:=Option.some.inj H0
  exact Z6 rfl hst hb (Zm (s:=2)) (hst.at 0 rfl)
 ·replace H0:=Zw hc1 H0
  refine wp_skip ?_
  refine Zg ?_
  refine wp_seq ?_
  refine r_s (L:=[(1,_)]) (T:=[⟨[.o 0],_,[],[],[15]⟩,⟨[.p 0 0],_,[],[0],[16]⟩,⟨[.p 1 0],_,[],[0,1],[17]⟩,⟨[],_,[],[],[18]⟩]) (F:=[.p 1 0,.p 2 0,.p 3 0]) (hst.pick [0] rfl) hb Zb
   (Qf rfl Zlq u_0<|Ql rfl Zpz u_0<|o_p rfl (Zbl Tryd.underlying47 rfl rfl u_0)<|Qm rfl c_i<|o_n) (fun a g hst hb=>?_)
  obtain ⟨z7,hz1,H0⟩:=Zd H0
  refine Zb0 (fun a w=>∃ (g:G),w=g.w ∧ St 27 [] a g ∧ Base g0 g ∧ (.inr ())=z7) ?_ ?_
  ·rintro a w ⟨g,rfl,hst,hb,rfl⟩
   refine Zg ?_
   refine r_s (T:=[⟨[],_,[],[],[2]⟩]) (F:=[.p 0 0]) hst hb Zb
    (Qa rfl c_i<|o_n) (fun a g hst hb=>?_)
   refine wp_ret ?_
   obtain rfl:=Option.some.inj H0
   exact Z6 rfl hst hb (Zm (s:=2)) (hst.at 0 rfl)
  ·refine wp_block ?_
   refine wp_loop_ghost (fun n a w=>∃ (x2:Int) (g:G),w=g.w ∧ St 27 [(16,(Zb8.sl.pd a0.List)),(17,(pInt .i64 (a0.List.length:Int))),(18,(pInt .i64 x2))] a g ∧ Base g0 g ∧ Zbq a0 n x2=some z7) (Int.toNat ((a0.List.length:Int) - (0:Int)) + 1) ⟨(0:Int),g,rfl,(hst.pick [0,1,2] rfl),hb,hz1⟩ (fun n a w hI=>?_)
   obtain ⟨x2,g,rfl,hst,hb,H1⟩:=hI
   cases n with
   | zero=>exact absurd H1 (by simp [Zbq])
   | succ n =>
    rw [Zbq] at H1
    refine r_s (T:=[⟨[.o 2,.o 1],_,[],[],[19]⟩]) (F:=[.o 0,.o 1,.o 2,.p 0 0]) hst hb Zb
     (o_p rfl (Zdf rfl rfl u_0 u_1)<|o_n) (fun a g hst hb=>?_)
    refine wp_seq ?_
    refine wp_cond_split (hst.bool 3 rfl) (fun hc3=>?_) (fun hc3=>?_)
    ·replace H1:=Zx hc3 H1
     refine wp_skip ?_
     refine Zg ?_
     refine wp_seq ?_
     refine wp_block ?_
     obtain ⟨e4,h5,H1⟩:=Zd H1
     refine r_s (L:=[(16,_),(17,_),(18,_)]) (T:=[⟨[.o 0,.o 2],_,[],[],[20]⟩,⟨[.p 0 0],_,[],[0],[21]⟩,⟨[],[(4,(pBox Zb8 4 (default:Zdo)))],[5],[],[4]⟩,⟨[.p 1 0,.p 2 0],_,[5],[0,1,2],[4]⟩]) (F:=[.p 3 0,.o 0,.o 1,.o 2]) (hst.pick [0,1,2] rfl) hb Zb
      (o_p rfl (Zu Tryd.underlying47 Zra rfl rfl u_0 u_1 h5)<|Ql rfl Znd u_0<|o_p rfl (Zc5 (zs:=[.float .f64 0,.string ByteArray.empty]) (by kernel_rfl) (fun g=>Zk5 g) rfl rfl)<|o_p rfl (Zcz Znd rfl rfl u_1 u_0)<|o_n) (fun a g hst hb=>?_)
     refine r_s (T:=[⟨[.o 0],_,[],[],[22]⟩,⟨[.p 0 0],_,[],[0],[23]⟩,⟨[.p 1 0],_,[],[0,1],[24]⟩,⟨[.p 2 0],_,[],[0,1,2],[25]⟩]) (F:=[.o 1,.o 2,.o 3,.p 3 0]) hst hb Zb
      (Qf rfl Zow u_0<|Ql rfl ty_9 u_0<|o_p rfl (Zhv Tryd.underlying9 rfl rfl u_0)<|o_p rfl (Zdq rfl rfl u_0 c_i)<|o_n) (fun a g hst hb=>?_)
     refine wp_cond_split (hst.bool 3 rfl) (fun hc6=>?_) (fun hc6=>?_)
     ·replace H1:=Zx hc6 H1
      refine r_s (L:=[]) (T:=[⟨[],_,[],[],[2]⟩]) (F:=[.p 0 0]) (hst.pick [] rfl) hb Zb
       (Qa rfl c_i<|o_n) (fun a g hst hb=>?_)
      refine wp_ret ?_
      refine Zcb ?_
      refine Zt ?_
      refine Zt ?_
      refine Zcb ?_
      refine Zt ?_
      refine Zt ?_
      obtain rfl:=Option.some.inj H1
      obtain rfl:=Option.some.inj H0
      exact Z6 rfl hst hb (Zm (s:=2)) (hst.at 0 rfl)
     ·replace H1:=Zw hc6 H1
      refine wp_skip ?_
      refine Z7 ?_
      refine Zg ?_
      refine r_g (L:=[(16,_),(17,_),(18,_)]) (T:=[⟨[.o 2],_,[],[],[26]⟩,⟨[.p 0 0],_,[],[0],[18]⟩]) (F:=[.o 0,.o 1,.p 1 0]) (hst.pick [0,1,2] rfl) hb Zb
       (o_p rfl (Zca rfl rfl u_0 c_i rfl)<|Qm rfl u_0<|o_n) (fun a g hst hb=>?_)
      exact ⟨n,Nat.lt_succ_self _,(IntKind.i64.wrap (x2 + (1:Int))),g,rfl,(hst.pick [0,1,2] rfl),hb,H1⟩
    ·replace H1:=Zw hc3 H1
     refine wp_exit ?_
     refine Z2 ?_
     refine Z2 ?_
     refine Zbk ?_
     exact ⟨g,rfl,(hst.pick [] rfl),hb,Option.some.inj H1⟩
theorem Zg2 (a0:Zo) {r:Int} (h:Zdg a0=some r):FnOk Tryd.prog 37 [(Z1.pd a0)] (pInt .i64 r):=by
 have H0:=h
 unfold Zdg at H0
 clear h
 refine Zco (N:=19) Tryd.func37 rfl rfl (Qe rfl) rfl rfl (fun a g0 hst hb=>?_)
 refine r_s (T:=[⟨[.o 0],_,[],[],[1]⟩,⟨[],_,[],[],[2]⟩]) (F:=[.p 0 0]) hst hb Zb
  (Qb rfl u_0<|Qa rfl c_i<|o_n) (fun a g hst hb=>?_)
 refine wp_seq ?_
 obtain ⟨r1,h2,H0⟩:=Zd H0
 refine r_s (T:=⟨[.o 0],_,[],[],[3]⟩ :: ⟨[.p 0 0],_,[],[0],[4]⟩ :: ⟨[.p 1 0],_,[],[0,1],[5]⟩ :: ⟨[.p 2 0],_,[],[0,1,2],[6]⟩ :: ⟨[.p 3 0],_,[],Lr 4,[7]⟩ :: ⟨[.p 4 0,.o 0],_,[],Lr 5,[8]⟩ :: ⟨[.p 4 0,.p 5 0],_,[],Lr 6,[9]⟩ :: ⟨[.p 4 0,.p 6 0],_,[],Lr 7,[10]⟩ :: ⟨[.p 4 0,.p 7 0],_,[],Lr 8,[11]⟩ :: ⟨[.p 4 0,.p 8 0],_,[],Lr 9,[12]⟩ :: ⟨[.p 9 0],_,[],Lr 10,[13]⟩ :: ⟨[.p 10 0,.o 0],_,[],Lr 11,[14]⟩ :: ⟨[.p 10 0,.p 11 0],_,[],Lr 12,[15]⟩ :: ⟨[.p 10 0,.p 12 0],_,[],Lr 13,[16]⟩ :: ⟨[.p 10 0,.p 13 0],_,[],Lr 14,[17]⟩ :: ⟨[.p 10 0,.p 14 0],_,[],Lr 15,[18]⟩ :: []) (F:=[.p 15 0]) hst hb Zb
  (Qf rfl Zhr u_0<|Ql rfl ty_9 u_0<|o_p rfl (Zhv Tryd.underlying9 rfl rfl u_0)<|o_p rfl (Zdq rfl rfl u_0 c_i)<|Qm rfl u_0<|o_g (Qg_f rfl (fun hG=>Zbt Zqb rfl rfl u_0))<|o_g (Qg_f rfl (fun hG=>Zcs ty_9 rfl rfl (Opd.gd hG u_0)))<|o_g (Qg_f rfl (fun hG=>Zhv Tryd.underlying9 rfl rfl (Opd.gd hG u_0)))<|o_g (Qg_f rfl (fun hG=>Zdq rfl rfl (Opd.gd hG u_0) c_i))<|o_p rfl (Zde rfl rfl u_0 (fun hz=>(Opd.gd (bNF hz) u_1)))<|Qm rfl u_0<|o_g (Qg_f rfl (fun hG=>Zbt Zq9 rfl rfl u_0))<|o_g (Qg_f rfl (fun hG=>Zcs Zr2 rfl rfl (Opd.gd hG u_0)))<|o_g (Qg_f rfl (fun hG=>Zbu Zru (Zhg _ (Zdb h2 hG)) rfl rfl (.cons (Opd.gd hG u_0) .nil)))<|o_g (Qg_f rfl (fun hG=>Zdq rfl rfl (Opd.gd hG u_0) c_i))<|o_p rfl (Zde rfl rfl u_0 (fun hz=>(Opd.gd (bNF hz) u_1)))<|o_n) (fun a g hst hb=>?_)
 refine wp_cond_split (hst.bool 0 rfl) (fun hc3=>?_) (fun hc3=>?_)
 ·replace H0:=Zx hc3 H0
  refine r_s (L:=[]) (T:=[⟨[],_,[],[],[2]⟩]) (F:=[.p 0 0]) (hst.pick [] rfl) hb Zb
   (Qa rfl c_i<|o_n) (fun a g hst hb=>?_)
  refine wp_ret ?_
  refine Zt ?_
  obtain rfl:=Option.some.inj H0
  exact Z6 rfl hst hb (Zm (s:=2)) (hst.at 0 rfl)
 ·replace H0:=Zw hc3 H0
  refine wp_skip ?_
  refine Zg ?_
  refine r_s (L:=[]) (T:=[⟨[],_,[],[],[2]⟩]) (F:=[.p 0 0]) (hst.pick [] rfl) hb Zb
   (Qa rfl c_i<|o_n) (fun a g hst hb=>?_)
  refine wp_ret ?_
  obtain rfl:=Option.some.inj H0
  exact Z6 rfl hst hb (Zm (s:=2)) (hst.at 0 rfl)
theorem Zg7 (a0:Zz) {r:Int} (h:Zdn a0=some r):FnOk Tryd.prog 29 [(Zbb.pd a0)] (pInt .i64 r):=by
 have H0:=h
 unfold Zdn at H0
 clear h
 refine Zco (N:=20) Tryd.func29 rfl rfl (Qe rfl) rfl rfl (fun a g0 hst hb=>?_)
 refine r_s (T:=[⟨[.o 0],_,[],[],[1]⟩,⟨[],_,[],[],[2]⟩]) (F:=[.p 0 0]) hst hb Zb
  (Qb rfl u_0<|Qa rfl c_i<|o_n) (fun a g hst hb=>?_)
 refine wp_seq ?_
 refine r_s (T:=[⟨[.o 0],_,[],[],[5]⟩,⟨[.p 0 0],_,[],[0],[6]⟩,⟨[.p 1 0],_,[],[0,1],[7]⟩,⟨[.p 2 0],_,[],[0,1,2],[8]⟩]) (F:=[.o 0,.p 3 0]) hst hb Zb
  (Qf rfl Zfx u_0<|Ql rfl Zik u_0<|o_p rfl (Zbl Tryd.underlying52 rfl rfl u_0)<|o_p rfl (Zdq rfl rfl u_0 c_i)<|o_n) (fun a g hst hb=>?_)
 refine wp_cond_split (hst.bool 1 rfl) (fun hc1=>?_) (fun hc1=>?_)
 ·replace H0:=Zx hc1 H0
  refine r_s (L:=[]) (T:=[⟨[],_,[],[],[2]⟩]) (F:=[.p 0 0]) (hst.pick [] rfl) hb Zb
   (Qa rfl c_i<|o_n) (fun a g hst hb=>?_)
  refine wp_ret ?_
  refine Zt ?_
  obtain rfl:=Option.some.inj H0
  exact Z6 rfl hst hb (Zm (s:=2)) (hst.at 0 rfl)
 ·replace H0:=Zw hc1 H0
  refine wp_skip ?_
  refine Zg ?_
  refine wp_seq ?_
  refine r_s (L:=[(1,_)]) (T:=[⟨[.o 0],_,[],[],[9]⟩,⟨[.p 0 0],_,[],[0],[10]⟩,⟨[.p 1 0],_,[],[0,1],[11]⟩,⟨[],_,[],[],[12]⟩]) (F:=[.p 1 0,.p 2 0,.p 3 0]) (hst.pick [0] rfl) hb Zb
   (Qf rfl Zfx u_0<|Ql rfl Zik u_0<|o_p rfl (Zbl Tryd.underlying52 rfl rfl u_0)<|Qm rfl c_i<|o_n) (fun a g hst hb=>?_)
  obtain ⟨z9,hz1,H0⟩:=Zd H0
  refine Zb0 (fun a w=>∃ (g:G),w=g.w ∧ St 20 [] a g ∧ Base g0 g ∧ (.inr ())=z9) ?_ ?_
  ·rintro a w ⟨g,rfl,hst,hb,rfl⟩
   refine Zg ?_
   refine r_s (T:=[⟨[],_,[],[],[2]⟩]) (F:=[.p 0 0]) hst hb Zb
    (Qa rfl c_i<|o_n) (fun a g hst hb=>?_)
   refine wp_ret ?_
   obtain rfl:=Option.some.inj H0
   exact Z6 rfl hst hb (Zm (s:=2)) (hst.at 0 rfl)
  ·refine wp_block ?_
   refine wp_loop_ghost (fun n a w=>∃ (x2:Int) (g:G),w=g.w ∧ St 20 [(10,(Z1.sl.pd a0.Acts)),(11,(pInt .i64 (a0.Acts.length:Int))),(12,(pInt .i64 x2))] a g ∧ Base g0 g ∧ Zbs a0 n x2=some z9) (Int.toNat ((a0.Acts.length:Int) - (0:Int)) + 1) ⟨(0:Int),g,rfl,(hst.pick [0,1,2] rfl),hb,hz1⟩ (fun n a w hI=>?_)
   obtain ⟨x2,g,rfl,hst,hb,H1⟩:=hI
   cases n with
   | zero=>exact absurd H1 (by simp [Zbs])
   | succ n =>
    rw [Zbs] at H1
    refine r_s (T:=[⟨[.o 2,.o 1],_,[],[],[13]⟩]) (F:=[.o 0,.o 1,.o 2,.p 0 0]) hst hb Zb
     (o_p rfl (Zdf rfl rfl u_0 u_1)<|o_n) (fun a g hst hb=>?_)
    refine wp_seq ?_
    refine wp_cond_split (hst.bool 3 rfl) (fun hc3=>?_) (fun hc3=>?_)
    ·replace H1:=Zx hc3 H1
     refine wp_skip ?_
     refine Zg ?_
     refine wp_seq ?_
     refine wp_block ?_
     obtain ⟨e4,h5,H1⟩:=Zd H1
     refine r_s (L:=[(10,_),(11,_),(12,_)]) (T:=[⟨[.o 0,.o 2],_,[],[],[14]⟩,⟨[.p 0 0],_,[],[0],[15]⟩,⟨[],[(4,(pBox Z1 4 (default:Zo)))],[5],[],[4]⟩,⟨[.p 1 0,.p 2 0],_,[5],[0,1,2],[4]⟩]) (F:=[.p 3 0,.o 0,.o 1,.o 2]) (hst.pick [0,1,2] rfl) hb Zb
      (o_p rfl (Zu Tryd.underlying52 Zmr rfl rfl u_0 u_1 h5)<|Ql rfl Zen u_0<|o_p rfl (Zc5 (zs:=[.int .i64 0,.string ByteArray.empty,.int .i64 0,.float .f64 0,.string ByteArray.empty,.int .i64 0,.int .i64 0,.int .i64 0,.int .i64 0,.float .f64 0,.int .i64 0,.string ByteArray.empty,.slice none 0 0,.bool false]) (by kernel_rfl) (fun g=>Zfc g) rfl rfl)<|o_p rfl (Zcz Zen rfl rfl u_1 u_0)<|o_n) (fun a g hst hb=>?_)
     obtain ⟨r6,h7,H1⟩:=Zd H1
     refine r_s (T:=[⟨[.o 0],_,[],[],[16]⟩,⟨[.p 0 0],_,[],[0],[17]⟩,⟨[.p 1 0],_,[],[0,1],[18]⟩]) (F:=[.o 1,.o 2,.o 3,.p 2 0]) hst hb Zb
      (Ql rfl Zen u_0<|o_p rfl (Zbu Zrs (Zg2 _ h7) rfl rfl (.cons u_0 .nil))<|o_p rfl (Zdq rfl rfl u_0 c_i)<|o_n) (fun a g hst hb=>?_)
     refine wp_cond_split (hst.bool 3 rfl) (fun hc8=>?_) (fun hc8=>?_)
     ·replace H1:=Zx hc8 H1
      refine r_s (L:=[]) (T:=[⟨[],_,[],[],[2]⟩]) (F:=[.p 0 0]) (hst.pick [] rfl) hb Zb
       (Qa rfl c_i<|o_n) (fun a g hst hb=>?_)
      refine wp_ret ?_
      refine Zcb ?_
      refine Zt ?_
      refine Zt ?_
      refine Zcb ?_
      refine Zt ?_
      refine Zt ?_
      obtain rfl:=Option.some.inj H1
      obtain rfl:=Option.some.inj H0
      exact Z6 rfl hst hb (Zm (s:=2)) (hst.at 0 rfl)
     ·replace H1:=Zw hc8 H1
      refine wp_skip ?_
      refine Z7 ?_
      refine Zg ?_
      refine r_g (L:=[(10,_),(11,_),(12,_)]) (T:=[⟨[.o 2],_,[],[],[19]⟩,⟨[.p 0 0],_,[],[0],[12]⟩]) (F:=[.o 0,.o 1,.p 1 0]) (hst.pick [0,1,2] rfl) hb Zb
       (o_p rfl (Zca rfl rfl u_0 c_i rfl)<|Qm rfl u_0<|o_n) (fun a g hst hb=>?_)
      exact ⟨n,Nat.lt_succ_self _,(IntKind.i64.wrap (x2 + (1:Int))),g,rfl,(hst.pick [0,1,2] rfl),hb,H1⟩
    ·replace H1:=Zw hc3 H1
     refine wp_exit ?_
     refine Z2 ?_
     refine Z2 ?_
     refine Zbk ?_
     exact ⟨g,rfl,(hst.pick [] rfl),hb,Option.some.inj H1⟩
theorem Zha (a0:List Zz) {r:Int} (h:Zdk a0=some r):FnOk Tryd.prog 18 [(Zbb.sl.pd a0)] (pInt .i64 r):=by
 have H0:=h
 unfold Zdk at H0
 clear h
 refine Zco (N:=18) Tryd.func18 rfl rfl (Qe rfl) rfl rfl (fun a g0 hst hb=>?_)
 refine r_s (T:=[⟨[],_,[],[],[2]⟩]) (F:=[.o 0]) hst hb Zb
  (Qa rfl c_i<|o_n) (fun a g hst hb=>?_)
 refine wp_seq ?_
 refine r_s (T:=[⟨[.o 0],_,[],[],[5]⟩,⟨[.p 0 0],_,[],[0],[6]⟩,⟨[.p 1 0],_,[],[0,1],[7]⟩]) (F:=[.o 0,.p 2 0]) hst hb Zb
  (Qm rfl u_0<|o_p rfl (Zbl Tryd.underlying29 rfl rfl u_0)<|o_p rfl (Zdq rfl rfl u_0 c_i)<|o_n) (fun a g hst hb=>?_)
 refine wp_cond_split (hst.bool 1 rfl) (fun hc1=>?_) (fun hc1=>?_)
 ·replace H0:=Zx hc1 H0
  refine r_s (L:=[]) (T:=[⟨[],_,[],[],[2]⟩]) (F:=[.p 0 0]) (hst.pick [] rfl) hb Zb
   (Qa rfl c_i<|o_n) (fun a g hst hb=>?_)
  refine wp_ret ?_
  refine Zt ?_
  obtain rfl:=Option.some.inj H0
  exact Z6 rfl hst hb (Zm (s:=2)) (hst.at 0 rfl)
 ·replace H0:=Zw hc1 H0
  refine wp_skip ?_
  refine Zg ?_
  refine wp_seq ?_
  refine r_s (L:=[(0,_)]) (T:=[⟨[.o 0],_,[],[],[8]⟩,⟨[.p 0 0],_,[],[0],[9]⟩,⟨[],_,[],[],[10]⟩]) (F:=[.p 0 0,.p 1 0,.p 2 0]) (hst.pick [0] rfl) hb Zb
   (Qm rfl u_0<|o_p rfl (Zbl Tryd.underlying29 rfl rfl u_0)<|Qm rfl c_i<|o_n) (fun a g hst hb=>?_)
  obtain ⟨z9,hz1,H0⟩:=Zd H0
  refine Zb0 (fun a w=>∃ (g:G),w=g.w ∧ St 18 [] a g ∧ Base g0 g ∧ (.inr ())=z9) ?_ ?_
  ·rintro a w ⟨g,rfl,hst,hb,rfl⟩
   refine Zg ?_
   refine r_s (T:=[⟨[],_,[],[],[2]⟩]) (F:=[.p 0 0]) hst hb Zb
    (Qa rfl c_i<|o_n) (fun a g hst hb=>?_)
   refine wp_ret ?_
   obtain rfl:=Option.some.inj H0
   exact Z6 rfl hst hb (Zm (s:=2)) (hst.at 0 rfl)
  ·refine wp_block ?_
   refine wp_loop_ghost (fun n a w=>∃ (x2:Int) (g:G),w=g.w ∧ St 18 [(8,(Zbb.sl.pd a0)),(9,(pInt .i64 (a0.length:Int))),(10,(pInt .i64 x2))] a g ∧ Base g0 g ∧ Zbr a0 n x2=some z9) (Int.toNat ((a0.length:Int) - (0:Int)) + 1) ⟨(0:Int),g,rfl,(hst.pick [0,1,2] rfl),hb,hz1⟩ (fun n a w hI=>?_)
   obtain ⟨x2,g,rfl,hst,hb,H1⟩:=hI
   cases n with
   | zero=>exact absurd H1 (by simp [Zbr])
   | succ n =>
    rw [Zbr] at H1
    refine r_s (T:=[⟨[.o 2,.o 1],_,[],[],[11]⟩]) (F:=[.o 0,.o 1,.o 2,.p 0 0]) hst hb Zb
     (o_p rfl (Zdf rfl rfl u_0 u_1)<|o_n) (fun a g hst hb=>?_)
    refine wp_seq ?_
    refine wp_cond_split (hst.bool 3 rfl) (fun hc3=>?_) (fun hc3=>?_)
    ·replace H1:=Zx hc3 H1
     refine wp_skip ?_
     refine Zg ?_
     refine wp_seq ?_
     refine wp_block ?_
     obtain ⟨e4,h5,H1⟩:=Zd H1
     refine r_s (L:=[(8,_),(9,_),(10,_)]) (T:=[⟨[.o 0,.o 2],_,[],[],[12]⟩,⟨[.p 0 0],_,[],[0],[13]⟩,⟨[],[(4,(pBox Zbb 4 (default:Zz)))],[5],[],[4]⟩,⟨[.p 1 0,.p 2 0],_,[5],[0,1,2],[4]⟩]) (F:=[.p 3 0,.o 0,.o 1,.o 2]) (hst.pick [0,1,2] rfl) hb Zb
      (o_p rfl (Zu Tryd.underlying29 Zj7 rfl rfl u_0 u_1 h5)<|Ql rfl Zib u_0<|o_p rfl (Zc5 (zs:=[.slice none 0 0]) (by kernel_rfl) (fun g=>Zhz g) rfl rfl)<|o_p rfl (Zcz Zib rfl rfl u_1 u_0)<|o_n) (fun a g hst hb=>?_)
     obtain ⟨r6,h7,H1⟩:=Zd H1
     refine r_s (T:=[⟨[.o 0],_,[],[],[14]⟩,⟨[.p 0 0],_,[],[0],[15]⟩,⟨[.p 1 0],_,[],[0,1],[16]⟩]) (F:=[.o 1,.o 2,.o 3,.p 2 0]) hst hb Zb
      (Ql rfl Zib u_0<|o_p rfl (Zbu Zrz (Zg7 _ h7) rfl rfl (.cons u_0 .nil))<|o_p rfl (Zdq rfl rfl u_0 c_i)<|o_n) (fun a g hst hb=>?_)
     refine wp_cond_split (hst.bool 3 rfl) (fun hc8=>?_) (fun hc8=>?_)
     ·replace H1:=Zx hc8 H1
      refine r_s (L:=[]) (T:=[⟨[],_,[],[],[2]⟩]) (F:=[.p 0 0]) (hst.pick [] rfl) hb Zb
       (Qa rfl c_i<|o_n) (fun a g hst hb=>?_)
      refine wp_ret ?_
      refine Zcb ?_
      refine Zt ?_
      refine Zt ?_
      refine Zcb ?_
      refine Zt ?_
      refine Zt ?_
      obtain rfl:=Option.some.inj H1
      obtain rfl:=Option.some.inj H0
      exact Z6 rfl hst hb (Zm (s:=2)) (hst.at 0 rfl)
     ·replace H1:=Zw hc8 H1
      refine wp_skip ?_
      refine Z7 ?_
      refine Zg ?_
      refine r_g (L:=[(8,_),(9,_),(10,_)]) (T:=[⟨[.o 2],_,[],[],[17]⟩,⟨[.p 0 0],_,[],[0],[10]⟩]) (F:=[.o 0,.o 1,.p 1 0]) (hst.pick [0,1,2] rfl) hb Zb
       (o_p rfl (Zca rfl rfl u_0 c_i rfl)<|Qm rfl u_0<|o_n) (fun a g hst hb=>?_)
      exact ⟨n,Nat.lt_succ_self _,(IntKind.i64.wrap (x2 + (1:Int))),g,rfl,(hst.pick [0,1,2] rfl),hb,H1⟩
    ·replace H1:=Zw hc3 H1
     refine wp_exit ?_
     refine Z2 ?_
     refine Z2 ?_
     refine Zbk ?_
     exact ⟨g,rfl,(hst.pick [] rfl),hb,Option.some.inj H1⟩
theorem Zhf (a0:List Zr) {r:Bool} (h:Zc3 a0=some r):FnOk Tryd.prog 8 [(Zp.sl.pd a0)] (Zn r):=by
 have H0:=h
 unfold Zc3 at H0
 clear h
 refine Zco (N:=19) Tryd.func8 rfl rfl (Qe rfl) rfl rfl (fun a g0 hst hb=>?_)
 refine r_s (T:=[⟨[],_,[],[],[2]⟩]) (F:=[.o 0]) hst hb Zb
  (Qa rfl c_b<|o_n) (fun a g hst hb=>?_)
 refine wp_seq ?_
 refine r_s (T:=[⟨[.o 0],_,[],[],[5]⟩,⟨[.p 0 0],_,[],[0],[6]⟩,⟨[.p 1 0],_,[],[0,1],[7]⟩]) (F:=[.o 0,.p 2 0]) hst hb Zb
  (Qm rfl u_0<|o_p rfl (Zbl Tryd.underlying22 rfl rfl u_0)<|o_p rfl (Zdq rfl rfl u_0 c_i)<|o_n) (fun a g hst hb=>?_)
 refine wp_cond_split (hst.bool 1 rfl) (fun hc1=>?_) (fun hc1=>?_)
 ·replace H0:=Zx hc1 H0
  refine r_s (L:=[]) (T:=[⟨[],_,[],[],[2]⟩]) (F:=[.p 0 0]) (hst.pick [] rfl) hb Zb
   (Qa rfl c_b<|o_n) (fun a g hst hb=>?_)
  refine wp_ret ?_
  refine Zt ?_
  obtain rfl:=Option.some.inj H0
  exact Z6 rfl hst hb (Zm (s:=2)) (hst.at 0 rfl)
 ·replace H0:=Zw hc1 H0
  refine wp_skip ?_
  refine Zg ?_
  refine wp_seq ?_
  refine r_s (L:=[(0,_)]) (T:=[⟨[.o 0],_,[],[],[8]⟩,⟨[.p 0 0],_,[],[0],[9]⟩,⟨[],_,[],[],[10]⟩]) (F:=[.p 0 0,.p 1 0,.p 2 0]) (hst.pick [0] rfl) hb Zb
   (Qm rfl u_0<|o_p rfl (Zbl Tryd.underlying22 rfl rfl u_0)<|Qm rfl c_i<|o_n) (fun a g hst hb=>?_)
  obtain ⟨z9,hz1,H0⟩:=Zd H0
  refine Zb0 (fun a w=>∃ (g:G),w=g.w ∧ St 19 [] a g ∧ Base g0 g ∧ (.inr ())=z9) ?_ ?_
  ·rintro a w ⟨g,rfl,hst,hb,rfl⟩
   refine Zg ?_
   refine r_s (T:=[⟨[],_,[],[],[2]⟩]) (F:=[.p 0 0]) hst hb Zb
    (Qa rfl c_b<|o_n) (fun a g hst hb=>?_)
   refine wp_ret ?_
   obtain rfl:=Option.some.inj H0
   exact Z6 rfl hst hb (Zm (s:=2)) (hst.at 0 rfl)
  ·refine wp_block ?_
   refine wp_loop_ghost (fun n a w=>∃ (x2:Int) (g:G),w=g.w ∧ St 19 [(8,(Zp.sl.pd a0)),(9,(pInt .i64 (a0.length:Int))),(10,(pInt .i64 x2))] a g ∧ Base g0 g ∧ Zbn a0 n x2=some z9) (Int.toNat ((a0.length:Int) - (0:Int)) + 1) ⟨(0:Int),g,rfl,(hst.pick [0,1,2] rfl),hb,hz1⟩ (fun n a w hI=>?_)
   obtain ⟨x2,g,rfl,hst,hb,H1⟩:=hI
   cases n with
   | zero=>exact absurd H1 (by simp [Zbn])
   | succ n =>
    rw [Zbn] at H1
    refine r_s (T:=[⟨[.o 2,.o 1],_,[],[],[11]⟩]) (F:=[.o 0,.o 1,.o 2,.p 0 0]) hst hb Zb
     (o_p rfl (Zdf rfl rfl u_0 u_1)<|o_n) (fun a g hst hb=>?_)
    refine wp_seq ?_
    refine wp_cond_split (hst.bool 3 rfl) (fun hc3=>?_) (fun hc3=>?_)
    ·replace H1:=Zx hc3 H1
     refine wp_skip ?_
     refine Zg ?_
     refine wp_seq ?_
     refine wp_block ?_
     obtain ⟨e4,h5,H1⟩:=Zd H1
     refine r_s (L:=[(8,_),(9,_),(10,_)]) (T:=[⟨[.o 0,.o 2],_,[],[],[12]⟩,⟨[.p 0 0],_,[],[0],[13]⟩,⟨[],[(4,(pBox Zp 4 (default:Zr)))],[5],[],[4]⟩,⟨[.p 1 0,.p 2 0],_,[5],[0,1,2],[4]⟩]) (F:=[.p 3 0,.o 0,.o 1,.o 2]) (hst.pick [0,1,2] rfl) hb Zb
      (o_p rfl (Zu Tryd.underlying22 Zpy rfl rfl u_0 u_1 h5)<|Ql rfl Zhq u_0<|o_p rfl (Zc5 (zs:=[.int .i64 0,.slice none 0 0]) (by kernel_rfl) (fun g=>Zih g) rfl rfl)<|o_p rfl (Zcz Zhq rfl rfl u_1 u_0)<|o_n) (fun a g hst hb=>?_)
     obtain ⟨r6,h7,H1⟩:=Zd H1
     refine r_s (T:=[⟨[.o 0],_,[],[],[14]⟩,⟨[.p 0 0],_,[],[0],[15]⟩,⟨[.p 1 0],_,[],[0,1],[16]⟩,⟨[.p 2 0],_,[],[0,1,2],[17]⟩]) (F:=[.o 1,.o 2,.o 3,.p 3 0]) hst hb Zb
      (Qf rfl Zf7 u_0<|Ql rfl Zie u_0<|o_p rfl (Zbu Zrt (Zha _ h7) rfl rfl (.cons u_0 .nil))<|o_p rfl (Zdq rfl rfl u_0 c_i)<|o_n) (fun a g hst hb=>?_)
     refine wp_cond_split (hst.bool 3 rfl) (fun hc8=>?_) (fun hc8=>?_)
     ·replace H1:=Zx hc8 H1
      refine r_s (L:=[]) (T:=[⟨[],_,[],[],[2]⟩]) (F:=[.p 0 0]) (hst.pick [] rfl) hb Zb
       (Qa rfl c_b<|o_n) (fun a g hst hb=>?_)
      refine wp_ret ?_
      refine Zcb ?_
      refine Zt ?_
      refine Zt ?_
      refine Zcb ?_
      refine Zt ?_
      refine Zt ?_
      obtain rfl:=Option.some.inj H1
      obtain rfl:=Option.some.inj H0
      exact Z6 rfl hst hb (Zm (s:=2)) (hst.at 0 rfl)
     ·replace H1:=Zw hc8 H1
      refine wp_skip ?_
      refine Z7 ?_
      refine Zg ?_
      refine r_g (L:=[(8,_),(9,_),(10,_)]) (T:=[⟨[.o 2],_,[],[],[18]⟩,⟨[.p 0 0],_,[],[0],[10]⟩]) (F:=[.o 0,.o 1,.p 1 0]) (hst.pick [0,1,2] rfl) hb Zb
       (o_p rfl (Zca rfl rfl u_0 c_i rfl)<|Qm rfl u_0<|o_n) (fun a g hst hb=>?_)
      exact ⟨n,Nat.lt_succ_self _,(IntKind.i64.wrap (x2 + (1:Int))),g,rfl,(hst.pick [0,1,2] rfl),hb,H1⟩
    ·replace H1:=Zw hc3 H1
     refine wp_exit ?_
     refine Z2 ?_
     refine Z2 ?_
     refine Zbk ?_
     exact ⟨g,rfl,(hst.pick [] rfl),hb,Option.some.inj H1⟩
theorem Zga (a0:Int) {r:Bool} (h:Zdh a0=some r):FnOk Tryd.prog 21 [(pInt .i64 a0)] (Zn r):=by
 have H0:=h
 unfold Zdh at H0
 clear h
 refine Zco (N:=33) Tryd.func21 rfl rfl (Qe rfl) rfl rfl (fun a g0 hst hb=>?_)
 refine r_s (T:=[⟨[],_,[],[],[2]⟩]) (F:=[.o 0]) hst hb Zb
  (Qa rfl c_b<|o_n) (fun a g hst hb=>?_)
 refine r_s (T:=⟨[.o 0],_,[],[],[3]⟩ :: ⟨[.p 0 0],_,[],[0],[4]⟩ :: ⟨[.p 1 0],_,[],[0,1],[5]⟩ :: ⟨[.p 2 0,.o 0],_,[],[0,1,2],[6]⟩ :: ⟨[.p 2 0,.p 3 0],_,[],Lr 4,[7]⟩ :: ⟨[.p 2 0,.p 4 0],_,[],Lr 5,[8]⟩ :: ⟨[.p 5 0],_,[],Lr 6,[9]⟩ :: ⟨[.p 6 0,.o 0],_,[],Lr 7,[10]⟩ :: ⟨[.p 6 0,.p 7 0],_,[],Lr 8,[11]⟩ :: ⟨[.p 6 0,.p 8 0],_,[],Lr 9,[12]⟩ :: ⟨[.p 9 0],_,[],Lr 10,[13]⟩ :: ⟨[.p 10 0,.o 0],_,[],Lr 11,[14]⟩ :: ⟨[.p 10 0,.p 11 0],_,[],Lr 12,[15]⟩ :: ⟨[.p 10 0,.p 12 0],_,[],Lr 13,[16]⟩ :: ⟨[.p 13 0],_,[],Lr 14,[17]⟩ :: ⟨[.p 14 0,.o 0],_,[],Lr 15,[18]⟩ :: ⟨[.p 14 0,.p 15 0],_,[],Lr 16,[19]⟩ :: ⟨[.p 14 0,.p 16 0],_,[],Lr 17,[20]⟩ :: ⟨[.p 17 0],_,[],Lr 18,[21]⟩ :: ⟨[.p 18 0,.o 0],_,[],Lr 19,[22]⟩ :: ⟨[.p 18 0,.p 19 0],_,[],Lr 20,[23]⟩ :: ⟨[.p 18 0,.p 20 0],_,[],Lr 21,[24]⟩ :: ⟨[.p 21 0],_,[],Lr 22,[25]⟩ :: ⟨[.p 22 0,.o 0],_,[],Lr 23,[26]⟩ :: ⟨[.p 22 0,.p 23 0],_,[],Lr 24,[27]⟩ :: ⟨[.p 22 0,.p 24 0],_,[],Lr 25,[28]⟩ :: ⟨[.p 25 0],_,[],Lr 26,[29]⟩ :: ⟨[.p 26 0,.o 0],_,[],Lr 27,[30]⟩ :: ⟨[.p 26 0,.p 27 0],_,[],Lr 28,[31]⟩ :: ⟨[.p 26 0,.p 28 0],_,[],Lr 29,[32]⟩ :: ⟨[.p 29 0],_,[],Lr 30,[2]⟩ :: []) (F:=[.p 30 0]) hst hb Zb
  (Qm rfl u_0<|o_p rfl (Zcd rfl rfl u_0 c_i)<|Qm rfl u_0<|o_g (Qg_f rfl (fun hG=>Zbo rfl rfl u_0))<|o_g (Qg_f rfl (fun hG=>Zcd rfl rfl (Opd.gd hG u_0) c_i))<|o_p rfl (Zde rfl rfl u_0 (fun hz=>(Opd.gd (bNF hz) u_1)))<|Qm rfl u_0<|o_g (Qg_f rfl (fun hG=>Zbo rfl rfl u_0))<|o_g (Qg_f rfl (fun hG=>Zcd rfl rfl (Opd.gd hG u_0) c_i))<|o_p rfl (Zde rfl rfl u_0 (fun hz=>(Opd.gd (bNF hz) u_1)))<|Qm rfl u_0<|o_g (Qg_f rfl (fun hG=>Zbo rfl rfl u_0))<|o_g (Qg_f rfl (fun hG=>Zcd rfl rfl (Opd.gd hG u_0) c_i))<|o_p rfl (Zde rfl rfl u_0 (fun hz=>(Opd.gd (bNF hz) u_1)))<|Qm rfl u_0<|o_g (Qg_f rfl (fun hG=>Zbo rfl rfl u_0))<|o_g (Qg_f rfl (fun hG=>Zcd rfl rfl (Opd.gd hG u_0) c_i))<|o_p rfl (Zde rfl rfl u_0 (fun hz=>(Opd.gd (bNF hz) u_1)))<|Qm rfl u_0<|o_g (Qg_f rfl (fun hG=>Zbo rfl rfl u_0))<|o_g (Qg_f rfl (fun hG=>Zcd rfl rfl (Opd.gd hG u_0) c_i))<|o_p rfl (Zde rfl rfl u_0 (fun hz=>(Opd.gd (bNF hz) u_1)))<|Qm rfl u_0<|o_g (Qg_f rfl (fun hG=>Zbo rfl rfl u_0))<|o_g (Qg_f rfl (fun hG=>Zcd rfl rfl (Opd.gd hG u_0) c_i))<|o_p rfl (Zde rfl rfl u_0 (fun hz=>(Opd.gd (bNF hz) u_1)))<|Qm rfl u_0<|o_g (Qg_f rfl (fun hG=>Zbo rfl rfl u_0))<|o_g (Qg_f rfl (fun hG=>Zcd rfl rfl (Opd.gd hG u_0) c_i))<|o_p rfl (Zde rfl rfl u_0 (fun hz=>(Opd.gd (bNF hz) u_1)))<|Qa rfl u_0<|o_n) (fun a g hst hb=>?_)
 refine wp_ret ?_
 obtain rfl:=Option.some.inj H0
 exact Z6 rfl hst hb (Zm (s:=2)) (hst.at 0 rfl)
theorem Zf4 (a0:Za) (a1:Za) {r:Bool} (h:Zdm a0 a1=some r):FnOk Tryd.prog 31 [(Zc.pd a0),(Zc.pd a1)] (Zn r):=by
 have H0:=h
 unfold Zdm at H0
 clear h
 refine Zco (N:=24) Tryd.func31 rfl rfl (Qe rfl) rfl rfl (fun a g0 hst hb=>?_)
 refine r_s (T:=[⟨[.o 0],_,[],[],[2]⟩,⟨[.o 1],_,[],[],[3]⟩,⟨[],_,[],[],[4]⟩]) (F:=[.p 0 0,.p 1 0]) hst hb Zb
  (Qb rfl u_0<|Qb rfl u_0<|Qa rfl c_b<|o_n) (fun a g hst hb=>?_)
 refine r_s (T:=⟨[.o 0],_,[],[],[5]⟩ :: ⟨[.p 0 0],_,[],[0],[6]⟩ :: ⟨[.o 1],_,[],[],[7]⟩ :: ⟨[.p 2 0],_,[],[2],[8]⟩ :: ⟨[.p 1 0,.p 3 0],_,[],Lr 4,[9]⟩ :: ⟨[.p 4 0],_,[],Lr 5,[10]⟩ :: ⟨[.p 5 0,.o 0],_,[],Lr 6,[11]⟩ :: ⟨[.p 5 0,.p 6 0],_,[],Lr 7,[12]⟩ :: ⟨[.p 5 0,.o 1],_,[],Lr 6,[13]⟩ :: ⟨[.p 5 0,.p 8 0],_,[],[0,1,2,3,4,5,8],[14]⟩ :: ⟨[.p 5 0,.p 7 0,.p 9 0],_,[],Lr 10,[15]⟩ :: ⟨[.p 5 0,.p 10 0],_,[],Lr 11,[16]⟩ :: ⟨[.p 11 0,.o 0],_,[],Lr 12,[17]⟩ :: ⟨[.p 11 0,.p 12 0],_,[],Lr 13,[18]⟩ :: ⟨[.p 11 0,.o 1],_,[],Lr 12,[19]⟩ :: ⟨[.p 11 0,.p 14 0],_,[],0 :: 1 :: 2 :: 3 :: 4 :: 5 :: 6 :: 7 :: 8 :: 9 :: 10 :: 11 :: 14 :: [],[20]⟩ :: ⟨[.p 11 0,.p 13 0,.p 15 0],_,[],Lr 16,[21]⟩ :: ⟨[.p 5 0,.p 11 0,.p 16 0],_,[],Lr 17,[22]⟩ :: ⟨[.p 5 0,.p 17 0],_,[],Lr 18,[23]⟩ :: ⟨[.p 18 0],_,[],Lr 19,[4]⟩ :: []) (F:=[.p 19 0]) hst hb Zb
  (Qf rfl Zd1 u_0<|Ql rfl ty_3 u_0<|Qf rfl Zd1 u_0<|Ql rfl ty_3 u_0<|o_p rfl (Zdq rfl rfl u_0 u_1)<|Qm rfl u_0<|o_g (Qg_f rfl (fun hG=>Zbt Zd1 rfl rfl u_0))<|o_g (Qg_f rfl (fun hG=>Zcs ty_3 rfl rfl (Opd.gd hG u_0)))<|o_g (Qg_f rfl (fun hG=>Zbt Zd1 rfl rfl u_0))<|o_g (Qg_f rfl (fun hG=>Zcs ty_3 rfl rfl (Opd.gd hG u_0)))<|o_g (Qg_f rfl (fun hG=>Zcd rfl rfl (Opd.gd hG u_0) (Opd.gd hG u_1)))<|o_g (Qg_f rfl (fun hG=>Zbo rfl rfl (Opd.gd hG u_0)))<|o_g (Qg_ti rfl (fun hG=>Zbt Zfh rfl rfl u_0))<|o_g (Qg_ti rfl (fun hG=>Zcs ty_9 rfl rfl (Opd.gd hG u_0)))<|o_g (Qg_ti rfl (fun hG=>Zbt Zfh rfl rfl u_0))<|o_g (Qg_ti rfl (fun hG=>Zcs ty_9 rfl rfl (Opd.gd hG u_0)))<|o_g (Qg_ti rfl (fun hG=>Zn8 rfl rfl (Opd.gd hG u_0) (Opd.gd hG u_1)))<|o_g (Qg_f rfl (fun hG=>Zei rfl rfl (Opd.gd hG u_0) (fun hz=>(Opd.gd (bA hG hz) u_1))))<|o_p rfl (Zde rfl rfl u_0 (fun hz=>(Opd.gd (bNF hz) u_1)))<|Qa rfl u_0<|o_n) (fun a g hst hb=>?_)
 refine wp_ret ?_
 obtain rfl:=Option.some.inj H0
 exact Z6 rfl hst hb (Zm (s:=4)) (hst.at 0 rfl)
theorem Zf9 (a0:List Za) {r:List Za} (h:Zcy a0=some r):FnOk Tryd.prog 22 [(Zc.sl.pd a0)] (Zc.sl.pd r):=by
 have H0:=h
 unfold Zcy at H0
 clear h
 refine Zco (N:=49) Tryd.func22 rfl rfl (Qe rfl) rfl rfl (fun a g0 hst hb=>?_)
 refine r_s (T:=[⟨[],[(2,(Zc.sl.pd ([]:List Za)))],[],[],[2]⟩]) (F:=[.o 0]) hst hb Zb
  (o_p rfl (Zem rfl rfl (Opd.c (fun g=>Zh1 g)))<|o_n) (fun a g hst hb=>?_)
 refine r_s (T:=[⟨[],_,[],[],[7]⟩,⟨[.p 0 0],_,[],[0],[3]⟩]) (F:=[.o 0,.p 1 0]) hst hb Zb
  (o_p rfl (Zeo Zet (xs:=[]) .nil (by decide) rfl rfl)<|Qa rfl u_0<|o_n) (fun a g hst hb=>?_)
 refine wp_seq ?_
 refine r_s (T:=[⟨[],_,[],[],[4]⟩]) (F:=[.o 0,.o 1,.p 0 0]) hst hb Zb
  (Qa rfl c_i<|o_n) (fun a g hst hb=>?_)
 obtain ⟨z24,hz1,H0⟩:=Zd H0
 refine Zb0 (fun a w=>∃ (y23:List Za) (g:G),w=g.w ∧ St 49 [(3,(Zc.sl.pd y23))] a g ∧ Base g0 g ∧ y23=z24) ?_ ?_
 ·rintro a w ⟨y23,g,rfl,hst,hb,rfl⟩
  refine Zg ?_
  refine r_s (T:=[⟨[.o 0],_,[],[],[48]⟩,⟨[.p 0 0],_,[],[0],[2]⟩]) (F:=[.p 1 0]) hst hb Zb
   (Qm rfl u_0<|Qa rfl u_0<|o_n) (fun a g hst hb=>?_)
  refine wp_ret ?_
  obtain rfl:=Option.some.inj H0
  exact Z6 rfl hst hb (Zm (s:=2)) (hst.at 0 rfl)
 ·refine wp_block ?_
  refine wp_loop_ghost (fun n a w=>∃ (x1:List Za) (x2:Int) (g:G),w=g.w ∧ St 49 [(0,(Zc.sl.pd a0)),(3,(Zc.sl.pd x1)),(4,(pInt .i64 x2))] a g ∧ Base g0 g ∧ Zbi a0 n x1 x2=some z24) (Int.toNat ((a0.length:Int) - (0:Int)) + 1) ⟨([]:List Za),(0:Int),g,rfl,(hst.pick [0,1,2] rfl),hb,hz1⟩ (fun n a w hI=>?_)
  obtain ⟨x1,x2,g,rfl,hst,hb,H1⟩:=hI
  cases n with
  | zero=>exact absurd H1 (by simp [Zbi])
  | succ n =>
   rw [Zbi] at H1
   refine wp_seq ?_
   refine r_s (T:=[⟨[.o 2],_,[],[],[8]⟩,⟨[.o 0],_,[],[],[9]⟩,⟨[.p 1 0],_,[],[1],[10]⟩,⟨[.p 0 0,.p 2 0],_,[],[0,1,2],[11]⟩]) (F:=[.o 0,.o 1,.o 2,.p 3 0]) hst hb Zb
    (Qm rfl u_0<|Qm rfl u_0<|o_p rfl (Zbl Tryd.underlying28 rfl rfl u_0)<|o_p rfl (Zdf rfl rfl u_0 u_1)<|o_n) (fun a g hst hb=>?_)
   refine wp_cond_split (hst.bool 3 rfl) (fun hc3=>?_) (fun hc3=>?_)
   ·replace H1:=Zx hc3 H1
    refine wp_skip ?_
    refine Zg ?_
    refine wp_seq ?_
    refine wp_block ?_
    refine r_s (L:=[(0,_),(3,_),(4,_)]) (T:=[⟨[],_,[],[],[5]⟩]) (F:=[.o 0,.o 1,.o 2,.p 0 0]) (hst.pick [0,1,2] rfl) hb Zb
     (Qa rfl c_i<|o_n) (fun a g hst hb=>?_)
    obtain ⟨z13,hz2,H1⟩:=Zd H1
    refine wp_seq ?_
    refine Zb0 (fun a w=>∃ (y12:Int) (g:G),w=g.w ∧ St 49 [(0,(Zc.sl.pd a0)),(3,(Zc.sl.pd x1)),(4,(pInt .i64 x2)),(5,(pInt .i64 y12))] a g ∧ Base g0 g ∧ y12=z13) ?_ ?_
    ·rintro a w ⟨y12,g,rfl,hst,hb,rfl⟩
     refine Zg ?_
     obtain ⟨c14,h15,H1⟩:=Zd H1;obtain ⟨h16,H1⟩:=Zfj H1
     refine r_s (T:=[⟨[],_,[32],[],[31]⟩,⟨[.o 1],_,[],[],[32]⟩,⟨[.o 3],_,[],[],[33]⟩,⟨[.p 1 0,.p 2 0],_,[],[1,2],[34]⟩,⟨[.p 0 0,.p 3 0],_,[32],Lr 4,[31,35]⟩,⟨[.p 4 0],_,[],Lr 5,[6]⟩]) (F:=[.o 0,.o 1,.o 2,.o 3,.p 5 0]) hst hb Zb
      (o_p rfl (Zoh 31 Zet (xs:=[]) .nil (by decide) rfl rfl)<|Qm rfl u_0<|Qm rfl u_0<|o_p rfl (Zlz Tryd.underlying28 Zeh rfl rfl u_0 u_1 h15)<|o_p rfl (Zhb Zet rfl rfl u_0 u_1 h16)<|Qa rfl u_0<|o_n) (fun a g hst hb=>?_)
     obtain ⟨e17,h18,H1⟩:=Zd H1;obtain ⟨h19,H1⟩:=Zfj H1
     refine r_s (T:=[⟨[.o 4],_,[],[],[36]⟩,⟨[.o 0],_,[],[],[37]⟩,⟨[.o 2],_,[],[],[38]⟩,⟨[.p 1 0,.p 2 0],_,[],[1,2],[39]⟩,⟨[.p 3 0],_,[],[1,2,3],[40]⟩,⟨[.p 4 0],_,[],List.range' 1 4,[41]⟩,⟨[.p 0 0,.p 5 0],_,[32],Lr 6,[6,36,42]⟩,⟨[.p 6 0],_,[],Lr 7,[6]⟩]) (F:=[.o 0,.o 1,.o 2,.o 3,.p 7 0]) hst hb Zb
      (Qm rfl u_0<|Qm rfl u_0<|Qm rfl u_0<|o_p rfl (Zu Tryd.underlying28 Zeh rfl rfl u_0 u_1 h18)<|Ql rfl Zil u_0<|o_p rfl (Zeo Zet (xs:=[.tmp 40]) (.cons u_0 .nil) (by decide) rfl rfl)<|o_p rfl (Zhb Zet rfl rfl u_0 u_1 h19)<|Qa rfl u_0<|o_n) (fun a g hst hb=>?_)
     obtain ⟨c20,h21,H1⟩:=Zd H1;obtain ⟨h22,H1⟩:=Zfj H1
     refine r_g (T:=[⟨[.o 4],_,[],[],[43]⟩,⟨[.o 1],_,[],[],[44]⟩,⟨[.o 3],_,[],[],[45]⟩,⟨[.p 1 0,.p 2 0],_,[],[1,2],[46]⟩,⟨[.p 0 0,.p 3 0],_,[32],Lr 4,[6,43,47]⟩,⟨[.p 4 0],_,[],Lr 5,[3]⟩]) (F:=[.o 0,.p 5 0,.o 2]) hst hb Zb
      (Qm rfl u_0<|Qm rfl u_0<|Qm rfl u_0<|o_p rfl (Zlp Tryd.underlying28 Zeh rfl rfl u_0 u_1 h21)<|o_p rfl (Zhb Zet rfl rfl u_0 u_1 h22)<|Qa rfl u_0<|o_n) (fun a g hst hb=>?_)
     refine Z7 ?_
     refine Zg ?_
     refine r_g (T:=[⟨[.o 2],_,[],[],[12]⟩,⟨[.p 0 0],_,[],[0],[13]⟩,⟨[.p 1 0],_,[],[0,1],[4]⟩]) (F:=[.o 0,.o 1,.p 2 0]) hst hb Zb
      (Qm rfl u_0<|o_p rfl (Zca rfl rfl u_0 c_i rfl)<|Qa rfl u_0<|o_n) (fun a g hst hb=>?_)
     exact ⟨n,Nat.lt_succ_self _,(((([]:List Za) ++ c14) ++ ([e17]:List Za)) ++ c20),(IntKind.i64.wrap (x2 + (1:Int))),g,rfl,⟨hst.size,hst.df,(Zch (hst.at 0 rfl) (Zch (Znf (hst.at 1 rfl)) (Zch (hst.at 2 rfl) Zg3)))⟩,hb,H1⟩
    ·refine wp_block ?_
     refine wp_loop_ghost (fun n a w=>∃ (x4:Int) (g:G),w=g.w ∧ St 49 [(0,(Zc.sl.pd a0)),(3,(Zc.sl.pd x1)),(4,(pInt .i64 x2)),(5,(pInt .i64 x4))] a g ∧ Base g0 g ∧ Zbj a0 x1 x2 n x4=some z13) (Int.toNat ((x1.length:Int) - (0:Int)) + 1) ⟨(0:Int),g,rfl,(hst.pick [0,1,2,3] rfl),hb,hz2⟩ (fun n a w hI=>?_)
     obtain ⟨x4,g,rfl,hst,hb,H2⟩:=hI
     cases n with
     | zero=>exact absurd H2 (by simp [Zbj])
     | succ n =>
      rw [Zbj] at H2
      refine wp_seq ?_
      obtain ⟨e5,h6,H2⟩:=Zd H2;obtain ⟨e7,h8,H2⟩:=Zd H2;obtain ⟨r9,h10,H2⟩:=Zd H2
      refine r_s (T:=⟨[.o 3],_,[],[],[14]⟩ :: ⟨[.o 1],_,[],[],[15]⟩ :: ⟨[.p 1 0],_,[],[1],[16]⟩ :: ⟨[.p 0 0,.p 2 0],_,[],[0,1,2],[17]⟩ :: ⟨[.p 3 0],_,[],Lr 4,[18]⟩ :: ⟨[.p 4 0,.o 1],_,[],Lr 5,[19]⟩ :: ⟨[.p 4 0,.o 3],_,[],Lr 5,[20]⟩ :: ⟨[.p 4 0,.p 5 0,.p 6 0],_,[],Lr 7,[21]⟩ :: ⟨[.p 4 0,.p 7 0],_,[],Lr 8,[22]⟩ :: ⟨[.p 4 0,.o 0],_,[],Lr 5,[23]⟩ :: ⟨[.p 4 0,.o 2],_,[],Lr 5,[24]⟩ :: ⟨[.p 4 0,.p 9 0,.p 10 0],_,[],[0,1,2,3,4,9,10],[25]⟩ :: ⟨[.p 4 0,.p 11 0],_,[],[0,1,2,3,4,9,10,11],[26]⟩ :: ⟨[.p 4 0,.p 8 0,.p 12 0],_,[],Lr 13,[27]⟩ :: ⟨[.p 4 0,.p 13 0],_,[],Lr 14,[28]⟩ :: []) (F:=[.o 0,.o 1,.o 2,.o 3,.p 14 0]) hst hb Zb
       (Qm rfl u_0<|Qm rfl u_0<|o_p rfl (Zbl Tryd.underlying28 rfl rfl u_0)<|o_p rfl (Zdf rfl rfl u_0 u_1)<|Qm rfl u_0<|o_g (Qg_t rfl (fun hG=>Zbo rfl rfl u_0))<|o_g (Qg_t rfl (fun hG=>Zbo rfl rfl u_0))<|o_g (Qg_t rfl (fun hG=>Zu Tryd.underlying28 Zeh rfl rfl (Opd.gd hG u_0) (Opd.gd hG u_1) (Zdb h6 hG)))<|o_g (Qg_t rfl (fun hG=>Zcs Zil rfl rfl (Opd.gd hG u_0)))<|o_g (Qg_t rfl (fun hG=>Zbo rfl rfl u_0))<|o_g (Qg_t rfl (fun hG=>Zbo rfl rfl u_0))<|o_g (Qg_t rfl (fun hG=>Zu Tryd.underlying28 Zeh rfl rfl (Opd.gd hG u_0) (Opd.gd hG u_1) (Zdb h8 hG)))<|o_g (Qg_t rfl (fun hG=>Zcs Zil rfl rfl (Opd.gd hG u_0)))<|o_g (Qg_t rfl (fun hG=>Zbu Zr3 (Zf4 _ _ (Zdb h10 hG)) rfl rfl (.cons (Opd.gd hG u_0) (.cons (Opd.gd hG u_1) .nil))))<|o_p rfl (Zei rfl rfl u_0 (fun hz=>(Opd.gd hz u_1)))<|o_n) (fun a g hst hb=>?_)
      refine wp_cond_split (hst.bool 4 rfl) (fun hc11=>?_) (fun hc11=>?_)
      ·replace H2:=Zx hc11 H2
       refine wp_skip ?_
       refine Zg ?_
       refine wp_block ?_
       refine r_g (L:=[(0,_),(3,_),(4,_),(5,_)]) (T:=[⟨[.o 3],_,[],[],[29]⟩,⟨[.p 0 0],_,[],[0],[30]⟩,⟨[.p 1 0],_,[],[0,1],[5]⟩]) (F:=[.o 0,.o 1,.o 2,.p 2 0]) (hst.pick [0,1,2,3] rfl) hb Zb
        (Qm rfl u_0<|o_p rfl (Zca rfl rfl u_0 c_i rfl)<|Qa rfl u_0<|o_n) (fun a g hst hb=>?_)
       refine Z7 ?_
       exact ⟨n,Nat.lt_succ_self _,(IntKind.i64.wrap (x4 + (1:Int))),g,rfl,(hst.pick [0,1,2,3] rfl),hb,H2⟩
      ·replace H2:=Zw hc11 H2
       refine wp_exit ?_
       refine Z2 ?_
       refine Z2 ?_
       refine Zbk ?_
       exact ⟨x4,g,rfl,(hst.pick [0,1,2,3] rfl),hb,Option.some.inj H2⟩
   ·replace H1:=Zw hc3 H1
    refine wp_exit ?_
    refine Z2 ?_
    refine Z2 ?_
    refine Zbk ?_
    exact ⟨x1,g,rfl,(hst.pick [1] rfl),hb,Option.some.inj H1⟩
end Go.CL
namespace Go.CL
open Go Go.RowKit
section
variable {P:Program} {N:Nat} {o:Oper} {uses outs:Zf} {S:List Nat} {d:Nat} {q:Pd} {x y z:Operand} {α β γ:Type} {kV:Kd γ} {raw:α → SlV × SlV → γ} {l1 l2:α → List β} {k:Kd α} {dk:Kd β} {t e j:Nat} {xv:α}
theorem ArrB.st {xs:List β} {g g':G} {v:Value} {B:Nat → Prop} (h:ArrB dk e xs g v B) (hle:g.le g') (hh:∀ c,B c → g'.w.heap[c]?=g.w.heap[c]?):ArrB dk e xs g' v B:=by
 rcases h with h | ⟨c,cap,cur,k1,k2,k3,k4,k5,k6,k7⟩
 · exact .inl h
 · exact .inr ⟨c,cap,cur,k1,k2,(hh c k2).trans k3,k4,k5,k6,fun i x hx=>dk.mono hle (k7 i x hx)⟩
end
section
variable {P:Program} {N:Nat} {o:Oper} {uses outs:Zf} {S:List Nat} {d:Nat} {q:Pd} {x y z:Operand} {α β γ:Type} {kV:Kd γ} {raw:α → SlV × SlV → γ} {l1 l2:α → List β} {dk:Kd β} {t e j:Nat}
structure OAt (kV:Kd γ) (raw:α → SlV × SlV → γ) (l1 l2:α → List β) (dk:Kd β) (e j:Nat) (x:α) (g:G) (b:Nat) (B:Nat → Prop) (s:SlV × SlV):Prop where
 heap:∃ cs t,g.w.heap[b]?=some (.cells (List.toArray cs) t (0,0)) ∧ kV.K g (raw x s) cs
 a1:ArrB dk e (l1 x) g (slv s.1) B
 a2:ArrB dk e (l2 x) g (slv s.2) B
 lt:b < g.w.heap.size
 own:g.own b=j + 1
 bown:∀ c,B c → c < g.w.heap.size ∧ g.own c=j + 1 + AUX
variable {xv:α}
theorem OAt.st {g g':G} {b:Nat} {B:Nat → Prop} {s:SlV × SlV} (h:OAt kV raw l1 l2 dk e j xv g b B s) (st:Step S g g') (h1:j + 1 ∉ S) (h2:j + 1 + AUX ∉ S):OAt kV raw l1 l2 dk e j xv g' b B s:=by
 obtain ⟨cs,t,e1,e2⟩:=h.heap
 obtain ⟨k1,_,k3⟩:=st.same b h.lt (by rw [h.own];exact h1)
 have hB:∀ c,B c → g'.w.heap[c]?=g.w.heap[c]?:=fun c hc=>(st.same c (h.bown c hc).1 (by rw [(h.bown c hc).2];exact h2)).1
 exact ⟨⟨cs,t,k1.trans e1,kV.mono st.le e2⟩,h.a1.st st.le hB,h.a2.st st.le hB,Nat.lt_of_lt_of_le h.lt st.le.size,k3.trans h.own,fun c hc=>by
   obtain ⟨m1,m2⟩:=h.bown c hc
   exact ⟨Nat.lt_of_lt_of_le m1 st.le.size,(st.same c m1 (by rw [m2];exact h2)).2.2.trans m2⟩⟩
theorem OB.ownA {xs:List β} {c:Option Nat} (h:OB P N o uses [(d,pOwn dk e j c (xs.map some))] S):OB P N o uses [(d,pArr dk e j xs)] S:=h.weak fun g a h en he=>by
 rw [List.mem_singleton.1 he]
 obtain ⟨b,cap,cur,hv,hO,_⟩:=h (d,pOwn dk e j c (xs.map some)) (List.mem_singleton.2 rfl)
 exact .inr ⟨b,cap,cur,by simpa using hv,hO⟩
end
section
variable {P:Program} {N:Nat} {o:Oper} {uses outs:Zf} {S:List Nat} {d:Nat} {q:Pd} {x y z:Operand} {α β γ:Type} {dk:Kd β} {t e j:Nat}
theorem Zq3 {a:Act} {g0 g:G} {L:Zf} {i s:Nat} {xs:List β} (hi:L[i]?=some (s,pArr dk e j xs)) (hd:(L.eraseIdx i).all (fun x=>!(x.2.fp.contains (j + 1)))=true) (h:St N L a g) (hb:Base g0 g):∃ g',g'.w=g.w ∧ St N (L.set i (s,dk.sl.pd xs)) a g' ∧ Base g0 g':=by
 have h0:=h.h _ (List.mem_of_getElem? hi)
 have key:∀ g':G,Step [j + 1] g g' → (dk.sl.pd xs).p g' (Act.at a s) → g'.w=g.w → ∃ g',g'.w=g.w ∧ St N (L.set i (s,dk.sl.pd xs)) a g' ∧ Base g0 g':=fun g' hs hp hw=>by
   refine ⟨g',hw,⟨h.size,h.df,fun en he=>?_⟩,hb.step hs (by simp)⟩
   obtain ⟨k,hk⟩:=List.mem_iff_getElem?.1 he
   rw [List.getElem?_set] at hk
   split at hk
   · split at hk
     · obtain rfl:=Option.some.inj hk;exact hp
     · cases hk
   · rename_i hne
     have hm:en ∈ L.eraseIdx i:=List.mem_eraseIdx_iff_getElem?.2 ⟨k,fun e=>hne e.symm,hk⟩
     have:=List.all_eq_true.1 hd en hm
     refine en.2.st hs (fun j' hj' hS=>?_) (h.h en (List.mem_of_getElem? hk))
     rw [List.mem_singleton.1 hS] at hj'
     simp [hj'] at this
 rcases h0 with ⟨rfl,A,hv⟩ | ⟨b,cap,cur,hv,hO⟩
 · refine key g (Step.refl _ _) ?_ rfl
   show (dk.sl.pd []).p g (Act.at a s)
   rw [show Act.at a s=_ from hv]
   exact Kd.sl_V.2 ⟨A,0,rfl,Nat.le_refl _,by simp,.inl rfl⟩
 · refine key (g.give b hO.lt) (Zng hO.lt hO.own) ?_ rfl
   rw [show Act.at a s=_ from hv]
   exact Zo2 hO
end
end Go.CL
namespace Go.CL
open Go Go.RowKit Go.Proofs
theorem Zg0 (a0:List Za) (a1:Zr) {r:List Za} (h:Zb9 a0 a1=some r):FnOk Tryd.prog 10 [(Zc.sl.pd a0),(Zp.pd a1)] (Zc.sl.pd r):=by
 have H0:=h
 unfold Zb9 at H0
 clear h
 refine Zco (N:=109) Tryd.func10 rfl rfl (Qe rfl) rfl rfl (fun a g0 hst hb=>?_)
 refine r_s (T:=[⟨[.o 1],_,[],[],[3]⟩,⟨[],[(4,(Zc.sl.pd ([]:List Za)))],[],[],[4]⟩]) (F:=[.o 0,.p 0 0]) hst hb Zb
  (Qb rfl u_0<|o_p rfl (Zem rfl rfl (Opd.c (fun g=>Zh1 g)))<|o_n) (fun a g hst hb=>?_)
 refine r_s (T:=[⟨[],_,[13],[],[12]⟩,⟨[.p 0 0],_,[],[0],[5]⟩]) (F:=[.o 0,.o 1,.p 1 0]) hst hb Zb
  (o_p rfl (OB.ownA (xs:=[]) (Zne (ty:=0) Zet rfl rfl))<|Qa rfl u_0<|o_n) (fun a g hst hb=>?_)
 refine wp_seq ?_
 refine r_s (T:=[⟨[],_,[],[],[6]⟩]) (F:=[.o 0,.o 1,.o 2,.p 0 0]) hst hb Zb
  (Qa rfl c_i<|o_n) (fun a g hst hb=>?_)
 obtain ⟨z14,hz1,H0⟩:=Zd H0
 refine Zb0 (fun a w=>∃ (y13:List Za) (g:G),w=g.w ∧ St 109 [(3,(Zp.ptr a1)),(5,(pArr Zc 62 12 y13))] a g ∧ Base g0 g ∧ y13=z14) ?_ ?_
 ·rintro a w ⟨y13,g,rfl,hst,hb,rfl⟩
  refine Zg ?_
  refine wp_seq ?_
  refine r_s (T:=[⟨[],_,[],[],[7]⟩]) (F:=[.o 0,.o 1,.p 0 0]) hst hb Zb
   (Qa rfl c_i<|o_n) (fun a g hst hb=>?_)
  obtain ⟨z52,hz2,H0⟩:=Zd H0
  refine Zb0 (fun a w=>∃ (y51:List Za) (g:G),w=g.w ∧ St 109 [(5,(pArr Zc 62 12 y51))] a g ∧ Base g0 g ∧ y51=z52) ?_ ?_
  ·rintro a w ⟨y51,g,rfl,hst,hb,rfl⟩
   refine Zg ?_
   obtain ⟨g1,hw,hst,hb⟩:=Zq3 (i:=0) rfl (by kernel_rfl) hst hb
   refine wp_seq ?_
   replace hst:St 109 [(5,(Zc.sl.pd y51))] a g1:=hst
   rw [← hw]
   obtain ⟨r53,h54,H0⟩:=Zd H0
   refine r_g (T:=[⟨[.o 0],_,[],[],[101]⟩,⟨[.p 0 0],_,[],[0],[102]⟩,⟨[.p 1 0],_,[],[0,1],[5]⟩]) (F:=[.p 2 0]) hst hb Zb
    (Qm rfl u_0<|o_p rfl (Zbu Zsp (Zf9 _ h54) rfl rfl (.cons u_0 .nil))<|Qa rfl u_0<|o_n) (fun a g hst hb=>?_)
   refine Zg ?_
   refine wp_seq ?_
   refine r_s (T:=[⟨[.o 0],_,[],[],[103]⟩,⟨[.p 0 0],_,[],[0],[104]⟩,⟨[.p 1 0],_,[],[0,1],[105]⟩]) (F:=[.o 0,.p 2 0]) hst hb Zb
    (Qm rfl u_0<|o_p rfl (Zbl Tryd.underlying28 rfl rfl u_0)<|o_p rfl (Zdq rfl rfl u_0 c_i)<|o_n) (fun a g hst hb=>?_)
   refine Zb0 (fun a w=>∃ (j58:List Za) (g:G),w=g.w ∧ St 109 [(5,(Zc.sl.pd j58))] a g ∧ Base g0 g ∧ Zcp j58=some r) ?_ ?_
   ·rintro a w ⟨j58,g,rfl,hst,hb,H0⟩
    unfold Zcp at H0
    refine Zg ?_
    refine r_s (T:=[⟨[.o 0],_,[],[],[108]⟩,⟨[.p 0 0],_,[],[0],[4]⟩]) (F:=[.p 1 0]) hst hb Zb
     (Qm rfl u_0<|Qa rfl u_0<|o_n) (fun a g hst hb=>?_)
    refine wp_ret ?_
    obtain rfl:=Option.some.inj H0
    exact Z6 rfl hst hb (Zm (s:=4)) (hst.at 0 rfl)
   ·refine wp_cond_split (hst.bool 1 rfl) (fun hc55=>?_) (fun hc55=>?_)
    ·replace H0:=Zx hc55 H0
     obtain ⟨c56,h57,H0⟩:=Zd H0
     refine r_g (L:=[(5,_)]) (T:=[⟨[.o 0],_,[],[],[106]⟩,⟨[.p 0 0],_,[],[0],[107]⟩,⟨[.p 1 0],_,[],[0,1],[5]⟩]) (F:=[.p 2 0]) (hst.pick [0] rfl) hb Zb
      (Qm rfl u_0<|o_p rfl (Zlz Tryd.underlying28 Zeh rfl rfl u_0 c_i h57)<|Qa rfl u_0<|o_n) (fun a g hst hb=>?_)
     exact ⟨c56,g,rfl,(hst.pick [0] rfl),hb,H0⟩
    ·replace H0:=Zw hc55 H0
     refine wp_skip ?_
     exact ⟨r53,g,rfl,(hst.pick [0] rfl),hb,H0⟩
  ·refine wp_block ?_
   refine wp_loop_ghost (fun n a w=>∃ (x15:List Za) (x16:Int) (g:G),w=g.w ∧ St 109 [(3,(Zp.ptr a1)),(5,(pArr Zc 62 12 x15)),(7,(pInt .i64 x16))] a g ∧ Base g0 g ∧ Zbp a1 n x15 x16=some z52) (Int.toNat ((a1.Deals.length:Int) - (0:Int)) + 1) ⟨y13,(0:Int),g,rfl,(hst.pick [0,1,2] rfl),hb,hz2⟩ (fun n a w hI=>?_)
   obtain ⟨x15,x16,g,rfl,hst,hb,H1⟩:=hI
   cases n with
   | zero=>exact absurd H1 (by simp [Zbp])
   | succ n =>
    rw [Zbp] at H1
    refine wp_seq ?_
    refine r_s (T:=[⟨[.o 2],_,[],[],[40]⟩,⟨[.o 0],_,[],[],[41]⟩,⟨[.p 1 0],_,[],[1],[42]⟩,⟨[.p 2 0],_,[],[1,2],[43]⟩,⟨[.p 0 0,.p 3 0],_,[],Lr 4,[44]⟩]) (F:=[.o 0,.o 1,.o 2,.p 4 0]) hst hb Zb
     (Qm rfl u_0<|Qf rfl Zf7 u_0<|Ql rfl Zie u_0<|o_p rfl (Zbl Tryd.underlying29 rfl rfl u_0)<|o_p rfl (Zdf rfl rfl u_0 u_1)<|o_n) (fun a g hst hb=>?_)
    refine wp_cond_split (hst.bool 3 rfl) (fun hc17=>?_) (fun hc17=>?_)
    ·replace H1:=Zx hc17 H1
     refine wp_skip ?_
     refine Zg ?_
     refine wp_seq ?_
     refine wp_block ?_
     refine r_s (L:=[(3,_),(5,_),(7,_)]) (T:=[⟨[],_,[],[],[8]⟩]) (F:=[.o 0,.o 1,.o 2,.p 0 0]) (hst.pick [0,1,2] rfl) hb Zb
      (Qa rfl c_i<|o_n) (fun a g hst hb=>?_)
     obtain ⟨z50,hz3,H1⟩:=Zd H1
     refine Zb0 (fun a w=>∃ (y49:List Za) (g:G),w=g.w ∧ St 109 [(3,(Zp.ptr a1)),(5,(pArr Zc 62 12 y49)),(7,(pInt .i64 x16))] a g ∧ Base g0 g ∧ y49=z50) ?_ ?_
     ·rintro a w ⟨y49,g,rfl,hst,hb,rfl⟩
      refine Z7 ?_
      refine Zg ?_
      refine r_g (T:=[⟨[.o 2],_,[],[],[45]⟩,⟨[.p 0 0],_,[],[0],[46]⟩,⟨[.p 1 0],_,[],[0,1],[7]⟩]) (F:=[.o 0,.o 1,.p 2 0]) hst hb Zb
       (Qm rfl u_0<|o_p rfl (Zca rfl rfl u_0 c_i rfl)<|Qa rfl u_0<|o_n) (fun a g hst hb=>?_)
      exact ⟨n,Nat.lt_succ_self _,y49,(IntKind.i64.wrap (x16 + (1:Int))),g,rfl,(hst.pick [0,1,2] rfl),hb,H1⟩
     ·refine wp_block ?_
      refine wp_loop_ghost (fun n a w=>∃ (x18:List Za) (x19:Int) (g:G),w=g.w ∧ St 109 [(3,(Zp.ptr a1)),(5,(pArr Zc 62 12 x18)),(7,(pInt .i64 x16)),(8,(pInt .i64 x19))] a g ∧ Base g0 g ∧ Zba a1 x16 n x18 x19=some z50) ((idx a1.Deals x16).elim 0 fun e20=>(Int.toNat ((e20.Acts.length:Int) - (0:Int)) + 1)) ⟨x15,(0:Int),g,rfl,(hst.pick [0,1,2,3] rfl),hb,hz3⟩ (fun n a w hI=>?_)
      obtain ⟨x18,x19,g,rfl,hst,hb,H2⟩:=hI
      cases n with
      | zero=>exact absurd H2 (by simp [Zba])
      | succ n =>
       rw [Zba] at H2
       refine wp_seq ?_
       obtain ⟨e20,h21,H2⟩:=Zd H2
       refine r_s (T:=[⟨[.o 3],_,[],[],[47]⟩,⟨[.o 0],_,[],[],[48]⟩,⟨[.p 1 0],_,[],[1],[49]⟩,⟨[.o 2],_,[],[],[50]⟩,⟨[.p 2 0,.p 3 0],_,[],[1,2,3],[51]⟩,⟨[.p 4 0],_,[],List.range' 1 4,[52]⟩,⟨[.p 5 0],_,[],List.range' 1 5,[53]⟩,⟨[.p 6 0],_,[],List.range' 1 6,[54]⟩,⟨[.p 0 0,.p 7 0],_,[],Lr 8,[55]⟩]) (F:=[.o 0,.o 1,.o 2,.o 3,.p 8 0]) hst hb Zb
        (Qm rfl u_0<|Qf rfl Zf7 u_0<|Ql rfl Zie u_0<|Qm rfl u_0<|o_p rfl (Zu Tryd.underlying29 Zj7 rfl rfl u_0 u_1 h21)<|Qf rfl Zfx u_0<|Ql rfl Zik u_0<|o_p rfl (Zbl Tryd.underlying52 rfl rfl u_0)<|o_p rfl (Zdf rfl rfl u_0 u_1)<|o_n) (fun a g hst hb=>?_)
       refine wp_cond_split (hst.bool 4 rfl) (fun hc22=>?_) (fun hc22=>?_)
       ·replace H2:=Zx hc22 H2
        refine wp_skip ?_
        refine Zg ?_
        refine wp_seq ?_
        refine Zb0 (fun a w=>∃ (j48:List Za) (g:G),w=g.w ∧ St 109 [(3,(Zp.ptr a1)),(5,(pArr Zc 62 12 j48)),(7,(pInt .i64 x16)),(8,(pInt .i64 x19))] a g ∧ Base g0 g ∧ Zb5 x19 (Zba a1 x16 n) j48=some z50) ?_ ?_
        ·rintro a w ⟨j48,g,rfl,hst,hb,H2⟩
         unfold Zb5 at H2
         refine Zg ?_
         refine r_g (T:=[⟨[.o 3],_,[],[],[56]⟩,⟨[.p 0 0],_,[],[0],[57]⟩,⟨[.p 1 0],_,[],[0,1],[8]⟩]) (F:=[.o 0,.o 1,.o 2,.p 2 0]) hst hb Zb
          (Qm rfl u_0<|o_p rfl (Zca rfl rfl u_0 c_i rfl)<|Qa rfl u_0<|o_n) (fun a g hst hb=>?_)
         exact ⟨n,Nat.lt_succ_self _,j48,(IntKind.i64.wrap (x19 + (1:Int))),g,rfl,(hst.pick [0,1,2,3] rfl),hb,H2⟩
        ·refine wp_block ?_
         obtain ⟨e23,h24,H2⟩:=Zd H2;obtain ⟨e25,h26,H2⟩:=Zd H2
         refine r_s (L:=[(3,_),(5,_),(7,_),(8,_)]) (T:=[⟨[.o 0],_,[],[],[58]⟩,⟨[.p 0 0],_,[],[0],[59]⟩,⟨[.o 2],_,[],[],[60]⟩,⟨[.p 1 0,.p 2 0],_,[],[0,1,2],[61]⟩,⟨[.p 3 0],_,[],Lr 4,[62]⟩,⟨[.p 4 0],_,[],Lr 5,[63]⟩,⟨[.o 3],_,[],[],[64]⟩,⟨[.p 5 0,.p 6 0],_,[],Lr 7,[65]⟩,⟨[.p 7 0],_,[],Lr 8,[66]⟩,⟨[],[(9,(pBox Z1 9 (default:Zo)))],[10],[],[9]⟩,⟨[.p 8 0,.p 9 0],_,[10],Lr 10,[9]⟩]) (F:=[.o 0,.o 1,.o 2,.o 3,.p 10 0]) (hst.pick [0,1,2,3] rfl) hb Zb
          (Qf rfl Zf7 u_0<|Ql rfl Zie u_0<|Qm rfl u_0<|o_p rfl (Zu Tryd.underlying29 Zj7 rfl rfl u_0 u_1 h24)<|Qf rfl Zfx u_0<|Ql rfl Zik u_0<|Qm rfl u_0<|o_p rfl (Zu Tryd.underlying52 Zmr rfl rfl u_0 u_1 h26)<|Ql rfl Zen u_0<|o_p rfl (Zc5 (zs:=[.int .i64 0,.string ByteArray.empty,.int .i64 0,.float .f64 0,.string ByteArray.empty,.int .i64 0,.int .i64 0,.int .i64 0,.int .i64 0,.float .f64 0,.int .i64 0,.string ByteArray.empty,.slice none 0 0,.bool false]) (by kernel_rfl) (fun g=>Zfc g) rfl rfl)<|o_p rfl (Zcz Zen rfl rfl u_1 u_0)<|o_n) (fun a g hst hb=>?_)
         refine wp_seq ?_
         obtain ⟨r27,h28,H2⟩:=Zd H2
         refine r_s (T:=[⟨[.o 4],_,[],[],[67]⟩,⟨[.p 0 0],_,[],[0],[68]⟩,⟨[.p 1 0],_,[],[0,1],[69]⟩,⟨[.p 2 0],_,[],[0,1,2],[70]⟩]) (F:=[.o 0,.o 1,.o 2,.o 3,.o 4,.p 3 0]) hst hb Zb
          (Qf rfl Zi7 u_0<|Ql rfl ty_3 u_0<|o_p rfl (Zbu Zsg (Zga _ h28) rfl rfl (.cons u_0 .nil))<|Qn rfl u_0<|o_n) (fun a g hst hb=>?_)
         refine wp_cond_split (hst.bool 5 rfl) (fun hc29=>?_) (fun hc29=>?_)
         ·replace H2:=Zx hc29 H2
          refine wp_exit ?_
          refine Z2 ?_
          refine Zbk ?_
          exact ⟨x18,g,rfl,(hst.pick [0,1,2,3] rfl),hb,H2⟩
         ·replace H2:=Zw hc29 H2
          refine wp_skip ?_
          refine Zg ?_
          refine r_s (L:=[(3,_),(5,_),(7,_),(8,_),(9,_)]) (T:=[⟨[],_,[],[],[10]⟩]) (F:=[.o 0,.o 1,.o 2,.o 3,.o 4,.p 0 0]) (hst.pick [0,1,2,3,4] rfl) hb Zb
           (Qa rfl c_b<|o_n) (fun a g hst hb=>?_)
          refine wp_seq ?_
          refine r_s (T:=[⟨[],_,[],[],[11]⟩]) (F:=[.o 0,.o 1,.o 2,.o 3,.o 4,.o 5,.p 0 0]) hst hb Zb
           (Qa rfl c_i<|o_n) (fun a g hst hb=>?_)
          obtain ⟨z45,hz4,H2⟩:=Zd H2
          refine Zb0 (fun a w=>∃ (y43:List Za) (y44:Bool) (g:G),w=g.w ∧ St 109 [(3,(Zp.ptr a1)),(5,(pArr Zc 62 12 y43)),(7,(pInt .i64 x16)),(8,(pInt .i64 x19)),(9,(Z1.ptr e25)),(10,(Zn y44))] a g ∧ Base g0 g ∧ (y43,y44)=z45) ?_ ?_
          ·rintro a w ⟨y43,y44,g,rfl,hst,hb,rfl⟩
           refine Zg ?_
           refine r_s (T:=[⟨[.o 5],_,[],[],[93]⟩,⟨[.p 0 0],_,[],[0],[94]⟩]) (F:=[.o 0,.o 1,.o 2,.o 3,.o 4,.p 1 0]) hst hb Zb
            (Qm rfl u_0<|Qn rfl u_0<|o_n) (fun a g hst hb=>?_)
           refine wp_cond_split (hst.bool 5 rfl) (fun hc46=>?_) (fun hc46=>?_)
           ·replace H2:=Zx hc46 H2
            obtain ⟨h47,H2⟩:=Zfj H2
            refine r_g (L:=[(3,_),(5,_),(7,_),(8,_),(9,_)]) (T:=[⟨[.o 1],_,[],[],[95]⟩,⟨[.o 4],_,[],[],[96]⟩,⟨[.p 1 0],_,[],[1],[97]⟩,⟨[.p 2 0],_,[],[1,2],[98]⟩,⟨[.p 3 0],_,[],[1,2,3],[99]⟩,⟨[.p 0 0,.p 4 0],_,[13],Lr 5,[5,95,100]⟩,⟨[.p 5 0],_,[],Lr 6,[5]⟩]) (F:=[.o 0,.p 6 0,.o 2,.o 3]) (hst.pick [0,1,2,3,4] rfl) hb Zb
             (Qm rfl u_0<|Qf rfl Zhr u_0<|Ql rfl ty_9 u_0<|o_p rfl (Zjg rfl rfl u_0 c_i)<|o_p rfl (Zeo Zet (xs:=[.tmp 98]) (.cons u_0 .nil) (by decide) rfl rfl)<|o_p rfl (Zgd Zet rfl rfl u_0 u_1 (by simp) h47)<|Qa rfl u_0<|o_n) (fun a g hst hb=>?_)
            refine Z7 ?_
            exact ⟨(y43 ++ ([({ Key:=e25.Key,Score:=(1:Int) }:Za)]:List Za)),g,rfl,(hst.pick [0,1,2,3] rfl),hb,H2⟩
           ·replace H2:=Zw hc46 H2
            refine wp_skip ?_
            refine Z7 ?_
            exact ⟨y43,g,rfl,(hst.pick [0,1,2,3] rfl),hb,H2⟩
          ·refine wp_block ?_
           refine wp_loop_ghost (fun n a w=>∃ (x30:List Za) (x31:Bool) (x32:Int) (g:G),w=g.w ∧ St 109 [(3,(Zp.ptr a1)),(5,(pArr Zc 62 12 x30)),(7,(pInt .i64 x16)),(8,(pInt .i64 x19)),(9,(Z1.ptr e25)),(10,(Zn x31)),(11,(pInt .i64 x32))] a g ∧ Base g0 g ∧ Z9 e25 n x30 x31 x32=some z45) (Int.toNat ((x18.length:Int) - (0:Int)) + 1) ⟨x18,false,(0:Int),g,rfl,(hst.pick [0,1,2,3,4,5,6] rfl),hb,hz4⟩ (fun n a w hI=>?_)
           obtain ⟨x30,x31,x32,g,rfl,hst,hb,H3⟩:=hI
           cases n with
           | zero=>exact absurd H3 (by simp [Z9])
           | succ n =>
            rw [Z9] at H3
            refine wp_seq ?_
            refine r_s (T:=[⟨[.o 6],_,[],[],[71]⟩,⟨[.o 1],_,[],[],[72]⟩,⟨[.p 1 0],_,[],[1],[73]⟩,⟨[.p 0 0,.p 2 0],_,[],[0,1,2],[74]⟩]) (F:=[.o 0,.o 1,.o 2,.o 3,.o 4,.o 5,.o 6,.p 3 0]) hst hb Zb
             (Qm rfl u_0<|Qm rfl u_0<|o_p rfl (Zqf Tryd.underlying28 rfl rfl u_0)<|o_p rfl (Zdf rfl rfl u_0 u_1)<|o_n) (fun a g hst hb=>?_)
            refine wp_cond_split (hst.bool 7 rfl) (fun hc33=>?_) (fun hc33=>?_)
            ·replace H3:=Zx hc33 H3
             refine wp_skip ?_
             refine Zg ?_
             refine wp_seq ?_
             refine Zb0 (fun a w=>∃ (j41:List Za) (j42:Bool) (g:G),w=g.w ∧ St 109 [(3,(Zp.ptr a1)),(5,(pArr Zc 62 12 j41)),(7,(pInt .i64 x16)),(8,(pInt .i64 x19)),(9,(Z1.ptr e25)),(10,(Zn j42)),(11,(pInt .i64 x32))] a g ∧ Base g0 g ∧ Zcr x32 (Z9 e25 n) j41 j42=some z45) ?_ ?_
             ·rintro a w ⟨j41,j42,g,rfl,hst,hb,H3⟩
              unfold Zcr at H3
              refine Zg ?_
              refine r_g (T:=[⟨[.o 6],_,[],[],[75]⟩,⟨[.p 0 0],_,[],[0],[76]⟩,⟨[.p 1 0],_,[],[0,1],[11]⟩]) (F:=[.o 0,.o 1,.o 2,.o 3,.o 4,.o 5,.p 2 0]) hst hb Zb
               (Qm rfl u_0<|o_p rfl (Zca rfl rfl u_0 c_i rfl)<|Qa rfl u_0<|o_n) (fun a g hst hb=>?_)
              exact ⟨n,Nat.lt_succ_self _,j41,j42,(IntKind.i64.wrap (x32 + (1:Int))),g,rfl,(hst.pick [0,1,2,3,4,5,6] rfl),hb,H3⟩
             ·refine wp_block ?_
              obtain ⟨e34,h35,H3⟩:=Zd H3
              refine r_s (L:=[(3,_),(5,_),(7,_),(8,_),(9,_),(10,_),(11,_)]) (T:=[⟨[.o 1],_,[],[],[77]⟩,⟨[.o 6],_,[],[],[78]⟩,⟨[.p 0 0,.p 1 0],_,[],[0,1],[79]⟩,⟨[.p 2 0],_,[],[0,1,2],[80]⟩,⟨[.p 3 0],_,[],Lr 4,[81]⟩,⟨[.o 4],_,[],[],[82]⟩,⟨[.p 5 0],_,[],[5],[83]⟩,⟨[.p 4 0,.p 6 0],_,[],Lr 7,[84]⟩]) (F:=[.o 0,.o 1,.o 2,.o 3,.o 4,.o 5,.o 6,.p 7 0]) (hst.pick [0,1,2,3,4,5,6] rfl) hb Zb
               (Qm rfl u_0<|Qm rfl u_0<|o_p rfl (Zg6 Tryd.underlying28 Zeh rfl rfl u_0 u_1 h35)<|o_p rfl (Zge Zfh (off2:=0) (by kernel_rfl) (by decide) rfl rfl u_0)<|o_p rfl (Zjz ty_9 rfl rfl u_0)<|Qf rfl Zhr u_0<|Ql rfl ty_9 u_0<|o_p rfl (Zrk rfl rfl u_0 u_1)<|o_n) (fun a g hst hb=>?_)
              refine wp_cond_split (hst.bool 7 rfl) (fun hc36=>?_) (fun hc36=>?_)
              ·replace H3:=Zx hc36 H3
               obtain ⟨e37,h38,H3⟩:=Zd H3;obtain ⟨e39,h40,H3⟩:=Zd H3
               refine r_s (L:=[(3,_),(5,_),(7,_),(8,_),(9,_),(11,_)]) (T:=[⟨[.o 1],_,[],[],[85]⟩,⟨[.o 5],_,[],[],[86]⟩,⟨[.p 0 0,.p 1 0],_,[],[0,1],[87]⟩,⟨[.p 2 0],_,[],[0,1,2],[88]⟩,⟨[.p 3 0],_,[],Lr 4,[89]⟩,⟨[.p 4 0],_,[],Lr 5,[90]⟩,⟨[.p 0 0,.p 1 0],_,[],Lr 6,[91]⟩,⟨[.p 6 0],_,[],Lr 7,[92]⟩,⟨[.p 5 0,.p 7 0,.o 1],_,[13],Lr 8,[5,85,87,88,91,92]⟩]) (F:=[.o 0,.p 8 0,.o 2,.o 3,.o 4,.o 5]) (hst.pick [0,1,2,3,4,6] rfl) hb Zb
                (Qm rfl u_0<|Qm rfl u_0<|o_p rfl (Zg6 Tryd.underlying28 Zeh rfl rfl u_0 u_1 h38)<|o_p rfl (Zge Zd1 (off2:=1) (by kernel_rfl) (by decide) rfl rfl u_0)<|o_p rfl (Zjz ty_3 rfl rfl u_0)<|o_p rfl (Zca rfl rfl u_0 c_i rfl)<|o_p rfl (Zg6 Tryd.underlying28 Zeh rfl rfl u_0 u_1 h40)<|o_p rfl (Zge Zd1 (off2:=1) (by kernel_rfl) (by decide) rfl rfl u_0)<|o_p rfl (Zmy ty_3 rfl rfl u_2 u_1 u_0 (Zqj h40) (by decide) (Zq0 _ _))<|o_n) (fun a g hst hb=>?_)
               refine r_g (T:=[⟨[],_,[],[],[10]⟩]) (F:=[.o 0,.o 1,.o 2,.o 3,.o 4,.p 0 0,.o 5]) hst hb Zb
                (Qa rfl c_b<|o_n) (fun a g hst hb=>?_)
               refine Z7 ?_
               exact ⟨(x30.set (Int.toNat x32) { e39 with Score:=(IntKind.i64.wrap (e37.Score + (1:Int))) }),true,g,rfl,(hst.pick [0,1,2,3,4,5,6] rfl),hb,H3⟩
              ·replace H3:=Zw hc36 H3
               refine wp_skip ?_
               refine Z7 ?_
               exact ⟨x30,x31,g,rfl,(hst.pick [0,1,2,3,4,5,6] rfl),hb,H3⟩
            ·replace H3:=Zw hc33 H3
             refine wp_exit ?_
             refine Z2 ?_
             refine Z2 ?_
             refine Zbk ?_
             exact ⟨x30,x31,g,rfl,(hst.pick [0,1,2,3,4,5] rfl),hb,Option.some.inj H3⟩
       ·replace H2:=Zw hc22 H2
        refine wp_exit ?_
        refine Z2 ?_
        refine Z2 ?_
        refine Zbk ?_
        exact ⟨x18,g,rfl,(hst.pick [0,1,2] rfl),hb,Option.some.inj H2⟩
    ·replace H1:=Zw hc17 H1
     refine wp_exit ?_
     refine Z2 ?_
     refine Z2 ?_
     refine Zbk ?_
     exact ⟨x15,g,rfl,(hst.pick [1] rfl),hb,Option.some.inj H1⟩
 ·refine wp_block ?_
  refine wp_loop_ghost (fun n a w=>∃ (x1:List Za) (x2:Int) (g:G),w=g.w ∧ St 109 [(0,(Zc.sl.pd a0)),(3,(Zp.ptr a1)),(5,(pArr Zc 62 12 x1)),(6,(pInt .i64 x2))] a g ∧ Base g0 g ∧ Zbe a0 n x1 x2=some z14) (Int.toNat ((a0.length:Int) - (0:Int)) + 1) ⟨([]:List Za),(0:Int),g,rfl,(hst.pick [0,1,2,3] rfl),hb,hz1⟩ (fun n a w hI=>?_)
  obtain ⟨x1,x2,g,rfl,hst,hb,H1⟩:=hI
  cases n with
  | zero=>exact absurd H1 (by simp [Zbe])
  | succ n =>
   rw [Zbe] at H1
   refine wp_seq ?_
   refine r_s (T:=[⟨[.o 3],_,[],[],[13]⟩,⟨[.o 0],_,[],[],[14]⟩,⟨[.p 1 0],_,[],[1],[15]⟩,⟨[.p 0 0,.p 2 0],_,[],[0,1,2],[16]⟩]) (F:=[.o 0,.o 1,.o 2,.o 3,.p 3 0]) hst hb Zb
    (Qm rfl u_0<|Qm rfl u_0<|o_p rfl (Zbl Tryd.underlying28 rfl rfl u_0)<|o_p rfl (Zdf rfl rfl u_0 u_1)<|o_n) (fun a g hst hb=>?_)
   refine wp_cond_split (hst.bool 4 rfl) (fun hc3=>?_) (fun hc3=>?_)
   ·replace H1:=Zx hc3 H1
    refine wp_skip ?_
    refine Zg ?_
    refine wp_seq ?_
    refine Zb0 (fun a w=>∃ (j12:List Za) (g:G),w=g.w ∧ St 109 [(0,(Zc.sl.pd a0)),(3,(Zp.ptr a1)),(5,(pArr Zc 62 12 j12)),(6,(pInt .i64 x2))] a g ∧ Base g0 g ∧ Zcq x2 (Zbe a0 n) j12=some z14) ?_ ?_
    ·rintro a w ⟨j12,g,rfl,hst,hb,H1⟩
     unfold Zcq at H1
     refine Zg ?_
     refine r_g (T:=[⟨[.o 3],_,[],[],[17]⟩,⟨[.p 0 0],_,[],[0],[18]⟩,⟨[.p 1 0],_,[],[0,1],[6]⟩]) (F:=[.o 0,.o 1,.o 2,.p 2 0]) hst hb Zb
      (Qm rfl u_0<|o_p rfl (Zca rfl rfl u_0 c_i rfl)<|Qa rfl u_0<|o_n) (fun a g hst hb=>?_)
     exact ⟨n,Nat.lt_succ_self _,j12,(IntKind.i64.wrap (x2 + (1:Int))),g,rfl,(hst.pick [0,1,2,3] rfl),hb,H1⟩
    ·refine wp_block ?_
     obtain ⟨e4,h5,H1⟩:=Zd H1
     refine r_s (L:=[(0,_),(3,_),(5,_),(6,_)]) (T:=[⟨[.o 0],_,[],[],[19]⟩,⟨[.o 3],_,[],[],[20]⟩,⟨[.p 0 0,.p 1 0],_,[],[0,1],[21]⟩,⟨[.p 2 0],_,[],[0,1,2],[22]⟩,⟨[.p 3 0],_,[],Lr 4,[23]⟩,⟨[.p 4 0],_,[],Lr 5,[24]⟩]) (F:=[.o 0,.o 1,.o 2,.o 3,.p 5 0]) (hst.pick [0,1,2,3] rfl) hb Zb
      (Qm rfl u_0<|Qm rfl u_0<|o_p rfl (Zu Tryd.underlying28 Zeh rfl rfl u_0 u_1 h5)<|Qf rfl Zd1 u_0<|Ql rfl ty_3 u_0<|o_p rfl (Zp0 rfl rfl u_0 c_i)<|o_n) (fun a g hst hb=>?_)
     refine wp_cond_split (hst.bool 4 rfl) (fun hc6=>?_) (fun hc6=>?_)
     ·replace H1:=Zx hc6 H1
      obtain ⟨e7,h8,H1⟩:=Zd H1;obtain ⟨e9,h10,H1⟩:=Zd H1;obtain ⟨h11,H1⟩:=Zfj H1
      refine r_g (L:=[(0,_),(3,_),(5,_),(6,_)]) (T:=⟨[.o 2],_,[],[],[25]⟩ :: ⟨[.o 0],_,[],[],[26]⟩ :: ⟨[.o 3],_,[],[],[27]⟩ :: ⟨[.p 1 0,.p 2 0],_,[],[1,2],[28]⟩ :: ⟨[.p 3 0],_,[],[1,2,3],[29]⟩ :: ⟨[.p 4 0],_,[],List.range' 1 4,[30]⟩ :: ⟨[.o 0],_,[],[],[31]⟩ :: ⟨[.o 3],_,[],[],[32]⟩ :: ⟨[.p 6 0,.p 7 0],_,[],[6,7],[33]⟩ :: ⟨[.p 8 0],_,[],[6,7,8],[34]⟩ :: ⟨[.p 9 0],_,[],List.range' 6 4,[35]⟩ :: ⟨[.p 10 0],_,[],List.range' 6 5,[36]⟩ :: ⟨[.p 5 0,.p 11 0],_,[],List.range' 1 11,[37]⟩ :: ⟨[.p 12 0],_,[],List.range' 1 12,[38]⟩ :: ⟨[.p 0 0,.p 13 0],_,[13],Lr 14,[5,25,39]⟩ :: ⟨[.p 14 0],_,[],Lr 15,[5]⟩ :: []) (F:=[.o 0,.o 1,.p 15 0,.o 3]) (hst.pick [0,1,2,3] rfl) hb Zb
       (Qm rfl u_0<|Qm rfl u_0<|Qm rfl u_0<|o_p rfl (Zu Tryd.underlying28 Zeh rfl rfl u_0 u_1 h8)<|Qf rfl Zfh u_0<|Ql rfl ty_9 u_0<|Qm rfl u_0<|Qm rfl u_0<|o_p rfl (Zu Tryd.underlying28 Zeh rfl rfl u_0 u_1 h10)<|Qf rfl Zd1 u_0<|Ql rfl ty_3 u_0<|o_p rfl (Zoe rfl rfl u_0 c_i (by decide))<|o_p rfl (Zjg rfl rfl u_0 u_1)<|o_p rfl (Zeo Zet (xs:=[.tmp 37]) (.cons u_0 .nil) (by decide) rfl rfl)<|o_p rfl (Zgd Zet rfl rfl u_0 u_1 (by simp) h11)<|Qa rfl u_0<|o_n) (fun a g hst hb=>?_)
      refine Z7 ?_
      exact ⟨(x1 ++ ([({ Key:=e7.Key,Score:=(IntKind.i64.wrap (Int.tdiv e9.Score (2:Int))) }:Za)]:List Za)),g,rfl,(hst.pick [0,1,2,3] rfl),hb,H1⟩
     ·replace H1:=Zw hc6 H1
      refine wp_skip ?_
      refine Z7 ?_
      exact ⟨x1,g,rfl,(hst.pick [0,1,2,3] rfl),hb,H1⟩
   ·replace H1:=Zw hc3 H1
    refine wp_exit ?_
    refine Z2 ?_
    refine Z2 ?_
    refine Zbk ?_
    exact ⟨x1,g,rfl,(hst.pick [1,2] rfl),hb,Option.some.inj H1⟩
theorem Zgz (a0:Zi) (a1:List Za) {r:Bool × Zi} (h:Zdy a0 a1=some r):FnMR Tryd.prog 11 Zq a0 r.2 [(Zc.sl.pd a1)] (Zn r.1):=by
 have H0:=h
 unfold Zdy at H0
 clear h
 refine Zql (N:=57) Tryd.func11 rfl rfl (Qe rfl) rfl rfl (fun a g0 b0 hst hb=>?_)
 replace hst:St 57 [(0,(Zy (some b0) Zq 0 a0)),(1,(Zc.sl.pd a1))] _ _:=hst
 refine r_s (T:=[⟨[],_,[],[],[4]⟩]) (F:=[.o 0,.o 1]) hst hb Zb
  (Qa rfl c_b<|o_n) (fun a g hst hb=>?_)
 obtain ⟨r1,h2,H0⟩:=Zd H0
 refine r_s (T:=[⟨[.o 0],[(8,(Zy (some b0) Zq 0 a0))],[],[],[8]⟩,⟨[.p 0 0,.o 0],[(9,(Zl.sl.pd r1)),(0,(Zy (some b0) Zq 0 a0))],[1,1000001],[0],[0,8,9]⟩,⟨[.p 1 0],_,[],[0,1],[5]⟩]) (F:=[.p 1 1,.o 1,.p 2 0]) hst hb Zb
  (Qm rfl u_0<|o_p rfl (Zb1 Zj6 (Zek _ h2) rfl rfl rfl (by decide) u_1 u_0 .nil)<|Qa rfl u_0<|o_n) (fun a g hst hb=>?_)
 refine wp_seq ?_
 obtain ⟨r3,h4,H0⟩:=Zd H0
 refine r_s (T:=⟨[.o 2],_,[],[],[10]⟩ :: ⟨[.p 0 0],_,[],[0],[11]⟩ :: ⟨[.o 1],_,[],[],[12]⟩ :: ⟨[.p 2 0],_,[],[2],[13]⟩ :: ⟨[.p 1 0,.p 3 0],_,[],Lr 4,[14]⟩ :: ⟨[.p 4 0],_,[],Lr 5,[15]⟩ :: ⟨[.p 5 0,.o 0],[(16,(pIf (!((r1.length:Int) != (a1.length:Int))) (Zy (some b0) Zq 0 a0)))],[],Lr 6,[16]⟩ :: ⟨[.p 5 0,.p 6 0,.o 0],[(17,(pIf (!((r1.length:Int) != (a1.length:Int))) (pInt .i64 r3))),(0,(Zy (some b0) Zq 0 a0))],[1,1000001],Lr 7,[0,16,17]⟩ :: ⟨[.p 5 0,.o 1],_,[],Lr 6,[18]⟩ :: ⟨[.p 5 0,.p 8 0],_,[],[0,1,2,3,4,5,8],[19]⟩ :: ⟨[.p 5 0,.p 7 0,.p 9 0],_,[],Lr 10,[20]⟩ :: ⟨[.p 5 0,.p 10 0],_,[],Lr 11,[21]⟩ :: []) (F:=[.p 7 1,.o 1,.o 2,.p 11 0]) hst hb Zb
  (Qm rfl u_0<|o_p rfl (Zbl Tryd.underlying41 rfl rfl u_0)<|Qm rfl u_0<|o_p rfl (Zbl Tryd.underlying28 rfl rfl u_0)<|o_p rfl (Zho rfl rfl u_0 u_1)<|Qm rfl u_0<|o_g (Qg_f rfl (fun hG=>Zbo rfl rfl u_0))<|o_g (OT.guardMR (!((r1.length:Int) != (a1.length:Int))) (gF ((r1.length:Int) != (a1.length:Int))).1 (gF ((r1.length:Int) != (a1.length:Int))).2 rfl rfl rfl (by decide) u_1 (fun hG=>Zb1 Zma (Zel _ (Zdb h4 hG)) rfl rfl rfl (by decide) u_1 (Opd.gd hG u_0) .nil) (ite_self _).symm)<|o_g (Qg_f rfl (fun hG=>Zbo rfl rfl u_0))<|o_g (Qg_f rfl (fun hG=>Zbl Tryd.underlying28 rfl rfl (Opd.gd hG u_0)))<|o_g (Qg_f rfl (fun hG=>Zho rfl rfl (Opd.gd hG u_0) (Opd.gd hG u_1)))<|o_p rfl (Zde rfl rfl u_0 (fun hz=>(Opd.gd (bNF hz) u_1)))<|o_n) (fun a g hst hb=>?_)
 refine wp_cond_split (hst.bool 3 rfl) (fun hc5=>?_) (fun hc5=>?_)
 ·replace H0:=Zx hc5 H0
  refine r_s (L:=[(0,_)]) (T:=[⟨[],_,[],[],[4]⟩]) (F:=[.o 0,.p 0 0]) (hst.pick [0] rfl) hb Zb
   (Qa rfl c_b<|o_n) (fun a g hst hb=>?_)
  refine wp_ret ?_
  refine Zt ?_
  obtain rfl:=Option.some.inj H0
  exact Zml rfl hst hb (Zm (s:=4)) (hst.at 1 rfl) (hst.at 0 rfl)
 ·replace H0:=Zw hc5 H0
  refine wp_skip ?_
  refine Zg ?_
  refine wp_seq ?_
  refine r_s (L:=[(0,_),(1,_),(5,_)]) (T:=[⟨[.o 1],_,[],[],[22]⟩,⟨[.p 0 0],_,[],[0],[23]⟩,⟨[],_,[],[],[24]⟩]) (F:=[.o 0,.o 2,.p 0 0,.p 1 0,.p 2 0]) (hst.pick [0,1,2] rfl) hb Zb
   (Qm rfl u_0<|o_p rfl (Zbl Tryd.underlying28 rfl rfl u_0)<|Qm rfl c_i<|o_n) (fun a g hst hb=>?_)
  obtain ⟨z19,hz1,H0⟩:=Zd H0
  refine Zb0 (fun a w=>∃ (y18:Zi) (g:G),w=g.w ∧ St 57 [(0,(Zy (some b0) Zq 0 y18))] a g ∧ Base g0 g ∧ (.inr y18)=z19) ?_ ?_
  ·rintro a w ⟨y18,g,rfl,hst,hb,rfl⟩
   refine Zg ?_
   refine r_s (T:=[⟨[],_,[],[],[4]⟩]) (F:=[.o 0,.p 0 0]) hst hb Zb
    (Qa rfl c_b<|o_n) (fun a g hst hb=>?_)
   refine wp_ret ?_
   obtain rfl:=Option.some.inj H0
   exact Zml rfl hst hb (Zm (s:=4)) (hst.at 1 rfl) (hst.at 0 rfl)
  ·refine wp_block ?_
   refine wp_loop_ghost (fun n a w=>∃ (x6:Zi) (x7:Int) (g:G),w=g.w ∧ St 57 [(0,(Zy (some b0) Zq 0 x6)),(5,(Zl.sl.pd r1)),(22,(Zc.sl.pd a1)),(23,(pInt .i64 (a1.length:Int))),(24,(pInt .i64 x7))] a g ∧ Base g0 g ∧ Zbw a1 r1 n x6 x7=some z19) (Int.toNat ((a1.length:Int) - (0:Int)) + 1) ⟨a0,(0:Int),g,rfl,(hst.pick [0,1,2,3,4] rfl),hb,hz1⟩ (fun n a w hI=>?_)
   obtain ⟨x6,x7,g,rfl,hst,hb,H1⟩:=hI
   cases n with
   | zero=>exact absurd H1 (by simp [Zbw])
   | succ n =>
    rw [Zbw] at H1
    refine r_s (T:=[⟨[.o 4,.o 3],_,[],[],[25]⟩]) (F:=[.o 0,.o 1,.o 2,.o 3,.o 4,.p 0 0]) hst hb Zb
     (o_p rfl (Zdf rfl rfl u_0 u_1)<|o_n) (fun a g hst hb=>?_)
    refine wp_seq ?_
    refine wp_cond_split (hst.bool 5 rfl) (fun hc8=>?_) (fun hc8=>?_)
    ·replace H1:=Zx hc8 H1
     refine wp_skip ?_
     refine Zg ?_
     refine wp_seq ?_
     refine wp_block ?_
     obtain ⟨e9,h10,H1⟩:=Zd H1
     refine r_s (L:=[(0,_),(5,_),(22,_),(23,_),(24,_)]) (T:=[⟨[.o 4],_,[],[],[26]⟩,⟨[.o 2,.o 4],_,[],[],[27]⟩,⟨[.p 1 0],_,[],[1],[28]⟩,⟨[],[(7,(pBox Zc 7 (default:Za)))],[8],[],[7]⟩,⟨[.p 0 0],_,[],Lr 4,[6]⟩,⟨[.p 2 0,.p 3 0],_,[8],Lr 5,[7]⟩]) (F:=[.o 0,.o 1,.p 4 0,.p 5 0,.o 2,.o 3,.o 4]) (hst.pick [0,1,2,3,4] rfl) hb Zb
      (Qm rfl u_0<|o_p rfl (Zu Tryd.underlying28 Zeh rfl rfl u_0 u_1 h10)<|Ql rfl Zil u_0<|o_p rfl (Zc5 (zs:=[.string ByteArray.empty,.int .i64 0]) (by kernel_rfl) (fun g=>Zgx g) rfl rfl)<|Qa rfl u_0<|o_p rfl (Zcz Zil rfl rfl u_1 u_0)<|o_n) (fun a g hst hb=>?_)
     obtain ⟨e11,h12,H1⟩:=Zd H1;obtain ⟨e13,h14,H1⟩:=Zd H1;obtain ⟨r15,h16,H1⟩:=Zd H1
     refine r_s (T:=⟨[.o 1],_,[],[],[29]⟩ :: ⟨[.o 2],_,[],[],[30]⟩ :: ⟨[.p 0 0,.p 1 0],_,[],[0,1],[31]⟩ :: ⟨[.p 2 0],_,[],[0,1,2],[32]⟩ :: ⟨[.p 3 0],_,[],Lr 4,[33]⟩ :: ⟨[.o 3],_,[],[],[34]⟩ :: ⟨[.p 5 0],_,[],[5],[35]⟩ :: ⟨[.p 4 0,.p 6 0],_,[],Lr 7,[36]⟩ :: ⟨[.p 7 0],_,[],Lr 8,[37]⟩ :: ⟨[.p 8 0,.o 1],_,[],Lr 9,[38]⟩ :: ⟨[.p 8 0,.o 2],_,[],Lr 9,[39]⟩ :: ⟨[.p 8 0,.p 9 0,.p 10 0],_,[],Lr 11,[40]⟩ :: ⟨[.p 8 0,.p 11 0],_,[],Lr 12,[41]⟩ :: ⟨[.p 8 0,.p 12 0],_,[],Lr 13,[42]⟩ :: ⟨[.p 8 0,.o 3],_,[],Lr 9,[43]⟩ :: ⟨[.p 8 0,.p 14 0],_,[],[0,1,2,3,4,5,6,7,8,14],[44]⟩ :: ⟨[.p 8 0,.p 13 0,.p 15 0],_,[],Lr 16,[45]⟩ :: ⟨[.p 8 0,.p 16 0],_,[],Lr 17,[46]⟩ :: ⟨[.p 17 0],_,[],Lr 18,[47]⟩ :: ⟨[.p 18 0,.o 0],[(48,(pIf (!((!sEq e11.Key e9.Key) || (e13.Score != e9.Score))) (Zy (some b0) Zq 0 x6)))],[],Lr 19,[48]⟩ :: ⟨[.p 18 0,.o 3],_,[],Lr 19,[49]⟩ :: ⟨[.p 18 0,.p 20 0],_,[],0 :: 1 :: 2 :: 3 :: 4 :: 5 :: 6 :: 7 :: 8 :: 9 :: 10 :: 11 :: 12 :: 13 :: 14 :: 15 :: 16 :: 17 :: 18 :: 20 :: [],[50]⟩ :: ⟨[.p 18 0,.p 19 0,.p 21 0,.o 0],[(51,(pIf (!((!sEq e11.Key e9.Key) || (e13.Score != e9.Score))) (pInt .i64 r15))),(0,(Zy (some b0) Zq 0 x6))],[1,1000001],Lr 22,[0,48,51]⟩ :: ⟨[.p 18 0,.o 3],_,[],Lr 19,[52]⟩ :: ⟨[.p 18 0,.p 23 0],_,[],0 :: 1 :: 2 :: 3 :: 4 :: 5 :: 6 :: 7 :: 8 :: 9 :: 10 :: 11 :: 12 :: 13 :: 14 :: 15 :: 16 :: 17 :: 18 :: 23 :: [],[53]⟩ :: ⟨[.p 18 0,.p 22 0,.p 24 0],_,[],Lr 25,[54]⟩ :: ⟨[.p 18 0,.p 25 0],_,[],Lr 26,[55]⟩ :: []) (F:=[.p 22 1,.o 1,.o 4,.o 5,.o 6,.p 26 0]) hst hb Zb
      (Qm rfl u_0<|Qm rfl u_0<|o_p rfl (Zu Tryd.underlying41 Zix rfl rfl u_0 u_1 h12)<|Qf rfl Zhs u_0<|Ql rfl ty_9 u_0<|Qf rfl Zfh u_0<|Ql rfl ty_9 u_0<|o_p rfl (Zm3 rfl rfl u_0 u_1)<|Qm rfl u_0<|o_g (Qg_f rfl (fun hG=>Zbo rfl rfl u_0))<|o_g (Qg_f rfl (fun hG=>Zbo rfl rfl u_0))<|o_g (Qg_f rfl (fun hG=>Zu Tryd.underlying41 Zix rfl rfl (Opd.gd hG u_0) (Opd.gd hG u_1) (Zdb h14 hG)))<|o_g (Qg_f rfl (fun hG=>Zbt Zi2 rfl rfl (Opd.gd hG u_0)))<|o_g (Qg_f rfl (fun hG=>Zcs ty_3 rfl rfl (Opd.gd hG u_0)))<|o_g (Qg_f rfl (fun hG=>Zbt Zd1 rfl rfl u_0))<|o_g (Qg_f rfl (fun hG=>Zcs ty_3 rfl rfl (Opd.gd hG u_0)))<|o_g (Qg_f rfl (fun hG=>Zho rfl rfl (Opd.gd hG u_0) (Opd.gd hG u_1)))<|o_p rfl (Zde rfl rfl u_0 (fun hz=>(Opd.gd (bNF hz) u_1)))<|Qm rfl u_0<|o_g (Qg_f rfl (fun hG=>Zbo rfl rfl u_0))<|o_g (Qg_f rfl (fun hG=>Zbt Zfh rfl rfl u_0))<|o_g (Qg_f rfl (fun hG=>Zcs ty_9 rfl rfl (Opd.gd hG u_0)))<|o_g (OT.guardMR (!((!sEq e11.Key e9.Key) || (e13.Score != e9.Score))) (gF ((!sEq e11.Key e9.Key) || (e13.Score != e9.Score))).1 (gF ((!sEq e11.Key e9.Key) || (e13.Score != e9.Score))).2 rfl rfl rfl (by decide) u_2 (fun hG=>Zb1 Zmx (Zd5 _ _ (Zdb h16 hG)) rfl rfl rfl (by decide) u_2 (Opd.gd hG u_0) (.cons (Opd.gd hG u_1) .nil)) (ite_self _).symm)<|o_g (Qg_f rfl (fun hG=>Zbt Zd1 rfl rfl u_0))<|o_g (Qg_f rfl (fun hG=>Zcs ty_3 rfl rfl (Opd.gd hG u_0)))<|o_g (Qg_f rfl (fun hG=>Zho rfl rfl (Opd.gd hG u_0) (Opd.gd hG u_1)))<|o_p rfl (Zde rfl rfl u_0 (fun hz=>(Opd.gd (bNF hz) u_1)))<|o_n) (fun a g hst hb=>?_)
     refine wp_cond_split (hst.bool 5 rfl) (fun hc17=>?_) (fun hc17=>?_)
     ·replace H1:=Zx hc17 H1
      refine r_s (L:=[(0,_)]) (T:=[⟨[],_,[],[],[4]⟩]) (F:=[.o 0,.p 0 0]) (hst.pick [0] rfl) hb Zb
       (Qa rfl c_b<|o_n) (fun a g hst hb=>?_)
      refine wp_ret ?_
      refine Zcb ?_
      refine Zt ?_
      refine Zt ?_
      refine Zcb ?_
      refine Zt ?_
      refine Zt ?_
      obtain rfl:=Option.some.inj H1
      obtain rfl:=Option.some.inj H0
      exact Zml rfl hst hb (Zm (s:=4)) (hst.at 1 rfl) (hst.at 0 rfl)
     ·replace H1:=Zw hc17 H1
      refine wp_skip ?_
      refine Z7 ?_
      refine Zg ?_
      refine r_g (L:=[(0,_),(5,_),(22,_),(23,_),(24,_)]) (T:=[⟨[.o 4],_,[],[],[56]⟩,⟨[.p 0 0],_,[],[0],[24]⟩]) (F:=[.o 0,.o 1,.o 2,.o 3,.p 1 0]) (hst.pick [0,1,2,3,4] rfl) hb Zb
       (o_p rfl (Zca rfl rfl u_0 c_i rfl)<|Qm rfl u_0<|o_n) (fun a g hst hb=>?_)
      exact ⟨n,Nat.lt_succ_self _,x6,(IntKind.i64.wrap (x7 + (1:Int))),g,rfl,(hst.pick [0,1,2,3,4] rfl),hb,H1⟩
    ·replace H1:=Zw hc8 H1
     refine wp_exit ?_
     refine Z2 ?_
     refine Z2 ?_
     refine Zbk ?_
     exact ⟨x6,g,rfl,(hst.pick [0] rfl),hb,Option.some.inj H1⟩
theorem Zhw (a0:Zi) (a1:List Za) {r:Zi × Bool} (h:Zdu a0 a1=some r):FnMR Tryd.prog 11 Zq a0 r.1 [(Zc.sl.pd a1)] (Zn r.2):=by
 obtain ⟨u,h1,h2⟩:=Zd h
 obtain rfl:=Option.some.inj h2
 exact Zgz a0 a1 h1
theorem Zfl (a0:List Zr) {r:Bool} (h:Zc2 a0=some r):FnOk Tryd.prog 4 [(Zp.sl.pd a0)] (Zn r):=by
 have H0:=h
 unfold Zc2 at H0
 clear h
 refine Zco (N:=42) Tryd.func4 rfl rfl (Qe rfl) rfl rfl (fun a g0 hst hb=>?_)
 refine r_s (T:=[⟨[],_,[],[],[2]⟩]) (F:=[.o 0]) hst hb Zb
  (Qa rfl c_b<|o_n) (fun a g hst hb=>?_)
 refine wp_seq ?_
 obtain ⟨r1,h2,H0⟩:=Zd H0
 refine r_s (T:=[⟨[],_,[],[],[8]⟩,⟨[.p 0 0],_,[],[0],[9]⟩]) (F:=[.o 0,.p 1 0]) hst hb Zb
  (o_p rfl (Zbu en_7 (Zf3 h2) rfl rfl .nil)<|Qn rfl u_0<|o_n) (fun a g hst hb=>?_)
 refine wp_cond_split (hst.bool 1 rfl) (fun hc3=>?_) (fun hc3=>?_)
 ·replace H0:=Zx hc3 H0
  refine r_s (L:=[]) (T:=[⟨[],_,[],[],[2]⟩]) (F:=[.p 0 0]) (hst.pick [] rfl) hb Zb
   (Qa rfl c_b<|o_n) (fun a g hst hb=>?_)
  refine wp_ret ?_
  refine Zt ?_
  obtain rfl:=Option.some.inj H0
  exact Z6 rfl hst hb (Zm (s:=2)) (hst.at 0 rfl)
 ·replace H0:=Zw hc3 H0
  refine wp_skip ?_
  refine Zg ?_
  refine wp_seq ?_
  obtain ⟨r4,h5,H0⟩:=Zd H0
  refine r_s (L:=[(0,_)]) (T:=[⟨[.o 0],_,[],[],[10]⟩,⟨[.p 0 0],_,[],[0],[11]⟩]) (F:=[.o 0,.p 1 0]) (hst.pick [0] rfl) hb Zb
   (Qm rfl u_0<|o_p rfl (Zbu en_8 (Zhf _ h5) rfl rfl (.cons u_0 .nil))<|o_n) (fun a g hst hb=>?_)
  refine wp_cond_split (hst.bool 1 rfl) (fun hc6=>?_) (fun hc6=>?_)
  ·replace H0:=Zx hc6 H0
   refine r_s (L:=[]) (T:=[⟨[],_,[],[],[2]⟩]) (F:=[.p 0 0]) (hst.pick [] rfl) hb Zb
    (Qa rfl c_b<|o_n) (fun a g hst hb=>?_)
   refine wp_ret ?_
   refine Zt ?_
   obtain rfl:=Option.some.inj H0
   exact Z6 rfl hst hb (Zm (s:=2)) (hst.at 0 rfl)
  ·replace H0:=Zw hc6 H0
   refine wp_skip ?_
   refine Zg ?_
   refine r_s (L:=[(0,_)]) (T:=[⟨[],[(3,(Zy none Zq 3 (⟨[]⟩:Zi)))],[4,1000004],[],[3]⟩]) (F:=[.o 0,.p 0 0]) (hst.pick [0] rfl) hb Zb
    (o_p rfl (Zi8 (by kernel_rfl) rfl rfl)<|o_n) (fun a g hst hb=>?_)
   refine r_s (T:=[⟨[],[(4,(Zc.sl.pd ([]:List Za)))],[],[],[4]⟩]) (F:=[.o 0,.o 1,.p 0 0]) hst hb Zb
    (o_p rfl (Zem rfl rfl (Opd.c (fun g=>Zh1 g)))<|o_n) (fun a g hst hb=>?_)
   refine wp_seq ?_
   refine r_s (T:=[⟨[.o 0],_,[],[],[12]⟩,⟨[.p 0 0],_,[],[0],[13]⟩,⟨[],_,[],[],[14]⟩]) (F:=[.o 1,.o 2,.p 0 0,.p 1 0,.p 2 0]) hst hb Zb
    (Qm rfl u_0<|o_p rfl (Zbl Tryd.underlying22 rfl rfl u_0)<|Qm rfl c_i<|o_n) (fun a g hst hb=>?_)
   obtain ⟨z19,hz1,H0⟩:=Zd H0
   refine Zb0 (fun a w=>∃ (y17:Zi) (y18:List Za) (g:G),w=g.w ∧ St 42 [(3,(Zy none Zq 3 y17)),(4,(Zc.sl.pd y18))] a g ∧ Base g0 g ∧ (y17,y18)=z19) ?_ ?_
   ·rintro a w ⟨y17,y18,g,rfl,hst,hb,rfl⟩
    refine Zg ?_
    refine r_s (T:=[⟨[.o 0],[(24,(Zy none Zq 24 y17))],[25,1000025],[],[24]⟩,⟨[.p 0 0],[(7,(Zy none Zq 24 y17))],[],[0],[7]⟩]) (F:=[.o 0,.o 1,.p 1 0]) hst hb Zb
     (o_p rfl (Zi9 Zp3 (Ze5 _) rfl rfl u_0)<|Qa rfl u_0<|o_n) (fun a g hst hb=>?_)
    refine wp_seq ?_
    refine r_s (T:=[⟨[],_,[],[],[25]⟩]) (F:=[.o 0,.o 1,.o 2,.p 0 0]) hst hb Zb
     (Qm rfl c_i<|o_n) (fun a g hst hb=>?_)
    obtain ⟨z28,hz2,H0⟩:=Zd H0
    refine Zb0 (fun a w=>∃ (y26:Zi) (y27:Zi) (g:G),w=g.w ∧ St 42 [(3,(Zy none Zq 3 y26)),(4,(Zc.sl.pd y18)),(7,(Zy none Zq 24 y27))] a g ∧ Base g0 g ∧ (y26,y27)=z28) ?_ ?_
    ·rintro a w ⟨y26,y27,g,rfl,hst,hb,rfl⟩
     refine Zg ?_
     obtain ⟨r29,h30,H0⟩:=Zd H0;obtain ⟨r31,h32,H0⟩:=Zd H0;obtain ⟨r33,h34,H0⟩:=Zd H0
     refine r_s (T:=⟨[.o 0],[(30,(pInt .i64 r29)),(3,(Zy none Zq 3 y26))],[4,1000004],[],[3,30]⟩ :: ⟨[.p 0 0],_,[],[0],[31]⟩ :: ⟨[.p 1 0],_,[],[0,1],[32]⟩ :: ⟨[.p 2 0,.p 0 1],[(33,(pIf (r29 == (0:Int)) (Zl.sl.pd r31))),(3,(Zy none Zq 3 y26))],[4,1000004],[0,1,2],[3,33]⟩ :: ⟨[.p 2 0,.p 3 0],_,[],Lr 4,[34]⟩ :: ⟨[.p 2 0,.p 4 0],_,[],Lr 5,[35]⟩ :: ⟨[.p 2 0,.p 5 0],_,[],Lr 6,[36]⟩ :: ⟨[.p 6 0],_,[],Lr 7,[37]⟩ :: ⟨[.p 7 0,.o 2],[(38,(pIf ((r29 == (0:Int)) && ((r31.length:Int) == (0:Int))) (Zy none Zq 24 y27)))],[],Lr 8,[38]⟩ :: ⟨[.p 7 0,.o 1],_,[],Lr 8,[39]⟩ :: ⟨[.p 7 0,.p 8 0,.p 9 0,.o 2],[(40,(pIf ((r29 == (0:Int)) && ((r31.length:Int) == (0:Int))) (Zn r33.2))),(7,(Zy none Zq 24 (if ((r29 == (0:Int)) && ((r31.length:Int) == (0:Int)))=true then r33.1 else y27)))],[25,1000025],Lr 10,[7,38,40]⟩ :: ⟨[.p 7 0,.p 10 0],_,[],Lr 11,[41]⟩ :: ⟨[.p 11 0],_,[],Lr 12,[2]⟩ :: []) (F:=[.p 12 0]) hst hb Zb
      (o_p rfl (Zb1 Zma (Zel _ h30) rfl rfl rfl (by decide) u_0 u_0 .nil)<|o_p rfl (Zcd rfl rfl u_0 c_i)<|Qm rfl u_0<|o_g (OT.guardMR (r29 == (0:Int)) (gT (r29 == (0:Int))).1 (gT (r29 == (0:Int))).2 rfl rfl rfl (by decide) u_0 (fun hG=>Zb1 Zj6 (Zek _ (Zdb h32 hG)) rfl rfl rfl (by decide) u_0 u_0 .nil) (ite_self _).symm)<|o_g (Qg_t rfl (fun hG=>Zbl Tryd.underlying41 rfl rfl (Opd.gd hG u_0)))<|o_g (Qg_t rfl (fun hG=>Zcd rfl rfl (Opd.gd hG u_0) c_i))<|o_p rfl (Zei rfl rfl u_0 (fun hz=>(Opd.gd hz u_1)))<|Qm rfl u_0<|o_g (Qg_t rfl (fun hG=>Zbo rfl rfl u_0))<|o_g (Qg_t rfl (fun hG=>Zbo rfl rfl u_0))<|o_g (OT.guardMR ((r29 == (0:Int)) && ((r31.length:Int) == (0:Int))) (gT ((r29 == (0:Int)) && ((r31.length:Int) == (0:Int)))).1 (gT ((r29 == (0:Int)) && ((r31.length:Int) == (0:Int)))).2 rfl rfl rfl (by decide) u_2 (fun hG=>Zb1 Zsi (Zhw _ _ (Zdb h34 hG)) rfl rfl rfl (by decide) u_2 (Opd.gd hG u_0) (.cons (Opd.gd hG u_1) .nil)) rfl)<|o_p rfl (Zei rfl rfl u_0 (fun hz=>(Opd.gd hz u_1)))<|Qa rfl u_0<|o_n) (fun a g hst hb=>?_)
     refine wp_ret ?_
     obtain rfl:=Option.some.inj H0
     exact Z6 rfl hst hb (Zm (s:=2)) (hst.at 0 rfl)
    ·refine wp_block ?_
     refine wp_loop_ghost (fun n a w=>∃ (x20:Zi) (x21:Zi) (x22:Int) (g:G),w=g.w ∧ St 42 [(3,(Zy none Zq 3 x20)),(4,(Zc.sl.pd y18)),(7,(Zy none Zq 24 x21)),(25,(pInt .i64 x22))] a g ∧ Base g0 g ∧ Z3 n x20 x21 x22=some z28) (Int.toNat ((20:Int) - (0:Int)) + 1) ⟨y17,y17,(0:Int),g,rfl,(hst.pick [0,1,2,3] rfl),hb,hz2⟩ (fun n a w hI=>?_)
     obtain ⟨x20,x21,x22,g,rfl,hst,hb,H1⟩:=hI
     cases n with
     | zero=>exact absurd H1 (by simp [Z3])
     | succ n =>
      rw [Z3] at H1
      refine r_s (T:=[⟨[.o 3],_,[],[],[26]⟩]) (F:=[.o 0,.o 1,.o 2,.o 3,.p 0 0]) hst hb Zb
       (o_p rfl (Zdf rfl rfl u_0 c_i)<|o_n) (fun a g hst hb=>?_)
      refine wp_seq ?_
      refine wp_cond_split (hst.bool 4 rfl) (fun hc23=>?_) (fun hc23=>?_)
      ·replace H1:=Zx hc23 H1
       refine wp_skip ?_
       refine Zg ?_
       refine wp_seq ?_
       refine wp_block ?_
       obtain ⟨r24,h25,H1⟩:=Zd H1
       refine r_g (L:=[(3,_),(4,_),(7,_),(25,_)]) (T:=[⟨[],_,[],[],[27]⟩,⟨[.o 0,.p 0 0],[(28,(pTup [])),(3,(Zy none Zq 3 r24.1))],[4,1000004],[0],[3,28]⟩]) (F:=[.p 1 1,.o 1,.o 2,.o 3]) (hst.pick [0,1,2,3] rfl) hb Zb
        (o_p rfl (Zns rfl rfl )<|o_p rfl (Zb1 en_9 (Zdt _ _ h25) rfl rfl rfl (by decide) u_0 u_0 (.cons u_1 .nil))<|o_n) (fun a g hst hb=>?_)
       refine Z7 ?_
       refine Zg ?_
       refine r_g (T:=[⟨[.o 3],_,[],[],[29]⟩,⟨[.p 0 0],_,[],[0],[25]⟩]) (F:=[.o 0,.o 1,.o 2,.p 1 0]) hst hb Zb
        (o_p rfl (Zca rfl rfl u_0 c_i rfl)<|Qm rfl u_0<|o_n) (fun a g hst hb=>?_)
       exact ⟨n,Nat.lt_succ_self _,r24.1,x21,(IntKind.i64.wrap (x22 + (1:Int))),g,rfl,(hst.pick [0,1,2,3] rfl),hb,H1⟩
      ·replace H1:=Zw hc23 H1
       refine wp_exit ?_
       refine Z2 ?_
       refine Z2 ?_
       refine Zbk ?_
       exact ⟨x20,x21,g,rfl,(hst.pick [0,1,2] rfl),hb,Option.some.inj H1⟩
   ·refine wp_block ?_
    refine wp_loop_ghost (fun n a w=>∃ (x7:Zi) (x8:List Za) (x9:Int) (g:G),w=g.w ∧ St 42 [(3,(Zy none Zq 3 x7)),(4,(Zc.sl.pd x8)),(12,(Zp.sl.pd a0)),(13,(pInt .i64 (a0.length:Int))),(14,(pInt .i64 x9))] a g ∧ Base g0 g ∧ Zbc a0 n x7 x8 x9=some z19) (Int.toNat ((a0.length:Int) - (0:Int)) + 1) ⟨(⟨[]⟩:Zi),([]:List Za),(0:Int),g,rfl,(hst.pick [0,1,2,3,4] rfl),hb,hz1⟩ (fun n a w hI=>?_)
    obtain ⟨x7,x8,x9,g,rfl,hst,hb,H1⟩:=hI
    cases n with
    | zero=>exact absurd H1 (by simp [Zbc])
    | succ n =>
     rw [Zbc] at H1
     refine r_s (T:=[⟨[.o 4,.o 3],_,[],[],[15]⟩]) (F:=[.o 0,.o 1,.o 2,.o 3,.o 4,.p 0 0]) hst hb Zb
      (o_p rfl (Zdf rfl rfl u_0 u_1)<|o_n) (fun a g hst hb=>?_)
     refine wp_seq ?_
     refine wp_cond_split (hst.bool 5 rfl) (fun hc10=>?_) (fun hc10=>?_)
     ·replace H1:=Zx hc10 H1
      refine wp_skip ?_
      refine Zg ?_
      refine wp_seq ?_
      refine wp_block ?_
      obtain ⟨e11,h12,H1⟩:=Zd H1
      refine r_s (L:=[(3,_),(4,_),(12,_),(13,_),(14,_)]) (T:=[⟨[.o 2,.o 4],_,[],[],[16]⟩,⟨[.p 0 0],_,[],[0],[17]⟩,⟨[],[(6,(pBox Zp 6 (default:Zr)))],[7],[],[6]⟩,⟨[.p 1 0,.p 2 0],_,[7],[0,1,2],[6]⟩]) (F:=[.o 0,.o 1,.p 3 0,.o 2,.o 3,.o 4]) (hst.pick [0,1,2,3,4] rfl) hb Zb
       (o_p rfl (Zu Tryd.underlying22 Zpy rfl rfl u_0 u_1 h12)<|Ql rfl Zhq u_0<|o_p rfl (Zc5 (zs:=[.int .i64 0,.slice none 0 0]) (by kernel_rfl) (fun g=>Zih g) rfl rfl)<|o_p rfl (Zcz Zhq rfl rfl u_1 u_0)<|o_n) (fun a g hst hb=>?_)
      obtain ⟨r13,h14,H1⟩:=Zd H1
      refine r_s (T:=[⟨[.o 2],_,[],[],[18]⟩,⟨[.o 0,.p 0 0],[(19,(pTup [])),(3,(Zy none Zq 3 r13.1))],[4,1000004],[0],[3,19]⟩]) (F:=[.p 1 1,.o 1,.o 2,.o 3,.o 4,.o 5]) hst hb Zb
       (Ql rfl Zhq u_0<|o_p rfl (Zb1 en_9 (Zdt _ _ h14) rfl rfl rfl (by decide) u_0 u_0 (.cons u_1 .nil))<|o_n) (fun a g hst hb=>?_)
      obtain ⟨r15,h16,H1⟩:=Zd H1
      refine r_g (T:=[⟨[.o 1],_,[],[],[20]⟩,⟨[.o 2],_,[],[],[21]⟩,⟨[.p 0 0,.p 1 0],_,[],[0,1],[22]⟩,⟨[.p 2 0],_,[],[0,1,2],[4]⟩]) (F:=[.o 0,.p 3 0,.o 3,.o 4,.o 5]) hst hb Zb
       (Qm rfl u_0<|Ql rfl Zhq u_0<|o_p rfl (Zbu Zsd (Zg0 _ _ h16) rfl rfl (.cons u_0 (.cons u_1 .nil)))<|Qa rfl u_0<|o_n) (fun a g hst hb=>?_)
      refine Z7 ?_
      refine Zg ?_
      refine r_g (T:=[⟨[.o 4],_,[],[],[23]⟩,⟨[.p 0 0],_,[],[0],[14]⟩]) (F:=[.o 0,.o 1,.o 2,.o 3,.p 1 0]) hst hb Zb
       (o_p rfl (Zca rfl rfl u_0 c_i rfl)<|Qm rfl u_0<|o_n) (fun a g hst hb=>?_)
      exact ⟨n,Nat.lt_succ_self _,r13.1,r15,(IntKind.i64.wrap (x9 + (1:Int))),g,rfl,(hst.pick [0,1,2,3,4] rfl),hb,H1⟩
     ·replace H1:=Zw hc10 H1
      refine wp_exit ?_
      refine Z2 ?_
      refine Z2 ?_
      refine Zbk ?_
      exact ⟨x7,x8,g,rfl,(hst.pick [0,1] rfl),hb,Option.some.inj H1⟩
end Go.CL
namespace Go.CL
open Go
abbrev BI:=List (ByteArray × Int)
abbrev RM:=Za
def Zeg (k:Int):Bool:=((((((((k == (7:Int)) || (k == (8:Int))) || (k == (10:Int))) || (k == (11:Int))) || (k == (13:Int))) || (k == (14:Int))) || (k == (18:Int))) || (k == (21:Int)))
theorem Zqz (k:Int):∃ o,Ze3 k=some o:=by
 unfold Ze3 Ziv
 by_cases h:k ≤ 0 ∨ 22 ≤ k
 ·rw [if_pos (by simpa using h)];exact ⟨_,rfl⟩
 ·rw [if_neg (by simpa using h)]
  obtain ⟨n,rfl⟩:=Int.eq_ofNat_of_zero_le (show 0 ≤ k by omega)
  have hl:n < g_0.length:=by have:g_0.length=22:=rfl;omega
  have:idx g_0 (n:Int)=some g_0[n]:=Zeb hl
  rw [this];exact ⟨_,rfl⟩
theorem Zn9 {k o:Int} (h:Ze3 k=some o):Zd9 o k=some (Zeg k):=by
 have key:∀ b:Bool,(if b=true then ((Ze3 k).bind fun r10=>some (r10 == o)) else some false)=some b:=by
  intro b;cases b <;> simp [h]
 unfold Zd9 Zbm Zeg
 simp only [key]
 cases (k == (7:Int)) <;> cases (k == (8:Int)) <;> cases (k == (10:Int)) <;> cases (k == (11:Int)) <;> cases (k == (13:Int)) <;> cases (k == (14:Int)) <;> cases (k == (18:Int)) <;> cases (k == (21:Int)) <;> rfl
def bump (nx:BI) (k:ByteArray):BI:=setS nx k (IntKind.i64.wrap ((getS nx k).getD 0 + 1))
theorem Zlc (nx:BI) (a:Zo):Zfn nx a=some (if Zeg a.Kind then bump nx a.Key else nx):=by
 obtain ⟨o,ho⟩:=Zqz a.Kind
 unfold Zfn
 rw [ho,Option.bind_some,Zn9 ho,Option.bind_some];rfl
def Zd4 (l:List Zo):List ByteArray:=(l.filter fun a=>Zeg a.Kind).map (·.Key)
def Zb7 (l:List Zz):List ByteArray:=l.flatMap fun d=>Zd4 d.Acts
theorem Zij (a:Zo) (l:List Zo):Zd4 (a :: l)=if Zeg a.Kind then a.Key :: Zd4 l else Zd4 l:=by
 unfold Zd4
 by_cases h:Zeg a.Kind=true <;> simp [h]
theorem Zhi:∀ (l:List Zo) (nx:BI),Zd7 l nx=some ((Zd4 l).foldl bump nx)
 | [],nx=>rfl
 | a :: l,nx=>by
  rw [Zd7,Zlc,Option.bind_some,Zhi l,Zij]
  split <;> rfl
theorem Zgt:∀ (l:List Zz) (nx:BI),Zef l nx=some ((Zb7 l).foldl bump nx)
 | [],nx=>rfl
 | d :: l,nx=>by
  rw [Zef,Zhi,Option.bind_some,Zgt l]
  show _=some ((Zd4 d.Acts ++ Zb7 l).foldl bump nx)
  rw [List.foldl_append]
def Zce (m:BI) (x:Zr):BI:=(Zb7 x.Deals).foldl bump (Zh m)
theorem Zer {h:Zi} {x:Zr} (hl:(Zce h.by_ x).length ≤ 1000000000):Z5 h x=some (⟨Zbf (Zce h.by_ x)⟩,()):=by
 unfold Z5
 rw [Zgt,Option.bind_some]
 show (Z0 ⟨Zce h.by_ x⟩).bind _=_
 unfold Z0
 rw [if_pos (by show (Zce h.by_ x).length * 24 ≤ _;omega)]
 rfl
theorem Zol (m:BI) (k:ByteArray) (n:Int):(setS m k n).length ≤ m.length + 1:=by
 unfold setS
 have:=List.length_filter_le (fun e:ByteArray × Int=>decide (e.1 ≠ k)) m
 simp only [List.length_cons];omega
theorem Zjd:∀ (l:List ByteArray) (m:BI),(l.foldl bump m).length ≤ m.length + l.length
 | [],m=>by simp
 | k :: l,m=>by
  have:=Zjd l (bump m k)
  have h2:(bump m k).length ≤ m.length + 1:=Zol ..
  simp only [List.foldl_cons,List.length_cons];omega
theorem Zor (m:BI):(Zh m).length ≤ m.length:=by
 unfold Zh
 rw [List.length_map];exact List.length_filter_le ..
def toP (l:List RM):BI:=l.map fun m=>(m.Key,m.Score)
def cv (m:RM):Ze:=⟨m.Key,m.Score⟩
def rinc (k:ByteArray) (m:RM):RM:=if sEq m.Key k=true then { m with Score:=IntKind.i64.wrap (m.Score + 1) } else m
def rhas (out:List RM) (k:ByteArray):Bool:=out.any fun m=>sEq m.Key k
def Zc8 (out:List RM) (k:ByteArray):List RM:=if rhas out k=true then out.map (rinc k) else out ++ [⟨k,1⟩]
def Zcc (l:List RM):List RM:=(l.filter fun m=>decide (2 ≤ m.Score)).map fun m=>⟨m.Key,IntKind.i64.wrap (Int.tdiv m.Score 2)⟩
theorem Znt {α:Type} (p r:List α) (m:α):idx (p ++ m :: r) (p.length:Int)=some m:=by
 rw [idxn];simp
theorem Zia (e:Zo):∀ (r p:List RM) (b:Bool),(p ++ r).length ≤ 1000000000 → Z9 e (r.length + 1) (p ++ r) b (p.length:Int)=some (p ++ r.map (rinc e.Key),b || rhas r e.Key)
 | [],p,b,h=>by
  rw [Z9,if_neg (by simp)];simp [rhas]
 | m :: r,p,b,h=>by
  have hl:p.length < (p ++ m :: r).length:=by simp
  simp only [List.length_append,List.length_cons] at h
  rw [List.length_cons,Z9,if_pos (by simp;omega),Znt,Option.bind_some,Option.bind_some,Option.bind_some]
  unfold Zcr
  rw [wr1 (by omega)]
  by_cases hk:sEq m.Key e.Key=true
  ·rw [if_pos hk]
   have hs:(p ++ m :: r).set (p.length:Int).toNat { m with Score:=IntKind.i64.wrap (m.Score + 1) }=(p ++ [rinc e.Key m]) ++ r:=by
    rw [Int.toNat_natCast,List.set_append_right _ _ (Nat.le_refl _),Nat.sub_self]
    simp [rinc,hk]
   rw [hs]
   have:=Zia e r (p ++ [rinc e.Key m]) true (by simp;omega)
   rw [List.length_append,List.length_singleton] at this
   rw [this]
   simp [rhas,hk]
  ·rw [if_neg hk]
   have hm:rinc e.Key m=m:=by simp [rinc,hk]
   have:=Zia e r (p ++ [m]) b (by simp;omega)
   rw [List.length_append,List.length_singleton,List.append_assoc,List.singleton_append] at this
   rw [this]
   simp [rhas,hk,hm]
theorem Zqm (e:Zo) (x:List RM) (h:x.length ≤ 1000000000):Z9 e (Int.toNat ((x.length:Int) - (0:Int)) + 1) x false (0:Int)=some (x.map (rinc e.Key),rhas x e.Key):=by
 have:=Zia e x [] false (by simpa using h)
 rw [show Int.toNat ((x.length:Int) - (0:Int)) + 1=x.length + 1 by omega]
 simpa using this
theorem Zjq (x:List RM) (k:ByteArray):(Zc8 x k).length ≤ x.length + 1:=by
 unfold Zc8
 split <;> simp
theorem Zfe:∀ (l:List ByteArray) (x:List RM),(l.foldl Zc8 x).length ≤ x.length + l.length
 | [],x=>by simp
 | k :: l,x=>by
  have:=Zfe l (Zc8 x k)
  have:=Zjq x k
  simp only [List.foldl_cons,List.length_cons];omega
theorem Zi0 {k:ByteArray} {x:List RM} (h:rhas x k=false):x.map (rinc k)=x:=by
 refine (List.map_congr_left fun m hm=>?_).trans (List.map_id x)
 have:sEq m.Key k=false:=by
  cases hq:sEq m.Key k with
  | false=>rfl
  | true=>have:rhas x k=true:=List.any_eq_true.2 ⟨m,hm,hq⟩;rw [h] at this;cases this
 simp [rinc,this]
theorem Zg5 {a1:Zr} {x16:Int} {d:Zz} (hd:idx a1.Deals x16=some d) (hw:d.Acts.length ≤ maxLen):∀ (n i:Nat) (x:List RM),i + n=d.Acts.length → x.length + (Zd4 (d.Acts.drop i)).length ≤ 900000000 → Zba a1 x16 (n + 1) x (i:Int)=some ((Zd4 (d.Acts.drop i)).foldl Zc8 x)
 | 0,i,x,h,hx=>by
  rw [Zba,hd,Option.bind_some,if_neg (by simp;omega),List.drop_of_length_le (by omega)];rfl
 | n + 1,i,x,h,hx=>by
  have hi:i < d.Acts.length:=by omega
  simp only [maxLen] at hw
  have hdr:=List.drop_eq_getElem_cons hi
  rw [Zba,hd,Option.bind_some,if_pos (by simp;omega),Option.bind_some,Zeb hi,Option.bind_some]
  have hsp:Zdh d.Acts[i].Kind=some (Zeg d.Acts[i].Kind):=rfl
  rw [hsp,Option.bind_some]
  rw [hdr,Zij] at hx ⊢
  unfold Zb5
  by_cases hs:Zeg d.Acts[i].Kind=true
  ·rw [if_pos hs] at hx ⊢
   rw [hs]
   simp only [Bool.not_true,Bool.false_eq_true,if_false]
   simp only [List.length_cons] at hx
   rw [Zqm _ _ (by omega)]
   simp only [Option.bind_some]
   have ih:=Zg5 hd (by simp only [maxLen];exact hw) n (i + 1) (Zc8 x d.Acts[i].Key) (by omega) (by have:=Zjq x d.Acts[i].Key;omega)
   rw [wr1 (by omega),List.foldl_cons]
   by_cases hh:rhas x d.Acts[i].Key=true
   ·rw [hh]
    simp only [Bool.not_true,Bool.false_eq_true,if_false]
    rw [← ih]
    unfold Zc8
    rw [if_pos hh]
   ·have hh':rhas x d.Acts[i].Key=false:=by simpa using hh
    rw [hh']
    simp only [Bool.not_false,if_true]
    have hmap:x.map (rinc d.Acts[i].Key)=x:=Zi0 hh'
    rw [hmap,if_pos (by simp only [List.length_singleton];omega),← ih]
    unfold Zc8
    rw [if_neg hh]
  ·rw [if_neg hs] at hx ⊢
   have hs':Zeg d.Acts[i].Kind=false:=by simpa using hs
   rw [hs']
   simp only [Bool.not_false,if_true]
   rw [wr1 (by omega)]
   exact Zg5 hd (by simp only [maxLen];exact hw) n (i + 1) x (by omega) hx
theorem Zir {a1:Zr} (hw:∀ d ∈ a1.Deals,d.Acts.length ≤ maxLen) (hwl:a1.Deals.length ≤ maxLen):∀ (n i:Nat) (x:List RM),i + n=a1.Deals.length → x.length + (Zb7 (a1.Deals.drop i)).length ≤ 900000000 → Zbp a1 (n + 1) x (i:Int)=some ((Zb7 (a1.Deals.drop i)).foldl Zc8 x)
 | 0,i,x,h,hx=>by
  rw [Zbp,if_neg (by simp;omega),List.drop_of_length_le (by omega)];rfl
 | n + 1,i,x,h,hx=>by
  have hi:i < a1.Deals.length:=by omega
  have hwl':=hwl
  simp only [maxLen] at hwl'
  have hdr:=List.drop_eq_getElem_cons hi
  rw [hdr] at hx ⊢
  have hcons:Zb7 (a1.Deals[i] :: a1.Deals.drop (i + 1))=Zd4 a1.Deals[i].Acts ++ Zb7 (a1.Deals.drop (i + 1)):=rfl
  rw [hcons] at hx ⊢
  rw [List.length_append] at hx
  rw [Zbp,if_pos (by simp;omega)]
  have hd:idx a1.Deals (i:Int)=some a1.Deals[i]:=Zeb hi
  rw [hd]
  have hf:(Option.elim (some a1.Deals[i]) 0 fun e20=>Int.toNat ((e20.Acts.length:Int) - (0:Int)) + 1)=a1.Deals[i].Acts.length + 1:=by
   show Int.toNat ((a1.Deals[i].Acts.length:Int) - (0:Int)) + 1=_
   omega
  rw [hf]
  have:=Zg5 hd (hw _ (List.getElem_mem hi)) a1.Deals[i].Acts.length 0 x (by omega) (by rw [List.drop_zero];omega)
  rw [List.drop_zero] at this
  rw [show ((0:Nat):Int)=0 from rfl] at this
  rw [this]
  simp only [Option.bind_some]
  rw [wr1 (by omega),List.foldl_append]
  exact Zir hw hwl n (i + 1) _ (by omega) (by have:=Zfe (Zd4 a1.Deals[i].Acts) x;omega)
theorem Zmw (m:RM) (l:List RM):Zcc (m :: l)=if decide (2 ≤ m.Score)=true then ⟨m.Key,IntKind.i64.wrap (Int.tdiv m.Score 2)⟩ :: Zcc l else Zcc l:=by
 unfold Zcc
 by_cases h:2 ≤ m.Score <;> simp [h]
theorem Zhe (a0:List RM) (hl:a0.length ≤ 900000000):∀ (n i:Nat) (x:List RM),i + n=a0.length → x.length + n ≤ 900000000 → Zbe a0 (n + 1) x (i:Int)=some (x ++ Zcc (a0.drop i))
 | 0,i,x,h,hx=>by
  rw [Zbe,if_neg (by simp;omega),List.drop_of_length_le (by omega)];simp [Zcc]
 | n + 1,i,x,h,hx=>by
  have hi:i < a0.length:=by omega
  rw [Zbe,if_pos (by simp;omega),Zeb hi,List.drop_eq_getElem_cons hi,Zmw]
  simp only [Option.bind_some]
  unfold Zcq
  rw [wr1 (by omega)]
  by_cases hs:decide (2 ≤ a0[i].Score)=true
  ·rw [if_pos hs,if_pos hs,if_pos (by simp;omega)]
   rw [Zhe a0 hl n (i + 1) _ (by omega) (by simp;omega)]
   simp
  ·rw [if_neg hs,if_neg hs]
   exact Zhe a0 hl n (i + 1) x (by omega) (by omega)
def hotR (a b:RM):Bool:=decide (b.Score < a.Score) || (a.Score == b.Score && sLt a.Key b.Key)
theorem Zka (a b:RM):hotR a b=true ↔ Hot (cv a) (cv b):=by
 unfold hotR Hot cv
 simp
def insR (e:RM) (x:List RM):List RM:=x.takeWhile (fun m=>hotR m e) ++ e :: x.dropWhile (fun m=>hotR m e)
theorem Zky {a0:List RM} {x2:Int} {e:RM} (he:idx a0 x2=some e):∀ (r p:List RM),(p ++ r).length ≤ 1000000000 → Zbj a0 (p ++ r) x2 (r.length + 1) (p.length:Int)=some (((p.length + (r.takeWhile fun m=>hotR m e).length:Nat)):Int)
 | [],p,h=>by
  have hd:decide ((p.length:Int) < ((p ++ ([]:List RM)).length:Int))=false:=by simp
  rw [List.length_nil,Zbj,hd]
  simp [gd_f]
 | m :: r,p,h=>by
  simp only [List.length_append,List.length_cons] at h
  rw [List.length_cons,Zbj,show decide ((p.length:Int) < ((p ++ m :: r).length:Int))=true by simp;omega]
  simp only [gd_t,Bool.true_and]
  rw [Znt,Option.bind_some,he,Option.bind_some]
  have hh:Zdm m e=some (hotR m e):=rfl
  rw [hh,Option.bind_some]
  by_cases hq:hotR m e=true
  ·rw [if_pos hq,wr1 (by omega),List.takeWhile_cons_of_pos (p:=fun m=>hotR m e) hq]
   have:=Zky he r (p ++ [m]) (by simp;omega)
   rw [List.length_append,List.length_singleton,List.append_assoc,List.singleton_append] at this
   rw [this]
   simp only [List.length_cons]
   congr 2;omega
  ·rw [if_neg hq,List.takeWhile_cons_of_neg (p:=fun m=>hotR m e) hq]
   simp
theorem Zpo (e:RM) (x:List RM):(insR e x).length=x.length + 1:=by
 have:=congrArg List.length (List.takeWhile_append_dropWhile (p:=fun m=>hotR m e) (l:=x))
 unfold insR
 simp only [List.length_append,List.length_cons] at this ⊢
 omega
theorem Zog (e:RM) (x:List RM):x.take (x.takeWhile fun m=>hotR m e).length=x.takeWhile (fun m=>hotR m e) ∧ x.drop (x.takeWhile fun m=>hotR m e).length=x.dropWhile (fun m=>hotR m e):=by
 have h:=List.takeWhile_append_dropWhile (p:=fun m=>hotR m e) (l:=x)
 constructor
 ·conv=>lhs;arg 2;rw [← h]
  exact List.take_left
 ·conv=>lhs;arg 2;rw [← h]
  exact List.drop_left
theorem Zjo (a0:List RM):∀ (n i:Nat) (x:List RM),i + n=a0.length → x.length + n ≤ 900000000 → a0.length ≤ 900000000 → Zbi a0 (n + 1) x (i:Int)=some ((a0.drop i).foldl (fun x e=>insR e x) x)
 | 0,i,x,h,hx,hl=>by
  rw [Zbi,if_neg (by simp;omega),List.drop_of_length_le (by omega)];rfl
 | n + 1,i,x,h,hx,hl=>by
  have hi:i < a0.length:=by omega
  have he:idx a0 (i:Int)=some a0[i]:=Zeb hi
  rw [Zbi,if_pos (by simp;omega)]
  have hk:=Zky he x [] (by simp;omega)
  rw [List.nil_append] at hk
  rw [show Int.toNat ((x.length:Int) - (0:Int)) + 1=x.length + 1 by omega,show ((0:Int))=((([]:List RM).length:Nat):Int) from rfl,hk]
  have htl:(x.takeWhile fun m=>hotR m a0[i]).length ≤ x.length:=(List.takeWhile_sublist _).length_le
  simp only [Option.bind_some,List.length_nil,Nat.zero_add]
  have hc:=Zh0 (xs:=x) (l:=0) (h:=(x.takeWhile fun m=>hotR m a0[i]).length) (by omega) htl
  have hc2:=Zh0 (xs:=x) (l:=(x.takeWhile fun m=>hotR m a0[i]).length) (h:=x.length) htl (Nat.le_refl _)
  obtain ⟨t1,t2⟩:=Zog a0[i] x
  rw [hc,Option.bind_some,List.drop_zero,Nat.sub_zero,t1,he]
  rw [if_pos (by omega),Option.bind_some,if_pos (by simp;omega),hc2,Option.bind_some,t2,List.take_of_length_le (by rw [← t2,List.length_drop];omega)]
  rw [if_pos (by rw [← t2];simp;omega),wr1 (by omega),List.drop_eq_getElem_cons hi,List.foldl_cons]
  have hins:([] ++ List.takeWhile (fun m=>hotR m a0[i]) x ++ [a0[i]] ++ List.dropWhile (fun m=>hotR m a0[i]) x)=insR a0[i] x:=by simp [insR]
  rw [hins]
  exact Zjo a0 n (i + 1) _ (by omega) (by rw [Zpo];omega) hl
def Zgf (l:List RM):List RM:=l.foldl (fun x e=>insR e x) []
theorem Zn4 {l:List RM} (hl:l.length ≤ 400000000):Zcy l=some (Zgf l):=by
 unfold Zcy
 have:=Zjo l l.length 0 [] (by omega) (by simp;omega) (by omega)
 rw [show ((0:Nat):Int)=(0:Int) from rfl,List.drop_zero] at this
 rw [show Int.toNat ((l.length:Int) - (0:Int)) + 1=l.length + 1 by omega,this]
 rfl
theorem Zn5 (e:RM) (x:List RM):(insR e x).Perm (e :: x):=by
 unfold insR
 refine List.perm_middle.trans (List.Perm.cons _ ?_)
 rw [List.takeWhile_append_dropWhile]
theorem Zgr:∀ (l x:List RM),(l.foldl (fun x e=>insR e x) x).Perm (l ++ x)
 | [],x=>.refl _
 | e :: l,x=>(Zgr l (insR e x)).trans (((Zn5 e x).append_left l).trans List.perm_middle)
theorem Zgi (l:List RM):(Zgf l).Perm l:=by have:=Zgr l [];rwa [List.append_nil] at this
def OrdR (l:List RM):Prop:=l.Pairwise fun x y=>¬ Hot (cv y) (cv x)
theorem Zlk {e:RM}:∀ {x:List RM} {y:RM} {r:List RM},x.dropWhile (fun m=>hotR m e)=y :: r → hotR y e=false
 | [],y,r,h=>by cases h
 | m :: x,y,r,h=>by
  by_cases hq:hotR m e=true
  ·rw [List.dropWhile_cons_of_pos (p:=fun m=>hotR m e) hq] at h;exact Zlk h
  ·rw [List.dropWhile_cons_of_neg (p:=fun m=>hotR m e) hq] at h
   injection h with h1 h2
   rw [← h1];simpa using hq
theorem Zm5 {e:RM}:∀ {x:List RM} {y:RM},y ∈ x.takeWhile (fun m=>hotR m e) → hotR y e=true
 | [],y,h=>by cases h
 | m :: x,y,h=>by
  by_cases hq:hotR m e=true
  ·rw [List.takeWhile_cons_of_pos (p:=fun m=>hotR m e) hq] at h
   rcases List.mem_cons.1 h with rfl | h
   ·exact hq
   ·exact Zm5 h
  ·rw [List.takeWhile_cons_of_neg (p:=fun m=>hotR m e) hq] at h;cases h
theorem Zon {e:RM} {x:List RM} (h:OrdR x):OrdR (insR e x):=by
 unfold OrdR insR at *
 rw [← List.takeWhile_append_dropWhile (p:=fun m=>hotR m e) (l:=x)] at h
 obtain ⟨h1,h2,h3⟩:=List.pairwise_append.1 h
 have hd:∀ y ∈ x.dropWhile (fun m=>hotR m e),¬ Hot (cv y) (cv e):=by
  cases hq:x.dropWhile (fun m=>hotR m e) with
  | nil=>intro y hy;cases hy
  | cons a r =>
   rw [hq] at h2
   have ha:¬ Hot (cv a) (cv e):=fun hh=>by
    have:=Zlk hq
    rw [(Zka a e).2 hh] at this;cases this
   intro y hy
   rcases List.mem_cons.1 hy with rfl | hy
   ·exact ha
   ·exact Hot.ntr ((List.pairwise_cons.1 h2).1 y hy) ha
 refine List.pairwise_append.2 ⟨h1,List.pairwise_cons.2 ⟨hd,h2⟩,fun a ha b hb=>?_⟩
 rcases List.mem_cons.1 hb with rfl | hb
 ·have hh:=(Zka a b).1 (Zm5 ha)
  exact fun k=>Hot.irr _ (k.trans hh)
 ·exact h3 a ha b hb
theorem Zjs (l:List RM):OrdR (Zgf l):=by
 have go:∀ (l x:List RM),OrdR x → OrdR (l.foldl (fun x e=>insR e x) x):=by
  intro l
  induction l with
  | nil=>intro x h;exact h
  | cons e l ih=>intro x h;exact ih _ (Zon h)
 exact go l [] List.Pairwise.nil
theorem Zk8 {l:List RM} {x:Zr} (hw:∀ d ∈ x.Deals,d.Acts.length ≤ maxLen) (hwl:x.Deals.length ≤ maxLen) (hl:l.length + (Zb7 x.Deals).length ≤ 400000000) :
  Zb9 l x=some ((Zgf ((Zb7 x.Deals).foldl Zc8 (Zcc l))).take 256):=by
 have hrl:(Zcc l).length ≤ l.length:=by
  unfold Zcc
  rw [List.length_map];exact List.length_filter_le ..
 unfold Zb9
 have h1:=Zhe l (by omega) l.length 0 [] (by omega) (by simp;omega)
 rw [show ((0:Nat):Int)=(0:Int) from rfl,List.drop_zero,List.nil_append] at h1
 rw [show Int.toNat ((l.length:Int) - (0:Int)) + 1=l.length + 1 by omega,h1,Option.bind_some]
 have h2:=Zir (a1:=x) hw hwl x.Deals.length 0 (Zcc l) (by omega) (by rw [List.drop_zero];omega)
 rw [show ((0:Nat):Int)=(0:Int) from rfl,List.drop_zero] at h2
 simp only []
 rw [show Int.toNat ((x.Deals.length:Int) - (0:Int)) + 1=x.Deals.length + 1 by omega,h2,Option.bind_some]
 have hb:=Zfe (Zb7 x.Deals) (Zcc l)
 rw [Zn4 (by omega),Option.bind_some]
 have hsl:=(Zgi ((Zb7 x.Deals).foldl Zc8 (Zcc l))).length_eq
 unfold Zcp
 by_cases hg:256 < (Zgf ((Zb7 x.Deals).foldl Zc8 (Zcc l))).length
 ·rw [if_pos (by simp;omega)]
  have:=Zh0 (xs:=Zgf ((Zb7 x.Deals).foldl Zc8 (Zcc l))) (l:=0) (h:=256) (by omega) (by omega)
  rw [show ((0:Nat):Int)=(0:Int) from rfl,show ((256:Nat):Int)=(256:Int) from rfl,List.drop_zero,Nat.sub_zero] at this
  rw [this];rfl
 ·rw [if_neg (by simp;omega),List.take_of_length_le (by omega)]
theorem Zoq (l:List RM):Zh (toP l)=toP (Zcc l):=by
 unfold Zh toP Zcc
 rw [List.filter_map,List.map_map,List.map_map]
 congr 1
theorem Zdx (l:List RM):(toP l).map (·.1)=l.map (·.Key):=by simp [toP]
theorem Znl {m m':BI} (hk:(m.map (·.1)).Nodup) (h:m.Perm m') (k:ByteArray):getS m k=getS m' k:=by
 have hk':=((h.map (·.1)).nodup_iff).1 hk
 by_cases he:∃ n,(k,n) ∈ m
 ·obtain ⟨n,hn⟩:=he
  rw [Zej hk hn,Zej hk' (h.mem_iff.1 hn)]
 ·rw [Zdw fun e hm heq=>he ⟨e.2,by rw [← heq];exact hm⟩,Zdw fun e hm heq=>he ⟨e.2,by rw [← heq];exact h.mem_iff.2 hm⟩]
theorem Znn {m m':BI} (h:m.Perm m') (k:ByteArray) (n:Int):(setS m k n).Perm (setS m' k n):=(h.filter _).cons _
theorem Znp {m m':BI} (hk:(m.map (·.1)).Nodup) (h:m.Perm m') (k:ByteArray):(bump m k).Perm (bump m' k):=by
 unfold bump
 rw [Znl hk h];exact Znn h _ _
theorem Zjl {m:BI} (hk:(m.map (·.1)).Nodup) (k:ByteArray):((bump m k).map (·.1)).Nodup:=Zg9 hk k _
theorem Zgm:∀ (l:List ByteArray) {m:BI},(m.map (·.1)).Nodup → ((l.foldl bump m).map (·.1)).Nodup
 | [],_,h=>h
 | k :: l,_,h=>Zgm l (Zjl h k)
theorem Zmc {m:BI} (hk:(m.map (·.1)).Nodup):((Zh m).map (·.1)).Nodup:=by
 unfold Zh
 rw [List.map_map]
 exact List.Nodup.sublist (List.Sublist.map _ List.filter_sublist) hk
theorem Zkk {x:List RM} (hk:(x.map (·.Key)).Nodup) (k:ByteArray):(bump (toP x) k).Perm (toP (Zc8 x k)):=by
 have hkp:((toP x).map (·.1)).Nodup:=by rw [Zdx];exact hk
 unfold Zc8
 by_cases h:rhas x k=true
 ·rw [if_pos h]
  obtain ⟨m,hm,hq⟩:=List.any_eq_true.1 h
  have hmk:=Zex.1 hq
  subst hmk
  obtain ⟨A,B,rfl⟩:=List.append_of_mem hm
  rw [List.map_append,List.map_cons] at hk
  obtain ⟨n1,n2,n3⟩:=List.nodup_append.1 hk
  obtain ⟨n4,n5⟩:=List.nodup_cons.1 n2
  have nA:∀ u ∈ A,u.Key ≠ m.Key:=fun u hu=>n3 u.Key (List.mem_map.2 ⟨u,hu,rfl⟩) m.Key (List.mem_cons_self ..)
  have nB:∀ u ∈ B,u.Key ≠ m.Key:=fun u hu e=>n4 (by rw [← e];exact List.mem_map.2 ⟨u,hu,rfl⟩)
  have hg:getS (toP (A ++ m :: B)) m.Key=some m.Score:=Zej hkp (List.mem_map.2 ⟨m,by simp,rfl⟩)
  have rA:A.map (rinc m.Key)=A:=Zi0 (by
   rw [Bool.eq_false_iff];intro hh
   obtain ⟨u,hu,h2⟩:=List.any_eq_true.1 hh
   exact nA u hu (Zex.1 h2))
  have rB:B.map (rinc m.Key)=B:=Zi0 (by
   rw [Bool.eq_false_iff];intro hh
   obtain ⟨u,hu,h2⟩:=List.any_eq_true.1 hh
   exact nB u hu (Zex.1 h2))
  have hmm:rinc m.Key m={ m with Score:=IntKind.i64.wrap (m.Score + 1) }:=by simp [rinc,Zgh]
  rw [List.map_append,List.map_cons,rA,rB,hmm]
  unfold bump setS
  rw [hg,Option.getD_some]
  have hf:(toP (A ++ m :: B)).filter (fun e=>decide (e.1 ≠ m.Key))=toP A ++ toP B:=by
   unfold toP
   rw [List.map_append,List.map_cons,List.filter_append,List.filter_cons_of_neg (by simp)]
   have f1:(A.map fun m=>(m.Key,m.Score)).filter (fun e=>decide (e.1 ≠ m.Key))=A.map fun m=>(m.Key,m.Score):=List.filter_eq_self.2 fun e he=>by
    obtain ⟨u,hu,rfl⟩:=List.mem_map.1 he
    simpa using nA u hu
   have f2:(B.map fun m=>(m.Key,m.Score)).filter (fun e=>decide (e.1 ≠ m.Key))=B.map fun m=>(m.Key,m.Score):=List.filter_eq_self.2 fun e he=>by
    obtain ⟨u,hu,rfl⟩:=List.mem_map.1 he
    simpa using nB u hu
   rw [f1,f2]
  rw [hf]
  show ((m.Key,IntKind.i64.wrap (m.Score + 1)) :: (toP A ++ toP B)).Perm (toP (A ++ _ :: B))
  unfold toP
  rw [List.map_append,List.map_cons]
  exact List.perm_middle.symm
 ·rw [if_neg h]
  have hno:∀ e ∈ toP x,e.1 ≠ k:=fun e he heq=>by
   obtain ⟨u,hu,rfl⟩:=List.mem_map.1 he
   exact h (List.any_eq_true.2 ⟨u,hu,Zex.2 heq⟩)
  unfold bump
  rw [Zdw hno,Zkh hno]
  have hw:IntKind.i64.wrap ((none:Option Int).getD 0 + 1)=1:=by decide
  rw [hw]
  show ((k,(1:Int)) :: toP x).Perm (toP (x ++ [⟨k,1⟩]))
  unfold toP
  rw [List.map_append]
  exact (List.perm_append_comm (l₁:=[(k,(1:Int))]))
theorem Zmz {x:List RM} (hk:(x.map (·.Key)).Nodup) (k:ByteArray):((Zc8 x k).map (·.Key)).Nodup:=by
 have hkp:((toP x).map (·.1)).Nodup:=by rw [Zdx];exact hk
 have:=(((Zkk hk k).map (·.1)).nodup_iff).1 (Zjl hkp k)
 rwa [Zdx] at this
theorem Zhd:∀ (l:List ByteArray) {m:BI} {x:List RM},(x.map (·.Key)).Nodup → m.Perm (toP x) → (l.foldl bump m).Perm (toP (l.foldl Zc8 x))
 | [],_,_,_,h=>h
 | k :: l,m,x,hk,h=>by
  have hkp:((toP x).map (·.1)).Nodup:=by rw [Zdx];exact hk
  have hkm:=((h.map (·.1)).nodup_iff).2 hkp
  exact Zhd l (Zmz hk k) ((Znp hkm h k).trans (Zkk hk k))
theorem Zly (l:List RM):(toP l).map Zs=l.map cv:=by unfold toP;rw [List.map_map];rfl
theorem Zqg (l:List RM):Z8 ((toP l).map Zs)=(Zgf l).map cv:=by
 rw [Zly]
 refine Ze9 ((Zcu _).trans ((Zgi l).symm.map cv)) (Ze0 _) ?_
 exact List.pairwise_map.2 (Zjs l)
structure Same12 (h:Zi) (w:List RM):Prop where
 eq:h.by_=toP w
 keys:(w.map (·.Key)).Nodup
 ord:OrdR w
 len:w.length ≤ 256
theorem Zoi {h:Zi} {w:List RM} {x:Zr} (hs:Same12 h w) (hw:∀ d ∈ x.Deals,d.Acts.length ≤ maxLen) (hwl:x.Deals.length ≤ maxLen) (hl:(Zb7 x.Deals).length ≤ 300000000) :
  ∃ h' w',Z5 h x=some (h',()) ∧ Zb9 w x=some w' ∧ Same12 h' w' ∧ h'.by_=Zbf (Zce h.by_ x):=by
 have h1:=hs.len
 have hrl:(Zcc w).length ≤ w.length:=by
  unfold Zcc
  rw [List.length_map];exact List.length_filter_le ..
 have hkr:((Zcc w).map (·.Key)).Nodup:=by
  unfold Zcc
  rw [List.map_map]
  exact List.Nodup.sublist (List.Sublist.map _ List.filter_sublist) hs.keys
 have hp:(Zce h.by_ x).Perm (toP ((Zb7 x.Deals).foldl Zc8 (Zcc w))):=by
  unfold Zce
  exact Zhd _ hkr (by rw [hs.eq,Zoq])
 have hb:=Zfe (Zb7 x.Deals) (Zcc w)
 have hfl:(Zce h.by_ x).length ≤ 1000000000:=by
  rw [hp.length_eq];unfold toP;rw [List.length_map];omega
 refine ⟨_,_,Zer hfl,Zk8 hw hwl (by omega),?_,rfl⟩
 have hkb:(((Zb7 x.Deals).foldl Zc8 (Zcc w)).map (·.Key)).Nodup:=by
  have hkm:((toP (Zcc w)).map (·.1)).Nodup:=by rw [Zdx];exact hkr
  have:=(((Zhd (Zb7 x.Deals) hkr (.refl _)).map (·.1)).nodup_iff).1 (Zgm _ hkm)
  rwa [Zdx] at this
 refine ⟨?_,?_,?_,?_⟩
 ·show Zbf (Zce h.by_ x)=_
  unfold Zbf
  rw [Zf6 (hp.map Zs),Zqg,← List.map_take,List.map_map]
  rfl
 ·exact List.Nodup.sublist (List.Sublist.map _ (List.take_sublist ..)) ((((Zgi _).map (·.Key)).nodup_iff).2 hkb)
 ·exact List.Pairwise.sublist (List.take_sublist ..) (Zjs _)
 ·exact List.length_take_le ..
theorem Zl4 (r:Zv):∃ c,Zc0 r=some c:=by
 unfold Zc0
 by_cases h:(decide ((100:Int) < (r.List.length:Int)) || decide ((1000:Int) < (r.Text.size:Int)))=true
 ·rw [if_pos h];exact ⟨_,rfl⟩
 ·rw [if_neg h]
  have hl100:r.List.length ≤ 100:=by
   simp only [Bool.or_eq_true,decide_eq_true_eq,not_or] at h
   omega
  have go:∀ (n i:Nat),i + n=r.List.length → ∃ z,Zbq r (n + 1) (i:Int)=some z:=by
   intro n
   induction n with
   | zero=>intro i hi;rw [Zbq,if_neg (by simp;omega)];exact ⟨_,rfl⟩
   | succ n ih =>
    intro i hi
    rw [Zbq,if_pos (by simp;omega),Zeb (show i < r.List.length by omega),Option.bind_some]
    split
    ·exact ⟨_,rfl⟩
    ·rw [wr1 (by omega)];exact ih (i + 1) (by omega)
  obtain ⟨z,hz⟩:=go r.List.length 0 (by omega)
  rw [show ((0:Nat):Int)=0 from rfl] at hz
  rw [show Int.toNat ((r.List.length:Int) - (0:Int)) + 1=r.List.length + 1 by omega,hz]
  cases z <;> exact ⟨_,rfl⟩
theorem Zmd (a:Zo):∃ c,Zdg a=some c:=by
 unfold Zdg
 obtain ⟨c,hc⟩:=Zl4 a.Make
 have:∃ y,gd (!(decide ((200:Int) < (a.Key.size:Int)) || decide ((1000:Int) < (a.S.size:Int)))) (Zc0 a.Make)=some y:=by
  rw [hc]
  cases (!(decide ((200:Int) < (a.Key.size:Int)) || decide ((1000:Int) < (a.S.size:Int)))) with
  | true=>exact ⟨c,rfl⟩
  | false=>exact ⟨_,rfl⟩
 obtain ⟨y,hy⟩:=this
 rw [hy,Option.bind_some]
 split <;> exact ⟨_,rfl⟩
theorem Zmq (d:Zz):∃ c,Zdn d=some c ∧ (¬ 0 < c → d.Acts.length ≤ 40):=by
 unfold Zdn
 by_cases h:40 < d.Acts.length
 ·rw [if_pos (by simp;omega)];exact ⟨1,rfl,fun h=>by omega⟩
 ·rw [if_neg (by simp;omega)]
  have go:∀ (n i:Nat),i + n=d.Acts.length → ∃ z,Zbs d (n + 1) (i:Int)=some z:=by
   intro n
   induction n with
   | zero=>intro i hi;rw [Zbs,if_neg (by simp;omega)];exact ⟨_,rfl⟩
   | succ n ih =>
    intro i hi
    obtain ⟨c,hc⟩:=Zmd (d.Acts[i]'(by omega))
    rw [Zbs,if_pos (by simp;omega),Zeb (show i < d.Acts.length by omega),Option.bind_some,hc,Option.bind_some]
    split
    ·exact ⟨_,rfl⟩
    ·rw [wr1 (by omega)];exact ih (i + 1) (by omega)
  obtain ⟨z,hz⟩:=go d.Acts.length 0 (by omega)
  rw [show ((0:Nat):Int)=0 from rfl] at hz
  rw [show Int.toNat ((d.Acts.length:Int) - (0:Int)) + 1=d.Acts.length + 1 by omega,hz]
  cases z <;> exact ⟨_,rfl,fun _=>by omega⟩
theorem Zmv (l:List Zz):∃ c,Zdk l=some c ∧ (¬ 0 < c → l.length ≤ 40 ∧ ∀ d ∈ l,d.Acts.length ≤ 40):=by
 unfold Zdk
 by_cases h:40 < l.length
 ·rw [if_pos (by simp;omega)];exact ⟨1,rfl,fun h=>by omega⟩
 ·rw [if_neg (by simp;omega)]
  have go:∀ (n i:Nat),i + n=l.length → ∃ z,Zbr l (n + 1) (i:Int)=some z ∧ ((z=.inl 1) ∨ (z=.inr () ∧ ∀ d ∈ l.drop i,d.Acts.length ≤ 40)):=by
   intro n
   induction n with
   | zero=>intro i hi;rw [Zbr,if_neg (by simp;omega),List.drop_of_length_le (by omega)];exact ⟨_,rfl,.inr ⟨rfl,fun d hd=>by cases hd⟩⟩
   | succ n ih =>
    intro i hi
    have hil:i < l.length:=by omega
    obtain ⟨c,hc,hc2⟩:=Zmq l[i]
    rw [Zbr,if_pos (by simp;omega),Zeb hil,Option.bind_some,hc,Option.bind_some]
    by_cases h0:0 < c
    ·rw [if_pos (by simpa using h0)];exact ⟨_,rfl,.inl rfl⟩
    ·rw [if_neg (by simpa using h0),wr1 (by omega)]
     obtain ⟨z,hz,hz2⟩:=ih (i + 1) (by omega)
     refine ⟨z,hz,hz2.imp id fun ⟨e,hd⟩=>⟨e,fun d hm=>?_⟩⟩
     rw [List.drop_eq_getElem_cons hil] at hm
     rcases List.mem_cons.1 hm with rfl | hm
     ·exact hc2 h0
     ·exact hd d hm
  obtain ⟨z,hz,hz2⟩:=go l.length 0 (by omega)
  rw [show ((0:Nat):Int)=0 from rfl] at hz
  rw [show Int.toNat ((l.length:Int) - (0:Int)) + 1=l.length + 1 by omega,hz]
  rcases hz2 with rfl | ⟨rfl,hd⟩
  ·exact ⟨1,rfl,fun h=>by omega⟩
  ·exact ⟨0,rfl,fun _=>⟨by omega,hd⟩⟩
structure LotOk (x:Zr):Prop where
 deals:x.Deals.length ≤ 40
 acts:∀ d ∈ x.Deals,d.Acts.length ≤ 40
theorem Znz (l:List Zo):(Zd4 l).length ≤ l.length:=by
 unfold Zd4
 rw [List.length_map];exact List.length_filter_le ..
theorem Zjk:∀ {l:List Zz},(∀ d ∈ l,d.Acts.length ≤ 40) → (Zb7 l).length ≤ l.length * 40
 | [],_=>by simp [Zb7]
 | d :: l,h=>by
  have h1:=Znz d.Acts
  have h2:=h d (List.mem_cons_self ..)
  have h3:=Zjk (l:=l) fun d hd=>h d (List.mem_cons_of_mem _ hd)
  show (Zd4 d.Acts ++ Zb7 l).length ≤ (l.length + 1) * 40
  rw [List.length_append];omega
theorem LotOk.hits {x:Zr} (h:LotOk x):(Zb7 x.Deals).length ≤ 1600:=by
 have:=Zjk h.acts
 have:=h.deals
 omega
theorem Zmp (l:List Zr):Zc3 l=some true ∨ (Zc3 l=some false ∧ l.length ≤ 12 ∧ ∀ x ∈ l,LotOk x):=by
 unfold Zc3
 by_cases h:12 < l.length
 ·rw [if_pos (by simp;omega)];exact .inl rfl
 ·rw [if_neg (by simp;omega)]
  have go:∀ (n i:Nat),i + n=l.length → Zbn l (n + 1) (i:Int)=some (.inl true) ∨ (Zbn l (n + 1) (i:Int)=some (.inr ()) ∧ ∀ x ∈ l.drop i,LotOk x):=by
   intro n
   induction n with
   | zero=>intro i hi;rw [Zbn,if_neg (by simp;omega),List.drop_of_length_le (by omega)];exact .inr ⟨rfl,fun d hd=>by cases hd⟩
   | succ n ih =>
    intro i hi
    have hil:i < l.length:=by omega
    obtain ⟨c,hc,hc2⟩:=Zmv l[i].Deals
    rw [Zbn,if_pos (by simp;omega),Zeb hil,Option.bind_some,hc,Option.bind_some]
    by_cases h0:0 < c
    ·rw [if_pos (by simpa using h0)];exact .inl rfl
    ·rw [if_neg (by simpa using h0),wr1 (by omega)]
     refine (ih (i + 1) (by omega)).imp id fun ⟨e,hd⟩=>⟨e,fun d hm=>?_⟩
     rw [List.drop_eq_getElem_cons hil] at hm
     rcases List.mem_cons.1 hm with rfl | hm
     ·exact ⟨(hc2 h0).1,(hc2 h0).2⟩
     ·exact hd d hm
  have h2:=go l.length 0 (by omega)
  rw [show ((0:Nat):Int)=0 from rfl] at h2
  rw [show Int.toNat ((l.length:Int) - (0:Int)) + 1=l.length + 1 by omega]
  rcases h2 with h2 | ⟨h2,h3⟩
  ·rw [h2];exact .inl rfl
  ·rw [h2];exact .inr ⟨rfl,by omega,h3⟩
theorem Zlv (e:ByteArray × Int):Zbf [e]=[e]:=by
 unfold Zbf Z8
 rw [List.map_cons,List.map_nil,List.mergeSort_singleton]
 rfl
def keyA:ByteArray:=⟨#[97]⟩
def actA:Zo:={ Kind:=(7:Int),Key:=(⟨#[97]⟩:ByteArray),N:=(1:Int),X:=(0:Nat),S:=ByteArray.empty,Make:=(default:Zv),Must:=false }
def lotA:Zr:={ Number:=(0:Int),Deals:=[{ Acts:=[actA,actA] },{ Acts:=[actA] }] }
def lotE:Zr:={ Number:=(0:Int),Deals:=[] }
theorem finA:Zce [] lotA=[(keyA,3)]:=by kernel_rfl
theorem finE:Zce [(keyA,3)] lotE=[(keyA,1)]:=by kernel_rfl
theorem Zsc:Z5 ⟨[]⟩ lotA=some (⟨[(keyA,3)]⟩,()):=by
 rw [Zer (by show (Zce [] lotA).length ≤ _;rw [finA];decide)]
 show some ((⟨Zbf (Zce [] lotA)⟩:Zi),())=_
 rw [finA,Zlv]
theorem Zr6:Z5 ⟨[(keyA,3)]⟩ lotE=some (⟨[(keyA,1)]⟩,()):=by
 rw [Zer (by show (Zce [(keyA,3)] lotE).length ≤ _;rw [finE];decide)]
 show some ((⟨Zbf (Zce [(keyA,3)] lotE)⟩:Zi),())=_
 rw [finE,Zlv]
theorem allA:Z0 ⟨[(keyA,1)]⟩=some [⟨keyA,1⟩]:=by
 unfold Z0 Z8
 rw [if_pos (by decide)]
 show some (List.mergeSort [Zs (keyA,1)] _)=_
 rw [List.mergeSort_singleton];rfl
theorem Zo7:Zcv=some true:=by
 unfold Zcv
 show (Z5 ⟨[]⟩ lotA).bind _=_
 rw [Zsc,Option.bind_some]
 show (Z5 ⟨[(keyA,3)]⟩ lotE).bind _=_
 rw [Zr6,Option.bind_some]
 show (Z0 ⟨[(keyA,1)]⟩).bind _=_
 rw [allA,Option.bind_some]
 kernel_rfl
theorem Same12.all {h:Zi} {w:List RM} (hs:Same12 h w):Z0 h=some (w.map cv):=by
 have hl:=hs.len
 unfold Z0
 rw [hs.eq,if_pos (by unfold toP;rw [List.length_map];omega),Zly]
 congr 1
 exact Ze9 (Zcu _) (Ze0 _) (List.pairwise_map.2 hs.ord)
theorem Same12.blen {h:Zi} {w:List RM} (hs:Same12 h w):Zb6 h=some (w.length:Int):=by
 unfold Zb6
 rw [hs.eq];unfold toP;rw [List.length_map]
theorem Same12.score {h:Zi} {w:List RM} (hs:Same12 h w) {m:RM} (hm:m ∈ w):Zb3 h m.Key=some m.Score:=by
 unfold Zb3
 have hg:getS (toP w) m.Key=some m.Score:=Zej (by rw [Zdx];exact hs.keys) (List.mem_map.2 ⟨m,hm,rfl⟩)
 rw [hs.eq,hg];rfl
theorem Zlm {h:Zi} {w:List RM} (hs:Same12 h w):∀ (n i:Nat),i + n=w.length → Zbw w (w.map cv) (n + 1) h (i:Int)=some (.inr h)
 | 0,i,hi=>by rw [Zbw,if_neg (by simp;omega)]
 | n + 1,i,hi=>by
  have hl:=hs.len
  have hil:i < w.length:=by omega
  have h2:idx (w.map cv) (i:Int)=some (cv w[i]):=by rw [idxn,List.getElem?_map,List.getElem?_eq_getElem hil];rfl
  rw [Zbw,if_pos (by simp;omega),Zeb hil,Option.bind_some,h2,Option.bind_some]
  have e1:sEq (cv w[i]).Key w[i].Key=true:=Zgh _
  have e2:((cv w[i]).Score != w[i].Score)=false:=by simp [cv]
  simp only [e1,e2,Bool.not_true,Bool.not_false,gd_t,Bool.or_false,Option.bind_some,Bool.or_self]
  rw [hs.score (List.getElem_mem hil),Option.bind_some]
  simp only [bne_self_eq_false,Bool.false_eq_true,if_false]
  rw [wr1 (by omega)]
  exact Zlm hs n (i + 1) (by omega)
theorem Same12.is {h:Zi} {w:List RM} (hs:Same12 h w):Zdu h w=some (h,true):=by
 unfold Zdu Zdy
 rw [hs.all,Option.bind_some,hs.blen]
 have hlen:(((w.map cv).length:Int) != (w.length:Int))=false:=by simp
 simp only [hlen,Bool.not_false,gd_t,Option.bind_some,bne_self_eq_false,Bool.or_self,Bool.false_eq_true,if_false]
 have:=Zlm hs w.length 0 (by omega)
 rw [show ((0:Nat):Int)=0 from rfl] at this
 rw [show Int.toNat ((w.length:Int) - (0:Int)) + 1=w.length + 1 by omega,this]
 rfl
theorem Zpq:Same12 ⟨[]⟩ []:=⟨rfl,List.nodup_nil,List.Pairwise.nil,by simp⟩
theorem LotOk.wf {x:Zr} (h:LotOk x):(∀ d ∈ x.Deals,d.Acts.length ≤ maxLen) ∧ x.Deals.length ≤ maxLen:=⟨fun d hd=>by have:=h.acts d hd;simp only [maxLen];omega,by have:=h.deals;simp only [maxLen];omega⟩
theorem Zrm {h:Zi} {w:List RM} {x:Zr} (hs:Same12 h w) (hx:LotOk x):∃ h' w',Z5 h x=some (h',()) ∧ Zb9 w x=some w' ∧ Same12 h' w' ∧ h'.by_=Zbf (Zce h.by_ x) :=
 Zoi hs hx.wf.1 hx.wf.2 (by have:=hx.hits;omega)
def val (m:BI) (k:ByteArray):Int:=(getS m k).getD 0
def cnt (k:ByteArray) (l:List ByteArray):Nat:=(l.filter fun x=>decide (x=k)).length
theorem Zov (k x:ByteArray) (l:List ByteArray):cnt k (x :: l)=(if x=k then 1 else 0) + cnt k l:=by
 unfold cnt
 by_cases h:x=k <;> simp [h] <;> omega
theorem Zrl (k:ByteArray) (l:List ByteArray):cnt k l ≤ l.length:=List.length_filter_le ..
theorem Zh4 {k k':ByteArray} (h:k ≠ k'):∀ m:BI,getS (m.filter fun e=>decide (e.1 ≠ k)) k'=getS m k'
 | []=>rfl
 | e :: m=>by
  by_cases he:e.1=k
  ·rw [List.filter_cons_of_neg (by simp [he]),Zh4 h m]
   simp only [getS]
   rw [if_neg (fun h2=>h (he.symm.trans h2))]
  ·rw [List.filter_cons_of_pos (by simp [he])]
   simp only [getS]
   rw [Zh4 h m]
theorem Zm9 (m:BI) (k k':ByteArray) (n:Int):getS (setS m k n) k'=if k=k' then some n else getS m k':=by
 unfold setS
 simp only [getS]
 split
 ·rfl
 ·rename_i h;exact Zh4 h m
theorem Zpn (m:BI) (k k':ByteArray):val (bump m k) k'=if k=k' then IntKind.i64.wrap (val m k + 1) else val m k':=by
 unfold val bump
 rw [Zm9]
 split <;> rfl
theorem Zje (k:ByteArray):∀ (l:List ByteArray) (m:BI),0 ≤ val m k → val m k + l.length ≤ 1000000000 → val (l.foldl bump m) k=val m k + cnt k l
 | [],m,h0,h1=>by simp [cnt]
 | x :: l,m,h0,h1=>by
  simp only [List.length_cons] at h1
  have hv:val (bump m x) k=val m k + (if x=k then 1 else 0):=by
   rw [Zpn]
   by_cases hx:x=k
   ·subst hx;rw [if_pos rfl,if_pos rfl,wr (by omega) (by omega)]
   ·rw [if_neg hx,if_neg hx];omega
  rw [List.foldl_cons,Zje k l (bump m x) (by rw [hv];split <;> omega) (by rw [hv];split <;> omega),hv,Zov]
  split <;> omega
theorem Zh9 (k:ByteArray):∀ {m:BI},(m.map (·.1)).Nodup → 0 ≤ val m k → val m k ≤ 1000000000 → val (Zh m) k=Int.tdiv (val m k) 2
 | [],_,_,_=>rfl
 | e :: m,hk,h0,h1=>by
  obtain ⟨n1,n2⟩:=List.nodup_cons.1 hk
  by_cases he:e.1=k
  ·have hv:val (e :: m) k=e.2:=by unfold val;simp [getS,he]
   rw [hv] at h0 h1 ⊢
   by_cases h2:1 < e.2
   ·have hh:Zh (e :: m)=(e.1,IntKind.i64.wrap (Int.tdiv e.2 2)) :: Zh m:=by simp [Zh,h2]
    rw [hh]
    unfold val
    simp only [getS]
    rw [if_pos he,Option.getD_some,Int.tdiv_eq_ediv_of_nonneg h0,wr (by omega) (by omega)]
   ·have hh:Zh (e :: m)=Zh m:=by simp [Zh,h2]
    rw [hh]
    have:getS (Zh m) k=none:=Zdw fun u hu heq=>by
     obtain ⟨u2,h3,h4⟩:=Zja ⟨u,hu,heq⟩
     exact n1 (List.mem_map.2 ⟨u2,h3,h4.trans he.symm⟩)
    unfold val
    rw [this,Option.getD_none,Int.tdiv_eq_ediv_of_nonneg h0]
    omega
  ·have hv:val (e :: m) k=val m k:=by unfold val;simp [getS,he]
   rw [hv] at h0 h1 ⊢
   rw [← Zh9 k n2 h0 h1]
   by_cases h2:1 < e.2
   ·have hh:Zh (e :: m)=(e.1,IntKind.i64.wrap (Int.tdiv e.2 2)) :: Zh m:=by simp [Zh,h2]
    rw [hh]
    unfold val
    simp only [getS]
    rw [if_neg he]
   ·have hh:Zh (e :: m)=Zh m:=by simp [Zh,h2]
    rw [hh]
theorem Zhn {m:BI} (hk:(m.map (·.1)).Nodup) {e:ByteArray × Int} (he:e ∈ m):val m e.1=e.2:=by
 unfold val
 have hg:getS m e.1=some e.2:=Zej hk he
 rw [hg];rfl
def un (x:Ze):ByteArray × Int:=(x.Key,x.Score)
theorem Ziz (m:BI):((Z8 (m.map Zs)).map un).Perm m:=by
 have:=(Zcu (m.map Zs)).map un
 rw [List.map_map] at this
 have e:(un ∘ Zs)=id:=rfl
 rw [e,List.map_id] at this
 exact this
theorem Zlw {m:BI} {e:ByteArray × Int} (h:e ∈ Zbf m):e ∈ m:=by
 obtain ⟨x,hx,rfl⟩:=List.mem_map.1 h
 exact (Ziz m).mem_iff.1 (List.mem_map.2 ⟨x,List.mem_of_mem_take hx,rfl⟩)
theorem Zki {m:BI} (hk:(m.map (·.1)).Nodup):((Zbf m).map (·.1)).Nodup:=by
 have h2:=(((Ziz m).map (·.1)).nodup_iff).2 hk
 unfold Zbf
 rw [List.map_map] at *
 exact List.Nodup.sublist (List.Sublist.map _ (List.take_sublist ..)) h2
theorem Zli (m:BI):(Zbf m).length=min 256 m.length:=by
 unfold Zbf
 rw [List.length_map,List.length_take,(Zcu _).length_eq,List.length_map]
theorem Zlr {m:BI} (hk:(m.map (·.1)).Nodup) (k:ByteArray):val (Zbf m) k=val m k ∨ (val (Zbf m) k=0 ∧ (Zbf m).length=256):=by
 by_cases h:∃ e ∈ Zbf m,e.1=k
 ·obtain ⟨e,he,rfl⟩:=h
  left
  rw [Zhn (Zki hk) he,Zhn hk (Zlw he)]
 ·have h0:val (Zbf m) k=0:=by
   unfold val
   rw [Zdw fun e he heq=>h ⟨e,he,heq⟩];rfl
  by_cases h2:∃ e ∈ m,e.1=k
  ·right
   refine ⟨h0,?_⟩
   rw [Zli]
   rcases Nat.lt_or_ge m.length 256 with hl | hl
   ·obtain ⟨e,he,hek⟩:=h2
    refine absurd ⟨e,?_,hek⟩ h
    have:=(Ziz m).mem_iff.2 he
    obtain ⟨x,hx,rfl⟩:=List.mem_map.1 this
    refine List.mem_map.2 ⟨x,?_,rfl⟩
    rw [List.take_of_length_le (by rw [(Zcu _).length_eq,List.length_map];omega)]
    exact hx
   ·omega
  ·left
   rw [h0]
   unfold val
   rw [Zdw fun e he heq=>h2 ⟨e,he,heq⟩];rfl
structure HOk (m:BI):Prop where
 keys:(m.map (·.1)).Nodup
 len:m.length ≤ 256
theorem Zjp {h:Zi} {x:Zr} (hs:HOk h.by_) (hx:LotOk x):Z5 h x=some (⟨Zbf (Zce h.by_ x)⟩,()) ∧ HOk (Zbf (Zce h.by_ x)) ∧ ((Zce h.by_ x).map (·.1)).Nodup:=by
 have hkf:((Zce h.by_ x).map (·.1)).Nodup:=Zgm _ (Zmc hs.keys)
 have h1:=Zjd (Zb7 x.Deals) (Zh h.by_)
 have h2:=Zor h.by_
 have h3:=hx.hits
 have h4:=hs.len
 exact ⟨Zer (by unfold Zce;omega),⟨Zki hkf,by rw [Zli];omega⟩,hkf⟩
theorem Zp6 {m:BI} {x:Zr} {k:ByteArray} (hs:HOk m) (hx:LotOk x) (h0:0 ≤ val m k) (h1:val m k ≤ 1000000):val (Zce m x) k=Int.tdiv (val m k) 2 + cnt k (Zb7 x.Deals):=by
 have hh:=Zh9 k hs.keys h0 (by omega)
 have h3:=hx.hits
 have hd:Int.tdiv (val m k) 2=val m k / 2:=Int.tdiv_eq_ediv_of_nonneg h0
 unfold Zce
 rw [Zje k _ _ (by rw [hh,hd];omega) (by rw [hh,hd];omega),hh]
theorem Zkc {l:List Zr} (hl:l.length ≤ 12) (hx:∀ x ∈ l,LotOk x):∀ (n i:Nat) {h:Zi} {w:List RM},i + n=l.length → Same12 h w → (∀ k,0 ≤ val h.by_ k ∧ val h.by_ k ≤ 3200) → ∃ h' w',Zbc l (n + 1) h w (i:Int)=some (h',w') ∧ Same12 h' w' ∧ ∀ k,0 ≤ val h'.by_ k ∧ val h'.by_ k ≤ 3200
 | 0,i,h,w,hi,hs,hv=>by
  rw [Zbc,if_neg (by simp;omega)]
  exact ⟨h,w,rfl,hs,hv⟩
 | n + 1,i,h,w,hi,hs,hv=>by
  have hil:i < l.length:=by omega
  have hxi:=hx _ (List.getElem_mem hil)
  obtain ⟨h',w',e1,e2,hs',e3⟩:=Zrm hs hxi
  rw [Zbc,if_pos (by simp;omega),Zeb hil,Option.bind_some,e1,Option.bind_some,e2,Option.bind_some,wr1 (by omega)]
  have hok:HOk h.by_:=⟨by rw [hs.eq,Zdx];exact hs.keys,by rw [hs.eq];unfold toP;rw [List.length_map];exact hs.len⟩
  obtain ⟨_,_,hkf⟩:=Zjp hok hxi
  refine Zkc hl hx n (i + 1) (by omega) hs' fun k=>?_
  have hvf:=Zp6 (k:=k) hok hxi (hv k).1 (by have:=(hv k).2;omega)
  have hdv:Int.tdiv (val h.by_ k) 2=val h.by_ k / 2:=Int.tdiv_eq_ediv_of_nonneg (hv k).1
  have hc1:=Zrl k (Zb7 l[i].Deals)
  have hc2:=hxi.hits
  have h1:=(hv k).1
  have h2:=(hv k).2
  rw [e3]
  rcases Zlr hkf k with ht | ⟨ht,_⟩
  ·rw [ht,hvf,hdv];omega
  ·rw [ht];omega
theorem Zqi:LotOk lotE:=⟨by decide,fun d hd=>by cases hd⟩
theorem Zok {m:BI} (hb:∀ e ∈ m,e.2 ≤ 1000000) {e:ByteArray × Int} (he:e ∈ Zh m):1 ≤ e.2:=by
 obtain ⟨u,hu,rfl⟩:=List.mem_map.1 he
 obtain ⟨h1,h2⟩:=List.mem_filter.1 hu
 have h2:=of_decide_eq_true h2
 have:=hb u h1
 show 1 ≤ IntKind.i64.wrap (Int.tdiv u.2 2)
 rw [Int.tdiv_eq_ediv_of_nonneg (by omega),wr (by omega) (by omega)];omega
theorem Zkm {c:Zi}:∀ (n i:Nat) {h:Zi},i + n=20 → HOk h.by_ → (∀ k,0 ≤ val h.by_ k ∧ val h.by_ k ≤ 3200 / 2 ^ i) → (i=0 ∨ ∀ e ∈ h.by_,1 ≤ e.2) → Z3 (n + 1) h c (i:Int)=some (⟨[]⟩,c)
 | 0,i,h,hi,hs,hv,hp=>by
  have:i=20:=by omega
  subst this
  rw [Z3,if_neg (by decide)]
  have hnil:h.by_=[]:=by
   cases hq:h.by_ with
   | nil=>rfl
   | cons e m =>
    have he:e ∈ h.by_:=by rw [hq];exact List.mem_cons_self ..
    have h1:=(hp.resolve_left (by decide)) e he
    have h2:=(hv e.1).2
    rw [Zhn hs.keys he] at h2
    have:(3200:Int) / 2 ^ 20=0:=by decide
    rw [this] at h2;omega
  cases h with
  | mk b=>simp only at hnil;rw [hnil]
 | n + 1,i,h,hi,hs,hv,hp=>by
  obtain ⟨e1,hs',hkf⟩:=Zjp hs Zqi
  have hfe:Zce h.by_ lotE=Zh h.by_:=rfl
  rw [hfe] at e1 hs' hkf
  rw [Z3,if_pos (by simp;omega)]
  show (Z5 h lotE).bind _=_
  rw [e1,Option.bind_some,wr1 (by omega)]
  have hpow:(0:Int) < 2 ^ i:=Int.pow_pos (by decide)
  have hle:(3200:Int) / 2 ^ i ≤ 3200:=Int.ediv_le_self _ (by decide)
  refine Zkm n (i + 1) (by omega) hs' (fun k=>?_) (.inr fun e he=>Zok (fun e he=>?_) (Zlw he))
  ·have h1:=(hv k).1
   have h2:=(hv k).2
   have hh:=Zh9 k hs.keys h1 (by omega)
   have hdv:Int.tdiv (val h.by_ k) 2=val h.by_ k / 2:=Int.tdiv_eq_ediv_of_nonneg h1
   have hdd:(3200:Int) / 2 ^ (i + 1)=3200 / 2 ^ i / 2:=by rw [Int.pow_succ,Int.ediv_ediv_of_nonneg (by omega)]
   rw [hdd]
   show 0 ≤ val (Zbf (Zh h.by_)) k ∧ val (Zbf (Zh h.by_)) k ≤ _
   rcases Zlr hkf k with ht | ⟨ht,_⟩
   ·rw [ht,hh,hdv];omega
   ·rw [ht]
    have:0 ≤ (3200:Int) / 2 ^ i:=Int.ediv_nonneg (by decide) (by omega)
    omega
  ·have h2:=(hv e.1).2
   rw [Zhn hs.keys he] at h2;omega
theorem HeatFades_true (a0:List Zr) (w0:a0.length ≤ maxLen ∧ ∀ e0 ∈ a0,Zgp e0):Zc2 a0=some true:=by
 unfold Zc2
 rw [Zo7,Option.bind_some,if_neg (by decide)]
 rcases Zmp a0 with hb | ⟨hb,hl,hx⟩
 ·rw [hb];rfl
 ·rw [hb,Option.bind_some,if_neg (by decide)]
  obtain ⟨h,w,e1,hs,hv⟩:=Zkc hl hx a0.length 0 (by omega) Zpq (fun k=>by
   have:val ([]:BI) k=0:=rfl
   show 0 ≤ val [] k ∧ val [] k ≤ _
   rw [this];decide)
  rw [show ((0:Nat):Int)=0 from rfl] at e1
  rw [show Int.toNat ((a0.length:Int) - (0:Int)) + 1=a0.length + 1 by omega,e1,Option.bind_some]
  have hok:HOk h.by_:=⟨by rw [hs.eq,Zdx];exact hs.keys,by rw [hs.eq];unfold toP;rw [List.length_map];exact hs.len⟩
  have e2:=Zkm (c:=h) 20 0 (h:=h) (by decide) hok (fun k=>by have:=hv k;omega) (.inl rfl)
  rw [show ((0:Nat):Int)=0 from rfl] at e2
  show (Z3 21 h h (0:Int)).bind _=_
  rw [e2,Option.bind_some]
  have hl0:Zb6 ⟨[]⟩=some 0:=rfl
  have ha0:Z0 ⟨[]⟩=some []:=by
   unfold Z0 Z8
   rw [if_pos (by decide)]
   show some (List.mergeSort [] _)=_
   rw [List.mergeSort_nil]
  simp only []
  rw [hl0,Option.bind_some]
  show (gd true (Z0 ⟨[]⟩)).bind _=_
  rw [ha0,gd_t,Option.bind_some]
  show (gd true (Zdu h w)).bind _=_
  rw [hs.is,gd_t,Option.bind_some]
  rfl
end Go.CL
namespace Go.CL
open Go Go.RowKit Go.Proofs Go.ChangeShapes Go.WideShapes Go.ChangeAt
theorem Zpb:ownKnob Tryd.prog.godebug=none:=by kernel_rfl
theorem Zod:laidOutB Tryd.prog=true:=by kernel_rfl
theorem op_3:Opn Tryd.prog 3 (Kd.int .i64) (fun x=>((IntKind.i64).min ≤ x ∧ x ≤ (IntKind.i64).max)):=Zls Tryd.underlying3 (by kernel_rfl)
theorem op_9:Opn Tryd.prog 9 Kd.str (fun x=>(x.size ≤ maxLen)):=Zqp Tryd.underlying9 (by kernel_rfl)
theorem op_2:Opn Tryd.prog 2 (Kd.int .i64) (fun x=>((IntKind.i64).min ≤ x ∧ x ≤ (IntKind.i64).max)):=Zls Tryd.underlying2 (by kernel_rfl)
theorem Zmu:Opn Tryd.prog 46 Kd.flt (fun x=>(x < 2 ^ 64)):=Zqu Tryd.underlying46 (by kernel_rfl)
theorem Zro:Opn Tryd.prog 105 Zb8 Zfw:=⟨by kernel_rfl,fun hg h=>by
 obtain ⟨hl,n,hf⟩:=Zev Tryd.underlying105 h
 obtain ⟨y0,h0⟩:=hf 0 _ rfl
 obtain ⟨v0,k0,w0⟩:=Zmu.op hg h0
 obtain ⟨y1,h1⟩:=hf 1 _ rfl
 obtain ⟨v1,k1,w1⟩:=op_9.op hg h1
 refine ⟨⟨v0,v1⟩,⟨hl.trans (by kernel_rfl),(Qc.2 ⟨k0,(Qc.2 ⟨k1,(fun _ h=>by cases h)⟩)⟩)⟩,w0,w1⟩,fun h=>Ze2 Tryd.underlying105 h⟩
theorem Zsr:Opn Tryd.prog 47 Zb8.sl (fun x=>(x.length ≤ maxLen ∧ ∀ e0 ∈ x,(Zfw e0))):=Zio Tryd.underlying47 (by kernel_rfl) Zro (by decide)
theorem Zsl:Opn Tryd.prog 49 Zcl Zgv:=⟨by kernel_rfl,fun hg h=>by
 obtain ⟨hl,n,hf⟩:=Zev Tryd.underlying49 h
 obtain ⟨y0,h0⟩:=hf 0 _ rfl
 obtain ⟨v0,k0,w0⟩:=op_3.op hg h0
 obtain ⟨y1,h1⟩:=hf 1 _ rfl
 obtain ⟨v1,k1,w1⟩:=op_2.op hg h1
 obtain ⟨y2,h2⟩:=hf 2 _ rfl
 obtain ⟨v2,k2,w2⟩:=op_2.op hg h2
 obtain ⟨y3,h3⟩:=hf 3 _ rfl
 obtain ⟨v3,k3,w3⟩:=op_2.op hg h3
 obtain ⟨y4,h4⟩:=hf 4 _ rfl
 obtain ⟨v4,k4,w4⟩:=Zmu.op hg h4
 obtain ⟨y5,h5⟩:=hf 5 _ rfl
 obtain ⟨v5,k5,w5⟩:=op_3.op hg h5
 obtain ⟨y6,h6⟩:=hf 6 _ rfl
 obtain ⟨v6,k6,w6⟩:=op_9.op hg h6
 obtain ⟨y7,h7⟩:=hf 7 _ rfl
 obtain ⟨v7,k7,w7⟩:=Zsr.op hg h7
 refine ⟨⟨v0,v1,v2,v3,v4,v5,v6,v7⟩,⟨hl.trans (by kernel_rfl),(Qc.2 ⟨k0,(Qc.2 ⟨k1,(Qc.2 ⟨k2,(Qc.2 ⟨k3,(Qc.2 ⟨k4,(Qc.2 ⟨k5,(Qc.2 ⟨k6,(Qc.2 ⟨k7,(fun _ h=>by cases h)⟩)⟩)⟩)⟩)⟩)⟩)⟩)⟩)⟩,w0,w1,w2,w3,w4,w5,w6,w7⟩,fun h=>Ze2 Tryd.underlying49 h⟩
theorem op_4:Opn Tryd.prog 4 Kd.bool (fun x=>True):=Zo3 Tryd.underlying4 (by kernel_rfl)
theorem Zr0:Opn Tryd.prog 51 Z1 Zgn:=⟨by kernel_rfl,fun hg h=>by
 obtain ⟨hl,n,hf⟩:=Zev Tryd.underlying51 h
 obtain ⟨y0,h0⟩:=hf 0 _ rfl
 obtain ⟨v0,k0,w0⟩:=op_3.op hg h0
 obtain ⟨y1,h1⟩:=hf 1 _ rfl
 obtain ⟨v1,k1,w1⟩:=op_9.op hg h1
 obtain ⟨y2,h2⟩:=hf 2 _ rfl
 obtain ⟨v2,k2,w2⟩:=op_2.op hg h2
 obtain ⟨y3,h3⟩:=hf 3 _ rfl
 obtain ⟨v3,k3,w3⟩:=Zmu.op hg h3
 obtain ⟨y4,h4⟩:=hf 4 _ rfl
 obtain ⟨v4,k4,w4⟩:=op_9.op hg h4
 obtain ⟨y5,h5⟩:=hf 5 _ rfl
 obtain ⟨v5,k5,w5⟩:=Zsl.op hg h5
 obtain ⟨y6,h6⟩:=hf 6 _ rfl
 obtain ⟨v6,k6,w6⟩:=op_4.op hg h6
 refine ⟨⟨v0,v1,v2,v3,v4,v5,v6⟩,⟨hl.trans (by kernel_rfl),(Qc.2 ⟨k0,(Qc.2 ⟨k1,(Qc.2 ⟨k2,(Qc.2 ⟨k3,(Qc.2 ⟨k4,(Qc.2 ⟨k5,(Qc.2 ⟨k6,(fun _ h=>by cases h)⟩)⟩)⟩)⟩)⟩)⟩)⟩)⟩,w0,w1,w2,w3,w4,w5,w6⟩,fun h=>Ze2 Tryd.underlying51 h⟩
theorem Zsn:Opn Tryd.prog 52 Z1.sl (fun x=>(x.length ≤ maxLen ∧ ∀ e0 ∈ x,(Zgn e0))):=Zio Tryd.underlying52 (by kernel_rfl) Zr0 (by decide)
theorem Zso:Opn Tryd.prog 54 Zbb Zfv:=⟨by kernel_rfl,fun hg h=>by
 obtain ⟨hl,n,hf⟩:=Zev Tryd.underlying54 h
 obtain ⟨y0,h0⟩:=hf 0 _ rfl
 obtain ⟨v0,k0,w0⟩:=Zsn.op hg h0
 refine ⟨⟨v0⟩,⟨hl.trans (by kernel_rfl),(Qc.2 ⟨k0,(fun _ h=>by cases h)⟩)⟩,w0⟩,fun h=>Ze2 Tryd.underlying54 h⟩
theorem Zsb:Opn Tryd.prog 29 Zbb.sl (fun x=>(x.length ≤ maxLen ∧ ∀ e0 ∈ x,(Zfv e0))):=Zio Tryd.underlying29 (by kernel_rfl) Zso (by decide)
theorem Zss:Opn Tryd.prog 31 Zp Zgp:=⟨by kernel_rfl,fun hg h=>by
 obtain ⟨hl,n,hf⟩:=Zev Tryd.underlying31 h
 obtain ⟨y0,h0⟩:=hf 0 _ rfl
 obtain ⟨v0,k0,w0⟩:=op_3.op hg h0
 obtain ⟨y1,h1⟩:=hf 1 _ rfl
 obtain ⟨v1,k1,w1⟩:=Zsb.op hg h1
 refine ⟨⟨v0,v1⟩,⟨hl.trans (by kernel_rfl),(Qc.2 ⟨k0,(Qc.2 ⟨k1,(fun _ h=>by cases h)⟩)⟩)⟩,w0,w1⟩,fun h=>Ze2 Tryd.underlying31 h⟩
theorem Zr8:Opn Tryd.prog 22 Zp.sl (fun x=>(x.length ≤ maxLen ∧ ∀ e0 ∈ x,(Zgp e0))):=Zio Tryd.underlying22 (by kernel_rfl) Zss (by decide)
theorem Zpv:Det Tryd.prog 9:=Zqs Tryd.underlying9
theorem Zrv:Det Tryd.prog 3:=Zq7 Tryd.underlying3
theorem Zre:Det Tryd.prog 74:=Zm0 Tryd.underlying74 (fun i f h=>match i,f,h with
 | 0,_,h=>by obtain rfl:=Option.some.inj h;exact Zpv
 | 1,_,h=>by obtain rfl:=Option.some.inj h;exact Zrv
 | 2,_,h=>by obtain rfl:=Option.some.inj h;exact Zpv
 | _ + 3,_,h=>by cases h) (by kernel_rfl)
theorem Zrq:Det Tryd.prog 84:=Zqa Tryd.underlying84 Zre (by kernel_rfl)
theorem HeatFades_met (os : Os) (args : Array Value) : laidMetH Tryd.prog [("moiety/act.kinds", Go.Proofs.YtbbmlejgoepmfaaDoor.Rows.laid_moiety_act_kinds)] ((World.doorLaid Tryd.prog 400 os).forCall (fun _ _ => 0) ⟨#[], args, []⟩).memory :=
 laidMetH_of_parts3 (fuel:=8) (laidMet_of_run' 8 (by kernel_rfl) (by kernel_rfl)) (by kernel_rfl) (by kernel_rfl)
theorem HeatFades_gl {W : World} (h : laidMetH Tryd.prog [("moiety/act.kinds", Go.Proofs.YtbbmlejgoepmfaaDoor.Rows.laid_moiety_act_kinds)] W) : GLok W (fun b _ => b < W.heap.size) := by
 have g0 := Zo0 (P := Tryd.prog) (nm := "moiety/act.kinds") (d := Go.Proofs.YtbbmlejgoepmfaaDoor.Rows.laid_moiety_act_kinds) (g := 0) (t := 84) (W := W) (w0 := W) (cells := [.string ⟨#[]⟩, .int .i64 (0), .string ⟨#[]⟩, .string ⟨#[110, 101, 119]⟩, .int .i64 (0), .string ⟨#[109]⟩, .string ⟨#[100, 114, 111, 112]⟩, .int .i64 (0), .string ⟨#[]⟩, .string ⟨#[105, 115]⟩, .int .i64 (0), .string ⟨#[]⟩, .string ⟨#[108, 111, 111, 107]⟩, .int .i64 (0), .string ⟨#[]⟩, .string ⟨#[112, 117, 116]⟩, .int .i64 (1), .string ⟨#[115]⟩, .string ⟨#[115, 119, 97, 112]⟩, .int .i64 (1), .string ⟨#[115]⟩, .string ⟨#[97, 100, 100]⟩, .int .i64 (2), .string ⟨#[110]⟩, .string ⟨#[112, 108, 117, 115]⟩, .int .i64 (3), .string ⟨#[110]⟩, .string ⟨#[114, 101, 97, 99, 104]⟩, .int .i64 (3), .string ⟨#[110]⟩, .string ⟨#[105, 110]⟩, .int .i64 (4), .string ⟨#[110]⟩, .string ⟨#[111, 117, 116]⟩, .int .i64 (4), .string ⟨#[110]⟩, .string ⟨#[101, 110, 111, 117, 103, 104]⟩, .int .i64 (4), .string ⟨#[110]⟩, .string ⟨#[114, 97, 105, 115, 101]⟩, .int .i64 (5), .string ⟨#[120]⟩, .string ⟨#[108, 111, 119, 101, 114]⟩, .int .i64 (6), .string ⟨#[120]⟩, .string ⟨#[115, 104, 105, 102, 116]⟩, .int .i64 (7), .string ⟨#[120]⟩, .string ⟨#[115, 99, 97, 108, 101]⟩, .int .i64 (7), .string ⟨#[120]⟩, .string ⟨#[102, 105, 120]⟩, .int .i64 (7), .string ⟨#[120]⟩, .string ⟨#[106, 111, 105, 110]⟩, .int .i64 (8), .string ⟨#[115]⟩, .string ⟨#[108, 101, 97, 118, 101]⟩, .int .i64 (8), .string ⟨#[115]⟩, .string ⟨#[104, 97, 115]⟩, .int .i64 (8), .string ⟨#[115]⟩, .string ⟨#[111, 102, 102, 101, 114]⟩, .int .i64 (9), .string ⟨#[120, 115]⟩]) (fu := 8) (by kernel_rfl) (by kernel_rfl) Zrq (by kernel_rfl) (by kernel_rfl) h
 intro e he i v hv
 rcases List.mem_cons.1 he with rfl | he
 ·exact ⟨(Zg4 (g0 i v hv)).2,g0 i v hv⟩
 cases he
theorem HeatFades_ret (os:Os) (started:os.Started) (H:Type) (enc:TypeId × Value → H) :
  ReturnsInHanded {} Tryd.checked os 4 .any (fun w args => (Go.Proofs.YtbbmlejgoepmfaaDoor.Rows.heatFadesSpec.pre enc Tryd.prog Tryd.f4 [] false w args ∧ laidMetH Tryd.prog [("moiety/act.kinds", Go.Proofs.YtbbmlejgoepmfaaDoor.Rows.laid_moiety_act_kinds)] w) ∧ sizedMet enc Tryd.prog Tryd.f4 (OpenSpec.ofChange Go.Proofs.YtbbmlejgoepmfaaDoor.Rows.heatFadesSpec) false w args) (Go.Proofs.YtbbmlejgoepmfaaDoor.Rows.heatFadesSpec.post enc Tryd.prog Tryd.f4 false true false false) := by
 refine returnsInHanded_of_change_and (C := Tryd.checked) (X := fun w _ => laidMetH Tryd.prog [("moiety/act.kinds", Go.Proofs.YtbbmlejgoepmfaaDoor.Rows.laid_moiety_act_kinds)] w) (fun _ _ _ hh h => h.of_heap hh) Zpb started (by kernel_rfl) Tryd.func4
  (ChangeSpec.witness_shaped (enc := enc) (C := Tryd.checked) (os := os) (X := fun w _ => laidMetH Tryd.prog [("moiety/act.kinds", Go.Proofs.YtbbmlejgoepmfaaDoor.Rows.laid_moiety_act_kinds)] w) false (World.doorLaid Tryd.prog 400 os) #[.slice none 0 0] 8 rfl (World.shaped_of_RefB (by kernel_rfl) (by kernel_rfl)) (by kernel_rfl) (by kernel_rfl) (by kernel_rfl) (HeatFades_met os _)) ?_
 intro W base args ds gs before hval0 hW hcnd _ hL _
 have hval:∀ (j:Nat) t v,Tryd.f4.params[j]?=some t → args[j]?=some v → Value.okWide Tryd.prog W .any base t v:=hval0
 have hW':=hW
 obtain ⟨p0,q,hA0,hV,rfl,hfz,hnd⟩:=hW
 have hA:DataW.TrodAll enc Tryd.prog W 0 (fun _=>true) true Tryd.f4.params.toList args.toList ds p0:=hA0
 rw [Tryd.params4] at hA hval
 obtain ⟨v0,d0,rfl,rfl,h0⟩:=trodAll_one hA
 obtain ⟨rfl,rfl⟩:=trodVars_none hV
 simp only [List.append_nil] at hW'
 have hg:GLok W (fun b _=>b < W.heap.size):=(HeatFades_gl hL)
 have hk0:=h0
 obtain ⟨a0,q0,w0⟩:=Zri Zr8 hg h0 (hval 0 22 v0 rfl rfl)
 refine (Zfl a0 (HeatFades_true a0 w0) (GW W hg) [v0] (Zdp q0 Zeu)).mono fun e W' ⟨g',v,he,hw,hs,hq⟩=>?_
 subst he;subst hw
 rw [Zcw.1 hq]
 have hbel:=Zpi hs
 have hlt:∀ x ∈ (p0),x.block < W.heap.size:=fun x hx=>by simpa using hW'.lt x hx
 exact ⟨_,rfl,Zj3 (pv:=[]) hW' hbel (trodAll_mk1 (shut_bool Tryd.underlying4 true)) (trodAll_mk1 (Below.trod Zod (by kernel_rfl) (of_decide_eq_true (by kernel_rfl)) hk0 hbel (fun x hx=>hlt x (by simp [hx])))) rfl⟩
theorem HeatFades_holds:Go.Proofs.YtbbmlejgoepmfaaDoor.Rows.HeatFadesSaid :=
 OpenClaim.holds_of_wide 4 Tryd.f4 rfl rfl rfl rfl rfl rfl rfl ⟨rfl,rfl,rfl,rfl,rfl⟩ rfl rfl rfl rfl rfl (by kernel_rfl) Tryd.func4 (by kernel_rfl)
  (of_decide_eq_true (by kernel_rfl)) (by unfold Func.isWrapper;first | (rw [if_pos (by decide +kernel)];kernel_rfl) | (rw [if_neg (by decide +kernel)];exact ⟨rfl,rfl⟩))
  (fun os started H enc _=>HeatFades_ret os started H enc)
theorem HeatFades_card:Go.Proofs.YtbbmlejgoepmfaaDoor.Rows.HeatFadesCardSaid :=
 Claim7.holds_tied_plain_at .later [] [.data] true (true, "0f385618a5a781f486d398e3341a6d17e16545868650a458dabb3384b4aaa6c1") true
  HeatFades_holds (fun _ h=>by cases h) (by kernel_rfl) (fun _ h=>by cases h) Go.Proofs.YtbbmlejgoepmfaaDoor.heatFades_row_tie rfl ⟨rfl,rfl⟩ (by kernel_rfl) rfl
  (fun f fn hf hfn=>by
   obtain rfl : f = 4 := Option.some.inj ((show Tryd.prog.funcNamed "moiety/moietylaw12.HeatFades" = some 4 by kernel_rfl).symm.trans hf) |>.symm
   obtain rfl:fn=Tryd.f4:=(Option.some.inj (Tryd.func4.symm.trans hfn)).symm
   exact ⟨by kernel_rfl,fun j t ht=>by
    rw [Tryd.params4] at ht
    have hm:t ∈ [22]:=by simpa using Array.mem_of_getElem? ht
    have hall:(([22]:List TypeId).all fun u=>!Tryd.prog.wantsStandIn u)=true:=by kernel_rfl
    exact (show Tryd.prog.wantsStandIn t=false by simpa using List.all_eq_true.1 hall t hm)⟩)
  (by kernel_rfl)
end Go.CL
