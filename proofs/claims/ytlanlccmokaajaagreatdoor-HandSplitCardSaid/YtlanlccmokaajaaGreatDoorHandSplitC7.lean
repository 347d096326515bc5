/- A part of the proof of HandSplit. -/
import Derived.Test.YtlanlccmokaajaaGreatDoorHandSplitC6
import Derived.KernelRfl
import Derived.Laws.Strings
set_option linter.unusedVariables false
set_option linter.unusedSimpArgs false
set_option maxRecDepth 100000
namespace Go.CL
open Go Go.RowKit Go.Proofs
theorem Zuk (a0:Zk) (a1:Zf) {r:Int} (h:Zjg a0 a1=some r):FnOk Tryz.prog 21 [(Zx.pd a0),(Z9.pd a1)] (pInt .i64 r):=by
 have H0:=h
 unfold Zjg at H0
 clear h
 refine Zbt (N:=54) Tryz.func21 rfl rfl (Qe rfl) rfl rfl (fun a g0 hst hb=>?_)
 refine r_s (T:=[⟨[.o 0],_,[],[],[2]⟩,⟨[.o 1],_,[],[],[3]⟩,⟨[],_,[],[],[4]⟩]) (F:=[.p 0 0,.p 1 0]) hst hb Za
  (Qb rfl u_0<|Qb rfl u_0<|Qa rfl c_i<|o_n) (fun a g hst hb=>?_)
 refine wp_seq ?_
 obtain ⟨r1,h2,H0⟩:=Zd H0;obtain ⟨r3,h4,H0⟩:=Zd H0
 refine r_s (T:=⟨[.o 0],_,[],[],[10]⟩ :: ⟨[.p 0 0],_,[],[0],[11]⟩ :: ⟨[.o 1],_,[],[],[12]⟩ :: ⟨[.p 2 0],_,[],[2],[13]⟩ :: ⟨[.p 3 0],_,[],[2,3],[14]⟩ :: ⟨[.p 1 0,.p 4 0],_,[],Lr 5,[15]⟩ :: ⟨[.p 5 0],_,[],Lr 6,[16]⟩ :: ⟨[.p 6 0,.o 0],_,[],Lr 7,[17]⟩ :: ⟨[.p 6 0,.p 7 0],_,[],Lr 8,[18]⟩ :: ⟨[.p 6 0,.o 1],_,[],Lr 7,[19]⟩ :: ⟨[.p 6 0,.p 9 0],_,[],[0,1,2,3,4,5,6,9],[20]⟩ :: ⟨[.p 6 0,.p 8 0,.p 10 0],_,[],Lr 11,[21]⟩ :: ⟨[.p 6 0,.p 11 0],_,[],Lr 12,[22]⟩ :: []) (F:=[.o 0,.o 1,.p 12 0]) hst hb Za
  (Ql rfl Zbu u_0<|o_p rfl (Zl Zwo (Zin _ h2) rfl rfl (.cons u_0 .nil))<|Qf rfl Zg5 u_0<|Ql rfl Zj2 u_0<|o_p rfl (Zbv Tryz.underlying22 rfl rfl u_0)<|o_p rfl (Zcz rfl rfl u_0 u_1)<|Qm rfl u_0<|o_g (Qg_f rfl (fun hG=>Zs Zbu rfl rfl u_0))<|o_g (Qg_f rfl (fun hG=>Zl Zbdu (Zsf _ (Zbn h4 hG)) rfl rfl (.cons (Opd.gd hG u_0) .nil)))<|o_g (Qg_f rfl (fun hG=>Zh Zq7 rfl rfl u_0))<|o_g (Qg_f rfl (fun hG=>Zs ty_3 rfl rfl (Opd.gd hG u_0)))<|o_g (Qg_f rfl (fun hG=>Zcz rfl rfl (Opd.gd hG u_0) (Opd.gd hG u_1)))<|o_p rfl (Zbm rfl rfl u_0 (fun hz=>(Opd.gd (bNF hz) u_1)))<|o_n) (fun a g hst hb=>?_)
 refine wp_cond_split (hst.bool 2 rfl) (fun hc5=>?_) (fun hc5=>?_)
 ·replace H0:=Zu hc5 H0
  refine r_s (L:=[]) (T:=[⟨[],_,[],[],[4]⟩]) (F:=[.p 0 0]) (hst.pick [] rfl) hb Za
   (Qa rfl c_i<|o_n) (fun a g hst hb=>?_)
  refine wp_ret ?_
  refine Zp ?_
  obtain rfl:=Option.some.inj H0
  exact Z4 rfl hst hb (Zg (s:=4)) (hst.at 0 rfl)
 ·replace H0:=Zt hc5 H0
  refine wp_skip ?_
  refine Zq ?_
  refine wp_seq ?_
  refine r_s (L:=[(2,_),(3,_)]) (T:=[⟨[.o 1],_,[],[],[23]⟩,⟨[.p 0 0],_,[],[0],[24]⟩,⟨[.p 1 0],_,[],[0,1],[25]⟩,⟨[],_,[],[],[26]⟩]) (F:=[.o 0,.p 1 0,.p 2 0,.p 3 0]) (hst.pick [0,1] rfl) hb Za
   (Qf rfl Zg5 u_0<|Ql rfl Zj2 u_0<|o_p rfl (Zbv Tryz.underlying22 rfl rfl u_0)<|Qm rfl c_i<|o_n) (fun a g hst hb=>?_)
  obtain ⟨z15,hz1,H0⟩:=Zd H0
  refine Zb3 (fun a w=>∃ (g:G),w=g.w ∧ St 54 [] a g ∧ Base g0 g ∧ (.inr ())=z15) ?_ ?_
  ·rintro a w ⟨g,rfl,hst,hb,rfl⟩
   refine Zq ?_
   refine r_s (T:=[⟨[],_,[],[],[4]⟩]) (F:=[.p 0 0]) hst hb Za
    (Qa rfl c_i<|o_n) (fun a g hst hb=>?_)
   refine wp_ret ?_
   obtain rfl:=Option.some.inj H0
   exact Z4 rfl hst hb (Zg (s:=4)) (hst.at 0 rfl)
  ·refine wp_block ?_
   refine wp_loop_ghost (fun n a w=>∃ (x6:Int) (g:G),w=g.w ∧ St 54 [(2,(Zx.ptr a0)),(24,(Zb1.sl.pd a1.L)),(25,(pInt .i64 (a1.L.length:Int))),(26,(pInt .i64 x6))] a g ∧ Base g0 g ∧ Zfx a0 a1 n x6=some z15) (Int.toNat ((a1.L.length:Int) - (0:Int)) + 1) ⟨(0:Int),g,rfl,(hst.pick [0,1,2,3] rfl),hb,hz1⟩ (fun n a w hI=>?_)
   obtain ⟨x6,g,rfl,hst,hb,H1⟩:=hI
   cases n with
   | zero=>exact absurd H1 (by simp [Zfx])
   | succ n =>
    rw [Zfx] at H1
    refine r_s (T:=[⟨[.o 3,.o 2],_,[],[],[27]⟩]) (F:=[.o 0,.o 1,.o 2,.o 3,.p 0 0]) hst hb Za
     (o_p rfl (Zca rfl rfl u_0 u_1)<|o_n) (fun a g hst hb=>?_)
    refine wp_seq ?_
    refine wp_cond_split (hst.bool 4 rfl) (fun hc7=>?_) (fun hc7=>?_)
    ·replace H1:=Zu hc7 H1
     refine wp_skip ?_
     refine Zq ?_
     refine wp_seq ?_
     refine wp_block ?_
     obtain ⟨e8,h9,H1⟩:=Zd H1
     refine r_s (L:=[(2,_),(24,_),(25,_),(26,_)]) (T:=[⟨[.o 3],_,[],[],[28]⟩,⟨[.o 1,.o 3],_,[],[],[29]⟩,⟨[.p 1 0],_,[],[1],[30]⟩,⟨[],[(6,(pBox Zb1 6 (default:Zbe)))],[7],[],[6]⟩,⟨[.p 0 0],_,[],Lr 4,[5]⟩,⟨[.p 2 0,.p 3 0],_,[7],Lr 5,[6]⟩]) (F:=[.o 0,.p 4 0,.p 5 0,.o 1,.o 2,.o 3]) (hst.pick [0,1,2,3] rfl) hb Za
      (Qm rfl u_0<|o_p rfl (Zbi Tryz.underlying22 Znf rfl rfl u_0 u_1 h9)<|Ql rfl Zzs u_0<|o_p rfl (Zbh (zs:=[.string ByteArray.empty,.int .i64 0,.int .i64 0,.int .i64 0,.int .i64 0,.float .f64 0,.int .i64 0,.string ByteArray.empty,.slice none 0 0]) (by kernel_rfl) (fun g=>Zn3 g) rfl rfl)<|Qa rfl u_0<|o_p rfl (Zb6 Zzs rfl rfl u_1 u_0)<|o_n) (fun a g hst hb=>?_)
     obtain ⟨r10,h11,H1⟩:=Zd H1
     refine r_s (T:=[⟨[.o 0],_,[],[],[32]⟩,⟨[.o 1],_,[],[],[33]⟩,⟨[.p 0 0,.p 1 0],_,[],[0,1],[34]⟩,⟨[.p 2 0],_,[],[0,1,2],[31]⟩,⟨[.p 3 0],_,[],Lr 4,[35]⟩,⟨[.p 3 0],_,[],Lr 4,[36]⟩,⟨[.p 3 0],_,[],Lr 4,[37]⟩,⟨[],[(8,(pBox Ze 8 (default:Zb)))],[9],[],[8]⟩,⟨[.p 4 0],_,[],[0,1,2,3,4,7],[7]⟩,⟨[.p 5 0,.p 7 0],_,[9],[0,1,2,3,4,5,7,8],[8]⟩,⟨[.p 6 0],_,[],Lr 10,[9]⟩]) (F:=[.o 0,.o 2,.p 8 0,.p 9 0,.p 10 0,.o 3,.o 4,.o 5]) hst hb Za
      (Ql rfl Zbu u_0<|Qm rfl u_0<|o_p rfl (Zl Z3w (Zms _ _ h11) rfl rfl (.cons u_0 (.cons u_1 .nil)))<|Qm rfl u_0<|o_p rfl (Z2 rfl rfl u_0 rfl)<|o_p rfl (Z2 rfl rfl u_0 rfl)<|o_p rfl (Z2 rfl rfl u_0 rfl)<|o_p rfl (Zbh (zs:=[.int .i64 0,.int .i64 0,.int .i64 0,.int .i64 0,.float .f64 0,.int .i64 0,.string ByteArray.empty,.slice none 0 0]) (by kernel_rfl) (fun g=>Zb0 g) rfl rfl)<|Qa rfl u_0<|o_p rfl (Zb6 Zbb rfl rfl u_1 u_0)<|Qa rfl u_0<|o_n) (fun a g hst hb=>?_)
     obtain ⟨r12,h13,H1⟩:=Zd H1
     refine r_s (T:=⟨[.o 4],_,[],[],[38]⟩ :: ⟨[.p 0 0],_,[],[0],[39]⟩ :: ⟨[.p 1 0],_,[],[0,1],[40]⟩ :: ⟨[.p 2 0,.o 2],_,[],[0,1,2],[41]⟩ :: ⟨[.p 2 0,.o 1],_,[],[0,1,2],[42]⟩ :: ⟨[.p 2 0,.p 4 0],_,[],[0,1,2,4],[43]⟩ :: ⟨[.p 2 0,.p 3 0,.p 5 0],_,[],Lr 6,[44]⟩ :: ⟨[.p 2 0,.p 6 0],_,[],Lr 7,[45]⟩ :: ⟨[.p 7 0],_,[],Lr 8,[46]⟩ :: ⟨[.p 8 0,.o 3],_,[],Lr 9,[47]⟩ :: ⟨[.p 8 0,.o 1],_,[],Lr 9,[48]⟩ :: ⟨[.p 8 0,.p 10 0],_,[],[0,1,2,3,4,5,6,7,8,10],[49]⟩ :: ⟨[.p 8 0,.p 9 0,.p 11 0],_,[],Lr 12,[50]⟩ :: ⟨[.p 8 0,.p 12 0],_,[],Lr 13,[51]⟩ :: ⟨[.p 8 0,.p 13 0],_,[],Lr 14,[52]⟩ :: []) (F:=[.o 0,.o 5,.o 6,.o 7,.p 14 0]) hst hb Za
      (Qm rfl u_0<|Qn rfl u_0<|Qm rfl u_0<|o_g (Qg_f rfl (fun hG=>Z1 rfl rfl u_0))<|o_g (Qg_f rfl (fun hG=>Zh Znd rfl rfl u_0))<|o_g (Qg_f rfl (fun hG=>Zs ty_9 rfl rfl (Opd.gd hG u_0)))<|o_g (Qg_f rfl (fun hG=>Zmv rfl rfl (Opd.gd hG u_0) (Opd.gd hG u_1)))<|o_p rfl (Zbm rfl rfl u_0 (fun hz=>(Opd.gd (bNF hz) u_1)))<|Qm rfl u_0<|o_g (Qg_f rfl (fun hG=>Zs Zbb rfl rfl u_0))<|o_g (Qg_f rfl (fun hG=>Zh Zq3 rfl rfl u_0))<|o_g (Qg_f rfl (fun hG=>Zs Zbb rfl rfl (Opd.gd hG u_0)))<|o_g (Qg_f rfl (fun hG=>Zl Zzh (Zjr _ _ (Zbn h13 hG)) rfl rfl (.cons (Opd.gd hG u_0) (.cons (Opd.gd hG u_1) .nil))))<|o_g (Qg_f rfl (fun hG=>Zfh rfl rfl (Opd.gd hG u_0)))<|o_p rfl (Zbm rfl rfl u_0 (fun hz=>(Opd.gd (bNF hz) u_1)))<|o_n) (fun a g hst hb=>?_)
     refine wp_cond_split (hst.bool 4 rfl) (fun hc14=>?_) (fun hc14=>?_)
     ·replace H1:=Zu hc14 H1
      refine r_s (L:=[]) (T:=[⟨[],_,[],[],[4]⟩]) (F:=[.p 0 0]) (hst.pick [] rfl) hb Za
       (Qa rfl c_i<|o_n) (fun a g hst hb=>?_)
      refine wp_ret ?_
      refine Z5 ?_
      refine Zp ?_
      refine Zp ?_
      refine Z5 ?_
      refine Zp ?_
      refine Zp ?_
      obtain rfl:=Option.some.inj H1
      obtain rfl:=Option.some.inj H0
      exact Z4 rfl hst hb (Zg (s:=4)) (hst.at 0 rfl)
     ·replace H1:=Zt hc14 H1
      refine wp_skip ?_
      refine Zbc ?_
      refine Zq ?_
      refine r_g (L:=[(2,_),(24,_),(25,_),(26,_)]) (T:=[⟨[.o 3],_,[],[],[53]⟩,⟨[.p 0 0],_,[],[0],[26]⟩]) (F:=[.o 0,.o 1,.o 2,.p 1 0]) (hst.pick [0,1,2,3] rfl) hb Za
       (o_p rfl (Zbz rfl rfl u_0 c_i rfl)<|Qm rfl u_0<|o_n) (fun a g hst hb=>?_)
      exact ⟨n,Nat.lt_succ_self _,(IntKind.i64.wrap (x6 + (1:Int))),g,rfl,(hst.pick [0,1,2,3] rfl),hb,H1⟩
    ·replace H1:=Zt hc7 H1
     refine wp_exit ?_
     refine Zby ?_
     refine Zby ?_
     refine Zce ?_
     exact ⟨g,rfl,(hst.pick [] rfl),hb,Option.some.inj H1⟩
theorem Zsd (a0:Zm) (a1:Zm) {r:Bool} (h:Zjj a0 a1=some r):FnOk Tryz.prog 23 [(Zy.pd a0),(Zy.pd a1)] (Zbd r):=by
 have H0:=h
 unfold Zjj at H0
 clear h
 refine Zbt (N:=50) Tryz.func23 rfl rfl (Qe rfl) rfl rfl (fun a g0 hst hb=>?_)
 refine r_s (T:=[⟨[.o 0],_,[],[],[2]⟩,⟨[.o 1],_,[],[],[3]⟩,⟨[],_,[],[],[4]⟩]) (F:=[.p 0 0,.p 1 0]) hst hb Za
  (Qb rfl u_0<|Qb rfl u_0<|Qa rfl c_b<|o_n) (fun a g hst hb=>?_)
 refine wp_seq ?_
 refine r_s (T:=⟨[.o 0],_,[],[],[5]⟩ :: ⟨[.p 0 0],_,[],[0],[6]⟩ :: ⟨[.o 1],_,[],[],[7]⟩ :: ⟨[.p 2 0],_,[],[2],[8]⟩ :: ⟨[.p 1 0,.p 3 0],_,[],Lr 4,[9]⟩ :: ⟨[.p 4 0],_,[],Lr 5,[10]⟩ :: ⟨[.p 5 0,.o 0],_,[],Lr 6,[11]⟩ :: ⟨[.p 5 0,.p 6 0],_,[],Lr 7,[12]⟩ :: ⟨[.p 5 0,.o 1],_,[],Lr 6,[13]⟩ :: ⟨[.p 5 0,.p 8 0],_,[],[0,1,2,3,4,5,8],[14]⟩ :: ⟨[.p 5 0,.p 7 0,.p 9 0],_,[],Lr 10,[15]⟩ :: ⟨[.p 5 0,.p 10 0],_,[],Lr 11,[16]⟩ :: ⟨[.p 11 0],_,[],Lr 12,[17]⟩ :: ⟨[.p 12 0,.o 0],_,[],Lr 13,[18]⟩ :: ⟨[.p 12 0,.p 13 0],_,[],Lr 14,[19]⟩ :: ⟨[.p 12 0,.o 1],_,[],Lr 13,[20]⟩ :: ⟨[.p 12 0,.p 15 0],_,[],0 :: 1 :: 2 :: 3 :: 4 :: 5 :: 6 :: 7 :: 8 :: 9 :: 10 :: 11 :: 12 :: 15 :: [],[21]⟩ :: ⟨[.p 12 0,.p 14 0,.p 16 0],_,[],Lr 17,[22]⟩ :: ⟨[.p 12 0,.p 17 0],_,[],Lr 18,[23]⟩ :: ⟨[.p 18 0],_,[],Lr 19,[24]⟩ :: ⟨[.p 19 0,.o 0],_,[],Lr 20,[25]⟩ :: ⟨[.p 19 0,.p 20 0],_,[],Lr 21,[26]⟩ :: ⟨[.p 19 0,.o 1],_,[],Lr 20,[27]⟩ :: ⟨[.p 19 0,.p 22 0],_,[],0 :: 1 :: 2 :: 3 :: 4 :: 5 :: 6 :: 7 :: 8 :: 9 :: 10 :: 11 :: 12 :: 13 :: 14 :: 15 :: 16 :: 17 :: 18 :: 19 :: 22 :: [],[28]⟩ :: ⟨[.p 19 0,.p 21 0,.p 23 0],_,[],Lr 24,[29]⟩ :: ⟨[.p 19 0,.p 24 0],_,[],Lr 25,[30]⟩ :: ⟨[.p 25 0],_,[],Lr 26,[31]⟩ :: ⟨[.p 26 0,.o 0],_,[],Lr 27,[32]⟩ :: ⟨[.p 26 0,.p 27 0],_,[],Lr 28,[33]⟩ :: ⟨[.p 26 0,.o 1],_,[],Lr 27,[34]⟩ :: ⟨[.p 26 0,.p 29 0],_,[],0 :: 1 :: 2 :: 3 :: 4 :: 5 :: 6 :: 7 :: 8 :: 9 :: 10 :: 11 :: 12 :: 13 :: 14 :: 15 :: 16 :: 17 :: 18 :: 19 :: 20 :: 21 :: 22 :: 23 :: 24 :: 25 :: 26 :: 29 :: [],[35]⟩ :: ⟨[.p 26 0,.p 28 0,.p 30 0],_,[],Lr 31,[36]⟩ :: ⟨[.p 26 0,.p 31 0],_,[],Lr 32,[37]⟩ :: []) (F:=[.o 0,.o 1,.p 32 0]) hst hb Za
  (Qf rfl Zde u_0<|Ql rfl ty_3 u_0<|Qf rfl Zde u_0<|Ql rfl ty_3 u_0<|o_p rfl (Zcz rfl rfl u_0 u_1)<|Qm rfl u_0<|o_g (Qg_f rfl (fun hG=>Zh Zhj rfl rfl u_0))<|o_g (Qg_f rfl (fun hG=>Zs ty_9 rfl rfl (Opd.gd hG u_0)))<|o_g (Qg_f rfl (fun hG=>Zh Zhj rfl rfl u_0))<|o_g (Qg_f rfl (fun hG=>Zs ty_9 rfl rfl (Opd.gd hG u_0)))<|o_g (Qg_f rfl (fun hG=>Zmv rfl rfl (Opd.gd hG u_0) (Opd.gd hG u_1)))<|o_p rfl (Zbm rfl rfl u_0 (fun hz=>(Opd.gd (bNF hz) u_1)))<|Qm rfl u_0<|o_g (Qg_f rfl (fun hG=>Zh Zd4 rfl rfl u_0))<|o_g (Qg_f rfl (fun hG=>Zs ty_2 rfl rfl (Opd.gd hG u_0)))<|o_g (Qg_f rfl (fun hG=>Zh Zd4 rfl rfl u_0))<|o_g (Qg_f rfl (fun hG=>Zs ty_2 rfl rfl (Opd.gd hG u_0)))<|o_g (Qg_f rfl (fun hG=>Zcz rfl rfl (Opd.gd hG u_0) (Opd.gd hG u_1)))<|o_p rfl (Zbm rfl rfl u_0 (fun hz=>(Opd.gd (bNF hz) u_1)))<|Qm rfl u_0<|o_g (Qg_f rfl (fun hG=>Zh Zfs rfl rfl u_0))<|o_g (Qg_f rfl (fun hG=>Zs ty_9 rfl rfl (Opd.gd hG u_0)))<|o_g (Qg_f rfl (fun hG=>Zh Zfs rfl rfl u_0))<|o_g (Qg_f rfl (fun hG=>Zs ty_9 rfl rfl (Opd.gd hG u_0)))<|o_g (Qg_f rfl (fun hG=>Zmv rfl rfl (Opd.gd hG u_0) (Opd.gd hG u_1)))<|o_p rfl (Zbm rfl rfl u_0 (fun hz=>(Opd.gd (bNF hz) u_1)))<|Qm rfl u_0<|o_g (Qg_f rfl (fun hG=>Zh Zuc rfl rfl u_0))<|o_g (Qg_f rfl (fun hG=>Zs ty_4 rfl rfl (Opd.gd hG u_0)))<|o_g (Qg_f rfl (fun hG=>Zh Zuc rfl rfl u_0))<|o_g (Qg_f rfl (fun hG=>Zs ty_4 rfl rfl (Opd.gd hG u_0)))<|o_g (Qg_f rfl (fun hG=>Zbad Tryz.underlying4 rfl rfl (Opd.gd hG u_0) (Opd.gd hG u_1)))<|o_p rfl (Zbm rfl rfl u_0 (fun hz=>(Opd.gd (bNF hz) u_1)))<|o_n) (fun a g hst hb=>?_)
 refine wp_cond_split (hst.bool 2 rfl) (fun hc1=>?_) (fun hc1=>?_)
 ·replace H0:=Zu hc1 H0
  refine r_s (L:=[]) (T:=[⟨[],_,[],[],[4]⟩]) (F:=[.p 0 0]) (hst.pick [] rfl) hb Za
   (Qa rfl c_b<|o_n) (fun a g hst hb=>?_)
  refine wp_ret ?_
  refine Zp ?_
  obtain rfl:=Option.some.inj H0
  exact Z4 rfl hst hb (Zg (s:=4)) (hst.at 0 rfl)
 ·replace H0:=Zt hc1 H0
  refine wp_skip ?_
  refine Zq ?_
  obtain ⟨r2,h3,H0⟩:=Zd H0;obtain ⟨r4,h5,H0⟩:=Zd H0
  refine r_s (L:=[(2,_),(3,_)]) (T:=⟨[.o 0],_,[],[],[38]⟩ :: ⟨[.p 0 0],_,[],[0],[39]⟩ :: ⟨[.o 1],_,[],[],[40]⟩ :: ⟨[.p 2 0],_,[],[2],[41]⟩ :: ⟨[.p 1 0,.p 3 0],_,[],Lr 4,[42]⟩ :: ⟨[.p 4 0],_,[],Lr 5,[43]⟩ :: ⟨[.p 5 0,.o 0],_,[],Lr 6,[44]⟩ :: ⟨[.p 5 0,.p 6 0],_,[],Lr 7,[45]⟩ :: ⟨[.p 5 0,.o 1],_,[],Lr 6,[46]⟩ :: ⟨[.p 5 0,.p 8 0],_,[],[0,1,2,3,4,5,8],[47]⟩ :: ⟨[.p 5 0,.p 7 0,.p 9 0],_,[],Lr 10,[48]⟩ :: ⟨[.p 5 0,.p 10 0],_,[],Lr 11,[49]⟩ :: ⟨[.p 11 0],_,[],Lr 12,[4]⟩ :: []) (F:=[.p 12 0]) (hst.pick [0,1] rfl) hb Za
   (Qf rfl Ziu u_0<|Ql rfl Zc0 u_0<|Qf rfl Ziu u_0<|Ql rfl Zc0 u_0<|o_p rfl (Zl Zru (Zfz _ _ h3) rfl rfl (.cons u_0 (.cons u_1 .nil)))<|Qm rfl u_0<|o_g (Qg_t rfl (fun hG=>Zh Zll rfl rfl u_0))<|o_g (Qg_t rfl (fun hG=>Zs Zbb rfl rfl (Opd.gd hG u_0)))<|o_g (Qg_t rfl (fun hG=>Zh Zll rfl rfl u_0))<|o_g (Qg_t rfl (fun hG=>Zs Zbb rfl rfl (Opd.gd hG u_0)))<|o_g (Qg_t rfl (fun hG=>Zl Zzh (Zjr _ _ (Zbn h5 hG)) rfl rfl (.cons (Opd.gd hG u_0) (.cons (Opd.gd hG u_1) .nil))))<|o_p rfl (Zbg rfl rfl u_0 (fun hz=>(Opd.gd hz u_1)))<|Qa rfl u_0<|o_n) (fun a g hst hb=>?_)
  refine wp_ret ?_
  obtain rfl:=Option.some.inj H0
  exact Z4 rfl hst hb (Zg (s:=4)) (hst.at 0 rfl)
theorem Zps (a0:List Zbe) (a1:Zbk) (a2:List ByteArray) {r:Bool} (h:Ziv a0 a1 a2=some r):FnOk Tryz.prog 5 [(Zb1.sl.pd a0),(Zb5.pd a1),(Kd.str.sl.pd a2)] (Zbd r):=by
 have H0:=h
 unfold Ziv at H0
 clear h
 refine Zbt (N:=211) Tryz.func5 rfl rfl (Qe rfl) rfl rfl (fun a g0 hst hb=>?_)
 refine r_s (T:=[⟨[.o 1],_,[],[],[4]⟩,⟨[],_,[],[],[6]⟩]) (F:=[.o 0,.o 2,.p 0 0]) hst hb Za
  (Qb rfl u_0<|Qa rfl c_b<|o_n) (fun a g hst hb=>?_)
 refine wp_seq ?_
 obtain ⟨r1,h2,H0⟩:=Zd H0
 refine r_s (T:=[⟨[],_,[],[],[29]⟩,⟨[.p 0 0],_,[],[0],[30]⟩]) (F:=[.o 0,.o 1,.o 2,.p 1 0]) hst hb Za
  (o_p rfl (Zl en_7 (Zqz h2) rfl rfl .nil)<|Qn rfl u_0<|o_n) (fun a g hst hb=>?_)
 refine wp_cond_split (hst.bool 3 rfl) (fun hc3=>?_) (fun hc3=>?_)
 ·replace H0:=Zu hc3 H0
  refine r_s (L:=[]) (T:=[⟨[],_,[],[],[6]⟩]) (F:=[.p 0 0]) (hst.pick [] rfl) hb Za
   (Qa rfl c_b<|o_n) (fun a g hst hb=>?_)
  refine wp_ret ?_
  refine Zp ?_
  obtain rfl:=Option.some.inj H0
  exact Z4 rfl hst hb (Zg (s:=6)) (hst.at 0 rfl)
 ·replace H0:=Zt hc3 H0
  refine wp_skip ?_
  refine Zq ?_
  obtain ⟨r4,h5,H0⟩:=Zd H0
  refine r_s (L:=[(0,_),(2,_),(4,_)]) (T:=[⟨[.o 0],_,[],[],[32]⟩,⟨[.p 0 0],_,[],[0],[33]⟩,⟨[.p 1 0],_,[],[0,1],[31]⟩,⟨[.p 2 0],_,[],[0,1,2],[34]⟩,⟨[.p 2 0],_,[],[0,1,2],[35]⟩,⟨[],[(7,(pBox Zx 7 (default:Zk)))],[8],[],[7]⟩,⟨[.p 3 0,.p 5 0],_,[8],[0,1,2,3,5],[7]⟩,⟨[.p 4 0],_,[],Lr 7,[8]⟩]) (F:=[.o 1,.o 2,.p 6 0,.p 7 0]) (hst.pick [0,1,2] rfl) hb Za
   (Qm rfl u_0<|o_p rfl (Zl en_8 (Zrz _ _ h5) rfl rfl (.cons c_i (.cons u_0 .nil)))<|Qm rfl u_0<|o_p rfl (Z2 rfl rfl u_0 rfl)<|o_p rfl (Z2 rfl rfl u_0 rfl)<|o_p rfl (Zbh (zs:=[.pointer none,.int .i64 0]) (by kernel_rfl) (fun g=>Zd5 g) rfl rfl)<|o_p rfl (Zb6 Zbu rfl rfl u_1 u_0)<|Qa rfl u_0<|o_n) (fun a g hst hb=>?_)
  refine wp_seq ?_
  obtain ⟨r6,h7,H0⟩:=Zd H0
  refine r_s (T:=[⟨[.o 1],_,[],[],[37]⟩,⟨[.p 0 0],_,[],[0],[38]⟩,⟨[.p 1 0],_,[],[0,1],[36]⟩,⟨[.p 2 0],_,[],[0,1,2],[39]⟩,⟨[.p 2 0],_,[],[0,1,2],[40]⟩,⟨[.p 3 0],_,[],Lr 4,[9]⟩,⟨[.p 4 0],_,[],Lr 6,[10]⟩]) (F:=[.o 0,.o 1,.o 2,.o 3,.p 5 0]) hst hb Za
   (Ql rfl Zol u_0<|o_p rfl (Zl Z8h (Znj _ h7) rfl rfl (.cons u_0 .nil))<|Qm rfl u_0<|o_p rfl (Z2 rfl rfl u_0 rfl)<|o_p rfl (Z2 rfl rfl u_0 rfl)<|Qa rfl u_0<|Qa rfl u_0<|o_n) (fun a g hst hb=>?_)
  refine r_s (T:=[⟨[.o 3],_,[],[],[41]⟩,⟨[.p 0 0],_,[],[0],[42]⟩,⟨[.p 1 0],_,[],[0,1],[43]⟩,⟨[.p 2 0,.o 0],_,[],[0,1,2],[44]⟩,⟨[.p 2 0,.p 3 0],_,[],Lr 4,[45]⟩,⟨[.p 2 0,.p 4 0],_,[],Lr 5,[46]⟩,⟨[.p 2 0,.p 5 0],_,[],Lr 6,[47]⟩,⟨[.p 6 0],_,[],Lr 7,[48]⟩,⟨[.p 7 0,.o 4],_,[],Lr 8,[49]⟩,⟨[.p 7 0,.p 8 0],_,[],Lr 9,[50]⟩,⟨[.p 7 0,.p 9 0],_,[],Lr 10,[51]⟩]) (F:=[.o 0,.o 1,.o 2,.o 3,.p 10 0]) hst hb Za
   (Qm rfl u_0<|o_p rfl (Zow Tryz.underlying31 rfl rfl u_0 Z5n)<|Qm rfl u_0<|o_g (Qg_f rfl (fun hG=>Z1 rfl rfl u_0))<|o_g (Qg_f rfl (fun hG=>Zbv Tryz.underlying26 rfl rfl (Opd.gd hG u_0)))<|o_g (Qg_f rfl (fun hG=>Zcv rfl rfl (Opd.gd hG u_0) c_i))<|o_p rfl (Zbm rfl rfl u_0 (fun hz=>(Opd.gd (bNF hz) u_1)))<|Qm rfl u_0<|o_g (Qg_f rfl (fun hG=>Z1 rfl rfl u_0))<|o_g (Qg_f rfl (fun hG=>Zcz rfl rfl (Opd.gd hG u_0) c_i))<|o_p rfl (Zbm rfl rfl u_0 (fun hz=>(Opd.gd (bNF hz) u_1)))<|o_n) (fun a g hst hb=>?_)
  refine wp_cond_split (hst.bool 4 rfl) (fun hc8=>?_) (fun hc8=>?_)
  ·replace H0:=Zu hc8 H0
   refine r_s (L:=[]) (T:=[⟨[],_,[],[],[6]⟩]) (F:=[.p 0 0]) (hst.pick [] rfl) hb Za
    (Qa rfl c_b<|o_n) (fun a g hst hb=>?_)
   refine wp_ret ?_
   refine Zp ?_
   obtain rfl:=Option.some.inj H0
   exact Z4 rfl hst hb (Zg (s:=6)) (hst.at 0 rfl)
  ·replace H0:=Zt hc8 H0
   refine wp_skip ?_
   refine Zq ?_
   obtain ⟨r9,h10,H0⟩:=Zd H0
   refine r_s (L:=[(2,_),(4,_),(7,_),(8,_)]) (T:=[⟨[.o 1],_,[],[],[52]⟩,⟨[.o 2],_,[],[],[53]⟩,⟨[.o 0],_,[],[],[54]⟩,⟨[.p 0 0,.p 1 0,.p 2 0],[(55,(Zcw none Zcq 55 r9))],[56,1000056],[0,1,2],[55]⟩,⟨[.p 3 0],[(11,(Zcw none Zcq 55 r9))],[],Lr 4,[11]⟩]) (F:=[.o 0,.o 1,.o 2,.o 3,.p 4 0]) (hst.pick [0,1,2,3] rfl) hb Za
    (Ql rfl Zol u_0<|Ql rfl Zbu u_0<|Qm rfl u_0<|o_p rfl (Zqp Z4u (Zqo _ _ _ h10) rfl rfl (.cons u_0 (.cons u_1 (.cons u_2 .nil))))<|Qa rfl u_0<|o_n) (fun a g hst hb=>?_)
   obtain ⟨r11,h12,H0⟩:=Zd H0
   refine r_s (T:=[⟨[.o 4],[(56,(Zcw none Zcq 55 r9))],[],[],[56]⟩,⟨[.p 0 0,.o 4],[(57,(pInt .i64 r11.2)),(11,(Zcw none Zcq 55 r11.1))],[56,1000056],[0],[11,56,57]⟩,⟨[.p 1 0],_,[],[0,1],[12]⟩]) (F:=[.o 0,.o 1,.o 2,.o 3,.p 1 1,.p 2 0]) hst hb Za
    (Qm rfl u_0<|o_p rfl (Zhp Zbeb (Ztk _ h12) rfl rfl rfl (by decide) u_1 u_0 .nil)<|Qa rfl u_0<|o_n) (fun a g hst hb=>?_)
   refine r_s (T:=[⟨[],[(13,(pRow Zy 40 13 ([]:List Zm)))],[],[],[13]⟩,⟨[],[(14,(pRow Zy 40 14 ([]:List Zm)))],[],[0],[14]⟩]) (F:=[.o 0,.o 1,.o 2,.o 3,.o 4,.o 5,.p 0 0,.p 1 0]) hst hb Za
    (o_p rfl (Zch rfl rfl (Opd.c (fun g=>Zma 13 g)))<|o_p rfl (Zch rfl rfl (Opd.c (fun g=>Zma 14 g)))<|o_n) (fun a g hst hb=>?_)
   refine r_s (T:=[⟨[],[(15,(pRow (Kd.int .i64) 3 15 ([]:List Int)))],[],[],[15]⟩]) (F:=[.o 0,.o 1,.o 2,.o 3,.o 4,.o 5,.o 6,.o 7,.p 0 0]) hst hb Za
    (o_p rfl (Zch rfl rfl (Opd.c (fun g=>Zma 15 g)))<|o_n) (fun a g hst hb=>?_)
   refine wp_seq ?_
   refine r_s (T:=[⟨[.o 1],_,[],[],[58]⟩,⟨[.p 0 0],_,[],[0],[59]⟩,⟨[.p 1 0],_,[],[0,1],[60]⟩,⟨[],_,[],[],[61]⟩]) (F:=[.o 0,.o 1,.o 2,.o 3,.o 4,.o 5,.o 6,.o 7,.o 8,.p 1 0,.p 2 0,.p 3 0]) hst hb Za
    (Qf rfl Zh6 u_0<|Ql rfl Zkk u_0<|o_p rfl (Zbv Tryz.underlying23 rfl rfl u_0)<|Qm rfl c_i<|o_n) (fun a g hst hb=>?_)
   obtain ⟨z32,hz1,H0⟩:=Zd H0
   refine Zb3 (fun a w=>∃ (y29:List Zm) (y30:List Zm) (y31:List Int) (g:G),w=g.w ∧ St 211 [(4,(Zb5.ptr a1)),(7,(Zx.ptr r4.1)),(8,(Z9.opt.pd r4.2)),(11,(Zcw none Zcq 55 r11.1)),(12,(pInt .i64 r11.2)),(13,(pRow Zy 40 13 y29)),(14,(pRow Zy 40 14 y30)),(15,(pRow (Kd.int .i64) 3 15 y31))] a g ∧ Base g0 g ∧ (y29,y30,y31)=z32) ?_ ?_
   ·rintro a w ⟨y29,y30,y31,g,rfl,hst,hb,rfl⟩
    refine Zq ?_
    obtain ⟨n33,h34,H0⟩:=Zd H0
    refine r_s (T:=[⟨[.o 2],_,[],[],[83]⟩,⟨[.p 0 0],_,[],[0],[84]⟩,⟨[.p 1 0],_,[],[0,1],[85]⟩,⟨[],_,[],[],[86]⟩,⟨[],[(18,(pBox Z9 18 (default:Zf)))],[19],[],[18]⟩,⟨[],[(19,(pBox Zbp 19 (default:Zw)))],[20],[],[19]⟩,⟨[.p 2 0,.p 4 0],_,[19],[0,1,2,4,5],[18]⟩,⟨[.p 3 0,.p 5 0],_,[20],Lr 7,[19]⟩]) (F:=[.o 0,.o 1,.o 2,.o 3,.o 4,.o 5,.o 6,.o 7,.p 6 0,.p 7 0]) hst hb Za
     (Qm rfl u_0<|o_p rfl (Zo rfl rfl (Opd.imp u_0 (fun _ _ h=>Z08 h34 h)) (fun _ _ ⟨_,_,_,e,_⟩=>⟨_,e⟩))<|Ql rfl Zco u_0<|o_p rfl (Z5v rfl rfl )<|o_p rfl (Zbh (zs:=[.slice none 0 0,.int .i64 0]) (by kernel_rfl) (fun g=>Zfn g) rfl rfl)<|o_p rfl (Zbh (zs:=[.int .i64 0,.int .i64 0,.slice none 0 0]) (by kernel_rfl) (fun g=>Zjt g) rfl rfl)<|o_p rfl (Z3 Zco rfl rfl u_1 u_0)<|o_p rfl (Z3 Zi5 rfl rfl u_1 u_0)<|o_n) (fun a g hst hb=>?_)
    refine wp_seq ?_
    refine r_s (T:=[⟨[.o 6],_,[],[],[87]⟩,⟨[.p 0 0],_,[],[0],[88]⟩,⟨[.p 1 0],_,[],[0,1],[89]⟩]) (F:=[.o 0,.o 1,.o 2,.o 3,.o 4,.o 5,.o 6,.o 7,.o 8,.o 9,.p 2 0]) hst hb Za
     (Qm rfl u_0<|o_p rfl (Zbv Tryz.underlying23 rfl rfl (Opd.imp u_0 (fun _ _ h=>Zd0 h)))<|o_p rfl (Zcv rfl rfl u_0 c_i)<|o_n) (fun a g hst hb=>?_)
    refine Zb3 (fun a w=>∃ (j38:Zf) (j39:Zw) (g:G),w=g.w ∧ St 211 [(4,(Zb5.ptr a1)),(7,(Zx.ptr r4.1)),(11,(Zcw none Zcq 55 r11.1)),(12,(pInt .i64 r11.2)),(13,(pRow Zy 40 13 y29)),(15,(pRow (Kd.int .i64) 3 15 y31)),(18,(pBox Z9 18 j38)),(19,(pBox Zbp 19 j39))] a g ∧ Base g0 g ∧ Ze8 a1 r4 r11 y29 y31 j38 j39=some r) ?_ ?_
    ·rintro a w ⟨j38,j39,g,rfl,hst,hb,H0⟩
     unfold Ze8 at H0
     refine Zq ?_
     obtain ⟨r40,h41,H0⟩:=Zd H0
     refine r_s (T:=[⟨[.o 2],[(100,(Zcw none Zcq 55 r11.1))],[],[],[100]⟩,⟨[.p 0 0,.o 2],[(101,(pTup [(Zbp.pd r40.1),(Zbd r40.2)])),(11,(Zcw none Zcq 55 r11.1))],[56,1000056],[0],[11,100,101]⟩,⟨[.p 1 0],_,[],[0,1],[99]⟩,⟨[.p 2 0],_,[],[0,1,2],[102]⟩,⟨[.p 2 0],_,[],[0,1,2],[103]⟩,⟨[],[(20,(pBox Zbp 20 (default:Zw)))],[21],[],[20]⟩,⟨[.p 3 0,.p 5 0],_,[21],[0,1,2,3,5],[20]⟩,⟨[.p 4 0],_,[],Lr 7,[21]⟩]) (F:=[.o 0,.o 1,.p 1 1,.o 3,.o 4,.o 5,.o 6,.o 7,.p 6 0,.p 7 0]) hst hb Za
      (Qm rfl u_0<|o_p rfl (Zhp Z8i (Zn2 _ h41) rfl rfl rfl (by decide) u_1 u_0 .nil)<|Qm rfl u_0<|o_p rfl (Z2 rfl rfl u_0 rfl)<|o_p rfl (Z2 rfl rfl u_0 rfl)<|o_p rfl (Zbh (zs:=[.int .i64 0,.int .i64 0,.slice none 0 0]) (by kernel_rfl) (fun g=>Zjt g) rfl rfl)<|o_p rfl (Zb6 Zi5 rfl rfl u_1 u_0)<|Qa rfl u_0<|o_n) (fun a g hst hb=>?_)
     obtain ⟨r42,h43,H0⟩:=Zd H0
     refine r_s (T:=[⟨[.o 2],[(105,(Zcw none Zcq 55 r11.1))],[],[],[105]⟩,⟨[.o 1],_,[],[],[106]⟩,⟨[.p 0 0,.p 1 0,.o 2],[(107,(pTup [(Zx.pd r42.1),(Zy.sl.pd r42.2)])),(11,(Zcw none Zcq 55 r11.1))],[56,1000056],[0,1],[11,105,107]⟩,⟨[.p 2 0],_,[],[0,1,2],[104]⟩,⟨[.p 3 0],_,[],Lr 4,[108]⟩,⟨[.p 3 0],_,[],Lr 4,[109]⟩,⟨[],[(22,(pBox Zx 22 (default:Zk)))],[23],[],[22]⟩,⟨[.p 4 0,.p 6 0],_,[23],[0,1,2,3,4,6],[22]⟩,⟨[.p 5 0],_,[],Lr 8,[23]⟩]) (F:=[.o 0,.o 1,.o 3,.o 4,.o 5,.o 6,.o 7,.o 8,.o 9,.p 7 0,.p 8 0]) hst hb Za
      (Qm rfl u_0<|Ql rfl Zbu u_0<|o_p rfl (Zhp Z3o (Zlo _ _ h43) rfl rfl rfl (by decide) u_2 u_0 (.cons u_1 .nil))<|Qm rfl u_0<|o_p rfl (Z2 rfl rfl u_0 rfl)<|o_p rfl (Z2 rfl rfl u_0 rfl)<|o_p rfl (Zbh (zs:=[.pointer none,.int .i64 0]) (by kernel_rfl) (fun g=>Zd5 g) rfl rfl)<|o_p rfl (Zb6 Zbu rfl rfl u_1 u_0)<|Qa rfl u_0<|o_n) (fun a g hst hb=>?_)
     refine wp_seq ?_
     refine r_s (T:=[⟨[.o 6],_,[],[],[110]⟩,⟨[.p 0 0],_,[],[0],[111]⟩,⟨[.p 1 0],_,[],[0,1],[112]⟩]) (F:=[.o 0,.o 1,.o 2,.o 3,.o 4,.o 5,.o 6,.o 7,.o 8,.o 9,.o 10,.p 2 0]) hst hb Za
      (o_p rfl (Zr Zud (off:=0) (by kernel_rfl) rfl rfl u_0)<|QP rfl Zjb u_0<|o_p rfl (Zcz rfl rfl u_0 c_i)<|o_n) (fun a g hst hb=>?_)
     refine wp_cond_split (hst.bool 11 rfl) (fun hc44=>?_) (fun hc44=>?_)
     ·replace H0:=Zu hc44 H0
      obtain ⟨e45,h46,H0⟩:=Zd H0
      refine r_s (L:=[(7,_),(12,_),(15,_),(19,_),(20,_),(21,_),(22,_),(23,_)]) (T:=[⟨[.o 2],_,[],[],[113]⟩,⟨[.o 3],_,[],[],[114]⟩,⟨[.p 1 0],_,[],[1],[115]⟩,⟨[.p 2 0],_,[],[1,2],[116]⟩,⟨[.p 0 0,.p 3 0],_,[],Lr 4,[117]⟩,⟨[.p 4 0],_,[],Lr 5,[118]⟩,⟨[.p 5 0],_,[],Lr 6,[119]⟩,⟨[.p 6 0],_,[],Lr 7,[24]⟩]) (F:=[.o 0,.o 1,.o 3,.o 4,.o 5,.o 6,.o 7,.p 7 0]) (hst.pick [1,2,4,6,7,8,9,10] rfl) hb Za
       (Qm rfl u_0<|o_p rfl (Zr Zxh (off:=1) (by kernel_rfl) rfl rfl u_0)<|QP rfl ty_3 u_0<|o_p rfl (Zg7 rfl rfl u_0 c_i rfl)<|o_p rfl (Zbi Tryz.underlying65 sz_3 rfl rfl (Opd.imp u_0 (fun _ _ h=>Zd0 h)) u_1 h46)<|Ql rfl ty_3 u_0<|o_p rfl (Zbz rfl rfl u_0 c_i rfl)<|Qa rfl u_0<|o_n) (fun a g hst hb=>?_)
      obtain ⟨r47,h48,H0⟩:=Zd H0;obtain ⟨r49,h50,H0⟩:=Zd H0
      refine r_s (T:=⟨[.o 4],_,[],[],[120]⟩ :: ⟨[.p 0 0],_,[],[0],[121]⟩ :: ⟨[.p 1 0,.o 1],_,[],[0,1],[122]⟩ :: ⟨[.p 1 0,.o 7],_,[],[0,1],[123]⟩ :: ⟨[.p 1 0,.p 2 0,.p 3 0],_,[],Lr 4,[124]⟩ :: ⟨[.p 1 0,.p 4 0],_,[],Lr 5,[125]⟩ :: ⟨[.p 5 0],_,[],Lr 6,[126]⟩ :: ⟨[.p 6 0,.o 3],_,[],Lr 7,[127]⟩ :: ⟨[.p 6 0,.o 2],_,[],Lr 7,[128]⟩ :: ⟨[.p 6 0,.p 8 0],_,[],[0,1,2,3,4,5,6,8],[129]⟩ :: ⟨[.p 6 0,.o 7],_,[],Lr 7,[130]⟩ :: ⟨[.p 6 0,.p 9 0,.p 10 0],_,[],[0,1,2,3,4,5,6,8,9,10],[131]⟩ :: ⟨[.p 6 0,.p 7 0,.p 11 0],_,[],Lr 12,[132]⟩ :: ⟨[.p 6 0,.p 12 0],_,[],Lr 13,[133]⟩ :: ⟨[.p 13 0],_,[],Lr 14,[134]⟩ :: ⟨[.p 14 0,.o 5],_,[],Lr 15,[135]⟩ :: ⟨[.p 14 0,.o 0],_,[],Lr 15,[136]⟩ :: ⟨[.p 14 0,.p 15 0,.p 16 0],_,[],Lr 17,[137]⟩ :: ⟨[.p 14 0,.p 17 0],_,[],Lr 18,[138]⟩ :: ⟨[.p 18 0],_,[],Lr 19,[139]⟩ :: ⟨[.p 19 0,.o 6],_,[],Lr 20,[140]⟩ :: ⟨[.p 19 0,.p 20 0],_,[],Lr 21,[141]⟩ :: ⟨[.p 19 0,.p 21 0],_,[],Lr 22,[142]⟩ :: ⟨[.p 19 0,.p 22 0],_,[],Lr 23,[143]⟩ :: ⟨[.p 23 0],_,[],Lr 24,[6]⟩ :: []) (F:=[.p 24 0]) hst hb Za
       (Qm rfl u_0<|Qm rfl u_0<|o_g (Qg_t rfl (fun hG=>Z1 rfl rfl u_0))<|o_g (Qg_t rfl (fun hG=>Z1 rfl rfl u_0))<|o_g (Qg_t rfl (fun hG=>Zbr rfl rfl (Opd.gd hG u_0) (Opd.gd hG u_1)))<|o_p rfl (Zbg rfl rfl u_0 (fun hz=>(Opd.gd hz u_1)))<|Qm rfl u_0<|o_g (Qg_t rfl (fun hG=>Zs Zi5 rfl rfl u_0))<|o_g (Qg_t rfl (fun hG=>Zr Zud (off:=0) (by kernel_rfl) rfl rfl u_0))<|o_g (Qg_t rfl (fun hG=>Zh3 Zjb rfl rfl (Opd.gd hG u_0)))<|o_g (Qg_t rfl (fun hG=>Z1 rfl rfl u_0))<|o_g (Qg_t rfl (fun hG=>Ztp rfl rfl (Opd.gd hG u_0) (Opd.gd hG u_1)))<|o_g (Qg_t rfl (fun hG=>Zl Z75 (Znm _ _ (Zbn h48 hG)) rfl rfl (.cons (Opd.gd hG u_0) (.cons (Opd.gd hG u_1) .nil))))<|o_p rfl (Zbg rfl rfl u_0 (fun hz=>(Opd.gd hz u_1)))<|Qm rfl u_0<|o_g (Qg_t rfl (fun hG=>Zs Zbu rfl rfl u_0))<|o_g (Qg_t rfl (fun hG=>Zs Zbu rfl rfl u_0))<|o_g (Qg_t rfl (fun hG=>Zl Z8l (Zr9 _ _ (Zbn h50 hG)) rfl rfl (.cons (Opd.gd hG u_0) (.cons (Opd.gd hG u_1) .nil))))<|o_p rfl (Zbg rfl rfl u_0 (fun hz=>(Opd.gd hz u_1)))<|Qm rfl u_0<|o_g (Qg_t rfl (fun hG=>Z1 rfl rfl u_0))<|o_g (Qg_t rfl (fun hG=>Zbv Tryz.underlying23 rfl rfl (Opd.gd hG u_0)))<|o_g (Qg_t rfl (fun hG=>Zbr rfl rfl (Opd.gd hG u_0) c_i))<|o_p rfl (Zbg rfl rfl u_0 (fun hz=>(Opd.gd hz u_1)))<|Qa rfl u_0<|o_n) (fun a g hst hb=>?_)
      refine wp_ret ?_
      refine Zp ?_
      obtain rfl:=Option.some.inj H0
      exact Z4 rfl hst hb (Zg (s:=6)) (hst.at 0 rfl)
     ·replace H0:=Zt hc44 H0
      refine wp_skip ?_
      refine Zq ?_
      refine wp_seq ?_
      obtain ⟨r51,h52,H0⟩:=Zd H0
      refine r_s (L:=[(4,_),(12,_),(13,_),(15,_),(18,_),(19,_),(20,_),(21,_),(22,_),(23,_)]) (T:=⟨[.o 7],_,[],[],[144]⟩ :: ⟨[.p 0 0],_,[],[0],[145]⟩ :: ⟨[.p 1 0],_,[],[0,1],[146]⟩ :: ⟨[.p 2 0,.o 1],_,[],[0,1,2],[147]⟩ :: ⟨[.p 2 0,.o 0],_,[],[0,1,2],[148]⟩ :: ⟨[.p 2 0,.p 4 0],_,[],[0,1,2,4],[149]⟩ :: ⟨[.p 2 0,.p 5 0],_,[],[0,1,2,4,5],[150]⟩ :: ⟨[.p 2 0,.p 3 0,.p 6 0],_,[],Lr 7,[151]⟩ :: ⟨[.p 2 0,.p 7 0],_,[],Lr 8,[152]⟩ :: ⟨[.p 8 0],_,[],Lr 9,[153]⟩ :: ⟨[.p 9 0,.o 6],_,[],Lr 10,[154]⟩ :: ⟨[.p 9 0,.p 10 0],_,[],Lr 11,[155]⟩ :: ⟨[.p 9 0,.p 11 0],_,[],Lr 12,[156]⟩ :: ⟨[.p 9 0,.o 1],_,[],Lr 10,[157]⟩ :: ⟨[.p 9 0,.p 12 0,.p 13 0],_,[],Lr 14,[158]⟩ :: ⟨[.p 9 0,.p 14 0],_,[],Lr 15,[159]⟩ :: ⟨[.p 15 0],_,[],Lr 16,[160]⟩ :: ⟨[.p 16 0,.o 9],_,[],Lr 17,[161]⟩ :: ⟨[.p 16 0,.p 17 0],_,[],Lr 18,[162]⟩ :: ⟨[.p 16 0,.o 2],_,[],Lr 17,[163]⟩ :: ⟨[.p 16 0,.p 19 0],_,[],0 :: 1 :: 2 :: 3 :: 4 :: 5 :: 6 :: 7 :: 8 :: 9 :: 10 :: 11 :: 12 :: 13 :: 14 :: 15 :: 16 :: 19 :: [],[164]⟩ :: ⟨[.p 16 0,.p 18 0,.p 20 0],_,[],Lr 21,[165]⟩ :: ⟨[.p 16 0,.p 21 0],_,[],Lr 22,[166]⟩ :: ⟨[.p 22 0],_,[],Lr 23,[167]⟩ :: ⟨[.p 23 0,.o 8],_,[],Lr 24,[168]⟩ :: ⟨[.p 23 0,.o 4],_,[],Lr 24,[169]⟩ :: ⟨[.p 23 0,.p 24 0,.p 25 0],_,[],Lr 26,[170]⟩ :: ⟨[.p 23 0,.p 26 0],_,[],Lr 27,[171]⟩ :: ⟨[.p 23 0,.p 27 0],_,[],Lr 28,[172]⟩ :: []) (F:=[.o 1,.o 2,.o 3,.o 5,.o 6,.o 9,.p 28 0]) (hst.pick [0,2,3,4,5,6,7,8,9,10] rfl) hb Za
       (Qm rfl u_0<|Qn rfl u_0<|Qm rfl u_0<|o_g (Qg_f rfl (fun hG=>Z1 rfl rfl u_0))<|o_g (Qg_f rfl (fun hG=>Zh Zh6 rfl rfl u_0))<|o_g (Qg_f rfl (fun hG=>Zs Zkk rfl rfl (Opd.gd hG u_0)))<|o_g (Qg_f rfl (fun hG=>Zbv Tryz.underlying23 rfl rfl (Opd.gd hG u_0)))<|o_g (Qg_f rfl (fun hG=>Zcz rfl rfl (Opd.gd hG u_0) (Opd.gd hG u_1)))<|o_p rfl (Zbm rfl rfl u_0 (fun hz=>(Opd.gd (bNF hz) u_1)))<|Qm rfl u_0<|o_g (Qg_f rfl (fun hG=>Zh Zli rfl rfl u_0))<|o_g (Qg_f rfl (fun hG=>Zs Zpd rfl rfl (Opd.gd hG u_0)))<|o_g (Qg_f rfl (fun hG=>Zbv Tryz.underlying47 rfl rfl (Opd.gd hG u_0)))<|o_g (Qg_f rfl (fun hG=>Z1 rfl rfl u_0))<|o_g (Qg_f rfl (fun hG=>Zcz rfl rfl (Opd.gd hG u_0) (Opd.gd hG u_1)))<|o_p rfl (Zbm rfl rfl u_0 (fun hz=>(Opd.gd (bNF hz) u_1)))<|Qm rfl u_0<|o_g (Qg_f rfl (fun hG=>Z1 rfl rfl u_0))<|o_g (Qg_f rfl (fun hG=>Zbv Tryz.underlying23 rfl rfl (Opd.gd hG u_0)))<|o_g (Qg_f rfl (fun hG=>Z1 rfl rfl u_0))<|o_g (Qg_f rfl (fun hG=>Zbv Tryz.underlying23 rfl rfl (Opd.imp (Opd.gd hG u_0) (fun _ _ h=>Zd0 h))))<|o_g (Qg_f rfl (fun hG=>Zcz rfl rfl (Opd.gd hG u_0) (Opd.gd hG u_1)))<|o_p rfl (Zbm rfl rfl u_0 (fun hz=>(Opd.gd (bNF hz) u_1)))<|Qm rfl u_0<|o_g (Qg_f rfl (fun hG=>Zs Zbu rfl rfl u_0))<|o_g (Qg_f rfl (fun hG=>Zve Zco rfl rfl u_0))<|o_g (Qg_f rfl (fun hG=>Zl Zbdw (Zuk _ _ (Zbn h52 hG)) rfl rfl (.cons (Opd.gd hG u_0) (.cons (Opd.gd hG u_1) .nil))))<|o_g (Qg_f rfl (fun hG=>Zcz rfl rfl (Opd.gd hG u_0) c_i))<|o_p rfl (Zbm rfl rfl u_0 (fun hz=>(Opd.gd (bNF hz) u_1)))<|o_n) (fun a g hst hb=>?_)
      refine wp_cond_split (hst.bool 6 rfl) (fun hc53=>?_) (fun hc53=>?_)
      ·replace H0:=Zu hc53 H0
       refine r_s (L:=[]) (T:=[⟨[],_,[],[],[6]⟩]) (F:=[.p 0 0]) (hst.pick [] rfl) hb Za
        (Qa rfl c_b<|o_n) (fun a g hst hb=>?_)
       refine wp_ret ?_
       refine Zp ?_
       obtain rfl:=Option.some.inj H0
       exact Z4 rfl hst hb (Zg (s:=6)) (hst.at 0 rfl)
      ·replace H0:=Zt hc53 H0
       refine wp_skip ?_
       refine Zq ?_
       refine wp_seq ?_
       refine r_s (L:=[(12,_),(13,_),(15,_),(19,_),(20,_),(23,_)]) (T:=[⟨[.o 1],_,[],[],[173]⟩,⟨[.p 0 0],_,[],[0],[174]⟩,⟨[],_,[],[],[175]⟩]) (F:=[.o 0,.o 1,.o 2,.o 3,.o 4,.o 5,.p 0 0,.p 1 0,.p 2 0]) (hst.pick [0,1,2,3,4,5] rfl) hb Za
        (Qm rfl u_0<|o_p rfl (Zbv Tryz.underlying23 rfl rfl (Opd.imp u_0 (fun _ _ h=>Zd0 h)))<|Qm rfl c_i<|o_n) (fun a g hst hb=>?_)
       obtain ⟨z63,hz2,H0⟩:=Zd H0
       refine Zb3 (fun a w=>∃ (g:G),w=g.w ∧ St 211 [(12,(pInt .i64 r11.2)),(15,(pRow (Kd.int .i64) 3 15 y31)),(19,(pBox Zbp 19 j39)),(20,(Zbp.ptr r40.1))] a g ∧ Base g0 g ∧ (.inr ())=z63) ?_ ?_
       ·rintro a w ⟨g,rfl,hst,hb,rfl⟩
        refine Zq ?_
        obtain ⟨h64,H0⟩:=Zev H0
        refine r_s (T:=[⟨[.o 0],_,[],[],[189]⟩,⟨[.p 0 0],[(190,(pArr Zj 68 190 (List.replicate (Int.toNat r11.2) (default:Zc))))],[191],[0],[190]⟩,⟨[.p 1 0],_,[],[0,1],[26]⟩]) (F:=[.o 1,.o 2,.o 3,.p 2 0]) hst hb Za
         (Qm rfl u_0<|o_p rfl (Z84 (zs:=[.int .i64 0,.int .i64 0,.int .i64 0,.int .i64 0,.int .i64 0,.int .i64 0,.float .f64 0,.int .i64 0,.string ByteArray.empty,.slice none 0 0]) (zv:=(default:Zc)) Zqf (by kernel_rfl) (fun g=>Zd6 g) (by decide) rfl rfl (Opd.to u_0 (congrArg (pInt .i64) (Int.toNat_of_nonneg h64.1).symm)) (Opd.to u_0 (congrArg (pInt .i64) (Int.toNat_of_nonneg h64.1).symm)) h64.2 (Nat.le_trans (Nat.le_mul_of_pos_right _ (by decide)) h64.2))<|Qa rfl u_0<|o_n) (fun a g hst hb=>?_)
        refine wp_seq ?_
        refine r_s (T:=[⟨[.o 0],_,[],[],[191]⟩,⟨[.p 0 0],_,[],[0],[192]⟩,⟨[],_,[],[],[193]⟩]) (F:=[.o 1,.o 2,.o 3,.p 0 0,.p 1 0,.p 2 0]) hst hb Za
         (Qm rfl u_0<|o_p rfl (Zbv Tryz.underlying65 rfl rfl (Opd.imp u_0 (fun _ _ h=>Zd0 h)))<|Qm rfl c_i<|o_n) (fun a g hst hb=>?_)
        obtain ⟨z75,hz3,H0⟩:=Zd H0
        refine Zb3 (fun a w=>∃ (y74:List Zc) (g:G),w=g.w ∧ St 211 [(20,(Zbp.ptr r40.1)),(26,(pArr Zj 68 190 y74))] a g ∧ Base g0 g ∧ y74=z75) ?_ ?_
        ·rintro a w ⟨y74,g,rfl,hst,hb,rfl⟩
         refine Zq ?_
         obtain ⟨r76,h77,H0⟩:=Zd H0
         refine r_s (T:=[⟨[.o 0],_,[],[],[207]⟩,⟨[.o 1],_,[191],[],[26,208]⟩,⟨[.p 1 0],_,[],[1],[209]⟩,⟨[.p 0 0,.p 2 0],_,[],[0,1,2],[210]⟩,⟨[.p 3 0],_,[],Lr 4,[6]⟩]) (F:=[.p 4 0]) hst hb Za
          (Ql rfl Zi5 u_0<|o_p rfl (Z6y (.inl rfl) rfl u_0)<|o_p rfl (Z2x rfl rfl u_0)<|o_p rfl (Zl Z75 (Znm _ _ h77) rfl rfl (.cons u_0 (.cons u_1 .nil)))<|Qa rfl u_0<|o_n) (fun a g hst hb=>?_)
         refine wp_ret ?_
         obtain rfl:=Option.some.inj H0
         exact Z4 rfl hst hb (Zg (s:=6)) (hst.at 0 rfl)
        ·refine wp_block ?_
         refine wp_loop_ghost (fun n a w=>∃ (x65:List Zc) (x66:Int) (g:G),w=g.w ∧ St 211 [(19,(pBox Zbp 19 j39)),(20,(Zbp.ptr r40.1)),(26,(pArr Zj 68 190 x65)),(191,(pRow (Kd.int .i64) 3 15 y31)),(192,(pInt .i64 (y31.length:Int))),(193,(pInt .i64 x66))] a g ∧ Base g0 g ∧ Zdr y31 j39 n x65 x66=some z75) (Int.toNat ((y31.length:Int) - (0:Int)) + 1) ⟨(List.replicate (Int.toNat r11.2) (default:Zc)),(0:Int),g,rfl,(hst.pick [0,1,2,3,4,5] rfl),hb,hz3⟩ (fun n a w hI=>?_)
         obtain ⟨x65,x66,g,rfl,hst,hb,H1⟩:=hI
         cases n with
         | zero=>exact absurd H1 (by simp [Zdr])
         | succ n =>
          rw [Zdr] at H1
          refine r_s (T:=[⟨[.o 5,.o 4],_,[],[],[194]⟩]) (F:=[.o 0,.o 1,.o 2,.o 3,.o 4,.o 5,.p 0 0]) hst hb Za
           (o_p rfl (Zca rfl rfl u_0 u_1)<|o_n) (fun a g hst hb=>?_)
          refine wp_seq ?_
          refine wp_cond_split (hst.bool 6 rfl) (fun hc67=>?_) (fun hc67=>?_)
          ·replace H1:=Zu hc67 H1
           refine wp_skip ?_
           refine Zq ?_
           refine wp_seq ?_
           refine wp_block ?_
           obtain ⟨e68,h69,H1⟩:=Zd H1
           refine r_s (L:=[(19,_),(20,_),(26,_),(191,_),(192,_),(193,_)]) (T:=[⟨[.o 5],_,[],[],[195]⟩,⟨[.o 3,.o 5],_,[],[],[196]⟩,⟨[.p 1 0],_,[],[1],[197]⟩,⟨[.p 0 0],_,[],[0,1,2],[27]⟩,⟨[.p 2 0],_,[],Lr 4,[28]⟩]) (F:=[.o 0,.o 1,.o 2,.p 3 0,.p 4 0,.o 3,.o 4,.o 5]) (hst.pick [0,1,2,3,4,5] rfl) hb Za
            (Qm rfl u_0<|o_p rfl (Zbi Tryz.underlying65 sz_3 rfl rfl (Opd.imp u_0 (fun _ _ h=>Zd0 h)) u_1 h69)<|Ql rfl ty_3 u_0<|Qa rfl u_0<|Qa rfl u_0<|o_n) (fun a g hst hb=>?_)
           obtain ⟨e70,h71,H1⟩:=Zd H1;obtain ⟨e72,h73,H1⟩:=Zd H1
           refine r_g (T:=[⟨[.o 2],_,[],[],[198]⟩,⟨[.o 4],_,[],[],[199]⟩,⟨[.o 0],_,[],[],[200]⟩,⟨[.p 2 0],_,[],[2],[201]⟩,⟨[.o 3],_,[],[],[202]⟩,⟨[.p 3 0,.p 4 0],_,[],[2,3,4],[203]⟩,⟨[.p 5 0],_,[],List.range' 2 4,[204]⟩,⟨[.p 0 0,.p 1 0],_,[],Lr 7,[205]⟩,⟨[.p 6 0,.p 7 0,.o 2],_,[191],Lr 8,[26,198,205]⟩]) (F:=[.o 0,.o 1,.p 8 0,.o 5,.o 6,.o 7]) hst hb Za
            (Qm rfl u_0<|Qm rfl u_0<|o_p rfl (Zr Zli (off:=2) (by kernel_rfl) rfl rfl u_0)<|QP rfl Zpd u_0<|Qm rfl u_0<|o_p rfl (Zbi Tryz.underlying47 Zub rfl rfl u_0 u_1 h71)<|Ql rfl Zb2 u_0<|o_p rfl (Zo1 Tryz.underlying47 Zub rfl rfl u_0 u_1 h73)<|o_p rfl (Z2g (u:=e72) Zb2 rfl rfl u_2 u_1 u_0 (Zxc h73) (by decide))<|o_n) (fun a g hst hb=>?_)
           refine Zbc ?_
           refine Zq ?_
           refine r_g (T:=[⟨[.o 5],_,[],[],[206]⟩,⟨[.p 0 0],_,[],[0],[193]⟩]) (F:=[.o 0,.o 1,.o 2,.o 3,.o 4,.p 1 0]) hst hb Za
            (o_p rfl (Zbz rfl rfl u_0 c_i rfl)<|Qm rfl u_0<|o_n) (fun a g hst hb=>?_)
           exact ⟨n,Nat.lt_succ_self _,(x65.set (Int.toNat e68) e70),(IntKind.i64.wrap (x66 + (1:Int))),g,rfl,(hst.pick [0,1,2,3,4,5] rfl),hb,H1⟩
          ·replace H1:=Zt hc67 H1
           refine wp_exit ?_
           refine Zby ?_
           refine Zby ?_
           refine Zce ?_
           exact ⟨x65,g,rfl,(hst.pick [1,2] rfl),hb,Option.some.inj H1⟩
       ·refine wp_block ?_
        refine wp_loop_ghost (fun n a w=>∃ (x54:Int) (g:G),w=g.w ∧ St 211 [(12,(pInt .i64 r11.2)),(13,(pRow Zy 40 13 y29)),(15,(pRow (Kd.int .i64) 3 15 y31)),(19,(pBox Zbp 19 j39)),(20,(Zbp.ptr r40.1)),(23,(Zy.sl.pd r42.2)),(173,(pRow Zy 40 13 y29)),(174,(pInt .i64 (y29.length:Int))),(175,(pInt .i64 x54))] a g ∧ Base g0 g ∧ Zdq y29 r42 n x54=some z63) (Int.toNat ((y29.length:Int) - (0:Int)) + 1) ⟨(0:Int),g,rfl,(hst.pick [0,1,2,3,4,5,6,7,8] rfl),hb,hz2⟩ (fun n a w hI=>?_)
        obtain ⟨x54,g,rfl,hst,hb,H1⟩:=hI
        cases n with
        | zero=>exact absurd H1 (by simp [Zdq])
        | succ n =>
         rw [Zdq] at H1
         refine r_s (T:=[⟨[.o 8,.o 7],_,[],[],[176]⟩]) (F:=[.o 0,.o 1,.o 2,.o 3,.o 4,.o 5,.o 6,.o 7,.o 8,.p 0 0]) hst hb Za
          (o_p rfl (Zca rfl rfl u_0 u_1)<|o_n) (fun a g hst hb=>?_)
         refine wp_seq ?_
         refine wp_cond_split (hst.bool 9 rfl) (fun hc55=>?_) (fun hc55=>?_)
         ·replace H1:=Zu hc55 H1
          refine wp_skip ?_
          refine Zq ?_
          refine wp_seq ?_
          refine wp_block ?_
          refine r_s (L:=[(12,_),(13,_),(15,_),(19,_),(20,_),(23,_),(173,_),(174,_),(175,_)]) (T:=[⟨[.o 8],_,[],[],[177]⟩,⟨[.p 0 0],_,[],[0],[25]⟩]) (F:=[.o 0,.o 1,.o 2,.o 3,.o 4,.o 5,.p 1 0,.o 6,.o 7,.o 8]) (hst.pick [0,1,2,3,4,5,6,7,8] rfl) hb Za
           (Qm rfl u_0<|Qa rfl u_0<|o_n) (fun a g hst hb=>?_)
          obtain ⟨e56,h57,H1⟩:=Zd H1;obtain ⟨e58,h59,H1⟩:=Zd H1;obtain ⟨r60,h61,H1⟩:=Zd H1
          refine r_s (T:=[⟨[.o 5],_,[],[],[178]⟩,⟨[.o 6],_,[],[],[179]⟩,⟨[.p 0 0,.p 1 0],_,[],[0,1],[180]⟩,⟨[.p 2 0],_,[],[0,1,2],[181]⟩,⟨[.o 1],_,[],[],[182]⟩,⟨[.o 6],_,[],[],[183]⟩,⟨[.p 4 0,.p 5 0],_,[],[4,5],[184]⟩,⟨[.p 6 0],_,[],[4,5,6],[185]⟩,⟨[.p 3 0,.p 7 0],_,[],Lr 8,[186]⟩,⟨[.p 8 0],_,[],Lr 9,[187]⟩]) (F:=[.o 0,.o 1,.o 2,.o 3,.o 4,.o 5,.o 7,.o 8,.o 9,.p 9 0]) hst hb Za
           (Qm rfl u_0<|Qm rfl u_0<|o_p rfl (Zbi Tryz.underlying23 Znr rfl rfl u_0 u_1 h57)<|Ql rfl Zhb u_0<|Qm rfl u_0<|Qm rfl u_0<|o_p rfl (Zbi Tryz.underlying23 Znr rfl rfl (Opd.imp u_0 (fun _ _ h=>Zd0 h)) u_1 h59)<|Ql rfl Zhb u_0<|o_p rfl (Zl Zbdn (Zsd _ _ h61) rfl rfl (.cons u_0 (.cons u_1 .nil)))<|Qn rfl u_0<|o_n) (fun a g hst hb=>?_)
          refine wp_cond_split (hst.bool 9 rfl) (fun hc62=>?_) (fun hc62=>?_)
          ·replace H1:=Zu hc62 H1
           refine r_s (L:=[]) (T:=[⟨[],_,[],[],[6]⟩]) (F:=[.p 0 0]) (hst.pick [] rfl) hb Za
            (Qa rfl c_b<|o_n) (fun a g hst hb=>?_)
           refine wp_ret ?_
           refine Z5 ?_
           refine Zp ?_
           refine Zp ?_
           refine Z5 ?_
           refine Zp ?_
           refine Zp ?_
           obtain rfl:=Option.some.inj H1
           obtain rfl:=Option.some.inj H0
           exact Z4 rfl hst hb (Zg (s:=6)) (hst.at 0 rfl)
          ·replace H1:=Zt hc62 H1
           refine wp_skip ?_
           refine Zbc ?_
           refine Zq ?_
           refine r_g (L:=[(12,_),(13,_),(15,_),(19,_),(20,_),(23,_),(173,_),(174,_),(175,_)]) (T:=[⟨[.o 8],_,[],[],[188]⟩,⟨[.p 0 0],_,[],[0],[175]⟩]) (F:=[.o 0,.o 1,.o 2,.o 3,.o 4,.o 5,.o 6,.o 7,.p 1 0]) (hst.pick [0,1,2,3,4,5,6,7,8] rfl) hb Za
            (o_p rfl (Zbz rfl rfl u_0 c_i rfl)<|Qm rfl u_0<|o_n) (fun a g hst hb=>?_)
           exact ⟨n,Nat.lt_succ_self _,(IntKind.i64.wrap (x54 + (1:Int))),g,rfl,(hst.pick [0,1,2,3,4,5,6,7,8] rfl),hb,H1⟩
         ·replace H1:=Zt hc55 H1
          refine wp_exit ?_
          refine Zby ?_
          refine Zby ?_
          refine Zce ?_
          exact ⟨g,rfl,(hst.pick [0,2,3,4] rfl),hb,Option.some.inj H1⟩
    ·refine wp_cond_split (hst.bool 10 rfl) (fun hc35=>?_) (fun hc35=>?_)
     ·replace H0:=Zu hc35 H0
      obtain ⟨r36,h37,H0⟩:=Zd H0
      refine r_g (L:=[(4,_),(7,_),(8,_),(11,_),(12,_),(13,_),(14,_),(15,_),(18,_),(19,_)]) (T:=[⟨[.o 2],_,[],[],[91]⟩,⟨[.p 0 0],_,[],[0],[92]⟩,⟨[.p 1 0],_,[],[0,1],[93]⟩,⟨[.o 6],_,[],[],[94]⟩,⟨[.p 3 0],_,[],[3],[95]⟩,⟨[.p 2 0,.p 4 0],_,[],Lr 5,[96]⟩,⟨[.p 5 0],_,[],Lr 6,[90]⟩,⟨[.p 6 0],_,[],Lr 7,[97]⟩,⟨[.p 6 0],_,[],Lr 7,[98]⟩,⟨[.p 7 0,.o 8],_,[19],Lr 8,[18]⟩,⟨[.p 8 0,.o 9],_,[20],Lr 10,[19]⟩]) (F:=[.o 0,.o 1,.o 3,.o 4,.o 5,.o 7,.p 9 0,.p 10 0]) (hst.pick [0,1,2,3,4,5,6,7,8,9] rfl) hb Za
       (Qm rfl u_0<|o_p rfl (Zo rfl rfl (Opd.imp u_0 (fun _ _ h=>Z08 h34 h)) (fun _ _ ⟨_,_,_,e,_⟩=>⟨_,e⟩))<|Ql rfl Zco u_0<|Qm rfl u_0<|o_p rfl (Zw7 rfl rfl (Opd.imp u_0 (fun _ _ h=>Zd0 h)))<|o_p rfl (Zl Zbde (Zs5 _ _ h37) rfl rfl (.cons u_0 (.cons u_1 .nil)))<|Qm rfl u_0<|o_p rfl (Z2 rfl rfl u_0 rfl)<|o_p rfl (Z2 rfl rfl u_0 rfl)<|o_p rfl (Z3 Zco rfl rfl u_1 u_0)<|o_p rfl (Z3 Zi5 rfl rfl u_1 u_0)<|o_n) (fun a g hst hb=>?_)
      exact ⟨r36.1,r36.2,g,rfl,(hst.pick [0,1,2,3,4,5,6,7] rfl),hb,H0⟩
     ·replace H0:=Zt hc35 H0
      refine wp_skip ?_
      exact ⟨n33,({ Code:=(0:Int),At:=(0:Int),Answers:=([]:List Zc) }:Zw),g,rfl,(hst.pick [0,1,3,4,5,7,8,9] rfl),hb,H0⟩
   ·refine wp_block ?_
    refine wp_loop_ghost (fun n a w=>∃ (x13:List Zm) (x14:List Zm) (x15:List Int) (x16:Int) (g:G),w=g.w ∧ St 211 [(2,(Kd.str.sl.pd a2)),(4,(Zb5.ptr a1)),(7,(Zx.ptr r4.1)),(8,(Z9.opt.pd r4.2)),(11,(Zcw none Zcq 55 r11.1)),(12,(pInt .i64 r11.2)),(13,(pRow Zy 40 13 x13)),(14,(pRow Zy 40 14 x14)),(15,(pRow (Kd.int .i64) 3 15 x15)),(59,(Zy.sl.pd a1.Acts)),(60,(pInt .i64 (a1.Acts.length:Int))),(61,(pInt .i64 x16))] a g ∧ Base g0 g ∧ Zcx a1 a2 n x13 x14 x15 x16=some z32) (Int.toNat ((a1.Acts.length:Int) - (0:Int)) + 1) ⟨([]:List Zm),([]:List Zm),([]:List Int),(0:Int),g,rfl,(hst.pick [0,1,2,3,4,5,6,7,8,9,10,11] rfl),hb,hz1⟩ (fun n a w hI=>?_)
    obtain ⟨x13,x14,x15,x16,g,rfl,hst,hb,H1⟩:=hI
    cases n with
    | zero=>exact absurd H1 (by simp [Zcx])
    | succ n =>
     rw [Zcx] at H1
     refine r_s (T:=[⟨[.o 11,.o 10],_,[],[],[62]⟩]) (F:=[.o 0,.o 1,.o 2,.o 3,.o 4,.o 5,.o 6,.o 7,.o 8,.o 9,.o 10,.o 11,.p 0 0]) hst hb Za
      (o_p rfl (Zca rfl rfl u_0 u_1)<|o_n) (fun a g hst hb=>?_)
     refine wp_seq ?_
     refine wp_cond_split (hst.bool 12 rfl) (fun hc17=>?_) (fun hc17=>?_)
     ·replace H1:=Zu hc17 H1
      refine wp_skip ?_
      refine Zq ?_
      refine wp_seq ?_
      refine Zb3 (fun a w=>∃ (j26:List Zm) (j27:List Zm) (j28:List Int) (g:G),w=g.w ∧ St 211 [(2,(Kd.str.sl.pd a2)),(4,(Zb5.ptr a1)),(7,(Zx.ptr r4.1)),(8,(Z9.opt.pd r4.2)),(11,(Zcw none Zcq 55 r11.1)),(12,(pInt .i64 r11.2)),(13,(pRow Zy 40 13 j26)),(14,(pRow Zy 40 14 j27)),(15,(pRow (Kd.int .i64) 3 15 j28)),(59,(Zy.sl.pd a1.Acts)),(60,(pInt .i64 (a1.Acts.length:Int))),(61,(pInt .i64 x16))] a g ∧ Base g0 g ∧ Zf9 x16 (Zcx a1 a2 n) j26 j27 j28=some z32) ?_ ?_
      ·rintro a w ⟨j26,j27,j28,g,rfl,hst,hb,H1⟩
       unfold Zf9 at H1
       refine Zq ?_
       refine r_g (T:=[⟨[.o 11],_,[],[],[82]⟩,⟨[.p 0 0],_,[],[0],[61]⟩]) (F:=[.o 0,.o 1,.o 2,.o 3,.o 4,.o 5,.o 6,.o 7,.o 8,.o 9,.o 10,.p 1 0]) hst hb Za
        (o_p rfl (Zbz rfl rfl u_0 c_i rfl)<|Qm rfl u_0<|o_n) (fun a g hst hb=>?_)
       exact ⟨n,Nat.lt_succ_self _,j26,j27,j28,(IntKind.i64.wrap (x16 + (1:Int))),g,rfl,(hst.pick [0,1,2,3,4,5,6,7,8,9,10,11] rfl),hb,H1⟩
      ·refine wp_block ?_
       obtain ⟨e18,h19,H1⟩:=Zd H1
       refine r_s (L:=[(2,_),(4,_),(7,_),(8,_),(11,_),(12,_),(13,_),(14,_),(15,_),(59,_),(60,_),(61,_)]) (T:=[⟨[.o 11],_,[],[],[63]⟩,⟨[.o 9,.o 11],_,[],[],[64]⟩,⟨[.p 1 0],_,[],[1],[65]⟩,⟨[],[(17,(pBox Zy 17 (default:Zm)))],[18],[],[17]⟩,⟨[.p 0 0],_,[],Lr 4,[16]⟩,⟨[.p 2 0,.p 3 0],_,[18],Lr 5,[17]⟩]) (F:=[.o 0,.o 1,.o 2,.o 3,.o 4,.o 5,.o 6,.o 7,.o 8,.p 4 0,.p 5 0,.o 9,.o 10,.o 11]) (hst.pick [0,1,2,3,4,5,6,7,8,9,10,11] rfl) hb Za
        (Qm rfl u_0<|o_p rfl (Zbi Tryz.underlying23 Znr rfl rfl u_0 u_1 h19)<|Ql rfl Zhb u_0<|o_p rfl (Zbh (zs:=[.int .i64 0,.string ByteArray.empty,.int .i64 0,.float .f64 0,.string ByteArray.empty,.int .i64 0,.int .i64 0,.int .i64 0,.int .i64 0,.float .f64 0,.int .i64 0,.string ByteArray.empty,.slice none 0 0,.bool false]) (by kernel_rfl) (fun g=>Zpf g) rfl rfl)<|Qa rfl u_0<|o_p rfl (Zb6 Zhb rfl rfl u_1 u_0)<|o_n) (fun a g hst hb=>?_)
       obtain ⟨r20,h21,H1⟩:=Zd H1
       refine r_s (T:=[⟨[.o 0],_,[],[],[66]⟩,⟨[.o 10],_,[],[],[67]⟩,⟨[.p 1 0],_,[],[1],[68]⟩,⟨[.p 0 0,.p 2 0],_,[],[0,1,2],[69]⟩]) (F:=[.o 0,.o 1,.o 2,.o 3,.o 4,.o 5,.o 6,.o 7,.o 8,.o 9,.o 10,.o 11,.o 12,.o 13,.p 3 0]) hst hb Za
        (Qm rfl u_0<|Qf rfl Zhj u_0<|Ql rfl ty_9 u_0<|o_p rfl (Zl Zbdf (Ztf _ _ h21) rfl rfl (.cons u_0 (.cons u_1 .nil)))<|o_n) (fun a g hst hb=>?_)
       refine wp_cond_split (hst.bool 14 rfl) (fun hc22=>?_) (fun hc22=>?_)
       ·replace H1:=Zu hc22 H1
        obtain ⟨h23,H1⟩:=Zev H1
        refine r_g (L:=[(2,_),(4,_),(7,_),(8,_),(11,_),(12,_),(13,_),(14,_),(15,_),(17,_),(59,_),(60,_),(61,_)]) (T:=[⟨[.o 6],_,[],[],[70]⟩,⟨[.o 9],_,[],[],[71]⟩,⟨[.p 1 0],_,[],[1],[72]⟩,⟨[.p 0 0,.p 2 0],_,[14],[0,1,2],[13,70,73]⟩,⟨[.p 3 0],_,[],Lr 4,[13]⟩]) (F:=[.o 0,.o 1,.o 2,.o 3,.o 4,.o 5,.p 4 0,.o 7,.o 8,.o 10,.o 11,.o 12]) (hst.pick [0,1,2,3,4,5,6,7,8,10,11,12,13] rfl) hb Za
         (Qm rfl u_0<|Ql rfl Zhb u_0<|o_p rfl (Zhd Zpi (xs:=[.tmp 71]) (.cons u_0 .nil) (by decide) rfl rfl)<|o_p rfl (Zej Zpi rfl rfl u_0 u_1 h23)<|Qa rfl u_0<|o_n) (fun a g hst hb=>?_)
        refine Zbc ?_
        exact ⟨(x13 ++ ([e18]:List Zm)),x14,x15,g,rfl,(hst.pick [0,1,2,3,4,5,6,7,8,9,10,11] rfl),hb,H1⟩
       ·replace H1:=Zt hc22 H1
        obtain ⟨h24,H1⟩:=Zev H1
        refine r_s (L:=[(2,_),(4,_),(7,_),(8,_),(11,_),(12,_),(13,_),(14,_),(15,_),(16,_),(17,_),(59,_),(60,_),(61,_)]) (T:=[⟨[.o 7],_,[],[],[74]⟩,⟨[.o 10],_,[],[],[75]⟩,⟨[.p 1 0],_,[],[1],[76]⟩,⟨[.p 0 0,.p 2 0],_,[15],[0,1,2],[14,74,77]⟩,⟨[.p 3 0],_,[],Lr 4,[14]⟩]) (F:=[.o 0,.o 1,.o 2,.o 3,.o 4,.o 5,.o 6,.p 4 0,.o 8,.o 9,.o 11,.o 12,.o 13]) (hst.pick [0,1,2,3,4,5,6,7,8,9,10,11,12,13] rfl) hb Za
         (Qm rfl u_0<|Ql rfl Zhb u_0<|o_p rfl (Zhd Zpi (xs:=[.tmp 75]) (.cons u_0 .nil) (by decide) rfl rfl)<|o_p rfl (Zej Zpi rfl rfl u_0 u_1 h24)<|Qa rfl u_0<|o_n) (fun a g hst hb=>?_)
        obtain ⟨h25,H1⟩:=Zev H1
        refine r_g (T:=[⟨[.o 8],_,[],[],[78]⟩,⟨[.o 9],_,[],[],[79]⟩,⟨[.p 1 0],_,[],[1],[80]⟩,⟨[.p 0 0,.p 2 0],_,[16],[0,1,2],[15,78,81]⟩,⟨[.p 3 0],_,[],Lr 4,[15]⟩]) (F:=[.o 0,.o 1,.o 2,.o 3,.o 4,.o 5,.o 6,.o 7,.p 4 0,.o 10,.o 11,.o 12]) hst hb Za
         (Qm rfl u_0<|Qm rfl u_0<|o_p rfl (Zhd Z33 (xs:=[.tmp 79]) (.cons u_0 .nil) (by decide) rfl rfl)<|o_p rfl (Zej Z33 rfl rfl u_0 u_1 h25)<|Qa rfl u_0<|o_n) (fun a g hst hb=>?_)
        refine Zbc ?_
        exact ⟨x13,(x14 ++ ([e18]:List Zm)),(x15 ++ ([x16]:List Int)),g,rfl,(hst.pick [0,1,2,3,4,5,6,7,8,9,10,11] rfl),hb,H1⟩
     ·replace H1:=Zt hc17 H1
      refine wp_exit ?_
      refine Zby ?_
      refine Zby ?_
      refine Zce ?_
      exact ⟨x13,x14,x15,g,rfl,(hst.pick [1,2,3,4,5,6,7,8] rfl),hb,Option.some.inj H1⟩
end Go.CL
namespace Go.CL
open Go
def NANB:Nat:=9221120237041090561
def keyf (b:Nat):Int:=if isn b then 18444492273895866369 else if TOP ≤ b then 18446744073709551615 - b else b + 9223372036854775808
def Zcg (b:Nat):Nat:=if isn b then NANB else b
theorem Zx7 {b:Nat} (hb:b < 18446744073709551616):fneq b b=decide (isn b):=by
 unfold fneq
 show (Ieee.double.order b b != some .eq)=_
 by_cases h:isn b
 ·rw [Zye (.inl h)];simp [h]
 ·obtain ⟨o,ho,_,he⟩:=Zry hb hb h h
  rw [ho,he.2 rfl];simp [h]
theorem Zkg {b:Nat} (hb:b < 18446744073709551616):Zgm b=some (Zcg b):=by
 unfold Zgm Zcg
 rw [Zx7 hb]
 by_cases h:isn b
 ·simp [h,Zrp,NANB]
 ·simp [h]
theorem Zbaa {b:Nat} (hb:b < 18446744073709551616):(bAnd .u64 (b:Int) 9223372036854775808 != 0)=decide (TOP ≤ b):=by
 have h1:(BitVec.ofInt 64 (b:Int) &&& BitVec.ofInt 64 9223372036854775808).toNat=b &&& 9223372036854775808:=by
  rw [BitVec.toNat_and]
  have e1:(BitVec.ofInt 64 (b:Int)).toNat=b:=by
   rw [show BitVec.ofInt 64 (b:Int)=BitVec.ofNat 64 b from rfl]
   simp;omega
  rw [e1];rfl
 have h2:b &&& 9223372036854775808=(b.testBit 63).toNat * 9223372036854775808:=by
  apply Nat.eq_of_testBit_eq
  intro i
  rw [Nat.testBit_and,show (9223372036854775808:Nat)=2 ^ 63 from rfl,Nat.testBit_two_pow]
  by_cases hi:63=i
  ·subst hi
   cases b.testBit 63
   ·simp
   ·rw [Bool.toNat_true,Nat.one_mul,Nat.testBit_two_pow];simp
  ·cases b.testBit 63
   ·simp [hi]
   ·rw [Bool.toNat_true,Nat.one_mul,Nat.testBit_two_pow];simp [hi]
 have h3:b.testBit 63=decide (TOP ≤ b):=by
  rw [Nat.testBit_eq_decide_div_mod_eq]
  unfold TOP
  by_cases h:9223372036854775808 ≤ b
  ·have:b / 2 ^ 63 % 2=1:=by omega
   simp [this,h]
  ·have:b / 2 ^ 63 % 2=0:=by omega
   simp [this,h]
 unfold bAnd
 show (IntKind.wrap .u64 ((BitVec.ofInt 64 (b:Int) &&& BitVec.ofInt 64 9223372036854775808).toNat:Int) != 0)=_
 rw [h1,h2,h3]
 by_cases h:TOP ≤ b
 ·simp only [h,decide_true,Bool.toNat_true,Nat.one_mul]
  rfl
 ·simp only [h,decide_false,Bool.toNat_false,Nat.zero_mul]
  rfl
theorem Zbaq {b:Nat} (hb:b < 18446744073709551616):bXor .u64 IntKind.u64.max (b:Int)=18446744073709551615 - b:=by
 have h1:(BitVec.ofInt 64 18446744073709551615 ^^^ BitVec.ofInt 64 (b:Int)).toNat=18446744073709551615 - b:=by
  have e1:BitVec.ofInt 64 18446744073709551615=BitVec.allOnes 64:=by decide
  rw [e1,BitVec.allOnes_xor,BitVec.toNat_not]
  have e2:(BitVec.ofInt 64 (b:Int)).toNat=b:=by
   rw [show BitVec.ofInt 64 (b:Int)=BitVec.ofNat 64 b from rfl]
   simp;omega
  rw [e2]
 unfold bXor
 show IntKind.wrap .u64 ((BitVec.ofInt 64 18446744073709551615 ^^^ BitVec.ofInt 64 (b:Int)).toNat:Int)=_
 rw [h1]
 simp [IntKind.wrap,IntKind.signed,IntKind.bits]
 omega
theorem Zbbp {b:Nat} (hb:b < 9223372036854775808):bOr .u64 (b:Int) 9223372036854775808=b + 9223372036854775808:=by
 have h1:(BitVec.ofInt 64 (b:Int) ||| BitVec.ofInt 64 9223372036854775808).toNat=b + 9223372036854775808:=by
  rw [BitVec.toNat_or]
  have e1:(BitVec.ofInt 64 (b:Int)).toNat=b:=by
   rw [show BitVec.ofInt 64 (b:Int)=BitVec.ofNat 64 b from rfl]
   simp;omega
  rw [e1,show (BitVec.ofInt 64 9223372036854775808).toNat=2 ^ 63 * 1 from rfl,Nat.or_comm]
  rw [← Nat.two_pow_add_eq_or_of_lt (by simpa using hb)]
  omega
 unfold bOr
 show IntKind.wrap .u64 ((BitVec.ofInt 64 (b:Int) ||| BitVec.ofInt 64 9223372036854775808).toNat:Int)=_
 rw [h1]
 simp [IntKind.wrap,IntKind.signed,IntKind.bits]
 omega
theorem Zvd {b:Nat} (hb:b < 18446744073709551616):Zcg b < 18446744073709551616:=by
 unfold Zcg NANB;split <;> omega
theorem Zwn {b:Nat} (hb:b < 18446744073709551616):Zm7 b=some (keyf b):=by
 unfold Zm7
 rw [Zkg hb]
 simp only [Option.bind_some]
 rw [Zbaa (Zvd hb)]
 unfold keyf Zcg
 by_cases h:isn b
 ·simp only [h,if_true]
  rfl
 ·simp only [h,if_false]
  by_cases ht:TOP ≤ b
  ·simp only [ht,decide_true,if_true]
   rw [Zbaq hb]
  ·simp only [ht,decide_false,if_false,Bool.false_eq_true]
   rw [Zbbp (by unfold TOP at ht;omega)]
theorem Zpm {a b:Nat} (ha:a < 18446744073709551616) (hb:b < 18446744073709551616):Zki a b=some (decide (keyf a=keyf b)):=by
 unfold Zki
 rw [Zwn ha,Zwn hb]
 simp [BEq.beq]
theorem Zw6 {a b:Nat} (ha:a < 18446744073709551616) (hb:b < 18446744073709551616):Zm2 a b=some (decide (keyf a < keyf b)):=by
 unfold Zm2
 rw [Zwn ha,Zwn hb]
 simp
theorem Ztl {a:Nat} (ha:a < 18446744073709551616):Zlb a=some (decide (a=Zcg a)):=by
 unfold Zlb
 rw [Zkg ha]
 congr 1
 by_cases h:a=Zcg a
 ·simp [← h]
 ·have:(a:Int) ≠ (Zcg a:Int):=by omega
  simp [h,this]
theorem Z28 {a b:Nat} (ha:a < 18446744073709551616) (hb:b < 18446744073709551616) (na:¬ isn a) (nb:¬ isn b):keyf a < keyf b ↔ (sg a < sg b ∨ (a=TOP ∧ b=0)):=by
 unfold keyf
 rw [if_neg na,if_neg nb]
 unfold sg isn rg INF TOP at *
 split <;> split <;> omega
theorem Z2w {a b:Nat} (ha:a < 18446744073709551616) (hb:b < 18446744073709551616) (na:¬ isn a) (nb:¬ isn b):feql a b=decide (sg a=sg b):=by
 unfold feql
 show (Ieee.double.order a b == some .eq)=_
 obtain ⟨o,ho,_,he⟩:=Zry ha hb na nb
 rw [ho]
 by_cases h:sg a=sg b
 ·rw [he.2 h];simp [h]
 ·have:o ≠ .eq:=fun h'=>h (he.1 h')
  simp [h,this]
theorem Z85 {a b:Nat} (ha:a < 18446744073709551616) (hb:b < 18446744073709551616) (na:¬ isn a) (nb:¬ isn b):flss a b=decide (sg a < sg b):=by
 unfold flss
 show (Ieee.double.order a b == some .lt)=_
 obtain ⟨o,ho,hl,_⟩:=Zry ha hb na nb
 rw [ho]
 by_cases h:sg a < sg b
 ·rw [hl.2 h];simp [h]
 ·have:o ≠ .lt:=fun h'=>h (hl.1 h')
  simp [h,this]
theorem Zbbn:Zhk 0=some false:=by kernel_rfl
theorem Zbar:Zhk TOP=some true:=by kernel_rfl
theorem nan0:¬ isn 0:=by decide
theorem Z2t {a:Nat} (ha:a < 18446744073709551616):sg a=sg 0 ↔ a=0 ∨ a=TOP:=by
 unfold sg TOP
 split <;> simp <;> omega
theorem Zro {a:Nat} (ha:a < 18446744073709551616):Zet a=some (decide (isn a)):=by
 unfold Zet;rw [Zx7 ha]
theorem Zp8 {a b:Nat} (ha:a < 18446744073709551616) (hb:b < 18446744073709551616):Zfo a b=some (decide (keyf a < keyf b)):=by
 unfold Zfo
 rw [Zro ha,Zro hb]
 simp only [Option.bind_some]
 have kb:∀ x,x < 18446744073709551616 → ¬ isn x → keyf x < 18444492273895866369:=by
  intro x hx nx
  unfold keyf
  rw [if_neg nx]
  unfold isn rg INF TOP at *
  split <;> omega
 have kn:∀ x,isn x → keyf x=18444492273895866369:=fun x h=>by unfold keyf;rw [if_pos h]
 by_cases na:isn a
 ·simp only [na,decide_true,if_true]
  by_cases nb:isn b
  ·rw [kn a na,kn b nb];simp
  ·have:=kb b hb nb
   rw [kn a na];simp;omega
 ·simp only [na,decide_false,Bool.false_eq_true,if_false]
  by_cases nb:isn b
  ·have:=kb a ha na
   rw [kn b nb];simp [nb,this]
  ·simp only [nb,decide_false,Bool.false_eq_true,if_false]
   rw [Z2w ha (by decide) na nan0,Z2w hb (by decide) nb nan0,Z85 ha hb na nb]
   by_cases hz:sg a=sg 0 ∧ sg b=sg 0
   ·rw [if_pos (by simp [hz])]
    have hk:=Z28 ha hb na nb
    have h0T:(0:Nat) ≠ TOP:=by decide
    rcases (Z2t ha).1 hz.1 with rfl | rfl <;> rcases (Z2t hb).1 hz.2 with rfl | rfl <;> simp only [Zbbn,Zbar,gd,Option.bind_some,if_true,if_false,Bool.false_eq_true,Option.some.injEq] <;> decide
   ·rw [if_neg (by simpa using hz)]
    have hk:=Z28 ha hb na nb
    congr 1
    apply decide_eq_decide.2
    rw [hk]
    constructor
    ·intro h;exact .inl h
    ·rintro (h | ⟨rfl,rfl⟩)
     ·exact h
     ·exact absurd ⟨rfl,rfl⟩ hz
theorem Zlw {a b:Nat} (ha:a < 18446744073709551616) (hb:b < 18446744073709551616):Zdy a b=some (decide (keyf a=keyf b)):=by
 unfold Zdy
 rw [Zp8 ha hb,Zp8 hb ha]
 simp only [Option.bind_some,gd]
 by_cases h1:keyf a < keyf b
 ·have:keyf a ≠ keyf b:=by omega
  simp [h1,this]
 ·by_cases h2:keyf b < keyf a
  ·have:keyf a ≠ keyf b:=by omega
   simp [h1,h2,this]
  ·have:keyf a=keyf b:=by omega
   simp [this]
theorem Zr2 {a:Nat} (ha:a < 18446744073709551616):Zf8 a=some (decide (a=Zcg a)):=by
 unfold Zf8
 rw [Zro ha]
 unfold Zcg NANB
 by_cases h:isn a
 ·by_cases h2:a=9221120237041090561
  ·simp [h,h2]
  ·have:(a:Int) ≠ 9221120237041090561:=by omega
   simp [h,h2,this]
 ·simp [h]
theorem wr {x:Int} (h1:-9223372036854775808 ≤ x) (h2:x ≤ 9223372036854775807):IntKind.i64.wrap x=x:=by
 rw [IntKind.wrap_i64];omega
theorem wr1 {i:Nat} (h:i < 9223372036854775807):IntKind.i64.wrap ((i:Int) + 1)=((i + 1:Nat):Int):=by
 rw [wr (by omega) (by omega)];omega
theorem Zbdo (n:Int):IntKind.u64.wrap n=n % 18446744073709551616:=by simp [IntKind.wrap,IntKind.bits,IntKind.signed]
theorem wru {x:Int} (h1:0 ≤ x) (h2:x < 18446744073709551616):IntKind.u64.wrap x=x:=by rw [Zbdo];omega
theorem wrm {i:Nat} (h:i < 9223372036854775807) (h0:0 < i):IntKind.i64.wrap ((i:Int) - 1)=((i - 1:Nat):Int):=by
 rw [wr (by omega) (by omega)];omega
theorem idxn {α:Type} (xs:List α) (i:Nat):idx xs (i:Int)=xs[i]?:=by
 unfold idx
 rw [if_pos (by omega)]
 simp
theorem Zcs {α:Type} {xs:List α} {i:Nat} (h:i < xs.length):idx xs (i:Int)=some xs[i]:=by
 rw [idxn,List.getElem?_eq_getElem h]
theorem gd_t {β:Type} [Inhabited β] (x:Option β):gd true x=x:=rfl
theorem gd_f {β:Type} [Inhabited β] (x:Option β):gd false x=some default:=rfl
theorem Zoh {α:Type} {xs:List α} {l h:Nat} (h1:l ≤ h) (h2:h ≤ xs.length):cut xs (l:Int) (h:Int)=some ((xs.drop l).take (h - l)):=by
 unfold cut
 rw [if_pos (by omega)]
 simp
theorem Zv4 {a b:ByteArray} (h:a.toList=b.toList):a=b:=by
 rw [_root_.Go.ByteArray.toList_eq,_root_.Go.ByteArray.toList_eq] at h
 exact ByteArray.ext (Array.toList_inj.1 h)
theorem Zdn {a b:ByteArray}:sEq a b=true ↔ a=b:=by
 unfold sEq
 constructor
 ·intro h;exact Zv4 (by simpa using h)
 ·rintro rfl;simp
theorem Zc6 (a:ByteArray):sEq a a=true:=Zdn.2 rfl
theorem Ze9 {a b:ByteArray}:sEq a b=false ↔ a ≠ b:=by
 cases h:sEq a b
 ·simp;intro e;rw [Zdn.2 e] at h;cases h
 ·simp;exact Zdn.1 h
theorem Z59:∀ l:List UInt8,Op.bytesLess l l=false
 | []=>rfl
 | x :: l=>by simp [Op.bytesLess,Z59 l]
theorem Z0a:∀ {a b c:List UInt8},Op.bytesLess a b=true → Op.bytesLess b c=true → Op.bytesLess a c=true
 | [],[],c,h,_=>by simp [Op.bytesLess] at h
 | [],y :: b,[],_,k=>by simp [Op.bytesLess] at k
 | [],y :: b,z :: c,_,_=>rfl
 | x :: a,[],c,h,_=>by simp [Op.bytesLess] at h
 | x :: a,y :: b,[],_,k=>by simp [Op.bytesLess] at k
 | x :: a,y :: b,z :: c,h,k=>by
  simp only [Op.bytesLess,Bool.or_eq_true,Bool.and_eq_true,decide_eq_true_eq,beq_iff_eq] at h k ⊢
  rcases h with h | ⟨h1,h2⟩ <;> rcases k with k | ⟨k1,k2⟩
  ·exact .inl (UInt8.lt_trans h k)
  ·subst k1;exact .inl h
  ·subst h1;exact .inl k
  ·subst h1;subst k1;exact .inr ⟨rfl,Z0a h2 k2⟩
theorem Z5z:∀ (a b:List UInt8),Op.bytesLess a b=false → a ≠ b → Op.bytesLess b a=true
 | [],[],_,h=>absurd rfl h
 | [],y :: b,h,_=>by simp [Op.bytesLess] at h
 | x :: a,[],_,_=>rfl
 | x :: a,y :: b,h,hn=>by
  simp only [Op.bytesLess,Bool.or_eq_false_iff,decide_eq_false_iff_not,Bool.and_eq_false_iff] at h
  simp only [Op.bytesLess,Bool.or_eq_true,Bool.and_eq_true,decide_eq_true_eq,beq_iff_eq]
  by_cases e:x=y
  ·subst e
   right
   refine ⟨rfl,Z5z a b ?_ (fun h'=>hn (by rw [h']))⟩
   rcases h.2 with h | h
   ·simp at h
   ·exact h
  ·left
   rcases UInt8.lt_or_lt_of_ne e with h' | h'
   ·exact absurd h' h.1
   ·exact h'
theorem Zir (a:ByteArray):sLt a a=false:=Z59 _
theorem Zgp {a b c:ByteArray} (h:sLt a b=true) (k:sLt b c=true):sLt a c=true:=Z0a h k
theorem Zm9 {a b:ByteArray} (h:sLt a b=false) (hn:a ≠ b):sLt b a=true:=Z5z _ _ h (fun e=>hn (Zv4 e))
theorem Zvc {a b:ByteArray} (h:sLt a b=true):sLt b a=false:=by
 cases k:sLt b a
 ·rfl
 ·have:=Zgp h k
  rw [Zir] at this;cases this
theorem Znl {a b:ByteArray} (h:sLt a b=true):a ≠ b:=fun e=>by subst e;rw [Zir] at h;cases h
abbrev W64:Nat:=18446744073709551616
structure Zie (a:Zb):Prop where
 real:a.Real < W64
 len:a.List.length < 4611686018427387904
 sc:∀ e ∈ a.List,e.Score < W64
def Zds (a b:Zi):Bool:=if keyf a.Score=keyf b.Score then sLt a.Name b.Name else decide (keyf b.Score < keyf a.Score)
theorem Zqk {a b:Zi} (ha:a.Score < W64) (hb:b.Score < W64):Zk1 a b=some (Zds a b):=by
 unfold Zk1 Zds
 rw [Zpm ha hb,Zw6 hb ha]
 by_cases h:keyf a.Score=keyf b.Score <;> simp [h]
theorem Z1c {a b:Zi} (ha:a.Score < W64) (hb:b.Score < W64):Zgl a b=some (Zds a b):=by
 unfold Zgl Zds
 rw [Zp8 hb ha,Zlw ha hb]
 by_cases h:keyf a.Score=keyf b.Score
 ·simp [h]
 ·by_cases h2:keyf b.Score < keyf a.Score <;> simp [h,h2]
theorem Z2s {a:Nat} (ha:a < W64):Zia a=some (decide (keyf a=keyf 0)):=by
 unfold Zia
 rw [Zlw ha (by decide)]
 rfl
def Zip (k:Int) (l:List Zi) (i:Nat):Int :=
 match l[i]? with
 | none=>0
 | some x =>
  let p:=(l[i - 1]?).getD default
  if (16:Int) < x.Name.size then 3
  else if (k=8 ∧ keyf x.Score ≠ keyf 0) ∨ x.Score ≠ Zcg x.Score then 4
  else if 0 < i ∧ k=8 ∧ sLt p.Name x.Name=false then 4
  else if 0 < i ∧ k=9 ∧ Zds p x=false then 4
  else 0
theorem Z6a {k:Int} {l:List Zi} {i n:Nat} (hi:i < l.length) (hl:l.length < 4611686018427387904) (hs:∀ e ∈ l,e.Score < W64) :
  Zgu k l (n + 1) (i:Int)=if Zip k l i=0 then Zgu k l n ((i + 1:Nat):Int) else some (.inl (Zip k l i)):=by
 have hx:l[i].Score < W64:=hs _ (List.getElem_mem hi)
 rw [Zgu,if_pos (by simp;omega),Zcs hi,wr1 (by omega)]
 simp only [Option.bind_some]
 rw [Zpm hx (by decide),Ztl hx]
 simp only [Zip,List.getElem?_eq_getElem hi]
 by_cases h1:(16:Int) < l[i].Name.size
 ·simp [h1]
 ·simp only [h1,decide_false,if_false,Bool.false_eq_true]
  have hz:((0:Nat):Int)=0:=rfl
  by_cases h0:0 < i
  ·have hp:i - 1 < l.length:=by omega
   have hps:l[i - 1].Score < W64:=hs _ (List.getElem_mem hp)
   have hd:(decide ((0:Int) < (i:Int)))=true:=by simp;omega
   rw [hd,wrm (by omega) h0,Zcs hp]
   simp only [List.getElem?_eq_getElem hp,Option.getD_some,h0,true_and,Bool.true_and]
   by_cases h8:k=8
   ·subst h8
    simp only [beq_self_eq_true,gd_t,Option.bind_some,true_and,Bool.true_and]
    by_cases hk:keyf l[i].Score=keyf 0
    ·by_cases hc:l[i].Score=Zcg l[i].Score
     ·simp [hk,← hc,gd]
      cases sLt l[i - 1].Name l[i].Name <;> simp
     ·simp [hk,hc,gd]
    ·simp [hk,gd]
   ·have h8':(k == 8)=false:=by simpa using h8
    simp only [h8',h8,gd_f,gd_t,Option.bind_some,false_and,false_or,Bool.false_and,Bool.not_false,Bool.false_or]
    by_cases hc:l[i].Score=Zcg l[i].Score
    ·by_cases h9:k=9
     ·subst h9
      simp [← hc,gd,Zqk hps hx]
      cases Zds l[i - 1] l[i] <;> simp
     ·simp [← hc,gd,h9]
    ·simp [hc]
  ·have h00:i=0:=by omega
   subst h00
   simp only [Nat.lt_irrefl,false_and,if_false,Int.ofNat_zero,Int.lt_irrefl,decide_false,Bool.false_and,gd_f,Option.bind_some,Int.natCast_zero]
   by_cases h8:k=8
   ·subst h8
    simp only [beq_self_eq_true,gd_t,Option.bind_some,true_and,Bool.true_and]
    by_cases hk:keyf l[0].Score=keyf 0
    ·by_cases hc:l[0].Score=Zcg l[0].Score
     ·simp [hk,← hc,gd]
     ·simp [hk,hc,gd]
    ·simp [hk,gd]
   ·have h8':(k == 8)=false:=by simpa using h8
    simp only [h8',h8,gd_f,gd_t,Option.bind_some,false_and,false_or,Bool.false_and,Bool.not_false,Bool.false_or]
    by_cases hc:l[0].Score=Zcg l[0].Score
    ·simp [← hc,gd]
    ·simp [hc]
theorem Z7h {k:Int} {l:List Zi} {i:Nat} (hi:i < l.length) (hl:l.length < 4611686018427387904) (hs:∀ e ∈ l,e.Score < W64):Zjo k l (i:Int)=some (Zip k l i):=by
 have hx:l[i].Score < W64:=hs _ (List.getElem_mem hi)
 unfold Zjo
 rw [Zcs hi]
 simp only [Option.bind_some]
 rw [Z2s hx,Zr2 hx]
 simp only [Zip,List.getElem?_eq_getElem hi]
 by_cases h1:(16:Int) < l[i].Name.size
 ·simp [h1]
 ·simp only [h1,decide_false,if_false,Bool.false_eq_true]
  by_cases h0:0 < i
  ·have hp:i - 1 < l.length:=by omega
   have hps:l[i - 1].Score < W64:=hs _ (List.getElem_mem hp)
   have hd:(decide ((0:Int) < (i:Int)))=true:=by simp;omega
   rw [hd,wrm (by omega) h0,Zcs hp]
   simp only [List.getElem?_eq_getElem hp,Option.getD_some,h0,true_and,Bool.true_and]
   by_cases h8:k=8
   ·subst h8
    simp only [beq_self_eq_true,gd_t,Option.bind_some,true_and,Bool.true_and]
    by_cases hk:keyf l[i].Score=keyf 0
    ·by_cases hc:l[i].Score=Zcg l[i].Score
     ·simp [hk,← hc,gd]
      cases sLt l[i - 1].Name l[i].Name <;> simp
     ·simp [hk,hc,gd]
    ·simp [hk,gd]
   ·have h8':(k == 8)=false:=by simpa using h8
    simp only [h8',h8,gd_f,gd_t,Option.bind_some,false_and,false_or,Bool.false_and,Bool.not_false,Bool.false_or]
    by_cases hc:l[i].Score=Zcg l[i].Score
    ·by_cases h9:k=9
     ·subst h9
      simp [← hc,gd,Z1c hps hx]
      cases Zds l[i - 1] l[i] <;> simp
     ·simp [← hc,gd,h9]
    ·simp [hc]
  ·have h00:i=0:=by omega
   subst h00
   simp only [Nat.lt_irrefl,false_and,if_false,Int.ofNat_zero,Int.lt_irrefl,decide_false,Bool.false_and,gd_f,Option.bind_some,Int.natCast_zero]
   by_cases h8:k=8
   ·subst h8
    simp only [beq_self_eq_true,gd_t,Option.bind_some,true_and,Bool.true_and]
    by_cases hk:keyf l[0].Score=keyf 0
    ·by_cases hc:l[0].Score=Zcg l[0].Score
     ·simp [hk,← hc,gd]
     ·simp [hk,hc,gd]
    ·simp [hk,gd]
   ·have h8':(k == 8)=false:=by simpa using h8
    simp only [h8',h8,gd_f,gd_t,Option.bind_some,false_and,false_or,Bool.false_and,Bool.not_false,Bool.false_or]
    by_cases hc:l[0].Score=Zcg l[0].Score
    ·simp [← hc,gd]
    ·simp [hc]
def Zj4 (k:Int) (l:List Zi):Nat → Nat → Int
 | _,0=>0
 | i,n + 1=>if Zip k l i=0 then Zj4 k l (i + 1) n else Zip k l i
def endC (c:Int):Int ⊕ Unit:=if c=0 then .inr () else .inl c
theorem Zu6 {k:Int} {l:List Zi} {i n:Nat} (h:Zip k l i=0):Zj4 k l i (n + 1)=Zj4 k l (i + 1) n:=by simp [Zj4,h]
theorem Zvs {k:Int} {l:List Zi} {i n:Nat} (h:¬ Zip k l i=0):Zj4 k l i (n + 1)=Zip k l i:=by simp [Zj4,h]
theorem Z5q {c:Int} (h:¬ c=0):endC c=.inl c:=if_neg h
theorem Zwa {k:Int} {l:List Zi} (hl:l.length < 4611686018427387904) (hs:∀ e ∈ l,e.Score < W64):∀ (n i:Nat),i + n=l.length →
  Zgu k l (n + 1) (i:Int)=some (endC (Zj4 k l i n))
 | 0,i,h=>by
  rw [Zgu,if_neg (by simp;omega)]
  rfl
 | n + 1,i,h=>by
  rw [Z6a (by omega) hl hs]
  by_cases hc:Zip k l i=0
  ·rw [if_pos hc,Zu6 hc,Zwa hl hs n (i + 1) (by omega)]
  ·rw [if_neg hc,Zvs hc,Z5q hc]
theorem Z7q {k:Int} {l:List Zi} (hl:l.length < 4611686018427387904) (hs:∀ e ∈ l,e.Score < W64):Zoz k l=some (Zj4 k l 0 l.length):=by
 unfold Zoz
 rw [show (Int.toNat ((l.length:Int) - (0:Int)) + 1)=l.length + 1 by omega,show (0:Int)=((0:Nat):Int) from rfl,Zwa hl hs l.length 0 (by omega)]
 unfold endC
 by_cases h:Zj4 k l 0 l.length=0 <;> simp [h]
theorem Zut {a:Zb} (ha:Zie a):∀ (n i:Nat),i + n=a.List.length →
  Zen a (n + 1) (i:Int)=some (endC (Zj4 a.Kind a.List i n))
 | 0,i,h=>by
  rw [Zen,if_neg (by simp;omega)]
  rfl
 | n + 1,i,h=>by
  have hl:=ha.len
  rw [Zen,if_pos (by simp;omega),Z7h (by omega) hl ha.sc,wr1 (by omega)]
  simp only [Option.bind_some]
  by_cases hc:Zip a.Kind a.List i=0
  ·rw [if_neg (by simp [hc]),Zu6 hc,Zut ha n (i + 1) (by omega)]
  ·rw [if_pos (by simp [hc]),Zvs hc,Z5q hc]
def Zig (t n b r l:Bool) (a:Zb):Bool:=(t || sEq a.Text ⟨#[]⟩) && (n || a.Num == 0) && (b || (a.Low == 0 && a.High == 0)) && (r || decide (keyf a.Real=keyf 0)) && (l || (a.Cap == 0 && (a.List.length:Int) == 0))
theorem Z9q {a:Zb} (ha:Zie a) (t n b r l:Bool):Zpr a ⟨t,n,b,r,l⟩=some (Zig t n b r l a):=by
 unfold Zpr Zig
 rw [Zpm ha.real (by decide)]
 simp only
 generalize sEq a.Text ⟨#[]⟩=x1
 generalize (a.Num == 0)=x2
 generalize (a.Low == 0)=x3
 generalize (a.High == 0)=x4
 generalize decide (keyf a.Real=keyf 0)=x5
 generalize (a.Cap == 0)=x6
 generalize ((a.List.length:Int) == 0)=x7
 revert t n b r l x1 x2 x3 x4 x5 x6 x7
 decide
theorem Z9l {a:Zb} (ha:Zie a) {s:ByteArray} {t n b r l:Bool} (h:Zc8 s (Int.toNat ((s.size:Int) - (0:Int)) + 1) false false false false false 0=some (t,n,b,r,l)):Zf3 a s=some (Zig t n b r l a):=by
 unfold Zf3 Zig
 rw [h,Z2s ha.real]
 simp only [Option.bind_some,bne]
 generalize sEq a.Text ⟨#[]⟩=x1
 generalize (a.Num == 0)=x2
 generalize (a.Low == 0)=x3
 generalize (a.High == 0)=x4
 generalize decide (keyf a.Real=keyf 0)=x5
 generalize (a.Cap == 0)=x6
 generalize ((a.List.length:Int) == 0)=x7
 clear h
 revert t n b r l x1 x2 x3 x4 x5 x6 x7
 decide
theorem Zbda:Zc8 ⟨#[116]⟩ (Int.toNat (((⟨#[116]⟩:ByteArray).size:Int) - (0:Int)) + 1) false false false false false 0=some (true,false,false,false,false):=by kernel_rfl
theorem Z8n:Zc8 ⟨#[110]⟩ (Int.toNat (((⟨#[110]⟩:ByteArray).size:Int) - (0:Int)) + 1) false false false false false 0=some (false,true,false,false,false):=by kernel_rfl
theorem Zbbc:Zc8 ⟨#[110,98]⟩ (Int.toNat (((⟨#[110,98]⟩:ByteArray).size:Int) - (0:Int)) + 1) false false false false false 0=some (false,true,true,false,false):=by kernel_rfl
theorem Z31:Zc8 ⟨#[114]⟩ (Int.toNat (((⟨#[114]⟩:ByteArray).size:Int) - (0:Int)) + 1) false false false false false 0=some (false,false,false,true,false):=by kernel_rfl
theorem Z8r:Zc8 ⟨#[108]⟩ (Int.toNat (((⟨#[108]⟩:ByteArray).size:Int) - (0:Int)) + 1) false false false false false 0=some (false,false,false,false,true):=by kernel_rfl
def Zq0 (t n b r l:Bool) (a:Zb):Int :=
 if Zig t n b r l a=false then 4
 else if (64:Int) < a.Text.size then 3
 else if b=true ∧ (a.Low < -2305843009213693952 ∨ 2305843009213693952 < a.High ∨ a.Num < a.Low ∨ a.High < a.Num) then 1
 else if a.Real ≠ Zcg a.Real then 4
 else if l=false then 0
 else if a.Cap < 1 ∨ 32 < a.Cap then 1
 else if a.Cap < a.List.length then 8
 else Zj4 a.Kind a.List 0 a.List.length
theorem Zhc {a:Zb} (ha:Zie a) {t n b r l:Bool} (hk:¬ (a.Kind ≤ 0 ∨ 10 ≤ a.Kind)) (hs:Ze5 a.Kind=some ⟨t,n,b,r,l⟩):Zex a=some (Zq0 t n b r l a):=by
 unfold Zex Zq0
 rw [hs]
 simp only [Option.bind_some]
 rw [Z9q ha,Ztl ha.real,Z7q ha.len ha.sc]
 simp only [Option.bind_some]
 rw [if_neg (by simpa using hk)]
 by_cases h1:Zig t n b r l a=false
 ·rw [if_pos h1,if_pos (by simp [h1])]
 ·rw [if_neg h1,if_neg (by simpa using h1)]
  by_cases h2:(64:Int) < a.Text.size
  ·rw [if_pos h2,if_pos (by simpa using h2)]
  ·rw [if_neg h2,if_neg (by simpa using h2)]
   by_cases h3:b=true ∧ (a.Low < -2305843009213693952 ∨ 2305843009213693952 < a.High ∨ a.Num < a.Low ∨ a.High < a.Num)
   ·rw [if_pos h3,if_pos (by simpa [or_assoc] using h3)]
   ·rw [if_neg h3,if_neg (by simpa [or_assoc] using h3)]
    by_cases h4:a.Real=Zcg a.Real
    ·rw [if_neg (show ¬ (a.Real ≠ Zcg a.Real) from fun h=>h h4),decide_eq_true h4]
     simp only [Bool.not_true,Bool.false_eq_true,if_false]
     cases l
     ·simp
     ·simp only [Bool.not_true,Bool.false_eq_true,if_false,Bool.true_eq_false]
      by_cases h5:a.Cap < 1 ∨ 32 < a.Cap
      ·rw [if_pos h5,if_pos (by simpa using h5)]
      ·rw [if_neg h5,if_neg (by simpa using h5)]
       by_cases h6:a.Cap < a.List.length
       ·rw [if_pos h6,if_pos (by simpa using h6)]
       ·rw [if_neg h6,if_neg (by simpa using h6)]
    ·rw [if_pos (show a.Real ≠ Zcg a.Real from h4),decide_eq_false h4]
     rfl
theorem Z43:Ze5 1=some ⟨true,false,false,false,false⟩:=by kernel_rfl
theorem Z6i:Ze5 2=some ⟨false,true,false,false,false⟩:=by kernel_rfl
theorem Z5j:Ze5 3=some ⟨false,true,false,false,false⟩:=by kernel_rfl
theorem Z6s:Ze5 4=some ⟨false,true,true,false,false⟩:=by kernel_rfl
theorem Z51:Ze5 5=some ⟨false,false,false,true,false⟩:=by kernel_rfl
theorem Z52:Ze5 6=some ⟨false,false,false,true,false⟩:=by kernel_rfl
theorem Z5x:Ze5 7=some ⟨false,false,false,true,false⟩:=by kernel_rfl
theorem Z5w:Ze5 8=some ⟨false,false,false,false,true⟩:=by kernel_rfl
theorem Z6u:Ze5 9=some ⟨false,false,false,false,true⟩:=by kernel_rfl
def Zua (t n b r l:Bool) (k:Int) (a:Zb):Int :=
 if Zig t n b r l a=false then 4
 else if k=1 ∧ (64:Int) < a.Text.size then 3
 else if k=4 ∧ (a.Low < -2305843009213693952 ∨ 2305843009213693952 < a.High ∨ a.Num < a.Low ∨ a.High < a.Num) then 1
 else if a.Real ≠ Zcg a.Real then 4
 else if k < 8 then 0
 else if a.Cap < 1 ∨ 32 < a.Cap then 1
 else if a.Cap < a.List.length then 8
 else Zj4 a.Kind a.List 0 a.List.length
theorem Zhf {a:Zb} (ha:Zie a) {t n b r l:Bool} {s:ByteArray} (hk:¬ (a.Kind < 1 ∨ 9 < a.Kind)) (hf:Zjy a.Kind=some s)
  (ho:Zc8 s (Int.toNat ((s.size:Int) - (0:Int)) + 1) false false false false false 0=some (t,n,b,r,l)):Zc4 a=some (Zua t n b r l a.Kind a):=by
 unfold Zc4 Zua
 have hw:IntKind.i64.wrap (0 - (2305843009213693952:Int))=-2305843009213693952:=by decide
 rw [hf,Zr2 ha.real,hw,show (Int.toNat ((a.List.length:Int) - (0:Int)) + 1)=a.List.length + 1 by omega]
 have hloop:=Zut ha a.List.length 0 (by omega)
 rw [show ((0:Nat):Int)=0 from rfl] at hloop
 rw [hloop]
 simp only [Option.bind_some]
 rw [if_neg (by simpa using hk),Z9l ha ho]
 simp only [Option.bind_some]
 by_cases h1:Zig t n b r l a=false
 ·rw [if_pos h1,if_pos (by simp [h1])]
 ·rw [if_neg h1,if_neg (by simpa using h1)]
  by_cases h2:a.Kind=1 ∧ (64:Int) < a.Text.size
  ·rw [if_pos h2,if_pos (by simpa using h2)]
  ·rw [if_neg h2,if_neg (by simpa using h2)]
   by_cases h3:a.Kind=4 ∧ (a.Low < -2305843009213693952 ∨ 2305843009213693952 < a.High ∨ a.Num < a.Low ∨ a.High < a.Num)
   ·rw [if_pos h3,if_pos (by simpa [or_assoc] using h3)]
   ·rw [if_neg h3,if_neg (by simpa [or_assoc] using h3)]
    by_cases h4:a.Real=Zcg a.Real
    ·rw [if_neg (show ¬ (a.Real ≠ Zcg a.Real) from fun h=>h h4),decide_eq_true h4]
     simp only [Bool.not_true,Bool.false_eq_true,if_false]
     by_cases h7:a.Kind < 8
     ·rw [if_pos h7,if_pos (by simpa using h7)]
     ·rw [if_neg h7,if_neg (by simpa using h7)]
      by_cases h5:a.Cap < 1 ∨ 32 < a.Cap
      ·rw [if_pos h5,if_pos (by simpa using h5)]
      ·rw [if_neg h5,if_neg (by simpa using h5)]
       by_cases h6:a.Cap < a.List.length
       ·rw [if_pos h6,if_pos (by simpa using h6)]
       ·rw [if_neg h6,if_neg (by simpa using h6)]
        unfold endC
        by_cases h:Zj4 a.Kind a.List 0 a.List.length=0 <;> simp [h]
    ·rw [if_pos (show a.Real ≠ Zcg a.Real from h4),decide_eq_false h4]
     rfl
theorem Z89 {t n b r l:Bool} {a:Zb} (h:¬ Zig t n b r l a=false) (ht:t=false):a.Text.size=0:=by
 subst ht
 have:Zig false n b r l a=true:=by simpa using h
 unfold Zig at this
 simp only [Bool.false_or,Bool.and_eq_true] at this
 have:=Zdn.1 this.1.1.1.1
 rw [this];rfl
theorem D_eq (t n b r l:Bool) (k:Int) (a:Zb) (ht:t=true ↔ k=1) (hb:b=true ↔ k=4) (hl:l=false ↔ k < 8):Zua t n b r l k a=Zq0 t n b r l a:=by
 unfold Zua Zq0
 by_cases h1:Zig t n b r l a=false
 ·rw [if_pos h1,if_pos h1]
 ·rw [if_neg h1,if_neg h1]
  have e2:(k=1 ∧ (64:Int) < a.Text.size) ↔ (64:Int) < a.Text.size:=by
   constructor
   ·exact fun h=>h.2
   ·intro h
    refine ⟨ht.1 ?_,h⟩
    cases t
    ·have:=Z89 h1 rfl;omega
    ·rfl
  simp only [e2,hb,hl]
theorem Znn {a:Zb} (ha:Zie a):∃ c,Zex a=some c ∧ Zc4 a=some c:=by
 by_cases hk:a.Kind ≤ 0 ∨ 10 ≤ a.Kind
 ·refine ⟨5,?_,?_⟩
  ·unfold Zex
   have hs:∃ s,Ze5 a.Kind=some s:=by
    have h1:¬ a.Kind=1:=by omega
    have h2:¬ a.Kind=2:=by omega
    have h3:¬ a.Kind=3:=by omega
    have h4:¬ a.Kind=4:=by omega
    have h5:¬ a.Kind=5:=by omega
    have h6:¬ a.Kind=6:=by omega
    have h7:¬ a.Kind=7:=by omega
    have h8:¬ a.Kind=8:=by omega
    have h9:¬ a.Kind=9:=by omega
    exact ⟨⟨false,false,false,false,false⟩,by simp [Ze5,Zlc,Zju,Zlg,h1,h2,h3,h4,h5,h6,h7,h8,h9]⟩
   obtain ⟨s,hs⟩:=hs
   rw [hs]
   simp only [Option.bind_some]
   rw [if_pos (by simpa using hk)]
  ·unfold Zc4
   rw [if_pos (by simp;omega)]
 ·have hk2:¬ (a.Kind < 1 ∨ 9 < a.Kind):=by omega
  have hk':a.Kind=1 ∨ a.Kind=2 ∨ a.Kind=3 ∨ a.Kind=4 ∨ a.Kind=5 ∨ a.Kind=6 ∨ a.Kind=7 ∨ a.Kind=8 ∨ a.Kind=9:=by omega
  rcases hk' with h | h | h | h | h | h | h | h | h
  ·exact ⟨_,Zhc ha hk (by rw [h];exact Z43),by rw [Zhf ha hk2 (by rw [h];kernel_rfl) Zbda,D_eq _ _ _ _ _ _ _ (by simp [h]) (by simp [h]) (by simp [h])]⟩
  ·exact ⟨_,Zhc ha hk (by rw [h];exact Z6i),by rw [Zhf ha hk2 (by rw [h];kernel_rfl) Z8n,D_eq _ _ _ _ _ _ _ (by simp [h]) (by simp [h]) (by simp [h])]⟩
  ·exact ⟨_,Zhc ha hk (by rw [h];exact Z5j),by rw [Zhf ha hk2 (by rw [h];kernel_rfl) Z8n,D_eq _ _ _ _ _ _ _ (by simp [h]) (by simp [h]) (by simp [h])]⟩
  ·exact ⟨_,Zhc ha hk (by rw [h];exact Z6s),by rw [Zhf ha hk2 (by rw [h];kernel_rfl) Zbbc,D_eq _ _ _ _ _ _ _ (by simp [h]) (by simp [h]) (by simp [h])]⟩
  ·exact ⟨_,Zhc ha hk (by rw [h];exact Z51),by rw [Zhf ha hk2 (by rw [h];kernel_rfl) Z31,D_eq _ _ _ _ _ _ _ (by simp [h]) (by simp [h]) (by simp [h])]⟩
  ·exact ⟨_,Zhc ha hk (by rw [h];exact Z52),by rw [Zhf ha hk2 (by rw [h];kernel_rfl) Z31,D_eq _ _ _ _ _ _ _ (by simp [h]) (by simp [h]) (by simp [h])]⟩
  ·exact ⟨_,Zhc ha hk (by rw [h];exact Z5x),by rw [Zhf ha hk2 (by rw [h];kernel_rfl) Z31,D_eq _ _ _ _ _ _ _ (by simp [h]) (by simp [h]) (by simp [h])]⟩
  ·exact ⟨_,Zhc ha hk (by rw [h];exact Z5w),by rw [Zhf ha hk2 (by rw [h];kernel_rfl) Z8r,D_eq _ _ _ _ _ _ _ (by simp [h]) (by simp [h]) (by simp [h])]⟩
  ·exact ⟨_,Zhc ha hk (by rw [h];exact Z6u),by rw [Zhf ha hk2 (by rw [h];kernel_rfl) Z8r,D_eq _ _ _ _ _ _ _ (by simp [h]) (by simp [h]) (by simp [h])]⟩
def endB:Bool → Bool ⊕ Unit
 | true=>.inr ()
 | false=>.inl false
def eqI (x y:Zi):Bool:=sEq x.Name y.Name && decide (keyf x.Score=keyf y.Score)
def eqL:List Zi → List Zi → Bool
 | [],[]=>true
 | x :: xs,y :: ys=>eqI x y && eqL xs ys
 | _,_=>false
def Zk3 (a b:Zb):Bool:=(a.Kind == b.Kind) && (a.Num == b.Num) && (a.Low == b.Low) && (a.High == b.High) && decide (keyf a.Real=keyf b.Real) && (a.Cap == b.Cap) && sEq a.Text b.Text && eqL a.List b.List
theorem Zxs:∀ {a b:List Zi},eqL a b=true → a.length=b.length
 | [],[],_=>rfl
 | x :: xs,y :: ys,h=>by
  simp only [eqL,Bool.and_eq_true] at h
  simp [Zxs h.2]
 | [],_ :: _,h=>by simp [eqL] at h
 | _ :: _,[],h=>by simp [eqL] at h
theorem Z68 {x y:Zi} (hx:x.Score < W64) (hy:y.Score < W64):Zkc x y=some (eqI x y):=by
 unfold Zkc eqI
 rw [Zpm hx hy]
 cases sEq x.Name y.Name <;> simp [gd]
theorem Z1e {a b:List Zi} (ha:∀ e ∈ a,e.Score < W64) (hb:∀ e ∈ b,e.Score < W64) (hl:a.length < 4611686018427387904) (he:a.length=b.length):∀ (n i:Nat),i + n=a.length →
  Zbs a b (fun y0 y1=>Zkc y0 y1) (n + 1) (i:Int)=some (endB (eqL (a.drop i) (b.drop i)))
 | 0,i,h=>by
  rw [Zbs,if_neg (by simp;omega),List.drop_of_length_le (by omega),List.drop_of_length_le (by omega)]
  rfl
 | n + 1,i,h=>by
  have h1:i < a.length:=by omega
  have h2:i < b.length:=by omega
  rw [Zbs,if_pos (by simp;omega),Zcs h1,Zcs h2,wr1 (by omega)]
  simp only [Option.bind_some]
  rw [Z68 (ha _ (List.getElem_mem h1)) (hb _ (List.getElem_mem h2)),List.drop_eq_getElem_cons h1,List.drop_eq_getElem_cons h2]
  simp only [Option.bind_some,eqL]
  cases hq:eqI a[i] b[i]
  ·simp [endB]
  ·simp only [Bool.not_true,Bool.false_eq_true,if_false,Bool.true_and]
   exact Z1e ha hb hl he n (i + 1) (by omega)
theorem Zbch {a b:List Zi} (ha:∀ e ∈ a,e.Score < W64) (hb:∀ e ∈ b,e.Score < W64) (hl:a.length < 4611686018427387904):Zci a b (fun y0 y1=>Zkc y0 y1)=some (eqL a b):=by
 unfold Zci
 by_cases he:a.length=b.length
 ·rw [if_neg (by simp;omega),show (Int.toNat ((a.length:Int) - (0:Int)) + 1)=a.length + 1 by omega]
  have:=Z1e ha hb hl he a.length 0 (by omega)
  rw [show ((0:Nat):Int)=0 from rfl] at this
  rw [this]
  simp only [List.drop_zero]
  cases eqL a b <;> simp [endB]
 ·rw [if_pos (by simp;omega)]
  cases h:eqL a b
  ·rfl
  ·exact absurd (Zxs h) he
theorem Zz4 {a b:Zb} (ha:Zie a) (hb:Zie b):Zn5 a b=some (Zk3 a b):=by
 unfold Zn5 Zk3
 rw [Zpm ha.real hb.real,Zbch ha.sc hb.sc ha.len]
 generalize (a.Kind == b.Kind)=x1
 generalize (a.Num == b.Num)=x2
 generalize (a.Low == b.Low)=x3
 generalize (a.High == b.High)=x4
 generalize decide (keyf a.Real=keyf b.Real)=x5
 generalize (a.Cap == b.Cap)=x6
 generalize sEq a.Text b.Text=x7
 generalize eqL a.List b.List=x8
 revert x1 x2 x3 x4 x5 x6 x7 x8
 decide
theorem Zv3 {a b:Zb} (ha:Zie a) (hb:Zie b) (he:a.List.length=b.List.length):∀ (n i:Nat),i + n=a.List.length →
  Ze0 a b (n + 1) (i:Int)=some (endB (eqL (a.List.drop i) (b.List.drop i)))
 | 0,i,h=>by
  rw [Ze0,if_neg (by simp;omega),List.drop_of_length_le (by omega),List.drop_of_length_le (by omega)]
  rfl
 | n + 1,i,h=>by
  have h1:i < a.List.length:=by omega
  have h2:i < b.List.length:=by omega
  have hl:=ha.len
  have hs1:=ha.sc _ (List.getElem_mem h1)
  have hs2:=hb.sc _ (List.getElem_mem h2)
  rw [Ze0,if_pos (by simp;omega),Zcs h1,Zcs h2,wr1 (by omega),List.drop_eq_getElem_cons h1,List.drop_eq_getElem_cons h2]
  simp only [Option.bind_some,eqL,eqI]
  cases hn:sEq a.List[i].Name b.List[i].Name
  ·simp [gd,endB]
  ·simp only [Bool.not_true,Bool.not_false,gd_t,Option.bind_some]
   rw [Zlw hs1 hs2]
   simp only [Option.bind_some,Bool.false_or,Bool.true_and]
   by_cases hk:keyf a.List[i].Score=keyf b.List[i].Score
   ·simp only [hk,decide_true,Bool.not_true,Bool.false_eq_true,if_false,Bool.true_and]
    exact Zv3 ha hb he n (i + 1) (by omega)
   ·simp [hk,endB]
theorem Zqd {a b:Zb} (ha:Zie a) (hb:Zie b):Zdd a b=some (Zk3 a b):=by
 unfold Zdd Zk3
 rw [Zlw ha.real hb.real]
 by_cases he:a.List.length=b.List.length
 ·have:=Zv3 ha hb he a.List.length 0 (by omega)
  rw [show ((0:Nat):Int)=0 from rfl] at this
  rw [show (Int.toNat ((a.List.length:Int) - (0:Int)) + 1)=a.List.length + 1 by omega,this]
  have hn:((a.List.length:Int) != (b.List.length:Int))=false:=by simp;omega
  rw [hn]
  simp only [List.drop_zero,bne]
  generalize (a.Kind == b.Kind)=x1
  generalize (a.Num == b.Num)=x2
  generalize (a.Low == b.Low)=x3
  generalize (a.High == b.High)=x4
  generalize decide (keyf a.Real=keyf b.Real)=x5
  generalize (a.Cap == b.Cap)=x6
  generalize sEq a.Text b.Text=x7
  generalize eqL a.List b.List=x8
  clear this hn he
  revert x1 x2 x3 x4 x5 x6 x7 x8
  decide
 ·have h8:eqL a.List b.List=false:=by
   cases h:eqL a.List b.List
   ·rfl
   ·exact absurd (Zxs h) he
  have hn:((a.List.length:Int) != (b.List.length:Int))=true:=by simp;omega
  rw [hn,h8]
  simp only [bne,Bool.or_true,Option.bind_some,if_true,Bool.and_false,ite_self]
theorem Zv8 {a:Zb} (hl:a.List.length ≤ 9223372036854775807):∀ (n i:Nat),i + n=a.List.length → ∃ z,Zfk a (n + 1) (i:Int)=some z ∧ (z=.inl 1 ∨ z=.inr ())
 | 0,i,h=>by
  rw [Zfk,if_neg (by simp;omega)]
  exact ⟨_,rfl,.inr rfl⟩
 | n + 1,i,h=>by
  rw [Zfk,if_pos (by simp;omega),Zcs (by omega),wr1 (by omega)]
  simp only [Option.bind_some]
  split
  ·exact ⟨_,rfl,.inl rfl⟩
  ·exact Zv8 hl n (i + 1) (by omega)
theorem Zbd3 {a:Zb} (hl:a.List.length ≤ 9223372036854775807):∃ c,Zj1 a=some c ∧ (c=0 ∨ c=1) ∧ (c=0 → a.List.length ≤ 100):=by
 unfold Zj1
 by_cases h:(100:Int) < a.List.length ∨ (1000:Int) < a.Text.size
 ·rw [if_pos (by simpa using h)]
  exact ⟨1,rfl,.inr rfl,fun h=>by cases h⟩
 ·rw [if_neg (by simpa using h),show (Int.toNat ((a.List.length:Int) - (0:Int)) + 1)=a.List.length + 1 by omega]
  obtain ⟨z,hz,hc⟩:=Zv8 hl a.List.length 0 (by omega)
  rw [show ((0:Nat):Int)=0 from rfl] at hz
  rw [hz]
  rcases hc with rfl | rfl
  ·exact ⟨1,rfl,.inr rfl,fun h=>by cases h⟩
  ·exact ⟨0,rfl,.inl rfl,fun _=>by omega⟩
theorem Zq2 {β:Type} [Inhabited β] (c:Bool) (v:β):gd c (some v)=some (if c then v else default):=by cases c <;> rfl
def Zwr (a:Zm):Prop:=Zie a.Make ∧ a.X < W64
abbrev zrc:Zb:={ Kind:=0,Num:=0,Low:=0,High:=0,Real:=0,Cap:=0,Text:=ByteArray.empty,List:=[] }
theorem Z5m:Zie zrc:=⟨by decide,by decide,fun e he=>by cases he⟩
def actD (n x s m o1 k1 k2:Bool) (c:Int) (a:Zm):Int :=
 if (sEq a.Key ⟨#[]⟩ || decide ((24:Int) < a.Key.size))=true then 1
 else if (!(((n || a.N == 0) && (x || decide (keyf a.X=keyf 0))) && (s || sEq a.S ⟨#[]⟩) && (m || Zk3 a.Make zrc)))=true then 4
 else if decide ((if o1=true then (64:Int) else 16) < a.S.size)=true then 3
 else if (k2 && (decide (a.N < 0) || decide (2305843009213693952 < a.N)))=true then 1
 else if (!decide (a.X=Zcg a.X))=true then 4
 else if k1=true then c else 0
theorem Z9y (k:ByteArray):(decide ((k.size:Int) < 1))=sEq k ⟨#[]⟩:=by
 by_cases h:k=⟨#[]⟩
 ·subst h;rw [Zc6];decide
 ·rw [Ze9.2 h]
  have:k.size ≠ 0:=fun e=>h (by
   apply ByteArray.ext
   exact Array.size_eq_zero_iff.1 e)
  simp;omega
theorem Z6e {a:Zm} (ha:Zwr a) {w has:ByteArray} {on c:Int} {n x s m:Bool} (hc:Zex a.Make=some c) (h1:Zpq a.Kind=some ⟨w,on,has⟩) (hw:sEq w ⟨#[]⟩=false)
  (fn:Zdu ⟨w,on,has⟩ 110=some n) (fx:Zdu ⟨w,on,has⟩ 120=some x) (fs:Zdu ⟨w,on,has⟩ 115=some s) (fm:Zdu ⟨w,on,has⟩ 109=some m) :
  Zf7 a=some (actD n x s m (on == 1) (a.Kind == 1) (a.Kind == 10 || a.Kind == 11) c a):=by
 have h0:(0:Nat) < W64:=by decide
 unfold Zf7 Zr4 Zrk
 rw [h1]
 simp only [Option.bind_some,hw,Bool.false_eq_true,if_false,fn,fx,fs,fm,Zq2]
 rw [Zpm ha.2 h0,Zz4 ha.1 Z5m,Ztl ha.2,hc]
 simp only [Option.bind_some,Zq2]
 unfold actD
 generalize (sEq a.Key ⟨#[]⟩ || decide ((24:Int) < a.Key.size))=b1
 generalize (a.N == 0)=b2
 generalize decide (keyf a.X=keyf 0)=b3
 generalize sEq a.S ⟨#[]⟩=b4
 generalize Zk3 a.Make zrc=b5
 generalize (a.Kind == 10 || a.Kind == 11)=b6
 generalize (a.Kind == 1)=b7
 generalize (decide (a.N < 0) || decide (2305843009213693952 < a.N))=b8
 generalize decide (a.X=Zcg a.X)=b9
 have e1:decide ((64:Int) < a.S.size)=decide ((if true=true then (64:Int) else 16) < a.S.size):=rfl
 cases b1
 ·have hm:∀ (z:Bool),((if z=true then some (64:Int) else some 16).bind fun r8=>(if decide (r8 < (a.S.size:Int))=true then some (3:Int) else if (b6 && b8)=true then some 1 else if (!b9)=true then some 4 else if b7=true then some c else some 0))=some (if decide ((if z=true then (64:Int) else 16) < a.S.size)=true then 3 else if (b6 && b8)=true then 1 else if (!b9)=true then 4 else if b7=true then c else 0):=by
   intro z
   cases z <;> simp only [Bool.false_eq_true,if_false,if_true,Option.bind_some] <;> (repeat' split) <;> rfl
  rw [hm]
  cases n <;> cases x <;> cases s <;> cases m <;> cases b2 <;> cases b3 <;> cases b4 <;> cases b5 <;> rfl
 ·rfl
theorem Z36 {a:Zm} (ha:Zwr a) {on c:Int} {n x s m:Bool} (hc:Zc4 a.Make=some c) (hk:¬ (a.Kind < 1 ∨ 21 < a.Kind)) (ro:Zfa a.Kind=some on)
  (fn:Zep a.Kind 110=some n) (fx:Zep a.Kind 120=some x) (fs:Zep a.Kind 115=some s) (fm:m=(a.Kind == 1)) :
  Zc3 a=some (actD n x s m (on == 1) (a.Kind == 1) (a.Kind == 10 || a.Kind == 11) c a):=by
 have h0:(0:Nat) < W64:=by decide
 unfold Zc3
 rw [if_neg (by simpa using hk),fn,fx,fs,ro]
 simp only [Option.bind_some,Zq2,Z9y]
 rw [Zlw ha.2 h0,Zqd ha.1 Z5m,Zr2 ha.2,hc]
 simp only [Option.bind_some,Zq2]
 unfold actD
 subst fm
 have hmid:((on == 1 && decide ((64:Int) < a.S.size)) || ((if (!(on == 1 && decide ((64:Int) < a.S.size)))=true then on else default) != 1 && decide ((16:Int) < a.S.size)))=decide ((if (on == 1)=true then (64:Int) else 16) < a.S.size):=by
  by_cases ho:on=1
  ·subst ho
   by_cases h64:(64:Int) < a.S.size <;> simp [h64]
  ·have hb1:(on == 1)=false:=by simpa using ho
   have hb2:(on != 1)=true:=by simpa using ho
   simp [hb1,hb2]
 rw [hmid,show (a.N != 0)=!(a.N == 0) from rfl,show (a.Kind != 1)=!(a.Kind == 1) from rfl]
 generalize decide ((if (on == 1)=true then (64:Int) else 16) < a.S.size)=b10
 generalize (sEq a.Key ⟨#[]⟩ || decide ((24:Int) < a.Key.size))=b1
 generalize (a.N == 0)=b2
 generalize decide (keyf a.X=keyf 0)=b3
 generalize sEq a.S ⟨#[]⟩=b4
 generalize Zk3 a.Make zrc=b5
 generalize (a.Kind == 10 || a.Kind == 11)=b6
 generalize (a.Kind == 1)=b7
 generalize (decide (a.N < 0) || decide (2305843009213693952 < a.N))=b8
 generalize decide (a.X=Zcg a.X)=b9
 have htail:(if b10=true then some (3:Int) else if (b6 && b8)=true then some 1 else if (!b9)=true then some 4 else if b7=true then some c else some 0)=some (if b10=true then 3 else if (b6 && b8)=true then 1 else if (!b9)=true then 4 else if b7=true then c else 0):=by
  (repeat' split) <;> rfl
 rw [htail]
 cases b1
 ·cases n <;> cases x <;> cases s <;> cases b7 <;> cases b2 <;> cases b3 <;> cases b4 <;> cases b5 <;> rfl
 ·rfl
theorem Z6n {n x s m o1 k1 k2:Bool} {c:Int} {a:Zm} (h:actD n x s m o1 k1 k2 c a=0):(sEq a.Key ⟨#[]⟩ || decide ((24:Int) < a.Key.size))=false ∧ decide ((if o1=true then (64:Int) else 16) < a.S.size)=false ∧ (k2 && (decide (a.N < 0) || decide (2305843009213693952 < a.N)))=false ∧ decide (a.X=Zcg a.X)=true ∧ (k1=true → c=0):=by
 unfold actD at h
 revert h
 generalize (sEq a.Key ⟨#[]⟩ || decide ((24:Int) < a.Key.size))=b1
 generalize decide ((if o1=true then (64:Int) else 16) < a.S.size)=b3
 generalize (k2 && (decide (a.N < 0) || decide (2305843009213693952 < a.N)))=b4
 generalize decide (a.X=Zcg a.X)=b5
 generalize (!(((n || a.N == 0) && (x || decide (keyf a.X=keyf 0))) && (s || sEq a.S ⟨#[]⟩) && (m || Zk3 a.Make zrc)))=b2
 cases b1 <;> cases b2 <;> cases b3 <;> cases b4 <;> cases b5 <;> cases k1 <;> simp
theorem Zna {a:Zm} (ha:Zwr a):∃ c,Zf7 a=some c ∧ Zc3 a=some c ∧ (c=0 → 1 ≤ a.Kind ∧ a.Kind ≤ 21 ∧ a.X=Zcg a.X ∧ a.S.size ≤ 64 ∧ ((a.Kind=10 ∨ a.Kind=11) → 0 ≤ a.N ∧ a.N ≤ 2305843009213693952) ∧ (a.Kind=1 → Zex a.Make=some 0) ∧ (¬ (5 ≤ a.Kind ∧ a.Kind ≤ 6) → a.S.size ≤ 16) ∧ sEq a.Key ⟨#[]⟩=false ∧ a.Key.size ≤ 24):=by
 by_cases hk:a.Kind < 1 ∨ 21 < a.Kind
 ·refine ⟨5,?_,?_,fun h=>by cases h⟩
  ·unfold Zf7 Zpq
   rw [if_pos (by simp;omega)]
   simp only [Option.bind_some]
   rw [if_pos (show sEq ByteArray.empty ⟨#[]⟩=true by kernel_rfl)]
  ·unfold Zc3
   rw [if_pos (by simpa using hk)]
 ·obtain ⟨c,hc1,hc2⟩:=Znn ha.1
  have fin:∀ {w has:ByteArray} {on:Int} {n x s m:Bool},Zpq a.Kind=some ⟨w,on,has⟩ → sEq w ⟨#[]⟩=false → Zdu ⟨w,on,has⟩ 110=some n → Zdu ⟨w,on,has⟩ 120=some x → Zdu ⟨w,on,has⟩ 115=some s → Zdu ⟨w,on,has⟩ 109=some m →
    Zfa a.Kind=some on → Zep a.Kind 110=some n → Zep a.Kind 120=some x → Zep a.Kind 115=some s → m=(a.Kind == 1) → ((on == 1)=true → 5 ≤ a.Kind ∧ a.Kind ≤ 6) →
    ∃ c,Zf7 a=some c ∧ Zc3 a=some c ∧ (c=0 → 1 ≤ a.Kind ∧ a.Kind ≤ 21 ∧ a.X=Zcg a.X ∧ a.S.size ≤ 64 ∧ ((a.Kind=10 ∨ a.Kind=11) → 0 ≤ a.N ∧ a.N ≤ 2305843009213693952) ∧ (a.Kind=1 → Zex a.Make=some 0) ∧ (¬ (5 ≤ a.Kind ∧ a.Kind ≤ 6) → a.S.size ≤ 16) ∧ sEq a.Key ⟨#[]⟩=false ∧ a.Key.size ≤ 24):=by
   intro w has on n x s m h1 hw fn fx fs fm ro rn rx rs hm hon
   refine ⟨_,Z6e ha hc1 h1 hw fn fx fs fm,by rw [hm];exact Z36 ha hc2 hk ro rn rx rs rfl,fun h0=>?_⟩
   obtain ⟨g1,g3,g4,g5,g6⟩:=Z6n h0
   simp only [Bool.or_eq_false_iff,decide_eq_false_iff_not] at g1
   have g3':¬ (if (on == 1)=true then (64:Int) else 16) < a.S.size:=of_decide_eq_false g3
   refine ⟨by omega,by omega,of_decide_eq_true g5,?_,fun h=>?_,fun h=>?_,fun h=>?_,g1.1,by omega⟩
   ·split at g3' <;> omega
   ·have h11:(a.Kind == 10 || a.Kind == 11)=true:=by simpa using h
    rw [h11] at g4
    simp only [Bool.true_and,Bool.or_eq_false_iff,decide_eq_false_iff_not] at g4
    omega
   ·rw [hc1,g6 (by simp [h])]
   ·rw [if_neg (fun h2=>h (hon h2))] at g3'
    omega
  have hk':a.Kind=1 ∨ a.Kind=2 ∨ a.Kind=3 ∨ a.Kind=4 ∨ a.Kind=5 ∨ a.Kind=6 ∨ a.Kind=7 ∨ a.Kind=8 ∨ a.Kind=9 ∨ a.Kind=10 ∨ a.Kind=11 ∨ a.Kind=12 ∨ a.Kind=13 ∨ a.Kind=14 ∨ a.Kind=15 ∨ a.Kind=16 ∨ a.Kind=17 ∨ a.Kind=18 ∨ a.Kind=19 ∨ a.Kind=20 ∨ a.Kind=21:=by omega
  rcases hk' with h | h | h | h | h | h | h | h | h | h | h | h | h | h | h | h | h | h | h | h | h <;> rw [h] at fin ⊢
  ·exact fin (w:=⟨#[110,101,119]⟩) (on:=0) (has:=⟨#[109]⟩) (n:=false) (x:=false) (s:=false) (m:=true) (by kernel_rfl) (by kernel_rfl) (by kernel_rfl) (by kernel_rfl) (by kernel_rfl) (by kernel_rfl) (by kernel_rfl) (by kernel_rfl) (by kernel_rfl) (by kernel_rfl) (by decide) (by decide)
  ·exact fin (w:=⟨#[100,114,111,112]⟩) (on:=0) (has:=⟨#[]⟩) (n:=false) (x:=false) (s:=false) (m:=false) (by kernel_rfl) (by kernel_rfl) (by kernel_rfl) (by kernel_rfl) (by kernel_rfl) (by kernel_rfl) (by kernel_rfl) (by kernel_rfl) (by kernel_rfl) (by kernel_rfl) (by decide) (by decide)
  ·exact fin (w:=⟨#[105,115]⟩) (on:=0) (has:=⟨#[]⟩) (n:=false) (x:=false) (s:=false) (m:=false) (by kernel_rfl) (by kernel_rfl) (by kernel_rfl) (by kernel_rfl) (by kernel_rfl) (by kernel_rfl) (by kernel_rfl) (by kernel_rfl) (by kernel_rfl) (by kernel_rfl) (by decide) (by decide)
  ·exact fin (w:=⟨#[108,111,111,107]⟩) (on:=0) (has:=⟨#[]⟩) (n:=false) (x:=false) (s:=false) (m:=false) (by kernel_rfl) (by kernel_rfl) (by kernel_rfl) (by kernel_rfl) (by kernel_rfl) (by kernel_rfl) (by kernel_rfl) (by kernel_rfl) (by kernel_rfl) (by kernel_rfl) (by decide) (by decide)
  ·exact fin (w:=⟨#[112,117,116]⟩) (on:=1) (has:=⟨#[115]⟩) (n:=false) (x:=false) (s:=true) (m:=false) (by kernel_rfl) (by kernel_rfl) (by kernel_rfl) (by kernel_rfl) (by kernel_rfl) (by kernel_rfl) (by kernel_rfl) (by kernel_rfl) (by kernel_rfl) (by kernel_rfl) (by decide) (by decide)
  ·exact fin (w:=⟨#[115,119,97,112]⟩) (on:=1) (has:=⟨#[115]⟩) (n:=false) (x:=false) (s:=true) (m:=false) (by kernel_rfl) (by kernel_rfl) (by kernel_rfl) (by kernel_rfl) (by kernel_rfl) (by kernel_rfl) (by kernel_rfl) (by kernel_rfl) (by kernel_rfl) (by kernel_rfl) (by decide) (by decide)
  ·exact fin (w:=⟨#[97,100,100]⟩) (on:=2) (has:=⟨#[110]⟩) (n:=true) (x:=false) (s:=false) (m:=false) (by kernel_rfl) (by kernel_rfl) (by kernel_rfl) (by kernel_rfl) (by kernel_rfl) (by kernel_rfl) (by kernel_rfl) (by kernel_rfl) (by kernel_rfl) (by kernel_rfl) (by decide) (by decide)
  ·exact fin (w:=⟨#[112,108,117,115]⟩) (on:=3) (has:=⟨#[110]⟩) (n:=true) (x:=false) (s:=false) (m:=false) (by kernel_rfl) (by kernel_rfl) (by kernel_rfl) (by kernel_rfl) (by kernel_rfl) (by kernel_rfl) (by kernel_rfl) (by kernel_rfl) (by kernel_rfl) (by kernel_rfl) (by decide) (by decide)
  ·exact fin (w:=⟨#[114,101,97,99,104]⟩) (on:=3) (has:=⟨#[110]⟩) (n:=true) (x:=false) (s:=false) (m:=false) (by kernel_rfl) (by kernel_rfl) (by kernel_rfl) (by kernel_rfl) (by kernel_rfl) (by kernel_rfl) (by kernel_rfl) (by kernel_rfl) (by kernel_rfl) (by kernel_rfl) (by decide) (by decide)
  ·exact fin (w:=⟨#[105,110]⟩) (on:=4) (has:=⟨#[110]⟩) (n:=true) (x:=false) (s:=false) (m:=false) (by kernel_rfl) (by kernel_rfl) (by kernel_rfl) (by kernel_rfl) (by kernel_rfl) (by kernel_rfl) (by kernel_rfl) (by kernel_rfl) (by kernel_rfl) (by kernel_rfl) (by decide) (by decide)
  ·exact fin (w:=⟨#[111,117,116]⟩) (on:=4) (has:=⟨#[110]⟩) (n:=true) (x:=false) (s:=false) (m:=false) (by kernel_rfl) (by kernel_rfl) (by kernel_rfl) (by kernel_rfl) (by kernel_rfl) (by kernel_rfl) (by kernel_rfl) (by kernel_rfl) (by kernel_rfl) (by kernel_rfl) (by decide) (by decide)
  ·exact fin (w:=⟨#[101,110,111,117,103,104]⟩) (on:=4) (has:=⟨#[110]⟩) (n:=true) (x:=false) (s:=false) (m:=false) (by kernel_rfl) (by kernel_rfl) (by kernel_rfl) (by kernel_rfl) (by kernel_rfl) (by kernel_rfl) (by kernel_rfl) (by kernel_rfl) (by kernel_rfl) (by kernel_rfl) (by decide) (by decide)
  ·exact fin (w:=⟨#[114,97,105,115,101]⟩) (on:=5) (has:=⟨#[120]⟩) (n:=false) (x:=true) (s:=false) (m:=false) (by kernel_rfl) (by kernel_rfl) (by kernel_rfl) (by kernel_rfl) (by kernel_rfl) (by kernel_rfl) (by kernel_rfl) (by kernel_rfl) (by kernel_rfl) (by kernel_rfl) (by decide) (by decide)
  ·exact fin (w:=⟨#[108,111,119,101,114]⟩) (on:=6) (has:=⟨#[120]⟩) (n:=false) (x:=true) (s:=false) (m:=false) (by kernel_rfl) (by kernel_rfl) (by kernel_rfl) (by kernel_rfl) (by kernel_rfl) (by kernel_rfl) (by kernel_rfl) (by kernel_rfl) (by kernel_rfl) (by kernel_rfl) (by decide) (by decide)
  ·exact fin (w:=⟨#[115,104,105,102,116]⟩) (on:=7) (has:=⟨#[120]⟩) (n:=false) (x:=true) (s:=false) (m:=false) (by kernel_rfl) (by kernel_rfl) (by kernel_rfl) (by kernel_rfl) (by kernel_rfl) (by kernel_rfl) (by kernel_rfl) (by kernel_rfl) (by kernel_rfl) (by kernel_rfl) (by decide) (by decide)
  ·exact fin (w:=⟨#[115,99,97,108,101]⟩) (on:=7) (has:=⟨#[120]⟩) (n:=false) (x:=true) (s:=false) (m:=false) (by kernel_rfl) (by kernel_rfl) (by kernel_rfl) (by kernel_rfl) (by kernel_rfl) (by kernel_rfl) (by kernel_rfl) (by kernel_rfl) (by kernel_rfl) (by kernel_rfl) (by decide) (by decide)
  ·exact fin (w:=⟨#[102,105,120]⟩) (on:=7) (has:=⟨#[120]⟩) (n:=false) (x:=true) (s:=false) (m:=false) (by kernel_rfl) (by kernel_rfl) (by kernel_rfl) (by kernel_rfl) (by kernel_rfl) (by kernel_rfl) (by kernel_rfl) (by kernel_rfl) (by kernel_rfl) (by kernel_rfl) (by decide) (by decide)
  ·exact fin (w:=⟨#[106,111,105,110]⟩) (on:=8) (has:=⟨#[115]⟩) (n:=false) (x:=false) (s:=true) (m:=false) (by kernel_rfl) (by kernel_rfl) (by kernel_rfl) (by kernel_rfl) (by kernel_rfl) (by kernel_rfl) (by kernel_rfl) (by kernel_rfl) (by kernel_rfl) (by kernel_rfl) (by decide) (by decide)
  ·exact fin (w:=⟨#[108,101,97,118,101]⟩) (on:=8) (has:=⟨#[115]⟩) (n:=false) (x:=false) (s:=true) (m:=false) (by kernel_rfl) (by kernel_rfl) (by kernel_rfl) (by kernel_rfl) (by kernel_rfl) (by kernel_rfl) (by kernel_rfl) (by kernel_rfl) (by kernel_rfl) (by kernel_rfl) (by decide) (by decide)
  ·exact fin (w:=⟨#[104,97,115]⟩) (on:=8) (has:=⟨#[115]⟩) (n:=false) (x:=false) (s:=true) (m:=false) (by kernel_rfl) (by kernel_rfl) (by kernel_rfl) (by kernel_rfl) (by kernel_rfl) (by kernel_rfl) (by kernel_rfl) (by kernel_rfl) (by kernel_rfl) (by kernel_rfl) (by decide) (by decide)
  ·exact fin (w:=⟨#[111,102,102,101,114]⟩) (on:=9) (has:=⟨#[120,115]⟩) (n:=false) (x:=true) (s:=true) (m:=false) (by kernel_rfl) (by kernel_rfl) (by kernel_rfl) (by kernel_rfl) (by kernel_rfl) (by kernel_rfl) (by kernel_rfl) (by kernel_rfl) (by kernel_rfl) (by kernel_rfl) (by decide) (by decide)
abbrev Zd1:=List Zi
def NS (l:Zd1):Prop:=l.Pairwise fun p q=>sLt p.Name q.Name=true
def pre (f:Zi → Bool):Zd1 → Nat
 | []=>0
 | e :: r=>if f e then pre f r + 1 else 0
theorem Zqb (f:Zi → Bool):∀ l:Zd1,pre f l ≤ l.length
 | []=>Nat.le_refl _
 | e :: r=>by
  have:=Zqb f r
  simp only [pre]
  split <;> simp <;> omega
theorem Z1t {f:Zi → Bool}:∀ {l:Zd1} {k:Nat} (h:k < pre f l),∃ e,l[k]?=some e ∧ f e=true
 | [],k,h=>by simp [pre] at h
 | e :: r,k,h=>by
  simp only [pre] at h
  split at h
  ·rename_i hf
   cases k with
   | zero=>exact ⟨e,rfl,hf⟩
   | succ k=>exact Z1t (l:=r) (by omega)
  ·omega
theorem Zwu {f:Zi → Bool}:∀ {l:Zd1} {e:Zi},l[pre f l]?=some e → f e=false
 | [],e,h=>by simp [pre] at h
 | x :: r,e,h=>by
  simp only [pre] at h
  split at h
  ·exact Zwu (l:=r) (by simpa using h)
  ·rename_i hf
   simp at h;subst h;simpa using hf
theorem Zu9 {s:ByteArray} {l:Zd1} (hs:NS l) {k:Nat} (hk:k < l.length):sLt (l[k]).Name s=decide (k < pre (fun e=>sLt e.Name s) l):=by
 by_cases h:k < pre (fun e=>sLt e.Name s) l
 ·obtain ⟨e,he,hf⟩:=Z1t h
  rw [List.getElem?_eq_getElem hk] at he
  obtain rfl:=Option.some.inj he
  simp only [h,decide_true];exact hf
 ·simp only [h,decide_false]
  have hp:pre (fun e=>sLt e.Name s) l < l.length:=by omega
  have h1:=Zwu (List.getElem?_eq_getElem hp)
  rcases Nat.lt_or_eq_of_le (Nat.le_of_not_lt h) with hlt | heq
  ·have h2:=List.pairwise_iff_getElem.1 hs _ _ hp hk hlt
   cases h3:sLt (l[k]).Name s
   ·rfl
   ·rw [Zgp h2 h3] at h1;cases h1
  ·have:l[k]=l[pre (fun e=>sLt e.Name s) l]:=by congr 1;exact heq.symm
   rw [this];exact h1
theorem half {i j:Nat} (h:i + j < 4611686018427387904):IntKind.i64.wrap (Int.fdiv (IntKind.u64.wrap (IntKind.i64.wrap ((i:Int) + (j:Int)))) (2 ^ 1))=(((i + j) / 2:Nat):Int):=by
 rw [wr (x:=(i:Int) + j) (by omega) (by omega),wru (by omega) (by omega)]
 have:Int.fdiv ((i:Int) + j) (2 ^ 1)=(((i + j) / 2:Nat):Int):=by
  rw [Int.fdiv_eq_ediv_of_nonneg _ (by decide)];omega
 rw [this,wr (by omega) (by omega)]
theorem Z8o (e:Zi) (s:ByteArray):∃ c:Int,Zkh e s=some c ∧ decide (c < 0)=sLt e.Name s ∧ (c == 0)=sEq e.Name s:=by
 unfold Zkh
 by_cases h:sLt e.Name s=true
 ·exact ⟨-1,by rw [if_pos h],by rw [h];rfl,by rw [Ze9.2 (Znl h)];rfl⟩
 ·have h':sLt e.Name s=false:=by simpa using h
  by_cases h2:e.Name=s
  ·exact ⟨0,by rw [if_neg h,h',Zdn.2 h2];rfl,by rw [h'];rfl,by rw [Zdn.2 h2];rfl⟩
  ·exact ⟨1,by rw [if_neg h,h',Ze9.2 h2];rfl,by rw [h'];rfl,by rw [Ze9.2 h2];rfl⟩
theorem Zw9 {l:Zd1} {s:ByteArray} (hs:NS l) (hl:l.length < 2305843009213693952):∀ (n i j:Nat),j - i < n → i ≤ pre (fun e=>sLt e.Name s) l → pre (fun e=>sLt e.Name s) l ≤ j → j ≤ l.length →
  Zbq l s (fun y0 y1=>Zkh y0 y1) n (i:Int) (j:Int)=some ((pre (fun e=>sLt e.Name s) l:Nat):Int)
 | 0,i,j,h,_,_,_=>by omega
 | n + 1,i,j,h,h1,h2,h3=>by
  rw [Zbq]
  by_cases hij:i < j
  ·rw [if_pos (by simpa using hij),half (by omega)]
   have hm:(i + j) / 2 < l.length:=by omega
   rw [Zcs hm]
   obtain ⟨c,hc,hc1,_⟩:=Z8o l[(i + j) / 2] s
   simp only [Option.bind_some,hc]
   rw [hc1,Zu9 hs hm]
   unfold Zcl
   by_cases hp:(i + j) / 2 < pre (fun e=>sLt e.Name s) l
   ·rw [if_pos (by simpa using hp),wr1 (by omega)]
    exact Zw9 hs hl n ((i + j) / 2 + 1) j (by omega) (by omega) h2 h3
   ·rw [if_neg (by simpa using hp)]
    exact Zw9 hs hl n i ((i + j) / 2) (by omega) h1 (by omega) (by omega)
  ·rw [if_neg (by simpa using hij)]
   congr 2;omega
def isAt (s:ByteArray) (l:Zd1):Bool:=match l[pre (fun e=>sLt e.Name s) l]? with
 | some e=>sEq e.Name s
 | none=>false
theorem Zpn {l:Zd1} {s:ByteArray} (hs:NS l) (hl:l.length < 2305843009213693952):Zmc l s=some (((pre (fun e=>sLt e.Name s) l:Nat):Int),isAt s l):=by
 unfold Zmc Zdb
 have:=Zw9 (s:=s) hs hl (l.length + 1) 0 l.length (by omega) (Nat.zero_le _) (Zqb _ _) (Nat.le_refl _)
 rw [show ((0:Nat):Int)=0 from rfl] at this
 rw [show (Int.toNat ((l.length:Int) - (0:Int)) + 1)=l.length + 1 by omega,this]
 simp only [Option.bind_some]
 unfold isAt
 by_cases hp:pre (fun e=>sLt e.Name s) l < l.length
 ·have hd:decide (((pre (fun e=>sLt e.Name s) l:Nat):Int) < (l.length:Int))=true:=by simpa using hp
  rw [hd,Zcs hp,List.getElem?_eq_getElem hp]
  obtain ⟨c,hc,_,hc2⟩:=Z8o l[pre (fun e=>sLt e.Name s) l] s
  simp only [gd_t,Option.bind_some,hc,Bool.true_and,hc2]
 ·have hd:decide (((pre (fun e=>sLt e.Name s) l:Nat):Int) < (l.length:Int))=false:=by simpa using hp
  rw [hd,List.getElem?_eq_none (by omega)]
  rfl
def goL (f g:Zi → Bool) (x:Zi):Zd1 → Bool → Zd1 × Bool
 | [],d=>([],d)
 | e :: r,d=>if (!d && !f e)=true then ((if g e then [] else [x]) ++ e :: (goL f g x r true).1,(goL f g x r true).2) else (e :: (goL f g x r d).1,(goL f g x r d).2)
theorem Z78 (f g:Zi → Bool) (x:Zi):∀ l:Zd1,goL f g x l true=(l,true)
 | []=>rfl
 | e :: r=>by simp [goL,Z78 f g x r]
theorem Z80 (f g:Zi → Bool) (x:Zi):∀ l:Zd1,goL f g x l false=match l[pre f l]? with
  | some e=>(l.take (pre f l) ++ (if g e then [] else [x]) ++ l.drop (pre f l),true)
  | none=>(l,false)
 | []=>rfl
 | e :: r=>by
  simp only [goL,pre]
  by_cases hf:f e=true
  ·simp only [hf,Bool.not_true,Bool.and_false,Bool.false_eq_true,if_false,if_true]
   rw [Z80 f g x r]
   simp only [List.getElem?_cons_succ]
   cases r[pre f r]? <;> simp
  ·have hf':f e=false:=by simpa using hf
   simp only [hf',Bool.not_false,Bool.and_self,if_true,Bool.false_eq_true,if_false,Z78,List.getElem?_cons_zero,List.take_zero,List.nil_append,List.drop_zero]
def Zec (x:Zi) (nm:Bool) (e:Zi):Bool:=if nm then sLt e.Name x.Name else Zds e x
def Zmy (x:Zi) (nm:Bool) (e:Zi):Bool:=sEq e.Name x.Name && (nm || decide (keyf e.Score=keyf x.Score))
theorem Z6h {l:Zd1} {x:Zi} {nm:Bool} (hx:x.Score < W64) (hsc:∀ e ∈ l,e.Score < W64) {n i:Nat} {out:Zd1} {d:Bool} (h1:i < l.length) :
  Zcn l x nm (n + 1) out d (i:Int)=(if (!d && !Zec x nm l[i])=true then (if (!Zmy x nm l[i])=true then (if (out.length + ([x]:List Zi).length) * 24 ≤ 140737488355328 then Zd8 l (i:Int) (Zcn l x nm n) (out ++ [x]) true else none) else Zd8 l (i:Int) (Zcn l x nm n) out true) else Zd8 l (i:Int) (Zcn l x nm n) out d):=by
 have hm:=hsc _ (List.getElem_mem h1)
 have ha:Zgl l[i] x=some (Zds l[i] x):=Z1c hm hx
 have hs:Zdy l[i].Score x.Score=some (decide (keyf l[i].Score=keyf x.Score)):=Zlw hm hx
 rw [Zcn,if_pos (by simp;omega),Zcs h1]
 cases nm
 ·simp only [Bool.not_false,gd_t,Option.bind_some,Bool.true_and,ha,Bool.and_false,gd_f,Bool.false_and,Bool.or_false,Bool.and_true,Bool.false_or,Zec,Zmy,Bool.false_eq_true,if_false]
  cases hq:sEq l[i].Name x.Name
  ·simp only [gd_f,Option.bind_some,Bool.false_and]
  ·simp only [gd_t,Option.bind_some,Bool.true_and,hs]
 ·simp only [Bool.not_true,gd_f,Option.bind_some,Bool.false_and,Bool.not_false,Bool.true_and,gd_t,Bool.false_or,Bool.true_or,Bool.and_false,Bool.and_true,Zec,Zmy,if_true]
theorem Zqg {l:Zd1} {x:Zi} {nm:Bool} (hx:x.Score < W64) (hsc:∀ e ∈ l,e.Score < W64) (hl:l.length < 1000000):∀ (n i:Nat) (out:Zd1) (d:Bool),i + n=l.length → out.length + (if d=true then 0 else 1) ≤ i + 1 →
  Zcn l x nm (n + 1) out d (i:Int)=some (out ++ (goL (Zec x nm) (Zmy x nm) x (l.drop i) d).1,(goL (Zec x nm) (Zmy x nm) x (l.drop i) d).2)
 | 0,i,out,d,h,_=>by
  rw [Zcn,if_neg (by simp;omega),List.drop_of_length_le (by omega)]
  simp [goL]
 | n + 1,i,out,d,h,ho=>by
  have h1:i < l.length:=by omega
  rw [Z6h hx hsc h1,List.drop_eq_getElem_cons h1]
  simp only [Zd8,Zcs h1,wr1 (show i < 9223372036854775807 by omega),Option.bind_some,goL]
  by_cases hc:(!d && !Zec x nm l[i])=true
  ·rw [if_pos hc,if_pos hc]
   have hd:d=false:=by cases d <;> simp_all
   subst hd
   simp only [Bool.false_eq_true,if_false] at ho
   by_cases hs:(!Zmy x nm l[i])=true
   ·rw [if_pos hs,if_pos (by simp;omega),if_pos (by simp;omega),Zqg hx hsc hl n (i + 1) _ true (by omega) (by simp;omega)]
    have:Zmy x nm l[i]=false:=by simpa using hs
    simp [this]
   ·rw [if_neg hs,if_pos (by simp;omega),Zqg hx hsc hl n (i + 1) _ true (by omega) (by simp;omega)]
    have:Zmy x nm l[i]=true:=by simpa using hs
    simp [this]
  ·rw [if_neg hc,if_neg hc,if_pos (by simp;omega),Zqg hx hsc hl n (i + 1) _ d (by omega) (by simp;omega)]
   simp
def layL (x:Zi) (nm:Bool) (l:Zd1):Zd1:=match l[pre (Zec x nm) l]? with
 | some e=>l.take (pre (Zec x nm) l) ++ (if Zmy x nm e then [] else [x]) ++ l.drop (pre (Zec x nm) l)
 | none=>l ++ [x]
theorem Z29 {l:Zd1} {x:Zi} {nm:Bool} (hx:x.Score < W64) (hsc:∀ e ∈ l,e.Score < W64) (hl:l.length < 1000000):Zf4 l x nm=some (layL x nm l):=by
 unfold Zf4
 have:=Zqg (nm:=nm) hx hsc hl l.length 0 [] false (by omega) (by simp)
 rw [show ((0:Nat):Int)=0 from rfl] at this
 rw [show (Int.toNat ((l.length:Int) - (0:Int)) + 1)=l.length + 1 by omega,this]
 simp only [Option.bind_some,List.nil_append,List.drop_zero]
 rw [Z80]
 unfold layL
 cases h:l[pre (Zec x nm) l]? with
 | none =>
  simp only [Bool.not_false,if_true,Zgq]
  rw [if_pos (by simp;omega)]
 | some e=>simp only [Bool.not_true,Bool.false_eq_true,if_false,Zgq]
theorem Zzv {l:Zd1} {s:ByteArray} (hl:l.length < 1000000):∀ (n i:Nat),i + n=l.length → Zfj l s (n + 1) (i:Int)=some (cond ((l.drop i).any (fun e=>sEq e.Name s)) (.inl true) (.inr ()))
 | 0,i,h=>by
  rw [Zfj,if_neg (by simp;omega),List.drop_of_length_le (by omega)];rfl
 | n + 1,i,h=>by
  have h1:i < l.length:=by omega
  rw [Zfj,if_pos (by simp;omega),Zcs h1,List.drop_eq_getElem_cons h1,List.any_cons]
  simp only [Option.bind_some]
  by_cases hq:sEq l[i].Name s=true
  ·rw [if_pos hq,hq];rfl
  ·have hq':sEq l[i].Name s=false:=by simpa using hq
   rw [if_neg hq,wr1 (by omega),Zzv hl n (i + 1) (by omega),hq',Bool.false_or]
theorem Z6l {l:Zd1} {s:ByteArray} (hl:l.length < 1000000):Zgn l s=some (l.any (fun e=>sEq e.Name s)):=by
 unfold Zgn
 have:=Zzv (s:=s) hl l.length 0 (by omega)
 rw [show ((0:Nat):Int)=0 from rfl] at this
 rw [show (Int.toNat ((l.length:Int) - (0:Int)) + 1)=l.length + 1 by omega,this]
 simp only [List.drop_zero]
 cases h:l.any (fun e=>sEq e.Name s) <;> rfl
theorem Zqe {a0:Zb} {a:Zm} (hl:a0.List.length < 1000000):∀ (n i:Nat) (out:Zd1),i + n=a0.List.length → out.length ≤ i → Zdl a0 a (n + 1) out (i:Int)=some (out ++ (a0.List.drop i).filter (fun e=>!sEq e.Name a.S))
 | 0,i,out,h,_=>by
  rw [Zdl,if_neg (by simp;omega),List.drop_of_length_le (by omega)];simp
 | n + 1,i,out,h,ho=>by
  have h1:i < a0.List.length:=by omega
  rw [Zdl,if_pos (by simp;omega),Zcs h1,List.drop_eq_getElem_cons h1]
  simp only [Option.bind_some,Zi1,wr1 (show i < 9223372036854775807 by omega)]
  rw [List.filter_cons]
  by_cases hq:(!sEq a0.List[i].Name a.S)=true
  ·rw [if_pos hq,if_pos hq,if_pos (by simp;omega),Zqe hl n (i + 1) _ (by omega) (by simp;omega),List.append_assoc];rfl
  ·rw [if_neg hq,if_neg hq,Zqe hl n (i + 1) _ (by omega) (by omega)]
theorem Zu2 {l:Zd1} {s:ByteArray} (hs:NS l):(∀ e ∈ l.take (pre (fun e=>sLt e.Name s) l),sEq e.Name s=false) ∧ (∀ e ∈ l.drop (pre (fun e=>sLt e.Name s) l + 1),sEq e.Name s=false):=by
 constructor
 ·intro e he
  obtain ⟨k,hk,rfl⟩:=List.getElem_of_mem he
  rw [List.length_take] at hk
  rw [List.getElem_take]
  have:=Zu9 (s:=s) hs (k:=k) (by omega)
  rw [show decide (k < pre (fun e=>sLt e.Name s) l)=true by simp;omega] at this
  exact Ze9.2 (Znl this)
 ·intro e he
  obtain ⟨k,hk,rfl⟩:=List.getElem_of_mem he
  rw [List.length_drop] at hk
  rw [List.getElem_drop]
  refine Ze9.2 fun h=>?_
  have hp:pre (fun e=>sLt e.Name s) l < l.length:=by omega
  have h1:=List.pairwise_iff_getElem.1 hs _ _ hp (show pre (fun e=>sLt e.Name s) l + 1 + k < l.length by omega) (by omega)
  rw [h] at h1
  have:=Zwu (List.getElem?_eq_getElem hp)
  rw [h1] at this;cases this
theorem Zvo (l:Zd1) (k:Nat) (h:k < l.length):l=l.take k ++ l[k] :: l.drop (k + 1):=by
 rw [← List.drop_eq_getElem_cons h,List.take_append_drop]
theorem Zvp {l:Zd1} {s:ByteArray} (hs:NS l):l.any (fun e=>sEq e.Name s)=isAt s l:=by
 obtain ⟨h1,h2⟩:=Zu2 (s:=s) hs
 unfold isAt
 by_cases hp:pre (fun e=>sLt e.Name s) l < l.length
 ·rw [List.getElem?_eq_getElem hp]
  conv=>lhs;rw [Zvo l _ hp]
  have a1:(l.take (pre (fun e=>sLt e.Name s) l)).any (fun e=>sEq e.Name s)=false:=by
   rw [List.any_eq_false];intro e he;rw [h1 e he];decide
  have a2:(l.drop (pre (fun e=>sLt e.Name s) l + 1)).any (fun e=>sEq e.Name s)=false:=by
   rw [List.any_eq_false];intro e he;rw [h2 e he];decide
  rw [List.any_append,List.any_cons,a1,a2];simp
 ·rw [List.getElem?_eq_none (by omega)]
  have:l.take (pre (fun e=>sLt e.Name s) l)=l:=List.take_of_length_le (by omega)
  rw [this] at h1
  rw [List.any_eq_false];intro e he;rw [h1 e he];decide
theorem Z5b {l:Zd1} {s:ByteArray} (hs:NS l):l.filter (fun e=>!sEq e.Name s)=if isAt s l=true then l.take (pre (fun e=>sLt e.Name s) l) ++ l.drop (pre (fun e=>sLt e.Name s) l + 1) else l:=by
 obtain ⟨h1,h2⟩:=Zu2 (s:=s) hs
 unfold isAt
 by_cases hp:pre (fun e=>sLt e.Name s) l < l.length
 ·rw [List.getElem?_eq_getElem hp]
  conv=>lhs;rw [Zvo l _ hp]
  have a1:(l.take (pre (fun e=>sLt e.Name s) l)).filter (fun e=>!sEq e.Name s)=l.take (pre (fun e=>sLt e.Name s) l):=List.filter_eq_self.2 fun e he=>by rw [h1 e he];rfl
  have a2:(l.drop (pre (fun e=>sLt e.Name s) l + 1)).filter (fun e=>!sEq e.Name s)=l.drop (pre (fun e=>sLt e.Name s) l + 1):=List.filter_eq_self.2 fun e he=>by rw [h2 e he];rfl
  rw [List.filter_append,List.filter_cons,a1,a2]
  by_cases hq:sEq (l[pre (fun e=>sLt e.Name s) l]).Name s=true
  ·rw [if_pos hq,if_neg (by rw [hq];decide)]
  ·rw [if_neg hq,if_pos (by simpa using hq)]
   exact (Zvo l _ hp).symm
 ·rw [List.getElem?_eq_none (by omega)]
  have:l.take (pre (fun e=>sLt e.Name s) l)=l:=List.take_of_length_le (by omega)
  rw [this] at h1
  rw [if_neg (by simp)]
  exact List.filter_eq_self.2 fun e he=>by rw [h1 e he];rfl
theorem Z5h {l:Zd1} {s:ByteArray}:layL { Score:=0,Name:=s } true l=if isAt s l=true then l else l.take (pre (fun e=>sLt e.Name s) l) ++ [{ Score:=0,Name:=s }] ++ l.drop (pre (fun e=>sLt e.Name s) l):=by
 have hf:Zec { Score:=0,Name:=s } true=fun e=>sLt e.Name s:=rfl
 unfold layL isAt
 rw [hf]
 cases h:l[pre (fun e=>sLt e.Name s) l]? with
 | none =>
  have hp:=List.getElem?_eq_none_iff.1 h
  rw [if_neg (by simp),List.take_of_length_le hp,List.drop_of_length_le hp,List.append_nil]
 | some e =>
  simp only [Zmy,Bool.true_or,Bool.and_true]
  by_cases hq:sEq e.Name s=true
  ·rw [if_pos hq,if_pos hq,List.append_nil,List.take_append_drop]
  ·rw [if_neg hq,if_neg hq]
theorem Zrg {l:Zd1} (h:l.length < 1000000):Zbw l=some l:=by
 unfold Zbw
 rw [if_pos (by omega)]
theorem Zwy {r:Zb} {a:Zm} (ha:a.X < W64) (hsc:∀ e ∈ r.List,e.Score < W64) (hl:r.List.length < 1000000):∀ (n i:Nat),i + n=r.List.length →
  Zgx r a (n + 1) (i:Int)=some ((i + pre (Zec { Score:=a.X,Name:=a.S } false) (r.List.drop i):Nat):Int)
 | 0,i,h=>by
  have hd:decide ((i:Int) < (r.List.length:Int))=false:=by simp;omega
  rw [Zgx,hd,List.drop_of_length_le (by omega)]
  simp [gd,pre]
 | n + 1,i,h=>by
  have h1:i < r.List.length:=by omega
  have hd:decide ((i:Int) < (r.List.length:Int))=true:=by simp;omega
  rw [Zgx,hd,Zcs h1,List.drop_eq_getElem_cons h1]
  simp only [gd_t,Option.bind_some,Bool.true_and]
  rw [Zqk (hsc _ (List.getElem_mem h1)) ha]
  simp only [Option.bind_some,pre,Zec,Bool.false_eq_true,if_false,wr1 (show i < 9223372036854775807 by omega)]
  by_cases hb:Zds r.List[i] { Score:=a.X,Name:=a.S }=true
  ·rw [if_pos hb,if_pos hb,Zwy ha hsc hl n (i + 1) (by omega)]
   congr 2;omega
  ·rw [if_neg hb,if_neg hb];simp
theorem Zyn {r:Zb} {a:Zm} (ha:a.X < W64) (hsc:∀ e ∈ r.List,e.Score < W64) (hl:r.List.length < 1000000):Zgx r a (Int.toNat ((r.List.length:Int) - (0:Int)) + 1) (0:Int)=some ((pre (Zec { Score:=a.X,Name:=a.S } false) r.List:Nat):Int):=by
 have:=Zwy (a:=a) ha hsc hl r.List.length 0 (by omega)
 rw [show ((0:Nat):Int)=0 from rfl] at this
 rw [show (Int.toNat ((r.List.length:Int) - (0:Int)) + 1)=r.List.length + 1 by omega,this]
 simp
theorem Z2f {e x:Zi} (h1:Zds e x=false):(!Zds x e)=Zmy x false e:=by
 unfold Zds Zmy at *
 by_cases hk:keyf e.Score=keyf x.Score
 ·rw [if_pos hk] at h1
  rw [if_pos hk.symm,hk]
  simp only [Bool.false_or,decide_true,Bool.and_true]
  by_cases hn:e.Name=x.Name
  ·rw [hn,Zir,Zc6];rfl
  ·rw [Zm9 h1 hn,Ze9.2 hn];rfl
 ·rw [if_neg hk] at h1
  rw [if_neg (fun h=>hk h.symm)]
  have:=of_decide_eq_false h1
  have h3:keyf e.Score < keyf x.Score:=by omega
  simp [h3,hk]
theorem Zuy {k:Int} {l:Zd1}:∀ (n i:Nat),Zj4 k l i n=0 ↔ ∀ j,i ≤ j → j < i + n → Zip k l j=0
 | 0,i=>⟨fun _ j h1 h2=>by omega,fun _=>rfl⟩
 | n + 1,i=>by
  by_cases h:Zip k l i=0
  ·rw [Zu6 h,Zuy n (i + 1)]
   constructor
   ·intro hh j h1 h2
    by_cases e:j=i
    ·rw [e];exact h
    ·exact hh j (by omega) (by omega)
   ·intro hh j h1 h2;exact hh j (by omega) (by omega)
  ·rw [Zvs h]
   exact ⟨fun e=>absurd e h,fun hh=>absurd (hh i (Nat.le_refl _) (by omega)) h⟩
theorem Zuv {t n b r l:Bool} {a:Zb}:Zq0 t n b r l a=0 ↔ Zig t n b r l a=true ∧ a.Text.size ≤ 64 ∧ (b=true → -2305843009213693952 ≤ a.Low ∧ a.High ≤ 2305843009213693952 ∧ a.Low ≤ a.Num ∧ a.Num ≤ a.High) ∧ a.Real=Zcg a.Real ∧ (l=true → 1 ≤ a.Cap ∧ a.Cap ≤ 32 ∧ (a.List.length:Int) ≤ a.Cap ∧ ∀ i,i < a.List.length → Zip a.Kind a.List i=0):=by
 unfold Zq0
 by_cases h1:Zig t n b r l a=false
 ·rw [if_pos h1,h1];simp
 ·have h1':Zig t n b r l a=true:=by simpa using h1
  rw [if_neg h1,h1']
  by_cases h2:(64:Int) < a.Text.size
  ·rw [if_pos h2];exact ⟨fun h=>absurd h (by decide),fun h=>by omega⟩
  ·rw [if_neg h2]
   by_cases h3:b=true ∧ (a.Low < -2305843009213693952 ∨ 2305843009213693952 < a.High ∨ a.Num < a.Low ∨ a.High < a.Num)
   ·rw [if_pos h3];exact ⟨fun h=>absurd h (by decide),fun h=>by have:=h.2.2.1 h3.1;omega⟩
   ·rw [if_neg h3]
    by_cases h4:a.Real=Zcg a.Real
    ·rw [if_neg (fun h=>h h4)]
     cases l
     ·rw [if_pos rfl]
      refine ⟨fun _=>⟨rfl,by omega,fun hb=>?_,h4,fun h=>absurd h (by decide)⟩,fun _=>rfl⟩
      have:¬ (a.Low < -2305843009213693952 ∨ 2305843009213693952 < a.High ∨ a.Num < a.Low ∨ a.High < a.Num):=fun h=>h3 ⟨hb,h⟩
      omega
     ·rw [if_neg (by decide)]
      by_cases h5:a.Cap < 1 ∨ 32 < a.Cap
      ·rw [if_pos h5];exact ⟨fun h=>absurd h (by decide),fun h=>by have:=h.2.2.2.2 rfl;omega⟩
      ·rw [if_neg h5]
       by_cases h6:a.Cap < a.List.length
       ·rw [if_pos h6];exact ⟨fun h=>absurd h (by decide),fun h=>by have:=h.2.2.2.2 rfl;omega⟩
       ·rw [if_neg h6,Zuy]
        constructor
        ·intro h
         refine ⟨rfl,by omega,fun hb=>?_,h4,fun _=>⟨by omega,by omega,by omega,fun i hi=>h i (Nat.zero_le _) (by omega)⟩⟩
         have:¬ (a.Low < -2305843009213693952 ∨ 2305843009213693952 < a.High ∨ a.Num < a.Low ∨ a.High < a.Num):=fun h=>h3 ⟨hb,h⟩
         omega
        ·intro h j _ hj
         exact (h.2.2.2.2 rfl).2.2.2 j (by omega)
    ·rw [if_pos h4];exact ⟨fun h=>absurd h (by decide),fun h=>absurd h.2.2.2.1 h4⟩
def Zcy (a:Zb):Prop:=1 ≤ a.Kind ∧ a.Kind ≤ 9 ∧ Zig (decide (a.Kind=1)) (decide (2 ≤ a.Kind ∧ a.Kind ≤ 4)) (decide (a.Kind=4)) (decide (5 ≤ a.Kind ∧ a.Kind ≤ 7)) (decide (8 ≤ a.Kind)) a=true ∧ a.Text.size ≤ 64 ∧ (a.Kind=4 → -2305843009213693952 ≤ a.Low ∧ a.High ≤ 2305843009213693952 ∧ a.Low ≤ a.Num ∧ a.Num ≤ a.High) ∧ a.Real=Zcg a.Real ∧
 (8 ≤ a.Kind → 1 ≤ a.Cap ∧ a.Cap ≤ 32 ∧ (a.List.length:Int) ≤ a.Cap ∧ ∀ i,i < a.List.length → Zip a.Kind a.List i=0)
theorem Zid {a:Zb} (ha:Zie a):Zex a=some 0 ↔ Zcy a:=by
 by_cases hk:a.Kind ≤ 0 ∨ 10 ≤ a.Kind
 ·have:Zex a ≠ some 0:=by
   obtain ⟨c,hc,hc2⟩:=Znn ha
   unfold Zc4 at hc2
   rw [if_pos (by simp;omega)] at hc2
   rw [hc,← hc2];decide
  exact ⟨fun h=>absurd h this,fun h=>by obtain ⟨h1,h2,_⟩:=h;omega⟩
 ·have fin:∀ {t n b r l:Bool},Ze5 a.Kind=some ⟨t,n,b,r,l⟩ → t=decide (a.Kind=1) → n=decide (2 ≤ a.Kind ∧ a.Kind ≤ 4) → b=decide (a.Kind=4) → r=decide (5 ≤ a.Kind ∧ a.Kind ≤ 7) → l=decide (8 ≤ a.Kind) → (Zex a=some 0 ↔ Zcy a):=by
   intro t n b r l hs h1 h2 h3 h4 h5
   rw [Zhc ha hk hs]
   constructor
   ·intro h
    obtain ⟨g1,g2,g3,g4,g5⟩:=Zuv.1 (Option.some.inj h)
    refine ⟨by omega,by omega,by rw [← h1,← h2,← h3,← h4,← h5];exact g1,g2,fun hk4=>g3 (by rw [h3];simpa using hk4),g4,fun hk8=>g5 (by rw [h5];simpa using hk8)⟩
   ·rintro ⟨_,_,g1,g2,g3,g4,g5⟩
    congr 1
    exact Zuv.2 ⟨by rw [h1,h2,h3,h4,h5];exact g1,g2,fun hb=>g3 (by rw [h3] at hb;simpa using hb),g4,fun hb=>g5 (by rw [h5] at hb;simpa using hb)⟩
  have hk':a.Kind=1 ∨ a.Kind=2 ∨ a.Kind=3 ∨ a.Kind=4 ∨ a.Kind=5 ∨ a.Kind=6 ∨ a.Kind=7 ∨ a.Kind=8 ∨ a.Kind=9:=by omega
  rcases hk' with h | h | h | h | h | h | h | h | h <;> rw [h] at fin
  ·exact fin Z43 rfl rfl rfl rfl rfl
  ·exact fin Z6i rfl rfl rfl rfl rfl
  ·exact fin Z5j rfl rfl rfl rfl rfl
  ·exact fin Z6s rfl rfl rfl rfl rfl
  ·exact fin Z51 rfl rfl rfl rfl rfl
  ·exact fin Z52 rfl rfl rfl rfl rfl
  ·exact fin Z5x rfl rfl rfl rfl rfl
  ·exact fin Z5w rfl rfl rfl rfl rfl
  ·exact fin Z6u rfl rfl rfl rfl rfl
theorem Znv {a:Zb} (h:Zcy a) (hk:a.Kind=8):NS a.List:=by
 obtain ⟨_,_,_,_,_,_,h8⟩:=h
 obtain ⟨_,_,_,hi⟩:=h8 (by omega)
 have step:∀ i,i + 1 < a.List.length → sLt ((a.List[i]?).getD default).Name ((a.List[i + 1]?).getD default).Name=true:=by
  intro i hi1
  have:=hi (i + 1) hi1
  unfold Zip at this
  rw [List.getElem?_eq_getElem hi1] at this
  simp only [Nat.add_sub_cancel] at this
  split at this
  ·cases this
  ·split at this
   ·cases this
   ·split at this
    ·cases this
    ·rename_i h3
     rw [List.getElem?_eq_getElem hi1]
     cases hq:sLt ((a.List[i]?).getD default).Name a.List[i + 1].Name
     ·exact absurd ⟨by omega,hk,hq⟩ h3
     ·exact hq
 have far:∀ d i,i + d + 1 < a.List.length → sLt ((a.List[i]?).getD default).Name ((a.List[i + d + 1]?).getD default).Name=true:=by
  intro d
  induction d with
  | zero=>intro i h;exact step i h
  | succ d ih=>intro i h;exact Zgp (ih i (by omega)) (step (i + d + 1) (by omega))
 refine List.pairwise_iff_getElem.2 fun i j hi hj hij=>?_
 have:=far (j - i - 1) i (by omega)
 rw [show i + (j - i - 1) + 1=j by omega,List.getElem?_eq_getElem hi,List.getElem?_eq_getElem hj] at this
 exact this
theorem Zw2 {neg:Bool} {r:Nat} (h:r ≤ Ieee.double.infRung):Ieee.double.word neg r < W64:=by
 have h1:Ieee.double.infRung=9218868437227405312:=by decide
 have h2:Ieee.double.signWeight=9223372036854775808:=by decide
 unfold Ieee.Format.word
 rw [h1] at h
 show _ < 18446744073709551616
 split
 ·rw [h2];omega
 ·omega
theorem Z4n (neg:Bool) (mag:Nat) (place:Int):Ieee.double.nearest neg mag place < W64:=by
 unfold Ieee.Format.nearest
 split
 ·exact Zw2 (Nat.zero_le _)
 ·exact Zw2 (Nat.min_le_right _ _)
theorem Z0m {d:Ieee.Datum} (h:∀ n f,d ≠ .nan n f):Ieee.double.write d < W64:=by
 cases d with
 | number n m p=>exact Z4n n m p
 | infinity n=>exact Zw2 (Nat.le_refl _)
 | nan n f=>exact absurd rfl (h n f)
theorem Z9f {x y d:Ieee.Datum} (h:x.sum y=some d):∀ n f,d ≠ .nan n f:=by
 intro n f e
 subst e
 cases x <;> cases y <;> simp [Ieee.Datum.sum] at h
theorem Z16 {x y d:Ieee.Datum} (h:x.product y=some d):∀ n f,d ≠ .nan n f:=by
 intro n f e
 subst e
 cases x <;> cases y <;> simp [Ieee.Datum.product] at h
theorem Z3e (m n:Nat):fadd m n < W64:=by
 unfold fadd Ieee.Format.add
 cases h:(Ieee.double.read m).sum (Ieee.double.read n) with
 | none=>exact (by decide:9221120237041090561 < W64)
 | some d=>simpa using Z0m (Z9f h)
theorem Z21 (m n:Nat):fmul m n < W64:=by
 unfold fmul Ieee.Format.mul
 cases h:(Ieee.double.read m).product (Ieee.double.read n) with
 | none=>exact (by decide:9221120237041090561 < W64)
 | some d=>simpa using Z0m (Z16 h)
theorem Zsr {z:Nat} (hz:z < W64):∃ p,Zfv z=some p ∧ Zfi p=some (Zcg z):=by
 have hz':z < 18446744073709551616:=hz
 unfold Zfv Zfi Zcg NANB
 rw [Zro hz]
 simp only [Option.bind_some]
 by_cases hn:isn z
 ·refine ⟨18444492273895866369,by simp [hn];decide,?_⟩
  rw [if_pos (by decide),if_pos hn];decide
 ·simp only [hn,decide_false,Bool.false_eq_true,if_false]
  by_cases ht:(9223372036854775808:Int) ≤ z
  ·rw [if_pos (by simpa using ht)]
   refine ⟨_,rfl,?_⟩
   rw [wru (x:=(9223372036854775808:Int) - 1) (by decide) (by decide),wru (x:=(z:Int) - 9223372036854775808) (by omega) (by omega),wru (by omega) (by omega)]
   rw [if_neg (by simp;omega)]
   rw [wru (x:=(9223372036854775808:Int) - 1 - _) (by omega) (by omega),wru (by omega) (by omega)]
   congr 1;omega
  ·rw [if_neg (by simpa using ht)]
   refine ⟨_,rfl,?_⟩
   rw [wru (by omega) (by omega),if_pos (by simp;omega),wru (by omega) (by omega)]
   congr 1;omega
theorem Zuq {z:Nat}:Zcg (Zcg z)=Zcg z:=by
 unfold Zcg
 by_cases h:isn z
 ·rw [if_pos h,if_pos (show isn NANB by unfold isn rg INF NANB TOP;decide)]
 ·rw [if_neg h,if_neg h]
theorem Z1u {a b:Nat} (ha:a < W64) (hb:b < W64) (ca:a=Zcg a) (cb:b=Zcg b):∃ m,Zmk a b=some m ∧ Zj3 a b=some m ∧ (m=a ∨ m=b):=by
 unfold Zmk Zj3
 rw [Zw6 ha hb,Zp8 ha hb,Zkg ha,Zkg hb,← ca,← cb]
 by_cases h:keyf a < keyf b
 ·exact ⟨b,by simp [h],by simp [h],.inr rfl⟩
 ·exact ⟨a,by simp [h],by simp [h],.inl rfl⟩
theorem Z06 {a b:Nat} (ha:a < W64) (hb:b < W64) (ca:a=Zcg a) (cb:b=Zcg b):∃ m,Zmo a b=some m ∧ Zkd a b=some m ∧ (m=a ∨ m=b):=by
 unfold Zmo Zkd
 rw [Zw6 hb ha,Zp8 hb ha,Zkg ha,Zkg hb,← ca,← cb]
 by_cases h:keyf b < keyf a
 ·exact ⟨b,by simp [h],by simp [h],.inr rfl⟩
 ·exact ⟨a,by simp [h],by simp [h],.inl rfl⟩
def I64 (x:Int):Prop:=-9223372036854775808 ≤ x ∧ x ≤ 9223372036854775807
structure RecW (r:Zb):Prop where
 ok:Zie r
 num:I64 r.Num
 low:I64 r.Low
 high:I64 r.High
 kind:I64 r.Kind
 len:r.List.length ≤ 1000
structure ActW (a:Zm):Prop where
 ok:Zwr a
 n:I64 a.N
 mkr:RecW a.Make
 xc:a.X=Zcg a.X
 inout:(a.Kind=10 ∨ a.Kind=11) → 0 ≤ a.N ∧ a.N ≤ 2305843009213693952
 s64:a.S.size ≤ 64
 s16:¬ (5 ≤ a.Kind ∧ a.Kind ≤ 6) → a.S.size ≤ 16
abbrev ans (c:Int):Zc:={ Code:=c,Num:=0,Rec:=default }
def Chg (r:Zb) (a:Zm):Prop:=∃ c r' o,Zbl a.Kind r a (default:Zc)=some (c,r',o) ∧ Zbx r a=some (if c=0 then (r',o) else (r,ans c)) ∧ RecW r' ∧ RecW o.Rec ∧ (c=0 → o.Code=0 ∧ o.Num=0)
theorem Zrx (x:Int):I64 (IntKind.i64.wrap x):=by unfold I64;rw [IntKind.wrap_i64];omega
theorem Zcm:RecW (default:Zb):=⟨⟨by decide,by decide,fun e he=>by cases he⟩,by unfold I64;decide,by unfold I64;decide,by unfold I64;decide,by unfold I64;decide,by decide⟩
theorem RecW.withNum {r:Zb} (h:RecW r) {x:Int} (hx:I64 x):RecW { r with Num:=x }:=⟨⟨h.ok.real,h.ok.len,h.ok.sc⟩,hx,h.low,h.high,h.kind,h.len⟩
theorem RecW.withText {r:Zb} (h:RecW r) (t:ByteArray):RecW { r with Text:=t }:=⟨⟨h.ok.real,h.ok.len,h.ok.sc⟩,h.num,h.low,h.high,h.kind,h.len⟩
theorem RecW.withReal {r:Zb} (h:RecW r) {x:Nat} (hx:x < W64):RecW { r with Real:=x }:=⟨⟨hx,h.ok.len,h.ok.sc⟩,h.num,h.low,h.high,h.kind,h.len⟩
theorem RecW.withList {r:Zb} (h:RecW r) {l:Zd1} (h1:l.length ≤ 1000) (h2:∀ e ∈ l,e.Score < W64):RecW { r with List:=l }:=⟨⟨h.ok.real,by show l.length < _;omega,h2⟩,h.num,h.low,h.high,h.kind,h1⟩
theorem Zkz {r:Zb} (h:r.List.length ≤ 1000):Zey r=some r:=by
 unfold Zey Zbw
 rw [if_pos (by omega)];rfl
theorem Zqm {r:Zb} (h:r.List.length ≤ 1000):Zfm r=some r:=by
 unfold Zfm
 rw [if_pos (by simp;omega)];rfl
variable {r:Zb} {a:Zm}
theorem Z83 (h:a.Kind=5) (hr:RecW r):Chg r a:=by
 refine ⟨0,{ r with Text:=a.S },ans 0,?_,?_,hr.withText _,Zcm,fun _=>⟨rfl,rfl⟩⟩
 ·rw [h];rfl
 ·unfold Zbx;rw [h];rfl
theorem Z7p (h:a.Kind=6) (hr:RecW r):Chg r a:=by
 refine ⟨0,{ r with Text:=a.S },{ ans 0 with Rec:=r },?_,?_,hr.withText _,hr,fun _=>⟨rfl,rfl⟩⟩
 ·rw [h]
  show Zh0 r a default=_
  unfold Zh0
  rw [Zkz hr.len];rfl
 ·unfold Zbx;rw [h,Zqm hr.len];rfl
theorem Z92 (h:a.Kind=7) (hr:RecW r):Chg r a:=by
 refine ⟨0,{ r with Num:=IntKind.i64.wrap (r.Num + a.N) },ans 0,?_,?_,hr.withNum (Zrx _),Zcm,fun _=>⟨rfl,rfl⟩⟩
 ·rw [h];rfl
 ·unfold Zbx;rw [h];rfl
theorem Z5p (hr:I64 r.Num) (hn:I64 a.N):(((decide ((0:Int) < a.N)) && (decide ((IntKind.i64.wrap ((9223372036854775807:Int) - a.N)) < r.Num))) || ((decide (a.N < (0:Int))) && (decide (r.Num < (IntKind.i64.wrap ((-9223372036854775808:Int) - a.N)))))) =
  ((((decide ((0:Int) < r.Num)) && (decide ((0:Int) < a.N))) && (decide ((IntKind.i64.wrap (r.Num + a.N)) < (0:Int)))) || (((decide (r.Num < (0:Int))) && (decide (a.N < (0:Int)))) && (decide ((0:Int) ≤ (IntKind.i64.wrap (r.Num + a.N)))))):=by
 unfold I64 at hr hn
 rw [Bool.eq_iff_iff]
 simp only [Bool.or_eq_true,Bool.and_eq_true,decide_eq_true_eq,IntKind.wrap_i64]
 omega
theorem Z65 (h:a.Kind=8) (hr:RecW r) (ha:ActW a):Chg r a:=by
 have e1:Zbl a.Kind r a default=Zly r a default:=by rw [h];rfl
 have e2:Zbx r a=(Zjp r.Num a.N).bind fun r7=>(if r7 then (Z6 r (ans 9)) else (Z6 { r with Num:=IntKind.i64.wrap (r.Num + a.N) } (ans 0))):=by unfold Zbx;rw [h];rfl
 have hp:=Z5p hr.num ha.n
 unfold Chg
 rw [e1,e2]
 unfold Zly Zjp Z6
 rw [hp]
 simp only [Option.bind_some]
 split
 ·exact ⟨9,r,_,rfl,rfl,hr,Zcm,fun h=>by cases h⟩
 ·exact ⟨0,_,_,rfl,rfl,hr.withNum (Zrx _),Zcm,fun _=>⟨rfl,rfl⟩⟩
theorem Zyl (h:a.Kind=9 ∨ a.Kind=12) (hr:RecW r):Chg r a:=by
 have e1:Zbl a.Kind r a default=Zem r a default:=by rcases h with h | h <;> rw [h] <;> rfl
 have e2:Zbx r a=(if (decide (r.Num < a.N)) then (Z6 r (ans 11)) else (Z6 r (ans 0))):=by rcases h with h | h <;> unfold Zbx Zck <;> rw [h] <;> rfl
 unfold Chg
 rw [e1,e2]
 unfold Zem Z6
 split
 ·exact ⟨11,r,_,rfl,rfl,hr,Zcm,fun h=>by cases h⟩
 ·exact ⟨0,r,_,rfl,rfl,hr,Zcm,fun _=>⟨rfl,rfl⟩⟩
theorem Zzr (hg:Zcy r) (hk:r.Kind=4):-2305843009213693952 ≤ r.Low ∧ r.High ≤ 2305843009213693952 ∧ r.Low ≤ r.Num ∧ r.Num ≤ r.High:=hg.2.2.2.2.1 hk
theorem Zbb0 (h:a.Kind=10) (hr:RecW r) (hg:Zcy r) (hk:r.Kind=4) (ha:ActW a):Chg r a:=by
 have e1:Zbl a.Kind r a default=Zh1 r a default:=by rw [h];rfl
 have e2:Zbx r a=(if (decide (r.High < IntKind.i64.wrap (r.Num + a.N))) then (Z6 r (ans 9)) else (Z6 { r with Num:=IntKind.i64.wrap (r.Num + a.N) } (ans 0))):=by unfold Zbx Zck;rw [h];rfl
 obtain ⟨p1,p2,p3,p4⟩:=Zzr hg hk
 obtain ⟨n1,n2⟩:=ha.inout (.inl h)
 have hd:decide (IntKind.i64.wrap (r.High - r.Num) < a.N)=decide (r.High < IntKind.i64.wrap (r.Num + a.N)):=by
  rw [wr (x:=r.High - r.Num) (by omega) (by omega),wr (x:=r.Num + a.N) (by omega) (by omega)]
  apply decide_eq_decide.2;omega
 unfold Chg
 rw [e1,e2]
 unfold Zh1 Z6
 rw [hd]
 split
 ·exact ⟨9,r,_,rfl,rfl,hr,Zcm,fun h=>by cases h⟩
 ·exact ⟨0,_,_,rfl,rfl,hr.withNum (Zrx _),Zcm,fun _=>⟨rfl,rfl⟩⟩
theorem Zbam (h:a.Kind=11) (hr:RecW r) (hg:Zcy r) (hk:r.Kind=4) (ha:ActW a):Chg r a:=by
 have e1:Zbl a.Kind r a default=Zh7 r a default:=by rw [h];rfl
 have e2:Zbx r a=(if (decide (IntKind.i64.wrap (r.Num - a.N) < r.Low)) then (Z6 r (ans 10)) else (Z6 { r with Num:=IntKind.i64.wrap (r.Num - a.N) } (ans 0))):=by unfold Zbx Zck;rw [h];rfl
 obtain ⟨p1,p2,p3,p4⟩:=Zzr hg hk
 obtain ⟨n1,n2⟩:=ha.inout (.inr h)
 have hd:decide (IntKind.i64.wrap (r.Num - r.Low) < a.N)=decide (IntKind.i64.wrap (r.Num - a.N) < r.Low):=by
  rw [wr (x:=r.Num - r.Low) (by omega) (by omega),wr (x:=r.Num - a.N) (by omega) (by omega)]
  apply decide_eq_decide.2;omega
 unfold Chg
 rw [e1,e2]
 unfold Zh7 Z6
 rw [hd]
 split
 ·exact ⟨10,r,_,rfl,rfl,hr,Zcm,fun h=>by cases h⟩
 ·exact ⟨0,_,_,rfl,rfl,hr.withNum (Zrx _),Zcm,fun _=>⟨rfl,rfl⟩⟩
theorem Zp0 {m:Nat} {ψ:Nat → Nat → Option Nat} (h:Zbl a.Kind r a default=Zfe ψ r a default) (h1:ψ r.Real a.X=some m) (hm:m < W64) (h2:Zbx r a=some ({ r with Real:=m },ans 0)) (hr:RecW r):Chg r a:=by
 refine ⟨0,{ r with Real:=m },ans 0,?_,h2,hr.withReal hm,Zcm,fun _=>⟨rfl,rfl⟩⟩
 rw [h]
 unfold Zfe
 rw [h1];rfl
theorem Zo3 (hg:Zcy r):r.Real=Zcg r.Real:=hg.2.2.2.2.2.1
theorem Z49 (h:a.Kind=13) (hr:RecW r) (hg:Zcy r) (ha:ActW a):Chg r a:=by
 obtain ⟨m,m1,m2,m3⟩:=Z1u hr.ok.real ha.ok.2 (Zo3 hg) ha.xc
 refine Zp0 (m:=m) (ψ:=fun x y=>Zmk x y) (by rw [h];rfl) m1 (by rcases m3 with rfl | rfl;exact hr.ok.real;exact ha.ok.2) ?_ hr
 unfold Zbx Zck;rw [h,m2];rfl
theorem Z5d (h:a.Kind=14) (hr:RecW r) (hg:Zcy r) (ha:ActW a):Chg r a:=by
 obtain ⟨m,m1,m2,m3⟩:=Z06 hr.ok.real ha.ok.2 (Zo3 hg) ha.xc
 refine Zp0 (m:=m) (ψ:=fun x y=>Zmo x y) (by rw [h];rfl) m1 (by rcases m3 with rfl | rfl;exact hr.ok.real;exact ha.ok.2) ?_ hr
 unfold Zbx Zck;rw [h,m2];rfl
theorem Z5o (h:a.Kind=15) (hr:RecW r):Chg r a:=by
 have hz:=Z3e r.Real a.X
 obtain ⟨p,p1,p2⟩:=Zsr hz
 refine Zp0 (m:=Zcg (fadd r.Real a.X)) (ψ:=fun x y=>Zjm x y) (by rw [h];rfl) (by show Zjm r.Real a.X=_;unfold Zjm;rw [Zkg hz];rfl) (Zvd hz) ?_ hr
 unfold Zbx Zck;rw [h,p1]
 show ((Zfi p).bind _)=_
 rw [p2];rfl
theorem Z5c (h:a.Kind=16) (hr:RecW r):Chg r a:=by
 have hz:=Z21 r.Real a.X
 obtain ⟨p,p1,p2⟩:=Zsr hz
 refine Zp0 (m:=Zcg (fmul r.Real a.X)) (ψ:=fun x y=>Zii x y) (by rw [h];rfl) (by show Zii r.Real a.X=_;unfold Zii;rw [Zkg hz];rfl) (Zvd hz) ?_ hr
 unfold Zbx Zck;rw [h,p1]
 show ((Zfi p).bind _)=_
 rw [p2];rfl
theorem Z9t (h:a.Kind=17) (hr:RecW r) (ha:ActW a):Chg r a:=by
 refine Zp0 (m:=a.X) (ψ:=fun x y=>Zh5 x y) (by rw [h];rfl) rfl ha.ok.2 ?_ hr
 unfold Zbx Zck;rw [h];rfl
theorem Zx4 (hg:Zcy r) (hk:8 ≤ r.Kind):1 ≤ r.Cap ∧ r.Cap ≤ 32 ∧ (r.List.length:Int) ≤ r.Cap:=by
 obtain ⟨h1,h2,h3,_⟩:=hg.2.2.2.2.2.2 hk
 exact ⟨h1,h2,h3⟩
theorem Z9g (h:a.Kind=20) (hr:RecW r) (hg:Zcy r) (hk:r.Kind=8):Chg r a:=by
 have hs:=Znv hg hk
 have hl:=hr.len
 have e1:Zbl a.Kind r a default=Zgg r a default:=by rw [h];rfl
 have e2:Zbx r a=(Zgn r.List a.S).bind fun r59=>(if (!r59) then (Z6 r (ans 11)) else (Z6 r (ans 0))):=by unfold Zbx Zck;rw [h];rfl
 unfold Chg
 rw [e1,e2]
 unfold Zgg Z6
 rw [Zpn hs (by omega),Z6l (by omega),Zvp hs]
 simp only [Option.bind_some]
 split
 ·exact ⟨11,r,_,rfl,rfl,hr,Zcm,fun h=>by cases h⟩
 ·exact ⟨0,r,_,rfl,rfl,hr,Zcm,fun _=>⟨rfl,rfl⟩⟩
theorem Z7d (h:a.Kind=18) (hr:RecW r) (hg:Zcy r) (hk:r.Kind=8):Chg r a:=by
 have hs:=Znv hg hk
 have hl:=hr.len
 obtain ⟨c1,c2,c3⟩:=Zx4 hg (by omega)
 have e1:Zbl a.Kind r a default=Zl7 r a default:=by rw [h];rfl
 have e2:Zbx r a=(Zgn r.List a.S).bind fun r40=>(if ((!r40) && (decide (r.Cap ≤ (r.List.length:Int)))) then (Z6 r (ans 8)) else ((Zf4 r.List ({ Score:=(0:Nat),Name:=a.S }:Zi) true).bind fun r43=>(Z6 ({ r with List:=r43 }) (ans 0)))):=by unfold Zbx Zck;rw [h];rfl
 have hple:=Zqb (fun e=>sLt e.Name a.S) r.List
 unfold Chg
 rw [e1,e2]
 unfold Zl7 Z6
 rw [Zpn hs (by omega),Z6l (by omega),Zvp hs,Z29 (show (0:Nat) < W64 by decide) hr.ok.sc (by omega),Z5h,Zrg (by omega)]
 simp only [Option.bind_some]
 by_cases hat:isAt a.S r.List=true
 ·rw [hat]
  exact ⟨0,r,_,rfl,rfl,hr,Zcm,fun _=>⟨rfl,rfl⟩⟩
 ·have hat':isAt a.S r.List=false:=by simpa using hat
  rw [hat']
  simp only [Bool.not_false,Bool.true_and,Bool.false_eq_true,if_false]
  by_cases hc:decide (r.Cap ≤ (r.List.length:Int))=true
  ·rw [if_pos hc,if_pos hc]
   exact ⟨8,r,_,rfl,rfl,hr,Zcm,fun h=>by cases h⟩
  ·rw [if_neg hc,if_neg hc]
   unfold Zcj
   rw [if_pos ⟨by omega,by omega,by simp,by simp;omega⟩]
   refine ⟨0,_,_,rfl,rfl,hr.withList (by simp;omega) fun e he=>?_,Zcm,fun _=>⟨rfl,rfl⟩⟩
   simp only [List.mem_append,List.mem_singleton,Int.toNat_natCast] at he
   rcases he with (he | rfl) | he
   ·exact hr.ok.sc e (List.mem_of_mem_take he)
   ·exact (show (0:Nat) < W64 by decide)
   ·exact hr.ok.sc e (List.mem_of_mem_drop he)
theorem Zx0 (h:a.Kind=19) (hr:RecW r) (hg:Zcy r) (hk:r.Kind=8):Chg r a:=by
 have hs:=Znv hg hk
 have hl:=hr.len
 have e1:Zbl a.Kind r a default=Zkp r a default:=by rw [h];rfl
 have e2:Zbx r a=(Zdl r a (Int.toNat ((r.List.length:Int) - (0:Int)) + 1) ([]:List Zi) (0:Int)).bind fun z57=>match z57 with | y56=>(Z6 ({ r with List:=y56 }) (ans 0)):=by unfold Zbx Zck;rw [h];rfl
 have hple:=Zqb (fun e=>sLt e.Name a.S) r.List
 unfold Chg
 rw [e1,e2]
 unfold Zkp Z6
 have hf:=Zqe (a:=a) (a0:=r) (by omega) r.List.length 0 [] (by omega) (by simp)
 rw [show ((0:Nat):Int)=0 from rfl] at hf
 rw [Zpn hs (by omega),show (Int.toNat ((r.List.length:Int) - (0:Int)) + 1)=r.List.length + 1 by omega,hf,List.drop_zero,List.nil_append,Z5b hs,Zrg (by omega)]
 simp only [Option.bind_some]
 by_cases hat:isAt a.S r.List=true
 ·have hp:pre (fun e=>sLt e.Name a.S) r.List < r.List.length:=by
   unfold isAt at hat
   cases hq:r.List[pre (fun e=>sLt e.Name a.S) r.List]? with
   | none=>rw [hq] at hat;cases hat
   | some e=>exact (List.getElem?_eq_some_iff.1 hq).1
  rw [hat]
  simp only [if_true]
  unfold Zfr
  rw [wr1 (by omega),if_pos ⟨by omega,by omega,by omega,by omega,by omega⟩]
  refine ⟨0,_,_,rfl,rfl,hr.withList (by simp;omega) fun e he=>?_,Zcm,fun _=>⟨rfl,rfl⟩⟩
  simp only [List.mem_append,Int.toNat_natCast] at he
  rcases he with he | he
  ·exact hr.ok.sc e (List.mem_of_mem_take he)
  ·exact hr.ok.sc e (List.mem_of_mem_drop he)
 ·have hat':isAt a.S r.List=false:=by simpa using hat
  rw [hat']
  exact ⟨0,r,_,rfl,rfl,hr,Zcm,fun _=>⟨rfl,rfl⟩⟩
variable {r:Zb} {a:Zm}
theorem Z04 {l:Zd1} {c:Int} (h1:1 ≤ c) (h2:c ≤ 32):cut l 0 (min (l.length:Int) c)=some (l.take c.toNat):=by
 unfold cut
 rw [if_pos (by omega)]
 simp only [Int.toNat_zero,List.drop_zero,Nat.sub_zero]
 congr 1
 rcases Int.le_total (l.length:Int) c with h | h
 ·rw [Int.min_eq_left h,Int.toNat_natCast,List.take_of_length_le (Nat.le_refl _),List.take_of_length_le (by omega)]
 ·rw [Int.min_eq_right h]
theorem Z6j (h:a.Kind=21) (hr:RecW r) (hg:Zcy r) (hk:r.Kind=9) (ha:ActW a):Chg r a:=by
 have hl:=hr.len
 obtain ⟨c1,c2,c3⟩:=Zx4 hg (by omega)
 have e1:Zbl a.Kind r a default=Zk9 r a default:=by rw [h];rfl
 have e2:Zbx r a=(Zf4 r.List ({ Score:=a.X,Name:=a.S }:Zi) false).bind fun r63=>(if (decide (r.Cap < (r63.length:Int))) then ((cut r63 (0:Int) r.Cap).bind fun c66=>(Ze6 r c66)) else (Ze6 r r63)):=by unfold Zbx Zck;rw [h];rfl
 have hx:({ Score:=a.X,Name:=a.S }:Zi).Score < W64:=ha.ok.2
 have hple:=Zqb (Zec { Score:=a.X,Name:=a.S } false) r.List
 unfold Chg
 rw [e1,e2]
 unfold Zk9
 rw [Zyn ha.ok.2 hr.ok.sc (by omega),Z29 hx hr.ok.sc (by omega),Zrg (by omega)]
 simp only [Option.bind_some]
 have fin:∀ L:Zd1,L=r.List.take (pre (Zec { Score:=a.X,Name:=a.S } false) r.List) ++ [{ Score:=a.X,Name:=a.S }] ++ r.List.drop (pre (Zec { Score:=a.X,Name:=a.S } false) r.List) → layL { Score:=a.X,Name:=a.S } false r.List=L →
   ∃ c r' o,((Zcj r.List ((pre (Zec { Score:=a.X,Name:=a.S } false) r.List:Nat):Int) ([({ Score:=a.X,Name:=a.S }:Zi)]:List Zi)).bind fun r16=>((cut r16 (0:Int) (min (r16.length:Int) r.Cap)).bind fun c18=>(some ((0:Int),({ r with List:=c18 }),(default:Zc)))))=some (c,r',o) ∧
    (if (decide (r.Cap < ((layL { Score:=a.X,Name:=a.S } false r.List).length:Int)))=true then ((cut (layL { Score:=a.X,Name:=a.S } false r.List) (0:Int) r.Cap).bind fun c66=>(Ze6 r c66)) else (Ze6 r (layL { Score:=a.X,Name:=a.S } false r.List)))=some (if c=0 then (r',o) else (r,ans c)) ∧ RecW r' ∧ RecW o.Rec ∧ (c=0 → o.Code=0 ∧ o.Num=0):=by
  intro L hL hlay
  have hLl:L.length=r.List.length + 1:=by rw [hL];simp;omega
  have hLs:∀ e ∈ L,e.Score < W64:=fun e he=>by
   rw [hL] at he
   simp only [List.mem_append,List.mem_singleton] at he
   rcases he with (he | rfl) | he
   ·exact hr.ok.sc e (List.mem_of_mem_take he)
   ·exact hx
   ·exact hr.ok.sc e (List.mem_of_mem_drop he)
  rw [hlay]
  unfold Zcj Ze6 Z6
  rw [if_pos ⟨by omega,by omega,by simp,by simp;omega⟩]
  simp only [Option.bind_some,Int.toNat_natCast]
  rw [← hL,Z04 c1 c2]
  refine ⟨0,{ r with List:=L.take r.Cap.toNat },ans 0,rfl,?_,hr.withList (by simp;omega) (fun e he=>hLs e (List.mem_of_mem_take he)),Zcm,fun _=>⟨rfl,rfl⟩⟩
  by_cases hc:decide (r.Cap < (L.length:Int))=true
  ·rw [if_pos hc]
   have:r.Cap < (L.length:Int):=of_decide_eq_true hc
   unfold cut
   rw [if_pos (by omega)]
   simp
  ·rw [if_neg hc]
   have:¬ r.Cap < (L.length:Int):=fun h=>hc (decide_eq_true h)
   rw [List.take_of_length_le (by omega)];rfl
 by_cases hp:pre (Zec { Score:=a.X,Name:=a.S } false) r.List < r.List.length
 ·have hd:decide (((pre (Zec { Score:=a.X,Name:=a.S } false) r.List:Nat):Int) < (r.List.length:Int))=true:=by simpa using hp
  have hat:=Zwu (List.getElem?_eq_getElem hp)
  have hb:Zds r.List[pre (Zec { Score:=a.X,Name:=a.S } false) r.List] { Score:=a.X,Name:=a.S }=false:=hat
  have hbs:=Z2f hb
  rw [hd,Zcs hp]
  simp only [gd_t,Option.bind_some,Bool.true_and]
  rw [Zqk hx (hr.ok.sc _ (List.getElem_mem hp))]
  simp only [Option.bind_some]
  by_cases hs:(!Zds { Score:=a.X,Name:=a.S } r.List[pre (Zec { Score:=a.X,Name:=a.S } false) r.List])=true
  ·rw [if_pos hs]
   have hlay:layL { Score:=a.X,Name:=a.S } false r.List=r.List:=by
    unfold layL
    rw [List.getElem?_eq_getElem hp]
    simp only
    rw [if_pos (by rw [← hbs];exact hs),List.append_nil,List.take_append_drop]
   rw [hlay,if_neg (by simp;omega)]
   exact ⟨0,r,_,rfl,rfl,hr,Zcm,fun _=>⟨rfl,rfl⟩⟩
  ·rw [if_neg hs]
   refine fin _ rfl ?_
   unfold layL
   rw [List.getElem?_eq_getElem hp]
   simp only
   rw [if_neg (by rw [← hbs];exact hs)]
 ·have hd:decide (((pre (Zec { Score:=a.X,Name:=a.S } false) r.List:Nat):Int) < (r.List.length:Int))=false:=by simpa using hp
  rw [hd]
  simp only [gd_f,Option.bind_some,Bool.false_and,Bool.false_eq_true,if_false]
  refine fin _ rfl ?_
  unfold layL
  rw [List.getElem?_eq_none (by omega),List.take_of_length_le (by omega),List.drop_of_length_le (by omega),List.append_nil]
theorem Zt0 {k:Int} (h1:1 ≤ k) (h2:k ≤ 21):∃ on,Zmw k=some on ∧ Zfa k=some on ∧ (k ≤ 4 → on=0) ∧ (5 ≤ k → on ≠ 0) ∧ ((k=10 ∨ k=11) → on=4) ∧ ((k=18 ∨ k=19 ∨ k=20) → on=8) ∧ (k=21 → on=9) ∧
  ((k=5 ∨ k=6) → on=1) ∧ (k=7 → on=2) ∧ ((k=8 ∨ k=9) → on=3) ∧ (k=12 → on=4) ∧ (k=13 → on=5) ∧ (k=14 → on=6) ∧ ((k=15 ∨ k=16 ∨ k=17) → on=7):=by
 have hk':k=1 ∨ k=2 ∨ k=3 ∨ k=4 ∨ k=5 ∨ k=6 ∨ k=7 ∨ k=8 ∨ k=9 ∨ k=10 ∨ k=11 ∨ k=12 ∨ k=13 ∨ k=14 ∨ k=15 ∨ k=16 ∨ k=17 ∨ k=18 ∨ k=19 ∨ k=20 ∨ k=21:=by omega
 rcases hk' with rfl | rfl | rfl | rfl | rfl | rfl | rfl | rfl | rfl | rfl | rfl | rfl | rfl | rfl | rfl | rfl | rfl | rfl | rfl | rfl | rfl
 all_goals first
  | exact ⟨0,by kernel_rfl,by kernel_rfl,by decide⟩
  | exact ⟨1,by kernel_rfl,by kernel_rfl,by decide⟩
  | exact ⟨2,by kernel_rfl,by kernel_rfl,by decide⟩
  | exact ⟨3,by kernel_rfl,by kernel_rfl,by decide⟩
  | exact ⟨4,by kernel_rfl,by kernel_rfl,by decide⟩
  | exact ⟨5,by kernel_rfl,by kernel_rfl,by decide⟩
  | exact ⟨6,by kernel_rfl,by kernel_rfl,by decide⟩
  | exact ⟨7,by kernel_rfl,by kernel_rfl,by decide⟩
  | exact ⟨8,by kernel_rfl,by kernel_rfl,by decide⟩
  | exact ⟨9,by kernel_rfl,by kernel_rfl,by decide⟩
theorem Z25 (h5:5 ≤ a.Kind) (h21:a.Kind ≤ 21) (hr:RecW r) (hg:Zcy r) (hon:Zmw a.Kind=some r.Kind) (ha:ActW a):Chg r a:=by
 obtain ⟨on,o1,_,_,_,k10,k18,k21,_⟩:=Zt0 (k:=a.Kind) (by omega) h21
 rw [hon] at o1
 obtain rfl:=Option.some.inj o1
 have hk':a.Kind=5 ∨ a.Kind=6 ∨ a.Kind=7 ∨ a.Kind=8 ∨ a.Kind=9 ∨ a.Kind=10 ∨ a.Kind=11 ∨ a.Kind=12 ∨ a.Kind=13 ∨ a.Kind=14 ∨ a.Kind=15 ∨ a.Kind=16 ∨ a.Kind=17 ∨ a.Kind=18 ∨ a.Kind=19 ∨ a.Kind=20 ∨ a.Kind=21:=by omega
 rcases hk' with h | h | h | h | h | h | h | h | h | h | h | h | h | h | h | h | h
 ·exact Z83 h hr
 ·exact Z7p h hr
 ·exact Z92 h hr
 ·exact Z65 h hr ha
 ·exact Zyl (.inl h) hr
 ·exact Zbb0 h hr hg (k10 (.inl h)) ha
 ·exact Zbam h hr hg (k10 (.inr h)) ha
 ·exact Zyl (.inr h) hr
 ·exact Z49 h hr hg ha
 ·exact Z5d h hr hg ha
 ·exact Z5o h hr
 ·exact Z5c h hr
 ·exact Z9t h hr ha
 ·exact Z7d h hr hg (k18 (.inl h))
 ·exact Zx0 h hr hg (k18 (.inr (.inl h)))
 ·exact Z9g h hr hg (k18 (.inr (.inr h)))
 ·exact Z6j h hr hg (k21 h) ha
structure ActIn (a:Zm):Prop where
 ok:Zwr a
 n:I64 a.N
 mkr:RecW a.Make
theorem ActIn.w {a:Zm} (h:ActIn a) {c:Int} (hc:1 ≤ a.Kind ∧ a.Kind ≤ 21 ∧ a.X=Zcg a.X ∧ a.S.size ≤ 64 ∧ ((a.Kind=10 ∨ a.Kind=11) → 0 ≤ a.N ∧ a.N ≤ 2305843009213693952) ∧ (a.Kind=1 → Zex a.Make=some 0) ∧ (¬ (5 ≤ a.Kind ∧ a.Kind ≤ 6) → a.S.size ≤ 16) ∧ sEq a.Key ⟨#[]⟩=false ∧ a.Key.size ≤ 24):ActW a :=
 ⟨h.ok,h.n,h.mkr,hc.2.2.1,hc.2.2.2.2.1,hc.2.2.2.1,hc.2.2.2.2.2.2.1⟩
theorem Z2n {there:Bool} {r:Zb} {c:Int} (hc:c ≠ 0) {on:Int} (ho:Zfa a.Kind=some on):Zek there a r c=some (r,there,ans c):=by
 have h1:(c == 0)=false:=by simpa using hc
 have h2:(c != 0)=true:=by simpa using hc
 unfold Zek
 simp only [h1,Bool.false_and,Bool.false_eq_true,if_false]
 unfold Zga
 simp only [h1,Bool.false_and,Bool.false_eq_true,if_false]
 unfold Zgc
 rw [ho]
 simp only [h1,Bool.false_and,Bool.false_eq_true,if_false,Option.bind_some]
 unfold Zgd
 rw [if_pos h2]
theorem Z9w (k:Int):∃ on,Zfa k=some on:=by
 by_cases h:k < 0 ∨ 21 < k
 ·exact ⟨0,by unfold Zfa;rw [if_pos (by simpa using h)]⟩
 ·by_cases h0:k=0
  ·exact ⟨0,by rw [h0];kernel_rfl⟩
  ·obtain ⟨on,_,h2,_⟩:=Zt0 (k:=k) (by omega) (by omega)
   exact ⟨on,h2⟩
theorem Z3q {r:Zb} {there:Bool} {a:Zm} (hr:RecW r) (ha:ActIn a):∃ x is out,Zih r there a=some (x,is,out) ∧ Ziy r there a=some (x,is,out) ∧ RecW x ∧ RecW out.Rec:=by
 suffices hs:∀ r0:Zb,RecW r0 → ∃ x is out,Zhr there a r0=some (x,is,out) ∧ Zgf there a r0=some (x,is,out) ∧ RecW x ∧ RecW out.Rec by
  unfold Zih Ziy
  cases there
  ·exact hs _ Zcm
  ·exact hs r hr
 intro r0 hr0
 unfold Zhr Zgf
 rw [Zkz hr0.len,Zqm hr0.len]
 obtain ⟨c,h1,h2,h3⟩:=Zna ha.ok
 obtain ⟨on,hon⟩:=Z9w a.Kind
 rw [h1,h2]
 simp only [Option.bind_some]
 by_cases hc:c=0
 ·subst hc
  have hf:=h3 rfl
  have hw:=ha.w (c:=0) hf
  obtain ⟨on2,o1,o2,o3,o4,_⟩:=Zt0 hf.1 hf.2.1
  have main:(there=true → Zcy r0) → ∃ x is out,Zht there a r0=some (x,is,out) ∧ Zek there a r0 0=some (x,is,out) ∧ RecW x ∧ RecW out.Rec:=by
   intro hg
   unfold Zht Zhi Zek Zga Zgc
   rw [o1,o2,Zkz hr0.len,Zkz ha.mkr.len]
   unfold Zgd
   rw [Zqm hr0.len,Zqm ha.mkr.len]
   simp only [Option.bind_some]
   by_cases k1:a.Kind=1
   ·rw [k1,o3 (by omega)]
    cases there
    ·exact ⟨a.Make,true,ans 0,rfl,rfl,ha.mkr,Zcm⟩
    ·exact ⟨r0,true,ans 7,rfl,rfl,hr0,Zcm⟩
   ·by_cases k3:a.Kind=3
    ·rw [k3,o3 (by omega)]
     cases there
     ·exact ⟨r0,false,{ ans 0 with Num:=r0.Kind },rfl,rfl,hr0,Zcm⟩
     ·exact ⟨r0,true,{ ans 0 with Num:=r0.Kind },rfl,rfl,hr0,Zcm⟩
    ·by_cases k2:a.Kind=2
     ·rw [k2,o3 (by omega)]
      cases there
      ·exact ⟨r0,false,ans 6,rfl,rfl,hr0,Zcm⟩
      ·exact ⟨zrc,false,ans 0,rfl,rfl,Zcm,Zcm⟩
     ·by_cases k4:a.Kind=4
      ·rw [k4,o3 (by omega)]
       cases there
       ·exact ⟨r0,false,ans 6,rfl,rfl,hr0,Zcm⟩
       ·exact ⟨r0,true,{ ans 0 with Rec:=r0 },rfl,rfl,hr0,hr0⟩
      ·have h5:5 ≤ a.Kind:=by omega
       have b1:(a.Kind == 1)=false:=by simpa using k1
       have b2:(a.Kind == 2)=false:=by simpa using k2
       have b3:(a.Kind == 3)=false:=by simpa using k3
       have b4:(a.Kind == 4)=false:=by simpa using k4
       have b1':(a.Kind != 1)=true:=by simpa using k1
       have b3':(a.Kind != 3)=true:=by simpa using k3
       have bo:(on2 != 0)=true:=by simpa using o4 h5
       simp only [b1,b2,b3,b4,b1',b3',bo,Bool.false_and,Bool.and_false,Bool.and_true,Bool.true_and,Bool.false_eq_true,if_false,beq_self_eq_true]
       cases there
       ·exact ⟨r0,false,ans 6,rfl,rfl,hr0,Zcm⟩
       ·simp only [Bool.not_true,Bool.false_eq_true,if_false,Bool.and_false,Bool.false_and,beq_self_eq_true,Bool.true_and]
        by_cases hk:(on2 != r0.Kind)=true
        ·rw [if_pos hk,if_pos hk]
         exact ⟨r0,true,ans 5,rfl,rfl,hr0,Zcm⟩
        ·rw [if_neg hk,if_neg hk,if_pos ⟨h5,hf.2.1⟩]
         have hk':on2=r0.Kind:=by simpa using hk
         obtain ⟨c,r',o,e1,e2,w1,w2,_⟩:=Z25 h5 hf.2.1 hr0 (hg rfl) (by rw [← hk'];exact o1) hw
         rw [e1,e2]
         simp only [Option.bind_some]
         by_cases hc:c=0
         ·subst hc
          exact ⟨r',true,o,rfl,rfl,w1,w2⟩
         ·have hcn:(c != 0)=true:=by simpa using hc
          rw [if_pos hcn,if_neg hc]
          exact ⟨r0,true,ans c,rfl,rfl,hr0,Zcm⟩
  have z1:((0:Int) != 0)=false:=rfl
  have z2:((0:Int) == 0)=true:=rfl
  rw [z1,z2]
  simp only [Bool.false_eq_true,if_false,Bool.true_and]
  by_cases ht:there=true
  ·rw [if_pos ht,if_pos ht]
   obtain ⟨c2,g1,g2⟩:=Znn hr0.ok
   rw [g1,g2]
   simp only [Option.bind_some]
   by_cases hc2:c2=0
   ·subst hc2
    rw [z1]
    exact main fun _=>(Zid hr0.ok).1 g1
   ·have hcn:(c2 != 0)=true:=by simpa using hc2
    rw [if_pos hcn,Z2n hc2 o2]
    exact ⟨r0,there,ans c2,rfl,rfl,hr0,Zcm⟩
  ·rw [if_neg ht,if_neg ht]
   exact main fun h=>absurd h ht
 ·have hcn:(c != 0)=true:=by simpa using hc
  have hcz:(c == 0)=false:=by simpa using hc
  rw [if_pos hcn,hcz]
  simp only [Bool.false_and,Bool.false_eq_true,if_false]
  rw [Z2n hc hon]
  exact ⟨r0,there,ans c,rfl,rfl,hr0,Zcm⟩
theorem Zbap {x:Zb} (h:Zlf x):x.List.length ≤ 9223372036854775807:=by
 obtain ⟨_,_,_,_,_,_,_,h8,_⟩:=h
 simp only [maxLen] at h8;omega
theorem Zxg {x:Zb} (h:Zlf x) (hl:x.List.length ≤ 100):RecW x:=by
 obtain ⟨h1,h2,h3,h4,h5,_,_,h8,h9⟩:=h
 exact ⟨⟨h5,by omega,fun e he=>(h9 e he).1⟩,h2,h3,h4,h1,by omega⟩
theorem eqLr:∀ l:List Zi,eqL l l=true
 | []=>rfl
 | x :: l=>by simp [eqL,eqI,Zc6,eqLr l]
theorem Z58 (a:Zb):Zk3 a a=true:=by simp [Zk3,Zc6,eqLr]
theorem Z6x {a:Zm} (h:Zmf a) (hl:a.Make.List.length ≤ 100):ActIn a:=by
 obtain ⟨_,_,h3,h4,_,h6,_⟩:=h
 exact ⟨⟨(Zxg h6 hl).ok,h4⟩,h3,Zxg h6 hl⟩
theorem Zbcl {a b:Zc} (ha:RecW a.Rec) (hb:RecW b.Rec):Zjk a b=some ((a.Code == b.Code) && (a.Num == b.Num) && Zk3 a.Rec b.Rec):=by
 unfold Zjk
 rw [Zqd ha.ok hb.ok]
 cases (a.Code == b.Code) && (a.Num == b.Num) <;> rfl
def Z4o (r0:Zb) (there:Bool) (a:Zm) (z:Zb × Bool × Zc):Prop :=
 (∃ c,c ≠ 0 ∧ z=(r0,there,ans c)) ∨ (Zf7 a=some 0 ∧ ActW a ∧ (there=true → Zcy r0) ∧
  ((a.Kind=1 ∧ there=false ∧ Zcy a.Make ∧ z=(a.Make,true,ans 0)) ∨ (a.Kind=2 ∧ there=true ∧ z=(zrc,false,ans 0)) ∨ (a.Kind=3 ∧ z=(r0,there,{ ans 0 with Num:=r0.Kind })) ∨ (a.Kind=4 ∧ there=true ∧ z=(r0,true,{ ans 0 with Rec:=r0 })) ∨
   (5 ≤ a.Kind ∧ a.Kind ≤ 21 ∧ there=true ∧ Zmw a.Kind=some r0.Kind ∧ ∃ r' o,Zbl a.Kind r0 a default=some (0,r',o) ∧ o.Code=0 ∧ o.Num=0 ∧ RecW r' ∧ RecW o.Rec ∧ z=(r',true,o))))
theorem Zln {r:Zb} {there:Bool} {a:Zm} (hr:RecW r) (ha:ActIn a):∃ z,Zih r there a=some z ∧ Z4o (if there=true then r else zrc) there a z:=by
 suffices hs:∀ r0:Zb,RecW r0 → ∃ z,Zhr there a r0=some z ∧ Z4o r0 there a z by
  unfold Zih
  cases there
  ·exact hs _ Zcm
  ·exact hs r hr
 intro r0 hr0
 unfold Zhr
 rw [Zkz hr0.len]
 obtain ⟨c,h1,h2,h3⟩:=Zna ha.ok
 rw [h1]
 simp only [Option.bind_some]
 by_cases hc:c=0
 ·subst hc
  have hf:=h3 rfl
  have hw:=ha.w (c:=0) hf
  obtain ⟨on2,o1,o2,o3,o4,_⟩:=Zt0 hf.1 hf.2.1
  have main:(there=true → Zcy r0) → ∃ z,Zht there a r0=some z ∧ Z4o r0 there a z:=by
   intro hg
   unfold Zht Zhi
   rw [o1,Zkz hr0.len,Zkz ha.mkr.len]
   simp only [Option.bind_some]
   by_cases k1:a.Kind=1
   ·have hm:Zcy a.Make:=(Zid ha.mkr.ok).1 (hf.2.2.2.2.2.1 k1)
    rw [k1]
    cases there
    ·exact ⟨_,rfl,.inr ⟨h1,hw,hg,.inl ⟨k1,rfl,hm,rfl⟩⟩⟩
    ·exact ⟨_,rfl,.inl ⟨7,by decide,rfl⟩⟩
   ·by_cases k3:a.Kind=3
    ·rw [k3]
     exact ⟨_,rfl,.inr ⟨h1,hw,hg,.inr (.inr (.inl ⟨k3,rfl⟩))⟩⟩
    ·by_cases k2:a.Kind=2
     ·rw [k2]
      cases there
      ·exact ⟨_,rfl,.inl ⟨6,by decide,rfl⟩⟩
      ·exact ⟨_,rfl,.inr ⟨h1,hw,hg,.inr (.inl ⟨k2,rfl,rfl⟩)⟩⟩
     ·by_cases k4:a.Kind=4
      ·rw [k4]
       cases there
       ·exact ⟨_,rfl,.inl ⟨6,by decide,rfl⟩⟩
       ·exact ⟨_,rfl,.inr ⟨h1,hw,hg,.inr (.inr (.inr (.inl ⟨k4,rfl,rfl⟩)))⟩⟩
      ·have h5:5 ≤ a.Kind:=by omega
       have b1:(a.Kind == 1)=false:=by simpa using k1
       have b2:(a.Kind == 2)=false:=by simpa using k2
       have b3:(a.Kind == 3)=false:=by simpa using k3
       have b4:(a.Kind == 4)=false:=by simpa using k4
       simp only [b1,b2,b3,b4,Bool.false_and,Bool.false_eq_true,if_false]
       cases there
       ·exact ⟨_,rfl,.inl ⟨6,by decide,rfl⟩⟩
       ·simp only [Bool.not_true,Bool.false_eq_true,if_false]
        by_cases hk:(on2 != r0.Kind)=true
        ·rw [if_pos hk]
         exact ⟨_,rfl,.inl ⟨5,by decide,rfl⟩⟩
        ·rw [if_neg hk,if_pos ⟨h5,hf.2.1⟩]
         have hk':on2=r0.Kind:=by simpa using hk
         obtain ⟨c,r',o,e1,e2,w1,w2,w3⟩:=Z25 h5 hf.2.1 hr0 (hg rfl) (by rw [← hk'];exact o1) hw
         rw [e1]
         simp only [Option.bind_some]
         by_cases hc:c=0
         ·subst hc
          exact ⟨(r',true,o),rfl,.inr ⟨h1,hw,hg,.inr (.inr (.inr (.inr ⟨h5,hf.2.1,rfl,by rw [← hk'];exact o1,r',o,e1,(w3 rfl).1,(w3 rfl).2,w1,w2,rfl⟩)))⟩⟩
         ·have hcn:(c != 0)=true:=by simpa using hc
          rw [if_pos hcn]
          exact ⟨_,rfl,.inl ⟨c,hc,rfl⟩⟩
  have z1:((0:Int) != 0)=false:=rfl
  rw [z1]
  simp only [Bool.false_eq_true,if_false]
  by_cases ht:there=true
  ·rw [if_pos ht]
   obtain ⟨c2,g1,g2⟩:=Znn hr0.ok
   rw [g1]
   simp only [Option.bind_some]
   by_cases hc2:c2=0
   ·subst hc2
    rw [z1]
    exact main fun _=>(Zid hr0.ok).1 g1
   ·have hcn:(c2 != 0)=true:=by simpa using hc2
    rw [if_pos hcn]
    exact ⟨_,rfl,.inl ⟨c2,hc2,rfl⟩⟩
  ·rw [if_neg ht]
   exact main fun h=>absurd h ht
 ·have hcn:(c != 0)=true:=by simpa using hc
  rw [if_pos hcn]
  exact ⟨_,rfl,.inl ⟨c,hc,rfl⟩⟩
theorem Z0d {f:Zi → Bool} {l:Zd1}:∀ y ∈ l.take (pre f l),f y=true:=fun y hy=>by
 obtain ⟨k,hk,rfl⟩:=List.getElem_of_mem hy
 rw [List.length_take] at hk
 obtain ⟨e,he,hf⟩:=Z1t (f:=f) (l:=l) (k:=k) (by omega)
 rw [List.getElem?_eq_getElem (by omega)] at he
 rw [List.getElem_take]
 obtain rfl:=Option.some.inj he
 exact hf
variable {r r' r'':Zb} {a:Zm} {o o':Zc} {c:Int}
theorem Zrw {r:Zb} {m:Int} (hg:Zcy r) (hk:2 ≤ r.Kind ∧ r.Kind ≤ 4) (hb:r.Kind=4 → r.Low ≤ m ∧ m ≤ r.High):Zcy { r with Num:=m }:=by
 obtain ⟨g1,g2,g3,g4,g5,g6,g7⟩:=hg
 refine ⟨g1,g2,?_,g4,fun h=>⟨(g5 h).1,(g5 h).2.1,(hb h).1,(hb h).2⟩,g6,g7⟩
 unfold Zig at *
 have:decide (2 ≤ r.Kind ∧ r.Kind ≤ 4)=true:=decide_eq_true hk
 simp only [this,Bool.true_or] at *
 exact g3
theorem Zp6 {a b c:Zi} (h:Zds a b=true) (k:Zds b c=true):Zds a c=true:=by
 unfold Zds at *
 by_cases h1:keyf a.Score=keyf b.Score
 ·rw [if_pos h1] at h
  by_cases h2:keyf b.Score=keyf c.Score
  ·rw [if_pos h2] at k
   rw [if_pos (h1.trans h2)];exact Zgp h k
  ·rw [if_neg h2] at k
   rw [if_neg (by rw [h1];exact h2),h1];exact k
 ·rw [if_neg h1] at h
  have h':=of_decide_eq_true h
  by_cases h2:keyf b.Score=keyf c.Score
  ·rw [if_neg (by rw [← h2];exact h1),← h2];exact h
  ·rw [if_neg h2] at k
   have k':=of_decide_eq_true k
   rw [if_neg (by omega)];exact decide_eq_true (by omega)
def BS (l:Zd1):Prop:=l.Pairwise fun p q=>Zds p q=true
def Zs7 (k:Int) (e:Zi):Prop:=e.Name.size ≤ 16 ∧ (k=8 → keyf e.Score=keyf 0) ∧ e.Score=Zcg e.Score
theorem Zpc {k:Int} {l:Zd1} {i:Nat} {x:Zi} (h:l[i]?=some x):Zip k l i=0 ↔ Zs7 k x ∧ (0 < i → k=8 → sLt ((l[i - 1]?).getD default).Name x.Name=true) ∧ (0 < i → k=9 → Zds ((l[i - 1]?).getD default) x=true):=by
 unfold Zip Zs7
 rw [h]
 simp only []
 by_cases h1:(16:Int) < x.Name.size
 ·rw [if_pos h1];exact ⟨fun h=>(by cases h),fun h=>by omega⟩
 ·rw [if_neg h1]
  by_cases h2:(k=8 ∧ keyf x.Score ≠ keyf 0) ∨ x.Score ≠ Zcg x.Score
  ·rw [if_pos h2]
   refine ⟨fun h=>(by cases h),fun h=>?_⟩
   rcases h2 with ⟨a,b⟩ | b
   ·exact absurd (h.1.2.1 a) b
   ·exact absurd h.1.2.2 b
  ·rw [if_neg h2]
   have e1:k=8 → keyf x.Score=keyf 0:=fun hk=>Classical.byContradiction fun hn=>h2 (.inl ⟨hk,hn⟩)
   have e2:x.Score=Zcg x.Score:=Classical.byContradiction fun hn=>h2 (.inr hn)
   by_cases h3:0 < i ∧ k=8 ∧ sLt ((l[i - 1]?).getD default).Name x.Name=false
   ·rw [if_pos h3]
    refine ⟨fun h=>(by cases h),fun h=>?_⟩
    have:=h.2.1 h3.1 h3.2.1
    rw [h3.2.2] at this;cases this
   ·rw [if_neg h3]
    have e3:0 < i → k=8 → sLt ((l[i - 1]?).getD default).Name x.Name=true:=fun a b=>by
     cases hq:sLt ((l[i - 1]?).getD default).Name x.Name
     ·exact absurd ⟨a,b,hq⟩ h3
     ·rfl
    by_cases h4:0 < i ∧ k=9 ∧ Zds ((l[i - 1]?).getD default) x=false
    ·rw [if_pos h4]
     refine ⟨fun h=>(by cases h),fun h=>?_⟩
     have:=h.2.2 h4.1 h4.2.1
     rw [h4.2.2] at this;cases this
    ·rw [if_neg h4]
     refine ⟨fun _=>⟨⟨by omega,e1,e2⟩,e3,fun a b=>?_⟩,fun _=>rfl⟩
     cases hq:Zds ((l[i - 1]?).getD default) x
     ·exact absurd ⟨a,b,hq⟩ h4
     ·rfl
theorem Z0n {R:Zi → Zi → Prop} (ht:∀ {a b c},R a b → R b c → R a c) {l:Zd1} (step:∀ i,i + 1 < l.length → R ((l[i]?).getD default) ((l[i + 1]?).getD default)):l.Pairwise R:=by
 have far:∀ d i,i + d + 1 < l.length → R ((l[i]?).getD default) ((l[i + d + 1]?).getD default):=by
  intro d
  induction d with
  | zero=>intro i h;exact step i h
  | succ d ih=>intro i h;exact ht (ih i (by omega)) (step (i + d + 1) (by omega))
 refine List.pairwise_iff_getElem.2 fun i j hi hj hij=>?_
 have:=far (j - i - 1) i (by omega)
 rw [show i + (j - i - 1) + 1=j by omega,List.getElem?_eq_getElem hi,List.getElem?_eq_getElem hj] at this
 exact this
theorem Z00 {R:Zi → Zi → Prop} {l:Zd1} (h:l.Pairwise R) {i:Nat} {x:Zi} (hx:l[i]?=some x) (hi:0 < i):R ((l[i - 1]?).getD default) x:=by
 obtain ⟨h1,rfl⟩:=List.getElem?_eq_some_iff.1 hx
 rw [List.getElem?_eq_getElem (by omega)]
 exact List.pairwise_iff_getElem.1 h _ _ (by omega) h1 (by omega)
theorem Zxw {k:Int} {l:Zd1}:(∀ i,i < l.length → Zip k l i=0) ↔ (∀ e ∈ l,Zs7 k e) ∧ (k=8 → NS l) ∧ (k=9 → BS l):=by
 constructor
 ·intro h
  refine ⟨fun e he=>?_,fun hk=>?_,fun hk=>?_⟩
  ·obtain ⟨i,hi,rfl⟩:=List.getElem_of_mem he
   exact ((Zpc (List.getElem?_eq_getElem hi)).1 (h i hi)).1
  ·refine Z0n (R:=fun p q=>sLt p.Name q.Name=true) (fun a b=>Zgp a b) fun i hi=>?_
   have:=((Zpc (List.getElem?_eq_getElem hi)).1 (h (i + 1) hi)).2.1 (by omega) hk
   rw [List.getElem?_eq_getElem hi];exact this
  ·refine Z0n (R:=fun p q=>Zds p q=true) (fun a b=>Zp6 a b) fun i hi=>?_
   have:=((Zpc (List.getElem?_eq_getElem hi)).1 (h (i + 1) hi)).2.2 (by omega) hk
   rw [List.getElem?_eq_getElem hi];exact this
 ·intro ⟨h1,h2,h3⟩ i hi
  have hx:=List.getElem?_eq_getElem hi
  exact (Zpc hx).2 ⟨h1 _ (List.getElem_mem hi),fun a b=>Z00 (R:=fun p q=>sLt p.Name q.Name=true) (h2 b) hx a,fun a b=>Z00 (R:=fun p q=>Zds p q=true) (h3 b) hx a⟩
theorem Z1i {r:Zb} (h:Zcy r) (hk:8 ≤ r.Kind):1 ≤ r.Cap ∧ r.Cap ≤ 32 ∧ (r.List.length:Int) ≤ r.Cap ∧ (∀ e ∈ r.List,Zs7 r.Kind e) ∧ (r.Kind=8 → NS r.List) ∧ (r.Kind=9 → BS r.List):=by
 obtain ⟨a,b,c,d⟩:=h.2.2.2.2.2.2 hk
 exact ⟨a,b,c,Zxw.1 d⟩
theorem Zo7 {r:Zb} {l:Zd1} (h:Zcy r) (hk:8 ≤ r.Kind) (h1:(l.length:Int) ≤ r.Cap) (h2:∀ e ∈ l,Zs7 r.Kind e) (h3:r.Kind=8 → NS l) (h4:r.Kind=9 → BS l):Zcy { r with List:=l }:=by
 obtain ⟨g1,g2,g3,g4,g5,g6,g7⟩:=h
 refine ⟨g1,g2,?_,g4,g5,g6,fun hk=>⟨(g7 hk).1,(g7 hk).2.1,h1,Zxw.2 ⟨h2,h3,h4⟩⟩⟩
 unfold Zig at *
 have:decide (8 ≤ r.Kind)=true:=decide_eq_true hk
 simp only [this,Bool.true_or] at *
 exact g3
theorem Zsa {r:Zb} {t:ByteArray} (h:Zcy r) (hk:r.Kind=1) (h1:t.size ≤ 64):Zcy { r with Text:=t }:=by
 obtain ⟨g1,g2,g3,g4,g5,g6,g7⟩:=h
 refine ⟨g1,g2,?_,h1,g5,g6,g7⟩
 unfold Zig at *
 have:decide (r.Kind=1)=true:=decide_eq_true hk
 simp only [this,Bool.true_or,Bool.true_and] at *
 exact g3
theorem Zy0 {r:Zb} {x:Nat} (h:Zcy r) (hk:5 ≤ r.Kind ∧ r.Kind ≤ 7) (h1:x=Zcg x):Zcy { r with Real:=x }:=by
 obtain ⟨g1,g2,g3,g4,g5,g6,g7⟩:=h
 refine ⟨g1,g2,?_,g4,g5,h1,g7⟩
 unfold Zig at *
 have:decide (5 ≤ r.Kind ∧ r.Kind ≤ 7)=true:=decide_eq_true hk
 simp only [this,Bool.true_or] at *
 exact g3
variable {r r':Zb} {a:Zm} {o:Zc}
theorem Zou {ψ:Nat → Nat → Option Nat} (hg:Zcy r) (hk:5 ≤ r.Kind ∧ r.Kind ≤ 7) (hψ:∀ m,ψ r.Real a.X=some m → m=Zcg m) (e:Zbl a.Kind r a default=Zfe ψ r a default) (h1:Zbl a.Kind r a default=some (0,r',o)):Zcy r':=by
 rw [e] at h1
 unfold Zfe at h1
 obtain ⟨m,m1,m2⟩:=Option.bind_eq_some_iff.1 h1
 simp only [Option.some.injEq,Prod.mk.injEq] at m2
 obtain ⟨_,rfl,_⟩:=m2
 exact Zy0 hg hk (hψ m m1)
theorem Z5i (h:a.Kind=18) (hr:RecW r) (hg:Zcy r) (hk:r.Kind=8) (ha:ActW a) (h1:Zbl a.Kind r a default=some (0,r',o)):Zcy r':=by
 have e:Zbl a.Kind r a default=Zl7 r a default:=by rw [h];rfl
 obtain ⟨c1,c2,c3,c4,c5,_⟩:=Z1i hg (by omega)
 have hs:=c5 hk
 have hl:=hr.len
 have hple:=Zqb (fun e=>sLt e.Name a.S) r.List
 rw [e] at h1
 unfold Zl7 at h1
 rw [Zpn hs (by omega),Zrg (by omega)] at h1
 simp only [Option.bind_some] at h1
 by_cases hat:isAt a.S r.List=true
 ·rw [if_pos hat] at h1
  simp only [Option.some.injEq,Prod.mk.injEq,true_and] at h1
  rw [← h1.1];exact hg
 ·rw [if_neg hat] at h1
  by_cases hc:decide (r.Cap ≤ (r.List.length:Int))=true
  ·rw [if_pos hc] at h1;cases h1
  ·rw [if_neg hc] at h1
   have hc':¬ r.Cap ≤ (r.List.length:Int):=by simpa using hc
   unfold Zcj at h1
   rw [if_pos ⟨by omega,by omega,by simp,by simp;omega⟩] at h1
   simp only [Option.bind_some,Option.some.injEq,Prod.mk.injEq,true_and,Int.toNat_natCast] at h1
   obtain ⟨rfl,_⟩:=h1
   have hbehind:∀ y ∈ r.List.drop (pre (fun e=>sLt e.Name a.S) r.List),sLt a.S y.Name=true:=fun y hy=>by
    obtain ⟨k,hk,rfl⟩:=List.getElem_of_mem hy
    rw [List.length_drop] at hk
    rw [List.getElem_drop]
    have hm:=Zu9 (s:=a.S) hs (k:=pre (fun e=>sLt e.Name a.S) r.List + k) (by omega)
    rw [show decide (pre (fun e=>sLt e.Name a.S) r.List + k < pre (fun e=>sLt e.Name a.S) r.List)=false by simp] at hm
    refine Zm9 hm fun hn=>?_
    have hany:=Zvp (s:=a.S) hs
    rw [show isAt a.S r.List=false by simpa using hat,List.any_eq_false] at hany
    exact hany _ (List.getElem_mem _) (Zdn.2 hn)
   refine Zo7 hg (by omega) (by simp;omega) (fun e he=>?_) (fun _=>?_) (fun h=>by omega)
   ·simp only [List.mem_append,List.mem_singleton] at he
    rcases he with (he | rfl) | he
    ·exact c4 e (List.mem_of_mem_take he)
    ·exact ⟨ha.s16 (by omega),fun _=>rfl,by kernel_rfl⟩
    ·exact c4 e (List.mem_of_mem_drop he)
   ·unfold NS at *
    rw [List.append_assoc,List.pairwise_append]
    refine ⟨hs.sublist (List.take_sublist _ _),?_,fun x hx y hy=>?_⟩
    ·rw [List.singleton_append,List.pairwise_cons]
     exact ⟨hbehind,hs.sublist (List.drop_sublist _ _)⟩
    ·have hxa:sLt x.Name a.S=true:=Z0d (f:=fun e=>sLt e.Name a.S) x hx
     rcases List.mem_append.1 hy with hy | hy
     ·rw [List.mem_singleton.1 hy];exact hxa
     ·exact Zgp hxa (hbehind y hy)
theorem Z39 (h:a.Kind=19) (hr:RecW r) (hg:Zcy r) (hk:r.Kind=8) (h1:Zbl a.Kind r a default=some (0,r',o)):Zcy r':=by
 obtain ⟨c1,c2,c3,c4,c5,_⟩:=Z1i hg (by omega)
 have hl:=hr.len
 obtain ⟨c,x,y,d1,d2,_⟩:=Zx0 h hr hg hk
 rw [h1] at d1
 simp only [Option.some.injEq,Prod.mk.injEq] at d1
 obtain ⟨rfl,rfl,rfl⟩:=d1
 have e2:Zbx r a=(Zdl r a (Int.toNat ((r.List.length:Int) - (0:Int)) + 1) ([]:List Zi) (0:Int)).bind fun z57=>match z57 with | y56=>(Z6 ({ r with List:=y56 }) (ans 0)):=by unfold Zbx Zck;rw [h];rfl
 have hf:=Zqe (a:=a) (a0:=r) (by omega) r.List.length 0 [] (by omega) (by simp)
 rw [show ((0:Nat):Int)=0 from rfl] at hf
 rw [e2,show (Int.toNat ((r.List.length:Int) - (0:Int)) + 1)=r.List.length + 1 by omega,hf,List.drop_zero,List.nil_append] at d2
 simp only [Option.bind_some,Z6,if_true,Option.some.injEq,Prod.mk.injEq] at d2
 obtain ⟨rfl,_⟩:=d2
 have hle:=List.length_filter_le (fun e:Zi=>!sEq e.Name a.S) r.List
 exact Zo7 hg (by omega) (by omega) (fun e he=>c4 e (List.mem_filter.1 he).1) (fun _=>List.Pairwise.sublist List.filter_sublist (c5 hk)) (fun h=>by omega)
theorem Z4c (h:a.Kind=21) (hr:RecW r) (hg:Zcy r) (hk:r.Kind=9) (ha:ActW a) (h1:Zbl a.Kind r a default=some (0,r',o)):Zcy r':=by
 have e:Zbl a.Kind r a default=Zk9 r a default:=by rw [h];rfl
 obtain ⟨c1,c2,c3,c4,_,c6⟩:=Z1i hg (by omega)
 have hs:=c6 hk
 have hl:=hr.len
 have hple:=Zqb (Zec { Score:=a.X,Name:=a.S } false) r.List
 rw [e] at h1
 unfold Zk9 at h1
 rw [Zyn ha.ok.2 hr.ok.sc (by omega),Zrg (by omega)] at h1
 simp only [Option.bind_some] at h1
 obtain ⟨e9,g9,h1⟩:=Option.bind_eq_some_iff.1 h1
 obtain ⟨r11,g11,h1⟩:=Option.bind_eq_some_iff.1 h1
 split at h1
 ·simp only [Option.some.injEq,Prod.mk.injEq,true_and] at h1
  rw [← h1.1];exact hg
 ·rename_i hcond
  unfold Zcj at h1
  rw [if_pos ⟨by omega,by omega,by simp,by simp;omega⟩] at h1
  simp only [Option.bind_some] at h1
  rw [Z04 c1 c2] at h1
  simp only [Option.bind_some,Option.some.injEq,Prod.mk.injEq,true_and,Int.toNat_natCast] at h1
  obtain ⟨rfl,_⟩:=h1
  have hbehind:∀ y ∈ r.List.drop (pre (Zec { Score:=a.X,Name:=a.S } false) r.List),Zds { Score:=a.X,Name:=a.S } y=true:=fun y hy=>by
   have hp:pre (Zec { Score:=a.X,Name:=a.S } false) r.List < r.List.length:=by
    have:=List.length_pos_of_mem hy
    rw [List.length_drop] at this;omega
   have hd:decide (((pre (Zec { Score:=a.X,Name:=a.S } false) r.List:Nat):Int) < (r.List.length:Int))=true:=by simpa using hp
   rw [hd,Zcs hp] at g9
   simp only [gd_t,Option.some.injEq] at g9
   subst g9
   rw [hd] at g11 hcond
   simp only [gd_t] at g11
   rw [Zqk ha.ok.2 (hr.ok.sc _ (List.getElem_mem hp))] at g11
   have hb:Zds { Score:=a.X,Name:=a.S } r.List[pre (Zec { Score:=a.X,Name:=a.S } false) r.List]=true:=by
    have:=Option.some.inj g11
    rw [← this] at hcond
    simpa using hcond
   rw [List.drop_eq_getElem_cons hp] at hy
   rcases List.mem_cons.1 hy with rfl | hy
   ·exact hb
   ·refine Zp6 hb ?_
    have hpw:(r.List.drop (pre (Zec { Score:=a.X,Name:=a.S } false) r.List)).Pairwise fun p q=>Zds p q=true:=List.Pairwise.sublist (List.drop_sublist _ _) hs
    rw [List.drop_eq_getElem_cons hp,List.pairwise_cons] at hpw
    exact hpw.1 y hy
  refine Zo7 hg (by omega) (by rw [List.length_take];omega) (fun e he=>?_) (fun h=>by omega) (fun _=>?_)
  ·have he:=List.mem_of_mem_take he
   simp only [List.mem_append,List.mem_singleton] at he
   rcases he with (he | rfl) | he
   ·exact c4 e (List.mem_of_mem_take he)
   ·exact ⟨ha.s16 (by omega),fun h=>by omega,ha.xc⟩
   ·exact c4 e (List.mem_of_mem_drop he)
  ·refine List.Pairwise.sublist (List.take_sublist _ _) ?_
   rw [List.append_assoc,List.pairwise_append]
   refine ⟨List.Pairwise.sublist (List.take_sublist _ _) hs,?_,fun x hx y hy=>?_⟩
   ·rw [List.singleton_append,List.pairwise_cons]
    exact ⟨hbehind,List.Pairwise.sublist (List.drop_sublist _ _) hs⟩
   ·have hxa:Zds x { Score:=a.X,Name:=a.S }=true:=Z0d (f:=Zec { Score:=a.X,Name:=a.S } false) x hx
    rcases List.mem_append.1 hy with hy | hy
    ·rw [List.mem_singleton.1 hy];exact hxa
    ·exact Zp6 hxa (hbehind y hy)
theorem Zix {k on:Int} {c:Int} (h:Zmw k=some on) (e:Zmw k=some c):on=c:=Option.some.inj (h.symm.trans e)
theorem Zvj (h5:5 ≤ a.Kind) (h21:a.Kind ≤ 21) (hon:Zmw a.Kind=some r.Kind) (hr:RecW r) (hg:Zcy r) (ha:ActW a) (h1:Zbl a.Kind r a default=some (0,r',o)):Zcy r':=by
 have real:∀ {m:Nat},m=r.Real ∨ m=a.X → m=Zcg m:=fun {m} h=>by
  rcases h with rfl | rfl
  ·exact Zo3 hg
  ·exact ha.xc
 have hk':a.Kind=5 ∨ a.Kind=6 ∨ a.Kind=7 ∨ a.Kind=8 ∨ a.Kind=9 ∨ a.Kind=10 ∨ a.Kind=11 ∨ a.Kind=12 ∨ a.Kind=13 ∨ a.Kind=14 ∨ a.Kind=15 ∨ a.Kind=16 ∨ a.Kind=17 ∨ a.Kind=18 ∨ a.Kind=19 ∨ a.Kind=20 ∨ a.Kind=21:=by omega
 rcases hk' with h | h | h | h | h | h | h | h | h | h | h | h | h | h | h | h | h
 ·have e:Zbl a.Kind r a default=Zks r a default:=by rw [h];rfl
  rw [e] at h1
  simp only [Zks,Option.some.injEq,Prod.mk.injEq,true_and] at h1
  rw [← h1.1]
  exact Zsa hg (Zix hon (by rw [h];kernel_rfl)) ha.s64
 ·have e:Zbl a.Kind r a default=Zh0 r a default:=by rw [h];rfl
  rw [e] at h1
  simp only [Zh0,Zkz hr.len,Option.bind_some,Option.some.injEq,Prod.mk.injEq,true_and] at h1
  rw [← h1.1]
  exact Zsa hg (Zix hon (by rw [h];kernel_rfl)) ha.s64
 ·have e:Zbl a.Kind r a default=Zkv r a default:=by rw [h];rfl
  rw [e] at h1
  simp only [Zkv,Option.some.injEq,Prod.mk.injEq,true_and] at h1
  rw [← h1.1]
  have hk:r.Kind=2:=Zix hon (by rw [h];kernel_rfl)
  exact Zrw hg (by omega) (fun h=>by omega)
 ·have e:Zbl a.Kind r a default=Zly r a default:=by rw [h];rfl
  rw [e] at h1
  unfold Zly at h1
  split at h1
  ·cases h1
  ·simp only [Option.some.injEq,Prod.mk.injEq,true_and] at h1
   rw [← h1.1]
   have hk:r.Kind=3:=Zix hon (by rw [h];kernel_rfl)
   exact Zrw hg (by omega) (fun h=>by omega)
 ·have e:Zbl a.Kind r a default=Zem r a default:=by rw [h];rfl
  rw [e] at h1
  unfold Zem at h1
  split at h1
  ·cases h1
  ·simp only [Option.some.injEq,Prod.mk.injEq,true_and] at h1
   rw [← h1.1];exact hg
 ·have e:Zbl a.Kind r a default=Zh1 r a default:=by rw [h];rfl
  have hk:r.Kind=4:=Zix hon (by rw [h];kernel_rfl)
  obtain ⟨p1,p2,p3,p4⟩:=Zzr hg hk
  obtain ⟨q1,q2⟩:=ha.inout (.inl h)
  rw [e] at h1
  unfold Zh1 at h1
  rw [wr (x:=r.High - r.Num) (by omega) (by omega),wr (x:=r.Num + a.N) (by omega) (by omega)] at h1
  split at h1
  ·cases h1
  ·rename_i hcond
   have hcond':¬ (r.High - r.Num < a.N):=by simpa using hcond
   simp only [Option.some.injEq,Prod.mk.injEq,true_and] at h1
   rw [← h1.1]
   exact Zrw hg (by omega) (fun _=>by omega)
 ·have e:Zbl a.Kind r a default=Zh7 r a default:=by rw [h];rfl
  have hk:r.Kind=4:=Zix hon (by rw [h];kernel_rfl)
  obtain ⟨p1,p2,p3,p4⟩:=Zzr hg hk
  obtain ⟨q1,q2⟩:=ha.inout (.inr h)
  rw [e] at h1
  unfold Zh7 at h1
  rw [wr (x:=r.Num - r.Low) (by omega) (by omega),wr (x:=r.Num - a.N) (by omega) (by omega)] at h1
  split at h1
  ·cases h1
  ·rename_i hcond
   have hcond':¬ (r.Num - r.Low < a.N):=by simpa using hcond
   simp only [Option.some.injEq,Prod.mk.injEq,true_and] at h1
   rw [← h1.1]
   exact Zrw hg (by omega) (fun _=>by omega)
 ·have e:Zbl a.Kind r a default=Zem r a default:=by rw [h];rfl
  rw [e] at h1
  unfold Zem at h1
  split at h1
  ·cases h1
  ·simp only [Option.some.injEq,Prod.mk.injEq,true_and] at h1
   rw [← h1.1];exact hg
 ·have hk:r.Kind=5:=Zix hon (by rw [h];kernel_rfl)
  refine Zou (ψ:=fun x y=>Zmk x y) hg (by omega) (fun m hm=>?_) (by rw [h];rfl) h1
  obtain ⟨m',e1,_,e2⟩:=Z1u hr.ok.real ha.ok.2 (Zo3 hg) ha.xc
  have:m=m':=Option.some.inj (hm.symm.trans e1)
  exact real (this ▸ e2)
 ·have hk:r.Kind=6:=Zix hon (by rw [h];kernel_rfl)
  refine Zou (ψ:=fun x y=>Zmo x y) hg (by omega) (fun m hm=>?_) (by rw [h];rfl) h1
  obtain ⟨m',e1,_,e2⟩:=Z06 hr.ok.real ha.ok.2 (Zo3 hg) ha.xc
  have:m=m':=Option.some.inj (hm.symm.trans e1)
  exact real (this ▸ e2)
 ·have hk:r.Kind=7:=Zix hon (by rw [h];kernel_rfl)
  refine Zou (ψ:=fun x y=>Zjm x y) hg (by omega) (fun m hm=>?_) (by rw [h];rfl) h1
  have hz:=Z3e r.Real a.X
  have:Zjm r.Real a.X=some (Zcg (fadd r.Real a.X)):=by unfold Zjm;rw [Zkg hz];rfl
  have:m=Zcg (fadd r.Real a.X):=Option.some.inj (hm.symm.trans this)
  rw [this,Zuq]
 ·have hk:r.Kind=7:=Zix hon (by rw [h];kernel_rfl)
  refine Zou (ψ:=fun x y=>Zii x y) hg (by omega) (fun m hm=>?_) (by rw [h];rfl) h1
  have hz:=Z21 r.Real a.X
  have:Zii r.Real a.X=some (Zcg (fmul r.Real a.X)):=by unfold Zii;rw [Zkg hz];rfl
  have:m=Zcg (fmul r.Real a.X):=Option.some.inj (hm.symm.trans this)
  rw [this,Zuq]
 ·have hk:r.Kind=7:=Zix hon (by rw [h];kernel_rfl)
  refine Zou (ψ:=fun x y=>Zh5 x y) hg (by omega) (fun m hm=>?_) (by rw [h];rfl) h1
  exact real (.inr (Option.some.inj hm).symm)
 ·exact Z5i h hr hg (Zix hon (by rw [h];kernel_rfl)) ha h1
 ·exact Z39 h hr hg (Zix hon (by rw [h];kernel_rfl)) h1
 ·have hk:r.Kind=8:=Zix hon (by rw [h];kernel_rfl)
  have e:Zbl a.Kind r a default=Zgg r a default:=by rw [h];rfl
  have hl:=hr.len
  rw [e] at h1
  unfold Zgg at h1
  rw [Zpn (Znv hg hk) (by omega)] at h1
  simp only [Option.bind_some] at h1
  split at h1
  ·cases h1
  ·simp only [Option.some.injEq,Prod.mk.injEq,true_and] at h1
   rw [← h1.1];exact hg
 ·exact Z4c h hr hg (Zix hon (by rw [h];kernel_rfl)) ha h1
theorem Zr3 (hk:a.Kind=9 ∨ a.Kind=12 ∨ a.Kind=20) (hr:RecW r) (hg:Zcy r) (hon:Zmw a.Kind=some r.Kind) (h1:Zbl a.Kind r a default=some (0,r',o)):r'=r:=by
 rcases hk with h | h | h
 ·have e:Zbl a.Kind r a default=Zem r a default:=by rw [h];rfl
  rw [e] at h1
  unfold Zem at h1
  split at h1
  ·cases h1
  ·simp only [Option.some.injEq,Prod.mk.injEq,true_and] at h1
   exact h1.1.symm
 ·have e:Zbl a.Kind r a default=Zem r a default:=by rw [h];rfl
  rw [e] at h1
  unfold Zem at h1
  split at h1
  ·cases h1
  ·simp only [Option.some.injEq,Prod.mk.injEq,true_and] at h1
   exact h1.1.symm
 ·have hk:r.Kind=8:=Zix hon (by rw [h];kernel_rfl)
  have e:Zbl a.Kind r a default=Zgg r a default:=by rw [h];rfl
  have hl:=hr.len
  rw [e] at h1
  unfold Zgg at h1
  rw [Zpn (Znv hg hk) (by omega)] at h1
  simp only [Option.bind_some] at h1
  split at h1
  ·cases h1
  ·simp only [Option.some.injEq,Prod.mk.injEq,true_and] at h1
   exact h1.1.symm
structure Z3b (t:Bool) (r:Zb):Prop where
 w:RecW r
 good:t=true → Zcy r
 zero:t=false → r=zrc
def Zl1 (k:Int):Bool:=(((((k == (3:Int)) || (k == (4:Int))) || (k == (9:Int))) || (k == (12:Int))) || (k == (20:Int)))
abbrev KV:=ByteArray × Zb
def toL:shelf_nodeT → List KV
 | .nil=>[]
 | .node k r l rr _=>toL l ++ (k,r) :: toL rr
def Szd:shelf_nodeT → Prop
 | .nil=>True
 | .node k r l rr s=>Szd l ∧ Szd rr ∧ s=(((toL l).length + (toL rr).length + 1:Nat):Int)
def Srt (l:List KV):Prop:=l.Pairwise fun p q=>sLt p.1 q.1=true
theorem Ziw {t:shelf_nodeT} (h:Szd t):Zct t=some ((toL t).length:Int):=by
 cases t with
 | nil=>rfl
 | node k r l rr s =>
  obtain ⟨_,_,h3⟩:=h
  simp [Zct,shelf_nodeT.isNil,shelf_nodeT.un,toL,h3]
  omega
theorem Z90 {k:ByteArray} {x:Zb} {l r:shelf_nodeT} (hl:Szd l) (hr:Szd r) (bl:(toL l).length < 1099511627776) (br:(toL r).length < 1099511627776) :
  Zd9 k x l r=some (.node k x l r (((toL l).length + (toL r).length + 1:Nat):Int)):=by
 unfold Zd9
 rw [Ziw hl,Ziw hr]
 simp only [Option.bind_some,shelf_node.up]
 rw [wr (x:=(toL l).length + (toL r).length) (by omega) (by omega),wr (by omega) (by omega)]
 rfl
theorem Zje {k:ByteArray} {x:Zb} {l r:shelf_nodeT} (hl:Szd l) (hr:Szd r) (bl:(toL l).length < 1099511627776) (br:(toL r).length < 1099511627776) :
  ∃ t,Zd9 k x l r=some t ∧ Szd t ∧ toL t=toL l ++ (k,x) :: toL r:=⟨_,Z90 hl hr bl br,⟨hl,hr,rfl⟩,rfl⟩
def Zor (a b:shelf_nodeT):Bool:=decide (3 * ((toL b).length + 1) < (toL a).length + 1)
theorem Zzx {a b:shelf_nodeT} (ha:Szd a) (hb:Szd b) (ba:(toL a).length < 1099511627776) (bb:(toL b).length < 1099511627776):Zjd a b=some (Zor a b):=by
 unfold Zjd Zor
 rw [Ziw ha,Ziw hb]
 simp only [Option.bind_some]
 rw [wr (x:=((toL b).length:Int) + 1) (by omega) (by omega),wr (x:=((toL a).length:Int) + 1) (by omega) (by omega),wr (by omega) (by omega)]
 congr 1
 apply decide_eq_decide.2
 omega
theorem Zwc {t:shelf_nodeT} (h:0 < (toL t).length):∃ k r l rr s,t=.node k r l rr s:=by
 cases t with
 | nil=>simp [toL] at h
 | node k r l rr s=>exact ⟨k,r,l,rr,s,rfl⟩
theorem Zrb {k:ByteArray} {x:Zb} {l r:shelf_nodeT} (hl:Szd l) (hr:Szd r) (bl:(toL l).length < 1099511627776) (br:(toL r).length < 1099511627776) (bs:(toL l).length + (toL r).length + 1 < 1099511627776) :
  ∃ t,Zi8 k x l r=some t ∧ Szd t ∧ toL t=toL l ++ (k,x) :: toL r:=by
 unfold Zi8
 rw [Zzx hr hl br bl,Zzx hl hr bl br]
 simp only [Option.bind_some]
 by_cases h1:Zor r l=true
 ·have hlen:0 < (toL r).length:=by
   unfold Zor at h1
   have:=of_decide_eq_true h1
   omega
  obtain ⟨rk,rx,rl,rr,rs,rfl⟩:=Zwc hlen
  obtain ⟨s1,s2,s3⟩:=hr
  have e:(toL (shelf_nodeT.node rk rx rl rr rs)).length=(toL rl).length + (toL rr).length + 1:=by simp [toL];omega
  rw [e] at br bs
  simp only [h1,gd_t,shelf_nodeT.un,Option.bind_some,if_true]
  rw [Ziw s1,Ziw s2]
  simp only [Option.bind_some,Bool.true_and]
  by_cases h2:(decide (IntKind.i64.wrap (((toL rl).length:Int) + 1) < IntKind.i64.wrap (2 * IntKind.i64.wrap (((toL rr).length:Int) + 1))))=true
  ·rw [if_pos h2]
   obtain ⟨t1,e1,z1,l1⟩:=Zje (k:=k) (x:=x) hl s1 bl (by omega)
   have b1:(toL t1).length < 1099511627776:=by rw [l1];simp;omega
   obtain ⟨t2,e2,z2,l2⟩:=Zje (k:=rk) (x:=rx) z1 s2 b1 (by omega)
   exact ⟨t2,by rw [e1];simp only [Option.bind_some];rw [e2];rfl,z2,by rw [l2,l1];simp [toL]⟩
  ·rw [if_neg h2]
   have hlen2:0 < (toL rl).length:=by
    rw [wr (x:=((toL rr).length:Int) + 1) (by omega) (by omega),wr (x:=((toL rl).length:Int) + 1) (by omega) (by omega),wr (by omega) (by omega)] at h2
    have:¬ ((toL rl).length:Int) + 1 < 2 * ((toL rr).length + 1):=by simpa using h2
    omega
   obtain ⟨lk,lx,ll,lr,ls,rfl⟩:=Zwc hlen2
   obtain ⟨q1,q2,q3⟩:=s1
   have e':(toL (shelf_nodeT.node lk lx ll lr ls)).length=(toL ll).length + (toL lr).length + 1:=by simp [toL];omega
   rw [e'] at br bs
   simp only [shelf_nodeT.un,Option.bind_some]
   obtain ⟨t1,e1,z1,l1⟩:=Zje (k:=k) (x:=x) hl q1 bl (by omega)
   obtain ⟨t2,e2,z2,l2⟩:=Zje (k:=rk) (x:=rx) q2 s2 (by omega) (by omega)
   have b1:(toL t1).length < 1099511627776:=by rw [l1];simp;omega
   have b2:(toL t2).length < 1099511627776:=by rw [l2];simp;omega
   obtain ⟨t3,e3,z3,l3⟩:=Zje (k:=lk) (x:=lx) z1 z2 b1 b2
   exact ⟨t3,by rw [e1];simp only [Option.bind_some];rw [e2];simp only [Option.bind_some];rw [e3];rfl,z3,by rw [l3,l1,l2];simp [toL]⟩
 ·have h1':Zor r l=false:=by simpa using h1
  simp only [h1',gd_f,Option.bind_some,Bool.false_and,Bool.false_eq_true,if_false]
  by_cases h3:Zor l r=true
  ·have hlen:0 < (toL l).length:=by
    unfold Zor at h3
    have:=of_decide_eq_true h3
    omega
   obtain ⟨rk,rx,rl,rr,rs,rfl⟩:=Zwc hlen
   obtain ⟨s1,s2,s3⟩:=hl
   have e:(toL (shelf_nodeT.node rk rx rl rr rs)).length=(toL rl).length + (toL rr).length + 1:=by simp [toL];omega
   rw [e] at bl bs
   simp only [h3,gd_t,shelf_nodeT.un,Option.bind_some,if_true]
   rw [Ziw s2,Ziw s1]
   simp only [Zct,shelf_nodeT.isNil,if_true,Option.bind_some,Bool.true_and]
   by_cases h2:(decide (IntKind.i64.wrap (((toL rr).length:Int) + 1) < IntKind.i64.wrap (2 * IntKind.i64.wrap (((toL rl).length:Int) + 1))))=true
   ·rw [if_pos h2]
    obtain ⟨t1,e1,z1,l1⟩:=Zje (k:=k) (x:=x) s2 hr (by omega) br
    have b1:(toL t1).length < 1099511627776:=by rw [l1];simp;omega
    obtain ⟨t2,e2,z2,l2⟩:=Zje (k:=rk) (x:=rx) s1 z1 (by omega) b1
    exact ⟨t2,by rw [e1];simp only [Option.bind_some];rw [e2];rfl,z2,by rw [l2,l1];simp [toL]⟩
   ·rw [if_neg h2]
    have hlen2:0 < (toL rr).length:=by
     rw [wr (x:=((toL rl).length:Int) + 1) (by omega) (by omega),wr (x:=((toL rr).length:Int) + 1) (by omega) (by omega),wr (by omega) (by omega)] at h2
     have:¬ ((toL rr).length:Int) + 1 < 2 * ((toL rl).length + 1):=by simpa using h2
     omega
    obtain ⟨lk,lx,ll,lr,ls,rfl⟩:=Zwc hlen2
    obtain ⟨q1,q2,q3⟩:=s2
    have e':(toL (shelf_nodeT.node lk lx ll lr ls)).length=(toL ll).length + (toL lr).length + 1:=by simp [toL];omega
    rw [e'] at bl bs
    simp only [shelf_nodeT.un,Option.bind_some]
    obtain ⟨t1,e1,z1,l1⟩:=Zje (k:=rk) (x:=rx) s1 q1 (by omega) (by omega)
    obtain ⟨t2,e2,z2,l2⟩:=Zje (k:=k) (x:=x) q2 hr (by omega) br
    have b1:(toL t1).length < 1099511627776:=by rw [l1];simp;omega
    have b2:(toL t2).length < 1099511627776:=by rw [l2];simp;omega
    obtain ⟨t3,e3,z3,l3⟩:=Zje (k:=lk) (x:=lx) z1 z2 b1 b2
    exact ⟨t3,by rw [e1];simp only [Option.bind_some];rw [e2];simp only [Option.bind_some];rw [e3];rfl,z3,by rw [l3,l1,l2];simp [toL]⟩
  ·have h3':Zor l r=false:=by simpa using h3
   simp only [h3',gd_f,Option.bind_some,Bool.false_and,Bool.false_eq_true,if_false]
   obtain ⟨t1,e1,z1,l1⟩:=Zje (k:=k) (x:=x) hl hr bl br
   exact ⟨t1,by rw [e1];simp [Zct,shelf_nodeT.isNil,shelf_nodeT.un,Option.bind_some,gd],z1,l1⟩
def insL (k:ByteArray) (x:Zb):List KV → List KV
 | []=>[(k,x)]
 | p :: l=>if sLt k p.1 then (k,x) :: p :: l else if sEq k p.1 then (k,x) :: l else p :: insL k x l
def delL (k:ByteArray):List KV → List KV
 | []=>[]
 | p :: l=>if sEq k p.1 then l else p :: delL k l
theorem Zp5 (k:ByteArray) (x:Zb):∀ l:List KV,(insL k x l).length ≤ l.length + 1
 | []=>by simp [insL]
 | p :: l=>by
  have:=Zp5 k x l
  simp only [insL]
  split
  ·simp
  ·split <;> simp <;> omega
theorem Zod (k:ByteArray):∀ l:List KV,(delL k l).length ≤ l.length
 | []=>by simp [delL]
 | p :: l=>by
  have:=Zod k l
  simp only [delL]
  split <;> simp <;> omega
theorem Z3h {k:ByteArray} {x:Zb} {p:KV} {B:List KV} (h:sLt k p.1=true):∀ A:List KV,insL k x (A ++ p :: B)=insL k x A ++ p :: B
 | []=>by simp [insL,h]
 | q :: A=>by
  simp only [List.cons_append,insL]
  split
  ·rfl
  ·split
   ·rfl
   ·rw [Z3h h A];rfl
theorem Zsz {k:ByteArray} {x:Zb} {B:List KV}:∀ A:List KV,(∀ q ∈ A,sLt q.1 k=true) → insL k x (A ++ B)=A ++ insL k x B
 | [],_=>rfl
 | q :: A,h=>by
  have hq:=h q (by simp)
  have h1:sLt k q.1=false:=Zvc hq
  have h2:sEq k q.1=false:=Ze9.2 (fun e=>Znl hq e.symm)
  simp only [List.cons_append,insL,h1,h2,Bool.false_eq_true,if_false]
  rw [Zsz A fun q hq=>h q (by simp [hq])]
theorem Z98 {k:ByteArray} {x:Zb} {p:KV} {B:List KV} (h:k=p.1):insL k x (p :: B)=(k,x) :: B:=by
 simp [insL,h,Zir,Zc6]
theorem Zbak {k:ByteArray} {x:Zb} {p:KV} {B:List KV} (h:sLt p.1 k=true):insL k x (p :: B)=p :: insL k x B:=by
 have h1:sLt k p.1=false:=Zvc h
 have h2:sEq k p.1=false:=Ze9.2 (fun e=>Znl h e.symm)
 simp [insL,h1,h2]
theorem Zrn {k:ByteArray}:∀ l:List KV,(∀ q ∈ l,q.1 ≠ k) → delL k l=l
 | [],_=>rfl
 | p :: l,h=>by
  have:sEq k p.1=false:=Ze9.2 (fun e=>h p (by simp) e.symm)
  simp only [delL,this,Bool.false_eq_true,if_false]
  rw [Zrn l fun q hq=>h q (by simp [hq])]
theorem Z3d {k:ByteArray} {p:KV} {B:List KV} (h:sLt k p.1=true) (hB:∀ q ∈ B,sLt p.1 q.1=true):∀ A:List KV,delL k (A ++ p :: B)=delL k A ++ p :: B
 | []=>by
  have h1:sEq k p.1=false:=Ze9.2 (Znl h)
  simp only [List.nil_append,delL,h1,Bool.false_eq_true,if_false]
  rw [Zrn B fun q hq e=>by
   have:=Zgp h (hB q hq)
   rw [e,Zir] at this;cases this]
 | q :: A=>by
  simp only [List.cons_append,delL]
  split
  ·rfl
  ·rw [Z3d h hB A];rfl
theorem Zs3 {k:ByteArray} {B:List KV}:∀ A:List KV,(∀ q ∈ A,sLt q.1 k=true) → delL k (A ++ B)=A ++ delL k B
 | [],_=>rfl
 | q :: A,h=>by
  have hq:=h q (by simp)
  have h2:sEq k q.1=false:=Ze9.2 (fun e=>Znl hq e.symm)
  simp only [List.cons_append,delL,h2,Bool.false_eq_true,if_false]
  rw [Zs3 A fun q hq=>h q (by simp [hq])]
theorem Zw1 {A B:List KV} {p:KV} (h:Srt (A ++ p :: B)):Srt A ∧ Srt B ∧ (∀ q ∈ A,sLt q.1 p.1=true) ∧ (∀ q ∈ B,sLt p.1 q.1=true):=by
 obtain ⟨h1,h2,h3⟩:=List.pairwise_append.1 h
 obtain ⟨h4,h5⟩:=List.pairwise_cons.1 h2
 exact ⟨h1,h5,fun q hq=>h3 q hq p (by simp),h4⟩
theorem Zqx {k:ByteArray} {x:Zb}:∀ {l:List KV} {q:KV},q ∈ insL k x l → q=(k,x) ∨ q ∈ l
 | [],q,h=>by simp [insL] at h;exact .inl h
 | p :: l,q,h=>by
  simp only [insL] at h
  split at h
  ·rcases List.mem_cons.1 h with h | h
   ·exact .inl h
   ·exact .inr h
  ·split at h
   ·rcases List.mem_cons.1 h with h | h
    ·exact .inl h
    ·exact .inr (List.mem_cons_of_mem _ h)
   ·rcases List.mem_cons.1 h with h | h
    ·exact .inr (by simp [h])
    ·rcases Zqx h with h | h
     ·exact .inl h
     ·exact .inr (List.mem_cons_of_mem _ h)
theorem Zn8 {k:ByteArray}:∀ {l:List KV} {q:KV},q ∈ delL k l → q ∈ l
 | [],q,h=>by simp [delL] at h
 | p :: l,q,h=>by
  simp only [delL] at h
  split at h
  ·exact List.mem_cons_of_mem _ h
  ·rcases List.mem_cons.1 h with h | h
   ·simp [h]
   ·exact List.mem_cons_of_mem _ (Zn8 h)
theorem Zt9 {k:ByteArray} {x:Zb}:∀ {l:List KV},Srt l → Srt (insL k x l)
 | [],_=>List.pairwise_singleton ..
 | p :: l,h=>by
  obtain ⟨h1,h2⟩:=List.pairwise_cons.1 h
  simp only [insL]
  split
  ·rename_i hk
   refine List.pairwise_cons.2 ⟨fun q hq=>?_,h⟩
   rcases List.mem_cons.1 hq with rfl | hq
   ·exact hk
   ·exact Zgp hk (h1 q hq)
  ·rename_i hk
   split
   ·rename_i he
    have he:=Zdn.1 he
    exact List.pairwise_cons.2 ⟨fun q hq=>by rw [he];exact h1 q hq,h2⟩
   ·rename_i he
    have hlt:sLt p.1 k=true:=Zm9 (by simpa using hk) (fun e=>he (Zdn.2 e))
    refine List.pairwise_cons.2 ⟨fun q hq=>?_,Zt9 h2⟩
    rcases Zqx hq with rfl | hq
    ·exact hlt
    ·exact h1 q hq
theorem Ztw {k:ByteArray}:∀ {l:List KV},Srt l → Srt (delL k l)
 | [],h=>h
 | p :: l,h=>by
  obtain ⟨h1,h2⟩:=List.pairwise_cons.1 h
  simp only [delL]
  split
  ·exact h2
  ·exact List.pairwise_cons.2 ⟨fun q hq=>h1 q (Zn8 hq),Ztw h2⟩
theorem Z0w:∀ (n:Nat) (t:shelf_nodeT) (k:ByteArray) (x:Zb),t.hh < n → Szd t → Srt (toL t) → (toL t).length + 2 < 1099511627776 →
  ∃ t',Zf5 n t k x=some t' ∧ Szd t' ∧ toL t'=insL k x (toL t)
 | 0,t,k,x,h,_,_,_=>by omega
 | n + 1,.nil,k,x,_,_,_,_=>by
  obtain ⟨t1,e1,z1,l1⟩:=Zje (k:=k) (x:=x) (l:=.nil) (r:=.nil) trivial trivial (by simp [toL]) (by simp [toL])
  refine ⟨t1,?_,z1,by rw [l1];rfl⟩
  simp only [Zf5,Zjq,shelf_nodeT.isNil,if_true]
  rw [e1];rfl
 | n + 1,.node nk nx l r s,k,x,hh,hz,hs,hb=>by
  obtain ⟨z1,z2,z3⟩:=hz
  simp only [toL] at hs hb
  obtain ⟨s1,s2,sA,sB⟩:=Zw1 hs
  have hlen:(toL l ++ (nk,nx) :: toL r).length=(toL l).length + (toL r).length + 1:=by simp;omega
  rw [hlen] at hb
  simp only [shelf_nodeT.hh] at hh
  simp only [Zf5,Zjq,shelf_nodeT.isNil,shelf_nodeT.un,Bool.false_eq_true,if_false,Option.bind_some]
  by_cases h1:sLt k nk=true
  ·rw [if_pos h1]
   obtain ⟨t1,e1,y1,l1⟩:=Z0w n l k x (by omega) z1 s1 (by omega)
   have b1:=Zp5 k x (toL l)
   rw [← l1] at b1
   obtain ⟨t2,e2,y2,l2⟩:=Zrb (k:=nk) (x:=nx) y1 z2 (by omega) (by omega) (by omega)
   refine ⟨t2,by rw [e1];simp only [Option.bind_some];rw [e2];rfl,y2,?_⟩
   rw [l2,l1];simp only [toL];rw [Z3h (by exact h1)]
  ·rw [if_neg h1]
   by_cases h2:k=nk
   ·subst h2
    have he:(!(sLt k k || sEq k k))=false:=by simp [Zc6]
    rw [he]
    simp only [Bool.false_eq_true,if_false]
    obtain ⟨t1,e1,y1,l1⟩:=Zje (k:=k) (x:=x) z1 z2 (by omega) (by omega)
    refine ⟨t1,by rw [e1];rfl,y1,?_⟩
    rw [l1];simp only [toL]
    rw [Zsz _ (fun q hq=>sA q hq),Z98 rfl]
   ·have h3:sLt nk k=true:=Zm9 (by simpa using h1) h2
    have he:(!(sLt k nk || sEq k nk))=true:=by simp [Ze9.2 h2];simpa using h1
    rw [he]
    simp only [if_true]
    obtain ⟨t1,e1,y1,l1⟩:=Z0w n r k x (by omega) z2 s2 (by omega)
    have b1:=Zp5 k x (toL r)
    rw [← l1] at b1
    obtain ⟨t2,e2,y2,l2⟩:=Zrb (k:=nk) (x:=nx) z1 y1 (by omega) (by omega) (by omega)
    refine ⟨t2,by rw [e1];simp only [Option.bind_some];rw [e2];rfl,y2,?_⟩
    rw [l2,l1];simp only [toL]
    rw [Zsz _ (fun q hq=>Zgp (sA q hq) h3),Zbak h3]
theorem Z3m {t:shelf_nodeT} {k:ByteArray} {x:Zb} (hz:Szd t) (hs:Srt (toL t)) (hb:(toL t).length + 2 < 1099511627776) :
  ∃ t',Zoc t k x=some t' ∧ Szd t' ∧ toL t'=insL k x (toL t):=Z0w _ t k x (Nat.lt_succ_self _) hz hs hb
theorem Z0y:∀ (n:Nat) (t:shelf_nodeT),t.hh < n → t.isNil=false → ∃ t' k x l r s B,Zf0 n t=some t' ∧ t'=.node k x l r s ∧ toL t=(k,x) :: B
 | 0,t,h,_=>by omega
 | n + 1,.nil,_,h=>by cases h
 | n + 1,.node k x l r s,hh,_=>by
  simp only [shelf_nodeT.hh] at hh
  simp only [Zf0,shelf_nodeT.un,Option.bind_some]
  cases l with
  | nil=>exact ⟨_,k,x,.nil,r,s,toL r,rfl,rfl,rfl⟩
  | node k2 x2 l2 r2 s2 =>
   obtain ⟨t',k',x',l',r',s',B,e1,e2,e3⟩:=Z0y n (.node k2 x2 l2 r2 s2) (by omega) rfl
   exact ⟨t',k',x',l',r',s',B ++ (k,x) :: toL r,by simp [shelf_nodeT.isNil];exact e1,e2,by
    simp only [toL] at e3 ⊢
    rw [e3];rfl⟩
theorem Zws:∀ (n:Nat) (t:shelf_nodeT) (k:ByteArray),t.hh < n → Szd t → Srt (toL t) → (toL t).length + 2 < 1099511627776 →
  ∃ t',Zgz n t k=some t' ∧ Szd t' ∧ toL t'=delL k (toL t)
 | 0,t,k,h,_,_,_=>by omega
 | n + 1,.nil,k,_,_,_,_=>⟨.nil,rfl,trivial,rfl⟩
 | n + 1,.node nk nx l r s,k,hh,hz,hs,hb=>by
  obtain ⟨z1,z2,z3⟩:=hz
  simp only [toL] at hs hb
  obtain ⟨s1,s2,sA,sB⟩:=Zw1 hs
  have hlen:(toL l ++ (nk,nx) :: toL r).length=(toL l).length + (toL r).length + 1:=by simp;omega
  rw [hlen] at hb
  simp only [shelf_nodeT.hh] at hh
  simp only [Zgz,Zla,shelf_nodeT.isNil,shelf_nodeT.un,Bool.false_eq_true,if_false,Option.bind_some]
  by_cases h1:sLt k nk=true
  ·rw [if_pos h1]
   obtain ⟨t1,e1,y1,l1⟩:=Zws n l k (by omega) z1 s1 (by omega)
   have b1:=Zod k (toL l)
   rw [← l1] at b1
   obtain ⟨t2,e2,y2,l2⟩:=Zrb (k:=nk) (x:=nx) y1 z2 (by omega) (by omega) (by omega)
   refine ⟨t2,by rw [e1];simp only [Option.bind_some];rw [e2];rfl,y2,?_⟩
   rw [l2,l1];simp only [toL];rw [Z3d (by exact h1) (fun q hq=>sB q hq)]
  ·rw [if_neg h1]
   by_cases h2:k=nk
   ·subst h2
    have he:(!(sLt k k || sEq k k))=false:=by simp [Zc6]
    rw [he]
    simp only [Bool.false_eq_true,if_false]
    have hdel:delL k (toL l ++ (k,nx) :: toL r)=toL l ++ toL r:=by
     rw [Zs3 _ (fun q hq=>sA q hq)]
     simp [delL,Zc6]
    cases hl:l with
    | nil=>exact ⟨r,by simp [shelf_nodeT.isNil,shelf_nodeT.un],z2,by show toL r=delL k (toL .nil ++ (k,nx) :: toL r);rw [← hl,hdel,hl];rfl⟩
    | node k2 x2 l2 r2 q2 =>
     cases hr:r with
     | nil=>exact ⟨l,by simp [shelf_nodeT.isNil,shelf_nodeT.un,hl],z1,by rw [← hl,← hr];show toL l=delL k (toL l ++ (k,nx) :: toL r);rw [hdel,hr];simp [toL]⟩
     | node k3 x3 l3 r3 q3 =>
      rw [← hl,← hr]
      have hn:r.isNil=false:=by rw [hr];rfl
      have hn1:l.isNil=false:=by rw [hl];rfl
      obtain ⟨t',k',x',l',r',s',B,e1,e2,e3⟩:=Z0y (r.hh + 1) r (Nat.lt_succ_self _) hn
      subst e2
      have hf:Zjn r=some (.node k' x' l' r' s'):=by
       unfold Zjn;rw [e1];rfl
      obtain ⟨t1,c1,y1,l1⟩:=Zws n r k' (by omega) z2 s2 (by omega)
      have hB:toL t1=B:=by rw [l1,e3];simp [delL,Zc6]
      have hBl:B.length + 1=(toL r).length:=by rw [e3];simp
      obtain ⟨t2,c2,y2,l2⟩:=Zrb (k:=k') (x:=x') z1 y1 (by omega) (by rw [hB];omega) (by rw [hB];omega)
      refine ⟨t2,?_,y2,?_⟩
      ·simp only [hf,Option.bind_some,shelf_nodeT.un,c1,c2]
       show (if l.isNil=true then some r else if r.isNil=true then some l else some t2)=some t2
       rw [hn,hn1];rfl
      ·show toL t2=delL k (toL l ++ (k,nx) :: toL r)
       rw [hdel,l2,hB,e3]
   ·have h3:sLt nk k=true:=Zm9 (by simpa using h1) h2
    have he:(!(sLt k nk || sEq k nk))=true:=by simp [Ze9.2 h2];simpa using h1
    rw [he]
    simp only [if_true]
    obtain ⟨t1,e1,y1,l1⟩:=Zws n r k (by omega) z2 s2 (by omega)
    have b1:=Zod k (toL r)
    rw [← l1] at b1
    obtain ⟨t2,e2,y2,l2⟩:=Zrb (k:=nk) (x:=nx) z1 y1 (by omega) (by omega) (by omega)
    refine ⟨t2,by rw [e1];simp only [Option.bind_some];rw [e2];rfl,y2,?_⟩
    rw [l2,l1];simp only [toL]
    rw [Zs3 _ (fun q hq=>Zgp (sA q hq) h3)]
    simp [delL,Ze9.2 h2]
theorem Z27 {t:shelf_nodeT} {k:ByteArray} (hz:Szd t) (hs:Srt (toL t)) (hb:(toL t).length + 2 < 1099511627776) :
  ∃ t',Zoe t k=some t' ∧ Szd t' ∧ toL t'=delL k (toL t):=Zws _ t k (Nat.lt_succ_self _) hz hs hb
def lk (k:ByteArray):List KV → Option Zb
 | []=>none
 | p :: l=>if sEq k p.1 then some p.2 else lk k l
def rk (k:ByteArray):List KV → Nat
 | []=>0
 | p :: l=>if sLt p.1 k then rk k l + 1 else 0
theorem Zl6 {k:ByteArray}:∀ {l:List KV},(∀ q ∈ l,q.1 ≠ k) → lk k l=none
 | [],_=>rfl
 | p :: l,h=>by
  have:sEq k p.1=false:=Ze9.2 (fun e=>h p (by simp) e.symm)
  simp only [lk,this,Bool.false_eq_true,if_false]
  exact Zl6 fun q hq=>h q (by simp [hq])
theorem Z8g {k:ByteArray} {p:KV} {B:List KV} (h:sLt k p.1=true) (hB:∀ q ∈ B,sLt p.1 q.1=true):∀ A:List KV,lk k (A ++ p :: B)=lk k A
 | []=>by
  have h1:sEq k p.1=false:=Ze9.2 (Znl h)
  simp only [List.nil_append,lk,h1,Bool.false_eq_true,if_false]
  exact Zl6 fun q hq e=>by
   have:=Zgp h (hB q hq)
   rw [e,Zir] at this;cases this
 | q :: A=>by
  simp only [List.cons_append,lk]
  split
  ·rfl
  ·exact Z8g h hB A
theorem Zxo {k:ByteArray} {B:List KV}:∀ A:List KV,(∀ q ∈ A,sLt q.1 k=true) → lk k (A ++ B)=lk k B
 | [],_=>rfl
 | q :: A,h=>by
  have hq:=h q (by simp)
  have h2:sEq k q.1=false:=Ze9.2 (fun e=>Znl hq e.symm)
  simp only [List.cons_append,lk,h2,Bool.false_eq_true,if_false]
  exact Zxo A fun q hq=>h q (by simp [hq])
theorem Zts (k:ByteArray):∀ l:List KV,rk k l ≤ l.length
 | []=>by simp [rk]
 | p :: l=>by
  have:=Zts k l
  simp only [rk]
  split <;> simp <;> omega
def Cl (x:Zb):Prop:=x.List.length ≤ 1000
theorem Zrq {x:Zb} (h:Cl x):Zey x=some x:=by
 unfold Zey Zbw
 unfold Cl at h
 rw [if_pos (by omega)]
 rfl
abbrev zrec:Zb:={ Kind:=0,Num:=0,Low:=0,High:=0,Real:=0,Cap:=0,Text:=ByteArray.empty,List:=[] }
def getR:Option Zb → Zb × Bool
 | some r=>(r,true)
 | none=>(zrec,false)
def getE (x:Zb):Option Zb → (Zb × Bool) ⊕ Zb
 | some r=>.inl (r,true)
 | none=>.inr x
theorem Zvk (k:ByteArray) (x:Zb):∀ (n:Nat) (t:shelf_nodeT),t.hh < n → Srt (toL t) → (∀ q ∈ toL t,Cl q.2) → Zeq k n x t=some (getE x (lk k (toL t)))
 | 0,t,h,_,_=>by omega
 | n + 1,.nil,_,_,_=>rfl
 | n + 1,.node nk nx l r s,hh,hs,hc=>by
  simp only [toL] at hs hc
  obtain ⟨s1,s2,sA,sB⟩:=Zw1 hs
  simp only [shelf_nodeT.hh] at hh
  simp only [Zeq,shelf_nodeT.isNil,shelf_nodeT.un,Bool.not_false,if_true,Option.bind_some,Zij,toL]
  by_cases h1:sLt k nk=true
  ·rw [if_pos h1,Zvk k x n l (by omega) s1 (fun q hq=>hc q (by simp [hq])),Z8g (by exact h1) (fun q hq=>sB q hq)]
  ·rw [if_neg h1]
   by_cases h2:k=nk
   ·subst h2
    have he:(!(sLt k k || sEq k k))=false:=by simp [Zc6]
    rw [he]
    simp only [Bool.false_eq_true,if_false]
    rw [Zrq (hc (k,nx) (by simp)),Zxo _ (fun q hq=>sA q hq)]
    simp [lk,Zc6,getE]
   ·have h3:sLt nk k=true:=Zm9 (by simpa using h1) h2
    have he:(!(sLt k nk || sEq k nk))=true:=by simp [Ze9.2 h2];simpa using h1
    rw [he]
    simp only [if_true]
    rw [Zvk k x n r (by omega) s2 (fun q hq=>hc q (by simp [hq])),Zxo _ (fun q hq=>Zgp (sA q hq) h3)]
    simp [lk,Ze9.2 h2]
theorem Zbax {s:Zk} {k:ByteArray} (hs:Srt (toL s.top)) (hc:∀ q ∈ toL s.top,Cl q.2):Zei s k=some (getR (lk k (toL s.top))):=by
 unfold Zei
 rw [Zvk k _ _ _ (Nat.lt_succ_self _) hs hc]
 cases lk k (toL s.top) <;> rfl
def atE (x:Zb):Option KV → (ByteArray × Zb × Bool) ⊕ Zb
 | some p=>.inl (p.1,p.2,true)
 | none=>.inr x
theorem Z4m {α:Type} {A B:List α} {i:Int} (h:i < A.length):idx (A ++ B) i=idx A i:=by
 unfold idx
 split
 ·rw [List.getElem?_append_left (by omega)]
 ·rfl
theorem Z2k {α:Type} {A B:List α} {p:α}:idx (A ++ p :: B) (A.length:Int)=some p:=by
 rw [idxn];simp
theorem Z4j {α:Type} {A B:List α} {p:α} {i:Int} (h:(A.length:Int) < i):idx (A ++ p :: B) i=idx B (i - (A.length + 1)):=by
 unfold idx
 rw [if_pos (by omega),if_pos (by omega),List.getElem?_append_right (by omega)]
 rw [show i.toNat - A.length=(i - (A.length + 1)).toNat + 1 by omega,List.getElem?_cons_succ]
theorem Zw5 (x:Zb):∀ (n:Nat) (t:shelf_nodeT) (i:Int),t.hh < n → Szd t → (toL t).length + 2 < 1099511627776 → -1099511627776 < i → i < 1099511627776 → (∀ q ∈ toL t,Cl q.2) → Zea n i x t=some (atE x (idx (toL t) i))
 | 0,t,i,h,_,_,_,_,_=>by omega
 | n + 1,.nil,i,_,_,_,_,_,_=>by
  simp only [Zea,shelf_nodeT.isNil,toL]
  have hn:idx ([]:List KV) i=none:=by
   unfold idx
   split <;> simp
  rw [hn]
  rfl
 | n + 1,.node nk nx l r s,i,hh,hz,hb,i1,i2,hc=>by
  obtain ⟨z1,z2,z3⟩:=hz
  simp only [toL] at hb hc
  have hlen:(toL l ++ (nk,nx) :: toL r).length=(toL l).length + (toL r).length + 1:=by simp;omega
  rw [hlen] at hb
  simp only [shelf_nodeT.hh] at hh
  simp only [Zea,shelf_nodeT.isNil,shelf_nodeT.un,Bool.not_false,if_true,Option.bind_some,Ziz,toL]
  rw [Ziw z1]
  simp only [Option.bind_some]
  by_cases h1:i < (toL l).length
  ·rw [if_pos (by simpa using h1),Zw5 x n l i (by omega) z1 (by omega) i1 i2 (fun q hq=>hc q (by simp [hq])),Z4m h1]
  ·rw [if_neg (by simpa using h1)]
   by_cases h2:((toL l).length:Int) < i
   ·rw [if_pos (by simpa using h2),wr (x:=((toL l).length:Int) + 1) (by omega) (by omega),wr (by omega) (by omega),Zw5 x n r _ (by omega) z2 (by omega) (by omega) (by omega) (fun q hq=>hc q (by simp [hq])),Z4j h2]
   ·rw [if_neg (by simpa using h2),Zrq (hc (nk,nx) (by simp))]
    have:i=(toL l).length:=by omega
    subst this
    rw [Z2k];rfl
def atR:Option KV → ByteArray × Zb × Bool
 | some p=>(p.1,p.2,true)
 | none=>(⟨#[]⟩,zrec,false)
theorem Z4g {s:Zk} {i:Int} (hz:Szd s.top) (hb:(toL s.top).length + 2 < 1099511627776) (i1:-1099511627776 < i) (i2:i < 1099511627776) (hc:∀ q ∈ toL s.top,Cl q.2):Zh2 s i=some (atR (idx (toL s.top) i)):=by
 unfold Zh2
 rw [Zw5 _ _ _ _ (Nat.lt_succ_self _) hz hb i1 i2 hc]
 cases idx (toL s.top) i <;> rfl
theorem Zld {k:ByteArray} (x:Zb):∀ {l:List KV},Srt l →
  (∃ p,l[rk k l]?=some p ∧ p.1=k ∧ lk k l=some p.2 ∧ insL k x l=l.take (rk k l) ++ (k,x) :: l.drop (rk k l + 1) ∧ delL k l=l.take (rk k l) ++ l.drop (rk k l + 1)) ∨
  ((∀ p,l[rk k l]?=some p → p.1 ≠ k) ∧ lk k l=none ∧ insL k x l=l.take (rk k l) ++ (k,x) :: l.drop (rk k l) ∧ delL k l=l)
 | [],_=>.inr ⟨fun p h=>by simp at h,rfl,rfl,rfl⟩
 | p :: l,hs=>by
  obtain ⟨h1,h2⟩:=List.pairwise_cons.1 hs
  by_cases h:sLt p.1 k=true
  ·have e1:sLt k p.1=false:=Zvc h
   have e2:sEq k p.1=false:=Ze9.2 (fun e=>Znl h e.symm)
   simp only [rk,h,if_true,lk,insL,delL,e1,e2,Bool.false_eq_true,if_false,List.getElem?_cons_succ,List.take_succ_cons,List.drop_succ_cons]
   rcases Zld x h2 with ⟨q,a1,a2,a3,a4,a5⟩ | ⟨a1,a2,a3,a4⟩
   ·exact .inl ⟨q,a1,a2,a3,by rw [a4];rfl,by rw [a5];rfl⟩
   ·exact .inr ⟨a1,a2,by rw [a3];rfl,by rw [a4]⟩
  ·have h':sLt p.1 k=false:=by simpa using h
   simp only [rk,h',Bool.false_eq_true,if_false]
   by_cases he:k=p.1
   ·left
    exact ⟨p,rfl,he.symm,by simp [lk,he,Zc6],by simp [insL,he,Zir,Zc6],by simp [delL,he,Zc6]⟩
   ·right
    have hlt:sLt k p.1=true:=Zm9 h' (fun e=>he e.symm)
    have hne:∀ q ∈ l,q.1 ≠ k:=fun q hq e=>by
     have:=Zgp hlt (h1 q hq)
     rw [e,Zir] at this;cases this
    refine ⟨fun q hq e=>?_,?_,by simp [insL,hlt],?_⟩
    ·simp at hq;subst hq;exact he e.symm
    ·simp only [lk,Ze9.2 he,Bool.false_eq_true,if_false];exact Zl6 hne
    ·simp only [delL,Ze9.2 he,Bool.false_eq_true,if_false];rw [Zrn l hne]
end Go.CL
