/- A part of the proof of HandApart. -/
import Derived.Test.YtlanlccmokaajaaGreatDoorHandApartC6
import Derived.KernelRfl
import Derived.Laws.Strings
set_option linter.unusedVariables false
set_option linter.unusedSimpArgs false
set_option maxRecDepth 100000
namespace Go.CL
open Go Go.RowKit Go.Proofs
theorem Zqu (a0:Zf) (a1:ByteArray) {r:Zf × Bool} (h:Zhp a0 a1=some r):FnOk Tryz.prog 67 [(Z7.pd a0),(pStr a1)] (pTup [(Z7.pd r.1),(Zbf r.2)]):=by
 have H0:=h
 unfold Zhp at H0
 clear h
 refine Zbs (N:=43) Tryz.func67 rfl rfl (Qe rfl) rfl rfl (fun a g0 hst hb=>?_)
 refine r_s (T:=[⟨[.o 0],_,[],[],[2]⟩,⟨[],[(4,(pBox Z7 4 (default:Zf)))],[5],[],[4]⟩,⟨[],_,[],[],[5]⟩]) (F:=[.o 1,.p 0 0,.p 1 0]) hst hb Za
  (Qb rfl u_0<|o_p rfl (Zbi (zs:=[.slice none 0 0,.int .i64 0]) (by kernel_rfl) (fun g=>Zeg g) rfl rfl)<|Qa rfl c_b<|o_n) (fun a g hst hb=>?_)
 obtain ⟨r1,h2,H0⟩:=Zc H0
 refine r_s (T:=[⟨[.o 1],_,[],[],[8]⟩,⟨[.o 0],_,[],[],[9]⟩,⟨[.p 0 0,.p 1 0],_,[],[0,1],[10]⟩,⟨[.p 2 0],_,[],[0,1,2],[6]⟩]) (F:=[.o 0,.o 1,.o 2,.p 3 0]) hst hb Za
  (Ql rfl Zco u_0<|Qm rfl u_0<|o_p rfl (Zl Z5h (Zjv _ _ h2) rfl rfl (.cons u_0 (.cons u_1 .nil)))<|Qa rfl u_0<|o_n) (fun a g hst hb=>?_)
 refine wp_seq ?_
 obtain ⟨e3,h4,H0⟩:=Zc H0
 refine r_s (T:=⟨[.o 3],_,[],[],[11]⟩ :: ⟨[.o 1],_,[],[],[12]⟩ :: ⟨[.p 1 0],_,[],[1],[13]⟩ :: ⟨[.p 2 0],_,[],[1,2],[14]⟩ :: ⟨[.p 0 0,.p 3 0],_,[],Lr 4,[15]⟩ :: ⟨[.p 4 0],_,[],Lr 5,[16]⟩ :: ⟨[.p 5 0,.o 1],_,[],Lr 6,[17]⟩ :: ⟨[.p 5 0,.p 6 0],_,[],Lr 7,[18]⟩ :: ⟨[.p 5 0,.o 3],_,[],Lr 6,[19]⟩ :: ⟨[.p 5 0,.p 7 0,.p 8 0],_,[],Lr 9,[20]⟩ :: ⟨[.p 5 0,.p 9 0],_,[],Lr 10,[21]⟩ :: ⟨[.p 5 0,.p 10 0],_,[],Lr 11,[22]⟩ :: ⟨[.p 5 0,.o 0],_,[],Lr 6,[23]⟩ :: ⟨[.p 5 0,.p 11 0,.p 12 0],_,[],Lr 13,[24]⟩ :: ⟨[.p 5 0,.p 13 0],_,[],Lr 14,[25]⟩ :: []) (F:=[.o 1,.o 2,.o 3,.p 14 0]) hst hb Za
  (Qm rfl u_0<|Qf rfl Zhq u_0<|Ql rfl Zkz u_0<|o_p rfl (Zbx Tryz.underlying22 rfl rfl u_0)<|o_p rfl (Zmx rfl rfl u_0 u_1)<|Qm rfl u_0<|o_g (Qg_f rfl (fun hG=>Zi Zhq rfl rfl u_0))<|o_g (Qg_f rfl (fun hG=>Zv Zkz rfl rfl (Opd.gd hG u_0)))<|o_g (Qg_f rfl (fun hG=>Z6 rfl rfl u_0))<|o_g (Qg_f rfl (fun hG=>Zbl Tryz.underlying22 Zoa rfl rfl (Opd.gd hG u_0) (Opd.gd hG u_1) (Zbn h4 hG)))<|o_g (Qg_f rfl (fun hG=>Zi Znz rfl rfl (Opd.gd hG u_0)))<|o_g (Qg_f rfl (fun hG=>Zv ty_9 rfl rfl (Opd.gd hG u_0)))<|o_g (Qg_f rfl (fun hG=>Z6 rfl rfl u_0))<|o_g (Qg_f rfl (fun hG=>Zpg rfl rfl (Opd.gd hG u_0) (Opd.gd hG u_1)))<|o_p rfl (Zbp rfl rfl u_0 (fun hz=>(Opd.gd (bNF hz) u_1)))<|o_n) (fun a g hst hb=>?_)
 refine wp_cond_split (hst.bool 3 rfl) (fun hc5=>?_) (fun hc5=>?_)
 ·replace H0:=Zu hc5 H0
  refine r_s (L:=[(2,_),(4,_)]) (T:=[⟨[.o 0],_,[],[],[26]⟩,⟨[.p 0 0,.o 1],_,[5],[0],[4]⟩,⟨[],_,[],[0,1],[5]⟩]) (F:=[.p 1 0,.p 2 0]) (hst.pick [0,1] rfl) hb Za
   (Ql rfl Zco u_0<|o_p rfl (Z3 Zco rfl rfl u_1 u_0)<|Qa rfl c_b<|o_n) (fun a g hst hb=>?_)
  refine wp_ret ?_
  refine Zo ?_
  obtain rfl:=Option.some.inj H0
  obtain ⟨u0,hu0,hq0⟩:=Zbh (P:=Tryz.prog) Zco (hst.at 0 rfl)
  exact Zdw rfl hst hb hu0 (Zg (s:=5)) (Zcw hq0 (hst.at 1 rfl))
 ·replace H0:=Zt hc5 H0
  refine wp_skip ?_
  refine Zp ?_
  obtain ⟨c6,h7,H0⟩:=Zc H0;obtain ⟨h8,H0⟩:=Zfv H0
  refine r_s (L:=[(2,_),(4,_),(6,_)]) (T:=[⟨[],_,[28],[],[27]⟩,⟨[.o 0],_,[],[],[28]⟩,⟨[.p 1 0],_,[],[1],[29]⟩,⟨[.o 2],_,[],[],[30]⟩,⟨[.p 2 0,.p 3 0],_,[],[1,2,3],[31]⟩,⟨[.p 0 0,.p 4 0],_,[28],Lr 5,[27,32]⟩,⟨[.p 5 0],_,[],Lr 6,[7]⟩]) (F:=[.o 0,.o 1,.o 2,.p 6 0]) (hst.pick [0,1,2] rfl) hb Za
   (o_p rfl (Zkx 27 Zrc (xs:=[]) .nil (by decide) rfl rfl)<|Qf rfl Zhq u_0<|Ql rfl Zkz u_0<|Qm rfl u_0<|o_p rfl (Zvi Tryz.underlying22 Zoa rfl rfl u_0 u_1 h7)<|o_p rfl (Zfq Zrc rfl rfl u_0 u_1 h8)<|Qa rfl u_0<|o_n) (fun a g hst hb=>?_)
  obtain ⟨c9,h10,H0⟩:=Zc H0;obtain ⟨h11,H0⟩:=Zfv H0
  refine r_s (T:=⟨[.o 3],_,[],[],[33]⟩ :: ⟨[.o 0],_,[],[],[34]⟩ :: ⟨[.p 1 0],_,[],[1],[35]⟩ :: ⟨[.o 2],_,[],[],[36]⟩ :: ⟨[.p 3 0],_,[],[3],[37]⟩ :: ⟨[.p 2 0,.p 4 0],_,[],List.range' 1 4,[38]⟩ :: ⟨[.p 0 0,.p 5 0],_,[28],Lr 6,[7,33,39]⟩ :: ⟨[.o 0],_,[],[],[40]⟩ :: ⟨[.p 7 0],_,[],[7],[41]⟩ :: ⟨[.p 6 0,.p 8 0],_,[],Lr 9,[42]⟩ :: ⟨[.p 9 0,.o 1],_,[5],Lr 10,[4]⟩ :: ⟨[],_,[],Lr 11,[5]⟩ :: []) (F:=[.p 10 0,.p 11 0]) hst hb Za
   (Qm rfl u_0<|Qf rfl Zhq u_0<|Ql rfl Zkz u_0<|Qm rfl u_0<|o_p rfl (Zb0 rfl rfl u_0 c_i rfl)<|o_p rfl (Z33 Tryz.underlying22 Zoa rfl rfl u_0 u_1 h10)<|o_p rfl (Zfq Zrc rfl rfl u_0 u_1 h11)<|Qf rfl Zr7 u_0<|Ql rfl ty_3 u_0<|o_p rfl (Zzc rfl rfl (Opd.imp u_0 (fun _ _ h=>Zgd h)) u_1)<|o_p rfl (Z3 Zco rfl rfl u_1 u_0)<|Qa rfl c_b<|o_n) (fun a g hst hb=>?_)
  refine wp_ret ?_
  obtain rfl:=Option.some.inj H0
  obtain ⟨u0,hu0,hq0⟩:=Zbh (P:=Tryz.prog) Zco (hst.at 0 rfl)
  exact Zdw rfl hst hb hu0 (Zg (s:=5)) (Zcw hq0 (hst.at 1 rfl))
theorem Zt9 (a0:Zf) (a1:Zn) {r:Zf × Zd} (h:Zi8 a0 a1=some r):FnOk Tryz.prog 43 [(Z7.pd a0),(Z0.pd a1)] (pTup [(Z7.pd r.1),(Zj.pd r.2)]):=by
 have H0:=h
 unfold Zi8 at H0
 clear h
 refine Zbs (N:=65) Tryz.func43 rfl rfl (Qe rfl) rfl rfl (fun a g0 hst hb=>?_)
 refine r_s (T:=[⟨[.o 0],_,[3],[],[2]⟩,⟨[.o 1],_,[],[],[3]⟩,⟨[],[(4,(pBox Z7 4 (default:Zf)))],[5],[],[4]⟩,⟨[],[(5,(pBox Zj 5 (default:Zd)))],[6],[],[5]⟩]) (F:=[.p 0 0,.p 1 0,.p 2 0,.p 3 0]) hst hb Za
  (o_p rfl (Zkb rfl rfl u_0)<|Qb rfl u_0<|o_p rfl (Zbi (zs:=[.slice none 0 0,.int .i64 0]) (by kernel_rfl) (fun g=>Zeg g) rfl rfl)<|o_p rfl (Zbi (zs:=[.int .i64 0,.int .i64 0,.int .i64 0,.int .i64 0,.int .i64 0,.int .i64 0,.float .f64 0,.int .i64 0,.string ByteArray.empty,.slice none 0 0]) (by kernel_rfl) (fun g=>Zed g) rfl rfl)<|o_n) (fun a g hst hb=>?_)
 obtain ⟨r1,h2,H0⟩:=Zc H0
 refine r_s (T:=[⟨[.o 0],_,[],[],[12]⟩,⟨[.o 1],_,[],[],[13]⟩,⟨[.p 1 0],_,[],[1],[14]⟩,⟨[.p 0 0,.p 2 0],_,[],[0,1,2],[15]⟩,⟨[.p 3 0],_,[],Lr 4,[11]⟩,⟨[.p 4 0],_,[],Lr 5,[16]⟩,⟨[.p 4 0],_,[],Lr 5,[17]⟩,⟨[],[(6,(pBox Ze 6 (default:Zb)))],[7],[],[6]⟩,⟨[.p 5 0,.p 7 0],_,[7],[0,1,2,3,4,5,7],[6]⟩,⟨[.p 6 0],_,[],Lr 9,[7]⟩]) (F:=[.o 0,.o 1,.o 2,.o 3,.p 8 0,.p 9 0]) hst hb Za
  (QM rfl Zco u_0<|Qf rfl Zhk u_0<|Ql rfl ty_9 u_0<|o_p rfl (Zl Zbel (Zqp _ _ h2) rfl rfl (.cons u_0 (.cons u_1 .nil)))<|Qm rfl u_0<|o_p rfl (Zz rfl rfl u_0 rfl)<|o_p rfl (Zz rfl rfl u_0 rfl)<|o_p rfl (Zbi (zs:=[.int .i64 0,.int .i64 0,.int .i64 0,.int .i64 0,.float .f64 0,.int .i64 0,.string ByteArray.empty,.slice none 0 0]) (by kernel_rfl) (fun g=>Zb2 g) rfl rfl)<|o_p rfl (Zb5 Zbe rfl rfl u_1 u_0)<|Qa rfl u_0<|o_n) (fun a g hst hb=>?_)
 obtain ⟨r3,h4,H0⟩:=Zc H0
 refine r_s (T:=⟨[.o 4],_,[],[],[19]⟩ :: ⟨[.o 5],_,[],[],[20]⟩ :: ⟨[.o 1],_,[],[],[21]⟩ :: ⟨[.p 0 0,.p 1 0,.p 2 0],_,[],[0,1,2],[22]⟩ :: ⟨[.p 3 0],_,[],Lr 4,[18]⟩ :: ⟨[.p 4 0],_,[],Lr 5,[23]⟩ :: ⟨[.p 4 0],_,[],Lr 5,[24]⟩ :: ⟨[.p 4 0],_,[],Lr 5,[25]⟩ :: ⟨[],[(8,(pBox Ze 8 (default:Zb)))],[9],[],[8]⟩ :: ⟨[],[(10,(pBox Zj 10 (default:Zd)))],[11],[],[10]⟩ :: ⟨[.p 5 0,.p 8 0],_,[9],[0,1,2,3,4,5,8,9],[8]⟩ :: ⟨[.p 6 0],_,[],[0,1,2,3,4,5,6,8,9,10],[9]⟩ :: ⟨[.p 7 0,.p 9 0],_,[11],Lr 12,[10]⟩ :: []) (F:=[.o 0,.o 1,.o 2,.o 3,.p 10 0,.p 11 0,.p 12 0]) hst hb Za
  (Ql rfl Zbe u_0<|Qm rfl u_0<|Ql rfl Zgw u_0<|o_p rfl (Zl Zbfh (Zst _ _ _ h4) rfl rfl (.cons u_0 (.cons u_1 (.cons u_2 .nil))))<|Qm rfl u_0<|o_p rfl (Zz rfl rfl u_0 rfl)<|o_p rfl (Zz rfl rfl u_0 rfl)<|o_p rfl (Zz rfl rfl u_0 rfl)<|o_p rfl (Zbi (zs:=[.int .i64 0,.int .i64 0,.int .i64 0,.int .i64 0,.float .f64 0,.int .i64 0,.string ByteArray.empty,.slice none 0 0]) (by kernel_rfl) (fun g=>Zb2 g) rfl rfl)<|o_p rfl (Zbi (zs:=[.int .i64 0,.int .i64 0,.int .i64 0,.int .i64 0,.int .i64 0,.int .i64 0,.float .f64 0,.int .i64 0,.string ByteArray.empty,.slice none 0 0]) (by kernel_rfl) (fun g=>Zed g) rfl rfl)<|o_p rfl (Zb5 Zbe rfl rfl u_1 u_0)<|Qa rfl u_0<|o_p rfl (Zb5 Zb8 rfl rfl u_1 u_0)<|o_n) (fun a g hst hb=>?_)
 refine wp_seq ?_
 refine r_s (T:=[⟨[.o 6],_,[],[],[26]⟩,⟨[.p 0 0],_,[],[0],[27]⟩,⟨[.p 1 0],_,[],[0,1],[28]⟩]) (F:=[.o 0,.o 1,.o 2,.o 3,.o 4,.o 5,.o 6,.p 2 0]) hst hb Za
  (Qf rfl Zi6 u_0<|Ql rfl Zkm u_0<|o_p rfl (Zdn rfl rfl u_0 c_i)<|o_n) (fun a g hst hb=>?_)
 refine wp_cond_split (hst.bool 7 rfl) (fun hc5=>?_) (fun hc5=>?_)
 ·replace H0:=Zu hc5 H0
  refine r_s (L:=[(2,_),(4,_),(5,_),(10,_)]) (T:=[⟨[.o 0],_,[],[],[29]⟩,⟨[.o 3],_,[],[],[30]⟩,⟨[.p 0 0,.o 1],_,[5],[0],[4]⟩,⟨[.p 1 0,.o 2],_,[6],[0,1,2],[5]⟩]) (F:=[.p 2 0,.p 3 0]) (hst.pick [0,2,3,6] rfl) hb Za
   (QM rfl Zco u_0<|Ql rfl Zb8 u_0<|o_p rfl (Z3 Zco rfl rfl u_1 u_0)<|o_p rfl (Z3 Zb8 rfl rfl u_1 u_0)<|o_n) (fun a g hst hb=>?_)
  refine wp_ret ?_
  refine Zo ?_
  obtain rfl:=Option.some.inj H0
  obtain ⟨u0,hu0,hq0⟩:=Zbh (P:=Tryz.prog) Zco (hst.at 0 rfl)
  obtain ⟨u1,hu1,hq1⟩:=Zbh (P:=Tryz.prog) Zb8 (hst.at 1 rfl)
  exact Zdw rfl hst hb hu0 hu1 (Zcw hq0 hq1)
 ·replace H0:=Zt hc5 H0
  refine wp_skip ?_
  refine Zp ?_
  refine wp_seq ?_
  refine r_s (L:=[(2,_),(3,_),(4,_),(5,_),(8,_),(9,_),(10,_)]) (T:=[⟨[.o 1],_,[],[],[31]⟩,⟨[.p 0 0],_,[],[0],[32]⟩,⟨[.p 1 0],_,[],[0,1],[33]⟩,⟨[.p 2 0],_,[],[0,1,2],[34]⟩,⟨[.p 3 0,.o 0],_,[],Lr 4,[35]⟩,⟨[.p 3 0,.p 4 0],_,[],Lr 5,[36]⟩,⟨[.p 3 0,.p 5 0],_,[],Lr 6,[37]⟩,⟨[.p 3 0,.o 0],_,[],Lr 4,[38]⟩,⟨[.p 3 0,.p 7 0],_,[],[0,1,2,3,7],[39]⟩,⟨[.p 3 0,.p 6 0,.p 8 0],_,[],Lr 9,[40]⟩,⟨[.p 3 0,.p 9 0],_,[],Lr 10,[41]⟩]) (F:=[.o 0,.o 1,.o 2,.o 3,.o 4,.o 5,.o 6,.p 10 0]) (hst.pick [0,1,2,3,4,5,6] rfl) hb Za
   (Qf rfl Zc4 u_0<|Ql rfl ty_3 u_0<|o_p rfl (Zbt rfl rfl u_0 c_i)<|Qm rfl u_0<|o_g (Qg_t rfl (fun hG=>Zr Zhq (off:=0) (by kernel_rfl) rfl rfl u_0))<|o_g (Qg_t rfl (fun hG=>Zjc Zkz rfl rfl (Opd.gd hG u_0)))<|o_g (Qg_t rfl (fun hG=>Zbx Tryz.underlying22 rfl rfl (Opd.gd hG u_0)))<|o_g (Qg_t rfl (fun hG=>Zr Zr7 (off:=1) (by kernel_rfl) rfl rfl u_0))<|o_g (Qg_t rfl (fun hG=>Zjc ty_3 rfl rfl (Opd.gd hG u_0)))<|o_g (Qg_t rfl (fun hG=>Zmx rfl rfl (Opd.gd hG u_0) (Opd.gd hG u_1)))<|o_p rfl (Zbk rfl rfl u_0 (fun hz=>(Opd.gd hz u_1)))<|o_n) (fun a g hst hb=>?_)
  refine wp_cond_split (hst.bool 7 rfl) (fun hc6=>?_) (fun hc6=>?_)
  ·replace H0:=Zu hc6 H0
   refine r_s (L:=[(2,_),(4,_),(5,_)]) (T:=[⟨[.o 0],_,[],[],[42]⟩,⟨[],_,[],[],[43]⟩,⟨[.p 0 0,.o 1],_,[5],[0],[4]⟩,⟨[.p 1 0,.o 2],_,[6],[0,1,2],[5]⟩]) (F:=[.p 2 0,.p 3 0]) (hst.pick [0,2,3] rfl) hb Za
    (QM rfl Zco u_0<|o_p rfl (Zrz rfl rfl c_i)<|o_p rfl (Z3 Zco rfl rfl u_1 u_0)<|o_p rfl (Z3 Zb8 rfl rfl u_1 u_0)<|o_n) (fun a g hst hb=>?_)
   refine wp_ret ?_
   refine Zo ?_
   obtain rfl:=Option.some.inj H0
   obtain ⟨u0,hu0,hq0⟩:=Zbh (P:=Tryz.prog) Zco (hst.at 0 rfl)
   obtain ⟨u1,hu1,hq1⟩:=Zbh (P:=Tryz.prog) Zb8 (hst.at 1 rfl)
   exact Zdw rfl hst hb hu0 hu1 (Zcw hq0 hq1)
  ·replace H0:=Zt hc6 H0
   refine wp_skip ?_
   refine Zp ?_
   refine wp_seq ?_
   refine r_s (L:=[(2,_),(3,_),(4,_),(5,_),(8,_),(9,_),(10,_)]) (T:=[⟨[.o 5],_,[],[],[44]⟩,⟨[.p 0 0],_,[],[0],[45]⟩]) (F:=[.o 0,.o 1,.o 2,.o 3,.o 4,.o 6,.p 1 0]) (hst.pick [0,1,2,3,4,5,6] rfl) hb Za
    (Qm rfl u_0<|Qn rfl u_0<|o_n) (fun a g hst hb=>?_)
   refine wp_cond_split (hst.bool 6 rfl) (fun hc7=>?_) (fun hc7=>?_)
   ·replace H0:=Zu hc7 H0
    obtain ⟨r8,h9,H0⟩:=Zc H0
    refine r_s (L:=[(2,_),(3,_),(4,_),(5,_),(10,_)]) (T:=[⟨[.o 0],_,[],[],[47]⟩,⟨[.o 1],_,[],[],[48]⟩,⟨[.p 1 0],_,[],[1],[49]⟩,⟨[.p 0 0,.p 2 0],_,[],[0,1,2],[50]⟩,⟨[.p 3 0],_,[],Lr 4,[46]⟩,⟨[.p 4 0],_,[],Lr 5,[51]⟩,⟨[.p 4 0],_,[],Lr 5,[52]⟩,⟨[.p 5 0,.o 0],_,[3],Lr 6,[2]⟩]) (F:=[.p 7 0,.o 2,.o 3,.o 4]) (hst.pick [0,1,2,3,5] rfl) hb Za
     (QM rfl Zco u_0<|Qf rfl Zhk u_0<|Ql rfl ty_9 u_0<|o_p rfl (Zl Zbes (Zqu _ _ h9) rfl rfl (.cons u_0 (.cons u_1 .nil)))<|Qm rfl u_0<|o_p rfl (Zz rfl rfl u_0 rfl)<|o_p rfl (Zz rfl rfl u_0 rfl)<|o_p rfl (Z3 Zco rfl rfl u_1 u_0)<|o_n) (fun a g hst hb=>?_)
    refine r_s (T:=[⟨[.o 0],_,[],[],[53]⟩,⟨[.o 3],_,[],[],[54]⟩,⟨[.p 0 0,.o 1],_,[5],[0],[4]⟩,⟨[.p 1 0,.o 2],_,[6],[0,1,2],[5]⟩]) (F:=[.p 2 0,.p 3 0]) hst hb Za
     (QM rfl Zco u_0<|Ql rfl Zb8 u_0<|o_p rfl (Z3 Zco rfl rfl u_1 u_0)<|o_p rfl (Z3 Zb8 rfl rfl u_1 u_0)<|o_n) (fun a g hst hb=>?_)
    refine wp_ret ?_
    refine Zo ?_
    obtain rfl:=Option.some.inj H0
    obtain ⟨u0,hu0,hq0⟩:=Zbh (P:=Tryz.prog) Zco (hst.at 0 rfl)
    obtain ⟨u1,hu1,hq1⟩:=Zbh (P:=Tryz.prog) Zb8 (hst.at 1 rfl)
    exact Zdw rfl hst hb hu0 hu1 (Zcw hq0 hq1)
   ·replace H0:=Zt hc7 H0
    refine wp_skip ?_
    refine Zp ?_
    obtain ⟨r10,h11,H0⟩:=Zc H0
    refine r_s (L:=[(2,_),(3,_),(4,_),(5,_),(8,_),(10,_)]) (T:=[⟨[.o 0],_,[],[],[56]⟩,⟨[.o 1],_,[],[],[57]⟩,⟨[.p 1 0],_,[],[1],[58]⟩,⟨[.o 4],_,[],[],[59]⟩,⟨[.p 0 0,.p 2 0,.p 3 0],_,[],Lr 4,[60]⟩,⟨[.p 4 0],_,[],Lr 5,[55]⟩,⟨[.p 5 0],_,[],Lr 6,[61]⟩,⟨[.p 5 0],_,[],Lr 6,[62]⟩,⟨[.p 6 0,.o 0],_,[3],Lr 7,[2]⟩]) (F:=[.p 8 0,.o 2,.o 3,.o 5]) (hst.pick [0,1,2,3,4,5] rfl) hb Za
     (QM rfl Zco u_0<|Qf rfl Zhk u_0<|Ql rfl ty_9 u_0<|Ql rfl Zbe u_0<|o_p rfl (Zl Zbac (Zmq _ _ _ h11) rfl rfl (.cons u_0 (.cons u_1 (.cons u_2 .nil))))<|Qm rfl u_0<|o_p rfl (Zz rfl rfl u_0 rfl)<|o_p rfl (Zz rfl rfl u_0 rfl)<|o_p rfl (Z3 Zco rfl rfl u_1 u_0)<|o_n) (fun a g hst hb=>?_)
    refine r_s (T:=[⟨[.o 0],_,[],[],[63]⟩,⟨[.o 3],_,[],[],[64]⟩,⟨[.p 0 0,.o 1],_,[5],[0],[4]⟩,⟨[.p 1 0,.o 2],_,[6],[0,1,2],[5]⟩]) (F:=[.p 2 0,.p 3 0]) hst hb Za
     (QM rfl Zco u_0<|Ql rfl Zb8 u_0<|o_p rfl (Z3 Zco rfl rfl u_1 u_0)<|o_p rfl (Z3 Zb8 rfl rfl u_1 u_0)<|o_n) (fun a g hst hb=>?_)
    refine wp_ret ?_
    obtain rfl:=Option.some.inj H0
    obtain ⟨u0,hu0,hq0⟩:=Zbh (P:=Tryz.prog) Zco (hst.at 0 rfl)
    obtain ⟨u1,hu1,hq1⟩:=Zbh (P:=Tryz.prog) Zb8 (hst.at 1 rfl)
    exact Zdw rfl hst hb hu0 hu1 (Zcw hq0 hq1)
theorem Zuh (a0:Zf) (a1:Z9) {r:Zf × Zs} (h:Zh2 a0 a1=some r):FnOk Tryz.prog 18 [(Z7.pd a0),(Zbq.pd a1)] (pTup [(Z7.pd r.1),(Zbo.pd r.2)]):=by
 have H0:=h
 unfold Zh2 at H0
 clear h
 refine Zbs (N:=67) Tryz.func18 rfl rfl (Qe rfl) rfl rfl (fun a g0 hst hb=>?_)
 refine r_s (T:=[⟨[.o 0],_,[],[],[2]⟩,⟨[.o 1],_,[],[],[3]⟩,⟨[],[(4,(pBox Z7 4 (default:Zf)))],[5],[],[4]⟩,⟨[],[(5,(pBox Zbo 5 (default:Zs)))],[6],[],[5]⟩]) (F:=[.p 0 0,.p 1 0,.p 2 0,.p 3 0]) hst hb Za
  (Qb rfl u_0<|Qb rfl u_0<|o_p rfl (Zbi (zs:=[.slice none 0 0,.int .i64 0]) (by kernel_rfl) (fun g=>Zeg g) rfl rfl)<|o_p rfl (Zbi (zs:=[.int .i64 0,.int .i64 0,.slice none 0 0]) (by kernel_rfl) (fun g=>Zjd g) rfl rfl)<|o_n) (fun a g hst hb=>?_)
 obtain ⟨r1,h2,H0⟩:=Zc H0
 refine r_s (T:=[⟨[.o 1],_,[],[],[13]⟩,⟨[.p 0 0],_,[],[0],[14]⟩,⟨[.p 1 0],_,[],[0,1],[12]⟩,⟨[.p 2 0],_,[],[0,1,2],[15]⟩,⟨[.p 2 0],_,[],[0,1,2],[16]⟩,⟨[.p 3 0],_,[],Lr 4,[6]⟩,⟨[.p 4 0],_,[],Lr 6,[7]⟩]) (F:=[.o 0,.o 1,.o 2,.o 3,.p 5 0,.p 6 0]) hst hb Za
  (Ql rfl Zka u_0<|o_p rfl (Zl Zbfp (Zsi _ h2) rfl rfl (.cons u_0 .nil))<|Qm rfl u_0<|o_p rfl (Zz rfl rfl u_0 rfl)<|o_p rfl (Zz rfl rfl u_0 rfl)<|Qa rfl u_0<|Qa rfl u_0<|o_n) (fun a g hst hb=>?_)
 refine wp_seq ?_
 refine r_s (T:=[⟨[.o 4],_,[],[],[17]⟩,⟨[.p 0 0],_,[],[0],[18]⟩]) (F:=[.o 0,.o 1,.o 2,.o 3,.o 4,.o 5,.p 1 0]) hst hb Za
  (Qm rfl u_0<|o_p rfl (Zdn rfl rfl u_0 c_i)<|o_n) (fun a g hst hb=>?_)
 refine wp_cond_split (hst.bool 6 rfl) (fun hc3=>?_) (fun hc3=>?_)
 ·replace H0:=Zu hc3 H0
  refine r_s (L:=[(2,_),(4,_),(5,_),(6,_),(7,_)]) (T:=[⟨[.o 0],_,[],[],[19]⟩,⟨[.o 3],_,[],[],[20]⟩,⟨[.o 4],_,[],[],[21]⟩,⟨[.p 1 0,.p 2 0],_,[],[1,2],[22]⟩,⟨[.p 0 0,.o 1],_,[5],[0],[4]⟩,⟨[.p 3 0,.o 2],_,[6],Lr 5,[5]⟩]) (F:=[.p 4 0,.p 5 0]) (hst.pick [0,2,3,4,5] rfl) hb Za
   (Ql rfl Zco u_0<|Qm rfl u_0<|Qm rfl u_0<|o_p rfl (Zy8 rfl rfl u_0 u_1)<|o_p rfl (Z3 Zco rfl rfl u_1 u_0)<|o_p rfl (Z3 Zh4 rfl rfl u_1 u_0)<|o_n) (fun a g hst hb=>?_)
  refine wp_ret ?_
  refine Zo ?_
  obtain rfl:=Option.some.inj H0
  obtain ⟨u0,hu0,hq0⟩:=Zbh (P:=Tryz.prog) Zco (hst.at 0 rfl)
  obtain ⟨u1,hu1,hq1⟩:=Zbh (P:=Tryz.prog) Zh4 (hst.at 1 rfl)
  exact Zdw rfl hst hb hu0 hu1 (Zcw hq0 hq1)
 ·replace H0:=Zt hc3 H0
  refine wp_skip ?_
  refine Zp ?_
  refine r_s (L:=[(2,_),(3,_),(4,_),(5,_)]) (T:=[⟨[.o 0],_,[],[],[23]⟩,⟨[],_,[25],[],[24]⟩,⟨[],[(8,(pBox Z7 8 (default:Zf)))],[9],[],[8]⟩,⟨[.p 0 0,.p 2 0],_,[9],[0,2],[8]⟩,⟨[.p 1 0],_,[],Lr 4,[9]⟩]) (F:=[.o 0,.o 1,.o 2,.o 3,.p 3 0,.p 4 0]) (hst.pick [0,1,2,3] rfl) hb Za
   (Ql rfl Zco u_0<|o_p rfl (Zkx 24 Zs7 (xs:=[]) .nil (by decide) rfl rfl)<|o_p rfl (Zbi (zs:=[.slice none 0 0,.int .i64 0]) (by kernel_rfl) (fun g=>Zeg g) rfl rfl)<|o_p rfl (Z3 Zco rfl rfl u_1 u_0)<|Qa rfl u_0<|o_n) (fun a g hst hb=>?_)
  refine wp_seq ?_
  refine r_s (T:=[⟨[],_,[],[],[10]⟩]) (F:=[.o 0,.o 1,.o 2,.o 3,.o 4,.o 5,.p 0 0]) hst hb Za
   (Qa rfl c_i<|o_n) (fun a g hst hb=>?_)
  obtain ⟨z22,hz1,H0⟩:=Zc H0
  refine Zb3 (fun a w=>∃ (y18:Zf) (y19:Zs) (y20:Zf) (y21:List Zd) (g:G),w=g.w ∧ St 67 [(4,(pBox Z7 4 y18)),(5,(pBox Zbo 5 y19)),(8,(pBox Z7 8 y20)),(9,(pRow Zj 68 24 y21))] a g ∧ Base g0 g ∧ (.inr (y18,y19,y20,y21))=z22) ?_ ?_
  ·rintro a w ⟨y18,y19,y20,y21,g,rfl,hst,hb,rfl⟩
   refine Zp ?_
   refine r_s (T:=[⟨[.o 2],_,[],[],[64]⟩,⟨[.o 3],_,[],[],[65]⟩,⟨[.p 1 0],_,[],[1],[66]⟩,⟨[.p 0 0,.o 0],_,[5],[0],[4]⟩,⟨[.p 2 0,.o 1],_,[6],Lr 4,[5]⟩]) (F:=[.p 3 0,.p 4 0]) hst hb Za
    (QM rfl Zco u_0<|Qm rfl u_0<|o_p rfl (Zba5 rfl rfl (Opd.imp u_0 (fun _ _ h=>Zgd h)))<|o_p rfl (Z3 Zco rfl rfl u_1 u_0)<|o_p rfl (Z3 Zh4 rfl rfl u_1 u_0)<|o_n) (fun a g hst hb=>?_)
   refine wp_ret ?_
   obtain rfl:=Option.some.inj H0
   obtain ⟨u0,hu0,hq0⟩:=Zbh (P:=Tryz.prog) Zco (hst.at 0 rfl)
   obtain ⟨u1,hu1,hq1⟩:=Zbh (P:=Tryz.prog) Zh4 (hst.at 1 rfl)
   exact Zdw rfl hst hb hu0 hu1 (Zcw hq0 hq1)
  ·refine wp_block ?_
   refine wp_loop_ghost (fun n a w=>∃ (x4:Zf) (x5:Zs) (x6:Zf) (x7:List Zd) (x8:Int) (g:G),w=g.w ∧ St 67 [(2,(Z7.ptr a0)),(3,(Zbq.ptr a1)),(4,(pBox Z7 4 x4)),(5,(pBox Zbo 5 x5)),(8,(pBox Z7 8 x6)),(9,(pRow Zj 68 24 x7)),(10,(pInt .i64 x8))] a g ∧ Base g0 g ∧ Zes a0 a1 n x4 x5 x6 x7 x8=some z22) (Int.toNat ((a1.Acts.length:Int) - (0:Int)) + 1) ⟨(default:Zf),(default:Zs),a0,([]:List Zd),(0:Int),g,rfl,(hst.pick [0,1,2,3,4,5,6] rfl),hb,hz1⟩ (fun n a w hI=>?_)
   obtain ⟨x4,x5,x6,x7,x8,g,rfl,hst,hb,H1⟩:=hI
   cases n with
   | zero=>exact absurd H1 (by simp [Zes])
   | succ n =>
    rw [Zes] at H1
    refine wp_seq ?_
    refine r_s (T:=[⟨[.o 6],_,[],[],[25]⟩,⟨[.o 1],_,[],[],[26]⟩,⟨[.p 1 0],_,[],[1],[27]⟩,⟨[.p 2 0],_,[],[1,2],[28]⟩,⟨[.p 0 0,.p 3 0],_,[],Lr 4,[29]⟩]) (F:=[.o 0,.o 1,.o 2,.o 3,.o 4,.o 5,.o 6,.p 4 0]) hst hb Za
     (Qm rfl u_0<|Qf rfl Zgz u_0<|Ql rfl Zjw u_0<|o_p rfl (Zbx Tryz.underlying23 rfl rfl u_0)<|o_p rfl (Zca rfl rfl u_0 u_1)<|o_n) (fun a g hst hb=>?_)
    refine wp_cond_split (hst.bool 7 rfl) (fun hc9=>?_) (fun hc9=>?_)
    ·replace H1:=Zu hc9 H1
     refine wp_skip ?_
     refine Zp ?_
     refine wp_seq ?_
     refine wp_block ?_
     refine r_s (L:=[(2,_),(3,_),(4,_),(5,_),(8,_),(9,_),(10,_)]) (T:=[⟨[],_,[],[],[32]⟩,⟨[],[(11,(pBox Zj 11 (default:Zd)))],[12],[],[11]⟩,⟨[.p 0 0,.p 1 0],_,[12],[0,1],[11]⟩]) (F:=[.o 0,.o 1,.o 2,.o 3,.o 4,.o 5,.o 6,.p 2 0]) (hst.pick [0,1,2,3,4,5,6] rfl) hb Za
      (o_p rfl (Zrx rfl rfl )<|o_p rfl (Zbi (zs:=[.int .i64 0,.int .i64 0,.int .i64 0,.int .i64 0,.int .i64 0,.int .i64 0,.float .f64 0,.int .i64 0,.string ByteArray.empty,.slice none 0 0]) (by kernel_rfl) (fun g=>Zed g) rfl rfl)<|o_p rfl (Z3 Zb8 rfl rfl u_1 u_0)<|o_n) (fun a g hst hb=>?_)
     obtain ⟨e10,h11,H1⟩:=Zc H1;obtain ⟨r12,h13,H1⟩:=Zc H1
     refine r_s (T:=⟨[.o 4],_,[],[],[34]⟩ :: ⟨[.o 1],_,[],[],[35]⟩ :: ⟨[.p 1 0],_,[],[1],[36]⟩ :: ⟨[.o 6],_,[],[],[37]⟩ :: ⟨[.p 2 0,.p 3 0],_,[],[1,2,3],[38]⟩ :: ⟨[.p 4 0],_,[],List.range' 1 4,[39]⟩ :: ⟨[.p 0 0,.p 5 0],_,[],Lr 6,[40]⟩ :: ⟨[.p 6 0],_,[],Lr 7,[33]⟩ :: ⟨[.p 7 0],_,[],Lr 8,[41]⟩ :: ⟨[.p 7 0],_,[],Lr 8,[42]⟩ :: ⟨[.p 8 0,.o 4],_,[9],Lr 9,[8]⟩ :: ⟨[.p 9 0,.o 7],_,[12],Lr 11,[11]⟩ :: []) (F:=[.o 0,.o 1,.o 2,.o 3,.p 10 0,.o 5,.o 6,.p 11 0]) hst hb Za
      (QM rfl Zco u_0<|Qf rfl Zgz u_0<|Ql rfl Zjw u_0<|Qm rfl u_0<|o_p rfl (Zbl Tryz.underlying23 Znj rfl rfl u_0 u_1 h11)<|Ql rfl Zgw u_0<|o_p rfl (Zl Zbe4 (Zt9 _ _ h13) rfl rfl (.cons u_0 (.cons u_1 .nil)))<|Qm rfl u_0<|o_p rfl (Zz rfl rfl u_0 rfl)<|o_p rfl (Zz rfl rfl u_0 rfl)<|o_p rfl (Z3 Zco rfl rfl u_1 u_0)<|o_p rfl (Z3 Zb8 rfl rfl u_1 u_0)<|o_n) (fun a g hst hb=>?_)
     refine wp_seq ?_
     obtain ⟨e14,h15,H1⟩:=Zc H1
     refine r_s (T:=[⟨[.o 7],_,[],[],[43]⟩,⟨[.p 0 0],_,[],[0],[44]⟩,⟨[.p 1 0],_,[],[0,1],[45]⟩,⟨[.p 2 0],_,[],[0,1,2],[46]⟩,⟨[.p 3 0,.o 1],_,[],Lr 4,[47]⟩,⟨[.p 3 0,.p 4 0],_,[],Lr 5,[48]⟩,⟨[.p 3 0,.o 6],_,[],Lr 4,[49]⟩,⟨[.p 3 0,.p 5 0,.p 6 0],_,[],Lr 7,[50]⟩,⟨[.p 3 0,.p 7 0],_,[],Lr 8,[51]⟩,⟨[.p 3 0,.p 8 0],_,[],Lr 9,[52]⟩,⟨[.p 3 0,.p 9 0],_,[],Lr 10,[53]⟩]) (F:=[.o 0,.o 1,.o 2,.o 3,.o 4,.o 5,.o 6,.o 7,.p 10 0]) hst hb Za
      (o_p rfl (Zr Zi6 (off:=0) (by kernel_rfl) rfl rfl u_0)<|QP rfl Zkm u_0<|o_p rfl (Zdn rfl rfl u_0 c_i)<|Qm rfl u_0<|o_g (Qg_t rfl (fun hG=>Zi Zgz rfl rfl u_0))<|o_g (Qg_t rfl (fun hG=>Zv Zjw rfl rfl (Opd.gd hG u_0)))<|o_g (Qg_t rfl (fun hG=>Z6 rfl rfl u_0))<|o_g (Qg_t rfl (fun hG=>Zbl Tryz.underlying23 Znj rfl rfl (Opd.gd hG u_0) (Opd.gd hG u_1) (Zbn h15 hG)))<|o_g (Qg_t rfl (fun hG=>Zi Z4k rfl rfl (Opd.gd hG u_0)))<|o_g (Qg_t rfl (fun hG=>Zv ty_4 rfl rfl (Opd.gd hG u_0)))<|o_p rfl (Zbk rfl rfl u_0 (fun hz=>(Opd.gd hz u_1)))<|o_n) (fun a g hst hb=>?_)
     refine wp_cond_split (hst.bool 8 rfl) (fun hc16=>?_) (fun hc16=>?_)
     ·replace H1:=Zu hc16 H1
      refine r_s (L:=[(2,_),(4,_),(5,_),(10,_),(11,_)]) (T:=[⟨[.o 0],_,[],[],[54]⟩,⟨[.o 4],_,[],[],[55]⟩,⟨[.p 1 0],_,[],[1],[56]⟩,⟨[.o 3],_,[],[],[57]⟩,⟨[.p 3 0],_,[],[3],[58]⟩,⟨[.p 2 0,.p 4 0],_,[],List.range' 1 4,[59]⟩,⟨[.p 0 0,.o 1],_,[5],[0],[4]⟩,⟨[.p 5 0,.o 2],_,[6],Lr 7,[5]⟩]) (F:=[.p 6 0,.p 7 0]) (hst.pick [0,2,3,6,7] rfl) hb Za
       (Ql rfl Zco u_0<|o_p rfl (Zr Zi6 (off:=0) (by kernel_rfl) rfl rfl u_0)<|QP rfl Zkm u_0<|Qm rfl u_0<|o_p rfl (Zb0 rfl rfl u_0 c_i rfl)<|o_p rfl (Zy8 rfl rfl u_0 u_1)<|o_p rfl (Z3 Zco rfl rfl u_1 u_0)<|o_p rfl (Z3 Zh4 rfl rfl u_1 u_0)<|o_n) (fun a g hst hb=>?_)
      refine wp_ret ?_
      refine Zo ?_
      refine Z5 ?_
      refine Zo ?_
      refine Zo ?_
      refine Z5 ?_
      refine Zo ?_
      refine Zo ?_
      obtain rfl:=Option.some.inj H1
      obtain rfl:=Option.some.inj H0
      obtain ⟨u0,hu0,hq0⟩:=Zbh (P:=Tryz.prog) Zco (hst.at 0 rfl)
      obtain ⟨u1,hu1,hq1⟩:=Zbh (P:=Tryz.prog) Zh4 (hst.at 1 rfl)
      exact Zdw rfl hst hb hu0 hu1 (Zcw hq0 hq1)
     ·replace H1:=Zt hc16 H1
      refine wp_skip ?_
      refine Zp ?_
      obtain ⟨h17,H1⟩:=Zfv H1
      refine r_g (L:=[(2,_),(3,_),(4,_),(5,_),(8,_),(9,_),(10,_),(11,_)]) (T:=[⟨[.o 5],_,[],[],[60]⟩,⟨[.o 7],_,[],[],[61]⟩,⟨[.p 1 0],_,[],[1],[62]⟩,⟨[.p 0 0,.p 2 0],_,[25],[0,1,2],[9,60,63]⟩,⟨[.p 3 0],_,[],Lr 4,[9]⟩]) (F:=[.o 0,.o 1,.o 2,.o 3,.o 4,.p 4 0,.o 6]) (hst.pick [0,1,2,3,4,5,6,7] rfl) hb Za
       (Qm rfl u_0<|QM rfl Zb8 u_0<|o_p rfl (Zig Zs7 (xs:=[.tmp 61]) (.cons u_0 .nil) (by decide) rfl rfl)<|o_p rfl (Zfq Zs7 rfl rfl u_0 u_1 h17)<|Qa rfl u_0<|o_n) (fun a g hst hb=>?_)
      refine Zbc ?_
      refine Zp ?_
      refine r_g (T:=[⟨[.o 6],_,[],[],[30]⟩,⟨[.p 0 0],_,[],[0],[31]⟩,⟨[.p 1 0],_,[],[0,1],[10]⟩]) (F:=[.o 0,.o 1,.o 2,.o 3,.o 4,.o 5,.p 2 0]) hst hb Za
       (Qm rfl u_0<|o_p rfl (Zb0 rfl rfl u_0 c_i rfl)<|Qa rfl u_0<|o_n) (fun a g hst hb=>?_)
      exact ⟨n,Nat.lt_succ_self _,x4,x5,r12.1,(x7 ++ ([r12.2]:List Zd)),(IntKind.i64.wrap (x8 + (1:Int))),g,rfl,(hst.pick [0,1,2,3,4,5,6] rfl),hb,H1⟩
    ·replace H1:=Zt hc9 H1
     refine wp_exit ?_
     refine Zby ?_
     refine Zby ?_
     refine Zcb ?_
     exact ⟨x4,x5,x6,x7,g,rfl,(hst.pick [2,3,4,5] rfl),hb,Option.some.inj H1⟩
theorem Zt2 (a0:Zf) (a1:List Z9) {r:Zf × (List Zs)} (h:Zki a0 a1=some r):FnOk Tryz.prog 26 [(Z7.pd a0),(Zbq.sl.pd a1)] (pTup [(Z7.pd r.1),(Zbo.sl.pd r.2)]):=by
 have H0:=h
 unfold Zki at H0
 clear h
 refine Zbs (N:=32) Tryz.func26 rfl rfl (Qe rfl) rfl rfl (fun a g0 hst hb=>?_)
 refine r_s (T:=[⟨[.o 0],_,[3],[],[2]⟩,⟨[],[(4,(pBox Z7 4 (default:Zf)))],[5],[],[4]⟩,⟨[],[(5,(Zbo.sl.pd ([]:List Zs)))],[],[],[5]⟩]) (F:=[.o 1,.p 0 0,.p 1 0]) hst hb Za
  (o_p rfl (Zkb rfl rfl u_0)<|o_p rfl (Zbi (zs:=[.slice none 0 0,.int .i64 0]) (by kernel_rfl) (fun g=>Zeg g) rfl rfl)<|o_p rfl (Zcu rfl rfl (Opd.c (fun g=>Zf4 g)))<|o_n) (fun a g hst hb=>?_)
 refine r_s (T:=[⟨[],_,[10],[],[9]⟩,⟨[.p 0 0],_,[],[0],[6]⟩]) (F:=[.o 0,.o 1,.o 2,.p 1 0]) hst hb Za
  (o_p rfl (Zkx 9 Z0o (xs:=[]) .nil (by decide) rfl rfl)<|Qa rfl u_0<|o_n) (fun a g hst hb=>?_)
 refine wp_seq ?_
 refine r_s (T:=[⟨[],_,[],[],[7]⟩]) (F:=[.o 0,.o 1,.o 2,.o 3,.p 0 0]) hst hb Za
  (Qa rfl c_i<|o_n) (fun a g hst hb=>?_)
 obtain ⟨z12,hz1,H0⟩:=Zc H0
 refine Zb3 (fun a w=>∃ (y10:Zf) (y11:List Zs) (g:G),w=g.w ∧ St 32 [(2,(pBox Z7 2 y10)),(4,(pBox Z7 4 (default:Zf))),(6,(pRow Zbo 49 9 y11))] a g ∧ Base g0 g ∧ (y10,y11)=z12) ?_ ?_
 ·rintro a w ⟨y10,y11,g,rfl,hst,hb,rfl⟩
  refine Zp ?_
  refine r_s (T:=[⟨[.o 0],_,[],[],[30]⟩,⟨[.o 2],_,[],[],[31]⟩,⟨[.p 0 0,.o 1],_,[5],[0],[4]⟩,⟨[.p 1 0],_,[],[0,1,2],[5]⟩]) (F:=[.p 2 0,.p 3 0]) hst hb Za
   (QM rfl Zco u_0<|Qm rfl u_0<|o_p rfl (Z3 Zco rfl rfl u_1 u_0)<|Qa rfl u_0<|o_n) (fun a g hst hb=>?_)
  refine wp_ret ?_
  obtain rfl:=Option.some.inj H0
  obtain ⟨u0,hu0,hq0⟩:=Zbh (P:=Tryz.prog) Zco (hst.at 0 rfl)
  exact Zdw rfl hst hb hu0 (Zg (s:=5)) (Zcw hq0 (Zgd (hst.at 1 rfl)))
 ·refine wp_block ?_
  refine wp_loop_ghost (fun n a w=>∃ (x1:Zf) (x2:List Zs) (x3:Int) (g:G),w=g.w ∧ St 32 [(1,(Zbq.sl.pd a1)),(2,(pBox Z7 2 x1)),(4,(pBox Z7 4 (default:Zf))),(6,(pRow Zbo 49 9 x2)),(7,(pInt .i64 x3))] a g ∧ Base g0 g ∧ Zej a1 n x1 x2 x3=some z12) (Int.toNat ((a1.length:Int) - (0:Int)) + 1) ⟨a0,([]:List Zs),(0:Int),g,rfl,(hst.pick [0,1,2,3,4] rfl),hb,hz1⟩ (fun n a w hI=>?_)
  obtain ⟨x1,x2,x3,g,rfl,hst,hb,H1⟩:=hI
  cases n with
  | zero=>exact absurd H1 (by simp [Zej])
  | succ n =>
   rw [Zej] at H1
   refine wp_seq ?_
   refine r_s (T:=[⟨[.o 4],_,[],[],[10]⟩,⟨[.o 0],_,[],[],[11]⟩,⟨[.p 1 0],_,[],[1],[12]⟩,⟨[.p 0 0,.p 2 0],_,[],[0,1,2],[13]⟩]) (F:=[.o 0,.o 1,.o 2,.o 3,.o 4,.p 3 0]) hst hb Za
    (Qm rfl u_0<|Qm rfl u_0<|o_p rfl (Zbx Tryz.underlying72 rfl rfl u_0)<|o_p rfl (Zca rfl rfl u_0 u_1)<|o_n) (fun a g hst hb=>?_)
   refine wp_cond_split (hst.bool 5 rfl) (fun hc4=>?_) (fun hc4=>?_)
   ·replace H1:=Zu hc4 H1
    refine wp_skip ?_
    refine Zp ?_
    refine wp_seq ?_
    refine wp_block ?_
    refine r_s (L:=[(1,_),(2,_),(4,_),(6,_),(7,_)]) (T:=[⟨[],_,[],[],[16]⟩,⟨[],[(8,(pBox Zbo 8 (default:Zs)))],[9],[],[8]⟩,⟨[.p 0 0,.p 1 0],_,[9],[0,1],[8]⟩]) (F:=[.o 0,.o 1,.o 2,.o 3,.o 4,.p 2 0]) (hst.pick [0,1,2,3,4] rfl) hb Za
     (o_p rfl (Z7e rfl rfl )<|o_p rfl (Zbi (zs:=[.int .i64 0,.int .i64 0,.slice none 0 0]) (by kernel_rfl) (fun g=>Zjd g) rfl rfl)<|o_p rfl (Z3 Zh4 rfl rfl u_1 u_0)<|o_n) (fun a g hst hb=>?_)
    obtain ⟨e5,h6,H1⟩:=Zc H1;obtain ⟨r7,h8,H1⟩:=Zc H1
    refine r_s (T:=[⟨[.o 1],_,[],[],[18]⟩,⟨[.o 0],_,[],[],[19]⟩,⟨[.o 4],_,[],[],[20]⟩,⟨[.p 1 0,.p 2 0],_,[],[1,2],[21]⟩,⟨[.p 3 0],_,[],[1,2,3],[22]⟩,⟨[.p 0 0,.p 4 0],_,[],Lr 5,[23]⟩,⟨[.p 5 0],_,[],Lr 6,[17]⟩,⟨[.p 6 0],_,[],Lr 7,[24]⟩,⟨[.p 6 0],_,[],Lr 7,[25]⟩,⟨[.p 7 0,.o 1],_,[3],Lr 8,[2]⟩,⟨[.p 8 0,.o 5],_,[9],Lr 10,[8]⟩]) (F:=[.o 0,.p 9 0,.o 2,.o 3,.o 4,.p 10 0]) hst hb Za
     (QM rfl Zco u_0<|Qm rfl u_0<|Qm rfl u_0<|o_p rfl (Zbl Tryz.underlying72 Zq5 rfl rfl u_0 u_1 h6)<|Ql rfl Zka u_0<|o_p rfl (Zl Zbfw (Zuh _ _ h8) rfl rfl (.cons u_0 (.cons u_1 .nil)))<|Qm rfl u_0<|o_p rfl (Zz rfl rfl u_0 rfl)<|o_p rfl (Zz rfl rfl u_0 rfl)<|o_p rfl (Z3 Zco rfl rfl u_1 u_0)<|o_p rfl (Z3 Zh4 rfl rfl u_1 u_0)<|o_n) (fun a g hst hb=>?_)
    obtain ⟨h9,H1⟩:=Zfv H1
    refine r_g (T:=[⟨[.o 3],_,[],[],[26]⟩,⟨[.o 5],_,[],[],[27]⟩,⟨[.p 1 0],_,[],[1],[28]⟩,⟨[.p 0 0,.p 2 0],_,[10],[0,1,2],[6,26,29]⟩,⟨[.p 3 0],_,[],Lr 4,[6]⟩]) (F:=[.o 0,.o 1,.o 2,.p 4 0,.o 4]) hst hb Za
     (Qm rfl u_0<|QM rfl Zh4 u_0<|o_p rfl (Zig Z0o (xs:=[.tmp 27]) (.cons u_0 .nil) (by decide) rfl rfl)<|o_p rfl (Zfq Z0o rfl rfl u_0 u_1 h9)<|Qa rfl u_0<|o_n) (fun a g hst hb=>?_)
    refine Zbc ?_
    refine Zp ?_
    refine r_g (T:=[⟨[.o 4],_,[],[],[14]⟩,⟨[.p 0 0],_,[],[0],[15]⟩,⟨[.p 1 0],_,[],[0,1],[7]⟩]) (F:=[.o 0,.o 1,.o 2,.o 3,.p 2 0]) hst hb Za
     (Qm rfl u_0<|o_p rfl (Zb0 rfl rfl u_0 c_i rfl)<|Qa rfl u_0<|o_n) (fun a g hst hb=>?_)
    exact ⟨n,Nat.lt_succ_self _,r7.1,(x2 ++ ([r7.2]:List Zs)),(IntKind.i64.wrap (x3 + (1:Int))),g,rfl,(hst.pick [0,1,2,3,4] rfl),hb,H1⟩
   ·replace H1:=Zt hc4 H1
    refine wp_exit ?_
    refine Zby ?_
    refine Zby ?_
    refine Zcb ?_
    exact ⟨x1,x2,g,rfl,(hst.pick [1,2,3] rfl),hb,Option.some.inj H1⟩
theorem Zti (a0:Zd) (a1:Zd) {r:Bool} (h:Zj5 a0 a1=some r):FnOk Tryz.prog 45 [(Zj.pd a0),(Zj.pd a1)] (Zbf r):=by
 have H0:=h
 unfold Zj5 at H0
 clear h
 refine Zbs (N:=24) Tryz.func45 rfl rfl (Qe rfl) rfl rfl (fun a g0 hst hb=>?_)
 refine r_s (T:=[⟨[.o 0],_,[],[],[2]⟩,⟨[.o 1],_,[],[],[3]⟩,⟨[],_,[],[],[4]⟩]) (F:=[.p 0 0,.p 1 0]) hst hb Za
  (Qb rfl u_0<|Qb rfl u_0<|Qa rfl c_b<|o_n) (fun a g hst hb=>?_)
 obtain ⟨r1,h2,H0⟩:=Zc H0
 refine r_s (T:=⟨[.o 0],_,[],[],[5]⟩ :: ⟨[.p 0 0],_,[],[0],[6]⟩ :: ⟨[.o 1],_,[],[],[7]⟩ :: ⟨[.p 2 0],_,[],[2],[8]⟩ :: ⟨[.p 1 0,.p 3 0],_,[],Lr 4,[9]⟩ :: ⟨[.p 4 0],_,[],Lr 5,[10]⟩ :: ⟨[.p 5 0,.o 0],_,[],Lr 6,[11]⟩ :: ⟨[.p 5 0,.p 6 0],_,[],Lr 7,[12]⟩ :: ⟨[.p 5 0,.o 1],_,[],Lr 6,[13]⟩ :: ⟨[.p 5 0,.p 8 0],_,[],[0,1,2,3,4,5,8],[14]⟩ :: ⟨[.p 5 0,.p 7 0,.p 9 0],_,[],Lr 10,[15]⟩ :: ⟨[.p 5 0,.p 10 0],_,[],Lr 11,[16]⟩ :: ⟨[.p 11 0],_,[],Lr 12,[17]⟩ :: ⟨[.p 12 0,.o 0],_,[],Lr 13,[18]⟩ :: ⟨[.p 12 0,.p 13 0],_,[],Lr 14,[19]⟩ :: ⟨[.p 12 0,.o 1],_,[],Lr 13,[20]⟩ :: ⟨[.p 12 0,.p 15 0],_,[],0 :: 1 :: 2 :: 3 :: 4 :: 5 :: 6 :: 7 :: 8 :: 9 :: 10 :: 11 :: 12 :: 15 :: [],[21]⟩ :: ⟨[.p 12 0,.p 14 0,.p 16 0],_,[],Lr 17,[22]⟩ :: ⟨[.p 12 0,.p 17 0],_,[],Lr 18,[23]⟩ :: ⟨[.p 18 0],_,[],Lr 19,[4]⟩ :: []) (F:=[.p 19 0]) hst hb Za
  (Qf rfl Zi6 u_0<|Ql rfl Zkm u_0<|Qf rfl Zi6 u_0<|Ql rfl Zkm u_0<|o_p rfl (Zbt rfl rfl u_0 u_1)<|Qm rfl u_0<|o_g (Qg_t rfl (fun hG=>Zi Z34 rfl rfl u_0))<|o_g (Qg_t rfl (fun hG=>Zv ty_2 rfl rfl (Opd.gd hG u_0)))<|o_g (Qg_t rfl (fun hG=>Zi Z34 rfl rfl u_0))<|o_g (Qg_t rfl (fun hG=>Zv ty_2 rfl rfl (Opd.gd hG u_0)))<|o_g (Qg_t rfl (fun hG=>Zbt rfl rfl (Opd.gd hG u_0) (Opd.gd hG u_1)))<|o_p rfl (Zbk rfl rfl u_0 (fun hz=>(Opd.gd hz u_1)))<|Qm rfl u_0<|o_g (Qg_t rfl (fun hG=>Zi Zp8 rfl rfl u_0))<|o_g (Qg_t rfl (fun hG=>Zv Zbe rfl rfl (Opd.gd hG u_0)))<|o_g (Qg_t rfl (fun hG=>Zi Zp8 rfl rfl u_0))<|o_g (Qg_t rfl (fun hG=>Zv Zbe rfl rfl (Opd.gd hG u_0)))<|o_g (Qg_t rfl (fun hG=>Zl Z5r (Zma _ _ (Zbn h2 hG)) rfl rfl (.cons (Opd.gd hG u_0) (.cons (Opd.gd hG u_1) .nil))))<|o_p rfl (Zbk rfl rfl u_0 (fun hz=>(Opd.gd hz u_1)))<|Qa rfl u_0<|o_n) (fun a g hst hb=>?_)
 refine wp_ret ?_
 obtain rfl:=Option.some.inj H0
 exact Z4 rfl hst hb (Zg (s:=4)) (hst.at 0 rfl)
theorem Zse (a0:Zs) (a1:Zs) {r:Bool} (h:Zjg a0 a1=some r):FnOk Tryz.prog 20 [(Zbo.pd a0),(Zbo.pd a1)] (Zbf r):=by
 have H0:=h
 unfold Zjg at H0
 clear h
 refine Zbs (N:=46) Tryz.func20 rfl rfl (Qe rfl) rfl rfl (fun a g0 hst hb=>?_)
 refine r_s (T:=[⟨[.o 0],_,[],[],[2]⟩,⟨[.o 1],_,[],[],[3]⟩,⟨[],_,[],[],[4]⟩]) (F:=[.p 0 0,.p 1 0]) hst hb Za
  (Qb rfl u_0<|Qb rfl u_0<|Qa rfl c_b<|o_n) (fun a g hst hb=>?_)
 refine wp_seq ?_
 refine r_s (T:=⟨[.o 0],_,[],[],[6]⟩ :: ⟨[.p 0 0],_,[],[0],[7]⟩ :: ⟨[.o 1],_,[],[],[8]⟩ :: ⟨[.p 2 0],_,[],[2],[9]⟩ :: ⟨[.p 1 0,.p 3 0],_,[],Lr 4,[10]⟩ :: ⟨[.p 4 0],_,[],Lr 5,[11]⟩ :: ⟨[.p 5 0,.o 0],_,[],Lr 6,[12]⟩ :: ⟨[.p 5 0,.p 6 0],_,[],Lr 7,[13]⟩ :: ⟨[.p 5 0,.o 1],_,[],Lr 6,[14]⟩ :: ⟨[.p 5 0,.p 8 0],_,[],[0,1,2,3,4,5,8],[15]⟩ :: ⟨[.p 5 0,.p 7 0,.p 9 0],_,[],Lr 10,[16]⟩ :: ⟨[.p 5 0,.p 10 0],_,[],Lr 11,[17]⟩ :: ⟨[.p 11 0],_,[],Lr 12,[18]⟩ :: ⟨[.p 12 0,.o 0],_,[],Lr 13,[19]⟩ :: ⟨[.p 12 0,.p 13 0],_,[],Lr 14,[20]⟩ :: ⟨[.p 12 0,.p 14 0],_,[],Lr 15,[21]⟩ :: ⟨[.p 12 0,.o 1],_,[],Lr 13,[22]⟩ :: ⟨[.p 12 0,.p 16 0],_,[],0 :: 1 :: 2 :: 3 :: 4 :: 5 :: 6 :: 7 :: 8 :: 9 :: 10 :: 11 :: 12 :: 16 :: [],[23]⟩ :: ⟨[.p 12 0,.p 17 0],_,[],0 :: 1 :: 2 :: 3 :: 4 :: 5 :: 6 :: 7 :: 8 :: 9 :: 10 :: 11 :: 12 :: 16 :: 17 :: [],[24]⟩ :: ⟨[.p 12 0,.p 15 0,.p 18 0],_,[],Lr 19,[25]⟩ :: ⟨[.p 12 0,.p 19 0],_,[],Lr 20,[26]⟩ :: []) (F:=[.o 0,.o 1,.p 20 0]) hst hb Za
  (Qf rfl Z31 u_0<|Ql rfl Zkm u_0<|Qf rfl Z31 u_0<|Ql rfl Zkm u_0<|o_p rfl (Zdn rfl rfl u_0 u_1)<|Qm rfl u_0<|o_g (Qg_f rfl (fun hG=>Zi Z4r rfl rfl u_0))<|o_g (Qg_f rfl (fun hG=>Zv ty_3 rfl rfl (Opd.gd hG u_0)))<|o_g (Qg_f rfl (fun hG=>Zi Z4r rfl rfl u_0))<|o_g (Qg_f rfl (fun hG=>Zv ty_3 rfl rfl (Opd.gd hG u_0)))<|o_g (Qg_f rfl (fun hG=>Zdn rfl rfl (Opd.gd hG u_0) (Opd.gd hG u_1)))<|o_p rfl (Zbp rfl rfl u_0 (fun hz=>(Opd.gd (bNF hz) u_1)))<|Qm rfl u_0<|o_g (Qg_f rfl (fun hG=>Zi Zn0 rfl rfl u_0))<|o_g (Qg_f rfl (fun hG=>Zv Zs9 rfl rfl (Opd.gd hG u_0)))<|o_g (Qg_f rfl (fun hG=>Zbx Tryz.underlying47 rfl rfl (Opd.gd hG u_0)))<|o_g (Qg_f rfl (fun hG=>Zi Zn0 rfl rfl u_0))<|o_g (Qg_f rfl (fun hG=>Zv Zs9 rfl rfl (Opd.gd hG u_0)))<|o_g (Qg_f rfl (fun hG=>Zbx Tryz.underlying47 rfl rfl (Opd.gd hG u_0)))<|o_g (Qg_f rfl (fun hG=>Zdn rfl rfl (Opd.gd hG u_0) (Opd.gd hG u_1)))<|o_p rfl (Zbp rfl rfl u_0 (fun hz=>(Opd.gd (bNF hz) u_1)))<|o_n) (fun a g hst hb=>?_)
 refine wp_cond_split (hst.bool 2 rfl) (fun hc1=>?_) (fun hc1=>?_)
 ·replace H0:=Zu hc1 H0
  refine r_s (L:=[]) (T:=[⟨[],_,[],[],[4]⟩]) (F:=[.p 0 0]) (hst.pick [] rfl) hb Za
   (Qa rfl c_b<|o_n) (fun a g hst hb=>?_)
  refine wp_ret ?_
  refine Zo ?_
  obtain rfl:=Option.some.inj H0
  exact Z4 rfl hst hb (Zg (s:=4)) (hst.at 0 rfl)
 ·replace H0:=Zt hc1 H0
  refine wp_skip ?_
  refine Zp ?_
  refine wp_seq ?_
  refine r_s (L:=[(2,_),(3,_)]) (T:=[⟨[],_,[],[],[5]⟩]) (F:=[.o 0,.o 1,.p 0 0]) (hst.pick [0,1] rfl) hb Za
   (Qa rfl c_i<|o_n) (fun a g hst hb=>?_)
  obtain ⟨z11,hz1,H0⟩:=Zc H0
  refine Zb3 (fun a w=>∃ (g:G),w=g.w ∧ St 46 [] a g ∧ Base g0 g ∧ (.inr ())=z11) ?_ ?_
  ·rintro a w ⟨g,rfl,hst,hb,rfl⟩
   refine Zp ?_
   refine r_s (T:=[⟨[],_,[],[],[4]⟩]) (F:=[.p 0 0]) hst hb Za
    (Qa rfl c_b<|o_n) (fun a g hst hb=>?_)
   refine wp_ret ?_
   obtain rfl:=Option.some.inj H0
   exact Z4 rfl hst hb (Zg (s:=4)) (hst.at 0 rfl)
  ·refine wp_block ?_
   refine wp_loop_ghost (fun n a w=>∃ (x2:Int) (g:G),w=g.w ∧ St 46 [(2,(Zbo.ptr a0)),(3,(Zbo.ptr a1)),(5,(pInt .i64 x2))] a g ∧ Base g0 g ∧ Zer a0 a1 n x2=some z11) (Int.toNat ((a0.Answers.length:Int) - (0:Int)) + 1) ⟨(0:Int),g,rfl,(hst.pick [0,1,2] rfl),hb,hz1⟩ (fun n a w hI=>?_)
   obtain ⟨x2,g,rfl,hst,hb,H1⟩:=hI
   cases n with
   | zero=>exact absurd H1 (by simp [Zer])
   | succ n =>
    rw [Zer] at H1
    refine wp_seq ?_
    refine r_s (T:=[⟨[.o 2],_,[],[],[27]⟩,⟨[.o 0],_,[],[],[28]⟩,⟨[.p 1 0],_,[],[1],[29]⟩,⟨[.p 2 0],_,[],[1,2],[30]⟩,⟨[.p 0 0,.p 3 0],_,[],Lr 4,[31]⟩]) (F:=[.o 0,.o 1,.o 2,.p 4 0]) hst hb Za
     (Qm rfl u_0<|Qf rfl Zn0 u_0<|Ql rfl Zs9 u_0<|o_p rfl (Zbx Tryz.underlying47 rfl rfl u_0)<|o_p rfl (Zca rfl rfl u_0 u_1)<|o_n) (fun a g hst hb=>?_)
    refine wp_cond_split (hst.bool 3 rfl) (fun hc3=>?_) (fun hc3=>?_)
    ·replace H1:=Zu hc3 H1
     refine wp_skip ?_
     refine Zp ?_
     refine wp_seq ?_
     refine wp_block ?_
     obtain ⟨e4,h5,H1⟩:=Zc H1;obtain ⟨e6,h7,H1⟩:=Zc H1;obtain ⟨r8,h9,H1⟩:=Zc H1
     refine r_s (L:=[(2,_),(3,_),(5,_)]) (T:=⟨[.o 0],_,[],[],[34]⟩ :: ⟨[.p 0 0],_,[],[0],[35]⟩ :: ⟨[.o 2],_,[],[],[36]⟩ :: ⟨[.p 1 0,.p 2 0],_,[],[0,1,2],[37]⟩ :: ⟨[.p 3 0],_,[],Lr 4,[38]⟩ :: ⟨[.o 1],_,[],[],[39]⟩ :: ⟨[.p 5 0],_,[],[5],[40]⟩ :: ⟨[.o 2],_,[],[],[41]⟩ :: ⟨[.p 6 0,.p 7 0],_,[],[5,6,7],[42]⟩ :: ⟨[.p 8 0],_,[],List.range' 5 4,[43]⟩ :: ⟨[.p 4 0,.p 9 0],_,[],Lr 10,[44]⟩ :: ⟨[.p 10 0],_,[],Lr 11,[45]⟩ :: []) (F:=[.o 0,.o 1,.o 2,.p 11 0]) (hst.pick [0,1,2] rfl) hb Za
      (Qf rfl Zn0 u_0<|Ql rfl Zs9 u_0<|Qm rfl u_0<|o_p rfl (Zbl Tryz.underlying47 Z0u rfl rfl u_0 u_1 h5)<|Ql rfl Zb8 u_0<|Qf rfl Zn0 u_0<|Ql rfl Zs9 u_0<|Qm rfl u_0<|o_p rfl (Zbl Tryz.underlying47 Z0u rfl rfl u_0 u_1 h7)<|Ql rfl Zb8 u_0<|o_p rfl (Zl Zbfz (Zti _ _ h9) rfl rfl (.cons u_0 (.cons u_1 .nil)))<|Qn rfl u_0<|o_n) (fun a g hst hb=>?_)
     refine wp_cond_split (hst.bool 3 rfl) (fun hc10=>?_) (fun hc10=>?_)
     ·replace H1:=Zu hc10 H1
      refine r_s (L:=[]) (T:=[⟨[],_,[],[],[4]⟩]) (F:=[.p 0 0]) (hst.pick [] rfl) hb Za
       (Qa rfl c_b<|o_n) (fun a g hst hb=>?_)
      refine wp_ret ?_
      refine Z5 ?_
      refine Zo ?_
      refine Zo ?_
      refine Z5 ?_
      refine Zo ?_
      refine Zo ?_
      obtain rfl:=Option.some.inj H1
      obtain rfl:=Option.some.inj H0
      exact Z4 rfl hst hb (Zg (s:=4)) (hst.at 0 rfl)
     ·replace H1:=Zt hc10 H1
      refine wp_skip ?_
      refine Zbc ?_
      refine Zp ?_
      refine r_g (L:=[(2,_),(3,_),(5,_)]) (T:=[⟨[.o 2],_,[],[],[32]⟩,⟨[.p 0 0],_,[],[0],[33]⟩,⟨[.p 1 0],_,[],[0,1],[5]⟩]) (F:=[.o 0,.o 1,.p 2 0]) (hst.pick [0,1,2] rfl) hb Za
       (Qm rfl u_0<|o_p rfl (Zb0 rfl rfl u_0 c_i rfl)<|Qa rfl u_0<|o_n) (fun a g hst hb=>?_)
      exact ⟨n,Nat.lt_succ_self _,(IntKind.i64.wrap (x2 + (1:Int))),g,rfl,(hst.pick [0,1,2] rfl),hb,H1⟩
    ·replace H1:=Zt hc3 H1
     refine wp_exit ?_
     refine Zby ?_
     refine Zby ?_
     refine Zcb ?_
     exact ⟨g,rfl,(hst.pick [] rfl),hb,Option.some.inj H1⟩
theorem Zsr (a0:List Zs) (a1:List Zs) {r:Bool} (h:Zji a0 a1=some r):FnOk Tryz.prog 27 [(Zbo.sl.pd a0),(Zbo.sl.pd a1)] (Zbf r):=by
 have H0:=h
 unfold Zji at H0
 clear h
 refine Zbs (N:=27) Tryz.func27 rfl rfl (Qe rfl) rfl rfl (fun a g0 hst hb=>?_)
 refine r_s (T:=[⟨[],_,[],[],[4]⟩]) (F:=[.o 0,.o 1]) hst hb Za
  (Qa rfl c_b<|o_n) (fun a g hst hb=>?_)
 refine wp_seq ?_
 refine r_s (T:=[⟨[.o 0],_,[],[],[6]⟩,⟨[.p 0 0],_,[],[0],[7]⟩,⟨[.o 1],_,[],[],[8]⟩,⟨[.p 2 0],_,[],[2],[9]⟩,⟨[.p 1 0,.p 3 0],_,[],Lr 4,[10]⟩]) (F:=[.o 0,.o 1,.p 4 0]) hst hb Za
  (Qm rfl u_0<|o_p rfl (Zbx Tryz.underlying74 rfl rfl u_0)<|Qm rfl u_0<|o_p rfl (Zbx Tryz.underlying74 rfl rfl u_0)<|o_p rfl (Zdn rfl rfl u_0 u_1)<|o_n) (fun a g hst hb=>?_)
 refine wp_cond_split (hst.bool 2 rfl) (fun hc1=>?_) (fun hc1=>?_)
 ·replace H0:=Zu hc1 H0
  refine r_s (L:=[]) (T:=[⟨[],_,[],[],[4]⟩]) (F:=[.p 0 0]) (hst.pick [] rfl) hb Za
   (Qa rfl c_b<|o_n) (fun a g hst hb=>?_)
  refine wp_ret ?_
  refine Zo ?_
  obtain rfl:=Option.some.inj H0
  exact Z4 rfl hst hb (Zg (s:=4)) (hst.at 0 rfl)
 ·replace H0:=Zt hc1 H0
  refine wp_skip ?_
  refine Zp ?_
  refine wp_seq ?_
  refine r_s (L:=[(0,_),(1,_)]) (T:=[⟨[],_,[],[],[5]⟩]) (F:=[.o 0,.o 1,.p 0 0]) (hst.pick [0,1] rfl) hb Za
   (Qa rfl c_i<|o_n) (fun a g hst hb=>?_)
  obtain ⟨z11,hz1,H0⟩:=Zc H0
  refine Zb3 (fun a w=>∃ (g:G),w=g.w ∧ St 27 [] a g ∧ Base g0 g ∧ (.inr ())=z11) ?_ ?_
  ·rintro a w ⟨g,rfl,hst,hb,rfl⟩
   refine Zp ?_
   refine r_s (T:=[⟨[],_,[],[],[4]⟩]) (F:=[.p 0 0]) hst hb Za
    (Qa rfl c_b<|o_n) (fun a g hst hb=>?_)
   refine wp_ret ?_
   obtain rfl:=Option.some.inj H0
   exact Z4 rfl hst hb (Zg (s:=4)) (hst.at 0 rfl)
  ·refine wp_block ?_
   refine wp_loop_ghost (fun n a w=>∃ (x2:Int) (g:G),w=g.w ∧ St 27 [(0,(Zbo.sl.pd a0)),(1,(Zbo.sl.pd a1)),(5,(pInt .i64 x2))] a g ∧ Base g0 g ∧ Zei a0 a1 n x2=some z11) (Int.toNat ((a0.length:Int) - (0:Int)) + 1) ⟨(0:Int),g,rfl,(hst.pick [0,1,2] rfl),hb,hz1⟩ (fun n a w hI=>?_)
   obtain ⟨x2,g,rfl,hst,hb,H1⟩:=hI
   cases n with
   | zero=>exact absurd H1 (by simp [Zei])
   | succ n =>
    rw [Zei] at H1
    refine wp_seq ?_
    refine r_s (T:=[⟨[.o 2],_,[],[],[11]⟩,⟨[.o 0],_,[],[],[12]⟩,⟨[.p 1 0],_,[],[1],[13]⟩,⟨[.p 0 0,.p 2 0],_,[],[0,1,2],[14]⟩]) (F:=[.o 0,.o 1,.o 2,.p 3 0]) hst hb Za
     (Qm rfl u_0<|Qm rfl u_0<|o_p rfl (Zbx Tryz.underlying74 rfl rfl u_0)<|o_p rfl (Zca rfl rfl u_0 u_1)<|o_n) (fun a g hst hb=>?_)
    refine wp_cond_split (hst.bool 3 rfl) (fun hc3=>?_) (fun hc3=>?_)
    ·replace H1:=Zu hc3 H1
     refine wp_skip ?_
     refine Zp ?_
     refine wp_seq ?_
     refine wp_block ?_
     obtain ⟨e4,h5,H1⟩:=Zc H1;obtain ⟨e6,h7,H1⟩:=Zc H1;obtain ⟨r8,h9,H1⟩:=Zc H1
     refine r_s (L:=[(0,_),(1,_),(5,_)]) (T:=[⟨[.o 0],_,[],[],[17]⟩,⟨[.o 2],_,[],[],[18]⟩,⟨[.p 0 0,.p 1 0],_,[],[0,1],[19]⟩,⟨[.p 2 0],_,[],[0,1,2],[20]⟩,⟨[.o 1],_,[],[],[21]⟩,⟨[.o 2],_,[],[],[22]⟩,⟨[.p 4 0,.p 5 0],_,[],[4,5],[23]⟩,⟨[.p 6 0],_,[],[4,5,6],[24]⟩,⟨[.p 3 0,.p 7 0],_,[],Lr 8,[25]⟩,⟨[.p 8 0],_,[],Lr 9,[26]⟩]) (F:=[.o 0,.o 1,.o 2,.p 9 0]) (hst.pick [0,1,2] rfl) hb Za
      (Qm rfl u_0<|Qm rfl u_0<|o_p rfl (Zbl Tryz.underlying74 Z9v rfl rfl u_0 u_1 h5)<|Ql rfl Zh4 u_0<|Qm rfl u_0<|Qm rfl u_0<|o_p rfl (Zbl Tryz.underlying74 Z9v rfl rfl u_0 u_1 h7)<|Ql rfl Zh4 u_0<|o_p rfl (Zl Zbff (Zse _ _ h9) rfl rfl (.cons u_0 (.cons u_1 .nil)))<|Qn rfl u_0<|o_n) (fun a g hst hb=>?_)
     refine wp_cond_split (hst.bool 3 rfl) (fun hc10=>?_) (fun hc10=>?_)
     ·replace H1:=Zu hc10 H1
      refine r_s (L:=[]) (T:=[⟨[],_,[],[],[4]⟩]) (F:=[.p 0 0]) (hst.pick [] rfl) hb Za
       (Qa rfl c_b<|o_n) (fun a g hst hb=>?_)
      refine wp_ret ?_
      refine Z5 ?_
      refine Zo ?_
      refine Zo ?_
      refine Z5 ?_
      refine Zo ?_
      refine Zo ?_
      obtain rfl:=Option.some.inj H1
      obtain rfl:=Option.some.inj H0
      exact Z4 rfl hst hb (Zg (s:=4)) (hst.at 0 rfl)
     ·replace H1:=Zt hc10 H1
      refine wp_skip ?_
      refine Zbc ?_
      refine Zp ?_
      refine r_g (L:=[(0,_),(1,_),(5,_)]) (T:=[⟨[.o 2],_,[],[],[15]⟩,⟨[.p 0 0],_,[],[0],[16]⟩,⟨[.p 1 0],_,[],[0,1],[5]⟩]) (F:=[.o 0,.o 1,.p 2 0]) (hst.pick [0,1,2] rfl) hb Za
       (Qm rfl u_0<|o_p rfl (Zb0 rfl rfl u_0 c_i rfl)<|Qa rfl u_0<|o_n) (fun a g hst hb=>?_)
      exact ⟨n,Nat.lt_succ_self _,(IntKind.i64.wrap (x2 + (1:Int))),g,rfl,(hst.pick [0,1,2] rfl),hb,H1⟩
    ·replace H1:=Zt hc3 H1
     refine wp_exit ?_
     refine Zby ?_
     refine Zby ?_
     refine Zcb ?_
     exact ⟨g,rfl,(hst.pick [] rfl),hb,Option.some.inj H1⟩
theorem Zqy (a0:List Zbg) (a1:List Z9) (a2:List Bool) {r:Bool} (h:Zi5 a0 a1 a2=some r):FnOk Tryz.prog 6 [(Zb6.sl.pd a0),((Kd.arr 2 Zbq).pd a1),(Kd.bool.sl.pd a2)] (Zbf r):=by
 have H0:=h
 unfold Zi5 at H0
 clear h
 refine Zbs (N:=132) Tryz.func6 rfl rfl (Qe rfl) rfl rfl (fun a g0 hst hb=>?_)
 refine r_s (T:=[⟨[.o 1],_,[],[],[4]⟩,⟨[],_,[],[],[6]⟩]) (F:=[.o 0,.o 2,.p 0 0]) hst hb Za
  (Qb rfl u_0<|Qa rfl c_b<|o_n) (fun a g hst hb=>?_)
 refine wp_seq ?_
 obtain ⟨r1,h2,H0⟩:=Zc H0
 refine r_s (T:=[⟨[],_,[],[],[23]⟩,⟨[.p 0 0],_,[],[0],[24]⟩]) (F:=[.o 0,.o 1,.o 2,.p 1 0]) hst hb Za
  (o_p rfl (Zl en_7 (Zrw h2) rfl rfl .nil)<|Qn rfl u_0<|o_n) (fun a g hst hb=>?_)
 refine wp_cond_split (hst.bool 3 rfl) (fun hc3=>?_) (fun hc3=>?_)
 ·replace H0:=Zu hc3 H0
  refine r_s (L:=[]) (T:=[⟨[],_,[],[],[6]⟩]) (F:=[.p 0 0]) (hst.pick [] rfl) hb Za
   (Qa rfl c_b<|o_n) (fun a g hst hb=>?_)
  refine wp_ret ?_
  refine Zo ?_
  obtain rfl:=Option.some.inj H0
  exact Z4 rfl hst hb (Zg (s:=6)) (hst.at 0 rfl)
 ·replace H0:=Zt hc3 H0
  refine wp_skip ?_
  refine Zp ?_
  obtain ⟨r4,h5,H0⟩:=Zc H0
  refine r_s (L:=[(0,_),(2,_),(4,_)]) (T:=[⟨[.o 0],_,[],[],[26]⟩,⟨[.p 0 0],_,[],[0],[27]⟩,⟨[.p 1 0],_,[],[0,1],[25]⟩,⟨[.p 2 0],_,[],[0,1,2],[28]⟩,⟨[.p 2 0],_,[],[0,1,2],[29]⟩,⟨[],[(7,(pBox Zy 7 (default:Zk)))],[8],[],[7]⟩,⟨[.p 3 0,.p 5 0],_,[8],[0,1,2,3,5],[7]⟩,⟨[.p 4 0],_,[],Lr 7,[8]⟩]) (F:=[.o 1,.o 2,.p 6 0,.p 7 0]) (hst.pick [0,1,2] rfl) hb Za
   (Qm rfl u_0<|o_p rfl (Zl en_8 (Zsn _ _ h5) rfl rfl (.cons c_i (.cons u_0 .nil)))<|Qm rfl u_0<|o_p rfl (Zz rfl rfl u_0 rfl)<|o_p rfl (Zz rfl rfl u_0 rfl)<|o_p rfl (Zbi (zs:=[.pointer none,.int .i64 0]) (by kernel_rfl) (fun g=>Zdx g) rfl rfl)<|o_p rfl (Zb5 Zbv rfl rfl u_1 u_0)<|Qa rfl u_0<|o_n) (fun a g hst hb=>?_)
  refine wp_seq ?_
  obtain ⟨r6,h7,H0⟩:=Zc H0;obtain ⟨e8,h9,H0⟩:=Zc H0;obtain ⟨e10,h11,H0⟩:=Zc H0;obtain ⟨r12,h13,H0⟩:=Zc H0
  refine r_s (T:=⟨[.o 3],_,[],[],[30]⟩ :: ⟨[.p 0 0],_,[],[0],[31]⟩ :: ⟨[.p 1 0],_,[],[0,1],[32]⟩ :: ⟨[.p 2 0,.o 1],_,[],[0,1,2],[33]⟩ :: ⟨[.p 2 0,.p 3 0],_,[],Lr 4,[34]⟩ :: ⟨[.p 2 0,.p 4 0],_,[],Lr 5,[35]⟩ :: ⟨[.p 2 0,.p 5 0],_,[],Lr 6,[36]⟩ :: ⟨[.p 6 0],_,[],Lr 7,[37]⟩ :: ⟨[.p 7 0,.o 0],_,[],Lr 8,[38]⟩ :: ⟨[.p 7 0,.p 8 0],_,[],Lr 9,[39]⟩ :: ⟨[.p 7 0,.p 9 0],_,[],Lr 10,[40]⟩ :: ⟨[.p 7 0,.p 10 0],_,[],Lr 11,[41]⟩ :: ⟨[.p 11 0],_,[],Lr 12,[42]⟩ :: ⟨[.p 12 0,.o 1],_,[],Lr 13,[43]⟩ :: ⟨[.p 12 0,.p 13 0],_,[],Lr 14,[44]⟩ :: ⟨[.p 12 0,.o 1],_,[],Lr 13,[45]⟩ :: ⟨[.p 12 0,.p 15 0],_,[],0 :: 1 :: 2 :: 3 :: 4 :: 5 :: 6 :: 7 :: 8 :: 9 :: 10 :: 11 :: 12 :: 15 :: [],[46]⟩ :: ⟨[.p 12 0,.p 14 0,.p 16 0],[(47,(pIf (!((r4.2.isNone || (decide ((0:Int) < r6))) || (decide ((60:Int) < (a2.length:Int))))) (Zbf r12)))],[],Lr 17,[47]⟩ :: ⟨[.p 12 0,.p 17 0],_,[],Lr 18,[48]⟩ :: []) (F:=[.o 0,.o 1,.o 2,.o 3,.p 18 0]) hst hb Za
   (Qm rfl u_0<|o_p rfl (Zpr Tryz.underlying31 rfl rfl u_0 Z59)<|Qm rfl u_0<|o_g (Qg_f rfl (fun hG=>Zzp Tryz.underlying69 Zq5 (by decide) rfl rfl u_0))<|o_g (Qg_f rfl (fun hG=>Zl Zbfu (Zus _ (Zbn h7 hG)) rfl rfl (.cons (Opd.gd hG u_0) .nil)))<|o_g (Qg_f rfl (fun hG=>Zct rfl rfl (Opd.gd hG u_0) c_i))<|o_p rfl (Zbp rfl rfl u_0 (fun hz=>(Opd.gd (bNF hz) u_1)))<|Qm rfl u_0<|o_g (Qg_f rfl (fun hG=>Z6 rfl rfl u_0))<|o_g (Qg_f rfl (fun hG=>Zbx Tryz.underlying70 rfl rfl (Opd.gd hG u_0)))<|o_g (Qg_f rfl (fun hG=>Zct rfl rfl (Opd.gd hG u_0) c_i))<|o_p rfl (Zbp rfl rfl u_0 (fun hz=>(Opd.gd (bNF hz) u_1)))<|Qm rfl u_0<|o_g (Qg_f rfl (fun hG=>Zne Tryz.underlying69 Zq5 rfl rfl u_0 c_i (Zbn h9 hG)))<|o_g (Qg_f rfl (fun hG=>Zv Zka rfl rfl (Opd.gd hG u_0)))<|o_g (Qg_f rfl (fun hG=>Zne Tryz.underlying69 Zq5 rfl rfl u_0 c_i (Zbn h11 hG)))<|o_g (Qg_f rfl (fun hG=>Zv Zka rfl rfl (Opd.gd hG u_0)))<|o_g (Qg_f rfl (fun hG=>Zl Zbeu (Z1m _ _ _ (Zbn h13 hG)) rfl rfl (.cons (Opd.gd hG u_0) (.cons (Opd.gd hG u_1) (.cons (Opd.c (fun g=>Zf4 g)) .nil)))))<|o_p rfl (Zbp rfl rfl u_0 (fun hz=>(Opd.gd (bNF hz) u_1)))<|o_n) (fun a g hst hb=>?_)
  refine wp_cond_split (hst.bool 4 rfl) (fun hc14=>?_) (fun hc14=>?_)
  ·replace H0:=Zu hc14 H0
   refine r_s (L:=[]) (T:=[⟨[],_,[],[],[6]⟩]) (F:=[.p 0 0]) (hst.pick [] rfl) hb Za
    (Qa rfl c_b<|o_n) (fun a g hst hb=>?_)
   refine wp_ret ?_
   refine Zo ?_
   obtain rfl:=Option.some.inj H0
   exact Z4 rfl hst hb (Zg (s:=6)) (hst.at 0 rfl)
  ·replace H0:=Zt hc14 H0
   refine wp_skip ?_
   refine Zp ?_
   obtain ⟨e15,h16,H0⟩:=Zc H0;obtain ⟨r17,h18,H0⟩:=Zc H0;obtain ⟨e19,h20,H0⟩:=Zc H0;obtain ⟨r21,h22,H0⟩:=Zc H0
   refine r_s (L:=[(2,_),(4,_),(7,_),(8,_)]) (T:=[⟨[.o 1],_,[],[],[49]⟩,⟨[.p 0 0],_,[],[0],[50]⟩,⟨[.o 2],_,[],[],[51]⟩,⟨[.p 1 0,.p 2 0],[(52,(Zcc none Zb4 52 r17))],[53,1000053],[0,1,2],[52]⟩,⟨[.o 1],_,[],[],[53]⟩,⟨[.p 4 0],_,[],[4],[54]⟩,⟨[.o 2],_,[],[],[55]⟩,⟨[.p 5 0,.p 6 0],[(56,(Zcc none Zb4 56 r21))],[57,1000057],Lr 7,[56]⟩,⟨[.p 3 0],[(9,(Zcc none Zb4 52 r17))],[],Lr 8,[9]⟩,⟨[.p 7 0],[(10,(Zcc none Zb4 56 r21))],[],Lr 9,[10]⟩]) (F:=[.o 0,.o 1,.o 2,.o 3,.p 8 0,.p 9 0]) (hst.pick [0,1,2,3] rfl) hb Za
    (o_p rfl (Zne Tryz.underlying69 Zq5 rfl rfl u_0 c_i h16)<|Ql rfl Zka u_0<|Ql rfl Zbv u_0<|o_p rfl (Zo3 Z0t (Zo4 _ _ _ h18) rfl rfl (.cons u_0 (.cons u_1 (.cons (Opd.c (fun g=>Zf4 g)) .nil))))<|o_p rfl (Zne Tryz.underlying69 Zq5 rfl rfl u_0 c_i h20)<|Ql rfl Zka u_0<|Ql rfl Zbv u_0<|o_p rfl (Zo3 Z0t (Zo4 _ _ _ h22) rfl rfl (.cons u_0 (.cons u_1 (.cons (Opd.c (fun g=>Zf4 g)) .nil))))<|Qa rfl u_0<|Qa rfl u_0<|o_n) (fun a g hst hb=>?_)
   refine wp_seq ?_
   refine r_s (T:=[⟨[.o 0],_,[],[],[57]⟩,⟨[.p 0 0],_,[],[0],[58]⟩,⟨[],_,[],[],[59]⟩]) (F:=[.o 1,.o 2,.o 3,.o 4,.o 5,.p 0 0,.p 1 0,.p 2 0]) hst hb Za
    (Qm rfl u_0<|o_p rfl (Zbx Tryz.underlying70 rfl rfl u_0)<|Qm rfl c_i<|o_n) (fun a g hst hb=>?_)
   obtain ⟨z38,hz1,H0⟩:=Zc H0
   refine Zb3 (fun a w=>∃ (y36:Zw) (y37:Zw) (g:G),w=g.w ∧ St 132 [(4,((Kd.arr 2 Zbq).ptr a1)),(7,(Zy.ptr r4.1)),(8,(Z7.opt.pd r4.2)),(9,(Zcc none Zb4 52 y36)),(10,(Zcc none Zb4 56 y37))] a g ∧ Base g0 g ∧ (y36,y37)=z38) ?_ ?_
   ·rintro a w ⟨y36,y37,g,rfl,hst,hb,rfl⟩
    refine Zp ?_
    obtain ⟨r39,h40,H0⟩:=Zc H0
    refine r_s (T:=[⟨[.o 3],[(69,(Zcc none Zb4 52 y36))],[],[],[69]⟩,⟨[.p 0 0,.o 3],[(70,(pInt .i64 r39.2)),(9,(Zcc none Zb4 52 r39.1))],[53,1000053],[0],[9,69,70]⟩]) (F:=[.o 0,.o 1,.o 2,.p 1 1,.o 4]) hst hb Za
     (Qm rfl u_0<|o_p rfl (Zef Zbab (Zo9 _ h40) rfl rfl rfl (by decide) u_1 u_0 .nil)<|o_n) (fun a g hst hb=>?_)
    obtain ⟨r41,h42,H0⟩:=Zc H0
    refine r_s (T:=[⟨[.o 4],[(71,(Zcc none Zb4 56 y37))],[],[],[71]⟩,⟨[.p 0 0,.o 4],[(72,(pInt .i64 r41.2)),(10,(Zcc none Zb4 56 r41.1))],[57,1000057],[0],[10,71,72]⟩]) (F:=[.o 0,.o 1,.o 2,.o 3,.p 1 1]) hst hb Za
     (Qm rfl u_0<|o_p rfl (Zef Zbab (Zo9 _ h42) rfl rfl rfl (by decide) u_1 u_0 .nil)<|o_n) (fun a g hst hb=>?_)
    obtain ⟨r43,h44,H0⟩:=Zc H0
    refine r_s (T:=[⟨[.o 3],[(74,(Zcc none Zb4 52 r39.1))],[],[],[74]⟩,⟨[.o 1],_,[],[],[75]⟩,⟨[.p 0 0,.p 1 0,.o 3],[(76,(pTup [(Zy.pd r43.1),(Z0.sl.pd r43.2)])),(9,(Zcc none Zb4 52 r39.1))],[53,1000053],[0,1],[9,74,76]⟩,⟨[.p 2 0],_,[],[0,1,2],[73]⟩,⟨[.p 3 0],_,[],Lr 4,[77]⟩,⟨[.p 3 0],_,[],Lr 4,[78]⟩,⟨[],[(13,(pBox Zy 13 (default:Zk)))],[14],[],[13]⟩,⟨[.p 4 0,.p 6 0],_,[14],[0,1,2,3,4,6],[13]⟩,⟨[.p 5 0],_,[],Lr 8,[14]⟩]) (F:=[.o 0,.o 1,.o 2,.p 2 1,.o 4,.p 7 0]) hst hb Za
     (Qm rfl u_0<|Ql rfl Zbv u_0<|o_p rfl (Zef Zu0 (Zg1 _ _ h44) rfl rfl rfl (by decide) u_2 u_0 (.cons u_1 .nil))<|Qm rfl u_0<|o_p rfl (Zz rfl rfl u_0 rfl)<|o_p rfl (Zz rfl rfl u_0 rfl)<|o_p rfl (Zbi (zs:=[.pointer none,.int .i64 0]) (by kernel_rfl) (fun g=>Zdx g) rfl rfl)<|o_p rfl (Z3 Zbv rfl rfl u_1 u_0)<|Qa rfl u_0<|o_n) (fun a g hst hb=>?_)
    obtain ⟨r45,h46,H0⟩:=Zc H0
    refine r_s (T:=[⟨[.o 4],[(80,(Zcc none Zb4 56 r41.1))],[],[],[80]⟩,⟨[.o 5],_,[],[],[81]⟩,⟨[.p 0 0,.p 1 0,.o 4],[(82,(pTup [(Zy.pd r45.1),(Z0.sl.pd r45.2)])),(10,(Zcc none Zb4 56 r41.1))],[57,1000057],[0,1],[10,80,82]⟩,⟨[.p 2 0],_,[],[0,1,2],[79]⟩,⟨[.p 3 0],_,[],Lr 4,[83]⟩,⟨[.p 3 0],_,[],Lr 4,[84]⟩,⟨[.p 4 0,.o 5],_,[14],Lr 5,[13]⟩]) (F:=[.o 0,.o 1,.o 2,.o 3,.p 2 1,.p 6 0]) hst hb Za
     (Qm rfl u_0<|QM rfl Zbv u_0<|o_p rfl (Zef Zu0 (Zg1 _ _ h46) rfl rfl rfl (by decide) u_2 u_0 (.cons u_1 .nil))<|Qm rfl u_0<|o_p rfl (Zz rfl rfl u_0 rfl)<|o_p rfl (Zz rfl rfl u_0 rfl)<|o_p rfl (Z3 Zbv rfl rfl u_1 u_0)<|o_n) (fun a g hst hb=>?_)
    obtain ⟨r47,h48,H0⟩:=Zc H0
    refine r_s (T:=[⟨[.o 4],[(86,(Zcc none Zb4 56 r41.1))],[],[],[86]⟩,⟨[.o 1],_,[],[],[87]⟩,⟨[.p 0 0,.p 1 0,.o 4],[(88,(pTup [(Zy.pd r47.1),(Z0.sl.pd r47.2)])),(10,(Zcc none Zb4 56 r41.1))],[57,1000057],[0,1],[10,86,88]⟩,⟨[.p 2 0],_,[],[0,1,2],[85]⟩,⟨[.p 3 0],_,[],Lr 4,[89]⟩,⟨[.p 3 0],_,[],Lr 4,[90]⟩,⟨[],[(15,(pBox Zy 15 (default:Zk)))],[16],[],[15]⟩,⟨[.p 4 0,.p 6 0],_,[16],[0,1,2,3,4,6],[15]⟩,⟨[.p 5 0],_,[],Lr 8,[16]⟩]) (F:=[.o 0,.o 2,.o 3,.p 2 1,.o 5,.p 7 0]) hst hb Za
     (Qm rfl u_0<|Ql rfl Zbv u_0<|o_p rfl (Zef Zu0 (Zg1 _ _ h48) rfl rfl rfl (by decide) u_2 u_0 (.cons u_1 .nil))<|Qm rfl u_0<|o_p rfl (Zz rfl rfl u_0 rfl)<|o_p rfl (Zz rfl rfl u_0 rfl)<|o_p rfl (Zbi (zs:=[.pointer none,.int .i64 0]) (by kernel_rfl) (fun g=>Zdx g) rfl rfl)<|o_p rfl (Z3 Zbv rfl rfl u_1 u_0)<|Qa rfl u_0<|o_n) (fun a g hst hb=>?_)
    obtain ⟨r49,h50,H0⟩:=Zc H0
    refine r_s (T:=[⟨[.o 2],[(92,(Zcc none Zb4 52 r39.1))],[],[],[92]⟩,⟨[.o 5],_,[],[],[93]⟩,⟨[.p 0 0,.p 1 0,.o 2],[(94,(pTup [(Zy.pd r49.1),(Z0.sl.pd r49.2)])),(9,(Zcc none Zb4 52 r39.1))],[53,1000053],[0,1],[9,92,94]⟩,⟨[.p 2 0],_,[],[0,1,2],[91]⟩,⟨[.p 3 0],_,[],Lr 4,[95]⟩,⟨[.p 3 0],_,[],Lr 4,[96]⟩,⟨[.p 4 0,.o 5],_,[16],Lr 5,[15]⟩]) (F:=[.o 0,.o 1,.p 2 1,.o 3,.o 4,.p 6 0]) hst hb Za
     (Qm rfl u_0<|QM rfl Zbv u_0<|o_p rfl (Zef Zu0 (Zg1 _ _ h50) rfl rfl rfl (by decide) u_2 u_0 (.cons u_1 .nil))<|Qm rfl u_0<|o_p rfl (Zz rfl rfl u_0 rfl)<|o_p rfl (Zz rfl rfl u_0 rfl)<|o_p rfl (Z3 Zbv rfl rfl u_1 u_0)<|o_n) (fun a g hst hb=>?_)
    obtain ⟨n51,h52,H0⟩:=Zc H0;obtain ⟨r53,h54,H0⟩:=Zc H0
    refine r_s (T:=[⟨[.o 1],_,[],[],[98]⟩,⟨[.p 0 0],_,[],[0],[99]⟩,⟨[.p 1 0],_,[],[0,1],[100]⟩,⟨[.o 0],_,[],[],[101]⟩,⟨[.p 2 0,.p 3 0],_,[],Lr 4,[102]⟩,⟨[.p 4 0],_,[],Lr 5,[97]⟩,⟨[.p 5 0],_,[],Lr 6,[103]⟩,⟨[.p 5 0],_,[],Lr 6,[104]⟩,⟨[],[(17,(pBox Z7 17 (default:Zf)))],[18],[],[17]⟩,⟨[.p 6 0,.p 8 0],_,[18],[0,1,2,3,4,5,6,8],[17]⟩,⟨[.p 7 0],_,[],Lr 10,[18]⟩]) (F:=[.o 2,.o 3,.o 4,.o 5,.p 9 0,.p 10 0]) hst hb Za
     (Qm rfl u_0<|o_p rfl (Zq rfl rfl (Opd.imp u_0 (fun _ _ h=>Z8k h52 h)) (fun _ _ ⟨_,_,_,e,_⟩=>⟨_,e⟩))<|Ql rfl Zco u_0<|o_p rfl (Zzp Tryz.underlying69 Zq5 (by decide) rfl rfl u_0)<|o_p rfl (Zl Zbep (Zt2 _ _ h54) rfl rfl (.cons u_0 (.cons u_1 .nil)))<|Qm rfl u_0<|o_p rfl (Zz rfl rfl u_0 rfl)<|o_p rfl (Zz rfl rfl u_0 rfl)<|o_p rfl (Zbi (zs:=[.slice none 0 0,.int .i64 0]) (by kernel_rfl) (fun g=>Zeg g) rfl rfl)<|o_p rfl (Zb5 Zco rfl rfl u_1 u_0)<|Qa rfl u_0<|o_n) (fun a g hst hb=>?_)
    obtain ⟨r55,h56,H0⟩:=Zc H0
    refine r_s (T:=[⟨[.o 0],[(106,(Zcc none Zb4 52 r39.1))],[],[],[106]⟩,⟨[.p 0 0,.o 0],[(107,(pTup [(Zbo.pd r55.1),(Zbf r55.2)])),(9,(Zcc none Zb4 52 r39.1))],[53,1000053],[0],[9,106,107]⟩,⟨[.p 1 0],_,[],[0,1],[105]⟩,⟨[.p 2 0],_,[],[0,1,2],[108]⟩,⟨[.p 2 0],_,[],[0,1,2],[109]⟩,⟨[],[(19,(pBox Zbo 19 (default:Zs)))],[20],[],[19]⟩,⟨[.p 3 0,.p 5 0],_,[20],[0,1,2,3,5],[19]⟩,⟨[.p 4 0],_,[],Lr 7,[20]⟩]) (F:=[.o 1,.o 2,.o 3,.o 4,.o 5,.p 6 0]) hst hb Za
     (Qm rfl u_0<|o_p rfl (Zef Z44 (Zl9 _ h56) rfl rfl rfl (by decide) u_1 u_0 .nil)<|Qm rfl u_0<|o_p rfl (Zz rfl rfl u_0 rfl)<|o_p rfl (Zz rfl rfl u_0 rfl)<|o_p rfl (Zbi (zs:=[.int .i64 0,.int .i64 0,.slice none 0 0]) (by kernel_rfl) (fun g=>Zjd g) rfl rfl)<|o_p rfl (Zb5 Zh4 rfl rfl u_1 u_0)<|Qa rfl u_0<|o_n) (fun a g hst hb=>?_)
    obtain ⟨r57,h58,H0⟩:=Zc H0
    refine r_s (T:=[⟨[.o 0],[(111,(Zcc none Zb4 56 r41.1))],[],[],[111]⟩,⟨[.p 0 0,.o 0],[(112,(pTup [(Zbo.pd r57.1),(Zbf r57.2)])),(10,(Zcc none Zb4 56 r41.1))],[57,1000057],[0],[10,111,112]⟩,⟨[.p 1 0],_,[],[0,1],[110]⟩,⟨[.p 2 0],_,[],[0,1,2],[113]⟩,⟨[.p 2 0],_,[],[0,1,2],[114]⟩,⟨[],[(21,(pBox Zbo 21 (default:Zs)))],[22],[],[21]⟩,⟨[.p 3 0,.p 5 0],_,[22],[0,1,2,3,5],[21]⟩,⟨[.p 4 0],_,[],Lr 7,[22]⟩]) (F:=[.o 1,.o 2,.o 3,.o 4,.o 5,.p 6 0]) hst hb Za
     (Qm rfl u_0<|o_p rfl (Zef Z44 (Zl9 _ h58) rfl rfl rfl (by decide) u_1 u_0 .nil)<|Qm rfl u_0<|o_p rfl (Zz rfl rfl u_0 rfl)<|o_p rfl (Zz rfl rfl u_0 rfl)<|o_p rfl (Zbi (zs:=[.int .i64 0,.int .i64 0,.slice none 0 0]) (by kernel_rfl) (fun g=>Zjd g) rfl rfl)<|o_p rfl (Zb5 Zh4 rfl rfl u_1 u_0)<|Qa rfl u_0<|o_n) (fun a g hst hb=>?_)
    obtain ⟨r59,h60,H0⟩:=Zc H0;obtain ⟨r61,h62,H0⟩:=Zc H0;obtain ⟨r63,h64,H0⟩:=Zc H0
    refine r_s (T:=⟨[.o 4],_,[],[],[115]⟩ :: ⟨[.o 5],_,[],[],[116]⟩ :: ⟨[.p 0 0,.p 1 0],_,[],[0,1],[117]⟩ :: ⟨[.o 3],_,[],[],[118]⟩ :: ⟨[.p 2 0,.p 3 0],_,[],Lr 4,[119]⟩ :: ⟨[.p 4 0],_,[],Lr 5,[120]⟩ :: ⟨[.p 5 0,.o 0],_,[],Lr 6,[121]⟩ :: ⟨[.p 5 0,.o 2],_,[],Lr 6,[122]⟩ :: ⟨[.p 5 0,.p 6 0,.p 7 0],_,[],Lr 8,[123]⟩ :: ⟨[.p 5 0,.p 8 0],_,[],Lr 9,[124]⟩ :: ⟨[.p 5 0,.p 9 0],_,[],Lr 10,[125]⟩ :: ⟨[.p 10 0],_,[],Lr 11,[126]⟩ :: ⟨[.p 11 0,.o 1],_,[],Lr 12,[127]⟩ :: ⟨[.p 11 0,.o 2],_,[],Lr 12,[128]⟩ :: ⟨[.p 11 0,.p 12 0,.p 13 0],_,[],Lr 14,[129]⟩ :: ⟨[.p 11 0,.p 14 0],_,[],Lr 15,[130]⟩ :: ⟨[.p 11 0,.p 15 0],_,[],Lr 16,[131]⟩ :: ⟨[.p 16 0],_,[],Lr 17,[6]⟩ :: []) (F:=[.p 17 0]) hst hb Za
     (Ql rfl Zh4 u_0<|Ql rfl Zh4 u_0<|o_p rfl (Zig Z0o (xs:=[.tmp 115,.tmp 116]) (.cons u_0 (.cons u_1 .nil)) (by decide) rfl rfl)<|Qm rfl u_0<|o_p rfl (Zl Zbe8 (Zsr _ _ h60) rfl rfl (.cons u_0 (.cons u_1 .nil)))<|Qm rfl u_0<|o_g (Qg_t rfl (fun hG=>Zsc Zbv rfl rfl u_0))<|o_g (Qg_t rfl (fun hG=>Zv Zco rfl rfl u_0))<|o_g (Qg_t rfl (fun hG=>Zl Z9r (Zpz _ _ (Zbn h62 hG)) rfl rfl (.cons (Opd.gd hG u_0) (.cons (Opd.gd hG u_1) .nil))))<|o_g (Qg_t rfl (fun hG=>Zbt rfl rfl (Opd.gd hG u_0) c_i))<|o_p rfl (Zbk rfl rfl u_0 (fun hz=>(Opd.gd hz u_1)))<|Qm rfl u_0<|o_g (Qg_t rfl (fun hG=>Zsc Zbv rfl rfl u_0))<|o_g (Qg_t rfl (fun hG=>Zv Zco rfl rfl u_0))<|o_g (Qg_t rfl (fun hG=>Zl Z9r (Zpz _ _ (Zbn h64 hG)) rfl rfl (.cons (Opd.gd hG u_0) (.cons (Opd.gd hG u_1) .nil))))<|o_g (Qg_t rfl (fun hG=>Zbt rfl rfl (Opd.gd hG u_0) c_i))<|o_p rfl (Zbk rfl rfl u_0 (fun hz=>(Opd.gd hz u_1)))<|Qa rfl u_0<|o_n) (fun a g hst hb=>?_)
    refine wp_ret ?_
    obtain rfl:=Option.some.inj H0
    exact Z4 rfl hst hb (Zg (s:=6)) (hst.at 0 rfl)
   ·refine wp_block ?_
    refine wp_loop_ghost (fun n a w=>∃ (x23:Zw) (x24:Zw) (x25:Int) (g:G),w=g.w ∧ St 132 [(4,((Kd.arr 2 Zbq).ptr a1)),(7,(Zy.ptr r4.1)),(8,(Z7.opt.pd r4.2)),(9,(Zcc none Zb4 52 x23)),(10,(Zcc none Zb4 56 x24)),(57,(Kd.bool.sl.pd a2)),(58,(pInt .i64 (a2.length:Int))),(59,(pInt .i64 x25))] a g ∧ Base g0 g ∧ Zc2 a2 n x23 x24 x25=some z38) (Int.toNat ((a2.length:Int) - (0:Int)) + 1) ⟨r17,r21,(0:Int),g,rfl,(hst.pick [0,1,2,3,4,5,6,7] rfl),hb,hz1⟩ (fun n a w hI=>?_)
    obtain ⟨x23,x24,x25,g,rfl,hst,hb,H1⟩:=hI
    cases n with
    | zero=>exact absurd H1 (by simp [Zc2])
    | succ n =>
     rw [Zc2] at H1
     refine r_s (T:=[⟨[.o 7,.o 6],_,[],[],[60]⟩]) (F:=[.o 0,.o 1,.o 2,.o 3,.o 4,.o 5,.o 6,.o 7,.p 0 0]) hst hb Za
      (o_p rfl (Zca rfl rfl u_0 u_1)<|o_n) (fun a g hst hb=>?_)
     refine wp_seq ?_
     refine wp_cond_split (hst.bool 8 rfl) (fun hc26=>?_) (fun hc26=>?_)
     ·replace H1:=Zu hc26 H1
      refine wp_skip ?_
      refine Zp ?_
      refine wp_seq ?_
      refine Zb3 (fun a w=>∃ (j34:Zw) (j35:Zw) (g:G),w=g.w ∧ St 132 [(4,((Kd.arr 2 Zbq).ptr a1)),(7,(Zy.ptr r4.1)),(8,(Z7.opt.pd r4.2)),(9,(Zcc none Zb4 52 j34)),(10,(Zcc none Zb4 56 j35)),(57,(Kd.bool.sl.pd a2)),(58,(pInt .i64 (a2.length:Int))),(59,(pInt .i64 x25))] a g ∧ Base g0 g ∧ Zgi x25 (Zc2 a2 n) j34 j35=some z38) ?_ ?_
      ·rintro a w ⟨j34,j35,g,rfl,hst,hb,H1⟩
       unfold Zgi at H1
       refine Zp ?_
       refine r_g (T:=[⟨[.o 7],_,[],[],[68]⟩,⟨[.p 0 0],_,[],[0],[59]⟩]) (F:=[.o 0,.o 1,.o 2,.o 3,.o 4,.o 5,.o 6,.p 1 0]) hst hb Za
        (o_p rfl (Zb0 rfl rfl u_0 c_i rfl)<|Qm rfl u_0<|o_n) (fun a g hst hb=>?_)
       exact ⟨n,Nat.lt_succ_self _,j34,j35,(IntKind.i64.wrap (x25 + (1:Int))),g,rfl,(hst.pick [0,1,2,3,4,5,6,7] rfl),hb,H1⟩
      ·refine wp_block ?_
       obtain ⟨e27,h28,H1⟩:=Zc H1
       refine r_s (L:=[(4,_),(7,_),(8,_),(9,_),(10,_),(57,_),(58,_),(59,_)]) (T:=[⟨[.o 5,.o 7],_,[],[],[61]⟩,⟨[.p 0 0],_,[],[0],[62]⟩,⟨[.p 1 0],_,[],[0,1],[12]⟩]) (F:=[.o 0,.o 1,.o 2,.o 3,.o 4,.p 2 0,.o 5,.o 6,.o 7]) (hst.pick [0,1,2,3,4,5,6,7] rfl) hb Za
        (o_p rfl (Zbl Tryz.underlying70 sz_4 rfl rfl u_0 u_1 h28)<|Ql rfl ty_4 u_0<|Qa rfl u_0<|o_n) (fun a g hst hb=>?_)
       refine r_s (T:=[⟨[.o 5],_,[],[],[63]⟩]) (F:=[.o 0,.o 1,.o 2,.o 3,.o 4,.o 6,.o 7,.o 8,.p 0 0]) hst hb Za
        (Qm rfl u_0<|o_n) (fun a g hst hb=>?_)
       refine wp_cond_split (hst.bool 8 rfl) (fun hc29=>?_) (fun hc29=>?_)
       ·replace H1:=Zu hc29 H1
        obtain ⟨r30,h31,H1⟩:=Zc H1
        refine r_g (L:=[(4,_),(7,_),(8,_),(9,_),(10,_),(57,_),(58,_),(59,_)]) (T:=[⟨[.o 3],[(64,(Zcc none Zb4 52 x23))],[],[],[64]⟩,⟨[.p 0 0,.o 3],[(65,(Zbf r30.2)),(9,(Zcc none Zb4 52 r30.1))],[53,1000053],[0],[9,64,65]⟩]) (F:=[.o 0,.o 1,.o 2,.p 1 1,.o 4,.o 5,.o 6,.o 7]) (hst.pick [0,1,2,3,4,5,6,7] rfl) hb Za
         (Qm rfl u_0<|o_p rfl (Zef Zu4 (Zh6 _ h31) rfl rfl rfl (by decide) u_1 u_0 .nil)<|o_n) (fun a g hst hb=>?_)
        refine Zbc ?_
        exact ⟨r30.1,x24,g,rfl,(hst.pick [0,1,2,3,4,5,6,7] rfl),hb,H1⟩
       ·replace H1:=Zt hc29 H1
        obtain ⟨r32,h33,H1⟩:=Zc H1
        refine r_g (L:=[(4,_),(7,_),(8,_),(9,_),(10,_),(57,_),(58,_),(59,_)]) (T:=[⟨[.o 4],[(66,(Zcc none Zb4 56 x24))],[],[],[66]⟩,⟨[.p 0 0,.o 4],[(67,(Zbf r32.2)),(10,(Zcc none Zb4 56 r32.1))],[57,1000057],[0],[10,66,67]⟩]) (F:=[.o 0,.o 1,.o 2,.o 3,.p 1 1,.o 5,.o 6,.o 7]) (hst.pick [0,1,2,3,4,5,6,7] rfl) hb Za
         (Qm rfl u_0<|o_p rfl (Zef Zu4 (Zh6 _ h33) rfl rfl rfl (by decide) u_1 u_0 .nil)<|o_n) (fun a g hst hb=>?_)
        refine Zbc ?_
        exact ⟨x23,r32.1,g,rfl,(hst.pick [0,1,2,3,4,5,6,7] rfl),hb,H1⟩
     ·replace H1:=Zt hc26 H1
      refine wp_exit ?_
      refine Zby ?_
      refine Zby ?_
      refine Zcb ?_
      exact ⟨x23,x24,g,rfl,(hst.pick [0,1,2,3,4] rfl),hb,Option.some.inj H1⟩
end Go.CL
namespace Go.CL
open Go
def NANB:Nat:=9221120237041090561
def keyf (b:Nat):Int:=if isn b then 18444492273895866369 else if TOP ≤ b then 18446744073709551615 - b else b + 9223372036854775808
def Zb9 (b:Nat):Nat:=if isn b then NANB else b
theorem Zzt {b:Nat} (hb:b < 18446744073709551616):fneq b b=decide (isn b):=by
 unfold fneq
 show (Ieee.double.order b b != some .eq)=_
 by_cases h:isn b
 ·rw [Zzd (.inl h)];simp [h]
 ·obtain ⟨o,ho,_,he⟩:=Zsd hb hb h h
  rw [ho,he.2 rfl];simp [h]
theorem Zk8 {b:Nat} (hb:b < 18446744073709551616):Zgv b=some (Zb9 b):=by
 unfold Zgv Zb9
 rw [Zzt hb]
 by_cases h:isn b
 ·simp [h,Zsq,NANB]
 ·simp [h]
theorem Zbaf {b:Nat} (hb:b < 18446744073709551616):(bAnd .u64 (b:Int) 9223372036854775808 != 0)=decide (TOP ≤ b):=by
 have h1:(BitVec.ofInt 64 (b:Int) &&& BitVec.ofInt 64 9223372036854775808).toNat=b &&& 9223372036854775808:=by
  rw [BitVec.toNat_and]
  have e1:(BitVec.ofInt 64 (b:Int)).toNat=b:=by
   rw [show BitVec.ofInt 64 (b:Int)=BitVec.ofNat 64 b from rfl]
   simp;omega
  rw [e1];rfl
 have h2:b &&& 9223372036854775808=(b.testBit 63).toNat * 9223372036854775808:=by
  apply Nat.eq_of_testBit_eq
  intro i
  rw [Nat.testBit_and,show (9223372036854775808:Nat)=2 ^ 63 from rfl,Nat.testBit_two_pow]
  by_cases hi:63=i
  ·subst hi
   cases b.testBit 63
   ·simp
   ·rw [Bool.toNat_true,Nat.one_mul,Nat.testBit_two_pow];simp
  ·cases b.testBit 63
   ·simp [hi]
   ·rw [Bool.toNat_true,Nat.one_mul,Nat.testBit_two_pow];simp [hi]
 have h3:b.testBit 63=decide (TOP ≤ b):=by
  rw [Nat.testBit_eq_decide_div_mod_eq]
  unfold TOP
  by_cases h:9223372036854775808 ≤ b
  ·have:b / 2 ^ 63 % 2=1:=by omega
   simp [this,h]
  ·have:b / 2 ^ 63 % 2=0:=by omega
   simp [this,h]
 unfold bAnd
 show (IntKind.wrap .u64 ((BitVec.ofInt 64 (b:Int) &&& BitVec.ofInt 64 9223372036854775808).toNat:Int) != 0)=_
 rw [h1,h2,h3]
 by_cases h:TOP ≤ b
 ·simp only [h,decide_true,Bool.toNat_true,Nat.one_mul]
  rfl
 ·simp only [h,decide_false,Bool.toNat_false,Nat.zero_mul]
  rfl
theorem Zbbg {b:Nat} (hb:b < 18446744073709551616):bXor .u64 IntKind.u64.max (b:Int)=18446744073709551615 - b:=by
 have h1:(BitVec.ofInt 64 18446744073709551615 ^^^ BitVec.ofInt 64 (b:Int)).toNat=18446744073709551615 - b:=by
  have e1:BitVec.ofInt 64 18446744073709551615=BitVec.allOnes 64:=by decide
  rw [e1,BitVec.allOnes_xor,BitVec.toNat_not]
  have e2:(BitVec.ofInt 64 (b:Int)).toNat=b:=by
   rw [show BitVec.ofInt 64 (b:Int)=BitVec.ofNat 64 b from rfl]
   simp;omega
  rw [e2]
 unfold bXor
 show IntKind.wrap .u64 ((BitVec.ofInt 64 18446744073709551615 ^^^ BitVec.ofInt 64 (b:Int)).toNat:Int)=_
 rw [h1]
 simp [IntKind.wrap,IntKind.signed,IntKind.bits]
 omega
theorem Zbc0 {b:Nat} (hb:b < 9223372036854775808):bOr .u64 (b:Int) 9223372036854775808=b + 9223372036854775808:=by
 have h1:(BitVec.ofInt 64 (b:Int) ||| BitVec.ofInt 64 9223372036854775808).toNat=b + 9223372036854775808:=by
  rw [BitVec.toNat_or]
  have e1:(BitVec.ofInt 64 (b:Int)).toNat=b:=by
   rw [show BitVec.ofInt 64 (b:Int)=BitVec.ofNat 64 b from rfl]
   simp;omega
  rw [e1,show (BitVec.ofInt 64 9223372036854775808).toNat=2 ^ 63 * 1 from rfl,Nat.or_comm]
  rw [← Nat.two_pow_add_eq_or_of_lt (by simpa using hb)]
  omega
 unfold bOr
 show IntKind.wrap .u64 ((BitVec.ofInt 64 (b:Int) ||| BitVec.ofInt 64 9223372036854775808).toNat:Int)=_
 rw [h1]
 simp [IntKind.wrap,IntKind.signed,IntKind.bits]
 omega
theorem Zwj {b:Nat} (hb:b < 18446744073709551616):Zb9 b < 18446744073709551616:=by
 unfold Zb9 NANB;split <;> omega
theorem Zxa {b:Nat} (hb:b < 18446744073709551616):Znu b=some (keyf b):=by
 unfold Znu
 rw [Zk8 hb]
 simp only [Option.bind_some]
 rw [Zbaf (Zwj hb)]
 unfold keyf Zb9
 by_cases h:isn b
 ·simp only [h,if_true]
  rfl
 ·simp only [h,if_false]
  by_cases ht:TOP ≤ b
  ·simp only [ht,decide_true,if_true]
   rw [Zbbg hb]
  ·simp only [ht,decide_false,if_false,Bool.false_eq_true]
   rw [Zbc0 (by unfold TOP at ht;omega)]
theorem Zp7 {a b:Nat} (ha:a < 18446744073709551616) (hb:b < 18446744073709551616):Zk6 a b=some (decide (keyf a=keyf b)):=by
 unfold Zk6
 rw [Zxa ha,Zxa hb]
 simp [BEq.beq]
theorem Zya {a b:Nat} (ha:a < 18446744073709551616) (hb:b < 18446744073709551616):Znk a b=some (decide (keyf a < keyf b)):=by
 unfold Znk
 rw [Zxa ha,Zxa hb]
 simp
theorem Ztx {a:Nat} (ha:a < 18446744073709551616):Zln a=some (decide (a=Zb9 a)):=by
 unfold Zln
 rw [Zk8 ha]
 congr 1
 by_cases h:a=Zb9 a
 ·simp [← h]
 ·have:(a:Int) ≠ (Zb9 a:Int):=by omega
  simp [h,this]
theorem Z4q {a b:Nat} (ha:a < 18446744073709551616) (hb:b < 18446744073709551616) (na:¬ isn a) (nb:¬ isn b):keyf a < keyf b ↔ (sg a < sg b ∨ (a=TOP ∧ b=0)):=by
 unfold keyf
 rw [if_neg na,if_neg nb]
 unfold sg isn rg INF TOP at *
 split <;> split <;> omega
theorem Z4h {a b:Nat} (ha:a < 18446744073709551616) (hb:b < 18446744073709551616) (na:¬ isn a) (nb:¬ isn b):feql a b=decide (sg a=sg b):=by
 unfold feql
 show (Ieee.double.order a b == some .eq)=_
 obtain ⟨o,ho,_,he⟩:=Zsd ha hb na nb
 rw [ho]
 by_cases h:sg a=sg b
 ·rw [he.2 h];simp [h]
 ·have:o ≠ .eq:=fun h'=>h (he.1 h')
  simp [h,this]
theorem Zbbo {a b:Nat} (ha:a < 18446744073709551616) (hb:b < 18446744073709551616) (na:¬ isn a) (nb:¬ isn b):flss a b=decide (sg a < sg b):=by
 unfold flss
 show (Ieee.double.order a b == some .lt)=_
 obtain ⟨o,ho,hl,_⟩:=Zsd ha hb na nb
 rw [ho]
 by_cases h:sg a < sg b
 ·rw [hl.2 h];simp [h]
 ·have:o ≠ .lt:=fun h'=>h (hl.1 h')
  simp [h,this]
theorem Zbca:Zh5 0=some false:=by kernel_rfl
theorem Zbc5:Zh5 TOP=some true:=by kernel_rfl
theorem nan0:¬ isn 0:=by decide
theorem Z32 {a:Nat} (ha:a < 18446744073709551616):sg a=sg 0 ↔ a=0 ∨ a=TOP:=by
 unfold sg TOP
 split <;> simp <;> omega
theorem Zs5 {a:Nat} (ha:a < 18446744073709551616):Zew a=some (decide (isn a)):=by
 unfold Zew;rw [Zzt ha]
theorem Znl {a b:Nat} (ha:a < 18446744073709551616) (hb:b < 18446744073709551616):Zft a b=some (decide (keyf a < keyf b)):=by
 unfold Zft
 rw [Zs5 ha,Zs5 hb]
 simp only [Option.bind_some]
 have kb:∀ x,x < 18446744073709551616 → ¬ isn x → keyf x < 18444492273895866369:=by
  intro x hx nx
  unfold keyf
  rw [if_neg nx]
  unfold isn rg INF TOP at *
  split <;> omega
 have kn:∀ x,isn x → keyf x=18444492273895866369:=fun x h=>by unfold keyf;rw [if_pos h]
 by_cases na:isn a
 ·simp only [na,decide_true,if_true]
  by_cases nb:isn b
  ·rw [kn a na,kn b nb];simp
  ·have:=kb b hb nb
   rw [kn a na];simp;omega
 ·simp only [na,decide_false,Bool.false_eq_true,if_false]
  by_cases nb:isn b
  ·have:=kb a ha na
   rw [kn b nb];simp [nb,this]
  ·simp only [nb,decide_false,Bool.false_eq_true,if_false]
   rw [Z4h ha (by decide) na nan0,Z4h hb (by decide) nb nan0,Zbbo ha hb na nb]
   by_cases hz:sg a=sg 0 ∧ sg b=sg 0
   ·rw [if_pos (by simp [hz])]
    have hk:=Z4q ha hb na nb
    have h0T:(0:Nat) ≠ TOP:=by decide
    rcases (Z32 ha).1 hz.1 with rfl | rfl <;> rcases (Z32 hb).1 hz.2 with rfl | rfl <;> simp only [Zbca,Zbc5,gd,Option.bind_some,if_true,if_false,Bool.false_eq_true,Option.some.injEq] <;> decide
   ·rw [if_neg (by simpa using hz)]
    have hk:=Z4q ha hb na nb
    congr 1
    apply decide_eq_decide.2
    rw [hk]
    constructor
    ·intro h;exact .inl h
    ·rintro (h | ⟨rfl,rfl⟩)
     ·exact h
     ·exact absurd ⟨rfl,rfl⟩ hz
theorem Zoq {a b:Nat} (ha:a < 18446744073709551616) (hb:b < 18446744073709551616):Zd5 a b=some (decide (keyf a=keyf b)):=by
 unfold Zd5
 rw [Znl ha hb,Znl hb ha]
 simp only [Option.bind_some,gd]
 by_cases h1:keyf a < keyf b
 ·have:keyf a ≠ keyf b:=by omega
  simp [h1,this]
 ·by_cases h2:keyf b < keyf a
  ·have:keyf a ≠ keyf b:=by omega
   simp [h1,h2,this]
  ·have:keyf a=keyf b:=by omega
   simp [this]
theorem Zs4 {a:Nat} (ha:a < 18446744073709551616):Zge a=some (decide (a=Zb9 a)):=by
 unfold Zge
 rw [Zs5 ha]
 unfold Zb9 NANB
 by_cases h:isn a
 ·by_cases h2:a=9221120237041090561
  ·simp [h,h2]
  ·have:(a:Int) ≠ 9221120237041090561:=by omega
   simp [h,h2,this]
 ·simp [h]
theorem wr {x:Int} (h1:-9223372036854775808 ≤ x) (h2:x ≤ 9223372036854775807):IntKind.i64.wrap x=x:=by
 rw [IntKind.wrap_i64];omega
theorem wr1 {i:Nat} (h:i < 9223372036854775807):IntKind.i64.wrap ((i:Int) + 1)=((i + 1:Nat):Int):=by
 rw [wr (by omega) (by omega)];omega
theorem Zbfj (n:Int):IntKind.u64.wrap n=n % 18446744073709551616:=by simp [IntKind.wrap,IntKind.bits,IntKind.signed]
theorem wru {x:Int} (h1:0 ≤ x) (h2:x < 18446744073709551616):IntKind.u64.wrap x=x:=by rw [Zbfj];omega
theorem wrm {i:Nat} (h:i < 9223372036854775807) (h0:0 < i):IntKind.i64.wrap ((i:Int) - 1)=((i - 1:Nat):Int):=by
 rw [wr (by omega) (by omega)];omega
theorem idxn {α:Type} (xs:List α) (i:Nat):idx xs (i:Int)=xs[i]?:=by
 unfold idx
 rw [if_pos (by omega)]
 simp
theorem Zc1 {α:Type} {xs:List α} {i:Nat} (h:i < xs.length):idx xs (i:Int)=some xs[i]:=by
 rw [idxn,List.getElem?_eq_getElem h]
theorem gd_t {β:Type} [Inhabited β] (x:Option β):gd true x=x:=rfl
theorem gd_f {β:Type} [Inhabited β] (x:Option β):gd false x=some default:=rfl
theorem Zoo {α:Type} {xs:List α} {l h:Nat} (h1:l ≤ h) (h2:h ≤ xs.length):cut xs (l:Int) (h:Int)=some ((xs.drop l).take (h - l)):=by
 unfold cut
 rw [if_pos (by omega)]
 simp
theorem Zww {a b:ByteArray} (h:a.toList=b.toList):a=b:=by
 rw [_root_.Go.ByteArray.toList_eq,_root_.Go.ByteArray.toList_eq] at h
 exact ByteArray.ext (Array.toList_inj.1 h)
theorem Zcx {a b:ByteArray}:sEq a b=true ↔ a=b:=by
 unfold sEq
 constructor
 ·intro h;exact Zww (by simpa using h)
 ·rintro rfl;simp
theorem Zdp (a:ByteArray):sEq a a=true:=Zcx.2 rfl
theorem Zeq {a b:ByteArray}:sEq a b=false ↔ a ≠ b:=by
 cases h:sEq a b
 ·simp;intro e;rw [Zcx.2 e] at h;cases h
 ·simp;exact Zcx.1 h
theorem Z6r:∀ l:List UInt8,Op.bytesLess l l=false
 | []=>rfl
 | x :: l=>by simp [Op.bytesLess,Z6r l]
theorem Z1k:∀ {a b c:List UInt8},Op.bytesLess a b=true → Op.bytesLess b c=true → Op.bytesLess a c=true
 | [],[],c,h,_=>by simp [Op.bytesLess] at h
 | [],y :: b,[],_,k=>by simp [Op.bytesLess] at k
 | [],y :: b,z :: c,_,_=>rfl
 | x :: a,[],c,h,_=>by simp [Op.bytesLess] at h
 | x :: a,y :: b,[],_,k=>by simp [Op.bytesLess] at k
 | x :: a,y :: b,z :: c,h,k=>by
  simp only [Op.bytesLess,Bool.or_eq_true,Bool.and_eq_true,decide_eq_true_eq,beq_iff_eq] at h k ⊢
  rcases h with h | ⟨h1,h2⟩ <;> rcases k with k | ⟨k1,k2⟩
  ·exact .inl (UInt8.lt_trans h k)
  ·subst k1;exact .inl h
  ·subst h1;exact .inl k
  ·subst h1;subst k1;exact .inr ⟨rfl,Z1k h2 k2⟩
theorem Z6p:∀ (a b:List UInt8),Op.bytesLess a b=false → a ≠ b → Op.bytesLess b a=true
 | [],[],_,h=>absurd rfl h
 | [],y :: b,h,_=>by simp [Op.bytesLess] at h
 | x :: a,[],_,_=>rfl
 | x :: a,y :: b,h,hn=>by
  simp only [Op.bytesLess,Bool.or_eq_false_iff,decide_eq_false_iff_not,Bool.and_eq_false_iff] at h
  simp only [Op.bytesLess,Bool.or_eq_true,Bool.and_eq_true,decide_eq_true_eq,beq_iff_eq]
  by_cases e:x=y
  ·subst e
   right
   refine ⟨rfl,Z6p a b ?_ (fun h'=>hn (by rw [h']))⟩
   rcases h.2 with h | h
   ·simp at h
   ·exact h
  ·left
   rcases UInt8.lt_or_lt_of_ne e with h' | h'
   ·exact absurd h' h.1
   ·exact h'
theorem Zho (a:ByteArray):sLt a a=false:=Z6r _
theorem Zgg {a b c:ByteArray} (h:sLt a b=true) (k:sLt b c=true):sLt a c=true:=Z1k h k
theorem Zm6 {a b:ByteArray} (h:sLt a b=false) (hn:a ≠ b):sLt b a=true:=Z6p _ _ h (fun e=>hn (Zww e))
theorem Zsj {a b:ByteArray} (h:sLt a b=true):sLt b a=false:=by
 cases k:sLt b a
 ·rfl
 ·have:=Zgg h k
  rw [Zho] at this;cases this
theorem Zms {a b:ByteArray} (h:sLt a b=true):a ≠ b:=fun e=>by subst e;rw [Zho] at h;cases h
abbrev W64:Nat:=18446744073709551616
structure Zi4 (a:Zb):Prop where
 real:a.Real < W64
 len:a.List.length < 4611686018427387904
 sc:∀ e ∈ a.List,e.Score < W64
def Zcs (a b:Zh):Bool:=if keyf a.Score=keyf b.Score then sLt a.Name b.Name else decide (keyf b.Score < keyf a.Score)
theorem Zrf {a b:Zh} (ha:a.Score < W64) (hb:b.Score < W64):Zlr a b=some (Zcs a b):=by
 unfold Zlr Zcs
 rw [Zp7 ha hb,Zya hb ha]
 by_cases h:keyf a.Score=keyf b.Score <;> simp [h]
theorem Z21 {a b:Zh} (ha:a.Score < W64) (hb:b.Score < W64):Zgu a b=some (Zcs a b):=by
 unfold Zgu Zcs
 rw [Znl hb ha,Zoq ha hb]
 by_cases h:keyf a.Score=keyf b.Score
 ·simp [h]
 ·by_cases h2:keyf b.Score < keyf a.Score <;> simp [h,h2]
theorem Z4n {a:Nat} (ha:a < W64):Ziq a=some (decide (keyf a=keyf 0)):=by
 unfold Ziq
 rw [Zoq ha (by decide)]
 rfl
def Zi3 (k:Int) (l:List Zh) (i:Nat):Int :=
 match l[i]? with
 | none=>0
 | some x =>
  let p:=(l[i - 1]?).getD default
  if (16:Int) < x.Name.size then 3
  else if (k=8 ∧ keyf x.Score ≠ keyf 0) ∨ x.Score ≠ Zb9 x.Score then 4
  else if 0 < i ∧ k=8 ∧ sLt p.Name x.Name=false then 4
  else if 0 < i ∧ k=9 ∧ Zcs p x=false then 4
  else 0
theorem Z61 {k:Int} {l:List Zh} {i n:Nat} (hi:i < l.length) (hl:l.length < 4611686018427387904) (hs:∀ e ∈ l,e.Score < W64) :
  Zg5 k l (n + 1) (i:Int)=if Zi3 k l i=0 then Zg5 k l n ((i + 1:Nat):Int) else some (.inl (Zi3 k l i)):=by
 have hx:l[i].Score < W64:=hs _ (List.getElem_mem hi)
 rw [Zg5,if_pos (by simp;omega),Zc1 hi,wr1 (by omega)]
 simp only [Option.bind_some]
 rw [Zp7 hx (by decide),Ztx hx]
 simp only [Zi3,List.getElem?_eq_getElem hi]
 by_cases h1:(16:Int) < l[i].Name.size
 ·simp [h1]
 ·simp only [h1,decide_false,if_false,Bool.false_eq_true]
  have hz:((0:Nat):Int)=0:=rfl
  by_cases h0:0 < i
  ·have hp:i - 1 < l.length:=by omega
   have hps:l[i - 1].Score < W64:=hs _ (List.getElem_mem hp)
   have hd:(decide ((0:Int) < (i:Int)))=true:=by simp;omega
   rw [hd,wrm (by omega) h0,Zc1 hp]
   simp only [List.getElem?_eq_getElem hp,Option.getD_some,h0,true_and,Bool.true_and]
   by_cases h8:k=8
   ·subst h8
    simp only [beq_self_eq_true,gd_t,Option.bind_some,true_and,Bool.true_and]
    by_cases hk:keyf l[i].Score=keyf 0
    ·by_cases hc:l[i].Score=Zb9 l[i].Score
     ·simp [hk,← hc,gd]
      cases sLt l[i - 1].Name l[i].Name <;> simp
     ·simp [hk,hc,gd]
    ·simp [hk,gd]
   ·have h8':(k == 8)=false:=by simpa using h8
    simp only [h8',h8,gd_f,gd_t,Option.bind_some,false_and,false_or,Bool.false_and,Bool.not_false,Bool.false_or]
    by_cases hc:l[i].Score=Zb9 l[i].Score
    ·by_cases h9:k=9
     ·subst h9
      simp [← hc,gd,Zrf hps hx]
      cases Zcs l[i - 1] l[i] <;> simp
     ·simp [← hc,gd,h9]
    ·simp [hc]
  ·have h00:i=0:=by omega
   subst h00
   simp only [Nat.lt_irrefl,false_and,if_false,Int.ofNat_zero,Int.lt_irrefl,decide_false,Bool.false_and,gd_f,Option.bind_some,Int.natCast_zero]
   by_cases h8:k=8
   ·subst h8
    simp only [beq_self_eq_true,gd_t,Option.bind_some,true_and,Bool.true_and]
    by_cases hk:keyf l[0].Score=keyf 0
    ·by_cases hc:l[0].Score=Zb9 l[0].Score
     ·simp [hk,← hc,gd]
     ·simp [hk,hc,gd]
    ·simp [hk,gd]
   ·have h8':(k == 8)=false:=by simpa using h8
    simp only [h8',h8,gd_f,gd_t,Option.bind_some,false_and,false_or,Bool.false_and,Bool.not_false,Bool.false_or]
    by_cases hc:l[0].Score=Zb9 l[0].Score
    ·simp [← hc,gd]
    ·simp [hc]
theorem Z8w {k:Int} {l:List Zh} {i:Nat} (hi:i < l.length) (hl:l.length < 4611686018427387904) (hs:∀ e ∈ l,e.Score < W64):Zj6 k l (i:Int)=some (Zi3 k l i):=by
 have hx:l[i].Score < W64:=hs _ (List.getElem_mem hi)
 unfold Zj6
 rw [Zc1 hi]
 simp only [Option.bind_some]
 rw [Z4n hx,Zs4 hx]
 simp only [Zi3,List.getElem?_eq_getElem hi]
 by_cases h1:(16:Int) < l[i].Name.size
 ·simp [h1]
 ·simp only [h1,decide_false,if_false,Bool.false_eq_true]
  by_cases h0:0 < i
  ·have hp:i - 1 < l.length:=by omega
   have hps:l[i - 1].Score < W64:=hs _ (List.getElem_mem hp)
   have hd:(decide ((0:Int) < (i:Int)))=true:=by simp;omega
   rw [hd,wrm (by omega) h0,Zc1 hp]
   simp only [List.getElem?_eq_getElem hp,Option.getD_some,h0,true_and,Bool.true_and]
   by_cases h8:k=8
   ·subst h8
    simp only [beq_self_eq_true,gd_t,Option.bind_some,true_and,Bool.true_and]
    by_cases hk:keyf l[i].Score=keyf 0
    ·by_cases hc:l[i].Score=Zb9 l[i].Score
     ·simp [hk,← hc,gd]
      cases sLt l[i - 1].Name l[i].Name <;> simp
     ·simp [hk,hc,gd]
    ·simp [hk,gd]
   ·have h8':(k == 8)=false:=by simpa using h8
    simp only [h8',h8,gd_f,gd_t,Option.bind_some,false_and,false_or,Bool.false_and,Bool.not_false,Bool.false_or]
    by_cases hc:l[i].Score=Zb9 l[i].Score
    ·by_cases h9:k=9
     ·subst h9
      simp [← hc,gd,Z21 hps hx]
      cases Zcs l[i - 1] l[i] <;> simp
     ·simp [← hc,gd,h9]
    ·simp [hc]
  ·have h00:i=0:=by omega
   subst h00
   simp only [Nat.lt_irrefl,false_and,if_false,Int.ofNat_zero,Int.lt_irrefl,decide_false,Bool.false_and,gd_f,Option.bind_some,Int.natCast_zero]
   by_cases h8:k=8
   ·subst h8
    simp only [beq_self_eq_true,gd_t,Option.bind_some,true_and,Bool.true_and]
    by_cases hk:keyf l[0].Score=keyf 0
    ·by_cases hc:l[0].Score=Zb9 l[0].Score
     ·simp [hk,← hc,gd]
     ·simp [hk,hc,gd]
    ·simp [hk,gd]
   ·have h8':(k == 8)=false:=by simpa using h8
    simp only [h8',h8,gd_f,gd_t,Option.bind_some,false_and,false_or,Bool.false_and,Bool.not_false,Bool.false_or]
    by_cases hc:l[0].Score=Zb9 l[0].Score
    ·simp [← hc,gd]
    ·simp [hc]
def Zko (k:Int) (l:List Zh):Nat → Nat → Int
 | _,0=>0
 | i,n + 1=>if Zi3 k l i=0 then Zko k l (i + 1) n else Zi3 k l i
def endC (c:Int):Int ⊕ Unit:=if c=0 then .inr () else .inl c
theorem Zwp {k:Int} {l:List Zh} {i n:Nat} (h:Zi3 k l i=0):Zko k l i (n + 1)=Zko k l (i + 1) n:=by simp [Zko,h]
theorem Zwi {k:Int} {l:List Zh} {i n:Nat} (h:¬ Zi3 k l i=0):Zko k l i (n + 1)=Zi3 k l i:=by simp [Zko,h]
theorem Z7j {c:Int} (h:¬ c=0):endC c=.inl c:=if_neg h
theorem Zw4 {k:Int} {l:List Zh} (hl:l.length < 4611686018427387904) (hs:∀ e ∈ l,e.Score < W64):∀ (n i:Nat),i + n=l.length →
  Zg5 k l (n + 1) (i:Int)=some (endC (Zko k l i n))
 | 0,i,h=>by
  rw [Zg5,if_neg (by simp;omega)]
  rfl
 | n + 1,i,h=>by
  rw [Z61 (by omega) hl hs]
  by_cases hc:Zi3 k l i=0
  ·rw [if_pos hc,Zwp hc,Zw4 hl hs n (i + 1) (by omega)]
  ·rw [if_neg hc,Zwi hc,Z7j hc]
theorem Z8x {k:Int} {l:List Zh} (hl:l.length < 4611686018427387904) (hs:∀ e ∈ l,e.Score < W64):Zpc k l=some (Zko k l 0 l.length):=by
 unfold Zpc
 rw [show (Int.toNat ((l.length:Int) - (0:Int)) + 1)=l.length + 1 by omega,show (0:Int)=((0:Nat):Int) from rfl,Zw4 hl hs l.length 0 (by omega)]
 unfold endC
 by_cases h:Zko k l 0 l.length=0 <;> simp [h]
theorem Zv3 {a:Zb} (ha:Zi4 a):∀ (n i:Nat),i + n=a.List.length →
  Zek a (n + 1) (i:Int)=some (endC (Zko a.Kind a.List i n))
 | 0,i,h=>by
  rw [Zek,if_neg (by simp;omega)]
  rfl
 | n + 1,i,h=>by
  have hl:=ha.len
  rw [Zek,if_pos (by simp;omega),Z8w (by omega) hl ha.sc,wr1 (by omega)]
  simp only [Option.bind_some]
  by_cases hc:Zi3 a.Kind a.List i=0
  ·rw [if_neg (by simp [hc]),Zwp hc,Zv3 ha n (i + 1) (by omega)]
  ·rw [if_pos (by simp [hc]),Zwi hc,Z7j hc]
def Zix (t n b r l:Bool) (a:Zb):Bool:=(t || sEq a.Text ⟨#[]⟩) && (n || a.Num == 0) && (b || (a.Low == 0 && a.High == 0)) && (r || decide (keyf a.Real=keyf 0)) && (l || (a.Cap == 0 && (a.List.length:Int) == 0))
theorem Zbbv {a:Zb} (ha:Zi4 a) (t n b r l:Bool):Zqs a ⟨t,n,b,r,l⟩=some (Zix t n b r l a):=by
 unfold Zqs Zix
 rw [Zp7 ha.real (by decide)]
 simp only
 generalize sEq a.Text ⟨#[]⟩=x1
 generalize (a.Num == 0)=x2
 generalize (a.Low == 0)=x3
 generalize (a.High == 0)=x4
 generalize decide (keyf a.Real=keyf 0)=x5
 generalize (a.Cap == 0)=x6
 generalize ((a.List.length:Int) == 0)=x7
 revert t n b r l x1 x2 x3 x4 x5 x6 x7
 decide
theorem Zba6 {a:Zb} (ha:Zi4 a) {s:ByteArray} {t n b r l:Bool} (h:Zc7 s (Int.toNat ((s.size:Int) - (0:Int)) + 1) false false false false false 0=some (t,n,b,r,l)):Zj4 a s=some (Zix t n b r l a):=by
 unfold Zj4 Zix
 rw [h,Z4n ha.real]
 simp only [Option.bind_some,bne]
 generalize sEq a.Text ⟨#[]⟩=x1
 generalize (a.Num == 0)=x2
 generalize (a.Low == 0)=x3
 generalize (a.High == 0)=x4
 generalize decide (keyf a.Real=keyf 0)=x5
 generalize (a.Cap == 0)=x6
 generalize ((a.List.length:Int) == 0)=x7
 clear h
 revert t n b r l x1 x2 x3 x4 x5 x6 x7
 decide
theorem Zbd6:Zc7 ⟨#[116]⟩ (Int.toNat (((⟨#[116]⟩:ByteArray).size:Int) - (0:Int)) + 1) false false false false false 0=some (true,false,false,false,false):=by kernel_rfl
theorem Z98:Zc7 ⟨#[110]⟩ (Int.toNat (((⟨#[110]⟩:ByteArray).size:Int) - (0:Int)) + 1) false false false false false 0=some (false,true,false,false,false):=by kernel_rfl
theorem Zbcc:Zc7 ⟨#[110,98]⟩ (Int.toNat (((⟨#[110,98]⟩:ByteArray).size:Int) - (0:Int)) + 1) false false false false false 0=some (false,true,true,false,false):=by kernel_rfl
theorem Z47:Zc7 ⟨#[114]⟩ (Int.toNat (((⟨#[114]⟩:ByteArray).size:Int) - (0:Int)) + 1) false false false false false 0=some (false,false,false,true,false):=by kernel_rfl
theorem Z9h:Zc7 ⟨#[108]⟩ (Int.toNat (((⟨#[108]⟩:ByteArray).size:Int) - (0:Int)) + 1) false false false false false 0=some (false,false,false,false,true):=by kernel_rfl
def Zr2 (t n b r l:Bool) (a:Zb):Int :=
 if Zix t n b r l a=false then 4
 else if (64:Int) < a.Text.size then 3
 else if b=true ∧ (a.Low < -2305843009213693952 ∨ 2305843009213693952 < a.High ∨ a.Num < a.Low ∨ a.High < a.Num) then 1
 else if a.Real ≠ Zb9 a.Real then 4
 else if l=false then 0
 else if a.Cap < 1 ∨ 32 < a.Cap then 1
 else if a.Cap < a.List.length then 8
 else Zko a.Kind a.List 0 a.List.length
theorem Zhs {a:Zb} (ha:Zi4 a) {t n b r l:Bool} (hk:¬ (a.Kind ≤ 0 ∨ 10 ≤ a.Kind)) (hs:Ze7 a.Kind=some ⟨t,n,b,r,l⟩):Ze6 a=some (Zr2 t n b r l a):=by
 unfold Ze6 Zr2
 rw [hs]
 simp only [Option.bind_some]
 rw [Zbbv ha,Ztx ha.real,Z8x ha.len ha.sc]
 simp only [Option.bind_some]
 rw [if_neg (by simpa using hk)]
 by_cases h1:Zix t n b r l a=false
 ·rw [if_pos h1,if_pos (by simp [h1])]
 ·rw [if_neg h1,if_neg (by simpa using h1)]
  by_cases h2:(64:Int) < a.Text.size
  ·rw [if_pos h2,if_pos (by simpa using h2)]
  ·rw [if_neg h2,if_neg (by simpa using h2)]
   by_cases h3:b=true ∧ (a.Low < -2305843009213693952 ∨ 2305843009213693952 < a.High ∨ a.Num < a.Low ∨ a.High < a.Num)
   ·rw [if_pos h3,if_pos (by simpa [or_assoc] using h3)]
   ·rw [if_neg h3,if_neg (by simpa [or_assoc] using h3)]
    by_cases h4:a.Real=Zb9 a.Real
    ·rw [if_neg (show ¬ (a.Real ≠ Zb9 a.Real) from fun h=>h h4),decide_eq_true h4]
     simp only [Bool.not_true,Bool.false_eq_true,if_false]
     cases l
     ·simp
     ·simp only [Bool.not_true,Bool.false_eq_true,if_false,Bool.true_eq_false]
      by_cases h5:a.Cap < 1 ∨ 32 < a.Cap
      ·rw [if_pos h5,if_pos (by simpa using h5)]
      ·rw [if_neg h5,if_neg (by simpa using h5)]
       by_cases h6:a.Cap < a.List.length
       ·rw [if_pos h6,if_pos (by simpa using h6)]
       ·rw [if_neg h6,if_neg (by simpa using h6)]
    ·rw [if_pos (show a.Real ≠ Zb9 a.Real from h4),decide_eq_false h4]
     rfl
theorem Z7q:Ze7 1=some ⟨true,false,false,false,false⟩:=by kernel_rfl
theorem Z7k:Ze7 2=some ⟨false,true,false,false,false⟩:=by kernel_rfl
theorem Z69:Ze7 3=some ⟨false,true,false,false,false⟩:=by kernel_rfl
theorem Z68:Ze7 4=some ⟨false,true,true,false,false⟩:=by kernel_rfl
theorem Z7x:Ze7 5=some ⟨false,false,false,true,false⟩:=by kernel_rfl
theorem Z7y:Ze7 6=some ⟨false,false,false,true,false⟩:=by kernel_rfl
theorem Z7g:Ze7 7=some ⟨false,false,false,true,false⟩:=by kernel_rfl
theorem Z66:Ze7 8=some ⟨false,false,false,false,true⟩:=by kernel_rfl
theorem Z6w:Ze7 9=some ⟨false,false,false,false,true⟩:=by kernel_rfl
def Zut (t n b r l:Bool) (k:Int) (a:Zb):Int :=
 if Zix t n b r l a=false then 4
 else if k=1 ∧ (64:Int) < a.Text.size then 3
 else if k=4 ∧ (a.Low < -2305843009213693952 ∨ 2305843009213693952 < a.High ∨ a.Num < a.Low ∨ a.High < a.Num) then 1
 else if a.Real ≠ Zb9 a.Real then 4
 else if k < 8 then 0
 else if a.Cap < 1 ∨ 32 < a.Cap then 1
 else if a.Cap < a.List.length then 8
 else Zko a.Kind a.List 0 a.List.length
theorem Zhv {a:Zb} (ha:Zi4 a) {t n b r l:Bool} {s:ByteArray} (hk:¬ (a.Kind < 1 ∨ 9 < a.Kind)) (hf:Zks a.Kind=some s)
  (ho:Zc7 s (Int.toNat ((s.size:Int) - (0:Int)) + 1) false false false false false 0=some (t,n,b,r,l)):Zd2 a=some (Zut t n b r l a.Kind a):=by
 unfold Zd2 Zut
 have hw:IntKind.i64.wrap (0 - (2305843009213693952:Int))=-2305843009213693952:=by decide
 rw [hf,Zs4 ha.real,hw,show (Int.toNat ((a.List.length:Int) - (0:Int)) + 1)=a.List.length + 1 by omega]
 have hloop:=Zv3 ha a.List.length 0 (by omega)
 rw [show ((0:Nat):Int)=0 from rfl] at hloop
 rw [hloop]
 simp only [Option.bind_some]
 rw [if_neg (by simpa using hk),Zba6 ha ho]
 simp only [Option.bind_some]
 by_cases h1:Zix t n b r l a=false
 ·rw [if_pos h1,if_pos (by simp [h1])]
 ·rw [if_neg h1,if_neg (by simpa using h1)]
  by_cases h2:a.Kind=1 ∧ (64:Int) < a.Text.size
  ·rw [if_pos h2,if_pos (by simpa using h2)]
  ·rw [if_neg h2,if_neg (by simpa using h2)]
   by_cases h3:a.Kind=4 ∧ (a.Low < -2305843009213693952 ∨ 2305843009213693952 < a.High ∨ a.Num < a.Low ∨ a.High < a.Num)
   ·rw [if_pos h3,if_pos (by simpa [or_assoc] using h3)]
   ·rw [if_neg h3,if_neg (by simpa [or_assoc] using h3)]
    by_cases h4:a.Real=Zb9 a.Real
    ·rw [if_neg (show ¬ (a.Real ≠ Zb9 a.Real) from fun h=>h h4),decide_eq_true h4]
     simp only [Bool.not_true,Bool.false_eq_true,if_false]
     by_cases h7:a.Kind < 8
     ·rw [if_pos h7,if_pos (by simpa using h7)]
     ·rw [if_neg h7,if_neg (by simpa using h7)]
      by_cases h5:a.Cap < 1 ∨ 32 < a.Cap
      ·rw [if_pos h5,if_pos (by simpa using h5)]
      ·rw [if_neg h5,if_neg (by simpa using h5)]
       by_cases h6:a.Cap < a.List.length
       ·rw [if_pos h6,if_pos (by simpa using h6)]
       ·rw [if_neg h6,if_neg (by simpa using h6)]
        unfold endC
        by_cases h:Zko a.Kind a.List 0 a.List.length=0 <;> simp [h]
    ·rw [if_pos (show a.Real ≠ Zb9 a.Real from h4),decide_eq_false h4]
     rfl
theorem Zbbm {t n b r l:Bool} {a:Zb} (h:¬ Zix t n b r l a=false) (ht:t=false):a.Text.size=0:=by
 subst ht
 have:Zix false n b r l a=true:=by simpa using h
 unfold Zix at this
 simp only [Bool.false_or,Bool.and_eq_true] at this
 have:=Zcx.1 this.1.1.1.1
 rw [this];rfl
theorem D_eq (t n b r l:Bool) (k:Int) (a:Zb) (ht:t=true ↔ k=1) (hb:b=true ↔ k=4) (hl:l=false ↔ k < 8):Zut t n b r l k a=Zr2 t n b r l a:=by
 unfold Zut Zr2
 by_cases h1:Zix t n b r l a=false
 ·rw [if_pos h1,if_pos h1]
 ·rw [if_neg h1,if_neg h1]
  have e2:(k=1 ∧ (64:Int) < a.Text.size) ↔ (64:Int) < a.Text.size:=by
   constructor
   ·exact fun h=>h.2
   ·intro h
    refine ⟨ht.1 ?_,h⟩
    cases t
    ·have:=Zbbm h1 rfl;omega
    ·rfl
  simp only [e2,hb,hl]
theorem Zn9 {a:Zb} (ha:Zi4 a):∃ c,Ze6 a=some c ∧ Zd2 a=some c:=by
 by_cases hk:a.Kind ≤ 0 ∨ 10 ≤ a.Kind
 ·refine ⟨5,?_,?_⟩
  ·unfold Ze6
   have hs:∃ s,Ze7 a.Kind=some s:=by
    have h1:¬ a.Kind=1:=by omega
    have h2:¬ a.Kind=2:=by omega
    have h3:¬ a.Kind=3:=by omega
    have h4:¬ a.Kind=4:=by omega
    have h5:¬ a.Kind=5:=by omega
    have h6:¬ a.Kind=6:=by omega
    have h7:¬ a.Kind=7:=by omega
    have h8:¬ a.Kind=8:=by omega
    have h9:¬ a.Kind=9:=by omega
    exact ⟨⟨false,false,false,false,false⟩,by simp [Ze7,Zlw,Zke,Zly,h1,h2,h3,h4,h5,h6,h7,h8,h9]⟩
   obtain ⟨s,hs⟩:=hs
   rw [hs]
   simp only [Option.bind_some]
   rw [if_pos (by simpa using hk)]
  ·unfold Zd2
   rw [if_pos (by simp;omega)]
 ·have hk2:¬ (a.Kind < 1 ∨ 9 < a.Kind):=by omega
  have hk':a.Kind=1 ∨ a.Kind=2 ∨ a.Kind=3 ∨ a.Kind=4 ∨ a.Kind=5 ∨ a.Kind=6 ∨ a.Kind=7 ∨ a.Kind=8 ∨ a.Kind=9:=by omega
  rcases hk' with h | h | h | h | h | h | h | h | h
  ·exact ⟨_,Zhs ha hk (by rw [h];exact Z7q),by rw [Zhv ha hk2 (by rw [h];kernel_rfl) Zbd6,D_eq _ _ _ _ _ _ _ (by simp [h]) (by simp [h]) (by simp [h])]⟩
  ·exact ⟨_,Zhs ha hk (by rw [h];exact Z7k),by rw [Zhv ha hk2 (by rw [h];kernel_rfl) Z98,D_eq _ _ _ _ _ _ _ (by simp [h]) (by simp [h]) (by simp [h])]⟩
  ·exact ⟨_,Zhs ha hk (by rw [h];exact Z69),by rw [Zhv ha hk2 (by rw [h];kernel_rfl) Z98,D_eq _ _ _ _ _ _ _ (by simp [h]) (by simp [h]) (by simp [h])]⟩
  ·exact ⟨_,Zhs ha hk (by rw [h];exact Z68),by rw [Zhv ha hk2 (by rw [h];kernel_rfl) Zbcc,D_eq _ _ _ _ _ _ _ (by simp [h]) (by simp [h]) (by simp [h])]⟩
  ·exact ⟨_,Zhs ha hk (by rw [h];exact Z7x),by rw [Zhv ha hk2 (by rw [h];kernel_rfl) Z47,D_eq _ _ _ _ _ _ _ (by simp [h]) (by simp [h]) (by simp [h])]⟩
  ·exact ⟨_,Zhs ha hk (by rw [h];exact Z7y),by rw [Zhv ha hk2 (by rw [h];kernel_rfl) Z47,D_eq _ _ _ _ _ _ _ (by simp [h]) (by simp [h]) (by simp [h])]⟩
  ·exact ⟨_,Zhs ha hk (by rw [h];exact Z7g),by rw [Zhv ha hk2 (by rw [h];kernel_rfl) Z47,D_eq _ _ _ _ _ _ _ (by simp [h]) (by simp [h]) (by simp [h])]⟩
  ·exact ⟨_,Zhs ha hk (by rw [h];exact Z66),by rw [Zhv ha hk2 (by rw [h];kernel_rfl) Z9h,D_eq _ _ _ _ _ _ _ (by simp [h]) (by simp [h]) (by simp [h])]⟩
  ·exact ⟨_,Zhs ha hk (by rw [h];exact Z6w),by rw [Zhv ha hk2 (by rw [h];kernel_rfl) Z9h,D_eq _ _ _ _ _ _ _ (by simp [h]) (by simp [h]) (by simp [h])]⟩
def endB:Bool → Bool ⊕ Unit
 | true=>.inr ()
 | false=>.inl false
def eqI (x y:Zh):Bool:=sEq x.Name y.Name && decide (keyf x.Score=keyf y.Score)
def eqL:List Zh → List Zh → Bool
 | [],[]=>true
 | x :: xs,y :: ys=>eqI x y && eqL xs ys
 | _,_=>false
def Zmz (a b:Zb):Bool:=(a.Kind == b.Kind) && (a.Num == b.Num) && (a.Low == b.Low) && (a.High == b.High) && decide (keyf a.Real=keyf b.Real) && (a.Cap == b.Cap) && sEq a.Text b.Text && eqL a.List b.List
theorem Zyz:∀ {a b:List Zh},eqL a b=true → a.length=b.length
 | [],[],_=>rfl
 | x :: xs,y :: ys,h=>by
  simp only [eqL,Bool.and_eq_true] at h
  simp [Zyz h.2]
 | [],_ :: _,h=>by simp [eqL] at h
 | _ :: _,[],h=>by simp [eqL] at h
theorem Z8e {x y:Zh} (hx:x.Score < W64) (hy:y.Score < W64):Zku x y=some (eqI x y):=by
 unfold Zku eqI
 rw [Zp7 hx hy]
 cases sEq x.Name y.Name <;> simp [gd]
theorem Z1q {a b:List Zh} (ha:∀ e ∈ a,e.Score < W64) (hb:∀ e ∈ b,e.Score < W64) (hl:a.length < 4611686018427387904) (he:a.length=b.length):∀ (n i:Nat),i + n=a.length →
  Zbw a b (fun y0 y1=>Zku y0 y1) (n + 1) (i:Int)=some (endB (eqL (a.drop i) (b.drop i)))
 | 0,i,h=>by
  rw [Zbw,if_neg (by simp;omega),List.drop_of_length_le (by omega),List.drop_of_length_le (by omega)]
  rfl
 | n + 1,i,h=>by
  have h1:i < a.length:=by omega
  have h2:i < b.length:=by omega
  rw [Zbw,if_pos (by simp;omega),Zc1 h1,Zc1 h2,wr1 (by omega)]
  simp only [Option.bind_some]
  rw [Z8e (ha _ (List.getElem_mem h1)) (hb _ (List.getElem_mem h2)),List.drop_eq_getElem_cons h1,List.drop_eq_getElem_cons h2]
  simp only [Option.bind_some,eqL]
  cases hq:eqI a[i] b[i]
  ·simp [endB]
  ·simp only [Bool.not_true,Bool.false_eq_true,if_false,Bool.true_and]
   exact Z1q ha hb hl he n (i + 1) (by omega)
theorem Zbcz {a b:List Zh} (ha:∀ e ∈ a,e.Score < W64) (hb:∀ e ∈ b,e.Score < W64) (hl:a.length < 4611686018427387904):Zcn a b (fun y0 y1=>Zku y0 y1)=some (eqL a b):=by
 unfold Zcn
 by_cases he:a.length=b.length
 ·rw [if_neg (by simp;omega),show (Int.toNat ((a.length:Int) - (0:Int)) + 1)=a.length + 1 by omega]
  have:=Z1q ha hb hl he a.length 0 (by omega)
  rw [show ((0:Nat):Int)=0 from rfl] at this
  rw [this]
  simp only [List.drop_zero]
  cases eqL a b <;> simp [endB]
 ·rw [if_pos (by simp;omega)]
  cases h:eqL a b
  ·rfl
  ·exact absurd (Zyz h) he
theorem Z9a {a b:Zb} (ha:Zi4 a) (hb:Zi4 b):Zos a b=some (Zmz a b):=by
 unfold Zos Zmz
 rw [Zp7 ha.real hb.real,Zbcz ha.sc hb.sc ha.len]
 generalize (a.Kind == b.Kind)=x1
 generalize (a.Num == b.Num)=x2
 generalize (a.Low == b.Low)=x3
 generalize (a.High == b.High)=x4
 generalize decide (keyf a.Real=keyf b.Real)=x5
 generalize (a.Cap == b.Cap)=x6
 generalize sEq a.Text b.Text=x7
 generalize eqL a.List b.List=x8
 revert x1 x2 x3 x4 x5 x6 x7 x8
 decide
theorem Zw2 {a b:Zb} (ha:Zi4 a) (hb:Zi4 b) (he:a.List.length=b.List.length):∀ (n i:Nat),i + n=a.List.length →
  Ze5 a b (n + 1) (i:Int)=some (endB (eqL (a.List.drop i) (b.List.drop i)))
 | 0,i,h=>by
  rw [Ze5,if_neg (by simp;omega),List.drop_of_length_le (by omega),List.drop_of_length_le (by omega)]
  rfl
 | n + 1,i,h=>by
  have h1:i < a.List.length:=by omega
  have h2:i < b.List.length:=by omega
  have hl:=ha.len
  have hs1:=ha.sc _ (List.getElem_mem h1)
  have hs2:=hb.sc _ (List.getElem_mem h2)
  rw [Ze5,if_pos (by simp;omega),Zc1 h1,Zc1 h2,wr1 (by omega),List.drop_eq_getElem_cons h1,List.drop_eq_getElem_cons h2]
  simp only [Option.bind_some,eqL,eqI]
  cases hn:sEq a.List[i].Name b.List[i].Name
  ·simp [gd,endB]
  ·simp only [Bool.not_true,Bool.not_false,gd_t,Option.bind_some]
   rw [Zoq hs1 hs2]
   simp only [Option.bind_some,Bool.false_or,Bool.true_and]
   by_cases hk:keyf a.List[i].Score=keyf b.List[i].Score
   ·simp only [hk,decide_true,Bool.not_true,Bool.false_eq_true,if_false,Bool.true_and]
    exact Zw2 ha hb he n (i + 1) (by omega)
   ·simp [hk,endB]
theorem Zt4 {a b:Zb} (ha:Zi4 a) (hb:Zi4 b):Zhe a b=some (Zmz a b):=by
 unfold Zhe Zmz
 rw [Zoq ha.real hb.real]
 by_cases he:a.List.length=b.List.length
 ·have:=Zw2 ha hb he a.List.length 0 (by omega)
  rw [show ((0:Nat):Int)=0 from rfl] at this
  rw [show (Int.toNat ((a.List.length:Int) - (0:Int)) + 1)=a.List.length + 1 by omega,this]
  have hn:((a.List.length:Int) != (b.List.length:Int))=false:=by simp;omega
  rw [hn]
  simp only [List.drop_zero,bne]
  generalize (a.Kind == b.Kind)=x1
  generalize (a.Num == b.Num)=x2
  generalize (a.Low == b.Low)=x3
  generalize (a.High == b.High)=x4
  generalize decide (keyf a.Real=keyf b.Real)=x5
  generalize (a.Cap == b.Cap)=x6
  generalize sEq a.Text b.Text=x7
  generalize eqL a.List b.List=x8
  clear this hn he
  revert x1 x2 x3 x4 x5 x6 x7 x8
  decide
 ·have h8:eqL a.List b.List=false:=by
   cases h:eqL a.List b.List
   ·rfl
   ·exact absurd (Zyz h) he
  have hn:((a.List.length:Int) != (b.List.length:Int))=true:=by simp;omega
  rw [hn,h8]
  simp only [bne,Bool.or_true,Option.bind_some,if_true,Bool.and_false,ite_self]
theorem Zx2 {a:Zb} (hl:a.List.length ≤ 9223372036854775807):∀ (n i:Nat),i + n=a.List.length → ∃ z,Zfl a (n + 1) (i:Int)=some z ∧ (z=.inl 1 ∨ z=.inr ())
 | 0,i,h=>by
  rw [Zfl,if_neg (by simp;omega)]
  exact ⟨_,rfl,.inr rfl⟩
 | n + 1,i,h=>by
  rw [Zfl,if_pos (by simp;omega),Zc1 (by omega),wr1 (by omega)]
  simp only [Option.bind_some]
  split
  ·exact ⟨_,rfl,.inl rfl⟩
  ·exact Zx2 hl n (i + 1) (by omega)
theorem Z9o {a:Zb} (hl:a.List.length ≤ 9223372036854775807):∃ c,Zja a=some c ∧ (c=0 ∨ c=1) ∧ (c=0 → a.List.length ≤ 100):=by
 unfold Zja
 by_cases h:(100:Int) < a.List.length ∨ (1000:Int) < a.Text.size
 ·rw [if_pos (by simpa using h)]
  exact ⟨1,rfl,.inr rfl,fun h=>by cases h⟩
 ·rw [if_neg (by simpa using h),show (Int.toNat ((a.List.length:Int) - (0:Int)) + 1)=a.List.length + 1 by omega]
  obtain ⟨z,hz,hc⟩:=Zx2 hl a.List.length 0 (by omega)
  rw [show ((0:Nat):Int)=0 from rfl] at hz
  rw [hz]
  rcases hc with rfl | rfl
  ·exact ⟨1,rfl,.inr rfl,fun h=>by cases h⟩
  ·exact ⟨0,rfl,.inl rfl,fun _=>by omega⟩
theorem Znt {β:Type} [Inhabited β] (c:Bool) (v:β):gd c (some v)=some (if c then v else default):=by cases c <;> rfl
def Zxh (a:Zn):Prop:=Zi4 a.Make ∧ a.X < W64
abbrev zrc:Zb:={ Kind:=0,Num:=0,Low:=0,High:=0,Real:=0,Cap:=0,Text:=ByteArray.empty,List:=[] }
theorem Z7a:Zi4 zrc:=⟨by decide,by decide,fun e he=>by cases he⟩
def actD (n x s m o1 k1 k2:Bool) (c:Int) (a:Zn):Int :=
 if (sEq a.Key ⟨#[]⟩ || decide ((24:Int) < a.Key.size))=true then 1
 else if (!(((n || a.N == 0) && (x || decide (keyf a.X=keyf 0))) && (s || sEq a.S ⟨#[]⟩) && (m || Zmz a.Make zrc)))=true then 4
 else if decide ((if o1=true then (64:Int) else 16) < a.S.size)=true then 3
 else if (k2 && (decide (a.N < 0) || decide (2305843009213693952 < a.N)))=true then 1
 else if (!decide (a.X=Zb9 a.X))=true then 4
 else if k1=true then c else 0
theorem Zbbe (k:ByteArray):(decide ((k.size:Int) < 1))=sEq k ⟨#[]⟩:=by
 by_cases h:k=⟨#[]⟩
 ·subst h;rw [Zdp];decide
 ·rw [Zeq.2 h]
  have:k.size ≠ 0:=fun e=>h (by
   apply ByteArray.ext
   exact Array.size_eq_zero_iff.1 e)
  simp;omega
theorem Z6l {a:Zn} (ha:Zxh a) {w has:ByteArray} {on c:Int} {n x s m:Bool} (hc:Ze6 a.Make=some c) (h1:Zqq a.Kind=some ⟨w,on,has⟩) (hw:sEq w ⟨#[]⟩=false)
  (fn:Zdy ⟨w,on,has⟩ 110=some n) (fx:Zdy ⟨w,on,has⟩ 120=some x) (fs:Zdy ⟨w,on,has⟩ 115=some s) (fm:Zdy ⟨w,on,has⟩ 109=some m) :
  Zf1 a=some (actD n x s m (on == 1) (a.Kind == 1) (a.Kind == 10 || a.Kind == 11) c a):=by
 have h0:(0:Nat) < W64:=by decide
 unfold Zf1 Zsw Zsm
 rw [h1]
 simp only [Option.bind_some,hw,Bool.false_eq_true,if_false,fn,fx,fs,fm,Znt]
 rw [Zp7 ha.2 h0,Z9a ha.1 Z7a,Ztx ha.2,hc]
 simp only [Option.bind_some,Znt]
 unfold actD
 generalize (sEq a.Key ⟨#[]⟩ || decide ((24:Int) < a.Key.size))=b1
 generalize (a.N == 0)=b2
 generalize decide (keyf a.X=keyf 0)=b3
 generalize sEq a.S ⟨#[]⟩=b4
 generalize Zmz a.Make zrc=b5
 generalize (a.Kind == 10 || a.Kind == 11)=b6
 generalize (a.Kind == 1)=b7
 generalize (decide (a.N < 0) || decide (2305843009213693952 < a.N))=b8
 generalize decide (a.X=Zb9 a.X)=b9
 have e1:decide ((64:Int) < a.S.size)=decide ((if true=true then (64:Int) else 16) < a.S.size):=rfl
 cases b1
 ·have hm:∀ (z:Bool),((if z=true then some (64:Int) else some 16).bind fun r8=>(if decide (r8 < (a.S.size:Int))=true then some (3:Int) else if (b6 && b8)=true then some 1 else if (!b9)=true then some 4 else if b7=true then some c else some 0))=some (if decide ((if z=true then (64:Int) else 16) < a.S.size)=true then 3 else if (b6 && b8)=true then 1 else if (!b9)=true then 4 else if b7=true then c else 0):=by
   intro z
   cases z <;> simp only [Bool.false_eq_true,if_false,if_true,Option.bind_some] <;> (repeat' split) <;> rfl
  rw [hm]
  cases n <;> cases x <;> cases s <;> cases m <;> cases b2 <;> cases b3 <;> cases b4 <;> cases b5 <;> rfl
 ·rfl
theorem Z48 {a:Zn} (ha:Zxh a) {on c:Int} {n x s m:Bool} (hc:Zd2 a.Make=some c) (hk:¬ (a.Kind < 1 ∨ 21 < a.Kind)) (ro:Zfi a.Kind=some on)
  (fn:Zev a.Kind 110=some n) (fx:Zev a.Kind 120=some x) (fs:Zev a.Kind 115=some s) (fm:m=(a.Kind == 1)) :
  Zfb a=some (actD n x s m (on == 1) (a.Kind == 1) (a.Kind == 10 || a.Kind == 11) c a):=by
 have h0:(0:Nat) < W64:=by decide
 unfold Zfb
 rw [if_neg (by simpa using hk),fn,fx,fs,ro]
 simp only [Option.bind_some,Znt,Zbbe]
 rw [Zoq ha.2 h0,Zt4 ha.1 Z7a,Zs4 ha.2,hc]
 simp only [Option.bind_some,Znt]
 unfold actD
 subst fm
 have hmid:((on == 1 && decide ((64:Int) < a.S.size)) || ((if (!(on == 1 && decide ((64:Int) < a.S.size)))=true then on else default) != 1 && decide ((16:Int) < a.S.size)))=decide ((if (on == 1)=true then (64:Int) else 16) < a.S.size):=by
  by_cases ho:on=1
  ·subst ho
   by_cases h64:(64:Int) < a.S.size <;> simp [h64]
  ·have hb1:(on == 1)=false:=by simpa using ho
   have hb2:(on != 1)=true:=by simpa using ho
   simp [hb1,hb2]
 rw [hmid,show (a.N != 0)=!(a.N == 0) from rfl,show (a.Kind != 1)=!(a.Kind == 1) from rfl]
 generalize decide ((if (on == 1)=true then (64:Int) else 16) < a.S.size)=b10
 generalize (sEq a.Key ⟨#[]⟩ || decide ((24:Int) < a.Key.size))=b1
 generalize (a.N == 0)=b2
 generalize decide (keyf a.X=keyf 0)=b3
 generalize sEq a.S ⟨#[]⟩=b4
 generalize Zmz a.Make zrc=b5
 generalize (a.Kind == 10 || a.Kind == 11)=b6
 generalize (a.Kind == 1)=b7
 generalize (decide (a.N < 0) || decide (2305843009213693952 < a.N))=b8
 generalize decide (a.X=Zb9 a.X)=b9
 have htail:(if b10=true then some (3:Int) else if (b6 && b8)=true then some 1 else if (!b9)=true then some 4 else if b7=true then some c else some 0)=some (if b10=true then 3 else if (b6 && b8)=true then 1 else if (!b9)=true then 4 else if b7=true then c else 0):=by
  (repeat' split) <;> rfl
 rw [htail]
 cases b1
 ·cases n <;> cases x <;> cases s <;> cases b7 <;> cases b2 <;> cases b3 <;> cases b4 <;> cases b5 <;> rfl
 ·rfl
theorem Z6b {n x s m o1 k1 k2:Bool} {c:Int} {a:Zn} (h:actD n x s m o1 k1 k2 c a=0):(sEq a.Key ⟨#[]⟩ || decide ((24:Int) < a.Key.size))=false ∧ decide ((if o1=true then (64:Int) else 16) < a.S.size)=false ∧ (k2 && (decide (a.N < 0) || decide (2305843009213693952 < a.N)))=false ∧ decide (a.X=Zb9 a.X)=true ∧ (k1=true → c=0):=by
 unfold actD at h
 revert h
 generalize (sEq a.Key ⟨#[]⟩ || decide ((24:Int) < a.Key.size))=b1
 generalize decide ((if o1=true then (64:Int) else 16) < a.S.size)=b3
 generalize (k2 && (decide (a.N < 0) || decide (2305843009213693952 < a.N)))=b4
 generalize decide (a.X=Zb9 a.X)=b5
 generalize (!(((n || a.N == 0) && (x || decide (keyf a.X=keyf 0))) && (s || sEq a.S ⟨#[]⟩) && (m || Zmz a.Make zrc)))=b2
 cases b1 <;> cases b2 <;> cases b3 <;> cases b4 <;> cases b5 <;> cases k1 <;> simp
theorem Zpu {a:Zn} (ha:Zxh a):∃ c,Zf1 a=some c ∧ Zfb a=some c ∧ (c=0 → 1 ≤ a.Kind ∧ a.Kind ≤ 21 ∧ a.X=Zb9 a.X ∧ a.S.size ≤ 64 ∧ ((a.Kind=10 ∨ a.Kind=11) → 0 ≤ a.N ∧ a.N ≤ 2305843009213693952) ∧ (a.Kind=1 → Ze6 a.Make=some 0) ∧ (¬ (5 ≤ a.Kind ∧ a.Kind ≤ 6) → a.S.size ≤ 16) ∧ sEq a.Key ⟨#[]⟩=false ∧ a.Key.size ≤ 24):=by
 by_cases hk:a.Kind < 1 ∨ 21 < a.Kind
 ·refine ⟨5,?_,?_,fun h=>by cases h⟩
  ·unfold Zf1 Zqq
   rw [if_pos (by simp;omega)]
   simp only [Option.bind_some]
   rw [if_pos (show sEq ByteArray.empty ⟨#[]⟩=true by kernel_rfl)]
  ·unfold Zfb
   rw [if_pos (by simpa using hk)]
 ·obtain ⟨c,hc1,hc2⟩:=Zn9 ha.1
  have fin:∀ {w has:ByteArray} {on:Int} {n x s m:Bool},Zqq a.Kind=some ⟨w,on,has⟩ → sEq w ⟨#[]⟩=false → Zdy ⟨w,on,has⟩ 110=some n → Zdy ⟨w,on,has⟩ 120=some x → Zdy ⟨w,on,has⟩ 115=some s → Zdy ⟨w,on,has⟩ 109=some m →
    Zfi a.Kind=some on → Zev a.Kind 110=some n → Zev a.Kind 120=some x → Zev a.Kind 115=some s → m=(a.Kind == 1) → ((on == 1)=true → 5 ≤ a.Kind ∧ a.Kind ≤ 6) →
    ∃ c,Zf1 a=some c ∧ Zfb a=some c ∧ (c=0 → 1 ≤ a.Kind ∧ a.Kind ≤ 21 ∧ a.X=Zb9 a.X ∧ a.S.size ≤ 64 ∧ ((a.Kind=10 ∨ a.Kind=11) → 0 ≤ a.N ∧ a.N ≤ 2305843009213693952) ∧ (a.Kind=1 → Ze6 a.Make=some 0) ∧ (¬ (5 ≤ a.Kind ∧ a.Kind ≤ 6) → a.S.size ≤ 16) ∧ sEq a.Key ⟨#[]⟩=false ∧ a.Key.size ≤ 24):=by
   intro w has on n x s m h1 hw fn fx fs fm ro rn rx rs hm hon
   refine ⟨_,Z6l ha hc1 h1 hw fn fx fs fm,by rw [hm];exact Z48 ha hc2 hk ro rn rx rs rfl,fun h0=>?_⟩
   obtain ⟨g1,g3,g4,g5,g6⟩:=Z6b h0
   simp only [Bool.or_eq_false_iff,decide_eq_false_iff_not] at g1
   have g3':¬ (if (on == 1)=true then (64:Int) else 16) < a.S.size:=of_decide_eq_false g3
   refine ⟨by omega,by omega,of_decide_eq_true g5,?_,fun h=>?_,fun h=>?_,fun h=>?_,g1.1,by omega⟩
   ·split at g3' <;> omega
   ·have h11:(a.Kind == 10 || a.Kind == 11)=true:=by simpa using h
    rw [h11] at g4
    simp only [Bool.true_and,Bool.or_eq_false_iff,decide_eq_false_iff_not] at g4
    omega
   ·rw [hc1,g6 (by simp [h])]
   ·rw [if_neg (fun h2=>h (hon h2))] at g3'
    omega
  have hk':a.Kind=1 ∨ a.Kind=2 ∨ a.Kind=3 ∨ a.Kind=4 ∨ a.Kind=5 ∨ a.Kind=6 ∨ a.Kind=7 ∨ a.Kind=8 ∨ a.Kind=9 ∨ a.Kind=10 ∨ a.Kind=11 ∨ a.Kind=12 ∨ a.Kind=13 ∨ a.Kind=14 ∨ a.Kind=15 ∨ a.Kind=16 ∨ a.Kind=17 ∨ a.Kind=18 ∨ a.Kind=19 ∨ a.Kind=20 ∨ a.Kind=21:=by omega
  rcases hk' with h | h | h | h | h | h | h | h | h | h | h | h | h | h | h | h | h | h | h | h | h <;> rw [h] at fin ⊢
  ·exact fin (w:=⟨#[110,101,119]⟩) (on:=0) (has:=⟨#[109]⟩) (n:=false) (x:=false) (s:=false) (m:=true) (by kernel_rfl) (by kernel_rfl) (by kernel_rfl) (by kernel_rfl) (by kernel_rfl) (by kernel_rfl) (by kernel_rfl) (by kernel_rfl) (by kernel_rfl) (by kernel_rfl) (by decide) (by decide)
  ·exact fin (w:=⟨#[100,114,111,112]⟩) (on:=0) (has:=⟨#[]⟩) (n:=false) (x:=false) (s:=false) (m:=false) (by kernel_rfl) (by kernel_rfl) (by kernel_rfl) (by kernel_rfl) (by kernel_rfl) (by kernel_rfl) (by kernel_rfl) (by kernel_rfl) (by kernel_rfl) (by kernel_rfl) (by decide) (by decide)
  ·exact fin (w:=⟨#[105,115]⟩) (on:=0) (has:=⟨#[]⟩) (n:=false) (x:=false) (s:=false) (m:=false) (by kernel_rfl) (by kernel_rfl) (by kernel_rfl) (by kernel_rfl) (by kernel_rfl) (by kernel_rfl) (by kernel_rfl) (by kernel_rfl) (by kernel_rfl) (by kernel_rfl) (by decide) (by decide)
  ·exact fin (w:=⟨#[108,111,111,107]⟩) (on:=0) (has:=⟨#[]⟩) (n:=false) (x:=false) (s:=false) (m:=false) (by kernel_rfl) (by kernel_rfl) (by kernel_rfl) (by kernel_rfl) (by kernel_rfl) (by kernel_rfl) (by kernel_rfl) (by kernel_rfl) (by kernel_rfl) (by kernel_rfl) (by decide) (by decide)
  ·exact fin (w:=⟨#[112,117,116]⟩) (on:=1) (has:=⟨#[115]⟩) (n:=false) (x:=false) (s:=true) (m:=false) (by kernel_rfl) (by kernel_rfl) (by kernel_rfl) (by kernel_rfl) (by kernel_rfl) (by kernel_rfl) (by kernel_rfl) (by kernel_rfl) (by kernel_rfl) (by kernel_rfl) (by decide) (by decide)
  ·exact fin (w:=⟨#[115,119,97,112]⟩) (on:=1) (has:=⟨#[115]⟩) (n:=false) (x:=false) (s:=true) (m:=false) (by kernel_rfl) (by kernel_rfl) (by kernel_rfl) (by kernel_rfl) (by kernel_rfl) (by kernel_rfl) (by kernel_rfl) (by kernel_rfl) (by kernel_rfl) (by kernel_rfl) (by decide) (by decide)
  ·exact fin (w:=⟨#[97,100,100]⟩) (on:=2) (has:=⟨#[110]⟩) (n:=true) (x:=false) (s:=false) (m:=false) (by kernel_rfl) (by kernel_rfl) (by kernel_rfl) (by kernel_rfl) (by kernel_rfl) (by kernel_rfl) (by kernel_rfl) (by kernel_rfl) (by kernel_rfl) (by kernel_rfl) (by decide) (by decide)
  ·exact fin (w:=⟨#[112,108,117,115]⟩) (on:=3) (has:=⟨#[110]⟩) (n:=true) (x:=false) (s:=false) (m:=false) (by kernel_rfl) (by kernel_rfl) (by kernel_rfl) (by kernel_rfl) (by kernel_rfl) (by kernel_rfl) (by kernel_rfl) (by kernel_rfl) (by kernel_rfl) (by kernel_rfl) (by decide) (by decide)
  ·exact fin (w:=⟨#[114,101,97,99,104]⟩) (on:=3) (has:=⟨#[110]⟩) (n:=true) (x:=false) (s:=false) (m:=false) (by kernel_rfl) (by kernel_rfl) (by kernel_rfl) (by kernel_rfl) (by kernel_rfl) (by kernel_rfl) (by kernel_rfl) (by kernel_rfl) (by kernel_rfl) (by kernel_rfl) (by decide) (by decide)
  ·exact fin (w:=⟨#[105,110]⟩) (on:=4) (has:=⟨#[110]⟩) (n:=true) (x:=false) (s:=false) (m:=false) (by kernel_rfl) (by kernel_rfl) (by kernel_rfl) (by kernel_rfl) (by kernel_rfl) (by kernel_rfl) (by kernel_rfl) (by kernel_rfl) (by kernel_rfl) (by kernel_rfl) (by decide) (by decide)
  ·exact fin (w:=⟨#[111,117,116]⟩) (on:=4) (has:=⟨#[110]⟩) (n:=true) (x:=false) (s:=false) (m:=false) (by kernel_rfl) (by kernel_rfl) (by kernel_rfl) (by kernel_rfl) (by kernel_rfl) (by kernel_rfl) (by kernel_rfl) (by kernel_rfl) (by kernel_rfl) (by kernel_rfl) (by decide) (by decide)
  ·exact fin (w:=⟨#[101,110,111,117,103,104]⟩) (on:=4) (has:=⟨#[110]⟩) (n:=true) (x:=false) (s:=false) (m:=false) (by kernel_rfl) (by kernel_rfl) (by kernel_rfl) (by kernel_rfl) (by kernel_rfl) (by kernel_rfl) (by kernel_rfl) (by kernel_rfl) (by kernel_rfl) (by kernel_rfl) (by decide) (by decide)
  ·exact fin (w:=⟨#[114,97,105,115,101]⟩) (on:=5) (has:=⟨#[120]⟩) (n:=false) (x:=true) (s:=false) (m:=false) (by kernel_rfl) (by kernel_rfl) (by kernel_rfl) (by kernel_rfl) (by kernel_rfl) (by kernel_rfl) (by kernel_rfl) (by kernel_rfl) (by kernel_rfl) (by kernel_rfl) (by decide) (by decide)
  ·exact fin (w:=⟨#[108,111,119,101,114]⟩) (on:=6) (has:=⟨#[120]⟩) (n:=false) (x:=true) (s:=false) (m:=false) (by kernel_rfl) (by kernel_rfl) (by kernel_rfl) (by kernel_rfl) (by kernel_rfl) (by kernel_rfl) (by kernel_rfl) (by kernel_rfl) (by kernel_rfl) (by kernel_rfl) (by decide) (by decide)
  ·exact fin (w:=⟨#[115,104,105,102,116]⟩) (on:=7) (has:=⟨#[120]⟩) (n:=false) (x:=true) (s:=false) (m:=false) (by kernel_rfl) (by kernel_rfl) (by kernel_rfl) (by kernel_rfl) (by kernel_rfl) (by kernel_rfl) (by kernel_rfl) (by kernel_rfl) (by kernel_rfl) (by kernel_rfl) (by decide) (by decide)
  ·exact fin (w:=⟨#[115,99,97,108,101]⟩) (on:=7) (has:=⟨#[120]⟩) (n:=false) (x:=true) (s:=false) (m:=false) (by kernel_rfl) (by kernel_rfl) (by kernel_rfl) (by kernel_rfl) (by kernel_rfl) (by kernel_rfl) (by kernel_rfl) (by kernel_rfl) (by kernel_rfl) (by kernel_rfl) (by decide) (by decide)
  ·exact fin (w:=⟨#[102,105,120]⟩) (on:=7) (has:=⟨#[120]⟩) (n:=false) (x:=true) (s:=false) (m:=false) (by kernel_rfl) (by kernel_rfl) (by kernel_rfl) (by kernel_rfl) (by kernel_rfl) (by kernel_rfl) (by kernel_rfl) (by kernel_rfl) (by kernel_rfl) (by kernel_rfl) (by decide) (by decide)
  ·exact fin (w:=⟨#[106,111,105,110]⟩) (on:=8) (has:=⟨#[115]⟩) (n:=false) (x:=false) (s:=true) (m:=false) (by kernel_rfl) (by kernel_rfl) (by kernel_rfl) (by kernel_rfl) (by kernel_rfl) (by kernel_rfl) (by kernel_rfl) (by kernel_rfl) (by kernel_rfl) (by kernel_rfl) (by decide) (by decide)
  ·exact fin (w:=⟨#[108,101,97,118,101]⟩) (on:=8) (has:=⟨#[115]⟩) (n:=false) (x:=false) (s:=true) (m:=false) (by kernel_rfl) (by kernel_rfl) (by kernel_rfl) (by kernel_rfl) (by kernel_rfl) (by kernel_rfl) (by kernel_rfl) (by kernel_rfl) (by kernel_rfl) (by kernel_rfl) (by decide) (by decide)
  ·exact fin (w:=⟨#[104,97,115]⟩) (on:=8) (has:=⟨#[115]⟩) (n:=false) (x:=false) (s:=true) (m:=false) (by kernel_rfl) (by kernel_rfl) (by kernel_rfl) (by kernel_rfl) (by kernel_rfl) (by kernel_rfl) (by kernel_rfl) (by kernel_rfl) (by kernel_rfl) (by kernel_rfl) (by decide) (by decide)
  ·exact fin (w:=⟨#[111,102,102,101,114]⟩) (on:=9) (has:=⟨#[120,115]⟩) (n:=false) (x:=true) (s:=true) (m:=false) (by kernel_rfl) (by kernel_rfl) (by kernel_rfl) (by kernel_rfl) (by kernel_rfl) (by kernel_rfl) (by kernel_rfl) (by kernel_rfl) (by kernel_rfl) (by kernel_rfl) (by decide) (by decide)
abbrev Zc8:=List Zh
def NS (l:Zc8):Prop:=l.Pairwise fun p q=>sLt p.Name q.Name=true
def pre (f:Zh → Bool):Zc8 → Nat
 | []=>0
 | e :: r=>if f e then pre f r + 1 else 0
theorem Zqo (f:Zh → Bool):∀ l:Zc8,pre f l ≤ l.length
 | []=>Nat.le_refl _
 | e :: r=>by
  have:=Zqo f r
  simp only [pre]
  split <;> simp <;> omega
theorem Z03 {f:Zh → Bool}:∀ {l:Zc8} {k:Nat} (h:k < pre f l),∃ e,l[k]?=some e ∧ f e=true
 | [],k,h=>by simp [pre] at h
 | e :: r,k,h=>by
  simp only [pre] at h
  split at h
  ·rename_i hf
   cases k with
   | zero=>exact ⟨e,rfl,hf⟩
   | succ k=>exact Z03 (l:=r) (by omega)
  ·omega
theorem Zx4 {f:Zh → Bool}:∀ {l:Zc8} {e:Zh},l[pre f l]?=some e → f e=false
 | [],e,h=>by simp [pre] at h
 | x :: r,e,h=>by
  simp only [pre] at h
  split at h
  ·exact Zx4 (l:=r) (by simpa using h)
  ·rename_i hf
   simp at h;subst h;simpa using hf
theorem Zwu {s:ByteArray} {l:Zc8} (hs:NS l) {k:Nat} (hk:k < l.length):sLt (l[k]).Name s=decide (k < pre (fun e=>sLt e.Name s) l):=by
 by_cases h:k < pre (fun e=>sLt e.Name s) l
 ·obtain ⟨e,he,hf⟩:=Z03 h
  rw [List.getElem?_eq_getElem hk] at he
  obtain rfl:=Option.some.inj he
  simp only [h,decide_true];exact hf
 ·simp only [h,decide_false]
  have hp:pre (fun e=>sLt e.Name s) l < l.length:=by omega
  have h1:=Zx4 (List.getElem?_eq_getElem hp)
  rcases Nat.lt_or_eq_of_le (Nat.le_of_not_lt h) with hlt | heq
  ·have h2:=List.pairwise_iff_getElem.1 hs _ _ hp hk hlt
   cases h3:sLt (l[k]).Name s
   ·rfl
   ·rw [Zgg h2 h3] at h1;cases h1
  ·have:l[k]=l[pre (fun e=>sLt e.Name s) l]:=by congr 1;exact heq.symm
   rw [this];exact h1
theorem half {i j:Nat} (h:i + j < 4611686018427387904):IntKind.i64.wrap (Int.fdiv (IntKind.u64.wrap (IntKind.i64.wrap ((i:Int) + (j:Int)))) (2 ^ 1))=(((i + j) / 2:Nat):Int):=by
 rw [wr (x:=(i:Int) + j) (by omega) (by omega),wru (by omega) (by omega)]
 have:Int.fdiv ((i:Int) + j) (2 ^ 1)=(((i + j) / 2:Nat):Int):=by
  rw [Int.fdiv_eq_ediv_of_nonneg _ (by decide)];omega
 rw [this,wr (by omega) (by omega)]
theorem Z9z (e:Zh) (s:ByteArray):∃ c:Int,Zk4 e s=some c ∧ decide (c < 0)=sLt e.Name s ∧ (c == 0)=sEq e.Name s:=by
 unfold Zk4
 by_cases h:sLt e.Name s=true
 ·exact ⟨-1,by rw [if_pos h],by rw [h];rfl,by rw [Zeq.2 (Zms h)];rfl⟩
 ·have h':sLt e.Name s=false:=by simpa using h
  by_cases h2:e.Name=s
  ·exact ⟨0,by rw [if_neg h,h',Zcx.2 h2];rfl,by rw [h'];rfl,by rw [Zcx.2 h2];rfl⟩
  ·exact ⟨1,by rw [if_neg h,h',Zeq.2 h2];rfl,by rw [h'];rfl,by rw [Zeq.2 h2];rfl⟩
theorem Zyc {l:Zc8} {s:ByteArray} (hs:NS l) (hl:l.length < 2305843009213693952):∀ (n i j:Nat),j - i < n → i ≤ pre (fun e=>sLt e.Name s) l → pre (fun e=>sLt e.Name s) l ≤ j → j ≤ l.length →
  Zbu l s (fun y0 y1=>Zk4 y0 y1) n (i:Int) (j:Int)=some ((pre (fun e=>sLt e.Name s) l:Nat):Int)
 | 0,i,j,h,_,_,_=>by omega
 | n + 1,i,j,h,h1,h2,h3=>by
  rw [Zbu]
  by_cases hij:i < j
  ·rw [if_pos (by simpa using hij),half (by omega)]
   have hm:(i + j) / 2 < l.length:=by omega
   rw [Zc1 hm]
   obtain ⟨c,hc,hc1,_⟩:=Z9z l[(i + j) / 2] s
   simp only [Option.bind_some,hc]
   rw [hc1,Zwu hs hm]
   unfold Zcq
   by_cases hp:(i + j) / 2 < pre (fun e=>sLt e.Name s) l
   ·rw [if_pos (by simpa using hp),wr1 (by omega)]
    exact Zyc hs hl n ((i + j) / 2 + 1) j (by omega) (by omega) h2 h3
   ·rw [if_neg (by simpa using hp)]
    exact Zyc hs hl n i ((i + j) / 2) (by omega) h1 (by omega) (by omega)
  ·rw [if_neg (by simpa using hij)]
   congr 2;omega
def isAt (s:ByteArray) (l:Zc8):Bool:=match l[pre (fun e=>sLt e.Name s) l]? with
 | some e=>sEq e.Name s
 | none=>false
theorem Zqa {l:Zc8} {s:ByteArray} (hs:NS l) (hl:l.length < 2305843009213693952):Zmk l s=some (((pre (fun e=>sLt e.Name s) l:Nat):Int),isAt s l):=by
 unfold Zmk Zda
 have:=Zyc (s:=s) hs hl (l.length + 1) 0 l.length (by omega) (Nat.zero_le _) (Zqo _ _) (Nat.le_refl _)
 rw [show ((0:Nat):Int)=0 from rfl] at this
 rw [show (Int.toNat ((l.length:Int) - (0:Int)) + 1)=l.length + 1 by omega,this]
 simp only [Option.bind_some]
 unfold isAt
 by_cases hp:pre (fun e=>sLt e.Name s) l < l.length
 ·have hd:decide (((pre (fun e=>sLt e.Name s) l:Nat):Int) < (l.length:Int))=true:=by simpa using hp
  rw [hd,Zc1 hp,List.getElem?_eq_getElem hp]
  obtain ⟨c,hc,_,hc2⟩:=Z9z l[pre (fun e=>sLt e.Name s) l] s
  simp only [gd_t,Option.bind_some,hc,Bool.true_and,hc2]
 ·have hd:decide (((pre (fun e=>sLt e.Name s) l:Nat):Int) < (l.length:Int))=false:=by simpa using hp
  rw [hd,List.getElem?_eq_none (by omega)]
  rfl
def goL (f g:Zh → Bool) (x:Zh):Zc8 → Bool → Zc8 × Bool
 | [],d=>([],d)
 | e :: r,d=>if (!d && !f e)=true then ((if g e then [] else [x]) ++ e :: (goL f g x r true).1,(goL f g x r true).2) else (e :: (goL f g x r d).1,(goL f g x r d).2)
theorem Z99 (f g:Zh → Bool) (x:Zh):∀ l:Zc8,goL f g x l true=(l,true)
 | []=>rfl
 | e :: r=>by simp [goL,Z99 f g x r]
theorem Z97 (f g:Zh → Bool) (x:Zh):∀ l:Zc8,goL f g x l false=match l[pre f l]? with
  | some e=>(l.take (pre f l) ++ (if g e then [] else [x]) ++ l.drop (pre f l),true)
  | none=>(l,false)
 | []=>rfl
 | e :: r=>by
  simp only [goL,pre]
  by_cases hf:f e=true
  ·simp only [hf,Bool.not_true,Bool.and_false,Bool.false_eq_true,if_false,if_true]
   rw [Z97 f g x r]
   simp only [List.getElem?_cons_succ]
   cases r[pre f r]? <;> simp
  ·have hf':f e=false:=by simpa using hf
   simp only [hf',Bool.not_false,Bool.and_self,if_true,Bool.false_eq_true,if_false,Z99,List.getElem?_cons_zero,List.take_zero,List.nil_append,List.drop_zero]
def Zds (x:Zh) (nm:Bool) (e:Zh):Bool:=if nm then sLt e.Name x.Name else Zcs e x
def Zhx (x:Zh) (nm:Bool) (e:Zh):Bool:=sEq e.Name x.Name && (nm || decide (keyf e.Score=keyf x.Score))
theorem Z7h {l:Zc8} {x:Zh} {nm:Bool} (hx:x.Score < W64) (hsc:∀ e ∈ l,e.Score < W64) {n i:Nat} {out:Zc8} {d:Bool} (h1:i < l.length) :
  Zcr l x nm (n + 1) out d (i:Int)=(if (!d && !Zds x nm l[i])=true then (if (!Zhx x nm l[i])=true then (if (out.length + ([x]:List Zh).length) * 24 ≤ 140737488355328 then Zd7 l (i:Int) (Zcr l x nm n) (out ++ [x]) true else none) else Zd7 l (i:Int) (Zcr l x nm n) out true) else Zd7 l (i:Int) (Zcr l x nm n) out d):=by
 have hm:=hsc _ (List.getElem_mem h1)
 have ha:Zgu l[i] x=some (Zcs l[i] x):=Z21 hm hx
 have hs:Zd5 l[i].Score x.Score=some (decide (keyf l[i].Score=keyf x.Score)):=Zoq hm hx
 rw [Zcr,if_pos (by simp;omega),Zc1 h1]
 cases nm
 ·simp only [Bool.not_false,gd_t,Option.bind_some,Bool.true_and,ha,Bool.and_false,gd_f,Bool.false_and,Bool.or_false,Bool.and_true,Bool.false_or,Zds,Zhx,Bool.false_eq_true,if_false]
  cases hq:sEq l[i].Name x.Name
  ·simp only [gd_f,Option.bind_some,Bool.false_and]
  ·simp only [gd_t,Option.bind_some,Bool.true_and,hs]
 ·simp only [Bool.not_true,gd_f,Option.bind_some,Bool.false_and,Bool.not_false,Bool.true_and,gd_t,Bool.false_or,Bool.true_or,Bool.and_false,Bool.and_true,Zds,Zhx,if_true]
theorem Zq6 {l:Zc8} {x:Zh} {nm:Bool} (hx:x.Score < W64) (hsc:∀ e ∈ l,e.Score < W64) (hl:l.length < 1000000):∀ (n i:Nat) (out:Zc8) (d:Bool),i + n=l.length → out.length + (if d=true then 0 else 1) ≤ i + 1 →
  Zcr l x nm (n + 1) out d (i:Int)=some (out ++ (goL (Zds x nm) (Zhx x nm) x (l.drop i) d).1,(goL (Zds x nm) (Zhx x nm) x (l.drop i) d).2)
 | 0,i,out,d,h,_=>by
  rw [Zcr,if_neg (by simp;omega),List.drop_of_length_le (by omega)]
  simp [goL]
 | n + 1,i,out,d,h,ho=>by
  have h1:i < l.length:=by omega
  rw [Z7h hx hsc h1,List.drop_eq_getElem_cons h1]
  simp only [Zd7,Zc1 h1,wr1 (show i < 9223372036854775807 by omega),Option.bind_some,goL]
  by_cases hc:(!d && !Zds x nm l[i])=true
  ·rw [if_pos hc,if_pos hc]
   have hd:d=false:=by cases d <;> simp_all
   subst hd
   simp only [Bool.false_eq_true,if_false] at ho
   by_cases hs:(!Zhx x nm l[i])=true
   ·rw [if_pos hs,if_pos (by simp;omega),if_pos (by simp;omega),Zq6 hx hsc hl n (i + 1) _ true (by omega) (by simp;omega)]
    have:Zhx x nm l[i]=false:=by simpa using hs
    simp [this]
   ·rw [if_neg hs,if_pos (by simp;omega),Zq6 hx hsc hl n (i + 1) _ true (by omega) (by simp;omega)]
    have:Zhx x nm l[i]=true:=by simpa using hs
    simp [this]
  ·rw [if_neg hc,if_neg hc,if_pos (by simp;omega),Zq6 hx hsc hl n (i + 1) _ d (by omega) (by simp;omega)]
   simp
def layL (x:Zh) (nm:Bool) (l:Zc8):Zc8:=match l[pre (Zds x nm) l]? with
 | some e=>l.take (pre (Zds x nm) l) ++ (if Zhx x nm e then [] else [x]) ++ l.drop (pre (Zds x nm) l)
 | none=>l ++ [x]
theorem Zuv {l:Zc8} {x:Zh} {nm:Bool} (hx:x.Score < W64) (hsc:∀ e ∈ l,e.Score < W64) (hl:l.length < 1000000):Zey l x nm=some (layL x nm l):=by
 unfold Zey
 have:=Zq6 (nm:=nm) hx hsc hl l.length 0 [] false (by omega) (by simp)
 rw [show ((0:Nat):Int)=0 from rfl] at this
 rw [show (Int.toNat ((l.length:Int) - (0:Int)) + 1)=l.length + 1 by omega,this]
 simp only [Option.bind_some,List.nil_append,List.drop_zero]
 rw [Z97]
 unfold layL
 cases h:l[pre (Zds x nm) l]? with
 | none =>
  simp only [Bool.not_false,if_true,Zgx]
  rw [if_pos (by simp;omega)]
 | some e=>simp only [Bool.not_true,Bool.false_eq_true,if_false,Zgx]
theorem Z2z {l:Zc8} {s:ByteArray} (hl:l.length < 1000000):∀ (n i:Nat),i + n=l.length → Zfp l s (n + 1) (i:Int)=some (cond ((l.drop i).any (fun e=>sEq e.Name s)) (.inl true) (.inr ()))
 | 0,i,h=>by
  rw [Zfp,if_neg (by simp;omega),List.drop_of_length_le (by omega)];rfl
 | n + 1,i,h=>by
  have h1:i < l.length:=by omega
  rw [Zfp,if_pos (by simp;omega),Zc1 h1,List.drop_eq_getElem_cons h1,List.any_cons]
  simp only [Option.bind_some]
  by_cases hq:sEq l[i].Name s=true
  ·rw [if_pos hq,hq];rfl
  ·have hq':sEq l[i].Name s=false:=by simpa using hq
   rw [if_neg hq,wr1 (by omega),Z2z hl n (i + 1) (by omega),hq',Bool.false_or]
theorem Z2e {l:Zc8} {s:ByteArray} (hl:l.length < 1000000):Zf7 l s=some (l.any (fun e=>sEq e.Name s)):=by
 unfold Zf7
 have:=Z2z (s:=s) hl l.length 0 (by omega)
 rw [show ((0:Nat):Int)=0 from rfl] at this
 rw [show (Int.toNat ((l.length:Int) - (0:Int)) + 1)=l.length + 1 by omega,this]
 simp only [List.drop_zero]
 cases h:l.any (fun e=>sEq e.Name s) <;> rfl
theorem Zpo {a0:Zb} {a:Zn} (hl:a0.List.length < 1000000):∀ (n i:Nat) (out:Zc8),i + n=a0.List.length → out.length ≤ i → Zdf a0 a (n + 1) out (i:Int)=some (out ++ (a0.List.drop i).filter (fun e=>!sEq e.Name a.S))
 | 0,i,out,h,_=>by
  rw [Zdf,if_neg (by simp;omega),List.drop_of_length_le (by omega)];simp
 | n + 1,i,out,h,ho=>by
  have h1:i < a0.List.length:=by omega
  rw [Zdf,if_pos (by simp;omega),Zc1 h1,List.drop_eq_getElem_cons h1]
  simp only [Option.bind_some,Zjl,wr1 (show i < 9223372036854775807 by omega)]
  rw [List.filter_cons]
  by_cases hq:(!sEq a0.List[i].Name a.S)=true
  ·rw [if_pos hq,if_pos hq,if_pos (by simp;omega),Zpo hl n (i + 1) _ (by omega) (by simp;omega),List.append_assoc];rfl
  ·rw [if_neg hq,if_neg hq,Zpo hl n (i + 1) _ (by omega) (by omega)]
theorem Zv2 {l:Zc8} {s:ByteArray} (hs:NS l):(∀ e ∈ l.take (pre (fun e=>sLt e.Name s) l),sEq e.Name s=false) ∧ (∀ e ∈ l.drop (pre (fun e=>sLt e.Name s) l + 1),sEq e.Name s=false):=by
 constructor
 ·intro e he
  obtain ⟨k,hk,rfl⟩:=List.getElem_of_mem he
  rw [List.length_take] at hk
  rw [List.getElem_take]
  have:=Zwu (s:=s) hs (k:=k) (by omega)
  rw [show decide (k < pre (fun e=>sLt e.Name s) l)=true by simp;omega] at this
  exact Zeq.2 (Zms this)
 ·intro e he
  obtain ⟨k,hk,rfl⟩:=List.getElem_of_mem he
  rw [List.length_drop] at hk
  rw [List.getElem_drop]
  refine Zeq.2 fun h=>?_
  have hp:pre (fun e=>sLt e.Name s) l < l.length:=by omega
  have h1:=List.pairwise_iff_getElem.1 hs _ _ hp (show pre (fun e=>sLt e.Name s) l + 1 + k < l.length by omega) (by omega)
  rw [h] at h1
  have:=Zx4 (List.getElem?_eq_getElem hp)
  rw [h1] at this;cases this
theorem Zwv (l:Zc8) (k:Nat) (h:k < l.length):l=l.take k ++ l[k] :: l.drop (k + 1):=by
 rw [← List.drop_eq_getElem_cons h,List.take_append_drop]
theorem Zsb {l:Zc8} {s:ByteArray} (hs:NS l):l.any (fun e=>sEq e.Name s)=isAt s l:=by
 obtain ⟨h1,h2⟩:=Zv2 (s:=s) hs
 unfold isAt
 by_cases hp:pre (fun e=>sLt e.Name s) l < l.length
 ·rw [List.getElem?_eq_getElem hp]
  conv=>lhs;rw [Zwv l _ hp]
  have a1:(l.take (pre (fun e=>sLt e.Name s) l)).any (fun e=>sEq e.Name s)=false:=by
   rw [List.any_eq_false];intro e he;rw [h1 e he];decide
  have a2:(l.drop (pre (fun e=>sLt e.Name s) l + 1)).any (fun e=>sEq e.Name s)=false:=by
   rw [List.any_eq_false];intro e he;rw [h2 e he];decide
  rw [List.any_append,List.any_cons,a1,a2];simp
 ·rw [List.getElem?_eq_none (by omega)]
  have:l.take (pre (fun e=>sLt e.Name s) l)=l:=List.take_of_length_le (by omega)
  rw [this] at h1
  rw [List.any_eq_false];intro e he;rw [h1 e he];decide
theorem Z7w {l:Zc8} {s:ByteArray} (hs:NS l):l.filter (fun e=>!sEq e.Name s)=if isAt s l=true then l.take (pre (fun e=>sLt e.Name s) l) ++ l.drop (pre (fun e=>sLt e.Name s) l + 1) else l:=by
 obtain ⟨h1,h2⟩:=Zv2 (s:=s) hs
 unfold isAt
 by_cases hp:pre (fun e=>sLt e.Name s) l < l.length
 ·rw [List.getElem?_eq_getElem hp]
  conv=>lhs;rw [Zwv l _ hp]
  have a1:(l.take (pre (fun e=>sLt e.Name s) l)).filter (fun e=>!sEq e.Name s)=l.take (pre (fun e=>sLt e.Name s) l):=List.filter_eq_self.2 fun e he=>by rw [h1 e he];rfl
  have a2:(l.drop (pre (fun e=>sLt e.Name s) l + 1)).filter (fun e=>!sEq e.Name s)=l.drop (pre (fun e=>sLt e.Name s) l + 1):=List.filter_eq_self.2 fun e he=>by rw [h2 e he];rfl
  rw [List.filter_append,List.filter_cons,a1,a2]
  by_cases hq:sEq (l[pre (fun e=>sLt e.Name s) l]).Name s=true
  ·rw [if_pos hq,if_neg (by rw [hq];decide)]
  ·rw [if_neg hq,if_pos (by simpa using hq)]
   exact (Zwv l _ hp).symm
 ·rw [List.getElem?_eq_none (by omega)]
  have:l.take (pre (fun e=>sLt e.Name s) l)=l:=List.take_of_length_le (by omega)
  rw [this] at h1
  rw [if_neg (by simp)]
  exact List.filter_eq_self.2 fun e he=>by rw [h1 e he];rfl
theorem Z6o {l:Zc8} {s:ByteArray}:layL { Score:=0,Name:=s } true l=if isAt s l=true then l else l.take (pre (fun e=>sLt e.Name s) l) ++ [{ Score:=0,Name:=s }] ++ l.drop (pre (fun e=>sLt e.Name s) l):=by
 have hf:Zds { Score:=0,Name:=s } true=fun e=>sLt e.Name s:=rfl
 unfold layL isAt
 rw [hf]
 cases h:l[pre (fun e=>sLt e.Name s) l]? with
 | none =>
  have hp:=List.getElem?_eq_none_iff.1 h
  rw [if_neg (by simp),List.take_of_length_le hp,List.drop_of_length_le hp,List.append_nil]
 | some e =>
  simp only [Zhx,Bool.true_or,Bool.and_true]
  by_cases hq:sEq e.Name s=true
  ·rw [if_pos hq,if_pos hq,List.append_nil,List.take_append_drop]
  ·rw [if_neg hq,if_neg hq]
theorem Zro {l:Zc8} (h:l.length < 1000000):Zbz l=some l:=by
 unfold Zbz
 rw [if_pos (by omega)]
theorem Zwz {r:Zb} {a:Zn} (ha:a.X < W64) (hsc:∀ e ∈ r.List,e.Score < W64) (hl:r.List.length < 1000000):∀ (n i:Nat),i + n=r.List.length →
  Zg7 r a (n + 1) (i:Int)=some ((i + pre (Zds { Score:=a.X,Name:=a.S } false) (r.List.drop i):Nat):Int)
 | 0,i,h=>by
  have hd:decide ((i:Int) < (r.List.length:Int))=false:=by simp;omega
  rw [Zg7,hd,List.drop_of_length_le (by omega)]
  simp [gd,pre]
 | n + 1,i,h=>by
  have h1:i < r.List.length:=by omega
  have hd:decide ((i:Int) < (r.List.length:Int))=true:=by simp;omega
  rw [Zg7,hd,Zc1 h1,List.drop_eq_getElem_cons h1]
  simp only [gd_t,Option.bind_some,Bool.true_and]
  rw [Zrf (hsc _ (List.getElem_mem h1)) ha]
  simp only [Option.bind_some,pre,Zds,Bool.false_eq_true,if_false,wr1 (show i < 9223372036854775807 by omega)]
  by_cases hb:Zcs r.List[i] { Score:=a.X,Name:=a.S }=true
  ·rw [if_pos hb,if_pos hb,Zwz ha hsc hl n (i + 1) (by omega)]
   congr 2;omega
  ·rw [if_neg hb,if_neg hb];simp
theorem Zz0 {r:Zb} {a:Zn} (ha:a.X < W64) (hsc:∀ e ∈ r.List,e.Score < W64) (hl:r.List.length < 1000000):Zg7 r a (Int.toNat ((r.List.length:Int) - (0:Int)) + 1) (0:Int)=some ((pre (Zds { Score:=a.X,Name:=a.S } false) r.List:Nat):Int):=by
 have:=Zwz (a:=a) ha hsc hl r.List.length 0 (by omega)
 rw [show ((0:Nat):Int)=0 from rfl] at this
 rw [show (Int.toNat ((r.List.length:Int) - (0:Int)) + 1)=r.List.length + 1 by omega,this]
 simp
theorem Zvw {e x:Zh} (h1:Zcs e x=false):(!Zcs x e)=Zhx x false e:=by
 unfold Zcs Zhx at *
 by_cases hk:keyf e.Score=keyf x.Score
 ·rw [if_pos hk] at h1
  rw [if_pos hk.symm,hk]
  simp only [Bool.false_or,decide_true,Bool.and_true]
  by_cases hn:e.Name=x.Name
  ·rw [hn,Zho,Zdp];rfl
  ·rw [Zm6 h1 hn,Zeq.2 hn];rfl
 ·rw [if_neg hk] at h1
  rw [if_neg (fun h=>hk h.symm)]
  have:=of_decide_eq_false h1
  have h3:keyf e.Score < keyf x.Score:=by omega
  simp [h3,hk]
theorem Zvu {k:Int} {l:Zc8}:∀ (n i:Nat),Zko k l i n=0 ↔ ∀ j,i ≤ j → j < i + n → Zi3 k l j=0
 | 0,i=>⟨fun _ j h1 h2=>by omega,fun _=>rfl⟩
 | n + 1,i=>by
  by_cases h:Zi3 k l i=0
  ·rw [Zwp h,Zvu n (i + 1)]
   constructor
   ·intro hh j h1 h2
    by_cases e:j=i
    ·rw [e];exact h
    ·exact hh j (by omega) (by omega)
   ·intro hh j h1 h2;exact hh j (by omega) (by omega)
  ·rw [Zwi h]
   exact ⟨fun e=>absurd e h,fun hh=>absurd (hh i (Nat.le_refl _) (by omega)) h⟩
theorem Zvz {t n b r l:Bool} {a:Zb}:Zr2 t n b r l a=0 ↔ Zix t n b r l a=true ∧ a.Text.size ≤ 64 ∧ (b=true → -2305843009213693952 ≤ a.Low ∧ a.High ≤ 2305843009213693952 ∧ a.Low ≤ a.Num ∧ a.Num ≤ a.High) ∧ a.Real=Zb9 a.Real ∧ (l=true → 1 ≤ a.Cap ∧ a.Cap ≤ 32 ∧ (a.List.length:Int) ≤ a.Cap ∧ ∀ i,i < a.List.length → Zi3 a.Kind a.List i=0):=by
 unfold Zr2
 by_cases h1:Zix t n b r l a=false
 ·rw [if_pos h1,h1];simp
 ·have h1':Zix t n b r l a=true:=by simpa using h1
  rw [if_neg h1,h1']
  by_cases h2:(64:Int) < a.Text.size
  ·rw [if_pos h2];exact ⟨fun h=>absurd h (by decide),fun h=>by omega⟩
  ·rw [if_neg h2]
   by_cases h3:b=true ∧ (a.Low < -2305843009213693952 ∨ 2305843009213693952 < a.High ∨ a.Num < a.Low ∨ a.High < a.Num)
   ·rw [if_pos h3];exact ⟨fun h=>absurd h (by decide),fun h=>by have:=h.2.2.1 h3.1;omega⟩
   ·rw [if_neg h3]
    by_cases h4:a.Real=Zb9 a.Real
    ·rw [if_neg (fun h=>h h4)]
     cases l
     ·rw [if_pos rfl]
      refine ⟨fun _=>⟨rfl,by omega,fun hb=>?_,h4,fun h=>absurd h (by decide)⟩,fun _=>rfl⟩
      have:¬ (a.Low < -2305843009213693952 ∨ 2305843009213693952 < a.High ∨ a.Num < a.Low ∨ a.High < a.Num):=fun h=>h3 ⟨hb,h⟩
      omega
     ·rw [if_neg (by decide)]
      by_cases h5:a.Cap < 1 ∨ 32 < a.Cap
      ·rw [if_pos h5];exact ⟨fun h=>absurd h (by decide),fun h=>by have:=h.2.2.2.2 rfl;omega⟩
      ·rw [if_neg h5]
       by_cases h6:a.Cap < a.List.length
       ·rw [if_pos h6];exact ⟨fun h=>absurd h (by decide),fun h=>by have:=h.2.2.2.2 rfl;omega⟩
       ·rw [if_neg h6,Zvu]
        constructor
        ·intro h
         refine ⟨rfl,by omega,fun hb=>?_,h4,fun _=>⟨by omega,by omega,by omega,fun i hi=>h i (Nat.zero_le _) (by omega)⟩⟩
         have:¬ (a.Low < -2305843009213693952 ∨ 2305843009213693952 < a.High ∨ a.Num < a.Low ∨ a.High < a.Num):=fun h=>h3 ⟨hb,h⟩
         omega
        ·intro h j _ hj
         exact (h.2.2.2.2 rfl).2.2.2 j (by omega)
    ·rw [if_pos h4];exact ⟨fun h=>absurd h (by decide),fun h=>absurd h.2.2.2.1 h4⟩
def Zcl (a:Zb):Prop:=1 ≤ a.Kind ∧ a.Kind ≤ 9 ∧ Zix (decide (a.Kind=1)) (decide (2 ≤ a.Kind ∧ a.Kind ≤ 4)) (decide (a.Kind=4)) (decide (5 ≤ a.Kind ∧ a.Kind ≤ 7)) (decide (8 ≤ a.Kind)) a=true ∧ a.Text.size ≤ 64 ∧ (a.Kind=4 → -2305843009213693952 ≤ a.Low ∧ a.High ≤ 2305843009213693952 ∧ a.Low ≤ a.Num ∧ a.Num ≤ a.High) ∧ a.Real=Zb9 a.Real ∧
 (8 ≤ a.Kind → 1 ≤ a.Cap ∧ a.Cap ≤ 32 ∧ (a.List.length:Int) ≤ a.Cap ∧ ∀ i,i < a.List.length → Zi3 a.Kind a.List i=0)
theorem Ziw {a:Zb} (ha:Zi4 a):Ze6 a=some 0 ↔ Zcl a:=by
 by_cases hk:a.Kind ≤ 0 ∨ 10 ≤ a.Kind
 ·have:Ze6 a ≠ some 0:=by
   obtain ⟨c,hc,hc2⟩:=Zn9 ha
   unfold Zd2 at hc2
   rw [if_pos (by simp;omega)] at hc2
   rw [hc,← hc2];decide
  exact ⟨fun h=>absurd h this,fun h=>by obtain ⟨h1,h2,_⟩:=h;omega⟩
 ·have fin:∀ {t n b r l:Bool},Ze7 a.Kind=some ⟨t,n,b,r,l⟩ → t=decide (a.Kind=1) → n=decide (2 ≤ a.Kind ∧ a.Kind ≤ 4) → b=decide (a.Kind=4) → r=decide (5 ≤ a.Kind ∧ a.Kind ≤ 7) → l=decide (8 ≤ a.Kind) → (Ze6 a=some 0 ↔ Zcl a):=by
   intro t n b r l hs h1 h2 h3 h4 h5
   rw [Zhs ha hk hs]
   constructor
   ·intro h
    obtain ⟨g1,g2,g3,g4,g5⟩:=Zvz.1 (Option.some.inj h)
    refine ⟨by omega,by omega,by rw [← h1,← h2,← h3,← h4,← h5];exact g1,g2,fun hk4=>g3 (by rw [h3];simpa using hk4),g4,fun hk8=>g5 (by rw [h5];simpa using hk8)⟩
   ·rintro ⟨_,_,g1,g2,g3,g4,g5⟩
    congr 1
    exact Zvz.2 ⟨by rw [h1,h2,h3,h4,h5];exact g1,g2,fun hb=>g3 (by rw [h3] at hb;simpa using hb),g4,fun hb=>g5 (by rw [h5] at hb;simpa using hb)⟩
  have hk':a.Kind=1 ∨ a.Kind=2 ∨ a.Kind=3 ∨ a.Kind=4 ∨ a.Kind=5 ∨ a.Kind=6 ∨ a.Kind=7 ∨ a.Kind=8 ∨ a.Kind=9:=by omega
  rcases hk' with h | h | h | h | h | h | h | h | h <;> rw [h] at fin
  ·exact fin Z7q rfl rfl rfl rfl rfl
  ·exact fin Z7k rfl rfl rfl rfl rfl
  ·exact fin Z69 rfl rfl rfl rfl rfl
  ·exact fin Z68 rfl rfl rfl rfl rfl
  ·exact fin Z7x rfl rfl rfl rfl rfl
  ·exact fin Z7y rfl rfl rfl rfl rfl
  ·exact fin Z7g rfl rfl rfl rfl rfl
  ·exact fin Z66 rfl rfl rfl rfl rfl
  ·exact fin Z6w rfl rfl rfl rfl rfl
theorem Zm4 {a:Zb} (h:Zcl a) (hk:a.Kind=8):NS a.List:=by
 obtain ⟨_,_,_,_,_,_,h8⟩:=h
 obtain ⟨_,_,_,hi⟩:=h8 (by omega)
 have step:∀ i,i + 1 < a.List.length → sLt ((a.List[i]?).getD default).Name ((a.List[i + 1]?).getD default).Name=true:=by
  intro i hi1
  have:=hi (i + 1) hi1
  unfold Zi3 at this
  rw [List.getElem?_eq_getElem hi1] at this
  simp only [Nat.add_sub_cancel] at this
  split at this
  ·cases this
  ·split at this
   ·cases this
   ·split at this
    ·cases this
    ·rename_i h3
     rw [List.getElem?_eq_getElem hi1]
     cases hq:sLt ((a.List[i]?).getD default).Name a.List[i + 1].Name
     ·exact absurd ⟨by omega,hk,hq⟩ h3
     ·exact hq
 have far:∀ d i,i + d + 1 < a.List.length → sLt ((a.List[i]?).getD default).Name ((a.List[i + d + 1]?).getD default).Name=true:=by
  intro d
  induction d with
  | zero=>intro i h;exact step i h
  | succ d ih=>intro i h;exact Zgg (ih i (by omega)) (step (i + d + 1) (by omega))
 refine List.pairwise_iff_getElem.2 fun i j hi hj hij=>?_
 have:=far (j - i - 1) i (by omega)
 rw [show i + (j - i - 1) + 1=j by omega,List.getElem?_eq_getElem hi,List.getElem?_eq_getElem hj] at this
 exact this
theorem Zye {neg:Bool} {r:Nat} (h:r ≤ Ieee.double.infRung):Ieee.double.word neg r < W64:=by
 have h1:Ieee.double.infRung=9218868437227405312:=by decide
 have h2:Ieee.double.signWeight=9223372036854775808:=by decide
 unfold Ieee.Format.word
 rw [h1] at h
 show _ < 18446744073709551616
 split
 ·rw [h2];omega
 ·omega
theorem Z52 (neg:Bool) (mag:Nat) (place:Int):Ieee.double.nearest neg mag place < W64:=by
 unfold Ieee.Format.nearest
 split
 ·exact Zye (Nat.zero_le _)
 ·exact Zye (Nat.min_le_right _ _)
theorem Z1c {d:Ieee.Datum} (h:∀ n f,d ≠ .nan n f):Ieee.double.write d < W64:=by
 cases d with
 | number n m p=>exact Z52 n m p
 | infinity n=>exact Zye (Nat.le_refl _)
 | nan n f=>exact absurd rfl (h n f)
theorem Zbbz {x y d:Ieee.Datum} (h:x.sum y=some d):∀ n f,d ≠ .nan n f:=by
 intro n f e
 subst e
 cases x <;> cases y <;> simp [Ieee.Datum.sum] at h
theorem Z3p {x y d:Ieee.Datum} (h:x.product y=some d):∀ n f,d ≠ .nan n f:=by
 intro n f e
 subst e
 cases x <;> cases y <;> simp [Ieee.Datum.product] at h
theorem Z36 (m n:Nat):fadd m n < W64:=by
 unfold fadd Ieee.Format.add
 cases h:(Ieee.double.read m).sum (Ieee.double.read n) with
 | none=>exact (by decide:9221120237041090561 < W64)
 | some d=>simpa using Z1c (Zbbz h)
theorem Z30 (m n:Nat):fmul m n < W64:=by
 unfold fmul Ieee.Format.mul
 cases h:(Ieee.double.read m).product (Ieee.double.read n) with
 | none=>exact (by decide:9221120237041090561 < W64)
 | some d=>simpa using Z1c (Z3p h)
theorem Ztp {z:Nat} (hz:z < W64):∃ p,Zf0 z=some p ∧ Zfo p=some (Zb9 z):=by
 have hz':z < 18446744073709551616:=hz
 unfold Zf0 Zfo Zb9 NANB
 rw [Zs5 hz]
 simp only [Option.bind_some]
 by_cases hn:isn z
 ·refine ⟨18444492273895866369,by simp [hn];decide,?_⟩
  rw [if_pos (by decide),if_pos hn];decide
 ·simp only [hn,decide_false,Bool.false_eq_true,if_false]
  by_cases ht:(9223372036854775808:Int) ≤ z
  ·rw [if_pos (by simpa using ht)]
   refine ⟨_,rfl,?_⟩
   rw [wru (x:=(9223372036854775808:Int) - 1) (by decide) (by decide),wru (x:=(z:Int) - 9223372036854775808) (by omega) (by omega),wru (by omega) (by omega)]
   rw [if_neg (by simp;omega)]
   rw [wru (x:=(9223372036854775808:Int) - 1 - _) (by omega) (by omega),wru (by omega) (by omega)]
   congr 1;omega
  ·rw [if_neg (by simpa using ht)]
   refine ⟨_,rfl,?_⟩
   rw [wru (by omega) (by omega),if_pos (by simp;omega),wru (by omega) (by omega)]
   congr 1;omega
theorem Zv5 {z:Nat}:Zb9 (Zb9 z)=Zb9 z:=by
 unfold Zb9
 by_cases h:isn z
 ·rw [if_pos h,if_pos (show isn NANB by unfold isn rg INF NANB TOP;decide)]
 ·rw [if_neg h,if_neg h]
theorem Z1a {a b:Nat} (ha:a < W64) (hb:b < W64) (ca:a=Zb9 a) (cb:b=Zb9 b):∃ m,Zl3 a b=some m ∧ Zh3 a b=some m ∧ (m=a ∨ m=b):=by
 unfold Zl3 Zh3
 rw [Zya ha hb,Znl ha hb,Zk8 ha,Zk8 hb,← ca,← cb]
 by_cases h:keyf a < keyf b
 ·exact ⟨b,by simp [h],by simp [h],.inr rfl⟩
 ·exact ⟨a,by simp [h],by simp [h],.inl rfl⟩
theorem Z2m {a b:Nat} (ha:a < W64) (hb:b < W64) (ca:a=Zb9 a) (cb:b=Zb9 b):∃ m,Zl2 a b=some m ∧ Zh0 a b=some m ∧ (m=a ∨ m=b):=by
 unfold Zl2 Zh0
 rw [Zya hb ha,Znl hb ha,Zk8 ha,Zk8 hb,← ca,← cb]
 by_cases h:keyf b < keyf a
 ·exact ⟨b,by simp [h],by simp [h],.inr rfl⟩
 ·exact ⟨a,by simp [h],by simp [h],.inl rfl⟩
def I64 (x:Int):Prop:=-9223372036854775808 ≤ x ∧ x ≤ 9223372036854775807
structure RecW (r:Zb):Prop where
 ok:Zi4 r
 num:I64 r.Num
 low:I64 r.Low
 high:I64 r.High
 kind:I64 r.Kind
 len:r.List.length ≤ 1000
structure ActW (a:Zn):Prop where
 ok:Zxh a
 n:I64 a.N
 mkr:RecW a.Make
 xc:a.X=Zb9 a.X
 inout:(a.Kind=10 ∨ a.Kind=11) → 0 ≤ a.N ∧ a.N ≤ 2305843009213693952
 s64:a.S.size ≤ 64
 s16:¬ (5 ≤ a.Kind ∧ a.Kind ≤ 6) → a.S.size ≤ 16
abbrev ans (c:Int):Zd:={ Code:=c,Num:=0,Rec:=default }
def Chg (r:Zb) (a:Zn):Prop:=∃ c r' o,Zbb a.Kind r a (default:Zd)=some (c,r',o) ∧ Zbj r a=some (if c=0 then (r',o) else (r,ans c)) ∧ RecW r' ∧ RecW o.Rec ∧ (c=0 → o.Code=0 ∧ o.Num=0)
theorem Zs6 (x:Int):I64 (IntKind.i64.wrap x):=by unfold I64;rw [IntKind.wrap_i64];omega
theorem Zcm:RecW (default:Zb):=⟨⟨by decide,by decide,fun e he=>by cases he⟩,by unfold I64;decide,by unfold I64;decide,by unfold I64;decide,by unfold I64;decide,by decide⟩
theorem RecW.withNum {r:Zb} (h:RecW r) {x:Int} (hx:I64 x):RecW { r with Num:=x }:=⟨⟨h.ok.real,h.ok.len,h.ok.sc⟩,hx,h.low,h.high,h.kind,h.len⟩
theorem RecW.withText {r:Zb} (h:RecW r) (t:ByteArray):RecW { r with Text:=t }:=⟨⟨h.ok.real,h.ok.len,h.ok.sc⟩,h.num,h.low,h.high,h.kind,h.len⟩
theorem RecW.withReal {r:Zb} (h:RecW r) {x:Nat} (hx:x < W64):RecW { r with Real:=x }:=⟨⟨hx,h.ok.len,h.ok.sc⟩,h.num,h.low,h.high,h.kind,h.len⟩
theorem RecW.withList {r:Zb} (h:RecW r) {l:Zc8} (h1:l.length ≤ 1000) (h2:∀ e ∈ l,e.Score < W64):RecW { r with List:=l }:=⟨⟨h.ok.real,by show l.length < _;omega,h2⟩,h.num,h.low,h.high,h.kind,h1⟩
theorem Zib {r:Zb} (h:r.List.length ≤ 1000):Ze4 r=some r:=by
 unfold Ze4 Zbz
 rw [if_pos (by omega)];rfl
theorem Zrd {r:Zb} (h:r.List.length ≤ 1000):Zfm r=some r:=by
 unfold Zfm
 rw [if_pos (by simp;omega)];rfl
variable {r:Zb} {a:Zn}
theorem Zbaq (h:a.Kind=5) (hr:RecW r):Chg r a:=by
 refine ⟨0,{ r with Text:=a.S },ans 0,?_,?_,hr.withText _,Zcm,fun _=>⟨rfl,rfl⟩⟩
 ·rw [h];rfl
 ·unfold Zbj;rw [h];rfl
theorem Z81 (h:a.Kind=6) (hr:RecW r):Chg r a:=by
 refine ⟨0,{ r with Text:=a.S },{ ans 0 with Rec:=r },?_,?_,hr.withText _,hr,fun _=>⟨rfl,rfl⟩⟩
 ·rw [h]
  show Zgs r a default=_
  unfold Zgs
  rw [Zib hr.len];rfl
 ·unfold Zbj;rw [h,Zrd hr.len];rfl
theorem Zbbk (h:a.Kind=7) (hr:RecW r):Chg r a:=by
 refine ⟨0,{ r with Num:=IntKind.i64.wrap (r.Num + a.N) },ans 0,?_,?_,hr.withNum (Zs6 _),Zcm,fun _=>⟨rfl,rfl⟩⟩
 ·rw [h];rfl
 ·unfold Zbj;rw [h];rfl
theorem Z7c (hr:I64 r.Num) (hn:I64 a.N):(((decide ((0:Int) < a.N)) && (decide ((IntKind.i64.wrap ((9223372036854775807:Int) - a.N)) < r.Num))) || ((decide (a.N < (0:Int))) && (decide (r.Num < (IntKind.i64.wrap ((-9223372036854775808:Int) - a.N)))))) =
  ((((decide ((0:Int) < r.Num)) && (decide ((0:Int) < a.N))) && (decide ((IntKind.i64.wrap (r.Num + a.N)) < (0:Int)))) || (((decide (r.Num < (0:Int))) && (decide (a.N < (0:Int)))) && (decide ((0:Int) ≤ (IntKind.i64.wrap (r.Num + a.N)))))):=by
 unfold I64 at hr hn
 rw [Bool.eq_iff_iff]
 simp only [Bool.or_eq_true,Bool.and_eq_true,decide_eq_true_eq,IntKind.wrap_i64]
 omega
theorem Z8o (h:a.Kind=8) (hr:RecW r) (ha:ActW a):Chg r a:=by
 have e1:Zbb a.Kind r a default=Zlj r a default:=by rw [h];rfl
 have e2:Zbj r a=(Zhd r.Num a.N).bind fun r7=>(if r7 then (Z1 r (ans 9)) else (Z1 { r with Num:=IntKind.i64.wrap (r.Num + a.N) } (ans 0))):=by unfold Zbj;rw [h];rfl
 have hp:=Z7c hr.num ha.n
 unfold Chg
 rw [e1,e2]
 unfold Zlj Zhd Z1
 rw [hp]
 simp only [Option.bind_some]
 split
 ·exact ⟨9,r,_,rfl,rfl,hr,Zcm,fun h=>by cases h⟩
 ·exact ⟨0,_,_,rfl,rfl,hr.withNum (Zs6 _),Zcm,fun _=>⟨rfl,rfl⟩⟩
theorem Zzg (h:a.Kind=9 ∨ a.Kind=12) (hr:RecW r):Chg r a:=by
 have e1:Zbb a.Kind r a default=Zd3 r a default:=by rcases h with h | h <;> rw [h] <;> rfl
 have e2:Zbj r a=(if (decide (r.Num < a.N)) then (Z1 r (ans 11)) else (Z1 r (ans 0))):=by rcases h with h | h <;> unfold Zbj Zb1 <;> rw [h] <;> rfl
 unfold Chg
 rw [e1,e2]
 unfold Zd3 Z1
 split
 ·exact ⟨11,r,_,rfl,rfl,hr,Zcm,fun h=>by cases h⟩
 ·exact ⟨0,r,_,rfl,rfl,hr,Zcm,fun _=>⟨rfl,rfl⟩⟩
theorem Zvh (hg:Zcl r) (hk:r.Kind=4):-2305843009213693952 ≤ r.Low ∧ r.High ≤ 2305843009213693952 ∧ r.Low ≤ r.Num ∧ r.Num ≤ r.High:=hg.2.2.2.2.1 hk
theorem Zbdm (h:a.Kind=10) (hr:RecW r) (hg:Zcl r) (hk:r.Kind=4) (ha:ActW a):Chg r a:=by
 have e1:Zbb a.Kind r a default=Zhn r a default:=by rw [h];rfl
 have e2:Zbj r a=(if (decide (r.High < IntKind.i64.wrap (r.Num + a.N))) then (Z1 r (ans 9)) else (Z1 { r with Num:=IntKind.i64.wrap (r.Num + a.N) } (ans 0))):=by unfold Zbj Zb1;rw [h];rfl
 obtain ⟨p1,p2,p3,p4⟩:=Zvh hg hk
 obtain ⟨n1,n2⟩:=ha.inout (.inl h)
 have hd:decide (IntKind.i64.wrap (r.High - r.Num) < a.N)=decide (r.High < IntKind.i64.wrap (r.Num + a.N)):=by
  rw [wr (x:=r.High - r.Num) (by omega) (by omega),wr (x:=r.Num + a.N) (by omega) (by omega)]
  apply decide_eq_decide.2;omega
 unfold Chg
 rw [e1,e2]
 unfold Zhn Z1
 rw [hd]
 split
 ·exact ⟨9,r,_,rfl,rfl,hr,Zcm,fun h=>by cases h⟩
 ·exact ⟨0,_,_,rfl,rfl,hr.withNum (Zs6 _),Zcm,fun _=>⟨rfl,rfl⟩⟩
theorem Zbbb (h:a.Kind=11) (hr:RecW r) (hg:Zcl r) (hk:r.Kind=4) (ha:ActW a):Chg r a:=by
 have e1:Zbb a.Kind r a default=Zhh r a default:=by rw [h];rfl
 have e2:Zbj r a=(if (decide (IntKind.i64.wrap (r.Num - a.N) < r.Low)) then (Z1 r (ans 10)) else (Z1 { r with Num:=IntKind.i64.wrap (r.Num - a.N) } (ans 0))):=by unfold Zbj Zb1;rw [h];rfl
 obtain ⟨p1,p2,p3,p4⟩:=Zvh hg hk
 obtain ⟨n1,n2⟩:=ha.inout (.inr h)
 have hd:decide (IntKind.i64.wrap (r.Num - r.Low) < a.N)=decide (IntKind.i64.wrap (r.Num - a.N) < r.Low):=by
  rw [wr (x:=r.Num - r.Low) (by omega) (by omega),wr (x:=r.Num - a.N) (by omega) (by omega)]
  apply decide_eq_decide.2;omega
 unfold Chg
 rw [e1,e2]
 unfold Zhh Z1
 rw [hd]
 split
 ·exact ⟨10,r,_,rfl,rfl,hr,Zcm,fun h=>by cases h⟩
 ·exact ⟨0,_,_,rfl,rfl,hr.withNum (Zs6 _),Zcm,fun _=>⟨rfl,rfl⟩⟩
theorem Zqe {m:Nat} {ψ:Nat → Nat → Option Nat} (h:Zbb a.Kind r a default=Zc9 ψ r a default) (h1:ψ r.Real a.X=some m) (hm:m < W64) (h2:Zbj r a=some ({ r with Real:=m },ans 0)) (hr:RecW r):Chg r a:=by
 refine ⟨0,{ r with Real:=m },ans 0,?_,h2,hr.withReal hm,Zcm,fun _=>⟨rfl,rfl⟩⟩
 rw [h]
 unfold Zc9
 rw [h1];rfl
theorem Zpv (hg:Zcl r):r.Real=Zb9 r.Real:=hg.2.2.2.2.2.1
theorem Z6v (h:a.Kind=13) (hr:RecW r) (hg:Zcl r) (ha:ActW a):Chg r a:=by
 obtain ⟨m,m1,m2,m3⟩:=Z1a hr.ok.real ha.ok.2 (Zpv hg) ha.xc
 refine Zqe (m:=m) (ψ:=fun x y=>Zl3 x y) (by rw [h];rfl) m1 (by rcases m3 with rfl | rfl;exact hr.ok.real;exact ha.ok.2) ?_ hr
 unfold Zbj Zb1;rw [h,m2];rfl
theorem Z65 (h:a.Kind=14) (hr:RecW r) (hg:Zcl r) (ha:ActW a):Chg r a:=by
 obtain ⟨m,m1,m2,m3⟩:=Z2m hr.ok.real ha.ok.2 (Zpv hg) ha.xc
 refine Zqe (m:=m) (ψ:=fun x y=>Zl2 x y) (by rw [h];rfl) m1 (by rcases m3 with rfl | rfl;exact hr.ok.real;exact ha.ok.2) ?_ hr
 unfold Zbj Zb1;rw [h,m2];rfl
theorem Z58 (h:a.Kind=15) (hr:RecW r):Chg r a:=by
 have hz:=Z36 r.Real a.X
 obtain ⟨p,p1,p2⟩:=Ztp hz
 refine Zqe (m:=Zb9 (fadd r.Real a.X)) (ψ:=fun x y=>Zje x y) (by rw [h];rfl) (by show Zje r.Real a.X=_;unfold Zje;rw [Zk8 hz];rfl) (Zwj hz) ?_ hr
 unfold Zbj Zb1;rw [h,p1]
 show ((Zfo p).bind _)=_
 rw [p2];rfl
theorem Z6g (h:a.Kind=16) (hr:RecW r):Chg r a:=by
 have hz:=Z30 r.Real a.X
 obtain ⟨p,p1,p2⟩:=Ztp hz
 refine Zqe (m:=Zb9 (fmul r.Real a.X)) (ψ:=fun x y=>Zic x y) (by rw [h];rfl) (by show Zic r.Real a.X=_;unfold Zic;rw [Zk8 hz];rfl) (Zwj hz) ?_ hr
 unfold Zbj Zb1;rw [h,p1]
 show ((Zfo p).bind _)=_
 rw [p2];rfl
theorem Zbbi (h:a.Kind=17) (hr:RecW r) (ha:ActW a):Chg r a:=by
 refine Zqe (m:=a.X) (ψ:=fun x y=>Zhg x y) (by rw [h];rfl) rfl ha.ok.2 ?_ hr
 unfold Zbj Zb1;rw [h];rfl
theorem Zt7 (hg:Zcl r) (hk:8 ≤ r.Kind):1 ≤ r.Cap ∧ r.Cap ≤ 32 ∧ (r.List.length:Int) ≤ r.Cap:=by
 obtain ⟨h1,h2,h3,_⟩:=hg.2.2.2.2.2.2 hk
 exact ⟨h1,h2,h3⟩
theorem Zba4 (h:a.Kind=20) (hr:RecW r) (hg:Zcl r) (hk:r.Kind=8):Chg r a:=by
 have hs:=Zm4 hg hk
 have hl:=hr.len
 have e1:Zbb a.Kind r a default=Zfh r a default:=by rw [h];rfl
 have e2:Zbj r a=(Zf7 r.List a.S).bind fun r59=>(if (!r59) then (Z1 r (ans 11)) else (Z1 r (ans 0))):=by unfold Zbj Zb1;rw [h];rfl
 unfold Chg
 rw [e1,e2]
 unfold Zfh Z1
 rw [Zqa hs (by omega),Z2e (by omega),Zsb hs]
 simp only [Option.bind_some]
 split
 ·exact ⟨11,r,_,rfl,rfl,hr,Zcm,fun h=>by cases h⟩
 ·exact ⟨0,r,_,rfl,rfl,hr,Zcm,fun _=>⟨rfl,rfl⟩⟩
theorem Z8f (h:a.Kind=18) (hr:RecW r) (hg:Zcl r) (hk:r.Kind=8):Chg r a:=by
 have hs:=Zm4 hg hk
 have hl:=hr.len
 obtain ⟨c1,c2,c3⟩:=Zt7 hg (by omega)
 have e1:Zbb a.Kind r a default=Zkr r a default:=by rw [h];rfl
 have e2:Zbj r a=(Zf7 r.List a.S).bind fun r40=>(if ((!r40) && (decide (r.Cap ≤ (r.List.length:Int)))) then (Z1 r (ans 8)) else ((Zey r.List ({ Score:=(0:Nat),Name:=a.S }:Zh) true).bind fun r43=>(Z1 ({ r with List:=r43 }) (ans 0)))):=by unfold Zbj Zb1;rw [h];rfl
 have hple:=Zqo (fun e=>sLt e.Name a.S) r.List
 unfold Chg
 rw [e1,e2]
 unfold Zkr Z1
 rw [Zqa hs (by omega),Z2e (by omega),Zsb hs,Zuv (show (0:Nat) < W64 by decide) hr.ok.sc (by omega),Z6o,Zro (by omega)]
 simp only [Option.bind_some]
 by_cases hat:isAt a.S r.List=true
 ·rw [hat]
  exact ⟨0,r,_,rfl,rfl,hr,Zcm,fun _=>⟨rfl,rfl⟩⟩
 ·have hat':isAt a.S r.List=false:=by simpa using hat
  rw [hat']
  simp only [Bool.not_false,Bool.true_and,Bool.false_eq_true,if_false]
  by_cases hc:decide (r.Cap ≤ (r.List.length:Int))=true
  ·rw [if_pos hc,if_pos hc]
   exact ⟨8,r,_,rfl,rfl,hr,Zcm,fun h=>by cases h⟩
  ·rw [if_neg hc,if_neg hc]
   unfold Zcp
   rw [if_pos ⟨by omega,by omega,by simp,by simp;omega⟩]
   refine ⟨0,_,_,rfl,rfl,hr.withList (by simp;omega) fun e he=>?_,Zcm,fun _=>⟨rfl,rfl⟩⟩
   simp only [List.mem_append,List.mem_singleton,Int.toNat_natCast] at he
   rcases he with (he | rfl) | he
   ·exact hr.ok.sc e (List.mem_of_mem_take he)
   ·exact (show (0:Nat) < W64 by decide)
   ·exact hr.ok.sc e (List.mem_of_mem_drop he)
theorem Zy1 (h:a.Kind=19) (hr:RecW r) (hg:Zcl r) (hk:r.Kind=8):Chg r a:=by
 have hs:=Zm4 hg hk
 have hl:=hr.len
 have e1:Zbb a.Kind r a default=Zin r a default:=by rw [h];rfl
 have e2:Zbj r a=(Zdf r a (Int.toNat ((r.List.length:Int) - (0:Int)) + 1) ([]:List Zh) (0:Int)).bind fun z57=>match z57 with | y56=>(Z1 ({ r with List:=y56 }) (ans 0)):=by unfold Zbj Zb1;rw [h];rfl
 have hple:=Zqo (fun e=>sLt e.Name a.S) r.List
 unfold Chg
 rw [e1,e2]
 unfold Zin Z1
 have hf:=Zpo (a:=a) (a0:=r) (by omega) r.List.length 0 [] (by omega) (by simp)
 rw [show ((0:Nat):Int)=0 from rfl] at hf
 rw [Zqa hs (by omega),show (Int.toNat ((r.List.length:Int) - (0:Int)) + 1)=r.List.length + 1 by omega,hf,List.drop_zero,List.nil_append,Z7w hs,Zro (by omega)]
 simp only [Option.bind_some]
 by_cases hat:isAt a.S r.List=true
 ·have hp:pre (fun e=>sLt e.Name a.S) r.List < r.List.length:=by
   unfold isAt at hat
   cases hq:r.List[pre (fun e=>sLt e.Name a.S) r.List]? with
   | none=>rw [hq] at hat;cases hat
   | some e=>exact (List.getElem?_eq_some_iff.1 hq).1
  rw [hat]
  simp only [if_true]
  unfold Zfw
  rw [wr1 (by omega),if_pos ⟨by omega,by omega,by omega,by omega,by omega⟩]
  refine ⟨0,_,_,rfl,rfl,hr.withList (by simp;omega) fun e he=>?_,Zcm,fun _=>⟨rfl,rfl⟩⟩
  simp only [List.mem_append,Int.toNat_natCast] at he
  rcases he with he | he
  ·exact hr.ok.sc e (List.mem_of_mem_take he)
  ·exact hr.ok.sc e (List.mem_of_mem_drop he)
 ·have hat':isAt a.S r.List=false:=by simpa using hat
  rw [hat']
  exact ⟨0,r,_,rfl,rfl,hr,Zcm,fun _=>⟨rfl,rfl⟩⟩
variable {r:Zb} {a:Zn}
theorem Z2w {l:Zc8} {c:Int} (h1:1 ≤ c) (h2:c ≤ 32):cut l 0 (min (l.length:Int) c)=some (l.take c.toNat):=by
 unfold cut
 rw [if_pos (by omega)]
 simp only [Int.toNat_zero,List.drop_zero,Nat.sub_zero]
 congr 1
 rcases Int.le_total (l.length:Int) c with h | h
 ·rw [Int.min_eq_left h,Int.toNat_natCast,List.take_of_length_le (Nat.le_refl _),List.take_of_length_le (by omega)]
 ·rw [Int.min_eq_right h]
theorem Z7p (h:a.Kind=21) (hr:RecW r) (hg:Zcl r) (hk:r.Kind=9) (ha:ActW a):Chg r a:=by
 have hl:=hr.len
 obtain ⟨c1,c2,c3⟩:=Zt7 hg (by omega)
 have e1:Zbb a.Kind r a default=Zjt r a default:=by rw [h];rfl
 have e2:Zbj r a=(Zey r.List ({ Score:=a.X,Name:=a.S }:Zh) false).bind fun r63=>(if (decide (r.Cap < (r63.length:Int))) then ((cut r63 (0:Int) r.Cap).bind fun c66=>(Zdq r c66)) else (Zdq r r63)):=by unfold Zbj Zb1;rw [h];rfl
 have hx:({ Score:=a.X,Name:=a.S }:Zh).Score < W64:=ha.ok.2
 have hple:=Zqo (Zds { Score:=a.X,Name:=a.S } false) r.List
 unfold Chg
 rw [e1,e2]
 unfold Zjt
 rw [Zz0 ha.ok.2 hr.ok.sc (by omega),Zuv hx hr.ok.sc (by omega),Zro (by omega)]
 simp only [Option.bind_some]
 have fin:∀ L:Zc8,L=r.List.take (pre (Zds { Score:=a.X,Name:=a.S } false) r.List) ++ [{ Score:=a.X,Name:=a.S }] ++ r.List.drop (pre (Zds { Score:=a.X,Name:=a.S } false) r.List) → layL { Score:=a.X,Name:=a.S } false r.List=L →
   ∃ c r' o,((Zcp r.List ((pre (Zds { Score:=a.X,Name:=a.S } false) r.List:Nat):Int) ([({ Score:=a.X,Name:=a.S }:Zh)]:List Zh)).bind fun r16=>((cut r16 (0:Int) (min (r16.length:Int) r.Cap)).bind fun c18=>(some ((0:Int),({ r with List:=c18 }),(default:Zd)))))=some (c,r',o) ∧
    (if (decide (r.Cap < ((layL { Score:=a.X,Name:=a.S } false r.List).length:Int)))=true then ((cut (layL { Score:=a.X,Name:=a.S } false r.List) (0:Int) r.Cap).bind fun c66=>(Zdq r c66)) else (Zdq r (layL { Score:=a.X,Name:=a.S } false r.List)))=some (if c=0 then (r',o) else (r,ans c)) ∧ RecW r' ∧ RecW o.Rec ∧ (c=0 → o.Code=0 ∧ o.Num=0):=by
  intro L hL hlay
  have hLl:L.length=r.List.length + 1:=by rw [hL];simp;omega
  have hLs:∀ e ∈ L,e.Score < W64:=fun e he=>by
   rw [hL] at he
   simp only [List.mem_append,List.mem_singleton] at he
   rcases he with (he | rfl) | he
   ·exact hr.ok.sc e (List.mem_of_mem_take he)
   ·exact hx
   ·exact hr.ok.sc e (List.mem_of_mem_drop he)
  rw [hlay]
  unfold Zcp Zdq Z1
  rw [if_pos ⟨by omega,by omega,by simp,by simp;omega⟩]
  simp only [Option.bind_some,Int.toNat_natCast]
  rw [← hL,Z2w c1 c2]
  refine ⟨0,{ r with List:=L.take r.Cap.toNat },ans 0,rfl,?_,hr.withList (by simp;omega) (fun e he=>hLs e (List.mem_of_mem_take he)),Zcm,fun _=>⟨rfl,rfl⟩⟩
  by_cases hc:decide (r.Cap < (L.length:Int))=true
  ·rw [if_pos hc]
   have:r.Cap < (L.length:Int):=of_decide_eq_true hc
   unfold cut
   rw [if_pos (by omega)]
   simp
  ·rw [if_neg hc]
   have:¬ r.Cap < (L.length:Int):=fun h=>hc (decide_eq_true h)
   rw [List.take_of_length_le (by omega)];rfl
 by_cases hp:pre (Zds { Score:=a.X,Name:=a.S } false) r.List < r.List.length
 ·have hd:decide (((pre (Zds { Score:=a.X,Name:=a.S } false) r.List:Nat):Int) < (r.List.length:Int))=true:=by simpa using hp
  have hat:=Zx4 (List.getElem?_eq_getElem hp)
  have hb:Zcs r.List[pre (Zds { Score:=a.X,Name:=a.S } false) r.List] { Score:=a.X,Name:=a.S }=false:=hat
  have hbs:=Zvw hb
  rw [hd,Zc1 hp]
  simp only [gd_t,Option.bind_some,Bool.true_and]
  rw [Zrf hx (hr.ok.sc _ (List.getElem_mem hp))]
  simp only [Option.bind_some]
  by_cases hs:(!Zcs { Score:=a.X,Name:=a.S } r.List[pre (Zds { Score:=a.X,Name:=a.S } false) r.List])=true
  ·rw [if_pos hs]
   have hlay:layL { Score:=a.X,Name:=a.S } false r.List=r.List:=by
    unfold layL
    rw [List.getElem?_eq_getElem hp]
    simp only
    rw [if_pos (by rw [← hbs];exact hs),List.append_nil,List.take_append_drop]
   rw [hlay,if_neg (by simp;omega)]
   exact ⟨0,r,_,rfl,rfl,hr,Zcm,fun _=>⟨rfl,rfl⟩⟩
  ·rw [if_neg hs]
   refine fin _ rfl ?_
   unfold layL
   rw [List.getElem?_eq_getElem hp]
   simp only
   rw [if_neg (by rw [← hbs];exact hs)]
 ·have hd:decide (((pre (Zds { Score:=a.X,Name:=a.S } false) r.List:Nat):Int) < (r.List.length:Int))=false:=by simpa using hp
  rw [hd]
  simp only [gd_f,Option.bind_some,Bool.false_and,Bool.false_eq_true,if_false]
  refine fin _ rfl ?_
  unfold layL
  rw [List.getElem?_eq_none (by omega),List.take_of_length_le (by omega),List.drop_of_length_le (by omega),List.append_nil]
theorem Zqb {k:Int} (h1:1 ≤ k) (h2:k ≤ 21):∃ on,Zik k=some on ∧ Zfi k=some on ∧ (k ≤ 4 → on=0) ∧ (5 ≤ k → on ≠ 0) ∧ ((k=10 ∨ k=11) → on=4) ∧ ((k=18 ∨ k=19 ∨ k=20) → on=8) ∧ (k=21 → on=9) ∧
  ((k=5 ∨ k=6) → on=1) ∧ (k=7 → on=2) ∧ ((k=8 ∨ k=9) → on=3) ∧ (k=12 → on=4) ∧ (k=13 → on=5) ∧ (k=14 → on=6) ∧ ((k=15 ∨ k=16 ∨ k=17) → on=7):=by
 have hk':k=1 ∨ k=2 ∨ k=3 ∨ k=4 ∨ k=5 ∨ k=6 ∨ k=7 ∨ k=8 ∨ k=9 ∨ k=10 ∨ k=11 ∨ k=12 ∨ k=13 ∨ k=14 ∨ k=15 ∨ k=16 ∨ k=17 ∨ k=18 ∨ k=19 ∨ k=20 ∨ k=21:=by omega
 rcases hk' with rfl | rfl | rfl | rfl | rfl | rfl | rfl | rfl | rfl | rfl | rfl | rfl | rfl | rfl | rfl | rfl | rfl | rfl | rfl | rfl | rfl
 all_goals first
  | exact ⟨0,by kernel_rfl,by kernel_rfl,by decide⟩
  | exact ⟨1,by kernel_rfl,by kernel_rfl,by decide⟩
  | exact ⟨2,by kernel_rfl,by kernel_rfl,by decide⟩
  | exact ⟨3,by kernel_rfl,by kernel_rfl,by decide⟩
  | exact ⟨4,by kernel_rfl,by kernel_rfl,by decide⟩
  | exact ⟨5,by kernel_rfl,by kernel_rfl,by decide⟩
  | exact ⟨6,by kernel_rfl,by kernel_rfl,by decide⟩
  | exact ⟨7,by kernel_rfl,by kernel_rfl,by decide⟩
  | exact ⟨8,by kernel_rfl,by kernel_rfl,by decide⟩
  | exact ⟨9,by kernel_rfl,by kernel_rfl,by decide⟩
theorem Zvb (h5:5 ≤ a.Kind) (h21:a.Kind ≤ 21) (hr:RecW r) (hg:Zcl r) (hon:Zik a.Kind=some r.Kind) (ha:ActW a):Chg r a:=by
 obtain ⟨on,o1,_,_,_,k10,k18,k21,_⟩:=Zqb (k:=a.Kind) (by omega) h21
 rw [hon] at o1
 obtain rfl:=Option.some.inj o1
 have hk':a.Kind=5 ∨ a.Kind=6 ∨ a.Kind=7 ∨ a.Kind=8 ∨ a.Kind=9 ∨ a.Kind=10 ∨ a.Kind=11 ∨ a.Kind=12 ∨ a.Kind=13 ∨ a.Kind=14 ∨ a.Kind=15 ∨ a.Kind=16 ∨ a.Kind=17 ∨ a.Kind=18 ∨ a.Kind=19 ∨ a.Kind=20 ∨ a.Kind=21:=by omega
 rcases hk' with h | h | h | h | h | h | h | h | h | h | h | h | h | h | h | h | h
 ·exact Zbaq h hr
 ·exact Z81 h hr
 ·exact Zbbk h hr
 ·exact Z8o h hr ha
 ·exact Zzg (.inl h) hr
 ·exact Zbdm h hr hg (k10 (.inl h)) ha
 ·exact Zbbb h hr hg (k10 (.inr h)) ha
 ·exact Zzg (.inr h) hr
 ·exact Z6v h hr hg ha
 ·exact Z65 h hr hg ha
 ·exact Z58 h hr
 ·exact Z6g h hr
 ·exact Zbbi h hr ha
 ·exact Z8f h hr hg (k18 (.inl h))
 ·exact Zy1 h hr hg (k18 (.inr (.inl h)))
 ·exact Zba4 h hr hg (k18 (.inr (.inr h)))
 ·exact Z7p h hr hg (k21 h) ha
structure ActIn (a:Zn):Prop where
 ok:Zxh a
 n:I64 a.N
 mkr:RecW a.Make
theorem ActIn.w {a:Zn} (h:ActIn a) {c:Int} (hc:1 ≤ a.Kind ∧ a.Kind ≤ 21 ∧ a.X=Zb9 a.X ∧ a.S.size ≤ 64 ∧ ((a.Kind=10 ∨ a.Kind=11) → 0 ≤ a.N ∧ a.N ≤ 2305843009213693952) ∧ (a.Kind=1 → Ze6 a.Make=some 0) ∧ (¬ (5 ≤ a.Kind ∧ a.Kind ≤ 6) → a.S.size ≤ 16) ∧ sEq a.Key ⟨#[]⟩=false ∧ a.Key.size ≤ 24):ActW a :=
 ⟨h.ok,h.n,h.mkr,hc.2.2.1,hc.2.2.2.2.1,hc.2.2.2.1,hc.2.2.2.2.2.2.1⟩
theorem Z4b {there:Bool} {r:Zb} {c:Int} (hc:c ≠ 0) {on:Int} (ho:Zfi a.Kind=some on):Zeu there a r c=some (r,there,ans c):=by
 have h1:(c == 0)=false:=by simpa using hc
 have h2:(c != 0)=true:=by simpa using hc
 unfold Zeu
 simp only [h1,Bool.false_and,Bool.false_eq_true,if_false]
 unfold Zgn
 simp only [h1,Bool.false_and,Bool.false_eq_true,if_false]
 unfold Zgt
 rw [ho]
 simp only [h1,Bool.false_and,Bool.false_eq_true,if_false,Option.bind_some]
 unfold Zgo
 rw [if_pos h2]
theorem Zba8 (k:Int):∃ on,Zfi k=some on:=by
 by_cases h:k < 0 ∨ 21 < k
 ·exact ⟨0,by unfold Zfi;rw [if_pos (by simpa using h)]⟩
 ·by_cases h0:k=0
  ·exact ⟨0,by rw [h0];kernel_rfl⟩
  ·obtain ⟨on,_,h2,_⟩:=Zqb (k:=k) (by omega) (by omega)
   exact ⟨on,h2⟩
theorem Z5w {r:Zb} {there:Bool} {a:Zn} (hr:RecW r) (ha:ActIn a):∃ x is out,Zc0 r there a=some (x,is,out) ∧ Zjo r there a=some (x,is,out) ∧ RecW x ∧ RecW out.Rec:=by
 suffices hs:∀ r0:Zb,RecW r0 → ∃ x is out,Zfd there a r0=some (x,is,out) ∧ Zgp there a r0=some (x,is,out) ∧ RecW x ∧ RecW out.Rec by
  unfold Zc0 Zjo
  cases there
  ·exact hs _ Zcm
  ·exact hs r hr
 intro r0 hr0
 unfold Zfd Zgp
 rw [Zib hr0.len,Zrd hr0.len]
 obtain ⟨c,h1,h2,h3⟩:=Zpu ha.ok
 obtain ⟨on,hon⟩:=Zba8 a.Kind
 rw [h1,h2]
 simp only [Option.bind_some]
 by_cases hc:c=0
 ·subst hc
  have hf:=h3 rfl
  have hw:=ha.w (c:=0) hf
  obtain ⟨on2,o1,o2,o3,o4,_⟩:=Zqb hf.1 hf.2.1
  have main:(there=true → Zcl r0) → ∃ x is out,Zgj there a r0=some (x,is,out) ∧ Zeu there a r0 0=some (x,is,out) ∧ RecW x ∧ RecW out.Rec:=by
   intro hg
   unfold Zgj Zg2 Zeu Zgn Zgt
   rw [o1,o2,Zib hr0.len,Zib ha.mkr.len]
   unfold Zgo
   rw [Zrd hr0.len,Zrd ha.mkr.len]
   simp only [Option.bind_some]
   by_cases k1:a.Kind=1
   ·rw [k1,o3 (by omega)]
    cases there
    ·exact ⟨a.Make,true,ans 0,rfl,rfl,ha.mkr,Zcm⟩
    ·exact ⟨r0,true,ans 7,rfl,rfl,hr0,Zcm⟩
   ·by_cases k3:a.Kind=3
    ·rw [k3,o3 (by omega)]
     cases there
     ·exact ⟨r0,false,{ ans 0 with Num:=r0.Kind },rfl,rfl,hr0,Zcm⟩
     ·exact ⟨r0,true,{ ans 0 with Num:=r0.Kind },rfl,rfl,hr0,Zcm⟩
    ·by_cases k2:a.Kind=2
     ·rw [k2,o3 (by omega)]
      cases there
      ·exact ⟨r0,false,ans 6,rfl,rfl,hr0,Zcm⟩
      ·exact ⟨zrc,false,ans 0,rfl,rfl,Zcm,Zcm⟩
     ·by_cases k4:a.Kind=4
      ·rw [k4,o3 (by omega)]
       cases there
       ·exact ⟨r0,false,ans 6,rfl,rfl,hr0,Zcm⟩
       ·exact ⟨r0,true,{ ans 0 with Rec:=r0 },rfl,rfl,hr0,hr0⟩
      ·have h5:5 ≤ a.Kind:=by omega
       have b1:(a.Kind == 1)=false:=by simpa using k1
       have b2:(a.Kind == 2)=false:=by simpa using k2
       have b3:(a.Kind == 3)=false:=by simpa using k3
       have b4:(a.Kind == 4)=false:=by simpa using k4
       have b1':(a.Kind != 1)=true:=by simpa using k1
       have b3':(a.Kind != 3)=true:=by simpa using k3
       have bo:(on2 != 0)=true:=by simpa using o4 h5
       simp only [b1,b2,b3,b4,b1',b3',bo,Bool.false_and,Bool.and_false,Bool.and_true,Bool.true_and,Bool.false_eq_true,if_false,beq_self_eq_true]
       cases there
       ·exact ⟨r0,false,ans 6,rfl,rfl,hr0,Zcm⟩
       ·simp only [Bool.not_true,Bool.false_eq_true,if_false,Bool.and_false,Bool.false_and,beq_self_eq_true,Bool.true_and]
        by_cases hk:(on2 != r0.Kind)=true
        ·rw [if_pos hk,if_pos hk]
         exact ⟨r0,true,ans 5,rfl,rfl,hr0,Zcm⟩
        ·rw [if_neg hk,if_neg hk,if_pos ⟨h5,hf.2.1⟩]
         have hk':on2=r0.Kind:=by simpa using hk
         obtain ⟨c,r',o,e1,e2,w1,w2,_⟩:=Zvb h5 hf.2.1 hr0 (hg rfl) (by rw [← hk'];exact o1) hw
         rw [e1,e2]
         simp only [Option.bind_some]
         by_cases hc:c=0
         ·subst hc
          exact ⟨r',true,o,rfl,rfl,w1,w2⟩
         ·have hcn:(c != 0)=true:=by simpa using hc
          rw [if_pos hcn,if_neg hc]
          exact ⟨r0,true,ans c,rfl,rfl,hr0,Zcm⟩
  have z1:((0:Int) != 0)=false:=rfl
  have z2:((0:Int) == 0)=true:=rfl
  rw [z1,z2]
  simp only [Bool.false_eq_true,if_false,Bool.true_and]
  by_cases ht:there=true
  ·rw [if_pos ht,if_pos ht]
   obtain ⟨c2,g1,g2⟩:=Zn9 hr0.ok
   rw [g1,g2]
   simp only [Option.bind_some]
   by_cases hc2:c2=0
   ·subst hc2
    rw [z1]
    exact main fun _=>(Ziw hr0.ok).1 g1
   ·have hcn:(c2 != 0)=true:=by simpa using hc2
    rw [if_pos hcn,Z4b hc2 o2]
    exact ⟨r0,there,ans c2,rfl,rfl,hr0,Zcm⟩
  ·rw [if_neg ht,if_neg ht]
   exact main fun h=>absurd h ht
 ·have hcn:(c != 0)=true:=by simpa using hc
  have hcz:(c == 0)=false:=by simpa using hc
  rw [if_pos hcn,hcz]
  simp only [Bool.false_and,Bool.false_eq_true,if_false]
  rw [Z4b hc hon]
  exact ⟨r0,there,ans c,rfl,rfl,hr0,Zcm⟩
theorem Z4e {x:Zb} (h:Zlx x):x.List.length ≤ 9223372036854775807:=by
 obtain ⟨_,_,_,_,_,_,_,h8,_⟩:=h
 simp only [maxLen] at h8;omega
theorem Zyx {x:Zb} (h:Zlx x) (hl:x.List.length ≤ 100):RecW x:=by
 obtain ⟨h1,h2,h3,h4,h5,_,_,h8,h9⟩:=h
 exact ⟨⟨h5,by omega,fun e he=>(h9 e he).1⟩,h2,h3,h4,h1,by omega⟩
theorem eqLr:∀ l:List Zh,eqL l l=true
 | []=>rfl
 | x :: l=>by simp [eqL,eqI,Zdp,eqLr l]
theorem Zbdv (a:Zb):Zmz a a=true:=by simp [Zmz,Zdp,eqLr]
theorem Z82 {a:Zn} (h:Zm8 a) (hl:a.Make.List.length ≤ 100):ActIn a:=by
 obtain ⟨_,_,h3,h4,_,h6,_⟩:=h
 exact ⟨⟨(Zyx h6 hl).ok,h4⟩,h3,Zyx h6 hl⟩
theorem Zbfv {a:Zn} (h:Zm8 a):∃ c,Zkl a=some c ∧ (c=0 ∨ c=1) ∧ (c=0 → a.Make.List.length ≤ 100):=by
 obtain ⟨c,e1,e2,e3⟩:=Z9o (Z4e h.2.2.2.2.2.1)
 unfold Zkl
 rw [e1]
 by_cases hk:(decide ((200:Int) < (a.Key.size:Int)) || decide ((1000:Int) < (a.S.size:Int)))=true
 ·rw [hk];exact ⟨1,rfl,.inr rfl,fun h=>by cases h⟩
 ·have hk':=Bool.eq_false_iff.2 hk
  rw [hk']
  rcases e2 with rfl | rfl
  ·exact ⟨0,rfl,.inl rfl,fun _=>e3 rfl⟩
  ·exact ⟨1,rfl,.inr rfl,fun h=>by cases h⟩
theorem Zbcb {a b:Zd} (ha:RecW a.Rec) (hb:RecW b.Rec):Zj5 a b=some ((a.Code == b.Code) && (a.Num == b.Num) && Zmz a.Rec b.Rec):=by
 unfold Zj5
 rw [Zt4 ha.ok hb.ok]
 cases (a.Code == b.Code) && (a.Num == b.Num) <;> rfl
def Z4y (r0:Zb) (there:Bool) (a:Zn) (z:Zb × Bool × Zd):Prop :=
 (∃ c,c ≠ 0 ∧ z=(r0,there,ans c)) ∨ (Zf1 a=some 0 ∧ ActW a ∧ (there=true → Zcl r0) ∧
  ((a.Kind=1 ∧ there=false ∧ Zcl a.Make ∧ z=(a.Make,true,ans 0)) ∨ (a.Kind=2 ∧ there=true ∧ z=(zrc,false,ans 0)) ∨ (a.Kind=3 ∧ z=(r0,there,{ ans 0 with Num:=r0.Kind })) ∨ (a.Kind=4 ∧ there=true ∧ z=(r0,true,{ ans 0 with Rec:=r0 })) ∨
   (5 ≤ a.Kind ∧ a.Kind ≤ 21 ∧ there=true ∧ Zik a.Kind=some r0.Kind ∧ ∃ r' o,Zbb a.Kind r0 a default=some (0,r',o) ∧ o.Code=0 ∧ o.Num=0 ∧ RecW r' ∧ RecW o.Rec ∧ z=(r',true,o))))
theorem Zk7 {r:Zb} {there:Bool} {a:Zn} (hr:RecW r) (ha:ActIn a):∃ z,Zc0 r there a=some z ∧ Z4y (if there=true then r else zrc) there a z:=by
 suffices hs:∀ r0:Zb,RecW r0 → ∃ z,Zfd there a r0=some z ∧ Z4y r0 there a z by
  unfold Zc0
  cases there
  ·exact hs _ Zcm
  ·exact hs r hr
 intro r0 hr0
 unfold Zfd
 rw [Zib hr0.len]
 obtain ⟨c,h1,h2,h3⟩:=Zpu ha.ok
 rw [h1]
 simp only [Option.bind_some]
 by_cases hc:c=0
 ·subst hc
  have hf:=h3 rfl
  have hw:=ha.w (c:=0) hf
  obtain ⟨on2,o1,o2,o3,o4,_⟩:=Zqb hf.1 hf.2.1
  have main:(there=true → Zcl r0) → ∃ z,Zgj there a r0=some z ∧ Z4y r0 there a z:=by
   intro hg
   unfold Zgj Zg2
   rw [o1,Zib hr0.len,Zib ha.mkr.len]
   simp only [Option.bind_some]
   by_cases k1:a.Kind=1
   ·have hm:Zcl a.Make:=(Ziw ha.mkr.ok).1 (hf.2.2.2.2.2.1 k1)
    rw [k1]
    cases there
    ·exact ⟨_,rfl,.inr ⟨h1,hw,hg,.inl ⟨k1,rfl,hm,rfl⟩⟩⟩
    ·exact ⟨_,rfl,.inl ⟨7,by decide,rfl⟩⟩
   ·by_cases k3:a.Kind=3
    ·rw [k3]
     exact ⟨_,rfl,.inr ⟨h1,hw,hg,.inr (.inr (.inl ⟨k3,rfl⟩))⟩⟩
    ·by_cases k2:a.Kind=2
     ·rw [k2]
      cases there
      ·exact ⟨_,rfl,.inl ⟨6,by decide,rfl⟩⟩
      ·exact ⟨_,rfl,.inr ⟨h1,hw,hg,.inr (.inl ⟨k2,rfl,rfl⟩)⟩⟩
     ·by_cases k4:a.Kind=4
      ·rw [k4]
       cases there
       ·exact ⟨_,rfl,.inl ⟨6,by decide,rfl⟩⟩
       ·exact ⟨_,rfl,.inr ⟨h1,hw,hg,.inr (.inr (.inr (.inl ⟨k4,rfl,rfl⟩)))⟩⟩
      ·have h5:5 ≤ a.Kind:=by omega
       have b1:(a.Kind == 1)=false:=by simpa using k1
       have b2:(a.Kind == 2)=false:=by simpa using k2
       have b3:(a.Kind == 3)=false:=by simpa using k3
       have b4:(a.Kind == 4)=false:=by simpa using k4
       simp only [b1,b2,b3,b4,Bool.false_and,Bool.false_eq_true,if_false]
       cases there
       ·exact ⟨_,rfl,.inl ⟨6,by decide,rfl⟩⟩
       ·simp only [Bool.not_true,Bool.false_eq_true,if_false]
        by_cases hk:(on2 != r0.Kind)=true
        ·rw [if_pos hk]
         exact ⟨_,rfl,.inl ⟨5,by decide,rfl⟩⟩
        ·rw [if_neg hk,if_pos ⟨h5,hf.2.1⟩]
         have hk':on2=r0.Kind:=by simpa using hk
         obtain ⟨c,r',o,e1,e2,w1,w2,w3⟩:=Zvb h5 hf.2.1 hr0 (hg rfl) (by rw [← hk'];exact o1) hw
         rw [e1]
         simp only [Option.bind_some]
         by_cases hc:c=0
         ·subst hc
          exact ⟨(r',true,o),rfl,.inr ⟨h1,hw,hg,.inr (.inr (.inr (.inr ⟨h5,hf.2.1,rfl,by rw [← hk'];exact o1,r',o,e1,(w3 rfl).1,(w3 rfl).2,w1,w2,rfl⟩)))⟩⟩
         ·have hcn:(c != 0)=true:=by simpa using hc
          rw [if_pos hcn]
          exact ⟨_,rfl,.inl ⟨c,hc,rfl⟩⟩
  have z1:((0:Int) != 0)=false:=rfl
  rw [z1]
  simp only [Bool.false_eq_true,if_false]
  by_cases ht:there=true
  ·rw [if_pos ht]
   obtain ⟨c2,g1,g2⟩:=Zn9 hr0.ok
   rw [g1]
   simp only [Option.bind_some]
   by_cases hc2:c2=0
   ·subst hc2
    rw [z1]
    exact main fun _=>(Ziw hr0.ok).1 g1
   ·have hcn:(c2 != 0)=true:=by simpa using hc2
    rw [if_pos hcn]
    exact ⟨_,rfl,.inl ⟨c2,hc2,rfl⟩⟩
  ·rw [if_neg ht]
   exact main fun h=>absurd h ht
 ·have hcn:(c != 0)=true:=by simpa using hc
  rw [if_pos hcn]
  exact ⟨_,rfl,.inl ⟨c,hc,rfl⟩⟩
theorem Z2k {f:Zh → Bool} {l:Zc8}:∀ y ∈ l.take (pre f l),f y=true:=fun y hy=>by
 obtain ⟨k,hk,rfl⟩:=List.getElem_of_mem hy
 rw [List.length_take] at hk
 obtain ⟨e,he,hf⟩:=Z03 (f:=f) (l:=l) (k:=k) (by omega)
 rw [List.getElem?_eq_getElem (by omega)] at he
 rw [List.getElem_take]
 obtain rfl:=Option.some.inj he
 exact hf
variable {r r' r'':Zb} {a:Zn} {o o':Zd} {c:Int}
theorem Zs3 {r:Zb} {m:Int} (hg:Zcl r) (hk:2 ≤ r.Kind ∧ r.Kind ≤ 4) (hb:r.Kind=4 → r.Low ≤ m ∧ m ≤ r.High):Zcl { r with Num:=m }:=by
 obtain ⟨g1,g2,g3,g4,g5,g6,g7⟩:=hg
 refine ⟨g1,g2,?_,g4,fun h=>⟨(g5 h).1,(g5 h).2.1,(hb h).1,(hb h).2⟩,g6,g7⟩
 unfold Zix at *
 have:decide (2 ≤ r.Kind ∧ r.Kind ≤ 4)=true:=decide_eq_true hk
 simp only [this,Bool.true_or] at *
 exact g3
theorem Zmo {a b c:Zh} (h:Zcs a b=true) (k:Zcs b c=true):Zcs a c=true:=by
 unfold Zcs at *
 by_cases h1:keyf a.Score=keyf b.Score
 ·rw [if_pos h1] at h
  by_cases h2:keyf b.Score=keyf c.Score
  ·rw [if_pos h2] at k
   rw [if_pos (h1.trans h2)];exact Zgg h k
  ·rw [if_neg h2] at k
   rw [if_neg (by rw [h1];exact h2),h1];exact k
 ·rw [if_neg h1] at h
  have h':=of_decide_eq_true h
  by_cases h2:keyf b.Score=keyf c.Score
  ·rw [if_neg (by rw [← h2];exact h1),← h2];exact h
  ·rw [if_neg h2] at k
   have k':=of_decide_eq_true k
   rw [if_neg (by omega)];exact decide_eq_true (by omega)
def BS (l:Zc8):Prop:=l.Pairwise fun p q=>Zcs p q=true
def Zt6 (k:Int) (e:Zh):Prop:=e.Name.size ≤ 16 ∧ (k=8 → keyf e.Score=keyf 0) ∧ e.Score=Zb9 e.Score
theorem Zp6 {k:Int} {l:Zc8} {i:Nat} {x:Zh} (h:l[i]?=some x):Zi3 k l i=0 ↔ Zt6 k x ∧ (0 < i → k=8 → sLt ((l[i - 1]?).getD default).Name x.Name=true) ∧ (0 < i → k=9 → Zcs ((l[i - 1]?).getD default) x=true):=by
 unfold Zi3 Zt6
 rw [h]
 simp only []
 by_cases h1:(16:Int) < x.Name.size
 ·rw [if_pos h1];exact ⟨fun h=>(by cases h),fun h=>by omega⟩
 ·rw [if_neg h1]
  by_cases h2:(k=8 ∧ keyf x.Score ≠ keyf 0) ∨ x.Score ≠ Zb9 x.Score
  ·rw [if_pos h2]
   refine ⟨fun h=>(by cases h),fun h=>?_⟩
   rcases h2 with ⟨a,b⟩ | b
   ·exact absurd (h.1.2.1 a) b
   ·exact absurd h.1.2.2 b
  ·rw [if_neg h2]
   have e1:k=8 → keyf x.Score=keyf 0:=fun hk=>Classical.byContradiction fun hn=>h2 (.inl ⟨hk,hn⟩)
   have e2:x.Score=Zb9 x.Score:=Classical.byContradiction fun hn=>h2 (.inr hn)
   by_cases h3:0 < i ∧ k=8 ∧ sLt ((l[i - 1]?).getD default).Name x.Name=false
   ·rw [if_pos h3]
    refine ⟨fun h=>(by cases h),fun h=>?_⟩
    have:=h.2.1 h3.1 h3.2.1
    rw [h3.2.2] at this;cases this
   ·rw [if_neg h3]
    have e3:0 < i → k=8 → sLt ((l[i - 1]?).getD default).Name x.Name=true:=fun a b=>by
     cases hq:sLt ((l[i - 1]?).getD default).Name x.Name
     ·exact absurd ⟨a,b,hq⟩ h3
     ·rfl
    by_cases h4:0 < i ∧ k=9 ∧ Zcs ((l[i - 1]?).getD default) x=false
    ·rw [if_pos h4]
     refine ⟨fun h=>(by cases h),fun h=>?_⟩
     have:=h.2.2 h4.1 h4.2.1
     rw [h4.2.2] at this;cases this
    ·rw [if_neg h4]
     refine ⟨fun _=>⟨⟨by omega,e1,e2⟩,e3,fun a b=>?_⟩,fun _=>rfl⟩
     cases hq:Zcs ((l[i - 1]?).getD default) x
     ·exact absurd ⟨a,b,hq⟩ h4
     ·rfl
theorem Z14 {R:Zh → Zh → Prop} (ht:∀ {a b c},R a b → R b c → R a c) {l:Zc8} (step:∀ i,i + 1 < l.length → R ((l[i]?).getD default) ((l[i + 1]?).getD default)):l.Pairwise R:=by
 have far:∀ d i,i + d + 1 < l.length → R ((l[i]?).getD default) ((l[i + d + 1]?).getD default):=by
  intro d
  induction d with
  | zero=>intro i h;exact step i h
  | succ d ih=>intro i h;exact ht (ih i (by omega)) (step (i + d + 1) (by omega))
 refine List.pairwise_iff_getElem.2 fun i j hi hj hij=>?_
 have:=far (j - i - 1) i (by omega)
 rw [show i + (j - i - 1) + 1=j by omega,List.getElem?_eq_getElem hi,List.getElem?_eq_getElem hj] at this
 exact this
theorem Z2l {R:Zh → Zh → Prop} {l:Zc8} (h:l.Pairwise R) {i:Nat} {x:Zh} (hx:l[i]?=some x) (hi:0 < i):R ((l[i - 1]?).getD default) x:=by
 obtain ⟨h1,rfl⟩:=List.getElem?_eq_some_iff.1 hx
 rw [List.getElem?_eq_getElem (by omega)]
 exact List.pairwise_iff_getElem.1 h _ _ (by omega) h1 (by omega)
theorem Zzk {k:Int} {l:Zc8}:(∀ i,i < l.length → Zi3 k l i=0) ↔ (∀ e ∈ l,Zt6 k e) ∧ (k=8 → NS l) ∧ (k=9 → BS l):=by
 constructor
 ·intro h
  refine ⟨fun e he=>?_,fun hk=>?_,fun hk=>?_⟩
  ·obtain ⟨i,hi,rfl⟩:=List.getElem_of_mem he
   exact ((Zp6 (List.getElem?_eq_getElem hi)).1 (h i hi)).1
  ·refine Z14 (R:=fun p q=>sLt p.Name q.Name=true) (fun a b=>Zgg a b) fun i hi=>?_
   have:=((Zp6 (List.getElem?_eq_getElem hi)).1 (h (i + 1) hi)).2.1 (by omega) hk
   rw [List.getElem?_eq_getElem hi];exact this
  ·refine Z14 (R:=fun p q=>Zcs p q=true) (fun a b=>Zmo a b) fun i hi=>?_
   have:=((Zp6 (List.getElem?_eq_getElem hi)).1 (h (i + 1) hi)).2.2 (by omega) hk
   rw [List.getElem?_eq_getElem hi];exact this
 ·intro ⟨h1,h2,h3⟩ i hi
  have hx:=List.getElem?_eq_getElem hi
  exact (Zp6 hx).2 ⟨h1 _ (List.getElem_mem hi),fun a b=>Z2l (R:=fun p q=>sLt p.Name q.Name=true) (h2 b) hx a,fun a b=>Z2l (R:=fun p q=>Zcs p q=true) (h3 b) hx a⟩
theorem Z27 {r:Zb} (h:Zcl r) (hk:8 ≤ r.Kind):1 ≤ r.Cap ∧ r.Cap ≤ 32 ∧ (r.List.length:Int) ≤ r.Cap ∧ (∀ e ∈ r.List,Zt6 r.Kind e) ∧ (r.Kind=8 → NS r.List) ∧ (r.Kind=9 → BS r.List):=by
 obtain ⟨a,b,c,d⟩:=h.2.2.2.2.2.2 hk
 exact ⟨a,b,c,Zzk.1 d⟩
theorem Zpx {r:Zb} {l:Zc8} (h:Zcl r) (hk:8 ≤ r.Kind) (h1:(l.length:Int) ≤ r.Cap) (h2:∀ e ∈ l,Zt6 r.Kind e) (h3:r.Kind=8 → NS l) (h4:r.Kind=9 → BS l):Zcl { r with List:=l }:=by
 obtain ⟨g1,g2,g3,g4,g5,g6,g7⟩:=h
 refine ⟨g1,g2,?_,g4,g5,g6,fun hk=>⟨(g7 hk).1,(g7 hk).2.1,h1,Zzk.2 ⟨h2,h3,h4⟩⟩⟩
 unfold Zix at *
 have:decide (8 ≤ r.Kind)=true:=decide_eq_true hk
 simp only [this,Bool.true_or] at *
 exact g3
theorem Ztd {r:Zb} {t:ByteArray} (h:Zcl r) (hk:r.Kind=1) (h1:t.size ≤ 64):Zcl { r with Text:=t }:=by
 obtain ⟨g1,g2,g3,g4,g5,g6,g7⟩:=h
 refine ⟨g1,g2,?_,h1,g5,g6,g7⟩
 unfold Zix at *
 have:decide (r.Kind=1)=true:=decide_eq_true hk
 simp only [this,Bool.true_or,Bool.true_and] at *
 exact g3
theorem Z0b {r:Zb} {x:Nat} (h:Zcl r) (hk:5 ≤ r.Kind ∧ r.Kind ≤ 7) (h1:x=Zb9 x):Zcl { r with Real:=x }:=by
 obtain ⟨g1,g2,g3,g4,g5,g6,g7⟩:=h
 refine ⟨g1,g2,?_,g4,g5,h1,g7⟩
 unfold Zix at *
 have:decide (5 ≤ r.Kind ∧ r.Kind ≤ 7)=true:=decide_eq_true hk
 simp only [this,Bool.true_or] at *
 exact g3
variable {r r':Zb} {a:Zn} {o:Zd}
theorem Zpi {ψ:Nat → Nat → Option Nat} (hg:Zcl r) (hk:5 ≤ r.Kind ∧ r.Kind ≤ 7) (hψ:∀ m,ψ r.Real a.X=some m → m=Zb9 m) (e:Zbb a.Kind r a default=Zc9 ψ r a default) (h1:Zbb a.Kind r a default=some (0,r',o)):Zcl r':=by
 rw [e] at h1
 unfold Zc9 at h1
 obtain ⟨m,m1,m2⟩:=Option.bind_eq_some_iff.1 h1
 simp only [Option.some.injEq,Prod.mk.injEq] at m2
 obtain ⟨_,rfl,_⟩:=m2
 exact Z0b hg hk (hψ m m1)
theorem Z6z (h:a.Kind=18) (hr:RecW r) (hg:Zcl r) (hk:r.Kind=8) (ha:ActW a) (h1:Zbb a.Kind r a default=some (0,r',o)):Zcl r':=by
 have e:Zbb a.Kind r a default=Zkr r a default:=by rw [h];rfl
 obtain ⟨c1,c2,c3,c4,c5,_⟩:=Z27 hg (by omega)
 have hs:=c5 hk
 have hl:=hr.len
 have hple:=Zqo (fun e=>sLt e.Name a.S) r.List
 rw [e] at h1
 unfold Zkr at h1
 rw [Zqa hs (by omega),Zro (by omega)] at h1
 simp only [Option.bind_some] at h1
 by_cases hat:isAt a.S r.List=true
 ·rw [if_pos hat] at h1
  simp only [Option.some.injEq,Prod.mk.injEq,true_and] at h1
  rw [← h1.1];exact hg
 ·rw [if_neg hat] at h1
  by_cases hc:decide (r.Cap ≤ (r.List.length:Int))=true
  ·rw [if_pos hc] at h1;cases h1
  ·rw [if_neg hc] at h1
   have hc':¬ r.Cap ≤ (r.List.length:Int):=by simpa using hc
   unfold Zcp at h1
   rw [if_pos ⟨by omega,by omega,by simp,by simp;omega⟩] at h1
   simp only [Option.bind_some,Option.some.injEq,Prod.mk.injEq,true_and,Int.toNat_natCast] at h1
   obtain ⟨rfl,_⟩:=h1
   have hbehind:∀ y ∈ r.List.drop (pre (fun e=>sLt e.Name a.S) r.List),sLt a.S y.Name=true:=fun y hy=>by
    obtain ⟨k,hk,rfl⟩:=List.getElem_of_mem hy
    rw [List.length_drop] at hk
    rw [List.getElem_drop]
    have hm:=Zwu (s:=a.S) hs (k:=pre (fun e=>sLt e.Name a.S) r.List + k) (by omega)
    rw [show decide (pre (fun e=>sLt e.Name a.S) r.List + k < pre (fun e=>sLt e.Name a.S) r.List)=false by simp] at hm
    refine Zm6 hm fun hn=>?_
    have hany:=Zsb (s:=a.S) hs
    rw [show isAt a.S r.List=false by simpa using hat,List.any_eq_false] at hany
    exact hany _ (List.getElem_mem _) (Zcx.2 hn)
   refine Zpx hg (by omega) (by simp;omega) (fun e he=>?_) (fun _=>?_) (fun h=>by omega)
   ·simp only [List.mem_append,List.mem_singleton] at he
    rcases he with (he | rfl) | he
    ·exact c4 e (List.mem_of_mem_take he)
    ·exact ⟨ha.s16 (by omega),fun _=>rfl,by kernel_rfl⟩
    ·exact c4 e (List.mem_of_mem_drop he)
   ·unfold NS at *
    rw [List.append_assoc,List.pairwise_append]
    refine ⟨hs.sublist (List.take_sublist _ _),?_,fun x hx y hy=>?_⟩
    ·rw [List.singleton_append,List.pairwise_cons]
     exact ⟨hbehind,hs.sublist (List.drop_sublist _ _)⟩
    ·have hxa:sLt x.Name a.S=true:=Z2k (f:=fun e=>sLt e.Name a.S) x hx
     rcases List.mem_append.1 hy with hy | hy
     ·rw [List.mem_singleton.1 hy];exact hxa
     ·exact Zgg hxa (hbehind y hy)
theorem Z5l (h:a.Kind=19) (hr:RecW r) (hg:Zcl r) (hk:r.Kind=8) (h1:Zbb a.Kind r a default=some (0,r',o)):Zcl r':=by
 obtain ⟨c1,c2,c3,c4,c5,_⟩:=Z27 hg (by omega)
 have hl:=hr.len
 obtain ⟨c,x,y,d1,d2,_⟩:=Zy1 h hr hg hk
 rw [h1] at d1
 simp only [Option.some.injEq,Prod.mk.injEq] at d1
 obtain ⟨rfl,rfl,rfl⟩:=d1
 have e2:Zbj r a=(Zdf r a (Int.toNat ((r.List.length:Int) - (0:Int)) + 1) ([]:List Zh) (0:Int)).bind fun z57=>match z57 with | y56=>(Z1 ({ r with List:=y56 }) (ans 0)):=by unfold Zbj Zb1;rw [h];rfl
 have hf:=Zpo (a:=a) (a0:=r) (by omega) r.List.length 0 [] (by omega) (by simp)
 rw [show ((0:Nat):Int)=0 from rfl] at hf
 rw [e2,show (Int.toNat ((r.List.length:Int) - (0:Int)) + 1)=r.List.length + 1 by omega,hf,List.drop_zero,List.nil_append] at d2
 simp only [Option.bind_some,Z1,if_true,Option.some.injEq,Prod.mk.injEq] at d2
 obtain ⟨rfl,_⟩:=d2
 have hle:=List.length_filter_le (fun e:Zh=>!sEq e.Name a.S) r.List
 exact Zpx hg (by omega) (by omega) (fun e he=>c4 e (List.mem_filter.1 he).1) (fun _=>List.Pairwise.sublist List.filter_sublist (c5 hk)) (fun h=>by omega)
theorem Z49 (h:a.Kind=21) (hr:RecW r) (hg:Zcl r) (hk:r.Kind=9) (ha:ActW a) (h1:Zbb a.Kind r a default=some (0,r',o)):Zcl r':=by
 have e:Zbb a.Kind r a default=Zjt r a default:=by rw [h];rfl
 obtain ⟨c1,c2,c3,c4,_,c6⟩:=Z27 hg (by omega)
 have hs:=c6 hk
 have hl:=hr.len
 have hple:=Zqo (Zds { Score:=a.X,Name:=a.S } false) r.List
 rw [e] at h1
 unfold Zjt at h1
 rw [Zz0 ha.ok.2 hr.ok.sc (by omega),Zro (by omega)] at h1
 simp only [Option.bind_some] at h1
 obtain ⟨e9,g9,h1⟩:=Option.bind_eq_some_iff.1 h1
 obtain ⟨r11,g11,h1⟩:=Option.bind_eq_some_iff.1 h1
 split at h1
 ·simp only [Option.some.injEq,Prod.mk.injEq,true_and] at h1
  rw [← h1.1];exact hg
 ·rename_i hcond
  unfold Zcp at h1
  rw [if_pos ⟨by omega,by omega,by simp,by simp;omega⟩] at h1
  simp only [Option.bind_some] at h1
  rw [Z2w c1 c2] at h1
  simp only [Option.bind_some,Option.some.injEq,Prod.mk.injEq,true_and,Int.toNat_natCast] at h1
  obtain ⟨rfl,_⟩:=h1
  have hbehind:∀ y ∈ r.List.drop (pre (Zds { Score:=a.X,Name:=a.S } false) r.List),Zcs { Score:=a.X,Name:=a.S } y=true:=fun y hy=>by
   have hp:pre (Zds { Score:=a.X,Name:=a.S } false) r.List < r.List.length:=by
    have:=List.length_pos_of_mem hy
    rw [List.length_drop] at this;omega
   have hd:decide (((pre (Zds { Score:=a.X,Name:=a.S } false) r.List:Nat):Int) < (r.List.length:Int))=true:=by simpa using hp
   rw [hd,Zc1 hp] at g9
   simp only [gd_t,Option.some.injEq] at g9
   subst g9
   rw [hd] at g11 hcond
   simp only [gd_t] at g11
   rw [Zrf ha.ok.2 (hr.ok.sc _ (List.getElem_mem hp))] at g11
   have hb:Zcs { Score:=a.X,Name:=a.S } r.List[pre (Zds { Score:=a.X,Name:=a.S } false) r.List]=true:=by
    have:=Option.some.inj g11
    rw [← this] at hcond
    simpa using hcond
   rw [List.drop_eq_getElem_cons hp] at hy
   rcases List.mem_cons.1 hy with rfl | hy
   ·exact hb
   ·refine Zmo hb ?_
    have hpw:(r.List.drop (pre (Zds { Score:=a.X,Name:=a.S } false) r.List)).Pairwise fun p q=>Zcs p q=true:=List.Pairwise.sublist (List.drop_sublist _ _) hs
    rw [List.drop_eq_getElem_cons hp,List.pairwise_cons] at hpw
    exact hpw.1 y hy
  refine Zpx hg (by omega) (by rw [List.length_take];omega) (fun e he=>?_) (fun h=>by omega) (fun _=>?_)
  ·have he:=List.mem_of_mem_take he
   simp only [List.mem_append,List.mem_singleton] at he
   rcases he with (he | rfl) | he
   ·exact c4 e (List.mem_of_mem_take he)
   ·exact ⟨ha.s16 (by omega),fun h=>by omega,ha.xc⟩
   ·exact c4 e (List.mem_of_mem_drop he)
  ·refine List.Pairwise.sublist (List.take_sublist _ _) ?_
   rw [List.append_assoc,List.pairwise_append]
   refine ⟨List.Pairwise.sublist (List.take_sublist _ _) hs,?_,fun x hx y hy=>?_⟩
   ·rw [List.singleton_append,List.pairwise_cons]
    exact ⟨hbehind,List.Pairwise.sublist (List.drop_sublist _ _) hs⟩
   ·have hxa:Zcs x { Score:=a.X,Name:=a.S }=true:=Z2k (f:=Zds { Score:=a.X,Name:=a.S } false) x hx
    rcases List.mem_append.1 hy with hy | hy
    ·rw [List.mem_singleton.1 hy];exact hxa
    ·exact Zmo hxa (hbehind y hy)
theorem Zjj {k on:Int} {c:Int} (h:Zik k=some on) (e:Zik k=some c):on=c:=Option.some.inj (h.symm.trans e)
theorem Zqm (h5:5 ≤ a.Kind) (h21:a.Kind ≤ 21) (hon:Zik a.Kind=some r.Kind) (hr:RecW r) (hg:Zcl r) (ha:ActW a) (h1:Zbb a.Kind r a default=some (0,r',o)):Zcl r':=by
 have real:∀ {m:Nat},m=r.Real ∨ m=a.X → m=Zb9 m:=fun {m} h=>by
  rcases h with rfl | rfl
  ·exact Zpv hg
  ·exact ha.xc
 have hk':a.Kind=5 ∨ a.Kind=6 ∨ a.Kind=7 ∨ a.Kind=8 ∨ a.Kind=9 ∨ a.Kind=10 ∨ a.Kind=11 ∨ a.Kind=12 ∨ a.Kind=13 ∨ a.Kind=14 ∨ a.Kind=15 ∨ a.Kind=16 ∨ a.Kind=17 ∨ a.Kind=18 ∨ a.Kind=19 ∨ a.Kind=20 ∨ a.Kind=21:=by omega
 rcases hk' with h | h | h | h | h | h | h | h | h | h | h | h | h | h | h | h | h
 ·have e:Zbb a.Kind r a default=Zit r a default:=by rw [h];rfl
  rw [e] at h1
  simp only [Zit,Option.some.injEq,Prod.mk.injEq,true_and] at h1
  rw [← h1.1]
  exact Ztd hg (Zjj hon (by rw [h];kernel_rfl)) ha.s64
 ·have e:Zbb a.Kind r a default=Zgs r a default:=by rw [h];rfl
  rw [e] at h1
  simp only [Zgs,Zib hr.len,Option.bind_some,Option.some.injEq,Prod.mk.injEq,true_and] at h1
  rw [← h1.1]
  exact Ztd hg (Zjj hon (by rw [h];kernel_rfl)) ha.s64
 ·have e:Zbb a.Kind r a default=Zim r a default:=by rw [h];rfl
  rw [e] at h1
  simp only [Zim,Option.some.injEq,Prod.mk.injEq,true_and] at h1
  rw [← h1.1]
  have hk:r.Kind=2:=Zjj hon (by rw [h];kernel_rfl)
  exact Zs3 hg (by omega) (fun h=>by omega)
 ·have e:Zbb a.Kind r a default=Zlj r a default:=by rw [h];rfl
  rw [e] at h1
  unfold Zlj at h1
  split at h1
  ·cases h1
  ·simp only [Option.some.injEq,Prod.mk.injEq,true_and] at h1
   rw [← h1.1]
   have hk:r.Kind=3:=Zjj hon (by rw [h];kernel_rfl)
   exact Zs3 hg (by omega) (fun h=>by omega)
 ·have e:Zbb a.Kind r a default=Zd3 r a default:=by rw [h];rfl
  rw [e] at h1
  unfold Zd3 at h1
  split at h1
  ·cases h1
  ·simp only [Option.some.injEq,Prod.mk.injEq,true_and] at h1
   rw [← h1.1];exact hg
 ·have e:Zbb a.Kind r a default=Zhn r a default:=by rw [h];rfl
  have hk:r.Kind=4:=Zjj hon (by rw [h];kernel_rfl)
  obtain ⟨p1,p2,p3,p4⟩:=Zvh hg hk
  obtain ⟨q1,q2⟩:=ha.inout (.inl h)
  rw [e] at h1
  unfold Zhn at h1
  rw [wr (x:=r.High - r.Num) (by omega) (by omega),wr (x:=r.Num + a.N) (by omega) (by omega)] at h1
  split at h1
  ·cases h1
  ·rename_i hcond
   have hcond':¬ (r.High - r.Num < a.N):=by simpa using hcond
   simp only [Option.some.injEq,Prod.mk.injEq,true_and] at h1
   rw [← h1.1]
   exact Zs3 hg (by omega) (fun _=>by omega)
 ·have e:Zbb a.Kind r a default=Zhh r a default:=by rw [h];rfl
  have hk:r.Kind=4:=Zjj hon (by rw [h];kernel_rfl)
  obtain ⟨p1,p2,p3,p4⟩:=Zvh hg hk
  obtain ⟨q1,q2⟩:=ha.inout (.inr h)
  rw [e] at h1
  unfold Zhh at h1
  rw [wr (x:=r.Num - r.Low) (by omega) (by omega),wr (x:=r.Num - a.N) (by omega) (by omega)] at h1
  split at h1
  ·cases h1
  ·rename_i hcond
   have hcond':¬ (r.Num - r.Low < a.N):=by simpa using hcond
   simp only [Option.some.injEq,Prod.mk.injEq,true_and] at h1
   rw [← h1.1]
   exact Zs3 hg (by omega) (fun _=>by omega)
 ·have e:Zbb a.Kind r a default=Zd3 r a default:=by rw [h];rfl
  rw [e] at h1
  unfold Zd3 at h1
  split at h1
  ·cases h1
  ·simp only [Option.some.injEq,Prod.mk.injEq,true_and] at h1
   rw [← h1.1];exact hg
 ·have hk:r.Kind=5:=Zjj hon (by rw [h];kernel_rfl)
  refine Zpi (ψ:=fun x y=>Zl3 x y) hg (by omega) (fun m hm=>?_) (by rw [h];rfl) h1
  obtain ⟨m',e1,_,e2⟩:=Z1a hr.ok.real ha.ok.2 (Zpv hg) ha.xc
  have:m=m':=Option.some.inj (hm.symm.trans e1)
  exact real (this ▸ e2)
 ·have hk:r.Kind=6:=Zjj hon (by rw [h];kernel_rfl)
  refine Zpi (ψ:=fun x y=>Zl2 x y) hg (by omega) (fun m hm=>?_) (by rw [h];rfl) h1
  obtain ⟨m',e1,_,e2⟩:=Z2m hr.ok.real ha.ok.2 (Zpv hg) ha.xc
  have:m=m':=Option.some.inj (hm.symm.trans e1)
  exact real (this ▸ e2)
 ·have hk:r.Kind=7:=Zjj hon (by rw [h];kernel_rfl)
  refine Zpi (ψ:=fun x y=>Zje x y) hg (by omega) (fun m hm=>?_) (by rw [h];rfl) h1
  have hz:=Z36 r.Real a.X
  have:Zje r.Real a.X=some (Zb9 (fadd r.Real a.X)):=by unfold Zje;rw [Zk8 hz];rfl
  have:m=Zb9 (fadd r.Real a.X):=Option.some.inj (hm.symm.trans this)
  rw [this,Zv5]
 ·have hk:r.Kind=7:=Zjj hon (by rw [h];kernel_rfl)
  refine Zpi (ψ:=fun x y=>Zic x y) hg (by omega) (fun m hm=>?_) (by rw [h];rfl) h1
  have hz:=Z30 r.Real a.X
  have:Zic r.Real a.X=some (Zb9 (fmul r.Real a.X)):=by unfold Zic;rw [Zk8 hz];rfl
  have:m=Zb9 (fmul r.Real a.X):=Option.some.inj (hm.symm.trans this)
  rw [this,Zv5]
 ·have hk:r.Kind=7:=Zjj hon (by rw [h];kernel_rfl)
  refine Zpi (ψ:=fun x y=>Zhg x y) hg (by omega) (fun m hm=>?_) (by rw [h];rfl) h1
  exact real (.inr (Option.some.inj hm).symm)
 ·exact Z6z h hr hg (Zjj hon (by rw [h];kernel_rfl)) ha h1
 ·exact Z5l h hr hg (Zjj hon (by rw [h];kernel_rfl)) h1
 ·have hk:r.Kind=8:=Zjj hon (by rw [h];kernel_rfl)
  have e:Zbb a.Kind r a default=Zfh r a default:=by rw [h];rfl
  have hl:=hr.len
  rw [e] at h1
  unfold Zfh at h1
  rw [Zqa (Zm4 hg hk) (by omega)] at h1
  simp only [Option.bind_some] at h1
  split at h1
  ·cases h1
  ·simp only [Option.some.injEq,Prod.mk.injEq,true_and] at h1
   rw [← h1.1];exact hg
 ·exact Z49 h hr hg (Zjj hon (by rw [h];kernel_rfl)) ha h1
theorem Zp2 (hk:a.Kind=9 ∨ a.Kind=12 ∨ a.Kind=20) (hr:RecW r) (hg:Zcl r) (hon:Zik a.Kind=some r.Kind) (h1:Zbb a.Kind r a default=some (0,r',o)):r'=r:=by
 rcases hk with h | h | h
 ·have e:Zbb a.Kind r a default=Zd3 r a default:=by rw [h];rfl
  rw [e] at h1
  unfold Zd3 at h1
  split at h1
  ·cases h1
  ·simp only [Option.some.injEq,Prod.mk.injEq,true_and] at h1
   exact h1.1.symm
 ·have e:Zbb a.Kind r a default=Zd3 r a default:=by rw [h];rfl
  rw [e] at h1
  unfold Zd3 at h1
  split at h1
  ·cases h1
  ·simp only [Option.some.injEq,Prod.mk.injEq,true_and] at h1
   exact h1.1.symm
 ·have hk:r.Kind=8:=Zjj hon (by rw [h];kernel_rfl)
  have e:Zbb a.Kind r a default=Zfh r a default:=by rw [h];rfl
  have hl:=hr.len
  rw [e] at h1
  unfold Zfh at h1
  rw [Zqa (Zm4 hg hk) (by omega)] at h1
  simp only [Option.bind_some] at h1
  split at h1
  ·cases h1
  ·simp only [Option.some.injEq,Prod.mk.injEq,true_and] at h1
   exact h1.1.symm
structure Z39 (t:Bool) (r:Zb):Prop where
 w:RecW r
 good:t=true → Zcl r
 zero:t=false → r=zrc
def Ze2 (k:Int):Bool:=(((((k == (3:Int)) || (k == (4:Int))) || (k == (9:Int))) || (k == (12:Int))) || (k == (20:Int)))
end Go.CL
