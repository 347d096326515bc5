/- A part of the proof of HandSplit. -/
import Derived.Test.YtlanlccmokaajaaGreatDoorHandSplitC3
set_option linter.unusedVariables false
set_option linter.unusedSimpArgs false
set_option maxRecDepth 100000
namespace Go.CL
open Go Go.RowKit Go.Proofs
theorem Zp4 (a0:Zb) {r:Int} (h:Zex a0=some r):FnOk Tryz.prog 51 [(Ze.pd a0)] (pInt .i64 r):=by
 have H0:=h
 unfold Zex at H0
 clear h
 refine Zbt (N:=83) Tryz.func51 rfl rfl (Qe rfl) rfl rfl (fun a g0 hst hb=>?_)
 refine r_s (T:=[⟨[.o 0],_,[],[],[1]⟩,⟨[],_,[],[],[2]⟩]) (F:=[.p 0 0]) hst hb Za
  (Qb rfl u_0<|Qa rfl c_i<|o_n) (fun a g hst hb=>?_)
 obtain ⟨r1,h2,H0⟩:=Zd H0
 refine r_s (T:=[⟨[.o 0],_,[],[],[4]⟩,⟨[.p 0 0],_,[],[0],[5]⟩,⟨[.p 1 0],_,[],[0,1],[6]⟩,⟨[],[(3,(pBox Zdg 3 (default:Zcd)))],[4],[],[3]⟩,⟨[.p 2 0,.p 3 0],_,[4],Lr 4,[3]⟩]) (F:=[.o 0,.p 4 0]) hst hb Za
  (Qf rfl Zgb u_0<|Ql rfl ty_3 u_0<|o_p rfl (Zl Zbds (Zze _ h2) rfl rfl (.cons u_0 .nil))<|o_p rfl (Zbh (zs:=[.bool false,.bool false,.bool false,.bool false,.bool false]) (by kernel_rfl) (fun g=>Zsp g) rfl rfl)<|o_p rfl (Zb6 Zj6 rfl rfl u_1 u_0)<|o_n) (fun a g hst hb=>?_)
 refine wp_seq ?_
 refine wp_block ?_
 refine r_s (T:=[⟨[.o 0],_,[],[],[8]⟩,⟨[.p 0 0],_,[],[0],[9]⟩,⟨[.p 1 0],_,[],[0,1],[10]⟩,⟨[.p 2 0],_,[],[0,1,2],[11]⟩,⟨[.p 3 0,.o 0],_,[],Lr 4,[12]⟩,⟨[.p 3 0,.p 4 0],_,[],Lr 5,[13]⟩,⟨[.p 3 0,.p 5 0],_,[],Lr 6,[14]⟩,⟨[.p 3 0,.p 6 0],_,[],Lr 7,[15]⟩,⟨[.p 7 0],_,[],Lr 8,[7]⟩]) (F:=[.o 0,.o 1,.p 8 0]) hst hb Za
  (Qf rfl Zgb u_0<|Ql rfl ty_3 u_0<|o_p rfl (Z8m rfl rfl u_0 c_i)<|Qm rfl u_0<|o_g (Qg_f rfl (fun hG=>Zh Zgb rfl rfl u_0))<|o_g (Qg_f rfl (fun hG=>Zs ty_3 rfl rfl (Opd.gd hG u_0)))<|o_g (Qg_f rfl (fun hG=>Zmz rfl rfl (Opd.gd hG u_0) c_i))<|o_p rfl (Zbm rfl rfl u_0 (fun hz=>(Opd.gd (bNF hz) u_1)))<|Qa rfl u_0<|o_n) (fun a g hst hb=>?_)
 refine wp_cond_split (hst.bool 2 rfl) (fun hc3=>?_) (fun hc3=>?_)
 ·replace H0:=Zu hc3 H0
  refine r_s (L:=[]) (T:=[⟨[],_,[],[],[2]⟩]) (F:=[.p 0 0]) (hst.pick [] rfl) hb Za
   (Qa rfl c_i<|o_n) (fun a g hst hb=>?_)
  refine wp_ret ?_
  refine Z5 ?_
  refine Zp ?_
  obtain rfl:=Option.some.inj H0
  exact Z4 rfl hst hb (Zg (s:=2)) (hst.at 0 rfl)
 ·replace H0:=Zt hc3 H0
  obtain ⟨r4,h5,H0⟩:=Zd H0
  refine r_s (L:=[(1,_),(3,_)]) (T:=[⟨[.o 0],_,[],[],[17]⟩,⟨[.o 1],_,[],[],[18]⟩,⟨[.p 0 0,.p 1 0],_,[],[0,1],[19]⟩,⟨[.p 2 0],_,[],[0,1,2],[20]⟩,⟨[.p 3 0],_,[],Lr 4,[16]⟩]) (F:=[.o 0,.o 1,.p 4 0]) (hst.pick [0,1] rfl) hb Za
   (Ql rfl Zbb u_0<|Ql rfl Zj6 u_0<|o_p rfl (Zl Zbcz (Z11 _ _ h5) rfl rfl (.cons u_0 (.cons u_1 .nil)))<|Qn rfl u_0<|Qa rfl u_0<|o_n) (fun a g hst hb=>?_)
  refine wp_cond_split (hst.bool 2 rfl) (fun hc6=>?_) (fun hc6=>?_)
  ·replace H0:=Zu hc6 H0
   refine r_s (L:=[]) (T:=[⟨[],_,[],[],[2]⟩]) (F:=[.p 0 0]) (hst.pick [] rfl) hb Za
    (Qa rfl c_i<|o_n) (fun a g hst hb=>?_)
   refine wp_ret ?_
   refine Z5 ?_
   refine Zp ?_
   obtain rfl:=Option.some.inj H0
   exact Z4 rfl hst hb (Zg (s:=2)) (hst.at 0 rfl)
  ·replace H0:=Zt hc6 H0
   refine r_s (L:=[(1,_),(3,_)]) (T:=[⟨[.o 0],_,[],[],[22]⟩,⟨[.p 0 0],_,[],[0],[23]⟩,⟨[.p 1 0],_,[],[0,1],[24]⟩,⟨[.p 2 0],_,[],[0,1,2],[25]⟩,⟨[.p 3 0],_,[],Lr 4,[21]⟩]) (F:=[.o 0,.o 1,.p 4 0]) (hst.pick [0,1] rfl) hb Za
    (Qf rfl Zjh u_0<|Ql rfl ty_9 u_0<|o_p rfl (Zge Tryz.underlying9 rfl rfl u_0)<|o_p rfl (Zcv rfl rfl u_0 c_i)<|Qa rfl u_0<|o_n) (fun a g hst hb=>?_)
   refine wp_cond_split (hst.bool 2 rfl) (fun hc7=>?_) (fun hc7=>?_)
   ·replace H0:=Zu hc7 H0
    refine r_s (L:=[]) (T:=[⟨[],_,[],[],[2]⟩]) (F:=[.p 0 0]) (hst.pick [] rfl) hb Za
     (Qa rfl c_i<|o_n) (fun a g hst hb=>?_)
    refine wp_ret ?_
    refine Z5 ?_
    refine Zp ?_
    obtain rfl:=Option.some.inj H0
    exact Z4 rfl hst hb (Zg (s:=2)) (hst.at 0 rfl)
   ·replace H0:=Zt hc7 H0
    refine r_s (L:=[(1,_),(3,_)]) (T:=⟨[.o 1],_,[],[],[27]⟩ :: ⟨[.p 0 0],_,[],[0],[28]⟩ :: ⟨[.p 1 0],_,[],[0,1],[29]⟩ :: ⟨[.p 2 0,.o 0],_,[],[0,1,2],[30]⟩ :: ⟨[.p 2 0,.p 3 0],_,[],Lr 4,[31]⟩ :: ⟨[.p 2 0,.p 4 0],_,[],Lr 5,[32]⟩ :: ⟨[.p 2 0,.p 5 0],_,[],Lr 6,[33]⟩ :: ⟨[.p 6 0,.o 0],_,[],Lr 7,[34]⟩ :: ⟨[.p 6 0,.p 7 0],_,[],Lr 8,[35]⟩ :: ⟨[.p 6 0,.p 8 0],_,[],Lr 9,[36]⟩ :: ⟨[.p 2 0,.p 6 0,.p 9 0],_,[],Lr 10,[37]⟩ :: ⟨[.p 2 0,.p 10 0],_,[],Lr 11,[38]⟩ :: ⟨[.p 11 0,.o 0],_,[],Lr 12,[39]⟩ :: ⟨[.p 11 0,.p 12 0],_,[],Lr 13,[40]⟩ :: ⟨[.p 11 0,.o 0],_,[],Lr 12,[41]⟩ :: ⟨[.p 11 0,.p 14 0],_,[],0 :: 1 :: 2 :: 3 :: 4 :: 5 :: 6 :: 7 :: 8 :: 9 :: 10 :: 11 :: 14 :: [],[42]⟩ :: ⟨[.p 11 0,.p 13 0,.p 15 0],_,[],Lr 16,[43]⟩ :: ⟨[.p 2 0,.p 11 0,.p 16 0],_,[],Lr 17,[44]⟩ :: ⟨[.p 2 0,.p 17 0],_,[],Lr 18,[45]⟩ :: ⟨[.p 18 0,.o 0],_,[],Lr 19,[46]⟩ :: ⟨[.p 18 0,.p 19 0],_,[],Lr 20,[47]⟩ :: ⟨[.p 18 0,.o 0],_,[],Lr 19,[48]⟩ :: ⟨[.p 18 0,.p 21 0],_,[],0 :: 1 :: 2 :: 3 :: 4 :: 5 :: 6 :: 7 :: 8 :: 9 :: 10 :: 11 :: 12 :: 13 :: 14 :: 15 :: 16 :: 17 :: 18 :: 21 :: [],[49]⟩ :: ⟨[.p 18 0,.p 20 0,.p 22 0],_,[],Lr 23,[50]⟩ :: ⟨[.p 2 0,.p 18 0,.p 23 0],_,[],Lr 24,[51]⟩ :: ⟨[.p 2 0,.p 24 0],_,[],Lr 25,[52]⟩ :: ⟨[.p 25 0],_,[],Lr 26,[26]⟩ :: []) (F:=[.o 0,.o 1,.p 26 0]) (hst.pick [0,1] rfl) hb Za
     (Qf rfl Z0f u_0<|Ql rfl ty_4 u_0<|Qm rfl u_0<|o_g (Qg_t rfl (fun hG=>Zh Zjv rfl rfl u_0))<|o_g (Qg_t rfl (fun hG=>Zs ty_2 rfl rfl (Opd.gd hG u_0)))<|o_g (Qg_t rfl (fun hG=>Zca rfl rfl (Opd.gd hG u_0) c_i))<|o_g (Qg_t rfl (fun hG=>Z1 rfl rfl (Opd.gd hG u_0)))<|o_g (Qg_fi rfl (fun hG=>Zh Zjw rfl rfl u_0))<|o_g (Qg_fi rfl (fun hG=>Zs ty_2 rfl rfl (Opd.gd hG u_0)))<|o_g (Qg_fi rfl (fun hG=>Zcv rfl rfl (Opd.gd hG u_0) c_i))<|o_g (Qg_t rfl (fun hG=>Zbm rfl rfl (Opd.gd hG u_0) (fun hz=>(Opd.gd (bA hG (bNF hz)) u_1))))<|o_g (Qg_t rfl (fun hG=>Z1 rfl rfl (Opd.gd hG u_0)))<|o_g (Qg_fi rfl (fun hG=>Zh Zc2 rfl rfl u_0))<|o_g (Qg_fi rfl (fun hG=>Zs ty_2 rfl rfl (Opd.gd hG u_0)))<|o_g (Qg_fi rfl (fun hG=>Zh Zjv rfl rfl u_0))<|o_g (Qg_fi rfl (fun hG=>Zs ty_2 rfl rfl (Opd.gd hG u_0)))<|o_g (Qg_fi rfl (fun hG=>Zca rfl rfl (Opd.gd hG u_0) (Opd.gd hG u_1)))<|o_g (Qg_t rfl (fun hG=>Zbm rfl rfl (Opd.gd hG u_0) (fun hz=>(Opd.gd (bA hG (bNF hz)) u_1))))<|o_g (Qg_t rfl (fun hG=>Z1 rfl rfl (Opd.gd hG u_0)))<|o_g (Qg_fi rfl (fun hG=>Zh Zc2 rfl rfl u_0))<|o_g (Qg_fi rfl (fun hG=>Zs ty_2 rfl rfl (Opd.gd hG u_0)))<|o_g (Qg_fi rfl (fun hG=>Zh Zjw rfl rfl u_0))<|o_g (Qg_fi rfl (fun hG=>Zs ty_2 rfl rfl (Opd.gd hG u_0)))<|o_g (Qg_fi rfl (fun hG=>Zcv rfl rfl (Opd.gd hG u_0) (Opd.gd hG u_1)))<|o_g (Qg_t rfl (fun hG=>Zbm rfl rfl (Opd.gd hG u_0) (fun hz=>(Opd.gd (bA hG (bNF hz)) u_1))))<|o_p rfl (Zbg rfl rfl u_0 (fun hz=>(Opd.gd hz u_1)))<|Qa rfl u_0<|o_n) (fun a g hst hb=>?_)
    refine wp_cond_split (hst.bool 2 rfl) (fun hc8=>?_) (fun hc8=>?_)
    ·replace H0:=Zu hc8 H0
     refine r_s (L:=[]) (T:=[⟨[],_,[],[],[2]⟩]) (F:=[.p 0 0]) (hst.pick [] rfl) hb Za
      (Qa rfl c_i<|o_n) (fun a g hst hb=>?_)
     refine wp_ret ?_
     refine Z5 ?_
     refine Zp ?_
     obtain rfl:=Option.some.inj H0
     exact Z4 rfl hst hb (Zg (s:=2)) (hst.at 0 rfl)
    ·replace H0:=Zt hc8 H0
     obtain ⟨r9,h10,H0⟩:=Zd H0
     refine r_s (L:=[(1,_),(3,_)]) (T:=[⟨[.o 0],_,[],[],[54]⟩,⟨[.p 0 0],_,[],[0],[55]⟩,⟨[.p 1 0],_,[],[0,1],[56]⟩,⟨[.p 2 0],_,[],[0,1,2],[57]⟩,⟨[.p 3 0],_,[],Lr 4,[53]⟩]) (F:=[.o 0,.o 1,.p 4 0]) (hst.pick [0,1] rfl) hb Za
      (Qf rfl Zgi u_0<|Ql rfl Zc0 u_0<|o_p rfl (Zl Z4i (Zo8 _ h10) rfl rfl (.cons u_0 .nil))<|Qn rfl u_0<|Qa rfl u_0<|o_n) (fun a g hst hb=>?_)
     refine wp_cond_split (hst.bool 2 rfl) (fun hc11=>?_) (fun hc11=>?_)
     ·replace H0:=Zu hc11 H0
      refine r_s (L:=[]) (T:=[⟨[],_,[],[],[2]⟩]) (F:=[.p 0 0]) (hst.pick [] rfl) hb Za
       (Qa rfl c_i<|o_n) (fun a g hst hb=>?_)
      refine wp_ret ?_
      refine Z5 ?_
      refine Zp ?_
      obtain rfl:=Option.some.inj H0
      exact Z4 rfl hst hb (Zg (s:=2)) (hst.at 0 rfl)
     ·replace H0:=Zt hc11 H0
      refine r_s (L:=[(1,_),(3,_)]) (T:=[⟨[.o 1],_,[],[],[59]⟩,⟨[.p 0 0],_,[],[0],[60]⟩,⟨[.p 1 0],_,[],[0,1],[61]⟩,⟨[.p 2 0],_,[],[0,1,2],[58]⟩]) (F:=[.o 0,.p 3 0]) (hst.pick [0,1] rfl) hb Za
       (Qf rfl Zz2 u_0<|Ql rfl ty_4 u_0<|Qn rfl u_0<|Qa rfl u_0<|o_n) (fun a g hst hb=>?_)
      refine wp_cond_split (hst.bool 1 rfl) (fun hc12=>?_) (fun hc12=>?_)
      ·replace H0:=Zu hc12 H0
       refine r_s (L:=[]) (T:=[⟨[],_,[],[],[2]⟩]) (F:=[.p 0 0]) (hst.pick [] rfl) hb Za
        (Qa rfl c_i<|o_n) (fun a g hst hb=>?_)
       refine wp_ret ?_
       refine Z5 ?_
       refine Zp ?_
       obtain rfl:=Option.some.inj H0
       exact Z4 rfl hst hb (Zg (s:=2)) (hst.at 0 rfl)
      ·replace H0:=Zt hc12 H0
       refine r_s (L:=[(1,_)]) (T:=[⟨[.o 0],_,[],[],[63]⟩,⟨[.p 0 0],_,[],[0],[64]⟩,⟨[.p 1 0],_,[],[0,1],[65]⟩,⟨[.p 2 0],_,[],[0,1,2],[66]⟩,⟨[.p 3 0,.o 0],_,[],Lr 4,[67]⟩,⟨[.p 3 0,.p 4 0],_,[],Lr 5,[68]⟩,⟨[.p 3 0,.p 5 0],_,[],Lr 6,[69]⟩,⟨[.p 3 0,.p 6 0],_,[],Lr 7,[70]⟩,⟨[.p 7 0],_,[],Lr 8,[62]⟩]) (F:=[.o 0,.p 8 0]) (hst.pick [0] rfl) hb Za
        (Qf rfl Zg8 u_0<|Ql rfl ty_3 u_0<|o_p rfl (Zca rfl rfl u_0 c_i)<|Qm rfl u_0<|o_g (Qg_f rfl (fun hG=>Zh Zg8 rfl rfl u_0))<|o_g (Qg_f rfl (fun hG=>Zs ty_3 rfl rfl (Opd.gd hG u_0)))<|o_g (Qg_f rfl (fun hG=>Zcv rfl rfl (Opd.gd hG u_0) c_i))<|o_p rfl (Zbm rfl rfl u_0 (fun hz=>(Opd.gd (bNF hz) u_1)))<|Qa rfl u_0<|o_n) (fun a g hst hb=>?_)
       refine wp_cond_split (hst.bool 1 rfl) (fun hc13=>?_) (fun hc13=>?_)
       ·replace H0:=Zu hc13 H0
        refine r_s (L:=[]) (T:=[⟨[],_,[],[],[2]⟩]) (F:=[.p 0 0]) (hst.pick [] rfl) hb Za
         (Qa rfl c_i<|o_n) (fun a g hst hb=>?_)
        refine wp_ret ?_
        refine Z5 ?_
        refine Zp ?_
        obtain rfl:=Option.some.inj H0
        exact Z4 rfl hst hb (Zg (s:=2)) (hst.at 0 rfl)
       ·replace H0:=Zt hc13 H0
        refine r_s (L:=[(1,_)]) (T:=[⟨[.o 0],_,[],[],[72]⟩,⟨[.p 0 0],_,[],[0],[73]⟩,⟨[.p 1 0],_,[],[0,1],[74]⟩,⟨[.o 0],_,[],[],[75]⟩,⟨[.p 3 0],_,[],[3],[76]⟩,⟨[.p 2 0,.p 4 0],_,[],Lr 5,[77]⟩,⟨[.p 5 0],_,[],Lr 6,[71]⟩]) (F:=[.o 0,.p 6 0]) (hst.pick [0] rfl) hb Za
         (Qf rfl Zcc u_0<|Ql rfl Zdc u_0<|o_p rfl (Zbv Tryz.underlying36 rfl rfl u_0)<|Qf rfl Zg8 u_0<|Ql rfl ty_3 u_0<|o_p rfl (Zcv rfl rfl u_0 u_1)<|Qa rfl u_0<|o_n) (fun a g hst hb=>?_)
        refine wp_cond_split (hst.bool 1 rfl) (fun hc14=>?_) (fun hc14=>?_)
        ·replace H0:=Zu hc14 H0
         refine r_s (L:=[]) (T:=[⟨[],_,[],[],[2]⟩]) (F:=[.p 0 0]) (hst.pick [] rfl) hb Za
          (Qa rfl c_i<|o_n) (fun a g hst hb=>?_)
         refine wp_ret ?_
         refine Z5 ?_
         refine Zp ?_
         obtain rfl:=Option.some.inj H0
         exact Z4 rfl hst hb (Zg (s:=2)) (hst.at 0 rfl)
        ·replace H0:=Zt hc14 H0
         refine wp_skip ?_
         refine Zbc ?_
         refine Zq ?_
         obtain ⟨r15,h16,H0⟩:=Zd H0
         refine r_s (L:=[(1,_)]) (T:=[⟨[.o 0],_,[],[],[78]⟩,⟨[.p 0 0],_,[],[0],[79]⟩,⟨[.o 0],_,[],[],[80]⟩,⟨[.p 2 0],_,[],[2],[81]⟩,⟨[.p 1 0,.p 3 0],_,[],Lr 4,[82]⟩,⟨[.p 4 0],_,[],Lr 5,[2]⟩]) (F:=[.p 5 0]) (hst.pick [0] rfl) hb Za
          (Qf rfl Zgb u_0<|Ql rfl ty_3 u_0<|Qf rfl Zcc u_0<|Ql rfl Zdc u_0<|o_p rfl (Zl Zbcx (Z1d _ _ h16) rfl rfl (.cons u_0 (.cons u_1 .nil)))<|Qa rfl u_0<|o_n) (fun a g hst hb=>?_)
         refine wp_ret ?_
         obtain rfl:=Option.some.inj H0
         exact Z4 rfl hst hb (Zg (s:=2)) (hst.at 0 rfl)
theorem Zx3 (a0:Int) {r:Zdo} (h:Zpq a0=some r):FnOk Tryz.prog 85 [(pInt .i64 a0)] (Ze7.pd r):=by
 have H0:=h
 unfold Zpq at H0
 clear h
 refine Zbt (N:=13) Tryz.func85 rfl rfl (Qe rfl) rfl rfl (fun a g0 hst hb=>?_)
 refine r_s (T:=[⟨[],[(2,(pBox Ze7 2 (default:Zdo)))],[3],[],[2]⟩]) (F:=[.o 0,.p 0 0]) hst hb Za
  (o_p rfl (Zbh (zs:=[.string ByteArray.empty,.int .i64 0,.string ByteArray.empty]) (by kernel_rfl) (fun g=>Zuw g) rfl rfl)<|o_n) (fun a g hst hb=>?_)
 refine wp_seq ?_
 refine r_s (T:=[⟨[.o 0],_,[],[],[3]⟩,⟨[.p 0 0],_,[],[0],[4]⟩,⟨[.p 1 0],_,[],[0,1],[5]⟩,⟨[.p 2 0,.o 0],_,[],[0,1,2],[6]⟩,⟨[.p 2 0,.p 3 0],_,[],Lr 4,[7]⟩,⟨[.p 2 0,.p 4 0],_,[],Lr 5,[8]⟩]) (F:=[.o 0,.o 1,.p 5 0]) hst hb Za
  (Qm rfl u_0<|o_p rfl (Z8m rfl rfl u_0 c_i)<|Qm rfl u_0<|o_g (Qg_f rfl (fun hG=>Z1 rfl rfl u_0))<|o_g (Qg_f rfl (fun hG=>Zmz rfl rfl (Opd.gd hG u_0) c_i))<|o_p rfl (Zbm rfl rfl u_0 (fun hz=>(Opd.gd (bNF hz) u_1)))<|o_n) (fun a g hst hb=>?_)
 refine wp_cond_split (hst.bool 2 rfl) (fun hc1=>?_) (fun hc1=>?_)
 ·replace H0:=Zu hc1 H0
  refine r_s (L:=[(2,_)]) (T:=[⟨[],_,[],[],[9]⟩,⟨[.p 0 0,.o 0],_,[3],[0],[2]⟩]) (F:=[.p 1 0]) (hst.pick [1] rfl) hb Za
   (o_p rfl (Z9c rfl rfl )<|o_p rfl (Z3 Zle rfl rfl u_1 u_0)<|o_n) (fun a g hst hb=>?_)
  refine wp_ret ?_
  refine Zp ?_
  obtain rfl:=Option.some.inj H0
  obtain ⟨u0,hu0,hq0⟩:=Zbf (P:=Tryz.prog) Zle (hst.at 0 rfl)
  exact Z4 rfl hst hb hu0 hq0
 ·replace H0:=Zt hc1 H0
  refine wp_skip ?_
  refine Zq ?_
  obtain ⟨e2,h3,H0⟩:=Zd H0
  refine r_s (L:=[(0,_),(2,_)]) (T:=[⟨[.o 0],_,[],[],[10]⟩,⟨[.p 0 0],_,[],[0],[11]⟩,⟨[.p 1 0],_,[],[0,1],[12]⟩,⟨[.p 2 0,.o 1],_,[3],[0,1,2],[2]⟩]) (F:=[.p 3 0]) (hst.pick [0,1] rfl) hb Za
   (Qm rfl u_0<|o_p rfl (Z2e Tryz.underlying164 Zba5 rfl rfl (Opd.glob gm_0 gk_0) u_0 h3)<|Ql rfl Zle u_0<|o_p rfl (Z3 Zle rfl rfl u_1 u_0)<|o_n) (fun a g hst hb=>?_)
  refine wp_ret ?_
  obtain rfl:=Option.some.inj H0
  obtain ⟨u0,hu0,hq0⟩:=Zbf (P:=Tryz.prog) Zle (hst.at 0 rfl)
  exact Z4 rfl hst hb hu0 hq0
theorem Zif (f2:Nat) (C2:List Pd) (hC2:Free C2) (e2_:Zn Tryz.prog f2) (φ2:Zi → Zi → Option Bool) (hφ2:∀ (y0:Zi) (y1:Zi) (r:Bool),φ2 y0 y1=some r → FnOk Tryz.prog f2 ([(Zz.pd y0),(Zz.pd y1)] ++ C2) (Zbd r)) (a0:List Zi) (a1:List Zi) {r:Bool} (h:Zci a0 a1 φ2=some r):FnOk Tryz.prog 63 [(Zz.sl.pd a0),(Zz.sl.pd a1),(pClo f2 C2 hC2)] (Zbd r):=by
 have H0:=h
 unfold Zci at H0
 clear h
 refine Zbt (N:=32) Tryz.func63 rfl rfl (Qe rfl) rfl rfl (fun a g0 hst hb=>?_)
 refine r_s (T:=[⟨[],_,[],[],[6]⟩]) (F:=[.o 0,.o 1,.o 2]) hst hb Za
  (Qa rfl c_b<|o_n) (fun a g hst hb=>?_)
 refine wp_seq ?_
 refine r_s (T:=[⟨[.o 0],_,[],[],[10]⟩,⟨[.p 0 0],_,[],[0],[11]⟩,⟨[.o 1],_,[],[],[12]⟩,⟨[.p 2 0],_,[],[2],[13]⟩,⟨[.p 1 0,.p 3 0],_,[],Lr 4,[14]⟩]) (F:=[.o 0,.o 1,.o 2,.p 4 0]) hst hb Za
  (Qm rfl u_0<|o_p rfl (Zbv Tryz.underlying36 rfl rfl u_0)<|Qm rfl u_0<|o_p rfl (Zbv Tryz.underlying36 rfl rfl u_0)<|o_p rfl (Zcz rfl rfl u_0 u_1)<|o_n) (fun a g hst hb=>?_)
 refine wp_cond_split (hst.bool 3 rfl) (fun hc1=>?_) (fun hc1=>?_)
 ·replace H0:=Zu hc1 H0
  refine r_s (L:=[]) (T:=[⟨[],_,[],[],[6]⟩]) (F:=[.p 0 0]) (hst.pick [] rfl) hb Za
   (Qa rfl c_b<|o_n) (fun a g hst hb=>?_)
  refine wp_ret ?_
  refine Zp ?_
  obtain rfl:=Option.some.inj H0
  exact Z4 rfl hst hb (Zg (s:=6)) (hst.at 0 rfl)
 ·replace H0:=Zt hc1 H0
  refine wp_skip ?_
  refine Zq ?_
  refine wp_seq ?_
  refine r_s (L:=[(0,_),(1,_),(2,_)]) (T:=[⟨[.o 0],_,[],[],[15]⟩,⟨[.p 0 0],_,[],[0],[16]⟩,⟨[],_,[],[],[17]⟩]) (F:=[.o 1,.o 2,.p 0 0,.p 1 0,.p 2 0]) (hst.pick [0,1,2] rfl) hb Za
   (Qm rfl u_0<|o_p rfl (Zbv Tryz.underlying36 rfl rfl u_0)<|Qm rfl c_i<|o_n) (fun a g hst hb=>?_)
  obtain ⟨z11,hz1,H0⟩:=Zd H0
  refine Zb3 (fun a w=>∃ (g:G),w=g.w ∧ St 32 [] a g ∧ Base g0 g ∧ (.inr ())=z11) ?_ ?_
  ·rintro a w ⟨g,rfl,hst,hb,rfl⟩
   refine Zq ?_
   refine r_s (T:=[⟨[],_,[],[],[6]⟩]) (F:=[.p 0 0]) hst hb Za
    (Qa rfl c_b<|o_n) (fun a g hst hb=>?_)
   refine wp_ret ?_
   obtain rfl:=Option.some.inj H0
   exact Z4 rfl hst hb (Zg (s:=6)) (hst.at 0 rfl)
  ·refine wp_block ?_
   refine wp_loop_ghost (fun n a w=>∃ (x2:Int) (g:G),w=g.w ∧ St 32 [(1,(Zz.sl.pd a1)),(2,(pClo f2 C2 hC2)),(15,(Zz.sl.pd a0)),(16,(pInt .i64 (a0.length:Int))),(17,(pInt .i64 x2))] a g ∧ Base g0 g ∧ Zbs a0 a1 φ2 n x2=some z11) (Int.toNat ((a0.length:Int) - (0:Int)) + 1) ⟨(0:Int),g,rfl,(hst.pick [0,1,2,3,4] rfl),hb,hz1⟩ (fun n a w hI=>?_)
   obtain ⟨x2,g,rfl,hst,hb,H1⟩:=hI
   cases n with
   | zero=>exact absurd H1 (by simp [Zbs])
   | succ n =>
    rw [Zbs] at H1
    refine r_s (T:=[⟨[.o 4,.o 3],_,[],[],[18]⟩]) (F:=[.o 0,.o 1,.o 2,.o 3,.o 4,.p 0 0]) hst hb Za
     (o_p rfl (Zca rfl rfl u_0 u_1)<|o_n) (fun a g hst hb=>?_)
    refine wp_seq ?_
    refine wp_cond_split (hst.bool 5 rfl) (fun hc3=>?_) (fun hc3=>?_)
    ·replace H1:=Zu hc3 H1
     refine wp_skip ?_
     refine Zq ?_
     refine wp_seq ?_
     refine wp_block ?_
     obtain ⟨e4,h5,H1⟩:=Zd H1
     refine r_s (L:=[(1,_),(2,_),(15,_),(16,_),(17,_)]) (T:=[⟨[.o 4],_,[],[],[19]⟩,⟨[.o 2,.o 4],_,[],[],[20]⟩,⟨[.p 1 0],_,[],[1],[21]⟩,⟨[],[(8,(pBox Zz 8 (default:Zi)))],[9],[],[8]⟩,⟨[.p 0 0],_,[],Lr 4,[7]⟩,⟨[.p 2 0,.p 3 0],_,[9],Lr 5,[8]⟩]) (F:=[.o 0,.o 1,.p 4 0,.p 5 0,.o 2,.o 3,.o 4]) (hst.pick [0,1,2,3,4] rfl) hb Za
      (Qm rfl u_0<|o_p rfl (Zbi Tryz.underlying36 Zfb rfl rfl u_0 u_1 h5)<|Ql rfl Zed u_0<|o_p rfl (Zbh (zs:=[.float .f64 0,.string ByteArray.empty]) (by kernel_rfl) (fun g=>Zlj g) rfl rfl)<|Qa rfl u_0<|o_p rfl (Zb6 Zed rfl rfl u_1 u_0)<|o_n) (fun a g hst hb=>?_)
     obtain ⟨e6,h7,H1⟩:=Zd H1
     refine r_s (T:=[⟨[.o 0],_,[],[],[22]⟩,⟨[.o 2],_,[],[],[23]⟩,⟨[.p 0 0,.p 1 0],_,[],[0,1],[24]⟩,⟨[.p 2 0],_,[],[0,1,2],[25]⟩,⟨[],[(9,(pBox Zz 9 (default:Zi)))],[10],[],[9]⟩,⟨[.p 3 0,.p 4 0],_,[10],Lr 5,[9]⟩]) (F:=[.o 0,.o 1,.o 3,.p 5 0,.o 4,.o 5,.o 6]) hst hb Za
      (Qm rfl u_0<|Qm rfl u_0<|o_p rfl (Zbi Tryz.underlying36 Zfb rfl rfl u_0 u_1 h7)<|Ql rfl Zed u_0<|o_p rfl (Zbh (zs:=[.float .f64 0,.string ByteArray.empty]) (by kernel_rfl) (fun g=>Zlj g) rfl rfl)<|o_p rfl (Zb6 Zed rfl rfl u_1 u_0)<|o_n) (fun a g hst hb=>?_)
     obtain ⟨r8,h9,H1⟩:=Zd H1
     refine r_s (T:=[⟨[.o 1],_,[],[],[26]⟩,⟨[.o 2],_,[],[],[27]⟩,⟨[.o 3],_,[],[],[28]⟩,⟨[.p 0 0,.p 1 0,.p 2 0],_,[],[0,1,2],[29]⟩,⟨[.p 3 0],_,[],Lr 4,[30]⟩]) (F:=[.o 0,.o 1,.o 4,.o 5,.o 6,.p 4 0]) hst hb Za
      (Qm rfl u_0<|Ql rfl Zed u_0<|Ql rfl Zed u_0<|o_p rfl (Zrm e2_ (hφ2 _ _ _ h9) rfl rfl u_0 (.cons u_1 (.cons u_2 .nil)))<|Qn rfl u_0<|o_n) (fun a g hst hb=>?_)
     refine wp_cond_split (hst.bool 5 rfl) (fun hc10=>?_) (fun hc10=>?_)
     ·replace H1:=Zu hc10 H1
      refine r_s (L:=[]) (T:=[⟨[],_,[],[],[6]⟩]) (F:=[.p 0 0]) (hst.pick [] rfl) hb Za
       (Qa rfl c_b<|o_n) (fun a g hst hb=>?_)
      refine wp_ret ?_
      refine Z5 ?_
      refine Zp ?_
      refine Zp ?_
      refine Z5 ?_
      refine Zp ?_
      refine Zp ?_
      obtain rfl:=Option.some.inj H1
      obtain rfl:=Option.some.inj H0
      exact Z4 rfl hst hb (Zg (s:=6)) (hst.at 0 rfl)
     ·replace H1:=Zt hc10 H1
      refine wp_skip ?_
      refine Zbc ?_
      refine Zq ?_
      refine r_g (L:=[(1,_),(2,_),(15,_),(16,_),(17,_)]) (T:=[⟨[.o 4],_,[],[],[31]⟩,⟨[.p 0 0],_,[],[0],[17]⟩]) (F:=[.o 0,.o 1,.o 2,.o 3,.p 1 0]) (hst.pick [0,1,2,3,4] rfl) hb Za
       (o_p rfl (Zbz rfl rfl u_0 c_i rfl)<|Qm rfl u_0<|o_n) (fun a g hst hb=>?_)
      exact ⟨n,Nat.lt_succ_self _,(IntKind.i64.wrap (x2 + (1:Int))),g,rfl,(hst.pick [0,1,2,3,4] rfl),hb,H1⟩
    ·replace H1:=Zt hc3 H1
     refine wp_exit ?_
     refine Zby ?_
     refine Zby ?_
     refine Zce ?_
     exact ⟨g,rfl,(hst.pick [] rfl),hb,Option.some.inj H1⟩
theorem Zy6 (a0:Zi) (a1:Zi) {r:Bool} (h:Zkc a0 a1=some r):FnOk Tryz.prog 64 [(Zz.pd a0),(Zz.pd a1)] (Zbd r):=by
 have H0:=h
 unfold Zkc at H0
 clear h
 refine Zbt (N:=17) Tryz.func64 rfl rfl (Qe rfl) rfl rfl (fun a g0 hst hb=>?_)
 refine r_s (T:=[⟨[.o 0],_,[],[],[2]⟩,⟨[.o 1],_,[],[],[3]⟩,⟨[],_,[],[],[4]⟩]) (F:=[.p 0 0,.p 1 0]) hst hb Za
  (Qb rfl u_0<|Qb rfl u_0<|Qa rfl c_b<|o_n) (fun a g hst hb=>?_)
 obtain ⟨r1,h2,H0⟩:=Zd H0
 refine r_s (T:=⟨[.o 0],_,[],[],[5]⟩ :: ⟨[.p 0 0],_,[],[0],[6]⟩ :: ⟨[.o 1],_,[],[],[7]⟩ :: ⟨[.p 2 0],_,[],[2],[8]⟩ :: ⟨[.p 1 0,.p 3 0],_,[],Lr 4,[9]⟩ :: ⟨[.p 4 0],_,[],Lr 5,[10]⟩ :: ⟨[.p 5 0,.o 0],_,[],Lr 6,[11]⟩ :: ⟨[.p 5 0,.p 6 0],_,[],Lr 7,[12]⟩ :: ⟨[.p 5 0,.o 1],_,[],Lr 6,[13]⟩ :: ⟨[.p 5 0,.p 8 0],_,[],[0,1,2,3,4,5,8],[14]⟩ :: ⟨[.p 5 0,.p 7 0,.p 9 0],_,[],Lr 10,[15]⟩ :: ⟨[.p 5 0,.p 10 0],_,[],Lr 11,[16]⟩ :: ⟨[.p 11 0],_,[],Lr 12,[4]⟩ :: []) (F:=[.p 12 0]) hst hb Za
  (Qf rfl Zd7 u_0<|Ql rfl ty_9 u_0<|Qf rfl Zd7 u_0<|Ql rfl ty_9 u_0<|o_p rfl (Zkq rfl rfl u_0 u_1)<|Qm rfl u_0<|o_g (Qg_t rfl (fun hG=>Zh Zfy rfl rfl u_0))<|o_g (Qg_t rfl (fun hG=>Zs Zc0 rfl rfl (Opd.gd hG u_0)))<|o_g (Qg_t rfl (fun hG=>Zh Zfy rfl rfl u_0))<|o_g (Qg_t rfl (fun hG=>Zs Zc0 rfl rfl (Opd.gd hG u_0)))<|o_g (Qg_t rfl (fun hG=>Zl Ztx (Zlk _ _ (Zbn h2 hG)) rfl rfl (.cons (Opd.gd hG u_0) (.cons (Opd.gd hG u_1) .nil))))<|o_p rfl (Zbg rfl rfl u_0 (fun hz=>(Opd.gd hz u_1)))<|Qa rfl u_0<|o_n) (fun a g hst hb=>?_)
 refine wp_ret ?_
 obtain rfl:=Option.some.inj H0
 exact Z4 rfl hst hb (Zg (s:=4)) (hst.at 0 rfl)
theorem Zu1 (a0:Zb) (a1:Zb) {r:Bool} (h:Zn5 a0 a1=some r):FnOk Tryz.prog 42 [(Ze.pd a0),(Ze.pd a1)] (Zbd r):=by
 have H0:=h
 unfold Zn5 at H0
 clear h
 refine Zbt (N:=59) Tryz.func42 rfl rfl (Qe rfl) rfl rfl (fun a g0 hst hb=>?_)
 refine r_s (T:=[⟨[.o 0],_,[],[],[2]⟩,⟨[.o 1],_,[],[],[3]⟩,⟨[],_,[],[],[4]⟩]) (F:=[.p 0 0,.p 1 0]) hst hb Za
  (Qb rfl u_0<|Qb rfl u_0<|Qa rfl c_b<|o_n) (fun a g hst hb=>?_)
 obtain ⟨r1,h2,H0⟩:=Zd H0;obtain ⟨r3,h4,H0⟩:=Zd H0
 refine r_s (T:=⟨[.o 0],_,[],[],[5]⟩ :: ⟨[.p 0 0],_,[],[0],[6]⟩ :: ⟨[.o 1],_,[],[],[7]⟩ :: ⟨[.p 2 0],_,[],[2],[8]⟩ :: ⟨[.p 1 0,.p 3 0],_,[],Lr 4,[9]⟩ :: ⟨[.p 4 0],_,[],Lr 5,[10]⟩ :: ⟨[.p 5 0,.o 0],_,[],Lr 6,[11]⟩ :: ⟨[.p 5 0,.p 6 0],_,[],Lr 7,[12]⟩ :: ⟨[.p 5 0,.o 1],_,[],Lr 6,[13]⟩ :: ⟨[.p 5 0,.p 8 0],_,[],[0,1,2,3,4,5,8],[14]⟩ :: ⟨[.p 5 0,.p 7 0,.p 9 0],_,[],Lr 10,[15]⟩ :: ⟨[.p 5 0,.p 10 0],_,[],Lr 11,[16]⟩ :: ⟨[.p 11 0],_,[],Lr 12,[17]⟩ :: ⟨[.p 12 0,.o 0],_,[],Lr 13,[18]⟩ :: ⟨[.p 12 0,.p 13 0],_,[],Lr 14,[19]⟩ :: ⟨[.p 12 0,.o 1],_,[],Lr 13,[20]⟩ :: ⟨[.p 12 0,.p 15 0],_,[],0 :: 1 :: 2 :: 3 :: 4 :: 5 :: 6 :: 7 :: 8 :: 9 :: 10 :: 11 :: 12 :: 15 :: [],[21]⟩ :: ⟨[.p 12 0,.p 14 0,.p 16 0],_,[],Lr 17,[22]⟩ :: ⟨[.p 12 0,.p 17 0],_,[],Lr 18,[23]⟩ :: ⟨[.p 18 0],_,[],Lr 19,[24]⟩ :: ⟨[.p 19 0,.o 0],_,[],Lr 20,[25]⟩ :: ⟨[.p 19 0,.p 20 0],_,[],Lr 21,[26]⟩ :: ⟨[.p 19 0,.o 1],_,[],Lr 20,[27]⟩ :: ⟨[.p 19 0,.p 22 0],_,[],0 :: 1 :: 2 :: 3 :: 4 :: 5 :: 6 :: 7 :: 8 :: 9 :: 10 :: 11 :: 12 :: 13 :: 14 :: 15 :: 16 :: 17 :: 18 :: 19 :: 22 :: [],[28]⟩ :: ⟨[.p 19 0,.p 21 0,.p 23 0],_,[],Lr 24,[29]⟩ :: ⟨[.p 19 0,.p 24 0],_,[],Lr 25,[30]⟩ :: ⟨[.p 25 0],_,[],Lr 26,[31]⟩ :: ⟨[.p 26 0,.o 0],_,[],Lr 27,[32]⟩ :: ⟨[.p 26 0,.p 27 0],_,[],Lr 28,[33]⟩ :: ⟨[.p 26 0,.o 1],_,[],Lr 27,[34]⟩ :: ⟨[.p 26 0,.p 29 0],_,[],0 :: 1 :: 2 :: 3 :: 4 :: 5 :: 6 :: 7 :: 8 :: 9 :: 10 :: 11 :: 12 :: 13 :: 14 :: 15 :: 16 :: 17 :: 18 :: 19 :: 20 :: 21 :: 22 :: 23 :: 24 :: 25 :: 26 :: 29 :: [],[35]⟩ :: ⟨[.p 26 0,.p 28 0,.p 30 0],_,[],Lr 31,[36]⟩ :: ⟨[.p 26 0,.p 31 0],_,[],Lr 32,[37]⟩ :: ⟨[.p 32 0],_,[],Lr 33,[38]⟩ :: ⟨[.p 33 0,.o 0],_,[],Lr 34,[39]⟩ :: ⟨[.p 33 0,.p 34 0],_,[],Lr 35,[40]⟩ :: ⟨[.p 33 0,.o 1],_,[],Lr 34,[41]⟩ :: ⟨[.p 33 0,.p 36 0],_,[],0 :: 1 :: 2 :: 3 :: 4 :: 5 :: 6 :: 7 :: 8 :: 9 :: 10 :: 11 :: 12 :: 13 :: 14 :: 15 :: 16 :: 17 :: 18 :: 19 :: 20 :: 21 :: 22 :: 23 :: 24 :: 25 :: 26 :: 27 :: 28 :: 29 :: 30 :: 31 :: 32 :: 33 :: 36 :: [],[42]⟩ :: ⟨[.p 33 0,.p 35 0,.p 37 0],_,[],Lr 38,[43]⟩ :: ⟨[.p 33 0,.p 38 0],_,[],Lr 39,[44]⟩ :: ⟨[.p 39 0],_,[],Lr 40,[45]⟩ :: ⟨[.p 40 0,.o 0],_,[],Lr 41,[46]⟩ :: ⟨[.p 40 0,.p 41 0],_,[],Lr 42,[47]⟩ :: ⟨[.p 40 0,.o 1],_,[],Lr 41,[48]⟩ :: ⟨[.p 40 0,.p 43 0],_,[],0 :: 1 :: 2 :: 3 :: 4 :: 5 :: 6 :: 7 :: 8 :: 9 :: 10 :: 11 :: 12 :: 13 :: 14 :: 15 :: 16 :: 17 :: 18 :: 19 :: 20 :: 21 :: 22 :: 23 :: 24 :: 25 :: 26 :: 27 :: 28 :: 29 :: 30 :: 31 :: 32 :: 33 :: 34 :: 35 :: 36 :: 37 :: 38 :: 39 :: 40 :: 43 :: [],[49]⟩ :: ⟨[.p 40 0,.p 42 0,.p 44 0],_,[],Lr 45,[50]⟩ :: ⟨[.p 40 0,.p 45 0],_,[],Lr 46,[51]⟩ :: ⟨[.p 46 0],_,[],Lr 47,[52]⟩ :: ⟨[.p 47 0,.o 0],_,[],Lr 48,[53]⟩ :: ⟨[.p 47 0,.p 48 0],_,[],Lr 49,[54]⟩ :: ⟨[.p 47 0,.o 1],_,[],Lr 48,[55]⟩ :: ⟨[.p 47 0,.p 50 0],_,[],0 :: 1 :: 2 :: 3 :: 4 :: 5 :: 6 :: 7 :: 8 :: 9 :: 10 :: 11 :: 12 :: 13 :: 14 :: 15 :: 16 :: 17 :: 18 :: 19 :: 20 :: 21 :: 22 :: 23 :: 24 :: 25 :: 26 :: 27 :: 28 :: 29 :: 30 :: 31 :: 32 :: 33 :: 34 :: 35 :: 36 :: 37 :: 38 :: 39 :: 40 :: 41 :: 42 :: 43 :: 44 :: 45 :: 46 :: 47 :: 50 :: [],[56]⟩ :: ⟨[.p 47 0,.p 49 0,.p 51 0],_,[],Lr 52,[57]⟩ :: ⟨[.p 47 0,.p 52 0],_,[],Lr 53,[58]⟩ :: ⟨[.p 53 0],_,[],Lr 54,[4]⟩ :: []) (F:=[.p 54 0]) hst hb Za
  (Qf rfl Zgb u_0<|Ql rfl ty_3 u_0<|Qf rfl Zgb u_0<|Ql rfl ty_3 u_0<|o_p rfl (Zbr rfl rfl u_0 u_1)<|Qm rfl u_0<|o_g (Qg_t rfl (fun hG=>Zh Zc2 rfl rfl u_0))<|o_g (Qg_t rfl (fun hG=>Zs ty_2 rfl rfl (Opd.gd hG u_0)))<|o_g (Qg_t rfl (fun hG=>Zh Zc2 rfl rfl u_0))<|o_g (Qg_t rfl (fun hG=>Zs ty_2 rfl rfl (Opd.gd hG u_0)))<|o_g (Qg_t rfl (fun hG=>Zbr rfl rfl (Opd.gd hG u_0) (Opd.gd hG u_1)))<|o_p rfl (Zbg rfl rfl u_0 (fun hz=>(Opd.gd hz u_1)))<|Qm rfl u_0<|o_g (Qg_t rfl (fun hG=>Zh Zjv rfl rfl u_0))<|o_g (Qg_t rfl (fun hG=>Zs ty_2 rfl rfl (Opd.gd hG u_0)))<|o_g (Qg_t rfl (fun hG=>Zh Zjv rfl rfl u_0))<|o_g (Qg_t rfl (fun hG=>Zs ty_2 rfl rfl (Opd.gd hG u_0)))<|o_g (Qg_t rfl (fun hG=>Zbr rfl rfl (Opd.gd hG u_0) (Opd.gd hG u_1)))<|o_p rfl (Zbg rfl rfl u_0 (fun hz=>(Opd.gd hz u_1)))<|Qm rfl u_0<|o_g (Qg_t rfl (fun hG=>Zh Zjw rfl rfl u_0))<|o_g (Qg_t rfl (fun hG=>Zs ty_2 rfl rfl (Opd.gd hG u_0)))<|o_g (Qg_t rfl (fun hG=>Zh Zjw rfl rfl u_0))<|o_g (Qg_t rfl (fun hG=>Zs ty_2 rfl rfl (Opd.gd hG u_0)))<|o_g (Qg_t rfl (fun hG=>Zbr rfl rfl (Opd.gd hG u_0) (Opd.gd hG u_1)))<|o_p rfl (Zbg rfl rfl u_0 (fun hz=>(Opd.gd hz u_1)))<|Qm rfl u_0<|o_g (Qg_t rfl (fun hG=>Zh Zgi rfl rfl u_0))<|o_g (Qg_t rfl (fun hG=>Zs Zc0 rfl rfl (Opd.gd hG u_0)))<|o_g (Qg_t rfl (fun hG=>Zh Zgi rfl rfl u_0))<|o_g (Qg_t rfl (fun hG=>Zs Zc0 rfl rfl (Opd.gd hG u_0)))<|o_g (Qg_t rfl (fun hG=>Zl Ztx (Zlk _ _ (Zbn h2 hG)) rfl rfl (.cons (Opd.gd hG u_0) (.cons (Opd.gd hG u_1) .nil))))<|o_p rfl (Zbg rfl rfl u_0 (fun hz=>(Opd.gd hz u_1)))<|Qm rfl u_0<|o_g (Qg_t rfl (fun hG=>Zh Zg8 rfl rfl u_0))<|o_g (Qg_t rfl (fun hG=>Zs ty_3 rfl rfl (Opd.gd hG u_0)))<|o_g (Qg_t rfl (fun hG=>Zh Zg8 rfl rfl u_0))<|o_g (Qg_t rfl (fun hG=>Zs ty_3 rfl rfl (Opd.gd hG u_0)))<|o_g (Qg_t rfl (fun hG=>Zbr rfl rfl (Opd.gd hG u_0) (Opd.gd hG u_1)))<|o_p rfl (Zbg rfl rfl u_0 (fun hz=>(Opd.gd hz u_1)))<|Qm rfl u_0<|o_g (Qg_t rfl (fun hG=>Zh Zjh rfl rfl u_0))<|o_g (Qg_t rfl (fun hG=>Zs ty_9 rfl rfl (Opd.gd hG u_0)))<|o_g (Qg_t rfl (fun hG=>Zh Zjh rfl rfl u_0))<|o_g (Qg_t rfl (fun hG=>Zs ty_9 rfl rfl (Opd.gd hG u_0)))<|o_g (Qg_t rfl (fun hG=>Zkq rfl rfl (Opd.gd hG u_0) (Opd.gd hG u_1)))<|o_p rfl (Zbg rfl rfl u_0 (fun hz=>(Opd.gd hz u_1)))<|Qm rfl u_0<|o_g (Qg_t rfl (fun hG=>Zh Zcc rfl rfl u_0))<|o_g (Qg_t rfl (fun hG=>Zs Zdc rfl rfl (Opd.gd hG u_0)))<|o_g (Qg_t rfl (fun hG=>Zh Zcc rfl rfl u_0))<|o_g (Qg_t rfl (fun hG=>Zs Zdc rfl rfl (Opd.gd hG u_0)))<|o_g (Qg_t rfl (fun hG=>Zl Zbdj (Zif 64 [] rfl Zbd5 (fun y0 y1=>Zkc y0 y1) (fun y0 y1 r h=>Zy6 y0 y1 h) _ _ (Zbn h4 hG)) rfl rfl (.cons (Opd.gd hG u_0) (.cons (Opd.gd hG u_1) (.cons Opd.fnc .nil)))))<|o_p rfl (Zbg rfl rfl u_0 (fun hz=>(Opd.gd hz u_1)))<|Qa rfl u_0<|o_n) (fun a g hst hb=>?_)
 refine wp_ret ?_
 obtain rfl:=Option.some.inj H0
 exact Z4 rfl hst hb (Zg (s:=4)) (hst.at 0 rfl)
theorem Zkm (a0:Zdo) (a1:Int) {r:Bool} (h:Zdu a0 a1=some r):FnOk Tryz.prog 105 [(Ze7.pd a0),(pInt .u8 a1)] (Zbd r):=by
 have H0:=h
 unfold Zdu at H0
 clear h
 refine Zbt (N:=19) Tryz.func105 rfl rfl (Qe rfl) rfl rfl (fun a g0 hst hb=>?_)
 refine r_s (T:=[⟨[.o 0],_,[],[],[2]⟩,⟨[],_,[],[],[4]⟩]) (F:=[.o 1,.p 0 0]) hst hb Za
  (Qb rfl u_0<|Qa rfl c_b<|o_n) (fun a g hst hb=>?_)
 refine wp_seq ?_
 refine r_s (T:=[⟨[.o 1],_,[],[],[6]⟩,⟨[.p 0 0],_,[],[0],[7]⟩,⟨[.p 1 0],_,[],[0,1],[8]⟩,⟨[],_,[],[],[9]⟩]) (F:=[.o 0,.o 1,.p 2 0,.p 3 0]) hst hb Za
  (Qf rfl Z1m u_0<|Ql rfl ty_9 u_0<|o_p rfl (Zge Tryz.underlying9 rfl rfl u_0)<|Qm rfl c_i<|o_n) (fun a g hst hb=>?_)
 obtain ⟨z6,hz1,H0⟩:=Zd H0
 refine Zb3 (fun a w=>∃ (g:G),w=g.w ∧ St 19 [] a g ∧ Base g0 g ∧ (.inr ())=z6) ?_ ?_
 ·rintro a w ⟨g,rfl,hst,hb,rfl⟩
  refine Zq ?_
  refine r_s (T:=[⟨[],_,[],[],[4]⟩]) (F:=[.p 0 0]) hst hb Za
   (Qa rfl c_b<|o_n) (fun a g hst hb=>?_)
  refine wp_ret ?_
  obtain rfl:=Option.some.inj H0
  exact Z4 rfl hst hb (Zg (s:=4)) (hst.at 0 rfl)
 ·refine wp_block ?_
  refine wp_loop_ghost (fun n a w=>∃ (x1:Int) (g:G),w=g.w ∧ St 19 [(1,(pInt .u8 a1)),(2,(Ze7.ptr a0)),(8,(pInt .i64 (a0.has.size:Int))),(9,(pInt .i64 x1))] a g ∧ Base g0 g ∧ Zi4 a0 a1 n x1=some z6) (Int.toNat ((a0.has.size:Int) - (0:Int)) + 1) ⟨(0:Int),g,rfl,(hst.pick [0,1,2,3] rfl),hb,hz1⟩ (fun n a w hI=>?_)
  obtain ⟨x1,g,rfl,hst,hb,H1⟩:=hI
  cases n with
  | zero=>exact absurd H1 (by simp [Zi4])
  | succ n =>
   rw [Zi4] at H1
   refine r_s (T:=[⟨[.o 3,.o 2],_,[],[],[10]⟩]) (F:=[.o 0,.o 1,.o 2,.o 3,.p 0 0]) hst hb Za
    (o_p rfl (Zca rfl rfl u_0 u_1)<|o_n) (fun a g hst hb=>?_)
   refine wp_seq ?_
   refine wp_cond_split (hst.bool 4 rfl) (fun hc2=>?_) (fun hc2=>?_)
   ·replace H1:=Zu hc2 H1
    refine wp_skip ?_
    refine Zq ?_
    refine wp_seq ?_
    refine wp_block ?_
    refine r_s (L:=[(1,_),(2,_),(8,_),(9,_)]) (T:=[⟨[.o 3],_,[],[],[11]⟩,⟨[.p 0 0],_,[],[0],[5]⟩]) (F:=[.o 0,.o 1,.p 1 0,.o 2,.o 3]) (hst.pick [0,1,2,3] rfl) hb Za
     (Qm rfl u_0<|Qa rfl u_0<|o_n) (fun a g hst hb=>?_)
    obtain ⟨b3,h4,H1⟩:=Zd H1
    refine r_s (T:=[⟨[.o 1],_,[],[],[12]⟩,⟨[.p 0 0],_,[],[0],[13]⟩,⟨[.o 2],_,[],[],[14]⟩,⟨[.p 1 0,.p 2 0],_,[],[0,1,2],[15]⟩,⟨[.o 0],_,[],[],[16]⟩,⟨[.p 3 0,.p 4 0],_,[],Lr 5,[17]⟩]) (F:=[.o 0,.o 1,.o 3,.o 4,.p 5 0]) hst hb Za
     (Qf rfl Z1m u_0<|Ql rfl ty_9 u_0<|Qm rfl u_0<|o_p rfl (Zn6 Tryz.underlying9 rfl rfl u_0 u_1 h4)<|Qm rfl u_0<|o_p rfl (Zbr rfl rfl u_0 u_1)<|o_n) (fun a g hst hb=>?_)
    refine wp_cond_split (hst.bool 4 rfl) (fun hc5=>?_) (fun hc5=>?_)
    ·replace H1:=Zu hc5 H1
     refine r_s (L:=[]) (T:=[⟨[],_,[],[],[4]⟩]) (F:=[.p 0 0]) (hst.pick [] rfl) hb Za
      (Qa rfl c_b<|o_n) (fun a g hst hb=>?_)
     refine wp_ret ?_
     refine Z5 ?_
     refine Zp ?_
     refine Zp ?_
     refine Z5 ?_
     refine Zp ?_
     refine Zp ?_
     obtain rfl:=Option.some.inj H1
     obtain rfl:=Option.some.inj H0
     exact Z4 rfl hst hb (Zg (s:=4)) (hst.at 0 rfl)
    ·replace H1:=Zt hc5 H1
     refine wp_skip ?_
     refine Zbc ?_
     refine Zq ?_
     refine r_g (L:=[(1,_),(2,_),(8,_),(9,_)]) (T:=[⟨[.o 3],_,[],[],[18]⟩,⟨[.p 0 0],_,[],[0],[9]⟩]) (F:=[.o 0,.o 1,.o 2,.p 1 0]) (hst.pick [0,1,2,3] rfl) hb Za
      (o_p rfl (Zbz rfl rfl u_0 c_i rfl)<|Qm rfl u_0<|o_n) (fun a g hst hb=>?_)
     exact ⟨n,Nat.lt_succ_self _,(IntKind.i64.wrap (x1 + (1:Int))),g,rfl,(hst.pick [0,1,2,3] rfl),hb,H1⟩
   ·replace H1:=Zt hc2 H1
    refine wp_exit ?_
    refine Zby ?_
    refine Zby ?_
    refine Zce ?_
    exact ⟨g,rfl,(hst.pick [] rfl),hb,Option.some.inj H1⟩
theorem Z1w (a0:Zm) (a1:Zdo) {r:Bool} (h:Zr4 a0 a1=some r):FnOk Tryz.prog 86 [(Zy.pd a0),(Ze7.pd a1)] (Zbd r):=by
 have H0:=h
 unfold Zr4 at H0
 clear h
 refine Zbt (N:=40) Tryz.func86 rfl rfl (Qe rfl) rfl rfl (fun a g0 hst hb=>?_)
 refine r_s (T:=[⟨[.o 0],_,[],[],[2]⟩,⟨[.o 1],_,[],[],[3]⟩,⟨[],_,[],[],[4]⟩]) (F:=[.p 0 0,.p 1 0]) hst hb Za
  (Qb rfl u_0<|Qb rfl u_0<|Qa rfl c_b<|o_n) (fun a g hst hb=>?_)
 obtain ⟨r1,h2,H0⟩:=Zd H0;obtain ⟨r3,h4,H0⟩:=Zd H0;obtain ⟨r5,h6,H0⟩:=Zd H0;obtain ⟨r7,h8,H0⟩:=Zd H0;obtain ⟨r9,h10,H0⟩:=Zd H0;obtain ⟨r11,h12,H0⟩:=Zd H0
 refine r_s (T:=⟨[.o 1],_,[],[],[5]⟩ :: ⟨[.p 0 0],_,[],[0],[6]⟩ :: ⟨[.p 1 0],_,[],[0,1],[7]⟩ :: ⟨[.p 2 0,.o 0],_,[],[0,1,2],[8]⟩ :: ⟨[.p 2 0,.p 3 0],_,[],Lr 4,[9]⟩ :: ⟨[.p 2 0,.p 4 0],_,[],Lr 5,[10]⟩ :: ⟨[.p 2 0,.p 5 0],_,[],Lr 6,[11]⟩ :: ⟨[.p 6 0],_,[],Lr 7,[12]⟩ :: ⟨[.p 7 0,.o 1],_,[],Lr 8,[13]⟩ :: ⟨[.p 7 0,.p 8 0],_,[],Lr 9,[14]⟩ :: ⟨[.p 7 0,.p 9 0],_,[],Lr 10,[15]⟩ :: ⟨[.p 10 0,.o 0],_,[],Lr 11,[16]⟩ :: ⟨[.p 10 0,.p 11 0],_,[],Lr 12,[17]⟩ :: ⟨[.p 10 0,.p 12 0],_,[],Lr 13,[18]⟩ :: ⟨[.p 7 0,.p 10 0,.p 13 0],_,[],Lr 14,[19]⟩ :: ⟨[.p 7 0,.p 14 0],_,[],Lr 15,[20]⟩ :: ⟨[.p 15 0],_,[],Lr 16,[21]⟩ :: ⟨[.p 16 0,.o 1],_,[],Lr 17,[22]⟩ :: ⟨[.p 16 0,.p 17 0],_,[],Lr 18,[23]⟩ :: ⟨[.p 16 0,.p 18 0],_,[],Lr 19,[24]⟩ :: ⟨[.p 19 0,.o 0],_,[],Lr 20,[25]⟩ :: ⟨[.p 19 0,.p 20 0],_,[],Lr 21,[26]⟩ :: ⟨[.p 19 0,.p 21 0],_,[],Lr 22,[27]⟩ :: ⟨[.p 16 0,.p 19 0,.p 22 0],_,[],Lr 23,[28]⟩ :: ⟨[.p 16 0,.p 23 0],_,[],Lr 24,[29]⟩ :: ⟨[.p 24 0],_,[],Lr 25,[30]⟩ :: ⟨[.p 25 0,.o 1],_,[],Lr 26,[31]⟩ :: ⟨[.p 25 0,.p 26 0],_,[],Lr 27,[32]⟩ :: ⟨[.p 25 0,.p 27 0],_,[],Lr 28,[33]⟩ :: ⟨[.p 28 0,.o 0],_,[],Lr 29,[34]⟩ :: ⟨[.p 28 0,.p 29 0],_,[],Lr 30,[35]⟩ :: ⟨[.p 28 0],_,[],Lr 29,[36]⟩ :: ⟨[.p 28 0,.p 30 0,.p 31 0],_,[],Lr 32,[37]⟩ :: ⟨[.p 25 0,.p 28 0,.p 32 0],_,[],Lr 33,[38]⟩ :: ⟨[.p 25 0,.p 33 0],_,[],Lr 34,[39]⟩ :: ⟨[.p 34 0],_,[],Lr 35,[4]⟩ :: []) (F:=[.p 35 0]) hst hb Za
  (Ql rfl Zle u_0<|o_p rfl (Zl Zvv (Zkm _ _ h2) rfl rfl (.cons u_0 (.cons c_i .nil)))<|Qm rfl u_0<|o_g (Qg_f rfl (fun hG=>Zh Zd4 rfl rfl u_0))<|o_g (Qg_f rfl (fun hG=>Zs ty_2 rfl rfl (Opd.gd hG u_0)))<|o_g (Qg_f rfl (fun hG=>Zbr rfl rfl (Opd.gd hG u_0) c_i))<|o_p rfl (Zbm rfl rfl u_0 (fun hz=>(Opd.gd (bNF hz) u_1)))<|Qm rfl u_0<|o_g (Qg_t rfl (fun hG=>Zs Zle rfl rfl u_0))<|o_g (Qg_t rfl (fun hG=>Zl Zvv (Zkm _ _ (Zbn h4 hG)) rfl rfl (.cons (Opd.gd hG u_0) (.cons c_i .nil))))<|o_g (Qg_t rfl (fun hG=>Z1 rfl rfl (Opd.gd hG u_0)))<|o_g (Qg_fi rfl (fun hG=>Zh Ziu rfl rfl u_0))<|o_g (Qg_fi rfl (fun hG=>Zs Zc0 rfl rfl (Opd.gd hG u_0)))<|o_g (Qg_fi rfl (fun hG=>Zl Ztx (Zlk _ _ (Zbn h6 hG)) rfl rfl (.cons (Opd.gd hG u_0) (.cons c_f .nil))))<|o_g (Qg_t rfl (fun hG=>Zbm rfl rfl (Opd.gd hG u_0) (fun hz=>(Opd.gd (bA hG (bNF hz)) u_1))))<|o_p rfl (Zbg rfl rfl u_0 (fun hz=>(Opd.gd hz u_1)))<|Qm rfl u_0<|o_g (Qg_t rfl (fun hG=>Zs Zle rfl rfl u_0))<|o_g (Qg_t rfl (fun hG=>Zl Zvv (Zkm _ _ (Zbn h8 hG)) rfl rfl (.cons (Opd.gd hG u_0) (.cons c_i .nil))))<|o_g (Qg_t rfl (fun hG=>Z1 rfl rfl (Opd.gd hG u_0)))<|o_g (Qg_fi rfl (fun hG=>Zh Zfs rfl rfl u_0))<|o_g (Qg_fi rfl (fun hG=>Zs ty_9 rfl rfl (Opd.gd hG u_0)))<|o_g (Qg_fi rfl (fun hG=>Zkq rfl rfl (Opd.gd hG u_0) c_s))<|o_g (Qg_t rfl (fun hG=>Zbm rfl rfl (Opd.gd hG u_0) (fun hz=>(Opd.gd (bA hG (bNF hz)) u_1))))<|o_p rfl (Zbg rfl rfl u_0 (fun hz=>(Opd.gd hz u_1)))<|Qm rfl u_0<|o_g (Qg_t rfl (fun hG=>Zs Zle rfl rfl u_0))<|o_g (Qg_t rfl (fun hG=>Zl Zvv (Zkm _ _ (Zbn h10 hG)) rfl rfl (.cons (Opd.gd hG u_0) (.cons c_i .nil))))<|o_g (Qg_t rfl (fun hG=>Z1 rfl rfl (Opd.gd hG u_0)))<|o_g (Qg_fi rfl (fun hG=>Zh Zll rfl rfl u_0))<|o_g (Qg_fi rfl (fun hG=>Zs Zbb rfl rfl (Opd.gd hG u_0)))<|o_g (Qg_fi rfl (fun hG=>Zno rfl rfl ))<|o_g (Qg_fi rfl (fun hG=>Zl Z8b (Zu1 _ _ (Zbn h12 hG)) rfl rfl (.cons (Opd.gd hG u_0) (.cons (Opd.gd hG u_1) .nil))))<|o_g (Qg_t rfl (fun hG=>Zbm rfl rfl (Opd.gd hG u_0) (fun hz=>(Opd.gd (bA hG (bNF hz)) u_1))))<|o_p rfl (Zbg rfl rfl u_0 (fun hz=>(Opd.gd hz u_1)))<|Qa rfl u_0<|o_n) (fun a g hst hb=>?_)
 refine wp_ret ?_
 obtain rfl:=Option.some.inj H0
 exact Z4 rfl hst hb (Zg (s:=4)) (hst.at 0 rfl)
theorem Z13 (a0:Zdo) {r:Int} (h:Zrk a0=some r):FnOk Tryz.prog 87 [(Ze7.pd a0)] (pInt .i64 r):=by
 have H0:=h
 unfold Zrk at H0
 clear h
 refine Zbt (N:=6) Tryz.func87 rfl rfl (Qe rfl) rfl rfl (fun a g0 hst hb=>?_)
 refine r_s (T:=[⟨[.o 0],_,[],[],[1]⟩,⟨[],_,[],[],[2]⟩]) (F:=[.p 0 0]) hst hb Za
  (Qb rfl u_0<|Qa rfl c_i<|o_n) (fun a g hst hb=>?_)
 refine wp_seq ?_
 refine r_s (T:=[⟨[.o 0],_,[],[],[3]⟩,⟨[.p 0 0],_,[],[0],[4]⟩,⟨[.p 1 0],_,[],[0,1],[5]⟩]) (F:=[.p 2 0]) hst hb Za
  (Qf rfl Z1o u_0<|Ql rfl ty_3 u_0<|o_p rfl (Zbr rfl rfl u_0 c_i)<|o_n) (fun a g hst hb=>?_)
 refine wp_cond_split (hst.bool 0 rfl) (fun hc1=>?_) (fun hc1=>?_)
 ·replace H0:=Zu hc1 H0
  refine r_s (L:=[]) (T:=[⟨[],_,[],[],[2]⟩]) (F:=[.p 0 0]) (hst.pick [] rfl) hb Za
   (Qa rfl c_i<|o_n) (fun a g hst hb=>?_)
  refine wp_ret ?_
  refine Zp ?_
  obtain rfl:=Option.some.inj H0
  exact Z4 rfl hst hb (Zg (s:=2)) (hst.at 0 rfl)
 ·replace H0:=Zt hc1 H0
  refine wp_skip ?_
  refine Zq ?_
  refine r_s (L:=[]) (T:=[⟨[],_,[],[],[2]⟩]) (F:=[.p 0 0]) (hst.pick [] rfl) hb Za
   (Qa rfl c_i<|o_n) (fun a g hst hb=>?_)
  refine wp_ret ?_
  obtain rfl:=Option.some.inj H0
  exact Z4 rfl hst hb (Zg (s:=2)) (hst.at 0 rfl)
theorem Ztg (a0:Zm) {r:Int} (h:Zf7 a0=some r):FnOk Tryz.prog 57 [(Zy.pd a0)] (pInt .i64 r):=by
 have H0:=h
 unfold Zf7 at H0
 clear h
 refine Zbt (N:=64) Tryz.func57 rfl rfl (Qe rfl) rfl rfl (fun a g0 hst hb=>?_)
 refine r_s (T:=[⟨[.o 0],_,[],[],[1]⟩,⟨[],_,[],[],[2]⟩]) (F:=[.p 0 0]) hst hb Za
  (Qb rfl u_0<|Qa rfl c_i<|o_n) (fun a g hst hb=>?_)
 obtain ⟨r1,h2,H0⟩:=Zd H0
 refine r_s (T:=[⟨[.o 0],_,[],[],[4]⟩,⟨[.p 0 0],_,[],[0],[5]⟩,⟨[.p 1 0],_,[],[0,1],[6]⟩,⟨[],[(3,(pBox Ze7 3 (default:Zdo)))],[4],[],[3]⟩,⟨[.p 2 0,.p 3 0],_,[4],Lr 4,[3]⟩]) (F:=[.o 0,.p 4 0]) hst hb Za
  (Qf rfl Zde u_0<|Ql rfl ty_3 u_0<|o_p rfl (Zl Z8y (Zx3 _ h2) rfl rfl (.cons u_0 .nil))<|o_p rfl (Zbh (zs:=[.string ByteArray.empty,.int .i64 0,.string ByteArray.empty]) (by kernel_rfl) (fun g=>Zuw g) rfl rfl)<|o_p rfl (Zb6 Zle rfl rfl u_1 u_0)<|o_n) (fun a g hst hb=>?_)
 refine wp_seq ?_
 refine wp_block ?_
 refine r_s (T:=[⟨[.o 1],_,[],[],[8]⟩,⟨[.p 0 0],_,[],[0],[9]⟩,⟨[.p 1 0],_,[],[0,1],[10]⟩,⟨[.p 2 0],_,[],[0,1,2],[7]⟩]) (F:=[.o 0,.o 1,.p 3 0]) hst hb Za
  (Qf rfl Z7i u_0<|Ql rfl ty_9 u_0<|o_p rfl (Zkq rfl rfl u_0 c_s)<|Qa rfl u_0<|o_n) (fun a g hst hb=>?_)
 refine wp_cond_split (hst.bool 2 rfl) (fun hc3=>?_) (fun hc3=>?_)
 ·replace H0:=Zu hc3 H0
  refine r_s (L:=[]) (T:=[⟨[],_,[],[],[2]⟩]) (F:=[.p 0 0]) (hst.pick [] rfl) hb Za
   (Qa rfl c_i<|o_n) (fun a g hst hb=>?_)
  refine wp_ret ?_
  refine Z5 ?_
  refine Zp ?_
  obtain rfl:=Option.some.inj H0
  exact Z4 rfl hst hb (Zg (s:=2)) (hst.at 0 rfl)
 ·replace H0:=Zt hc3 H0
  refine r_s (L:=[(1,_),(3,_)]) (T:=[⟨[.o 0],_,[],[],[12]⟩,⟨[.p 0 0],_,[],[0],[13]⟩,⟨[.p 1 0],_,[],[0,1],[14]⟩,⟨[.p 2 0],_,[],[0,1,2],[15]⟩,⟨[.p 3 0,.o 0],_,[],Lr 4,[16]⟩,⟨[.p 3 0,.p 4 0],_,[],Lr 5,[17]⟩,⟨[.p 3 0,.p 5 0],_,[],Lr 6,[18]⟩,⟨[.p 3 0,.p 6 0],_,[],Lr 7,[19]⟩,⟨[.p 3 0,.p 7 0],_,[],Lr 8,[20]⟩,⟨[.p 8 0],_,[],Lr 9,[11]⟩]) (F:=[.o 0,.o 1,.p 9 0]) (hst.pick [0,1] rfl) hb Za
   (Qf rfl Zhj u_0<|Ql rfl ty_9 u_0<|o_p rfl (Zkq rfl rfl u_0 c_s)<|Qm rfl u_0<|o_g (Qg_f rfl (fun hG=>Zh Zhj rfl rfl u_0))<|o_g (Qg_f rfl (fun hG=>Zs ty_9 rfl rfl (Opd.gd hG u_0)))<|o_g (Qg_f rfl (fun hG=>Zge Tryz.underlying9 rfl rfl (Opd.gd hG u_0)))<|o_g (Qg_f rfl (fun hG=>Zcv rfl rfl (Opd.gd hG u_0) c_i))<|o_p rfl (Zbm rfl rfl u_0 (fun hz=>(Opd.gd (bNF hz) u_1)))<|Qa rfl u_0<|o_n) (fun a g hst hb=>?_)
  refine wp_cond_split (hst.bool 2 rfl) (fun hc4=>?_) (fun hc4=>?_)
  ·replace H0:=Zu hc4 H0
   refine r_s (L:=[]) (T:=[⟨[],_,[],[],[2]⟩]) (F:=[.p 0 0]) (hst.pick [] rfl) hb Za
    (Qa rfl c_i<|o_n) (fun a g hst hb=>?_)
   refine wp_ret ?_
   refine Z5 ?_
   refine Zp ?_
   obtain rfl:=Option.some.inj H0
   exact Z4 rfl hst hb (Zg (s:=2)) (hst.at 0 rfl)
  ·replace H0:=Zt hc4 H0
   obtain ⟨r5,h6,H0⟩:=Zd H0
   refine r_s (L:=[(1,_),(3,_)]) (T:=[⟨[.o 0],_,[],[],[22]⟩,⟨[.o 1],_,[],[],[23]⟩,⟨[.p 0 0,.p 1 0],_,[],[0,1],[24]⟩,⟨[.p 2 0],_,[],[0,1,2],[25]⟩,⟨[.p 3 0],_,[],Lr 4,[21]⟩]) (F:=[.o 0,.o 1,.p 4 0]) (hst.pick [0,1] rfl) hb Za
    (Ql rfl Zhb u_0<|Ql rfl Zle u_0<|o_p rfl (Zl Zbd0 (Z1w _ _ h6) rfl rfl (.cons u_0 (.cons u_1 .nil)))<|Qn rfl u_0<|Qa rfl u_0<|o_n) (fun a g hst hb=>?_)
   refine wp_cond_split (hst.bool 2 rfl) (fun hc7=>?_) (fun hc7=>?_)
   ·replace H0:=Zu hc7 H0
    refine r_s (L:=[]) (T:=[⟨[],_,[],[],[2]⟩]) (F:=[.p 0 0]) (hst.pick [] rfl) hb Za
     (Qa rfl c_i<|o_n) (fun a g hst hb=>?_)
    refine wp_ret ?_
    refine Z5 ?_
    refine Zp ?_
    obtain rfl:=Option.some.inj H0
    exact Z4 rfl hst hb (Zg (s:=2)) (hst.at 0 rfl)
   ·replace H0:=Zt hc7 H0
    obtain ⟨r8,h9,H0⟩:=Zd H0
    refine r_s (L:=[(1,_),(3,_)]) (T:=[⟨[.o 0],_,[],[],[27]⟩,⟨[.p 0 0],_,[],[0],[28]⟩,⟨[.p 1 0],_,[],[0,1],[29]⟩,⟨[.o 1],_,[],[],[30]⟩,⟨[.p 3 0],_,[],[3],[31]⟩,⟨[.p 2 0,.p 4 0],_,[],Lr 5,[32]⟩,⟨[.p 5 0],_,[],Lr 6,[26]⟩]) (F:=[.o 0,.p 6 0]) (hst.pick [0,1] rfl) hb Za
     (Qf rfl Zfs u_0<|Ql rfl ty_9 u_0<|o_p rfl (Zge Tryz.underlying9 rfl rfl u_0)<|Ql rfl Zle u_0<|o_p rfl (Zl Zbcq (Z13 _ h9) rfl rfl (.cons u_0 .nil))<|o_p rfl (Zcv rfl rfl u_0 u_1)<|Qa rfl u_0<|o_n) (fun a g hst hb=>?_)
    refine wp_cond_split (hst.bool 1 rfl) (fun hc10=>?_) (fun hc10=>?_)
    ·replace H0:=Zu hc10 H0
     refine r_s (L:=[]) (T:=[⟨[],_,[],[],[2]⟩]) (F:=[.p 0 0]) (hst.pick [] rfl) hb Za
      (Qa rfl c_i<|o_n) (fun a g hst hb=>?_)
     refine wp_ret ?_
     refine Z5 ?_
     refine Zp ?_
     obtain rfl:=Option.some.inj H0
     exact Z4 rfl hst hb (Zg (s:=2)) (hst.at 0 rfl)
    ·replace H0:=Zt hc10 H0
     refine r_s (L:=[(1,_)]) (T:=⟨[.o 0],_,[],[],[34]⟩ :: ⟨[.p 0 0],_,[],[0],[35]⟩ :: ⟨[.p 1 0],_,[],[0,1],[36]⟩ :: ⟨[.p 2 0],_,[],[0,1,2],[37]⟩ :: ⟨[.p 3 0,.o 0],_,[],Lr 4,[38]⟩ :: ⟨[.p 3 0,.p 4 0],_,[],Lr 5,[39]⟩ :: ⟨[.p 3 0,.p 5 0],_,[],Lr 6,[40]⟩ :: ⟨[.p 3 0,.p 6 0],_,[],Lr 7,[41]⟩ :: ⟨[.p 7 0],_,[],Lr 8,[42]⟩ :: ⟨[.p 8 0,.o 0],_,[],Lr 9,[43]⟩ :: ⟨[.p 8 0,.p 9 0],_,[],Lr 10,[44]⟩ :: ⟨[.p 8 0,.p 10 0],_,[],Lr 11,[45]⟩ :: ⟨[.p 8 0,.p 11 0],_,[],Lr 12,[46]⟩ :: ⟨[.p 12 0,.o 0],_,[],Lr 13,[47]⟩ :: ⟨[.p 12 0,.p 13 0],_,[],Lr 14,[48]⟩ :: ⟨[.p 12 0,.p 14 0],_,[],Lr 15,[49]⟩ :: ⟨[.p 8 0,.p 12 0,.p 15 0],_,[],Lr 16,[50]⟩ :: ⟨[.p 8 0,.p 16 0],_,[],Lr 17,[51]⟩ :: ⟨[.p 17 0],_,[],Lr 18,[33]⟩ :: []) (F:=[.o 0,.p 18 0]) (hst.pick [0] rfl) hb Za
      (Qf rfl Zde u_0<|Ql rfl ty_3 u_0<|o_p rfl (Zbr rfl rfl u_0 c_i)<|Qm rfl u_0<|o_g (Qg_f rfl (fun hG=>Zh Zde rfl rfl u_0))<|o_g (Qg_f rfl (fun hG=>Zs ty_3 rfl rfl (Opd.gd hG u_0)))<|o_g (Qg_f rfl (fun hG=>Zbr rfl rfl (Opd.gd hG u_0) c_i))<|o_p rfl (Zbm rfl rfl u_0 (fun hz=>(Opd.gd (bNF hz) u_1)))<|Qm rfl u_0<|o_g (Qg_t rfl (fun hG=>Zh Zd4 rfl rfl u_0))<|o_g (Qg_t rfl (fun hG=>Zs ty_2 rfl rfl (Opd.gd hG u_0)))<|o_g (Qg_t rfl (fun hG=>Zca rfl rfl (Opd.gd hG u_0) c_i))<|o_g (Qg_t rfl (fun hG=>Z1 rfl rfl (Opd.gd hG u_0)))<|o_g (Qg_fi rfl (fun hG=>Zh Zd4 rfl rfl u_0))<|o_g (Qg_fi rfl (fun hG=>Zs ty_2 rfl rfl (Opd.gd hG u_0)))<|o_g (Qg_fi rfl (fun hG=>Zcv rfl rfl (Opd.gd hG u_0) c_i))<|o_g (Qg_t rfl (fun hG=>Zbm rfl rfl (Opd.gd hG u_0) (fun hz=>(Opd.gd (bA hG (bNF hz)) u_1))))<|o_p rfl (Zbg rfl rfl u_0 (fun hz=>(Opd.gd hz u_1)))<|Qa rfl u_0<|o_n) (fun a g hst hb=>?_)
     refine wp_cond_split (hst.bool 1 rfl) (fun hc11=>?_) (fun hc11=>?_)
     ·replace H0:=Zu hc11 H0
      refine r_s (L:=[]) (T:=[⟨[],_,[],[],[2]⟩]) (F:=[.p 0 0]) (hst.pick [] rfl) hb Za
       (Qa rfl c_i<|o_n) (fun a g hst hb=>?_)
      refine wp_ret ?_
      refine Z5 ?_
      refine Zp ?_
      obtain rfl:=Option.some.inj H0
      exact Z4 rfl hst hb (Zg (s:=2)) (hst.at 0 rfl)
     ·replace H0:=Zt hc11 H0
      obtain ⟨r12,h13,H0⟩:=Zd H0
      refine r_s (L:=[(1,_)]) (T:=[⟨[.o 0],_,[],[],[53]⟩,⟨[.p 0 0],_,[],[0],[54]⟩,⟨[.p 1 0],_,[],[0,1],[55]⟩,⟨[.p 2 0],_,[],[0,1,2],[56]⟩,⟨[.p 3 0],_,[],Lr 4,[52]⟩]) (F:=[.o 0,.p 4 0]) (hst.pick [0] rfl) hb Za
       (Qf rfl Ziu u_0<|Ql rfl Zc0 u_0<|o_p rfl (Zl Z4i (Zo8 _ h13) rfl rfl (.cons u_0 .nil))<|Qn rfl u_0<|Qa rfl u_0<|o_n) (fun a g hst hb=>?_)
      refine wp_cond_split (hst.bool 1 rfl) (fun hc14=>?_) (fun hc14=>?_)
      ·replace H0:=Zu hc14 H0
       refine r_s (L:=[]) (T:=[⟨[],_,[],[],[2]⟩]) (F:=[.p 0 0]) (hst.pick [] rfl) hb Za
        (Qa rfl c_i<|o_n) (fun a g hst hb=>?_)
       refine wp_ret ?_
       refine Z5 ?_
       refine Zp ?_
       obtain rfl:=Option.some.inj H0
       exact Z4 rfl hst hb (Zg (s:=2)) (hst.at 0 rfl)
      ·replace H0:=Zt hc14 H0
       refine r_s (L:=[(1,_)]) (T:=[⟨[.o 0],_,[],[],[58]⟩,⟨[.p 0 0],_,[],[0],[59]⟩,⟨[.p 1 0],_,[],[0,1],[60]⟩,⟨[.p 2 0],_,[],[0,1,2],[57]⟩]) (F:=[.o 0,.p 3 0]) (hst.pick [0] rfl) hb Za
        (Qf rfl Zde u_0<|Ql rfl ty_3 u_0<|o_p rfl (Zbr rfl rfl u_0 c_i)<|Qa rfl u_0<|o_n) (fun a g hst hb=>?_)
       refine wp_cond_split (hst.bool 1 rfl) (fun hc15=>?_) (fun hc15=>?_)
       ·replace H0:=Zu hc15 H0
        obtain ⟨r16,h17,H0⟩:=Zd H0
        refine r_s (L:=[(1,_)]) (T:=[⟨[.o 0],_,[],[],[61]⟩,⟨[.p 0 0],_,[],[0],[62]⟩,⟨[.p 1 0],_,[],[0,1],[63]⟩,⟨[.p 2 0],_,[],[0,1,2],[2]⟩]) (F:=[.p 3 0]) (hst.pick [0] rfl) hb Za
         (Qf rfl Zll u_0<|Ql rfl Zbb u_0<|o_p rfl (Zl Z4d (Zp4 _ h17) rfl rfl (.cons u_0 .nil))<|Qa rfl u_0<|o_n) (fun a g hst hb=>?_)
        refine wp_ret ?_
        refine Z5 ?_
        refine Zp ?_
        obtain rfl:=Option.some.inj H0
        exact Z4 rfl hst hb (Zg (s:=2)) (hst.at 0 rfl)
       ·replace H0:=Zt hc15 H0
        refine wp_skip ?_
        refine Zbc ?_
        refine Zq ?_
        refine r_s (L:=[]) (T:=[⟨[],_,[],[],[2]⟩]) (F:=[.p 0 0]) (hst.pick [] rfl) hb Za
         (Qa rfl c_i<|o_n) (fun a g hst hb=>?_)
        refine wp_ret ?_
        obtain rfl:=Option.some.inj H0
        exact Z4 rfl hst hb (Zg (s:=2)) (hst.at 0 rfl)
theorem Zzd (a0:Zbk) {r:Int × Int} (h:Ze3 a0=some r):FnOk Tryz.prog 36 [(Zb5.pd a0)] (pTup [(pInt .i64 r.1),(pInt .i64 r.2)]):=by
 have H0:=h
 unfold Ze3 at H0
 clear h
 refine Zbt (N:=33) Tryz.func36 rfl rfl (Qe rfl) rfl rfl (fun a g0 hst hb=>?_)
 refine r_s (T:=[⟨[.o 0],_,[],[],[1]⟩,⟨[],_,[],[],[2]⟩,⟨[],_,[],[1],[3]⟩]) (F:=[.p 0 0]) hst hb Za
  (Qb rfl u_0<|Qa rfl c_i<|Qa rfl c_i<|o_n) (fun a g hst hb=>?_)
 refine wp_seq ?_
 refine r_s (T:=[⟨[.o 0],_,[],[],[7]⟩,⟨[.p 0 0],_,[],[0],[8]⟩,⟨[.p 1 0],_,[],[0,1],[9]⟩,⟨[.p 2 0],_,[],[0,1,2],[10]⟩,⟨[.p 3 0],_,[],Lr 4,[11]⟩,⟨[.p 4 0,.o 0],_,[],Lr 5,[12]⟩,⟨[.p 4 0,.p 5 0],_,[],Lr 6,[13]⟩,⟨[.p 4 0,.p 6 0],_,[],Lr 7,[14]⟩,⟨[.p 4 0,.p 7 0],_,[],Lr 8,[15]⟩,⟨[.p 4 0,.p 8 0],_,[],Lr 9,[16]⟩]) (F:=[.o 0,.p 9 0]) hst hb Za
  (Qf rfl Zh6 u_0<|Ql rfl Zkk u_0<|o_p rfl (Zbv Tryz.underlying23 rfl rfl u_0)<|o_p rfl (Zbr rfl rfl u_0 c_i)<|Qm rfl u_0<|o_g (Qg_f rfl (fun hG=>Zh Zh6 rfl rfl u_0))<|o_g (Qg_f rfl (fun hG=>Zs Zkk rfl rfl (Opd.gd hG u_0)))<|o_g (Qg_f rfl (fun hG=>Zbv Tryz.underlying23 rfl rfl (Opd.gd hG u_0)))<|o_g (Qg_f rfl (fun hG=>Zcv rfl rfl (Opd.gd hG u_0) c_i))<|o_p rfl (Zbm rfl rfl u_0 (fun hz=>(Opd.gd (bNF hz) u_1)))<|o_n) (fun a g hst hb=>?_)
 refine wp_cond_split (hst.bool 1 rfl) (fun hc1=>?_) (fun hc1=>?_)
 ·replace H0:=Zu hc1 H0
  refine r_s (L:=[]) (T:=[⟨[],_,[],[],[2]⟩,⟨[],_,[],[0],[3]⟩]) (F:=[.p 0 0,.p 1 0]) (hst.pick [] rfl) hb Za
   (Qa rfl c_i<|Qa rfl c_i<|o_n) (fun a g hst hb=>?_)
  refine wp_ret ?_
  refine Zp ?_
  obtain rfl:=Option.some.inj H0
  exact Zdt rfl hst hb (Zg (s:=2)) (Zg (s:=3)) (Zcr (hst.at 0 rfl) (hst.at 1 rfl))
 ·replace H0:=Zt hc1 H0
  refine wp_skip ?_
  refine Zq ?_
  refine wp_seq ?_
  refine r_s (L:=[(1,_)]) (T:=[⟨[.o 0],_,[],[],[17]⟩,⟨[.p 0 0],_,[],[0],[18]⟩,⟨[.p 1 0],_,[],[0,1],[19]⟩,⟨[],_,[],[],[20]⟩]) (F:=[.p 1 0,.p 2 0,.p 3 0]) (hst.pick [0] rfl) hb Za
   (Qf rfl Zh6 u_0<|Ql rfl Zkk u_0<|o_p rfl (Zbv Tryz.underlying23 rfl rfl u_0)<|Qm rfl c_i<|o_n) (fun a g hst hb=>?_)
  obtain ⟨z9,hz1,H0⟩:=Zd H0
  refine Zb3 (fun a w=>∃ (g:G),w=g.w ∧ St 33 [] a g ∧ Base g0 g ∧ (.inr ())=z9) ?_ ?_
  ·rintro a w ⟨g,rfl,hst,hb,rfl⟩
   refine Zq ?_
   refine r_s (T:=[⟨[],_,[],[],[2]⟩,⟨[],_,[],[0],[3]⟩]) (F:=[.p 0 0,.p 1 0]) hst hb Za
    (Qa rfl c_i<|Qa rfl c_i<|o_n) (fun a g hst hb=>?_)
   refine wp_ret ?_
   obtain rfl:=Option.some.inj H0
   exact Zdt rfl hst hb (Zg (s:=2)) (Zg (s:=3)) (Zcr (hst.at 0 rfl) (hst.at 1 rfl))
  ·refine wp_block ?_
   refine wp_loop_ghost (fun n a w=>∃ (x2:Int) (g:G),w=g.w ∧ St 33 [(18,(Zy.sl.pd a0.Acts)),(19,(pInt .i64 (a0.Acts.length:Int))),(20,(pInt .i64 x2))] a g ∧ Base g0 g ∧ Zef a0 n x2=some z9) (Int.toNat ((a0.Acts.length:Int) - (0:Int)) + 1) ⟨(0:Int),g,rfl,(hst.pick [0,1,2] rfl),hb,hz1⟩ (fun n a w hI=>?_)
   obtain ⟨x2,g,rfl,hst,hb,H1⟩:=hI
   cases n with
   | zero=>exact absurd H1 (by simp [Zef])
   | succ n =>
    rw [Zef] at H1
    refine r_s (T:=[⟨[.o 2,.o 1],_,[],[],[21]⟩]) (F:=[.o 0,.o 1,.o 2,.p 0 0]) hst hb Za
     (o_p rfl (Zca rfl rfl u_0 u_1)<|o_n) (fun a g hst hb=>?_)
    refine wp_seq ?_
    refine wp_cond_split (hst.bool 3 rfl) (fun hc3=>?_) (fun hc3=>?_)
    ·replace H1:=Zu hc3 H1
     refine wp_skip ?_
     refine Zq ?_
     refine wp_seq ?_
     refine wp_block ?_
     obtain ⟨e4,h5,H1⟩:=Zd H1
     refine r_s (L:=[(18,_),(19,_),(20,_)]) (T:=[⟨[.o 2],_,[],[],[22]⟩,⟨[.o 0,.o 2],_,[],[],[23]⟩,⟨[.p 1 0],_,[],[1],[24]⟩,⟨[],[(5,(pBox Zy 5 (default:Zm)))],[6],[],[5]⟩,⟨[.p 0 0],_,[],Lr 4,[4]⟩,⟨[.p 2 0,.p 3 0],_,[6],Lr 5,[5]⟩]) (F:=[.p 4 0,.p 5 0,.o 0,.o 1,.o 2]) (hst.pick [0,1,2] rfl) hb Za
      (Qm rfl u_0<|o_p rfl (Zbi Tryz.underlying23 Znr rfl rfl u_0 u_1 h5)<|Ql rfl Zhb u_0<|o_p rfl (Zbh (zs:=[.int .i64 0,.string ByteArray.empty,.int .i64 0,.float .f64 0,.string ByteArray.empty,.int .i64 0,.int .i64 0,.int .i64 0,.int .i64 0,.float .f64 0,.int .i64 0,.string ByteArray.empty,.slice none 0 0,.bool false]) (by kernel_rfl) (fun g=>Zpf g) rfl rfl)<|Qa rfl u_0<|o_p rfl (Zb6 Zhb rfl rfl u_1 u_0)<|o_n) (fun a g hst hb=>?_)
     obtain ⟨r6,h7,H1⟩:=Zd H1
     refine r_s (T:=[⟨[.o 1],_,[],[],[25]⟩,⟨[.p 0 0],_,[],[0],[26]⟩,⟨[.p 1 0],_,[],[0,1],[6]⟩]) (F:=[.o 0,.p 2 0,.o 2,.o 3,.o 4]) hst hb Za
      (Ql rfl Zhb u_0<|o_p rfl (Zl Z8w (Ztg _ h7) rfl rfl (.cons u_0 .nil))<|Qa rfl u_0<|o_n) (fun a g hst hb=>?_)
     refine r_s (T:=[⟨[.o 1],_,[],[],[27]⟩,⟨[.p 0 0],_,[],[0],[28]⟩]) (F:=[.o 0,.o 1,.o 2,.o 3,.o 4,.p 1 0]) hst hb Za
      (Qm rfl u_0<|o_p rfl (Zcz rfl rfl u_0 c_i)<|o_n) (fun a g hst hb=>?_)
     refine wp_cond_split (hst.bool 5 rfl) (fun hc8=>?_) (fun hc8=>?_)
     ·replace H1:=Zu hc8 H1
      refine r_s (L:=[(4,_),(6,_)]) (T:=[⟨[.o 1],_,[],[],[29]⟩,⟨[.o 0],_,[],[],[30]⟩,⟨[.p 1 0],_,[],[1],[31]⟩,⟨[.p 0 0],_,[],[0],[2]⟩,⟨[.p 2 0],_,[],Lr 4,[3]⟩]) (F:=[.p 3 0,.p 4 0]) (hst.pick [0,1] rfl) hb Za
       (Qm rfl u_0<|Qm rfl u_0<|o_p rfl (Zbz rfl rfl u_0 c_i rfl)<|Qa rfl u_0<|Qa rfl u_0<|o_n) (fun a g hst hb=>?_)
      refine wp_ret ?_
      refine Z5 ?_
      refine Zp ?_
      refine Zp ?_
      refine Z5 ?_
      refine Zp ?_
      refine Zp ?_
      obtain rfl:=Option.some.inj H1
      obtain rfl:=Option.some.inj H0
      exact Zdt rfl hst hb (Zg (s:=2)) (Zg (s:=3)) (Zcr (hst.at 0 rfl) (hst.at 1 rfl))
     ·replace H1:=Zt hc8 H1
      refine wp_skip ?_
      refine Zbc ?_
      refine Zq ?_
      refine r_g (L:=[(18,_),(19,_),(20,_)]) (T:=[⟨[.o 2],_,[],[],[32]⟩,⟨[.p 0 0],_,[],[0],[20]⟩]) (F:=[.o 0,.o 1,.p 1 0]) (hst.pick [2,3,4] rfl) hb Za
       (o_p rfl (Zbz rfl rfl u_0 c_i rfl)<|Qm rfl u_0<|o_n) (fun a g hst hb=>?_)
      exact ⟨n,Nat.lt_succ_self _,(IntKind.i64.wrap (x2 + (1:Int))),g,rfl,(hst.pick [0,1,2] rfl),hb,H1⟩
    ·replace H1:=Zt hc3 H1
     refine wp_exit ?_
     refine Zby ?_
     refine Zby ?_
     refine Zce ?_
     exact ⟨g,rfl,(hst.pick [] rfl),hb,Option.some.inj H1⟩
theorem Zqo (a0:Zbk) (a1:Zk) (a2:List ByteArray) {r:Z0} (h:Zm0 a0 a1 a2=some r):Z0t Tryz.prog 12 [(Zb5.pd a0),(Zx.pd a1),(Kd.str.sl.pd a2)] Zcq r:=by
 have H0:=h
 unfold Zm0 at H0
 clear h
 refine Z44 (N:=34) Tryz.func12 rfl rfl (Qe rfl) rfl (fun a g0 h0 hst hb=>?_)
 refine r_s (T:=[⟨[.o 0],_,[],[],[3]⟩,⟨[.o 1],_,[],[],[4]⟩,⟨[],_,[],[],[6]⟩]) (F:=[.o 2,.p 0 0,.p 1 0]) hst hb Za
  (Qb rfl u_0<|Qb rfl u_0<|o_p rfl (Z1b (.inr rfl))<|o_n) (fun a g hst hb=>?_)
 obtain ⟨r1,h2,H0⟩:=Zd H0;obtain ⟨r3,h4,H0⟩:=Zd H0
 refine wp_seq ?_
 refine r_g (T:=[⟨[.o 1],_,[],[],[10]⟩,⟨[.p 0 0],_,[],[0],[11]⟩,⟨[.o 0],_,[],[],[12]⟩,⟨[.p 2 0],_,[],[0,1,2],[13]⟩,⟨[.o 2],_,[],[],[14]⟩,⟨[.p 1 0,.p 3 0,.p 4 0],[(15,(Zbo.pd (Zb7 ({ d:=r1,split:=r3,now:=a1,out:=(default:Zw),over:=false }:Z0) (none,0,0))))],[],Lr 5,[15]⟩,⟨[.p 5 0],[(16,(Zom none Zbo Zb7 (hpL (pRow Zj 68 516 (Zdp ({ d:=r1,split:=r3,now:=a1,out:=(default:Zw),over:=false }:Z0)))) 16 ({ d:=r1,split:=r3,now:=a1,out:=(default:Zw),over:=false }:Z0)))],[17],Lr 6,[16]⟩,⟨[.p 6 0],_,[],Lr 7,[7]⟩]) (F:=[.o 1,.p 7 0]) hst hb Za
  (Ql rfl Zol u_0<|o_p rfl (Zl Z8x (Zr8 _ h2) rfl rfl (.cons u_0 .nil))<|Qm rfl u_0<|o_p rfl (Zl Zbc6 (Znx _ h4) rfl rfl (.cons u_0 .nil))<|Ql rfl Zbu u_0<|o_p rfl (Z0k rfl rfl u_0 u_1 u_2)<|o_p rfl (Zbao (s0:=(none,0,0)) (fun g=>Zma 516 g) rfl rfl u_0)<|Qa rfl u_0<|o_n) (fun a g hst hb=>?_)
 obtain ⟨b0,hst⟩:=Z45 (i:=1) (s:=7) (m:=1002) rfl hst
 replace hst:St 34 [(3,(Zb5.ptr a0)),(7,(pEq (ptrB b0 0))),(1002,(pSJ Zbo Zb7 (hpL (pRow Zj 68 516 (Zdp ({ d:=r1,split:=r3,now:=a1,out:=(default:Zw),over:=false }:Z0)))) 16 b0 ({ d:=r1,split:=r3,now:=a1,out:=(default:Zw),over:=false }:Z0)))] a g:=hst
 refine Zq ?_
 refine wp_seq ?_
 obtain ⟨r5,h6,H0⟩:=Zd H0
 refine r_s (T:=[⟨[.o 0],_,[],[],[18]⟩,⟨[.p 0 0],_,[],[0],[19]⟩,⟨[.p 1 0],_,[],[0,1],[17]⟩,⟨[.p 2 0],_,[],[0,1,2],[20]⟩,⟨[.p 2 0],_,[],[0,1,2],[21]⟩,⟨[.p 3 0],_,[],Lr 4,[8]⟩,⟨[.p 4 0],_,[],Lr 6,[9]⟩]) (F:=[.o 1,.p 5 0,.p 6 0,.o 2]) hst hb Za
  (Ql rfl Zol u_0<|o_p rfl (Zl Zbdi (Zzd _ h6) rfl rfl (.cons u_0 .nil))<|Qm rfl u_0<|o_p rfl (Z2 rfl rfl u_0 rfl)<|o_p rfl (Z2 rfl rfl u_0 rfl)<|Qa rfl u_0<|Qa rfl u_0<|o_n) (fun a g hst hb=>?_)
 refine r_s (T:=[⟨[.o 1],_,[],[],[22]⟩,⟨[.p 0 0],_,[],[0],[23]⟩]) (F:=[.o 0,.o 1,.o 2,.p 1 0,.o 3]) hst hb Za
  (Qm rfl u_0<|o_p rfl (Zcz rfl rfl u_0 c_i)<|o_n) (fun a g hst hb=>?_)
 refine Zb3 (fun a w=>∃ (j8:Z0) (g:G),w=g.w ∧ St 34 [(7,(pEq (ptrB b0 0))),(1002,(pSJ Zbo Zb7 (hpL (pRow Zj 68 516 (Zdp j8))) 16 b0 j8))] a g ∧ Base g0 g ∧ Zop j8=some r) ?_ ?_
 ·rintro a w ⟨j8,g,rfl,hst,hb,H0⟩
  unfold Zop at H0
  refine Zq ?_
  refine r_s (T:=[⟨[.o 0],_,[],[],[33]⟩,⟨[.p 0 0],_,[],[0],[6]⟩]) (F:=[.p 1 0,.o 1]) hst hb Za
   (Qm rfl u_0<|Qa rfl u_0<|o_n) (fun a g hst hb=>?_)
  refine wp_ret ?_
  obtain rfl:=Option.some.inj H0
  exact Zbct rfl hst hb (Zg (s:=6)) (hst.at 0 rfl) (by decide) (hst.at 1 rfl)
 ·refine wp_cond_split (hst.bool 3 rfl) (fun hc7=>?_) (fun hc7=>?_)
  ·replace H0:=Zu hc7 H0
   refine r_g (L:=[(7,_),(8,_),(9,_),(1002,_)]) (T:=[⟨[.o 0],_,[],[],[24]⟩,⟨[.o 0],_,[],[],[25]⟩,⟨[.o 1],_,[],[],[26]⟩,⟨[.o 2],_,[],[],[27]⟩,⟨[.p 2 0,.p 3 0],[(28,(Zb4.pd (Zb8 ({ Code:=r5.1,At:=r5.2,Answers:=([]:List Zc) }:Zw) (none,0,0))))],[],[2,3],[28]⟩,⟨[.p 0 0],_,[],[0,2,3,4],[29]⟩,⟨[.p 5 0],_,[],[0,2,3,4,5],[30]⟩,⟨[.p 6 0,.p 4 0,.o 3],[(1002,(pSJ Zbo Zb7 (hpL (pRow Zj 68 516 (Zdp ({ ({ d:=r1,split:=r3,now:=a1,out:=(default:Zw),over:=false }:Z0) with out:=({ Code:=r5.1,At:=r5.2,Answers:=([]:List Zc) }:Zw) }:Z0)))) 16 b0 ({ ({ d:=r1,split:=r3,now:=a1,out:=(default:Zw),over:=false }:Z0) with out:=({ Code:=r5.1,At:=r5.2,Answers:=([]:List Zc) }:Zw) }:Z0)))],[17],[0,2,3,4,5,6],[1002]⟩,⟨[.p 1 0],_,[],Lr 8,[31]⟩,⟨[.p 8 0],_,[],Lr 9,[32]⟩,⟨[.p 9 0,.p 7 0],[(1002,(pSJ Zbo Zb7 (hpL (pRow Zj 68 516 (Zdp ({ ({ ({ d:=r1,split:=r3,now:=a1,out:=(default:Zw),over:=false }:Z0) with out:=({ Code:=r5.1,At:=r5.2,Answers:=([]:List Zc) }:Zw) }:Z0) with over:=true }:Z0)))) 16 b0 ({ ({ ({ d:=r1,split:=r3,now:=a1,out:=(default:Zw),over:=false }:Z0) with out:=({ Code:=r5.1,At:=r5.2,Answers:=([]:List Zc) }:Zw) }:Z0) with over:=true }:Z0)))],[17],Lr 10,[1002]⟩]) (F:=[.o 0,.p 10 0]) (hst.pick [0,1,2,4] rfl) hb Za
    (Qm rfl u_0<|Qm rfl u_0<|Qm rfl u_0<|Qm rfl u_0<|o_p rfl (Zwe rfl rfl u_0 u_1)<|o_p rfl (Zo rfl rfl u_0 (fun _ _ h=>⟨_,h⟩))<|o_p rfl (Zb9 Zoi rfl rfl u_0)<|o_p rfl (Zlm Z5s rfl rfl (fun k hk=>by rw [List.mem_singleton.1 hk];decide) u_2 u_0 u_1 (fun g g' cs s0 ys h hr hy=>⟨(none,0,0),Z42 h hy,Zma 516 g'⟩))<|o_p rfl (Zo rfl rfl u_0 (fun _ _ h=>⟨_,h⟩))<|o_p rfl (Zb9 Zn9 rfl rfl u_0)<|o_p rfl (Zlm ty_4 rfl rfl (fun k hk=>by rw [List.mem_singleton.1 hk];decide) u_1 u_0 c_b (fun g g' cs s0 ys h hr hy=>⟨s0,wp_4 h hy,hr⟩))<|o_n) (fun a g hst hb=>?_)
   exact ⟨({ ({ ({ d:=r1,split:=r3,now:=a1,out:=(default:Zw),over:=false }:Z0) with out:=({ Code:=r5.1,At:=r5.2,Answers:=([]:List Zc) }:Zw) }:Z0) with over:=true }:Z0),g,rfl,(hst.pick [0,1] rfl),hb,H0⟩
  ·replace H0:=Zt hc7 H0
   refine wp_skip ?_
   exact ⟨({ d:=r1,split:=r3,now:=a1,out:=(default:Zw),over:=false }:Z0),g,rfl,(hst.pick [0,4] rfl),hb,H0⟩
theorem Zk0 (a0:(List Zc)) {r:(List Zc)} (h:Ze2 a0=some r):Zq9 Tryz.prog 58 [(Zj.sl.pd a0)] Zj 68 r:=by
 unfold Ze2 at h
 obtain ⟨hsz,H0⟩:=Zev h
 obtain rfl:=Option.some.inj H0
 refine Zr7 (N:=8) Tryz.func58 rfl rfl (Qe rfl) rfl (fun a g0 h0 hst hb=>?_)
 refine r_s (T:=[⟨[],[(2,(Zj.sl.pd []))],[],[],[2]⟩]) (F:=[.o 0]) hst hb Za
  (o_p rfl (Zch rfl rfl (Opd.c (fun g=>Zhe g)))<|o_n) (fun a g hst hb=>?_)
 refine wp_seq ?_
 refine r_s (T:=[⟨[.o 0],_,[],[],[3]⟩,⟨[.p 0 0],_,[],[0],[4]⟩]) (F:=[.o 0,.p 1 0]) hst hb Za
  (Qm rfl u_0<|o_p rfl (Zq1 Tryz.underlying47 rfl rfl u_0)<|o_n) (fun a g hst hb=>?_)
 obtain ⟨c,hc,hc'⟩:=hst.at 1 rfl
 refine wp_cond_split hc (fun ht=>?_) (fun hf=>?_)
 ·obtain rfl:=hc' ht
  refine r_s (L:=[]) (T:=[⟨[],[(2,(pEq (.slice none 0 0)))],[],[],[2]⟩]) (F:=[.p 0 0]) (hst.pick [] rfl) hb Za
   (o_p rfl (Zch rfl rfl (Opd.c (fun g=>rfl)))<|o_n) (fun a g hst hb=>?_)
  refine wp_ret ?_
  refine Zp ?_
  exact Zqr rfl hst hb (Zg (s:=2)) ⟨none,hst.at 0 rfl⟩
 ·refine wp_skip ?_
  refine Zq ?_
  refine r_s (L:=[(0,_)]) (T:=[⟨[],[(5,(pOwn Zj 68 5 (some 0) (([]:(List Zc)).map some)))],[6],[],[5]⟩,⟨[.o 0],_,[],[],[6]⟩,⟨[.p 0 0,.p 1 0],_,[6],[0,1],[5,7]⟩,⟨[.p 2 0],_,[],[0,1,2],[2]⟩]) (F:=[.p 3 0]) (hst.pick [0] rfl) hb Za
   (o_p rfl (Zs0 (ty:=0) Zqf rfl rfl)<|Qm rfl u_0<|o_p rfl (Zpe Zqf rfl rfl u_0 u_1 (by simpa using hsz))<|Qa rfl u_0<|o_n) (fun a g hst hb=>?_)
  refine wp_ret ?_
  exact Zvr rfl h0 hst hb (Zg (s:=2)) (hst.at 0 rfl)
theorem Z02 (a0:Zw) {r:Zw} (h:Zot a0=some r):FnOk Tryz.prog 37 [(Zbp.pd a0)] (Zbp.pd r):=by
 unfold Zot at h
 obtain ⟨⟨hsz,hall⟩,H0⟩:=Zev h
 obtain rfl:=Option.some.inj H0
 have hcl:Ze2 a0.Answers=some a0.Answers:=by unfold Ze2;rw [if_pos hsz]
 have hrc:∀ e ∈ a0.Answers,Zey e.Rec=some e.Rec:=fun e he=>by
  have:=List.all_eq_true.1 hall e he
  unfold Zey Zbw
  rw [if_pos (of_decide_eq_true this)]
  rfl
 have hmx:a0.Answers.length ≤ 140737488355328:=Nat.le_trans (Nat.le_mul_of_pos_right _ (by decide)) hsz
 refine Zbt (N:=28) Tryz.func37 rfl rfl (Qe rfl) rfl rfl (fun a g0 hst hb=>?_)
 refine r_s (T:=[⟨[.o 0],[(1,(pBox Zbp 1 a0))],[2],[],[1]⟩,⟨[],[(2,(pBox Zbp 2 (default:Zw)))],[3],[],[2]⟩]) (F:=[.p 0 0,.p 1 0]) hst hb Za
  (o_p rfl (Zkr (j:=1) rfl rfl u_0)<|o_p rfl (Zbh (zs:=[.int .i64 0,.int .i64 0,.slice none 0 0]) (by kernel_rfl) (fun g=>Zjt g) rfl rfl)<|o_n) (fun a g hst hb=>?_)
 refine r_s (T:=[⟨[.o 0],_,[],[],[4]⟩,⟨[.p 0 0],_,[],[0],[5]⟩,⟨[.p 1 0],[(6,(pArr Zj 68 6 a0.Answers))],[7],[0,1],[6]⟩,⟨[.o 0],_,[],[0,1,2],[7]⟩,⟨[.o 0,.p 3 0,.p 2 0],[(1,(pBxO Zb4 Zb8 (fun x:Zw=>x.Answers) Zj 68 1 6 a0))],[2],[0,1,2,3],[1,4,7]⟩]) (F:=[.p 4 0,.o 1]) hst hb Za
  (o_p rfl (Zr Zli (off:=2) (by kernel_rfl) rfl rfl u_0)<|QP rfl Zpd u_0<|o_p rfl (Zl5 (j:=6) Zbdg (Zk0 _ hcl) rfl rfl (.cons u_0 .nil))<|o_p rfl (Zr Zli (off:=2) (by kernel_rfl) rfl rfl u_0)<|o_p rfl (Zym Zw3 Zp2 rfl rfl (by decide) u_0 u_1 u_2 (fun g cs s0 s1 ys h k=>Zwm h k))<|o_n) (fun a g hst hb=>?_)
 refine wp_seq ?_
 refine r_s (T:=[⟨[.o 0],_,[],[],[8]⟩,⟨[.p 0 0],_,[],[0],[9]⟩,⟨[.p 1 0],_,[],[0,1],[10]⟩,⟨[],_,[],[],[11]⟩]) (F:=[.o 0,.o 1,.p 2 0,.p 3 0]) hst hb Za
  (o_p rfl (Znb Zvi (off:=2) (by kernel_rfl) (fun _=>rfl) rfl rfl u_0)<|o_p rfl (Zob Zp2 rfl rfl u_0)<|o_p rfl (Z2q Tryz.underlying47 rfl rfl u_0)<|Qm rfl c_i<|o_n) (fun a g hst hb=>?_)
 refine Zb3 (fun a w=>∃ (g:G),w=g.w ∧ St 28 [(1,(pBxO Zb4 Zb8 (fun x:Zw=>x.Answers) Zj 68 1 6 a0)),(2,(pBox Zbp 2 (default:Zw)))] a g ∧ Base g0 g) ?_ ?_
 ·rintro a w ⟨g,rfl,hst,hb⟩
  refine Zq ?_
  refine r_s (T:=[⟨[.o 0],[(27,(Zbp.pd a0))],[7],[],[27,1]⟩,⟨[.o 1,.p 0 0],_,[3],[0],[2]⟩]) (F:=[.p 1 0]) hst hb Za
   (o_p rfl (Zuz Zxm rfl Zbbe rfl rfl u_0)<|o_p rfl (Z3 Zi5 rfl rfl u_0 u_1)<|o_n) (fun a g hst hb=>?_)
  refine wp_ret ?_
  obtain ⟨u0,hu0,hq0⟩:=Zbf (P:=Tryz.prog) Zi5 (hst.at 0 rfl)
  exact Z4 rfl hst hb hu0 hq0
 ·refine wp_block ?_
  refine wp_loop_ghost (fun n a w=>∃ (i:Nat) (g:G),w=g.w ∧ St 28 [(1,(pBxO Zb4 Zb8 (fun x:Zw=>x.Answers) Zj 68 1 6 a0)),(2,(pBox Zbp 2 (default:Zw))),(10,(pInt .i64 (a0.Answers.length:Int))),(11,(pInt .i64 (i:Int)))] a g ∧ Base g0 g ∧ i ≤ a0.Answers.length ∧ n=a0.Answers.length - i) a0.Answers.length ⟨0,g,rfl,hst,hb,Nat.zero_le _,rfl⟩ (fun n a w hI=>?_)
  obtain ⟨i,g,rfl,hst,hb,hi,rfl⟩:=hI
  refine r_s (T:=[⟨[.o 3,.o 2],_,[],[],[12]⟩]) (F:=[.o 0,.o 1,.o 2,.o 3,.p 0 0]) hst hb Za
   (o_p rfl (Zca rfl rfl u_0 u_1)<|o_n) (fun a g hst hb=>?_)
  refine wp_seq ?_
  refine wp_cond_split (hst.bool 4 rfl) (fun hc=>?_) (fun hc=>?_)
  ·have hlt:i < a0.Answers.length:=by have:=of_decide_eq_true hc;omega
   have hx:idx a0.Answers (i:Int)=some a0.Answers[i]:=Z2y (List.getElem?_eq_getElem hlt)
   refine wp_skip ?_
   refine Zq ?_
   refine wp_seq ?_
   refine wp_block ?_
   refine r_s (L:=[(1,_),(2,_),(10,_),(11,_)]) (T:=[⟨[.o 3],_,[],[],[13]⟩,⟨[.p 0 0],_,[],[0],[3]⟩]) (F:=[.o 0,.o 1,.p 1 0,.o 2,.o 3]) (hst.pick [0,1,2,3] rfl) hb Za
    (Qm rfl u_0<|Qa rfl u_0<|o_n) (fun a g hst hb=>?_)
   refine r_g (T:=[⟨[.o 0],_,[],[],[14]⟩,⟨[.p 0 0],_,[],[0],[15]⟩,⟨[.o 2],_,[],[],[16]⟩,⟨[.o 0],_,[],[],[17]⟩,⟨[.p 3 0],_,[],[3],[18]⟩,⟨[.o 2],_,[],[],[19]⟩,⟨[.p 4 0,.p 5 0],_,[],[3,4,5],[20]⟩,⟨[.p 6 0],_,[],[3,4,5,6],[21]⟩,⟨[.p 7 0],_,[],[3,4,5,6,7],[22]⟩,⟨[.p 8 0],_,[],[3,4,5,6,7,8],[23]⟩,⟨[.p 1 0,.p 2 0],_,[],[0,1,2,3,4,5,6,7,8,9],[24]⟩,⟨[.p 10 0],_,[],[0,1,2,3,4,5,6,7,8,9,10],[25]⟩,⟨[.o 0,.p 11 0,.p 9 0],[(1,(pBxO Zb4 Zb8 (fun x:Zw=>x.Answers) Zj 68 1 6 a0))],[7],[0,1,2,3,4,5,6,7,8,9,10,11],[1,14,15,17,18,20,21,24,25]⟩]) (F:=[.p 12 0,.o 1,.o 3,.o 4]) hst hb Za
    (o_p rfl (Znb Zvi (off:=2) (by kernel_rfl) (fun _=>rfl) rfl rfl u_0)<|o_p rfl (Zob Zp2 rfl rfl u_0)<|Qm rfl u_0<|o_p rfl (Znb Zvi (off:=2) (by kernel_rfl) (fun _=>rfl) rfl rfl u_0)<|o_p rfl (Zob Zp2 rfl rfl u_0)<|Qm rfl u_0<|o_p rfl (Zo1 Tryz.underlying47 Zub rfl rfl u_0 u_1 hx)<|o_p rfl (Zpj Zpl (off2:=2) (by kernel_rfl) (by decide) rfl rfl u_0)<|o_p rfl (Zyx Zbb rfl rfl u_0)<|o_p rfl (Zl Zoq (Zgv _ (hrc _ (List.getElem_mem hlt))) rfl rfl (.cons u_0 .nil))<|o_p rfl (Zo1 Tryz.underlying47 Zub rfl rfl u_0 u_1 hx)<|o_p rfl (Zpj Zpl (off2:=2) (by kernel_rfl) (by decide) rfl rfl u_0)<|o_p rfl (Zux (u:=a0.Answers[i]) (u':=a0.Answers[i]) (x':=a0) Zbb rfl rfl (by decide) u_0 u_1 u_2 (Zxc hx) (by decide) (by rw [Int.toNat_natCast];exact (List.set_getElem_self hlt).symm) (fun _=>rfl) (Zu7 _))<|o_n) (fun a g hst hb=>?_)
   refine Zbc ?_
   refine Zq ?_
   refine r_g (T:=[⟨[.o 3],_,[],[],[26]⟩,⟨[.p 0 0],_,[],[0],[11]⟩]) (F:=[.o 0,.o 1,.o 2,.p 1 0]) hst hb Za
    (o_p rfl (Zbz rfl rfl u_0 c_i (Zyh hlt (by omega)))<|Qm rfl u_0<|o_n) (fun a g hst hb=>?_)
   exact ⟨a0.Answers.length - (i + 1),by omega,i + 1,g,rfl,hst,hb,by omega,rfl⟩
  ·refine wp_exit ?_
   refine Zby ?_
   refine Zby ?_
   refine Zce ?_
   exact ⟨g,rfl,hst.pick [0,1] rfl,hb⟩
theorem Zn2 (a0:Z0) {r:Zw × Bool} (h:Zh4 a0=some r):FnMR Tryz.prog 14 Zcq a0 a0 [] (pTup [(Zbp.pd r.1),(Zbd r.2)]):=by
 have H0:=h
 unfold Zh4 at H0
 clear h
 refine Zt8 (N:=15) Tryz.func14 rfl rfl (Qe rfl) rfl rfl (fun a g0 b0 hst hb=>?_)
 replace hst:St 15 [(0,(pEq (ptrB b0 0))),(1002,(pSJ Zbo Zb7 (hpL (pRow Zj 68 1000000 (Zdp a0))) 0 b0 a0))] _ _:=Zrh hst
 refine r_s (T:=[⟨[],[(2,(pBox Zbp 2 (default:Zw)))],[3],[],[2]⟩,⟨[],_,[],[],[3]⟩]) (F:=[.o 0,.p 0 0,.o 1]) hst hb Za
  (o_p rfl (Zbh (zs:=[.int .i64 0,.int .i64 0,.slice none 0 0]) (by kernel_rfl) (fun g=>Zjt g) rfl rfl)<|Qa rfl c_b<|o_n) (fun a g hst hb=>?_)
 refine wp_seq ?_
 refine r_s (T:=[⟨[.o 0],_,[],[],[4]⟩,⟨[.p 0 0],_,[],[0],[5]⟩,⟨[.p 1 0],_,[],[0,1],[6]⟩,⟨[.p 2 0,.o 2],_,[],[0,1,2],[7]⟩,⟨[.p 3 0],_,[],Lr 4,[8]⟩]) (F:=[.o 0,.o 1,.p 4 0,.o 2]) hst hb Za
  (Qm rfl u_0<|o_p rfl (Zo rfl rfl u_0 (fun _ _ h=>⟨_,h⟩))<|o_p rfl (Zb9 Zn9 rfl rfl u_0)<|o_p rfl (Zf1 (u:=a0.over) ty_4 (fun g s cs h _=>kp_4 h) rfl rfl u_1 u_0)<|Qn rfl u_0<|o_n) (fun a g hst hb=>?_)
 refine wp_cond_split (hst.bool 2 rfl) (fun hc1=>?_) (fun hc1=>?_)
 ·replace H0:=Zu hc1 H0
  refine r_s (L:=[(0,_),(2,_),(1002,_)]) (T:=[⟨[],_,[],[],[9]⟩,⟨[.p 0 0,.o 1],_,[3],[0],[2]⟩,⟨[],_,[],[0,1],[3]⟩]) (F:=[.o 0,.p 1 0,.p 2 0,.o 2]) (hst.pick [0,1,3] rfl) hb Za
   (o_p rfl (Z5v rfl rfl )<|o_p rfl (Z3 Zi5 rfl rfl u_1 u_0)<|Qa rfl c_b<|o_n) (fun a g hst hb=>?_)
  refine wp_ret ?_
  refine Zp ?_
  obtain rfl:=Option.some.inj H0
  obtain ⟨u0,hu0,hq0⟩:=Zbf (P:=Tryz.prog) Zi5 (hst.at 1 rfl)
  exact Zwh rfl hst hb hu0 (Zg (s:=3)) (Zcr hq0 (hst.at 2 rfl)) (hst.at 3 rfl)
 ·replace H0:=Zt hc1 H0
  refine wp_skip ?_
  refine Zq ?_
  obtain ⟨r2,h3,H0⟩:=Zd H0
  refine r_s (L:=[(0,_),(2,_),(1002,_)]) (T:=[⟨[.o 0],_,[],[],[10]⟩,⟨[.p 0 0],_,[],[0],[11]⟩,⟨[.p 1 0],_,[],[0,1],[12]⟩,⟨[.p 2 0,.o 2],_,[],[0,1,2],[13]⟩,⟨[.p 3 0],_,[],Lr 4,[14]⟩,⟨[.p 4 0,.o 1],_,[3],Lr 5,[2]⟩,⟨[],_,[],Lr 6,[3]⟩]) (F:=[.o 0,.p 5 0,.p 6 0,.o 2]) (hst.pick [0,1,3] rfl) hb Za
   (Qm rfl u_0<|o_p rfl (Zo rfl rfl u_0 (fun _ _ h=>⟨_,h⟩))<|o_p rfl (Zb9 Zoi rfl rfl u_0)<|o_p rfl (Zf1 (u:=a0.out) Zi5 (fun g s cs h hr=>Zbce h hr) rfl rfl u_1 u_0)<|o_p rfl (Zl Zbdl (Z02 _ h3) rfl rfl (.cons u_0 .nil))<|o_p rfl (Z3 Zi5 rfl rfl u_1 u_0)<|Qa rfl c_b<|o_n) (fun a g hst hb=>?_)
  refine wp_ret ?_
  obtain rfl:=Option.some.inj H0
  obtain ⟨u0,hu0,hq0⟩:=Zbf (P:=Tryz.prog) Zi5 (hst.at 1 rfl)
  exact Zwh rfl hst hb hu0 (Zg (s:=3)) (Zcr hq0 (hst.at 2 rfl)) (hst.at 3 rfl)
theorem Zti (a0:Int) {r:Bool} (h:Zlx a0=some r):FnOk Tryz.prog 10 [(pInt .i64 a0)] (Zbd r):=by
 have H0:=h
 unfold Zlx at H0
 clear h
 refine Zbt (N:=21) Tryz.func10 rfl rfl (Qe rfl) rfl rfl (fun a g0 hst hb=>?_)
 refine r_s (T:=[⟨[],_,[],[],[2]⟩]) (F:=[.o 0]) hst hb Za
  (Qa rfl c_b<|o_n) (fun a g hst hb=>?_)
 refine r_s (T:=⟨[.o 0],_,[],[],[3]⟩ :: ⟨[.p 0 0],_,[],[0],[4]⟩ :: ⟨[.p 1 0],_,[],[0,1],[5]⟩ :: ⟨[.p 2 0,.o 0],_,[],[0,1,2],[6]⟩ :: ⟨[.p 2 0,.p 3 0],_,[],Lr 4,[7]⟩ :: ⟨[.p 2 0,.p 4 0],_,[],Lr 5,[8]⟩ :: ⟨[.p 5 0],_,[],Lr 6,[9]⟩ :: ⟨[.p 6 0,.o 0],_,[],Lr 7,[10]⟩ :: ⟨[.p 6 0,.p 7 0],_,[],Lr 8,[11]⟩ :: ⟨[.p 6 0,.p 8 0],_,[],Lr 9,[12]⟩ :: ⟨[.p 9 0],_,[],Lr 10,[13]⟩ :: ⟨[.p 10 0,.o 0],_,[],Lr 11,[14]⟩ :: ⟨[.p 10 0,.p 11 0],_,[],Lr 12,[15]⟩ :: ⟨[.p 10 0,.p 12 0],_,[],Lr 13,[16]⟩ :: ⟨[.p 13 0],_,[],Lr 14,[17]⟩ :: ⟨[.p 14 0,.o 0],_,[],Lr 15,[18]⟩ :: ⟨[.p 14 0,.p 15 0],_,[],Lr 16,[19]⟩ :: ⟨[.p 14 0,.p 16 0],_,[],Lr 17,[20]⟩ :: ⟨[.p 17 0],_,[],Lr 18,[2]⟩ :: []) (F:=[.p 18 0]) hst hb Za
  (Qm rfl u_0<|o_p rfl (Zbr rfl rfl u_0 c_i)<|Qm rfl u_0<|o_g (Qg_f rfl (fun hG=>Z1 rfl rfl u_0))<|o_g (Qg_f rfl (fun hG=>Zbr rfl rfl (Opd.gd hG u_0) c_i))<|o_p rfl (Zbm rfl rfl u_0 (fun hz=>(Opd.gd (bNF hz) u_1)))<|Qm rfl u_0<|o_g (Qg_f rfl (fun hG=>Z1 rfl rfl u_0))<|o_g (Qg_f rfl (fun hG=>Zbr rfl rfl (Opd.gd hG u_0) c_i))<|o_p rfl (Zbm rfl rfl u_0 (fun hz=>(Opd.gd (bNF hz) u_1)))<|Qm rfl u_0<|o_g (Qg_f rfl (fun hG=>Z1 rfl rfl u_0))<|o_g (Qg_f rfl (fun hG=>Zbr rfl rfl (Opd.gd hG u_0) c_i))<|o_p rfl (Zbm rfl rfl u_0 (fun hz=>(Opd.gd (bNF hz) u_1)))<|Qm rfl u_0<|o_g (Qg_f rfl (fun hG=>Z1 rfl rfl u_0))<|o_g (Qg_f rfl (fun hG=>Zbr rfl rfl (Opd.gd hG u_0) c_i))<|o_p rfl (Zbm rfl rfl u_0 (fun hz=>(Opd.gd (bNF hz) u_1)))<|Qa rfl u_0<|o_n) (fun a g hst hb=>?_)
 refine wp_ret ?_
 obtain rfl:=Option.some.inj H0
 exact Z4 rfl hst hb (Zg (s:=2)) (hst.at 0 rfl)
theorem Zg6 (a0:Zk) (a1:ByteArray) {r:Zb × Bool} (h:Zei a0 a1=some r):FnOk Tryz.prog 30 [(Zx.pd a0),(pStr a1)] (pTup [(Ze.pd r.1),(Zbd r.2)]):=by
 have H0:=h
 unfold Zei at H0
 clear h
 refine Zbt (N:=39) Tryz.func30 rfl rfl (Qe rfl) rfl rfl (fun a g0 hst hb=>?_)
 refine r_s (T:=[⟨[.o 0],_,[],[],[2]⟩,⟨[],[(4,(pBox Ze 4 (default:Zb)))],[5],[],[4]⟩,⟨[],_,[],[],[5]⟩]) (F:=[.o 1,.p 0 0,.p 1 0]) hst hb Za
  (Qb rfl u_0<|o_p rfl (Zbh (zs:=[.int .i64 0,.int .i64 0,.int .i64 0,.int .i64 0,.float .f64 0,.int .i64 0,.string ByteArray.empty,.slice none 0 0]) (by kernel_rfl) (fun g=>Zb0 g) rfl rfl)<|Qa rfl c_b<|o_n) (fun a g hst hb=>?_)
 refine wp_seq ?_
 refine r_s (T:=[⟨[.o 1],_,[],[],[7]⟩,⟨[.p 0 0],_,[],[0],[8]⟩,⟨[.p 1 0],_,[],[0,1],[6]⟩]) (F:=[.o 0,.o 2,.p 2 0]) hst hb Za
  (Qf rfl Zq5 u_0<|Ql rfl Zdh u_0<|Qa rfl u_0<|o_n) (fun a g hst hb=>?_)
 obtain ⟨z12,hz1,H0⟩:=Zd H0
 refine Zb3 (fun a w=>∃ (y11:Zb) (g:G),w=g.w ∧ St 39 [(4,(pBox Ze 4 y11))] a g ∧ Base g0 g ∧ (.inr y11)=z12) ?_ ?_
 ·rintro a w ⟨y11,g,rfl,hst,hb,rfl⟩
  refine Zq ?_
  refine r_s (T:=[⟨[],_,[],[],[38]⟩,⟨[.p 0 0,.o 0],_,[5],[0],[4]⟩,⟨[],_,[],[0,1],[5]⟩]) (F:=[.p 1 0,.p 2 0]) hst hb Za
   (o_p rfl (Zno rfl rfl )<|o_p rfl (Z3 Zbb rfl rfl u_1 u_0)<|Qa rfl c_b<|o_n) (fun a g hst hb=>?_)
  refine wp_ret ?_
  obtain rfl:=Option.some.inj H0
  obtain ⟨u0,hu0,hq0⟩:=Zbf (P:=Tryz.prog) Zbb (hst.at 0 rfl)
  exact Zdt rfl hst hb hu0 (Zg (s:=5)) (Zcr hq0 (hst.at 1 rfl))
 ·refine wp_block ?_
  refine wp_loop_ghost (fun n a w=>∃ (x1:Zb) (x2:shelf_nodeT) (g:G),w=g.w ∧ St 39 [(1,(pStr a1)),(4,(pBox Ze 4 x1)),(6,(Zba.pd x2))] a g ∧ Base g0 g ∧ Zeq a1 n x1 x2=some z12) (a0.top.hh + 1) ⟨(default:Zb),a0.top,g,rfl,(hst.pick [0,1,2] rfl),hb,hz1⟩ (fun n a w hI=>?_)
  obtain ⟨x1,x2,g,rfl,hst,hb,H1⟩:=hI
  cases n with
  | zero=>exact absurd H1 (by simp [Zeq])
  | succ n =>
   rw [Zeq] at H1
   refine wp_seq ?_
   refine r_s (T:=[⟨[.o 2],_,[],[],[9]⟩,⟨[.p 0 0],_,[],[0],[10]⟩]) (F:=[.o 0,.o 1,.o 2,.p 1 0]) hst hb Za
    (Qm rfl u_0<|o_p rfl (Z1q Tryz.underlying28 rfl rfl u_0 (Zfw _))<|o_n) (fun a g hst hb=>?_)
   refine wp_cond_split (hst.bool 3 rfl) (fun hc3=>?_) (fun hc3=>?_)
   ·replace H1:=Zu hc3 H1
    refine wp_skip ?_
    refine Zq ?_
    refine Zb3 (fun a w=>∃ (j10:shelf_nodeT) (g:G),w=g.w ∧ St 39 [(1,(pStr a1)),(4,(pBox Ze 4 x1)),(6,(Zba.pd j10))] a g ∧ Base g0 g ∧ Zij x1 (Zeq a1 n) j10=some z12) ?_ ?_
    ·rintro a w ⟨j10,g,rfl,hst,hb,H1⟩
     unfold Zij at H1
     exact ⟨n,Nat.lt_succ_self _,x1,j10,g,rfl,(hst.pick [0,1,2] rfl),hb,H1⟩
    ·refine wp_block ?_
     refine wp_block ?_
     obtain ⟨n4,h5,H1⟩:=Zd H1
     refine r_s (L:=[(1,_),(4,_),(6,_)]) (T:=[⟨[.o 0],_,[],[],[17]⟩,⟨[.o 2],_,[],[],[18]⟩,⟨[.p 1 0],_,[],[1],[19]⟩,⟨[.p 2 0],_,[],[1,2],[20]⟩,⟨[.p 3 0],_,[],[1,2,3],[21]⟩,⟨[.p 0 0,.p 4 0],_,[],Lr 5,[22]⟩,⟨[.p 5 0],_,[],Lr 6,[16]⟩]) (F:=[.o 0,.o 1,.o 2,.p 6 0]) (hst.pick [0,1,2] rfl) hb Za
      (Qm rfl u_0<|Qm rfl u_0<|o_p rfl (Zo rfl rfl (Opd.imp u_0 (fun _ _ h=>Zv h5 h)) (fun _ _ ⟨_,_,_,e,_⟩=>⟨_,e⟩))<|Qf rfl Zfp u_0<|Ql rfl ty_9 u_0<|o_p rfl (Zni rfl rfl u_0 u_1)<|Qa rfl u_0<|o_n) (fun a g hst hb=>?_)
     refine wp_cond_split (hst.bool 3 rfl) (fun hc6=>?_) (fun hc6=>?_)
     ·replace H1:=Zu hc6 H1
      refine r_g (L:=[(1,_),(4,_),(6,_)]) (T:=[⟨[.o 2],_,[],[],[23]⟩,⟨[.p 0 0],_,[],[0],[24]⟩,⟨[.p 1 0],_,[],[0,1],[25]⟩,⟨[.p 2 0],_,[],[0,1,2],[26]⟩,⟨[.p 3 0],_,[],Lr 4,[6]⟩]) (F:=[.o 0,.o 1,.p 4 0]) (hst.pick [0,1,2] rfl) hb Za
       (Qm rfl u_0<|o_p rfl (Zo rfl rfl (Opd.imp u_0 (fun _ _ h=>Zv h5 h)) (fun _ _ ⟨_,_,_,e,_⟩=>⟨_,e⟩))<|Qf rfl Zer u_0<|Ql rfl Zdh u_0<|Qa rfl u_0<|o_n) (fun a g hst hb=>?_)
      refine Zbc ?_
      refine Zbc ?_
      exact ⟨n4.left,g,rfl,(hst.pick [0,1,2] rfl),hb,H1⟩
     ·replace H1:=Zt hc6 H1
      refine r_s (L:=[(1,_),(4,_),(6,_)]) (T:=[⟨[.o 0],_,[],[],[28]⟩,⟨[.o 2],_,[],[],[29]⟩,⟨[.p 1 0],_,[],[1],[30]⟩,⟨[.p 2 0],_,[],[1,2],[31]⟩,⟨[.p 3 0],_,[],[1,2,3],[32]⟩,⟨[.p 0 0,.p 4 0],_,[],Lr 5,[33]⟩,⟨[.p 5 0],_,[],Lr 6,[27]⟩]) (F:=[.o 0,.o 1,.o 2,.p 6 0]) (hst.pick [0,1,2] rfl) hb Za
       (Qm rfl u_0<|Qm rfl u_0<|o_p rfl (Zo rfl rfl (Opd.imp u_0 (fun _ _ h=>Zv h5 h)) (fun _ _ ⟨_,_,_,e,_⟩=>⟨_,e⟩))<|Qf rfl Zfp u_0<|Ql rfl ty_9 u_0<|o_p rfl (Zwb rfl rfl u_0 u_1)<|Qa rfl u_0<|o_n) (fun a g hst hb=>?_)
      refine wp_cond_split (hst.bool 3 rfl) (fun hc7=>?_) (fun hc7=>?_)
      ·replace H1:=Zu hc7 H1
       refine r_g (L:=[(1,_),(4,_),(6,_)]) (T:=[⟨[.o 2],_,[],[],[34]⟩,⟨[.p 0 0],_,[],[0],[35]⟩,⟨[.p 1 0],_,[],[0,1],[36]⟩,⟨[.p 2 0],_,[],[0,1,2],[37]⟩,⟨[.p 3 0],_,[],Lr 4,[6]⟩]) (F:=[.o 0,.o 1,.p 4 0]) (hst.pick [0,1,2] rfl) hb Za
        (Qm rfl u_0<|o_p rfl (Zo rfl rfl (Opd.imp u_0 (fun _ _ h=>Zv h5 h)) (fun _ _ ⟨_,_,_,e,_⟩=>⟨_,e⟩))<|Qf rfl Zfq u_0<|Ql rfl Zdh u_0<|Qa rfl u_0<|o_n) (fun a g hst hb=>?_)
       refine Zbc ?_
       refine Zbc ?_
       exact ⟨n4.right,g,rfl,(hst.pick [0,1,2] rfl),hb,H1⟩
      ·replace H1:=Zt hc7 H1
       obtain ⟨r8,h9,H1⟩:=Zd H1
       refine r_s (L:=[(4,_),(6,_)]) (T:=[⟨[.o 1],_,[],[],[11]⟩,⟨[.p 0 0],_,[],[0],[12]⟩,⟨[.p 1 0],_,[],[0,1],[13]⟩,⟨[.p 2 0],_,[],[0,1,2],[14]⟩,⟨[.p 3 0],_,[],Lr 4,[15]⟩,⟨[.p 4 0,.o 0],_,[5],Lr 5,[4]⟩,⟨[],_,[],Lr 6,[5]⟩]) (F:=[.p 5 0,.p 6 0]) (hst.pick [1,2] rfl) hb Za
        (Qm rfl u_0<|o_p rfl (Zo rfl rfl (Opd.imp u_0 (fun _ _ h=>Zv h5 h)) (fun _ _ ⟨_,_,_,e,_⟩=>⟨_,e⟩))<|Qf rfl Zh9 u_0<|Ql rfl Zbb u_0<|o_p rfl (Zl Zoq (Zgv _ h9) rfl rfl (.cons u_0 .nil))<|o_p rfl (Z3 Zbb rfl rfl u_1 u_0)<|Qa rfl c_b<|o_n) (fun a g hst hb=>?_)
       refine wp_ret ?_
       refine Z5 ?_
       refine Z5 ?_
       refine Zp ?_
       refine Zp ?_
       refine Z5 ?_
       refine Zp ?_
       refine Zp ?_
       obtain rfl:=Option.some.inj H1
       obtain rfl:=Option.some.inj H0
       obtain ⟨u0,hu0,hq0⟩:=Zbf (P:=Tryz.prog) Zbb (hst.at 0 rfl)
       exact Zdt rfl hst hb hu0 (Zg (s:=5)) (Zcr hq0 (hst.at 1 rfl))
   ·replace H1:=Zt hc3 H1
    refine wp_exit ?_
    refine Zby ?_
    refine Zby ?_
    refine Zce ?_
    exact ⟨x1,g,rfl,(hst.pick [1] rfl),hb,Option.some.inj H1⟩
theorem Zdv (a0:shelf_nodeT) {r:Int} (h:Zct a0=some r):FnOk Tryz.prog 61 [(Zba.pd a0)] (pInt .i64 r):=by
 have H0:=h
 unfold Zct at H0
 clear h
 refine Zbt (N:=9) Tryz.func61 rfl rfl (Qe rfl) rfl rfl (fun a g0 hst hb=>?_)
 refine r_s (T:=[⟨[],_,[],[],[2]⟩]) (F:=[.o 0]) hst hb Za
  (Qa rfl c_i<|o_n) (fun a g hst hb=>?_)
 refine wp_seq ?_
 refine r_s (T:=[⟨[.o 0],_,[],[],[3]⟩,⟨[.p 0 0],_,[],[0],[4]⟩]) (F:=[.o 0,.p 1 0]) hst hb Za
  (Qm rfl u_0<|o_p rfl (Zow Tryz.underlying28 rfl rfl u_0 (Zfw _))<|o_n) (fun a g hst hb=>?_)
 refine wp_cond_split (hst.bool 1 rfl) (fun hc1=>?_) (fun hc1=>?_)
 ·replace H0:=Zu hc1 H0
  refine r_s (L:=[]) (T:=[⟨[],_,[],[],[2]⟩]) (F:=[.p 0 0]) (hst.pick [] rfl) hb Za
   (Qa rfl c_i<|o_n) (fun a g hst hb=>?_)
  refine wp_ret ?_
  refine Zp ?_
  obtain rfl:=Option.some.inj H0
  exact Z4 rfl hst hb (Zg (s:=2)) (hst.at 0 rfl)
 ·replace H0:=Zt hc1 H0
  refine wp_skip ?_
  refine Zq ?_
  obtain ⟨n2,h3,H0⟩:=Zd H0
  refine r_s (L:=[(0,_)]) (T:=[⟨[.o 0],_,[],[],[5]⟩,⟨[.p 0 0],_,[],[0],[6]⟩,⟨[.p 1 0],_,[],[0,1],[7]⟩,⟨[.p 2 0],_,[],[0,1,2],[8]⟩,⟨[.p 3 0],_,[],Lr 4,[2]⟩]) (F:=[.p 4 0]) (hst.pick [0] rfl) hb Za
   (Qm rfl u_0<|o_p rfl (Zo rfl rfl (Opd.imp u_0 (fun _ _ h=>Zv h3 h)) (fun _ _ ⟨_,_,_,e,_⟩=>⟨_,e⟩))<|Qf rfl Z7t u_0<|Ql rfl ty_3 u_0<|Qa rfl u_0<|o_n) (fun a g hst hb=>?_)
  refine wp_ret ?_
  obtain rfl:=Option.some.inj H0
  exact Z4 rfl hst hb (Zg (s:=2)) (hst.at 0 rfl)
theorem Zin (a0:Zk) {r:Int} (h:Zff a0=some r):FnOk Tryz.prog 40 [(Zx.pd a0)] (pInt .i64 r):=by
 have H0:=h
 unfold Zff at H0
 clear h
 refine Zbt (N:=6) Tryz.func40 rfl rfl (Qe rfl) rfl rfl (fun a g0 hst hb=>?_)
 refine r_s (T:=[⟨[.o 0],_,[],[],[1]⟩,⟨[],_,[],[],[2]⟩]) (F:=[.p 0 0]) hst hb Za
  (Qb rfl u_0<|Qa rfl c_i<|o_n) (fun a g hst hb=>?_)
 obtain ⟨r1,h2,H0⟩:=Zd H0
 refine r_s (T:=[⟨[.o 0],_,[],[],[3]⟩,⟨[.p 0 0],_,[],[0],[4]⟩,⟨[.p 1 0],_,[],[0,1],[5]⟩,⟨[.p 2 0],_,[],[0,1,2],[2]⟩]) (F:=[.p 3 0]) hst hb Za
  (Qf rfl Zq5 u_0<|Ql rfl Zdh u_0<|o_p rfl (Zl Zok (Zdv _ h2) rfl rfl (.cons u_0 .nil))<|Qa rfl u_0<|o_n) (fun a g hst hb=>?_)
 refine wp_ret ?_
 obtain rfl:=Option.some.inj H0
 exact Z4 rfl hst hb (Zg (s:=2)) (hst.at 0 rfl)
theorem Zee (a0:ByteArray) (a1:Zb) (a2:shelf_nodeT) (a3:shelf_nodeT) {r:shelf_nodeT} (h:Zd9 a0 a1 a2 a3=some r):FnOk Tryz.prog 79 [(pStr a0),(Ze.pd a1),(Zba.pd a2),(Zba.pd a3)] (Zba.pd r):=by
 have H0:=h
 unfold Zd9 at H0
 clear h
 refine Zbt (N:=21) Tryz.func79 rfl rfl (Qe rfl) rfl rfl (fun a g0 hst hb=>?_)
 refine r_s (T:=[⟨[.o 1],_,[],[],[5]⟩,⟨[],[(8,(Zba.pd shelf_nodeT.nil))],[],[],[8]⟩]) (F:=[.o 0,.o 2,.o 3,.p 0 0]) hst hb Za
  (Qb rfl u_0<|o_p rfl (Zch rfl rfl (Opd.c (fun g=>Zez g)))<|o_n) (fun a g hst hb=>?_)
 obtain ⟨r1,h2,H0⟩:=Zd H0;obtain ⟨r3,h4,H0⟩:=Zd H0
 refine r_s (T:=⟨[.o 0],_,[],[],[9]⟩ :: ⟨[.o 3],_,[],[],[10]⟩ :: ⟨[.o 1],_,[],[],[11]⟩ :: ⟨[.o 2],_,[],[],[12]⟩ :: ⟨[.o 1],_,[],[],[13]⟩ :: ⟨[.p 4 0],_,[],[4],[14]⟩ :: ⟨[.o 2],_,[],[],[15]⟩ :: ⟨[.p 6 0],_,[],[4,5,6],[16]⟩ :: ⟨[.p 5 0,.p 7 0],_,[],List.range' 4 4,[17]⟩ :: ⟨[.p 8 0],_,[],List.range' 4 5,[18]⟩ :: ⟨[.p 0 0,.p 1 0,.p 2 0,.p 3 0,.p 9 0],_,[],Lr 10,[19]⟩ :: ⟨[.p 10 0],_,[],Lr 11,[20]⟩ :: ⟨[.p 11 0],_,[],Lr 12,[8]⟩ :: []) (F:=[.p 12 0]) hst hb Za
  (Qm rfl u_0<|Ql rfl Zbb u_0<|Qm rfl u_0<|Qm rfl u_0<|Qm rfl u_0<|o_p rfl (Zl Zok (Zdv _ h2) rfl rfl (.cons u_0 .nil))<|Qm rfl u_0<|o_p rfl (Zl Zok (Zdv _ h4) rfl rfl (.cons u_0 .nil))<|o_p rfl (Zbz rfl rfl u_0 u_1 rfl)<|o_p rfl (Zbz rfl rfl u_0 c_i rfl)<|o_p rfl (Zvh rfl rfl u_0 u_1 u_2 u_3 u_4)<|Qb rfl u_0<|o_p rfl (Zch rfl rfl (Opd.imp u_0 (fun _ _ h=>Zxa h)))<|o_n) (fun a g hst hb=>?_)
 refine wp_ret ?_
 obtain rfl:=Option.some.inj H0
 exact Z4 rfl hst hb (Zg (s:=8)) (hst.at 0 rfl)
theorem Zml (a0:shelf_nodeT) (a1:shelf_nodeT) {r:Bool} (h:Zjd a0 a1=some r):FnOk Tryz.prog 102 [(Zba.pd a0),(Zba.pd a1)] (Zbd r):=by
 have H0:=h
 unfold Zjd at H0
 clear h
 refine Zbt (N:=13) Tryz.func102 rfl rfl (Qe rfl) rfl rfl (fun a g0 hst hb=>?_)
 refine r_s (T:=[⟨[],_,[],[],[4]⟩]) (F:=[.o 0,.o 1]) hst hb Za
  (Qa rfl c_b<|o_n) (fun a g hst hb=>?_)
 obtain ⟨r1,h2,H0⟩:=Zd H0;obtain ⟨r3,h4,H0⟩:=Zd H0
 refine r_s (T:=[⟨[.o 0],_,[],[],[5]⟩,⟨[.p 0 0],_,[],[0],[6]⟩,⟨[.p 1 0],_,[],[0,1],[7]⟩,⟨[.o 1],_,[],[],[8]⟩,⟨[.p 3 0],_,[],[0,1,3],[9]⟩,⟨[.p 4 0],_,[],[0,1,3,4],[10]⟩,⟨[.p 5 0],_,[],[0,1,3,4,5],[11]⟩,⟨[.p 2 0,.p 6 0],_,[],Lr 7,[12]⟩,⟨[.p 7 0],_,[],Lr 8,[4]⟩]) (F:=[.p 8 0]) hst hb Za
  (Qm rfl u_0<|o_p rfl (Zl Zok (Zdv _ h2) rfl rfl (.cons u_0 .nil))<|o_p rfl (Zbz rfl rfl u_0 c_i rfl)<|Qm rfl u_0<|o_p rfl (Zl Zok (Zdv _ h4) rfl rfl (.cons u_0 .nil))<|o_p rfl (Zbz rfl rfl u_0 c_i rfl)<|o_p rfl (Z0z rfl rfl c_i u_0 rfl)<|o_p rfl (Zcv rfl rfl u_0 u_1)<|Qa rfl u_0<|o_n) (fun a g hst hb=>?_)
 refine wp_ret ?_
 obtain rfl:=Option.some.inj H0
 exact Z4 rfl hst hb (Zg (s:=4)) (hst.at 0 rfl)
theorem Zlh (a0:ByteArray) (a1:Zb) (a2:shelf_nodeT) (a3:shelf_nodeT) {r:shelf_nodeT} (h:Zi8 a0 a1 a2 a3=some r):FnOk Tryz.prog 80 [(pStr a0),(Ze.pd a1),(Zba.pd a2),(Zba.pd a3)] (Zba.pd r):=by
 have H0:=h
 unfold Zi8 at H0
 clear h
 refine Zbt (N:=182) Tryz.func80 rfl rfl (Qe rfl) rfl rfl (fun a g0 hst hb=>?_)
 refine r_s (T:=[⟨[.o 1],_,[],[],[5]⟩,⟨[],[(8,(Zba.pd shelf_nodeT.nil))],[],[],[8]⟩]) (F:=[.o 0,.o 2,.o 3,.p 0 0]) hst hb Za
  (Qb rfl u_0<|o_p rfl (Zch rfl rfl (Opd.c (fun g=>Zez g)))<|o_n) (fun a g hst hb=>?_)
 refine wp_seq ?_
 refine wp_block ?_
 obtain ⟨r1,h2,H0⟩:=Zd H0;obtain ⟨n3,h4,H0⟩:=Zd H0;obtain ⟨r5,h6,H0⟩:=Zd H0;obtain ⟨n7,h8,H0⟩:=Zd H0;obtain ⟨r9,h10,H0⟩:=Zd H0
 refine r_s (T:=⟨[.o 2],_,[],[],[12]⟩ :: ⟨[.o 1],_,[],[],[13]⟩ :: ⟨[.p 0 0,.p 1 0],_,[],[0,1],[14]⟩ :: ⟨[.p 2 0],_,[],[0,1,2],[15]⟩ :: ⟨[.p 3 0,.o 2],_,[],Lr 4,[16]⟩ :: ⟨[.p 3 0,.p 4 0],_,[],Lr 5,[17]⟩ :: ⟨[.p 3 0,.p 5 0],_,[],Lr 6,[18]⟩ :: ⟨[.p 3 0,.p 6 0],_,[],Lr 7,[19]⟩ :: ⟨[.p 3 0,.p 7 0],_,[],Lr 8,[20]⟩ :: ⟨[.p 3 0,.p 8 0],_,[],Lr 9,[21]⟩ :: ⟨[.p 3 0,.o 2],_,[],Lr 4,[22]⟩ :: ⟨[.p 3 0,.p 10 0],_,[],[0,1,2,3,10],[23]⟩ :: ⟨[.p 3 0,.p 11 0],_,[],[0,1,2,3,10,11],[24]⟩ :: ⟨[.p 3 0,.p 12 0],_,[],[0,1,2,3,10,11,12],[25]⟩ :: ⟨[.p 3 0,.p 13 0],_,[],0 :: 1 :: 2 :: 3 :: 4 :: 5 :: 6 :: 7 :: 8 :: 10 :: 11 :: 12 :: 13 :: [],[26]⟩ :: ⟨[.p 3 0,.p 14 0],_,[],0 :: 1 :: 2 :: 3 :: 4 :: 5 :: 6 :: 7 :: 8 :: 10 :: 11 :: 12 :: 13 :: 14 :: [],[27]⟩ :: ⟨[.p 3 0,.p 15 0],_,[],0 :: 1 :: 2 :: 3 :: 4 :: 5 :: 6 :: 7 :: 8 :: 10 :: 11 :: 12 :: 13 :: 14 :: 15 :: [],[28]⟩ :: ⟨[.p 3 0,.p 9 0,.p 16 0],_,[],Lr 17,[29]⟩ :: ⟨[.p 3 0,.p 17 0],_,[],Lr 18,[30]⟩ :: ⟨[.p 18 0],_,[],Lr 19,[11]⟩ :: []) (F:=[.o 0,.o 1,.o 2,.o 3,.p 19 0]) hst hb Za
  (Qm rfl u_0<|Qm rfl u_0<|o_p rfl (Zl Zw0 (Zml _ _ h2) rfl rfl (.cons u_0 (.cons u_1 .nil)))<|Qm rfl u_0<|o_g (Qg_t rfl (fun hG=>Z1 rfl rfl u_0))<|o_g (Qg_t rfl (fun hG=>Zo rfl rfl (Opd.imp (Opd.gd hG u_0) (fun _ _ h=>Zv (Zbn h4 hG) h)) (fun _ _ ⟨_,_,_,e,_⟩=>⟨_,e⟩)))<|o_g (Qg_t rfl (fun hG=>Zh Zer rfl rfl (Opd.gd hG u_0)))<|o_g (Qg_t rfl (fun hG=>Zs Zdh rfl rfl (Opd.gd hG u_0)))<|o_g (Qg_t rfl (fun hG=>Zl Zok (Zdv _ (Zbn h6 hG)) rfl rfl (.cons (Opd.gd hG u_0) .nil)))<|o_g (Qg_t rfl (fun hG=>Zbz rfl rfl (Opd.gd hG u_0) c_i rfl))<|o_g (Qg_t rfl (fun hG=>Z1 rfl rfl u_0))<|o_g (Qg_t rfl (fun hG=>Zo rfl rfl (Opd.imp (Opd.gd hG u_0) (fun _ _ h=>Zv (Zbn h8 hG) h)) (fun _ _ ⟨_,_,_,e,_⟩=>⟨_,e⟩)))<|o_g (Qg_t rfl (fun hG=>Zh Zfq rfl rfl (Opd.gd hG u_0)))<|o_g (Qg_t rfl (fun hG=>Zs Zdh rfl rfl (Opd.gd hG u_0)))<|o_g (Qg_t rfl (fun hG=>Zl Zok (Zdv _ (Zbn h10 hG)) rfl rfl (.cons (Opd.gd hG u_0) .nil)))<|o_g (Qg_t rfl (fun hG=>Zbz rfl rfl (Opd.gd hG u_0) c_i rfl))<|o_g (Qg_t rfl (fun hG=>Z0z rfl rfl c_i (Opd.gd hG u_0) rfl))<|o_g (Qg_t rfl (fun hG=>Zca rfl rfl (Opd.gd hG u_0) (Opd.gd hG u_1)))<|o_p rfl (Zbg rfl rfl u_0 (fun hz=>(Opd.gd hz u_1)))<|Qa rfl u_0<|o_n) (fun a g hst hb=>?_)
 refine wp_cond_split (hst.bool 4 rfl) (fun hc11=>?_) (fun hc11=>?_)
 ·replace H0:=Zu hc11 H0
  obtain ⟨n12,h13,H0⟩:=Zd H0;obtain ⟨r14,h15,H0⟩:=Zd H0;obtain ⟨r16,h17,H0⟩:=Zd H0
  refine r_s (L:=[(0,_),(2,_),(3,_),(5,_)]) (T:=⟨[.o 2],_,[],[],[31]⟩ :: ⟨[.p 0 0],_,[],[0],[32]⟩ :: ⟨[.p 1 0],_,[],[0,1],[33]⟩ :: ⟨[.p 2 0],_,[],[0,1,2],[34]⟩ :: ⟨[.o 2],_,[],[],[35]⟩ :: ⟨[.p 4 0],_,[],[4],[36]⟩ :: ⟨[.p 5 0],_,[],[4,5],[37]⟩ :: ⟨[.p 6 0],_,[],[4,5,6],[38]⟩ :: ⟨[.o 0],_,[],[],[39]⟩ :: ⟨[.o 3],_,[],[],[40]⟩ :: ⟨[.o 1],_,[],[],[41]⟩ :: ⟨[.o 2],_,[],[],[42]⟩ :: ⟨[.p 11 0],_,[],[11],[43]⟩ :: ⟨[.p 12 0],_,[],[11,12],[44]⟩ :: ⟨[.p 13 0],_,[],[11,12,13],[45]⟩ :: ⟨[.p 8 0,.p 9 0,.p 10 0,.p 14 0],_,[],List.range' 8 7,[46]⟩ :: ⟨[.o 2],_,[],[],[47]⟩ :: ⟨[.p 16 0],_,[],[16],[48]⟩ :: ⟨[.p 17 0],_,[],[16,17],[49]⟩ :: ⟨[.p 18 0],_,[],[16,17,18],[50]⟩ :: ⟨[.p 3 0,.p 7 0,.p 15 0,.p 19 0],_,[],Lr 20,[51]⟩ :: ⟨[.p 20 0],_,[],Lr 21,[8]⟩ :: []) (F:=[.p 21 0]) (hst.pick [0,1,2,3] rfl) hb Za
   (Qm rfl u_0<|o_p rfl (Zo rfl rfl (Opd.imp u_0 (fun _ _ h=>Zv h13 h)) (fun _ _ ⟨_,_,_,e,_⟩=>⟨_,e⟩))<|Qf rfl Zfp u_0<|Ql rfl ty_9 u_0<|Qm rfl u_0<|o_p rfl (Zo rfl rfl (Opd.imp u_0 (fun _ _ h=>Zv h13 h)) (fun _ _ ⟨_,_,_,e,_⟩=>⟨_,e⟩))<|Qf rfl Zh9 u_0<|Ql rfl Zbb u_0<|Qm rfl u_0<|Ql rfl Zbb u_0<|Qm rfl u_0<|Qm rfl u_0<|o_p rfl (Zo rfl rfl (Opd.imp u_0 (fun _ _ h=>Zv h13 h)) (fun _ _ ⟨_,_,_,e,_⟩=>⟨_,e⟩))<|Qf rfl Zer u_0<|Ql rfl Zdh u_0<|o_p rfl (Zl Zmh (Zee _ _ _ _ h15) rfl rfl (.cons u_0 (.cons u_1 (.cons u_2 (.cons u_3 .nil)))))<|Qm rfl u_0<|o_p rfl (Zo rfl rfl (Opd.imp u_0 (fun _ _ h=>Zv h13 h)) (fun _ _ ⟨_,_,_,e,_⟩=>⟨_,e⟩))<|Qf rfl Zfq u_0<|Ql rfl Zdh u_0<|o_p rfl (Zl Zmh (Zee _ _ _ _ h17) rfl rfl (.cons u_0 (.cons u_1 (.cons u_2 (.cons u_3 .nil)))))<|Qa rfl u_0<|o_n) (fun a g hst hb=>?_)
  refine wp_ret ?_
  refine Z5 ?_
  refine Zp ?_
  obtain rfl:=Option.some.inj H0
  exact Z4 rfl hst hb (Zg (s:=8)) (hst.at 0 rfl)
 ·replace H0:=Zt hc11 H0
  obtain ⟨r18,h19,H0⟩:=Zd H0
  refine r_s (L:=[(0,_),(2,_),(3,_),(5,_)]) (T:=[⟨[.o 2],_,[],[],[53]⟩,⟨[.o 1],_,[],[],[54]⟩,⟨[.p 0 0,.p 1 0],_,[],[0,1],[55]⟩,⟨[.p 2 0],_,[],[0,1,2],[52]⟩]) (F:=[.o 0,.o 1,.o 2,.o 3,.p 3 0]) (hst.pick [0,1,2,3] rfl) hb Za
   (Qm rfl u_0<|Qm rfl u_0<|o_p rfl (Zl Zw0 (Zml _ _ h19) rfl rfl (.cons u_0 (.cons u_1 .nil)))<|Qa rfl u_0<|o_n) (fun a g hst hb=>?_)
  refine wp_cond_split (hst.bool 4 rfl) (fun hc20=>?_) (fun hc20=>?_)
  ·replace H0:=Zu hc20 H0
   obtain ⟨n21,h22,H0⟩:=Zd H0
   refine r_s (L:=[(0,_),(2,_),(3,_),(5,_)]) (T:=[⟨[.o 2],_,[],[],[56]⟩,⟨[.p 0 0],_,[],[0],[57]⟩,⟨[.p 1 0],_,[],[0,1],[58]⟩,⟨[.p 2 0],_,[],[0,1,2],[59]⟩,⟨[.p 3 0],_,[],Lr 4,[9]⟩]) (F:=[.o 0,.o 1,.o 2,.o 3,.p 4 0]) (hst.pick [0,1,2,3] rfl) hb Za
    (Qm rfl u_0<|o_p rfl (Zo rfl rfl (Opd.imp u_0 (fun _ _ h=>Zv h22 h)) (fun _ _ ⟨_,_,_,e,_⟩=>⟨_,e⟩))<|Qf rfl Zer u_0<|Ql rfl Zdh u_0<|Qa rfl u_0<|o_n) (fun a g hst hb=>?_)
   obtain ⟨n23,h24,H0⟩:=Zd H0;obtain ⟨r25,h26,H0⟩:=Zd H0;obtain ⟨r27,h28,H0⟩:=Zd H0;obtain ⟨r29,h30,H0⟩:=Zd H0
   refine r_s (T:=⟨[.o 4],_,[],[],[60]⟩ :: ⟨[.p 0 0],_,[],[0],[61]⟩ :: ⟨[.p 1 0],_,[],[0,1],[62]⟩ :: ⟨[.p 2 0],_,[],[0,1,2],[63]⟩ :: ⟨[.o 4],_,[],[],[64]⟩ :: ⟨[.p 4 0],_,[],[4],[65]⟩ :: ⟨[.p 5 0],_,[],[4,5],[66]⟩ :: ⟨[.p 6 0],_,[],[4,5,6],[67]⟩ :: ⟨[.o 0],_,[],[],[68]⟩ :: ⟨[.o 3],_,[],[],[69]⟩ :: ⟨[.o 1],_,[],[],[70]⟩ :: ⟨[.o 4],_,[],[],[71]⟩ :: ⟨[.p 11 0],_,[],[11],[72]⟩ :: ⟨[.p 12 0],_,[],[11,12],[73]⟩ :: ⟨[.p 13 0],_,[],[11,12,13],[74]⟩ :: ⟨[.p 8 0,.p 9 0,.p 10 0,.p 14 0],_,[],List.range' 8 7,[75]⟩ :: ⟨[.o 2],_,[],[],[76]⟩ :: ⟨[.p 16 0],_,[],[16],[77]⟩ :: ⟨[.p 17 0],_,[],[16,17],[78]⟩ :: ⟨[.p 18 0],_,[],[16,17,18],[79]⟩ :: ⟨[.o 2],_,[],[],[80]⟩ :: ⟨[.p 20 0],_,[],[20],[81]⟩ :: ⟨[.p 21 0],_,[],[20,21],[82]⟩ :: ⟨[.p 22 0],_,[],[20,21,22],[83]⟩ :: ⟨[.o 4],_,[],[],[84]⟩ :: ⟨[.p 24 0],_,[],[24],[85]⟩ :: ⟨[.p 25 0],_,[],[24,25],[86]⟩ :: ⟨[.p 26 0],_,[],[24,25,26],[87]⟩ :: ⟨[.o 2],_,[],[],[88]⟩ :: ⟨[.p 28 0],_,[],[28],[89]⟩ :: ⟨[.p 29 0],_,[],[28,29],[90]⟩ :: ⟨[.p 30 0],_,[],[28,29,30],[91]⟩ :: ⟨[.p 19 0,.p 23 0,.p 27 0,.p 31 0],_,[],List.range' 8 24,[92]⟩ :: ⟨[.p 3 0,.p 7 0,.p 15 0,.p 32 0],_,[],Lr 33,[93]⟩ :: ⟨[.p 33 0],_,[],Lr 34,[8]⟩ :: []) (F:=[.p 34 0]) hst hb Za
    (Qm rfl u_0<|o_p rfl (Zo rfl rfl (Opd.imp u_0 (fun _ _ h=>Zv h24 h)) (fun _ _ ⟨_,_,_,e,_⟩=>⟨_,e⟩))<|Qf rfl Zfp u_0<|Ql rfl ty_9 u_0<|Qm rfl u_0<|o_p rfl (Zo rfl rfl (Opd.imp u_0 (fun _ _ h=>Zv h24 h)) (fun _ _ ⟨_,_,_,e,_⟩=>⟨_,e⟩))<|Qf rfl Zh9 u_0<|Ql rfl Zbb u_0<|Qm rfl u_0<|Ql rfl Zbb u_0<|Qm rfl u_0<|Qm rfl u_0<|o_p rfl (Zo rfl rfl (Opd.imp u_0 (fun _ _ h=>Zv h24 h)) (fun _ _ ⟨_,_,_,e,_⟩=>⟨_,e⟩))<|Qf rfl Zer u_0<|Ql rfl Zdh u_0<|o_p rfl (Zl Zmh (Zee _ _ _ _ h26) rfl rfl (.cons u_0 (.cons u_1 (.cons u_2 (.cons u_3 .nil)))))<|Qm rfl u_0<|o_p rfl (Zo rfl rfl (Opd.imp u_0 (fun _ _ h=>Zv h22 h)) (fun _ _ ⟨_,_,_,e,_⟩=>⟨_,e⟩))<|Qf rfl Zfp u_0<|Ql rfl ty_9 u_0<|Qm rfl u_0<|o_p rfl (Zo rfl rfl (Opd.imp u_0 (fun _ _ h=>Zv h22 h)) (fun _ _ ⟨_,_,_,e,_⟩=>⟨_,e⟩))<|Qf rfl Zh9 u_0<|Ql rfl Zbb u_0<|Qm rfl u_0<|o_p rfl (Zo rfl rfl (Opd.imp u_0 (fun _ _ h=>Zv h24 h)) (fun _ _ ⟨_,_,_,e,_⟩=>⟨_,e⟩))<|Qf rfl Zfq u_0<|Ql rfl Zdh u_0<|Qm rfl u_0<|o_p rfl (Zo rfl rfl (Opd.imp u_0 (fun _ _ h=>Zv h22 h)) (fun _ _ ⟨_,_,_,e,_⟩=>⟨_,e⟩))<|Qf rfl Zfq u_0<|Ql rfl Zdh u_0<|o_p rfl (Zl Zmh (Zee _ _ _ _ h28) rfl rfl (.cons u_0 (.cons u_1 (.cons u_2 (.cons u_3 .nil)))))<|o_p rfl (Zl Zmh (Zee _ _ _ _ h30) rfl rfl (.cons u_0 (.cons u_1 (.cons u_2 (.cons u_3 .nil)))))<|Qa rfl u_0<|o_n) (fun a g hst hb=>?_)
   refine wp_ret ?_
   refine Z5 ?_
   refine Zp ?_
   obtain rfl:=Option.some.inj H0
   exact Z4 rfl hst hb (Zg (s:=8)) (hst.at 0 rfl)
  ·replace H0:=Zt hc20 H0
   obtain ⟨r31,h32,H0⟩:=Zd H0;obtain ⟨n33,h34,H0⟩:=Zd H0;obtain ⟨r35,h36,H0⟩:=Zd H0;obtain ⟨n37,h38,H0⟩:=Zd H0;obtain ⟨r39,h40,H0⟩:=Zd H0
   refine r_s (L:=[(0,_),(2,_),(3,_),(5,_)]) (T:=⟨[.o 1],_,[],[],[95]⟩ :: ⟨[.o 2],_,[],[],[96]⟩ :: ⟨[.p 0 0,.p 1 0],_,[],[0,1],[97]⟩ :: ⟨[.p 2 0],_,[],[0,1,2],[98]⟩ :: ⟨[.p 3 0,.o 1],_,[],Lr 4,[99]⟩ :: ⟨[.p 3 0,.p 4 0],_,[],Lr 5,[100]⟩ :: ⟨[.p 3 0,.p 5 0],_,[],Lr 6,[101]⟩ :: ⟨[.p 3 0,.p 6 0],_,[],Lr 7,[102]⟩ :: ⟨[.p 3 0,.p 7 0],_,[],Lr 8,[103]⟩ :: ⟨[.p 3 0,.p 8 0],_,[],Lr 9,[104]⟩ :: ⟨[.p 3 0,.o 1],_,[],Lr 4,[105]⟩ :: ⟨[.p 3 0,.p 10 0],_,[],[0,1,2,3,10],[106]⟩ :: ⟨[.p 3 0,.p 11 0],_,[],[0,1,2,3,10,11],[107]⟩ :: ⟨[.p 3 0,.p 12 0],_,[],[0,1,2,3,10,11,12],[108]⟩ :: ⟨[.p 3 0,.p 13 0],_,[],0 :: 1 :: 2 :: 3 :: 4 :: 5 :: 6 :: 7 :: 8 :: 10 :: 11 :: 12 :: 13 :: [],[109]⟩ :: ⟨[.p 3 0,.p 14 0],_,[],0 :: 1 :: 2 :: 3 :: 4 :: 5 :: 6 :: 7 :: 8 :: 10 :: 11 :: 12 :: 13 :: 14 :: [],[110]⟩ :: ⟨[.p 3 0,.p 15 0],_,[],0 :: 1 :: 2 :: 3 :: 4 :: 5 :: 6 :: 7 :: 8 :: 10 :: 11 :: 12 :: 13 :: 14 :: 15 :: [],[111]⟩ :: ⟨[.p 3 0,.p 9 0,.p 16 0],_,[],Lr 17,[112]⟩ :: ⟨[.p 3 0,.p 17 0],_,[],Lr 18,[113]⟩ :: ⟨[.p 18 0],_,[],Lr 19,[94]⟩ :: []) (F:=[.o 0,.o 1,.o 2,.o 3,.p 19 0]) (hst.pick [0,1,2,3] rfl) hb Za
    (Qm rfl u_0<|Qm rfl u_0<|o_p rfl (Zl Zw0 (Zml _ _ h32) rfl rfl (.cons u_0 (.cons u_1 .nil)))<|Qm rfl u_0<|o_g (Qg_t rfl (fun hG=>Z1 rfl rfl u_0))<|o_g (Qg_t rfl (fun hG=>Zo rfl rfl (Opd.imp (Opd.gd hG u_0) (fun _ _ h=>Zv (Zbn h34 hG) h)) (fun _ _ ⟨_,_,_,e,_⟩=>⟨_,e⟩)))<|o_g (Qg_t rfl (fun hG=>Zh Zfq rfl rfl (Opd.gd hG u_0)))<|o_g (Qg_t rfl (fun hG=>Zs Zdh rfl rfl (Opd.gd hG u_0)))<|o_g (Qg_t rfl (fun hG=>Zl Zok (Zdv _ (Zbn h36 hG)) rfl rfl (.cons (Opd.gd hG u_0) .nil)))<|o_g (Qg_t rfl (fun hG=>Zbz rfl rfl (Opd.gd hG u_0) c_i rfl))<|o_g (Qg_t rfl (fun hG=>Z1 rfl rfl u_0))<|o_g (Qg_t rfl (fun hG=>Zo rfl rfl (Opd.imp (Opd.gd hG u_0) (fun _ _ h=>Zv (Zbn h38 hG) h)) (fun _ _ ⟨_,_,_,e,_⟩=>⟨_,e⟩)))<|o_g (Qg_t rfl (fun hG=>Zh Zer rfl rfl (Opd.gd hG u_0)))<|o_g (Qg_t rfl (fun hG=>Zs Zdh rfl rfl (Opd.gd hG u_0)))<|o_g (Qg_t rfl (fun hG=>Zl Zok (Zdv _ (Zbn h40 hG)) rfl rfl (.cons (Opd.gd hG u_0) .nil)))<|o_g (Qg_t rfl (fun hG=>Zbz rfl rfl (Opd.gd hG u_0) c_i rfl))<|o_g (Qg_t rfl (fun hG=>Z0z rfl rfl c_i (Opd.gd hG u_0) rfl))<|o_g (Qg_t rfl (fun hG=>Zca rfl rfl (Opd.gd hG u_0) (Opd.gd hG u_1)))<|o_p rfl (Zbg rfl rfl u_0 (fun hz=>(Opd.gd hz u_1)))<|Qa rfl u_0<|o_n) (fun a g hst hb=>?_)
   refine wp_cond_split (hst.bool 4 rfl) (fun hc41=>?_) (fun hc41=>?_)
   ·replace H0:=Zu hc41 H0
    obtain ⟨n42,h43,H0⟩:=Zd H0;obtain ⟨r44,h45,H0⟩:=Zd H0;obtain ⟨r46,h47,H0⟩:=Zd H0
    refine r_s (L:=[(0,_),(2,_),(3,_),(5,_)]) (T:=⟨[.o 1],_,[],[],[114]⟩ :: ⟨[.p 0 0],_,[],[0],[115]⟩ :: ⟨[.p 1 0],_,[],[0,1],[116]⟩ :: ⟨[.p 2 0],_,[],[0,1,2],[117]⟩ :: ⟨[.o 1],_,[],[],[118]⟩ :: ⟨[.p 4 0],_,[],[4],[119]⟩ :: ⟨[.p 5 0],_,[],[4,5],[120]⟩ :: ⟨[.p 6 0],_,[],[4,5,6],[121]⟩ :: ⟨[.o 1],_,[],[],[122]⟩ :: ⟨[.p 8 0],_,[],[8],[123]⟩ :: ⟨[.p 9 0],_,[],[8,9],[124]⟩ :: ⟨[.p 10 0],_,[],[8,9,10],[125]⟩ :: ⟨[.o 0],_,[],[],[126]⟩ :: ⟨[.o 3],_,[],[],[127]⟩ :: ⟨[.o 1],_,[],[],[128]⟩ :: ⟨[.p 14 0],_,[],[14],[129]⟩ :: ⟨[.p 15 0],_,[],[14,15],[130]⟩ :: ⟨[.p 16 0],_,[],[14,15,16],[131]⟩ :: ⟨[.o 2],_,[],[],[132]⟩ :: ⟨[.p 12 0,.p 13 0,.p 17 0,.p 18 0],_,[],List.range' 12 7,[133]⟩ :: ⟨[.p 3 0,.p 7 0,.p 11 0,.p 19 0],_,[],Lr 20,[134]⟩ :: ⟨[.p 20 0],_,[],Lr 21,[8]⟩ :: []) (F:=[.p 21 0]) (hst.pick [0,1,2,3] rfl) hb Za
     (Qm rfl u_0<|o_p rfl (Zo rfl rfl (Opd.imp u_0 (fun _ _ h=>Zv h43 h)) (fun _ _ ⟨_,_,_,e,_⟩=>⟨_,e⟩))<|Qf rfl Zfp u_0<|Ql rfl ty_9 u_0<|Qm rfl u_0<|o_p rfl (Zo rfl rfl (Opd.imp u_0 (fun _ _ h=>Zv h43 h)) (fun _ _ ⟨_,_,_,e,_⟩=>⟨_,e⟩))<|Qf rfl Zh9 u_0<|Ql rfl Zbb u_0<|Qm rfl u_0<|o_p rfl (Zo rfl rfl (Opd.imp u_0 (fun _ _ h=>Zv h43 h)) (fun _ _ ⟨_,_,_,e,_⟩=>⟨_,e⟩))<|Qf rfl Zer u_0<|Ql rfl Zdh u_0<|Qm rfl u_0<|Ql rfl Zbb u_0<|Qm rfl u_0<|o_p rfl (Zo rfl rfl (Opd.imp u_0 (fun _ _ h=>Zv h43 h)) (fun _ _ ⟨_,_,_,e,_⟩=>⟨_,e⟩))<|Qf rfl Zfq u_0<|Ql rfl Zdh u_0<|Qm rfl u_0<|o_p rfl (Zl Zmh (Zee _ _ _ _ h45) rfl rfl (.cons u_0 (.cons u_1 (.cons u_2 (.cons u_3 .nil)))))<|o_p rfl (Zl Zmh (Zee _ _ _ _ h47) rfl rfl (.cons u_0 (.cons u_1 (.cons u_2 (.cons u_3 .nil)))))<|Qa rfl u_0<|o_n) (fun a g hst hb=>?_)
    refine wp_ret ?_
    refine Z5 ?_
    refine Zp ?_
    obtain rfl:=Option.some.inj H0
    exact Z4 rfl hst hb (Zg (s:=8)) (hst.at 0 rfl)
   ·replace H0:=Zt hc41 H0
    obtain ⟨r48,h49,H0⟩:=Zd H0
    refine r_s (L:=[(0,_),(2,_),(3,_),(5,_)]) (T:=[⟨[.o 1],_,[],[],[136]⟩,⟨[.o 2],_,[],[],[137]⟩,⟨[.p 0 0,.p 1 0],_,[],[0,1],[138]⟩,⟨[.p 2 0],_,[],[0,1,2],[135]⟩]) (F:=[.o 0,.o 1,.o 2,.o 3,.p 3 0]) (hst.pick [0,1,2,3] rfl) hb Za
     (Qm rfl u_0<|Qm rfl u_0<|o_p rfl (Zl Zw0 (Zml _ _ h49) rfl rfl (.cons u_0 (.cons u_1 .nil)))<|Qa rfl u_0<|o_n) (fun a g hst hb=>?_)
    refine wp_cond_split (hst.bool 4 rfl) (fun hc50=>?_) (fun hc50=>?_)
    ·replace H0:=Zu hc50 H0
     obtain ⟨n51,h52,H0⟩:=Zd H0
     refine r_s (L:=[(0,_),(2,_),(3,_),(5,_)]) (T:=[⟨[.o 1],_,[],[],[139]⟩,⟨[.p 0 0],_,[],[0],[140]⟩,⟨[.p 1 0],_,[],[0,1],[141]⟩,⟨[.p 2 0],_,[],[0,1,2],[142]⟩,⟨[.p 3 0],_,[],Lr 4,[10]⟩]) (F:=[.o 0,.o 1,.o 2,.o 3,.p 4 0]) (hst.pick [0,1,2,3] rfl) hb Za
      (Qm rfl u_0<|o_p rfl (Zo rfl rfl (Opd.imp u_0 (fun _ _ h=>Zv h52 h)) (fun _ _ ⟨_,_,_,e,_⟩=>⟨_,e⟩))<|Qf rfl Zfq u_0<|Ql rfl Zdh u_0<|Qa rfl u_0<|o_n) (fun a g hst hb=>?_)
     obtain ⟨n53,h54,H0⟩:=Zd H0;obtain ⟨r55,h56,H0⟩:=Zd H0;obtain ⟨r57,h58,H0⟩:=Zd H0;obtain ⟨r59,h60,H0⟩:=Zd H0
     refine r_s (T:=⟨[.o 4],_,[],[],[143]⟩ :: ⟨[.p 0 0],_,[],[0],[144]⟩ :: ⟨[.p 1 0],_,[],[0,1],[145]⟩ :: ⟨[.p 2 0],_,[],[0,1,2],[146]⟩ :: ⟨[.o 4],_,[],[],[147]⟩ :: ⟨[.p 4 0],_,[],[4],[148]⟩ :: ⟨[.p 5 0],_,[],[4,5],[149]⟩ :: ⟨[.p 6 0],_,[],[4,5,6],[150]⟩ :: ⟨[.o 1],_,[],[],[151]⟩ :: ⟨[.p 8 0],_,[],[8],[152]⟩ :: ⟨[.p 9 0],_,[],[8,9],[153]⟩ :: ⟨[.p 10 0],_,[],[8,9,10],[154]⟩ :: ⟨[.o 1],_,[],[],[155]⟩ :: ⟨[.p 12 0],_,[],[12],[156]⟩ :: ⟨[.p 13 0],_,[],[12,13],[157]⟩ :: ⟨[.p 14 0],_,[],[12,13,14],[158]⟩ :: ⟨[.o 1],_,[],[],[159]⟩ :: ⟨[.p 16 0],_,[],[16],[160]⟩ :: ⟨[.p 17 0],_,[],[16,17],[161]⟩ :: ⟨[.p 18 0],_,[],[16,17,18],[162]⟩ :: ⟨[.o 4],_,[],[],[163]⟩ :: ⟨[.p 20 0],_,[],[20],[164]⟩ :: ⟨[.p 21 0],_,[],[20,21],[165]⟩ :: ⟨[.p 22 0],_,[],[20,21,22],[166]⟩ :: ⟨[.p 11 0,.p 15 0,.p 19 0,.p 23 0],_,[],List.range' 8 16,[167]⟩ :: ⟨[.o 0],_,[],[],[168]⟩ :: ⟨[.o 3],_,[],[],[169]⟩ :: ⟨[.o 4],_,[],[],[170]⟩ :: ⟨[.p 27 0],_,[],[27],[171]⟩ :: ⟨[.p 28 0],_,[],[27,28],[172]⟩ :: ⟨[.p 29 0],_,[],[27,28,29],[173]⟩ :: ⟨[.o 2],_,[],[],[174]⟩ :: ⟨[.p 25 0,.p 26 0,.p 30 0,.p 31 0],_,[],List.range' 8 24,[175]⟩ :: ⟨[.p 3 0,.p 7 0,.p 24 0,.p 32 0],_,[],Lr 33,[176]⟩ :: ⟨[.p 33 0],_,[],Lr 34,[8]⟩ :: []) (F:=[.p 34 0]) hst hb Za
      (Qm rfl u_0<|o_p rfl (Zo rfl rfl (Opd.imp u_0 (fun _ _ h=>Zv h54 h)) (fun _ _ ⟨_,_,_,e,_⟩=>⟨_,e⟩))<|Qf rfl Zfp u_0<|Ql rfl ty_9 u_0<|Qm rfl u_0<|o_p rfl (Zo rfl rfl (Opd.imp u_0 (fun _ _ h=>Zv h54 h)) (fun _ _ ⟨_,_,_,e,_⟩=>⟨_,e⟩))<|Qf rfl Zh9 u_0<|Ql rfl Zbb u_0<|Qm rfl u_0<|o_p rfl (Zo rfl rfl (Opd.imp u_0 (fun _ _ h=>Zv h52 h)) (fun _ _ ⟨_,_,_,e,_⟩=>⟨_,e⟩))<|Qf rfl Zfp u_0<|Ql rfl ty_9 u_0<|Qm rfl u_0<|o_p rfl (Zo rfl rfl (Opd.imp u_0 (fun _ _ h=>Zv h52 h)) (fun _ _ ⟨_,_,_,e,_⟩=>⟨_,e⟩))<|Qf rfl Zh9 u_0<|Ql rfl Zbb u_0<|Qm rfl u_0<|o_p rfl (Zo rfl rfl (Opd.imp u_0 (fun _ _ h=>Zv h52 h)) (fun _ _ ⟨_,_,_,e,_⟩=>⟨_,e⟩))<|Qf rfl Zer u_0<|Ql rfl Zdh u_0<|Qm rfl u_0<|o_p rfl (Zo rfl rfl (Opd.imp u_0 (fun _ _ h=>Zv h54 h)) (fun _ _ ⟨_,_,_,e,_⟩=>⟨_,e⟩))<|Qf rfl Zer u_0<|Ql rfl Zdh u_0<|o_p rfl (Zl Zmh (Zee _ _ _ _ h56) rfl rfl (.cons u_0 (.cons u_1 (.cons u_2 (.cons u_3 .nil)))))<|Qm rfl u_0<|Ql rfl Zbb u_0<|Qm rfl u_0<|o_p rfl (Zo rfl rfl (Opd.imp u_0 (fun _ _ h=>Zv h54 h)) (fun _ _ ⟨_,_,_,e,_⟩=>⟨_,e⟩))<|Qf rfl Zfq u_0<|Ql rfl Zdh u_0<|Qm rfl u_0<|o_p rfl (Zl Zmh (Zee _ _ _ _ h58) rfl rfl (.cons u_0 (.cons u_1 (.cons u_2 (.cons u_3 .nil)))))<|o_p rfl (Zl Zmh (Zee _ _ _ _ h60) rfl rfl (.cons u_0 (.cons u_1 (.cons u_2 (.cons u_3 .nil)))))<|Qa rfl u_0<|o_n) (fun a g hst hb=>?_)
     refine wp_ret ?_
     refine Z5 ?_
     refine Zp ?_
     obtain rfl:=Option.some.inj H0
     exact Z4 rfl hst hb (Zg (s:=8)) (hst.at 0 rfl)
    ·replace H0:=Zt hc50 H0
     refine wp_skip ?_
     refine Zbc ?_
     refine Zq ?_
     obtain ⟨r61,h62,H0⟩:=Zd H0
     refine r_s (L:=[(0,_),(2,_),(3,_),(5,_)]) (T:=[⟨[.o 0],_,[],[],[177]⟩,⟨[.o 3],_,[],[],[178]⟩,⟨[.o 1],_,[],[],[179]⟩,⟨[.o 2],_,[],[],[180]⟩,⟨[.p 0 0,.p 1 0,.p 2 0,.p 3 0],_,[],Lr 4,[181]⟩,⟨[.p 4 0],_,[],Lr 5,[8]⟩]) (F:=[.p 5 0]) (hst.pick [0,1,2,3] rfl) hb Za
      (Qm rfl u_0<|Ql rfl Zbb u_0<|Qm rfl u_0<|Qm rfl u_0<|o_p rfl (Zl Zmh (Zee _ _ _ _ h62) rfl rfl (.cons u_0 (.cons u_1 (.cons u_2 (.cons u_3 .nil)))))<|Qa rfl u_0<|o_n) (fun a g hst hb=>?_)
     refine wp_ret ?_
     obtain rfl:=Option.some.inj H0
     exact Z4 rfl hst hb (Zg (s:=8)) (hst.at 0 rfl)
theorem Zsg (self:shelf_nodeT → ByteArray → Zb → Option (shelf_nodeT)) (hself:∀ (a0:shelf_nodeT) (a1:ByteArray) (a2:Zb) {r:shelf_nodeT},self a0 a1 a2=some r → FnOk Tryz.prog 52 [(Zba.pd a0),(pStr a1),(Ze.pd a2)] (Zba.pd r)) (a0:shelf_nodeT) (a1:ByteArray) (a2:Zb) {r:shelf_nodeT} (h:Zjq self a0 a1 a2=some r):FnOk Tryz.prog 52 [(Zba.pd a0),(pStr a1),(Ze.pd a2)] (Zba.pd r):=by
 have H0:=h
 unfold Zjq at H0
 clear h
 refine Zbt (N:=78) Tryz.func52 rfl rfl (Qe rfl) rfl rfl (fun a g0 hst hb=>?_)
 refine r_s (T:=[⟨[.o 2],_,[],[],[5]⟩,⟨[],[(6,(Zba.pd shelf_nodeT.nil))],[],[],[6]⟩]) (F:=[.o 0,.o 1,.p 0 0]) hst hb Za
  (Qb rfl u_0<|o_p rfl (Zch rfl rfl (Opd.c (fun g=>Zez g)))<|o_n) (fun a g hst hb=>?_)
 refine wp_seq ?_
 refine wp_block ?_
 refine r_s (T:=[⟨[.o 0],_,[],[],[8]⟩,⟨[.p 0 0],_,[],[0],[9]⟩,⟨[.p 1 0],_,[],[0,1],[7]⟩]) (F:=[.o 0,.o 1,.o 2,.p 2 0]) hst hb Za
  (Qm rfl u_0<|o_p rfl (Zow Tryz.underlying28 rfl rfl u_0 (Zfw _))<|Qa rfl u_0<|o_n) (fun a g hst hb=>?_)
 refine wp_cond_split (hst.bool 3 rfl) (fun hc1=>?_) (fun hc1=>?_)
 ·replace H0:=Zu hc1 H0
  obtain ⟨r2,h3,H0⟩:=Zd H0
  refine r_s (L:=[(1,_),(5,_)]) (T:=[⟨[.o 0],_,[],[],[10]⟩,⟨[.o 1],_,[],[],[11]⟩,⟨[.p 0 0,.p 1 0],[(12,(Zba.pd r2))],[],[0,1],[12]⟩,⟨[.p 2 0],_,[],[0,1,2],[6]⟩]) (F:=[.p 3 0]) (hst.pick [1,2] rfl) hb Za
   (Qm rfl u_0<|Ql rfl Zbb u_0<|o_p rfl (Zl Zmh (Zee _ _ _ _ h3) rfl rfl (.cons u_0 (.cons u_1 (.cons (Opd.c (fun g=>Zez g)) (.cons (Opd.c (fun g=>Zez g)) .nil)))))<|Qa rfl u_0<|o_n) (fun a g hst hb=>?_)
  refine wp_ret ?_
  refine Z5 ?_
  refine Zp ?_
  obtain rfl:=Option.some.inj H0
  exact Z4 rfl hst hb (Zg (s:=6)) (hst.at 0 rfl)
 ·replace H0:=Zt hc1 H0
  obtain ⟨n4,h5,H0⟩:=Zd H0
  refine r_s (L:=[(0,_),(1,_),(5,_)]) (T:=[⟨[.o 1],_,[],[],[14]⟩,⟨[.o 0],_,[],[],[15]⟩,⟨[.p 1 0],_,[],[1],[16]⟩,⟨[.p 2 0],_,[],[1,2],[17]⟩,⟨[.p 3 0],_,[],[1,2,3],[18]⟩,⟨[.p 0 0,.p 4 0],_,[],Lr 5,[19]⟩,⟨[.p 5 0],_,[],Lr 6,[13]⟩]) (F:=[.o 0,.o 1,.o 2,.p 6 0]) (hst.pick [0,1,2] rfl) hb Za
   (Qm rfl u_0<|Qm rfl u_0<|o_p rfl (Zo rfl rfl (Opd.imp u_0 (fun _ _ h=>Zv h5 h)) (fun _ _ ⟨_,_,_,e,_⟩=>⟨_,e⟩))<|Qf rfl Zfp u_0<|Ql rfl ty_9 u_0<|o_p rfl (Zni rfl rfl u_0 u_1)<|Qa rfl u_0<|o_n) (fun a g hst hb=>?_)
  refine wp_cond_split (hst.bool 3 rfl) (fun hc6=>?_) (fun hc6=>?_)
  ·replace H0:=Zu hc6 H0
   obtain ⟨r7,h8,H0⟩:=Zd H0;obtain ⟨r9,h10,H0⟩:=Zd H0
   refine r_s (L:=[(0,_),(1,_),(5,_)]) (T:=⟨[.o 0],_,[],[],[20]⟩ :: ⟨[.p 0 0],_,[],[0],[21]⟩ :: ⟨[.p 1 0],_,[],[0,1],[22]⟩ :: ⟨[.p 2 0],_,[],[0,1,2],[23]⟩ :: ⟨[.o 0],_,[],[],[24]⟩ :: ⟨[.p 4 0],_,[],[4],[25]⟩ :: ⟨[.p 5 0],_,[],[4,5],[26]⟩ :: ⟨[.p 6 0],_,[],[4,5,6],[27]⟩ :: ⟨[.o 0],_,[],[],[28]⟩ :: ⟨[.p 8 0],_,[],[8],[29]⟩ :: ⟨[.p 9 0],_,[],[8,9],[30]⟩ :: ⟨[.p 10 0],_,[],[8,9,10],[31]⟩ :: ⟨[.o 1],_,[],[],[32]⟩ :: ⟨[.o 2],_,[],[],[33]⟩ :: ⟨[.p 11 0,.p 12 0,.p 13 0],_,[],List.range' 8 6,[34]⟩ :: ⟨[.o 0],_,[],[],[35]⟩ :: ⟨[.p 15 0],_,[],[15],[36]⟩ :: ⟨[.p 16 0],_,[],[15,16],[37]⟩ :: ⟨[.p 17 0],_,[],[15,16,17],[38]⟩ :: ⟨[.p 3 0,.p 7 0,.p 14 0,.p 18 0],_,[],Lr 19,[39]⟩ :: ⟨[.p 19 0],_,[],Lr 20,[6]⟩ :: []) (F:=[.p 20 0]) (hst.pick [0,1,2] rfl) hb Za
    (Qm rfl u_0<|o_p rfl (Zo rfl rfl (Opd.imp u_0 (fun _ _ h=>Zv h5 h)) (fun _ _ ⟨_,_,_,e,_⟩=>⟨_,e⟩))<|Qf rfl Zfp u_0<|Ql rfl ty_9 u_0<|Qm rfl u_0<|o_p rfl (Zo rfl rfl (Opd.imp u_0 (fun _ _ h=>Zv h5 h)) (fun _ _ ⟨_,_,_,e,_⟩=>⟨_,e⟩))<|Qf rfl Zh9 u_0<|Ql rfl Zbb u_0<|Qm rfl u_0<|o_p rfl (Zo rfl rfl (Opd.imp u_0 (fun _ _ h=>Zv h5 h)) (fun _ _ ⟨_,_,_,e,_⟩=>⟨_,e⟩))<|Qf rfl Zer u_0<|Ql rfl Zdh u_0<|Qm rfl u_0<|Ql rfl Zbb u_0<|o_p rfl (Zl Z4h (hself _ _ _ h8) rfl rfl (.cons u_0 (.cons u_1 (.cons u_2 .nil))))<|Qm rfl u_0<|o_p rfl (Zo rfl rfl (Opd.imp u_0 (fun _ _ h=>Zv h5 h)) (fun _ _ ⟨_,_,_,e,_⟩=>⟨_,e⟩))<|Qf rfl Zfq u_0<|Ql rfl Zdh u_0<|o_p rfl (Zl Zwp (Zlh _ _ _ _ h10) rfl rfl (.cons u_0 (.cons u_1 (.cons u_2 (.cons u_3 .nil)))))<|Qa rfl u_0<|o_n) (fun a g hst hb=>?_)
   refine wp_ret ?_
   refine Z5 ?_
   refine Zp ?_
   obtain rfl:=Option.some.inj H0
   exact Z4 rfl hst hb (Zg (s:=6)) (hst.at 0 rfl)
  ·replace H0:=Zt hc6 H0
   refine r_s (L:=[(0,_),(1,_),(5,_)]) (T:=[⟨[.o 1],_,[],[],[41]⟩,⟨[.o 0],_,[],[],[42]⟩,⟨[.p 1 0],_,[],[1],[43]⟩,⟨[.p 2 0],_,[],[1,2],[44]⟩,⟨[.p 3 0],_,[],[1,2,3],[45]⟩,⟨[.p 0 0,.p 4 0],_,[],Lr 5,[46]⟩,⟨[.p 5 0],_,[],Lr 6,[40]⟩]) (F:=[.o 0,.o 1,.o 2,.p 6 0]) (hst.pick [0,1,2] rfl) hb Za
    (Qm rfl u_0<|Qm rfl u_0<|o_p rfl (Zo rfl rfl (Opd.imp u_0 (fun _ _ h=>Zv h5 h)) (fun _ _ ⟨_,_,_,e,_⟩=>⟨_,e⟩))<|Qf rfl Zfp u_0<|Ql rfl ty_9 u_0<|o_p rfl (Zwb rfl rfl u_0 u_1)<|Qa rfl u_0<|o_n) (fun a g hst hb=>?_)
   refine wp_cond_split (hst.bool 3 rfl) (fun hc11=>?_) (fun hc11=>?_)
   ·replace H0:=Zu hc11 H0
    obtain ⟨r12,h13,H0⟩:=Zd H0;obtain ⟨r14,h15,H0⟩:=Zd H0
    refine r_s (L:=[(0,_),(1,_),(5,_)]) (T:=⟨[.o 0],_,[],[],[47]⟩ :: ⟨[.p 0 0],_,[],[0],[48]⟩ :: ⟨[.p 1 0],_,[],[0,1],[49]⟩ :: ⟨[.p 2 0],_,[],[0,1,2],[50]⟩ :: ⟨[.o 0],_,[],[],[51]⟩ :: ⟨[.p 4 0],_,[],[4],[52]⟩ :: ⟨[.p 5 0],_,[],[4,5],[53]⟩ :: ⟨[.p 6 0],_,[],[4,5,6],[54]⟩ :: ⟨[.o 0],_,[],[],[55]⟩ :: ⟨[.p 8 0],_,[],[8],[56]⟩ :: ⟨[.p 9 0],_,[],[8,9],[57]⟩ :: ⟨[.p 10 0],_,[],[8,9,10],[58]⟩ :: ⟨[.o 0],_,[],[],[59]⟩ :: ⟨[.p 12 0],_,[],[12],[60]⟩ :: ⟨[.p 13 0],_,[],[12,13],[61]⟩ :: ⟨[.p 14 0],_,[],[12,13,14],[62]⟩ :: ⟨[.o 1],_,[],[],[63]⟩ :: ⟨[.o 2],_,[],[],[64]⟩ :: ⟨[.p 15 0,.p 16 0,.p 17 0],_,[],List.range' 12 6,[65]⟩ :: ⟨[.p 3 0,.p 7 0,.p 11 0,.p 18 0],_,[],Lr 19,[66]⟩ :: ⟨[.p 19 0],_,[],Lr 20,[6]⟩ :: []) (F:=[.p 20 0]) (hst.pick [0,1,2] rfl) hb Za
     (Qm rfl u_0<|o_p rfl (Zo rfl rfl (Opd.imp u_0 (fun _ _ h=>Zv h5 h)) (fun _ _ ⟨_,_,_,e,_⟩=>⟨_,e⟩))<|Qf rfl Zfp u_0<|Ql rfl ty_9 u_0<|Qm rfl u_0<|o_p rfl (Zo rfl rfl (Opd.imp u_0 (fun _ _ h=>Zv h5 h)) (fun _ _ ⟨_,_,_,e,_⟩=>⟨_,e⟩))<|Qf rfl Zh9 u_0<|Ql rfl Zbb u_0<|Qm rfl u_0<|o_p rfl (Zo rfl rfl (Opd.imp u_0 (fun _ _ h=>Zv h5 h)) (fun _ _ ⟨_,_,_,e,_⟩=>⟨_,e⟩))<|Qf rfl Zer u_0<|Ql rfl Zdh u_0<|Qm rfl u_0<|o_p rfl (Zo rfl rfl (Opd.imp u_0 (fun _ _ h=>Zv h5 h)) (fun _ _ ⟨_,_,_,e,_⟩=>⟨_,e⟩))<|Qf rfl Zfq u_0<|Ql rfl Zdh u_0<|Qm rfl u_0<|Ql rfl Zbb u_0<|o_p rfl (Zl Z4h (hself _ _ _ h13) rfl rfl (.cons u_0 (.cons u_1 (.cons u_2 .nil))))<|o_p rfl (Zl Zwp (Zlh _ _ _ _ h15) rfl rfl (.cons u_0 (.cons u_1 (.cons u_2 (.cons u_3 .nil)))))<|Qa rfl u_0<|o_n) (fun a g hst hb=>?_)
    refine wp_ret ?_
    refine Z5 ?_
    refine Zp ?_
    obtain rfl:=Option.some.inj H0
    exact Z4 rfl hst hb (Zg (s:=6)) (hst.at 0 rfl)
   ·replace H0:=Zt hc11 H0
    refine wp_skip ?_
    refine Zbc ?_
    refine Zq ?_
    obtain ⟨r16,h17,H0⟩:=Zd H0
    refine r_s (L:=[(0,_),(1,_),(5,_)]) (T:=⟨[.o 1],_,[],[],[67]⟩ :: ⟨[.o 2],_,[],[],[68]⟩ :: ⟨[.o 0],_,[],[],[69]⟩ :: ⟨[.p 2 0],_,[],[2],[70]⟩ :: ⟨[.p 3 0],_,[],[2,3],[71]⟩ :: ⟨[.p 4 0],_,[],[2,3,4],[72]⟩ :: ⟨[.o 0],_,[],[],[73]⟩ :: ⟨[.p 6 0],_,[],[6],[74]⟩ :: ⟨[.p 7 0],_,[],[6,7],[75]⟩ :: ⟨[.p 8 0],_,[],[6,7,8],[76]⟩ :: ⟨[.p 0 0,.p 1 0,.p 5 0,.p 9 0],_,[],Lr 10,[77]⟩ :: ⟨[.p 10 0],_,[],Lr 11,[6]⟩ :: []) (F:=[.p 11 0]) (hst.pick [0,1,2] rfl) hb Za
     (Qm rfl u_0<|Ql rfl Zbb u_0<|Qm rfl u_0<|o_p rfl (Zo rfl rfl (Opd.imp u_0 (fun _ _ h=>Zv h5 h)) (fun _ _ ⟨_,_,_,e,_⟩=>⟨_,e⟩))<|Qf rfl Zer u_0<|Ql rfl Zdh u_0<|Qm rfl u_0<|o_p rfl (Zo rfl rfl (Opd.imp u_0 (fun _ _ h=>Zv h5 h)) (fun _ _ ⟨_,_,_,e,_⟩=>⟨_,e⟩))<|Qf rfl Zfq u_0<|Ql rfl Zdh u_0<|o_p rfl (Zl Zmh (Zee _ _ _ _ h17) rfl rfl (.cons u_0 (.cons u_1 (.cons u_2 (.cons u_3 .nil)))))<|Qa rfl u_0<|o_n) (fun a g hst hb=>?_)
    refine wp_ret ?_
    obtain rfl:=Option.some.inj H0
    exact Z4 rfl hst hb (Zg (s:=6)) (hst.at 0 rfl)
theorem Zn4:∀ (n:Nat) (a0:shelf_nodeT) (a1:ByteArray) (a2:Zb) {r:shelf_nodeT},Zf5 n a0 a1 a2=some r → FnOk Tryz.prog 52 [(Zba.pd a0),(pStr a1),(Ze.pd a2)] (Zba.pd r)
 | 0,_,_,_,_,h=>by simp [Zf5] at h
 | n + 1,a0,a1,a2,_,h=>Zsg (Zf5 n) (fun a0 a1 a2 r h=>Zn4 n a0 a1 a2 h) a0 a1 a2 h
theorem Zue (a0:shelf_nodeT) (a1:ByteArray) (a2:Zb) {r:shelf_nodeT} (h:Zoc a0 a1 a2=some r):FnOk Tryz.prog 52 [(Zba.pd a0),(pStr a1),(Ze.pd a2)] (Zba.pd r):=Zn4 _ a0 a1 a2 h
theorem Zj5 (a0:Zk) (a1:ByteArray) (a2:Zb) {r:Zk × Int} (h:Zc9 a0 a1 a2=some r):FnOk Tryz.prog 29 [(Zx.pd a0),(pStr a1),(Ze.pd a2)] (pTup [(Zx.pd r.1),(pInt .i64 r.2)]):=by
 have H0:=h
 unfold Zc9 at H0
 clear h
 refine Zbt (N:=50) Tryz.func29 rfl rfl (Qe rfl) rfl rfl (fun a g0 hst hb=>?_)
 refine r_s (T:=[⟨[.o 0],_,[],[],[3]⟩,⟨[.o 2],_,[],[],[5]⟩,⟨[],[(6,(pBox Zx 6 (default:Zk)))],[7],[],[6]⟩,⟨[],_,[],[],[7]⟩]) (F:=[.o 1,.p 0 0,.p 1 0,.p 2 0]) hst hb Za
  (Qb rfl u_0<|Qb rfl u_0<|o_p rfl (Zbh (zs:=[.pointer none,.int .i64 0]) (by kernel_rfl) (fun g=>Zd5 g) rfl rfl)<|Qa rfl c_i<|o_n) (fun a g hst hb=>?_)
 refine wp_seq ?_
 refine r_s (T:=[⟨[.o 0],_,[],[],[11]⟩,⟨[.p 0 0],_,[],[0],[12]⟩,⟨[.p 1 0],_,[],[0,1],[13]⟩,⟨[.p 2 0,.o 0],_,[],[0,1,2],[14]⟩,⟨[.p 2 0,.p 3 0],_,[],Lr 4,[15]⟩,⟨[.p 2 0,.p 4 0],_,[],Lr 5,[16]⟩,⟨[.p 2 0,.p 5 0],_,[],Lr 6,[17]⟩]) (F:=[.o 0,.o 1,.o 2,.o 3,.p 6 0]) hst hb Za
  (Qm rfl u_0<|o_p rfl (Zkq rfl rfl u_0 c_s)<|Qm rfl u_0<|o_g (Qg_f rfl (fun hG=>Z1 rfl rfl u_0))<|o_g (Qg_f rfl (fun hG=>Zge Tryz.underlying9 rfl rfl (Opd.gd hG u_0)))<|o_g (Qg_f rfl (fun hG=>Zcv rfl rfl (Opd.gd hG u_0) c_i))<|o_p rfl (Zbm rfl rfl u_0 (fun hz=>(Opd.gd (bNF hz) u_1)))<|o_n) (fun a g hst hb=>?_)
 refine wp_cond_split (hst.bool 4 rfl) (fun hc1=>?_) (fun hc1=>?_)
 ·replace H0:=Zu hc1 H0
  refine r_s (L:=[(3,_),(6,_)]) (T:=[⟨[.o 0],_,[],[],[18]⟩,⟨[.p 0 0,.o 1],_,[7],[0],[6]⟩,⟨[],_,[],[0,1],[7]⟩]) (F:=[.p 1 0,.p 2 0]) (hst.pick [1,3] rfl) hb Za
   (Ql rfl Zbu u_0<|o_p rfl (Z3 Zbu rfl rfl u_1 u_0)<|Qa rfl c_i<|o_n) (fun a g hst hb=>?_)
  refine wp_ret ?_
  refine Zp ?_
  obtain rfl:=Option.some.inj H0
  obtain ⟨u0,hu0,hq0⟩:=Zbf (P:=Tryz.prog) Zbu (hst.at 0 rfl)
  exact Zdt rfl hst hb hu0 (Zg (s:=7)) (Zcr hq0 (hst.at 1 rfl))
 ·replace H0:=Zt hc1 H0
  refine wp_skip ?_
  refine Zq ?_
  refine wp_seq ?_
  obtain ⟨r2,h3,H0⟩:=Zd H0
  refine r_s (L:=[(1,_),(3,_),(5,_),(6,_)]) (T:=[⟨[.o 2],_,[],[],[19]⟩,⟨[.p 0 0],_,[],[0],[20]⟩,⟨[.p 1 0],_,[],[0,1],[8]⟩]) (F:=[.o 0,.o 1,.o 2,.o 3,.p 2 0]) (hst.pick [0,1,2,3] rfl) hb Za
   (Ql rfl Zbb u_0<|o_p rfl (Zl Z4d (Zp4 _ h3) rfl rfl (.cons u_0 .nil))<|Qa rfl u_0<|o_n) (fun a g hst hb=>?_)
  refine r_s (T:=[⟨[.o 4],_,[],[],[21]⟩,⟨[.p 0 0],_,[],[0],[22]⟩]) (F:=[.o 0,.o 1,.o 2,.o 3,.o 4,.p 1 0]) hst hb Za
   (Qm rfl u_0<|o_p rfl (Zcz rfl rfl u_0 c_i)<|o_n) (fun a g hst hb=>?_)
  refine wp_cond_split (hst.bool 5 rfl) (fun hc4=>?_) (fun hc4=>?_)
  ·replace H0:=Zu hc4 H0
   refine r_s (L:=[(3,_),(6,_),(8,_)]) (T:=[⟨[.o 0],_,[],[],[23]⟩,⟨[.o 2],_,[],[],[24]⟩,⟨[.p 0 0,.o 1],_,[7],[0],[6]⟩,⟨[.p 1 0],_,[],[0,1,2],[7]⟩]) (F:=[.p 2 0,.p 3 0]) (hst.pick [1,3,4] rfl) hb Za
    (Ql rfl Zbu u_0<|Qm rfl u_0<|o_p rfl (Z3 Zbu rfl rfl u_1 u_0)<|Qa rfl u_0<|o_n) (fun a g hst hb=>?_)
   refine wp_ret ?_
   refine Zp ?_
   obtain rfl:=Option.some.inj H0
   obtain ⟨u0,hu0,hq0⟩:=Zbf (P:=Tryz.prog) Zbu (hst.at 0 rfl)
   exact Zdt rfl hst hb hu0 (Zg (s:=7)) (Zcr hq0 (hst.at 1 rfl))
  ·replace H0:=Zt hc4 H0
   refine wp_skip ?_
   refine Zq ?_
   refine wp_seq ?_
   obtain ⟨r5,h6,H0⟩:=Zd H0
   refine r_s (L:=[(1,_),(3,_),(5,_),(6,_)]) (T:=[⟨[.o 1],_,[],[],[26]⟩,⟨[.o 0],_,[],[],[27]⟩,⟨[.p 0 0,.p 1 0],_,[],[0,1],[28]⟩,⟨[.p 2 0],_,[],[0,1,2],[25]⟩,⟨[.p 3 0],_,[],Lr 4,[29]⟩,⟨[.p 3 0],_,[],Lr 4,[30]⟩,⟨[],[(9,(pBox Ze 9 (default:Zb)))],[10],[],[9]⟩,⟨[.p 4 0,.p 6 0],_,[10],[0,1,2,3,4,6],[9]⟩,⟨[.p 5 0],_,[],Lr 8,[10]⟩]) (F:=[.o 0,.o 1,.o 2,.o 3,.p 8 0]) (hst.pick [0,1,2,3] rfl) hb Za
    (Ql rfl Zbu u_0<|Qm rfl u_0<|o_p rfl (Zl Zt1 (Zg6 _ _ h6) rfl rfl (.cons u_0 (.cons u_1 .nil)))<|Qm rfl u_0<|o_p rfl (Z2 rfl rfl u_0 rfl)<|o_p rfl (Z2 rfl rfl u_0 rfl)<|o_p rfl (Zbh (zs:=[.int .i64 0,.int .i64 0,.int .i64 0,.int .i64 0,.float .f64 0,.int .i64 0,.string ByteArray.empty,.slice none 0 0]) (by kernel_rfl) (fun g=>Zb0 g) rfl rfl)<|o_p rfl (Zb6 Zbb rfl rfl u_1 u_0)<|Qa rfl u_0<|o_n) (fun a g hst hb=>?_)
   obtain ⟨r7,h8,H0⟩:=Zd H0
   refine r_s (T:=[⟨[.o 4],_,[],[],[31]⟩,⟨[.p 0 0],_,[],[0],[32]⟩,⟨[.p 1 0],_,[],[0,1],[33]⟩,⟨[.p 2 0,.o 1],_,[],[0,1,2],[34]⟩,⟨[.p 2 0,.p 3 0],_,[],Lr 4,[35]⟩,⟨[.p 2 0,.o 1],_,[],[0,1,2],[36]⟩,⟨[.p 2 0,.p 5 0],_,[],[0,1,2,5],[37]⟩,⟨[.p 2 0,.p 4 0,.p 6 0],_,[],Lr 7,[38]⟩,⟨[.p 2 0,.p 7 0],_,[],Lr 8,[39]⟩]) (F:=[.o 0,.o 1,.o 2,.o 3,.p 8 0]) hst hb Za
    (Qm rfl u_0<|Qn rfl u_0<|Qm rfl u_0<|o_g (Qg_t rfl (fun hG=>Zs Zbu rfl rfl u_0))<|o_g (Qg_t rfl (fun hG=>Zl Zwo (Zin _ (Zbn h8 hG)) rfl rfl (.cons (Opd.gd hG u_0) .nil)))<|o_g (Qg_t rfl (fun hG=>Zh Zt6 rfl rfl u_0))<|o_g (Qg_t rfl (fun hG=>Zs ty_3 rfl rfl (Opd.gd hG u_0)))<|o_g (Qg_t rfl (fun hG=>Zmz rfl rfl (Opd.gd hG u_0) (Opd.gd hG u_1)))<|o_p rfl (Zbg rfl rfl u_0 (fun hz=>(Opd.gd hz u_1)))<|o_n) (fun a g hst hb=>?_)
   refine wp_cond_split (hst.bool 4 rfl) (fun hc9=>?_) (fun hc9=>?_)
   ·replace H0:=Zu hc9 H0
    refine r_s (L:=[(3,_),(6,_)]) (T:=[⟨[.o 0],_,[],[],[40]⟩,⟨[.p 0 0,.o 1],_,[7],[0],[6]⟩,⟨[],_,[],[0,1],[7]⟩]) (F:=[.p 1 0,.p 2 0]) (hst.pick [1,3] rfl) hb Za
     (Ql rfl Zbu u_0<|o_p rfl (Z3 Zbu rfl rfl u_1 u_0)<|Qa rfl c_i<|o_n) (fun a g hst hb=>?_)
    refine wp_ret ?_
    refine Zp ?_
    obtain rfl:=Option.some.inj H0
    obtain ⟨u0,hu0,hq0⟩:=Zbf (P:=Tryz.prog) Zbu (hst.at 0 rfl)
    exact Zdt rfl hst hb hu0 (Zg (s:=7)) (Zcr hq0 (hst.at 1 rfl))
   ·replace H0:=Zt hc9 H0
    refine wp_skip ?_
    refine Zq ?_
    obtain ⟨r10,h11,H0⟩:=Zd H0;obtain ⟨r12,h13,H0⟩:=Zd H0
    refine r_s (L:=[(1,_),(3,_),(5,_),(6,_)]) (T:=[⟨[.o 1],_,[],[],[41]⟩,⟨[.p 0 0],_,[],[0],[42]⟩,⟨[.o 0],_,[],[],[43]⟩,⟨[.o 2],_,[],[],[44]⟩,⟨[.p 3 0],_,[],[3],[45]⟩,⟨[.p 1 0,.p 2 0,.p 4 0],_,[],Lr 5,[46]⟩,⟨[.o 1],_,[],[],[47]⟩,⟨[.p 6 0],_,[],[6],[48]⟩,⟨[.p 5 0,.p 7 0],_,[],Lr 8,[49]⟩,⟨[.p 8 0,.o 3],_,[7],Lr 9,[6]⟩,⟨[],_,[],Lr 10,[7]⟩]) (F:=[.p 9 0,.p 10 0]) (hst.pick [0,1,2,3] rfl) hb Za
     (Qf rfl Zq5 u_0<|Ql rfl Zdh u_0<|Qm rfl u_0<|Ql rfl Zbb u_0<|o_p rfl (Zl Zoq (Zgv _ h11) rfl rfl (.cons u_0 .nil))<|o_p rfl (Zl Z4h (Zue _ _ _ h13) rfl rfl (.cons u_0 (.cons u_1 (.cons u_2 .nil))))<|Qf rfl Zt6 u_0<|Ql rfl ty_3 u_0<|o_p rfl (Zyd rfl rfl u_0 u_1)<|o_p rfl (Z3 Zbu rfl rfl u_1 u_0)<|Qa rfl c_i<|o_n) (fun a g hst hb=>?_)
    refine wp_ret ?_
    obtain rfl:=Option.some.inj H0
    obtain ⟨u0,hu0,hq0⟩:=Zbf (P:=Tryz.prog) Zbu (hst.at 0 rfl)
    exact Zdt rfl hst hb hu0 (Zg (s:=7)) (Zcr hq0 (hst.at 1 rfl))
theorem Zny (a0:List ByteArray) (a1:ByteArray) {r:Int} (h:Zgy a0 a1=some r):FnOk Tryz.prog 59 [(Kd.str.sl.pd a0),(pStr a1)] (pInt .i64 r):=by
 have H0:=h
 unfold Zgy at H0
 clear h
 refine Zbt (N:=19) Tryz.func59 rfl rfl (Qe rfl) rfl rfl (fun a g0 hst hb=>?_)
 refine r_s (T:=[⟨[],_,[],[],[4]⟩]) (F:=[.o 0,.o 1]) hst hb Za
  (Qa rfl c_i<|o_n) (fun a g hst hb=>?_)
 refine wp_seq ?_
 refine r_s (T:=[⟨[.o 0],_,[],[],[6]⟩,⟨[.p 0 0],_,[],[0],[7]⟩,⟨[],_,[],[],[8]⟩]) (F:=[.o 0,.o 1,.p 0 0,.p 1 0,.p 2 0]) hst hb Za
  (Qm rfl u_0<|o_p rfl (Zbv Tryz.underlying26 rfl rfl u_0)<|Qm rfl c_i<|o_n) (fun a g hst hb=>?_)
 obtain ⟨z6,hz1,H0⟩:=Zd H0
 refine Zb3 (fun a w=>∃ (g:G),w=g.w ∧ St 19 [] a g ∧ Base g0 g ∧ (.inr ())=z6) ?_ ?_
 ·rintro a w ⟨g,rfl,hst,hb,rfl⟩
  refine Zq ?_
  refine r_s (T:=[⟨[],_,[],[],[4]⟩]) (F:=[.p 0 0]) hst hb Za
   (Qa rfl c_i<|o_n) (fun a g hst hb=>?_)
  refine wp_ret ?_
  obtain rfl:=Option.some.inj H0
  exact Z4 rfl hst hb (Zg (s:=4)) (hst.at 0 rfl)
 ·refine wp_block ?_
  refine wp_loop_ghost (fun n a w=>∃ (x1:Int) (g:G),w=g.w ∧ St 19 [(0,(Kd.str.sl.pd a0)),(1,(pStr a1)),(6,(Kd.str.sl.pd a0)),(7,(pInt .i64 (a0.length:Int))),(8,(pInt .i64 x1))] a g ∧ Base g0 g ∧ Zcp a0 a1 n x1=some z6) (Int.toNat ((a0.length:Int) - (0:Int)) + 1) ⟨(0:Int),g,rfl,(hst.pick [0,1,2,3,4] rfl),hb,hz1⟩ (fun n a w hI=>?_)
  obtain ⟨x1,g,rfl,hst,hb,H1⟩:=hI
  cases n with
  | zero=>exact absurd H1 (by simp [Zcp])
  | succ n =>
   rw [Zcp] at H1
   refine r_s (T:=[⟨[.o 4,.o 3],_,[],[],[9]⟩]) (F:=[.o 0,.o 1,.o 2,.o 3,.o 4,.p 0 0]) hst hb Za
    (o_p rfl (Zca rfl rfl u_0 u_1)<|o_n) (fun a g hst hb=>?_)
   refine wp_seq ?_
   refine wp_cond_split (hst.bool 5 rfl) (fun hc2=>?_) (fun hc2=>?_)
   ·replace H1:=Zu hc2 H1
    refine wp_skip ?_
    refine Zq ?_
    refine wp_seq ?_
    refine wp_block ?_
    refine r_s (L:=[(0,_),(1,_),(6,_),(7,_),(8,_)]) (T:=[⟨[.o 4],_,[],[],[10]⟩,⟨[.p 0 0],_,[],[0],[5]⟩]) (F:=[.o 0,.o 1,.p 1 0,.o 2,.o 3,.o 4]) (hst.pick [0,1,2,3,4] rfl) hb Za
     (Qm rfl u_0<|Qa rfl u_0<|o_n) (fun a g hst hb=>?_)
    obtain ⟨e3,h4,H1⟩:=Zd H1
    refine r_s (T:=[⟨[.o 1],_,[],[],[11]⟩,⟨[.o 0],_,[],[],[12]⟩,⟨[.o 2],_,[],[],[13]⟩,⟨[.p 1 0,.p 2 0],_,[],[1,2],[14]⟩,⟨[.p 3 0],_,[],[1,2,3],[15]⟩,⟨[.p 0 0,.p 4 0],_,[],Lr 5,[16]⟩]) (F:=[.o 0,.o 1,.o 2,.o 3,.o 4,.o 5,.p 5 0]) hst hb Za
     (Qm rfl u_0<|Qm rfl u_0<|Qm rfl u_0<|o_p rfl (Zbi Tryz.underlying26 sz_9 rfl rfl u_0 u_1 h4)<|Ql rfl ty_9 u_0<|o_p rfl (Zkq rfl rfl u_0 u_1)<|o_n) (fun a g hst hb=>?_)
    refine wp_cond_split (hst.bool 6 rfl) (fun hc5=>?_) (fun hc5=>?_)
    ·replace H1:=Zu hc5 H1
     refine r_s (L:=[(5,_)]) (T:=[⟨[.o 0],_,[],[],[17]⟩,⟨[.p 0 0],_,[],[0],[4]⟩]) (F:=[.p 1 0]) (hst.pick [2] rfl) hb Za
      (Qm rfl u_0<|Qa rfl u_0<|o_n) (fun a g hst hb=>?_)
     refine wp_ret ?_
     refine Z5 ?_
     refine Zp ?_
     refine Zp ?_
     refine Z5 ?_
     refine Zp ?_
     refine Zp ?_
     obtain rfl:=Option.some.inj H1
     obtain rfl:=Option.some.inj H0
     exact Z4 rfl hst hb (Zg (s:=4)) (hst.at 0 rfl)
    ·replace H1:=Zt hc5 H1
     refine wp_skip ?_
     refine Zbc ?_
     refine Zq ?_
     refine r_g (L:=[(0,_),(1,_),(6,_),(7,_),(8,_)]) (T:=[⟨[.o 4],_,[],[],[18]⟩,⟨[.p 0 0],_,[],[0],[8]⟩]) (F:=[.o 0,.o 1,.o 2,.o 3,.p 1 0]) (hst.pick [0,1,3,4,5] rfl) hb Za
      (o_p rfl (Zbz rfl rfl u_0 c_i rfl)<|Qm rfl u_0<|o_n) (fun a g hst hb=>?_)
     exact ⟨n,Nat.lt_succ_self _,(IntKind.i64.wrap (x1 + (1:Int))),g,rfl,(hst.pick [0,1,2,3,4] rfl),hb,H1⟩
   ·replace H1:=Zt hc2 H1
    refine wp_exit ?_
    refine Zby ?_
    refine Zby ?_
    refine Zce ?_
    exact ⟨g,rfl,(hst.pick [] rfl),hb,Option.some.inj H1⟩
theorem Zjl (a0:List ByteArray) (a1:ByteArray) {r:Bool} (h:Zd2 a0 a1=some r):FnOk Tryz.prog 38 [(Kd.str.sl.pd a0),(pStr a1)] (Zbd r):=by
 have H0:=h
 unfold Zd2 at H0
 clear h
 refine Zbt (N:=9) Tryz.func38 rfl rfl (Qe rfl) rfl rfl (fun a g0 hst hb=>?_)
 refine r_s (T:=[⟨[],_,[],[],[4]⟩]) (F:=[.o 0,.o 1]) hst hb Za
  (Qa rfl c_b<|o_n) (fun a g hst hb=>?_)
 obtain ⟨r1,h2,H0⟩:=Zd H0
 refine r_s (T:=[⟨[.o 0],_,[],[],[5]⟩,⟨[.o 1],_,[],[],[6]⟩,⟨[.p 0 0,.p 1 0],_,[],[0,1],[7]⟩,⟨[.p 2 0],_,[],[0,1,2],[8]⟩,⟨[.p 3 0],_,[],Lr 4,[4]⟩]) (F:=[.p 4 0]) hst hb Za
  (Qm rfl u_0<|Qm rfl u_0<|o_p rfl (Zl Zbdc (Zny _ _ h2) rfl rfl (.cons u_0 (.cons u_1 .nil)))<|o_p rfl (Zmz rfl rfl u_0 c_i)<|Qa rfl u_0<|o_n) (fun a g hst hb=>?_)
 refine wp_ret ?_
 obtain rfl:=Option.some.inj H0
 exact Z4 rfl hst hb (Zg (s:=4)) (hst.at 0 rfl)
theorem Zse (a0:shelf_nodeT) {r:shelf_nodeT} (h:Zjn a0=some r):FnOk Tryz.prog 88 [(Zba.pd a0)] (Zba.pd r):=by
 have H0:=h
 unfold Zjn at H0
 clear h
 refine Zbt (N:=13) Tryz.func88 rfl rfl (Qe rfl) rfl rfl (fun a g0 hst hb=>?_)
 refine r_s (T:=[⟨[],[(2,(Zba.pd shelf_nodeT.nil))],[],[],[2]⟩]) (F:=[.o 0]) hst hb Za
  (o_p rfl (Zch rfl rfl (Opd.c (fun g=>Zez g)))<|o_n) (fun a g hst hb=>?_)
 obtain ⟨z6,hz1,H0⟩:=Zd H0
 refine wp_seq ?_
 refine Zb3 (fun a w=>∃ (y5:shelf_nodeT) (g:G),w=g.w ∧ St 13 [(0,(Zba.pd y5))] a g ∧ Base g0 g ∧ y5=z6) ?_ ?_
 ·rintro a w ⟨y5,g,rfl,hst,hb,rfl⟩
  refine Zq ?_
  refine r_s (T:=[⟨[.o 0],_,[],[],[12]⟩,⟨[.p 0 0],_,[],[0],[2]⟩]) (F:=[.p 1 0]) hst hb Za
   (Qm rfl u_0<|Qa rfl u_0<|o_n) (fun a g hst hb=>?_)
  refine wp_ret ?_
  obtain rfl:=Option.some.inj H0
  exact Z4 rfl hst hb (Zg (s:=2)) (hst.at 0 rfl)
 ·refine wp_block ?_
  refine wp_loop_ghost (fun n a w=>∃ (x1:shelf_nodeT) (g:G),w=g.w ∧ St 13 [(0,(Zba.pd x1))] a g ∧ Base g0 g ∧ Zf0 n x1=some z6) (a0.hh + 1) ⟨a0,g,rfl,(hst.pick [0] rfl),hb,hz1⟩ (fun n a w hI=>?_)
  obtain ⟨x1,g,rfl,hst,hb,H1⟩:=hI
  cases n with
  | zero=>exact absurd H1 (by simp [Zf0])
  | succ n =>
   rw [Zf0] at H1
   refine wp_seq ?_
   obtain ⟨n2,h3,H1⟩:=Zd H1
   refine r_s (T:=[⟨[.o 0],_,[],[],[3]⟩,⟨[.p 0 0],_,[],[0],[4]⟩,⟨[.p 1 0],_,[],[0,1],[5]⟩,⟨[.p 2 0],_,[],[0,1,2],[6]⟩,⟨[.p 3 0],_,[],Lr 4,[7]⟩]) (F:=[.o 0,.p 4 0]) hst hb Za
    (Qm rfl u_0<|o_p rfl (Zo rfl rfl (Opd.imp u_0 (fun _ _ h=>Zv h3 h)) (fun _ _ ⟨_,_,_,e,_⟩=>⟨_,e⟩))<|Qf rfl Zer u_0<|Ql rfl Zdh u_0<|o_p rfl (Z1q Tryz.underlying28 rfl rfl u_0 (Zfw _))<|o_n) (fun a g hst hb=>?_)
   refine wp_cond_split (hst.bool 1 rfl) (fun hc4=>?_) (fun hc4=>?_)
   ·replace H1:=Zu hc4 H1
    refine wp_skip ?_
    refine Zq ?_
    refine wp_block ?_
    refine r_g (L:=[(0,_)]) (T:=[⟨[.o 0],_,[],[],[8]⟩,⟨[.p 0 0],_,[],[0],[9]⟩,⟨[.p 1 0],_,[],[0,1],[10]⟩,⟨[.p 2 0],_,[],[0,1,2],[11]⟩,⟨[.p 3 0],_,[],Lr 4,[0]⟩]) (F:=[.p 4 0]) (hst.pick [0] rfl) hb Za
     (Qm rfl u_0<|o_p rfl (Zo rfl rfl (Opd.imp u_0 (fun _ _ h=>Zv h3 h)) (fun _ _ ⟨_,_,_,e,_⟩=>⟨_,e⟩))<|Qf rfl Zer u_0<|Ql rfl Zdh u_0<|Qa rfl u_0<|o_n) (fun a g hst hb=>?_)
    refine Zbc ?_
    exact ⟨n,Nat.lt_succ_self _,n2.left,g,rfl,(hst.pick [0] rfl),hb,H1⟩
   ·replace H1:=Zt hc4 H1
    refine wp_exit ?_
    refine Zby ?_
    refine Zby ?_
    refine Zce ?_
    exact ⟨x1,g,rfl,(hst.pick [0] rfl),hb,Option.some.inj H1⟩
theorem Zsc (self:shelf_nodeT → ByteArray → Option (shelf_nodeT)) (hself:∀ (a0:shelf_nodeT) (a1:ByteArray) {r:shelf_nodeT},self a0 a1=some r → FnOk Tryz.prog 60 [(Zba.pd a0),(pStr a1)] (Zba.pd r)) (a0:shelf_nodeT) (a1:ByteArray) {r:shelf_nodeT} (h:Zla self a0 a1=some r):FnOk Tryz.prog 60 [(Zba.pd a0),(pStr a1)] (Zba.pd r):=by
 have H0:=h
 unfold Zla at H0
 clear h
 refine Zbt (N:=108) Tryz.func60 rfl rfl (Qe rfl) rfl rfl (fun a g0 hst hb=>?_)
 refine r_s (T:=[⟨[],[(4,(Zba.pd shelf_nodeT.nil))],[],[],[4]⟩]) (F:=[.o 0,.o 1]) hst hb Za
  (o_p rfl (Zch rfl rfl (Opd.c (fun g=>Zez g)))<|o_n) (fun a g hst hb=>?_)
 refine wp_seq ?_
 refine wp_block ?_
 refine r_s (T:=[⟨[.o 0],_,[],[],[7]⟩,⟨[.p 0 0],_,[],[0],[8]⟩,⟨[.p 1 0],_,[],[0,1],[6]⟩]) (F:=[.o 0,.o 1,.p 2 0]) hst hb Za
  (Qm rfl u_0<|o_p rfl (Zow Tryz.underlying28 rfl rfl u_0 (Zfw _))<|Qa rfl u_0<|o_n) (fun a g hst hb=>?_)
 refine wp_cond_split (hst.bool 2 rfl) (fun hc1=>?_) (fun hc1=>?_)
 ·replace H0:=Zu hc1 H0
  refine r_s (L:=[]) (T:=[⟨[],[(4,(Zba.pd shelf_nodeT.nil))],[],[],[4]⟩]) (F:=[.p 0 0]) (hst.pick [] rfl) hb Za
   (o_p rfl (Zch rfl rfl (Opd.c (fun g=>Zez g)))<|o_n) (fun a g hst hb=>?_)
  refine wp_ret ?_
  refine Z5 ?_
  refine Zp ?_
  obtain rfl:=Option.some.inj H0
  exact Z4 rfl hst hb (Zg (s:=4)) (hst.at 0 rfl)
 ·replace H0:=Zt hc1 H0
  obtain ⟨n2,h3,H0⟩:=Zd H0
  refine r_s (L:=[(0,_),(1,_)]) (T:=[⟨[.o 1],_,[],[],[10]⟩,⟨[.o 0],_,[],[],[11]⟩,⟨[.p 1 0],_,[],[1],[12]⟩,⟨[.p 2 0],_,[],[1,2],[13]⟩,⟨[.p 3 0],_,[],[1,2,3],[14]⟩,⟨[.p 0 0,.p 4 0],_,[],Lr 5,[15]⟩,⟨[.p 5 0],_,[],Lr 6,[9]⟩]) (F:=[.o 0,.o 1,.p 6 0]) (hst.pick [0,1] rfl) hb Za
   (Qm rfl u_0<|Qm rfl u_0<|o_p rfl (Zo rfl rfl (Opd.imp u_0 (fun _ _ h=>Zv h3 h)) (fun _ _ ⟨_,_,_,e,_⟩=>⟨_,e⟩))<|Qf rfl Zfp u_0<|Ql rfl ty_9 u_0<|o_p rfl (Zni rfl rfl u_0 u_1)<|Qa rfl u_0<|o_n) (fun a g hst hb=>?_)
  refine wp_cond_split (hst.bool 2 rfl) (fun hc4=>?_) (fun hc4=>?_)
  ·replace H0:=Zu hc4 H0
   obtain ⟨r5,h6,H0⟩:=Zd H0;obtain ⟨r7,h8,H0⟩:=Zd H0
   refine r_s (L:=[(0,_),(1,_)]) (T:=⟨[.o 0],_,[],[],[16]⟩ :: ⟨[.p 0 0],_,[],[0],[17]⟩ :: ⟨[.p 1 0],_,[],[0,1],[18]⟩ :: ⟨[.p 2 0],_,[],[0,1,2],[19]⟩ :: ⟨[.o 0],_,[],[],[20]⟩ :: ⟨[.p 4 0],_,[],[4],[21]⟩ :: ⟨[.p 5 0],_,[],[4,5],[22]⟩ :: ⟨[.p 6 0],_,[],[4,5,6],[23]⟩ :: ⟨[.o 0],_,[],[],[24]⟩ :: ⟨[.p 8 0],_,[],[8],[25]⟩ :: ⟨[.p 9 0],_,[],[8,9],[26]⟩ :: ⟨[.p 10 0],_,[],[8,9,10],[27]⟩ :: ⟨[.o 1],_,[],[],[28]⟩ :: ⟨[.p 11 0,.p 12 0],_,[],List.range' 8 5,[29]⟩ :: ⟨[.o 0],_,[],[],[30]⟩ :: ⟨[.p 14 0],_,[],[14],[31]⟩ :: ⟨[.p 15 0],_,[],[14,15],[32]⟩ :: ⟨[.p 16 0],_,[],[14,15,16],[33]⟩ :: ⟨[.p 3 0,.p 7 0,.p 13 0,.p 17 0],_,[],Lr 18,[34]⟩ :: ⟨[.p 18 0],_,[],Lr 19,[4]⟩ :: []) (F:=[.p 19 0]) (hst.pick [0,1] rfl) hb Za
    (Qm rfl u_0<|o_p rfl (Zo rfl rfl (Opd.imp u_0 (fun _ _ h=>Zv h3 h)) (fun _ _ ⟨_,_,_,e,_⟩=>⟨_,e⟩))<|Qf rfl Zfp u_0<|Ql rfl ty_9 u_0<|Qm rfl u_0<|o_p rfl (Zo rfl rfl (Opd.imp u_0 (fun _ _ h=>Zv h3 h)) (fun _ _ ⟨_,_,_,e,_⟩=>⟨_,e⟩))<|Qf rfl Zh9 u_0<|Ql rfl Zbb u_0<|Qm rfl u_0<|o_p rfl (Zo rfl rfl (Opd.imp u_0 (fun _ _ h=>Zv h3 h)) (fun _ _ ⟨_,_,_,e,_⟩=>⟨_,e⟩))<|Qf rfl Zer u_0<|Ql rfl Zdh u_0<|Qm rfl u_0<|o_p rfl (Zl Zzl (hself _ _ h6) rfl rfl (.cons u_0 (.cons u_1 .nil)))<|Qm rfl u_0<|o_p rfl (Zo rfl rfl (Opd.imp u_0 (fun _ _ h=>Zv h3 h)) (fun _ _ ⟨_,_,_,e,_⟩=>⟨_,e⟩))<|Qf rfl Zfq u_0<|Ql rfl Zdh u_0<|o_p rfl (Zl Zwp (Zlh _ _ _ _ h8) rfl rfl (.cons u_0 (.cons u_1 (.cons u_2 (.cons u_3 .nil)))))<|Qa rfl u_0<|o_n) (fun a g hst hb=>?_)
   refine wp_ret ?_
   refine Z5 ?_
   refine Zp ?_
   obtain rfl:=Option.some.inj H0
   exact Z4 rfl hst hb (Zg (s:=4)) (hst.at 0 rfl)
  ·replace H0:=Zt hc4 H0
   refine r_s (L:=[(0,_),(1,_)]) (T:=[⟨[.o 1],_,[],[],[36]⟩,⟨[.o 0],_,[],[],[37]⟩,⟨[.p 1 0],_,[],[1],[38]⟩,⟨[.p 2 0],_,[],[1,2],[39]⟩,⟨[.p 3 0],_,[],[1,2,3],[40]⟩,⟨[.p 0 0,.p 4 0],_,[],Lr 5,[41]⟩,⟨[.p 5 0],_,[],Lr 6,[35]⟩]) (F:=[.o 0,.o 1,.p 6 0]) (hst.pick [0,1] rfl) hb Za
    (Qm rfl u_0<|Qm rfl u_0<|o_p rfl (Zo rfl rfl (Opd.imp u_0 (fun _ _ h=>Zv h3 h)) (fun _ _ ⟨_,_,_,e,_⟩=>⟨_,e⟩))<|Qf rfl Zfp u_0<|Ql rfl ty_9 u_0<|o_p rfl (Zwb rfl rfl u_0 u_1)<|Qa rfl u_0<|o_n) (fun a g hst hb=>?_)
   refine wp_cond_split (hst.bool 2 rfl) (fun hc9=>?_) (fun hc9=>?_)
   ·replace H0:=Zu hc9 H0
    obtain ⟨r10,h11,H0⟩:=Zd H0;obtain ⟨r12,h13,H0⟩:=Zd H0
    refine r_s (L:=[(0,_),(1,_)]) (T:=⟨[.o 0],_,[],[],[42]⟩ :: ⟨[.p 0 0],_,[],[0],[43]⟩ :: ⟨[.p 1 0],_,[],[0,1],[44]⟩ :: ⟨[.p 2 0],_,[],[0,1,2],[45]⟩ :: ⟨[.o 0],_,[],[],[46]⟩ :: ⟨[.p 4 0],_,[],[4],[47]⟩ :: ⟨[.p 5 0],_,[],[4,5],[48]⟩ :: ⟨[.p 6 0],_,[],[4,5,6],[49]⟩ :: ⟨[.o 0],_,[],[],[50]⟩ :: ⟨[.p 8 0],_,[],[8],[51]⟩ :: ⟨[.p 9 0],_,[],[8,9],[52]⟩ :: ⟨[.p 10 0],_,[],[8,9,10],[53]⟩ :: ⟨[.o 0],_,[],[],[54]⟩ :: ⟨[.p 12 0],_,[],[12],[55]⟩ :: ⟨[.p 13 0],_,[],[12,13],[56]⟩ :: ⟨[.p 14 0],_,[],[12,13,14],[57]⟩ :: ⟨[.o 1],_,[],[],[58]⟩ :: ⟨[.p 15 0,.p 16 0],_,[],List.range' 12 5,[59]⟩ :: ⟨[.p 3 0,.p 7 0,.p 11 0,.p 17 0],_,[],Lr 18,[60]⟩ :: ⟨[.p 18 0],_,[],Lr 19,[4]⟩ :: []) (F:=[.p 19 0]) (hst.pick [0,1] rfl) hb Za
     (Qm rfl u_0<|o_p rfl (Zo rfl rfl (Opd.imp u_0 (fun _ _ h=>Zv h3 h)) (fun _ _ ⟨_,_,_,e,_⟩=>⟨_,e⟩))<|Qf rfl Zfp u_0<|Ql rfl ty_9 u_0<|Qm rfl u_0<|o_p rfl (Zo rfl rfl (Opd.imp u_0 (fun _ _ h=>Zv h3 h)) (fun _ _ ⟨_,_,_,e,_⟩=>⟨_,e⟩))<|Qf rfl Zh9 u_0<|Ql rfl Zbb u_0<|Qm rfl u_0<|o_p rfl (Zo rfl rfl (Opd.imp u_0 (fun _ _ h=>Zv h3 h)) (fun _ _ ⟨_,_,_,e,_⟩=>⟨_,e⟩))<|Qf rfl Zer u_0<|Ql rfl Zdh u_0<|Qm rfl u_0<|o_p rfl (Zo rfl rfl (Opd.imp u_0 (fun _ _ h=>Zv h3 h)) (fun _ _ ⟨_,_,_,e,_⟩=>⟨_,e⟩))<|Qf rfl Zfq u_0<|Ql rfl Zdh u_0<|Qm rfl u_0<|o_p rfl (Zl Zzl (hself _ _ h11) rfl rfl (.cons u_0 (.cons u_1 .nil)))<|o_p rfl (Zl Zwp (Zlh _ _ _ _ h13) rfl rfl (.cons u_0 (.cons u_1 (.cons u_2 (.cons u_3 .nil)))))<|Qa rfl u_0<|o_n) (fun a g hst hb=>?_)
    refine wp_ret ?_
    refine Z5 ?_
    refine Zp ?_
    obtain rfl:=Option.some.inj H0
    exact Z4 rfl hst hb (Zg (s:=4)) (hst.at 0 rfl)
   ·replace H0:=Zt hc9 H0
    refine r_s (L:=[(0,_)]) (T:=[⟨[.o 0],_,[],[],[62]⟩,⟨[.p 0 0],_,[],[0],[63]⟩,⟨[.p 1 0],_,[],[0,1],[64]⟩,⟨[.p 2 0],_,[],[0,1,2],[65]⟩,⟨[.p 3 0],_,[],Lr 4,[66]⟩,⟨[.p 4 0],_,[],Lr 5,[61]⟩]) (F:=[.o 0,.p 5 0]) (hst.pick [0] rfl) hb Za
     (Qm rfl u_0<|o_p rfl (Zo rfl rfl (Opd.imp u_0 (fun _ _ h=>Zv h3 h)) (fun _ _ ⟨_,_,_,e,_⟩=>⟨_,e⟩))<|Qf rfl Zer u_0<|Ql rfl Zdh u_0<|o_p rfl (Zow Tryz.underlying28 rfl rfl u_0 (Zfw _))<|Qa rfl u_0<|o_n) (fun a g hst hb=>?_)
    refine wp_cond_split (hst.bool 1 rfl) (fun hc14=>?_) (fun hc14=>?_)
    ·replace H0:=Zu hc14 H0
     refine r_s (L:=[(0,_)]) (T:=[⟨[.o 0],_,[],[],[67]⟩,⟨[.p 0 0],_,[],[0],[68]⟩,⟨[.p 1 0],_,[],[0,1],[69]⟩,⟨[.p 2 0],_,[],[0,1,2],[70]⟩,⟨[.p 3 0],_,[],Lr 4,[4]⟩]) (F:=[.p 4 0]) (hst.pick [0] rfl) hb Za
      (Qm rfl u_0<|o_p rfl (Zo rfl rfl (Opd.imp u_0 (fun _ _ h=>Zv h3 h)) (fun _ _ ⟨_,_,_,e,_⟩=>⟨_,e⟩))<|Qf rfl Zfq u_0<|Ql rfl Zdh u_0<|Qa rfl u_0<|o_n) (fun a g hst hb=>?_)
     refine wp_ret ?_
     refine Z5 ?_
     refine Zp ?_
     obtain rfl:=Option.some.inj H0
     exact Z4 rfl hst hb (Zg (s:=4)) (hst.at 0 rfl)
    ·replace H0:=Zt hc14 H0
     refine r_s (L:=[(0,_)]) (T:=[⟨[.o 0],_,[],[],[72]⟩,⟨[.p 0 0],_,[],[0],[73]⟩,⟨[.p 1 0],_,[],[0,1],[74]⟩,⟨[.p 2 0],_,[],[0,1,2],[75]⟩,⟨[.p 3 0],_,[],Lr 4,[76]⟩,⟨[.p 4 0],_,[],Lr 5,[71]⟩]) (F:=[.o 0,.p 5 0]) (hst.pick [0] rfl) hb Za
      (Qm rfl u_0<|o_p rfl (Zo rfl rfl (Opd.imp u_0 (fun _ _ h=>Zv h3 h)) (fun _ _ ⟨_,_,_,e,_⟩=>⟨_,e⟩))<|Qf rfl Zfq u_0<|Ql rfl Zdh u_0<|o_p rfl (Zow Tryz.underlying28 rfl rfl u_0 (Zfw _))<|Qa rfl u_0<|o_n) (fun a g hst hb=>?_)
     refine wp_cond_split (hst.bool 1 rfl) (fun hc15=>?_) (fun hc15=>?_)
     ·replace H0:=Zu hc15 H0
      refine r_s (L:=[(0,_)]) (T:=[⟨[.o 0],_,[],[],[77]⟩,⟨[.p 0 0],_,[],[0],[78]⟩,⟨[.p 1 0],_,[],[0,1],[79]⟩,⟨[.p 2 0],_,[],[0,1,2],[80]⟩,⟨[.p 3 0],_,[],Lr 4,[4]⟩]) (F:=[.p 4 0]) (hst.pick [0] rfl) hb Za
       (Qm rfl u_0<|o_p rfl (Zo rfl rfl (Opd.imp u_0 (fun _ _ h=>Zv h3 h)) (fun _ _ ⟨_,_,_,e,_⟩=>⟨_,e⟩))<|Qf rfl Zer u_0<|Ql rfl Zdh u_0<|Qa rfl u_0<|o_n) (fun a g hst hb=>?_)
      refine wp_ret ?_
      refine Z5 ?_
      refine Zp ?_
      obtain rfl:=Option.some.inj H0
      exact Z4 rfl hst hb (Zg (s:=4)) (hst.at 0 rfl)
     ·replace H0:=Zt hc15 H0
      refine wp_skip ?_
      refine Zbc ?_
      refine Zq ?_
      obtain ⟨r16,h17,H0⟩:=Zd H0
      refine r_s (L:=[(0,_)]) (T:=[⟨[.o 0],_,[],[],[81]⟩,⟨[.p 0 0],_,[],[0],[82]⟩,⟨[.p 1 0],_,[],[0,1],[83]⟩,⟨[.p 2 0],_,[],[0,1,2],[84]⟩,⟨[.p 3 0],_,[],Lr 4,[85]⟩,⟨[.p 4 0],_,[],Lr 5,[5]⟩]) (F:=[.o 0,.p 5 0]) (hst.pick [0] rfl) hb Za
       (Qm rfl u_0<|o_p rfl (Zo rfl rfl (Opd.imp u_0 (fun _ _ h=>Zv h3 h)) (fun _ _ ⟨_,_,_,e,_⟩=>⟨_,e⟩))<|Qf rfl Zfq u_0<|Ql rfl Zdh u_0<|o_p rfl (Zl Zbc2 (Zse _ h17) rfl rfl (.cons u_0 .nil))<|Qa rfl u_0<|o_n) (fun a g hst hb=>?_)
      obtain ⟨n18,h19,H0⟩:=Zd H0;obtain ⟨r20,h21,H0⟩:=Zd H0;obtain ⟨r22,h23,H0⟩:=Zd H0
      refine r_s (T:=⟨[.o 1],_,[],[],[86]⟩ :: ⟨[.p 0 0],_,[],[0],[87]⟩ :: ⟨[.p 1 0],_,[],[0,1],[88]⟩ :: ⟨[.p 2 0],_,[],[0,1,2],[89]⟩ :: ⟨[.o 1],_,[],[],[90]⟩ :: ⟨[.p 4 0],_,[],[4],[91]⟩ :: ⟨[.p 5 0],_,[],[4,5],[92]⟩ :: ⟨[.p 6 0],_,[],[4,5,6],[93]⟩ :: ⟨[.o 0],_,[],[],[94]⟩ :: ⟨[.p 8 0],_,[],[8],[95]⟩ :: ⟨[.p 9 0],_,[],[8,9],[96]⟩ :: ⟨[.p 10 0],_,[],[8,9,10],[97]⟩ :: ⟨[.o 0],_,[],[],[98]⟩ :: ⟨[.p 12 0],_,[],[12],[99]⟩ :: ⟨[.p 13 0],_,[],[12,13],[100]⟩ :: ⟨[.p 14 0],_,[],[12,13,14],[101]⟩ :: ⟨[.o 1],_,[],[],[102]⟩ :: ⟨[.p 16 0],_,[],[16],[103]⟩ :: ⟨[.p 17 0],_,[],[16,17],[104]⟩ :: ⟨[.p 18 0],_,[],[16,17,18],[105]⟩ :: ⟨[.p 15 0,.p 19 0],_,[],List.range' 12 8,[106]⟩ :: ⟨[.p 3 0,.p 7 0,.p 11 0,.p 20 0],_,[],Lr 21,[107]⟩ :: ⟨[.p 21 0],_,[],Lr 22,[4]⟩ :: []) (F:=[.p 22 0]) hst hb Za
       (Qm rfl u_0<|o_p rfl (Zo rfl rfl (Opd.imp u_0 (fun _ _ h=>Zv h19 h)) (fun _ _ ⟨_,_,_,e,_⟩=>⟨_,e⟩))<|Qf rfl Zfp u_0<|Ql rfl ty_9 u_0<|Qm rfl u_0<|o_p rfl (Zo rfl rfl (Opd.imp u_0 (fun _ _ h=>Zv h19 h)) (fun _ _ ⟨_,_,_,e,_⟩=>⟨_,e⟩))<|Qf rfl Zh9 u_0<|Ql rfl Zbb u_0<|Qm rfl u_0<|o_p rfl (Zo rfl rfl (Opd.imp u_0 (fun _ _ h=>Zv h3 h)) (fun _ _ ⟨_,_,_,e,_⟩=>⟨_,e⟩))<|Qf rfl Zer u_0<|Ql rfl Zdh u_0<|Qm rfl u_0<|o_p rfl (Zo rfl rfl (Opd.imp u_0 (fun _ _ h=>Zv h3 h)) (fun _ _ ⟨_,_,_,e,_⟩=>⟨_,e⟩))<|Qf rfl Zfq u_0<|Ql rfl Zdh u_0<|Qm rfl u_0<|o_p rfl (Zo rfl rfl (Opd.imp u_0 (fun _ _ h=>Zv h19 h)) (fun _ _ ⟨_,_,_,e,_⟩=>⟨_,e⟩))<|Qf rfl Zfp u_0<|Ql rfl ty_9 u_0<|o_p rfl (Zl Zzl (hself _ _ h21) rfl rfl (.cons u_0 (.cons u_1 .nil)))<|o_p rfl (Zl Zwp (Zlh _ _ _ _ h23) rfl rfl (.cons u_0 (.cons u_1 (.cons u_2 (.cons u_3 .nil)))))<|Qa rfl u_0<|o_n) (fun a g hst hb=>?_)
      refine wp_ret ?_
      obtain rfl:=Option.some.inj H0
      exact Z4 rfl hst hb (Zg (s:=4)) (hst.at 0 rfl)
theorem Zn0:∀ (n:Nat) (a0:shelf_nodeT) (a1:ByteArray) {r:shelf_nodeT},Zgz n a0 a1=some r → FnOk Tryz.prog 60 [(Zba.pd a0),(pStr a1)] (Zba.pd r)
 | 0,_,_,_,h=>by simp [Zgz] at h
 | n + 1,a0,a1,_,h=>Zsc (Zgz n) (fun a0 a1 r h=>Zn0 n a0 a1 h) a0 a1 h
theorem Zuh (a0:shelf_nodeT) (a1:ByteArray) {r:shelf_nodeT} (h:Zoe a0 a1=some r):FnOk Tryz.prog 60 [(Zba.pd a0),(pStr a1)] (Zba.pd r):=Zn0 _ a0 a1 h
theorem Zo5 (a0:Zk) (a1:ByteArray) {r:Zk × Bool} (h:Zeh a0 a1=some r):FnOk Tryz.prog 39 [(Zx.pd a0),(pStr a1)] (pTup [(Zx.pd r.1),(Zbd r.2)]):=by
 have H0:=h
 unfold Zeh at H0
 clear h
 refine Zbt (N:=24) Tryz.func39 rfl rfl (Qe rfl) rfl rfl (fun a g0 hst hb=>?_)
 refine r_s (T:=[⟨[.o 0],_,[],[],[2]⟩,⟨[],[(4,(pBox Zx 4 (default:Zk)))],[5],[],[4]⟩,⟨[],_,[],[],[5]⟩]) (F:=[.o 1,.p 0 0,.p 1 0]) hst hb Za
  (Qb rfl u_0<|o_p rfl (Zbh (zs:=[.pointer none,.int .i64 0]) (by kernel_rfl) (fun g=>Zd5 g) rfl rfl)<|Qa rfl c_b<|o_n) (fun a g hst hb=>?_)
 refine wp_seq ?_
 obtain ⟨r1,h2,H0⟩:=Zd H0
 refine r_s (T:=[⟨[.o 1],_,[],[],[9]⟩,⟨[.o 0],_,[],[],[10]⟩,⟨[.p 0 0,.p 1 0],_,[],[0,1],[11]⟩,⟨[.p 2 0],_,[],[0,1,2],[8]⟩,⟨[.p 3 0],_,[],Lr 4,[12]⟩,⟨[.p 3 0],_,[],Lr 4,[13]⟩,⟨[],[(6,(pBox Ze 6 (default:Zb)))],[7],[],[6]⟩,⟨[.p 4 0,.p 6 0],_,[7],[0,1,2,3,4,6],[6]⟩,⟨[.p 5 0],_,[],Lr 8,[7]⟩]) (F:=[.o 0,.o 1,.o 2,.p 8 0]) hst hb Za
  (Ql rfl Zbu u_0<|Qm rfl u_0<|o_p rfl (Zl Zt1 (Zg6 _ _ h2) rfl rfl (.cons u_0 (.cons u_1 .nil)))<|Qm rfl u_0<|o_p rfl (Z2 rfl rfl u_0 rfl)<|o_p rfl (Z2 rfl rfl u_0 rfl)<|o_p rfl (Zbh (zs:=[.int .i64 0,.int .i64 0,.int .i64 0,.int .i64 0,.float .f64 0,.int .i64 0,.string ByteArray.empty,.slice none 0 0]) (by kernel_rfl) (fun g=>Zb0 g) rfl rfl)<|o_p rfl (Zb6 Zbb rfl rfl u_1 u_0)<|Qa rfl u_0<|o_n) (fun a g hst hb=>?_)
 refine r_s (T:=[⟨[.o 3],_,[],[],[14]⟩,⟨[.p 0 0],_,[],[0],[15]⟩]) (F:=[.o 0,.o 1,.o 2,.p 1 0]) hst hb Za
  (Qm rfl u_0<|Qn rfl u_0<|o_n) (fun a g hst hb=>?_)
 refine wp_cond_split (hst.bool 3 rfl) (fun hc3=>?_) (fun hc3=>?_)
 ·replace H0:=Zu hc3 H0
  refine r_s (L:=[(2,_),(4,_)]) (T:=[⟨[.o 0],_,[],[],[16]⟩,⟨[.p 0 0,.o 1],_,[5],[0],[4]⟩,⟨[],_,[],[0,1],[5]⟩]) (F:=[.p 1 0,.p 2 0]) (hst.pick [1,2] rfl) hb Za
   (Ql rfl Zbu u_0<|o_p rfl (Z3 Zbu rfl rfl u_1 u_0)<|Qa rfl c_b<|o_n) (fun a g hst hb=>?_)
  refine wp_ret ?_
  refine Zp ?_
  obtain rfl:=Option.some.inj H0
  obtain ⟨u0,hu0,hq0⟩:=Zbf (P:=Tryz.prog) Zbu (hst.at 0 rfl)
  exact Zdt rfl hst hb hu0 (Zg (s:=5)) (Zcr hq0 (hst.at 1 rfl))
 ·replace H0:=Zt hc3 H0
  refine wp_skip ?_
  refine Zq ?_
  obtain ⟨r4,h5,H0⟩:=Zd H0
  refine r_s (L:=[(1,_),(2,_),(4,_)]) (T:=[⟨[.o 1],_,[],[],[17]⟩,⟨[.p 0 0],_,[],[0],[18]⟩,⟨[.o 0],_,[],[],[19]⟩,⟨[.p 1 0,.p 2 0],_,[],[0,1,2],[20]⟩,⟨[.o 1],_,[],[],[21]⟩,⟨[.p 4 0],_,[],[4],[22]⟩,⟨[.p 3 0,.p 5 0],_,[],Lr 6,[23]⟩,⟨[.p 6 0,.o 2],_,[5],Lr 7,[4]⟩,⟨[],_,[],Lr 8,[5]⟩]) (F:=[.p 7 0,.p 8 0]) (hst.pick [0,1,2] rfl) hb Za
   (Qf rfl Zq5 u_0<|Ql rfl Zdh u_0<|Qm rfl u_0<|o_p rfl (Zl Zzl (Zuh _ _ h5) rfl rfl (.cons u_0 (.cons u_1 .nil)))<|Qf rfl Zt6 u_0<|Ql rfl ty_3 u_0<|o_p rfl (Zyd rfl rfl u_0 u_1)<|o_p rfl (Z3 Zbu rfl rfl u_1 u_0)<|Qa rfl c_b<|o_n) (fun a g hst hb=>?_)
  refine wp_ret ?_
  obtain rfl:=Option.some.inj H0
  obtain ⟨u0,hu0,hq0⟩:=Zbf (P:=Tryz.prog) Zbu (hst.at 0 rfl)
  exact Zdt rfl hst hb hu0 (Zg (s:=5)) (Zcr hq0 (hst.at 1 rfl))
theorem Zlo (a0:Z0) (a1:Zk) {r:Zk × (List Zm)} (h:Zeu a0 a1=some r):FnMR Tryz.prog 15 Zcq a0 a0 [(Zx.pd a1)] (pTup [(Zx.pd r.1),(Zy.sl.pd r.2)]):=by
 have H0:=h
 unfold Zeu at H0
 clear h
 refine Zt8 (N:=116) Tryz.func15 rfl rfl (Qe rfl) rfl rfl (fun a g0 b0 hst hb=>?_)
 replace hst:St 116 [(0,(pEq (ptrB b0 0))),(1,(Zx.pd a1)),(1002,(pSJ Zbo Zb7 (hpL (pRow Zj 68 1000000 (Zdp a0))) 0 b0 a0))] _ _:=Zrh hst
 refine r_s (T:=[⟨[.o 1],_,[4],[],[3]⟩,⟨[],[(4,(pBox Zx 4 (default:Zk)))],[5],[],[4]⟩,⟨[],[(5,(Zy.sl.pd ([]:List Zm)))],[],[],[5]⟩]) (F:=[.o 0,.p 0 0,.p 1 0,.o 2]) hst hb Za
  (o_p rfl (Zkr rfl rfl u_0)<|o_p rfl (Zbh (zs:=[.pointer none,.int .i64 0]) (by kernel_rfl) (fun g=>Zd5 g) rfl rfl)<|o_p rfl (Zch rfl rfl (Opd.c (fun g=>Zhe g)))<|o_n) (fun a g hst hb=>?_)
 refine r_s (T:=[⟨[],[(6,(pRow Zy 40 6 ([]:List Zm)))],[],[],[6]⟩]) (F:=[.o 0,.o 1,.o 2,.p 0 0,.o 3]) hst hb Za
  (o_p rfl (Zch rfl rfl (Opd.c (fun g=>Zma 6 g)))<|o_n) (fun a g hst hb=>?_)
 refine wp_seq ?_
 refine r_s (T:=⟨[.o 0],_,[],[],[18]⟩ :: ⟨[.p 0 0],_,[],[0],[19]⟩ :: ⟨[.p 1 0],_,[],[0,1],[20]⟩ :: ⟨[.p 2 0,.o 4],_,[],[0,1,2],[21]⟩ :: ⟨[.p 3 0],_,[],Lr 4,[22]⟩ :: ⟨[.p 4 0],_,[],Lr 5,[23]⟩ :: ⟨[.p 5 0,.o 0],_,[],Lr 6,[24]⟩ :: ⟨[.p 5 0,.p 6 0],_,[],Lr 7,[25]⟩ :: ⟨[.p 5 0,.p 7 0],_,[],Lr 8,[26]⟩ :: ⟨[.p 5 0,.p 8 0],_,[],Lr 9,[27]⟩ :: ⟨[.p 5 0,.p 9 0,.o 4],_,[],Lr 10,[28]⟩ :: ⟨[.p 5 0,.p 10 0],_,[],Lr 11,[29]⟩ :: ⟨[.p 5 0,.p 11 0],_,[],Lr 12,[30]⟩ :: []) (F:=[.o 0,.o 1,.o 2,.o 3,.p 12 0,.o 4]) hst hb Za
  (Qm rfl u_0<|o_p rfl (Zo rfl rfl u_0 (fun _ _ h=>⟨_,h⟩))<|o_p rfl (Zb9 Zn9 rfl rfl u_0)<|o_p rfl (Zf1 (u:=a0.over) ty_4 (fun g s cs h _=>kp_4 h) rfl rfl u_1 u_0)<|Qn rfl u_0<|Qm rfl u_0<|o_g (Qg_f rfl (fun hG=>Z1 rfl rfl u_0))<|o_g (Qg_f rfl (fun hG=>Zo rfl rfl (Opd.gd hG u_0) (fun _ _ h=>⟨_,h⟩)))<|o_g (Qg_f rfl (fun hG=>Zb9 Zoi rfl rfl (Opd.gd hG u_0)))<|o_g (Qg_f rfl (fun hG=>Zb9 Z9m rfl rfl (Opd.gd hG u_0)))<|o_g (Qg_f rfl (fun hG=>Zf1 (u:=a0.out.Code) Zjb (fun g s cs h _=>Z6f h) rfl rfl u_1 (Opd.gd hG u_0)))<|o_g (Qg_f rfl (fun hG=>Zcz rfl rfl (Opd.gd hG u_0) c_i))<|o_p rfl (Zbm rfl rfl u_0 (fun hz=>(Opd.gd (bNF hz) u_1)))<|o_n) (fun a g hst hb=>?_)
 refine wp_cond_split (hst.bool 4 rfl) (fun hc1=>?_) (fun hc1=>?_)
 ·replace H0:=Zu hc1 H0
  refine r_s (L:=[(0,_),(3,_),(4,_),(1002,_)]) (T:=[⟨[.o 1],_,[],[],[31]⟩,⟨[.p 0 0,.o 2],_,[5],[0],[4]⟩,⟨[],[(5,(Zy.sl.pd ([]:List Zm)))],[],[0,1],[5]⟩]) (F:=[.o 0,.p 1 0,.p 2 0,.o 3]) (hst.pick [0,1,2,5] rfl) hb Za
   (QM rfl Zbu u_0<|o_p rfl (Z3 Zbu rfl rfl u_1 u_0)<|o_p rfl (Zch rfl rfl (Opd.c (fun g=>Zhe g)))<|o_n) (fun a g hst hb=>?_)
  refine wp_ret ?_
  refine Zp ?_
  obtain rfl:=Option.some.inj H0
  obtain ⟨u0,hu0,hq0⟩:=Zbf (P:=Tryz.prog) Zbu (hst.at 1 rfl)
  exact Zwh rfl hst hb hu0 (Zg (s:=5)) (Zcr hq0 (hst.at 2 rfl)) (hst.at 3 rfl)
 ·replace H0:=Zt hc1 H0
  refine wp_skip ?_
  refine Zq ?_
  refine r_s (L:=[(0,_),(3,_),(4,_),(6,_),(1002,_)]) (T:=[⟨[],[(7,(pRow Kd.str 9 7 ([]:List ByteArray)))],[],[],[7]⟩]) (F:=[.o 0,.o 1,.o 2,.o 3,.p 0 0,.o 4]) (hst.pick [0,1,2,3,5] rfl) hb Za
   (o_p rfl (Zch rfl rfl (Opd.c (fun g=>Zma 7 g)))<|o_n) (fun a g hst hb=>?_)
  refine wp_seq ?_
  refine r_s (T:=[⟨[.o 0],_,[],[],[32]⟩,⟨[.p 0 0],_,[],[0],[33]⟩,⟨[.p 1 0],_,[],[0,1],[34]⟩,⟨[.p 2 0],_,[],[0,1,2],[35]⟩,⟨[.p 3 0,.o 5],_,[],Lr 4,[36]⟩,⟨[.p 4 0],_,[],Lr 5,[37]⟩,⟨[],_,[],[],[38]⟩]) (F:=[.o 0,.o 1,.o 2,.o 3,.o 4,.p 4 0,.p 5 0,.p 6 0,.o 5]) hst hb Za
   (Qm rfl u_0<|o_p rfl (Zo rfl rfl u_0 (fun _ _ h=>⟨_,h⟩))<|o_p rfl (Zb9 Zxj rfl rfl u_0)<|o_p rfl (Zb9 Zxp rfl rfl u_0)<|o_p rfl (Zf1 (u:=a0.d.Acts) Zkk (fun g s cs h _=>Z1f h) rfl rfl u_1 u_0)<|o_p rfl (Zbv Tryz.underlying23 rfl rfl u_0)<|Qm rfl c_i<|o_n) (fun a g hst hb=>?_)
  obtain ⟨z20,hz1,H0⟩:=Zd H0
  refine Zb3 (fun a w=>∃ (y18:List Zm) (y19:List ByteArray) (g:G),w=g.w ∧ St 116 [(0,(pEq (ptrB b0 0))),(3,(pBox Zx 3 a1)),(4,(pBox Zx 4 (default:Zk))),(6,(pRow Zy 40 6 y18)),(7,(pRow Kd.str 9 7 y19)),(1002,(pSJ Zbo Zb7 (hpL (pRow Zj 68 1000000 (Zdp a0))) 0 b0 a0))] a g ∧ Base g0 g ∧ (y18,y19)=z20) ?_ ?_
  ·rintro a w ⟨y18,y19,g,rfl,hst,hb,rfl⟩
   refine Zq ?_
   refine wp_seq ?_
   refine r_s (T:=[⟨[.o 4],_,[],[],[63]⟩,⟨[.p 0 0],_,[],[0],[64]⟩,⟨[],_,[],[],[65]⟩]) (F:=[.o 0,.o 1,.o 2,.o 3,.o 4,.p 0 0,.p 1 0,.p 2 0,.o 5]) hst hb Za
    (Qm rfl u_0<|o_p rfl (Zbv Tryz.underlying26 rfl rfl (Opd.imp u_0 (fun _ _ h=>Zd0 h)))<|Qm rfl c_i<|o_n) (fun a g hst hb=>?_)
   obtain ⟨z33,hz2,H0⟩:=Zd H0
   refine Zb3 (fun a w=>∃ (y32:Zk) (g:G),w=g.w ∧ St 116 [(0,(pEq (ptrB b0 0))),(3,(pBox Zx 3 y32)),(4,(pBox Zx 4 (default:Zk))),(6,(pRow Zy 40 6 y18)),(7,(pRow Kd.str 9 7 y19)),(1002,(pSJ Zbo Zb7 (hpL (pRow Zj 68 1000000 (Zdp a0))) 0 b0 a0))] a g ∧ Base g0 g ∧ y32=z33) ?_ ?_
   ·rintro a w ⟨y32,g,rfl,hst,hb,rfl⟩
    refine Zq ?_
    refine wp_seq ?_
    refine r_s (T:=[⟨[.o 4],_,[],[],[87]⟩,⟨[.p 0 0],_,[],[0],[88]⟩,⟨[],_,[],[],[89]⟩]) (F:=[.o 0,.o 1,.o 2,.o 3,.p 0 0,.p 1 0,.p 2 0,.o 5]) hst hb Za
     (Qm rfl u_0<|o_p rfl (Zbv Tryz.underlying26 rfl rfl (Opd.imp u_0 (fun _ _ h=>Zd0 h)))<|Qm rfl c_i<|o_n) (fun a g hst hb=>?_)
    obtain ⟨z46,hz3,H0⟩:=Zd H0
    refine Zb3 (fun a w=>∃ (y45:Zk) (g:G),w=g.w ∧ St 116 [(0,(pEq (ptrB b0 0))),(3,(pBox Zx 3 y45)),(4,(pBox Zx 4 (default:Zk))),(6,(pRow Zy 40 6 y18)),(1002,(pSJ Zbo Zb7 (hpL (pRow Zj 68 1000000 (Zdp a0))) 0 b0 a0))] a g ∧ Base g0 g ∧ y45=z46) ?_ ?_
    ·rintro a w ⟨y45,g,rfl,hst,hb,rfl⟩
     refine Zq ?_
     obtain ⟨r47,h48,H0⟩:=Zd H0
     refine r_s (T:=[⟨[.o 1],_,[],[],[111]⟩,⟨[.o 3],_,[],[],[112]⟩,⟨[.p 1 0],_,[],[1],[113]⟩,⟨[.p 2 0],_,[],[1,2],[114]⟩,⟨[.p 3 0],_,[],[1,2,3],[115]⟩,⟨[.p 0 0,.o 2],_,[5],Lr 4,[4]⟩,⟨[.p 4 0],_,[],Lr 6,[5]⟩]) (F:=[.o 0,.p 5 0,.p 6 0,.o 4]) hst hb Za
      (QM rfl Zbu u_0<|Qm rfl u_0<|o_p rfl (Zw7 rfl rfl (Opd.imp u_0 (fun _ _ h=>Zd0 h)))<|o_p rfl (Zl Z8x (Zr8 _ h48) rfl rfl (.cons u_0 .nil))<|o_p rfl (Z01 Zh6 rfl rfl u_0)<|o_p rfl (Z3 Zbu rfl rfl u_1 u_0)<|Qa rfl u_0<|o_n) (fun a g hst hb=>?_)
     refine wp_ret ?_
     obtain rfl:=Option.some.inj H0
     obtain ⟨u0,hu0,hq0⟩:=Zbf (P:=Tryz.prog) Zbu (hst.at 1 rfl)
     exact Zwh rfl hst hb hu0 (Zg (s:=5)) (Zcr hq0 (hst.at 2 rfl)) (hst.at 3 rfl)
    ·refine wp_block ?_
     refine wp_loop_ghost (fun n a w=>∃ (x34:Zk) (x35:Int) (g:G),w=g.w ∧ St 116 [(0,(pEq (ptrB b0 0))),(3,(pBox Zx 3 x34)),(4,(pBox Zx 4 (default:Zk))),(6,(pRow Zy 40 6 y18)),(87,(pRow Kd.str 9 7 y19)),(88,(pInt .i64 (y19.length:Int))),(89,(pInt .i64 x35)),(1002,(pSJ Zbo Zb7 (hpL (pRow Zj 68 1000000 (Zdp a0))) 0 b0 a0))] a g ∧ Base g0 g ∧ Zdx a0 y19 n x34 x35=some z46) (Int.toNat ((y19.length:Int) - (0:Int)) + 1) ⟨y32,(0:Int),g,rfl,(hst.pick [0,1,2,3,4,5,6,7] rfl),hb,hz3⟩ (fun n a w hI=>?_)
     obtain ⟨x34,x35,g,rfl,hst,hb,H1⟩:=hI
     cases n with
     | zero=>exact absurd H1 (by simp [Zdx])
     | succ n =>
      rw [Zdx] at H1
      refine r_s (T:=[⟨[.o 6,.o 5],_,[],[],[90]⟩]) (F:=[.o 0,.o 1,.o 2,.o 3,.o 4,.o 5,.o 6,.p 0 0,.o 7]) hst hb Za
       (o_p rfl (Zca rfl rfl u_0 u_1)<|o_n) (fun a g hst hb=>?_)
      refine wp_seq ?_
      refine wp_cond_split (hst.bool 7 rfl) (fun hc36=>?_) (fun hc36=>?_)
      ·replace H1:=Zu hc36 H1
       refine wp_skip ?_
       refine Zq ?_
       refine wp_seq ?_
       refine Zb3 (fun a w=>∃ (j44:Zk) (g:G),w=g.w ∧ St 116 [(0,(pEq (ptrB b0 0))),(3,(pBox Zx 3 j44)),(4,(pBox Zx 4 (default:Zk))),(6,(pRow Zy 40 6 y18)),(87,(pRow Kd.str 9 7 y19)),(88,(pInt .i64 (y19.length:Int))),(89,(pInt .i64 x35)),(1002,(pSJ Zbo Zb7 (hpL (pRow Zj 68 1000000 (Zdp a0))) 0 b0 a0))] a g ∧ Base g0 g ∧ Zhx x35 (Zdx a0 y19 n) j44=some z46) ?_ ?_
       ·rintro a w ⟨j44,g,rfl,hst,hb,H1⟩
        unfold Zhx at H1
        refine Zq ?_
        refine r_g (T:=[⟨[.o 6],_,[],[],[110]⟩,⟨[.p 0 0],_,[],[0],[89]⟩]) (F:=[.o 0,.o 1,.o 2,.o 3,.o 4,.o 5,.p 1 0,.o 7]) hst hb Za
         (o_p rfl (Zbz rfl rfl u_0 c_i rfl)<|Qm rfl u_0<|o_n) (fun a g hst hb=>?_)
        exact ⟨n,Nat.lt_succ_self _,j44,(IntKind.i64.wrap (x35 + (1:Int))),g,rfl,(hst.pick [0,1,2,3,4,5,6,7] rfl),hb,H1⟩
       ·refine wp_block ?_
        obtain ⟨e37,h38,H1⟩:=Zd H1
        refine r_s (L:=[(0,_),(3,_),(4,_),(6,_),(87,_),(88,_),(89,_),(1002,_)]) (T:=[⟨[.o 4,.o 6],_,[],[],[91]⟩,⟨[.p 0 0],_,[],[0],[92]⟩,⟨[.p 1 0],_,[],[0,1],[15]⟩]) (F:=[.o 0,.o 1,.o 2,.o 3,.p 2 0,.o 4,.o 5,.o 6,.o 7]) (hst.pick [0,1,2,3,4,5,6,8] rfl) hb Za
         (o_p rfl (Zbi Tryz.underlying26 sz_9 rfl rfl (Opd.imp u_0 (fun _ _ h=>Zd0 h)) u_1 h38)<|Ql rfl ty_9 u_0<|Qa rfl u_0<|o_n) (fun a g hst hb=>?_)
        obtain ⟨r39,h40,H1⟩:=Zd H1
        refine r_s (T:=⟨[.o 0],_,[],[],[94]⟩ :: ⟨[.p 0 0],_,[],[0],[95]⟩ :: ⟨[.p 1 0],_,[],[0,1],[96]⟩ :: ⟨[.p 2 0,.o 8],_,[],[0,1,2],[97]⟩ :: ⟨[.o 4],_,[],[],[98]⟩ :: ⟨[.p 3 0,.p 4 0],_,[],Lr 5,[99]⟩ :: ⟨[.p 5 0],_,[],Lr 6,[93]⟩ :: ⟨[.p 6 0],_,[],Lr 7,[100]⟩ :: ⟨[.p 6 0],_,[],Lr 7,[101]⟩ :: ⟨[],[(16,(pBox Ze 16 (default:Zb)))],[17],[],[16]⟩ :: ⟨[.p 7 0,.p 9 0],_,[17],[0,1,2,3,4,5,6,7,9],[16]⟩ :: ⟨[.p 8 0],_,[],Lr 11,[17]⟩ :: []) (F:=[.o 0,.o 1,.o 2,.o 3,.o 4,.p 10 0,.p 11 0,.o 5,.o 6,.o 7,.o 8]) hst hb Za
         (Qm rfl u_0<|o_p rfl (Zo rfl rfl u_0 (fun _ _ h=>⟨_,h⟩))<|o_p rfl (Zb9 Ztv rfl rfl u_0)<|o_p rfl (Zf1 (u:=a0.now) Zbu (fun g s cs h _=>kp_2 h) rfl rfl u_1 u_0)<|Qm rfl u_0<|o_p rfl (Zl Zt1 (Zg6 _ _ h40) rfl rfl (.cons u_0 (.cons u_1 .nil)))<|Qm rfl u_0<|o_p rfl (Z2 rfl rfl u_0 rfl)<|o_p rfl (Z2 rfl rfl u_0 rfl)<|o_p rfl (Zbh (zs:=[.int .i64 0,.int .i64 0,.int .i64 0,.int .i64 0,.float .f64 0,.int .i64 0,.string ByteArray.empty,.slice none 0 0]) (by kernel_rfl) (fun g=>Zb0 g) rfl rfl)<|o_p rfl (Zb6 Zbb rfl rfl u_1 u_0)<|Qa rfl u_0<|o_n) (fun a g hst hb=>?_)
        refine r_s (T:=[⟨[.o 6],_,[],[],[102]⟩]) (F:=[.o 0,.o 1,.o 2,.o 3,.o 4,.o 5,.o 7,.o 8,.o 9,.p 0 0,.o 10]) hst hb Za
         (Qm rfl u_0<|o_n) (fun a g hst hb=>?_)
        refine wp_cond_split (hst.bool 9 rfl) (fun hc41=>?_) (fun hc41=>?_)
        ·replace H1:=Zu hc41 H1
         obtain ⟨r42,h43,H1⟩:=Zd H1
         refine r_g (L:=[(0,_),(3,_),(4,_),(6,_),(15,_),(16,_),(87,_),(88,_),(89,_),(1002,_)]) (T:=[⟨[.o 1],_,[],[],[104]⟩,⟨[.o 4],_,[],[],[105]⟩,⟨[.o 5],_,[],[],[106]⟩,⟨[.p 0 0,.p 1 0,.p 2 0],_,[],[0,1,2],[107]⟩,⟨[.p 3 0],_,[],Lr 4,[103]⟩,⟨[.p 4 0],_,[],Lr 5,[108]⟩,⟨[.p 4 0],_,[],Lr 5,[109]⟩,⟨[.p 5 0,.o 1],_,[4],Lr 6,[3]⟩]) (F:=[.o 0,.p 7 0,.o 2,.o 3,.o 6,.o 7,.o 8,.o 9]) (hst.pick [0,1,2,3,4,5,6,7,8,10] rfl) hb Za
          (QM rfl Zbu u_0<|Qm rfl u_0<|Ql rfl Zbb u_0<|o_p rfl (Zl Zzm (Zj5 _ _ _ h43) rfl rfl (.cons u_0 (.cons u_1 (.cons u_2 .nil))))<|Qm rfl u_0<|o_p rfl (Z2 rfl rfl u_0 rfl)<|o_p rfl (Z2 rfl rfl u_0 rfl)<|o_p rfl (Z3 Zbu rfl rfl u_1 u_0)<|o_n) (fun a g hst hb=>?_)
         refine Zbc ?_
         exact ⟨r42.1,g,rfl,(hst.pick [0,1,2,3,4,5,6,7] rfl),hb,H1⟩
        ·replace H1:=Zt hc41 H1
         refine wp_skip ?_
         refine Zbc ?_
         exact ⟨x34,g,rfl,(hst.pick [0,1,2,3,6,7,8,10] rfl),hb,H1⟩
      ·replace H1:=Zt hc36 H1
       refine wp_exit ?_
       refine Zby ?_
       refine Zby ?_
       refine Zce ?_
       exact ⟨x34,g,rfl,(hst.pick [0,1,2,3,8] rfl),hb,Option.some.inj H1⟩
   ·refine wp_block ?_
    refine wp_loop_ghost (fun n a w=>∃ (x21:Zk) (x22:Int) (g:G),w=g.w ∧ St 116 [(0,(pEq (ptrB b0 0))),(3,(pBox Zx 3 x21)),(4,(pBox Zx 4 (default:Zk))),(6,(pRow Zy 40 6 y18)),(7,(pRow Kd.str 9 7 y19)),(63,(pRow Kd.str 9 7 y19)),(64,(pInt .i64 (y19.length:Int))),(65,(pInt .i64 x22)),(1002,(pSJ Zbo Zb7 (hpL (pRow Zj 68 1000000 (Zdp a0))) 0 b0 a0))] a g ∧ Base g0 g ∧ Zdw a0 y19 n x21 x22=some z33) (Int.toNat ((y19.length:Int) - (0:Int)) + 1) ⟨a1,(0:Int),g,rfl,(hst.pick [0,1,2,3,4,5,6,7,8] rfl),hb,hz2⟩ (fun n a w hI=>?_)
    obtain ⟨x21,x22,g,rfl,hst,hb,H1⟩:=hI
    cases n with
    | zero=>exact absurd H1 (by simp [Zdw])
    | succ n =>
     rw [Zdw] at H1
     refine r_s (T:=[⟨[.o 7,.o 6],_,[],[],[66]⟩]) (F:=[.o 0,.o 1,.o 2,.o 3,.o 4,.o 5,.o 6,.o 7,.p 0 0,.o 8]) hst hb Za
      (o_p rfl (Zca rfl rfl u_0 u_1)<|o_n) (fun a g hst hb=>?_)
     refine wp_seq ?_
     refine wp_cond_split (hst.bool 8 rfl) (fun hc23=>?_) (fun hc23=>?_)
     ·replace H1:=Zu hc23 H1
      refine wp_skip ?_
      refine Zq ?_
      refine wp_seq ?_
      refine Zb3 (fun a w=>∃ (j31:Zk) (g:G),w=g.w ∧ St 116 [(0,(pEq (ptrB b0 0))),(3,(pBox Zx 3 j31)),(4,(pBox Zx 4 (default:Zk))),(6,(pRow Zy 40 6 y18)),(7,(pRow Kd.str 9 7 y19)),(63,(pRow Kd.str 9 7 y19)),(64,(pInt .i64 (y19.length:Int))),(65,(pInt .i64 x22)),(1002,(pSJ Zbo Zb7 (hpL (pRow Zj 68 1000000 (Zdp a0))) 0 b0 a0))] a g ∧ Base g0 g ∧ Zhz x22 (Zdw a0 y19 n) j31=some z33) ?_ ?_
      ·rintro a w ⟨j31,g,rfl,hst,hb,H1⟩
       unfold Zhz at H1
       refine Zq ?_
       refine r_g (T:=[⟨[.o 7],_,[],[],[86]⟩,⟨[.p 0 0],_,[],[0],[65]⟩]) (F:=[.o 0,.o 1,.o 2,.o 3,.o 4,.o 5,.o 6,.p 1 0,.o 8]) hst hb Za
        (o_p rfl (Zbz rfl rfl u_0 c_i rfl)<|Qm rfl u_0<|o_n) (fun a g hst hb=>?_)
       exact ⟨n,Nat.lt_succ_self _,j31,(IntKind.i64.wrap (x22 + (1:Int))),g,rfl,(hst.pick [0,1,2,3,4,5,6,7,8] rfl),hb,H1⟩
      ·refine wp_block ?_
       obtain ⟨e24,h25,H1⟩:=Zd H1
       refine r_s (L:=[(0,_),(3,_),(4,_),(6,_),(7,_),(63,_),(64,_),(65,_),(1002,_)]) (T:=[⟨[.o 5,.o 7],_,[],[],[67]⟩,⟨[.p 0 0],_,[],[0],[68]⟩,⟨[.p 1 0],_,[],[0,1],[11]⟩]) (F:=[.o 0,.o 1,.o 2,.o 3,.o 4,.p 2 0,.o 5,.o 6,.o 7,.o 8]) (hst.pick [0,1,2,3,4,5,6,7,9] rfl) hb Za
        (o_p rfl (Zbi Tryz.underlying26 sz_9 rfl rfl (Opd.imp u_0 (fun _ _ h=>Zd0 h)) u_1 h25)<|Ql rfl ty_9 u_0<|Qa rfl u_0<|o_n) (fun a g hst hb=>?_)
       obtain ⟨r26,h27,H1⟩:=Zd H1
       refine r_s (T:=⟨[.o 0],_,[],[],[70]⟩ :: ⟨[.p 0 0],_,[],[0],[71]⟩ :: ⟨[.p 1 0],_,[],[0,1],[72]⟩ :: ⟨[.p 2 0,.o 9],_,[],[0,1,2],[73]⟩ :: ⟨[.o 5],_,[],[],[74]⟩ :: ⟨[.p 3 0,.p 4 0],_,[],Lr 5,[75]⟩ :: ⟨[.p 5 0],_,[],Lr 6,[69]⟩ :: ⟨[.p 6 0],_,[],Lr 7,[76]⟩ :: ⟨[.p 6 0],_,[],Lr 7,[77]⟩ :: ⟨[],[(12,(pBox Ze 12 (default:Zb)))],[13],[],[12]⟩ :: ⟨[.p 7 0,.p 9 0],_,[13],[0,1,2,3,4,5,6,7,9],[12]⟩ :: ⟨[.p 8 0],_,[],Lr 11,[13]⟩ :: []) (F:=[.o 0,.o 1,.o 2,.o 3,.o 4,.o 5,.p 11 0,.o 6,.o 7,.o 8,.o 9]) hst hb Za
        (Qm rfl u_0<|o_p rfl (Zo rfl rfl u_0 (fun _ _ h=>⟨_,h⟩))<|o_p rfl (Zb9 Ztv rfl rfl u_0)<|o_p rfl (Zf1 (u:=a0.now) Zbu (fun g s cs h _=>kp_2 h) rfl rfl u_1 u_0)<|Qm rfl u_0<|o_p rfl (Zl Zt1 (Zg6 _ _ h27) rfl rfl (.cons u_0 (.cons u_1 .nil)))<|Qm rfl u_0<|o_p rfl (Z2 rfl rfl u_0 rfl)<|o_p rfl (Z2 rfl rfl u_0 rfl)<|o_p rfl (Zbh (zs:=[.int .i64 0,.int .i64 0,.int .i64 0,.int .i64 0,.float .f64 0,.int .i64 0,.string ByteArray.empty,.slice none 0 0]) (by kernel_rfl) (fun g=>Zb0 g) rfl rfl)<|o_p rfl (Zb6 Zbb rfl rfl u_1 u_0)<|Qa rfl u_0<|o_n) (fun a g hst hb=>?_)
       refine r_s (T:=[⟨[.o 6],_,[],[],[78]⟩,⟨[.p 0 0],_,[],[0],[79]⟩]) (F:=[.o 0,.o 1,.o 2,.o 3,.o 4,.o 5,.o 7,.o 8,.o 9,.p 1 0,.o 10]) hst hb Za
        (Qm rfl u_0<|Qn rfl u_0<|o_n) (fun a g hst hb=>?_)
       refine wp_cond_split (hst.bool 9 rfl) (fun hc28=>?_) (fun hc28=>?_)
       ·replace H1:=Zu hc28 H1
        obtain ⟨r29,h30,H1⟩:=Zd H1
        refine r_g (L:=[(0,_),(3,_),(4,_),(6,_),(7,_),(11,_),(63,_),(64,_),(65,_),(1002,_)]) (T:=[⟨[.o 1],_,[],[],[81]⟩,⟨[.o 5],_,[],[],[82]⟩,⟨[.p 0 0,.p 1 0],_,[],[0,1],[83]⟩,⟨[.p 2 0],_,[],[0,1,2],[80]⟩,⟨[.p 3 0],_,[],Lr 4,[84]⟩,⟨[.p 3 0],_,[],Lr 4,[85]⟩,⟨[.p 4 0,.o 1],_,[4],Lr 5,[3]⟩]) (F:=[.o 0,.p 6 0,.o 2,.o 3,.o 4,.o 6,.o 7,.o 8,.o 9]) (hst.pick [0,1,2,3,4,5,6,7,8,10] rfl) hb Za
         (QM rfl Zbu u_0<|Qm rfl u_0<|o_p rfl (Zl Z8p (Zo5 _ _ h30) rfl rfl (.cons u_0 (.cons u_1 .nil)))<|Qm rfl u_0<|o_p rfl (Z2 rfl rfl u_0 rfl)<|o_p rfl (Z2 rfl rfl u_0 rfl)<|o_p rfl (Z3 Zbu rfl rfl u_1 u_0)<|o_n) (fun a g hst hb=>?_)
        refine Zbc ?_
        exact ⟨r29.1,g,rfl,(hst.pick [0,1,2,3,4,5,6,7,8] rfl),hb,H1⟩
       ·replace H1:=Zt hc28 H1
        refine wp_skip ?_
        refine Zbc ?_
        exact ⟨x21,g,rfl,(hst.pick [0,1,2,3,4,6,7,8,10] rfl),hb,H1⟩
     ·replace H1:=Zt hc23 H1
      refine wp_exit ?_
      refine Zby ?_
      refine Zby ?_
      refine Zce ?_
      exact ⟨x21,g,rfl,(hst.pick [0,1,2,3,4,9] rfl),hb,Option.some.inj H1⟩
  ·refine wp_block ?_
   refine wp_loop_ghost (fun n a w=>∃ (x2:List Zm) (x3:List ByteArray) (x4:Int) (g:G),w=g.w ∧ St 116 [(0,(pEq (ptrB b0 0))),(3,(pBox Zx 3 a1)),(4,(pBox Zx 4 (default:Zk))),(6,(pRow Zy 40 6 x2)),(7,(pRow Kd.str 9 7 x3)),(36,(Zy.sl.pd a0.d.Acts)),(37,(pInt .i64 (a0.d.Acts.length:Int))),(38,(pInt .i64 x4)),(1002,(pSJ Zbo Zb7 (hpL (pRow Zj 68 1000000 (Zdp a0))) 0 b0 a0))] a g ∧ Base g0 g ∧ Zdi a0 n x2 x3 x4=some z20) (Int.toNat ((a0.d.Acts.length:Int) - (0:Int)) + 1) ⟨([]:List Zm),([]:List ByteArray),(0:Int),g,rfl,(hst.pick [0,1,2,3,4,5,6,7,8] rfl),hb,hz1⟩ (fun n a w hI=>?_)
   obtain ⟨x2,x3,x4,g,rfl,hst,hb,H1⟩:=hI
   cases n with
   | zero=>exact absurd H1 (by simp [Zdi])
   | succ n =>
    rw [Zdi] at H1
    refine r_s (T:=[⟨[.o 7,.o 6],_,[],[],[39]⟩]) (F:=[.o 0,.o 1,.o 2,.o 3,.o 4,.o 5,.o 6,.o 7,.p 0 0,.o 8]) hst hb Za
     (o_p rfl (Zca rfl rfl u_0 u_1)<|o_n) (fun a g hst hb=>?_)
    refine wp_seq ?_
    refine wp_cond_split (hst.bool 8 rfl) (fun hc5=>?_) (fun hc5=>?_)
    ·replace H1:=Zu hc5 H1
     refine wp_skip ?_
     refine Zq ?_
     refine wp_seq ?_
     refine Zb3 (fun a w=>∃ (j16:List Zm) (j17:List ByteArray) (g:G),w=g.w ∧ St 116 [(0,(pEq (ptrB b0 0))),(3,(pBox Zx 3 a1)),(4,(pBox Zx 4 (default:Zk))),(6,(pRow Zy 40 6 j16)),(7,(pRow Kd.str 9 7 j17)),(36,(Zy.sl.pd a0.d.Acts)),(37,(pInt .i64 (a0.d.Acts.length:Int))),(38,(pInt .i64 x4)),(1002,(pSJ Zbo Zb7 (hpL (pRow Zj 68 1000000 (Zdp a0))) 0 b0 a0))] a g ∧ Base g0 g ∧ Zgr x4 (Zdi a0 n) j16 j17=some z20) ?_ ?_
     ·rintro a w ⟨j16,j17,g,rfl,hst,hb,H1⟩
      unfold Zgr at H1
      refine Zq ?_
      refine r_g (T:=[⟨[.o 7],_,[],[],[62]⟩,⟨[.p 0 0],_,[],[0],[38]⟩]) (F:=[.o 0,.o 1,.o 2,.o 3,.o 4,.o 5,.o 6,.p 1 0,.o 8]) hst hb Za
       (o_p rfl (Zbz rfl rfl u_0 c_i rfl)<|Qm rfl u_0<|o_n) (fun a g hst hb=>?_)
      exact ⟨n,Nat.lt_succ_self _,j16,j17,(IntKind.i64.wrap (x4 + (1:Int))),g,rfl,(hst.pick [0,1,2,3,4,5,6,7,8] rfl),hb,H1⟩
     ·refine wp_block ?_
      obtain ⟨e6,h7,H1⟩:=Zd H1
      refine r_s (L:=[(0,_),(3,_),(4,_),(6,_),(7,_),(36,_),(37,_),(38,_),(1002,_)]) (T:=[⟨[.o 5,.o 7],_,[],[],[40]⟩,⟨[.p 0 0],_,[],[0],[41]⟩,⟨[],[(9,(pBox Zy 9 (default:Zm)))],[10],[],[9]⟩,⟨[.p 1 0,.p 2 0],_,[10],[0,1,2],[9]⟩]) (F:=[.o 0,.o 1,.o 2,.o 3,.o 4,.p 3 0,.o 5,.o 6,.o 7,.o 8]) (hst.pick [0,1,2,3,4,5,6,7,9] rfl) hb Za
       (o_p rfl (Zbi Tryz.underlying23 Znr rfl rfl u_0 u_1 h7)<|Ql rfl Zhb u_0<|o_p rfl (Zbh (zs:=[.int .i64 0,.string ByteArray.empty,.int .i64 0,.float .f64 0,.string ByteArray.empty,.int .i64 0,.int .i64 0,.int .i64 0,.int .i64 0,.float .f64 0,.int .i64 0,.string ByteArray.empty,.slice none 0 0,.bool false]) (by kernel_rfl) (fun g=>Zpf g) rfl rfl)<|o_p rfl (Zb6 Zhb rfl rfl u_1 u_0)<|o_n) (fun a g hst hb=>?_)
      obtain ⟨r8,h9,H1⟩:=Zd H1
      refine r_s (T:=[⟨[.o 0],_,[],[],[42]⟩,⟨[.p 0 0],_,[],[0],[43]⟩,⟨[.p 1 0],_,[],[0,1],[44]⟩,⟨[.p 2 0,.o 9],_,[],[0,1,2],[45]⟩,⟨[.o 5],_,[],[],[46]⟩,⟨[.p 4 0],_,[],[4],[47]⟩,⟨[.p 3 0,.p 5 0],_,[],Lr 6,[48]⟩]) (F:=[.o 0,.o 1,.o 2,.o 3,.o 4,.o 5,.o 6,.o 7,.o 8,.p 6 0,.o 9]) hst hb Za
       (Qm rfl u_0<|o_p rfl (Zo rfl rfl u_0 (fun _ _ h=>⟨_,h⟩))<|o_p rfl (Zb9 Z2m rfl rfl u_0)<|o_p rfl (Zf1 (u:=a0.split) Z74 (fun g s cs h _=>kp_1 h) rfl rfl u_1 u_0)<|Qf rfl Zhj u_0<|Ql rfl ty_9 u_0<|o_p rfl (Zl Z8f (Zjl _ _ h9) rfl rfl (.cons u_0 (.cons u_1 .nil)))<|o_n) (fun a g hst hb=>?_)
      refine wp_cond_split (hst.bool 9 rfl) (fun hc10=>?_) (fun hc10=>?_)
      ·replace H1:=Zu hc10 H1
       obtain ⟨h11,H1⟩:=Zev H1
       refine r_g (L:=[(0,_),(3,_),(4,_),(6,_),(7,_),(9,_),(36,_),(37,_),(38,_),(1002,_)]) (T:=[⟨[.o 3],_,[],[],[49]⟩,⟨[.o 5],_,[],[],[50]⟩,⟨[.p 1 0],_,[],[1],[51]⟩,⟨[.p 0 0,.p 2 0],_,[7],[0,1,2],[6,49,52]⟩,⟨[.p 3 0],_,[],Lr 4,[6]⟩]) (F:=[.o 0,.o 1,.o 2,.p 4 0,.o 4,.o 6,.o 7,.o 8,.o 9]) (hst.pick [0,1,2,3,4,5,6,7,8,10] rfl) hb Za
        (Qm rfl u_0<|Ql rfl Zhb u_0<|o_p rfl (Zhd Zpi (xs:=[.tmp 50]) (.cons u_0 .nil) (by decide) rfl rfl)<|o_p rfl (Zej Zpi rfl rfl u_0 u_1 h11)<|Qa rfl u_0<|o_n) (fun a g hst hb=>?_)
       refine Zbc ?_
       exact ⟨(x2 ++ ([e6]:List Zm)),x3,g,rfl,(hst.pick [0,1,2,3,4,5,6,7,8] rfl),hb,H1⟩
      ·replace H1:=Zt hc10 H1
       obtain ⟨r12,h13,H1⟩:=Zd H1
       refine r_s (L:=[(0,_),(3,_),(4,_),(6,_),(7,_),(9,_),(36,_),(37,_),(38,_),(1002,_)]) (T:=[⟨[.o 5],_,[],[],[53]⟩,⟨[.p 0 0],_,[],[0],[54]⟩,⟨[.p 1 0],_,[],[0,1],[55]⟩,⟨[.p 2 0],_,[],[0,1,2],[56]⟩]) (F:=[.o 0,.o 1,.o 2,.o 3,.o 4,.o 5,.o 6,.o 7,.o 8,.p 3 0,.o 9]) (hst.pick [0,1,2,3,4,5,6,7,8,10] rfl) hb Za
        (Qf rfl Zde u_0<|Ql rfl ty_3 u_0<|o_p rfl (Zl Z8q (Zti _ h13) rfl rfl (.cons u_0 .nil))<|Qn rfl u_0<|o_n) (fun a g hst hb=>?_)
       refine wp_cond_split (hst.bool 9 rfl) (fun hc14=>?_) (fun hc14=>?_)
       ·replace H1:=Zu hc14 H1
        obtain ⟨h15,H1⟩:=Zev H1
        refine r_g (L:=[(0,_),(3,_),(4,_),(6,_),(7,_),(9,_),(36,_),(37,_),(38,_),(1002,_)]) (T:=[⟨[.o 4],_,[],[],[57]⟩,⟨[.o 5],_,[],[],[58]⟩,⟨[.p 1 0],_,[],[1],[59]⟩,⟨[.p 2 0],_,[],[1,2],[60]⟩,⟨[.p 0 0,.p 3 0],_,[8],Lr 4,[7,57,61]⟩,⟨[.p 4 0],_,[],Lr 5,[7]⟩]) (F:=[.o 0,.o 1,.o 2,.o 3,.p 5 0,.o 6,.o 7,.o 8,.o 9]) (hst.pick [0,1,2,3,4,5,6,7,8,10] rfl) hb Za
         (Qm rfl u_0<|Qf rfl Zhj u_0<|Ql rfl ty_9 u_0<|o_p rfl (Zhd Zr0 (xs:=[.tmp 59]) (.cons u_0 .nil) (by decide) rfl rfl)<|o_p rfl (Zej Zr0 rfl rfl u_0 u_1 h15)<|Qa rfl u_0<|o_n) (fun a g hst hb=>?_)
        refine Zbc ?_
        exact ⟨x2,(x3 ++ ([e6.Key]:List ByteArray)),g,rfl,(hst.pick [0,1,2,3,4,5,6,7,8] rfl),hb,H1⟩
       ·replace H1:=Zt hc14 H1
        refine wp_skip ?_
        refine Zbc ?_
        exact ⟨x2,x3,g,rfl,(hst.pick [0,1,2,3,4,6,7,8,10] rfl),hb,H1⟩
    ·replace H1:=Zt hc5 H1
     refine wp_exit ?_
     refine Zby ?_
     refine Zby ?_
     refine Zce ?_
     exact ⟨x2,x3,g,rfl,(hst.pick [0,1,2,3,4,9] rfl),hb,Option.some.inj H1⟩
theorem Zpa (a0:Z0) {r:Bool} (h:Zjf a0=some r):FnMR Tryz.prog 16 Zcq a0 a0 [] (Zbd r):=by
 have H0:=h
 unfold Zjf at H0
 clear h
 refine Zt8 (N:=7) Tryz.func16 rfl rfl (Qe rfl) rfl rfl (fun a g0 b0 hst hb=>?_)
 replace hst:St 7 [(0,(pEq (ptrB b0 0))),(1002,(pSJ Zbo Zb7 (hpL (pRow Zj 68 1000000 (Zdp a0))) 0 b0 a0))] _ _:=Zrh hst
 refine r_s (T:=[⟨[],_,[],[],[2]⟩]) (F:=[.o 0,.o 1]) hst hb Za
  (Qa rfl c_b<|o_n) (fun a g hst hb=>?_)
 refine r_s (T:=[⟨[.o 0],_,[],[],[3]⟩,⟨[.p 0 0],_,[],[0],[4]⟩,⟨[.p 1 0],_,[],[0,1],[5]⟩,⟨[.p 2 0,.o 1],_,[],[0,1,2],[6]⟩,⟨[.p 3 0],_,[],Lr 4,[2]⟩]) (F:=[.o 0,.p 4 0,.o 1]) hst hb Za
  (Qm rfl u_0<|o_p rfl (Zo rfl rfl u_0 (fun _ _ h=>⟨_,h⟩))<|o_p rfl (Zb9 Zn9 rfl rfl u_0)<|o_p rfl (Zf1 (u:=a0.over) ty_4 (fun g s cs h _=>kp_4 h) rfl rfl u_1 u_0)<|Qa rfl u_0<|o_n) (fun a g hst hb=>?_)
 refine wp_ret ?_
 obtain rfl:=Option.some.inj H0
 exact Zzq rfl hst hb (Zg (s:=2)) (hst.at 1 rfl) (hst.at 2 rfl)
theorem Zms (a0:Zk) (a1:Int) {r:ByteArray × Zb × Bool} (h:Zh2 a0 a1=some r):FnOk Tryz.prog 41 [(Zx.pd a0),(pInt .i64 a1)] (pTup [(pStr r.1),(Ze.pd r.2.1),(Zbd r.2.2)]):=by
 have H0:=h
 unfold Zh2 at H0
 clear h
 refine Zbt (N:=48) Tryz.func41 rfl rfl (Qe rfl) rfl rfl (fun a g0 hst hb=>?_)
 refine r_s (T:=[⟨[.o 0],_,[],[],[2]⟩,⟨[],_,[],[],[4]⟩,⟨[],[(5,(pBox Ze 5 (default:Zb)))],[6],[],[5]⟩,⟨[],_,[],[1],[6]⟩]) (F:=[.o 1,.p 0 0,.p 2 0]) hst hb Za
  (Qb rfl u_0<|Qa rfl c_s<|o_p rfl (Zbh (zs:=[.int .i64 0,.int .i64 0,.int .i64 0,.int .i64 0,.float .f64 0,.int .i64 0,.string ByteArray.empty,.slice none 0 0]) (by kernel_rfl) (fun g=>Zb0 g) rfl rfl)<|Qa rfl c_b<|o_n) (fun a g hst hb=>?_)
 refine wp_seq ?_
 refine r_s (T:=[⟨[.o 1],_,[],[],[9]⟩,⟨[.p 0 0],_,[],[0],[10]⟩,⟨[.p 1 0],_,[],[0,1],[7]⟩]) (F:=[.o 0,.o 2,.p 2 0]) hst hb Za
  (Qf rfl Zq5 u_0<|Ql rfl Zdh u_0<|Qa rfl u_0<|o_n) (fun a g hst hb=>?_)
 obtain ⟨z16,hz1,H0⟩:=Zd H0
 refine Zb3 (fun a w=>∃ (y15:Zb) (g:G),w=g.w ∧ St 48 [(5,(pBox Ze 5 y15))] a g ∧ Base g0 g ∧ (.inr y15)=z16) ?_ ?_
 ·rintro a w ⟨y15,g,rfl,hst,hb,rfl⟩
  refine Zq ?_
  refine r_s (T:=[⟨[],_,[],[],[47]⟩,⟨[],_,[],[],[4]⟩,⟨[.p 0 0,.o 0],_,[6],[0,1],[5]⟩,⟨[],_,[],[0,1,2],[6]⟩]) (F:=[.p 1 0,.p 2 0,.p 3 0]) hst hb Za
   (o_p rfl (Zno rfl rfl )<|Qa rfl c_s<|o_p rfl (Z3 Zbb rfl rfl u_1 u_0)<|Qa rfl c_b<|o_n) (fun a g hst hb=>?_)
  refine wp_ret ?_
  obtain rfl:=Option.some.inj H0
  obtain ⟨u1,hu1,hq1⟩:=Zbf (P:=Tryz.prog) Zbb (hst.at 1 rfl)
  exact Zi7 rfl hst hb (Zg (s:=4)) hu1 (Zg (s:=6)) (Zg9 (hst.at 0 rfl) hq1 (hst.at 2 rfl))
 ·refine wp_block ?_
  refine wp_loop_ghost (fun n a w=>∃ (x1:Int) (x2:Zb) (x3:shelf_nodeT) (g:G),w=g.w ∧ St 48 [(1,(pInt .i64 x1)),(5,(pBox Ze 5 x2)),(7,(Zba.pd x3))] a g ∧ Base g0 g ∧ Zea n x1 x2 x3=some z16) (a0.top.hh + 1) ⟨a1,(default:Zb),a0.top,g,rfl,(hst.pick [0,1,2] rfl),hb,hz1⟩ (fun n a w hI=>?_)
  obtain ⟨x1,x2,x3,g,rfl,hst,hb,H1⟩:=hI
  cases n with
  | zero=>exact absurd H1 (by simp [Zea])
  | succ n =>
   rw [Zea] at H1
   refine wp_seq ?_
   refine r_s (T:=[⟨[.o 2],_,[],[],[11]⟩,⟨[.p 0 0],_,[],[0],[12]⟩]) (F:=[.o 0,.o 1,.o 2,.p 1 0]) hst hb Za
    (Qm rfl u_0<|o_p rfl (Z1q Tryz.underlying28 rfl rfl u_0 (Zfw _))<|o_n) (fun a g hst hb=>?_)
   refine wp_cond_split (hst.bool 3 rfl) (fun hc4=>?_) (fun hc4=>?_)
   ·replace H1:=Zu hc4 H1
    refine wp_skip ?_
    refine Zq ?_
    refine Zb3 (fun a w=>∃ (j13:Int) (j14:shelf_nodeT) (g:G),w=g.w ∧ St 48 [(1,(pInt .i64 j13)),(5,(pBox Ze 5 x2)),(7,(Zba.pd j14))] a g ∧ Base g0 g ∧ Ziz x2 (Zea n) j13 j14=some z16) ?_ ?_
    ·rintro a w ⟨j13,j14,g,rfl,hst,hb,H1⟩
     unfold Ziz at H1
     exact ⟨n,Nat.lt_succ_self _,j13,x2,j14,g,rfl,(hst.pick [0,1,2] rfl),hb,H1⟩
    ·refine wp_block ?_
     obtain ⟨n5,h6,H1⟩:=Zd H1;obtain ⟨r7,h8,H1⟩:=Zd H1
     refine r_s (L:=[(1,_),(5,_),(7,_)]) (T:=[⟨[.o 2],_,[],[],[13]⟩,⟨[.p 0 0],_,[],[0],[14]⟩,⟨[.p 1 0],_,[],[0,1],[15]⟩,⟨[.p 2 0],_,[],[0,1,2],[16]⟩,⟨[.p 3 0],_,[],Lr 4,[17]⟩,⟨[.p 4 0],_,[],Lr 5,[8]⟩]) (F:=[.o 0,.o 1,.o 2,.p 5 0]) (hst.pick [0,1,2] rfl) hb Za
      (Qm rfl u_0<|o_p rfl (Zo rfl rfl (Opd.imp u_0 (fun _ _ h=>Zv h6 h)) (fun _ _ ⟨_,_,_,e,_⟩=>⟨_,e⟩))<|Qf rfl Zer u_0<|Ql rfl Zdh u_0<|o_p rfl (Zl Zok (Zdv _ h8) rfl rfl (.cons u_0 .nil))<|Qa rfl u_0<|o_n) (fun a g hst hb=>?_)
     refine wp_block ?_
     refine r_s (T:=[⟨[.o 0],_,[],[],[28]⟩,⟨[.o 3],_,[],[],[29]⟩,⟨[.p 0 0,.p 1 0],_,[],[0,1],[30]⟩,⟨[.p 2 0],_,[],[0,1,2],[27]⟩]) (F:=[.o 0,.o 1,.o 2,.o 3,.p 3 0]) hst hb Za
      (Qm rfl u_0<|Qm rfl u_0<|o_p rfl (Zca rfl rfl u_0 u_1)<|Qa rfl u_0<|o_n) (fun a g hst hb=>?_)
     refine wp_cond_split (hst.bool 4 rfl) (fun hc9=>?_) (fun hc9=>?_)
     ·replace H1:=Zu hc9 H1
      refine r_g (L:=[(1,_),(5,_),(7,_)]) (T:=[⟨[.o 2],_,[],[],[31]⟩,⟨[.p 0 0],_,[],[0],[32]⟩,⟨[.p 1 0],_,[],[0,1],[33]⟩,⟨[.p 2 0],_,[],[0,1,2],[34]⟩,⟨[.p 3 0],_,[],Lr 4,[7]⟩]) (F:=[.o 0,.o 1,.p 4 0]) (hst.pick [0,1,2] rfl) hb Za
       (Qm rfl u_0<|o_p rfl (Zo rfl rfl (Opd.imp u_0 (fun _ _ h=>Zv h6 h)) (fun _ _ ⟨_,_,_,e,_⟩=>⟨_,e⟩))<|Qf rfl Zer u_0<|Ql rfl Zdh u_0<|Qa rfl u_0<|o_n) (fun a g hst hb=>?_)
      refine Zbc ?_
      refine Zbc ?_
      exact ⟨x1,n5.left,g,rfl,(hst.pick [0,1,2] rfl),hb,H1⟩
     ·replace H1:=Zt hc9 H1
      refine r_s (L:=[(1,_),(5,_),(7,_),(8,_)]) (T:=[⟨[.o 0],_,[],[],[36]⟩,⟨[.o 3],_,[],[],[37]⟩,⟨[.p 0 0,.p 1 0],_,[],[0,1],[38]⟩,⟨[.p 2 0],_,[],[0,1,2],[35]⟩]) (F:=[.o 0,.o 1,.o 2,.o 3,.p 3 0]) (hst.pick [0,1,2,3] rfl) hb Za
       (Qm rfl u_0<|Qm rfl u_0<|o_p rfl (Zcv rfl rfl u_0 u_1)<|Qa rfl u_0<|o_n) (fun a g hst hb=>?_)
      refine wp_cond_split (hst.bool 4 rfl) (fun hc10=>?_) (fun hc10=>?_)
      ·replace H1:=Zu hc10 H1
       refine r_s (L:=[(1,_),(5,_),(7,_),(8,_)]) (T:=[⟨[.o 0],_,[],[],[39]⟩,⟨[.o 3],_,[],[],[40]⟩,⟨[.p 1 0],_,[],[1],[41]⟩,⟨[.p 0 0,.p 2 0],_,[],[0,1,2],[42]⟩,⟨[.p 3 0],_,[],Lr 4,[1]⟩]) (F:=[.p 4 0,.o 1,.o 2]) (hst.pick [0,1,2,3] rfl) hb Za
        (Qm rfl u_0<|Qm rfl u_0<|o_p rfl (Zbz rfl rfl u_0 c_i rfl)<|o_p rfl (Zg7 rfl rfl u_0 u_1 rfl)<|Qa rfl u_0<|o_n) (fun a g hst hb=>?_)
       refine r_g (T:=[⟨[.o 2],_,[],[],[43]⟩,⟨[.p 0 0],_,[],[0],[44]⟩,⟨[.p 1 0],_,[],[0,1],[45]⟩,⟨[.p 2 0],_,[],[0,1,2],[46]⟩,⟨[.p 3 0],_,[],Lr 4,[7]⟩]) (F:=[.o 0,.o 1,.p 4 0]) hst hb Za
        (Qm rfl u_0<|o_p rfl (Zo rfl rfl (Opd.imp u_0 (fun _ _ h=>Zv h6 h)) (fun _ _ ⟨_,_,_,e,_⟩=>⟨_,e⟩))<|Qf rfl Zfq u_0<|Ql rfl Zdh u_0<|Qa rfl u_0<|o_n) (fun a g hst hb=>?_)
       refine Zbc ?_
       refine Zbc ?_
       exact ⟨(IntKind.i64.wrap (x1 - (IntKind.i64.wrap (r7 + (1:Int))))),n5.right,g,rfl,(hst.pick [0,1,2] rfl),hb,H1⟩
      ·replace H1:=Zt hc10 H1
       obtain ⟨r11,h12,H1⟩:=Zd H1
       refine r_s (L:=[(5,_),(7,_)]) (T:=⟨[.o 1],_,[],[],[18]⟩ :: ⟨[.p 0 0],_,[],[0],[19]⟩ :: ⟨[.p 1 0],_,[],[0,1],[20]⟩ :: ⟨[.p 2 0],_,[],[0,1,2],[21]⟩ :: ⟨[.o 1],_,[],[],[22]⟩ :: ⟨[.p 4 0],_,[],[4],[23]⟩ :: ⟨[.p 5 0],_,[],[4,5],[24]⟩ :: ⟨[.p 6 0],_,[],[4,5,6],[25]⟩ :: ⟨[.p 7 0],_,[],List.range' 4 4,[26]⟩ :: ⟨[.p 3 0],_,[],Lr 9,[4]⟩ :: ⟨[.p 8 0,.o 0],_,[6],Lr 10,[5]⟩ :: ⟨[],_,[],Lr 11,[6]⟩ :: []) (F:=[.p 9 0,.p 10 0,.p 11 0]) (hst.pick [1,2] rfl) hb Za
        (Qm rfl u_0<|o_p rfl (Zo rfl rfl (Opd.imp u_0 (fun _ _ h=>Zv h6 h)) (fun _ _ ⟨_,_,_,e,_⟩=>⟨_,e⟩))<|Qf rfl Zfp u_0<|Ql rfl ty_9 u_0<|Qm rfl u_0<|o_p rfl (Zo rfl rfl (Opd.imp u_0 (fun _ _ h=>Zv h6 h)) (fun _ _ ⟨_,_,_,e,_⟩=>⟨_,e⟩))<|Qf rfl Zh9 u_0<|Ql rfl Zbb u_0<|o_p rfl (Zl Zoq (Zgv _ h12) rfl rfl (.cons u_0 .nil))<|Qa rfl u_0<|o_p rfl (Z3 Zbb rfl rfl u_1 u_0)<|Qa rfl c_b<|o_n) (fun a g hst hb=>?_)
       refine wp_ret ?_
       refine Z5 ?_
       refine Z5 ?_
       refine Zp ?_
       refine Zp ?_
       refine Z5 ?_
       refine Zp ?_
       refine Zp ?_
       obtain rfl:=Option.some.inj H1
       obtain rfl:=Option.some.inj H0
       obtain ⟨u1,hu1,hq1⟩:=Zbf (P:=Tryz.prog) Zbb (hst.at 1 rfl)
       exact Zi7 rfl hst hb (Zg (s:=4)) hu1 (Zg (s:=6)) (Zg9 (hst.at 0 rfl) hq1 (hst.at 2 rfl))
   ·replace H1:=Zt hc4 H1
    refine wp_exit ?_
    refine Zby ?_
    refine Zby ?_
    refine Zce ?_
    exact ⟨x2,g,rfl,(hst.pick [1] rfl),hb,Option.some.inj H1⟩
theorem Zr9 (a0:Zk) (a1:Zk) {r:Bool} (h:Zk6 a0 a1=some r):FnOk Tryz.prog 17 [(Zx.pd a0),(Zx.pd a1)] (Zbd r):=by
 have H0:=h
 unfold Zk6 at H0
 clear h
 refine Zbt (N:=46) Tryz.func17 rfl rfl (Qe rfl) rfl rfl (fun a g0 hst hb=>?_)
 refine r_s (T:=[⟨[.o 0],_,[],[],[2]⟩,⟨[.o 1],_,[],[],[3]⟩,⟨[],_,[],[],[4]⟩]) (F:=[.p 0 0,.p 1 0]) hst hb Za
  (Qb rfl u_0<|Qb rfl u_0<|Qa rfl c_b<|o_n) (fun a g hst hb=>?_)
 refine wp_seq ?_
 obtain ⟨r1,h2,H0⟩:=Zd H0;obtain ⟨r3,h4,H0⟩:=Zd H0
 refine r_s (T:=[⟨[.o 0],_,[],[],[12]⟩,⟨[.p 0 0],_,[],[0],[13]⟩,⟨[.o 1],_,[],[],[14]⟩,⟨[.p 2 0],_,[],[0,1,2],[15]⟩,⟨[.p 1 0,.p 3 0],_,[],Lr 4,[16]⟩]) (F:=[.o 0,.o 1,.p 4 0]) hst hb Za
  (Ql rfl Zbu u_0<|o_p rfl (Zl Zwo (Zin _ h2) rfl rfl (.cons u_0 .nil))<|Ql rfl Zbu u_0<|o_p rfl (Zl Zwo (Zin _ h4) rfl rfl (.cons u_0 .nil))<|o_p rfl (Zcz rfl rfl u_0 u_1)<|o_n) (fun a g hst hb=>?_)
 refine wp_cond_split (hst.bool 2 rfl) (fun hc5=>?_) (fun hc5=>?_)
 ·replace H0:=Zu hc5 H0
  refine r_s (L:=[]) (T:=[⟨[],_,[],[],[4]⟩]) (F:=[.p 0 0]) (hst.pick [] rfl) hb Za
   (Qa rfl c_b<|o_n) (fun a g hst hb=>?_)
  refine wp_ret ?_
  refine Zp ?_
  obtain rfl:=Option.some.inj H0
  exact Z4 rfl hst hb (Zg (s:=4)) (hst.at 0 rfl)
 ·replace H0:=Zt hc5 H0
  refine wp_skip ?_
  refine Zq ?_
  refine wp_seq ?_
  obtain ⟨r6,h7,H0⟩:=Zd H0
  refine r_s (L:=[(2,_),(3,_)]) (T:=[⟨[.o 0],_,[],[],[17]⟩,⟨[.p 0 0],_,[],[0],[18]⟩,⟨[],_,[],[],[19]⟩]) (F:=[.o 0,.o 1,.p 1 0,.p 2 0]) (hst.pick [0,1] rfl) hb Za
   (Ql rfl Zbu u_0<|o_p rfl (Zl Zwo (Zin _ h7) rfl rfl (.cons u_0 .nil))<|Qm rfl c_i<|o_n) (fun a g hst hb=>?_)
  obtain ⟨z17,hz1,H0⟩:=Zd H0
  refine Zb3 (fun a w=>∃ (g:G),w=g.w ∧ St 46 [] a g ∧ Base g0 g ∧ (.inr ())=z17) ?_ ?_
  ·rintro a w ⟨g,rfl,hst,hb,rfl⟩
   refine Zq ?_
   refine r_s (T:=[⟨[],_,[],[],[4]⟩]) (F:=[.p 0 0]) hst hb Za
    (Qa rfl c_b<|o_n) (fun a g hst hb=>?_)
   refine wp_ret ?_
   obtain rfl:=Option.some.inj H0
   exact Z4 rfl hst hb (Zg (s:=4)) (hst.at 0 rfl)
  ·refine wp_block ?_
   refine wp_loop_ghost (fun n a w=>∃ (x8:Int) (g:G),w=g.w ∧ St 46 [(2,(Zx.ptr a0)),(3,(Zx.ptr a1)),(18,(pInt .i64 r6)),(19,(pInt .i64 x8))] a g ∧ Base g0 g ∧ Zhq a0 a1 r6 n x8=some z17) (Int.toNat (r6 - (0:Int)) + 1) ⟨(0:Int),g,rfl,(hst.pick [0,1,2,3] rfl),hb,hz1⟩ (fun n a w hI=>?_)
   obtain ⟨x8,g,rfl,hst,hb,H1⟩:=hI
   cases n with
   | zero=>exact absurd H1 (by simp [Zhq])
   | succ n =>
    rw [Zhq] at H1
    refine r_s (T:=[⟨[.o 3,.o 2],_,[],[],[20]⟩]) (F:=[.o 0,.o 1,.o 2,.o 3,.p 0 0]) hst hb Za
     (o_p rfl (Zca rfl rfl u_0 u_1)<|o_n) (fun a g hst hb=>?_)
    refine wp_seq ?_
    refine wp_cond_split (hst.bool 4 rfl) (fun hc9=>?_) (fun hc9=>?_)
    ·replace H1:=Zu hc9 H1
     refine wp_skip ?_
     refine Zq ?_
     refine wp_seq ?_
     refine wp_block ?_
     refine r_s (L:=[(2,_),(3,_),(18,_),(19,_)]) (T:=[⟨[.o 3],_,[],[],[21]⟩,⟨[.p 0 0],_,[],[0],[5]⟩]) (F:=[.o 0,.o 1,.p 1 0,.o 2,.o 3]) (hst.pick [0,1,2,3] rfl) hb Za
      (Qm rfl u_0<|Qa rfl u_0<|o_n) (fun a g hst hb=>?_)
     obtain ⟨r10,h11,H1⟩:=Zd H1
     refine r_s (T:=[⟨[.o 0],_,[],[],[23]⟩,⟨[.o 2],_,[],[],[24]⟩,⟨[.p 0 0,.p 1 0],_,[],[0,1],[25]⟩,⟨[.p 2 0],_,[],[0,1,2],[22]⟩,⟨[.p 3 0],_,[],Lr 4,[26]⟩,⟨[.p 3 0],_,[],Lr 4,[27]⟩,⟨[.p 3 0],_,[],Lr 4,[28]⟩,⟨[],[(7,(pBox Ze 7 (default:Zb)))],[8],[],[7]⟩,⟨[.p 4 0],_,[],[0,1,2,3,4,7],[6]⟩,⟨[.p 5 0,.p 7 0],_,[8],[0,1,2,3,4,5,7,8],[7]⟩,⟨[.p 6 0],_,[],Lr 10,[8]⟩]) (F:=[.o 0,.o 1,.o 2,.p 8 0,.p 9 0,.o 3,.o 4]) hst hb Za
      (Ql rfl Zbu u_0<|Qm rfl u_0<|o_p rfl (Zl Z3w (Zms _ _ h11) rfl rfl (.cons u_0 (.cons u_1 .nil)))<|Qm rfl u_0<|o_p rfl (Z2 rfl rfl u_0 rfl)<|o_p rfl (Z2 rfl rfl u_0 rfl)<|o_p rfl (Z2 rfl rfl u_0 rfl)<|o_p rfl (Zbh (zs:=[.int .i64 0,.int .i64 0,.int .i64 0,.int .i64 0,.float .f64 0,.int .i64 0,.string ByteArray.empty,.slice none 0 0]) (by kernel_rfl) (fun g=>Zb0 g) rfl rfl)<|Qa rfl u_0<|o_p rfl (Zb6 Zbb rfl rfl u_1 u_0)<|Qa rfl u_0<|o_n) (fun a g hst hb=>?_)
     obtain ⟨r12,h13,H1⟩:=Zd H1
     refine r_s (T:=[⟨[.o 1],_,[],[],[30]⟩,⟨[.o 2],_,[],[],[31]⟩,⟨[.p 0 0,.p 1 0],_,[],[0,1],[32]⟩,⟨[.p 2 0],_,[],[0,1,2],[29]⟩,⟨[.p 3 0],_,[],Lr 4,[33]⟩,⟨[.p 3 0],_,[],Lr 4,[34]⟩,⟨[.p 3 0],_,[],Lr 4,[35]⟩,⟨[],[(10,(pBox Ze 10 (default:Zb)))],[11],[],[10]⟩,⟨[.p 4 0],_,[],[0,1,2,3,4,7],[9]⟩,⟨[.p 5 0,.p 7 0],_,[11],[0,1,2,3,4,5,7,8],[10]⟩,⟨[.p 6 0],_,[],Lr 10,[11]⟩]) (F:=[.o 0,.o 1,.o 3,.o 4,.p 8 0,.p 9 0,.o 5,.o 6]) hst hb Za
      (Ql rfl Zbu u_0<|Qm rfl u_0<|o_p rfl (Zl Z3w (Zms _ _ h13) rfl rfl (.cons u_0 (.cons u_1 .nil)))<|Qm rfl u_0<|o_p rfl (Z2 rfl rfl u_0 rfl)<|o_p rfl (Z2 rfl rfl u_0 rfl)<|o_p rfl (Z2 rfl rfl u_0 rfl)<|o_p rfl (Zbh (zs:=[.int .i64 0,.int .i64 0,.int .i64 0,.int .i64 0,.float .f64 0,.int .i64 0,.string ByteArray.empty,.slice none 0 0]) (by kernel_rfl) (fun g=>Zb0 g) rfl rfl)<|Qa rfl u_0<|o_p rfl (Zb6 Zbb rfl rfl u_1 u_0)<|Qa rfl u_0<|o_n) (fun a g hst hb=>?_)
     obtain ⟨r14,h15,H1⟩:=Zd H1
     refine r_s (T:=[⟨[.o 2],_,[],[],[36]⟩,⟨[.o 4],_,[],[],[37]⟩,⟨[.p 0 0,.p 1 0],_,[],[0,1],[38]⟩,⟨[.p 2 0],_,[],[0,1,2],[39]⟩,⟨[.p 3 0,.o 3],_,[],Lr 4,[40]⟩,⟨[.p 3 0,.o 5],_,[],Lr 4,[41]⟩,⟨[.p 3 0,.p 4 0,.p 5 0],_,[],Lr 6,[42]⟩,⟨[.p 3 0,.p 6 0],_,[],Lr 7,[43]⟩,⟨[.p 3 0,.p 7 0],_,[],Lr 8,[44]⟩]) (F:=[.o 0,.o 1,.o 6,.o 7,.p 8 0]) hst hb Za
      (Qm rfl u_0<|Qm rfl u_0<|o_p rfl (Zmv rfl rfl u_0 u_1)<|Qm rfl u_0<|o_g (Qg_f rfl (fun hG=>Zs Zbb rfl rfl u_0))<|o_g (Qg_f rfl (fun hG=>Zs Zbb rfl rfl u_0))<|o_g (Qg_f rfl (fun hG=>Zl Z8b (Zu1 _ _ (Zbn h15 hG)) rfl rfl (.cons (Opd.gd hG u_0) (.cons (Opd.gd hG u_1) .nil))))<|o_g (Qg_f rfl (fun hG=>Zfh rfl rfl (Opd.gd hG u_0)))<|o_p rfl (Zbm rfl rfl u_0 (fun hz=>(Opd.gd (bNF hz) u_1)))<|o_n) (fun a g hst hb=>?_)
     refine wp_cond_split (hst.bool 4 rfl) (fun hc16=>?_) (fun hc16=>?_)
     ·replace H1:=Zu hc16 H1
      refine r_s (L:=[]) (T:=[⟨[],_,[],[],[4]⟩]) (F:=[.p 0 0]) (hst.pick [] rfl) hb Za
       (Qa rfl c_b<|o_n) (fun a g hst hb=>?_)
      refine wp_ret ?_
      refine Z5 ?_
      refine Zp ?_
      refine Zp ?_
      refine Z5 ?_
      refine Zp ?_
      refine Zp ?_
      obtain rfl:=Option.some.inj H1
      obtain rfl:=Option.some.inj H0
      exact Z4 rfl hst hb (Zg (s:=4)) (hst.at 0 rfl)
     ·replace H1:=Zt hc16 H1
      refine wp_skip ?_
      refine Zbc ?_
      refine Zq ?_
      refine r_g (L:=[(2,_),(3,_),(18,_),(19,_)]) (T:=[⟨[.o 3],_,[],[],[45]⟩,⟨[.p 0 0],_,[],[0],[19]⟩]) (F:=[.o 0,.o 1,.o 2,.p 1 0]) (hst.pick [0,1,2,3] rfl) hb Za
       (o_p rfl (Zbz rfl rfl u_0 c_i rfl)<|Qm rfl u_0<|o_n) (fun a g hst hb=>?_)
      exact ⟨n,Nat.lt_succ_self _,(IntKind.i64.wrap (x8 + (1:Int))),g,rfl,(hst.pick [0,1,2,3] rfl),hb,H1⟩
    ·replace H1:=Zt hc9 H1
     refine wp_exit ?_
     refine Zby ?_
     refine Zby ?_
     refine Zce ?_
     exact ⟨g,rfl,(hst.pick [] rfl),hb,Option.some.inj H1⟩
theorem Zjz (a0:Int) (a1:Zb) (a2:Bool) {r:Zb × Bool × Zc × Zb} (h:Zhi a0 a1 a2=some r):FnB Tryz.prog 92 [.val (pInt .i64 a0),.box Ze a1 r.2.2.2,.val (Kd.bool.ptr a2)] (pTup [(Ze.pd r.1),(Zbd r.2.1),(Zj.pd r.2.2.1)]):=by
 have H0:=h
 unfold Zhi at H0
 clear h
 refine Zkt (N:=11) Tryz.func92 rfl rfl (Qe rfl) rfl rfl (fun a g0 bs hbs hst hb=>?_)
 obtain ⟨b1,rfl⟩:=Z8v hbs
 replace hst:St 11 [(0,(pInt .i64 a0)),(1,(Zcb (some b1) Ze 1 a1)),(2,(Kd.bool.ptr a2))] _ _:=hst
 refine r_s (T:=[⟨[],[(4,(pBox Ze 4 (default:Zb)))],[5],[],[4]⟩,⟨[],_,[],[],[5]⟩,⟨[],[(6,(pBox Zj 6 (default:Zc)))],[7],[],[6]⟩]) (F:=[.o 0,.o 1,.o 2,.p 0 0,.p 2 0]) hst hb Za
  (o_p rfl (Zbh (zs:=[.int .i64 0,.int .i64 0,.int .i64 0,.int .i64 0,.float .f64 0,.int .i64 0,.string ByteArray.empty,.slice none 0 0]) (by kernel_rfl) (fun g=>Zb0 g) rfl rfl)<|Qa rfl c_b<|o_p rfl (Zbh (zs:=[.int .i64 0,.int .i64 0,.int .i64 0,.int .i64 0,.int .i64 0,.int .i64 0,.float .f64 0,.int .i64 0,.string ByteArray.empty,.slice none 0 0]) (by kernel_rfl) (fun g=>Zd6 g) rfl rfl)<|o_n) (fun a g hst hb=>?_)
 refine r_s (T:=[⟨[.o 1],_,[],[],[7]⟩,⟨[.o 2],_,[],[],[8]⟩,⟨[.o 0],_,[],[],[9]⟩,⟨[.p 2 0],_,[],[2],[10]⟩,⟨[.p 0 0,.o 3],_,[5],[0],[4]⟩,⟨[.p 1 0],_,[],[0,1,4],[5]⟩,⟨[.p 3 0,.o 4],_,[7],Lr 6,[6]⟩]) (F:=[.o 1,.p 4 0,.p 5 0,.p 6 0]) hst hb Za
  (QM rfl Zbb u_0<|Ql rfl ty_4 u_0<|Qm rfl u_0<|o_p rfl (Zrf rfl rfl u_0)<|o_p rfl (Z3 Zbb rfl rfl u_1 u_0)<|Qa rfl u_0<|o_p rfl (Z3 Zb2 rfl rfl u_1 u_0)<|o_n) (fun a g hst hb=>?_)
 refine wp_ret ?_
 obtain rfl:=Option.some.inj H0
 obtain ⟨u0,hu0,hq0⟩:=Zbf (P:=Tryz.prog) Zbb (hst.at 1 rfl)
 obtain ⟨u2,hu2,hq2⟩:=Zbf (P:=Tryz.prog) Zb2 (hst.at 3 rfl)
 exact Zbdh rfl hst hb hu0 (Zg (s:=5)) hu2 (Zg9 hq0 (hst.at 2 rfl) hq2) ⟨Zc5 (hst.at 0 rfl),trivial⟩
theorem Z47 (a0:Int) {r:Int} (h:Zmw a0=some r):FnOk Tryz.prog 93 [(pInt .i64 a0)] (pInt .i64 r):=by
 have H0:=h
 unfold Zmw at H0
 clear h
 refine Zbt (N:=6) Tryz.func93 rfl rfl (Qe rfl) rfl rfl (fun a g0 hst hb=>?_)
 refine r_s (T:=[⟨[],_,[],[],[2]⟩]) (F:=[.o 0]) hst hb Za
  (Qa rfl c_i<|o_n) (fun a g hst hb=>?_)
 obtain ⟨r1,h2,H0⟩:=Zd H0
 refine r_s (T:=[⟨[.o 0],_,[],[],[3]⟩,⟨[.p 0 0],_,[],[0],[4]⟩,⟨[.p 1 0],_,[],[0,1],[5]⟩,⟨[.p 2 0],_,[],[0,1,2],[2]⟩]) (F:=[.p 3 0]) hst hb Za
  (Qm rfl u_0<|o_p rfl (Zl Z8y (Zx3 _ h2) rfl rfl (.cons u_0 .nil))<|o_p rfl (Z01 Z1o rfl rfl u_0)<|Qa rfl u_0<|o_n) (fun a g hst hb=>?_)
 refine wp_ret ?_
 obtain rfl:=Option.some.inj H0
 exact Z4 rfl hst hb (Zg (s:=2)) (hst.at 0 rfl)
theorem Zui (a0:Zb) (a1:Zm) (a2:Zc) {r:Int × Zb × Zc} (h:Zks a0 a1 a2=some r):FnB Tryz.prog 113 [.box Ze a0 r.2.1,.val (Zy.pd a1),.box Zj a2 r.2.2] (pInt .i64 r.1):=by
 have H0:=h
 unfold Zks at H0
 clear h
 refine Zkt (N:=12) Tryz.func113 rfl rfl (Qe rfl) rfl rfl (fun a g0 bs hbs hst hb=>?_)
 obtain ⟨b0,b2,rfl⟩:=Zmn hbs
 replace hst:St 12 [(0,(Zcb (some b0) Ze 0 a0)),(1,(Zy.pd a1)),(2,(Zcb (some b2) Zj 2 a2))] _ _:=hst
 refine r_s (T:=[⟨[.o 1],_,[],[],[4]⟩,⟨[],_,[],[],[6]⟩]) (F:=[.o 0,.o 2,.p 0 0]) hst hb Za
  (Qb rfl u_0<|Qa rfl c_i<|o_n) (fun a g hst hb=>?_)
 refine r_s (T:=[⟨[.o 0],_,[],[],[7]⟩,⟨[.o 2],_,[],[],[8]⟩,⟨[.p 1 0],_,[],[1],[9]⟩,⟨[.p 0 0],_,[],[0,1,2],[10]⟩,⟨[.p 3 0],_,[],Lr 4,[11]⟩,⟨[.p 2 0,.p 4 0,.o 0],_,[1],Lr 5,[0,7,10,11]⟩]) (F:=[.p 5 0,.o 1]) hst hb Za
  (Qm rfl u_0<|Qf rfl Zfs u_0<|Ql rfl ty_9 u_0<|o_p rfl (Zo rfl rfl u_0 (fun _ _ ⟨_,_,_,e,_⟩=>⟨_,e⟩))<|o_p rfl (Zr Zjh (off:=6) (by kernel_rfl) rfl rfl u_0)<|o_p rfl (Ztt ty_9 rfl rfl u_2 u_1 u_0)<|o_n) (fun a g hst hb=>?_)
 refine r_s (T:=[⟨[],_,[],[],[6]⟩]) (F:=[.o 0,.o 1,.p 0 0]) hst hb Za
  (Qa rfl c_i<|o_n) (fun a g hst hb=>?_)
 refine wp_ret ?_
 obtain rfl:=Option.some.inj H0
 exact Zit rfl hst hb (Zg (s:=6)) (hst.at 2 rfl) ⟨Zc5 (hst.at 0 rfl),Zc5 (hst.at 1 rfl),trivial⟩
theorem Zup (a0:Zb) (a1:Zm) (a2:Zc) {r:Int × Zb × Zc} (h:Zh0 a0 a1 a2=some r):FnB Tryz.prog 114 [.box Ze a0 r.2.1,.val (Zy.pd a1),.box Zj a2 r.2.2] (pInt .i64 r.1):=by
 have H0:=h
 unfold Zh0 at H0
 clear h
 refine Zkt (N:=19) Tryz.func114 rfl rfl (Qe rfl) rfl rfl (fun a g0 bs hbs hst hb=>?_)
 obtain ⟨b0,b2,rfl⟩:=Zmn hbs
 replace hst:St 19 [(0,(Zcb (some b0) Ze 0 a0)),(1,(Zy.pd a1)),(2,(Zcb (some b2) Zj 2 a2))] _ _:=hst
 refine r_s (T:=[⟨[.o 1],_,[],[],[4]⟩,⟨[],_,[],[],[6]⟩]) (F:=[.o 0,.o 2,.p 0 0]) hst hb Za
  (Qb rfl u_0<|Qa rfl c_i<|o_n) (fun a g hst hb=>?_)
 obtain ⟨r1,h2,H0⟩:=Zd H0
 refine r_s (T:=[⟨[.o 1],_,[],[],[7]⟩,⟨[.o 0],_,[],[],[8]⟩,⟨[.p 1 0],_,[],[1],[9]⟩,⟨[.p 2 0],_,[],[1,2],[10]⟩,⟨[.p 3 0],_,[],[1,2,3],[11]⟩,⟨[.p 0 0],_,[],Lr 5,[12]⟩,⟨[.p 5 0],_,[],Lr 6,[13]⟩,⟨[.p 4 0,.p 6 0,.o 1],_,[3],Lr 7,[2,7,12,13]⟩]) (F:=[.o 0,.p 7 0,.o 2]) hst hb Za
  (Qm rfl u_0<|Qm rfl u_0<|o_p rfl (Zo rfl rfl u_0 (fun _ _ ⟨_,_,_,e,_⟩=>⟨_,e⟩))<|QM rfl Zbb u_0<|o_p rfl (Zl Zoq (Zgv _ h2) rfl rfl (.cons u_0 .nil))<|o_p rfl (Zo rfl rfl u_0 (fun _ _ ⟨_,_,_,e,_⟩=>⟨_,e⟩))<|o_p rfl (Zr Zpl (off:=2) (by kernel_rfl) rfl rfl u_0)<|o_p rfl (Z26 Zbb rfl rfl u_2 u_1 u_0)<|o_n) (fun a g hst hb=>?_)
 refine r_s (T:=[⟨[.o 0],_,[],[],[14]⟩,⟨[.o 2],_,[],[],[15]⟩,⟨[.p 1 0],_,[],[1],[16]⟩,⟨[.p 0 0],_,[],[0,1,2],[17]⟩,⟨[.p 3 0],_,[],Lr 4,[18]⟩,⟨[.p 2 0,.p 4 0,.o 0],_,[1],Lr 5,[0,14,17,18]⟩]) (F:=[.p 5 0,.o 1]) hst hb Za
  (Qm rfl u_0<|Qf rfl Zfs u_0<|Ql rfl ty_9 u_0<|o_p rfl (Zo rfl rfl u_0 (fun _ _ ⟨_,_,_,e,_⟩=>⟨_,e⟩))<|o_p rfl (Zr Zjh (off:=6) (by kernel_rfl) rfl rfl u_0)<|o_p rfl (Ztt ty_9 rfl rfl u_2 u_1 u_0)<|o_n) (fun a g hst hb=>?_)
 refine r_s (T:=[⟨[],_,[],[],[6]⟩]) (F:=[.o 0,.o 1,.p 0 0]) hst hb Za
  (Qa rfl c_i<|o_n) (fun a g hst hb=>?_)
 refine wp_ret ?_
 obtain rfl:=Option.some.inj H0
 exact Zit rfl hst hb (Zg (s:=6)) (hst.at 2 rfl) ⟨Zc5 (hst.at 0 rfl),Zc5 (hst.at 1 rfl),trivial⟩
theorem Zum (a0:Zb) (a1:Zm) (a2:Zc) {r:Int × Zb × Zc} (h:Zkv a0 a1 a2=some r):FnB Tryz.prog 115 [.box Ze a0 r.2.1,.val (Zy.pd a1),.box Zj a2 r.2.2] (pInt .i64 r.1):=by
 have H0:=h
 unfold Zkv at H0
 clear h
 refine Zkt (N:=16) Tryz.func115 rfl rfl (Qe rfl) rfl rfl (fun a g0 bs hbs hst hb=>?_)
 obtain ⟨b0,b2,rfl⟩:=Zmn hbs
 replace hst:St 16 [(0,(Zcb (some b0) Ze 0 a0)),(1,(Zy.pd a1)),(2,(Zcb (some b2) Zj 2 a2))] _ _:=hst
 refine r_s (T:=[⟨[.o 1],_,[],[],[4]⟩,⟨[],_,[],[],[6]⟩]) (F:=[.o 0,.o 2,.p 0 0]) hst hb Za
  (Qb rfl u_0<|Qa rfl c_i<|o_n) (fun a g hst hb=>?_)
 refine r_s (T:=[⟨[.o 0],_,[],[],[7]⟩,⟨[.p 0 0],_,[],[0],[8]⟩,⟨[.p 1 0],_,[],[0,1],[9]⟩,⟨[.p 2 0],_,[],[0,1,2],[10]⟩,⟨[.o 2],_,[],[],[11]⟩,⟨[.p 4 0],_,[],[4],[12]⟩,⟨[.p 3 0,.p 5 0],_,[],Lr 6,[13]⟩,⟨[.p 0 0],_,[],Lr 7,[14]⟩,⟨[.p 7 0],_,[],Lr 8,[15]⟩,⟨[.p 6 0,.p 8 0,.o 0],_,[1],Lr 9,[0,7,8,9,14,15]⟩]) (F:=[.p 9 0,.o 1]) hst hb Za
  (Qm rfl u_0<|o_p rfl (Zo rfl rfl u_0 (fun _ _ ⟨_,_,_,e,_⟩=>⟨_,e⟩))<|o_p rfl (Zr Zc2 (off:=1) (by kernel_rfl) rfl rfl u_0)<|QP rfl ty_2 u_0<|Qf rfl Zd4 u_0<|Ql rfl ty_2 u_0<|o_p rfl (Zbz rfl rfl u_0 u_1 rfl)<|o_p rfl (Zo rfl rfl u_0 (fun _ _ ⟨_,_,_,e,_⟩=>⟨_,e⟩))<|o_p rfl (Zr Zc2 (off:=1) (by kernel_rfl) rfl rfl u_0)<|o_p rfl (Zm6 ty_2 rfl rfl u_2 u_1 u_0)<|o_n) (fun a g hst hb=>?_)
 refine r_s (T:=[⟨[],_,[],[],[6]⟩]) (F:=[.o 0,.o 1,.p 0 0]) hst hb Za
  (Qa rfl c_i<|o_n) (fun a g hst hb=>?_)
 refine wp_ret ?_
 obtain rfl:=Option.some.inj H0
 exact Zit rfl hst hb (Zg (s:=6)) (hst.at 2 rfl) ⟨Zc5 (hst.at 0 rfl),Zc5 (hst.at 1 rfl),trivial⟩
theorem Z0q (a0:Zb) (a1:Zm) (a2:Zc) {r:Int × Zb × Zc} (h:Zly a0 a1 a2=some r):FnB Tryz.prog 116 [.box Ze a0 r.2.1,.val (Zy.pd a1),.box Zj a2 r.2.2] (pInt .i64 r.1):=by
 have H0:=h
 unfold Zly at H0
 clear h
 refine Zkt (N:=44) Tryz.func116 rfl rfl (Qe rfl) rfl rfl (fun a g0 bs hbs hst hb=>?_)
 obtain ⟨b0,b2,rfl⟩:=Zmn hbs
 replace hst:St 44 [(0,(Zcb (some b0) Ze 0 a0)),(1,(Zy.pd a1)),(2,(Zcb (some b2) Zj 2 a2))] _ _:=hst
 refine r_s (T:=[⟨[.o 1],_,[],[],[4]⟩,⟨[],_,[],[],[6]⟩]) (F:=[.o 0,.o 2,.p 0 0]) hst hb Za
  (Qb rfl u_0<|Qa rfl c_i<|o_n) (fun a g hst hb=>?_)
 refine wp_seq ?_
 refine r_s (T:=⟨[.o 2],_,[],[],[7]⟩ :: ⟨[.p 0 0],_,[],[0],[8]⟩ :: ⟨[.p 1 0],_,[],[0,1],[9]⟩ :: ⟨[.p 2 0],_,[],[0,1,2],[10]⟩ :: ⟨[.p 3 0,.o 0],_,[],Lr 4,[11]⟩ :: ⟨[.p 3 0,.p 4 0],_,[],Lr 5,[12]⟩ :: ⟨[.p 3 0,.p 5 0],_,[],Lr 6,[13]⟩ :: ⟨[.p 3 0,.p 6 0],_,[],Lr 7,[14]⟩ :: ⟨[.p 3 0,.o 2],_,[],Lr 4,[15]⟩ :: ⟨[.p 3 0,.p 8 0],_,[],[0,1,2,3,8],[16]⟩ :: ⟨[.p 3 0,.p 9 0],_,[],[0,1,2,3,8,9],[17]⟩ :: ⟨[.p 3 0,.p 7 0,.p 10 0],_,[],Lr 11,[18]⟩ :: ⟨[.p 3 0,.p 11 0],_,[],Lr 12,[19]⟩ :: ⟨[.p 12 0],_,[],Lr 13,[20]⟩ :: ⟨[.p 13 0,.o 2],_,[],Lr 14,[21]⟩ :: ⟨[.p 13 0,.p 14 0],_,[],Lr 15,[22]⟩ :: ⟨[.p 13 0,.p 15 0],_,[],Lr 16,[23]⟩ :: ⟨[.p 13 0,.p 16 0],_,[],Lr 17,[24]⟩ :: ⟨[.p 17 0,.o 0],_,[],Lr 18,[25]⟩ :: ⟨[.p 17 0,.p 18 0],_,[],Lr 19,[26]⟩ :: ⟨[.p 17 0,.p 19 0],_,[],Lr 20,[27]⟩ :: ⟨[.p 17 0,.p 20 0],_,[],Lr 21,[28]⟩ :: ⟨[.p 17 0,.o 2],_,[],Lr 18,[29]⟩ :: ⟨[.p 17 0,.p 22 0],_,[],0 :: 1 :: 2 :: 3 :: 4 :: 5 :: 6 :: 7 :: 8 :: 9 :: 10 :: 11 :: 12 :: 13 :: 14 :: 15 :: 16 :: 17 :: 22 :: [],[30]⟩ :: ⟨[.p 17 0,.p 23 0],_,[],0 :: 1 :: 2 :: 3 :: 4 :: 5 :: 6 :: 7 :: 8 :: 9 :: 10 :: 11 :: 12 :: 13 :: 14 :: 15 :: 16 :: 17 :: 22 :: 23 :: [],[31]⟩ :: ⟨[.p 17 0,.p 21 0,.p 24 0],_,[],Lr 25,[32]⟩ :: ⟨[.p 13 0,.p 17 0,.p 25 0],_,[],Lr 26,[33]⟩ :: ⟨[.p 13 0,.p 26 0],_,[],Lr 27,[34]⟩ :: []) (F:=[.o 0,.o 1,.o 2,.p 27 0]) hst hb Za
  (Qf rfl Zd4 u_0<|Ql rfl ty_2 u_0<|o_p rfl (Zcv rfl rfl u_0 c_i)<|Qm rfl u_0<|o_g (Qg_t rfl (fun hG=>Z1 rfl rfl u_0))<|o_g (Qg_t rfl (fun hG=>Zo rfl rfl (Opd.gd hG u_0) (fun _ _ ⟨_,_,_,e,_⟩=>⟨_,e⟩)))<|o_g (Qg_t rfl (fun hG=>Zr Zc2 (off:=1) (by kernel_rfl) rfl rfl (Opd.gd hG u_0)))<|o_g (Qg_t rfl (fun hG=>Zh3 ty_2 rfl rfl (Opd.gd hG u_0)))<|o_g (Qg_t rfl (fun hG=>Zh Zd4 rfl rfl u_0))<|o_g (Qg_t rfl (fun hG=>Zs ty_2 rfl rfl (Opd.gd hG u_0)))<|o_g (Qg_t rfl (fun hG=>Zg7 rfl rfl c_i (Opd.gd hG u_0) rfl))<|o_g (Qg_t rfl (fun hG=>Zcv rfl rfl (Opd.gd hG u_0) (Opd.gd hG u_1)))<|o_p rfl (Zbg rfl rfl u_0 (fun hz=>(Opd.gd hz u_1)))<|Qm rfl u_0<|o_g (Qg_f rfl (fun hG=>Zh Zd4 rfl rfl u_0))<|o_g (Qg_f rfl (fun hG=>Zs ty_2 rfl rfl (Opd.gd hG u_0)))<|o_g (Qg_f rfl (fun hG=>Zca rfl rfl (Opd.gd hG u_0) c_i))<|o_g (Qg_f rfl (fun hG=>Z1 rfl rfl (Opd.gd hG u_0)))<|o_g (Qg_ti rfl (fun hG=>Z1 rfl rfl u_0))<|o_g (Qg_ti rfl (fun hG=>Zo rfl rfl (Opd.gd hG u_0) (fun _ _ ⟨_,_,_,e,_⟩=>⟨_,e⟩)))<|o_g (Qg_ti rfl (fun hG=>Zr Zc2 (off:=1) (by kernel_rfl) rfl rfl (Opd.gd hG u_0)))<|o_g (Qg_ti rfl (fun hG=>Zh3 ty_2 rfl rfl (Opd.gd hG u_0)))<|o_g (Qg_ti rfl (fun hG=>Zh Zd4 rfl rfl u_0))<|o_g (Qg_ti rfl (fun hG=>Zs ty_2 rfl rfl (Opd.gd hG u_0)))<|o_g (Qg_ti rfl (fun hG=>Zg7 rfl rfl c_i (Opd.gd hG u_0) rfl))<|o_g (Qg_ti rfl (fun hG=>Zca rfl rfl (Opd.gd hG u_0) (Opd.gd hG u_1)))<|o_g (Qg_f rfl (fun hG=>Zbg rfl rfl (Opd.gd hG u_0) (fun hz=>(Opd.gd (bA hG hz) u_1))))<|o_p rfl (Zbm rfl rfl u_0 (fun hz=>(Opd.gd (bNF hz) u_1)))<|o_n) (fun a g hst hb=>?_)
 refine wp_cond_split (hst.bool 3 rfl) (fun hc1=>?_) (fun hc1=>?_)
 ·replace H0:=Zu hc1 H0
  refine r_s (L:=[(0,_),(2,_)]) (T:=[⟨[],_,[],[],[6]⟩]) (F:=[.o 0,.o 1,.p 0 0]) (hst.pick [0,1] rfl) hb Za
   (Qa rfl c_i<|o_n) (fun a g hst hb=>?_)
  refine wp_ret ?_
  refine Zp ?_
  obtain rfl:=Option.some.inj H0
  exact Zit rfl hst hb (Zg (s:=6)) (hst.at 2 rfl) ⟨Zc5 (hst.at 0 rfl),Zc5 (hst.at 1 rfl),trivial⟩
 ·replace H0:=Zt hc1 H0
  refine wp_skip ?_
  refine Zq ?_
  refine r_s (L:=[(0,_),(2,_),(4,_)]) (T:=[⟨[.o 0],_,[],[],[35]⟩,⟨[.p 0 0],_,[],[0],[36]⟩,⟨[.p 1 0],_,[],[0,1],[37]⟩,⟨[.p 2 0],_,[],[0,1,2],[38]⟩,⟨[.o 2],_,[],[],[39]⟩,⟨[.p 4 0],_,[],[4],[40]⟩,⟨[.p 3 0,.p 5 0],_,[],Lr 6,[41]⟩,⟨[.p 0 0],_,[],Lr 7,[42]⟩,⟨[.p 7 0],_,[],Lr 8,[43]⟩,⟨[.p 6 0,.p 8 0,.o 0],_,[1],Lr 9,[0,35,36,37,42,43]⟩]) (F:=[.p 9 0,.o 1]) (hst.pick [0,1,2] rfl) hb Za
   (Qm rfl u_0<|o_p rfl (Zo rfl rfl u_0 (fun _ _ ⟨_,_,_,e,_⟩=>⟨_,e⟩))<|o_p rfl (Zr Zc2 (off:=1) (by kernel_rfl) rfl rfl u_0)<|QP rfl ty_2 u_0<|Qf rfl Zd4 u_0<|Ql rfl ty_2 u_0<|o_p rfl (Zbz rfl rfl u_0 u_1 rfl)<|o_p rfl (Zo rfl rfl u_0 (fun _ _ ⟨_,_,_,e,_⟩=>⟨_,e⟩))<|o_p rfl (Zr Zc2 (off:=1) (by kernel_rfl) rfl rfl u_0)<|o_p rfl (Zm6 ty_2 rfl rfl u_2 u_1 u_0)<|o_n) (fun a g hst hb=>?_)
  refine r_s (T:=[⟨[],_,[],[],[6]⟩]) (F:=[.o 0,.o 1,.p 0 0]) hst hb Za
   (Qa rfl c_i<|o_n) (fun a g hst hb=>?_)
  refine wp_ret ?_
  obtain rfl:=Option.some.inj H0
  exact Zit rfl hst hb (Zg (s:=6)) (hst.at 2 rfl) ⟨Zc5 (hst.at 0 rfl),Zc5 (hst.at 1 rfl),trivial⟩
theorem Zqn (a0:Zb) (a1:Zm) (a2:Zc) {r:Int × Zb × Zc} (h:Zem a0 a1 a2=some r):FnB Tryz.prog 117 [.box Ze a0 r.2.1,.val (Zy.pd a1),.box Zj a2 r.2.2] (pInt .i64 r.1):=by
 have H0:=h
 unfold Zem at H0
 clear h
 refine Zkt (N:=14) Tryz.func117 rfl rfl (Qe rfl) rfl rfl (fun a g0 bs hbs hst hb=>?_)
 obtain ⟨b0,b2,rfl⟩:=Zmn hbs
 replace hst:St 14 [(0,(Zcb (some b0) Ze 0 a0)),(1,(Zy.pd a1)),(2,(Zcb (some b2) Zj 2 a2))] _ _:=hst
 refine r_s (T:=[⟨[.o 1],_,[],[],[4]⟩,⟨[],_,[],[],[6]⟩]) (F:=[.o 0,.o 2,.p 0 0]) hst hb Za
  (Qb rfl u_0<|Qa rfl c_i<|o_n) (fun a g hst hb=>?_)
 refine wp_seq ?_
 refine r_s (T:=[⟨[.o 0],_,[],[],[7]⟩,⟨[.p 0 0],_,[],[0],[8]⟩,⟨[.p 1 0],_,[],[0,1],[9]⟩,⟨[.p 2 0],_,[],[0,1,2],[10]⟩,⟨[.o 2],_,[],[],[11]⟩,⟨[.p 4 0],_,[],[4],[12]⟩,⟨[.p 3 0,.p 5 0],_,[],Lr 6,[13]⟩]) (F:=[.o 0,.o 1,.p 6 0]) hst hb Za
  (Qm rfl u_0<|o_p rfl (Zo rfl rfl u_0 (fun _ _ ⟨_,_,_,e,_⟩=>⟨_,e⟩))<|o_p rfl (Zr Zc2 (off:=1) (by kernel_rfl) rfl rfl u_0)<|QP rfl ty_2 u_0<|Qf rfl Zd4 u_0<|Ql rfl ty_2 u_0<|o_p rfl (Zca rfl rfl u_0 u_1)<|o_n) (fun a g hst hb=>?_)
 refine wp_cond_split (hst.bool 2 rfl) (fun hc1=>?_) (fun hc1=>?_)
 ·replace H0:=Zu hc1 H0
  refine r_s (L:=[(0,_),(2,_)]) (T:=[⟨[],_,[],[],[6]⟩]) (F:=[.o 0,.o 1,.p 0 0]) (hst.pick [0,1] rfl) hb Za
   (Qa rfl c_i<|o_n) (fun a g hst hb=>?_)
  refine wp_ret ?_
  refine Zp ?_
  obtain rfl:=Option.some.inj H0
  exact Zit rfl hst hb (Zg (s:=6)) (hst.at 2 rfl) ⟨Zc5 (hst.at 0 rfl),Zc5 (hst.at 1 rfl),trivial⟩
 ·replace H0:=Zt hc1 H0
  refine wp_skip ?_
  refine Zq ?_
  refine r_s (L:=[(0,_),(2,_)]) (T:=[⟨[],_,[],[],[6]⟩]) (F:=[.o 0,.o 1,.p 0 0]) (hst.pick [0,1] rfl) hb Za
   (Qa rfl c_i<|o_n) (fun a g hst hb=>?_)
  refine wp_ret ?_
  obtain rfl:=Option.some.inj H0
  exact Zit rfl hst hb (Zg (s:=6)) (hst.at 2 rfl) ⟨Zc5 (hst.at 0 rfl),Zc5 (hst.at 1 rfl),trivial⟩
theorem Zul (a0:Zb) (a1:Zm) (a2:Zc) {r:Int × Zb × Zc} (h:Zh1 a0 a1 a2=some r):FnB Tryz.prog 118 [.box Ze a0 r.2.1,.val (Zy.pd a1),.box Zj a2 r.2.2] (pInt .i64 r.1):=by
 have H0:=h
 unfold Zh1 at H0
 clear h
 refine Zkt (N:=28) Tryz.func118 rfl rfl (Qe rfl) rfl rfl (fun a g0 bs hbs hst hb=>?_)
 obtain ⟨b0,b2,rfl⟩:=Zmn hbs
 replace hst:St 28 [(0,(Zcb (some b0) Ze 0 a0)),(1,(Zy.pd a1)),(2,(Zcb (some b2) Zj 2 a2))] _ _:=hst
 refine r_s (T:=[⟨[.o 1],_,[],[],[4]⟩,⟨[],_,[],[],[6]⟩]) (F:=[.o 0,.o 2,.p 0 0]) hst hb Za
  (Qb rfl u_0<|Qa rfl c_i<|o_n) (fun a g hst hb=>?_)
 refine wp_seq ?_
 refine r_s (T:=⟨[.o 2],_,[],[],[7]⟩ :: ⟨[.p 0 0],_,[],[0],[8]⟩ :: ⟨[.o 0],_,[],[],[9]⟩ :: ⟨[.p 2 0],_,[],[2],[10]⟩ :: ⟨[.p 3 0],_,[],[2,3],[11]⟩ :: ⟨[.p 4 0],_,[],[2,3,4],[12]⟩ :: ⟨[.o 0],_,[],[],[13]⟩ :: ⟨[.p 6 0],_,[],[6],[14]⟩ :: ⟨[.p 7 0],_,[],[6,7],[15]⟩ :: ⟨[.p 8 0],_,[],[6,7,8],[16]⟩ :: ⟨[.p 5 0,.p 9 0],_,[],List.range' 2 8,[17]⟩ :: ⟨[.p 1 0,.p 10 0],_,[],Lr 11,[18]⟩ :: []) (F:=[.o 0,.o 1,.o 2,.p 11 0]) hst hb Za
  (Qf rfl Zd4 u_0<|Ql rfl ty_2 u_0<|Qm rfl u_0<|o_p rfl (Zo rfl rfl u_0 (fun _ _ ⟨_,_,_,e,_⟩=>⟨_,e⟩))<|o_p rfl (Zr Zjw (off:=3) (by kernel_rfl) rfl rfl u_0)<|QP rfl ty_2 u_0<|Qm rfl u_0<|o_p rfl (Zo rfl rfl u_0 (fun _ _ ⟨_,_,_,e,_⟩=>⟨_,e⟩))<|o_p rfl (Zr Zc2 (off:=1) (by kernel_rfl) rfl rfl u_0)<|QP rfl ty_2 u_0<|o_p rfl (Zg7 rfl rfl u_0 u_1 rfl)<|o_p rfl (Zcv rfl rfl u_0 u_1)<|o_n) (fun a g hst hb=>?_)
 refine wp_cond_split (hst.bool 3 rfl) (fun hc1=>?_) (fun hc1=>?_)
 ·replace H0:=Zu hc1 H0
  refine r_s (L:=[(0,_),(2,_)]) (T:=[⟨[],_,[],[],[6]⟩]) (F:=[.o 0,.o 1,.p 0 0]) (hst.pick [0,1] rfl) hb Za
   (Qa rfl c_i<|o_n) (fun a g hst hb=>?_)
  refine wp_ret ?_
  refine Zp ?_
  obtain rfl:=Option.some.inj H0
  exact Zit rfl hst hb (Zg (s:=6)) (hst.at 2 rfl) ⟨Zc5 (hst.at 0 rfl),Zc5 (hst.at 1 rfl),trivial⟩
 ·replace H0:=Zt hc1 H0
  refine wp_skip ?_
  refine Zq ?_
  refine r_s (L:=[(0,_),(2,_),(4,_)]) (T:=[⟨[.o 0],_,[],[],[19]⟩,⟨[.p 0 0],_,[],[0],[20]⟩,⟨[.p 1 0],_,[],[0,1],[21]⟩,⟨[.p 2 0],_,[],[0,1,2],[22]⟩,⟨[.o 2],_,[],[],[23]⟩,⟨[.p 4 0],_,[],[4],[24]⟩,⟨[.p 3 0,.p 5 0],_,[],Lr 6,[25]⟩,⟨[.p 0 0],_,[],Lr 7,[26]⟩,⟨[.p 7 0],_,[],Lr 8,[27]⟩,⟨[.p 6 0,.p 8 0,.o 0],_,[1],Lr 9,[0,19,20,21,26,27]⟩]) (F:=[.p 9 0,.o 1]) (hst.pick [0,1,2] rfl) hb Za
   (Qm rfl u_0<|o_p rfl (Zo rfl rfl u_0 (fun _ _ ⟨_,_,_,e,_⟩=>⟨_,e⟩))<|o_p rfl (Zr Zc2 (off:=1) (by kernel_rfl) rfl rfl u_0)<|QP rfl ty_2 u_0<|Qf rfl Zd4 u_0<|Ql rfl ty_2 u_0<|o_p rfl (Zbz rfl rfl u_0 u_1 rfl)<|o_p rfl (Zo rfl rfl u_0 (fun _ _ ⟨_,_,_,e,_⟩=>⟨_,e⟩))<|o_p rfl (Zr Zc2 (off:=1) (by kernel_rfl) rfl rfl u_0)<|o_p rfl (Zm6 ty_2 rfl rfl u_2 u_1 u_0)<|o_n) (fun a g hst hb=>?_)
  refine r_s (T:=[⟨[],_,[],[],[6]⟩]) (F:=[.o 0,.o 1,.p 0 0]) hst hb Za
   (Qa rfl c_i<|o_n) (fun a g hst hb=>?_)
  refine wp_ret ?_
  obtain rfl:=Option.some.inj H0
  exact Zit rfl hst hb (Zg (s:=6)) (hst.at 2 rfl) ⟨Zc5 (hst.at 0 rfl),Zc5 (hst.at 1 rfl),trivial⟩
theorem Zug (a0:Zb) (a1:Zm) (a2:Zc) {r:Int × Zb × Zc} (h:Zh7 a0 a1 a2=some r):FnB Tryz.prog 119 [.box Ze a0 r.2.1,.val (Zy.pd a1),.box Zj a2 r.2.2] (pInt .i64 r.1):=by
 have H0:=h
 unfold Zh7 at H0
 clear h
 refine Zkt (N:=28) Tryz.func119 rfl rfl (Qe rfl) rfl rfl (fun a g0 bs hbs hst hb=>?_)
 obtain ⟨b0,b2,rfl⟩:=Zmn hbs
 replace hst:St 28 [(0,(Zcb (some b0) Ze 0 a0)),(1,(Zy.pd a1)),(2,(Zcb (some b2) Zj 2 a2))] _ _:=hst
 refine r_s (T:=[⟨[.o 1],_,[],[],[4]⟩,⟨[],_,[],[],[6]⟩]) (F:=[.o 0,.o 2,.p 0 0]) hst hb Za
  (Qb rfl u_0<|Qa rfl c_i<|o_n) (fun a g hst hb=>?_)
 refine wp_seq ?_
 refine r_s (T:=⟨[.o 2],_,[],[],[7]⟩ :: ⟨[.p 0 0],_,[],[0],[8]⟩ :: ⟨[.o 0],_,[],[],[9]⟩ :: ⟨[.p 2 0],_,[],[2],[10]⟩ :: ⟨[.p 3 0],_,[],[2,3],[11]⟩ :: ⟨[.p 4 0],_,[],[2,3,4],[12]⟩ :: ⟨[.o 0],_,[],[],[13]⟩ :: ⟨[.p 6 0],_,[],[6],[14]⟩ :: ⟨[.p 7 0],_,[],[6,7],[15]⟩ :: ⟨[.p 8 0],_,[],[6,7,8],[16]⟩ :: ⟨[.p 5 0,.p 9 0],_,[],List.range' 2 8,[17]⟩ :: ⟨[.p 1 0,.p 10 0],_,[],Lr 11,[18]⟩ :: []) (F:=[.o 0,.o 1,.o 2,.p 11 0]) hst hb Za
  (Qf rfl Zd4 u_0<|Ql rfl ty_2 u_0<|Qm rfl u_0<|o_p rfl (Zo rfl rfl u_0 (fun _ _ ⟨_,_,_,e,_⟩=>⟨_,e⟩))<|o_p rfl (Zr Zc2 (off:=1) (by kernel_rfl) rfl rfl u_0)<|QP rfl ty_2 u_0<|Qm rfl u_0<|o_p rfl (Zo rfl rfl u_0 (fun _ _ ⟨_,_,_,e,_⟩=>⟨_,e⟩))<|o_p rfl (Zr Zjv (off:=2) (by kernel_rfl) rfl rfl u_0)<|QP rfl ty_2 u_0<|o_p rfl (Zg7 rfl rfl u_0 u_1 rfl)<|o_p rfl (Zcv rfl rfl u_0 u_1)<|o_n) (fun a g hst hb=>?_)
 refine wp_cond_split (hst.bool 3 rfl) (fun hc1=>?_) (fun hc1=>?_)
 ·replace H0:=Zu hc1 H0
  refine r_s (L:=[(0,_),(2,_)]) (T:=[⟨[],_,[],[],[6]⟩]) (F:=[.o 0,.o 1,.p 0 0]) (hst.pick [0,1] rfl) hb Za
   (Qa rfl c_i<|o_n) (fun a g hst hb=>?_)
  refine wp_ret ?_
  refine Zp ?_
  obtain rfl:=Option.some.inj H0
  exact Zit rfl hst hb (Zg (s:=6)) (hst.at 2 rfl) ⟨Zc5 (hst.at 0 rfl),Zc5 (hst.at 1 rfl),trivial⟩
 ·replace H0:=Zt hc1 H0
  refine wp_skip ?_
  refine Zq ?_
  refine r_s (L:=[(0,_),(2,_),(4,_)]) (T:=[⟨[.o 0],_,[],[],[19]⟩,⟨[.p 0 0],_,[],[0],[20]⟩,⟨[.p 1 0],_,[],[0,1],[21]⟩,⟨[.p 2 0],_,[],[0,1,2],[22]⟩,⟨[.o 2],_,[],[],[23]⟩,⟨[.p 4 0],_,[],[4],[24]⟩,⟨[.p 3 0,.p 5 0],_,[],Lr 6,[25]⟩,⟨[.p 0 0],_,[],Lr 7,[26]⟩,⟨[.p 7 0],_,[],Lr 8,[27]⟩,⟨[.p 6 0,.p 8 0,.o 0],_,[1],Lr 9,[0,19,20,21,26,27]⟩]) (F:=[.p 9 0,.o 1]) (hst.pick [0,1,2] rfl) hb Za
   (Qm rfl u_0<|o_p rfl (Zo rfl rfl u_0 (fun _ _ ⟨_,_,_,e,_⟩=>⟨_,e⟩))<|o_p rfl (Zr Zc2 (off:=1) (by kernel_rfl) rfl rfl u_0)<|QP rfl ty_2 u_0<|Qf rfl Zd4 u_0<|Ql rfl ty_2 u_0<|o_p rfl (Zg7 rfl rfl u_0 u_1 rfl)<|o_p rfl (Zo rfl rfl u_0 (fun _ _ ⟨_,_,_,e,_⟩=>⟨_,e⟩))<|o_p rfl (Zr Zc2 (off:=1) (by kernel_rfl) rfl rfl u_0)<|o_p rfl (Zm6 ty_2 rfl rfl u_2 u_1 u_0)<|o_n) (fun a g hst hb=>?_)
  refine r_s (T:=[⟨[],_,[],[],[6]⟩]) (F:=[.o 0,.o 1,.p 0 0]) hst hb Za
   (Qa rfl c_i<|o_n) (fun a g hst hb=>?_)
  refine wp_ret ?_
  obtain rfl:=Option.some.inj H0
  exact Zit rfl hst hb (Zg (s:=6)) (hst.at 2 rfl) ⟨Zc5 (hst.at 0 rfl),Zc5 (hst.at 1 rfl),trivial⟩
end Go.CL
