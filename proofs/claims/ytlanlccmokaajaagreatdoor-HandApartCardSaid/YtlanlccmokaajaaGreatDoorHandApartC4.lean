/- A part of the proof of HandApart. -/
import Derived.Test.YtlanlccmokaajaaGreatDoorHandApartC3
set_option linter.unusedVariables false
set_option linter.unusedSimpArgs false
set_option maxRecDepth 100000
namespace Go.CL
open Go Go.RowKit Go.Proofs
theorem Zqv (a0:Zb) {r:Int} (h:Ze6 a0=some r):FnOk Tryz.prog 51 [(Ze.pd a0)] (pInt .i64 r):=by
 have H0:=h
 unfold Ze6 at H0
 clear h
 refine Zbs (N:=83) Tryz.func51 rfl rfl (Qe rfl) rfl rfl (fun a g0 hst hb=>?_)
 refine r_s (T:=[⟨[.o 0],_,[],[],[1]⟩,⟨[],_,[],[],[2]⟩]) (F:=[.p 0 0]) hst hb Za
  (Qb rfl u_0<|Qa rfl c_i<|o_n) (fun a g hst hb=>?_)
 obtain ⟨r1,h2,H0⟩:=Zc H0
 refine r_s (T:=[⟨[.o 0],_,[],[],[4]⟩,⟨[.p 0 0],_,[],[0],[5]⟩,⟨[.p 1 0],_,[],[0,1],[6]⟩,⟨[],[(3,(pBox Zdj 3 (default:Zcj)))],[4],[],[3]⟩,⟨[.p 2 0,.p 3 0],_,[4],Lr 4,[3]⟩]) (F:=[.o 0,.p 4 0]) hst hb Za
  (Qf rfl Zgm u_0<|Ql rfl ty_3 u_0<|o_p rfl (Zl Zbfd (Z0g _ h2) rfl rfl (.cons u_0 .nil))<|o_p rfl (Zbi (zs:=[.bool false,.bool false,.bool false,.bool false,.bool false]) (by kernel_rfl) (fun g=>Zt1 g) rfl rfl)<|o_p rfl (Zb5 Zkv rfl rfl u_1 u_0)<|o_n) (fun a g hst hb=>?_)
 refine wp_seq ?_
 refine wp_block ?_
 refine r_s (T:=[⟨[.o 0],_,[],[],[8]⟩,⟨[.p 0 0],_,[],[0],[9]⟩,⟨[.p 1 0],_,[],[0,1],[10]⟩,⟨[.p 2 0],_,[],[0,1,2],[11]⟩,⟨[.p 3 0,.o 0],_,[],Lr 4,[12]⟩,⟨[.p 3 0,.p 4 0],_,[],Lr 5,[13]⟩,⟨[.p 3 0,.p 5 0],_,[],Lr 6,[14]⟩,⟨[.p 3 0,.p 6 0],_,[],Lr 7,[15]⟩,⟨[.p 7 0],_,[],Lr 8,[7]⟩]) (F:=[.o 0,.o 1,.p 8 0]) hst hb Za
  (Qf rfl Zgm u_0<|Ql rfl ty_3 u_0<|o_p rfl (Z9p rfl rfl u_0 c_i)<|Qm rfl u_0<|o_g (Qg_f rfl (fun hG=>Zi Zgm rfl rfl u_0))<|o_g (Qg_f rfl (fun hG=>Zv ty_3 rfl rfl (Opd.gd hG u_0)))<|o_g (Qg_f rfl (fun hG=>Zmx rfl rfl (Opd.gd hG u_0) c_i))<|o_p rfl (Zbp rfl rfl u_0 (fun hz=>(Opd.gd (bNF hz) u_1)))<|Qa rfl u_0<|o_n) (fun a g hst hb=>?_)
 refine wp_cond_split (hst.bool 2 rfl) (fun hc3=>?_) (fun hc3=>?_)
 ·replace H0:=Zu hc3 H0
  refine r_s (L:=[]) (T:=[⟨[],_,[],[],[2]⟩]) (F:=[.p 0 0]) (hst.pick [] rfl) hb Za
   (Qa rfl c_i<|o_n) (fun a g hst hb=>?_)
  refine wp_ret ?_
  refine Z5 ?_
  refine Zo ?_
  obtain rfl:=Option.some.inj H0
  exact Z4 rfl hst hb (Zg (s:=2)) (hst.at 0 rfl)
 ·replace H0:=Zt hc3 H0
  obtain ⟨r4,h5,H0⟩:=Zc H0
  refine r_s (L:=[(1,_),(3,_)]) (T:=[⟨[.o 0],_,[],[],[17]⟩,⟨[.o 1],_,[],[],[18]⟩,⟨[.p 0 0,.p 1 0],_,[],[0,1],[19]⟩,⟨[.p 2 0],_,[],[0,1,2],[20]⟩,⟨[.p 3 0],_,[],Lr 4,[16]⟩]) (F:=[.o 0,.o 1,.p 4 0]) (hst.pick [0,1] rfl) hb Za
   (Ql rfl Zbe u_0<|Ql rfl Zkv u_0<|o_p rfl (Zl Zbeg (Z3h _ _ h5) rfl rfl (.cons u_0 (.cons u_1 .nil)))<|Qn rfl u_0<|Qa rfl u_0<|o_n) (fun a g hst hb=>?_)
  refine wp_cond_split (hst.bool 2 rfl) (fun hc6=>?_) (fun hc6=>?_)
  ·replace H0:=Zu hc6 H0
   refine r_s (L:=[]) (T:=[⟨[],_,[],[],[2]⟩]) (F:=[.p 0 0]) (hst.pick [] rfl) hb Za
    (Qa rfl c_i<|o_n) (fun a g hst hb=>?_)
   refine wp_ret ?_
   refine Z5 ?_
   refine Zo ?_
   obtain rfl:=Option.some.inj H0
   exact Z4 rfl hst hb (Zg (s:=2)) (hst.at 0 rfl)
  ·replace H0:=Zt hc6 H0
   refine r_s (L:=[(1,_),(3,_)]) (T:=[⟨[.o 0],_,[],[],[22]⟩,⟨[.p 0 0],_,[],[0],[23]⟩,⟨[.p 1 0],_,[],[0,1],[24]⟩,⟨[.p 2 0],_,[],[0,1,2],[25]⟩,⟨[.p 3 0],_,[],Lr 4,[21]⟩]) (F:=[.o 0,.o 1,.p 4 0]) (hst.pick [0,1] rfl) hb Za
    (Qf rfl Zj2 u_0<|Ql rfl ty_9 u_0<|o_p rfl (Zfy Tryz.underlying9 rfl rfl u_0)<|o_p rfl (Zct rfl rfl u_0 c_i)<|Qa rfl u_0<|o_n) (fun a g hst hb=>?_)
   refine wp_cond_split (hst.bool 2 rfl) (fun hc7=>?_) (fun hc7=>?_)
   ·replace H0:=Zu hc7 H0
    refine r_s (L:=[]) (T:=[⟨[],_,[],[],[2]⟩]) (F:=[.p 0 0]) (hst.pick [] rfl) hb Za
     (Qa rfl c_i<|o_n) (fun a g hst hb=>?_)
    refine wp_ret ?_
    refine Z5 ?_
    refine Zo ?_
    obtain rfl:=Option.some.inj H0
    exact Z4 rfl hst hb (Zg (s:=2)) (hst.at 0 rfl)
   ·replace H0:=Zt hc7 H0
    refine r_s (L:=[(1,_),(3,_)]) (T:=⟨[.o 1],_,[],[],[27]⟩ :: ⟨[.p 0 0],_,[],[0],[28]⟩ :: ⟨[.p 1 0],_,[],[0,1],[29]⟩ :: ⟨[.p 2 0,.o 0],_,[],[0,1,2],[30]⟩ :: ⟨[.p 2 0,.p 3 0],_,[],Lr 4,[31]⟩ :: ⟨[.p 2 0,.p 4 0],_,[],Lr 5,[32]⟩ :: ⟨[.p 2 0,.p 5 0],_,[],Lr 6,[33]⟩ :: ⟨[.p 6 0,.o 0],_,[],Lr 7,[34]⟩ :: ⟨[.p 6 0,.p 7 0],_,[],Lr 8,[35]⟩ :: ⟨[.p 6 0,.p 8 0],_,[],Lr 9,[36]⟩ :: ⟨[.p 2 0,.p 6 0,.p 9 0],_,[],Lr 10,[37]⟩ :: ⟨[.p 2 0,.p 10 0],_,[],Lr 11,[38]⟩ :: ⟨[.p 11 0,.o 0],_,[],Lr 12,[39]⟩ :: ⟨[.p 11 0,.p 12 0],_,[],Lr 13,[40]⟩ :: ⟨[.p 11 0,.o 0],_,[],Lr 12,[41]⟩ :: ⟨[.p 11 0,.p 14 0],_,[],0 :: 1 :: 2 :: 3 :: 4 :: 5 :: 6 :: 7 :: 8 :: 9 :: 10 :: 11 :: 14 :: [],[42]⟩ :: ⟨[.p 11 0,.p 13 0,.p 15 0],_,[],Lr 16,[43]⟩ :: ⟨[.p 2 0,.p 11 0,.p 16 0],_,[],Lr 17,[44]⟩ :: ⟨[.p 2 0,.p 17 0],_,[],Lr 18,[45]⟩ :: ⟨[.p 18 0,.o 0],_,[],Lr 19,[46]⟩ :: ⟨[.p 18 0,.p 19 0],_,[],Lr 20,[47]⟩ :: ⟨[.p 18 0,.o 0],_,[],Lr 19,[48]⟩ :: ⟨[.p 18 0,.p 21 0],_,[],0 :: 1 :: 2 :: 3 :: 4 :: 5 :: 6 :: 7 :: 8 :: 9 :: 10 :: 11 :: 12 :: 13 :: 14 :: 15 :: 16 :: 17 :: 18 :: 21 :: [],[49]⟩ :: ⟨[.p 18 0,.p 20 0,.p 22 0],_,[],Lr 23,[50]⟩ :: ⟨[.p 2 0,.p 18 0,.p 23 0],_,[],Lr 24,[51]⟩ :: ⟨[.p 2 0,.p 24 0],_,[],Lr 25,[52]⟩ :: ⟨[.p 25 0],_,[],Lr 26,[26]⟩ :: []) (F:=[.o 0,.o 1,.p 26 0]) (hst.pick [0,1] rfl) hb Za
     (Qf rfl Z04 u_0<|Ql rfl ty_4 u_0<|Qm rfl u_0<|o_g (Qg_t rfl (fun hG=>Zi Zkf rfl rfl u_0))<|o_g (Qg_t rfl (fun hG=>Zv ty_2 rfl rfl (Opd.gd hG u_0)))<|o_g (Qg_t rfl (fun hG=>Zca rfl rfl (Opd.gd hG u_0) c_i))<|o_g (Qg_t rfl (fun hG=>Z6 rfl rfl (Opd.gd hG u_0)))<|o_g (Qg_fi rfl (fun hG=>Zi Zkd rfl rfl u_0))<|o_g (Qg_fi rfl (fun hG=>Zv ty_2 rfl rfl (Opd.gd hG u_0)))<|o_g (Qg_fi rfl (fun hG=>Zct rfl rfl (Opd.gd hG u_0) c_i))<|o_g (Qg_t rfl (fun hG=>Zbp rfl rfl (Opd.gd hG u_0) (fun hz=>(Opd.gd (bA hG (bNF hz)) u_1))))<|o_g (Qg_t rfl (fun hG=>Z6 rfl rfl (Opd.gd hG u_0)))<|o_g (Qg_fi rfl (fun hG=>Zi Zc3 rfl rfl u_0))<|o_g (Qg_fi rfl (fun hG=>Zv ty_2 rfl rfl (Opd.gd hG u_0)))<|o_g (Qg_fi rfl (fun hG=>Zi Zkf rfl rfl u_0))<|o_g (Qg_fi rfl (fun hG=>Zv ty_2 rfl rfl (Opd.gd hG u_0)))<|o_g (Qg_fi rfl (fun hG=>Zca rfl rfl (Opd.gd hG u_0) (Opd.gd hG u_1)))<|o_g (Qg_t rfl (fun hG=>Zbp rfl rfl (Opd.gd hG u_0) (fun hz=>(Opd.gd (bA hG (bNF hz)) u_1))))<|o_g (Qg_t rfl (fun hG=>Z6 rfl rfl (Opd.gd hG u_0)))<|o_g (Qg_fi rfl (fun hG=>Zi Zc3 rfl rfl u_0))<|o_g (Qg_fi rfl (fun hG=>Zv ty_2 rfl rfl (Opd.gd hG u_0)))<|o_g (Qg_fi rfl (fun hG=>Zi Zkd rfl rfl u_0))<|o_g (Qg_fi rfl (fun hG=>Zv ty_2 rfl rfl (Opd.gd hG u_0)))<|o_g (Qg_fi rfl (fun hG=>Zct rfl rfl (Opd.gd hG u_0) (Opd.gd hG u_1)))<|o_g (Qg_t rfl (fun hG=>Zbp rfl rfl (Opd.gd hG u_0) (fun hz=>(Opd.gd (bA hG (bNF hz)) u_1))))<|o_p rfl (Zbk rfl rfl u_0 (fun hz=>(Opd.gd hz u_1)))<|Qa rfl u_0<|o_n) (fun a g hst hb=>?_)
    refine wp_cond_split (hst.bool 2 rfl) (fun hc8=>?_) (fun hc8=>?_)
    ·replace H0:=Zu hc8 H0
     refine r_s (L:=[]) (T:=[⟨[],_,[],[],[2]⟩]) (F:=[.p 0 0]) (hst.pick [] rfl) hb Za
      (Qa rfl c_i<|o_n) (fun a g hst hb=>?_)
     refine wp_ret ?_
     refine Z5 ?_
     refine Zo ?_
     obtain rfl:=Option.some.inj H0
     exact Z4 rfl hst hb (Zg (s:=2)) (hst.at 0 rfl)
    ·replace H0:=Zt hc8 H0
     obtain ⟨r9,h10,H0⟩:=Zc H0
     refine r_s (L:=[(1,_),(3,_)]) (T:=[⟨[.o 0],_,[],[],[54]⟩,⟨[.p 0 0],_,[],[0],[55]⟩,⟨[.p 1 0],_,[],[0,1],[56]⟩,⟨[.p 2 0],_,[],[0,1,2],[57]⟩,⟨[.p 3 0],_,[],Lr 4,[53]⟩]) (F:=[.o 0,.o 1,.p 4 0]) (hst.pick [0,1] rfl) hb Za
      (Qf rfl Zgl u_0<|Ql rfl Zc6 u_0<|o_p rfl (Zl Z5y (Zpy _ h10) rfl rfl (.cons u_0 .nil))<|Qn rfl u_0<|Qa rfl u_0<|o_n) (fun a g hst hb=>?_)
     refine wp_cond_split (hst.bool 2 rfl) (fun hc11=>?_) (fun hc11=>?_)
     ·replace H0:=Zu hc11 H0
      refine r_s (L:=[]) (T:=[⟨[],_,[],[],[2]⟩]) (F:=[.p 0 0]) (hst.pick [] rfl) hb Za
       (Qa rfl c_i<|o_n) (fun a g hst hb=>?_)
      refine wp_ret ?_
      refine Z5 ?_
      refine Zo ?_
      obtain rfl:=Option.some.inj H0
      exact Z4 rfl hst hb (Zg (s:=2)) (hst.at 0 rfl)
     ·replace H0:=Zt hc11 H0
      refine r_s (L:=[(1,_),(3,_)]) (T:=[⟨[.o 1],_,[],[],[59]⟩,⟨[.p 0 0],_,[],[0],[60]⟩,⟨[.p 1 0],_,[],[0,1],[61]⟩,⟨[.p 2 0],_,[],[0,1,2],[58]⟩]) (F:=[.o 0,.p 3 0]) (hst.pick [0,1] rfl) hb Za
       (Qf rfl Z18 u_0<|Ql rfl ty_4 u_0<|Qn rfl u_0<|Qa rfl u_0<|o_n) (fun a g hst hb=>?_)
      refine wp_cond_split (hst.bool 1 rfl) (fun hc12=>?_) (fun hc12=>?_)
      ·replace H0:=Zu hc12 H0
       refine r_s (L:=[]) (T:=[⟨[],_,[],[],[2]⟩]) (F:=[.p 0 0]) (hst.pick [] rfl) hb Za
        (Qa rfl c_i<|o_n) (fun a g hst hb=>?_)
       refine wp_ret ?_
       refine Z5 ?_
       refine Zo ?_
       obtain rfl:=Option.some.inj H0
       exact Z4 rfl hst hb (Zg (s:=2)) (hst.at 0 rfl)
      ·replace H0:=Zt hc12 H0
       refine r_s (L:=[(1,_)]) (T:=[⟨[.o 0],_,[],[],[63]⟩,⟨[.p 0 0],_,[],[0],[64]⟩,⟨[.p 1 0],_,[],[0,1],[65]⟩,⟨[.p 2 0],_,[],[0,1,2],[66]⟩,⟨[.p 3 0,.o 0],_,[],Lr 4,[67]⟩,⟨[.p 3 0,.p 4 0],_,[],Lr 5,[68]⟩,⟨[.p 3 0,.p 5 0],_,[],Lr 6,[69]⟩,⟨[.p 3 0,.p 6 0],_,[],Lr 7,[70]⟩,⟨[.p 7 0],_,[],Lr 8,[62]⟩]) (F:=[.o 0,.p 8 0]) (hst.pick [0] rfl) hb Za
        (Qf rfl Zhf u_0<|Ql rfl ty_3 u_0<|o_p rfl (Zca rfl rfl u_0 c_i)<|Qm rfl u_0<|o_g (Qg_f rfl (fun hG=>Zi Zhf rfl rfl u_0))<|o_g (Qg_f rfl (fun hG=>Zv ty_3 rfl rfl (Opd.gd hG u_0)))<|o_g (Qg_f rfl (fun hG=>Zct rfl rfl (Opd.gd hG u_0) c_i))<|o_p rfl (Zbp rfl rfl u_0 (fun hz=>(Opd.gd (bNF hz) u_1)))<|Qa rfl u_0<|o_n) (fun a g hst hb=>?_)
       refine wp_cond_split (hst.bool 1 rfl) (fun hc13=>?_) (fun hc13=>?_)
       ·replace H0:=Zu hc13 H0
        refine r_s (L:=[]) (T:=[⟨[],_,[],[],[2]⟩]) (F:=[.p 0 0]) (hst.pick [] rfl) hb Za
         (Qa rfl c_i<|o_n) (fun a g hst hb=>?_)
        refine wp_ret ?_
        refine Z5 ?_
        refine Zo ?_
        obtain rfl:=Option.some.inj H0
        exact Z4 rfl hst hb (Zg (s:=2)) (hst.at 0 rfl)
       ·replace H0:=Zt hc13 H0
        refine r_s (L:=[(1,_)]) (T:=[⟨[.o 0],_,[],[],[72]⟩,⟨[.p 0 0],_,[],[0],[73]⟩,⟨[.p 1 0],_,[],[0,1],[74]⟩,⟨[.o 0],_,[],[],[75]⟩,⟨[.p 3 0],_,[],[3],[76]⟩,⟨[.p 2 0,.p 4 0],_,[],Lr 5,[77]⟩,⟨[.p 5 0],_,[],Lr 6,[71]⟩]) (F:=[.o 0,.p 6 0]) (hst.pick [0] rfl) hb Za
         (Qf rfl Zci u_0<|Ql rfl Zdb u_0<|o_p rfl (Zbx Tryz.underlying36 rfl rfl u_0)<|Qf rfl Zhf u_0<|Ql rfl ty_3 u_0<|o_p rfl (Zct rfl rfl u_0 u_1)<|Qa rfl u_0<|o_n) (fun a g hst hb=>?_)
        refine wp_cond_split (hst.bool 1 rfl) (fun hc14=>?_) (fun hc14=>?_)
        ·replace H0:=Zu hc14 H0
         refine r_s (L:=[]) (T:=[⟨[],_,[],[],[2]⟩]) (F:=[.p 0 0]) (hst.pick [] rfl) hb Za
          (Qa rfl c_i<|o_n) (fun a g hst hb=>?_)
         refine wp_ret ?_
         refine Z5 ?_
         refine Zo ?_
         obtain rfl:=Option.some.inj H0
         exact Z4 rfl hst hb (Zg (s:=2)) (hst.at 0 rfl)
        ·replace H0:=Zt hc14 H0
         refine wp_skip ?_
         refine Zbc ?_
         refine Zp ?_
         obtain ⟨r15,h16,H0⟩:=Zc H0
         refine r_s (L:=[(1,_)]) (T:=[⟨[.o 0],_,[],[],[78]⟩,⟨[.p 0 0],_,[],[0],[79]⟩,⟨[.o 0],_,[],[],[80]⟩,⟨[.p 2 0],_,[],[2],[81]⟩,⟨[.p 1 0,.p 3 0],_,[],Lr 4,[82]⟩,⟨[.p 4 0],_,[],Lr 5,[2]⟩]) (F:=[.p 5 0]) (hst.pick [0] rfl) hb Za
          (Qf rfl Zgm u_0<|Ql rfl ty_3 u_0<|Qf rfl Zci u_0<|Ql rfl Zdb u_0<|o_p rfl (Zl Zbei (Z2p _ _ h16) rfl rfl (.cons u_0 (.cons u_1 .nil)))<|Qa rfl u_0<|o_n) (fun a g hst hb=>?_)
         refine wp_ret ?_
         obtain rfl:=Option.some.inj H0
         exact Z4 rfl hst hb (Zg (s:=2)) (hst.at 0 rfl)
theorem Zzn (a0:Int) {r:Zdv} (h:Zqq a0=some r):FnOk Tryz.prog 85 [(pInt .i64 a0)] (Ze9.pd r):=by
 have H0:=h
 unfold Zqq at H0
 clear h
 refine Zbs (N:=13) Tryz.func85 rfl rfl (Qe rfl) rfl rfl (fun a g0 hst hb=>?_)
 refine r_s (T:=[⟨[],[(2,(pBox Ze9 2 (default:Zdv)))],[3],[],[2]⟩]) (F:=[.o 0,.p 0 0]) hst hb Za
  (o_p rfl (Zbi (zs:=[.string ByteArray.empty,.int .i64 0,.string ByteArray.empty]) (by kernel_rfl) (fun g=>Zv6 g) rfl rfl)<|o_n) (fun a g hst hb=>?_)
 refine wp_seq ?_
 refine r_s (T:=[⟨[.o 0],_,[],[],[3]⟩,⟨[.p 0 0],_,[],[0],[4]⟩,⟨[.p 1 0],_,[],[0,1],[5]⟩,⟨[.p 2 0,.o 0],_,[],[0,1,2],[6]⟩,⟨[.p 2 0,.p 3 0],_,[],Lr 4,[7]⟩,⟨[.p 2 0,.p 4 0],_,[],Lr 5,[8]⟩]) (F:=[.o 0,.o 1,.p 5 0]) hst hb Za
  (Qm rfl u_0<|o_p rfl (Z9p rfl rfl u_0 c_i)<|Qm rfl u_0<|o_g (Qg_f rfl (fun hG=>Z6 rfl rfl u_0))<|o_g (Qg_f rfl (fun hG=>Zmx rfl rfl (Opd.gd hG u_0) c_i))<|o_p rfl (Zbp rfl rfl u_0 (fun hz=>(Opd.gd (bNF hz) u_1)))<|o_n) (fun a g hst hb=>?_)
 refine wp_cond_split (hst.bool 2 rfl) (fun hc1=>?_) (fun hc1=>?_)
 ·replace H0:=Zu hc1 H0
  refine r_s (L:=[(2,_)]) (T:=[⟨[],_,[],[],[9]⟩,⟨[.p 0 0,.o 0],_,[3],[0],[2]⟩]) (F:=[.p 1 0]) (hst.pick [1] rfl) hb Za
   (o_p rfl (Zbam rfl rfl )<|o_p rfl (Z3 Zlv rfl rfl u_1 u_0)<|o_n) (fun a g hst hb=>?_)
  refine wp_ret ?_
  refine Zo ?_
  obtain rfl:=Option.some.inj H0
  obtain ⟨u0,hu0,hq0⟩:=Zbh (P:=Tryz.prog) Zlv (hst.at 0 rfl)
  exact Z4 rfl hst hb hu0 hq0
 ·replace H0:=Zt hc1 H0
  refine wp_skip ?_
  refine Zp ?_
  obtain ⟨e2,h3,H0⟩:=Zc H0
  refine r_s (L:=[(0,_),(2,_)]) (T:=[⟨[.o 0],_,[],[],[10]⟩,⟨[.p 0 0],_,[],[0],[11]⟩,⟨[.p 1 0],_,[],[0,1],[12]⟩,⟨[.p 2 0,.o 1],_,[3],[0,1,2],[2]⟩]) (F:=[.p 3 0]) (hst.pick [0,1] rfl) hb Za
   (Qm rfl u_0<|o_p rfl (Zne Tryz.underlying164 Zbcn rfl rfl (Opd.glob gm_0 gk_0) u_0 h3)<|Ql rfl Zlv u_0<|o_p rfl (Z3 Zlv rfl rfl u_1 u_0)<|o_n) (fun a g hst hb=>?_)
  refine wp_ret ?_
  obtain rfl:=Option.some.inj H0
  obtain ⟨u0,hu0,hq0⟩:=Zbh (P:=Tryz.prog) Zlv (hst.at 0 rfl)
  exact Z4 rfl hst hb hu0 hq0
theorem Ziy (f2:Nat) (C2:List Pd) (hC2:Free C2) (e2_:Zm Tryz.prog f2) (φ2:Zh → Zh → Option Bool) (hφ2:∀ (y0:Zh) (y1:Zh) (r:Bool),φ2 y0 y1=some r → FnOk Tryz.prog f2 ([(Z2.pd y0),(Z2.pd y1)] ++ C2) (Zbf r)) (a0:List Zh) (a1:List Zh) {r:Bool} (h:Zcn a0 a1 φ2=some r):FnOk Tryz.prog 63 [(Z2.sl.pd a0),(Z2.sl.pd a1),(pClo f2 C2 hC2)] (Zbf r):=by
 have H0:=h
 unfold Zcn at H0
 clear h
 refine Zbs (N:=32) Tryz.func63 rfl rfl (Qe rfl) rfl rfl (fun a g0 hst hb=>?_)
 refine r_s (T:=[⟨[],_,[],[],[6]⟩]) (F:=[.o 0,.o 1,.o 2]) hst hb Za
  (Qa rfl c_b<|o_n) (fun a g hst hb=>?_)
 refine wp_seq ?_
 refine r_s (T:=[⟨[.o 0],_,[],[],[10]⟩,⟨[.p 0 0],_,[],[0],[11]⟩,⟨[.o 1],_,[],[],[12]⟩,⟨[.p 2 0],_,[],[2],[13]⟩,⟨[.p 1 0,.p 3 0],_,[],Lr 4,[14]⟩]) (F:=[.o 0,.o 1,.o 2,.p 4 0]) hst hb Za
  (Qm rfl u_0<|o_p rfl (Zbx Tryz.underlying36 rfl rfl u_0)<|Qm rfl u_0<|o_p rfl (Zbx Tryz.underlying36 rfl rfl u_0)<|o_p rfl (Zdn rfl rfl u_0 u_1)<|o_n) (fun a g hst hb=>?_)
 refine wp_cond_split (hst.bool 3 rfl) (fun hc1=>?_) (fun hc1=>?_)
 ·replace H0:=Zu hc1 H0
  refine r_s (L:=[]) (T:=[⟨[],_,[],[],[6]⟩]) (F:=[.p 0 0]) (hst.pick [] rfl) hb Za
   (Qa rfl c_b<|o_n) (fun a g hst hb=>?_)
  refine wp_ret ?_
  refine Zo ?_
  obtain rfl:=Option.some.inj H0
  exact Z4 rfl hst hb (Zg (s:=6)) (hst.at 0 rfl)
 ·replace H0:=Zt hc1 H0
  refine wp_skip ?_
  refine Zp ?_
  refine wp_seq ?_
  refine r_s (L:=[(0,_),(1,_),(2,_)]) (T:=[⟨[.o 0],_,[],[],[15]⟩,⟨[.p 0 0],_,[],[0],[16]⟩,⟨[],_,[],[],[17]⟩]) (F:=[.o 1,.o 2,.p 0 0,.p 1 0,.p 2 0]) (hst.pick [0,1,2] rfl) hb Za
   (Qm rfl u_0<|o_p rfl (Zbx Tryz.underlying36 rfl rfl u_0)<|Qm rfl c_i<|o_n) (fun a g hst hb=>?_)
  obtain ⟨z11,hz1,H0⟩:=Zc H0
  refine Zb3 (fun a w=>∃ (g:G),w=g.w ∧ St 32 [] a g ∧ Base g0 g ∧ (.inr ())=z11) ?_ ?_
  ·rintro a w ⟨g,rfl,hst,hb,rfl⟩
   refine Zp ?_
   refine r_s (T:=[⟨[],_,[],[],[6]⟩]) (F:=[.p 0 0]) hst hb Za
    (Qa rfl c_b<|o_n) (fun a g hst hb=>?_)
   refine wp_ret ?_
   obtain rfl:=Option.some.inj H0
   exact Z4 rfl hst hb (Zg (s:=6)) (hst.at 0 rfl)
  ·refine wp_block ?_
   refine wp_loop_ghost (fun n a w=>∃ (x2:Int) (g:G),w=g.w ∧ St 32 [(1,(Z2.sl.pd a1)),(2,(pClo f2 C2 hC2)),(15,(Z2.sl.pd a0)),(16,(pInt .i64 (a0.length:Int))),(17,(pInt .i64 x2))] a g ∧ Base g0 g ∧ Zbw a0 a1 φ2 n x2=some z11) (Int.toNat ((a0.length:Int) - (0:Int)) + 1) ⟨(0:Int),g,rfl,(hst.pick [0,1,2,3,4] rfl),hb,hz1⟩ (fun n a w hI=>?_)
   obtain ⟨x2,g,rfl,hst,hb,H1⟩:=hI
   cases n with
   | zero=>exact absurd H1 (by simp [Zbw])
   | succ n =>
    rw [Zbw] at H1
    refine r_s (T:=[⟨[.o 4,.o 3],_,[],[],[18]⟩]) (F:=[.o 0,.o 1,.o 2,.o 3,.o 4,.p 0 0]) hst hb Za
     (o_p rfl (Zca rfl rfl u_0 u_1)<|o_n) (fun a g hst hb=>?_)
    refine wp_seq ?_
    refine wp_cond_split (hst.bool 5 rfl) (fun hc3=>?_) (fun hc3=>?_)
    ·replace H1:=Zu hc3 H1
     refine wp_skip ?_
     refine Zp ?_
     refine wp_seq ?_
     refine wp_block ?_
     obtain ⟨e4,h5,H1⟩:=Zc H1
     refine r_s (L:=[(1,_),(2,_),(15,_),(16,_),(17,_)]) (T:=[⟨[.o 4],_,[],[],[19]⟩,⟨[.o 2,.o 4],_,[],[],[20]⟩,⟨[.p 1 0],_,[],[1],[21]⟩,⟨[],[(8,(pBox Z2 8 (default:Zh)))],[9],[],[8]⟩,⟨[.p 0 0],_,[],Lr 4,[7]⟩,⟨[.p 2 0,.p 3 0],_,[9],Lr 5,[8]⟩]) (F:=[.o 0,.o 1,.p 4 0,.p 5 0,.o 2,.o 3,.o 4]) (hst.pick [0,1,2,3,4] rfl) hb Za
      (Qm rfl u_0<|o_p rfl (Zbl Tryz.underlying36 Zfe rfl rfl u_0 u_1 h5)<|Ql rfl Zeb u_0<|o_p rfl (Zbi (zs:=[.float .f64 0,.string ByteArray.empty]) (by kernel_rfl) (fun g=>Zl5 g) rfl rfl)<|Qa rfl u_0<|o_p rfl (Zb5 Zeb rfl rfl u_1 u_0)<|o_n) (fun a g hst hb=>?_)
     obtain ⟨e6,h7,H1⟩:=Zc H1
     refine r_s (T:=[⟨[.o 0],_,[],[],[22]⟩,⟨[.o 2],_,[],[],[23]⟩,⟨[.p 0 0,.p 1 0],_,[],[0,1],[24]⟩,⟨[.p 2 0],_,[],[0,1,2],[25]⟩,⟨[],[(9,(pBox Z2 9 (default:Zh)))],[10],[],[9]⟩,⟨[.p 3 0,.p 4 0],_,[10],Lr 5,[9]⟩]) (F:=[.o 0,.o 1,.o 3,.p 5 0,.o 4,.o 5,.o 6]) hst hb Za
      (Qm rfl u_0<|Qm rfl u_0<|o_p rfl (Zbl Tryz.underlying36 Zfe rfl rfl u_0 u_1 h7)<|Ql rfl Zeb u_0<|o_p rfl (Zbi (zs:=[.float .f64 0,.string ByteArray.empty]) (by kernel_rfl) (fun g=>Zl5 g) rfl rfl)<|o_p rfl (Zb5 Zeb rfl rfl u_1 u_0)<|o_n) (fun a g hst hb=>?_)
     obtain ⟨r8,h9,H1⟩:=Zc H1
     refine r_s (T:=[⟨[.o 1],_,[],[],[26]⟩,⟨[.o 2],_,[],[],[27]⟩,⟨[.o 3],_,[],[],[28]⟩,⟨[.p 0 0,.p 1 0,.p 2 0],_,[],[0,1,2],[29]⟩,⟨[.p 3 0],_,[],Lr 4,[30]⟩]) (F:=[.o 0,.o 1,.o 4,.o 5,.o 6,.p 4 0]) hst hb Za
      (Qm rfl u_0<|Ql rfl Zeb u_0<|Ql rfl Zeb u_0<|o_p rfl (Zqf e2_ (hφ2 _ _ _ h9) rfl rfl u_0 (.cons u_1 (.cons u_2 .nil)))<|Qn rfl u_0<|o_n) (fun a g hst hb=>?_)
     refine wp_cond_split (hst.bool 5 rfl) (fun hc10=>?_) (fun hc10=>?_)
     ·replace H1:=Zu hc10 H1
      refine r_s (L:=[]) (T:=[⟨[],_,[],[],[6]⟩]) (F:=[.p 0 0]) (hst.pick [] rfl) hb Za
       (Qa rfl c_b<|o_n) (fun a g hst hb=>?_)
      refine wp_ret ?_
      refine Z5 ?_
      refine Zo ?_
      refine Zo ?_
      refine Z5 ?_
      refine Zo ?_
      refine Zo ?_
      obtain rfl:=Option.some.inj H1
      obtain rfl:=Option.some.inj H0
      exact Z4 rfl hst hb (Zg (s:=6)) (hst.at 0 rfl)
     ·replace H1:=Zt hc10 H1
      refine wp_skip ?_
      refine Zbc ?_
      refine Zp ?_
      refine r_g (L:=[(1,_),(2,_),(15,_),(16,_),(17,_)]) (T:=[⟨[.o 4],_,[],[],[31]⟩,⟨[.p 0 0],_,[],[0],[17]⟩]) (F:=[.o 0,.o 1,.o 2,.o 3,.p 1 0]) (hst.pick [0,1,2,3,4] rfl) hb Za
       (o_p rfl (Zb0 rfl rfl u_0 c_i rfl)<|Qm rfl u_0<|o_n) (fun a g hst hb=>?_)
      exact ⟨n,Nat.lt_succ_self _,(IntKind.i64.wrap (x2 + (1:Int))),g,rfl,(hst.pick [0,1,2,3,4] rfl),hb,H1⟩
    ·replace H1:=Zt hc3 H1
     refine wp_exit ?_
     refine Zby ?_
     refine Zby ?_
     refine Zcb ?_
     exact ⟨g,rfl,(hst.pick [] rfl),hb,Option.some.inj H1⟩
theorem Zz2 (a0:Zh) (a1:Zh) {r:Bool} (h:Zku a0 a1=some r):FnOk Tryz.prog 64 [(Z2.pd a0),(Z2.pd a1)] (Zbf r):=by
 have H0:=h
 unfold Zku at H0
 clear h
 refine Zbs (N:=17) Tryz.func64 rfl rfl (Qe rfl) rfl rfl (fun a g0 hst hb=>?_)
 refine r_s (T:=[⟨[.o 0],_,[],[],[2]⟩,⟨[.o 1],_,[],[],[3]⟩,⟨[],_,[],[],[4]⟩]) (F:=[.p 0 0,.p 1 0]) hst hb Za
  (Qb rfl u_0<|Qb rfl u_0<|Qa rfl c_b<|o_n) (fun a g hst hb=>?_)
 obtain ⟨r1,h2,H0⟩:=Zc H0
 refine r_s (T:=⟨[.o 0],_,[],[],[5]⟩ :: ⟨[.p 0 0],_,[],[0],[6]⟩ :: ⟨[.o 1],_,[],[],[7]⟩ :: ⟨[.p 2 0],_,[],[2],[8]⟩ :: ⟨[.p 1 0,.p 3 0],_,[],Lr 4,[9]⟩ :: ⟨[.p 4 0],_,[],Lr 5,[10]⟩ :: ⟨[.p 5 0,.o 0],_,[],Lr 6,[11]⟩ :: ⟨[.p 5 0,.p 6 0],_,[],Lr 7,[12]⟩ :: ⟨[.p 5 0,.o 1],_,[],Lr 6,[13]⟩ :: ⟨[.p 5 0,.p 8 0],_,[],[0,1,2,3,4,5,8],[14]⟩ :: ⟨[.p 5 0,.p 7 0,.p 9 0],_,[],Lr 10,[15]⟩ :: ⟨[.p 5 0,.p 10 0],_,[],Lr 11,[16]⟩ :: ⟨[.p 11 0],_,[],Lr 12,[4]⟩ :: []) (F:=[.p 12 0]) hst hb Za
  (Qf rfl Zd6 u_0<|Ql rfl ty_9 u_0<|Qf rfl Zd6 u_0<|Ql rfl ty_9 u_0<|o_p rfl (Zlf rfl rfl u_0 u_1)<|Qm rfl u_0<|o_g (Qg_t rfl (fun hG=>Zi Zf3 rfl rfl u_0))<|o_g (Qg_t rfl (fun hG=>Zv Zc6 rfl rfl (Opd.gd hG u_0)))<|o_g (Qg_t rfl (fun hG=>Zi Zf3 rfl rfl u_0))<|o_g (Qg_t rfl (fun hG=>Zv Zc6 rfl rfl (Opd.gd hG u_0)))<|o_g (Qg_t rfl (fun hG=>Zl Zux (Zl1 _ _ (Zbn h2 hG)) rfl rfl (.cons (Opd.gd hG u_0) (.cons (Opd.gd hG u_1) .nil))))<|o_p rfl (Zbk rfl rfl u_0 (fun hz=>(Opd.gd hz u_1)))<|Qa rfl u_0<|o_n) (fun a g hst hb=>?_)
 refine wp_ret ?_
 obtain rfl:=Option.some.inj H0
 exact Z4 rfl hst hb (Zg (s:=4)) (hst.at 0 rfl)
theorem Zv8 (a0:Zb) (a1:Zb) {r:Bool} (h:Zos a0 a1=some r):FnOk Tryz.prog 42 [(Ze.pd a0),(Ze.pd a1)] (Zbf r):=by
 have H0:=h
 unfold Zos at H0
 clear h
 refine Zbs (N:=59) Tryz.func42 rfl rfl (Qe rfl) rfl rfl (fun a g0 hst hb=>?_)
 refine r_s (T:=[⟨[.o 0],_,[],[],[2]⟩,⟨[.o 1],_,[],[],[3]⟩,⟨[],_,[],[],[4]⟩]) (F:=[.p 0 0,.p 1 0]) hst hb Za
  (Qb rfl u_0<|Qb rfl u_0<|Qa rfl c_b<|o_n) (fun a g hst hb=>?_)
 obtain ⟨r1,h2,H0⟩:=Zc H0;obtain ⟨r3,h4,H0⟩:=Zc H0
 refine r_s (T:=⟨[.o 0],_,[],[],[5]⟩ :: ⟨[.p 0 0],_,[],[0],[6]⟩ :: ⟨[.o 1],_,[],[],[7]⟩ :: ⟨[.p 2 0],_,[],[2],[8]⟩ :: ⟨[.p 1 0,.p 3 0],_,[],Lr 4,[9]⟩ :: ⟨[.p 4 0],_,[],Lr 5,[10]⟩ :: ⟨[.p 5 0,.o 0],_,[],Lr 6,[11]⟩ :: ⟨[.p 5 0,.p 6 0],_,[],Lr 7,[12]⟩ :: ⟨[.p 5 0,.o 1],_,[],Lr 6,[13]⟩ :: ⟨[.p 5 0,.p 8 0],_,[],[0,1,2,3,4,5,8],[14]⟩ :: ⟨[.p 5 0,.p 7 0,.p 9 0],_,[],Lr 10,[15]⟩ :: ⟨[.p 5 0,.p 10 0],_,[],Lr 11,[16]⟩ :: ⟨[.p 11 0],_,[],Lr 12,[17]⟩ :: ⟨[.p 12 0,.o 0],_,[],Lr 13,[18]⟩ :: ⟨[.p 12 0,.p 13 0],_,[],Lr 14,[19]⟩ :: ⟨[.p 12 0,.o 1],_,[],Lr 13,[20]⟩ :: ⟨[.p 12 0,.p 15 0],_,[],0 :: 1 :: 2 :: 3 :: 4 :: 5 :: 6 :: 7 :: 8 :: 9 :: 10 :: 11 :: 12 :: 15 :: [],[21]⟩ :: ⟨[.p 12 0,.p 14 0,.p 16 0],_,[],Lr 17,[22]⟩ :: ⟨[.p 12 0,.p 17 0],_,[],Lr 18,[23]⟩ :: ⟨[.p 18 0],_,[],Lr 19,[24]⟩ :: ⟨[.p 19 0,.o 0],_,[],Lr 20,[25]⟩ :: ⟨[.p 19 0,.p 20 0],_,[],Lr 21,[26]⟩ :: ⟨[.p 19 0,.o 1],_,[],Lr 20,[27]⟩ :: ⟨[.p 19 0,.p 22 0],_,[],0 :: 1 :: 2 :: 3 :: 4 :: 5 :: 6 :: 7 :: 8 :: 9 :: 10 :: 11 :: 12 :: 13 :: 14 :: 15 :: 16 :: 17 :: 18 :: 19 :: 22 :: [],[28]⟩ :: ⟨[.p 19 0,.p 21 0,.p 23 0],_,[],Lr 24,[29]⟩ :: ⟨[.p 19 0,.p 24 0],_,[],Lr 25,[30]⟩ :: ⟨[.p 25 0],_,[],Lr 26,[31]⟩ :: ⟨[.p 26 0,.o 0],_,[],Lr 27,[32]⟩ :: ⟨[.p 26 0,.p 27 0],_,[],Lr 28,[33]⟩ :: ⟨[.p 26 0,.o 1],_,[],Lr 27,[34]⟩ :: ⟨[.p 26 0,.p 29 0],_,[],0 :: 1 :: 2 :: 3 :: 4 :: 5 :: 6 :: 7 :: 8 :: 9 :: 10 :: 11 :: 12 :: 13 :: 14 :: 15 :: 16 :: 17 :: 18 :: 19 :: 20 :: 21 :: 22 :: 23 :: 24 :: 25 :: 26 :: 29 :: [],[35]⟩ :: ⟨[.p 26 0,.p 28 0,.p 30 0],_,[],Lr 31,[36]⟩ :: ⟨[.p 26 0,.p 31 0],_,[],Lr 32,[37]⟩ :: ⟨[.p 32 0],_,[],Lr 33,[38]⟩ :: ⟨[.p 33 0,.o 0],_,[],Lr 34,[39]⟩ :: ⟨[.p 33 0,.p 34 0],_,[],Lr 35,[40]⟩ :: ⟨[.p 33 0,.o 1],_,[],Lr 34,[41]⟩ :: ⟨[.p 33 0,.p 36 0],_,[],0 :: 1 :: 2 :: 3 :: 4 :: 5 :: 6 :: 7 :: 8 :: 9 :: 10 :: 11 :: 12 :: 13 :: 14 :: 15 :: 16 :: 17 :: 18 :: 19 :: 20 :: 21 :: 22 :: 23 :: 24 :: 25 :: 26 :: 27 :: 28 :: 29 :: 30 :: 31 :: 32 :: 33 :: 36 :: [],[42]⟩ :: ⟨[.p 33 0,.p 35 0,.p 37 0],_,[],Lr 38,[43]⟩ :: ⟨[.p 33 0,.p 38 0],_,[],Lr 39,[44]⟩ :: ⟨[.p 39 0],_,[],Lr 40,[45]⟩ :: ⟨[.p 40 0,.o 0],_,[],Lr 41,[46]⟩ :: ⟨[.p 40 0,.p 41 0],_,[],Lr 42,[47]⟩ :: ⟨[.p 40 0,.o 1],_,[],Lr 41,[48]⟩ :: ⟨[.p 40 0,.p 43 0],_,[],0 :: 1 :: 2 :: 3 :: 4 :: 5 :: 6 :: 7 :: 8 :: 9 :: 10 :: 11 :: 12 :: 13 :: 14 :: 15 :: 16 :: 17 :: 18 :: 19 :: 20 :: 21 :: 22 :: 23 :: 24 :: 25 :: 26 :: 27 :: 28 :: 29 :: 30 :: 31 :: 32 :: 33 :: 34 :: 35 :: 36 :: 37 :: 38 :: 39 :: 40 :: 43 :: [],[49]⟩ :: ⟨[.p 40 0,.p 42 0,.p 44 0],_,[],Lr 45,[50]⟩ :: ⟨[.p 40 0,.p 45 0],_,[],Lr 46,[51]⟩ :: ⟨[.p 46 0],_,[],Lr 47,[52]⟩ :: ⟨[.p 47 0,.o 0],_,[],Lr 48,[53]⟩ :: ⟨[.p 47 0,.p 48 0],_,[],Lr 49,[54]⟩ :: ⟨[.p 47 0,.o 1],_,[],Lr 48,[55]⟩ :: ⟨[.p 47 0,.p 50 0],_,[],0 :: 1 :: 2 :: 3 :: 4 :: 5 :: 6 :: 7 :: 8 :: 9 :: 10 :: 11 :: 12 :: 13 :: 14 :: 15 :: 16 :: 17 :: 18 :: 19 :: 20 :: 21 :: 22 :: 23 :: 24 :: 25 :: 26 :: 27 :: 28 :: 29 :: 30 :: 31 :: 32 :: 33 :: 34 :: 35 :: 36 :: 37 :: 38 :: 39 :: 40 :: 41 :: 42 :: 43 :: 44 :: 45 :: 46 :: 47 :: 50 :: [],[56]⟩ :: ⟨[.p 47 0,.p 49 0,.p 51 0],_,[],Lr 52,[57]⟩ :: ⟨[.p 47 0,.p 52 0],_,[],Lr 53,[58]⟩ :: ⟨[.p 53 0],_,[],Lr 54,[4]⟩ :: []) (F:=[.p 54 0]) hst hb Za
  (Qf rfl Zgm u_0<|Ql rfl ty_3 u_0<|Qf rfl Zgm u_0<|Ql rfl ty_3 u_0<|o_p rfl (Zbt rfl rfl u_0 u_1)<|Qm rfl u_0<|o_g (Qg_t rfl (fun hG=>Zi Zc3 rfl rfl u_0))<|o_g (Qg_t rfl (fun hG=>Zv ty_2 rfl rfl (Opd.gd hG u_0)))<|o_g (Qg_t rfl (fun hG=>Zi Zc3 rfl rfl u_0))<|o_g (Qg_t rfl (fun hG=>Zv ty_2 rfl rfl (Opd.gd hG u_0)))<|o_g (Qg_t rfl (fun hG=>Zbt rfl rfl (Opd.gd hG u_0) (Opd.gd hG u_1)))<|o_p rfl (Zbk rfl rfl u_0 (fun hz=>(Opd.gd hz u_1)))<|Qm rfl u_0<|o_g (Qg_t rfl (fun hG=>Zi Zkf rfl rfl u_0))<|o_g (Qg_t rfl (fun hG=>Zv ty_2 rfl rfl (Opd.gd hG u_0)))<|o_g (Qg_t rfl (fun hG=>Zi Zkf rfl rfl u_0))<|o_g (Qg_t rfl (fun hG=>Zv ty_2 rfl rfl (Opd.gd hG u_0)))<|o_g (Qg_t rfl (fun hG=>Zbt rfl rfl (Opd.gd hG u_0) (Opd.gd hG u_1)))<|o_p rfl (Zbk rfl rfl u_0 (fun hz=>(Opd.gd hz u_1)))<|Qm rfl u_0<|o_g (Qg_t rfl (fun hG=>Zi Zkd rfl rfl u_0))<|o_g (Qg_t rfl (fun hG=>Zv ty_2 rfl rfl (Opd.gd hG u_0)))<|o_g (Qg_t rfl (fun hG=>Zi Zkd rfl rfl u_0))<|o_g (Qg_t rfl (fun hG=>Zv ty_2 rfl rfl (Opd.gd hG u_0)))<|o_g (Qg_t rfl (fun hG=>Zbt rfl rfl (Opd.gd hG u_0) (Opd.gd hG u_1)))<|o_p rfl (Zbk rfl rfl u_0 (fun hz=>(Opd.gd hz u_1)))<|Qm rfl u_0<|o_g (Qg_t rfl (fun hG=>Zi Zgl rfl rfl u_0))<|o_g (Qg_t rfl (fun hG=>Zv Zc6 rfl rfl (Opd.gd hG u_0)))<|o_g (Qg_t rfl (fun hG=>Zi Zgl rfl rfl u_0))<|o_g (Qg_t rfl (fun hG=>Zv Zc6 rfl rfl (Opd.gd hG u_0)))<|o_g (Qg_t rfl (fun hG=>Zl Zux (Zl1 _ _ (Zbn h2 hG)) rfl rfl (.cons (Opd.gd hG u_0) (.cons (Opd.gd hG u_1) .nil))))<|o_p rfl (Zbk rfl rfl u_0 (fun hz=>(Opd.gd hz u_1)))<|Qm rfl u_0<|o_g (Qg_t rfl (fun hG=>Zi Zhf rfl rfl u_0))<|o_g (Qg_t rfl (fun hG=>Zv ty_3 rfl rfl (Opd.gd hG u_0)))<|o_g (Qg_t rfl (fun hG=>Zi Zhf rfl rfl u_0))<|o_g (Qg_t rfl (fun hG=>Zv ty_3 rfl rfl (Opd.gd hG u_0)))<|o_g (Qg_t rfl (fun hG=>Zbt rfl rfl (Opd.gd hG u_0) (Opd.gd hG u_1)))<|o_p rfl (Zbk rfl rfl u_0 (fun hz=>(Opd.gd hz u_1)))<|Qm rfl u_0<|o_g (Qg_t rfl (fun hG=>Zi Zj2 rfl rfl u_0))<|o_g (Qg_t rfl (fun hG=>Zv ty_9 rfl rfl (Opd.gd hG u_0)))<|o_g (Qg_t rfl (fun hG=>Zi Zj2 rfl rfl u_0))<|o_g (Qg_t rfl (fun hG=>Zv ty_9 rfl rfl (Opd.gd hG u_0)))<|o_g (Qg_t rfl (fun hG=>Zlf rfl rfl (Opd.gd hG u_0) (Opd.gd hG u_1)))<|o_p rfl (Zbk rfl rfl u_0 (fun hz=>(Opd.gd hz u_1)))<|Qm rfl u_0<|o_g (Qg_t rfl (fun hG=>Zi Zci rfl rfl u_0))<|o_g (Qg_t rfl (fun hG=>Zv Zdb rfl rfl (Opd.gd hG u_0)))<|o_g (Qg_t rfl (fun hG=>Zi Zci rfl rfl u_0))<|o_g (Qg_t rfl (fun hG=>Zv Zdb rfl rfl (Opd.gd hG u_0)))<|o_g (Qg_t rfl (fun hG=>Zl Zbe0 (Ziy 64 [] rfl Zbd3 (fun y0 y1=>Zku y0 y1) (fun y0 y1 r h=>Zz2 y0 y1 h) _ _ (Zbn h4 hG)) rfl rfl (.cons (Opd.gd hG u_0) (.cons (Opd.gd hG u_1) (.cons Opd.fnc .nil)))))<|o_p rfl (Zbk rfl rfl u_0 (fun hz=>(Opd.gd hz u_1)))<|Qa rfl u_0<|o_n) (fun a g hst hb=>?_)
 refine wp_ret ?_
 obtain rfl:=Option.some.inj H0
 exact Z4 rfl hst hb (Zg (s:=4)) (hst.at 0 rfl)
theorem Zk9 (a0:Zdv) (a1:Int) {r:Bool} (h:Zdy a0 a1=some r):FnOk Tryz.prog 105 [(Ze9.pd a0),(pInt .u8 a1)] (Zbf r):=by
 have H0:=h
 unfold Zdy at H0
 clear h
 refine Zbs (N:=19) Tryz.func105 rfl rfl (Qe rfl) rfl rfl (fun a g0 hst hb=>?_)
 refine r_s (T:=[⟨[.o 0],_,[],[],[2]⟩,⟨[],_,[],[],[4]⟩]) (F:=[.o 1,.p 0 0]) hst hb Za
  (Qb rfl u_0<|Qa rfl c_b<|o_n) (fun a g hst hb=>?_)
 refine wp_seq ?_
 refine r_s (T:=[⟨[.o 1],_,[],[],[6]⟩,⟨[.p 0 0],_,[],[0],[7]⟩,⟨[.p 1 0],_,[],[0,1],[8]⟩,⟨[],_,[],[],[9]⟩]) (F:=[.o 0,.o 1,.p 2 0,.p 3 0]) hst hb Za
  (Qf rfl Z15 u_0<|Ql rfl ty_9 u_0<|o_p rfl (Zfy Tryz.underlying9 rfl rfl u_0)<|Qm rfl c_i<|o_n) (fun a g hst hb=>?_)
 obtain ⟨z6,hz1,H0⟩:=Zc H0
 refine Zb3 (fun a w=>∃ (g:G),w=g.w ∧ St 19 [] a g ∧ Base g0 g ∧ (.inr ())=z6) ?_ ?_
 ·rintro a w ⟨g,rfl,hst,hb,rfl⟩
  refine Zp ?_
  refine r_s (T:=[⟨[],_,[],[],[4]⟩]) (F:=[.p 0 0]) hst hb Za
   (Qa rfl c_b<|o_n) (fun a g hst hb=>?_)
  refine wp_ret ?_
  obtain rfl:=Option.some.inj H0
  exact Z4 rfl hst hb (Zg (s:=4)) (hst.at 0 rfl)
 ·refine wp_block ?_
  refine wp_loop_ghost (fun n a w=>∃ (x1:Int) (g:G),w=g.w ∧ St 19 [(1,(pInt .u8 a1)),(2,(Ze9.ptr a0)),(8,(pInt .i64 (a0.has.size:Int))),(9,(pInt .i64 x1))] a g ∧ Base g0 g ∧ Zjm a0 a1 n x1=some z6) (Int.toNat ((a0.has.size:Int) - (0:Int)) + 1) ⟨(0:Int),g,rfl,(hst.pick [0,1,2,3] rfl),hb,hz1⟩ (fun n a w hI=>?_)
  obtain ⟨x1,g,rfl,hst,hb,H1⟩:=hI
  cases n with
  | zero=>exact absurd H1 (by simp [Zjm])
  | succ n =>
   rw [Zjm] at H1
   refine r_s (T:=[⟨[.o 3,.o 2],_,[],[],[10]⟩]) (F:=[.o 0,.o 1,.o 2,.o 3,.p 0 0]) hst hb Za
    (o_p rfl (Zca rfl rfl u_0 u_1)<|o_n) (fun a g hst hb=>?_)
   refine wp_seq ?_
   refine wp_cond_split (hst.bool 4 rfl) (fun hc2=>?_) (fun hc2=>?_)
   ·replace H1:=Zu hc2 H1
    refine wp_skip ?_
    refine Zp ?_
    refine wp_seq ?_
    refine wp_block ?_
    refine r_s (L:=[(1,_),(2,_),(8,_),(9,_)]) (T:=[⟨[.o 3],_,[],[],[11]⟩,⟨[.p 0 0],_,[],[0],[5]⟩]) (F:=[.o 0,.o 1,.p 1 0,.o 2,.o 3]) (hst.pick [0,1,2,3] rfl) hb Za
     (Qm rfl u_0<|Qa rfl u_0<|o_n) (fun a g hst hb=>?_)
    obtain ⟨b3,h4,H1⟩:=Zc H1
    refine r_s (T:=[⟨[.o 1],_,[],[],[12]⟩,⟨[.p 0 0],_,[],[0],[13]⟩,⟨[.o 2],_,[],[],[14]⟩,⟨[.p 1 0,.p 2 0],_,[],[0,1,2],[15]⟩,⟨[.o 0],_,[],[],[16]⟩,⟨[.p 3 0,.p 4 0],_,[],Lr 5,[17]⟩]) (F:=[.o 0,.o 1,.o 3,.o 4,.p 5 0]) hst hb Za
     (Qf rfl Z15 u_0<|Ql rfl ty_9 u_0<|Qm rfl u_0<|o_p rfl (Zow Tryz.underlying9 rfl rfl u_0 u_1 h4)<|Qm rfl u_0<|o_p rfl (Zbt rfl rfl u_0 u_1)<|o_n) (fun a g hst hb=>?_)
    refine wp_cond_split (hst.bool 4 rfl) (fun hc5=>?_) (fun hc5=>?_)
    ·replace H1:=Zu hc5 H1
     refine r_s (L:=[]) (T:=[⟨[],_,[],[],[4]⟩]) (F:=[.p 0 0]) (hst.pick [] rfl) hb Za
      (Qa rfl c_b<|o_n) (fun a g hst hb=>?_)
     refine wp_ret ?_
     refine Z5 ?_
     refine Zo ?_
     refine Zo ?_
     refine Z5 ?_
     refine Zo ?_
     refine Zo ?_
     obtain rfl:=Option.some.inj H1
     obtain rfl:=Option.some.inj H0
     exact Z4 rfl hst hb (Zg (s:=4)) (hst.at 0 rfl)
    ·replace H1:=Zt hc5 H1
     refine wp_skip ?_
     refine Zbc ?_
     refine Zp ?_
     refine r_g (L:=[(1,_),(2,_),(8,_),(9,_)]) (T:=[⟨[.o 3],_,[],[],[18]⟩,⟨[.p 0 0],_,[],[0],[9]⟩]) (F:=[.o 0,.o 1,.o 2,.p 1 0]) (hst.pick [0,1,2,3] rfl) hb Za
      (o_p rfl (Zb0 rfl rfl u_0 c_i rfl)<|Qm rfl u_0<|o_n) (fun a g hst hb=>?_)
     exact ⟨n,Nat.lt_succ_self _,(IntKind.i64.wrap (x1 + (1:Int))),g,rfl,(hst.pick [0,1,2,3] rfl),hb,H1⟩
   ·replace H1:=Zt hc2 H1
    refine wp_exit ?_
    refine Zby ?_
    refine Zby ?_
    refine Zcb ?_
    exact ⟨g,rfl,(hst.pick [] rfl),hb,Option.some.inj H1⟩
theorem Z3o (a0:Zn) (a1:Zdv) {r:Bool} (h:Zsw a0 a1=some r):FnOk Tryz.prog 86 [(Z0.pd a0),(Ze9.pd a1)] (Zbf r):=by
 have H0:=h
 unfold Zsw at H0
 clear h
 refine Zbs (N:=40) Tryz.func86 rfl rfl (Qe rfl) rfl rfl (fun a g0 hst hb=>?_)
 refine r_s (T:=[⟨[.o 0],_,[],[],[2]⟩,⟨[.o 1],_,[],[],[3]⟩,⟨[],_,[],[],[4]⟩]) (F:=[.p 0 0,.p 1 0]) hst hb Za
  (Qb rfl u_0<|Qb rfl u_0<|Qa rfl c_b<|o_n) (fun a g hst hb=>?_)
 obtain ⟨r1,h2,H0⟩:=Zc H0;obtain ⟨r3,h4,H0⟩:=Zc H0;obtain ⟨r5,h6,H0⟩:=Zc H0;obtain ⟨r7,h8,H0⟩:=Zc H0;obtain ⟨r9,h10,H0⟩:=Zc H0;obtain ⟨r11,h12,H0⟩:=Zc H0
 refine r_s (T:=⟨[.o 1],_,[],[],[5]⟩ :: ⟨[.p 0 0],_,[],[0],[6]⟩ :: ⟨[.p 1 0],_,[],[0,1],[7]⟩ :: ⟨[.p 2 0,.o 0],_,[],[0,1,2],[8]⟩ :: ⟨[.p 2 0,.p 3 0],_,[],Lr 4,[9]⟩ :: ⟨[.p 2 0,.p 4 0],_,[],Lr 5,[10]⟩ :: ⟨[.p 2 0,.p 5 0],_,[],Lr 6,[11]⟩ :: ⟨[.p 6 0],_,[],Lr 7,[12]⟩ :: ⟨[.p 7 0,.o 1],_,[],Lr 8,[13]⟩ :: ⟨[.p 7 0,.p 8 0],_,[],Lr 9,[14]⟩ :: ⟨[.p 7 0,.p 9 0],_,[],Lr 10,[15]⟩ :: ⟨[.p 10 0,.o 0],_,[],Lr 11,[16]⟩ :: ⟨[.p 10 0,.p 11 0],_,[],Lr 12,[17]⟩ :: ⟨[.p 10 0,.p 12 0],_,[],Lr 13,[18]⟩ :: ⟨[.p 7 0,.p 10 0,.p 13 0],_,[],Lr 14,[19]⟩ :: ⟨[.p 7 0,.p 14 0],_,[],Lr 15,[20]⟩ :: ⟨[.p 15 0],_,[],Lr 16,[21]⟩ :: ⟨[.p 16 0,.o 1],_,[],Lr 17,[22]⟩ :: ⟨[.p 16 0,.p 17 0],_,[],Lr 18,[23]⟩ :: ⟨[.p 16 0,.p 18 0],_,[],Lr 19,[24]⟩ :: ⟨[.p 19 0,.o 0],_,[],Lr 20,[25]⟩ :: ⟨[.p 19 0,.p 20 0],_,[],Lr 21,[26]⟩ :: ⟨[.p 19 0,.p 21 0],_,[],Lr 22,[27]⟩ :: ⟨[.p 16 0,.p 19 0,.p 22 0],_,[],Lr 23,[28]⟩ :: ⟨[.p 16 0,.p 23 0],_,[],Lr 24,[29]⟩ :: ⟨[.p 24 0],_,[],Lr 25,[30]⟩ :: ⟨[.p 25 0,.o 1],_,[],Lr 26,[31]⟩ :: ⟨[.p 25 0,.p 26 0],_,[],Lr 27,[32]⟩ :: ⟨[.p 25 0,.p 27 0],_,[],Lr 28,[33]⟩ :: ⟨[.p 28 0,.o 0],_,[],Lr 29,[34]⟩ :: ⟨[.p 28 0,.p 29 0],_,[],Lr 30,[35]⟩ :: ⟨[.p 28 0],_,[],Lr 29,[36]⟩ :: ⟨[.p 28 0,.p 30 0,.p 31 0],_,[],Lr 32,[37]⟩ :: ⟨[.p 25 0,.p 28 0,.p 32 0],_,[],Lr 33,[38]⟩ :: ⟨[.p 25 0,.p 33 0],_,[],Lr 34,[39]⟩ :: ⟨[.p 34 0],_,[],Lr 35,[4]⟩ :: []) (F:=[.p 35 0]) hst hb Za
  (Ql rfl Zlv u_0<|o_p rfl (Zl Zx3 (Zk9 _ _ h2) rfl rfl (.cons u_0 (.cons c_i .nil)))<|Qm rfl u_0<|o_g (Qg_f rfl (fun hG=>Zi Zec rfl rfl u_0))<|o_g (Qg_f rfl (fun hG=>Zv ty_2 rfl rfl (Opd.gd hG u_0)))<|o_g (Qg_f rfl (fun hG=>Zbt rfl rfl (Opd.gd hG u_0) c_i))<|o_p rfl (Zbp rfl rfl u_0 (fun hz=>(Opd.gd (bNF hz) u_1)))<|Qm rfl u_0<|o_g (Qg_t rfl (fun hG=>Zv Zlv rfl rfl u_0))<|o_g (Qg_t rfl (fun hG=>Zl Zx3 (Zk9 _ _ (Zbn h4 hG)) rfl rfl (.cons (Opd.gd hG u_0) (.cons c_i .nil))))<|o_g (Qg_t rfl (fun hG=>Z6 rfl rfl (Opd.gd hG u_0)))<|o_g (Qg_fi rfl (fun hG=>Zi Zkc rfl rfl u_0))<|o_g (Qg_fi rfl (fun hG=>Zv Zc6 rfl rfl (Opd.gd hG u_0)))<|o_g (Qg_fi rfl (fun hG=>Zl Zux (Zl1 _ _ (Zbn h6 hG)) rfl rfl (.cons (Opd.gd hG u_0) (.cons c_f .nil))))<|o_g (Qg_t rfl (fun hG=>Zbp rfl rfl (Opd.gd hG u_0) (fun hz=>(Opd.gd (bA hG (bNF hz)) u_1))))<|o_p rfl (Zbk rfl rfl u_0 (fun hz=>(Opd.gd hz u_1)))<|Qm rfl u_0<|o_g (Qg_t rfl (fun hG=>Zv Zlv rfl rfl u_0))<|o_g (Qg_t rfl (fun hG=>Zl Zx3 (Zk9 _ _ (Zbn h8 hG)) rfl rfl (.cons (Opd.gd hG u_0) (.cons c_i .nil))))<|o_g (Qg_t rfl (fun hG=>Z6 rfl rfl (Opd.gd hG u_0)))<|o_g (Qg_fi rfl (fun hG=>Zi Zgc rfl rfl u_0))<|o_g (Qg_fi rfl (fun hG=>Zv ty_9 rfl rfl (Opd.gd hG u_0)))<|o_g (Qg_fi rfl (fun hG=>Zlf rfl rfl (Opd.gd hG u_0) c_s))<|o_g (Qg_t rfl (fun hG=>Zbp rfl rfl (Opd.gd hG u_0) (fun hz=>(Opd.gd (bA hG (bNF hz)) u_1))))<|o_p rfl (Zbk rfl rfl u_0 (fun hz=>(Opd.gd hz u_1)))<|Qm rfl u_0<|o_g (Qg_t rfl (fun hG=>Zv Zlv rfl rfl u_0))<|o_g (Qg_t rfl (fun hG=>Zl Zx3 (Zk9 _ _ (Zbn h10 hG)) rfl rfl (.cons (Opd.gd hG u_0) (.cons c_i .nil))))<|o_g (Qg_t rfl (fun hG=>Z6 rfl rfl (Opd.gd hG u_0)))<|o_g (Qg_fi rfl (fun hG=>Zi Zm2 rfl rfl u_0))<|o_g (Qg_fi rfl (fun hG=>Zv Zbe rfl rfl (Opd.gd hG u_0)))<|o_g (Qg_fi rfl (fun hG=>Zob rfl rfl ))<|o_g (Qg_fi rfl (fun hG=>Zl Z91 (Zv8 _ _ (Zbn h12 hG)) rfl rfl (.cons (Opd.gd hG u_0) (.cons (Opd.gd hG u_1) .nil))))<|o_g (Qg_t rfl (fun hG=>Zbp rfl rfl (Opd.gd hG u_0) (fun hz=>(Opd.gd (bA hG (bNF hz)) u_1))))<|o_p rfl (Zbk rfl rfl u_0 (fun hz=>(Opd.gd hz u_1)))<|Qa rfl u_0<|o_n) (fun a g hst hb=>?_)
 refine wp_ret ?_
 obtain rfl:=Option.some.inj H0
 exact Z4 rfl hst hb (Zg (s:=4)) (hst.at 0 rfl)
theorem Z3m (a0:Zdv) {r:Int} (h:Zsm a0=some r):FnOk Tryz.prog 87 [(Ze9.pd a0)] (pInt .i64 r):=by
 have H0:=h
 unfold Zsm at H0
 clear h
 refine Zbs (N:=6) Tryz.func87 rfl rfl (Qe rfl) rfl rfl (fun a g0 hst hb=>?_)
 refine r_s (T:=[⟨[.o 0],_,[],[],[1]⟩,⟨[],_,[],[],[2]⟩]) (F:=[.p 0 0]) hst hb Za
  (Qb rfl u_0<|Qa rfl c_i<|o_n) (fun a g hst hb=>?_)
 refine wp_seq ?_
 refine r_s (T:=[⟨[.o 0],_,[],[],[3]⟩,⟨[.p 0 0],_,[],[0],[4]⟩,⟨[.p 1 0],_,[],[0,1],[5]⟩]) (F:=[.p 2 0]) hst hb Za
  (Qf rfl Z1b u_0<|Ql rfl ty_3 u_0<|o_p rfl (Zbt rfl rfl u_0 c_i)<|o_n) (fun a g hst hb=>?_)
 refine wp_cond_split (hst.bool 0 rfl) (fun hc1=>?_) (fun hc1=>?_)
 ·replace H0:=Zu hc1 H0
  refine r_s (L:=[]) (T:=[⟨[],_,[],[],[2]⟩]) (F:=[.p 0 0]) (hst.pick [] rfl) hb Za
   (Qa rfl c_i<|o_n) (fun a g hst hb=>?_)
  refine wp_ret ?_
  refine Zo ?_
  obtain rfl:=Option.some.inj H0
  exact Z4 rfl hst hb (Zg (s:=2)) (hst.at 0 rfl)
 ·replace H0:=Zt hc1 H0
  refine wp_skip ?_
  refine Zp ?_
  refine r_s (L:=[]) (T:=[⟨[],_,[],[],[2]⟩]) (F:=[.p 0 0]) (hst.pick [] rfl) hb Za
   (Qa rfl c_i<|o_n) (fun a g hst hb=>?_)
  refine wp_ret ?_
  obtain rfl:=Option.some.inj H0
  exact Z4 rfl hst hb (Zg (s:=2)) (hst.at 0 rfl)
theorem Zup (a0:Zn) {r:Int} (h:Zf1 a0=some r):FnOk Tryz.prog 57 [(Z0.pd a0)] (pInt .i64 r):=by
 have H0:=h
 unfold Zf1 at H0
 clear h
 refine Zbs (N:=64) Tryz.func57 rfl rfl (Qe rfl) rfl rfl (fun a g0 hst hb=>?_)
 refine r_s (T:=[⟨[.o 0],_,[],[],[1]⟩,⟨[],_,[],[],[2]⟩]) (F:=[.p 0 0]) hst hb Za
  (Qb rfl u_0<|Qa rfl c_i<|o_n) (fun a g hst hb=>?_)
 obtain ⟨r1,h2,H0⟩:=Zc H0
 refine r_s (T:=[⟨[.o 0],_,[],[],[4]⟩,⟨[.p 0 0],_,[],[0],[5]⟩,⟨[.p 1 0],_,[],[0,1],[6]⟩,⟨[],[(3,(pBox Ze9 3 (default:Zdv)))],[4],[],[3]⟩,⟨[.p 2 0,.p 3 0],_,[4],Lr 4,[3]⟩]) (F:=[.o 0,.p 4 0]) hst hb Za
  (Qf rfl Zc4 u_0<|Ql rfl ty_3 u_0<|o_p rfl (Zl Z9d (Zzn _ h2) rfl rfl (.cons u_0 .nil))<|o_p rfl (Zbi (zs:=[.string ByteArray.empty,.int .i64 0,.string ByteArray.empty]) (by kernel_rfl) (fun g=>Zv6 g) rfl rfl)<|o_p rfl (Zb5 Zlv rfl rfl u_1 u_0)<|o_n) (fun a g hst hb=>?_)
 refine wp_seq ?_
 refine wp_block ?_
 refine r_s (T:=[⟨[.o 1],_,[],[],[8]⟩,⟨[.p 0 0],_,[],[0],[9]⟩,⟨[.p 1 0],_,[],[0,1],[10]⟩,⟨[.p 2 0],_,[],[0,1,2],[7]⟩]) (F:=[.o 0,.o 1,.p 3 0]) hst hb Za
  (Qf rfl Z9c u_0<|Ql rfl ty_9 u_0<|o_p rfl (Zlf rfl rfl u_0 c_s)<|Qa rfl u_0<|o_n) (fun a g hst hb=>?_)
 refine wp_cond_split (hst.bool 2 rfl) (fun hc3=>?_) (fun hc3=>?_)
 ·replace H0:=Zu hc3 H0
  refine r_s (L:=[]) (T:=[⟨[],_,[],[],[2]⟩]) (F:=[.p 0 0]) (hst.pick [] rfl) hb Za
   (Qa rfl c_i<|o_n) (fun a g hst hb=>?_)
  refine wp_ret ?_
  refine Z5 ?_
  refine Zo ?_
  obtain rfl:=Option.some.inj H0
  exact Z4 rfl hst hb (Zg (s:=2)) (hst.at 0 rfl)
 ·replace H0:=Zt hc3 H0
  refine r_s (L:=[(1,_),(3,_)]) (T:=[⟨[.o 0],_,[],[],[12]⟩,⟨[.p 0 0],_,[],[0],[13]⟩,⟨[.p 1 0],_,[],[0,1],[14]⟩,⟨[.p 2 0],_,[],[0,1,2],[15]⟩,⟨[.p 3 0,.o 0],_,[],Lr 4,[16]⟩,⟨[.p 3 0,.p 4 0],_,[],Lr 5,[17]⟩,⟨[.p 3 0,.p 5 0],_,[],Lr 6,[18]⟩,⟨[.p 3 0,.p 6 0],_,[],Lr 7,[19]⟩,⟨[.p 3 0,.p 7 0],_,[],Lr 8,[20]⟩,⟨[.p 8 0],_,[],Lr 9,[11]⟩]) (F:=[.o 0,.o 1,.p 9 0]) (hst.pick [0,1] rfl) hb Za
   (Qf rfl Zhk u_0<|Ql rfl ty_9 u_0<|o_p rfl (Zlf rfl rfl u_0 c_s)<|Qm rfl u_0<|o_g (Qg_f rfl (fun hG=>Zi Zhk rfl rfl u_0))<|o_g (Qg_f rfl (fun hG=>Zv ty_9 rfl rfl (Opd.gd hG u_0)))<|o_g (Qg_f rfl (fun hG=>Zfy Tryz.underlying9 rfl rfl (Opd.gd hG u_0)))<|o_g (Qg_f rfl (fun hG=>Zct rfl rfl (Opd.gd hG u_0) c_i))<|o_p rfl (Zbp rfl rfl u_0 (fun hz=>(Opd.gd (bNF hz) u_1)))<|Qa rfl u_0<|o_n) (fun a g hst hb=>?_)
  refine wp_cond_split (hst.bool 2 rfl) (fun hc4=>?_) (fun hc4=>?_)
  ·replace H0:=Zu hc4 H0
   refine r_s (L:=[]) (T:=[⟨[],_,[],[],[2]⟩]) (F:=[.p 0 0]) (hst.pick [] rfl) hb Za
    (Qa rfl c_i<|o_n) (fun a g hst hb=>?_)
   refine wp_ret ?_
   refine Z5 ?_
   refine Zo ?_
   obtain rfl:=Option.some.inj H0
   exact Z4 rfl hst hb (Zg (s:=2)) (hst.at 0 rfl)
  ·replace H0:=Zt hc4 H0
   obtain ⟨r5,h6,H0⟩:=Zc H0
   refine r_s (L:=[(1,_),(3,_)]) (T:=[⟨[.o 0],_,[],[],[22]⟩,⟨[.o 1],_,[],[],[23]⟩,⟨[.p 0 0,.p 1 0],_,[],[0,1],[24]⟩,⟨[.p 2 0],_,[],[0,1,2],[25]⟩,⟨[.p 3 0],_,[],Lr 4,[21]⟩]) (F:=[.o 0,.o 1,.p 4 0]) (hst.pick [0,1] rfl) hb Za
    (Ql rfl Zgw u_0<|Ql rfl Zlv u_0<|o_p rfl (Zl Zbev (Z3o _ _ h6) rfl rfl (.cons u_0 (.cons u_1 .nil)))<|Qn rfl u_0<|Qa rfl u_0<|o_n) (fun a g hst hb=>?_)
   refine wp_cond_split (hst.bool 2 rfl) (fun hc7=>?_) (fun hc7=>?_)
   ·replace H0:=Zu hc7 H0
    refine r_s (L:=[]) (T:=[⟨[],_,[],[],[2]⟩]) (F:=[.p 0 0]) (hst.pick [] rfl) hb Za
     (Qa rfl c_i<|o_n) (fun a g hst hb=>?_)
    refine wp_ret ?_
    refine Z5 ?_
    refine Zo ?_
    obtain rfl:=Option.some.inj H0
    exact Z4 rfl hst hb (Zg (s:=2)) (hst.at 0 rfl)
   ·replace H0:=Zt hc7 H0
    obtain ⟨r8,h9,H0⟩:=Zc H0
    refine r_s (L:=[(1,_),(3,_)]) (T:=[⟨[.o 0],_,[],[],[27]⟩,⟨[.p 0 0],_,[],[0],[28]⟩,⟨[.p 1 0],_,[],[0,1],[29]⟩,⟨[.o 1],_,[],[],[30]⟩,⟨[.p 3 0],_,[],[3],[31]⟩,⟨[.p 2 0,.p 4 0],_,[],Lr 5,[32]⟩,⟨[.p 5 0],_,[],Lr 6,[26]⟩]) (F:=[.o 0,.p 6 0]) (hst.pick [0,1] rfl) hb Za
     (Qf rfl Zgc u_0<|Ql rfl ty_9 u_0<|o_p rfl (Zfy Tryz.underlying9 rfl rfl u_0)<|Ql rfl Zlv u_0<|o_p rfl (Zl Zbeb (Z3m _ h9) rfl rfl (.cons u_0 .nil))<|o_p rfl (Zct rfl rfl u_0 u_1)<|Qa rfl u_0<|o_n) (fun a g hst hb=>?_)
    refine wp_cond_split (hst.bool 1 rfl) (fun hc10=>?_) (fun hc10=>?_)
    ·replace H0:=Zu hc10 H0
     refine r_s (L:=[]) (T:=[⟨[],_,[],[],[2]⟩]) (F:=[.p 0 0]) (hst.pick [] rfl) hb Za
      (Qa rfl c_i<|o_n) (fun a g hst hb=>?_)
     refine wp_ret ?_
     refine Z5 ?_
     refine Zo ?_
     obtain rfl:=Option.some.inj H0
     exact Z4 rfl hst hb (Zg (s:=2)) (hst.at 0 rfl)
    ·replace H0:=Zt hc10 H0
     refine r_s (L:=[(1,_)]) (T:=⟨[.o 0],_,[],[],[34]⟩ :: ⟨[.p 0 0],_,[],[0],[35]⟩ :: ⟨[.p 1 0],_,[],[0,1],[36]⟩ :: ⟨[.p 2 0],_,[],[0,1,2],[37]⟩ :: ⟨[.p 3 0,.o 0],_,[],Lr 4,[38]⟩ :: ⟨[.p 3 0,.p 4 0],_,[],Lr 5,[39]⟩ :: ⟨[.p 3 0,.p 5 0],_,[],Lr 6,[40]⟩ :: ⟨[.p 3 0,.p 6 0],_,[],Lr 7,[41]⟩ :: ⟨[.p 7 0],_,[],Lr 8,[42]⟩ :: ⟨[.p 8 0,.o 0],_,[],Lr 9,[43]⟩ :: ⟨[.p 8 0,.p 9 0],_,[],Lr 10,[44]⟩ :: ⟨[.p 8 0,.p 10 0],_,[],Lr 11,[45]⟩ :: ⟨[.p 8 0,.p 11 0],_,[],Lr 12,[46]⟩ :: ⟨[.p 12 0,.o 0],_,[],Lr 13,[47]⟩ :: ⟨[.p 12 0,.p 13 0],_,[],Lr 14,[48]⟩ :: ⟨[.p 12 0,.p 14 0],_,[],Lr 15,[49]⟩ :: ⟨[.p 8 0,.p 12 0,.p 15 0],_,[],Lr 16,[50]⟩ :: ⟨[.p 8 0,.p 16 0],_,[],Lr 17,[51]⟩ :: ⟨[.p 17 0],_,[],Lr 18,[33]⟩ :: []) (F:=[.o 0,.p 18 0]) (hst.pick [0] rfl) hb Za
      (Qf rfl Zc4 u_0<|Ql rfl ty_3 u_0<|o_p rfl (Zbt rfl rfl u_0 c_i)<|Qm rfl u_0<|o_g (Qg_f rfl (fun hG=>Zi Zc4 rfl rfl u_0))<|o_g (Qg_f rfl (fun hG=>Zv ty_3 rfl rfl (Opd.gd hG u_0)))<|o_g (Qg_f rfl (fun hG=>Zbt rfl rfl (Opd.gd hG u_0) c_i))<|o_p rfl (Zbp rfl rfl u_0 (fun hz=>(Opd.gd (bNF hz) u_1)))<|Qm rfl u_0<|o_g (Qg_t rfl (fun hG=>Zi Zec rfl rfl u_0))<|o_g (Qg_t rfl (fun hG=>Zv ty_2 rfl rfl (Opd.gd hG u_0)))<|o_g (Qg_t rfl (fun hG=>Zca rfl rfl (Opd.gd hG u_0) c_i))<|o_g (Qg_t rfl (fun hG=>Z6 rfl rfl (Opd.gd hG u_0)))<|o_g (Qg_fi rfl (fun hG=>Zi Zec rfl rfl u_0))<|o_g (Qg_fi rfl (fun hG=>Zv ty_2 rfl rfl (Opd.gd hG u_0)))<|o_g (Qg_fi rfl (fun hG=>Zct rfl rfl (Opd.gd hG u_0) c_i))<|o_g (Qg_t rfl (fun hG=>Zbp rfl rfl (Opd.gd hG u_0) (fun hz=>(Opd.gd (bA hG (bNF hz)) u_1))))<|o_p rfl (Zbk rfl rfl u_0 (fun hz=>(Opd.gd hz u_1)))<|Qa rfl u_0<|o_n) (fun a g hst hb=>?_)
     refine wp_cond_split (hst.bool 1 rfl) (fun hc11=>?_) (fun hc11=>?_)
     ·replace H0:=Zu hc11 H0
      refine r_s (L:=[]) (T:=[⟨[],_,[],[],[2]⟩]) (F:=[.p 0 0]) (hst.pick [] rfl) hb Za
       (Qa rfl c_i<|o_n) (fun a g hst hb=>?_)
      refine wp_ret ?_
      refine Z5 ?_
      refine Zo ?_
      obtain rfl:=Option.some.inj H0
      exact Z4 rfl hst hb (Zg (s:=2)) (hst.at 0 rfl)
     ·replace H0:=Zt hc11 H0
      obtain ⟨r12,h13,H0⟩:=Zc H0
      refine r_s (L:=[(1,_)]) (T:=[⟨[.o 0],_,[],[],[53]⟩,⟨[.p 0 0],_,[],[0],[54]⟩,⟨[.p 1 0],_,[],[0,1],[55]⟩,⟨[.p 2 0],_,[],[0,1,2],[56]⟩,⟨[.p 3 0],_,[],Lr 4,[52]⟩]) (F:=[.o 0,.p 4 0]) (hst.pick [0] rfl) hb Za
       (Qf rfl Zkc u_0<|Ql rfl Zc6 u_0<|o_p rfl (Zl Z5y (Zpy _ h13) rfl rfl (.cons u_0 .nil))<|Qn rfl u_0<|Qa rfl u_0<|o_n) (fun a g hst hb=>?_)
      refine wp_cond_split (hst.bool 1 rfl) (fun hc14=>?_) (fun hc14=>?_)
      ·replace H0:=Zu hc14 H0
       refine r_s (L:=[]) (T:=[⟨[],_,[],[],[2]⟩]) (F:=[.p 0 0]) (hst.pick [] rfl) hb Za
        (Qa rfl c_i<|o_n) (fun a g hst hb=>?_)
       refine wp_ret ?_
       refine Z5 ?_
       refine Zo ?_
       obtain rfl:=Option.some.inj H0
       exact Z4 rfl hst hb (Zg (s:=2)) (hst.at 0 rfl)
      ·replace H0:=Zt hc14 H0
       refine r_s (L:=[(1,_)]) (T:=[⟨[.o 0],_,[],[],[58]⟩,⟨[.p 0 0],_,[],[0],[59]⟩,⟨[.p 1 0],_,[],[0,1],[60]⟩,⟨[.p 2 0],_,[],[0,1,2],[57]⟩]) (F:=[.o 0,.p 3 0]) (hst.pick [0] rfl) hb Za
        (Qf rfl Zc4 u_0<|Ql rfl ty_3 u_0<|o_p rfl (Zbt rfl rfl u_0 c_i)<|Qa rfl u_0<|o_n) (fun a g hst hb=>?_)
       refine wp_cond_split (hst.bool 1 rfl) (fun hc15=>?_) (fun hc15=>?_)
       ·replace H0:=Zu hc15 H0
        obtain ⟨r16,h17,H0⟩:=Zc H0
        refine r_s (L:=[(1,_)]) (T:=[⟨[.o 0],_,[],[],[61]⟩,⟨[.p 0 0],_,[],[0],[62]⟩,⟨[.p 1 0],_,[],[0,1],[63]⟩,⟨[.p 2 0],_,[],[0,1,2],[2]⟩]) (F:=[.p 3 0]) (hst.pick [0] rfl) hb Za
         (Qf rfl Zm2 u_0<|Ql rfl Zbe u_0<|o_p rfl (Zl Z5q (Zqv _ h17) rfl rfl (.cons u_0 .nil))<|Qa rfl u_0<|o_n) (fun a g hst hb=>?_)
        refine wp_ret ?_
        refine Z5 ?_
        refine Zo ?_
        obtain rfl:=Option.some.inj H0
        exact Z4 rfl hst hb (Zg (s:=2)) (hst.at 0 rfl)
       ·replace H0:=Zt hc15 H0
        refine wp_skip ?_
        refine Zbc ?_
        refine Zp ?_
        refine r_s (L:=[]) (T:=[⟨[],_,[],[],[2]⟩]) (F:=[.p 0 0]) (hst.pick [] rfl) hb Za
         (Qa rfl c_i<|o_n) (fun a g hst hb=>?_)
        refine wp_ret ?_
        obtain rfl:=Option.some.inj H0
        exact Z4 rfl hst hb (Zg (s:=2)) (hst.at 0 rfl)
theorem Z0h (a0:Z9) {r:Int × Int} (h:Zgq a0=some r):FnOk Tryz.prog 36 [(Zbq.pd a0)] (pTup [(pInt .i64 r.1),(pInt .i64 r.2)]):=by
 have H0:=h
 unfold Zgq at H0
 clear h
 refine Zbs (N:=33) Tryz.func36 rfl rfl (Qe rfl) rfl rfl (fun a g0 hst hb=>?_)
 refine r_s (T:=[⟨[.o 0],_,[],[],[1]⟩,⟨[],_,[],[],[2]⟩,⟨[],_,[],[1],[3]⟩]) (F:=[.p 0 0]) hst hb Za
  (Qb rfl u_0<|Qa rfl c_i<|Qa rfl c_i<|o_n) (fun a g hst hb=>?_)
 refine wp_seq ?_
 refine r_s (T:=[⟨[.o 0],_,[],[],[7]⟩,⟨[.p 0 0],_,[],[0],[8]⟩,⟨[.p 1 0],_,[],[0,1],[9]⟩,⟨[.p 2 0],_,[],[0,1,2],[10]⟩,⟨[.p 3 0],_,[],Lr 4,[11]⟩,⟨[.p 4 0,.o 0],_,[],Lr 5,[12]⟩,⟨[.p 4 0,.p 5 0],_,[],Lr 6,[13]⟩,⟨[.p 4 0,.p 6 0],_,[],Lr 7,[14]⟩,⟨[.p 4 0,.p 7 0],_,[],Lr 8,[15]⟩,⟨[.p 4 0,.p 8 0],_,[],Lr 9,[16]⟩]) (F:=[.o 0,.p 9 0]) hst hb Za
  (Qf rfl Zgz u_0<|Ql rfl Zjw u_0<|o_p rfl (Zbx Tryz.underlying23 rfl rfl u_0)<|o_p rfl (Zbt rfl rfl u_0 c_i)<|Qm rfl u_0<|o_g (Qg_f rfl (fun hG=>Zi Zgz rfl rfl u_0))<|o_g (Qg_f rfl (fun hG=>Zv Zjw rfl rfl (Opd.gd hG u_0)))<|o_g (Qg_f rfl (fun hG=>Zbx Tryz.underlying23 rfl rfl (Opd.gd hG u_0)))<|o_g (Qg_f rfl (fun hG=>Zct rfl rfl (Opd.gd hG u_0) c_i))<|o_p rfl (Zbp rfl rfl u_0 (fun hz=>(Opd.gd (bNF hz) u_1)))<|o_n) (fun a g hst hb=>?_)
 refine wp_cond_split (hst.bool 1 rfl) (fun hc1=>?_) (fun hc1=>?_)
 ·replace H0:=Zu hc1 H0
  refine r_s (L:=[]) (T:=[⟨[],_,[],[],[2]⟩,⟨[],_,[],[0],[3]⟩]) (F:=[.p 0 0,.p 1 0]) (hst.pick [] rfl) hb Za
   (Qa rfl c_i<|Qa rfl c_i<|o_n) (fun a g hst hb=>?_)
  refine wp_ret ?_
  refine Zo ?_
  obtain rfl:=Option.some.inj H0
  exact Zdw rfl hst hb (Zg (s:=2)) (Zg (s:=3)) (Zcw (hst.at 0 rfl) (hst.at 1 rfl))
 ·replace H0:=Zt hc1 H0
  refine wp_skip ?_
  refine Zp ?_
  refine wp_seq ?_
  refine r_s (L:=[(1,_)]) (T:=[⟨[.o 0],_,[],[],[17]⟩,⟨[.p 0 0],_,[],[0],[18]⟩,⟨[.p 1 0],_,[],[0,1],[19]⟩,⟨[],_,[],[],[20]⟩]) (F:=[.p 1 0,.p 2 0,.p 3 0]) (hst.pick [0] rfl) hb Za
   (Qf rfl Zgz u_0<|Ql rfl Zjw u_0<|o_p rfl (Zbx Tryz.underlying23 rfl rfl u_0)<|Qm rfl c_i<|o_n) (fun a g hst hb=>?_)
  obtain ⟨z9,hz1,H0⟩:=Zc H0
  refine Zb3 (fun a w=>∃ (g:G),w=g.w ∧ St 33 [] a g ∧ Base g0 g ∧ (.inr ())=z9) ?_ ?_
  ·rintro a w ⟨g,rfl,hst,hb,rfl⟩
   refine Zp ?_
   refine r_s (T:=[⟨[],_,[],[],[2]⟩,⟨[],_,[],[0],[3]⟩]) (F:=[.p 0 0,.p 1 0]) hst hb Za
    (Qa rfl c_i<|Qa rfl c_i<|o_n) (fun a g hst hb=>?_)
   refine wp_ret ?_
   obtain rfl:=Option.some.inj H0
   exact Zdw rfl hst hb (Zg (s:=2)) (Zg (s:=3)) (Zcw (hst.at 0 rfl) (hst.at 1 rfl))
  ·refine wp_block ?_
   refine wp_loop_ghost (fun n a w=>∃ (x2:Int) (g:G),w=g.w ∧ St 33 [(18,(Z0.sl.pd a0.Acts)),(19,(pInt .i64 (a0.Acts.length:Int))),(20,(pInt .i64 x2))] a g ∧ Base g0 g ∧ Zgk a0 n x2=some z9) (Int.toNat ((a0.Acts.length:Int) - (0:Int)) + 1) ⟨(0:Int),g,rfl,(hst.pick [0,1,2] rfl),hb,hz1⟩ (fun n a w hI=>?_)
   obtain ⟨x2,g,rfl,hst,hb,H1⟩:=hI
   cases n with
   | zero=>exact absurd H1 (by simp [Zgk])
   | succ n =>
    rw [Zgk] at H1
    refine r_s (T:=[⟨[.o 2,.o 1],_,[],[],[21]⟩]) (F:=[.o 0,.o 1,.o 2,.p 0 0]) hst hb Za
     (o_p rfl (Zca rfl rfl u_0 u_1)<|o_n) (fun a g hst hb=>?_)
    refine wp_seq ?_
    refine wp_cond_split (hst.bool 3 rfl) (fun hc3=>?_) (fun hc3=>?_)
    ·replace H1:=Zu hc3 H1
     refine wp_skip ?_
     refine Zp ?_
     refine wp_seq ?_
     refine wp_block ?_
     obtain ⟨e4,h5,H1⟩:=Zc H1
     refine r_s (L:=[(18,_),(19,_),(20,_)]) (T:=[⟨[.o 2],_,[],[],[22]⟩,⟨[.o 0,.o 2],_,[],[],[23]⟩,⟨[.p 1 0],_,[],[1],[24]⟩,⟨[],[(5,(pBox Z0 5 (default:Zn)))],[6],[],[5]⟩,⟨[.p 0 0],_,[],Lr 4,[4]⟩,⟨[.p 2 0,.p 3 0],_,[6],Lr 5,[5]⟩]) (F:=[.p 4 0,.p 5 0,.o 0,.o 1,.o 2]) (hst.pick [0,1,2] rfl) hb Za
      (Qm rfl u_0<|o_p rfl (Zbl Tryz.underlying23 Znj rfl rfl u_0 u_1 h5)<|Ql rfl Zgw u_0<|o_p rfl (Zbi (zs:=[.int .i64 0,.string ByteArray.empty,.int .i64 0,.float .f64 0,.string ByteArray.empty,.int .i64 0,.int .i64 0,.int .i64 0,.int .i64 0,.float .f64 0,.int .i64 0,.string ByteArray.empty,.slice none 0 0,.bool false]) (by kernel_rfl) (fun g=>Zmt g) rfl rfl)<|Qa rfl u_0<|o_p rfl (Zb5 Zgw rfl rfl u_1 u_0)<|o_n) (fun a g hst hb=>?_)
     obtain ⟨r6,h7,H1⟩:=Zc H1
     refine r_s (T:=[⟨[.o 1],_,[],[],[25]⟩,⟨[.p 0 0],_,[],[0],[26]⟩,⟨[.p 1 0],_,[],[0,1],[6]⟩]) (F:=[.o 0,.p 2 0,.o 2,.o 3,.o 4]) hst hb Za
      (Ql rfl Zgw u_0<|o_p rfl (Zl Z9k (Zup _ h7) rfl rfl (.cons u_0 .nil))<|Qa rfl u_0<|o_n) (fun a g hst hb=>?_)
     refine r_s (T:=[⟨[.o 1],_,[],[],[27]⟩,⟨[.p 0 0],_,[],[0],[28]⟩]) (F:=[.o 0,.o 1,.o 2,.o 3,.o 4,.p 1 0]) hst hb Za
      (Qm rfl u_0<|o_p rfl (Zdn rfl rfl u_0 c_i)<|o_n) (fun a g hst hb=>?_)
     refine wp_cond_split (hst.bool 5 rfl) (fun hc8=>?_) (fun hc8=>?_)
     ·replace H1:=Zu hc8 H1
      refine r_s (L:=[(4,_),(6,_)]) (T:=[⟨[.o 1],_,[],[],[29]⟩,⟨[.o 0],_,[],[],[30]⟩,⟨[.p 1 0],_,[],[1],[31]⟩,⟨[.p 0 0],_,[],[0],[2]⟩,⟨[.p 2 0],_,[],Lr 4,[3]⟩]) (F:=[.p 3 0,.p 4 0]) (hst.pick [0,1] rfl) hb Za
       (Qm rfl u_0<|Qm rfl u_0<|o_p rfl (Zb0 rfl rfl u_0 c_i rfl)<|Qa rfl u_0<|Qa rfl u_0<|o_n) (fun a g hst hb=>?_)
      refine wp_ret ?_
      refine Z5 ?_
      refine Zo ?_
      refine Zo ?_
      refine Z5 ?_
      refine Zo ?_
      refine Zo ?_
      obtain rfl:=Option.some.inj H1
      obtain rfl:=Option.some.inj H0
      exact Zdw rfl hst hb (Zg (s:=2)) (Zg (s:=3)) (Zcw (hst.at 0 rfl) (hst.at 1 rfl))
     ·replace H1:=Zt hc8 H1
      refine wp_skip ?_
      refine Zbc ?_
      refine Zp ?_
      refine r_g (L:=[(18,_),(19,_),(20,_)]) (T:=[⟨[.o 2],_,[],[],[32]⟩,⟨[.p 0 0],_,[],[0],[20]⟩]) (F:=[.o 0,.o 1,.p 1 0]) (hst.pick [2,3,4] rfl) hb Za
       (o_p rfl (Zb0 rfl rfl u_0 c_i rfl)<|Qm rfl u_0<|o_n) (fun a g hst hb=>?_)
      exact ⟨n,Nat.lt_succ_self _,(IntKind.i64.wrap (x2 + (1:Int))),g,rfl,(hst.pick [0,1,2] rfl),hb,H1⟩
    ·replace H1:=Zt hc3 H1
     refine wp_exit ?_
     refine Zby ?_
     refine Zby ?_
     refine Zcb ?_
     exact ⟨g,rfl,(hst.pick [] rfl),hb,Option.some.inj H1⟩
theorem Zo4 (a0:Z9) (a1:Zk) (a2:List ByteArray) {r:Zw} (h:Zme a0 a1 a2=some r):Z20 Tryz.prog 12 [(Zbq.pd a0),(Zy.pd a1),(Kd.str.sl.pd a2)] Zb4 r:=by
 have H0:=h
 unfold Zme at H0
 clear h
 refine Z63 (N:=34) Tryz.func12 rfl rfl (Qe rfl) rfl (fun a g0 h0 hst hb=>?_)
 refine r_s (T:=[⟨[.o 0],_,[],[],[3]⟩,⟨[.o 1],_,[],[],[4]⟩,⟨[],_,[],[],[6]⟩]) (F:=[.o 2,.p 0 0,.p 1 0]) hst hb Za
  (Qb rfl u_0<|Qb rfl u_0<|o_p rfl (Z2i (.inr rfl))<|o_n) (fun a g hst hb=>?_)
 obtain ⟨r1,h2,H0⟩:=Zc H0;obtain ⟨r3,h4,H0⟩:=Zc H0
 refine wp_seq ?_
 refine r_g (T:=[⟨[.o 1],_,[],[],[10]⟩,⟨[.p 0 0],_,[],[0],[11]⟩,⟨[.o 0],_,[],[],[12]⟩,⟨[.p 2 0],_,[],[0,1,2],[13]⟩,⟨[.o 2],_,[],[],[14]⟩,⟨[.p 1 0,.p 3 0,.p 4 0],[(15,(Zbr.pd (Zce ({ d:=r1,split:=r3,now:=a1,out:=(default:Zs),over:=false }:Zw) (none,0,0))))],[],Lr 5,[15]⟩,⟨[.p 5 0],[(16,(Zo7 none Zbr Zce (hpL (pRow Zj 68 516 (Zdt ({ d:=r1,split:=r3,now:=a1,out:=(default:Zs),over:=false }:Zw)))) 16 ({ d:=r1,split:=r3,now:=a1,out:=(default:Zs),over:=false }:Zw)))],[17],Lr 6,[16]⟩,⟨[.p 6 0],_,[],Lr 7,[7]⟩]) (F:=[.o 1,.p 7 0]) hst hb Za
  (Ql rfl Zka u_0<|o_p rfl (Zl Z92 (Ztc _ h2) rfl rfl (.cons u_0 .nil))<|Qm rfl u_0<|o_p rfl (Zl Zbfn (Zog _ h4) rfl rfl (.cons u_0 .nil))<|Ql rfl Zbv u_0<|o_p rfl (Z11 rfl rfl u_0 u_1 u_2)<|o_p rfl (Zbao (s0:=(none,0,0)) (fun g=>Zqn 516 g) rfl rfl u_0)<|Qa rfl u_0<|o_n) (fun a g hst hb=>?_)
 obtain ⟨b0,hst⟩:=Z6k (i:=1) (s:=7) (m:=1002) rfl hst
 replace hst:St 34 [(3,(Zbq.ptr a0)),(7,(pEq (ptrB b0 0))),(1002,(pSJ Zbr Zce (hpL (pRow Zj 68 516 (Zdt ({ d:=r1,split:=r3,now:=a1,out:=(default:Zs),over:=false }:Zw)))) 16 b0 ({ d:=r1,split:=r3,now:=a1,out:=(default:Zs),over:=false }:Zw)))] a g:=hst
 refine Zp ?_
 refine wp_seq ?_
 obtain ⟨r5,h6,H0⟩:=Zc H0
 refine r_s (T:=[⟨[.o 0],_,[],[],[18]⟩,⟨[.p 0 0],_,[],[0],[19]⟩,⟨[.p 1 0],_,[],[0,1],[17]⟩,⟨[.p 2 0],_,[],[0,1,2],[20]⟩,⟨[.p 2 0],_,[],[0,1,2],[21]⟩,⟨[.p 3 0],_,[],Lr 4,[8]⟩,⟨[.p 4 0],_,[],Lr 6,[9]⟩]) (F:=[.o 1,.p 5 0,.p 6 0,.o 2]) hst hb Za
  (Ql rfl Zka u_0<|o_p rfl (Zl Zbeq (Z0h _ h6) rfl rfl (.cons u_0 .nil))<|Qm rfl u_0<|o_p rfl (Zz rfl rfl u_0 rfl)<|o_p rfl (Zz rfl rfl u_0 rfl)<|Qa rfl u_0<|Qa rfl u_0<|o_n) (fun a g hst hb=>?_)
 refine r_s (T:=[⟨[.o 1],_,[],[],[22]⟩,⟨[.p 0 0],_,[],[0],[23]⟩]) (F:=[.o 0,.o 1,.o 2,.p 1 0,.o 3]) hst hb Za
  (Qm rfl u_0<|o_p rfl (Zdn rfl rfl u_0 c_i)<|o_n) (fun a g hst hb=>?_)
 refine Zb3 (fun a w=>∃ (j8:Zw) (g:G),w=g.w ∧ St 34 [(7,(pEq (ptrB b0 0))),(1002,(pSJ Zbr Zce (hpL (pRow Zj 68 516 (Zdt j8))) 16 b0 j8))] a g ∧ Base g0 g ∧ Zo1 j8=some r) ?_ ?_
 ·rintro a w ⟨j8,g,rfl,hst,hb,H0⟩
  unfold Zo1 at H0
  refine Zp ?_
  refine r_s (T:=[⟨[.o 0],_,[],[],[33]⟩,⟨[.p 0 0],_,[],[0],[6]⟩]) (F:=[.p 1 0,.o 1]) hst hb Za
   (Qm rfl u_0<|Qa rfl u_0<|o_n) (fun a g hst hb=>?_)
  refine wp_ret ?_
  obtain rfl:=Option.some.inj H0
  exact Zbfa rfl hst hb (Zg (s:=6)) (hst.at 0 rfl) (by decide) (hst.at 1 rfl)
 ·refine wp_cond_split (hst.bool 3 rfl) (fun hc7=>?_) (fun hc7=>?_)
  ·replace H0:=Zu hc7 H0
   refine r_g (L:=[(7,_),(8,_),(9,_),(1002,_)]) (T:=[⟨[.o 0],_,[],[],[24]⟩,⟨[.o 0],_,[],[],[25]⟩,⟨[.o 1],_,[],[],[26]⟩,⟨[.o 2],_,[],[],[27]⟩,⟨[.p 2 0,.p 3 0],[(28,(Zb7.pd (Zcd ({ Code:=r5.1,At:=r5.2,Answers:=([]:List Zd) }:Zs) (none,0,0))))],[],[2,3],[28]⟩,⟨[.p 0 0],_,[],[0,2,3,4],[29]⟩,⟨[.p 5 0],_,[],[0,2,3,4,5],[30]⟩,⟨[.p 6 0,.p 4 0,.o 3],[(1002,(pSJ Zbr Zce (hpL (pRow Zj 68 516 (Zdt ({ ({ d:=r1,split:=r3,now:=a1,out:=(default:Zs),over:=false }:Zw) with out:=({ Code:=r5.1,At:=r5.2,Answers:=([]:List Zd) }:Zs) }:Zw)))) 16 b0 ({ ({ d:=r1,split:=r3,now:=a1,out:=(default:Zs),over:=false }:Zw) with out:=({ Code:=r5.1,At:=r5.2,Answers:=([]:List Zd) }:Zs) }:Zw)))],[17],[0,2,3,4,5,6],[1002]⟩,⟨[.p 1 0],_,[],Lr 8,[31]⟩,⟨[.p 8 0],_,[],Lr 9,[32]⟩,⟨[.p 9 0,.p 7 0],[(1002,(pSJ Zbr Zce (hpL (pRow Zj 68 516 (Zdt ({ ({ ({ d:=r1,split:=r3,now:=a1,out:=(default:Zs),over:=false }:Zw) with out:=({ Code:=r5.1,At:=r5.2,Answers:=([]:List Zd) }:Zs) }:Zw) with over:=true }:Zw)))) 16 b0 ({ ({ ({ d:=r1,split:=r3,now:=a1,out:=(default:Zs),over:=false }:Zw) with out:=({ Code:=r5.1,At:=r5.2,Answers:=([]:List Zd) }:Zs) }:Zw) with over:=true }:Zw)))],[17],Lr 10,[1002]⟩]) (F:=[.o 0,.p 10 0]) (hst.pick [0,1,2,4] rfl) hb Za
    (Qm rfl u_0<|Qm rfl u_0<|Qm rfl u_0<|Qm rfl u_0<|o_p rfl (Zw6 rfl rfl u_0 u_1)<|o_p rfl (Zq rfl rfl u_0 (fun _ _ h=>⟨_,h⟩))<|o_p rfl (Zcg Zov rfl rfl u_0)<|o_p rfl (Zl4 Z7r rfl rfl (fun k hk=>by rw [List.mem_singleton.1 hk];decide) u_2 u_0 u_1 (fun g g' cs s0 ys h hr hy=>⟨(none,0,0),Z6e h hy,Zqn 516 g'⟩))<|o_p rfl (Zq rfl rfl u_0 (fun _ _ h=>⟨_,h⟩))<|o_p rfl (Zcg Zoz rfl rfl u_0)<|o_p rfl (Zl4 ty_4 rfl rfl (fun k hk=>by rw [List.mem_singleton.1 hk];decide) u_1 u_0 c_b (fun g g' cs s0 ys h hr hy=>⟨s0,wp_4 h hy,hr⟩))<|o_n) (fun a g hst hb=>?_)
   exact ⟨({ ({ ({ d:=r1,split:=r3,now:=a1,out:=(default:Zs),over:=false }:Zw) with out:=({ Code:=r5.1,At:=r5.2,Answers:=([]:List Zd) }:Zs) }:Zw) with over:=true }:Zw),g,rfl,(hst.pick [0,1] rfl),hb,H0⟩
  ·replace H0:=Zt hc7 H0
   refine wp_skip ?_
   exact ⟨({ d:=r1,split:=r3,now:=a1,out:=(default:Zs),over:=false }:Zw),g,rfl,(hst.pick [0,4] rfl),hb,H0⟩
theorem Zlm (a0:(List Zd)) {r:(List Zd)} (h:Zfc a0=some r):Zrt Tryz.prog 58 [(Zj.sl.pd a0)] Zj 68 r:=by
 unfold Zfc at h
 obtain ⟨hsz,H0⟩:=Zfv h
 obtain rfl:=Option.some.inj H0
 refine Zso (N:=8) Tryz.func58 rfl rfl (Qe rfl) rfl (fun a g0 h0 hst hb=>?_)
 refine r_s (T:=[⟨[],[(2,(Zj.sl.pd []))],[],[],[2]⟩]) (F:=[.o 0]) hst hb Za
  (o_p rfl (Zcu rfl rfl (Opd.c (fun g=>Zf4 g)))<|o_n) (fun a g hst hb=>?_)
 refine wp_seq ?_
 refine r_s (T:=[⟨[.o 0],_,[],[],[3]⟩,⟨[.p 0 0],_,[],[0],[4]⟩]) (F:=[.o 0,.p 1 0]) hst hb Za
  (Qm rfl u_0<|o_p rfl (Zrq Tryz.underlying47 rfl rfl u_0)<|o_n) (fun a g hst hb=>?_)
 obtain ⟨c,hc,hc'⟩:=hst.at 1 rfl
 refine wp_cond_split hc (fun ht=>?_) (fun hf=>?_)
 ·obtain rfl:=hc' ht
  refine r_s (L:=[]) (T:=[⟨[],[(2,(pEq (.slice none 0 0)))],[],[],[2]⟩]) (F:=[.p 0 0]) (hst.pick [] rfl) hb Za
   (o_p rfl (Zcu rfl rfl (Opd.c (fun g=>rfl)))<|o_n) (fun a g hst hb=>?_)
  refine wp_ret ?_
  refine Zo ?_
  exact Zrj rfl hst hb (Zg (s:=2)) ⟨none,hst.at 0 rfl⟩
 ·refine wp_skip ?_
  refine Zp ?_
  refine r_s (L:=[(0,_)]) (T:=[⟨[],[(5,(pOwn Zj 68 5 (some 0) (([]:(List Zd)).map some)))],[6],[],[5]⟩,⟨[.o 0],_,[],[],[6]⟩,⟨[.p 0 0,.p 1 0],_,[6],[0,1],[5,7]⟩,⟨[.p 2 0],_,[],[0,1,2],[2]⟩]) (F:=[.p 3 0]) (hst.pick [0] rfl) hb Za
   (o_p rfl (Ztz (ty:=0) Zs7 rfl rfl)<|Qm rfl u_0<|o_p rfl (Zp4 Zs7 rfl rfl u_0 u_1 (by simpa using hsz))<|Qa rfl u_0<|o_n) (fun a g hst hb=>?_)
  refine wp_ret ?_
  exact Zwb rfl h0 hst hb (Zg (s:=2)) (hst.at 0 rfl)
theorem Z2x (a0:Zs) {r:Zs} (h:Zpm a0=some r):FnOk Tryz.prog 37 [(Zbo.pd a0)] (Zbo.pd r):=by
 unfold Zpm at h
 obtain ⟨⟨hsz,hall⟩,H0⟩:=Zfv h
 obtain rfl:=Option.some.inj H0
 have hcl:Zfc a0.Answers=some a0.Answers:=by unfold Zfc;rw [if_pos hsz]
 have hrc:∀ e ∈ a0.Answers,Ze4 e.Rec=some e.Rec:=fun e he=>by
  have:=List.all_eq_true.1 hall e he
  unfold Ze4 Zbz
  rw [if_pos (of_decide_eq_true this)]
  rfl
 have hmx:a0.Answers.length ≤ 140737488355328:=Nat.le_trans (Nat.le_mul_of_pos_right _ (by decide)) hsz
 refine Zbs (N:=28) Tryz.func37 rfl rfl (Qe rfl) rfl rfl (fun a g0 hst hb=>?_)
 refine r_s (T:=[⟨[.o 0],[(1,(pBox Zbo 1 a0))],[2],[],[1]⟩,⟨[],[(2,(pBox Zbo 2 (default:Zs)))],[3],[],[2]⟩]) (F:=[.p 0 0,.p 1 0]) hst hb Za
  (o_p rfl (Zkb (j:=1) rfl rfl u_0)<|o_p rfl (Zbi (zs:=[.int .i64 0,.int .i64 0,.slice none 0 0]) (by kernel_rfl) (fun g=>Zjd g) rfl rfl)<|o_n) (fun a g hst hb=>?_)
 refine r_s (T:=[⟨[.o 0],_,[],[],[4]⟩,⟨[.p 0 0],_,[],[0],[5]⟩,⟨[.p 1 0],[(6,(pArr Zj 68 6 a0.Answers))],[7],[0,1],[6]⟩,⟨[.o 0],_,[],[0,1,2],[7]⟩,⟨[.o 0,.p 3 0,.p 2 0],[(1,(pBxO Zb7 Zcd (fun x:Zs=>x.Answers) Zj 68 1 6 a0))],[2],[0,1,2,3],[1,4,7]⟩]) (F:=[.p 4 0,.o 1]) hst hb Za
  (o_p rfl (Zr Zn0 (off:=2) (by kernel_rfl) rfl rfl u_0)<|QP rfl Zs9 u_0<|o_p rfl (Zmg (j:=6) Zbfk (Zlm _ hcl) rfl rfl (.cons u_0 .nil))<|o_p rfl (Zr Zn0 (off:=2) (by kernel_rfl) rfl rfl u_0)<|o_p rfl (Zy7 Zx6 Zql rfl rfl (by decide) u_0 u_1 u_2 (fun g cs s0 s1 ys h k=>Zxr h k))<|o_n) (fun a g hst hb=>?_)
 refine wp_seq ?_
 refine r_s (T:=[⟨[.o 0],_,[],[],[8]⟩,⟨[.p 0 0],_,[],[0],[9]⟩,⟨[.p 1 0],_,[],[0,1],[10]⟩,⟨[],_,[],[],[11]⟩]) (F:=[.o 0,.o 1,.p 2 0,.p 3 0]) hst hb Za
  (o_p rfl (Znq Zwq (off:=2) (by kernel_rfl) (fun _=>rfl) rfl rfl u_0)<|o_p rfl (Zon Zql rfl rfl u_0)<|o_p rfl (Z4d Tryz.underlying47 rfl rfl u_0)<|Qm rfl c_i<|o_n) (fun a g hst hb=>?_)
 refine Zb3 (fun a w=>∃ (g:G),w=g.w ∧ St 28 [(1,(pBxO Zb7 Zcd (fun x:Zs=>x.Answers) Zj 68 1 6 a0)),(2,(pBox Zbo 2 (default:Zs)))] a g ∧ Base g0 g) ?_ ?_
 ·rintro a w ⟨g,rfl,hst,hb⟩
  refine Zp ?_
  refine r_s (T:=[⟨[.o 0],[(27,(Zbo.pd a0))],[7],[],[27,1]⟩,⟨[.o 1,.p 0 0],_,[3],[0],[2]⟩]) (F:=[.p 1 0]) hst hb Za
   (o_p rfl (Zvy Zym rfl Zbc1 rfl rfl u_0)<|o_p rfl (Z3 Zh4 rfl rfl u_0 u_1)<|o_n) (fun a g hst hb=>?_)
  refine wp_ret ?_
  obtain ⟨u0,hu0,hq0⟩:=Zbh (P:=Tryz.prog) Zh4 (hst.at 0 rfl)
  exact Z4 rfl hst hb hu0 hq0
 ·refine wp_block ?_
  refine wp_loop_ghost (fun n a w=>∃ (i:Nat) (g:G),w=g.w ∧ St 28 [(1,(pBxO Zb7 Zcd (fun x:Zs=>x.Answers) Zj 68 1 6 a0)),(2,(pBox Zbo 2 (default:Zs))),(10,(pInt .i64 (a0.Answers.length:Int))),(11,(pInt .i64 (i:Int)))] a g ∧ Base g0 g ∧ i ≤ a0.Answers.length ∧ n=a0.Answers.length - i) a0.Answers.length ⟨0,g,rfl,hst,hb,Nat.zero_le _,rfl⟩ (fun n a w hI=>?_)
  obtain ⟨i,g,rfl,hst,hb,hi,rfl⟩:=hI
  refine r_s (T:=[⟨[.o 3,.o 2],_,[],[],[12]⟩]) (F:=[.o 0,.o 1,.o 2,.o 3,.p 0 0]) hst hb Za
   (o_p rfl (Zca rfl rfl u_0 u_1)<|o_n) (fun a g hst hb=>?_)
  refine wp_seq ?_
  refine wp_cond_split (hst.bool 4 rfl) (fun hc=>?_) (fun hc=>?_)
  ·have hlt:i < a0.Answers.length:=by have:=of_decide_eq_true hc;omega
   have hx:idx a0.Answers (i:Int)=some a0.Answers[i]:=Z4o (List.getElem?_eq_getElem hlt)
   refine wp_skip ?_
   refine Zp ?_
   refine wp_seq ?_
   refine wp_block ?_
   refine r_s (L:=[(1,_),(2,_),(10,_),(11,_)]) (T:=[⟨[.o 3],_,[],[],[13]⟩,⟨[.p 0 0],_,[],[0],[3]⟩]) (F:=[.o 0,.o 1,.p 1 0,.o 2,.o 3]) (hst.pick [0,1,2,3] rfl) hb Za
    (Qm rfl u_0<|Qa rfl u_0<|o_n) (fun a g hst hb=>?_)
   refine r_g (T:=[⟨[.o 0],_,[],[],[14]⟩,⟨[.p 0 0],_,[],[0],[15]⟩,⟨[.o 2],_,[],[],[16]⟩,⟨[.o 0],_,[],[],[17]⟩,⟨[.p 3 0],_,[],[3],[18]⟩,⟨[.o 2],_,[],[],[19]⟩,⟨[.p 4 0,.p 5 0],_,[],[3,4,5],[20]⟩,⟨[.p 6 0],_,[],[3,4,5,6],[21]⟩,⟨[.p 7 0],_,[],[3,4,5,6,7],[22]⟩,⟨[.p 8 0],_,[],[3,4,5,6,7,8],[23]⟩,⟨[.p 1 0,.p 2 0],_,[],[0,1,2,3,4,5,6,7,8,9],[24]⟩,⟨[.p 10 0],_,[],[0,1,2,3,4,5,6,7,8,9,10],[25]⟩,⟨[.o 0,.p 11 0,.p 9 0],[(1,(pBxO Zb7 Zcd (fun x:Zs=>x.Answers) Zj 68 1 6 a0))],[7],[0,1,2,3,4,5,6,7,8,9,10,11],[1,14,15,17,18,20,21,24,25]⟩]) (F:=[.p 12 0,.o 1,.o 3,.o 4]) hst hb Za
    (o_p rfl (Znq Zwq (off:=2) (by kernel_rfl) (fun _=>rfl) rfl rfl u_0)<|o_p rfl (Zon Zql rfl rfl u_0)<|Qm rfl u_0<|o_p rfl (Znq Zwq (off:=2) (by kernel_rfl) (fun _=>rfl) rfl rfl u_0)<|o_p rfl (Zon Zql rfl rfl u_0)<|Qm rfl u_0<|o_p rfl (Zre Tryz.underlying47 Z0u rfl rfl u_0 u_1 hx)<|o_p rfl (Zp5 Zp8 (off2:=2) (by kernel_rfl) (by decide) rfl rfl u_0)<|o_p rfl (Zzw Zbe rfl rfl u_0)<|o_p rfl (Zl Zo2 (Zg4 _ (hrc _ (List.getElem_mem hlt))) rfl rfl (.cons u_0 .nil))<|o_p rfl (Zre Tryz.underlying47 Z0u rfl rfl u_0 u_1 hx)<|o_p rfl (Zp5 Zp8 (off2:=2) (by kernel_rfl) (by decide) rfl rfl u_0)<|o_p rfl (Zv7 (u:=a0.Answers[i]) (u':=a0.Answers[i]) (x':=a0) Zbe rfl rfl (by decide) u_0 u_1 u_2 (Z4a hx) (by decide) (by rw [Int.toNat_natCast];exact (List.set_getElem_self hlt).symm) (fun _=>rfl) (Zws _))<|o_n) (fun a g hst hb=>?_)
   refine Zbc ?_
   refine Zp ?_
   refine r_g (T:=[⟨[.o 3],_,[],[],[26]⟩,⟨[.p 0 0],_,[],[0],[11]⟩]) (F:=[.o 0,.o 1,.o 2,.p 1 0]) hst hb Za
    (o_p rfl (Zb0 rfl rfl u_0 c_i (Zzy hlt (by omega)))<|Qm rfl u_0<|o_n) (fun a g hst hb=>?_)
   exact ⟨a0.Answers.length - (i + 1),by omega,i + 1,g,rfl,hst,hb,by omega,rfl⟩
  ·refine wp_exit ?_
   refine Zby ?_
   refine Zby ?_
   refine Zcb ?_
   exact ⟨g,rfl,hst.pick [0,1] rfl,hb⟩
theorem Zl9 (a0:Zw) {r:Zs × Bool} (h:Zha a0=some r):FnMR Tryz.prog 14 Zb4 a0 a0 [] (pTup [(Zbo.pd r.1),(Zbf r.2)]):=by
 have H0:=h
 unfold Zha at H0
 clear h
 refine Zu8 (N:=15) Tryz.func14 rfl rfl (Qe rfl) rfl rfl (fun a g0 b0 hst hb=>?_)
 replace hst:St 15 [(0,(pEq (ptrB b0 0))),(1002,(pSJ Zbr Zce (hpL (pRow Zj 68 1000000 (Zdt a0))) 0 b0 a0))] _ _:=Zs2 hst
 refine r_s (T:=[⟨[],[(2,(pBox Zbo 2 (default:Zs)))],[3],[],[2]⟩,⟨[],_,[],[],[3]⟩]) (F:=[.o 0,.p 0 0,.o 1]) hst hb Za
  (o_p rfl (Zbi (zs:=[.int .i64 0,.int .i64 0,.slice none 0 0]) (by kernel_rfl) (fun g=>Zjd g) rfl rfl)<|Qa rfl c_b<|o_n) (fun a g hst hb=>?_)
 refine wp_seq ?_
 refine r_s (T:=[⟨[.o 0],_,[],[],[4]⟩,⟨[.p 0 0],_,[],[0],[5]⟩,⟨[.p 1 0],_,[],[0,1],[6]⟩,⟨[.p 2 0,.o 2],_,[],[0,1,2],[7]⟩,⟨[.p 3 0],_,[],Lr 4,[8]⟩]) (F:=[.o 0,.o 1,.p 4 0,.o 2]) hst hb Za
  (Qm rfl u_0<|o_p rfl (Zq rfl rfl u_0 (fun _ _ h=>⟨_,h⟩))<|o_p rfl (Zcg Zoz rfl rfl u_0)<|o_p rfl (Zga (u:=a0.over) ty_4 (fun g s cs h _=>kp_4 h) rfl rfl u_1 u_0)<|Qn rfl u_0<|o_n) (fun a g hst hb=>?_)
 refine wp_cond_split (hst.bool 2 rfl) (fun hc1=>?_) (fun hc1=>?_)
 ·replace H0:=Zu hc1 H0
  refine r_s (L:=[(0,_),(2,_),(1002,_)]) (T:=[⟨[],_,[],[],[9]⟩,⟨[.p 0 0,.o 1],_,[3],[0],[2]⟩,⟨[],_,[],[0,1],[3]⟩]) (F:=[.o 0,.p 1 0,.p 2 0,.o 2]) (hst.pick [0,1,3] rfl) hb Za
   (o_p rfl (Z7e rfl rfl )<|o_p rfl (Z3 Zh4 rfl rfl u_1 u_0)<|Qa rfl c_b<|o_n) (fun a g hst hb=>?_)
  refine wp_ret ?_
  refine Zo ?_
  obtain rfl:=Option.some.inj H0
  obtain ⟨u0,hu0,hq0⟩:=Zbh (P:=Tryz.prog) Zh4 (hst.at 1 rfl)
  exact Zwy rfl hst hb hu0 (Zg (s:=3)) (Zcw hq0 (hst.at 2 rfl)) (hst.at 3 rfl)
 ·replace H0:=Zt hc1 H0
  refine wp_skip ?_
  refine Zp ?_
  obtain ⟨r2,h3,H0⟩:=Zc H0
  refine r_s (L:=[(0,_),(2,_),(1002,_)]) (T:=[⟨[.o 0],_,[],[],[10]⟩,⟨[.p 0 0],_,[],[0],[11]⟩,⟨[.p 1 0],_,[],[0,1],[12]⟩,⟨[.p 2 0,.o 2],_,[],[0,1,2],[13]⟩,⟨[.p 3 0],_,[],Lr 4,[14]⟩,⟨[.p 4 0,.o 1],_,[3],Lr 5,[2]⟩,⟨[],_,[],Lr 6,[3]⟩]) (F:=[.o 0,.p 5 0,.p 6 0,.o 2]) (hst.pick [0,1,3] rfl) hb Za
   (Qm rfl u_0<|o_p rfl (Zq rfl rfl u_0 (fun _ _ h=>⟨_,h⟩))<|o_p rfl (Zcg Zov rfl rfl u_0)<|o_p rfl (Zga (u:=a0.out) Zh4 (fun g s cs h hr=>Zbdu h hr) rfl rfl u_1 u_0)<|o_p rfl (Zl Zbfe (Z2x _ h3) rfl rfl (.cons u_0 .nil))<|o_p rfl (Z3 Zh4 rfl rfl u_1 u_0)<|Qa rfl c_b<|o_n) (fun a g hst hb=>?_)
  refine wp_ret ?_
  obtain rfl:=Option.some.inj H0
  obtain ⟨u0,hu0,hq0⟩:=Zbh (P:=Tryz.prog) Zh4 (hst.at 1 rfl)
  exact Zwy rfl hst hb hu0 (Zg (s:=3)) (Zcw hq0 (hst.at 2 rfl)) (hst.at 3 rfl)
theorem Zn3 (a0:Int) {r:Bool} (h:Zjy a0=some r):FnOk Tryz.prog 10 [(pInt .i64 a0)] (Zbf r):=by
 have H0:=h
 unfold Zjy at H0
 clear h
 refine Zbs (N:=21) Tryz.func10 rfl rfl (Qe rfl) rfl rfl (fun a g0 hst hb=>?_)
 refine r_s (T:=[⟨[],_,[],[],[2]⟩]) (F:=[.o 0]) hst hb Za
  (Qa rfl c_b<|o_n) (fun a g hst hb=>?_)
 refine r_s (T:=⟨[.o 0],_,[],[],[3]⟩ :: ⟨[.p 0 0],_,[],[0],[4]⟩ :: ⟨[.p 1 0],_,[],[0,1],[5]⟩ :: ⟨[.p 2 0,.o 0],_,[],[0,1,2],[6]⟩ :: ⟨[.p 2 0,.p 3 0],_,[],Lr 4,[7]⟩ :: ⟨[.p 2 0,.p 4 0],_,[],Lr 5,[8]⟩ :: ⟨[.p 5 0],_,[],Lr 6,[9]⟩ :: ⟨[.p 6 0,.o 0],_,[],Lr 7,[10]⟩ :: ⟨[.p 6 0,.p 7 0],_,[],Lr 8,[11]⟩ :: ⟨[.p 6 0,.p 8 0],_,[],Lr 9,[12]⟩ :: ⟨[.p 9 0],_,[],Lr 10,[13]⟩ :: ⟨[.p 10 0,.o 0],_,[],Lr 11,[14]⟩ :: ⟨[.p 10 0,.p 11 0],_,[],Lr 12,[15]⟩ :: ⟨[.p 10 0,.p 12 0],_,[],Lr 13,[16]⟩ :: ⟨[.p 13 0],_,[],Lr 14,[17]⟩ :: ⟨[.p 14 0,.o 0],_,[],Lr 15,[18]⟩ :: ⟨[.p 14 0,.p 15 0],_,[],Lr 16,[19]⟩ :: ⟨[.p 14 0,.p 16 0],_,[],Lr 17,[20]⟩ :: ⟨[.p 17 0],_,[],Lr 18,[2]⟩ :: []) (F:=[.p 18 0]) hst hb Za
  (Qm rfl u_0<|o_p rfl (Zbt rfl rfl u_0 c_i)<|Qm rfl u_0<|o_g (Qg_f rfl (fun hG=>Z6 rfl rfl u_0))<|o_g (Qg_f rfl (fun hG=>Zbt rfl rfl (Opd.gd hG u_0) c_i))<|o_p rfl (Zbp rfl rfl u_0 (fun hz=>(Opd.gd (bNF hz) u_1)))<|Qm rfl u_0<|o_g (Qg_f rfl (fun hG=>Z6 rfl rfl u_0))<|o_g (Qg_f rfl (fun hG=>Zbt rfl rfl (Opd.gd hG u_0) c_i))<|o_p rfl (Zbp rfl rfl u_0 (fun hz=>(Opd.gd (bNF hz) u_1)))<|Qm rfl u_0<|o_g (Qg_f rfl (fun hG=>Z6 rfl rfl u_0))<|o_g (Qg_f rfl (fun hG=>Zbt rfl rfl (Opd.gd hG u_0) c_i))<|o_p rfl (Zbp rfl rfl u_0 (fun hz=>(Opd.gd (bNF hz) u_1)))<|Qm rfl u_0<|o_g (Qg_f rfl (fun hG=>Z6 rfl rfl u_0))<|o_g (Qg_f rfl (fun hG=>Zbt rfl rfl (Opd.gd hG u_0) c_i))<|o_p rfl (Zbp rfl rfl u_0 (fun hz=>(Opd.gd (bNF hz) u_1)))<|Qa rfl u_0<|o_n) (fun a g hst hb=>?_)
 refine wp_ret ?_
 obtain rfl:=Option.some.inj H0
 exact Z4 rfl hst hb (Zg (s:=2)) (hst.at 0 rfl)
theorem Zhj (a0:Zk) (a1:ByteArray) {r:Zb × Bool} (h:Zem a0 a1=some r):FnOk Tryz.prog 30 [(Zy.pd a0),(pStr a1)] (pTup [(Ze.pd r.1),(Zbf r.2)]):=by
 have H0:=h
 unfold Zem at H0
 clear h
 refine Zbs (N:=39) Tryz.func30 rfl rfl (Qe rfl) rfl rfl (fun a g0 hst hb=>?_)
 refine r_s (T:=[⟨[.o 0],_,[],[],[2]⟩,⟨[],[(4,(pBox Ze 4 (default:Zb)))],[5],[],[4]⟩,⟨[],_,[],[],[5]⟩]) (F:=[.o 1,.p 0 0,.p 1 0]) hst hb Za
  (Qb rfl u_0<|o_p rfl (Zbi (zs:=[.int .i64 0,.int .i64 0,.int .i64 0,.int .i64 0,.float .f64 0,.int .i64 0,.string ByteArray.empty,.slice none 0 0]) (by kernel_rfl) (fun g=>Zb2 g) rfl rfl)<|Qa rfl c_b<|o_n) (fun a g hst hb=>?_)
 refine wp_seq ?_
 refine r_s (T:=[⟨[.o 1],_,[],[],[7]⟩,⟨[.p 0 0],_,[],[0],[8]⟩,⟨[.p 1 0],_,[],[0,1],[6]⟩]) (F:=[.o 0,.o 2,.p 2 0]) hst hb Za
  (Qf rfl Zr3 u_0<|Ql rfl Zdk u_0<|Qa rfl u_0<|o_n) (fun a g hst hb=>?_)
 obtain ⟨z12,hz1,H0⟩:=Zc H0
 refine Zb3 (fun a w=>∃ (y11:Zb) (g:G),w=g.w ∧ St 39 [(4,(pBox Ze 4 y11))] a g ∧ Base g0 g ∧ (.inr y11)=z12) ?_ ?_
 ·rintro a w ⟨y11,g,rfl,hst,hb,rfl⟩
  refine Zp ?_
  refine r_s (T:=[⟨[],_,[],[],[38]⟩,⟨[.p 0 0,.o 0],_,[5],[0],[4]⟩,⟨[],_,[],[0,1],[5]⟩]) (F:=[.p 1 0,.p 2 0]) hst hb Za
   (o_p rfl (Zob rfl rfl )<|o_p rfl (Z3 Zbe rfl rfl u_1 u_0)<|Qa rfl c_b<|o_n) (fun a g hst hb=>?_)
  refine wp_ret ?_
  obtain rfl:=Option.some.inj H0
  obtain ⟨u0,hu0,hq0⟩:=Zbh (P:=Tryz.prog) Zbe (hst.at 0 rfl)
  exact Zdw rfl hst hb hu0 (Zg (s:=5)) (Zcw hq0 (hst.at 1 rfl))
 ·refine wp_block ?_
  refine wp_loop_ghost (fun n a w=>∃ (x1:Zb) (x2:shelf_nodeT) (g:G),w=g.w ∧ St 39 [(1,(pStr a1)),(4,(pBox Ze 4 x1)),(6,(Zbd.pd x2))] a g ∧ Base g0 g ∧ Zel a1 n x1 x2=some z12) (a0.top.hh + 1) ⟨(default:Zb),a0.top,g,rfl,(hst.pick [0,1,2] rfl),hb,hz1⟩ (fun n a w hI=>?_)
  obtain ⟨x1,x2,g,rfl,hst,hb,H1⟩:=hI
  cases n with
  | zero=>exact absurd H1 (by simp [Zel])
  | succ n =>
   rw [Zel] at H1
   refine wp_seq ?_
   refine r_s (T:=[⟨[.o 2],_,[],[],[9]⟩,⟨[.p 0 0],_,[],[0],[10]⟩]) (F:=[.o 0,.o 1,.o 2,.p 1 0]) hst hb Za
    (Qm rfl u_0<|o_p rfl (Z26 Tryz.underlying28 rfl rfl u_0 (Zf2 _))<|o_n) (fun a g hst hb=>?_)
   refine wp_cond_split (hst.bool 3 rfl) (fun hc3=>?_) (fun hc3=>?_)
   ·replace H1:=Zu hc3 H1
    refine wp_skip ?_
    refine Zp ?_
    refine Zb3 (fun a w=>∃ (j10:shelf_nodeT) (g:G),w=g.w ∧ St 39 [(1,(pStr a1)),(4,(pBox Ze 4 x1)),(6,(Zbd.pd j10))] a g ∧ Base g0 g ∧ Zi2 x1 (Zel a1 n) j10=some z12) ?_ ?_
    ·rintro a w ⟨j10,g,rfl,hst,hb,H1⟩
     unfold Zi2 at H1
     exact ⟨n,Nat.lt_succ_self _,x1,j10,g,rfl,(hst.pick [0,1,2] rfl),hb,H1⟩
    ·refine wp_block ?_
     refine wp_block ?_
     obtain ⟨n4,h5,H1⟩:=Zc H1
     refine r_s (L:=[(1,_),(4,_),(6,_)]) (T:=[⟨[.o 0],_,[],[],[17]⟩,⟨[.o 2],_,[],[],[18]⟩,⟨[.p 1 0],_,[],[1],[19]⟩,⟨[.p 2 0],_,[],[1,2],[20]⟩,⟨[.p 3 0],_,[],[1,2,3],[21]⟩,⟨[.p 0 0,.p 4 0],_,[],Lr 5,[22]⟩,⟨[.p 5 0],_,[],Lr 6,[16]⟩]) (F:=[.o 0,.o 1,.o 2,.p 6 0]) (hst.pick [0,1,2] rfl) hb Za
      (Qm rfl u_0<|Qm rfl u_0<|o_p rfl (Zq rfl rfl (Opd.imp u_0 (fun _ _ h=>Zx h5 h)) (fun _ _ ⟨_,_,_,e,_⟩=>⟨_,e⟩))<|Qf rfl Zfr u_0<|Ql rfl ty_9 u_0<|o_p rfl (Zn7 rfl rfl u_0 u_1)<|Qa rfl u_0<|o_n) (fun a g hst hb=>?_)
     refine wp_cond_split (hst.bool 3 rfl) (fun hc6=>?_) (fun hc6=>?_)
     ·replace H1:=Zu hc6 H1
      refine r_g (L:=[(1,_),(4,_),(6,_)]) (T:=[⟨[.o 2],_,[],[],[23]⟩,⟨[.p 0 0],_,[],[0],[24]⟩,⟨[.p 1 0],_,[],[0,1],[25]⟩,⟨[.p 2 0],_,[],[0,1,2],[26]⟩,⟨[.p 3 0],_,[],Lr 4,[6]⟩]) (F:=[.o 0,.o 1,.p 4 0]) (hst.pick [0,1,2] rfl) hb Za
       (Qm rfl u_0<|o_p rfl (Zq rfl rfl (Opd.imp u_0 (fun _ _ h=>Zx h5 h)) (fun _ _ ⟨_,_,_,e,_⟩=>⟨_,e⟩))<|Qf rfl Zex u_0<|Ql rfl Zdk u_0<|Qa rfl u_0<|o_n) (fun a g hst hb=>?_)
      refine Zbc ?_
      refine Zbc ?_
      exact ⟨n4.left,g,rfl,(hst.pick [0,1,2] rfl),hb,H1⟩
     ·replace H1:=Zt hc6 H1
      refine r_s (L:=[(1,_),(4,_),(6,_)]) (T:=[⟨[.o 0],_,[],[],[28]⟩,⟨[.o 2],_,[],[],[29]⟩,⟨[.p 1 0],_,[],[1],[30]⟩,⟨[.p 2 0],_,[],[1,2],[31]⟩,⟨[.p 3 0],_,[],[1,2,3],[32]⟩,⟨[.p 0 0,.p 4 0],_,[],Lr 5,[33]⟩,⟨[.p 5 0],_,[],Lr 6,[27]⟩]) (F:=[.o 0,.o 1,.o 2,.p 6 0]) (hst.pick [0,1,2] rfl) hb Za
       (Qm rfl u_0<|Qm rfl u_0<|o_p rfl (Zq rfl rfl (Opd.imp u_0 (fun _ _ h=>Zx h5 h)) (fun _ _ ⟨_,_,_,e,_⟩=>⟨_,e⟩))<|Qf rfl Zfr u_0<|Ql rfl ty_9 u_0<|o_p rfl (Zxp rfl rfl u_0 u_1)<|Qa rfl u_0<|o_n) (fun a g hst hb=>?_)
      refine wp_cond_split (hst.bool 3 rfl) (fun hc7=>?_) (fun hc7=>?_)
      ·replace H1:=Zu hc7 H1
       refine r_g (L:=[(1,_),(4,_),(6,_)]) (T:=[⟨[.o 2],_,[],[],[34]⟩,⟨[.p 0 0],_,[],[0],[35]⟩,⟨[.p 1 0],_,[],[0,1],[36]⟩,⟨[.p 2 0],_,[],[0,1,2],[37]⟩,⟨[.p 3 0],_,[],Lr 4,[6]⟩]) (F:=[.o 0,.o 1,.p 4 0]) (hst.pick [0,1,2] rfl) hb Za
        (Qm rfl u_0<|o_p rfl (Zq rfl rfl (Opd.imp u_0 (fun _ _ h=>Zx h5 h)) (fun _ _ ⟨_,_,_,e,_⟩=>⟨_,e⟩))<|Qf rfl Zfs u_0<|Ql rfl Zdk u_0<|Qa rfl u_0<|o_n) (fun a g hst hb=>?_)
       refine Zbc ?_
       refine Zbc ?_
       exact ⟨n4.right,g,rfl,(hst.pick [0,1,2] rfl),hb,H1⟩
      ·replace H1:=Zt hc7 H1
       obtain ⟨r8,h9,H1⟩:=Zc H1
       refine r_s (L:=[(4,_),(6,_)]) (T:=[⟨[.o 1],_,[],[],[11]⟩,⟨[.p 0 0],_,[],[0],[12]⟩,⟨[.p 1 0],_,[],[0,1],[13]⟩,⟨[.p 2 0],_,[],[0,1,2],[14]⟩,⟨[.p 3 0],_,[],Lr 4,[15]⟩,⟨[.p 4 0,.o 0],_,[5],Lr 5,[4]⟩,⟨[],_,[],Lr 6,[5]⟩]) (F:=[.p 5 0,.p 6 0]) (hst.pick [1,2] rfl) hb Za
        (Qm rfl u_0<|o_p rfl (Zq rfl rfl (Opd.imp u_0 (fun _ _ h=>Zx h5 h)) (fun _ _ ⟨_,_,_,e,_⟩=>⟨_,e⟩))<|Qf rfl Ziu u_0<|Ql rfl Zbe u_0<|o_p rfl (Zl Zo2 (Zg4 _ h9) rfl rfl (.cons u_0 .nil))<|o_p rfl (Z3 Zbe rfl rfl u_1 u_0)<|Qa rfl c_b<|o_n) (fun a g hst hb=>?_)
       refine wp_ret ?_
       refine Z5 ?_
       refine Z5 ?_
       refine Zo ?_
       refine Zo ?_
       refine Z5 ?_
       refine Zo ?_
       refine Zo ?_
       obtain rfl:=Option.some.inj H1
       obtain rfl:=Option.some.inj H0
       obtain ⟨u0,hu0,hq0⟩:=Zbh (P:=Tryz.prog) Zbe (hst.at 0 rfl)
       exact Zdw rfl hst hb hu0 (Zg (s:=5)) (Zcw hq0 (hst.at 1 rfl))
   ·replace H1:=Zt hc3 H1
    refine wp_exit ?_
    refine Zby ?_
    refine Zby ?_
    refine Zcb ?_
    exact ⟨x1,g,rfl,(hst.pick [1] rfl),hb,Option.some.inj H1⟩
theorem Zd1 (a0:shelf_nodeT) {r:Int} (h:Zcy a0=some r):FnOk Tryz.prog 61 [(Zbd.pd a0)] (pInt .i64 r):=by
 have H0:=h
 unfold Zcy at H0
 clear h
 refine Zbs (N:=9) Tryz.func61 rfl rfl (Qe rfl) rfl rfl (fun a g0 hst hb=>?_)
 refine r_s (T:=[⟨[],_,[],[],[2]⟩]) (F:=[.o 0]) hst hb Za
  (Qa rfl c_i<|o_n) (fun a g hst hb=>?_)
 refine wp_seq ?_
 refine r_s (T:=[⟨[.o 0],_,[],[],[3]⟩,⟨[.p 0 0],_,[],[0],[4]⟩]) (F:=[.o 0,.p 1 0]) hst hb Za
  (Qm rfl u_0<|o_p rfl (Zpr Tryz.underlying28 rfl rfl u_0 (Zf2 _))<|o_n) (fun a g hst hb=>?_)
 refine wp_cond_split (hst.bool 1 rfl) (fun hc1=>?_) (fun hc1=>?_)
 ·replace H0:=Zu hc1 H0
  refine r_s (L:=[]) (T:=[⟨[],_,[],[],[2]⟩]) (F:=[.p 0 0]) (hst.pick [] rfl) hb Za
   (Qa rfl c_i<|o_n) (fun a g hst hb=>?_)
  refine wp_ret ?_
  refine Zo ?_
  obtain rfl:=Option.some.inj H0
  exact Z4 rfl hst hb (Zg (s:=2)) (hst.at 0 rfl)
 ·replace H0:=Zt hc1 H0
  refine wp_skip ?_
  refine Zp ?_
  obtain ⟨n2,h3,H0⟩:=Zc H0
  refine r_s (L:=[(0,_)]) (T:=[⟨[.o 0],_,[],[],[5]⟩,⟨[.p 0 0],_,[],[0],[6]⟩,⟨[.p 1 0],_,[],[0,1],[7]⟩,⟨[.p 2 0],_,[],[0,1,2],[8]⟩,⟨[.p 3 0],_,[],Lr 4,[2]⟩]) (F:=[.p 4 0]) (hst.pick [0] rfl) hb Za
   (Qm rfl u_0<|o_p rfl (Zq rfl rfl (Opd.imp u_0 (fun _ _ h=>Zx h3 h)) (fun _ _ ⟨_,_,_,e,_⟩=>⟨_,e⟩))<|Qf rfl Z87 u_0<|Ql rfl ty_3 u_0<|Qa rfl u_0<|o_n) (fun a g hst hb=>?_)
  refine wp_ret ?_
  obtain rfl:=Option.some.inj H0
  exact Z4 rfl hst hb (Zg (s:=2)) (hst.at 0 rfl)
theorem Ziz (a0:Zk) {r:Int} (h:Zf8 a0=some r):FnOk Tryz.prog 40 [(Zy.pd a0)] (pInt .i64 r):=by
 have H0:=h
 unfold Zf8 at H0
 clear h
 refine Zbs (N:=6) Tryz.func40 rfl rfl (Qe rfl) rfl rfl (fun a g0 hst hb=>?_)
 refine r_s (T:=[⟨[.o 0],_,[],[],[1]⟩,⟨[],_,[],[],[2]⟩]) (F:=[.p 0 0]) hst hb Za
  (Qb rfl u_0<|Qa rfl c_i<|o_n) (fun a g hst hb=>?_)
 obtain ⟨r1,h2,H0⟩:=Zc H0
 refine r_s (T:=[⟨[.o 0],_,[],[],[3]⟩,⟨[.p 0 0],_,[],[0],[4]⟩,⟨[.p 1 0],_,[],[0,1],[5]⟩,⟨[.p 2 0],_,[],[0,1,2],[2]⟩]) (F:=[.p 3 0]) hst hb Za
  (Qf rfl Zr3 u_0<|Ql rfl Zdk u_0<|o_p rfl (Zl Zo5 (Zd1 _ h2) rfl rfl (.cons u_0 .nil))<|Qa rfl u_0<|o_n) (fun a g hst hb=>?_)
 refine wp_ret ?_
 obtain rfl:=Option.some.inj H0
 exact Z4 rfl hst hb (Zg (s:=2)) (hst.at 0 rfl)
theorem Zee (a0:ByteArray) (a1:Zb) (a2:shelf_nodeT) (a3:shelf_nodeT) {r:shelf_nodeT} (h:Zd8 a0 a1 a2 a3=some r):FnOk Tryz.prog 79 [(pStr a0),(Ze.pd a1),(Zbd.pd a2),(Zbd.pd a3)] (Zbd.pd r):=by
 have H0:=h
 unfold Zd8 at H0
 clear h
 refine Zbs (N:=21) Tryz.func79 rfl rfl (Qe rfl) rfl rfl (fun a g0 hst hb=>?_)
 refine r_s (T:=[⟨[.o 1],_,[],[],[5]⟩,⟨[],[(8,(Zbd.pd shelf_nodeT.nil))],[],[],[8]⟩]) (F:=[.o 0,.o 2,.o 3,.p 0 0]) hst hb Za
  (Qb rfl u_0<|o_p rfl (Zcu rfl rfl (Opd.c (fun g=>Ze3 g)))<|o_n) (fun a g hst hb=>?_)
 obtain ⟨r1,h2,H0⟩:=Zc H0;obtain ⟨r3,h4,H0⟩:=Zc H0
 refine r_s (T:=⟨[.o 0],_,[],[],[9]⟩ :: ⟨[.o 3],_,[],[],[10]⟩ :: ⟨[.o 1],_,[],[],[11]⟩ :: ⟨[.o 2],_,[],[],[12]⟩ :: ⟨[.o 1],_,[],[],[13]⟩ :: ⟨[.p 4 0],_,[],[4],[14]⟩ :: ⟨[.o 2],_,[],[],[15]⟩ :: ⟨[.p 6 0],_,[],[4,5,6],[16]⟩ :: ⟨[.p 5 0,.p 7 0],_,[],List.range' 4 4,[17]⟩ :: ⟨[.p 8 0],_,[],List.range' 4 5,[18]⟩ :: ⟨[.p 0 0,.p 1 0,.p 2 0,.p 3 0,.p 9 0],_,[],Lr 10,[19]⟩ :: ⟨[.p 10 0],_,[],Lr 11,[20]⟩ :: ⟨[.p 11 0],_,[],Lr 12,[8]⟩ :: []) (F:=[.p 12 0]) hst hb Za
  (Qm rfl u_0<|Ql rfl Zbe u_0<|Qm rfl u_0<|Qm rfl u_0<|Qm rfl u_0<|o_p rfl (Zl Zo5 (Zd1 _ h2) rfl rfl (.cons u_0 .nil))<|Qm rfl u_0<|o_p rfl (Zl Zo5 (Zd1 _ h4) rfl rfl (.cons u_0 .nil))<|o_p rfl (Zb0 rfl rfl u_0 u_1 rfl)<|o_p rfl (Zb0 rfl rfl u_0 c_i rfl)<|o_p rfl (Zwn rfl rfl u_0 u_1 u_2 u_3 u_4)<|Qb rfl u_0<|o_p rfl (Zcu rfl rfl (Opd.imp u_0 (fun _ _ h=>Zyl h)))<|o_n) (fun a g hst hb=>?_)
 refine wp_ret ?_
 obtain rfl:=Option.some.inj H0
 exact Z4 rfl hst hb (Zg (s:=8)) (hst.at 0 rfl)
theorem Zmw (a0:shelf_nodeT) (a1:shelf_nodeT) {r:Bool} (h:Zjz a0 a1=some r):FnOk Tryz.prog 102 [(Zbd.pd a0),(Zbd.pd a1)] (Zbf r):=by
 have H0:=h
 unfold Zjz at H0
 clear h
 refine Zbs (N:=13) Tryz.func102 rfl rfl (Qe rfl) rfl rfl (fun a g0 hst hb=>?_)
 refine r_s (T:=[⟨[],_,[],[],[4]⟩]) (F:=[.o 0,.o 1]) hst hb Za
  (Qa rfl c_b<|o_n) (fun a g hst hb=>?_)
 obtain ⟨r1,h2,H0⟩:=Zc H0;obtain ⟨r3,h4,H0⟩:=Zc H0
 refine r_s (T:=[⟨[.o 0],_,[],[],[5]⟩,⟨[.p 0 0],_,[],[0],[6]⟩,⟨[.p 1 0],_,[],[0,1],[7]⟩,⟨[.o 1],_,[],[],[8]⟩,⟨[.p 3 0],_,[],[0,1,3],[9]⟩,⟨[.p 4 0],_,[],[0,1,3,4],[10]⟩,⟨[.p 5 0],_,[],[0,1,3,4,5],[11]⟩,⟨[.p 2 0,.p 6 0],_,[],Lr 7,[12]⟩,⟨[.p 7 0],_,[],Lr 8,[4]⟩]) (F:=[.p 8 0]) hst hb Za
  (Qm rfl u_0<|o_p rfl (Zl Zo5 (Zd1 _ h2) rfl rfl (.cons u_0 .nil))<|o_p rfl (Zb0 rfl rfl u_0 c_i rfl)<|Qm rfl u_0<|o_p rfl (Zl Zo5 (Zd1 _ h4) rfl rfl (.cons u_0 .nil))<|o_p rfl (Zb0 rfl rfl u_0 c_i rfl)<|o_p rfl (Z1j rfl rfl c_i u_0 rfl)<|o_p rfl (Zct rfl rfl u_0 u_1)<|Qa rfl u_0<|o_n) (fun a g hst hb=>?_)
 refine wp_ret ?_
 obtain rfl:=Option.some.inj H0
 exact Z4 rfl hst hb (Zg (s:=4)) (hst.at 0 rfl)
theorem Zlz (a0:ByteArray) (a1:Zb) (a2:shelf_nodeT) (a3:shelf_nodeT) {r:shelf_nodeT} (h:Zjs a0 a1 a2 a3=some r):FnOk Tryz.prog 80 [(pStr a0),(Ze.pd a1),(Zbd.pd a2),(Zbd.pd a3)] (Zbd.pd r):=by
 have H0:=h
 unfold Zjs at H0
 clear h
 refine Zbs (N:=182) Tryz.func80 rfl rfl (Qe rfl) rfl rfl (fun a g0 hst hb=>?_)
 refine r_s (T:=[⟨[.o 1],_,[],[],[5]⟩,⟨[],[(8,(Zbd.pd shelf_nodeT.nil))],[],[],[8]⟩]) (F:=[.o 0,.o 2,.o 3,.p 0 0]) hst hb Za
  (Qb rfl u_0<|o_p rfl (Zcu rfl rfl (Opd.c (fun g=>Ze3 g)))<|o_n) (fun a g hst hb=>?_)
 refine wp_seq ?_
 refine wp_block ?_
 obtain ⟨r1,h2,H0⟩:=Zc H0;obtain ⟨n3,h4,H0⟩:=Zc H0;obtain ⟨r5,h6,H0⟩:=Zc H0;obtain ⟨n7,h8,H0⟩:=Zc H0;obtain ⟨r9,h10,H0⟩:=Zc H0
 refine r_s (T:=⟨[.o 2],_,[],[],[12]⟩ :: ⟨[.o 1],_,[],[],[13]⟩ :: ⟨[.p 0 0,.p 1 0],_,[],[0,1],[14]⟩ :: ⟨[.p 2 0],_,[],[0,1,2],[15]⟩ :: ⟨[.p 3 0,.o 2],_,[],Lr 4,[16]⟩ :: ⟨[.p 3 0,.p 4 0],_,[],Lr 5,[17]⟩ :: ⟨[.p 3 0,.p 5 0],_,[],Lr 6,[18]⟩ :: ⟨[.p 3 0,.p 6 0],_,[],Lr 7,[19]⟩ :: ⟨[.p 3 0,.p 7 0],_,[],Lr 8,[20]⟩ :: ⟨[.p 3 0,.p 8 0],_,[],Lr 9,[21]⟩ :: ⟨[.p 3 0,.o 2],_,[],Lr 4,[22]⟩ :: ⟨[.p 3 0,.p 10 0],_,[],[0,1,2,3,10],[23]⟩ :: ⟨[.p 3 0,.p 11 0],_,[],[0,1,2,3,10,11],[24]⟩ :: ⟨[.p 3 0,.p 12 0],_,[],[0,1,2,3,10,11,12],[25]⟩ :: ⟨[.p 3 0,.p 13 0],_,[],0 :: 1 :: 2 :: 3 :: 4 :: 5 :: 6 :: 7 :: 8 :: 10 :: 11 :: 12 :: 13 :: [],[26]⟩ :: ⟨[.p 3 0,.p 14 0],_,[],0 :: 1 :: 2 :: 3 :: 4 :: 5 :: 6 :: 7 :: 8 :: 10 :: 11 :: 12 :: 13 :: 14 :: [],[27]⟩ :: ⟨[.p 3 0,.p 15 0],_,[],0 :: 1 :: 2 :: 3 :: 4 :: 5 :: 6 :: 7 :: 8 :: 10 :: 11 :: 12 :: 13 :: 14 :: 15 :: [],[28]⟩ :: ⟨[.p 3 0,.p 9 0,.p 16 0],_,[],Lr 17,[29]⟩ :: ⟨[.p 3 0,.p 17 0],_,[],Lr 18,[30]⟩ :: ⟨[.p 18 0],_,[],Lr 19,[11]⟩ :: []) (F:=[.o 0,.o 1,.o 2,.o 3,.p 19 0]) hst hb Za
  (Qm rfl u_0<|Qm rfl u_0<|o_p rfl (Zl Zxe (Zmw _ _ h2) rfl rfl (.cons u_0 (.cons u_1 .nil)))<|Qm rfl u_0<|o_g (Qg_t rfl (fun hG=>Z6 rfl rfl u_0))<|o_g (Qg_t rfl (fun hG=>Zq rfl rfl (Opd.imp (Opd.gd hG u_0) (fun _ _ h=>Zx (Zbn h4 hG) h)) (fun _ _ ⟨_,_,_,e,_⟩=>⟨_,e⟩)))<|o_g (Qg_t rfl (fun hG=>Zi Zex rfl rfl (Opd.gd hG u_0)))<|o_g (Qg_t rfl (fun hG=>Zv Zdk rfl rfl (Opd.gd hG u_0)))<|o_g (Qg_t rfl (fun hG=>Zl Zo5 (Zd1 _ (Zbn h6 hG)) rfl rfl (.cons (Opd.gd hG u_0) .nil)))<|o_g (Qg_t rfl (fun hG=>Zb0 rfl rfl (Opd.gd hG u_0) c_i rfl))<|o_g (Qg_t rfl (fun hG=>Z6 rfl rfl u_0))<|o_g (Qg_t rfl (fun hG=>Zq rfl rfl (Opd.imp (Opd.gd hG u_0) (fun _ _ h=>Zx (Zbn h8 hG) h)) (fun _ _ ⟨_,_,_,e,_⟩=>⟨_,e⟩)))<|o_g (Qg_t rfl (fun hG=>Zi Zfs rfl rfl (Opd.gd hG u_0)))<|o_g (Qg_t rfl (fun hG=>Zv Zdk rfl rfl (Opd.gd hG u_0)))<|o_g (Qg_t rfl (fun hG=>Zl Zo5 (Zd1 _ (Zbn h10 hG)) rfl rfl (.cons (Opd.gd hG u_0) .nil)))<|o_g (Qg_t rfl (fun hG=>Zb0 rfl rfl (Opd.gd hG u_0) c_i rfl))<|o_g (Qg_t rfl (fun hG=>Z1j rfl rfl c_i (Opd.gd hG u_0) rfl))<|o_g (Qg_t rfl (fun hG=>Zca rfl rfl (Opd.gd hG u_0) (Opd.gd hG u_1)))<|o_p rfl (Zbk rfl rfl u_0 (fun hz=>(Opd.gd hz u_1)))<|Qa rfl u_0<|o_n) (fun a g hst hb=>?_)
 refine wp_cond_split (hst.bool 4 rfl) (fun hc11=>?_) (fun hc11=>?_)
 ·replace H0:=Zu hc11 H0
  obtain ⟨n12,h13,H0⟩:=Zc H0;obtain ⟨r14,h15,H0⟩:=Zc H0;obtain ⟨r16,h17,H0⟩:=Zc H0
  refine r_s (L:=[(0,_),(2,_),(3,_),(5,_)]) (T:=⟨[.o 2],_,[],[],[31]⟩ :: ⟨[.p 0 0],_,[],[0],[32]⟩ :: ⟨[.p 1 0],_,[],[0,1],[33]⟩ :: ⟨[.p 2 0],_,[],[0,1,2],[34]⟩ :: ⟨[.o 2],_,[],[],[35]⟩ :: ⟨[.p 4 0],_,[],[4],[36]⟩ :: ⟨[.p 5 0],_,[],[4,5],[37]⟩ :: ⟨[.p 6 0],_,[],[4,5,6],[38]⟩ :: ⟨[.o 0],_,[],[],[39]⟩ :: ⟨[.o 3],_,[],[],[40]⟩ :: ⟨[.o 1],_,[],[],[41]⟩ :: ⟨[.o 2],_,[],[],[42]⟩ :: ⟨[.p 11 0],_,[],[11],[43]⟩ :: ⟨[.p 12 0],_,[],[11,12],[44]⟩ :: ⟨[.p 13 0],_,[],[11,12,13],[45]⟩ :: ⟨[.p 8 0,.p 9 0,.p 10 0,.p 14 0],_,[],List.range' 8 7,[46]⟩ :: ⟨[.o 2],_,[],[],[47]⟩ :: ⟨[.p 16 0],_,[],[16],[48]⟩ :: ⟨[.p 17 0],_,[],[16,17],[49]⟩ :: ⟨[.p 18 0],_,[],[16,17,18],[50]⟩ :: ⟨[.p 3 0,.p 7 0,.p 15 0,.p 19 0],_,[],Lr 20,[51]⟩ :: ⟨[.p 20 0],_,[],Lr 21,[8]⟩ :: []) (F:=[.p 21 0]) (hst.pick [0,1,2,3] rfl) hb Za
   (Qm rfl u_0<|o_p rfl (Zq rfl rfl (Opd.imp u_0 (fun _ _ h=>Zx h13 h)) (fun _ _ ⟨_,_,_,e,_⟩=>⟨_,e⟩))<|Qf rfl Zfr u_0<|Ql rfl ty_9 u_0<|Qm rfl u_0<|o_p rfl (Zq rfl rfl (Opd.imp u_0 (fun _ _ h=>Zx h13 h)) (fun _ _ ⟨_,_,_,e,_⟩=>⟨_,e⟩))<|Qf rfl Ziu u_0<|Ql rfl Zbe u_0<|Qm rfl u_0<|Ql rfl Zbe u_0<|Qm rfl u_0<|Qm rfl u_0<|o_p rfl (Zq rfl rfl (Opd.imp u_0 (fun _ _ h=>Zx h13 h)) (fun _ _ ⟨_,_,_,e,_⟩=>⟨_,e⟩))<|Qf rfl Zex u_0<|Ql rfl Zdk u_0<|o_p rfl (Zl Zm7 (Zee _ _ _ _ h15) rfl rfl (.cons u_0 (.cons u_1 (.cons u_2 (.cons u_3 .nil)))))<|Qm rfl u_0<|o_p rfl (Zq rfl rfl (Opd.imp u_0 (fun _ _ h=>Zx h13 h)) (fun _ _ ⟨_,_,_,e,_⟩=>⟨_,e⟩))<|Qf rfl Zfs u_0<|Ql rfl Zdk u_0<|o_p rfl (Zl Zm7 (Zee _ _ _ _ h17) rfl rfl (.cons u_0 (.cons u_1 (.cons u_2 (.cons u_3 .nil)))))<|Qa rfl u_0<|o_n) (fun a g hst hb=>?_)
  refine wp_ret ?_
  refine Z5 ?_
  refine Zo ?_
  obtain rfl:=Option.some.inj H0
  exact Z4 rfl hst hb (Zg (s:=8)) (hst.at 0 rfl)
 ·replace H0:=Zt hc11 H0
  obtain ⟨r18,h19,H0⟩:=Zc H0
  refine r_s (L:=[(0,_),(2,_),(3,_),(5,_)]) (T:=[⟨[.o 2],_,[],[],[53]⟩,⟨[.o 1],_,[],[],[54]⟩,⟨[.p 0 0,.p 1 0],_,[],[0,1],[55]⟩,⟨[.p 2 0],_,[],[0,1,2],[52]⟩]) (F:=[.o 0,.o 1,.o 2,.o 3,.p 3 0]) (hst.pick [0,1,2,3] rfl) hb Za
   (Qm rfl u_0<|Qm rfl u_0<|o_p rfl (Zl Zxe (Zmw _ _ h19) rfl rfl (.cons u_0 (.cons u_1 .nil)))<|Qa rfl u_0<|o_n) (fun a g hst hb=>?_)
  refine wp_cond_split (hst.bool 4 rfl) (fun hc20=>?_) (fun hc20=>?_)
  ·replace H0:=Zu hc20 H0
   obtain ⟨n21,h22,H0⟩:=Zc H0
   refine r_s (L:=[(0,_),(2,_),(3,_),(5,_)]) (T:=[⟨[.o 2],_,[],[],[56]⟩,⟨[.p 0 0],_,[],[0],[57]⟩,⟨[.p 1 0],_,[],[0,1],[58]⟩,⟨[.p 2 0],_,[],[0,1,2],[59]⟩,⟨[.p 3 0],_,[],Lr 4,[9]⟩]) (F:=[.o 0,.o 1,.o 2,.o 3,.p 4 0]) (hst.pick [0,1,2,3] rfl) hb Za
    (Qm rfl u_0<|o_p rfl (Zq rfl rfl (Opd.imp u_0 (fun _ _ h=>Zx h22 h)) (fun _ _ ⟨_,_,_,e,_⟩=>⟨_,e⟩))<|Qf rfl Zex u_0<|Ql rfl Zdk u_0<|Qa rfl u_0<|o_n) (fun a g hst hb=>?_)
   obtain ⟨n23,h24,H0⟩:=Zc H0;obtain ⟨r25,h26,H0⟩:=Zc H0;obtain ⟨r27,h28,H0⟩:=Zc H0;obtain ⟨r29,h30,H0⟩:=Zc H0
   refine r_s (T:=⟨[.o 4],_,[],[],[60]⟩ :: ⟨[.p 0 0],_,[],[0],[61]⟩ :: ⟨[.p 1 0],_,[],[0,1],[62]⟩ :: ⟨[.p 2 0],_,[],[0,1,2],[63]⟩ :: ⟨[.o 4],_,[],[],[64]⟩ :: ⟨[.p 4 0],_,[],[4],[65]⟩ :: ⟨[.p 5 0],_,[],[4,5],[66]⟩ :: ⟨[.p 6 0],_,[],[4,5,6],[67]⟩ :: ⟨[.o 0],_,[],[],[68]⟩ :: ⟨[.o 3],_,[],[],[69]⟩ :: ⟨[.o 1],_,[],[],[70]⟩ :: ⟨[.o 4],_,[],[],[71]⟩ :: ⟨[.p 11 0],_,[],[11],[72]⟩ :: ⟨[.p 12 0],_,[],[11,12],[73]⟩ :: ⟨[.p 13 0],_,[],[11,12,13],[74]⟩ :: ⟨[.p 8 0,.p 9 0,.p 10 0,.p 14 0],_,[],List.range' 8 7,[75]⟩ :: ⟨[.o 2],_,[],[],[76]⟩ :: ⟨[.p 16 0],_,[],[16],[77]⟩ :: ⟨[.p 17 0],_,[],[16,17],[78]⟩ :: ⟨[.p 18 0],_,[],[16,17,18],[79]⟩ :: ⟨[.o 2],_,[],[],[80]⟩ :: ⟨[.p 20 0],_,[],[20],[81]⟩ :: ⟨[.p 21 0],_,[],[20,21],[82]⟩ :: ⟨[.p 22 0],_,[],[20,21,22],[83]⟩ :: ⟨[.o 4],_,[],[],[84]⟩ :: ⟨[.p 24 0],_,[],[24],[85]⟩ :: ⟨[.p 25 0],_,[],[24,25],[86]⟩ :: ⟨[.p 26 0],_,[],[24,25,26],[87]⟩ :: ⟨[.o 2],_,[],[],[88]⟩ :: ⟨[.p 28 0],_,[],[28],[89]⟩ :: ⟨[.p 29 0],_,[],[28,29],[90]⟩ :: ⟨[.p 30 0],_,[],[28,29,30],[91]⟩ :: ⟨[.p 19 0,.p 23 0,.p 27 0,.p 31 0],_,[],List.range' 8 24,[92]⟩ :: ⟨[.p 3 0,.p 7 0,.p 15 0,.p 32 0],_,[],Lr 33,[93]⟩ :: ⟨[.p 33 0],_,[],Lr 34,[8]⟩ :: []) (F:=[.p 34 0]) hst hb Za
    (Qm rfl u_0<|o_p rfl (Zq rfl rfl (Opd.imp u_0 (fun _ _ h=>Zx h24 h)) (fun _ _ ⟨_,_,_,e,_⟩=>⟨_,e⟩))<|Qf rfl Zfr u_0<|Ql rfl ty_9 u_0<|Qm rfl u_0<|o_p rfl (Zq rfl rfl (Opd.imp u_0 (fun _ _ h=>Zx h24 h)) (fun _ _ ⟨_,_,_,e,_⟩=>⟨_,e⟩))<|Qf rfl Ziu u_0<|Ql rfl Zbe u_0<|Qm rfl u_0<|Ql rfl Zbe u_0<|Qm rfl u_0<|Qm rfl u_0<|o_p rfl (Zq rfl rfl (Opd.imp u_0 (fun _ _ h=>Zx h24 h)) (fun _ _ ⟨_,_,_,e,_⟩=>⟨_,e⟩))<|Qf rfl Zex u_0<|Ql rfl Zdk u_0<|o_p rfl (Zl Zm7 (Zee _ _ _ _ h26) rfl rfl (.cons u_0 (.cons u_1 (.cons u_2 (.cons u_3 .nil)))))<|Qm rfl u_0<|o_p rfl (Zq rfl rfl (Opd.imp u_0 (fun _ _ h=>Zx h22 h)) (fun _ _ ⟨_,_,_,e,_⟩=>⟨_,e⟩))<|Qf rfl Zfr u_0<|Ql rfl ty_9 u_0<|Qm rfl u_0<|o_p rfl (Zq rfl rfl (Opd.imp u_0 (fun _ _ h=>Zx h22 h)) (fun _ _ ⟨_,_,_,e,_⟩=>⟨_,e⟩))<|Qf rfl Ziu u_0<|Ql rfl Zbe u_0<|Qm rfl u_0<|o_p rfl (Zq rfl rfl (Opd.imp u_0 (fun _ _ h=>Zx h24 h)) (fun _ _ ⟨_,_,_,e,_⟩=>⟨_,e⟩))<|Qf rfl Zfs u_0<|Ql rfl Zdk u_0<|Qm rfl u_0<|o_p rfl (Zq rfl rfl (Opd.imp u_0 (fun _ _ h=>Zx h22 h)) (fun _ _ ⟨_,_,_,e,_⟩=>⟨_,e⟩))<|Qf rfl Zfs u_0<|Ql rfl Zdk u_0<|o_p rfl (Zl Zm7 (Zee _ _ _ _ h28) rfl rfl (.cons u_0 (.cons u_1 (.cons u_2 (.cons u_3 .nil)))))<|o_p rfl (Zl Zm7 (Zee _ _ _ _ h30) rfl rfl (.cons u_0 (.cons u_1 (.cons u_2 (.cons u_3 .nil)))))<|Qa rfl u_0<|o_n) (fun a g hst hb=>?_)
   refine wp_ret ?_
   refine Z5 ?_
   refine Zo ?_
   obtain rfl:=Option.some.inj H0
   exact Z4 rfl hst hb (Zg (s:=8)) (hst.at 0 rfl)
  ·replace H0:=Zt hc20 H0
   obtain ⟨r31,h32,H0⟩:=Zc H0;obtain ⟨n33,h34,H0⟩:=Zc H0;obtain ⟨r35,h36,H0⟩:=Zc H0;obtain ⟨n37,h38,H0⟩:=Zc H0;obtain ⟨r39,h40,H0⟩:=Zc H0
   refine r_s (L:=[(0,_),(2,_),(3,_),(5,_)]) (T:=⟨[.o 1],_,[],[],[95]⟩ :: ⟨[.o 2],_,[],[],[96]⟩ :: ⟨[.p 0 0,.p 1 0],_,[],[0,1],[97]⟩ :: ⟨[.p 2 0],_,[],[0,1,2],[98]⟩ :: ⟨[.p 3 0,.o 1],_,[],Lr 4,[99]⟩ :: ⟨[.p 3 0,.p 4 0],_,[],Lr 5,[100]⟩ :: ⟨[.p 3 0,.p 5 0],_,[],Lr 6,[101]⟩ :: ⟨[.p 3 0,.p 6 0],_,[],Lr 7,[102]⟩ :: ⟨[.p 3 0,.p 7 0],_,[],Lr 8,[103]⟩ :: ⟨[.p 3 0,.p 8 0],_,[],Lr 9,[104]⟩ :: ⟨[.p 3 0,.o 1],_,[],Lr 4,[105]⟩ :: ⟨[.p 3 0,.p 10 0],_,[],[0,1,2,3,10],[106]⟩ :: ⟨[.p 3 0,.p 11 0],_,[],[0,1,2,3,10,11],[107]⟩ :: ⟨[.p 3 0,.p 12 0],_,[],[0,1,2,3,10,11,12],[108]⟩ :: ⟨[.p 3 0,.p 13 0],_,[],0 :: 1 :: 2 :: 3 :: 4 :: 5 :: 6 :: 7 :: 8 :: 10 :: 11 :: 12 :: 13 :: [],[109]⟩ :: ⟨[.p 3 0,.p 14 0],_,[],0 :: 1 :: 2 :: 3 :: 4 :: 5 :: 6 :: 7 :: 8 :: 10 :: 11 :: 12 :: 13 :: 14 :: [],[110]⟩ :: ⟨[.p 3 0,.p 15 0],_,[],0 :: 1 :: 2 :: 3 :: 4 :: 5 :: 6 :: 7 :: 8 :: 10 :: 11 :: 12 :: 13 :: 14 :: 15 :: [],[111]⟩ :: ⟨[.p 3 0,.p 9 0,.p 16 0],_,[],Lr 17,[112]⟩ :: ⟨[.p 3 0,.p 17 0],_,[],Lr 18,[113]⟩ :: ⟨[.p 18 0],_,[],Lr 19,[94]⟩ :: []) (F:=[.o 0,.o 1,.o 2,.o 3,.p 19 0]) (hst.pick [0,1,2,3] rfl) hb Za
    (Qm rfl u_0<|Qm rfl u_0<|o_p rfl (Zl Zxe (Zmw _ _ h32) rfl rfl (.cons u_0 (.cons u_1 .nil)))<|Qm rfl u_0<|o_g (Qg_t rfl (fun hG=>Z6 rfl rfl u_0))<|o_g (Qg_t rfl (fun hG=>Zq rfl rfl (Opd.imp (Opd.gd hG u_0) (fun _ _ h=>Zx (Zbn h34 hG) h)) (fun _ _ ⟨_,_,_,e,_⟩=>⟨_,e⟩)))<|o_g (Qg_t rfl (fun hG=>Zi Zfs rfl rfl (Opd.gd hG u_0)))<|o_g (Qg_t rfl (fun hG=>Zv Zdk rfl rfl (Opd.gd hG u_0)))<|o_g (Qg_t rfl (fun hG=>Zl Zo5 (Zd1 _ (Zbn h36 hG)) rfl rfl (.cons (Opd.gd hG u_0) .nil)))<|o_g (Qg_t rfl (fun hG=>Zb0 rfl rfl (Opd.gd hG u_0) c_i rfl))<|o_g (Qg_t rfl (fun hG=>Z6 rfl rfl u_0))<|o_g (Qg_t rfl (fun hG=>Zq rfl rfl (Opd.imp (Opd.gd hG u_0) (fun _ _ h=>Zx (Zbn h38 hG) h)) (fun _ _ ⟨_,_,_,e,_⟩=>⟨_,e⟩)))<|o_g (Qg_t rfl (fun hG=>Zi Zex rfl rfl (Opd.gd hG u_0)))<|o_g (Qg_t rfl (fun hG=>Zv Zdk rfl rfl (Opd.gd hG u_0)))<|o_g (Qg_t rfl (fun hG=>Zl Zo5 (Zd1 _ (Zbn h40 hG)) rfl rfl (.cons (Opd.gd hG u_0) .nil)))<|o_g (Qg_t rfl (fun hG=>Zb0 rfl rfl (Opd.gd hG u_0) c_i rfl))<|o_g (Qg_t rfl (fun hG=>Z1j rfl rfl c_i (Opd.gd hG u_0) rfl))<|o_g (Qg_t rfl (fun hG=>Zca rfl rfl (Opd.gd hG u_0) (Opd.gd hG u_1)))<|o_p rfl (Zbk rfl rfl u_0 (fun hz=>(Opd.gd hz u_1)))<|Qa rfl u_0<|o_n) (fun a g hst hb=>?_)
   refine wp_cond_split (hst.bool 4 rfl) (fun hc41=>?_) (fun hc41=>?_)
   ·replace H0:=Zu hc41 H0
    obtain ⟨n42,h43,H0⟩:=Zc H0;obtain ⟨r44,h45,H0⟩:=Zc H0;obtain ⟨r46,h47,H0⟩:=Zc H0
    refine r_s (L:=[(0,_),(2,_),(3,_),(5,_)]) (T:=⟨[.o 1],_,[],[],[114]⟩ :: ⟨[.p 0 0],_,[],[0],[115]⟩ :: ⟨[.p 1 0],_,[],[0,1],[116]⟩ :: ⟨[.p 2 0],_,[],[0,1,2],[117]⟩ :: ⟨[.o 1],_,[],[],[118]⟩ :: ⟨[.p 4 0],_,[],[4],[119]⟩ :: ⟨[.p 5 0],_,[],[4,5],[120]⟩ :: ⟨[.p 6 0],_,[],[4,5,6],[121]⟩ :: ⟨[.o 1],_,[],[],[122]⟩ :: ⟨[.p 8 0],_,[],[8],[123]⟩ :: ⟨[.p 9 0],_,[],[8,9],[124]⟩ :: ⟨[.p 10 0],_,[],[8,9,10],[125]⟩ :: ⟨[.o 0],_,[],[],[126]⟩ :: ⟨[.o 3],_,[],[],[127]⟩ :: ⟨[.o 1],_,[],[],[128]⟩ :: ⟨[.p 14 0],_,[],[14],[129]⟩ :: ⟨[.p 15 0],_,[],[14,15],[130]⟩ :: ⟨[.p 16 0],_,[],[14,15,16],[131]⟩ :: ⟨[.o 2],_,[],[],[132]⟩ :: ⟨[.p 12 0,.p 13 0,.p 17 0,.p 18 0],_,[],List.range' 12 7,[133]⟩ :: ⟨[.p 3 0,.p 7 0,.p 11 0,.p 19 0],_,[],Lr 20,[134]⟩ :: ⟨[.p 20 0],_,[],Lr 21,[8]⟩ :: []) (F:=[.p 21 0]) (hst.pick [0,1,2,3] rfl) hb Za
     (Qm rfl u_0<|o_p rfl (Zq rfl rfl (Opd.imp u_0 (fun _ _ h=>Zx h43 h)) (fun _ _ ⟨_,_,_,e,_⟩=>⟨_,e⟩))<|Qf rfl Zfr u_0<|Ql rfl ty_9 u_0<|Qm rfl u_0<|o_p rfl (Zq rfl rfl (Opd.imp u_0 (fun _ _ h=>Zx h43 h)) (fun _ _ ⟨_,_,_,e,_⟩=>⟨_,e⟩))<|Qf rfl Ziu u_0<|Ql rfl Zbe u_0<|Qm rfl u_0<|o_p rfl (Zq rfl rfl (Opd.imp u_0 (fun _ _ h=>Zx h43 h)) (fun _ _ ⟨_,_,_,e,_⟩=>⟨_,e⟩))<|Qf rfl Zex u_0<|Ql rfl Zdk u_0<|Qm rfl u_0<|Ql rfl Zbe u_0<|Qm rfl u_0<|o_p rfl (Zq rfl rfl (Opd.imp u_0 (fun _ _ h=>Zx h43 h)) (fun _ _ ⟨_,_,_,e,_⟩=>⟨_,e⟩))<|Qf rfl Zfs u_0<|Ql rfl Zdk u_0<|Qm rfl u_0<|o_p rfl (Zl Zm7 (Zee _ _ _ _ h45) rfl rfl (.cons u_0 (.cons u_1 (.cons u_2 (.cons u_3 .nil)))))<|o_p rfl (Zl Zm7 (Zee _ _ _ _ h47) rfl rfl (.cons u_0 (.cons u_1 (.cons u_2 (.cons u_3 .nil)))))<|Qa rfl u_0<|o_n) (fun a g hst hb=>?_)
    refine wp_ret ?_
    refine Z5 ?_
    refine Zo ?_
    obtain rfl:=Option.some.inj H0
    exact Z4 rfl hst hb (Zg (s:=8)) (hst.at 0 rfl)
   ·replace H0:=Zt hc41 H0
    obtain ⟨r48,h49,H0⟩:=Zc H0
    refine r_s (L:=[(0,_),(2,_),(3,_),(5,_)]) (T:=[⟨[.o 1],_,[],[],[136]⟩,⟨[.o 2],_,[],[],[137]⟩,⟨[.p 0 0,.p 1 0],_,[],[0,1],[138]⟩,⟨[.p 2 0],_,[],[0,1,2],[135]⟩]) (F:=[.o 0,.o 1,.o 2,.o 3,.p 3 0]) (hst.pick [0,1,2,3] rfl) hb Za
     (Qm rfl u_0<|Qm rfl u_0<|o_p rfl (Zl Zxe (Zmw _ _ h49) rfl rfl (.cons u_0 (.cons u_1 .nil)))<|Qa rfl u_0<|o_n) (fun a g hst hb=>?_)
    refine wp_cond_split (hst.bool 4 rfl) (fun hc50=>?_) (fun hc50=>?_)
    ·replace H0:=Zu hc50 H0
     obtain ⟨n51,h52,H0⟩:=Zc H0
     refine r_s (L:=[(0,_),(2,_),(3,_),(5,_)]) (T:=[⟨[.o 1],_,[],[],[139]⟩,⟨[.p 0 0],_,[],[0],[140]⟩,⟨[.p 1 0],_,[],[0,1],[141]⟩,⟨[.p 2 0],_,[],[0,1,2],[142]⟩,⟨[.p 3 0],_,[],Lr 4,[10]⟩]) (F:=[.o 0,.o 1,.o 2,.o 3,.p 4 0]) (hst.pick [0,1,2,3] rfl) hb Za
      (Qm rfl u_0<|o_p rfl (Zq rfl rfl (Opd.imp u_0 (fun _ _ h=>Zx h52 h)) (fun _ _ ⟨_,_,_,e,_⟩=>⟨_,e⟩))<|Qf rfl Zfs u_0<|Ql rfl Zdk u_0<|Qa rfl u_0<|o_n) (fun a g hst hb=>?_)
     obtain ⟨n53,h54,H0⟩:=Zc H0;obtain ⟨r55,h56,H0⟩:=Zc H0;obtain ⟨r57,h58,H0⟩:=Zc H0;obtain ⟨r59,h60,H0⟩:=Zc H0
     refine r_s (T:=⟨[.o 4],_,[],[],[143]⟩ :: ⟨[.p 0 0],_,[],[0],[144]⟩ :: ⟨[.p 1 0],_,[],[0,1],[145]⟩ :: ⟨[.p 2 0],_,[],[0,1,2],[146]⟩ :: ⟨[.o 4],_,[],[],[147]⟩ :: ⟨[.p 4 0],_,[],[4],[148]⟩ :: ⟨[.p 5 0],_,[],[4,5],[149]⟩ :: ⟨[.p 6 0],_,[],[4,5,6],[150]⟩ :: ⟨[.o 1],_,[],[],[151]⟩ :: ⟨[.p 8 0],_,[],[8],[152]⟩ :: ⟨[.p 9 0],_,[],[8,9],[153]⟩ :: ⟨[.p 10 0],_,[],[8,9,10],[154]⟩ :: ⟨[.o 1],_,[],[],[155]⟩ :: ⟨[.p 12 0],_,[],[12],[156]⟩ :: ⟨[.p 13 0],_,[],[12,13],[157]⟩ :: ⟨[.p 14 0],_,[],[12,13,14],[158]⟩ :: ⟨[.o 1],_,[],[],[159]⟩ :: ⟨[.p 16 0],_,[],[16],[160]⟩ :: ⟨[.p 17 0],_,[],[16,17],[161]⟩ :: ⟨[.p 18 0],_,[],[16,17,18],[162]⟩ :: ⟨[.o 4],_,[],[],[163]⟩ :: ⟨[.p 20 0],_,[],[20],[164]⟩ :: ⟨[.p 21 0],_,[],[20,21],[165]⟩ :: ⟨[.p 22 0],_,[],[20,21,22],[166]⟩ :: ⟨[.p 11 0,.p 15 0,.p 19 0,.p 23 0],_,[],List.range' 8 16,[167]⟩ :: ⟨[.o 0],_,[],[],[168]⟩ :: ⟨[.o 3],_,[],[],[169]⟩ :: ⟨[.o 4],_,[],[],[170]⟩ :: ⟨[.p 27 0],_,[],[27],[171]⟩ :: ⟨[.p 28 0],_,[],[27,28],[172]⟩ :: ⟨[.p 29 0],_,[],[27,28,29],[173]⟩ :: ⟨[.o 2],_,[],[],[174]⟩ :: ⟨[.p 25 0,.p 26 0,.p 30 0,.p 31 0],_,[],List.range' 8 24,[175]⟩ :: ⟨[.p 3 0,.p 7 0,.p 24 0,.p 32 0],_,[],Lr 33,[176]⟩ :: ⟨[.p 33 0],_,[],Lr 34,[8]⟩ :: []) (F:=[.p 34 0]) hst hb Za
      (Qm rfl u_0<|o_p rfl (Zq rfl rfl (Opd.imp u_0 (fun _ _ h=>Zx h54 h)) (fun _ _ ⟨_,_,_,e,_⟩=>⟨_,e⟩))<|Qf rfl Zfr u_0<|Ql rfl ty_9 u_0<|Qm rfl u_0<|o_p rfl (Zq rfl rfl (Opd.imp u_0 (fun _ _ h=>Zx h54 h)) (fun _ _ ⟨_,_,_,e,_⟩=>⟨_,e⟩))<|Qf rfl Ziu u_0<|Ql rfl Zbe u_0<|Qm rfl u_0<|o_p rfl (Zq rfl rfl (Opd.imp u_0 (fun _ _ h=>Zx h52 h)) (fun _ _ ⟨_,_,_,e,_⟩=>⟨_,e⟩))<|Qf rfl Zfr u_0<|Ql rfl ty_9 u_0<|Qm rfl u_0<|o_p rfl (Zq rfl rfl (Opd.imp u_0 (fun _ _ h=>Zx h52 h)) (fun _ _ ⟨_,_,_,e,_⟩=>⟨_,e⟩))<|Qf rfl Ziu u_0<|Ql rfl Zbe u_0<|Qm rfl u_0<|o_p rfl (Zq rfl rfl (Opd.imp u_0 (fun _ _ h=>Zx h52 h)) (fun _ _ ⟨_,_,_,e,_⟩=>⟨_,e⟩))<|Qf rfl Zex u_0<|Ql rfl Zdk u_0<|Qm rfl u_0<|o_p rfl (Zq rfl rfl (Opd.imp u_0 (fun _ _ h=>Zx h54 h)) (fun _ _ ⟨_,_,_,e,_⟩=>⟨_,e⟩))<|Qf rfl Zex u_0<|Ql rfl Zdk u_0<|o_p rfl (Zl Zm7 (Zee _ _ _ _ h56) rfl rfl (.cons u_0 (.cons u_1 (.cons u_2 (.cons u_3 .nil)))))<|Qm rfl u_0<|Ql rfl Zbe u_0<|Qm rfl u_0<|o_p rfl (Zq rfl rfl (Opd.imp u_0 (fun _ _ h=>Zx h54 h)) (fun _ _ ⟨_,_,_,e,_⟩=>⟨_,e⟩))<|Qf rfl Zfs u_0<|Ql rfl Zdk u_0<|Qm rfl u_0<|o_p rfl (Zl Zm7 (Zee _ _ _ _ h58) rfl rfl (.cons u_0 (.cons u_1 (.cons u_2 (.cons u_3 .nil)))))<|o_p rfl (Zl Zm7 (Zee _ _ _ _ h60) rfl rfl (.cons u_0 (.cons u_1 (.cons u_2 (.cons u_3 .nil)))))<|Qa rfl u_0<|o_n) (fun a g hst hb=>?_)
     refine wp_ret ?_
     refine Z5 ?_
     refine Zo ?_
     obtain rfl:=Option.some.inj H0
     exact Z4 rfl hst hb (Zg (s:=8)) (hst.at 0 rfl)
    ·replace H0:=Zt hc50 H0
     refine wp_skip ?_
     refine Zbc ?_
     refine Zp ?_
     obtain ⟨r61,h62,H0⟩:=Zc H0
     refine r_s (L:=[(0,_),(2,_),(3,_),(5,_)]) (T:=[⟨[.o 0],_,[],[],[177]⟩,⟨[.o 3],_,[],[],[178]⟩,⟨[.o 1],_,[],[],[179]⟩,⟨[.o 2],_,[],[],[180]⟩,⟨[.p 0 0,.p 1 0,.p 2 0,.p 3 0],_,[],Lr 4,[181]⟩,⟨[.p 4 0],_,[],Lr 5,[8]⟩]) (F:=[.p 5 0]) (hst.pick [0,1,2,3] rfl) hb Za
      (Qm rfl u_0<|Ql rfl Zbe u_0<|Qm rfl u_0<|Qm rfl u_0<|o_p rfl (Zl Zm7 (Zee _ _ _ _ h62) rfl rfl (.cons u_0 (.cons u_1 (.cons u_2 (.cons u_3 .nil)))))<|Qa rfl u_0<|o_n) (fun a g hst hb=>?_)
     refine wp_ret ?_
     obtain rfl:=Option.some.inj H0
     exact Z4 rfl hst hb (Zg (s:=8)) (hst.at 0 rfl)
theorem Ztn (self:shelf_nodeT → ByteArray → Zb → Option (shelf_nodeT)) (hself:∀ (a0:shelf_nodeT) (a1:ByteArray) (a2:Zb) {r:shelf_nodeT},self a0 a1 a2=some r → FnOk Tryz.prog 52 [(Zbd.pd a0),(pStr a1),(Ze.pd a2)] (Zbd.pd r)) (a0:shelf_nodeT) (a1:ByteArray) (a2:Zb) {r:shelf_nodeT} (h:Zj8 self a0 a1 a2=some r):FnOk Tryz.prog 52 [(Zbd.pd a0),(pStr a1),(Ze.pd a2)] (Zbd.pd r):=by
 have H0:=h
 unfold Zj8 at H0
 clear h
 refine Zbs (N:=78) Tryz.func52 rfl rfl (Qe rfl) rfl rfl (fun a g0 hst hb=>?_)
 refine r_s (T:=[⟨[.o 2],_,[],[],[5]⟩,⟨[],[(6,(Zbd.pd shelf_nodeT.nil))],[],[],[6]⟩]) (F:=[.o 0,.o 1,.p 0 0]) hst hb Za
  (Qb rfl u_0<|o_p rfl (Zcu rfl rfl (Opd.c (fun g=>Ze3 g)))<|o_n) (fun a g hst hb=>?_)
 refine wp_seq ?_
 refine wp_block ?_
 refine r_s (T:=[⟨[.o 0],_,[],[],[8]⟩,⟨[.p 0 0],_,[],[0],[9]⟩,⟨[.p 1 0],_,[],[0,1],[7]⟩]) (F:=[.o 0,.o 1,.o 2,.p 2 0]) hst hb Za
  (Qm rfl u_0<|o_p rfl (Zpr Tryz.underlying28 rfl rfl u_0 (Zf2 _))<|Qa rfl u_0<|o_n) (fun a g hst hb=>?_)
 refine wp_cond_split (hst.bool 3 rfl) (fun hc1=>?_) (fun hc1=>?_)
 ·replace H0:=Zu hc1 H0
  obtain ⟨r2,h3,H0⟩:=Zc H0
  refine r_s (L:=[(1,_),(5,_)]) (T:=[⟨[.o 0],_,[],[],[10]⟩,⟨[.o 1],_,[],[],[11]⟩,⟨[.p 0 0,.p 1 0],[(12,(Zbd.pd r2))],[],[0,1],[12]⟩,⟨[.p 2 0],_,[],[0,1,2],[6]⟩]) (F:=[.p 3 0]) (hst.pick [1,2] rfl) hb Za
   (Qm rfl u_0<|Ql rfl Zbe u_0<|o_p rfl (Zl Zm7 (Zee _ _ _ _ h3) rfl rfl (.cons u_0 (.cons u_1 (.cons (Opd.c (fun g=>Ze3 g)) (.cons (Opd.c (fun g=>Ze3 g)) .nil)))))<|Qa rfl u_0<|o_n) (fun a g hst hb=>?_)
  refine wp_ret ?_
  refine Z5 ?_
  refine Zo ?_
  obtain rfl:=Option.some.inj H0
  exact Z4 rfl hst hb (Zg (s:=6)) (hst.at 0 rfl)
 ·replace H0:=Zt hc1 H0
  obtain ⟨n4,h5,H0⟩:=Zc H0
  refine r_s (L:=[(0,_),(1,_),(5,_)]) (T:=[⟨[.o 1],_,[],[],[14]⟩,⟨[.o 0],_,[],[],[15]⟩,⟨[.p 1 0],_,[],[1],[16]⟩,⟨[.p 2 0],_,[],[1,2],[17]⟩,⟨[.p 3 0],_,[],[1,2,3],[18]⟩,⟨[.p 0 0,.p 4 0],_,[],Lr 5,[19]⟩,⟨[.p 5 0],_,[],Lr 6,[13]⟩]) (F:=[.o 0,.o 1,.o 2,.p 6 0]) (hst.pick [0,1,2] rfl) hb Za
   (Qm rfl u_0<|Qm rfl u_0<|o_p rfl (Zq rfl rfl (Opd.imp u_0 (fun _ _ h=>Zx h5 h)) (fun _ _ ⟨_,_,_,e,_⟩=>⟨_,e⟩))<|Qf rfl Zfr u_0<|Ql rfl ty_9 u_0<|o_p rfl (Zn7 rfl rfl u_0 u_1)<|Qa rfl u_0<|o_n) (fun a g hst hb=>?_)
  refine wp_cond_split (hst.bool 3 rfl) (fun hc6=>?_) (fun hc6=>?_)
  ·replace H0:=Zu hc6 H0
   obtain ⟨r7,h8,H0⟩:=Zc H0;obtain ⟨r9,h10,H0⟩:=Zc H0
   refine r_s (L:=[(0,_),(1,_),(5,_)]) (T:=⟨[.o 0],_,[],[],[20]⟩ :: ⟨[.p 0 0],_,[],[0],[21]⟩ :: ⟨[.p 1 0],_,[],[0,1],[22]⟩ :: ⟨[.p 2 0],_,[],[0,1,2],[23]⟩ :: ⟨[.o 0],_,[],[],[24]⟩ :: ⟨[.p 4 0],_,[],[4],[25]⟩ :: ⟨[.p 5 0],_,[],[4,5],[26]⟩ :: ⟨[.p 6 0],_,[],[4,5,6],[27]⟩ :: ⟨[.o 0],_,[],[],[28]⟩ :: ⟨[.p 8 0],_,[],[8],[29]⟩ :: ⟨[.p 9 0],_,[],[8,9],[30]⟩ :: ⟨[.p 10 0],_,[],[8,9,10],[31]⟩ :: ⟨[.o 1],_,[],[],[32]⟩ :: ⟨[.o 2],_,[],[],[33]⟩ :: ⟨[.p 11 0,.p 12 0,.p 13 0],_,[],List.range' 8 6,[34]⟩ :: ⟨[.o 0],_,[],[],[35]⟩ :: ⟨[.p 15 0],_,[],[15],[36]⟩ :: ⟨[.p 16 0],_,[],[15,16],[37]⟩ :: ⟨[.p 17 0],_,[],[15,16,17],[38]⟩ :: ⟨[.p 3 0,.p 7 0,.p 14 0,.p 18 0],_,[],Lr 19,[39]⟩ :: ⟨[.p 19 0],_,[],Lr 20,[6]⟩ :: []) (F:=[.p 20 0]) (hst.pick [0,1,2] rfl) hb Za
    (Qm rfl u_0<|o_p rfl (Zq rfl rfl (Opd.imp u_0 (fun _ _ h=>Zx h5 h)) (fun _ _ ⟨_,_,_,e,_⟩=>⟨_,e⟩))<|Qf rfl Zfr u_0<|Ql rfl ty_9 u_0<|Qm rfl u_0<|o_p rfl (Zq rfl rfl (Opd.imp u_0 (fun _ _ h=>Zx h5 h)) (fun _ _ ⟨_,_,_,e,_⟩=>⟨_,e⟩))<|Qf rfl Ziu u_0<|Ql rfl Zbe u_0<|Qm rfl u_0<|o_p rfl (Zq rfl rfl (Opd.imp u_0 (fun _ _ h=>Zx h5 h)) (fun _ _ ⟨_,_,_,e,_⟩=>⟨_,e⟩))<|Qf rfl Zex u_0<|Ql rfl Zdk u_0<|Qm rfl u_0<|Ql rfl Zbe u_0<|o_p rfl (Zl Z5u (hself _ _ _ h8) rfl rfl (.cons u_0 (.cons u_1 (.cons u_2 .nil))))<|Qm rfl u_0<|o_p rfl (Zq rfl rfl (Opd.imp u_0 (fun _ _ h=>Zx h5 h)) (fun _ _ ⟨_,_,_,e,_⟩=>⟨_,e⟩))<|Qf rfl Zfs u_0<|Ql rfl Zdk u_0<|o_p rfl (Zl Zxm (Zlz _ _ _ _ h10) rfl rfl (.cons u_0 (.cons u_1 (.cons u_2 (.cons u_3 .nil)))))<|Qa rfl u_0<|o_n) (fun a g hst hb=>?_)
   refine wp_ret ?_
   refine Z5 ?_
   refine Zo ?_
   obtain rfl:=Option.some.inj H0
   exact Z4 rfl hst hb (Zg (s:=6)) (hst.at 0 rfl)
  ·replace H0:=Zt hc6 H0
   refine r_s (L:=[(0,_),(1,_),(5,_)]) (T:=[⟨[.o 1],_,[],[],[41]⟩,⟨[.o 0],_,[],[],[42]⟩,⟨[.p 1 0],_,[],[1],[43]⟩,⟨[.p 2 0],_,[],[1,2],[44]⟩,⟨[.p 3 0],_,[],[1,2,3],[45]⟩,⟨[.p 0 0,.p 4 0],_,[],Lr 5,[46]⟩,⟨[.p 5 0],_,[],Lr 6,[40]⟩]) (F:=[.o 0,.o 1,.o 2,.p 6 0]) (hst.pick [0,1,2] rfl) hb Za
    (Qm rfl u_0<|Qm rfl u_0<|o_p rfl (Zq rfl rfl (Opd.imp u_0 (fun _ _ h=>Zx h5 h)) (fun _ _ ⟨_,_,_,e,_⟩=>⟨_,e⟩))<|Qf rfl Zfr u_0<|Ql rfl ty_9 u_0<|o_p rfl (Zxp rfl rfl u_0 u_1)<|Qa rfl u_0<|o_n) (fun a g hst hb=>?_)
   refine wp_cond_split (hst.bool 3 rfl) (fun hc11=>?_) (fun hc11=>?_)
   ·replace H0:=Zu hc11 H0
    obtain ⟨r12,h13,H0⟩:=Zc H0;obtain ⟨r14,h15,H0⟩:=Zc H0
    refine r_s (L:=[(0,_),(1,_),(5,_)]) (T:=⟨[.o 0],_,[],[],[47]⟩ :: ⟨[.p 0 0],_,[],[0],[48]⟩ :: ⟨[.p 1 0],_,[],[0,1],[49]⟩ :: ⟨[.p 2 0],_,[],[0,1,2],[50]⟩ :: ⟨[.o 0],_,[],[],[51]⟩ :: ⟨[.p 4 0],_,[],[4],[52]⟩ :: ⟨[.p 5 0],_,[],[4,5],[53]⟩ :: ⟨[.p 6 0],_,[],[4,5,6],[54]⟩ :: ⟨[.o 0],_,[],[],[55]⟩ :: ⟨[.p 8 0],_,[],[8],[56]⟩ :: ⟨[.p 9 0],_,[],[8,9],[57]⟩ :: ⟨[.p 10 0],_,[],[8,9,10],[58]⟩ :: ⟨[.o 0],_,[],[],[59]⟩ :: ⟨[.p 12 0],_,[],[12],[60]⟩ :: ⟨[.p 13 0],_,[],[12,13],[61]⟩ :: ⟨[.p 14 0],_,[],[12,13,14],[62]⟩ :: ⟨[.o 1],_,[],[],[63]⟩ :: ⟨[.o 2],_,[],[],[64]⟩ :: ⟨[.p 15 0,.p 16 0,.p 17 0],_,[],List.range' 12 6,[65]⟩ :: ⟨[.p 3 0,.p 7 0,.p 11 0,.p 18 0],_,[],Lr 19,[66]⟩ :: ⟨[.p 19 0],_,[],Lr 20,[6]⟩ :: []) (F:=[.p 20 0]) (hst.pick [0,1,2] rfl) hb Za
     (Qm rfl u_0<|o_p rfl (Zq rfl rfl (Opd.imp u_0 (fun _ _ h=>Zx h5 h)) (fun _ _ ⟨_,_,_,e,_⟩=>⟨_,e⟩))<|Qf rfl Zfr u_0<|Ql rfl ty_9 u_0<|Qm rfl u_0<|o_p rfl (Zq rfl rfl (Opd.imp u_0 (fun _ _ h=>Zx h5 h)) (fun _ _ ⟨_,_,_,e,_⟩=>⟨_,e⟩))<|Qf rfl Ziu u_0<|Ql rfl Zbe u_0<|Qm rfl u_0<|o_p rfl (Zq rfl rfl (Opd.imp u_0 (fun _ _ h=>Zx h5 h)) (fun _ _ ⟨_,_,_,e,_⟩=>⟨_,e⟩))<|Qf rfl Zex u_0<|Ql rfl Zdk u_0<|Qm rfl u_0<|o_p rfl (Zq rfl rfl (Opd.imp u_0 (fun _ _ h=>Zx h5 h)) (fun _ _ ⟨_,_,_,e,_⟩=>⟨_,e⟩))<|Qf rfl Zfs u_0<|Ql rfl Zdk u_0<|Qm rfl u_0<|Ql rfl Zbe u_0<|o_p rfl (Zl Z5u (hself _ _ _ h13) rfl rfl (.cons u_0 (.cons u_1 (.cons u_2 .nil))))<|o_p rfl (Zl Zxm (Zlz _ _ _ _ h15) rfl rfl (.cons u_0 (.cons u_1 (.cons u_2 (.cons u_3 .nil)))))<|Qa rfl u_0<|o_n) (fun a g hst hb=>?_)
    refine wp_ret ?_
    refine Z5 ?_
    refine Zo ?_
    obtain rfl:=Option.some.inj H0
    exact Z4 rfl hst hb (Zg (s:=6)) (hst.at 0 rfl)
   ·replace H0:=Zt hc11 H0
    refine wp_skip ?_
    refine Zbc ?_
    refine Zp ?_
    obtain ⟨r16,h17,H0⟩:=Zc H0
    refine r_s (L:=[(0,_),(1,_),(5,_)]) (T:=⟨[.o 1],_,[],[],[67]⟩ :: ⟨[.o 2],_,[],[],[68]⟩ :: ⟨[.o 0],_,[],[],[69]⟩ :: ⟨[.p 2 0],_,[],[2],[70]⟩ :: ⟨[.p 3 0],_,[],[2,3],[71]⟩ :: ⟨[.p 4 0],_,[],[2,3,4],[72]⟩ :: ⟨[.o 0],_,[],[],[73]⟩ :: ⟨[.p 6 0],_,[],[6],[74]⟩ :: ⟨[.p 7 0],_,[],[6,7],[75]⟩ :: ⟨[.p 8 0],_,[],[6,7,8],[76]⟩ :: ⟨[.p 0 0,.p 1 0,.p 5 0,.p 9 0],_,[],Lr 10,[77]⟩ :: ⟨[.p 10 0],_,[],Lr 11,[6]⟩ :: []) (F:=[.p 11 0]) (hst.pick [0,1,2] rfl) hb Za
     (Qm rfl u_0<|Ql rfl Zbe u_0<|Qm rfl u_0<|o_p rfl (Zq rfl rfl (Opd.imp u_0 (fun _ _ h=>Zx h5 h)) (fun _ _ ⟨_,_,_,e,_⟩=>⟨_,e⟩))<|Qf rfl Zex u_0<|Ql rfl Zdk u_0<|Qm rfl u_0<|o_p rfl (Zq rfl rfl (Opd.imp u_0 (fun _ _ h=>Zx h5 h)) (fun _ _ ⟨_,_,_,e,_⟩=>⟨_,e⟩))<|Qf rfl Zfs u_0<|Ql rfl Zdk u_0<|o_p rfl (Zl Zm7 (Zee _ _ _ _ h17) rfl rfl (.cons u_0 (.cons u_1 (.cons u_2 (.cons u_3 .nil)))))<|Qa rfl u_0<|o_n) (fun a g hst hb=>?_)
    refine wp_ret ?_
    obtain rfl:=Option.some.inj H0
    exact Z4 rfl hst hb (Zg (s:=6)) (hst.at 0 rfl)
theorem Zol:∀ (n:Nat) (a0:shelf_nodeT) (a1:ByteArray) (a2:Zb) {r:shelf_nodeT},Zgh n a0 a1 a2=some r → FnOk Tryz.prog 52 [(Zbd.pd a0),(pStr a1),(Ze.pd a2)] (Zbd.pd r)
 | 0,_,_,_,_,h=>by simp [Zgh] at h
 | n + 1,a0,a1,a2,_,h=>Ztn (Zgh n) (fun a0 a1 a2 r h=>Zol n a0 a1 a2 h) a0 a1 a2 h
theorem Zvj (a0:shelf_nodeT) (a1:ByteArray) (a2:Zb) {r:shelf_nodeT} (h:Zo0 a0 a1 a2=some r):FnOk Tryz.prog 52 [(Zbd.pd a0),(pStr a1),(Ze.pd a2)] (Zbd.pd r):=Zol _ a0 a1 a2 h
theorem Zkw (a0:Zk) (a1:ByteArray) (a2:Zb) {r:Zk × Int} (h:Zdc a0 a1 a2=some r):FnOk Tryz.prog 29 [(Zy.pd a0),(pStr a1),(Ze.pd a2)] (pTup [(Zy.pd r.1),(pInt .i64 r.2)]):=by
 have H0:=h
 unfold Zdc at H0
 clear h
 refine Zbs (N:=50) Tryz.func29 rfl rfl (Qe rfl) rfl rfl (fun a g0 hst hb=>?_)
 refine r_s (T:=[⟨[.o 0],_,[],[],[3]⟩,⟨[.o 2],_,[],[],[5]⟩,⟨[],[(6,(pBox Zy 6 (default:Zk)))],[7],[],[6]⟩,⟨[],_,[],[],[7]⟩]) (F:=[.o 1,.p 0 0,.p 1 0,.p 2 0]) hst hb Za
  (Qb rfl u_0<|Qb rfl u_0<|o_p rfl (Zbi (zs:=[.pointer none,.int .i64 0]) (by kernel_rfl) (fun g=>Zdx g) rfl rfl)<|Qa rfl c_i<|o_n) (fun a g hst hb=>?_)
 refine wp_seq ?_
 refine r_s (T:=[⟨[.o 0],_,[],[],[11]⟩,⟨[.p 0 0],_,[],[0],[12]⟩,⟨[.p 1 0],_,[],[0,1],[13]⟩,⟨[.p 2 0,.o 0],_,[],[0,1,2],[14]⟩,⟨[.p 2 0,.p 3 0],_,[],Lr 4,[15]⟩,⟨[.p 2 0,.p 4 0],_,[],Lr 5,[16]⟩,⟨[.p 2 0,.p 5 0],_,[],Lr 6,[17]⟩]) (F:=[.o 0,.o 1,.o 2,.o 3,.p 6 0]) hst hb Za
  (Qm rfl u_0<|o_p rfl (Zlf rfl rfl u_0 c_s)<|Qm rfl u_0<|o_g (Qg_f rfl (fun hG=>Z6 rfl rfl u_0))<|o_g (Qg_f rfl (fun hG=>Zfy Tryz.underlying9 rfl rfl (Opd.gd hG u_0)))<|o_g (Qg_f rfl (fun hG=>Zct rfl rfl (Opd.gd hG u_0) c_i))<|o_p rfl (Zbp rfl rfl u_0 (fun hz=>(Opd.gd (bNF hz) u_1)))<|o_n) (fun a g hst hb=>?_)
 refine wp_cond_split (hst.bool 4 rfl) (fun hc1=>?_) (fun hc1=>?_)
 ·replace H0:=Zu hc1 H0
  refine r_s (L:=[(3,_),(6,_)]) (T:=[⟨[.o 0],_,[],[],[18]⟩,⟨[.p 0 0,.o 1],_,[7],[0],[6]⟩,⟨[],_,[],[0,1],[7]⟩]) (F:=[.p 1 0,.p 2 0]) (hst.pick [1,3] rfl) hb Za
   (Ql rfl Zbv u_0<|o_p rfl (Z3 Zbv rfl rfl u_1 u_0)<|Qa rfl c_i<|o_n) (fun a g hst hb=>?_)
  refine wp_ret ?_
  refine Zo ?_
  obtain rfl:=Option.some.inj H0
  obtain ⟨u0,hu0,hq0⟩:=Zbh (P:=Tryz.prog) Zbv (hst.at 0 rfl)
  exact Zdw rfl hst hb hu0 (Zg (s:=7)) (Zcw hq0 (hst.at 1 rfl))
 ·replace H0:=Zt hc1 H0
  refine wp_skip ?_
  refine Zp ?_
  refine wp_seq ?_
  obtain ⟨r2,h3,H0⟩:=Zc H0
  refine r_s (L:=[(1,_),(3,_),(5,_),(6,_)]) (T:=[⟨[.o 2],_,[],[],[19]⟩,⟨[.p 0 0],_,[],[0],[20]⟩,⟨[.p 1 0],_,[],[0,1],[8]⟩]) (F:=[.o 0,.o 1,.o 2,.o 3,.p 2 0]) (hst.pick [0,1,2,3] rfl) hb Za
   (Ql rfl Zbe u_0<|o_p rfl (Zl Z5q (Zqv _ h3) rfl rfl (.cons u_0 .nil))<|Qa rfl u_0<|o_n) (fun a g hst hb=>?_)
  refine r_s (T:=[⟨[.o 4],_,[],[],[21]⟩,⟨[.p 0 0],_,[],[0],[22]⟩]) (F:=[.o 0,.o 1,.o 2,.o 3,.o 4,.p 1 0]) hst hb Za
   (Qm rfl u_0<|o_p rfl (Zdn rfl rfl u_0 c_i)<|o_n) (fun a g hst hb=>?_)
  refine wp_cond_split (hst.bool 5 rfl) (fun hc4=>?_) (fun hc4=>?_)
  ·replace H0:=Zu hc4 H0
   refine r_s (L:=[(3,_),(6,_),(8,_)]) (T:=[⟨[.o 0],_,[],[],[23]⟩,⟨[.o 2],_,[],[],[24]⟩,⟨[.p 0 0,.o 1],_,[7],[0],[6]⟩,⟨[.p 1 0],_,[],[0,1,2],[7]⟩]) (F:=[.p 2 0,.p 3 0]) (hst.pick [1,3,4] rfl) hb Za
    (Ql rfl Zbv u_0<|Qm rfl u_0<|o_p rfl (Z3 Zbv rfl rfl u_1 u_0)<|Qa rfl u_0<|o_n) (fun a g hst hb=>?_)
   refine wp_ret ?_
   refine Zo ?_
   obtain rfl:=Option.some.inj H0
   obtain ⟨u0,hu0,hq0⟩:=Zbh (P:=Tryz.prog) Zbv (hst.at 0 rfl)
   exact Zdw rfl hst hb hu0 (Zg (s:=7)) (Zcw hq0 (hst.at 1 rfl))
  ·replace H0:=Zt hc4 H0
   refine wp_skip ?_
   refine Zp ?_
   refine wp_seq ?_
   obtain ⟨r5,h6,H0⟩:=Zc H0
   refine r_s (L:=[(1,_),(3,_),(5,_),(6,_)]) (T:=[⟨[.o 1],_,[],[],[26]⟩,⟨[.o 0],_,[],[],[27]⟩,⟨[.p 0 0,.p 1 0],_,[],[0,1],[28]⟩,⟨[.p 2 0],_,[],[0,1,2],[25]⟩,⟨[.p 3 0],_,[],Lr 4,[29]⟩,⟨[.p 3 0],_,[],Lr 4,[30]⟩,⟨[],[(9,(pBox Ze 9 (default:Zb)))],[10],[],[9]⟩,⟨[.p 4 0,.p 6 0],_,[10],[0,1,2,3,4,6],[9]⟩,⟨[.p 5 0],_,[],Lr 8,[10]⟩]) (F:=[.o 0,.o 1,.o 2,.o 3,.p 8 0]) (hst.pick [0,1,2,3] rfl) hb Za
    (Ql rfl Zbv u_0<|Qm rfl u_0<|o_p rfl (Zl Zva (Zhj _ _ h6) rfl rfl (.cons u_0 (.cons u_1 .nil)))<|Qm rfl u_0<|o_p rfl (Zz rfl rfl u_0 rfl)<|o_p rfl (Zz rfl rfl u_0 rfl)<|o_p rfl (Zbi (zs:=[.int .i64 0,.int .i64 0,.int .i64 0,.int .i64 0,.float .f64 0,.int .i64 0,.string ByteArray.empty,.slice none 0 0]) (by kernel_rfl) (fun g=>Zb2 g) rfl rfl)<|o_p rfl (Zb5 Zbe rfl rfl u_1 u_0)<|Qa rfl u_0<|o_n) (fun a g hst hb=>?_)
   obtain ⟨r7,h8,H0⟩:=Zc H0
   refine r_s (T:=[⟨[.o 4],_,[],[],[31]⟩,⟨[.p 0 0],_,[],[0],[32]⟩,⟨[.p 1 0],_,[],[0,1],[33]⟩,⟨[.p 2 0,.o 1],_,[],[0,1,2],[34]⟩,⟨[.p 2 0,.p 3 0],_,[],Lr 4,[35]⟩,⟨[.p 2 0,.o 1],_,[],[0,1,2],[36]⟩,⟨[.p 2 0,.p 5 0],_,[],[0,1,2,5],[37]⟩,⟨[.p 2 0,.p 4 0,.p 6 0],_,[],Lr 7,[38]⟩,⟨[.p 2 0,.p 7 0],_,[],Lr 8,[39]⟩]) (F:=[.o 0,.o 1,.o 2,.o 3,.p 8 0]) hst hb Za
    (Qm rfl u_0<|Qn rfl u_0<|Qm rfl u_0<|o_g (Qg_t rfl (fun hG=>Zv Zbv rfl rfl u_0))<|o_g (Qg_t rfl (fun hG=>Zl Zxw (Ziz _ (Zbn h8 hG)) rfl rfl (.cons (Opd.gd hG u_0) .nil)))<|o_g (Qg_t rfl (fun hG=>Zi Zu9 rfl rfl u_0))<|o_g (Qg_t rfl (fun hG=>Zv ty_3 rfl rfl (Opd.gd hG u_0)))<|o_g (Qg_t rfl (fun hG=>Zmx rfl rfl (Opd.gd hG u_0) (Opd.gd hG u_1)))<|o_p rfl (Zbk rfl rfl u_0 (fun hz=>(Opd.gd hz u_1)))<|o_n) (fun a g hst hb=>?_)
   refine wp_cond_split (hst.bool 4 rfl) (fun hc9=>?_) (fun hc9=>?_)
   ·replace H0:=Zu hc9 H0
    refine r_s (L:=[(3,_),(6,_)]) (T:=[⟨[.o 0],_,[],[],[40]⟩,⟨[.p 0 0,.o 1],_,[7],[0],[6]⟩,⟨[],_,[],[0,1],[7]⟩]) (F:=[.p 1 0,.p 2 0]) (hst.pick [1,3] rfl) hb Za
     (Ql rfl Zbv u_0<|o_p rfl (Z3 Zbv rfl rfl u_1 u_0)<|Qa rfl c_i<|o_n) (fun a g hst hb=>?_)
    refine wp_ret ?_
    refine Zo ?_
    obtain rfl:=Option.some.inj H0
    obtain ⟨u0,hu0,hq0⟩:=Zbh (P:=Tryz.prog) Zbv (hst.at 0 rfl)
    exact Zdw rfl hst hb hu0 (Zg (s:=7)) (Zcw hq0 (hst.at 1 rfl))
   ·replace H0:=Zt hc9 H0
    refine wp_skip ?_
    refine Zp ?_
    obtain ⟨r10,h11,H0⟩:=Zc H0;obtain ⟨r12,h13,H0⟩:=Zc H0
    refine r_s (L:=[(1,_),(3,_),(5,_),(6,_)]) (T:=[⟨[.o 1],_,[],[],[41]⟩,⟨[.p 0 0],_,[],[0],[42]⟩,⟨[.o 0],_,[],[],[43]⟩,⟨[.o 2],_,[],[],[44]⟩,⟨[.p 3 0],_,[],[3],[45]⟩,⟨[.p 1 0,.p 2 0,.p 4 0],_,[],Lr 5,[46]⟩,⟨[.o 1],_,[],[],[47]⟩,⟨[.p 6 0],_,[],[6],[48]⟩,⟨[.p 5 0,.p 7 0],_,[],Lr 8,[49]⟩,⟨[.p 8 0,.o 3],_,[7],Lr 9,[6]⟩,⟨[],_,[],Lr 10,[7]⟩]) (F:=[.p 9 0,.p 10 0]) (hst.pick [0,1,2,3] rfl) hb Za
     (Qf rfl Zr3 u_0<|Ql rfl Zdk u_0<|Qm rfl u_0<|Ql rfl Zbe u_0<|o_p rfl (Zl Zo2 (Zg4 _ h11) rfl rfl (.cons u_0 .nil))<|o_p rfl (Zl Z5u (Zvj _ _ _ h13) rfl rfl (.cons u_0 (.cons u_1 (.cons u_2 .nil))))<|Qf rfl Zu9 u_0<|Ql rfl ty_3 u_0<|o_p rfl (Zzq rfl rfl u_0 u_1)<|o_p rfl (Z3 Zbv rfl rfl u_1 u_0)<|Qa rfl c_i<|o_n) (fun a g hst hb=>?_)
    refine wp_ret ?_
    obtain rfl:=Option.some.inj H0
    obtain ⟨u0,hu0,hq0⟩:=Zbh (P:=Tryz.prog) Zbv (hst.at 0 rfl)
    exact Zdw rfl hst hb hu0 (Zg (s:=7)) (Zcw hq0 (hst.at 1 rfl))
theorem Zoh (a0:List ByteArray) (a1:ByteArray) {r:Int} (h:Zg8 a0 a1=some r):FnOk Tryz.prog 59 [(Kd.str.sl.pd a0),(pStr a1)] (pInt .i64 r):=by
 have H0:=h
 unfold Zg8 at H0
 clear h
 refine Zbs (N:=19) Tryz.func59 rfl rfl (Qe rfl) rfl rfl (fun a g0 hst hb=>?_)
 refine r_s (T:=[⟨[],_,[],[],[4]⟩]) (F:=[.o 0,.o 1]) hst hb Za
  (Qa rfl c_i<|o_n) (fun a g hst hb=>?_)
 refine wp_seq ?_
 refine r_s (T:=[⟨[.o 0],_,[],[],[6]⟩,⟨[.p 0 0],_,[],[0],[7]⟩,⟨[],_,[],[],[8]⟩]) (F:=[.o 0,.o 1,.p 0 0,.p 1 0,.p 2 0]) hst hb Za
  (Qm rfl u_0<|o_p rfl (Zbx Tryz.underlying26 rfl rfl u_0)<|Qm rfl c_i<|o_n) (fun a g hst hb=>?_)
 obtain ⟨z6,hz1,H0⟩:=Zc H0
 refine Zb3 (fun a w=>∃ (g:G),w=g.w ∧ St 19 [] a g ∧ Base g0 g ∧ (.inr ())=z6) ?_ ?_
 ·rintro a w ⟨g,rfl,hst,hb,rfl⟩
  refine Zp ?_
  refine r_s (T:=[⟨[],_,[],[],[4]⟩]) (F:=[.p 0 0]) hst hb Za
   (Qa rfl c_i<|o_n) (fun a g hst hb=>?_)
  refine wp_ret ?_
  obtain rfl:=Option.some.inj H0
  exact Z4 rfl hst hb (Zg (s:=4)) (hst.at 0 rfl)
 ·refine wp_block ?_
  refine wp_loop_ghost (fun n a w=>∃ (x1:Int) (g:G),w=g.w ∧ St 19 [(0,(Kd.str.sl.pd a0)),(1,(pStr a1)),(6,(Kd.str.sl.pd a0)),(7,(pInt .i64 (a0.length:Int))),(8,(pInt .i64 x1))] a g ∧ Base g0 g ∧ Zcv a0 a1 n x1=some z6) (Int.toNat ((a0.length:Int) - (0:Int)) + 1) ⟨(0:Int),g,rfl,(hst.pick [0,1,2,3,4] rfl),hb,hz1⟩ (fun n a w hI=>?_)
  obtain ⟨x1,g,rfl,hst,hb,H1⟩:=hI
  cases n with
  | zero=>exact absurd H1 (by simp [Zcv])
  | succ n =>
   rw [Zcv] at H1
   refine r_s (T:=[⟨[.o 4,.o 3],_,[],[],[9]⟩]) (F:=[.o 0,.o 1,.o 2,.o 3,.o 4,.p 0 0]) hst hb Za
    (o_p rfl (Zca rfl rfl u_0 u_1)<|o_n) (fun a g hst hb=>?_)
   refine wp_seq ?_
   refine wp_cond_split (hst.bool 5 rfl) (fun hc2=>?_) (fun hc2=>?_)
   ·replace H1:=Zu hc2 H1
    refine wp_skip ?_
    refine Zp ?_
    refine wp_seq ?_
    refine wp_block ?_
    refine r_s (L:=[(0,_),(1,_),(6,_),(7,_),(8,_)]) (T:=[⟨[.o 4],_,[],[],[10]⟩,⟨[.p 0 0],_,[],[0],[5]⟩]) (F:=[.o 0,.o 1,.p 1 0,.o 2,.o 3,.o 4]) (hst.pick [0,1,2,3,4] rfl) hb Za
     (Qm rfl u_0<|Qa rfl u_0<|o_n) (fun a g hst hb=>?_)
    obtain ⟨e3,h4,H1⟩:=Zc H1
    refine r_s (T:=[⟨[.o 1],_,[],[],[11]⟩,⟨[.o 0],_,[],[],[12]⟩,⟨[.o 2],_,[],[],[13]⟩,⟨[.p 1 0,.p 2 0],_,[],[1,2],[14]⟩,⟨[.p 3 0],_,[],[1,2,3],[15]⟩,⟨[.p 0 0,.p 4 0],_,[],Lr 5,[16]⟩]) (F:=[.o 0,.o 1,.o 2,.o 3,.o 4,.o 5,.p 5 0]) hst hb Za
     (Qm rfl u_0<|Qm rfl u_0<|Qm rfl u_0<|o_p rfl (Zbl Tryz.underlying26 sz_9 rfl rfl u_0 u_1 h4)<|Ql rfl ty_9 u_0<|o_p rfl (Zlf rfl rfl u_0 u_1)<|o_n) (fun a g hst hb=>?_)
    refine wp_cond_split (hst.bool 6 rfl) (fun hc5=>?_) (fun hc5=>?_)
    ·replace H1:=Zu hc5 H1
     refine r_s (L:=[(5,_)]) (T:=[⟨[.o 0],_,[],[],[17]⟩,⟨[.p 0 0],_,[],[0],[4]⟩]) (F:=[.p 1 0]) (hst.pick [2] rfl) hb Za
      (Qm rfl u_0<|Qa rfl u_0<|o_n) (fun a g hst hb=>?_)
     refine wp_ret ?_
     refine Z5 ?_
     refine Zo ?_
     refine Zo ?_
     refine Z5 ?_
     refine Zo ?_
     refine Zo ?_
     obtain rfl:=Option.some.inj H1
     obtain rfl:=Option.some.inj H0
     exact Z4 rfl hst hb (Zg (s:=4)) (hst.at 0 rfl)
    ·replace H1:=Zt hc5 H1
     refine wp_skip ?_
     refine Zbc ?_
     refine Zp ?_
     refine r_g (L:=[(0,_),(1,_),(6,_),(7,_),(8,_)]) (T:=[⟨[.o 4],_,[],[],[18]⟩,⟨[.p 0 0],_,[],[0],[8]⟩]) (F:=[.o 0,.o 1,.o 2,.o 3,.p 1 0]) (hst.pick [0,1,3,4,5] rfl) hb Za
      (o_p rfl (Zb0 rfl rfl u_0 c_i rfl)<|Qm rfl u_0<|o_n) (fun a g hst hb=>?_)
     exact ⟨n,Nat.lt_succ_self _,(IntKind.i64.wrap (x1 + (1:Int))),g,rfl,(hst.pick [0,1,2,3,4] rfl),hb,H1⟩
   ·replace H1:=Zt hc2 H1
    refine wp_exit ?_
    refine Zby ?_
    refine Zby ?_
    refine Zcb ?_
    exact ⟨g,rfl,(hst.pick [] rfl),hb,Option.some.inj H1⟩
theorem Zhb (a0:List ByteArray) (a1:ByteArray) {r:Bool} (h:Zdi a0 a1=some r):FnOk Tryz.prog 38 [(Kd.str.sl.pd a0),(pStr a1)] (Zbf r):=by
 have H0:=h
 unfold Zdi at H0
 clear h
 refine Zbs (N:=9) Tryz.func38 rfl rfl (Qe rfl) rfl rfl (fun a g0 hst hb=>?_)
 refine r_s (T:=[⟨[],_,[],[],[4]⟩]) (F:=[.o 0,.o 1]) hst hb Za
  (Qa rfl c_b<|o_n) (fun a g hst hb=>?_)
 obtain ⟨r1,h2,H0⟩:=Zc H0
 refine r_s (T:=[⟨[.o 0],_,[],[],[5]⟩,⟨[.o 1],_,[],[],[6]⟩,⟨[.p 0 0,.p 1 0],_,[],[0,1],[7]⟩,⟨[.p 2 0],_,[],[0,1,2],[8]⟩,⟨[.p 3 0],_,[],Lr 4,[4]⟩]) (F:=[.p 4 0]) hst hb Za
  (Qm rfl u_0<|Qm rfl u_0<|o_p rfl (Zl Zbfb (Zoh _ _ h2) rfl rfl (.cons u_0 (.cons u_1 .nil)))<|o_p rfl (Zmx rfl rfl u_0 c_i)<|Qa rfl u_0<|o_n) (fun a g hst hb=>?_)
 refine wp_ret ?_
 obtain rfl:=Option.some.inj H0
 exact Z4 rfl hst hb (Zg (s:=4)) (hst.at 0 rfl)
theorem Ztl (a0:shelf_nodeT) {r:shelf_nodeT} (h:Zj3 a0=some r):FnOk Tryz.prog 88 [(Zbd.pd a0)] (Zbd.pd r):=by
 have H0:=h
 unfold Zj3 at H0
 clear h
 refine Zbs (N:=13) Tryz.func88 rfl rfl (Qe rfl) rfl rfl (fun a g0 hst hb=>?_)
 refine r_s (T:=[⟨[],[(2,(Zbd.pd shelf_nodeT.nil))],[],[],[2]⟩]) (F:=[.o 0]) hst hb Za
  (o_p rfl (Zcu rfl rfl (Opd.c (fun g=>Ze3 g)))<|o_n) (fun a g hst hb=>?_)
 obtain ⟨z6,hz1,H0⟩:=Zc H0
 refine wp_seq ?_
 refine Zb3 (fun a w=>∃ (y5:shelf_nodeT) (g:G),w=g.w ∧ St 13 [(0,(Zbd.pd y5))] a g ∧ Base g0 g ∧ y5=z6) ?_ ?_
 ·rintro a w ⟨y5,g,rfl,hst,hb,rfl⟩
  refine Zp ?_
  refine r_s (T:=[⟨[.o 0],_,[],[],[12]⟩,⟨[.p 0 0],_,[],[0],[2]⟩]) (F:=[.p 1 0]) hst hb Za
   (Qm rfl u_0<|Qa rfl u_0<|o_n) (fun a g hst hb=>?_)
  refine wp_ret ?_
  obtain rfl:=Option.some.inj H0
  exact Z4 rfl hst hb (Zg (s:=2)) (hst.at 0 rfl)
 ·refine wp_block ?_
  refine wp_loop_ghost (fun n a w=>∃ (x1:shelf_nodeT) (g:G),w=g.w ∧ St 13 [(0,(Zbd.pd x1))] a g ∧ Base g0 g ∧ Zf5 n x1=some z6) (a0.hh + 1) ⟨a0,g,rfl,(hst.pick [0] rfl),hb,hz1⟩ (fun n a w hI=>?_)
  obtain ⟨x1,g,rfl,hst,hb,H1⟩:=hI
  cases n with
  | zero=>exact absurd H1 (by simp [Zf5])
  | succ n =>
   rw [Zf5] at H1
   refine wp_seq ?_
   obtain ⟨n2,h3,H1⟩:=Zc H1
   refine r_s (T:=[⟨[.o 0],_,[],[],[3]⟩,⟨[.p 0 0],_,[],[0],[4]⟩,⟨[.p 1 0],_,[],[0,1],[5]⟩,⟨[.p 2 0],_,[],[0,1,2],[6]⟩,⟨[.p 3 0],_,[],Lr 4,[7]⟩]) (F:=[.o 0,.p 4 0]) hst hb Za
    (Qm rfl u_0<|o_p rfl (Zq rfl rfl (Opd.imp u_0 (fun _ _ h=>Zx h3 h)) (fun _ _ ⟨_,_,_,e,_⟩=>⟨_,e⟩))<|Qf rfl Zex u_0<|Ql rfl Zdk u_0<|o_p rfl (Z26 Tryz.underlying28 rfl rfl u_0 (Zf2 _))<|o_n) (fun a g hst hb=>?_)
   refine wp_cond_split (hst.bool 1 rfl) (fun hc4=>?_) (fun hc4=>?_)
   ·replace H1:=Zu hc4 H1
    refine wp_skip ?_
    refine Zp ?_
    refine wp_block ?_
    refine r_g (L:=[(0,_)]) (T:=[⟨[.o 0],_,[],[],[8]⟩,⟨[.p 0 0],_,[],[0],[9]⟩,⟨[.p 1 0],_,[],[0,1],[10]⟩,⟨[.p 2 0],_,[],[0,1,2],[11]⟩,⟨[.p 3 0],_,[],Lr 4,[0]⟩]) (F:=[.p 4 0]) (hst.pick [0] rfl) hb Za
     (Qm rfl u_0<|o_p rfl (Zq rfl rfl (Opd.imp u_0 (fun _ _ h=>Zx h3 h)) (fun _ _ ⟨_,_,_,e,_⟩=>⟨_,e⟩))<|Qf rfl Zex u_0<|Ql rfl Zdk u_0<|Qa rfl u_0<|o_n) (fun a g hst hb=>?_)
    refine Zbc ?_
    exact ⟨n,Nat.lt_succ_self _,n2.left,g,rfl,(hst.pick [0] rfl),hb,H1⟩
   ·replace H1:=Zt hc4 H1
    refine wp_exit ?_
    refine Zby ?_
    refine Zby ?_
    refine Zcb ?_
    exact ⟨x1,g,rfl,(hst.pick [0] rfl),hb,Option.some.inj H1⟩
theorem Ztj (self:shelf_nodeT → ByteArray → Option (shelf_nodeT)) (hself:∀ (a0:shelf_nodeT) (a1:ByteArray) {r:shelf_nodeT},self a0 a1=some r → FnOk Tryz.prog 60 [(Zbd.pd a0),(pStr a1)] (Zbd.pd r)) (a0:shelf_nodeT) (a1:ByteArray) {r:shelf_nodeT} (h:Zlq self a0 a1=some r):FnOk Tryz.prog 60 [(Zbd.pd a0),(pStr a1)] (Zbd.pd r):=by
 have H0:=h
 unfold Zlq at H0
 clear h
 refine Zbs (N:=108) Tryz.func60 rfl rfl (Qe rfl) rfl rfl (fun a g0 hst hb=>?_)
 refine r_s (T:=[⟨[],[(4,(Zbd.pd shelf_nodeT.nil))],[],[],[4]⟩]) (F:=[.o 0,.o 1]) hst hb Za
  (o_p rfl (Zcu rfl rfl (Opd.c (fun g=>Ze3 g)))<|o_n) (fun a g hst hb=>?_)
 refine wp_seq ?_
 refine wp_block ?_
 refine r_s (T:=[⟨[.o 0],_,[],[],[7]⟩,⟨[.p 0 0],_,[],[0],[8]⟩,⟨[.p 1 0],_,[],[0,1],[6]⟩]) (F:=[.o 0,.o 1,.p 2 0]) hst hb Za
  (Qm rfl u_0<|o_p rfl (Zpr Tryz.underlying28 rfl rfl u_0 (Zf2 _))<|Qa rfl u_0<|o_n) (fun a g hst hb=>?_)
 refine wp_cond_split (hst.bool 2 rfl) (fun hc1=>?_) (fun hc1=>?_)
 ·replace H0:=Zu hc1 H0
  refine r_s (L:=[]) (T:=[⟨[],[(4,(Zbd.pd shelf_nodeT.nil))],[],[],[4]⟩]) (F:=[.p 0 0]) (hst.pick [] rfl) hb Za
   (o_p rfl (Zcu rfl rfl (Opd.c (fun g=>Ze3 g)))<|o_n) (fun a g hst hb=>?_)
  refine wp_ret ?_
  refine Z5 ?_
  refine Zo ?_
  obtain rfl:=Option.some.inj H0
  exact Z4 rfl hst hb (Zg (s:=4)) (hst.at 0 rfl)
 ·replace H0:=Zt hc1 H0
  obtain ⟨n2,h3,H0⟩:=Zc H0
  refine r_s (L:=[(0,_),(1,_)]) (T:=[⟨[.o 1],_,[],[],[10]⟩,⟨[.o 0],_,[],[],[11]⟩,⟨[.p 1 0],_,[],[1],[12]⟩,⟨[.p 2 0],_,[],[1,2],[13]⟩,⟨[.p 3 0],_,[],[1,2,3],[14]⟩,⟨[.p 0 0,.p 4 0],_,[],Lr 5,[15]⟩,⟨[.p 5 0],_,[],Lr 6,[9]⟩]) (F:=[.o 0,.o 1,.p 6 0]) (hst.pick [0,1] rfl) hb Za
   (Qm rfl u_0<|Qm rfl u_0<|o_p rfl (Zq rfl rfl (Opd.imp u_0 (fun _ _ h=>Zx h3 h)) (fun _ _ ⟨_,_,_,e,_⟩=>⟨_,e⟩))<|Qf rfl Zfr u_0<|Ql rfl ty_9 u_0<|o_p rfl (Zn7 rfl rfl u_0 u_1)<|Qa rfl u_0<|o_n) (fun a g hst hb=>?_)
  refine wp_cond_split (hst.bool 2 rfl) (fun hc4=>?_) (fun hc4=>?_)
  ·replace H0:=Zu hc4 H0
   obtain ⟨r5,h6,H0⟩:=Zc H0;obtain ⟨r7,h8,H0⟩:=Zc H0
   refine r_s (L:=[(0,_),(1,_)]) (T:=⟨[.o 0],_,[],[],[16]⟩ :: ⟨[.p 0 0],_,[],[0],[17]⟩ :: ⟨[.p 1 0],_,[],[0,1],[18]⟩ :: ⟨[.p 2 0],_,[],[0,1,2],[19]⟩ :: ⟨[.o 0],_,[],[],[20]⟩ :: ⟨[.p 4 0],_,[],[4],[21]⟩ :: ⟨[.p 5 0],_,[],[4,5],[22]⟩ :: ⟨[.p 6 0],_,[],[4,5,6],[23]⟩ :: ⟨[.o 0],_,[],[],[24]⟩ :: ⟨[.p 8 0],_,[],[8],[25]⟩ :: ⟨[.p 9 0],_,[],[8,9],[26]⟩ :: ⟨[.p 10 0],_,[],[8,9,10],[27]⟩ :: ⟨[.o 1],_,[],[],[28]⟩ :: ⟨[.p 11 0,.p 12 0],_,[],List.range' 8 5,[29]⟩ :: ⟨[.o 0],_,[],[],[30]⟩ :: ⟨[.p 14 0],_,[],[14],[31]⟩ :: ⟨[.p 15 0],_,[],[14,15],[32]⟩ :: ⟨[.p 16 0],_,[],[14,15,16],[33]⟩ :: ⟨[.p 3 0,.p 7 0,.p 13 0,.p 17 0],_,[],Lr 18,[34]⟩ :: ⟨[.p 18 0],_,[],Lr 19,[4]⟩ :: []) (F:=[.p 19 0]) (hst.pick [0,1] rfl) hb Za
    (Qm rfl u_0<|o_p rfl (Zq rfl rfl (Opd.imp u_0 (fun _ _ h=>Zx h3 h)) (fun _ _ ⟨_,_,_,e,_⟩=>⟨_,e⟩))<|Qf rfl Zfr u_0<|Ql rfl ty_9 u_0<|Qm rfl u_0<|o_p rfl (Zq rfl rfl (Opd.imp u_0 (fun _ _ h=>Zx h3 h)) (fun _ _ ⟨_,_,_,e,_⟩=>⟨_,e⟩))<|Qf rfl Ziu u_0<|Ql rfl Zbe u_0<|Qm rfl u_0<|o_p rfl (Zq rfl rfl (Opd.imp u_0 (fun _ _ h=>Zx h3 h)) (fun _ _ ⟨_,_,_,e,_⟩=>⟨_,e⟩))<|Qf rfl Zex u_0<|Ql rfl Zdk u_0<|Qm rfl u_0<|o_p rfl (Zl Z0p (hself _ _ h6) rfl rfl (.cons u_0 (.cons u_1 .nil)))<|Qm rfl u_0<|o_p rfl (Zq rfl rfl (Opd.imp u_0 (fun _ _ h=>Zx h3 h)) (fun _ _ ⟨_,_,_,e,_⟩=>⟨_,e⟩))<|Qf rfl Zfs u_0<|Ql rfl Zdk u_0<|o_p rfl (Zl Zxm (Zlz _ _ _ _ h8) rfl rfl (.cons u_0 (.cons u_1 (.cons u_2 (.cons u_3 .nil)))))<|Qa rfl u_0<|o_n) (fun a g hst hb=>?_)
   refine wp_ret ?_
   refine Z5 ?_
   refine Zo ?_
   obtain rfl:=Option.some.inj H0
   exact Z4 rfl hst hb (Zg (s:=4)) (hst.at 0 rfl)
  ·replace H0:=Zt hc4 H0
   refine r_s (L:=[(0,_),(1,_)]) (T:=[⟨[.o 1],_,[],[],[36]⟩,⟨[.o 0],_,[],[],[37]⟩,⟨[.p 1 0],_,[],[1],[38]⟩,⟨[.p 2 0],_,[],[1,2],[39]⟩,⟨[.p 3 0],_,[],[1,2,3],[40]⟩,⟨[.p 0 0,.p 4 0],_,[],Lr 5,[41]⟩,⟨[.p 5 0],_,[],Lr 6,[35]⟩]) (F:=[.o 0,.o 1,.p 6 0]) (hst.pick [0,1] rfl) hb Za
    (Qm rfl u_0<|Qm rfl u_0<|o_p rfl (Zq rfl rfl (Opd.imp u_0 (fun _ _ h=>Zx h3 h)) (fun _ _ ⟨_,_,_,e,_⟩=>⟨_,e⟩))<|Qf rfl Zfr u_0<|Ql rfl ty_9 u_0<|o_p rfl (Zxp rfl rfl u_0 u_1)<|Qa rfl u_0<|o_n) (fun a g hst hb=>?_)
   refine wp_cond_split (hst.bool 2 rfl) (fun hc9=>?_) (fun hc9=>?_)
   ·replace H0:=Zu hc9 H0
    obtain ⟨r10,h11,H0⟩:=Zc H0;obtain ⟨r12,h13,H0⟩:=Zc H0
    refine r_s (L:=[(0,_),(1,_)]) (T:=⟨[.o 0],_,[],[],[42]⟩ :: ⟨[.p 0 0],_,[],[0],[43]⟩ :: ⟨[.p 1 0],_,[],[0,1],[44]⟩ :: ⟨[.p 2 0],_,[],[0,1,2],[45]⟩ :: ⟨[.o 0],_,[],[],[46]⟩ :: ⟨[.p 4 0],_,[],[4],[47]⟩ :: ⟨[.p 5 0],_,[],[4,5],[48]⟩ :: ⟨[.p 6 0],_,[],[4,5,6],[49]⟩ :: ⟨[.o 0],_,[],[],[50]⟩ :: ⟨[.p 8 0],_,[],[8],[51]⟩ :: ⟨[.p 9 0],_,[],[8,9],[52]⟩ :: ⟨[.p 10 0],_,[],[8,9,10],[53]⟩ :: ⟨[.o 0],_,[],[],[54]⟩ :: ⟨[.p 12 0],_,[],[12],[55]⟩ :: ⟨[.p 13 0],_,[],[12,13],[56]⟩ :: ⟨[.p 14 0],_,[],[12,13,14],[57]⟩ :: ⟨[.o 1],_,[],[],[58]⟩ :: ⟨[.p 15 0,.p 16 0],_,[],List.range' 12 5,[59]⟩ :: ⟨[.p 3 0,.p 7 0,.p 11 0,.p 17 0],_,[],Lr 18,[60]⟩ :: ⟨[.p 18 0],_,[],Lr 19,[4]⟩ :: []) (F:=[.p 19 0]) (hst.pick [0,1] rfl) hb Za
     (Qm rfl u_0<|o_p rfl (Zq rfl rfl (Opd.imp u_0 (fun _ _ h=>Zx h3 h)) (fun _ _ ⟨_,_,_,e,_⟩=>⟨_,e⟩))<|Qf rfl Zfr u_0<|Ql rfl ty_9 u_0<|Qm rfl u_0<|o_p rfl (Zq rfl rfl (Opd.imp u_0 (fun _ _ h=>Zx h3 h)) (fun _ _ ⟨_,_,_,e,_⟩=>⟨_,e⟩))<|Qf rfl Ziu u_0<|Ql rfl Zbe u_0<|Qm rfl u_0<|o_p rfl (Zq rfl rfl (Opd.imp u_0 (fun _ _ h=>Zx h3 h)) (fun _ _ ⟨_,_,_,e,_⟩=>⟨_,e⟩))<|Qf rfl Zex u_0<|Ql rfl Zdk u_0<|Qm rfl u_0<|o_p rfl (Zq rfl rfl (Opd.imp u_0 (fun _ _ h=>Zx h3 h)) (fun _ _ ⟨_,_,_,e,_⟩=>⟨_,e⟩))<|Qf rfl Zfs u_0<|Ql rfl Zdk u_0<|Qm rfl u_0<|o_p rfl (Zl Z0p (hself _ _ h11) rfl rfl (.cons u_0 (.cons u_1 .nil)))<|o_p rfl (Zl Zxm (Zlz _ _ _ _ h13) rfl rfl (.cons u_0 (.cons u_1 (.cons u_2 (.cons u_3 .nil)))))<|Qa rfl u_0<|o_n) (fun a g hst hb=>?_)
    refine wp_ret ?_
    refine Z5 ?_
    refine Zo ?_
    obtain rfl:=Option.some.inj H0
    exact Z4 rfl hst hb (Zg (s:=4)) (hst.at 0 rfl)
   ·replace H0:=Zt hc9 H0
    refine r_s (L:=[(0,_)]) (T:=[⟨[.o 0],_,[],[],[62]⟩,⟨[.p 0 0],_,[],[0],[63]⟩,⟨[.p 1 0],_,[],[0,1],[64]⟩,⟨[.p 2 0],_,[],[0,1,2],[65]⟩,⟨[.p 3 0],_,[],Lr 4,[66]⟩,⟨[.p 4 0],_,[],Lr 5,[61]⟩]) (F:=[.o 0,.p 5 0]) (hst.pick [0] rfl) hb Za
     (Qm rfl u_0<|o_p rfl (Zq rfl rfl (Opd.imp u_0 (fun _ _ h=>Zx h3 h)) (fun _ _ ⟨_,_,_,e,_⟩=>⟨_,e⟩))<|Qf rfl Zex u_0<|Ql rfl Zdk u_0<|o_p rfl (Zpr Tryz.underlying28 rfl rfl u_0 (Zf2 _))<|Qa rfl u_0<|o_n) (fun a g hst hb=>?_)
    refine wp_cond_split (hst.bool 1 rfl) (fun hc14=>?_) (fun hc14=>?_)
    ·replace H0:=Zu hc14 H0
     refine r_s (L:=[(0,_)]) (T:=[⟨[.o 0],_,[],[],[67]⟩,⟨[.p 0 0],_,[],[0],[68]⟩,⟨[.p 1 0],_,[],[0,1],[69]⟩,⟨[.p 2 0],_,[],[0,1,2],[70]⟩,⟨[.p 3 0],_,[],Lr 4,[4]⟩]) (F:=[.p 4 0]) (hst.pick [0] rfl) hb Za
      (Qm rfl u_0<|o_p rfl (Zq rfl rfl (Opd.imp u_0 (fun _ _ h=>Zx h3 h)) (fun _ _ ⟨_,_,_,e,_⟩=>⟨_,e⟩))<|Qf rfl Zfs u_0<|Ql rfl Zdk u_0<|Qa rfl u_0<|o_n) (fun a g hst hb=>?_)
     refine wp_ret ?_
     refine Z5 ?_
     refine Zo ?_
     obtain rfl:=Option.some.inj H0
     exact Z4 rfl hst hb (Zg (s:=4)) (hst.at 0 rfl)
    ·replace H0:=Zt hc14 H0
     refine r_s (L:=[(0,_)]) (T:=[⟨[.o 0],_,[],[],[72]⟩,⟨[.p 0 0],_,[],[0],[73]⟩,⟨[.p 1 0],_,[],[0,1],[74]⟩,⟨[.p 2 0],_,[],[0,1,2],[75]⟩,⟨[.p 3 0],_,[],Lr 4,[76]⟩,⟨[.p 4 0],_,[],Lr 5,[71]⟩]) (F:=[.o 0,.p 5 0]) (hst.pick [0] rfl) hb Za
      (Qm rfl u_0<|o_p rfl (Zq rfl rfl (Opd.imp u_0 (fun _ _ h=>Zx h3 h)) (fun _ _ ⟨_,_,_,e,_⟩=>⟨_,e⟩))<|Qf rfl Zfs u_0<|Ql rfl Zdk u_0<|o_p rfl (Zpr Tryz.underlying28 rfl rfl u_0 (Zf2 _))<|Qa rfl u_0<|o_n) (fun a g hst hb=>?_)
     refine wp_cond_split (hst.bool 1 rfl) (fun hc15=>?_) (fun hc15=>?_)
     ·replace H0:=Zu hc15 H0
      refine r_s (L:=[(0,_)]) (T:=[⟨[.o 0],_,[],[],[77]⟩,⟨[.p 0 0],_,[],[0],[78]⟩,⟨[.p 1 0],_,[],[0,1],[79]⟩,⟨[.p 2 0],_,[],[0,1,2],[80]⟩,⟨[.p 3 0],_,[],Lr 4,[4]⟩]) (F:=[.p 4 0]) (hst.pick [0] rfl) hb Za
       (Qm rfl u_0<|o_p rfl (Zq rfl rfl (Opd.imp u_0 (fun _ _ h=>Zx h3 h)) (fun _ _ ⟨_,_,_,e,_⟩=>⟨_,e⟩))<|Qf rfl Zex u_0<|Ql rfl Zdk u_0<|Qa rfl u_0<|o_n) (fun a g hst hb=>?_)
      refine wp_ret ?_
      refine Z5 ?_
      refine Zo ?_
      obtain rfl:=Option.some.inj H0
      exact Z4 rfl hst hb (Zg (s:=4)) (hst.at 0 rfl)
     ·replace H0:=Zt hc15 H0
      refine wp_skip ?_
      refine Zbc ?_
      refine Zp ?_
      obtain ⟨r16,h17,H0⟩:=Zc H0
      refine r_s (L:=[(0,_)]) (T:=[⟨[.o 0],_,[],[],[81]⟩,⟨[.p 0 0],_,[],[0],[82]⟩,⟨[.p 1 0],_,[],[0,1],[83]⟩,⟨[.p 2 0],_,[],[0,1,2],[84]⟩,⟨[.p 3 0],_,[],Lr 4,[85]⟩,⟨[.p 4 0],_,[],Lr 5,[5]⟩]) (F:=[.o 0,.p 5 0]) (hst.pick [0] rfl) hb Za
       (Qm rfl u_0<|o_p rfl (Zq rfl rfl (Opd.imp u_0 (fun _ _ h=>Zx h3 h)) (fun _ _ ⟨_,_,_,e,_⟩=>⟨_,e⟩))<|Qf rfl Zfs u_0<|Ql rfl Zdk u_0<|o_p rfl (Zl Zbe3 (Ztl _ h17) rfl rfl (.cons u_0 .nil))<|Qa rfl u_0<|o_n) (fun a g hst hb=>?_)
      obtain ⟨n18,h19,H0⟩:=Zc H0;obtain ⟨r20,h21,H0⟩:=Zc H0;obtain ⟨r22,h23,H0⟩:=Zc H0
      refine r_s (T:=⟨[.o 1],_,[],[],[86]⟩ :: ⟨[.p 0 0],_,[],[0],[87]⟩ :: ⟨[.p 1 0],_,[],[0,1],[88]⟩ :: ⟨[.p 2 0],_,[],[0,1,2],[89]⟩ :: ⟨[.o 1],_,[],[],[90]⟩ :: ⟨[.p 4 0],_,[],[4],[91]⟩ :: ⟨[.p 5 0],_,[],[4,5],[92]⟩ :: ⟨[.p 6 0],_,[],[4,5,6],[93]⟩ :: ⟨[.o 0],_,[],[],[94]⟩ :: ⟨[.p 8 0],_,[],[8],[95]⟩ :: ⟨[.p 9 0],_,[],[8,9],[96]⟩ :: ⟨[.p 10 0],_,[],[8,9,10],[97]⟩ :: ⟨[.o 0],_,[],[],[98]⟩ :: ⟨[.p 12 0],_,[],[12],[99]⟩ :: ⟨[.p 13 0],_,[],[12,13],[100]⟩ :: ⟨[.p 14 0],_,[],[12,13,14],[101]⟩ :: ⟨[.o 1],_,[],[],[102]⟩ :: ⟨[.p 16 0],_,[],[16],[103]⟩ :: ⟨[.p 17 0],_,[],[16,17],[104]⟩ :: ⟨[.p 18 0],_,[],[16,17,18],[105]⟩ :: ⟨[.p 15 0,.p 19 0],_,[],List.range' 12 8,[106]⟩ :: ⟨[.p 3 0,.p 7 0,.p 11 0,.p 20 0],_,[],Lr 21,[107]⟩ :: ⟨[.p 21 0],_,[],Lr 22,[4]⟩ :: []) (F:=[.p 22 0]) hst hb Za
       (Qm rfl u_0<|o_p rfl (Zq rfl rfl (Opd.imp u_0 (fun _ _ h=>Zx h19 h)) (fun _ _ ⟨_,_,_,e,_⟩=>⟨_,e⟩))<|Qf rfl Zfr u_0<|Ql rfl ty_9 u_0<|Qm rfl u_0<|o_p rfl (Zq rfl rfl (Opd.imp u_0 (fun _ _ h=>Zx h19 h)) (fun _ _ ⟨_,_,_,e,_⟩=>⟨_,e⟩))<|Qf rfl Ziu u_0<|Ql rfl Zbe u_0<|Qm rfl u_0<|o_p rfl (Zq rfl rfl (Opd.imp u_0 (fun _ _ h=>Zx h3 h)) (fun _ _ ⟨_,_,_,e,_⟩=>⟨_,e⟩))<|Qf rfl Zex u_0<|Ql rfl Zdk u_0<|Qm rfl u_0<|o_p rfl (Zq rfl rfl (Opd.imp u_0 (fun _ _ h=>Zx h3 h)) (fun _ _ ⟨_,_,_,e,_⟩=>⟨_,e⟩))<|Qf rfl Zfs u_0<|Ql rfl Zdk u_0<|Qm rfl u_0<|o_p rfl (Zq rfl rfl (Opd.imp u_0 (fun _ _ h=>Zx h19 h)) (fun _ _ ⟨_,_,_,e,_⟩=>⟨_,e⟩))<|Qf rfl Zfr u_0<|Ql rfl ty_9 u_0<|o_p rfl (Zl Z0p (hself _ _ h21) rfl rfl (.cons u_0 (.cons u_1 .nil)))<|o_p rfl (Zl Zxm (Zlz _ _ _ _ h23) rfl rfl (.cons u_0 (.cons u_1 (.cons u_2 (.cons u_3 .nil)))))<|Qa rfl u_0<|o_n) (fun a g hst hb=>?_)
      refine wp_ret ?_
      obtain rfl:=Option.some.inj H0
      exact Z4 rfl hst hb (Zg (s:=4)) (hst.at 0 rfl)
theorem Zoj:∀ (n:Nat) (a0:shelf_nodeT) (a1:ByteArray) {r:shelf_nodeT},Zhc n a0 a1=some r → FnOk Tryz.prog 60 [(Zbd.pd a0),(pStr a1)] (Zbd.pd r)
 | 0,_,_,_,h=>by simp [Zhc] at h
 | n + 1,a0,a1,_,h=>Ztj (Zhc n) (fun a0 a1 r h=>Zoj n a0 a1 h) a0 a1 h
theorem Zvl (a0:shelf_nodeT) (a1:ByteArray) {r:shelf_nodeT} (h:Zor a0 a1=some r):FnOk Tryz.prog 60 [(Zbd.pd a0),(pStr a1)] (Zbd.pd r):=Zoj _ a0 a1 h
theorem Zpj (a0:Zk) (a1:ByteArray) {r:Zk × Bool} (h:Zen a0 a1=some r):FnOk Tryz.prog 39 [(Zy.pd a0),(pStr a1)] (pTup [(Zy.pd r.1),(Zbf r.2)]):=by
 have H0:=h
 unfold Zen at H0
 clear h
 refine Zbs (N:=24) Tryz.func39 rfl rfl (Qe rfl) rfl rfl (fun a g0 hst hb=>?_)
 refine r_s (T:=[⟨[.o 0],_,[],[],[2]⟩,⟨[],[(4,(pBox Zy 4 (default:Zk)))],[5],[],[4]⟩,⟨[],_,[],[],[5]⟩]) (F:=[.o 1,.p 0 0,.p 1 0]) hst hb Za
  (Qb rfl u_0<|o_p rfl (Zbi (zs:=[.pointer none,.int .i64 0]) (by kernel_rfl) (fun g=>Zdx g) rfl rfl)<|Qa rfl c_b<|o_n) (fun a g hst hb=>?_)
 refine wp_seq ?_
 obtain ⟨r1,h2,H0⟩:=Zc H0
 refine r_s (T:=[⟨[.o 1],_,[],[],[9]⟩,⟨[.o 0],_,[],[],[10]⟩,⟨[.p 0 0,.p 1 0],_,[],[0,1],[11]⟩,⟨[.p 2 0],_,[],[0,1,2],[8]⟩,⟨[.p 3 0],_,[],Lr 4,[12]⟩,⟨[.p 3 0],_,[],Lr 4,[13]⟩,⟨[],[(6,(pBox Ze 6 (default:Zb)))],[7],[],[6]⟩,⟨[.p 4 0,.p 6 0],_,[7],[0,1,2,3,4,6],[6]⟩,⟨[.p 5 0],_,[],Lr 8,[7]⟩]) (F:=[.o 0,.o 1,.o 2,.p 8 0]) hst hb Za
  (Ql rfl Zbv u_0<|Qm rfl u_0<|o_p rfl (Zl Zva (Zhj _ _ h2) rfl rfl (.cons u_0 (.cons u_1 .nil)))<|Qm rfl u_0<|o_p rfl (Zz rfl rfl u_0 rfl)<|o_p rfl (Zz rfl rfl u_0 rfl)<|o_p rfl (Zbi (zs:=[.int .i64 0,.int .i64 0,.int .i64 0,.int .i64 0,.float .f64 0,.int .i64 0,.string ByteArray.empty,.slice none 0 0]) (by kernel_rfl) (fun g=>Zb2 g) rfl rfl)<|o_p rfl (Zb5 Zbe rfl rfl u_1 u_0)<|Qa rfl u_0<|o_n) (fun a g hst hb=>?_)
 refine r_s (T:=[⟨[.o 3],_,[],[],[14]⟩,⟨[.p 0 0],_,[],[0],[15]⟩]) (F:=[.o 0,.o 1,.o 2,.p 1 0]) hst hb Za
  (Qm rfl u_0<|Qn rfl u_0<|o_n) (fun a g hst hb=>?_)
 refine wp_cond_split (hst.bool 3 rfl) (fun hc3=>?_) (fun hc3=>?_)
 ·replace H0:=Zu hc3 H0
  refine r_s (L:=[(2,_),(4,_)]) (T:=[⟨[.o 0],_,[],[],[16]⟩,⟨[.p 0 0,.o 1],_,[5],[0],[4]⟩,⟨[],_,[],[0,1],[5]⟩]) (F:=[.p 1 0,.p 2 0]) (hst.pick [1,2] rfl) hb Za
   (Ql rfl Zbv u_0<|o_p rfl (Z3 Zbv rfl rfl u_1 u_0)<|Qa rfl c_b<|o_n) (fun a g hst hb=>?_)
  refine wp_ret ?_
  refine Zo ?_
  obtain rfl:=Option.some.inj H0
  obtain ⟨u0,hu0,hq0⟩:=Zbh (P:=Tryz.prog) Zbv (hst.at 0 rfl)
  exact Zdw rfl hst hb hu0 (Zg (s:=5)) (Zcw hq0 (hst.at 1 rfl))
 ·replace H0:=Zt hc3 H0
  refine wp_skip ?_
  refine Zp ?_
  obtain ⟨r4,h5,H0⟩:=Zc H0
  refine r_s (L:=[(1,_),(2,_),(4,_)]) (T:=[⟨[.o 1],_,[],[],[17]⟩,⟨[.p 0 0],_,[],[0],[18]⟩,⟨[.o 0],_,[],[],[19]⟩,⟨[.p 1 0,.p 2 0],_,[],[0,1,2],[20]⟩,⟨[.o 1],_,[],[],[21]⟩,⟨[.p 4 0],_,[],[4],[22]⟩,⟨[.p 3 0,.p 5 0],_,[],Lr 6,[23]⟩,⟨[.p 6 0,.o 2],_,[5],Lr 7,[4]⟩,⟨[],_,[],Lr 8,[5]⟩]) (F:=[.p 7 0,.p 8 0]) (hst.pick [0,1,2] rfl) hb Za
   (Qf rfl Zr3 u_0<|Ql rfl Zdk u_0<|Qm rfl u_0<|o_p rfl (Zl Z0p (Zvl _ _ h5) rfl rfl (.cons u_0 (.cons u_1 .nil)))<|Qf rfl Zu9 u_0<|Ql rfl ty_3 u_0<|o_p rfl (Zzq rfl rfl u_0 u_1)<|o_p rfl (Z3 Zbv rfl rfl u_1 u_0)<|Qa rfl c_b<|o_n) (fun a g hst hb=>?_)
  refine wp_ret ?_
  obtain rfl:=Option.some.inj H0
  obtain ⟨u0,hu0,hq0⟩:=Zbh (P:=Tryz.prog) Zbv (hst.at 0 rfl)
  exact Zdw rfl hst hb hu0 (Zg (s:=5)) (Zcw hq0 (hst.at 1 rfl))
theorem Zg1 (a0:Zw) (a1:Zk) {r:Zk × (List Zn)} (h:Zde a0 a1=some r):FnMR Tryz.prog 15 Zb4 a0 a0 [(Zy.pd a1)] (pTup [(Zy.pd r.1),(Z0.sl.pd r.2)]):=by
 have H0:=h
 unfold Zde at H0
 clear h
 refine Zu8 (N:=116) Tryz.func15 rfl rfl (Qe rfl) rfl rfl (fun a g0 b0 hst hb=>?_)
 replace hst:St 116 [(0,(pEq (ptrB b0 0))),(1,(Zy.pd a1)),(1002,(pSJ Zbr Zce (hpL (pRow Zj 68 1000000 (Zdt a0))) 0 b0 a0))] _ _:=Zs2 hst
 refine r_s (T:=[⟨[.o 1],_,[4],[],[3]⟩,⟨[],[(4,(pBox Zy 4 (default:Zk)))],[5],[],[4]⟩,⟨[],[(5,(Z0.sl.pd ([]:List Zn)))],[],[],[5]⟩]) (F:=[.o 0,.p 0 0,.p 1 0,.o 2]) hst hb Za
  (o_p rfl (Zkb rfl rfl u_0)<|o_p rfl (Zbi (zs:=[.pointer none,.int .i64 0]) (by kernel_rfl) (fun g=>Zdx g) rfl rfl)<|o_p rfl (Zcu rfl rfl (Opd.c (fun g=>Zf4 g)))<|o_n) (fun a g hst hb=>?_)
 refine r_s (T:=[⟨[],[(6,(pRow Z0 40 6 ([]:List Zn)))],[],[],[6]⟩]) (F:=[.o 0,.o 1,.o 2,.p 0 0,.o 3]) hst hb Za
  (o_p rfl (Zcu rfl rfl (Opd.c (fun g=>Zqn 6 g)))<|o_n) (fun a g hst hb=>?_)
 refine wp_seq ?_
 refine r_s (T:=⟨[.o 0],_,[],[],[18]⟩ :: ⟨[.p 0 0],_,[],[0],[19]⟩ :: ⟨[.p 1 0],_,[],[0,1],[20]⟩ :: ⟨[.p 2 0,.o 4],_,[],[0,1,2],[21]⟩ :: ⟨[.p 3 0],_,[],Lr 4,[22]⟩ :: ⟨[.p 4 0],_,[],Lr 5,[23]⟩ :: ⟨[.p 5 0,.o 0],_,[],Lr 6,[24]⟩ :: ⟨[.p 5 0,.p 6 0],_,[],Lr 7,[25]⟩ :: ⟨[.p 5 0,.p 7 0],_,[],Lr 8,[26]⟩ :: ⟨[.p 5 0,.p 8 0],_,[],Lr 9,[27]⟩ :: ⟨[.p 5 0,.p 9 0,.o 4],_,[],Lr 10,[28]⟩ :: ⟨[.p 5 0,.p 10 0],_,[],Lr 11,[29]⟩ :: ⟨[.p 5 0,.p 11 0],_,[],Lr 12,[30]⟩ :: []) (F:=[.o 0,.o 1,.o 2,.o 3,.p 12 0,.o 4]) hst hb Za
  (Qm rfl u_0<|o_p rfl (Zq rfl rfl u_0 (fun _ _ h=>⟨_,h⟩))<|o_p rfl (Zcg Zoz rfl rfl u_0)<|o_p rfl (Zga (u:=a0.over) ty_4 (fun g s cs h _=>kp_4 h) rfl rfl u_1 u_0)<|Qn rfl u_0<|Qm rfl u_0<|o_g (Qg_f rfl (fun hG=>Z6 rfl rfl u_0))<|o_g (Qg_f rfl (fun hG=>Zq rfl rfl (Opd.gd hG u_0) (fun _ _ h=>⟨_,h⟩)))<|o_g (Qg_f rfl (fun hG=>Zcg Zov rfl rfl (Opd.gd hG u_0)))<|o_g (Qg_f rfl (fun hG=>Zcg Zbbq rfl rfl (Opd.gd hG u_0)))<|o_g (Qg_f rfl (fun hG=>Zga (u:=a0.out.Code) Zkm (fun g s cs h _=>Z6a h) rfl rfl u_1 (Opd.gd hG u_0)))<|o_g (Qg_f rfl (fun hG=>Zdn rfl rfl (Opd.gd hG u_0) c_i))<|o_p rfl (Zbp rfl rfl u_0 (fun hz=>(Opd.gd (bNF hz) u_1)))<|o_n) (fun a g hst hb=>?_)
 refine wp_cond_split (hst.bool 4 rfl) (fun hc1=>?_) (fun hc1=>?_)
 ·replace H0:=Zu hc1 H0
  refine r_s (L:=[(0,_),(3,_),(4,_),(1002,_)]) (T:=[⟨[.o 1],_,[],[],[31]⟩,⟨[.p 0 0,.o 2],_,[5],[0],[4]⟩,⟨[],[(5,(Z0.sl.pd ([]:List Zn)))],[],[0,1],[5]⟩]) (F:=[.o 0,.p 1 0,.p 2 0,.o 3]) (hst.pick [0,1,2,5] rfl) hb Za
   (QM rfl Zbv u_0<|o_p rfl (Z3 Zbv rfl rfl u_1 u_0)<|o_p rfl (Zcu rfl rfl (Opd.c (fun g=>Zf4 g)))<|o_n) (fun a g hst hb=>?_)
  refine wp_ret ?_
  refine Zo ?_
  obtain rfl:=Option.some.inj H0
  obtain ⟨u0,hu0,hq0⟩:=Zbh (P:=Tryz.prog) Zbv (hst.at 1 rfl)
  exact Zwy rfl hst hb hu0 (Zg (s:=5)) (Zcw hq0 (hst.at 2 rfl)) (hst.at 3 rfl)
 ·replace H0:=Zt hc1 H0
  refine wp_skip ?_
  refine Zp ?_
  refine r_s (L:=[(0,_),(3,_),(4,_),(6,_),(1002,_)]) (T:=[⟨[],[(7,(pRow Kd.str 9 7 ([]:List ByteArray)))],[],[],[7]⟩]) (F:=[.o 0,.o 1,.o 2,.o 3,.p 0 0,.o 4]) (hst.pick [0,1,2,3,5] rfl) hb Za
   (o_p rfl (Zcu rfl rfl (Opd.c (fun g=>Zqn 7 g)))<|o_n) (fun a g hst hb=>?_)
  refine wp_seq ?_
  refine r_s (T:=[⟨[.o 0],_,[],[],[32]⟩,⟨[.p 0 0],_,[],[0],[33]⟩,⟨[.p 1 0],_,[],[0,1],[34]⟩,⟨[.p 2 0],_,[],[0,1,2],[35]⟩,⟨[.p 3 0,.o 5],_,[],Lr 4,[36]⟩,⟨[.p 4 0],_,[],Lr 5,[37]⟩,⟨[],_,[],[],[38]⟩]) (F:=[.o 0,.o 1,.o 2,.o 3,.o 4,.p 4 0,.p 5 0,.p 6 0,.o 5]) hst hb Za
   (Qm rfl u_0<|o_p rfl (Zq rfl rfl u_0 (fun _ _ h=>⟨_,h⟩))<|o_p rfl (Zcg Zyt rfl rfl u_0)<|o_p rfl (Zcg Zyk rfl rfl u_0)<|o_p rfl (Zga (u:=a0.d.Acts) Zjw (fun g s cs h _=>Z23 h) rfl rfl u_1 u_0)<|o_p rfl (Zbx Tryz.underlying23 rfl rfl u_0)<|Qm rfl c_i<|o_n) (fun a g hst hb=>?_)
  obtain ⟨z20,hz1,H0⟩:=Zc H0
  refine Zb3 (fun a w=>∃ (y18:List Zn) (y19:List ByteArray) (g:G),w=g.w ∧ St 116 [(0,(pEq (ptrB b0 0))),(3,(pBox Zy 3 a1)),(4,(pBox Zy 4 (default:Zk))),(6,(pRow Z0 40 6 y18)),(7,(pRow Kd.str 9 7 y19)),(1002,(pSJ Zbr Zce (hpL (pRow Zj 68 1000000 (Zdt a0))) 0 b0 a0))] a g ∧ Base g0 g ∧ (y18,y19)=z20) ?_ ?_
  ·rintro a w ⟨y18,y19,g,rfl,hst,hb,rfl⟩
   refine Zp ?_
   refine wp_seq ?_
   refine r_s (T:=[⟨[.o 4],_,[],[],[63]⟩,⟨[.p 0 0],_,[],[0],[64]⟩,⟨[],_,[],[],[65]⟩]) (F:=[.o 0,.o 1,.o 2,.o 3,.o 4,.p 0 0,.p 1 0,.p 2 0,.o 5]) hst hb Za
    (Qm rfl u_0<|o_p rfl (Zbx Tryz.underlying26 rfl rfl (Opd.imp u_0 (fun _ _ h=>Zgd h)))<|Qm rfl c_i<|o_n) (fun a g hst hb=>?_)
   obtain ⟨z33,hz2,H0⟩:=Zc H0
   refine Zb3 (fun a w=>∃ (y32:Zk) (g:G),w=g.w ∧ St 116 [(0,(pEq (ptrB b0 0))),(3,(pBox Zy 3 y32)),(4,(pBox Zy 4 (default:Zk))),(6,(pRow Z0 40 6 y18)),(7,(pRow Kd.str 9 7 y19)),(1002,(pSJ Zbr Zce (hpL (pRow Zj 68 1000000 (Zdt a0))) 0 b0 a0))] a g ∧ Base g0 g ∧ y32=z33) ?_ ?_
   ·rintro a w ⟨y32,g,rfl,hst,hb,rfl⟩
    refine Zp ?_
    refine wp_seq ?_
    refine r_s (T:=[⟨[.o 4],_,[],[],[87]⟩,⟨[.p 0 0],_,[],[0],[88]⟩,⟨[],_,[],[],[89]⟩]) (F:=[.o 0,.o 1,.o 2,.o 3,.p 0 0,.p 1 0,.p 2 0,.o 5]) hst hb Za
     (Qm rfl u_0<|o_p rfl (Zbx Tryz.underlying26 rfl rfl (Opd.imp u_0 (fun _ _ h=>Zgd h)))<|Qm rfl c_i<|o_n) (fun a g hst hb=>?_)
    obtain ⟨z46,hz3,H0⟩:=Zc H0
    refine Zb3 (fun a w=>∃ (y45:Zk) (g:G),w=g.w ∧ St 116 [(0,(pEq (ptrB b0 0))),(3,(pBox Zy 3 y45)),(4,(pBox Zy 4 (default:Zk))),(6,(pRow Z0 40 6 y18)),(1002,(pSJ Zbr Zce (hpL (pRow Zj 68 1000000 (Zdt a0))) 0 b0 a0))] a g ∧ Base g0 g ∧ y45=z46) ?_ ?_
    ·rintro a w ⟨y45,g,rfl,hst,hb,rfl⟩
     refine Zp ?_
     obtain ⟨r47,h48,H0⟩:=Zc H0
     refine r_s (T:=[⟨[.o 1],_,[],[],[111]⟩,⟨[.o 3],_,[],[],[112]⟩,⟨[.p 1 0],_,[],[1],[113]⟩,⟨[.p 2 0],_,[],[1,2],[114]⟩,⟨[.p 3 0],_,[],[1,2,3],[115]⟩,⟨[.p 0 0,.o 2],_,[5],Lr 4,[4]⟩,⟨[.p 4 0],_,[],Lr 6,[5]⟩]) (F:=[.o 0,.p 5 0,.p 6 0,.o 4]) hst hb Za
      (QM rfl Zbv u_0<|Qm rfl u_0<|o_p rfl (Z3w rfl rfl (Opd.imp u_0 (fun _ _ h=>Zgd h)))<|o_p rfl (Zl Z92 (Ztc _ h48) rfl rfl (.cons u_0 .nil))<|o_p rfl (Z2d Zgz rfl rfl u_0)<|o_p rfl (Z3 Zbv rfl rfl u_1 u_0)<|Qa rfl u_0<|o_n) (fun a g hst hb=>?_)
     refine wp_ret ?_
     obtain rfl:=Option.some.inj H0
     obtain ⟨u0,hu0,hq0⟩:=Zbh (P:=Tryz.prog) Zbv (hst.at 1 rfl)
     exact Zwy rfl hst hb hu0 (Zg (s:=5)) (Zcw hq0 (hst.at 2 rfl)) (hst.at 3 rfl)
    ·refine wp_block ?_
     refine wp_loop_ghost (fun n a w=>∃ (x34:Zk) (x35:Int) (g:G),w=g.w ∧ St 116 [(0,(pEq (ptrB b0 0))),(3,(pBox Zy 3 x34)),(4,(pBox Zy 4 (default:Zk))),(6,(pRow Z0 40 6 y18)),(87,(pRow Kd.str 9 7 y19)),(88,(pInt .i64 (y19.length:Int))),(89,(pInt .i64 x35)),(1002,(pSJ Zbr Zce (hpL (pRow Zj 68 1000000 (Zdt a0))) 0 b0 a0))] a g ∧ Base g0 g ∧ Zdz a0 y19 n x34 x35=some z46) (Int.toNat ((y19.length:Int) - (0:Int)) + 1) ⟨y32,(0:Int),g,rfl,(hst.pick [0,1,2,3,4,5,6,7] rfl),hb,hz3⟩ (fun n a w hI=>?_)
     obtain ⟨x34,x35,g,rfl,hst,hb,H1⟩:=hI
     cases n with
     | zero=>exact absurd H1 (by simp [Zdz])
     | succ n =>
      rw [Zdz] at H1
      refine r_s (T:=[⟨[.o 6,.o 5],_,[],[],[90]⟩]) (F:=[.o 0,.o 1,.o 2,.o 3,.o 4,.o 5,.o 6,.p 0 0,.o 7]) hst hb Za
       (o_p rfl (Zca rfl rfl u_0 u_1)<|o_n) (fun a g hst hb=>?_)
      refine wp_seq ?_
      refine wp_cond_split (hst.bool 7 rfl) (fun hc36=>?_) (fun hc36=>?_)
      ·replace H1:=Zu hc36 H1
       refine wp_skip ?_
       refine Zp ?_
       refine wp_seq ?_
       refine Zb3 (fun a w=>∃ (j44:Zk) (g:G),w=g.w ∧ St 116 [(0,(pEq (ptrB b0 0))),(3,(pBox Zy 3 j44)),(4,(pBox Zy 4 (default:Zk))),(6,(pRow Z0 40 6 y18)),(87,(pRow Kd.str 9 7 y19)),(88,(pInt .i64 (y19.length:Int))),(89,(pInt .i64 x35)),(1002,(pSJ Zbr Zce (hpL (pRow Zj 68 1000000 (Zdt a0))) 0 b0 a0))] a g ∧ Base g0 g ∧ Zil x35 (Zdz a0 y19 n) j44=some z46) ?_ ?_
       ·rintro a w ⟨j44,g,rfl,hst,hb,H1⟩
        unfold Zil at H1
        refine Zp ?_
        refine r_g (T:=[⟨[.o 6],_,[],[],[110]⟩,⟨[.p 0 0],_,[],[0],[89]⟩]) (F:=[.o 0,.o 1,.o 2,.o 3,.o 4,.o 5,.p 1 0,.o 7]) hst hb Za
         (o_p rfl (Zb0 rfl rfl u_0 c_i rfl)<|Qm rfl u_0<|o_n) (fun a g hst hb=>?_)
        exact ⟨n,Nat.lt_succ_self _,j44,(IntKind.i64.wrap (x35 + (1:Int))),g,rfl,(hst.pick [0,1,2,3,4,5,6,7] rfl),hb,H1⟩
       ·refine wp_block ?_
        obtain ⟨e37,h38,H1⟩:=Zc H1
        refine r_s (L:=[(0,_),(3,_),(4,_),(6,_),(87,_),(88,_),(89,_),(1002,_)]) (T:=[⟨[.o 4,.o 6],_,[],[],[91]⟩,⟨[.p 0 0],_,[],[0],[92]⟩,⟨[.p 1 0],_,[],[0,1],[15]⟩]) (F:=[.o 0,.o 1,.o 2,.o 3,.p 2 0,.o 4,.o 5,.o 6,.o 7]) (hst.pick [0,1,2,3,4,5,6,8] rfl) hb Za
         (o_p rfl (Zbl Tryz.underlying26 sz_9 rfl rfl (Opd.imp u_0 (fun _ _ h=>Zgd h)) u_1 h38)<|Ql rfl ty_9 u_0<|Qa rfl u_0<|o_n) (fun a g hst hb=>?_)
        obtain ⟨r39,h40,H1⟩:=Zc H1
        refine r_s (T:=⟨[.o 0],_,[],[],[94]⟩ :: ⟨[.p 0 0],_,[],[0],[95]⟩ :: ⟨[.p 1 0],_,[],[0,1],[96]⟩ :: ⟨[.p 2 0,.o 8],_,[],[0,1,2],[97]⟩ :: ⟨[.o 4],_,[],[],[98]⟩ :: ⟨[.p 3 0,.p 4 0],_,[],Lr 5,[99]⟩ :: ⟨[.p 5 0],_,[],Lr 6,[93]⟩ :: ⟨[.p 6 0],_,[],Lr 7,[100]⟩ :: ⟨[.p 6 0],_,[],Lr 7,[101]⟩ :: ⟨[],[(16,(pBox Ze 16 (default:Zb)))],[17],[],[16]⟩ :: ⟨[.p 7 0,.p 9 0],_,[17],[0,1,2,3,4,5,6,7,9],[16]⟩ :: ⟨[.p 8 0],_,[],Lr 11,[17]⟩ :: []) (F:=[.o 0,.o 1,.o 2,.o 3,.o 4,.p 10 0,.p 11 0,.o 5,.o 6,.o 7,.o 8]) hst hb Za
         (Qm rfl u_0<|o_p rfl (Zq rfl rfl u_0 (fun _ _ h=>⟨_,h⟩))<|o_p rfl (Zcg Zuu rfl rfl u_0)<|o_p rfl (Zga (u:=a0.now) Zbv (fun g s cs h _=>kp_2 h) rfl rfl u_1 u_0)<|Qm rfl u_0<|o_p rfl (Zl Zva (Zhj _ _ h40) rfl rfl (.cons u_0 (.cons u_1 .nil)))<|Qm rfl u_0<|o_p rfl (Zz rfl rfl u_0 rfl)<|o_p rfl (Zz rfl rfl u_0 rfl)<|o_p rfl (Zbi (zs:=[.int .i64 0,.int .i64 0,.int .i64 0,.int .i64 0,.float .f64 0,.int .i64 0,.string ByteArray.empty,.slice none 0 0]) (by kernel_rfl) (fun g=>Zb2 g) rfl rfl)<|o_p rfl (Zb5 Zbe rfl rfl u_1 u_0)<|Qa rfl u_0<|o_n) (fun a g hst hb=>?_)
        refine r_s (T:=[⟨[.o 6],_,[],[],[102]⟩]) (F:=[.o 0,.o 1,.o 2,.o 3,.o 4,.o 5,.o 7,.o 8,.o 9,.p 0 0,.o 10]) hst hb Za
         (Qm rfl u_0<|o_n) (fun a g hst hb=>?_)
        refine wp_cond_split (hst.bool 9 rfl) (fun hc41=>?_) (fun hc41=>?_)
        ·replace H1:=Zu hc41 H1
         obtain ⟨r42,h43,H1⟩:=Zc H1
         refine r_g (L:=[(0,_),(3,_),(4,_),(6,_),(15,_),(16,_),(87,_),(88,_),(89,_),(1002,_)]) (T:=[⟨[.o 1],_,[],[],[104]⟩,⟨[.o 4],_,[],[],[105]⟩,⟨[.o 5],_,[],[],[106]⟩,⟨[.p 0 0,.p 1 0,.p 2 0],_,[],[0,1,2],[107]⟩,⟨[.p 3 0],_,[],Lr 4,[103]⟩,⟨[.p 4 0],_,[],Lr 5,[108]⟩,⟨[.p 4 0],_,[],Lr 5,[109]⟩,⟨[.p 5 0,.o 1],_,[4],Lr 6,[3]⟩]) (F:=[.o 0,.p 7 0,.o 2,.o 3,.o 6,.o 7,.o 8,.o 9]) (hst.pick [0,1,2,3,4,5,6,7,8,10] rfl) hb Za
          (QM rfl Zbv u_0<|Qm rfl u_0<|Ql rfl Zbe u_0<|o_p rfl (Zl Z0l (Zkw _ _ _ h43) rfl rfl (.cons u_0 (.cons u_1 (.cons u_2 .nil))))<|Qm rfl u_0<|o_p rfl (Zz rfl rfl u_0 rfl)<|o_p rfl (Zz rfl rfl u_0 rfl)<|o_p rfl (Z3 Zbv rfl rfl u_1 u_0)<|o_n) (fun a g hst hb=>?_)
         refine Zbc ?_
         exact ⟨r42.1,g,rfl,(hst.pick [0,1,2,3,4,5,6,7] rfl),hb,H1⟩
        ·replace H1:=Zt hc41 H1
         refine wp_skip ?_
         refine Zbc ?_
         exact ⟨x34,g,rfl,(hst.pick [0,1,2,3,6,7,8,10] rfl),hb,H1⟩
      ·replace H1:=Zt hc36 H1
       refine wp_exit ?_
       refine Zby ?_
       refine Zby ?_
       refine Zcb ?_
       exact ⟨x34,g,rfl,(hst.pick [0,1,2,3,8] rfl),hb,Option.some.inj H1⟩
   ·refine wp_block ?_
    refine wp_loop_ghost (fun n a w=>∃ (x21:Zk) (x22:Int) (g:G),w=g.w ∧ St 116 [(0,(pEq (ptrB b0 0))),(3,(pBox Zy 3 x21)),(4,(pBox Zy 4 (default:Zk))),(6,(pRow Z0 40 6 y18)),(7,(pRow Kd.str 9 7 y19)),(63,(pRow Kd.str 9 7 y19)),(64,(pInt .i64 (y19.length:Int))),(65,(pInt .i64 x22)),(1002,(pSJ Zbr Zce (hpL (pRow Zj 68 1000000 (Zdt a0))) 0 b0 a0))] a g ∧ Base g0 g ∧ Zd0 a0 y19 n x21 x22=some z33) (Int.toNat ((y19.length:Int) - (0:Int)) + 1) ⟨a1,(0:Int),g,rfl,(hst.pick [0,1,2,3,4,5,6,7,8] rfl),hb,hz2⟩ (fun n a w hI=>?_)
    obtain ⟨x21,x22,g,rfl,hst,hb,H1⟩:=hI
    cases n with
    | zero=>exact absurd H1 (by simp [Zd0])
    | succ n =>
     rw [Zd0] at H1
     refine r_s (T:=[⟨[.o 7,.o 6],_,[],[],[66]⟩]) (F:=[.o 0,.o 1,.o 2,.o 3,.o 4,.o 5,.o 6,.o 7,.p 0 0,.o 8]) hst hb Za
      (o_p rfl (Zca rfl rfl u_0 u_1)<|o_n) (fun a g hst hb=>?_)
     refine wp_seq ?_
     refine wp_cond_split (hst.bool 8 rfl) (fun hc23=>?_) (fun hc23=>?_)
     ·replace H1:=Zu hc23 H1
      refine wp_skip ?_
      refine Zp ?_
      refine wp_seq ?_
      refine Zb3 (fun a w=>∃ (j31:Zk) (g:G),w=g.w ∧ St 116 [(0,(pEq (ptrB b0 0))),(3,(pBox Zy 3 j31)),(4,(pBox Zy 4 (default:Zk))),(6,(pRow Z0 40 6 y18)),(7,(pRow Kd.str 9 7 y19)),(63,(pRow Kd.str 9 7 y19)),(64,(pInt .i64 (y19.length:Int))),(65,(pInt .i64 x22)),(1002,(pSJ Zbr Zce (hpL (pRow Zj 68 1000000 (Zdt a0))) 0 b0 a0))] a g ∧ Base g0 g ∧ Zij x22 (Zd0 a0 y19 n) j31=some z33) ?_ ?_
      ·rintro a w ⟨j31,g,rfl,hst,hb,H1⟩
       unfold Zij at H1
       refine Zp ?_
       refine r_g (T:=[⟨[.o 7],_,[],[],[86]⟩,⟨[.p 0 0],_,[],[0],[65]⟩]) (F:=[.o 0,.o 1,.o 2,.o 3,.o 4,.o 5,.o 6,.p 1 0,.o 8]) hst hb Za
        (o_p rfl (Zb0 rfl rfl u_0 c_i rfl)<|Qm rfl u_0<|o_n) (fun a g hst hb=>?_)
       exact ⟨n,Nat.lt_succ_self _,j31,(IntKind.i64.wrap (x22 + (1:Int))),g,rfl,(hst.pick [0,1,2,3,4,5,6,7,8] rfl),hb,H1⟩
      ·refine wp_block ?_
       obtain ⟨e24,h25,H1⟩:=Zc H1
       refine r_s (L:=[(0,_),(3,_),(4,_),(6,_),(7,_),(63,_),(64,_),(65,_),(1002,_)]) (T:=[⟨[.o 5,.o 7],_,[],[],[67]⟩,⟨[.p 0 0],_,[],[0],[68]⟩,⟨[.p 1 0],_,[],[0,1],[11]⟩]) (F:=[.o 0,.o 1,.o 2,.o 3,.o 4,.p 2 0,.o 5,.o 6,.o 7,.o 8]) (hst.pick [0,1,2,3,4,5,6,7,9] rfl) hb Za
        (o_p rfl (Zbl Tryz.underlying26 sz_9 rfl rfl (Opd.imp u_0 (fun _ _ h=>Zgd h)) u_1 h25)<|Ql rfl ty_9 u_0<|Qa rfl u_0<|o_n) (fun a g hst hb=>?_)
       obtain ⟨r26,h27,H1⟩:=Zc H1
       refine r_s (T:=⟨[.o 0],_,[],[],[70]⟩ :: ⟨[.p 0 0],_,[],[0],[71]⟩ :: ⟨[.p 1 0],_,[],[0,1],[72]⟩ :: ⟨[.p 2 0,.o 9],_,[],[0,1,2],[73]⟩ :: ⟨[.o 5],_,[],[],[74]⟩ :: ⟨[.p 3 0,.p 4 0],_,[],Lr 5,[75]⟩ :: ⟨[.p 5 0],_,[],Lr 6,[69]⟩ :: ⟨[.p 6 0],_,[],Lr 7,[76]⟩ :: ⟨[.p 6 0],_,[],Lr 7,[77]⟩ :: ⟨[],[(12,(pBox Ze 12 (default:Zb)))],[13],[],[12]⟩ :: ⟨[.p 7 0,.p 9 0],_,[13],[0,1,2,3,4,5,6,7,9],[12]⟩ :: ⟨[.p 8 0],_,[],Lr 11,[13]⟩ :: []) (F:=[.o 0,.o 1,.o 2,.o 3,.o 4,.o 5,.p 11 0,.o 6,.o 7,.o 8,.o 9]) hst hb Za
        (Qm rfl u_0<|o_p rfl (Zq rfl rfl u_0 (fun _ _ h=>⟨_,h⟩))<|o_p rfl (Zcg Zuu rfl rfl u_0)<|o_p rfl (Zga (u:=a0.now) Zbv (fun g s cs h _=>kp_2 h) rfl rfl u_1 u_0)<|Qm rfl u_0<|o_p rfl (Zl Zva (Zhj _ _ h27) rfl rfl (.cons u_0 (.cons u_1 .nil)))<|Qm rfl u_0<|o_p rfl (Zz rfl rfl u_0 rfl)<|o_p rfl (Zz rfl rfl u_0 rfl)<|o_p rfl (Zbi (zs:=[.int .i64 0,.int .i64 0,.int .i64 0,.int .i64 0,.float .f64 0,.int .i64 0,.string ByteArray.empty,.slice none 0 0]) (by kernel_rfl) (fun g=>Zb2 g) rfl rfl)<|o_p rfl (Zb5 Zbe rfl rfl u_1 u_0)<|Qa rfl u_0<|o_n) (fun a g hst hb=>?_)
       refine r_s (T:=[⟨[.o 6],_,[],[],[78]⟩,⟨[.p 0 0],_,[],[0],[79]⟩]) (F:=[.o 0,.o 1,.o 2,.o 3,.o 4,.o 5,.o 7,.o 8,.o 9,.p 1 0,.o 10]) hst hb Za
        (Qm rfl u_0<|Qn rfl u_0<|o_n) (fun a g hst hb=>?_)
       refine wp_cond_split (hst.bool 9 rfl) (fun hc28=>?_) (fun hc28=>?_)
       ·replace H1:=Zu hc28 H1
        obtain ⟨r29,h30,H1⟩:=Zc H1
        refine r_g (L:=[(0,_),(3,_),(4,_),(6,_),(7,_),(11,_),(63,_),(64,_),(65,_),(1002,_)]) (T:=[⟨[.o 1],_,[],[],[81]⟩,⟨[.o 5],_,[],[],[82]⟩,⟨[.p 0 0,.p 1 0],_,[],[0,1],[83]⟩,⟨[.p 2 0],_,[],[0,1,2],[80]⟩,⟨[.p 3 0],_,[],Lr 4,[84]⟩,⟨[.p 3 0],_,[],Lr 4,[85]⟩,⟨[.p 4 0,.o 1],_,[4],Lr 5,[3]⟩]) (F:=[.o 0,.p 6 0,.o 2,.o 3,.o 4,.o 6,.o 7,.o 8,.o 9]) (hst.pick [0,1,2,3,4,5,6,7,8,10] rfl) hb Za
         (QM rfl Zbv u_0<|Qm rfl u_0<|o_p rfl (Zl Z93 (Zpj _ _ h30) rfl rfl (.cons u_0 (.cons u_1 .nil)))<|Qm rfl u_0<|o_p rfl (Zz rfl rfl u_0 rfl)<|o_p rfl (Zz rfl rfl u_0 rfl)<|o_p rfl (Z3 Zbv rfl rfl u_1 u_0)<|o_n) (fun a g hst hb=>?_)
        refine Zbc ?_
        exact ⟨r29.1,g,rfl,(hst.pick [0,1,2,3,4,5,6,7,8] rfl),hb,H1⟩
       ·replace H1:=Zt hc28 H1
        refine wp_skip ?_
        refine Zbc ?_
        exact ⟨x21,g,rfl,(hst.pick [0,1,2,3,4,6,7,8,10] rfl),hb,H1⟩
     ·replace H1:=Zt hc23 H1
      refine wp_exit ?_
      refine Zby ?_
      refine Zby ?_
      refine Zcb ?_
      exact ⟨x21,g,rfl,(hst.pick [0,1,2,3,4,9] rfl),hb,Option.some.inj H1⟩
  ·refine wp_block ?_
   refine wp_loop_ghost (fun n a w=>∃ (x2:List Zn) (x3:List ByteArray) (x4:Int) (g:G),w=g.w ∧ St 116 [(0,(pEq (ptrB b0 0))),(3,(pBox Zy 3 a1)),(4,(pBox Zy 4 (default:Zk))),(6,(pRow Z0 40 6 x2)),(7,(pRow Kd.str 9 7 x3)),(36,(Z0.sl.pd a0.d.Acts)),(37,(pInt .i64 (a0.d.Acts.length:Int))),(38,(pInt .i64 x4)),(1002,(pSJ Zbr Zce (hpL (pRow Zj 68 1000000 (Zdt a0))) 0 b0 a0))] a g ∧ Base g0 g ∧ Zdl a0 n x2 x3 x4=some z20) (Int.toNat ((a0.d.Acts.length:Int) - (0:Int)) + 1) ⟨([]:List Zn),([]:List ByteArray),(0:Int),g,rfl,(hst.pick [0,1,2,3,4,5,6,7,8] rfl),hb,hz1⟩ (fun n a w hI=>?_)
   obtain ⟨x2,x3,x4,g,rfl,hst,hb,H1⟩:=hI
   cases n with
   | zero=>exact absurd H1 (by simp [Zdl])
   | succ n =>
    rw [Zdl] at H1
    refine r_s (T:=[⟨[.o 7,.o 6],_,[],[],[39]⟩]) (F:=[.o 0,.o 1,.o 2,.o 3,.o 4,.o 5,.o 6,.o 7,.p 0 0,.o 8]) hst hb Za
     (o_p rfl (Zca rfl rfl u_0 u_1)<|o_n) (fun a g hst hb=>?_)
    refine wp_seq ?_
    refine wp_cond_split (hst.bool 8 rfl) (fun hc5=>?_) (fun hc5=>?_)
    ·replace H1:=Zu hc5 H1
     refine wp_skip ?_
     refine Zp ?_
     refine wp_seq ?_
     refine Zb3 (fun a w=>∃ (j16:List Zn) (j17:List ByteArray) (g:G),w=g.w ∧ St 116 [(0,(pEq (ptrB b0 0))),(3,(pBox Zy 3 a1)),(4,(pBox Zy 4 (default:Zk))),(6,(pRow Z0 40 6 j16)),(7,(pRow Kd.str 9 7 j17)),(36,(Z0.sl.pd a0.d.Acts)),(37,(pInt .i64 (a0.d.Acts.length:Int))),(38,(pInt .i64 x4)),(1002,(pSJ Zbr Zce (hpL (pRow Zj 68 1000000 (Zdt a0))) 0 b0 a0))] a g ∧ Base g0 g ∧ Zgy x4 (Zdl a0 n) j16 j17=some z20) ?_ ?_
     ·rintro a w ⟨j16,j17,g,rfl,hst,hb,H1⟩
      unfold Zgy at H1
      refine Zp ?_
      refine r_g (T:=[⟨[.o 7],_,[],[],[62]⟩,⟨[.p 0 0],_,[],[0],[38]⟩]) (F:=[.o 0,.o 1,.o 2,.o 3,.o 4,.o 5,.o 6,.p 1 0,.o 8]) hst hb Za
       (o_p rfl (Zb0 rfl rfl u_0 c_i rfl)<|Qm rfl u_0<|o_n) (fun a g hst hb=>?_)
      exact ⟨n,Nat.lt_succ_self _,j16,j17,(IntKind.i64.wrap (x4 + (1:Int))),g,rfl,(hst.pick [0,1,2,3,4,5,6,7,8] rfl),hb,H1⟩
     ·refine wp_block ?_
      obtain ⟨e6,h7,H1⟩:=Zc H1
      refine r_s (L:=[(0,_),(3,_),(4,_),(6,_),(7,_),(36,_),(37,_),(38,_),(1002,_)]) (T:=[⟨[.o 5,.o 7],_,[],[],[40]⟩,⟨[.p 0 0],_,[],[0],[41]⟩,⟨[],[(9,(pBox Z0 9 (default:Zn)))],[10],[],[9]⟩,⟨[.p 1 0,.p 2 0],_,[10],[0,1,2],[9]⟩]) (F:=[.o 0,.o 1,.o 2,.o 3,.o 4,.p 3 0,.o 5,.o 6,.o 7,.o 8]) (hst.pick [0,1,2,3,4,5,6,7,9] rfl) hb Za
       (o_p rfl (Zbl Tryz.underlying23 Znj rfl rfl u_0 u_1 h7)<|Ql rfl Zgw u_0<|o_p rfl (Zbi (zs:=[.int .i64 0,.string ByteArray.empty,.int .i64 0,.float .f64 0,.string ByteArray.empty,.int .i64 0,.int .i64 0,.int .i64 0,.int .i64 0,.float .f64 0,.int .i64 0,.string ByteArray.empty,.slice none 0 0,.bool false]) (by kernel_rfl) (fun g=>Zmt g) rfl rfl)<|o_p rfl (Zb5 Zgw rfl rfl u_1 u_0)<|o_n) (fun a g hst hb=>?_)
      obtain ⟨r8,h9,H1⟩:=Zc H1
      refine r_s (T:=[⟨[.o 0],_,[],[],[42]⟩,⟨[.p 0 0],_,[],[0],[43]⟩,⟨[.p 1 0],_,[],[0,1],[44]⟩,⟨[.p 2 0,.o 9],_,[],[0,1,2],[45]⟩,⟨[.o 5],_,[],[],[46]⟩,⟨[.p 4 0],_,[],[4],[47]⟩,⟨[.p 3 0,.p 5 0],_,[],Lr 6,[48]⟩]) (F:=[.o 0,.o 1,.o 2,.o 3,.o 4,.o 5,.o 6,.o 7,.o 8,.p 6 0,.o 9]) hst hb Za
       (Qm rfl u_0<|o_p rfl (Zq rfl rfl u_0 (fun _ _ h=>⟨_,h⟩))<|o_p rfl (Zcg Z4m rfl rfl u_0)<|o_p rfl (Zga (u:=a0.split) Z9q (fun g s cs h _=>kp_1 h) rfl rfl u_1 u_0)<|Qf rfl Zhk u_0<|Ql rfl ty_9 u_0<|o_p rfl (Zl Z53 (Zhb _ _ h9) rfl rfl (.cons u_0 (.cons u_1 .nil)))<|o_n) (fun a g hst hb=>?_)
      refine wp_cond_split (hst.bool 9 rfl) (fun hc10=>?_) (fun hc10=>?_)
      ·replace H1:=Zu hc10 H1
       obtain ⟨h11,H1⟩:=Zfv H1
       refine r_g (L:=[(0,_),(3,_),(4,_),(6,_),(7,_),(9,_),(36,_),(37,_),(38,_),(1002,_)]) (T:=[⟨[.o 3],_,[],[],[49]⟩,⟨[.o 5],_,[],[],[50]⟩,⟨[.p 1 0],_,[],[1],[51]⟩,⟨[.p 0 0,.p 2 0],_,[7],[0,1,2],[6,49,52]⟩,⟨[.p 3 0],_,[],Lr 4,[6]⟩]) (F:=[.o 0,.o 1,.o 2,.p 4 0,.o 4,.o 6,.o 7,.o 8,.o 9]) (hst.pick [0,1,2,3,4,5,6,7,8,10] rfl) hb Za
        (Qm rfl u_0<|Ql rfl Zgw u_0<|o_p rfl (Zig Zw7 (xs:=[.tmp 50]) (.cons u_0 .nil) (by decide) rfl rfl)<|o_p rfl (Zfq Zw7 rfl rfl u_0 u_1 h11)<|Qa rfl u_0<|o_n) (fun a g hst hb=>?_)
       refine Zbc ?_
       exact ⟨(x2 ++ ([e6]:List Zn)),x3,g,rfl,(hst.pick [0,1,2,3,4,5,6,7,8] rfl),hb,H1⟩
      ·replace H1:=Zt hc10 H1
       obtain ⟨r12,h13,H1⟩:=Zc H1
       refine r_s (L:=[(0,_),(3,_),(4,_),(6,_),(7,_),(9,_),(36,_),(37,_),(38,_),(1002,_)]) (T:=[⟨[.o 5],_,[],[],[53]⟩,⟨[.p 0 0],_,[],[0],[54]⟩,⟨[.p 1 0],_,[],[0,1],[55]⟩,⟨[.p 2 0],_,[],[0,1,2],[56]⟩]) (F:=[.o 0,.o 1,.o 2,.o 3,.o 4,.o 5,.o 6,.o 7,.o 8,.p 3 0,.o 9]) (hst.pick [0,1,2,3,4,5,6,7,8,10] rfl) hb Za
        (Qf rfl Zc4 u_0<|Ql rfl ty_3 u_0<|o_p rfl (Zl Z00 (Zn3 _ h13) rfl rfl (.cons u_0 .nil))<|Qn rfl u_0<|o_n) (fun a g hst hb=>?_)
       refine wp_cond_split (hst.bool 9 rfl) (fun hc14=>?_) (fun hc14=>?_)
       ·replace H1:=Zu hc14 H1
        obtain ⟨h15,H1⟩:=Zfv H1
        refine r_g (L:=[(0,_),(3,_),(4,_),(6,_),(7,_),(9,_),(36,_),(37,_),(38,_),(1002,_)]) (T:=[⟨[.o 4],_,[],[],[57]⟩,⟨[.o 5],_,[],[],[58]⟩,⟨[.p 1 0],_,[],[1],[59]⟩,⟨[.p 2 0],_,[],[1,2],[60]⟩,⟨[.p 0 0,.p 3 0],_,[8],Lr 4,[7,57,61]⟩,⟨[.p 4 0],_,[],Lr 5,[7]⟩]) (F:=[.o 0,.o 1,.o 2,.o 3,.p 5 0,.o 6,.o 7,.o 8,.o 9]) (hst.pick [0,1,2,3,4,5,6,7,8,10] rfl) hb Za
         (Qm rfl u_0<|Qf rfl Zhk u_0<|Ql rfl ty_9 u_0<|o_p rfl (Zig Zsy (xs:=[.tmp 59]) (.cons u_0 .nil) (by decide) rfl rfl)<|o_p rfl (Zfq Zsy rfl rfl u_0 u_1 h15)<|Qa rfl u_0<|o_n) (fun a g hst hb=>?_)
        refine Zbc ?_
        exact ⟨x2,(x3 ++ ([e6.Key]:List ByteArray)),g,rfl,(hst.pick [0,1,2,3,4,5,6,7,8] rfl),hb,H1⟩
       ·replace H1:=Zt hc14 H1
        refine wp_skip ?_
        refine Zbc ?_
        exact ⟨x2,x3,g,rfl,(hst.pick [0,1,2,3,4,6,7,8,10] rfl),hb,H1⟩
    ·replace H1:=Zt hc5 H1
     refine wp_exit ?_
     refine Zby ?_
     refine Zby ?_
     refine Zcb ?_
     exact ⟨x2,x3,g,rfl,(hst.pick [0,1,2,3,4,9] rfl),hb,Option.some.inj H1⟩
theorem Zp0 (a0:Zw) {r:Bool} (h:Zj0 a0=some r):FnMR Tryz.prog 16 Zb4 a0 a0 [] (Zbf r):=by
 have H0:=h
 unfold Zj0 at H0
 clear h
 refine Zu8 (N:=7) Tryz.func16 rfl rfl (Qe rfl) rfl rfl (fun a g0 b0 hst hb=>?_)
 replace hst:St 7 [(0,(pEq (ptrB b0 0))),(1002,(pSJ Zbr Zce (hpL (pRow Zj 68 1000000 (Zdt a0))) 0 b0 a0))] _ _:=Zs2 hst
 refine r_s (T:=[⟨[],_,[],[],[2]⟩]) (F:=[.o 0,.o 1]) hst hb Za
  (Qa rfl c_b<|o_n) (fun a g hst hb=>?_)
 refine r_s (T:=[⟨[.o 0],_,[],[],[3]⟩,⟨[.p 0 0],_,[],[0],[4]⟩,⟨[.p 1 0],_,[],[0,1],[5]⟩,⟨[.p 2 0,.o 1],_,[],[0,1,2],[6]⟩,⟨[.p 3 0],_,[],Lr 4,[2]⟩]) (F:=[.o 0,.p 4 0,.o 1]) hst hb Za
  (Qm rfl u_0<|o_p rfl (Zq rfl rfl u_0 (fun _ _ h=>⟨_,h⟩))<|o_p rfl (Zcg Zoz rfl rfl u_0)<|o_p rfl (Zga (u:=a0.over) ty_4 (fun g s cs h _=>kp_4 h) rfl rfl u_1 u_0)<|Qa rfl u_0<|o_n) (fun a g hst hb=>?_)
 refine wp_ret ?_
 obtain rfl:=Option.some.inj H0
 exact Z0x rfl hst hb (Zg (s:=2)) (hst.at 1 rfl) (hst.at 2 rfl)
theorem Znd (a0:Zk) (a1:Int) {r:ByteArray × Zb × Bool} (h:Zio a0 a1=some r):FnOk Tryz.prog 41 [(Zy.pd a0),(pInt .i64 a1)] (pTup [(pStr r.1),(Ze.pd r.2.1),(Zbf r.2.2)]):=by
 have H0:=h
 unfold Zio at H0
 clear h
 refine Zbs (N:=48) Tryz.func41 rfl rfl (Qe rfl) rfl rfl (fun a g0 hst hb=>?_)
 refine r_s (T:=[⟨[.o 0],_,[],[],[2]⟩,⟨[],_,[],[],[4]⟩,⟨[],[(5,(pBox Ze 5 (default:Zb)))],[6],[],[5]⟩,⟨[],_,[],[1],[6]⟩]) (F:=[.o 1,.p 0 0,.p 2 0]) hst hb Za
  (Qb rfl u_0<|Qa rfl c_s<|o_p rfl (Zbi (zs:=[.int .i64 0,.int .i64 0,.int .i64 0,.int .i64 0,.float .f64 0,.int .i64 0,.string ByteArray.empty,.slice none 0 0]) (by kernel_rfl) (fun g=>Zb2 g) rfl rfl)<|Qa rfl c_b<|o_n) (fun a g hst hb=>?_)
 refine wp_seq ?_
 refine r_s (T:=[⟨[.o 1],_,[],[],[9]⟩,⟨[.p 0 0],_,[],[0],[10]⟩,⟨[.p 1 0],_,[],[0,1],[7]⟩]) (F:=[.o 0,.o 2,.p 2 0]) hst hb Za
  (Qf rfl Zr3 u_0<|Ql rfl Zdk u_0<|Qa rfl u_0<|o_n) (fun a g hst hb=>?_)
 obtain ⟨z16,hz1,H0⟩:=Zc H0
 refine Zb3 (fun a w=>∃ (y15:Zb) (g:G),w=g.w ∧ St 48 [(5,(pBox Ze 5 y15))] a g ∧ Base g0 g ∧ (.inr y15)=z16) ?_ ?_
 ·rintro a w ⟨y15,g,rfl,hst,hb,rfl⟩
  refine Zp ?_
  refine r_s (T:=[⟨[],_,[],[],[47]⟩,⟨[],_,[],[],[4]⟩,⟨[.p 0 0,.o 0],_,[6],[0,1],[5]⟩,⟨[],_,[],[0,1,2],[6]⟩]) (F:=[.p 1 0,.p 2 0,.p 3 0]) hst hb Za
   (o_p rfl (Zob rfl rfl )<|Qa rfl c_s<|o_p rfl (Z3 Zbe rfl rfl u_1 u_0)<|Qa rfl c_b<|o_n) (fun a g hst hb=>?_)
  refine wp_ret ?_
  obtain rfl:=Option.some.inj H0
  obtain ⟨u1,hu1,hq1⟩:=Zbh (P:=Tryz.prog) Zbe (hst.at 1 rfl)
  exact Zjr rfl hst hb (Zg (s:=4)) hu1 (Zg (s:=6)) (Zhl (hst.at 0 rfl) hq1 (hst.at 2 rfl))
 ·refine wp_block ?_
  refine wp_loop_ghost (fun n a w=>∃ (x1:Int) (x2:Zb) (x3:shelf_nodeT) (g:G),w=g.w ∧ St 48 [(1,(pInt .i64 x1)),(5,(pBox Ze 5 x2)),(7,(Zbd.pd x3))] a g ∧ Base g0 g ∧ Zd9 n x1 x2 x3=some z16) (a0.top.hh + 1) ⟨a1,(default:Zb),a0.top,g,rfl,(hst.pick [0,1,2] rfl),hb,hz1⟩ (fun n a w hI=>?_)
  obtain ⟨x1,x2,x3,g,rfl,hst,hb,H1⟩:=hI
  cases n with
  | zero=>exact absurd H1 (by simp [Zd9])
  | succ n =>
   rw [Zd9] at H1
   refine wp_seq ?_
   refine r_s (T:=[⟨[.o 2],_,[],[],[11]⟩,⟨[.p 0 0],_,[],[0],[12]⟩]) (F:=[.o 0,.o 1,.o 2,.p 1 0]) hst hb Za
    (Qm rfl u_0<|o_p rfl (Z26 Tryz.underlying28 rfl rfl u_0 (Zf2 _))<|o_n) (fun a g hst hb=>?_)
   refine wp_cond_split (hst.bool 3 rfl) (fun hc4=>?_) (fun hc4=>?_)
   ·replace H1:=Zu hc4 H1
    refine wp_skip ?_
    refine Zp ?_
    refine Zb3 (fun a w=>∃ (j13:Int) (j14:shelf_nodeT) (g:G),w=g.w ∧ St 48 [(1,(pInt .i64 j13)),(5,(pBox Ze 5 x2)),(7,(Zbd.pd j14))] a g ∧ Base g0 g ∧ Zjn x2 (Zd9 n) j13 j14=some z16) ?_ ?_
    ·rintro a w ⟨j13,j14,g,rfl,hst,hb,H1⟩
     unfold Zjn at H1
     exact ⟨n,Nat.lt_succ_self _,j13,x2,j14,g,rfl,(hst.pick [0,1,2] rfl),hb,H1⟩
    ·refine wp_block ?_
     obtain ⟨n5,h6,H1⟩:=Zc H1;obtain ⟨r7,h8,H1⟩:=Zc H1
     refine r_s (L:=[(1,_),(5,_),(7,_)]) (T:=[⟨[.o 2],_,[],[],[13]⟩,⟨[.p 0 0],_,[],[0],[14]⟩,⟨[.p 1 0],_,[],[0,1],[15]⟩,⟨[.p 2 0],_,[],[0,1,2],[16]⟩,⟨[.p 3 0],_,[],Lr 4,[17]⟩,⟨[.p 4 0],_,[],Lr 5,[8]⟩]) (F:=[.o 0,.o 1,.o 2,.p 5 0]) (hst.pick [0,1,2] rfl) hb Za
      (Qm rfl u_0<|o_p rfl (Zq rfl rfl (Opd.imp u_0 (fun _ _ h=>Zx h6 h)) (fun _ _ ⟨_,_,_,e,_⟩=>⟨_,e⟩))<|Qf rfl Zex u_0<|Ql rfl Zdk u_0<|o_p rfl (Zl Zo5 (Zd1 _ h8) rfl rfl (.cons u_0 .nil))<|Qa rfl u_0<|o_n) (fun a g hst hb=>?_)
     refine wp_block ?_
     refine r_s (T:=[⟨[.o 0],_,[],[],[28]⟩,⟨[.o 3],_,[],[],[29]⟩,⟨[.p 0 0,.p 1 0],_,[],[0,1],[30]⟩,⟨[.p 2 0],_,[],[0,1,2],[27]⟩]) (F:=[.o 0,.o 1,.o 2,.o 3,.p 3 0]) hst hb Za
      (Qm rfl u_0<|Qm rfl u_0<|o_p rfl (Zca rfl rfl u_0 u_1)<|Qa rfl u_0<|o_n) (fun a g hst hb=>?_)
     refine wp_cond_split (hst.bool 4 rfl) (fun hc9=>?_) (fun hc9=>?_)
     ·replace H1:=Zu hc9 H1
      refine r_g (L:=[(1,_),(5,_),(7,_)]) (T:=[⟨[.o 2],_,[],[],[31]⟩,⟨[.p 0 0],_,[],[0],[32]⟩,⟨[.p 1 0],_,[],[0,1],[33]⟩,⟨[.p 2 0],_,[],[0,1,2],[34]⟩,⟨[.p 3 0],_,[],Lr 4,[7]⟩]) (F:=[.o 0,.o 1,.p 4 0]) (hst.pick [0,1,2] rfl) hb Za
       (Qm rfl u_0<|o_p rfl (Zq rfl rfl (Opd.imp u_0 (fun _ _ h=>Zx h6 h)) (fun _ _ ⟨_,_,_,e,_⟩=>⟨_,e⟩))<|Qf rfl Zex u_0<|Ql rfl Zdk u_0<|Qa rfl u_0<|o_n) (fun a g hst hb=>?_)
      refine Zbc ?_
      refine Zbc ?_
      exact ⟨x1,n5.left,g,rfl,(hst.pick [0,1,2] rfl),hb,H1⟩
     ·replace H1:=Zt hc9 H1
      refine r_s (L:=[(1,_),(5,_),(7,_),(8,_)]) (T:=[⟨[.o 0],_,[],[],[36]⟩,⟨[.o 3],_,[],[],[37]⟩,⟨[.p 0 0,.p 1 0],_,[],[0,1],[38]⟩,⟨[.p 2 0],_,[],[0,1,2],[35]⟩]) (F:=[.o 0,.o 1,.o 2,.o 3,.p 3 0]) (hst.pick [0,1,2,3] rfl) hb Za
       (Qm rfl u_0<|Qm rfl u_0<|o_p rfl (Zct rfl rfl u_0 u_1)<|Qa rfl u_0<|o_n) (fun a g hst hb=>?_)
      refine wp_cond_split (hst.bool 4 rfl) (fun hc10=>?_) (fun hc10=>?_)
      ·replace H1:=Zu hc10 H1
       refine r_s (L:=[(1,_),(5,_),(7,_),(8,_)]) (T:=[⟨[.o 0],_,[],[],[39]⟩,⟨[.o 3],_,[],[],[40]⟩,⟨[.p 1 0],_,[],[1],[41]⟩,⟨[.p 0 0,.p 2 0],_,[],[0,1,2],[42]⟩,⟨[.p 3 0],_,[],Lr 4,[1]⟩]) (F:=[.p 4 0,.o 1,.o 2]) (hst.pick [0,1,2,3] rfl) hb Za
        (Qm rfl u_0<|Qm rfl u_0<|o_p rfl (Zb0 rfl rfl u_0 c_i rfl)<|o_p rfl (Zh1 rfl rfl u_0 u_1 rfl)<|Qa rfl u_0<|o_n) (fun a g hst hb=>?_)
       refine r_g (T:=[⟨[.o 2],_,[],[],[43]⟩,⟨[.p 0 0],_,[],[0],[44]⟩,⟨[.p 1 0],_,[],[0,1],[45]⟩,⟨[.p 2 0],_,[],[0,1,2],[46]⟩,⟨[.p 3 0],_,[],Lr 4,[7]⟩]) (F:=[.o 0,.o 1,.p 4 0]) hst hb Za
        (Qm rfl u_0<|o_p rfl (Zq rfl rfl (Opd.imp u_0 (fun _ _ h=>Zx h6 h)) (fun _ _ ⟨_,_,_,e,_⟩=>⟨_,e⟩))<|Qf rfl Zfs u_0<|Ql rfl Zdk u_0<|Qa rfl u_0<|o_n) (fun a g hst hb=>?_)
       refine Zbc ?_
       refine Zbc ?_
       exact ⟨(IntKind.i64.wrap (x1 - (IntKind.i64.wrap (r7 + (1:Int))))),n5.right,g,rfl,(hst.pick [0,1,2] rfl),hb,H1⟩
      ·replace H1:=Zt hc10 H1
       obtain ⟨r11,h12,H1⟩:=Zc H1
       refine r_s (L:=[(5,_),(7,_)]) (T:=⟨[.o 1],_,[],[],[18]⟩ :: ⟨[.p 0 0],_,[],[0],[19]⟩ :: ⟨[.p 1 0],_,[],[0,1],[20]⟩ :: ⟨[.p 2 0],_,[],[0,1,2],[21]⟩ :: ⟨[.o 1],_,[],[],[22]⟩ :: ⟨[.p 4 0],_,[],[4],[23]⟩ :: ⟨[.p 5 0],_,[],[4,5],[24]⟩ :: ⟨[.p 6 0],_,[],[4,5,6],[25]⟩ :: ⟨[.p 7 0],_,[],List.range' 4 4,[26]⟩ :: ⟨[.p 3 0],_,[],Lr 9,[4]⟩ :: ⟨[.p 8 0,.o 0],_,[6],Lr 10,[5]⟩ :: ⟨[],_,[],Lr 11,[6]⟩ :: []) (F:=[.p 9 0,.p 10 0,.p 11 0]) (hst.pick [1,2] rfl) hb Za
        (Qm rfl u_0<|o_p rfl (Zq rfl rfl (Opd.imp u_0 (fun _ _ h=>Zx h6 h)) (fun _ _ ⟨_,_,_,e,_⟩=>⟨_,e⟩))<|Qf rfl Zfr u_0<|Ql rfl ty_9 u_0<|Qm rfl u_0<|o_p rfl (Zq rfl rfl (Opd.imp u_0 (fun _ _ h=>Zx h6 h)) (fun _ _ ⟨_,_,_,e,_⟩=>⟨_,e⟩))<|Qf rfl Ziu u_0<|Ql rfl Zbe u_0<|o_p rfl (Zl Zo2 (Zg4 _ h12) rfl rfl (.cons u_0 .nil))<|Qa rfl u_0<|o_p rfl (Z3 Zbe rfl rfl u_1 u_0)<|Qa rfl c_b<|o_n) (fun a g hst hb=>?_)
       refine wp_ret ?_
       refine Z5 ?_
       refine Z5 ?_
       refine Zo ?_
       refine Zo ?_
       refine Z5 ?_
       refine Zo ?_
       refine Zo ?_
       obtain rfl:=Option.some.inj H1
       obtain rfl:=Option.some.inj H0
       obtain ⟨u1,hu1,hq1⟩:=Zbh (P:=Tryz.prog) Zbe (hst.at 1 rfl)
       exact Zjr rfl hst hb (Zg (s:=4)) hu1 (Zg (s:=6)) (Zhl (hst.at 0 rfl) hq1 (hst.at 2 rfl))
   ·replace H1:=Zt hc4 H1
    refine wp_exit ?_
    refine Zby ?_
    refine Zby ?_
    refine Zcb ?_
    exact ⟨x2,g,rfl,(hst.pick [1] rfl),hb,Option.some.inj H1⟩
theorem Z0c (a0:Zk) (a1:Zk) {r:Bool} (h:Zs8 a0 a1=some r):FnOk Tryz.prog 17 [(Zy.pd a0),(Zy.pd a1)] (Zbf r):=by
 have H0:=h
 unfold Zs8 at H0
 clear h
 refine Zbs (N:=46) Tryz.func17 rfl rfl (Qe rfl) rfl rfl (fun a g0 hst hb=>?_)
 refine r_s (T:=[⟨[.o 0],_,[],[],[2]⟩,⟨[.o 1],_,[],[],[3]⟩,⟨[],_,[],[],[4]⟩]) (F:=[.p 0 0,.p 1 0]) hst hb Za
  (Qb rfl u_0<|Qb rfl u_0<|Qa rfl c_b<|o_n) (fun a g hst hb=>?_)
 refine wp_seq ?_
 obtain ⟨r1,h2,H0⟩:=Zc H0;obtain ⟨r3,h4,H0⟩:=Zc H0
 refine r_s (T:=[⟨[.o 0],_,[],[],[12]⟩,⟨[.p 0 0],_,[],[0],[13]⟩,⟨[.o 1],_,[],[],[14]⟩,⟨[.p 2 0],_,[],[0,1,2],[15]⟩,⟨[.p 1 0,.p 3 0],_,[],Lr 4,[16]⟩]) (F:=[.o 0,.o 1,.p 4 0]) hst hb Za
  (Ql rfl Zbv u_0<|o_p rfl (Zl Zxw (Ziz _ h2) rfl rfl (.cons u_0 .nil))<|Ql rfl Zbv u_0<|o_p rfl (Zl Zxw (Ziz _ h4) rfl rfl (.cons u_0 .nil))<|o_p rfl (Zdn rfl rfl u_0 u_1)<|o_n) (fun a g hst hb=>?_)
 refine wp_cond_split (hst.bool 2 rfl) (fun hc5=>?_) (fun hc5=>?_)
 ·replace H0:=Zu hc5 H0
  refine r_s (L:=[]) (T:=[⟨[],_,[],[],[4]⟩]) (F:=[.p 0 0]) (hst.pick [] rfl) hb Za
   (Qa rfl c_b<|o_n) (fun a g hst hb=>?_)
  refine wp_ret ?_
  refine Zo ?_
  obtain rfl:=Option.some.inj H0
  exact Z4 rfl hst hb (Zg (s:=4)) (hst.at 0 rfl)
 ·replace H0:=Zt hc5 H0
  refine wp_skip ?_
  refine Zp ?_
  refine wp_seq ?_
  obtain ⟨r6,h7,H0⟩:=Zc H0
  refine r_s (L:=[(2,_),(3,_)]) (T:=[⟨[.o 0],_,[],[],[17]⟩,⟨[.p 0 0],_,[],[0],[18]⟩,⟨[],_,[],[],[19]⟩]) (F:=[.o 0,.o 1,.p 1 0,.p 2 0]) (hst.pick [0,1] rfl) hb Za
   (Ql rfl Zbv u_0<|o_p rfl (Zl Zxw (Ziz _ h7) rfl rfl (.cons u_0 .nil))<|Qm rfl c_i<|o_n) (fun a g hst hb=>?_)
  obtain ⟨z17,hz1,H0⟩:=Zc H0
  refine Zb3 (fun a w=>∃ (g:G),w=g.w ∧ St 46 [] a g ∧ Base g0 g ∧ (.inr ())=z17) ?_ ?_
  ·rintro a w ⟨g,rfl,hst,hb,rfl⟩
   refine Zp ?_
   refine r_s (T:=[⟨[],_,[],[],[4]⟩]) (F:=[.p 0 0]) hst hb Za
    (Qa rfl c_b<|o_n) (fun a g hst hb=>?_)
   refine wp_ret ?_
   obtain rfl:=Option.some.inj H0
   exact Z4 rfl hst hb (Zg (s:=4)) (hst.at 0 rfl)
  ·refine wp_block ?_
   refine wp_loop_ghost (fun n a w=>∃ (x8:Int) (g:G),w=g.w ∧ St 46 [(2,(Zy.ptr a0)),(3,(Zy.ptr a1)),(18,(pInt .i64 r6)),(19,(pInt .i64 x8))] a g ∧ Base g0 g ∧ Zl0 a0 a1 r6 n x8=some z17) (Int.toNat (r6 - (0:Int)) + 1) ⟨(0:Int),g,rfl,(hst.pick [0,1,2,3] rfl),hb,hz1⟩ (fun n a w hI=>?_)
   obtain ⟨x8,g,rfl,hst,hb,H1⟩:=hI
   cases n with
   | zero=>exact absurd H1 (by simp [Zl0])
   | succ n =>
    rw [Zl0] at H1
    refine r_s (T:=[⟨[.o 3,.o 2],_,[],[],[20]⟩]) (F:=[.o 0,.o 1,.o 2,.o 3,.p 0 0]) hst hb Za
     (o_p rfl (Zca rfl rfl u_0 u_1)<|o_n) (fun a g hst hb=>?_)
    refine wp_seq ?_
    refine wp_cond_split (hst.bool 4 rfl) (fun hc9=>?_) (fun hc9=>?_)
    ·replace H1:=Zu hc9 H1
     refine wp_skip ?_
     refine Zp ?_
     refine wp_seq ?_
     refine wp_block ?_
     refine r_s (L:=[(2,_),(3,_),(18,_),(19,_)]) (T:=[⟨[.o 3],_,[],[],[21]⟩,⟨[.p 0 0],_,[],[0],[5]⟩]) (F:=[.o 0,.o 1,.p 1 0,.o 2,.o 3]) (hst.pick [0,1,2,3] rfl) hb Za
      (Qm rfl u_0<|Qa rfl u_0<|o_n) (fun a g hst hb=>?_)
     obtain ⟨r10,h11,H1⟩:=Zc H1
     refine r_s (T:=[⟨[.o 0],_,[],[],[23]⟩,⟨[.o 2],_,[],[],[24]⟩,⟨[.p 0 0,.p 1 0],_,[],[0,1],[25]⟩,⟨[.p 2 0],_,[],[0,1,2],[22]⟩,⟨[.p 3 0],_,[],Lr 4,[26]⟩,⟨[.p 3 0],_,[],Lr 4,[27]⟩,⟨[.p 3 0],_,[],Lr 4,[28]⟩,⟨[],[(7,(pBox Ze 7 (default:Zb)))],[8],[],[7]⟩,⟨[.p 4 0],_,[],[0,1,2,3,4,7],[6]⟩,⟨[.p 5 0,.p 7 0],_,[8],[0,1,2,3,4,5,7,8],[7]⟩,⟨[.p 6 0],_,[],Lr 10,[8]⟩]) (F:=[.o 0,.o 1,.o 2,.p 8 0,.p 9 0,.o 3,.o 4]) hst hb Za
      (Ql rfl Zbv u_0<|Qm rfl u_0<|o_p rfl (Zl Z5c (Znd _ _ h11) rfl rfl (.cons u_0 (.cons u_1 .nil)))<|Qm rfl u_0<|o_p rfl (Zz rfl rfl u_0 rfl)<|o_p rfl (Zz rfl rfl u_0 rfl)<|o_p rfl (Zz rfl rfl u_0 rfl)<|o_p rfl (Zbi (zs:=[.int .i64 0,.int .i64 0,.int .i64 0,.int .i64 0,.float .f64 0,.int .i64 0,.string ByteArray.empty,.slice none 0 0]) (by kernel_rfl) (fun g=>Zb2 g) rfl rfl)<|Qa rfl u_0<|o_p rfl (Zb5 Zbe rfl rfl u_1 u_0)<|Qa rfl u_0<|o_n) (fun a g hst hb=>?_)
     obtain ⟨r12,h13,H1⟩:=Zc H1
     refine r_s (T:=[⟨[.o 1],_,[],[],[30]⟩,⟨[.o 2],_,[],[],[31]⟩,⟨[.p 0 0,.p 1 0],_,[],[0,1],[32]⟩,⟨[.p 2 0],_,[],[0,1,2],[29]⟩,⟨[.p 3 0],_,[],Lr 4,[33]⟩,⟨[.p 3 0],_,[],Lr 4,[34]⟩,⟨[.p 3 0],_,[],Lr 4,[35]⟩,⟨[],[(10,(pBox Ze 10 (default:Zb)))],[11],[],[10]⟩,⟨[.p 4 0],_,[],[0,1,2,3,4,7],[9]⟩,⟨[.p 5 0,.p 7 0],_,[11],[0,1,2,3,4,5,7,8],[10]⟩,⟨[.p 6 0],_,[],Lr 10,[11]⟩]) (F:=[.o 0,.o 1,.o 3,.o 4,.p 8 0,.p 9 0,.o 5,.o 6]) hst hb Za
      (Ql rfl Zbv u_0<|Qm rfl u_0<|o_p rfl (Zl Z5c (Znd _ _ h13) rfl rfl (.cons u_0 (.cons u_1 .nil)))<|Qm rfl u_0<|o_p rfl (Zz rfl rfl u_0 rfl)<|o_p rfl (Zz rfl rfl u_0 rfl)<|o_p rfl (Zz rfl rfl u_0 rfl)<|o_p rfl (Zbi (zs:=[.int .i64 0,.int .i64 0,.int .i64 0,.int .i64 0,.float .f64 0,.int .i64 0,.string ByteArray.empty,.slice none 0 0]) (by kernel_rfl) (fun g=>Zb2 g) rfl rfl)<|Qa rfl u_0<|o_p rfl (Zb5 Zbe rfl rfl u_1 u_0)<|Qa rfl u_0<|o_n) (fun a g hst hb=>?_)
     obtain ⟨r14,h15,H1⟩:=Zc H1
     refine r_s (T:=[⟨[.o 2],_,[],[],[36]⟩,⟨[.o 4],_,[],[],[37]⟩,⟨[.p 0 0,.p 1 0],_,[],[0,1],[38]⟩,⟨[.p 2 0],_,[],[0,1,2],[39]⟩,⟨[.p 3 0,.o 3],_,[],Lr 4,[40]⟩,⟨[.p 3 0,.o 5],_,[],Lr 4,[41]⟩,⟨[.p 3 0,.p 4 0,.p 5 0],_,[],Lr 6,[42]⟩,⟨[.p 3 0,.p 6 0],_,[],Lr 7,[43]⟩,⟨[.p 3 0,.p 7 0],_,[],Lr 8,[44]⟩]) (F:=[.o 0,.o 1,.o 6,.o 7,.p 8 0]) hst hb Za
      (Qm rfl u_0<|Qm rfl u_0<|o_p rfl (Zpg rfl rfl u_0 u_1)<|Qm rfl u_0<|o_g (Qg_f rfl (fun hG=>Zv Zbe rfl rfl u_0))<|o_g (Qg_f rfl (fun hG=>Zv Zbe rfl rfl u_0))<|o_g (Qg_f rfl (fun hG=>Zl Z91 (Zv8 _ _ (Zbn h15 hG)) rfl rfl (.cons (Opd.gd hG u_0) (.cons (Opd.gd hG u_1) .nil))))<|o_g (Qg_f rfl (fun hG=>Ze1 rfl rfl (Opd.gd hG u_0)))<|o_p rfl (Zbp rfl rfl u_0 (fun hz=>(Opd.gd (bNF hz) u_1)))<|o_n) (fun a g hst hb=>?_)
     refine wp_cond_split (hst.bool 4 rfl) (fun hc16=>?_) (fun hc16=>?_)
     ·replace H1:=Zu hc16 H1
      refine r_s (L:=[]) (T:=[⟨[],_,[],[],[4]⟩]) (F:=[.p 0 0]) (hst.pick [] rfl) hb Za
       (Qa rfl c_b<|o_n) (fun a g hst hb=>?_)
      refine wp_ret ?_
      refine Z5 ?_
      refine Zo ?_
      refine Zo ?_
      refine Z5 ?_
      refine Zo ?_
      refine Zo ?_
      obtain rfl:=Option.some.inj H1
      obtain rfl:=Option.some.inj H0
      exact Z4 rfl hst hb (Zg (s:=4)) (hst.at 0 rfl)
     ·replace H1:=Zt hc16 H1
      refine wp_skip ?_
      refine Zbc ?_
      refine Zp ?_
      refine r_g (L:=[(2,_),(3,_),(18,_),(19,_)]) (T:=[⟨[.o 3],_,[],[],[45]⟩,⟨[.p 0 0],_,[],[0],[19]⟩]) (F:=[.o 0,.o 1,.o 2,.p 1 0]) (hst.pick [0,1,2,3] rfl) hb Za
       (o_p rfl (Zb0 rfl rfl u_0 c_i rfl)<|Qm rfl u_0<|o_n) (fun a g hst hb=>?_)
      exact ⟨n,Nat.lt_succ_self _,(IntKind.i64.wrap (x8 + (1:Int))),g,rfl,(hst.pick [0,1,2,3] rfl),hb,H1⟩
    ·replace H1:=Zt hc9 H1
     refine wp_exit ?_
     refine Zby ?_
     refine Zby ?_
     refine Zcb ?_
     exact ⟨g,rfl,(hst.pick [] rfl),hb,Option.some.inj H1⟩
theorem Zk1 (a0:Int) (a1:Zb) (a2:Bool) {r:Zb × Bool × Zd × Zb} (h:Zg2 a0 a1 a2=some r):FnB Tryz.prog 92 [.val (pInt .i64 a0),.box Ze a1 r.2.2.2,.val (Kd.bool.ptr a2)] (pTup [(Ze.pd r.1),(Zbf r.2.1),(Zj.pd r.2.2.1)]):=by
 have H0:=h
 unfold Zg2 at H0
 clear h
 refine Zlc (N:=11) Tryz.func92 rfl rfl (Qe rfl) rfl rfl (fun a g0 bs hbs hst hb=>?_)
 obtain ⟨b1,rfl⟩:=Z96 hbs
 replace hst:St 11 [(0,(pInt .i64 a0)),(1,(Zch (some b1) Ze 1 a1)),(2,(Kd.bool.ptr a2))] _ _:=hst
 refine r_s (T:=[⟨[],[(4,(pBox Ze 4 (default:Zb)))],[5],[],[4]⟩,⟨[],_,[],[],[5]⟩,⟨[],[(6,(pBox Zj 6 (default:Zd)))],[7],[],[6]⟩]) (F:=[.o 0,.o 1,.o 2,.p 0 0,.p 2 0]) hst hb Za
  (o_p rfl (Zbi (zs:=[.int .i64 0,.int .i64 0,.int .i64 0,.int .i64 0,.float .f64 0,.int .i64 0,.string ByteArray.empty,.slice none 0 0]) (by kernel_rfl) (fun g=>Zb2 g) rfl rfl)<|Qa rfl c_b<|o_p rfl (Zbi (zs:=[.int .i64 0,.int .i64 0,.int .i64 0,.int .i64 0,.int .i64 0,.int .i64 0,.float .f64 0,.int .i64 0,.string ByteArray.empty,.slice none 0 0]) (by kernel_rfl) (fun g=>Zed g) rfl rfl)<|o_n) (fun a g hst hb=>?_)
 refine r_s (T:=[⟨[.o 1],_,[],[],[7]⟩,⟨[.o 2],_,[],[],[8]⟩,⟨[.o 0],_,[],[],[9]⟩,⟨[.p 2 0],_,[],[2],[10]⟩,⟨[.p 0 0,.o 3],_,[5],[0],[4]⟩,⟨[.p 1 0],_,[],[0,1,4],[5]⟩,⟨[.p 3 0,.o 4],_,[7],Lr 6,[6]⟩]) (F:=[.o 1,.p 4 0,.p 5 0,.p 6 0]) hst hb Za
  (QM rfl Zbe u_0<|Ql rfl ty_4 u_0<|Qm rfl u_0<|o_p rfl (Zrz rfl rfl u_0)<|o_p rfl (Z3 Zbe rfl rfl u_1 u_0)<|Qa rfl u_0<|o_p rfl (Z3 Zb8 rfl rfl u_1 u_0)<|o_n) (fun a g hst hb=>?_)
 refine wp_ret ?_
 obtain rfl:=Option.some.inj H0
 obtain ⟨u0,hu0,hq0⟩:=Zbh (P:=Tryz.prog) Zbe (hst.at 1 rfl)
 obtain ⟨u2,hu2,hq2⟩:=Zbh (P:=Tryz.prog) Zb8 (hst.at 3 rfl)
 exact Zbed rfl hst hb hu0 (Zg (s:=5)) hu2 (Zhl hq0 (hst.at 2 rfl) hq2) ⟨Zc5 (hst.at 0 rfl),trivial⟩
theorem Z6i (a0:Int) {r:Int} (h:Zik a0=some r):FnOk Tryz.prog 93 [(pInt .i64 a0)] (pInt .i64 r):=by
 have H0:=h
 unfold Zik at H0
 clear h
 refine Zbs (N:=6) Tryz.func93 rfl rfl (Qe rfl) rfl rfl (fun a g0 hst hb=>?_)
 refine r_s (T:=[⟨[],_,[],[],[2]⟩]) (F:=[.o 0]) hst hb Za
  (Qa rfl c_i<|o_n) (fun a g hst hb=>?_)
 obtain ⟨r1,h2,H0⟩:=Zc H0
 refine r_s (T:=[⟨[.o 0],_,[],[],[3]⟩,⟨[.p 0 0],_,[],[0],[4]⟩,⟨[.p 1 0],_,[],[0,1],[5]⟩,⟨[.p 2 0],_,[],[0,1,2],[2]⟩]) (F:=[.p 3 0]) hst hb Za
  (Qm rfl u_0<|o_p rfl (Zl Z9d (Zzn _ h2) rfl rfl (.cons u_0 .nil))<|o_p rfl (Z2d Z1b rfl rfl u_0)<|Qa rfl u_0<|o_n) (fun a g hst hb=>?_)
 refine wp_ret ?_
 obtain rfl:=Option.some.inj H0
 exact Z4 rfl hst hb (Zg (s:=2)) (hst.at 0 rfl)
theorem Zvp (a0:Zb) (a1:Zn) (a2:Zd) {r:Int × Zb × Zd} (h:Zit a0 a1 a2=some r):FnB Tryz.prog 113 [.box Ze a0 r.2.1,.val (Z0.pd a1),.box Zj a2 r.2.2] (pInt .i64 r.1):=by
 have H0:=h
 unfold Zit at H0
 clear h
 refine Zlc (N:=12) Tryz.func113 rfl rfl (Qe rfl) rfl rfl (fun a g0 bs hbs hst hb=>?_)
 obtain ⟨b0,b2,rfl⟩:=Zmy hbs
 replace hst:St 12 [(0,(Zch (some b0) Ze 0 a0)),(1,(Z0.pd a1)),(2,(Zch (some b2) Zj 2 a2))] _ _:=hst
 refine r_s (T:=[⟨[.o 1],_,[],[],[4]⟩,⟨[],_,[],[],[6]⟩]) (F:=[.o 0,.o 2,.p 0 0]) hst hb Za
  (Qb rfl u_0<|Qa rfl c_i<|o_n) (fun a g hst hb=>?_)
 refine r_s (T:=[⟨[.o 0],_,[],[],[7]⟩,⟨[.o 2],_,[],[],[8]⟩,⟨[.p 1 0],_,[],[1],[9]⟩,⟨[.p 0 0],_,[],[0,1,2],[10]⟩,⟨[.p 3 0],_,[],Lr 4,[11]⟩,⟨[.p 2 0,.p 4 0,.o 0],_,[1],Lr 5,[0,7,10,11]⟩]) (F:=[.p 5 0,.o 1]) hst hb Za
  (Qm rfl u_0<|Qf rfl Zgc u_0<|Ql rfl ty_9 u_0<|o_p rfl (Zq rfl rfl u_0 (fun _ _ ⟨_,_,_,e,_⟩=>⟨_,e⟩))<|o_p rfl (Zr Zj2 (off:=6) (by kernel_rfl) rfl rfl u_0)<|o_p rfl (Zuw ty_9 rfl rfl u_2 u_1 u_0)<|o_n) (fun a g hst hb=>?_)
 refine r_s (T:=[⟨[],_,[],[],[6]⟩]) (F:=[.o 0,.o 1,.p 0 0]) hst hb Za
  (Qa rfl c_i<|o_n) (fun a g hst hb=>?_)
 refine wp_ret ?_
 obtain rfl:=Option.some.inj H0
 exact Zi9 rfl hst hb (Zg (s:=6)) (hst.at 2 rfl) ⟨Zc5 (hst.at 0 rfl),Zc5 (hst.at 1 rfl),trivial⟩
theorem Zvq (a0:Zb) (a1:Zn) (a2:Zd) {r:Int × Zb × Zd} (h:Zgs a0 a1 a2=some r):FnB Tryz.prog 114 [.box Ze a0 r.2.1,.val (Z0.pd a1),.box Zj a2 r.2.2] (pInt .i64 r.1):=by
 have H0:=h
 unfold Zgs at H0
 clear h
 refine Zlc (N:=19) Tryz.func114 rfl rfl (Qe rfl) rfl rfl (fun a g0 bs hbs hst hb=>?_)
 obtain ⟨b0,b2,rfl⟩:=Zmy hbs
 replace hst:St 19 [(0,(Zch (some b0) Ze 0 a0)),(1,(Z0.pd a1)),(2,(Zch (some b2) Zj 2 a2))] _ _:=hst
 refine r_s (T:=[⟨[.o 1],_,[],[],[4]⟩,⟨[],_,[],[],[6]⟩]) (F:=[.o 0,.o 2,.p 0 0]) hst hb Za
  (Qb rfl u_0<|Qa rfl c_i<|o_n) (fun a g hst hb=>?_)
 obtain ⟨r1,h2,H0⟩:=Zc H0
 refine r_s (T:=[⟨[.o 1],_,[],[],[7]⟩,⟨[.o 0],_,[],[],[8]⟩,⟨[.p 1 0],_,[],[1],[9]⟩,⟨[.p 2 0],_,[],[1,2],[10]⟩,⟨[.p 3 0],_,[],[1,2,3],[11]⟩,⟨[.p 0 0],_,[],Lr 5,[12]⟩,⟨[.p 5 0],_,[],Lr 6,[13]⟩,⟨[.p 4 0,.p 6 0,.o 1],_,[3],Lr 7,[2,7,12,13]⟩]) (F:=[.o 0,.p 7 0,.o 2]) hst hb Za
  (Qm rfl u_0<|Qm rfl u_0<|o_p rfl (Zq rfl rfl u_0 (fun _ _ ⟨_,_,_,e,_⟩=>⟨_,e⟩))<|QM rfl Zbe u_0<|o_p rfl (Zl Zo2 (Zg4 _ h2) rfl rfl (.cons u_0 .nil))<|o_p rfl (Zq rfl rfl u_0 (fun _ _ ⟨_,_,_,e,_⟩=>⟨_,e⟩))<|o_p rfl (Zr Zp8 (off:=2) (by kernel_rfl) rfl rfl u_0)<|o_p rfl (Z38 Zbe rfl rfl u_2 u_1 u_0)<|o_n) (fun a g hst hb=>?_)
 refine r_s (T:=[⟨[.o 0],_,[],[],[14]⟩,⟨[.o 2],_,[],[],[15]⟩,⟨[.p 1 0],_,[],[1],[16]⟩,⟨[.p 0 0],_,[],[0,1,2],[17]⟩,⟨[.p 3 0],_,[],Lr 4,[18]⟩,⟨[.p 2 0,.p 4 0,.o 0],_,[1],Lr 5,[0,14,17,18]⟩]) (F:=[.p 5 0,.o 1]) hst hb Za
  (Qm rfl u_0<|Qf rfl Zgc u_0<|Ql rfl ty_9 u_0<|o_p rfl (Zq rfl rfl u_0 (fun _ _ ⟨_,_,_,e,_⟩=>⟨_,e⟩))<|o_p rfl (Zr Zj2 (off:=6) (by kernel_rfl) rfl rfl u_0)<|o_p rfl (Zuw ty_9 rfl rfl u_2 u_1 u_0)<|o_n) (fun a g hst hb=>?_)
 refine r_s (T:=[⟨[],_,[],[],[6]⟩]) (F:=[.o 0,.o 1,.p 0 0]) hst hb Za
  (Qa rfl c_i<|o_n) (fun a g hst hb=>?_)
 refine wp_ret ?_
 obtain rfl:=Option.some.inj H0
 exact Zi9 rfl hst hb (Zg (s:=6)) (hst.at 2 rfl) ⟨Zc5 (hst.at 0 rfl),Zc5 (hst.at 1 rfl),trivial⟩
theorem Zvr (a0:Zb) (a1:Zn) (a2:Zd) {r:Int × Zb × Zd} (h:Zim a0 a1 a2=some r):FnB Tryz.prog 115 [.box Ze a0 r.2.1,.val (Z0.pd a1),.box Zj a2 r.2.2] (pInt .i64 r.1):=by
 have H0:=h
 unfold Zim at H0
 clear h
 refine Zlc (N:=16) Tryz.func115 rfl rfl (Qe rfl) rfl rfl (fun a g0 bs hbs hst hb=>?_)
 obtain ⟨b0,b2,rfl⟩:=Zmy hbs
 replace hst:St 16 [(0,(Zch (some b0) Ze 0 a0)),(1,(Z0.pd a1)),(2,(Zch (some b2) Zj 2 a2))] _ _:=hst
 refine r_s (T:=[⟨[.o 1],_,[],[],[4]⟩,⟨[],_,[],[],[6]⟩]) (F:=[.o 0,.o 2,.p 0 0]) hst hb Za
  (Qb rfl u_0<|Qa rfl c_i<|o_n) (fun a g hst hb=>?_)
 refine r_s (T:=[⟨[.o 0],_,[],[],[7]⟩,⟨[.p 0 0],_,[],[0],[8]⟩,⟨[.p 1 0],_,[],[0,1],[9]⟩,⟨[.p 2 0],_,[],[0,1,2],[10]⟩,⟨[.o 2],_,[],[],[11]⟩,⟨[.p 4 0],_,[],[4],[12]⟩,⟨[.p 3 0,.p 5 0],_,[],Lr 6,[13]⟩,⟨[.p 0 0],_,[],Lr 7,[14]⟩,⟨[.p 7 0],_,[],Lr 8,[15]⟩,⟨[.p 6 0,.p 8 0,.o 0],_,[1],Lr 9,[0,7,8,9,14,15]⟩]) (F:=[.p 9 0,.o 1]) hst hb Za
  (Qm rfl u_0<|o_p rfl (Zq rfl rfl u_0 (fun _ _ ⟨_,_,_,e,_⟩=>⟨_,e⟩))<|o_p rfl (Zr Zc3 (off:=1) (by kernel_rfl) rfl rfl u_0)<|QP rfl ty_2 u_0<|Qf rfl Zec u_0<|Ql rfl ty_2 u_0<|o_p rfl (Zb0 rfl rfl u_0 u_1 rfl)<|o_p rfl (Zq rfl rfl u_0 (fun _ _ ⟨_,_,_,e,_⟩=>⟨_,e⟩))<|o_p rfl (Zr Zc3 (off:=1) (by kernel_rfl) rfl rfl u_0)<|o_p rfl (Znw ty_2 rfl rfl u_2 u_1 u_0)<|o_n) (fun a g hst hb=>?_)
 refine r_s (T:=[⟨[],_,[],[],[6]⟩]) (F:=[.o 0,.o 1,.p 0 0]) hst hb Za
  (Qa rfl c_i<|o_n) (fun a g hst hb=>?_)
 refine wp_ret ?_
 obtain rfl:=Option.some.inj H0
 exact Zi9 rfl hst hb (Zg (s:=6)) (hst.at 2 rfl) ⟨Zc5 (hst.at 0 rfl),Zc5 (hst.at 1 rfl),trivial⟩
theorem Z08 (a0:Zb) (a1:Zn) (a2:Zd) {r:Int × Zb × Zd} (h:Zlj a0 a1 a2=some r):FnB Tryz.prog 116 [.box Ze a0 r.2.1,.val (Z0.pd a1),.box Zj a2 r.2.2] (pInt .i64 r.1):=by
 have H0:=h
 unfold Zlj at H0
 clear h
 refine Zlc (N:=44) Tryz.func116 rfl rfl (Qe rfl) rfl rfl (fun a g0 bs hbs hst hb=>?_)
 obtain ⟨b0,b2,rfl⟩:=Zmy hbs
 replace hst:St 44 [(0,(Zch (some b0) Ze 0 a0)),(1,(Z0.pd a1)),(2,(Zch (some b2) Zj 2 a2))] _ _:=hst
 refine r_s (T:=[⟨[.o 1],_,[],[],[4]⟩,⟨[],_,[],[],[6]⟩]) (F:=[.o 0,.o 2,.p 0 0]) hst hb Za
  (Qb rfl u_0<|Qa rfl c_i<|o_n) (fun a g hst hb=>?_)
 refine wp_seq ?_
 refine r_s (T:=⟨[.o 2],_,[],[],[7]⟩ :: ⟨[.p 0 0],_,[],[0],[8]⟩ :: ⟨[.p 1 0],_,[],[0,1],[9]⟩ :: ⟨[.p 2 0],_,[],[0,1,2],[10]⟩ :: ⟨[.p 3 0,.o 0],_,[],Lr 4,[11]⟩ :: ⟨[.p 3 0,.p 4 0],_,[],Lr 5,[12]⟩ :: ⟨[.p 3 0,.p 5 0],_,[],Lr 6,[13]⟩ :: ⟨[.p 3 0,.p 6 0],_,[],Lr 7,[14]⟩ :: ⟨[.p 3 0,.o 2],_,[],Lr 4,[15]⟩ :: ⟨[.p 3 0,.p 8 0],_,[],[0,1,2,3,8],[16]⟩ :: ⟨[.p 3 0,.p 9 0],_,[],[0,1,2,3,8,9],[17]⟩ :: ⟨[.p 3 0,.p 7 0,.p 10 0],_,[],Lr 11,[18]⟩ :: ⟨[.p 3 0,.p 11 0],_,[],Lr 12,[19]⟩ :: ⟨[.p 12 0],_,[],Lr 13,[20]⟩ :: ⟨[.p 13 0,.o 2],_,[],Lr 14,[21]⟩ :: ⟨[.p 13 0,.p 14 0],_,[],Lr 15,[22]⟩ :: ⟨[.p 13 0,.p 15 0],_,[],Lr 16,[23]⟩ :: ⟨[.p 13 0,.p 16 0],_,[],Lr 17,[24]⟩ :: ⟨[.p 17 0,.o 0],_,[],Lr 18,[25]⟩ :: ⟨[.p 17 0,.p 18 0],_,[],Lr 19,[26]⟩ :: ⟨[.p 17 0,.p 19 0],_,[],Lr 20,[27]⟩ :: ⟨[.p 17 0,.p 20 0],_,[],Lr 21,[28]⟩ :: ⟨[.p 17 0,.o 2],_,[],Lr 18,[29]⟩ :: ⟨[.p 17 0,.p 22 0],_,[],0 :: 1 :: 2 :: 3 :: 4 :: 5 :: 6 :: 7 :: 8 :: 9 :: 10 :: 11 :: 12 :: 13 :: 14 :: 15 :: 16 :: 17 :: 22 :: [],[30]⟩ :: ⟨[.p 17 0,.p 23 0],_,[],0 :: 1 :: 2 :: 3 :: 4 :: 5 :: 6 :: 7 :: 8 :: 9 :: 10 :: 11 :: 12 :: 13 :: 14 :: 15 :: 16 :: 17 :: 22 :: 23 :: [],[31]⟩ :: ⟨[.p 17 0,.p 21 0,.p 24 0],_,[],Lr 25,[32]⟩ :: ⟨[.p 13 0,.p 17 0,.p 25 0],_,[],Lr 26,[33]⟩ :: ⟨[.p 13 0,.p 26 0],_,[],Lr 27,[34]⟩ :: []) (F:=[.o 0,.o 1,.o 2,.p 27 0]) hst hb Za
  (Qf rfl Zec u_0<|Ql rfl ty_2 u_0<|o_p rfl (Zct rfl rfl u_0 c_i)<|Qm rfl u_0<|o_g (Qg_t rfl (fun hG=>Z6 rfl rfl u_0))<|o_g (Qg_t rfl (fun hG=>Zq rfl rfl (Opd.gd hG u_0) (fun _ _ ⟨_,_,_,e,_⟩=>⟨_,e⟩)))<|o_g (Qg_t rfl (fun hG=>Zr Zc3 (off:=1) (by kernel_rfl) rfl rfl (Opd.gd hG u_0)))<|o_g (Qg_t rfl (fun hG=>Zjc ty_2 rfl rfl (Opd.gd hG u_0)))<|o_g (Qg_t rfl (fun hG=>Zi Zec rfl rfl u_0))<|o_g (Qg_t rfl (fun hG=>Zv ty_2 rfl rfl (Opd.gd hG u_0)))<|o_g (Qg_t rfl (fun hG=>Zh1 rfl rfl c_i (Opd.gd hG u_0) rfl))<|o_g (Qg_t rfl (fun hG=>Zct rfl rfl (Opd.gd hG u_0) (Opd.gd hG u_1)))<|o_p rfl (Zbk rfl rfl u_0 (fun hz=>(Opd.gd hz u_1)))<|Qm rfl u_0<|o_g (Qg_f rfl (fun hG=>Zi Zec rfl rfl u_0))<|o_g (Qg_f rfl (fun hG=>Zv ty_2 rfl rfl (Opd.gd hG u_0)))<|o_g (Qg_f rfl (fun hG=>Zca rfl rfl (Opd.gd hG u_0) c_i))<|o_g (Qg_f rfl (fun hG=>Z6 rfl rfl (Opd.gd hG u_0)))<|o_g (Qg_ti rfl (fun hG=>Z6 rfl rfl u_0))<|o_g (Qg_ti rfl (fun hG=>Zq rfl rfl (Opd.gd hG u_0) (fun _ _ ⟨_,_,_,e,_⟩=>⟨_,e⟩)))<|o_g (Qg_ti rfl (fun hG=>Zr Zc3 (off:=1) (by kernel_rfl) rfl rfl (Opd.gd hG u_0)))<|o_g (Qg_ti rfl (fun hG=>Zjc ty_2 rfl rfl (Opd.gd hG u_0)))<|o_g (Qg_ti rfl (fun hG=>Zi Zec rfl rfl u_0))<|o_g (Qg_ti rfl (fun hG=>Zv ty_2 rfl rfl (Opd.gd hG u_0)))<|o_g (Qg_ti rfl (fun hG=>Zh1 rfl rfl c_i (Opd.gd hG u_0) rfl))<|o_g (Qg_ti rfl (fun hG=>Zca rfl rfl (Opd.gd hG u_0) (Opd.gd hG u_1)))<|o_g (Qg_f rfl (fun hG=>Zbk rfl rfl (Opd.gd hG u_0) (fun hz=>(Opd.gd (bA hG hz) u_1))))<|o_p rfl (Zbp rfl rfl u_0 (fun hz=>(Opd.gd (bNF hz) u_1)))<|o_n) (fun a g hst hb=>?_)
 refine wp_cond_split (hst.bool 3 rfl) (fun hc1=>?_) (fun hc1=>?_)
 ·replace H0:=Zu hc1 H0
  refine r_s (L:=[(0,_),(2,_)]) (T:=[⟨[],_,[],[],[6]⟩]) (F:=[.o 0,.o 1,.p 0 0]) (hst.pick [0,1] rfl) hb Za
   (Qa rfl c_i<|o_n) (fun a g hst hb=>?_)
  refine wp_ret ?_
  refine Zo ?_
  obtain rfl:=Option.some.inj H0
  exact Zi9 rfl hst hb (Zg (s:=6)) (hst.at 2 rfl) ⟨Zc5 (hst.at 0 rfl),Zc5 (hst.at 1 rfl),trivial⟩
 ·replace H0:=Zt hc1 H0
  refine wp_skip ?_
  refine Zp ?_
  refine r_s (L:=[(0,_),(2,_),(4,_)]) (T:=[⟨[.o 0],_,[],[],[35]⟩,⟨[.p 0 0],_,[],[0],[36]⟩,⟨[.p 1 0],_,[],[0,1],[37]⟩,⟨[.p 2 0],_,[],[0,1,2],[38]⟩,⟨[.o 2],_,[],[],[39]⟩,⟨[.p 4 0],_,[],[4],[40]⟩,⟨[.p 3 0,.p 5 0],_,[],Lr 6,[41]⟩,⟨[.p 0 0],_,[],Lr 7,[42]⟩,⟨[.p 7 0],_,[],Lr 8,[43]⟩,⟨[.p 6 0,.p 8 0,.o 0],_,[1],Lr 9,[0,35,36,37,42,43]⟩]) (F:=[.p 9 0,.o 1]) (hst.pick [0,1,2] rfl) hb Za
   (Qm rfl u_0<|o_p rfl (Zq rfl rfl u_0 (fun _ _ ⟨_,_,_,e,_⟩=>⟨_,e⟩))<|o_p rfl (Zr Zc3 (off:=1) (by kernel_rfl) rfl rfl u_0)<|QP rfl ty_2 u_0<|Qf rfl Zec u_0<|Ql rfl ty_2 u_0<|o_p rfl (Zb0 rfl rfl u_0 u_1 rfl)<|o_p rfl (Zq rfl rfl u_0 (fun _ _ ⟨_,_,_,e,_⟩=>⟨_,e⟩))<|o_p rfl (Zr Zc3 (off:=1) (by kernel_rfl) rfl rfl u_0)<|o_p rfl (Znw ty_2 rfl rfl u_2 u_1 u_0)<|o_n) (fun a g hst hb=>?_)
  refine r_s (T:=[⟨[],_,[],[],[6]⟩]) (F:=[.o 0,.o 1,.p 0 0]) hst hb Za
   (Qa rfl c_i<|o_n) (fun a g hst hb=>?_)
  refine wp_ret ?_
  obtain rfl:=Option.some.inj H0
  exact Zi9 rfl hst hb (Zg (s:=6)) (hst.at 2 rfl) ⟨Zc5 (hst.at 0 rfl),Zc5 (hst.at 1 rfl),trivial⟩
theorem Zq8 (a0:Zb) (a1:Zn) (a2:Zd) {r:Int × Zb × Zd} (h:Zd3 a0 a1 a2=some r):FnB Tryz.prog 117 [.box Ze a0 r.2.1,.val (Z0.pd a1),.box Zj a2 r.2.2] (pInt .i64 r.1):=by
 have H0:=h
 unfold Zd3 at H0
 clear h
 refine Zlc (N:=14) Tryz.func117 rfl rfl (Qe rfl) rfl rfl (fun a g0 bs hbs hst hb=>?_)
 obtain ⟨b0,b2,rfl⟩:=Zmy hbs
 replace hst:St 14 [(0,(Zch (some b0) Ze 0 a0)),(1,(Z0.pd a1)),(2,(Zch (some b2) Zj 2 a2))] _ _:=hst
 refine r_s (T:=[⟨[.o 1],_,[],[],[4]⟩,⟨[],_,[],[],[6]⟩]) (F:=[.o 0,.o 2,.p 0 0]) hst hb Za
  (Qb rfl u_0<|Qa rfl c_i<|o_n) (fun a g hst hb=>?_)
 refine wp_seq ?_
 refine r_s (T:=[⟨[.o 0],_,[],[],[7]⟩,⟨[.p 0 0],_,[],[0],[8]⟩,⟨[.p 1 0],_,[],[0,1],[9]⟩,⟨[.p 2 0],_,[],[0,1,2],[10]⟩,⟨[.o 2],_,[],[],[11]⟩,⟨[.p 4 0],_,[],[4],[12]⟩,⟨[.p 3 0,.p 5 0],_,[],Lr 6,[13]⟩]) (F:=[.o 0,.o 1,.p 6 0]) hst hb Za
  (Qm rfl u_0<|o_p rfl (Zq rfl rfl u_0 (fun _ _ ⟨_,_,_,e,_⟩=>⟨_,e⟩))<|o_p rfl (Zr Zc3 (off:=1) (by kernel_rfl) rfl rfl u_0)<|QP rfl ty_2 u_0<|Qf rfl Zec u_0<|Ql rfl ty_2 u_0<|o_p rfl (Zca rfl rfl u_0 u_1)<|o_n) (fun a g hst hb=>?_)
 refine wp_cond_split (hst.bool 2 rfl) (fun hc1=>?_) (fun hc1=>?_)
 ·replace H0:=Zu hc1 H0
  refine r_s (L:=[(0,_),(2,_)]) (T:=[⟨[],_,[],[],[6]⟩]) (F:=[.o 0,.o 1,.p 0 0]) (hst.pick [0,1] rfl) hb Za
   (Qa rfl c_i<|o_n) (fun a g hst hb=>?_)
  refine wp_ret ?_
  refine Zo ?_
  obtain rfl:=Option.some.inj H0
  exact Zi9 rfl hst hb (Zg (s:=6)) (hst.at 2 rfl) ⟨Zc5 (hst.at 0 rfl),Zc5 (hst.at 1 rfl),trivial⟩
 ·replace H0:=Zt hc1 H0
  refine wp_skip ?_
  refine Zp ?_
  refine r_s (L:=[(0,_),(2,_)]) (T:=[⟨[],_,[],[],[6]⟩]) (F:=[.o 0,.o 1,.p 0 0]) (hst.pick [0,1] rfl) hb Za
   (Qa rfl c_i<|o_n) (fun a g hst hb=>?_)
  refine wp_ret ?_
  obtain rfl:=Option.some.inj H0
  exact Zi9 rfl hst hb (Zg (s:=6)) (hst.at 2 rfl) ⟨Zc5 (hst.at 0 rfl),Zc5 (hst.at 1 rfl),trivial⟩
theorem Zvs (a0:Zb) (a1:Zn) (a2:Zd) {r:Int × Zb × Zd} (h:Zhn a0 a1 a2=some r):FnB Tryz.prog 118 [.box Ze a0 r.2.1,.val (Z0.pd a1),.box Zj a2 r.2.2] (pInt .i64 r.1):=by
 have H0:=h
 unfold Zhn at H0
 clear h
 refine Zlc (N:=28) Tryz.func118 rfl rfl (Qe rfl) rfl rfl (fun a g0 bs hbs hst hb=>?_)
 obtain ⟨b0,b2,rfl⟩:=Zmy hbs
 replace hst:St 28 [(0,(Zch (some b0) Ze 0 a0)),(1,(Z0.pd a1)),(2,(Zch (some b2) Zj 2 a2))] _ _:=hst
 refine r_s (T:=[⟨[.o 1],_,[],[],[4]⟩,⟨[],_,[],[],[6]⟩]) (F:=[.o 0,.o 2,.p 0 0]) hst hb Za
  (Qb rfl u_0<|Qa rfl c_i<|o_n) (fun a g hst hb=>?_)
 refine wp_seq ?_
 refine r_s (T:=⟨[.o 2],_,[],[],[7]⟩ :: ⟨[.p 0 0],_,[],[0],[8]⟩ :: ⟨[.o 0],_,[],[],[9]⟩ :: ⟨[.p 2 0],_,[],[2],[10]⟩ :: ⟨[.p 3 0],_,[],[2,3],[11]⟩ :: ⟨[.p 4 0],_,[],[2,3,4],[12]⟩ :: ⟨[.o 0],_,[],[],[13]⟩ :: ⟨[.p 6 0],_,[],[6],[14]⟩ :: ⟨[.p 7 0],_,[],[6,7],[15]⟩ :: ⟨[.p 8 0],_,[],[6,7,8],[16]⟩ :: ⟨[.p 5 0,.p 9 0],_,[],List.range' 2 8,[17]⟩ :: ⟨[.p 1 0,.p 10 0],_,[],Lr 11,[18]⟩ :: []) (F:=[.o 0,.o 1,.o 2,.p 11 0]) hst hb Za
  (Qf rfl Zec u_0<|Ql rfl ty_2 u_0<|Qm rfl u_0<|o_p rfl (Zq rfl rfl u_0 (fun _ _ ⟨_,_,_,e,_⟩=>⟨_,e⟩))<|o_p rfl (Zr Zkd (off:=3) (by kernel_rfl) rfl rfl u_0)<|QP rfl ty_2 u_0<|Qm rfl u_0<|o_p rfl (Zq rfl rfl u_0 (fun _ _ ⟨_,_,_,e,_⟩=>⟨_,e⟩))<|o_p rfl (Zr Zc3 (off:=1) (by kernel_rfl) rfl rfl u_0)<|QP rfl ty_2 u_0<|o_p rfl (Zh1 rfl rfl u_0 u_1 rfl)<|o_p rfl (Zct rfl rfl u_0 u_1)<|o_n) (fun a g hst hb=>?_)
 refine wp_cond_split (hst.bool 3 rfl) (fun hc1=>?_) (fun hc1=>?_)
 ·replace H0:=Zu hc1 H0
  refine r_s (L:=[(0,_),(2,_)]) (T:=[⟨[],_,[],[],[6]⟩]) (F:=[.o 0,.o 1,.p 0 0]) (hst.pick [0,1] rfl) hb Za
   (Qa rfl c_i<|o_n) (fun a g hst hb=>?_)
  refine wp_ret ?_
  refine Zo ?_
  obtain rfl:=Option.some.inj H0
  exact Zi9 rfl hst hb (Zg (s:=6)) (hst.at 2 rfl) ⟨Zc5 (hst.at 0 rfl),Zc5 (hst.at 1 rfl),trivial⟩
 ·replace H0:=Zt hc1 H0
  refine wp_skip ?_
  refine Zp ?_
  refine r_s (L:=[(0,_),(2,_),(4,_)]) (T:=[⟨[.o 0],_,[],[],[19]⟩,⟨[.p 0 0],_,[],[0],[20]⟩,⟨[.p 1 0],_,[],[0,1],[21]⟩,⟨[.p 2 0],_,[],[0,1,2],[22]⟩,⟨[.o 2],_,[],[],[23]⟩,⟨[.p 4 0],_,[],[4],[24]⟩,⟨[.p 3 0,.p 5 0],_,[],Lr 6,[25]⟩,⟨[.p 0 0],_,[],Lr 7,[26]⟩,⟨[.p 7 0],_,[],Lr 8,[27]⟩,⟨[.p 6 0,.p 8 0,.o 0],_,[1],Lr 9,[0,19,20,21,26,27]⟩]) (F:=[.p 9 0,.o 1]) (hst.pick [0,1,2] rfl) hb Za
   (Qm rfl u_0<|o_p rfl (Zq rfl rfl u_0 (fun _ _ ⟨_,_,_,e,_⟩=>⟨_,e⟩))<|o_p rfl (Zr Zc3 (off:=1) (by kernel_rfl) rfl rfl u_0)<|QP rfl ty_2 u_0<|Qf rfl Zec u_0<|Ql rfl ty_2 u_0<|o_p rfl (Zb0 rfl rfl u_0 u_1 rfl)<|o_p rfl (Zq rfl rfl u_0 (fun _ _ ⟨_,_,_,e,_⟩=>⟨_,e⟩))<|o_p rfl (Zr Zc3 (off:=1) (by kernel_rfl) rfl rfl u_0)<|o_p rfl (Znw ty_2 rfl rfl u_2 u_1 u_0)<|o_n) (fun a g hst hb=>?_)
  refine r_s (T:=[⟨[],_,[],[],[6]⟩]) (F:=[.o 0,.o 1,.p 0 0]) hst hb Za
   (Qa rfl c_i<|o_n) (fun a g hst hb=>?_)
  refine wp_ret ?_
  obtain rfl:=Option.some.inj H0
  exact Zi9 rfl hst hb (Zg (s:=6)) (hst.at 2 rfl) ⟨Zc5 (hst.at 0 rfl),Zc5 (hst.at 1 rfl),trivial⟩
theorem Zvk (a0:Zb) (a1:Zn) (a2:Zd) {r:Int × Zb × Zd} (h:Zhh a0 a1 a2=some r):FnB Tryz.prog 119 [.box Ze a0 r.2.1,.val (Z0.pd a1),.box Zj a2 r.2.2] (pInt .i64 r.1):=by
 have H0:=h
 unfold Zhh at H0
 clear h
 refine Zlc (N:=28) Tryz.func119 rfl rfl (Qe rfl) rfl rfl (fun a g0 bs hbs hst hb=>?_)
 obtain ⟨b0,b2,rfl⟩:=Zmy hbs
 replace hst:St 28 [(0,(Zch (some b0) Ze 0 a0)),(1,(Z0.pd a1)),(2,(Zch (some b2) Zj 2 a2))] _ _:=hst
 refine r_s (T:=[⟨[.o 1],_,[],[],[4]⟩,⟨[],_,[],[],[6]⟩]) (F:=[.o 0,.o 2,.p 0 0]) hst hb Za
  (Qb rfl u_0<|Qa rfl c_i<|o_n) (fun a g hst hb=>?_)
 refine wp_seq ?_
 refine r_s (T:=⟨[.o 2],_,[],[],[7]⟩ :: ⟨[.p 0 0],_,[],[0],[8]⟩ :: ⟨[.o 0],_,[],[],[9]⟩ :: ⟨[.p 2 0],_,[],[2],[10]⟩ :: ⟨[.p 3 0],_,[],[2,3],[11]⟩ :: ⟨[.p 4 0],_,[],[2,3,4],[12]⟩ :: ⟨[.o 0],_,[],[],[13]⟩ :: ⟨[.p 6 0],_,[],[6],[14]⟩ :: ⟨[.p 7 0],_,[],[6,7],[15]⟩ :: ⟨[.p 8 0],_,[],[6,7,8],[16]⟩ :: ⟨[.p 5 0,.p 9 0],_,[],List.range' 2 8,[17]⟩ :: ⟨[.p 1 0,.p 10 0],_,[],Lr 11,[18]⟩ :: []) (F:=[.o 0,.o 1,.o 2,.p 11 0]) hst hb Za
  (Qf rfl Zec u_0<|Ql rfl ty_2 u_0<|Qm rfl u_0<|o_p rfl (Zq rfl rfl u_0 (fun _ _ ⟨_,_,_,e,_⟩=>⟨_,e⟩))<|o_p rfl (Zr Zc3 (off:=1) (by kernel_rfl) rfl rfl u_0)<|QP rfl ty_2 u_0<|Qm rfl u_0<|o_p rfl (Zq rfl rfl u_0 (fun _ _ ⟨_,_,_,e,_⟩=>⟨_,e⟩))<|o_p rfl (Zr Zkf (off:=2) (by kernel_rfl) rfl rfl u_0)<|QP rfl ty_2 u_0<|o_p rfl (Zh1 rfl rfl u_0 u_1 rfl)<|o_p rfl (Zct rfl rfl u_0 u_1)<|o_n) (fun a g hst hb=>?_)
 refine wp_cond_split (hst.bool 3 rfl) (fun hc1=>?_) (fun hc1=>?_)
 ·replace H0:=Zu hc1 H0
  refine r_s (L:=[(0,_),(2,_)]) (T:=[⟨[],_,[],[],[6]⟩]) (F:=[.o 0,.o 1,.p 0 0]) (hst.pick [0,1] rfl) hb Za
   (Qa rfl c_i<|o_n) (fun a g hst hb=>?_)
  refine wp_ret ?_
  refine Zo ?_
  obtain rfl:=Option.some.inj H0
  exact Zi9 rfl hst hb (Zg (s:=6)) (hst.at 2 rfl) ⟨Zc5 (hst.at 0 rfl),Zc5 (hst.at 1 rfl),trivial⟩
 ·replace H0:=Zt hc1 H0
  refine wp_skip ?_
  refine Zp ?_
  refine r_s (L:=[(0,_),(2,_),(4,_)]) (T:=[⟨[.o 0],_,[],[],[19]⟩,⟨[.p 0 0],_,[],[0],[20]⟩,⟨[.p 1 0],_,[],[0,1],[21]⟩,⟨[.p 2 0],_,[],[0,1,2],[22]⟩,⟨[.o 2],_,[],[],[23]⟩,⟨[.p 4 0],_,[],[4],[24]⟩,⟨[.p 3 0,.p 5 0],_,[],Lr 6,[25]⟩,⟨[.p 0 0],_,[],Lr 7,[26]⟩,⟨[.p 7 0],_,[],Lr 8,[27]⟩,⟨[.p 6 0,.p 8 0,.o 0],_,[1],Lr 9,[0,19,20,21,26,27]⟩]) (F:=[.p 9 0,.o 1]) (hst.pick [0,1,2] rfl) hb Za
   (Qm rfl u_0<|o_p rfl (Zq rfl rfl u_0 (fun _ _ ⟨_,_,_,e,_⟩=>⟨_,e⟩))<|o_p rfl (Zr Zc3 (off:=1) (by kernel_rfl) rfl rfl u_0)<|QP rfl ty_2 u_0<|Qf rfl Zec u_0<|Ql rfl ty_2 u_0<|o_p rfl (Zh1 rfl rfl u_0 u_1 rfl)<|o_p rfl (Zq rfl rfl u_0 (fun _ _ ⟨_,_,_,e,_⟩=>⟨_,e⟩))<|o_p rfl (Zr Zc3 (off:=1) (by kernel_rfl) rfl rfl u_0)<|o_p rfl (Znw ty_2 rfl rfl u_2 u_1 u_0)<|o_n) (fun a g hst hb=>?_)
  refine r_s (T:=[⟨[],_,[],[],[6]⟩]) (F:=[.o 0,.o 1,.p 0 0]) hst hb Za
   (Qa rfl c_i<|o_n) (fun a g hst hb=>?_)
  refine wp_ret ?_
  obtain rfl:=Option.some.inj H0
  exact Zi9 rfl hst hb (Zg (s:=6)) (hst.at 2 rfl) ⟨Zc5 (hst.at 0 rfl),Zc5 (hst.at 1 rfl),trivial⟩
end Go.CL
