/- A part of the proof of ShareEscrow. -/
import Derived.Test.YtbiobpmabomjfaaDoorShareEscrowC5
import Derived.KernelRfl
import Derived.Laws.Strings
set_option linter.unusedVariables false
set_option linter.unusedSimpArgs false
set_option maxRecDepth 100000
namespace Go.CL
open Go Go.RowKit Go.Proofs
theorem Zlz (a0:Za) (a1:Int) (a2:List Zu) {r:Bool} (h:Zfw a0 a1 a2=some r):FnOk Tryd.prog 5 [(Zc.pd a0),(pInt .i64 a1),(Z9.sl.pd a2)] (Zba r):=by
 have H0:=h
 unfold Zfw at H0
 clear h
 refine Zbt (N:=146) Tryd.func5 rfl rfl (Qe rfl) rfl rfl (fun a g0 hst hb=>?_)
 refine r_s (T:=[⟨[.o 0],_,[],[],[3]⟩,⟨[],_,[],[],[6]⟩]) (F:=[.o 1,.o 2,.p 0 0]) hst hb Zb
  (Qb rfl u_0<|Qa rfl c_b<|o_n) (fun a g hst hb=>?_)
 refine wp_seq ?_
 obtain ⟨r1,h2,H0⟩:=Zf H0
 refine r_s (T:=[⟨[],_,[],[],[20]⟩,⟨[.p 0 0],_,[],[0],[21]⟩]) (F:=[.o 0,.o 1,.o 2,.p 1 0]) hst hb Zb
  (o_p rfl (Zr en_8 (Znk h2) rfl rfl .nil)<|Qn rfl u_0<|o_n) (fun a g hst hb=>?_)
 refine wp_cond_split (hst.bool 3 rfl) (fun hc3=>?_) (fun hc3=>?_)
 ·replace H0:=Zn hc3 H0
  refine r_s (L:=[]) (T:=[⟨[],_,[],[],[6]⟩]) (F:=[.p 0 0]) (hst.pick [] rfl) hb Zb
   (Qa rfl c_b<|o_n) (fun a g hst hb=>?_)
  refine wp_ret ?_
  refine Zk ?_
  obtain rfl:=Option.some.inj H0
  exact Zz rfl hst hb (Zg (s:=6)) (hst.at 0 rfl)
 ·replace H0:=Zo hc3 H0
  refine wp_skip ?_
  refine Zm ?_
  refine wp_seq ?_
  obtain ⟨r4,h5,H0⟩:=Zf H0;obtain ⟨r6,h7,H0⟩:=Zf H0
  refine r_s (L:=[(1,_),(2,_),(3,_)]) (T:=[⟨[.o 2],_,[],[],[22]⟩,⟨[.o 1],_,[],[],[23]⟩,⟨[.p 0 0,.p 1 0],_,[],[0,1],[24]⟩,⟨[.p 2 0],_,[],[0,1,2],[25]⟩,⟨[.p 3 0,.o 2],_,[],Lr 4,[26]⟩,⟨[.p 3 0,.p 4 0],_,[],Lr 5,[27]⟩,⟨[.p 3 0,.p 5 0],_,[],Lr 6,[28]⟩,⟨[.p 3 0,.p 6 0],_,[],Lr 7,[29]⟩]) (F:=[.o 0,.o 1,.o 2,.p 7 0]) (hst.pick [0,1,2] rfl) hb Zb
   (Ql rfl Z0 u_0<|Qm rfl u_0<|o_p rfl (Zr en_9 (Zo8 _ _ h5) rfl rfl (.cons u_0 (.cons u_1 .nil)))<|Qm rfl u_0<|o_g (Qg_f rfl (fun hG=>Zs Z0 rfl rfl u_0))<|o_g (Qg_f rfl (fun hG=>Zr Zy8 (Zis _ (Zbq h7 hG)) rfl rfl (.cons (Opd.gd hG u_0) .nil)))<|o_g (Qg_f rfl (fun hG=>Zdq rfl rfl (Opd.gd hG u_0) c_i))<|o_p rfl (Zbl rfl rfl u_0 (fun hz=>(Opd.gd (bNF hz) u_1)))<|o_n) (fun a g hst hb=>?_)
  refine wp_cond_split (hst.bool 3 rfl) (fun hc8=>?_) (fun hc8=>?_)
  ·replace H0:=Zn hc8 H0
   refine r_s (L:=[]) (T:=[⟨[],_,[],[],[6]⟩]) (F:=[.p 0 0]) (hst.pick [] rfl) hb Zb
    (Qa rfl c_b<|o_n) (fun a g hst hb=>?_)
   refine wp_ret ?_
   refine Zk ?_
   obtain rfl:=Option.some.inj H0
   exact Zz rfl hst hb (Zg (s:=6)) (hst.at 0 rfl)
  ·replace H0:=Zo hc8 H0
   refine wp_skip ?_
   refine Zm ?_
   obtain ⟨r9,h10,H0⟩:=Zf H0
   refine r_s (L:=[(1,_),(2,_),(3,_)]) (T:=[⟨[.o 2],_,[],[],[31]⟩,⟨[.o 0],_,[],[],[32]⟩,⟨[.o 1],_,[],[],[33]⟩,⟨[.p 0 0,.p 1 0,.p 2 0],_,[],[0,1,2],[34]⟩,⟨[.p 3 0],_,[],Lr 4,[30]⟩,⟨[.p 4 0],_,[],Lr 5,[35]⟩,⟨[.p 4 0],_,[],Lr 5,[36]⟩,⟨[.p 5 0],_,[],Lr 6,[7]⟩,⟨[.p 6 0],_,[],Lr 8,[8]⟩]) (F:=[.o 0,.o 2,.p 7 0,.p 8 0]) (hst.pick [0,1,2] rfl) hb Zb
    (Ql rfl Z0 u_0<|Qm rfl u_0<|Qm rfl u_0<|o_p rfl (Zr Z74 (Znx _ _ _ h10) rfl rfl (.cons u_0 (.cons u_1 (.cons u_2 .nil))))<|Qm rfl u_0<|o_p rfl (Zbc rfl rfl u_0 rfl)<|o_p rfl (Zbc rfl rfl u_0 rfl)<|Qa rfl u_0<|Qa rfl u_0<|o_n) (fun a g hst hb=>?_)
   refine wp_seq ?_
   refine r_s (T:=[⟨[.o 3],_,[],[],[37]⟩,⟨[.p 0 0],_,[],[0],[38]⟩]) (F:=[.o 0,.o 1,.o 2,.p 1 0]) hst hb Zb
    (Qm rfl u_0<|Qn rfl u_0<|o_n) (fun a g hst hb=>?_)
   refine wp_cond_split (hst.bool 3 rfl) (fun hc11=>?_) (fun hc11=>?_)
   ·replace H0:=Zn hc11 H0
    refine r_s (L:=[(1,_),(3,_)]) (T:=⟨[.o 0],_,[],[],[39]⟩ :: ⟨[.p 0 0],_,[],[0],[40]⟩ :: ⟨[.p 1 0],_,[],[0,1],[41]⟩ :: ⟨[.p 2 0,.o 0],_,[],[0,1,2],[42]⟩ :: ⟨[.p 2 0,.p 3 0],_,[],Lr 4,[43]⟩ :: ⟨[.p 2 0,.p 4 0],_,[],Lr 5,[44]⟩ :: ⟨[.p 5 0],_,[],Lr 6,[45]⟩ :: ⟨[.p 6 0,.o 1],_,[],Lr 7,[46]⟩ :: ⟨[.p 6 0,.p 7 0],_,[],Lr 8,[47]⟩ :: ⟨[.p 6 0,.p 8 0],_,[],Lr 9,[48]⟩ :: ⟨[.p 6 0,.p 9 0],_,[],Lr 10,[49]⟩ :: ⟨[.p 10 0],_,[],Lr 11,[50]⟩ :: ⟨[.p 11 0,.o 1],_,[],Lr 12,[51]⟩ :: ⟨[.p 11 0,.p 12 0],_,[],Lr 13,[52]⟩ :: ⟨[.p 11 0,.p 13 0],_,[],Lr 14,[53]⟩ :: ⟨[.p 11 0,.p 14 0],_,[],Lr 15,[54]⟩ :: ⟨[.p 15 0],_,[],Lr 16,[6]⟩ :: []) (F:=[.p 16 0]) (hst.pick [0,1] rfl) hb Zb
     (Qm rfl u_0<|o_p rfl (Zb6 rfl rfl u_0 c_i)<|Qm rfl u_0<|o_g (Qg_f rfl (fun hG=>Zy rfl rfl u_0))<|o_g (Qg_f rfl (fun hG=>Zcf rfl rfl (Opd.gd hG u_0) c_i))<|o_p rfl (Zbl rfl rfl u_0 (fun hz=>(Opd.gd (bNF hz) u_1)))<|Qm rfl u_0<|o_g (Qg_f rfl (fun hG=>Zj Zde rfl rfl u_0))<|o_g (Qg_f rfl (fun hG=>Zs ty_3 rfl rfl (Opd.gd hG u_0)))<|o_g (Qg_f rfl (fun hG=>Z8 rfl rfl (Opd.gd hG u_0) c_i))<|o_p rfl (Zbl rfl rfl u_0 (fun hz=>(Opd.gd (bNF hz) u_1)))<|Qm rfl u_0<|o_g (Qg_f rfl (fun hG=>Zj Zde rfl rfl u_0))<|o_g (Qg_f rfl (fun hG=>Zs ty_3 rfl rfl (Opd.gd hG u_0)))<|o_g (Qg_f rfl (fun hG=>Z8 rfl rfl (Opd.gd hG u_0) c_i))<|o_p rfl (Zbl rfl rfl u_0 (fun hz=>(Opd.gd (bNF hz) u_1)))<|Qa rfl u_0<|o_n) (fun a g hst hb=>?_)
    refine wp_ret ?_
    refine Zk ?_
    obtain rfl:=Option.some.inj H0
    exact Zz rfl hst hb (Zg (s:=6)) (hst.at 0 rfl)
   ·replace H0:=Zo hc11 H0
    refine wp_skip ?_
    refine Zm ?_
    obtain ⟨h12,H0⟩:=Zg2 H0
    refine r_s (L:=[(1,_),(3,_),(7,_)]) (T:=[⟨[.o 0],_,[],[],[55]⟩,⟨[.p 0 0],[(56,(pArr Zc 25 56 (List.replicate (Int.toNat a1) (default:Za))))],[57],[0],[56]⟩,⟨[.p 1 0],_,[],[0,1],[9]⟩]) (F:=[.o 0,.o 1,.o 2,.p 2 0]) (hst.pick [0,1,2] rfl) hb Zb
     (Qm rfl u_0<|o_p rfl (Z5f (zs:=[.int .i64 0,.int .i64 0,.int .i64 0,.int .i64 0,.float .f64 0,.int .i64 0,.string ByteArray.empty,.slice none 0 0]) (zv:=(default:Za)) Z3a (by kernel_rfl) (fun g=>Zbr g) (by decide) rfl rfl (Opd.to u_0 (congrArg (pInt .i64) (Int.toNat_of_nonneg h12.1).symm)) (Opd.to u_0 (congrArg (pInt .i64) (Int.toNat_of_nonneg h12.1).symm)) h12.2 (Nat.le_trans (Nat.le_mul_of_pos_right _ (by decide)) h12.2))<|Qa rfl u_0<|o_n) (fun a g hst hb=>?_)
    refine wp_seq ?_
    refine r_s (T:=[⟨[.o 3],_,[],[],[57]⟩,⟨[.p 0 0],_,[],[0],[58]⟩,⟨[],_,[],[],[59]⟩]) (F:=[.o 0,.o 1,.o 2,.o 3,.p 1 0,.p 2 0]) hst hb Zb
     (Qm rfl u_0<|o_p rfl (Zx4 Tryd.underlying33 rfl rfl u_0)<|Qm rfl c_i<|o_n) (fun a g hst hb=>?_)
    obtain ⟨z21,hz1,H0⟩:=Zf H0
    refine Zbz (fun a w=>∃ (y20:List Za) (g:G),w=g.w ∧ St 146 [(1,(pInt .i64 a1)),(3,(Zc.ptr a0)),(7,(Z9.sl.pd r9.1)),(9,(pArr Zc 25 56 y20))] a g ∧ Base g0 g ∧ y20=z21) ?_ ?_
    ·rintro a w ⟨y20,g,rfl,hst,hb,rfl⟩
     refine Zm ?_
     refine wp_seq ?_
     refine r_s (T:=[⟨[.o 2],_,[],[],[71]⟩,⟨[.p 0 0],_,[],[0],[72]⟩,⟨[],_,[],[],[73]⟩]) (F:=[.o 0,.o 1,.o 2,.o 3,.p 0 0,.p 1 0,.p 2 0]) hst hb Zb
      (Qm rfl u_0<|o_p rfl (Zcc Tryd.underlying40 rfl rfl u_0)<|Qm rfl c_i<|o_n) (fun a g hst hb=>?_)
     obtain ⟨z43,hz2,H0⟩:=Zf H0
     refine Zbz (fun a w=>∃ (g:G),w=g.w ∧ St 146 [(3,(Zc.ptr a0)),(7,(Z9.sl.pd r9.1))] a g ∧ Base g0 g ∧ (.inr ())=z43) ?_ ?_
     ·rintro a w ⟨g,rfl,hst,hb,rfl⟩
      refine Zm ?_
      obtain ⟨r44,h45,H0⟩:=Zf H0
      refine r_s (T:=[⟨[.o 0],_,[],[],[120]⟩,⟨[.o 1],_,[],[],[121]⟩,⟨[.p 0 0,.p 1 0],_,[],[0,1],[122]⟩,⟨[.p 2 0],_,[],[0,1,2],[119]⟩,⟨[.p 3 0],_,[],Lr 4,[123]⟩,⟨[.p 3 0],_,[],Lr 4,[124]⟩,⟨[],[(15,(pBox Zc 15 (default:Za)))],[16],[],[15]⟩,⟨[.p 4 0,.p 6 0],_,[16],[0,1,2,3,4,6],[15]⟩,⟨[.p 5 0],_,[],Lr 8,[16]⟩]) (F:=[.o 0,.o 1,.p 7 0]) hst hb Zb
       (Ql rfl Z0 u_0<|Qm rfl u_0<|o_p rfl (Zr Zzf (Ziz _ _ _ h45) rfl rfl (.cons u_0 (.cons u_1 (.cons c_i .nil))))<|Qm rfl u_0<|o_p rfl (Zbc rfl rfl u_0 rfl)<|o_p rfl (Zbc rfl rfl u_0 rfl)<|o_p rfl (Zbm (zs:=[.int .i64 0,.int .i64 0,.int .i64 0,.int .i64 0,.float .f64 0,.int .i64 0,.string ByteArray.empty,.slice none 0 0]) (by kernel_rfl) (fun g=>Zbr g) rfl rfl)<|o_p rfl (Zb9 Z0 rfl rfl u_1 u_0)<|Qa rfl u_0<|o_n) (fun a g hst hb=>?_)
      refine wp_seq ?_
      refine r_s (T:=[⟨[.o 1],_,[],[],[125]⟩,⟨[.p 0 0],_,[],[0],[126]⟩,⟨[],_,[],[],[127]⟩]) (F:=[.o 0,.o 1,.o 2,.p 0 0,.p 1 0,.p 2 0]) hst hb Zb
       (Qm rfl u_0<|o_p rfl (Zcc Tryd.underlying40 rfl rfl u_0)<|Qm rfl c_i<|o_n) (fun a g hst hb=>?_)
      obtain ⟨z53,hz3,H0⟩:=Zf H0
      refine Zbz (fun a w=>∃ (g:G),w=g.w ∧ St 146 [] a g ∧ Base g0 g ∧ (.inr ())=z53) ?_ ?_
      ·rintro a w ⟨g,rfl,hst,hb,rfl⟩
       refine Zm ?_
       refine r_s (T:=[⟨[],_,[],[],[6]⟩]) (F:=[.p 0 0]) hst hb Zb
        (Qa rfl c_b<|o_n) (fun a g hst hb=>?_)
       refine wp_ret ?_
       obtain rfl:=Option.some.inj H0
       exact Zz rfl hst hb (Zg (s:=6)) (hst.at 0 rfl)
      ·refine wp_block ?_
       refine wp_loop_ghost (fun n a w=>∃ (x46:Int) (g:G),w=g.w ∧ St 146 [(3,(Zc.ptr a0)),(7,(Z9.sl.pd r9.1)),(15,(Zc.ptr r44.1)),(125,(Z9.sl.pd r9.1)),(126,(pInt .i64 (r9.1.length:Int))),(127,(pInt .i64 x46))] a g ∧ Base g0 g ∧ Zcp a0 r9 r44 n x46=some z53) (Int.toNat ((r9.1.length:Int) - (0:Int)) + 1) ⟨(0:Int),g,rfl,(hst.pick [0,1,2,3,4,5] rfl),hb,hz3⟩ (fun n a w hI=>?_)
       obtain ⟨x46,g,rfl,hst,hb,H1⟩:=hI
       cases n with
       | zero=>exact absurd H1 (by simp [Zcp])
       | succ n =>
        rw [Zcp] at H1
        refine r_s (T:=[⟨[.o 5,.o 4],_,[],[],[128]⟩]) (F:=[.o 0,.o 1,.o 2,.o 3,.o 4,.o 5,.p 0 0]) hst hb Zb
         (o_p rfl (Zb6 rfl rfl u_0 u_1)<|o_n) (fun a g hst hb=>?_)
        refine wp_seq ?_
        refine wp_cond_split (hst.bool 6 rfl) (fun hc47=>?_) (fun hc47=>?_)
        ·replace H1:=Zn hc47 H1
         refine wp_skip ?_
         refine Zm ?_
         refine wp_seq ?_
         refine wp_block ?_
         refine r_s (L:=[(3,_),(7,_),(15,_),(125,_),(126,_),(127,_)]) (T:=[⟨[.o 5],_,[],[],[129]⟩,⟨[.p 0 0],_,[],[0],[17]⟩]) (F:=[.o 0,.o 1,.o 2,.p 1 0,.o 3,.o 4,.o 5]) (hst.pick [0,1,2,3,4,5] rfl) hb Zb
          (Qm rfl u_0<|Qa rfl u_0<|o_n) (fun a g hst hb=>?_)
         obtain ⟨r48,h49,H1⟩:=Zf H1
         refine r_s (T:=[⟨[.o 0],_,[],[],[131]⟩,⟨[.o 1],_,[],[],[132]⟩,⟨[.o 3],_,[],[],[133]⟩,⟨[.p 0 0,.p 1 0,.p 2 0],_,[],[0,1,2],[134]⟩,⟨[.p 3 0],_,[],Lr 4,[130]⟩,⟨[.p 4 0],_,[],Lr 5,[135]⟩,⟨[.p 4 0],_,[],Lr 5,[136]⟩,⟨[],[(18,(pBox Zc 18 (default:Za)))],[19],[],[18]⟩,⟨[.p 5 0,.p 7 0],_,[19],[0,1,2,3,4,5,7],[18]⟩,⟨[.p 6 0],_,[],Lr 9,[19]⟩]) (F:=[.o 0,.o 1,.o 2,.p 8 0,.p 9 0,.o 4,.o 5,.o 6]) hst hb Zb
          (Ql rfl Z0 u_0<|Qm rfl u_0<|Qm rfl u_0<|o_p rfl (Zr Zzf (Ziz _ _ _ h49) rfl rfl (.cons u_0 (.cons u_1 (.cons u_2 .nil))))<|Qm rfl u_0<|o_p rfl (Zbc rfl rfl u_0 rfl)<|o_p rfl (Zbc rfl rfl u_0 rfl)<|o_p rfl (Zbm (zs:=[.int .i64 0,.int .i64 0,.int .i64 0,.int .i64 0,.float .f64 0,.int .i64 0,.string ByteArray.empty,.slice none 0 0]) (by kernel_rfl) (fun g=>Zbr g) rfl rfl)<|o_p rfl (Zb9 Z0 rfl rfl u_1 u_0)<|Qa rfl u_0<|o_n) (fun a g hst hb=>?_)
         obtain ⟨r50,h51,H1⟩:=Zf H1
         refine r_s (T:=[⟨[.o 4],_,[],[],[137]⟩,⟨[.p 0 0],_,[],[0],[138]⟩,⟨[.p 1 0],_,[],[0,1],[139]⟩,⟨[.p 2 0,.o 3],_,[],[0,1,2],[140]⟩,⟨[.p 2 0,.o 2],_,[],[0,1,2],[141]⟩,⟨[.p 2 0,.p 3 0,.p 4 0],_,[],Lr 5,[142]⟩,⟨[.p 2 0,.p 5 0],_,[],Lr 6,[143]⟩,⟨[.p 2 0,.p 6 0],_,[],Lr 7,[144]⟩]) (F:=[.o 0,.o 1,.o 2,.o 5,.o 6,.o 7,.p 7 0]) hst hb Zb
          (Qm rfl u_0<|Qn rfl u_0<|Qm rfl u_0<|o_g (Qg_f rfl (fun hG=>Zs Z0 rfl rfl u_0))<|o_g (Qg_f rfl (fun hG=>Zs Z0 rfl rfl u_0))<|o_g (Qg_f rfl (fun hG=>Zr Zzc (Zi9 _ _ (Zbq h51 hG)) rfl rfl (.cons (Opd.gd hG u_0) (.cons (Opd.gd hG u_1) .nil))))<|o_g (Qg_f rfl (fun hG=>Zem rfl rfl (Opd.gd hG u_0)))<|o_p rfl (Zbl rfl rfl u_0 (fun hz=>(Opd.gd (bNF hz) u_1)))<|o_n) (fun a g hst hb=>?_)
         refine wp_cond_split (hst.bool 6 rfl) (fun hc52=>?_) (fun hc52=>?_)
         ·replace H1:=Zn hc52 H1
          refine r_s (L:=[]) (T:=[⟨[],_,[],[],[6]⟩]) (F:=[.p 0 0]) (hst.pick [] rfl) hb Zb
           (Qa rfl c_b<|o_n) (fun a g hst hb=>?_)
          refine wp_ret ?_
          refine Zv ?_
          refine Zk ?_
          refine Zk ?_
          refine Zv ?_
          refine Zk ?_
          refine Zk ?_
          obtain rfl:=Option.some.inj H1
          obtain rfl:=Option.some.inj H0
          exact Zz rfl hst hb (Zg (s:=6)) (hst.at 0 rfl)
         ·replace H1:=Zo hc52 H1
          refine wp_skip ?_
          refine Z4 ?_
          refine Zm ?_
          refine r_g (L:=[(3,_),(7,_),(15,_),(125,_),(126,_),(127,_)]) (T:=[⟨[.o 5],_,[],[],[145]⟩,⟨[.p 0 0],_,[],[0],[127]⟩]) (F:=[.o 0,.o 1,.o 2,.o 3,.o 4,.p 1 0]) (hst.pick [0,1,2,3,4,5] rfl) hb Zb
           (o_p rfl (Zca rfl rfl u_0 c_i rfl)<|Qm rfl u_0<|o_n) (fun a g hst hb=>?_)
          exact ⟨n,Nat.lt_succ_self _,(IntKind.i64.wrap (x46 + (1:Int))),g,rfl,(hst.pick [0,1,2,3,4,5] rfl),hb,H1⟩
        ·replace H1:=Zo hc47 H1
         refine wp_exit ?_
         refine Zb7 ?_
         refine Zb7 ?_
         refine Zct ?_
         exact ⟨g,rfl,(hst.pick [] rfl),hb,Option.some.inj H1⟩
     ·refine wp_block ?_
      refine wp_loop_ghost (fun n a w=>∃ (x22:List Za) (x23:Int) (g:G),w=g.w ∧ St 146 [(1,(pInt .i64 a1)),(3,(Zc.ptr a0)),(7,(Z9.sl.pd r9.1)),(9,(pArr Zc 25 56 x22)),(71,(Z9.sl.pd r9.1)),(72,(pInt .i64 (r9.1.length:Int))),(73,(pInt .i64 x23))] a g ∧ Base g0 g ∧ Zcn a0 a1 r9 n x22 x23=some z43) (Int.toNat ((r9.1.length:Int) - (0:Int)) + 1) ⟨y20,(0:Int),g,rfl,(hst.pick [0,1,2,3,4,5,6] rfl),hb,hz2⟩ (fun n a w hI=>?_)
      obtain ⟨x22,x23,g,rfl,hst,hb,H1⟩:=hI
      cases n with
      | zero=>exact absurd H1 (by simp [Zcn])
      | succ n =>
       rw [Zcn] at H1
       refine r_s (T:=[⟨[.o 6,.o 5],_,[],[],[74]⟩]) (F:=[.o 0,.o 1,.o 2,.o 3,.o 4,.o 5,.o 6,.p 0 0]) hst hb Zb
        (o_p rfl (Zb6 rfl rfl u_0 u_1)<|o_n) (fun a g hst hb=>?_)
       refine wp_seq ?_
       refine wp_cond_split (hst.bool 7 rfl) (fun hc24=>?_) (fun hc24=>?_)
       ·replace H1:=Zn hc24 H1
        refine wp_skip ?_
        refine Zm ?_
        refine wp_seq ?_
        refine wp_block ?_
        obtain ⟨e25,h26,H1⟩:=Zf H1
        refine r_s (L:=[(1,_),(3,_),(7,_),(9,_),(71,_),(72,_),(73,_)]) (T:=[⟨[.o 6],_,[],[],[75]⟩,⟨[.o 4,.o 6],_,[],[],[76]⟩,⟨[.p 1 0],_,[],[1],[77]⟩,⟨[],[(12,(pBox Z9 12 (default:Zu)))],[13],[],[12]⟩,⟨[.p 0 0],_,[],Lr 4,[11]⟩,⟨[.p 2 0,.p 3 0],_,[13],Lr 5,[12]⟩]) (F:=[.o 0,.o 1,.o 2,.o 3,.p 4 0,.p 5 0,.o 4,.o 5,.o 6]) (hst.pick [0,1,2,3,4,5,6] rfl) hb Zb
         (Qm rfl u_0<|o_p rfl (Zbk Tryd.underlying40 Zr5 rfl rfl u_0 u_1 h26)<|Ql rfl Zoe u_0<|o_p rfl (Zbm (zs:=[.int .i64 0,.int .i64 0,.string ByteArray.empty,.int .i64 0,.float .f64 0,.string ByteArray.empty,.int .i64 0,.int .i64 0,.int .i64 0,.int .i64 0,.float .f64 0,.int .i64 0,.string ByteArray.empty,.slice none 0 0,.bool false]) (by kernel_rfl) (fun g=>Zja g) rfl rfl)<|Qa rfl u_0<|o_p rfl (Zb9 Zoe rfl rfl u_1 u_0)<|o_n) (fun a g hst hb=>?_)
        refine wp_seq ?_
        refine r_s (T:=[⟨[.o 5],_,[],[],[78]⟩,⟨[.p 0 0],_,[],[0],[79]⟩,⟨[.p 1 0],_,[],[0,1],[80]⟩,⟨[.p 2 0],_,[],[0,1,2],[81]⟩,⟨[.p 3 0,.o 5],_,[],Lr 4,[82]⟩,⟨[.p 3 0,.p 4 0],_,[],Lr 5,[83]⟩,⟨[.p 3 0,.o 0],_,[],Lr 4,[84]⟩,⟨[.p 3 0,.p 5 0,.p 6 0],_,[],Lr 7,[85]⟩,⟨[.p 3 0,.p 7 0],_,[],Lr 8,[86]⟩]) (F:=[.o 0,.o 1,.o 2,.o 3,.o 4,.o 5,.o 6,.o 7,.o 8,.p 8 0]) hst hb Zb
         (Qf rfl Znt u_0<|Ql rfl ty_3 u_0<|o_p rfl (Zb6 rfl rfl u_0 c_i)<|Qm rfl u_0<|o_g (Qg_f rfl (fun hG=>Zj Znt rfl rfl u_0))<|o_g (Qg_f rfl (fun hG=>Zs ty_3 rfl rfl (Opd.gd hG u_0)))<|o_g (Qg_f rfl (fun hG=>Zy rfl rfl u_0))<|o_g (Qg_f rfl (fun hG=>Zkz rfl rfl (Opd.gd hG u_0) (Opd.gd hG u_1)))<|o_p rfl (Zbl rfl rfl u_0 (fun hz=>(Opd.gd (bNF hz) u_1)))<|o_n) (fun a g hst hb=>?_)
        refine wp_cond_split (hst.bool 9 rfl) (fun hc27=>?_) (fun hc27=>?_)
        ·replace H1:=Zn hc27 H1
         refine r_s (L:=[]) (T:=[⟨[],_,[],[],[6]⟩]) (F:=[.p 0 0]) (hst.pick [] rfl) hb Zb
          (Qa rfl c_b<|o_n) (fun a g hst hb=>?_)
         refine wp_ret ?_
         refine Zk ?_
         refine Zv ?_
         refine Zk ?_
         refine Zk ?_
         refine Zv ?_
         refine Zk ?_
         refine Zk ?_
         obtain rfl:=Option.some.inj H1
         obtain rfl:=Option.some.inj H0
         exact Zz rfl hst hb (Zg (s:=6)) (hst.at 0 rfl)
        ·replace H1:=Zo hc27 H1
         refine wp_skip ?_
         refine Zm ?_
         obtain ⟨e28,h29,H1⟩:=Zf H1;obtain ⟨r30,h31,H1⟩:=Zf H1;obtain ⟨e32,h33,H1⟩:=Zf H1
         refine r_s (L:=[(1,_),(3,_),(7,_),(9,_),(11,_),(12,_),(71,_),(72,_),(73,_)]) (T:=⟨[.o 3],_,[],[],[87]⟩ :: ⟨[.o 5],_,[],[],[88]⟩ :: ⟨[.p 1 0],_,[],[1],[89]⟩ :: ⟨[.o 3],_,[],[],[90]⟩ :: ⟨[.o 5],_,[],[],[91]⟩ :: ⟨[.p 4 0],_,[],[4],[92]⟩ :: ⟨[.p 3 0,.p 5 0],_,[],[3,4,5],[93]⟩ :: ⟨[.p 6 0],_,[],List.range' 3 4,[94]⟩ :: ⟨[.o 5],_,[],[],[95]⟩ :: ⟨[.p 8 0],_,[],[8],[96]⟩ :: ⟨[.p 7 0,.p 9 0],_,[],List.range' 3 7,[97]⟩ :: ⟨[.p 0 0,.p 2 0],_,[],Lr 11,[98]⟩ :: ⟨[.p 10 0,.p 11 0,.o 3],_,[57],Lr 12,[9,87,90,93,98]⟩ :: []) (F:=[.o 0,.o 1,.o 2,.p 12 0,.o 4,.o 6,.o 7,.o 8]) (hst.pick [0,1,2,3,4,5,6,7,8] rfl) hb Zb
          (Qm rfl u_0<|Qf rfl Znt u_0<|Ql rfl ty_3 u_0<|Qm rfl u_0<|Qf rfl Znt u_0<|Ql rfl ty_3 u_0<|o_p rfl (Zlp Tryd.underlying33 Zuh rfl rfl u_0 u_1 h29)<|o_p rfl (Ztn Z0 rfl rfl u_0)<|Qf rfl Zp5 u_0<|Ql rfl Zgr u_0<|o_p rfl (Zr Z23 (Zqw _ _ h31) rfl rfl (.cons u_0 (.cons u_1 .nil)))<|o_p rfl (Zlp Tryd.underlying33 Zuh rfl rfl u_0 u_1 h33)<|o_p rfl (Zq3 (u:=e32) Z0 rfl rfl u_2 u_1 u_0 (Zs5 h33) (by decide))<|o_n) (fun a g hst hb=>?_)
         obtain ⟨c34,h35,H1⟩:=Zf H1;obtain ⟨r36,h37,H1⟩:=Zf H1
         refine r_s (T:=⟨[.o 1],_,[],[],[100]⟩ :: ⟨[.o 2],_,[],[],[101]⟩ :: ⟨[.o 4],_,[],[],[102]⟩ :: ⟨[.p 2 0],_,[],[2],[103]⟩ :: ⟨[.p 1 0,.p 3 0],_,[],[1,2,3],[104]⟩ :: ⟨[.p 0 0,.p 4 0],_,[],Lr 5,[105]⟩ :: ⟨[.p 5 0],_,[],Lr 6,[99]⟩ :: ⟨[.p 6 0],_,[],Lr 7,[106]⟩ :: ⟨[.p 6 0],_,[],Lr 7,[107]⟩ :: ⟨[],[(13,(pBox Zc 13 (default:Za)))],[14],[],[13]⟩ :: ⟨[.p 7 0,.p 9 0],_,[14],[0,1,2,3,4,5,6,7,9],[13]⟩ :: ⟨[.p 8 0],_,[],Lr 11,[14]⟩ :: []) (F:=[.o 0,.o 1,.o 2,.o 3,.p 10 0,.p 11 0,.o 5,.o 6,.o 7]) hst hb Zb
          (Ql rfl Z0 u_0<|Qm rfl u_0<|Qm rfl u_0<|o_p rfl (Zca rfl rfl u_0 c_i rfl)<|o_p rfl (Zsl Tryd.underlying40 Zr5 rfl rfl u_0 u_1 h35)<|o_p rfl (Zr Zzf (Ziz _ _ _ h37) rfl rfl (.cons u_0 (.cons u_1 (.cons c_i .nil))))<|Qm rfl u_0<|o_p rfl (Zbc rfl rfl u_0 rfl)<|o_p rfl (Zbc rfl rfl u_0 rfl)<|o_p rfl (Zbm (zs:=[.int .i64 0,.int .i64 0,.int .i64 0,.int .i64 0,.float .f64 0,.int .i64 0,.string ByteArray.empty,.slice none 0 0]) (by kernel_rfl) (fun g=>Zbr g) rfl rfl)<|o_p rfl (Zb9 Z0 rfl rfl u_1 u_0)<|Qa rfl u_0<|o_n) (fun a g hst hb=>?_)
         obtain ⟨r38,h39,H1⟩:=Zf H1;obtain ⟨r40,h41,H1⟩:=Zf H1
         refine r_s (T:=[⟨[.o 5],_,[],[],[108]⟩,⟨[.p 0 0],_,[],[0],[109]⟩,⟨[.p 1 0],_,[],[0,1],[110]⟩,⟨[.p 2 0,.o 1],_,[],[0,1,2],[111]⟩,⟨[.p 2 0,.o 3],_,[],[0,1,2],[112]⟩,⟨[.p 2 0,.p 3 0,.p 4 0],_,[],Lr 5,[113]⟩,⟨[.p 2 0,.o 4],_,[],[0,1,2],[114]⟩,⟨[.p 2 0,.p 5 0,.p 6 0],_,[],Lr 7,[115]⟩,⟨[.p 2 0,.p 7 0],_,[],Lr 8,[116]⟩,⟨[.p 2 0,.p 8 0],_,[],Lr 9,[117]⟩]) (F:=[.o 0,.o 1,.o 2,.o 3,.o 6,.o 7,.o 8,.p 9 0]) hst hb Zb
          (Qm rfl u_0<|Qn rfl u_0<|Qm rfl u_0<|o_g (Qg_f rfl (fun hG=>Zs Z0 rfl rfl u_0))<|o_g (Qg_f rfl (fun hG=>Zy rfl rfl u_0))<|o_g (Qg_f rfl (fun hG=>Zv2 Z3p (Znp _ _ (Zbq h39 hG)) Z0g rfl rfl (Opd.gd hG u_0) rfl (Opd.gd hG u_1)))<|o_g (Qg_f rfl (fun hG=>Zs Z0 rfl rfl u_0))<|o_g (Qg_f rfl (fun hG=>Zr Zzc (Zi9 _ _ (Zbq h41 hG)) rfl rfl (.cons (Opd.gd hG u_0) (.cons (Opd.gd hG u_1) .nil))))<|o_g (Qg_f rfl (fun hG=>Zem rfl rfl (Opd.gd hG u_0)))<|o_p rfl (Zbl rfl rfl u_0 (fun hz=>(Opd.gd (bNF hz) u_1)))<|o_n) (fun a g hst hb=>?_)
         refine wp_cond_split (hst.bool 7 rfl) (fun hc42=>?_) (fun hc42=>?_)
         ·replace H1:=Zn hc42 H1
          refine r_s (L:=[]) (T:=[⟨[],_,[],[],[6]⟩]) (F:=[.p 0 0]) (hst.pick [] rfl) hb Zb
           (Qa rfl c_b<|o_n) (fun a g hst hb=>?_)
          refine wp_ret ?_
          refine Zv ?_
          refine Zk ?_
          refine Zk ?_
          refine Zv ?_
          refine Zk ?_
          refine Zk ?_
          obtain rfl:=Option.some.inj H1
          obtain rfl:=Option.some.inj H0
          exact Zz rfl hst hb (Zg (s:=6)) (hst.at 0 rfl)
         ·replace H1:=Zo hc42 H1
          refine wp_skip ?_
          refine Z4 ?_
          refine Zm ?_
          refine r_g (L:=[(1,_),(3,_),(7,_),(9,_),(71,_),(72,_),(73,_)]) (T:=[⟨[.o 6],_,[],[],[118]⟩,⟨[.p 0 0],_,[],[0],[73]⟩]) (F:=[.o 0,.o 1,.o 2,.o 3,.o 4,.o 5,.p 1 0]) (hst.pick [0,1,2,3,4,5,6] rfl) hb Zb
           (o_p rfl (Zca rfl rfl u_0 c_i rfl)<|Qm rfl u_0<|o_n) (fun a g hst hb=>?_)
          exact ⟨n,Nat.lt_succ_self _,(x22.set (Int.toNat e25.Worker) r30),(IntKind.i64.wrap (x23 + (1:Int))),g,rfl,(hst.pick [0,1,2,3,4,5,6] rfl),hb,H1⟩
       ·replace H1:=Zo hc24 H1
        refine wp_exit ?_
        refine Zb7 ?_
        refine Zb7 ?_
        refine Zct ?_
        exact ⟨g,rfl,(hst.pick [1,2] rfl),hb,Option.some.inj H1⟩
    ·refine wp_block ?_
     refine wp_loop_ghost (fun n a w=>∃ (x13:List Za) (x14:Int) (g:G),w=g.w ∧ St 146 [(1,(pInt .i64 a1)),(3,(Zc.ptr a0)),(7,(Z9.sl.pd r9.1)),(9,(pArr Zc 25 56 x13)),(58,(pInt .i64 ((List.replicate (Int.toNat a1) (default:Za)).length:Int))),(59,(pInt .i64 x14))] a g ∧ Base g0 g ∧ Zc3 a0 a1 n x13 x14=some z21) (Int.toNat (((List.replicate (Int.toNat a1) (default:Za)).length:Int) - (0:Int)) + 1) ⟨(List.replicate (Int.toNat a1) (default:Za)),(0:Int),g,rfl,(hst.pick [0,1,2,3,4,5] rfl),hb,hz1⟩ (fun n a w hI=>?_)
     obtain ⟨x13,x14,g,rfl,hst,hb,H1⟩:=hI
     cases n with
     | zero=>exact absurd H1 (by simp [Zc3])
     | succ n =>
      rw [Zc3] at H1
      refine r_s (T:=[⟨[.o 5,.o 4],_,[],[],[60]⟩]) (F:=[.o 0,.o 1,.o 2,.o 3,.o 4,.o 5,.p 0 0]) hst hb Zb
       (o_p rfl (Zb6 rfl rfl u_0 u_1)<|o_n) (fun a g hst hb=>?_)
      refine wp_seq ?_
      refine wp_cond_split (hst.bool 6 rfl) (fun hc15=>?_) (fun hc15=>?_)
      ·replace H1:=Zn hc15 H1
       refine wp_skip ?_
       refine Zm ?_
       refine wp_seq ?_
       refine wp_block ?_
       refine r_s (L:=[(1,_),(3,_),(7,_),(9,_),(58,_),(59,_)]) (T:=[⟨[.o 5],_,[],[],[61]⟩,⟨[.p 0 0],_,[],[0],[10]⟩]) (F:=[.o 0,.o 1,.o 2,.o 3,.p 1 0,.o 4,.o 5]) (hst.pick [0,1,2,3,4,5] rfl) hb Zb
        (Qm rfl u_0<|Qa rfl u_0<|o_n) (fun a g hst hb=>?_)
       obtain ⟨r16,h17,H1⟩:=Zf H1;obtain ⟨e18,h19,H1⟩:=Zf H1
       refine r_g (T:=[⟨[.o 3],_,[],[],[63]⟩,⟨[.o 4],_,[],[],[64]⟩,⟨[.o 1],_,[],[],[65]⟩,⟨[.p 2 0],_,[],[2],[66]⟩,⟨[.p 3 0],_,[],[2,3],[62]⟩,⟨[.p 4 0],_,[],[2,3,4],[67]⟩,⟨[.p 4 0],_,[],[2,3,4],[68]⟩,⟨[.p 0 0,.p 1 0],_,[],Lr 6,[69]⟩,⟨[.p 5 0,.p 7 0,.o 3],_,[57],[0,1,2,3,4,5,7],[9,63,69]⟩]) (F:=[.o 0,.o 1,.o 2,.p 8 0,.o 5,.o 6]) hst hb Zb
        (Qm rfl u_0<|Qm rfl u_0<|Ql rfl Z0 u_0<|o_p rfl (Zr Zyo (Zk5 _ h17) rfl rfl (.cons u_0 .nil))<|Qm rfl u_0<|o_p rfl (Zbc rfl rfl u_0 rfl)<|o_p rfl (Zbc rfl rfl u_0 rfl)<|o_p rfl (Zlp Tryd.underlying33 Zuh rfl rfl u_0 u_1 h19)<|o_p rfl (Zq3 (u:=e18) Z0 rfl rfl u_2 u_1 u_0 (Zs5 h19) (by decide))<|o_n) (fun a g hst hb=>?_)
       refine Z4 ?_
       refine Zm ?_
       refine r_g (T:=[⟨[.o 5],_,[],[],[70]⟩,⟨[.p 0 0],_,[],[0],[59]⟩]) (F:=[.o 0,.o 1,.o 2,.o 3,.o 4,.p 1 0]) hst hb Zb
        (o_p rfl (Zca rfl rfl u_0 c_i rfl)<|Qm rfl u_0<|o_n) (fun a g hst hb=>?_)
       exact ⟨n,Nat.lt_succ_self _,(x13.set (Int.toNat x14) r16.1),(IntKind.i64.wrap (x14 + (1:Int))),g,rfl,(hst.pick [0,1,2,3,4,5] rfl),hb,H1⟩
      ·replace H1:=Zo hc15 H1
       refine wp_exit ?_
       refine Zb7 ?_
       refine Zb7 ?_
       refine Zct ?_
       exact ⟨x13,g,rfl,(hst.pick [0,1,2,3] rfl),hb,Option.some.inj H1⟩
end Go.CL
namespace Go.CL
open Go
inductive shelf_nodeT where
 | nil
 | node (key:ByteArray) (rec_:Za) (left:shelf_nodeT) (right:shelf_nodeT) (size:Int)
 deriving Inhabited
structure shelf_node where
 key:ByteArray
 rec_:Za
 left:shelf_nodeT
 right:shelf_nodeT
 size:Int
 deriving Inhabited
def shelf_node.up (x:shelf_node):shelf_nodeT:=.node x.key x.rec_ x.left x.right x.size
def shelf_nodeT.hh:shelf_nodeT → Nat
 | .nil=>0
 | .node x0 x1 x2 x3 x4=>max x2.hh x3.hh + 1
def NANB:Nat:=9221120237041090561
def keyf (b:Nat):Int:=if isn b then 18444492273895866369 else if TOP ≤ b then 18446744073709551615 - b else b + 9223372036854775808
def Zbn (b:Nat):Nat:=if isn b then NANB else b
theorem Zts {b:Nat} (hb:b < 18446744073709551616):fneq b b=decide (isn b):=by
 unfold fneq
 show (Ieee.double.order b b != some .eq)=_
 by_cases h:isn b
 ·rw [Ztr (.inl h)];simp [h]
 ·obtain ⟨o,ho,_,he⟩:=Zn8 hb hb h h
  rw [ho,he.2 rfl];simp [h]
theorem Zex {b:Nat} (hb:b < 18446744073709551616):Ze2 b=some (Zbn b):=by
 unfold Ze2 Zbn
 rw [Zts hb]
 by_cases h:isn b
 ·simp [h,Zke,NANB]
 ·simp [h]
theorem Z5s {b:Nat} (hb:b < 18446744073709551616):(bAnd .u64 (b:Int) 9223372036854775808 != 0)=decide (TOP ≤ b):=by
 have h1:(BitVec.ofInt 64 (b:Int) &&& BitVec.ofInt 64 9223372036854775808).toNat=b &&& 9223372036854775808:=by
  rw [BitVec.toNat_and]
  have e1:(BitVec.ofInt 64 (b:Int)).toNat=b:=by
   rw [show BitVec.ofInt 64 (b:Int)=BitVec.ofNat 64 b from rfl]
   simp;omega
  rw [e1];rfl
 have h2:b &&& 9223372036854775808=(b.testBit 63).toNat * 9223372036854775808:=by
  apply Nat.eq_of_testBit_eq
  intro i
  rw [Nat.testBit_and,show (9223372036854775808:Nat)=2 ^ 63 from rfl,Nat.testBit_two_pow]
  by_cases hi:63=i
  ·subst hi
   cases b.testBit 63
   ·simp
   ·rw [Bool.toNat_true,Nat.one_mul,Nat.testBit_two_pow];simp
  ·cases b.testBit 63
   ·simp [hi]
   ·rw [Bool.toNat_true,Nat.one_mul,Nat.testBit_two_pow];simp [hi]
 have h3:b.testBit 63=decide (TOP ≤ b):=by
  rw [Nat.testBit_eq_decide_div_mod_eq]
  unfold TOP
  by_cases h:9223372036854775808 ≤ b
  ·have:b / 2 ^ 63 % 2=1:=by omega
   simp [this,h]
  ·have:b / 2 ^ 63 % 2=0:=by omega
   simp [this,h]
 unfold bAnd
 show (IntKind.wrap .u64 ((BitVec.ofInt 64 (b:Int) &&& BitVec.ofInt 64 9223372036854775808).toNat:Int) != 0)=_
 rw [h1,h2,h3]
 by_cases h:TOP ≤ b
 ·simp only [h,decide_true,Bool.toNat_true,Nat.one_mul]
  rfl
 ·simp only [h,decide_false,Bool.toNat_false,Nat.zero_mul]
  rfl
theorem Z36 {b:Nat} (hb:b < 18446744073709551616):bXor .u64 IntKind.u64.max (b:Int)=18446744073709551615 - b:=by
 have h1:(BitVec.ofInt 64 18446744073709551615 ^^^ BitVec.ofInt 64 (b:Int)).toNat=18446744073709551615 - b:=by
  have e1:BitVec.ofInt 64 18446744073709551615=BitVec.allOnes 64:=by decide
  rw [e1,BitVec.allOnes_xor,BitVec.toNat_not]
  have e2:(BitVec.ofInt 64 (b:Int)).toNat=b:=by
   rw [show BitVec.ofInt 64 (b:Int)=BitVec.ofNat 64 b from rfl]
   simp;omega
  rw [e2]
 unfold bXor
 show IntKind.wrap .u64 ((BitVec.ofInt 64 18446744073709551615 ^^^ BitVec.ofInt 64 (b:Int)).toNat:Int)=_
 rw [h1]
 simp [IntKind.wrap,IntKind.signed,IntKind.bits]
 omega
theorem Z64 {b:Nat} (hb:b < 9223372036854775808):bOr .u64 (b:Int) 9223372036854775808=b + 9223372036854775808:=by
 have h1:(BitVec.ofInt 64 (b:Int) ||| BitVec.ofInt 64 9223372036854775808).toNat=b + 9223372036854775808:=by
  rw [BitVec.toNat_or]
  have e1:(BitVec.ofInt 64 (b:Int)).toNat=b:=by
   rw [show BitVec.ofInt 64 (b:Int)=BitVec.ofNat 64 b from rfl]
   simp;omega
  rw [e1,show (BitVec.ofInt 64 9223372036854775808).toNat=2 ^ 63 * 1 from rfl,Nat.or_comm]
  rw [← Nat.two_pow_add_eq_or_of_lt (by simpa using hb)]
  omega
 unfold bOr
 show IntKind.wrap .u64 ((BitVec.ofInt 64 (b:Int) ||| BitVec.ofInt 64 9223372036854775808).toNat:Int)=_
 rw [h1]
 simp [IntKind.wrap,IntKind.signed,IntKind.bits]
 omega
theorem Zrh {b:Nat} (hb:b < 18446744073709551616):Zbn b < 18446744073709551616:=by
 unfold Zbn NANB;split <;> omega
theorem Zrw {b:Nat} (hb:b < 18446744073709551616):Zkk b=some (keyf b):=by
 unfold Zkk
 rw [Zex hb]
 simp only [Option.bind_some]
 rw [Z5s (Zrh hb)]
 unfold keyf Zbn
 by_cases h:isn b
 ·simp only [h,if_true]
  rfl
 ·simp only [h,if_false]
  by_cases ht:TOP ≤ b
  ·simp only [ht,decide_true,if_true]
   rw [Z36 hb]
  ·simp only [ht,decide_false,if_false,Bool.false_eq_true]
   rw [Z64 (by unfold TOP at ht;omega)]
theorem Zl8 {a b:Nat} (ha:a < 18446744073709551616) (hb:b < 18446744073709551616):Zh4 a b=some (decide (keyf a=keyf b)):=by
 unfold Zh4
 rw [Zrw ha,Zrw hb]
 simp [BEq.beq]
theorem Zk4 {a b:Nat} (ha:a < 18446744073709551616) (hb:b < 18446744073709551616):Zkf a b=some (decide (keyf a < keyf b)):=by
 unfold Zkf
 rw [Zrw ha,Zrw hb]
 simp
theorem Zpj {a:Nat} (ha:a < 18446744073709551616):Ziv a=some (decide (a=Zbn a)):=by
 unfold Ziv
 rw [Zex ha]
 congr 1
 by_cases h:a=Zbn a
 ·simp [← h]
 ·have:(a:Int) ≠ (Zbn a:Int):=by omega
  simp [h,this]
theorem Zxj {a b:Nat} (ha:a < 18446744073709551616) (hb:b < 18446744073709551616) (na:¬ isn a) (nb:¬ isn b):keyf a < keyf b ↔ (sg a < sg b ∨ (a=TOP ∧ b=0)):=by
 unfold keyf
 rw [if_neg na,if_neg nb]
 unfold sg isn rg INF TOP at *
 split <;> split <;> omega
theorem Zx5 {a b:Nat} (ha:a < 18446744073709551616) (hb:b < 18446744073709551616) (na:¬ isn a) (nb:¬ isn b):feql a b=decide (sg a=sg b):=by
 unfold feql
 show (Ieee.double.order a b == some .eq)=_
 obtain ⟨o,ho,_,he⟩:=Zn8 ha hb na nb
 rw [ho]
 by_cases h:sg a=sg b
 ·rw [he.2 h];simp [h]
 ·have:o ≠ .eq:=fun h'=>h (he.1 h')
  simp [h,this]
theorem Z40 {a b:Nat} (ha:a < 18446744073709551616) (hb:b < 18446744073709551616) (na:¬ isn a) (nb:¬ isn b):flss a b=decide (sg a < sg b):=by
 unfold flss
 show (Ieee.double.order a b == some .lt)=_
 obtain ⟨o,ho,hl,_⟩:=Zn8 ha hb na nb
 rw [ho]
 by_cases h:sg a < sg b
 ·rw [hl.2 h];simp [h]
 ·have:o ≠ .lt:=fun h'=>h (hl.1 h')
  simp [h,this]
theorem Z6j:Zft 0=some false:=by kernel_rfl
theorem Z6o:Zft TOP=some true:=by kernel_rfl
theorem nan0:¬ isn 0:=by decide
theorem Zxq {a:Nat} (ha:a < 18446744073709551616):sg a=sg 0 ↔ a=0 ∨ a=TOP:=by
 unfold sg TOP
 split <;> simp <;> omega
theorem Zn0 {a:Nat} (ha:a < 18446744073709551616):Zdr a=some (decide (isn a)):=by
 unfold Zdr;rw [Zts ha]
theorem Zkh {a b:Nat} (ha:a < 18446744073709551616) (hb:b < 18446744073709551616):Zd6 a b=some (decide (keyf a < keyf b)):=by
 unfold Zd6
 rw [Zn0 ha,Zn0 hb]
 simp only [Option.bind_some]
 have kb:∀ x,x < 18446744073709551616 → ¬ isn x → keyf x < 18444492273895866369:=by
  intro x hx nx
  unfold keyf
  rw [if_neg nx]
  unfold isn rg INF TOP at *
  split <;> omega
 have kn:∀ x,isn x → keyf x=18444492273895866369:=fun x h=>by unfold keyf;rw [if_pos h]
 by_cases na:isn a
 ·simp only [na,decide_true,if_true]
  by_cases nb:isn b
  ·rw [kn a na,kn b nb];simp
  ·have:=kb b hb nb
   rw [kn a na];simp;omega
 ·simp only [na,decide_false,Bool.false_eq_true,if_false]
  by_cases nb:isn b
  ·have:=kb a ha na
   rw [kn b nb];simp [nb,this]
  ·simp only [nb,decide_false,Bool.false_eq_true,if_false]
   rw [Zx5 ha (by decide) na nan0,Zx5 hb (by decide) nb nan0,Z40 ha hb na nb]
   by_cases hz:sg a=sg 0 ∧ sg b=sg 0
   ·rw [if_pos (by simp [hz])]
    have hk:=Zxj ha hb na nb
    have h0T:(0:Nat) ≠ TOP:=by decide
    rcases (Zxq ha).1 hz.1 with rfl | rfl <;> rcases (Zxq hb).1 hz.2 with rfl | rfl <;> simp only [Z6j,Z6o,gd,Option.bind_some,if_true,if_false,Bool.false_eq_true,Option.some.injEq] <;> decide
   ·rw [if_neg (by simpa using hz)]
    have hk:=Zxj ha hb na nb
    congr 1
    apply decide_eq_decide.2
    rw [hk]
    constructor
    ·intro h;exact .inl h
    ·rintro (h | ⟨rfl,rfl⟩)
     ·exact h
     ·exact absurd ⟨rfl,rfl⟩ hz
theorem Zld {a b:Nat} (ha:a < 18446744073709551616) (hb:b < 18446744073709551616):Zdb a b=some (decide (keyf a=keyf b)):=by
 unfold Zdb
 rw [Zkh ha hb,Zkh hb ha]
 simp only [Option.bind_some,gd]
 by_cases h1:keyf a < keyf b
 ·have:keyf a ≠ keyf b:=by omega
  simp [h1,this]
 ·by_cases h2:keyf b < keyf a
  ·have:keyf a ≠ keyf b:=by omega
   simp [h1,h2,this]
  ·have:keyf a=keyf b:=by omega
   simp [this]
theorem Zn9 {a:Nat} (ha:a < 18446744073709551616):Zen a=some (decide (a=Zbn a)):=by
 unfold Zen
 rw [Zn0 ha]
 unfold Zbn NANB
 by_cases h:isn a
 ·by_cases h2:a=9221120237041090561
  ·simp [h,h2]
  ·have:(a:Int) ≠ 9221120237041090561:=by omega
   simp [h,h2,this]
 ·simp [h]
theorem wr {x:Int} (h1:-9223372036854775808 ≤ x) (h2:x ≤ 9223372036854775807):IntKind.i64.wrap x=x:=by
 rw [IntKind.wrap_i64];omega
theorem wr1 {i:Nat} (h:i < 9223372036854775807):IntKind.i64.wrap ((i:Int) + 1)=((i + 1:Nat):Int):=by
 rw [wr (by omega) (by omega)];omega
theorem Zp6 (n:Int):IntKind.u64.wrap n=n % 18446744073709551616:=by simp [IntKind.wrap,IntKind.bits,IntKind.signed]
theorem wru {x:Int} (h1:0 ≤ x) (h2:x < 18446744073709551616):IntKind.u64.wrap x=x:=by rw [Zp6];omega
theorem wrm {i:Nat} (h:i < 9223372036854775807) (h0:0 < i):IntKind.i64.wrap ((i:Int) - 1)=((i - 1:Nat):Int):=by
 rw [wr (by omega) (by omega)];omega
theorem idxn {α:Type} (xs:List α) (i:Nat):idx xs (i:Int)=xs[i]?:=by
 unfold idx
 rw [if_pos (by omega)]
 simp
theorem Zdj {α:Type} {xs:List α} {i:Nat} (h:i < xs.length):idx xs (i:Int)=some xs[i]:=by
 rw [idxn,List.getElem?_eq_getElem h]
theorem gd_t {β:Type} [Inhabited β] (x:Option β):gd true x=x:=rfl
theorem gd_f {β:Type} [Inhabited β] (x:Option β):gd false x=some default:=rfl
theorem Zrv {a b:ByteArray} (h:a.toList=b.toList):a=b:=by
 rw [_root_.Go.ByteArray.toList_eq,_root_.Go.ByteArray.toList_eq] at h
 exact ByteArray.ext (Array.toList_inj.1 h)
theorem Zhn {a b:ByteArray}:sEq a b=true ↔ a=b:=by
 unfold sEq
 constructor
 ·intro h;exact Zrv (by simpa using h)
 ·rintro rfl;simp
theorem Zmd (a:ByteArray):sEq a a=true:=Zhn.2 rfl
theorem Zka {a b:ByteArray}:sEq a b=false ↔ a ≠ b:=by
 cases h:sEq a b
 ·simp;intro e;rw [Zhn.2 e] at h;cases h
 ·simp;exact Zhn.1 h
theorem Z1c:∀ l:List UInt8,Op.bytesLess l l=false
 | []=>rfl
 | x :: l=>by simp [Op.bytesLess,Z1c l]
theorem Zvz:∀ {a b c:List UInt8},Op.bytesLess a b=true → Op.bytesLess b c=true → Op.bytesLess a c=true
 | [],[],c,h,_=>by simp [Op.bytesLess] at h
 | [],y :: b,[],_,k=>by simp [Op.bytesLess] at k
 | [],y :: b,z :: c,_,_=>rfl
 | x :: a,[],c,h,_=>by simp [Op.bytesLess] at h
 | x :: a,y :: b,[],_,k=>by simp [Op.bytesLess] at k
 | x :: a,y :: b,z :: c,h,k=>by
  simp only [Op.bytesLess,Bool.or_eq_true,Bool.and_eq_true,decide_eq_true_eq,beq_iff_eq] at h k ⊢
  rcases h with h | ⟨h1,h2⟩ <;> rcases k with k | ⟨k1,k2⟩
  ·exact .inl (UInt8.lt_trans h k)
  ·subst k1;exact .inl h
  ·subst h1;exact .inl k
  ·subst h1;subst k1;exact .inr ⟨rfl,Zvz h2 k2⟩
theorem Z0l:∀ (a b:List UInt8),Op.bytesLess a b=false → a ≠ b → Op.bytesLess b a=true
 | [],[],_,h=>absurd rfl h
 | [],y :: b,h,_=>by simp [Op.bytesLess] at h
 | x :: a,[],_,_=>rfl
 | x :: a,y :: b,h,hn=>by
  simp only [Op.bytesLess,Bool.or_eq_false_iff,decide_eq_false_iff_not,Bool.and_eq_false_iff] at h
  simp only [Op.bytesLess,Bool.or_eq_true,Bool.and_eq_true,decide_eq_true_eq,beq_iff_eq]
  by_cases e:x=y
  ·subst e
   right
   refine ⟨rfl,Z0l a b ?_ (fun h'=>hn (by rw [h']))⟩
   rcases h.2 with h | h
   ·simp at h
   ·exact h
  ·left
   rcases UInt8.lt_or_lt_of_ne e with h' | h'
   ·exact absurd h' h.1
   ·exact h'
theorem Zmb (a:ByteArray):sLt a a=false:=Z1c _
theorem Zjp {a b c:ByteArray} (h:sLt a b=true) (k:sLt b c=true):sLt a c=true:=Zvz h k
theorem Zs0 {a b:ByteArray} (h:sLt a b=false) (hn:a ≠ b):sLt b a=true:=Z0l _ _ h (fun e=>hn (Zrv e))
theorem Z1k {a b:ByteArray} (h:sLt a b=true):sLt b a=false:=by
 cases k:sLt b a
 ·rfl
 ·have:=Zjp h k
  rw [Zmb] at this;cases this
theorem Zpb {a b:ByteArray} (h:sLt a b=true):a ≠ b:=fun e=>by subst e;rw [Zmb] at h;cases h
abbrev W64:Nat:=18446744073709551616
structure Zie (a:Za):Prop where
 real:a.Real < W64
 len:a.List.length < 4611686018427387904
 sc:∀ e ∈ a.List,e.Score < W64
def Zb5 (a b:Zd):Bool:=if keyf a.Score=keyf b.Score then sLt a.Name b.Name else decide (keyf b.Score < keyf a.Score)
theorem Zmw {a b:Zd} (ha:a.Score < W64) (hb:b.Score < W64):Ziq a b=some (Zb5 a b):=by
 unfold Ziq Zb5
 rw [Zl8 ha hb,Zk4 hb ha]
 by_cases h:keyf a.Score=keyf b.Score <;> simp [h]
theorem Zu4 {a b:Zd} (ha:a.Score < W64) (hb:b.Score < W64):Zez a b=some (Zb5 a b):=by
 unfold Zez Zb5
 rw [Zkh hb ha,Zld ha hb]
 by_cases h:keyf a.Score=keyf b.Score
 ·simp [h]
 ·by_cases h2:keyf b.Score < keyf a.Score <;> simp [h,h2]
theorem Zxh {a:Nat} (ha:a < W64):Zf1 a=some (decide (keyf a=keyf 0)):=by
 unfold Zf1
 rw [Zld ha (by decide)]
 rfl
def Zgn (k:Int) (l:List Zd) (i:Nat):Int :=
 match l[i]? with
 | none=>0
 | some x =>
  let p:=(l[i - 1]?).getD default
  if (16:Int) < x.Name.size then 3
  else if (k=8 ∧ keyf x.Score ≠ keyf 0) ∨ x.Score ≠ Zbn x.Score then 4
  else if 0 < i ∧ k=8 ∧ sLt p.Name x.Name=false then 4
  else if 0 < i ∧ k=9 ∧ Zb5 p x=false then 4
  else 0
theorem Z0p {k:Int} {l:List Zd} {i n:Nat} (hi:i < l.length) (hl:l.length < 4611686018427387904) (hs:∀ e ∈ l,e.Score < W64) :
  Ze7 k l (n + 1) (i:Int)=if Zgn k l i=0 then Ze7 k l n ((i + 1:Nat):Int) else some (.inl (Zgn k l i)):=by
 have hx:l[i].Score < W64:=hs _ (List.getElem_mem hi)
 rw [Ze7,if_pos (by simp;omega),Zdj hi,wr1 (by omega)]
 simp only [Option.bind_some]
 rw [Zl8 hx (by decide),Zpj hx]
 simp only [Zgn,List.getElem?_eq_getElem hi]
 by_cases h1:(16:Int) < l[i].Name.size
 ·simp [h1]
 ·simp only [h1,decide_false,if_false,Bool.false_eq_true]
  have hz:((0:Nat):Int)=0:=rfl
  by_cases h0:0 < i
  ·have hp:i - 1 < l.length:=by omega
   have hps:l[i - 1].Score < W64:=hs _ (List.getElem_mem hp)
   have hd:(decide ((0:Int) < (i:Int)))=true:=by simp;omega
   rw [hd,wrm (by omega) h0,Zdj hp]
   simp only [List.getElem?_eq_getElem hp,Option.getD_some,h0,true_and,Bool.true_and]
   by_cases h8:k=8
   ·subst h8
    simp only [beq_self_eq_true,gd_t,Option.bind_some,true_and,Bool.true_and]
    by_cases hk:keyf l[i].Score=keyf 0
    ·by_cases hc:l[i].Score=Zbn l[i].Score
     ·simp [hk,← hc,gd]
      cases sLt l[i - 1].Name l[i].Name <;> simp
     ·simp [hk,hc,gd]
    ·simp [hk,gd]
   ·have h8':(k == 8)=false:=by simpa using h8
    simp only [h8',h8,gd_f,gd_t,Option.bind_some,false_and,false_or,Bool.false_and,Bool.not_false,Bool.false_or]
    by_cases hc:l[i].Score=Zbn l[i].Score
    ·by_cases h9:k=9
     ·subst h9
      simp [← hc,gd,Zmw hps hx]
      cases Zb5 l[i - 1] l[i] <;> simp
     ·simp [← hc,gd,h9]
    ·simp [hc]
  ·have h00:i=0:=by omega
   subst h00
   simp only [Nat.lt_irrefl,false_and,if_false,Int.ofNat_zero,Int.lt_irrefl,decide_false,Bool.false_and,gd_f,Option.bind_some,Int.natCast_zero]
   by_cases h8:k=8
   ·subst h8
    simp only [beq_self_eq_true,gd_t,Option.bind_some,true_and,Bool.true_and]
    by_cases hk:keyf l[0].Score=keyf 0
    ·by_cases hc:l[0].Score=Zbn l[0].Score
     ·simp [hk,← hc,gd]
     ·simp [hk,hc,gd]
    ·simp [hk,gd]
   ·have h8':(k == 8)=false:=by simpa using h8
    simp only [h8',h8,gd_f,gd_t,Option.bind_some,false_and,false_or,Bool.false_and,Bool.not_false,Bool.false_or]
    by_cases hc:l[0].Score=Zbn l[0].Score
    ·simp [← hc,gd]
    ·simp [hc]
theorem Z1q {k:Int} {l:List Zd} {i:Nat} (hi:i < l.length) (hl:l.length < 4611686018427387904) (hs:∀ e ∈ l,e.Score < W64):Zhf k l (i:Int)=some (Zgn k l i):=by
 have hx:l[i].Score < W64:=hs _ (List.getElem_mem hi)
 unfold Zhf
 rw [Zdj hi]
 simp only [Option.bind_some]
 rw [Zxh hx,Zn9 hx]
 simp only [Zgn,List.getElem?_eq_getElem hi]
 by_cases h1:(16:Int) < l[i].Name.size
 ·simp [h1]
 ·simp only [h1,decide_false,if_false,Bool.false_eq_true]
  by_cases h0:0 < i
  ·have hp:i - 1 < l.length:=by omega
   have hps:l[i - 1].Score < W64:=hs _ (List.getElem_mem hp)
   have hd:(decide ((0:Int) < (i:Int)))=true:=by simp;omega
   rw [hd,wrm (by omega) h0,Zdj hp]
   simp only [List.getElem?_eq_getElem hp,Option.getD_some,h0,true_and,Bool.true_and]
   by_cases h8:k=8
   ·subst h8
    simp only [beq_self_eq_true,gd_t,Option.bind_some,true_and,Bool.true_and]
    by_cases hk:keyf l[i].Score=keyf 0
    ·by_cases hc:l[i].Score=Zbn l[i].Score
     ·simp [hk,← hc,gd]
      cases sLt l[i - 1].Name l[i].Name <;> simp
     ·simp [hk,hc,gd]
    ·simp [hk,gd]
   ·have h8':(k == 8)=false:=by simpa using h8
    simp only [h8',h8,gd_f,gd_t,Option.bind_some,false_and,false_or,Bool.false_and,Bool.not_false,Bool.false_or]
    by_cases hc:l[i].Score=Zbn l[i].Score
    ·by_cases h9:k=9
     ·subst h9
      simp [← hc,gd,Zu4 hps hx]
      cases Zb5 l[i - 1] l[i] <;> simp
     ·simp [← hc,gd,h9]
    ·simp [hc]
  ·have h00:i=0:=by omega
   subst h00
   simp only [Nat.lt_irrefl,false_and,if_false,Int.ofNat_zero,Int.lt_irrefl,decide_false,Bool.false_and,gd_f,Option.bind_some,Int.natCast_zero]
   by_cases h8:k=8
   ·subst h8
    simp only [beq_self_eq_true,gd_t,Option.bind_some,true_and,Bool.true_and]
    by_cases hk:keyf l[0].Score=keyf 0
    ·by_cases hc:l[0].Score=Zbn l[0].Score
     ·simp [hk,← hc,gd]
     ·simp [hk,hc,gd]
    ·simp [hk,gd]
   ·have h8':(k == 8)=false:=by simpa using h8
    simp only [h8',h8,gd_f,gd_t,Option.bind_some,false_and,false_or,Bool.false_and,Bool.not_false,Bool.false_or]
    by_cases hc:l[0].Score=Zbn l[0].Score
    ·simp [← hc,gd]
    ·simp [hc]
def Zht (k:Int) (l:List Zd):Nat → Nat → Int
 | _,0=>0
 | i,n + 1=>if Zgn k l i=0 then Zht k l (i + 1) n else Zgn k l i
def endC (c:Int):Int ⊕ Unit:=if c=0 then .inr () else .inl c
theorem Zrm {k:Int} {l:List Zd} {i n:Nat} (h:Zgn k l i=0):Zht k l i (n + 1)=Zht k l (i + 1) n:=by simp [Zht,h]
theorem Zre {k:Int} {l:List Zd} {i n:Nat} (h:¬ Zgn k l i=0):Zht k l i (n + 1)=Zgn k l i:=by simp [Zht,h]
theorem Zzr {c:Int} (h:¬ c=0):endC c=.inl c:=if_neg h
theorem Zsc {k:Int} {l:List Zd} (hl:l.length < 4611686018427387904) (hs:∀ e ∈ l,e.Score < W64):∀ (n i:Nat),i + n=l.length →
  Ze7 k l (n + 1) (i:Int)=some (endC (Zht k l i n))
 | 0,i,h=>by
  rw [Ze7,if_neg (by simp;omega)]
  rfl
 | n + 1,i,h=>by
  rw [Z0p (by omega) hl hs]
  by_cases hc:Zgn k l i=0
  ·rw [if_pos hc,Zrm hc,Zsc hl hs n (i + 1) (by omega)]
  ·rw [if_neg hc,Zre hc,Zzr hc]
theorem Z1m {k:Int} {l:List Zd} (hl:l.length < 4611686018427387904) (hs:∀ e ∈ l,e.Score < W64):Zlo k l=some (Zht k l 0 l.length):=by
 unfold Zlo
 rw [show (Int.toNat ((l.length:Int) - (0:Int)) + 1)=l.length + 1 by omega,show (0:Int)=((0:Nat):Int) from rfl,Zsc hl hs l.length 0 (by omega)]
 unfold endC
 by_cases h:Zht k l 0 l.length=0 <;> simp [h]
theorem Zqy {a:Za} (ha:Zie a):∀ (n i:Nat),i + n=a.List.length →
  Zdp a (n + 1) (i:Int)=some (endC (Zht a.Kind a.List i n))
 | 0,i,h=>by
  rw [Zdp,if_neg (by simp;omega)]
  rfl
 | n + 1,i,h=>by
  have hl:=ha.len
  rw [Zdp,if_pos (by simp;omega),Z1q (by omega) hl ha.sc,wr1 (by omega)]
  simp only [Option.bind_some]
  by_cases hc:Zgn a.Kind a.List i=0
  ·rw [if_neg (by simp [hc]),Zrm hc,Zqy ha n (i + 1) (by omega)]
  ·rw [if_pos (by simp [hc]),Zre hc,Zzr hc]
def Zgu (t n b r l:Bool) (a:Za):Bool:=(t || sEq a.Text ⟨#[]⟩) && (n || a.Num == 0) && (b || (a.Low == 0 && a.High == 0)) && (r || decide (keyf a.Real=keyf 0)) && (l || (a.Cap == 0 && (a.List.length:Int) == 0))
theorem Z5z {a:Za} (ha:Zie a) (t n b r l:Bool):Zmq a ⟨t,n,b,r,l⟩=some (Zgu t n b r l a):=by
 unfold Zmq Zgu
 rw [Zl8 ha.real (by decide)]
 simp only
 generalize sEq a.Text ⟨#[]⟩=x1
 generalize (a.Num == 0)=x2
 generalize (a.Low == 0)=x3
 generalize (a.High == 0)=x4
 generalize decide (keyf a.Real=keyf 0)=x5
 generalize (a.Cap == 0)=x6
 generalize ((a.List.length:Int) == 0)=x7
 revert t n b r l x1 x2 x3 x4 x5 x6 x7
 decide
theorem Z4o {a:Za} (ha:Zie a) {s:ByteArray} {t n b r l:Bool} (h:Zcj s (Int.toNat ((s.size:Int) - (0:Int)) + 1) false false false false false 0=some (t,n,b,r,l)):Zhj a s=some (Zgu t n b r l a):=by
 unfold Zhj Zgu
 rw [h,Zxh ha.real]
 simp only [Option.bind_some,bne]
 generalize sEq a.Text ⟨#[]⟩=x1
 generalize (a.Num == 0)=x2
 generalize (a.Low == 0)=x3
 generalize (a.High == 0)=x4
 generalize decide (keyf a.Real=keyf 0)=x5
 generalize (a.Cap == 0)=x6
 generalize ((a.List.length:Int) == 0)=x7
 clear h
 revert t n b r l x1 x2 x3 x4 x5 x6 x7
 decide
theorem Z8l:Zcj ⟨#[116]⟩ (Int.toNat (((⟨#[116]⟩:ByteArray).size:Int) - (0:Int)) + 1) false false false false false 0=some (true,false,false,false,false):=by kernel_rfl
theorem Z3l:Zcj ⟨#[110]⟩ (Int.toNat (((⟨#[110]⟩:ByteArray).size:Int) - (0:Int)) + 1) false false false false false 0=some (false,true,false,false,false):=by kernel_rfl
theorem Z7c:Zcj ⟨#[110,98]⟩ (Int.toNat (((⟨#[110,98]⟩:ByteArray).size:Int) - (0:Int)) + 1) false false false false false 0=some (false,true,true,false,false):=by kernel_rfl
theorem Zyn:Zcj ⟨#[114]⟩ (Int.toNat (((⟨#[114]⟩:ByteArray).size:Int) - (0:Int)) + 1) false false false false false 0=some (false,false,false,true,false):=by kernel_rfl
theorem Z3t:Zcj ⟨#[108]⟩ (Int.toNat (((⟨#[108]⟩:ByteArray).size:Int) - (0:Int)) + 1) false false false false false 0=some (false,false,false,false,true):=by kernel_rfl
def Zno (t n b r l:Bool) (a:Za):Int :=
 if Zgu t n b r l a=false then 4
 else if (64:Int) < a.Text.size then 3
 else if b=true ∧ (a.Low < -2305843009213693952 ∨ 2305843009213693952 < a.High ∨ a.Num < a.Low ∨ a.High < a.Num) then 1
 else if a.Real ≠ Zbn a.Real then 4
 else if l=false then 0
 else if a.Cap < 1 ∨ 32 < a.Cap then 1
 else if a.Cap < a.List.length then 8
 else Zht a.Kind a.List 0 a.List.length
theorem Zfh {a:Za} (ha:Zie a) {t n b r l:Bool} (hk:¬ (a.Kind ≤ 0 ∨ 10 ≤ a.Kind)) (hs:Zdx a.Kind=some ⟨t,n,b,r,l⟩):Zd0 a=some (Zno t n b r l a):=by
 unfold Zd0 Zno
 rw [hs]
 simp only [Option.bind_some]
 rw [Z5z ha,Zpj ha.real,Z1m ha.len ha.sc]
 simp only [Option.bind_some]
 rw [if_neg (by simpa using hk)]
 by_cases h1:Zgu t n b r l a=false
 ·rw [if_pos h1,if_pos (by simp [h1])]
 ·rw [if_neg h1,if_neg (by simpa using h1)]
  by_cases h2:(64:Int) < a.Text.size
  ·rw [if_pos h2,if_pos (by simpa using h2)]
  ·rw [if_neg h2,if_neg (by simpa using h2)]
   by_cases h3:b=true ∧ (a.Low < -2305843009213693952 ∨ 2305843009213693952 < a.High ∨ a.Num < a.Low ∨ a.High < a.Num)
   ·rw [if_pos h3,if_pos (by simpa [or_assoc] using h3)]
   ·rw [if_neg h3,if_neg (by simpa [or_assoc] using h3)]
    by_cases h4:a.Real=Zbn a.Real
    ·rw [if_neg (show ¬ (a.Real ≠ Zbn a.Real) from fun h=>h h4),decide_eq_true h4]
     simp only [Bool.not_true,Bool.false_eq_true,if_false]
     cases l
     ·simp
     ·simp only [Bool.not_true,Bool.false_eq_true,if_false,Bool.true_eq_false]
      by_cases h5:a.Cap < 1 ∨ 32 < a.Cap
      ·rw [if_pos h5,if_pos (by simpa using h5)]
      ·rw [if_neg h5,if_neg (by simpa using h5)]
       by_cases h6:a.Cap < a.List.length
       ·rw [if_pos h6,if_pos (by simpa using h6)]
       ·rw [if_neg h6,if_neg (by simpa using h6)]
    ·rw [if_pos (show a.Real ≠ Zbn a.Real from h4),decide_eq_false h4]
     rfl
theorem Z1e:Zdx 1=some ⟨true,false,false,false,false⟩:=by kernel_rfl
theorem Zzu:Zdx 2=some ⟨false,true,false,false,false⟩:=by kernel_rfl
theorem Z0h:Zdx 3=some ⟨false,true,false,false,false⟩:=by kernel_rfl
theorem Zz6:Zdx 4=some ⟨false,true,true,false,false⟩:=by kernel_rfl
theorem Z0f:Zdx 5=some ⟨false,false,false,true,false⟩:=by kernel_rfl
theorem Z08:Zdx 6=some ⟨false,false,false,true,false⟩:=by kernel_rfl
theorem Z04:Zdx 7=some ⟨false,false,false,true,false⟩:=by kernel_rfl
theorem Zzm:Zdx 8=some ⟨false,false,false,false,true⟩:=by kernel_rfl
theorem Zz7:Zdx 9=some ⟨false,false,false,false,true⟩:=by kernel_rfl
def Zp9 (t n b r l:Bool) (k:Int) (a:Za):Int :=
 if Zgu t n b r l a=false then 4
 else if k=1 ∧ (64:Int) < a.Text.size then 3
 else if k=4 ∧ (a.Low < -2305843009213693952 ∨ 2305843009213693952 < a.High ∨ a.Num < a.Low ∨ a.High < a.Num) then 1
 else if a.Real ≠ Zbn a.Real then 4
 else if k < 8 then 0
 else if a.Cap < 1 ∨ 32 < a.Cap then 1
 else if a.Cap < a.List.length then 8
 else Zht a.Kind a.List 0 a.List.length
theorem Zfi {a:Za} (ha:Zie a) {t n b r l:Bool} {s:ByteArray} (hk:¬ (a.Kind < 1 ∨ 9 < a.Kind)) (hf:Zhq a.Kind=some s)
  (ho:Zcj s (Int.toNat ((s.size:Int) - (0:Int)) + 1) false false false false false 0=some (t,n,b,r,l)):Zc4 a=some (Zp9 t n b r l a.Kind a):=by
 unfold Zc4 Zp9
 have hw:IntKind.i64.wrap (0 - (2305843009213693952:Int))=-2305843009213693952:=by decide
 rw [hf,Zn9 ha.real,hw,show (Int.toNat ((a.List.length:Int) - (0:Int)) + 1)=a.List.length + 1 by omega]
 have hloop:=Zqy ha a.List.length 0 (by omega)
 rw [show ((0:Nat):Int)=0 from rfl] at hloop
 rw [hloop]
 simp only [Option.bind_some]
 rw [if_neg (by simpa using hk),Z4o ha ho]
 simp only [Option.bind_some]
 by_cases h1:Zgu t n b r l a=false
 ·rw [if_pos h1,if_pos (by simp [h1])]
 ·rw [if_neg h1,if_neg (by simpa using h1)]
  by_cases h2:a.Kind=1 ∧ (64:Int) < a.Text.size
  ·rw [if_pos h2,if_pos (by simpa using h2)]
  ·rw [if_neg h2,if_neg (by simpa using h2)]
   by_cases h3:a.Kind=4 ∧ (a.Low < -2305843009213693952 ∨ 2305843009213693952 < a.High ∨ a.Num < a.Low ∨ a.High < a.Num)
   ·rw [if_pos h3,if_pos (by simpa [or_assoc] using h3)]
   ·rw [if_neg h3,if_neg (by simpa [or_assoc] using h3)]
    by_cases h4:a.Real=Zbn a.Real
    ·rw [if_neg (show ¬ (a.Real ≠ Zbn a.Real) from fun h=>h h4),decide_eq_true h4]
     simp only [Bool.not_true,Bool.false_eq_true,if_false]
     by_cases h7:a.Kind < 8
     ·rw [if_pos h7,if_pos (by simpa using h7)]
     ·rw [if_neg h7,if_neg (by simpa using h7)]
      by_cases h5:a.Cap < 1 ∨ 32 < a.Cap
      ·rw [if_pos h5,if_pos (by simpa using h5)]
      ·rw [if_neg h5,if_neg (by simpa using h5)]
       by_cases h6:a.Cap < a.List.length
       ·rw [if_pos h6,if_pos (by simpa using h6)]
       ·rw [if_neg h6,if_neg (by simpa using h6)]
        unfold endC
        by_cases h:Zht a.Kind a.List 0 a.List.length=0 <;> simp [h]
    ·rw [if_pos (show a.Real ≠ Zbn a.Real from h4),decide_eq_false h4]
     rfl
theorem Z5r {t n b r l:Bool} {a:Za} (h:¬ Zgu t n b r l a=false) (ht:t=false):a.Text.size=0:=by
 subst ht
 have:Zgu false n b r l a=true:=by simpa using h
 unfold Zgu at this
 simp only [Bool.false_or,Bool.and_eq_true] at this
 have:=Zhn.1 this.1.1.1.1
 rw [this];rfl
theorem D_eq (t n b r l:Bool) (k:Int) (a:Za) (ht:t=true ↔ k=1) (hb:b=true ↔ k=4) (hl:l=false ↔ k < 8):Zp9 t n b r l k a=Zno t n b r l a:=by
 unfold Zp9 Zno
 by_cases h1:Zgu t n b r l a=false
 ·rw [if_pos h1,if_pos h1]
 ·rw [if_neg h1,if_neg h1]
  have e2:(k=1 ∧ (64:Int) < a.Text.size) ↔ (64:Int) < a.Text.size:=by
   constructor
   ·exact fun h=>h.2
   ·intro h
    refine ⟨ht.1 ?_,h⟩
    cases t
    ·have:=Z5r h1 rfl;omega
    ·rfl
  simp only [e2,hb,hl]
theorem Zkt {a:Za} (ha:Zie a):∃ c,Zd0 a=some c ∧ Zc4 a=some c:=by
 by_cases hk:a.Kind ≤ 0 ∨ 10 ≤ a.Kind
 ·refine ⟨5,?_,?_⟩
  ·unfold Zd0
   have hs:∃ s,Zdx a.Kind=some s:=by
    have h1:¬ a.Kind=1:=by omega
    have h2:¬ a.Kind=2:=by omega
    have h3:¬ a.Kind=3:=by omega
    have h4:¬ a.Kind=4:=by omega
    have h5:¬ a.Kind=5:=by omega
    have h6:¬ a.Kind=6:=by omega
    have h7:¬ a.Kind=7:=by omega
    have h8:¬ a.Kind=8:=by omega
    have h9:¬ a.Kind=9:=by omega
    exact ⟨⟨false,false,false,false,false⟩,by simp [Zdx,Zi6,Zhm,Zi1,h1,h2,h3,h4,h5,h6,h7,h8,h9]⟩
   obtain ⟨s,hs⟩:=hs
   rw [hs]
   simp only [Option.bind_some]
   rw [if_pos (by simpa using hk)]
  ·unfold Zc4
   rw [if_pos (by simp;omega)]
 ·have hk2:¬ (a.Kind < 1 ∨ 9 < a.Kind):=by omega
  have hk':a.Kind=1 ∨ a.Kind=2 ∨ a.Kind=3 ∨ a.Kind=4 ∨ a.Kind=5 ∨ a.Kind=6 ∨ a.Kind=7 ∨ a.Kind=8 ∨ a.Kind=9:=by omega
  rcases hk' with h | h | h | h | h | h | h | h | h
  ·exact ⟨_,Zfh ha hk (by rw [h];exact Z1e),by rw [Zfi ha hk2 (by rw [h];kernel_rfl) Z8l,D_eq _ _ _ _ _ _ _ (by simp [h]) (by simp [h]) (by simp [h])]⟩
  ·exact ⟨_,Zfh ha hk (by rw [h];exact Zzu),by rw [Zfi ha hk2 (by rw [h];kernel_rfl) Z3l,D_eq _ _ _ _ _ _ _ (by simp [h]) (by simp [h]) (by simp [h])]⟩
  ·exact ⟨_,Zfh ha hk (by rw [h];exact Z0h),by rw [Zfi ha hk2 (by rw [h];kernel_rfl) Z3l,D_eq _ _ _ _ _ _ _ (by simp [h]) (by simp [h]) (by simp [h])]⟩
  ·exact ⟨_,Zfh ha hk (by rw [h];exact Zz6),by rw [Zfi ha hk2 (by rw [h];kernel_rfl) Z7c,D_eq _ _ _ _ _ _ _ (by simp [h]) (by simp [h]) (by simp [h])]⟩
  ·exact ⟨_,Zfh ha hk (by rw [h];exact Z0f),by rw [Zfi ha hk2 (by rw [h];kernel_rfl) Zyn,D_eq _ _ _ _ _ _ _ (by simp [h]) (by simp [h]) (by simp [h])]⟩
  ·exact ⟨_,Zfh ha hk (by rw [h];exact Z08),by rw [Zfi ha hk2 (by rw [h];kernel_rfl) Zyn,D_eq _ _ _ _ _ _ _ (by simp [h]) (by simp [h]) (by simp [h])]⟩
  ·exact ⟨_,Zfh ha hk (by rw [h];exact Z04),by rw [Zfi ha hk2 (by rw [h];kernel_rfl) Zyn,D_eq _ _ _ _ _ _ _ (by simp [h]) (by simp [h]) (by simp [h])]⟩
  ·exact ⟨_,Zfh ha hk (by rw [h];exact Zzm),by rw [Zfi ha hk2 (by rw [h];kernel_rfl) Z3t,D_eq _ _ _ _ _ _ _ (by simp [h]) (by simp [h]) (by simp [h])]⟩
  ·exact ⟨_,Zfh ha hk (by rw [h];exact Zz7),by rw [Zfi ha hk2 (by rw [h];kernel_rfl) Z3t,D_eq _ _ _ _ _ _ _ (by simp [h]) (by simp [h]) (by simp [h])]⟩
def endB:Bool → Bool ⊕ Unit
 | true=>.inr ()
 | false=>.inl false
def eqI (x y:Zd):Bool:=sEq x.Name y.Name && decide (keyf x.Score=keyf y.Score)
def eqL:List Zd → List Zd → Bool
 | [],[]=>true
 | x :: xs,y :: ys=>eqI x y && eqL xs ys
 | _,_=>false
def Zjz (a b:Za):Bool:=(a.Kind == b.Kind) && (a.Num == b.Num) && (a.Low == b.Low) && (a.High == b.High) && decide (keyf a.Real=keyf b.Real) && (a.Cap == b.Cap) && sEq a.Text b.Text && eqL a.List b.List
theorem Zsq:∀ {a b:List Zd},eqL a b=true → a.length=b.length
 | [],[],_=>rfl
 | x :: xs,y :: ys,h=>by
  simp only [eqL,Bool.and_eq_true] at h
  simp [Zsq h.2]
 | [],_ :: _,h=>by simp [eqL] at h
 | _ :: _,[],h=>by simp [eqL] at h
theorem Z1z {x y:Zd} (hx:x.Score < W64) (hy:y.Score < W64):Zhu x y=some (eqI x y):=by
 unfold Zhu eqI
 rw [Zl8 hx hy]
 cases sEq x.Name y.Name <;> simp [gd]
theorem Zvb {a b:List Zd} (ha:∀ e ∈ a,e.Score < W64) (hb:∀ e ∈ b,e.Score < W64) (hl:a.length < 4611686018427387904) (he:a.length=b.length):∀ (n i:Nat),i + n=a.length →
  Zbi a b (fun y0 y1=>Zhu y0 y1) (n + 1) (i:Int)=some (endB (eqL (a.drop i) (b.drop i)))
 | 0,i,h=>by
  rw [Zbi,if_neg (by simp;omega),List.drop_of_length_le (by omega),List.drop_of_length_le (by omega)]
  rfl
 | n + 1,i,h=>by
  have h1:i < a.length:=by omega
  have h2:i < b.length:=by omega
  rw [Zbi,if_pos (by simp;omega),Zdj h1,Zdj h2,wr1 (by omega)]
  simp only [Option.bind_some]
  rw [Z1z (ha _ (List.getElem_mem h1)) (hb _ (List.getElem_mem h2)),List.drop_eq_getElem_cons h1,List.drop_eq_getElem_cons h2]
  simp only [Option.bind_some,eqL]
  cases hq:eqI a[i] b[i]
  ·simp [endB]
  ·simp only [Bool.not_true,Bool.false_eq_true,if_false,Bool.true_and]
   exact Zvb ha hb hl he n (i + 1) (by omega)
theorem Z54 {a b:List Zd} (ha:∀ e ∈ a,e.Score < W64) (hb:∀ e ∈ b,e.Score < W64) (hl:a.length < 4611686018427387904):Zb0 a b (fun y0 y1=>Zhu y0 y1)=some (eqL a b):=by
 unfold Zb0
 by_cases he:a.length=b.length
 ·rw [if_neg (by simp;omega),show (Int.toNat ((a.length:Int) - (0:Int)) + 1)=a.length + 1 by omega]
  have:=Zvb ha hb hl he a.length 0 (by omega)
  rw [show ((0:Nat):Int)=0 from rfl] at this
  rw [this]
  simp only [List.drop_zero]
  cases eqL a b <;> simp [endB]
 ·rw [if_pos (by simp;omega)]
  cases h:eqL a b
  ·rfl
  ·exact absurd (Zsq h) he
theorem Z1j {a b:Za} (ha:Zie a) (hb:Zie b):Zmp a b=some (Zjz a b):=by
 unfold Zmp Zjz
 rw [Zl8 ha.real hb.real,Z54 ha.sc hb.sc ha.len]
 generalize (a.Kind == b.Kind)=x1
 generalize (a.Num == b.Num)=x2
 generalize (a.Low == b.Low)=x3
 generalize (a.High == b.High)=x4
 generalize decide (keyf a.Real=keyf b.Real)=x5
 generalize (a.Cap == b.Cap)=x6
 generalize sEq a.Text b.Text=x7
 generalize eqL a.List b.List=x8
 revert x1 x2 x3 x4 x5 x6 x7 x8
 decide
theorem Zrr {a b:Za} (ha:Zie a) (hb:Zie b) (he:a.List.length=b.List.length):∀ (n i:Nat),i + n=a.List.length →
  Zdu a b (n + 1) (i:Int)=some (endB (eqL (a.List.drop i) (b.List.drop i)))
 | 0,i,h=>by
  rw [Zdu,if_neg (by simp;omega),List.drop_of_length_le (by omega),List.drop_of_length_le (by omega)]
  rfl
 | n + 1,i,h=>by
  have h1:i < a.List.length:=by omega
  have h2:i < b.List.length:=by omega
  have hl:=ha.len
  have hs1:=ha.sc _ (List.getElem_mem h1)
  have hs2:=hb.sc _ (List.getElem_mem h2)
  rw [Zdu,if_pos (by simp;omega),Zdj h1,Zdj h2,wr1 (by omega),List.drop_eq_getElem_cons h1,List.drop_eq_getElem_cons h2]
  simp only [Option.bind_some,eqL,eqI]
  cases hn:sEq a.List[i].Name b.List[i].Name
  ·simp [gd,endB]
  ·simp only [Bool.not_true,Bool.not_false,gd_t,Option.bind_some]
   rw [Zld hs1 hs2]
   simp only [Option.bind_some,Bool.false_or,Bool.true_and]
   by_cases hk:keyf a.List[i].Score=keyf b.List[i].Score
   ·simp only [hk,decide_true,Bool.not_true,Bool.false_eq_true,if_false,Bool.true_and]
    exact Zrr ha hb he n (i + 1) (by omega)
   ·simp [hk,endB]
theorem Zt1 {a b:Za} (ha:Zie a) (hb:Zie b):Zej a b=some (Zjz a b):=by
 unfold Zej Zjz
 rw [Zld ha.real hb.real]
 by_cases he:a.List.length=b.List.length
 ·have:=Zrr ha hb he a.List.length 0 (by omega)
  rw [show ((0:Nat):Int)=0 from rfl] at this
  rw [show (Int.toNat ((a.List.length:Int) - (0:Int)) + 1)=a.List.length + 1 by omega,this]
  have hn:((a.List.length:Int) != (b.List.length:Int))=false:=by simp;omega
  rw [hn]
  simp only [List.drop_zero,bne]
  generalize (a.Kind == b.Kind)=x1
  generalize (a.Num == b.Num)=x2
  generalize (a.Low == b.Low)=x3
  generalize (a.High == b.High)=x4
  generalize decide (keyf a.Real=keyf b.Real)=x5
  generalize (a.Cap == b.Cap)=x6
  generalize sEq a.Text b.Text=x7
  generalize eqL a.List b.List=x8
  clear this hn he
  revert x1 x2 x3 x4 x5 x6 x7 x8
  decide
 ·have h8:eqL a.List b.List=false:=by
   cases h:eqL a.List b.List
   ·rfl
   ·exact absurd (Zsq h) he
  have hn:((a.List.length:Int) != (b.List.length:Int))=true:=by simp;omega
  rw [hn,h8]
  simp only [bne,Bool.or_true,Option.bind_some,if_true,Bool.and_false,ite_self]
theorem Zrs {a:Za} (hl:a.List.length ≤ 9223372036854775807):∀ (n i:Nat),i + n=a.List.length → ∃ z,Zd3 a (n + 1) (i:Int)=some z ∧ (z=.inl 1 ∨ z=.inr ())
 | 0,i,h=>by
  rw [Zd3,if_neg (by simp;omega)]
  exact ⟨_,rfl,.inr rfl⟩
 | n + 1,i,h=>by
  rw [Zd3,if_pos (by simp;omega),Zdj (by omega),wr1 (by omega)]
  simp only [Option.bind_some]
  split
  ·exact ⟨_,rfl,.inl rfl⟩
  ·exact Zrs hl n (i + 1) (by omega)
theorem Z3g {a:Za} (hl:a.List.length ≤ 9223372036854775807):∃ c,Zgw a=some c ∧ (c=0 ∨ c=1) ∧ (c=0 → a.List.length ≤ 100):=by
 unfold Zgw
 by_cases h:(100:Int) < a.List.length ∨ (1000:Int) < a.Text.size
 ·rw [if_pos (by simpa using h)]
  exact ⟨1,rfl,.inr rfl,fun h=>by cases h⟩
 ·rw [if_neg (by simpa using h),show (Int.toNat ((a.List.length:Int) - (0:Int)) + 1)=a.List.length + 1 by omega]
  obtain ⟨z,hz,hc⟩:=Zrs hl a.List.length 0 (by omega)
  rw [show ((0:Nat):Int)=0 from rfl] at hz
  rw [hz]
  rcases hc with rfl | rfl
  ·exact ⟨1,rfl,.inr rfl,fun h=>by cases h⟩
  ·exact ⟨0,rfl,.inl rfl,fun _=>by omega⟩
theorem Zqg {β:Type} [Inhabited β] (c:Bool) (v:β):gd c (some v)=some (if c then v else default):=by cases c <;> rfl
def Zqf (a:Zi):Prop:=Zie a.Make ∧ a.X < W64
abbrev zrc:Za:={ Kind:=0,Num:=0,Low:=0,High:=0,Real:=0,Cap:=0,Text:=ByteArray.empty,List:=[] }
theorem Z0c:Zie zrc:=⟨by decide,by decide,fun e he=>by cases he⟩
def actD (n x s m o1 k1 k2:Bool) (c:Int) (a:Zi):Int :=
 if (sEq a.Key ⟨#[]⟩ || decide ((24:Int) < a.Key.size))=true then 1
 else if (!(((n || a.N == 0) && (x || decide (keyf a.X=keyf 0))) && (s || sEq a.S ⟨#[]⟩) && (m || Zjz a.Make zrc)))=true then 4
 else if decide ((if o1=true then (64:Int) else 16) < a.S.size)=true then 3
 else if (k2 && (decide (a.N < 0) || decide (2305843009213693952 < a.N)))=true then 1
 else if (!decide (a.X=Zbn a.X))=true then 4
 else if k1=true then c else 0
theorem Z45 (k:ByteArray):(decide ((k.size:Int) < 1))=sEq k ⟨#[]⟩:=by
 by_cases h:k=⟨#[]⟩
 ·subst h;rw [Zmd];decide
 ·rw [Zka.2 h]
  have:k.size ≠ 0:=fun e=>h (by
   apply ByteArray.ext
   exact Array.size_eq_zero_iff.1 e)
  simp;omega
theorem Zjj {a:Zi} (ha:Zqf a) {w has:ByteArray} {on c:Int} {n x s m:Bool} (hc:Zd0 a.Make=some c) (h1:Zmg a.Kind=some ⟨w,on,has⟩) (hw:sEq w ⟨#[]⟩=false)
  (fn:Zc0 ⟨w,on,has⟩ 110=some n) (fx:Zc0 ⟨w,on,has⟩ 120=some x) (fs:Zc0 ⟨w,on,has⟩ 115=some s) (fm:Zc0 ⟨w,on,has⟩ 109=some m) :
  Ze1 a=some (actD n x s m (on == 1) (a.Kind == 1) (a.Kind == 10 || a.Kind == 11) c a):=by
 have h0:(0:Nat) < W64:=by decide
 unfold Ze1 Zon Zny
 rw [h1]
 simp only [Option.bind_some,hw,Bool.false_eq_true,if_false,fn,fx,fs,fm,Zqg]
 rw [Zl8 ha.2 h0,Z1j ha.1 Z0c,Zpj ha.2,hc]
 simp only [Option.bind_some,Zqg]
 unfold actD
 generalize (sEq a.Key ⟨#[]⟩ || decide ((24:Int) < a.Key.size))=b1
 generalize (a.N == 0)=b2
 generalize decide (keyf a.X=keyf 0)=b3
 generalize sEq a.S ⟨#[]⟩=b4
 generalize Zjz a.Make zrc=b5
 generalize (a.Kind == 10 || a.Kind == 11)=b6
 generalize (a.Kind == 1)=b7
 generalize (decide (a.N < 0) || decide (2305843009213693952 < a.N))=b8
 generalize decide (a.X=Zbn a.X)=b9
 have e1:decide ((64:Int) < a.S.size)=decide ((if true=true then (64:Int) else 16) < a.S.size):=rfl
 cases b1
 ·have hm:∀ (z:Bool),((if z=true then some (64:Int) else some 16).bind fun r8=>(if decide (r8 < (a.S.size:Int))=true then some (3:Int) else if (b6 && b8)=true then some 1 else if (!b9)=true then some 4 else if b7=true then some c else some 0))=some (if decide ((if z=true then (64:Int) else 16) < a.S.size)=true then 3 else if (b6 && b8)=true then 1 else if (!b9)=true then 4 else if b7=true then c else 0):=by
   intro z
   cases z <;> simp only [Bool.false_eq_true,if_false,if_true,Option.bind_some] <;> (repeat' split) <;> rfl
  rw [hm]
  cases n <;> cases x <;> cases s <;> cases m <;> cases b2 <;> cases b3 <;> cases b4 <;> cases b5 <;> rfl
 ·rfl
theorem Zyz {a:Zi} (ha:Zqf a) {on c:Int} {n x s m:Bool} (hc:Zc4 a.Make=some c) (hk:¬ (a.Kind < 1 ∨ 21 < a.Kind)) (ro:Zdg a.Kind=some on)
  (fn:Zdl a.Kind 110=some n) (fx:Zdl a.Kind 120=some x) (fs:Zdl a.Kind 115=some s) (fm:m=(a.Kind == 1)) :
  Zec a=some (actD n x s m (on == 1) (a.Kind == 1) (a.Kind == 10 || a.Kind == 11) c a):=by
 have h0:(0:Nat) < W64:=by decide
 unfold Zec
 rw [if_neg (by simpa using hk),fn,fx,fs,ro]
 simp only [Option.bind_some,Zqg,Z45]
 rw [Zld ha.2 h0,Zt1 ha.1 Z0c,Zn9 ha.2,hc]
 simp only [Option.bind_some,Zqg]
 unfold actD
 subst fm
 have hmid:((on == 1 && decide ((64:Int) < a.S.size)) || ((if (!(on == 1 && decide ((64:Int) < a.S.size)))=true then on else default) != 1 && decide ((16:Int) < a.S.size)))=decide ((if (on == 1)=true then (64:Int) else 16) < a.S.size):=by
  by_cases ho:on=1
  ·subst ho
   by_cases h64:(64:Int) < a.S.size <;> simp [h64]
  ·have hb1:(on == 1)=false:=by simpa using ho
   have hb2:(on != 1)=true:=by simpa using ho
   simp [hb1,hb2]
 rw [hmid,show (a.N != 0)=!(a.N == 0) from rfl,show (a.Kind != 1)=!(a.Kind == 1) from rfl]
 generalize decide ((if (on == 1)=true then (64:Int) else 16) < a.S.size)=b10
 generalize (sEq a.Key ⟨#[]⟩ || decide ((24:Int) < a.Key.size))=b1
 generalize (a.N == 0)=b2
 generalize decide (keyf a.X=keyf 0)=b3
 generalize sEq a.S ⟨#[]⟩=b4
 generalize Zjz a.Make zrc=b5
 generalize (a.Kind == 10 || a.Kind == 11)=b6
 generalize (a.Kind == 1)=b7
 generalize (decide (a.N < 0) || decide (2305843009213693952 < a.N))=b8
 generalize decide (a.X=Zbn a.X)=b9
 have htail:(if b10=true then some (3:Int) else if (b6 && b8)=true then some 1 else if (!b9)=true then some 4 else if b7=true then some c else some 0)=some (if b10=true then 3 else if (b6 && b8)=true then 1 else if (!b9)=true then 4 else if b7=true then c else 0):=by
  (repeat' split) <;> rfl
 rw [htail]
 cases b1
 ·cases n <;> cases x <;> cases s <;> cases b7 <;> cases b2 <;> cases b3 <;> cases b4 <;> cases b5 <;> rfl
 ·rfl
theorem Zzi {n x s m o1 k1 k2:Bool} {c:Int} {a:Zi} (h:actD n x s m o1 k1 k2 c a=0):(sEq a.Key ⟨#[]⟩ || decide ((24:Int) < a.Key.size))=false ∧ decide ((if o1=true then (64:Int) else 16) < a.S.size)=false ∧ (k2 && (decide (a.N < 0) || decide (2305843009213693952 < a.N)))=false ∧ decide (a.X=Zbn a.X)=true ∧ (k1=true → c=0):=by
 unfold actD at h
 revert h
 generalize (sEq a.Key ⟨#[]⟩ || decide ((24:Int) < a.Key.size))=b1
 generalize decide ((if o1=true then (64:Int) else 16) < a.S.size)=b3
 generalize (k2 && (decide (a.N < 0) || decide (2305843009213693952 < a.N)))=b4
 generalize decide (a.X=Zbn a.X)=b5
 generalize (!(((n || a.N == 0) && (x || decide (keyf a.X=keyf 0))) && (s || sEq a.S ⟨#[]⟩) && (m || Zjz a.Make zrc)))=b2
 cases b1 <;> cases b2 <;> cases b3 <;> cases b4 <;> cases b5 <;> cases k1 <;> simp
theorem Zmv {a:Zi} (ha:Zqf a):∃ c,Ze1 a=some c ∧ Zec a=some c ∧ (c=0 → 1 ≤ a.Kind ∧ a.Kind ≤ 21 ∧ a.X=Zbn a.X ∧ a.S.size ≤ 64 ∧ ((a.Kind=10 ∨ a.Kind=11) → 0 ≤ a.N ∧ a.N ≤ 2305843009213693952) ∧ (a.Kind=1 → Zd0 a.Make=some 0) ∧ (¬ (5 ≤ a.Kind ∧ a.Kind ≤ 6) → a.S.size ≤ 16) ∧ sEq a.Key ⟨#[]⟩=false ∧ a.Key.size ≤ 24):=by
 by_cases hk:a.Kind < 1 ∨ 21 < a.Kind
 ·refine ⟨5,?_,?_,fun h=>by cases h⟩
  ·unfold Ze1 Zmg
   rw [if_pos (by simp;omega)]
   simp only [Option.bind_some]
   rw [if_pos (show sEq ByteArray.empty ⟨#[]⟩=true by kernel_rfl)]
  ·unfold Zec
   rw [if_pos (by simpa using hk)]
 ·obtain ⟨c,hc1,hc2⟩:=Zkt ha.1
  have fin:∀ {w has:ByteArray} {on:Int} {n x s m:Bool},Zmg a.Kind=some ⟨w,on,has⟩ → sEq w ⟨#[]⟩=false → Zc0 ⟨w,on,has⟩ 110=some n → Zc0 ⟨w,on,has⟩ 120=some x → Zc0 ⟨w,on,has⟩ 115=some s → Zc0 ⟨w,on,has⟩ 109=some m →
    Zdg a.Kind=some on → Zdl a.Kind 110=some n → Zdl a.Kind 120=some x → Zdl a.Kind 115=some s → m=(a.Kind == 1) → ((on == 1)=true → 5 ≤ a.Kind ∧ a.Kind ≤ 6) →
    ∃ c,Ze1 a=some c ∧ Zec a=some c ∧ (c=0 → 1 ≤ a.Kind ∧ a.Kind ≤ 21 ∧ a.X=Zbn a.X ∧ a.S.size ≤ 64 ∧ ((a.Kind=10 ∨ a.Kind=11) → 0 ≤ a.N ∧ a.N ≤ 2305843009213693952) ∧ (a.Kind=1 → Zd0 a.Make=some 0) ∧ (¬ (5 ≤ a.Kind ∧ a.Kind ≤ 6) → a.S.size ≤ 16) ∧ sEq a.Key ⟨#[]⟩=false ∧ a.Key.size ≤ 24):=by
   intro w has on n x s m h1 hw fn fx fs fm ro rn rx rs hm hon
   refine ⟨_,Zjj ha hc1 h1 hw fn fx fs fm,by rw [hm];exact Zyz ha hc2 hk ro rn rx rs rfl,fun h0=>?_⟩
   obtain ⟨g1,g3,g4,g5,g6⟩:=Zzi h0
   simp only [Bool.or_eq_false_iff,decide_eq_false_iff_not] at g1
   have g3':¬ (if (on == 1)=true then (64:Int) else 16) < a.S.size:=of_decide_eq_false g3
   refine ⟨by omega,by omega,of_decide_eq_true g5,?_,fun h=>?_,fun h=>?_,fun h=>?_,g1.1,by omega⟩
   ·split at g3' <;> omega
   ·have h11:(a.Kind == 10 || a.Kind == 11)=true:=by simpa using h
    rw [h11] at g4
    simp only [Bool.true_and,Bool.or_eq_false_iff,decide_eq_false_iff_not] at g4
    omega
   ·rw [hc1,g6 (by simp [h])]
   ·rw [if_neg (fun h2=>h (hon h2))] at g3'
    omega
  have hk':a.Kind=1 ∨ a.Kind=2 ∨ a.Kind=3 ∨ a.Kind=4 ∨ a.Kind=5 ∨ a.Kind=6 ∨ a.Kind=7 ∨ a.Kind=8 ∨ a.Kind=9 ∨ a.Kind=10 ∨ a.Kind=11 ∨ a.Kind=12 ∨ a.Kind=13 ∨ a.Kind=14 ∨ a.Kind=15 ∨ a.Kind=16 ∨ a.Kind=17 ∨ a.Kind=18 ∨ a.Kind=19 ∨ a.Kind=20 ∨ a.Kind=21:=by omega
  rcases hk' with h | h | h | h | h | h | h | h | h | h | h | h | h | h | h | h | h | h | h | h | h <;> rw [h] at fin ⊢
  ·exact fin (w:=⟨#[110,101,119]⟩) (on:=0) (has:=⟨#[109]⟩) (n:=false) (x:=false) (s:=false) (m:=true) (by kernel_rfl) (by kernel_rfl) (by kernel_rfl) (by kernel_rfl) (by kernel_rfl) (by kernel_rfl) (by kernel_rfl) (by kernel_rfl) (by kernel_rfl) (by kernel_rfl) (by decide) (by decide)
  ·exact fin (w:=⟨#[100,114,111,112]⟩) (on:=0) (has:=⟨#[]⟩) (n:=false) (x:=false) (s:=false) (m:=false) (by kernel_rfl) (by kernel_rfl) (by kernel_rfl) (by kernel_rfl) (by kernel_rfl) (by kernel_rfl) (by kernel_rfl) (by kernel_rfl) (by kernel_rfl) (by kernel_rfl) (by decide) (by decide)
  ·exact fin (w:=⟨#[105,115]⟩) (on:=0) (has:=⟨#[]⟩) (n:=false) (x:=false) (s:=false) (m:=false) (by kernel_rfl) (by kernel_rfl) (by kernel_rfl) (by kernel_rfl) (by kernel_rfl) (by kernel_rfl) (by kernel_rfl) (by kernel_rfl) (by kernel_rfl) (by kernel_rfl) (by decide) (by decide)
  ·exact fin (w:=⟨#[108,111,111,107]⟩) (on:=0) (has:=⟨#[]⟩) (n:=false) (x:=false) (s:=false) (m:=false) (by kernel_rfl) (by kernel_rfl) (by kernel_rfl) (by kernel_rfl) (by kernel_rfl) (by kernel_rfl) (by kernel_rfl) (by kernel_rfl) (by kernel_rfl) (by kernel_rfl) (by decide) (by decide)
  ·exact fin (w:=⟨#[112,117,116]⟩) (on:=1) (has:=⟨#[115]⟩) (n:=false) (x:=false) (s:=true) (m:=false) (by kernel_rfl) (by kernel_rfl) (by kernel_rfl) (by kernel_rfl) (by kernel_rfl) (by kernel_rfl) (by kernel_rfl) (by kernel_rfl) (by kernel_rfl) (by kernel_rfl) (by decide) (by decide)
  ·exact fin (w:=⟨#[115,119,97,112]⟩) (on:=1) (has:=⟨#[115]⟩) (n:=false) (x:=false) (s:=true) (m:=false) (by kernel_rfl) (by kernel_rfl) (by kernel_rfl) (by kernel_rfl) (by kernel_rfl) (by kernel_rfl) (by kernel_rfl) (by kernel_rfl) (by kernel_rfl) (by kernel_rfl) (by decide) (by decide)
  ·exact fin (w:=⟨#[97,100,100]⟩) (on:=2) (has:=⟨#[110]⟩) (n:=true) (x:=false) (s:=false) (m:=false) (by kernel_rfl) (by kernel_rfl) (by kernel_rfl) (by kernel_rfl) (by kernel_rfl) (by kernel_rfl) (by kernel_rfl) (by kernel_rfl) (by kernel_rfl) (by kernel_rfl) (by decide) (by decide)
  ·exact fin (w:=⟨#[112,108,117,115]⟩) (on:=3) (has:=⟨#[110]⟩) (n:=true) (x:=false) (s:=false) (m:=false) (by kernel_rfl) (by kernel_rfl) (by kernel_rfl) (by kernel_rfl) (by kernel_rfl) (by kernel_rfl) (by kernel_rfl) (by kernel_rfl) (by kernel_rfl) (by kernel_rfl) (by decide) (by decide)
  ·exact fin (w:=⟨#[114,101,97,99,104]⟩) (on:=3) (has:=⟨#[110]⟩) (n:=true) (x:=false) (s:=false) (m:=false) (by kernel_rfl) (by kernel_rfl) (by kernel_rfl) (by kernel_rfl) (by kernel_rfl) (by kernel_rfl) (by kernel_rfl) (by kernel_rfl) (by kernel_rfl) (by kernel_rfl) (by decide) (by decide)
  ·exact fin (w:=⟨#[105,110]⟩) (on:=4) (has:=⟨#[110]⟩) (n:=true) (x:=false) (s:=false) (m:=false) (by kernel_rfl) (by kernel_rfl) (by kernel_rfl) (by kernel_rfl) (by kernel_rfl) (by kernel_rfl) (by kernel_rfl) (by kernel_rfl) (by kernel_rfl) (by kernel_rfl) (by decide) (by decide)
  ·exact fin (w:=⟨#[111,117,116]⟩) (on:=4) (has:=⟨#[110]⟩) (n:=true) (x:=false) (s:=false) (m:=false) (by kernel_rfl) (by kernel_rfl) (by kernel_rfl) (by kernel_rfl) (by kernel_rfl) (by kernel_rfl) (by kernel_rfl) (by kernel_rfl) (by kernel_rfl) (by kernel_rfl) (by decide) (by decide)
  ·exact fin (w:=⟨#[101,110,111,117,103,104]⟩) (on:=4) (has:=⟨#[110]⟩) (n:=true) (x:=false) (s:=false) (m:=false) (by kernel_rfl) (by kernel_rfl) (by kernel_rfl) (by kernel_rfl) (by kernel_rfl) (by kernel_rfl) (by kernel_rfl) (by kernel_rfl) (by kernel_rfl) (by kernel_rfl) (by decide) (by decide)
  ·exact fin (w:=⟨#[114,97,105,115,101]⟩) (on:=5) (has:=⟨#[120]⟩) (n:=false) (x:=true) (s:=false) (m:=false) (by kernel_rfl) (by kernel_rfl) (by kernel_rfl) (by kernel_rfl) (by kernel_rfl) (by kernel_rfl) (by kernel_rfl) (by kernel_rfl) (by kernel_rfl) (by kernel_rfl) (by decide) (by decide)
  ·exact fin (w:=⟨#[108,111,119,101,114]⟩) (on:=6) (has:=⟨#[120]⟩) (n:=false) (x:=true) (s:=false) (m:=false) (by kernel_rfl) (by kernel_rfl) (by kernel_rfl) (by kernel_rfl) (by kernel_rfl) (by kernel_rfl) (by kernel_rfl) (by kernel_rfl) (by kernel_rfl) (by kernel_rfl) (by decide) (by decide)
  ·exact fin (w:=⟨#[115,104,105,102,116]⟩) (on:=7) (has:=⟨#[120]⟩) (n:=false) (x:=true) (s:=false) (m:=false) (by kernel_rfl) (by kernel_rfl) (by kernel_rfl) (by kernel_rfl) (by kernel_rfl) (by kernel_rfl) (by kernel_rfl) (by kernel_rfl) (by kernel_rfl) (by kernel_rfl) (by decide) (by decide)
  ·exact fin (w:=⟨#[115,99,97,108,101]⟩) (on:=7) (has:=⟨#[120]⟩) (n:=false) (x:=true) (s:=false) (m:=false) (by kernel_rfl) (by kernel_rfl) (by kernel_rfl) (by kernel_rfl) (by kernel_rfl) (by kernel_rfl) (by kernel_rfl) (by kernel_rfl) (by kernel_rfl) (by kernel_rfl) (by decide) (by decide)
  ·exact fin (w:=⟨#[102,105,120]⟩) (on:=7) (has:=⟨#[120]⟩) (n:=false) (x:=true) (s:=false) (m:=false) (by kernel_rfl) (by kernel_rfl) (by kernel_rfl) (by kernel_rfl) (by kernel_rfl) (by kernel_rfl) (by kernel_rfl) (by kernel_rfl) (by kernel_rfl) (by kernel_rfl) (by decide) (by decide)
  ·exact fin (w:=⟨#[106,111,105,110]⟩) (on:=8) (has:=⟨#[115]⟩) (n:=false) (x:=false) (s:=true) (m:=false) (by kernel_rfl) (by kernel_rfl) (by kernel_rfl) (by kernel_rfl) (by kernel_rfl) (by kernel_rfl) (by kernel_rfl) (by kernel_rfl) (by kernel_rfl) (by kernel_rfl) (by decide) (by decide)
  ·exact fin (w:=⟨#[108,101,97,118,101]⟩) (on:=8) (has:=⟨#[115]⟩) (n:=false) (x:=false) (s:=true) (m:=false) (by kernel_rfl) (by kernel_rfl) (by kernel_rfl) (by kernel_rfl) (by kernel_rfl) (by kernel_rfl) (by kernel_rfl) (by kernel_rfl) (by kernel_rfl) (by kernel_rfl) (by decide) (by decide)
  ·exact fin (w:=⟨#[104,97,115]⟩) (on:=8) (has:=⟨#[115]⟩) (n:=false) (x:=false) (s:=true) (m:=false) (by kernel_rfl) (by kernel_rfl) (by kernel_rfl) (by kernel_rfl) (by kernel_rfl) (by kernel_rfl) (by kernel_rfl) (by kernel_rfl) (by kernel_rfl) (by kernel_rfl) (by decide) (by decide)
  ·exact fin (w:=⟨#[111,102,102,101,114]⟩) (on:=9) (has:=⟨#[120,115]⟩) (n:=false) (x:=true) (s:=true) (m:=false) (by kernel_rfl) (by kernel_rfl) (by kernel_rfl) (by kernel_rfl) (by kernel_rfl) (by kernel_rfl) (by kernel_rfl) (by kernel_rfl) (by kernel_rfl) (by kernel_rfl) (by decide) (by decide)
abbrev Zbj:=List Zd
def NS (l:Zbj):Prop:=l.Pairwise fun p q=>sLt p.Name q.Name=true
def pre (f:Zd → Bool):Zbj → Nat
 | []=>0
 | e :: r=>if f e then pre f r + 1 else 0
theorem Zll (f:Zd → Bool):∀ l:Zbj,pre f l ≤ l.length
 | []=>Nat.le_refl _
 | e :: r=>by
  have:=Zll f r
  simp only [pre]
  split <;> simp <;> omega
theorem Zv4 {f:Zd → Bool}:∀ {l:Zbj} {k:Nat} (h:k < pre f l),∃ e,l[k]?=some e ∧ f e=true
 | [],k,h=>by simp [pre] at h
 | e :: r,k,h=>by
  simp only [pre] at h
  split at h
  ·rename_i hf
   cases k with
   | zero=>exact ⟨e,rfl,hf⟩
   | succ k=>exact Zv4 (l:=r) (by omega)
  ·omega
theorem Zsg {f:Zd → Bool}:∀ {l:Zbj} {e:Zd},l[pre f l]?=some e → f e=false
 | [],e,h=>by simp [pre] at h
 | x :: r,e,h=>by
  simp only [pre] at h
  split at h
  ·exact Zsg (l:=r) (by simpa using h)
  ·rename_i hf
   simp at h;subst h;simpa using hf
theorem Zra {s:ByteArray} {l:Zbj} (hs:NS l) {k:Nat} (hk:k < l.length):sLt (l[k]).Name s=decide (k < pre (fun e=>sLt e.Name s) l):=by
 by_cases h:k < pre (fun e=>sLt e.Name s) l
 ·obtain ⟨e,he,hf⟩:=Zv4 h
  rw [List.getElem?_eq_getElem hk] at he
  obtain rfl:=Option.some.inj he
  simp only [h,decide_true];exact hf
 ·simp only [h,decide_false]
  have hp:pre (fun e=>sLt e.Name s) l < l.length:=by omega
  have h1:=Zsg (List.getElem?_eq_getElem hp)
  rcases Nat.lt_or_eq_of_le (Nat.le_of_not_lt h) with hlt | heq
  ·have h2:=List.pairwise_iff_getElem.1 hs _ _ hp hk hlt
   cases h3:sLt (l[k]).Name s
   ·rfl
   ·rw [Zjp h2 h3] at h1;cases h1
  ·have:l[k]=l[pre (fun e=>sLt e.Name s) l]:=by congr 1;exact heq.symm
   rw [this];exact h1
theorem half {i j:Nat} (h:i + j < 4611686018427387904):IntKind.i64.wrap (Int.fdiv (IntKind.u64.wrap (IntKind.i64.wrap ((i:Int) + (j:Int)))) (2 ^ 1))=(((i + j) / 2:Nat):Int):=by
 rw [wr (x:=(i:Int) + j) (by omega) (by omega),wru (by omega) (by omega)]
 have:Int.fdiv ((i:Int) + j) (2 ^ 1)=(((i + j) / 2:Nat):Int):=by
  rw [Int.fdiv_eq_ediv_of_nonneg _ (by decide)];omega
 rw [this,wr (by omega) (by omega)]
theorem Z3m (e:Zd) (s:ByteArray):∃ c:Int,Zh9 e s=some c ∧ decide (c < 0)=sLt e.Name s ∧ (c == 0)=sEq e.Name s:=by
 unfold Zh9
 by_cases h:sLt e.Name s=true
 ·exact ⟨-1,by rw [if_pos h],by rw [h];rfl,by rw [Zka.2 (Zpb h)];rfl⟩
 ·have h':sLt e.Name s=false:=by simpa using h
  by_cases h2:e.Name=s
  ·exact ⟨0,by rw [if_neg h,h',Zhn.2 h2];rfl,by rw [h'];rfl,by rw [Zhn.2 h2];rfl⟩
  ·exact ⟨1,by rw [if_neg h,h',Zka.2 h2];rfl,by rw [h'];rfl,by rw [Zka.2 h2];rfl⟩
theorem Zs4 {l:Zbj} {s:ByteArray} (hs:NS l) (hl:l.length < 2305843009213693952):∀ (n i j:Nat),j - i < n → i ≤ pre (fun e=>sLt e.Name s) l → pre (fun e=>sLt e.Name s) l ≤ j → j ≤ l.length →
  Zbg l s (fun y0 y1=>Zh9 y0 y1) n (i:Int) (j:Int)=some ((pre (fun e=>sLt e.Name s) l:Nat):Int)
 | 0,i,j,h,_,_,_=>by omega
 | n + 1,i,j,h,h1,h2,h3=>by
  rw [Zbg]
  by_cases hij:i < j
  ·rw [if_pos (by simpa using hij),half (by omega)]
   have hm:(i + j) / 2 < l.length:=by omega
   rw [Zdj hm]
   obtain ⟨c,hc,hc1,_⟩:=Z3m l[(i + j) / 2] s
   simp only [Option.bind_some,hc]
   rw [hc1,Zra hs hm]
   unfold Zb3
   by_cases hp:(i + j) / 2 < pre (fun e=>sLt e.Name s) l
   ·rw [if_pos (by simpa using hp),wr1 (by omega)]
    exact Zs4 hs hl n ((i + j) / 2 + 1) j (by omega) (by omega) h2 h3
   ·rw [if_neg (by simpa using hp)]
    exact Zs4 hs hl n i ((i + j) / 2) (by omega) h1 (by omega) (by omega)
  ·rw [if_neg (by simpa using hij)]
   congr 2;omega
def isAt (s:ByteArray) (l:Zbj):Bool:=match l[pre (fun e=>sLt e.Name s) l]? with
 | some e=>sEq e.Name s
 | none=>false
theorem Zni {l:Zbj} {s:ByteArray} (hs:NS l) (hl:l.length < 2305843009213693952):Zjk l s=some (((pre (fun e=>sLt e.Name s) l:Nat):Int),isAt s l):=by
 unfold Zjk Zcl
 have:=Zs4 (s:=s) hs hl (l.length + 1) 0 l.length (by omega) (Nat.zero_le _) (Zll _ _) (Nat.le_refl _)
 rw [show ((0:Nat):Int)=0 from rfl] at this
 rw [show (Int.toNat ((l.length:Int) - (0:Int)) + 1)=l.length + 1 by omega,this]
 simp only [Option.bind_some]
 unfold isAt
 by_cases hp:pre (fun e=>sLt e.Name s) l < l.length
 ·have hd:decide (((pre (fun e=>sLt e.Name s) l:Nat):Int) < (l.length:Int))=true:=by simpa using hp
  rw [hd,Zdj hp,List.getElem?_eq_getElem hp]
  obtain ⟨c,hc,_,hc2⟩:=Z3m l[pre (fun e=>sLt e.Name s) l] s
  simp only [gd_t,Option.bind_some,hc,Bool.true_and,hc2]
 ·have hd:decide (((pre (fun e=>sLt e.Name s) l:Nat):Int) < (l.length:Int))=false:=by simpa using hp
  rw [hd,List.getElem?_eq_none (by omega)]
  rfl
def goL (f g:Zd → Bool) (x:Zd):Zbj → Bool → Zbj × Bool
 | [],d=>([],d)
 | e :: r,d=>if (!d && !f e)=true then ((if g e then [] else [x]) ++ e :: (goL f g x r true).1,(goL f g x r true).2) else (e :: (goL f g x r d).1,(goL f g x r d).2)
theorem Z25 (f g:Zd → Bool) (x:Zd):∀ l:Zbj,goL f g x l true=(l,true)
 | []=>rfl
 | e :: r=>by simp [goL,Z25 f g x r]
theorem Z3z (f g:Zd → Bool) (x:Zd):∀ l:Zbj,goL f g x l false=match l[pre f l]? with
  | some e=>(l.take (pre f l) ++ (if g e then [] else [x]) ++ l.drop (pre f l),true)
  | none=>(l,false)
 | []=>rfl
 | e :: r=>by
  simp only [goL,pre]
  by_cases hf:f e=true
  ·simp only [hf,Bool.not_true,Bool.and_false,Bool.false_eq_true,if_false,if_true]
   rw [Z3z f g x r]
   simp only [List.getElem?_cons_succ]
   cases r[pre f r]? <;> simp
  ·have hf':f e=false:=by simpa using hf
   simp only [hf',Bool.not_false,Bool.and_self,if_true,Bool.false_eq_true,if_false,Z25,List.getElem?_cons_zero,List.take_zero,List.nil_append,List.drop_zero]
def Zck (x:Zd) (nm:Bool) (e:Zd):Bool:=if nm then sLt e.Name x.Name else Zb5 e x
def Ze3 (x:Zd) (nm:Bool) (e:Zd):Bool:=sEq e.Name x.Name && (nm || decide (keyf e.Score=keyf x.Score))
theorem Z0k {l:Zbj} {x:Zd} {nm:Bool} (hx:x.Score < W64) (hsc:∀ e ∈ l,e.Score < W64) {n i:Nat} {out:Zbj} {d:Bool} (h1:i < l.length) :
  Zb4 l x nm (n + 1) out d (i:Int)=(if (!d && !Zck x nm l[i])=true then (if (!Ze3 x nm l[i])=true then (if (out.length + ([x]:List Zd).length) * 24 ≤ 140737488355328 then Zdd l (i:Int) (Zb4 l x nm n) (out ++ [x]) true else none) else Zdd l (i:Int) (Zb4 l x nm n) out true) else Zdd l (i:Int) (Zb4 l x nm n) out d):=by
 have hm:=hsc _ (List.getElem_mem h1)
 have ha:Zez l[i] x=some (Zb5 l[i] x):=Zu4 hm hx
 have hs:Zdb l[i].Score x.Score=some (decide (keyf l[i].Score=keyf x.Score)):=Zld hm hx
 rw [Zb4,if_pos (by simp;omega),Zdj h1]
 cases nm
 ·simp only [Bool.not_false,gd_t,Option.bind_some,Bool.true_and,ha,Bool.and_false,gd_f,Bool.false_and,Bool.or_false,Bool.and_true,Bool.false_or,Zck,Ze3,Bool.false_eq_true,if_false]
  cases hq:sEq l[i].Name x.Name
  ·simp only [gd_f,Option.bind_some,Bool.false_and]
  ·simp only [gd_t,Option.bind_some,Bool.true_and,hs]
 ·simp only [Bool.not_true,gd_f,Option.bind_some,Bool.false_and,Bool.not_false,Bool.true_and,gd_t,Bool.false_or,Bool.true_or,Bool.and_false,Bool.and_true,Zck,Ze3,if_true]
theorem Zm3 {l:Zbj} {x:Zd} {nm:Bool} (hx:x.Score < W64) (hsc:∀ e ∈ l,e.Score < W64) (hl:l.length < 1000000):∀ (n i:Nat) (out:Zbj) (d:Bool),i + n=l.length → out.length + (if d=true then 0 else 1) ≤ i + 1 →
  Zb4 l x nm (n + 1) out d (i:Int)=some (out ++ (goL (Zck x nm) (Ze3 x nm) x (l.drop i) d).1,(goL (Zck x nm) (Ze3 x nm) x (l.drop i) d).2)
 | 0,i,out,d,h,_=>by
  rw [Zb4,if_neg (by simp;omega),List.drop_of_length_le (by omega)]
  simp [goL]
 | n + 1,i,out,d,h,ho=>by
  have h1:i < l.length:=by omega
  rw [Z0k hx hsc h1,List.drop_eq_getElem_cons h1]
  simp only [Zdd,Zdj h1,wr1 (show i < 9223372036854775807 by omega),Option.bind_some,goL]
  by_cases hc:(!d && !Zck x nm l[i])=true
  ·rw [if_pos hc,if_pos hc]
   have hd:d=false:=by cases d <;> simp_all
   subst hd
   simp only [Bool.false_eq_true,if_false] at ho
   by_cases hs:(!Ze3 x nm l[i])=true
   ·rw [if_pos hs,if_pos (by simp;omega),if_pos (by simp;omega),Zm3 hx hsc hl n (i + 1) _ true (by omega) (by simp;omega)]
    have:Ze3 x nm l[i]=false:=by simpa using hs
    simp [this]
   ·rw [if_neg hs,if_pos (by simp;omega),Zm3 hx hsc hl n (i + 1) _ true (by omega) (by simp;omega)]
    have:Ze3 x nm l[i]=true:=by simpa using hs
    simp [this]
  ·rw [if_neg hc,if_neg hc,if_pos (by simp;omega),Zm3 hx hsc hl n (i + 1) _ d (by omega) (by simp;omega)]
   simp
def layL (x:Zd) (nm:Bool) (l:Zbj):Zbj:=match l[pre (Zck x nm) l]? with
 | some e=>l.take (pre (Zck x nm) l) ++ (if Ze3 x nm e then [] else [x]) ++ l.drop (pre (Zck x nm) l)
 | none=>l ++ [x]
theorem Zqe {l:Zbj} {x:Zd} {nm:Bool} (hx:x.Score < W64) (hsc:∀ e ∈ l,e.Score < W64) (hl:l.length < 1000000):Zds l x nm=some (layL x nm l):=by
 unfold Zds
 have:=Zm3 (nm:=nm) hx hsc hl l.length 0 [] false (by omega) (by simp)
 rw [show ((0:Nat):Int)=0 from rfl] at this
 rw [show (Int.toNat ((l.length:Int) - (0:Int)) + 1)=l.length + 1 by omega,this]
 simp only [Option.bind_some,List.nil_append,List.drop_zero]
 rw [Z3z]
 unfold layL
 cases h:l[pre (Zck x nm) l]? with
 | none =>
  simp only [Bool.not_false,if_true,Ze4]
  rw [if_pos (by simp;omega)]
 | some e=>simp only [Bool.not_true,Bool.false_eq_true,if_false,Ze4]
theorem Zv7 {l:Zbj} {s:ByteArray} (hl:l.length < 1000000):∀ (n i:Nat),i + n=l.length → Zd4 l s (n + 1) (i:Int)=some (cond ((l.drop i).any (fun e=>sEq e.Name s)) (.inl true) (.inr ()))
 | 0,i,h=>by
  rw [Zd4,if_neg (by simp;omega),List.drop_of_length_le (by omega)];rfl
 | n + 1,i,h=>by
  have h1:i < l.length:=by omega
  rw [Zd4,if_pos (by simp;omega),Zdj h1,List.drop_eq_getElem_cons h1,List.any_cons]
  simp only [Option.bind_some]
  by_cases hq:sEq l[i].Name s=true
  ·rw [if_pos hq,hq];rfl
  ·have hq':sEq l[i].Name s=false:=by simpa using hq
   rw [if_neg hq,wr1 (by omega),Zv7 hl n (i + 1) (by omega),hq',Bool.false_or]
theorem Zvs {l:Zbj} {s:ByteArray} (hl:l.length < 1000000):Zef l s=some (l.any (fun e=>sEq e.Name s)):=by
 unfold Zef
 have:=Zv7 (s:=s) hl l.length 0 (by omega)
 rw [show ((0:Nat):Int)=0 from rfl] at this
 rw [show (Int.toNat ((l.length:Int) - (0:Int)) + 1)=l.length + 1 by omega,this]
 simp only [List.drop_zero]
 cases h:l.any (fun e=>sEq e.Name s) <;> rfl
theorem Zlh {a0:Za} {a:Zi} (hl:a0.List.length < 1000000):∀ (n i:Nat) (out:Zbj),i + n=a0.List.length → out.length ≤ i → Zcm a0 a (n + 1) out (i:Int)=some (out ++ (a0.List.drop i).filter (fun e=>!sEq e.Name a.S))
 | 0,i,out,h,_=>by
  rw [Zcm,if_neg (by simp;omega),List.drop_of_length_le (by omega)];simp
 | n + 1,i,out,h,ho=>by
  have h1:i < a0.List.length:=by omega
  rw [Zcm,if_pos (by simp;omega),Zdj h1,List.drop_eq_getElem_cons h1]
  simp only [Option.bind_some,Zg0,wr1 (show i < 9223372036854775807 by omega)]
  rw [List.filter_cons]
  by_cases hq:(!sEq a0.List[i].Name a.S)=true
  ·rw [if_pos hq,if_pos hq,if_pos (by simp;omega),Zlh hl n (i + 1) _ (by omega) (by simp;omega),List.append_assoc];rfl
  ·rw [if_neg hq,if_neg hq,Zlh hl n (i + 1) _ (by omega) (by omega)]
theorem Zq8 {l:Zbj} {s:ByteArray} (hs:NS l):(∀ e ∈ l.take (pre (fun e=>sLt e.Name s) l),sEq e.Name s=false) ∧ (∀ e ∈ l.drop (pre (fun e=>sLt e.Name s) l + 1),sEq e.Name s=false):=by
 constructor
 ·intro e he
  obtain ⟨k,hk,rfl⟩:=List.getElem_of_mem he
  rw [List.length_take] at hk
  rw [List.getElem_take]
  have:=Zra (s:=s) hs (k:=k) (by omega)
  rw [show decide (k < pre (fun e=>sLt e.Name s) l)=true by simp;omega] at this
  exact Zka.2 (Zpb this)
 ·intro e he
  obtain ⟨k,hk,rfl⟩:=List.getElem_of_mem he
  rw [List.length_drop] at hk
  rw [List.getElem_drop]
  refine Zka.2 fun h=>?_
  have hp:pre (fun e=>sLt e.Name s) l < l.length:=by omega
  have h1:=List.pairwise_iff_getElem.1 hs _ _ hp (show pre (fun e=>sLt e.Name s) l + 1 + k < l.length by omega) (by omega)
  rw [h] at h1
  have:=Zsg (List.getElem?_eq_getElem hp)
  rw [h1] at this;cases this
theorem Zrf (l:Zbj) (k:Nat) (h:k < l.length):l=l.take k ++ l[k] :: l.drop (k + 1):=by
 rw [← List.drop_eq_getElem_cons h,List.take_append_drop]
theorem Zki {l:Zbj} {s:ByteArray} (hs:NS l):l.any (fun e=>sEq e.Name s)=isAt s l:=by
 obtain ⟨h1,h2⟩:=Zq8 (s:=s) hs
 unfold isAt
 by_cases hp:pre (fun e=>sLt e.Name s) l < l.length
 ·rw [List.getElem?_eq_getElem hp]
  conv=>lhs;rw [Zrf l _ hp]
  have a1:(l.take (pre (fun e=>sLt e.Name s) l)).any (fun e=>sEq e.Name s)=false:=by
   rw [List.any_eq_false];intro e he;rw [h1 e he];decide
  have a2:(l.drop (pre (fun e=>sLt e.Name s) l + 1)).any (fun e=>sEq e.Name s)=false:=by
   rw [List.any_eq_false];intro e he;rw [h2 e he];decide
  rw [List.any_append,List.any_cons,a1,a2];simp
 ·rw [List.getElem?_eq_none (by omega)]
  have:l.take (pre (fun e=>sLt e.Name s) l)=l:=List.take_of_length_le (by omega)
  rw [this] at h1
  rw [List.any_eq_false];intro e he;rw [h1 e he];decide
theorem Zz2 {l:Zbj} {s:ByteArray} (hs:NS l):l.filter (fun e=>!sEq e.Name s)=if isAt s l=true then l.take (pre (fun e=>sLt e.Name s) l) ++ l.drop (pre (fun e=>sLt e.Name s) l + 1) else l:=by
 obtain ⟨h1,h2⟩:=Zq8 (s:=s) hs
 unfold isAt
 by_cases hp:pre (fun e=>sLt e.Name s) l < l.length
 ·rw [List.getElem?_eq_getElem hp]
  conv=>lhs;rw [Zrf l _ hp]
  have a1:(l.take (pre (fun e=>sLt e.Name s) l)).filter (fun e=>!sEq e.Name s)=l.take (pre (fun e=>sLt e.Name s) l):=List.filter_eq_self.2 fun e he=>by rw [h1 e he];rfl
  have a2:(l.drop (pre (fun e=>sLt e.Name s) l + 1)).filter (fun e=>!sEq e.Name s)=l.drop (pre (fun e=>sLt e.Name s) l + 1):=List.filter_eq_self.2 fun e he=>by rw [h2 e he];rfl
  rw [List.filter_append,List.filter_cons,a1,a2]
  by_cases hq:sEq (l[pre (fun e=>sLt e.Name s) l]).Name s=true
  ·rw [if_pos hq,if_neg (by rw [hq];decide)]
  ·rw [if_neg hq,if_pos (by simpa using hq)]
   exact (Zrf l _ hp).symm
 ·rw [List.getElem?_eq_none (by omega)]
  have:l.take (pre (fun e=>sLt e.Name s) l)=l:=List.take_of_length_le (by omega)
  rw [this] at h1
  rw [if_neg (by simp)]
  exact List.filter_eq_self.2 fun e he=>by rw [h1 e he];rfl
theorem Zkn {l:Zbj} {s:ByteArray}:layL { Score:=0,Name:=s } true l=if isAt s l=true then l else l.take (pre (fun e=>sLt e.Name s) l) ++ [{ Score:=0,Name:=s }] ++ l.drop (pre (fun e=>sLt e.Name s) l):=by
 have hf:Zck { Score:=0,Name:=s } true=fun e=>sLt e.Name s:=rfl
 unfold layL isAt
 rw [hf]
 cases h:l[pre (fun e=>sLt e.Name s) l]? with
 | none =>
  have hp:=List.getElem?_eq_none_iff.1 h
  rw [if_neg (by simp),List.take_of_length_le hp,List.drop_of_length_le hp,List.append_nil]
 | some e =>
  simp only [Ze3,Bool.true_or,Bool.and_true]
  by_cases hq:sEq e.Name s=true
  ·rw [if_pos hq,if_pos hq,List.append_nil,List.take_append_drop]
  ·rw [if_neg hq,if_neg hq]
theorem Znj {l:Zbj} (h:l.length < 1000000):Zbv l=some l:=by
 unfold Zbv
 rw [if_pos (by omega)]
theorem Zr1 {r:Za} {a:Zi} (ha:a.X < W64) (hsc:∀ e ∈ r.List,e.Score < W64) (hl:r.List.length < 1000000):∀ (n i:Nat),i + n=r.List.length →
  Zfc r a (n + 1) (i:Int)=some ((i + pre (Zck { Score:=a.X,Name:=a.S } false) (r.List.drop i):Nat):Int)
 | 0,i,h=>by
  have hd:decide ((i:Int) < (r.List.length:Int))=false:=by simp;omega
  rw [Zfc,hd,List.drop_of_length_le (by omega)]
  simp [gd,pre]
 | n + 1,i,h=>by
  have h1:i < r.List.length:=by omega
  have hd:decide ((i:Int) < (r.List.length:Int))=true:=by simp;omega
  rw [Zfc,hd,Zdj h1,List.drop_eq_getElem_cons h1]
  simp only [gd_t,Option.bind_some,Bool.true_and]
  rw [Zmw (hsc _ (List.getElem_mem h1)) ha]
  simp only [Option.bind_some,pre,Zck,Bool.false_eq_true,if_false,wr1 (show i < 9223372036854775807 by omega)]
  by_cases hb:Zb5 r.List[i] { Score:=a.X,Name:=a.S }=true
  ·rw [if_pos hb,if_pos hb,Zr1 ha hsc hl n (i + 1) (by omega)]
   congr 2;omega
  ·rw [if_neg hb,if_neg hb];simp
theorem Ztq {r:Za} {a:Zi} (ha:a.X < W64) (hsc:∀ e ∈ r.List,e.Score < W64) (hl:r.List.length < 1000000):Zfc r a (Int.toNat ((r.List.length:Int) - (0:Int)) + 1) (0:Int)=some ((pre (Zck { Score:=a.X,Name:=a.S } false) r.List:Nat):Int):=by
 have:=Zr1 (a:=a) ha hsc hl r.List.length 0 (by omega)
 rw [show ((0:Nat):Int)=0 from rfl] at this
 rw [show (Int.toNat ((r.List.length:Int) - (0:Int)) + 1)=r.List.length + 1 by omega,this]
 simp
theorem Zq6 {e x:Zd} (h1:Zb5 e x=false):(!Zb5 x e)=Ze3 x false e:=by
 unfold Zb5 Ze3 at *
 by_cases hk:keyf e.Score=keyf x.Score
 ·rw [if_pos hk] at h1
  rw [if_pos hk.symm,hk]
  simp only [Bool.false_or,decide_true,Bool.and_true]
  by_cases hn:e.Name=x.Name
  ·rw [hn,Zmb,Zmd];rfl
  ·rw [Zs0 h1 hn,Zka.2 hn];rfl
 ·rw [if_neg hk] at h1
  rw [if_neg (fun h=>hk h.symm)]
  have:=of_decide_eq_false h1
  have h3:keyf e.Score < keyf x.Score:=by omega
  simp [h3,hk]
theorem Zq1 {k:Int} {l:Zbj}:∀ (n i:Nat),Zht k l i n=0 ↔ ∀ j,i ≤ j → j < i + n → Zgn k l j=0
 | 0,i=>⟨fun _ j h1 h2=>by omega,fun _=>rfl⟩
 | n + 1,i=>by
  by_cases h:Zgn k l i=0
  ·rw [Zrm h,Zq1 n (i + 1)]
   constructor
   ·intro hh j h1 h2
    by_cases e:j=i
    ·rw [e];exact h
    ·exact hh j (by omega) (by omega)
   ·intro hh j h1 h2;exact hh j (by omega) (by omega)
  ·rw [Zre h]
   exact ⟨fun e=>absurd e h,fun hh=>absurd (hh i (Nat.le_refl _) (by omega)) h⟩
theorem Zq2 {t n b r l:Bool} {a:Za}:Zno t n b r l a=0 ↔ Zgu t n b r l a=true ∧ a.Text.size ≤ 64 ∧ (b=true → -2305843009213693952 ≤ a.Low ∧ a.High ≤ 2305843009213693952 ∧ a.Low ≤ a.Num ∧ a.Num ≤ a.High) ∧ a.Real=Zbn a.Real ∧ (l=true → 1 ≤ a.Cap ∧ a.Cap ≤ 32 ∧ (a.List.length:Int) ≤ a.Cap ∧ ∀ i,i < a.List.length → Zgn a.Kind a.List i=0):=by
 unfold Zno
 by_cases h1:Zgu t n b r l a=false
 ·rw [if_pos h1,h1];simp
 ·have h1':Zgu t n b r l a=true:=by simpa using h1
  rw [if_neg h1,h1']
  by_cases h2:(64:Int) < a.Text.size
  ·rw [if_pos h2];exact ⟨fun h=>absurd h (by decide),fun h=>by omega⟩
  ·rw [if_neg h2]
   by_cases h3:b=true ∧ (a.Low < -2305843009213693952 ∨ 2305843009213693952 < a.High ∨ a.Num < a.Low ∨ a.High < a.Num)
   ·rw [if_pos h3];exact ⟨fun h=>absurd h (by decide),fun h=>by have:=h.2.2.1 h3.1;omega⟩
   ·rw [if_neg h3]
    by_cases h4:a.Real=Zbn a.Real
    ·rw [if_neg (fun h=>h h4)]
     cases l
     ·rw [if_pos rfl]
      refine ⟨fun _=>⟨rfl,by omega,fun hb=>?_,h4,fun h=>absurd h (by decide)⟩,fun _=>rfl⟩
      have:¬ (a.Low < -2305843009213693952 ∨ 2305843009213693952 < a.High ∨ a.Num < a.Low ∨ a.High < a.Num):=fun h=>h3 ⟨hb,h⟩
      omega
     ·rw [if_neg (by decide)]
      by_cases h5:a.Cap < 1 ∨ 32 < a.Cap
      ·rw [if_pos h5];exact ⟨fun h=>absurd h (by decide),fun h=>by have:=h.2.2.2.2 rfl;omega⟩
      ·rw [if_neg h5]
       by_cases h6:a.Cap < a.List.length
       ·rw [if_pos h6];exact ⟨fun h=>absurd h (by decide),fun h=>by have:=h.2.2.2.2 rfl;omega⟩
       ·rw [if_neg h6,Zq1]
        constructor
        ·intro h
         refine ⟨rfl,by omega,fun hb=>?_,h4,fun _=>⟨by omega,by omega,by omega,fun i hi=>h i (Nat.zero_le _) (by omega)⟩⟩
         have:¬ (a.Low < -2305843009213693952 ∨ 2305843009213693952 < a.High ∨ a.Num < a.Low ∨ a.High < a.Num):=fun h=>h3 ⟨hb,h⟩
         omega
        ·intro h j _ hj
         exact (h.2.2.2.2 rfl).2.2.2 j (by omega)
    ·rw [if_pos h4];exact ⟨fun h=>absurd h (by decide),fun h=>absurd h.2.2.2.1 h4⟩
def Zbx (a:Za):Prop:=1 ≤ a.Kind ∧ a.Kind ≤ 9 ∧ Zgu (decide (a.Kind=1)) (decide (2 ≤ a.Kind ∧ a.Kind ≤ 4)) (decide (a.Kind=4)) (decide (5 ≤ a.Kind ∧ a.Kind ≤ 7)) (decide (8 ≤ a.Kind)) a=true ∧ a.Text.size ≤ 64 ∧ (a.Kind=4 → -2305843009213693952 ≤ a.Low ∧ a.High ≤ 2305843009213693952 ∧ a.Low ≤ a.Num ∧ a.Num ≤ a.High) ∧ a.Real=Zbn a.Real ∧
 (8 ≤ a.Kind → 1 ≤ a.Cap ∧ a.Cap ≤ 32 ∧ (a.List.length:Int) ≤ a.Cap ∧ ∀ i,i < a.List.length → Zgn a.Kind a.List i=0)
theorem Zgb {a:Za} (ha:Zie a):Zd0 a=some 0 ↔ Zbx a:=by
 by_cases hk:a.Kind ≤ 0 ∨ 10 ≤ a.Kind
 ·have:Zd0 a ≠ some 0:=by
   obtain ⟨c,hc,hc2⟩:=Zkt ha
   unfold Zc4 at hc2
   rw [if_pos (by simp;omega)] at hc2
   rw [hc,← hc2];decide
  exact ⟨fun h=>absurd h this,fun h=>by obtain ⟨h1,h2,_⟩:=h;omega⟩
 ·have fin:∀ {t n b r l:Bool},Zdx a.Kind=some ⟨t,n,b,r,l⟩ → t=decide (a.Kind=1) → n=decide (2 ≤ a.Kind ∧ a.Kind ≤ 4) → b=decide (a.Kind=4) → r=decide (5 ≤ a.Kind ∧ a.Kind ≤ 7) → l=decide (8 ≤ a.Kind) → (Zd0 a=some 0 ↔ Zbx a):=by
   intro t n b r l hs h1 h2 h3 h4 h5
   rw [Zfh ha hk hs]
   constructor
   ·intro h
    obtain ⟨g1,g2,g3,g4,g5⟩:=Zq2.1 (Option.some.inj h)
    refine ⟨by omega,by omega,by rw [← h1,← h2,← h3,← h4,← h5];exact g1,g2,fun hk4=>g3 (by rw [h3];simpa using hk4),g4,fun hk8=>g5 (by rw [h5];simpa using hk8)⟩
   ·rintro ⟨_,_,g1,g2,g3,g4,g5⟩
    congr 1
    exact Zq2.2 ⟨by rw [h1,h2,h3,h4,h5];exact g1,g2,fun hb=>g3 (by rw [h3] at hb;simpa using hb),g4,fun hb=>g5 (by rw [h5] at hb;simpa using hb)⟩
  have hk':a.Kind=1 ∨ a.Kind=2 ∨ a.Kind=3 ∨ a.Kind=4 ∨ a.Kind=5 ∨ a.Kind=6 ∨ a.Kind=7 ∨ a.Kind=8 ∨ a.Kind=9:=by omega
  rcases hk' with h | h | h | h | h | h | h | h | h <;> rw [h] at fin
  ·exact fin Z1e rfl rfl rfl rfl rfl
  ·exact fin Zzu rfl rfl rfl rfl rfl
  ·exact fin Z0h rfl rfl rfl rfl rfl
  ·exact fin Zz6 rfl rfl rfl rfl rfl
  ·exact fin Z0f rfl rfl rfl rfl rfl
  ·exact fin Z08 rfl rfl rfl rfl rfl
  ·exact fin Z04 rfl rfl rfl rfl rfl
  ·exact fin Zzm rfl rfl rfl rfl rfl
  ·exact fin Zz7 rfl rfl rfl rfl rfl
theorem Ziu {a:Za} (h:Zbx a) (hk:a.Kind=8):NS a.List:=by
 obtain ⟨_,_,_,_,_,_,h8⟩:=h
 obtain ⟨_,_,_,hi⟩:=h8 (by omega)
 have step:∀ i,i + 1 < a.List.length → sLt ((a.List[i]?).getD default).Name ((a.List[i + 1]?).getD default).Name=true:=by
  intro i hi1
  have:=hi (i + 1) hi1
  unfold Zgn at this
  rw [List.getElem?_eq_getElem hi1] at this
  simp only [Nat.add_sub_cancel] at this
  split at this
  ·cases this
  ·split at this
   ·cases this
   ·split at this
    ·cases this
    ·rename_i h3
     rw [List.getElem?_eq_getElem hi1]
     cases hq:sLt ((a.List[i]?).getD default).Name a.List[i + 1].Name
     ·exact absurd ⟨by omega,hk,hq⟩ h3
     ·exact hq
 have far:∀ d i,i + d + 1 < a.List.length → sLt ((a.List[i]?).getD default).Name ((a.List[i + d + 1]?).getD default).Name=true:=by
  intro d
  induction d with
  | zero=>intro i h;exact step i h
  | succ d ih=>intro i h;exact Zjp (ih i (by omega)) (step (i + d + 1) (by omega))
 refine List.pairwise_iff_getElem.2 fun i j hi hj hij=>?_
 have:=far (j - i - 1) i (by omega)
 rw [show i + (j - i - 1) + 1=j by omega,List.getElem?_eq_getElem hi,List.getElem?_eq_getElem hj] at this
 exact this
theorem Zs1 {neg:Bool} {r:Nat} (h:r ≤ Ieee.double.infRung):Ieee.double.word neg r < W64:=by
 have h1:Ieee.double.infRung=9218868437227405312:=by decide
 have h2:Ieee.double.signWeight=9223372036854775808:=by decide
 unfold Ieee.Format.word
 rw [h1] at h
 show _ < 18446744073709551616
 split
 ·rw [h2];omega
 ·omega
theorem Zye (neg:Bool) (mag:Nat) (place:Int):Ieee.double.nearest neg mag place < W64:=by
 unfold Ieee.Format.nearest
 split
 ·exact Zs1 (Nat.zero_le _)
 ·exact Zs1 (Nat.min_le_right _ _)
theorem Zux {d:Ieee.Datum} (h:∀ n f,d ≠ .nan n f):Ieee.double.write d < W64:=by
 cases d with
 | number n m p=>exact Zye n m p
 | infinity n=>exact Zs1 (Nat.le_refl _)
 | nan n f=>exact absurd rfl (h n f)
theorem Z4e {x y d:Ieee.Datum} (h:x.sum y=some d):∀ n f,d ≠ .nan n f:=by
 intro n f e
 subst e
 cases x <;> cases y <;> simp [Ieee.Datum.sum] at h
theorem Zwl {x y d:Ieee.Datum} (h:x.product y=some d):∀ n f,d ≠ .nan n f:=by
 intro n f e
 subst e
 cases x <;> cases y <;> simp [Ieee.Datum.product] at h
theorem Zxi (m n:Nat):fadd m n < W64:=by
 unfold fadd Ieee.Format.add
 cases h:(Ieee.double.read m).sum (Ieee.double.read n) with
 | none=>exact (by decide:9221120237041090561 < W64)
 | some d=>simpa using Zux (Z4e h)
theorem Zx8 (m n:Nat):fmul m n < W64:=by
 unfold fmul Ieee.Format.mul
 cases h:(Ieee.double.read m).product (Ieee.double.read n) with
 | none=>exact (by decide:9221120237041090561 < W64)
 | some d=>simpa using Zux (Zwl h)
theorem Zpk {z:Nat} (hz:z < W64):∃ p,Zed z=some p ∧ Zd5 p=some (Zbn z):=by
 have hz':z < 18446744073709551616:=hz
 unfold Zed Zd5 Zbn NANB
 rw [Zn0 hz]
 simp only [Option.bind_some]
 by_cases hn:isn z
 ·refine ⟨18444492273895866369,by simp [hn];decide,?_⟩
  rw [if_pos (by decide),if_pos hn];decide
 ·simp only [hn,decide_false,Bool.false_eq_true,if_false]
  by_cases ht:(9223372036854775808:Int) ≤ z
  ·rw [if_pos (by simpa using ht)]
   refine ⟨_,rfl,?_⟩
   rw [wru (x:=(9223372036854775808:Int) - 1) (by decide) (by decide),wru (x:=(z:Int) - 9223372036854775808) (by omega) (by omega),wru (by omega) (by omega)]
   rw [if_neg (by simp;omega)]
   rw [wru (x:=(9223372036854775808:Int) - 1 - _) (by omega) (by omega),wru (by omega) (by omega)]
   congr 1;omega
  ·rw [if_neg (by simpa using ht)]
   refine ⟨_,rfl,?_⟩
   rw [wru (by omega) (by omega),if_pos (by simp;omega),wru (by omega) (by omega)]
   congr 1;omega
theorem Zqx {z:Nat}:Zbn (Zbn z)=Zbn z:=by
 unfold Zbn
 by_cases h:isn z
 ·rw [if_pos h,if_pos (show isn NANB by unfold isn rg INF NANB TOP;decide)]
 ·rw [if_neg h,if_neg h]
theorem Zv6 {a b:Nat} (ha:a < W64) (hb:b < W64) (ca:a=Zbn a) (cb:b=Zbn b):∃ m,Zgy a b=some m ∧ Zfk a b=some m ∧ (m=a ∨ m=b):=by
 unfold Zgy Zfk
 rw [Zk4 ha hb,Zkh ha hb,Zex ha,Zex hb,← ca,← cb]
 by_cases h:keyf a < keyf b
 ·exact ⟨b,by simp [h],by simp [h],.inr rfl⟩
 ·exact ⟨a,by simp [h],by simp [h],.inl rfl⟩
theorem Zwh {a b:Nat} (ha:a < W64) (hb:b < W64) (ca:a=Zbn a) (cb:b=Zbn b):∃ m,Zgm a b=some m ∧ Zfl a b=some m ∧ (m=a ∨ m=b):=by
 unfold Zgm Zfl
 rw [Zk4 hb ha,Zkh hb ha,Zex ha,Zex hb,← ca,← cb]
 by_cases h:keyf b < keyf a
 ·exact ⟨b,by simp [h],by simp [h],.inr rfl⟩
 ·exact ⟨a,by simp [h],by simp [h],.inl rfl⟩
def I64 (x:Int):Prop:=-9223372036854775808 ≤ x ∧ x ≤ 9223372036854775807
structure RecW (r:Za):Prop where
 ok:Zie r
 num:I64 r.Num
 low:I64 r.Low
 high:I64 r.High
 kind:I64 r.Kind
 len:r.List.length ≤ 1000
structure ActW (a:Zi):Prop where
 ok:Zqf a
 n:I64 a.N
 mkr:RecW a.Make
 xc:a.X=Zbn a.X
 inout:(a.Kind=10 ∨ a.Kind=11) → 0 ≤ a.N ∧ a.N ≤ 2305843009213693952
 s64:a.S.size ≤ 64
 s16:¬ (5 ≤ a.Kind ∧ a.Kind ≤ 6) → a.S.size ≤ 16
abbrev ans (c:Int):Ze:={ Code:=c,Num:=0,Rec:=default }
def Chg (r:Za) (a:Zi):Prop:=∃ c r' o,Zbd a.Kind r a (default:Ze)=some (c,r',o) ∧ Z5 r a=some (if c=0 then (r',o) else (r,ans c)) ∧ RecW r' ∧ RecW o.Rec ∧ (c=0 → o.Code=0 ∧ o.Num=0)
theorem Zk8 (x:Int):I64 (IntKind.i64.wrap x):=by unfold I64;rw [IntKind.wrap_i64];omega
theorem Zc8:RecW (default:Za):=⟨⟨by decide,by decide,fun e he=>by cases he⟩,by unfold I64;decide,by unfold I64;decide,by unfold I64;decide,by unfold I64;decide,by decide⟩
theorem RecW.withNum {r:Za} (h:RecW r) {x:Int} (hx:I64 x):RecW { r with Num:=x }:=⟨⟨h.ok.real,h.ok.len,h.ok.sc⟩,hx,h.low,h.high,h.kind,h.len⟩
theorem RecW.withText {r:Za} (h:RecW r) (t:ByteArray):RecW { r with Text:=t }:=⟨⟨h.ok.real,h.ok.len,h.ok.sc⟩,h.num,h.low,h.high,h.kind,h.len⟩
theorem RecW.withReal {r:Za} (h:RecW r) {x:Nat} (hx:x < W64):RecW { r with Real:=x }:=⟨⟨hx,h.ok.len,h.ok.sc⟩,h.num,h.low,h.high,h.kind,h.len⟩
theorem RecW.withList {r:Za} (h:RecW r) {l:Zbj} (h1:l.length ≤ 1000) (h2:∀ e ∈ l,e.Score < W64):RecW { r with List:=l }:=⟨⟨h.ok.real,by show l.length < _;omega,h2⟩,h.num,h.low,h.high,h.kind,h1⟩
theorem Zgk {r:Za} (h:r.List.length ≤ 1000):Zgf r=some r:=by
 unfold Zgf Zbv
 rw [if_pos (by omega)];rfl
theorem Zm9 {r:Za} (h:r.List.length ≤ 1000):Zd2 r=some r:=by
 unfold Zd2
 rw [if_pos (by simp;omega)];rfl
variable {r:Za} {a:Zi}
theorem Z48 (h:a.Kind=5) (hr:RecW r):Chg r a:=by
 refine ⟨0,{ r with Text:=a.S },ans 0,?_,?_,hr.withText _,Zc8,fun _=>⟨rfl,rfl⟩⟩
 ·rw [h];rfl
 ·unfold Z5;rw [h];rfl
theorem Z18 (h:a.Kind=6) (hr:RecW r):Chg r a:=by
 refine ⟨0,{ r with Text:=a.S },{ ans 0 with Rec:=r },?_,?_,hr.withText _,hr,fun _=>⟨rfl,rfl⟩⟩
 ·rw [h]
  show Zf6 r a default=_
  unfold Zf6
  rw [Zgk hr.len];rfl
 ·unfold Z5;rw [h,Zm9 hr.len];rfl
theorem Z4j (h:a.Kind=7) (hr:RecW r):Chg r a:=by
 refine ⟨0,{ r with Num:=IntKind.i64.wrap (r.Num + a.N) },ans 0,?_,?_,hr.withNum (Zk8 _),Zc8,fun _=>⟨rfl,rfl⟩⟩
 ·rw [h];rfl
 ·unfold Z5;rw [h];rfl
theorem Z1b (hr:I64 r.Num) (hn:I64 a.N):(((decide ((0:Int) < a.N)) && (decide ((IntKind.i64.wrap ((9223372036854775807:Int) - a.N)) < r.Num))) || ((decide (a.N < (0:Int))) && (decide (r.Num < (IntKind.i64.wrap ((-9223372036854775808:Int) - a.N)))))) =
  ((((decide ((0:Int) < r.Num)) && (decide ((0:Int) < a.N))) && (decide ((IntKind.i64.wrap (r.Num + a.N)) < (0:Int)))) || (((decide (r.Num < (0:Int))) && (decide (a.N < (0:Int)))) && (decide ((0:Int) ≤ (IntKind.i64.wrap (r.Num + a.N)))))):=by
 unfold I64 at hr hn
 rw [Bool.eq_iff_iff]
 simp only [Bool.or_eq_true,Bool.and_eq_true,decide_eq_true_eq,IntKind.wrap_i64]
 omega
theorem Z1l (h:a.Kind=8) (hr:RecW r) (ha:ActW a):Chg r a:=by
 have e1:Zbd a.Kind r a default=Zji r a default:=by rw [h];rfl
 have e2:Z5 r a=(Zfe r.Num a.N).bind fun r7=>(if r7 then (Zq r (ans 9)) else (Zq { r with Num:=IntKind.i64.wrap (r.Num + a.N) } (ans 0))):=by unfold Z5;rw [h];rfl
 have hp:=Z1b hr.num ha.n
 unfold Chg
 rw [e1,e2]
 unfold Zji Zfe Zq
 rw [hp]
 simp only [Option.bind_some]
 split
 ·exact ⟨9,r,_,rfl,rfl,hr,Zc8,fun h=>by cases h⟩
 ·exact ⟨0,_,_,rfl,rfl,hr.withNum (Zk8 _),Zc8,fun _=>⟨rfl,rfl⟩⟩
theorem Ztz (h:a.Kind=9 ∨ a.Kind=12) (hr:RecW r):Chg r a:=by
 have e1:Zbd a.Kind r a default=Ze8 r a default:=by rcases h with h | h <;> rw [h] <;> rfl
 have e2:Z5 r a=(if (decide (r.Num < a.N)) then (Zq r (ans 11)) else (Zq r (ans 0))):=by rcases h with h | h <;> unfold Z5 Zbo <;> rw [h] <;> rfl
 unfold Chg
 rw [e1,e2]
 unfold Ze8 Zq
 split
 ·exact ⟨11,r,_,rfl,rfl,hr,Zc8,fun h=>by cases h⟩
 ·exact ⟨0,r,_,rfl,rfl,hr,Zc8,fun _=>⟨rfl,rfl⟩⟩
theorem Zm0 (hg:Zbx r) (hk:r.Kind=4):-2305843009213693952 ≤ r.Low ∧ r.High ≤ 2305843009213693952 ∧ r.Low ≤ r.Num ∧ r.Num ≤ r.High:=hg.2.2.2.2.1 hk
theorem Z63 (h:a.Kind=10) (hr:RecW r) (hg:Zbx r) (hk:r.Kind=4) (ha:ActW a):Chg r a:=by
 have e1:Zbd a.Kind r a default=Zf9 r a default:=by rw [h];rfl
 have e2:Z5 r a=(if (decide (r.High < IntKind.i64.wrap (r.Num + a.N))) then (Zq r (ans 9)) else (Zq { r with Num:=IntKind.i64.wrap (r.Num + a.N) } (ans 0))):=by unfold Z5 Zbo;rw [h];rfl
 obtain ⟨p1,p2,p3,p4⟩:=Zm0 hg hk
 obtain ⟨n1,n2⟩:=ha.inout (.inl h)
 have hd:decide (IntKind.i64.wrap (r.High - r.Num) < a.N)=decide (r.High < IntKind.i64.wrap (r.Num + a.N)):=by
  rw [wr (x:=r.High - r.Num) (by omega) (by omega),wr (x:=r.Num + a.N) (by omega) (by omega)]
  apply decide_eq_decide.2;omega
 unfold Chg
 rw [e1,e2]
 unfold Zf9 Zq
 rw [hd]
 split
 ·exact ⟨9,r,_,rfl,rfl,hr,Zc8,fun h=>by cases h⟩
 ·exact ⟨0,_,_,rfl,rfl,hr.withNum (Zk8 _),Zc8,fun _=>⟨rfl,rfl⟩⟩
theorem Z5d (h:a.Kind=11) (hr:RecW r) (hg:Zbx r) (hk:r.Kind=4) (ha:ActW a):Chg r a:=by
 have e1:Zbd a.Kind r a default=Zf5 r a default:=by rw [h];rfl
 have e2:Z5 r a=(if (decide (IntKind.i64.wrap (r.Num - a.N) < r.Low)) then (Zq r (ans 10)) else (Zq { r with Num:=IntKind.i64.wrap (r.Num - a.N) } (ans 0))):=by unfold Z5 Zbo;rw [h];rfl
 obtain ⟨p1,p2,p3,p4⟩:=Zm0 hg hk
 obtain ⟨n1,n2⟩:=ha.inout (.inr h)
 have hd:decide (IntKind.i64.wrap (r.Num - r.Low) < a.N)=decide (IntKind.i64.wrap (r.Num - a.N) < r.Low):=by
  rw [wr (x:=r.Num - r.Low) (by omega) (by omega),wr (x:=r.Num - a.N) (by omega) (by omega)]
  apply decide_eq_decide.2;omega
 unfold Chg
 rw [e1,e2]
 unfold Zf5 Zq
 rw [hd]
 split
 ·exact ⟨10,r,_,rfl,rfl,hr,Zc8,fun h=>by cases h⟩
 ·exact ⟨0,_,_,rfl,rfl,hr.withNum (Zk8 _),Zc8,fun _=>⟨rfl,rfl⟩⟩
theorem Zmj {m:Nat} {ψ:Nat → Nat → Option Nat} (h:Zbd a.Kind r a default=Zdy ψ r a default) (h1:ψ r.Real a.X=some m) (hm:m < W64) (h2:Z5 r a=some ({ r with Real:=m },ans 0)) (hr:RecW r):Chg r a:=by
 refine ⟨0,{ r with Real:=m },ans 0,?_,h2,hr.withReal hm,Zc8,fun _=>⟨rfl,rfl⟩⟩
 rw [h]
 unfold Zdy
 rw [h1];rfl
theorem Zln (hg:Zbx r):r.Real=Zbn r.Real:=hg.2.2.2.2.2.1
theorem Z0j (h:a.Kind=13) (hr:RecW r) (hg:Zbx r) (ha:ActW a):Chg r a:=by
 obtain ⟨m,m1,m2,m3⟩:=Zv6 hr.ok.real ha.ok.2 (Zln hg) ha.xc
 refine Zmj (m:=m) (ψ:=fun x y=>Zgy x y) (by rw [h];rfl) m1 (by rcases m3 with rfl | rfl;exact hr.ok.real;exact ha.ok.2) ?_ hr
 unfold Z5 Zbo;rw [h,m2];rfl
theorem Zz3 (h:a.Kind=14) (hr:RecW r) (hg:Zbx r) (ha:ActW a):Chg r a:=by
 obtain ⟨m,m1,m2,m3⟩:=Zwh hr.ok.real ha.ok.2 (Zln hg) ha.xc
 refine Zmj (m:=m) (ψ:=fun x y=>Zgm x y) (by rw [h];rfl) m1 (by rcases m3 with rfl | rfl;exact hr.ok.real;exact ha.ok.2) ?_ hr
 unfold Z5 Zbo;rw [h,m2];rfl
theorem Zzw (h:a.Kind=15) (hr:RecW r):Chg r a:=by
 have hz:=Zxi r.Real a.X
 obtain ⟨p,p1,p2⟩:=Zpk hz
 refine Zmj (m:=Zbn (fadd r.Real a.X)) (ψ:=fun x y=>Zhe x y) (by rw [h];rfl) (by show Zhe r.Real a.X=_;unfold Zhe;rw [Zex hz];rfl) (Zrh hz) ?_ hr
 unfold Z5 Zbo;rw [h,p1]
 show ((Zd5 p).bind _)=_
 rw [p2];rfl
theorem Z0o (h:a.Kind=16) (hr:RecW r):Chg r a:=by
 have hz:=Zx8 r.Real a.X
 obtain ⟨p,p1,p2⟩:=Zpk hz
 refine Zmj (m:=Zbn (fmul r.Real a.X)) (ψ:=fun x y=>Zgl x y) (by rw [h];rfl) (by show Zgl r.Real a.X=_;unfold Zgl;rw [Zex hz];rfl) (Zrh hz) ?_ hr
 unfold Z5 Zbo;rw [h,p1]
 show ((Zd5 p).bind _)=_
 rw [p2];rfl
theorem Z4d (h:a.Kind=17) (hr:RecW r) (ha:ActW a):Chg r a:=by
 refine Zmj (m:=a.X) (ψ:=fun x y=>Zf8 x y) (by rw [h];rfl) rfl ha.ok.2 ?_ hr
 unfold Z5 Zbo;rw [h];rfl
theorem Zko (hg:Zbx r) (hk:8 ≤ r.Kind):1 ≤ r.Cap ∧ r.Cap ≤ 32 ∧ (r.List.length:Int) ≤ r.Cap:=by
 obtain ⟨h1,h2,h3,_⟩:=hg.2.2.2.2.2.2 hk
 exact ⟨h1,h2,h3⟩
theorem Z44 (h:a.Kind=20) (hr:RecW r) (hg:Zbx r) (hk:r.Kind=8):Chg r a:=by
 have hs:=Ziu hg hk
 have hl:=hr.len
 have e1:Zbd a.Kind r a default=Zf2 r a default:=by rw [h];rfl
 have e2:Z5 r a=(Zef r.List a.S).bind fun r59=>(if (!r59) then (Zq r (ans 11)) else (Zq r (ans 0))):=by unfold Z5 Zbo;rw [h];rfl
 unfold Chg
 rw [e1,e2]
 unfold Zf2 Zq
 rw [Zni hs (by omega),Zvs (by omega),Zki hs]
 simp only [Option.bind_some]
 split
 ·exact ⟨11,r,_,rfl,rfl,hr,Zc8,fun h=>by cases h⟩
 ·exact ⟨0,r,_,rfl,rfl,hr,Zc8,fun _=>⟨rfl,rfl⟩⟩
theorem Z16 (h:a.Kind=18) (hr:RecW r) (hg:Zbx r) (hk:r.Kind=8):Chg r a:=by
 have hs:=Ziu hg hk
 have hl:=hr.len
 obtain ⟨c1,c2,c3⟩:=Zko hg (by omega)
 have e1:Zbd a.Kind r a default=Zjr r a default:=by rw [h];rfl
 have e2:Z5 r a=(Zef r.List a.S).bind fun r40=>(if ((!r40) && (decide (r.Cap ≤ (r.List.length:Int)))) then (Zq r (ans 8)) else ((Zds r.List ({ Score:=(0:Nat),Name:=a.S }:Zd) true).bind fun r43=>(Zq ({ r with List:=r43 }) (ans 0)))):=by unfold Z5 Zbo;rw [h];rfl
 have hple:=Zll (fun e=>sLt e.Name a.S) r.List
 unfold Chg
 rw [e1,e2]
 unfold Zjr Zq
 rw [Zni hs (by omega),Zvs (by omega),Zki hs,Zqe (show (0:Nat) < W64 by decide) hr.ok.sc (by omega),Zkn,Znj (by omega)]
 simp only [Option.bind_some]
 by_cases hat:isAt a.S r.List=true
 ·rw [hat]
  exact ⟨0,r,_,rfl,rfl,hr,Zc8,fun _=>⟨rfl,rfl⟩⟩
 ·have hat':isAt a.S r.List=false:=by simpa using hat
  rw [hat']
  simp only [Bool.not_false,Bool.true_and,Bool.false_eq_true,if_false]
  by_cases hc:decide (r.Cap ≤ (r.List.length:Int))=true
  ·rw [if_pos hc,if_pos hc]
   exact ⟨8,r,_,rfl,rfl,hr,Zc8,fun h=>by cases h⟩
  ·rw [if_neg hc,if_neg hc]
   unfold Zb1
   rw [if_pos ⟨by omega,by omega,by simp,by simp;omega⟩]
   refine ⟨0,_,_,rfl,rfl,hr.withList (by simp;omega) fun e he=>?_,Zc8,fun _=>⟨rfl,rfl⟩⟩
   simp only [List.mem_append,List.mem_singleton,Int.toNat_natCast] at he
   rcases he with (he | rfl) | he
   ·exact hr.ok.sc e (List.mem_of_mem_take he)
   ·exact (show (0:Nat) < W64 by decide)
   ·exact hr.ok.sc e (List.mem_of_mem_drop he)
theorem Ztp (h:a.Kind=19) (hr:RecW r) (hg:Zbx r) (hk:r.Kind=8):Chg r a:=by
 have hs:=Ziu hg hk
 have hl:=hr.len
 have e1:Zbd a.Kind r a default=Zil r a default:=by rw [h];rfl
 have e2:Z5 r a=(Zcm r a (Int.toNat ((r.List.length:Int) - (0:Int)) + 1) ([]:List Zd) (0:Int)).bind fun z57=>match z57 with | y56=>(Zq ({ r with List:=y56 }) (ans 0)):=by unfold Z5 Zbo;rw [h];rfl
 have hple:=Zll (fun e=>sLt e.Name a.S) r.List
 unfold Chg
 rw [e1,e2]
 unfold Zil Zq
 have hf:=Zlh (a:=a) (a0:=r) (by omega) r.List.length 0 [] (by omega) (by simp)
 rw [show ((0:Nat):Int)=0 from rfl] at hf
 rw [Zni hs (by omega),show (Int.toNat ((r.List.length:Int) - (0:Int)) + 1)=r.List.length + 1 by omega,hf,List.drop_zero,List.nil_append,Zz2 hs,Znj (by omega)]
 simp only [Option.bind_some]
 by_cases hat:isAt a.S r.List=true
 ·have hp:pre (fun e=>sLt e.Name a.S) r.List < r.List.length:=by
   unfold isAt at hat
   cases hq:r.List[pre (fun e=>sLt e.Name a.S) r.List]? with
   | none=>rw [hq] at hat;cases hat
   | some e=>exact (List.getElem?_eq_some_iff.1 hq).1
  rw [hat]
  simp only [if_true]
  unfold Zd8
  rw [wr1 (by omega),if_pos ⟨by omega,by omega,by omega,by omega,by omega⟩]
  refine ⟨0,_,_,rfl,rfl,hr.withList (by simp;omega) fun e he=>?_,Zc8,fun _=>⟨rfl,rfl⟩⟩
  simp only [List.mem_append,Int.toNat_natCast] at he
  rcases he with he | he
  ·exact hr.ok.sc e (List.mem_of_mem_take he)
  ·exact hr.ok.sc e (List.mem_of_mem_drop he)
 ·have hat':isAt a.S r.List=false:=by simpa using hat
  rw [hat']
  exact ⟨0,r,_,rfl,rfl,hr,Zc8,fun _=>⟨rfl,rfl⟩⟩
variable {r:Za} {a:Zi}
theorem Zwf {l:Zbj} {c:Int} (h1:1 ≤ c) (h2:c ≤ 32):cut l 0 (min (l.length:Int) c)=some (l.take c.toNat):=by
 unfold cut
 rw [if_pos (by omega)]
 simp only [Int.toNat_zero,List.drop_zero,Nat.sub_zero]
 congr 1
 rcases Int.le_total (l.length:Int) c with h | h
 ·rw [Int.min_eq_left h,Int.toNat_natCast,List.take_of_length_le (Nat.le_refl _),List.take_of_length_le (by omega)]
 ·rw [Int.min_eq_right h]
theorem Zzl (h:a.Kind=21) (hr:RecW r) (hg:Zbx r) (hk:r.Kind=9) (ha:ActW a):Chg r a:=by
 have hl:=hr.len
 obtain ⟨c1,c2,c3⟩:=Zko hg (by omega)
 have e1:Zbd a.Kind r a default=Ziw r a default:=by rw [h];rfl
 have e2:Z5 r a=(Zds r.List ({ Score:=a.X,Name:=a.S }:Zd) false).bind fun r63=>(if (decide (r.Cap < (r63.length:Int))) then ((cut r63 (0:Int) r.Cap).bind fun c66=>(Zcv r c66)) else (Zcv r r63)):=by unfold Z5 Zbo;rw [h];rfl
 have hx:({ Score:=a.X,Name:=a.S }:Zd).Score < W64:=ha.ok.2
 have hple:=Zll (Zck { Score:=a.X,Name:=a.S } false) r.List
 unfold Chg
 rw [e1,e2]
 unfold Ziw
 rw [Ztq ha.ok.2 hr.ok.sc (by omega),Zqe hx hr.ok.sc (by omega),Znj (by omega)]
 simp only [Option.bind_some]
 have fin:∀ L:Zbj,L=r.List.take (pre (Zck { Score:=a.X,Name:=a.S } false) r.List) ++ [{ Score:=a.X,Name:=a.S }] ++ r.List.drop (pre (Zck { Score:=a.X,Name:=a.S } false) r.List) → layL { Score:=a.X,Name:=a.S } false r.List=L →
   ∃ c r' o,((Zb1 r.List ((pre (Zck { Score:=a.X,Name:=a.S } false) r.List:Nat):Int) ([({ Score:=a.X,Name:=a.S }:Zd)]:List Zd)).bind fun r16=>((cut r16 (0:Int) (min (r16.length:Int) r.Cap)).bind fun c18=>(some ((0:Int),({ r with List:=c18 }),(default:Ze)))))=some (c,r',o) ∧
    (if (decide (r.Cap < ((layL { Score:=a.X,Name:=a.S } false r.List).length:Int)))=true then ((cut (layL { Score:=a.X,Name:=a.S } false r.List) (0:Int) r.Cap).bind fun c66=>(Zcv r c66)) else (Zcv r (layL { Score:=a.X,Name:=a.S } false r.List)))=some (if c=0 then (r',o) else (r,ans c)) ∧ RecW r' ∧ RecW o.Rec ∧ (c=0 → o.Code=0 ∧ o.Num=0):=by
  intro L hL hlay
  have hLl:L.length=r.List.length + 1:=by rw [hL];simp;omega
  have hLs:∀ e ∈ L,e.Score < W64:=fun e he=>by
   rw [hL] at he
   simp only [List.mem_append,List.mem_singleton] at he
   rcases he with (he | rfl) | he
   ·exact hr.ok.sc e (List.mem_of_mem_take he)
   ·exact hx
   ·exact hr.ok.sc e (List.mem_of_mem_drop he)
  rw [hlay]
  unfold Zb1 Zcv Zq
  rw [if_pos ⟨by omega,by omega,by simp,by simp;omega⟩]
  simp only [Option.bind_some,Int.toNat_natCast]
  rw [← hL,Zwf c1 c2]
  refine ⟨0,{ r with List:=L.take r.Cap.toNat },ans 0,rfl,?_,hr.withList (by simp;omega) (fun e he=>hLs e (List.mem_of_mem_take he)),Zc8,fun _=>⟨rfl,rfl⟩⟩
  by_cases hc:decide (r.Cap < (L.length:Int))=true
  ·rw [if_pos hc]
   have:r.Cap < (L.length:Int):=of_decide_eq_true hc
   unfold cut
   rw [if_pos (by omega)]
   simp
  ·rw [if_neg hc]
   have:¬ r.Cap < (L.length:Int):=fun h=>hc (decide_eq_true h)
   rw [List.take_of_length_le (by omega)];rfl
 by_cases hp:pre (Zck { Score:=a.X,Name:=a.S } false) r.List < r.List.length
 ·have hd:decide (((pre (Zck { Score:=a.X,Name:=a.S } false) r.List:Nat):Int) < (r.List.length:Int))=true:=by simpa using hp
  have hat:=Zsg (List.getElem?_eq_getElem hp)
  have hb:Zb5 r.List[pre (Zck { Score:=a.X,Name:=a.S } false) r.List] { Score:=a.X,Name:=a.S }=false:=hat
  have hbs:=Zq6 hb
  rw [hd,Zdj hp]
  simp only [gd_t,Option.bind_some,Bool.true_and]
  rw [Zmw hx (hr.ok.sc _ (List.getElem_mem hp))]
  simp only [Option.bind_some]
  by_cases hs:(!Zb5 { Score:=a.X,Name:=a.S } r.List[pre (Zck { Score:=a.X,Name:=a.S } false) r.List])=true
  ·rw [if_pos hs]
   have hlay:layL { Score:=a.X,Name:=a.S } false r.List=r.List:=by
    unfold layL
    rw [List.getElem?_eq_getElem hp]
    simp only
    rw [if_pos (by rw [← hbs];exact hs),List.append_nil,List.take_append_drop]
   rw [hlay,if_neg (by simp;omega)]
   exact ⟨0,r,_,rfl,rfl,hr,Zc8,fun _=>⟨rfl,rfl⟩⟩
  ·rw [if_neg hs]
   refine fin _ rfl ?_
   unfold layL
   rw [List.getElem?_eq_getElem hp]
   simp only
   rw [if_neg (by rw [← hbs];exact hs)]
 ·have hd:decide (((pre (Zck { Score:=a.X,Name:=a.S } false) r.List:Nat):Int) < (r.List.length:Int))=false:=by simpa using hp
  rw [hd]
  simp only [gd_f,Option.bind_some,Bool.false_and,Bool.false_eq_true,if_false]
  refine fin _ rfl ?_
  unfold layL
  rw [List.getElem?_eq_none (by omega),List.take_of_length_le (by omega),List.drop_of_length_le (by omega),List.append_nil]
theorem Zlb {k:Int} (h1:1 ≤ k) (h2:k ≤ 21):∃ on,Zek k=some on ∧ Zdg k=some on ∧ (k ≤ 4 → on=0) ∧ (5 ≤ k → on ≠ 0) ∧ ((k=10 ∨ k=11) → on=4) ∧ ((k=18 ∨ k=19 ∨ k=20) → on=8) ∧ (k=21 → on=9) ∧
  ((k=5 ∨ k=6) → on=1) ∧ (k=7 → on=2) ∧ ((k=8 ∨ k=9) → on=3) ∧ (k=12 → on=4) ∧ (k=13 → on=5) ∧ (k=14 → on=6) ∧ ((k=15 ∨ k=16 ∨ k=17) → on=7):=by
 have hk':k=1 ∨ k=2 ∨ k=3 ∨ k=4 ∨ k=5 ∨ k=6 ∨ k=7 ∨ k=8 ∨ k=9 ∨ k=10 ∨ k=11 ∨ k=12 ∨ k=13 ∨ k=14 ∨ k=15 ∨ k=16 ∨ k=17 ∨ k=18 ∨ k=19 ∨ k=20 ∨ k=21:=by omega
 rcases hk' with rfl | rfl | rfl | rfl | rfl | rfl | rfl | rfl | rfl | rfl | rfl | rfl | rfl | rfl | rfl | rfl | rfl | rfl | rfl | rfl | rfl
 all_goals first
  | exact ⟨0,by kernel_rfl,by kernel_rfl,by decide⟩
  | exact ⟨1,by kernel_rfl,by kernel_rfl,by decide⟩
  | exact ⟨2,by kernel_rfl,by kernel_rfl,by decide⟩
  | exact ⟨3,by kernel_rfl,by kernel_rfl,by decide⟩
  | exact ⟨4,by kernel_rfl,by kernel_rfl,by decide⟩
  | exact ⟨5,by kernel_rfl,by kernel_rfl,by decide⟩
  | exact ⟨6,by kernel_rfl,by kernel_rfl,by decide⟩
  | exact ⟨7,by kernel_rfl,by kernel_rfl,by decide⟩
  | exact ⟨8,by kernel_rfl,by kernel_rfl,by decide⟩
  | exact ⟨9,by kernel_rfl,by kernel_rfl,by decide⟩
theorem Zsm (h5:5 ≤ a.Kind) (h21:a.Kind ≤ 21) (hr:RecW r) (hg:Zbx r) (hon:Zek a.Kind=some r.Kind) (ha:ActW a):Chg r a:=by
 obtain ⟨on,o1,_,_,_,k10,k18,k21,_⟩:=Zlb (k:=a.Kind) (by omega) h21
 rw [hon] at o1
 obtain rfl:=Option.some.inj o1
 have hk':a.Kind=5 ∨ a.Kind=6 ∨ a.Kind=7 ∨ a.Kind=8 ∨ a.Kind=9 ∨ a.Kind=10 ∨ a.Kind=11 ∨ a.Kind=12 ∨ a.Kind=13 ∨ a.Kind=14 ∨ a.Kind=15 ∨ a.Kind=16 ∨ a.Kind=17 ∨ a.Kind=18 ∨ a.Kind=19 ∨ a.Kind=20 ∨ a.Kind=21:=by omega
 rcases hk' with h | h | h | h | h | h | h | h | h | h | h | h | h | h | h | h | h
 ·exact Z48 h hr
 ·exact Z18 h hr
 ·exact Z4j h hr
 ·exact Z1l h hr ha
 ·exact Ztz (.inl h) hr
 ·exact Z63 h hr hg (k10 (.inl h)) ha
 ·exact Z5d h hr hg (k10 (.inr h)) ha
 ·exact Ztz (.inr h) hr
 ·exact Z0j h hr hg ha
 ·exact Zz3 h hr hg ha
 ·exact Zzw h hr
 ·exact Z0o h hr
 ·exact Z4d h hr ha
 ·exact Z16 h hr hg (k18 (.inl h))
 ·exact Ztp h hr hg (k18 (.inr (.inl h)))
 ·exact Z44 h hr hg (k18 (.inr (.inr h)))
 ·exact Zzl h hr hg (k21 h) ha
structure ActIn (a:Zi):Prop where
 ok:Zqf a
 n:I64 a.N
 mkr:RecW a.Make
theorem ActIn.w {a:Zi} (h:ActIn a) {c:Int} (hc:1 ≤ a.Kind ∧ a.Kind ≤ 21 ∧ a.X=Zbn a.X ∧ a.S.size ≤ 64 ∧ ((a.Kind=10 ∨ a.Kind=11) → 0 ≤ a.N ∧ a.N ≤ 2305843009213693952) ∧ (a.Kind=1 → Zd0 a.Make=some 0) ∧ (¬ (5 ≤ a.Kind ∧ a.Kind ≤ 6) → a.S.size ≤ 16) ∧ sEq a.Key ⟨#[]⟩=false ∧ a.Key.size ≤ 24):ActW a :=
 ⟨h.ok,h.n,h.mkr,hc.2.2.1,hc.2.2.2.2.1,hc.2.2.2.1,hc.2.2.2.2.2.2.1⟩
theorem Zxk {there:Bool} {r:Za} {c:Int} (hc:c ≠ 0) {on:Int} (ho:Zdg a.Kind=some on):Zdn there a r c=some (r,there,ans c):=by
 have h1:(c == 0)=false:=by simpa using hc
 have h2:(c != 0)=true:=by simpa using hc
 unfold Zdn
 simp only [h1,Bool.false_and,Bool.false_eq_true,if_false]
 unfold Zes
 simp only [h1,Bool.false_and,Bool.false_eq_true,if_false]
 unfold Zew
 rw [ho]
 simp only [h1,Bool.false_and,Bool.false_eq_true,if_false,Option.bind_some]
 unfold Zer
 rw [if_pos h2]
theorem Z43 (k:Int):∃ on,Zdg k=some on:=by
 by_cases h:k < 0 ∨ 21 < k
 ·exact ⟨0,by unfold Zdg;rw [if_pos (by simpa using h)]⟩
 ·by_cases h0:k=0
  ·exact ⟨0,by rw [h0];kernel_rfl⟩
  ·obtain ⟨on,_,h2,_⟩:=Zlb (k:=k) (by omega) (by omega)
   exact ⟨on,h2⟩
theorem Zy5 {r:Za} {there:Bool} {a:Zi} (hr:RecW r) (ha:ActIn a):∃ x is out,Zdc r there a=some (x,is,out) ∧ Zfo r there a=some (x,is,out) ∧ RecW x ∧ RecW out.Rec:=by
 suffices hs:∀ r0:Za,RecW r0 → ∃ x is out,Zeo there a r0=some (x,is,out) ∧ Zeq there a r0=some (x,is,out) ∧ RecW x ∧ RecW out.Rec by
  unfold Zdc Zfo
  cases there
  ·exact hs _ Zc8
  ·exact hs r hr
 intro r0 hr0
 unfold Zeo Zeq
 rw [Zgk hr0.len,Zm9 hr0.len]
 obtain ⟨c,h1,h2,h3⟩:=Zmv ha.ok
 obtain ⟨on,hon⟩:=Z43 a.Kind
 rw [h1,h2]
 simp only [Option.bind_some]
 by_cases hc:c=0
 ·subst hc
  have hf:=h3 rfl
  have hw:=ha.w (c:=0) hf
  obtain ⟨on2,o1,o2,o3,o4,_⟩:=Zlb hf.1 hf.2.1
  have main:(there=true → Zbx r0) → ∃ x is out,Zfv there a r0=some (x,is,out) ∧ Zdn there a r0 0=some (x,is,out) ∧ RecW x ∧ RecW out.Rec:=by
   intro hg
   unfold Zfv Zfn Zdn Zes Zew
   rw [o1,o2,Zgk hr0.len,Zgk ha.mkr.len]
   unfold Zer
   rw [Zm9 hr0.len,Zm9 ha.mkr.len]
   simp only [Option.bind_some]
   by_cases k1:a.Kind=1
   ·rw [k1,o3 (by omega)]
    cases there
    ·exact ⟨a.Make,true,ans 0,rfl,rfl,ha.mkr,Zc8⟩
    ·exact ⟨r0,true,ans 7,rfl,rfl,hr0,Zc8⟩
   ·by_cases k3:a.Kind=3
    ·rw [k3,o3 (by omega)]
     cases there
     ·exact ⟨r0,false,{ ans 0 with Num:=r0.Kind },rfl,rfl,hr0,Zc8⟩
     ·exact ⟨r0,true,{ ans 0 with Num:=r0.Kind },rfl,rfl,hr0,Zc8⟩
    ·by_cases k2:a.Kind=2
     ·rw [k2,o3 (by omega)]
      cases there
      ·exact ⟨r0,false,ans 6,rfl,rfl,hr0,Zc8⟩
      ·exact ⟨zrc,false,ans 0,rfl,rfl,Zc8,Zc8⟩
     ·by_cases k4:a.Kind=4
      ·rw [k4,o3 (by omega)]
       cases there
       ·exact ⟨r0,false,ans 6,rfl,rfl,hr0,Zc8⟩
       ·exact ⟨r0,true,{ ans 0 with Rec:=r0 },rfl,rfl,hr0,hr0⟩
      ·have h5:5 ≤ a.Kind:=by omega
       have b1:(a.Kind == 1)=false:=by simpa using k1
       have b2:(a.Kind == 2)=false:=by simpa using k2
       have b3:(a.Kind == 3)=false:=by simpa using k3
       have b4:(a.Kind == 4)=false:=by simpa using k4
       have b1':(a.Kind != 1)=true:=by simpa using k1
       have b3':(a.Kind != 3)=true:=by simpa using k3
       have bo:(on2 != 0)=true:=by simpa using o4 h5
       simp only [b1,b2,b3,b4,b1',b3',bo,Bool.false_and,Bool.and_false,Bool.and_true,Bool.true_and,Bool.false_eq_true,if_false,beq_self_eq_true]
       cases there
       ·exact ⟨r0,false,ans 6,rfl,rfl,hr0,Zc8⟩
       ·simp only [Bool.not_true,Bool.false_eq_true,if_false,Bool.and_false,Bool.false_and,beq_self_eq_true,Bool.true_and]
        by_cases hk:(on2 != r0.Kind)=true
        ·rw [if_pos hk,if_pos hk]
         exact ⟨r0,true,ans 5,rfl,rfl,hr0,Zc8⟩
        ·rw [if_neg hk,if_neg hk,if_pos ⟨h5,hf.2.1⟩]
         have hk':on2=r0.Kind:=by simpa using hk
         obtain ⟨c,r',o,e1,e2,w1,w2,_⟩:=Zsm h5 hf.2.1 hr0 (hg rfl) (by rw [← hk'];exact o1) hw
         rw [e1,e2]
         simp only [Option.bind_some]
         by_cases hc:c=0
         ·subst hc
          exact ⟨r',true,o,rfl,rfl,w1,w2⟩
         ·have hcn:(c != 0)=true:=by simpa using hc
          rw [if_pos hcn,if_neg hc]
          exact ⟨r0,true,ans c,rfl,rfl,hr0,Zc8⟩
  have z1:((0:Int) != 0)=false:=rfl
  have z2:((0:Int) == 0)=true:=rfl
  rw [z1,z2]
  simp only [Bool.false_eq_true,if_false,Bool.true_and]
  by_cases ht:there=true
  ·rw [if_pos ht,if_pos ht]
   obtain ⟨c2,g1,g2⟩:=Zkt hr0.ok
   rw [g1,g2]
   simp only [Option.bind_some]
   by_cases hc2:c2=0
   ·subst hc2
    rw [z1]
    exact main fun _=>(Zgb hr0.ok).1 g1
   ·have hcn:(c2 != 0)=true:=by simpa using hc2
    rw [if_pos hcn,Zxk hc2 o2]
    exact ⟨r0,there,ans c2,rfl,rfl,hr0,Zc8⟩
  ·rw [if_neg ht,if_neg ht]
   exact main fun h=>absurd h ht
 ·have hcn:(c != 0)=true:=by simpa using hc
  have hcz:(c == 0)=false:=by simpa using hc
  rw [if_pos hcn,hcz]
  simp only [Bool.false_and,Bool.false_eq_true,if_false]
  rw [Zxk hc hon]
  exact ⟨r0,there,ans c,rfl,rfl,hr0,Zc8⟩
theorem Zxx {x:Za} (h:Zho x):x.List.length ≤ 9223372036854775807:=by
 obtain ⟨_,_,_,_,_,_,_,h8,_⟩:=h
 simp only [maxLen] at h8;omega
theorem Zst {x:Za} (h:Zho x) (hl:x.List.length ≤ 100):RecW x:=by
 obtain ⟨h1,h2,h3,h4,h5,_,_,h8,h9⟩:=h
 exact ⟨⟨h5,by omega,fun e he=>(h9 e he).1⟩,h2,h3,h4,h1,by omega⟩
theorem eqLr:∀ l:List Zd,eqL l l=true
 | []=>rfl
 | x :: l=>by simp [eqL,eqI,Zmd,eqLr l]
theorem Z69 (a:Za):Zjz a a=true:=by simp [Zjz,Zmd,eqLr]
theorem Z1v {a:Zi} (h:Zl4 a) (hl:a.Make.List.length ≤ 100):ActIn a:=by
 obtain ⟨_,_,h3,h4,_,h6,_⟩:=h
 exact ⟨⟨(Zst h6 hl).ok,h4⟩,h3,Zst h6 hl⟩
theorem Z72 {a:Zi} (h:Zl4 a):∃ c,Zh1 a=some c ∧ (c=0 ∨ c=1) ∧ (c=0 → a.Make.List.length ≤ 100):=by
 obtain ⟨c,e1,e2,e3⟩:=Z3g (Zxx h.2.2.2.2.2.1)
 unfold Zh1
 rw [e1]
 by_cases hk:(decide ((200:Int) < (a.Key.size:Int)) || decide ((1000:Int) < (a.S.size:Int)))=true
 ·rw [hk];exact ⟨1,rfl,.inr rfl,fun h=>by cases h⟩
 ·have hk':=Bool.eq_false_iff.2 hk
  rw [hk']
  rcases e2 with rfl | rfl
  ·exact ⟨0,rfl,.inl rfl,fun _=>e3 rfl⟩
  ·exact ⟨1,rfl,.inr rfl,fun h=>by cases h⟩
theorem Zvg {f:Zd → Bool} {l:Zbj}:∀ y ∈ l.take (pre f l),f y=true:=fun y hy=>by
 obtain ⟨k,hk,rfl⟩:=List.getElem_of_mem hy
 rw [List.length_take] at hk
 obtain ⟨e,he,hf⟩:=Zv4 (f:=f) (l:=l) (k:=k) (by omega)
 rw [List.getElem?_eq_getElem (by omega)] at he
 rw [List.getElem_take]
 obtain rfl:=Option.some.inj he
 exact hf
variable {r r' r'':Za} {a:Zi} {o o':Ze} {c:Int}
theorem Zoa {r:Za} {m:Int} (hg:Zbx r) (hk:2 ≤ r.Kind ∧ r.Kind ≤ 4) (hb:r.Kind=4 → r.Low ≤ m ∧ m ≤ r.High):Zbx { r with Num:=m }:=by
 obtain ⟨g1,g2,g3,g4,g5,g6,g7⟩:=hg
 refine ⟨g1,g2,?_,g4,fun h=>⟨(g5 h).1,(g5 h).2.1,(hb h).1,(hb h).2⟩,g6,g7⟩
 unfold Zgu at *
 have:decide (2 ≤ r.Kind ∧ r.Kind ≤ 4)=true:=decide_eq_true hk
 simp only [this,Bool.true_or] at *
 exact g3
theorem Zjt {a b c:Zd} (h:Zb5 a b=true) (k:Zb5 b c=true):Zb5 a c=true:=by
 unfold Zb5 at *
 by_cases h1:keyf a.Score=keyf b.Score
 ·rw [if_pos h1] at h
  by_cases h2:keyf b.Score=keyf c.Score
  ·rw [if_pos h2] at k
   rw [if_pos (h1.trans h2)];exact Zjp h k
  ·rw [if_neg h2] at k
   rw [if_neg (by rw [h1];exact h2),h1];exact k
 ·rw [if_neg h1] at h
  have h':=of_decide_eq_true h
  by_cases h2:keyf b.Score=keyf c.Score
  ·rw [if_neg (by rw [← h2];exact h1),← h2];exact h
  ·rw [if_neg h2] at k
   have k':=of_decide_eq_true k
   rw [if_neg (by omega)];exact decide_eq_true (by omega)
def BS (l:Zbj):Prop:=l.Pairwise fun p q=>Zb5 p q=true
def Zml (k:Int) (e:Zd):Prop:=e.Name.size ≤ 16 ∧ (k=8 → keyf e.Score=keyf 0) ∧ e.Score=Zbn e.Score
theorem Zl1 {k:Int} {l:Zbj} {i:Nat} {x:Zd} (h:l[i]?=some x):Zgn k l i=0 ↔ Zml k x ∧ (0 < i → k=8 → sLt ((l[i - 1]?).getD default).Name x.Name=true) ∧ (0 < i → k=9 → Zb5 ((l[i - 1]?).getD default) x=true):=by
 unfold Zgn Zml
 rw [h]
 simp only []
 by_cases h1:(16:Int) < x.Name.size
 ·rw [if_pos h1];exact ⟨fun h=>(by cases h),fun h=>by omega⟩
 ·rw [if_neg h1]
  by_cases h2:(k=8 ∧ keyf x.Score ≠ keyf 0) ∨ x.Score ≠ Zbn x.Score
  ·rw [if_pos h2]
   refine ⟨fun h=>(by cases h),fun h=>?_⟩
   rcases h2 with ⟨a,b⟩ | b
   ·exact absurd (h.1.2.1 a) b
   ·exact absurd h.1.2.2 b
  ·rw [if_neg h2]
   have e1:k=8 → keyf x.Score=keyf 0:=fun hk=>Classical.byContradiction fun hn=>h2 (.inl ⟨hk,hn⟩)
   have e2:x.Score=Zbn x.Score:=Classical.byContradiction fun hn=>h2 (.inr hn)
   by_cases h3:0 < i ∧ k=8 ∧ sLt ((l[i - 1]?).getD default).Name x.Name=false
   ·rw [if_pos h3]
    refine ⟨fun h=>(by cases h),fun h=>?_⟩
    have:=h.2.1 h3.1 h3.2.1
    rw [h3.2.2] at this;cases this
   ·rw [if_neg h3]
    have e3:0 < i → k=8 → sLt ((l[i - 1]?).getD default).Name x.Name=true:=fun a b=>by
     cases hq:sLt ((l[i - 1]?).getD default).Name x.Name
     ·exact absurd ⟨a,b,hq⟩ h3
     ·rfl
    by_cases h4:0 < i ∧ k=9 ∧ Zb5 ((l[i - 1]?).getD default) x=false
    ·rw [if_pos h4]
     refine ⟨fun h=>(by cases h),fun h=>?_⟩
     have:=h.2.2 h4.1 h4.2.1
     rw [h4.2.2] at this;cases this
    ·rw [if_neg h4]
     refine ⟨fun _=>⟨⟨by omega,e1,e2⟩,e3,fun a b=>?_⟩,fun _=>rfl⟩
     cases hq:Zb5 ((l[i - 1]?).getD default) x
     ·exact absurd ⟨a,b,hq⟩ h4
     ·rfl
theorem Zvt {R:Zd → Zd → Prop} (ht:∀ {a b c},R a b → R b c → R a c) {l:Zbj} (step:∀ i,i + 1 < l.length → R ((l[i]?).getD default) ((l[i + 1]?).getD default)):l.Pairwise R:=by
 have far:∀ d i,i + d + 1 < l.length → R ((l[i]?).getD default) ((l[i + d + 1]?).getD default):=by
  intro d
  induction d with
  | zero=>intro i h;exact step i h
  | succ d ih=>intro i h;exact ht (ih i (by omega)) (step (i + d + 1) (by omega))
 refine List.pairwise_iff_getElem.2 fun i j hi hj hij=>?_
 have:=far (j - i - 1) i (by omega)
 rw [show i + (j - i - 1) + 1=j by omega,List.getElem?_eq_getElem hi,List.getElem?_eq_getElem hj] at this
 exact this
theorem Zv9 {R:Zd → Zd → Prop} {l:Zbj} (h:l.Pairwise R) {i:Nat} {x:Zd} (hx:l[i]?=some x) (hi:0 < i):R ((l[i - 1]?).getD default) x:=by
 obtain ⟨h1,rfl⟩:=List.getElem?_eq_some_iff.1 hx
 rw [List.getElem?_eq_getElem (by omega)]
 exact List.pairwise_iff_getElem.1 h _ _ (by omega) h1 (by omega)
theorem Zpr {k:Int} {l:Zbj}:(∀ i,i < l.length → Zgn k l i=0) ↔ (∀ e ∈ l,Zml k e) ∧ (k=8 → NS l) ∧ (k=9 → BS l):=by
 constructor
 ·intro h
  refine ⟨fun e he=>?_,fun hk=>?_,fun hk=>?_⟩
  ·obtain ⟨i,hi,rfl⟩:=List.getElem_of_mem he
   exact ((Zl1 (List.getElem?_eq_getElem hi)).1 (h i hi)).1
  ·refine Zvt (R:=fun p q=>sLt p.Name q.Name=true) (fun a b=>Zjp a b) fun i hi=>?_
   have:=((Zl1 (List.getElem?_eq_getElem hi)).1 (h (i + 1) hi)).2.1 (by omega) hk
   rw [List.getElem?_eq_getElem hi];exact this
  ·refine Zvt (R:=fun p q=>Zb5 p q=true) (fun a b=>Zjt a b) fun i hi=>?_
   have:=((Zl1 (List.getElem?_eq_getElem hi)).1 (h (i + 1) hi)).2.2 (by omega) hk
   rw [List.getElem?_eq_getElem hi];exact this
 ·intro ⟨h1,h2,h3⟩ i hi
  have hx:=List.getElem?_eq_getElem hi
  exact (Zl1 hx).2 ⟨h1 _ (List.getElem_mem hi),fun a b=>Zv9 (R:=fun p q=>sLt p.Name q.Name=true) (h2 b) hx a,fun a b=>Zv9 (R:=fun p q=>Zb5 p q=true) (h3 b) hx a⟩
theorem Zvk {r:Za} (h:Zbx r) (hk:8 ≤ r.Kind):1 ≤ r.Cap ∧ r.Cap ≤ 32 ∧ (r.List.length:Int) ≤ r.Cap ∧ (∀ e ∈ r.List,Zml r.Kind e) ∧ (r.Kind=8 → NS r.List) ∧ (r.Kind=9 → BS r.List):=by
 obtain ⟨a,b,c,d⟩:=h.2.2.2.2.2.2 hk
 exact ⟨a,b,c,Zpr.1 d⟩
theorem Zlx {r:Za} {l:Zbj} (h:Zbx r) (hk:8 ≤ r.Kind) (h1:(l.length:Int) ≤ r.Cap) (h2:∀ e ∈ l,Zml r.Kind e) (h3:r.Kind=8 → NS l) (h4:r.Kind=9 → BS l):Zbx { r with List:=l }:=by
 obtain ⟨g1,g2,g3,g4,g5,g6,g7⟩:=h
 refine ⟨g1,g2,?_,g4,g5,g6,fun hk=>⟨(g7 hk).1,(g7 hk).2.1,h1,Zpr.2 ⟨h2,h3,h4⟩⟩⟩
 unfold Zgu at *
 have:decide (8 ≤ r.Kind)=true:=decide_eq_true hk
 simp only [this,Bool.true_or] at *
 exact g3
theorem Zoz {r:Za} {t:ByteArray} (h:Zbx r) (hk:r.Kind=1) (h1:t.size ≤ 64):Zbx { r with Text:=t }:=by
 obtain ⟨g1,g2,g3,g4,g5,g6,g7⟩:=h
 refine ⟨g1,g2,?_,h1,g5,g6,g7⟩
 unfold Zgu at *
 have:decide (r.Kind=1)=true:=decide_eq_true hk
 simp only [this,Bool.true_or,Bool.true_and] at *
 exact g3
theorem Zuc {r:Za} {x:Nat} (h:Zbx r) (hk:5 ≤ r.Kind ∧ r.Kind ≤ 7) (h1:x=Zbn x):Zbx { r with Real:=x }:=by
 obtain ⟨g1,g2,g3,g4,g5,g6,g7⟩:=h
 refine ⟨g1,g2,?_,g4,g5,h1,g7⟩
 unfold Zgu at *
 have:decide (5 ≤ r.Kind ∧ r.Kind ≤ 7)=true:=decide_eq_true hk
 simp only [this,Bool.true_or] at *
 exact g3
variable {r r':Za} {a:Zi} {o:Ze}
theorem Zlq {ψ:Nat → Nat → Option Nat} (hg:Zbx r) (hk:5 ≤ r.Kind ∧ r.Kind ≤ 7) (hψ:∀ m,ψ r.Real a.X=some m → m=Zbn m) (e:Zbd a.Kind r a default=Zdy ψ r a default) (h1:Zbd a.Kind r a default=some (0,r',o)):Zbx r':=by
 rw [e] at h1
 unfold Zdy at h1
 obtain ⟨m,m1,m2⟩:=Option.bind_eq_some_iff.1 h1
 simp only [Option.some.injEq,Prod.mk.injEq] at m2
 obtain ⟨_,rfl,_⟩:=m2
 exact Zuc hg hk (hψ m m1)
theorem Zzt (h:a.Kind=18) (hr:RecW r) (hg:Zbx r) (hk:r.Kind=8) (ha:ActW a) (h1:Zbd a.Kind r a default=some (0,r',o)):Zbx r':=by
 have e:Zbd a.Kind r a default=Zjr r a default:=by rw [h];rfl
 obtain ⟨c1,c2,c3,c4,c5,_⟩:=Zvk hg (by omega)
 have hs:=c5 hk
 have hl:=hr.len
 have hple:=Zll (fun e=>sLt e.Name a.S) r.List
 rw [e] at h1
 unfold Zjr at h1
 rw [Zni hs (by omega),Znj (by omega)] at h1
 simp only [Option.bind_some] at h1
 by_cases hat:isAt a.S r.List=true
 ·rw [if_pos hat] at h1
  simp only [Option.some.injEq,Prod.mk.injEq,true_and] at h1
  rw [← h1.1];exact hg
 ·rw [if_neg hat] at h1
  by_cases hc:decide (r.Cap ≤ (r.List.length:Int))=true
  ·rw [if_pos hc] at h1;cases h1
  ·rw [if_neg hc] at h1
   have hc':¬ r.Cap ≤ (r.List.length:Int):=by simpa using hc
   unfold Zb1 at h1
   rw [if_pos ⟨by omega,by omega,by simp,by simp;omega⟩] at h1
   simp only [Option.bind_some,Option.some.injEq,Prod.mk.injEq,true_and,Int.toNat_natCast] at h1
   obtain ⟨rfl,_⟩:=h1
   have hbehind:∀ y ∈ r.List.drop (pre (fun e=>sLt e.Name a.S) r.List),sLt a.S y.Name=true:=fun y hy=>by
    obtain ⟨k,hk,rfl⟩:=List.getElem_of_mem hy
    rw [List.length_drop] at hk
    rw [List.getElem_drop]
    have hm:=Zra (s:=a.S) hs (k:=pre (fun e=>sLt e.Name a.S) r.List + k) (by omega)
    rw [show decide (pre (fun e=>sLt e.Name a.S) r.List + k < pre (fun e=>sLt e.Name a.S) r.List)=false by simp] at hm
    refine Zs0 hm fun hn=>?_
    have hany:=Zki (s:=a.S) hs
    rw [show isAt a.S r.List=false by simpa using hat,List.any_eq_false] at hany
    exact hany _ (List.getElem_mem _) (Zhn.2 hn)
   refine Zlx hg (by omega) (by simp;omega) (fun e he=>?_) (fun _=>?_) (fun h=>by omega)
   ·simp only [List.mem_append,List.mem_singleton] at he
    rcases he with (he | rfl) | he
    ·exact c4 e (List.mem_of_mem_take he)
    ·exact ⟨ha.s16 (by omega),fun _=>rfl,by kernel_rfl⟩
    ·exact c4 e (List.mem_of_mem_drop he)
   ·unfold NS at *
    rw [List.append_assoc,List.pairwise_append]
    refine ⟨hs.sublist (List.take_sublist _ _),?_,fun x hx y hy=>?_⟩
    ·rw [List.singleton_append,List.pairwise_cons]
     exact ⟨hbehind,hs.sublist (List.drop_sublist _ _)⟩
    ·have hxa:sLt x.Name a.S=true:=Zvg (f:=fun e=>sLt e.Name a.S) x hx
     rcases List.mem_append.1 hy with hy | hy
     ·rw [List.mem_singleton.1 hy];exact hxa
     ·exact Zjp hxa (hbehind y hy)
theorem Zyx (h:a.Kind=19) (hr:RecW r) (hg:Zbx r) (hk:r.Kind=8) (h1:Zbd a.Kind r a default=some (0,r',o)):Zbx r':=by
 obtain ⟨c1,c2,c3,c4,c5,_⟩:=Zvk hg (by omega)
 have hl:=hr.len
 obtain ⟨c,x,y,d1,d2,_⟩:=Ztp h hr hg hk
 rw [h1] at d1
 simp only [Option.some.injEq,Prod.mk.injEq] at d1
 obtain ⟨rfl,rfl,rfl⟩:=d1
 have e2:Z5 r a=(Zcm r a (Int.toNat ((r.List.length:Int) - (0:Int)) + 1) ([]:List Zd) (0:Int)).bind fun z57=>match z57 with | y56=>(Zq ({ r with List:=y56 }) (ans 0)):=by unfold Z5 Zbo;rw [h];rfl
 have hf:=Zlh (a:=a) (a0:=r) (by omega) r.List.length 0 [] (by omega) (by simp)
 rw [show ((0:Nat):Int)=0 from rfl] at hf
 rw [e2,show (Int.toNat ((r.List.length:Int) - (0:Int)) + 1)=r.List.length + 1 by omega,hf,List.drop_zero,List.nil_append] at d2
 simp only [Option.bind_some,Zq,if_true,Option.some.injEq,Prod.mk.injEq] at d2
 obtain ⟨rfl,_⟩:=d2
 have hle:=List.length_filter_le (fun e:Zd=>!sEq e.Name a.S) r.List
 exact Zlx hg (by omega) (by omega) (fun e he=>c4 e (List.mem_filter.1 he).1) (fun _=>List.Pairwise.sublist List.filter_sublist (c5 hk)) (fun h=>by omega)
theorem Zzb (h:a.Kind=21) (hr:RecW r) (hg:Zbx r) (hk:r.Kind=9) (ha:ActW a) (h1:Zbd a.Kind r a default=some (0,r',o)):Zbx r':=by
 have e:Zbd a.Kind r a default=Ziw r a default:=by rw [h];rfl
 obtain ⟨c1,c2,c3,c4,_,c6⟩:=Zvk hg (by omega)
 have hs:=c6 hk
 have hl:=hr.len
 have hple:=Zll (Zck { Score:=a.X,Name:=a.S } false) r.List
 rw [e] at h1
 unfold Ziw at h1
 rw [Ztq ha.ok.2 hr.ok.sc (by omega),Znj (by omega)] at h1
 simp only [Option.bind_some] at h1
 obtain ⟨e9,g9,h1⟩:=Option.bind_eq_some_iff.1 h1
 obtain ⟨r11,g11,h1⟩:=Option.bind_eq_some_iff.1 h1
 split at h1
 ·simp only [Option.some.injEq,Prod.mk.injEq,true_and] at h1
  rw [← h1.1];exact hg
 ·rename_i hcond
  unfold Zb1 at h1
  rw [if_pos ⟨by omega,by omega,by simp,by simp;omega⟩] at h1
  simp only [Option.bind_some] at h1
  rw [Zwf c1 c2] at h1
  simp only [Option.bind_some,Option.some.injEq,Prod.mk.injEq,true_and,Int.toNat_natCast] at h1
  obtain ⟨rfl,_⟩:=h1
  have hbehind:∀ y ∈ r.List.drop (pre (Zck { Score:=a.X,Name:=a.S } false) r.List),Zb5 { Score:=a.X,Name:=a.S } y=true:=fun y hy=>by
   have hp:pre (Zck { Score:=a.X,Name:=a.S } false) r.List < r.List.length:=by
    have:=List.length_pos_of_mem hy
    rw [List.length_drop] at this;omega
   have hd:decide (((pre (Zck { Score:=a.X,Name:=a.S } false) r.List:Nat):Int) < (r.List.length:Int))=true:=by simpa using hp
   rw [hd,Zdj hp] at g9
   simp only [gd_t,Option.some.injEq] at g9
   subst g9
   rw [hd] at g11 hcond
   simp only [gd_t] at g11
   rw [Zmw ha.ok.2 (hr.ok.sc _ (List.getElem_mem hp))] at g11
   have hb:Zb5 { Score:=a.X,Name:=a.S } r.List[pre (Zck { Score:=a.X,Name:=a.S } false) r.List]=true:=by
    have:=Option.some.inj g11
    rw [← this] at hcond
    simpa using hcond
   rw [List.drop_eq_getElem_cons hp] at hy
   rcases List.mem_cons.1 hy with rfl | hy
   ·exact hb
   ·refine Zjt hb ?_
    have hpw:(r.List.drop (pre (Zck { Score:=a.X,Name:=a.S } false) r.List)).Pairwise fun p q=>Zb5 p q=true:=List.Pairwise.sublist (List.drop_sublist _ _) hs
    rw [List.drop_eq_getElem_cons hp,List.pairwise_cons] at hpw
    exact hpw.1 y hy
  refine Zlx hg (by omega) (by rw [List.length_take];omega) (fun e he=>?_) (fun h=>by omega) (fun _=>?_)
  ·have he:=List.mem_of_mem_take he
   simp only [List.mem_append,List.mem_singleton] at he
   rcases he with (he | rfl) | he
   ·exact c4 e (List.mem_of_mem_take he)
   ·exact ⟨ha.s16 (by omega),fun h=>by omega,ha.xc⟩
   ·exact c4 e (List.mem_of_mem_drop he)
  ·refine List.Pairwise.sublist (List.take_sublist _ _) ?_
   rw [List.append_assoc,List.pairwise_append]
   refine ⟨List.Pairwise.sublist (List.take_sublist _ _) hs,?_,fun x hx y hy=>?_⟩
   ·rw [List.singleton_append,List.pairwise_cons]
    exact ⟨hbehind,List.Pairwise.sublist (List.drop_sublist _ _) hs⟩
   ·have hxa:Zb5 x { Score:=a.X,Name:=a.S }=true:=Zvg (f:=Zck { Score:=a.X,Name:=a.S } false) x hx
    rcases List.mem_append.1 hy with hy | hy
    ·rw [List.mem_singleton.1 hy];exact hxa
    ·exact Zjt hxa (hbehind y hy)
theorem Zhi {k on:Int} {c:Int} (h:Zek k=some on) (e:Zek k=some c):on=c:=Option.some.inj (h.symm.trans e)
theorem Z1w (h5:5 ≤ a.Kind) (h21:a.Kind ≤ 21) (hon:Zek a.Kind=some r.Kind) (hr:RecW r) (hg:Zbx r) (ha:ActW a) (h1:Zbd a.Kind r a default=some (0,r',o)):Zbx r':=by
 have real:∀ {m:Nat},m=r.Real ∨ m=a.X → m=Zbn m:=fun {m} h=>by
  rcases h with rfl | rfl
  ·exact Zln hg
  ·exact ha.xc
 have hk':a.Kind=5 ∨ a.Kind=6 ∨ a.Kind=7 ∨ a.Kind=8 ∨ a.Kind=9 ∨ a.Kind=10 ∨ a.Kind=11 ∨ a.Kind=12 ∨ a.Kind=13 ∨ a.Kind=14 ∨ a.Kind=15 ∨ a.Kind=16 ∨ a.Kind=17 ∨ a.Kind=18 ∨ a.Kind=19 ∨ a.Kind=20 ∨ a.Kind=21:=by omega
 rcases hk' with h | h | h | h | h | h | h | h | h | h | h | h | h | h | h | h | h
 ·have e:Zbd a.Kind r a default=Zim r a default:=by rw [h];rfl
  rw [e] at h1
  simp only [Zim,Option.some.injEq,Prod.mk.injEq,true_and] at h1
  rw [← h1.1]
  exact Zoz hg (Zhi hon (by rw [h];kernel_rfl)) ha.s64
 ·have e:Zbd a.Kind r a default=Zf6 r a default:=by rw [h];rfl
  rw [e] at h1
  simp only [Zf6,Zgk hr.len,Option.bind_some,Option.some.injEq,Prod.mk.injEq,true_and] at h1
  rw [← h1.1]
  exact Zoz hg (Zhi hon (by rw [h];kernel_rfl)) ha.s64
 ·have e:Zbd a.Kind r a default=Zij r a default:=by rw [h];rfl
  rw [e] at h1
  simp only [Zij,Option.some.injEq,Prod.mk.injEq,true_and] at h1
  rw [← h1.1]
  have hk:r.Kind=2:=Zhi hon (by rw [h];kernel_rfl)
  exact Zoa hg (by omega) (fun h=>by omega)
 ·have e:Zbd a.Kind r a default=Zji r a default:=by rw [h];rfl
  rw [e] at h1
  unfold Zji at h1
  split at h1
  ·cases h1
  ·simp only [Option.some.injEq,Prod.mk.injEq,true_and] at h1
   rw [← h1.1]
   have hk:r.Kind=3:=Zhi hon (by rw [h];kernel_rfl)
   exact Zoa hg (by omega) (fun h=>by omega)
 ·have e:Zbd a.Kind r a default=Ze8 r a default:=by rw [h];rfl
  rw [e] at h1
  unfold Ze8 at h1
  split at h1
  ·cases h1
  ·simp only [Option.some.injEq,Prod.mk.injEq,true_and] at h1
   rw [← h1.1];exact hg
 ·have e:Zbd a.Kind r a default=Zf9 r a default:=by rw [h];rfl
  have hk:r.Kind=4:=Zhi hon (by rw [h];kernel_rfl)
  obtain ⟨p1,p2,p3,p4⟩:=Zm0 hg hk
  obtain ⟨q1,q2⟩:=ha.inout (.inl h)
  rw [e] at h1
  unfold Zf9 at h1
  rw [wr (x:=r.High - r.Num) (by omega) (by omega),wr (x:=r.Num + a.N) (by omega) (by omega)] at h1
  split at h1
  ·cases h1
  ·rename_i hcond
   have hcond':¬ (r.High - r.Num < a.N):=by simpa using hcond
   simp only [Option.some.injEq,Prod.mk.injEq,true_and] at h1
   rw [← h1.1]
   exact Zoa hg (by omega) (fun _=>by omega)
 ·have e:Zbd a.Kind r a default=Zf5 r a default:=by rw [h];rfl
  have hk:r.Kind=4:=Zhi hon (by rw [h];kernel_rfl)
  obtain ⟨p1,p2,p3,p4⟩:=Zm0 hg hk
  obtain ⟨q1,q2⟩:=ha.inout (.inr h)
  rw [e] at h1
  unfold Zf5 at h1
  rw [wr (x:=r.Num - r.Low) (by omega) (by omega),wr (x:=r.Num - a.N) (by omega) (by omega)] at h1
  split at h1
  ·cases h1
  ·rename_i hcond
   have hcond':¬ (r.Num - r.Low < a.N):=by simpa using hcond
   simp only [Option.some.injEq,Prod.mk.injEq,true_and] at h1
   rw [← h1.1]
   exact Zoa hg (by omega) (fun _=>by omega)
 ·have e:Zbd a.Kind r a default=Ze8 r a default:=by rw [h];rfl
  rw [e] at h1
  unfold Ze8 at h1
  split at h1
  ·cases h1
  ·simp only [Option.some.injEq,Prod.mk.injEq,true_and] at h1
   rw [← h1.1];exact hg
 ·have hk:r.Kind=5:=Zhi hon (by rw [h];kernel_rfl)
  refine Zlq (ψ:=fun x y=>Zgy x y) hg (by omega) (fun m hm=>?_) (by rw [h];rfl) h1
  obtain ⟨m',e1,_,e2⟩:=Zv6 hr.ok.real ha.ok.2 (Zln hg) ha.xc
  have:m=m':=Option.some.inj (hm.symm.trans e1)
  exact real (this ▸ e2)
 ·have hk:r.Kind=6:=Zhi hon (by rw [h];kernel_rfl)
  refine Zlq (ψ:=fun x y=>Zgm x y) hg (by omega) (fun m hm=>?_) (by rw [h];rfl) h1
  obtain ⟨m',e1,_,e2⟩:=Zwh hr.ok.real ha.ok.2 (Zln hg) ha.xc
  have:m=m':=Option.some.inj (hm.symm.trans e1)
  exact real (this ▸ e2)
 ·have hk:r.Kind=7:=Zhi hon (by rw [h];kernel_rfl)
  refine Zlq (ψ:=fun x y=>Zhe x y) hg (by omega) (fun m hm=>?_) (by rw [h];rfl) h1
  have hz:=Zxi r.Real a.X
  have:Zhe r.Real a.X=some (Zbn (fadd r.Real a.X)):=by unfold Zhe;rw [Zex hz];rfl
  have:m=Zbn (fadd r.Real a.X):=Option.some.inj (hm.symm.trans this)
  rw [this,Zqx]
 ·have hk:r.Kind=7:=Zhi hon (by rw [h];kernel_rfl)
  refine Zlq (ψ:=fun x y=>Zgl x y) hg (by omega) (fun m hm=>?_) (by rw [h];rfl) h1
  have hz:=Zx8 r.Real a.X
  have:Zgl r.Real a.X=some (Zbn (fmul r.Real a.X)):=by unfold Zgl;rw [Zex hz];rfl
  have:m=Zbn (fmul r.Real a.X):=Option.some.inj (hm.symm.trans this)
  rw [this,Zqx]
 ·have hk:r.Kind=7:=Zhi hon (by rw [h];kernel_rfl)
  refine Zlq (ψ:=fun x y=>Zf8 x y) hg (by omega) (fun m hm=>?_) (by rw [h];rfl) h1
  exact real (.inr (Option.some.inj hm).symm)
 ·exact Zzt h hr hg (Zhi hon (by rw [h];kernel_rfl)) ha h1
 ·exact Zyx h hr hg (Zhi hon (by rw [h];kernel_rfl)) h1
 ·have hk:r.Kind=8:=Zhi hon (by rw [h];kernel_rfl)
  have e:Zbd a.Kind r a default=Zf2 r a default:=by rw [h];rfl
  have hl:=hr.len
  rw [e] at h1
  unfold Zf2 at h1
  rw [Zni (Ziu hg hk) (by omega)] at h1
  simp only [Option.bind_some] at h1
  split at h1
  ·cases h1
  ·simp only [Option.some.injEq,Prod.mk.injEq,true_and] at h1
   rw [← h1.1];exact hg
 ·exact Zzb h hr hg (Zhi hon (by rw [h];kernel_rfl)) ha h1
theorem Z1p {r:Za} {a:Zi} (hr:RecW r) (hg:Zbx r) (ha:ActIn a):∃ c,Ze1 a=some c ∧ (c ≠ 0 → Zdc r true a=some (r,true,ans c)) ∧
  (c=0 → 1 ≤ a.Kind ∧ a.Kind ≤ 21 ∧ ActW a ∧ ∃ on,Zek a.Kind=some on ∧ (a.Kind=1 → Zdc r true a=some (r,true,ans 7)) ∧ (a.Kind=2 → Zdc r true a=some (zrc,false,ans 0)) ∧
   (a.Kind=3 → Zdc r true a=some (r,true,{ ans 0 with Num:=r.Kind })) ∧ (a.Kind=4 → Zdc r true a=some (r,true,{ ans 0 with Rec:=r })) ∧ (5 ≤ a.Kind → on ≠ r.Kind → Zdc r true a=some (r,true,ans 5)) ∧
   (5 ≤ a.Kind → on=r.Kind → ∃ c r' o,Zbd a.Kind r a default=some (c,r',o) ∧ RecW r' ∧ RecW o.Rec ∧ (c=0 → o.Code=0 ∧ o.Num=0) ∧ Zdc r true a=some (if c=0 then (r',true,o) else (r,true,ans c)))):=by
 obtain ⟨c,h1,_,h3⟩:=Zmv ha.ok
 have z1:((0:Int) != 0)=false:=rfl
 refine ⟨c,h1,fun hc=>?_,fun hc=>?_⟩
 ·show Zeo true a r=_
  unfold Zeo
  rw [Zgk hr.len,h1]
  simp only [Option.bind_some]
  rw [if_pos (by simpa using hc)]
  rfl
 ·subst hc
  have hf:=h3 rfl
  have hw:=ha.w (c:=0) hf
  obtain ⟨on,o1,_⟩:=Zlb hf.1 hf.2.1
  have e1:Zdc r true a=Zfv true a r:=by
   show Zeo true a r=_
   unfold Zeo
   rw [Zgk hr.len,h1]
   simp only [Option.bind_some,z1,Bool.false_eq_true,if_false,if_true]
   rw [(Zgb hr.ok).2 hg]
   simp only [Option.bind_some,z1,Bool.false_eq_true,if_false]
  refine ⟨hf.1,hf.2.1,hw,on,o1,?_⟩
  rw [e1]
  unfold Zfv Zfn
  rw [o1,Zgk hr.len,Zgk ha.mkr.len]
  simp only [Option.bind_some]
  refine ⟨fun k=>by rw [k];rfl,fun k=>by rw [k];rfl,fun k=>by rw [k];rfl,fun k=>by rw [k];rfl,fun k hn=>?_,fun k hn=>?_⟩
  all_goals
   have b1:(a.Kind == 1)=false:=by simp;omega
   have b2:(a.Kind == 2)=false:=by simp;omega
   have b3:(a.Kind == 3)=false:=by simp;omega
   have b4:(a.Kind == 4)=false:=by simp;omega
   simp only [b1,b2,b3,b4,Bool.false_and,Bool.false_eq_true,if_false,Bool.not_true]
  ·rw [if_pos (by simpa using hn)]
  ·rw [if_neg (by simpa using hn),if_pos ⟨k,hf.2.1⟩]
   obtain ⟨c,r',o,e1,_,w1,w2,w3⟩:=Zsm k hf.2.1 hr hg (by rw [← hn];exact o1) hw
   rw [e1]
   refine ⟨c,r',o,rfl,w1,w2,w3,?_⟩
   simp only [Option.bind_some]
   by_cases hc:c=0
   ·subst hc;rfl
   ·rw [if_pos (by simpa using hc),if_neg hc]
def eff (r:Za) (a:Zi):Za :=
 if a.Kind=7 ∨ a.Kind=8 ∨ a.Kind=10 then { r with Num:=IntKind.i64.wrap (r.Num + a.N) }
 else if a.Kind=11 then { r with Num:=IntKind.i64.wrap (r.Num - a.N) }
 else if a.Kind=13 then { r with Real:=if keyf r.Real < keyf a.X then a.X else r.Real }
 else if a.Kind=14 then { r with Real:=if keyf a.X < keyf r.Real then a.X else r.Real }
 else if a.Kind=18 then { r with List:=layL { Score:=0,Name:=a.S } true r.List }
 else if a.Kind=19 then { r with List:=r.List.filter fun e=>!sEq e.Name a.S }
 else if a.Kind=21 then { r with List:=(layL { Score:=a.X,Name:=a.S } false r.List).take r.Cap.toNat }
 else r
def Zkd (k:Int):Prop:=k=7 ∨ k=8 ∨ k=10 ∨ k=11 ∨ k=13 ∨ k=14 ∨ k=18 ∨ k=19 ∨ k=21
structure Fits (r:Za) (a:Zi):Prop where
 plus:a.Kind=8 → -9223372036854775808 ≤ r.Num + a.N ∧ r.Num + a.N ≤ 9223372036854775807
 inn:a.Kind=10 → r.Num + a.N ≤ r.High
 out:a.Kind=11 → r.Low ≤ r.Num - a.N
 join:a.Kind=18 → isAt a.S r.List=true ∨ (r.List.length:Int) < r.Cap
theorem Zk7 (r:Za) (a:Zi):(eff r a).Kind=r.Kind ∧ (eff r a).Cap=r.Cap ∧ (eff r a).Low=r.Low ∧ (eff r a).High=r.High ∧ (eff r a).Text=r.Text:=by
 unfold eff
 repeat' split
 all_goals exact ⟨rfl,rfl,rfl,rfl,rfl⟩
theorem Z5j {a b:Nat} (ha:a < W64) (hb:b < W64):Zfk a b=some (if keyf a < keyf b then b else a):=by
 unfold Zfk
 rw [Zkh ha hb]
 by_cases h:keyf a < keyf b <;> simp [h]
theorem Z5l {a b:Nat} (ha:a < W64) (hb:b < W64):Zfl a b=some (if keyf b < keyf a then b else a):=by
 unfold Zfl
 rw [Zkh hb ha]
 by_cases h:keyf b < keyf a <;> simp [h]
theorem Z6h {r:Za} {a:Zi} (hr:RecW r) (hg:Zbx r) (ha:ActW a) (hk:Zkd a.Kind) (hon:Zek a.Kind=some r.Kind) (hf:Fits r a):Z5 r a=some (eff r a,ans 0):=by
 have hlen:=hr.len
 obtain ⟨on,o1,_,_,_,k10,k18,k21,_⟩:=Zlb (k:=a.Kind) (by unfold Zkd at hk;omega) (by unfold Zkd at hk;omega)
 rw [hon] at o1
 obtain rfl:=Option.some.inj o1
 rcases hk with h | h | h | h | h | h | h | h | h
 ·unfold Z5 eff;rw [h];rfl
 ·have e2:Z5 r a=(Zfe r.Num a.N).bind fun r7=>(if r7 then (Zq r (ans 9)) else (Zq { r with Num:=IntKind.i64.wrap (r.Num + a.N) } (ans 0))):=by unfold Z5;rw [h];rfl
  obtain ⟨f1,f2⟩:=hf.plus h
  have hn:=ha.n
  have hrn:=hr.num
  unfold I64 at hn hrn
  have ho:((((decide ((0:Int) < r.Num)) && (decide ((0:Int) < a.N))) && (decide ((IntKind.i64.wrap (r.Num + a.N)) < (0:Int)))) || (((decide (r.Num < (0:Int))) && (decide (a.N < (0:Int)))) && (decide ((0:Int) ≤ (IntKind.i64.wrap (r.Num + a.N))))))=false:=by
   rw [wr f1 f2,Bool.eq_false_iff]
   simp only [ne_eq,Bool.or_eq_true,Bool.and_eq_true,decide_eq_true_eq]
   omega
  rw [e2]
  unfold Zfe
  rw [ho]
  unfold eff Zq
  rw [h];rfl
 ·have e2:Z5 r a=(if (decide (r.High < IntKind.i64.wrap (r.Num + a.N))) then (Zq r (ans 9)) else (Zq { r with Num:=IntKind.i64.wrap (r.Num + a.N) } (ans 0))):=by unfold Z5 Zbo;rw [h];rfl
  obtain ⟨p1,p2,p3,p4⟩:=Zm0 hg (k10 (.inl h))
  obtain ⟨n1,n2⟩:=ha.inout (.inl h)
  have f:=hf.inn h
  rw [e2,if_neg (by rw [wr (by omega) (by omega)];simp;omega)]
  unfold eff Zq
  rw [h];rfl
 ·have e2:Z5 r a=(if (decide (IntKind.i64.wrap (r.Num - a.N) < r.Low)) then (Zq r (ans 10)) else (Zq { r with Num:=IntKind.i64.wrap (r.Num - a.N) } (ans 0))):=by unfold Z5 Zbo;rw [h];rfl
  obtain ⟨p1,p2,p3,p4⟩:=Zm0 hg (k10 (.inr h))
  obtain ⟨n1,n2⟩:=ha.inout (.inr h)
  have f:=hf.out h
  rw [e2,if_neg (by rw [wr (by omega) (by omega)];simp;omega)]
  unfold eff Zq
  rw [h];rfl
 ·unfold Z5 Zbo eff;rw [h,Z5j hr.ok.real ha.ok.2];rfl
 ·unfold Z5 Zbo eff;rw [h,Z5l hr.ok.real ha.ok.2];rfl
 ·have e2:Z5 r a=(Zef r.List a.S).bind fun r40=>(if ((!r40) && (decide (r.Cap ≤ (r.List.length:Int)))) then (Zq r (ans 8)) else ((Zds r.List ({ Score:=(0:Nat),Name:=a.S }:Zd) true).bind fun r43=>(Zq ({ r with List:=r43 }) (ans 0)))):=by unfold Z5 Zbo;rw [h];rfl
  have hs:=Ziu hg (k18 (.inl h))
  have hff:((!isAt a.S r.List) && (decide (r.Cap ≤ (r.List.length:Int))))=false:=by
   rcases hf.join h with f | f
   ·rw [f];rfl
   ·rw [show decide (r.Cap ≤ (r.List.length:Int))=false by simp;omega,Bool.and_false]
  rw [e2,Zvs (by omega),Zki hs,Zqe (show (0:Nat) < W64 by decide) hr.ok.sc (by omega)]
  simp only [Option.bind_some]
  rw [hff]
  unfold eff Zq
  rw [h];rfl
 ·have e2:Z5 r a=(Zcm r a (Int.toNat ((r.List.length:Int) - (0:Int)) + 1) ([]:List Zd) (0:Int)).bind fun z57=>match z57 with | y56=>(Zq ({ r with List:=y56 }) (ans 0)):=by unfold Z5 Zbo;rw [h];rfl
  have hq:=Zlh (a:=a) (a0:=r) (by omega) r.List.length 0 [] (by omega) (by simp)
  rw [show ((0:Nat):Int)=0 from rfl] at hq
  rw [e2,show (Int.toNat ((r.List.length:Int) - (0:Int)) + 1)=r.List.length + 1 by omega,hq,List.drop_zero,List.nil_append]
  unfold eff Zq
  rw [h];rfl
 ·have e2:Z5 r a=(Zds r.List ({ Score:=a.X,Name:=a.S }:Zd) false).bind fun r63=>(if (decide (r.Cap < (r63.length:Int))) then ((cut r63 (0:Int) r.Cap).bind fun c66=>(Zcv r c66)) else (Zcv r r63)):=by unfold Z5 Zbo;rw [h];rfl
  obtain ⟨c1,c2,c3⟩:=Zko hg (by omega)
  rw [e2,Zqe ha.ok.2 hr.ok.sc (by omega)]
  simp only [Option.bind_some]
  have he:eff r a={ r with List:=(layL { Score:=a.X,Name:=a.S } false r.List).take r.Cap.toNat }:=by unfold eff;rw [h];rfl
  rw [he]
  by_cases hc:r.Cap < ((layL { Score:=a.X,Name:=a.S } false r.List).length:Int)
  ·rw [if_pos (by simpa using hc)]
   unfold cut
   rw [if_pos (by omega)]
   simp only [Option.bind_some,Zcv,Zq,Int.toNat_zero,List.drop_zero,Nat.sub_zero]
  ·rw [if_neg (by simpa using hc),List.take_of_length_le (by omega)]
   rfl
theorem Zyh {r:Za} {a:Zi} (hr:RecW r) (hg:Zbx r) (ha:ActW a) (hk:Zkd a.Kind) (hon:Zek a.Kind=some r.Kind) (hf:Fits r a):Zbd a.Kind r a default=some (0,eff r a,ans 0) ∧ RecW (eff r a) ∧ Zbx (eff r a):=by
 obtain ⟨c,r',o,e1,e2,w1,_⟩:=Zsm (by unfold Zkd at hk;omega) (by unfold Zkd at hk;omega) hr hg hon ha
 rw [Z6h hr hg ha hk hon hf] at e2
 by_cases hc:c=0
 ·subst hc
  rw [if_pos rfl] at e2
  simp only [Option.some.injEq,Prod.mk.injEq] at e2
  obtain ⟨rfl,rfl⟩:=e2
  exact ⟨e1,w1,Z1w (by unfold Zkd at hk;omega) (by unfold Zkd at hk;omega) hon hr hg ha e1⟩
 ·rw [if_neg hc] at e2
  simp only [Option.some.injEq,Prod.mk.injEq,Ze.mk.injEq] at e2
  exact absurd e2.2.1.symm hc
theorem Zz1 {r:Za} {a:Zi} (hr:RecW r) (hg:Zbx r) (ha:ActIn a) (h0:Ze1 a=some 0) (hk:Zkd a.Kind) (hon:Zek a.Kind=some r.Kind) (hf:Fits r a):Zdc r true a=some (eff r a,true,ans 0) ∧ RecW (eff r a) ∧ Zbx (eff r a):=by
 have h5:5 ≤ a.Kind:=by unfold Zkd at hk;omega
 obtain ⟨c,h1,_,h3⟩:=Z1p hr hg ha
 rw [h0] at h1
 obtain rfl:=Option.some.inj h1
 obtain ⟨_,_,hw,on,o1,_,_,_,_,_,h4⟩:=h3 rfl
 rw [hon] at o1
 obtain ⟨c,r',o,e1,_,_,_,e2⟩:=h4 h5 (Option.some.inj o1).symm
 obtain ⟨e3,w,g⟩:=Zyh hr hg hw hk hon hf
 rw [e3] at e1
 simp only [Option.some.injEq,Prod.mk.injEq] at e1
 obtain ⟨rfl,rfl,rfl⟩:=e1
 exact ⟨by rw [e2];rfl,w,g⟩
def ins (lt same:Zd → Zd → Bool) (x:Zd):Zbj → Zbj
 | []=>[x]
 | e :: r=>if lt e x then e :: ins lt same x r else if same e x then e :: r else x :: e :: r
theorem Zeh (x:Zd) (nm:Bool):∀ l:Zbj,layL x nm l=ins (fun e x=>Zck x nm e) (fun e x=>Ze3 x nm e) x l
 | []=>rfl
 | e :: r=>by
  have ih:=Zeh x nm r
  unfold layL at ih ⊢
  simp only [pre,ins]
  by_cases h:Zck x nm e=true
  ·simp only [h,if_true,List.getElem?_cons_succ,List.take_succ_cons,List.drop_succ_cons]
   rw [← ih]
   cases r[pre (Zck x nm) r]? <;> rfl
  ·simp only [h,if_false,List.getElem?_cons_zero,List.take_zero,List.drop_zero,List.nil_append,Bool.false_eq_true]
   by_cases hs:Ze3 x nm e=true
   ·simp [hs]
   ·simp [hs]
structure Ord (lt same:Zd → Zd → Bool):Prop where
 trans:∀ {a b c},lt a b=true → lt b c=true → lt a c=true
 asym:∀ {a b},lt a b=true → lt b a=false
 ns:∀ {a b},lt a b=true → same a b=false ∧ same b a=false
 tri:∀ {a b},lt a b=false → lt b a=false → same a b=true
 cong:∀ {a b c},same a b=true → lt b c=true → lt a c=true
theorem Zu9 {lt same:Zd → Zd → Bool} (h:Ord lt same) {x y:Zd} (hxy:lt x y=true):∀ l:Zbj,ins lt same x (ins lt same y l)=ins lt same y (ins lt same x l)
 | []=>by simp [ins,hxy,h.asym hxy,(h.ns hxy).2]
 | e :: r=>by
  have ih:=Zu9 h hxy r
  by_cases h1:lt e x=true
  ·have h2:=h.trans h1 hxy
   simp only [ins,h1,h2,if_true,ih]
  ·have h1':lt e x=false:=by simpa using h1
   by_cases h2:same e x=true
   ·have h3:=h.cong h2 hxy
    simp only [ins,h1',h2,h3,if_true,Bool.false_eq_true,if_false]
   ·have h2':same e x=false:=by simpa using h2
    have h3:lt x e=true:=by
     cases hq:lt x e
     ·exact absurd (h.tri h1' hq) h2
     ·rfl
    have hl:ins lt same x (e :: r)=x :: e :: r:=by simp [ins,h1',h2']
    have hd:∀ z s,lt x z=true → ins lt same x (z :: s)=x :: z :: s:=fun z s hz=>by simp [ins,h.asym hz,(h.ns hz).2]
    rw [hl]
    have hr:ins lt same y (x :: e :: r)=x :: ins lt same y (e :: r):=by simp [ins,hxy]
    rw [hr]
    by_cases h4:lt e y=true
    ·have:ins lt same y (e :: r)=e :: ins lt same y r:=by simp [ins,h4]
     rw [this,hd _ _ h3]
    ·have h4':lt e y=false:=by simpa using h4
     by_cases h5:same e y=true
     ·have:ins lt same y (e :: r)=e :: r:=by simp [ins,h4',h5]
      rw [this,hd _ _ h3]
     ·have:ins lt same y (e :: r)=y :: e :: r:=by simp [ins,h4',h5]
      rw [this,hd _ _ hxy]
theorem Zrj {lt same:Zd → Zd → Bool} (h:Ord lt same) {x y:Zd} (he:same x y=true → x=y) (l:Zbj):ins lt same x (ins lt same y l)=ins lt same y (ins lt same x l):=by
 by_cases h1:lt x y=true
 ·exact Zu9 h h1 l
 ·by_cases h2:lt y x=true
  ·exact (Zu9 h h2 l).symm
  ·rw [he (h.tri (by simpa using h1) (by simpa using h2))]
theorem Zoo {lt same:Zd → Zd → Bool} (y:Zd):∀ (n:Nat) (l:Zbj),(ins lt same y (l.take n)).take n=(ins lt same y l).take n
 | 0,_=>by simp
 | n + 1,[]=>by simp
 | n + 1,e :: r=>by
  simp only [List.take_succ_cons,ins]
  split
  ·simp only [List.take_succ_cons,Zoo y n r]
  ·split
   ·simp [List.take_take]
   ·cases n with
    | zero=>simp
    | succ m=>simp [List.take_take]
theorem Zw0 (a:Zd):Zb5 a a=false:=by unfold Zb5;rw [if_pos rfl,Zmb]
theorem Zmx:Ord (fun e x=>Zck x true e) (fun e x=>Ze3 x true e) where
 trans h k:=Zjp h k
 asym h:=Z1k h
 ns {a b} h:=by
  have h:sLt a.Name b.Name=true:=h
  simp [Ze3,Zka.2 (Zpb h),Zka.2 (fun e=>Zpb h e.symm)]
 tri {a b} h k:=by
  have h:sLt a.Name b.Name=false:=h
  have k:sLt b.Name a.Name=false:=k
  have:a.Name=b.Name:=Classical.byContradiction fun hn=>by rw [Zs0 h hn] at k;cases k
  simp [Ze3,this,Zmd]
 cong {a b c} h k:=by
  have h:(sEq a.Name b.Name && (true || decide (keyf a.Score=keyf b.Score)))=true:=h
  have h:sEq a.Name b.Name=true:=by simpa using h
  have k:sLt b.Name c.Name=true:=k
  show sLt a.Name c.Name=true
  rw [Zhn.1 h];exact k
theorem Zmr {a b:Zd}:Ze3 b false a=true ↔ a.Name=b.Name ∧ keyf a.Score=keyf b.Score:=by
 unfold Ze3
 rw [Bool.and_eq_true,Zhn]
 simp
theorem Zn4:Ord (fun e x=>Zck x false e) (fun e x=>Ze3 x false e) where
 trans h k:=Zjt h k
 asym {a b} h:=by
  have h:Zb5 a b=true:=h
  show Zb5 b a=false
  cases hq:Zb5 b a
  ·rfl
  ·have:=Zjt h hq
   rw [Zw0] at this;cases this
 ns {a b} h:=by
  have h:Zb5 a b=true:=h
  constructor
  ·show Ze3 b false a=false
   rw [Bool.eq_false_iff]
   intro hs
   obtain ⟨h1,h2⟩:=Zmr.1 hs
   unfold Zb5 at h
   rw [if_pos h2,h1,Zmb] at h;cases h
  ·show Ze3 a false b=false
   rw [Bool.eq_false_iff]
   intro hs
   obtain ⟨h1,h2⟩:=Zmr.1 hs
   unfold Zb5 at h
   rw [if_pos h2.symm,h1,Zmb] at h;cases h
 tri {a b} h k:=by
  have h:Zb5 a b=false:=h
  have k:Zb5 b a=false:=k
  show Ze3 b false a=true
  rw [← Zq6 h,k];rfl
 cong {a b c} h k:=by
  obtain ⟨h1,h2⟩:=Zmr.1 h
  have k:Zb5 b c=true:=k
  show Zb5 a c=true
  unfold Zb5 at k ⊢
  rw [h1,h2];exact k
theorem Zop {a b:Nat} (ha:a < W64) (hb:b < W64) (ca:a=Zbn a) (cb:b=Zbn b) (h:keyf a=keyf b):a=b:=by
 have hW:W64=18446744073709551616:=rfl
 have hT:TOP=9223372036854775808:=rfl
 have hI:INF=9218868437227405312:=rfl
 have hn:∀ z,z < W64 → z=Zbn z → isn z → z=NANB:=fun z _ hz h=>by rw [hz];unfold Zbn;rw [if_pos h]
 have key:∀ z,z < W64 → ¬ isn z → keyf z ≠ 18444492273895866369:=fun z hz hzn=>by
  have h2:¬ INF < z % TOP:=hzn
  rw [hT] at h2
  unfold keyf
  rw [if_neg hzn]
  split <;> omega
 by_cases na:isn a
 ·by_cases nb:isn b
  ·rw [hn a ha ca na,hn b hb cb nb]
  ·exact absurd (by rw [← h];unfold keyf;rw [if_pos na]) (key b hb nb)
 ·by_cases nb:isn b
  ·exact absurd (by rw [h];unfold keyf;rw [if_pos nb]) (key a ha na)
  ·unfold keyf at h
   rw [if_neg na,if_neg nb] at h
   split at h <;> split at h <;> omega
theorem Zs8 (s t:ByteArray) (l:Zbj):layL { Score:=0,Name:=s } true (layL { Score:=0,Name:=t } true l)=layL { Score:=0,Name:=t } true (layL { Score:=0,Name:=s } true l):=by
 rw [Zeh,Zeh,Zeh,Zeh]
 refine Zrj Zmx (fun h=>?_) l
 have h:(sEq s t && (true || decide (keyf 0=keyf 0)))=true:=h
 have h:sEq s t=true:=by simpa using h
 rw [Zhn.1 h]
theorem Zoy {x y:Zd} (hx:x.Score < W64) (hy:y.Score < W64) (cx:x.Score=Zbn x.Score) (cy:y.Score=Zbn y.Score) (n:Nat) (l:Zbj):(layL x false ((layL y false l).take n)).take n=(layL y false ((layL x false l).take n)).take n:=by
 rw [Zeh,Zeh,Zeh,Zeh,Zoo,Zoo]
 rw [Zrj Zn4 (x:=x) (y:=y) (fun h=>?_) l]
 obtain ⟨h1,h2⟩:=Zmr.1 h
 have h3:=Zop hx hy cx cy h2
 obtain ⟨x1,x2⟩:=x
 obtain ⟨y1,y2⟩:=y
 have h1:x2=y2:=h1
 have h3:x1=y1:=h3
 rw [h1,h3]
theorem Zin {r:Za} {a:Zi} (h:a.Kind=7 ∨ a.Kind=8 ∨ a.Kind=10):eff r a={ r with Num:=IntKind.i64.wrap (r.Num + a.N) }:=if_pos h
theorem Zsr {r:Za} {a:Zi} (h:a.Kind=11):eff r a={ r with Num:=IntKind.i64.wrap (r.Num - a.N) }:=by unfold eff;rw [h];rfl
theorem Znm {r:Za} {a:Zi} (h:a.Kind=13):eff r a={ r with Real:=if keyf r.Real < keyf a.X then a.X else r.Real }:=by unfold eff;rw [h];rfl
theorem Znv {r:Za} {a:Zi} (h:a.Kind=14):eff r a={ r with Real:=if keyf a.X < keyf r.Real then a.X else r.Real }:=by unfold eff;rw [h];rfl
theorem Zh7 {r:Za} {a:Zi} (h:a.Kind=18):eff r a={ r with List:=layL { Score:=0,Name:=a.S } true r.List }:=by unfold eff;rw [h];rfl
theorem Zmy {r:Za} {a:Zi} (h:a.Kind=19):eff r a={ r with List:=r.List.filter fun e=>!sEq e.Name a.S }:=by unfold eff;rw [h];rfl
theorem Zjo {r:Za} {a:Zi} (h:a.Kind=21):eff r a={ r with List:=(layL { Score:=a.X,Name:=a.S } false r.List).take r.Cap.toNat }:=by unfold eff;rw [h];rfl
def fmx (x y:Nat):Nat:=if keyf x < keyf y then y else x
def fmn (x y:Nat):Nat:=if keyf y < keyf x then y else x
theorem Zwi {x y:Nat} (hx:x < W64) (hy:y < W64) (cx:x=Zbn x) (cy:y=Zbn y) (z:Nat):fmx (fmx z x) y=fmx (fmx z y) x:=by
 have e:=Zop hx hy cx cy
 unfold fmx
 by_cases c1:keyf z < keyf x <;> by_cases c2:keyf z < keyf y <;> simp only [c1,c2,if_true,if_false]
 ·by_cases c3:keyf x < keyf y
  ·rw [if_pos c3,if_neg (by omega)]
  ·rw [if_neg c3]
   by_cases c4:keyf y < keyf x
   ·rw [if_pos c4]
   ·rw [if_neg c4];exact e (by omega)
 ·rw [if_neg (by omega)]
 ·rw [if_neg (by omega)]
theorem Zv0 {x y:Nat} (hx:x < W64) (hy:y < W64) (cx:x=Zbn x) (cy:y=Zbn y) (z:Nat):fmn (fmn z x) y=fmn (fmn z y) x:=by
 have e:=Zop hx hy cx cy
 unfold fmn
 by_cases c1:keyf x < keyf z <;> by_cases c2:keyf y < keyf z <;> simp only [c1,c2,if_true,if_false]
 ·by_cases c3:keyf y < keyf x
  ·rw [if_pos c3,if_neg (by omega)]
  ·rw [if_neg c3]
   by_cases c4:keyf x < keyf y
   ·rw [if_pos c4]
   ·rw [if_neg c4];exact e (by omega)
 ·rw [if_neg (by omega)]
 ·rw [if_neg (by omega)]
theorem Z1s {r:Za} {a b:Zi} (ha:ActW a) (hb:ActW b) (hk:a.Kind=7 ∨ a.Kind=13 ∨ a.Kind=14 ∨ a.Kind=18 ∨ a.Kind=19 ∨ a.Kind=21) (he:b.Kind=a.Kind):eff (eff r a) b=eff (eff r b) a:=by
 rcases hk with h | h | h | h | h | h <;> rw [h] at he
 ·rw [Zin (.inl h),Zin (.inl he),Zin (.inl h),Zin (.inl he)]
  have:IntKind.i64.wrap (IntKind.i64.wrap (r.Num + a.N) + b.N)=IntKind.i64.wrap (IntKind.i64.wrap (r.Num + b.N) + a.N):=by
   simp only [IntKind.wrap_i64];omega
  simp only [this]
 ·rw [Znm h,Znm he,Znm h,Znm he]
  exact congrArg (fun z=>({ r with Real:=z }:Za)) (Zwi ha.ok.2 hb.ok.2 ha.xc hb.xc r.Real)
 ·rw [Znv h,Znv he,Znv h,Znv he]
  exact congrArg (fun z=>({ r with Real:=z }:Za)) (Zv0 ha.ok.2 hb.ok.2 ha.xc hb.xc r.Real)
 ·rw [Zh7 h,Zh7 he,Zh7 h,Zh7 he]
  exact congrArg (fun z=>({ r with List:=z }:Za)) (Zs8 b.S a.S r.List)
 ·rw [Zmy h,Zmy he,Zmy h,Zmy he]
  refine congrArg (fun z=>({ r with List:=z }:Za)) ?_
  show List.filter _ (List.filter _ _)=List.filter _ (List.filter _ _)
  rw [List.filter_filter,List.filter_filter]
  congr 1
  funext e
  exact Bool.and_comm _ _
 ·rw [Zjo h,Zjo he,Zjo h,Zjo he]
  exact congrArg (fun z=>({ r with List:=z }:Za)) (Zoy (x:={ Score:=b.X,Name:=b.S }) (y:={ Score:=a.X,Name:=a.S }) hb.ok.2 ha.ok.2 hb.xc ha.xc r.Cap.toNat r.List)
structure ActD (k:Int) (a:Zi):Prop where
 in_:ActIn a
 chk:Ze1 a=some 0
 kind:a.Kind=7 ∨ a.Kind=8 ∨ a.Kind=10 ∨ a.Kind=11 ∨ a.Kind=13 ∨ a.Kind=14 ∨ a.Kind=18 ∨ a.Kind=21
 on:Zek a.Kind=some k
theorem ActD.w {k:Int} {a:Zi} (h:ActD k a):ActW a:=by
 obtain ⟨c,h1,_,h3⟩:=Zmv h.in_.ok
 rw [h.chk] at h1
 obtain rfl:=Option.some.inj h1
 exact h.in_.w (c:=0) (h3 rfl)
theorem on7:Zek 7=some 2:=by kernel_rfl
theorem on8:Zek 8=some 3:=by kernel_rfl
theorem on10:Zek 10=some 4:=by kernel_rfl
theorem on11:Zek 11=some 4:=by kernel_rfl
theorem on13:Zek 13=some 5:=by kernel_rfl
theorem on14:Zek 14=some 6:=by kernel_rfl
theorem on18:Zek 18=some 8:=by kernel_rfl
theorem on21:Zek 21=some 9:=by kernel_rfl
theorem ActD.cases {k:Int} {a:Zi} (h:ActD k a):(k=2 ∧ a.Kind=7) ∨ (k=3 ∧ a.Kind=8) ∨ (k=4 ∧ (a.Kind=10 ∨ a.Kind=11)) ∨ (k=5 ∧ a.Kind=13) ∨ (k=6 ∧ a.Kind=14) ∨ (k=8 ∧ a.Kind=18) ∨ (k=9 ∧ a.Kind=21):=by
 have on:=h.on
 rcases h.kind with e | e | e | e | e | e | e | e <;> rw [e] at on ⊢
 ·rw [on7] at on;have:=Option.some.inj on;omega
 ·rw [on8] at on;have:=Option.some.inj on;omega
 ·rw [on10] at on;have:=Option.some.inj on;omega
 ·rw [on11] at on;have:=Option.some.inj on;omega
 ·rw [on13] at on;have:=Option.some.inj on;omega
 ·rw [on14] at on;have:=Option.some.inj on;omega
 ·rw [on18] at on;have:=Option.some.inj on;omega
 ·rw [on21] at on;have:=Option.some.inj on;omega
def hasN (l:Zbj) (s:ByteArray):Bool:=l.any fun e=>sEq e.Name s
def uC (l:Zbj) (a:Zi):Int:=if a.Kind=8 ∨ a.Kind=10 then max a.N 0 else if a.Kind=18 then (if hasN l a.S=true then 0 else 1) else 0
def dC (a:Zi):Int:=if a.Kind=8 then max (-a.N) 0 else if a.Kind=11 then max a.N 0 else 0
theorem Zp7 (l:Zbj) (a:Zi):0 ≤ uC l a:=by
 unfold uC
 repeat' split
 all_goals omega
theorem Zou (a:Zi):0 ≤ dC a:=by
 unfold dC
 repeat' split
 all_goals omega
def su (l:Zbj):List Zi → Int
 | []=>0
 | a :: B=>uC l a + su l B
def sd:List Zi → Int
 | []=>0
 | a :: B=>dC a + sd B
theorem Zr7 (l:Zbj):∀ B,0 ≤ su l B
 | []=>Int.le_refl _
 | a :: B=>by have:=Zr7 l B;have:=Zp7 l a;simp only [su];omega
theorem Zyi:∀ B,0 ≤ sd B
 | []=>Int.le_refl _
 | a :: B=>by have:=Zyi B;have:=Zou a;simp only [sd];omega
theorem Zi4 (l:Zbj):∀ A B,su l (A ++ B)=su l A + su l B
 | [],B=>by simp [su]
 | a :: A,B=>by simp only [List.cons_append,su,Zi4 l A B];omega
theorem Zsj:∀ A B,sd (A ++ B)=sd A + sd B
 | [],B=>by simp [sd]
 | a :: A,B=>by simp only [List.cons_append,sd,Zsj A B];omega
def upR (r:Za):Int:=if r.Kind=3 then 9223372036854775807 - r.Num else if r.Kind=4 then r.High - r.Num else if r.Kind=8 then r.Cap - (r.List.length:Int) else 0
def dnR (r:Za):Int:=if r.Kind=3 then r.Num + 9223372036854775808 else if r.Kind=4 then r.Num - r.Low else 0
def Room (r:Za) (B:List Zi):Prop:=su r.List B ≤ upR r ∧ sd B ≤ dnR r
theorem Z3e {l l':Zbj} (h:∀ s,hasN l s=true → hasN l' s=true):∀ B,su l' B ≤ su l B
 | []=>Int.le_refl _
 | a :: B=>by
  have:=Z3e h B
  have:uC l' a ≤ uC l a:=by
   unfold uC
   split
   ·exact Int.le_refl _
   ·split
    ·by_cases h1:hasN l a.S=true
     ·rw [if_pos h1,if_pos (h _ h1)];exact Int.le_refl _
     ·rw [if_neg h1];split <;> omega
    ·exact Int.le_refl _
  simp only [su];omega
theorem Z3j {l l':Zbj}:∀ {B:List Zi},(∀ b ∈ B,b.Kind ≠ 18) → su l' B=su l B
 | [],_=>rfl
 | a :: B,h=>by
  have h1:=h a (List.mem_cons_self ..)
  have:uC l' a=uC l a:=by unfold uC;rw [if_neg h1,if_neg h1]
  simp only [su,Z3j (l:=l) (l':=l') (fun b hb=>h b (List.mem_cons_of_mem _ hb)),this]
theorem Zrn (A B:Zbj) (s:ByteArray):hasN (A ++ B) s=(hasN A s || hasN B s):=List.any_append
theorem Z41 {l:Zbj} (hs:NS l) {s t:ByteArray} (h:hasN l t=true):hasN (layL { Score:=0,Name:=s } true l) t=true:=by
 rw [Zkn]
 split
 ·exact h
 ·rw [← List.take_append_drop (pre (fun e=>sLt e.Name s) l) l,Zrn] at h
  rw [Zrn,Zrn]
  revert h
  cases hasN (l.take (pre (fun e=>sLt e.Name s) l)) t <;> cases hasN (l.drop (pre (fun e=>sLt e.Name s) l)) t <;> simp
theorem Zu1 {l:Zbj} (hs:NS l) {s:ByteArray} (h:hasN l s=true):layL { Score:=0,Name:=s } true l=l:=by
 rw [Zkn,if_pos (by rw [← Zki hs];exact h)]
theorem Z5y (l:Zbj) (s:ByteArray):(layL { Score:=0,Name:=s } true l).length ≤ l.length + 1:=by
 rw [Zkn]
 split
 ·omega
 ·simp;omega
theorem Zpc {r:Za} {a:Zi} {B:List Zi} (hw:RecW r) (hg:Zbx r) (ha:ActD r.Kind a) (hB:∀ b ∈ B,ActD r.Kind b) (h:Room r (a :: B)) :
  Room (eff r a) B ∧ RecW (eff r a) ∧ Zbx (eff r a) ∧ Zdc r true a=some (eff r a,true,ans 0) ∧ Zfo r true a=some (eff r a,true,ans 0) ∧ (eff r a).Kind=r.Kind:=by
 obtain ⟨h1,h2⟩:=h
 simp only [su,sd] at h1 h2
 have n1:=Zr7 r.List B
 have n2:=Zyi B
 have hnum:=hw.num
 have haw:=ha.w
 have han:=haw.n
 unfold I64 at hnum han
 have hf:Fits r a:=by
  refine ⟨fun e=>?_,fun e=>?_,fun e=>?_,fun e=>?_⟩
  ·have hk:r.Kind=3:=by rcases ha.cases with c | c | c | c | c | c | c <;> omega
   simp only [uC,dC,upR,dnR,e,hk,if_true,true_or] at h1 h2
   omega
  ·have hk:r.Kind=4:=by rcases ha.cases with c | c | c | c | c | c | c <;> omega
   simp only [uC,upR,e,hk,if_true,or_true] at h1
   have:¬ ((4:Int)=3):=by decide
   rw [if_neg this] at h1
   omega
  ·have hk:r.Kind=4:=by rcases ha.cases with c | c | c | c | c | c | c <;> omega
   simp only [dC,dnR,e,hk] at h2
   have e1:¬ ((4:Int)=3):=by decide
   have e2:¬ ((11:Int)=8):=by decide
   rw [if_neg e1,if_neg e2] at h2
   simp only [if_true] at h2
   omega
  ·have hk:r.Kind=8:=by rcases ha.cases with c | c | c | c | c | c | c <;> omega
   have hs:=Ziu hg hk
   by_cases hi:hasN r.List a.S=true
   ·left;rw [← Zki hs];exact hi
   ·right
    have e1:¬ ((8:Int)=3):=by decide
    have e2:¬ ((8:Int)=4):=by decide
    have e3:¬ ((18:Int)=8 ∨ (18:Int)=10):=by decide
    simp only [uC,upR,e,hk] at h1
    rw [if_neg e1,if_neg e2,if_neg e3,if_neg hi] at h1
    simp only [if_true] at h1
    omega
 have hdk:Zkd a.Kind:=by unfold Zkd;rcases ha.kind with e | e | e | e | e | e | e | e <;> omega
 obtain ⟨a1,a2,a3⟩:=Zz1 hw hg ha.in_ ha.chk hdk ha.on hf
 obtain ⟨x,is,out,b1,b2,_,_⟩:=Zy5 (there:=true) hw ha.in_
 rw [a1] at b1
 simp only [Option.some.injEq,Prod.mk.injEq] at b1
 obtain ⟨rfl,rfl,rfl⟩:=b1
 have hkk:=(Zk7 r a).1
 refine ⟨?_,a2,a3,a1,b2,hkk⟩
 have hno:r.Kind ≠ 8 → su (eff r a).List B=su r.List B:=fun h8=>Z3j fun b hb=>by
  rcases (hB b hb).cases with c | c | c | c | c | c | c <;> omega
 unfold Room
 rcases ha.cases with ⟨k,e⟩ | ⟨k,e⟩ | ⟨k,e⟩ | ⟨k,e⟩ | ⟨k,e⟩ | ⟨k,e⟩ | ⟨k,e⟩
 ·rw [hno (by omega)]
  have z:∀ x:Za,x.Kind=2 → upR x=0 ∧ dnR x=0:=fun x hx=>by simp [upR,dnR,hx]
  rw [(z _ (hkk.trans k)).1,(z _ (hkk.trans k)).2]
  rw [(z r k).1,(z r k).2] at *
  have:=Zp7 r.List a;have:=Zou a
  omega
 ·rw [hno (by omega),Zin (by omega)]
  obtain ⟨p1,p2⟩:=hf.plus e
  simp only [upR,dnR,k,if_true,uC,dC,e,true_or] at h1 h2 ⊢
  rw [wr p1 p2]
  omega
 ·rw [hno (by omega)]
  have hp:=Zm0 hg k
  have e1:¬ ((4:Int)=3):=by decide
  rcases e with e | e
  ·have f:=hf.inn e
   have hn:=haw.inout (.inl e)
   rw [Zin (by omega)]
   simp only [upR,dnR,k,uC,dC,e,or_true,if_true] at h1 h2 ⊢
   rw [if_neg e1] at h1 h2 ⊢
   rw [if_neg e1]
   rw [wr (by omega) (by omega)]
   have e2:¬ ((10:Int)=8):=by decide
   have e3:¬ ((10:Int)=11):=by decide
   rw [if_neg e2,if_neg e3] at h2
   omega
  ·have f:=hf.out e
   have hn:=haw.inout (.inr e)
   rw [Zsr e]
   have e2:¬ ((11:Int)=8):=by decide
   have e3:¬ ((11:Int)=8 ∨ (11:Int)=10):=by decide
   have e4:¬ ((11:Int)=18):=by decide
   simp only [upR,dnR,k,uC,dC,e,if_true] at h1 h2 ⊢
   rw [if_neg e1] at h1 h2 ⊢
   rw [if_neg e1]
   rw [if_neg e3,if_neg e4] at h1
   rw [if_neg e2] at h2
   rw [wr (by omega) (by omega)]
   omega
 ·rw [hno (by omega)]
  have z:∀ x:Za,x.Kind=5 → upR x=0 ∧ dnR x=0:=fun x hx=>by simp [upR,dnR,hx]
  rw [(z _ (hkk.trans k)).1,(z _ (hkk.trans k)).2]
  rw [(z r k).1,(z r k).2] at *
  have:=Zp7 r.List a;have:=Zou a
  omega
 ·rw [hno (by omega)]
  have z:∀ x:Za,x.Kind=6 → upR x=0 ∧ dnR x=0:=fun x hx=>by simp [upR,dnR,hx]
  rw [(z _ (hkk.trans k)).1,(z _ (hkk.trans k)).2]
  rw [(z r k).1,(z r k).2] at *
  have:=Zp7 r.List a;have:=Zou a
  omega
 ·have hs:=Ziu hg k
  have e1:¬ ((8:Int)=3):=by decide
  have e2:¬ ((8:Int)=4):=by decide
  have e3:¬ ((18:Int)=8 ∨ (18:Int)=10):=by decide
  have hd2:dnR (eff r a)=0:=by simp [dnR,hkk,k]
  have hd1:dnR r=0:=by simp [dnR,k]
  have hu1:upR r=r.Cap - (r.List.length:Int):=by simp [upR,k]
  have hu2:upR (eff r a)=r.Cap - ((eff r a).List.length:Int):=by simp [upR,hkk,k,(Zk7 r a).2.1]
  rw [hd2]
  rw [hd1] at h2
  rw [hu2]
  rw [hu1] at h1
  have hmono:=Z3e (l:=r.List) (l':=(eff r a).List) (fun s hh=>by rw [Zh7 e];exact Z41 hs hh) B
  have hdn:=Zou a
  refine ⟨?_,by omega⟩
  unfold uC at h1
  rw [e,if_neg e3] at h1
  simp only [if_true] at h1
  have hl:(eff r a).List=layL { Score:=0,Name:=a.S } true r.List:=by rw [Zh7 e]
  by_cases hi:hasN r.List a.S=true
  ·rw [if_pos hi] at h1
   rw [hl,Zu1 hs hi]
   rw [hl,Zu1 hs hi] at hmono
   omega
  ·rw [if_neg hi] at h1
   have:=Z5y r.List a.S
   rw [hl]
   rw [hl] at hmono
   omega
 ·rw [hno (by omega)]
  have z:∀ x:Za,x.Kind=9 → upR x=0 ∧ dnR x=0:=fun x hx=>by simp [upR,dnR,hx]
  rw [(z _ (hkk.trans k)).1,(z _ (hkk.trans k)).2]
  rw [(z r k).1,(z r k).2] at *
  have:=Zp7 r.List a;have:=Zou a
  omega
def effs (r:Za) (B:List Zi):Za:=B.foldl eff r
theorem Z53 {r:Za} {k:Int} {a b:Zi} (ha:ActD k a) (hb:ActD k b):eff (eff r a) b=eff (eff r b) a:=by
 have ca:=ha.cases
 have cb:=hb.cases
 by_cases hn:a.Kind=8 ∨ a.Kind=10 ∨ a.Kind=11
 ·have hnb:b.Kind=8 ∨ b.Kind=10 ∨ b.Kind=11:=by omega
  have one:∀ (x:Zi),x.Kind=8 ∨ x.Kind=10 ∨ x.Kind=11 → ∃ m:Int,∀ r:Za,eff r x={ r with Num:=IntKind.i64.wrap (r.Num + m) }:=fun x hx=>by
   by_cases h11:x.Kind=11
   ·exact ⟨-x.N,fun r=>by rw [Zsr h11,Int.sub_eq_add_neg]⟩
   ·exact ⟨x.N,fun r=>Zin (by omega)⟩
  obtain ⟨m,hm⟩:=one a hn
  obtain ⟨n,hn⟩:=one b hnb
  rw [hm,hn,hn,hm]
  have:IntKind.i64.wrap (IntKind.i64.wrap (r.Num + m) + n)=IntKind.i64.wrap (IntKind.i64.wrap (r.Num + n) + m):=by
   simp only [IntKind.wrap_i64];omega
  simp only [this]
 ·exact Z1s ha.w hb.w (by omega) (by omega)
theorem Zot {k:Int} {a:Zi} (ha:ActD k a):∀ (B:List Zi) (r:Za),(∀ b ∈ B,ActD k b) → effs (eff r a) B=eff (effs r B) a
 | [],r,_=>rfl
 | b :: B,r,h=>by
  show effs (eff (eff r a) b) B=eff (effs (eff r b) B) a
  rw [Z53 ha (h b (List.mem_cons_self ..)),Zot ha B _ (fun x hx=>h x (List.mem_cons_of_mem _ hx))]
theorem Zrc (r:Za) (A B:List Zi):effs r (A ++ B)=effs (effs r A) B:=List.foldl_append
theorem Zte {k:Int}:∀ (A B:List Zi) (r:Za),(∀ a ∈ A,ActD k a) → (∀ b ∈ B,ActD k b) → effs r (A ++ B)=effs r (B ++ A)
 | [],B,r,_,_=>by rw [List.append_nil];rfl
 | a :: A,B,r,hA,hB=>by
  show effs (eff r a) (A ++ B)=_
  rw [Zte A B _ (fun x hx=>hA x (List.mem_cons_of_mem _ hx)) hB,Zrc,Zot (hA a (List.mem_cons_self ..)) B r hB,Zrc]
  rfl
theorem Zvw:∀ {B:List Zi} {r:Za},RecW r → Zbx r → (∀ b ∈ B,ActD r.Kind b) → Room r B → RecW (effs r B) ∧ Zbx (effs r B) ∧ (effs r B).Kind=r.Kind
 | [],r,hw,hg,_,_=>⟨hw,hg,rfl⟩
 | a :: B,r,hw,hg,hB,h=>by
  obtain ⟨h1,h2,h3,_,_,h4⟩:=Zpc hw hg (hB a (List.mem_cons_self ..)) (fun b hb=>hB b (List.mem_cons_of_mem _ hb)) h
  obtain ⟨k1,k2,k3⟩:=Zvw (B:=B) h2 h3 (fun b hb=>by rw [h4];exact hB b (List.mem_cons_of_mem _ hb)) h1
  exact ⟨k1,k2,k3.trans h4⟩
theorem Z0r {r:Za} {A B:List Zi} (h:Room r (A ++ B)):Room r (B ++ A):=by
 unfold Room at *
 rw [Zi4,Zsj] at *
 omega
theorem Zto {r:Za} {A B:List Zi} (h:Room r (A ++ B)):Room r A:=by
 unfold Room at *
 rw [Zi4,Zsj] at h
 have:=Zr7 r.List B
 have:=Zyi B
 omega
theorem Zxt (e:Zd):ActIn ({ Kind:=(18:Int),Key:=(⟨#[107]⟩:ByteArray),N:=(0:Int),X:=(0:Nat),S:=e.Name,Make:=(default:Za),Must:=false }:Zi):=⟨⟨Zc8.ok,show (0:Nat) < W64 by decide⟩,show I64 0 by unfold I64;decide,Zc8⟩
theorem Zxp {e:Zd} (h:e.Score < W64):ActIn ({ Kind:=(21:Int),Key:=(⟨#[107]⟩:ByteArray),N:=(0:Int),X:=e.Score,S:=e.Name,Make:=(default:Za),Must:=false }:Zi):=⟨⟨Zc8.ok,h⟩,show I64 0 by unfold I64;decide,Zc8⟩
theorem Z3x {α:Type} {xs:List α} {i:Nat} (h:i < xs.length):decide ((i:Int) < (xs.length:Int))=true:=decide_eq_true (by omega)
theorem withReal {r:Za} (h:RecW r) {m:Nat} (hm:m < W64):RecW { r with Real:=m }:=⟨⟨hm,h.ok.len,h.ok.sc⟩,h.num,h.low,h.high,h.kind,h.len⟩
theorem Z4h:Zhy=some true:=by kernel_rfl
theorem Zt2 {l:List Zu} (hl:l.length ≤ 40) (hw:∀ o ∈ l,Zfz o):∀ (n i:Nat),i + n=l.length → (Zdm l (n + 1) (i:Int)=some (.inl true)) ∨ (Zdm l (n + 1) (i:Int)=some (.inr ()) ∧ ∀ o ∈ l.drop i,ActIn o.Act)
 | 0,i,h=>by
  right
  rw [Zdm,if_neg (by simp;omega),List.drop_of_length_le (by omega)]
  exact ⟨rfl,fun o ho=>by cases ho⟩
 | n + 1,i,h=>by
  have h1:i < l.length:=by omega
  obtain ⟨c,e1,e2,e3⟩:=Z72 (hw _ (List.getElem_mem h1)).2
  rw [Zdm,if_pos (by simp;omega),Zdj h1,wr1 (by omega)]
  simp only [Option.bind_some]
  rw [e1]
  rcases e2 with rfl | rfl
  ·simp only [Int.lt_irrefl,decide_false,Bool.false_eq_true,if_false,Option.bind_some]
   rcases Zt2 hl hw n (i + 1) (by omega) with h2 | ⟨h2,h3⟩
   ·exact .inl h2
   ·right
    refine ⟨h2,fun o ho=>?_⟩
    rw [List.drop_eq_getElem_cons h1] at ho
    rcases List.mem_cons.1 ho with rfl | ho
    ·exact Z1v (hw _ (List.getElem_mem h1)).2 (e3 rfl)
    ·exact h3 o ho
  ·left;rfl
theorem big7 {r:Za} {l:List Zu} (hr:Zho r) (hw:∀ o ∈ l,Zfz o):Zgv r l=some true ∨ (Zgv r l=some false ∧ RecW r ∧ l.length ≤ 40 ∧ ∀ o ∈ l,ActIn o.Act):=by
 obtain ⟨c,e1,e2,e3⟩:=Z3g (Zxx hr)
 unfold Zgv
 rw [e1]
 simp only [Option.bind_some]
 rcases e2 with rfl | rfl
 ·by_cases h:(40:Int) < l.length
  ·left;simp [h]
  ·rw [if_neg (by simp;omega),show (Int.toNat ((l.length:Int) - (0:Int)) + 1)=l.length + 1 by omega]
   have:=Zt2 (l:=l) (by omega) hw l.length 0 (by omega)
   rw [show ((0:Nat):Int)=0 from rfl] at this
   rcases this with h1 | ⟨h1,h2⟩
   ·left;rw [h1];rfl
   ·right;rw [h1];exact ⟨rfl,Zst hr (e3 rfl),by omega,h2⟩
 ·left;rfl
theorem Zwu (k a:Int):∃ b,Ze6 k a=some b ∧ Zjf k a=some b:=by
 by_cases h:a=7 ∨ a=8 ∨ a=10 ∨ a=11 ∨ a=13 ∨ a=14 ∨ a=18 ∨ a=21
 ·obtain ⟨on,o1,o2,_⟩:=Zlb (k:=a) (by omega) (by omega)
  refine ⟨on == k,?_,?_⟩
  ·unfold Ze6 Zcu
   rw [o1]
   rcases h with rfl | rfl | rfl | rfl | rfl | rfl | rfl | rfl <;> rfl
  ·unfold Zjf
   rw [o2]
   rcases h with rfl | rfl | rfl | rfl | rfl | rfl | rfl | rfl <;> rfl
 ·simp only [not_or] at h
  obtain ⟨h1,h2,h3,h4,h5,h6,h7,h8⟩:=h
  refine ⟨false,?_,?_⟩
  ·unfold Ze6 Zcu
   simp [h1,h2,h3,h4,h5,h6,h7,h8]
  ·unfold Zjf
   simp [h1,h2,h3,h4,h5,h6,h7,h8]
def INFN:Nat:=18442240474082181120
theorem Zzk:Zn3 (-1:Int)=some INFN:=by kernel_rfl
theorem Z6k:∃ b,Zke=some b ∧ b < W64 ∧ isn b:=by
 refine ⟨NANB,by kernel_rfl,by decide,?_⟩
 unfold isn rg INF NANB TOP;decide
theorem Znf {k:Int} {b:Nat} {cap:Int} (hk:0 ≤ k ∧ k ≤ 9) (hb:b < W64):RecW ({ Kind:=k,Num:=(0:Int),Low:=(0:Int),High:=(0:Int),Real:=b,Cap:=cap,Text:=ByteArray.empty,List:=([]:List Zd) }:Za) :=
 ⟨⟨hb,by show (0:Nat) < _;decide,fun e he=>by cases he⟩,show I64 0 by unfold I64;decide,show I64 0 by unfold I64;decide,show I64 0 by unfold I64;decide,show I64 k by unfold I64;omega,by show (0:Nat) ≤ _;decide⟩
theorem Z46 {a:Nat} (ha:a < W64) (hc:a=Zbn a):Zgy a INFN=some a:=by
 unfold Zgy
 rw [Zk4 ha (by decide),Zex ha,← hc]
 have:¬ keyf a < keyf INFN:=by
  have hi:keyf INFN=4503599627370495:=by decide
  rw [hi]
  unfold keyf
  split
  ·omega
  ·rename_i hn
   unfold isn rg INF at hn
   split
   ·rename_i ht
    have:a % TOP=a - TOP:=by
     simp only [TOP,W64] at *
     omega
    rw [this] at hn
    simp only [TOP,W64] at *
    omega
   ·omega
 rw [show decide (keyf a < keyf INFN)=false from decide_eq_false this]
 rfl
theorem Z38 {a b:Nat} (ha:a < W64) (hb:b < W64) (hc:a=Zbn a) (hn:isn b):Zgm a b=some a:=by
 unfold Zgm
 rw [Zk4 hb ha,Zex ha,← hc]
 have:¬ keyf b < keyf a:=by
  have hi:keyf b=18444492273895866369:=by unfold keyf;rw [if_pos hn]
  rw [hi]
  unfold keyf
  split
  ·omega
  ·rename_i hna
   unfold isn rg INF at hna
   split
   ·simp only [TOP,W64] at *;omega
   ·rename_i ht
    have:a % TOP=a:=by simp only [TOP] at *;omega
    rw [this] at hna
    simp only [TOP] at *;omega
 rw [show decide (keyf b < keyf a)=false from decide_eq_false this]
 rfl
def pv (all n i:Int):Int:=if decide ((IntKind.u64.wrap i) < (Int.tmod all (IntKind.u64.wrap n)))=true then IntKind.u64.wrap ((IntKind.u64.wrap (Int.tdiv all (IntKind.u64.wrap n))) + (1:Int)) else IntKind.u64.wrap (Int.tdiv all (IntKind.u64.wrap n))
theorem wn {n:Int} (hn:1 ≤ n ∧ n ≤ 8):IntKind.u64.wrap n ≠ (0:Int):=by rw [Zp6];omega
theorem Zxv {all n i:Int} (hn:1 ≤ n ∧ n ≤ 8):Zj4 all i n=some (pv all n i):=by
 unfold Zj4 Zi0 pv
 rw [if_pos (wn hn),if_pos (wn hn)]
 split <;> rfl
theorem Ztc {n:Int} {r:Za} {q:Zw × Bool} (hn:1 ≤ n ∧ n ≤ 8):∀ (m i:Nat) (acc:List Zw),(i:Int) + m=n → acc=(List.range i).map (fun k:Nat=>(⟨pv q.1.up n k,pv q.1.down n k⟩:Zw)) → Zgi n q (m + 1) ({ r:=r,by_:=acc }:Zx) (i:Int)=some ({ r:=r,by_:=(List.range n.toNat).map (fun k:Nat=>(⟨pv q.1.up n k,pv q.1.down n k⟩:Zw)) }:Zx)
 | 0,i,acc,h,ha=>by
  rw [Zgi,if_neg (by simp;omega),ha,show n.toNat=i by omega]
 | m + 1,i,acc,h,ha=>by
  have hl:acc.length=i:=by rw [ha];simp
  rw [Zgi,if_pos (by simp;omega),Zxv hn,Zxv hn]
  simp only [Option.bind_some]
  rw [if_pos (by simp only [List.length_singleton];omega),wr1 (by omega)]
  exact Ztc hn m (i + 1) _ (by omega) (by rw [ha,List.range_succ,List.map_append];rfl)
end Go.CL
