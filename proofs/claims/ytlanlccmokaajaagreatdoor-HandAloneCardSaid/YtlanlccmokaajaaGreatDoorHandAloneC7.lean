/- A part of the proof of HandAlone. -/
import Derived.Test.YtlanlccmokaajaaGreatDoorHandAloneC6
import Derived.KernelRfl
import Derived.Laws.Strings
set_option linter.unusedVariables false
set_option linter.unusedSimpArgs false
set_option maxRecDepth 100000
namespace Go.CL
open Go Go.RowKit Go.Proofs
theorem Zrd (a0:Ze) (a1:Bool) (a2:Zu) {r:Ze × Bool × Zg} (h:Ziy a0 a1 a2=some r):FnOk Tryz.prog 66 [(Zi.pd a0),(Zbg a1),(Z4.pd a2)] (pTup [(Zi.pd r.1),(Zbg r.2.1),(Zm.pd r.2.2)]):=by
 have H0:=h
 unfold Ziy at H0
 clear h
 refine Zbu (N:=109) Tryz.func66 rfl rfl (Nat.le_of_ble_eq_true rfl) rfl rfl (fun a g0 hst hb=>?_)
 refine r_s (T:=[⟨[.old 0],_,[4],[],[3]⟩,⟨[.old 2],_,[],[],[5]⟩,⟨[],[(6,(pBox Zi 6 (default:Ze)))],[7],[],[6]⟩,⟨[],_,[],[],[7]⟩,⟨[],[(8,(pBox Zm 8 (default:Zg)))],[9],[],[8]⟩]) (F:=[.old 1,.op 0 0,.op 1 0,.op 2 0,.op 4 0]) hst hb Zb
  (o_p rfl (Zkm rfl rfl u_0)<|o_p rfl (Zbq rfl rfl u_0)<|o_p rfl (Zbh (zs:=[.int .i64 0,.int .i64 0,.int .i64 0,.int .i64 0,.float .f64 0,.int .i64 0,.string ByteArray.empty,.slice none 0 0]) (by kernel_rfl) (fun g=>Zb4 g) rfl rfl)<|o_p rfl (Zc rfl rfl c_b)<|o_p rfl (Zbh (zs:=[.int .i64 0,.int .i64 0,.int .i64 0,.int .i64 0,.int .i64 0,.int .i64 0,.float .f64 0,.int .i64 0,.string ByteArray.empty,.slice none 0 0]) (by kernel_rfl) (fun g=>Zeb g) rfl rfl)<|o_n) (by kernel_rfl) (fun a g hst hb=>?_)
 refine wp_seq ?_
 refine r_s (T:=[⟨[.old 0],_,[],[],[13]⟩,⟨[.op 0 0],_,[],[0],[14]⟩]) (F:=[.old 0,.old 1,.old 2,.old 3,.old 4,.op 1 0]) hst hb Zb
  (o_p rfl (Za rfl rfl u_0)<|o_p rfl (Zb2 rfl rfl u_0)<|o_n) (by kernel_rfl) (fun a g hst hb=>?_)
 refine Zca (fun a w=>∃ (j2:Ze) (g:G),w=g.w ∧ St 109 [(1,(Zbg a1)),(3,(pBox Zi 3 j2)),(5,(Z4.ptr a2)),(6,(pBox Zi 6 (default:Ze))),(8,(pBox Zm 8 (default:Zg)))] a g ∧ Base g0 g ∧ Zf7 a1 a2 j2=some r) ?_ ?_
 ·rintro a w ⟨j2,g,rfl,hst,hb,H0⟩
  unfold Zf7 at H0
  refine Zs ?_
  obtain ⟨r3,h4,H0⟩:=Zh H0
  refine r_s (T:=[⟨[.old 1],_,[],[],[16]⟩,⟨[.op 0 0],_,[],[0],[17]⟩,⟨[.op 1 0,.old 1],_,[4],[0,1],[3]⟩]) (F:=[.old 0,.op 2 0,.old 2,.old 3,.old 4]) hst hb Zb
   (o_p rfl (Zb0 Zbc rfl rfl u_0)<|o_p rfl (Zo Zyq (Zii _ h4) rfl rfl (.cons u_0 .nil))<|o_p rfl (Z2 Zbc rfl rfl u_1 u_0)<|o_n) (by kernel_rfl) (fun a g hst hb=>?_)
  obtain ⟨r5,h6,H0⟩:=Zh H0
  refine r_s (T:=[⟨[.old 2],_,[],[],[18]⟩,⟨[.op 0 0],_,[],[0],[19]⟩,⟨[.op 1 0],_,[],[0,1],[9]⟩]) (F:=[.old 0,.old 1,.old 2,.old 3,.old 4,.op 2 0]) hst hb Zb
   (o_p rfl (Zf Zh1 rfl rfl u_0)<|o_p rfl (Zo Z66 (Zna _ h6) rfl rfl (.cons u_0 .nil))<|o_p rfl (Zc rfl rfl u_0)<|o_n) (by kernel_rfl) (fun a g hst hb=>?_)
  refine wp_seq ?_
  refine r_s (T:=[⟨[.old 5],_,[],[],[20]⟩,⟨[.op 0 0],_,[],[0],[21]⟩,⟨[.op 1 0],_,[],[0,1],[22]⟩,⟨[.op 2 0,.old 0],_,[],[0,1,2],[23]⟩,⟨[.op 2 0,.op 3 0],_,[],Lr 4,[24]⟩]) (F:=[.old 0,.old 1,.old 2,.old 3,.old 4,.old 5,.op 4 0]) hst hb Zb
   (o_p rfl (Za rfl rfl u_0)<|o_p rfl (Zbs rfl rfl u_0 c_i)<|o_p rfl (Za rfl rfl u_0)<|o_g (g_t rfl rfl rfl (fun hG=>Za rfl rfl u_0))<|o_p rfl (Zbi rfl rfl u_0 (fun hz=>(Opd.gd hz u_1)))<|o_n) (by kernel_rfl) (fun a g hst hb=>?_)
  refine Zca (fun a w=>∃ (j10:Int) (g:G),w=g.w ∧ St 109 [(1,(Zbg a1)),(3,(pBox Zi 3 r3)),(5,(Z4.ptr a2)),(6,(pBox Zi 6 (default:Ze))),(8,(pBox Zm 8 (default:Zg))),(9,(pInt .i64 j10))] a g ∧ Base g0 g ∧ Zel a1 a2 r3 j10=some r) ?_ ?_
  ·rintro a w ⟨j10,g,rfl,hst,hb,H0⟩
   unfold Zel at H0
   refine Zs ?_
   refine wp_seq ?_
   refine r_s (T:=[⟨[.old 5],_,[],[],[27]⟩,⟨[.op 0 0],_,[],[0],[28]⟩,⟨[.op 1 0],_,[],[0,1],[29]⟩,⟨[.op 2 0,.old 2],_,[],[0,1,2],[30]⟩,⟨[.op 2 0,.op 3 0],_,[],Lr 4,[31]⟩,⟨[.op 2 0,.op 4 0],_,[],Lr 5,[32]⟩,⟨[.op 2 0,.op 5 0],_,[],Lr 6,[33]⟩,⟨[.op 6 0],_,[],Lr 7,[34]⟩,⟨[.op 7 0,.old 0],_,[],Lr 8,[35]⟩,⟨[.op 7 0,.op 8 0],_,[],Lr 9,[36]⟩]) (F:=[.old 0,.old 1,.old 2,.old 3,.old 4,.old 5,.op 9 0]) hst hb Zb
    (o_p rfl (Za rfl rfl u_0)<|o_p rfl (Zbs rfl rfl u_0 c_i)<|o_p rfl (Za rfl rfl u_0)<|o_g (g_t rfl rfl rfl (fun hG=>Zd Zdh rfl rfl u_0))<|o_g (g_t rfl rfl rfl (fun hG=>Zf ty_3 rfl rfl (Opd.gd hG u_0)))<|o_g (g_t rfl rfl rfl (fun hG=>Zbs rfl rfl (Opd.gd hG u_0) c_i))<|o_p rfl (Zbi rfl rfl u_0 (fun hz=>(Opd.gd hz u_1)))<|o_p rfl (Za rfl rfl u_0)<|o_g (g_t rfl rfl rfl (fun hG=>Za rfl rfl u_0))<|o_p rfl (Zbi rfl rfl u_0 (fun hz=>(Opd.gd hz u_1)))<|o_n) (by kernel_rfl) (fun a g hst hb=>?_)
   refine Zca (fun a w=>∃ (j12:Int) (g:G),w=g.w ∧ St 109 [(1,(Zbg a1)),(3,(pBox Zi 3 r3)),(5,(Z4.ptr a2)),(6,(pBox Zi 6 (default:Ze))),(8,(pBox Zm 8 (default:Zg))),(9,(pInt .i64 j12))] a g ∧ Base g0 g ∧ Zf8 a1 a2 r3 j12=some r) ?_ ?_
   ·rintro a w ⟨j12,g,rfl,hst,hb,H0⟩
    unfold Zf8 at H0
    refine Zs ?_
    refine wp_seq ?_
    refine r_s (T:=⟨[.old 5],_,[],[],[37]⟩ :: ⟨[.op 0 0],_,[],[0],[38]⟩ :: ⟨[.op 1 0],_,[],[0,1],[39]⟩ :: ⟨[.op 2 0,.old 0],_,[],[0,1,2],[40]⟩ :: ⟨[.op 2 0,.op 3 0],_,[],Lr 4,[41]⟩ :: ⟨[.op 2 0,.op 4 0],_,[],Lr 5,[42]⟩ :: ⟨[.op 5 0],_,[],Lr 6,[43]⟩ :: ⟨[.op 6 0,.old 2],_,[],Lr 7,[44]⟩ :: ⟨[.op 6 0,.op 7 0],_,[],Lr 8,[45]⟩ :: ⟨[.op 6 0,.op 8 0],_,[],Lr 9,[46]⟩ :: ⟨[.op 6 0,.op 9 0],_,[],Lr 10,[47]⟩ :: ⟨[.op 10 0],_,[],Lr 11,[48]⟩ :: ⟨[.op 11 0,.old 2],_,[],Lr 12,[49]⟩ :: ⟨[.op 11 0,.op 12 0],_,[],Lr 13,[50]⟩ :: ⟨[.op 11 0,.op 13 0],_,[],Lr 14,[51]⟩ :: ⟨[.op 11 0,.op 14 0],_,[],Lr 15,[52]⟩ :: []) (F:=[.old 0,.old 1,.old 2,.old 3,.old 4,.old 5,.op 15 0]) hst hb Zb
     (o_p rfl (Za rfl rfl u_0)<|o_p rfl (Zbs rfl rfl u_0 c_i)<|o_p rfl (Za rfl rfl u_0)<|o_g (g_t rfl rfl rfl (fun hG=>Za rfl rfl u_0))<|o_g (g_t rfl rfl rfl (fun hG=>Zb2 rfl rfl (Opd.gd hG u_0)))<|o_p rfl (Zbi rfl rfl u_0 (fun hz=>(Opd.gd hz u_1)))<|o_p rfl (Za rfl rfl u_0)<|o_g (g_t rfl rfl rfl (fun hG=>Zd Zdh rfl rfl u_0))<|o_g (g_t rfl rfl rfl (fun hG=>Zf ty_3 rfl rfl (Opd.gd hG u_0)))<|o_g (g_t rfl rfl rfl (fun hG=>Zdk rfl rfl (Opd.gd hG u_0) c_i))<|o_p rfl (Zbi rfl rfl u_0 (fun hz=>(Opd.gd hz u_1)))<|o_p rfl (Za rfl rfl u_0)<|o_g (g_t rfl rfl rfl (fun hG=>Zd Zdh rfl rfl u_0))<|o_g (g_t rfl rfl rfl (fun hG=>Zf ty_3 rfl rfl (Opd.gd hG u_0)))<|o_g (g_t rfl rfl rfl (fun hG=>Zdk rfl rfl (Opd.gd hG u_0) c_i))<|o_p rfl (Zbi rfl rfl u_0 (fun hz=>(Opd.gd hz u_1)))<|o_n) (by kernel_rfl) (fun a g hst hb=>?_)
    refine Zca (fun a w=>∃ (j14:Int) (g:G),w=g.w ∧ St 109 [(1,(Zbg a1)),(3,(pBox Zi 3 r3)),(5,(Z4.ptr a2)),(6,(pBox Zi 6 (default:Ze))),(8,(pBox Zm 8 (default:Zg))),(9,(pInt .i64 j14))] a g ∧ Base g0 g ∧ Zgb a1 a2 r3 j14=some r) ?_ ?_
    ·rintro a w ⟨j14,g,rfl,hst,hb,H0⟩
     unfold Zgb at H0
     refine Zs ?_
     obtain ⟨r15,h16,H0⟩:=Zh H0
     refine r_s (T:=[⟨[.old 2],_,[],[],[53]⟩,⟨[.op 0 0],_,[],[0],[54]⟩,⟨[.op 1 0],_,[],[0,1],[55]⟩,⟨[.op 2 0],_,[],[0,1,2],[10]⟩]) (F:=[.old 0,.old 1,.old 2,.old 3,.old 4,.old 5,.op 3 0]) hst hb Zb
      (o_p rfl (Zd Zdh rfl rfl u_0)<|o_p rfl (Zf ty_3 rfl rfl u_0)<|o_p rfl (Zo Z3x (Zmg _ h16) rfl rfl (.cons u_0 .nil))<|o_p rfl (Zc rfl rfl u_0)<|o_n) (by kernel_rfl) (fun a g hst hb=>?_)
     refine wp_seq ?_
     refine r_s (T:=⟨[.old 5],_,[],[],[56]⟩ :: ⟨[.op 0 0],_,[],[0],[57]⟩ :: ⟨[.op 1 0],_,[],[0,1],[58]⟩ :: ⟨[.op 2 0,.old 6],_,[],[0,1,2],[59]⟩ :: ⟨[.op 2 0,.op 3 0],_,[],Lr 4,[60]⟩ :: ⟨[.op 2 0,.op 4 0],_,[],Lr 5,[61]⟩ :: ⟨[.op 5 0],_,[],Lr 6,[62]⟩ :: ⟨[.op 6 0,.old 6],_,[],Lr 7,[63]⟩ :: ⟨[.op 6 0,.old 1],_,[],Lr 7,[64]⟩ :: ⟨[.op 6 0,.op 8 0],_,[],[0,1,2,3,4,5,6,8],[65]⟩ :: ⟨[.op 6 0,.op 7 0,.op 9 0],_,[],Lr 10,[66]⟩ :: ⟨[.op 6 0,.op 10 0],_,[],Lr 11,[67]⟩ :: []) (F:=[.old 0,.old 1,.old 2,.old 3,.old 4,.old 5,.op 11 0]) hst hb Zb
      (o_p rfl (Za rfl rfl u_0)<|o_p rfl (Zbs rfl rfl u_0 c_i)<|o_p rfl (Za rfl rfl u_0)<|o_g (g_t rfl rfl rfl (fun hG=>Za rfl rfl u_0))<|o_g (g_t rfl rfl rfl (fun hG=>Zdk rfl rfl (Opd.gd hG u_0) c_i))<|o_p rfl (Zbi rfl rfl u_0 (fun hz=>(Opd.gd hz u_1)))<|o_p rfl (Za rfl rfl u_0)<|o_g (g_t rfl rfl rfl (fun hG=>Za rfl rfl u_0))<|o_g (g_t rfl rfl rfl (fun hG=>Zt Zge (off:=0) (by kernel_rfl) rfl rfl u_0))<|o_g (g_t rfl rfl rfl (fun hG=>Zbr ty_3 rfl rfl (Opd.gd hG u_0)))<|o_g (g_t rfl rfl rfl (fun hG=>Zdk rfl rfl (Opd.gd hG u_0) (Opd.gd hG u_1)))<|o_p rfl (Zbi rfl rfl u_0 (fun hz=>(Opd.gd hz u_1)))<|o_n) (by kernel_rfl) (fun a g hst hb=>?_)
     refine Zca (fun a w=>∃ (j18:Int) (g:G),w=g.w ∧ St 109 [(1,(Zbg a1)),(3,(pBox Zi 3 r3)),(5,(Z4.ptr a2)),(6,(pBox Zi 6 (default:Ze))),(8,(pBox Zm 8 (default:Zg))),(9,(pInt .i64 j18))] a g ∧ Base g0 g ∧ Zgd a1 a2 r3 j18=some r) ?_ ?_
     ·rintro a w ⟨j18,g,rfl,hst,hb,H0⟩
      unfold Zgd at H0
      refine Zs ?_
      refine wp_seq ?_
      refine r_s (T:=[⟨[.old 5],_,[],[],[68]⟩,⟨[.op 0 0],_,[],[0],[69]⟩]) (F:=[.old 0,.old 1,.old 2,.old 3,.old 4,.old 5,.op 1 0]) hst hb Zb
       (o_p rfl (Za rfl rfl u_0)<|o_p rfl (Zdk rfl rfl u_0 c_i)<|o_n) (by kernel_rfl) (fun a g hst hb=>?_)
      refine wp_cond_split (hst.bool 6 rfl) (fun hc19=>?_) (fun hc19=>?_)
      ·replace H0:=Zv hc19 H0
       refine r_s (L:=[(1,_),(3,_),(6,_),(8,_),(9,_)]) (T:=[⟨[.old 1],_,[],[],[70]⟩,⟨[.old 0],_,[],[],[71]⟩,⟨[.old 4],_,[],[],[72]⟩,⟨[.op 2 0],_,[],[2],[73]⟩,⟨[.op 0 0,.old 2],_,[7],[0],[6]⟩,⟨[.op 1 0],_,[],[0,1,4],[7]⟩,⟨[.op 3 0,.old 3],_,[9],Lr 6,[8]⟩]) (F:=[.op 4 0,.op 5 0,.op 6 0]) (hst.pick [0,1,3,4,5] rfl) hb Zb
        (o_p rfl (Zb0 Zbc rfl rfl u_0)<|o_p rfl (Za rfl rfl u_0)<|o_p rfl (Za rfl rfl u_0)<|o_p rfl (Zqn rfl rfl u_0)<|o_p rfl (Z2 Zbc rfl rfl u_1 u_0)<|o_p rfl (Zc rfl rfl u_0)<|o_p rfl (Z2 Zb9 rfl rfl u_1 u_0)<|o_n) (by kernel_rfl) (fun a g hst hb=>?_)
       refine wp_ret ?_
       refine Zr ?_
       obtain rfl:=Option.some.inj H0
       obtain ⟨u0,hu0,hq0⟩:=Zbf (P:=Tryz.prog) Zbc (hst.at 0 rfl)
       obtain ⟨u2,hu2,hq2⟩:=Zbf (P:=Tryz.prog) Zb9 (hst.at 2 rfl)
       exact Zi3 rfl hst hb hu0 (Zk (s:=7)) hu2 (Zg1 hq0 (hst.at 1 rfl) hq2)
      ·replace H0:=Zw hc19 H0
       refine wp_skip ?_
       refine Zs ?_
       refine wp_seq ?_
       refine r_s (L:=[(1,_),(3,_),(5,_),(6,_),(8,_)]) (T:=[⟨[.old 2],_,[],[],[74]⟩,⟨[.op 0 0],_,[],[0],[75]⟩]) (F:=[.old 0,.old 1,.old 2,.old 3,.old 4,.op 1 0]) (hst.pick [0,1,2,3,4] rfl) hb Zb
        (o_p rfl (Zd Zdh rfl rfl u_0)<|o_p rfl (Zf ty_3 rfl rfl u_0)<|o_n) (by kernel_rfl) (fun a g hst hb=>?_)
       refine wp_block ?_
       refine r_s (T:=[⟨[.old 5],_,[],[],[77]⟩,⟨[.op 0 0],_,[],[0],[76]⟩]) (F:=[.old 0,.old 1,.old 2,.old 3,.old 4,.old 5,.op 1 0]) hst hb Zb
        (o_p rfl (Zbs rfl rfl u_0 c_i)<|o_p rfl (Zc rfl rfl u_0)<|o_n) (by kernel_rfl) (fun a g hst hb=>?_)
       refine wp_cond_split (hst.bool 6 rfl) (fun hc20=>?_) (fun hc20=>?_)
       ·replace H0:=Zv hc20 H0
        obtain ⟨r21,h22,H0⟩:=Zh H0
        refine r_s (L:=[(5,_),(6,_),(8,_)]) (T:=[⟨[.old 0],_,[],[],[78]⟩,⟨[.op 0 0],_,[],[0],[79]⟩,⟨[.op 1 0],_,[],[0,1],[80]⟩,⟨[],_,[],[],[81]⟩,⟨[.op 2 0,.old 1],_,[7],[0,1,2],[6]⟩,⟨[],_,[],[0,1,2,4],[7]⟩,⟨[.op 3 0,.old 2],_,[9],Lr 6,[8]⟩]) (F:=[.op 4 0,.op 5 0,.op 6 0]) (hst.pick [2,3,4] rfl) hb Zb
         (o_p rfl (Zd Zmd rfl rfl u_0)<|o_p rfl (Zf Zbc rfl rfl u_0)<|o_p rfl (Zo Zyq (Zii _ h22) rfl rfl (.cons u_0 .nil))<|o_p rfl (Zqq rfl rfl )<|o_p rfl (Z2 Zbc rfl rfl u_1 u_0)<|o_p rfl (Zc rfl rfl c_b)<|o_p rfl (Z2 Zb9 rfl rfl u_1 u_0)<|o_n) (by kernel_rfl) (fun a g hst hb=>?_)
        refine wp_ret ?_
        refine Z6 ?_
        refine Zr ?_
        obtain rfl:=Option.some.inj H0
        obtain ⟨u0,hu0,hq0⟩:=Zbf (P:=Tryz.prog) Zbc (hst.at 0 rfl)
        obtain ⟨u2,hu2,hq2⟩:=Zbf (P:=Tryz.prog) Zb9 (hst.at 2 rfl)
        exact Zi3 rfl hst hb hu0 (Zk (s:=7)) hu2 (Zg1 hq0 (hst.at 1 rfl) hq2)
       ·replace H0:=Zw hc20 H0
        refine r_s (L:=[(1,_),(3,_),(5,_),(6,_),(8,_),(75,_)]) (T:=[⟨[.old 5],_,[],[],[83]⟩,⟨[.op 0 0],_,[],[0],[82]⟩]) (F:=[.old 0,.old 1,.old 2,.old 3,.old 4,.old 5,.op 1 0]) (hst.pick [0,1,2,3,4,5] rfl) hb Zb
         (o_p rfl (Zbs rfl rfl u_0 c_i)<|o_p rfl (Zc rfl rfl u_0)<|o_n) (by kernel_rfl) (fun a g hst hb=>?_)
        refine wp_cond_split (hst.bool 6 rfl) (fun hc23=>?_) (fun hc23=>?_)
        ·replace H0:=Zv hc23 H0
         refine r_s (L:=[(6,_),(8,_)]) (T:=[⟨[],_,[],[],[84]⟩,⟨[],_,[],[],[85]⟩,⟨[.op 0 0,.old 0],_,[7],[0],[6]⟩,⟨[],_,[],[0,2],[7]⟩,⟨[.op 1 0,.old 1],_,[9],Lr 4,[8]⟩]) (F:=[.op 2 0,.op 3 0,.op 4 0]) (hst.pick [3,4] rfl) hb Zb
          (o_p rfl (Znc rfl rfl )<|o_p rfl (Zqq rfl rfl )<|o_p rfl (Z2 Zbc rfl rfl u_1 u_0)<|o_p rfl (Zc rfl rfl c_b)<|o_p rfl (Z2 Zb9 rfl rfl u_1 u_0)<|o_n) (by kernel_rfl) (fun a g hst hb=>?_)
         refine wp_ret ?_
         refine Z6 ?_
         refine Zr ?_
         obtain rfl:=Option.some.inj H0
         obtain ⟨u0,hu0,hq0⟩:=Zbf (P:=Tryz.prog) Zbc (hst.at 0 rfl)
         obtain ⟨u2,hu2,hq2⟩:=Zbf (P:=Tryz.prog) Zb9 (hst.at 2 rfl)
         exact Zi3 rfl hst hb hu0 (Zk (s:=7)) hu2 (Zg1 hq0 (hst.at 1 rfl) hq2)
        ·replace H0:=Zw hc23 H0
         refine r_s (L:=[(1,_),(3,_),(5,_),(6,_),(8,_),(75,_)]) (T:=[⟨[.old 5],_,[],[],[87]⟩,⟨[.op 0 0],_,[],[0],[86]⟩]) (F:=[.old 0,.old 1,.old 2,.old 3,.old 4,.old 5,.op 1 0]) (hst.pick [0,1,2,3,4,5] rfl) hb Zb
          (o_p rfl (Zbs rfl rfl u_0 c_i)<|o_p rfl (Zc rfl rfl u_0)<|o_n) (by kernel_rfl) (fun a g hst hb=>?_)
         refine wp_cond_split (hst.bool 6 rfl) (fun hc24=>?_) (fun hc24=>?_)
         ·replace H0:=Zv hc24 H0
          refine r_s (L:=[(1,_),(3,_),(6,_),(8,_)]) (T:=[⟨[.old 1],_,[],[],[88]⟩,⟨[.old 0],_,[],[],[89]⟩,⟨[.old 1],_,[],[],[90]⟩,⟨[.op 2 0],_,[],[2],[91]⟩,⟨[.op 3 0],_,[],[2,3],[92]⟩,⟨[.op 0 0,.old 2],_,[7],[0],[6]⟩,⟨[.op 1 0],_,[],[0,1,5],[7]⟩,⟨[.op 4 0,.old 3],_,[9],Lr 7,[8]⟩]) (F:=[.op 5 0,.op 6 0,.op 7 0]) (hst.pick [0,1,3,4] rfl) hb Zb
           (o_p rfl (Zb0 Zbc rfl rfl u_0)<|o_p rfl (Za rfl rfl u_0)<|o_p rfl (Zt Zge (off:=0) (by kernel_rfl) rfl rfl u_0)<|o_p rfl (Zbr ty_3 rfl rfl u_0)<|o_p rfl (Z2b rfl rfl u_0)<|o_p rfl (Z2 Zbc rfl rfl u_1 u_0)<|o_p rfl (Zc rfl rfl u_0)<|o_p rfl (Z2 Zb9 rfl rfl u_1 u_0)<|o_n) (by kernel_rfl) (fun a g hst hb=>?_)
          refine wp_ret ?_
          refine Z6 ?_
          refine Zr ?_
          obtain rfl:=Option.some.inj H0
          obtain ⟨u0,hu0,hq0⟩:=Zbf (P:=Tryz.prog) Zbc (hst.at 0 rfl)
          obtain ⟨u2,hu2,hq2⟩:=Zbf (P:=Tryz.prog) Zb9 (hst.at 2 rfl)
          exact Zi3 rfl hst hb hu0 (Zk (s:=7)) hu2 (Zg1 hq0 (hst.at 1 rfl) hq2)
         ·replace H0:=Zw hc24 H0
          refine r_s (L:=[(1,_),(3,_),(5,_),(6,_),(8,_),(75,_)]) (T:=[⟨[.old 5],_,[],[],[94]⟩,⟨[.op 0 0],_,[],[0],[93]⟩]) (F:=[.old 0,.old 1,.old 2,.old 3,.old 4,.op 1 0]) (hst.pick [0,1,2,3,4,5] rfl) hb Zb
           (o_p rfl (Zbs rfl rfl u_0 c_i)<|o_p rfl (Zc rfl rfl u_0)<|o_n) (by kernel_rfl) (fun a g hst hb=>?_)
          refine wp_cond_split (hst.bool 5 rfl) (fun hc25=>?_) (fun hc25=>?_)
          ·replace H0:=Zv hc25 H0
           obtain ⟨r26,h27,H0⟩:=Zh H0
           refine r_s (L:=[(1,_),(3,_),(6,_),(8,_)]) (T:=[⟨[.old 1],_,[],[],[95]⟩,⟨[.old 0],_,[],[],[96]⟩,⟨[.old 1],_,[],[],[97]⟩,⟨[.op 2 0],_,[],[2],[98]⟩,⟨[.op 3 0],_,[],[2,3],[99]⟩,⟨[.op 0 0,.old 2],_,[7],[0,2,3],[6]⟩,⟨[.op 1 0],_,[],[0,1,2,3,5],[7]⟩,⟨[.op 4 0,.old 3],_,[9],Lr 7,[8]⟩]) (F:=[.op 5 0,.op 6 0,.op 7 0]) (hst.pick [0,1,3,4] rfl) hb Zb
            (o_p rfl (Zb0 Zbc rfl rfl u_0)<|o_p rfl (Za rfl rfl u_0)<|o_p rfl (Zb0 Zbc rfl rfl u_0)<|o_p rfl (Zo Zyq (Zii _ h27) rfl rfl (.cons u_0 .nil))<|o_p rfl (Z2i rfl rfl u_0)<|o_p rfl (Z2 Zbc rfl rfl u_1 u_0)<|o_p rfl (Zc rfl rfl u_0)<|o_p rfl (Z2 Zb9 rfl rfl u_1 u_0)<|o_n) (by kernel_rfl) (fun a g hst hb=>?_)
           refine wp_ret ?_
           refine Z6 ?_
           refine Zr ?_
           obtain rfl:=Option.some.inj H0
           obtain ⟨u0,hu0,hq0⟩:=Zbf (P:=Tryz.prog) Zbc (hst.at 0 rfl)
           obtain ⟨u2,hu2,hq2⟩:=Zbf (P:=Tryz.prog) Zb9 (hst.at 2 rfl)
           exact Zi3 rfl hst hb hu0 (Zk (s:=7)) hu2 (Zg1 hq0 (hst.at 1 rfl) hq2)
          ·replace H0:=Zw hc25 H0
           refine wp_skip ?_
           refine Zbe ?_
           refine Zs ?_
           obtain ⟨r28,h29,H0⟩:=Zh H0
           refine r_s (L:=[(1,_),(3,_),(5,_),(6,_),(8,_)]) (T:=[⟨[.old 1],_,[],[],[101]⟩,⟨[.old 2],_,[],[],[102]⟩,⟨[.op 0 0,.op 1 0],_,[],[0,1],[103]⟩,⟨[.op 2 0],_,[],[0,1,2],[100]⟩,⟨[.op 3 0],_,[],Lr 4,[104]⟩,⟨[.op 3 0],_,[],Lr 4,[105]⟩,⟨[],[(11,(pBox Zi 11 (default:Ze)))],[12],[],[11]⟩,⟨[],[(12,(pBox Zm 12 (default:Zg)))],[13],[],[12]⟩,⟨[.op 4 0,.op 6 0],_,[12],[0,1,2,3,4,6,7],[11]⟩,⟨[.op 5 0,.op 7 0],_,[13],Lr 9,[12]⟩]) (F:=[.old 0,.old 3,.old 4,.op 8 0,.op 9 0]) (hst.pick [0,1,2,3,4] rfl) hb Zb
            (o_p rfl (Zb0 Zbc rfl rfl u_0)<|o_p rfl (Zf Zh1 rfl rfl u_0)<|o_p rfl (Zo Zbbq (Ztr _ _ h29) rfl rfl (.cons u_0 (.cons u_1 .nil)))<|o_p rfl (Za rfl rfl u_0)<|o_p rfl (Z0 rfl rfl u_0 rfl)<|o_p rfl (Z0 rfl rfl u_0 rfl)<|o_p rfl (Zbh (zs:=[.int .i64 0,.int .i64 0,.int .i64 0,.int .i64 0,.float .f64 0,.int .i64 0,.string ByteArray.empty,.slice none 0 0]) (by kernel_rfl) (fun g=>Zb4 g) rfl rfl)<|o_p rfl (Zbh (zs:=[.int .i64 0,.int .i64 0,.int .i64 0,.int .i64 0,.int .i64 0,.int .i64 0,.float .f64 0,.int .i64 0,.string ByteArray.empty,.slice none 0 0]) (by kernel_rfl) (fun g=>Zeb g) rfl rfl)<|o_p rfl (Zb5 Zbc rfl rfl u_1 u_0)<|o_p rfl (Zb5 Zb9 rfl rfl u_1 u_0)<|o_n) (by kernel_rfl) (fun a g hst hb=>?_)
           refine r_s (T:=[⟨[.old 3],_,[],[],[106]⟩,⟨[.old 0],_,[],[],[107]⟩,⟨[.old 4],_,[],[],[108]⟩,⟨[.op 0 0,.old 1],_,[7],[0],[6]⟩,⟨[.op 1 0],_,[],[0,1,3],[7]⟩,⟨[.op 2 0,.old 2],_,[9],Lr 5,[8]⟩]) (F:=[.op 3 0,.op 4 0,.op 5 0]) hst hb Zb
            (o_p rfl (Zf Zbc rfl rfl u_0)<|o_p rfl (Za rfl rfl u_0)<|o_p rfl (Zf Zb9 rfl rfl u_0)<|o_p rfl (Z2 Zbc rfl rfl u_1 u_0)<|o_p rfl (Zc rfl rfl u_0)<|o_p rfl (Z2 Zb9 rfl rfl u_1 u_0)<|o_n) (by kernel_rfl) (fun a g hst hb=>?_)
           refine wp_ret ?_
           obtain rfl:=Option.some.inj H0
           obtain ⟨u0,hu0,hq0⟩:=Zbf (P:=Tryz.prog) Zbc (hst.at 0 rfl)
           obtain ⟨u2,hu2,hq2⟩:=Zbf (P:=Tryz.prog) Zb9 (hst.at 2 rfl)
           exact Zi3 rfl hst hb hu0 (Zk (s:=7)) hu2 (Zg1 hq0 (hst.at 1 rfl) hq2)
     ·refine wp_cond_split (hst.bool 6 rfl) (fun hc17=>?_) (fun hc17=>?_)
      ·replace H0:=Zv hc17 H0
       refine r_g (L:=[(1,_),(3,_),(5,_),(6,_),(8,_)]) (T:=[⟨[],_,[],[],[9]⟩]) (F:=[.old 0,.old 1,.old 2,.old 3,.old 4,.op 0 0]) (hst.pick [0,1,2,3,4] rfl) hb Zb
        (o_p rfl (Zc rfl rfl c_i)<|o_n) (by kernel_rfl) (fun a g hst hb=>?_)
       exact ⟨(5:Int),g,rfl,(hst.pick [0,1,2,3,4,5] rfl),hb,H0⟩
      ·replace H0:=Zw hc17 H0
       refine wp_skip ?_
       exact ⟨j14,g,rfl,(hst.pick [0,1,2,3,4,5] rfl),hb,H0⟩
    ·refine wp_cond_split (hst.bool 6 rfl) (fun hc13=>?_) (fun hc13=>?_)
     ·replace H0:=Zv hc13 H0
      refine r_g (L:=[(1,_),(3,_),(5,_),(6,_),(8,_)]) (T:=[⟨[],_,[],[],[9]⟩]) (F:=[.old 0,.old 1,.old 2,.old 3,.old 4,.op 0 0]) (hst.pick [0,1,2,3,4] rfl) hb Zb
       (o_p rfl (Zc rfl rfl c_i)<|o_n) (by kernel_rfl) (fun a g hst hb=>?_)
      exact ⟨(6:Int),g,rfl,(hst.pick [0,1,2,3,4,5] rfl),hb,H0⟩
     ·replace H0:=Zw hc13 H0
      refine wp_skip ?_
      exact ⟨j12,g,rfl,(hst.pick [0,1,2,3,4,5] rfl),hb,H0⟩
   ·refine wp_cond_split (hst.bool 6 rfl) (fun hc11=>?_) (fun hc11=>?_)
    ·replace H0:=Zv hc11 H0
     refine r_g (L:=[(1,_),(3,_),(5,_),(6,_),(8,_)]) (T:=[⟨[],_,[],[],[9]⟩]) (F:=[.old 0,.old 1,.old 2,.old 3,.old 4,.op 0 0]) (hst.pick [0,1,2,3,4] rfl) hb Zb
      (o_p rfl (Zc rfl rfl c_i)<|o_n) (by kernel_rfl) (fun a g hst hb=>?_)
     exact ⟨(7:Int),g,rfl,(hst.pick [0,1,2,3,4,5] rfl),hb,H0⟩
    ·replace H0:=Zw hc11 H0
     refine wp_skip ?_
     exact ⟨j10,g,rfl,(hst.pick [0,1,2,3,4,5] rfl),hb,H0⟩
  ·refine wp_cond_split (hst.bool 6 rfl) (fun hc7=>?_) (fun hc7=>?_)
   ·replace H0:=Zv hc7 H0
    obtain ⟨r8,h9,H0⟩:=Zh H0
    refine r_g (L:=[(1,_),(3,_),(5,_),(6,_),(8,_)]) (T:=[⟨[.old 1],_,[],[],[25]⟩,⟨[.op 0 0],_,[],[0],[26]⟩,⟨[.op 1 0],_,[],[0,1],[9]⟩]) (F:=[.old 0,.old 1,.old 2,.old 3,.old 4,.op 2 0]) (hst.pick [0,1,2,3,4] rfl) hb Zb
     (o_p rfl (Zb0 Zbc rfl rfl u_0)<|o_p rfl (Zo Z3d (Zkz _ h9) rfl rfl (.cons u_0 .nil))<|o_p rfl (Zc rfl rfl u_0)<|o_n) (by kernel_rfl) (fun a g hst hb=>?_)
    exact ⟨r8,g,rfl,(hst.pick [0,1,2,3,4,5] rfl),hb,H0⟩
   ·replace H0:=Zw hc7 H0
    refine wp_skip ?_
    exact ⟨r5,g,rfl,(hst.pick [0,1,2,3,4,5] rfl),hb,H0⟩
 ·refine wp_cond_split (hst.bool 5 rfl) (fun hc1=>?_) (fun hc1=>?_)
  ·replace H0:=Zv hc1 H0
   refine r_g (L:=[(1,_),(3,_),(5,_),(6,_),(8,_)]) (T:=[⟨[],_,[],[],[15]⟩,⟨[.op 0 0,.old 1],_,[4],[0],[3]⟩]) (F:=[.old 0,.op 1 0,.old 2,.old 3,.old 4]) (hst.pick [0,1,2,3,4] rfl) hb Zb
    (o_p rfl (Znc rfl rfl )<|o_p rfl (Z2 Zbc rfl rfl u_1 u_0)<|o_n) (by kernel_rfl) (fun a g hst hb=>?_)
   exact ⟨({ Kind:=(0:Int),Num:=(0:Int),Low:=(0:Int),High:=(0:Int),Real:=(0:Nat),Cap:=(0:Int),Text:=ByteArray.empty,List:=([]:List Zl) }:Ze),g,rfl,(hst.pick [0,1,2,3,4] rfl),hb,H0⟩
  ·replace H0:=Zw hc1 H0
   refine wp_skip ?_
   exact ⟨a0,g,rfl,(hst.pick [0,1,2,3,4] rfl),hb,H0⟩
theorem Zpb (a0:Zj) (a1:ByteArray) {r:Zj × Bool} (h:Zg0 a0 a1=some r):FnOk Tryz.prog 67 [(Zbb.pd a0),(pStr a1)] (pTup [(Zbb.pd r.1),(Zbg r.2)]):=by
 have H0:=h
 unfold Zg0 at H0
 clear h
 refine Zbu (N:=43) Tryz.func67 rfl rfl (Nat.le_of_ble_eq_true rfl) rfl rfl (fun a g0 hst hb=>?_)
 refine r_s (T:=[⟨[.old 0],_,[],[],[2]⟩,⟨[],[(4,(pBox Zbb 4 (default:Zj)))],[5],[],[4]⟩,⟨[],_,[],[],[5]⟩]) (F:=[.old 1,.op 0 0,.op 1 0]) hst hb Zb
  (o_p rfl (Zbq rfl rfl u_0)<|o_p rfl (Zbh (zs:=[.slice none 0 0,.int .i64 0]) (by kernel_rfl) (fun g=>Zfi g) rfl rfl)<|o_p rfl (Zc rfl rfl c_b)<|o_n) (by kernel_rfl) (fun a g hst hb=>?_)
 obtain ⟨r1,h2,H0⟩:=Zh H0
 refine r_s (T:=[⟨[.old 1],_,[],[],[8]⟩,⟨[.old 0],_,[],[],[9]⟩,⟨[.op 0 0,.op 1 0],_,[],[0,1],[10]⟩,⟨[.op 2 0],_,[],[0,1,2],[6]⟩]) (F:=[.old 0,.old 1,.old 2,.op 3 0]) hst hb Zb
  (o_p rfl (Zf Zcv rfl rfl u_0)<|o_p rfl (Za rfl rfl u_0)<|o_p rfl (Zo Z2y (Zi0 _ _ h2) rfl rfl (.cons u_0 (.cons u_1 .nil)))<|o_p rfl (Zc rfl rfl u_0)<|o_n) (by kernel_rfl) (fun a g hst hb=>?_)
 refine wp_seq ?_
 obtain ⟨e3,h4,H0⟩:=Zh H0
 refine r_s (T:=⟨[.old 3],_,[],[],[11]⟩ :: ⟨[.old 1],_,[],[],[12]⟩ :: ⟨[.op 1 0],_,[],[1],[13]⟩ :: ⟨[.op 2 0],_,[],[1,2],[14]⟩ :: ⟨[.op 0 0,.op 3 0],_,[],Lr 4,[15]⟩ :: ⟨[.op 4 0],_,[],Lr 5,[16]⟩ :: ⟨[.op 5 0,.old 1],_,[],Lr 6,[17]⟩ :: ⟨[.op 5 0,.op 6 0],_,[],Lr 7,[18]⟩ :: ⟨[.op 5 0,.old 3],_,[],Lr 6,[19]⟩ :: ⟨[.op 5 0,.op 7 0,.op 8 0],_,[],Lr 9,[20]⟩ :: ⟨[.op 5 0,.op 9 0],_,[],Lr 10,[21]⟩ :: ⟨[.op 5 0,.op 10 0],_,[],Lr 11,[22]⟩ :: ⟨[.op 5 0,.old 0],_,[],Lr 6,[23]⟩ :: ⟨[.op 5 0,.op 11 0,.op 12 0],_,[],Lr 13,[24]⟩ :: ⟨[.op 5 0,.op 13 0],_,[],Lr 14,[25]⟩ :: []) (F:=[.old 1,.old 2,.old 3,.op 14 0]) hst hb Zb
  (o_p rfl (Za rfl rfl u_0)<|o_p rfl (Zd Zg5 rfl rfl u_0)<|o_p rfl (Zf Zj9 rfl rfl u_0)<|o_p rfl (Zb1 Tryz.underlying22 rfl rfl u_0)<|o_p rfl (Zmn rfl rfl u_0 u_1)<|o_p rfl (Za rfl rfl u_0)<|o_g (g_f rfl rfl rfl (fun hG=>Zd Zg5 rfl rfl u_0))<|o_g (g_f rfl rfl rfl (fun hG=>Zf Zj9 rfl rfl (Opd.gd hG u_0)))<|o_g (g_f rfl rfl rfl (fun hG=>Za rfl rfl u_0))<|o_g (g_f rfl rfl rfl (fun hG=>Zbl Tryz.underlying22 Zm7 rfl rfl (Opd.gd hG u_0) (Opd.gd hG u_1) (Zbn h4 hG)))<|o_g (g_f rfl rfl rfl (fun hG=>Zd Zm5 rfl rfl (Opd.gd hG u_0)))<|o_g (g_f rfl rfl rfl (fun hG=>Zf ty_9 rfl rfl (Opd.gd hG u_0)))<|o_g (g_f rfl rfl rfl (fun hG=>Za rfl rfl u_0))<|o_g (g_f rfl rfl rfl (fun hG=>Zol rfl rfl (Opd.gd hG u_0) (Opd.gd hG u_1)))<|o_p rfl (Zbo rfl rfl u_0 (fun hz=>(Opd.gd (bNF hz) u_1)))<|o_n) (by kernel_rfl) (fun a g hst hb=>?_)
 refine wp_cond_split (hst.bool 3 rfl) (fun hc5=>?_) (fun hc5=>?_)
 ·replace H0:=Zv hc5 H0
  refine r_s (L:=[(2,_),(4,_)]) (T:=[⟨[.old 0],_,[],[],[26]⟩,⟨[.op 0 0,.old 1],_,[5],[0],[4]⟩,⟨[],_,[],[0,1],[5]⟩]) (F:=[.op 1 0,.op 2 0]) (hst.pick [0,1] rfl) hb Zb
   (o_p rfl (Zf Zcv rfl rfl u_0)<|o_p rfl (Z2 Zcv rfl rfl u_1 u_0)<|o_p rfl (Zc rfl rfl c_b)<|o_n) (by kernel_rfl) (fun a g hst hb=>?_)
  refine wp_ret ?_
  refine Zr ?_
  obtain rfl:=Option.some.inj H0
  obtain ⟨u0,hu0,hq0⟩:=Zbf (P:=Tryz.prog) Zcv (hst.at 0 rfl)
  exact Zdq rfl hst hb hu0 (Zk (s:=5)) (Zcw hq0 (hst.at 1 rfl))
 ·replace H0:=Zw hc5 H0
  refine wp_skip ?_
  refine Zs ?_
  obtain ⟨c6,h7,H0⟩:=Zh H0;obtain ⟨h8,H0⟩:=Zfz H0
  refine r_s (L:=[(2,_),(4,_),(6,_)]) (T:=[⟨[],_,[28],[],[27]⟩,⟨[.old 0],_,[],[],[28]⟩,⟨[.op 1 0],_,[],[1],[29]⟩,⟨[.old 2],_,[],[],[30]⟩,⟨[.op 2 0,.op 3 0],_,[],[1,2,3],[31]⟩,⟨[.op 0 0,.op 4 0],_,[28],Lr 5,[27,32]⟩,⟨[.op 5 0],_,[],Lr 6,[7]⟩]) (F:=[.old 0,.old 1,.old 2,.op 6 0]) (hst.pick [0,1,2] rfl) hb Zb
   (o_p rfl (Zku 27 Zp7 (xs:=[]) .nil (by decide) rfl rfl)<|o_p rfl (Zd Zg5 rfl rfl u_0)<|o_p rfl (Zf Zj9 rfl rfl u_0)<|o_p rfl (Za rfl rfl u_0)<|o_p rfl (Zti Tryz.underlying22 Zm7 rfl rfl u_0 u_1 h7)<|o_p rfl (Zfr Zp7 rfl rfl u_0 u_1 h8)<|o_p rfl (Zc rfl rfl u_0)<|o_n) (by kernel_rfl) (fun a g hst hb=>?_)
  obtain ⟨c9,h10,H0⟩:=Zh H0;obtain ⟨h11,H0⟩:=Zfz H0
  refine r_s (T:=⟨[.old 3],_,[],[],[33]⟩ :: ⟨[.old 0],_,[],[],[34]⟩ :: ⟨[.op 1 0],_,[],[1],[35]⟩ :: ⟨[.old 2],_,[],[],[36]⟩ :: ⟨[.op 3 0],_,[],[3],[37]⟩ :: ⟨[.op 2 0,.op 4 0],_,[],List.range' 1 4,[38]⟩ :: ⟨[.op 0 0,.op 5 0],_,[28],Lr 6,[7,33,39]⟩ :: ⟨[.old 0],_,[],[],[40]⟩ :: ⟨[.op 7 0],_,[],[7],[41]⟩ :: ⟨[.op 6 0,.op 8 0],_,[],Lr 9,[42]⟩ :: ⟨[.op 9 0,.old 1],_,[5],Lr 10,[4]⟩ :: ⟨[],_,[],Lr 11,[5]⟩ :: []) (F:=[.op 10 0,.op 11 0]) hst hb Zb
   (o_p rfl (Za rfl rfl u_0)<|o_p rfl (Zd Zg5 rfl rfl u_0)<|o_p rfl (Zf Zj9 rfl rfl u_0)<|o_p rfl (Za rfl rfl u_0)<|o_p rfl (Zb7 rfl rfl u_0 c_i rfl)<|o_p rfl (Z17 Tryz.underlying22 Zm7 rfl rfl u_0 u_1 h10)<|o_p rfl (Zfr Zp7 rfl rfl u_0 u_1 h11)<|o_p rfl (Zd Zqy rfl rfl u_0)<|o_p rfl (Zf ty_3 rfl rfl u_0)<|o_p rfl (Zxe rfl rfl (Opd.imp u_0 (fun _ _ h=>Zgi h)) u_1)<|o_p rfl (Z2 Zcv rfl rfl u_1 u_0)<|o_p rfl (Zc rfl rfl c_b)<|o_n) (by kernel_rfl) (fun a g hst hb=>?_)
  refine wp_ret ?_
  obtain rfl:=Option.some.inj H0
  obtain ⟨u0,hu0,hq0⟩:=Zbf (P:=Tryz.prog) Zcv (hst.at 0 rfl)
  exact Zdq rfl hst hb hu0 (Zk (s:=5)) (Zcw hq0 (hst.at 1 rfl))
theorem Zr9 (a0:Zj) (a1:Zu) {r:Zj × Zg} (h:Zik a0 a1=some r):FnOk Tryz.prog 43 [(Zbb.pd a0),(Z4.pd a1)] (pTup [(Zbb.pd r.1),(Zm.pd r.2)]):=by
 have H0:=h
 unfold Zik at H0
 clear h
 refine Zbu (N:=65) Tryz.func43 rfl rfl (Nat.le_of_ble_eq_true rfl) rfl rfl (fun a g0 hst hb=>?_)
 refine r_s (T:=[⟨[.old 0],_,[3],[],[2]⟩,⟨[.old 1],_,[],[],[3]⟩,⟨[],[(4,(pBox Zbb 4 (default:Zj)))],[5],[],[4]⟩,⟨[],[(5,(pBox Zm 5 (default:Zg)))],[6],[],[5]⟩]) (F:=[.op 0 0,.op 1 0,.op 2 0,.op 3 0]) hst hb Zb
  (o_p rfl (Zkm rfl rfl u_0)<|o_p rfl (Zbq rfl rfl u_0)<|o_p rfl (Zbh (zs:=[.slice none 0 0,.int .i64 0]) (by kernel_rfl) (fun g=>Zfi g) rfl rfl)<|o_p rfl (Zbh (zs:=[.int .i64 0,.int .i64 0,.int .i64 0,.int .i64 0,.int .i64 0,.int .i64 0,.float .f64 0,.int .i64 0,.string ByteArray.empty,.slice none 0 0]) (by kernel_rfl) (fun g=>Zeb g) rfl rfl)<|o_n) (by kernel_rfl) (fun a g hst hb=>?_)
 obtain ⟨r1,h2,H0⟩:=Zh H0
 refine r_s (T:=[⟨[.old 0],_,[],[],[12]⟩,⟨[.old 1],_,[],[],[13]⟩,⟨[.op 1 0],_,[],[1],[14]⟩,⟨[.op 0 0,.op 2 0],_,[],[0,1,2],[15]⟩,⟨[.op 3 0],_,[],Lr 4,[11]⟩,⟨[.op 4 0],_,[],Lr 5,[16]⟩,⟨[.op 4 0],_,[],Lr 5,[17]⟩,⟨[],[(6,(pBox Zi 6 (default:Ze)))],[7],[],[6]⟩,⟨[.op 5 0,.op 7 0],_,[7],[0,1,2,3,4,5,7],[6]⟩,⟨[.op 6 0],_,[],Lr 9,[7]⟩]) (F:=[.old 0,.old 1,.old 2,.old 3,.op 8 0,.op 9 0]) hst hb Zb
  (o_p rfl (Zb0 Zcv rfl rfl u_0)<|o_p rfl (Zd Zic rfl rfl u_0)<|o_p rfl (Zf ty_9 rfl rfl u_0)<|o_p rfl (Zo Zbcl (Zpu _ _ h2) rfl rfl (.cons u_0 (.cons u_1 .nil)))<|o_p rfl (Za rfl rfl u_0)<|o_p rfl (Z0 rfl rfl u_0 rfl)<|o_p rfl (Z0 rfl rfl u_0 rfl)<|o_p rfl (Zbh (zs:=[.int .i64 0,.int .i64 0,.int .i64 0,.int .i64 0,.float .f64 0,.int .i64 0,.string ByteArray.empty,.slice none 0 0]) (by kernel_rfl) (fun g=>Zb4 g) rfl rfl)<|o_p rfl (Zb5 Zbc rfl rfl u_1 u_0)<|o_p rfl (Zc rfl rfl u_0)<|o_n) (by kernel_rfl) (fun a g hst hb=>?_)
 obtain ⟨r3,h4,H0⟩:=Zh H0
 refine r_s (T:=⟨[.old 4],_,[],[],[19]⟩ :: ⟨[.old 5],_,[],[],[20]⟩ :: ⟨[.old 1],_,[],[],[21]⟩ :: ⟨[.op 0 0,.op 1 0,.op 2 0],_,[],[0,1,2],[22]⟩ :: ⟨[.op 3 0],_,[],Lr 4,[18]⟩ :: ⟨[.op 4 0],_,[],Lr 5,[23]⟩ :: ⟨[.op 4 0],_,[],Lr 5,[24]⟩ :: ⟨[.op 4 0],_,[],Lr 5,[25]⟩ :: ⟨[],[(8,(pBox Zi 8 (default:Ze)))],[9],[],[8]⟩ :: ⟨[],[(10,(pBox Zm 10 (default:Zg)))],[11],[],[10]⟩ :: ⟨[.op 5 0,.op 8 0],_,[9],[0,1,2,3,4,5,8,9],[8]⟩ :: ⟨[.op 6 0],_,[],[0,1,2,3,4,5,6,8,9,10],[9]⟩ :: ⟨[.op 7 0,.op 9 0],_,[11],Lr 12,[10]⟩ :: []) (F:=[.old 0,.old 1,.old 2,.old 3,.op 10 0,.op 11 0,.op 12 0]) hst hb Zb
  (o_p rfl (Zf Zbc rfl rfl u_0)<|o_p rfl (Za rfl rfl u_0)<|o_p rfl (Zf Zh1 rfl rfl u_0)<|o_p rfl (Zo Zbcx (Zrd _ _ _ h4) rfl rfl (.cons u_0 (.cons u_1 (.cons u_2 .nil))))<|o_p rfl (Za rfl rfl u_0)<|o_p rfl (Z0 rfl rfl u_0 rfl)<|o_p rfl (Z0 rfl rfl u_0 rfl)<|o_p rfl (Z0 rfl rfl u_0 rfl)<|o_p rfl (Zbh (zs:=[.int .i64 0,.int .i64 0,.int .i64 0,.int .i64 0,.float .f64 0,.int .i64 0,.string ByteArray.empty,.slice none 0 0]) (by kernel_rfl) (fun g=>Zb4 g) rfl rfl)<|o_p rfl (Zbh (zs:=[.int .i64 0,.int .i64 0,.int .i64 0,.int .i64 0,.int .i64 0,.int .i64 0,.float .f64 0,.int .i64 0,.string ByteArray.empty,.slice none 0 0]) (by kernel_rfl) (fun g=>Zeb g) rfl rfl)<|o_p rfl (Zb5 Zbc rfl rfl u_1 u_0)<|o_p rfl (Zc rfl rfl u_0)<|o_p rfl (Zb5 Zb9 rfl rfl u_1 u_0)<|o_n) (by kernel_rfl) (fun a g hst hb=>?_)
 refine wp_seq ?_
 refine r_s (T:=[⟨[.old 6],_,[],[],[26]⟩,⟨[.op 0 0],_,[],[0],[27]⟩,⟨[.op 1 0],_,[],[0,1],[28]⟩]) (F:=[.old 0,.old 1,.old 2,.old 3,.old 4,.old 5,.old 6,.op 2 0]) hst hb Zb
  (o_p rfl (Zd Zif rfl rfl u_0)<|o_p rfl (Zf Zj6 rfl rfl u_0)<|o_p rfl (Zdk rfl rfl u_0 c_i)<|o_n) (by kernel_rfl) (fun a g hst hb=>?_)
 refine wp_cond_split (hst.bool 7 rfl) (fun hc5=>?_) (fun hc5=>?_)
 ·replace H0:=Zv hc5 H0
  refine r_s (L:=[(2,_),(4,_),(5,_),(10,_)]) (T:=[⟨[.old 0],_,[],[],[29]⟩,⟨[.old 3],_,[],[],[30]⟩,⟨[.op 0 0,.old 1],_,[5],[0],[4]⟩,⟨[.op 1 0,.old 2],_,[6],[0,1,2],[5]⟩]) (F:=[.op 2 0,.op 3 0]) (hst.pick [0,2,3,6] rfl) hb Zb
   (o_p rfl (Zb0 Zcv rfl rfl u_0)<|o_p rfl (Zf Zb9 rfl rfl u_0)<|o_p rfl (Z2 Zcv rfl rfl u_1 u_0)<|o_p rfl (Z2 Zb9 rfl rfl u_1 u_0)<|o_n) (by kernel_rfl) (fun a g hst hb=>?_)
  refine wp_ret ?_
  refine Zr ?_
  obtain rfl:=Option.some.inj H0
  obtain ⟨u0,hu0,hq0⟩:=Zbf (P:=Tryz.prog) Zcv (hst.at 0 rfl)
  obtain ⟨u1,hu1,hq1⟩:=Zbf (P:=Tryz.prog) Zb9 (hst.at 1 rfl)
  exact Zdq rfl hst hb hu0 hu1 (Zcw hq0 hq1)
 ·replace H0:=Zw hc5 H0
  refine wp_skip ?_
  refine Zs ?_
  refine wp_seq ?_
  refine r_s (L:=[(2,_),(3,_),(4,_),(5,_),(8,_),(9,_),(10,_)]) (T:=[⟨[.old 1],_,[],[],[31]⟩,⟨[.op 0 0],_,[],[0],[32]⟩,⟨[.op 1 0],_,[],[0,1],[33]⟩,⟨[.op 2 0],_,[],[0,1,2],[34]⟩,⟨[.op 3 0,.old 0],_,[],Lr 4,[35]⟩,⟨[.op 3 0,.op 4 0],_,[],Lr 5,[36]⟩,⟨[.op 3 0,.op 5 0],_,[],Lr 6,[37]⟩,⟨[.op 3 0,.old 0],_,[],Lr 4,[38]⟩,⟨[.op 3 0,.op 7 0],_,[],[0,1,2,3,7],[39]⟩,⟨[.op 3 0,.op 6 0,.op 8 0],_,[],Lr 9,[40]⟩,⟨[.op 3 0,.op 9 0],_,[],Lr 10,[41]⟩]) (F:=[.old 0,.old 1,.old 2,.old 3,.old 4,.old 5,.old 6,.op 10 0]) (hst.pick [0,1,2,3,4,5,6] rfl) hb Zb
   (o_p rfl (Zd Zdh rfl rfl u_0)<|o_p rfl (Zf ty_3 rfl rfl u_0)<|o_p rfl (Zbs rfl rfl u_0 c_i)<|o_p rfl (Za rfl rfl u_0)<|o_g (g_t rfl rfl rfl (fun hG=>Zt Zg5 (off:=0) (by kernel_rfl) rfl rfl u_0))<|o_g (g_t rfl rfl rfl (fun hG=>Zbr Zj9 rfl rfl (Opd.gd hG u_0)))<|o_g (g_t rfl rfl rfl (fun hG=>Zb1 Tryz.underlying22 rfl rfl (Opd.gd hG u_0)))<|o_g (g_t rfl rfl rfl (fun hG=>Zt Zqy (off:=1) (by kernel_rfl) rfl rfl u_0))<|o_g (g_t rfl rfl rfl (fun hG=>Zbr ty_3 rfl rfl (Opd.gd hG u_0)))<|o_g (g_t rfl rfl rfl (fun hG=>Zmn rfl rfl (Opd.gd hG u_0) (Opd.gd hG u_1)))<|o_p rfl (Zbi rfl rfl u_0 (fun hz=>(Opd.gd hz u_1)))<|o_n) (by kernel_rfl) (fun a g hst hb=>?_)
  refine wp_cond_split (hst.bool 7 rfl) (fun hc6=>?_) (fun hc6=>?_)
  ·replace H0:=Zv hc6 H0
   refine r_s (L:=[(2,_),(4,_),(5,_)]) (T:=[⟨[.old 0],_,[],[],[42]⟩,⟨[],_,[],[],[43]⟩,⟨[.op 0 0,.old 1],_,[5],[0],[4]⟩,⟨[.op 1 0,.old 2],_,[6],[0,1,2],[5]⟩]) (F:=[.op 2 0,.op 3 0]) (hst.pick [0,2,3] rfl) hb Zb
    (o_p rfl (Zb0 Zcv rfl rfl u_0)<|o_p rfl (Zqn rfl rfl c_i)<|o_p rfl (Z2 Zcv rfl rfl u_1 u_0)<|o_p rfl (Z2 Zb9 rfl rfl u_1 u_0)<|o_n) (by kernel_rfl) (fun a g hst hb=>?_)
   refine wp_ret ?_
   refine Zr ?_
   obtain rfl:=Option.some.inj H0
   obtain ⟨u0,hu0,hq0⟩:=Zbf (P:=Tryz.prog) Zcv (hst.at 0 rfl)
   obtain ⟨u1,hu1,hq1⟩:=Zbf (P:=Tryz.prog) Zb9 (hst.at 1 rfl)
   exact Zdq rfl hst hb hu0 hu1 (Zcw hq0 hq1)
  ·replace H0:=Zw hc6 H0
   refine wp_skip ?_
   refine Zs ?_
   refine wp_seq ?_
   refine r_s (L:=[(2,_),(3,_),(4,_),(5,_),(8,_),(9,_),(10,_)]) (T:=[⟨[.old 5],_,[],[],[44]⟩,⟨[.op 0 0],_,[],[0],[45]⟩]) (F:=[.old 0,.old 1,.old 2,.old 3,.old 4,.old 6,.op 1 0]) (hst.pick [0,1,2,3,4,5,6] rfl) hb Zb
    (o_p rfl (Za rfl rfl u_0)<|o_p rfl (Zb2 rfl rfl u_0)<|o_n) (by kernel_rfl) (fun a g hst hb=>?_)
   refine wp_cond_split (hst.bool 6 rfl) (fun hc7=>?_) (fun hc7=>?_)
   ·replace H0:=Zv hc7 H0
    obtain ⟨r8,h9,H0⟩:=Zh H0
    refine r_s (L:=[(2,_),(3,_),(4,_),(5,_),(10,_)]) (T:=[⟨[.old 0],_,[],[],[47]⟩,⟨[.old 1],_,[],[],[48]⟩,⟨[.op 1 0],_,[],[1],[49]⟩,⟨[.op 0 0,.op 2 0],_,[],[0,1,2],[50]⟩,⟨[.op 3 0],_,[],Lr 4,[46]⟩,⟨[.op 4 0],_,[],Lr 5,[51]⟩,⟨[.op 4 0],_,[],Lr 5,[52]⟩,⟨[.op 5 0,.old 0],_,[3],Lr 6,[2]⟩]) (F:=[.op 7 0,.old 2,.old 3,.old 4]) (hst.pick [0,1,2,3,5] rfl) hb Zb
     (o_p rfl (Zb0 Zcv rfl rfl u_0)<|o_p rfl (Zd Zic rfl rfl u_0)<|o_p rfl (Zf ty_9 rfl rfl u_0)<|o_p rfl (Zo Zbby (Zpb _ _ h9) rfl rfl (.cons u_0 (.cons u_1 .nil)))<|o_p rfl (Za rfl rfl u_0)<|o_p rfl (Z0 rfl rfl u_0 rfl)<|o_p rfl (Z0 rfl rfl u_0 rfl)<|o_p rfl (Z2 Zcv rfl rfl u_1 u_0)<|o_n) (by kernel_rfl) (fun a g hst hb=>?_)
    refine r_s (T:=[⟨[.old 0],_,[],[],[53]⟩,⟨[.old 3],_,[],[],[54]⟩,⟨[.op 0 0,.old 1],_,[5],[0],[4]⟩,⟨[.op 1 0,.old 2],_,[6],[0,1,2],[5]⟩]) (F:=[.op 2 0,.op 3 0]) hst hb Zb
     (o_p rfl (Zb0 Zcv rfl rfl u_0)<|o_p rfl (Zf Zb9 rfl rfl u_0)<|o_p rfl (Z2 Zcv rfl rfl u_1 u_0)<|o_p rfl (Z2 Zb9 rfl rfl u_1 u_0)<|o_n) (by kernel_rfl) (fun a g hst hb=>?_)
    refine wp_ret ?_
    refine Zr ?_
    obtain rfl:=Option.some.inj H0
    obtain ⟨u0,hu0,hq0⟩:=Zbf (P:=Tryz.prog) Zcv (hst.at 0 rfl)
    obtain ⟨u1,hu1,hq1⟩:=Zbf (P:=Tryz.prog) Zb9 (hst.at 1 rfl)
    exact Zdq rfl hst hb hu0 hu1 (Zcw hq0 hq1)
   ·replace H0:=Zw hc7 H0
    refine wp_skip ?_
    refine Zs ?_
    obtain ⟨r10,h11,H0⟩:=Zh H0
    refine r_s (L:=[(2,_),(3,_),(4,_),(5,_),(8,_),(10,_)]) (T:=[⟨[.old 0],_,[],[],[56]⟩,⟨[.old 1],_,[],[],[57]⟩,⟨[.op 1 0],_,[],[1],[58]⟩,⟨[.old 4],_,[],[],[59]⟩,⟨[.op 0 0,.op 2 0,.op 3 0],_,[],Lr 4,[60]⟩,⟨[.op 4 0],_,[],Lr 5,[55]⟩,⟨[.op 5 0],_,[],Lr 6,[61]⟩,⟨[.op 5 0],_,[],Lr 6,[62]⟩,⟨[.op 6 0,.old 0],_,[3],Lr 7,[2]⟩]) (F:=[.op 8 0,.old 2,.old 3,.old 5]) (hst.pick [0,1,2,3,4,5] rfl) hb Zb
     (o_p rfl (Zb0 Zcv rfl rfl u_0)<|o_p rfl (Zd Zic rfl rfl u_0)<|o_p rfl (Zf ty_9 rfl rfl u_0)<|o_p rfl (Zf Zbc rfl rfl u_0)<|o_p rfl (Zo Z67 (Zl0 _ _ _ h11) rfl rfl (.cons u_0 (.cons u_1 (.cons u_2 .nil))))<|o_p rfl (Za rfl rfl u_0)<|o_p rfl (Z0 rfl rfl u_0 rfl)<|o_p rfl (Z0 rfl rfl u_0 rfl)<|o_p rfl (Z2 Zcv rfl rfl u_1 u_0)<|o_n) (by kernel_rfl) (fun a g hst hb=>?_)
    refine r_s (T:=[⟨[.old 0],_,[],[],[63]⟩,⟨[.old 3],_,[],[],[64]⟩,⟨[.op 0 0,.old 1],_,[5],[0],[4]⟩,⟨[.op 1 0,.old 2],_,[6],[0,1,2],[5]⟩]) (F:=[.op 2 0,.op 3 0]) hst hb Zb
     (o_p rfl (Zb0 Zcv rfl rfl u_0)<|o_p rfl (Zf Zb9 rfl rfl u_0)<|o_p rfl (Z2 Zcv rfl rfl u_1 u_0)<|o_p rfl (Z2 Zb9 rfl rfl u_1 u_0)<|o_n) (by kernel_rfl) (fun a g hst hb=>?_)
    refine wp_ret ?_
    obtain rfl:=Option.some.inj H0
    obtain ⟨u0,hu0,hq0⟩:=Zbf (P:=Tryz.prog) Zcv (hst.at 0 rfl)
    obtain ⟨u1,hu1,hq1⟩:=Zbf (P:=Tryz.prog) Zb9 (hst.at 1 rfl)
    exact Zdq rfl hst hb hu0 hu1 (Zcw hq0 hq1)
theorem Zsv (a0:Zj) (a1:Zbm) {r:Zj × Z1} (h:Zjr a0 a1=some r):FnOk Tryz.prog 18 [(Zbb.pd a0),(Zch.pd a1)] (pTup [(Zbb.pd r.1),(Zbx.pd r.2)]):=by
 have H0:=h
 unfold Zjr at H0
 clear h
 refine Zbu (N:=67) Tryz.func18 rfl rfl (Nat.le_of_ble_eq_true rfl) rfl rfl (fun a g0 hst hb=>?_)
 refine r_s (T:=[⟨[.old 0],_,[],[],[2]⟩,⟨[.old 1],_,[],[],[3]⟩,⟨[],[(4,(pBox Zbb 4 (default:Zj)))],[5],[],[4]⟩,⟨[],[(5,(pBox Zbx 5 (default:Z1)))],[6],[],[5]⟩]) (F:=[.op 0 0,.op 1 0,.op 2 0,.op 3 0]) hst hb Zb
  (o_p rfl (Zbq rfl rfl u_0)<|o_p rfl (Zbq rfl rfl u_0)<|o_p rfl (Zbh (zs:=[.slice none 0 0,.int .i64 0]) (by kernel_rfl) (fun g=>Zfi g) rfl rfl)<|o_p rfl (Zbh (zs:=[.int .i64 0,.int .i64 0,.slice none 0 0]) (by kernel_rfl) (fun g=>Zin g) rfl rfl)<|o_n) (by kernel_rfl) (fun a g hst hb=>?_)
 obtain ⟨r1,h2,H0⟩:=Zh H0
 refine r_s (T:=[⟨[.old 1],_,[],[],[13]⟩,⟨[.op 0 0],_,[],[0],[14]⟩,⟨[.op 1 0],_,[],[0,1],[12]⟩,⟨[.op 2 0],_,[],[0,1,2],[15]⟩,⟨[.op 2 0],_,[],[0,1,2],[16]⟩,⟨[.op 3 0],_,[],Lr 4,[6]⟩,⟨[.op 4 0],_,[],Lr 6,[7]⟩]) (F:=[.old 0,.old 1,.old 2,.old 3,.op 5 0,.op 6 0]) hst hb Zb
  (o_p rfl (Zf Znl rfl rfl u_0)<|o_p rfl (Zo Zbb6 (Zri _ h2) rfl rfl (.cons u_0 .nil))<|o_p rfl (Za rfl rfl u_0)<|o_p rfl (Z0 rfl rfl u_0 rfl)<|o_p rfl (Z0 rfl rfl u_0 rfl)<|o_p rfl (Zc rfl rfl u_0)<|o_p rfl (Zc rfl rfl u_0)<|o_n) (by kernel_rfl) (fun a g hst hb=>?_)
 refine wp_seq ?_
 refine r_s (T:=[⟨[.old 4],_,[],[],[17]⟩,⟨[.op 0 0],_,[],[0],[18]⟩]) (F:=[.old 0,.old 1,.old 2,.old 3,.old 4,.old 5,.op 1 0]) hst hb Zb
  (o_p rfl (Za rfl rfl u_0)<|o_p rfl (Zdk rfl rfl u_0 c_i)<|o_n) (by kernel_rfl) (fun a g hst hb=>?_)
 refine wp_cond_split (hst.bool 6 rfl) (fun hc3=>?_) (fun hc3=>?_)
 ·replace H0:=Zv hc3 H0
  refine r_s (L:=[(2,_),(4,_),(5,_),(6,_),(7,_)]) (T:=[⟨[.old 0],_,[],[],[19]⟩,⟨[.old 3],_,[],[],[20]⟩,⟨[.old 4],_,[],[],[21]⟩,⟨[.op 1 0,.op 2 0],_,[],[1,2],[22]⟩,⟨[.op 0 0,.old 1],_,[5],[0],[4]⟩,⟨[.op 3 0,.old 2],_,[6],Lr 5,[5]⟩]) (F:=[.op 4 0,.op 5 0]) (hst.pick [0,2,3,4,5] rfl) hb Zb
   (o_p rfl (Zf Zcv rfl rfl u_0)<|o_p rfl (Za rfl rfl u_0)<|o_p rfl (Za rfl rfl u_0)<|o_p rfl (Zxu rfl rfl u_0 u_1)<|o_p rfl (Z2 Zcv rfl rfl u_1 u_0)<|o_p rfl (Z2 Zi1 rfl rfl u_1 u_0)<|o_n) (by kernel_rfl) (fun a g hst hb=>?_)
  refine wp_ret ?_
  refine Zr ?_
  obtain rfl:=Option.some.inj H0
  obtain ⟨u0,hu0,hq0⟩:=Zbf (P:=Tryz.prog) Zcv (hst.at 0 rfl)
  obtain ⟨u1,hu1,hq1⟩:=Zbf (P:=Tryz.prog) Zi1 (hst.at 1 rfl)
  exact Zdq rfl hst hb hu0 hu1 (Zcw hq0 hq1)
 ·replace H0:=Zw hc3 H0
  refine wp_skip ?_
  refine Zs ?_
  refine r_s (L:=[(2,_),(3,_),(4,_),(5,_)]) (T:=[⟨[.old 0],_,[],[],[23]⟩,⟨[],_,[25],[],[24]⟩,⟨[],[(8,(pBox Zbb 8 (default:Zj)))],[9],[],[8]⟩,⟨[.op 0 0,.op 2 0],_,[9],[0,2],[8]⟩,⟨[.op 1 0],_,[],Lr 4,[9]⟩]) (F:=[.old 0,.old 1,.old 2,.old 3,.op 3 0,.op 4 0]) (hst.pick [0,1,2,3] rfl) hb Zb
   (o_p rfl (Zf Zcv rfl rfl u_0)<|o_p rfl (Zku 24 Zq6 (xs:=[]) .nil (by decide) rfl rfl)<|o_p rfl (Zbh (zs:=[.slice none 0 0,.int .i64 0]) (by kernel_rfl) (fun g=>Zfi g) rfl rfl)<|o_p rfl (Z2 Zcv rfl rfl u_1 u_0)<|o_p rfl (Zc rfl rfl u_0)<|o_n) (by kernel_rfl) (fun a g hst hb=>?_)
  refine wp_seq ?_
  refine r_s (T:=[⟨[],_,[],[],[10]⟩]) (F:=[.old 0,.old 1,.old 2,.old 3,.old 4,.old 5,.op 0 0]) hst hb Zb
   (o_p rfl (Zc rfl rfl c_i)<|o_n) (by kernel_rfl) (fun a g hst hb=>?_)
  obtain ⟨z22,hz1,H0⟩:=Zh H0
  refine Zca (fun a w=>∃ (y18:Zj) (y19:Z1) (y20:Zj) (y21:List Zg) (g:G),w=g.w ∧ St 67 [(4,(pBox Zbb 4 y18)),(5,(pBox Zbx 5 y19)),(8,(pBox Zbb 8 y20)),(9,(pRow Zm 68 24 y21))] a g ∧ Base g0 g ∧ (.inr (y18,y19,y20,y21))=z22) ?_ ?_
  ·rintro a w ⟨y18,y19,y20,y21,g,rfl,hst,hb,rfl⟩
   refine Zs ?_
   refine r_s (T:=[⟨[.old 2],_,[],[],[64]⟩,⟨[.old 3],_,[],[],[65]⟩,⟨[.op 1 0],_,[],[1],[66]⟩,⟨[.op 0 0,.old 0],_,[5],[0],[4]⟩,⟨[.op 2 0,.old 1],_,[6],Lr 4,[5]⟩]) (F:=[.op 3 0,.op 4 0]) hst hb Zb
    (o_p rfl (Zb0 Zcv rfl rfl u_0)<|o_p rfl (Za rfl rfl u_0)<|o_p rfl (Z8f rfl rfl (Opd.imp u_0 (fun _ _ h=>Zgi h)))<|o_p rfl (Z2 Zcv rfl rfl u_1 u_0)<|o_p rfl (Z2 Zi1 rfl rfl u_1 u_0)<|o_n) (by kernel_rfl) (fun a g hst hb=>?_)
   refine wp_ret ?_
   obtain rfl:=Option.some.inj H0
   obtain ⟨u0,hu0,hq0⟩:=Zbf (P:=Tryz.prog) Zcv (hst.at 0 rfl)
   obtain ⟨u1,hu1,hq1⟩:=Zbf (P:=Tryz.prog) Zi1 (hst.at 1 rfl)
   exact Zdq rfl hst hb hu0 hu1 (Zcw hq0 hq1)
  ·refine wp_block ?_
   refine wp_loop_ghost (fun n a w=>∃ (x4:Zj) (x5:Z1) (x6:Zj) (x7:List Zg) (x8:Int) (g:G),w=g.w ∧ St 67 [(2,(Zbb.ptr a0)),(3,(Zch.ptr a1)),(4,(pBox Zbb 4 x4)),(5,(pBox Zbx 5 x5)),(8,(pBox Zbb 8 x6)),(9,(pRow Zm 68 24 x7)),(10,(pInt .i64 x8))] a g ∧ Base g0 g ∧ Zeg a0 a1 n x4 x5 x6 x7 x8=some z22) (Int.toNat ((a1.Acts.length:Int) - (0:Int)) + 1) ⟨(default:Zj),(default:Z1),a0,([]:List Zg),(0:Int),g,rfl,(hst.pick [0,1,2,3,4,5,6] rfl),hb,hz1⟩ (fun n a w hI=>?_)
   obtain ⟨x4,x5,x6,x7,x8,g,rfl,hst,hb,H1⟩:=hI
   cases n with
   | zero=>exact absurd H1 (by simp [Zeg])
   | succ n =>
    rw [Zeg] at H1
    refine wp_seq ?_
    refine r_s (T:=[⟨[.old 6],_,[],[],[25]⟩,⟨[.old 1],_,[],[],[26]⟩,⟨[.op 1 0],_,[],[1],[27]⟩,⟨[.op 2 0],_,[],[1,2],[28]⟩,⟨[.op 0 0,.op 3 0],_,[],Lr 4,[29]⟩]) (F:=[.old 0,.old 1,.old 2,.old 3,.old 4,.old 5,.old 6,.op 4 0]) hst hb Zb
     (o_p rfl (Za rfl rfl u_0)<|o_p rfl (Zd Zhr rfl rfl u_0)<|o_p rfl (Zf Zkf rfl rfl u_0)<|o_p rfl (Zb1 Tryz.underlying23 rfl rfl u_0)<|o_p rfl (Zci rfl rfl u_0 u_1)<|o_n) (by kernel_rfl) (fun a g hst hb=>?_)
    refine wp_cond_split (hst.bool 7 rfl) (fun hc9=>?_) (fun hc9=>?_)
    ·replace H1:=Zv hc9 H1
     refine wp_skip ?_
     refine Zs ?_
     refine wp_seq ?_
     refine wp_block ?_
     refine r_s (L:=[(2,_),(3,_),(4,_),(5,_),(8,_),(9,_),(10,_)]) (T:=[⟨[],_,[],[],[32]⟩,⟨[],[(11,(pBox Zm 11 (default:Zg)))],[12],[],[11]⟩,⟨[.op 0 0,.op 1 0],_,[12],[0,1],[11]⟩]) (F:=[.old 0,.old 1,.old 2,.old 3,.old 4,.old 5,.old 6,.op 2 0]) (hst.pick [0,1,2,3,4,5,6] rfl) hb Zb
      (o_p rfl (Zqq rfl rfl )<|o_p rfl (Zbh (zs:=[.int .i64 0,.int .i64 0,.int .i64 0,.int .i64 0,.int .i64 0,.int .i64 0,.float .f64 0,.int .i64 0,.string ByteArray.empty,.slice none 0 0]) (by kernel_rfl) (fun g=>Zeb g) rfl rfl)<|o_p rfl (Z2 Zb9 rfl rfl u_1 u_0)<|o_n) (by kernel_rfl) (fun a g hst hb=>?_)
     obtain ⟨e10,h11,H1⟩:=Zh H1;obtain ⟨r12,h13,H1⟩:=Zh H1
     refine r_s (T:=⟨[.old 4],_,[],[],[34]⟩ :: ⟨[.old 1],_,[],[],[35]⟩ :: ⟨[.op 1 0],_,[],[1],[36]⟩ :: ⟨[.old 6],_,[],[],[37]⟩ :: ⟨[.op 2 0,.op 3 0],_,[],[1,2,3],[38]⟩ :: ⟨[.op 4 0],_,[],List.range' 1 4,[39]⟩ :: ⟨[.op 0 0,.op 5 0],_,[],Lr 6,[40]⟩ :: ⟨[.op 6 0],_,[],Lr 7,[33]⟩ :: ⟨[.op 7 0],_,[],Lr 8,[41]⟩ :: ⟨[.op 7 0],_,[],Lr 8,[42]⟩ :: ⟨[.op 8 0,.old 4],_,[9],Lr 9,[8]⟩ :: ⟨[.op 9 0,.old 7],_,[12],Lr 11,[11]⟩ :: []) (F:=[.old 0,.old 1,.old 2,.old 3,.op 10 0,.old 5,.old 6,.op 11 0]) hst hb Zb
      (o_p rfl (Zb0 Zcv rfl rfl u_0)<|o_p rfl (Zd Zhr rfl rfl u_0)<|o_p rfl (Zf Zkf rfl rfl u_0)<|o_p rfl (Za rfl rfl u_0)<|o_p rfl (Zbl Tryz.underlying23 Zo0 rfl rfl u_0 u_1 h11)<|o_p rfl (Zf Zh1 rfl rfl u_0)<|o_p rfl (Zo Zbct (Zr9 _ _ h13) rfl rfl (.cons u_0 (.cons u_1 .nil)))<|o_p rfl (Za rfl rfl u_0)<|o_p rfl (Z0 rfl rfl u_0 rfl)<|o_p rfl (Z0 rfl rfl u_0 rfl)<|o_p rfl (Z2 Zcv rfl rfl u_1 u_0)<|o_p rfl (Z2 Zb9 rfl rfl u_1 u_0)<|o_n) (by kernel_rfl) (fun a g hst hb=>?_)
     refine wp_seq ?_
     obtain ⟨e14,h15,H1⟩:=Zh H1
     refine r_s (T:=[⟨[.old 7],_,[],[],[43]⟩,⟨[.op 0 0],_,[],[0],[44]⟩,⟨[.op 1 0],_,[],[0,1],[45]⟩,⟨[.op 2 0],_,[],[0,1,2],[46]⟩,⟨[.op 3 0,.old 1],_,[],Lr 4,[47]⟩,⟨[.op 3 0,.op 4 0],_,[],Lr 5,[48]⟩,⟨[.op 3 0,.old 6],_,[],Lr 4,[49]⟩,⟨[.op 3 0,.op 5 0,.op 6 0],_,[],Lr 7,[50]⟩,⟨[.op 3 0,.op 7 0],_,[],Lr 8,[51]⟩,⟨[.op 3 0,.op 8 0],_,[],Lr 9,[52]⟩,⟨[.op 3 0,.op 9 0],_,[],Lr 10,[53]⟩]) (F:=[.old 0,.old 1,.old 2,.old 3,.old 4,.old 5,.old 6,.old 7,.op 10 0]) hst hb Zb
      (o_p rfl (Zt Zif (off:=0) (by kernel_rfl) rfl rfl u_0)<|o_p rfl (Zbr Zj6 rfl rfl u_0)<|o_p rfl (Zdk rfl rfl u_0 c_i)<|o_p rfl (Za rfl rfl u_0)<|o_g (g_t rfl rfl rfl (fun hG=>Zd Zhr rfl rfl u_0))<|o_g (g_t rfl rfl rfl (fun hG=>Zf Zkf rfl rfl (Opd.gd hG u_0)))<|o_g (g_t rfl rfl rfl (fun hG=>Za rfl rfl u_0))<|o_g (g_t rfl rfl rfl (fun hG=>Zbl Tryz.underlying23 Zo0 rfl rfl (Opd.gd hG u_0) (Opd.gd hG u_1) (Zbn h15 hG)))<|o_g (g_t rfl rfl rfl (fun hG=>Zd Z1q rfl rfl (Opd.gd hG u_0)))<|o_g (g_t rfl rfl rfl (fun hG=>Zf ty_4 rfl rfl (Opd.gd hG u_0)))<|o_p rfl (Zbi rfl rfl u_0 (fun hz=>(Opd.gd hz u_1)))<|o_n) (by kernel_rfl) (fun a g hst hb=>?_)
     refine wp_cond_split (hst.bool 8 rfl) (fun hc16=>?_) (fun hc16=>?_)
     ·replace H1:=Zv hc16 H1
      refine r_s (L:=[(2,_),(4,_),(5,_),(10,_),(11,_)]) (T:=[⟨[.old 0],_,[],[],[54]⟩,⟨[.old 4],_,[],[],[55]⟩,⟨[.op 1 0],_,[],[1],[56]⟩,⟨[.old 3],_,[],[],[57]⟩,⟨[.op 3 0],_,[],[3],[58]⟩,⟨[.op 2 0,.op 4 0],_,[],List.range' 1 4,[59]⟩,⟨[.op 0 0,.old 1],_,[5],[0],[4]⟩,⟨[.op 5 0,.old 2],_,[6],Lr 7,[5]⟩]) (F:=[.op 6 0,.op 7 0]) (hst.pick [0,2,3,6,7] rfl) hb Zb
       (o_p rfl (Zf Zcv rfl rfl u_0)<|o_p rfl (Zt Zif (off:=0) (by kernel_rfl) rfl rfl u_0)<|o_p rfl (Zbr Zj6 rfl rfl u_0)<|o_p rfl (Za rfl rfl u_0)<|o_p rfl (Zb7 rfl rfl u_0 c_i rfl)<|o_p rfl (Zxu rfl rfl u_0 u_1)<|o_p rfl (Z2 Zcv rfl rfl u_1 u_0)<|o_p rfl (Z2 Zi1 rfl rfl u_1 u_0)<|o_n) (by kernel_rfl) (fun a g hst hb=>?_)
      refine wp_ret ?_
      refine Zr ?_
      refine Z6 ?_
      refine Zr ?_
      refine Zr ?_
      refine Z6 ?_
      refine Zr ?_
      refine Zr ?_
      obtain rfl:=Option.some.inj H1
      obtain rfl:=Option.some.inj H0
      obtain ⟨u0,hu0,hq0⟩:=Zbf (P:=Tryz.prog) Zcv (hst.at 0 rfl)
      obtain ⟨u1,hu1,hq1⟩:=Zbf (P:=Tryz.prog) Zi1 (hst.at 1 rfl)
      exact Zdq rfl hst hb hu0 hu1 (Zcw hq0 hq1)
     ·replace H1:=Zw hc16 H1
      refine wp_skip ?_
      refine Zs ?_
      obtain ⟨h17,H1⟩:=Zfz H1
      refine r_g (L:=[(2,_),(3,_),(4,_),(5,_),(8,_),(9,_),(10,_),(11,_)]) (T:=[⟨[.old 5],_,[],[],[60]⟩,⟨[.old 7],_,[],[],[61]⟩,⟨[.op 1 0],_,[],[1],[62]⟩,⟨[.op 0 0,.op 2 0],_,[25],[0,1,2],[9,60,63]⟩,⟨[.op 3 0],_,[],Lr 4,[9]⟩]) (F:=[.old 0,.old 1,.old 2,.old 3,.old 4,.op 4 0,.old 6]) (hst.pick [0,1,2,3,4,5,6,7] rfl) hb Zb
       (o_p rfl (Za rfl rfl u_0)<|o_p rfl (Zb0 Zb9 rfl rfl u_0)<|o_p rfl (Ziw Zq6 (xs:=[.tmp 61]) (.cons u_0 .nil) (by decide) rfl rfl)<|o_p rfl (Zfr Zq6 rfl rfl u_0 u_1 h17)<|o_p rfl (Zc rfl rfl u_0)<|o_n) (by kernel_rfl) (fun a g hst hb=>?_)
      refine Zbe ?_
      refine Zs ?_
      refine r_g (T:=[⟨[.old 6],_,[],[],[30]⟩,⟨[.op 0 0],_,[],[0],[31]⟩,⟨[.op 1 0],_,[],[0,1],[10]⟩]) (F:=[.old 0,.old 1,.old 2,.old 3,.old 4,.old 5,.op 2 0]) hst hb Zb
       (o_p rfl (Za rfl rfl u_0)<|o_p rfl (Zb7 rfl rfl u_0 c_i rfl)<|o_p rfl (Zc rfl rfl u_0)<|o_n) (by kernel_rfl) (fun a g hst hb=>?_)
      exact ⟨n,Nat.lt_succ_self _,x4,x5,r12.1,(x7 ++ ([r12.2]:List Zg)),(IntKind.i64.wrap (x8 + (1:Int))),g,rfl,(hst.pick [0,1,2,3,4,5,6] rfl),hb,H1⟩
    ·replace H1:=Zw hc9 H1
     refine wp_exit ?_
     refine Zb3 ?_
     refine Zb3 ?_
     refine Zcn ?_
     exact ⟨x4,x5,x6,x7,g,rfl,(hst.pick [2,3,4,5] rfl),hb,Option.some.inj H1⟩
theorem Zr1 (a0:Zg) (a1:Zg) {r:Bool} (h:Zjf a0 a1=some r):FnOk Tryz.prog 45 [(Zm.pd a0),(Zm.pd a1)] (Zbg r):=by
 have H0:=h
 unfold Zjf at H0
 clear h
 refine Zbu (N:=24) Tryz.func45 rfl rfl (Nat.le_of_ble_eq_true rfl) rfl rfl (fun a g0 hst hb=>?_)
 refine r_s (T:=[⟨[.old 0],_,[],[],[2]⟩,⟨[.old 1],_,[],[],[3]⟩,⟨[],_,[],[],[4]⟩]) (F:=[.op 0 0,.op 1 0]) hst hb Zb
  (o_p rfl (Zbq rfl rfl u_0)<|o_p rfl (Zbq rfl rfl u_0)<|o_p rfl (Zc rfl rfl c_b)<|o_n) (by kernel_rfl) (fun a g hst hb=>?_)
 obtain ⟨r1,h2,H0⟩:=Zh H0
 refine r_s (T:=⟨[.old 0],_,[],[],[5]⟩ :: ⟨[.op 0 0],_,[],[0],[6]⟩ :: ⟨[.old 1],_,[],[],[7]⟩ :: ⟨[.op 2 0],_,[],[2],[8]⟩ :: ⟨[.op 1 0,.op 3 0],_,[],Lr 4,[9]⟩ :: ⟨[.op 4 0],_,[],Lr 5,[10]⟩ :: ⟨[.op 5 0,.old 0],_,[],Lr 6,[11]⟩ :: ⟨[.op 5 0,.op 6 0],_,[],Lr 7,[12]⟩ :: ⟨[.op 5 0,.old 1],_,[],Lr 6,[13]⟩ :: ⟨[.op 5 0,.op 8 0],_,[],[0,1,2,3,4,5,8],[14]⟩ :: ⟨[.op 5 0,.op 7 0,.op 9 0],_,[],Lr 10,[15]⟩ :: ⟨[.op 5 0,.op 10 0],_,[],Lr 11,[16]⟩ :: ⟨[.op 11 0],_,[],Lr 12,[17]⟩ :: ⟨[.op 12 0,.old 0],_,[],Lr 13,[18]⟩ :: ⟨[.op 12 0,.op 13 0],_,[],Lr 14,[19]⟩ :: ⟨[.op 12 0,.old 1],_,[],Lr 13,[20]⟩ :: ⟨[.op 12 0,.op 15 0],_,[],0 :: 1 :: 2 :: 3 :: 4 :: 5 :: 6 :: 7 :: 8 :: 9 :: 10 :: 11 :: 12 :: 15 :: [],[21]⟩ :: ⟨[.op 12 0,.op 14 0,.op 16 0],_,[],Lr 17,[22]⟩ :: ⟨[.op 12 0,.op 17 0],_,[],Lr 18,[23]⟩ :: ⟨[.op 18 0],_,[],Lr 19,[4]⟩ :: []) (F:=[.op 19 0]) hst hb Zb
  (o_p rfl (Zd Zif rfl rfl u_0)<|o_p rfl (Zf Zj6 rfl rfl u_0)<|o_p rfl (Zd Zif rfl rfl u_0)<|o_p rfl (Zf Zj6 rfl rfl u_0)<|o_p rfl (Zbs rfl rfl u_0 u_1)<|o_p rfl (Za rfl rfl u_0)<|o_g (g_t rfl rfl rfl (fun hG=>Zd Z2q rfl rfl u_0))<|o_g (g_t rfl rfl rfl (fun hG=>Zf ty_2 rfl rfl (Opd.gd hG u_0)))<|o_g (g_t rfl rfl rfl (fun hG=>Zd Z2q rfl rfl u_0))<|o_g (g_t rfl rfl rfl (fun hG=>Zf ty_2 rfl rfl (Opd.gd hG u_0)))<|o_g (g_t rfl rfl rfl (fun hG=>Zbs rfl rfl (Opd.gd hG u_0) (Opd.gd hG u_1)))<|o_p rfl (Zbi rfl rfl u_0 (fun hz=>(Opd.gd hz u_1)))<|o_p rfl (Za rfl rfl u_0)<|o_g (g_t rfl rfl rfl (fun hG=>Zd Zo9 rfl rfl u_0))<|o_g (g_t rfl rfl rfl (fun hG=>Zf Zbc rfl rfl (Opd.gd hG u_0)))<|o_g (g_t rfl rfl rfl (fun hG=>Zd Zo9 rfl rfl u_0))<|o_g (g_t rfl rfl rfl (fun hG=>Zf Zbc rfl rfl (Opd.gd hG u_0)))<|o_g (g_t rfl rfl rfl (fun hG=>Zo Z2w (Zlj _ _ (Zbn h2 hG)) rfl rfl (.cons (Opd.gd hG u_0) (.cons (Opd.gd hG u_1) .nil))))<|o_p rfl (Zbi rfl rfl u_0 (fun hz=>(Opd.gd hz u_1)))<|o_p rfl (Zc rfl rfl u_0)<|o_n) (by kernel_rfl) (fun a g hst hb=>?_)
 refine wp_ret ?_
 obtain rfl:=Option.some.inj H0
 exact Z5 rfl hst hb (Zk (s:=4)) (hst.at 0 rfl)
theorem Zrn (a0:Z1) (a1:Z1) {r:Bool} (h:Ziv a0 a1=some r):FnOk Tryz.prog 20 [(Zbx.pd a0),(Zbx.pd a1)] (Zbg r):=by
 have H0:=h
 unfold Ziv at H0
 clear h
 refine Zbu (N:=46) Tryz.func20 rfl rfl (Nat.le_of_ble_eq_true rfl) rfl rfl (fun a g0 hst hb=>?_)
 refine r_s (T:=[⟨[.old 0],_,[],[],[2]⟩,⟨[.old 1],_,[],[],[3]⟩,⟨[],_,[],[],[4]⟩]) (F:=[.op 0 0,.op 1 0]) hst hb Zb
  (o_p rfl (Zbq rfl rfl u_0)<|o_p rfl (Zbq rfl rfl u_0)<|o_p rfl (Zc rfl rfl c_b)<|o_n) (by kernel_rfl) (fun a g hst hb=>?_)
 refine wp_seq ?_
 refine r_s (T:=⟨[.old 0],_,[],[],[6]⟩ :: ⟨[.op 0 0],_,[],[0],[7]⟩ :: ⟨[.old 1],_,[],[],[8]⟩ :: ⟨[.op 2 0],_,[],[2],[9]⟩ :: ⟨[.op 1 0,.op 3 0],_,[],Lr 4,[10]⟩ :: ⟨[.op 4 0],_,[],Lr 5,[11]⟩ :: ⟨[.op 5 0,.old 0],_,[],Lr 6,[12]⟩ :: ⟨[.op 5 0,.op 6 0],_,[],Lr 7,[13]⟩ :: ⟨[.op 5 0,.old 1],_,[],Lr 6,[14]⟩ :: ⟨[.op 5 0,.op 8 0],_,[],[0,1,2,3,4,5,8],[15]⟩ :: ⟨[.op 5 0,.op 7 0,.op 9 0],_,[],Lr 10,[16]⟩ :: ⟨[.op 5 0,.op 10 0],_,[],Lr 11,[17]⟩ :: ⟨[.op 11 0],_,[],Lr 12,[18]⟩ :: ⟨[.op 12 0,.old 0],_,[],Lr 13,[19]⟩ :: ⟨[.op 12 0,.op 13 0],_,[],Lr 14,[20]⟩ :: ⟨[.op 12 0,.op 14 0],_,[],Lr 15,[21]⟩ :: ⟨[.op 12 0,.old 1],_,[],Lr 13,[22]⟩ :: ⟨[.op 12 0,.op 16 0],_,[],0 :: 1 :: 2 :: 3 :: 4 :: 5 :: 6 :: 7 :: 8 :: 9 :: 10 :: 11 :: 12 :: 16 :: [],[23]⟩ :: ⟨[.op 12 0,.op 17 0],_,[],0 :: 1 :: 2 :: 3 :: 4 :: 5 :: 6 :: 7 :: 8 :: 9 :: 10 :: 11 :: 12 :: 16 :: 17 :: [],[24]⟩ :: ⟨[.op 12 0,.op 15 0,.op 18 0],_,[],Lr 19,[25]⟩ :: ⟨[.op 12 0,.op 19 0],_,[],Lr 20,[26]⟩ :: []) (F:=[.old 0,.old 1,.op 20 0]) hst hb Zb
  (o_p rfl (Zd Z16 rfl rfl u_0)<|o_p rfl (Zf Zj6 rfl rfl u_0)<|o_p rfl (Zd Z16 rfl rfl u_0)<|o_p rfl (Zf Zj6 rfl rfl u_0)<|o_p rfl (Zdk rfl rfl u_0 u_1)<|o_p rfl (Za rfl rfl u_0)<|o_g (g_f rfl rfl rfl (fun hG=>Zd Z1y rfl rfl u_0))<|o_g (g_f rfl rfl rfl (fun hG=>Zf ty_3 rfl rfl (Opd.gd hG u_0)))<|o_g (g_f rfl rfl rfl (fun hG=>Zd Z1y rfl rfl u_0))<|o_g (g_f rfl rfl rfl (fun hG=>Zf ty_3 rfl rfl (Opd.gd hG u_0)))<|o_g (g_f rfl rfl rfl (fun hG=>Zdk rfl rfl (Opd.gd hG u_0) (Opd.gd hG u_1)))<|o_p rfl (Zbo rfl rfl u_0 (fun hz=>(Opd.gd (bNF hz) u_1)))<|o_p rfl (Za rfl rfl u_0)<|o_g (g_f rfl rfl rfl (fun hG=>Zd Zm3 rfl rfl u_0))<|o_g (g_f rfl rfl rfl (fun hG=>Zf Zq2 rfl rfl (Opd.gd hG u_0)))<|o_g (g_f rfl rfl rfl (fun hG=>Zb1 Tryz.underlying47 rfl rfl (Opd.gd hG u_0)))<|o_g (g_f rfl rfl rfl (fun hG=>Zd Zm3 rfl rfl u_0))<|o_g (g_f rfl rfl rfl (fun hG=>Zf Zq2 rfl rfl (Opd.gd hG u_0)))<|o_g (g_f rfl rfl rfl (fun hG=>Zb1 Tryz.underlying47 rfl rfl (Opd.gd hG u_0)))<|o_g (g_f rfl rfl rfl (fun hG=>Zdk rfl rfl (Opd.gd hG u_0) (Opd.gd hG u_1)))<|o_p rfl (Zbo rfl rfl u_0 (fun hz=>(Opd.gd (bNF hz) u_1)))<|o_n) (by kernel_rfl) (fun a g hst hb=>?_)
 refine wp_cond_split (hst.bool 2 rfl) (fun hc1=>?_) (fun hc1=>?_)
 ·replace H0:=Zv hc1 H0
  refine r_s (L:=[]) (T:=[⟨[],_,[],[],[4]⟩]) (F:=[.op 0 0]) (hst.pick [] rfl) hb Zb
   (o_p rfl (Zc rfl rfl c_b)<|o_n) (by kernel_rfl) (fun a g hst hb=>?_)
  refine wp_ret ?_
  refine Zr ?_
  obtain rfl:=Option.some.inj H0
  exact Z5 rfl hst hb (Zk (s:=4)) (hst.at 0 rfl)
 ·replace H0:=Zw hc1 H0
  refine wp_skip ?_
  refine Zs ?_
  refine wp_seq ?_
  refine r_s (L:=[(2,_),(3,_)]) (T:=[⟨[],_,[],[],[5]⟩]) (F:=[.old 0,.old 1,.op 0 0]) (hst.pick [0,1] rfl) hb Zb
   (o_p rfl (Zc rfl rfl c_i)<|o_n) (by kernel_rfl) (fun a g hst hb=>?_)
  obtain ⟨z11,hz1,H0⟩:=Zh H0
  refine Zca (fun a w=>∃ (g:G),w=g.w ∧ St 46 [] a g ∧ Base g0 g ∧ (.inr ())=z11) ?_ ?_
  ·rintro a w ⟨g,rfl,hst,hb,rfl⟩
   refine Zs ?_
   refine r_s (T:=[⟨[],_,[],[],[4]⟩]) (F:=[.op 0 0]) hst hb Zb
    (o_p rfl (Zc rfl rfl c_b)<|o_n) (by kernel_rfl) (fun a g hst hb=>?_)
   refine wp_ret ?_
   obtain rfl:=Option.some.inj H0
   exact Z5 rfl hst hb (Zk (s:=4)) (hst.at 0 rfl)
  ·refine wp_block ?_
   refine wp_loop_ghost (fun n a w=>∃ (x2:Int) (g:G),w=g.w ∧ St 46 [(2,(Zbx.ptr a0)),(3,(Zbx.ptr a1)),(5,(pInt .i64 x2))] a g ∧ Base g0 g ∧ Zen a0 a1 n x2=some z11) (Int.toNat ((a0.Answers.length:Int) - (0:Int)) + 1) ⟨(0:Int),g,rfl,(hst.pick [0,1,2] rfl),hb,hz1⟩ (fun n a w hI=>?_)
   obtain ⟨x2,g,rfl,hst,hb,H1⟩:=hI
   cases n with
   | zero=>exact absurd H1 (by simp [Zen])
   | succ n =>
    rw [Zen] at H1
    refine wp_seq ?_
    refine r_s (T:=[⟨[.old 2],_,[],[],[27]⟩,⟨[.old 0],_,[],[],[28]⟩,⟨[.op 1 0],_,[],[1],[29]⟩,⟨[.op 2 0],_,[],[1,2],[30]⟩,⟨[.op 0 0,.op 3 0],_,[],Lr 4,[31]⟩]) (F:=[.old 0,.old 1,.old 2,.op 4 0]) hst hb Zb
     (o_p rfl (Za rfl rfl u_0)<|o_p rfl (Zd Zm3 rfl rfl u_0)<|o_p rfl (Zf Zq2 rfl rfl u_0)<|o_p rfl (Zb1 Tryz.underlying47 rfl rfl u_0)<|o_p rfl (Zci rfl rfl u_0 u_1)<|o_n) (by kernel_rfl) (fun a g hst hb=>?_)
    refine wp_cond_split (hst.bool 3 rfl) (fun hc3=>?_) (fun hc3=>?_)
    ·replace H1:=Zv hc3 H1
     refine wp_skip ?_
     refine Zs ?_
     refine wp_seq ?_
     refine wp_block ?_
     obtain ⟨e4,h5,H1⟩:=Zh H1;obtain ⟨e6,h7,H1⟩:=Zh H1;obtain ⟨r8,h9,H1⟩:=Zh H1
     refine r_s (L:=[(2,_),(3,_),(5,_)]) (T:=⟨[.old 0],_,[],[],[34]⟩ :: ⟨[.op 0 0],_,[],[0],[35]⟩ :: ⟨[.old 2],_,[],[],[36]⟩ :: ⟨[.op 1 0,.op 2 0],_,[],[0,1,2],[37]⟩ :: ⟨[.op 3 0],_,[],Lr 4,[38]⟩ :: ⟨[.old 1],_,[],[],[39]⟩ :: ⟨[.op 5 0],_,[],[5],[40]⟩ :: ⟨[.old 2],_,[],[],[41]⟩ :: ⟨[.op 6 0,.op 7 0],_,[],[5,6,7],[42]⟩ :: ⟨[.op 8 0],_,[],List.range' 5 4,[43]⟩ :: ⟨[.op 4 0,.op 9 0],_,[],Lr 10,[44]⟩ :: ⟨[.op 10 0],_,[],Lr 11,[45]⟩ :: []) (F:=[.old 0,.old 1,.old 2,.op 11 0]) (hst.pick [0,1,2] rfl) hb Zb
      (o_p rfl (Zd Zm3 rfl rfl u_0)<|o_p rfl (Zf Zq2 rfl rfl u_0)<|o_p rfl (Za rfl rfl u_0)<|o_p rfl (Zbl Tryz.underlying47 Zyx rfl rfl u_0 u_1 h5)<|o_p rfl (Zf Zb9 rfl rfl u_0)<|o_p rfl (Zd Zm3 rfl rfl u_0)<|o_p rfl (Zf Zq2 rfl rfl u_0)<|o_p rfl (Za rfl rfl u_0)<|o_p rfl (Zbl Tryz.underlying47 Zyx rfl rfl u_0 u_1 h7)<|o_p rfl (Zf Zb9 rfl rfl u_0)<|o_p rfl (Zo Zbbp (Zr1 _ _ h9) rfl rfl (.cons u_0 (.cons u_1 .nil)))<|o_p rfl (Zb2 rfl rfl u_0)<|o_n) (by kernel_rfl) (fun a g hst hb=>?_)
     refine wp_cond_split (hst.bool 3 rfl) (fun hc10=>?_) (fun hc10=>?_)
     ·replace H1:=Zv hc10 H1
      refine r_s (L:=[]) (T:=[⟨[],_,[],[],[4]⟩]) (F:=[.op 0 0]) (hst.pick [] rfl) hb Zb
       (o_p rfl (Zc rfl rfl c_b)<|o_n) (by kernel_rfl) (fun a g hst hb=>?_)
      refine wp_ret ?_
      refine Z6 ?_
      refine Zr ?_
      refine Zr ?_
      refine Z6 ?_
      refine Zr ?_
      refine Zr ?_
      obtain rfl:=Option.some.inj H1
      obtain rfl:=Option.some.inj H0
      exact Z5 rfl hst hb (Zk (s:=4)) (hst.at 0 rfl)
     ·replace H1:=Zw hc10 H1
      refine wp_skip ?_
      refine Zbe ?_
      refine Zs ?_
      refine r_g (L:=[(2,_),(3,_),(5,_)]) (T:=[⟨[.old 2],_,[],[],[32]⟩,⟨[.op 0 0],_,[],[0],[33]⟩,⟨[.op 1 0],_,[],[0,1],[5]⟩]) (F:=[.old 0,.old 1,.op 2 0]) (hst.pick [0,1,2] rfl) hb Zb
       (o_p rfl (Za rfl rfl u_0)<|o_p rfl (Zb7 rfl rfl u_0 c_i rfl)<|o_p rfl (Zc rfl rfl u_0)<|o_n) (by kernel_rfl) (fun a g hst hb=>?_)
      exact ⟨n,Nat.lt_succ_self _,(IntKind.i64.wrap (x2 + (1:Int))),g,rfl,(hst.pick [0,1,2] rfl),hb,H1⟩
    ·replace H1:=Zw hc3 H1
     refine wp_exit ?_
     refine Zb3 ?_
     refine Zb3 ?_
     refine Zcn ?_
     exact ⟨g,rfl,(hst.pick [] rfl),hb,Option.some.inj H1⟩
theorem Zr2 (a0:Zn) {r:Int} (h:Zk6 a0=some r):FnOk Tryz.prog 46 [(Zy.pd a0)] (pInt .i64 r):=by
 have H0:=h
 unfold Zk6 at H0
 clear h
 refine Zbu (N:=5) Tryz.func46 rfl rfl (Nat.le_of_ble_eq_true rfl) rfl rfl (fun a g0 hst hb=>?_)
 refine r_s (T:=[⟨[.old 0],_,[],[],[1]⟩,⟨[],_,[],[],[2]⟩]) (F:=[.op 0 0]) hst hb Zb
  (o_p rfl (Zbq rfl rfl u_0)<|o_p rfl (Zc rfl rfl c_i)<|o_n) (by kernel_rfl) (fun a g hst hb=>?_)
 refine r_s (T:=[⟨[.old 0],_,[],[],[3]⟩,⟨[.op 0 0],_,[],[0],[4]⟩,⟨[.op 1 0],_,[],[0,1],[2]⟩]) (F:=[.op 2 0]) hst hb Zb
  (o_p rfl (Zd Zto rfl rfl u_0)<|o_p rfl (Zf ty_3 rfl rfl u_0)<|o_p rfl (Zc rfl rfl u_0)<|o_n) (by kernel_rfl) (fun a g hst hb=>?_)
 refine wp_ret ?_
 obtain rfl:=Option.some.inj H0
 exact Z5 rfl hst hb (Zk (s:=2)) (hst.at 0 rfl)
theorem Ztz (a0:Zn) (a1:Zj) {r:Int} (h:Zi8 a0 a1=some r):FnOk Tryz.prog 21 [(Zy.pd a0),(Zbb.pd a1)] (pInt .i64 r):=by
 have H0:=h
 unfold Zi8 at H0
 clear h
 refine Zbu (N:=54) Tryz.func21 rfl rfl (Nat.le_of_ble_eq_true rfl) rfl rfl (fun a g0 hst hb=>?_)
 refine r_s (T:=[⟨[.old 0],_,[],[],[2]⟩,⟨[.old 1],_,[],[],[3]⟩,⟨[],_,[],[],[4]⟩]) (F:=[.op 0 0,.op 1 0]) hst hb Zb
  (o_p rfl (Zbq rfl rfl u_0)<|o_p rfl (Zbq rfl rfl u_0)<|o_p rfl (Zc rfl rfl c_i)<|o_n) (by kernel_rfl) (fun a g hst hb=>?_)
 refine wp_seq ?_
 obtain ⟨r1,h2,H0⟩:=Zh H0;obtain ⟨r3,h4,H0⟩:=Zh H0
 refine r_s (T:=⟨[.old 0],_,[],[],[10]⟩ :: ⟨[.op 0 0],_,[],[0],[11]⟩ :: ⟨[.old 1],_,[],[],[12]⟩ :: ⟨[.op 2 0],_,[],[2],[13]⟩ :: ⟨[.op 3 0],_,[],[2,3],[14]⟩ :: ⟨[.op 1 0,.op 4 0],_,[],Lr 5,[15]⟩ :: ⟨[.op 5 0],_,[],Lr 6,[16]⟩ :: ⟨[.op 6 0,.old 0],_,[],Lr 7,[17]⟩ :: ⟨[.op 6 0,.op 7 0],_,[],Lr 8,[18]⟩ :: ⟨[.op 6 0,.old 1],_,[],Lr 7,[19]⟩ :: ⟨[.op 6 0,.op 9 0],_,[],[0,1,2,3,4,5,6,9],[20]⟩ :: ⟨[.op 6 0,.op 8 0,.op 10 0],_,[],Lr 11,[21]⟩ :: ⟨[.op 6 0,.op 11 0],_,[],Lr 12,[22]⟩ :: []) (F:=[.old 0,.old 1,.op 12 0]) hst hb Zb
  (o_p rfl (Zf Zbw rfl rfl u_0)<|o_p rfl (Zo Zvv (Zia _ h2) rfl rfl (.cons u_0 .nil))<|o_p rfl (Zd Zg5 rfl rfl u_0)<|o_p rfl (Zf Zj9 rfl rfl u_0)<|o_p rfl (Zb1 Tryz.underlying22 rfl rfl u_0)<|o_p rfl (Zdk rfl rfl u_0 u_1)<|o_p rfl (Za rfl rfl u_0)<|o_g (g_f rfl rfl rfl (fun hG=>Zf Zbw rfl rfl u_0))<|o_g (g_f rfl rfl rfl (fun hG=>Zo Zbb8 (Zr2 _ (Zbn h4 hG)) rfl rfl (.cons (Opd.gd hG u_0) .nil)))<|o_g (g_f rfl rfl rfl (fun hG=>Zd Zqy rfl rfl u_0))<|o_g (g_f rfl rfl rfl (fun hG=>Zf ty_3 rfl rfl (Opd.gd hG u_0)))<|o_g (g_f rfl rfl rfl (fun hG=>Zdk rfl rfl (Opd.gd hG u_0) (Opd.gd hG u_1)))<|o_p rfl (Zbo rfl rfl u_0 (fun hz=>(Opd.gd (bNF hz) u_1)))<|o_n) (by kernel_rfl) (fun a g hst hb=>?_)
 refine wp_cond_split (hst.bool 2 rfl) (fun hc5=>?_) (fun hc5=>?_)
 ·replace H0:=Zv hc5 H0
  refine r_s (L:=[]) (T:=[⟨[],_,[],[],[4]⟩]) (F:=[.op 0 0]) (hst.pick [] rfl) hb Zb
   (o_p rfl (Zc rfl rfl c_i)<|o_n) (by kernel_rfl) (fun a g hst hb=>?_)
  refine wp_ret ?_
  refine Zr ?_
  obtain rfl:=Option.some.inj H0
  exact Z5 rfl hst hb (Zk (s:=4)) (hst.at 0 rfl)
 ·replace H0:=Zw hc5 H0
  refine wp_skip ?_
  refine Zs ?_
  refine wp_seq ?_
  refine r_s (L:=[(2,_),(3,_)]) (T:=[⟨[.old 1],_,[],[],[23]⟩,⟨[.op 0 0],_,[],[0],[24]⟩,⟨[.op 1 0],_,[],[0,1],[25]⟩,⟨[],_,[],[],[26]⟩]) (F:=[.old 0,.op 1 0,.op 2 0,.op 3 0]) (hst.pick [0,1] rfl) hb Zb
   (o_p rfl (Zd Zg5 rfl rfl u_0)<|o_p rfl (Zf Zj9 rfl rfl u_0)<|o_p rfl (Zb1 Tryz.underlying22 rfl rfl u_0)<|o_p rfl (Za rfl rfl c_i)<|o_n) (by kernel_rfl) (fun a g hst hb=>?_)
  obtain ⟨z15,hz1,H0⟩:=Zh H0
  refine Zca (fun a w=>∃ (g:G),w=g.w ∧ St 54 [] a g ∧ Base g0 g ∧ (.inr ())=z15) ?_ ?_
  ·rintro a w ⟨g,rfl,hst,hb,rfl⟩
   refine Zs ?_
   refine r_s (T:=[⟨[],_,[],[],[4]⟩]) (F:=[.op 0 0]) hst hb Zb
    (o_p rfl (Zc rfl rfl c_i)<|o_n) (by kernel_rfl) (fun a g hst hb=>?_)
   refine wp_ret ?_
   obtain rfl:=Option.some.inj H0
   exact Z5 rfl hst hb (Zk (s:=4)) (hst.at 0 rfl)
  ·refine wp_block ?_
   refine wp_loop_ghost (fun n a w=>∃ (x6:Int) (g:G),w=g.w ∧ St 54 [(2,(Zy.ptr a0)),(24,(Zb6.sl.pd a1.L)),(25,(pInt .i64 (a1.L.length:Int))),(26,(pInt .i64 x6))] a g ∧ Base g0 g ∧ Zfs a0 a1 n x6=some z15) (Int.toNat ((a1.L.length:Int) - (0:Int)) + 1) ⟨(0:Int),g,rfl,(hst.pick [0,1,2,3] rfl),hb,hz1⟩ (fun n a w hI=>?_)
   obtain ⟨x6,g,rfl,hst,hb,H1⟩:=hI
   cases n with
   | zero=>exact absurd H1 (by simp [Zfs])
   | succ n =>
    rw [Zfs] at H1
    refine r_s (T:=[⟨[.old 3,.old 2],_,[],[],[27]⟩]) (F:=[.old 0,.old 1,.old 2,.old 3,.op 0 0]) hst hb Zb
     (o_p rfl (Zci rfl rfl u_0 u_1)<|o_n) (by kernel_rfl) (fun a g hst hb=>?_)
    refine wp_seq ?_
    refine wp_cond_split (hst.bool 4 rfl) (fun hc7=>?_) (fun hc7=>?_)
    ·replace H1:=Zv hc7 H1
     refine wp_skip ?_
     refine Zs ?_
     refine wp_seq ?_
     refine wp_block ?_
     obtain ⟨e8,h9,H1⟩:=Zh H1
     refine r_s (L:=[(2,_),(24,_),(25,_),(26,_)]) (T:=[⟨[.old 3],_,[],[],[28]⟩,⟨[.old 1,.old 3],_,[],[],[29]⟩,⟨[.op 1 0],_,[],[1],[30]⟩,⟨[],[(6,(pBox Zb6 6 (default:Zbd)))],[7],[],[6]⟩,⟨[.op 0 0],_,[],Lr 4,[5]⟩,⟨[.op 2 0,.op 3 0],_,[7],Lr 5,[6]⟩]) (F:=[.old 0,.op 4 0,.op 5 0,.old 1,.old 2,.old 3]) (hst.pick [0,1,2,3] rfl) hb Zb
      (o_p rfl (Za rfl rfl u_0)<|o_p rfl (Zbl Tryz.underlying22 Zm7 rfl rfl u_0 u_1 h9)<|o_p rfl (Zf Zyw rfl rfl u_0)<|o_p rfl (Zbh (zs:=[.string ByteArray.empty,.int .i64 0,.int .i64 0,.int .i64 0,.int .i64 0,.float .f64 0,.int .i64 0,.string ByteArray.empty,.slice none 0 0]) (by kernel_rfl) (fun g=>Znq g) rfl rfl)<|o_p rfl (Zc rfl rfl u_0)<|o_p rfl (Zb5 Zyw rfl rfl u_1 u_0)<|o_n) (by kernel_rfl) (fun a g hst hb=>?_)
     obtain ⟨r10,h11,H1⟩:=Zh H1
     refine r_s (T:=[⟨[.old 0],_,[],[],[32]⟩,⟨[.old 1],_,[],[],[33]⟩,⟨[.op 0 0,.op 1 0],_,[],[0,1],[34]⟩,⟨[.op 2 0],_,[],[0,1,2],[31]⟩,⟨[.op 3 0],_,[],Lr 4,[35]⟩,⟨[.op 3 0],_,[],Lr 4,[36]⟩,⟨[.op 3 0],_,[],Lr 4,[37]⟩,⟨[],[(8,(pBox Zi 8 (default:Ze)))],[9],[],[8]⟩,⟨[.op 4 0],_,[],[0,1,2,3,4,7],[7]⟩,⟨[.op 5 0,.op 7 0],_,[9],[0,1,2,3,4,5,7,8],[8]⟩,⟨[.op 6 0],_,[],Lr 10,[9]⟩]) (F:=[.old 0,.old 2,.op 8 0,.op 9 0,.op 10 0,.old 3,.old 4,.old 5]) hst hb Zb
      (o_p rfl (Zf Zbw rfl rfl u_0)<|o_p rfl (Za rfl rfl u_0)<|o_p rfl (Zo Z27 (Zmf _ _ h11) rfl rfl (.cons u_0 (.cons u_1 .nil)))<|o_p rfl (Za rfl rfl u_0)<|o_p rfl (Z0 rfl rfl u_0 rfl)<|o_p rfl (Z0 rfl rfl u_0 rfl)<|o_p rfl (Z0 rfl rfl u_0 rfl)<|o_p rfl (Zbh (zs:=[.int .i64 0,.int .i64 0,.int .i64 0,.int .i64 0,.float .f64 0,.int .i64 0,.string ByteArray.empty,.slice none 0 0]) (by kernel_rfl) (fun g=>Zb4 g) rfl rfl)<|o_p rfl (Zc rfl rfl u_0)<|o_p rfl (Zb5 Zbc rfl rfl u_1 u_0)<|o_p rfl (Zc rfl rfl u_0)<|o_n) (by kernel_rfl) (fun a g hst hb=>?_)
     obtain ⟨r12,h13,H1⟩:=Zh H1
     refine r_s (T:=⟨[.old 4],_,[],[],[38]⟩ :: ⟨[.op 0 0],_,[],[0],[39]⟩ :: ⟨[.op 1 0],_,[],[0,1],[40]⟩ :: ⟨[.op 2 0,.old 2],_,[],[0,1,2],[41]⟩ :: ⟨[.op 2 0,.old 1],_,[],[0,1,2],[42]⟩ :: ⟨[.op 2 0,.op 4 0],_,[],[0,1,2,4],[43]⟩ :: ⟨[.op 2 0,.op 3 0,.op 5 0],_,[],Lr 6,[44]⟩ :: ⟨[.op 2 0,.op 6 0],_,[],Lr 7,[45]⟩ :: ⟨[.op 7 0],_,[],Lr 8,[46]⟩ :: ⟨[.op 8 0,.old 3],_,[],Lr 9,[47]⟩ :: ⟨[.op 8 0,.old 1],_,[],Lr 9,[48]⟩ :: ⟨[.op 8 0,.op 10 0],_,[],[0,1,2,3,4,5,6,7,8,10],[49]⟩ :: ⟨[.op 8 0,.op 9 0,.op 11 0],_,[],Lr 12,[50]⟩ :: ⟨[.op 8 0,.op 12 0],_,[],Lr 13,[51]⟩ :: ⟨[.op 8 0,.op 13 0],_,[],Lr 14,[52]⟩ :: []) (F:=[.old 0,.old 5,.old 6,.old 7,.op 14 0]) hst hb Zb
      (o_p rfl (Za rfl rfl u_0)<|o_p rfl (Zb2 rfl rfl u_0)<|o_p rfl (Za rfl rfl u_0)<|o_g (g_f rfl rfl rfl (fun hG=>Za rfl rfl u_0))<|o_g (g_f rfl rfl rfl (fun hG=>Zd Zm5 rfl rfl u_0))<|o_g (g_f rfl rfl rfl (fun hG=>Zf ty_9 rfl rfl (Opd.gd hG u_0)))<|o_g (g_f rfl rfl rfl (fun hG=>Zol rfl rfl (Opd.gd hG u_0) (Opd.gd hG u_1)))<|o_p rfl (Zbo rfl rfl u_0 (fun hz=>(Opd.gd (bNF hz) u_1)))<|o_p rfl (Za rfl rfl u_0)<|o_g (g_f rfl rfl rfl (fun hG=>Zf Zbc rfl rfl u_0))<|o_g (g_f rfl rfl rfl (fun hG=>Zd Zqh rfl rfl u_0))<|o_g (g_f rfl rfl rfl (fun hG=>Zf Zbc rfl rfl (Opd.gd hG u_0)))<|o_g (g_f rfl rfl rfl (fun hG=>Zo Z2w (Zlj _ _ (Zbn h13 hG)) rfl rfl (.cons (Opd.gd hG u_0) (.cons (Opd.gd hG u_1) .nil))))<|o_g (g_f rfl rfl rfl (fun hG=>Zb2 rfl rfl (Opd.gd hG u_0)))<|o_p rfl (Zbo rfl rfl u_0 (fun hz=>(Opd.gd (bNF hz) u_1)))<|o_n) (by kernel_rfl) (fun a g hst hb=>?_)
     refine wp_cond_split (hst.bool 4 rfl) (fun hc14=>?_) (fun hc14=>?_)
     ·replace H1:=Zv hc14 H1
      refine r_s (L:=[]) (T:=[⟨[],_,[],[],[4]⟩]) (F:=[.op 0 0]) (hst.pick [] rfl) hb Zb
       (o_p rfl (Zc rfl rfl c_i)<|o_n) (by kernel_rfl) (fun a g hst hb=>?_)
      refine wp_ret ?_
      refine Z6 ?_
      refine Zr ?_
      refine Zr ?_
      refine Z6 ?_
      refine Zr ?_
      refine Zr ?_
      obtain rfl:=Option.some.inj H1
      obtain rfl:=Option.some.inj H0
      exact Z5 rfl hst hb (Zk (s:=4)) (hst.at 0 rfl)
     ·replace H1:=Zw hc14 H1
      refine wp_skip ?_
      refine Zbe ?_
      refine Zs ?_
      refine r_g (L:=[(2,_),(24,_),(25,_),(26,_)]) (T:=[⟨[.old 3],_,[],[],[53]⟩,⟨[.op 0 0],_,[],[0],[26]⟩]) (F:=[.old 0,.old 1,.old 2,.op 1 0]) (hst.pick [0,1,2,3] rfl) hb Zb
       (o_p rfl (Zb7 rfl rfl u_0 c_i rfl)<|o_p rfl (Za rfl rfl u_0)<|o_n) (by kernel_rfl) (fun a g hst hb=>?_)
      exact ⟨n,Nat.lt_succ_self _,(IntKind.i64.wrap (x6 + (1:Int))),g,rfl,(hst.pick [0,1,2,3] rfl),hb,H1⟩
    ·replace H1:=Zw hc7 H1
     refine wp_exit ?_
     refine Zb3 ?_
     refine Zb3 ?_
     refine Zcn ?_
     exact ⟨g,rfl,(hst.pick [] rfl),hb,Option.some.inj H1⟩
theorem Zpm (a0:Int) (a1:List Zbd) (a2:Zbm) {r:Bool} (h:Zij a0 a1 a2=some r):FnOk Tryz.prog 4 [(pInt .i64 a0),(Zb6.sl.pd a1),(Zch.pd a2)] (Zbg r):=by
 have H0:=h
 unfold Zij at H0
 clear h
 refine Zbu (N:=116) Tryz.func4 rfl rfl (Nat.le_of_ble_eq_true rfl) rfl rfl (fun a g0 hst hb=>?_)
 refine r_s (T:=[⟨[.old 2],_,[],[],[5]⟩,⟨[],_,[],[],[6]⟩]) (F:=[.old 0,.old 1,.op 0 0]) hst hb Zb
  (o_p rfl (Zbq rfl rfl u_0)<|o_p rfl (Zc rfl rfl c_b)<|o_n) (by kernel_rfl) (fun a g hst hb=>?_)
 refine wp_seq ?_
 obtain ⟨r1,h2,H0⟩:=Zh H0
 refine r_s (T:=[⟨[],_,[],[],[20]⟩,⟨[.op 0 0],_,[],[0],[21]⟩]) (F:=[.old 0,.old 1,.old 2,.op 1 0]) hst hb Zb
  (o_p rfl (Zo en_7 (Zq0 h2) rfl rfl .nil)<|o_p rfl (Zb2 rfl rfl u_0)<|o_n) (by kernel_rfl) (fun a g hst hb=>?_)
 refine wp_cond_split (hst.bool 3 rfl) (fun hc3=>?_) (fun hc3=>?_)
 ·replace H0:=Zv hc3 H0
  refine r_s (L:=[]) (T:=[⟨[],_,[],[],[6]⟩]) (F:=[.op 0 0]) (hst.pick [] rfl) hb Zb
   (o_p rfl (Zc rfl rfl c_b)<|o_n) (by kernel_rfl) (fun a g hst hb=>?_)
  refine wp_ret ?_
  refine Zr ?_
  obtain rfl:=Option.some.inj H0
  exact Z5 rfl hst hb (Zk (s:=6)) (hst.at 0 rfl)
 ·replace H0:=Zw hc3 H0
  refine wp_skip ?_
  refine Zs ?_
  obtain ⟨r4,h5,H0⟩:=Zh H0
  refine r_s (L:=[(0,_),(1,_),(5,_)]) (T:=[⟨[.old 0],_,[],[],[23]⟩,⟨[.old 1],_,[],[],[24]⟩,⟨[.op 0 0,.op 1 0],_,[],[0,1],[25]⟩,⟨[.op 2 0],_,[],[0,1,2],[22]⟩,⟨[.op 3 0],_,[],Lr 4,[26]⟩,⟨[.op 3 0],_,[],Lr 4,[27]⟩,⟨[],[(7,(pBox Zy 7 (default:Zn)))],[8],[],[7]⟩,⟨[.op 4 0,.op 6 0],_,[8],[0,1,2,3,4,6],[7]⟩,⟨[.op 5 0],_,[],Lr 8,[8]⟩]) (F:=[.old 2,.op 7 0,.op 8 0]) (hst.pick [0,1,2] rfl) hb Zb
   (o_p rfl (Za rfl rfl u_0)<|o_p rfl (Za rfl rfl u_0)<|o_p rfl (Zo en_8 (Zrj _ _ h5) rfl rfl (.cons u_0 (.cons u_1 .nil)))<|o_p rfl (Za rfl rfl u_0)<|o_p rfl (Z0 rfl rfl u_0 rfl)<|o_p rfl (Z0 rfl rfl u_0 rfl)<|o_p rfl (Zbh (zs:=[.pointer none,.int .i64 0]) (by kernel_rfl) (fun g=>Zdp g) rfl rfl)<|o_p rfl (Zb5 Zbw rfl rfl u_1 u_0)<|o_p rfl (Zc rfl rfl u_0)<|o_n) (by kernel_rfl) (fun a g hst hb=>?_)
  refine wp_seq ?_
  obtain ⟨r6,h7,H0⟩:=Zh H0
  refine r_s (T:=[⟨[.old 2],_,[],[],[28]⟩,⟨[.op 0 0],_,[],[0],[29]⟩,⟨[.op 1 0],_,[],[0,1],[30]⟩,⟨[.op 2 0,.old 0],_,[],[0,1,2],[31]⟩,⟨[.op 2 0,.op 3 0],_,[],Lr 4,[32]⟩,⟨[.op 2 0,.op 4 0],_,[],Lr 5,[33]⟩,⟨[.op 2 0,.op 5 0],_,[],Lr 6,[34]⟩]) (F:=[.old 0,.old 1,.old 2,.op 6 0]) hst hb Zb
   (o_p rfl (Za rfl rfl u_0)<|o_p rfl (Zos Tryz.underlying31 rfl rfl u_0 Z4u)<|o_p rfl (Za rfl rfl u_0)<|o_g (g_f rfl rfl rfl (fun hG=>Zf Znl rfl rfl u_0))<|o_g (g_f rfl rfl rfl (fun hG=>Zo en_9 (Zsw _ (Zbn h7 hG)) rfl rfl (.cons (Opd.gd hG u_0) .nil)))<|o_g (g_f rfl rfl rfl (fun hG=>Zcu rfl rfl (Opd.gd hG u_0) c_i))<|o_p rfl (Zbo rfl rfl u_0 (fun hz=>(Opd.gd (bNF hz) u_1)))<|o_n) (by kernel_rfl) (fun a g hst hb=>?_)
  refine wp_cond_split (hst.bool 3 rfl) (fun hc8=>?_) (fun hc8=>?_)
  ·replace H0:=Zv hc8 H0
   refine r_s (L:=[]) (T:=[⟨[],_,[],[],[6]⟩]) (F:=[.op 0 0]) (hst.pick [] rfl) hb Zb
    (o_p rfl (Zc rfl rfl c_b)<|o_n) (by kernel_rfl) (fun a g hst hb=>?_)
   refine wp_ret ?_
   refine Zr ?_
   obtain rfl:=Option.some.inj H0
   exact Z5 rfl hst hb (Zk (s:=6)) (hst.at 0 rfl)
  ·replace H0:=Zw hc8 H0
   refine wp_skip ?_
   refine Zs ?_
   obtain ⟨r9,h10,H0⟩:=Zh H0
   refine r_s (L:=[(5,_),(7,_),(8,_)]) (T:=[⟨[.old 0],_,[],[],[35]⟩,⟨[.old 1],_,[],[],[36]⟩,⟨[.op 0 0,.op 1 0],[(37,(Zc0 none Zcs 37 r9))],[38,1000038],[0,1],[37]⟩,⟨[.op 2 0],[(9,(Zc0 none Zcs 37 r9))],[],[0,1,2],[9]⟩]) (F:=[.old 0,.old 1,.old 2,.op 3 0]) (hst.pick [0,1,2] rfl) hb Zb
    (o_p rfl (Zf Znl rfl rfl u_0)<|o_p rfl (Zf Zbw rfl rfl u_0)<|o_p rfl (Zp9 Z26 (Zp8 _ _ _ h10) rfl rfl (.cons u_0 (.cons u_1 (.cons (Opd.c (fun g=>Zgv g)) .nil))))<|o_p rfl (Zc rfl rfl u_0)<|o_n) (by kernel_rfl) (fun a g hst hb=>?_)
   obtain ⟨n11,h12,H0⟩:=Zh H0;obtain ⟨r13,h14,H0⟩:=Zh H0
   refine r_s (T:=⟨[.old 2],_,[],[],[39]⟩ :: ⟨[.op 0 0],_,[],[0],[40]⟩ :: ⟨[.op 1 0],_,[],[0,1],[41]⟩ :: ⟨[.old 0],_,[],[],[42]⟩ :: ⟨[.op 2 0,.op 3 0],_,[],Lr 4,[43]⟩ :: ⟨[.op 4 0],_,[],Lr 5,[38]⟩ :: ⟨[.op 5 0],_,[],Lr 6,[44]⟩ :: ⟨[.op 5 0],_,[],Lr 6,[45]⟩ :: ⟨[],[(10,(pBox Zbb 10 (default:Zj)))],[11],[],[10]⟩ :: ⟨[],[(11,(pBox Zbx 11 (default:Z1)))],[12],[],[11]⟩ :: ⟨[.op 6 0,.op 8 0],_,[11],[0,1,2,3,4,5,6,8,9],[10]⟩ :: ⟨[.op 7 0,.op 9 0],_,[12],Lr 11,[11]⟩ :: []) (F:=[.old 1,.old 3,.op 10 0,.op 11 0]) hst hb Zb
    (o_p rfl (Za rfl rfl u_0)<|o_p rfl (Zq rfl rfl (Opd.imp u_0 (fun _ _ h=>Z58 h12 h)) (fun _ _ ⟨_,_,_,e,_⟩=>⟨_,e⟩))<|o_p rfl (Zf Zcv rfl rfl u_0)<|o_p rfl (Zf Znl rfl rfl u_0)<|o_p rfl (Zo Zbbj (Zsv _ _ h14) rfl rfl (.cons u_0 (.cons u_1 .nil)))<|o_p rfl (Za rfl rfl u_0)<|o_p rfl (Z0 rfl rfl u_0 rfl)<|o_p rfl (Z0 rfl rfl u_0 rfl)<|o_p rfl (Zbh (zs:=[.slice none 0 0,.int .i64 0]) (by kernel_rfl) (fun g=>Zfi g) rfl rfl)<|o_p rfl (Zbh (zs:=[.int .i64 0,.int .i64 0,.slice none 0 0]) (by kernel_rfl) (fun g=>Zin g) rfl rfl)<|o_p rfl (Zb5 Zcv rfl rfl u_1 u_0)<|o_p rfl (Zb5 Zi1 rfl rfl u_1 u_0)<|o_n) (by kernel_rfl) (fun a g hst hb=>?_)
   refine wp_seq ?_
   refine r_s (T:=[⟨[],_,[],[],[46]⟩]) (F:=[.old 0,.old 1,.old 2,.old 3,.op 0 0]) hst hb Zb
    (o_p rfl (Za rfl rfl c_i)<|o_n) (by kernel_rfl) (fun a g hst hb=>?_)
   obtain ⟨z31,hz1,H0⟩:=Zh H0
   refine Zca (fun a w=>∃ (y30:Z3) (g:G),w=g.w ∧ St 116 [(7,(Zy.ptr r4.1)),(9,(Zc0 none Zcs 37 y30)),(10,(Zbb.ptr r13.1)),(11,(Zbx.ptr r13.2))] a g ∧ Base g0 g ∧ (.inr y30)=z31) ?_ ?_
   ·rintro a w ⟨y30,g,rfl,hst,hb,rfl⟩
    refine Zs ?_
    obtain ⟨r32,h33,H0⟩:=Zh H0
    refine r_s (T:=[⟨[.old 1],[(80,(Zc0 none Zcs 37 y30))],[],[],[80]⟩,⟨[.old 0],_,[],[],[81]⟩,⟨[.op 0 0,.op 1 0,.old 1],[(82,(pTup [(Zy.pd r32.1),(Z4.sl.pd r32.2)])),(9,(Zc0 none Zcs 37 y30))],[38,1000038],[0,1],[9,80,82]⟩,⟨[.op 2 0],_,[],[0,1,2],[79]⟩,⟨[.op 3 0],_,[],Lr 4,[83]⟩,⟨[.op 3 0],_,[],Lr 4,[84]⟩,⟨[],[(16,(pBox Zy 16 (default:Zn)))],[17],[],[16]⟩,⟨[.op 4 0,.op 6 0],_,[17],[0,1,2,3,4,6],[16]⟩,⟨[.op 5 0],_,[],Lr 8,[17]⟩]) (F:=[.op 2 1,.old 2,.old 3,.op 7 0,.op 8 0]) hst hb Zb
     (o_p rfl (Za rfl rfl u_0)<|o_p rfl (Zf Zbw rfl rfl u_0)<|o_p rfl (Zfq Zym (Zjj _ _ h33) rfl rfl rfl (by decide) u_2 u_0 (.cons u_1 .nil))<|o_p rfl (Za rfl rfl u_0)<|o_p rfl (Z0 rfl rfl u_0 rfl)<|o_p rfl (Z0 rfl rfl u_0 rfl)<|o_p rfl (Zbh (zs:=[.pointer none,.int .i64 0]) (by kernel_rfl) (fun g=>Zdp g) rfl rfl)<|o_p rfl (Zb5 Zbw rfl rfl u_1 u_0)<|o_p rfl (Zc rfl rfl u_0)<|o_n) (by kernel_rfl) (fun a g hst hb=>?_)
    obtain ⟨r34,h35,H0⟩:=Zh H0
    refine r_s (T:=[⟨[.old 0],[(86,(Zc0 none Zcs 37 y30))],[],[],[86]⟩,⟨[.op 0 0,.old 0],[(87,(pTup [(Zbx.pd r34.1),(Zbg r34.2)])),(9,(Zc0 none Zcs 37 y30))],[38,1000038],[0],[9,86,87]⟩,⟨[.op 1 0],_,[],[0,1],[85]⟩,⟨[.op 2 0],_,[],[0,1,2],[88]⟩,⟨[.op 2 0],_,[],[0,1,2],[89]⟩,⟨[],[(18,(pBox Zbx 18 (default:Z1)))],[19],[],[18]⟩,⟨[.op 3 0,.op 5 0],_,[19],[0,1,2,3,5],[18]⟩,⟨[.op 4 0],_,[],Lr 7,[19]⟩]) (F:=[.op 1 1,.old 1,.old 2,.old 3,.old 4,.op 6 0,.op 7 0]) hst hb Zb
     (o_p rfl (Za rfl rfl u_0)<|o_p rfl (Zfq Z3o (Zli _ h35) rfl rfl rfl (by decide) u_1 u_0 .nil)<|o_p rfl (Za rfl rfl u_0)<|o_p rfl (Z0 rfl rfl u_0 rfl)<|o_p rfl (Z0 rfl rfl u_0 rfl)<|o_p rfl (Zbh (zs:=[.int .i64 0,.int .i64 0,.slice none 0 0]) (by kernel_rfl) (fun g=>Zin g) rfl rfl)<|o_p rfl (Zb5 Zi1 rfl rfl u_1 u_0)<|o_p rfl (Zc rfl rfl u_0)<|o_n) (by kernel_rfl) (fun a g hst hb=>?_)
    obtain ⟨r36,h37,H0⟩:=Zh H0;obtain ⟨r38,h39,H0⟩:=Zh H0;obtain ⟨r40,h41,H0⟩:=Zh H0;obtain ⟨r42,h43,H0⟩:=Zh H0
    refine r_s (T:=⟨[.old 0],[(90,(Zc0 none Zcs 37 y30))],[],[],[90]⟩ :: ⟨[.op 0 0,.old 0],[(91,(Zbg r36)),(9,(Zc0 none Zcs 37 y30))],[38,1000038],[0],[9,90,91]⟩ :: ⟨[.op 1 0],_,[],[0,1],[92]⟩ :: ⟨[.op 2 0,.op 1 1],[(93,(pIf r36 (Zc0 none Zcs 37 y30)))],[],[0,1,2],[93]⟩ :: ⟨[.op 2 0,.op 3 0,.op 1 1],[(94,(pIf r36 (Zbg r38.2))),(9,(Zc0 none Zcs 37 (if r36=true then r38.1 else y30)))],[38,1000038],Lr 4,[9,90,93,94]⟩ :: ⟨[.op 2 0,.op 4 0],_,[],Lr 5,[95]⟩ :: ⟨[.op 2 0,.op 5 0],_,[],Lr 6,[96]⟩ :: ⟨[.op 6 0],_,[],Lr 7,[97]⟩ :: ⟨[.op 7 0,.old 6],_,[],Lr 8,[98]⟩ :: ⟨[.op 7 0,.op 8 0],_,[],Lr 9,[99]⟩ :: ⟨[.op 9 0],_,[],Lr 10,[100]⟩ :: ⟨[.op 10 0,.old 5],_,[],Lr 11,[101]⟩ :: ⟨[.op 10 0,.old 2],_,[],Lr 11,[102]⟩ :: ⟨[.op 10 0,.op 11 0,.op 12 0],_,[],Lr 13,[103]⟩ :: ⟨[.op 10 0,.op 13 0],_,[],Lr 14,[104]⟩ :: ⟨[.op 14 0],_,[],Lr 15,[105]⟩ :: ⟨[.op 15 0,.old 4],_,[],Lr 16,[106]⟩ :: ⟨[.op 15 0,.op 16 0],_,[],Lr 17,[107]⟩ :: ⟨[.op 15 0,.op 17 0],_,[],Lr 18,[108]⟩ :: ⟨[.op 15 0,.op 18 0],_,[],Lr 19,[109]⟩ :: ⟨[.op 19 0],_,[],Lr 20,[110]⟩ :: ⟨[.op 20 0,.old 3],_,[],Lr 21,[111]⟩ :: ⟨[.op 20 0,.old 1],_,[],Lr 21,[112]⟩ :: ⟨[.op 20 0,.op 21 0,.op 22 0],_,[],Lr 23,[113]⟩ :: ⟨[.op 20 0,.op 23 0],_,[],Lr 24,[114]⟩ :: ⟨[.op 20 0,.op 24 0],_,[],Lr 25,[115]⟩ :: ⟨[.op 25 0],_,[],Lr 26,[6]⟩ :: []) (F:=[.op 26 0]) hst hb Zb
     (o_p rfl (Za rfl rfl u_0)<|o_p rfl (Zfq Zyr (Zkh _ h37) rfl rfl rfl (by decide) u_1 u_0 .nil)<|o_p rfl (Za rfl rfl u_0)<|o_g (g_t rfl rfl rfl (fun hG=>Za rfl rfl u_0))<|o_g (OT.guardMR r36 (gT r36).1 (gT r36).2 rfl rfl rfl (by decide) u_1 (fun hG=>Zfq Zv5 (Zis _ (Zbn h39 hG)) rfl rfl rfl (by decide) u_1 (Opd.gd hG u_0) .nil) rfl)<|o_g (g_t rfl rfl rfl (fun hG=>Zb2 rfl rfl (Opd.gd hG u_0)))<|o_p rfl (Zbi rfl rfl u_0 (fun hz=>(Opd.gd hz u_1)))<|o_p rfl (Za rfl rfl u_0)<|o_g (g_t rfl rfl rfl (fun hG=>Za rfl rfl u_0))<|o_p rfl (Zbi rfl rfl u_0 (fun hz=>(Opd.gd hz u_1)))<|o_p rfl (Za rfl rfl u_0)<|o_g (g_t rfl rfl rfl (fun hG=>Zf Zi1 rfl rfl u_0))<|o_g (g_t rfl rfl rfl (fun hG=>Zf Zi1 rfl rfl u_0))<|o_g (g_t rfl rfl rfl (fun hG=>Zo Zbc2 (Zrn _ _ (Zbn h41 hG)) rfl rfl (.cons (Opd.gd hG u_0) (.cons (Opd.gd hG u_1) .nil))))<|o_p rfl (Zbi rfl rfl u_0 (fun hz=>(Opd.gd hz u_1)))<|o_p rfl (Za rfl rfl u_0)<|o_g (g_t rfl rfl rfl (fun hG=>Za rfl rfl u_0))<|o_g (g_t rfl rfl rfl (fun hG=>Zb1 Tryz.underlying23 rfl rfl (Opd.gd hG u_0)))<|o_g (g_t rfl rfl rfl (fun hG=>Zbs rfl rfl (Opd.gd hG u_0) c_i))<|o_p rfl (Zbi rfl rfl u_0 (fun hz=>(Opd.gd hz u_1)))<|o_p rfl (Za rfl rfl u_0)<|o_g (g_t rfl rfl rfl (fun hG=>Zf Zbw rfl rfl u_0))<|o_g (g_t rfl rfl rfl (fun hG=>Zf Zcv rfl rfl u_0))<|o_g (g_t rfl rfl rfl (fun hG=>Zo Zbcu (Ztz _ _ (Zbn h43 hG)) rfl rfl (.cons (Opd.gd hG u_0) (.cons (Opd.gd hG u_1) .nil))))<|o_g (g_t rfl rfl rfl (fun hG=>Zbs rfl rfl (Opd.gd hG u_0) c_i))<|o_p rfl (Zbi rfl rfl u_0 (fun hz=>(Opd.gd hz u_1)))<|o_p rfl (Zc rfl rfl u_0)<|o_n) (by kernel_rfl) (fun a g hst hb=>?_)
    refine wp_ret ?_
    obtain rfl:=Option.some.inj H0
    exact Z5 rfl hst hb (Zk (s:=6)) (hst.at 0 rfl)
   ·refine wp_block ?_
    refine wp_loop_ghost (fun n a w=>∃ (x15:Z3) (x16:Int) (g:G),w=g.w ∧ St 116 [(7,(Zy.ptr r4.1)),(9,(Zc0 none Zcs 37 x15)),(10,(Zbb.ptr r13.1)),(11,(Zbx.ptr r13.2)),(46,(pInt .i64 x16))] a g ∧ Base g0 g ∧ Zdm r4 n x15 x16=some z31) (Int.toNat ((20:Int) - (0:Int)) + 1) ⟨r9,(0:Int),g,rfl,(hst.pick [0,1,2,3,4] rfl),hb,hz1⟩ (fun n a w hI=>?_)
    obtain ⟨x15,x16,g,rfl,hst,hb,H1⟩:=hI
    cases n with
    | zero=>exact absurd H1 (by simp [Zdm])
    | succ n =>
     rw [Zdm] at H1
     refine r_s (T:=[⟨[.old 4],_,[],[],[47]⟩]) (F:=[.old 0,.old 1,.old 2,.old 3,.old 4,.op 0 0]) hst hb Zb
      (o_p rfl (Zci rfl rfl u_0 c_i)<|o_n) (by kernel_rfl) (fun a g hst hb=>?_)
     refine wp_seq ?_
     refine wp_cond_split (hst.bool 5 rfl) (fun hc17=>?_) (fun hc17=>?_)
     ·replace H1:=Zv hc17 H1
      refine wp_skip ?_
      refine Zs ?_
      refine wp_seq ?_
      refine wp_block ?_
      refine wp_seq ?_
      obtain ⟨r18,h19,H1⟩:=Zh H1
      refine r_s (L:=[(7,_),(9,_),(10,_),(11,_),(46,_)]) (T:=[⟨[.old 1],[(48,(Zc0 none Zcs 37 x15))],[],[],[48]⟩,⟨[.op 0 0,.old 1],[(49,(Zbg r18)),(9,(Zc0 none Zcs 37 x15))],[38,1000038],[0],[9,48,49]⟩]) (F:=[.old 0,.op 1 1,.old 2,.old 3,.old 4,.op 1 0]) (hst.pick [0,1,2,3,4] rfl) hb Zb
       (o_p rfl (Za rfl rfl u_0)<|o_p rfl (Zfq Zyr (Zkh _ h19) rfl rfl rfl (by decide) u_1 u_0 .nil)<|o_n) (by kernel_rfl) (fun a g hst hb=>?_)
      refine wp_cond_split (hst.bool 5 rfl) (fun hc20=>?_) (fun hc20=>?_)
      ·replace H1:=Zv hc20 H1
       refine wp_exit ?_
       refine Zb3 ?_
       refine Z4k (by decide) ?_
       refine Zb3 ?_
       refine Zb3 ?_
       refine Zcn ?_
       exact ⟨x15,g,rfl,(hst.pick [0,1,2,3] rfl),hb,Option.some.inj H1⟩
      ·replace H1:=Zw hc20 H1
       refine wp_skip ?_
       refine Zs ?_
       obtain ⟨r21,h22,H1⟩:=Zh H1
       refine r_s (L:=[(7,_),(9,_),(10,_),(11,_),(46,_)]) (T:=[⟨[.old 1],[(51,(Zc0 none Zcs 37 x15))],[],[],[51]⟩,⟨[.old 0],_,[],[],[52]⟩,⟨[.op 0 0,.op 1 0,.old 1],[(53,(pTup [(Zy.pd r21.1),(Z4.sl.pd r21.2)])),(9,(Zc0 none Zcs 37 x15))],[38,1000038],[0,1],[9,51,53]⟩,⟨[.op 2 0],_,[],[0,1,2],[50]⟩,⟨[.op 3 0],_,[],Lr 4,[54]⟩,⟨[.op 3 0],_,[],Lr 4,[55]⟩,⟨[],[(12,(pBox Zy 12 (default:Zn)))],[13],[],[12]⟩,⟨[.op 4 0,.op 6 0],_,[13],[0,1,2,3,4,6],[12]⟩,⟨[.op 5 0],_,[],Lr 8,[13]⟩]) (F:=[.old 0,.op 2 1,.old 2,.old 3,.op 7 0,.op 8 0,.old 4]) (hst.pick [0,1,2,3,4] rfl) hb Zb
        (o_p rfl (Za rfl rfl u_0)<|o_p rfl (Zf Zbw rfl rfl u_0)<|o_p rfl (Zfq Zym (Zjj _ _ h22) rfl rfl rfl (by decide) u_2 u_0 (.cons u_1 .nil))<|o_p rfl (Za rfl rfl u_0)<|o_p rfl (Z0 rfl rfl u_0 rfl)<|o_p rfl (Z0 rfl rfl u_0 rfl)<|o_p rfl (Zbh (zs:=[.pointer none,.int .i64 0]) (by kernel_rfl) (fun g=>Zdp g) rfl rfl)<|o_p rfl (Zb5 Zbw rfl rfl u_1 u_0)<|o_p rfl (Zc rfl rfl u_0)<|o_n) (by kernel_rfl) (fun a g hst hb=>?_)
       obtain ⟨r23,h24,H1⟩:=Zh H1
       refine r_s (T:=[⟨[.old 1],[(57,(Zc0 none Zcs 37 x15))],[],[],[57]⟩,⟨[.op 0 0,.old 1],[(58,(pTup [(Zbx.pd r23.1),(Zbg r23.2)])),(9,(Zc0 none Zcs 37 x15))],[38,1000038],[0],[9,57,58]⟩,⟨[.op 1 0],_,[],[0,1],[56]⟩,⟨[.op 2 0],_,[],[0,1,2],[59]⟩,⟨[.op 2 0],_,[],[0,1,2],[60]⟩,⟨[],[(14,(pBox Zbx 14 (default:Z1)))],[15],[],[14]⟩,⟨[.op 3 0,.op 5 0],_,[15],[0,1,2,3,5],[14]⟩,⟨[.op 4 0],_,[],Lr 7,[15]⟩]) (F:=[.old 0,.op 1 1,.old 2,.old 3,.old 4,.old 5,.op 7 0,.old 6]) hst hb Zb
        (o_p rfl (Za rfl rfl u_0)<|o_p rfl (Zfq Z3o (Zli _ h24) rfl rfl rfl (by decide) u_1 u_0 .nil)<|o_p rfl (Za rfl rfl u_0)<|o_p rfl (Z0 rfl rfl u_0 rfl)<|o_p rfl (Z0 rfl rfl u_0 rfl)<|o_p rfl (Zbh (zs:=[.int .i64 0,.int .i64 0,.slice none 0 0]) (by kernel_rfl) (fun g=>Zin g) rfl rfl)<|o_p rfl (Zb5 Zi1 rfl rfl u_1 u_0)<|o_p rfl (Zc rfl rfl u_0)<|o_n) (by kernel_rfl) (fun a g hst hb=>?_)
       obtain ⟨r25,h26,H1⟩:=Zh H1;obtain ⟨r27,h28,H1⟩:=Zh H1
       refine r_s (T:=⟨[.old 6],_,[],[],[61]⟩ :: ⟨[.op 0 0],_,[],[0],[62]⟩ :: ⟨[.op 1 0,.old 4],_,[],[0,1],[63]⟩ :: ⟨[.op 1 0,.old 0],_,[],[0,1],[64]⟩ :: ⟨[.op 1 0,.op 2 0,.op 3 0],_,[],Lr 4,[65]⟩ :: ⟨[.op 1 0,.op 4 0],_,[],Lr 5,[66]⟩ :: ⟨[.op 1 0,.op 5 0],_,[],Lr 6,[67]⟩ :: ⟨[.op 6 0],_,[],Lr 7,[68]⟩ :: ⟨[.op 7 0,.old 5],_,[],Lr 8,[69]⟩ :: ⟨[.op 7 0,.op 8 0],_,[],Lr 9,[70]⟩ :: ⟨[.op 7 0,.op 9 0],_,[],Lr 10,[71]⟩ :: ⟨[.op 7 0,.op 10 0],_,[],Lr 11,[72]⟩ :: ⟨[.op 11 0],_,[],Lr 12,[73]⟩ :: ⟨[.op 12 0,.old 1],[(74,(pIf (!((r23.2 || (!r25)) || (decide ((0:Int) < (r21.2.length:Int))))) (Zc0 none Zcs 37 x15)))],[],Lr 13,[74]⟩ :: ⟨[.op 12 0,.op 13 0,.old 1],[(75,(pIf (!((r23.2 || (!r25)) || (decide ((0:Int) < (r21.2.length:Int))))) (Zbg r27.2))),(9,(Zc0 none Zcs 37 (if (!((r23.2 || (!r25)) || (decide ((0:Int) < (r21.2.length:Int)))))=true then r27.1 else x15)))],[38,1000038],Lr 14,[9,74,75]⟩ :: ⟨[.op 12 0,.op 14 0],_,[],Lr 15,[76]⟩ :: ⟨[.op 12 0,.op 15 0],_,[],Lr 16,[77]⟩ :: []) (F:=[.old 0,.op 14 1,.old 2,.old 3,.old 7,.op 16 0]) hst hb Zb
        (o_p rfl (Za rfl rfl u_0)<|o_p rfl (Za rfl rfl u_0)<|o_g (g_f rfl rfl rfl (fun hG=>Zf Zbw rfl rfl u_0))<|o_g (g_f rfl rfl rfl (fun hG=>Zf Zbw rfl rfl u_0))<|o_g (g_f rfl rfl rfl (fun hG=>Zo Z7a (Zru _ _ (Zbn h26 hG)) rfl rfl (.cons (Opd.gd hG u_0) (.cons (Opd.gd hG u_1) .nil))))<|o_g (g_f rfl rfl rfl (fun hG=>Zb2 rfl rfl (Opd.gd hG u_0)))<|o_p rfl (Zbo rfl rfl u_0 (fun hz=>(Opd.gd (bNF hz) u_1)))<|o_p rfl (Za rfl rfl u_0)<|o_g (g_f rfl rfl rfl (fun hG=>Za rfl rfl u_0))<|o_g (g_f rfl rfl rfl (fun hG=>Zb1 Tryz.underlying23 rfl rfl (Opd.gd hG u_0)))<|o_g (g_f rfl rfl rfl (fun hG=>Zcu rfl rfl (Opd.gd hG u_0) c_i))<|o_p rfl (Zbo rfl rfl u_0 (fun hz=>(Opd.gd (bNF hz) u_1)))<|o_p rfl (Za rfl rfl u_0)<|o_g (g_f rfl rfl rfl (fun hG=>Za rfl rfl u_0))<|o_g (OT.guardMR (!((r23.2 || (!r25)) || (decide ((0:Int) < (r21.2.length:Int))))) (gF ((r23.2 || (!r25)) || (decide ((0:Int) < (r21.2.length:Int))))).1 (gF ((r23.2 || (!r25)) || (decide ((0:Int) < (r21.2.length:Int))))).2 rfl rfl rfl (by decide) u_1 (fun hG=>Zfq Zv5 (Zis _ (Zbn h28 hG)) rfl rfl rfl (by decide) u_1 (Opd.gd hG u_0) .nil) rfl)<|o_g (g_f rfl rfl rfl (fun hG=>Zb2 rfl rfl (Opd.gd hG u_0)))<|o_p rfl (Zbo rfl rfl u_0 (fun hz=>(Opd.gd (bNF hz) u_1)))<|o_n) (by kernel_rfl) (fun a g hst hb=>?_)
       refine wp_cond_split (hst.bool 5 rfl) (fun hc29=>?_) (fun hc29=>?_)
       ·replace H1:=Zv hc29 H1
        refine r_s (L:=[]) (T:=[⟨[],_,[],[],[6]⟩]) (F:=[.op 0 0]) (hst.pick [] rfl) hb Zb
         (o_p rfl (Zc rfl rfl c_b)<|o_n) (by kernel_rfl) (fun a g hst hb=>?_)
        refine wp_ret ?_
        refine Z6 ?_
        refine Zr ?_
        refine Zr ?_
        refine Z6 ?_
        refine Zr ?_
        refine Zr ?_
        obtain rfl:=Option.some.inj H1
        obtain rfl:=Option.some.inj H0
        exact Z5 rfl hst hb (Zk (s:=6)) (hst.at 0 rfl)
       ·replace H1:=Zw hc29 H1
        refine wp_skip ?_
        refine Zbe ?_
        refine Zs ?_
        refine r_g (L:=[(7,_),(9,_),(10,_),(11,_),(46,_)]) (T:=[⟨[.old 4],_,[],[],[78]⟩,⟨[.op 0 0],_,[],[0],[46]⟩]) (F:=[.old 0,.old 1,.old 2,.old 3,.op 1 0]) (hst.pick [0,1,2,3,4] rfl) hb Zb
         (o_p rfl (Zb7 rfl rfl u_0 c_i rfl)<|o_p rfl (Za rfl rfl u_0)<|o_n) (by kernel_rfl) (fun a g hst hb=>?_)
        exact ⟨n,Nat.lt_succ_self _,(if (!((r23.2 || (!r25)) || (decide ((0:Int) < (r21.2.length:Int)))))=true then r27.1 else x15),(IntKind.i64.wrap (x16 + (1:Int))),g,rfl,(hst.pick [0,1,2,3,4] rfl),hb,H1⟩
     ·replace H1:=Zw hc17 H1
      refine wp_exit ?_
      refine Zb3 ?_
      refine Zb3 ?_
      refine Zcn ?_
      exact ⟨x15,g,rfl,(hst.pick [0,1,2,3] rfl),hb,Option.some.inj H1⟩
end Go.CL
namespace Go.CL
open Go
def NANB:Nat:=9221120237041090561
def keyf (b:Nat):Int:=if isn b then 18444492273895866369 else if TOP ≤ b then 18446744073709551615 - b else b + 9223372036854775808
def Zck (b:Nat):Nat:=if isn b then NANB else b
theorem Zw5 {b:Nat} (hb:b < 18446744073709551616):fneq b b=decide (isn b):=by
 unfold fneq
 show (Ieee.double.order b b != some .eq)=_
 by_cases h:isn b
 ·rw [Zxc (.inl h)];simp [h]
 ·obtain ⟨o,ho,_,he⟩:=Zrb hb hb h h
  rw [ho,he.2 rfl];simp [h]
theorem Zka {b:Nat} (hb:b < 18446744073709551616):Zgk b=some (Zck b):=by
 unfold Zgk Zck
 rw [Zw5 hb]
 by_cases h:isn b
 ·simp [h,Zrq,NANB]
 ·simp [h]
theorem Z8j {b:Nat} (hb:b < 18446744073709551616):(bAnd .u64 (b:Int) 9223372036854775808 != 0)=decide (TOP ≤ b):=by
 have h1:(BitVec.ofInt 64 (b:Int) &&& BitVec.ofInt 64 9223372036854775808).toNat=b &&& 9223372036854775808:=by
  rw [BitVec.toNat_and]
  have e1:(BitVec.ofInt 64 (b:Int)).toNat=b:=by
   rw [show BitVec.ofInt 64 (b:Int)=BitVec.ofNat 64 b from rfl]
   simp;omega
  rw [e1];rfl
 have h2:b &&& 9223372036854775808=(b.testBit 63).toNat * 9223372036854775808:=by
  apply Nat.eq_of_testBit_eq
  intro i
  rw [Nat.testBit_and,show (9223372036854775808:Nat)=2 ^ 63 from rfl,Nat.testBit_two_pow]
  by_cases hi:63=i
  ·subst hi
   cases b.testBit 63
   ·simp
   ·rw [Bool.toNat_true,Nat.one_mul,Nat.testBit_two_pow];simp
  ·cases b.testBit 63
   ·simp [hi]
   ·rw [Bool.toNat_true,Nat.one_mul,Nat.testBit_two_pow];simp [hi]
 have h3:b.testBit 63=decide (TOP ≤ b):=by
  rw [Nat.testBit_eq_decide_div_mod_eq]
  unfold TOP
  by_cases h:9223372036854775808 ≤ b
  ·have:b / 2 ^ 63 % 2=1:=by omega
   simp [this,h]
  ·have:b / 2 ^ 63 % 2=0:=by omega
   simp [this,h]
 unfold bAnd
 show (IntKind.wrap .u64 ((BitVec.ofInt 64 (b:Int) &&& BitVec.ofInt 64 9223372036854775808).toNat:Int) != 0)=_
 rw [h1,h2,h3]
 by_cases h:TOP ≤ b
 ·simp only [h,decide_true,Bool.toNat_true,Nat.one_mul]
  rfl
 ·simp only [h,decide_false,Bool.toNat_false,Nat.zero_mul]
  rfl
theorem Z79 {b:Nat} (hb:b < 18446744073709551616):bXor .u64 IntKind.u64.max (b:Int)=18446744073709551615 - b:=by
 have h1:(BitVec.ofInt 64 18446744073709551615 ^^^ BitVec.ofInt 64 (b:Int)).toNat=18446744073709551615 - b:=by
  have e1:BitVec.ofInt 64 18446744073709551615=BitVec.allOnes 64:=by decide
  rw [e1,BitVec.allOnes_xor,BitVec.toNat_not]
  have e2:(BitVec.ofInt 64 (b:Int)).toNat=b:=by
   rw [show BitVec.ofInt 64 (b:Int)=BitVec.ofNat 64 b from rfl]
   simp;omega
  rw [e2]
 unfold bXor
 show IntKind.wrap .u64 ((BitVec.ofInt 64 18446744073709551615 ^^^ BitVec.ofInt 64 (b:Int)).toNat:Int)=_
 rw [h1]
 simp [IntKind.wrap,IntKind.signed,IntKind.bits]
 omega
theorem Zba7 {b:Nat} (hb:b < 9223372036854775808):bOr .u64 (b:Int) 9223372036854775808=b + 9223372036854775808:=by
 have h1:(BitVec.ofInt 64 (b:Int) ||| BitVec.ofInt 64 9223372036854775808).toNat=b + 9223372036854775808:=by
  rw [BitVec.toNat_or]
  have e1:(BitVec.ofInt 64 (b:Int)).toNat=b:=by
   rw [show BitVec.ofInt 64 (b:Int)=BitVec.ofNat 64 b from rfl]
   simp;omega
  rw [e1,show (BitVec.ofInt 64 9223372036854775808).toNat=2 ^ 63 * 1 from rfl,Nat.or_comm]
  rw [← Nat.two_pow_add_eq_or_of_lt (by simpa using hb)]
  omega
 unfold bOr
 show IntKind.wrap .u64 ((BitVec.ofInt 64 (b:Int) ||| BitVec.ofInt 64 9223372036854775808).toNat:Int)=_
 rw [h1]
 simp [IntKind.wrap,IntKind.signed,IntKind.bits]
 omega
theorem Zuv {b:Nat} (hb:b < 18446744073709551616):Zck b < 18446744073709551616:=by
 unfold Zck NANB;split <;> omega
theorem Zvh {b:Nat} (hb:b < 18446744073709551616):Zmt b=some (keyf b):=by
 unfold Zmt
 rw [Zka hb]
 simp only [Option.bind_some]
 rw [Z8j (Zuv hb)]
 unfold keyf Zck
 by_cases h:isn b
 ·simp only [h,if_true]
  rfl
 ·simp only [h,if_false]
  by_cases ht:TOP ≤ b
  ·simp only [ht,decide_true,if_true]
   rw [Z79 hb]
  ·simp only [ht,decide_false,if_false,Bool.false_eq_true]
   rw [Zba7 (by unfold TOP at ht;omega)]
theorem Zo8 {a b:Nat} (ha:a < 18446744073709551616) (hb:b < 18446744073709551616):Zkb a b=some (decide (keyf a=keyf b)):=by
 unfold Zkb
 rw [Zvh ha,Zvh hb]
 simp [BEq.beq]
theorem Zww {a b:Nat} (ha:a < 18446744073709551616) (hb:b < 18446744073709551616):Zmp a b=some (decide (keyf a < keyf b)):=by
 unfold Zmp
 rw [Zvh ha,Zvh hb]
 simp
theorem Zso {a:Nat} (ha:a < 18446744073709551616):Zk1 a=some (decide (a=Zck a)):=by
 unfold Zk1
 rw [Zka ha]
 congr 1
 by_cases h:a=Zck a
 ·simp [← h]
 ·have:(a:Int) ≠ (Zck a:Int):=by omega
  simp [h,this]
theorem Z2a {a b:Nat} (ha:a < 18446744073709551616) (hb:b < 18446744073709551616) (na:¬ isn a) (nb:¬ isn b):keyf a < keyf b ↔ (sg a < sg b ∨ (a=TOP ∧ b=0)):=by
 unfold keyf
 rw [if_neg na,if_neg nb]
 unfold sg isn rg INF TOP at *
 split <;> split <;> omega
theorem Z1s {a b:Nat} (ha:a < 18446744073709551616) (hb:b < 18446744073709551616) (na:¬ isn a) (nb:¬ isn b):feql a b=decide (sg a=sg b):=by
 unfold feql
 show (Ieee.double.order a b == some .eq)=_
 obtain ⟨o,ho,_,he⟩:=Zrb ha hb na nb
 rw [ho]
 by_cases h:sg a=sg b
 ·rw [he.2 h];simp [h]
 ·have:o ≠ .eq:=fun h'=>h (he.1 h')
  simp [h,this]
theorem Z82 {a b:Nat} (ha:a < 18446744073709551616) (hb:b < 18446744073709551616) (na:¬ isn a) (nb:¬ isn b):flss a b=decide (sg a < sg b):=by
 unfold flss
 show (Ieee.double.order a b == some .lt)=_
 obtain ⟨o,ho,hl,_⟩:=Zrb ha hb na nb
 rw [ho]
 by_cases h:sg a < sg b
 ·rw [hl.2 h];simp [h]
 ·have:o ≠ .lt:=fun h'=>h (hl.1 h')
  simp [h,this]
theorem Zbad:Zhf 0=some false:=by kernel_rfl
theorem Zba2:Zhf TOP=some true:=by kernel_rfl
theorem nan0:¬ isn 0:=by decide
theorem Z1v {a:Nat} (ha:a < 18446744073709551616):sg a=sg 0 ↔ a=0 ∨ a=TOP:=by
 unfold sg TOP
 split <;> simp <;> omega
theorem Zrg {a:Nat} (ha:a < 18446744073709551616):Zer a=some (decide (isn a)):=by
 unfold Zer;rw [Zw5 ha]
theorem Zpv {a b:Nat} (ha:a < 18446744073709551616) (hb:b < 18446744073709551616):Zfk a b=some (decide (keyf a < keyf b)):=by
 unfold Zfk
 rw [Zrg ha,Zrg hb]
 simp only [Option.bind_some]
 have kb:∀ x,x < 18446744073709551616 → ¬ isn x → keyf x < 18444492273895866369:=by
  intro x hx nx
  unfold keyf
  rw [if_neg nx]
  unfold isn rg INF TOP at *
  split <;> omega
 have kn:∀ x,isn x → keyf x=18444492273895866369:=fun x h=>by unfold keyf;rw [if_pos h]
 by_cases na:isn a
 ·simp only [na,decide_true,if_true]
  by_cases nb:isn b
  ·rw [kn a na,kn b nb];simp
  ·have:=kb b hb nb
   rw [kn a na];simp;omega
 ·simp only [na,decide_false,Bool.false_eq_true,if_false]
  by_cases nb:isn b
  ·have:=kb a ha na
   rw [kn b nb];simp [nb,this]
  ·simp only [nb,decide_false,Bool.false_eq_true,if_false]
   rw [Z1s ha (by decide) na nan0,Z1s hb (by decide) nb nan0,Z82 ha hb na nb]
   by_cases hz:sg a=sg 0 ∧ sg b=sg 0
   ·rw [if_pos (by simp [hz])]
    have hk:=Z2a ha hb na nb
    have h0T:(0:Nat) ≠ TOP:=by decide
    rcases (Z1v ha).1 hz.1 with rfl | rfl <;> rcases (Z1v hb).1 hz.2 with rfl | rfl <;> simp only [Zbad,Zba2,gd,Option.bind_some,if_true,if_false,Bool.false_eq_true,Option.some.injEq] <;> decide
   ·rw [if_neg (by simpa using hz)]
    have hk:=Z2a ha hb na nb
    congr 1
    apply decide_eq_decide.2
    rw [hk]
    constructor
    ·intro h;exact .inl h
    ·rintro (h | ⟨rfl,rfl⟩)
     ·exact h
     ·exact absurd ⟨rfl,rfl⟩ hz
theorem Zn0 {a b:Nat} (ha:a < 18446744073709551616) (hb:b < 18446744073709551616):Zd3 a b=some (decide (keyf a=keyf b)):=by
 unfold Zd3
 rw [Zpv ha hb,Zpv hb ha]
 simp only [Option.bind_some,gd]
 by_cases h1:keyf a < keyf b
 ·have:keyf a ≠ keyf b:=by omega
  simp [h1,this]
 ·by_cases h2:keyf b < keyf a
  ·have:keyf a ≠ keyf b:=by omega
   simp [h1,h2,this]
  ·have:keyf a=keyf b:=by omega
   simp [this]
theorem Zq8 {a:Nat} (ha:a < 18446744073709551616):Zf4 a=some (decide (a=Zck a)):=by
 unfold Zf4
 rw [Zrg ha]
 unfold Zck NANB
 by_cases h:isn a
 ·by_cases h2:a=9221120237041090561
  ·simp [h,h2]
  ·have:(a:Int) ≠ 9221120237041090561:=by omega
   simp [h,h2,this]
 ·simp [h]
theorem wr {x:Int} (h1:-9223372036854775808 ≤ x) (h2:x ≤ 9223372036854775807):IntKind.i64.wrap x=x:=by
 rw [IntKind.wrap_i64];omega
theorem wr1 {i:Nat} (h:i < 9223372036854775807):IntKind.i64.wrap ((i:Int) + 1)=((i + 1:Nat):Int):=by
 rw [wr (by omega) (by omega)];omega
theorem Zbch (n:Int):IntKind.u64.wrap n=n % 18446744073709551616:=by simp [IntKind.wrap,IntKind.bits,IntKind.signed]
theorem wru {x:Int} (h1:0 ≤ x) (h2:x < 18446744073709551616):IntKind.u64.wrap x=x:=by rw [Zbch];omega
theorem wrm {i:Nat} (h:i < 9223372036854775807) (h0:0 < i):IntKind.i64.wrap ((i:Int) - 1)=((i - 1:Nat):Int):=by
 rw [wr (by omega) (by omega)];omega
theorem idxn {α:Type} (xs:List α) (i:Nat):idx xs (i:Int)=xs[i]?:=by
 unfold idx
 rw [if_pos (by omega)]
 simp
theorem Zdd {α:Type} {xs:List α} {i:Nat} (h:i < xs.length):idx xs (i:Int)=some xs[i]:=by
 rw [idxn,List.getElem?_eq_getElem h]
theorem gd_t {β:Type} [Inhabited β] (x:Option β):gd true x=x:=rfl
theorem gd_f {β:Type} [Inhabited β] (x:Option β):gd false x=some default:=rfl
theorem Zn5 {α:Type} {xs:List α} {l h:Nat} (h1:l ≤ h) (h2:h ≤ xs.length):cut xs (l:Int) (h:Int)=some ((xs.drop l).take (h - l)):=by
 unfold cut
 rw [if_pos (by omega)]
 simp
theorem Zv8 {a b:ByteArray} (h:a.toList=b.toList):a=b:=by
 rw [_root_.Go.ByteArray.toList_eq,_root_.Go.ByteArray.toList_eq] at h
 exact ByteArray.ext (Array.toList_inj.1 h)
theorem Zdz {a b:ByteArray}:sEq a b=true ↔ a=b:=by
 unfold sEq
 constructor
 ·intro h;exact Zv8 (by simpa using h)
 ·rintro rfl;simp
theorem Zdi (a:ByteArray):sEq a a=true:=Zdz.2 rfl
theorem Ze6 {a b:ByteArray}:sEq a b=false ↔ a ≠ b:=by
 cases h:sEq a b
 ·simp;intro e;rw [Zdz.2 e] at h;cases h
 ·simp;exact Zdz.1 h
theorem Z45:∀ l:List UInt8,Op.bytesLess l l=false
 | []=>rfl
 | x :: l=>by simp [Op.bytesLess,Z45 l]
theorem Zy3:∀ {a b c:List UInt8},Op.bytesLess a b=true → Op.bytesLess b c=true → Op.bytesLess a c=true
 | [],[],c,h,_=>by simp [Op.bytesLess] at h
 | [],y :: b,[],_,k=>by simp [Op.bytesLess] at k
 | [],y :: b,z :: c,_,_=>rfl
 | x :: a,[],c,h,_=>by simp [Op.bytesLess] at h
 | x :: a,y :: b,[],_,k=>by simp [Op.bytesLess] at k
 | x :: a,y :: b,z :: c,h,k=>by
  simp only [Op.bytesLess,Bool.or_eq_true,Bool.and_eq_true,decide_eq_true_eq,beq_iff_eq] at h k ⊢
  rcases h with h | ⟨h1,h2⟩ <;> rcases k with k | ⟨k1,k2⟩
  ·exact .inl (UInt8.lt_trans h k)
  ·subst k1;exact .inl h
  ·subst h1;exact .inl k
  ·subst h1;subst k1;exact .inr ⟨rfl,Zy3 h2 k2⟩
theorem Z5n:∀ (a b:List UInt8),Op.bytesLess a b=false → a ≠ b → Op.bytesLess b a=true
 | [],[],_,h=>absurd rfl h
 | [],y :: b,h,_=>by simp [Op.bytesLess] at h
 | x :: a,[],_,_=>rfl
 | x :: a,y :: b,h,hn=>by
  simp only [Op.bytesLess,Bool.or_eq_false_iff,decide_eq_false_iff_not,Bool.and_eq_false_iff] at h
  simp only [Op.bytesLess,Bool.or_eq_true,Bool.and_eq_true,decide_eq_true_eq,beq_iff_eq]
  by_cases e:x=y
  ·subst e
   right
   refine ⟨rfl,Z5n a b ?_ (fun h'=>hn (by rw [h']))⟩
   rcases h.2 with h | h
   ·simp at h
   ·exact h
  ·left
   rcases UInt8.lt_or_lt_of_ne e with h' | h'
   ·exact absurd h' h.1
   ·exact h'
theorem Zid (a:ByteArray):sLt a a=false:=Z45 _
theorem Zgj {a b c:ByteArray} (h:sLt a b=true) (k:sLt b c=true):sLt a c=true:=Zy3 h k
theorem Zm4 {a b:ByteArray} (h:sLt a b=false) (hn:a ≠ b):sLt b a=true:=Z5n _ _ h (fun e=>hn (Zv8 e))
theorem Zul {a b:ByteArray} (h:sLt a b=true):sLt b a=false:=by
 cases k:sLt b a
 ·rfl
 ·have:=Zgj h k
  rw [Zid] at this;cases this
theorem Zm8 {a b:ByteArray} (h:sLt a b=true):a ≠ b:=fun e=>by subst e;rw [Zid] at h;cases h
abbrev W64:Nat:=18446744073709551616
structure Zih (a:Ze):Prop where
 real:a.Real < W64
 len:a.List.length < 4611686018427387904
 sc:∀ e ∈ a.List,e.Score < W64
def Zds (a b:Zl):Bool:=if keyf a.Score=keyf b.Score then sLt a.Name b.Name else decide (keyf b.Score < keyf a.Score)
theorem Zp4 {a b:Zl} (ha:a.Score < W64) (hb:b.Score < W64):Zk0 a b=some (Zds a b):=by
 unfold Zk0 Zds
 rw [Zo8 ha hb,Zww hb ha]
 by_cases h:keyf a.Score=keyf b.Score <;> simp [h]
theorem Zzg {a b:Zl} (ha:a.Score < W64) (hb:b.Score < W64):Zgf a b=some (Zds a b):=by
 unfold Zgf Zds
 rw [Zpv hb ha,Zn0 ha hb]
 by_cases h:keyf a.Score=keyf b.Score
 ·simp [h]
 ·by_cases h2:keyf b.Score < keyf a.Score <;> simp [h,h2]
theorem Z13 {a:Nat} (ha:a < W64):Zhu a=some (decide (keyf a=keyf 0)):=by
 unfold Zhu
 rw [Zn0 ha (by decide)]
 rfl
def Zil (k:Int) (l:List Zl) (i:Nat):Int :=
 match l[i]? with
 | none=>0
 | some x =>
  let p:=(l[i - 1]?).getD default
  if (16:Int) < x.Name.size then 3
  else if (k=8 ∧ keyf x.Score ≠ keyf 0) ∨ x.Score ≠ Zck x.Score then 4
  else if 0 < i ∧ k=8 ∧ sLt p.Name x.Name=false then 4
  else if 0 < i ∧ k=9 ∧ Zds p x=false then 4
  else 0
theorem Z4e {k:Int} {l:List Zl} {i n:Nat} (hi:i < l.length) (hl:l.length < 4611686018427387904) (hs:∀ e ∈ l,e.Score < W64) :
  Zgq k l (n + 1) (i:Int)=if Zil k l i=0 then Zgq k l n ((i + 1:Nat):Int) else some (.inl (Zil k l i)):=by
 have hx:l[i].Score < W64:=hs _ (List.getElem_mem hi)
 rw [Zgq,if_pos (by simp;omega),Zdd hi,wr1 (by omega)]
 simp only [Option.bind_some]
 rw [Zo8 hx (by decide),Zso hx]
 simp only [Zil,List.getElem?_eq_getElem hi]
 by_cases h1:(16:Int) < l[i].Name.size
 ·simp [h1]
 ·simp only [h1,decide_false,if_false,Bool.false_eq_true]
  have hz:((0:Nat):Int)=0:=rfl
  by_cases h0:0 < i
  ·have hp:i - 1 < l.length:=by omega
   have hps:l[i - 1].Score < W64:=hs _ (List.getElem_mem hp)
   have hd:(decide ((0:Int) < (i:Int)))=true:=by simp;omega
   rw [hd,wrm (by omega) h0,Zdd hp]
   simp only [List.getElem?_eq_getElem hp,Option.getD_some,h0,true_and,Bool.true_and]
   by_cases h8:k=8
   ·subst h8
    simp only [beq_self_eq_true,gd_t,Option.bind_some,true_and,Bool.true_and]
    by_cases hk:keyf l[i].Score=keyf 0
    ·by_cases hc:l[i].Score=Zck l[i].Score
     ·simp [hk,← hc,gd]
      cases sLt l[i - 1].Name l[i].Name <;> simp
     ·simp [hk,hc,gd]
    ·simp [hk,gd]
   ·have h8':(k == 8)=false:=by simpa using h8
    simp only [h8',h8,gd_f,gd_t,Option.bind_some,false_and,false_or,Bool.false_and,Bool.not_false,Bool.false_or]
    by_cases hc:l[i].Score=Zck l[i].Score
    ·by_cases h9:k=9
     ·subst h9
      simp [← hc,gd,Zp4 hps hx]
      cases Zds l[i - 1] l[i] <;> simp
     ·simp [← hc,gd,h9]
    ·simp [hc]
  ·have h00:i=0:=by omega
   subst h00
   simp only [Nat.lt_irrefl,false_and,if_false,Int.ofNat_zero,Int.lt_irrefl,decide_false,Bool.false_and,gd_f,Option.bind_some,Int.natCast_zero]
   by_cases h8:k=8
   ·subst h8
    simp only [beq_self_eq_true,gd_t,Option.bind_some,true_and,Bool.true_and]
    by_cases hk:keyf l[0].Score=keyf 0
    ·by_cases hc:l[0].Score=Zck l[0].Score
     ·simp [hk,← hc,gd]
     ·simp [hk,hc,gd]
    ·simp [hk,gd]
   ·have h8':(k == 8)=false:=by simpa using h8
    simp only [h8',h8,gd_f,gd_t,Option.bind_some,false_and,false_or,Bool.false_and,Bool.not_false,Bool.false_or]
    by_cases hc:l[0].Score=Zck l[0].Score
    ·simp [← hc,gd]
    ·simp [hc]
theorem Z6q {k:Int} {l:List Zl} {i:Nat} (hi:i < l.length) (hl:l.length < 4611686018427387904) (hs:∀ e ∈ l,e.Score < W64):Zjd k l (i:Int)=some (Zil k l i):=by
 have hx:l[i].Score < W64:=hs _ (List.getElem_mem hi)
 unfold Zjd
 rw [Zdd hi]
 simp only [Option.bind_some]
 rw [Z13 hx,Zq8 hx]
 simp only [Zil,List.getElem?_eq_getElem hi]
 by_cases h1:(16:Int) < l[i].Name.size
 ·simp [h1]
 ·simp only [h1,decide_false,if_false,Bool.false_eq_true]
  by_cases h0:0 < i
  ·have hp:i - 1 < l.length:=by omega
   have hps:l[i - 1].Score < W64:=hs _ (List.getElem_mem hp)
   have hd:(decide ((0:Int) < (i:Int)))=true:=by simp;omega
   rw [hd,wrm (by omega) h0,Zdd hp]
   simp only [List.getElem?_eq_getElem hp,Option.getD_some,h0,true_and,Bool.true_and]
   by_cases h8:k=8
   ·subst h8
    simp only [beq_self_eq_true,gd_t,Option.bind_some,true_and,Bool.true_and]
    by_cases hk:keyf l[i].Score=keyf 0
    ·by_cases hc:l[i].Score=Zck l[i].Score
     ·simp [hk,← hc,gd]
      cases sLt l[i - 1].Name l[i].Name <;> simp
     ·simp [hk,hc,gd]
    ·simp [hk,gd]
   ·have h8':(k == 8)=false:=by simpa using h8
    simp only [h8',h8,gd_f,gd_t,Option.bind_some,false_and,false_or,Bool.false_and,Bool.not_false,Bool.false_or]
    by_cases hc:l[i].Score=Zck l[i].Score
    ·by_cases h9:k=9
     ·subst h9
      simp [← hc,gd,Zzg hps hx]
      cases Zds l[i - 1] l[i] <;> simp
     ·simp [← hc,gd,h9]
    ·simp [hc]
  ·have h00:i=0:=by omega
   subst h00
   simp only [Nat.lt_irrefl,false_and,if_false,Int.ofNat_zero,Int.lt_irrefl,decide_false,Bool.false_and,gd_f,Option.bind_some,Int.natCast_zero]
   by_cases h8:k=8
   ·subst h8
    simp only [beq_self_eq_true,gd_t,Option.bind_some,true_and,Bool.true_and]
    by_cases hk:keyf l[0].Score=keyf 0
    ·by_cases hc:l[0].Score=Zck l[0].Score
     ·simp [hk,← hc,gd]
     ·simp [hk,hc,gd]
    ·simp [hk,gd]
   ·have h8':(k == 8)=false:=by simpa using h8
    simp only [h8',h8,gd_f,gd_t,Option.bind_some,false_and,false_or,Bool.false_and,Bool.not_false,Bool.false_or]
    by_cases hc:l[0].Score=Zck l[0].Score
    ·simp [← hc,gd]
    ·simp [hc]
def Zj0 (k:Int) (l:List Zl):Nat → Nat → Int
 | _,0=>0
 | i,n + 1=>if Zil k l i=0 then Zj0 k l (i + 1) n else Zil k l i
def endC (c:Int):Int ⊕ Unit:=if c=0 then .inr () else .inl c
theorem Zuu {k:Int} {l:List Zl} {i n:Nat} (h:Zil k l i=0):Zj0 k l i (n + 1)=Zj0 k l (i + 1) n:=by simp [Zj0,h]
theorem Zuq {k:Int} {l:List Zl} {i n:Nat} (h:¬ Zil k l i=0):Zj0 k l i (n + 1)=Zil k l i:=by simp [Zj0,h]
theorem Z5g {c:Int} (h:¬ c=0):endC c=.inl c:=if_neg h
theorem Zvt {k:Int} {l:List Zl} (hl:l.length < 4611686018427387904) (hs:∀ e ∈ l,e.Score < W64):∀ (n i:Nat),i + n=l.length →
  Zgq k l (n + 1) (i:Int)=some (endC (Zj0 k l i n))
 | 0,i,h=>by
  rw [Zgq,if_neg (by simp;omega)]
  rfl
 | n + 1,i,h=>by
  rw [Z4e (by omega) hl hs]
  by_cases hc:Zil k l i=0
  ·rw [if_pos hc,Zuu hc,Zvt hl hs n (i + 1) (by omega)]
  ·rw [if_neg hc,Zuq hc,Z5g hc]
theorem Z6a {k:Int} {l:List Zl} (hl:l.length < 4611686018427387904) (hs:∀ e ∈ l,e.Score < W64):Zog k l=some (Zj0 k l 0 l.length):=by
 unfold Zog
 rw [show (Int.toNat ((l.length:Int) - (0:Int)) + 1)=l.length + 1 by omega,show (0:Int)=((0:Nat):Int) from rfl,Zvt hl hs l.length 0 (by omega)]
 unfold endC
 by_cases h:Zj0 k l 0 l.length=0 <;> simp [h]
theorem Zt5 {a:Ze} (ha:Zih a):∀ (n i:Nat),i + n=a.List.length →
  Zeh a (n + 1) (i:Int)=some (endC (Zj0 a.Kind a.List i n))
 | 0,i,h=>by
  rw [Zeh,if_neg (by simp;omega)]
  rfl
 | n + 1,i,h=>by
  have hl:=ha.len
  rw [Zeh,if_pos (by simp;omega),Z6q (by omega) hl ha.sc,wr1 (by omega)]
  simp only [Option.bind_some]
  by_cases hc:Zil a.Kind a.List i=0
  ·rw [if_neg (by simp [hc]),Zuu hc,Zt5 ha n (i + 1) (by omega)]
  ·rw [if_pos (by simp [hc]),Zuq hc,Z5g hc]
def Zh4 (t n b r l:Bool) (a:Ze):Bool:=(t || sEq a.Text ⟨#[]⟩) && (n || a.Num == 0) && (b || (a.Low == 0 && a.High == 0)) && (r || decide (keyf a.Real=keyf 0)) && (l || (a.Cap == 0 && (a.List.length:Int) == 0))
theorem Z83 {a:Ze} (ha:Zih a) (t n b r l:Bool):Zpc a ⟨t,n,b,r,l⟩=some (Zh4 t n b r l a):=by
 unfold Zpc Zh4
 rw [Zo8 ha.real (by decide)]
 simp only
 generalize sEq a.Text ⟨#[]⟩=x1
 generalize (a.Num == 0)=x2
 generalize (a.Low == 0)=x3
 generalize (a.High == 0)=x4
 generalize decide (keyf a.Real=keyf 0)=x5
 generalize (a.Cap == 0)=x6
 generalize ((a.List.length:Int) == 0)=x7
 revert t n b r l x1 x2 x3 x4 x5 x6 x7
 decide
theorem Z8p {a:Ze} (ha:Zih a) {s:ByteArray} {t n b r l:Bool} (h:Zc4 s (Int.toNat ((s.size:Int) - (0:Int)) + 1) false false false false false 0=some (t,n,b,r,l)):Zjh a s=some (Zh4 t n b r l a):=by
 unfold Zjh Zh4
 rw [h,Z13 ha.real]
 simp only [Option.bind_some,bne]
 generalize sEq a.Text ⟨#[]⟩=x1
 generalize (a.Num == 0)=x2
 generalize (a.Low == 0)=x3
 generalize (a.High == 0)=x4
 generalize decide (keyf a.Real=keyf 0)=x5
 generalize (a.Cap == 0)=x6
 generalize ((a.List.length:Int) == 0)=x7
 clear h
 revert t n b r l x1 x2 x3 x4 x5 x6 x7
 decide
theorem Zbcq:Zc4 ⟨#[116]⟩ (Int.toNat (((⟨#[116]⟩:ByteArray).size:Int) - (0:Int)) + 1) false false false false false 0=some (true,false,false,false,false):=by kernel_rfl
theorem Z69:Zc4 ⟨#[110]⟩ (Int.toNat (((⟨#[110]⟩:ByteArray).size:Int) - (0:Int)) + 1) false false false false false 0=some (false,true,false,false,false):=by kernel_rfl
theorem Zbak:Zc4 ⟨#[110,98]⟩ (Int.toNat (((⟨#[110,98]⟩:ByteArray).size:Int) - (0:Int)) + 1) false false false false false 0=some (false,true,true,false,false):=by kernel_rfl
theorem Z3j:Zc4 ⟨#[114]⟩ (Int.toNat (((⟨#[114]⟩:ByteArray).size:Int) - (0:Int)) + 1) false false false false false 0=some (false,false,false,true,false):=by kernel_rfl
theorem Z7j:Zc4 ⟨#[108]⟩ (Int.toNat (((⟨#[108]⟩:ByteArray).size:Int) - (0:Int)) + 1) false false false false false 0=some (false,false,false,false,true):=by kernel_rfl
def Zqv (t n b r l:Bool) (a:Ze):Int :=
 if Zh4 t n b r l a=false then 4
 else if (64:Int) < a.Text.size then 3
 else if b=true ∧ (a.Low < -2305843009213693952 ∨ 2305843009213693952 < a.High ∨ a.Num < a.Low ∨ a.High < a.Num) then 1
 else if a.Real ≠ Zck a.Real then 4
 else if l=false then 0
 else if a.Cap < 1 ∨ 32 < a.Cap then 1
 else if a.Cap < a.List.length then 8
 else Zj0 a.Kind a.List 0 a.List.length
theorem Zg6 {a:Ze} (ha:Zih a) {t n b r l:Bool} (hk:¬ (a.Kind ≤ 0 ∨ 10 ≤ a.Kind)) (hs:Zey a.Kind=some ⟨t,n,b,r,l⟩):Zet a=some (Zqv t n b r l a):=by
 unfold Zet Zqv
 rw [hs]
 simp only [Option.bind_some]
 rw [Z83 ha,Zso ha.real,Z6a ha.len ha.sc]
 simp only [Option.bind_some]
 rw [if_neg (by simpa using hk)]
 by_cases h1:Zh4 t n b r l a=false
 ·rw [if_pos h1,if_pos (by simp [h1])]
 ·rw [if_neg h1,if_neg (by simpa using h1)]
  by_cases h2:(64:Int) < a.Text.size
  ·rw [if_pos h2,if_pos (by simpa using h2)]
  ·rw [if_neg h2,if_neg (by simpa using h2)]
   by_cases h3:b=true ∧ (a.Low < -2305843009213693952 ∨ 2305843009213693952 < a.High ∨ a.Num < a.Low ∨ a.High < a.Num)
   ·rw [if_pos h3,if_pos (by simpa [or_assoc] using h3)]
   ·rw [if_neg h3,if_neg (by simpa [or_assoc] using h3)]
    by_cases h4:a.Real=Zck a.Real
    ·rw [if_neg (show ¬ (a.Real ≠ Zck a.Real) from fun h=>h h4),decide_eq_true h4]
     simp only [Bool.not_true,Bool.false_eq_true,if_false]
     cases l
     ·simp
     ·simp only [Bool.not_true,Bool.false_eq_true,if_false,Bool.true_eq_false]
      by_cases h5:a.Cap < 1 ∨ 32 < a.Cap
      ·rw [if_pos h5,if_pos (by simpa using h5)]
      ·rw [if_neg h5,if_neg (by simpa using h5)]
       by_cases h6:a.Cap < a.List.length
       ·rw [if_pos h6,if_pos (by simpa using h6)]
       ·rw [if_neg h6,if_neg (by simpa using h6)]
    ·rw [if_pos (show a.Real ≠ Zck a.Real from h4),decide_eq_false h4]
     rfl
theorem Z5b:Zey 1=some ⟨true,false,false,false,false⟩:=by kernel_rfl
theorem Z4p:Zey 2=some ⟨false,true,false,false,false⟩:=by kernel_rfl
theorem Z4a:Zey 3=some ⟨false,true,false,false,false⟩:=by kernel_rfl
theorem Z5j:Zey 4=some ⟨false,true,true,false,false⟩:=by kernel_rfl
theorem Z4h:Zey 5=some ⟨false,false,false,true,false⟩:=by kernel_rfl
theorem Z39:Zey 6=some ⟨false,false,false,true,false⟩:=by kernel_rfl
theorem Z4z:Zey 7=some ⟨false,false,false,true,false⟩:=by kernel_rfl
theorem Z4t:Zey 8=some ⟨false,false,false,false,true⟩:=by kernel_rfl
theorem Z4g:Zey 9=some ⟨false,false,false,false,true⟩:=by kernel_rfl
def Ztp (t n b r l:Bool) (k:Int) (a:Ze):Int :=
 if Zh4 t n b r l a=false then 4
 else if k=1 ∧ (64:Int) < a.Text.size then 3
 else if k=4 ∧ (a.Low < -2305843009213693952 ∨ 2305843009213693952 < a.High ∨ a.Num < a.Low ∨ a.High < a.Num) then 1
 else if a.Real ≠ Zck a.Real then 4
 else if k < 8 then 0
 else if a.Cap < 1 ∨ 32 < a.Cap then 1
 else if a.Cap < a.List.length then 8
 else Zj0 a.Kind a.List 0 a.List.length
theorem Zg9 {a:Ze} (ha:Zih a) {t n b r l:Bool} {s:ByteArray} (hk:¬ (a.Kind < 1 ∨ 9 < a.Kind)) (hf:Zjq a.Kind=some s)
  (ho:Zc4 s (Int.toNat ((s.size:Int) - (0:Int)) + 1) false false false false false 0=some (t,n,b,r,l)):Zdy a=some (Ztp t n b r l a.Kind a):=by
 unfold Zdy Ztp
 have hw:IntKind.i64.wrap (0 - (2305843009213693952:Int))=-2305843009213693952:=by decide
 rw [hf,Zq8 ha.real,hw,show (Int.toNat ((a.List.length:Int) - (0:Int)) + 1)=a.List.length + 1 by omega]
 have hloop:=Zt5 ha a.List.length 0 (by omega)
 rw [show ((0:Nat):Int)=0 from rfl] at hloop
 rw [hloop]
 simp only [Option.bind_some]
 rw [if_neg (by simpa using hk),Z8p ha ho]
 simp only [Option.bind_some]
 by_cases h1:Zh4 t n b r l a=false
 ·rw [if_pos h1,if_pos (by simp [h1])]
 ·rw [if_neg h1,if_neg (by simpa using h1)]
  by_cases h2:a.Kind=1 ∧ (64:Int) < a.Text.size
  ·rw [if_pos h2,if_pos (by simpa using h2)]
  ·rw [if_neg h2,if_neg (by simpa using h2)]
   by_cases h3:a.Kind=4 ∧ (a.Low < -2305843009213693952 ∨ 2305843009213693952 < a.High ∨ a.Num < a.Low ∨ a.High < a.Num)
   ·rw [if_pos h3,if_pos (by simpa [or_assoc] using h3)]
   ·rw [if_neg h3,if_neg (by simpa [or_assoc] using h3)]
    by_cases h4:a.Real=Zck a.Real
    ·rw [if_neg (show ¬ (a.Real ≠ Zck a.Real) from fun h=>h h4),decide_eq_true h4]
     simp only [Bool.not_true,Bool.false_eq_true,if_false]
     by_cases h7:a.Kind < 8
     ·rw [if_pos h7,if_pos (by simpa using h7)]
     ·rw [if_neg h7,if_neg (by simpa using h7)]
      by_cases h5:a.Cap < 1 ∨ 32 < a.Cap
      ·rw [if_pos h5,if_pos (by simpa using h5)]
      ·rw [if_neg h5,if_neg (by simpa using h5)]
       by_cases h6:a.Cap < a.List.length
       ·rw [if_pos h6,if_pos (by simpa using h6)]
       ·rw [if_neg h6,if_neg (by simpa using h6)]
        unfold endC
        by_cases h:Zj0 a.Kind a.List 0 a.List.length=0 <;> simp [h]
    ·rw [if_pos (show a.Real ≠ Zck a.Real from h4),decide_eq_false h4]
     rfl
theorem Z75 {t n b r l:Bool} {a:Ze} (h:¬ Zh4 t n b r l a=false) (ht:t=false):a.Text.size=0:=by
 subst ht
 have:Zh4 false n b r l a=true:=by simpa using h
 unfold Zh4 at this
 simp only [Bool.false_or,Bool.and_eq_true] at this
 have:=Zdz.1 this.1.1.1.1
 rw [this];rfl
theorem D_eq (t n b r l:Bool) (k:Int) (a:Ze) (ht:t=true ↔ k=1) (hb:b=true ↔ k=4) (hl:l=false ↔ k < 8):Ztp t n b r l k a=Zqv t n b r l a:=by
 unfold Ztp Zqv
 by_cases h1:Zh4 t n b r l a=false
 ·rw [if_pos h1,if_pos h1]
 ·rw [if_neg h1,if_neg h1]
  have e2:(k=1 ∧ (64:Int) < a.Text.size) ↔ (64:Int) < a.Text.size:=by
   constructor
   ·exact fun h=>h.2
   ·intro h
    refine ⟨ht.1 ?_,h⟩
    cases t
    ·have:=Z75 h1 rfl;omega
    ·rfl
  simp only [e2,hb,hl]
theorem Zni {a:Ze} (ha:Zih a):∃ c,Zet a=some c ∧ Zdy a=some c:=by
 by_cases hk:a.Kind ≤ 0 ∨ 10 ≤ a.Kind
 ·refine ⟨5,?_,?_⟩
  ·unfold Zet
   have hs:∃ s,Zey a.Kind=some s:=by
    have h1:¬ a.Kind=1:=by omega
    have h2:¬ a.Kind=2:=by omega
    have h3:¬ a.Kind=3:=by omega
    have h4:¬ a.Kind=4:=by omega
    have h5:¬ a.Kind=5:=by omega
    have h6:¬ a.Kind=6:=by omega
    have h7:¬ a.Kind=7:=by omega
    have h8:¬ a.Kind=8:=by omega
    have h9:¬ a.Kind=9:=by omega
    exact ⟨⟨false,false,false,false,false⟩,by simp [Zey,Zk7,Zjm,Zk8,h1,h2,h3,h4,h5,h6,h7,h8,h9]⟩
   obtain ⟨s,hs⟩:=hs
   rw [hs]
   simp only [Option.bind_some]
   rw [if_pos (by simpa using hk)]
  ·unfold Zdy
   rw [if_pos (by simp;omega)]
 ·have hk2:¬ (a.Kind < 1 ∨ 9 < a.Kind):=by omega
  have hk':a.Kind=1 ∨ a.Kind=2 ∨ a.Kind=3 ∨ a.Kind=4 ∨ a.Kind=5 ∨ a.Kind=6 ∨ a.Kind=7 ∨ a.Kind=8 ∨ a.Kind=9:=by omega
  rcases hk' with h | h | h | h | h | h | h | h | h
  ·exact ⟨_,Zg6 ha hk (by rw [h];exact Z5b),by rw [Zg9 ha hk2 (by rw [h];kernel_rfl) Zbcq,D_eq _ _ _ _ _ _ _ (by simp [h]) (by simp [h]) (by simp [h])]⟩
  ·exact ⟨_,Zg6 ha hk (by rw [h];exact Z4p),by rw [Zg9 ha hk2 (by rw [h];kernel_rfl) Z69,D_eq _ _ _ _ _ _ _ (by simp [h]) (by simp [h]) (by simp [h])]⟩
  ·exact ⟨_,Zg6 ha hk (by rw [h];exact Z4a),by rw [Zg9 ha hk2 (by rw [h];kernel_rfl) Z69,D_eq _ _ _ _ _ _ _ (by simp [h]) (by simp [h]) (by simp [h])]⟩
  ·exact ⟨_,Zg6 ha hk (by rw [h];exact Z5j),by rw [Zg9 ha hk2 (by rw [h];kernel_rfl) Zbak,D_eq _ _ _ _ _ _ _ (by simp [h]) (by simp [h]) (by simp [h])]⟩
  ·exact ⟨_,Zg6 ha hk (by rw [h];exact Z4h),by rw [Zg9 ha hk2 (by rw [h];kernel_rfl) Z3j,D_eq _ _ _ _ _ _ _ (by simp [h]) (by simp [h]) (by simp [h])]⟩
  ·exact ⟨_,Zg6 ha hk (by rw [h];exact Z39),by rw [Zg9 ha hk2 (by rw [h];kernel_rfl) Z3j,D_eq _ _ _ _ _ _ _ (by simp [h]) (by simp [h]) (by simp [h])]⟩
  ·exact ⟨_,Zg6 ha hk (by rw [h];exact Z4z),by rw [Zg9 ha hk2 (by rw [h];kernel_rfl) Z3j,D_eq _ _ _ _ _ _ _ (by simp [h]) (by simp [h]) (by simp [h])]⟩
  ·exact ⟨_,Zg6 ha hk (by rw [h];exact Z4t),by rw [Zg9 ha hk2 (by rw [h];kernel_rfl) Z7j,D_eq _ _ _ _ _ _ _ (by simp [h]) (by simp [h]) (by simp [h])]⟩
  ·exact ⟨_,Zg6 ha hk (by rw [h];exact Z4g),by rw [Zg9 ha hk2 (by rw [h];kernel_rfl) Z7j,D_eq _ _ _ _ _ _ _ (by simp [h]) (by simp [h]) (by simp [h])]⟩
def endB:Bool → Bool ⊕ Unit
 | true=>.inr ()
 | false=>.inl false
def eqI (x y:Zl):Bool:=sEq x.Name y.Name && decide (keyf x.Score=keyf y.Score)
def eqL:List Zl → List Zl → Bool
 | [],[]=>true
 | x :: xs,y :: ys=>eqI x y && eqL xs ys
 | _,_=>false
def Zkw (a b:Ze):Bool:=(a.Kind == b.Kind) && (a.Num == b.Num) && (a.Low == b.Low) && (a.High == b.High) && decide (keyf a.Real=keyf b.Real) && (a.Cap == b.Cap) && sEq a.Text b.Text && eqL a.List b.List
theorem Zwk:∀ {a b:List Zl},eqL a b=true → a.length=b.length
 | [],[],_=>rfl
 | x :: xs,y :: ys,h=>by
  simp only [eqL,Bool.and_eq_true] at h
  simp [Zwk h.2]
 | [],_ :: _,h=>by simp [eqL] at h
 | _ :: _,[],h=>by simp [eqL] at h
theorem Z6x {x y:Zl} (hx:x.Score < W64) (hy:y.Score < W64):Zju x y=some (eqI x y):=by
 unfold Zju eqI
 rw [Zo8 hx hy]
 cases sEq x.Name y.Name <;> simp [gd]
theorem Zze {a b:List Zl} (ha:∀ e ∈ a,e.Score < W64) (hb:∀ e ∈ b,e.Score < W64) (hl:a.length < 4611686018427387904) (he:a.length=b.length):∀ (n i:Nat),i + n=a.length →
  Zbv a b (fun y0 y1=>Zju y0 y1) (n + 1) (i:Int)=some (endB (eqL (a.drop i) (b.drop i)))
 | 0,i,h=>by
  rw [Zbv,if_neg (by simp;omega),List.drop_of_length_le (by omega),List.drop_of_length_le (by omega)]
  rfl
 | n + 1,i,h=>by
  have h1:i < a.length:=by omega
  have h2:i < b.length:=by omega
  rw [Zbv,if_pos (by simp;omega),Zdd h1,Zdd h2,wr1 (by omega)]
  simp only [Option.bind_some]
  rw [Z6x (ha _ (List.getElem_mem h1)) (hb _ (List.getElem_mem h2)),List.drop_eq_getElem_cons h1,List.drop_eq_getElem_cons h2]
  simp only [Option.bind_some,eqL]
  cases hq:eqI a[i] b[i]
  ·simp [endB]
  ·simp only [Bool.not_true,Bool.false_eq_true,if_false,Bool.true_and]
   exact Zze ha hb hl he n (i + 1) (by omega)
theorem Zbbb {a b:List Zl} (ha:∀ e ∈ a,e.Score < W64) (hb:∀ e ∈ b,e.Score < W64) (hl:a.length < 4611686018427387904):Zcl a b (fun y0 y1=>Zju y0 y1)=some (eqL a b):=by
 unfold Zcl
 by_cases he:a.length=b.length
 ·rw [if_neg (by simp;omega),show (Int.toNat ((a.length:Int) - (0:Int)) + 1)=a.length + 1 by omega]
  have:=Zze ha hb hl he a.length 0 (by omega)
  rw [show ((0:Nat):Int)=0 from rfl] at this
  rw [this]
  simp only [List.drop_zero]
  cases eqL a b <;> simp [endB]
 ·rw [if_pos (by simp;omega)]
  cases h:eqL a b
  ·rfl
  ·exact absurd (Zwk h) he
theorem Zzu {a b:Ze} (ha:Zih a) (hb:Zih b):Zn6 a b=some (Zkw a b):=by
 unfold Zn6 Zkw
 rw [Zo8 ha.real hb.real,Zbbb ha.sc hb.sc ha.len]
 generalize (a.Kind == b.Kind)=x1
 generalize (a.Num == b.Num)=x2
 generalize (a.Low == b.Low)=x3
 generalize (a.High == b.High)=x4
 generalize decide (keyf a.Real=keyf b.Real)=x5
 generalize (a.Cap == b.Cap)=x6
 generalize sEq a.Text b.Text=x7
 generalize eqL a.List b.List=x8
 revert x1 x2 x3 x4 x5 x6 x7 x8
 decide
theorem Zvm {a b:Ze} (ha:Zih a) (hb:Zih b) (he:a.List.length=b.List.length):∀ (n i:Nat),i + n=a.List.length →
  Zew a b (n + 1) (i:Int)=some (endB (eqL (a.List.drop i) (b.List.drop i)))
 | 0,i,h=>by
  rw [Zew,if_neg (by simp;omega),List.drop_of_length_le (by omega),List.drop_of_length_le (by omega)]
  rfl
 | n + 1,i,h=>by
  have h1:i < a.List.length:=by omega
  have h2:i < b.List.length:=by omega
  have hl:=ha.len
  have hs1:=ha.sc _ (List.getElem_mem h1)
  have hs2:=hb.sc _ (List.getElem_mem h2)
  rw [Zew,if_pos (by simp;omega),Zdd h1,Zdd h2,wr1 (by omega),List.drop_eq_getElem_cons h1,List.drop_eq_getElem_cons h2]
  simp only [Option.bind_some,eqL,eqI]
  cases hn:sEq a.List[i].Name b.List[i].Name
  ·simp [gd,endB]
  ·simp only [Bool.not_true,Bool.not_false,gd_t,Option.bind_some]
   rw [Zn0 hs1 hs2]
   simp only [Option.bind_some,Bool.false_or,Bool.true_and]
   by_cases hk:keyf a.List[i].Score=keyf b.List[i].Score
   ·simp only [hk,decide_true,Bool.not_true,Bool.false_eq_true,if_false,Bool.true_and]
    exact Zvm ha hb he n (i + 1) (by omega)
   ·simp [hk,endB]
theorem Zr8 {a b:Ze} (ha:Zih a) (hb:Zih b):Zgw a b=some (Zkw a b):=by
 unfold Zgw Zkw
 rw [Zn0 ha.real hb.real]
 by_cases he:a.List.length=b.List.length
 ·have:=Zvm ha hb he a.List.length 0 (by omega)
  rw [show ((0:Nat):Int)=0 from rfl] at this
  rw [show (Int.toNat ((a.List.length:Int) - (0:Int)) + 1)=a.List.length + 1 by omega,this]
  have hn:((a.List.length:Int) != (b.List.length:Int))=false:=by simp;omega
  rw [hn]
  simp only [List.drop_zero,bne]
  generalize (a.Kind == b.Kind)=x1
  generalize (a.Num == b.Num)=x2
  generalize (a.Low == b.Low)=x3
  generalize (a.High == b.High)=x4
  generalize decide (keyf a.Real=keyf b.Real)=x5
  generalize (a.Cap == b.Cap)=x6
  generalize sEq a.Text b.Text=x7
  generalize eqL a.List b.List=x8
  clear this hn he
  revert x1 x2 x3 x4 x5 x6 x7 x8
  decide
 ·have h8:eqL a.List b.List=false:=by
   cases h:eqL a.List b.List
   ·rfl
   ·exact absurd (Zwk h) he
  have hn:((a.List.length:Int) != (b.List.length:Int))=true:=by simp;omega
  rw [hn,h8]
  simp only [bne,Bool.or_true,Option.bind_some,if_true,Bool.and_false,ite_self]
theorem Zvc {a:Ze} (hl:a.List.length ≤ 9223372036854775807):∀ (n i:Nat),i + n=a.List.length → ∃ z,Zfc a (n + 1) (i:Int)=some z ∧ (z=.inl 1 ∨ z=.inr ())
 | 0,i,h=>by
  rw [Zfc,if_neg (by simp;omega)]
  exact ⟨_,rfl,.inr rfl⟩
 | n + 1,i,h=>by
  rw [Zfc,if_pos (by simp;omega),Zdd (by omega),wr1 (by omega)]
  simp only [Option.bind_some]
  split
  ·exact ⟨_,rfl,.inl rfl⟩
  ·exact Zvc hl n (i + 1) (by omega)
theorem Z7n {a:Ze} (hl:a.List.length ≤ 9223372036854775807):∃ c,Zie a=some c ∧ (c=0 ∨ c=1) ∧ (c=0 → a.List.length ≤ 100):=by
 unfold Zie
 by_cases h:(100:Int) < a.List.length ∨ (1000:Int) < a.Text.size
 ·rw [if_pos (by simpa using h)]
  exact ⟨1,rfl,.inr rfl,fun h=>by cases h⟩
 ·rw [if_neg (by simpa using h),show (Int.toNat ((a.List.length:Int) - (0:Int)) + 1)=a.List.length + 1 by omega]
  obtain ⟨z,hz,hc⟩:=Zvc hl a.List.length 0 (by omega)
  rw [show ((0:Nat):Int)=0 from rfl] at hz
  rw [hz]
  rcases hc with rfl | rfl
  ·exact ⟨1,rfl,.inr rfl,fun h=>by cases h⟩
  ·exact ⟨0,rfl,.inl rfl,fun _=>by omega⟩
theorem Zqj {β:Type} [Inhabited β] (c:Bool) (v:β):gd c (some v)=some (if c then v else default):=by cases c <;> rfl
def Zvl (a:Zu):Prop:=Zih a.Make ∧ a.X < W64
abbrev zrc:Ze:={ Kind:=0,Num:=0,Low:=0,High:=0,Real:=0,Cap:=0,Text:=ByteArray.empty,List:=[] }
theorem Z4s:Zih zrc:=⟨by decide,by decide,fun e he=>by cases he⟩
def actD (n x s m o1 k1 k2:Bool) (c:Int) (a:Zu):Int :=
 if (sEq a.Key ⟨#[]⟩ || decide ((24:Int) < a.Key.size))=true then 1
 else if (!(((n || a.N == 0) && (x || decide (keyf a.X=keyf 0))) && (s || sEq a.S ⟨#[]⟩) && (m || Zkw a.Make zrc)))=true then 4
 else if decide ((if o1=true then (64:Int) else 16) < a.S.size)=true then 3
 else if (k2 && (decide (a.N < 0) || decide (2305843009213693952 < a.N)))=true then 1
 else if (!decide (a.X=Zck a.X))=true then 4
 else if k1=true then c else 0
theorem Z8e (k:ByteArray):(decide ((k.size:Int) < 1))=sEq k ⟨#[]⟩:=by
 by_cases h:k=⟨#[]⟩
 ·subst h;rw [Zdi];decide
 ·rw [Ze6.2 h]
  have:k.size ≠ 0:=fun e=>h (by
   apply ByteArray.ext
   exact Array.size_eq_zero_iff.1 e)
  simp;omega
theorem Z4r {a:Zu} (ha:Zvl a) {w has:ByteArray} {on c:Int} {n x s m:Bool} (hc:Zet a.Make=some c) (h1:Zpp a.Kind=some ⟨w,on,has⟩) (hw:sEq w ⟨#[]⟩=false)
  (fn:Zdr ⟨w,on,has⟩ 110=some n) (fx:Zdr ⟨w,on,has⟩ 120=some x) (fs:Zdr ⟨w,on,has⟩ 115=some s) (fm:Zdr ⟨w,on,has⟩ 109=some m) :
  Zgy a=some (actD n x s m (on == 1) (a.Kind == 1) (a.Kind == 10 || a.Kind == 11) c a):=by
 have h0:(0:Nat) < W64:=by decide
 unfold Zgy Zro Zre
 rw [h1]
 simp only [Option.bind_some,hw,Bool.false_eq_true,if_false,fn,fx,fs,fm,Zqj]
 rw [Zo8 ha.2 h0,Zzu ha.1 Z4s,Zso ha.2,hc]
 simp only [Option.bind_some,Zqj]
 unfold actD
 generalize (sEq a.Key ⟨#[]⟩ || decide ((24:Int) < a.Key.size))=b1
 generalize (a.N == 0)=b2
 generalize decide (keyf a.X=keyf 0)=b3
 generalize sEq a.S ⟨#[]⟩=b4
 generalize Zkw a.Make zrc=b5
 generalize (a.Kind == 10 || a.Kind == 11)=b6
 generalize (a.Kind == 1)=b7
 generalize (decide (a.N < 0) || decide (2305843009213693952 < a.N))=b8
 generalize decide (a.X=Zck a.X)=b9
 have e1:decide ((64:Int) < a.S.size)=decide ((if true=true then (64:Int) else 16) < a.S.size):=rfl
 cases b1
 ·have hm:∀ (z:Bool),((if z=true then some (64:Int) else some 16).bind fun r8=>(if decide (r8 < (a.S.size:Int))=true then some (3:Int) else if (b6 && b8)=true then some 1 else if (!b9)=true then some 4 else if b7=true then some c else some 0))=some (if decide ((if z=true then (64:Int) else 16) < a.S.size)=true then 3 else if (b6 && b8)=true then 1 else if (!b9)=true then 4 else if b7=true then c else 0):=by
   intro z
   cases z <;> simp only [Bool.false_eq_true,if_false,if_true,Option.bind_some] <;> (repeat' split) <;> rfl
  rw [hm]
  cases n <;> cases x <;> cases s <;> cases m <;> cases b2 <;> cases b3 <;> cases b4 <;> cases b5 <;> rfl
 ·rfl
theorem Z3e {a:Zu} (ha:Zvl a) {on c:Int} {n x s m:Bool} (hc:Zdy a.Make=some c) (hk:¬ (a.Kind < 1 ∨ 21 < a.Kind)) (ro:Ze5 a.Kind=some on)
  (fn:Zee a.Kind 110=some n) (fx:Zee a.Kind 120=some x) (fs:Zee a.Kind 115=some s) (fm:m=(a.Kind == 1)) :
  Ze2 a=some (actD n x s m (on == 1) (a.Kind == 1) (a.Kind == 10 || a.Kind == 11) c a):=by
 have h0:(0:Nat) < W64:=by decide
 unfold Ze2
 rw [if_neg (by simpa using hk),fn,fx,fs,ro]
 simp only [Option.bind_some,Zqj,Z8e]
 rw [Zn0 ha.2 h0,Zr8 ha.1 Z4s,Zq8 ha.2,hc]
 simp only [Option.bind_some,Zqj]
 unfold actD
 subst fm
 have hmid:((on == 1 && decide ((64:Int) < a.S.size)) || ((if (!(on == 1 && decide ((64:Int) < a.S.size)))=true then on else default) != 1 && decide ((16:Int) < a.S.size)))=decide ((if (on == 1)=true then (64:Int) else 16) < a.S.size):=by
  by_cases ho:on=1
  ·subst ho
   by_cases h64:(64:Int) < a.S.size <;> simp [h64]
  ·have hb1:(on == 1)=false:=by simpa using ho
   have hb2:(on != 1)=true:=by simpa using ho
   simp [hb1,hb2]
 rw [hmid,show (a.N != 0)=!(a.N == 0) from rfl,show (a.Kind != 1)=!(a.Kind == 1) from rfl]
 generalize decide ((if (on == 1)=true then (64:Int) else 16) < a.S.size)=b10
 generalize (sEq a.Key ⟨#[]⟩ || decide ((24:Int) < a.Key.size))=b1
 generalize (a.N == 0)=b2
 generalize decide (keyf a.X=keyf 0)=b3
 generalize sEq a.S ⟨#[]⟩=b4
 generalize Zkw a.Make zrc=b5
 generalize (a.Kind == 10 || a.Kind == 11)=b6
 generalize (a.Kind == 1)=b7
 generalize (decide (a.N < 0) || decide (2305843009213693952 < a.N))=b8
 generalize decide (a.X=Zck a.X)=b9
 have htail:(if b10=true then some (3:Int) else if (b6 && b8)=true then some 1 else if (!b9)=true then some 4 else if b7=true then some c else some 0)=some (if b10=true then 3 else if (b6 && b8)=true then 1 else if (!b9)=true then 4 else if b7=true then c else 0):=by
  (repeat' split) <;> rfl
 rw [htail]
 cases b1
 ·cases n <;> cases x <;> cases s <;> cases b7 <;> cases b2 <;> cases b3 <;> cases b4 <;> cases b5 <;> rfl
 ·rfl
theorem Z4i {n x s m o1 k1 k2:Bool} {c:Int} {a:Zu} (h:actD n x s m o1 k1 k2 c a=0):(sEq a.Key ⟨#[]⟩ || decide ((24:Int) < a.Key.size))=false ∧ decide ((if o1=true then (64:Int) else 16) < a.S.size)=false ∧ (k2 && (decide (a.N < 0) || decide (2305843009213693952 < a.N)))=false ∧ decide (a.X=Zck a.X)=true ∧ (k1=true → c=0):=by
 unfold actD at h
 revert h
 generalize (sEq a.Key ⟨#[]⟩ || decide ((24:Int) < a.Key.size))=b1
 generalize decide ((if o1=true then (64:Int) else 16) < a.S.size)=b3
 generalize (k2 && (decide (a.N < 0) || decide (2305843009213693952 < a.N)))=b4
 generalize decide (a.X=Zck a.X)=b5
 generalize (!(((n || a.N == 0) && (x || decide (keyf a.X=keyf 0))) && (s || sEq a.S ⟨#[]⟩) && (m || Zkw a.Make zrc)))=b2
 cases b1 <;> cases b2 <;> cases b3 <;> cases b4 <;> cases b5 <;> cases k1 <;> simp
theorem Zp2 {a:Zu} (ha:Zvl a):∃ c,Zgy a=some c ∧ Ze2 a=some c ∧ (c=0 → 1 ≤ a.Kind ∧ a.Kind ≤ 21 ∧ a.X=Zck a.X ∧ a.S.size ≤ 64 ∧ ((a.Kind=10 ∨ a.Kind=11) → 0 ≤ a.N ∧ a.N ≤ 2305843009213693952) ∧ (a.Kind=1 → Zet a.Make=some 0) ∧ (¬ (5 ≤ a.Kind ∧ a.Kind ≤ 6) → a.S.size ≤ 16) ∧ sEq a.Key ⟨#[]⟩=false ∧ a.Key.size ≤ 24):=by
 by_cases hk:a.Kind < 1 ∨ 21 < a.Kind
 ·refine ⟨5,?_,?_,fun h=>by cases h⟩
  ·unfold Zgy Zpp
   rw [if_pos (by simp;omega)]
   simp only [Option.bind_some]
   rw [if_pos (show sEq ByteArray.empty ⟨#[]⟩=true by kernel_rfl)]
  ·unfold Ze2
   rw [if_pos (by simpa using hk)]
 ·obtain ⟨c,hc1,hc2⟩:=Zni ha.1
  have fin:∀ {w has:ByteArray} {on:Int} {n x s m:Bool},Zpp a.Kind=some ⟨w,on,has⟩ → sEq w ⟨#[]⟩=false → Zdr ⟨w,on,has⟩ 110=some n → Zdr ⟨w,on,has⟩ 120=some x → Zdr ⟨w,on,has⟩ 115=some s → Zdr ⟨w,on,has⟩ 109=some m →
    Ze5 a.Kind=some on → Zee a.Kind 110=some n → Zee a.Kind 120=some x → Zee a.Kind 115=some s → m=(a.Kind == 1) → ((on == 1)=true → 5 ≤ a.Kind ∧ a.Kind ≤ 6) →
    ∃ c,Zgy a=some c ∧ Ze2 a=some c ∧ (c=0 → 1 ≤ a.Kind ∧ a.Kind ≤ 21 ∧ a.X=Zck a.X ∧ a.S.size ≤ 64 ∧ ((a.Kind=10 ∨ a.Kind=11) → 0 ≤ a.N ∧ a.N ≤ 2305843009213693952) ∧ (a.Kind=1 → Zet a.Make=some 0) ∧ (¬ (5 ≤ a.Kind ∧ a.Kind ≤ 6) → a.S.size ≤ 16) ∧ sEq a.Key ⟨#[]⟩=false ∧ a.Key.size ≤ 24):=by
   intro w has on n x s m h1 hw fn fx fs fm ro rn rx rs hm hon
   refine ⟨_,Z4r ha hc1 h1 hw fn fx fs fm,by rw [hm];exact Z3e ha hc2 hk ro rn rx rs rfl,fun h0=>?_⟩
   obtain ⟨g1,g3,g4,g5,g6⟩:=Z4i h0
   simp only [Bool.or_eq_false_iff,decide_eq_false_iff_not] at g1
   have g3':¬ (if (on == 1)=true then (64:Int) else 16) < a.S.size:=of_decide_eq_false g3
   refine ⟨by omega,by omega,of_decide_eq_true g5,?_,fun h=>?_,fun h=>?_,fun h=>?_,g1.1,by omega⟩
   ·split at g3' <;> omega
   ·have h11:(a.Kind == 10 || a.Kind == 11)=true:=by simpa using h
    rw [h11] at g4
    simp only [Bool.true_and,Bool.or_eq_false_iff,decide_eq_false_iff_not] at g4
    omega
   ·rw [hc1,g6 (by simp [h])]
   ·rw [if_neg (fun h2=>h (hon h2))] at g3'
    omega
  have hk':a.Kind=1 ∨ a.Kind=2 ∨ a.Kind=3 ∨ a.Kind=4 ∨ a.Kind=5 ∨ a.Kind=6 ∨ a.Kind=7 ∨ a.Kind=8 ∨ a.Kind=9 ∨ a.Kind=10 ∨ a.Kind=11 ∨ a.Kind=12 ∨ a.Kind=13 ∨ a.Kind=14 ∨ a.Kind=15 ∨ a.Kind=16 ∨ a.Kind=17 ∨ a.Kind=18 ∨ a.Kind=19 ∨ a.Kind=20 ∨ a.Kind=21:=by omega
  rcases hk' with h | h | h | h | h | h | h | h | h | h | h | h | h | h | h | h | h | h | h | h | h <;> rw [h] at fin ⊢
  ·exact fin (w:=⟨#[110,101,119]⟩) (on:=0) (has:=⟨#[109]⟩) (n:=false) (x:=false) (s:=false) (m:=true) (by kernel_rfl) (by kernel_rfl) (by kernel_rfl) (by kernel_rfl) (by kernel_rfl) (by kernel_rfl) (by kernel_rfl) (by kernel_rfl) (by kernel_rfl) (by kernel_rfl) (by decide) (by decide)
  ·exact fin (w:=⟨#[100,114,111,112]⟩) (on:=0) (has:=⟨#[]⟩) (n:=false) (x:=false) (s:=false) (m:=false) (by kernel_rfl) (by kernel_rfl) (by kernel_rfl) (by kernel_rfl) (by kernel_rfl) (by kernel_rfl) (by kernel_rfl) (by kernel_rfl) (by kernel_rfl) (by kernel_rfl) (by decide) (by decide)
  ·exact fin (w:=⟨#[105,115]⟩) (on:=0) (has:=⟨#[]⟩) (n:=false) (x:=false) (s:=false) (m:=false) (by kernel_rfl) (by kernel_rfl) (by kernel_rfl) (by kernel_rfl) (by kernel_rfl) (by kernel_rfl) (by kernel_rfl) (by kernel_rfl) (by kernel_rfl) (by kernel_rfl) (by decide) (by decide)
  ·exact fin (w:=⟨#[108,111,111,107]⟩) (on:=0) (has:=⟨#[]⟩) (n:=false) (x:=false) (s:=false) (m:=false) (by kernel_rfl) (by kernel_rfl) (by kernel_rfl) (by kernel_rfl) (by kernel_rfl) (by kernel_rfl) (by kernel_rfl) (by kernel_rfl) (by kernel_rfl) (by kernel_rfl) (by decide) (by decide)
  ·exact fin (w:=⟨#[112,117,116]⟩) (on:=1) (has:=⟨#[115]⟩) (n:=false) (x:=false) (s:=true) (m:=false) (by kernel_rfl) (by kernel_rfl) (by kernel_rfl) (by kernel_rfl) (by kernel_rfl) (by kernel_rfl) (by kernel_rfl) (by kernel_rfl) (by kernel_rfl) (by kernel_rfl) (by decide) (by decide)
  ·exact fin (w:=⟨#[115,119,97,112]⟩) (on:=1) (has:=⟨#[115]⟩) (n:=false) (x:=false) (s:=true) (m:=false) (by kernel_rfl) (by kernel_rfl) (by kernel_rfl) (by kernel_rfl) (by kernel_rfl) (by kernel_rfl) (by kernel_rfl) (by kernel_rfl) (by kernel_rfl) (by kernel_rfl) (by decide) (by decide)
  ·exact fin (w:=⟨#[97,100,100]⟩) (on:=2) (has:=⟨#[110]⟩) (n:=true) (x:=false) (s:=false) (m:=false) (by kernel_rfl) (by kernel_rfl) (by kernel_rfl) (by kernel_rfl) (by kernel_rfl) (by kernel_rfl) (by kernel_rfl) (by kernel_rfl) (by kernel_rfl) (by kernel_rfl) (by decide) (by decide)
  ·exact fin (w:=⟨#[112,108,117,115]⟩) (on:=3) (has:=⟨#[110]⟩) (n:=true) (x:=false) (s:=false) (m:=false) (by kernel_rfl) (by kernel_rfl) (by kernel_rfl) (by kernel_rfl) (by kernel_rfl) (by kernel_rfl) (by kernel_rfl) (by kernel_rfl) (by kernel_rfl) (by kernel_rfl) (by decide) (by decide)
  ·exact fin (w:=⟨#[114,101,97,99,104]⟩) (on:=3) (has:=⟨#[110]⟩) (n:=true) (x:=false) (s:=false) (m:=false) (by kernel_rfl) (by kernel_rfl) (by kernel_rfl) (by kernel_rfl) (by kernel_rfl) (by kernel_rfl) (by kernel_rfl) (by kernel_rfl) (by kernel_rfl) (by kernel_rfl) (by decide) (by decide)
  ·exact fin (w:=⟨#[105,110]⟩) (on:=4) (has:=⟨#[110]⟩) (n:=true) (x:=false) (s:=false) (m:=false) (by kernel_rfl) (by kernel_rfl) (by kernel_rfl) (by kernel_rfl) (by kernel_rfl) (by kernel_rfl) (by kernel_rfl) (by kernel_rfl) (by kernel_rfl) (by kernel_rfl) (by decide) (by decide)
  ·exact fin (w:=⟨#[111,117,116]⟩) (on:=4) (has:=⟨#[110]⟩) (n:=true) (x:=false) (s:=false) (m:=false) (by kernel_rfl) (by kernel_rfl) (by kernel_rfl) (by kernel_rfl) (by kernel_rfl) (by kernel_rfl) (by kernel_rfl) (by kernel_rfl) (by kernel_rfl) (by kernel_rfl) (by decide) (by decide)
  ·exact fin (w:=⟨#[101,110,111,117,103,104]⟩) (on:=4) (has:=⟨#[110]⟩) (n:=true) (x:=false) (s:=false) (m:=false) (by kernel_rfl) (by kernel_rfl) (by kernel_rfl) (by kernel_rfl) (by kernel_rfl) (by kernel_rfl) (by kernel_rfl) (by kernel_rfl) (by kernel_rfl) (by kernel_rfl) (by decide) (by decide)
  ·exact fin (w:=⟨#[114,97,105,115,101]⟩) (on:=5) (has:=⟨#[120]⟩) (n:=false) (x:=true) (s:=false) (m:=false) (by kernel_rfl) (by kernel_rfl) (by kernel_rfl) (by kernel_rfl) (by kernel_rfl) (by kernel_rfl) (by kernel_rfl) (by kernel_rfl) (by kernel_rfl) (by kernel_rfl) (by decide) (by decide)
  ·exact fin (w:=⟨#[108,111,119,101,114]⟩) (on:=6) (has:=⟨#[120]⟩) (n:=false) (x:=true) (s:=false) (m:=false) (by kernel_rfl) (by kernel_rfl) (by kernel_rfl) (by kernel_rfl) (by kernel_rfl) (by kernel_rfl) (by kernel_rfl) (by kernel_rfl) (by kernel_rfl) (by kernel_rfl) (by decide) (by decide)
  ·exact fin (w:=⟨#[115,104,105,102,116]⟩) (on:=7) (has:=⟨#[120]⟩) (n:=false) (x:=true) (s:=false) (m:=false) (by kernel_rfl) (by kernel_rfl) (by kernel_rfl) (by kernel_rfl) (by kernel_rfl) (by kernel_rfl) (by kernel_rfl) (by kernel_rfl) (by kernel_rfl) (by kernel_rfl) (by decide) (by decide)
  ·exact fin (w:=⟨#[115,99,97,108,101]⟩) (on:=7) (has:=⟨#[120]⟩) (n:=false) (x:=true) (s:=false) (m:=false) (by kernel_rfl) (by kernel_rfl) (by kernel_rfl) (by kernel_rfl) (by kernel_rfl) (by kernel_rfl) (by kernel_rfl) (by kernel_rfl) (by kernel_rfl) (by kernel_rfl) (by decide) (by decide)
  ·exact fin (w:=⟨#[102,105,120]⟩) (on:=7) (has:=⟨#[120]⟩) (n:=false) (x:=true) (s:=false) (m:=false) (by kernel_rfl) (by kernel_rfl) (by kernel_rfl) (by kernel_rfl) (by kernel_rfl) (by kernel_rfl) (by kernel_rfl) (by kernel_rfl) (by kernel_rfl) (by kernel_rfl) (by decide) (by decide)
  ·exact fin (w:=⟨#[106,111,105,110]⟩) (on:=8) (has:=⟨#[115]⟩) (n:=false) (x:=false) (s:=true) (m:=false) (by kernel_rfl) (by kernel_rfl) (by kernel_rfl) (by kernel_rfl) (by kernel_rfl) (by kernel_rfl) (by kernel_rfl) (by kernel_rfl) (by kernel_rfl) (by kernel_rfl) (by decide) (by decide)
  ·exact fin (w:=⟨#[108,101,97,118,101]⟩) (on:=8) (has:=⟨#[115]⟩) (n:=false) (x:=false) (s:=true) (m:=false) (by kernel_rfl) (by kernel_rfl) (by kernel_rfl) (by kernel_rfl) (by kernel_rfl) (by kernel_rfl) (by kernel_rfl) (by kernel_rfl) (by kernel_rfl) (by kernel_rfl) (by decide) (by decide)
  ·exact fin (w:=⟨#[104,97,115]⟩) (on:=8) (has:=⟨#[115]⟩) (n:=false) (x:=false) (s:=true) (m:=false) (by kernel_rfl) (by kernel_rfl) (by kernel_rfl) (by kernel_rfl) (by kernel_rfl) (by kernel_rfl) (by kernel_rfl) (by kernel_rfl) (by kernel_rfl) (by kernel_rfl) (by decide) (by decide)
  ·exact fin (w:=⟨#[111,102,102,101,114]⟩) (on:=9) (has:=⟨#[120,115]⟩) (n:=false) (x:=true) (s:=true) (m:=false) (by kernel_rfl) (by kernel_rfl) (by kernel_rfl) (by kernel_rfl) (by kernel_rfl) (by kernel_rfl) (by kernel_rfl) (by kernel_rfl) (by kernel_rfl) (by kernel_rfl) (by decide) (by decide)
abbrev Zdx:=List Zl
def NS (l:Zdx):Prop:=l.Pairwise fun p q=>sLt p.Name q.Name=true
def pre (f:Zl → Bool):Zdx → Nat
 | []=>0
 | e :: r=>if f e then pre f r + 1 else 0
theorem Zpe (f:Zl → Bool):∀ l:Zdx,pre f l ≤ l.length
 | []=>Nat.le_refl _
 | e :: r=>by
  have:=Zpe f r
  simp only [pre]
  split <;> simp <;> omega
theorem Zz5 {f:Zl → Bool}:∀ {l:Zdx} {k:Nat} (h:k < pre f l),∃ e,l[k]?=some e ∧ f e=true
 | [],k,h=>by simp [pre] at h
 | e :: r,k,h=>by
  simp only [pre] at h
  split at h
  ·rename_i hf
   cases k with
   | zero=>exact ⟨e,rfl,hf⟩
   | succ k=>exact Zz5 (l:=r) (by omega)
  ·omega
theorem Zvf {f:Zl → Bool}:∀ {l:Zdx} {e:Zl},l[pre f l]?=some e → f e=false
 | [],e,h=>by simp [pre] at h
 | x :: r,e,h=>by
  simp only [pre] at h
  split at h
  ·exact Zvf (l:=r) (by simpa using h)
  ·rename_i hf
   simp at h;subst h;simpa using hf
theorem Zum {s:ByteArray} {l:Zdx} (hs:NS l) {k:Nat} (hk:k < l.length):sLt (l[k]).Name s=decide (k < pre (fun e=>sLt e.Name s) l):=by
 by_cases h:k < pre (fun e=>sLt e.Name s) l
 ·obtain ⟨e,he,hf⟩:=Zz5 h
  rw [List.getElem?_eq_getElem hk] at he
  obtain rfl:=Option.some.inj he
  simp only [h,decide_true];exact hf
 ·simp only [h,decide_false]
  have hp:pre (fun e=>sLt e.Name s) l < l.length:=by omega
  have h1:=Zvf (List.getElem?_eq_getElem hp)
  rcases Nat.lt_or_eq_of_le (Nat.le_of_not_lt h) with hlt | heq
  ·have h2:=List.pairwise_iff_getElem.1 hs _ _ hp hk hlt
   cases h3:sLt (l[k]).Name s
   ·rfl
   ·rw [Zgj h2 h3] at h1;cases h1
  ·have:l[k]=l[pre (fun e=>sLt e.Name s) l]:=by congr 1;exact heq.symm
   rw [this];exact h1
theorem half {i j:Nat} (h:i + j < 4611686018427387904):IntKind.i64.wrap (Int.fdiv (IntKind.u64.wrap (IntKind.i64.wrap ((i:Int) + (j:Int)))) (2 ^ 1))=(((i + j) / 2:Nat):Int):=by
 rw [wr (x:=(i:Int) + j) (by omega) (by omega),wru (by omega) (by omega)]
 have:Int.fdiv ((i:Int) + j) (2 ^ 1)=(((i + j) / 2:Nat):Int):=by
  rw [Int.fdiv_eq_ediv_of_nonneg _ (by decide)];omega
 rw [this,wr (by omega) (by omega)]
theorem Z7z (e:Zl) (s:ByteArray):∃ c:Int,Zkd e s=some c ∧ decide (c < 0)=sLt e.Name s ∧ (c == 0)=sEq e.Name s:=by
 unfold Zkd
 by_cases h:sLt e.Name s=true
 ·exact ⟨-1,by rw [if_pos h],by rw [h];rfl,by rw [Ze6.2 (Zm8 h)];rfl⟩
 ·have h':sLt e.Name s=false:=by simpa using h
  by_cases h2:e.Name=s
  ·exact ⟨0,by rw [if_neg h,h',Zdz.2 h2];rfl,by rw [h'];rfl,by rw [Zdz.2 h2];rfl⟩
  ·exact ⟨1,by rw [if_neg h,h',Ze6.2 h2];rfl,by rw [h'];rfl,by rw [Ze6.2 h2];rfl⟩
theorem Zwz {l:Zdx} {s:ByteArray} (hs:NS l) (hl:l.length < 2305843009213693952):∀ (n i j:Nat),j - i < n → i ≤ pre (fun e=>sLt e.Name s) l → pre (fun e=>sLt e.Name s) l ≤ j → j ≤ l.length →
  Zbt l s (fun y0 y1=>Zkd y0 y1) n (i:Int) (j:Int)=some ((pre (fun e=>sLt e.Name s) l:Nat):Int)
 | 0,i,j,h,_,_,_=>by omega
 | n + 1,i,j,h,h1,h2,h3=>by
  rw [Zbt]
  by_cases hij:i < j
  ·rw [if_pos (by simpa using hij),half (by omega)]
   have hm:(i + j) / 2 < l.length:=by omega
   rw [Zdd hm]
   obtain ⟨c,hc,hc1,_⟩:=Z7z l[(i + j) / 2] s
   simp only [Option.bind_some,hc]
   rw [hc1,Zum hs hm]
   unfold Zco
   by_cases hp:(i + j) / 2 < pre (fun e=>sLt e.Name s) l
   ·rw [if_pos (by simpa using hp),wr1 (by omega)]
    exact Zwz hs hl n ((i + j) / 2 + 1) j (by omega) (by omega) h2 h3
   ·rw [if_neg (by simpa using hp)]
    exact Zwz hs hl n i ((i + j) / 2) (by omega) h1 (by omega) (by omega)
  ·rw [if_neg (by simpa using hij)]
   congr 2;omega
def isAt (s:ByteArray) (l:Zdx):Bool:=match l[pre (fun e=>sLt e.Name s) l]? with
 | some e=>sEq e.Name s
 | none=>false
theorem Zo4 {l:Zdx} {s:ByteArray} (hs:NS l) (hl:l.length < 2305843009213693952):Zlu l s=some (((pre (fun e=>sLt e.Name s) l:Nat):Int),isAt s l):=by
 unfold Zlu Zc5
 have:=Zwz (s:=s) hs hl (l.length + 1) 0 l.length (by omega) (Nat.zero_le _) (Zpe _ _) (Nat.le_refl _)
 rw [show ((0:Nat):Int)=0 from rfl] at this
 rw [show (Int.toNat ((l.length:Int) - (0:Int)) + 1)=l.length + 1 by omega,this]
 simp only [Option.bind_some]
 unfold isAt
 by_cases hp:pre (fun e=>sLt e.Name s) l < l.length
 ·have hd:decide (((pre (fun e=>sLt e.Name s) l:Nat):Int) < (l.length:Int))=true:=by simpa using hp
  rw [hd,Zdd hp,List.getElem?_eq_getElem hp]
  obtain ⟨c,hc,_,hc2⟩:=Z7z l[pre (fun e=>sLt e.Name s) l] s
  simp only [gd_t,Option.bind_some,hc,Bool.true_and,hc2]
 ·have hd:decide (((pre (fun e=>sLt e.Name s) l:Nat):Int) < (l.length:Int))=false:=by simpa using hp
  rw [hd,List.getElem?_eq_none (by omega)]
  rfl
def goL (f g:Zl → Bool) (x:Zl):Zdx → Bool → Zdx × Bool
 | [],d=>([],d)
 | e :: r,d=>if (!d && !f e)=true then ((if g e then [] else [x]) ++ e :: (goL f g x r true).1,(goL f g x r true).2) else (e :: (goL f g x r d).1,(goL f g x r d).2)
theorem Z7h (f g:Zl → Bool) (x:Zl):∀ l:Zdx,goL f g x l true=(l,true)
 | []=>rfl
 | e :: r=>by simp [goL,Z7h f g x r]
theorem Z7v (f g:Zl → Bool) (x:Zl):∀ l:Zdx,goL f g x l false=match l[pre f l]? with
  | some e=>(l.take (pre f l) ++ (if g e then [] else [x]) ++ l.drop (pre f l),true)
  | none=>(l,false)
 | []=>rfl
 | e :: r=>by
  simp only [goL,pre]
  by_cases hf:f e=true
  ·simp only [hf,Bool.not_true,Bool.and_false,Bool.false_eq_true,if_false,if_true]
   rw [Z7v f g x r]
   simp only [List.getElem?_cons_succ]
   cases r[pre f r]? <;> simp
  ·have hf':f e=false:=by simpa using hf
   simp only [hf',Bool.not_false,Bool.and_self,if_true,Bool.false_eq_true,if_false,Z7h,List.getElem?_cons_zero,List.take_zero,List.nil_append,List.drop_zero]
def Zd9 (x:Zl) (nm:Bool) (e:Zl):Bool:=if nm then sLt e.Name x.Name else Zds e x
def Zmo (x:Zl) (nm:Bool) (e:Zl):Bool:=sEq e.Name x.Name && (nm || decide (keyf e.Score=keyf x.Score))
theorem Z43 {l:Zdx} {x:Zl} {nm:Bool} (hx:x.Score < W64) (hsc:∀ e ∈ l,e.Score < W64) {n i:Nat} {out:Zdx} {d:Bool} (h1:i < l.length) :
  Zcr l x nm (n + 1) out d (i:Int)=(if (!d && !Zd9 x nm l[i])=true then (if (!Zmo x nm l[i])=true then (if (out.length + ([x]:List Zl).length) * 24 ≤ 140737488355328 then Zd5 l (i:Int) (Zcr l x nm n) (out ++ [x]) true else none) else Zd5 l (i:Int) (Zcr l x nm n) out true) else Zd5 l (i:Int) (Zcr l x nm n) out d):=by
 have hm:=hsc _ (List.getElem_mem h1)
 have ha:Zgf l[i] x=some (Zds l[i] x):=Zzg hm hx
 have hs:Zd3 l[i].Score x.Score=some (decide (keyf l[i].Score=keyf x.Score)):=Zn0 hm hx
 rw [Zcr,if_pos (by simp;omega),Zdd h1]
 cases nm
 ·simp only [Bool.not_false,gd_t,Option.bind_some,Bool.true_and,ha,Bool.and_false,gd_f,Bool.false_and,Bool.or_false,Bool.and_true,Bool.false_or,Zd9,Zmo,Bool.false_eq_true,if_false]
  cases hq:sEq l[i].Name x.Name
  ·simp only [gd_f,Option.bind_some,Bool.false_and]
  ·simp only [gd_t,Option.bind_some,Bool.true_and,hs]
 ·simp only [Bool.not_true,gd_f,Option.bind_some,Bool.false_and,Bool.not_false,Bool.true_and,gd_t,Bool.false_or,Bool.true_or,Bool.and_false,Bool.and_true,Zd9,Zmo,if_true]
theorem Zpx {l:Zdx} {x:Zl} {nm:Bool} (hx:x.Score < W64) (hsc:∀ e ∈ l,e.Score < W64) (hl:l.length < 1000000):∀ (n i:Nat) (out:Zdx) (d:Bool),i + n=l.length → out.length + (if d=true then 0 else 1) ≤ i + 1 →
  Zcr l x nm (n + 1) out d (i:Int)=some (out ++ (goL (Zd9 x nm) (Zmo x nm) x (l.drop i) d).1,(goL (Zd9 x nm) (Zmo x nm) x (l.drop i) d).2)
 | 0,i,out,d,h,_=>by
  rw [Zcr,if_neg (by simp;omega),List.drop_of_length_le (by omega)]
  simp [goL]
 | n + 1,i,out,d,h,ho=>by
  have h1:i < l.length:=by omega
  rw [Z43 hx hsc h1,List.drop_eq_getElem_cons h1]
  simp only [Zd5,Zdd h1,wr1 (show i < 9223372036854775807 by omega),Option.bind_some,goL]
  by_cases hc:(!d && !Zd9 x nm l[i])=true
  ·rw [if_pos hc,if_pos hc]
   have hd:d=false:=by cases d <;> simp_all
   subst hd
   simp only [Bool.false_eq_true,if_false] at ho
   by_cases hs:(!Zmo x nm l[i])=true
   ·rw [if_pos hs,if_pos (by simp;omega),if_pos (by simp;omega),Zpx hx hsc hl n (i + 1) _ true (by omega) (by simp;omega)]
    have:Zmo x nm l[i]=false:=by simpa using hs
    simp [this]
   ·rw [if_neg hs,if_pos (by simp;omega),Zpx hx hsc hl n (i + 1) _ true (by omega) (by simp;omega)]
    have:Zmo x nm l[i]=true:=by simpa using hs
    simp [this]
  ·rw [if_neg hc,if_neg hc,if_pos (by simp;omega),Zpx hx hsc hl n (i + 1) _ d (by omega) (by simp;omega)]
   simp
def layL (x:Zl) (nm:Bool) (l:Zdx):Zdx:=match l[pre (Zd9 x nm) l]? with
 | some e=>l.take (pre (Zd9 x nm) l) ++ (if Zmo x nm e then [] else [x]) ++ l.drop (pre (Zd9 x nm) l)
 | none=>l ++ [x]
theorem Z2n {l:Zdx} {x:Zl} {nm:Bool} (hx:x.Score < W64) (hsc:∀ e ∈ l,e.Score < W64) (hl:l.length < 1000000):Zf3 l x nm=some (layL x nm l):=by
 unfold Zf3
 have:=Zpx (nm:=nm) hx hsc hl l.length 0 [] false (by omega) (by simp)
 rw [show ((0:Nat):Int)=0 from rfl] at this
 rw [show (Int.toNat ((l.length:Int) - (0:Int)) + 1)=l.length + 1 by omega,this]
 simp only [Option.bind_some,List.nil_append,List.drop_zero]
 rw [Z7v]
 unfold layL
 cases h:l[pre (Zd9 x nm) l]? with
 | none =>
  simp only [Bool.not_false,if_true,Zgm]
  rw [if_pos (by simp;omega)]
 | some e=>simp only [Bool.not_true,Bool.false_eq_true,if_false,Zgm]
theorem Zz0 {l:Zdx} {s:ByteArray} (hl:l.length < 1000000):∀ (n i:Nat),i + n=l.length → Zff l s (n + 1) (i:Int)=some (cond ((l.drop i).any (fun e=>sEq e.Name s)) (.inl true) (.inr ()))
 | 0,i,h=>by
  rw [Zff,if_neg (by simp;omega),List.drop_of_length_le (by omega)];rfl
 | n + 1,i,h=>by
  have h1:i < l.length:=by omega
  rw [Zff,if_pos (by simp;omega),Zdd h1,List.drop_eq_getElem_cons h1,List.any_cons]
  simp only [Option.bind_some]
  by_cases hq:sEq l[i].Name s=true
  ·rw [if_pos hq,hq];rfl
  ·have hq':sEq l[i].Name s=false:=by simpa using hq
   rw [if_neg hq,wr1 (by omega),Zz0 hl n (i + 1) (by omega),hq',Bool.false_or]
theorem Z5a {l:Zdx} {s:ByteArray} (hl:l.length < 1000000):Zgg l s=some (l.any (fun e=>sEq e.Name s)):=by
 unfold Zgg
 have:=Zz0 (s:=s) hl l.length 0 (by omega)
 rw [show ((0:Nat):Int)=0 from rfl] at this
 rw [show (Int.toNat ((l.length:Int) - (0:Int)) + 1)=l.length + 1 by omega,this]
 simp only [List.drop_zero]
 cases h:l.any (fun e=>sEq e.Name s) <;> rfl
theorem Zpy {a0:Ze} {a:Zu} (hl:a0.List.length < 1000000):∀ (n i:Nat) (out:Zdx),i + n=a0.List.length → out.length ≤ i → Zdj a0 a (n + 1) out (i:Int)=some (out ++ (a0.List.drop i).filter (fun e=>!sEq e.Name a.S))
 | 0,i,out,h,_=>by
  rw [Zdj,if_neg (by simp;omega),List.drop_of_length_le (by omega)];simp
 | n + 1,i,out,h,ho=>by
  have h1:i < a0.List.length:=by omega
  rw [Zdj,if_pos (by simp;omega),Zdd h1,List.drop_eq_getElem_cons h1]
  simp only [Option.bind_some,Ziu,wr1 (show i < 9223372036854775807 by omega)]
  rw [List.filter_cons]
  by_cases hq:(!sEq a0.List[i].Name a.S)=true
  ·rw [if_pos hq,if_pos hq,if_pos (by simp;omega),Zpy hl n (i + 1) _ (by omega) (by simp;omega),List.append_assoc];rfl
  ·rw [if_neg hq,if_neg hq,Zpy hl n (i + 1) _ (by omega) (by omega)]
theorem Zua {l:Zdx} {s:ByteArray} (hs:NS l):(∀ e ∈ l.take (pre (fun e=>sLt e.Name s) l),sEq e.Name s=false) ∧ (∀ e ∈ l.drop (pre (fun e=>sLt e.Name s) l + 1),sEq e.Name s=false):=by
 constructor
 ·intro e he
  obtain ⟨k,hk,rfl⟩:=List.getElem_of_mem he
  rw [List.length_take] at hk
  rw [List.getElem_take]
  have:=Zum (s:=s) hs (k:=k) (by omega)
  rw [show decide (k < pre (fun e=>sLt e.Name s) l)=true by simp;omega] at this
  exact Ze6.2 (Zm8 this)
 ·intro e he
  obtain ⟨k,hk,rfl⟩:=List.getElem_of_mem he
  rw [List.length_drop] at hk
  rw [List.getElem_drop]
  refine Ze6.2 fun h=>?_
  have hp:pre (fun e=>sLt e.Name s) l < l.length:=by omega
  have h1:=List.pairwise_iff_getElem.1 hs _ _ hp (show pre (fun e=>sLt e.Name s) l + 1 + k < l.length by omega) (by omega)
  rw [h] at h1
  have:=Zvf (List.getElem?_eq_getElem hp)
  rw [h1] at this;cases this
theorem Zuo (l:Zdx) (k:Nat) (h:k < l.length):l=l.take k ++ l[k] :: l.drop (k + 1):=by
 rw [← List.drop_eq_getElem_cons h,List.take_append_drop]
theorem Zuw {l:Zdx} {s:ByteArray} (hs:NS l):l.any (fun e=>sEq e.Name s)=isAt s l:=by
 obtain ⟨h1,h2⟩:=Zua (s:=s) hs
 unfold isAt
 by_cases hp:pre (fun e=>sLt e.Name s) l < l.length
 ·rw [List.getElem?_eq_getElem hp]
  conv=>lhs;rw [Zuo l _ hp]
  have a1:(l.take (pre (fun e=>sLt e.Name s) l)).any (fun e=>sEq e.Name s)=false:=by
   rw [List.any_eq_false];intro e he;rw [h1 e he];decide
  have a2:(l.drop (pre (fun e=>sLt e.Name s) l + 1)).any (fun e=>sEq e.Name s)=false:=by
   rw [List.any_eq_false];intro e he;rw [h2 e he];decide
  rw [List.any_append,List.any_cons,a1,a2];simp
 ·rw [List.getElem?_eq_none (by omega)]
  have:l.take (pre (fun e=>sLt e.Name s) l)=l:=List.take_of_length_le (by omega)
  rw [this] at h1
  rw [List.any_eq_false];intro e he;rw [h1 e he];decide
theorem Z33 {l:Zdx} {s:ByteArray} (hs:NS l):l.filter (fun e=>!sEq e.Name s)=if isAt s l=true then l.take (pre (fun e=>sLt e.Name s) l) ++ l.drop (pre (fun e=>sLt e.Name s) l + 1) else l:=by
 obtain ⟨h1,h2⟩:=Zua (s:=s) hs
 unfold isAt
 by_cases hp:pre (fun e=>sLt e.Name s) l < l.length
 ·rw [List.getElem?_eq_getElem hp]
  conv=>lhs;rw [Zuo l _ hp]
  have a1:(l.take (pre (fun e=>sLt e.Name s) l)).filter (fun e=>!sEq e.Name s)=l.take (pre (fun e=>sLt e.Name s) l):=List.filter_eq_self.2 fun e he=>by rw [h1 e he];rfl
  have a2:(l.drop (pre (fun e=>sLt e.Name s) l + 1)).filter (fun e=>!sEq e.Name s)=l.drop (pre (fun e=>sLt e.Name s) l + 1):=List.filter_eq_self.2 fun e he=>by rw [h2 e he];rfl
  rw [List.filter_append,List.filter_cons,a1,a2]
  by_cases hq:sEq (l[pre (fun e=>sLt e.Name s) l]).Name s=true
  ·rw [if_pos hq,if_neg (by rw [hq];decide)]
  ·rw [if_neg hq,if_pos (by simpa using hq)]
   exact (Zuo l _ hp).symm
 ·rw [List.getElem?_eq_none (by omega)]
  have:l.take (pre (fun e=>sLt e.Name s) l)=l:=List.take_of_length_le (by omega)
  rw [this] at h1
  rw [if_neg (by simp)]
  exact List.filter_eq_self.2 fun e he=>by rw [h1 e he];rfl
theorem Z5u {l:Zdx} {s:ByteArray}:layL { Score:=0,Name:=s } true l=if isAt s l=true then l else l.take (pre (fun e=>sLt e.Name s) l) ++ [{ Score:=0,Name:=s }] ++ l.drop (pre (fun e=>sLt e.Name s) l):=by
 have hf:Zd9 { Score:=0,Name:=s } true=fun e=>sLt e.Name s:=rfl
 unfold layL isAt
 rw [hf]
 cases h:l[pre (fun e=>sLt e.Name s) l]? with
 | none =>
  have hp:=List.getElem?_eq_none_iff.1 h
  rw [if_neg (by simp),List.take_of_length_le hp,List.drop_of_length_le hp,List.append_nil]
 | some e =>
  simp only [Zmo,Bool.true_or,Bool.and_true]
  by_cases hq:sEq e.Name s=true
  ·rw [if_pos hq,if_pos hq,List.append_nil,List.take_append_drop]
  ·rw [if_neg hq,if_neg hq]
theorem Zqr {l:Zdx} (h:l.length < 1000000):Zby l=some l:=by
 unfold Zby
 rw [if_pos (by omega)]
theorem Zva {r:Ze} {a:Zu} (ha:a.X < W64) (hsc:∀ e ∈ r.List,e.Score < W64) (hl:r.List.length < 1000000):∀ (n i:Nat),i + n=r.List.length →
  Zgu r a (n + 1) (i:Int)=some ((i + pre (Zd9 { Score:=a.X,Name:=a.S } false) (r.List.drop i):Nat):Int)
 | 0,i,h=>by
  have hd:decide ((i:Int) < (r.List.length:Int))=false:=by simp;omega
  rw [Zgu,hd,List.drop_of_length_le (by omega)]
  simp [gd,pre]
 | n + 1,i,h=>by
  have h1:i < r.List.length:=by omega
  have hd:decide ((i:Int) < (r.List.length:Int))=true:=by simp;omega
  rw [Zgu,hd,Zdd h1,List.drop_eq_getElem_cons h1]
  simp only [gd_t,Option.bind_some,Bool.true_and]
  rw [Zp4 (hsc _ (List.getElem_mem h1)) ha]
  simp only [Option.bind_some,pre,Zd9,Bool.false_eq_true,if_false,wr1 (show i < 9223372036854775807 by omega)]
  by_cases hb:Zds r.List[i] { Score:=a.X,Name:=a.S }=true
  ·rw [if_pos hb,if_pos hb,Zva ha hsc hl n (i + 1) (by omega)]
   congr 2;omega
  ·rw [if_neg hb,if_neg hb];simp
theorem Zxg {r:Ze} {a:Zu} (ha:a.X < W64) (hsc:∀ e ∈ r.List,e.Score < W64) (hl:r.List.length < 1000000):Zgu r a (Int.toNat ((r.List.length:Int) - (0:Int)) + 1) (0:Int)=some ((pre (Zd9 { Score:=a.X,Name:=a.S } false) r.List:Nat):Int):=by
 have:=Zva (a:=a) ha hsc hl r.List.length 0 (by omega)
 rw [show ((0:Nat):Int)=0 from rfl] at this
 rw [show (Int.toNat ((r.List.length:Int) - (0:Int)) + 1)=r.List.length + 1 by omega,this]
 simp
theorem Z1i {e x:Zl} (h1:Zds e x=false):(!Zds x e)=Zmo x false e:=by
 unfold Zds Zmo at *
 by_cases hk:keyf e.Score=keyf x.Score
 ·rw [if_pos hk] at h1
  rw [if_pos hk.symm,hk]
  simp only [Bool.false_or,decide_true,Bool.and_true]
  by_cases hn:e.Name=x.Name
  ·rw [hn,Zid,Zdi];rfl
  ·rw [Zm4 h1 hn,Ze6.2 hn];rfl
 ·rw [if_neg hk] at h1
  rw [if_neg (fun h=>hk h.symm)]
  have:=of_decide_eq_false h1
  have h3:keyf e.Score < keyf x.Score:=by omega
  simp [h3,hk]
theorem Zt3 {k:Int} {l:Zdx}:∀ (n i:Nat),Zj0 k l i n=0 ↔ ∀ j,i ≤ j → j < i + n → Zil k l j=0
 | 0,i=>⟨fun _ j h1 h2=>by omega,fun _=>rfl⟩
 | n + 1,i=>by
  by_cases h:Zil k l i=0
  ·rw [Zuu h,Zt3 n (i + 1)]
   constructor
   ·intro hh j h1 h2
    by_cases e:j=i
    ·rw [e];exact h
    ·exact hh j (by omega) (by omega)
   ·intro hh j h1 h2;exact hh j (by omega) (by omega)
  ·rw [Zuq h]
   exact ⟨fun e=>absurd e h,fun hh=>absurd (hh i (Nat.le_refl _) (by omega)) h⟩
theorem Zug {t n b r l:Bool} {a:Ze}:Zqv t n b r l a=0 ↔ Zh4 t n b r l a=true ∧ a.Text.size ≤ 64 ∧ (b=true → -2305843009213693952 ≤ a.Low ∧ a.High ≤ 2305843009213693952 ∧ a.Low ≤ a.Num ∧ a.Num ≤ a.High) ∧ a.Real=Zck a.Real ∧ (l=true → 1 ≤ a.Cap ∧ a.Cap ≤ 32 ∧ (a.List.length:Int) ≤ a.Cap ∧ ∀ i,i < a.List.length → Zil a.Kind a.List i=0):=by
 unfold Zqv
 by_cases h1:Zh4 t n b r l a=false
 ·rw [if_pos h1,h1];simp
 ·have h1':Zh4 t n b r l a=true:=by simpa using h1
  rw [if_neg h1,h1']
  by_cases h2:(64:Int) < a.Text.size
  ·rw [if_pos h2];exact ⟨fun h=>absurd h (by decide),fun h=>by omega⟩
  ·rw [if_neg h2]
   by_cases h3:b=true ∧ (a.Low < -2305843009213693952 ∨ 2305843009213693952 < a.High ∨ a.Num < a.Low ∨ a.High < a.Num)
   ·rw [if_pos h3];exact ⟨fun h=>absurd h (by decide),fun h=>by have:=h.2.2.1 h3.1;omega⟩
   ·rw [if_neg h3]
    by_cases h4:a.Real=Zck a.Real
    ·rw [if_neg (fun h=>h h4)]
     cases l
     ·rw [if_pos rfl]
      refine ⟨fun _=>⟨rfl,by omega,fun hb=>?_,h4,fun h=>absurd h (by decide)⟩,fun _=>rfl⟩
      have:¬ (a.Low < -2305843009213693952 ∨ 2305843009213693952 < a.High ∨ a.Num < a.Low ∨ a.High < a.Num):=fun h=>h3 ⟨hb,h⟩
      omega
     ·rw [if_neg (by decide)]
      by_cases h5:a.Cap < 1 ∨ 32 < a.Cap
      ·rw [if_pos h5];exact ⟨fun h=>absurd h (by decide),fun h=>by have:=h.2.2.2.2 rfl;omega⟩
      ·rw [if_neg h5]
       by_cases h6:a.Cap < a.List.length
       ·rw [if_pos h6];exact ⟨fun h=>absurd h (by decide),fun h=>by have:=h.2.2.2.2 rfl;omega⟩
       ·rw [if_neg h6,Zt3]
        constructor
        ·intro h
         refine ⟨rfl,by omega,fun hb=>?_,h4,fun _=>⟨by omega,by omega,by omega,fun i hi=>h i (Nat.zero_le _) (by omega)⟩⟩
         have:¬ (a.Low < -2305843009213693952 ∨ 2305843009213693952 < a.High ∨ a.Num < a.Low ∨ a.High < a.Num):=fun h=>h3 ⟨hb,h⟩
         omega
        ·intro h j _ hj
         exact (h.2.2.2.2 rfl).2.2.2 j (by omega)
    ·rw [if_pos h4];exact ⟨fun h=>absurd h (by decide),fun h=>absurd h.2.2.2.1 h4⟩
def Zcz (a:Ze):Prop:=1 ≤ a.Kind ∧ a.Kind ≤ 9 ∧ Zh4 (decide (a.Kind=1)) (decide (2 ≤ a.Kind ∧ a.Kind ≤ 4)) (decide (a.Kind=4)) (decide (5 ≤ a.Kind ∧ a.Kind ≤ 7)) (decide (8 ≤ a.Kind)) a=true ∧ a.Text.size ≤ 64 ∧ (a.Kind=4 → -2305843009213693952 ≤ a.Low ∧ a.High ≤ 2305843009213693952 ∧ a.Low ≤ a.Num ∧ a.Num ≤ a.High) ∧ a.Real=Zck a.Real ∧
 (8 ≤ a.Kind → 1 ≤ a.Cap ∧ a.Cap ≤ 32 ∧ (a.List.length:Int) ≤ a.Cap ∧ ∀ i,i < a.List.length → Zil a.Kind a.List i=0)
theorem Zi2 {a:Ze} (ha:Zih a):Zet a=some 0 ↔ Zcz a:=by
 by_cases hk:a.Kind ≤ 0 ∨ 10 ≤ a.Kind
 ·have:Zet a ≠ some 0:=by
   obtain ⟨c,hc,hc2⟩:=Zni ha
   unfold Zdy at hc2
   rw [if_pos (by simp;omega)] at hc2
   rw [hc,← hc2];decide
  exact ⟨fun h=>absurd h this,fun h=>by obtain ⟨h1,h2,_⟩:=h;omega⟩
 ·have fin:∀ {t n b r l:Bool},Zey a.Kind=some ⟨t,n,b,r,l⟩ → t=decide (a.Kind=1) → n=decide (2 ≤ a.Kind ∧ a.Kind ≤ 4) → b=decide (a.Kind=4) → r=decide (5 ≤ a.Kind ∧ a.Kind ≤ 7) → l=decide (8 ≤ a.Kind) → (Zet a=some 0 ↔ Zcz a):=by
   intro t n b r l hs h1 h2 h3 h4 h5
   rw [Zg6 ha hk hs]
   constructor
   ·intro h
    obtain ⟨g1,g2,g3,g4,g5⟩:=Zug.1 (Option.some.inj h)
    refine ⟨by omega,by omega,by rw [← h1,← h2,← h3,← h4,← h5];exact g1,g2,fun hk4=>g3 (by rw [h3];simpa using hk4),g4,fun hk8=>g5 (by rw [h5];simpa using hk8)⟩
   ·rintro ⟨_,_,g1,g2,g3,g4,g5⟩
    congr 1
    exact Zug.2 ⟨by rw [h1,h2,h3,h4,h5];exact g1,g2,fun hb=>g3 (by rw [h3] at hb;simpa using hb),g4,fun hb=>g5 (by rw [h5] at hb;simpa using hb)⟩
  have hk':a.Kind=1 ∨ a.Kind=2 ∨ a.Kind=3 ∨ a.Kind=4 ∨ a.Kind=5 ∨ a.Kind=6 ∨ a.Kind=7 ∨ a.Kind=8 ∨ a.Kind=9:=by omega
  rcases hk' with h | h | h | h | h | h | h | h | h <;> rw [h] at fin
  ·exact fin Z5b rfl rfl rfl rfl rfl
  ·exact fin Z4p rfl rfl rfl rfl rfl
  ·exact fin Z4a rfl rfl rfl rfl rfl
  ·exact fin Z5j rfl rfl rfl rfl rfl
  ·exact fin Z4h rfl rfl rfl rfl rfl
  ·exact fin Z39 rfl rfl rfl rfl rfl
  ·exact fin Z4z rfl rfl rfl rfl rfl
  ·exact fin Z4t rfl rfl rfl rfl rfl
  ·exact fin Z4g rfl rfl rfl rfl rfl
theorem Zne {a:Ze} (h:Zcz a) (hk:a.Kind=8):NS a.List:=by
 obtain ⟨_,_,_,_,_,_,h8⟩:=h
 obtain ⟨_,_,_,hi⟩:=h8 (by omega)
 have step:∀ i,i + 1 < a.List.length → sLt ((a.List[i]?).getD default).Name ((a.List[i + 1]?).getD default).Name=true:=by
  intro i hi1
  have:=hi (i + 1) hi1
  unfold Zil at this
  rw [List.getElem?_eq_getElem hi1] at this
  simp only [Nat.add_sub_cancel] at this
  split at this
  ·cases this
  ·split at this
   ·cases this
   ·split at this
    ·cases this
    ·rename_i h3
     rw [List.getElem?_eq_getElem hi1]
     cases hq:sLt ((a.List[i]?).getD default).Name a.List[i + 1].Name
     ·exact absurd ⟨by omega,hk,hq⟩ h3
     ·exact hq
 have far:∀ d i,i + d + 1 < a.List.length → sLt ((a.List[i]?).getD default).Name ((a.List[i + d + 1]?).getD default).Name=true:=by
  intro d
  induction d with
  | zero=>intro i h;exact step i h
  | succ d ih=>intro i h;exact Zgj (ih i (by omega)) (step (i + d + 1) (by omega))
 refine List.pairwise_iff_getElem.2 fun i j hi hj hij=>?_
 have:=far (j - i - 1) i (by omega)
 rw [show i + (j - i - 1) + 1=j by omega,List.getElem?_eq_getElem hi,List.getElem?_eq_getElem hj] at this
 exact this
theorem Zwi {neg:Bool} {r:Nat} (h:r ≤ Ieee.double.infRung):Ieee.double.word neg r < W64:=by
 have h1:Ieee.double.infRung=9218868437227405312:=by decide
 have h2:Ieee.double.signWeight=9223372036854775808:=by decide
 unfold Ieee.Format.word
 rw [h1] at h
 show _ < 18446744073709551616
 split
 ·rw [h2];omega
 ·omega
theorem Z3k (neg:Bool) (mag:Nat) (place:Int):Ieee.double.nearest neg mag place < W64:=by
 unfold Ieee.Format.nearest
 split
 ·exact Zwi (Nat.zero_le _)
 ·exact Zwi (Nat.min_le_right _ _)
theorem Zzp {d:Ieee.Datum} (h:∀ n f,d ≠ .nan n f):Ieee.double.write d < W64:=by
 cases d with
 | number n m p=>exact Z3k n m p
 | infinity n=>exact Zwi (Nat.le_refl _)
 | nan n f=>exact absurd rfl (h n f)
theorem Z8w {x y d:Ieee.Datum} (h:x.sum y=some d):∀ n f,d ≠ .nan n f:=by
 intro n f e
 subst e
 cases x <;> cases y <;> simp [Ieee.Datum.sum] at h
theorem Z03 {x y d:Ieee.Datum} (h:x.product y=some d):∀ n f,d ≠ .nan n f:=by
 intro n f e
 subst e
 cases x <;> cases y <;> simp [Ieee.Datum.product] at h
theorem Z2h (m n:Nat):fadd m n < W64:=by
 unfold fadd Ieee.Format.add
 cases h:(Ieee.double.read m).sum (Ieee.double.read n) with
 | none=>exact (by decide:9221120237041090561 < W64)
 | some d=>simpa using Zzp (Z8w h)
theorem Z1m (m n:Nat):fmul m n < W64:=by
 unfold fmul Ieee.Format.mul
 cases h:(Ieee.double.read m).product (Ieee.double.read n) with
 | none=>exact (by decide:9221120237041090561 < W64)
 | some d=>simpa using Zzp (Z03 h)
theorem Zsx {z:Nat} (hz:z < W64):∃ p,Zfu z=some p ∧ Zfe p=some (Zck z):=by
 have hz':z < 18446744073709551616:=hz
 unfold Zfu Zfe Zck NANB
 rw [Zrg hz]
 simp only [Option.bind_some]
 by_cases hn:isn z
 ·refine ⟨18444492273895866369,by simp [hn];decide,?_⟩
  rw [if_pos (by decide),if_pos hn];decide
 ·simp only [hn,decide_false,Bool.false_eq_true,if_false]
  by_cases ht:(9223372036854775808:Int) ≤ z
  ·rw [if_pos (by simpa using ht)]
   refine ⟨_,rfl,?_⟩
   rw [wru (x:=(9223372036854775808:Int) - 1) (by decide) (by decide),wru (x:=(z:Int) - 9223372036854775808) (by omega) (by omega),wru (by omega) (by omega)]
   rw [if_neg (by simp;omega)]
   rw [wru (x:=(9223372036854775808:Int) - 1 - _) (by omega) (by omega),wru (by omega) (by omega)]
   congr 1;omega
  ·rw [if_neg (by simpa using ht)]
   refine ⟨_,rfl,?_⟩
   rw [wru (by omega) (by omega),if_pos (by simp;omega),wru (by omega) (by omega)]
   congr 1;omega
theorem Zt6 {z:Nat}:Zck (Zck z)=Zck z:=by
 unfold Zck
 by_cases h:isn z
 ·rw [if_pos h,if_pos (show isn NANB by unfold isn rg INF NANB TOP;decide)]
 ·rw [if_neg h,if_neg h]
theorem Zzq {a b:Nat} (ha:a < W64) (hb:b < W64) (ca:a=Zck a) (cb:b=Zck b):∃ m,Zl7 a b=some m ∧ Zj1 a b=some m ∧ (m=a ∨ m=b):=by
 unfold Zl7 Zj1
 rw [Zww ha hb,Zpv ha hb,Zka ha,Zka hb,← ca,← cb]
 by_cases h:keyf a < keyf b
 ·exact ⟨b,by simp [h],by simp [h],.inr rfl⟩
 ·exact ⟨a,by simp [h],by simp [h],.inl rfl⟩
theorem Z0n {a b:Nat} (ha:a < W64) (hb:b < W64) (ca:a=Zck a) (cb:b=Zck b):∃ m,Zl4 a b=some m ∧ Zj8 a b=some m ∧ (m=a ∨ m=b):=by
 unfold Zl4 Zj8
 rw [Zww hb ha,Zpv hb ha,Zka ha,Zka hb,← ca,← cb]
 by_cases h:keyf b < keyf a
 ·exact ⟨b,by simp [h],by simp [h],.inr rfl⟩
 ·exact ⟨a,by simp [h],by simp [h],.inl rfl⟩
def I64 (x:Int):Prop:=-9223372036854775808 ≤ x ∧ x ≤ 9223372036854775807
structure RecW (r:Ze):Prop where
 ok:Zih r
 num:I64 r.Num
 low:I64 r.Low
 high:I64 r.High
 kind:I64 r.Kind
 len:r.List.length ≤ 1000
structure ActW (a:Zu):Prop where
 ok:Zvl a
 n:I64 a.N
 mkr:RecW a.Make
 xc:a.X=Zck a.X
 inout:(a.Kind=10 ∨ a.Kind=11) → 0 ≤ a.N ∧ a.N ≤ 2305843009213693952
 s64:a.S.size ≤ 64
 s16:¬ (5 ≤ a.Kind ∧ a.Kind ≤ 6) → a.S.size ≤ 16
abbrev ans (c:Int):Zg:={ Code:=c,Num:=0,Rec:=default }
def Chg (r:Ze) (a:Zu):Prop:=∃ c r' o,Zbk a.Kind r a (default:Zg)=some (c,r',o) ∧ Zbz r a=some (if c=0 then (r',o) else (r,ans c)) ∧ RecW r' ∧ RecW o.Rec ∧ (c=0 → o.Code=0 ∧ o.Num=0)
theorem Zrs (x:Int):I64 (IntKind.i64.wrap x):=by unfold I64;rw [IntKind.wrap_i64];omega
theorem Zcq:RecW (default:Ze):=⟨⟨by decide,by decide,fun e he=>by cases he⟩,by unfold I64;decide,by unfold I64;decide,by unfold I64;decide,by unfold I64;decide,by decide⟩
theorem RecW.withNum {r:Ze} (h:RecW r) {x:Int} (hx:I64 x):RecW { r with Num:=x }:=⟨⟨h.ok.real,h.ok.len,h.ok.sc⟩,hx,h.low,h.high,h.kind,h.len⟩
theorem RecW.withText {r:Ze} (h:RecW r) (t:ByteArray):RecW { r with Text:=t }:=⟨⟨h.ok.real,h.ok.len,h.ok.sc⟩,h.num,h.low,h.high,h.kind,h.len⟩
theorem RecW.withReal {r:Ze} (h:RecW r) {x:Nat} (hx:x < W64):RecW { r with Real:=x }:=⟨⟨hx,h.ok.len,h.ok.sc⟩,h.num,h.low,h.high,h.kind,h.len⟩
theorem RecW.withList {r:Ze} (h:RecW r) {l:Zdx} (h1:l.length ≤ 1000) (h2:∀ e ∈ l,e.Score < W64):RecW { r with List:=l }:=⟨⟨h.ok.real,by show l.length < _;omega,h2⟩,h.num,h.low,h.high,h.kind,h1⟩
theorem Zks {r:Ze} (h:r.List.length ≤ 1000):Zev r=some r:=by
 unfold Zev Zby
 rw [if_pos (by omega)];rfl
theorem Zp6 {r:Ze} (h:r.List.length ≤ 1000):Zfd r=some r:=by
 unfold Zfd
 rw [if_pos (by simp;omega)];rfl
variable {r:Ze} {a:Zu}
theorem Z84 (h:a.Kind=5) (hr:RecW r):Chg r a:=by
 refine ⟨0,{ r with Text:=a.S },ans 0,?_,?_,hr.withText _,Zcq,fun _=>⟨rfl,rfl⟩⟩
 ·rw [h];rfl
 ·unfold Zbz;rw [h];rfl
theorem Z52 (h:a.Kind=6) (hr:RecW r):Chg r a:=by
 refine ⟨0,{ r with Text:=a.S },{ ans 0 with Rec:=r },?_,?_,hr.withText _,hr,fun _=>⟨rfl,rfl⟩⟩
 ·rw [h]
  show Zhx r a default=_
  unfold Zhx
  rw [Zks hr.len];rfl
 ·unfold Zbz;rw [h,Zp6 hr.len];rfl
theorem Z8n (h:a.Kind=7) (hr:RecW r):Chg r a:=by
 refine ⟨0,{ r with Num:=IntKind.i64.wrap (r.Num + a.N) },ans 0,?_,?_,hr.withNum (Zrs _),Zcq,fun _=>⟨rfl,rfl⟩⟩
 ·rw [h];rfl
 ·unfold Zbz;rw [h];rfl
theorem Z5p (hr:I64 r.Num) (hn:I64 a.N):(((decide ((0:Int) < a.N)) && (decide ((IntKind.i64.wrap ((9223372036854775807:Int) - a.N)) < r.Num))) || ((decide (a.N < (0:Int))) && (decide (r.Num < (IntKind.i64.wrap ((-9223372036854775808:Int) - a.N)))))) =
  ((((decide ((0:Int) < r.Num)) && (decide ((0:Int) < a.N))) && (decide ((IntKind.i64.wrap (r.Num + a.N)) < (0:Int)))) || (((decide (r.Num < (0:Int))) && (decide (a.N < (0:Int)))) && (decide ((0:Int) ≤ (IntKind.i64.wrap (r.Num + a.N)))))):=by
 unfold I64 at hr hn
 rw [Bool.eq_iff_iff]
 simp only [Bool.or_eq_true,Bool.and_eq_true,decide_eq_true_eq,IntKind.wrap_i64]
 omega
theorem Z6n (h:a.Kind=8) (hr:RecW r) (ha:ActW a):Chg r a:=by
 have e1:Zbk a.Kind r a default=Zlp r a default:=by rw [h];rfl
 have e2:Zbz r a=(Zjc r.Num a.N).bind fun r7=>(if r7 then (Z7 r (ans 9)) else (Z7 { r with Num:=IntKind.i64.wrap (r.Num + a.N) } (ans 0))):=by unfold Zbz;rw [h];rfl
 have hp:=Z5p hr.num ha.n
 unfold Chg
 rw [e1,e2]
 unfold Zlp Zjc Z7
 rw [hp]
 simp only [Option.bind_some]
 split
 ·exact ⟨9,r,_,rfl,rfl,hr,Zcq,fun h=>by cases h⟩
 ·exact ⟨0,_,_,rfl,rfl,hr.withNum (Zrs _),Zcq,fun _=>⟨rfl,rfl⟩⟩
theorem Zxm (h:a.Kind=9 ∨ a.Kind=12) (hr:RecW r):Chg r a:=by
 have e1:Zbk a.Kind r a default=Zem r a default:=by rcases h with h | h <;> rw [h] <;> rfl
 have e2:Zbz r a=(if (decide (r.Num < a.N)) then (Z7 r (ans 11)) else (Z7 r (ans 0))):=by rcases h with h | h <;> unfold Zbz Zcp <;> rw [h] <;> rfl
 unfold Chg
 rw [e1,e2]
 unfold Zem Z7
 split
 ·exact ⟨11,r,_,rfl,rfl,hr,Zcq,fun h=>by cases h⟩
 ·exact ⟨0,r,_,rfl,rfl,hr,Zcq,fun _=>⟨rfl,rfl⟩⟩
theorem Zyy (hg:Zcz r) (hk:r.Kind=4):-2305843009213693952 ≤ r.Low ∧ r.High ≤ 2305843009213693952 ∧ r.Low ≤ r.Num ∧ r.Num ≤ r.High:=hg.2.2.2.2.1 hk
theorem Zbbd (h:a.Kind=10) (hr:RecW r) (hg:Zcz r) (hk:r.Kind=4) (ha:ActW a):Chg r a:=by
 have e1:Zbk a.Kind r a default=Zhs r a default:=by rw [h];rfl
 have e2:Zbz r a=(if (decide (r.High < IntKind.i64.wrap (r.Num + a.N))) then (Z7 r (ans 9)) else (Z7 { r with Num:=IntKind.i64.wrap (r.Num + a.N) } (ans 0))):=by unfold Zbz Zcp;rw [h];rfl
 obtain ⟨p1,p2,p3,p4⟩:=Zyy hg hk
 obtain ⟨n1,n2⟩:=ha.inout (.inl h)
 have hd:decide (IntKind.i64.wrap (r.High - r.Num) < a.N)=decide (r.High < IntKind.i64.wrap (r.Num + a.N)):=by
  rw [wr (x:=r.High - r.Num) (by omega) (by omega),wr (x:=r.Num + a.N) (by omega) (by omega)]
  apply decide_eq_decide.2;omega
 unfold Chg
 rw [e1,e2]
 unfold Zhs Z7
 rw [hd]
 split
 ·exact ⟨9,r,_,rfl,rfl,hr,Zcq,fun h=>by cases h⟩
 ·exact ⟨0,_,_,rfl,rfl,hr.withNum (Zrs _),Zcq,fun _=>⟨rfl,rfl⟩⟩
theorem Z8d (h:a.Kind=11) (hr:RecW r) (hg:Zcz r) (hk:r.Kind=4) (ha:ActW a):Chg r a:=by
 have e1:Zbk a.Kind r a default=Zhw r a default:=by rw [h];rfl
 have e2:Zbz r a=(if (decide (IntKind.i64.wrap (r.Num - a.N) < r.Low)) then (Z7 r (ans 10)) else (Z7 { r with Num:=IntKind.i64.wrap (r.Num - a.N) } (ans 0))):=by unfold Zbz Zcp;rw [h];rfl
 obtain ⟨p1,p2,p3,p4⟩:=Zyy hg hk
 obtain ⟨n1,n2⟩:=ha.inout (.inr h)
 have hd:decide (IntKind.i64.wrap (r.Num - r.Low) < a.N)=decide (IntKind.i64.wrap (r.Num - a.N) < r.Low):=by
  rw [wr (x:=r.Num - r.Low) (by omega) (by omega),wr (x:=r.Num - a.N) (by omega) (by omega)]
  apply decide_eq_decide.2;omega
 unfold Chg
 rw [e1,e2]
 unfold Zhw Z7
 rw [hd]
 split
 ·exact ⟨10,r,_,rfl,rfl,hr,Zcq,fun h=>by cases h⟩
 ·exact ⟨0,_,_,rfl,rfl,hr.withNum (Zrs _),Zcq,fun _=>⟨rfl,rfl⟩⟩
theorem Zpn {m:Nat} {ψ:Nat → Nat → Option Nat} (h:Zbk a.Kind r a default=Zfa ψ r a default) (h1:ψ r.Real a.X=some m) (hm:m < W64) (h2:Zbz r a=some ({ r with Real:=m },ans 0)) (hr:RecW r):Chg r a:=by
 refine ⟨0,{ r with Real:=m },ans 0,?_,h2,hr.withReal hm,Zcq,fun _=>⟨rfl,rfl⟩⟩
 rw [h]
 unfold Zfa
 rw [h1];rfl
theorem Zoq (hg:Zcz r):r.Real=Zck r.Real:=hg.2.2.2.2.2.1
theorem Z5t (h:a.Kind=13) (hr:RecW r) (hg:Zcz r) (ha:ActW a):Chg r a:=by
 obtain ⟨m,m1,m2,m3⟩:=Zzq hr.ok.real ha.ok.2 (Zoq hg) ha.xc
 refine Zpn (m:=m) (ψ:=fun x y=>Zl7 x y) (by rw [h];rfl) m1 (by rcases m3 with rfl | rfl;exact hr.ok.real;exact ha.ok.2) ?_ hr
 unfold Zbz Zcp;rw [h,m2];rfl
theorem Z4x (h:a.Kind=14) (hr:RecW r) (hg:Zcz r) (ha:ActW a):Chg r a:=by
 obtain ⟨m,m1,m2,m3⟩:=Z0n hr.ok.real ha.ok.2 (Zoq hg) ha.xc
 refine Zpn (m:=m) (ψ:=fun x y=>Zl4 x y) (by rw [h];rfl) m1 (by rcases m3 with rfl | rfl;exact hr.ok.real;exact ha.ok.2) ?_ hr
 unfold Zbz Zcp;rw [h,m2];rfl
theorem Z5s (h:a.Kind=15) (hr:RecW r):Chg r a:=by
 have hz:=Z2h r.Real a.X
 obtain ⟨p,p1,p2⟩:=Zsx hz
 refine Zpn (m:=Zck (fadd r.Real a.X)) (ψ:=fun x y=>Zja x y) (by rw [h];rfl) (by show Zja r.Real a.X=_;unfold Zja;rw [Zka hz];rfl) (Zuv hz) ?_ hr
 unfold Zbz Zcp;rw [h,p1]
 show ((Zfe p).bind _)=_
 rw [p2];rfl
theorem Z4o (h:a.Kind=16) (hr:RecW r):Chg r a:=by
 have hz:=Z1m r.Real a.X
 obtain ⟨p,p1,p2⟩:=Zsx hz
 refine Zpn (m:=Zck (fmul r.Real a.X)) (ψ:=fun x y=>Zh9 x y) (by rw [h];rfl) (by show Zh9 r.Real a.X=_;unfold Zh9;rw [Zka hz];rfl) (Zuv hz) ?_ hr
 unfold Zbz Zcp;rw [h,p1]
 show ((Zfe p).bind _)=_
 rw [p2];rfl
theorem Z9g (h:a.Kind=17) (hr:RecW r) (ha:ActW a):Chg r a:=by
 refine Zpn (m:=a.X) (ψ:=fun x y=>Zhv x y) (by rw [h];rfl) rfl ha.ok.2 ?_ hr
 unfold Zbz Zcp;rw [h];rfl
theorem Zxq (hg:Zcz r) (hk:8 ≤ r.Kind):1 ≤ r.Cap ∧ r.Cap ≤ 32 ∧ (r.List.length:Int) ≤ r.Cap:=by
 obtain ⟨h1,h2,h3,_⟩:=hg.2.2.2.2.2.2 hk
 exact ⟨h1,h2,h3⟩
theorem Z81 (h:a.Kind=20) (hr:RecW r) (hg:Zcz r) (hk:r.Kind=8):Chg r a:=by
 have hs:=Zne hg hk
 have hl:=hr.len
 have e1:Zbk a.Kind r a default=Zf6 r a default:=by rw [h];rfl
 have e2:Zbz r a=(Zgg r.List a.S).bind fun r59=>(if (!r59) then (Z7 r (ans 11)) else (Z7 r (ans 0))):=by unfold Zbz Zcp;rw [h];rfl
 unfold Chg
 rw [e1,e2]
 unfold Zf6 Z7
 rw [Zo4 hs (by omega),Z5a (by omega),Zuw hs]
 simp only [Option.bind_some]
 split
 ·exact ⟨11,r,_,rfl,rfl,hr,Zcq,fun h=>by cases h⟩
 ·exact ⟨0,r,_,rfl,rfl,hr,Zcq,fun _=>⟨rfl,rfl⟩⟩
theorem Z55 (h:a.Kind=18) (hr:RecW r) (hg:Zcz r) (hk:r.Kind=8):Chg r a:=by
 have hs:=Zne hg hk
 have hl:=hr.len
 obtain ⟨c1,c2,c3⟩:=Zxq hg (by omega)
 have e1:Zbk a.Kind r a default=Zlo r a default:=by rw [h];rfl
 have e2:Zbz r a=(Zgg r.List a.S).bind fun r40=>(if ((!r40) && (decide (r.Cap ≤ (r.List.length:Int)))) then (Z7 r (ans 8)) else ((Zf3 r.List ({ Score:=(0:Nat),Name:=a.S }:Zl) true).bind fun r43=>(Z7 ({ r with List:=r43 }) (ans 0)))):=by unfold Zbz Zcp;rw [h];rfl
 have hple:=Zpe (fun e=>sLt e.Name a.S) r.List
 unfold Chg
 rw [e1,e2]
 unfold Zlo Z7
 rw [Zo4 hs (by omega),Z5a (by omega),Zuw hs,Z2n (show (0:Nat) < W64 by decide) hr.ok.sc (by omega),Z5u,Zqr (by omega)]
 simp only [Option.bind_some]
 by_cases hat:isAt a.S r.List=true
 ·rw [hat]
  exact ⟨0,r,_,rfl,rfl,hr,Zcq,fun _=>⟨rfl,rfl⟩⟩
 ·have hat':isAt a.S r.List=false:=by simpa using hat
  rw [hat']
  simp only [Bool.not_false,Bool.true_and,Bool.false_eq_true,if_false]
  by_cases hc:decide (r.Cap ≤ (r.List.length:Int))=true
  ·rw [if_pos hc,if_pos hc]
   exact ⟨8,r,_,rfl,rfl,hr,Zcq,fun h=>by cases h⟩
  ·rw [if_neg hc,if_neg hc]
   unfold Zcm
   rw [if_pos ⟨by omega,by omega,by simp,by simp;omega⟩]
   refine ⟨0,_,_,rfl,rfl,hr.withList (by simp;omega) fun e he=>?_,Zcq,fun _=>⟨rfl,rfl⟩⟩
   simp only [List.mem_append,List.mem_singleton,Int.toNat_natCast] at he
   rcases he with (he | rfl) | he
   ·exact hr.ok.sc e (List.mem_of_mem_take he)
   ·exact (show (0:Nat) < W64 by decide)
   ·exact hr.ok.sc e (List.mem_of_mem_drop he)
theorem Zxs (h:a.Kind=19) (hr:RecW r) (hg:Zcz r) (hk:r.Kind=8):Chg r a:=by
 have hs:=Zne hg hk
 have hl:=hr.len
 have e1:Zbk a.Kind r a default=Zkl r a default:=by rw [h];rfl
 have e2:Zbz r a=(Zdj r a (Int.toNat ((r.List.length:Int) - (0:Int)) + 1) ([]:List Zl) (0:Int)).bind fun z57=>match z57 with | y56=>(Z7 ({ r with List:=y56 }) (ans 0)):=by unfold Zbz Zcp;rw [h];rfl
 have hple:=Zpe (fun e=>sLt e.Name a.S) r.List
 unfold Chg
 rw [e1,e2]
 unfold Zkl Z7
 have hf:=Zpy (a:=a) (a0:=r) (by omega) r.List.length 0 [] (by omega) (by simp)
 rw [show ((0:Nat):Int)=0 from rfl] at hf
 rw [Zo4 hs (by omega),show (Int.toNat ((r.List.length:Int) - (0:Int)) + 1)=r.List.length + 1 by omega,hf,List.drop_zero,List.nil_append,Z33 hs,Zqr (by omega)]
 simp only [Option.bind_some]
 by_cases hat:isAt a.S r.List=true
 ·have hp:pre (fun e=>sLt e.Name a.S) r.List < r.List.length:=by
   unfold isAt at hat
   cases hq:r.List[pre (fun e=>sLt e.Name a.S) r.List]? with
   | none=>rw [hq] at hat;cases hat
   | some e=>exact (List.getElem?_eq_some_iff.1 hq).1
  rw [hat]
  simp only [if_true]
  unfold Zfl
  rw [wr1 (by omega),if_pos ⟨by omega,by omega,by omega,by omega,by omega⟩]
  refine ⟨0,_,_,rfl,rfl,hr.withList (by simp;omega) fun e he=>?_,Zcq,fun _=>⟨rfl,rfl⟩⟩
  simp only [List.mem_append,Int.toNat_natCast] at he
  rcases he with he | he
  ·exact hr.ok.sc e (List.mem_of_mem_take he)
  ·exact hr.ok.sc e (List.mem_of_mem_drop he)
 ·have hat':isAt a.S r.List=false:=by simpa using hat
  rw [hat']
  exact ⟨0,r,_,rfl,rfl,hr,Zcq,fun _=>⟨rfl,rfl⟩⟩
variable {r:Ze} {a:Zu}
theorem Z0k {l:Zdx} {c:Int} (h1:1 ≤ c) (h2:c ≤ 32):cut l 0 (min (l.length:Int) c)=some (l.take c.toNat):=by
 unfold cut
 rw [if_pos (by omega)]
 simp only [Int.toNat_zero,List.drop_zero,Nat.sub_zero]
 congr 1
 rcases Int.le_total (l.length:Int) c with h | h
 ·rw [Int.min_eq_left h,Int.toNat_natCast,List.take_of_length_le (Nat.le_refl _),List.take_of_length_le (by omega)]
 ·rw [Int.min_eq_right h]
theorem Z5v (h:a.Kind=21) (hr:RecW r) (hg:Zcz r) (hk:r.Kind=9) (ha:ActW a):Chg r a:=by
 have hl:=hr.len
 obtain ⟨c1,c2,c3⟩:=Zxq hg (by omega)
 have e1:Zbk a.Kind r a default=Zk3 r a default:=by rw [h];rfl
 have e2:Zbz r a=(Zf3 r.List ({ Score:=a.X,Name:=a.S }:Zl) false).bind fun r63=>(if (decide (r.Cap < (r63.length:Int))) then ((cut r63 (0:Int) r.Cap).bind fun c66=>(Zez r c66)) else (Zez r r63)):=by unfold Zbz Zcp;rw [h];rfl
 have hx:({ Score:=a.X,Name:=a.S }:Zl).Score < W64:=ha.ok.2
 have hple:=Zpe (Zd9 { Score:=a.X,Name:=a.S } false) r.List
 unfold Chg
 rw [e1,e2]
 unfold Zk3
 rw [Zxg ha.ok.2 hr.ok.sc (by omega),Z2n hx hr.ok.sc (by omega),Zqr (by omega)]
 simp only [Option.bind_some]
 have fin:∀ L:Zdx,L=r.List.take (pre (Zd9 { Score:=a.X,Name:=a.S } false) r.List) ++ [{ Score:=a.X,Name:=a.S }] ++ r.List.drop (pre (Zd9 { Score:=a.X,Name:=a.S } false) r.List) → layL { Score:=a.X,Name:=a.S } false r.List=L →
   ∃ c r' o,((Zcm r.List ((pre (Zd9 { Score:=a.X,Name:=a.S } false) r.List:Nat):Int) ([({ Score:=a.X,Name:=a.S }:Zl)]:List Zl)).bind fun r16=>((cut r16 (0:Int) (min (r16.length:Int) r.Cap)).bind fun c18=>(some ((0:Int),({ r with List:=c18 }),(default:Zg)))))=some (c,r',o) ∧
    (if (decide (r.Cap < ((layL { Score:=a.X,Name:=a.S } false r.List).length:Int)))=true then ((cut (layL { Score:=a.X,Name:=a.S } false r.List) (0:Int) r.Cap).bind fun c66=>(Zez r c66)) else (Zez r (layL { Score:=a.X,Name:=a.S } false r.List)))=some (if c=0 then (r',o) else (r,ans c)) ∧ RecW r' ∧ RecW o.Rec ∧ (c=0 → o.Code=0 ∧ o.Num=0):=by
  intro L hL hlay
  have hLl:L.length=r.List.length + 1:=by rw [hL];simp;omega
  have hLs:∀ e ∈ L,e.Score < W64:=fun e he=>by
   rw [hL] at he
   simp only [List.mem_append,List.mem_singleton] at he
   rcases he with (he | rfl) | he
   ·exact hr.ok.sc e (List.mem_of_mem_take he)
   ·exact hx
   ·exact hr.ok.sc e (List.mem_of_mem_drop he)
  rw [hlay]
  unfold Zcm Zez Z7
  rw [if_pos ⟨by omega,by omega,by simp,by simp;omega⟩]
  simp only [Option.bind_some,Int.toNat_natCast]
  rw [← hL,Z0k c1 c2]
  refine ⟨0,{ r with List:=L.take r.Cap.toNat },ans 0,rfl,?_,hr.withList (by simp;omega) (fun e he=>hLs e (List.mem_of_mem_take he)),Zcq,fun _=>⟨rfl,rfl⟩⟩
  by_cases hc:decide (r.Cap < (L.length:Int))=true
  ·rw [if_pos hc]
   have:r.Cap < (L.length:Int):=of_decide_eq_true hc
   unfold cut
   rw [if_pos (by omega)]
   simp
  ·rw [if_neg hc]
   have:¬ r.Cap < (L.length:Int):=fun h=>hc (decide_eq_true h)
   rw [List.take_of_length_le (by omega)];rfl
 by_cases hp:pre (Zd9 { Score:=a.X,Name:=a.S } false) r.List < r.List.length
 ·have hd:decide (((pre (Zd9 { Score:=a.X,Name:=a.S } false) r.List:Nat):Int) < (r.List.length:Int))=true:=by simpa using hp
  have hat:=Zvf (List.getElem?_eq_getElem hp)
  have hb:Zds r.List[pre (Zd9 { Score:=a.X,Name:=a.S } false) r.List] { Score:=a.X,Name:=a.S }=false:=hat
  have hbs:=Z1i hb
  rw [hd,Zdd hp]
  simp only [gd_t,Option.bind_some,Bool.true_and]
  rw [Zp4 hx (hr.ok.sc _ (List.getElem_mem hp))]
  simp only [Option.bind_some]
  by_cases hs:(!Zds { Score:=a.X,Name:=a.S } r.List[pre (Zd9 { Score:=a.X,Name:=a.S } false) r.List])=true
  ·rw [if_pos hs]
   have hlay:layL { Score:=a.X,Name:=a.S } false r.List=r.List:=by
    unfold layL
    rw [List.getElem?_eq_getElem hp]
    simp only
    rw [if_pos (by rw [← hbs];exact hs),List.append_nil,List.take_append_drop]
   rw [hlay,if_neg (by simp;omega)]
   exact ⟨0,r,_,rfl,rfl,hr,Zcq,fun _=>⟨rfl,rfl⟩⟩
  ·rw [if_neg hs]
   refine fin _ rfl ?_
   unfold layL
   rw [List.getElem?_eq_getElem hp]
   simp only
   rw [if_neg (by rw [← hbs];exact hs)]
 ·have hd:decide (((pre (Zd9 { Score:=a.X,Name:=a.S } false) r.List:Nat):Int) < (r.List.length:Int))=false:=by simpa using hp
  rw [hd]
  simp only [gd_f,Option.bind_some,Bool.false_and,Bool.false_eq_true,if_false]
  refine fin _ rfl ?_
  unfold layL
  rw [List.getElem?_eq_none (by omega),List.take_of_length_le (by omega),List.drop_of_length_le (by omega),List.append_nil]
theorem Ztj {k:Int} (h1:1 ≤ k) (h2:k ≤ 21):∃ on,Zml k=some on ∧ Ze5 k=some on ∧ (k ≤ 4 → on=0) ∧ (5 ≤ k → on ≠ 0) ∧ ((k=10 ∨ k=11) → on=4) ∧ ((k=18 ∨ k=19 ∨ k=20) → on=8) ∧ (k=21 → on=9) ∧
  ((k=5 ∨ k=6) → on=1) ∧ (k=7 → on=2) ∧ ((k=8 ∨ k=9) → on=3) ∧ (k=12 → on=4) ∧ (k=13 → on=5) ∧ (k=14 → on=6) ∧ ((k=15 ∨ k=16 ∨ k=17) → on=7):=by
 have hk':k=1 ∨ k=2 ∨ k=3 ∨ k=4 ∨ k=5 ∨ k=6 ∨ k=7 ∨ k=8 ∨ k=9 ∨ k=10 ∨ k=11 ∨ k=12 ∨ k=13 ∨ k=14 ∨ k=15 ∨ k=16 ∨ k=17 ∨ k=18 ∨ k=19 ∨ k=20 ∨ k=21:=by omega
 rcases hk' with rfl | rfl | rfl | rfl | rfl | rfl | rfl | rfl | rfl | rfl | rfl | rfl | rfl | rfl | rfl | rfl | rfl | rfl | rfl | rfl | rfl
 all_goals first
  | exact ⟨0,by kernel_rfl,by kernel_rfl,by decide⟩
  | exact ⟨1,by kernel_rfl,by kernel_rfl,by decide⟩
  | exact ⟨2,by kernel_rfl,by kernel_rfl,by decide⟩
  | exact ⟨3,by kernel_rfl,by kernel_rfl,by decide⟩
  | exact ⟨4,by kernel_rfl,by kernel_rfl,by decide⟩
  | exact ⟨5,by kernel_rfl,by kernel_rfl,by decide⟩
  | exact ⟨6,by kernel_rfl,by kernel_rfl,by decide⟩
  | exact ⟨7,by kernel_rfl,by kernel_rfl,by decide⟩
  | exact ⟨8,by kernel_rfl,by kernel_rfl,by decide⟩
  | exact ⟨9,by kernel_rfl,by kernel_rfl,by decide⟩
theorem Z15 (h5:5 ≤ a.Kind) (h21:a.Kind ≤ 21) (hr:RecW r) (hg:Zcz r) (hon:Zml a.Kind=some r.Kind) (ha:ActW a):Chg r a:=by
 obtain ⟨on,o1,_,_,_,k10,k18,k21,_⟩:=Ztj (k:=a.Kind) (by omega) h21
 rw [hon] at o1
 obtain rfl:=Option.some.inj o1
 have hk':a.Kind=5 ∨ a.Kind=6 ∨ a.Kind=7 ∨ a.Kind=8 ∨ a.Kind=9 ∨ a.Kind=10 ∨ a.Kind=11 ∨ a.Kind=12 ∨ a.Kind=13 ∨ a.Kind=14 ∨ a.Kind=15 ∨ a.Kind=16 ∨ a.Kind=17 ∨ a.Kind=18 ∨ a.Kind=19 ∨ a.Kind=20 ∨ a.Kind=21:=by omega
 rcases hk' with h | h | h | h | h | h | h | h | h | h | h | h | h | h | h | h | h
 ·exact Z84 h hr
 ·exact Z52 h hr
 ·exact Z8n h hr
 ·exact Z6n h hr ha
 ·exact Zxm (.inl h) hr
 ·exact Zbbd h hr hg (k10 (.inl h)) ha
 ·exact Z8d h hr hg (k10 (.inr h)) ha
 ·exact Zxm (.inr h) hr
 ·exact Z5t h hr hg ha
 ·exact Z4x h hr hg ha
 ·exact Z5s h hr
 ·exact Z4o h hr
 ·exact Z9g h hr ha
 ·exact Z55 h hr hg (k18 (.inl h))
 ·exact Zxs h hr hg (k18 (.inr (.inl h)))
 ·exact Z81 h hr hg (k18 (.inr (.inr h)))
 ·exact Z5v h hr hg (k21 h) ha
structure ActIn (a:Zu):Prop where
 ok:Zvl a
 n:I64 a.N
 mkr:RecW a.Make
theorem ActIn.w {a:Zu} (h:ActIn a) {c:Int} (hc:1 ≤ a.Kind ∧ a.Kind ≤ 21 ∧ a.X=Zck a.X ∧ a.S.size ≤ 64 ∧ ((a.Kind=10 ∨ a.Kind=11) → 0 ≤ a.N ∧ a.N ≤ 2305843009213693952) ∧ (a.Kind=1 → Zet a.Make=some 0) ∧ (¬ (5 ≤ a.Kind ∧ a.Kind ≤ 6) → a.S.size ≤ 16) ∧ sEq a.Key ⟨#[]⟩=false ∧ a.Key.size ≤ 24):ActW a :=
 ⟨h.ok,h.n,h.mkr,hc.2.2.1,hc.2.2.2.2.1,hc.2.2.2.1,hc.2.2.2.2.2.2.1⟩
theorem Z19 {there:Bool} {r:Ze} {c:Int} (hc:c ≠ 0) {on:Int} (ho:Ze5 a.Kind=some on):Zel there a r c=some (r,there,ans c):=by
 have h1:(c == 0)=false:=by simpa using hc
 have h2:(c != 0)=true:=by simpa using hc
 unfold Zel
 simp only [h1,Bool.false_and,Bool.false_eq_true,if_false]
 unfold Zf8
 simp only [h1,Bool.false_and,Bool.false_eq_true,if_false]
 unfold Zgb
 rw [ho]
 simp only [h1,Bool.false_and,Bool.false_eq_true,if_false,Option.bind_some]
 unfold Zgd
 rw [if_pos h2]
theorem Z8s (k:Int):∃ on,Ze5 k=some on:=by
 by_cases h:k < 0 ∨ 21 < k
 ·exact ⟨0,by unfold Ze5;rw [if_pos (by simpa using h)]⟩
 ·by_cases h0:k=0
  ·exact ⟨0,by rw [h0];kernel_rfl⟩
  ·obtain ⟨on,_,h2,_⟩:=Ztj (k:=k) (by omega) (by omega)
   exact ⟨on,h2⟩
theorem Z2x {r:Ze} {there:Bool} {a:Zu} (hr:RecW r) (ha:ActIn a):∃ x is out,Zh3 r there a=some (x,is,out) ∧ Ziy r there a=some (x,is,out) ∧ RecW x ∧ RecW out.Rec:=by
 suffices hs:∀ r0:Ze,RecW r0 → ∃ x is out,Zhk there a r0=some (x,is,out) ∧ Zf7 there a r0=some (x,is,out) ∧ RecW x ∧ RecW out.Rec by
  unfold Zh3 Ziy
  cases there
  ·exact hs _ Zcq
  ·exact hs r hr
 intro r0 hr0
 unfold Zhk Zf7
 rw [Zks hr0.len,Zp6 hr0.len]
 obtain ⟨c,h1,h2,h3⟩:=Zp2 ha.ok
 obtain ⟨on,hon⟩:=Z8s a.Kind
 rw [h1,h2]
 simp only [Option.bind_some]
 by_cases hc:c=0
 ·subst hc
  have hf:=h3 rfl
  have hw:=ha.w (c:=0) hf
  obtain ⟨on2,o1,o2,o3,o4,_⟩:=Ztj hf.1 hf.2.1
  have main:(there=true → Zcz r0) → ∃ x is out,Zhh there a r0=some (x,is,out) ∧ Zel there a r0 0=some (x,is,out) ∧ RecW x ∧ RecW out.Rec:=by
   intro hg
   unfold Zhh Zhb Zel Zf8 Zgb
   rw [o1,o2,Zks hr0.len,Zks ha.mkr.len]
   unfold Zgd
   rw [Zp6 hr0.len,Zp6 ha.mkr.len]
   simp only [Option.bind_some]
   by_cases k1:a.Kind=1
   ·rw [k1,o3 (by omega)]
    cases there
    ·exact ⟨a.Make,true,ans 0,rfl,rfl,ha.mkr,Zcq⟩
    ·exact ⟨r0,true,ans 7,rfl,rfl,hr0,Zcq⟩
   ·by_cases k3:a.Kind=3
    ·rw [k3,o3 (by omega)]
     cases there
     ·exact ⟨r0,false,{ ans 0 with Num:=r0.Kind },rfl,rfl,hr0,Zcq⟩
     ·exact ⟨r0,true,{ ans 0 with Num:=r0.Kind },rfl,rfl,hr0,Zcq⟩
    ·by_cases k2:a.Kind=2
     ·rw [k2,o3 (by omega)]
      cases there
      ·exact ⟨r0,false,ans 6,rfl,rfl,hr0,Zcq⟩
      ·exact ⟨zrc,false,ans 0,rfl,rfl,Zcq,Zcq⟩
     ·by_cases k4:a.Kind=4
      ·rw [k4,o3 (by omega)]
       cases there
       ·exact ⟨r0,false,ans 6,rfl,rfl,hr0,Zcq⟩
       ·exact ⟨r0,true,{ ans 0 with Rec:=r0 },rfl,rfl,hr0,hr0⟩
      ·have h5:5 ≤ a.Kind:=by omega
       have b1:(a.Kind == 1)=false:=by simpa using k1
       have b2:(a.Kind == 2)=false:=by simpa using k2
       have b3:(a.Kind == 3)=false:=by simpa using k3
       have b4:(a.Kind == 4)=false:=by simpa using k4
       have b1':(a.Kind != 1)=true:=by simpa using k1
       have b3':(a.Kind != 3)=true:=by simpa using k3
       have bo:(on2 != 0)=true:=by simpa using o4 h5
       simp only [b1,b2,b3,b4,b1',b3',bo,Bool.false_and,Bool.and_false,Bool.and_true,Bool.true_and,Bool.false_eq_true,if_false,beq_self_eq_true]
       cases there
       ·exact ⟨r0,false,ans 6,rfl,rfl,hr0,Zcq⟩
       ·simp only [Bool.not_true,Bool.false_eq_true,if_false,Bool.and_false,Bool.false_and,beq_self_eq_true,Bool.true_and]
        by_cases hk:(on2 != r0.Kind)=true
        ·rw [if_pos hk,if_pos hk]
         exact ⟨r0,true,ans 5,rfl,rfl,hr0,Zcq⟩
        ·rw [if_neg hk,if_neg hk,if_pos ⟨h5,hf.2.1⟩]
         have hk':on2=r0.Kind:=by simpa using hk
         obtain ⟨c,r',o,e1,e2,w1,w2,_⟩:=Z15 h5 hf.2.1 hr0 (hg rfl) (by rw [← hk'];exact o1) hw
         rw [e1,e2]
         simp only [Option.bind_some]
         by_cases hc:c=0
         ·subst hc
          exact ⟨r',true,o,rfl,rfl,w1,w2⟩
         ·have hcn:(c != 0)=true:=by simpa using hc
          rw [if_pos hcn,if_neg hc]
          exact ⟨r0,true,ans c,rfl,rfl,hr0,Zcq⟩
  have z1:((0:Int) != 0)=false:=rfl
  have z2:((0:Int) == 0)=true:=rfl
  rw [z1,z2]
  simp only [Bool.false_eq_true,if_false,Bool.true_and]
  by_cases ht:there=true
  ·rw [if_pos ht,if_pos ht]
   obtain ⟨c2,g1,g2⟩:=Zni hr0.ok
   rw [g1,g2]
   simp only [Option.bind_some]
   by_cases hc2:c2=0
   ·subst hc2
    rw [z1]
    exact main fun _=>(Zi2 hr0.ok).1 g1
   ·have hcn:(c2 != 0)=true:=by simpa using hc2
    rw [if_pos hcn,Z19 hc2 o2]
    exact ⟨r0,there,ans c2,rfl,rfl,hr0,Zcq⟩
  ·rw [if_neg ht,if_neg ht]
   exact main fun h=>absurd h ht
 ·have hcn:(c != 0)=true:=by simpa using hc
  have hcz:(c == 0)=false:=by simpa using hc
  rw [if_pos hcn,hcz]
  simp only [Bool.false_and,Bool.false_eq_true,if_false]
  rw [Z19 hc hon]
  exact ⟨r0,there,ans c,rfl,rfl,hr0,Zcq⟩
theorem Z10 {x:Ze} (h:Zld x):x.List.length ≤ 9223372036854775807:=by
 obtain ⟨_,_,_,_,_,_,_,h8,_⟩:=h
 simp only [maxLen] at h8;omega
theorem Zwf {x:Ze} (h:Zld x) (hl:x.List.length ≤ 100):RecW x:=by
 obtain ⟨h1,h2,h3,h4,h5,_,_,h8,h9⟩:=h
 exact ⟨⟨h5,by omega,fun e he=>(h9 e he).1⟩,h2,h3,h4,h1,by omega⟩
theorem eqLr:∀ l:List Zl,eqL l l=true
 | []=>rfl
 | x :: l=>by simp [eqL,eqI,Zdi,eqLr l]
theorem Zbbe (a:Ze):Zkw a a=true:=by simp [Zkw,Zdi,eqLr]
theorem Z6z {a:Zu} (h:Zmc a) (hl:a.Make.List.length ≤ 100):ActIn a:=by
 obtain ⟨_,_,h3,h4,_,h6,_⟩:=h
 exact ⟨⟨(Zwf h6 hl).ok,h4⟩,h3,Zwf h6 hl⟩
theorem Zbbu {a:Zu} (h:Zmc a):∃ c,Zj7 a=some c ∧ (c=0 ∨ c=1) ∧ (c=0 → a.Make.List.length ≤ 100):=by
 obtain ⟨c,e1,e2,e3⟩:=Z7n (Z10 h.2.2.2.2.2.1)
 unfold Zj7
 rw [e1]
 by_cases hk:(decide ((200:Int) < (a.Key.size:Int)) || decide ((1000:Int) < (a.S.size:Int)))=true
 ·rw [hk];exact ⟨1,rfl,.inr rfl,fun h=>by cases h⟩
 ·have hk':=Bool.eq_false_iff.2 hk
  rw [hk']
  rcases e2 with rfl | rfl
  ·exact ⟨0,rfl,.inl rfl,fun _=>e3 rfl⟩
  ·exact ⟨1,rfl,.inr rfl,fun h=>by cases h⟩
theorem Zbaw {a b:Zg} (ha:RecW a.Rec) (hb:RecW b.Rec):Zjf a b=some ((a.Code == b.Code) && (a.Num == b.Num) && Zkw a.Rec b.Rec):=by
 unfold Zjf
 rw [Zr8 ha.ok hb.ok]
 cases (a.Code == b.Code) && (a.Num == b.Num) <;> rfl
def Z3g (r0:Ze) (there:Bool) (a:Zu) (z:Ze × Bool × Zg):Prop :=
 (∃ c,c ≠ 0 ∧ z=(r0,there,ans c)) ∨ (Zgy a=some 0 ∧ ActW a ∧ (there=true → Zcz r0) ∧
  ((a.Kind=1 ∧ there=false ∧ Zcz a.Make ∧ z=(a.Make,true,ans 0)) ∨ (a.Kind=2 ∧ there=true ∧ z=(zrc,false,ans 0)) ∨ (a.Kind=3 ∧ z=(r0,there,{ ans 0 with Num:=r0.Kind })) ∨ (a.Kind=4 ∧ there=true ∧ z=(r0,true,{ ans 0 with Rec:=r0 })) ∨
   (5 ≤ a.Kind ∧ a.Kind ≤ 21 ∧ there=true ∧ Zml a.Kind=some r0.Kind ∧ ∃ r' o,Zbk a.Kind r0 a default=some (0,r',o) ∧ o.Code=0 ∧ o.Num=0 ∧ RecW r' ∧ RecW o.Rec ∧ z=(r',true,o))))
theorem Zlf {r:Ze} {there:Bool} {a:Zu} (hr:RecW r) (ha:ActIn a):∃ z,Zh3 r there a=some z ∧ Z3g (if there=true then r else zrc) there a z:=by
 suffices hs:∀ r0:Ze,RecW r0 → ∃ z,Zhk there a r0=some z ∧ Z3g r0 there a z by
  unfold Zh3
  cases there
  ·exact hs _ Zcq
  ·exact hs r hr
 intro r0 hr0
 unfold Zhk
 rw [Zks hr0.len]
 obtain ⟨c,h1,h2,h3⟩:=Zp2 ha.ok
 rw [h1]
 simp only [Option.bind_some]
 by_cases hc:c=0
 ·subst hc
  have hf:=h3 rfl
  have hw:=ha.w (c:=0) hf
  obtain ⟨on2,o1,o2,o3,o4,_⟩:=Ztj hf.1 hf.2.1
  have main:(there=true → Zcz r0) → ∃ z,Zhh there a r0=some z ∧ Z3g r0 there a z:=by
   intro hg
   unfold Zhh Zhb
   rw [o1,Zks hr0.len,Zks ha.mkr.len]
   simp only [Option.bind_some]
   by_cases k1:a.Kind=1
   ·have hm:Zcz a.Make:=(Zi2 ha.mkr.ok).1 (hf.2.2.2.2.2.1 k1)
    rw [k1]
    cases there
    ·exact ⟨_,rfl,.inr ⟨h1,hw,hg,.inl ⟨k1,rfl,hm,rfl⟩⟩⟩
    ·exact ⟨_,rfl,.inl ⟨7,by decide,rfl⟩⟩
   ·by_cases k3:a.Kind=3
    ·rw [k3]
     exact ⟨_,rfl,.inr ⟨h1,hw,hg,.inr (.inr (.inl ⟨k3,rfl⟩))⟩⟩
    ·by_cases k2:a.Kind=2
     ·rw [k2]
      cases there
      ·exact ⟨_,rfl,.inl ⟨6,by decide,rfl⟩⟩
      ·exact ⟨_,rfl,.inr ⟨h1,hw,hg,.inr (.inl ⟨k2,rfl,rfl⟩)⟩⟩
     ·by_cases k4:a.Kind=4
      ·rw [k4]
       cases there
       ·exact ⟨_,rfl,.inl ⟨6,by decide,rfl⟩⟩
       ·exact ⟨_,rfl,.inr ⟨h1,hw,hg,.inr (.inr (.inr (.inl ⟨k4,rfl,rfl⟩)))⟩⟩
      ·have h5:5 ≤ a.Kind:=by omega
       have b1:(a.Kind == 1)=false:=by simpa using k1
       have b2:(a.Kind == 2)=false:=by simpa using k2
       have b3:(a.Kind == 3)=false:=by simpa using k3
       have b4:(a.Kind == 4)=false:=by simpa using k4
       simp only [b1,b2,b3,b4,Bool.false_and,Bool.false_eq_true,if_false]
       cases there
       ·exact ⟨_,rfl,.inl ⟨6,by decide,rfl⟩⟩
       ·simp only [Bool.not_true,Bool.false_eq_true,if_false]
        by_cases hk:(on2 != r0.Kind)=true
        ·rw [if_pos hk]
         exact ⟨_,rfl,.inl ⟨5,by decide,rfl⟩⟩
        ·rw [if_neg hk,if_pos ⟨h5,hf.2.1⟩]
         have hk':on2=r0.Kind:=by simpa using hk
         obtain ⟨c,r',o,e1,e2,w1,w2,w3⟩:=Z15 h5 hf.2.1 hr0 (hg rfl) (by rw [← hk'];exact o1) hw
         rw [e1]
         simp only [Option.bind_some]
         by_cases hc:c=0
         ·subst hc
          exact ⟨(r',true,o),rfl,.inr ⟨h1,hw,hg,.inr (.inr (.inr (.inr ⟨h5,hf.2.1,rfl,by rw [← hk'];exact o1,r',o,e1,(w3 rfl).1,(w3 rfl).2,w1,w2,rfl⟩)))⟩⟩
         ·have hcn:(c != 0)=true:=by simpa using hc
          rw [if_pos hcn]
          exact ⟨_,rfl,.inl ⟨c,hc,rfl⟩⟩
  have z1:((0:Int) != 0)=false:=rfl
  rw [z1]
  simp only [Bool.false_eq_true,if_false]
  by_cases ht:there=true
  ·rw [if_pos ht]
   obtain ⟨c2,g1,g2⟩:=Zni hr0.ok
   rw [g1]
   simp only [Option.bind_some]
   by_cases hc2:c2=0
   ·subst hc2
    rw [z1]
    exact main fun _=>(Zi2 hr0.ok).1 g1
   ·have hcn:(c2 != 0)=true:=by simpa using hc2
    rw [if_pos hcn]
    exact ⟨_,rfl,.inl ⟨c2,hc2,rfl⟩⟩
  ·rw [if_neg ht]
   exact main fun h=>absurd h ht
 ·have hcn:(c != 0)=true:=by simpa using hc
  rw [if_pos hcn]
  exact ⟨_,rfl,.inl ⟨c,hc,rfl⟩⟩
theorem Zz6 {f:Zl → Bool} {l:Zdx}:∀ y ∈ l.take (pre f l),f y=true:=fun y hy=>by
 obtain ⟨k,hk,rfl⟩:=List.getElem_of_mem hy
 rw [List.length_take] at hk
 obtain ⟨e,he,hf⟩:=Zz5 (f:=f) (l:=l) (k:=k) (by omega)
 rw [List.getElem?_eq_getElem (by omega)] at he
 rw [List.getElem_take]
 obtain rfl:=Option.some.inj he
 exact hf
variable {r r' r'':Ze} {a:Zu} {o o':Zg} {c:Int}
theorem Zrk {r:Ze} {m:Int} (hg:Zcz r) (hk:2 ≤ r.Kind ∧ r.Kind ≤ 4) (hb:r.Kind=4 → r.Low ≤ m ∧ m ≤ r.High):Zcz { r with Num:=m }:=by
 obtain ⟨g1,g2,g3,g4,g5,g6,g7⟩:=hg
 refine ⟨g1,g2,?_,g4,fun h=>⟨(g5 h).1,(g5 h).2.1,(hb h).1,(hb h).2⟩,g6,g7⟩
 unfold Zh4 at *
 have:decide (2 ≤ r.Kind ∧ r.Kind ≤ 4)=true:=decide_eq_true hk
 simp only [this,Bool.true_or] at *
 exact g3
end Go.CL
