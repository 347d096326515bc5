/- A part of the proof of WholeLots. -/
import Derived.Test.YtblhcbpleiohaaaGreatDoorWholeLotsC4
set_option linter.unusedVariables false
set_option linter.unusedSimpArgs false
set_option maxRecDepth 100000
namespace Go.CL
open Go Go.RowKit Go.Proofs
theorem Zti (a0:Int) (a1:List Zbj) {r:Zp × (Option Zx)} (h:Zhx a0 a1=some r):FnOk Tryz.prog 6 [(pInt .i64 a0),(Zck.sl.pd a1)] (pTup [(Z4.pd r.1),(Zcc.opt.pd r.2)]):=by
 have H0:=h
 unfold Zhx at H0
 clear h
 refine Zb4 (N:=63) Tryz.func6 rfl rfl (Qe rfl) rfl rfl (fun a g0 hst hb=>?_)
 refine r_a [5,15,0] (L:=[(0,_),(1,_)]) hst hb Za
  (a_p (outs:=[(4,(pBox Z4 4 (default:Zp)))]) (S:=[5]) [] rfl (Zbl (zs:=[.pointer none,.int .i64 0]) (by kernel_rfl) (fun g=>Zd6 g) rfl rfl)<|a_p (outs:=[(5,(Zcc.opt.pd (none:Option Zx)))]) (S:=[]) [] rfl (Zd rfl rfl (Opd.c (fun g=>Zvh g)))<|a_n) (fun a g hst hb=>?_)
 obtain ⟨r1,h2,H0⟩:=Zc H0
 refine r_a [5,15,25,60,70] (L:=[(0,_),(1,_),(4,_)]) hst hb Za
  (Am 5 rfl<|a_p [0] rfl (Zr Zbjr (Z4r _ h2) rfl rfl (.cons u_0 .nil))<|Am 0 rfl<|a_p [0] rfl (Zba rfl rfl u_0 rfl)<|a_p [10] rfl (Zba rfl rfl u_0 rfl)<|a_p (outs:=[(6,(pBox Z4 6 (default:Zp)))]) (S:=[7]) [] rfl (Zbl (zs:=[.pointer none,.int .i64 0]) (by kernel_rfl) (fun g=>Zd6 g) rfl rfl)<|a_p [20,0] rfl (Zbg Zb7 rfl rfl u_1 u_0)<|Aa 20 rfl<|a_n) (fun a g hst hb=>?_)
 refine wp_seq ?_
 refine r_a [5,15,25,35,60] (L:=[(0,_),(1,_),(4,_),(6,_),(7,_)]) hst hb Za
  (Am 45 rfl<|a_p [0] rfl (Zdd rfl rfl u_0 c_i)<|Am 0 rfl<|a_g [0,15] (Qg_f rfl (fun hG=>Z6 rfl rfl u_0))<|a_g [10,0] (Qg_f rfl (fun hG=>Zbx Tryz.underlying22 rfl rfl (Opd.gd hG u_0)))<|a_g [20,0] (Qg_f rfl (fun hG=>Zcu rfl rfl (Opd.gd hG u_0) c_i))<|a_p [30,0] rfl (Zb2 rfl rfl u_0 (fun hz=>(Opd.gd (bNF hz) u_1)))<|a_n) (fun a g hst hb=>?_)
 refine wp_cond_split (hst.bool 4 rfl) (fun hc3=>?_) (fun hc3=>?_)
 ·replace H0:=Z1 hc3 H0
  refine r_a [10,20] (L:=[(4,_),(6,_)]) (hst.pick [2,3] rfl) hb Za
   (AM Zb7 15 rfl<|a_p [0,5] rfl (Zbg Zb7 rfl rfl u_1 u_0)<|a_p (outs:=[(5,(Zcc.opt.pd (none:Option Zx)))]) (S:=[]) [] rfl (Zd rfl rfl (Opd.c (fun g=>Zvh g)))<|a_n) (fun a g hst hb=>?_)
  refine wp_ret ?_
  refine Zt ?_
  obtain rfl:=Option.some.inj H0
  obtain ⟨u0,hu0,hq0⟩:=Zbo (P:=Tryz.prog) Zb7 (hst.at 0 rfl)
  exact Zev rfl hst hb hu0 (Zi (s:=5)) (Zdc hq0 (hst.at 1 rfl))
 ·replace H0:=Z0 hc3 H0
  refine wp_skip ?_
  refine Zo ?_
  refine r_a [15,25,35,30] (L:=[(0,_),(1,_),(4,_),(6,_)]) (hst.pick [0,1,2,3] rfl) hb Za
   (Am 5 rfl<|a_p [0] rfl (Zbf8 rfl rfl u_0)<|a_p (outs:=[(8,(pBox Zcc 8 (default:Zx)))]) (S:=[9]) [] rfl (Zbl (zs:=[.slice none 0 0,.int .i64 0]) (by kernel_rfl) (fun g=>Zpv g) rfl rfl)<|a_p [10,0] rfl (Zbg Zmk rfl rfl u_1 u_0)<|a_n) (fun a g hst hb=>?_)
  refine wp_seq ?_
  refine r_a [15,25,35,0,10,20] (L:=[(1,_),(4,_),(6,_),(8,_)]) hst hb Za
   (Am 5 rfl<|a_p [0] rfl (Zbx Tryz.underlying22 rfl rfl u_0)<|a_p [] rfl (Z6 rfl rfl c_i)<|a_n) (fun a g hst hb=>?_)
  obtain ⟨z21,hz1,H0⟩:=Zc H0
  refine Zbt (fun a w=>∃ (y18:Zp) (y19:Zp) (y20:Zx) (g:G),w=g.w ∧ St 63 [(4,(pBox Z4 4 y18)),(6,(pBox Z4 6 y19)),(8,(pBox Zcc 8 y20))] a g ∧ Base g0 g ∧ (.inr (y18,y19,y20))=z21) ?_ ?_
  ·rintro a w ⟨y18,y19,y20,g,rfl,hst,hb,rfl⟩
   refine Zo ?_
   refine r_a [10,20] (L:=[(4,_),(6,_),(8,_)]) hst hb Za
    (AM Zb7 15 rfl<|a_p [0,5] rfl (Zbg Zb7 rfl rfl u_1 u_0)<|a_p [25] rfl (Zbco (.inr rfl) rfl u_0)<|a_n) (fun a g hst hb=>?_)
   refine wp_ret ?_
   obtain rfl:=Option.some.inj H0
   obtain ⟨u0,hu0,hq0⟩:=Zbo (P:=Tryz.prog) Zb7 (hst.at 0 rfl)
   exact Zev rfl hst hb hu0 (Zi (s:=5)) (Zdc hq0 (hst.at 1 rfl))
  ·refine wp_block ?_
   refine wp_loop_ghost (fun n a w=>∃ (x4:Zp) (x5:Zp) (x6:Zx) (x7:Int) (g:G),w=g.w ∧ St 63 [(4,(pBox Z4 4 x4)),(6,(pBox Z4 6 x5)),(8,(pBox Zcc 8 x6)),(26,(Zck.sl.pd a1)),(27,(pInt .i64 (a1.length:Int))),(28,(pInt .i64 x7))] a g ∧ Base g0 g ∧ Zd4 a1 n x4 x5 x6 x7=some z21) (Int.toNat ((a1.length:Int) - (0:Int)) + 1) ⟨(default:Zp),r1.1,({ L:=([]:List Zbj),Room:=a0 }:Zx),(0:Int),g,rfl,(hst.pick [0,1,2,3,4,5] rfl),hb,hz1⟩ (fun n a w hI=>?_)
   obtain ⟨x4,x5,x6,x7,g,rfl,hst,hb,H1⟩:=hI
   cases n with
   | zero=>exact absurd H1 (by simp [Zd4])
   | succ n =>
    rw [Zd4] at H1
    refine r_a [5,15,25,35,45,55,0] (L:=[(4,_),(6,_),(8,_),(26,_),(27,_),(28,_)]) hst hb Za
     (a_p [55,45] rfl (Zcv rfl rfl u_0 u_1)<|a_n) (fun a g hst hb=>?_)
    refine wp_seq ?_
    refine wp_cond_split (hst.bool 6 rfl) (fun hc8=>?_) (fun hc8=>?_)
    ·replace H1:=Z1 hc8 H1
     refine wp_skip ?_
     refine Zo ?_
     refine wp_seq ?_
     refine wp_block ?_
     obtain ⟨e9,h10,H1⟩:=Zc H1
     refine r_a [5,15,25,30,35,45,55] (L:=[(4,_),(6,_),(8,_),(26,_),(27,_),(28,_)]) (hst.pick [0,1,2,3,4,5] rfl) hb Za
      (a_p [35,55] rfl (Zbw Tryz.underlying22 Zzx rfl rfl u_0 u_1 h10)<|Al Zbd6 0 rfl<|a_p (outs:=[(10,(pBox Zck 10 (default:Zbj)))]) (S:=[11]) [] rfl (Zbl (zs:=[.string ByteArray.empty,.int .i64 0,.int .i64 0,.int .i64 0,.int .i64 0,.float .f64 0,.int .i64 0,.string ByteArray.empty,.slice none 0 0]) (by kernel_rfl) (fun g=>Zuv g) rfl rfl)<|a_p [10,0] rfl (Zch Zbd6 rfl rfl u_1 u_0)<|a_n) (fun a g hst hb=>?_)
     refine wp_seq ?_
     obtain ⟨r11,h12,H1⟩:=Zc H1
     refine r_a [5,15,25,35,45,55,65,90] (L:=[(4,_),(6,_),(8,_),(10,_),(26,_),(27,_),(28,_)]) hst hb Za
      (Af Ztg 35 rfl<|Al ty_9 0 rfl<|a_p [0] rfl (Zhf Tryz.underlying9 rfl rfl u_0)<|a_p [0] rfl (Zcu rfl rfl u_0 c_i)<|Am 0 rfl<|a_g [0,35] (Qg_f rfl (fun hG=>Zl Z05 rfl rfl u_0))<|a_g [10,0] (Qg_f rfl (fun hG=>Z2 Zbr rfl rfl (Opd.gd hG u_0)))<|a_g [20,0] (Qg_f rfl (fun hG=>Zr Zbd1 (Zqu _ (Zcb h12 hG)) rfl rfl (.cons (Opd.gd hG u_0) .nil)))<|a_g [30,0] (Qg_f rfl (fun hG=>Zcu rfl rfl (Opd.gd hG u_0) c_i))<|a_p [40,0] rfl (Zb2 rfl rfl u_0 (fun hz=>(Opd.gd (bNF hz) u_1)))<|a_n) (fun a g hst hb=>?_)
     refine wp_cond_split (hst.bool 7 rfl) (fun hc13=>?_) (fun hc13=>?_)
     ·replace H1:=Z1 hc13 H1
      refine r_a [10,20] (L:=[(4,_),(6,_)]) (hst.pick [0,1] rfl) hb Za
       (AM Zb7 15 rfl<|a_p [0,5] rfl (Zbg Zb7 rfl rfl u_1 u_0)<|a_p (outs:=[(5,(Zcc.opt.pd (none:Option Zx)))]) (S:=[]) [] rfl (Zd rfl rfl (Opd.c (fun g=>Zvh g)))<|a_n) (fun a g hst hb=>?_)
      refine wp_ret ?_
      refine Zt ?_
      refine Z5 ?_
      refine Zt ?_
      refine Zt ?_
      refine Z5 ?_
      refine Zt ?_
      refine Zt ?_
      obtain rfl:=Option.some.inj H1
      obtain rfl:=Option.some.inj H0
      obtain ⟨u0,hu0,hq0⟩:=Zbo (P:=Tryz.prog) Zb7 (hst.at 0 rfl)
      exact Zev rfl hst hb hu0 (Zi (s:=5)) (Zdc hq0 (hst.at 1 rfl))
     ·replace H1:=Z0 hc13 H1
      refine wp_skip ?_
      refine Zo ?_
      obtain ⟨r14,h15,H1⟩:=Zc H1
      refine r_a [5,90,25,35,45,55,65] (L:=[(4,_),(6,_),(8,_),(10,_),(26,_),(27,_),(28,_)]) (hst.pick [0,1,2,3,4,5,6] rfl) hb Za
       (AM Zb7 15 rfl<|Af Ztg 35 rfl<|Al ty_9 0 rfl<|Af Z05 35 rfl<|Al Zbr 0 rfl<|a_p [40,20,0] rfl (Zr Zbdz (Zqw _ _ _ h15) rfl rfl (.cons u_0 (.cons u_1 (.cons u_2 .nil))))<|Am 0 rfl<|a_p [0] rfl (Zba rfl rfl u_0 rfl)<|a_p [10] rfl (Zba rfl rfl u_0 rfl)<|a_p [10,15] rfl (Zbg Zb7 rfl rfl u_1 u_0)<|a_n) (fun a g hst hb=>?_)
      obtain ⟨r16,h17,H1⟩:=Zc H1
      refine r_b [5,15,90,45,55,65] (L:=[(4,_),(6,_),(8,_),(10,_),(26,_),(27,_),(28,_)]) hst hb Za
       (AM Zmk 25 rfl<|Af Ztg 35 rfl<|Al ty_9 0 rfl<|Af Z05 35 rfl<|Al Zbr 0 rfl<|a_p [40,20,0] rfl (Zr Zbjg (Zr0 _ _ _ h17) rfl rfl (.cons u_0 (.cons u_1 (.cons u_2 .nil))))<|Am 0 rfl<|a_p [0] rfl (Zba rfl rfl u_0 rfl)<|a_p [10] rfl (Zba rfl rfl u_0 rfl)<|a_p [10,25] rfl (Zbg Zmk rfl rfl u_1 u_0)<|a_n) (fun a g hst hb=>?_)
      refine Zbn ?_
      refine Zo ?_
      refine r_b [5,15,25,35,45,10] (L:=[(4,_),(6,_),(8,_),(26,_),(27,_),(28,_)]) hst hb Za
       (a_p [55] rfl (Zcf rfl rfl u_0 c_i rfl)<|Am 0 rfl<|a_n) (fun a g hst hb=>?_)
      exact ⟨n,Nat.lt_succ_self _,x4,r14.1,r16.1,(IntKind.i64.wrap (x7 + (1:Int))),g,rfl,(hst.pick [0,1,2,3,4,5] rfl),hb,H1⟩
    ·replace H1:=Z0 hc8 H1
     refine wp_exit ?_
     refine Zb0 ?_
     refine Zb0 ?_
     refine Zcj ?_
     exact ⟨x4,x5,x6,g,rfl,(hst.pick [0,1,2] rfl),hb,Option.some.inj H1⟩
theorem Zv6 (a0:Zs) {r:Int} (h:Zk6 a0=some r):FnOk Tryz.prog 46 [(Zy.pd a0)] (pInt .i64 r):=by
 have H0:=h
 unfold Zk6 at H0
 clear h
 refine Zb4 (N:=19) Tryz.func46 rfl rfl (Qe rfl) rfl rfl (fun a g0 hst hb=>?_)
 refine r_a [0] (L:=[(0,_)]) hst hb Za
  (a_p [5] rfl (Zbq rfl rfl u_0)<|a_p [] rfl (Zd rfl rfl c_i)<|a_n) (fun a g hst hb=>?_)
 refine wp_seq ?_
 obtain ⟨r1,h2,H0⟩:=Zc H0
 refine r_a [150] (L:=[(1,_)]) hst hb Za
  (Af Zmx 5 rfl<|Al ty_9 0 rfl<|a_p [0] rfl (Zhf Tryz.underlying9 rfl rfl u_0)<|a_p [0] rfl (Zcu rfl rfl u_0 c_i)<|Am 0 rfl<|a_g [0,5] (Qg_f rfl (fun hG=>Zl Zi8 rfl rfl u_0))<|a_g [10,0] (Qg_f rfl (fun hG=>Z2 ty_9 rfl rfl (Opd.gd hG u_0)))<|a_g [20,0] (Qg_f rfl (fun hG=>Zhf Tryz.underlying9 rfl rfl (Opd.gd hG u_0)))<|a_g [30,0] (Qg_f rfl (fun hG=>Zcu rfl rfl (Opd.gd hG u_0) c_i))<|a_p [40,0] rfl (Zb2 rfl rfl u_0 (fun hz=>(Opd.gd (bNF hz) u_1)))<|Am 0 rfl<|a_g [0,5] (Qg_f rfl (fun hG=>Zl Zmy rfl rfl u_0))<|a_g [10,0] (Qg_f rfl (fun hG=>Z2 Zbr rfl rfl (Opd.gd hG u_0)))<|a_g [20,0] (Qg_f rfl (fun hG=>Zr Zbd1 (Zqu _ (Zcb h2 hG)) rfl rfl (.cons (Opd.gd hG u_0) .nil)))<|a_g [30,0] (Qg_f rfl (fun hG=>Zcu rfl rfl (Opd.gd hG u_0) c_i))<|a_p [40,0] rfl (Zb2 rfl rfl u_0 (fun hz=>(Opd.gd (bNF hz) u_1)))<|a_n) (fun a g hst hb=>?_)
 refine wp_cond_split (hst.bool 0 rfl) (fun hc3=>?_) (fun hc3=>?_)
 ·replace H0:=Z1 hc3 H0
  refine r_a [0] (L:=[]) (hst.pick [] rfl) hb Za
   (a_p [] rfl (Zd rfl rfl c_i)<|a_n) (fun a g hst hb=>?_)
  refine wp_ret ?_
  refine Zt ?_
  obtain rfl:=Option.some.inj H0
  exact Z8 rfl hst hb (Zi (s:=2)) (hst.at 0 rfl)
 ·replace H0:=Z0 hc3 H0
  refine wp_skip ?_
  refine Zo ?_
  refine r_a [0] (L:=[]) (hst.pick [] rfl) hb Za
   (a_p [] rfl (Zd rfl rfl c_i)<|a_n) (fun a g hst hb=>?_)
  refine wp_ret ?_
  obtain rfl:=Option.some.inj H0
  exact Z8 rfl hst hb (Zi (s:=2)) (hst.at 0 rfl)
theorem Zu6 (a0:Zu) {r:Int} (h:Zky a0=some r):FnOk Tryz.prog 20 [(Zbb.pd a0)] (pInt .i64 r):=by
 have H0:=h
 unfold Zky at H0
 clear h
 refine Zb4 (N:=20) Tryz.func20 rfl rfl (Qe rfl) rfl rfl (fun a g0 hst hb=>?_)
 refine r_a [0] (L:=[(0,_)]) hst hb Za
  (a_p [5] rfl (Zbq rfl rfl u_0)<|a_p [] rfl (Zd rfl rfl c_i)<|a_n) (fun a g hst hb=>?_)
 refine wp_seq ?_
 refine r_a [5,30] (L:=[(1,_)]) hst hb Za
  (Af Zid 5 rfl<|Al Znd 0 rfl<|a_p [0] rfl (Zbx Tryz.underlying51 rfl rfl u_0)<|a_p [0] rfl (Zcu rfl rfl u_0 c_i)<|a_n) (fun a g hst hb=>?_)
 refine wp_cond_split (hst.bool 1 rfl) (fun hc1=>?_) (fun hc1=>?_)
 ·replace H0:=Z1 hc1 H0
  refine r_a [0] (L:=[]) (hst.pick [] rfl) hb Za
   (a_p [] rfl (Zd rfl rfl c_i)<|a_n) (fun a g hst hb=>?_)
  refine wp_ret ?_
  refine Zt ?_
  obtain rfl:=Option.some.inj H0
  exact Z8 rfl hst hb (Zi (s:=2)) (hst.at 0 rfl)
 ·replace H0:=Z0 hc1 H0
  refine wp_skip ?_
  refine Zo ?_
  refine wp_seq ?_
  refine r_a [10,20,30] (L:=[(1,_)]) (hst.pick [0] rfl) hb Za
   (Af Zid 5 rfl<|Al Znd 0 rfl<|a_p [0] rfl (Zbx Tryz.underlying51 rfl rfl u_0)<|a_p [] rfl (Z6 rfl rfl c_i)<|a_n) (fun a g hst hb=>?_)
  obtain ⟨z9,hz1,H0⟩:=Zc H0
  refine Zbt (fun a w=>∃ (g:G),w=g.w ∧ St 20 [] a g ∧ Base g0 g ∧ (.inr ())=z9) ?_ ?_
  ·rintro a w ⟨g,rfl,hst,hb,rfl⟩
   refine Zo ?_
   refine r_a [0] (L:=[]) hst hb Za
    (a_p [] rfl (Zd rfl rfl c_i)<|a_n) (fun a g hst hb=>?_)
   refine wp_ret ?_
   obtain rfl:=Option.some.inj H0
   exact Z8 rfl hst hb (Zi (s:=2)) (hst.at 0 rfl)
  ·refine wp_block ?_
   refine wp_loop_ghost (fun n a w=>∃ (x2:Int) (g:G),w=g.w ∧ St 20 [(10,(Zy.sl.pd a0.Acts)),(11,(pInt .i64 (a0.Acts.length:Int))),(12,(pInt .i64 x2))] a g ∧ Base g0 g ∧ Zer a0 n x2=some z9) (Int.toNat ((a0.Acts.length:Int) - (0:Int)) + 1) ⟨(0:Int),g,rfl,(hst.pick [0,1,2] rfl),hb,hz1⟩ (fun n a w hI=>?_)
   obtain ⟨x2,g,rfl,hst,hb,H1⟩:=hI
   cases n with
   | zero=>exact absurd H1 (by simp [Zer])
   | succ n =>
    rw [Zer] at H1
    refine r_a [5,15,25,0] (L:=[(10,_),(11,_),(12,_)]) hst hb Za
     (a_p [25,15] rfl (Zcv rfl rfl u_0 u_1)<|a_n) (fun a g hst hb=>?_)
    refine wp_seq ?_
    refine wp_cond_split (hst.bool 3 rfl) (fun hc3=>?_) (fun hc3=>?_)
    ·replace H1:=Z1 hc3 H1
     refine wp_skip ?_
     refine Zo ?_
     refine wp_seq ?_
     refine wp_block ?_
     obtain ⟨e4,h5,H1⟩:=Zc H1
     refine r_a [30,5,15,25] (L:=[(10,_),(11,_),(12,_)]) (hst.pick [0,1,2] rfl) hb Za
      (a_p [5,25] rfl (Zbw Tryz.underlying51 Zsj rfl rfl u_0 u_1 h5)<|Al Zhh 0 rfl<|a_p (outs:=[(4,(pBox Zy 4 (default:Zs)))]) (S:=[5]) [] rfl (Zbl (zs:=[.int .i64 0,.string ByteArray.empty,.int .i64 0,.float .f64 0,.string ByteArray.empty,.int .i64 0,.int .i64 0,.int .i64 0,.int .i64 0,.float .f64 0,.int .i64 0,.string ByteArray.empty,.slice none 0 0,.bool false]) (by kernel_rfl) (fun g=>Zn3 g) rfl rfl)<|a_p [10,0] rfl (Zch Zhh rfl rfl u_1 u_0)<|a_n) (fun a g hst hb=>?_)
     obtain ⟨r6,h7,H1⟩:=Zc H1
     refine r_a [15,25,35,20] (L:=[(4,_),(10,_),(11,_),(12,_)]) hst hb Za
      (Al Zhh 5 rfl<|a_p [0] rfl (Zr Zbi1 (Zv6 _ h7) rfl rfl (.cons u_0 .nil))<|a_p [0] rfl (Zcu rfl rfl u_0 c_i)<|a_n) (fun a g hst hb=>?_)
     refine wp_cond_split (hst.bool 3 rfl) (fun hc8=>?_) (fun hc8=>?_)
     ·replace H1:=Z1 hc8 H1
      refine r_a [0] (L:=[]) (hst.pick [] rfl) hb Za
       (a_p [] rfl (Zd rfl rfl c_i)<|a_n) (fun a g hst hb=>?_)
      refine wp_ret ?_
      refine Z5 ?_
      refine Zt ?_
      refine Zt ?_
      refine Z5 ?_
      refine Zt ?_
      refine Zt ?_
      obtain rfl:=Option.some.inj H1
      obtain rfl:=Option.some.inj H0
      exact Z8 rfl hst hb (Zi (s:=2)) (hst.at 0 rfl)
     ·replace H1:=Z0 hc8 H1
      refine wp_skip ?_
      refine Zbn ?_
      refine Zo ?_
      refine r_b [5,15,10] (L:=[(10,_),(11,_),(12,_)]) (hst.pick [0,1,2] rfl) hb Za
       (a_p [25] rfl (Zcf rfl rfl u_0 c_i rfl)<|Am 0 rfl<|a_n) (fun a g hst hb=>?_)
      exact ⟨n,Nat.lt_succ_self _,(IntKind.i64.wrap (x2 + (1:Int))),g,rfl,(hst.pick [0,1,2] rfl),hb,H1⟩
    ·replace H1:=Z0 hc3 H1
     refine wp_exit ?_
     refine Zb0 ?_
     refine Zb0 ?_
     refine Zcj ?_
     exact ⟨g,rfl,(hst.pick [] rfl),hb,Option.some.inj H1⟩
theorem Zv2 (a0:List Zu) {r:Int} (h:Zku a0=some r):FnOk Tryz.prog 7 [(Zbb.sl.pd a0)] (pInt .i64 r):=by
 have H0:=h
 unfold Zku at H0
 clear h
 refine Zb4 (N:=18) Tryz.func7 rfl rfl (Qe rfl) rfl rfl (fun a g0 hst hb=>?_)
 refine r_a [5] (L:=[(0,_)]) hst hb Za
  (a_p [] rfl (Zd rfl rfl c_i)<|a_n) (fun a g hst hb=>?_)
 refine wp_seq ?_
 refine r_a [5,20] (L:=[(0,_)]) hst hb Za
  (Am 5 rfl<|a_p [0] rfl (Zbx Tryz.underlying23 rfl rfl u_0)<|a_p [0] rfl (Zcu rfl rfl u_0 c_i)<|a_n) (fun a g hst hb=>?_)
 refine wp_cond_split (hst.bool 1 rfl) (fun hc1=>?_) (fun hc1=>?_)
 ·replace H0:=Z1 hc1 H0
  refine r_a [0] (L:=[]) (hst.pick [] rfl) hb Za
   (a_p [] rfl (Zd rfl rfl c_i)<|a_n) (fun a g hst hb=>?_)
  refine wp_ret ?_
  refine Zt ?_
  obtain rfl:=Option.some.inj H0
  exact Z8 rfl hst hb (Zi (s:=2)) (hst.at 0 rfl)
 ·replace H0:=Z0 hc1 H0
  refine wp_skip ?_
  refine Zo ?_
  refine wp_seq ?_
  refine r_a [0,10,20] (L:=[(0,_)]) (hst.pick [0] rfl) hb Za
   (Am 5 rfl<|a_p [0] rfl (Zbx Tryz.underlying23 rfl rfl u_0)<|a_p [] rfl (Z6 rfl rfl c_i)<|a_n) (fun a g hst hb=>?_)
  obtain ⟨z9,hz1,H0⟩:=Zc H0
  refine Zbt (fun a w=>∃ (g:G),w=g.w ∧ St 18 [] a g ∧ Base g0 g ∧ (.inr ())=z9) ?_ ?_
  ·rintro a w ⟨g,rfl,hst,hb,rfl⟩
   refine Zo ?_
   refine r_a [0] (L:=[]) hst hb Za
    (a_p [] rfl (Zd rfl rfl c_i)<|a_n) (fun a g hst hb=>?_)
   refine wp_ret ?_
   obtain rfl:=Option.some.inj H0
   exact Z8 rfl hst hb (Zi (s:=2)) (hst.at 0 rfl)
  ·refine wp_block ?_
   refine wp_loop_ghost (fun n a w=>∃ (x2:Int) (g:G),w=g.w ∧ St 18 [(8,(Zbb.sl.pd a0)),(9,(pInt .i64 (a0.length:Int))),(10,(pInt .i64 x2))] a g ∧ Base g0 g ∧ Zeu a0 n x2=some z9) (Int.toNat ((a0.length:Int) - (0:Int)) + 1) ⟨(0:Int),g,rfl,(hst.pick [0,1,2] rfl),hb,hz1⟩ (fun n a w hI=>?_)
   obtain ⟨x2,g,rfl,hst,hb,H1⟩:=hI
   cases n with
   | zero=>exact absurd H1 (by simp [Zeu])
   | succ n =>
    rw [Zeu] at H1
    refine r_a [5,15,25,0] (L:=[(8,_),(9,_),(10,_)]) hst hb Za
     (a_p [25,15] rfl (Zcv rfl rfl u_0 u_1)<|a_n) (fun a g hst hb=>?_)
    refine wp_seq ?_
    refine wp_cond_split (hst.bool 3 rfl) (fun hc3=>?_) (fun hc3=>?_)
    ·replace H1:=Z1 hc3 H1
     refine wp_skip ?_
     refine Zo ?_
     refine wp_seq ?_
     refine wp_block ?_
     obtain ⟨e4,h5,H1⟩:=Zc H1
     refine r_a [30,5,15,25] (L:=[(8,_),(9,_),(10,_)]) (hst.pick [0,1,2] rfl) hb Za
      (a_p [5,25] rfl (Zbw Tryz.underlying23 Zon rfl rfl u_0 u_1 h5)<|Al Zgx 0 rfl<|a_p (outs:=[(4,(pBox Zbb 4 (default:Zu)))]) (S:=[5]) [] rfl (Zbl (zs:=[.slice none 0 0]) (by kernel_rfl) (fun g=>Zju g) rfl rfl)<|a_p [10,0] rfl (Zch Zgx rfl rfl u_1 u_0)<|a_n) (fun a g hst hb=>?_)
     obtain ⟨r6,h7,H1⟩:=Zc H1
     refine r_a [15,25,35,20] (L:=[(4,_),(8,_),(9,_),(10,_)]) hst hb Za
      (Al Zgx 5 rfl<|a_p [0] rfl (Zr Zbjb (Zu6 _ h7) rfl rfl (.cons u_0 .nil))<|a_p [0] rfl (Zcu rfl rfl u_0 c_i)<|a_n) (fun a g hst hb=>?_)
     refine wp_cond_split (hst.bool 3 rfl) (fun hc8=>?_) (fun hc8=>?_)
     ·replace H1:=Z1 hc8 H1
      refine r_a [0] (L:=[]) (hst.pick [] rfl) hb Za
       (a_p [] rfl (Zd rfl rfl c_i)<|a_n) (fun a g hst hb=>?_)
      refine wp_ret ?_
      refine Z5 ?_
      refine Zt ?_
      refine Zt ?_
      refine Z5 ?_
      refine Zt ?_
      refine Zt ?_
      obtain rfl:=Option.some.inj H1
      obtain rfl:=Option.some.inj H0
      exact Z8 rfl hst hb (Zi (s:=2)) (hst.at 0 rfl)
     ·replace H1:=Z0 hc8 H1
      refine wp_skip ?_
      refine Zbn ?_
      refine Zo ?_
      refine r_b [5,15,10] (L:=[(8,_),(9,_),(10,_)]) (hst.pick [0,1,2] rfl) hb Za
       (a_p [25] rfl (Zcf rfl rfl u_0 c_i rfl)<|Am 0 rfl<|a_n) (fun a g hst hb=>?_)
      exact ⟨n,Nat.lt_succ_self _,(IntKind.i64.wrap (x2 + (1:Int))),g,rfl,(hst.pick [0,1,2] rfl),hb,H1⟩
    ·replace H1:=Z0 hc3 H1
     refine wp_exit ?_
     refine Zb0 ?_
     refine Zb0 ?_
     refine Zcj ?_
     exact ⟨g,rfl,(hst.pick [] rfl),hb,Option.some.inj H1⟩
theorem Zo0 (a0:List Zu):FnOk Tryz.prog 21 [(Zbb.sl.pd a0)] (Z85 Zbb a0):=by
 refine Zb4 (N:=9) Tryz.func21 rfl rfl (Qe rfl) rfl rfl (fun a g0 hst hb=>?_)
 refine r_s (T:=[⟨[],[(2,(Zbb.sl.pd []))],[],[],[2]⟩]) (F:=[.o 0]) hst hb Za
  (o_p rfl (Zd rfl rfl (Opd.c (fun g=>Zg7 g)))<|o_n) (fun a g hst hb=>?_)
 refine r_s (T:=[⟨[.o 0],_,[],[],[3]⟩,⟨[.o 0],_,[],[],[4]⟩,⟨[.p 1 0],_,[],[1],[5]⟩,⟨[.o 0],_,[],[],[6]⟩,⟨[.p 3 0],_,[],[3],[7]⟩,⟨[.p 0 0,.p 2 0,.p 4 0],_,[],[0,1,2,3,4],[8]⟩,⟨[.p 5 0],_,[],[0,1,2,3,4,5],[2]⟩]) (F:=[.p 6 0]) hst hb Za
  (Qm rfl u_0<|Qm rfl u_0<|o_p rfl (Zbx Tryz.underlying23 rfl rfl u_0)<|Qm rfl u_0<|o_p rfl (Zbx Tryz.underlying23 rfl rfl u_0)<|o_p rfl (Zbfe rfl Tryz.underlying23 Zon rfl rfl u_0 u_1 u_2)<|Qa rfl u_0<|o_n) (fun a g hst hb=>?_)
 refine wp_ret ?_
 exact Z8 rfl hst hb (Zi (s:=2)) (hst.at 0 rfl)
theorem Zoh (a0:(List Zs)) {r:(List Zs)} (h:Zgp a0=some r):Zwh Tryz.prog 47 [(Zy.sl.pd a0)] Zy 90 r:=by
 unfold Zgp at h
 obtain ⟨hsz,H0⟩:=Ze0 h
 obtain rfl:=Option.some.inj H0
 refine Zzo (N:=8) Tryz.func47 rfl rfl (Qe rfl) rfl (fun a g0 h0 hst hb=>?_)
 refine r_s (T:=[⟨[],[(2,(Zy.sl.pd []))],[],[],[2]⟩]) (F:=[.o 0]) hst hb Za
  (o_p rfl (Zd rfl rfl (Opd.c (fun g=>Zg7 g)))<|o_n) (fun a g hst hb=>?_)
 refine wp_seq ?_
 refine r_s (T:=[⟨[.o 0],_,[],[],[3]⟩,⟨[.p 0 0],_,[],[0],[4]⟩]) (F:=[.o 0,.p 1 0]) hst hb Za
  (Qm rfl u_0<|o_p rfl (Z0c Tryz.underlying51 rfl rfl u_0)<|o_n) (fun a g hst hb=>?_)
 obtain ⟨c,hc,hc'⟩:=hst.at 1 rfl
 refine wp_cond_split hc (fun ht=>?_) (fun hf=>?_)
 ·obtain rfl:=hc' ht
  refine r_s (L:=[]) (T:=[⟨[],[(2,(pEq (.slice none 0 0)))],[],[],[2]⟩]) (F:=[.p 0 0]) (hst.pick [] rfl) hb Za
   (o_p rfl (Zd rfl rfl (Opd.c (fun g=>rfl)))<|o_n) (fun a g hst hb=>?_)
  refine wp_ret ?_
  refine Zt ?_
  exact Zxh rfl hst hb (Zi (s:=2)) ⟨none,hst.at 0 rfl⟩
 ·refine wp_skip ?_
  refine Zo ?_
  refine r_s (L:=[(0,_)]) (T:=[⟨[],[(5,(pOwn Zy 90 5 (some 0) (([]:(List Zs)).map some)))],[6],[],[5]⟩,⟨[.o 0],_,[],[],[6]⟩,⟨[.p 0 0,.p 1 0],_,[6],[0,1],[5,7]⟩,⟨[.p 2 0],_,[],[0,1,2],[2]⟩]) (F:=[.p 3 0]) (hst.pick [0] rfl) hb Za
   (o_p rfl (Z1u (ty:=0) Z20 rfl rfl)<|Qm rfl u_0<|o_p rfl (Zty Z20 rfl rfl u_0 u_1 (by simpa using hsz))<|Qa rfl u_0<|o_n) (fun a g hst hb=>?_)
  refine wp_ret ?_
  exact Z5v rfl h0 hst hb (Zi (s:=2)) (hst.at 0 rfl)
theorem Zuk (a0:Zu) {r:Zu} (h:Zn5 a0=some r):FnOk Tryz.prog 22 [(Zbb.pd a0)] (Zbb.pd r):=by
 unfold Zn5 at h
 obtain ⟨⟨hsz,hall⟩,H0⟩:=Ze0 h
 obtain rfl:=Option.some.inj H0
 have hcl:Zgp a0.Acts=some a0.Acts:=by unfold Zgp;rw [if_pos hsz]
 have hrc:∀ e ∈ a0.Acts,Zf0 e.Make=some e.Make:=fun e he=>by
  have:=List.all_eq_true.1 hall e he
  unfold Zf0 Zb9
  rw [if_pos (of_decide_eq_true this)]
  rfl
 have hmx:a0.Acts.length ≤ 140737488355328:=Nat.le_trans (Nat.le_mul_of_pos_right _ (by decide)) hsz
 refine Zb4 (N:=28) Tryz.func22 rfl rfl (Qe rfl) rfl rfl (fun a g0 hst hb=>?_)
 refine r_s (T:=[⟨[.o 0],[(1,(pBox Zbb 1 a0))],[2],[],[1]⟩,⟨[],[(2,(pBox Zbb 2 (default:Zu)))],[3],[],[2]⟩]) (F:=[.p 0 0,.p 1 0]) hst hb Za
  (o_p rfl (Zrp (j:=1) rfl rfl u_0)<|o_p rfl (Zbl (zs:=[.slice none 0 0]) (by kernel_rfl) (fun g=>Zju g) rfl rfl)<|o_n) (fun a g hst hb=>?_)
 refine r_s (T:=[⟨[.o 0],_,[],[],[4]⟩,⟨[.p 0 0],_,[],[0],[5]⟩,⟨[.p 1 0],[(6,(pArr Zy 90 6 a0.Acts))],[7],[0,1],[6]⟩,⟨[.o 0],_,[],[0,1,2],[7]⟩,⟨[.o 0,.p 3 0,.p 2 0],[(1,(pBxO Zd1 Zdu (fun x:Zu=>x.Acts) Zy 90 1 6 a0))],[2],[0,1,2,3],[1,4,7]⟩]) (F:=[.p 4 0,.o 1]) hst hb Za
  (o_p rfl (Zbf Zid (off:=0) (by kernel_rfl) rfl rfl u_0)<|QP rfl Znd u_0<|o_p rfl (Zpr (j:=6) Zbjn (Zoh _ hcl) rfl rfl (.cons u_0 .nil))<|o_p rfl (Zbf Zid (off:=0) (by kernel_rfl) rfl rfl u_0)<|o_p rfl (Zbam Z38 Zsv rfl rfl (by decide) u_0 u_1 u_2 (fun g cs s0 s1 ys h k=>Zum h k))<|o_n) (fun a g hst hb=>?_)
 refine wp_seq ?_
 refine r_s (T:=[⟨[.o 0],_,[],[],[8]⟩,⟨[.p 0 0],_,[],[0],[9]⟩,⟨[.p 1 0],_,[],[0,1],[10]⟩,⟨[],_,[],[],[11]⟩]) (F:=[.o 0,.o 1,.p 2 0,.p 3 0]) hst hb Za
  (o_p rfl (Zu8 Zrz (off:=0) (by kernel_rfl) (fun _=>rfl) rfl rfl u_0)<|o_p rfl (Zxs Zsv rfl rfl u_0)<|o_p rfl (Zbgk Tryz.underlying51 rfl rfl u_0)<|Qm rfl c_i<|o_n) (fun a g hst hb=>?_)
 refine Zbt (fun a w=>∃ (g:G),w=g.w ∧ St 28 [(1,(pBxO Zd1 Zdu (fun x:Zu=>x.Acts) Zy 90 1 6 a0)),(2,(pBox Zbb 2 (default:Zu)))] a g ∧ Base g0 g) ?_ ?_
 ·rintro a w ⟨g,rfl,hst,hb⟩
  refine Zo ?_
  refine r_s (T:=[⟨[.o 0],[(27,(Zbb.pd a0))],[7],[],[27,1]⟩,⟨[.o 1,.p 0 0],_,[3],[0],[2]⟩]) (F:=[.p 1 0]) hst hb Za
   (o_p rfl (Z6t Z4c rfl Zbhb rfl rfl u_0)<|o_p rfl (Zbg Zgx rfl rfl u_0 u_1)<|o_n) (fun a g hst hb=>?_)
  refine wp_ret ?_
  obtain ⟨u0,hu0,hq0⟩:=Zbo (P:=Tryz.prog) Zgx (hst.at 0 rfl)
  exact Z8 rfl hst hb hu0 hq0
 ·refine wp_block ?_
  refine wp_loop_ghost (fun n a w=>∃ (i:Nat) (g:G),w=g.w ∧ St 28 [(1,(pBxO Zd1 Zdu (fun x:Zu=>x.Acts) Zy 90 1 6 a0)),(2,(pBox Zbb 2 (default:Zu))),(10,(pInt .i64 (a0.Acts.length:Int))),(11,(pInt .i64 (i:Int)))] a g ∧ Base g0 g ∧ i ≤ a0.Acts.length ∧ n=a0.Acts.length - i) a0.Acts.length ⟨0,g,rfl,hst,hb,Nat.zero_le _,rfl⟩ (fun n a w hI=>?_)
  obtain ⟨i,g,rfl,hst,hb,hi,rfl⟩:=hI
  refine r_s (T:=[⟨[.o 3,.o 2],_,[],[],[12]⟩]) (F:=[.o 0,.o 1,.o 2,.o 3,.p 0 0]) hst hb Za
   (o_p rfl (Zcv rfl rfl u_0 u_1)<|o_n) (fun a g hst hb=>?_)
  refine wp_seq ?_
  refine wp_cond_split (hst.bool 4 rfl) (fun hc=>?_) (fun hc=>?_)
  ·have hlt:i < a0.Acts.length:=by have:=of_decide_eq_true hc;omega
   have hx:idx a0.Acts (i:Int)=some a0.Acts[i]:=Zbf9 (List.getElem?_eq_getElem hlt)
   refine wp_skip ?_
   refine Zo ?_
   refine wp_seq ?_
   refine wp_block ?_
   refine r_s (L:=[(1,_),(2,_),(10,_),(11,_)]) (T:=[⟨[.o 3],_,[],[],[13]⟩,⟨[.p 0 0],_,[],[0],[3]⟩]) (F:=[.o 0,.o 1,.p 1 0,.o 2,.o 3]) (hst.pick [0,1,2,3] rfl) hb Za
    (Qm rfl u_0<|Qa rfl u_0<|o_n) (fun a g hst hb=>?_)
   refine r_g (T:=[⟨[.o 0],_,[],[],[14]⟩,⟨[.p 0 0],_,[],[0],[15]⟩,⟨[.o 2],_,[],[],[16]⟩,⟨[.o 0],_,[],[],[17]⟩,⟨[.p 3 0],_,[],[3],[18]⟩,⟨[.o 2],_,[],[],[19]⟩,⟨[.p 4 0,.p 5 0],_,[],[3,4,5],[20]⟩,⟨[.p 6 0],_,[],[3,4,5,6],[21]⟩,⟨[.p 7 0],_,[],[3,4,5,6,7],[22]⟩,⟨[.p 8 0],_,[],[3,4,5,6,7,8],[23]⟩,⟨[.p 1 0,.p 2 0],_,[],[0,1,2,3,4,5,6,7,8,9],[24]⟩,⟨[.p 10 0],_,[],[0,1,2,3,4,5,6,7,8,9,10],[25]⟩,⟨[.o 0,.p 11 0,.p 9 0],[(1,(pBxO Zd1 Zdu (fun x:Zu=>x.Acts) Zy 90 1 6 a0))],[7],[0,1,2,3,4,5,6,7,8,9,10,11],[1,14,15,17,18,20,21,24,25]⟩]) (F:=[.p 12 0,.o 1,.o 3,.o 4]) hst hb Za
    (o_p rfl (Zu8 Zrz (off:=0) (by kernel_rfl) (fun _=>rfl) rfl rfl u_0)<|o_p rfl (Zxs Zsv rfl rfl u_0)<|Qm rfl u_0<|o_p rfl (Zu8 Zrz (off:=0) (by kernel_rfl) (fun _=>rfl) rfl rfl u_0)<|o_p rfl (Zxs Zsv rfl rfl u_0)<|Qm rfl u_0<|o_p rfl (Z1o Tryz.underlying51 Zsj rfl rfl u_0 u_1 hx)<|o_p rfl (Zy4 Zmy (off2:=5) (by kernel_rfl) (by decide) rfl rfl u_0)<|o_p rfl (Zba6 Zbr rfl rfl u_0)<|o_p rfl (Zr Zrd (Zhv _ (hrc _ (List.getElem_mem hlt))) rfl rfl (.cons u_0 .nil))<|o_p rfl (Z1o Tryz.underlying51 Zsj rfl rfl u_0 u_1 hx)<|o_p rfl (Zy4 Zmy (off2:=5) (by kernel_rfl) (by decide) rfl rfl u_0)<|o_p rfl (Z6l (u:=a0.Acts[i]) (u':=a0.Acts[i]) (x':=a0) Zbr rfl rfl (by decide) u_0 u_1 u_2 (Zbfy hx) (by decide) (by rw [Int.toNat_natCast];exact (List.set_getElem_self hlt).symm) (fun _=>rfl) (Z2l _))<|o_n) (fun a g hst hb=>?_)
   refine Zbn ?_
   refine Zo ?_
   refine r_g (T:=[⟨[.o 3],_,[],[],[26]⟩,⟨[.p 0 0],_,[],[0],[11]⟩]) (F:=[.o 0,.o 1,.o 2,.p 1 0]) hst hb Za
    (o_p rfl (Zcf rfl rfl u_0 c_i (Z96 hlt (by omega)))<|Qm rfl u_0<|o_n) (fun a g hst hb=>?_)
   exact ⟨a0.Acts.length - (i + 1),by omega,i + 1,g,rfl,hst,hb,by omega,rfl⟩
  ·refine wp_exit ?_
   refine Zb0 ?_
   refine Zb0 ?_
   refine Zcj ?_
   exact ⟨g,rfl,hst.pick [0,1] rfl,hb⟩
theorem Z9c (a0:Int) (a1:List Zu) {r:Zbk × (List Zu)} (h:Zte a0 a1=some r):FnOk Tryz.prog 8 [(pInt .i64 a0),(Zbb.sl.pd a1)] (pTup [(Zcs.pd r.1),(Zbb.sl.pd r.2)]):=by
 have H0:=h
 unfold Zte at H0
 clear h
 refine Zb4 (N:=59) Tryz.func8 rfl rfl (Qe rfl) rfl rfl (fun a g0 hst hb=>?_)
 refine r_a [5,15,0] (L:=[(0,_),(1,_)]) hst hb Za
  (a_p (outs:=[(4,(pBox Zcs 4 (default:Zbk)))]) (S:=[5]) [] rfl (Zbl (zs:=[.int .i64 0,.slice none 0 0]) (by kernel_rfl) (fun g=>Zps g) rfl rfl)<|a_p (outs:=[(5,(Zbb.sl.pd ([]:List Zu)))]) (S:=[]) [] rfl (Zd rfl rfl (Opd.c (fun g=>Zg7 g)))<|a_n) (fun a g hst hb=>?_)
 refine r_a [5,15,25,30] (L:=[(0,_),(1,_),(4,_)]) hst hb Za
  (Am 5 rfl<|a_p [0] rfl (Z0s rfl rfl u_0)<|a_p (outs:=[(6,(pBox Zcs 6 (default:Zbk)))]) (S:=[7]) [] rfl (Zbl (zs:=[.int .i64 0,.slice none 0 0]) (by kernel_rfl) (fun g=>Zps g) rfl rfl)<|a_p [10,0] rfl (Zbg Zi7 rfl rfl u_1 u_0)<|a_n) (fun a g hst hb=>?_)
 refine wp_seq ?_
 refine r_a [5,15,25,35,0,10,20] (L:=[(0,_),(1,_),(4,_),(6,_)]) hst hb Za
  (Am 15 rfl<|a_p [0] rfl (Zbx Tryz.underlying23 rfl rfl u_0)<|a_p [] rfl (Z6 rfl rfl c_i)<|a_n) (fun a g hst hb=>?_)
 obtain ⟨z14,hz1,H0⟩:=Zc H0
 refine Zbt (fun a w=>∃ (y13:Zbk) (g:G),w=g.w ∧ St 59 [(1,(Zbb.sl.pd a1)),(4,(pBox Zcs 4 (default:Zbk))),(6,(pBox Zcs 6 y13))] a g ∧ Base g0 g ∧ y13=z14) ?_ ?_
 ·rintro a w ⟨y13,g,rfl,hst,hb,rfl⟩
  refine Zo ?_
  refine r_a [5,15,25,0] (L:=[(1,_),(4,_),(6,_)]) hst hb Za
   (a_p (outs:=[(12,(pRow Zbb 53 12 ([]:List Zu)))]) (S:=[]) [] rfl (Zd rfl rfl (Opd.c (fun g=>Zmm 12 g)))<|a_n) (fun a g hst hb=>?_)
  refine wp_seq ?_
  obtain ⟨c15,h16,H0⟩:=Zc H0
  refine r_a [15,25,35,40,50,60] (L:=[(1,_),(4,_),(6,_),(12,_)]) hst hb Za
   (Am 5 rfl<|a_p [25] rfl (Zbf Zii (off:=1) (by kernel_rfl) rfl rfl u_0)<|AP Zml 0 rfl<|a_p [0] rfl (Zbx Tryz.underlying23 rfl rfl u_0)<|a_p [30,0] rfl (Z7l Tryz.underlying23 Zon rfl rfl u_0 u_1 h16)<|a_p [0] rfl (Zbx Tryz.underlying23 rfl rfl u_0)<|a_p [] rfl (Z6 rfl rfl c_i)<|a_n) (fun a g hst hb=>?_)
  obtain ⟨z26,hz2,H0⟩:=Zc H0
  refine Zbt (fun a w=>∃ (y25:List Zu) (g:G),w=g.w ∧ St 59 [(4,(pBox Zcs 4 (default:Zbk))),(6,(pBox Zcs 6 y13)),(12,(pRow Zbb 53 12 y25))] a g ∧ Base g0 g ∧ y25=z26) ?_ ?_
  ·rintro a w ⟨y25,g,rfl,hst,hb,rfl⟩
   refine Zo ?_
   refine r_a [20,30] (L:=[(4,_),(6,_),(12,_)]) hst hb Za
    (AM Zi7 15 rfl<|Am 25 rfl<|a_p [10,5] rfl (Zbg Zi7 rfl rfl u_1 u_0)<|Aa 10 rfl<|a_n) (fun a g hst hb=>?_)
   refine wp_ret ?_
   obtain rfl:=Option.some.inj H0
   obtain ⟨u0,hu0,hq0⟩:=Zbo (P:=Tryz.prog) Zi7 (hst.at 0 rfl)
   exact Zev rfl hst hb hu0 (Zi (s:=5)) (Zdc hq0 (Zne (hst.at 1 rfl)))
  ·refine wp_block ?_
   refine wp_loop_ghost (fun n a w=>∃ (x17:List Zu) (x18:Int) (g:G),w=g.w ∧ St 59 [(4,(pBox Zcs 4 (default:Zbk))),(6,(pBox Zcs 6 y13)),(12,(pRow Zbb 53 12 x17)),(45,(Zbb.sl.pd c15)),(46,(pInt .i64 (c15.length:Int))),(47,(pInt .i64 x18))] a g ∧ Base g0 g ∧ Zkw c15 n x17 x18=some z26) (Int.toNat ((c15.length:Int) - (0:Int)) + 1) ⟨([]:List Zu),(0:Int),g,rfl,(hst.pick [0,1,2,3,4,5] rfl),hb,hz2⟩ (fun n a w hI=>?_)
   obtain ⟨x17,x18,g,rfl,hst,hb,H1⟩:=hI
   cases n with
   | zero=>exact absurd H1 (by simp [Zkw])
   | succ n =>
    rw [Zkw] at H1
    refine r_a [5,15,25,35,45,55,0] (L:=[(4,_),(6,_),(12,_),(45,_),(46,_),(47,_)]) hst hb Za
     (a_p [55,45] rfl (Zcv rfl rfl u_0 u_1)<|a_n) (fun a g hst hb=>?_)
    refine wp_seq ?_
    refine wp_cond_split (hst.bool 6 rfl) (fun hc19=>?_) (fun hc19=>?_)
    ·replace H1:=Z1 hc19 H1
     refine wp_skip ?_
     refine Zo ?_
     refine wp_seq ?_
     refine wp_block ?_
     obtain ⟨e20,h21,H1⟩:=Zc H1
     refine r_a [5,15,25,30,35,45,55] (L:=[(4,_),(6,_),(12,_),(45,_),(46,_),(47,_)]) (hst.pick [0,1,2,3,4,5] rfl) hb Za
      (a_p [35,55] rfl (Zbw Tryz.underlying23 Zon rfl rfl u_0 u_1 h21)<|Al Zgx 0 rfl<|a_p (outs:=[(14,(pBox Zbb 14 (default:Zu)))]) (S:=[15]) [] rfl (Zbl (zs:=[.slice none 0 0]) (by kernel_rfl) (fun g=>Zju g) rfl rfl)<|a_p [10,0] rfl (Zch Zgx rfl rfl u_1 u_0)<|a_n) (fun a g hst hb=>?_)
     obtain ⟨r22,h23,H1⟩:=Zc H1;obtain ⟨h24,H1⟩:=Ze0 H1
     refine r_b [5,15,50,45,55,65] (L:=[(4,_),(6,_),(12,_),(14,_),(45,_),(46,_),(47,_)]) hst hb Za
      (Am 25 rfl<|Al Zgx 35 rfl<|a_p [0] rfl (Zr Zbdx (Zuk _ h23) rfl rfl (.cons u_0 .nil))<|a_p [0] rfl (Zjd Zwr (xs:=[.tmp 53]) (.cons u_0 .nil) (by decide) rfl rfl)<|a_p [30,0] rfl (Zfc Zwr rfl rfl u_0 u_1 h24)<|Aa 0 rfl<|a_n) (fun a g hst hb=>?_)
     refine Zbn ?_
     refine Zo ?_
     refine r_b [5,15,25,35,45,10] (L:=[(4,_),(6,_),(12,_),(45,_),(46,_),(47,_)]) hst hb Za
      (a_p [55] rfl (Zcf rfl rfl u_0 c_i rfl)<|Am 0 rfl<|a_n) (fun a g hst hb=>?_)
     exact ⟨n,Nat.lt_succ_self _,(x17 ++ ([r22]:List Zu)),(IntKind.i64.wrap (x18 + (1:Int))),g,rfl,(hst.pick [0,1,2,3,4,5] rfl),hb,H1⟩
    ·replace H1:=Z0 hc19 H1
     refine wp_exit ?_
     refine Zb0 ?_
     refine Zb0 ?_
     refine Zcj ?_
     exact ⟨x17,g,rfl,(hst.pick [0,1,2] rfl),hb,Option.some.inj H1⟩
 ·refine wp_block ?_
  refine wp_loop_ghost (fun n a w=>∃ (x1:Zbk) (x2:Int) (g:G),w=g.w ∧ St 59 [(0,(pInt .i64 a0)),(1,(Zbb.sl.pd a1)),(4,(pBox Zcs 4 (default:Zbk))),(6,(pBox Zcs 6 x1)),(17,(Zbb.sl.pd a1)),(18,(pInt .i64 (a1.length:Int))),(19,(pInt .i64 x2))] a g ∧ Base g0 g ∧ Zkv a0 a1 n x1 x2=some z14) (Int.toNat ((a1.length:Int) - (0:Int)) + 1) ⟨({ Number:=a0,Deals:=([]:List Zu) }:Zbk),(0:Int),g,rfl,(hst.pick [0,1,2,3,4,5,6] rfl),hb,hz1⟩ (fun n a w hI=>?_)
  obtain ⟨x1,x2,g,rfl,hst,hb,H1⟩:=hI
  cases n with
  | zero=>exact absurd H1 (by simp [Zkv])
  | succ n =>
   rw [Zkv] at H1
   refine r_a [5,15,25,35,45,55,65,0] (L:=[(0,_),(1,_),(4,_),(6,_),(17,_),(18,_),(19,_)]) hst hb Za
    (a_p [65,55] rfl (Zcv rfl rfl u_0 u_1)<|a_n) (fun a g hst hb=>?_)
   refine wp_seq ?_
   refine wp_cond_split (hst.bool 7 rfl) (fun hc3=>?_) (fun hc3=>?_)
   ·replace H1:=Z1 hc3 H1
    refine wp_skip ?_
    refine Zo ?_
    refine wp_seq ?_
    refine wp_block ?_
    obtain ⟨e4,h5,H1⟩:=Zc H1
    refine r_a [5,15,25,35,30,45,55,65] (L:=[(0,_),(1,_),(4,_),(6,_),(17,_),(18,_),(19,_)]) (hst.pick [0,1,2,3,4,5,6] rfl) hb Za
     (a_p [45,65] rfl (Zbw Tryz.underlying23 Zon rfl rfl u_0 u_1 h5)<|Al Zgx 0 rfl<|a_p (outs:=[(8,(pBox Zbb 8 (default:Zu)))]) (S:=[9]) [] rfl (Zbl (zs:=[.slice none 0 0]) (by kernel_rfl) (fun g=>Zju g) rfl rfl)<|a_p [10,0] rfl (Zch Zgx rfl rfl u_1 u_0)<|a_n) (fun a g hst hb=>?_)
    obtain ⟨r6,h7,H1⟩:=Zc H1;obtain ⟨h8,H1⟩:=Ze0 H1;obtain ⟨h9,H1⟩:=Ze0 H1
    refine r_a [5,15,25,35,100,55,65,75] (L:=[(0,_),(1,_),(4,_),(6,_),(8,_),(17,_),(18,_),(19,_)]) hst hb Za
     (Am 5 rfl<|a_p [35] rfl (Zbf Zii (off:=1) (by kernel_rfl) rfl rfl u_0)<|AP Zml 0 rfl<|a_p [0] rfl (Zr Zbkn (Zo0 _) rfl rfl (.cons u_0 .nil))<|Al Zgx 45 rfl<|a_p [0] rfl (Zr Zbdx (Zuk _ h7) rfl rfl (.cons u_0 .nil))<|a_p [0] rfl (Zjd Zwr (xs:=[.tmp 28]) (.cons u_0 .nil) (by decide) rfl rfl)<|a_p [30,0] rfl (Z86 Zwr h8 rfl rfl u_0 u_1 h9)<|a_p [70,0] rfl (Z19 rfl rfl u_0 u_1)<|a_p (outs:=[(9,(pBox Zcs 9 (default:Zbk)))]) (S:=[10]) [] rfl (Zbl (zs:=[.int .i64 0,.slice none 0 0]) (by kernel_rfl) (fun g=>Zps g) rfl rfl)<|a_p [10,0] rfl (Zch Zi7 rfl rfl u_1 u_0)<|a_n) (fun a g hst hb=>?_)
    refine wp_seq ?_
    obtain ⟨r10,h11,H1⟩:=Zc H1
    refine r_a [5,15,25,35,45,50,55,65,75] (L:=[(0,_),(1,_),(4,_),(6,_),(9,_),(17,_),(18,_),(19,_)]) hst hb Za
     (Al Zi7 45 rfl<|a_p [0] rfl (Zr en_4 (Znl _ h11) rfl rfl (.cons u_0 .nil))<|Am 0 rfl<|a_p [0] rfl (Zba rfl rfl u_0 rfl)<|a_p [10] rfl (Zba rfl rfl u_0 rfl)<|Aa 10 rfl<|Aa 10 rfl<|a_n) (fun a g hst hb=>?_)
    refine r_a [5,15,25,35,45,65,75,85,10] (L:=[(0,_),(1,_),(4,_),(6,_),(9,_),(10,_),(17,_),(18,_),(19,_)]) hst hb Za
     (Am 55 rfl<|a_p [0] rfl (Zdd rfl rfl u_0 c_i)<|a_n) (fun a g hst hb=>?_)
    refine wp_cond_split (hst.bool 8 rfl) (fun hc12=>?_) (fun hc12=>?_)
    ·replace H1:=Z1 hc12 H1
     refine wp_exit ?_
     refine Zb0 ?_
     refine Z12 (by decide) ?_
     refine Zb0 ?_
     refine Zb0 ?_
     refine Zcj ?_
     exact ⟨x1,g,rfl,(hst.pick [1,2,3] rfl),hb,Option.some.inj H1⟩
    ·replace H1:=Z0 hc12 H1
     refine wp_skip ?_
     refine Zo ?_
     refine r_b [5,15,25,10,55,65,75] (L:=[(0,_),(1,_),(4,_),(6,_),(9,_),(17,_),(18,_),(19,_)]) (hst.pick [0,1,2,3,4,5,6,7] rfl) hb Za
      (Al Zi7 45 rfl<|a_p [0,35] rfl (Zbg Zi7 rfl rfl u_1 u_0)<|a_n) (fun a g hst hb=>?_)
     refine Zbn ?_
     refine Zo ?_
     refine r_b [5,15,25,35,45,55,10] (L:=[(0,_),(1,_),(4,_),(6,_),(17,_),(18,_),(19,_)]) hst hb Za
      (a_p [65] rfl (Zcf rfl rfl u_0 c_i rfl)<|Am 0 rfl<|a_n) (fun a g hst hb=>?_)
     exact ⟨n,Nat.lt_succ_self _,({ Number:=a0,Deals:=(x1.Deals ++ ([r6]:List Zu)) }:Zbk),(IntKind.i64.wrap (x2 + (1:Int))),g,rfl,(hst.pick [0,1,2,3,4,5,6] rfl),hb,H1⟩
   ·replace H1:=Z0 hc3 H1
    refine wp_exit ?_
    refine Zb0 ?_
    refine Zb0 ?_
    refine Zcj ?_
    exact ⟨x1,g,rfl,(hst.pick [1,2,3] rfl),hb,Option.some.inj H1⟩
theorem Zy3:FnOk Tryz.prog 24 [pEq .nilIface] (Zc9.pd (default:Zcz)):=by
 refine Zb4 (N:=17) Tryz.func24 rfl rfl (Qe rfl) rfl rfl (fun a g0 hst hb=>?_)
 refine r_s (T:=[⟨[],[(2,(pBox Zc9 2 (default:Zcz)))],[3],[],[2]⟩]) (F:=[.o 0,.p 0 0]) hst hb Za
  (o_p rfl (Zbl (zs:=[.int .i64 0,.int .i64 0]) (by kernel_rfl) (fun g=>Zoo g) rfl rfl)<|o_n) (fun a g hst hb=>?_)
 refine wp_seq ?_
 refine r_s (T:=[⟨[.o 0],_,[],[],[5]⟩,⟨[.p 0 0],_,[],[0],[6]⟩]) (F:=[.o 1,.p 1 0]) hst hb Za
  (Qm rfl u_0<|o_p rfl (Z7c (by kernel_rfl) rfl rfl u_0)<|o_n) (fun a g hst hb=>?_)
 refine wp_cond_split (hst.bool 1 rfl) (fun _=>?_) (fun hc=>by cases hc)
 refine r_s (L:=[(2,_)]) (T:=[⟨[],_,[],[],[7]⟩,⟨[.o 0,.p 0 0],_,[3],[0],[2]⟩]) (F:=[.p 1 0]) (hst.pick [0] rfl) hb Za
  (o_p rfl (Zba2 rfl rfl)<|o_p rfl (Zbg Zwb rfl rfl u_0 u_1)<|o_n) (fun a g hst hb=>?_)
 refine wp_ret ?_
 refine Zt ?_
 obtain ⟨u0,hu0,hq0⟩:=Zbo (P:=Tryz.prog) Zwb (hst.at 0 rfl)
 exact Z8 rfl hst hb hu0 hq0
end Go.CL
namespace Go.CL
open Go Go.RowKit
section
variable {P:Program} {N:Nat} {o:Oper} {uses outs:Zbd} {S:List Nat} {d:Nat}
theorem Zba0 {ops : Array Oper} {Q : Exit → Act → List Frame → World → Prop} {i : Nat} {l : List Nat} {a : Act} {cs : List Frame} {w : World} (ho : ops[i]? = some o) (hg : o.guard = none) (hop : ∀ ev, (execOp ev o).run P w = .ok .recover w) (hd : o.dst = some d) (hr : recoverD cs = none) (hN : a.tmps.size = N) (hdN : d < N)
   (h:∀ a':Act,a'.tmps.size=N → a'.defers=a.defers → Act.at a' d=.nilIface → wpOpsS P ops Q l a' cs w):wpOpsS P ops Q (i :: l) a cs w :=
 Zbcy ho hg (hop _) hr (h _ (by rw [Zr8,hN]) (Zpn ..) (by rw [hd];exact Zed _ (by rw [hN];exact hdN)))
theorem Zxw {ops : Array Oper} {Q : Exit → Act → List Frame → World → Prop} {i : Nat} {l : List Nat} {a : Act} {cs : List Frame} {g : G} (ho : ops[i]? = some o) (hg : o.guard = none) (hob : OB P N o uses outs S) (hN : a.tmps.size = N) (hdN : ∀ t, o.dst = some t → t < N) (hu : Zeh uses a g)
   (h:∀ (a':Act) g',Step S g g' → a'.tmps.size=N → a'.defers=a.defers → (∀ e ∈ outs,e.2.p g' (Act.at a' e.1)) → (∀ n,o.dst ≠ some n → Act.at a' n=Act.at a n) → wpOpsS P ops Q l a' cs g'.w):wpOpsS P ops Q (i :: l) a cs g.w :=
 Zbft ho hg hob hN hdN hu fun v g' hs ho'=>h _ g' hs (by rw [Zr8,hN]) (Zpn ..) ho' fun n hn=>Zk4 _ hn
end
end Go.CL
namespace Go.CL
open Go Go.RowKit Go.Proofs
theorem Z0w:Z4a Tryz.prog 23:=by
 intro g b4 b5
 refine callsD_of_wpS Tryz.func23 rfl fun c₀ cs hu=>?_
 apply wpS_seq
 apply wpS_region
 refine Zba0 (N:=10) (o:=_) rfl rfl (fun _=>rfl) rfl (by simp [recoverD,hu]) (by simp [Tryz.ntmps23]) (by decide) fun a0 n0 d0 e0=>?_
 refine Zxw (g:=g.bare) (N:=10) (uses:=[(3,pEq .nilIface)]) (o:=_) rfl rfl (Zr Zbjf (Zy3) rfl rfl (.cons u_0 .nil)) n0 (fun t h=>by cases h;decide) (fun e he=>by rw [List.mem_singleton.1 he];exact e0) fun a1 g1 s1 n1 d1 h1 _=>?_
 refine Zxw (N:=10) (uses:=[]) (outs:=[(2,pBox Zc9 2 (default:Zcz))]) (o:=_) rfl rfl (Zbl (zs:=[.int .i64 0,.int .i64 0]) (by kernel_rfl) (fun g=>Zoo g) rfl rfl) n1 (fun t h=>by cases h;decide) (fun e he=>by cases he) fun a2 g2 s2 n2 d2 h2 k2=>?_
 refine Zxw (N:=10) (uses:=[(2,pBox Zc9 2 (default:Zcz)),(4,Zc9.pd (default:Zcz))]) (o:=_) rfl rfl (Zch Zwb rfl rfl u_0 u_1) n2 (fun t h=>by cases h) (fun e he=>?_) fun a3 g3 s3 n3 d3 h3 _=>?_
 ·rcases List.mem_cons.1 he with rfl | he
  ·exact h2 _ (List.mem_singleton.2 rfl)
  ·rw [List.mem_singleton.1 he]
   have:=(Zc9.pd (default:Zcz)).st s2 (fun _ h _=>by cases h) (h1 _ (List.mem_singleton.2 rfl))
   show (Zc9.pd (default:Zcz)).p g2 (Act.at a2 4)
   rw [k2 4 (fun h=>by cases h)];exact this
 refine wpS_of_wp ?_
 refine Z40 (fun a=>St 10 [(2,Zc9.ptr (default:Zcz))] a g3) ⟨n3,by rw [d3,d2,d1,d0],fun e he=>by rw [List.mem_singleton.1 he];exact h3 _ (List.mem_singleton.2 rfl)⟩ (fun a hst=>?_)
 have hb3:Base g.bare g3:=(((Zq0 g).step s1 (by simp)).step s2 (by simp)).step s3 (by simp)
 have hb:=hb3
 refine (show (Code.seq _ _).wp Tryz.prog _ a g3.w from ?_)
 refine r_s (T:=[⟨[.o 0],_,[],[],[5]⟩,⟨[.p 0 0],_,[],[0],[6]⟩,⟨[.p 1 0],_,[],[0,1],[7]⟩]) (F:=[.p 2 0]) hst hb Za
  (Qf rfl Z7f u_0<|Ql rfl Zpk u_0<|o_p rfl (Zdd rfl rfl u_0 c_i)<|o_n) (fun a g4 hst hb=>?_)
 refine wp_cond_split (hst.bool 0 rfl) (fun hc=>by cases hc) (fun _=>?_)
 refine wp_skip ?_
 obtain ⟨g5,e5,hs,_⟩:=Zsb hb
 exact ⟨hst.df,.returning,by rw [← hu],.tuple #[],by simp [results,Tryz.results23],rfl,rfl,g5,e5.symm,hs⟩
theorem Z58 (a0:List Int) {r:Ze} (h:Zx8 a0=some r):Z4p Tryz.prog 25 [((Kd.int .u8).sl.pd a0)] Zv r:=by
 obtain rfl:=Option.some.inj h
 refine Z94 (N:=6) Tryz.func25 rfl rfl (Qe rfl) rfl (fun a g0 h0 hst hb=>?_)
 refine r_s (T:=[⟨[],[],[],[],[2]⟩]) (F:=[.o 0]) hst hb Za
  (o_p rfl (Z4k (.inr rfl))<|o_n) (fun a g hst hb=>?_)
 refine r_s (T:=[⟨[.o 0],_,[],[],[3]⟩,⟨[.p 0 0],_,[],[0],[4]⟩,⟨[.p 1 0],[(5,(pBox Zv 5 ({ b:=a0,at_:=(0:Int) }:Ze)))],[6],[0,1],[5]⟩,⟨[.p 2 0],_,[],[0,1,2],[2]⟩]) (F:=[.p 3 0]) hst hb Za
  (Qm rfl u_0<|o_p rfl (Zbdb rfl rfl u_0)<|o_p rfl (Zrp rfl rfl u_0)<|Qa rfl u_0<|o_n) (fun a g hst hb=>?_)
 refine wp_ret ?_
 exact Zbiz rfl h0 hst hb (Zi (s:=2)) (hst.at 0 rfl)
theorem Zdv (a0:Ze) (a1:Int) {r:Ze} (h:Zdx a0 a1=some r):FnB Tryz.prog 49 [.box Zv a0 r,.val (pInt .i64 a1)] (pTup []):=by
 have H0:=h
 unfold Zdx at H0
 clear h
 refine Ze8 (N:=11) Tryz.func49 rfl rfl (Qe rfl) rfl rfl (fun a g0 bs hbs hst hb=>?_)
 obtain ⟨b0,rfl⟩:=Zmo hbs
 replace hst:St 11 [(0,(Zbi (some b0) Zv 0 a0)),(1,(pInt .i64 a1))] _ _:=hst
 replace hst:St 11 [(0,(pEq (ptrB b0 0))),(1,(pInt .i64 a1)),(1002,(pRB Zv 0 b0 a0))] _ _:=Zgy hst
 cases H0
theorem Znj (a0:Ze) {r:Int × Ze} (h:Zhp a0=some r):FnB Tryz.prog 76 [.box Zv a0 r.2] (pInt .u8 r.1):=by
 have H0:=h
 unfold Zhp at H0
 clear h
 refine Ze8 (N:=33) Tryz.func76 rfl rfl (Qe rfl) rfl rfl (fun a g0 bs hbs hst hb=>?_)
 obtain ⟨b0,rfl⟩:=Zmo hbs
 replace hst:St 33 [(0,(Zbi (some b0) Zv 0 a0))] _ _:=hst
 replace hst:St 33 [(0,(pEq (ptrB b0 0))),(1002,(pRB Zv 0 b0 a0))] _ _:=Zgy hst
 refine r_a [5,15] (L:=[(0,_),(1002,_)]) hst hb Za
  (a_p [] rfl (Zd rfl rfl c_i)<|a_n) (fun a g hst hb=>?_)
 refine wp_seq ?_
 refine r_a [5,90,15] (L:=[(0,_),(1002,_)]) hst hb Za
  (Am 5 rfl<|a_p [0] rfl (Zm rfl rfl u_0 (fun _ _ h=>⟨_,h⟩))<|a_p [0] rfl (Zcr Zl3 rfl rfl u_0)<|a_p [0,15] rfl (Zg2 ty_3 (fun g cs h=>Zox h) rfl rfl u_1 u_0)<|Am 5 rfl<|a_p [0] rfl (Zm rfl rfl u_0 (fun _ _ h=>⟨_,h⟩))<|a_p [0] rfl (Zcr Ztn rfl rfl u_0)<|a_p [0,15] rfl (Zg2 Z28 (fun g cs h=>Zub h) rfl rfl u_1 u_0)<|a_p [0] rfl (Zbx Tryz.underlying29 rfl rfl u_0)<|a_p [50,0] rfl (Zre rfl rfl u_0 u_1)<|a_n) (fun a g hst hb=>?_)
 refine Zbt (fun a w=>∃ (j4:Ze) (g:G),w=g.w ∧ St 33 [(0,(pEq (ptrB b0 0))),(1002,(pRB Zv 0 b0 j4))] a g ∧ Base g0 g ∧ Zi1 j4=some r) ?_ ?_
 ·rintro a w ⟨j4,g,rfl,hst,hb,H0⟩
  unfold Zi1 at H0
  refine Zo ?_
  refine r_a [5,70] (L:=[(0,_),(1002,_)]) hst hb Za
   (Am 5 rfl<|a_p [0] rfl (Zm rfl rfl u_0 (fun _ _ h=>⟨_,h⟩))<|a_p [0] rfl (Zcr Zl3 rfl rfl u_0)<|a_p [0,15] rfl (Zg2 ty_3 (fun g cs h=>Zox h) rfl rfl u_1 u_0)<|a_p [0] rfl (Zcf rfl rfl u_0 c_i rfl)<|a_p [40] rfl (Zm rfl rfl u_0 (fun _ _ h=>⟨_,h⟩))<|a_p [0] rfl (Zcr Zl3 rfl rfl u_0)<|a_p (outs:=[(1002,(pRB Zv 0 b0 ({ j4 with at_:=(IntKind.i64.wrap (j4.at_ + (1:Int))) }:Ze)))]) (S:=[1]) [0,20,15] rfl (Zu4 (v':=({ j4 with at_:=(IntKind.i64.wrap (j4.at_ + (1:Int))) }:Ze)) ty_3 rfl rfl u_2 u_0 u_1 (fun g cs ys h hy=>Z56 h hy))<|a_n) (fun a g hst hb=>?_)
  obtain ⟨e5,h6,H0⟩:=Zc H0
  refine r_a [5,110,15] (L:=[(0,_),(1002,_)]) hst hb Za
   (Am 5 rfl<|a_p [0] rfl (Zm rfl rfl u_0 (fun _ _ h=>⟨_,h⟩))<|a_p [0] rfl (Zcr Ztn rfl rfl u_0)<|a_p [0,15] rfl (Zg2 Z28 (fun g cs h=>Zub h) rfl rfl u_1 u_0)<|Am 5 rfl<|a_p [0] rfl (Zm rfl rfl u_0 (fun _ _ h=>⟨_,h⟩))<|a_p [0] rfl (Zcr Zl3 rfl rfl u_0)<|a_p [0,15] rfl (Zg2 ty_3 (fun g cs h=>Zox h) rfl rfl u_1 u_0)<|a_p [0] rfl (Zkb rfl rfl u_0 c_i rfl)<|a_p [50,0] rfl (Zbw Tryz.underlying29 sz_5 rfl rfl u_0 u_1 h6)<|Al ty_5 0 rfl<|Aa 0 rfl<|a_n) (fun a g hst hb=>?_)
  refine wp_ret ?_
  obtain rfl:=Option.some.inj H0
  exact Zfm rfl hst hb (Zi (s:=2)) (hst.at 1 rfl) ⟨Zjy (hst.at 2 rfl),trivial⟩
 ·refine wp_cond_split (hst.bool 1 rfl) (fun hc1=>?_) (fun hc1=>?_)
  ·replace H0:=Z1 hc1 H0
   obtain ⟨r2,h3,H0⟩:=Zc H0
   refine r_b [5,11] (L:=[(0,_),(1002,_)]) (hst.pick [0,2] rfl) hb Za
    (Am 5 rfl<|a_p [0,15] rfl (Zb1 (m:=1002) (A:=[(pInt .i64 (2:Int))]) Zqk (Zdv _ _ h3) rfl rfl rfl (by decide) u_1 u_0 (.cons c_i .nil))<|a_n) (fun a g hst hb=>?_)
   exact ⟨r2,g,rfl,(hst.pick [0,1] rfl),hb,H0⟩
  ·replace H0:=Z0 hc1 H0
   refine wp_skip ?_
   exact ⟨a0,g,rfl,(hst.pick [0,2] rfl),hb,H0⟩
set_option maxHeartbeats 1000000 in
theorem Zo2 (a0:Ze) {r:Int × Ze} (h:Zi9 a0=some r):FnB Tryz.prog 48 [.box Zv a0 r.2] (pInt .u64 r.1):=by
 have H0:=h
 unfold Zi9 at H0
 clear h
 refine Ze8 (N:=36) Tryz.func48 rfl rfl (Qe rfl) rfl rfl (fun a g0 bs hbs hst hb=>?_)
 obtain ⟨b0,rfl⟩:=Zmo hbs
 replace hst:St 36 [(0,(Zbi (some b0) Zv 0 a0))] _ _:=hst
 replace hst:St 36 [(0,(pEq (ptrB b0 0))),(1002,(pRB Zv 0 b0 a0))] _ _:=Zgy hst
 refine r_a [5,15] (L:=[(0,_),(1002,_)]) hst hb Za
  (a_p [] rfl (Zd rfl rfl c_i)<|a_n) (fun a g hst hb=>?_)
 refine r_a [5,0,15] (L:=[(0,_),(1002,_)]) hst hb Za
  (a_p [] rfl (Zd rfl rfl c_i)<|a_n) (fun a g hst hb=>?_)
 refine r_a [5,15,0,25] (L:=[(0,_),(3,_),(1002,_)]) hst hb Za
  (a_p [] rfl (Zd rfl rfl c_i)<|a_n) (fun a g hst hb=>?_)
 obtain ⟨z16,hz1,H0⟩:=Zc H0
 refine Zbt (fun a w=>∃ (g:G),w=g.w ∧ St 36 [] a g ∧ Base g0 g ∧ (.inr ())=z16) ?_ ?_
 ·rintro a w ⟨g,rfl,hst,hb,rfl⟩
  cases H0
 ·refine wp_block ?_
  refine wp_loop_ghost (fun n a w=>∃ (x1:Int) (x2:Int) (x3:Ze) (g:G),w=g.w ∧ St 36 [(0,(pEq (ptrB b0 0))),(3,(pInt .u64 x1)),(4,(pInt .i64 x2)),(1002,(pRB Zv 0 b0 x3))] a g ∧ Base g0 g ∧ Zd9 n x1 x2 x3=some z16) 11 ⟨(0:Int),(0:Int),a0,g,rfl,(hst.pick [0,1,2,3] rfl),hb,hz1⟩ (fun n a w hI=>?_)
  obtain ⟨x1,x2,x3,g,rfl,hst,hb,H1⟩:=hI
  cases n with
  | zero=>exact absurd H1 (by simp [Zd9])
  | succ n =>
   rw [Zd9] at H1
   refine wp_seq ?_
   refine wp_block ?_
   obtain ⟨r4,h5,H1⟩:=Zc H1
   refine r_a [5,15,25,20,11] (L:=[(0,_),(3,_),(4,_),(1002,_)]) hst hb Za
    (Am 5 rfl<|a_p [0,35] rfl (Zb1 (m:=1002) (A:=[]) Z9g (Znj _ h5) rfl rfl rfl (by decide) u_1 u_0 .nil)<|Aa 0 rfl<|a_n) (fun a g hst hb=>?_)
   refine wp_seq ?_
   refine r_a [5,15,25,35,50,45] (L:=[(0,_),(3,_),(4,_),(5,_),(1002,_)]) hst hb Za
    (Am 25 rfl<|a_p [0] rfl (Zci rfl rfl u_0 c_i)<|Am 0 rfl<|a_g [0,35] (Qg_t rfl (fun hG=>Z6 rfl rfl u_0))<|a_g [10,0] (Qg_t rfl (fun hG=>Zcu rfl rfl (Opd.gd hG u_0) c_i))<|a_p [20,0] rfl (Zb5 rfl rfl u_0 (fun hz=>(Opd.gd hz u_1)))<|a_n) (fun a g hst hb=>?_)
   refine Zbt (fun a w=>∃ (j9:Ze) (g:G),w=g.w ∧ St 36 [(0,(pEq (ptrB b0 0))),(3,(pInt .u64 x1)),(4,(pInt .i64 x2)),(5,(pInt .u8 r4.1)),(1002,(pRB Zv 0 b0 j9))] a g ∧ Base g0 g ∧ Zil x1 x2 r4 (Zd9 n) j9=some z16) ?_ ?_
   ·rintro a w ⟨j9,g,rfl,hst,hb,H1⟩
    unfold Zil at H1
    refine Zo ?_
    obtain ⟨h10,H1⟩:=Ze0 H1
    refine r_a [5,70,25,35,45] (L:=[(0,_),(3,_),(4,_),(5,_),(1002,_)]) hst hb Za
     (Am 15 rfl<|Am 35 rfl<|a_p [0] rfl (Zy5 rfl rfl u_0 c_i)<|a_p [0] rfl (Zen Tryz.underlying5 Tryz.underlying95 rfl rfl u_0 rfl)<|Am 25 rfl<|a_p [10,0] rfl (Z36 rfl rfl u_0 u_1 h10 rfl)<|a_p [50,0] rfl (Z3g rfl rfl u_0 u_1)<|Aa 0 rfl<|a_n) (fun a g hst hb=>?_)
    refine wp_seq ?_
    refine r_a [5,15,25,35,10,45] (L:=[(0,_),(3,_),(4,_),(5,_),(1002,_)]) hst hb Za
     (Am 35 rfl<|a_p [0] rfl (Zre rfl rfl u_0 c_i)<|a_n) (fun a g hst hb=>?_)
    refine wp_cond_split (hst.bool 4 rfl) (fun hc11=>?_) (fun hc11=>?_)
    ·replace H1:=Z1 hc11 H1
     refine wp_exit ?_
     refine Zb0 ?_
     refine Zcj ?_
     refine Zo ?_
     refine r_b [5,15,20,35] (L:=[(0,_),(3,_),(4,_),(1002,_)]) (hst.pick [0,1,2,5] rfl) hb Za
      (Am 25 rfl<|a_p [0] rfl (Zcf rfl rfl u_0 c_i rfl)<|Aa 0 rfl<|a_n) (fun a g hst hb=>?_)
     exact ⟨n,Nat.lt_succ_self _,(bOr .u64 x1 (IntKind.u64.wrap ((IntKind.u64.wrap (bAnd .u8 r4.1 (127:Int))) * 2 ^ (min (Int.toNat x2) (IntKind.u64).bits)))),(IntKind.i64.wrap (x2 + (7:Int))),j9,g,rfl,(hst.pick [0,1,2,3] rfl),hb,H1⟩
    ·replace H1:=Z0 hc11 H1
     refine wp_skip ?_
     refine Zo ?_
     refine wp_seq ?_
     refine r_a [5,15,50,45] (L:=[(0,_),(3,_),(4,_),(5,_),(1002,_)]) (hst.pick [0,1,2,3,5] rfl) hb Za
      (Am 35 rfl<|a_p [0] rfl (Zci rfl rfl u_0 c_i)<|Am 0 rfl<|a_g [0,25] (Qg_t rfl (fun hG=>Z6 rfl rfl u_0))<|a_g [10,0] (Qg_t rfl (fun hG=>Zcu rfl rfl (Opd.gd hG u_0) c_i))<|a_p [20,0] rfl (Zb5 rfl rfl u_0 (fun hz=>(Opd.gd hz u_1)))<|a_n) (fun a g hst hb=>?_)
     refine Zbt (fun a w=>∃ (j15:Ze) (g:G),w=g.w ∧ St 36 [(0,(pEq (ptrB b0 0))),(3,(pInt .u64 (bOr .u64 x1 (IntKind.u64.wrap ((IntKind.u64.wrap (bAnd .u8 r4.1 (127:Int))) * 2 ^ (min (Int.toNat x2) (IntKind.u64).bits)))))),(1002,(pRB Zv 0 b0 j15))] a g ∧ Base g0 g ∧ Zkf x1 x2 r4 j15=some z16) ?_ ?_
     ·rintro a w ⟨j15,g,rfl,hst,hb,H1⟩
      unfold Zkf at H1
      refine Zo ?_
      refine r_a [5,10,25] (L:=[(0,_),(3,_),(1002,_)]) hst hb Za
       (Am 15 rfl<|Aa 0 rfl<|a_n) (fun a g hst hb=>?_)
      refine wp_ret ?_
      refine Z5 ?_
      refine Zt ?_
      refine Zt ?_
      refine Z5 ?_
      refine Zt ?_
      obtain rfl:=Option.some.inj H1
      obtain rfl:=Option.some.inj H0
      exact Zfm rfl hst hb (Zi (s:=2)) (hst.at 1 rfl) ⟨Zjy (hst.at 2 rfl),trivial⟩
     ·refine wp_cond_split (hst.bool 2 rfl) (fun hc12=>?_) (fun hc12=>?_)
      ·replace H1:=Z1 hc12 H1
       obtain ⟨r13,h14,H1⟩:=Zc H1
       refine r_b [5,15,11] (L:=[(0,_),(3,_),(1002,_)]) (hst.pick [0,1,3] rfl) hb Za
        (Am 5 rfl<|a_p [0,25] rfl (Zb1 (m:=1002) (A:=[(pInt .i64 (4:Int))]) Zqk (Zdv _ _ h14) rfl rfl rfl (by decide) u_1 u_0 (.cons c_i .nil))<|a_n) (fun a g hst hb=>?_)
       exact ⟨r13,g,rfl,(hst.pick [0,1,2] rfl),hb,H1⟩
      ·replace H1:=Z0 hc12 H1
       refine wp_skip ?_
       exact ⟨j9,g,rfl,(hst.pick [0,1,3] rfl),hb,H1⟩
   ·refine wp_cond_split (hst.bool 4 rfl) (fun hc6=>?_) (fun hc6=>?_)
    ·replace H1:=Z1 hc6 H1
     obtain ⟨r7,h8,H1⟩:=Zc H1
     refine r_b [5,15,25,35,11] (L:=[(0,_),(3,_),(4,_),(5,_),(1002,_)]) (hst.pick [0,1,2,3,5] rfl) hb Za
      (Am 5 rfl<|a_p [0,45] rfl (Zb1 (m:=1002) (A:=[(pInt .i64 (1:Int))]) Zqk (Zdv _ _ h8) rfl rfl rfl (by decide) u_1 u_0 (.cons c_i .nil))<|a_n) (fun a g hst hb=>?_)
     exact ⟨r7,g,rfl,(hst.pick [0,1,2,3,4] rfl),hb,H1⟩
    ·replace H1:=Z0 hc6 H1
     refine wp_skip ?_
     exact ⟨r4.2,g,rfl,(hst.pick [0,1,2,3,5] rfl),hb,H1⟩
theorem Zf3 (a0:Ze) (a1:Int) {r:Int × Ze} (h:Zdo a0 a1=some r):FnB Tryz.prog 26 [.box Zv a0 r.2,.val (pInt .i64 a1)] (pInt .i64 r.1):=by
 have H0:=h
 unfold Zdo at H0
 clear h
 refine Ze8 (N:=17) Tryz.func26 rfl rfl (Qe rfl) rfl rfl (fun a g0 bs hbs hst hb=>?_)
 obtain ⟨b0,rfl⟩:=Zmo hbs
 replace hst:St 17 [(0,(Zbi (some b0) Zv 0 a0)),(1,(pInt .i64 a1))] _ _:=hst
 replace hst:St 17 [(0,(pEq (ptrB b0 0))),(1,(pInt .i64 a1)),(1002,(pRB Zv 0 b0 a0))] _ _:=Zgy hst
 refine r_a [5,15,25] (L:=[(0,_),(1,_),(1002,_)]) hst hb Za
  (a_p [] rfl (Zd rfl rfl c_i)<|a_n) (fun a g hst hb=>?_)
 obtain ⟨r1,h2,H0⟩:=Zc H0
 refine r_a [5,15,20,11] (L:=[(0,_),(1,_),(1002,_)]) hst hb Za
  (Am 5 rfl<|a_p [0,25] rfl (Zb1 (m:=1002) (A:=[]) Z8m (Zo2 _ h2) rfl rfl rfl (by decide) u_1 u_0 .nil)<|Aa 0 rfl<|a_n) (fun a g hst hb=>?_)
 refine wp_seq ?_
 refine r_a [5,25,40,35] (L:=[(0,_),(1,_),(5,_),(1002,_)]) hst hb Za
  (Am 25 rfl<|Am 15 rfl<|a_p [0] rfl (Zbah rfl rfl u_0 c_i)<|a_p [0] rfl (Zen Tryz.underlying3 Tryz.underlying95 rfl rfl u_0 rfl)<|a_p [30,0] rfl (Zcu rfl rfl u_0 u_1)<|a_n) (fun a g hst hb=>?_)
 refine Zbt (fun a w=>∃ (j6:Ze) (g:G),w=g.w ∧ St 17 [(0,(pEq (ptrB b0 0))),(5,(pInt .u64 r1.1)),(1002,(pRB Zv 0 b0 j6))] a g ∧ Base g0 g ∧ Zh8 r1 j6=some r) ?_ ?_
 ·rintro a w ⟨j6,g,rfl,hst,hb,H0⟩
  unfold Zh8 at H0
  refine Zo ?_
  refine r_a [5,20,25] (L:=[(0,_),(5,_),(1002,_)]) hst hb Za
   (Am 15 rfl<|a_p [0] rfl (Zen Tryz.underlying95 Tryz.underlying3 rfl rfl u_0 rfl)<|Aa 0 rfl<|a_n) (fun a g hst hb=>?_)
  refine wp_ret ?_
  obtain rfl:=Option.some.inj H0
  exact Zfm rfl hst hb (Zi (s:=4)) (hst.at 1 rfl) ⟨Zjy (hst.at 2 rfl),trivial⟩
 ·refine wp_cond_split (hst.bool 2 rfl) (fun hc3=>?_) (fun hc3=>?_)
  ·replace H0:=Z1 hc3 H0
   obtain ⟨r4,h5,H0⟩:=Zc H0
   refine r_b [5,15,11] (L:=[(0,_),(5,_),(1002,_)]) (hst.pick [0,1,3] rfl) hb Za
    (Am 5 rfl<|a_p [0,25] rfl (Zb1 (m:=1002) (A:=[(pInt .i64 (1:Int))]) Zqk (Zdv _ _ h5) rfl rfl rfl (by decide) u_1 u_0 (.cons c_i .nil))<|a_n) (fun a g hst hb=>?_)
   exact ⟨r4,g,rfl,(hst.pick [0,1,2] rfl),hb,H0⟩
  ·replace H0:=Z0 hc3 H0
   refine wp_skip ?_
   exact ⟨r1.2,g,rfl,(hst.pick [0,1,3] rfl),hb,H0⟩
theorem Zf1 (a0:Ze) (a1:Int) {r:Ze} (h:Zdg a0 a1=some r):FnB Tryz.prog 27 [.box Zv a0 r,.val (pInt .i64 a1)] (pTup []):=by
 have H0:=h
 unfold Zdg at H0
 clear h
 refine Ze8 (N:=7) Tryz.func27 rfl rfl (Qe rfl) rfl rfl (fun a g0 bs hbs hst hb=>?_)
 obtain ⟨b0,rfl⟩:=Zmo hbs
 replace hst:St 7 [(0,(Zbi (some b0) Zv 0 a0)),(1,(pInt .i64 a1))] _ _:=hst
 replace hst:St 7 [(0,(pEq (ptrB b0 0))),(1,(pInt .i64 a1)),(1002,(pRB Zv 0 b0 a0))] _ _:=Zgy hst
 obtain ⟨r1,h2,H0⟩:=Zc H0
 refine r_b [5,21] (L:=[(0,_),(1,_),(1002,_)]) hst hb Za
  (Am 5 rfl<|Am 15 rfl<|a_p [10,25,0] rfl (Zb1 (m:=1002) (A:=[(pInt .i64 a1)]) Zqk (Zdv _ _ h2) rfl rfl rfl (by decide) u_1 u_0 (.cons u_2 .nil))<|a_n) (fun a g hst hb=>?_)
 obtain rfl:=Option.some.inj H0
 exact Zbay rfl hst hb ⟨Zjy (hst.at 1 rfl),trivial⟩
theorem Zuy (a0:Ze) {r:Bool × Ze} (h:Zj6 a0=some r):FnB Tryz.prog 77 [.box Zv a0 r.2] (Zbm r.1):=by
 have H0:=h
 unfold Zj6 at H0
 clear h
 refine Ze8 (N:=12) Tryz.func77 rfl rfl (Qe rfl) rfl rfl (fun a g0 bs hbs hst hb=>?_)
 obtain ⟨b0,rfl⟩:=Zmo hbs
 replace hst:St 12 [(0,(Zbi (some b0) Zv 0 a0))] _ _:=hst
 replace hst:St 12 [(0,(pEq (ptrB b0 0))),(1002,(pRB Zv 0 b0 a0))] _ _:=Zgy hst
 refine r_a [5,15] (L:=[(0,_),(1002,_)]) hst hb Za
  (a_p [] rfl (Zd rfl rfl c_b)<|a_n) (fun a g hst hb=>?_)
 obtain ⟨r1,h2,H0⟩:=Zc H0
 refine r_a [5,20,11] (L:=[(0,_),(1002,_)]) hst hb Za
  (Am 5 rfl<|a_p [0,15] rfl (Zb1 (m:=1002) (A:=[]) Z9g (Znj _ h2) rfl rfl rfl (by decide) u_1 u_0 .nil)<|Aa 0 rfl<|a_n) (fun a g hst hb=>?_)
 refine wp_seq ?_
 refine r_a [5,15,10,25] (L:=[(0,_),(3,_),(1002,_)]) hst hb Za
  (Am 15 rfl<|a_p [0] rfl (Zcu rfl rfl u_0 c_i)<|a_n) (fun a g hst hb=>?_)
 refine Zbt (fun a w=>∃ (j6:Ze) (g:G),w=g.w ∧ St 12 [(0,(pEq (ptrB b0 0))),(3,(pInt .u8 r1.1)),(1002,(pRB Zv 0 b0 j6))] a g ∧ Base g0 g ∧ Zh7 r1 j6=some r) ?_ ?_
 ·rintro a w ⟨j6,g,rfl,hst,hb,H0⟩
  unfold Zh7 at H0
  refine Zo ?_
  refine r_a [5,20,25] (L:=[(0,_),(3,_),(1002,_)]) hst hb Za
   (Am 15 rfl<|a_p [0] rfl (Zci rfl rfl u_0 c_i)<|Aa 0 rfl<|a_n) (fun a g hst hb=>?_)
  refine wp_ret ?_
  obtain rfl:=Option.some.inj H0
  exact Zfm rfl hst hb (Zi (s:=2)) (hst.at 1 rfl) ⟨Zjy (hst.at 2 rfl),trivial⟩
 ·refine wp_cond_split (hst.bool 2 rfl) (fun hc3=>?_) (fun hc3=>?_)
  ·replace H0:=Z1 hc3 H0
   obtain ⟨r4,h5,H0⟩:=Zc H0
   refine r_b [5,15,11] (L:=[(0,_),(3,_),(1002,_)]) (hst.pick [0,1,3] rfl) hb Za
    (Am 5 rfl<|a_p [0,25] rfl (Zb1 (m:=1002) (A:=[(pInt .i64 (4:Int))]) Zqk (Zdv _ _ h5) rfl rfl rfl (by decide) u_1 u_0 (.cons c_i .nil))<|a_n) (fun a g hst hb=>?_)
   exact ⟨r4,g,rfl,(hst.pick [0,1,2] rfl),hb,H0⟩
  ·replace H0:=Z0 hc3 H0
   refine wp_skip ?_
   exact ⟨r1.2,g,rfl,(hst.pick [0,1,3] rfl),hb,H0⟩
theorem Zpx (a0:Ze) {r:Int × Ze} (h:Zio a0=some r):FnB Tryz.prog 51 [.box Zv a0 r.2] (pInt .i64 r.1):=by
 have H0:=h
 unfold Zio at H0
 clear h
 refine Ze8 (N:=13) Tryz.func51 rfl rfl (Qe rfl) rfl rfl (fun a g0 bs hbs hst hb=>?_)
 obtain ⟨b0,rfl⟩:=Zmo hbs
 replace hst:St 13 [(0,(Zbi (some b0) Zv 0 a0))] _ _:=hst
 replace hst:St 13 [(0,(pEq (ptrB b0 0))),(1002,(pRB Zv 0 b0 a0))] _ _:=Zgy hst
 refine r_a [5,15] (L:=[(0,_),(1002,_)]) hst hb Za
  (a_p [] rfl (Zd rfl rfl c_i)<|a_n) (fun a g hst hb=>?_)
 refine r_a [5,100,15] (L:=[(0,_),(1002,_)]) hst hb Za
  (Am 5 rfl<|a_p [0] rfl (Zm rfl rfl u_0 (fun _ _ h=>⟨_,h⟩))<|a_p [0] rfl (Zcr Ztn rfl rfl u_0)<|a_p [0,15] rfl (Zg2 Z28 (fun g cs h=>Zub h) rfl rfl u_1 u_0)<|a_p [0] rfl (Zbx Tryz.underlying29 rfl rfl u_0)<|Am 5 rfl<|a_p [0] rfl (Zm rfl rfl u_0 (fun _ _ h=>⟨_,h⟩))<|a_p [0] rfl (Zcr Zl3 rfl rfl u_0)<|a_p [0,15] rfl (Zg2 ty_3 (fun g cs h=>Zox h) rfl rfl u_1 u_0)<|a_p [40,0] rfl (Zkb rfl rfl u_0 u_1 rfl)<|Aa 0 rfl<|a_n) (fun a g hst hb=>?_)
 refine wp_ret ?_
 obtain rfl:=Option.some.inj H0
 exact Zfm rfl hst hb (Zi (s:=2)) (hst.at 1 rfl) ⟨Zjy (hst.at 2 rfl),trivial⟩
theorem Zmg (a0:Ze) (a1:Int) {r:ByteArray × Ze} (h:Zem a0 a1=some r):FnB Tryz.prog 78 [.box Zv a0 r.2,.val (pInt .i64 a1)] (pStr r.1):=by
 have H0:=h
 unfold Zem at H0
 clear h
 refine Ze8 (N:=50) Tryz.func78 rfl rfl (Qe rfl) rfl rfl (fun a g0 bs hbs hst hb=>?_)
 obtain ⟨b0,rfl⟩:=Zmo hbs
 replace hst:St 50 [(0,(Zbi (some b0) Zv 0 a0)),(1,(pInt .i64 a1))] _ _:=hst
 replace hst:St 50 [(0,(pEq (ptrB b0 0))),(1,(pInt .i64 a1)),(1002,(pRB Zv 0 b0 a0))] _ _:=Zgy hst
 refine r_a [5,15,25] (L:=[(0,_),(1,_),(1002,_)]) hst hb Za
  (a_p [] rfl (Zd rfl rfl c_s)<|a_n) (fun a g hst hb=>?_)
 obtain ⟨r1,h2,H0⟩:=Zc H0
 refine r_a [5,15,20,11] (L:=[(0,_),(1,_),(1002,_)]) hst hb Za
  (Am 5 rfl<|a_p [0,25] rfl (Zb1 (m:=1002) (A:=[]) Z8m (Zo2 _ h2) rfl rfl rfl (by decide) u_1 u_0 .nil)<|Aa 0 rfl<|a_n) (fun a g hst hb=>?_)
 refine wp_seq ?_
 refine Zbt (fun a w=>∃ (j11:Ze) (g:G),w=g.w ∧ St 50 [(0,(pEq (ptrB b0 0))),(5,(pInt .u64 r1.1)),(1002,(pRB Zv 0 b0 j11))] a g ∧ Base g0 g ∧ Ziq r1 j11=some r) ?_ ?_
 ·rintro a w ⟨j11,g,rfl,hst,hb,H0⟩
  unfold Ziq at H0
  refine Zo ?_
  refine r_a [5,15,90] (L:=[(0,_),(5,_),(1002,_)]) hst hb Za
   (Am 5 rfl<|a_p [0] rfl (Zm rfl rfl u_0 (fun _ _ h=>⟨_,h⟩))<|a_p [0] rfl (Zcr Zl3 rfl rfl u_0)<|a_p [0,25] rfl (Zg2 ty_3 (fun g cs h=>Zox h) rfl rfl u_1 u_0)<|Am 15 rfl<|a_p [0] rfl (Zen Tryz.underlying95 Tryz.underlying3 rfl rfl u_0 rfl)<|a_p [20,0] rfl (Zcf rfl rfl u_0 u_1 rfl)<|a_p [60] rfl (Zm rfl rfl u_0 (fun _ _ h=>⟨_,h⟩))<|a_p [0] rfl (Zcr Zl3 rfl rfl u_0)<|a_p (outs:=[(1002,(pRB Zv 0 b0 ({ j11 with at_:=(IntKind.i64.wrap (j11.at_ + (IntKind.i64.wrap r1.1))) }:Ze)))]) (S:=[1]) [0,20,25] rfl (Zu4 (v':=({ j11 with at_:=(IntKind.i64.wrap (j11.at_ + (IntKind.i64.wrap r1.1))) }:Ze)) ty_3 rfl rfl u_2 u_0 u_1 (fun g cs ys h hy=>Z56 h hy))<|a_n) (fun a g hst hb=>?_)
  obtain ⟨c12,h13,H0⟩:=Zc H0
  refine r_a [5,170,25] (L:=[(0,_),(5,_),(1002,_)]) hst hb Za
   (Am 5 rfl<|a_p [0] rfl (Zm rfl rfl u_0 (fun _ _ h=>⟨_,h⟩))<|a_p [0] rfl (Zcr Ztn rfl rfl u_0)<|a_p [0,25] rfl (Zg2 Z28 (fun g cs h=>Zub h) rfl rfl u_1 u_0)<|Am 5 rfl<|a_p [0] rfl (Zm rfl rfl u_0 (fun _ _ h=>⟨_,h⟩))<|a_p [0] rfl (Zcr Zl3 rfl rfl u_0)<|a_p [0,25] rfl (Zg2 ty_3 (fun g cs h=>Zox h) rfl rfl u_1 u_0)<|Am 15 rfl<|a_p [0] rfl (Zen Tryz.underlying95 Tryz.underlying3 rfl rfl u_0 rfl)<|a_p [20,0] rfl (Zkb rfl rfl u_0 u_1 rfl)<|Am 5 rfl<|a_p [0] rfl (Zm rfl rfl u_0 (fun _ _ h=>⟨_,h⟩))<|a_p [0] rfl (Zcr Zl3 rfl rfl u_0)<|a_p [0,25] rfl (Zg2 ty_3 (fun g cs h=>Zox h) rfl rfl u_1 u_0)<|a_p [110,40,0] rfl (Zbdf Tryz.underlying29 sz_5 rfl rfl u_0 u_1 u_2 h13)<|a_p [0] rfl (Zbfg Tryz.underlying29 Tryz.underlying5 Tryz.underlying9 rfl rfl u_0)<|Aa 0 rfl<|a_n) (fun a g hst hb=>?_)
  refine wp_ret ?_
  obtain rfl:=Option.some.inj H0
  exact Zfm rfl hst hb (Zi (s:=4)) (hst.at 1 rfl) ⟨Zjy (hst.at 2 rfl),trivial⟩
 ·refine wp_block ?_
  refine r_a [5,25,50,35] (L:=[(0,_),(1,_),(5,_),(1002,_)]) hst hb Za
   (Am 25 rfl<|Am 15 rfl<|a_p [0] rfl (Zbah rfl rfl u_0 c_i)<|a_p [0] rfl (Zen Tryz.underlying3 Tryz.underlying95 rfl rfl u_0 rfl)<|a_p [30,0] rfl (Zcu rfl rfl u_0 u_1)<|Aa 0 rfl<|a_n) (fun a g hst hb=>?_)
  refine wp_cond_split (hst.bool 2 rfl) (fun hc3=>?_) (fun hc3=>?_)
  ·replace H0:=Z1 hc3 H0
   obtain ⟨r4,h5,H0⟩:=Zc H0
   refine r_b [5,15,11] (L:=[(0,_),(5,_),(1002,_)]) (hst.pick [0,1,3] rfl) hb Za
    (Am 5 rfl<|a_p [0,25] rfl (Zb1 (m:=1002) (A:=[(pInt .i64 (3:Int))]) Zqk (Zdv _ _ h5) rfl rfl rfl (by decide) u_1 u_0 (.cons c_i .nil))<|a_n) (fun a g hst hb=>?_)
   refine Zbn ?_
   exact ⟨r4,g,rfl,(hst.pick [0,1,2] rfl),hb,H0⟩
  ·replace H0:=Z0 hc3 H0
   obtain ⟨r6,h7,H0⟩:=Zc H0
   refine r_a [5,15,50,21] (L:=[(0,_),(5,_),(1002,_)]) (hst.pick [0,1,3] rfl) hb Za
    (Am 15 rfl<|Am 5 rfl<|a_p [0,25] rfl (Zb1 (m:=1002) (A:=[]) Zbd8 (Zpx _ h7) rfl rfl rfl (by decide) u_1 u_0 .nil)<|a_p [0] rfl (Zen Tryz.underlying3 Tryz.underlying95 rfl rfl u_0 rfl)<|a_p [30,0] rfl (Zcu rfl rfl u_0 u_1)<|Aa 0 rfl<|a_n) (fun a g hst hb=>?_)
   refine wp_cond_split (hst.bool 2 rfl) (fun hc8=>?_) (fun hc8=>?_)
   ·replace H0:=Z1 hc8 H0
    obtain ⟨r9,h10,H0⟩:=Zc H0
    refine r_b [5,15,11] (L:=[(0,_),(5,_),(1002,_)]) (hst.pick [0,1,3] rfl) hb Za
     (Am 5 rfl<|a_p [0,25] rfl (Zb1 (m:=1002) (A:=[(pInt .i64 (2:Int))]) Zqk (Zdv _ _ h10) rfl rfl rfl (by decide) u_1 u_0 (.cons c_i .nil))<|a_n) (fun a g hst hb=>?_)
    refine Zbn ?_
    exact ⟨r9,g,rfl,(hst.pick [0,1,2] rfl),hb,H0⟩
   ·replace H0:=Z0 hc8 H0
    refine wp_skip ?_
    refine Zbn ?_
    exact ⟨r6.2,g,rfl,(hst.pick [0,1,3] rfl),hb,H0⟩
theorem Zmd (a0:Ze) {r:Int × Ze} (h:Zek a0=some r):FnB Tryz.prog 80 [.box Zv a0 r.2] (pInt .i64 r.1):=by
 have H0:=h
 unfold Zek at H0
 clear h
 refine Ze8 (N:=14) Tryz.func80 rfl rfl (Qe rfl) rfl rfl (fun a g0 bs hbs hst hb=>?_)
 obtain ⟨b0,rfl⟩:=Zmo hbs
 replace hst:St 14 [(0,(Zbi (some b0) Zv 0 a0))] _ _:=hst
 replace hst:St 14 [(0,(pEq (ptrB b0 0))),(1002,(pRB Zv 0 b0 a0))] _ _:=Zgy hst
 refine r_a [5,15] (L:=[(0,_),(1002,_)]) hst hb Za
  (a_p [] rfl (Zd rfl rfl c_i)<|a_n) (fun a g hst hb=>?_)
 obtain ⟨r1,h2,H0⟩:=Zc H0
 refine r_a [5,20,11] (L:=[(0,_),(1002,_)]) hst hb Za
  (Am 5 rfl<|a_p [0,15] rfl (Zb1 (m:=1002) (A:=[]) Z8m (Zo2 _ h2) rfl rfl rfl (by decide) u_1 u_0 .nil)<|Aa 0 rfl<|a_n) (fun a g hst hb=>?_)
 refine r_a [5,80,25] (L:=[(0,_),(3,_),(1002,_)]) hst hb Za
  (Am 15 rfl<|a_p [0] rfl (Zv4 rfl rfl u_0 c_i (by decide) rfl)<|a_p [0] rfl (Zen Tryz.underlying95 Tryz.underlying2 rfl rfl u_0 rfl)<|Am 15 rfl<|a_p [0] rfl (Zy5 rfl rfl u_0 c_i)<|a_p [0] rfl (Zen Tryz.underlying95 Tryz.underlying2 rfl rfl u_0 rfl)<|a_p [0] rfl (Zbaj rfl rfl u_0 rfl)<|a_p [40,0] rfl (Zbaz rfl rfl u_0 u_1)<|Aa 0 rfl<|a_n) (fun a g hst hb=>?_)
 refine wp_ret ?_
 obtain rfl:=Option.some.inj H0
 exact Zfm rfl hst hb (Zi (s:=2)) (hst.at 1 rfl) ⟨Zjy (hst.at 2 rfl),trivial⟩
theorem Z6u (a0:Int) {r:Nat × Bool} (h:Zp8 a0=some r):FnOk Tryz.prog 101 [(pInt .u64 a0)] (pTup [(pFlt r.1),(Zbm r.2)]):=by
 have H0:=h
 unfold Zp8 at H0
 clear h
 refine Zb4 (N:=20) Tryz.func101 rfl rfl (Qe rfl) rfl rfl (fun a g0 hst hb=>?_)
 refine r_a [5] (L:=[(0,_)]) hst hb Za
  (a_p [] rfl (Zd rfl rfl c_f)<|a_p [] rfl (Zd rfl rfl c_b)<|a_n) (fun a g hst hb=>?_)
 refine r_a [5,20] (L:=[(0,_)]) hst hb Za
  (Am 5 rfl<|a_p [0] rfl (Z64 rfl rfl rfl u_0)<|Aa 0 rfl<|a_n) (fun a g hst hb=>?_)
 refine wp_seq ?_
 refine r_a [5,15,20] (L:=[(0,_),(4,_)]) hst hb Za
  (Am 5 rfl<|a_p [0] rfl (Zy5 rfl rfl u_0 c_i)<|a_p [0] rfl (Zdd rfl rfl u_0 c_i)<|a_n) (fun a g hst hb=>?_)
 refine Zbt (fun a w=>∃ (j2:Int) (g:G),w=g.w ∧ St 20 [(0,(pInt .u64 a0)),(4,(pInt .u64 j2))] a g ∧ Base g0 g ∧ Zmu a0 j2=some r) ?_ ?_
 ·rintro a w ⟨j2,g,rfl,hst,hb,H0⟩
  unfold Zmu at H0
  refine Zo ?_
  refine r_a [5,20] (L:=[(0,_),(4,_)]) hst hb Za
   (Am 15 rfl<|a_p [0] rfl (Zxp Zba5 rfl rfl u_0)<|Aa 0 rfl<|a_n) (fun a g hst hb=>?_)
  refine wp_seq ?_
  obtain ⟨r3,h4,H0⟩:=Zc H0
  refine r_a [15,30] (L:=[(0,_),(5,_)]) hst hb Za
   (Am 15 rfl<|a_p [0] rfl (Zr Zwc (Zn0 _ h4) rfl rfl (.cons u_0 .nil))<|Am 5 rfl<|a_p [10,0] rfl (Zdd rfl rfl u_0 u_1)<|a_n) (fun a g hst hb=>?_)
  refine wp_cond_split (hst.bool 1 rfl) (fun hc5=>?_) (fun hc5=>?_)
  ·replace H0:=Z1 hc5 H0
   refine r_a [0,10] (L:=[]) (hst.pick [] rfl) hb Za
    (a_p [] rfl (Zd rfl rfl c_f)<|a_p [] rfl (Zd rfl rfl c_b)<|a_n) (fun a g hst hb=>?_)
   refine wp_ret ?_
   refine Zt ?_
   obtain rfl:=Option.some.inj H0
   exact Zev rfl hst hb (Zi (s:=2)) (Zi (s:=3)) (Zdc (hst.at 0 rfl) (hst.at 1 rfl))
  ·replace H0:=Z0 hc5 H0
   refine wp_skip ?_
   refine Zo ?_
   refine r_a [10,20] (L:=[(5,_)]) (hst.pick [0] rfl) hb Za
    (Am 5 rfl<|Aa 0 rfl<|a_p [] rfl (Zd rfl rfl c_b)<|a_n) (fun a g hst hb=>?_)
   refine wp_ret ?_
   obtain rfl:=Option.some.inj H0
   exact Zev rfl hst hb (Zi (s:=2)) (Zi (s:=3)) (Zdc (hst.at 0 rfl) (hst.at 1 rfl))
 ·refine wp_cond_split (hst.bool 2 rfl) (fun hc1=>?_) (fun hc1=>?_)
  ·replace H0:=Z1 hc1 H0
   refine r_b [5,20] (L:=[(0,_)]) (hst.pick [0] rfl) hb Za
    (Am 5 rfl<|a_p [0] rfl (Zbag rfl rfl u_0 c_i)<|Aa 0 rfl<|a_n) (fun a g hst hb=>?_)
   exact ⟨(Zs3 .u64 a0 (9223372036854775808:Int)),g,rfl,(hst.pick [0,1] rfl),hb,H0⟩
  ·replace H0:=Z0 hc1 H0
   refine wp_skip ?_
   exact ⟨(bXor .u64 IntKind.u64.max a0),g,rfl,(hst.pick [0,1] rfl),hb,H0⟩
theorem Zov (a0:Ze) {r:Nat × Ze} (h:Zgj a0=some r):FnB Tryz.prog 81 [.box Zv a0 r.2] (pFlt r.1):=by
 have H0:=h
 unfold Zgj at H0
 clear h
 refine Ze8 (N:=25) Tryz.func81 rfl rfl (Qe rfl) rfl rfl (fun a g0 bs hbs hst hb=>?_)
 obtain ⟨b0,rfl⟩:=Zmo hbs
 replace hst:St 25 [(0,(Zbi (some b0) Zv 0 a0))] _ _:=hst
 replace hst:St 25 [(0,(pEq (ptrB b0 0))),(1002,(pRB Zv 0 b0 a0))] _ _:=Zgy hst
 refine r_a [5,15] (L:=[(0,_),(1002,_)]) hst hb Za
  (a_p [] rfl (Zd rfl rfl c_f)<|a_n) (fun a g hst hb=>?_)
 refine r_a [5,0,15] (L:=[(0,_),(1002,_)]) hst hb Za
  (a_p [] rfl (Zd rfl rfl c_i)<|a_n) (fun a g hst hb=>?_)
 refine wp_seq ?_
 refine r_a [5,15,0,25] (L:=[(0,_),(3,_),(1002,_)]) hst hb Za
  (a_p [] rfl (Z6 rfl rfl c_i)<|a_n) (fun a g hst hb=>?_)
 obtain ⟨z9,hz1,H0⟩:=Zc H0
 refine Zbt (fun a w=>∃ (y7:Int) (y8:Ze) (g:G),w=g.w ∧ St 25 [(0,(pEq (ptrB b0 0))),(3,(pInt .u64 y7)),(1002,(pRB Zv 0 b0 y8))] a g ∧ Base g0 g ∧ (y7,y8)=z9) ?_ ?_
 ·rintro a w ⟨y7,y8,g,rfl,hst,hb,rfl⟩
  refine Zo ?_
  obtain ⟨r10,h11,H0⟩:=Zc H0
  refine r_a [5,50,60,25] (L:=[(0,_),(3,_),(1002,_)]) hst hb Za
   (Am 15 rfl<|a_p [0] rfl (Zr Zbg7 (Z6u _ h11) rfl rfl (.cons u_0 .nil))<|Am 0 rfl<|a_p [0] rfl (Zba rfl rfl u_0 rfl)<|a_p [10] rfl (Zba rfl rfl u_0 rfl)<|Aa 10 rfl<|Aa 10 rfl<|a_n) (fun a g hst hb=>?_)
  refine wp_seq ?_
  refine r_a [5,15,10,35] (L:=[(0,_),(4,_),(5,_),(1002,_)]) hst hb Za
   (Am 25 rfl<|a_p [0] rfl (Zc2 rfl rfl u_0)<|a_n) (fun a g hst hb=>?_)
  refine Zbt (fun a w=>∃ (j15:Ze) (g:G),w=g.w ∧ St 25 [(0,(pEq (ptrB b0 0))),(4,(pFlt r10.1)),(1002,(pRB Zv 0 b0 j15))] a g ∧ Base g0 g ∧ Zj5 r10 j15=some r) ?_ ?_
  ·rintro a w ⟨j15,g,rfl,hst,hb,H0⟩
   unfold Zj5 at H0
   refine Zo ?_
   refine r_a [5,10,25] (L:=[(0,_),(4,_),(1002,_)]) hst hb Za
    (Am 15 rfl<|Aa 0 rfl<|a_n) (fun a g hst hb=>?_)
   refine wp_ret ?_
   obtain rfl:=Option.some.inj H0
   exact Zfm rfl hst hb (Zi (s:=2)) (hst.at 1 rfl) ⟨Zjy (hst.at 2 rfl),trivial⟩
  ·refine wp_cond_split (hst.bool 2 rfl) (fun hc12=>?_) (fun hc12=>?_)
   ·replace H0:=Z1 hc12 H0
    obtain ⟨r13,h14,H0⟩:=Zc H0
    refine r_b [5,15,11] (L:=[(0,_),(4,_),(1002,_)]) (hst.pick [0,1,3] rfl) hb Za
     (Am 5 rfl<|a_p [0,25] rfl (Zb1 (m:=1002) (A:=[(pInt .i64 (4:Int))]) Zqk (Zdv _ _ h14) rfl rfl rfl (by decide) u_1 u_0 (.cons c_i .nil))<|a_n) (fun a g hst hb=>?_)
    exact ⟨r13,g,rfl,(hst.pick [0,1,2] rfl),hb,H0⟩
   ·replace H0:=Z0 hc12 H0
    refine wp_skip ?_
    exact ⟨y8,g,rfl,(hst.pick [0,1,3] rfl),hb,H0⟩
 ·refine wp_block ?_
  refine wp_loop_ghost (fun n a w=>∃ (x1:Int) (x2:Int) (x3:Ze) (g:G),w=g.w ∧ St 25 [(0,(pEq (ptrB b0 0))),(3,(pInt .u64 x1)),(6,(pInt .i64 x2)),(1002,(pRB Zv 0 b0 x3))] a g ∧ Base g0 g ∧ Zgb n x1 x2 x3=some z9) (Int.toNat ((8:Int) - (0:Int)) + 1) ⟨(0:Int),(0:Int),a0,g,rfl,(hst.pick [0,1,2,3] rfl),hb,hz1⟩ (fun n a w hI=>?_)
  obtain ⟨x1,x2,x3,g,rfl,hst,hb,H1⟩:=hI
  cases n with
  | zero=>exact absurd H1 (by simp [Zgb])
  | succ n =>
   rw [Zgb] at H1
   refine r_a [5,15,25,0,35] (L:=[(0,_),(3,_),(6,_),(1002,_)]) hst hb Za
    (a_p [25] rfl (Zcv rfl rfl u_0 c_i)<|a_n) (fun a g hst hb=>?_)
   refine wp_seq ?_
   refine wp_cond_split (hst.bool 3 rfl) (fun hc4=>?_) (fun hc4=>?_)
   ·replace H1:=Z1 hc4 H1
    refine wp_skip ?_
    refine Zo ?_
    refine wp_seq ?_
    refine wp_block ?_
    obtain ⟨r5,h6,H1⟩:=Zc H1
    refine r_b [5,60,25,31] (L:=[(0,_),(3,_),(6,_),(1002,_)]) (hst.pick [0,1,2,4] rfl) hb Za
     (Am 15 rfl<|a_p [0] rfl (Z36 rfl rfl u_0 c_i (by decide) rfl)<|Am 5 rfl<|a_p [0,35] rfl (Zb1 (m:=1002) (A:=[]) Z9g (Znj _ h6) rfl rfl rfl (by decide) u_1 u_0 .nil)<|a_p [0] rfl (Zen Tryz.underlying5 Tryz.underlying95 rfl rfl u_0 rfl)<|a_p [30,0] rfl (Z3g rfl rfl u_0 u_1)<|Aa 0 rfl<|a_n) (fun a g hst hb=>?_)
    refine Zbn ?_
    refine Zo ?_
    refine r_b [5,15,10,35] (L:=[(0,_),(3,_),(6,_),(1002,_)]) hst hb Za
     (a_p [25] rfl (Zcf rfl rfl u_0 c_i rfl)<|Am 0 rfl<|a_n) (fun a g hst hb=>?_)
    exact ⟨n,Nat.lt_succ_self _,(bOr .u64 (IntKind.u64.wrap (x1 * 2 ^ 8)) (IntKind.u64.wrap r5.1)),(IntKind.i64.wrap (x2 + (1:Int))),r5.2,g,rfl,(hst.pick [0,1,2,3] rfl),hb,H1⟩
   ·replace H1:=Z0 hc4 H1
    refine wp_exit ?_
    refine Zb0 ?_
    refine Zb0 ?_
    refine Zcj ?_
    exact ⟨x1,x3,g,rfl,(hst.pick [0,1,4] rfl),hb,Option.some.inj H1⟩
set_option maxHeartbeats 1000000 in
theorem Z57 (a0:Ze) {r:Zb × Ze} (h:Zp1 a0=some r):FnB Tryz.prog 82 [.box Zv a0 r.2] (Zf.pd r.1):=by
 have H0:=h
 unfold Zp1 at H0
 clear h
 refine Ze8 (N:=74) Tryz.func82 rfl rfl (Qe rfl) rfl rfl (fun a g0 bs hbs hst hb=>?_)
 obtain ⟨b0,rfl⟩:=Zmo hbs
 replace hst:St 74 [(0,(Zbi (some b0) Zv 0 a0))] _ _:=hst
 replace hst:St 74 [(0,(pEq (ptrB b0 0))),(1002,(pRB Zv 0 b0 a0))] _ _:=Zgy hst
 refine r_a [5,0,15] (L:=[(0,_),(1002,_)]) hst hb Za
  (a_p (outs:=[(2,(pBox Zf 2 (default:Zb)))]) (S:=[3]) [] rfl (Zbl (zs:=[.int .i64 0,.int .i64 0,.int .i64 0,.int .i64 0,.float .f64 0,.int .i64 0,.string ByteArray.empty,.slice none 0 0]) (by kernel_rfl) (fun g=>Zc4 g) rfl rfl)<|a_n) (fun a g hst hb=>?_)
 refine r_a [5,15,0,25] (L:=[(0,_),(2,_),(1002,_)]) hst hb Za
  (a_p (outs:=[(3,(Zc5 none Zbp Zby (hpL (pRow Zz 100 503 ((default:Zb).List))) 3 (default:Zb)))]) (S:=[4]) [] rfl (Zqx (R:=hpL (pRow Zz 100 503 ((default:Zb).List))) (zs:=[.int .i64 0,.int .i64 0,.int .i64 0,.int .i64 0,.float .f64 0,.int .i64 0,.string ByteArray.empty,.slice none 0 0]) (none,0,0) (by kernel_rfl) Zzn (fun g=>Zmm 503 g) rfl rfl)<|a_n) (fun a g hst hb=>?_)
 refine wp_seq ?_
 obtain ⟨r1,h2,H0⟩:=Zc H0
 refine r_a [5,15,30,11] (L:=[(0,_),(2,_),(3,_),(1002,_)]) hst hb Za
  (Am 5 rfl<|a_p [0,35] rfl (Zb1 (m:=1002) (A:=[(pInt .i64 (9:Int))]) Ztz (Zf3 _ _ h2) rfl rfl rfl (by decide) u_1 u_0 (.cons c_i .nil))<|a_p [25] rfl (Zg6 Zuj (off:=0) (by kernel_rfl) (fun _=>rfl) rfl rfl u_0)<|a_p [10,0,25] rfl (Zl2 (x':=({ (default:Zb) with Kind:=r1.1 }:Zb)) ty_3 rfl rfl (fun k hk=>by rw [List.mem_singleton.1 hk];decide) u_2 u_1 u_0 (fun g cs s0 ys h k=>Zxb h k))<|a_n) (fun a g hst hb=>?_)
 refine r_a [5,15,25,20,35] (L:=[(0,_),(2,_),(3,_),(1002,_)]) hst hb Za
  (a_p [25] rfl (Zg6 Zuj (off:=0) (by kernel_rfl) (fun _=>rfl) rfl rfl u_0)<|a_p [0] rfl (Zt6 ty_3 rfl rfl u_0)<|a_p [0] rfl (Zci rfl rfl u_0 c_i)<|a_n) (fun a g hst hb=>?_)
 refine Zbt (fun a w=>∃ (j6:Ze) (g:G),w=g.w ∧ St 74 [(0,(pEq (ptrB b0 0))),(2,(pBox Zf 2 (default:Zb))),(3,(Zc5 none Zbp Zby (hpL (pRow Zz 100 503 (({ (default:Zb) with Kind:=r1.1 }:Zb).List))) 3 ({ (default:Zb) with Kind:=r1.1 }:Zb))),(1002,(pRB Zv 0 b0 j6))] a g ∧ Base g0 g ∧ Zld r1 j6=some r) ?_ ?_
 ·rintro a w ⟨j6,g,rfl,hst,hb,H0⟩
  unfold Zld at H0
  refine Zo ?_
  obtain ⟨r7,h8,H0⟩:=Zc H0
  refine r_a [5,15,25,40,35] (L:=[(0,_),(2,_),(3,_),(1002,_)]) hst hb Za
   (a_p [25] rfl (Zg6 Zuj (off:=0) (by kernel_rfl) (fun _=>rfl) rfl rfl u_0)<|a_p [0] rfl (Zt6 ty_3 rfl rfl u_0)<|a_p [0] rfl (Zr Z87 (Zq9 _ h8) rfl rfl (.cons u_0 .nil))<|a_p (outs:=[(4,(pBox Zcm 4 (default:Zb6)))]) (S:=[5]) [] rfl (Zbl (zs:=[.bool false,.bool false,.bool false,.bool false,.bool false]) (by kernel_rfl) (fun g=>Zpo g) rfl rfl)<|a_p [10,0] rfl (Zch Zjf rfl rfl u_1 u_0)<|a_n) (fun a g hst hb=>?_)
  refine wp_seq ?_
  refine r_a [5,15,25,35,10,45] (L:=[(0,_),(2,_),(3,_),(4,_),(1002,_)]) hst hb Za
   (Af Zxx 35 rfl<|Al ty_4 0 rfl<|a_n) (fun a g hst hb=>?_)
  refine Zbt (fun a w=>∃ (j12:Zb) (j13:Ze) (g:G),w=g.w ∧ St 74 [(0,(pEq (ptrB b0 0))),(2,(pBox Zf 2 (default:Zb))),(3,(Zc5 none Zbp Zby (hpL (pRow Zz 100 503 j12.List)) 3 j12)),(4,(Zcm.ptr r7)),(1002,(pRB Zv 0 b0 j13))] a g ∧ Base g0 g ∧ Zlc r7 j12 j13=some r) ?_ ?_
  ·rintro a w ⟨j12,j13,g,rfl,hst,hb,H0⟩
   unfold Zlc at H0
   refine Zo ?_
   refine wp_seq ?_
   refine r_a [5,15,25,35,10,45] (L:=[(0,_),(2,_),(3,_),(4,_),(1002,_)]) hst hb Za
    (Af Zui 35 rfl<|Al ty_4 0 rfl<|a_n) (fun a g hst hb=>?_)
   refine Zbt (fun a w=>∃ (j19:Zb) (j20:Ze) (g:G),w=g.w ∧ St 74 [(0,(pEq (ptrB b0 0))),(2,(pBox Zf 2 (default:Zb))),(3,(Zc5 none Zbp Zby (hpL (pRow Zz 100 503 j19.List)) 3 j19)),(4,(Zcm.ptr r7)),(1002,(pRB Zv 0 b0 j20))] a g ∧ Base g0 g ∧ Zjs r7 j19 j20=some r) ?_ ?_
   ·rintro a w ⟨j19,j20,g,rfl,hst,hb,H0⟩
    unfold Zjs at H0
    refine Zo ?_
    refine wp_seq ?_
    refine r_a [5,15,25,35,10,45] (L:=[(0,_),(2,_),(3,_),(4,_),(1002,_)]) hst hb Za
     (Af Zyn 35 rfl<|Al ty_4 0 rfl<|a_n) (fun a g hst hb=>?_)
    refine Zbt (fun a w=>∃ (j24:Zb) (j25:Ze) (g:G),w=g.w ∧ St 74 [(0,(pEq (ptrB b0 0))),(2,(pBox Zf 2 (default:Zb))),(3,(Zc5 none Zbp Zby (hpL (pRow Zz 100 503 j24.List)) 3 j24)),(4,(Zcm.ptr r7)),(1002,(pRB Zv 0 b0 j25))] a g ∧ Base g0 g ∧ Zm2 r7 j24 j25=some r) ?_ ?_
    ·rintro a w ⟨j24,j25,g,rfl,hst,hb,H0⟩
     unfold Zm2 at H0
     refine Zo ?_
     refine wp_seq ?_
     refine r_a [5,15,25,35,10,45] (L:=[(0,_),(2,_),(3,_),(4,_),(1002,_)]) hst hb Za
      (Af Zyo 35 rfl<|Al ty_4 0 rfl<|a_n) (fun a g hst hb=>?_)
     refine Zbt (fun a w=>∃ (j29:Zb) (j30:Ze) (g:G),w=g.w ∧ St 74 [(0,(pEq (ptrB b0 0))),(2,(pBox Zf 2 (default:Zb))),(3,(Zc5 none Zbp Zby (hpL (pRow Zz 100 503 j29.List)) 3 j29)),(4,(Zcm.ptr r7)),(1002,(pRB Zv 0 b0 j30))] a g ∧ Base g0 g ∧ Zmw r7 j29 j30=some r) ?_ ?_
     ·rintro a w ⟨j29,j30,g,rfl,hst,hb,H0⟩
      unfold Zmw at H0
      refine Zo ?_
      refine wp_seq ?_
      refine r_a [5,15,25,10,45] (L:=[(0,_),(2,_),(3,_),(4,_),(1002,_)]) hst hb Za
       (Af Ztr 35 rfl<|Al ty_4 0 rfl<|a_n) (fun a g hst hb=>?_)
      refine Zbt (fun a w=>∃ (j51:Zb) (j52:Ze) (g:G),w=g.w ∧ St 74 [(0,(pEq (ptrB b0 0))),(2,(pBox Zf 2 (default:Zb))),(3,(Zc5 none Zbp Zby (hpL (pRow Zz 100 503 j51.List)) 3 j51)),(1002,(pRB Zv 0 b0 j52))] a g ∧ Base g0 g ∧ Zjt j51 j52=some r) ?_ ?_
      ·rintro a w ⟨j51,j52,g,rfl,hst,hb,H0⟩
       unfold Zjt at H0
       refine Zo ?_
       refine wp_seq ?_
       obtain ⟨r53,h54,H0⟩:=Zc H0
       refine r_a [5,15,25,20,35] (L:=[(0,_),(2,_),(3,_),(1002,_)]) hst hb Za
        (a_p [25] rfl (Zp6 Zse Zbr rfl rfl u_0)<|a_p [0] rfl (Zr Z3d (Zpi _ h54) rfl rfl (.cons u_0 .nil))<|Aa 0 rfl<|a_n) (fun a g hst hb=>?_)
       refine r_a [5,15,25,35,10,45] (L:=[(0,_),(2,_),(3,_),(6,_),(1002,_)]) hst hb Za
        (Am 35 rfl<|a_p [0] rfl (Zdd rfl rfl u_0 c_i)<|a_n) (fun a g hst hb=>?_)
       refine Zbt (fun a w=>∃ (j58:Ze) (g:G),w=g.w ∧ St 74 [(0,(pEq (ptrB b0 0))),(2,(pBox Zf 2 (default:Zb))),(3,(Zc5 none Zbp Zby (hpL (pRow Zz 100 503 j51.List)) 3 j51)),(1002,(pRB Zv 0 b0 j58))] a g ∧ Base g0 g ∧ Zqj j51 j58=some r) ?_ ?_
       ·rintro a w ⟨j58,g,rfl,hst,hb,H0⟩
        unfold Zqj at H0
        refine Zo ?_
        refine r_a [5,10,35] (L:=[(0,_),(2,_),(3,_),(1002,_)]) hst hb Za
         (a_p [25] rfl (Zp6 Zse Zbr rfl rfl u_0)<|a_p [0,15] rfl (Zbg Zbr rfl rfl u_1 u_0)<|a_n) (fun a g hst hb=>?_)
        refine wp_ret ?_
        obtain rfl:=Option.some.inj H0
        obtain ⟨u0,hu0,hq0⟩:=Zbo (P:=Tryz.prog) Zbr (hst.at 1 rfl)
        exact Zfm rfl hst hb hu0 hq0 ⟨Zjy (hst.at 2 rfl),trivial⟩
       ·refine wp_cond_split (hst.bool 4 rfl) (fun hc55=>?_) (fun hc55=>?_)
        ·replace H0:=Z1 hc55 H0
         obtain ⟨r56,h57,H0⟩:=Zc H0
         refine r_b [5,15,25,21] (L:=[(0,_),(2,_),(3,_),(6,_),(1002,_)]) (hst.pick [0,1,2,3,5] rfl) hb Za
          (Am 5 rfl<|Am 35 rfl<|a_p [10,45,0] rfl (Zb1 (m:=1002) (A:=[(pInt .i64 r53)]) Zt7 (Zf1 _ _ h57) rfl rfl rfl (by decide) u_1 u_0 (.cons u_2 .nil))<|a_n) (fun a g hst hb=>?_)
         exact ⟨r56,g,rfl,(hst.pick [0,1,2,3] rfl),hb,H0⟩
        ·replace H0:=Z0 hc55 H0
         refine wp_skip ?_
         exact ⟨j52,g,rfl,(hst.pick [0,1,2,5] rfl),hb,H0⟩
      ·refine wp_cond_split (hst.bool 3 rfl) (fun hc31=>?_) (fun hc31=>?_)
       ·replace H0:=Z1 hc31 H0
        obtain ⟨r32,h33,H0⟩:=Zc H0
        refine r_a [5,15,30,11] (L:=[(0,_),(2,_),(3,_),(1002,_)]) (hst.pick [0,1,2,4] rfl) hb Za
         (Am 5 rfl<|a_p [0,35] rfl (Zb1 (m:=1002) (A:=[(pInt .i64 (32:Int))]) Ztz (Zf3 _ _ h33) rfl rfl rfl (by decide) u_1 u_0 (.cons c_i .nil))<|a_p [25] rfl (Zg6 Zbbz (off:=5) (by kernel_rfl) (fun _=>rfl) rfl rfl u_0)<|a_p [10,0,25] rfl (Zl2 (x':=({ j29 with Cap:=r32.1 }:Zb)) ty_3 rfl rfl (fun k hk=>by rw [List.mem_singleton.1 hk];decide) u_2 u_1 u_0 (fun g cs s0 ys h k=>Zw2 h k))<|a_n) (fun a g hst hb=>?_)
        obtain ⟨r34,h35,H0⟩:=Zc H0
        refine r_a [5,15,25,10,20,11] (L:=[(0,_),(2,_),(3,_),(1002,_)]) hst hb Za
         (Am 5 rfl<|a_p [0,35] rfl (Zb1 (m:=1002) (A:=[(pInt .i64 (32:Int))]) Ztz (Zf3 _ _ h35) rfl rfl rfl (by decide) u_1 u_0 (.cons c_i .nil))<|a_p [] rfl (Z6 rfl rfl c_i)<|a_n) (fun a g hst hb=>?_)
        obtain ⟨z50,hz1,H0⟩:=Zc H0
        refine Zbt (fun a w=>∃ (y48:Zb) (y49:Ze) (g:G),w=g.w ∧ St 74 [(0,(pEq (ptrB b0 0))),(2,(pBox Zf 2 (default:Zb))),(3,(Zc5 none Zbp Zby (hpL (pRow Zz 100 503 y48.List)) 3 y48)),(1002,(pRB Zv 0 b0 y49))] a g ∧ Base g0 g ∧ (y48,y49)=z50) ?_ ?_
        ·rintro a w ⟨y48,y49,g,rfl,hst,hb,rfl⟩
         exact ⟨y48,y49,g,rfl,(hst.pick [0,1,2,3] rfl),hb,H0⟩
        ·refine wp_block ?_
         refine wp_loop_ghost (fun n a w=>∃ (x36:Zb) (x37:Int) (x38:Ze) (g:G),w=g.w ∧ St 74 [(0,(pEq (ptrB b0 0))),(2,(pBox Zf 2 (default:Zb))),(3,(Zc5 none Zbp Zby (hpL (pRow Zz 100 503 x36.List)) 3 x36)),(47,(pInt .i64 r34.1)),(48,(pInt .i64 x37)),(1002,(pRB Zv 0 b0 x38))] a g ∧ Base g0 g ∧ Zfw r34 n x36 x37 x38=some z50) (Int.toNat (r34.1 - (0:Int)) + 1) ⟨({ j29 with Cap:=r32.1 }:Zb),(0:Int),r34.2,g,rfl,(hst.pick [0,1,2,3,4,5] rfl),hb,hz1⟩ (fun n a w hI=>?_)
         obtain ⟨x36,x37,x38,g,rfl,hst,hb,H1⟩:=hI
         cases n with
         | zero=>exact absurd H1 (by simp [Zfw])
         | succ n =>
          rw [Zfw] at H1
          refine r_a [5,15,25,35,45,0,55] (L:=[(0,_),(2,_),(3,_),(47,_),(48,_),(1002,_)]) hst hb Za
           (a_p [45,35] rfl (Zcv rfl rfl u_0 u_1)<|a_n) (fun a g hst hb=>?_)
          refine wp_seq ?_
          refine wp_cond_split (hst.bool 5 rfl) (fun hc39=>?_) (fun hc39=>?_)
          ·replace H1:=Z1 hc39 H1
           refine wp_skip ?_
           refine Zo ?_
           refine wp_seq ?_
           refine wp_block ?_
           refine r_a [5,15,25,0,35,45,55] (L:=[(0,_),(2,_),(3,_),(47,_),(48,_),(1002,_)]) (hst.pick [0,1,2,3,4,6] rfl) hb Za
            (a_p (outs:=[(5,(pBox Zz 5 (default:Zh)))]) (S:=[6]) [] rfl (Zbl (zs:=[.float .f64 0,.string ByteArray.empty]) (by kernel_rfl) (fun g=>Zjx g) rfl rfl)<|a_n) (fun a g hst hb=>?_)
           refine wp_seq ?_
           refine r_a [5,15,25,35,45,55,20,65] (L:=[(0,_),(2,_),(3,_),(5,_),(47,_),(48,_),(1002,_)]) hst hb Za
            (a_p [25] rfl (Zg6 Zuj (off:=0) (by kernel_rfl) (fun _=>rfl) rfl rfl u_0)<|a_p [0] rfl (Zt6 ty_3 rfl rfl u_0)<|a_p [0] rfl (Zci rfl rfl u_0 c_i)<|a_n) (fun a g hst hb=>?_)
           refine Zbt (fun a w=>∃ (j43:Zh) (j44:Ze) (g:G),w=g.w ∧ St 74 [(0,(pEq (ptrB b0 0))),(2,(pBox Zf 2 (default:Zb))),(3,(Zc5 none Zbp Zby (hpL (pRow Zz 100 503 x36.List)) 3 x36)),(5,(pBox Zz 5 j43)),(47,(pInt .i64 r34.1)),(48,(pInt .i64 x37)),(1002,(pRB Zv 0 b0 j44))] a g ∧ Base g0 g ∧ Zle x36 x37 (Zfw r34 n) j43 j44=some z50) ?_ ?_
           ·rintro a w ⟨j43,j44,g,rfl,hst,hb,H1⟩
            unfold Zle at H1
            refine Zo ?_
            obtain ⟨r45,h46,H1⟩:=Zc H1
            refine r_a [5,15,25,30,45,55,11] (L:=[(0,_),(2,_),(3,_),(5,_),(47,_),(48,_),(1002,_)]) hst hb Za
             (Am 5 rfl<|a_p [0,65] rfl (Zb1 (m:=1002) (A:=[(pInt .i64 (16:Int))]) Z2w (Zmg _ _ h46) rfl rfl rfl (by decide) u_1 u_0 (.cons c_i .nil))<|a_p [35] rfl (Zbf Zfg (off:=1) (by kernel_rfl) rfl rfl u_0)<|a_p [10,0,35] rfl (Zbcr ty_9 rfl rfl u_2 u_1 u_0)<|a_n) (fun a g hst hb=>?_)
            obtain ⟨h47,H1⟩:=Ze0 H1
            refine r_b [5,15,60,45,55,65] (L:=[(0,_),(2,_),(3,_),(5,_),(47,_),(48,_),(1002,_)]) hst hb Za
             (a_p [25] rfl (Zk0 Z5h (off:=7) (q:=(pRow Zz 100 503 x36.List)) (by kernel_rfl) (pr:=id) (fun _=>rfl) (fun _ _ h=>h) rfl rfl u_0)<|a_p [0] rfl (Zrq Zbbl rfl rfl u_0)<|AM Zfa 35 rfl<|a_p [0] rfl (Zjd Ze6 (xs:=[.tmp 61]) (.cons u_0 .nil) (by decide) rfl rfl)<|a_p (outs:=[(3,(Zc5 none Zbp Zby hpT 3 x36)),(63,(pRow Zz 100 503 (x36.List ++ ([({ j43 with Name:=r45.1 })]:List Zh))))]) (S:=[504]) [20,0,25] rfl (OB.frameU (Zfc Ze6 rfl rfl u_0 u_1 h47) (Opd.imp u_2 (fun _ _ h=>Zzq h)) (fun k hk hS=>Z3a (List.mem_singleton.1 hk) (List.mem_singleton.1 hS) (by decide)) (fun h=>by cases h))<|a_p [0] rfl (Zk0 Z5h (off:=7) (q:=pAny) (by kernel_rfl) (pr:=id) (fun _=>rfl) (fun _ _ _=>trivial) rfl rfl u_0)<|a_p [11,0,10] rfl (Zsq (x':=({ x36 with List:=(x36.List ++ ([({ j43 with Name:=r45.1 })]:List Zh)) }:Zb)) (R2:=hpL (pRow Zz 100 503 (({ x36 with List:=(x36.List ++ ([({ j43 with Name:=r45.1 })]:List Zh)) }:Zb).List))) (upd:=fun _ s2=>s2) Zbbl rfl rfl (fun _ _ h=>Zmv h) (fun k hk=>by rw [List.mem_singleton.1 hk];decide) (fun k hk=>by cases hk) u_2 (fun a g hh=>Zv9 (u_1 a g hh)) u_0 (fun _ _ _ _ h=>h) (fun g cs s0 s1 ys h k=>Zza h k))<|a_n) (fun a g hst hb=>?_)
            refine Zbn ?_
            refine Zo ?_
            refine r_b [5,15,25,35,10,55] (L:=[(0,_),(2,_),(3,_),(47,_),(48,_),(1002,_)]) hst hb Za
             (a_p [45] rfl (Zcf rfl rfl u_0 c_i rfl)<|Am 0 rfl<|a_n) (fun a g hst hb=>?_)
            exact ⟨n,Nat.lt_succ_self _,({ x36 with List:=(x36.List ++ ([({ j43 with Name:=r45.1 })]:List Zh)) }:Zb),(IntKind.i64.wrap (x37 + (1:Int))),r45.2,g,rfl,(hst.pick [0,1,2,3,4,5] rfl),hb,H1⟩
           ·refine wp_cond_split (hst.bool 6 rfl) (fun hc40=>?_) (fun hc40=>?_)
            ·replace H1:=Z1 hc40 H1
             obtain ⟨r41,h42,H1⟩:=Zc H1
             refine r_b [5,15,25,30,45,55,11] (L:=[(0,_),(2,_),(3,_),(5,_),(47,_),(48,_),(1002,_)]) (hst.pick [0,1,2,3,4,5,7] rfl) hb Za
              (Am 5 rfl<|a_p [0,65] rfl (Zb1 (m:=1002) (A:=[]) Z88 (Zov _ h42) rfl rfl rfl (by decide) u_1 u_0 .nil)<|a_p [35] rfl (Zbf Zf2 (off:=0) (by kernel_rfl) rfl rfl u_0)<|a_p [10,0,35] rfl (Zbc6 Zd7 rfl rfl u_2 u_1 u_0)<|a_n) (fun a g hst hb=>?_)
             refine ⟨_,_,g,rfl,?_,hb,H1⟩
             exact (hst.pick [0,1,2,3,4,5,6] rfl)
            ·replace H1:=Z0 hc40 H1
             refine wp_skip ?_
             exact ⟨(default:Zh),x38,g,rfl,(hst.pick [0,1,2,3,4,5,7] rfl),hb,H1⟩
          ·replace H1:=Z0 hc39 H1
           refine wp_exit ?_
           refine Zb0 ?_
           refine Zb0 ?_
           refine Zcj ?_
           exact ⟨x36,x38,g,rfl,(hst.pick [0,1,2,6] rfl),hb,Option.some.inj H1⟩
       ·replace H0:=Z0 hc31 H0
        refine wp_skip ?_
        exact ⟨j29,j30,g,rfl,(hst.pick [0,1,2,4] rfl),hb,H0⟩
     ·refine wp_cond_split (hst.bool 4 rfl) (fun hc26=>?_) (fun hc26=>?_)
      ·replace H0:=Z1 hc26 H0
       obtain ⟨r27,h28,H0⟩:=Zc H0
       refine r_b [5,15,30,35,11] (L:=[(0,_),(2,_),(3,_),(4,_),(1002,_)]) (hst.pick [0,1,2,3,5] rfl) hb Za
        (Am 5 rfl<|a_p [0,45] rfl (Zb1 (m:=1002) (A:=[]) Z88 (Zov _ h28) rfl rfl rfl (by decide) u_1 u_0 .nil)<|a_p [25] rfl (Zg6 Zbcf (off:=4) (by kernel_rfl) (fun _=>rfl) rfl rfl u_0)<|a_p [10,0,25] rfl (Zl2 (x':=({ j24 with Real:=r27.1 }:Zb)) Zd7 rfl rfl (fun k hk=>by rw [List.mem_singleton.1 hk];decide) u_2 u_1 u_0 (fun g cs s0 ys h k=>Zwu h k))<|a_n) (fun a g hst hb=>?_)
       refine ⟨_,_,g,rfl,?_,hb,H0⟩
       exact (hst.pick [0,1,2,3,4] rfl)
      ·replace H0:=Z0 hc26 H0
       refine wp_skip ?_
       exact ⟨j24,j25,g,rfl,(hst.pick [0,1,2,3,5] rfl),hb,H0⟩
    ·refine wp_cond_split (hst.bool 4 rfl) (fun hc21=>?_) (fun hc21=>?_)
     ·replace H0:=Z1 hc21 H0
      obtain ⟨r22,h23,H0⟩:=Zc H0
      refine r_b [5,15,30,35,11] (L:=[(0,_),(2,_),(3,_),(4,_),(1002,_)]) (hst.pick [0,1,2,3,5] rfl) hb Za
       (Am 5 rfl<|a_p [0,45] rfl (Zb1 (m:=1002) (A:=[]) Z2t (Zmd _ h23) rfl rfl rfl (by decide) u_1 u_0 .nil)<|a_p [25] rfl (Zg6 Zbb6 (off:=1) (by kernel_rfl) (fun _=>rfl) rfl rfl u_0)<|a_p [10,0,25] rfl (Zl2 (x':=({ j19 with Num:=r22.1 }:Zb)) ty_2 rfl rfl (fun k hk=>by rw [List.mem_singleton.1 hk];decide) u_2 u_1 u_0 (fun g cs s0 ys h k=>Zw0 h k))<|a_n) (fun a g hst hb=>?_)
      refine ⟨_,_,g,rfl,?_,hb,H0⟩
      exact (hst.pick [0,1,2,3,4] rfl)
     ·replace H0:=Z0 hc21 H0
      refine wp_skip ?_
      exact ⟨j19,j20,g,rfl,(hst.pick [0,1,2,3,5] rfl),hb,H0⟩
   ·refine wp_cond_split (hst.bool 4 rfl) (fun hc14=>?_) (fun hc14=>?_)
    ·replace H0:=Z1 hc14 H0
     obtain ⟨r15,h16,H0⟩:=Zc H0;obtain ⟨r17,h18,H0⟩:=Zc H0
     refine r_b [5,15,70,35,31] (L:=[(0,_),(2,_),(3,_),(4,_),(1002,_)]) (hst.pick [0,1,2,3,5] rfl) hb Za
      (Am 5 rfl<|a_p [0,45] rfl (Zb1 (m:=1002) (A:=[]) Z2t (Zmd _ h16) rfl rfl rfl (by decide) u_1 u_0 .nil)<|Am 5 rfl<|a_p [0,11] rfl (Zb1 (m:=1002) (A:=[]) Z2t (Zmd _ h18) rfl rfl rfl (by decide) u_1 u_0 .nil)<|a_p [25] rfl (Zg6 Zbcq (off:=2) (by kernel_rfl) (fun _=>rfl) rfl rfl u_0)<|a_p [30,0,25] rfl (Zl2 (x':=({ j12 with Low:=r15.1 }:Zb)) ty_2 rfl rfl (fun k hk=>by rw [List.mem_singleton.1 hk];decide) u_2 u_1 u_0 (fun g cs s0 ys h k=>Zwy h k))<|a_p [0] rfl (Zg6 Zbdo (off:=3) (by kernel_rfl) (fun _=>rfl) rfl rfl u_0)<|a_p [30,0,10] rfl (Zl2 (x':=({ ({ j12 with Low:=r15.1 }:Zb) with High:=r17.1 }:Zb)) ty_2 rfl rfl (fun k hk=>by rw [List.mem_singleton.1 hk];decide) u_2 u_1 u_0 (fun g cs s0 ys h k=>Zw6 h k))<|a_n) (fun a g hst hb=>?_)
     refine ⟨_,_,g,rfl,?_,hb,H0⟩
     exact (hst.pick [0,1,2,3,4] rfl)
    ·replace H0:=Z0 hc14 H0
     refine wp_skip ?_
     exact ⟨j12,j13,g,rfl,(hst.pick [0,1,2,3,5] rfl),hb,H0⟩
  ·refine wp_cond_split (hst.bool 4 rfl) (fun hc9=>?_) (fun hc9=>?_)
   ·replace H0:=Z1 hc9 H0
    obtain ⟨r10,h11,H0⟩:=Zc H0
    refine r_b [5,15,30,35,11] (L:=[(0,_),(2,_),(3,_),(4,_),(1002,_)]) (hst.pick [0,1,2,3,5] rfl) hb Za
     (Am 5 rfl<|a_p [0,45] rfl (Zb1 (m:=1002) (A:=[(pInt .i64 (64:Int))]) Z2w (Zmg _ _ h11) rfl rfl rfl (by decide) u_1 u_0 (.cons c_i .nil))<|a_p [25] rfl (Zg6 Zbc7 (off:=6) (by kernel_rfl) (fun _=>rfl) rfl rfl u_0)<|a_p [10,0,25] rfl (Zl2 (x':=({ ({ (default:Zb) with Kind:=r1.1 }:Zb) with Text:=r10.1 }:Zb)) ty_9 rfl rfl (fun k hk=>by rw [List.mem_singleton.1 hk];decide) u_2 u_1 u_0 (fun g cs s0 ys h k=>Zxa h k))<|a_n) (fun a g hst hb=>?_)
    refine ⟨_,_,g,rfl,?_,hb,H0⟩
    exact (hst.pick [0,1,2,3,4] rfl)
   ·replace H0:=Z0 hc9 H0
    refine wp_skip ?_
    refine ⟨_,_,g,rfl,?_,hb,H0⟩
    exact (hst.pick [0,1,2,3,5] rfl)
 ·refine wp_cond_split (hst.bool 3 rfl) (fun hc3=>?_) (fun hc3=>?_)
  ·replace H0:=Z1 hc3 H0
   obtain ⟨r4,h5,H0⟩:=Zc H0
   refine r_b [5,15,25,11] (L:=[(0,_),(2,_),(3,_),(1002,_)]) (hst.pick [0,1,2,4] rfl) hb Za
    (Am 5 rfl<|a_p [0,35] rfl (Zb1 (m:=1002) (A:=[(pInt .i64 (5:Int))]) Zt7 (Zf1 _ _ h5) rfl rfl rfl (by decide) u_1 u_0 (.cons c_i .nil))<|a_n) (fun a g hst hb=>?_)
   exact ⟨r4,g,rfl,(hst.pick [0,1,2,3] rfl),hb,H0⟩
  ·replace H0:=Z0 hc3 H0
   refine wp_skip ?_
   exact ⟨r1.2,g,rfl,(hst.pick [0,1,2,4] rfl),hb,H0⟩
set_option maxHeartbeats 1000000 in
theorem Z60 (a0:Ze) {r:Zs × Ze} (h:Zr2 a0=some r):FnB Tryz.prog 50 [.box Zv a0 r.2] (Zy.pd r.1):=by
 have H0:=h
 unfold Zr2 at H0
 clear h
 refine Ze8 (N:=53) Tryz.func50 rfl rfl (Qe rfl) rfl rfl (fun a g0 bs hbs hst hb=>?_)
 obtain ⟨b0,rfl⟩:=Zmo hbs
 replace hst:St 53 [(0,(Zbi (some b0) Zv 0 a0))] _ _:=hst
 replace hst:St 53 [(0,(pEq (ptrB b0 0))),(1002,(pRB Zv 0 b0 a0))] _ _:=Zgy hst
 refine r_a [5,0,15] (L:=[(0,_),(1002,_)]) hst hb Za
  (a_p (outs:=[(2,(pBox Zy 2 (default:Zs)))]) (S:=[3]) [] rfl (Zbl (zs:=[.int .i64 0,.string ByteArray.empty,.int .i64 0,.float .f64 0,.string ByteArray.empty,.int .i64 0,.int .i64 0,.int .i64 0,.int .i64 0,.float .f64 0,.int .i64 0,.string ByteArray.empty,.slice none 0 0,.bool false]) (by kernel_rfl) (fun g=>Zn3 g) rfl rfl)<|a_n) (fun a g hst hb=>?_)
 refine r_a [5,15,0,25] (L:=[(0,_),(2,_),(1002,_)]) hst hb Za
  (a_p (outs:=[(3,(pBox Zy 3 (default:Zs)))]) (S:=[4]) [] rfl (Zbl (zs:=[.int .i64 0,.string ByteArray.empty,.int .i64 0,.float .f64 0,.string ByteArray.empty,.int .i64 0,.int .i64 0,.int .i64 0,.int .i64 0,.float .f64 0,.int .i64 0,.string ByteArray.empty,.slice none 0 0,.bool false]) (by kernel_rfl) (fun g=>Zn3 g) rfl rfl)<|a_n) (fun a g hst hb=>?_)
 refine wp_seq ?_
 obtain ⟨r1,h2,H0⟩:=Zc H0
 refine r_a [5,15,30,11] (L:=[(0,_),(2,_),(3,_),(1002,_)]) hst hb Za
  (Am 5 rfl<|a_p [0,35] rfl (Zb1 (m:=1002) (A:=[(pInt .i64 (21:Int))]) Ztz (Zf3 _ _ h2) rfl rfl rfl (by decide) u_1 u_0 (.cons c_i .nil))<|a_p [25] rfl (Zbf Zgn (off:=0) (by kernel_rfl) rfl rfl u_0)<|a_p [10,0,25] rfl (Zbgr ty_3 rfl rfl u_2 u_1 u_0)<|a_n) (fun a g hst hb=>?_)
 refine r_a [5,15,25,20,35] (L:=[(0,_),(2,_),(3,_),(1002,_)]) hst hb Za
  (a_p [25] rfl (Zbf Zgn (off:=0) (by kernel_rfl) rfl rfl u_0)<|AP ty_3 0 rfl<|a_p [0] rfl (Zci rfl rfl u_0 c_i)<|a_n) (fun a g hst hb=>?_)
 refine Zbt (fun a w=>∃ (j6:Ze) (g:G),w=g.w ∧ St 53 [(0,(pEq (ptrB b0 0))),(2,(pBox Zy 2 (default:Zs))),(3,(pBox Zy 3 ({ (default:Zs) with Kind:=r1.1 }))),(1002,(pRB Zv 0 b0 j6))] a g ∧ Base g0 g ∧ Zk8 r1 j6=some r) ?_ ?_
 ·rintro a w ⟨j6,g,rfl,hst,hb,H0⟩
  unfold Zk8 at H0
  refine Zo ?_
  obtain ⟨r7,h8,H0⟩:=Zc H0
  refine r_a [5,15,25,40,35] (L:=[(0,_),(2,_),(3,_),(1002,_)]) hst hb Za
   (a_p [25] rfl (Zbf Zgn (off:=0) (by kernel_rfl) rfl rfl u_0)<|AP ty_3 0 rfl<|a_p [0] rfl (Zr Z2x (Zsm _ h8) rfl rfl (.cons u_0 .nil))<|a_p (outs:=[(4,(pBox Zda 4 (default:Zcx)))]) (S:=[5]) [] rfl (Zbl (zs:=[.string ByteArray.empty,.int .i64 0,.string ByteArray.empty]) (by kernel_rfl) (fun g=>Zql g) rfl rfl)<|a_p [10,0] rfl (Zch Zgc rfl rfl u_1 u_0)<|a_n) (fun a g hst hb=>?_)
  obtain ⟨r9,h10,H0⟩:=Zc H0
  refine r_a [5,15,30,35,11] (L:=[(0,_),(2,_),(3,_),(4,_),(1002,_)]) hst hb Za
   (Am 5 rfl<|a_p [0,45] rfl (Zb1 (m:=1002) (A:=[]) Zbkr (Zuy _ h10) rfl rfl rfl (by decide) u_1 u_0 .nil)<|a_p [25] rfl (Zbf Zro (off:=13) (by kernel_rfl) rfl rfl u_0)<|a_p [10,0,25] rfl (Zbe3 ty_4 rfl rfl u_2 u_1 u_0)<|a_n) (fun a g hst hb=>?_)
  obtain ⟨r11,h12,H0⟩:=Zc H0
  refine r_a [5,15,30,35,11] (L:=[(0,_),(2,_),(3,_),(4,_),(1002,_)]) hst hb Za
   (Am 5 rfl<|a_p [0,45] rfl (Zb1 (m:=1002) (A:=[(pInt .i64 (24:Int))]) Z2w (Zmg _ _ h12) rfl rfl rfl (by decide) u_1 u_0 (.cons c_i .nil))<|a_p [25] rfl (Zbf Zmx (off:=1) (by kernel_rfl) rfl rfl u_0)<|a_p [10,0,25] rfl (Zbc4 ty_9 rfl rfl u_2 u_1 u_0)<|a_n) (fun a g hst hb=>?_)
  refine wp_seq ?_
  obtain ⟨r13,h14,H0⟩:=Zc H0
  refine r_a [5,15,25,35,10,45] (L:=[(0,_),(2,_),(3,_),(4,_),(1002,_)]) hst hb Za
   (Al Zgc 35 rfl<|a_p [0] rfl (Zr Zos (Zdr _ _ h14) rfl rfl (.cons u_0 (.cons c_i .nil)))<|a_n) (fun a g hst hb=>?_)
  refine Zbt (fun a w=>∃ (j18:Zs) (j19:Ze) (g:G),w=g.w ∧ St 53 [(0,(pEq (ptrB b0 0))),(2,(pBox Zy 2 (default:Zs))),(3,(pBox Zy 3 j18)),(4,(Zda.ptr r7)),(1002,(pRB Zv 0 b0 j19))] a g ∧ Base g0 g ∧ Zhi r7 j18 j19=some r) ?_ ?_
  ·rintro a w ⟨j18,j19,g,rfl,hst,hb,H0⟩
   unfold Zhi at H0
   refine Zo ?_
   refine wp_seq ?_
   obtain ⟨r20,h21,H0⟩:=Zc H0
   refine r_a [5,15,25,35,10,45] (L:=[(0,_),(2,_),(3,_),(4,_),(1002,_)]) hst hb Za
    (Al Zgc 35 rfl<|a_p [0] rfl (Zr Zos (Zdr _ _ h21) rfl rfl (.cons u_0 (.cons c_i .nil)))<|a_n) (fun a g hst hb=>?_)
   refine Zbt (fun a w=>∃ (j25:Zs) (j26:Ze) (g:G),w=g.w ∧ St 53 [(0,(pEq (ptrB b0 0))),(2,(pBox Zy 2 (default:Zs))),(3,(pBox Zy 3 j25)),(4,(Zda.ptr r7)),(1002,(pRB Zv 0 b0 j26))] a g ∧ Base g0 g ∧ Zm5 r7 j25 j26=some r) ?_ ?_
   ·rintro a w ⟨j25,j26,g,rfl,hst,hb,H0⟩
    unfold Zm5 at H0
    refine Zo ?_
    refine wp_seq ?_
    obtain ⟨r27,h28,H0⟩:=Zc H0
    refine r_a [5,15,25,35,10,45] (L:=[(0,_),(2,_),(3,_),(4,_),(1002,_)]) hst hb Za
     (Al Zgc 35 rfl<|a_p [0] rfl (Zr Zos (Zdr _ _ h28) rfl rfl (.cons u_0 (.cons c_i .nil)))<|a_n) (fun a g hst hb=>?_)
    refine Zbt (fun a w=>∃ (j34:Zs) (j35:Ze) (g:G),w=g.w ∧ St 53 [(0,(pEq (ptrB b0 0))),(2,(pBox Zy 2 (default:Zs))),(3,(pBox Zy 3 j34)),(4,(Zda.ptr r7)),(1002,(pRB Zv 0 b0 j35))] a g ∧ Base g0 g ∧ Zm3 r7 j34 j35=some r) ?_ ?_
    ·rintro a w ⟨j34,j35,g,rfl,hst,hb,H0⟩
     unfold Zm3 at H0
     refine Zo ?_
     refine wp_seq ?_
     obtain ⟨r36,h37,H0⟩:=Zc H0
     refine r_a [5,15,25,10,45] (L:=[(0,_),(2,_),(3,_),(4,_),(1002,_)]) hst hb Za
      (Al Zgc 35 rfl<|a_p [0] rfl (Zr Zos (Zdr _ _ h37) rfl rfl (.cons u_0 (.cons c_i .nil)))<|a_n) (fun a g hst hb=>?_)
     refine Zbt (fun a w=>∃ (j41:Zs) (j42:Ze) (g:G),w=g.w ∧ St 53 [(0,(pEq (ptrB b0 0))),(2,(pBox Zy 2 (default:Zs))),(3,(pBox Zy 3 j41)),(1002,(pRB Zv 0 b0 j42))] a g ∧ Base g0 g ∧ Zm0 j41 j42=some r) ?_ ?_
     ·rintro a w ⟨j41,j42,g,rfl,hst,hb,H0⟩
      unfold Zm0 at H0
      refine Zo ?_
      refine wp_seq ?_
      obtain ⟨r43,h44,H0⟩:=Zc H0
      refine r_a [5,15,25,20,35] (L:=[(0,_),(2,_),(3,_),(1002,_)]) hst hb Za
       (AM Zhh 25 rfl<|a_p [0] rfl (Zr Z9b (Zru _ h44) rfl rfl (.cons u_0 .nil))<|Aa 0 rfl<|a_n) (fun a g hst hb=>?_)
      refine r_a [5,15,25,35,10,45] (L:=[(0,_),(2,_),(3,_),(5,_),(1002,_)]) hst hb Za
       (Am 35 rfl<|a_p [0] rfl (Zdd rfl rfl u_0 c_i)<|a_n) (fun a g hst hb=>?_)
      refine Zbt (fun a w=>∃ (j48:Ze) (g:G),w=g.w ∧ St 53 [(0,(pEq (ptrB b0 0))),(2,(pBox Zy 2 (default:Zs))),(3,(pBox Zy 3 j41)),(1002,(pRB Zv 0 b0 j48))] a g ∧ Base g0 g ∧ Zol j41 j48=some r) ?_ ?_
      ·rintro a w ⟨j48,g,rfl,hst,hb,H0⟩
       unfold Zol at H0
       refine Zo ?_
       refine r_a [5,10,35] (L:=[(0,_),(2,_),(3,_),(1002,_)]) hst hb Za
        (AM Zhh 25 rfl<|a_p [0,15] rfl (Zbg Zhh rfl rfl u_1 u_0)<|a_n) (fun a g hst hb=>?_)
       refine wp_ret ?_
       obtain rfl:=Option.some.inj H0
       obtain ⟨u0,hu0,hq0⟩:=Zbo (P:=Tryz.prog) Zhh (hst.at 1 rfl)
       exact Zfm rfl hst hb hu0 hq0 ⟨Zjy (hst.at 2 rfl),trivial⟩
      ·refine wp_cond_split (hst.bool 4 rfl) (fun hc45=>?_) (fun hc45=>?_)
       ·replace H0:=Z1 hc45 H0
        obtain ⟨r46,h47,H0⟩:=Zc H0
        refine r_b [5,15,25,21] (L:=[(0,_),(2,_),(3,_),(5,_),(1002,_)]) (hst.pick [0,1,2,3,5] rfl) hb Za
         (Am 5 rfl<|Am 35 rfl<|a_p [10,45,0] rfl (Zb1 (m:=1002) (A:=[(pInt .i64 r43)]) Zt7 (Zf1 _ _ h47) rfl rfl rfl (by decide) u_1 u_0 (.cons u_2 .nil))<|a_n) (fun a g hst hb=>?_)
        exact ⟨r46,g,rfl,(hst.pick [0,1,2,3] rfl),hb,H0⟩
       ·replace H0:=Z0 hc45 H0
        refine wp_skip ?_
        exact ⟨j42,g,rfl,(hst.pick [0,1,2,5] rfl),hb,H0⟩
     ·refine wp_cond_split (hst.bool 3 rfl) (fun hc38=>?_) (fun hc38=>?_)
      ·replace H0:=Z1 hc38 H0
       obtain ⟨r39,h40,H0⟩:=Zc H0
       refine r_b [5,15,30,11] (L:=[(0,_),(2,_),(3,_),(1002,_)]) (hst.pick [0,1,2,4] rfl) hb Za
        (Am 5 rfl<|a_p [0,35] rfl (Zb1 (m:=1002) (A:=[]) Zbj5 (Z57 _ h40) rfl rfl rfl (by decide) u_1 u_0 .nil)<|a_p [25] rfl (Zbf Zmy (off:=5) (by kernel_rfl) rfl rfl u_0)<|a_p [10,0,25] rfl (Zbfk Zbr rfl rfl u_2 u_1 u_0)<|a_n) (fun a g hst hb=>?_)
       refine ⟨_,_,g,rfl,?_,hb,H0⟩
       exact (hst.pick [0,1,2,3] rfl)
      ·replace H0:=Z0 hc38 H0
       refine wp_skip ?_
       exact ⟨j34,j35,g,rfl,(hst.pick [0,1,2,4] rfl),hb,H0⟩
    ·refine wp_cond_split (hst.bool 4 rfl) (fun hc29=>?_) (fun hc29=>?_)
     ·replace H0:=Z1 hc29 H0
      obtain ⟨r30,h31,H0⟩:=Zc H0;obtain ⟨r32,h33,H0⟩:=Zc H0
      refine r_b [5,15,50,35,31] (L:=[(0,_),(2,_),(3,_),(4,_),(1002,_)]) (hst.pick [0,1,2,3,5] rfl) hb Za
       (Am 5 rfl<|Al Zgc 35 rfl<|a_p [0] rfl (Zr Zbey (Zxo _ h31) rfl rfl (.cons u_0 .nil))<|a_p [20,45,0] rfl (Zb1 (m:=1002) (A:=[(pInt .i64 r30)]) Z2w (Zmg _ _ h33) rfl rfl rfl (by decide) u_1 u_0 (.cons u_2 .nil))<|a_p [25] rfl (Zbf Zi8 (off:=4) (by kernel_rfl) rfl rfl u_0)<|a_p [10,0,25] rfl (Zbgj ty_9 rfl rfl u_2 u_1 u_0)<|a_n) (fun a g hst hb=>?_)
      refine ⟨_,_,g,rfl,?_,hb,H0⟩
      exact (hst.pick [0,1,2,3,4] rfl)
     ·replace H0:=Z0 hc29 H0
      refine wp_skip ?_
      exact ⟨j25,j26,g,rfl,(hst.pick [0,1,2,3,5] rfl),hb,H0⟩
   ·refine wp_cond_split (hst.bool 4 rfl) (fun hc22=>?_) (fun hc22=>?_)
    ·replace H0:=Z1 hc22 H0
     obtain ⟨r23,h24,H0⟩:=Zc H0
     refine r_b [5,15,30,35,11] (L:=[(0,_),(2,_),(3,_),(4,_),(1002,_)]) (hst.pick [0,1,2,3,5] rfl) hb Za
      (Am 5 rfl<|a_p [0,45] rfl (Zb1 (m:=1002) (A:=[]) Z88 (Zov _ h24) rfl rfl rfl (by decide) u_1 u_0 .nil)<|a_p [25] rfl (Zbf Zo8 (off:=3) (by kernel_rfl) rfl rfl u_0)<|a_p [10,0,25] rfl (Zbga Zd7 rfl rfl u_2 u_1 u_0)<|a_n) (fun a g hst hb=>?_)
     refine ⟨_,_,g,rfl,?_,hb,H0⟩
     exact (hst.pick [0,1,2,3,4] rfl)
    ·replace H0:=Z0 hc22 H0
     refine wp_skip ?_
     exact ⟨j18,j19,g,rfl,(hst.pick [0,1,2,3,5] rfl),hb,H0⟩
  ·refine wp_cond_split (hst.bool 4 rfl) (fun hc15=>?_) (fun hc15=>?_)
   ·replace H0:=Z1 hc15 H0
    obtain ⟨r16,h17,H0⟩:=Zc H0
    refine r_b [5,15,30,35,11] (L:=[(0,_),(2,_),(3,_),(4,_),(1002,_)]) (hst.pick [0,1,2,3,5] rfl) hb Za
     (Am 5 rfl<|a_p [0,45] rfl (Zb1 (m:=1002) (A:=[]) Z2t (Zmd _ h17) rfl rfl rfl (by decide) u_1 u_0 .nil)<|a_p [25] rfl (Zbf Zg0 (off:=2) (by kernel_rfl) rfl rfl u_0)<|a_p [10,0,25] rfl (Zbb9 ty_2 rfl rfl u_2 u_1 u_0)<|a_n) (fun a g hst hb=>?_)
    refine ⟨_,_,g,rfl,?_,hb,H0⟩
    exact (hst.pick [0,1,2,3,4] rfl)
   ·replace H0:=Z0 hc15 H0
    refine wp_skip ?_
    refine ⟨_,_,g,rfl,?_,hb,H0⟩
    exact (hst.pick [0,1,2,3,5] rfl)
 ·refine wp_cond_split (hst.bool 3 rfl) (fun hc3=>?_) (fun hc3=>?_)
  ·replace H0:=Z1 hc3 H0
   obtain ⟨r4,h5,H0⟩:=Zc H0
   refine r_b [5,15,25,11] (L:=[(0,_),(2,_),(3,_),(1002,_)]) (hst.pick [0,1,2,4] rfl) hb Za
    (Am 5 rfl<|a_p [0,35] rfl (Zb1 (m:=1002) (A:=[(pInt .i64 (5:Int))]) Zt7 (Zf1 _ _ h5) rfl rfl rfl (by decide) u_1 u_0 (.cons c_i .nil))<|a_n) (fun a g hst hb=>?_)
   exact ⟨r4,g,rfl,(hst.pick [0,1,2,3] rfl),hb,H0⟩
  ·replace H0:=Z0 hc3 H0
   refine wp_skip ?_
   exact ⟨r1.2,g,rfl,(hst.pick [0,1,2,4] rfl),hb,H0⟩
theorem Z5f (a0:Ze) {r:Zu × Ze} (h:Zqp a0=some r):FnB Tryz.prog 28 [.box Zv a0 r.2] (Zbb.pd r.1):=by
 have H0:=h
 unfold Zqp at H0
 clear h
 refine Ze8 (N:=23) Tryz.func28 rfl rfl (Qe rfl) rfl rfl (fun a g0 bs hbs hst hb=>?_)
 obtain ⟨b0,rfl⟩:=Zmo hbs
 replace hst:St 23 [(0,(Zbi (some b0) Zv 0 a0))] _ _:=hst
 replace hst:St 23 [(0,(pEq (ptrB b0 0))),(1002,(pRB Zv 0 b0 a0))] _ _:=Zgy hst
 refine r_a [5,0,15] (L:=[(0,_),(1002,_)]) hst hb Za
  (a_p (outs:=[(2,(pBox Zbb 2 (default:Zu)))]) (S:=[3]) [] rfl (Zbl (zs:=[.slice none 0 0]) (by kernel_rfl) (fun g=>Zju g) rfl rfl)<|a_n) (fun a g hst hb=>?_)
 obtain ⟨r1,h2,H0⟩:=Zc H0
 refine r_a [5,15,20,11] (L:=[(0,_),(2,_),(1002,_)]) hst hb Za
  (Am 5 rfl<|a_p [0,25] rfl (Zb1 (m:=1002) (A:=[(pInt .i64 (12:Int))]) Ztz (Zf3 _ _ h2) rfl rfl rfl (by decide) u_1 u_0 (.cons c_i .nil))<|Aa 0 rfl<|a_n) (fun a g hst hb=>?_)
 refine wp_seq ?_
 refine r_a [5,15,25,10,35] (L:=[(0,_),(2,_),(3,_),(1002,_)]) hst hb Za
  (Am 25 rfl<|a_p [0] rfl (Zci rfl rfl u_0 c_i)<|a_n) (fun a g hst hb=>?_)
 refine Zbt (fun a w=>∃ (j6:Ze) (g:G),w=g.w ∧ St 23 [(0,(pEq (ptrB b0 0))),(2,(pBox Zbb 2 (default:Zu))),(3,(pInt .i64 r1.1)),(1002,(pRB Zv 0 b0 j6))] a g ∧ Base g0 g ∧ Zki r1 j6=some r) ?_ ?_
 ·rintro a w ⟨j6,g,rfl,hst,hb,H0⟩
  unfold Zki at H0
  refine Zo ?_
  refine r_a [5,15,25,0,35] (L:=[(0,_),(2,_),(3,_),(1002,_)]) hst hb Za
   (a_p (outs:=[(4,(Zc5 none Zd1 Zdu (hpL (pRow Zy 90 504 ((default:Zu).Acts))) 4 (default:Zu)))]) (S:=[5]) [] rfl (Zqx (R:=hpL (pRow Zy 90 504 ((default:Zu).Acts))) (zs:=[.slice none 0 0]) (none,0,0) (by kernel_rfl) Z2q (fun g=>Zmm 504 g) rfl rfl)<|a_n) (fun a g hst hb=>?_)
  refine wp_seq ?_
  refine r_a [5,15,35,0,10,45] (L:=[(0,_),(2,_),(3,_),(4,_),(1002,_)]) hst hb Za
   (Am 25 rfl<|a_p [] rfl (Z6 rfl rfl c_i)<|a_n) (fun a g hst hb=>?_)
  obtain ⟨z16,hz1,H0⟩:=Zc H0
  refine Zbt (fun a w=>∃ (y14:Zu) (y15:Ze) (g:G),w=g.w ∧ St 23 [(0,(pEq (ptrB b0 0))),(2,(pBox Zbb 2 (default:Zu))),(4,(Zc5 none Zd1 Zdu (hpL (pRow Zy 90 504 y14.Acts)) 4 y14)),(1002,(pRB Zv 0 b0 y15))] a g ∧ Base g0 g ∧ (y14,y15)=z16) ?_ ?_
  ·rintro a w ⟨y14,y15,g,rfl,hst,hb,rfl⟩
   refine Zo ?_
   refine r_a [5,10,35] (L:=[(0,_),(2,_),(4,_),(1002,_)]) hst hb Za
    (a_p [25] rfl (Zp6 Z2j Zgx rfl rfl u_0)<|a_p [0,15] rfl (Zbg Zgx rfl rfl u_1 u_0)<|a_n) (fun a g hst hb=>?_)
   refine wp_ret ?_
   obtain rfl:=Option.some.inj H0
   obtain ⟨u0,hu0,hq0⟩:=Zbo (P:=Tryz.prog) Zgx (hst.at 1 rfl)
   exact Zfm rfl hst hb hu0 hq0 ⟨Zjy (hst.at 2 rfl),trivial⟩
  ·refine wp_block ?_
   refine wp_loop_ghost (fun n a w=>∃ (x7:Zu) (x8:Int) (x9:Ze) (g:G),w=g.w ∧ St 23 [(0,(pEq (ptrB b0 0))),(2,(pBox Zbb 2 (default:Zu))),(4,(Zc5 none Zd1 Zdu (hpL (pRow Zy 90 504 x7.Acts)) 4 x7)),(11,(pInt .i64 r1.1)),(12,(pInt .i64 x8)),(1002,(pRB Zv 0 b0 x9))] a g ∧ Base g0 g ∧ Zhu r1 n x7 x8 x9=some z16) (Int.toNat (r1.1 - (0:Int)) + 1) ⟨(default:Zu),(0:Int),j6,g,rfl,(hst.pick [0,1,2,3,4,5] rfl),hb,hz1⟩ (fun n a w hI=>?_)
   obtain ⟨x7,x8,x9,g,rfl,hst,hb,H1⟩:=hI
   cases n with
   | zero=>exact absurd H1 (by simp [Zhu])
   | succ n =>
    rw [Zhu] at H1
    refine r_a [5,15,25,35,45,0,55] (L:=[(0,_),(2,_),(4,_),(11,_),(12,_),(1002,_)]) hst hb Za
     (a_p [45,35] rfl (Zcv rfl rfl u_0 u_1)<|a_n) (fun a g hst hb=>?_)
    refine wp_seq ?_
    refine wp_cond_split (hst.bool 5 rfl) (fun hc10=>?_) (fun hc10=>?_)
    ·replace H1:=Z1 hc10 H1
     refine wp_skip ?_
     refine Zo ?_
     refine wp_seq ?_
     refine wp_block ?_
     obtain ⟨r11,h12,H1⟩:=Zc H1;obtain ⟨h13,H1⟩:=Ze0 H1
     refine r_b [5,15,70,35,45,31] (L:=[(0,_),(2,_),(4,_),(11,_),(12,_),(1002,_)]) (hst.pick [0,1,2,3,4,6] rfl) hb Za
      (a_p [25] rfl (Zk0 Zrz (off:=0) (q:=(pRow Zy 90 504 x7.Acts)) (by kernel_rfl) (pr:=id) (fun _=>rfl) (fun _ _ h=>h) rfl rfl u_0)<|a_p [0] rfl (Zrq Zsv rfl rfl u_0)<|Am 5 rfl<|a_p [0,55] rfl (Zb1 (m:=1002) (A:=[]) Zbjs (Z60 _ h12) rfl rfl rfl (by decide) u_1 u_0 .nil)<|a_p [0] rfl (Zjd Z20 (xs:=[.tmp 17]) (.cons u_0 .nil) (by decide) rfl rfl)<|a_p (outs:=[(4,(Zc5 none Zd1 Zdu hpT 4 x7)),(19,(pRow Zy 90 504 (x7.Acts ++ ([r11.1]:List Zs))))]) (S:=[505]) [30,0,25] rfl (OB.frameU (Zfc Z20 rfl rfl u_0 u_1 h13) (Opd.imp u_2 (fun _ _ h=>Zzq h)) (fun k hk hS=>Z3a (List.mem_singleton.1 hk) (List.mem_singleton.1 hS) (by decide)) (fun h=>by cases h))<|a_p [0] rfl (Zk0 Zrz (off:=0) (q:=pAny) (by kernel_rfl) (pr:=id) (fun _=>rfl) (fun _ _ _=>trivial) rfl rfl u_0)<|a_p [11,0,10] rfl (Zsq (x':=({ x7 with Acts:=(x7.Acts ++ ([r11.1]:List Zs)) }:Zu)) (R2:=hpL (pRow Zy 90 504 (({ x7 with Acts:=(x7.Acts ++ ([r11.1]:List Zs)) }:Zu).Acts))) (upd:=fun _ s2=>s2) Zsv rfl rfl (fun _ _ h=>Zmv h) (fun k hk=>by rw [List.mem_singleton.1 hk];decide) (fun k hk=>by cases hk) u_2 (fun a g hh=>Zv9 (u_1 a g hh)) u_0 (fun _ _ _ _ h=>h) (fun g cs s0 s1 ys h k=>Zum h k))<|a_n) (fun a g hst hb=>?_)
     refine Zbn ?_
     refine Zo ?_
     refine r_b [5,15,25,35,10,55] (L:=[(0,_),(2,_),(4,_),(11,_),(12,_),(1002,_)]) hst hb Za
      (a_p [45] rfl (Zcf rfl rfl u_0 c_i rfl)<|Am 0 rfl<|a_n) (fun a g hst hb=>?_)
     exact ⟨n,Nat.lt_succ_self _,({ x7 with Acts:=(x7.Acts ++ ([r11.1]:List Zs)) }:Zu),(IntKind.i64.wrap (x8 + (1:Int))),r11.2,g,rfl,(hst.pick [0,1,2,3,4,5] rfl),hb,H1⟩
    ·replace H1:=Z0 hc10 H1
     refine wp_exit ?_
     refine Zb0 ?_
     refine Zb0 ?_
     refine Zcj ?_
     exact ⟨x7,x9,g,rfl,(hst.pick [0,1,2,6] rfl),hb,Option.some.inj H1⟩
 ·refine wp_cond_split (hst.bool 3 rfl) (fun hc3=>?_) (fun hc3=>?_)
  ·replace H0:=Z1 hc3 H0
   obtain ⟨r4,h5,H0⟩:=Zc H0
   refine r_b [5,15,25,11] (L:=[(0,_),(2,_),(3,_),(1002,_)]) (hst.pick [0,1,2,4] rfl) hb Za
    (Am 5 rfl<|a_p [0,35] rfl (Zb1 (m:=1002) (A:=[(pInt .i64 (1:Int))]) Zt7 (Zf1 _ _ h5) rfl rfl rfl (by decide) u_1 u_0 (.cons c_i .nil))<|a_n) (fun a g hst hb=>?_)
   exact ⟨r4,g,rfl,(hst.pick [0,1,2,3] rfl),hb,H0⟩
  ·replace H0:=Z0 hc3 H0
   refine wp_skip ?_
   exact ⟨r1.2,g,rfl,(hst.pick [0,1,2,4] rfl),hb,H0⟩
theorem Zvl (a0:Ze) {r:Ze} (h:Znb a0=some r):FnB Tryz.prog 29 [.box Zv a0 r] (pTup []):=by
 have H0:=h
 unfold Znb at H0
 clear h
 refine Ze8 (N:=7) Tryz.func29 rfl rfl (Qe rfl) rfl rfl (fun a g0 bs hbs hst hb=>?_)
 obtain ⟨b0,rfl⟩:=Zmo hbs
 replace hst:St 7 [(0,(Zbi (some b0) Zv 0 a0))] _ _:=hst
 replace hst:St 7 [(0,(pEq (ptrB b0 0))),(1002,(pRB Zv 0 b0 a0))] _ _:=Zgy hst
 obtain ⟨r1,h2,H0⟩:=Zc H0
 refine r_a [5,20,11] (L:=[(0,_),(1002,_)]) hst hb Za
  (Am 5 rfl<|a_p [0,15] rfl (Zb1 (m:=1002) (A:=[]) Zbd8 (Zpx _ h2) rfl rfl rfl (by decide) u_1 u_0 .nil)<|a_p [0] rfl (Zcu rfl rfl u_0 c_i)<|a_n) (fun a g hst hb=>?_)
 refine Zbt (fun a w=>∃ (j6:Ze) (g:G),w=g.w ∧ St 7 [(0,(pEq (ptrB b0 0))),(1002,(pRB Zv 0 b0 j6))] a g ∧ Base g0 g ∧ Zk1 j6=some r) ?_ ?_
 ·rintro a w ⟨j6,g,rfl,hst,hb,H0⟩
  unfold Zk1 at H0
  obtain rfl:=Option.some.inj H0
  exact Zbay rfl hst hb ⟨Zjy (hst.at 1 rfl),trivial⟩
 ·refine wp_cond_split (hst.bool 1 rfl) (fun hc3=>?_) (fun hc3=>?_)
  ·replace H0:=Z1 hc3 H0
   obtain ⟨r4,h5,H0⟩:=Zc H0
   refine r_b [5,11] (L:=[(0,_),(1002,_)]) (hst.pick [0,2] rfl) hb Za
    (Am 5 rfl<|a_p [0,15] rfl (Zb1 (m:=1002) (A:=[(pInt .i64 (3:Int))]) Zqk (Zdv _ _ h5) rfl rfl rfl (by decide) u_1 u_0 (.cons c_i .nil))<|a_n) (fun a g hst hb=>?_)
   exact ⟨r4,g,rfl,(hst.pick [0,1] rfl),hb,H0⟩
  ·replace H0:=Z0 hc3 H0
   refine wp_skip ?_
   exact ⟨r1.2,g,rfl,(hst.pick [0,2] rfl),hb,H0⟩
theorem Z6z (a0:List Int) {r:Zbk × Zcz} (h:Zr5 a0=some r):FnOk Tryz.prog 9 [((Kd.int .u8).sl.pd a0)] (pTup [(Zcs.pd r.1),(Zc9.pd r.2)]):=by
 have H0:=h
 unfold Zr5 at H0
 clear h
 refine Zba3 (N:=44) Tryz.func9 rfl rfl (Qe rfl) rfl rfl (fun a g0 h0 hst hb=>?_)
 refine r_a [5,0,10] (L:=[(0,_)]) hst hb Za
  (a_p (outs:=[(2,(Zc5 none Zec Zei (hpL (pRow Zbb 53 502 ((default:Zbk).Deals))) 2 (default:Zbk)))]) (S:=[3]) [] rfl (Zqx (R:=hpL (pRow Zbb 53 502 ((default:Zbk).Deals))) (zs:=[.int .i64 0,.slice none 0 0]) (none,0,0) (by kernel_rfl) Z41 (fun g=>Zmm 502 g) rfl rfl)<|a_p (outs:=[(3,(pBox Zc9 3 (default:Zcz)))]) (S:=[4]) [] rfl (Zbl (zs:=[.int .i64 0,.int .i64 0]) (by kernel_rfl) (fun g=>Zoo g) rfl rfl)<|a_n) (fun a g hst hb=>?_)
 obtain ⟨b4,e4,q4⟩:=Z7b (hst.at 1 rfl)
 obtain ⟨b5,e5,q5⟩:=Z0f (hst.at 2 rfl)
 refine wp_seq ?_
 refine Zbaf (f:=23) (d1:=7) (x1:=2) (x2:=3) ?_ ?_ ?_ ?_ ?_ ?_ ?_ e4 e5 hst.df ?_
 ·rfl
 ·rfl
 ·rfl
 ·rfl
 ·rfl
 ·rfl
 ·rw [hst.size];decide
 replace hst:StD (dfr2 23 b4 b5) 44 [(0,((Kd.int .u8).sl.pd a0)),(2,(Zc5 (some b4) Zec Zei (hpL (pRow Zbb 53 502 ((default:Zbk).Deals))) 2 (default:Zbk))),(3,(Zbi (some b5) Zc9 3 (default:Zcz)))] (dact a 7 (.func (.func 23) #[] #[ptrV b4,ptrV b5]) (dfr2 23 b4 b5)) g:=⟨(Zr8 ..).trans hst.size,rfl,(Zfn (Zp4 (by decide) (hst.at 0 rfl)) (Zfn (Zp4 (by decide) q4) (Zfn (Zp4 (by decide) q5) Zq2)))⟩
 refine Zo ?_
 obtain ⟨r1,h2,H0⟩:=Zc H0
 refine r_a [15,25,20] (L:=[(0,_),(2,_),(3,_)]) hst hb Za
  (Am 5 rfl<|a_p [0] rfl (Z6c (j:=4) Zbkt (Z58 _ h2) rfl rfl (.cons u_0 .nil))<|Aa 0 rfl<|a_n) (fun a g hst hb=>?_)
 refine wp_seq ?_
 obtain ⟨r3,h4,H0⟩:=Zc H0
 refine r_a [30,15,11] (L:=[(2,_),(3,_),(4,_)]) hst hb Za
  (Am 25 rfl<|a_p (outs:=[(11,(pInt .i64 r3.1)),(4,(pBox Zv 4 r3.2))]) (S:=[5]) [0,25] rfl (Zpb (hs:=[(4,none,4)]) Ztz (Zf3 _ _ h4) rfl rfl rfl (.box u_1 u_0 rfl (.val c_i .nil)) rfl rfl rfl)<|a_p [5] rfl (Zg6 Z39 (off:=0) (by kernel_rfl) (fun _=>rfl) rfl rfl u_0)<|a_p [10,0,5] rfl (Zl2 (x':=({ (default:Zbk) with Number:=r3.1 }:Zbk)) ty_3 rfl rfl (fun k hk=>by rw [List.mem_singleton.1 hk];decide) u_2 u_1 u_0 (fun g cs s0 ys h k=>Z0y h k))<|a_n) (fun a g hst hb=>?_)
 refine r_a [5,15,25,20] (L:=[(2,_),(3,_),(4,_)]) hst hb Za
  (a_p [5] rfl (Zg6 Z39 (off:=0) (by kernel_rfl) (fun _=>rfl) rfl rfl u_0)<|a_p [0] rfl (Zt6 ty_3 rfl rfl u_0)<|a_p [0] rfl (Zci rfl rfl u_0 c_i)<|a_n) (fun a g hst hb=>?_)
 refine Zbt (fun a w=>∃ (j8:Ze) (g:G),w=g.w ∧ StD (dfr2 23 b4 b5) 44 [(2,(Zc5 (some b4) Zec Zei (hpL (pRow Zbb 53 502 (({ (default:Zbk) with Number:=r3.1 }:Zbk).Deals))) 2 ({ (default:Zbk) with Number:=r3.1 }:Zbk))),(3,(Zbi (some b5) Zc9 3 (default:Zcz))),(4,(pBox Zv 4 j8))] a g ∧ Base g0 g ∧ Zk7 r3 j8=some r) ?_ ?_
 ·rintro a w ⟨j8,g,rfl,hst,hb,H0⟩
  unfold Zk7 at H0
  refine Zo ?_
  refine wp_seq ?_
  obtain ⟨r9,h10,H0⟩:=Zc H0
  refine r_a [5,15,11,10,20] (L:=[(2,_),(3,_),(4,_)]) hst hb Za
   (Am 25 rfl<|a_p (outs:=[(19,(pInt .i64 r9.1)),(4,(pBox Zv 4 r9.2))]) (S:=[5]) [0,25] rfl (Zpb (hs:=[(4,none,4)]) Ztz (Zf3 _ _ h10) rfl rfl rfl (.box u_1 u_0 rfl (.val c_i .nil)) rfl rfl rfl)<|a_p [] rfl (Z6 rfl rfl c_i)<|a_n) (fun a g hst hb=>?_)
  obtain ⟨z20,hz1,H0⟩:=Zc H0
  refine Zbt (fun a w=>∃ (y18:Zbk) (y19:Ze) (g:G),w=g.w ∧ StD (dfr2 23 b4 b5) 44 [(2,(Zc5 (some b4) Zec Zei (hpL (pRow Zbb 53 502 y18.Deals)) 2 y18)),(3,(Zbi (some b5) Zc9 3 (default:Zcz))),(4,(pBox Zv 4 y19))] a g ∧ Base g0 g ∧ (y18,y19)=z20) ?_ ?_
  ·rintro a w ⟨y18,y19,g,rfl,hst,hb,rfl⟩
   refine Zo ?_
   refine wp_seq ?_
   obtain ⟨r21,h22,H0⟩:=Zc H0
   refine r_a [5,15,25,50] (L:=[(2,_),(3,_),(4,_)]) hst hb Za
    (a_p [5] rfl (Zp6 Zvd Zi7 rfl rfl u_0)<|a_p [0] rfl (Zr en_4 (Znl _ h22) rfl rfl (.cons u_0 .nil))<|Am 0 rfl<|a_p [0] rfl (Zba rfl rfl u_0 rfl)<|a_p [10] rfl (Zba rfl rfl u_0 rfl)<|Aa 10 rfl<|Aa 10 rfl<|a_n) (fun a g hst hb=>?_)
   refine r_a [5,15,25,35,10] (L:=[(2,_),(3,_),(4,_),(5,_)]) hst hb Za
    (Am 35 rfl<|a_p [0] rfl (Zdd rfl rfl u_0 c_i)<|a_n) (fun a g hst hb=>?_)
   refine Zbt (fun a w=>∃ (j26:Ze) (g:G),w=g.w ∧ StD (dfr2 23 b4 b5) 44 [(2,(Zc5 (some b4) Zec Zei (hpL (pRow Zbb 53 502 y18.Deals)) 2 y18)),(3,(Zbi (some b5) Zc9 3 (default:Zcz))),(4,(pBox Zv 4 j26))] a g ∧ Base g0 g ∧ Zla y18 j26=some r) ?_ ?_
   ·rintro a w ⟨j26,g,rfl,hst,hb,H0⟩
    unfold Zla at H0
    refine Zo ?_
    obtain ⟨r27,h28,H0⟩:=Zc H0
    refine r_a [5,15] (L:=[(2,_),(3,_),(4,_)]) hst hb Za
     (Am 25 rfl<|a_p (outs:=[(41,(pTup [])),(4,(pBox Zv 4 r27))]) (S:=[5]) [0,25] rfl (Zpb (hs:=[(4,none,4)]) Zbj9 (Zvl _ h28) rfl rfl rfl (.box u_1 u_0 rfl .nil) rfl rfl rfl)<|a_n) (fun a g hst hb=>?_)
    refine r_a [20,30] (L:=[(2,_),(3,_)]) hst hb Za
     (a_p [5] rfl (Zp6 Zvd Zi7 rfl rfl u_0)<|a_p [] rfl (Zba2 rfl rfl )<|a_p [10,5] rfl (Zrk (kV:=Zec) (by rfl) Zi7 rfl rfl u_1 u_0)<|a_p [10,15] rfl (Zbg Zwb rfl rfl u_1 u_0)<|a_n) (fun a g hst hb=>?_)
    refine wp_ret ?_
    obtain rfl:=Option.some.inj H0
    exact Zbgn Z0w Zbka rfl Zi7 Zwb hst hb (hst.at 0 rfl) (hst.at 1 rfl)
   ·refine wp_cond_split (hst.bool 4 rfl) (fun hc23=>?_) (fun hc23=>?_)
    ·replace H0:=Z1 hc23 H0
     obtain ⟨r24,h25,H0⟩:=Zc H0
     refine r_b [5,15,21] (L:=[(2,_),(3,_),(4,_),(5,_)]) (hst.pick [0,1,2,3] rfl) hb Za
      (Am 25 rfl<|Am 35 rfl<|a_p (outs:=[(39,(pTup [])),(4,(pBox Zv 4 r24))]) (S:=[5]) [10,25,0] rfl (Zpb (hs:=[(4,none,4)]) Zt7 (Zf1 _ _ h25) rfl rfl rfl (.box u_1 u_0 rfl (.val u_2 .nil)) rfl rfl rfl)<|a_n) (fun a g hst hb=>?_)
     exact ⟨r24,g,rfl,(hst.pick [0,1,2] rfl),hb,H0⟩
    ·replace H0:=Z0 hc23 H0
     refine wp_skip ?_
     exact ⟨y19,g,rfl,(hst.pick [0,1,2] rfl),hb,H0⟩
  ·refine wp_block ?_
   refine wp_loop_ghost (fun n a w=>∃ (x11:Zbk) (x12:Ze) (x13:Int) (g:G),w=g.w ∧ StD (dfr2 23 b4 b5) 44 [(2,(Zc5 (some b4) Zec Zei (hpL (pRow Zbb 53 502 x11.Deals)) 2 x11)),(3,(Zbi (some b5) Zc9 3 (default:Zcz))),(4,(pBox Zv 4 x12)),(19,(pInt .i64 r9.1)),(20,(pInt .i64 x13))] a g ∧ Base g0 g ∧ Zhj r9 n x11 x12 x13=some z20) (Int.toNat (r9.1 - (0:Int)) + 1) ⟨({ (default:Zbk) with Number:=r3.1 }:Zbk),r9.2,(0:Int),g,rfl,(hst.pick [0,1,2,3,4] rfl),hb,hz1⟩ (fun n a w hI=>?_)
   obtain ⟨x11,x12,x13,g,rfl,hst,hb,H1⟩:=hI
   cases n with
   | zero=>exact absurd H1 (by simp [Zhj])
   | succ n =>
    rw [Zhj] at H1
    refine r_a [5,15,25,35,45,0] (L:=[(2,_),(3,_),(4,_),(19,_),(20,_)]) hst hb Za
     (a_p [45,35] rfl (Zcv rfl rfl u_0 u_1)<|a_n) (fun a g hst hb=>?_)
    refine wp_seq ?_
    refine wp_cond_split (hst.bool 5 rfl) (fun hc14=>?_) (fun hc14=>?_)
    ·replace H1:=Z1 hc14 H1
     refine wp_skip ?_
     refine Zo ?_
     refine wp_seq ?_
     refine wp_block ?_
     obtain ⟨r15,h16,H1⟩:=Zc H1;obtain ⟨h17,H1⟩:=Ze0 H1
     refine r_b [70,15,31,35,45] (L:=[(2,_),(3,_),(4,_),(19,_),(20,_)]) (hst.pick [0,1,2,3,4] rfl) hb Za
      (a_p [5] rfl (Zk0 Z5c (off:=1) (q:=(pRow Zbb 53 502 x11.Deals)) (by kernel_rfl) (pr:=id) (fun _=>rfl) (fun _ _ h=>h) rfl rfl u_0)<|a_p [0] rfl (Zrq Zbaw rfl rfl u_0)<|Am 25 rfl<|a_p (outs:=[(25,(Zbb.pd r15.1)),(4,(pBox Zv 4 r15.2))]) (S:=[5]) [0,25] rfl (Zpb (hs:=[(4,none,4)]) Zbjv (Z5f _ h16) rfl rfl rfl (.box u_1 u_0 rfl .nil) rfl rfl rfl)<|a_p [0] rfl (Zjd Zwr (xs:=[.tmp 25]) (.cons u_0 .nil) (by decide) rfl rfl)<|a_p (outs:=[(2,(Zc5 (some b4) Zec Zei hpT 2 x11)),(27,(pRow Zbb 53 502 (x11.Deals ++ ([r15.1]:List Zu))))]) (S:=[503]) [30,0,5] rfl (OB.frameU (Zfc Zwr rfl rfl u_0 u_1 h17) (Opd.imp u_2 (fun _ _ h=>Zzq h)) (fun k hk hS=>Z3a (List.mem_singleton.1 hk) (List.mem_singleton.1 hS) (by decide)) (fun h=>by cases h))<|a_p [0] rfl (Zk0 Z5c (off:=1) (q:=pAny) (by kernel_rfl) (pr:=id) (fun _=>rfl) (fun _ _ _=>trivial) rfl rfl u_0)<|a_p [11,0,10] rfl (Zsq (x':=({ x11 with Deals:=(x11.Deals ++ ([r15.1]:List Zu)) }:Zbk)) (R2:=hpL (pRow Zbb 53 502 (({ x11 with Deals:=(x11.Deals ++ ([r15.1]:List Zu)) }:Zbk).Deals))) (upd:=fun _ s2=>s2) Zbaw rfl rfl (fun _ _ h=>Zmv h) (fun k hk=>by rw [List.mem_singleton.1 hk];decide) (fun k hk=>by cases hk) u_2 (fun a g hh=>Zv9 (u_1 a g hh)) u_0 (fun _ _ _ _ h=>h) (fun g cs s0 s1 ys h k=>Z55 h k))<|a_n) (fun a g hst hb=>?_)
     refine Zbn ?_
     refine Zo ?_
     refine r_b [5,15,25,35,10] (L:=[(2,_),(3,_),(4,_),(19,_),(20,_)]) hst hb Za
      (a_p [45] rfl (Zcf rfl rfl u_0 c_i rfl)<|Am 0 rfl<|a_n) (fun a g hst hb=>?_)
     exact ⟨n,Nat.lt_succ_self _,({ x11 with Deals:=(x11.Deals ++ ([r15.1]:List Zu)) }:Zbk),r15.2,(IntKind.i64.wrap (x13 + (1:Int))),g,rfl,(hst.pick [0,1,2,3,4] rfl),hb,H1⟩
    ·replace H1:=Z0 hc14 H1
     refine wp_exit ?_
     refine Zb0 ?_
     refine Zb0 ?_
     refine Zcj ?_
     exact ⟨x11,x12,g,rfl,(hst.pick [0,1,2] rfl),hb,Option.some.inj H1⟩
 ·refine wp_cond_split (hst.bool 3 rfl) (fun hc5=>?_) (fun hc5=>?_)
  ·replace H0:=Z1 hc5 H0
   obtain ⟨r6,h7,H0⟩:=Zc H0
   refine r_b [5,15,11] (L:=[(2,_),(3,_),(4,_)]) (hst.pick [0,1,2] rfl) hb Za
    (Am 25 rfl<|a_p (outs:=[(17,(pTup [])),(4,(pBox Zv 4 r6))]) (S:=[5]) [0,25] rfl (Zpb (hs:=[(4,none,4)]) Zt7 (Zf1 _ _ h7) rfl rfl rfl (.box u_1 u_0 rfl (.val c_i .nil)) rfl rfl rfl)<|a_n) (fun a g hst hb=>?_)
   exact ⟨r6,g,rfl,(hst.pick [0,1,2] rfl),hb,H0⟩
  ·replace H0:=Z0 hc5 H0
   refine wp_skip ?_
   exact ⟨r3.2,g,rfl,(hst.pick [0,1,2] rfl),hb,H0⟩
theorem Zpz (a0:Zb) (a1:Zb) {r:Bool} (h:Zg9 a0 a1=some r):FnOk Tryz.prog 84 [(Zf.pd a0),(Zf.pd a1)] (Zbm r):=by
 have H0:=h
 unfold Zg9 at H0
 clear h
 refine Zb4 (N:=97) Tryz.func84 rfl rfl (Qe rfl) rfl rfl (fun a g0 hst hb=>?_)
 refine r_a [0,10] (L:=[(0,_),(1,_)]) hst hb Za
  (a_p [5] rfl (Zbq rfl rfl u_0)<|a_p [15] rfl (Zbq rfl rfl u_0)<|a_p [] rfl (Zd rfl rfl c_b)<|a_n) (fun a g hst hb=>?_)
 refine wp_seq ?_
 refine r_a [5,15,390] (L:=[(2,_),(3,_)]) hst hb Za
  (Af Zga 5 rfl<|Al ty_3 0 rfl<|Af Zga 15 rfl<|Al ty_3 0 rfl<|a_p [20,0] rfl (Zdd rfl rfl u_0 u_1)<|Am 0 rfl<|a_g [0,5] (Qg_f rfl (fun hG=>Zl Zez rfl rfl u_0))<|a_g [10,0] (Qg_f rfl (fun hG=>Z2 ty_2 rfl rfl (Opd.gd hG u_0)))<|a_g [20,15] (Qg_f rfl (fun hG=>Zl Zez rfl rfl u_0))<|a_g [30,0] (Qg_f rfl (fun hG=>Z2 ty_2 rfl rfl (Opd.gd hG u_0)))<|a_g [40,20,0] (Qg_f rfl (fun hG=>Zdd rfl rfl (Opd.gd hG u_0) (Opd.gd hG u_1)))<|a_p [50,0] rfl (Zb2 rfl rfl u_0 (fun hz=>(Opd.gd (bNF hz) u_1)))<|Am 0 rfl<|a_g [0,5] (Qg_f rfl (fun hG=>Zl Zko rfl rfl u_0))<|a_g [10,0] (Qg_f rfl (fun hG=>Z2 ty_2 rfl rfl (Opd.gd hG u_0)))<|a_g [20,15] (Qg_f rfl (fun hG=>Zl Zko rfl rfl u_0))<|a_g [30,0] (Qg_f rfl (fun hG=>Z2 ty_2 rfl rfl (Opd.gd hG u_0)))<|a_g [40,20,0] (Qg_f rfl (fun hG=>Zdd rfl rfl (Opd.gd hG u_0) (Opd.gd hG u_1)))<|a_p [50,0] rfl (Zb2 rfl rfl u_0 (fun hz=>(Opd.gd (bNF hz) u_1)))<|Am 0 rfl<|a_g [0,5] (Qg_f rfl (fun hG=>Zl Zkn rfl rfl u_0))<|a_g [10,0] (Qg_f rfl (fun hG=>Z2 ty_2 rfl rfl (Opd.gd hG u_0)))<|a_g [20,15] (Qg_f rfl (fun hG=>Zl Zkn rfl rfl u_0))<|a_g [30,0] (Qg_f rfl (fun hG=>Z2 ty_2 rfl rfl (Opd.gd hG u_0)))<|a_g [40,20,0] (Qg_f rfl (fun hG=>Zdd rfl rfl (Opd.gd hG u_0) (Opd.gd hG u_1)))<|a_p [50,0] rfl (Zb2 rfl rfl u_0 (fun hz=>(Opd.gd (bNF hz) u_1)))<|Am 0 rfl<|a_g [0,5] (Qg_f rfl (fun hG=>Zl Zin rfl rfl u_0))<|a_g [10,0] (Qg_f rfl (fun hG=>Z2 ty_3 rfl rfl (Opd.gd hG u_0)))<|a_g [20,15] (Qg_f rfl (fun hG=>Zl Zin rfl rfl u_0))<|a_g [30,0] (Qg_f rfl (fun hG=>Z2 ty_3 rfl rfl (Opd.gd hG u_0)))<|a_g [40,20,0] (Qg_f rfl (fun hG=>Zdd rfl rfl (Opd.gd hG u_0) (Opd.gd hG u_1)))<|a_p [50,0] rfl (Zb2 rfl rfl u_0 (fun hz=>(Opd.gd (bNF hz) u_1)))<|Am 0 rfl<|a_g [0,5] (Qg_f rfl (fun hG=>Zl Zkp rfl rfl u_0))<|a_g [10,0] (Qg_f rfl (fun hG=>Z2 ty_9 rfl rfl (Opd.gd hG u_0)))<|a_g [20,15] (Qg_f rfl (fun hG=>Zl Zkp rfl rfl u_0))<|a_g [30,0] (Qg_f rfl (fun hG=>Z2 ty_9 rfl rfl (Opd.gd hG u_0)))<|a_g [40,20,0] (Qg_f rfl (fun hG=>Zs2 rfl rfl (Opd.gd hG u_0) (Opd.gd hG u_1)))<|a_p [50,0] rfl (Zb2 rfl rfl u_0 (fun hz=>(Opd.gd (bNF hz) u_1)))<|a_n) (fun a g hst hb=>?_)
 refine wp_cond_split (hst.bool 2 rfl) (fun hc1=>?_) (fun hc1=>?_)
 ·replace H0:=Z1 hc1 H0
  refine r_a [0] (L:=[]) (hst.pick [] rfl) hb Za
   (a_p [] rfl (Zd rfl rfl c_b)<|a_n) (fun a g hst hb=>?_)
  refine wp_ret ?_
  refine Zt ?_
  obtain rfl:=Option.some.inj H0
  exact Z8 rfl hst hb (Zi (s:=4)) (hst.at 0 rfl)
 ·replace H0:=Z0 hc1 H0
  refine wp_skip ?_
  refine Zo ?_
  refine wp_seq ?_
  obtain ⟨r2,h3,H0⟩:=Zc H0
  refine r_a [5,15,140] (L:=[(2,_),(3,_)]) (hst.pick [0,1] rfl) hb Za
   (Af Zlx 5 rfl<|Al Zd7 0 rfl<|Af Zlx 15 rfl<|Al Zd7 0 rfl<|a_p [20,0] rfl (Zr Zzf (Zia _ _ h3) rfl rfl (.cons u_0 (.cons u_1 .nil)))<|a_p [0] rfl (Zc2 rfl rfl u_0)<|Am 0 rfl<|a_g [0,5] (Qg_f rfl (fun hG=>Zl Zc6 rfl rfl u_0))<|a_g [10,0] (Qg_f rfl (fun hG=>Z2 Zeg rfl rfl (Opd.gd hG u_0)))<|a_g [20,0] (Qg_f rfl (fun hG=>Zbx Tryz.underlying60 rfl rfl (Opd.gd hG u_0)))<|a_g [30,15] (Qg_f rfl (fun hG=>Zl Zc6 rfl rfl u_0))<|a_g [40,0] (Qg_f rfl (fun hG=>Z2 Zeg rfl rfl (Opd.gd hG u_0)))<|a_g [50,0] (Qg_f rfl (fun hG=>Zbx Tryz.underlying60 rfl rfl (Opd.gd hG u_0)))<|a_g [60,30,0] (Qg_f rfl (fun hG=>Zdd rfl rfl (Opd.gd hG u_0) (Opd.gd hG u_1)))<|a_p [70,0] rfl (Zb2 rfl rfl u_0 (fun hz=>(Opd.gd (bNF hz) u_1)))<|a_n) (fun a g hst hb=>?_)
  refine wp_cond_split (hst.bool 2 rfl) (fun hc4=>?_) (fun hc4=>?_)
  ·replace H0:=Z1 hc4 H0
   refine r_a [0] (L:=[]) (hst.pick [] rfl) hb Za
    (a_p [] rfl (Zd rfl rfl c_b)<|a_n) (fun a g hst hb=>?_)
   refine wp_ret ?_
   refine Zt ?_
   obtain rfl:=Option.some.inj H0
   exact Z8 rfl hst hb (Zi (s:=4)) (hst.at 0 rfl)
  ·replace H0:=Z0 hc4 H0
   refine wp_skip ?_
   refine Zo ?_
   refine wp_seq ?_
   refine r_a [5,15,0] (L:=[(2,_),(3,_)]) (hst.pick [0,1] rfl) hb Za
    (a_p [] rfl (Zd rfl rfl c_i)<|a_n) (fun a g hst hb=>?_)
   obtain ⟨z18,hz1,H0⟩:=Zc H0
   refine Zbt (fun a w=>∃ (g:G),w=g.w ∧ St 97 [] a g ∧ Base g0 g ∧ (.inr ())=z18) ?_ ?_
   ·rintro a w ⟨g,rfl,hst,hb,rfl⟩
    refine Zo ?_
    refine r_a [0] (L:=[]) hst hb Za
     (a_p [] rfl (Zd rfl rfl c_b)<|a_n) (fun a g hst hb=>?_)
    refine wp_ret ?_
    obtain rfl:=Option.some.inj H0
    exact Z8 rfl hst hb (Zi (s:=4)) (hst.at 0 rfl)
   ·refine wp_block ?_
    refine wp_loop_ghost (fun n a w=>∃ (x5:Int) (g:G),w=g.w ∧ St 97 [(2,(Zf.ptr a0)),(3,(Zf.ptr a1)),(5,(pInt .i64 x5))] a g ∧ Base g0 g ∧ Ze3 a0 a1 n x5=some z18) (Int.toNat ((a0.List.length:Int) - (0:Int)) + 1) ⟨(0:Int),g,rfl,(hst.pick [0,1,2] rfl),hb,hz1⟩ (fun n a w hI=>?_)
    obtain ⟨x5,g,rfl,hst,hb,H1⟩:=hI
    cases n with
    | zero=>exact absurd H1 (by simp [Ze3])
    | succ n =>
     rw [Ze3] at H1
     refine wp_seq ?_
     refine r_a [5,15,25,40] (L:=[(2,_),(3,_),(5,_)]) hst hb Za
      (Am 25 rfl<|Af Zc6 5 rfl<|Al Zeg 0 rfl<|a_p [0] rfl (Zbx Tryz.underlying60 rfl rfl u_0)<|a_p [30,0] rfl (Zcv rfl rfl u_0 u_1)<|a_n) (fun a g hst hb=>?_)
     refine wp_cond_split (hst.bool 3 rfl) (fun hc6=>?_) (fun hc6=>?_)
     ·replace H1:=Z1 hc6 H1
      refine wp_skip ?_
      refine Zo ?_
      refine wp_seq ?_
      refine wp_block ?_
      obtain ⟨e7,h8,H1⟩:=Zc H1;obtain ⟨e9,h10,H1⟩:=Zc H1;obtain ⟨e11,h12,H1⟩:=Zc H1;obtain ⟨e13,h14,H1⟩:=Zc H1;obtain ⟨r15,h16,H1⟩:=Zc H1
      refine r_a [5,15,25,280] (L:=[(2,_),(3,_),(5,_)]) (hst.pick [0,1,2] rfl) hb Za
       (Af Zc6 5 rfl<|Al Zeg 0 rfl<|Am 25 rfl<|a_p [10,0] rfl (Zbw Tryz.underlying60 Zho rfl rfl u_0 u_1 h8)<|Af Zfg 0 rfl<|Al ty_9 0 rfl<|Af Zc6 15 rfl<|Al Zeg 0 rfl<|Am 25 rfl<|a_p [10,0] rfl (Zbw Tryz.underlying60 Zho rfl rfl u_0 u_1 h10)<|Af Zfg 0 rfl<|Al ty_9 0 rfl<|a_p [60,0] rfl (Zs2 rfl rfl u_0 u_1)<|Am 0 rfl<|a_g [0,5] (Qg_f rfl (fun hG=>Zl Zc6 rfl rfl u_0))<|a_g [10,0] (Qg_f rfl (fun hG=>Z2 Zeg rfl rfl (Opd.gd hG u_0)))<|a_g [20,25] (Qg_f rfl (fun hG=>Z6 rfl rfl u_0))<|a_g [30,10,0] (Qg_f rfl (fun hG=>Zbw Tryz.underlying60 Zho rfl rfl (Opd.gd hG u_0) (Opd.gd hG u_1) (Zcb h12 hG)))<|a_g [40,0] (Qg_f rfl (fun hG=>Zl Zf2 rfl rfl (Opd.gd hG u_0)))<|a_g [50,0] (Qg_f rfl (fun hG=>Z2 Zd7 rfl rfl (Opd.gd hG u_0)))<|a_g [60,15] (Qg_f rfl (fun hG=>Zl Zc6 rfl rfl u_0))<|a_g [70,0] (Qg_f rfl (fun hG=>Z2 Zeg rfl rfl (Opd.gd hG u_0)))<|a_g [80,25] (Qg_f rfl (fun hG=>Z6 rfl rfl u_0))<|a_g [90,10,0] (Qg_f rfl (fun hG=>Zbw Tryz.underlying60 Zho rfl rfl (Opd.gd hG u_0) (Opd.gd hG u_1) (Zcb h14 hG)))<|a_g [100,0] (Qg_f rfl (fun hG=>Zl Zf2 rfl rfl (Opd.gd hG u_0)))<|a_g [110,0] (Qg_f rfl (fun hG=>Z2 Zd7 rfl rfl (Opd.gd hG u_0)))<|a_g [120,60,0] (Qg_f rfl (fun hG=>Zr Zzf (Zia _ _ (Zcb h16 hG)) rfl rfl (.cons (Opd.gd hG u_0) (.cons (Opd.gd hG u_1) .nil))))<|a_g [130,0] (Qg_f rfl (fun hG=>Zc2 rfl rfl (Opd.gd hG u_0)))<|a_p [140,0] rfl (Zb2 rfl rfl u_0 (fun hz=>(Opd.gd (bNF hz) u_1)))<|a_n) (fun a g hst hb=>?_)
      refine wp_cond_split (hst.bool 3 rfl) (fun hc17=>?_) (fun hc17=>?_)
      ·replace H1:=Z1 hc17 H1
       refine r_a [0] (L:=[]) (hst.pick [] rfl) hb Za
        (a_p [] rfl (Zd rfl rfl c_b)<|a_n) (fun a g hst hb=>?_)
       refine wp_ret ?_
       refine Z5 ?_
       refine Zt ?_
       refine Zt ?_
       refine Z5 ?_
       refine Zt ?_
       refine Zt ?_
       obtain rfl:=Option.some.inj H1
       obtain rfl:=Option.some.inj H0
       exact Z8 rfl hst hb (Zi (s:=4)) (hst.at 0 rfl)
      ·replace H1:=Z0 hc17 H1
       refine wp_skip ?_
       refine Zbn ?_
       refine Zo ?_
       refine r_b [5,15,20] (L:=[(2,_),(3,_),(5,_)]) (hst.pick [0,1,2] rfl) hb Za
        (Am 25 rfl<|a_p [0] rfl (Zcf rfl rfl u_0 c_i rfl)<|Aa 0 rfl<|a_n) (fun a g hst hb=>?_)
       exact ⟨n,Nat.lt_succ_self _,(IntKind.i64.wrap (x5 + (1:Int))),g,rfl,(hst.pick [0,1,2] rfl),hb,H1⟩
     ·replace H1:=Z0 hc6 H1
      refine wp_exit ?_
      refine Zb0 ?_
      refine Zb0 ?_
      refine Zcj ?_
      exact ⟨g,rfl,(hst.pick [] rfl),hb,Option.some.inj H1⟩
theorem Zu1 (a0:Zs) (a1:Zs) {r:Bool} (h:Zkc a0 a1=some r):FnOk Tryz.prog 52 [(Zy.pd a0),(Zy.pd a1)] (Zbm r):=by
 have H0:=h
 unfold Zkc at H0
 clear h
 refine Zb4 (N:=50) Tryz.func52 rfl rfl (Qe rfl) rfl rfl (fun a g0 hst hb=>?_)
 refine r_a [0,10] (L:=[(0,_),(1,_)]) hst hb Za
  (a_p [5] rfl (Zbq rfl rfl u_0)<|a_p [15] rfl (Zbq rfl rfl u_0)<|a_p [] rfl (Zd rfl rfl c_b)<|a_n) (fun a g hst hb=>?_)
 refine wp_seq ?_
 refine r_a [5,15,320] (L:=[(2,_),(3,_)]) hst hb Za
  (Af Zgn 5 rfl<|Al ty_3 0 rfl<|Af Zgn 15 rfl<|Al ty_3 0 rfl<|a_p [20,0] rfl (Zdd rfl rfl u_0 u_1)<|Am 0 rfl<|a_g [0,5] (Qg_f rfl (fun hG=>Zl Zmx rfl rfl u_0))<|a_g [10,0] (Qg_f rfl (fun hG=>Z2 ty_9 rfl rfl (Opd.gd hG u_0)))<|a_g [20,15] (Qg_f rfl (fun hG=>Zl Zmx rfl rfl u_0))<|a_g [30,0] (Qg_f rfl (fun hG=>Z2 ty_9 rfl rfl (Opd.gd hG u_0)))<|a_g [40,20,0] (Qg_f rfl (fun hG=>Zs2 rfl rfl (Opd.gd hG u_0) (Opd.gd hG u_1)))<|a_p [50,0] rfl (Zb2 rfl rfl u_0 (fun hz=>(Opd.gd (bNF hz) u_1)))<|Am 0 rfl<|a_g [0,5] (Qg_f rfl (fun hG=>Zl Zg0 rfl rfl u_0))<|a_g [10,0] (Qg_f rfl (fun hG=>Z2 ty_2 rfl rfl (Opd.gd hG u_0)))<|a_g [20,15] (Qg_f rfl (fun hG=>Zl Zg0 rfl rfl u_0))<|a_g [30,0] (Qg_f rfl (fun hG=>Z2 ty_2 rfl rfl (Opd.gd hG u_0)))<|a_g [40,20,0] (Qg_f rfl (fun hG=>Zdd rfl rfl (Opd.gd hG u_0) (Opd.gd hG u_1)))<|a_p [50,0] rfl (Zb2 rfl rfl u_0 (fun hz=>(Opd.gd (bNF hz) u_1)))<|Am 0 rfl<|a_g [0,5] (Qg_f rfl (fun hG=>Zl Zi8 rfl rfl u_0))<|a_g [10,0] (Qg_f rfl (fun hG=>Z2 ty_9 rfl rfl (Opd.gd hG u_0)))<|a_g [20,15] (Qg_f rfl (fun hG=>Zl Zi8 rfl rfl u_0))<|a_g [30,0] (Qg_f rfl (fun hG=>Z2 ty_9 rfl rfl (Opd.gd hG u_0)))<|a_g [40,20,0] (Qg_f rfl (fun hG=>Zs2 rfl rfl (Opd.gd hG u_0) (Opd.gd hG u_1)))<|a_p [50,0] rfl (Zb2 rfl rfl u_0 (fun hz=>(Opd.gd (bNF hz) u_1)))<|Am 0 rfl<|a_g [0,5] (Qg_f rfl (fun hG=>Zl Zro rfl rfl u_0))<|a_g [10,0] (Qg_f rfl (fun hG=>Z2 ty_4 rfl rfl (Opd.gd hG u_0)))<|a_g [20,15] (Qg_f rfl (fun hG=>Zl Zro rfl rfl u_0))<|a_g [30,0] (Qg_f rfl (fun hG=>Z2 ty_4 rfl rfl (Opd.gd hG u_0)))<|a_g [40,20,0] (Qg_f rfl (fun hG=>Zbgq Tryz.underlying4 rfl rfl (Opd.gd hG u_0) (Opd.gd hG u_1)))<|a_p [50,0] rfl (Zb2 rfl rfl u_0 (fun hz=>(Opd.gd (bNF hz) u_1)))<|a_n) (fun a g hst hb=>?_)
 refine wp_cond_split (hst.bool 2 rfl) (fun hc1=>?_) (fun hc1=>?_)
 ·replace H0:=Z1 hc1 H0
  refine r_a [0] (L:=[]) (hst.pick [] rfl) hb Za
   (a_p [] rfl (Zd rfl rfl c_b)<|a_n) (fun a g hst hb=>?_)
  refine wp_ret ?_
  refine Zt ?_
  obtain rfl:=Option.some.inj H0
  exact Z8 rfl hst hb (Zi (s:=4)) (hst.at 0 rfl)
 ·replace H0:=Z0 hc1 H0
  refine wp_skip ?_
  refine Zo ?_
  obtain ⟨r2,h3,H0⟩:=Zc H0;obtain ⟨r4,h5,H0⟩:=Zc H0
  refine r_a [120] (L:=[(2,_),(3,_)]) (hst.pick [0,1] rfl) hb Za
   (Af Zo8 5 rfl<|Al Zd7 0 rfl<|Af Zo8 15 rfl<|Al Zd7 0 rfl<|a_p [20,0] rfl (Zr Zzf (Zia _ _ h3) rfl rfl (.cons u_0 (.cons u_1 .nil)))<|Am 0 rfl<|a_g [0,5] (Qg_t rfl (fun hG=>Zl Zmy rfl rfl u_0))<|a_g [10,0] (Qg_t rfl (fun hG=>Z2 Zbr rfl rfl (Opd.gd hG u_0)))<|a_g [20,15] (Qg_t rfl (fun hG=>Zl Zmy rfl rfl u_0))<|a_g [30,0] (Qg_t rfl (fun hG=>Z2 Zbr rfl rfl (Opd.gd hG u_0)))<|a_g [40,20,0] (Qg_t rfl (fun hG=>Zr Zbel (Zpz _ _ (Zcb h5 hG)) rfl rfl (.cons (Opd.gd hG u_0) (.cons (Opd.gd hG u_1) .nil))))<|a_p [50,0] rfl (Zb5 rfl rfl u_0 (fun hz=>(Opd.gd hz u_1)))<|Aa 0 rfl<|a_n) (fun a g hst hb=>?_)
  refine wp_ret ?_
  obtain rfl:=Option.some.inj H0
  exact Z8 rfl hst hb (Zi (s:=4)) (hst.at 0 rfl)
theorem Zux (a0:Zu) (a1:Zu) {r:Bool} (h:Zj9 a0 a1=some r):FnOk Tryz.prog 30 [(Zbb.pd a0),(Zbb.pd a1)] (Zbm r):=by
 have H0:=h
 unfold Zj9 at H0
 clear h
 refine Zb4 (N:=32) Tryz.func30 rfl rfl (Qe rfl) rfl rfl (fun a g0 hst hb=>?_)
 refine r_a [0,10] (L:=[(0,_),(1,_)]) hst hb Za
  (a_p [5] rfl (Zbq rfl rfl u_0)<|a_p [15] rfl (Zbq rfl rfl u_0)<|a_p [] rfl (Zd rfl rfl c_b)<|a_n) (fun a g hst hb=>?_)
 refine wp_seq ?_
 refine r_a [5,15,60] (L:=[(2,_),(3,_)]) hst hb Za
  (Af Zid 5 rfl<|Al Znd 0 rfl<|a_p [0] rfl (Zbx Tryz.underlying51 rfl rfl u_0)<|Af Zid 15 rfl<|Al Znd 0 rfl<|a_p [0] rfl (Zbx Tryz.underlying51 rfl rfl u_0)<|a_p [30,0] rfl (Zdd rfl rfl u_0 u_1)<|a_n) (fun a g hst hb=>?_)
 refine wp_cond_split (hst.bool 2 rfl) (fun hc1=>?_) (fun hc1=>?_)
 ·replace H0:=Z1 hc1 H0
  refine r_a [0] (L:=[]) (hst.pick [] rfl) hb Za
   (a_p [] rfl (Zd rfl rfl c_b)<|a_n) (fun a g hst hb=>?_)
  refine wp_ret ?_
  refine Zt ?_
  obtain rfl:=Option.some.inj H0
  exact Z8 rfl hst hb (Zi (s:=4)) (hst.at 0 rfl)
 ·replace H0:=Z0 hc1 H0
  refine wp_skip ?_
  refine Zo ?_
  refine wp_seq ?_
  refine r_a [5,15,0] (L:=[(2,_),(3,_)]) (hst.pick [0,1] rfl) hb Za
   (a_p [] rfl (Zd rfl rfl c_i)<|a_n) (fun a g hst hb=>?_)
  obtain ⟨z11,hz1,H0⟩:=Zc H0
  refine Zbt (fun a w=>∃ (g:G),w=g.w ∧ St 32 [] a g ∧ Base g0 g ∧ (.inr ())=z11) ?_ ?_
  ·rintro a w ⟨g,rfl,hst,hb,rfl⟩
   refine Zo ?_
   refine r_a [0] (L:=[]) hst hb Za
    (a_p [] rfl (Zd rfl rfl c_b)<|a_n) (fun a g hst hb=>?_)
   refine wp_ret ?_
   obtain rfl:=Option.some.inj H0
   exact Z8 rfl hst hb (Zi (s:=4)) (hst.at 0 rfl)
  ·refine wp_block ?_
   refine wp_loop_ghost (fun n a w=>∃ (x2:Int) (g:G),w=g.w ∧ St 32 [(2,(Zbb.ptr a0)),(3,(Zbb.ptr a1)),(5,(pInt .i64 x2))] a g ∧ Base g0 g ∧ Ze2 a0 a1 n x2=some z11) (Int.toNat ((a0.Acts.length:Int) - (0:Int)) + 1) ⟨(0:Int),g,rfl,(hst.pick [0,1,2] rfl),hb,hz1⟩ (fun n a w hI=>?_)
   obtain ⟨x2,g,rfl,hst,hb,H1⟩:=hI
   cases n with
   | zero=>exact absurd H1 (by simp [Ze2])
   | succ n =>
    rw [Ze2] at H1
    refine wp_seq ?_
    refine r_a [5,15,25,40] (L:=[(2,_),(3,_),(5,_)]) hst hb Za
     (Am 25 rfl<|Af Zid 5 rfl<|Al Znd 0 rfl<|a_p [0] rfl (Zbx Tryz.underlying51 rfl rfl u_0)<|a_p [30,0] rfl (Zcv rfl rfl u_0 u_1)<|a_n) (fun a g hst hb=>?_)
    refine wp_cond_split (hst.bool 3 rfl) (fun hc3=>?_) (fun hc3=>?_)
    ·replace H1:=Z1 hc3 H1
     refine wp_skip ?_
     refine Zo ?_
     refine wp_seq ?_
     refine wp_block ?_
     obtain ⟨e4,h5,H1⟩:=Zc H1;obtain ⟨e6,h7,H1⟩:=Zc H1;obtain ⟨r8,h9,H1⟩:=Zc H1
     refine r_a [5,15,25,110] (L:=[(2,_),(3,_),(5,_)]) (hst.pick [0,1,2] rfl) hb Za
      (Af Zid 5 rfl<|Al Znd 0 rfl<|Am 25 rfl<|a_p [10,0] rfl (Zbw Tryz.underlying51 Zsj rfl rfl u_0 u_1 h5)<|Al Zhh 0 rfl<|Af Zid 15 rfl<|Al Znd 0 rfl<|Am 25 rfl<|a_p [10,0] rfl (Zbw Tryz.underlying51 Zsj rfl rfl u_0 u_1 h7)<|Al Zhh 0 rfl<|a_p [50,0] rfl (Zr Zbkj (Zu1 _ _ h9) rfl rfl (.cons u_0 (.cons u_1 .nil)))<|a_p [0] rfl (Zc2 rfl rfl u_0)<|a_n) (fun a g hst hb=>?_)
     refine wp_cond_split (hst.bool 3 rfl) (fun hc10=>?_) (fun hc10=>?_)
     ·replace H1:=Z1 hc10 H1
      refine r_a [0] (L:=[]) (hst.pick [] rfl) hb Za
       (a_p [] rfl (Zd rfl rfl c_b)<|a_n) (fun a g hst hb=>?_)
      refine wp_ret ?_
      refine Z5 ?_
      refine Zt ?_
      refine Zt ?_
      refine Z5 ?_
      refine Zt ?_
      refine Zt ?_
      obtain rfl:=Option.some.inj H1
      obtain rfl:=Option.some.inj H0
      exact Z8 rfl hst hb (Zi (s:=4)) (hst.at 0 rfl)
     ·replace H1:=Z0 hc10 H1
      refine wp_skip ?_
      refine Zbn ?_
      refine Zo ?_
      refine r_b [5,15,20] (L:=[(2,_),(3,_),(5,_)]) (hst.pick [0,1,2] rfl) hb Za
       (Am 25 rfl<|a_p [0] rfl (Zcf rfl rfl u_0 c_i rfl)<|Aa 0 rfl<|a_n) (fun a g hst hb=>?_)
      exact ⟨n,Nat.lt_succ_self _,(IntKind.i64.wrap (x2 + (1:Int))),g,rfl,(hst.pick [0,1,2] rfl),hb,H1⟩
    ·replace H1:=Z0 hc3 H1
     refine wp_exit ?_
     refine Zb0 ?_
     refine Zb0 ?_
     refine Zcj ?_
     exact ⟨g,rfl,(hst.pick [] rfl),hb,Option.some.inj H1⟩
theorem Zup (a0:Zbk) (a1:Zbk) {r:Bool} (h:Zik a0 a1=some r):FnOk Tryz.prog 10 [(Zcs.pd a0),(Zcs.pd a1)] (Zbm r):=by
 have H0:=h
 unfold Zik at H0
 clear h
 refine Zb4 (N:=39) Tryz.func10 rfl rfl (Qe rfl) rfl rfl (fun a g0 hst hb=>?_)
 refine r_a [0,10] (L:=[(0,_),(1,_)]) hst hb Za
  (a_p [5] rfl (Zbq rfl rfl u_0)<|a_p [15] rfl (Zbq rfl rfl u_0)<|a_p [] rfl (Zd rfl rfl c_b)<|a_n) (fun a g hst hb=>?_)
 refine wp_seq ?_
 refine r_a [5,15,130] (L:=[(2,_),(3,_)]) hst hb Za
  (Af Zs7 5 rfl<|Al ty_3 0 rfl<|Af Zs7 15 rfl<|Al ty_3 0 rfl<|a_p [20,0] rfl (Zdd rfl rfl u_0 u_1)<|Am 0 rfl<|a_g [0,5] (Qg_f rfl (fun hG=>Zl Zii rfl rfl u_0))<|a_g [10,0] (Qg_f rfl (fun hG=>Z2 Zml rfl rfl (Opd.gd hG u_0)))<|a_g [20,0] (Qg_f rfl (fun hG=>Zbx Tryz.underlying23 rfl rfl (Opd.gd hG u_0)))<|a_g [30,15] (Qg_f rfl (fun hG=>Zl Zii rfl rfl u_0))<|a_g [40,0] (Qg_f rfl (fun hG=>Z2 Zml rfl rfl (Opd.gd hG u_0)))<|a_g [50,0] (Qg_f rfl (fun hG=>Zbx Tryz.underlying23 rfl rfl (Opd.gd hG u_0)))<|a_g [60,30,0] (Qg_f rfl (fun hG=>Zdd rfl rfl (Opd.gd hG u_0) (Opd.gd hG u_1)))<|a_p [70,0] rfl (Zb2 rfl rfl u_0 (fun hz=>(Opd.gd (bNF hz) u_1)))<|a_n) (fun a g hst hb=>?_)
 refine wp_cond_split (hst.bool 2 rfl) (fun hc1=>?_) (fun hc1=>?_)
 ·replace H0:=Z1 hc1 H0
  refine r_a [0] (L:=[]) (hst.pick [] rfl) hb Za
   (a_p [] rfl (Zd rfl rfl c_b)<|a_n) (fun a g hst hb=>?_)
  refine wp_ret ?_
  refine Zt ?_
  obtain rfl:=Option.some.inj H0
  exact Z8 rfl hst hb (Zi (s:=4)) (hst.at 0 rfl)
 ·replace H0:=Z0 hc1 H0
  refine wp_skip ?_
  refine Zo ?_
  refine wp_seq ?_
  refine r_a [5,15,0] (L:=[(2,_),(3,_)]) (hst.pick [0,1] rfl) hb Za
   (a_p [] rfl (Zd rfl rfl c_i)<|a_n) (fun a g hst hb=>?_)
  obtain ⟨z11,hz1,H0⟩:=Zc H0
  refine Zbt (fun a w=>∃ (g:G),w=g.w ∧ St 39 [] a g ∧ Base g0 g ∧ (.inr ())=z11) ?_ ?_
  ·rintro a w ⟨g,rfl,hst,hb,rfl⟩
   refine Zo ?_
   refine r_a [0] (L:=[]) hst hb Za
    (a_p [] rfl (Zd rfl rfl c_b)<|a_n) (fun a g hst hb=>?_)
   refine wp_ret ?_
   obtain rfl:=Option.some.inj H0
   exact Z8 rfl hst hb (Zi (s:=4)) (hst.at 0 rfl)
  ·refine wp_block ?_
   refine wp_loop_ghost (fun n a w=>∃ (x2:Int) (g:G),w=g.w ∧ St 39 [(2,(Zcs.ptr a0)),(3,(Zcs.ptr a1)),(5,(pInt .i64 x2))] a g ∧ Base g0 g ∧ Ze1 a0 a1 n x2=some z11) (Int.toNat ((a0.Deals.length:Int) - (0:Int)) + 1) ⟨(0:Int),g,rfl,(hst.pick [0,1,2] rfl),hb,hz1⟩ (fun n a w hI=>?_)
   obtain ⟨x2,g,rfl,hst,hb,H1⟩:=hI
   cases n with
   | zero=>exact absurd H1 (by simp [Ze1])
   | succ n =>
    rw [Ze1] at H1
    refine wp_seq ?_
    refine r_a [5,15,25,40] (L:=[(2,_),(3,_),(5,_)]) hst hb Za
     (Am 25 rfl<|Af Zii 5 rfl<|Al Zml 0 rfl<|a_p [0] rfl (Zbx Tryz.underlying23 rfl rfl u_0)<|a_p [30,0] rfl (Zcv rfl rfl u_0 u_1)<|a_n) (fun a g hst hb=>?_)
    refine wp_cond_split (hst.bool 3 rfl) (fun hc3=>?_) (fun hc3=>?_)
    ·replace H1:=Z1 hc3 H1
     refine wp_skip ?_
     refine Zo ?_
     refine wp_seq ?_
     refine wp_block ?_
     obtain ⟨e4,h5,H1⟩:=Zc H1;obtain ⟨e6,h7,H1⟩:=Zc H1;obtain ⟨r8,h9,H1⟩:=Zc H1
     refine r_a [5,15,25,110] (L:=[(2,_),(3,_),(5,_)]) (hst.pick [0,1,2] rfl) hb Za
      (Af Zii 5 rfl<|Al Zml 0 rfl<|Am 25 rfl<|a_p [10,0] rfl (Zbw Tryz.underlying23 Zon rfl rfl u_0 u_1 h5)<|Al Zgx 0 rfl<|Af Zii 15 rfl<|Al Zml 0 rfl<|Am 25 rfl<|a_p [10,0] rfl (Zbw Tryz.underlying23 Zon rfl rfl u_0 u_1 h7)<|Al Zgx 0 rfl<|a_p [50,0] rfl (Zr Zbkp (Zux _ _ h9) rfl rfl (.cons u_0 (.cons u_1 .nil)))<|a_p [0] rfl (Zc2 rfl rfl u_0)<|a_n) (fun a g hst hb=>?_)
     refine wp_cond_split (hst.bool 3 rfl) (fun hc10=>?_) (fun hc10=>?_)
     ·replace H1:=Z1 hc10 H1
      refine r_a [0] (L:=[]) (hst.pick [] rfl) hb Za
       (a_p [] rfl (Zd rfl rfl c_b)<|a_n) (fun a g hst hb=>?_)
      refine wp_ret ?_
      refine Z5 ?_
      refine Zt ?_
      refine Zt ?_
      refine Z5 ?_
      refine Zt ?_
      refine Zt ?_
      obtain rfl:=Option.some.inj H1
      obtain rfl:=Option.some.inj H0
      exact Z8 rfl hst hb (Zi (s:=4)) (hst.at 0 rfl)
     ·replace H1:=Z0 hc10 H1
      refine wp_skip ?_
      refine Zbn ?_
      refine Zo ?_
      refine r_b [5,15,20] (L:=[(2,_),(3,_),(5,_)]) (hst.pick [0,1,2] rfl) hb Za
       (Am 25 rfl<|a_p [0] rfl (Zcf rfl rfl u_0 c_i rfl)<|Aa 0 rfl<|a_n) (fun a g hst hb=>?_)
      exact ⟨n,Nat.lt_succ_self _,(IntKind.i64.wrap (x2 + (1:Int))),g,rfl,(hst.pick [0,1,2] rfl),hb,H1⟩
    ·replace H1:=Z0 hc3 H1
     refine wp_exit ?_
     refine Zb0 ?_
     refine Zb0 ?_
     refine Zcj ?_
     exact ⟨g,rfl,(hst.pick [] rfl),hb,Option.some.inj H1⟩
theorem Z0o:Z7y Tryz.prog 53:=by
 intro g v2 b4 b5
 refine callsD_of_wpS Tryz.func53 rfl fun c₀ cs hu=>?_
 apply wpS_seq
 apply wpS_region
 simp [wpOpsS,go_sem,recoverD,hu,Tryz.ntmps53,Exit.thenS]
 refine wpS_of_wp ?_
 refine Z40 (fun a=>St 18 [(6,pEq .nilIface)] a g.bare) ?_ (fun a hst=>?_)
 ·exact ⟨by simp,rfl,Zfn (show Act.at _ _=_ by simp [Act.at,Array.getD_eq_getD_getElem?,Array.getElem?_append,Array.getElem?_setIfInBounds]) Zq2⟩
 have hb:=Zq0 g
 refine (show (Code.block _ _).wp Tryz.prog _ a g.bare.w from ?_)
 refine wp_block ?_
 refine r_s (T:=[⟨[.o 0],_,[],[],[8]⟩]) (F:=[.p 0 0,.o 0]) hst hb Za
  (o_p rfl (Z7c (by kernel_rfl) rfl rfl u_0)<|o_n) (fun a g1 hst hb=>?_)
 refine wp_cond_split (hst.bool 0 rfl) (fun _=>?_) (fun hc=>by cases hc)
 refine r_g (L:=[(6,_)]) (T:=[⟨[.o 0],_,[],[],[3]⟩]) (F:=[.o 0]) (hst.pick [1] rfl) hb Za
  (Qa rfl u_0<|o_n) (fun a g1 hst hb=>?_)
 refine Zbn ?_
 obtain ⟨g2,e2,hs,_⟩:=Zsb hb
 refine ⟨hst.df,.returning,?_,.tuple #[],by simp [results,Tryz.results53],rfl,rfl,g2,e2.symm,hs⟩
 rw [← hu]
theorem Z0q:Z74 Tryz.prog 53 Z4 Zdn Zd8 Zcd 116 Zgm (fun r=>({ Code:=r.code,At:=r.at_,Answers:=([]:List Zj) }:Z7)):=by
 intro g v2 v b4 b5 s z4 x r hs h4 h5 hv
 refine callsD_of_wpS Tryz.func53 rfl fun c₀ cs hu=>?_
 apply wpS_seq
 apply wpS_region
 simp [wpOpsS,go_sem,recoverD,hu,Tryz.ntmps53,Exit.thenS]
 refine wpS_of_wp ?_
 refine Z40 (fun a=>St 18 [(0,Z4.ptr s),(1,Zbi (some b4) Z4 0 z4),(2,Zc5 (some b5) Zdn Zd8 hpT 1 x),(6,Zok 116 (Zgm.pd r))] a g) ?_ (fun a hst=>?_)
 ·exact ⟨by simp,rfl,Zfn (Z21 (v:=v2) (by simp [Act.at,Array.getD_eq_getD_getElem?,Array.getElem?_append,Array.getElem?_setIfInBounds]) hs) (Zfn (Z21 (v:=ptrV b4) (by simp [Act.at,Array.getD_eq_getD_getElem?,Array.getElem?_append,Array.getElem?_setIfInBounds]) h4) (Zfn (Z21 (v:=ptrV b5) (by simp [Act.at,Array.getD_eq_getD_getElem?,Array.getElem?_append,Array.getElem?_setIfInBounds]) h5) (Zfn (Z21 (v:=v) (by simp [Act.at,Array.getD_eq_getD_getElem?,Array.getElem?_append,Array.getElem?_setIfInBounds]) hv) Zq2)))⟩
 have hb:Base g g:=⟨.refl _,rfl,rfl,rfl,fun _ _ h=>⟨rfl,rfl,h⟩⟩
 refine (show (Code.block _ _).wp Tryz.prog _ a g.w from ?_)
 refine wp_block ?_
 refine r_s (T:=[⟨[.o 3],_,[],[],[8]⟩]) (F:=[.o 0,.o 1,.o 2,.o 3,.p 0 0]) hst hb Za
  (o_p rfl (Zbdt (by kernel_rfl) rfl rfl u_0)<|o_n) (fun a g1 hst hb=>?_)
 refine wp_cond_split (hst.bool 4 rfl) (fun hc=>by cases hc) (fun _=>?_)
 refine r_s (L:=[(0,_),(1,_),(2,_),(6,_)]) (T:=[⟨[.o 3],_,[],[],[9]⟩,⟨[.p 0 0],_,[],[0],[10]⟩,⟨[.p 0 0],_,[],[0],[11]⟩]) (F:=[.o 0,.o 1,.o 2,.p 1 0,.p 2 0]) (hst.pick [0,1,2,3] rfl) hb Za
  (o_p rfl (Z9r (by kernel_rfl) rfl rfl u_0)<|o_p rfl (Zba rfl rfl u_0 rfl)<|o_p rfl (Zba rfl rfl u_0 rfl)<|o_n) (fun a g1 hst hb=>?_)
 refine wp_cond_split (hst.bool 3 rfl) (fun _=>?_) (fun hc=>by cases hc)
 refine r_s (L:=[(0,_),(1,_),(2,_),(11,_)]) (T:=[⟨[],[(4,(pBox Zgm 90 (default:Zea)))],[91],[],[4]⟩,⟨[.p 0 0,.o 3],_,[91],[0],[4]⟩]) (F:=[.o 0,.o 1,.o 2,.p 1 0]) (hst.pick [0,1,2,4] rfl) hb Za
  (o_p rfl (Zbl (zs:=[.int .i64 0,.int .i64 0]) (by kernel_rfl) (fun g=>Zzg g) rfl rfl)<|o_p rfl (Zch Zbg8 rfl rfl u_0 u_1)<|o_n) (fun a g1 hst hb=>?_)
 refine r_g (T:=[⟨[.o 0],_,[],[],[12]⟩,⟨[.o 3],_,[],[],[13]⟩,⟨[.p 1 0],_,[],[1],[14]⟩,⟨[.o 3],_,[],[],[15]⟩,⟨[.p 3 0],_,[],[3],[16]⟩,⟨[.p 2 0,.p 4 0],_,[],[1,2,3,4],[17]⟩,⟨[.o 1,.p 0 0],_,[1],[0],[1]⟩,⟨[.o 2,.p 5 0],_,[2],[0,1,2,3,4,5,6],[2]⟩]) (F:=[.p 6 0,.p 7 0]) hst hb Za
  (Ql rfl Zb7 u_0<|Qf rfl Zbcm u_0<|Ql rfl Zpk u_0<|Qf rfl Zbcx u_0<|Ql rfl ty_3 u_0<|o_p rfl (Z1l rfl rfl u_0 u_1)<|o_p rfl (Zbg Zb7 rfl rfl u_0 u_1)<|o_p rfl (Zrk (kV:=Zdn) (by rfl) Zpe rfl rfl u_0 u_1)<|o_n) (fun a g1 hst hb=>?_)
 refine Zbn ?_
 have k4:=hst.at 0 rfl
 have k5:=hst.at 1 rfl
 have w4:Act.at a 1=ptrV b4:=Zba8 k4
 have w5:Act.at a 2=ptrV b5:=Zba8 k5
 exact ⟨hst.df,.panicking [{ v:=v,recovered:=true }],rfl,.tuple #[],by simp [results,Tryz.results53],rfl,rfl,g1,rfl,hb,w4 ▸ k4,w5 ▸ k5⟩
theorem Zkx (a0:Int) (a1:Zb) (a2:Bool) {r:Zb × Bool × Zj × Zb} (h:Zhl a0 a1 a2=some r):FnB Tryz.prog 103 [.val (pInt .i64 a0),.box Zf a1 r.2.2.2,.val (Kd.bool.ptr a2)] (pTup [(Zf.pd r.1),(Zbm r.2.1),(Z3.pd r.2.2.1)]):=by
 have H0:=h
 unfold Zhl at H0
 clear h
 refine Ze8 (N:=11) Tryz.func103 rfl rfl (Qe rfl) rfl rfl (fun a g0 bs hbs hst hb=>?_)
 obtain ⟨b1,rfl⟩:=Zmo hbs
 replace hst:St 11 [(0,(pInt .i64 a0)),(1,(Zbi (some b1) Zf 1 a1)),(2,(Kd.bool.ptr a2))] _ _:=hst
 refine r_a [5,15,25,0,20] (L:=[(0,_),(1,_),(2,_)]) hst hb Za
  (a_p (outs:=[(4,(pBox Zf 4 (default:Zb)))]) (S:=[5]) [] rfl (Zbl (zs:=[.int .i64 0,.int .i64 0,.int .i64 0,.int .i64 0,.float .f64 0,.int .i64 0,.string ByteArray.empty,.slice none 0 0]) (by kernel_rfl) (fun g=>Zc4 g) rfl rfl)<|a_p [] rfl (Zd rfl rfl c_b)<|a_p (outs:=[(6,(pBox Z3 6 (default:Zj)))]) (S:=[7]) [] rfl (Zbl (zs:=[.int .i64 0,.int .i64 0,.int .i64 0,.int .i64 0,.int .i64 0,.int .i64 0,.float .f64 0,.int .i64 0,.string ByteArray.empty,.slice none 0 0]) (by kernel_rfl) (fun g=>Zh3 g) rfl rfl)<|a_n) (fun a g hst hb=>?_)
 refine r_a [15,40,50,60] (L:=[(0,_),(1,_),(2,_),(4,_),(6,_)]) hst hb Za
  (AM Zbr 15 rfl<|Al ty_4 25 rfl<|Am 5 rfl<|a_p [0] rfl (Zx1 rfl rfl u_0)<|a_p [30,35] rfl (Zbg Zbr rfl rfl u_1 u_0)<|Aa 30 rfl<|a_p [20,45] rfl (Zbg Zcw rfl rfl u_1 u_0)<|a_n) (fun a g hst hb=>?_)
 refine wp_ret ?_
 obtain rfl:=Option.some.inj H0
 obtain ⟨u0,hu0,hq0⟩:=Zbo (P:=Tryz.prog) Zbr (hst.at 1 rfl)
 obtain ⟨u2,hu2,hq2⟩:=Zbo (P:=Tryz.prog) Zcw (hst.at 3 rfl)
 exact Zbjj rfl hst hb hu0 (Zi (s:=5)) hu2 (Zkz hq0 (hst.at 2 rfl) hq2) ⟨Zc7 (hst.at 0 rfl),trivial⟩
theorem Zbbr (a0:Int) {r:Int} (h:Zpm a0=some r):FnOk Tryz.prog 104 [(pInt .i64 a0)] (pInt .i64 r):=by
 have H0:=h
 unfold Zpm at H0
 clear h
 refine Zb4 (N:=6) Tryz.func104 rfl rfl (Qe rfl) rfl rfl (fun a g0 hst hb=>?_)
 refine r_a [5] (L:=[(0,_)]) hst hb Za
  (a_p [] rfl (Zd rfl rfl c_i)<|a_n) (fun a g hst hb=>?_)
 obtain ⟨r1,h2,H0⟩:=Zc H0
 refine r_a [30] (L:=[(0,_)]) hst hb Za
  (Am 5 rfl<|a_p [0] rfl (Zr Z2x (Zsm _ h2) rfl rfl (.cons u_0 .nil))<|a_p [0] rfl (Zbci Z4w rfl rfl u_0)<|Aa 0 rfl<|a_n) (fun a g hst hb=>?_)
 refine wp_ret ?_
 obtain rfl:=Option.some.inj H0
 exact Z8 rfl hst hb (Zi (s:=2)) (hst.at 0 rfl)
theorem Zww (a0:Zb) (a1:Zs) (a2:Zj) {r:Int × Zb × Zj} (h:Zlz a0 a1 a2=some r):FnB Tryz.prog 111 [.box Zf a0 r.2.1,.val (Zy.pd a1),.box Z3 a2 r.2.2] (pInt .i64 r.1):=by
 have H0:=h
 unfold Zlz at H0
 clear h
 refine Ze8 (N:=12) Tryz.func111 rfl rfl (Qe rfl) rfl rfl (fun a g0 bs hbs hst hb=>?_)
 obtain ⟨b0,b2,rfl⟩:=Zop hbs
 replace hst:St 12 [(0,(Zbi (some b0) Zf 0 a0)),(1,(Zy.pd a1)),(2,(Zbi (some b2) Z3 2 a2))] _ _:=hst
 refine r_a [5,25,0] (L:=[(0,_),(1,_),(2,_)]) hst hb Za
  (a_p [15] rfl (Zbq rfl rfl u_0)<|a_p [] rfl (Zd rfl rfl c_i)<|a_n) (fun a g hst hb=>?_)
 refine r_a [50,15] (L:=[(0,_),(2,_),(4,_)]) hst hb Za
  (Am 5 rfl<|Af Zi8 25 rfl<|Al ty_9 0 rfl<|a_p [20] rfl (Zm rfl rfl u_0 (fun _ _ ⟨_,_,_,e,_⟩=>⟨_,e⟩))<|a_p [0] rfl (Zbf Zkp (off:=6) (by kernel_rfl) rfl rfl u_0)<|a_p [20,0,5] rfl (Z7x ty_9 rfl rfl u_2 u_1 u_0)<|a_n) (fun a g hst hb=>?_)
 refine r_a [5,15,0] (L:=[(0,_),(2,_)]) hst hb Za
  (a_p [] rfl (Zd rfl rfl c_i)<|a_n) (fun a g hst hb=>?_)
 refine wp_ret ?_
 obtain rfl:=Option.some.inj H0
 exact Zfm rfl hst hb (Zi (s:=6)) (hst.at 2 rfl) ⟨Zc7 (hst.at 0 rfl),Zc7 (hst.at 1 rfl),trivial⟩
theorem Zwv (a0:Zb) (a1:Zs) (a2:Zj) {r:Int × Zb × Zj} (h:Zir a0 a1 a2=some r):FnB Tryz.prog 112 [.box Zf a0 r.2.1,.val (Zy.pd a1),.box Z3 a2 r.2.2] (pInt .i64 r.1):=by
 have H0:=h
 unfold Zir at H0
 clear h
 refine Ze8 (N:=19) Tryz.func112 rfl rfl (Qe rfl) rfl rfl (fun a g0 bs hbs hst hb=>?_)
 obtain ⟨b0,b2,rfl⟩:=Zop hbs
 replace hst:St 19 [(0,(Zbi (some b0) Zf 0 a0)),(1,(Zy.pd a1)),(2,(Zbi (some b2) Z3 2 a2))] _ _:=hst
 refine r_a [5,25,0] (L:=[(0,_),(1,_),(2,_)]) hst hb Za
  (a_p [15] rfl (Zbq rfl rfl u_0)<|a_p [] rfl (Zd rfl rfl c_i)<|a_n) (fun a g hst hb=>?_)
 obtain ⟨r1,h2,H0⟩:=Zc H0
 refine r_a [5,70,25] (L:=[(0,_),(2,_),(4,_)]) hst hb Za
  (Am 15 rfl<|Am 5 rfl<|a_p [0] rfl (Zm rfl rfl u_0 (fun _ _ ⟨_,_,_,e,_⟩=>⟨_,e⟩))<|AM Zbr 0 rfl<|a_p [0] rfl (Zr Zrd (Zhv _ h2) rfl rfl (.cons u_0 .nil))<|a_p [40] rfl (Zm rfl rfl u_0 (fun _ _ ⟨_,_,_,e,_⟩=>⟨_,e⟩))<|a_p [0] rfl (Zbf Zyg (off:=2) (by kernel_rfl) rfl rfl u_0)<|a_p [20,0,15] rfl (Zbcp Zbr rfl rfl u_2 u_1 u_0)<|a_n) (fun a g hst hb=>?_)
 refine r_a [50,15] (L:=[(0,_),(2,_),(4,_)]) hst hb Za
  (Am 5 rfl<|Af Zi8 25 rfl<|Al ty_9 0 rfl<|a_p [20] rfl (Zm rfl rfl u_0 (fun _ _ ⟨_,_,_,e,_⟩=>⟨_,e⟩))<|a_p [0] rfl (Zbf Zkp (off:=6) (by kernel_rfl) rfl rfl u_0)<|a_p [20,0,5] rfl (Z7x ty_9 rfl rfl u_2 u_1 u_0)<|a_n) (fun a g hst hb=>?_)
 refine r_a [5,15,0] (L:=[(0,_),(2,_)]) hst hb Za
  (a_p [] rfl (Zd rfl rfl c_i)<|a_n) (fun a g hst hb=>?_)
 refine wp_ret ?_
 obtain rfl:=Option.some.inj H0
 exact Zfm rfl hst hb (Zi (s:=6)) (hst.at 2 rfl) ⟨Zc7 (hst.at 0 rfl),Zc7 (hst.at 1 rfl),trivial⟩
theorem Zw9 (a0:Zb) (a1:Zs) (a2:Zj) {r:Int × Zb × Zj} (h:Zlw a0 a1 a2=some r):FnB Tryz.prog 113 [.box Zf a0 r.2.1,.val (Zy.pd a1),.box Z3 a2 r.2.2] (pInt .i64 r.1):=by
 have H0:=h
 unfold Zlw at H0
 clear h
 refine Ze8 (N:=16) Tryz.func113 rfl rfl (Qe rfl) rfl rfl (fun a g0 bs hbs hst hb=>?_)
 obtain ⟨b0,b2,rfl⟩:=Zop hbs
 replace hst:St 16 [(0,(Zbi (some b0) Zf 0 a0)),(1,(Zy.pd a1)),(2,(Zbi (some b2) Z3 2 a2))] _ _:=hst
 refine r_a [5,25,0] (L:=[(0,_),(1,_),(2,_)]) hst hb Za
  (a_p [15] rfl (Zbq rfl rfl u_0)<|a_p [] rfl (Zd rfl rfl c_i)<|a_n) (fun a g hst hb=>?_)
 refine r_a [90,15] (L:=[(0,_),(2,_),(4,_)]) hst hb Za
  (Am 5 rfl<|a_p [0] rfl (Zm rfl rfl u_0 (fun _ _ ⟨_,_,_,e,_⟩=>⟨_,e⟩))<|a_p [0] rfl (Zbf Zez (off:=1) (by kernel_rfl) rfl rfl u_0)<|AP ty_2 0 rfl<|Af Zg0 25 rfl<|Al ty_2 0 rfl<|a_p [20,0] rfl (Zcf rfl rfl u_0 u_1 rfl)<|a_p [60] rfl (Zm rfl rfl u_0 (fun _ _ ⟨_,_,_,e,_⟩=>⟨_,e⟩))<|a_p [0] rfl (Zbf Zez (off:=1) (by kernel_rfl) rfl rfl u_0)<|a_p [20,0,5] rfl (Zwe ty_2 rfl rfl u_2 u_1 u_0)<|a_n) (fun a g hst hb=>?_)
 refine r_a [5,15,0] (L:=[(0,_),(2,_)]) hst hb Za
  (a_p [] rfl (Zd rfl rfl c_i)<|a_n) (fun a g hst hb=>?_)
 refine wp_ret ?_
 obtain rfl:=Option.some.inj H0
 exact Zfm rfl hst hb (Zi (s:=6)) (hst.at 2 rfl) ⟨Zc7 (hst.at 0 rfl),Zc7 (hst.at 1 rfl),trivial⟩
theorem Z4x (a0:Zb) (a1:Zs) (a2:Zj) {r:Int × Zb × Zj} (h:Znf a0 a1 a2=some r):FnB Tryz.prog 114 [.box Zf a0 r.2.1,.val (Zy.pd a1),.box Z3 a2 r.2.2] (pInt .i64 r.1):=by
 have H0:=h
 unfold Znf at H0
 clear h
 refine Ze8 (N:=44) Tryz.func114 rfl rfl (Qe rfl) rfl rfl (fun a g0 bs hbs hst hb=>?_)
 obtain ⟨b0,b2,rfl⟩:=Zop hbs
 replace hst:St 44 [(0,(Zbi (some b0) Zf 0 a0)),(1,(Zy.pd a1)),(2,(Zbi (some b2) Z3 2 a2))] _ _:=hst
 refine r_a [5,25,0] (L:=[(0,_),(1,_),(2,_)]) hst hb Za
  (a_p [15] rfl (Zbq rfl rfl u_0)<|a_p [] rfl (Zd rfl rfl c_i)<|a_n) (fun a g hst hb=>?_)
 refine wp_seq ?_
 refine r_a [5,15,25,270] (L:=[(0,_),(2,_),(4,_)]) hst hb Za
  (Af Zg0 25 rfl<|Al ty_2 0 rfl<|a_p [0] rfl (Zcu rfl rfl u_0 c_i)<|Am 0 rfl<|a_g [0,5] (Qg_t rfl (fun hG=>Z6 rfl rfl u_0))<|a_g [10,0] (Qg_t rfl (fun hG=>Zm rfl rfl (Opd.gd hG u_0) (fun _ _ ⟨_,_,_,e,_⟩=>⟨_,e⟩)))<|a_g [20,0] (Qg_t rfl (fun hG=>Zbf Zez (off:=1) (by kernel_rfl) rfl rfl (Opd.gd hG u_0)))<|a_g [30,0] (Qg_t rfl (fun hG=>Zmb ty_2 rfl rfl (Opd.gd hG u_0)))<|a_g [40,25] (Qg_t rfl (fun hG=>Zl Zg0 rfl rfl u_0))<|a_g [50,0] (Qg_t rfl (fun hG=>Z2 ty_2 rfl rfl (Opd.gd hG u_0)))<|a_g [60,0] (Qg_t rfl (fun hG=>Zkb rfl rfl c_i (Opd.gd hG u_0) rfl))<|a_g [70,30,0] (Qg_t rfl (fun hG=>Zcu rfl rfl (Opd.gd hG u_0) (Opd.gd hG u_1)))<|a_p [80,0] rfl (Zb5 rfl rfl u_0 (fun hz=>(Opd.gd hz u_1)))<|Am 0 rfl<|a_g [0,25] (Qg_f rfl (fun hG=>Zl Zg0 rfl rfl u_0))<|a_g [10,0] (Qg_f rfl (fun hG=>Z2 ty_2 rfl rfl (Opd.gd hG u_0)))<|a_g [20,0] (Qg_f rfl (fun hG=>Zcv rfl rfl (Opd.gd hG u_0) c_i))<|a_g [30,0] (Qg_f rfl (fun hG=>Z6 rfl rfl (Opd.gd hG u_0)))<|a_g [0,5] (Qg_ti rfl (fun hG=>Z6 rfl rfl u_0))<|a_g [10,0] (Qg_ti rfl (fun hG=>Zm rfl rfl (Opd.gd hG u_0) (fun _ _ ⟨_,_,_,e,_⟩=>⟨_,e⟩)))<|a_g [20,0] (Qg_ti rfl (fun hG=>Zbf Zez (off:=1) (by kernel_rfl) rfl rfl (Opd.gd hG u_0)))<|a_g [30,0] (Qg_ti rfl (fun hG=>Zmb ty_2 rfl rfl (Opd.gd hG u_0)))<|a_g [40,25] (Qg_ti rfl (fun hG=>Zl Zg0 rfl rfl u_0))<|a_g [50,0] (Qg_ti rfl (fun hG=>Z2 ty_2 rfl rfl (Opd.gd hG u_0)))<|a_g [60,0] (Qg_ti rfl (fun hG=>Zkb rfl rfl c_i (Opd.gd hG u_0) rfl))<|a_g [70,30,0] (Qg_ti rfl (fun hG=>Zcv rfl rfl (Opd.gd hG u_0) (Opd.gd hG u_1)))<|a_g [120,80,0] (Qg_f rfl (fun hG=>Zb5 rfl rfl (Opd.gd hG u_0) (fun hz=>(Opd.gd (bA hG hz) u_1))))<|a_p [130,0] rfl (Zb2 rfl rfl u_0 (fun hz=>(Opd.gd (bNF hz) u_1)))<|a_n) (fun a g hst hb=>?_)
 refine wp_cond_split (hst.bool 3 rfl) (fun hc1=>?_) (fun hc1=>?_)
 ·replace H0:=Z1 hc1 H0
  refine r_a [5,15,0] (L:=[(0,_),(2,_)]) (hst.pick [0,1] rfl) hb Za
   (a_p [] rfl (Zd rfl rfl c_i)<|a_n) (fun a g hst hb=>?_)
  refine wp_ret ?_
  refine Zt ?_
  obtain rfl:=Option.some.inj H0
  exact Zfm rfl hst hb (Zi (s:=6)) (hst.at 2 rfl) ⟨Zc7 (hst.at 0 rfl),Zc7 (hst.at 1 rfl),trivial⟩
 ·replace H0:=Z0 hc1 H0
  refine wp_skip ?_
  refine Zo ?_
  refine r_a [90,15] (L:=[(0,_),(2,_),(4,_)]) (hst.pick [0,1,2] rfl) hb Za
   (Am 5 rfl<|a_p [0] rfl (Zm rfl rfl u_0 (fun _ _ ⟨_,_,_,e,_⟩=>⟨_,e⟩))<|a_p [0] rfl (Zbf Zez (off:=1) (by kernel_rfl) rfl rfl u_0)<|AP ty_2 0 rfl<|Af Zg0 25 rfl<|Al ty_2 0 rfl<|a_p [20,0] rfl (Zcf rfl rfl u_0 u_1 rfl)<|a_p [60] rfl (Zm rfl rfl u_0 (fun _ _ ⟨_,_,_,e,_⟩=>⟨_,e⟩))<|a_p [0] rfl (Zbf Zez (off:=1) (by kernel_rfl) rfl rfl u_0)<|a_p [20,0,5] rfl (Zwe ty_2 rfl rfl u_2 u_1 u_0)<|a_n) (fun a g hst hb=>?_)
  refine r_a [5,15,0] (L:=[(0,_),(2,_)]) hst hb Za
   (a_p [] rfl (Zd rfl rfl c_i)<|a_n) (fun a g hst hb=>?_)
  refine wp_ret ?_
  obtain rfl:=Option.some.inj H0
  exact Zfm rfl hst hb (Zi (s:=6)) (hst.at 2 rfl) ⟨Zc7 (hst.at 0 rfl),Zc7 (hst.at 1 rfl),trivial⟩
theorem Zsa (a0:Zb) (a1:Zs) (a2:Zj) {r:Int × Zb × Zj} (h:Zg3 a0 a1 a2=some r):FnB Tryz.prog 115 [.box Zf a0 r.2.1,.val (Zy.pd a1),.box Z3 a2 r.2.2] (pInt .i64 r.1):=by
 have H0:=h
 unfold Zg3 at H0
 clear h
 refine Ze8 (N:=14) Tryz.func115 rfl rfl (Qe rfl) rfl rfl (fun a g0 bs hbs hst hb=>?_)
 obtain ⟨b0,b2,rfl⟩:=Zop hbs
 replace hst:St 14 [(0,(Zbi (some b0) Zf 0 a0)),(1,(Zy.pd a1)),(2,(Zbi (some b2) Z3 2 a2))] _ _:=hst
 refine r_a [5,25,0] (L:=[(0,_),(1,_),(2,_)]) hst hb Za
  (a_p [15] rfl (Zbq rfl rfl u_0)<|a_p [] rfl (Zd rfl rfl c_i)<|a_n) (fun a g hst hb=>?_)
 refine wp_seq ?_
 refine r_a [5,15,60] (L:=[(0,_),(2,_),(4,_)]) hst hb Za
  (Am 5 rfl<|a_p [0] rfl (Zm rfl rfl u_0 (fun _ _ ⟨_,_,_,e,_⟩=>⟨_,e⟩))<|a_p [0] rfl (Zbf Zez (off:=1) (by kernel_rfl) rfl rfl u_0)<|AP ty_2 0 rfl<|Af Zg0 25 rfl<|Al ty_2 0 rfl<|a_p [20,0] rfl (Zcv rfl rfl u_0 u_1)<|a_n) (fun a g hst hb=>?_)
 refine wp_cond_split (hst.bool 2 rfl) (fun hc1=>?_) (fun hc1=>?_)
 ·replace H0:=Z1 hc1 H0
  refine r_a [5,15,0] (L:=[(0,_),(2,_)]) (hst.pick [0,1] rfl) hb Za
   (a_p [] rfl (Zd rfl rfl c_i)<|a_n) (fun a g hst hb=>?_)
  refine wp_ret ?_
  refine Zt ?_
  obtain rfl:=Option.some.inj H0
  exact Zfm rfl hst hb (Zi (s:=6)) (hst.at 2 rfl) ⟨Zc7 (hst.at 0 rfl),Zc7 (hst.at 1 rfl),trivial⟩
 ·replace H0:=Z0 hc1 H0
  refine wp_skip ?_
  refine Zo ?_
  refine r_a [5,15,0] (L:=[(0,_),(2,_)]) (hst.pick [0,1] rfl) hb Za
   (a_p [] rfl (Zd rfl rfl c_i)<|a_n) (fun a g hst hb=>?_)
  refine wp_ret ?_
  obtain rfl:=Option.some.inj H0
  exact Zfm rfl hst hb (Zi (s:=6)) (hst.at 2 rfl) ⟨Zc7 (hst.at 0 rfl),Zc7 (hst.at 1 rfl),trivial⟩
theorem Zw1 (a0:Zb) (a1:Zs) (a2:Zj) {r:Int × Zb × Zj} (h:Zie a0 a1 a2=some r):FnB Tryz.prog 116 [.box Zf a0 r.2.1,.val (Zy.pd a1),.box Z3 a2 r.2.2] (pInt .i64 r.1):=by
 have H0:=h
 unfold Zie at H0
 clear h
 refine Ze8 (N:=28) Tryz.func116 rfl rfl (Qe rfl) rfl rfl (fun a g0 bs hbs hst hb=>?_)
 obtain ⟨b0,b2,rfl⟩:=Zop hbs
 replace hst:St 28 [(0,(Zbi (some b0) Zf 0 a0)),(1,(Zy.pd a1)),(2,(Zbi (some b2) Z3 2 a2))] _ _:=hst
 refine r_a [5,25,0] (L:=[(0,_),(1,_),(2,_)]) hst hb Za
  (a_p [15] rfl (Zbq rfl rfl u_0)<|a_p [] rfl (Zd rfl rfl c_i)<|a_n) (fun a g hst hb=>?_)
 refine wp_seq ?_
 refine r_a [5,15,25,110] (L:=[(0,_),(2,_),(4,_)]) hst hb Za
  (Af Zg0 25 rfl<|Al ty_2 0 rfl<|Am 5 rfl<|a_p [0] rfl (Zm rfl rfl u_0 (fun _ _ ⟨_,_,_,e,_⟩=>⟨_,e⟩))<|a_p [0] rfl (Zbf Zkn (off:=3) (by kernel_rfl) rfl rfl u_0)<|AP ty_2 0 rfl<|Am 5 rfl<|a_p [0] rfl (Zm rfl rfl u_0 (fun _ _ ⟨_,_,_,e,_⟩=>⟨_,e⟩))<|a_p [0] rfl (Zbf Zez (off:=1) (by kernel_rfl) rfl rfl u_0)<|AP ty_2 0 rfl<|a_p [40,0] rfl (Zkb rfl rfl u_0 u_1 rfl)<|a_p [90,0] rfl (Zcu rfl rfl u_0 u_1)<|a_n) (fun a g hst hb=>?_)
 refine wp_cond_split (hst.bool 3 rfl) (fun hc1=>?_) (fun hc1=>?_)
 ·replace H0:=Z1 hc1 H0
  refine r_a [5,15,0] (L:=[(0,_),(2,_)]) (hst.pick [0,1] rfl) hb Za
   (a_p [] rfl (Zd rfl rfl c_i)<|a_n) (fun a g hst hb=>?_)
  refine wp_ret ?_
  refine Zt ?_
  obtain rfl:=Option.some.inj H0
  exact Zfm rfl hst hb (Zi (s:=6)) (hst.at 2 rfl) ⟨Zc7 (hst.at 0 rfl),Zc7 (hst.at 1 rfl),trivial⟩
 ·replace H0:=Z0 hc1 H0
  refine wp_skip ?_
  refine Zo ?_
  refine r_a [90,15] (L:=[(0,_),(2,_),(4,_)]) (hst.pick [0,1,2] rfl) hb Za
   (Am 5 rfl<|a_p [0] rfl (Zm rfl rfl u_0 (fun _ _ ⟨_,_,_,e,_⟩=>⟨_,e⟩))<|a_p [0] rfl (Zbf Zez (off:=1) (by kernel_rfl) rfl rfl u_0)<|AP ty_2 0 rfl<|Af Zg0 25 rfl<|Al ty_2 0 rfl<|a_p [20,0] rfl (Zcf rfl rfl u_0 u_1 rfl)<|a_p [60] rfl (Zm rfl rfl u_0 (fun _ _ ⟨_,_,_,e,_⟩=>⟨_,e⟩))<|a_p [0] rfl (Zbf Zez (off:=1) (by kernel_rfl) rfl rfl u_0)<|a_p [20,0,5] rfl (Zwe ty_2 rfl rfl u_2 u_1 u_0)<|a_n) (fun a g hst hb=>?_)
  refine r_a [5,15,0] (L:=[(0,_),(2,_)]) hst hb Za
   (a_p [] rfl (Zd rfl rfl c_i)<|a_n) (fun a g hst hb=>?_)
  refine wp_ret ?_
  obtain rfl:=Option.some.inj H0
  exact Zfm rfl hst hb (Zi (s:=6)) (hst.at 2 rfl) ⟨Zc7 (hst.at 0 rfl),Zc7 (hst.at 1 rfl),trivial⟩
theorem Zwx (a0:Zb) (a1:Zs) (a2:Zj) {r:Int × Zb × Zj} (h:Zic a0 a1 a2=some r):FnB Tryz.prog 117 [.box Zf a0 r.2.1,.val (Zy.pd a1),.box Z3 a2 r.2.2] (pInt .i64 r.1):=by
 have H0:=h
 unfold Zic at H0
 clear h
 refine Ze8 (N:=28) Tryz.func117 rfl rfl (Qe rfl) rfl rfl (fun a g0 bs hbs hst hb=>?_)
 obtain ⟨b0,b2,rfl⟩:=Zop hbs
 replace hst:St 28 [(0,(Zbi (some b0) Zf 0 a0)),(1,(Zy.pd a1)),(2,(Zbi (some b2) Z3 2 a2))] _ _:=hst
 refine r_a [5,25,0] (L:=[(0,_),(1,_),(2,_)]) hst hb Za
  (a_p [15] rfl (Zbq rfl rfl u_0)<|a_p [] rfl (Zd rfl rfl c_i)<|a_n) (fun a g hst hb=>?_)
 refine wp_seq ?_
 refine r_a [5,15,25,110] (L:=[(0,_),(2,_),(4,_)]) hst hb Za
  (Af Zg0 25 rfl<|Al ty_2 0 rfl<|Am 5 rfl<|a_p [0] rfl (Zm rfl rfl u_0 (fun _ _ ⟨_,_,_,e,_⟩=>⟨_,e⟩))<|a_p [0] rfl (Zbf Zez (off:=1) (by kernel_rfl) rfl rfl u_0)<|AP ty_2 0 rfl<|Am 5 rfl<|a_p [0] rfl (Zm rfl rfl u_0 (fun _ _ ⟨_,_,_,e,_⟩=>⟨_,e⟩))<|a_p [0] rfl (Zbf Zko (off:=2) (by kernel_rfl) rfl rfl u_0)<|AP ty_2 0 rfl<|a_p [40,0] rfl (Zkb rfl rfl u_0 u_1 rfl)<|a_p [90,0] rfl (Zcu rfl rfl u_0 u_1)<|a_n) (fun a g hst hb=>?_)
 refine wp_cond_split (hst.bool 3 rfl) (fun hc1=>?_) (fun hc1=>?_)
 ·replace H0:=Z1 hc1 H0
  refine r_a [5,15,0] (L:=[(0,_),(2,_)]) (hst.pick [0,1] rfl) hb Za
   (a_p [] rfl (Zd rfl rfl c_i)<|a_n) (fun a g hst hb=>?_)
  refine wp_ret ?_
  refine Zt ?_
  obtain rfl:=Option.some.inj H0
  exact Zfm rfl hst hb (Zi (s:=6)) (hst.at 2 rfl) ⟨Zc7 (hst.at 0 rfl),Zc7 (hst.at 1 rfl),trivial⟩
 ·replace H0:=Z0 hc1 H0
  refine wp_skip ?_
  refine Zo ?_
  refine r_a [90,15] (L:=[(0,_),(2,_),(4,_)]) (hst.pick [0,1,2] rfl) hb Za
   (Am 5 rfl<|a_p [0] rfl (Zm rfl rfl u_0 (fun _ _ ⟨_,_,_,e,_⟩=>⟨_,e⟩))<|a_p [0] rfl (Zbf Zez (off:=1) (by kernel_rfl) rfl rfl u_0)<|AP ty_2 0 rfl<|Af Zg0 25 rfl<|Al ty_2 0 rfl<|a_p [20,0] rfl (Zkb rfl rfl u_0 u_1 rfl)<|a_p [60] rfl (Zm rfl rfl u_0 (fun _ _ ⟨_,_,_,e,_⟩=>⟨_,e⟩))<|a_p [0] rfl (Zbf Zez (off:=1) (by kernel_rfl) rfl rfl u_0)<|a_p [20,0,5] rfl (Zwe ty_2 rfl rfl u_2 u_1 u_0)<|a_n) (fun a g hst hb=>?_)
  refine r_a [5,15,0] (L:=[(0,_),(2,_)]) hst hb Za
   (a_p [] rfl (Zd rfl rfl c_i)<|a_n) (fun a g hst hb=>?_)
  refine wp_ret ?_
  obtain rfl:=Option.some.inj H0
  exact Zfm rfl hst hb (Zi (s:=6)) (hst.at 2 rfl) ⟨Zc7 (hst.at 0 rfl),Zc7 (hst.at 1 rfl),trivial⟩
theorem Zl0 (h:Nat) (he:Zk Tryz.prog h) (ψ:Nat → Nat → Option Nat) (hψ:∀ x y z,ψ x y=some z → FnOk Tryz.prog h [pFlt x,pFlt y] (pFlt z)) (a0:Zb) (a1:Zs) (a2:Zj) {z:Nat} (hz:ψ a0.Real a1.X=some z):FnB Tryz.prog 131 [.box Zf a0 { a0 with Real:=z },.val (Zy.pd a1),.box Z3 a2 a2,.val (Kd.fnc.ptr h)] (pInt .i64 0):=by
 refine Ze8 (N:=19) Tryz.func131 rfl rfl (Qe rfl) rfl rfl (fun a g0 bs hbs hst hb=>?_)
 obtain ⟨b0,b2,rfl⟩:=Zop hbs
 replace hst:St 19 [(0,(Zbi (some b0) Zf 0 a0)),(1,(Zy.pd a1)),(2,(Zbi (some b2) Z3 2 a2)),(3,(Kd.fnc.ptr h))] _ _:=hst
 refine r_s (T:=[⟨[.o 1],_,[],[],[5]⟩,⟨[],_,[],[],[7]⟩]) (F:=[.o 0,.o 2,.o 3,.p 0 0]) hst hb Za
  (Qb rfl u_0<|Qa rfl c_i<|o_n) (fun a g hst hb=>?_)
 refine r_s (T:=[⟨[.o 0],_,[],[],[8]⟩,⟨[.o 2],_,[],[],[9]⟩,⟨[.o 0],_,[],[],[10]⟩,⟨[.p 2 0],_,[],[2],[11]⟩,⟨[.p 3 0],_,[],[2,3],[12]⟩,⟨[.p 4 0],_,[],[2,3,4],[13]⟩,⟨[.o 3],_,[],[],[14]⟩,⟨[.p 6 0],_,[],[6],[15]⟩,⟨[.p 1 0,.p 5 0,.p 7 0],[(16,(pFlt z))],[],[1,2,3,4,5,6,7],[16]⟩,⟨[.p 0 0],_,[],[0,1,2,3,4,5,6,7,8],[17]⟩,⟨[.p 9 0],_,[],[0,1,2,3,4,5,6,7,8,9],[18]⟩,⟨[.p 8 0,.p 10 0,.o 0],_,[1],[0,1,2,3,4,5,6,7,8,9,10],[0,8,10,11,12,17,18]⟩]) (F:=[.p 11 0,.o 1]) hst hb Za
  (Qm rfl u_0<|Ql rfl Zbgh u_0<|Qm rfl u_0<|o_p rfl (Zm rfl rfl u_0 (fun _ _ ⟨_,_,_,e,_⟩=>⟨_,e⟩))<|o_p rfl (Zbf Zlx (off:=4) (by kernel_rfl) rfl rfl u_0)<|QP rfl Zd7 u_0<|Qf rfl Zo8 u_0<|Ql rfl Zd7 u_0<|o_p rfl (Ztu (C:=[]) (hC:=rfl) he (hψ _ _ _ hz) rfl rfl (Opd.imp u_0 (fun _ _ h=>Zbgw h)) (.cons u_1 (.cons u_2 .nil)))<|o_p rfl (Zm rfl rfl u_0 (fun _ _ ⟨_,_,_,e,_⟩=>⟨_,e⟩))<|o_p rfl (Zbf Zlx (off:=4) (by kernel_rfl) rfl rfl u_0)<|o_p rfl (Zbfv Zd7 rfl rfl u_2 u_1 u_0)<|o_n) (fun a g hst hb=>?_)
 refine r_s (T:=[⟨[],_,[],[],[7]⟩]) (F:=[.o 0,.o 1,.p 0 0]) hst hb Za
  (Qa rfl c_i<|o_n) (fun a g hst hb=>?_)
 refine wp_ret ?_
 exact Zfm rfl hst hb (Zi (s:=7)) (hst.at 2 rfl) ⟨Zc7 (hst.at 0 rfl),Zc7 (hst.at 1 rfl),trivial⟩
theorem Znr (h:Nat):FnOk Tryz.prog 118 [(Kd.fnc.pd h)] (pClo 131 [(Kd.fnc.ptr h)] rfl):=by
 refine Zb4 (N:=4) Tryz.func118 rfl rfl (Qe rfl) rfl rfl (fun a g0 hst hb=>?_)
 refine r_s (T:=[⟨[.o 0],_,[],[],[1]⟩,⟨[],[],[],[],[2]⟩]) (F:=[.p 0 0]) hst hb Za
  (Qb rfl u_0<|o_p rfl (Z4k (.inr rfl))<|o_n) (fun a g hst hb=>?_)
 refine r_s (T:=[⟨[.o 0],[(3,(pClo 131 [(Kd.fnc.ptr h)] rfl))],[],[],[3]⟩,⟨[.p 0 0],_,[],[0],[2]⟩]) (F:=[.p 1 0]) hst hb Za
  (o_p rfl (Z59 rfl rfl (.cons u_0 .nil))<|Qa rfl u_0<|o_n) (fun a g hst hb=>?_)
 refine wp_ret ?_
 exact Z8 rfl hst hb (Zi (s:=2)) (hst.at 0 rfl)
theorem Z83 (a0:Nat) (a1:Nat) {r:Nat} (h:Zn1 a0 a1=some r):FnOk Tryz.prog 119 [(pFlt a0),(pFlt a1)] (pFlt r):=by
 have H0:=h
 unfold Zn1 at H0
 clear h
 refine Zb4 (N:=12) Tryz.func119 rfl rfl (Qe rfl) rfl rfl (fun a g0 hst hb=>?_)
 refine r_a [5,15] (L:=[(0,_),(1,_)]) hst hb Za
  (a_p [] rfl (Zd rfl rfl c_f)<|a_n) (fun a g hst hb=>?_)
 refine wp_seq ?_
 obtain ⟨r1,h2,H0⟩:=Zc H0
 refine r_a [5,15,20] (L:=[(0,_),(1,_)]) hst hb Za
  (Am 5 rfl<|Am 15 rfl<|a_p [10,0] rfl (Zr Z3l (Zsr _ _ h2) rfl rfl (.cons u_0 (.cons u_1 .nil)))<|a_n) (fun a g hst hb=>?_)
 refine wp_cond_split (hst.bool 2 rfl) (fun hc3=>?_) (fun hc3=>?_)
 ·replace H0:=Z1 hc3 H0
  obtain ⟨r4,h5,H0⟩:=Zc H0
  refine r_a [20] (L:=[(1,_)]) (hst.pick [1] rfl) hb Za
   (Am 5 rfl<|a_p [0] rfl (Zr Zsf (Ziy _ h5) rfl rfl (.cons u_0 .nil))<|Aa 0 rfl<|a_n) (fun a g hst hb=>?_)
  refine wp_ret ?_
  refine Zt ?_
  obtain rfl:=Option.some.inj H0
  exact Z8 rfl hst hb (Zi (s:=4)) (hst.at 0 rfl)
 ·replace H0:=Z0 hc3 H0
  refine wp_skip ?_
  refine Zo ?_
  obtain ⟨r6,h7,H0⟩:=Zc H0
  refine r_a [20] (L:=[(0,_)]) (hst.pick [0] rfl) hb Za
   (Am 5 rfl<|a_p [0] rfl (Zr Zsf (Ziy _ h7) rfl rfl (.cons u_0 .nil))<|Aa 0 rfl<|a_n) (fun a g hst hb=>?_)
  refine wp_ret ?_
  obtain rfl:=Option.some.inj H0
  exact Z8 rfl hst hb (Zi (s:=4)) (hst.at 0 rfl)
theorem Z8w (a0:Nat) (a1:Nat) {r:Nat} (h:Zob a0 a1=some r):FnOk Tryz.prog 120 [(pFlt a0),(pFlt a1)] (pFlt r):=by
 have H0:=h
 unfold Zob at H0
 clear h
 refine Zb4 (N:=12) Tryz.func120 rfl rfl (Qe rfl) rfl rfl (fun a g0 hst hb=>?_)
 refine r_a [5,15] (L:=[(0,_),(1,_)]) hst hb Za
  (a_p [] rfl (Zd rfl rfl c_f)<|a_n) (fun a g hst hb=>?_)
 refine wp_seq ?_
 obtain ⟨r1,h2,H0⟩:=Zc H0
 refine r_a [5,15,20] (L:=[(0,_),(1,_)]) hst hb Za
  (Am 15 rfl<|Am 5 rfl<|a_p [10,0] rfl (Zr Z3l (Zsr _ _ h2) rfl rfl (.cons u_0 (.cons u_1 .nil)))<|a_n) (fun a g hst hb=>?_)
 refine wp_cond_split (hst.bool 2 rfl) (fun hc3=>?_) (fun hc3=>?_)
 ·replace H0:=Z1 hc3 H0
  obtain ⟨r4,h5,H0⟩:=Zc H0
  refine r_a [20] (L:=[(1,_)]) (hst.pick [1] rfl) hb Za
   (Am 5 rfl<|a_p [0] rfl (Zr Zsf (Ziy _ h5) rfl rfl (.cons u_0 .nil))<|Aa 0 rfl<|a_n) (fun a g hst hb=>?_)
  refine wp_ret ?_
  refine Zt ?_
  obtain rfl:=Option.some.inj H0
  exact Z8 rfl hst hb (Zi (s:=4)) (hst.at 0 rfl)
 ·replace H0:=Z0 hc3 H0
  refine wp_skip ?_
  refine Zo ?_
  obtain ⟨r6,h7,H0⟩:=Zc H0
  refine r_a [20] (L:=[(0,_)]) (hst.pick [0] rfl) hb Za
   (Am 5 rfl<|a_p [0] rfl (Zr Zsf (Ziy _ h7) rfl rfl (.cons u_0 .nil))<|Aa 0 rfl<|a_n) (fun a g hst hb=>?_)
  refine wp_ret ?_
  obtain rfl:=Option.some.inj H0
  exact Z8 rfl hst hb (Zi (s:=4)) (hst.at 0 rfl)
theorem Z6f (a0:Nat) (a1:Nat) {r:Nat} (h:Zkd a0 a1=some r):FnOk Tryz.prog 121 [(pFlt a0),(pFlt a1)] (pFlt r):=by
 have H0:=h
 unfold Zkd at H0
 clear h
 refine Zb4 (N:=9) Tryz.func121 rfl rfl (Qe rfl) rfl rfl (fun a g0 hst hb=>?_)
 refine r_a [5,15] (L:=[(0,_),(1,_)]) hst hb Za
  (a_p [] rfl (Zd rfl rfl c_f)<|a_n) (fun a g hst hb=>?_)
 obtain ⟨r1,h2,H0⟩:=Zc H0
 refine r_a [40] (L:=[(0,_),(1,_)]) hst hb Za
  (Am 5 rfl<|Am 15 rfl<|a_p [10,0] rfl (Zbca rfl rfl u_0 u_1)<|a_p [0] rfl (Zr Zsf (Z4i (fun r z hr hz=>by simp only [Zgv,hr,hz,Option.bind_some,if_true]) (fun z r h=>Ziy z h) h2) rfl rfl (.cons u_0 .nil))<|Aa 0 rfl<|a_n) (fun a g hst hb=>?_)
 refine wp_ret ?_
 obtain rfl:=Option.some.inj H0
 exact Z8 rfl hst hb (Zi (s:=4)) (hst.at 0 rfl)
theorem Z5d (a0:Nat) (a1:Nat) {r:Nat} (h:Zi2 a0 a1=some r):FnOk Tryz.prog 122 [(pFlt a0),(pFlt a1)] (pFlt r):=by
 have H0:=h
 unfold Zi2 at H0
 clear h
 refine Zb4 (N:=9) Tryz.func122 rfl rfl (Qe rfl) rfl rfl (fun a g0 hst hb=>?_)
 refine r_a [5,15] (L:=[(0,_),(1,_)]) hst hb Za
  (a_p [] rfl (Zd rfl rfl c_f)<|a_n) (fun a g hst hb=>?_)
 obtain ⟨r1,h2,H0⟩:=Zc H0
 refine r_a [40] (L:=[(0,_),(1,_)]) hst hb Za
  (Am 5 rfl<|Am 15 rfl<|a_p [10,0] rfl (Zbdm rfl rfl u_0 u_1)<|a_p [0] rfl (Zr Zsf (Z4i (fun r z hr hz=>by simp only [Zgv,hr,hz,Option.bind_some,if_true]) (fun z r h=>Ziy z h) h2) rfl rfl (.cons u_0 .nil))<|Aa 0 rfl<|a_n) (fun a g hst hb=>?_)
 refine wp_ret ?_
 obtain rfl:=Option.some.inj H0
 exact Z8 rfl hst hb (Zi (s:=4)) (hst.at 0 rfl)
theorem Zw7 (a0:Nat) (a1:Nat) {r:Nat} (h:Zih a0 a1=some r):FnOk Tryz.prog 123 [(pFlt a0),(pFlt a1)] (pFlt r):=by
 have H0:=h
 unfold Zih at H0
 clear h
 refine Zb4 (N:=6) Tryz.func123 rfl rfl (Qe rfl) rfl rfl (fun a g0 hst hb=>?_)
 refine r_a [5] (L:=[(1,_)]) (hst.pick [1] rfl) hb Za
  (a_p [] rfl (Zd rfl rfl c_f)<|a_n) (fun a g hst hb=>?_)
 refine r_a [10] (L:=[(1,_)]) hst hb Za
  (Am 5 rfl<|Aa 0 rfl<|a_n) (fun a g hst hb=>?_)
 refine wp_ret ?_
 obtain rfl:=Option.some.inj H0
 exact Z8 rfl hst hb (Zi (s:=4)) (hst.at 0 rfl)
theorem Zje (f2:Nat) (C2:List Pd) (hC2:Free C2) (e2_:Zk Tryz.prog f2) (φ2:Zh → ByteArray → Option Int) (hφ2:∀ (y0:Zh) (y1:ByteArray) (r:Int),φ2 y0 y1=some r → FnOk Tryz.prog f2 ([(Zz.pd y0),(pStr y1)] ++ C2) (pInt .i64 r)) (a0:List Zh) (a1:ByteArray) {r:Int × Bool} (h:Zde a0 a1 φ2=some r):FnOk Tryz.prog 133 [(Zz.sl.pd a0),(pStr a1),(pClo f2 C2 hC2)] (pTup [(pInt .i64 r.1),(Zbm r.2)]):=by
 have H0:=h
 unfold Zde at H0
 clear h
 refine Zb4 (N:=49) Tryz.func133 rfl rfl (Qe rfl) rfl rfl (fun a g0 hst hb=>?_)
 refine r_a [5,15,25] (L:=[(0,_),(1,_),(2,_)]) hst hb Za
  (a_p [] rfl (Zd rfl rfl c_i)<|a_p [] rfl (Zd rfl rfl c_b)<|a_n) (fun a g hst hb=>?_)
 refine r_a [5,15,25,20,0] (L:=[(0,_),(1,_),(2,_)]) hst hb Za
  (Am 5 rfl<|a_p [0] rfl (Zbx Tryz.underlying60 rfl rfl u_0)<|Aa 0 rfl<|a_n) (fun a g hst hb=>?_)
 refine r_a [5,15,25,35,10,20,45] (L:=[(0,_),(1,_),(2,_),(8,_),(12,_)]) hst hb Za
  (Am 35 rfl<|a_p [] rfl (Zd rfl rfl c_i)<|Aa 10 rfl<|a_n) (fun a g hst hb=>?_)
 obtain ⟨z12,hz1,H0⟩:=Zc H0
 refine wp_seq ?_
 refine Zbt (fun a w=>∃ (y11:Int) (g:G),w=g.w ∧ St 49 [(0,(Zz.sl.pd a0)),(1,(pStr a1)),(2,(pClo f2 C2 hC2)),(8,(pInt .i64 (a0.length:Int))),(9,(pInt .i64 y11)),(12,(Zz.sl.pd a0))] a g ∧ Base g0 g ∧ y11=z12) ?_ ?_
 ·rintro a w ⟨y11,g,rfl,hst,hb,rfl⟩
  refine Zo ?_
  obtain ⟨e13,h14,H0⟩:=Zc H0;obtain ⟨r15,h16,H0⟩:=Zc H0
  refine r_a [140,150] (L:=[(0,_),(1,_),(2,_),(8,_),(9,_),(12,_)]) hst hb Za
   (Am 45 rfl<|Am 45 rfl<|Am 35 rfl<|a_p [10,0] rfl (Zcv rfl rfl u_0 u_1)<|Am 0 rfl<|a_g [0,25] (Qg_t rfl (fun hG=>Z6 rfl rfl u_0))<|a_g [10,5] (Qg_t rfl (fun hG=>Z6 rfl rfl u_0))<|a_g [20,45] (Qg_t rfl (fun hG=>Z6 rfl rfl u_0))<|a_g [30,10,0] (Qg_t rfl (fun hG=>Zbw Tryz.underlying60 Zho rfl rfl (Opd.gd hG u_0) (Opd.gd hG u_1) (Zcb h14 hG)))<|a_g [40,0] (Qg_t rfl (fun hG=>Z2 Zfa rfl rfl (Opd.gd hG u_0)))<|a_g [50,15] (Qg_t rfl (fun hG=>Z6 rfl rfl u_0))<|a_g [60,50,10,0] (Qg_t rfl (fun hG=>Ztu e2_ (hφ2 _ _ _ (Zcb h16 hG)) rfl rfl (Opd.gd hG u_0) (.cons (Opd.gd hG u_1) (.cons (Opd.gd hG u_2) .nil))))<|a_g [70,0] (Qg_t rfl (fun hG=>Zci rfl rfl (Opd.gd hG u_0) c_i))<|a_p [80,0] rfl (Zb5 rfl rfl u_0 (fun hz=>(Opd.gd hz u_1)))<|Aa 130 rfl<|Aa 10 rfl<|a_n) (fun a g hst hb=>?_)
  refine wp_ret ?_
  obtain rfl:=Option.some.inj H0
  exact Zev rfl hst hb (Zi (s:=6)) (Zi (s:=7)) (Zdc (hst.at 0 rfl) (hst.at 1 rfl))
 ·refine wp_block ?_
  refine wp_loop_ghost (fun n a w=>∃ (x1:Int) (x2:Int) (g:G),w=g.w ∧ St 49 [(0,(Zz.sl.pd a0)),(1,(pStr a1)),(2,(pClo f2 C2 hC2)),(8,(pInt .i64 (a0.length:Int))),(9,(pInt .i64 x1)),(10,(pInt .i64 x2)),(12,(Zz.sl.pd a0))] a g ∧ Base g0 g ∧ Zbv a0 a1 φ2 n x1 x2=some z12) (Int.toNat ((a0.length:Int) - (0:Int)) + 1) ⟨(0:Int),(a0.length:Int),g,rfl,(hst.pick [0,1,2,3,4,5,6] rfl),hb,hz1⟩ (fun n a w hI=>?_)
  obtain ⟨x1,x2,g,rfl,hst,hb,H1⟩:=hI
  cases n with
  | zero=>exact absurd H1 (by simp [Zbv])
  | succ n =>
   rw [Zbv] at H1
   refine wp_seq ?_
   refine r_a [5,15,25,35,45,55,65,20] (L:=[(0,_),(1,_),(2,_),(8,_),(9,_),(10,_),(12,_)]) hst hb Za
    (Am 45 rfl<|Am 55 rfl<|a_p [10,0] rfl (Zcv rfl rfl u_0 u_1)<|a_n) (fun a g hst hb=>?_)
   refine wp_cond_split (hst.bool 7 rfl) (fun hc3=>?_) (fun hc3=>?_)
   ·replace H1:=Z1 hc3 H1
    refine wp_skip ?_
    refine Zo ?_
    refine Zbt (fun a w=>∃ (j9:Int) (j10:Int) (g:G),w=g.w ∧ St 49 [(0,(Zz.sl.pd a0)),(1,(pStr a1)),(2,(pClo f2 C2 hC2)),(8,(pInt .i64 (a0.length:Int))),(9,(pInt .i64 j9)),(10,(pInt .i64 j10)),(12,(Zz.sl.pd a0))] a g ∧ Base g0 g ∧ Zcq (Zbv a0 a1 φ2 n) j9 j10=some z12) ?_ ?_
    ·rintro a w ⟨j9,j10,g,rfl,hst,hb,H1⟩
     unfold Zcq at H1
     exact ⟨n,Nat.lt_succ_self _,j9,j10,g,rfl,(hst.pick [0,1,2,3,4,5,6] rfl),hb,H1⟩
    ·refine wp_block ?_
     refine r_a [5,15,25,35,45,55,60,65] (L:=[(0,_),(1,_),(2,_),(8,_),(9,_),(10,_),(12,_)]) (hst.pick [0,1,2,3,4,5,6] rfl) hb Za
      (Am 45 rfl<|Am 55 rfl<|a_p [10,0] rfl (Zcf rfl rfl u_0 u_1 rfl)<|a_p [0] rfl (Zen Tryz.underlying3 Tryz.underlying134 rfl rfl u_0 rfl)<|a_p [0] rfl (Zv4 rfl rfl u_0 c_i (by decide) rfl)<|a_p [0] rfl (Zen Tryz.underlying134 Tryz.underlying3 rfl rfl u_0 rfl)<|Aa 0 rfl<|a_n) (fun a g hst hb=>?_)
     obtain ⟨e4,h5,H1⟩:=Zc H1;obtain ⟨r6,h7,H1⟩:=Zc H1
     refine r_a [5,15,25,35,45,55,65,75,70] (L:=[(0,_),(1,_),(2,_),(8,_),(9,_),(10,_),(11,_),(12,_)]) hst hb Za
      (Am 25 rfl<|Am 5 rfl<|Am 65 rfl<|a_p [10,0] rfl (Zbw Tryz.underlying60 Zho rfl rfl u_0 u_1 h5)<|Al Zfa 0 rfl<|Am 15 rfl<|a_p [50,10,0] rfl (Ztu e2_ (hφ2 _ _ _ h7) rfl rfl u_0 (.cons u_1 (.cons u_2 .nil)))<|a_p [0] rfl (Zcv rfl rfl u_0 c_i)<|a_n) (fun a g hst hb=>?_)
     refine wp_cond_split (hst.bool 8 rfl) (fun hc8=>?_) (fun hc8=>?_)
     ·replace H1:=Z1 hc8 H1
      refine r_b [5,15,25,35,20,45,65] (L:=[(0,_),(1,_),(2,_),(8,_),(10,_),(11,_),(12,_)]) (hst.pick [0,1,2,3,5,6,7] rfl) hb Za
       (Am 55 rfl<|a_p [0] rfl (Zcf rfl rfl u_0 c_i rfl)<|Aa 0 rfl<|a_n) (fun a g hst hb=>?_)
      refine Zbn ?_
      exact ⟨(IntKind.i64.wrap ((IntKind.i64.wrap (Int.fdiv (IntKind.u64.wrap (IntKind.i64.wrap (x1 + x2))) (2 ^ 1))) + (1:Int))),x2,g,rfl,(hst.pick [0,1,2,3,4,5,6] rfl),hb,H1⟩
     ·replace H1:=Z0 hc8 H1
      refine r_b [5,15,25,35,45,10,65] (L:=[(0,_),(1,_),(2,_),(8,_),(9,_),(11,_),(12,_)]) (hst.pick [0,1,2,3,4,6,7] rfl) hb Za
       (Am 55 rfl<|Aa 0 rfl<|a_n) (fun a g hst hb=>?_)
      refine Zbn ?_
      exact ⟨x1,(IntKind.i64.wrap (Int.fdiv (IntKind.u64.wrap (IntKind.i64.wrap (x1 + x2))) (2 ^ 1))),g,rfl,(hst.pick [0,1,2,3,4,5,6] rfl),hb,H1⟩
   ·replace H1:=Z0 hc3 H1
    refine wp_exit ?_
    refine Zb0 ?_
    refine Zb0 ?_
    refine Zcj ?_
    exact ⟨x1,g,rfl,(hst.pick [0,1,2,3,4,6] rfl),hb,Option.some.inj H1⟩
theorem Z0p (a0:Zh) (a1:ByteArray) {r:Int} (h:Zlf a0 a1=some r):FnOk Tryz.prog 134 [(Zz.pd a0),(pStr a1)] (pInt .i64 r):=by
 have H0:=h
 unfold Zlf at H0
 clear h
 refine Zb4 (N:=15) Tryz.func134 rfl rfl (Qe rfl) rfl rfl (fun a g0 hst hb=>?_)
 refine r_a [15,0] (L:=[(0,_),(1,_)]) hst hb Za
  (a_p [5] rfl (Zbq rfl rfl u_0)<|a_p [] rfl (Zd rfl rfl c_i)<|a_n) (fun a g hst hb=>?_)
 refine wp_seq ?_
 refine wp_block ?_
 refine r_a [5,15,40] (L:=[(1,_),(2,_)]) hst hb Za
  (Af Zfg 15 rfl<|Al ty_9 0 rfl<|Am 5 rfl<|a_p [10,0] rfl (Zqz rfl rfl u_0 u_1)<|Aa 0 rfl<|a_n) (fun a g hst hb=>?_)
 refine wp_cond_split (hst.bool 2 rfl) (fun hc1=>?_) (fun hc1=>?_)
 ·replace H0:=Z1 hc1 H0
  refine r_a [0] (L:=[]) (hst.pick [] rfl) hb Za
   (a_p [] rfl (Zd rfl rfl c_i)<|a_n) (fun a g hst hb=>?_)
  refine wp_ret ?_
  refine Z5 ?_
  refine Zt ?_
  obtain rfl:=Option.some.inj H0
  exact Z8 rfl hst hb (Zi (s:=4)) (hst.at 0 rfl)
 ·replace H0:=Z0 hc1 H0
  refine r_a [40] (L:=[(1,_),(2,_)]) (hst.pick [0,1] rfl) hb Za
   (Af Zfg 15 rfl<|Al ty_9 0 rfl<|Am 5 rfl<|a_p [10,0] rfl (Zzr rfl rfl u_0 u_1)<|Aa 0 rfl<|a_n) (fun a g hst hb=>?_)
  refine wp_cond_split (hst.bool 0 rfl) (fun hc2=>?_) (fun hc2=>?_)
  ·replace H0:=Z1 hc2 H0
   refine r_a [0] (L:=[]) (hst.pick [] rfl) hb Za
    (a_p [] rfl (Zd rfl rfl c_i)<|a_n) (fun a g hst hb=>?_)
   refine wp_ret ?_
   refine Z5 ?_
   refine Zt ?_
   obtain rfl:=Option.some.inj H0
   exact Z8 rfl hst hb (Zi (s:=4)) (hst.at 0 rfl)
  ·replace H0:=Z0 hc2 H0
   refine wp_skip ?_
   refine Zbn ?_
   refine Zo ?_
   refine r_a [0] (L:=[]) (hst.pick [] rfl) hb Za
    (a_p [] rfl (Zd rfl rfl c_i)<|a_n) (fun a g hst hb=>?_)
   refine wp_ret ?_
   obtain rfl:=Option.some.inj H0
   exact Z8 rfl hst hb (Zi (s:=4)) (hst.at 0 rfl)
theorem Zr6 (a0:List Zh) (a1:ByteArray) {r:Int × Bool} (h:Znq a0 a1=some r):FnOk Tryz.prog 126 [(Zz.sl.pd a0),(pStr a1)] (pTup [(pInt .i64 r.1),(Zbm r.2)]):=by
 have H0:=h
 unfold Znq at H0
 clear h
 refine Zb4 (N:=11) Tryz.func126 rfl rfl (Qe rfl) rfl rfl (fun a g0 hst hb=>?_)
 refine r_a [5,15] (L:=[(0,_),(1,_)]) hst hb Za
  (a_p [] rfl (Zd rfl rfl c_i)<|a_p [] rfl (Zd rfl rfl c_b)<|a_n) (fun a g hst hb=>?_)
 obtain ⟨r1,h2,H0⟩:=Zc H0
 refine r_a [50,60] (L:=[(0,_),(1,_)]) hst hb Za
  (Am 5 rfl<|Am 15 rfl<|a_p [10,0] rfl (Zr Zbh6 (Zje 134 [] rfl Zbh4 (fun y0 y1=>Zlf y0 y1) (fun y0 y1 r h=>Z0p y0 y1 h) _ _ h2) rfl rfl (.cons u_0 (.cons u_1 (.cons Opd.fnc .nil))))<|a_p [0] rfl (Zba rfl rfl u_0 rfl)<|a_p [10] rfl (Zba rfl rfl u_0 rfl)<|Aa 10 rfl<|Aa 10 rfl<|a_n) (fun a g hst hb=>?_)
 refine wp_ret ?_
 obtain rfl:=Option.some.inj H0
 exact Zev rfl hst hb (Zi (s:=4)) (Zi (s:=5)) (Zdc (hst.at 0 rfl) (hst.at 1 rfl))
set_option maxHeartbeats 1000000 in
theorem Zji (a0:List Zh) (a1:Int) (a2:List Zh) {r:List Zh} (h:Zcp a0 a1 a2=some r):Z3c Tryz.prog 132 Zz 100 a0 [(pInt .i64 a1),(Zz.sl.pd a2)] (Zz.sl.pd r):=by
 unfold Zcp at h
 obtain ⟨⟨hi0,hi1,hm,hsz⟩,H0⟩:=Ze0 h
 obtain rfl:=Option.some.inj H0
 obtain ⟨k,rfl⟩:=Int.eq_ofNat_of_zero_le hi0
 have hk:k ≤ a0.length:=by omega
 have hb0:(a0.length + a2.length) ≤ 140737488355328:=Nat.le_trans (Nat.le_mul_of_pos_right _ (by decide)) hsz
 simp only [Int.toNat_natCast]
 refine Z5m (N:=95) Tryz.func132 rfl rfl (Qe rfl) rfl (fun hx a g A0 hst hb=>?_) (fun a g cap hcap hmax hst hb=>?_)
 ·subst hx
  obtain rfl:k=0:=by simpa using hk
  refine r_s (T:=[⟨[],[(6,(Zz.sl.pd []))],[],[],[6]⟩]) (F:=[.o 0,.o 1,.o 2]) hst hb Za
   (o_p rfl (Zd rfl rfl (Opd.c (fun g=>Zg7 g)))<|o_n) (fun a g hst hb=>?_)
  refine r_s (T:=[⟨[.o 0],_,[],[],[10]⟩,⟨[.o 1],_,[],[],[11]⟩,⟨[.p 0 0,.p 1 0],_,[],[0,1],[12]⟩]) (F:=[.o 0,.o 1,.o 2]) hst hb Za
   (Qm rfl u_0<|Qm rfl u_0<|o_p rfl (Z9p Ze6 rfl u_0 u_1)<|o_n) (fun a g hst hb=>?_)
  refine r_s (T:=[⟨[.o 2],_,[],[],[13]⟩,⟨[.p 0 0],_,[],[0],[14]⟩,⟨[.p 1 0],_,[],[0,1],[7]⟩]) (F:=[.o 0,.o 1,.o 2,.p 2 0]) hst hb Za
   (Qm rfl u_0<|o_p rfl (Zbx Tryz.underlying60 rfl rfl u_0)<|Qa rfl u_0<|o_n) (fun a g hst hb=>?_)
  refine wp_seq ?_
  refine r_s (T:=[⟨[.o 3],_,[],[],[15]⟩,⟨[.p 0 0],_,[],[0],[16]⟩]) (F:=[.o 0,.o 1,.o 2,.o 3,.p 1 0]) hst hb Za
   (Qm rfl u_0<|o_p rfl (Zci rfl rfl u_0 c_i)<|o_n) (fun a g hst hb=>?_)
  refine wp_cond_split (hst.bool 4 rfl) (fun hc=>?_) (fun hc=>?_)
  ·exact absurd (beq_iff_eq.1 hc) (by omega)
  ·refine wp_skip ?_
   refine Zo ?_
   refine r_s (L:=[(0,_),(1,_),(2,_),(7,_)]) (T:=[⟨[.o 0],_,[],[],[18]⟩,⟨[.p 0 0],_,[],[0],[19]⟩,⟨[.p 1 0],_,[],[0,1],[8]⟩]) (F:=[.o 0,.o 1,.o 2,.o 3,.p 2 0]) (hst.pick [0,1,2,3] rfl) hb Za
    (Qm rfl u_0<|o_p rfl (Zbe7 Tryz.underlying60 rfl rfl u_0)<|Qa rfl u_0<|o_n) (fun a g hst hb=>?_)
   refine wp_seq ?_
   refine r_s (T:=[⟨[.o 1],_,[],[],[20]⟩,⟨[.o 4],_,[],[],[21]⟩,⟨[.p 0 0,.p 1 0],_,[],[0,1],[22]⟩]) (F:=[.o 0,.o 1,.o 2,.o 3,.o 4,.p 2 0]) hst hb Za
    (Qm rfl u_0<|Qm rfl u_0<|o_p rfl (Zci rfl rfl u_0 u_1)<|o_n) (fun a g hst hb=>?_)
   refine wp_cond_split (hst.bool 5 rfl) (fun hc=>?_) (fun hc=>?_)
   ·refine r_s (L:=[(0,_),(2,_)]) (T:=[⟨[.o 0],_,[],[],[23]⟩,⟨[.o 1],_,[],[],[24]⟩,⟨[.p 0 0,.p 1 0],[(25,(pOwn Zz 100 25 none (a2.map some)))],[26],[0,1],[25]⟩,⟨[.p 2 0],_,[],[0,1,2],[6]⟩]) (F:=[.p 3 0]) (hst.pick [0,2] rfl) hb Za
     (Qm rfl u_0<|Qm rfl u_0<|o_p rfl (Z8g Ze6 rfl rfl u_0 u_1 hm (by simpa using hsz))<|Qa rfl u_0<|o_n) (fun a g hst hb=>?_)
    refine wp_ret ?_
    refine Zt ?_
    have hq:=hst.at 0 rfl
    have he:([]:List Zh).take 0 ++ a2 ++ ([]:List Zh).drop 0=a2:=by simp
    rw [he]
    exact Zsw rfl hst hb (Zi (s:=6)) hq
   ·exact absurd hc (by simp)
 ·refine r_s (T:=[⟨[],[(6,(Zz.sl.pd []))],[],[],[6]⟩]) (F:=[.o 0,.o 1,.o 2]) hst hb Za
   (o_p rfl (Zd rfl rfl (Opd.c (fun g=>Zg7 g)))<|o_n) (fun a g hst hb=>?_)
  refine r_s (T:=[⟨[.o 0],_,[],[],[10]⟩,⟨[.o 1],_,[],[],[11]⟩,⟨[.p 0 0,.p 1 0],_,[],[0,1],[12]⟩]) (F:=[.o 0,.o 1,.o 2]) hst hb Za
   (Qm rfl u_0<|Qm rfl u_0<|o_p rfl (Ziw Ze6 (by simpa using hk) rfl rfl u_0 u_1)<|o_n) (fun a g hst hb=>?_)
  refine r_s (T:=[⟨[.o 2],_,[],[],[13]⟩,⟨[.p 0 0],_,[],[0],[14]⟩,⟨[.p 1 0],_,[],[0,1],[7]⟩]) (F:=[.o 0,.o 1,.o 2,.p 2 0]) hst hb Za
   (Qm rfl u_0<|o_p rfl (Zbx Tryz.underlying60 rfl rfl u_0)<|Qa rfl u_0<|o_n) (fun a g hst hb=>?_)
  refine wp_seq ?_
  refine r_s (T:=[⟨[.o 3],_,[],[],[15]⟩,⟨[.p 0 0],_,[],[0],[16]⟩]) (F:=[.o 0,.o 1,.o 2,.o 3,.p 1 0]) hst hb Za
   (Qm rfl u_0<|o_p rfl (Zci rfl rfl u_0 c_i)<|o_n) (fun a g hst hb=>?_)
  refine wp_cond_split (hst.bool 4 rfl) (fun hc=>?_) (fun hc=>?_)
  ·exact absurd (beq_iff_eq.1 hc) (by omega)
  ·refine wp_skip ?_
   refine Zo ?_
   refine r_s (L:=[(0,_),(1,_),(2,_),(7,_)]) (T:=[⟨[.o 0],_,[],[],[18]⟩,⟨[.p 0 0],_,[],[0],[19]⟩,⟨[.p 1 0],_,[],[0,1],[8]⟩]) (F:=[.o 0,.o 1,.o 2,.o 3,.p 2 0]) (hst.pick [0,1,2,3] rfl) hb Za
    (Qm rfl u_0<|o_p rfl (Zwp Tryz.underlying60 rfl rfl u_0)<|Qa rfl u_0<|o_n) (fun a g hst hb=>?_)
   refine wp_seq ?_
   refine r_s (T:=[⟨[.o 1],_,[],[],[20]⟩,⟨[.o 4],_,[],[],[21]⟩,⟨[.p 0 0,.p 1 0],_,[],[0,1],[22]⟩]) (F:=[.o 0,.o 1,.o 2,.o 3,.o 4,.p 2 0]) hst hb Za
    (Qm rfl u_0<|Qm rfl u_0<|o_p rfl (Zci rfl rfl u_0 u_1)<|o_n) (fun a g hst hb=>?_)
   refine wp_cond_split (hst.bool 5 rfl) (fun hc=>?_) (fun hc=>?_)
   ·refine r_s (L:=[(0,_),(2,_)]) (T:=[⟨[.o 0],_,[],[],[23]⟩,⟨[.o 1],_,[],[],[24]⟩,⟨[.p 0 0,.p 1 0],_,[1],[0,1],[25,0,23]⟩,⟨[.p 2 0],_,[],[0,1,2],[6]⟩]) (F:=[.p 3 0]) (hst.pick [0,2] rfl) hb Za
     (Qm rfl u_0<|Qm rfl u_0<|o_p rfl (Zty Ze6 rfl rfl u_0 u_1 hsz)<|Qa rfl u_0<|o_n) (fun a g hst hb=>?_)
    refine wp_ret ?_
    refine Zt ?_
    have hq:=hst.at 0 rfl
    have hkn:=beq_iff_eq.1 hc
    simp only [List.length_map] at hkn
    have hkn:k=a0.length:=by omega
    have he:a0.take k ++ a2 ++ a0.drop k=a0 ++ a2:=by simp [hkn]
    rw [he]
    exact Zsw rfl hst hb (Zi (s:=6)) hq
   ·have hkn:k ≠ a0.length:=fun h=>(beq_eq_false_iff_ne.1 hc) (by simp only [List.length_map];omega)
    refine wp_skip ?_
    refine Zo ?_
    refine wp_seq ?_
    refine r_s (L:=[(0,_),(1,_),(2,_),(7,_),(8,_)]) (T:=[⟨[.o 4],_,[],[],[26]⟩,⟨[.o 3],_,[],[],[27]⟩,⟨[.p 0 0,.p 1 0],_,[],[0,1],[28]⟩,⟨[.o 0],_,[],[],[29]⟩,⟨[.p 3 0],_,[],[3],[30]⟩,⟨[.p 2 0,.p 4 0],_,[],[0,1,2,3,4],[31]⟩]) (F:=[.o 0,.o 1,.o 2,.o 3,.o 4,.p 5 0]) (hst.pick [0,1,2,3,4] rfl) hb Za
     (Qm rfl u_0<|Qm rfl u_0<|o_p rfl (Zcf rfl rfl u_0 u_1 (Zwg (by simp only [List.length_map];omega)))<|Qm rfl u_0<|o_p rfl (Zbgs Tryz.underlying60 rfl rfl u_0)<|o_p rfl (Zcu rfl rfl u_0 u_1)<|o_n) (fun a g hst hb=>?_)
    refine wp_cond_split (hst.bool 5 rfl) (fun hc2=>?_) (fun hc2=>?_)
    ·have hgr:cap < k + (a0.length + a2.length - k):=by have:=of_decide_eq_true hc2;simp only [List.length_map] at this;omega
     refine r_s (L:=[(0,_),(1,_),(2,_),(7,_),(8,_)]) (T:=[⟨[.o 0],_,[],[],[32]⟩,⟨[.o 1],_,[],[],[33]⟩,⟨[.p 0 0,.p 1 0],_,[],[0,1],[34]⟩,⟨[.o 4],_,[],[],[35]⟩,⟨[.o 3],_,[],[],[36]⟩,⟨[.p 3 0,.p 4 0],_,[],[3,4],[37]⟩,⟨[.o 1],_,[],[],[38]⟩,⟨[.p 5 0,.p 6 0],_,[],[3,4,5,6],[39]⟩,⟨[.p 2 0,.p 7 0,.o 0],[(40,(pOwn Zz 100 40 none ((a0.take k).map some ++ List.replicate (a0.length + a2.length - k) none)))],[41],[0,1,2,3,4,5,6,7],[40]⟩,⟨[.p 8 0],_,[],[0,1,2,3,4,5,6,7,8],[9]⟩]) (F:=[.o 0,.o 1,.o 2,.o 3,.p 9 0]) (hst.pick [0,1,2,3,4] rfl) hb Za
      (Qm rfl u_0<|Qm rfl u_0<|o_p rfl (Zu7 Ze6 (by simpa using hk) rfl rfl u_0 u_1)<|Qm rfl u_0<|Qm rfl u_0<|o_p rfl (Zcf rfl rfl u_0 u_1 (Zwg (by simp only [List.length_map];omega)))<|Qm rfl u_0<|o_p rfl (Zkb rfl rfl u_0 u_1 (Zbiq (n:=a0.length + a2.length) (by simp only [List.length_map]) (by omega) (by omega)))<|o_p rfl (Z8t (s:=0) (d2:=40) (xs:=a0.take k) Ze6 Tryz.underlying3 (by simp;omega) (by simp;omega) (by omega) hgr (by rw [show k + (a0.length + a2.length - k)=a0.length + a2.length by omega];exact hsz) (Zyx a0 k) rfl rfl u_0 u_1 u_2)<|Qa rfl u_0<|o_n) (fun a g hst hb=>?_)
     have hl1:(((a0.take k).map some ++ List.replicate (a0.length + a2.length - k) none):List (Option Zh)).length=a0.length + a2.length:=by simp;omega
     refine r_s (T:=[⟨[.o 4],_,[],[],[41]⟩,⟨[.o 1],_,[],[],[42]⟩,⟨[.p 0 0,.p 1 0],_,[],[0,1],[43]⟩,⟨[.o 2],_,[],[],[44]⟩,⟨[.p 2 0,.p 3 0,.o 4],_,[41],[0,1,2,3],[45,9,41,43]⟩]) (F:=[.o 0,.o 1,.o 2,.o 3,.p 4 1]) hst hb Za
      (Qm rfl u_0<|Qm rfl u_0<|o_p rfl (Ziw Ze6 (by rw [hl1];omega) rfl rfl u_0 u_1)<|Qm rfl u_0<|o_p rfl (Z3j (s:=9) Ze6 (by rw [hl1];omega) (by rw [hl1];omega) rfl rfl (by decide) u_0 u_1 u_2)<|o_n) (fun a g hst hb=>?_)
     have hl2:(over (((a0.take k).map some ++ List.replicate (a0.length + a2.length - k) none):List (Option Zh)) k a2).length=a0.length + a2.length:=by rw [Zoz (by rw [hl1];omega),hl1]
     refine r_s (T:=[⟨[.o 4],_,[],[],[46]⟩,⟨[.o 1],_,[],[],[47]⟩,⟨[.o 3],_,[],[],[48]⟩,⟨[.p 1 0,.p 2 0],_,[],[1,2],[49]⟩,⟨[.p 0 0,.p 3 0],_,[],[0,1,2,3],[50]⟩,⟨[.o 0],_,[],[],[51]⟩,⟨[.o 1],_,[],[],[52]⟩,⟨[.p 5 0,.p 6 0],_,[],[5,6],[53]⟩,⟨[.p 4 0,.p 7 0,.o 4,.o 0],_,[41],[0,1,2,3,4,5,6,7],[54,9,46,50]⟩]) (F:=[.p 8 1]) hst hb Za
      (Qm rfl u_0<|Qm rfl u_0<|Qm rfl u_0<|o_p rfl (Zcf rfl rfl u_0 u_1 (Zwg (by omega)))<|o_p rfl (Ziw Ze6 (by rw [hl2];omega) rfl rfl u_0 u_1)<|Qm rfl u_0<|Qm rfl u_0<|o_p rfl (Ziw Ze6 (by simpa using hk) rfl rfl u_0 u_1)<|o_p rfl (Z5p (s:=9) (s2:=0) (ws:=a0.drop k) Ze6 (by rw [hl2];omega) (by simp;omega) (by rw [hl2,List.length_map,List.length_drop];exact (Nat.min_eq_left (by omega)).symm) (fun i x hx=>by rw [List.getElem?_drop] at hx;rw [List.getElem?_map,hx];rfl) rfl rfl (by decide) u_0 u_1 u_2 u_3)<|o_n) (fun a g hst hb=>?_)
     refine r_s (T:=[⟨[.o 0],_,[],[],[55]⟩,⟨[.p 0 0],_,[],[0],[6]⟩]) (F:=[.p 1 0]) hst hb Za
      (Qm rfl u_0<|Qa rfl u_0<|o_n) (fun a g hst hb=>?_)
     refine wp_ret ?_
     refine Zt ?_
     have hq:=hst.at 0 rfl
     rw [ins1 hk] at hq
     exact Zsw rfl hst hb (Zi (s:=6)) hq
    ·have hroom:a0.length + a2.length ≤ cap:=by have:=of_decide_eq_false hc2;simp only [List.length_map] at this;omega
     refine wp_skip ?_
     refine Zo ?_
     refine r_s (L:=[(0,_),(1,_),(2,_),(7,_),(8,_)]) (T:=[⟨[.o 0],_,[],[],[56]⟩,⟨[.o 4],_,[],[],[57]⟩,⟨[.o 3],_,[],[],[58]⟩,⟨[.p 1 0,.p 2 0],_,[],[1,2],[59]⟩,⟨[.p 0 0,.p 3 0],[(60,(pOwn Zz 100 0 (some cap) (a0.map some ++ List.replicate (a0.length + a2.length - (a0.map some).length) none)))],[],[0,1,2,3],[60]⟩,⟨[.p 4 0],_,[],[0,1,2,3,4],[0]⟩]) (F:=[.p 5 0,.o 1,.o 2,.o 3]) (hst.pick [0,1,2,3,4] rfl) hb Za
      (Qm rfl u_0<|Qm rfl u_0<|Qm rfl u_0<|o_p rfl (Zcf rfl rfl u_0 u_1 (Zwg (by simp only [List.length_map];omega)))<|o_p rfl (Z6h (h:=a0.length + a2.length) Ze6 (by simp) hroom rfl rfl u_0 (Opd.to u_1 (by simp)))<|Qa rfl u_0<|o_n) (fun a g hst hb=>?_)
     have hl1:((a0.map some ++ List.replicate (a0.length + a2.length - (a0.map some).length) none):List (Option Zh)).length=a0.length + a2.length:=by simp
     refine wp_seq ?_
     refine r_s (T:=[⟨[.o 2],_,[],[],[61]⟩,⟨[.o 0],_,[],[],[62]⟩,⟨[.o 1],_,[],[],[63]⟩,⟨[.o 3],_,[],[],[64]⟩,⟨[.p 2 0,.p 3 0],_,[],[2,3],[65]⟩,⟨[.p 1 0,.p 4 0],_,[],[1,2,3,4],[66]⟩,⟨[.p 0 0,.p 5 0,.o 0],_,[],[0,1,2,3,4,5],[67]⟩,⟨[.p 6 0],_,[],[0,1,2,3,4,5,6],[68]⟩]) (F:=[.o 0,.o 1,.o 2,.o 3,.p 7 0]) hst hb Za
      (Qm rfl u_0<|Qm rfl u_0<|Qm rfl u_0<|Qm rfl u_0<|o_p rfl (Zcf rfl rfl u_0 u_1 (Zwg (by omega)))<|o_p rfl (Ziw Ze6 (by rw [hl1];omega) rfl rfl u_0 u_1)<|o_p rfl (Z6m (s:=0) Ze6 rfl Zbhu (by rw [hl1];omega) rfl rfl u_0 u_1 u_2)<|Qn rfl u_0<|o_n) (fun a g hst hb=>?_)
     refine wp_cond_split (hst.bool 4 rfl) (fun hc3=>?_) (fun hc3=>absurd hc3 (by simp))
     refine r_s (L:=[(0,_),(1,_),(2,_),(7,_)]) (T:=[⟨[.o 0],_,[],[],[69]⟩,⟨[.o 1],_,[],[],[70]⟩,⟨[.o 3],_,[],[],[71]⟩,⟨[.p 1 0,.p 2 0],_,[],[1,2],[72]⟩,⟨[.p 0 0,.p 3 0],_,[],[0,1,2,3],[73]⟩,⟨[.o 0],_,[],[],[74]⟩,⟨[.o 1],_,[],[],[75]⟩,⟨[.p 5 0,.p 6 0],_,[],[5,6],[76]⟩,⟨[.p 4 0,.p 7 0,.o 0,.o 0],_,[1],[0,1,2,3,4,5,6,7],[77,0,69,73,74,76]⟩]) (F:=[.p 8 1,.o 1,.o 2,.o 3]) (hst.pick [0,1,2,3] rfl) hb Za
      (Qm rfl u_0<|Qm rfl u_0<|Qm rfl u_0<|o_p rfl (Zcf rfl rfl u_0 u_1 (Zwg (by omega)))<|o_p rfl (Ziw Ze6 (by rw [hl1];omega) rfl rfl u_0 u_1)<|Qm rfl u_0<|Qm rfl u_0<|o_p rfl (Ziw Ze6 (by rw [hl1];omega) rfl rfl u_0 u_1)<|o_p rfl (Z5p (s:=0) (s2:=0) (ws:=a0.drop k) Ze6 (by rw [hl1];omega) (by rw [hl1];omega) (by rw [hl1,List.length_drop];have hm1:Nat.min (a0.length + a2.length - k) (a0.length + a2.length - (k + a2.length))=a0.length + a2.length - (k + a2.length):=Nat.min_eq_right (by omega);rw [hm1];omega) (fun i x hx=>by have hi:=(List.getElem?_eq_some_iff.1 hx).1;rw [List.length_drop] at hi;rw [List.getElem?_drop] at hx;rw [List.getElem?_append_left (by simp;omega),List.getElem?_map,hx];rfl) rfl rfl (by decide) u_0 u_1 u_2 u_3)<|o_n) (fun a g hst hb=>?_)
     have hl2:(over ((a0.map some ++ List.replicate (a0.length + a2.length - (a0.map some).length) none):List (Option Zh)) (k + a2.length) (a0.drop k)).length=a0.length + a2.length:=by rw [Zoz (by rw [hl1,List.length_drop];omega),hl1]
     refine r_s (T:=[⟨[.o 0],_,[],[],[78]⟩,⟨[.o 1],_,[],[],[79]⟩,⟨[.p 0 0,.p 1 0],_,[],[0,1],[80]⟩,⟨[.o 2],_,[],[],[81]⟩,⟨[.p 2 0,.p 3 0,.o 0],_,[1],[0,1,2,3],[82,0,78,80]⟩]) (F:=[.p 4 1]) hst hb Za
      (Qm rfl u_0<|Qm rfl u_0<|o_p rfl (Ziw Ze6 (by rw [hl2];omega) rfl rfl u_0 u_1)<|Qm rfl u_0<|o_p rfl (Z3j (s:=0) Ze6 (by rw [hl2];omega) (by rw [hl2];omega) rfl rfl (by decide) u_0 u_1 u_2)<|o_n) (fun a g hst hb=>?_)
     refine r_s (T:=[⟨[.o 0],_,[],[],[83]⟩,⟨[.p 0 0],_,[],[0],[6]⟩]) (F:=[.p 1 0]) hst hb Za
      (Qm rfl u_0<|Qa rfl u_0<|o_n) (fun a g hst hb=>?_)
     refine wp_ret ?_
     refine Zt ?_
     have hq:=hst.at 0 rfl
     rw [ins2 hk] at hq
     exact Zsw rfl hst hb (Zi (s:=6)) hq
theorem Z52 (a0:Zb) (a1:Zs) (a2:Zj) {r:Int × Zb × Zj} (h:Znh a0 a1 a2=some r):FnB Tryz.prog 124 [.box Zf a0 r.2.1,.val (Zy.pd a1),.box Z3 a2 r.2.2] (pInt .i64 r.1):=by
 have H0:=h
 unfold Znh at H0
 clear h
 refine Ze8 (N:=46) Tryz.func124 rfl rfl (Qe rfl) rfl rfl (fun a g0 bs hbs hst hb=>?_)
 obtain ⟨b0,b2,rfl⟩:=Zop hbs
 replace hst:St 46 [(0,(Zbi (some b0) Zf 0 a0)),(1,(Zy.pd a1)),(2,(Zbi (some b2) Z3 2 a2))] _ _:=hst
 refine r_a [5,25,0] (L:=[(0,_),(1,_),(2,_)]) hst hb Za
  (a_p [15] rfl (Zbq rfl rfl u_0)<|a_p [] rfl (Zd rfl rfl c_i)<|a_n) (fun a g hst hb=>?_)
 obtain ⟨r1,h2,H0⟩:=Zc H0
 refine r_a [5,15,25,100,110] (L:=[(0,_),(2,_),(4,_)]) hst hb Za
  (Am 5 rfl<|a_p [0] rfl (Zm rfl rfl u_0 (fun _ _ ⟨_,_,_,e,_⟩=>⟨_,e⟩))<|a_p [0] rfl (Zbf Zc6 (off:=7) (by kernel_rfl) rfl rfl u_0)<|AP Zeg 0 rfl<|Af Zi8 25 rfl<|Al ty_9 0 rfl<|a_p [20,0] rfl (Zr Z47 (Zr6 _ _ h2) rfl rfl (.cons u_0 (.cons u_1 .nil)))<|Am 0 rfl<|a_p [0] rfl (Zba rfl rfl u_0 rfl)<|a_p [10] rfl (Zba rfl rfl u_0 rfl)<|Aa 10 rfl<|Aa 10 rfl<|a_n) (fun a g hst hb=>?_)
 refine wp_seq ?_
 refine wp_block ?_
 refine r_a [5,15,25,35,10] (L:=[(0,_),(2,_),(4,_),(7,_),(8,_)]) hst hb Za
  (Am 45 rfl<|Aa 0 rfl<|a_n) (fun a g hst hb=>?_)
 refine wp_cond_split (hst.bool 4 rfl) (fun hc3=>?_) (fun hc3=>?_)
 ·replace H0:=Z1 hc3 H0
  refine r_a [5,15,0] (L:=[(0,_),(2,_)]) (hst.pick [0,1] rfl) hb Za
   (a_p [] rfl (Zd rfl rfl c_i)<|a_n) (fun a g hst hb=>?_)
  refine wp_ret ?_
  refine Z5 ?_
  refine Zt ?_
  obtain rfl:=Option.some.inj H0
  exact Zfm rfl hst hb (Zi (s:=6)) (hst.at 2 rfl) ⟨Zc7 (hst.at 0 rfl),Zc7 (hst.at 1 rfl),trivial⟩
 ·replace H0:=Z0 hc3 H0
  refine r_a [5,15,25,35,100] (L:=[(0,_),(2,_),(4,_),(7,_)]) (hst.pick [0,1,2,3] rfl) hb Za
   (Am 5 rfl<|a_p [0] rfl (Zm rfl rfl u_0 (fun _ _ ⟨_,_,_,e,_⟩=>⟨_,e⟩))<|a_p [0] rfl (Zbf Zc6 (off:=7) (by kernel_rfl) rfl rfl u_0)<|AP Zeg 0 rfl<|a_p [0] rfl (Zbx Tryz.underlying60 rfl rfl u_0)<|Am 5 rfl<|a_p [0] rfl (Zm rfl rfl u_0 (fun _ _ ⟨_,_,_,e,_⟩=>⟨_,e⟩))<|a_p [0] rfl (Zbf Zin (off:=5) (by kernel_rfl) rfl rfl u_0)<|AP ty_3 0 rfl<|a_p [40,0] rfl (Zre rfl rfl u_0 u_1)<|Aa 0 rfl<|a_n) (fun a g hst hb=>?_)
  refine wp_cond_split (hst.bool 4 rfl) (fun hc4=>?_) (fun hc4=>?_)
  ·replace H0:=Z1 hc4 H0
   refine r_a [5,15,0] (L:=[(0,_),(2,_)]) (hst.pick [0,1] rfl) hb Za
    (a_p [] rfl (Zd rfl rfl c_i)<|a_n) (fun a g hst hb=>?_)
   refine wp_ret ?_
   refine Z5 ?_
   refine Zt ?_
   obtain rfl:=Option.some.inj H0
   exact Zfm rfl hst hb (Zi (s:=6)) (hst.at 2 rfl) ⟨Zc7 (hst.at 0 rfl),Zc7 (hst.at 1 rfl),trivial⟩
  ·replace H0:=Z0 hc4 H0
   refine wp_skip ?_
   refine Zbn ?_
   refine Zo ?_
   obtain ⟨r5,h6,H0⟩:=Zc H0;obtain ⟨r7,h8,H0⟩:=Zc H0
   refine r_a [140,15] (L:=[(0,_),(2,_),(4,_),(7,_)]) (hst.pick [0,1,2,3] rfl) hb Za
    (Am 5 rfl<|Am 5 rfl<|a_p [0] rfl (Zm rfl rfl u_0 (fun _ _ ⟨_,_,_,e,_⟩=>⟨_,e⟩))<|a_p [0] rfl (Zbf Zc6 (off:=7) (by kernel_rfl) rfl rfl u_0)<|AP Zeg 0 rfl<|a_p [0] rfl (Zpr (j:=37) Z24 (Zge _ h6) rfl rfl (.cons u_0 .nil))<|Am 35 rfl<|Af Zi8 25 rfl<|Al ty_9 0 rfl<|a_p [0] rfl (Zbdl rfl rfl u_0)<|a_p [0] rfl (Zjd Ze6 (xs:=[.tmp 41]) (.cons u_0 .nil) (by decide) rfl rfl)<|a_p [50,40,0] rfl (Zto Zba9 (Zji _ _ _ h8) rfl rfl rfl u_0 (.cons u_1 (.cons u_2 .nil)))<|a_p [110] rfl (Zm rfl rfl u_0 (fun _ _ ⟨_,_,_,e,_⟩=>⟨_,e⟩))<|a_p [0] rfl (Zbf Zc6 (off:=7) (by kernel_rfl) rfl rfl u_0)<|a_p [20,0,5] rfl (Zwa Zeg rfl rfl u_2 u_1 u_0)<|a_n) (fun a g hst hb=>?_)
   refine r_a [5,15,0] (L:=[(0,_),(2,_)]) hst hb Za
    (a_p [] rfl (Zd rfl rfl c_i)<|a_n) (fun a g hst hb=>?_)
   refine wp_ret ?_
   obtain rfl:=Option.some.inj H0
   exact Zfm rfl hst hb (Zi (s:=6)) (hst.at 2 rfl) ⟨Zc7 (hst.at 0 rfl),Zc7 (hst.at 1 rfl),trivial⟩
theorem Zoe (a0:List Zh) (a1 a2:Int) {r:List Zh} (h:Zfu a0 a1 a2=some r):Z3c Tryz.prog 127 Zz 100 a0 [(pInt .i64 a1),(pInt .i64 a2)] (Zz.sl.pd r):=by
 unfold Zfu at h
 obtain ⟨⟨hpos,hi0,hij,hj,hsz⟩,H0⟩:=Ze0 h
 obtain rfl:=Option.some.inj H0
 obtain ⟨k,rfl⟩:=Int.eq_ofNat_of_zero_le hi0
 obtain ⟨l,rfl⟩:=Int.eq_ofNat_of_zero_le (Int.le_trans hi0 hij)
 have hkl:k ≤ l:=by omega
 have hl:l ≤ a0.length:=by omega
 simp only [Int.toNat_natCast]
 refine Z5m (N:=33) Tryz.func127 rfl rfl (Qe rfl) rfl (fun hx a g A0 hst hb=>?_) (fun a g cap hcap hmax hst hb=>?_)
 ·rw [hx] at hpos;cases hpos
 ·refine r_s (T:=[⟨[],[(6,(Zz.sl.pd []))],[],[],[6]⟩]) (F:=[.o 0,.o 1,.o 2]) hst hb Za
   (o_p rfl (Zd rfl rfl (Opd.c (fun g=>Zg7 g)))<|o_n) (fun a g hst hb=>?_)
  refine r_s (T:=[⟨[.o 0],_,[],[],[8]⟩,⟨[.o 1],_,[],[],[9]⟩,⟨[.o 2],_,[],[],[10]⟩,⟨[.o 0],_,[],[],[11]⟩,⟨[.p 3 0],_,[],[3],[12]⟩,⟨[.p 0 0,.p 1 0,.p 2 0,.p 4 0],[],[],[0,1,2,3,4],[13]⟩]) (F:=[.o 0,.o 1,.o 2]) hst hb Za
   (Qm rfl u_0<|Qm rfl u_0<|Qm rfl u_0<|Qm rfl u_0<|o_p rfl (Zwp Tryz.underlying60 rfl rfl u_0)<|o_p rfl (Zbbo Ze6 hkl (by simpa using hl) (Nat.le_refl _) rfl u_0 u_1 u_2 u_3)<|o_n) (fun a g hst hb=>?_)
  refine wp_seq ?_
  refine r_s (T:=[⟨[.o 1],_,[],[],[14]⟩,⟨[.o 2],_,[],[],[15]⟩,⟨[.p 0 0,.p 1 0],_,[],[0,1],[16]⟩]) (F:=[.o 0,.o 1,.o 2,.p 2 0]) hst hb Za
   (Qm rfl u_0<|Qm rfl u_0<|o_p rfl (Zci rfl rfl u_0 u_1)<|o_n) (fun a g hst hb=>?_)
  refine wp_cond_split (hst.bool 3 rfl) (fun hc=>?_) (fun hc=>?_)
  ·refine r_s (L:=[(0,_)]) (T:=[⟨[.o 0],_,[],[],[17]⟩,⟨[.p 0 0],_,[],[0],[6]⟩]) (F:=[.p 1 0]) (hst.pick [0] rfl) hb Za
    (Qm rfl u_0<|Qa rfl u_0<|o_n) (fun a g hst hb=>?_)
   refine wp_ret ?_
   refine Zt ?_
   have hq:=hst.at 0 rfl
   have hkl2:=beq_iff_eq.1 hc
   have he:a0.take k ++ a0.drop l=a0:=by rw [show l=k by omega,List.take_append_drop]
   rw [he]
   exact Zsw rfl hst hb (Zi (s:=6)) hq
  ·refine wp_skip ?_
   refine Zo ?_
   refine r_s (L:=[(0,_),(1,_),(2,_)]) (T:=[⟨[.o 0],_,[],[],[18]⟩,⟨[.p 0 0],_,[],[0],[19]⟩,⟨[.p 1 0],_,[],[0,1],[7]⟩]) (F:=[.o 0,.o 1,.o 2,.p 2 0]) (hst.pick [0,1,2] rfl) hb Za
    (Qm rfl u_0<|o_p rfl (Zwp Tryz.underlying60 rfl rfl u_0)<|Qa rfl u_0<|o_n) (fun a g hst hb=>?_)
   refine r_s (T:=[⟨[.o 0],_,[],[],[20]⟩,⟨[.o 1],_,[],[],[21]⟩,⟨[.p 0 0,.p 1 0],_,[],[0,1],[22]⟩,⟨[.o 0],_,[],[],[23]⟩,⟨[.o 2],_,[],[],[24]⟩,⟨[.p 3 0,.p 4 0],_,[],[3,4],[25]⟩,⟨[.p 2 0,.p 5 0,.o 0],[(26,(pOwn Zz 100 0 (some cap) ((a0.take k ++ a0.drop l).map some)))],[1],[0,1,2,3,4,5],[26,0,20,22,23,25]⟩,⟨[.p 6 0],_,[],[0,1,2,3,4,5,6],[0]⟩]) (F:=[.p 7 0,.o 3]) hst hb Za
    (Qm rfl u_0<|Qm rfl u_0<|o_p rfl (Zu7 Ze6 (by simp;omega) rfl rfl u_0 u_1)<|Qm rfl u_0<|Qm rfl u_0<|o_p rfl (Ziw Ze6 (by simpa using hl) rfl rfl u_0 u_1)<|o_p rfl (Z89 (s:=0) (k:=cap) (xs:=a0.take k) (ws:=a0.drop l) Ze6 (by simp;omega) (by simp;omega) (by simp;omega) (by simp) (Zyx a0 k) (Z8u a0 l) rfl rfl u_0 u_1 u_2)<|Qa rfl u_0<|o_n) (fun a g hst hb=>?_)
   have hl2:((a0.take k ++ a0.drop l).map some).length=k + (a0.length - l):=by simp;omega
   refine r_s (T:=[⟨[.o 0],_,[],[],[27]⟩,⟨[.o 0],_,[],[],[28]⟩,⟨[.p 1 0],_,[],[1],[29]⟩,⟨[.o 1],_,[],[],[30]⟩,⟨[.p 0 0,.p 2 0,.p 3 0],_,[],[0,1,2,3],[31]⟩,⟨[.p 4 0,.o 0],_,[1],[0,1,2,3,4],[0,27,28,31]⟩]) (F:=[.p 5 0]) hst hb Za
    (Qm rfl u_0<|Qm rfl u_0<|o_p rfl (Zwp Tryz.underlying60 rfl rfl u_0)<|Qm rfl u_0<|o_p rfl (Z9n (k:=cap) Ze6 (by rw [hl2,List.length_map];omega) (by rw [List.length_map];omega) rfl rfl u_0 u_1 u_2)<|o_p rfl (Z95 (s:=0) (k:=cap) Ze6 (by kernel_rfl) (Nat.le_refl _) (by rw [hl2,List.length_map];omega) rfl rfl u_0 u_1)<|o_n) (fun a g hst hb=>?_)
   refine r_s (T:=[⟨[.o 0],_,[],[],[32]⟩,⟨[.p 0 0],_,[],[0],[6]⟩]) (F:=[.p 1 0]) hst hb Za
    (Qm rfl u_0<|Qa rfl u_0<|o_n) (fun a g hst hb=>?_)
   refine wp_ret ?_
   exact Zsw rfl hst hb (Zi (s:=6)) (hst.at 0 rfl)
end Go.CL
