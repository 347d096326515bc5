/- A part of the proof of HandAlone. -/
import Derived.Test.YtlanlccmokaajaaGreatDoorHandAloneC4
set_option linter.unusedVariables false
set_option linter.unusedSimpArgs false
set_option maxRecDepth 100000
namespace Go.CL
open Go Go.RowKit Go.Proofs
theorem Ztv (a0:Ze) (a1:Zu) (a2:Zg) {r:Int × Ze × Zg} (h:Zko a0 a1 a2=some r):FnB Tryz.prog 113 [.box Zi a0 r.2.1,.val (Z4.pd a1),.box Zm a2 r.2.2] (pInt .i64 r.1):=by
 have H0:=h
 unfold Zko at H0
 clear h
 refine Zkq (N:=12) Tryz.func113 rfl rfl (Nat.le_of_ble_eq_true rfl) rfl rfl (fun a g0 bs hbs hst hb=>?_)
 obtain ⟨b0,b2,rfl⟩:=Zl5 hbs
 replace hst:St 12 [(0,(Zcf (some b0) Zi 0 a0)),(1,(Z4.pd a1)),(2,(Zcf (some b2) Zm 2 a2))] _ _:=hst
 refine r_s (T:=[⟨[.old 1],_,[],[],[4]⟩,⟨[],_,[],[],[6]⟩]) (F:=[.old 0,.old 2,.op 0 0]) hst hb Zb
  (o_p rfl (Zbq rfl rfl u_0)<|o_p rfl (Zc rfl rfl c_i)<|o_n) (by kernel_rfl) (fun a g hst hb=>?_)
 refine r_s (T:=[⟨[.old 0],_,[],[],[7]⟩,⟨[.old 2],_,[],[],[8]⟩,⟨[.op 1 0],_,[],[1],[9]⟩,⟨[.op 0 0],_,[],[0,1,2],[10]⟩,⟨[.op 3 0],_,[],Lr 4,[11]⟩,⟨[.op 2 0,.op 4 0,.old 0],_,[1],Lr 5,[0,7,10,11]⟩]) (F:=[.op 5 0,.old 1]) hst hb Zb
  (o_p rfl (Za rfl rfl u_0)<|o_p rfl (Zd Zf0 rfl rfl u_0)<|o_p rfl (Zf ty_9 rfl rfl u_0)<|o_p rfl (Zq rfl rfl u_0 (fun _ _ ⟨_,_,_,e,_⟩=>⟨_,e⟩))<|o_p rfl (Zt Zi9 (off:=6) (by kernel_rfl) rfl rfl u_0)<|o_p rfl (Ztf ty_9 rfl rfl u_2 u_1 u_0)<|o_n) (by kernel_rfl) (fun a g hst hb=>?_)
 refine r_s (T:=[⟨[],_,[],[],[6]⟩]) (F:=[.old 0,.old 1,.op 0 0]) hst hb Zb
  (o_p rfl (Zc rfl rfl c_i)<|o_n) (by kernel_rfl) (fun a g hst hb=>?_)
 refine wp_ret ?_
 obtain rfl:=Option.some.inj H0
 exact Zig rfl hst hb (Zk (s:=6)) (hst.at 2 rfl) ⟨Zc2 (hst.at 0 rfl),Zc2 (hst.at 1 rfl),trivial⟩
theorem Ztu (a0:Ze) (a1:Zu) (a2:Zg) {r:Int × Ze × Zg} (h:Zhx a0 a1 a2=some r):FnB Tryz.prog 114 [.box Zi a0 r.2.1,.val (Z4.pd a1),.box Zm a2 r.2.2] (pInt .i64 r.1):=by
 have H0:=h
 unfold Zhx at H0
 clear h
 refine Zkq (N:=19) Tryz.func114 rfl rfl (Nat.le_of_ble_eq_true rfl) rfl rfl (fun a g0 bs hbs hst hb=>?_)
 obtain ⟨b0,b2,rfl⟩:=Zl5 hbs
 replace hst:St 19 [(0,(Zcf (some b0) Zi 0 a0)),(1,(Z4.pd a1)),(2,(Zcf (some b2) Zm 2 a2))] _ _:=hst
 refine r_s (T:=[⟨[.old 1],_,[],[],[4]⟩,⟨[],_,[],[],[6]⟩]) (F:=[.old 0,.old 2,.op 0 0]) hst hb Zb
  (o_p rfl (Zbq rfl rfl u_0)<|o_p rfl (Zc rfl rfl c_i)<|o_n) (by kernel_rfl) (fun a g hst hb=>?_)
 obtain ⟨r1,h2,H0⟩:=Zh H0
 refine r_s (T:=[⟨[.old 1],_,[],[],[7]⟩,⟨[.old 0],_,[],[],[8]⟩,⟨[.op 1 0],_,[],[1],[9]⟩,⟨[.op 2 0],_,[],[1,2],[10]⟩,⟨[.op 3 0],_,[],[1,2,3],[11]⟩,⟨[.op 0 0],_,[],Lr 5,[12]⟩,⟨[.op 5 0],_,[],Lr 6,[13]⟩,⟨[.op 4 0,.op 6 0,.old 1],_,[3],Lr 7,[2,7,12,13]⟩]) (F:=[.old 0,.op 7 0,.old 2]) hst hb Zb
  (o_p rfl (Za rfl rfl u_0)<|o_p rfl (Za rfl rfl u_0)<|o_p rfl (Zq rfl rfl u_0 (fun _ _ ⟨_,_,_,e,_⟩=>⟨_,e⟩))<|o_p rfl (Zb0 Zbc rfl rfl u_0)<|o_p rfl (Zo Zn8 (Zgr _ h2) rfl rfl (.cons u_0 .nil))<|o_p rfl (Zq rfl rfl u_0 (fun _ _ ⟨_,_,_,e,_⟩=>⟨_,e⟩))<|o_p rfl (Zt Zo9 (off:=2) (by kernel_rfl) rfl rfl u_0)<|o_p rfl (Z12 Zbc rfl rfl u_2 u_1 u_0)<|o_n) (by kernel_rfl) (fun a g hst hb=>?_)
 refine r_s (T:=[⟨[.old 0],_,[],[],[14]⟩,⟨[.old 2],_,[],[],[15]⟩,⟨[.op 1 0],_,[],[1],[16]⟩,⟨[.op 0 0],_,[],[0,1,2],[17]⟩,⟨[.op 3 0],_,[],Lr 4,[18]⟩,⟨[.op 2 0,.op 4 0,.old 0],_,[1],Lr 5,[0,14,17,18]⟩]) (F:=[.op 5 0,.old 1]) hst hb Zb
  (o_p rfl (Za rfl rfl u_0)<|o_p rfl (Zd Zf0 rfl rfl u_0)<|o_p rfl (Zf ty_9 rfl rfl u_0)<|o_p rfl (Zq rfl rfl u_0 (fun _ _ ⟨_,_,_,e,_⟩=>⟨_,e⟩))<|o_p rfl (Zt Zi9 (off:=6) (by kernel_rfl) rfl rfl u_0)<|o_p rfl (Ztf ty_9 rfl rfl u_2 u_1 u_0)<|o_n) (by kernel_rfl) (fun a g hst hb=>?_)
 refine r_s (T:=[⟨[],_,[],[],[6]⟩]) (F:=[.old 0,.old 1,.op 0 0]) hst hb Zb
  (o_p rfl (Zc rfl rfl c_i)<|o_n) (by kernel_rfl) (fun a g hst hb=>?_)
 refine wp_ret ?_
 obtain rfl:=Option.some.inj H0
 exact Zig rfl hst hb (Zk (s:=6)) (hst.at 2 rfl) ⟨Zc2 (hst.at 0 rfl),Zc2 (hst.at 1 rfl),trivial⟩
theorem Ztx (a0:Ze) (a1:Zu) (a2:Zg) {r:Int × Ze × Zg} (h:Zkk a0 a1 a2=some r):FnB Tryz.prog 115 [.box Zi a0 r.2.1,.val (Z4.pd a1),.box Zm a2 r.2.2] (pInt .i64 r.1):=by
 have H0:=h
 unfold Zkk at H0
 clear h
 refine Zkq (N:=16) Tryz.func115 rfl rfl (Nat.le_of_ble_eq_true rfl) rfl rfl (fun a g0 bs hbs hst hb=>?_)
 obtain ⟨b0,b2,rfl⟩:=Zl5 hbs
 replace hst:St 16 [(0,(Zcf (some b0) Zi 0 a0)),(1,(Z4.pd a1)),(2,(Zcf (some b2) Zm 2 a2))] _ _:=hst
 refine r_s (T:=[⟨[.old 1],_,[],[],[4]⟩,⟨[],_,[],[],[6]⟩]) (F:=[.old 0,.old 2,.op 0 0]) hst hb Zb
  (o_p rfl (Zbq rfl rfl u_0)<|o_p rfl (Zc rfl rfl c_i)<|o_n) (by kernel_rfl) (fun a g hst hb=>?_)
 refine r_s (T:=[⟨[.old 0],_,[],[],[7]⟩,⟨[.op 0 0],_,[],[0],[8]⟩,⟨[.op 1 0],_,[],[0,1],[9]⟩,⟨[.op 2 0],_,[],[0,1,2],[10]⟩,⟨[.old 2],_,[],[],[11]⟩,⟨[.op 4 0],_,[],[4],[12]⟩,⟨[.op 3 0,.op 5 0],_,[],Lr 6,[13]⟩,⟨[.op 0 0],_,[],Lr 7,[14]⟩,⟨[.op 7 0],_,[],Lr 8,[15]⟩,⟨[.op 6 0,.op 8 0,.old 0],_,[1],Lr 9,[0,7,8,9,14,15]⟩]) (F:=[.op 9 0,.old 1]) hst hb Zb
  (o_p rfl (Za rfl rfl u_0)<|o_p rfl (Zq rfl rfl u_0 (fun _ _ ⟨_,_,_,e,_⟩=>⟨_,e⟩))<|o_p rfl (Zt Zc1 (off:=1) (by kernel_rfl) rfl rfl u_0)<|o_p rfl (Zbr ty_2 rfl rfl u_0)<|o_p rfl (Zd Zed rfl rfl u_0)<|o_p rfl (Zf ty_2 rfl rfl u_0)<|o_p rfl (Zb7 rfl rfl u_0 u_1 rfl)<|o_p rfl (Zq rfl rfl u_0 (fun _ _ ⟨_,_,_,e,_⟩=>⟨_,e⟩))<|o_p rfl (Zt Zc1 (off:=1) (by kernel_rfl) rfl rfl u_0)<|o_p rfl (Zmu ty_2 rfl rfl u_2 u_1 u_0)<|o_n) (by kernel_rfl) (fun a g hst hb=>?_)
 refine r_s (T:=[⟨[],_,[],[],[6]⟩]) (F:=[.old 0,.old 1,.op 0 0]) hst hb Zb
  (o_p rfl (Zc rfl rfl c_i)<|o_n) (by kernel_rfl) (fun a g hst hb=>?_)
 refine wp_ret ?_
 obtain rfl:=Option.some.inj H0
 exact Zig rfl hst hb (Zk (s:=6)) (hst.at 2 rfl) ⟨Zc2 (hst.at 0 rfl),Zc2 (hst.at 1 rfl),trivial⟩
theorem Z0p (a0:Ze) (a1:Zu) (a2:Zg) {r:Int × Ze × Zg} (h:Zlp a0 a1 a2=some r):FnB Tryz.prog 116 [.box Zi a0 r.2.1,.val (Z4.pd a1),.box Zm a2 r.2.2] (pInt .i64 r.1):=by
 have H0:=h
 unfold Zlp at H0
 clear h
 refine Zkq (N:=44) Tryz.func116 rfl rfl (Nat.le_of_ble_eq_true rfl) rfl rfl (fun a g0 bs hbs hst hb=>?_)
 obtain ⟨b0,b2,rfl⟩:=Zl5 hbs
 replace hst:St 44 [(0,(Zcf (some b0) Zi 0 a0)),(1,(Z4.pd a1)),(2,(Zcf (some b2) Zm 2 a2))] _ _:=hst
 refine r_s (T:=[⟨[.old 1],_,[],[],[4]⟩,⟨[],_,[],[],[6]⟩]) (F:=[.old 0,.old 2,.op 0 0]) hst hb Zb
  (o_p rfl (Zbq rfl rfl u_0)<|o_p rfl (Zc rfl rfl c_i)<|o_n) (by kernel_rfl) (fun a g hst hb=>?_)
 refine wp_seq ?_
 refine r_s (T:=⟨[.old 2],_,[],[],[7]⟩ :: ⟨[.op 0 0],_,[],[0],[8]⟩ :: ⟨[.op 1 0],_,[],[0,1],[9]⟩ :: ⟨[.op 2 0],_,[],[0,1,2],[10]⟩ :: ⟨[.op 3 0,.old 0],_,[],Lr 4,[11]⟩ :: ⟨[.op 3 0,.op 4 0],_,[],Lr 5,[12]⟩ :: ⟨[.op 3 0,.op 5 0],_,[],Lr 6,[13]⟩ :: ⟨[.op 3 0,.op 6 0],_,[],Lr 7,[14]⟩ :: ⟨[.op 3 0,.old 2],_,[],Lr 4,[15]⟩ :: ⟨[.op 3 0,.op 8 0],_,[],[0,1,2,3,8],[16]⟩ :: ⟨[.op 3 0,.op 9 0],_,[],[0,1,2,3,8,9],[17]⟩ :: ⟨[.op 3 0,.op 7 0,.op 10 0],_,[],Lr 11,[18]⟩ :: ⟨[.op 3 0,.op 11 0],_,[],Lr 12,[19]⟩ :: ⟨[.op 12 0],_,[],Lr 13,[20]⟩ :: ⟨[.op 13 0,.old 2],_,[],Lr 14,[21]⟩ :: ⟨[.op 13 0,.op 14 0],_,[],Lr 15,[22]⟩ :: ⟨[.op 13 0,.op 15 0],_,[],Lr 16,[23]⟩ :: ⟨[.op 13 0,.op 16 0],_,[],Lr 17,[24]⟩ :: ⟨[.op 17 0,.old 0],_,[],Lr 18,[25]⟩ :: ⟨[.op 17 0,.op 18 0],_,[],Lr 19,[26]⟩ :: ⟨[.op 17 0,.op 19 0],_,[],Lr 20,[27]⟩ :: ⟨[.op 17 0,.op 20 0],_,[],Lr 21,[28]⟩ :: ⟨[.op 17 0,.old 2],_,[],Lr 18,[29]⟩ :: ⟨[.op 17 0,.op 22 0],_,[],0 :: 1 :: 2 :: 3 :: 4 :: 5 :: 6 :: 7 :: 8 :: 9 :: 10 :: 11 :: 12 :: 13 :: 14 :: 15 :: 16 :: 17 :: 22 :: [],[30]⟩ :: ⟨[.op 17 0,.op 23 0],_,[],0 :: 1 :: 2 :: 3 :: 4 :: 5 :: 6 :: 7 :: 8 :: 9 :: 10 :: 11 :: 12 :: 13 :: 14 :: 15 :: 16 :: 17 :: 22 :: 23 :: [],[31]⟩ :: ⟨[.op 17 0,.op 21 0,.op 24 0],_,[],Lr 25,[32]⟩ :: ⟨[.op 13 0,.op 17 0,.op 25 0],_,[],Lr 26,[33]⟩ :: ⟨[.op 13 0,.op 26 0],_,[],Lr 27,[34]⟩ :: []) (F:=[.old 0,.old 1,.old 2,.op 27 0]) hst hb Zb
  (o_p rfl (Zd Zed rfl rfl u_0)<|o_p rfl (Zf ty_2 rfl rfl u_0)<|o_p rfl (Zcu rfl rfl u_0 c_i)<|o_p rfl (Za rfl rfl u_0)<|o_g (g_t rfl rfl rfl (fun hG=>Za rfl rfl u_0))<|o_g (g_t rfl rfl rfl (fun hG=>Zq rfl rfl (Opd.gd hG u_0) (fun _ _ ⟨_,_,_,e,_⟩=>⟨_,e⟩)))<|o_g (g_t rfl rfl rfl (fun hG=>Zt Zc1 (off:=1) (by kernel_rfl) rfl rfl (Opd.gd hG u_0)))<|o_g (g_t rfl rfl rfl (fun hG=>Zbr ty_2 rfl rfl (Opd.gd hG u_0)))<|o_g (g_t rfl rfl rfl (fun hG=>Zd Zed rfl rfl u_0))<|o_g (g_t rfl rfl rfl (fun hG=>Zf ty_2 rfl rfl (Opd.gd hG u_0)))<|o_g (g_t rfl rfl rfl (fun hG=>Zg7 rfl rfl c_i (Opd.gd hG u_0) rfl))<|o_g (g_t rfl rfl rfl (fun hG=>Zcu rfl rfl (Opd.gd hG u_0) (Opd.gd hG u_1)))<|o_p rfl (Zbi rfl rfl u_0 (fun hz=>(Opd.gd hz u_1)))<|o_p rfl (Za rfl rfl u_0)<|o_g (g_f rfl rfl rfl (fun hG=>Zd Zed rfl rfl u_0))<|o_g (g_f rfl rfl rfl (fun hG=>Zf ty_2 rfl rfl (Opd.gd hG u_0)))<|o_g (g_f rfl rfl rfl (fun hG=>Zci rfl rfl (Opd.gd hG u_0) c_i))<|o_g (g_f rfl rfl rfl (fun hG=>Za rfl rfl (Opd.gd hG u_0)))<|o_g (g_ti rfl rfl rfl (fun hG=>Za rfl rfl u_0))<|o_g (g_ti rfl rfl rfl (fun hG=>Zq rfl rfl (Opd.gd hG u_0) (fun _ _ ⟨_,_,_,e,_⟩=>⟨_,e⟩)))<|o_g (g_ti rfl rfl rfl (fun hG=>Zt Zc1 (off:=1) (by kernel_rfl) rfl rfl (Opd.gd hG u_0)))<|o_g (g_ti rfl rfl rfl (fun hG=>Zbr ty_2 rfl rfl (Opd.gd hG u_0)))<|o_g (g_ti rfl rfl rfl (fun hG=>Zd Zed rfl rfl u_0))<|o_g (g_ti rfl rfl rfl (fun hG=>Zf ty_2 rfl rfl (Opd.gd hG u_0)))<|o_g (g_ti rfl rfl rfl (fun hG=>Zg7 rfl rfl c_i (Opd.gd hG u_0) rfl))<|o_g (g_ti rfl rfl rfl (fun hG=>Zci rfl rfl (Opd.gd hG u_0) (Opd.gd hG u_1)))<|o_g (g_f rfl rfl rfl (fun hG=>Zbi rfl rfl (Opd.gd hG u_0) (fun hz=>(Opd.gd (bA hG hz) u_1))))<|o_p rfl (Zbo rfl rfl u_0 (fun hz=>(Opd.gd (bNF hz) u_1)))<|o_n) (by kernel_rfl) (fun a g hst hb=>?_)
 refine wp_cond_split (hst.bool 3 rfl) (fun hc1=>?_) (fun hc1=>?_)
 ·replace H0:=Zv hc1 H0
  refine r_s (L:=[(0,_),(2,_)]) (T:=[⟨[],_,[],[],[6]⟩]) (F:=[.old 0,.old 1,.op 0 0]) (hst.pick [0,1] rfl) hb Zb
   (o_p rfl (Zc rfl rfl c_i)<|o_n) (by kernel_rfl) (fun a g hst hb=>?_)
  refine wp_ret ?_
  refine Zr ?_
  obtain rfl:=Option.some.inj H0
  exact Zig rfl hst hb (Zk (s:=6)) (hst.at 2 rfl) ⟨Zc2 (hst.at 0 rfl),Zc2 (hst.at 1 rfl),trivial⟩
 ·replace H0:=Zw hc1 H0
  refine wp_skip ?_
  refine Zs ?_
  refine r_s (L:=[(0,_),(2,_),(4,_)]) (T:=[⟨[.old 0],_,[],[],[35]⟩,⟨[.op 0 0],_,[],[0],[36]⟩,⟨[.op 1 0],_,[],[0,1],[37]⟩,⟨[.op 2 0],_,[],[0,1,2],[38]⟩,⟨[.old 2],_,[],[],[39]⟩,⟨[.op 4 0],_,[],[4],[40]⟩,⟨[.op 3 0,.op 5 0],_,[],Lr 6,[41]⟩,⟨[.op 0 0],_,[],Lr 7,[42]⟩,⟨[.op 7 0],_,[],Lr 8,[43]⟩,⟨[.op 6 0,.op 8 0,.old 0],_,[1],Lr 9,[0,35,36,37,42,43]⟩]) (F:=[.op 9 0,.old 1]) (hst.pick [0,1,2] rfl) hb Zb
   (o_p rfl (Za rfl rfl u_0)<|o_p rfl (Zq rfl rfl u_0 (fun _ _ ⟨_,_,_,e,_⟩=>⟨_,e⟩))<|o_p rfl (Zt Zc1 (off:=1) (by kernel_rfl) rfl rfl u_0)<|o_p rfl (Zbr ty_2 rfl rfl u_0)<|o_p rfl (Zd Zed rfl rfl u_0)<|o_p rfl (Zf ty_2 rfl rfl u_0)<|o_p rfl (Zb7 rfl rfl u_0 u_1 rfl)<|o_p rfl (Zq rfl rfl u_0 (fun _ _ ⟨_,_,_,e,_⟩=>⟨_,e⟩))<|o_p rfl (Zt Zc1 (off:=1) (by kernel_rfl) rfl rfl u_0)<|o_p rfl (Zmu ty_2 rfl rfl u_2 u_1 u_0)<|o_n) (by kernel_rfl) (fun a g hst hb=>?_)
  refine r_s (T:=[⟨[],_,[],[],[6]⟩]) (F:=[.old 0,.old 1,.op 0 0]) hst hb Zb
   (o_p rfl (Zc rfl rfl c_i)<|o_n) (by kernel_rfl) (fun a g hst hb=>?_)
  refine wp_ret ?_
  obtain rfl:=Option.some.inj H0
  exact Zig rfl hst hb (Zk (s:=6)) (hst.at 2 rfl) ⟨Zc2 (hst.at 0 rfl),Zc2 (hst.at 1 rfl),trivial⟩
theorem Zp0 (a0:Ze) (a1:Zu) (a2:Zg) {r:Int × Ze × Zg} (h:Zem a0 a1 a2=some r):FnB Tryz.prog 117 [.box Zi a0 r.2.1,.val (Z4.pd a1),.box Zm a2 r.2.2] (pInt .i64 r.1):=by
 have H0:=h
 unfold Zem at H0
 clear h
 refine Zkq (N:=14) Tryz.func117 rfl rfl (Nat.le_of_ble_eq_true rfl) rfl rfl (fun a g0 bs hbs hst hb=>?_)
 obtain ⟨b0,b2,rfl⟩:=Zl5 hbs
 replace hst:St 14 [(0,(Zcf (some b0) Zi 0 a0)),(1,(Z4.pd a1)),(2,(Zcf (some b2) Zm 2 a2))] _ _:=hst
 refine r_s (T:=[⟨[.old 1],_,[],[],[4]⟩,⟨[],_,[],[],[6]⟩]) (F:=[.old 0,.old 2,.op 0 0]) hst hb Zb
  (o_p rfl (Zbq rfl rfl u_0)<|o_p rfl (Zc rfl rfl c_i)<|o_n) (by kernel_rfl) (fun a g hst hb=>?_)
 refine wp_seq ?_
 refine r_s (T:=[⟨[.old 0],_,[],[],[7]⟩,⟨[.op 0 0],_,[],[0],[8]⟩,⟨[.op 1 0],_,[],[0,1],[9]⟩,⟨[.op 2 0],_,[],[0,1,2],[10]⟩,⟨[.old 2],_,[],[],[11]⟩,⟨[.op 4 0],_,[],[4],[12]⟩,⟨[.op 3 0,.op 5 0],_,[],Lr 6,[13]⟩]) (F:=[.old 0,.old 1,.op 6 0]) hst hb Zb
  (o_p rfl (Za rfl rfl u_0)<|o_p rfl (Zq rfl rfl u_0 (fun _ _ ⟨_,_,_,e,_⟩=>⟨_,e⟩))<|o_p rfl (Zt Zc1 (off:=1) (by kernel_rfl) rfl rfl u_0)<|o_p rfl (Zbr ty_2 rfl rfl u_0)<|o_p rfl (Zd Zed rfl rfl u_0)<|o_p rfl (Zf ty_2 rfl rfl u_0)<|o_p rfl (Zci rfl rfl u_0 u_1)<|o_n) (by kernel_rfl) (fun a g hst hb=>?_)
 refine wp_cond_split (hst.bool 2 rfl) (fun hc1=>?_) (fun hc1=>?_)
 ·replace H0:=Zv hc1 H0
  refine r_s (L:=[(0,_),(2,_)]) (T:=[⟨[],_,[],[],[6]⟩]) (F:=[.old 0,.old 1,.op 0 0]) (hst.pick [0,1] rfl) hb Zb
   (o_p rfl (Zc rfl rfl c_i)<|o_n) (by kernel_rfl) (fun a g hst hb=>?_)
  refine wp_ret ?_
  refine Zr ?_
  obtain rfl:=Option.some.inj H0
  exact Zig rfl hst hb (Zk (s:=6)) (hst.at 2 rfl) ⟨Zc2 (hst.at 0 rfl),Zc2 (hst.at 1 rfl),trivial⟩
 ·replace H0:=Zw hc1 H0
  refine wp_skip ?_
  refine Zs ?_
  refine r_s (L:=[(0,_),(2,_)]) (T:=[⟨[],_,[],[],[6]⟩]) (F:=[.old 0,.old 1,.op 0 0]) (hst.pick [0,1] rfl) hb Zb
   (o_p rfl (Zc rfl rfl c_i)<|o_n) (by kernel_rfl) (fun a g hst hb=>?_)
  refine wp_ret ?_
  obtain rfl:=Option.some.inj H0
  exact Zig rfl hst hb (Zk (s:=6)) (hst.at 2 rfl) ⟨Zc2 (hst.at 0 rfl),Zc2 (hst.at 1 rfl),trivial⟩
theorem Zt0 (a0:Ze) (a1:Zu) (a2:Zg) {r:Int × Ze × Zg} (h:Zhs a0 a1 a2=some r):FnB Tryz.prog 118 [.box Zi a0 r.2.1,.val (Z4.pd a1),.box Zm a2 r.2.2] (pInt .i64 r.1):=by
 have H0:=h
 unfold Zhs at H0
 clear h
 refine Zkq (N:=28) Tryz.func118 rfl rfl (Nat.le_of_ble_eq_true rfl) rfl rfl (fun a g0 bs hbs hst hb=>?_)
 obtain ⟨b0,b2,rfl⟩:=Zl5 hbs
 replace hst:St 28 [(0,(Zcf (some b0) Zi 0 a0)),(1,(Z4.pd a1)),(2,(Zcf (some b2) Zm 2 a2))] _ _:=hst
 refine r_s (T:=[⟨[.old 1],_,[],[],[4]⟩,⟨[],_,[],[],[6]⟩]) (F:=[.old 0,.old 2,.op 0 0]) hst hb Zb
  (o_p rfl (Zbq rfl rfl u_0)<|o_p rfl (Zc rfl rfl c_i)<|o_n) (by kernel_rfl) (fun a g hst hb=>?_)
 refine wp_seq ?_
 refine r_s (T:=⟨[.old 2],_,[],[],[7]⟩ :: ⟨[.op 0 0],_,[],[0],[8]⟩ :: ⟨[.old 0],_,[],[],[9]⟩ :: ⟨[.op 2 0],_,[],[2],[10]⟩ :: ⟨[.op 3 0],_,[],[2,3],[11]⟩ :: ⟨[.op 4 0],_,[],[2,3,4],[12]⟩ :: ⟨[.old 0],_,[],[],[13]⟩ :: ⟨[.op 6 0],_,[],[6],[14]⟩ :: ⟨[.op 7 0],_,[],[6,7],[15]⟩ :: ⟨[.op 8 0],_,[],[6,7,8],[16]⟩ :: ⟨[.op 5 0,.op 9 0],_,[],List.range' 2 8,[17]⟩ :: ⟨[.op 1 0,.op 10 0],_,[],Lr 11,[18]⟩ :: []) (F:=[.old 0,.old 1,.old 2,.op 11 0]) hst hb Zb
  (o_p rfl (Zd Zed rfl rfl u_0)<|o_p rfl (Zf ty_2 rfl rfl u_0)<|o_p rfl (Za rfl rfl u_0)<|o_p rfl (Zq rfl rfl u_0 (fun _ _ ⟨_,_,_,e,_⟩=>⟨_,e⟩))<|o_p rfl (Zt Zjo (off:=3) (by kernel_rfl) rfl rfl u_0)<|o_p rfl (Zbr ty_2 rfl rfl u_0)<|o_p rfl (Za rfl rfl u_0)<|o_p rfl (Zq rfl rfl u_0 (fun _ _ ⟨_,_,_,e,_⟩=>⟨_,e⟩))<|o_p rfl (Zt Zc1 (off:=1) (by kernel_rfl) rfl rfl u_0)<|o_p rfl (Zbr ty_2 rfl rfl u_0)<|o_p rfl (Zg7 rfl rfl u_0 u_1 rfl)<|o_p rfl (Zcu rfl rfl u_0 u_1)<|o_n) (by kernel_rfl) (fun a g hst hb=>?_)
 refine wp_cond_split (hst.bool 3 rfl) (fun hc1=>?_) (fun hc1=>?_)
 ·replace H0:=Zv hc1 H0
  refine r_s (L:=[(0,_),(2,_)]) (T:=[⟨[],_,[],[],[6]⟩]) (F:=[.old 0,.old 1,.op 0 0]) (hst.pick [0,1] rfl) hb Zb
   (o_p rfl (Zc rfl rfl c_i)<|o_n) (by kernel_rfl) (fun a g hst hb=>?_)
  refine wp_ret ?_
  refine Zr ?_
  obtain rfl:=Option.some.inj H0
  exact Zig rfl hst hb (Zk (s:=6)) (hst.at 2 rfl) ⟨Zc2 (hst.at 0 rfl),Zc2 (hst.at 1 rfl),trivial⟩
 ·replace H0:=Zw hc1 H0
  refine wp_skip ?_
  refine Zs ?_
  refine r_s (L:=[(0,_),(2,_),(4,_)]) (T:=[⟨[.old 0],_,[],[],[19]⟩,⟨[.op 0 0],_,[],[0],[20]⟩,⟨[.op 1 0],_,[],[0,1],[21]⟩,⟨[.op 2 0],_,[],[0,1,2],[22]⟩,⟨[.old 2],_,[],[],[23]⟩,⟨[.op 4 0],_,[],[4],[24]⟩,⟨[.op 3 0,.op 5 0],_,[],Lr 6,[25]⟩,⟨[.op 0 0],_,[],Lr 7,[26]⟩,⟨[.op 7 0],_,[],Lr 8,[27]⟩,⟨[.op 6 0,.op 8 0,.old 0],_,[1],Lr 9,[0,19,20,21,26,27]⟩]) (F:=[.op 9 0,.old 1]) (hst.pick [0,1,2] rfl) hb Zb
   (o_p rfl (Za rfl rfl u_0)<|o_p rfl (Zq rfl rfl u_0 (fun _ _ ⟨_,_,_,e,_⟩=>⟨_,e⟩))<|o_p rfl (Zt Zc1 (off:=1) (by kernel_rfl) rfl rfl u_0)<|o_p rfl (Zbr ty_2 rfl rfl u_0)<|o_p rfl (Zd Zed rfl rfl u_0)<|o_p rfl (Zf ty_2 rfl rfl u_0)<|o_p rfl (Zb7 rfl rfl u_0 u_1 rfl)<|o_p rfl (Zq rfl rfl u_0 (fun _ _ ⟨_,_,_,e,_⟩=>⟨_,e⟩))<|o_p rfl (Zt Zc1 (off:=1) (by kernel_rfl) rfl rfl u_0)<|o_p rfl (Zmu ty_2 rfl rfl u_2 u_1 u_0)<|o_n) (by kernel_rfl) (fun a g hst hb=>?_)
  refine r_s (T:=[⟨[],_,[],[],[6]⟩]) (F:=[.old 0,.old 1,.op 0 0]) hst hb Zb
   (o_p rfl (Zc rfl rfl c_i)<|o_n) (by kernel_rfl) (fun a g hst hb=>?_)
  refine wp_ret ?_
  obtain rfl:=Option.some.inj H0
  exact Zig rfl hst hb (Zk (s:=6)) (hst.at 2 rfl) ⟨Zc2 (hst.at 0 rfl),Zc2 (hst.at 1 rfl),trivial⟩
theorem Zty (a0:Ze) (a1:Zu) (a2:Zg) {r:Int × Ze × Zg} (h:Zhw a0 a1 a2=some r):FnB Tryz.prog 119 [.box Zi a0 r.2.1,.val (Z4.pd a1),.box Zm a2 r.2.2] (pInt .i64 r.1):=by
 have H0:=h
 unfold Zhw at H0
 clear h
 refine Zkq (N:=28) Tryz.func119 rfl rfl (Nat.le_of_ble_eq_true rfl) rfl rfl (fun a g0 bs hbs hst hb=>?_)
 obtain ⟨b0,b2,rfl⟩:=Zl5 hbs
 replace hst:St 28 [(0,(Zcf (some b0) Zi 0 a0)),(1,(Z4.pd a1)),(2,(Zcf (some b2) Zm 2 a2))] _ _:=hst
 refine r_s (T:=[⟨[.old 1],_,[],[],[4]⟩,⟨[],_,[],[],[6]⟩]) (F:=[.old 0,.old 2,.op 0 0]) hst hb Zb
  (o_p rfl (Zbq rfl rfl u_0)<|o_p rfl (Zc rfl rfl c_i)<|o_n) (by kernel_rfl) (fun a g hst hb=>?_)
 refine wp_seq ?_
 refine r_s (T:=⟨[.old 2],_,[],[],[7]⟩ :: ⟨[.op 0 0],_,[],[0],[8]⟩ :: ⟨[.old 0],_,[],[],[9]⟩ :: ⟨[.op 2 0],_,[],[2],[10]⟩ :: ⟨[.op 3 0],_,[],[2,3],[11]⟩ :: ⟨[.op 4 0],_,[],[2,3,4],[12]⟩ :: ⟨[.old 0],_,[],[],[13]⟩ :: ⟨[.op 6 0],_,[],[6],[14]⟩ :: ⟨[.op 7 0],_,[],[6,7],[15]⟩ :: ⟨[.op 8 0],_,[],[6,7,8],[16]⟩ :: ⟨[.op 5 0,.op 9 0],_,[],List.range' 2 8,[17]⟩ :: ⟨[.op 1 0,.op 10 0],_,[],Lr 11,[18]⟩ :: []) (F:=[.old 0,.old 1,.old 2,.op 11 0]) hst hb Zb
  (o_p rfl (Zd Zed rfl rfl u_0)<|o_p rfl (Zf ty_2 rfl rfl u_0)<|o_p rfl (Za rfl rfl u_0)<|o_p rfl (Zq rfl rfl u_0 (fun _ _ ⟨_,_,_,e,_⟩=>⟨_,e⟩))<|o_p rfl (Zt Zc1 (off:=1) (by kernel_rfl) rfl rfl u_0)<|o_p rfl (Zbr ty_2 rfl rfl u_0)<|o_p rfl (Za rfl rfl u_0)<|o_p rfl (Zq rfl rfl u_0 (fun _ _ ⟨_,_,_,e,_⟩=>⟨_,e⟩))<|o_p rfl (Zt Zjp (off:=2) (by kernel_rfl) rfl rfl u_0)<|o_p rfl (Zbr ty_2 rfl rfl u_0)<|o_p rfl (Zg7 rfl rfl u_0 u_1 rfl)<|o_p rfl (Zcu rfl rfl u_0 u_1)<|o_n) (by kernel_rfl) (fun a g hst hb=>?_)
 refine wp_cond_split (hst.bool 3 rfl) (fun hc1=>?_) (fun hc1=>?_)
 ·replace H0:=Zv hc1 H0
  refine r_s (L:=[(0,_),(2,_)]) (T:=[⟨[],_,[],[],[6]⟩]) (F:=[.old 0,.old 1,.op 0 0]) (hst.pick [0,1] rfl) hb Zb
   (o_p rfl (Zc rfl rfl c_i)<|o_n) (by kernel_rfl) (fun a g hst hb=>?_)
  refine wp_ret ?_
  refine Zr ?_
  obtain rfl:=Option.some.inj H0
  exact Zig rfl hst hb (Zk (s:=6)) (hst.at 2 rfl) ⟨Zc2 (hst.at 0 rfl),Zc2 (hst.at 1 rfl),trivial⟩
 ·replace H0:=Zw hc1 H0
  refine wp_skip ?_
  refine Zs ?_
  refine r_s (L:=[(0,_),(2,_),(4,_)]) (T:=[⟨[.old 0],_,[],[],[19]⟩,⟨[.op 0 0],_,[],[0],[20]⟩,⟨[.op 1 0],_,[],[0,1],[21]⟩,⟨[.op 2 0],_,[],[0,1,2],[22]⟩,⟨[.old 2],_,[],[],[23]⟩,⟨[.op 4 0],_,[],[4],[24]⟩,⟨[.op 3 0,.op 5 0],_,[],Lr 6,[25]⟩,⟨[.op 0 0],_,[],Lr 7,[26]⟩,⟨[.op 7 0],_,[],Lr 8,[27]⟩,⟨[.op 6 0,.op 8 0,.old 0],_,[1],Lr 9,[0,19,20,21,26,27]⟩]) (F:=[.op 9 0,.old 1]) (hst.pick [0,1,2] rfl) hb Zb
   (o_p rfl (Za rfl rfl u_0)<|o_p rfl (Zq rfl rfl u_0 (fun _ _ ⟨_,_,_,e,_⟩=>⟨_,e⟩))<|o_p rfl (Zt Zc1 (off:=1) (by kernel_rfl) rfl rfl u_0)<|o_p rfl (Zbr ty_2 rfl rfl u_0)<|o_p rfl (Zd Zed rfl rfl u_0)<|o_p rfl (Zf ty_2 rfl rfl u_0)<|o_p rfl (Zg7 rfl rfl u_0 u_1 rfl)<|o_p rfl (Zq rfl rfl u_0 (fun _ _ ⟨_,_,_,e,_⟩=>⟨_,e⟩))<|o_p rfl (Zt Zc1 (off:=1) (by kernel_rfl) rfl rfl u_0)<|o_p rfl (Zmu ty_2 rfl rfl u_2 u_1 u_0)<|o_n) (by kernel_rfl) (fun a g hst hb=>?_)
  refine r_s (T:=[⟨[],_,[],[],[6]⟩]) (F:=[.old 0,.old 1,.op 0 0]) hst hb Zb
   (o_p rfl (Zc rfl rfl c_i)<|o_n) (by kernel_rfl) (fun a g hst hb=>?_)
  refine wp_ret ?_
  obtain rfl:=Option.some.inj H0
  exact Zig rfl hst hb (Zk (s:=6)) (hst.at 2 rfl) ⟨Zc2 (hst.at 0 rfl),Zc2 (hst.at 1 rfl),trivial⟩
theorem Zkj (h:Nat) (he:Zp Tryz.prog h) (ψ:Nat → Nat → Option Nat) (hψ:∀ x y z,ψ x y=some z → FnOk Tryz.prog h [pFlt x,pFlt y] (pFlt z)) (a0:Ze) (a1:Zu) (a2:Zg) {z:Nat} (hz:ψ a0.Real a1.X=some z):FnB Tryz.prog 135 [.box Zi a0 { a0 with Real:=z },.val (Z4.pd a1),.box Zm a2 a2,.val (Kd.fnc.ptr h)] (pInt .i64 0):=by
 refine Zkq (N:=19) Tryz.func135 rfl rfl (Nat.le_of_ble_eq_true rfl) rfl rfl (fun a g0 bs hbs hst hb=>?_)
 obtain ⟨b0,b2,rfl⟩:=Zl5 hbs
 replace hst:St 19 [(0,(Zcf (some b0) Zi 0 a0)),(1,(Z4.pd a1)),(2,(Zcf (some b2) Zm 2 a2)),(3,(Kd.fnc.ptr h))] _ _:=hst
 refine r_s (T:=[⟨[.old 1],_,[],[],[5]⟩,⟨[],_,[],[],[7]⟩]) (F:=[.old 0,.old 2,.old 3,.op 0 0]) hst hb Zb
  (o_p rfl (Zbq rfl rfl u_0)<|o_p rfl (Zc rfl rfl c_i)<|o_n) (by kernel_rfl) (fun a g hst hb=>?_)
 refine r_s (T:=[⟨[.old 0],_,[],[],[8]⟩,⟨[.old 2],_,[],[],[9]⟩,⟨[.old 0],_,[],[],[10]⟩,⟨[.op 2 0],_,[],[2],[11]⟩,⟨[.op 3 0],_,[],[2,3],[12]⟩,⟨[.op 4 0],_,[],[2,3,4],[13]⟩,⟨[.old 3],_,[],[],[14]⟩,⟨[.op 6 0],_,[],[6],[15]⟩,⟨[.op 1 0,.op 5 0,.op 7 0],[(16,(pFlt z))],[],[1,2,3,4,5,6,7],[16]⟩,⟨[.op 0 0],_,[],[0,1,2,3,4,5,6,7,8],[17]⟩,⟨[.op 9 0],_,[],[0,1,2,3,4,5,6,7,8,9],[18]⟩,⟨[.op 8 0,.op 10 0,.old 0],_,[1],[0,1,2,3,4,5,6,7,8,9,10],[0,8,10,11,12,17,18]⟩]) (F:=[.op 11 0,.old 1]) hst hb Zb
  (o_p rfl (Za rfl rfl u_0)<|o_p rfl (Zf Z9d rfl rfl u_0)<|o_p rfl (Za rfl rfl u_0)<|o_p rfl (Zq rfl rfl u_0 (fun _ _ ⟨_,_,_,e,_⟩=>⟨_,e⟩))<|o_p rfl (Zt Zgc (off:=4) (by kernel_rfl) rfl rfl u_0)<|o_p rfl (Zbr Zc3 rfl rfl u_0)<|o_p rfl (Zd Zjn rfl rfl u_0)<|o_p rfl (Zf Zc3 rfl rfl u_0)<|o_p rfl (Zra (C:=[]) (hC:=rfl) he (hψ _ _ _ hz) rfl rfl (Opd.imp u_0 (fun _ _ h=>Z74 h)) (.cons u_1 (.cons u_2 .nil)))<|o_p rfl (Zq rfl rfl u_0 (fun _ _ ⟨_,_,_,e,_⟩=>⟨_,e⟩))<|o_p rfl (Zt Zgc (off:=4) (by kernel_rfl) rfl rfl u_0)<|o_p rfl (Zo5 Zc3 rfl rfl u_2 u_1 u_0)<|o_n) (by kernel_rfl) (fun a g hst hb=>?_)
 refine r_s (T:=[⟨[],_,[],[],[7]⟩]) (F:=[.old 0,.old 1,.op 0 0]) hst hb Zb
  (o_p rfl (Zc rfl rfl c_i)<|o_n) (by kernel_rfl) (fun a g hst hb=>?_)
 refine wp_ret ?_
 exact Zig rfl hst hb (Zk (s:=7)) (hst.at 2 rfl) ⟨Zc2 (hst.at 0 rfl),Zc2 (hst.at 1 rfl),trivial⟩
theorem Zlw (h:Nat):FnOk Tryz.prog 120 [(Kd.fnc.pd h)] (pClo 135 [(Kd.fnc.ptr h)] rfl):=by
 refine Zbu (N:=4) Tryz.func120 rfl rfl (Nat.le_of_ble_eq_true rfl) rfl rfl (fun a g0 hst hb=>?_)
 refine r_s (T:=[⟨[.old 0],_,[],[],[1]⟩,⟨[],[],[],[],[2]⟩]) (F:=[.op 0 0]) hst hb Zb
  (o_p rfl (Zbq rfl rfl u_0)<|o_p rfl (Zzb (.inr rfl))<|o_n) (by kernel_rfl) (fun a g hst hb=>?_)
 refine r_s (T:=[⟨[.old 0],[(3,(pClo 135 [(Kd.fnc.ptr h)] rfl))],[],[],[3]⟩,⟨[.op 0 0],_,[],[0],[2]⟩]) (F:=[.op 1 0]) hst hb Zb
  (o_p rfl (Z1b rfl rfl (.cons u_0 .nil))<|o_p rfl (Zc rfl rfl u_0)<|o_n) (by kernel_rfl) (fun a g hst hb=>?_)
 refine wp_ret ?_
 exact Z5 rfl hst hb (Zk (s:=2)) (hst.at 0 rfl)
theorem Z3p (a0:Nat) (a1:Nat) {r:Nat} (h:Zl7 a0 a1=some r):FnOk Tryz.prog 121 [(pFlt a0),(pFlt a1)] (pFlt r):=by
 have H0:=h
 unfold Zl7 at H0
 clear h
 refine Zbu (N:=12) Tryz.func121 rfl rfl (Nat.le_of_ble_eq_true rfl) rfl rfl (fun a g0 hst hb=>?_)
 refine r_s (T:=[⟨[],_,[],[],[4]⟩]) (F:=[.old 0,.old 1]) hst hb Zb
  (o_p rfl (Zc rfl rfl c_f)<|o_n) (by kernel_rfl) (fun a g hst hb=>?_)
 refine wp_seq ?_
 obtain ⟨r1,h2,H0⟩:=Zh H0
 refine r_s (T:=[⟨[.old 0],_,[],[],[5]⟩,⟨[.old 1],_,[],[],[6]⟩,⟨[.op 0 0,.op 1 0],_,[],[0,1],[7]⟩]) (F:=[.old 0,.old 1,.op 2 0]) hst hb Zb
  (o_p rfl (Za rfl rfl u_0)<|o_p rfl (Za rfl rfl u_0)<|o_p rfl (Zo Zzf (Zqc _ _ h2) rfl rfl (.cons u_0 (.cons u_1 .nil)))<|o_n) (by kernel_rfl) (fun a g hst hb=>?_)
 refine wp_cond_split (hst.bool 2 rfl) (fun hc3=>?_) (fun hc3=>?_)
 ·replace H0:=Zv hc3 H0
  obtain ⟨r4,h5,H0⟩:=Zh H0
  refine r_s (L:=[(1,_)]) (T:=[⟨[.old 0],_,[],[],[8]⟩,⟨[.op 0 0],_,[],[0],[9]⟩,⟨[.op 1 0],_,[],[0,1],[4]⟩]) (F:=[.op 2 0]) (hst.pick [1] rfl) hb Zb
   (o_p rfl (Za rfl rfl u_0)<|o_p rfl (Zo Zod (Zh7 _ h5) rfl rfl (.cons u_0 .nil))<|o_p rfl (Zc rfl rfl u_0)<|o_n) (by kernel_rfl) (fun a g hst hb=>?_)
  refine wp_ret ?_
  refine Zr ?_
  obtain rfl:=Option.some.inj H0
  exact Z5 rfl hst hb (Zk (s:=4)) (hst.at 0 rfl)
 ·replace H0:=Zw hc3 H0
  refine wp_skip ?_
  refine Zs ?_
  obtain ⟨r6,h7,H0⟩:=Zh H0
  refine r_s (L:=[(0,_)]) (T:=[⟨[.old 0],_,[],[],[10]⟩,⟨[.op 0 0],_,[],[0],[11]⟩,⟨[.op 1 0],_,[],[0,1],[4]⟩]) (F:=[.op 2 0]) (hst.pick [0] rfl) hb Zb
   (o_p rfl (Za rfl rfl u_0)<|o_p rfl (Zo Zod (Zh7 _ h7) rfl rfl (.cons u_0 .nil))<|o_p rfl (Zc rfl rfl u_0)<|o_n) (by kernel_rfl) (fun a g hst hb=>?_)
  refine wp_ret ?_
  obtain rfl:=Option.some.inj H0
  exact Z5 rfl hst hb (Zk (s:=4)) (hst.at 0 rfl)
theorem Z22 (a0:Nat) (a1:Nat) {r:Nat} (h:Zl4 a0 a1=some r):FnOk Tryz.prog 122 [(pFlt a0),(pFlt a1)] (pFlt r):=by
 have H0:=h
 unfold Zl4 at H0
 clear h
 refine Zbu (N:=12) Tryz.func122 rfl rfl (Nat.le_of_ble_eq_true rfl) rfl rfl (fun a g0 hst hb=>?_)
 refine r_s (T:=[⟨[],_,[],[],[4]⟩]) (F:=[.old 0,.old 1]) hst hb Zb
  (o_p rfl (Zc rfl rfl c_f)<|o_n) (by kernel_rfl) (fun a g hst hb=>?_)
 refine wp_seq ?_
 obtain ⟨r1,h2,H0⟩:=Zh H0
 refine r_s (T:=[⟨[.old 1],_,[],[],[5]⟩,⟨[.old 0],_,[],[],[6]⟩,⟨[.op 0 0,.op 1 0],_,[],[0,1],[7]⟩]) (F:=[.old 0,.old 1,.op 2 0]) hst hb Zb
  (o_p rfl (Za rfl rfl u_0)<|o_p rfl (Za rfl rfl u_0)<|o_p rfl (Zo Zzf (Zqc _ _ h2) rfl rfl (.cons u_0 (.cons u_1 .nil)))<|o_n) (by kernel_rfl) (fun a g hst hb=>?_)
 refine wp_cond_split (hst.bool 2 rfl) (fun hc3=>?_) (fun hc3=>?_)
 ·replace H0:=Zv hc3 H0
  obtain ⟨r4,h5,H0⟩:=Zh H0
  refine r_s (L:=[(1,_)]) (T:=[⟨[.old 0],_,[],[],[8]⟩,⟨[.op 0 0],_,[],[0],[9]⟩,⟨[.op 1 0],_,[],[0,1],[4]⟩]) (F:=[.op 2 0]) (hst.pick [1] rfl) hb Zb
   (o_p rfl (Za rfl rfl u_0)<|o_p rfl (Zo Zod (Zh7 _ h5) rfl rfl (.cons u_0 .nil))<|o_p rfl (Zc rfl rfl u_0)<|o_n) (by kernel_rfl) (fun a g hst hb=>?_)
  refine wp_ret ?_
  refine Zr ?_
  obtain rfl:=Option.some.inj H0
  exact Z5 rfl hst hb (Zk (s:=4)) (hst.at 0 rfl)
 ·replace H0:=Zw hc3 H0
  refine wp_skip ?_
  refine Zs ?_
  obtain ⟨r6,h7,H0⟩:=Zh H0
  refine r_s (L:=[(0,_)]) (T:=[⟨[.old 0],_,[],[],[10]⟩,⟨[.op 0 0],_,[],[0],[11]⟩,⟨[.op 1 0],_,[],[0,1],[4]⟩]) (F:=[.op 2 0]) (hst.pick [0] rfl) hb Zb
   (o_p rfl (Za rfl rfl u_0)<|o_p rfl (Zo Zod (Zh7 _ h7) rfl rfl (.cons u_0 .nil))<|o_p rfl (Zc rfl rfl u_0)<|o_n) (by kernel_rfl) (fun a g hst hb=>?_)
  refine wp_ret ?_
  obtain rfl:=Option.some.inj H0
  exact Z5 rfl hst hb (Zk (s:=4)) (hst.at 0 rfl)
theorem Z07 (a0:Nat) (a1:Nat) {r:Nat} (h:Zja a0 a1=some r):FnOk Tryz.prog 123 [(pFlt a0),(pFlt a1)] (pFlt r):=by
 have H0:=h
 unfold Zja at H0
 clear h
 refine Zbu (N:=9) Tryz.func123 rfl rfl (Nat.le_of_ble_eq_true rfl) rfl rfl (fun a g0 hst hb=>?_)
 refine r_s (T:=[⟨[],_,[],[],[4]⟩]) (F:=[.old 0,.old 1]) hst hb Zb
  (o_p rfl (Zc rfl rfl c_f)<|o_n) (by kernel_rfl) (fun a g hst hb=>?_)
 obtain ⟨r1,h2,H0⟩:=Zh H0
 refine r_s (T:=[⟨[.old 0],_,[],[],[5]⟩,⟨[.old 1],_,[],[],[6]⟩,⟨[.op 0 0,.op 1 0],_,[],[0,1],[7]⟩,⟨[.op 2 0],_,[],[0,1,2],[8]⟩,⟨[.op 3 0],_,[],Lr 4,[4]⟩]) (F:=[.op 4 0]) hst hb Zb
  (o_p rfl (Za rfl rfl u_0)<|o_p rfl (Za rfl rfl u_0)<|o_p rfl (Zzx rfl rfl u_0 u_1)<|o_p rfl (Zo Zod (Zq9 (fun r z hr hz=>by simp only [Zgk,hr,hz,Option.bind_some,if_true]) (fun z r h=>Zh7 z h) h2) rfl rfl (.cons u_0 .nil))<|o_p rfl (Zc rfl rfl u_0)<|o_n) (by kernel_rfl) (fun a g hst hb=>?_)
 refine wp_ret ?_
 obtain rfl:=Option.some.inj H0
 exact Z5 rfl hst hb (Zk (s:=4)) (hst.at 0 rfl)
theorem Zz8 (a0:Nat) (a1:Nat) {r:Nat} (h:Zh9 a0 a1=some r):FnOk Tryz.prog 124 [(pFlt a0),(pFlt a1)] (pFlt r):=by
 have H0:=h
 unfold Zh9 at H0
 clear h
 refine Zbu (N:=9) Tryz.func124 rfl rfl (Nat.le_of_ble_eq_true rfl) rfl rfl (fun a g0 hst hb=>?_)
 refine r_s (T:=[⟨[],_,[],[],[4]⟩]) (F:=[.old 0,.old 1]) hst hb Zb
  (o_p rfl (Zc rfl rfl c_f)<|o_n) (by kernel_rfl) (fun a g hst hb=>?_)
 obtain ⟨r1,h2,H0⟩:=Zh H0
 refine r_s (T:=[⟨[.old 0],_,[],[],[5]⟩,⟨[.old 1],_,[],[],[6]⟩,⟨[.op 0 0,.op 1 0],_,[],[0,1],[7]⟩,⟨[.op 2 0],_,[],[0,1,2],[8]⟩,⟨[.op 3 0],_,[],Lr 4,[4]⟩]) (F:=[.op 4 0]) hst hb Zb
  (o_p rfl (Za rfl rfl u_0)<|o_p rfl (Za rfl rfl u_0)<|o_p rfl (Z0f rfl rfl u_0 u_1)<|o_p rfl (Zo Zod (Zq9 (fun r z hr hz=>by simp only [Zgk,hr,hz,Option.bind_some,if_true]) (fun z r h=>Zh7 z h) h2) rfl rfl (.cons u_0 .nil))<|o_p rfl (Zc rfl rfl u_0)<|o_n) (by kernel_rfl) (fun a g hst hb=>?_)
 refine wp_ret ?_
 obtain rfl:=Option.some.inj H0
 exact Z5 rfl hst hb (Zk (s:=4)) (hst.at 0 rfl)
theorem Zt2 (a0:Nat) (a1:Nat) {r:Nat} (h:Zhv a0 a1=some r):FnOk Tryz.prog 125 [(pFlt a0),(pFlt a1)] (pFlt r):=by
 have H0:=h
 unfold Zhv at H0
 clear h
 refine Zbu (N:=6) Tryz.func125 rfl rfl (Nat.le_of_ble_eq_true rfl) rfl rfl (fun a g0 hst hb=>?_)
 refine r_s (L:=[(1,_)]) (T:=[⟨[],_,[],[],[4]⟩]) (F:=[.old 0]) (hst.pick [1] rfl) hb Zb
  (o_p rfl (Zc rfl rfl c_f)<|o_n) (by kernel_rfl) (fun a g hst hb=>?_)
 refine r_s (T:=[⟨[.old 0],_,[],[],[5]⟩,⟨[.op 0 0],_,[],[0],[4]⟩]) (F:=[.op 1 0]) hst hb Zb
  (o_p rfl (Za rfl rfl u_0)<|o_p rfl (Zc rfl rfl u_0)<|o_n) (by kernel_rfl) (fun a g hst hb=>?_)
 refine wp_ret ?_
 obtain rfl:=Option.some.inj H0
 exact Z5 rfl hst hb (Zk (s:=4)) (hst.at 0 rfl)
theorem Ziq (f2:Nat) (C2:List Pd) (hC2:Free C2) (e2_:Zp Tryz.prog f2) (φ2:Zl → ByteArray → Option Int) (hφ2:∀ (y0:Zl) (y1:ByteArray) (r:Int),φ2 y0 y1=some r → FnOk Tryz.prog f2 ([(Zz.pd y0),(pStr y1)] ++ C2) (pInt .i64 r)) (a0:List Zl) (a1:ByteArray) {r:Int × Bool} (h:Zc5 a0 a1 φ2=some r):FnOk Tryz.prog 137 [(Zz.sl.pd a0),(pStr a1),(pClo f2 C2 hC2)] (pTup [(pInt .i64 r.1),(Zbg r.2)]):=by
 have H0:=h
 unfold Zc5 at H0
 clear h
 refine Zbu (N:=49) Tryz.func137 rfl rfl (Nat.le_of_ble_eq_true rfl) rfl rfl (fun a g0 hst hb=>?_)
 refine r_s (T:=[⟨[],_,[],[],[6]⟩,⟨[],_,[],[0],[7]⟩]) (F:=[.old 0,.old 1,.old 2]) hst hb Zb
  (o_p rfl (Zc rfl rfl c_i)<|o_p rfl (Zc rfl rfl c_b)<|o_n) (by kernel_rfl) (fun a g hst hb=>?_)
 refine r_s (T:=[⟨[.old 0],_,[],[],[12]⟩,⟨[.op 0 0],_,[],[0],[13]⟩,⟨[.op 1 0],_,[],[0,1],[8]⟩]) (F:=[.old 0,.old 1,.old 2,.op 2 0,.op 0 0]) hst hb Zb
  (o_p rfl (Za rfl rfl u_0)<|o_p rfl (Zb1 Tryz.underlying36 rfl rfl u_0)<|o_p rfl (Zc rfl rfl u_0)<|o_n) (by kernel_rfl) (fun a g hst hb=>?_)
 refine r_s (T:=[⟨[.old 3],_,[],[],[14]⟩,⟨[],_,[],[],[9]⟩,⟨[.op 0 0],_,[],[0,1],[10]⟩]) (F:=[.old 0,.old 1,.old 2,.old 3,.op 1 0,.op 2 0,.old 4]) hst hb Zb
  (o_p rfl (Za rfl rfl u_0)<|o_p rfl (Zc rfl rfl c_i)<|o_p rfl (Zc rfl rfl u_0)<|o_n) (by kernel_rfl) (fun a g hst hb=>?_)
 obtain ⟨z12,hz1,H0⟩:=Zh H0
 refine wp_seq ?_
 refine Zca (fun a w=>∃ (y11:Int) (g:G),w=g.w ∧ St 49 [(0,(Zz.sl.pd a0)),(1,(pStr a1)),(2,(pClo f2 C2 hC2)),(8,(pInt .i64 (a0.length:Int))),(9,(pInt .i64 y11)),(12,(Zz.sl.pd a0))] a g ∧ Base g0 g ∧ y11=z12) ?_ ?_
 ·rintro a w ⟨y11,g,rfl,hst,hb,rfl⟩
  refine Zs ?_
  obtain ⟨e13,h14,H0⟩:=Zh H0;obtain ⟨r15,h16,H0⟩:=Zh H0
  refine r_s (T:=⟨[.old 4],_,[],[],[35]⟩ :: ⟨[.old 4],_,[],[],[36]⟩ :: ⟨[.old 3],_,[],[],[37]⟩ :: ⟨[.op 1 0,.op 2 0],_,[],[1,2],[38]⟩ :: ⟨[.op 3 0],_,[],[1,2,3],[39]⟩ :: ⟨[.op 4 0,.old 2],_,[],List.range' 1 4,[40]⟩ :: ⟨[.op 4 0,.old 0],_,[],List.range' 1 4,[41]⟩ :: ⟨[.op 4 0,.old 4],_,[],List.range' 1 4,[42]⟩ :: ⟨[.op 4 0,.op 6 0,.op 7 0],_,[],[1,2,3,4,6,7],[43]⟩ :: ⟨[.op 4 0,.op 8 0],_,[],[1,2,3,4,6,7,8],[44]⟩ :: ⟨[.op 4 0,.old 1],_,[],List.range' 1 4,[45]⟩ :: ⟨[.op 4 0,.op 5 0,.op 9 0,.op 10 0],_,[],List.range' 1 10,[46]⟩ :: ⟨[.op 4 0,.op 11 0],_,[],List.range' 1 11,[47]⟩ :: ⟨[.op 4 0,.op 12 0],_,[],List.range' 1 12,[48]⟩ :: ⟨[.op 0 0],_,[],Lr 12,[6]⟩ :: ⟨[.op 13 0],_,[],Lr 15,[7]⟩ :: []) (F:=[.op 14 0,.op 15 0]) hst hb Zb
   (o_p rfl (Za rfl rfl u_0)<|o_p rfl (Za rfl rfl u_0)<|o_p rfl (Za rfl rfl u_0)<|o_p rfl (Zci rfl rfl u_0 u_1)<|o_p rfl (Za rfl rfl u_0)<|o_g (g_t rfl rfl rfl (fun hG=>Za rfl rfl u_0))<|o_g (g_t rfl rfl rfl (fun hG=>Za rfl rfl u_0))<|o_g (g_t rfl rfl rfl (fun hG=>Za rfl rfl u_0))<|o_g (g_t rfl rfl rfl (fun hG=>Zbl Tryz.underlying36 Ze4 rfl rfl (Opd.gd hG u_0) (Opd.gd hG u_1) (Zbn h14 hG)))<|o_g (g_t rfl rfl rfl (fun hG=>Zf Zea rfl rfl (Opd.gd hG u_0)))<|o_g (g_t rfl rfl rfl (fun hG=>Za rfl rfl u_0))<|o_g (g_t rfl rfl rfl (fun hG=>Zra e2_ (hφ2 _ _ _ (Zbn h16 hG)) rfl rfl (Opd.gd hG u_0) (.cons (Opd.gd hG u_1) (.cons (Opd.gd hG u_2) .nil))))<|o_g (g_t rfl rfl rfl (fun hG=>Zbs rfl rfl (Opd.gd hG u_0) c_i))<|o_p rfl (Zbi rfl rfl u_0 (fun hz=>(Opd.gd hz u_1)))<|o_p rfl (Zc rfl rfl u_0)<|o_p rfl (Zc rfl rfl u_0)<|o_n) (by kernel_rfl) (fun a g hst hb=>?_)
  refine wp_ret ?_
  obtain rfl:=Option.some.inj H0
  exact Zdq rfl hst hb (Zk (s:=6)) (Zk (s:=7)) (Zcw (hst.at 0 rfl) (hst.at 1 rfl))
 ·refine wp_block ?_
  refine wp_loop_ghost (fun n a w=>∃ (x1:Int) (x2:Int) (g:G),w=g.w ∧ St 49 [(0,(Zz.sl.pd a0)),(1,(pStr a1)),(2,(pClo f2 C2 hC2)),(8,(pInt .i64 (a0.length:Int))),(9,(pInt .i64 x1)),(10,(pInt .i64 x2)),(12,(Zz.sl.pd a0))] a g ∧ Base g0 g ∧ Zbt a0 a1 φ2 n x1 x2=some z12) (Int.toNat ((a0.length:Int) - (0:Int)) + 1) ⟨(0:Int),(a0.length:Int),g,rfl,(hst.pick [0,1,2,3,4,5,6] rfl),hb,hz1⟩ (fun n a w hI=>?_)
  obtain ⟨x1,x2,g,rfl,hst,hb,H1⟩:=hI
  cases n with
  | zero=>exact absurd H1 (by simp [Zbt])
  | succ n =>
   rw [Zbt] at H1
   refine wp_seq ?_
   refine r_s (T:=[⟨[.old 4],_,[],[],[15]⟩,⟨[.old 5],_,[],[],[16]⟩,⟨[.op 0 0,.op 1 0],_,[],[0,1],[17]⟩]) (F:=[.old 0,.old 1,.old 2,.old 3,.old 4,.old 5,.old 6,.op 2 0]) hst hb Zb
    (o_p rfl (Za rfl rfl u_0)<|o_p rfl (Za rfl rfl u_0)<|o_p rfl (Zci rfl rfl u_0 u_1)<|o_n) (by kernel_rfl) (fun a g hst hb=>?_)
   refine wp_cond_split (hst.bool 7 rfl) (fun hc3=>?_) (fun hc3=>?_)
   ·replace H1:=Zv hc3 H1
    refine wp_skip ?_
    refine Zs ?_
    refine Zca (fun a w=>∃ (j9:Int) (j10:Int) (g:G),w=g.w ∧ St 49 [(0,(Zz.sl.pd a0)),(1,(pStr a1)),(2,(pClo f2 C2 hC2)),(8,(pInt .i64 (a0.length:Int))),(9,(pInt .i64 j9)),(10,(pInt .i64 j10)),(12,(Zz.sl.pd a0))] a g ∧ Base g0 g ∧ Zco (Zbt a0 a1 φ2 n) j9 j10=some z12) ?_ ?_
    ·rintro a w ⟨j9,j10,g,rfl,hst,hb,H1⟩
     unfold Zco at H1
     exact ⟨n,Nat.lt_succ_self _,j9,j10,g,rfl,(hst.pick [0,1,2,3,4,5,6] rfl),hb,H1⟩
    ·refine wp_block ?_
     refine r_s (L:=[(0,_),(1,_),(2,_),(8,_),(9,_),(10,_),(12,_)]) (T:=[⟨[.old 4],_,[],[],[18]⟩,⟨[.old 5],_,[],[],[19]⟩,⟨[.op 0 0,.op 1 0],_,[],[0,1],[20]⟩,⟨[.op 2 0],_,[],[0,1,2],[21]⟩,⟨[.op 3 0],_,[],Lr 4,[22]⟩,⟨[.op 4 0],_,[],Lr 5,[23]⟩,⟨[.op 5 0],_,[],Lr 6,[11]⟩]) (F:=[.old 0,.old 1,.old 2,.old 3,.old 4,.old 5,.op 6 0,.old 6]) (hst.pick [0,1,2,3,4,5,6] rfl) hb Zb
      (o_p rfl (Za rfl rfl u_0)<|o_p rfl (Za rfl rfl u_0)<|o_p rfl (Zb7 rfl rfl u_0 u_1 rfl)<|o_p rfl (Z2j Tryz.underlying3 Tryz.underlying181 rfl rfl u_0 rfl)<|o_p rfl (Zbbf rfl rfl u_0 c_i (by decide) rfl)<|o_p rfl (Z2j Tryz.underlying181 Tryz.underlying3 rfl rfl u_0 rfl)<|o_p rfl (Zc rfl rfl u_0)<|o_n) (by kernel_rfl) (fun a g hst hb=>?_)
     obtain ⟨e4,h5,H1⟩:=Zh H1;obtain ⟨r6,h7,H1⟩:=Zh H1
     refine r_s (T:=[⟨[.old 2],_,[],[],[24]⟩,⟨[.old 0],_,[],[],[25]⟩,⟨[.old 6],_,[],[],[26]⟩,⟨[.op 1 0,.op 2 0],_,[],[1,2],[27]⟩,⟨[.op 3 0],_,[],[1,2,3],[28]⟩,⟨[.old 1],_,[],[],[29]⟩,⟨[.op 0 0,.op 4 0,.op 5 0],_,[],Lr 6,[30]⟩,⟨[.op 6 0],_,[],Lr 7,[31]⟩]) (F:=[.old 0,.old 1,.old 2,.old 3,.old 4,.old 5,.old 6,.old 7,.op 7 0]) hst hb Zb
      (o_p rfl (Za rfl rfl u_0)<|o_p rfl (Za rfl rfl u_0)<|o_p rfl (Za rfl rfl u_0)<|o_p rfl (Zbl Tryz.underlying36 Ze4 rfl rfl u_0 u_1 h5)<|o_p rfl (Zf Zea rfl rfl u_0)<|o_p rfl (Za rfl rfl u_0)<|o_p rfl (Zra e2_ (hφ2 _ _ _ h7) rfl rfl u_0 (.cons u_1 (.cons u_2 .nil)))<|o_p rfl (Zci rfl rfl u_0 c_i)<|o_n) (by kernel_rfl) (fun a g hst hb=>?_)
     refine wp_cond_split (hst.bool 8 rfl) (fun hc8=>?_) (fun hc8=>?_)
     ·replace H1:=Zv hc8 H1
      refine r_g (L:=[(0,_),(1,_),(2,_),(8,_),(10,_),(11,_),(12,_)]) (T:=[⟨[.old 5],_,[],[],[32]⟩,⟨[.op 0 0],_,[],[0],[33]⟩,⟨[.op 1 0],_,[],[0,1],[9]⟩]) (F:=[.old 0,.old 1,.old 2,.old 3,.op 2 0,.old 4,.old 6]) (hst.pick [0,1,2,3,5,6,7] rfl) hb Zb
       (o_p rfl (Za rfl rfl u_0)<|o_p rfl (Zb7 rfl rfl u_0 c_i rfl)<|o_p rfl (Zc rfl rfl u_0)<|o_n) (by kernel_rfl) (fun a g hst hb=>?_)
      refine Zbe ?_
      exact ⟨(IntKind.i64.wrap ((IntKind.i64.wrap (Int.fdiv (IntKind.u64.wrap (IntKind.i64.wrap (x1 + x2))) (2 ^ 1))) + (1:Int))),x2,g,rfl,(hst.pick [0,1,2,3,4,5,6] rfl),hb,H1⟩
     ·replace H1:=Zw hc8 H1
      refine r_g (L:=[(0,_),(1,_),(2,_),(8,_),(9,_),(11,_),(12,_)]) (T:=[⟨[.old 5],_,[],[],[34]⟩,⟨[.op 0 0],_,[],[0],[10]⟩]) (F:=[.old 0,.old 1,.old 2,.old 3,.old 4,.op 1 0,.old 6]) (hst.pick [0,1,2,3,4,6,7] rfl) hb Zb
       (o_p rfl (Za rfl rfl u_0)<|o_p rfl (Zc rfl rfl u_0)<|o_n) (by kernel_rfl) (fun a g hst hb=>?_)
      refine Zbe ?_
      exact ⟨x1,(IntKind.i64.wrap (Int.fdiv (IntKind.u64.wrap (IntKind.i64.wrap (x1 + x2))) (2 ^ 1))),g,rfl,(hst.pick [0,1,2,3,4,5,6] rfl),hb,H1⟩
   ·replace H1:=Zw hc3 H1
    refine wp_exit ?_
    refine Zb3 ?_
    refine Zb3 ?_
    refine Zcn ?_
    exact ⟨x1,g,rfl,(hst.pick [0,1,2,3,4,6] rfl),hb,Option.some.inj H1⟩
theorem Zwj (a0:Zl) (a1:ByteArray) {r:Int} (h:Zkd a0 a1=some r):FnOk Tryz.prog 138 [(Zz.pd a0),(pStr a1)] (pInt .i64 r):=by
 have H0:=h
 unfold Zkd at H0
 clear h
 refine Zbu (N:=15) Tryz.func138 rfl rfl (Nat.le_of_ble_eq_true rfl) rfl rfl (fun a g0 hst hb=>?_)
 refine r_s (T:=[⟨[.old 0],_,[],[],[2]⟩,⟨[],_,[],[],[4]⟩]) (F:=[.old 1,.op 0 0]) hst hb Zb
  (o_p rfl (Zbq rfl rfl u_0)<|o_p rfl (Zc rfl rfl c_i)<|o_n) (by kernel_rfl) (fun a g hst hb=>?_)
 refine wp_seq ?_
 refine wp_block ?_
 refine r_s (T:=[⟨[.old 1],_,[],[],[6]⟩,⟨[.op 0 0],_,[],[0],[7]⟩,⟨[.old 0],_,[],[],[8]⟩,⟨[.op 1 0,.op 2 0],_,[],[0,1,2],[9]⟩,⟨[.op 3 0],_,[],Lr 4,[5]⟩]) (F:=[.old 0,.old 1,.op 4 0]) hst hb Zb
  (o_p rfl (Zd Zd4 rfl rfl u_0)<|o_p rfl (Zf ty_9 rfl rfl u_0)<|o_p rfl (Za rfl rfl u_0)<|o_p rfl (Zm9 rfl rfl u_0 u_1)<|o_p rfl (Zc rfl rfl u_0)<|o_n) (by kernel_rfl) (fun a g hst hb=>?_)
 refine wp_cond_split (hst.bool 2 rfl) (fun hc1=>?_) (fun hc1=>?_)
 ·replace H0:=Zv hc1 H0
  refine r_s (L:=[]) (T:=[⟨[],_,[],[],[4]⟩]) (F:=[.op 0 0]) (hst.pick [] rfl) hb Zb
   (o_p rfl (Zc rfl rfl c_i)<|o_n) (by kernel_rfl) (fun a g hst hb=>?_)
  refine wp_ret ?_
  refine Z6 ?_
  refine Zr ?_
  obtain rfl:=Option.some.inj H0
  exact Z5 rfl hst hb (Zk (s:=4)) (hst.at 0 rfl)
 ·replace H0:=Zw hc1 H0
  refine r_s (L:=[(1,_),(2,_)]) (T:=[⟨[.old 1],_,[],[],[11]⟩,⟨[.op 0 0],_,[],[0],[12]⟩,⟨[.old 0],_,[],[],[13]⟩,⟨[.op 1 0,.op 2 0],_,[],[0,1,2],[14]⟩,⟨[.op 3 0],_,[],Lr 4,[10]⟩]) (F:=[.op 4 0]) (hst.pick [0,1] rfl) hb Zb
   (o_p rfl (Zd Zd4 rfl rfl u_0)<|o_p rfl (Zf ty_9 rfl rfl u_0)<|o_p rfl (Za rfl rfl u_0)<|o_p rfl (Zvk rfl rfl u_0 u_1)<|o_p rfl (Zc rfl rfl u_0)<|o_n) (by kernel_rfl) (fun a g hst hb=>?_)
  refine wp_cond_split (hst.bool 0 rfl) (fun hc2=>?_) (fun hc2=>?_)
  ·replace H0:=Zv hc2 H0
   refine r_s (L:=[]) (T:=[⟨[],_,[],[],[4]⟩]) (F:=[.op 0 0]) (hst.pick [] rfl) hb Zb
    (o_p rfl (Zc rfl rfl c_i)<|o_n) (by kernel_rfl) (fun a g hst hb=>?_)
   refine wp_ret ?_
   refine Z6 ?_
   refine Zr ?_
   obtain rfl:=Option.some.inj H0
   exact Z5 rfl hst hb (Zk (s:=4)) (hst.at 0 rfl)
  ·replace H0:=Zw hc2 H0
   refine wp_skip ?_
   refine Zbe ?_
   refine Zs ?_
   refine r_s (L:=[]) (T:=[⟨[],_,[],[],[4]⟩]) (F:=[.op 0 0]) (hst.pick [] rfl) hb Zb
    (o_p rfl (Zc rfl rfl c_i)<|o_n) (by kernel_rfl) (fun a g hst hb=>?_)
   refine wp_ret ?_
   obtain rfl:=Option.some.inj H0
   exact Z5 rfl hst hb (Zk (s:=4)) (hst.at 0 rfl)
theorem Zpi (a0:List Zl) (a1:ByteArray) {r:Int × Bool} (h:Zlu a0 a1=some r):FnOk Tryz.prog 128 [(Zz.sl.pd a0),(pStr a1)] (pTup [(pInt .i64 r.1),(Zbg r.2)]):=by
 have H0:=h
 unfold Zlu at H0
 clear h
 refine Zbu (N:=11) Tryz.func128 rfl rfl (Nat.le_of_ble_eq_true rfl) rfl rfl (fun a g0 hst hb=>?_)
 refine r_s (T:=[⟨[],_,[],[],[4]⟩,⟨[],_,[],[0],[5]⟩]) (F:=[.old 0,.old 1]) hst hb Zb
  (o_p rfl (Zc rfl rfl c_i)<|o_p rfl (Zc rfl rfl c_b)<|o_n) (by kernel_rfl) (fun a g hst hb=>?_)
 obtain ⟨r1,h2,H0⟩:=Zh H0
 refine r_s (T:=[⟨[.old 0],_,[],[],[6]⟩,⟨[.old 1],_,[],[],[7]⟩,⟨[.op 0 0,.op 1 0],_,[],[0,1],[8]⟩,⟨[.op 2 0],_,[],[0,1,2],[9]⟩,⟨[.op 2 0],_,[],[0,1,2],[10]⟩,⟨[.op 3 0],_,[],Lr 5,[4]⟩,⟨[.op 4 0],_,[],Lr 6,[5]⟩]) (F:=[.op 5 0,.op 6 0]) hst hb Zb
  (o_p rfl (Za rfl rfl u_0)<|o_p rfl (Za rfl rfl u_0)<|o_p rfl (Zo Z9r (Ziq 138 [] rfl Zba8 (fun y0 y1=>Zkd y0 y1) (fun y0 y1 r h=>Zwj y0 y1 h) _ _ h2) rfl rfl (.cons u_0 (.cons u_1 (.cons Opd.fnc .nil))))<|o_p rfl (Z0 rfl rfl u_0 rfl)<|o_p rfl (Z0 rfl rfl u_0 rfl)<|o_p rfl (Zc rfl rfl u_0)<|o_p rfl (Zc rfl rfl u_0)<|o_n) (by kernel_rfl) (fun a g hst hb=>?_)
 refine wp_ret ?_
 obtain rfl:=Option.some.inj H0
 exact Zdq rfl hst hb (Zk (s:=4)) (Zk (s:=5)) (Zcw (hst.at 0 rfl) (hst.at 1 rfl))
set_option maxHeartbeats 1000000 in
theorem Zit (a0:List Zl) (a1:Int) (a2:List Zl) {r:List Zl} (h:Zcm a0 a1 a2=some r):Zyo Tryz.prog 136 Zz 116 a0 [(pInt .i64 a1),(Zz.sl.pd a2)] (Zz.sl.pd r):=by
 unfold Zcm at h
 obtain ⟨⟨hi0,hi1,hm,hsz⟩,H0⟩:=Zfz h
 obtain rfl:=Option.some.inj H0
 obtain ⟨k,rfl⟩:=Int.eq_ofNat_of_zero_le hi0
 have hk:k ≤ a0.length:=by omega
 have hb0:(a0.length + a2.length) ≤ 140737488355328:=Nat.le_trans (Nat.le_mul_of_pos_right _ (by decide)) hsz
 simp only [Int.toNat_natCast]
 refine Zyz (N:=95) Tryz.func136 rfl rfl (Nat.le_of_ble_eq_true rfl) rfl (fun hx a g A0 hst hb=>?_) (fun a g cap hcap hmax hst hb=>?_)
 ·subst hx
  obtain rfl:k=0:=by simpa using hk
  refine r_s (T:=[⟨[],[(6,(Zz.sl.pd []))],[],[],[6]⟩]) (F:=[.old 0,.old 1,.old 2]) hst hb Zb
   (o_p rfl (Zc rfl rfl (Opd.c (fun g=>Zgv g)))<|o_n) (by kernel_rfl) (fun a g hst hb=>?_)
  refine r_s (T:=[⟨[.old 0],_,[],[],[10]⟩,⟨[.old 1],_,[],[],[11]⟩,⟨[.op 0 0,.op 1 0],_,[],[0,1],[12]⟩]) (F:=[.old 0,.old 1,.old 2]) hst hb Zb
   (o_p rfl (Za rfl rfl u_0)<|o_p rfl (Za rfl rfl u_0)<|o_p rfl (Z42 Zdl rfl u_0 u_1)<|o_n) (by kernel_rfl) (fun a g hst hb=>?_)
  refine r_s (T:=[⟨[.old 2],_,[],[],[13]⟩,⟨[.op 0 0],_,[],[0],[14]⟩,⟨[.op 1 0],_,[],[0,1],[7]⟩]) (F:=[.old 0,.old 1,.old 2,.op 2 0]) hst hb Zb
   (o_p rfl (Za rfl rfl u_0)<|o_p rfl (Zb1 Tryz.underlying36 rfl rfl u_0)<|o_p rfl (Zc rfl rfl u_0)<|o_n) (by kernel_rfl) (fun a g hst hb=>?_)
  refine wp_seq ?_
  refine r_s (T:=[⟨[.old 3],_,[],[],[15]⟩,⟨[.op 0 0],_,[],[0],[16]⟩]) (F:=[.old 0,.old 1,.old 2,.old 3,.op 1 0]) hst hb Zb
   (o_p rfl (Za rfl rfl u_0)<|o_p rfl (Zbs rfl rfl u_0 c_i)<|o_n) (by kernel_rfl) (fun a g hst hb=>?_)
  refine wp_cond_split (hst.bool 4 rfl) (fun hc=>?_) (fun hc=>?_)
  ·exact absurd (beq_iff_eq.1 hc) (by omega)
  ·refine wp_skip ?_
   refine Zs ?_
   refine r_s (L:=[(0,_),(1,_),(2,_),(7,_)]) (T:=[⟨[.old 0],_,[],[],[18]⟩,⟨[.op 0 0],_,[],[0],[19]⟩,⟨[.op 1 0],_,[],[0,1],[8]⟩]) (F:=[.old 0,.old 1,.old 2,.old 3,.op 2 0]) (hst.pick [0,1,2,3] rfl) hb Zb
    (o_p rfl (Za rfl rfl u_0)<|o_p rfl (Z89 Tryz.underlying36 rfl rfl u_0)<|o_p rfl (Zc rfl rfl u_0)<|o_n) (by kernel_rfl) (fun a g hst hb=>?_)
   refine wp_seq ?_
   refine r_s (T:=[⟨[.old 1],_,[],[],[20]⟩,⟨[.old 4],_,[],[],[21]⟩,⟨[.op 0 0,.op 1 0],_,[],[0,1],[22]⟩]) (F:=[.old 0,.old 1,.old 2,.old 3,.old 4,.op 2 0]) hst hb Zb
    (o_p rfl (Za rfl rfl u_0)<|o_p rfl (Za rfl rfl u_0)<|o_p rfl (Zbs rfl rfl u_0 u_1)<|o_n) (by kernel_rfl) (fun a g hst hb=>?_)
   refine wp_cond_split (hst.bool 5 rfl) (fun hc=>?_) (fun hc=>?_)
   ·refine r_s (L:=[(0,_),(2,_)]) (T:=[⟨[.old 0],_,[],[],[23]⟩,⟨[.old 1],_,[],[],[24]⟩,⟨[.op 0 0,.op 1 0],[(25,(pOwn Zz 116 25 none (a2.map some)))],[26],[0,1],[25]⟩,⟨[.op 2 0],_,[],[0,1,2],[6]⟩]) (F:=[.op 3 0]) (hst.pick [0,2] rfl) hb Zb
     (o_p rfl (Za rfl rfl u_0)<|o_p rfl (Za rfl rfl u_0)<|o_p rfl (Z3m Zdl rfl rfl u_0 u_1 hm (by simpa using hsz))<|o_p rfl (Zc rfl rfl u_0)<|o_n) (by kernel_rfl) (fun a g hst hb=>?_)
    refine wp_ret ?_
    refine Zr ?_
    have hq:=hst.at 0 rfl
    have he:([]:List Zl).take 0 ++ a2 ++ ([]:List Zl).drop 0=a2:=by simp
    rw [he]
    exact Zqo rfl hst hb (Zk (s:=6)) hq
   ·exact absurd hc (by simp)
 ·refine r_s (T:=[⟨[],[(6,(Zz.sl.pd []))],[],[],[6]⟩]) (F:=[.old 0,.old 1,.old 2]) hst hb Zb
   (o_p rfl (Zc rfl rfl (Opd.c (fun g=>Zgv g)))<|o_n) (by kernel_rfl) (fun a g hst hb=>?_)
  refine r_s (T:=[⟨[.old 0],_,[],[],[10]⟩,⟨[.old 1],_,[],[],[11]⟩,⟨[.op 0 0,.op 1 0],_,[],[0,1],[12]⟩]) (F:=[.old 0,.old 1,.old 2]) hst hb Zb
   (o_p rfl (Za rfl rfl u_0)<|o_p rfl (Za rfl rfl u_0)<|o_p rfl (Zh5 Zdl (by simpa using hk) rfl rfl u_0 u_1)<|o_n) (by kernel_rfl) (fun a g hst hb=>?_)
  refine r_s (T:=[⟨[.old 2],_,[],[],[13]⟩,⟨[.op 0 0],_,[],[0],[14]⟩,⟨[.op 1 0],_,[],[0,1],[7]⟩]) (F:=[.old 0,.old 1,.old 2,.op 2 0]) hst hb Zb
   (o_p rfl (Za rfl rfl u_0)<|o_p rfl (Zb1 Tryz.underlying36 rfl rfl u_0)<|o_p rfl (Zc rfl rfl u_0)<|o_n) (by kernel_rfl) (fun a g hst hb=>?_)
  refine wp_seq ?_
  refine r_s (T:=[⟨[.old 3],_,[],[],[15]⟩,⟨[.op 0 0],_,[],[0],[16]⟩]) (F:=[.old 0,.old 1,.old 2,.old 3,.op 1 0]) hst hb Zb
   (o_p rfl (Za rfl rfl u_0)<|o_p rfl (Zbs rfl rfl u_0 c_i)<|o_n) (by kernel_rfl) (fun a g hst hb=>?_)
  refine wp_cond_split (hst.bool 4 rfl) (fun hc=>?_) (fun hc=>?_)
  ·exact absurd (beq_iff_eq.1 hc) (by omega)
  ·refine wp_skip ?_
   refine Zs ?_
   refine r_s (L:=[(0,_),(1,_),(2,_),(7,_)]) (T:=[⟨[.old 0],_,[],[],[18]⟩,⟨[.op 0 0],_,[],[0],[19]⟩,⟨[.op 1 0],_,[],[0,1],[8]⟩]) (F:=[.old 0,.old 1,.old 2,.old 3,.op 2 0]) (hst.pick [0,1,2,3] rfl) hb Zb
    (o_p rfl (Za rfl rfl u_0)<|o_p rfl (Ztl Tryz.underlying36 rfl rfl u_0)<|o_p rfl (Zc rfl rfl u_0)<|o_n) (by kernel_rfl) (fun a g hst hb=>?_)
   refine wp_seq ?_
   refine r_s (T:=[⟨[.old 1],_,[],[],[20]⟩,⟨[.old 4],_,[],[],[21]⟩,⟨[.op 0 0,.op 1 0],_,[],[0,1],[22]⟩]) (F:=[.old 0,.old 1,.old 2,.old 3,.old 4,.op 2 0]) hst hb Zb
    (o_p rfl (Za rfl rfl u_0)<|o_p rfl (Za rfl rfl u_0)<|o_p rfl (Zbs rfl rfl u_0 u_1)<|o_n) (by kernel_rfl) (fun a g hst hb=>?_)
   refine wp_cond_split (hst.bool 5 rfl) (fun hc=>?_) (fun hc=>?_)
   ·refine r_s (L:=[(0,_),(2,_)]) (T:=[⟨[.old 0],_,[],[],[23]⟩,⟨[.old 1],_,[],[],[24]⟩,⟨[.op 0 0,.op 1 0],_,[1],[0,1],[25,0,23]⟩,⟨[.op 2 0],_,[],[0,1,2],[6]⟩]) (F:=[.op 3 0]) (hst.pick [0,2] rfl) hb Zb
     (o_p rfl (Za rfl rfl u_0)<|o_p rfl (Za rfl rfl u_0)<|o_p rfl (Zoz Zdl rfl rfl u_0 u_1 hsz)<|o_p rfl (Zc rfl rfl u_0)<|o_n) (by kernel_rfl) (fun a g hst hb=>?_)
    refine wp_ret ?_
    refine Zr ?_
    have hq:=hst.at 0 rfl
    have hkn:=beq_iff_eq.1 hc
    simp only [List.length_map] at hkn
    have hkn:k=a0.length:=by omega
    have he:a0.take k ++ a2 ++ a0.drop k=a0 ++ a2:=by simp [hkn]
    rw [he]
    exact Zqo rfl hst hb (Zk (s:=6)) hq
   ·have hkn:k ≠ a0.length:=fun h=>(beq_eq_false_iff_ne.1 hc) (by simp only [List.length_map];omega)
    refine wp_skip ?_
    refine Zs ?_
    refine wp_seq ?_
    refine r_s (L:=[(0,_),(1,_),(2,_),(7,_),(8,_)]) (T:=[⟨[.old 4],_,[],[],[26]⟩,⟨[.old 3],_,[],[],[27]⟩,⟨[.op 0 0,.op 1 0],_,[],[0,1],[28]⟩,⟨[.old 0],_,[],[],[29]⟩,⟨[.op 3 0],_,[],[3],[30]⟩,⟨[.op 2 0,.op 4 0],_,[],[0,1,2,3,4],[31]⟩]) (F:=[.old 0,.old 1,.old 2,.old 3,.old 4,.op 5 0]) (hst.pick [0,1,2,3,4] rfl) hb Zb
     (o_p rfl (Za rfl rfl u_0)<|o_p rfl (Za rfl rfl u_0)<|o_p rfl (Zb7 rfl rfl u_0 u_1 (Ztc (by simp only [List.length_map];omega)))<|o_p rfl (Za rfl rfl u_0)<|o_p rfl (Z8m Tryz.underlying36 rfl rfl u_0)<|o_p rfl (Zcu rfl rfl u_0 u_1)<|o_n) (by kernel_rfl) (fun a g hst hb=>?_)
    refine wp_cond_split (hst.bool 5 rfl) (fun hc2=>?_) (fun hc2=>?_)
    ·have hgr:cap < k + (a0.length + a2.length - k):=by have:=of_decide_eq_true hc2;simp only [List.length_map] at this;omega
     refine r_s (L:=[(0,_),(1,_),(2,_),(7,_),(8,_)]) (T:=[⟨[.old 0],_,[],[],[32]⟩,⟨[.old 1],_,[],[],[33]⟩,⟨[.op 0 0,.op 1 0],_,[],[0,1],[34]⟩,⟨[.old 4],_,[],[],[35]⟩,⟨[.old 3],_,[],[],[36]⟩,⟨[.op 3 0,.op 4 0],_,[],[3,4],[37]⟩,⟨[.old 1],_,[],[],[38]⟩,⟨[.op 5 0,.op 6 0],_,[],[3,4,5,6],[39]⟩,⟨[.op 2 0,.op 7 0,.old 0],[(40,(pOwn Zz 116 40 none ((a0.take k).map some ++ List.replicate (a0.length + a2.length - k) none)))],[41],[0,1,2,3,4,5,6,7],[40]⟩,⟨[.op 8 0],_,[],[0,1,2,3,4,5,6,7,8],[9]⟩]) (F:=[.old 0,.old 1,.old 2,.old 3,.op 9 0]) (hst.pick [0,1,2,3,4] rfl) hb Zb
      (o_p rfl (Za rfl rfl u_0)<|o_p rfl (Za rfl rfl u_0)<|o_p rfl (Zsy Zdl (by simpa using hk) rfl rfl u_0 u_1)<|o_p rfl (Za rfl rfl u_0)<|o_p rfl (Za rfl rfl u_0)<|o_p rfl (Zb7 rfl rfl u_0 u_1 (Ztc (by simp only [List.length_map];omega)))<|o_p rfl (Za rfl rfl u_0)<|o_p rfl (Zg7 rfl rfl u_0 u_1 (Z9x (n:=a0.length + a2.length) (by simp only [List.length_map]) (by omega) (by omega)))<|o_p rfl (Z3b (s:=0) (d2:=40) (xs:=a0.take k) Zdl Tryz.underlying3 (by simp;omega) (by simp;omega) (by omega) hgr (by rw [show k + (a0.length + a2.length - k)=a0.length + a2.length by omega];exact hsz) (Zvw a0 k) rfl rfl u_0 u_1 u_2)<|o_p rfl (Zc rfl rfl u_0)<|o_n) (by kernel_rfl) (fun a g hst hb=>?_)
     have hl1:(((a0.take k).map some ++ List.replicate (a0.length + a2.length - k) none):List (Option Zl)).length=a0.length + a2.length:=by simp;omega
     refine r_s (T:=[⟨[.old 4],_,[],[],[41]⟩,⟨[.old 1],_,[],[],[42]⟩,⟨[.op 0 0,.op 1 0],_,[],[0,1],[43]⟩,⟨[.old 2],_,[],[],[44]⟩,⟨[.op 2 0,.op 3 0,.old 4],_,[41],[0,1,2,3],[45,9,41,43]⟩]) (F:=[.old 0,.old 1,.old 2,.old 3,.op 4 1]) hst hb Zb
      (o_p rfl (Za rfl rfl u_0)<|o_p rfl (Za rfl rfl u_0)<|o_p rfl (Zh5 Zdl (by rw [hl1];omega) rfl rfl u_0 u_1)<|o_p rfl (Za rfl rfl u_0)<|o_p rfl (Zzy (s:=9) Zdl (by rw [hl1];omega) (by rw [hl1];omega) rfl rfl (by decide) u_0 u_1 u_2)<|o_n) (by kernel_rfl) (fun a g hst hb=>?_)
     have hl2:(over (((a0.take k).map some ++ List.replicate (a0.length + a2.length - k) none):List (Option Zl)) k a2).length=a0.length + a2.length:=by rw [Zmq (by rw [hl1];omega),hl1]
     refine r_s (T:=[⟨[.old 4],_,[],[],[46]⟩,⟨[.old 1],_,[],[],[47]⟩,⟨[.old 3],_,[],[],[48]⟩,⟨[.op 1 0,.op 2 0],_,[],[1,2],[49]⟩,⟨[.op 0 0,.op 3 0],_,[],[0,1,2,3],[50]⟩,⟨[.old 0],_,[],[],[51]⟩,⟨[.old 1],_,[],[],[52]⟩,⟨[.op 5 0,.op 6 0],_,[],[5,6],[53]⟩,⟨[.op 4 0,.op 7 0,.old 4,.old 0],_,[41],[0,1,2,3,4,5,6,7],[54,9,46,50]⟩]) (F:=[.op 8 1]) hst hb Zb
      (o_p rfl (Za rfl rfl u_0)<|o_p rfl (Za rfl rfl u_0)<|o_p rfl (Za rfl rfl u_0)<|o_p rfl (Zb7 rfl rfl u_0 u_1 (Ztc (by omega)))<|o_p rfl (Zh5 Zdl (by rw [hl2];omega) rfl rfl u_0 u_1)<|o_p rfl (Za rfl rfl u_0)<|o_p rfl (Za rfl rfl u_0)<|o_p rfl (Zh5 Zdl (by simpa using hk) rfl rfl u_0 u_1)<|o_p rfl (Z0h (s:=9) (s2:=0) (ws:=a0.drop k) Zdl (by rw [hl2];omega) (by simp;omega) (by rw [hl2,List.length_map,List.length_drop];exact (Nat.min_eq_left (by omega)).symm) (fun i x hx=>by rw [List.getElem?_drop] at hx;rw [List.getElem?_map,hx];rfl) rfl rfl (by decide) u_0 u_1 u_2 u_3)<|o_n) (by kernel_rfl) (fun a g hst hb=>?_)
     refine r_s (T:=[⟨[.old 0],_,[],[],[55]⟩,⟨[.op 0 0],_,[],[0],[6]⟩]) (F:=[.op 1 0]) hst hb Zb
      (o_p rfl (Za rfl rfl u_0)<|o_p rfl (Zc rfl rfl u_0)<|o_n) (by kernel_rfl) (fun a g hst hb=>?_)
     refine wp_ret ?_
     refine Zr ?_
     have hq:=hst.at 0 rfl
     rw [ins1 hk] at hq
     exact Zqo rfl hst hb (Zk (s:=6)) hq
    ·have hroom:a0.length + a2.length ≤ cap:=by have:=of_decide_eq_false hc2;simp only [List.length_map] at this;omega
     refine wp_skip ?_
     refine Zs ?_
     refine r_s (L:=[(0,_),(1,_),(2,_),(7,_),(8,_)]) (T:=[⟨[.old 0],_,[],[],[56]⟩,⟨[.old 4],_,[],[],[57]⟩,⟨[.old 3],_,[],[],[58]⟩,⟨[.op 1 0,.op 2 0],_,[],[1,2],[59]⟩,⟨[.op 0 0,.op 3 0],[(60,(pOwn Zz 116 0 (some cap) (a0.map some ++ List.replicate (a0.length + a2.length - (a0.map some).length) none)))],[],[0,1,2,3],[60]⟩,⟨[.op 4 0],_,[],[0,1,2,3,4],[0]⟩]) (F:=[.op 5 0,.old 1,.old 2,.old 3]) (hst.pick [0,1,2,3,4] rfl) hb Zb
      (o_p rfl (Za rfl rfl u_0)<|o_p rfl (Za rfl rfl u_0)<|o_p rfl (Za rfl rfl u_0)<|o_p rfl (Zb7 rfl rfl u_0 u_1 (Ztc (by simp only [List.length_map];omega)))<|o_p rfl (Z1c (h:=a0.length + a2.length) Zdl (by simp) hroom rfl rfl u_0 (Opd.to u_1 (by simp)))<|o_p rfl (Zc rfl rfl u_0)<|o_n) (by kernel_rfl) (fun a g hst hb=>?_)
     have hl1:((a0.map some ++ List.replicate (a0.length + a2.length - (a0.map some).length) none):List (Option Zl)).length=a0.length + a2.length:=by simp
     refine wp_seq ?_
     refine r_s (T:=[⟨[.old 2],_,[],[],[61]⟩,⟨[.old 0],_,[],[],[62]⟩,⟨[.old 1],_,[],[],[63]⟩,⟨[.old 3],_,[],[],[64]⟩,⟨[.op 2 0,.op 3 0],_,[],[2,3],[65]⟩,⟨[.op 1 0,.op 4 0],_,[],[1,2,3,4],[66]⟩,⟨[.op 0 0,.op 5 0,.old 0],_,[],[0,1,2,3,4,5],[67]⟩,⟨[.op 6 0],_,[],[0,1,2,3,4,5,6],[68]⟩]) (F:=[.old 0,.old 1,.old 2,.old 3,.op 7 0]) hst hb Zb
      (o_p rfl (Za rfl rfl u_0)<|o_p rfl (Za rfl rfl u_0)<|o_p rfl (Za rfl rfl u_0)<|o_p rfl (Za rfl rfl u_0)<|o_p rfl (Zb7 rfl rfl u_0 u_1 (Ztc (by omega)))<|o_p rfl (Zh5 Zdl (by rw [hl1];omega) rfl rfl u_0 u_1)<|o_p rfl (Z08 (s:=0) Zdl rfl Zban (by rw [hl1];omega) rfl rfl u_0 u_1 u_2)<|o_p rfl (Zb2 rfl rfl u_0)<|o_n) (by kernel_rfl) (fun a g hst hb=>?_)
     refine wp_cond_split (hst.bool 4 rfl) (fun hc3=>?_) (fun hc3=>absurd hc3 (by simp))
     refine r_s (L:=[(0,_),(1,_),(2,_),(7,_)]) (T:=[⟨[.old 0],_,[],[],[69]⟩,⟨[.old 1],_,[],[],[70]⟩,⟨[.old 3],_,[],[],[71]⟩,⟨[.op 1 0,.op 2 0],_,[],[1,2],[72]⟩,⟨[.op 0 0,.op 3 0],_,[],[0,1,2,3],[73]⟩,⟨[.old 0],_,[],[],[74]⟩,⟨[.old 1],_,[],[],[75]⟩,⟨[.op 5 0,.op 6 0],_,[],[5,6],[76]⟩,⟨[.op 4 0,.op 7 0,.old 0,.old 0],_,[1],[0,1,2,3,4,5,6,7],[77,0,69,73,74,76]⟩]) (F:=[.op 8 1,.old 1,.old 2,.old 3]) (hst.pick [0,1,2,3] rfl) hb Zb
      (o_p rfl (Za rfl rfl u_0)<|o_p rfl (Za rfl rfl u_0)<|o_p rfl (Za rfl rfl u_0)<|o_p rfl (Zb7 rfl rfl u_0 u_1 (Ztc (by omega)))<|o_p rfl (Zh5 Zdl (by rw [hl1];omega) rfl rfl u_0 u_1)<|o_p rfl (Za rfl rfl u_0)<|o_p rfl (Za rfl rfl u_0)<|o_p rfl (Zh5 Zdl (by rw [hl1];omega) rfl rfl u_0 u_1)<|o_p rfl (Z0h (s:=0) (s2:=0) (ws:=a0.drop k) Zdl (by rw [hl1];omega) (by rw [hl1];omega) (by rw [hl1,List.length_drop];have hm1:Nat.min (a0.length + a2.length - k) (a0.length + a2.length - (k + a2.length))=a0.length + a2.length - (k + a2.length):=Nat.min_eq_right (by omega);rw [hm1];omega) (fun i x hx=>by have hi:=(List.getElem?_eq_some_iff.1 hx).1;rw [List.length_drop] at hi;rw [List.getElem?_drop] at hx;rw [List.getElem?_append_left (by simp;omega),List.getElem?_map,hx];rfl) rfl rfl (by decide) u_0 u_1 u_2 u_3)<|o_n) (by kernel_rfl) (fun a g hst hb=>?_)
     have hl2:(over ((a0.map some ++ List.replicate (a0.length + a2.length - (a0.map some).length) none):List (Option Zl)) (k + a2.length) (a0.drop k)).length=a0.length + a2.length:=by rw [Zmq (by rw [hl1,List.length_drop];omega),hl1]
     refine r_s (T:=[⟨[.old 0],_,[],[],[78]⟩,⟨[.old 1],_,[],[],[79]⟩,⟨[.op 0 0,.op 1 0],_,[],[0,1],[80]⟩,⟨[.old 2],_,[],[],[81]⟩,⟨[.op 2 0,.op 3 0,.old 0],_,[1],[0,1,2,3],[82,0,78,80]⟩]) (F:=[.op 4 1]) hst hb Zb
      (o_p rfl (Za rfl rfl u_0)<|o_p rfl (Za rfl rfl u_0)<|o_p rfl (Zh5 Zdl (by rw [hl2];omega) rfl rfl u_0 u_1)<|o_p rfl (Za rfl rfl u_0)<|o_p rfl (Zzy (s:=0) Zdl (by rw [hl2];omega) (by rw [hl2];omega) rfl rfl (by decide) u_0 u_1 u_2)<|o_n) (by kernel_rfl) (fun a g hst hb=>?_)
     refine r_s (T:=[⟨[.old 0],_,[],[],[83]⟩,⟨[.op 0 0],_,[],[0],[6]⟩]) (F:=[.op 1 0]) hst hb Zb
      (o_p rfl (Za rfl rfl u_0)<|o_p rfl (Zc rfl rfl u_0)<|o_n) (by kernel_rfl) (fun a g hst hb=>?_)
     refine wp_ret ?_
     refine Zr ?_
     have hq:=hst.at 0 rfl
     rw [ins2 hk] at hq
     exact Zqo rfl hst hb (Zk (s:=6)) hq
theorem Zy2 (a0:Ze) (a1:Zu) (a2:Zg) {r:Int × Ze × Zg} (h:Zlo a0 a1 a2=some r):FnB Tryz.prog 126 [.box Zi a0 r.2.1,.val (Z4.pd a1),.box Zm a2 r.2.2] (pInt .i64 r.1):=by
 have H0:=h
 unfold Zlo at H0
 clear h
 refine Zkq (N:=46) Tryz.func126 rfl rfl (Nat.le_of_ble_eq_true rfl) rfl rfl (fun a g0 bs hbs hst hb=>?_)
 obtain ⟨b0,b2,rfl⟩:=Zl5 hbs
 replace hst:St 46 [(0,(Zcf (some b0) Zi 0 a0)),(1,(Z4.pd a1)),(2,(Zcf (some b2) Zm 2 a2))] _ _:=hst
 refine r_s (T:=[⟨[.old 1],_,[],[],[4]⟩,⟨[],_,[],[],[6]⟩]) (F:=[.old 0,.old 2,.op 0 0]) hst hb Zb
  (o_p rfl (Zbq rfl rfl u_0)<|o_p rfl (Zc rfl rfl c_i)<|o_n) (by kernel_rfl) (fun a g hst hb=>?_)
 obtain ⟨r1,h2,H0⟩:=Zh H0
 refine r_s (T:=⟨[.old 0],_,[],[],[10]⟩ :: ⟨[.op 0 0],_,[],[0],[11]⟩ :: ⟨[.op 1 0],_,[],[0,1],[12]⟩ :: ⟨[.op 2 0],_,[],[0,1,2],[13]⟩ :: ⟨[.old 2],_,[],[],[14]⟩ :: ⟨[.op 4 0],_,[],[4],[15]⟩ :: ⟨[.op 3 0,.op 5 0],_,[],Lr 6,[16]⟩ :: ⟨[.op 6 0],_,[],Lr 7,[9]⟩ :: ⟨[.op 7 0],_,[],Lr 8,[17]⟩ :: ⟨[.op 7 0],_,[],Lr 8,[18]⟩ :: ⟨[.op 8 0],_,[],Lr 9,[7]⟩ :: ⟨[.op 9 0],_,[],Lr 11,[8]⟩ :: []) (F:=[.old 0,.old 1,.old 2,.op 10 0,.op 11 0]) hst hb Zb
  (o_p rfl (Za rfl rfl u_0)<|o_p rfl (Zq rfl rfl u_0 (fun _ _ ⟨_,_,_,e,_⟩=>⟨_,e⟩))<|o_p rfl (Zt Zce (off:=7) (by kernel_rfl) rfl rfl u_0)<|o_p rfl (Zbr Zc7 rfl rfl u_0)<|o_p rfl (Zd Zf0 rfl rfl u_0)<|o_p rfl (Zf ty_9 rfl rfl u_0)<|o_p rfl (Zo Z0e (Zpi _ _ h2) rfl rfl (.cons u_0 (.cons u_1 .nil)))<|o_p rfl (Za rfl rfl u_0)<|o_p rfl (Z0 rfl rfl u_0 rfl)<|o_p rfl (Z0 rfl rfl u_0 rfl)<|o_p rfl (Zc rfl rfl u_0)<|o_p rfl (Zc rfl rfl u_0)<|o_n) (by kernel_rfl) (fun a g hst hb=>?_)
 refine wp_seq ?_
 refine wp_block ?_
 refine r_s (T:=[⟨[.old 4],_,[],[],[20]⟩,⟨[.op 0 0],_,[],[0],[19]⟩]) (F:=[.old 0,.old 1,.old 2,.old 3,.op 1 0]) hst hb Zb
  (o_p rfl (Za rfl rfl u_0)<|o_p rfl (Zc rfl rfl u_0)<|o_n) (by kernel_rfl) (fun a g hst hb=>?_)
 refine wp_cond_split (hst.bool 4 rfl) (fun hc3=>?_) (fun hc3=>?_)
 ·replace H0:=Zv hc3 H0
  refine r_s (L:=[(0,_),(2,_)]) (T:=[⟨[],_,[],[],[6]⟩]) (F:=[.old 0,.old 1,.op 0 0]) (hst.pick [0,1] rfl) hb Zb
   (o_p rfl (Zc rfl rfl c_i)<|o_n) (by kernel_rfl) (fun a g hst hb=>?_)
  refine wp_ret ?_
  refine Z6 ?_
  refine Zr ?_
  obtain rfl:=Option.some.inj H0
  exact Zig rfl hst hb (Zk (s:=6)) (hst.at 2 rfl) ⟨Zc2 (hst.at 0 rfl),Zc2 (hst.at 1 rfl),trivial⟩
 ·replace H0:=Zw hc3 H0
  refine r_s (L:=[(0,_),(2,_),(4,_),(7,_)]) (T:=[⟨[.old 0],_,[],[],[22]⟩,⟨[.op 0 0],_,[],[0],[23]⟩,⟨[.op 1 0],_,[],[0,1],[24]⟩,⟨[.op 2 0],_,[],[0,1,2],[25]⟩,⟨[.op 3 0],_,[],Lr 4,[26]⟩,⟨[.old 0],_,[],[],[27]⟩,⟨[.op 5 0],_,[],[5],[28]⟩,⟨[.op 6 0],_,[],[5,6],[29]⟩,⟨[.op 7 0],_,[],[5,6,7],[30]⟩,⟨[.op 4 0,.op 8 0],_,[],Lr 9,[31]⟩,⟨[.op 9 0],_,[],Lr 10,[21]⟩]) (F:=[.old 0,.old 1,.old 2,.old 3,.op 10 0]) (hst.pick [0,1,2,3] rfl) hb Zb
   (o_p rfl (Za rfl rfl u_0)<|o_p rfl (Zq rfl rfl u_0 (fun _ _ ⟨_,_,_,e,_⟩=>⟨_,e⟩))<|o_p rfl (Zt Zce (off:=7) (by kernel_rfl) rfl rfl u_0)<|o_p rfl (Zbr Zc7 rfl rfl u_0)<|o_p rfl (Zb1 Tryz.underlying36 rfl rfl u_0)<|o_p rfl (Za rfl rfl u_0)<|o_p rfl (Zq rfl rfl u_0 (fun _ _ ⟨_,_,_,e,_⟩=>⟨_,e⟩))<|o_p rfl (Zt Zgz (off:=5) (by kernel_rfl) rfl rfl u_0)<|o_p rfl (Zbr ty_3 rfl rfl u_0)<|o_p rfl (Zmn rfl rfl u_0 u_1)<|o_p rfl (Zc rfl rfl u_0)<|o_n) (by kernel_rfl) (fun a g hst hb=>?_)
  refine wp_cond_split (hst.bool 4 rfl) (fun hc4=>?_) (fun hc4=>?_)
  ·replace H0:=Zv hc4 H0
   refine r_s (L:=[(0,_),(2,_)]) (T:=[⟨[],_,[],[],[6]⟩]) (F:=[.old 0,.old 1,.op 0 0]) (hst.pick [0,1] rfl) hb Zb
    (o_p rfl (Zc rfl rfl c_i)<|o_n) (by kernel_rfl) (fun a g hst hb=>?_)
   refine wp_ret ?_
   refine Z6 ?_
   refine Zr ?_
   obtain rfl:=Option.some.inj H0
   exact Zig rfl hst hb (Zk (s:=6)) (hst.at 2 rfl) ⟨Zc2 (hst.at 0 rfl),Zc2 (hst.at 1 rfl),trivial⟩
  ·replace H0:=Zw hc4 H0
   refine wp_skip ?_
   refine Zbe ?_
   refine Zs ?_
   obtain ⟨r5,h6,H0⟩:=Zh H0;obtain ⟨r7,h8,H0⟩:=Zh H0
   refine r_s (L:=[(0,_),(2,_),(4,_),(7,_)]) (T:=⟨[.old 0],_,[],[],[32]⟩ :: ⟨[.old 0],_,[],[],[33]⟩ :: ⟨[.op 1 0],_,[],[1],[34]⟩ :: ⟨[.op 2 0],_,[],[1,2],[35]⟩ :: ⟨[.op 3 0],_,[],[1,2,3],[36]⟩ :: ⟨[.op 4 0],_,[38],List.range' 1 4,[37]⟩ :: ⟨[.old 3],_,[],[],[38]⟩ :: ⟨[.old 2],_,[],[],[39]⟩ :: ⟨[.op 7 0],_,[],[7],[40]⟩ :: ⟨[.op 8 0],_,[],[7,8],[41]⟩ :: ⟨[.op 9 0],_,[],[7,8,9],[42]⟩ :: ⟨[.op 5 0,.op 6 0,.op 10 0],_,[38],List.range' 1 10,[37,43]⟩ :: ⟨[.op 0 0],_,[],Lr 12,[44]⟩ :: ⟨[.op 12 0],_,[],Lr 13,[45]⟩ :: ⟨[.op 11 0,.op 13 0,.old 0],_,[1],Lr 14,[0,32,33,34,35,44,45]⟩ :: []) (F:=[.op 14 0,.old 1]) (hst.pick [0,1,2,3] rfl) hb Zb
    (o_p rfl (Za rfl rfl u_0)<|o_p rfl (Za rfl rfl u_0)<|o_p rfl (Zq rfl rfl u_0 (fun _ _ ⟨_,_,_,e,_⟩=>⟨_,e⟩))<|o_p rfl (Zt Zce (off:=7) (by kernel_rfl) rfl rfl u_0)<|o_p rfl (Zbr Zc7 rfl rfl u_0)<|o_p rfl (Zl2 (j:=37) Zyl (Zf2 _ h6) rfl rfl (.cons u_0 .nil))<|o_p rfl (Za rfl rfl u_0)<|o_p rfl (Zd Zf0 rfl rfl u_0)<|o_p rfl (Zf ty_9 rfl rfl u_0)<|o_p rfl (Zzr rfl rfl u_0)<|o_p rfl (Ziw Zdl (xs:=[.tmp 41]) (.cons u_0 .nil) (by decide) rfl rfl)<|o_p rfl (Zq4 Z4n (Zit _ _ _ h8) rfl rfl rfl u_0 (.cons u_1 (.cons u_2 .nil)))<|o_p rfl (Zq rfl rfl u_0 (fun _ _ ⟨_,_,_,e,_⟩=>⟨_,e⟩))<|o_p rfl (Zt Zce (off:=7) (by kernel_rfl) rfl rfl u_0)<|o_p rfl (Zmz Zc7 rfl rfl u_2 u_1 u_0)<|o_n) (by kernel_rfl) (fun a g hst hb=>?_)
   refine r_s (T:=[⟨[],_,[],[],[6]⟩]) (F:=[.old 0,.old 1,.op 0 0]) hst hb Zb
    (o_p rfl (Zc rfl rfl c_i)<|o_n) (by kernel_rfl) (fun a g hst hb=>?_)
   refine wp_ret ?_
   obtain rfl:=Option.some.inj H0
   exact Zig rfl hst hb (Zk (s:=6)) (hst.at 2 rfl) ⟨Zc2 (hst.at 0 rfl),Zc2 (hst.at 1 rfl),trivial⟩
theorem Zmi (a0:List Zl) (a1 a2:Int) {r:List Zl} (h:Zfl a0 a1 a2=some r):Zyo Tryz.prog 129 Zz 116 a0 [(pInt .i64 a1),(pInt .i64 a2)] (Zz.sl.pd r):=by
 unfold Zfl at h
 obtain ⟨⟨hpos,hi0,hij,hj,hsz⟩,H0⟩:=Zfz h
 obtain rfl:=Option.some.inj H0
 obtain ⟨k,rfl⟩:=Int.eq_ofNat_of_zero_le hi0
 obtain ⟨l,rfl⟩:=Int.eq_ofNat_of_zero_le (Int.le_trans hi0 hij)
 have hkl:k ≤ l:=by omega
 have hl:l ≤ a0.length:=by omega
 simp only [Int.toNat_natCast]
 refine Zyz (N:=33) Tryz.func129 rfl rfl (Nat.le_of_ble_eq_true rfl) rfl (fun hx a g A0 hst hb=>?_) (fun a g cap hcap hmax hst hb=>?_)
 ·rw [hx] at hpos;cases hpos
 ·refine r_s (T:=[⟨[],[(6,(Zz.sl.pd []))],[],[],[6]⟩]) (F:=[.old 0,.old 1,.old 2]) hst hb Zb
   (o_p rfl (Zc rfl rfl (Opd.c (fun g=>Zgv g)))<|o_n) (by kernel_rfl) (fun a g hst hb=>?_)
  refine r_s (T:=[⟨[.old 0],_,[],[],[8]⟩,⟨[.old 1],_,[],[],[9]⟩,⟨[.old 2],_,[],[],[10]⟩,⟨[.old 0],_,[],[],[11]⟩,⟨[.op 3 0],_,[],[3],[12]⟩,⟨[.op 0 0,.op 1 0,.op 2 0,.op 4 0],[],[],[0,1,2,3,4],[13]⟩]) (F:=[.old 0,.old 1,.old 2]) hst hb Zb
   (o_p rfl (Za rfl rfl u_0)<|o_p rfl (Za rfl rfl u_0)<|o_p rfl (Za rfl rfl u_0)<|o_p rfl (Za rfl rfl u_0)<|o_p rfl (Ztl Tryz.underlying36 rfl rfl u_0)<|o_p rfl (Z4d Zdl hkl (by simpa using hl) (Nat.le_refl _) rfl u_0 u_1 u_2 u_3)<|o_n) (by kernel_rfl) (fun a g hst hb=>?_)
  refine wp_seq ?_
  refine r_s (T:=[⟨[.old 1],_,[],[],[14]⟩,⟨[.old 2],_,[],[],[15]⟩,⟨[.op 0 0,.op 1 0],_,[],[0,1],[16]⟩]) (F:=[.old 0,.old 1,.old 2,.op 2 0]) hst hb Zb
   (o_p rfl (Za rfl rfl u_0)<|o_p rfl (Za rfl rfl u_0)<|o_p rfl (Zbs rfl rfl u_0 u_1)<|o_n) (by kernel_rfl) (fun a g hst hb=>?_)
  refine wp_cond_split (hst.bool 3 rfl) (fun hc=>?_) (fun hc=>?_)
  ·refine r_s (L:=[(0,_)]) (T:=[⟨[.old 0],_,[],[],[17]⟩,⟨[.op 0 0],_,[],[0],[6]⟩]) (F:=[.op 1 0]) (hst.pick [0] rfl) hb Zb
    (o_p rfl (Za rfl rfl u_0)<|o_p rfl (Zc rfl rfl u_0)<|o_n) (by kernel_rfl) (fun a g hst hb=>?_)
   refine wp_ret ?_
   refine Zr ?_
   have hq:=hst.at 0 rfl
   have hkl2:=beq_iff_eq.1 hc
   have he:a0.take k ++ a0.drop l=a0:=by rw [show l=k by omega,List.take_append_drop]
   rw [he]
   exact Zqo rfl hst hb (Zk (s:=6)) hq
  ·refine wp_skip ?_
   refine Zs ?_
   refine r_s (L:=[(0,_),(1,_),(2,_)]) (T:=[⟨[.old 0],_,[],[],[18]⟩,⟨[.op 0 0],_,[],[0],[19]⟩,⟨[.op 1 0],_,[],[0,1],[7]⟩]) (F:=[.old 0,.old 1,.old 2,.op 2 0]) (hst.pick [0,1,2] rfl) hb Zb
    (o_p rfl (Za rfl rfl u_0)<|o_p rfl (Ztl Tryz.underlying36 rfl rfl u_0)<|o_p rfl (Zc rfl rfl u_0)<|o_n) (by kernel_rfl) (fun a g hst hb=>?_)
   refine r_s (T:=[⟨[.old 0],_,[],[],[20]⟩,⟨[.old 1],_,[],[],[21]⟩,⟨[.op 0 0,.op 1 0],_,[],[0,1],[22]⟩,⟨[.old 0],_,[],[],[23]⟩,⟨[.old 2],_,[],[],[24]⟩,⟨[.op 3 0,.op 4 0],_,[],[3,4],[25]⟩,⟨[.op 2 0,.op 5 0,.old 0],[(26,(pOwn Zz 116 0 (some cap) ((a0.take k ++ a0.drop l).map some)))],[1],[0,1,2,3,4,5],[26,0,20,22,23,25]⟩,⟨[.op 6 0],_,[],[0,1,2,3,4,5,6],[0]⟩]) (F:=[.op 7 0,.old 3]) hst hb Zb
    (o_p rfl (Za rfl rfl u_0)<|o_p rfl (Za rfl rfl u_0)<|o_p rfl (Zsy Zdl (by simp;omega) rfl rfl u_0 u_1)<|o_p rfl (Za rfl rfl u_0)<|o_p rfl (Za rfl rfl u_0)<|o_p rfl (Zh5 Zdl (by simpa using hl) rfl rfl u_0 u_1)<|o_p rfl (Z2t (s:=0) (k:=cap) (xs:=a0.take k) (ws:=a0.drop l) Zdl (by simp;omega) (by simp;omega) (by simp;omega) (by simp) (Zvw a0 k) (Z21 a0 l) rfl rfl u_0 u_1 u_2)<|o_p rfl (Zc rfl rfl u_0)<|o_n) (by kernel_rfl) (fun a g hst hb=>?_)
   have hl2:((a0.take k ++ a0.drop l).map some).length=k + (a0.length - l):=by simp;omega
   refine r_s (T:=[⟨[.old 0],_,[],[],[27]⟩,⟨[.old 0],_,[],[],[28]⟩,⟨[.op 1 0],_,[],[1],[29]⟩,⟨[.old 1],_,[],[],[30]⟩,⟨[.op 0 0,.op 2 0,.op 3 0],_,[],[0,1,2,3],[31]⟩,⟨[.op 4 0,.old 0],_,[1],[0,1,2,3,4],[0,27,28,31]⟩]) (F:=[.op 5 0]) hst hb Zb
    (o_p rfl (Za rfl rfl u_0)<|o_p rfl (Za rfl rfl u_0)<|o_p rfl (Ztl Tryz.underlying36 rfl rfl u_0)<|o_p rfl (Za rfl rfl u_0)<|o_p rfl (Z5d (k:=cap) Zdl (by rw [hl2,List.length_map];omega) (by rw [List.length_map];omega) rfl rfl u_0 u_1 u_2)<|o_p rfl (Z44 (s:=0) (k:=cap) Zdl (by kernel_rfl) (Nat.le_refl _) (by rw [hl2,List.length_map];omega) rfl rfl u_0 u_1)<|o_n) (by kernel_rfl) (fun a g hst hb=>?_)
   refine r_s (T:=[⟨[.old 0],_,[],[],[32]⟩,⟨[.op 0 0],_,[],[0],[6]⟩]) (F:=[.op 1 0]) hst hb Zb
    (o_p rfl (Za rfl rfl u_0)<|o_p rfl (Zc rfl rfl u_0)<|o_n) (by kernel_rfl) (fun a g hst hb=>?_)
   refine wp_ret ?_
   exact Zqo rfl hst hb (Zk (s:=6)) (hst.at 0 rfl)
theorem Ztt (a0:Ze) (a1:Zu) (a2:Zg) {r:Int × Ze × Zg} (h:Zkl a0 a1 a2=some r):FnB Tryz.prog 127 [.box Zi a0 r.2.1,.val (Z4.pd a1),.box Zm a2 r.2.2] (pInt .i64 r.1):=by
 have H0:=h
 unfold Zkl at H0
 clear h
 refine Zkq (N:=32) Tryz.func127 rfl rfl (Nat.le_of_ble_eq_true rfl) rfl rfl (fun a g0 bs hbs hst hb=>?_)
 obtain ⟨b0,b2,rfl⟩:=Zl5 hbs
 replace hst:St 32 [(0,(Zcf (some b0) Zi 0 a0)),(1,(Z4.pd a1)),(2,(Zcf (some b2) Zm 2 a2))] _ _:=hst
 refine r_s (T:=[⟨[.old 1],_,[],[],[4]⟩,⟨[],_,[],[],[6]⟩]) (F:=[.old 0,.old 2,.op 0 0]) hst hb Zb
  (o_p rfl (Zbq rfl rfl u_0)<|o_p rfl (Zc rfl rfl c_i)<|o_n) (by kernel_rfl) (fun a g hst hb=>?_)
 refine wp_seq ?_
 obtain ⟨r1,h2,H0⟩:=Zh H0
 refine r_s (T:=⟨[.old 0],_,[],[],[10]⟩ :: ⟨[.op 0 0],_,[],[0],[11]⟩ :: ⟨[.op 1 0],_,[],[0,1],[12]⟩ :: ⟨[.op 2 0],_,[],[0,1,2],[13]⟩ :: ⟨[.old 2],_,[],[],[14]⟩ :: ⟨[.op 4 0],_,[],[4],[15]⟩ :: ⟨[.op 3 0,.op 5 0],_,[],Lr 6,[16]⟩ :: ⟨[.op 6 0],_,[],Lr 7,[9]⟩ :: ⟨[.op 7 0],_,[],Lr 8,[17]⟩ :: ⟨[.op 7 0],_,[],Lr 8,[18]⟩ :: ⟨[.op 8 0],_,[],Lr 9,[7]⟩ :: ⟨[.op 9 0],_,[],Lr 11,[8]⟩ :: []) (F:=[.old 0,.old 1,.op 10 0,.op 11 0]) hst hb Zb
  (o_p rfl (Za rfl rfl u_0)<|o_p rfl (Zq rfl rfl u_0 (fun _ _ ⟨_,_,_,e,_⟩=>⟨_,e⟩))<|o_p rfl (Zt Zce (off:=7) (by kernel_rfl) rfl rfl u_0)<|o_p rfl (Zbr Zc7 rfl rfl u_0)<|o_p rfl (Zd Zf0 rfl rfl u_0)<|o_p rfl (Zf ty_9 rfl rfl u_0)<|o_p rfl (Zo Z0e (Zpi _ _ h2) rfl rfl (.cons u_0 (.cons u_1 .nil)))<|o_p rfl (Za rfl rfl u_0)<|o_p rfl (Z0 rfl rfl u_0 rfl)<|o_p rfl (Z0 rfl rfl u_0 rfl)<|o_p rfl (Zc rfl rfl u_0)<|o_p rfl (Zc rfl rfl u_0)<|o_n) (by kernel_rfl) (fun a g hst hb=>?_)
 refine r_s (T:=[⟨[.old 3],_,[],[],[19]⟩]) (F:=[.old 0,.old 1,.old 2,.op 0 0]) hst hb Zb
  (o_p rfl (Za rfl rfl u_0)<|o_n) (by kernel_rfl) (fun a g hst hb=>?_)
 refine Zca (fun a w=>∃ (j8:Ze) (g:G),w=g.w ∧ St 32 [(0,(Zcf (some b0) Zi 0 j8)),(2,(Zcf (some b2) Zm 2 a2))] a g ∧ Base g0 g ∧ Zkg a2 j8=some r) ?_ ?_
 ·rintro a w ⟨j8,g,rfl,hst,hb,H0⟩
  unfold Zkg at H0
  refine Zs ?_
  refine r_s (T:=[⟨[],_,[],[],[6]⟩]) (F:=[.old 0,.old 1,.op 0 0]) hst hb Zb
   (o_p rfl (Zc rfl rfl c_i)<|o_n) (by kernel_rfl) (fun a g hst hb=>?_)
  refine wp_ret ?_
  obtain rfl:=Option.some.inj H0
  exact Zig rfl hst hb (Zk (s:=6)) (hst.at 2 rfl) ⟨Zc2 (hst.at 0 rfl),Zc2 (hst.at 1 rfl),trivial⟩
 ·refine wp_cond_split (hst.bool 3 rfl) (fun hc3=>?_) (fun hc3=>?_)
  ·replace H0:=Zv hc3 H0
   obtain ⟨r4,h5,H0⟩:=Zh H0;obtain ⟨r6,h7,H0⟩:=Zh H0
   refine r_g (L:=[(0,_),(2,_),(7,_)]) (T:=⟨[.old 0],_,[],[],[20]⟩ :: ⟨[.old 0],_,[],[],[21]⟩ :: ⟨[.op 1 0],_,[],[1],[22]⟩ :: ⟨[.op 2 0],_,[],[1,2],[23]⟩ :: ⟨[.op 3 0],_,[],[1,2,3],[24]⟩ :: ⟨[.op 4 0],_,[26],List.range' 1 4,[25]⟩ :: ⟨[.old 2],_,[],[],[26]⟩ :: ⟨[.old 2],_,[],[],[27]⟩ :: ⟨[.op 7 0],_,[],[7],[28]⟩ :: ⟨[.op 5 0,.op 6 0,.op 8 0],_,[26],List.range' 1 8,[25,29]⟩ :: ⟨[.op 0 0],_,[],Lr 10,[30]⟩ :: ⟨[.op 10 0],_,[],Lr 11,[31]⟩ :: ⟨[.op 9 0,.op 11 0,.old 0],_,[1],Lr 12,[0,20,21,22,23,30,31]⟩ :: []) (F:=[.op 12 0,.old 1]) (hst.pick [0,1,2] rfl) hb Zb
    (o_p rfl (Za rfl rfl u_0)<|o_p rfl (Za rfl rfl u_0)<|o_p rfl (Zq rfl rfl u_0 (fun _ _ ⟨_,_,_,e,_⟩=>⟨_,e⟩))<|o_p rfl (Zt Zce (off:=7) (by kernel_rfl) rfl rfl u_0)<|o_p rfl (Zbr Zc7 rfl rfl u_0)<|o_p rfl (Zl2 (j:=25) Zyl (Zf2 _ h5) rfl rfl (.cons u_0 .nil))<|o_p rfl (Za rfl rfl u_0)<|o_p rfl (Za rfl rfl u_0)<|o_p rfl (Zb7 rfl rfl u_0 c_i rfl)<|o_p rfl (Zq4 Z9l (Zmi _ _ _ h7) rfl rfl rfl u_0 (.cons u_1 (.cons u_2 .nil)))<|o_p rfl (Zq rfl rfl u_0 (fun _ _ ⟨_,_,_,e,_⟩=>⟨_,e⟩))<|o_p rfl (Zt Zce (off:=7) (by kernel_rfl) rfl rfl u_0)<|o_p rfl (Zmz Zc7 rfl rfl u_2 u_1 u_0)<|o_n) (by kernel_rfl) (fun a g hst hb=>?_)
   exact ⟨({ a0 with List:=r6 }),g,rfl,(hst.pick [0,1] rfl),hb,H0⟩
  ·replace H0:=Zw hc3 H0
   refine wp_skip ?_
   exact ⟨a0,g,rfl,(hst.pick [0,1] rfl),hb,H0⟩
theorem Zt1 (a0:Ze) (a1:Zu) (a2:Zg) {r:Int × Ze × Zg} (h:Zf6 a0 a1 a2=some r):FnB Tryz.prog 130 [.box Zi a0 r.2.1,.val (Z4.pd a1),.box Zm a2 r.2.2] (pInt .i64 r.1):=by
 have H0:=h
 unfold Zf6 at H0
 clear h
 refine Zkq (N:=21) Tryz.func130 rfl rfl (Nat.le_of_ble_eq_true rfl) rfl rfl (fun a g0 bs hbs hst hb=>?_)
 obtain ⟨b0,b2,rfl⟩:=Zl5 hbs
 replace hst:St 21 [(0,(Zcf (some b0) Zi 0 a0)),(1,(Z4.pd a1)),(2,(Zcf (some b2) Zm 2 a2))] _ _:=hst
 refine r_s (T:=[⟨[.old 1],_,[],[],[4]⟩,⟨[],_,[],[],[6]⟩]) (F:=[.old 0,.old 2,.op 0 0]) hst hb Zb
  (o_p rfl (Zbq rfl rfl u_0)<|o_p rfl (Zc rfl rfl c_i)<|o_n) (by kernel_rfl) (fun a g hst hb=>?_)
 refine wp_seq ?_
 obtain ⟨r1,h2,H0⟩:=Zh H0
 refine r_s (T:=⟨[.old 0],_,[],[],[10]⟩ :: ⟨[.op 0 0],_,[],[0],[11]⟩ :: ⟨[.op 1 0],_,[],[0,1],[12]⟩ :: ⟨[.op 2 0],_,[],[0,1,2],[13]⟩ :: ⟨[.old 2],_,[],[],[14]⟩ :: ⟨[.op 4 0],_,[],[4],[15]⟩ :: ⟨[.op 3 0,.op 5 0],_,[],Lr 6,[16]⟩ :: ⟨[.op 6 0],_,[],Lr 7,[9]⟩ :: ⟨[.op 7 0],_,[],Lr 8,[17]⟩ :: ⟨[.op 7 0],_,[],Lr 8,[18]⟩ :: ⟨[.op 8 0],_,[],Lr 9,[7]⟩ :: ⟨[.op 9 0],_,[],Lr 11,[8]⟩ :: []) (F:=[.old 0,.old 1,.op 11 0]) hst hb Zb
  (o_p rfl (Za rfl rfl u_0)<|o_p rfl (Zq rfl rfl u_0 (fun _ _ ⟨_,_,_,e,_⟩=>⟨_,e⟩))<|o_p rfl (Zt Zce (off:=7) (by kernel_rfl) rfl rfl u_0)<|o_p rfl (Zbr Zc7 rfl rfl u_0)<|o_p rfl (Zd Zf0 rfl rfl u_0)<|o_p rfl (Zf ty_9 rfl rfl u_0)<|o_p rfl (Zo Z0e (Zpi _ _ h2) rfl rfl (.cons u_0 (.cons u_1 .nil)))<|o_p rfl (Za rfl rfl u_0)<|o_p rfl (Z0 rfl rfl u_0 rfl)<|o_p rfl (Z0 rfl rfl u_0 rfl)<|o_p rfl (Zc rfl rfl u_0)<|o_p rfl (Zc rfl rfl u_0)<|o_n) (by kernel_rfl) (fun a g hst hb=>?_)
 refine r_s (T:=[⟨[.old 2],_,[],[],[19]⟩,⟨[.op 0 0],_,[],[0],[20]⟩]) (F:=[.old 0,.old 1,.op 1 0]) hst hb Zb
  (o_p rfl (Za rfl rfl u_0)<|o_p rfl (Zb2 rfl rfl u_0)<|o_n) (by kernel_rfl) (fun a g hst hb=>?_)
 refine wp_cond_split (hst.bool 2 rfl) (fun hc3=>?_) (fun hc3=>?_)
 ·replace H0:=Zv hc3 H0
  refine r_s (L:=[(0,_),(2,_)]) (T:=[⟨[],_,[],[],[6]⟩]) (F:=[.old 0,.old 1,.op 0 0]) (hst.pick [0,1] rfl) hb Zb
   (o_p rfl (Zc rfl rfl c_i)<|o_n) (by kernel_rfl) (fun a g hst hb=>?_)
  refine wp_ret ?_
  refine Zr ?_
  obtain rfl:=Option.some.inj H0
  exact Zig rfl hst hb (Zk (s:=6)) (hst.at 2 rfl) ⟨Zc2 (hst.at 0 rfl),Zc2 (hst.at 1 rfl),trivial⟩
 ·replace H0:=Zw hc3 H0
  refine wp_skip ?_
  refine Zs ?_
  refine r_s (L:=[(0,_),(2,_)]) (T:=[⟨[],_,[],[],[6]⟩]) (F:=[.old 0,.old 1,.op 0 0]) (hst.pick [0,1] rfl) hb Zb
   (o_p rfl (Zc rfl rfl c_i)<|o_n) (by kernel_rfl) (fun a g hst hb=>?_)
  refine wp_ret ?_
  obtain rfl:=Option.some.inj H0
  exact Zig rfl hst hb (Zk (s:=6)) (hst.at 2 rfl) ⟨Zc2 (hst.at 0 rfl),Zc2 (hst.at 1 rfl),trivial⟩
theorem Zye (a0:Ze) (a1:Zu) (a2:Zg) {r:Int × Ze × Zg} (h:Zk3 a0 a1 a2=some r):FnB Tryz.prog 131 [.box Zi a0 r.2.1,.val (Z4.pd a1),.box Zm a2 r.2.2] (pInt .i64 r.1):=by
 have H0:=h
 unfold Zk3 at H0
 clear h
 refine Zkq (N:=75) Tryz.func131 rfl rfl (Nat.le_of_ble_eq_true rfl) rfl rfl (fun a g0 bs hbs hst hb=>?_)
 obtain ⟨b0,b2,rfl⟩:=Zl5 hbs
 replace hst:St 75 [(0,(Zcf (some b0) Zi 0 a0)),(1,(Z4.pd a1)),(2,(Zcf (some b2) Zm 2 a2))] _ _:=hst
 refine r_s (T:=[⟨[.old 1],_,[],[],[4]⟩,⟨[],_,[],[],[6]⟩]) (F:=[.old 0,.old 2,.op 0 0]) hst hb Zb
  (o_p rfl (Zbq rfl rfl u_0)<|o_p rfl (Zc rfl rfl c_i)<|o_n) (by kernel_rfl) (fun a g hst hb=>?_)
 refine r_s (T:=[⟨[.old 2],_,[],[],[10]⟩,⟨[.op 0 0],_,[],[0],[11]⟩,⟨[.old 2],_,[],[],[12]⟩,⟨[.op 2 0],_,[],[2],[13]⟩,⟨[.op 1 0,.op 3 0],_,[],Lr 4,[14]⟩,⟨[],[(7,(pBox Zz 7 (default:Zl)))],[8],[],[7]⟩,⟨[.op 4 0,.op 5 0],_,[8],Lr 6,[7]⟩]) (F:=[.old 0,.old 1,.op 6 0]) hst hb Zb
  (o_p rfl (Zd Zjn rfl rfl u_0)<|o_p rfl (Zf Zc3 rfl rfl u_0)<|o_p rfl (Zd Zf0 rfl rfl u_0)<|o_p rfl (Zf ty_9 rfl rfl u_0)<|o_p rfl (Zv9 rfl rfl u_0 u_1)<|o_p rfl (Zbh (zs:=[.float .f64 0,.string ByteArray.empty]) (by kernel_rfl) (fun g=>Zlh g) rfl rfl)<|o_p rfl (Zb5 Zea rfl rfl u_1 u_0)<|o_n) (by kernel_rfl) (fun a g hst hb=>?_)
 refine r_s (T:=[⟨[],_,[],[],[8]⟩]) (F:=[.old 0,.old 1,.old 2,.op 0 0]) hst hb Zb
  (o_p rfl (Zc rfl rfl c_i)<|o_n) (by kernel_rfl) (fun a g hst hb=>?_)
 obtain ⟨z8,hz1,H0⟩:=Zh H0
 refine wp_seq ?_
 refine Zca (fun a w=>∃ (y7:Int) (g:G),w=g.w ∧ St 75 [(0,(Zcf (some b0) Zi 0 a0)),(2,(Zcf (some b2) Zm 2 a2)),(7,(Zz.ptr ({ Score:=a1.X,Name:=a1.S }:Zl))),(8,(pInt .i64 y7))] a g ∧ Base g0 g ∧ y7=z8) ?_ ?_
 ·rintro a w ⟨y7,g,rfl,hst,hb,rfl⟩
  refine Zs ?_
  refine wp_seq ?_
  obtain ⟨e9,h10,H0⟩:=Zh H0;obtain ⟨r11,h12,H0⟩:=Zh H0
  refine r_s (T:=⟨[.old 3],_,[],[],[35]⟩ :: ⟨[.old 0],_,[],[],[36]⟩ :: ⟨[.op 1 0],_,[],[1],[37]⟩ :: ⟨[.op 2 0],_,[],[1,2],[38]⟩ :: ⟨[.op 3 0],_,[],[1,2,3],[39]⟩ :: ⟨[.op 4 0],_,[],List.range' 1 4,[40]⟩ :: ⟨[.op 0 0,.op 5 0],_,[],Lr 6,[41]⟩ :: ⟨[.op 6 0],_,[],Lr 7,[42]⟩ :: ⟨[.op 7 0,.old 2],_,[],Lr 8,[43]⟩ :: ⟨[.op 7 0,.old 0],_,[],Lr 8,[44]⟩ :: ⟨[.op 7 0,.op 9 0],_,[],[0,1,2,3,4,5,6,7,9],[45]⟩ :: ⟨[.op 7 0,.op 10 0],_,[],[0,1,2,3,4,5,6,7,9,10],[46]⟩ :: ⟨[.op 7 0,.op 11 0],_,[],[0,1,2,3,4,5,6,7,9,10,11],[47]⟩ :: ⟨[.op 7 0,.old 3],_,[],Lr 8,[48]⟩ :: ⟨[.op 7 0,.op 12 0,.op 13 0],_,[],0 :: 1 :: 2 :: 3 :: 4 :: 5 :: 6 :: 7 :: 9 :: 10 :: 11 :: 12 :: 13 :: [],[49]⟩ :: ⟨[.op 7 0,.op 14 0],_,[],0 :: 1 :: 2 :: 3 :: 4 :: 5 :: 6 :: 7 :: 9 :: 10 :: 11 :: 12 :: 13 :: 14 :: [],[50]⟩ :: ⟨[.op 7 0,.op 8 0,.op 15 0],_,[],Lr 16,[51]⟩ :: ⟨[.op 7 0,.op 16 0],_,[],Lr 17,[52]⟩ :: ⟨[.op 7 0,.op 17 0],_,[],Lr 18,[53]⟩ :: []) (F:=[.old 0,.old 1,.old 2,.old 3,.op 18 0]) hst hb Zb
   (o_p rfl (Za rfl rfl u_0)<|o_p rfl (Za rfl rfl u_0)<|o_p rfl (Zq rfl rfl u_0 (fun _ _ ⟨_,_,_,e,_⟩=>⟨_,e⟩))<|o_p rfl (Zt Zce (off:=7) (by kernel_rfl) rfl rfl u_0)<|o_p rfl (Zbr Zc7 rfl rfl u_0)<|o_p rfl (Zb1 Tryz.underlying36 rfl rfl u_0)<|o_p rfl (Zci rfl rfl u_0 u_1)<|o_p rfl (Za rfl rfl u_0)<|o_g (g_t rfl rfl rfl (fun hG=>Zf Zea rfl rfl u_0))<|o_g (g_t rfl rfl rfl (fun hG=>Za rfl rfl u_0))<|o_g (g_t rfl rfl rfl (fun hG=>Zq rfl rfl (Opd.gd hG u_0) (fun _ _ ⟨_,_,_,e,_⟩=>⟨_,e⟩)))<|o_g (g_t rfl rfl rfl (fun hG=>Zt Zce (off:=7) (by kernel_rfl) rfl rfl (Opd.gd hG u_0)))<|o_g (g_t rfl rfl rfl (fun hG=>Zbr Zc7 rfl rfl (Opd.gd hG u_0)))<|o_g (g_t rfl rfl rfl (fun hG=>Za rfl rfl u_0))<|o_g (g_t rfl rfl rfl (fun hG=>Zbl Tryz.underlying36 Ze4 rfl rfl (Opd.gd hG u_0) (Opd.gd hG u_1) (Zbn h10 hG)))<|o_g (g_t rfl rfl rfl (fun hG=>Zf Zea rfl rfl (Opd.gd hG u_0)))<|o_g (g_t rfl rfl rfl (fun hG=>Zo Zy4 (Zov _ _ (Zbn h12 hG)) rfl rfl (.cons (Opd.gd hG u_0) (.cons (Opd.gd hG u_1) .nil))))<|o_g (g_t rfl rfl rfl (fun hG=>Zb2 rfl rfl (Opd.gd hG u_0)))<|o_p rfl (Zbi rfl rfl u_0 (fun hz=>(Opd.gd hz u_1)))<|o_n) (by kernel_rfl) (fun a g hst hb=>?_)
  refine wp_cond_split (hst.bool 4 rfl) (fun hc13=>?_) (fun hc13=>?_)
  ·replace H0:=Zv hc13 H0
   refine r_s (L:=[(0,_),(2,_)]) (T:=[⟨[],_,[],[],[6]⟩]) (F:=[.old 0,.old 1,.op 0 0]) (hst.pick [0,1] rfl) hb Zb
    (o_p rfl (Zc rfl rfl c_i)<|o_n) (by kernel_rfl) (fun a g hst hb=>?_)
   refine wp_ret ?_
   refine Zr ?_
   obtain rfl:=Option.some.inj H0
   exact Zig rfl hst hb (Zk (s:=6)) (hst.at 2 rfl) ⟨Zc2 (hst.at 0 rfl),Zc2 (hst.at 1 rfl),trivial⟩
  ·replace H0:=Zw hc13 H0
   refine wp_skip ?_
   refine Zs ?_
   obtain ⟨r14,h15,H0⟩:=Zh H0;obtain ⟨r16,h17,H0⟩:=Zh H0
   refine r_s (L:=[(0,_),(2,_),(7,_),(8,_)]) (T:=[⟨[.old 0],_,[],[],[54]⟩,⟨[.op 0 0],_,[],[0],[55]⟩,⟨[.op 1 0],_,[],[0,1],[56]⟩,⟨[.op 2 0],_,[],[0,1,2],[57]⟩,⟨[.op 3 0],_,[59],Lr 4,[58]⟩,⟨[.old 3],_,[],[],[59]⟩,⟨[.old 2],_,[],[],[60]⟩,⟨[.op 6 0],_,[],[6],[61]⟩,⟨[.op 4 0,.op 5 0,.op 7 0],_,[59],Lr 8,[58,62]⟩,⟨[.op 8 0],_,[],Lr 9,[9]⟩]) (F:=[.old 0,.old 1,.op 9 0]) (hst.pick [0,1,2,3] rfl) hb Zb
    (o_p rfl (Za rfl rfl u_0)<|o_p rfl (Zq rfl rfl u_0 (fun _ _ ⟨_,_,_,e,_⟩=>⟨_,e⟩))<|o_p rfl (Zt Zce (off:=7) (by kernel_rfl) rfl rfl u_0)<|o_p rfl (Zbr Zc7 rfl rfl u_0)<|o_p rfl (Zl2 (j:=58) Zyl (Zf2 _ h15) rfl rfl (.cons u_0 .nil))<|o_p rfl (Za rfl rfl u_0)<|o_p rfl (Zf Zea rfl rfl u_0)<|o_p rfl (Ziw Zdl (xs:=[.tmp 60]) (.cons u_0 .nil) (by decide) rfl rfl)<|o_p rfl (Zq4 Z4n (Zit _ _ _ h17) rfl rfl rfl u_0 (.cons u_1 (.cons u_2 .nil)))<|o_p rfl (Zc rfl rfl u_0)<|o_n) (by kernel_rfl) (fun a g hst hb=>?_)
   obtain ⟨c18,h19,H0⟩:=Zh H0
   refine r_s (T:=⟨[.old 0],_,[],[],[63]⟩ :: ⟨[.old 2],_,[],[],[64]⟩ :: ⟨[.old 2],_,[],[],[65]⟩ :: ⟨[.op 2 0],_,[],[2],[66]⟩ :: ⟨[.old 0],_,[],[],[67]⟩ :: ⟨[.op 4 0],_,[],[4],[68]⟩ :: ⟨[.op 5 0],_,[],[4,5],[69]⟩ :: ⟨[.op 6 0],_,[],[4,5,6],[70]⟩ :: ⟨[.op 3 0,.op 7 0],_,[],List.range' 2 6,[71]⟩ :: ⟨[.op 1 0,.op 8 0],_,[],List.range' 1 8,[72]⟩ :: ⟨[.op 0 0],_,[],Lr 10,[73]⟩ :: ⟨[.op 10 0],_,[],Lr 11,[74]⟩ :: ⟨[.op 9 0,.op 11 0,.old 0],_,[1],Lr 12,[0,63,67,68,69,73,74]⟩ :: []) (F:=[.op 12 0,.old 1]) hst hb Zb
    (o_p rfl (Za rfl rfl u_0)<|o_p rfl (Za rfl rfl u_0)<|o_p rfl (Za rfl rfl u_0)<|o_p rfl (Zb1 Tryz.underlying36 rfl rfl u_0)<|o_p rfl (Za rfl rfl u_0)<|o_p rfl (Zq rfl rfl u_0 (fun _ _ ⟨_,_,_,e,_⟩=>⟨_,e⟩))<|o_p rfl (Zt Zgz (off:=5) (by kernel_rfl) rfl rfl u_0)<|o_p rfl (Zbr ty_3 rfl rfl u_0)<|o_p rfl (Z96 rfl rfl u_0 u_1)<|o_p rfl (Zti Tryz.underlying36 Ze4 rfl rfl u_0 u_1 h19)<|o_p rfl (Zq rfl rfl u_0 (fun _ _ ⟨_,_,_,e,_⟩=>⟨_,e⟩))<|o_p rfl (Zt Zce (off:=7) (by kernel_rfl) rfl rfl u_0)<|o_p rfl (Zmz Zc7 rfl rfl u_2 u_1 u_0)<|o_n) (by kernel_rfl) (fun a g hst hb=>?_)
   refine r_s (T:=[⟨[],_,[],[],[6]⟩]) (F:=[.old 0,.old 1,.op 0 0]) hst hb Zb
    (o_p rfl (Zc rfl rfl c_i)<|o_n) (by kernel_rfl) (fun a g hst hb=>?_)
   refine wp_ret ?_
   obtain rfl:=Option.some.inj H0
   exact Zig rfl hst hb (Zk (s:=6)) (hst.at 2 rfl) ⟨Zc2 (hst.at 0 rfl),Zc2 (hst.at 1 rfl),trivial⟩
 ·refine wp_block ?_
  refine wp_loop_ghost (fun n a w=>∃ (x1:Int) (g:G),w=g.w ∧ St 75 [(0,(Zcf (some b0) Zi 0 a0)),(2,(Zcf (some b2) Zm 2 a2)),(7,(Zz.ptr ({ Score:=a1.X,Name:=a1.S }:Zl))),(8,(pInt .i64 x1))] a g ∧ Base g0 g ∧ Zgu a0 a1 n x1=some z8) (Int.toNat ((a0.List.length:Int) - (0:Int)) + 1) ⟨(0:Int),g,rfl,(hst.pick [0,1,2,3] rfl),hb,hz1⟩ (fun n a w hI=>?_)
  obtain ⟨x1,g,rfl,hst,hb,H1⟩:=hI
  cases n with
  | zero=>exact absurd H1 (by simp [Zgu])
  | succ n =>
   rw [Zgu] at H1
   refine wp_seq ?_
   obtain ⟨e2,h3,H1⟩:=Zh H1;obtain ⟨r4,h5,H1⟩:=Zh H1
   refine r_s (T:=⟨[.old 3],_,[],[],[15]⟩ :: ⟨[.old 0],_,[],[],[16]⟩ :: ⟨[.op 1 0],_,[],[1],[17]⟩ :: ⟨[.op 2 0],_,[],[1,2],[18]⟩ :: ⟨[.op 3 0],_,[],[1,2,3],[19]⟩ :: ⟨[.op 4 0],_,[],List.range' 1 4,[20]⟩ :: ⟨[.op 0 0,.op 5 0],_,[],Lr 6,[21]⟩ :: ⟨[.op 6 0],_,[],Lr 7,[22]⟩ :: ⟨[.op 7 0,.old 0],_,[],Lr 8,[23]⟩ :: ⟨[.op 7 0,.op 8 0],_,[],Lr 9,[24]⟩ :: ⟨[.op 7 0,.op 9 0],_,[],Lr 10,[25]⟩ :: ⟨[.op 7 0,.op 10 0],_,[],Lr 11,[26]⟩ :: ⟨[.op 7 0,.old 3],_,[],Lr 8,[27]⟩ :: ⟨[.op 7 0,.op 11 0,.op 12 0],_,[],Lr 13,[28]⟩ :: ⟨[.op 7 0,.op 13 0],_,[],Lr 14,[29]⟩ :: ⟨[.op 7 0,.old 2],_,[],Lr 8,[30]⟩ :: ⟨[.op 7 0,.op 14 0,.op 15 0],_,[],Lr 16,[31]⟩ :: ⟨[.op 7 0,.op 16 0],_,[],Lr 17,[32]⟩ :: []) (F:=[.old 0,.old 1,.old 2,.old 3,.op 17 0]) hst hb Zb
    (o_p rfl (Za rfl rfl u_0)<|o_p rfl (Za rfl rfl u_0)<|o_p rfl (Zq rfl rfl u_0 (fun _ _ ⟨_,_,_,e,_⟩=>⟨_,e⟩))<|o_p rfl (Zt Zce (off:=7) (by kernel_rfl) rfl rfl u_0)<|o_p rfl (Zbr Zc7 rfl rfl u_0)<|o_p rfl (Zb1 Tryz.underlying36 rfl rfl u_0)<|o_p rfl (Zci rfl rfl u_0 u_1)<|o_p rfl (Za rfl rfl u_0)<|o_g (g_t rfl rfl rfl (fun hG=>Za rfl rfl u_0))<|o_g (g_t rfl rfl rfl (fun hG=>Zq rfl rfl (Opd.gd hG u_0) (fun _ _ ⟨_,_,_,e,_⟩=>⟨_,e⟩)))<|o_g (g_t rfl rfl rfl (fun hG=>Zt Zce (off:=7) (by kernel_rfl) rfl rfl (Opd.gd hG u_0)))<|o_g (g_t rfl rfl rfl (fun hG=>Zbr Zc7 rfl rfl (Opd.gd hG u_0)))<|o_g (g_t rfl rfl rfl (fun hG=>Za rfl rfl u_0))<|o_g (g_t rfl rfl rfl (fun hG=>Zbl Tryz.underlying36 Ze4 rfl rfl (Opd.gd hG u_0) (Opd.gd hG u_1) (Zbn h3 hG)))<|o_g (g_t rfl rfl rfl (fun hG=>Zf Zea rfl rfl (Opd.gd hG u_0)))<|o_g (g_t rfl rfl rfl (fun hG=>Zf Zea rfl rfl u_0))<|o_g (g_t rfl rfl rfl (fun hG=>Zo Zy4 (Zov _ _ (Zbn h5 hG)) rfl rfl (.cons (Opd.gd hG u_0) (.cons (Opd.gd hG u_1) .nil))))<|o_p rfl (Zbi rfl rfl u_0 (fun hz=>(Opd.gd hz u_1)))<|o_n) (by kernel_rfl) (fun a g hst hb=>?_)
   refine wp_cond_split (hst.bool 4 rfl) (fun hc6=>?_) (fun hc6=>?_)
   ·replace H1:=Zv hc6 H1
    refine wp_skip ?_
    refine Zs ?_
    refine wp_block ?_
    refine r_g (L:=[(0,_),(2,_),(7,_),(8,_)]) (T:=[⟨[.old 3],_,[],[],[33]⟩,⟨[.op 0 0],_,[],[0],[34]⟩,⟨[.op 1 0],_,[],[0,1],[8]⟩]) (F:=[.old 0,.old 1,.old 2,.op 2 0]) (hst.pick [0,1,2,3] rfl) hb Zb
     (o_p rfl (Za rfl rfl u_0)<|o_p rfl (Zb7 rfl rfl u_0 c_i rfl)<|o_p rfl (Zc rfl rfl u_0)<|o_n) (by kernel_rfl) (fun a g hst hb=>?_)
    refine Zbe ?_
    exact ⟨n,Nat.lt_succ_self _,(IntKind.i64.wrap (x1 + (1:Int))),g,rfl,(hst.pick [0,1,2,3] rfl),hb,H1⟩
   ·replace H1:=Zw hc6 H1
    refine wp_exit ?_
    refine Zb3 ?_
    refine Zb3 ?_
    refine Zcn ?_
    exact ⟨x1,g,rfl,(hst.pick [0,1,2,3] rfl),hb,Option.some.inj H1⟩
def Phi (k:Int) (f:FuncId) (C:List Pd):Prop:=∀ (x0 x1:Ze) (a:Zu) (y0 y1:Zg) (c:Int),Zbk k x0 a y0=some (c,x1,y1) → FnB Tryz.prog f ([.box Zi x0 x1,.val (Z4.pd a),.box Zm y0 y1] ++ C.map .val) (pInt .i64 c)
theorem Z8z {k:Int} {x0:Ze} {a:Zu} {y0:Zg} {r:Int × Ze × Zg} (h:Zbk k x0 a y0=some r):∀ f C,Phi k f C → FnB Tryz.prog f ([.box Zi x0 r.2.1,.val (Z4.pd a),.box Zm y0 r.2.2] ++ C.map .val) (pInt .i64 r.1):=fun f C hΦ=>hΦ _ _ _ _ _ _ h
def tabT:TabT:=fun k=>if 5 ≤ k ∧ k ≤ 21 then some (Phi k) else none
theorem Zbav {i:Int} (h:5 ≤ i ∧ i ≤ 21):tabT i.toNat=some (Phi i):=by
 unfold tabT
 rw [if_pos (by omega),show ((i.toNat:Nat):Int)=i by omega]
theorem Zbbt:Phi 5 113 []:=fun x0 x1 a y0 y1 c h=>Ztv x0 a y0 (r:=(c,x1,y1)) (by simpa [Zbk] using h)
theorem Zbbl:Phi 6 114 []:=fun x0 x1 a y0 y1 c h=>Ztu x0 a y0 (r:=(c,x1,y1)) (by simpa [Zbk] using h)
theorem Zbbm:Phi 7 115 []:=fun x0 x1 a y0 y1 c h=>Ztx x0 a y0 (r:=(c,x1,y1)) (by simpa [Zbk] using h)
theorem Zbcz:Phi 8 116 []:=fun x0 x1 a y0 y1 c h=>Z0p x0 a y0 (r:=(c,x1,y1)) (by simpa [Zbk] using h)
theorem Zbcn:Phi 9 117 []:=fun x0 x1 a y0 y1 c h=>Zp0 x0 a y0 (r:=(c,x1,y1)) (by simpa [Zbk] using h)
theorem Zbbh:Phi 10 118 []:=fun x0 x1 a y0 y1 c h=>Zt0 x0 a y0 (r:=(c,x1,y1)) (by simpa [Zbk] using h)
theorem Z9v:Phi 11 119 []:=fun x0 x1 a y0 y1 c h=>Zty x0 a y0 (r:=(c,x1,y1)) (by simpa [Zbk] using h)
theorem Zbay:Phi 12 117 []:=fun x0 x1 a y0 y1 c h=>Zp0 x0 a y0 (r:=(c,x1,y1)) (by simpa [Zbk] using h)
theorem Z98:Phi 13 135 [(Kd.fnc.ptr 121)]:=fun x0 x1 a y0 y1 c h=>by
 have h':Zfa (fun x y=>Zl7 x y) x0 a y0=some (c,x1,y1):=by simpa [Zbk] using h
 obtain ⟨z,hz,h2⟩:=Zh h'
 injection h2 with h2
 simp only [Prod.mk.injEq] at h2
 obtain ⟨rfl,rfl,rfl⟩:=h2
 exact Zkj 121 Zba0 (fun x y=>Zl7 x y) (fun x y z h=>Z3p x y h) x0 a y0 hz
theorem Zbaf:Phi 14 135 [(Kd.fnc.ptr 122)]:=fun x0 x1 a y0 y1 c h=>by
 have h':Zfa (fun x y=>Zl4 x y) x0 a y0=some (c,x1,y1):=by simpa [Zbk] using h
 obtain ⟨z,hz,h2⟩:=Zh h'
 injection h2 with h2
 simp only [Prod.mk.injEq] at h2
 obtain ⟨rfl,rfl,rfl⟩:=h2
 exact Zkj 122 Zbax (fun x y=>Zl4 x y) (fun x y z h=>Z22 x y h) x0 a y0 hz
theorem Z9t:Phi 15 135 [(Kd.fnc.ptr 123)]:=fun x0 x1 a y0 y1 c h=>by
 have h':Zfa (fun x y=>Zja x y) x0 a y0=some (c,x1,y1):=by simpa [Zbk] using h
 obtain ⟨z,hz,h2⟩:=Zh h'
 injection h2 with h2
 simp only [Prod.mk.injEq] at h2
 obtain ⟨rfl,rfl,rfl⟩:=h2
 exact Zkj 123 Z9z (fun x y=>Zja x y) (fun x y z h=>Z07 x y h) x0 a y0 hz
theorem Z9o:Phi 16 135 [(Kd.fnc.ptr 124)]:=fun x0 x1 a y0 y1 c h=>by
 have h':Zfa (fun x y=>Zh9 x y) x0 a y0=some (c,x1,y1):=by simpa [Zbk] using h
 obtain ⟨z,hz,h2⟩:=Zh h'
 injection h2 with h2
 simp only [Prod.mk.injEq] at h2
 obtain ⟨rfl,rfl,rfl⟩:=h2
 exact Zkj 124 Z90 (fun x y=>Zh9 x y) (fun x y z h=>Zz8 x y h) x0 a y0 hz
theorem Z95:Phi 17 135 [(Kd.fnc.ptr 125)]:=fun x0 x1 a y0 y1 c h=>by
 have h':Zfa (fun x y=>Zhv x y) x0 a y0=some (c,x1,y1):=by simpa [Zbk] using h
 obtain ⟨z,hz,h2⟩:=Zh h'
 injection h2 with h2
 simp only [Prod.mk.injEq] at h2
 obtain ⟨rfl,rfl,rfl⟩:=h2
 exact Zkj 125 Zbas (fun x y=>Zhv x y) (fun x y z h=>Zt2 x y h) x0 a y0 hz
theorem Zbbc:Phi 18 126 []:=fun x0 x1 a y0 y1 c h=>Zy2 x0 a y0 (r:=(c,x1,y1)) (by simpa [Zbk] using h)
theorem Zbab:Phi 19 127 []:=fun x0 x1 a y0 y1 c h=>Ztt x0 a y0 (r:=(c,x1,y1)) (by simpa [Zbk] using h)
theorem Zbae:Phi 20 130 []:=fun x0 x1 a y0 y1 c h=>Zt1 x0 a y0 (r:=(c,x1,y1)) (by simpa [Zbk] using h)
theorem Zba6:Phi 21 131 []:=fun x0 x1 a y0 y1 c h=>Zye x0 a y0 (r:=(c,x1,y1)) (by simpa [Zbk] using h)
theorem Z1a {N d:Nat} {o:Oper} {uses:Zbj} (hop:o.op=.build 157 #[(5,.func 113),(6,.func 114),(7,.func 115),(8,.func 116),(9,.func 117),(12,.func 117),(10,.func 118),(11,.func 119),(13,.tmp 1),(14,.tmp 2),(15,.tmp 3),(16,.tmp 4),(17,.tmp 5),(18,.func 126),(19,.func 127),(20,.func 130),(21,.func 131)]) (hd:o.dst=some d) (h1:Opd uses (.tmp 1) (pClo 135 [(Kd.fnc.ptr 121)] rfl)) (h2:Opd uses (.tmp 2) (pClo 135 [(Kd.fnc.ptr 122)] rfl)) (h3:Opd uses (.tmp 3) (pClo 135 [(Kd.fnc.ptr 123)] rfl)) (h4:Opd uses (.tmp 4) (pClo 135 [(Kd.fnc.ptr 124)] rfl)) (h5:Opd uses (.tmp 5) (pClo 135 [(Kd.fnc.ptr 125)] rfl)):OB Tryz.prog N o uses [(d,((Kd.tab Tryz.prog 22 (by decide)).pd tabT))] [] :=
 Zcj hd fun a g hh=>by
  obtain ⟨c1,e1,k1⟩:=h1 a g hh
  obtain ⟨c2,e2,k2⟩:=h2 a g hh
  obtain ⟨c3,e3,k3⟩:=h3 a g hh
  obtain ⟨c4,e4,k4⟩:=h4 a g hh
  obtain ⟨c5,e5,k5⟩:=h5 a g hh
  refine ⟨.agg #[.nilFunc,.nilFunc,.nilFunc,.nilFunc,.nilFunc,.func (.func 113) #[] #[],.func (.func 114) #[] #[],.func (.func 115) #[] #[],.func (.func 116) #[] #[],.func (.func 117) #[] #[],.func (.func 118) #[] #[],.func (.func 119) #[] #[],.func (.func 117) #[] #[],.func (.func 135) #[] c1.toArray,.func (.func 135) #[] c2.toArray,.func (.func 135) #[] c3.toArray,.func (.func 135) #[] c4.toArray,.func (.func 135) #[] c5.toArray,.func (.func 126) #[] #[],.func (.func 127) #[] #[],.func (.func 130) #[] #[],.func (.func 131) #[] #[]],?_,[.nilFunc,.nilFunc,.nilFunc,.nilFunc,.nilFunc,.func (.func 113) #[] #[],.func (.func 114) #[] #[],.func (.func 115) #[] #[],.func (.func 116) #[] #[],.func (.func 117) #[] #[],.func (.func 118) #[] #[],.func (.func 119) #[] #[],.func (.func 117) #[] #[],.func (.func 135) #[] c1.toArray,.func (.func 135) #[] c2.toArray,.func (.func 135) #[] c3.toArray,.func (.func 135) #[] c4.toArray,.func (.func 135) #[] c5.toArray,.func (.func 126) #[] #[],.func (.func 127) #[] #[],.func (.func 130) #[] #[],.func (.func 131) #[] #[]],⟨rfl,?_,?_⟩,rfl⟩
  ·simp only [execOp,hop,Sem.run_bind,Sem.run_pure,Result.andThen_ok,List.map_toArray,List.map_cons,List.map_nil,e1,e2,e3,e4,e5]
   rw [Z0c Tryz.underlying157 (zero:=.agg #[.nilFunc,.nilFunc,.nilFunc,.nilFunc,.nilFunc,.nilFunc,.nilFunc,.nilFunc,.nilFunc,.nilFunc,.nilFunc,.nilFunc,.nilFunc,.nilFunc,.nilFunc,.nilFunc,.nilFunc,.nilFunc,.nilFunc,.nilFunc,.nilFunc,.nilFunc]) (by kernel_rfl) (by kernel_rfl) (cells:=#[.nilFunc,.nilFunc,.nilFunc,.nilFunc,.nilFunc,.func (.func 113) #[] #[],.func (.func 114) #[] #[],.func (.func 115) #[] #[],.func (.func 116) #[] #[],.func (.func 117) #[] #[],.func (.func 118) #[] #[],.func (.func 119) #[] #[],.func (.func 117) #[] #[],.func (.func 135) #[] c1.toArray,.func (.func 135) #[] c2.toArray,.func (.func 135) #[] c3.toArray,.func (.func 135) #[] c4.toArray,.func (.func 135) #[] c5.toArray,.func (.func 126) #[] #[],.func (.func 127) #[] #[],.func (.func 130) #[] #[],.func (.func 131) #[] #[]]) (by kernel_rfl) g.w]
   rfl
  ·intro u hu
   simp only [List.mem_cons,List.not_mem_nil,or_false] at hu
   rcases hu with rfl | rfl | rfl | rfl | rfl | rfl | rfl | rfl | rfl | rfl | rfl | rfl | rfl | rfl | rfl | rfl | rfl | rfl | rfl | rfl | rfl | rfl <;> rfl
  ·intro k F u hF hu
   unfold tabT at hF
   split at hF
   ·rename_i hk
    obtain rfl:=Option.some.inj hF
    obtain ⟨hk1,hk2⟩:=hk
    have hk:k=5 ∨ k=6 ∨ k=7 ∨ k=8 ∨ k=9 ∨ k=10 ∨ k=11 ∨ k=12 ∨ k=13 ∨ k=14 ∨ k=15 ∨ k=16 ∨ k=17 ∨ k=18 ∨ k=19 ∨ k=20 ∨ k=21:=by omega
    rcases hk with rfl | rfl | rfl | rfl | rfl | rfl | rfl | rfl | rfl | rfl | rfl | rfl | rfl | rfl | rfl | rfl | rfl
    ·obtain rfl:=Option.some.inj hu;exact ⟨113,[],[],rfl,Zbaa,rfl,Zbbt,Ze3,fun q hq=>by cases hq⟩
    ·obtain rfl:=Option.some.inj hu;exact ⟨114,[],[],rfl,Zbam,rfl,Zbbl,Ze3,fun q hq=>by cases hq⟩
    ·obtain rfl:=Option.some.inj hu;exact ⟨115,[],[],rfl,Zbac,rfl,Zbbm,Ze3,fun q hq=>by cases hq⟩
    ·obtain rfl:=Option.some.inj hu;exact ⟨116,[],[],rfl,Z9j,rfl,Zbcz,Ze3,fun q hq=>by cases hq⟩
    ·obtain rfl:=Option.some.inj hu;exact ⟨117,[],[],rfl,Z4l,rfl,Zbcn,Ze3,fun q hq=>by cases hq⟩
    ·obtain rfl:=Option.some.inj hu;exact ⟨118,[],[],rfl,Zbaq,rfl,Zbbh,Ze3,fun q hq=>by cases hq⟩
    ·obtain rfl:=Option.some.inj hu;exact ⟨119,[],[],rfl,Z97,rfl,Z9v,Ze3,fun q hq=>by cases hq⟩
    ·obtain rfl:=Option.some.inj hu;exact ⟨117,[],[],rfl,Z4l,rfl,Zbay,Ze3,fun q hq=>by cases hq⟩
    ·obtain rfl:=Option.some.inj hu;exact ⟨135,_,c1,rfl,Zsq,rfl,Z98,k1,Zlt⟩
    ·obtain rfl:=Option.some.inj hu;exact ⟨135,_,c2,rfl,Zsq,rfl,Zbaf,k2,Zlt⟩
    ·obtain rfl:=Option.some.inj hu;exact ⟨135,_,c3,rfl,Zsq,rfl,Z9t,k3,Zlt⟩
    ·obtain rfl:=Option.some.inj hu;exact ⟨135,_,c4,rfl,Zsq,rfl,Z9o,k4,Zlt⟩
    ·obtain rfl:=Option.some.inj hu;exact ⟨135,_,c5,rfl,Zsq,rfl,Z95,k5,Zlt⟩
    ·obtain rfl:=Option.some.inj hu;exact ⟨126,[],[],rfl,Z9w,rfl,Zbbc,Ze3,fun q hq=>by cases hq⟩
    ·obtain rfl:=Option.some.inj hu;exact ⟨127,[],[],rfl,Zbbg,rfl,Zbab,Ze3,fun q hq=>by cases hq⟩
    ·obtain rfl:=Option.some.inj hu;exact ⟨130,[],[],rfl,Z9y,rfl,Zbae,Ze3,fun q hq=>by cases hq⟩
    ·obtain rfl:=Option.some.inj hu;exact ⟨131,[],[],rfl,Zbap,rfl,Zba6,Ze3,fun q hq=>by cases hq⟩
   ·cases hF
theorem Z35:Ty Tryz.prog 157 (Kd.tab Tryz.prog 22 (by decide)):=⟨by kernel_rfl,by kernel_rfl⟩
theorem Zu9:FnOk Tryz.prog 94 [] (pTab Tryz.prog 22 tabT):=by
 refine Zbu (N:=7) Tryz.func94 rfl rfl (Nat.le_of_ble_eq_true rfl) rfl rfl (fun a g0 hst hb=>?_)
 refine r_s (T:=[⟨[],[(0,(pBox (Kd.tab Tryz.prog 22 (by decide)) 0 (fun _=>none)))],[1],[],[0]⟩]) (F:=[.op 0 0]) hst hb Zb
  (o_p rfl (Zbh (zs:=[.nilFunc,.nilFunc,.nilFunc,.nilFunc,.nilFunc,.nilFunc,.nilFunc,.nilFunc,.nilFunc,.nilFunc,.nilFunc,.nilFunc,.nilFunc,.nilFunc,.nilFunc,.nilFunc,.nilFunc,.nilFunc,.nilFunc,.nilFunc,.nilFunc,.nilFunc]) (by kernel_rfl) (fun g=>⟨rfl,by decide,fun k F u h=>by cases h⟩) rfl rfl)<|o_n) (by kernel_rfl) (fun a g hst hb=>?_)
 refine r_s (T:=[⟨[],_,[],[],[1]⟩,⟨[],_,[],[0],[2]⟩,⟨[],_,[],[0,1],[3]⟩,⟨[],_,[],[0,1,2],[4]⟩,⟨[],_,[],[0,1,2,3],[5]⟩,⟨[.op 0 0,.op 1 0,.op 2 0,.op 3 0,.op 4 0],_,[],[0,1,2,3,4],[6]⟩,⟨[.op 5 0,.old 0],[(0,(pBox (Kd.tab Tryz.prog 22 (by decide)) 0 tabT))],[1],[0,1,2,3,4,5],[0]⟩]) (F:=[.op 6 0]) hst hb Zb
  (o_p rfl (Zo Zsd (Zlw 121) rfl rfl (.cons Opd.fncv .nil))<|o_p rfl (Zo Zsd (Zlw 122) rfl rfl (.cons Opd.fncv .nil))<|o_p rfl (Zo Zsd (Zlw 123) rfl rfl (.cons Opd.fncv .nil))<|o_p rfl (Zo Zsd (Zlw 124) rfl rfl (.cons Opd.fncv .nil))<|o_p rfl (Zo Zsd (Zlw 125) rfl rfl (.cons Opd.fncv .nil))<|o_p rfl (Z1a rfl rfl u_0 u_1 u_2 u_3 u_4)<|o_p rfl (Z2 Z35 rfl rfl u_1 u_0)<|o_n) (by kernel_rfl) (fun a g hst hb=>?_)
 refine wp_ret ?_
 obtain ⟨u0,hu0,hq0⟩:=Zbf (P:=Tryz.prog) Z35 (hst.at 0 rfl)
 exact Z5 rfl hst hb hu0 (Z5w hq0)
theorem Zyf (a0:Ze) (a1:Bool) (a2:Zu) {r:Ze × Bool × Zg} (h:Zh3 a0 a1 a2=some r):FnOk Tryz.prog 68 [(Zi.pd a0),(Zbg a1),(Z4.pd a2)] (pTup [(Zi.pd r.1),(Zbg r.2.1),(Zm.pd r.2.2)]):=by
 have H0:=h
 unfold Zh3 at H0
 clear h
 refine Zbu (N:=123) Tryz.func68 rfl rfl (Nat.le_of_ble_eq_true rfl) rfl rfl (fun a g0 hst hb=>?_)
 refine r_s (T:=[⟨[.old 0],_,[4],[],[3]⟩,⟨[.old 1],_,[],[],[4]⟩,⟨[.old 2],_,[],[],[5]⟩,⟨[],[(6,(pBox Zi 6 (default:Ze)))],[7],[],[6]⟩,⟨[],_,[],[],[7]⟩,⟨[],[(8,(pBox Zm 8 (default:Zg)))],[9],[],[8]⟩]) (F:=[.op 0 0,.op 1 0,.op 2 0,.op 3 0,.op 5 0]) hst hb Zb
  (o_p rfl (Zkm rfl rfl u_0)<|o_p rfl (Zbq rfl rfl u_0)<|o_p rfl (Zbq rfl rfl u_0)<|o_p rfl (Zbh (zs:=[.int .i64 0,.int .i64 0,.int .i64 0,.int .i64 0,.float .f64 0,.int .i64 0,.string ByteArray.empty,.slice none 0 0]) (by kernel_rfl) (fun g=>Zb4 g) rfl rfl)<|o_p rfl (Zc rfl rfl c_b)<|o_p rfl (Zbh (zs:=[.int .i64 0,.int .i64 0,.int .i64 0,.int .i64 0,.int .i64 0,.int .i64 0,.float .f64 0,.int .i64 0,.string ByteArray.empty,.slice none 0 0]) (by kernel_rfl) (fun g=>Zeb g) rfl rfl)<|o_n) (by kernel_rfl) (fun a g hst hb=>?_)
 refine wp_seq ?_
 refine r_s (T:=[⟨[.old 1],_,[],[],[15]⟩,⟨[.op 0 0],_,[],[0],[16]⟩]) (F:=[.old 0,.old 1,.old 2,.old 3,.old 4,.op 1 0]) hst hb Zb
  (o_p rfl (Zf ty_4 rfl rfl u_0)<|o_p rfl (Zb2 rfl rfl u_0)<|o_n) (by kernel_rfl) (fun a g hst hb=>?_)
 refine Zca (fun a w=>∃ (j2:Ze) (g:G),w=g.w ∧ St 123 [(3,(pBox Zi 3 j2)),(4,(Kd.bool.ptr a1)),(5,(Z4.ptr a2)),(6,(pBox Zi 6 (default:Ze))),(8,(pBox Zm 8 (default:Zg)))] a g ∧ Base g0 g ∧ Zhk a1 a2 j2=some r) ?_ ?_
 ·rintro a w ⟨j2,g,rfl,hst,hb,H0⟩
  unfold Zhk at H0
  refine Zs ?_
  obtain ⟨r3,h4,H0⟩:=Zh H0
  refine r_s (T:=[⟨[.old 0],_,[],[],[18]⟩,⟨[.op 0 0],_,[],[0],[19]⟩,⟨[.op 1 0,.old 0],_,[4],[0,1],[3]⟩]) (F:=[.op 2 0,.old 1,.old 2,.old 3,.old 4]) hst hb Zb
   (o_p rfl (Zb0 Zbc rfl rfl u_0)<|o_p rfl (Zo Zn8 (Zgr _ h4) rfl rfl (.cons u_0 .nil))<|o_p rfl (Z2 Zbc rfl rfl u_1 u_0)<|o_n) (by kernel_rfl) (fun a g hst hb=>?_)
  refine r_s (T:=[⟨[.old 0,.old 1],_,[],[],[20]⟩,⟨[.op 0 0],_,[],[0],[9]⟩]) (F:=[.old 0,.old 1,.old 2,.old 3,.old 4,.op 1 0]) hst hb Zb
   (o_p rfl (Zzt rfl rfl (.cons u_0 (.cons u_1 .nil)))<|o_p rfl (Zc rfl rfl u_0)<|o_n) (by kernel_rfl) (fun a g hst hb=>?_)
  refine wp_seq ?_
  obtain ⟨r5,h6,H0⟩:=Zh H0
  refine r_s (T:=[⟨[.old 2],_,[],[],[21]⟩,⟨[.op 0 0],_,[],[0],[22]⟩,⟨[.op 1 0],_,[],[0,1],[10]⟩]) (F:=[.old 0,.old 1,.old 2,.old 3,.old 4,.old 5,.op 2 0]) hst hb Zb
   (o_p rfl (Zf Zh1 rfl rfl u_0)<|o_p rfl (Zo Z7e (Zsc _ h6) rfl rfl (.cons u_0 .nil))<|o_p rfl (Zc rfl rfl u_0)<|o_n) (by kernel_rfl) (fun a g hst hb=>?_)
  refine r_s (T:=[⟨[.old 6],_,[],[],[23]⟩,⟨[.op 0 0],_,[],[0],[24]⟩]) (F:=[.old 0,.old 1,.old 2,.old 3,.old 4,.old 5,.old 6,.op 1 0]) hst hb Zb
   (o_p rfl (Za rfl rfl u_0)<|o_p rfl (Zdk rfl rfl u_0 c_i)<|o_n) (by kernel_rfl) (fun a g hst hb=>?_)
  refine wp_cond_split (hst.bool 7 rfl) (fun hc7=>?_) (fun hc7=>?_)
  ·replace H0:=Zv hc7 H0
   obtain ⟨r8,h9,H0⟩:=Zh H0
   refine r_s (L:=[(3,_),(4,_),(6,_),(8,_),(9,_),(10,_)]) (T:=[⟨[.old 4],_,[],[],[25]⟩,⟨[.old 5],_,[],[],[26]⟩,⟨[.op 0 0,.op 1 0,.old 0],[(27,(pTup [(Zi.pd r8.1),(Zbg r8.2.1),(Zm.pd r8.2.2.1)])),(3,(pBox Zi 3 r8.2.2.2))],[4],[0,1],[3,9,25,27]⟩,⟨[.op 2 0],_,[],[0,1,2],[28]⟩,⟨[.op 2 0],_,[],[0,1,2],[29]⟩,⟨[.op 2 0],_,[],[0,1,2],[30]⟩,⟨[.op 3 0,.old 2],_,[7],Lr 6,[6]⟩,⟨[.op 4 0],_,[],Lr 7,[7]⟩,⟨[.op 5 0,.old 3],_,[9],Lr 8,[8]⟩]) (F:=[.op 2 1,.old 1,.op 6 0,.op 7 0,.op 8 0]) (hst.pick [0,1,3,4,5,6] rfl) hb Zb
    (o_p rfl (Za rfl rfl u_0)<|o_p rfl (Za rfl rfl u_0)<|o_p rfl (Znd (Ps:=[.val (pInt .i64 r5)]) (hs:=[]) (ks:=[(3,none,3)]) Zvb (Zjv _ _ _ h9) rfl rfl rfl u_0 (.val u_1 .nil) (.box u_2 rfl (.val .nil)) rfl rfl rfl rfl)<|o_p rfl (Z0 rfl rfl u_0 rfl)<|o_p rfl (Z0 rfl rfl u_0 rfl)<|o_p rfl (Z0 rfl rfl u_0 rfl)<|o_p rfl (Z2 Zbc rfl rfl u_1 u_0)<|o_p rfl (Zc rfl rfl u_0)<|o_p rfl (Z2 Zb9 rfl rfl u_1 u_0)<|o_n) (by kernel_rfl) (fun a g hst hb=>?_)
   refine wp_ret ?_
   refine Zr ?_
   obtain rfl:=Option.some.inj H0
   obtain ⟨u0,hu0,hq0⟩:=Zbf (P:=Tryz.prog) Zbc (hst.at 2 rfl)
   obtain ⟨u2,hu2,hq2⟩:=Zbf (P:=Tryz.prog) Zb9 (hst.at 4 rfl)
   exact Zi3 rfl hst hb hu0 (Zk (s:=7)) hu2 (Zg1 hq0 (hst.at 3 rfl) hq2)
  ·replace H0:=Zw hc7 H0
   refine wp_skip ?_
   refine Zs ?_
   refine wp_seq ?_
   refine r_s (L:=[(3,_),(4,_),(5,_),(6,_),(8,_),(9,_)]) (T:=[⟨[.old 1],_,[],[],[31]⟩]) (F:=[.old 0,.old 1,.old 2,.old 3,.old 4,.old 5,.op 0 0]) (hst.pick [0,1,2,3,4,5] rfl) hb Zb
    (o_p rfl (Zf ty_4 rfl rfl u_0)<|o_n) (by kernel_rfl) (fun a g hst hb=>?_)
   refine Zca (fun a w=>∃ (g:G),w=g.w ∧ St 123 [(3,(pBox Zi 3 r3)),(4,(Kd.bool.ptr a1)),(5,(Z4.ptr a2)),(6,(pBox Zi 6 (default:Ze))),(8,(pBox Zm 8 (default:Zg))),(9,(Zyv 92 [(pBox Zi 3 r3),(Kd.bool.ptr a1)]))] a g ∧ Base g0 g ∧ Zhh a1 a2 r3=some r) ?_ ?_
   ·rintro a w ⟨g,rfl,hst,hb,H0⟩
    unfold Zhh at H0
    refine Zs ?_
    refine wp_seq ?_
    refine wp_block ?_
    refine r_s (T:=[⟨[.old 2],_,[],[],[43]⟩,⟨[.op 0 0],_,[],[0],[44]⟩,⟨[.op 1 0],_,[],[0,1],[45]⟩,⟨[.op 2 0],_,[],[0,1,2],[46]⟩,⟨[.op 3 0,.old 1],_,[],Lr 4,[47]⟩,⟨[.op 3 0,.op 4 0],_,[],Lr 5,[48]⟩,⟨[.op 5 0],_,[],Lr 6,[42]⟩]) (F:=[.old 0,.old 1,.old 2,.old 3,.old 4,.old 5,.op 6 0]) hst hb Zb
     (o_p rfl (Zd Zdh rfl rfl u_0)<|o_p rfl (Zf ty_3 rfl rfl u_0)<|o_p rfl (Zbs rfl rfl u_0 c_i)<|o_p rfl (Za rfl rfl u_0)<|o_g (g_t rfl rfl rfl (fun hG=>Zf ty_4 rfl rfl u_0))<|o_p rfl (Zbi rfl rfl u_0 (fun hz=>(Opd.gd hz u_1)))<|o_p rfl (Zc rfl rfl u_0)<|o_n) (by kernel_rfl) (fun a g hst hb=>?_)
    refine wp_cond_split (hst.bool 6 rfl) (fun hc16=>?_) (fun hc16=>?_)
    ·replace H0:=Zv hc16 H0
     obtain ⟨r17,h18,H0⟩:=Zh H0
     refine r_s (L:=[(3,_),(4,_),(6,_),(8,_),(9,_)]) (T:=[⟨[.old 4],_,[],[],[49]⟩,⟨[.op 0 0,.old 0],[(50,(pTup [(Zi.pd r17.1),(Zbg r17.2.1),(Zm.pd r17.2.2.1)])),(3,(pBox Zi 3 r17.2.2.2))],[4],[0],[3,9,49,50]⟩,⟨[.op 1 0],_,[],[0,1],[51]⟩,⟨[.op 1 0],_,[],[0,1],[52]⟩,⟨[.op 1 0],_,[],[0,1],[53]⟩,⟨[.op 2 0,.old 2],_,[7],Lr 5,[6]⟩,⟨[.op 3 0],_,[],Lr 6,[7]⟩,⟨[.op 4 0,.old 3],_,[9],Lr 7,[8]⟩]) (F:=[.op 1 1,.old 1,.op 5 0,.op 6 0,.op 7 0]) (hst.pick [0,1,3,4,5] rfl) hb Zb
      (o_p rfl (Za rfl rfl u_0)<|o_p rfl (Znd (Ps:=[.val (pInt .i64 (7:Int))]) (hs:=[]) (ks:=[(3,none,3)]) Zvb (Zjv _ _ _ h18) rfl rfl rfl u_0 (.val c_i .nil) (.box u_1 rfl (.val .nil)) rfl rfl rfl rfl)<|o_p rfl (Z0 rfl rfl u_0 rfl)<|o_p rfl (Z0 rfl rfl u_0 rfl)<|o_p rfl (Z0 rfl rfl u_0 rfl)<|o_p rfl (Z2 Zbc rfl rfl u_1 u_0)<|o_p rfl (Zc rfl rfl u_0)<|o_p rfl (Z2 Zb9 rfl rfl u_1 u_0)<|o_n) (by kernel_rfl) (fun a g hst hb=>?_)
     refine wp_ret ?_
     refine Z6 ?_
     refine Zr ?_
     obtain rfl:=Option.some.inj H0
     obtain ⟨u0,hu0,hq0⟩:=Zbf (P:=Tryz.prog) Zbc (hst.at 2 rfl)
     obtain ⟨u2,hu2,hq2⟩:=Zbf (P:=Tryz.prog) Zb9 (hst.at 4 rfl)
     exact Zi3 rfl hst hb hu0 (Zk (s:=7)) hu2 (Zg1 hq0 (hst.at 3 rfl) hq2)
    ·replace H0:=Zw hc16 H0
     refine r_s (L:=[(3,_),(4,_),(5,_),(6,_),(8,_),(9,_)]) (T:=[⟨[.old 2],_,[],[],[55]⟩,⟨[.op 0 0],_,[],[0],[56]⟩,⟨[.op 1 0],_,[],[0,1],[57]⟩,⟨[.op 2 0],_,[],[0,1,2],[54]⟩]) (F:=[.old 0,.old 1,.old 2,.old 3,.old 4,.old 5,.op 3 0]) (hst.pick [0,1,2,3,4,5] rfl) hb Zb
      (o_p rfl (Zd Zdh rfl rfl u_0)<|o_p rfl (Zf ty_3 rfl rfl u_0)<|o_p rfl (Zbs rfl rfl u_0 c_i)<|o_p rfl (Zc rfl rfl u_0)<|o_n) (by kernel_rfl) (fun a g hst hb=>?_)
     refine wp_cond_split (hst.bool 6 rfl) (fun hc19=>?_) (fun hc19=>?_)
     ·replace H0:=Zv hc19 H0
      obtain ⟨r20,h21,H0⟩:=Zh H0
      refine r_s (L:=[(3,_),(4,_),(5,_),(6,_),(8,_)]) (T:=[⟨[.old 2],_,[],[],[58]⟩,⟨[.op 0 0],_,[],[0],[59]⟩,⟨[.op 1 0],_,[],[0,1],[60]⟩,⟨[],_,[],[],[61]⟩,⟨[.op 2 0,.old 3],_,[7],[0,1,2],[6]⟩,⟨[],_,[],[0,1,2,4],[7]⟩,⟨[.op 3 0,.old 4],_,[9],Lr 6,[8]⟩]) (F:=[.old 0,.old 1,.op 4 0,.op 5 0,.op 6 0]) (hst.pick [0,1,2,3,4] rfl) hb Zb
       (o_p rfl (Zd Zmd rfl rfl u_0)<|o_p rfl (Zf Zbc rfl rfl u_0)<|o_p rfl (Zo Zn8 (Zgr _ h21) rfl rfl (.cons u_0 .nil))<|o_p rfl (Zqq rfl rfl )<|o_p rfl (Z2 Zbc rfl rfl u_1 u_0)<|o_p rfl (Zc rfl rfl c_b)<|o_p rfl (Z2 Zb9 rfl rfl u_1 u_0)<|o_n) (by kernel_rfl) (fun a g hst hb=>?_)
      refine wp_ret ?_
      refine Z6 ?_
      refine Zr ?_
      obtain rfl:=Option.some.inj H0
      obtain ⟨u0,hu0,hq0⟩:=Zbf (P:=Tryz.prog) Zbc (hst.at 2 rfl)
      obtain ⟨u2,hu2,hq2⟩:=Zbf (P:=Tryz.prog) Zb9 (hst.at 4 rfl)
      exact Zi3 rfl hst hb hu0 (Zk (s:=7)) hu2 (Zg1 hq0 (hst.at 3 rfl) hq2)
     ·replace H0:=Zw hc19 H0
      refine r_s (L:=[(3,_),(4,_),(5,_),(6,_),(8,_),(9,_)]) (T:=[⟨[.old 2],_,[],[],[63]⟩,⟨[.op 0 0],_,[],[0],[64]⟩,⟨[.op 1 0],_,[],[0,1],[65]⟩,⟨[.op 2 0],_,[],[0,1,2],[62]⟩]) (F:=[.old 0,.old 1,.old 2,.old 3,.old 4,.old 5,.op 3 0]) (hst.pick [0,1,2,3,4,5] rfl) hb Zb
       (o_p rfl (Zd Zdh rfl rfl u_0)<|o_p rfl (Zf ty_3 rfl rfl u_0)<|o_p rfl (Zbs rfl rfl u_0 c_i)<|o_p rfl (Zc rfl rfl u_0)<|o_n) (by kernel_rfl) (fun a g hst hb=>?_)
      refine wp_cond_split (hst.bool 6 rfl) (fun hc22=>?_) (fun hc22=>?_)
      ·replace H0:=Zv hc22 H0
       refine r_s (L:=[(3,_),(4,_),(6,_),(8,_)]) (T:=[⟨[.old 0],_,[],[],[66]⟩,⟨[.old 1],_,[],[],[67]⟩,⟨[.old 0],_,[],[],[68]⟩,⟨[.op 2 0],_,[],[2],[69]⟩,⟨[.op 3 0],_,[],[2,3],[70]⟩,⟨[.op 0 0,.old 2],_,[7],[0],[6]⟩,⟨[.op 1 0],_,[],[0,1,5],[7]⟩,⟨[.op 4 0,.old 3],_,[9],Lr 7,[8]⟩]) (F:=[.old 0,.old 1,.op 5 0,.op 6 0,.op 7 0]) (hst.pick [0,1,3,4] rfl) hb Zb
        (o_p rfl (Zb0 Zbc rfl rfl u_0)<|o_p rfl (Zf ty_4 rfl rfl u_0)<|o_p rfl (Zt Zge (off:=0) (by kernel_rfl) rfl rfl u_0)<|o_p rfl (Zbr ty_3 rfl rfl u_0)<|o_p rfl (Z2b rfl rfl u_0)<|o_p rfl (Z2 Zbc rfl rfl u_1 u_0)<|o_p rfl (Zc rfl rfl u_0)<|o_p rfl (Z2 Zb9 rfl rfl u_1 u_0)<|o_n) (by kernel_rfl) (fun a g hst hb=>?_)
       refine wp_ret ?_
       refine Z6 ?_
       refine Zr ?_
       obtain rfl:=Option.some.inj H0
       obtain ⟨u0,hu0,hq0⟩:=Zbf (P:=Tryz.prog) Zbc (hst.at 2 rfl)
       obtain ⟨u2,hu2,hq2⟩:=Zbf (P:=Tryz.prog) Zb9 (hst.at 4 rfl)
       exact Zi3 rfl hst hb hu0 (Zk (s:=7)) hu2 (Zg1 hq0 (hst.at 3 rfl) hq2)
      ·replace H0:=Zw hc22 H0
       refine r_s (L:=[(3,_),(4,_),(5,_),(6,_),(8,_),(9,_)]) (T:=[⟨[.old 1],_,[],[],[72]⟩,⟨[.op 0 0],_,[],[0],[73]⟩,⟨[.op 1 0],_,[],[0,1],[71]⟩]) (F:=[.old 0,.old 1,.old 2,.old 3,.old 4,.old 5,.op 2 0]) (hst.pick [0,1,2,3,4,5] rfl) hb Zb
        (o_p rfl (Zf ty_4 rfl rfl u_0)<|o_p rfl (Zb2 rfl rfl u_0)<|o_p rfl (Zc rfl rfl u_0)<|o_n) (by kernel_rfl) (fun a g hst hb=>?_)
       refine wp_cond_split (hst.bool 6 rfl) (fun hc23=>?_) (fun hc23=>?_)
       ·replace H0:=Zv hc23 H0
        obtain ⟨r24,h25,H0⟩:=Zh H0
        refine r_s (L:=[(3,_),(4,_),(6,_),(8,_),(9,_)]) (T:=[⟨[.old 4],_,[],[],[74]⟩,⟨[.op 0 0,.old 0],[(75,(pTup [(Zi.pd r24.1),(Zbg r24.2.1),(Zm.pd r24.2.2.1)])),(3,(pBox Zi 3 r24.2.2.2))],[4],[0],[3,9,74,75]⟩,⟨[.op 1 0],_,[],[0,1],[76]⟩,⟨[.op 1 0],_,[],[0,1],[77]⟩,⟨[.op 1 0],_,[],[0,1],[78]⟩,⟨[.op 2 0,.old 2],_,[7],Lr 5,[6]⟩,⟨[.op 3 0],_,[],Lr 6,[7]⟩,⟨[.op 4 0,.old 3],_,[9],Lr 7,[8]⟩]) (F:=[.op 1 1,.old 1,.op 5 0,.op 6 0,.op 7 0]) (hst.pick [0,1,3,4,5] rfl) hb Zb
         (o_p rfl (Za rfl rfl u_0)<|o_p rfl (Znd (Ps:=[.val (pInt .i64 (6:Int))]) (hs:=[]) (ks:=[(3,none,3)]) Zvb (Zjv _ _ _ h25) rfl rfl rfl u_0 (.val c_i .nil) (.box u_1 rfl (.val .nil)) rfl rfl rfl rfl)<|o_p rfl (Z0 rfl rfl u_0 rfl)<|o_p rfl (Z0 rfl rfl u_0 rfl)<|o_p rfl (Z0 rfl rfl u_0 rfl)<|o_p rfl (Z2 Zbc rfl rfl u_1 u_0)<|o_p rfl (Zc rfl rfl u_0)<|o_p rfl (Z2 Zb9 rfl rfl u_1 u_0)<|o_n) (by kernel_rfl) (fun a g hst hb=>?_)
        refine wp_ret ?_
        refine Z6 ?_
        refine Zr ?_
        obtain rfl:=Option.some.inj H0
        obtain ⟨u0,hu0,hq0⟩:=Zbf (P:=Tryz.prog) Zbc (hst.at 2 rfl)
        obtain ⟨u2,hu2,hq2⟩:=Zbf (P:=Tryz.prog) Zb9 (hst.at 4 rfl)
        exact Zi3 rfl hst hb hu0 (Zk (s:=7)) hu2 (Zg1 hq0 (hst.at 3 rfl) hq2)
       ·replace H0:=Zw hc23 H0
        refine r_s (L:=[(3,_),(4,_),(5,_),(6,_),(8,_),(9,_)]) (T:=[⟨[.old 2],_,[],[],[80]⟩,⟨[.op 0 0],_,[],[0],[81]⟩,⟨[.op 1 0],_,[],[0,1],[82]⟩,⟨[.op 2 0],_,[],[0,1,2],[79]⟩]) (F:=[.old 0,.old 1,.old 2,.old 3,.old 4,.old 5,.op 3 0]) (hst.pick [0,1,2,3,4,5] rfl) hb Zb
         (o_p rfl (Zd Zdh rfl rfl u_0)<|o_p rfl (Zf ty_3 rfl rfl u_0)<|o_p rfl (Zbs rfl rfl u_0 c_i)<|o_p rfl (Zc rfl rfl u_0)<|o_n) (by kernel_rfl) (fun a g hst hb=>?_)
        refine wp_cond_split (hst.bool 6 rfl) (fun hc26=>?_) (fun hc26=>?_)
        ·replace H0:=Zv hc26 H0
         refine r_s (L:=[(3,_),(4,_),(6,_),(8,_)]) (T:=[⟨[],_,[],[],[83]⟩,⟨[],_,[],[],[84]⟩,⟨[.op 0 0,.old 2],_,[7],[0],[6]⟩,⟨[],_,[],[0,2],[7]⟩,⟨[.op 1 0,.old 3],_,[9],Lr 4,[8]⟩]) (F:=[.old 0,.old 1,.op 2 0,.op 3 0,.op 4 0]) (hst.pick [0,1,3,4] rfl) hb Zb
          (o_p rfl (Znc rfl rfl )<|o_p rfl (Zqq rfl rfl )<|o_p rfl (Z2 Zbc rfl rfl u_1 u_0)<|o_p rfl (Zc rfl rfl c_b)<|o_p rfl (Z2 Zb9 rfl rfl u_1 u_0)<|o_n) (by kernel_rfl) (fun a g hst hb=>?_)
         refine wp_ret ?_
         refine Z6 ?_
         refine Zr ?_
         obtain rfl:=Option.some.inj H0
         obtain ⟨u0,hu0,hq0⟩:=Zbf (P:=Tryz.prog) Zbc (hst.at 2 rfl)
         obtain ⟨u2,hu2,hq2⟩:=Zbf (P:=Tryz.prog) Zb9 (hst.at 4 rfl)
         exact Zi3 rfl hst hb hu0 (Zk (s:=7)) hu2 (Zg1 hq0 (hst.at 3 rfl) hq2)
        ·replace H0:=Zw hc26 H0
         refine r_s (L:=[(3,_),(4,_),(5,_),(6,_),(8,_),(9,_)]) (T:=[⟨[.old 2],_,[],[],[86]⟩,⟨[.op 0 0],_,[],[0],[87]⟩,⟨[.op 1 0],_,[],[0,1],[88]⟩,⟨[.op 2 0],_,[],[0,1,2],[85]⟩]) (F:=[.old 0,.old 1,.old 2,.old 3,.old 4,.old 5,.op 3 0]) (hst.pick [0,1,2,3,4,5] rfl) hb Zb
          (o_p rfl (Zd Zdh rfl rfl u_0)<|o_p rfl (Zf ty_3 rfl rfl u_0)<|o_p rfl (Zbs rfl rfl u_0 c_i)<|o_p rfl (Zc rfl rfl u_0)<|o_n) (by kernel_rfl) (fun a g hst hb=>?_)
         refine wp_cond_split (hst.bool 6 rfl) (fun hc27=>?_) (fun hc27=>?_)
         ·replace H0:=Zv hc27 H0
          obtain ⟨r28,h29,H0⟩:=Zh H0
          refine r_s (L:=[(3,_),(4,_),(6,_),(8,_)]) (T:=[⟨[.old 0],_,[],[],[89]⟩,⟨[.old 1],_,[],[],[90]⟩,⟨[.old 0],_,[],[],[91]⟩,⟨[.op 2 0],_,[],[2],[92]⟩,⟨[.op 3 0],_,[],[2,3],[93]⟩,⟨[.op 0 0,.old 2],_,[7],[0,2,3],[6]⟩,⟨[.op 1 0],_,[],[0,1,2,3,5],[7]⟩,⟨[.op 4 0,.old 3],_,[9],Lr 7,[8]⟩]) (F:=[.old 0,.old 1,.op 5 0,.op 6 0,.op 7 0]) (hst.pick [0,1,3,4] rfl) hb Zb
           (o_p rfl (Zb0 Zbc rfl rfl u_0)<|o_p rfl (Zf ty_4 rfl rfl u_0)<|o_p rfl (Zb0 Zbc rfl rfl u_0)<|o_p rfl (Zo Zn8 (Zgr _ h29) rfl rfl (.cons u_0 .nil))<|o_p rfl (Z2i rfl rfl u_0)<|o_p rfl (Z2 Zbc rfl rfl u_1 u_0)<|o_p rfl (Zc rfl rfl u_0)<|o_p rfl (Z2 Zb9 rfl rfl u_1 u_0)<|o_n) (by kernel_rfl) (fun a g hst hb=>?_)
          refine wp_ret ?_
          refine Z6 ?_
          refine Zr ?_
          obtain rfl:=Option.some.inj H0
          obtain ⟨u0,hu0,hq0⟩:=Zbf (P:=Tryz.prog) Zbc (hst.at 2 rfl)
          obtain ⟨u2,hu2,hq2⟩:=Zbf (P:=Tryz.prog) Zb9 (hst.at 4 rfl)
          exact Zi3 rfl hst hb hu0 (Zk (s:=7)) hu2 (Zg1 hq0 (hst.at 3 rfl) hq2)
         ·replace H0:=Zw hc27 H0
          obtain ⟨r30,h31,H0⟩:=Zh H0
          refine r_s (L:=[(3,_),(4,_),(5,_),(6,_),(8,_),(9,_)]) (T:=[⟨[.old 2],_,[],[],[95]⟩,⟨[.op 0 0],_,[],[0],[96]⟩,⟨[.op 1 0],_,[],[0,1],[97]⟩,⟨[.old 0],_,[],[],[98]⟩,⟨[.op 3 0],_,[],[3],[99]⟩,⟨[.op 2 0,.op 4 0],_,[],Lr 5,[100]⟩,⟨[.op 5 0],_,[],Lr 6,[94]⟩]) (F:=[.old 0,.old 1,.old 2,.old 3,.old 4,.old 5,.op 6 0]) (hst.pick [0,1,2,3,4,5] rfl) hb Zb
           (o_p rfl (Zd Zdh rfl rfl u_0)<|o_p rfl (Zf ty_3 rfl rfl u_0)<|o_p rfl (Zo Zbck (Z37 _ h31) rfl rfl (.cons u_0 .nil))<|o_p rfl (Zt Zge (off:=0) (by kernel_rfl) rfl rfl u_0)<|o_p rfl (Zbr ty_3 rfl rfl u_0)<|o_p rfl (Zdk rfl rfl u_0 u_1)<|o_p rfl (Zc rfl rfl u_0)<|o_n) (by kernel_rfl) (fun a g hst hb=>?_)
          refine wp_cond_split (hst.bool 6 rfl) (fun hc32=>?_) (fun hc32=>?_)
          ·replace H0:=Zv hc32 H0
           obtain ⟨r33,h34,H0⟩:=Zh H0
           refine r_s (L:=[(3,_),(4,_),(6,_),(8,_),(9,_)]) (T:=[⟨[.old 4],_,[],[],[101]⟩,⟨[.op 0 0,.old 0],[(102,(pTup [(Zi.pd r33.1),(Zbg r33.2.1),(Zm.pd r33.2.2.1)])),(3,(pBox Zi 3 r33.2.2.2))],[4],[0],[3,9,101,102]⟩,⟨[.op 1 0],_,[],[0,1],[103]⟩,⟨[.op 1 0],_,[],[0,1],[104]⟩,⟨[.op 1 0],_,[],[0,1],[105]⟩,⟨[.op 2 0,.old 2],_,[7],Lr 5,[6]⟩,⟨[.op 3 0],_,[],Lr 6,[7]⟩,⟨[.op 4 0,.old 3],_,[9],Lr 7,[8]⟩]) (F:=[.op 1 1,.old 1,.op 5 0,.op 6 0,.op 7 0]) (hst.pick [0,1,3,4,5] rfl) hb Zb
            (o_p rfl (Za rfl rfl u_0)<|o_p rfl (Znd (Ps:=[.val (pInt .i64 (5:Int))]) (hs:=[]) (ks:=[(3,none,3)]) Zvb (Zjv _ _ _ h34) rfl rfl rfl u_0 (.val c_i .nil) (.box u_1 rfl (.val .nil)) rfl rfl rfl rfl)<|o_p rfl (Z0 rfl rfl u_0 rfl)<|o_p rfl (Z0 rfl rfl u_0 rfl)<|o_p rfl (Z0 rfl rfl u_0 rfl)<|o_p rfl (Z2 Zbc rfl rfl u_1 u_0)<|o_p rfl (Zc rfl rfl u_0)<|o_p rfl (Z2 Zb9 rfl rfl u_1 u_0)<|o_n) (by kernel_rfl) (fun a g hst hb=>?_)
           refine wp_ret ?_
           refine Z6 ?_
           refine Zr ?_
           obtain rfl:=Option.some.inj H0
           obtain ⟨u0,hu0,hq0⟩:=Zbf (P:=Tryz.prog) Zbc (hst.at 2 rfl)
           obtain ⟨u2,hu2,hq2⟩:=Zbf (P:=Tryz.prog) Zb9 (hst.at 4 rfl)
           exact Zi3 rfl hst hb hu0 (Zk (s:=7)) hu2 (Zg1 hq0 (hst.at 3 rfl) hq2)
          ·replace H0:=Zw hc32 H0
           refine wp_skip ?_
           refine Zbe ?_
           refine Zs ?_
           obtain ⟨r35,h36,H0⟩:=Zh H0
           refine r_s (L:=[(3,_),(4,_),(5,_),(6,_),(8,_)]) (T:=[⟨[.old 0],_,[],[],[106]⟩,⟨[.op 0 0],_,[],[0],[107]⟩,⟨[],[(12,(pBox Zi 12 (default:Ze)))],[13],[],[12]⟩,⟨[.op 1 0,.op 2 0],_,[13],[0,1,2],[12]⟩]) (F:=[.old 0,.old 1,.old 2,.old 3,.old 4,.op 3 0]) (hst.pick [0,1,2,3,4] rfl) hb Zb
            (o_p rfl (Zb0 Zbc rfl rfl u_0)<|o_p rfl (Zo Zn8 (Zgr _ h36) rfl rfl (.cons u_0 .nil))<|o_p rfl (Zbh (zs:=[.int .i64 0,.int .i64 0,.int .i64 0,.int .i64 0,.float .f64 0,.int .i64 0,.string ByteArray.empty,.slice none 0 0]) (by kernel_rfl) (fun g=>Zb4 g) rfl rfl)<|o_p rfl (Zb5 Zbc rfl rfl u_1 u_0)<|o_n) (by kernel_rfl) (fun a g hst hb=>?_)
           refine r_s (T:=[⟨[],[(13,(pBox Zm 13 (default:Zg)))],[14],[],[13]⟩]) (F:=[.old 0,.old 1,.old 2,.old 3,.old 4,.old 5,.op 0 0]) hst hb Zb
            (o_p rfl (Zbh (zs:=[.int .i64 0,.int .i64 0,.int .i64 0,.int .i64 0,.int .i64 0,.int .i64 0,.float .f64 0,.int .i64 0,.string ByteArray.empty,.slice none 0 0]) (by kernel_rfl) (fun g=>Zeb g) rfl rfl)<|o_n) (by kernel_rfl) (fun a g hst hb=>?_)
           refine wp_seq ?_
           obtain ⟨h37,H0⟩:=Zfz H0;obtain ⟨r38,h39,H0⟩:=Zh H0
           refine r_s (T:=[⟨[],_,[],[],[108]⟩,⟨[.old 2],_,[],[],[109]⟩,⟨[.op 1 0],_,[],[1],[110]⟩,⟨[.op 0 0,.op 2 0],[(111,(pFun Tryz.prog (Phi a2.Kind)))],[],[0,1,2],[111]⟩,⟨[.old 2],_,[],[],[112]⟩,⟨[.op 3 0,.old 0,.op 4 0,.old 6],[(113,(pInt .i64 r38.1)),(3,(pBox Zi 3 r38.2.1)),(13,(pBox Zm 13 r38.2.2))],[4,14],Lr 5,[3,13,113]⟩,⟨[.op 5 0],_,[],Lr 6,[14]⟩]) (F:=[.op 5 1,.old 1,.old 3,.old 4,.old 5,.op 5 2,.op 6 0]) hst hb Zb
            (o_p rfl (Zo Zbcs Zu9 rfl rfl .nil)<|o_p rfl (Zd Zdh rfl rfl u_0)<|o_p rfl (Zf ty_3 rfl rfl u_0)<|o_p rfl (Z1k Tryz.underlying157 (by kernel_rfl) ⟨_,Tryz.underlying156,rfl⟩ (by have:=h37;omega) (Zbav h37) (by have:=h37;omega) rfl rfl u_0 u_1)<|o_p rfl (Zf Zh1 rfl rfl u_0)<|o_p rfl (Z3h (hs:=[(3,none,3),(13,none,13)]) (Z8z h39) rfl rfl rfl u_0 (.box u_1 u_1 rfl (.val u_2 (.box u_3 u_3 rfl .nil))) rfl rfl rfl)<|o_p rfl (Zc rfl rfl u_0)<|o_n) (by kernel_rfl) (fun a g hst hb=>?_)
           refine r_s (T:=[⟨[.old 6],_,[],[],[114]⟩,⟨[.op 0 0],_,[],[0],[115]⟩]) (F:=[.old 0,.old 1,.old 2,.old 3,.old 4,.old 5,.old 6,.op 1 0]) hst hb Zb
            (o_p rfl (Za rfl rfl u_0)<|o_p rfl (Zdk rfl rfl u_0 c_i)<|o_n) (by kernel_rfl) (fun a g hst hb=>?_)
           refine wp_cond_split (hst.bool 7 rfl) (fun hc40=>?_) (fun hc40=>?_)
           ·replace H0:=Zv hc40 H0
            refine r_s (L:=[(3,_),(4,_),(6,_),(8,_),(12,_),(14,_)]) (T:=[⟨[.old 4],_,[],[],[116]⟩,⟨[.old 1],_,[],[],[117]⟩,⟨[.old 5],_,[],[],[118]⟩,⟨[.op 2 0],_,[],[2],[119]⟩,⟨[.op 0 0,.old 2],_,[7],[0],[6]⟩,⟨[.op 1 0],_,[],[0,1,4],[7]⟩,⟨[.op 3 0,.old 3],_,[9],Lr 6,[8]⟩]) (F:=[.old 0,.old 1,.op 4 0,.op 5 0,.op 6 0]) (hst.pick [0,1,2,3,4,6] rfl) hb Zb
             (o_p rfl (Zf Zbc rfl rfl u_0)<|o_p rfl (Zf ty_4 rfl rfl u_0)<|o_p rfl (Za rfl rfl u_0)<|o_p rfl (Zqn rfl rfl u_0)<|o_p rfl (Z2 Zbc rfl rfl u_1 u_0)<|o_p rfl (Zc rfl rfl u_0)<|o_p rfl (Z2 Zb9 rfl rfl u_1 u_0)<|o_n) (by kernel_rfl) (fun a g hst hb=>?_)
            refine wp_ret ?_
            refine Zr ?_
            obtain rfl:=Option.some.inj H0
            obtain ⟨u0,hu0,hq0⟩:=Zbf (P:=Tryz.prog) Zbc (hst.at 2 rfl)
            obtain ⟨u2,hu2,hq2⟩:=Zbf (P:=Tryz.prog) Zb9 (hst.at 4 rfl)
            exact Zi3 rfl hst hb hu0 (Zk (s:=7)) hu2 (Zg1 hq0 (hst.at 3 rfl) hq2)
           ·replace H0:=Zw hc40 H0
            refine wp_skip ?_
            refine Zs ?_
            refine r_s (L:=[(3,_),(4,_),(6,_),(8,_),(13,_)]) (T:=[⟨[.old 0],_,[],[],[120]⟩,⟨[.old 1],_,[],[],[121]⟩,⟨[.old 4],_,[],[],[122]⟩,⟨[.op 0 0,.old 2],_,[7],[0],[6]⟩,⟨[.op 1 0],_,[],[0,1,3],[7]⟩,⟨[.op 2 0,.old 3],_,[9],Lr 5,[8]⟩]) (F:=[.old 0,.old 1,.op 3 0,.op 4 0,.op 5 0]) (hst.pick [0,1,2,3,5] rfl) hb Zb
             (o_p rfl (Zb0 Zbc rfl rfl u_0)<|o_p rfl (Zf ty_4 rfl rfl u_0)<|o_p rfl (Zb0 Zb9 rfl rfl u_0)<|o_p rfl (Z2 Zbc rfl rfl u_1 u_0)<|o_p rfl (Zc rfl rfl u_0)<|o_p rfl (Z2 Zb9 rfl rfl u_1 u_0)<|o_n) (by kernel_rfl) (fun a g hst hb=>?_)
            refine wp_ret ?_
            obtain rfl:=Option.some.inj H0
            obtain ⟨u0,hu0,hq0⟩:=Zbf (P:=Tryz.prog) Zbc (hst.at 2 rfl)
            obtain ⟨u2,hu2,hq2⟩:=Zbf (P:=Tryz.prog) Zb9 (hst.at 4 rfl)
            exact Zi3 rfl hst hb hu0 (Zk (s:=7)) hu2 (Zg1 hq0 (hst.at 3 rfl) hq2)
   ·refine wp_cond_split (hst.bool 6 rfl) (fun hc10=>?_) (fun hc10=>?_)
    ·replace H0:=Zv hc10 H0
     obtain ⟨r11,h12,H0⟩:=Zh H0
     refine r_s (L:=[(3,_),(4,_),(5,_),(6,_),(8,_),(9,_)]) (T:=[⟨[.old 0],_,[],[],[32]⟩,⟨[.op 0 0],_,[],[0],[33]⟩,⟨[.op 1 0],_,[],[0,1],[11]⟩]) (F:=[.old 0,.old 1,.old 2,.old 3,.old 4,.old 5,.op 2 0]) (hst.pick [0,1,2,3,4,5] rfl) hb Zb
      (o_p rfl (Zb0 Zbc rfl rfl u_0)<|o_p rfl (Zo Z2s (Zps _ h12) rfl rfl (.cons u_0 .nil))<|o_p rfl (Zc rfl rfl u_0)<|o_n) (by kernel_rfl) (fun a g hst hb=>?_)
     refine r_s (T:=[⟨[.old 6],_,[],[],[34]⟩,⟨[.op 0 0],_,[],[0],[35]⟩]) (F:=[.old 0,.old 1,.old 2,.old 3,.old 4,.old 5,.old 6,.op 1 0]) hst hb Zb
      (o_p rfl (Za rfl rfl u_0)<|o_p rfl (Zdk rfl rfl u_0 c_i)<|o_n) (by kernel_rfl) (fun a g hst hb=>?_)
     refine wp_cond_split (hst.bool 7 rfl) (fun hc13=>?_) (fun hc13=>?_)
     ·replace H0:=Zv hc13 H0
      obtain ⟨r14,h15,H0⟩:=Zh H0
      refine r_s (L:=[(3,_),(4,_),(6,_),(8,_),(9,_),(11,_)]) (T:=[⟨[.old 4],_,[],[],[36]⟩,⟨[.old 5],_,[],[],[37]⟩,⟨[.op 0 0,.op 1 0,.old 0],[(38,(pTup [(Zi.pd r14.1),(Zbg r14.2.1),(Zm.pd r14.2.2.1)])),(3,(pBox Zi 3 r14.2.2.2))],[4],[0,1],[3,9,36,38]⟩,⟨[.op 2 0],_,[],[0,1,2],[39]⟩,⟨[.op 2 0],_,[],[0,1,2],[40]⟩,⟨[.op 2 0],_,[],[0,1,2],[41]⟩,⟨[.op 3 0,.old 2],_,[7],Lr 6,[6]⟩,⟨[.op 4 0],_,[],Lr 7,[7]⟩,⟨[.op 5 0,.old 3],_,[9],Lr 8,[8]⟩]) (F:=[.op 2 1,.old 1,.op 6 0,.op 7 0,.op 8 0]) (hst.pick [0,1,3,4,5,6] rfl) hb Zb
       (o_p rfl (Za rfl rfl u_0)<|o_p rfl (Za rfl rfl u_0)<|o_p rfl (Znd (Ps:=[.val (pInt .i64 r11)]) (hs:=[]) (ks:=[(3,none,3)]) Zvb (Zjv _ _ _ h15) rfl rfl rfl u_0 (.val u_1 .nil) (.box u_2 rfl (.val .nil)) rfl rfl rfl rfl)<|o_p rfl (Z0 rfl rfl u_0 rfl)<|o_p rfl (Z0 rfl rfl u_0 rfl)<|o_p rfl (Z0 rfl rfl u_0 rfl)<|o_p rfl (Z2 Zbc rfl rfl u_1 u_0)<|o_p rfl (Zc rfl rfl u_0)<|o_p rfl (Z2 Zb9 rfl rfl u_1 u_0)<|o_n) (by kernel_rfl) (fun a g hst hb=>?_)
      refine wp_ret ?_
      refine Zr ?_
      refine Zr ?_
      obtain rfl:=Option.some.inj H0
      obtain ⟨u0,hu0,hq0⟩:=Zbf (P:=Tryz.prog) Zbc (hst.at 2 rfl)
      obtain ⟨u2,hu2,hq2⟩:=Zbf (P:=Tryz.prog) Zb9 (hst.at 4 rfl)
      exact Zi3 rfl hst hb hu0 (Zk (s:=7)) hu2 (Zg1 hq0 (hst.at 3 rfl) hq2)
     ·replace H0:=Zw hc13 H0
      refine wp_skip ?_
      exact ⟨g,rfl,(hst.pick [0,1,2,3,4,5] rfl),hb,H0⟩
    ·replace H0:=Zw hc10 H0
     refine wp_skip ?_
     exact ⟨g,rfl,(hst.pick [0,1,2,3,4,5] rfl),hb,H0⟩
 ·refine wp_cond_split (hst.bool 5 rfl) (fun hc1=>?_) (fun hc1=>?_)
  ·replace H0:=Zv hc1 H0
   refine r_g (L:=[(3,_),(4,_),(5,_),(6,_),(8,_)]) (T:=[⟨[],_,[],[],[17]⟩,⟨[.op 0 0,.old 0],_,[4],[0],[3]⟩]) (F:=[.op 1 0,.old 1,.old 2,.old 3,.old 4]) (hst.pick [0,1,2,3,4] rfl) hb Zb
    (o_p rfl (Znc rfl rfl )<|o_p rfl (Z2 Zbc rfl rfl u_1 u_0)<|o_n) (by kernel_rfl) (fun a g hst hb=>?_)
   exact ⟨({ Kind:=(0:Int),Num:=(0:Int),Low:=(0:Int),High:=(0:Int),Real:=(0:Nat),Cap:=(0:Int),Text:=ByteArray.empty,List:=([]:List Zl) }:Ze),g,rfl,(hst.pick [0,1,2,3,4] rfl),hb,H0⟩
  ·replace H0:=Zw hc1 H0
   refine wp_skip ?_
   exact ⟨a0,g,rfl,(hst.pick [0,1,2,3,4] rfl),hb,H0⟩
theorem Z0y (a0:Zn) (a1:Zu) {r:Zn × Zg} (h:Zms a0 a1=some r):FnOk Tryz.prog 44 [(Zy.pd a0),(Z4.pd a1)] (pTup [(Zy.pd r.1),(Zm.pd r.2)]):=by
 have H0:=h
 unfold Zms at H0
 clear h
 refine Zbu (N:=66) Tryz.func44 rfl rfl (Nat.le_of_ble_eq_true rfl) rfl rfl (fun a g0 hst hb=>?_)
 refine r_s (T:=[⟨[.old 0],_,[3],[],[2]⟩,⟨[.old 1],_,[],[],[3]⟩,⟨[],[(4,(pBox Zy 4 (default:Zn)))],[5],[],[4]⟩,⟨[],[(5,(pBox Zm 5 (default:Zg)))],[6],[],[5]⟩]) (F:=[.op 0 0,.op 1 0,.op 2 0,.op 3 0]) hst hb Zb
  (o_p rfl (Zkm rfl rfl u_0)<|o_p rfl (Zbq rfl rfl u_0)<|o_p rfl (Zbh (zs:=[.pointer none,.int .i64 0]) (by kernel_rfl) (fun g=>Zdp g) rfl rfl)<|o_p rfl (Zbh (zs:=[.int .i64 0,.int .i64 0,.int .i64 0,.int .i64 0,.int .i64 0,.int .i64 0,.float .f64 0,.int .i64 0,.string ByteArray.empty,.slice none 0 0]) (by kernel_rfl) (fun g=>Zeb g) rfl rfl)<|o_n) (by kernel_rfl) (fun a g hst hb=>?_)
 obtain ⟨r1,h2,H0⟩:=Zh H0
 refine r_s (T:=[⟨[.old 0],_,[],[],[14]⟩,⟨[.old 1],_,[],[],[15]⟩,⟨[.op 1 0],_,[],[1],[16]⟩,⟨[.op 0 0,.op 2 0],_,[],[0,1,2],[17]⟩,⟨[.op 3 0],_,[],Lr 4,[13]⟩,⟨[.op 4 0],_,[],Lr 5,[18]⟩,⟨[.op 4 0],_,[],Lr 5,[19]⟩,⟨[],[(6,(pBox Zi 6 (default:Ze)))],[7],[],[6]⟩,⟨[.op 5 0,.op 7 0],_,[7],[0,1,2,3,4,5,7],[6]⟩,⟨[.op 6 0],_,[],Lr 9,[7]⟩]) (F:=[.old 0,.old 1,.old 2,.old 3,.op 8 0,.op 9 0]) hst hb Zb
  (o_p rfl (Zb0 Zbw rfl rfl u_0)<|o_p rfl (Zd Zic rfl rfl u_0)<|o_p rfl (Zf ty_9 rfl rfl u_0)<|o_p rfl (Zo Zs9 (Zg3 _ _ h2) rfl rfl (.cons u_0 (.cons u_1 .nil)))<|o_p rfl (Za rfl rfl u_0)<|o_p rfl (Z0 rfl rfl u_0 rfl)<|o_p rfl (Z0 rfl rfl u_0 rfl)<|o_p rfl (Zbh (zs:=[.int .i64 0,.int .i64 0,.int .i64 0,.int .i64 0,.float .f64 0,.int .i64 0,.string ByteArray.empty,.slice none 0 0]) (by kernel_rfl) (fun g=>Zb4 g) rfl rfl)<|o_p rfl (Zb5 Zbc rfl rfl u_1 u_0)<|o_p rfl (Zc rfl rfl u_0)<|o_n) (by kernel_rfl) (fun a g hst hb=>?_)
 obtain ⟨r3,h4,H0⟩:=Zh H0
 refine r_s (T:=⟨[.old 4],_,[],[],[21]⟩ :: ⟨[.old 5],_,[],[],[22]⟩ :: ⟨[.old 1],_,[],[],[23]⟩ :: ⟨[.op 0 0,.op 1 0,.op 2 0],_,[],[0,1,2],[24]⟩ :: ⟨[.op 3 0],_,[],Lr 4,[20]⟩ :: ⟨[.op 4 0],_,[],Lr 5,[25]⟩ :: ⟨[.op 4 0],_,[],Lr 5,[26]⟩ :: ⟨[.op 4 0],_,[],Lr 5,[27]⟩ :: ⟨[],[(8,(pBox Zi 8 (default:Ze)))],[9],[],[8]⟩ :: ⟨[],[(10,(pBox Zm 10 (default:Zg)))],[11],[],[10]⟩ :: ⟨[.op 5 0,.op 8 0],_,[9],[0,1,2,3,4,5,8,9],[8]⟩ :: ⟨[.op 6 0],_,[],[0,1,2,3,4,5,6,8,9,10],[9]⟩ :: ⟨[.op 7 0,.op 9 0],_,[11],Lr 12,[10]⟩ :: []) (F:=[.old 0,.old 1,.old 2,.old 3,.op 10 0,.op 11 0,.op 12 0]) hst hb Zb
  (o_p rfl (Zf Zbc rfl rfl u_0)<|o_p rfl (Za rfl rfl u_0)<|o_p rfl (Zf Zh1 rfl rfl u_0)<|o_p rfl (Zo Zbb0 (Zyf _ _ _ h4) rfl rfl (.cons u_0 (.cons u_1 (.cons u_2 .nil))))<|o_p rfl (Za rfl rfl u_0)<|o_p rfl (Z0 rfl rfl u_0 rfl)<|o_p rfl (Z0 rfl rfl u_0 rfl)<|o_p rfl (Z0 rfl rfl u_0 rfl)<|o_p rfl (Zbh (zs:=[.int .i64 0,.int .i64 0,.int .i64 0,.int .i64 0,.float .f64 0,.int .i64 0,.string ByteArray.empty,.slice none 0 0]) (by kernel_rfl) (fun g=>Zb4 g) rfl rfl)<|o_p rfl (Zbh (zs:=[.int .i64 0,.int .i64 0,.int .i64 0,.int .i64 0,.int .i64 0,.int .i64 0,.float .f64 0,.int .i64 0,.string ByteArray.empty,.slice none 0 0]) (by kernel_rfl) (fun g=>Zeb g) rfl rfl)<|o_p rfl (Zb5 Zbc rfl rfl u_1 u_0)<|o_p rfl (Zc rfl rfl u_0)<|o_p rfl (Zb5 Zb9 rfl rfl u_1 u_0)<|o_n) (by kernel_rfl) (fun a g hst hb=>?_)
 refine wp_seq ?_
 refine wp_block ?_
 obtain ⟨r5,h6,H0⟩:=Zh H0
 refine r_s (T:=[⟨[.old 6],_,[],[],[29]⟩,⟨[.op 0 0],_,[],[0],[30]⟩,⟨[.op 1 0],_,[],[0,1],[31]⟩,⟨[.op 2 0],_,[],[0,1,2],[32]⟩,⟨[.op 3 0,.old 1],_,[],Lr 4,[33]⟩,⟨[.op 3 0,.op 4 0],_,[],Lr 5,[34]⟩,⟨[.op 3 0,.op 5 0],_,[],Lr 6,[35]⟩,⟨[.op 3 0,.op 6 0],_,[],Lr 7,[36]⟩,⟨[.op 7 0],_,[],Lr 8,[28]⟩]) (F:=[.old 0,.old 1,.old 2,.old 3,.old 4,.old 5,.old 6,.op 8 0]) hst hb Zb
  (o_p rfl (Zd Zif rfl rfl u_0)<|o_p rfl (Zf Zj6 rfl rfl u_0)<|o_p rfl (Zdk rfl rfl u_0 c_i)<|o_p rfl (Za rfl rfl u_0)<|o_g (g_f rfl rfl rfl (fun hG=>Zd Zdh rfl rfl u_0))<|o_g (g_f rfl rfl rfl (fun hG=>Zf ty_3 rfl rfl (Opd.gd hG u_0)))<|o_g (g_f rfl rfl rfl (fun hG=>Zo Z68 (Zs1 _ (Zbn h6 hG)) rfl rfl (.cons (Opd.gd hG u_0) .nil)))<|o_p rfl (Zbo rfl rfl u_0 (fun hz=>(Opd.gd (bNF hz) u_1)))<|o_p rfl (Zc rfl rfl u_0)<|o_n) (by kernel_rfl) (fun a g hst hb=>?_)
 refine wp_cond_split (hst.bool 7 rfl) (fun hc7=>?_) (fun hc7=>?_)
 ·replace H0:=Zv hc7 H0
  refine r_s (L:=[(2,_),(4,_),(5,_),(10,_)]) (T:=[⟨[.old 0],_,[],[],[37]⟩,⟨[.old 3],_,[],[],[38]⟩,⟨[.op 0 0,.old 1],_,[5],[0],[4]⟩,⟨[.op 1 0,.old 2],_,[6],[0,1,2],[5]⟩]) (F:=[.op 2 0,.op 3 0]) (hst.pick [0,2,3,6] rfl) hb Zb
   (o_p rfl (Zb0 Zbw rfl rfl u_0)<|o_p rfl (Zf Zb9 rfl rfl u_0)<|o_p rfl (Z2 Zbw rfl rfl u_1 u_0)<|o_p rfl (Z2 Zb9 rfl rfl u_1 u_0)<|o_n) (by kernel_rfl) (fun a g hst hb=>?_)
  refine wp_ret ?_
  refine Z6 ?_
  refine Zr ?_
  obtain rfl:=Option.some.inj H0
  obtain ⟨u0,hu0,hq0⟩:=Zbf (P:=Tryz.prog) Zbw (hst.at 0 rfl)
  obtain ⟨u1,hu1,hq1⟩:=Zbf (P:=Tryz.prog) Zb9 (hst.at 1 rfl)
  exact Zdq rfl hst hb hu0 hu1 (Zcw hq0 hq1)
 ·replace H0:=Zw hc7 H0
  refine r_s (L:=[(2,_),(3,_),(4,_),(5,_),(8,_),(9,_),(10,_)]) (T:=[⟨[.old 5],_,[],[],[40]⟩,⟨[.op 0 0],_,[],[0],[41]⟩,⟨[.op 1 0],_,[],[0,1],[39]⟩]) (F:=[.old 0,.old 1,.old 2,.old 3,.old 4,.old 6,.op 2 0]) (hst.pick [0,1,2,3,4,5,6] rfl) hb Zb
   (o_p rfl (Za rfl rfl u_0)<|o_p rfl (Zb2 rfl rfl u_0)<|o_p rfl (Zc rfl rfl u_0)<|o_n) (by kernel_rfl) (fun a g hst hb=>?_)
  refine wp_cond_split (hst.bool 6 rfl) (fun hc8=>?_) (fun hc8=>?_)
  ·replace H0:=Zv hc8 H0
   obtain ⟨r9,h10,H0⟩:=Zh H0
   refine r_s (L:=[(2,_),(3,_),(4,_),(5,_),(10,_)]) (T:=[⟨[.old 0],_,[],[],[43]⟩,⟨[.old 1],_,[],[],[44]⟩,⟨[.op 1 0],_,[],[1],[45]⟩,⟨[.op 0 0,.op 2 0],_,[],[0,1,2],[46]⟩,⟨[.op 3 0],_,[],Lr 4,[42]⟩,⟨[.op 4 0],_,[],Lr 5,[47]⟩,⟨[.op 4 0],_,[],Lr 5,[48]⟩,⟨[.op 5 0,.old 0],_,[3],Lr 6,[2]⟩]) (F:=[.op 7 0,.old 2,.old 3,.old 4]) (hst.pick [0,1,2,3,5] rfl) hb Zb
    (o_p rfl (Zb0 Zbw rfl rfl u_0)<|o_p rfl (Zd Zic rfl rfl u_0)<|o_p rfl (Zf ty_9 rfl rfl u_0)<|o_p rfl (Zo Z7k (Zon _ _ h10) rfl rfl (.cons u_0 (.cons u_1 .nil)))<|o_p rfl (Za rfl rfl u_0)<|o_p rfl (Z0 rfl rfl u_0 rfl)<|o_p rfl (Z0 rfl rfl u_0 rfl)<|o_p rfl (Z2 Zbw rfl rfl u_1 u_0)<|o_n) (by kernel_rfl) (fun a g hst hb=>?_)
   refine r_s (T:=[⟨[.old 0],_,[],[],[49]⟩,⟨[.old 3],_,[],[],[50]⟩,⟨[.op 0 0,.old 1],_,[5],[0],[4]⟩,⟨[.op 1 0,.old 2],_,[6],[0,1,2],[5]⟩]) (F:=[.op 2 0,.op 3 0]) hst hb Zb
    (o_p rfl (Zb0 Zbw rfl rfl u_0)<|o_p rfl (Zf Zb9 rfl rfl u_0)<|o_p rfl (Z2 Zbw rfl rfl u_1 u_0)<|o_p rfl (Z2 Zb9 rfl rfl u_1 u_0)<|o_n) (by kernel_rfl) (fun a g hst hb=>?_)
   refine wp_ret ?_
   refine Z6 ?_
   refine Zr ?_
   obtain rfl:=Option.some.inj H0
   obtain ⟨u0,hu0,hq0⟩:=Zbf (P:=Tryz.prog) Zbw (hst.at 0 rfl)
   obtain ⟨u1,hu1,hq1⟩:=Zbf (P:=Tryz.prog) Zb9 (hst.at 1 rfl)
   exact Zdq rfl hst hb hu0 hu1 (Zcw hq0 hq1)
  ·replace H0:=Zw hc8 H0
   refine wp_skip ?_
   refine Zbe ?_
   refine Zs ?_
   obtain ⟨r11,h12,H0⟩:=Zh H0
   refine r_s (L:=[(2,_),(3,_),(4,_),(5,_),(8,_),(10,_)]) (T:=[⟨[.old 0],_,[],[],[52]⟩,⟨[.old 1],_,[],[],[53]⟩,⟨[.op 1 0],_,[],[1],[54]⟩,⟨[.old 4],_,[],[],[55]⟩,⟨[.op 0 0,.op 2 0,.op 3 0],_,[],Lr 4,[56]⟩,⟨[.op 4 0],_,[],Lr 5,[51]⟩,⟨[.op 5 0],_,[],Lr 6,[57]⟩,⟨[.op 5 0],_,[],Lr 6,[58]⟩,⟨[],[(11,(pBox Zy 11 (default:Zn)))],[12],[],[11]⟩,⟨[.op 6 0,.op 8 0],_,[12],[0,1,2,3,4,5,6,8],[11]⟩,⟨[.op 7 0],_,[],Lr 10,[12]⟩]) (F:=[.old 0,.old 2,.old 3,.old 5,.op 9 0,.op 10 0]) (hst.pick [0,1,2,3,4,5] rfl) hb Zb
    (o_p rfl (Zb0 Zbw rfl rfl u_0)<|o_p rfl (Zd Zic rfl rfl u_0)<|o_p rfl (Zf ty_9 rfl rfl u_0)<|o_p rfl (Zf Zbc rfl rfl u_0)<|o_p rfl (Zo Zyt (Zj3 _ _ _ h12) rfl rfl (.cons u_0 (.cons u_1 (.cons u_2 .nil))))<|o_p rfl (Za rfl rfl u_0)<|o_p rfl (Z0 rfl rfl u_0 rfl)<|o_p rfl (Z0 rfl rfl u_0 rfl)<|o_p rfl (Zbh (zs:=[.pointer none,.int .i64 0]) (by kernel_rfl) (fun g=>Zdp g) rfl rfl)<|o_p rfl (Zb5 Zbw rfl rfl u_1 u_0)<|o_p rfl (Zc rfl rfl u_0)<|o_n) (by kernel_rfl) (fun a g hst hb=>?_)
   refine wp_seq ?_
   refine r_s (T:=[⟨[.old 5],_,[],[],[59]⟩,⟨[.op 0 0],_,[],[0],[60]⟩]) (F:=[.old 0,.old 1,.old 2,.old 3,.old 4,.old 5,.op 1 0]) hst hb Zb
    (o_p rfl (Za rfl rfl u_0)<|o_p rfl (Zdk rfl rfl u_0 c_i)<|o_n) (by kernel_rfl) (fun a g hst hb=>?_)
   refine wp_cond_split (hst.bool 6 rfl) (fun hc13=>?_) (fun hc13=>?_)
   ·replace H0:=Zv hc13 H0
    refine r_s (L:=[(2,_),(4,_),(5,_),(12,_)]) (T:=[⟨[.old 0],_,[],[],[61]⟩,⟨[.old 3],_,[],[],[62]⟩,⟨[.op 1 0],_,[],[1],[63]⟩,⟨[.op 0 0,.old 1],_,[5],[0],[4]⟩,⟨[.op 2 0,.old 2],_,[6],Lr 4,[5]⟩]) (F:=[.op 3 0,.op 4 0]) (hst.pick [0,1,2,5] rfl) hb Zb
     (o_p rfl (Zb0 Zbw rfl rfl u_0)<|o_p rfl (Za rfl rfl u_0)<|o_p rfl (Zqn rfl rfl u_0)<|o_p rfl (Z2 Zbw rfl rfl u_1 u_0)<|o_p rfl (Z2 Zb9 rfl rfl u_1 u_0)<|o_n) (by kernel_rfl) (fun a g hst hb=>?_)
    refine wp_ret ?_
    refine Zr ?_
    obtain rfl:=Option.some.inj H0
    obtain ⟨u0,hu0,hq0⟩:=Zbf (P:=Tryz.prog) Zbw (hst.at 0 rfl)
    obtain ⟨u1,hu1,hq1⟩:=Zbf (P:=Tryz.prog) Zb9 (hst.at 1 rfl)
    exact Zdq rfl hst hb hu0 hu1 (Zcw hq0 hq1)
   ·replace H0:=Zw hc13 H0
    refine wp_skip ?_
    refine Zs ?_
    refine r_s (L:=[(4,_),(5,_),(10,_),(11,_)]) (T:=[⟨[.old 3],_,[],[],[64]⟩,⟨[.old 2],_,[],[],[65]⟩,⟨[.op 0 0,.old 0],_,[5],[0],[4]⟩,⟨[.op 1 0,.old 1],_,[6],[0,1,2],[5]⟩]) (F:=[.op 2 0,.op 3 0]) (hst.pick [1,2,3,4] rfl) hb Zb
     (o_p rfl (Zf Zbw rfl rfl u_0)<|o_p rfl (Zf Zb9 rfl rfl u_0)<|o_p rfl (Z2 Zbw rfl rfl u_1 u_0)<|o_p rfl (Z2 Zb9 rfl rfl u_1 u_0)<|o_n) (by kernel_rfl) (fun a g hst hb=>?_)
    refine wp_ret ?_
    obtain rfl:=Option.some.inj H0
    obtain ⟨u0,hu0,hq0⟩:=Zbf (P:=Tryz.prog) Zbw (hst.at 0 rfl)
    obtain ⟨u1,hu1,hq1⟩:=Zbf (P:=Tryz.prog) Zb9 (hst.at 1 rfl)
    exact Zdq rfl hst hb hu0 hu1 (Zcw hq0 hq1)
theorem Zr5 (a0:Z3) {r:Bool × Z3} (h:Zji a0=some r):FnMR Tryz.prog 19 Zcs a0 r.2 [] (Zbg r.1):=by
 have H0:=h
 unfold Zji at H0
 clear h
 refine Ztq (N:=86) Tryz.func19 rfl rfl (Nat.le_of_ble_eq_true rfl) rfl rfl (fun a g0 b0 hst hb=>?_)
 replace hst:St 86 [(0,(pEq (ptrB b0 0))),(1002,(pSJ Zbp Zcc (hpL (pRow Zm 68 1000000 (Zdo a0))) 0 b0 a0))] _ _:=Zrf hst
 refine r_s (T:=[⟨[],_,[],[],[2]⟩]) (F:=[.old 0,.old 1]) hst hb Zb
  (o_p rfl (Zc rfl rfl c_b)<|o_n) (by kernel_rfl) (fun a g hst hb=>?_)
 refine wp_seq ?_
 refine r_s (T:=[⟨[.old 0],_,[],[],[6]⟩,⟨[.op 0 0],_,[],[0],[7]⟩,⟨[.op 1 0],_,[],[0,1],[8]⟩,⟨[.op 2 0,.old 1],_,[],[0,1,2],[9]⟩]) (F:=[.old 0,.op 3 0,.old 1]) hst hb Zb
  (o_p rfl (Za rfl rfl u_0)<|o_p rfl (Zq rfl rfl u_0 (fun _ _ h=>⟨_,h⟩))<|o_p rfl (Zcd Zn2 rfl rfl u_0)<|o_p rfl (Zfx (u:=a0.over) ty_4 (fun g s cs h _=>kp_4 h) rfl rfl u_1 u_0)<|o_n) (by kernel_rfl) (fun a g hst hb=>?_)
 refine wp_cond_split (hst.bool 1 rfl) (fun hc1=>?_) (fun hc1=>?_)
 ·replace H0:=Zv hc1 H0
  refine r_s (L:=[(0,_),(1002,_)]) (T:=[⟨[],_,[],[],[2]⟩]) (F:=[.old 0,.op 0 0,.old 1]) (hst.pick [0,2] rfl) hb Zb
   (o_p rfl (Zc rfl rfl c_b)<|o_n) (by kernel_rfl) (fun a g hst hb=>?_)
  refine wp_ret ?_
  refine Zr ?_
  obtain rfl:=Option.some.inj H0
  exact Zyk rfl hst hb (Zk (s:=2)) (hst.at 1 rfl) (hst.at 2 rfl)
 ·replace H0:=Zw hc1 H0
  refine wp_skip ?_
  refine Zs ?_
  refine r_s (L:=[(0,_),(1002,_)]) (T:=[⟨[.old 0],_,[],[],[10]⟩,⟨[.op 0 0],_,[],[0],[11]⟩,⟨[.op 1 0],_,[],[0,1],[12]⟩,⟨[.op 2 0],_,[],[0,1,2],[13]⟩,⟨[.op 3 0,.old 1],[(14,(pRow Zm 68 1000000 a0.out.Answers))],[],Lr 4,[14]⟩,⟨[.op 4 0],_,[],Lr 5,[15]⟩,⟨[.op 5 0],_,[],Lr 6,[3]⟩]) (F:=[.old 0,.op 6 0,.op 4 0,.old 1]) (hst.pick [0,2] rfl) hb Zb
   (o_p rfl (Za rfl rfl u_0)<|o_p rfl (Zq rfl rfl u_0 (fun _ _ h=>⟨_,h⟩))<|o_p rfl (Zcd Znz rfl rfl u_0)<|o_p rfl (Zcd Zwt rfl rfl u_0)<|o_p rfl (Zub Zpj (fun g s cs h=>Z46 h) rfl rfl u_1 u_0)<|o_p rfl (Zb1 Tryz.underlying47 rfl rfl (Opd.imp u_0 (fun _ _ h=>Zgi h)))<|o_p rfl (Zc rfl rfl u_0)<|o_n) (by kernel_rfl) (fun a g hst hb=>?_)
  obtain ⟨e2,h3,H0⟩:=Zh H0
  refine r_s (T:=[⟨[.old 0],_,[],[],[16]⟩,⟨[.op 0 0],_,[],[0],[17]⟩,⟨[.op 1 0],_,[],[0,1],[18]⟩,⟨[.op 2 0],_,[],[0,1,2],[19]⟩,⟨[.op 3 0,.old 3],_,[],Lr 4,[20]⟩,⟨[.old 1],_,[],[],[21]⟩,⟨[.op 4 0,.op 5 0],_,[],Lr 6,[22]⟩,⟨[.op 6 0],_,[],Lr 7,[23]⟩,⟨[],[(4,(pBox Z4 4 (default:Zu)))],[5],[],[4]⟩,⟨[.op 7 0,.op 8 0],_,[5],Lr 9,[4]⟩]) (F:=[.old 0,.old 1,.op 9 0,.old 2,.old 3]) hst hb Zb
   (o_p rfl (Za rfl rfl u_0)<|o_p rfl (Zq rfl rfl u_0 (fun _ _ h=>⟨_,h⟩))<|o_p rfl (Zcd Zwb rfl rfl u_0)<|o_p rfl (Zcd Zw2 rfl rfl u_0)<|o_p rfl (Zfx (u:=a0.d.Acts) Zkf (fun g s cs h _=>Zy8 h) rfl rfl u_1 u_0)<|o_p rfl (Za rfl rfl u_0)<|o_p rfl (Zbl Tryz.underlying23 Zo0 rfl rfl u_0 u_1 h3)<|o_p rfl (Zf Zh1 rfl rfl u_0)<|o_p rfl (Zbh (zs:=[.int .i64 0,.string ByteArray.empty,.int .i64 0,.float .f64 0,.string ByteArray.empty,.int .i64 0,.int .i64 0,.int .i64 0,.int .i64 0,.float .f64 0,.int .i64 0,.string ByteArray.empty,.slice none 0 0,.bool false]) (by kernel_rfl) (fun g=>Zo1 g) rfl rfl)<|o_p rfl (Zb5 Zh1 rfl rfl u_1 u_0)<|o_n) (by kernel_rfl) (fun a g hst hb=>?_)
  refine r_s (T:=[⟨[],[(5,(pBox Zm 5 (default:Zg)))],[6],[],[5]⟩]) (F:=[.old 0,.old 1,.old 2,.op 0 0,.old 3,.old 4]) hst hb Zb
   (o_p rfl (Zbh (zs:=[.int .i64 0,.int .i64 0,.int .i64 0,.int .i64 0,.int .i64 0,.int .i64 0,.float .f64 0,.int .i64 0,.string ByteArray.empty,.slice none 0 0]) (by kernel_rfl) (fun g=>Zeb g) rfl rfl)<|o_n) (by kernel_rfl) (fun a g hst hb=>?_)
  refine wp_seq ?_
  obtain ⟨r4,h5,H0⟩:=Zh H0
  refine r_s (T:=[⟨[.old 0],_,[],[],[24]⟩,⟨[.op 0 0],_,[],[0],[25]⟩,⟨[.op 1 0],_,[],[0,1],[26]⟩,⟨[.op 2 0,.old 5],_,[],[0,1,2],[27]⟩,⟨[.old 2],_,[],[],[28]⟩,⟨[.op 4 0],_,[],[4],[29]⟩,⟨[.op 3 0,.op 5 0],_,[],Lr 6,[30]⟩,⟨[.op 6 0],_,[],Lr 7,[31]⟩]) (F:=[.old 0,.old 1,.old 2,.old 3,.old 4,.op 7 0,.old 5]) hst hb Zb
   (o_p rfl (Za rfl rfl u_0)<|o_p rfl (Zq rfl rfl u_0 (fun _ _ h=>⟨_,h⟩))<|o_p rfl (Zcd Z1n rfl rfl u_0)<|o_p rfl (Zfx (u:=a0.split) Z7b (fun g s cs h _=>kp_1 h) rfl rfl u_1 u_0)<|o_p rfl (Zd Zic rfl rfl u_0)<|o_p rfl (Zf ty_9 rfl rfl u_0)<|o_p rfl (Zo Z7q (Zjb _ _ h5) rfl rfl (.cons u_0 (.cons u_1 .nil)))<|o_p rfl (Zb2 rfl rfl u_0)<|o_n) (by kernel_rfl) (fun a g hst hb=>?_)
  refine Zca (fun a w=>∃ (j9:Zg) (j10:Z3) (g:G),w=g.w ∧ St 86 [(0,(pEq (ptrB b0 0))),(3,(pInt .i64 (a0.out.Answers.length:Int))),(4,(Z4.ptr e2)),(5,(pBox Zm 5 j9)),(14,(pRow Zm 68 1000000 a0.out.Answers)),(1002,(pSJ Zbp Zcc (hpL (pRow Zm 68 1000000 (Zdo j10))) 0 b0 j10))] a g ∧ Base g0 g ∧ Zhd a0 e2 j9 j10=some r) ?_ ?_
  ·rintro a w ⟨j9,j10,g,rfl,hst,hb,H0⟩
   unfold Zhd at H0
   refine Zs ?_
   refine wp_seq ?_
   refine r_s (T:=[⟨[.old 2],_,[],[],[44]⟩,⟨[.op 0 0],_,[],[0],[45]⟩,⟨[.op 1 0],_,[],[0,1],[46]⟩,⟨[.op 2 0,.old 3],_,[],[0,1,2],[47]⟩,⟨[.op 2 0,.op 3 0],_,[],Lr 4,[48]⟩,⟨[.op 2 0,.op 4 0],_,[],Lr 5,[49]⟩,⟨[.op 2 0,.op 5 0],_,[],Lr 6,[50]⟩]) (F:=[.old 0,.old 1,.old 3,.old 4,.op 6 0,.old 5]) hst hb Zb
    (o_p rfl (Zd Z1q rfl rfl u_0)<|o_p rfl (Zf ty_4 rfl rfl u_0)<|o_p rfl (Za rfl rfl u_0)<|o_g (g_t rfl rfl rfl (fun hG=>Zt Zif (off:=0) (by kernel_rfl) rfl rfl u_0))<|o_g (g_t rfl rfl rfl (fun hG=>Zbr Zj6 rfl rfl (Opd.gd hG u_0)))<|o_g (g_t rfl rfl rfl (fun hG=>Zdk rfl rfl (Opd.gd hG u_0) c_i))<|o_p rfl (Zbi rfl rfl u_0 (fun hz=>(Opd.gd hz u_1)))<|o_n) (by kernel_rfl) (fun a g hst hb=>?_)
   refine wp_cond_split (hst.bool 4 rfl) (fun hc11=>?_) (fun hc11=>?_)
   ·replace H0:=Zv hc11 H0
    refine r_s (L:=[(0,_),(3,_),(5,_),(14,_),(1002,_)]) (T:=⟨[.old 0],_,[],[],[51]⟩ :: ⟨[.old 0],_,[],[],[52]⟩ :: ⟨[.old 2],_,[],[],[53]⟩ :: ⟨[.op 2 0],_,[],[2],[54]⟩ :: ⟨[.old 1],_,[],[],[55]⟩ :: ⟨[.op 4 0],_,[],[4],[56]⟩ :: ⟨[.op 3 0,.op 5 0],[(57,(Zb8.pd (Zcb ({ Code:=j9.Code,At:=(IntKind.i64.wrap ((a0.out.Answers.length:Int) + (1:Int))),Answers:=([]:List Zg) }:Z1) (none,0,0))))],[],List.range' 2 4,[57]⟩ :: ⟨[.op 0 0],_,[],[0,2,3,4,5,6],[58]⟩ :: ⟨[.op 7 0],_,[],[0,2,3,4,5,6,7],[59]⟩ :: ⟨[.op 8 0,.op 6 0,.old 4],[(1002,(pSJ Zbp Zcc (hpL (pRow Zm 68 1000000 (Zdo ({ j10 with out:=({ Code:=j9.Code,At:=(IntKind.i64.wrap ((a0.out.Answers.length:Int) + (1:Int))),Answers:=([]:List Zg) }:Z1) }:Z3)))) 0 b0 ({ j10 with out:=({ Code:=j9.Code,At:=(IntKind.i64.wrap ((a0.out.Answers.length:Int) + (1:Int))),Answers:=([]:List Zg) }:Z1) }:Z3)))],[1],[0,2,3,4,5,6,7,8],[1002]⟩ :: ⟨[.op 1 0],_,[],Lr 10,[60]⟩ :: ⟨[.op 10 0],_,[],Lr 11,[61]⟩ :: ⟨[.op 11 0,.op 9 0],[(1002,(pSJ Zbp Zcc (hpL (pRow Zm 68 1000000 (Zdo ({ ({ j10 with out:=({ Code:=j9.Code,At:=(IntKind.i64.wrap ((a0.out.Answers.length:Int) + (1:Int))),Answers:=([]:List Zg) }:Z1) }:Z3) with over:=true }:Z3)))) 0 b0 ({ ({ j10 with out:=({ Code:=j9.Code,At:=(IntKind.i64.wrap ((a0.out.Answers.length:Int) + (1:Int))),Answers:=([]:List Zg) }:Z1) }:Z3) with over:=true }:Z3)))],[1],Lr 12,[1002]⟩ :: []) (F:=[.old 0,.op 12 0]) (hst.pick [0,1,2,3,5] rfl) hb Zb
     (o_p rfl (Za rfl rfl u_0)<|o_p rfl (Za rfl rfl u_0)<|o_p rfl (Zt Zif (off:=0) (by kernel_rfl) rfl rfl u_0)<|o_p rfl (Zbr Zj6 rfl rfl u_0)<|o_p rfl (Za rfl rfl u_0)<|o_p rfl (Zb7 rfl rfl u_0 c_i rfl)<|o_p rfl (Zv7 rfl rfl u_0 u_1)<|o_p rfl (Zq rfl rfl u_0 (fun _ _ h=>⟨_,h⟩))<|o_p rfl (Zcd Znz rfl rfl u_0)<|o_p rfl (Zle Z5o rfl rfl (fun k hk=>by rw [List.mem_singleton.1 hk];decide) u_2 u_0 u_1 (fun g g' cs s0 ys h hr hy=>⟨(none,0,0),Z4q h hy,Zpg 1000000 g'⟩))<|o_p rfl (Zq rfl rfl u_0 (fun _ _ h=>⟨_,h⟩))<|o_p rfl (Zcd Zn2 rfl rfl u_0)<|o_p rfl (Zle ty_4 rfl rfl (fun k hk=>by rw [List.mem_singleton.1 hk];decide) u_1 u_0 c_b (fun g g' cs s0 ys h hr hy=>⟨s0,wp_4 h hy,hr⟩))<|o_n) (by kernel_rfl) (fun a g hst hb=>?_)
    refine r_s (T:=[⟨[],_,[],[],[2]⟩]) (F:=[.old 0,.op 0 0,.old 1]) hst hb Zb
     (o_p rfl (Zc rfl rfl c_b)<|o_n) (by kernel_rfl) (fun a g hst hb=>?_)
    refine wp_ret ?_
    refine Zr ?_
    obtain rfl:=Option.some.inj H0
    exact Zyk rfl hst hb (Zk (s:=2)) (hst.at 1 rfl) (hst.at 2 rfl)
   ·replace H0:=Zw hc11 H0
    refine wp_skip ?_
    refine Zs ?_
    obtain ⟨h12,H0⟩:=Zfz H0
    refine r_s (L:=[(0,_),(3,_),(5,_),(14,_),(1002,_)]) (T:=⟨[.old 0],_,[],[],[62]⟩ :: ⟨[.old 0],_,[],[],[63]⟩ :: ⟨[.op 1 0],_,[],[1],[64]⟩ :: ⟨[.op 2 0],_,[],[1,2],[65]⟩ :: ⟨[.op 3 0],_,[],[1,2,3],[66]⟩ :: ⟨[.op 4 0,.old 4],[(67,(pRow Zm 68 1000000 j10.out.Answers))],[],List.range' 1 4,[67]⟩ :: ⟨[.old 2],_,[],[],[68]⟩ :: ⟨[.op 6 0],_,[],[6],[69]⟩ :: ⟨[.op 5 0,.op 7 0,.old 4],[(1002,(pSJ Zbp Zcc hpT 0 b0 j10)),(70,(pRow Zm 68 1000000 (j10.out.Answers ++ ([j9]:List Zg))))],[1000001],List.range' 1 7,[14,67,70,1002]⟩ :: ⟨[.op 0 0],_,[],Lr 9,[71]⟩ :: ⟨[.op 9 0],_,[],Lr 10,[72]⟩ :: ⟨[.op 10 0],_,[],Lr 11,[73]⟩ :: ⟨[.op 11 0,.op 8 1,.op 8 0],[(1002,(pSJ Zbp Zcc (hpL (pRow Zm 68 1000000 (Zdo ({ j10 with out:={ j10.out with Answers:=(j10.out.Answers ++ ([j9]:List Zg)) } }:Z3)))) 0 b0 ({ j10 with out:={ j10.out with Answers:=(j10.out.Answers ++ ([j9]:List Zg)) } }:Z3)))],[1],Lr 12,[1002]⟩ :: []) (F:=[.old 0,.old 1,.op 12 0]) (hst.pick [0,1,2,3,5] rfl) hb Zb
     (o_p rfl (Za rfl rfl u_0)<|o_p rfl (Za rfl rfl u_0)<|o_p rfl (Zq rfl rfl u_0 (fun _ _ h=>⟨_,h⟩))<|o_p rfl (Zcd Znz rfl rfl u_0)<|o_p rfl (Zcd Zwt rfl rfl u_0)<|o_p rfl (Zub Zpj (fun g s cs h=>Z46 h) rfl rfl u_1 u_0)<|o_p rfl (Zb0 Zb9 rfl rfl u_0)<|o_p rfl (Ziw Zq6 (xs:=[.tmp 68]) (.cons u_0 .nil) (by decide) rfl rfl)<|o_p rfl (OB.frameU (Zfr Zq6 rfl rfl u_0 u_1 h12) (Opd.imp u_2 (fun _ _ h=>sj_T h)) (fun k hk hS=>Zbaj (List.mem_singleton.1 hk) (List.mem_singleton.1 hS) (by decide)) (fun h=>by cases h))<|o_p rfl (Zq rfl rfl u_0 (fun _ _ h=>⟨_,h⟩))<|o_p rfl (Zcd Znz rfl rfl u_0)<|o_p rfl (Zcd Zwt rfl rfl u_0)<|o_p rfl (Zy1 Zpj rfl rfl (fun _ _ h=>Z8o h) (fun k hk=>by cases hk) (fun k hk=>by rw [List.mem_singleton.1 hk];decide) u_2 u_0 u_1 (fun g cs s0 s1 ys h hy=>Zbah h hy))<|o_n) (by kernel_rfl) (fun a g hst hb=>?_)
    refine r_s (T:=⟨[.old 0],_,[],[],[74]⟩ :: ⟨[.old 1],_,[],[],[75]⟩ :: ⟨[.op 1 0],_,[],[1],[76]⟩ :: ⟨[.old 0],_,[],[],[77]⟩ :: ⟨[.op 3 0],_,[],[3],[78]⟩ :: ⟨[.op 4 0],_,[],[3,4],[79]⟩ :: ⟨[.op 5 0],_,[],[3,4,5],[80]⟩ :: ⟨[.op 6 0,.old 2],_,[],List.range' 3 4,[81]⟩ :: ⟨[.op 7 0],_,[],List.range' 3 5,[82]⟩ :: ⟨[.op 2 0,.op 8 0],_,[],List.range' 1 8,[83]⟩ :: ⟨[.op 0 0],_,[],Lr 10,[84]⟩ :: ⟨[.op 10 0],_,[],Lr 11,[85]⟩ :: ⟨[.op 11 0,.op 9 0,.old 2],[(1002,(pSJ Zbp Zcc (hpL (pRow Zm 68 1000000 (Zdo ({ ({ j10 with out:={ j10.out with Answers:=(j10.out.Answers ++ ([j9]:List Zg)) } }:Z3) with over:=((IntKind.i64.wrap ((a0.out.Answers.length:Int) + (1:Int))) == (((({ j10 with out:={ j10.out with Answers:=(j10.out.Answers ++ ([j9]:List Zg)) } }:Z3).d).Acts).length:Int)) }:Z3)))) 0 b0 ({ ({ j10 with out:={ j10.out with Answers:=(j10.out.Answers ++ ([j9]:List Zg)) } }:Z3) with over:=((IntKind.i64.wrap ((a0.out.Answers.length:Int) + (1:Int))) == (((({ j10 with out:={ j10.out with Answers:=(j10.out.Answers ++ ([j9]:List Zg)) } }:Z3).d).Acts).length:Int)) }:Z3)))],[1],Lr 12,[1002]⟩ :: []) (F:=[.old 0,.op 12 0]) hst hb Zb
     (o_p rfl (Za rfl rfl u_0)<|o_p rfl (Za rfl rfl u_0)<|o_p rfl (Zb7 rfl rfl u_0 c_i rfl)<|o_p rfl (Za rfl rfl u_0)<|o_p rfl (Zq rfl rfl u_0 (fun _ _ h=>⟨_,h⟩))<|o_p rfl (Zcd Zwb rfl rfl u_0)<|o_p rfl (Zcd Zw2 rfl rfl u_0)<|o_p rfl (Zfx (u:=(({ j10 with out:={ j10.out with Answers:=(j10.out.Answers ++ ([j9]:List Zg)) } }:Z3).d).Acts) Zkf (fun g s cs h _=>Zy8 h) rfl rfl u_1 u_0)<|o_p rfl (Zb1 Tryz.underlying23 rfl rfl u_0)<|o_p rfl (Zbs rfl rfl u_0 u_1)<|o_p rfl (Zq rfl rfl u_0 (fun _ _ h=>⟨_,h⟩))<|o_p rfl (Zcd Zn2 rfl rfl u_0)<|o_p rfl (Zle ty_4 rfl rfl (fun k hk=>by rw [List.mem_singleton.1 hk];decide) u_2 u_0 u_1 (fun g g' cs s0 ys h hr hy=>⟨s0,wp_4 h hy,hr⟩))<|o_n) (by kernel_rfl) (fun a g hst hb=>?_)
    refine r_s (T:=[⟨[],_,[],[],[2]⟩]) (F:=[.old 0,.op 0 0,.old 1]) hst hb Zb
     (o_p rfl (Zc rfl rfl c_b)<|o_n) (by kernel_rfl) (fun a g hst hb=>?_)
    refine wp_ret ?_
    obtain rfl:=Option.some.inj H0
    exact Zyk rfl hst hb (Zk (s:=2)) (hst.at 1 rfl) (hst.at 2 rfl)
  ·refine wp_cond_split (hst.bool 5 rfl) (fun hc6=>?_) (fun hc6=>?_)
   ·replace H0:=Zv hc6 H0
    obtain ⟨r7,h8,H0⟩:=Zh H0
    refine r_g (L:=[(0,_),(3,_),(4,_),(5,_),(14,_),(1002,_)]) (T:=⟨[.old 0],_,[],[],[33]⟩ :: ⟨[.old 0],_,[],[],[34]⟩ :: ⟨[.op 1 0],_,[],[1],[35]⟩ :: ⟨[.op 2 0],_,[],[1,2],[36]⟩ :: ⟨[.op 3 0,.old 5],_,[],[1,2,3],[37]⟩ :: ⟨[.old 2],_,[],[],[38]⟩ :: ⟨[.op 4 0,.op 5 0],_,[],List.range' 1 5,[39]⟩ :: ⟨[.op 6 0],_,[],List.range' 1 6,[32]⟩ :: ⟨[.op 7 0],_,[],List.range' 1 7,[40]⟩ :: ⟨[.op 7 0],_,[],List.range' 1 7,[41]⟩ :: ⟨[.op 0 0],_,[],Lr 9,[42]⟩ :: ⟨[.op 10 0],_,[],[0,1,2,3,4,5,6,7,8,10],[43]⟩ :: ⟨[.op 11 0,.op 8 0,.old 5],[(1002,(pSJ Zbp Zcc (hpL (pRow Zm 68 1000000 (Zdo ({ a0 with now:=r7.1 }:Z3)))) 0 b0 ({ a0 with now:=r7.1 }:Z3)))],[1],[0,1,2,3,4,5,6,7,8,10,11],[1002]⟩ :: ⟨[.op 9 0,.old 3],_,[6],Lr 13,[5]⟩ :: []) (F:=[.old 0,.old 1,.old 2,.op 13 0,.old 4,.op 12 0]) (hst.pick [0,1,2,3,4,6] rfl) hb Zb
     (o_p rfl (Za rfl rfl u_0)<|o_p rfl (Za rfl rfl u_0)<|o_p rfl (Zq rfl rfl u_0 (fun _ _ h=>⟨_,h⟩))<|o_p rfl (Zcd Ztd rfl rfl u_0)<|o_p rfl (Zfx (u:=a0.now) Zbw (fun g s cs h _=>kp_2 h) rfl rfl u_1 u_0)<|o_p rfl (Zf Zh1 rfl rfl u_0)<|o_p rfl (Zo Zbb7 (Z0y _ _ h8) rfl rfl (.cons u_0 (.cons u_1 .nil)))<|o_p rfl (Za rfl rfl u_0)<|o_p rfl (Z0 rfl rfl u_0 rfl)<|o_p rfl (Z0 rfl rfl u_0 rfl)<|o_p rfl (Zq rfl rfl u_0 (fun _ _ h=>⟨_,h⟩))<|o_p rfl (Zcd Ztd rfl rfl u_0)<|o_p rfl (Zle Zbw rfl rfl (fun k hk=>by rw [List.mem_singleton.1 hk];decide) u_2 u_0 u_1 (fun g g' cs s0 ys h hr hy=>⟨s0,wp_2 h hy,hr⟩))<|o_p rfl (Z2 Zb9 rfl rfl u_1 u_0)<|o_n) (by kernel_rfl) (fun a g hst hb=>?_)
    exact ⟨r7.2,({ a0 with now:=r7.1 }:Z3),g,rfl,(hst.pick [0,1,2,3,4,5] rfl),hb,H0⟩
   ·replace H0:=Zw hc6 H0
    refine wp_skip ?_
    exact ⟨(default:Zg),a0,g,rfl,(hst.pick [0,1,2,3,4,6] rfl),hb,H0⟩
theorem Zis (a0:Z3) {r:Z3 × Bool} (h:Zfm a0=some r):FnMR Tryz.prog 19 Zcs a0 r.1 [] (Zbg r.2):=by
 obtain ⟨u,h1,h2⟩:=Zh h
 obtain rfl:=Option.some.inj h2
 exact Zr5 a0 h1
theorem Zsk (a0:Int) {r:Zn × Int} (h:Zor a0=some r):FnOk Tryz.prog 28 [(pInt .i64 a0)] (pTup [(Zy.pd r.1),(pInt .i64 r.2)]):=by
 have H0:=h
 unfold Zor at H0
 clear h
 refine Zbu (N:=13) Tryz.func28 rfl rfl (Nat.le_of_ble_eq_true rfl) rfl rfl (fun a g0 hst hb=>?_)
 refine r_s (T:=[⟨[],[(2,(pBox Zy 2 (default:Zn)))],[3],[],[2]⟩,⟨[],_,[],[],[3]⟩]) (F:=[.old 0,.op 0 0]) hst hb Zb
  (o_p rfl (Zbh (zs:=[.pointer none,.int .i64 0]) (by kernel_rfl) (fun g=>Zdp g) rfl rfl)<|o_p rfl (Zc rfl rfl c_i)<|o_n) (by kernel_rfl) (fun a g hst hb=>?_)
 refine wp_seq ?_
 refine r_s (T:=[⟨[.old 0],_,[],[],[4]⟩,⟨[.op 0 0],_,[],[0],[5]⟩,⟨[.op 1 0],_,[],[0,1],[6]⟩,⟨[.op 2 0,.old 0],_,[],[0,1,2],[7]⟩,⟨[.op 2 0,.op 3 0],_,[],Lr 4,[8]⟩,⟨[.op 2 0,.op 4 0],_,[],Lr 5,[9]⟩]) (F:=[.old 0,.old 1,.op 5 0]) hst hb Zb
  (o_p rfl (Za rfl rfl u_0)<|o_p rfl (Zci rfl rfl u_0 c_i)<|o_p rfl (Za rfl rfl u_0)<|o_g (g_f rfl rfl rfl (fun hG=>Za rfl rfl u_0))<|o_g (g_f rfl rfl rfl (fun hG=>Zcu rfl rfl (Opd.gd hG u_0) c_i))<|o_p rfl (Zbo rfl rfl u_0 (fun hz=>(Opd.gd (bNF hz) u_1)))<|o_n) (by kernel_rfl) (fun a g hst hb=>?_)
 refine wp_cond_split (hst.bool 2 rfl) (fun hc1=>?_) (fun hc1=>?_)
 ·replace H0:=Zv hc1 H0
  refine r_s (L:=[(2,_)]) (T:=[⟨[],_,[],[],[10]⟩,⟨[.op 0 0,.old 0],_,[3],[0],[2]⟩,⟨[],_,[],[0,1],[3]⟩]) (F:=[.op 1 0,.op 2 0]) (hst.pick [1] rfl) hb Zb
   (o_p rfl (Z9s rfl rfl )<|o_p rfl (Z2 Zbw rfl rfl u_1 u_0)<|o_p rfl (Zc rfl rfl c_i)<|o_n) (by kernel_rfl) (fun a g hst hb=>?_)
  refine wp_ret ?_
  refine Zr ?_
  obtain rfl:=Option.some.inj H0
  obtain ⟨u0,hu0,hq0⟩:=Zbf (P:=Tryz.prog) Zbw (hst.at 0 rfl)
  exact Zdq rfl hst hb hu0 (Zk (s:=3)) (Zcw hq0 (hst.at 1 rfl))
 ·replace H0:=Zw hc1 H0
  refine wp_skip ?_
  refine Zs ?_
  refine r_s (L:=[(0,_),(2,_)]) (T:=[⟨[.old 0],_,[],[],[11]⟩,⟨[.op 0 0],_,[],[0],[12]⟩,⟨[.op 1 0,.old 1],_,[3],[0,1],[2]⟩,⟨[],_,[],[0,1,2],[3]⟩]) (F:=[.op 2 0,.op 3 0]) (hst.pick [0,1] rfl) hb Zb
   (o_p rfl (Za rfl rfl u_0)<|o_p rfl (Z71 rfl rfl u_0)<|o_p rfl (Z2 Zbw rfl rfl u_1 u_0)<|o_p rfl (Zc rfl rfl c_i)<|o_n) (by kernel_rfl) (fun a g hst hb=>?_)
  refine wp_ret ?_
  obtain rfl:=Option.some.inj H0
  obtain ⟨u0,hu0,hq0⟩:=Zbf (P:=Tryz.prog) Zbw (hst.at 0 rfl)
  exact Zdq rfl hst hb hu0 (Zk (s:=3)) (Zcw hq0 (hst.at 1 rfl))
theorem Zq0 {r:Bool} (h:Zj5=some r):FnOk Tryz.prog 7 [] (Zbg r):=by
 have H0:=h
 unfold Zj5 at H0
 clear h
 refine Zbu (N:=112) Tryz.func7 rfl rfl (Nat.le_of_ble_eq_true rfl) rfl rfl (fun a g0 hst hb=>?_)
 refine r_s (T:=[⟨[],_,[],[],[0]⟩]) (F:=[]) hst hb Zb
  (o_p rfl (Zc rfl rfl c_b)<|o_n) (by kernel_rfl) (fun a g hst hb=>?_)
 obtain ⟨r1,h2,H0⟩:=Zh H0
 refine r_s (T:=[⟨[],_,[],[],[15]⟩,⟨[.op 0 0],_,[],[0],[14]⟩,⟨[.op 1 0],_,[],[0,1],[16]⟩,⟨[.op 1 0],_,[],[0,1],[17]⟩,⟨[],[(1,(pBox Zy 1 (default:Zn)))],[2],[],[1]⟩,⟨[.op 2 0,.op 4 0],_,[2],[0,1,2,4],[1]⟩,⟨[.op 3 0],_,[],Lr 6,[2]⟩]) (F:=[.op 5 0]) hst hb Zb
  (o_p rfl (Zo Z7c (Zsk _ h2) rfl rfl (.cons c_i .nil))<|o_p rfl (Za rfl rfl u_0)<|o_p rfl (Z0 rfl rfl u_0 rfl)<|o_p rfl (Z0 rfl rfl u_0 rfl)<|o_p rfl (Zbh (zs:=[.pointer none,.int .i64 0]) (by kernel_rfl) (fun g=>Zdp g) rfl rfl)<|o_p rfl (Z2 Zbw rfl rfl u_1 u_0)<|o_p rfl (Zc rfl rfl u_0)<|o_n) (by kernel_rfl) (fun a g hst hb=>?_)
 obtain ⟨r3,h4,H0⟩:=Zh H0
 refine r_s (T:=[⟨[.old 0],_,[],[],[19]⟩,⟨[],_,[],[],[20]⟩,⟨[.op 0 0,.op 1 0],_,[],[0,1],[21]⟩,⟨[.op 2 0],_,[],[0,1,2],[18]⟩,⟨[.op 3 0],_,[],Lr 4,[22]⟩,⟨[.op 3 0],_,[],Lr 4,[23]⟩,⟨[.op 4 0,.old 0],_,[2],Lr 5,[1]⟩]) (F:=[.op 6 0]) hst hb Zb
  (o_p rfl (Zb0 Zbw rfl rfl u_0)<|o_p rfl (Z4m rfl rfl c_i c_i)<|o_p rfl (Zo Zyt (Zj3 _ _ _ h4) rfl rfl (.cons u_0 (.cons c_s (.cons u_1 .nil))))<|o_p rfl (Za rfl rfl u_0)<|o_p rfl (Z0 rfl rfl u_0 rfl)<|o_p rfl (Z0 rfl rfl u_0 rfl)<|o_p rfl (Z2 Zbw rfl rfl u_1 u_0)<|o_n) (by kernel_rfl) (fun a g hst hb=>?_)
 refine r_s (T:=[⟨[],_,[],[],[24]⟩,⟨[.op 0 0],_,[],[0],[25]⟩,⟨[.op 1 0],_,[],[0,1],[26]⟩,⟨[],[(3,(pBox Zch 3 (default:Zbm)))],[4],[],[3]⟩,⟨[.op 2 0,.op 3 0],_,[4],Lr 4,[3]⟩]) (F:=[.old 0,.op 4 0]) hst hb Zb
  (o_p rfl (Z01 rfl rfl c_i c_s c_i)<|o_p rfl (Ziw Zvs (xs:=[.tmp 24]) (.cons u_0 .nil) (by decide) rfl rfl)<|o_p rfl (Z1u rfl rfl u_0)<|o_p rfl (Zbh (zs:=[.slice none 0 0]) (by kernel_rfl) (fun g=>Zt7 g) rfl rfl)<|o_p rfl (Zb5 Znl rfl rfl u_1 u_0)<|o_n) (by kernel_rfl) (fun a g hst hb=>?_)
 obtain ⟨r5,h6,H0⟩:=Zh H0;obtain ⟨r7,h8,H0⟩:=Zh H0
 refine r_s (T:=[⟨[.old 1],_,[],[],[27]⟩,⟨[.old 0],_,[],[],[28]⟩,⟨[.op 0 0,.op 1 0],[(29,(Zc0 none Zcs 29 r5))],[30,1000030],[0,1],[29]⟩,⟨[.old 1],_,[],[],[30]⟩,⟨[.old 0],_,[],[],[31]⟩,⟨[],_,[],[],[32]⟩,⟨[.op 3 0,.op 4 0,.op 5 0],[(33,(Zc0 none Zcs 33 r7))],[34,1000034],Lr 6,[33]⟩,⟨[.op 2 0],[(4,(Zc0 none Zcs 29 r5))],[],Lr 7,[4]⟩,⟨[.op 6 0],[(5,(Zc0 none Zcs 33 r7))],[],Lr 8,[5]⟩]) (F:=[.old 0,.op 7 0,.op 8 0]) hst hb Zb
  (o_p rfl (Zf Znl rfl rfl u_0)<|o_p rfl (Zb0 Zbw rfl rfl u_0)<|o_p rfl (Zp9 Z26 (Zp8 _ _ _ h6) rfl rfl (.cons u_0 (.cons u_1 (.cons (Opd.c (fun g=>Zgv g)) .nil))))<|o_p rfl (Zf Znl rfl rfl u_0)<|o_p rfl (Zb0 Zbw rfl rfl u_0)<|o_p rfl (Ziw Zq7 (xs:=[.const (.string ⟨#[97]⟩)]) (.cons c_s .nil) (by decide) rfl rfl)<|o_p rfl (Zp9 Z26 (Zp8 _ _ _ h8) rfl rfl (.cons u_0 (.cons u_1 (.cons u_2 .nil))))<|o_p rfl (Zc rfl rfl u_0)<|o_p rfl (Zc rfl rfl u_0)<|o_n) (by kernel_rfl) (fun a g hst hb=>?_)
 refine wp_seq ?_
 obtain ⟨r9,h10,H0⟩:=Zh H0;obtain ⟨r11,h12,H0⟩:=Zh H0;obtain ⟨r13,h14,H0⟩:=Zh H0;obtain ⟨r15,h16,H0⟩:=Zh H0;obtain ⟨r17,h18,H0⟩:=Zh H0
 refine r_s (T:=⟨[.old 1],[(34,(Zc0 none Zcs 29 r5))],[],[],[34]⟩ :: ⟨[.op 0 0],_,[],[0],[35]⟩ :: ⟨[.op 1 0],_,[],[0,1],[36]⟩ :: ⟨[.op 2 0,.old 2],[(37,(pIf (!false) (Zc0 none Zcs 33 r7)))],[],[0,1,2],[37]⟩ :: ⟨[.op 2 0,.op 3 0],_,[],Lr 4,[38]⟩ :: ⟨[.op 2 0,.op 4 0],_,[],Lr 5,[39]⟩ :: ⟨[.op 5 0],_,[],Lr 6,[40]⟩ :: ⟨[.op 6 0,.old 1],[(41,(pIf (!(false || false)) (Zc0 none Zcs 29 r5)))],[],Lr 7,[41]⟩ :: ⟨[.op 6 0,.op 7 0,.old 1],[(42,(pIf (!(false || false)) (Zbg r9))),(4,(Zc0 none Zcs 29 r5))],[30,1000030],Lr 8,[4,34,41,42]⟩ :: ⟨[.op 6 0,.op 8 0],_,[],Lr 9,[43]⟩ :: ⟨[.op 9 0],_,[],Lr 10,[44]⟩ :: ⟨[.op 10 0,.op 8 1],[(45,(pIf (!((false || false) || r9)) (Zc0 none Zcs 29 r5)))],[],Lr 11,[45]⟩ :: ⟨[.op 10 0,.op 11 0,.op 8 1],[(46,(pIf (!((false || false) || r9)) (Zbg r11.2))),(4,(Zc0 none Zcs 29 (if (!((false || false) || r9))=true then r11.1 else r5)))],[30,1000030],Lr 12,[4,34,41,45,46]⟩ :: ⟨[.op 10 0,.op 12 0],_,[],Lr 13,[47]⟩ :: ⟨[.op 10 0,.op 13 0],_,[],Lr 14,[48]⟩ :: ⟨[.op 14 0],_,[],Lr 15,[49]⟩ :: ⟨[.op 15 0,.op 12 1],[(50,(pIf (!(((false || false) || r9) || (!r11.2))) (Zc0 none Zcs 29 (if (!((false || false) || r9))=true then r11.1 else r5))))],[],Lr 16,[50]⟩ :: ⟨[.op 15 0,.op 16 0,.op 12 1],[(51,(pIf (!(((false || false) || r9) || (!r11.2))) (Zbg r13.2))),(4,(Zc0 none Zcs 29 (if (!(((false || false) || r9) || (!r11.2)))=true then r13.1 else (if (!((false || false) || r9))=true then r11.1 else r5))))],[30,1000030],Lr 17,[4,34,41,45,50,51]⟩ :: ⟨[.op 15 0,.op 17 0],_,[],Lr 18,[52]⟩ :: ⟨[.op 18 0],_,[],Lr 19,[53]⟩ :: ⟨[.op 19 0,.op 17 1],[(54,(pIf (!((((false || false) || r9) || (!r11.2)) || r13.2)) (Zc0 none Zcs 29 (if (!(((false || false) || r9) || (!r11.2)))=true then r13.1 else (if (!((false || false) || r9))=true then r11.1 else r5)))))],[],Lr 20,[54]⟩ :: ⟨[.op 19 0,.op 20 0,.op 17 1],[(55,(pIf (!((((false || false) || r9) || (!r11.2)) || r13.2)) (Zbg r15))),(4,(Zc0 none Zcs 29 (if (!(((false || false) || r9) || (!r11.2)))=true then r13.1 else (if (!((false || false) || r9))=true then r11.1 else r5))))],[30,1000030],Lr 21,[4,34,41,45,50,54,55]⟩ :: ⟨[.op 19 0,.op 21 0],_,[],Lr 22,[56]⟩ :: ⟨[.op 19 0,.op 22 0],_,[],Lr 23,[57]⟩ :: ⟨[.op 23 0],_,[],Lr 24,[58]⟩ :: ⟨[.op 24 0,.old 2],[(59,(pIf (!(((((false || false) || r9) || (!r11.2)) || r13.2) || (!r15))) (Zc0 none Zcs 33 r7)))],[],Lr 25,[59]⟩ :: ⟨[.op 24 0,.op 25 0,.old 2],[(60,(pIf (!(((((false || false) || r9) || (!r11.2)) || r13.2) || (!r15))) (Zbg r17.2))),(5,(Zc0 none Zcs 33 (if (!(((((false || false) || r9) || (!r11.2)) || r13.2) || (!r15)))=true then r17.1 else r7)))],[34,1000034],Lr 26,[5,37,59,60]⟩ :: ⟨[.op 24 0,.op 26 0],_,[],Lr 27,[61]⟩ :: ⟨[.op 24 0,.op 27 0],_,[],Lr 28,[62]⟩ :: []) (F:=[.old 0,.op 21 1,.op 26 1,.op 28 0]) hst hb Zb
  (o_p rfl (Za rfl rfl u_0)<|o_p rfl (Zos Tryz.underlying43 rfl rfl u_0 Zy9)<|o_p rfl (Za rfl rfl u_0)<|o_g (g_f rfl rfl rfl (fun hG=>Za rfl rfl u_0))<|o_g (g_f rfl rfl rfl (fun hG=>Zos Tryz.underlying43 rfl rfl (Opd.gd hG u_0) Zy9))<|o_p rfl (Zbo rfl rfl u_0 (fun hz=>(Opd.gd (bNF hz) u_1)))<|o_p rfl (Za rfl rfl u_0)<|o_g (g_f rfl rfl rfl (fun hG=>Za rfl rfl u_0))<|o_g (OT.guardMR (!(false || false)) (gF (false || false)).1 (gF (false || false)).2 rfl rfl rfl (by decide) u_1 (fun hG=>Zfq Zyr (Zkh _ (Zbn h10 hG)) rfl rfl rfl (by decide) u_1 (Opd.gd hG u_0) .nil) (ite_self _).symm)<|o_p rfl (Zbo rfl rfl u_0 (fun hz=>(Opd.gd (bNF hz) u_1)))<|o_p rfl (Za rfl rfl u_0)<|o_g (g_f rfl rfl rfl (fun hG=>Za rfl rfl u_0))<|o_g (OT.guardMR (!((false || false) || r9)) (gF ((false || false) || r9)).1 (gF ((false || false) || r9)).2 rfl rfl rfl (by decide) u_1 (fun hG=>Zfq Zv5 (Zis _ (Zbn h12 hG)) rfl rfl rfl (by decide) u_1 (Opd.gd hG u_0) .nil) rfl)<|o_g (g_f rfl rfl rfl (fun hG=>Zb2 rfl rfl (Opd.gd hG u_0)))<|o_p rfl (Zbo rfl rfl u_0 (fun hz=>(Opd.gd (bNF hz) u_1)))<|o_p rfl (Za rfl rfl u_0)<|o_g (g_f rfl rfl rfl (fun hG=>Za rfl rfl u_0))<|o_g (OT.guardMR (!(((false || false) || r9) || (!r11.2))) (gF (((false || false) || r9) || (!r11.2))).1 (gF (((false || false) || r9) || (!r11.2))).2 rfl rfl rfl (by decide) u_1 (fun hG=>Zfq Zv5 (Zis _ (Zbn h14 hG)) rfl rfl rfl (by decide) u_1 (Opd.gd hG u_0) .nil) rfl)<|o_p rfl (Zbo rfl rfl u_0 (fun hz=>(Opd.gd (bNF hz) u_1)))<|o_p rfl (Za rfl rfl u_0)<|o_g (g_f rfl rfl rfl (fun hG=>Za rfl rfl u_0))<|o_g (OT.guardMR (!((((false || false) || r9) || (!r11.2)) || r13.2)) (gF ((((false || false) || r9) || (!r11.2)) || r13.2)).1 (gF ((((false || false) || r9) || (!r11.2)) || r13.2)).2 rfl rfl rfl (by decide) u_1 (fun hG=>Zfq Zyr (Zkh _ (Zbn h16 hG)) rfl rfl rfl (by decide) u_1 (Opd.gd hG u_0) .nil) (ite_self _).symm)<|o_g (g_f rfl rfl rfl (fun hG=>Zb2 rfl rfl (Opd.gd hG u_0)))<|o_p rfl (Zbo rfl rfl u_0 (fun hz=>(Opd.gd (bNF hz) u_1)))<|o_p rfl (Za rfl rfl u_0)<|o_g (g_f rfl rfl rfl (fun hG=>Za rfl rfl u_0))<|o_g (OT.guardMR (!(((((false || false) || r9) || (!r11.2)) || r13.2) || (!r15))) (gF (((((false || false) || r9) || (!r11.2)) || r13.2) || (!r15))).1 (gF (((((false || false) || r9) || (!r11.2)) || r13.2) || (!r15))).2 rfl rfl rfl (by decide) u_1 (fun hG=>Zfq Zv5 (Zis _ (Zbn h18 hG)) rfl rfl rfl (by decide) u_1 (Opd.gd hG u_0) .nil) rfl)<|o_g (g_f rfl rfl rfl (fun hG=>Zb2 rfl rfl (Opd.gd hG u_0)))<|o_p rfl (Zbo rfl rfl u_0 (fun hz=>(Opd.gd (bNF hz) u_1)))<|o_n) (by kernel_rfl) (fun a g hst hb=>?_)
 refine wp_cond_split (hst.bool 3 rfl) (fun hc19=>?_) (fun hc19=>?_)
 ·replace H0:=Zv hc19 H0
  refine r_s (L:=[]) (T:=[⟨[],_,[],[],[0]⟩]) (F:=[.op 0 0]) (hst.pick [] rfl) hb Zb
   (o_p rfl (Zc rfl rfl c_b)<|o_n) (by kernel_rfl) (fun a g hst hb=>?_)
  refine wp_ret ?_
  refine Zr ?_
  obtain rfl:=Option.some.inj H0
  exact Z5 rfl hst hb (Zk (s:=0)) (hst.at 0 rfl)
 ·replace H0:=Zw hc19 H0
  refine wp_skip ?_
  refine Zs ?_
  obtain ⟨r20,h21,H0⟩:=Zh H0
  refine r_s (L:=[(1,_),(4,_),(5,_)]) (T:=[⟨[.old 1],[(64,(Zc0 none Zcs 29 (if (!(((false || false) || r9) || (!r11.2)))=true then r13.1 else (if (!((false || false) || r9))=true then r11.1 else r5))))],[],[],[64]⟩,⟨[.old 0],_,[],[],[65]⟩,⟨[.op 0 0,.op 1 0,.old 1],[(66,(pTup [(Zy.pd r20.1),(Z4.sl.pd r20.2)])),(4,(Zc0 none Zcs 29 (if (!(((false || false) || r9) || (!r11.2)))=true then r13.1 else (if (!((false || false) || r9))=true then r11.1 else r5))))],[30,1000030],[0,1],[4,64,66]⟩,⟨[.op 2 0],_,[],[0,1,2],[63]⟩,⟨[.op 3 0],_,[],Lr 4,[67]⟩,⟨[.op 3 0],_,[],Lr 4,[68]⟩,⟨[],[(6,(pBox Zy 6 (default:Zn)))],[7],[],[6]⟩,⟨[.op 4 0,.op 6 0],_,[7],[0,1,2,3,4,6],[6]⟩,⟨[.op 5 0],_,[],Lr 8,[7]⟩]) (F:=[.old 0,.old 2,.op 7 0,.op 8 0]) (hst.pick [0,1,2] rfl) hb Zb
   (o_p rfl (Za rfl rfl u_0)<|o_p rfl (Zb0 Zbw rfl rfl u_0)<|o_p rfl (Zfq Zym (Zjj _ _ h21) rfl rfl rfl (by decide) u_2 u_0 (.cons u_1 .nil))<|o_p rfl (Za rfl rfl u_0)<|o_p rfl (Z0 rfl rfl u_0 rfl)<|o_p rfl (Z0 rfl rfl u_0 rfl)<|o_p rfl (Zbh (zs:=[.pointer none,.int .i64 0]) (by kernel_rfl) (fun g=>Zdp g) rfl rfl)<|o_p rfl (Zb5 Zbw rfl rfl u_1 u_0)<|o_p rfl (Zc rfl rfl u_0)<|o_n) (by kernel_rfl) (fun a g hst hb=>?_)
  obtain ⟨r22,h23,H0⟩:=Zh H0
  refine r_s (T:=[⟨[.old 1],[(70,(Zc0 none Zcs 33 (if (!(((((false || false) || r9) || (!r11.2)) || r13.2) || (!r15)))=true then r17.1 else r7)))],[],[],[70]⟩,⟨[.old 0],_,[],[],[71]⟩,⟨[.op 0 0,.op 1 0,.old 1],[(72,(pTup [(Zy.pd r22.1),(Z4.sl.pd r22.2)])),(5,(Zc0 none Zcs 33 (if (!(((((false || false) || r9) || (!r11.2)) || r13.2) || (!r15)))=true then r17.1 else r7)))],[34,1000034],[0,1],[5,70,72]⟩,⟨[.op 2 0],_,[],[0,1,2],[69]⟩,⟨[.op 3 0],_,[],Lr 4,[73]⟩,⟨[.op 3 0],_,[],Lr 4,[74]⟩,⟨[],[(8,(pBox Zy 8 (default:Zn)))],[9],[],[8]⟩,⟨[.op 4 0,.op 6 0],_,[9],[0,1,2,3,4,6],[8]⟩,⟨[.op 5 0],_,[],Lr 8,[9]⟩]) (F:=[.old 0,.op 2 1,.old 2,.old 3,.op 7 0,.op 8 0]) hst hb Zb
   (o_p rfl (Za rfl rfl u_0)<|o_p rfl (Zb0 Zbw rfl rfl u_0)<|o_p rfl (Zfq Zym (Zjj _ _ h23) rfl rfl rfl (by decide) u_2 u_0 (.cons u_1 .nil))<|o_p rfl (Za rfl rfl u_0)<|o_p rfl (Z0 rfl rfl u_0 rfl)<|o_p rfl (Z0 rfl rfl u_0 rfl)<|o_p rfl (Zbh (zs:=[.pointer none,.int .i64 0]) (by kernel_rfl) (fun g=>Zdp g) rfl rfl)<|o_p rfl (Zb5 Zbw rfl rfl u_1 u_0)<|o_p rfl (Zc rfl rfl u_0)<|o_n) (by kernel_rfl) (fun a g hst hb=>?_)
  obtain ⟨r24,h25,H0⟩:=Zh H0
  refine r_s (T:=[⟨[.old 2],_,[],[],[76]⟩,⟨[.op 0 0],_,[],[0],[77]⟩,⟨[.op 1 0],_,[],[0,1],[75]⟩,⟨[.op 2 0],_,[],[0,1,2],[78]⟩,⟨[.op 2 0],_,[],[0,1,2],[79]⟩,⟨[],[(10,(pBox Zi 10 (default:Ze)))],[11],[],[10]⟩,⟨[.op 3 0,.op 5 0],_,[11],[0,1,2,3,5],[10]⟩,⟨[.op 4 0],_,[],Lr 7,[11]⟩]) (F:=[.old 0,.old 1,.old 3,.old 4,.old 5,.op 6 0]) hst hb Zb
   (o_p rfl (Zf Zbw rfl rfl u_0)<|o_p rfl (Zo Zs9 (Zg3 _ _ h25) rfl rfl (.cons u_0 (.cons c_s .nil)))<|o_p rfl (Za rfl rfl u_0)<|o_p rfl (Z0 rfl rfl u_0 rfl)<|o_p rfl (Z0 rfl rfl u_0 rfl)<|o_p rfl (Zbh (zs:=[.int .i64 0,.int .i64 0,.int .i64 0,.int .i64 0,.float .f64 0,.int .i64 0,.string ByteArray.empty,.slice none 0 0]) (by kernel_rfl) (fun g=>Zb4 g) rfl rfl)<|o_p rfl (Zb5 Zbc rfl rfl u_1 u_0)<|o_p rfl (Zc rfl rfl u_0)<|o_n) (by kernel_rfl) (fun a g hst hb=>?_)
  obtain ⟨r26,h27,H0⟩:=Zh H0
  refine r_s (T:=[⟨[.old 1],[(81,(Zc0 none Zcs 33 (if (!(((((false || false) || r9) || (!r11.2)) || r13.2) || (!r15)))=true then r17.1 else r7)))],[],[],[81]⟩,⟨[.op 0 0,.old 1],[(82,(pTup [(Zbx.pd r26.1),(Zbg r26.2)])),(5,(Zc0 none Zcs 33 (if (!(((((false || false) || r9) || (!r11.2)) || r13.2) || (!r15)))=true then r17.1 else r7)))],[34,1000034],[0],[5,81,82]⟩,⟨[.op 1 0],_,[],[0,1],[80]⟩,⟨[.op 2 0],_,[],[0,1,2],[83]⟩,⟨[.op 2 0],_,[],[0,1,2],[84]⟩,⟨[],[(12,(pBox Zbx 12 (default:Z1)))],[13],[],[12]⟩,⟨[.op 3 0,.op 5 0],_,[13],[0,1,2,3,5],[12]⟩,⟨[.op 4 0],_,[],Lr 7,[13]⟩]) (F:=[.old 0,.old 2,.old 3,.old 4,.old 5,.op 6 0,.op 7 0]) hst hb Zb
   (o_p rfl (Za rfl rfl u_0)<|o_p rfl (Zfq Z3o (Zli _ h27) rfl rfl rfl (by decide) u_1 u_0 .nil)<|o_p rfl (Za rfl rfl u_0)<|o_p rfl (Z0 rfl rfl u_0 rfl)<|o_p rfl (Z0 rfl rfl u_0 rfl)<|o_p rfl (Zbh (zs:=[.int .i64 0,.int .i64 0,.slice none 0 0]) (by kernel_rfl) (fun g=>Zin g) rfl rfl)<|o_p rfl (Zb5 Zi1 rfl rfl u_1 u_0)<|o_p rfl (Zc rfl rfl u_0)<|o_n) (by kernel_rfl) (fun a g hst hb=>?_)
  obtain ⟨r28,h29,H0⟩:=Zh H0
  refine r_s (T:=⟨[.old 1],_,[],[],[85]⟩ :: ⟨[.op 0 0],_,[],[0],[86]⟩ :: ⟨[.op 1 0],_,[],[0,1],[87]⟩ :: ⟨[.op 2 0],_,[],[0,1,2],[88]⟩ :: ⟨[.op 3 0,.old 4],_,[],Lr 4,[89]⟩ :: ⟨[.op 3 0,.op 4 0],_,[],Lr 5,[90]⟩ :: ⟨[.op 3 0,.op 5 0],_,[],Lr 6,[91]⟩ :: ⟨[.op 3 0,.op 6 0],_,[],Lr 7,[92]⟩ :: ⟨[.op 7 0],_,[],Lr 8,[93]⟩ :: ⟨[.op 8 0,.old 0],_,[],Lr 9,[94]⟩ :: ⟨[.op 8 0,.old 2],_,[],Lr 9,[95]⟩ :: ⟨[.op 8 0,.op 9 0,.op 10 0],_,[],Lr 11,[96]⟩ :: ⟨[.op 8 0,.op 11 0],_,[],Lr 12,[97]⟩ :: ⟨[.op 12 0],_,[],Lr 13,[98]⟩ :: ⟨[.op 13 0,.old 3],_,[],Lr 14,[99]⟩ :: ⟨[.op 13 0,.op 14 0],_,[],Lr 15,[100]⟩ :: ⟨[.op 13 0,.op 15 0],_,[],Lr 16,[101]⟩ :: ⟨[.op 13 0,.op 16 0],_,[],Lr 17,[102]⟩ :: ⟨[.op 17 0],_,[],Lr 18,[103]⟩ :: ⟨[.op 18 0,.old 6],_,[],Lr 19,[104]⟩ :: ⟨[.op 18 0,.op 19 0],_,[],Lr 20,[105]⟩ :: ⟨[.op 20 0],_,[],Lr 21,[106]⟩ :: ⟨[.op 21 0,.old 5],_,[],Lr 22,[107]⟩ :: ⟨[.op 21 0,.op 22 0],_,[],Lr 23,[108]⟩ :: ⟨[.op 21 0,.op 23 0],_,[],Lr 24,[109]⟩ :: ⟨[.op 21 0,.op 24 0],_,[],Lr 25,[110]⟩ :: ⟨[.op 21 0,.op 25 0],_,[],Lr 26,[111]⟩ :: ⟨[.op 26 0],_,[],Lr 27,[0]⟩ :: []) (F:=[.op 27 0]) hst hb Zb
   (o_p rfl (Za rfl rfl u_0)<|o_p rfl (Zb1 Tryz.underlying23 rfl rfl u_0)<|o_p rfl (Zbs rfl rfl u_0 c_i)<|o_p rfl (Za rfl rfl u_0)<|o_g (g_t rfl rfl rfl (fun hG=>Zd Zc1 rfl rfl u_0))<|o_g (g_t rfl rfl rfl (fun hG=>Zf ty_2 rfl rfl (Opd.gd hG u_0)))<|o_g (g_t rfl rfl rfl (fun hG=>Zbs rfl rfl (Opd.gd hG u_0) c_i))<|o_p rfl (Zbi rfl rfl u_0 (fun hz=>(Opd.gd hz u_1)))<|o_p rfl (Za rfl rfl u_0)<|o_g (g_t rfl rfl rfl (fun hG=>Zb0 Zbw rfl rfl u_0))<|o_g (g_t rfl rfl rfl (fun hG=>Zf Zbw rfl rfl u_0))<|o_g (g_t rfl rfl rfl (fun hG=>Zo Z7a (Zru _ _ (Zbn h29 hG)) rfl rfl (.cons (Opd.gd hG u_0) (.cons (Opd.gd hG u_1) .nil))))<|o_p rfl (Zbi rfl rfl u_0 (fun hz=>(Opd.gd hz u_1)))<|o_p rfl (Za rfl rfl u_0)<|o_g (g_t rfl rfl rfl (fun hG=>Za rfl rfl u_0))<|o_g (g_t rfl rfl rfl (fun hG=>Zb1 Tryz.underlying23 rfl rfl (Opd.gd hG u_0)))<|o_g (g_t rfl rfl rfl (fun hG=>Zbs rfl rfl (Opd.gd hG u_0) c_i))<|o_p rfl (Zbi rfl rfl u_0 (fun hz=>(Opd.gd hz u_1)))<|o_p rfl (Za rfl rfl u_0)<|o_g (g_t rfl rfl rfl (fun hG=>Za rfl rfl u_0))<|o_p rfl (Zbi rfl rfl u_0 (fun hz=>(Opd.gd hz u_1)))<|o_p rfl (Za rfl rfl u_0)<|o_g (g_t rfl rfl rfl (fun hG=>Zd Zm3 rfl rfl u_0))<|o_g (g_t rfl rfl rfl (fun hG=>Zf Zq2 rfl rfl (Opd.gd hG u_0)))<|o_g (g_t rfl rfl rfl (fun hG=>Zb1 Tryz.underlying47 rfl rfl (Opd.gd hG u_0)))<|o_g (g_t rfl rfl rfl (fun hG=>Zbs rfl rfl (Opd.gd hG u_0) c_i))<|o_p rfl (Zbi rfl rfl u_0 (fun hz=>(Opd.gd hz u_1)))<|o_p rfl (Zc rfl rfl u_0)<|o_n) (by kernel_rfl) (fun a g hst hb=>?_)
  refine wp_ret ?_
  obtain rfl:=Option.some.inj H0
  exact Z5 rfl hst hb (Zk (s:=0)) (hst.at 0 rfl)
theorem Zoi (a0:Ze) {r:Int} (h:Zie a0=some r):FnOk Tryz.prog 31 [(Zi.pd a0)] (pInt .i64 r):=by
 have H0:=h
 unfold Zie at H0
 clear h
 refine Zbu (N:=27) Tryz.func31 rfl rfl (Nat.le_of_ble_eq_true rfl) rfl rfl (fun a g0 hst hb=>?_)
 refine r_s (T:=[⟨[.old 0],_,[],[],[1]⟩,⟨[],_,[],[],[2]⟩]) (F:=[.op 0 0]) hst hb Zb
  (o_p rfl (Zbq rfl rfl u_0)<|o_p rfl (Zc rfl rfl c_i)<|o_n) (by kernel_rfl) (fun a g hst hb=>?_)
 refine wp_seq ?_
 refine r_s (T:=[⟨[.old 0],_,[],[],[5]⟩,⟨[.op 0 0],_,[],[0],[6]⟩,⟨[.op 1 0],_,[],[0,1],[7]⟩,⟨[.op 2 0],_,[],[0,1,2],[8]⟩,⟨[.op 3 0],_,[],Lr 4,[9]⟩,⟨[.op 4 0,.old 0],_,[],Lr 5,[10]⟩,⟨[.op 4 0,.op 5 0],_,[],Lr 6,[11]⟩,⟨[.op 4 0,.op 6 0],_,[],Lr 7,[12]⟩,⟨[.op 4 0,.op 7 0],_,[],Lr 8,[13]⟩,⟨[.op 4 0,.op 8 0],_,[],Lr 9,[14]⟩]) (F:=[.old 0,.op 9 0]) hst hb Zb
  (o_p rfl (Zd Zce rfl rfl u_0)<|o_p rfl (Zf Zc7 rfl rfl u_0)<|o_p rfl (Zb1 Tryz.underlying36 rfl rfl u_0)<|o_p rfl (Zcu rfl rfl u_0 c_i)<|o_p rfl (Za rfl rfl u_0)<|o_g (g_f rfl rfl rfl (fun hG=>Zd Zi9 rfl rfl u_0))<|o_g (g_f rfl rfl rfl (fun hG=>Zf ty_9 rfl rfl (Opd.gd hG u_0)))<|o_g (g_f rfl rfl rfl (fun hG=>Zfp Tryz.underlying9 rfl rfl (Opd.gd hG u_0)))<|o_g (g_f rfl rfl rfl (fun hG=>Zcu rfl rfl (Opd.gd hG u_0) c_i))<|o_p rfl (Zbo rfl rfl u_0 (fun hz=>(Opd.gd (bNF hz) u_1)))<|o_n) (by kernel_rfl) (fun a g hst hb=>?_)
 refine wp_cond_split (hst.bool 1 rfl) (fun hc1=>?_) (fun hc1=>?_)
 ·replace H0:=Zv hc1 H0
  refine r_s (L:=[]) (T:=[⟨[],_,[],[],[2]⟩]) (F:=[.op 0 0]) (hst.pick [] rfl) hb Zb
   (o_p rfl (Zc rfl rfl c_i)<|o_n) (by kernel_rfl) (fun a g hst hb=>?_)
  refine wp_ret ?_
  refine Zr ?_
  obtain rfl:=Option.some.inj H0
  exact Z5 rfl hst hb (Zk (s:=2)) (hst.at 0 rfl)
 ·replace H0:=Zw hc1 H0
  refine wp_skip ?_
  refine Zs ?_
  refine wp_seq ?_
  refine r_s (L:=[(1,_)]) (T:=[⟨[.old 0],_,[],[],[15]⟩,⟨[.op 0 0],_,[],[0],[16]⟩,⟨[.op 1 0],_,[],[0,1],[17]⟩,⟨[],_,[],[],[18]⟩]) (F:=[.op 1 0,.op 2 0,.op 3 0]) (hst.pick [0] rfl) hb Zb
   (o_p rfl (Zd Zce rfl rfl u_0)<|o_p rfl (Zf Zc7 rfl rfl u_0)<|o_p rfl (Zb1 Tryz.underlying36 rfl rfl u_0)<|o_p rfl (Za rfl rfl c_i)<|o_n) (by kernel_rfl) (fun a g hst hb=>?_)
  obtain ⟨z7,hz1,H0⟩:=Zh H0
  refine Zca (fun a w=>∃ (g:G),w=g.w ∧ St 27 [] a g ∧ Base g0 g ∧ (.inr ())=z7) ?_ ?_
  ·rintro a w ⟨g,rfl,hst,hb,rfl⟩
   refine Zs ?_
   refine r_s (T:=[⟨[],_,[],[],[2]⟩]) (F:=[.op 0 0]) hst hb Zb
    (o_p rfl (Zc rfl rfl c_i)<|o_n) (by kernel_rfl) (fun a g hst hb=>?_)
   refine wp_ret ?_
   obtain rfl:=Option.some.inj H0
   exact Z5 rfl hst hb (Zk (s:=2)) (hst.at 0 rfl)
  ·refine wp_block ?_
   refine wp_loop_ghost (fun n a w=>∃ (x2:Int) (g:G),w=g.w ∧ St 27 [(16,(Zz.sl.pd a0.List)),(17,(pInt .i64 (a0.List.length:Int))),(18,(pInt .i64 x2))] a g ∧ Base g0 g ∧ Zfc a0 n x2=some z7) (Int.toNat ((a0.List.length:Int) - (0:Int)) + 1) ⟨(0:Int),g,rfl,(hst.pick [0,1,2] rfl),hb,hz1⟩ (fun n a w hI=>?_)
   obtain ⟨x2,g,rfl,hst,hb,H1⟩:=hI
   cases n with
   | zero=>exact absurd H1 (by simp [Zfc])
   | succ n =>
    rw [Zfc] at H1
    refine r_s (T:=[⟨[.old 2,.old 1],_,[],[],[19]⟩]) (F:=[.old 0,.old 1,.old 2,.op 0 0]) hst hb Zb
     (o_p rfl (Zci rfl rfl u_0 u_1)<|o_n) (by kernel_rfl) (fun a g hst hb=>?_)
    refine wp_seq ?_
    refine wp_cond_split (hst.bool 3 rfl) (fun hc3=>?_) (fun hc3=>?_)
    ·replace H1:=Zv hc3 H1
     refine wp_skip ?_
     refine Zs ?_
     refine wp_seq ?_
     refine wp_block ?_
     obtain ⟨e4,h5,H1⟩:=Zh H1
     refine r_s (L:=[(16,_),(17,_),(18,_)]) (T:=[⟨[.old 0,.old 2],_,[],[],[20]⟩,⟨[.op 0 0],_,[],[0],[21]⟩,⟨[],[(4,(pBox Zz 4 (default:Zl)))],[5],[],[4]⟩,⟨[.op 1 0,.op 2 0],_,[5],[0,1,2],[4]⟩]) (F:=[.op 3 0,.old 0,.old 1,.old 2]) (hst.pick [0,1,2] rfl) hb Zb
      (o_p rfl (Zbl Tryz.underlying36 Ze4 rfl rfl u_0 u_1 h5)<|o_p rfl (Zf Zea rfl rfl u_0)<|o_p rfl (Zbh (zs:=[.float .f64 0,.string ByteArray.empty]) (by kernel_rfl) (fun g=>Zlh g) rfl rfl)<|o_p rfl (Zb5 Zea rfl rfl u_1 u_0)<|o_n) (by kernel_rfl) (fun a g hst hb=>?_)
     refine r_s (T:=[⟨[.old 0],_,[],[],[22]⟩,⟨[.op 0 0],_,[],[0],[23]⟩,⟨[.op 1 0],_,[],[0,1],[24]⟩,⟨[.op 2 0],_,[],[0,1,2],[25]⟩]) (F:=[.old 1,.old 2,.old 3,.op 3 0]) hst hb Zb
      (o_p rfl (Zd Zd4 rfl rfl u_0)<|o_p rfl (Zf ty_9 rfl rfl u_0)<|o_p rfl (Zfp Tryz.underlying9 rfl rfl u_0)<|o_p rfl (Zcu rfl rfl u_0 c_i)<|o_n) (by kernel_rfl) (fun a g hst hb=>?_)
     refine wp_cond_split (hst.bool 3 rfl) (fun hc6=>?_) (fun hc6=>?_)
     ·replace H1:=Zv hc6 H1
      refine r_s (L:=[]) (T:=[⟨[],_,[],[],[2]⟩]) (F:=[.op 0 0]) (hst.pick [] rfl) hb Zb
       (o_p rfl (Zc rfl rfl c_i)<|o_n) (by kernel_rfl) (fun a g hst hb=>?_)
      refine wp_ret ?_
      refine Z6 ?_
      refine Zr ?_
      refine Zr ?_
      refine Z6 ?_
      refine Zr ?_
      refine Zr ?_
      obtain rfl:=Option.some.inj H1
      obtain rfl:=Option.some.inj H0
      exact Z5 rfl hst hb (Zk (s:=2)) (hst.at 0 rfl)
     ·replace H1:=Zw hc6 H1
      refine wp_skip ?_
      refine Zbe ?_
      refine Zs ?_
      refine r_g (L:=[(16,_),(17,_),(18,_)]) (T:=[⟨[.old 2],_,[],[],[26]⟩,⟨[.op 0 0],_,[],[0],[18]⟩]) (F:=[.old 0,.old 1,.op 1 0]) (hst.pick [0,1,2] rfl) hb Zb
       (o_p rfl (Zb7 rfl rfl u_0 c_i rfl)<|o_p rfl (Za rfl rfl u_0)<|o_n) (by kernel_rfl) (fun a g hst hb=>?_)
      exact ⟨n,Nat.lt_succ_self _,(IntKind.i64.wrap (x2 + (1:Int))),g,rfl,(hst.pick [0,1,2] rfl),hb,H1⟩
    ·replace H1:=Zw hc3 H1
     refine wp_exit ?_
     refine Zb3 ?_
     refine Zb3 ?_
     refine Zcn ?_
     exact ⟨g,rfl,(hst.pick [] rfl),hb,Option.some.inj H1⟩
theorem Zjl (a0:Nat) {r:Bool} (h:Zer a0=some r):FnOk Tryz.prog 96 [(pFlt a0)] (Zbg r):=by
 have H0:=h
 unfold Zer at H0
 clear h
 refine Zbu (N:=6) Tryz.func96 rfl rfl (Nat.le_of_ble_eq_true rfl) rfl rfl (fun a g0 hst hb=>?_)
 refine r_s (T:=[⟨[],_,[],[],[2]⟩]) (F:=[.old 0]) hst hb Zb
  (o_p rfl (Zc rfl rfl c_b)<|o_n) (by kernel_rfl) (fun a g hst hb=>?_)
 refine r_s (T:=[⟨[.old 0],_,[],[],[3]⟩,⟨[.old 0],_,[],[],[4]⟩,⟨[.op 0 0,.op 1 0],_,[],[0,1],[5]⟩,⟨[.op 2 0],_,[],[0,1,2],[2]⟩]) (F:=[.op 3 0]) hst hb Zb
  (o_p rfl (Za rfl rfl u_0)<|o_p rfl (Za rfl rfl u_0)<|o_p rfl (Z2d rfl rfl u_0 u_1)<|o_p rfl (Zc rfl rfl u_0)<|o_n) (by kernel_rfl) (fun a g hst hb=>?_)
 refine wp_ret ?_
 obtain rfl:=Option.some.inj H0
 exact Z5 rfl hst hb (Zk (s:=2)) (hst.at 0 rfl)
theorem Zkp (a0:Nat) {r:Bool} (h:Zf4 a0=some r):FnOk Tryz.prog 71 [(pFlt a0)] (Zbg r):=by
 have H0:=h
 unfold Zf4 at H0
 clear h
 refine Zbu (N:=11) Tryz.func71 rfl rfl (Nat.le_of_ble_eq_true rfl) rfl rfl (fun a g0 hst hb=>?_)
 refine r_s (T:=[⟨[],_,[],[],[2]⟩]) (F:=[.old 0]) hst hb Zb
  (o_p rfl (Zc rfl rfl c_b)<|o_n) (by kernel_rfl) (fun a g hst hb=>?_)
 obtain ⟨r1,h2,H0⟩:=Zh H0
 refine r_s (T:=[⟨[.old 0],_,[],[],[3]⟩,⟨[.op 0 0],_,[],[0],[4]⟩,⟨[.op 1 0],_,[],[0,1],[5]⟩,⟨[.op 2 0],_,[],[0,1,2],[6]⟩,⟨[.op 3 0,.old 0],_,[],Lr 4,[7]⟩,⟨[.op 3 0,.op 4 0],_,[],Lr 5,[8]⟩,⟨[.op 3 0,.op 5 0],_,[],Lr 6,[9]⟩,⟨[.op 3 0,.op 6 0],_,[],Lr 7,[10]⟩,⟨[.op 7 0],_,[],Lr 8,[2]⟩]) (F:=[.op 8 0]) hst hb Zb
  (o_p rfl (Za rfl rfl u_0)<|o_p rfl (Zo Zyu (Zjl _ h2) rfl rfl (.cons u_0 .nil))<|o_p rfl (Zb2 rfl rfl u_0)<|o_p rfl (Za rfl rfl u_0)<|o_g (g_f rfl rfl rfl (fun hG=>Za rfl rfl u_0))<|o_g (g_f rfl rfl rfl (fun hG=>Zqi Zvg rfl rfl (Opd.gd hG u_0)))<|o_g (g_f rfl rfl rfl (fun hG=>Zbs rfl rfl (Opd.gd hG u_0) c_i))<|o_p rfl (Zbo rfl rfl u_0 (fun hz=>(Opd.gd (bNF hz) u_1)))<|o_p rfl (Zc rfl rfl u_0)<|o_n) (by kernel_rfl) (fun a g hst hb=>?_)
 refine wp_ret ?_
 obtain rfl:=Option.some.inj H0
 exact Z5 rfl hst hb (Zk (s:=2)) (hst.at 0 rfl)
theorem Znj (a0:Nat) {r:Bool} (h:Zhf a0=some r):FnOk Tryz.prog 98 [(pFlt a0)] (Zbg r):=by
 have H0:=h
 unfold Zhf at H0
 clear h
 refine Zbu (N:=10) Tryz.func98 rfl rfl (Nat.le_of_ble_eq_true rfl) rfl rfl (fun a g0 hst hb=>?_)
 refine r_s (T:=[⟨[],_,[],[],[2]⟩]) (F:=[.old 0]) hst hb Zb
  (o_p rfl (Zc rfl rfl c_b)<|o_n) (by kernel_rfl) (fun a g hst hb=>?_)
 refine wp_seq ?_
 refine r_s (T:=[⟨[.old 0],_,[],[],[3]⟩,⟨[.op 0 0],_,[],[0],[4]⟩]) (F:=[.old 0,.op 1 0]) hst hb Zb
  (o_p rfl (Za rfl rfl u_0)<|o_p rfl (Zw1 rfl rfl u_0 c_f)<|o_n) (by kernel_rfl) (fun a g hst hb=>?_)
 refine wp_cond_split (hst.bool 1 rfl) (fun hc1=>?_) (fun hc1=>?_)
 ·replace H0:=Zv hc1 H0
  obtain ⟨f2,h3,H0⟩:=Zh H0
  refine r_s (L:=[(0,_)]) (T:=[⟨[.old 0],_,[],[],[5]⟩,⟨[.op 0 0],_,[],[0],[6]⟩,⟨[.op 1 0],_,[],[0,1],[7]⟩,⟨[.op 2 0],_,[],[0,1,2],[2]⟩]) (F:=[.op 3 0]) (hst.pick [0] rfl) hb Zb
   (o_p rfl (Za rfl rfl u_0)<|o_p rfl (Z8u rfl rfl c_f u_0 h3)<|o_p rfl (Zwy rfl rfl u_0 c_f)<|o_p rfl (Zc rfl rfl u_0)<|o_n) (by kernel_rfl) (fun a g hst hb=>?_)
  refine wp_ret ?_
  refine Zr ?_
  obtain rfl:=Option.some.inj H0
  exact Z5 rfl hst hb (Zk (s:=2)) (hst.at 0 rfl)
 ·replace H0:=Zw hc1 H0
  refine wp_skip ?_
  refine Zs ?_
  refine r_s (L:=[(0,_)]) (T:=[⟨[.old 0],_,[],[],[8]⟩,⟨[.op 0 0],_,[],[0],[9]⟩,⟨[.op 1 0],_,[],[0,1],[2]⟩]) (F:=[.op 2 0]) (hst.pick [0] rfl) hb Zb
   (o_p rfl (Za rfl rfl u_0)<|o_p rfl (Zwy rfl rfl u_0 c_f)<|o_p rfl (Zc rfl rfl u_0)<|o_n) (by kernel_rfl) (fun a g hst hb=>?_)
  refine wp_ret ?_
  obtain rfl:=Option.some.inj H0
  exact Z5 rfl hst hb (Zk (s:=2)) (hst.at 0 rfl)
theorem Zhn (a0:Nat) (a1:Nat) {r:Bool} (h:Zfk a0 a1=some r):FnOk Tryz.prog 72 [(pFlt a0),(pFlt a1)] (Zbg r):=by
 have H0:=h
 unfold Zfk at H0
 clear h
 refine Zbu (N:=25) Tryz.func72 rfl rfl (Nat.le_of_ble_eq_true rfl) rfl rfl (fun a g0 hst hb=>?_)
 refine r_s (T:=[⟨[],_,[],[],[4]⟩]) (F:=[.old 0,.old 1]) hst hb Zb
  (o_p rfl (Zc rfl rfl c_b)<|o_n) (by kernel_rfl) (fun a g hst hb=>?_)
 refine wp_seq ?_
 obtain ⟨r1,h2,H0⟩:=Zh H0
 refine r_s (T:=[⟨[.old 0],_,[],[],[5]⟩,⟨[.op 0 0],_,[],[0],[6]⟩]) (F:=[.old 0,.old 1,.op 1 0]) hst hb Zb
  (o_p rfl (Za rfl rfl u_0)<|o_p rfl (Zo Zyu (Zjl _ h2) rfl rfl (.cons u_0 .nil))<|o_n) (by kernel_rfl) (fun a g hst hb=>?_)
 refine wp_cond_split (hst.bool 2 rfl) (fun hc3=>?_) (fun hc3=>?_)
 ·replace H0:=Zv hc3 H0
  refine r_s (L:=[]) (T:=[⟨[],_,[],[],[4]⟩]) (F:=[.op 0 0]) (hst.pick [] rfl) hb Zb
   (o_p rfl (Zc rfl rfl c_b)<|o_n) (by kernel_rfl) (fun a g hst hb=>?_)
  refine wp_ret ?_
  refine Zr ?_
  obtain rfl:=Option.some.inj H0
  exact Z5 rfl hst hb (Zk (s:=4)) (hst.at 0 rfl)
 ·replace H0:=Zw hc3 H0
  refine wp_skip ?_
  refine Zs ?_
  refine wp_seq ?_
  obtain ⟨r4,h5,H0⟩:=Zh H0
  refine r_s (L:=[(0,_),(1,_)]) (T:=[⟨[.old 1],_,[],[],[7]⟩,⟨[.op 0 0],_,[],[0],[8]⟩]) (F:=[.old 0,.old 1,.op 1 0]) (hst.pick [0,1] rfl) hb Zb
   (o_p rfl (Za rfl rfl u_0)<|o_p rfl (Zo Zyu (Zjl _ h5) rfl rfl (.cons u_0 .nil))<|o_n) (by kernel_rfl) (fun a g hst hb=>?_)
  refine wp_cond_split (hst.bool 2 rfl) (fun hc6=>?_) (fun hc6=>?_)
  ·replace H0:=Zv hc6 H0
   refine r_s (L:=[]) (T:=[⟨[],_,[],[],[4]⟩]) (F:=[.op 0 0]) (hst.pick [] rfl) hb Zb
    (o_p rfl (Zc rfl rfl c_b)<|o_n) (by kernel_rfl) (fun a g hst hb=>?_)
   refine wp_ret ?_
   refine Zr ?_
   obtain rfl:=Option.some.inj H0
   exact Z5 rfl hst hb (Zk (s:=4)) (hst.at 0 rfl)
  ·replace H0:=Zw hc6 H0
   refine wp_skip ?_
   refine Zs ?_
   refine wp_seq ?_
   refine r_s (L:=[(0,_),(1,_)]) (T:=[⟨[.old 0],_,[],[],[9]⟩,⟨[.op 0 0],_,[],[0],[10]⟩,⟨[.op 1 0],_,[],[0,1],[11]⟩,⟨[.op 2 0,.old 1],_,[],[0,1,2],[12]⟩,⟨[.op 2 0,.op 3 0],_,[],Lr 4,[13]⟩,⟨[.op 2 0,.op 4 0],_,[],Lr 5,[14]⟩]) (F:=[.old 0,.old 1,.op 5 0]) (hst.pick [0,1] rfl) hb Zb
    (o_p rfl (Za rfl rfl u_0)<|o_p rfl (Zw1 rfl rfl u_0 c_f)<|o_p rfl (Za rfl rfl u_0)<|o_g (g_t rfl rfl rfl (fun hG=>Za rfl rfl u_0))<|o_g (g_t rfl rfl rfl (fun hG=>Zw1 rfl rfl (Opd.gd hG u_0) c_f))<|o_p rfl (Zbi rfl rfl u_0 (fun hz=>(Opd.gd hz u_1)))<|o_n) (by kernel_rfl) (fun a g hst hb=>?_)
   refine wp_cond_split (hst.bool 2 rfl) (fun hc7=>?_) (fun hc7=>?_)
   ·replace H0:=Zv hc7 H0
    obtain ⟨r8,h9,H0⟩:=Zh H0;obtain ⟨r10,h11,H0⟩:=Zh H0
    refine r_s (L:=[(0,_),(1,_)]) (T:=[⟨[.old 0],_,[],[],[15]⟩,⟨[.op 0 0],_,[],[0],[16]⟩,⟨[.op 1 0],_,[],[0,1],[17]⟩,⟨[.op 2 0,.old 1],_,[],[0,1,2],[18]⟩,⟨[.op 2 0,.op 3 0],_,[],Lr 4,[19]⟩,⟨[.op 2 0,.op 4 0],_,[],Lr 5,[20]⟩,⟨[.op 2 0,.op 5 0],_,[],Lr 6,[21]⟩,⟨[.op 6 0],_,[],Lr 7,[4]⟩]) (F:=[.op 7 0]) (hst.pick [0,1] rfl) hb Zb
     (o_p rfl (Za rfl rfl u_0)<|o_p rfl (Zo Z7d (Znj _ h9) rfl rfl (.cons u_0 .nil))<|o_p rfl (Za rfl rfl u_0)<|o_g (g_t rfl rfl rfl (fun hG=>Za rfl rfl u_0))<|o_g (g_t rfl rfl rfl (fun hG=>Zo Z7d (Znj _ (Zbn h11 hG)) rfl rfl (.cons (Opd.gd hG u_0) .nil)))<|o_g (g_t rfl rfl rfl (fun hG=>Zb2 rfl rfl (Opd.gd hG u_0)))<|o_p rfl (Zbi rfl rfl u_0 (fun hz=>(Opd.gd hz u_1)))<|o_p rfl (Zc rfl rfl u_0)<|o_n) (by kernel_rfl) (fun a g hst hb=>?_)
    refine wp_ret ?_
    refine Zr ?_
    obtain rfl:=Option.some.inj H0
    exact Z5 rfl hst hb (Zk (s:=4)) (hst.at 0 rfl)
   ·replace H0:=Zw hc7 H0
    refine wp_skip ?_
    refine Zs ?_
    refine r_s (L:=[(0,_),(1,_)]) (T:=[⟨[.old 0],_,[],[],[22]⟩,⟨[.old 1],_,[],[],[23]⟩,⟨[.op 0 0,.op 1 0],_,[],[0,1],[24]⟩,⟨[.op 2 0],_,[],[0,1,2],[4]⟩]) (F:=[.op 3 0]) (hst.pick [0,1] rfl) hb Zb
     (o_p rfl (Za rfl rfl u_0)<|o_p rfl (Za rfl rfl u_0)<|o_p rfl (Zwy rfl rfl u_0 u_1)<|o_p rfl (Zc rfl rfl u_0)<|o_n) (by kernel_rfl) (fun a g hst hb=>?_)
    refine wp_ret ?_
    obtain rfl:=Option.some.inj H0
    exact Z5 rfl hst hb (Zk (s:=4)) (hst.at 0 rfl)
theorem Zgl (a0:Nat) (a1:Nat) {r:Bool} (h:Zd3 a0 a1=some r):FnOk Tryz.prog 49 [(pFlt a0),(pFlt a1)] (Zbg r):=by
 have H0:=h
 unfold Zd3 at H0
 clear h
 refine Zbu (N:=15) Tryz.func49 rfl rfl (Nat.le_of_ble_eq_true rfl) rfl rfl (fun a g0 hst hb=>?_)
 refine r_s (T:=[⟨[],_,[],[],[4]⟩]) (F:=[.old 0,.old 1]) hst hb Zb
  (o_p rfl (Zc rfl rfl c_b)<|o_n) (by kernel_rfl) (fun a g hst hb=>?_)
 obtain ⟨r1,h2,H0⟩:=Zh H0;obtain ⟨r3,h4,H0⟩:=Zh H0
 refine r_s (T:=[⟨[.old 0],_,[],[],[5]⟩,⟨[.old 1],_,[],[],[6]⟩,⟨[.op 0 0,.op 1 0],_,[],[0,1],[7]⟩,⟨[.op 2 0],_,[],[0,1,2],[8]⟩,⟨[.op 3 0],_,[],Lr 4,[9]⟩,⟨[.op 4 0,.old 1],_,[],Lr 5,[10]⟩,⟨[.op 4 0,.old 0],_,[],Lr 5,[11]⟩,⟨[.op 4 0,.op 5 0,.op 6 0],_,[],Lr 7,[12]⟩,⟨[.op 4 0,.op 7 0],_,[],Lr 8,[13]⟩,⟨[.op 4 0,.op 8 0],_,[],Lr 9,[14]⟩,⟨[.op 9 0],_,[],Lr 10,[4]⟩]) (F:=[.op 10 0]) hst hb Zb
  (o_p rfl (Za rfl rfl u_0)<|o_p rfl (Za rfl rfl u_0)<|o_p rfl (Zo Zv1 (Zhn _ _ h2) rfl rfl (.cons u_0 (.cons u_1 .nil)))<|o_p rfl (Zb2 rfl rfl u_0)<|o_p rfl (Za rfl rfl u_0)<|o_g (g_t rfl rfl rfl (fun hG=>Za rfl rfl u_0))<|o_g (g_t rfl rfl rfl (fun hG=>Za rfl rfl u_0))<|o_g (g_t rfl rfl rfl (fun hG=>Zo Zv1 (Zhn _ _ (Zbn h4 hG)) rfl rfl (.cons (Opd.gd hG u_0) (.cons (Opd.gd hG u_1) .nil))))<|o_g (g_t rfl rfl rfl (fun hG=>Zb2 rfl rfl (Opd.gd hG u_0)))<|o_p rfl (Zbi rfl rfl u_0 (fun hz=>(Opd.gd hz u_1)))<|o_p rfl (Zc rfl rfl u_0)<|o_n) (by kernel_rfl) (fun a g hst hb=>?_)
 refine wp_ret ?_
 obtain rfl:=Option.some.inj H0
 exact Z5 rfl hst hb (Zk (s:=4)) (hst.at 0 rfl)
theorem Zno (a0:Nat) {r:Bool} (h:Zhu a0=some r):FnOk Tryz.prog 103 [(pFlt a0)] (Zbg r):=by
 have H0:=h
 unfold Zhu at H0
 clear h
 refine Zbu (N:=5) Tryz.func103 rfl rfl (Nat.le_of_ble_eq_true rfl) rfl rfl (fun a g0 hst hb=>?_)
 refine r_s (T:=[⟨[],_,[],[],[2]⟩]) (F:=[.old 0]) hst hb Zb
  (o_p rfl (Zc rfl rfl c_b)<|o_n) (by kernel_rfl) (fun a g hst hb=>?_)
 obtain ⟨r1,h2,H0⟩:=Zh H0
 refine r_s (T:=[⟨[.old 0],_,[],[],[3]⟩,⟨[.op 0 0],_,[],[0],[4]⟩,⟨[.op 1 0],_,[],[0,1],[2]⟩]) (F:=[.op 2 0]) hst hb Zb
  (o_p rfl (Za rfl rfl u_0)<|o_p rfl (Zo Ztm (Zgl _ _ h2) rfl rfl (.cons u_0 (.cons c_f .nil)))<|o_p rfl (Zc rfl rfl u_0)<|o_n) (by kernel_rfl) (fun a g hst hb=>?_)
 refine wp_ret ?_
 obtain rfl:=Option.some.inj H0
 exact Z5 rfl hst hb (Zk (s:=2)) (hst.at 0 rfl)
theorem Zry (a0:Ze) (a1:ByteArray) {r:Bool} (h:Zjh a0 a1=some r):FnOk Tryz.prog 82 [(Zi.pd a0),(pStr a1)] (Zbg r):=by
 have H0:=h
 unfold Zjh at H0
 clear h
 refine Zbu (N:=106) Tryz.func82 rfl rfl (Nat.le_of_ble_eq_true rfl) rfl rfl (fun a g0 hst hb=>?_)
 refine r_s (T:=[⟨[.old 0],_,[],[],[2]⟩,⟨[],_,[],[],[4]⟩]) (F:=[.old 1,.op 0 0]) hst hb Zb
  (o_p rfl (Zbq rfl rfl u_0)<|o_p rfl (Zc rfl rfl c_b)<|o_n) (by kernel_rfl) (fun a g hst hb=>?_)
 refine r_s (T:=[⟨[],_,[],[],[5]⟩,⟨[],_,[],[0],[6]⟩,⟨[],_,[],[0,1],[7]⟩,⟨[],_,[],[0,1,2],[8]⟩,⟨[],_,[],Lr 4,[9]⟩]) (F:=[.old 0,.old 1,.op 0 0,.op 1 0,.op 2 0,.op 3 0,.op 4 0]) hst hb Zb
  (o_p rfl (Zc rfl rfl c_b)<|o_p rfl (Zc rfl rfl c_b)<|o_p rfl (Zc rfl rfl c_b)<|o_p rfl (Zc rfl rfl c_b)<|o_p rfl (Zc rfl rfl c_b)<|o_n) (by kernel_rfl) (fun a g hst hb=>?_)
 refine wp_seq ?_
 refine r_s (T:=[⟨[],_,[],[],[10]⟩]) (F:=[.old 0,.old 1,.old 2,.old 3,.old 4,.old 5,.old 6,.op 0 0]) hst hb Zb
  (o_p rfl (Zc rfl rfl c_i)<|o_n) (by kernel_rfl) (fun a g hst hb=>?_)
 obtain ⟨z23,hz1,H0⟩:=Zh H0
 refine Zca (fun a w=>∃ (y18:Bool) (y19:Bool) (y20:Bool) (y21:Bool) (y22:Bool) (g:G),w=g.w ∧ St 106 [(2,(Zi.ptr a0)),(5,(Zbg y18)),(6,(Zbg y19)),(7,(Zbg y20)),(8,(Zbg y21)),(9,(Zbg y22))] a g ∧ Base g0 g ∧ (y18,y19,y20,y21,y22)=z23) ?_ ?_
 ·rintro a w ⟨y18,y19,y20,y21,y22,g,rfl,hst,hb,rfl⟩
  refine Zs ?_
  refine wp_seq ?_
  refine r_s (T:=⟨[.old 1],_,[],[],[52]⟩ :: ⟨[.op 0 0],_,[],[0],[53]⟩ :: ⟨[.op 1 0],_,[],[0,1],[54]⟩ :: ⟨[.op 2 0,.old 0],_,[],[0,1,2],[55]⟩ :: ⟨[.op 2 0,.op 3 0],_,[],Lr 4,[56]⟩ :: ⟨[.op 2 0,.op 4 0],_,[],Lr 5,[57]⟩ :: ⟨[.op 2 0,.op 5 0],_,[],Lr 6,[58]⟩ :: ⟨[.op 6 0],_,[],Lr 7,[59]⟩ :: ⟨[.op 7 0,.old 2],_,[],Lr 8,[60]⟩ :: ⟨[.op 7 0,.op 8 0],_,[],Lr 9,[61]⟩ :: ⟨[.op 7 0,.op 9 0],_,[],Lr 10,[62]⟩ :: ⟨[.op 10 0,.old 0],_,[],Lr 11,[63]⟩ :: ⟨[.op 10 0,.op 11 0],_,[],Lr 12,[64]⟩ :: ⟨[.op 10 0,.op 12 0],_,[],Lr 13,[65]⟩ :: ⟨[.op 7 0,.op 10 0,.op 13 0],_,[],Lr 14,[66]⟩ :: ⟨[.op 7 0,.op 14 0],_,[],Lr 15,[67]⟩ :: ⟨[.op 15 0],_,[],Lr 16,[68]⟩ :: ⟨[.op 16 0,.old 3],_,[],Lr 17,[69]⟩ :: ⟨[.op 16 0,.op 17 0],_,[],Lr 18,[70]⟩ :: ⟨[.op 16 0,.op 18 0],_,[],Lr 19,[71]⟩ :: ⟨[.op 19 0,.old 0],_,[],Lr 20,[72]⟩ :: ⟨[.op 19 0,.op 20 0],_,[],Lr 21,[73]⟩ :: ⟨[.op 19 0,.op 21 0],_,[],Lr 22,[74]⟩ :: ⟨[.op 16 0,.op 19 0,.op 22 0],_,[],Lr 23,[75]⟩ :: ⟨[.op 16 0,.op 23 0],_,[],Lr 24,[76]⟩ :: ⟨[.op 24 0],_,[],Lr 25,[77]⟩ :: ⟨[.op 25 0,.old 3],_,[],Lr 26,[78]⟩ :: ⟨[.op 25 0,.op 26 0],_,[],Lr 27,[79]⟩ :: ⟨[.op 25 0,.op 27 0],_,[],Lr 28,[80]⟩ :: ⟨[.op 28 0,.old 0],_,[],Lr 29,[81]⟩ :: ⟨[.op 28 0,.op 29 0],_,[],Lr 30,[82]⟩ :: ⟨[.op 28 0,.op 30 0],_,[],Lr 31,[83]⟩ :: ⟨[.op 25 0,.op 28 0,.op 31 0],_,[],Lr 32,[84]⟩ :: ⟨[.op 25 0,.op 32 0],_,[],Lr 33,[85]⟩ :: []) (F:=[.old 0,.old 4,.old 5,.op 33 0]) hst hb Zb
   (o_p rfl (Za rfl rfl u_0)<|o_p rfl (Zb2 rfl rfl u_0)<|o_p rfl (Za rfl rfl u_0)<|o_g (g_t rfl rfl rfl (fun hG=>Zd Zi9 rfl rfl u_0))<|o_g (g_t rfl rfl rfl (fun hG=>Zf ty_9 rfl rfl (Opd.gd hG u_0)))<|o_g (g_t rfl rfl rfl (fun hG=>Zol rfl rfl (Opd.gd hG u_0) c_s))<|o_p rfl (Zbi rfl rfl u_0 (fun hz=>(Opd.gd hz u_1)))<|o_p rfl (Za rfl rfl u_0)<|o_g (g_f rfl rfl rfl (fun hG=>Za rfl rfl u_0))<|o_g (g_f rfl rfl rfl (fun hG=>Zb2 rfl rfl (Opd.gd hG u_0)))<|o_g (g_f rfl rfl rfl (fun hG=>Za rfl rfl (Opd.gd hG u_0)))<|o_g (g_ti rfl rfl rfl (fun hG=>Zd Zc1 rfl rfl u_0))<|o_g (g_ti rfl rfl rfl (fun hG=>Zf ty_2 rfl rfl (Opd.gd hG u_0)))<|o_g (g_ti rfl rfl rfl (fun hG=>Zdk rfl rfl (Opd.gd hG u_0) c_i))<|o_g (g_f rfl rfl rfl (fun hG=>Zbi rfl rfl (Opd.gd hG u_0) (fun hz=>(Opd.gd (bA hG hz) u_1))))<|o_p rfl (Zbo rfl rfl u_0 (fun hz=>(Opd.gd (bNF hz) u_1)))<|o_p rfl (Za rfl rfl u_0)<|o_g (g_f rfl rfl rfl (fun hG=>Za rfl rfl u_0))<|o_g (g_f rfl rfl rfl (fun hG=>Zb2 rfl rfl (Opd.gd hG u_0)))<|o_g (g_f rfl rfl rfl (fun hG=>Za rfl rfl (Opd.gd hG u_0)))<|o_g (g_ti rfl rfl rfl (fun hG=>Zd Zjp rfl rfl u_0))<|o_g (g_ti rfl rfl rfl (fun hG=>Zf ty_2 rfl rfl (Opd.gd hG u_0)))<|o_g (g_ti rfl rfl rfl (fun hG=>Zdk rfl rfl (Opd.gd hG u_0) c_i))<|o_g (g_f rfl rfl rfl (fun hG=>Zbi rfl rfl (Opd.gd hG u_0) (fun hz=>(Opd.gd (bA hG hz) u_1))))<|o_p rfl (Zbo rfl rfl u_0 (fun hz=>(Opd.gd (bNF hz) u_1)))<|o_p rfl (Za rfl rfl u_0)<|o_g (g_f rfl rfl rfl (fun hG=>Za rfl rfl u_0))<|o_g (g_f rfl rfl rfl (fun hG=>Zb2 rfl rfl (Opd.gd hG u_0)))<|o_g (g_f rfl rfl rfl (fun hG=>Za rfl rfl (Opd.gd hG u_0)))<|o_g (g_ti rfl rfl rfl (fun hG=>Zd Zjo rfl rfl u_0))<|o_g (g_ti rfl rfl rfl (fun hG=>Zf ty_2 rfl rfl (Opd.gd hG u_0)))<|o_g (g_ti rfl rfl rfl (fun hG=>Zdk rfl rfl (Opd.gd hG u_0) c_i))<|o_g (g_f rfl rfl rfl (fun hG=>Zbi rfl rfl (Opd.gd hG u_0) (fun hz=>(Opd.gd (bA hG hz) u_1))))<|o_p rfl (Zbo rfl rfl u_0 (fun hz=>(Opd.gd (bNF hz) u_1)))<|o_n) (by kernel_rfl) (fun a g hst hb=>?_)
  refine wp_cond_split (hst.bool 3 rfl) (fun hc24=>?_) (fun hc24=>?_)
  ·replace H0:=Zv hc24 H0
   refine r_s (L:=[]) (T:=[⟨[],_,[],[],[4]⟩]) (F:=[.op 0 0]) (hst.pick [] rfl) hb Zb
    (o_p rfl (Zc rfl rfl c_b)<|o_n) (by kernel_rfl) (fun a g hst hb=>?_)
   refine wp_ret ?_
   refine Zr ?_
   obtain rfl:=Option.some.inj H0
   exact Z5 rfl hst hb (Zk (s:=4)) (hst.at 0 rfl)
  ·replace H0:=Zw hc24 H0
   refine wp_skip ?_
   refine Zs ?_
   obtain ⟨r25,h26,H0⟩:=Zh H0
   refine r_s (L:=[(2,_),(8,_),(9,_)]) (T:=⟨[.old 1],_,[],[],[86]⟩ :: ⟨[.op 0 0],_,[],[0],[87]⟩ :: ⟨[.op 1 0,.old 0],_,[],[0,1],[88]⟩ :: ⟨[.op 1 0,.op 2 0],_,[],[0,1,2],[89]⟩ :: ⟨[.op 1 0,.op 3 0],_,[],Lr 4,[90]⟩ :: ⟨[.op 1 0,.op 4 0],_,[],Lr 5,[91]⟩ :: ⟨[.op 5 0],_,[],Lr 6,[92]⟩ :: ⟨[.op 6 0,.old 2],_,[],Lr 7,[93]⟩ :: ⟨[.op 6 0,.op 7 0],_,[],Lr 8,[94]⟩ :: ⟨[.op 8 0,.old 0],_,[],Lr 9,[95]⟩ :: ⟨[.op 8 0,.op 9 0],_,[],Lr 10,[96]⟩ :: ⟨[.op 8 0,.op 10 0],_,[],Lr 11,[97]⟩ :: ⟨[.op 8 0,.op 11 0],_,[],Lr 12,[98]⟩ :: ⟨[.op 12 0,.old 0],_,[],Lr 13,[99]⟩ :: ⟨[.op 12 0,.op 13 0],_,[],Lr 14,[100]⟩ :: ⟨[.op 12 0,.op 14 0],_,[],Lr 15,[101]⟩ :: ⟨[.op 12 0,.op 15 0],_,[],Lr 16,[102]⟩ :: ⟨[.op 8 0,.op 12 0,.op 16 0],_,[],Lr 17,[103]⟩ :: ⟨[.op 6 0,.op 8 0,.op 17 0],_,[],Lr 18,[104]⟩ :: ⟨[.op 6 0,.op 18 0],_,[],Lr 19,[105]⟩ :: ⟨[.op 19 0],_,[],Lr 20,[4]⟩ :: []) (F:=[.op 20 0]) (hst.pick [0,1,2] rfl) hb Zb
    (o_p rfl (Za rfl rfl u_0)<|o_p rfl (Za rfl rfl u_0)<|o_g (g_f rfl rfl rfl (fun hG=>Zd Zgc rfl rfl u_0))<|o_g (g_f rfl rfl rfl (fun hG=>Zf Zc3 rfl rfl (Opd.gd hG u_0)))<|o_g (g_f rfl rfl rfl (fun hG=>Zo Z30 (Zno _ (Zbn h26 hG)) rfl rfl (.cons (Opd.gd hG u_0) .nil)))<|o_p rfl (Zbo rfl rfl u_0 (fun hz=>(Opd.gd (bNF hz) u_1)))<|o_p rfl (Za rfl rfl u_0)<|o_g (g_t rfl rfl rfl (fun hG=>Za rfl rfl u_0))<|o_g (g_t rfl rfl rfl (fun hG=>Za rfl rfl (Opd.gd hG u_0)))<|o_g (g_fi rfl rfl rfl (fun hG=>Zd Zgz rfl rfl u_0))<|o_g (g_fi rfl rfl rfl (fun hG=>Zf ty_3 rfl rfl (Opd.gd hG u_0)))<|o_g (g_fi rfl rfl rfl (fun hG=>Zbs rfl rfl (Opd.gd hG u_0) c_i))<|o_g (g_fi rfl rfl rfl (fun hG=>Za rfl rfl (Opd.gd hG u_0)))<|o_g (g_ti rfl rfl rfl (fun hG=>Zd Zce rfl rfl u_0))<|o_g (g_ti rfl rfl rfl (fun hG=>Zf Zc7 rfl rfl (Opd.gd hG u_0)))<|o_g (g_ti rfl rfl rfl (fun hG=>Zb1 Tryz.underlying36 rfl rfl (Opd.gd hG u_0)))<|o_g (g_ti rfl rfl rfl (fun hG=>Zbs rfl rfl (Opd.gd hG u_0) c_i))<|o_g (g_fi rfl rfl rfl (fun hG=>Zbi rfl rfl (Opd.gd hG u_0) (fun hz=>(Opd.gd (bA hG hz) u_1))))<|o_g (g_t rfl rfl rfl (fun hG=>Zbo rfl rfl (Opd.gd hG u_0) (fun hz=>(Opd.gd (bA hG (bNF hz)) u_1))))<|o_p rfl (Zbi rfl rfl u_0 (fun hz=>(Opd.gd hz u_1)))<|o_p rfl (Zc rfl rfl u_0)<|o_n) (by kernel_rfl) (fun a g hst hb=>?_)
   refine wp_ret ?_
   obtain rfl:=Option.some.inj H0
   exact Z5 rfl hst hb (Zk (s:=4)) (hst.at 0 rfl)
 ·refine wp_block ?_
  refine wp_loop_ghost (fun n a w=>∃ (x1:Bool) (x2:Bool) (x3:Bool) (x4:Bool) (x5:Bool) (x6:Int) (g:G),w=g.w ∧ St 106 [(1,(pStr a1)),(2,(Zi.ptr a0)),(5,(Zbg x1)),(6,(Zbg x2)),(7,(Zbg x3)),(8,(Zbg x4)),(9,(Zbg x5)),(10,(pInt .i64 x6))] a g ∧ Base g0 g ∧ Zc4 a1 n x1 x2 x3 x4 x5 x6=some z23) (Int.toNat ((a1.size:Int) - (0:Int)) + 1) ⟨false,false,false,false,false,(0:Int),g,rfl,(hst.pick [0,1,2,3,4,5,6,7] rfl),hb,hz1⟩ (fun n a w hI=>?_)
  obtain ⟨x1,x2,x3,x4,x5,x6,g,rfl,hst,hb,H1⟩:=hI
  cases n with
  | zero=>exact absurd H1 (by simp [Zc4])
  | succ n =>
   rw [Zc4] at H1
   refine wp_seq ?_
   refine r_s (T:=[⟨[.old 7],_,[],[],[11]⟩,⟨[.old 0],_,[],[],[12]⟩,⟨[.op 1 0],_,[],[1],[13]⟩,⟨[.op 0 0,.op 2 0],_,[],[0,1,2],[14]⟩]) (F:=[.old 0,.old 1,.old 2,.old 3,.old 4,.old 5,.old 6,.old 7,.op 3 0]) hst hb Zb
    (o_p rfl (Za rfl rfl u_0)<|o_p rfl (Za rfl rfl u_0)<|o_p rfl (Zfp Tryz.underlying9 rfl rfl u_0)<|o_p rfl (Zci rfl rfl u_0 u_1)<|o_n) (by kernel_rfl) (fun a g hst hb=>?_)
   refine wp_cond_split (hst.bool 8 rfl) (fun hc7=>?_) (fun hc7=>?_)
   ·replace H1:=Zv hc7 H1
    refine wp_skip ?_
    refine Zs ?_
    refine wp_seq ?_
    refine wp_block ?_
    obtain ⟨b8,h9,H1⟩:=Zh H1
    refine r_s (L:=[(1,_),(2,_),(5,_),(6,_),(7,_),(8,_),(9,_),(10,_)]) (T:=[⟨[.old 2],_,[],[],[17]⟩,⟨[.op 0 0],_,[],[0],[18]⟩,⟨[.op 1 0,.old 0],_,[],[0,1],[19]⟩,⟨[.op 1 0,.old 7],_,[],[0,1],[20]⟩,⟨[.op 1 0,.op 2 0,.op 3 0],_,[],Lr 4,[21]⟩,⟨[.op 1 0,.op 4 0],_,[],Lr 5,[22]⟩,⟨[.op 1 0,.op 5 0],_,[],Lr 6,[23]⟩,⟨[.op 6 0],_,[],Lr 7,[5]⟩]) (F:=[.old 0,.old 1,.op 7 0,.old 3,.old 4,.old 5,.old 6,.old 7]) (hst.pick [0,1,2,3,4,5,6,7] rfl) hb Zb
     (o_p rfl (Za rfl rfl u_0)<|o_p rfl (Za rfl rfl u_0)<|o_g (g_f rfl rfl rfl (fun hG=>Za rfl rfl u_0))<|o_g (g_f rfl rfl rfl (fun hG=>Za rfl rfl u_0))<|o_g (g_f rfl rfl rfl (fun hG=>Zn1 Tryz.underlying9 rfl rfl (Opd.gd hG u_0) (Opd.gd hG u_1) (Zbn h9 hG)))<|o_g (g_f rfl rfl rfl (fun hG=>Zbs rfl rfl (Opd.gd hG u_0) c_i))<|o_p rfl (Zbo rfl rfl u_0 (fun hz=>(Opd.gd (bNF hz) u_1)))<|o_p rfl (Zc rfl rfl u_0)<|o_n) (by kernel_rfl) (fun a g hst hb=>?_)
    obtain ⟨b10,h11,H1⟩:=Zh H1
    refine r_s (T:=[⟨[.old 3],_,[],[],[24]⟩,⟨[.op 0 0],_,[],[0],[25]⟩,⟨[.op 1 0,.old 0],_,[],[0,1],[26]⟩,⟨[.op 1 0,.old 7],_,[],[0,1],[27]⟩,⟨[.op 1 0,.op 2 0,.op 3 0],_,[],Lr 4,[28]⟩,⟨[.op 1 0,.op 4 0],_,[],Lr 5,[29]⟩,⟨[.op 1 0,.op 5 0],_,[],Lr 6,[30]⟩,⟨[.op 6 0],_,[],Lr 7,[6]⟩]) (F:=[.old 0,.old 1,.old 2,.op 7 0,.old 4,.old 5,.old 6,.old 7]) hst hb Zb
     (o_p rfl (Za rfl rfl u_0)<|o_p rfl (Za rfl rfl u_0)<|o_g (g_f rfl rfl rfl (fun hG=>Za rfl rfl u_0))<|o_g (g_f rfl rfl rfl (fun hG=>Za rfl rfl u_0))<|o_g (g_f rfl rfl rfl (fun hG=>Zn1 Tryz.underlying9 rfl rfl (Opd.gd hG u_0) (Opd.gd hG u_1) (Zbn h11 hG)))<|o_g (g_f rfl rfl rfl (fun hG=>Zbs rfl rfl (Opd.gd hG u_0) c_i))<|o_p rfl (Zbo rfl rfl u_0 (fun hz=>(Opd.gd (bNF hz) u_1)))<|o_p rfl (Zc rfl rfl u_0)<|o_n) (by kernel_rfl) (fun a g hst hb=>?_)
    obtain ⟨b12,h13,H1⟩:=Zh H1
    refine r_s (T:=[⟨[.old 4],_,[],[],[31]⟩,⟨[.op 0 0],_,[],[0],[32]⟩,⟨[.op 1 0,.old 0],_,[],[0,1],[33]⟩,⟨[.op 1 0,.old 7],_,[],[0,1],[34]⟩,⟨[.op 1 0,.op 2 0,.op 3 0],_,[],Lr 4,[35]⟩,⟨[.op 1 0,.op 4 0],_,[],Lr 5,[36]⟩,⟨[.op 1 0,.op 5 0],_,[],Lr 6,[37]⟩,⟨[.op 6 0],_,[],Lr 7,[7]⟩]) (F:=[.old 0,.old 1,.old 2,.old 3,.op 7 0,.old 5,.old 6,.old 7]) hst hb Zb
     (o_p rfl (Za rfl rfl u_0)<|o_p rfl (Za rfl rfl u_0)<|o_g (g_f rfl rfl rfl (fun hG=>Za rfl rfl u_0))<|o_g (g_f rfl rfl rfl (fun hG=>Za rfl rfl u_0))<|o_g (g_f rfl rfl rfl (fun hG=>Zn1 Tryz.underlying9 rfl rfl (Opd.gd hG u_0) (Opd.gd hG u_1) (Zbn h13 hG)))<|o_g (g_f rfl rfl rfl (fun hG=>Zbs rfl rfl (Opd.gd hG u_0) c_i))<|o_p rfl (Zbo rfl rfl u_0 (fun hz=>(Opd.gd (bNF hz) u_1)))<|o_p rfl (Zc rfl rfl u_0)<|o_n) (by kernel_rfl) (fun a g hst hb=>?_)
    obtain ⟨b14,h15,H1⟩:=Zh H1
    refine r_s (T:=[⟨[.old 5],_,[],[],[38]⟩,⟨[.op 0 0],_,[],[0],[39]⟩,⟨[.op 1 0,.old 0],_,[],[0,1],[40]⟩,⟨[.op 1 0,.old 7],_,[],[0,1],[41]⟩,⟨[.op 1 0,.op 2 0,.op 3 0],_,[],Lr 4,[42]⟩,⟨[.op 1 0,.op 4 0],_,[],Lr 5,[43]⟩,⟨[.op 1 0,.op 5 0],_,[],Lr 6,[44]⟩,⟨[.op 6 0],_,[],Lr 7,[8]⟩]) (F:=[.old 0,.old 1,.old 2,.old 3,.old 4,.op 7 0,.old 6,.old 7]) hst hb Zb
     (o_p rfl (Za rfl rfl u_0)<|o_p rfl (Za rfl rfl u_0)<|o_g (g_f rfl rfl rfl (fun hG=>Za rfl rfl u_0))<|o_g (g_f rfl rfl rfl (fun hG=>Za rfl rfl u_0))<|o_g (g_f rfl rfl rfl (fun hG=>Zn1 Tryz.underlying9 rfl rfl (Opd.gd hG u_0) (Opd.gd hG u_1) (Zbn h15 hG)))<|o_g (g_f rfl rfl rfl (fun hG=>Zbs rfl rfl (Opd.gd hG u_0) c_i))<|o_p rfl (Zbo rfl rfl u_0 (fun hz=>(Opd.gd (bNF hz) u_1)))<|o_p rfl (Zc rfl rfl u_0)<|o_n) (by kernel_rfl) (fun a g hst hb=>?_)
    obtain ⟨b16,h17,H1⟩:=Zh H1
    refine r_g (T:=[⟨[.old 6],_,[],[],[45]⟩,⟨[.op 0 0],_,[],[0],[46]⟩,⟨[.op 1 0,.old 0],_,[],[0,1],[47]⟩,⟨[.op 1 0,.old 7],_,[],[0,1],[48]⟩,⟨[.op 1 0,.op 2 0,.op 3 0],_,[],Lr 4,[49]⟩,⟨[.op 1 0,.op 4 0],_,[],Lr 5,[50]⟩,⟨[.op 1 0,.op 5 0],_,[],Lr 6,[51]⟩,⟨[.op 6 0],_,[],Lr 7,[9]⟩]) (F:=[.old 0,.old 1,.old 2,.old 3,.old 4,.old 5,.op 7 0,.old 7]) hst hb Zb
     (o_p rfl (Za rfl rfl u_0)<|o_p rfl (Za rfl rfl u_0)<|o_g (g_f rfl rfl rfl (fun hG=>Za rfl rfl u_0))<|o_g (g_f rfl rfl rfl (fun hG=>Za rfl rfl u_0))<|o_g (g_f rfl rfl rfl (fun hG=>Zn1 Tryz.underlying9 rfl rfl (Opd.gd hG u_0) (Opd.gd hG u_1) (Zbn h17 hG)))<|o_g (g_f rfl rfl rfl (fun hG=>Zbs rfl rfl (Opd.gd hG u_0) c_i))<|o_p rfl (Zbo rfl rfl u_0 (fun hz=>(Opd.gd (bNF hz) u_1)))<|o_p rfl (Zc rfl rfl u_0)<|o_n) (by kernel_rfl) (fun a g hst hb=>?_)
    refine Zbe ?_
    refine Zs ?_
    refine r_g (T:=[⟨[.old 7],_,[],[],[15]⟩,⟨[.op 0 0],_,[],[0],[16]⟩,⟨[.op 1 0],_,[],[0,1],[10]⟩]) (F:=[.old 0,.old 1,.old 2,.old 3,.old 4,.old 5,.old 6,.op 2 0]) hst hb Zb
     (o_p rfl (Za rfl rfl u_0)<|o_p rfl (Zb7 rfl rfl u_0 c_i rfl)<|o_p rfl (Zc rfl rfl u_0)<|o_n) (by kernel_rfl) (fun a g hst hb=>?_)
    exact ⟨n,Nat.lt_succ_self _,(x1 || (b8 == (116:Int))),(x2 || (b10 == (110:Int))),(x3 || (b12 == (98:Int))),(x4 || (b14 == (114:Int))),(x5 || (b16 == (108:Int))),(IntKind.i64.wrap (x6 + (1:Int))),g,rfl,(hst.pick [0,1,2,3,4,5,6,7] rfl),hb,H1⟩
   ·replace H1:=Zw hc7 H1
    refine wp_exit ?_
    refine Zb3 ?_
    refine Zb3 ?_
    refine Zcn ?_
    exact ⟨x1,x2,x3,x4,x5,g,rfl,(hst.pick [1,2,3,4,5,6] rfl),hb,Option.some.inj H1⟩
end Go.CL
