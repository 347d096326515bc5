/- A part of the proof of HandAlone. -/
import Derived.Test.YtlanlccmokaajaaGreatDoorHandAloneC5
set_option linter.unusedVariables false
set_option linter.unusedSimpArgs false
set_option maxRecDepth 100000
namespace Go.CL
open Go Go.RowKit Go.Proofs
theorem Zqu (a0:Int) {r:ByteArray} (h:Zjq a0=some r):FnOk Tryz.prog 83 [(pInt .i64 a0)] (pStr r):=by
 have H0:=h
 unfold Zjq at H0
 clear h
 refine Zbu (N:=15) Tryz.func83 rfl rfl (Nat.le_of_ble_eq_true rfl) rfl rfl (fun a g0 hst hb=>?_)
 refine r_s (T:=[⟨[],_,[],[],[2]⟩]) (F:=[.old 0]) hst hb Zb
  (o_p rfl (Zc rfl rfl c_s)<|o_n) (by kernel_rfl) (fun a g hst hb=>?_)
 refine r_s (T:=[⟨[],_,[],[],[4]⟩,⟨[.op 0 0],_,[],[0],[3]⟩]) (F:=[.old 0,.op 1 0]) hst hb Zb
  (o_p rfl (Ziw Zq7 (xs:=[.const (.string ⟨#[]⟩),.const (.string ⟨#[116]⟩),.const (.string ⟨#[110]⟩),.const (.string ⟨#[110]⟩),.const (.string ⟨#[110,98]⟩),.const (.string ⟨#[114]⟩),.const (.string ⟨#[114]⟩),.const (.string ⟨#[114]⟩),.const (.string ⟨#[108]⟩),.const (.string ⟨#[108]⟩)]) (.cons c_s (.cons c_s (.cons c_s (.cons c_s (.cons c_s (.cons c_s (.cons c_s (.cons c_s (.cons c_s (.cons c_s .nil)))))))))) (by decide) rfl rfl)<|o_p rfl (Zc rfl rfl u_0)<|o_n) (by kernel_rfl) (fun a g hst hb=>?_)
 refine wp_seq ?_
 refine r_s (T:=[⟨[.old 0],_,[],[],[5]⟩,⟨[.op 0 0],_,[],[0],[6]⟩,⟨[.op 1 0],_,[],[0,1],[7]⟩,⟨[.op 2 0,.old 0],_,[],[0,1,2],[8]⟩,⟨[.op 2 0,.op 3 0],_,[],Lr 4,[9]⟩,⟨[.op 2 0,.op 4 0],_,[],Lr 5,[10]⟩]) (F:=[.old 0,.old 1,.op 5 0]) hst hb Zb
  (o_p rfl (Za rfl rfl u_0)<|o_p rfl (Zci rfl rfl u_0 c_i)<|o_p rfl (Za rfl rfl u_0)<|o_g (g_f rfl rfl rfl (fun hG=>Za rfl rfl u_0))<|o_g (g_f rfl rfl rfl (fun hG=>Zcu rfl rfl (Opd.gd hG u_0) c_i))<|o_p rfl (Zbo rfl rfl u_0 (fun hz=>(Opd.gd (bNF hz) u_1)))<|o_n) (by kernel_rfl) (fun a g hst hb=>?_)
 refine wp_cond_split (hst.bool 2 rfl) (fun hc1=>?_) (fun hc1=>?_)
 ·replace H0:=Zv hc1 H0
  refine r_s (L:=[]) (T:=[⟨[],_,[],[],[2]⟩]) (F:=[.op 0 0]) (hst.pick [] rfl) hb Zb
   (o_p rfl (Zc rfl rfl c_s)<|o_n) (by kernel_rfl) (fun a g hst hb=>?_)
  refine wp_ret ?_
  refine Zr ?_
  obtain rfl:=Option.some.inj H0
  exact Z5 rfl hst hb (Zk (s:=2)) (hst.at 0 rfl)
 ·replace H0:=Zw hc1 H0
  refine wp_skip ?_
  refine Zs ?_
  obtain ⟨e2,h3,H0⟩:=Zh H0
  refine r_s (L:=[(0,_),(3,_)]) (T:=[⟨[.old 1],_,[],[],[11]⟩,⟨[.old 0],_,[],[],[12]⟩,⟨[.op 0 0,.op 1 0],_,[],[0,1],[13]⟩,⟨[.op 2 0],_,[],[0,1,2],[14]⟩,⟨[.op 3 0],_,[],Lr 4,[2]⟩]) (F:=[.op 4 0]) (hst.pick [0,1] rfl) hb Zb
   (o_p rfl (Za rfl rfl u_0)<|o_p rfl (Za rfl rfl u_0)<|o_p rfl (Zbl Tryz.underlying26 sz_9 rfl rfl u_0 u_1 h3)<|o_p rfl (Zf ty_9 rfl rfl u_0)<|o_p rfl (Zc rfl rfl u_0)<|o_n) (by kernel_rfl) (fun a g hst hb=>?_)
  refine wp_ret ?_
  obtain rfl:=Option.some.inj H0
  exact Z5 rfl hst hb (Zk (s:=2)) (hst.at 0 rfl)
theorem Znh (a0:Zl) (a1:Zl) {r:Bool} (h:Zgf a0 a1=some r):FnOk Tryz.prog 104 [(Zz.pd a0),(Zz.pd a1)] (Zbg r):=by
 have H0:=h
 unfold Zgf at H0
 clear h
 refine Zbu (N:=22) Tryz.func104 rfl rfl (Nat.le_of_ble_eq_true rfl) rfl rfl (fun a g0 hst hb=>?_)
 refine r_s (T:=[⟨[.old 0],_,[],[],[2]⟩,⟨[.old 1],_,[],[],[3]⟩,⟨[],_,[],[],[4]⟩]) (F:=[.op 0 0,.op 1 0]) hst hb Zb
  (o_p rfl (Zbq rfl rfl u_0)<|o_p rfl (Zbq rfl rfl u_0)<|o_p rfl (Zc rfl rfl c_b)<|o_n) (by kernel_rfl) (fun a g hst hb=>?_)
 refine wp_seq ?_
 obtain ⟨r1,h2,H0⟩:=Zh H0
 refine r_s (T:=[⟨[.old 1],_,[],[],[5]⟩,⟨[.op 0 0],_,[],[0],[6]⟩,⟨[.old 0],_,[],[],[7]⟩,⟨[.op 2 0],_,[],[2],[8]⟩,⟨[.op 1 0,.op 3 0],_,[],Lr 4,[9]⟩]) (F:=[.old 0,.old 1,.op 4 0]) hst hb Zb
  (o_p rfl (Zd Zfv rfl rfl u_0)<|o_p rfl (Zf Zc3 rfl rfl u_0)<|o_p rfl (Zd Zfv rfl rfl u_0)<|o_p rfl (Zf Zc3 rfl rfl u_0)<|o_p rfl (Zo Zv1 (Zhn _ _ h2) rfl rfl (.cons u_0 (.cons u_1 .nil)))<|o_n) (by kernel_rfl) (fun a g hst hb=>?_)
 refine wp_cond_split (hst.bool 2 rfl) (fun hc3=>?_) (fun hc3=>?_)
 ·replace H0:=Zv hc3 H0
  refine r_s (L:=[]) (T:=[⟨[],_,[],[],[4]⟩]) (F:=[.op 0 0]) (hst.pick [] rfl) hb Zb
   (o_p rfl (Zc rfl rfl c_b)<|o_n) (by kernel_rfl) (fun a g hst hb=>?_)
  refine wp_ret ?_
  refine Zr ?_
  obtain rfl:=Option.some.inj H0
  exact Z5 rfl hst hb (Zk (s:=4)) (hst.at 0 rfl)
 ·replace H0:=Zw hc3 H0
  refine wp_skip ?_
  refine Zs ?_
  obtain ⟨r4,h5,H0⟩:=Zh H0
  refine r_s (L:=[(2,_),(3,_)]) (T:=⟨[.old 0],_,[],[],[10]⟩ :: ⟨[.op 0 0],_,[],[0],[11]⟩ :: ⟨[.old 1],_,[],[],[12]⟩ :: ⟨[.op 2 0],_,[],[2],[13]⟩ :: ⟨[.op 1 0,.op 3 0],_,[],Lr 4,[14]⟩ :: ⟨[.op 4 0],_,[],Lr 5,[15]⟩ :: ⟨[.op 5 0,.old 0],_,[],Lr 6,[16]⟩ :: ⟨[.op 5 0,.op 6 0],_,[],Lr 7,[17]⟩ :: ⟨[.op 5 0,.old 1],_,[],Lr 6,[18]⟩ :: ⟨[.op 5 0,.op 8 0],_,[],[0,1,2,3,4,5,8],[19]⟩ :: ⟨[.op 5 0,.op 7 0,.op 9 0],_,[],Lr 10,[20]⟩ :: ⟨[.op 5 0,.op 10 0],_,[],Lr 11,[21]⟩ :: ⟨[.op 11 0],_,[],Lr 12,[4]⟩ :: []) (F:=[.op 12 0]) (hst.pick [0,1] rfl) hb Zb
   (o_p rfl (Zd Zfv rfl rfl u_0)<|o_p rfl (Zf Zc3 rfl rfl u_0)<|o_p rfl (Zd Zfv rfl rfl u_0)<|o_p rfl (Zf Zc3 rfl rfl u_0)<|o_p rfl (Zo Ztm (Zgl _ _ h5) rfl rfl (.cons u_0 (.cons u_1 .nil)))<|o_p rfl (Za rfl rfl u_0)<|o_g (g_t rfl rfl rfl (fun hG=>Zd Zd4 rfl rfl u_0))<|o_g (g_t rfl rfl rfl (fun hG=>Zf ty_9 rfl rfl (Opd.gd hG u_0)))<|o_g (g_t rfl rfl rfl (fun hG=>Zd Zd4 rfl rfl u_0))<|o_g (g_t rfl rfl rfl (fun hG=>Zf ty_9 rfl rfl (Opd.gd hG u_0)))<|o_g (g_t rfl rfl rfl (fun hG=>Zm9 rfl rfl (Opd.gd hG u_0) (Opd.gd hG u_1)))<|o_p rfl (Zbi rfl rfl u_0 (fun hz=>(Opd.gd hz u_1)))<|o_p rfl (Zc rfl rfl u_0)<|o_n) (by kernel_rfl) (fun a g hst hb=>?_)
  refine wp_ret ?_
  obtain rfl:=Option.some.inj H0
  exact Z5 rfl hst hb (Zk (s:=4)) (hst.at 0 rfl)
theorem Zr6 (a0:Int) (a1:List Zl) (a2:Int) {r:Int} (h:Zjd a0 a1 a2=some r):FnOk Tryz.prog 84 [(pInt .i64 a0),(Zz.sl.pd a1),(pInt .i64 a2)] (pInt .i64 r):=by
 have H0:=h
 unfold Zjd at H0
 clear h
 refine Zbu (N:=64) Tryz.func84 rfl rfl (Nat.le_of_ble_eq_true rfl) rfl rfl (fun a g0 hst hb=>?_)
 refine r_s (T:=[⟨[],_,[],[],[6]⟩]) (F:=[.old 0,.old 1,.old 2]) hst hb Zb
  (o_p rfl (Zc rfl rfl c_i)<|o_n) (by kernel_rfl) (fun a g hst hb=>?_)
 obtain ⟨e1,h2,H0⟩:=Zh H0
 refine r_s (T:=[⟨[.old 1],_,[],[],[8]⟩,⟨[.old 2],_,[],[],[9]⟩,⟨[.op 0 0,.op 1 0],_,[],[0,1],[10]⟩,⟨[.op 2 0],_,[],[0,1,2],[11]⟩,⟨[],[(7,(pBox Zz 7 (default:Zl)))],[8],[],[7]⟩,⟨[.op 3 0,.op 4 0],_,[8],Lr 5,[7]⟩]) (F:=[.old 0,.old 1,.old 2,.op 5 0]) hst hb Zb
  (o_p rfl (Za rfl rfl u_0)<|o_p rfl (Za rfl rfl u_0)<|o_p rfl (Zbl Tryz.underlying36 Ze4 rfl rfl u_0 u_1 h2)<|o_p rfl (Zf Zea rfl rfl u_0)<|o_p rfl (Zbh (zs:=[.float .f64 0,.string ByteArray.empty]) (by kernel_rfl) (fun g=>Zlh g) rfl rfl)<|o_p rfl (Zb5 Zea rfl rfl u_1 u_0)<|o_n) (by kernel_rfl) (fun a g hst hb=>?_)
 refine wp_seq ?_
 refine r_s (T:=[⟨[.old 3],_,[],[],[12]⟩,⟨[.op 0 0],_,[],[0],[13]⟩,⟨[.op 1 0],_,[],[0,1],[14]⟩,⟨[.op 2 0],_,[],[0,1,2],[15]⟩]) (F:=[.old 0,.old 1,.old 2,.old 3,.op 3 0]) hst hb Zb
  (o_p rfl (Zd Zd4 rfl rfl u_0)<|o_p rfl (Zf ty_9 rfl rfl u_0)<|o_p rfl (Zfp Tryz.underlying9 rfl rfl u_0)<|o_p rfl (Zcu rfl rfl u_0 c_i)<|o_n) (by kernel_rfl) (fun a g hst hb=>?_)
 refine wp_cond_split (hst.bool 4 rfl) (fun hc3=>?_) (fun hc3=>?_)
 ·replace H0:=Zv hc3 H0
  refine r_s (L:=[]) (T:=[⟨[],_,[],[],[6]⟩]) (F:=[.op 0 0]) (hst.pick [] rfl) hb Zb
   (o_p rfl (Zc rfl rfl c_i)<|o_n) (by kernel_rfl) (fun a g hst hb=>?_)
  refine wp_ret ?_
  refine Zr ?_
  obtain rfl:=Option.some.inj H0
  exact Z5 rfl hst hb (Zk (s:=6)) (hst.at 0 rfl)
 ·replace H0:=Zw hc3 H0
  refine wp_skip ?_
  refine Zs ?_
  refine wp_seq ?_
  obtain ⟨r4,h5,H0⟩:=Zh H0;obtain ⟨r6,h7,H0⟩:=Zh H0
  refine r_s (L:=[(0,_),(1,_),(2,_),(7,_)]) (T:=⟨[.old 0],_,[],[],[16]⟩ :: ⟨[.op 0 0],_,[],[0],[17]⟩ :: ⟨[.op 1 0],_,[],[0,1],[18]⟩ :: ⟨[.op 2 0,.old 3],_,[],[0,1,2],[19]⟩ :: ⟨[.op 2 0,.op 3 0],_,[],Lr 4,[20]⟩ :: ⟨[.op 2 0,.op 4 0],_,[],Lr 5,[21]⟩ :: ⟨[.op 2 0,.op 5 0],_,[],Lr 6,[22]⟩ :: ⟨[.op 2 0,.op 6 0],_,[],Lr 7,[23]⟩ :: ⟨[.op 7 0],_,[],Lr 8,[24]⟩ :: ⟨[.op 8 0,.old 3],_,[],Lr 9,[25]⟩ :: ⟨[.op 8 0,.op 9 0],_,[],Lr 10,[26]⟩ :: ⟨[.op 8 0,.op 10 0],_,[],Lr 11,[27]⟩ :: ⟨[.op 8 0,.op 11 0],_,[],Lr 12,[28]⟩ :: ⟨[.op 8 0,.op 12 0],_,[],Lr 13,[29]⟩ :: []) (F:=[.old 0,.old 1,.old 2,.old 3,.op 13 0]) (hst.pick [0,1,2,3] rfl) hb Zb
   (o_p rfl (Za rfl rfl u_0)<|o_p rfl (Zbs rfl rfl u_0 c_i)<|o_p rfl (Za rfl rfl u_0)<|o_g (g_t rfl rfl rfl (fun hG=>Zd Zfv rfl rfl u_0))<|o_g (g_t rfl rfl rfl (fun hG=>Zf Zc3 rfl rfl (Opd.gd hG u_0)))<|o_g (g_t rfl rfl rfl (fun hG=>Zo Z30 (Zno _ (Zbn h5 hG)) rfl rfl (.cons (Opd.gd hG u_0) .nil)))<|o_g (g_t rfl rfl rfl (fun hG=>Zb2 rfl rfl (Opd.gd hG u_0)))<|o_p rfl (Zbi rfl rfl u_0 (fun hz=>(Opd.gd hz u_1)))<|o_p rfl (Za rfl rfl u_0)<|o_g (g_f rfl rfl rfl (fun hG=>Zd Zfv rfl rfl u_0))<|o_g (g_f rfl rfl rfl (fun hG=>Zf Zc3 rfl rfl (Opd.gd hG u_0)))<|o_g (g_f rfl rfl rfl (fun hG=>Zo Z3w (Zkp _ (Zbn h7 hG)) rfl rfl (.cons (Opd.gd hG u_0) .nil)))<|o_g (g_f rfl rfl rfl (fun hG=>Zb2 rfl rfl (Opd.gd hG u_0)))<|o_p rfl (Zbo rfl rfl u_0 (fun hz=>(Opd.gd (bNF hz) u_1)))<|o_n) (by kernel_rfl) (fun a g hst hb=>?_)
  refine wp_cond_split (hst.bool 4 rfl) (fun hc8=>?_) (fun hc8=>?_)
  ·replace H0:=Zv hc8 H0
   refine r_s (L:=[]) (T:=[⟨[],_,[],[],[6]⟩]) (F:=[.op 0 0]) (hst.pick [] rfl) hb Zb
    (o_p rfl (Zc rfl rfl c_i)<|o_n) (by kernel_rfl) (fun a g hst hb=>?_)
   refine wp_ret ?_
   refine Zr ?_
   obtain rfl:=Option.some.inj H0
   exact Z5 rfl hst hb (Zk (s:=6)) (hst.at 0 rfl)
  ·replace H0:=Zw hc8 H0
   refine wp_skip ?_
   refine Zs ?_
   refine wp_seq ?_
   obtain ⟨e9,h10,H0⟩:=Zh H0
   refine r_s (L:=[(0,_),(1,_),(2,_),(7,_)]) (T:=⟨[.old 2],_,[],[],[30]⟩ :: ⟨[.op 0 0],_,[],[0],[31]⟩ :: ⟨[.op 1 0],_,[],[0,1],[32]⟩ :: ⟨[.op 2 0,.old 0],_,[],[0,1,2],[33]⟩ :: ⟨[.op 2 0,.op 3 0],_,[],Lr 4,[34]⟩ :: ⟨[.op 2 0,.op 4 0],_,[],Lr 5,[35]⟩ :: ⟨[.op 5 0],_,[],Lr 6,[36]⟩ :: ⟨[.op 6 0,.old 1],_,[],Lr 7,[37]⟩ :: ⟨[.op 6 0,.old 2],_,[],Lr 7,[38]⟩ :: ⟨[.op 6 0,.op 8 0],_,[],[0,1,2,3,4,5,6,8],[39]⟩ :: ⟨[.op 6 0,.op 7 0,.op 9 0],_,[],Lr 10,[40]⟩ :: ⟨[.op 6 0,.op 10 0],_,[],Lr 11,[41]⟩ :: ⟨[.op 6 0,.op 11 0],_,[],Lr 12,[42]⟩ :: ⟨[.op 6 0,.old 3],_,[],Lr 7,[43]⟩ :: ⟨[.op 6 0,.op 13 0],_,[],[0,1,2,3,4,5,6,13],[44]⟩ :: ⟨[.op 6 0,.op 12 0,.op 14 0],_,[],Lr 15,[45]⟩ :: ⟨[.op 6 0,.op 15 0],_,[],Lr 16,[46]⟩ :: ⟨[.op 6 0,.op 16 0],_,[],Lr 17,[47]⟩ :: []) (F:=[.old 0,.old 1,.old 2,.old 3,.op 17 0]) (hst.pick [0,1,2,3] rfl) hb Zb
    (o_p rfl (Za rfl rfl u_0)<|o_p rfl (Zcu rfl rfl u_0 c_i)<|o_p rfl (Za rfl rfl u_0)<|o_g (g_t rfl rfl rfl (fun hG=>Za rfl rfl u_0))<|o_g (g_t rfl rfl rfl (fun hG=>Zbs rfl rfl (Opd.gd hG u_0) c_i))<|o_p rfl (Zbi rfl rfl u_0 (fun hz=>(Opd.gd hz u_1)))<|o_p rfl (Za rfl rfl u_0)<|o_g (g_t rfl rfl rfl (fun hG=>Za rfl rfl u_0))<|o_g (g_t rfl rfl rfl (fun hG=>Za rfl rfl u_0))<|o_g (g_t rfl rfl rfl (fun hG=>Zg7 rfl rfl (Opd.gd hG u_0) c_i rfl))<|o_g (g_t rfl rfl rfl (fun hG=>Zbl Tryz.underlying36 Ze4 rfl rfl (Opd.gd hG u_0) (Opd.gd hG u_1) (Zbn h10 hG)))<|o_g (g_t rfl rfl rfl (fun hG=>Zd Zd4 rfl rfl (Opd.gd hG u_0)))<|o_g (g_t rfl rfl rfl (fun hG=>Zf ty_9 rfl rfl (Opd.gd hG u_0)))<|o_g (g_t rfl rfl rfl (fun hG=>Zd Zd4 rfl rfl u_0))<|o_g (g_t rfl rfl rfl (fun hG=>Zf ty_9 rfl rfl (Opd.gd hG u_0)))<|o_g (g_t rfl rfl rfl (fun hG=>Zm9 rfl rfl (Opd.gd hG u_0) (Opd.gd hG u_1)))<|o_g (g_t rfl rfl rfl (fun hG=>Zb2 rfl rfl (Opd.gd hG u_0)))<|o_p rfl (Zbi rfl rfl u_0 (fun hz=>(Opd.gd hz u_1)))<|o_n) (by kernel_rfl) (fun a g hst hb=>?_)
   refine wp_cond_split (hst.bool 4 rfl) (fun hc11=>?_) (fun hc11=>?_)
   ·replace H0:=Zv hc11 H0
    refine r_s (L:=[]) (T:=[⟨[],_,[],[],[6]⟩]) (F:=[.op 0 0]) (hst.pick [] rfl) hb Zb
     (o_p rfl (Zc rfl rfl c_i)<|o_n) (by kernel_rfl) (fun a g hst hb=>?_)
    refine wp_ret ?_
    refine Zr ?_
    obtain rfl:=Option.some.inj H0
    exact Z5 rfl hst hb (Zk (s:=6)) (hst.at 0 rfl)
   ·replace H0:=Zw hc11 H0
    refine wp_skip ?_
    refine Zs ?_
    refine wp_seq ?_
    obtain ⟨e12,h13,H0⟩:=Zh H0;obtain ⟨r14,h15,H0⟩:=Zh H0
    refine r_s (L:=[(0,_),(1,_),(2,_),(7,_)]) (T:=⟨[.old 2],_,[],[],[48]⟩ :: ⟨[.op 0 0],_,[],[0],[49]⟩ :: ⟨[.op 1 0],_,[],[0,1],[50]⟩ :: ⟨[.op 2 0,.old 0],_,[],[0,1,2],[51]⟩ :: ⟨[.op 2 0,.op 3 0],_,[],Lr 4,[52]⟩ :: ⟨[.op 2 0,.op 4 0],_,[],Lr 5,[53]⟩ :: ⟨[.op 5 0],_,[],Lr 6,[54]⟩ :: ⟨[.op 6 0,.old 1],_,[],Lr 7,[55]⟩ :: ⟨[.op 6 0,.old 2],_,[],Lr 7,[56]⟩ :: ⟨[.op 6 0,.op 8 0],_,[],[0,1,2,3,4,5,6,8],[57]⟩ :: ⟨[.op 6 0,.op 7 0,.op 9 0],_,[],Lr 10,[58]⟩ :: ⟨[.op 6 0,.op 10 0],_,[],Lr 11,[59]⟩ :: ⟨[.op 6 0,.old 3],_,[],Lr 7,[60]⟩ :: ⟨[.op 6 0,.op 11 0,.op 12 0],_,[],Lr 13,[61]⟩ :: ⟨[.op 6 0,.op 13 0],_,[],Lr 14,[62]⟩ :: ⟨[.op 6 0,.op 14 0],_,[],Lr 15,[63]⟩ :: []) (F:=[.op 15 0]) (hst.pick [0,1,2,3] rfl) hb Zb
     (o_p rfl (Za rfl rfl u_0)<|o_p rfl (Zcu rfl rfl u_0 c_i)<|o_p rfl (Za rfl rfl u_0)<|o_g (g_t rfl rfl rfl (fun hG=>Za rfl rfl u_0))<|o_g (g_t rfl rfl rfl (fun hG=>Zbs rfl rfl (Opd.gd hG u_0) c_i))<|o_p rfl (Zbi rfl rfl u_0 (fun hz=>(Opd.gd hz u_1)))<|o_p rfl (Za rfl rfl u_0)<|o_g (g_t rfl rfl rfl (fun hG=>Za rfl rfl u_0))<|o_g (g_t rfl rfl rfl (fun hG=>Za rfl rfl u_0))<|o_g (g_t rfl rfl rfl (fun hG=>Zg7 rfl rfl (Opd.gd hG u_0) c_i rfl))<|o_g (g_t rfl rfl rfl (fun hG=>Zbl Tryz.underlying36 Ze4 rfl rfl (Opd.gd hG u_0) (Opd.gd hG u_1) (Zbn h13 hG)))<|o_g (g_t rfl rfl rfl (fun hG=>Zf Zea rfl rfl (Opd.gd hG u_0)))<|o_g (g_t rfl rfl rfl (fun hG=>Zf Zea rfl rfl u_0))<|o_g (g_t rfl rfl rfl (fun hG=>Zo Z32 (Znh _ _ (Zbn h15 hG)) rfl rfl (.cons (Opd.gd hG u_0) (.cons (Opd.gd hG u_1) .nil))))<|o_g (g_t rfl rfl rfl (fun hG=>Zb2 rfl rfl (Opd.gd hG u_0)))<|o_p rfl (Zbi rfl rfl u_0 (fun hz=>(Opd.gd hz u_1)))<|o_n) (by kernel_rfl) (fun a g hst hb=>?_)
    refine wp_cond_split (hst.bool 0 rfl) (fun hc16=>?_) (fun hc16=>?_)
    ·replace H0:=Zv hc16 H0
     refine r_s (L:=[]) (T:=[⟨[],_,[],[],[6]⟩]) (F:=[.op 0 0]) (hst.pick [] rfl) hb Zb
      (o_p rfl (Zc rfl rfl c_i)<|o_n) (by kernel_rfl) (fun a g hst hb=>?_)
     refine wp_ret ?_
     refine Zr ?_
     obtain rfl:=Option.some.inj H0
     exact Z5 rfl hst hb (Zk (s:=6)) (hst.at 0 rfl)
    ·replace H0:=Zw hc16 H0
     refine wp_skip ?_
     refine Zs ?_
     refine r_s (L:=[]) (T:=[⟨[],_,[],[],[6]⟩]) (F:=[.op 0 0]) (hst.pick [] rfl) hb Zb
      (o_p rfl (Zc rfl rfl c_i)<|o_n) (by kernel_rfl) (fun a g hst hb=>?_)
     refine wp_ret ?_
     obtain rfl:=Option.some.inj H0
     exact Z5 rfl hst hb (Zk (s:=6)) (hst.at 0 rfl)
theorem Zkz (a0:Ze) {r:Int} (h:Zdy a0=some r):FnOk Tryz.prog 54 [(Zi.pd a0)] (pInt .i64 r):=by
 have H0:=h
 unfold Zdy at H0
 clear h
 refine Zbu (N:=96) Tryz.func54 rfl rfl (Nat.le_of_ble_eq_true rfl) rfl rfl (fun a g0 hst hb=>?_)
 refine r_s (T:=[⟨[.old 0],_,[],[],[1]⟩,⟨[],_,[],[],[2]⟩]) (F:=[.op 0 0]) hst hb Zb
  (o_p rfl (Zbq rfl rfl u_0)<|o_p rfl (Zc rfl rfl c_i)<|o_n) (by kernel_rfl) (fun a g hst hb=>?_)
 refine wp_seq ?_
 refine r_s (T:=[⟨[.old 0],_,[],[],[6]⟩,⟨[.op 0 0],_,[],[0],[7]⟩,⟨[.op 1 0],_,[],[0,1],[8]⟩,⟨[.op 2 0],_,[],[0,1,2],[9]⟩,⟨[.op 3 0,.old 0],_,[],Lr 4,[10]⟩,⟨[.op 3 0,.op 4 0],_,[],Lr 5,[11]⟩,⟨[.op 3 0,.op 5 0],_,[],Lr 6,[12]⟩,⟨[.op 3 0,.op 6 0],_,[],Lr 7,[13]⟩]) (F:=[.old 0,.op 7 0]) hst hb Zb
  (o_p rfl (Zd Zge rfl rfl u_0)<|o_p rfl (Zf ty_3 rfl rfl u_0)<|o_p rfl (Zci rfl rfl u_0 c_i)<|o_p rfl (Za rfl rfl u_0)<|o_g (g_f rfl rfl rfl (fun hG=>Zd Zge rfl rfl u_0))<|o_g (g_f rfl rfl rfl (fun hG=>Zf ty_3 rfl rfl (Opd.gd hG u_0)))<|o_g (g_f rfl rfl rfl (fun hG=>Zcu rfl rfl (Opd.gd hG u_0) c_i))<|o_p rfl (Zbo rfl rfl u_0 (fun hz=>(Opd.gd (bNF hz) u_1)))<|o_n) (by kernel_rfl) (fun a g hst hb=>?_)
 refine wp_cond_split (hst.bool 1 rfl) (fun hc1=>?_) (fun hc1=>?_)
 ·replace H0:=Zv hc1 H0
  refine r_s (L:=[]) (T:=[⟨[],_,[],[],[2]⟩]) (F:=[.op 0 0]) (hst.pick [] rfl) hb Zb
   (o_p rfl (Zc rfl rfl c_i)<|o_n) (by kernel_rfl) (fun a g hst hb=>?_)
  refine wp_ret ?_
  refine Zr ?_
  obtain rfl:=Option.some.inj H0
  exact Z5 rfl hst hb (Zk (s:=2)) (hst.at 0 rfl)
 ·replace H0:=Zw hc1 H0
  refine wp_skip ?_
  refine Zs ?_
  refine wp_seq ?_
  obtain ⟨r2,h3,H0⟩:=Zh H0;obtain ⟨r4,h5,H0⟩:=Zh H0
  refine r_s (L:=[(1,_)]) (T:=[⟨[.old 0],_,[],[],[14]⟩,⟨[.old 0],_,[],[],[15]⟩,⟨[.op 1 0],_,[],[1],[16]⟩,⟨[.op 2 0],_,[],[1,2],[17]⟩,⟨[.op 0 0,.op 3 0],_,[],Lr 4,[18]⟩,⟨[.op 4 0],_,[],Lr 5,[19]⟩]) (F:=[.old 0,.op 5 0]) (hst.pick [0] rfl) hb Zb
   (o_p rfl (Zf Zbc rfl rfl u_0)<|o_p rfl (Zd Zge rfl rfl u_0)<|o_p rfl (Zf ty_3 rfl rfl u_0)<|o_p rfl (Zo Zbbs (Zqu _ h3) rfl rfl (.cons u_0 .nil))<|o_p rfl (Zo Zbcv (Zry _ _ h5) rfl rfl (.cons u_0 (.cons u_1 .nil)))<|o_p rfl (Zb2 rfl rfl u_0)<|o_n) (by kernel_rfl) (fun a g hst hb=>?_)
  refine wp_cond_split (hst.bool 1 rfl) (fun hc6=>?_) (fun hc6=>?_)
  ·replace H0:=Zv hc6 H0
   refine r_s (L:=[]) (T:=[⟨[],_,[],[],[2]⟩]) (F:=[.op 0 0]) (hst.pick [] rfl) hb Zb
    (o_p rfl (Zc rfl rfl c_i)<|o_n) (by kernel_rfl) (fun a g hst hb=>?_)
   refine wp_ret ?_
   refine Zr ?_
   obtain rfl:=Option.some.inj H0
   exact Z5 rfl hst hb (Zk (s:=2)) (hst.at 0 rfl)
  ·replace H0:=Zw hc6 H0
   refine wp_skip ?_
   refine Zs ?_
   refine wp_seq ?_
   refine r_s (L:=[(1,_)]) (T:=[⟨[.old 0],_,[],[],[20]⟩,⟨[.op 0 0],_,[],[0],[21]⟩,⟨[.op 1 0],_,[],[0,1],[22]⟩,⟨[.op 2 0],_,[],[0,1,2],[23]⟩,⟨[.op 3 0,.old 0],_,[],Lr 4,[24]⟩,⟨[.op 3 0,.op 4 0],_,[],Lr 5,[25]⟩,⟨[.op 3 0,.op 5 0],_,[],Lr 6,[26]⟩,⟨[.op 3 0,.op 6 0],_,[],Lr 7,[27]⟩,⟨[.op 3 0,.op 7 0],_,[],Lr 8,[28]⟩]) (F:=[.old 0,.op 8 0]) (hst.pick [0] rfl) hb Zb
    (o_p rfl (Zd Zge rfl rfl u_0)<|o_p rfl (Zf ty_3 rfl rfl u_0)<|o_p rfl (Zbs rfl rfl u_0 c_i)<|o_p rfl (Za rfl rfl u_0)<|o_g (g_t rfl rfl rfl (fun hG=>Zd Zi9 rfl rfl u_0))<|o_g (g_t rfl rfl rfl (fun hG=>Zf ty_9 rfl rfl (Opd.gd hG u_0)))<|o_g (g_t rfl rfl rfl (fun hG=>Zfp Tryz.underlying9 rfl rfl (Opd.gd hG u_0)))<|o_g (g_t rfl rfl rfl (fun hG=>Zcu rfl rfl (Opd.gd hG u_0) c_i))<|o_p rfl (Zbi rfl rfl u_0 (fun hz=>(Opd.gd hz u_1)))<|o_n) (by kernel_rfl) (fun a g hst hb=>?_)
   refine wp_cond_split (hst.bool 1 rfl) (fun hc7=>?_) (fun hc7=>?_)
   ·replace H0:=Zv hc7 H0
    refine r_s (L:=[]) (T:=[⟨[],_,[],[],[2]⟩]) (F:=[.op 0 0]) (hst.pick [] rfl) hb Zb
     (o_p rfl (Zc rfl rfl c_i)<|o_n) (by kernel_rfl) (fun a g hst hb=>?_)
    refine wp_ret ?_
    refine Zr ?_
    obtain rfl:=Option.some.inj H0
    exact Z5 rfl hst hb (Zk (s:=2)) (hst.at 0 rfl)
   ·replace H0:=Zw hc7 H0
    refine wp_skip ?_
    refine Zs ?_
    refine r_s (L:=[(1,_)]) (T:=[⟨[],_,[],[],[3]⟩]) (F:=[.old 0,.op 0 0]) (hst.pick [0] rfl) hb Zb
     (o_p rfl (Zc rfl rfl c_i)<|o_n) (by kernel_rfl) (fun a g hst hb=>?_)
    refine wp_seq ?_
    refine r_s (T:=⟨[.old 0],_,[],[],[29]⟩ :: ⟨[.op 0 0],_,[],[0],[30]⟩ :: ⟨[.op 1 0],_,[],[0,1],[31]⟩ :: ⟨[.op 2 0],_,[],[0,1,2],[32]⟩ :: ⟨[.op 3 0,.old 0],_,[],Lr 4,[33]⟩ :: ⟨[.op 3 0,.op 4 0],_,[],Lr 5,[34]⟩ :: ⟨[.op 3 0,.old 1],_,[],Lr 4,[35]⟩ :: ⟨[.op 3 0,.op 6 0],_,[],[0,1,2,3,6],[36]⟩ :: ⟨[.op 3 0,.op 5 0,.op 7 0],_,[],Lr 8,[37]⟩ :: ⟨[.op 3 0,.op 8 0],_,[],Lr 9,[38]⟩ :: ⟨[.op 9 0,.old 0],_,[],Lr 10,[39]⟩ :: ⟨[.op 9 0,.op 10 0],_,[],Lr 11,[40]⟩ :: ⟨[.op 9 0,.old 1],_,[],Lr 10,[41]⟩ :: ⟨[.op 9 0,.op 11 0,.op 12 0],_,[],Lr 13,[42]⟩ :: ⟨[.op 3 0,.op 9 0,.op 13 0],_,[],Lr 14,[43]⟩ :: ⟨[.op 3 0,.op 14 0],_,[],Lr 15,[44]⟩ :: ⟨[.op 15 0,.old 0],_,[],Lr 16,[45]⟩ :: ⟨[.op 15 0,.op 16 0],_,[],Lr 17,[46]⟩ :: ⟨[.op 15 0,.old 0],_,[],Lr 16,[47]⟩ :: ⟨[.op 15 0,.op 18 0],_,[],0 :: 1 :: 2 :: 3 :: 4 :: 5 :: 6 :: 7 :: 8 :: 9 :: 10 :: 11 :: 12 :: 13 :: 14 :: 15 :: 18 :: [],[48]⟩ :: ⟨[.op 15 0,.op 17 0,.op 19 0],_,[],Lr 20,[49]⟩ :: ⟨[.op 3 0,.op 15 0,.op 20 0],_,[],Lr 21,[50]⟩ :: ⟨[.op 3 0,.op 21 0],_,[],Lr 22,[51]⟩ :: ⟨[.op 22 0,.old 0],_,[],Lr 23,[52]⟩ :: ⟨[.op 22 0,.op 23 0],_,[],Lr 24,[53]⟩ :: ⟨[.op 22 0,.old 0],_,[],Lr 23,[54]⟩ :: ⟨[.op 22 0,.op 25 0],_,[],0 :: 1 :: 2 :: 3 :: 4 :: 5 :: 6 :: 7 :: 8 :: 9 :: 10 :: 11 :: 12 :: 13 :: 14 :: 15 :: 16 :: 17 :: 18 :: 19 :: 20 :: 21 :: 22 :: 25 :: [],[55]⟩ :: ⟨[.op 22 0,.op 24 0,.op 26 0],_,[],Lr 27,[56]⟩ :: ⟨[.op 3 0,.op 22 0,.op 27 0],_,[],Lr 28,[57]⟩ :: ⟨[.op 3 0,.op 28 0],_,[],Lr 29,[58]⟩ :: []) (F:=[.old 0,.op 29 0]) hst hb Zb
     (o_p rfl (Zd Zge rfl rfl u_0)<|o_p rfl (Zf ty_3 rfl rfl u_0)<|o_p rfl (Zbs rfl rfl u_0 c_i)<|o_p rfl (Za rfl rfl u_0)<|o_g (g_t rfl rfl rfl (fun hG=>Zd Zjp rfl rfl u_0))<|o_g (g_t rfl rfl rfl (fun hG=>Zf ty_2 rfl rfl (Opd.gd hG u_0)))<|o_g (g_t rfl rfl rfl (fun hG=>Za rfl rfl u_0))<|o_g (g_t rfl rfl rfl (fun hG=>Zbaz rfl rfl (Opd.gd hG u_0) rfl))<|o_g (g_t rfl rfl rfl (fun hG=>Zci rfl rfl (Opd.gd hG u_0) (Opd.gd hG u_1)))<|o_g (g_t rfl rfl rfl (fun hG=>Za rfl rfl (Opd.gd hG u_0)))<|o_g (g_fi rfl rfl rfl (fun hG=>Zd Zjo rfl rfl u_0))<|o_g (g_fi rfl rfl rfl (fun hG=>Zf ty_2 rfl rfl (Opd.gd hG u_0)))<|o_g (g_fi rfl rfl rfl (fun hG=>Za rfl rfl u_0))<|o_g (g_fi rfl rfl rfl (fun hG=>Zcu rfl rfl (Opd.gd hG u_0) (Opd.gd hG u_1)))<|o_g (g_t rfl rfl rfl (fun hG=>Zbo rfl rfl (Opd.gd hG u_0) (fun hz=>(Opd.gd (bA hG (bNF hz)) u_1))))<|o_g (g_t rfl rfl rfl (fun hG=>Za rfl rfl (Opd.gd hG u_0)))<|o_g (g_fi rfl rfl rfl (fun hG=>Zd Zc1 rfl rfl u_0))<|o_g (g_fi rfl rfl rfl (fun hG=>Zf ty_2 rfl rfl (Opd.gd hG u_0)))<|o_g (g_fi rfl rfl rfl (fun hG=>Zd Zjp rfl rfl u_0))<|o_g (g_fi rfl rfl rfl (fun hG=>Zf ty_2 rfl rfl (Opd.gd hG u_0)))<|o_g (g_fi rfl rfl rfl (fun hG=>Zci rfl rfl (Opd.gd hG u_0) (Opd.gd hG u_1)))<|o_g (g_t rfl rfl rfl (fun hG=>Zbo rfl rfl (Opd.gd hG u_0) (fun hz=>(Opd.gd (bA hG (bNF hz)) u_1))))<|o_g (g_t rfl rfl rfl (fun hG=>Za rfl rfl (Opd.gd hG u_0)))<|o_g (g_fi rfl rfl rfl (fun hG=>Zd Zc1 rfl rfl u_0))<|o_g (g_fi rfl rfl rfl (fun hG=>Zf ty_2 rfl rfl (Opd.gd hG u_0)))<|o_g (g_fi rfl rfl rfl (fun hG=>Zd Zjo rfl rfl u_0))<|o_g (g_fi rfl rfl rfl (fun hG=>Zf ty_2 rfl rfl (Opd.gd hG u_0)))<|o_g (g_fi rfl rfl rfl (fun hG=>Zcu rfl rfl (Opd.gd hG u_0) (Opd.gd hG u_1)))<|o_g (g_t rfl rfl rfl (fun hG=>Zbo rfl rfl (Opd.gd hG u_0) (fun hz=>(Opd.gd (bA hG (bNF hz)) u_1))))<|o_p rfl (Zbi rfl rfl u_0 (fun hz=>(Opd.gd hz u_1)))<|o_n) (by kernel_rfl) (fun a g hst hb=>?_)
    refine wp_cond_split (hst.bool 1 rfl) (fun hc8=>?_) (fun hc8=>?_)
    ·replace H0:=Zv hc8 H0
     refine r_s (L:=[]) (T:=[⟨[],_,[],[],[2]⟩]) (F:=[.op 0 0]) (hst.pick [] rfl) hb Zb
      (o_p rfl (Zc rfl rfl c_i)<|o_n) (by kernel_rfl) (fun a g hst hb=>?_)
     refine wp_ret ?_
     refine Zr ?_
     obtain rfl:=Option.some.inj H0
     exact Z5 rfl hst hb (Zk (s:=2)) (hst.at 0 rfl)
    ·replace H0:=Zw hc8 H0
     refine wp_skip ?_
     refine Zs ?_
     refine wp_seq ?_
     obtain ⟨r9,h10,H0⟩:=Zh H0
     refine r_s (L:=[(1,_)]) (T:=[⟨[.old 0],_,[],[],[59]⟩,⟨[.op 0 0],_,[],[0],[60]⟩,⟨[.op 1 0],_,[],[0,1],[61]⟩,⟨[.op 2 0],_,[],[0,1,2],[62]⟩]) (F:=[.old 0,.op 3 0]) (hst.pick [0] rfl) hb Zb
      (o_p rfl (Zd Zgc rfl rfl u_0)<|o_p rfl (Zf Zc3 rfl rfl u_0)<|o_p rfl (Zo Z3w (Zkp _ h10) rfl rfl (.cons u_0 .nil))<|o_p rfl (Zb2 rfl rfl u_0)<|o_n) (by kernel_rfl) (fun a g hst hb=>?_)
     refine wp_cond_split (hst.bool 1 rfl) (fun hc11=>?_) (fun hc11=>?_)
     ·replace H0:=Zv hc11 H0
      refine r_s (L:=[]) (T:=[⟨[],_,[],[],[2]⟩]) (F:=[.op 0 0]) (hst.pick [] rfl) hb Zb
       (o_p rfl (Zc rfl rfl c_i)<|o_n) (by kernel_rfl) (fun a g hst hb=>?_)
      refine wp_ret ?_
      refine Zr ?_
      obtain rfl:=Option.some.inj H0
      exact Z5 rfl hst hb (Zk (s:=2)) (hst.at 0 rfl)
     ·replace H0:=Zw hc11 H0
      refine wp_skip ?_
      refine Zs ?_
      refine wp_seq ?_
      refine r_s (L:=[(1,_)]) (T:=[⟨[.old 0],_,[],[],[63]⟩,⟨[.op 0 0],_,[],[0],[64]⟩,⟨[.op 1 0],_,[],[0,1],[65]⟩]) (F:=[.old 0,.op 2 0]) (hst.pick [0] rfl) hb Zb
       (o_p rfl (Zd Zge rfl rfl u_0)<|o_p rfl (Zf ty_3 rfl rfl u_0)<|o_p rfl (Zci rfl rfl u_0 c_i)<|o_n) (by kernel_rfl) (fun a g hst hb=>?_)
      refine wp_cond_split (hst.bool 1 rfl) (fun hc12=>?_) (fun hc12=>?_)
      ·replace H0:=Zv hc12 H0
       refine r_s (L:=[]) (T:=[⟨[],_,[],[],[2]⟩]) (F:=[.op 0 0]) (hst.pick [] rfl) hb Zb
        (o_p rfl (Zc rfl rfl c_i)<|o_n) (by kernel_rfl) (fun a g hst hb=>?_)
       refine wp_ret ?_
       refine Zr ?_
       obtain rfl:=Option.some.inj H0
       exact Z5 rfl hst hb (Zk (s:=2)) (hst.at 0 rfl)
      ·replace H0:=Zw hc12 H0
       refine wp_skip ?_
       refine Zs ?_
       refine wp_seq ?_
       refine r_s (L:=[(1,_)]) (T:=[⟨[.old 0],_,[],[],[66]⟩,⟨[.op 0 0],_,[],[0],[67]⟩,⟨[.op 1 0],_,[],[0,1],[68]⟩,⟨[.op 2 0],_,[],[0,1,2],[69]⟩,⟨[.op 3 0,.old 0],_,[],Lr 4,[70]⟩,⟨[.op 3 0,.op 4 0],_,[],Lr 5,[71]⟩,⟨[.op 3 0,.op 5 0],_,[],Lr 6,[72]⟩,⟨[.op 3 0,.op 6 0],_,[],Lr 7,[73]⟩]) (F:=[.old 0,.op 7 0]) (hst.pick [0] rfl) hb Zb
        (o_p rfl (Zd Zgz rfl rfl u_0)<|o_p rfl (Zf ty_3 rfl rfl u_0)<|o_p rfl (Zci rfl rfl u_0 c_i)<|o_p rfl (Za rfl rfl u_0)<|o_g (g_f rfl rfl rfl (fun hG=>Zd Zgz rfl rfl u_0))<|o_g (g_f rfl rfl rfl (fun hG=>Zf ty_3 rfl rfl (Opd.gd hG u_0)))<|o_g (g_f rfl rfl rfl (fun hG=>Zcu rfl rfl (Opd.gd hG u_0) c_i))<|o_p rfl (Zbo rfl rfl u_0 (fun hz=>(Opd.gd (bNF hz) u_1)))<|o_n) (by kernel_rfl) (fun a g hst hb=>?_)
       refine wp_cond_split (hst.bool 1 rfl) (fun hc13=>?_) (fun hc13=>?_)
       ·replace H0:=Zv hc13 H0
        refine r_s (L:=[]) (T:=[⟨[],_,[],[],[2]⟩]) (F:=[.op 0 0]) (hst.pick [] rfl) hb Zb
         (o_p rfl (Zc rfl rfl c_i)<|o_n) (by kernel_rfl) (fun a g hst hb=>?_)
        refine wp_ret ?_
        refine Zr ?_
        obtain rfl:=Option.some.inj H0
        exact Z5 rfl hst hb (Zk (s:=2)) (hst.at 0 rfl)
       ·replace H0:=Zw hc13 H0
        refine wp_skip ?_
        refine Zs ?_
        refine wp_seq ?_
        refine r_s (L:=[(1,_)]) (T:=[⟨[.old 0],_,[],[],[74]⟩,⟨[.op 0 0],_,[],[0],[75]⟩,⟨[.op 1 0],_,[],[0,1],[76]⟩,⟨[.old 0],_,[],[],[77]⟩,⟨[.op 3 0],_,[],[3],[78]⟩,⟨[.op 2 0,.op 4 0],_,[],Lr 5,[79]⟩]) (F:=[.old 0,.op 5 0]) (hst.pick [0] rfl) hb Zb
         (o_p rfl (Zd Zce rfl rfl u_0)<|o_p rfl (Zf Zc7 rfl rfl u_0)<|o_p rfl (Zb1 Tryz.underlying36 rfl rfl u_0)<|o_p rfl (Zd Zgz rfl rfl u_0)<|o_p rfl (Zf ty_3 rfl rfl u_0)<|o_p rfl (Zcu rfl rfl u_0 u_1)<|o_n) (by kernel_rfl) (fun a g hst hb=>?_)
        refine wp_cond_split (hst.bool 1 rfl) (fun hc14=>?_) (fun hc14=>?_)
        ·replace H0:=Zv hc14 H0
         refine r_s (L:=[]) (T:=[⟨[],_,[],[],[2]⟩]) (F:=[.op 0 0]) (hst.pick [] rfl) hb Zb
          (o_p rfl (Zc rfl rfl c_i)<|o_n) (by kernel_rfl) (fun a g hst hb=>?_)
         refine wp_ret ?_
         refine Zr ?_
         obtain rfl:=Option.some.inj H0
         exact Z5 rfl hst hb (Zk (s:=2)) (hst.at 0 rfl)
        ·replace H0:=Zw hc14 H0
         refine wp_skip ?_
         refine Zs ?_
         refine wp_seq ?_
         refine r_s (L:=[(1,_)]) (T:=[⟨[],_,[],[],[4]⟩]) (F:=[.old 0,.op 0 0]) (hst.pick [0] rfl) hb Zb
          (o_p rfl (Zc rfl rfl c_i)<|o_n) (by kernel_rfl) (fun a g hst hb=>?_)
         obtain ⟨z20,hz1,H0⟩:=Zh H0
         refine Zca (fun a w=>∃ (g:G),w=g.w ∧ St 96 [] a g ∧ Base g0 g ∧ (.inr ())=z20) ?_ ?_
         ·rintro a w ⟨g,rfl,hst,hb,rfl⟩
          refine Zs ?_
          refine r_s (T:=[⟨[],_,[],[],[2]⟩]) (F:=[.op 0 0]) hst hb Zb
           (o_p rfl (Zc rfl rfl c_i)<|o_n) (by kernel_rfl) (fun a g hst hb=>?_)
          refine wp_ret ?_
          obtain rfl:=Option.some.inj H0
          exact Z5 rfl hst hb (Zk (s:=2)) (hst.at 0 rfl)
         ·refine wp_block ?_
          refine wp_loop_ghost (fun n a w=>∃ (x15:Int) (g:G),w=g.w ∧ St 96 [(1,(Zi.ptr a0)),(4,(pInt .i64 x15))] a g ∧ Base g0 g ∧ Zeh a0 n x15=some z20) (Int.toNat ((a0.List.length:Int) - (0:Int)) + 1) ⟨(0:Int),g,rfl,(hst.pick [0,1] rfl),hb,hz1⟩ (fun n a w hI=>?_)
          obtain ⟨x15,g,rfl,hst,hb,H1⟩:=hI
          cases n with
          | zero=>exact absurd H1 (by simp [Zeh])
          | succ n =>
           rw [Zeh] at H1
           refine wp_seq ?_
           refine r_s (T:=[⟨[.old 1],_,[],[],[80]⟩,⟨[.old 0],_,[],[],[81]⟩,⟨[.op 1 0],_,[],[1],[82]⟩,⟨[.op 2 0],_,[],[1,2],[83]⟩,⟨[.op 0 0,.op 3 0],_,[],Lr 4,[84]⟩]) (F:=[.old 0,.old 1,.op 4 0]) hst hb Zb
            (o_p rfl (Za rfl rfl u_0)<|o_p rfl (Zd Zce rfl rfl u_0)<|o_p rfl (Zf Zc7 rfl rfl u_0)<|o_p rfl (Zb1 Tryz.underlying36 rfl rfl u_0)<|o_p rfl (Zci rfl rfl u_0 u_1)<|o_n) (by kernel_rfl) (fun a g hst hb=>?_)
           refine wp_cond_split (hst.bool 2 rfl) (fun hc16=>?_) (fun hc16=>?_)
           ·replace H1:=Zv hc16 H1
            refine wp_skip ?_
            refine Zs ?_
            refine wp_seq ?_
            refine wp_block ?_
            obtain ⟨r17,h18,H1⟩:=Zh H1
            refine r_s (L:=[(1,_),(4,_)]) (T:=[⟨[.old 0],_,[],[],[87]⟩,⟨[.op 0 0],_,[],[0],[88]⟩,⟨[.old 0],_,[],[],[89]⟩,⟨[.op 2 0],_,[],[2],[90]⟩,⟨[.old 1],_,[],[],[91]⟩,⟨[.op 1 0,.op 3 0,.op 4 0],_,[],Lr 5,[92]⟩,⟨[.op 5 0],_,[],Lr 6,[5]⟩]) (F:=[.old 0,.old 1,.op 6 0]) (hst.pick [0,1] rfl) hb Zb
             (o_p rfl (Zd Zge rfl rfl u_0)<|o_p rfl (Zf ty_3 rfl rfl u_0)<|o_p rfl (Zd Zce rfl rfl u_0)<|o_p rfl (Zf Zc7 rfl rfl u_0)<|o_p rfl (Za rfl rfl u_0)<|o_p rfl (Zo Zbbn (Zr6 _ _ _ h18) rfl rfl (.cons u_0 (.cons u_1 (.cons u_2 .nil))))<|o_p rfl (Zc rfl rfl u_0)<|o_n) (by kernel_rfl) (fun a g hst hb=>?_)
            refine r_s (T:=[⟨[.old 2],_,[],[],[93]⟩,⟨[.op 0 0],_,[],[0],[94]⟩]) (F:=[.old 0,.old 1,.old 2,.op 1 0]) hst hb Zb
             (o_p rfl (Za rfl rfl u_0)<|o_p rfl (Zdk rfl rfl u_0 c_i)<|o_n) (by kernel_rfl) (fun a g hst hb=>?_)
            refine wp_cond_split (hst.bool 3 rfl) (fun hc19=>?_) (fun hc19=>?_)
            ·replace H1:=Zv hc19 H1
             refine r_s (L:=[(5,_)]) (T:=[⟨[.old 0],_,[],[],[95]⟩,⟨[.op 0 0],_,[],[0],[2]⟩]) (F:=[.op 1 0]) (hst.pick [2] rfl) hb Zb
              (o_p rfl (Za rfl rfl u_0)<|o_p rfl (Zc rfl rfl u_0)<|o_n) (by kernel_rfl) (fun a g hst hb=>?_)
             refine wp_ret ?_
             refine Z6 ?_
             refine Zr ?_
             refine Zr ?_
             refine Z6 ?_
             refine Zr ?_
             refine Zr ?_
             obtain rfl:=Option.some.inj H1
             obtain rfl:=Option.some.inj H0
             exact Z5 rfl hst hb (Zk (s:=2)) (hst.at 0 rfl)
            ·replace H1:=Zw hc19 H1
             refine wp_skip ?_
             refine Zbe ?_
             refine Zs ?_
             refine r_g (L:=[(1,_),(4,_)]) (T:=[⟨[.old 1],_,[],[],[85]⟩,⟨[.op 0 0],_,[],[0],[86]⟩,⟨[.op 1 0],_,[],[0,1],[4]⟩]) (F:=[.old 0,.op 2 0]) (hst.pick [0,1] rfl) hb Zb
              (o_p rfl (Za rfl rfl u_0)<|o_p rfl (Zb7 rfl rfl u_0 c_i rfl)<|o_p rfl (Zc rfl rfl u_0)<|o_n) (by kernel_rfl) (fun a g hst hb=>?_)
             exact ⟨n,Nat.lt_succ_self _,(IntKind.i64.wrap (x15 + (1:Int))),g,rfl,(hst.pick [0,1] rfl),hb,H1⟩
           ·replace H1:=Zw hc16 H1
            refine wp_exit ?_
            refine Zb3 ?_
            refine Zb3 ?_
            refine Zcn ?_
            exact ⟨g,rfl,(hst.pick [] rfl),hb,Option.some.inj H1⟩
theorem Zi0 (a0:Zj) (a1:ByteArray) {r:Int} (h:Zeq a0 a1=some r):FnOk Tryz.prog 55 [(Zbb.pd a0),(pStr a1)] (pInt .i64 r):=by
 have H0:=h
 unfold Zeq at H0
 clear h
 refine Zbu (N:=24) Tryz.func55 rfl rfl (Nat.le_of_ble_eq_true rfl) rfl rfl (fun a g0 hst hb=>?_)
 refine r_s (T:=[⟨[.old 0],_,[],[],[2]⟩,⟨[],_,[],[],[4]⟩]) (F:=[.old 1,.op 0 0]) hst hb Zb
  (o_p rfl (Zbq rfl rfl u_0)<|o_p rfl (Zc rfl rfl c_i)<|o_n) (by kernel_rfl) (fun a g hst hb=>?_)
 refine r_s (T:=[⟨[],_,[],[],[5]⟩]) (F:=[.old 0,.old 1,.op 0 0]) hst hb Zb
  (o_p rfl (Zc rfl rfl c_i)<|o_n) (by kernel_rfl) (fun a g hst hb=>?_)
 obtain ⟨z6,hz1,H0⟩:=Zh H0
 refine wp_seq ?_
 refine Zca (fun a w=>∃ (y5:Int) (g:G),w=g.w ∧ St 24 [(5,(pInt .i64 y5))] a g ∧ Base g0 g ∧ y5=z6) ?_ ?_
 ·rintro a w ⟨y5,g,rfl,hst,hb,rfl⟩
  refine Zs ?_
  refine r_s (T:=[⟨[.old 0],_,[],[],[23]⟩,⟨[.op 0 0],_,[],[0],[4]⟩]) (F:=[.op 1 0]) hst hb Zb
   (o_p rfl (Za rfl rfl u_0)<|o_p rfl (Zc rfl rfl u_0)<|o_n) (by kernel_rfl) (fun a g hst hb=>?_)
  refine wp_ret ?_
  obtain rfl:=Option.some.inj H0
  exact Z5 rfl hst hb (Zk (s:=4)) (hst.at 0 rfl)
 ·refine wp_block ?_
  refine wp_loop_ghost (fun n a w=>∃ (x1:Int) (g:G),w=g.w ∧ St 24 [(1,(pStr a1)),(2,(Zbb.ptr a0)),(5,(pInt .i64 x1))] a g ∧ Base g0 g ∧ Zdf a0 a1 n x1=some z6) (Int.toNat ((a0.L.length:Int) - (0:Int)) + 1) ⟨(0:Int),g,rfl,(hst.pick [0,1,2] rfl),hb,hz1⟩ (fun n a w hI=>?_)
  obtain ⟨x1,g,rfl,hst,hb,H1⟩:=hI
  cases n with
  | zero=>exact absurd H1 (by simp [Zdf])
  | succ n =>
   rw [Zdf] at H1
   refine wp_seq ?_
   obtain ⟨e2,h3,H1⟩:=Zh H1
   refine r_s (T:=⟨[.old 2],_,[],[],[6]⟩ :: ⟨[.old 1],_,[],[],[7]⟩ :: ⟨[.op 1 0],_,[],[1],[8]⟩ :: ⟨[.op 2 0],_,[],[1,2],[9]⟩ :: ⟨[.op 0 0,.op 3 0],_,[],Lr 4,[10]⟩ :: ⟨[.op 4 0],_,[],Lr 5,[11]⟩ :: ⟨[.op 5 0,.old 1],_,[],Lr 6,[12]⟩ :: ⟨[.op 5 0,.op 6 0],_,[],Lr 7,[13]⟩ :: ⟨[.op 5 0,.old 2],_,[],Lr 6,[14]⟩ :: ⟨[.op 5 0,.op 7 0,.op 8 0],_,[],Lr 9,[15]⟩ :: ⟨[.op 5 0,.op 9 0],_,[],Lr 10,[16]⟩ :: ⟨[.op 5 0,.op 10 0],_,[],Lr 11,[17]⟩ :: ⟨[.op 5 0,.old 0],_,[],Lr 6,[18]⟩ :: ⟨[.op 5 0,.op 11 0,.op 12 0],_,[],Lr 13,[19]⟩ :: ⟨[.op 5 0,.op 13 0],_,[],Lr 14,[20]⟩ :: []) (F:=[.old 0,.old 1,.old 2,.op 14 0]) hst hb Zb
    (o_p rfl (Za rfl rfl u_0)<|o_p rfl (Zd Zg5 rfl rfl u_0)<|o_p rfl (Zf Zj9 rfl rfl u_0)<|o_p rfl (Zb1 Tryz.underlying22 rfl rfl u_0)<|o_p rfl (Zci rfl rfl u_0 u_1)<|o_p rfl (Za rfl rfl u_0)<|o_g (g_t rfl rfl rfl (fun hG=>Zd Zg5 rfl rfl u_0))<|o_g (g_t rfl rfl rfl (fun hG=>Zf Zj9 rfl rfl (Opd.gd hG u_0)))<|o_g (g_t rfl rfl rfl (fun hG=>Za rfl rfl u_0))<|o_g (g_t rfl rfl rfl (fun hG=>Zbl Tryz.underlying22 Zm7 rfl rfl (Opd.gd hG u_0) (Opd.gd hG u_1) (Zbn h3 hG)))<|o_g (g_t rfl rfl rfl (fun hG=>Zd Zm5 rfl rfl (Opd.gd hG u_0)))<|o_g (g_t rfl rfl rfl (fun hG=>Zf ty_9 rfl rfl (Opd.gd hG u_0)))<|o_g (g_t rfl rfl rfl (fun hG=>Za rfl rfl u_0))<|o_g (g_t rfl rfl rfl (fun hG=>Zm9 rfl rfl (Opd.gd hG u_0) (Opd.gd hG u_1)))<|o_p rfl (Zbi rfl rfl u_0 (fun hz=>(Opd.gd hz u_1)))<|o_n) (by kernel_rfl) (fun a g hst hb=>?_)
   refine wp_cond_split (hst.bool 3 rfl) (fun hc4=>?_) (fun hc4=>?_)
   ·replace H1:=Zv hc4 H1
    refine wp_skip ?_
    refine Zs ?_
    refine wp_block ?_
    refine r_g (L:=[(1,_),(2,_),(5,_)]) (T:=[⟨[.old 2],_,[],[],[21]⟩,⟨[.op 0 0],_,[],[0],[22]⟩,⟨[.op 1 0],_,[],[0,1],[5]⟩]) (F:=[.old 0,.old 1,.op 2 0]) (hst.pick [0,1,2] rfl) hb Zb
     (o_p rfl (Za rfl rfl u_0)<|o_p rfl (Zb7 rfl rfl u_0 c_i rfl)<|o_p rfl (Zc rfl rfl u_0)<|o_n) (by kernel_rfl) (fun a g hst hb=>?_)
    refine Zbe ?_
    exact ⟨n,Nat.lt_succ_self _,(IntKind.i64.wrap (x1 + (1:Int))),g,rfl,(hst.pick [0,1,2] rfl),hb,H1⟩
   ·replace H1:=Zw hc4 H1
    refine wp_exit ?_
    refine Zb3 ?_
    refine Zb3 ?_
    refine Zcn ?_
    exact ⟨x1,g,rfl,(hst.pick [2] rfl),hb,Option.some.inj H1⟩
theorem Zl0 (a0:Zj) (a1:ByteArray) (a2:Ze) {r:Zj × Int} (h:Ze8 a0 a1 a2=some r):FnOk Tryz.prog 32 [(Zbb.pd a0),(pStr a1),(Zi.pd a2)] (pTup [(Zbb.pd r.1),(pInt .i64 r.2)]):=by
 have H0:=h
 unfold Ze8 at H0
 clear h
 refine Zbu (N:=80) Tryz.func32 rfl rfl (Nat.le_of_ble_eq_true rfl) rfl rfl (fun a g0 hst hb=>?_)
 refine r_s (T:=[⟨[.old 0],_,[],[],[3]⟩,⟨[.old 2],_,[],[],[5]⟩,⟨[],[(6,(pBox Zbb 6 (default:Zj)))],[7],[],[6]⟩,⟨[],_,[],[],[7]⟩]) (F:=[.old 1,.op 0 0,.op 1 0,.op 2 0]) hst hb Zb
  (o_p rfl (Zbq rfl rfl u_0)<|o_p rfl (Zbq rfl rfl u_0)<|o_p rfl (Zbh (zs:=[.slice none 0 0,.int .i64 0]) (by kernel_rfl) (fun g=>Zfi g) rfl rfl)<|o_p rfl (Zc rfl rfl c_i)<|o_n) (by kernel_rfl) (fun a g hst hb=>?_)
 refine wp_seq ?_
 refine r_s (T:=[⟨[.old 0],_,[],[],[12]⟩,⟨[.op 0 0],_,[],[0],[13]⟩,⟨[.op 1 0],_,[],[0,1],[14]⟩,⟨[.op 2 0],_,[],[0,1,2],[15]⟩,⟨[.op 3 0,.old 0],_,[],Lr 4,[16]⟩,⟨[.op 3 0,.op 4 0],_,[],Lr 5,[17]⟩,⟨[.op 3 0,.op 5 0],_,[],Lr 6,[18]⟩,⟨[.op 3 0,.op 6 0],_,[],Lr 7,[19]⟩]) (F:=[.old 0,.old 1,.old 2,.old 3,.op 7 0]) hst hb Zb
  (o_p rfl (Za rfl rfl u_0)<|o_p rfl (Zfp Tryz.underlying9 rfl rfl u_0)<|o_p rfl (Zci rfl rfl u_0 c_i)<|o_p rfl (Za rfl rfl u_0)<|o_g (g_f rfl rfl rfl (fun hG=>Za rfl rfl u_0))<|o_g (g_f rfl rfl rfl (fun hG=>Zfp Tryz.underlying9 rfl rfl (Opd.gd hG u_0)))<|o_g (g_f rfl rfl rfl (fun hG=>Zcu rfl rfl (Opd.gd hG u_0) c_i))<|o_p rfl (Zbo rfl rfl u_0 (fun hz=>(Opd.gd (bNF hz) u_1)))<|o_n) (by kernel_rfl) (fun a g hst hb=>?_)
 refine wp_cond_split (hst.bool 4 rfl) (fun hc1=>?_) (fun hc1=>?_)
 ·replace H0:=Zv hc1 H0
  refine r_s (L:=[(3,_),(6,_)]) (T:=[⟨[.old 0],_,[],[],[20]⟩,⟨[.op 0 0,.old 1],_,[7],[0],[6]⟩,⟨[],_,[],[0,1],[7]⟩]) (F:=[.op 1 0,.op 2 0]) (hst.pick [1,3] rfl) hb Zb
   (o_p rfl (Zf Zcv rfl rfl u_0)<|o_p rfl (Z2 Zcv rfl rfl u_1 u_0)<|o_p rfl (Zc rfl rfl c_i)<|o_n) (by kernel_rfl) (fun a g hst hb=>?_)
  refine wp_ret ?_
  refine Zr ?_
  obtain rfl:=Option.some.inj H0
  obtain ⟨u0,hu0,hq0⟩:=Zbf (P:=Tryz.prog) Zcv (hst.at 0 rfl)
  exact Zdq rfl hst hb hu0 (Zk (s:=7)) (Zcw hq0 (hst.at 1 rfl))
 ·replace H0:=Zw hc1 H0
  refine wp_skip ?_
  refine Zs ?_
  obtain ⟨r2,h3,H0⟩:=Zh H0
  refine r_s (L:=[(1,_),(3,_),(5,_),(6,_)]) (T:=[⟨[.old 2],_,[],[],[21]⟩,⟨[.op 0 0],_,[],[0],[22]⟩,⟨[.op 1 0],_,[],[0,1],[8]⟩]) (F:=[.old 0,.old 1,.old 2,.old 3,.op 2 0]) (hst.pick [0,1,2,3] rfl) hb Zb
   (o_p rfl (Zf Zbc rfl rfl u_0)<|o_p rfl (Zo Z3d (Zkz _ h3) rfl rfl (.cons u_0 .nil))<|o_p rfl (Zc rfl rfl u_0)<|o_n) (by kernel_rfl) (fun a g hst hb=>?_)
  refine wp_seq ?_
  refine r_s (T:=[⟨[.old 4],_,[],[],[23]⟩,⟨[.op 0 0],_,[],[0],[24]⟩]) (F:=[.old 0,.old 1,.old 2,.old 3,.old 4,.op 1 0]) hst hb Zb
   (o_p rfl (Za rfl rfl u_0)<|o_p rfl (Zdk rfl rfl u_0 c_i)<|o_n) (by kernel_rfl) (fun a g hst hb=>?_)
  refine wp_cond_split (hst.bool 5 rfl) (fun hc4=>?_) (fun hc4=>?_)
  ·replace H0:=Zv hc4 H0
   refine r_s (L:=[(3,_),(6,_),(8,_)]) (T:=[⟨[.old 0],_,[],[],[25]⟩,⟨[.old 2],_,[],[],[26]⟩,⟨[.op 0 0,.old 1],_,[7],[0],[6]⟩,⟨[.op 1 0],_,[],[0,1,2],[7]⟩]) (F:=[.op 2 0,.op 3 0]) (hst.pick [1,3,4] rfl) hb Zb
    (o_p rfl (Zf Zcv rfl rfl u_0)<|o_p rfl (Za rfl rfl u_0)<|o_p rfl (Z2 Zcv rfl rfl u_1 u_0)<|o_p rfl (Zc rfl rfl u_0)<|o_n) (by kernel_rfl) (fun a g hst hb=>?_)
   refine wp_ret ?_
   refine Zr ?_
   obtain rfl:=Option.some.inj H0
   obtain ⟨u0,hu0,hq0⟩:=Zbf (P:=Tryz.prog) Zcv (hst.at 0 rfl)
   exact Zdq rfl hst hb hu0 (Zk (s:=7)) (Zcw hq0 (hst.at 1 rfl))
  ·replace H0:=Zw hc4 H0
   refine wp_skip ?_
   refine Zs ?_
   obtain ⟨r5,h6,H0⟩:=Zh H0
   refine r_s (L:=[(1,_),(3,_),(5,_),(6,_)]) (T:=[⟨[.old 1],_,[],[],[27]⟩,⟨[.old 0],_,[],[],[28]⟩,⟨[.op 0 0,.op 1 0],_,[],[0,1],[29]⟩,⟨[.op 2 0],_,[],[0,1,2],[9]⟩]) (F:=[.old 0,.old 1,.old 2,.old 3,.op 3 0]) (hst.pick [0,1,2,3] rfl) hb Zb
    (o_p rfl (Zf Zcv rfl rfl u_0)<|o_p rfl (Za rfl rfl u_0)<|o_p rfl (Zo Z2y (Zi0 _ _ h6) rfl rfl (.cons u_0 (.cons u_1 .nil)))<|o_p rfl (Zc rfl rfl u_0)<|o_n) (by kernel_rfl) (fun a g hst hb=>?_)
   obtain ⟨e7,h8,H0⟩:=Zh H0
   refine r_s (T:=⟨[.old 4],_,[],[],[30]⟩ :: ⟨[.old 1],_,[],[],[31]⟩ :: ⟨[.op 1 0],_,[],[1],[32]⟩ :: ⟨[.op 2 0],_,[],[1,2],[33]⟩ :: ⟨[.op 0 0,.op 3 0],_,[],Lr 4,[34]⟩ :: ⟨[.op 4 0],_,[],Lr 5,[35]⟩ :: ⟨[.op 5 0,.old 1],_,[],Lr 6,[36]⟩ :: ⟨[.op 5 0,.op 6 0],_,[],Lr 7,[37]⟩ :: ⟨[.op 5 0,.old 4],_,[],Lr 6,[38]⟩ :: ⟨[.op 5 0,.op 7 0,.op 8 0],_,[],Lr 9,[39]⟩ :: ⟨[.op 5 0,.op 9 0],_,[],Lr 10,[40]⟩ :: ⟨[.op 5 0,.op 10 0],_,[],Lr 11,[41]⟩ :: ⟨[.op 5 0,.old 0],_,[],Lr 6,[42]⟩ :: ⟨[.op 5 0,.op 11 0,.op 12 0],_,[],Lr 13,[43]⟩ :: ⟨[.op 5 0,.op 13 0],_,[],Lr 14,[44]⟩ :: ⟨[.op 14 0],_,[],Lr 15,[10]⟩ :: []) (F:=[.old 0,.old 1,.old 2,.old 3,.old 4,.op 15 0]) hst hb Zb
    (o_p rfl (Za rfl rfl u_0)<|o_p rfl (Zd Zg5 rfl rfl u_0)<|o_p rfl (Zf Zj9 rfl rfl u_0)<|o_p rfl (Zb1 Tryz.underlying22 rfl rfl u_0)<|o_p rfl (Zci rfl rfl u_0 u_1)<|o_p rfl (Za rfl rfl u_0)<|o_g (g_t rfl rfl rfl (fun hG=>Zd Zg5 rfl rfl u_0))<|o_g (g_t rfl rfl rfl (fun hG=>Zf Zj9 rfl rfl (Opd.gd hG u_0)))<|o_g (g_t rfl rfl rfl (fun hG=>Za rfl rfl u_0))<|o_g (g_t rfl rfl rfl (fun hG=>Zbl Tryz.underlying22 Zm7 rfl rfl (Opd.gd hG u_0) (Opd.gd hG u_1) (Zbn h8 hG)))<|o_g (g_t rfl rfl rfl (fun hG=>Zd Zm5 rfl rfl (Opd.gd hG u_0)))<|o_g (g_t rfl rfl rfl (fun hG=>Zf ty_9 rfl rfl (Opd.gd hG u_0)))<|o_g (g_t rfl rfl rfl (fun hG=>Za rfl rfl u_0))<|o_g (g_t rfl rfl rfl (fun hG=>Zla rfl rfl (Opd.gd hG u_0) (Opd.gd hG u_1)))<|o_p rfl (Zbi rfl rfl u_0 (fun hz=>(Opd.gd hz u_1)))<|o_p rfl (Zc rfl rfl u_0)<|o_n) (by kernel_rfl) (fun a g hst hb=>?_)
   refine wp_seq ?_
   refine r_s (T:=[⟨[.old 5],_,[],[],[45]⟩,⟨[.op 0 0],_,[],[0],[46]⟩,⟨[.op 1 0],_,[],[0,1],[47]⟩,⟨[.op 2 0,.old 1],_,[],[0,1,2],[48]⟩,⟨[.op 2 0,.op 3 0],_,[],Lr 4,[49]⟩,⟨[.op 2 0,.op 4 0],_,[],Lr 5,[50]⟩,⟨[.op 2 0,.old 1],_,[],[0,1,2],[51]⟩,⟨[.op 2 0,.op 6 0],_,[],[0,1,2,6],[52]⟩,⟨[.op 2 0,.op 5 0,.op 7 0],_,[],Lr 8,[53]⟩,⟨[.op 2 0,.op 8 0],_,[],Lr 9,[54]⟩]) (F:=[.old 0,.old 1,.old 2,.old 3,.old 4,.old 5,.op 9 0]) hst hb Zb
    (o_p rfl (Za rfl rfl u_0)<|o_p rfl (Zb2 rfl rfl u_0)<|o_p rfl (Za rfl rfl u_0)<|o_g (g_t rfl rfl rfl (fun hG=>Zd Zg5 rfl rfl u_0))<|o_g (g_t rfl rfl rfl (fun hG=>Zf Zj9 rfl rfl (Opd.gd hG u_0)))<|o_g (g_t rfl rfl rfl (fun hG=>Zb1 Tryz.underlying22 rfl rfl (Opd.gd hG u_0)))<|o_g (g_t rfl rfl rfl (fun hG=>Zd Zqy rfl rfl u_0))<|o_g (g_t rfl rfl rfl (fun hG=>Zf ty_3 rfl rfl (Opd.gd hG u_0)))<|o_g (g_t rfl rfl rfl (fun hG=>Zmn rfl rfl (Opd.gd hG u_0) (Opd.gd hG u_1)))<|o_p rfl (Zbi rfl rfl u_0 (fun hz=>(Opd.gd hz u_1)))<|o_n) (by kernel_rfl) (fun a g hst hb=>?_)
   refine wp_cond_split (hst.bool 6 rfl) (fun hc9=>?_) (fun hc9=>?_)
   ·replace H0:=Zv hc9 H0
    refine r_s (L:=[(3,_),(6,_)]) (T:=[⟨[.old 0],_,[],[],[55]⟩,⟨[.op 0 0,.old 1],_,[7],[0],[6]⟩,⟨[],_,[],[0,1],[7]⟩]) (F:=[.op 1 0,.op 2 0]) (hst.pick [1,3] rfl) hb Zb
     (o_p rfl (Zf Zcv rfl rfl u_0)<|o_p rfl (Z2 Zcv rfl rfl u_1 u_0)<|o_p rfl (Zc rfl rfl c_i)<|o_n) (by kernel_rfl) (fun a g hst hb=>?_)
    refine wp_ret ?_
    refine Zr ?_
    obtain rfl:=Option.some.inj H0
    obtain ⟨u0,hu0,hq0⟩:=Zbf (P:=Tryz.prog) Zcv (hst.at 0 rfl)
    exact Zdq rfl hst hb hu0 (Zk (s:=7)) (Zcw hq0 (hst.at 1 rfl))
   ·replace H0:=Zw hc9 H0
    refine wp_skip ?_
    refine Zs ?_
    obtain ⟨c10,h11,H0⟩:=Zh H0;obtain ⟨h12,H0⟩:=Zfz H0
    refine r_s (L:=[(1,_),(3,_),(5,_),(6,_),(9,_),(10,_)]) (T:=[⟨[],_,[57],[],[56]⟩,⟨[.old 1],_,[],[],[57]⟩,⟨[.op 1 0],_,[],[1],[58]⟩,⟨[.old 4],_,[],[],[59]⟩,⟨[.op 2 0,.op 3 0],_,[],[1,2,3],[60]⟩,⟨[.op 0 0,.op 4 0],_,[57],Lr 5,[56,61]⟩,⟨[.op 5 0],_,[],Lr 6,[11]⟩]) (F:=[.old 0,.old 1,.old 2,.old 3,.old 4,.old 5,.op 6 0]) (hst.pick [0,1,2,3,4,5] rfl) hb Zb
     (o_p rfl (Zku 56 Zp7 (xs:=[]) .nil (by decide) rfl rfl)<|o_p rfl (Zd Zg5 rfl rfl u_0)<|o_p rfl (Zf Zj9 rfl rfl u_0)<|o_p rfl (Za rfl rfl u_0)<|o_p rfl (Zti Tryz.underlying22 Zm7 rfl rfl u_0 u_1 h11)<|o_p rfl (Zfr Zp7 rfl rfl u_0 u_1 h12)<|o_p rfl (Zc rfl rfl u_0)<|o_n) (by kernel_rfl) (fun a g hst hb=>?_)
    obtain ⟨h13,H0⟩:=Zfz H0
    refine r_s (T:=[⟨[.old 6],_,[],[],[62]⟩,⟨[.old 0],_,[],[],[63]⟩,⟨[.old 2],_,[],[],[64]⟩,⟨[.op 1 0,.op 2 0],_,[],[1,2],[65]⟩,⟨[.op 3 0],_,[],[1,2,3],[66]⟩,⟨[.op 0 0,.op 4 0],_,[57],Lr 5,[11,62,67]⟩,⟨[.op 5 0],_,[],Lr 6,[11]⟩]) (F:=[.old 1,.old 3,.old 4,.old 5,.op 6 0]) hst hb Zb
     (o_p rfl (Za rfl rfl u_0)<|o_p rfl (Za rfl rfl u_0)<|o_p rfl (Zf Zbc rfl rfl u_0)<|o_p rfl (Z4y rfl rfl u_0 u_1)<|o_p rfl (Ziw Zp7 (xs:=[.tmp 65]) (.cons u_0 .nil) (by decide) rfl rfl)<|o_p rfl (Zfr Zp7 rfl rfl u_0 u_1 h13)<|o_p rfl (Zc rfl rfl u_0)<|o_n) (by kernel_rfl) (fun a g hst hb=>?_)
    refine wp_seq ?_
    refine r_s (T:=[⟨[.old 3],_,[],[],[68]⟩]) (F:=[.old 0,.old 1,.old 2,.old 4,.op 0 0]) hst hb Zb
     (o_p rfl (Za rfl rfl u_0)<|o_n) (by kernel_rfl) (fun a g hst hb=>?_)
    refine Zca (fun a w=>∃ (j15:Int) (g:G),w=g.w ∧ St 80 [(3,(Zbb.ptr a0)),(6,(pBox Zbb 6 (default:Zj))),(9,(pInt .i64 j15)),(11,(pRow Zb6 85 56 ((([]:List Zbd) ++ c10) ++ ([({ Key:=a1,Rec:=a2 }:Zbd)]:List Zbd))))] a g ∧ Base g0 g ∧ Ze7 a0 a1 a2 c10 j15=some r) ?_ ?_
    ·rintro a w ⟨j15,g,rfl,hst,hb,H0⟩
     unfold Ze7 at H0
     refine Zs ?_
     obtain ⟨c16,h17,H0⟩:=Zh H0;obtain ⟨h18,H0⟩:=Zfz H0
     refine r_s (T:=[⟨[.old 3],_,[],[],[71]⟩,⟨[.old 0],_,[],[],[72]⟩,⟨[.op 1 0],_,[],[1],[73]⟩,⟨[.old 2],_,[],[],[74]⟩,⟨[.op 2 0,.op 3 0],_,[],[1,2,3],[75]⟩,⟨[.op 0 0,.op 4 0],_,[57],Lr 5,[11,71,76]⟩,⟨[.old 0],_,[],[],[77]⟩,⟨[.op 6 0],_,[],[6],[78]⟩,⟨[.op 5 0,.op 7 0],_,[],Lr 8,[79]⟩,⟨[.op 8 0,.old 1],_,[7],Lr 9,[6]⟩,⟨[],_,[],Lr 10,[7]⟩]) (F:=[.op 9 0,.op 10 0]) hst hb Zb
      (o_p rfl (Za rfl rfl u_0)<|o_p rfl (Zd Zg5 rfl rfl u_0)<|o_p rfl (Zf Zj9 rfl rfl u_0)<|o_p rfl (Za rfl rfl u_0)<|o_p rfl (Z17 Tryz.underlying22 Zm7 rfl rfl u_0 u_1 h17)<|o_p rfl (Zfr Zp7 rfl rfl u_0 u_1 h18)<|o_p rfl (Zd Zqy rfl rfl u_0)<|o_p rfl (Zf ty_3 rfl rfl u_0)<|o_p rfl (Zxe rfl rfl (Opd.imp u_0 (fun _ _ h=>Zgi h)) u_1)<|o_p rfl (Z2 Zcv rfl rfl u_1 u_0)<|o_p rfl (Zc rfl rfl c_i)<|o_n) (by kernel_rfl) (fun a g hst hb=>?_)
     refine wp_ret ?_
     obtain rfl:=Option.some.inj H0
     obtain ⟨u0,hu0,hq0⟩:=Zbf (P:=Tryz.prog) Zcv (hst.at 0 rfl)
     exact Zdq rfl hst hb hu0 (Zk (s:=7)) (Zcw hq0 (hst.at 1 rfl))
    ·refine wp_cond_split (hst.bool 4 rfl) (fun hc14=>?_) (fun hc14=>?_)
     ·replace H0:=Zv hc14 H0
      refine r_g (L:=[(3,_),(6,_),(9,_),(11,_)]) (T:=[⟨[.old 2],_,[],[],[69]⟩,⟨[.op 0 0],_,[],[0],[70]⟩,⟨[.op 1 0],_,[],[0,1],[9]⟩]) (F:=[.old 0,.old 1,.op 2 0,.old 3]) (hst.pick [0,1,2,3] rfl) hb Zb
       (o_p rfl (Za rfl rfl u_0)<|o_p rfl (Zb7 rfl rfl u_0 c_i rfl)<|o_p rfl (Zc rfl rfl u_0)<|o_n) (by kernel_rfl) (fun a g hst hb=>?_)
      exact ⟨(IntKind.i64.wrap (r5 + (1:Int))),g,rfl,(hst.pick [0,1,2,3] rfl),hb,H0⟩
     ·replace H0:=Zw hc14 H0
      refine wp_skip ?_
      exact ⟨r5,g,rfl,(hst.pick [0,1,2,3] rfl),hb,H0⟩
theorem Zrj (a0:Int) (a1:List Zbd) {r:Zn × (Option Zj)} (h:Zhg a0 a1=some r):FnOk Tryz.prog 8 [(pInt .i64 a0),(Zb6.sl.pd a1)] (pTup [(Zy.pd r.1),(Zbb.opt.pd r.2)]):=by
 have H0:=h
 unfold Zhg at H0
 clear h
 refine Zbu (N:=63) Tryz.func8 rfl rfl (Nat.le_of_ble_eq_true rfl) rfl rfl (fun a g0 hst hb=>?_)
 refine r_s (T:=[⟨[],[(4,(pBox Zy 4 (default:Zn)))],[5],[],[4]⟩,⟨[],[(5,(Zbb.opt.pd (none:Option Zj)))],[],[],[5]⟩]) (F:=[.old 0,.old 1,.op 0 0]) hst hb Zb
  (o_p rfl (Zbh (zs:=[.pointer none,.int .i64 0]) (by kernel_rfl) (fun g=>Zdp g) rfl rfl)<|o_p rfl (Zc rfl rfl (Opd.c (fun g=>Zs2 g)))<|o_n) (by kernel_rfl) (fun a g hst hb=>?_)
 obtain ⟨r1,h2,H0⟩:=Zh H0
 refine r_s (T:=[⟨[.old 0],_,[],[],[12]⟩,⟨[.op 0 0],_,[],[0],[13]⟩,⟨[.op 1 0],_,[],[0,1],[11]⟩,⟨[.op 2 0],_,[],[0,1,2],[14]⟩,⟨[.op 2 0],_,[],[0,1,2],[15]⟩,⟨[],[(6,(pBox Zy 6 (default:Zn)))],[7],[],[6]⟩,⟨[.op 3 0,.op 5 0],_,[7],[0,1,2,3,5],[6]⟩,⟨[.op 4 0],_,[],Lr 7,[7]⟩]) (F:=[.old 0,.old 1,.old 2,.op 6 0,.op 7 0]) hst hb Zb
  (o_p rfl (Za rfl rfl u_0)<|o_p rfl (Zo Z7c (Zsk _ h2) rfl rfl (.cons u_0 .nil))<|o_p rfl (Za rfl rfl u_0)<|o_p rfl (Z0 rfl rfl u_0 rfl)<|o_p rfl (Z0 rfl rfl u_0 rfl)<|o_p rfl (Zbh (zs:=[.pointer none,.int .i64 0]) (by kernel_rfl) (fun g=>Zdp g) rfl rfl)<|o_p rfl (Z2 Zbw rfl rfl u_1 u_0)<|o_p rfl (Zc rfl rfl u_0)<|o_n) (by kernel_rfl) (fun a g hst hb=>?_)
 refine wp_seq ?_
 refine r_s (T:=[⟨[.old 4],_,[],[],[16]⟩,⟨[.op 0 0],_,[],[0],[17]⟩,⟨[.op 1 0],_,[],[0,1],[18]⟩,⟨[.op 2 0,.old 1],_,[],[0,1,2],[19]⟩,⟨[.op 2 0,.op 3 0],_,[],Lr 4,[20]⟩,⟨[.op 2 0,.op 4 0],_,[],Lr 5,[21]⟩,⟨[.op 2 0,.op 5 0],_,[],Lr 6,[22]⟩]) (F:=[.old 0,.old 1,.old 2,.old 3,.op 6 0]) hst hb Zb
  (o_p rfl (Za rfl rfl u_0)<|o_p rfl (Zdk rfl rfl u_0 c_i)<|o_p rfl (Za rfl rfl u_0)<|o_g (g_f rfl rfl rfl (fun hG=>Za rfl rfl u_0))<|o_g (g_f rfl rfl rfl (fun hG=>Zb1 Tryz.underlying22 rfl rfl (Opd.gd hG u_0)))<|o_g (g_f rfl rfl rfl (fun hG=>Zcu rfl rfl (Opd.gd hG u_0) c_i))<|o_p rfl (Zbo rfl rfl u_0 (fun hz=>(Opd.gd (bNF hz) u_1)))<|o_n) (by kernel_rfl) (fun a g hst hb=>?_)
 refine wp_cond_split (hst.bool 4 rfl) (fun hc3=>?_) (fun hc3=>?_)
 ·replace H0:=Zv hc3 H0
  refine r_s (L:=[(4,_),(6,_)]) (T:=[⟨[.old 1],_,[],[],[23]⟩,⟨[.op 0 0,.old 0],_,[5],[0],[4]⟩,⟨[],[(5,(Zbb.opt.pd (none:Option Zj)))],[],[0,1],[5]⟩]) (F:=[.op 1 0,.op 2 0]) (hst.pick [2,3] rfl) hb Zb
   (o_p rfl (Zb0 Zbw rfl rfl u_0)<|o_p rfl (Z2 Zbw rfl rfl u_1 u_0)<|o_p rfl (Zc rfl rfl (Opd.c (fun g=>Zs2 g)))<|o_n) (by kernel_rfl) (fun a g hst hb=>?_)
  refine wp_ret ?_
  refine Zr ?_
  obtain rfl:=Option.some.inj H0
  obtain ⟨u0,hu0,hq0⟩:=Zbf (P:=Tryz.prog) Zbw (hst.at 0 rfl)
  exact Zdq rfl hst hb hu0 (Zk (s:=5)) (Zcw hq0 (hst.at 1 rfl))
 ·replace H0:=Zw hc3 H0
  refine wp_skip ?_
  refine Zs ?_
  refine r_s (L:=[(0,_),(1,_),(4,_),(6,_)]) (T:=[⟨[.old 0],_,[],[],[24]⟩,⟨[.op 0 0],_,[],[0],[25]⟩,⟨[],[(8,(pBox Zbb 8 (default:Zj)))],[9],[],[8]⟩,⟨[.op 1 0,.op 2 0],_,[9],[0,1,2],[8]⟩]) (F:=[.old 1,.old 2,.old 3,.op 3 0]) (hst.pick [0,1,2,3] rfl) hb Zb
   (o_p rfl (Za rfl rfl u_0)<|o_p rfl (Z86 rfl rfl u_0)<|o_p rfl (Zbh (zs:=[.slice none 0 0,.int .i64 0]) (by kernel_rfl) (fun g=>Zfi g) rfl rfl)<|o_p rfl (Z2 Zcv rfl rfl u_1 u_0)<|o_n) (by kernel_rfl) (fun a g hst hb=>?_)
  refine wp_seq ?_
  refine r_s (T:=[⟨[.old 0],_,[],[],[26]⟩,⟨[.op 0 0],_,[],[0],[27]⟩,⟨[],_,[],[],[28]⟩]) (F:=[.old 1,.old 2,.old 3,.op 0 0,.op 1 0,.op 2 0]) hst hb Zb
   (o_p rfl (Za rfl rfl u_0)<|o_p rfl (Zb1 Tryz.underlying22 rfl rfl u_0)<|o_p rfl (Za rfl rfl c_i)<|o_n) (by kernel_rfl) (fun a g hst hb=>?_)
  obtain ⟨z21,hz1,H0⟩:=Zh H0
  refine Zca (fun a w=>∃ (y18:Zn) (y19:Zn) (y20:Zj) (g:G),w=g.w ∧ St 63 [(4,(pBox Zy 4 y18)),(6,(pBox Zy 6 y19)),(8,(pBox Zbb 8 y20))] a g ∧ Base g0 g ∧ (.inr (y18,y19,y20))=z21) ?_ ?_
  ·rintro a w ⟨y18,y19,y20,g,rfl,hst,hb,rfl⟩
   refine Zs ?_
   refine r_s (T:=[⟨[.old 1],_,[],[],[62]⟩,⟨[.op 0 0,.old 0],_,[5],[0],[4]⟩,⟨[.old 2],_,[9],[0,1],[5,8]⟩]) (F:=[.op 1 0,.op 2 0]) hst hb Zb
    (o_p rfl (Zb0 Zbw rfl rfl u_0)<|o_p rfl (Z2 Zbw rfl rfl u_1 u_0)<|o_p rfl (Z6y (.inr rfl) rfl u_0)<|o_n) (by kernel_rfl) (fun a g hst hb=>?_)
   refine wp_ret ?_
   obtain rfl:=Option.some.inj H0
   obtain ⟨u0,hu0,hq0⟩:=Zbf (P:=Tryz.prog) Zbw (hst.at 0 rfl)
   exact Zdq rfl hst hb hu0 (Zk (s:=5)) (Zcw hq0 (hst.at 1 rfl))
  ·refine wp_block ?_
   refine wp_loop_ghost (fun n a w=>∃ (x4:Zn) (x5:Zn) (x6:Zj) (x7:Int) (g:G),w=g.w ∧ St 63 [(4,(pBox Zy 4 x4)),(6,(pBox Zy 6 x5)),(8,(pBox Zbb 8 x6)),(26,(Zb6.sl.pd a1)),(27,(pInt .i64 (a1.length:Int))),(28,(pInt .i64 x7))] a g ∧ Base g0 g ∧ Zd1 a1 n x4 x5 x6 x7=some z21) (Int.toNat ((a1.length:Int) - (0:Int)) + 1) ⟨(default:Zn),r1.1,({ L:=([]:List Zbd),Room:=a0 }:Zj),(0:Int),g,rfl,(hst.pick [0,1,2,3,4,5] rfl),hb,hz1⟩ (fun n a w hI=>?_)
   obtain ⟨x4,x5,x6,x7,g,rfl,hst,hb,H1⟩:=hI
   cases n with
   | zero=>exact absurd H1 (by simp [Zd1])
   | succ n =>
    rw [Zd1] at H1
    refine r_s (T:=[⟨[.old 5,.old 4],_,[],[],[29]⟩]) (F:=[.old 0,.old 1,.old 2,.old 3,.old 4,.old 5,.op 0 0]) hst hb Zb
     (o_p rfl (Zci rfl rfl u_0 u_1)<|o_n) (by kernel_rfl) (fun a g hst hb=>?_)
    refine wp_seq ?_
    refine wp_cond_split (hst.bool 6 rfl) (fun hc8=>?_) (fun hc8=>?_)
    ·replace H1:=Zv hc8 H1
     refine wp_skip ?_
     refine Zs ?_
     refine wp_seq ?_
     refine wp_block ?_
     obtain ⟨e9,h10,H1⟩:=Zh H1
     refine r_s (L:=[(4,_),(6,_),(8,_),(26,_),(27,_),(28,_)]) (T:=[⟨[.old 3,.old 5],_,[],[],[30]⟩,⟨[.op 0 0],_,[],[0],[31]⟩,⟨[],[(10,(pBox Zb6 10 (default:Zbd)))],[11],[],[10]⟩,⟨[.op 1 0,.op 2 0],_,[11],[0,1,2],[10]⟩]) (F:=[.old 0,.old 1,.old 2,.op 3 0,.old 3,.old 4,.old 5]) (hst.pick [0,1,2,3,4,5] rfl) hb Zb
      (o_p rfl (Zbl Tryz.underlying22 Zm7 rfl rfl u_0 u_1 h10)<|o_p rfl (Zf Zyw rfl rfl u_0)<|o_p rfl (Zbh (zs:=[.string ByteArray.empty,.int .i64 0,.int .i64 0,.int .i64 0,.int .i64 0,.float .f64 0,.int .i64 0,.string ByteArray.empty,.slice none 0 0]) (by kernel_rfl) (fun g=>Znq g) rfl rfl)<|o_p rfl (Zb5 Zyw rfl rfl u_1 u_0)<|o_n) (by kernel_rfl) (fun a g hst hb=>?_)
     refine wp_seq ?_
     obtain ⟨r11,h12,H1⟩:=Zh H1
     refine r_s (T:=[⟨[.old 3],_,[],[],[32]⟩,⟨[.op 0 0],_,[],[0],[33]⟩,⟨[.op 1 0],_,[],[0,1],[34]⟩,⟨[.op 2 0],_,[],[0,1,2],[35]⟩,⟨[.op 3 0],_,[],Lr 4,[36]⟩,⟨[.op 4 0,.old 3],_,[],Lr 5,[37]⟩,⟨[.op 4 0,.op 5 0],_,[],Lr 6,[38]⟩,⟨[.op 4 0,.op 6 0],_,[],Lr 7,[39]⟩,⟨[.op 4 0,.op 7 0],_,[],Lr 8,[40]⟩,⟨[.op 4 0,.op 8 0],_,[],Lr 9,[41]⟩]) (F:=[.old 0,.old 1,.old 2,.old 3,.old 4,.old 5,.old 6,.op 9 0]) hst hb Zb
      (o_p rfl (Zd Zm5 rfl rfl u_0)<|o_p rfl (Zf ty_9 rfl rfl u_0)<|o_p rfl (Zfp Tryz.underlying9 rfl rfl u_0)<|o_p rfl (Zcu rfl rfl u_0 c_i)<|o_p rfl (Za rfl rfl u_0)<|o_g (g_f rfl rfl rfl (fun hG=>Zd Zqh rfl rfl u_0))<|o_g (g_f rfl rfl rfl (fun hG=>Zf Zbc rfl rfl (Opd.gd hG u_0)))<|o_g (g_f rfl rfl rfl (fun hG=>Zo Z7f (Zoi _ (Zbn h12 hG)) rfl rfl (.cons (Opd.gd hG u_0) .nil)))<|o_g (g_f rfl rfl rfl (fun hG=>Zcu rfl rfl (Opd.gd hG u_0) c_i))<|o_p rfl (Zbo rfl rfl u_0 (fun hz=>(Opd.gd (bNF hz) u_1)))<|o_n) (by kernel_rfl) (fun a g hst hb=>?_)
     refine wp_cond_split (hst.bool 7 rfl) (fun hc13=>?_) (fun hc13=>?_)
     ·replace H1:=Zv hc13 H1
      refine r_s (L:=[(4,_),(6,_)]) (T:=[⟨[.old 1],_,[],[],[42]⟩,⟨[.op 0 0,.old 0],_,[5],[0],[4]⟩,⟨[],[(5,(Zbb.opt.pd (none:Option Zj)))],[],[0,1],[5]⟩]) (F:=[.op 1 0,.op 2 0]) (hst.pick [0,1] rfl) hb Zb
       (o_p rfl (Zb0 Zbw rfl rfl u_0)<|o_p rfl (Z2 Zbw rfl rfl u_1 u_0)<|o_p rfl (Zc rfl rfl (Opd.c (fun g=>Zs2 g)))<|o_n) (by kernel_rfl) (fun a g hst hb=>?_)
      refine wp_ret ?_
      refine Zr ?_
      refine Z6 ?_
      refine Zr ?_
      refine Zr ?_
      refine Z6 ?_
      refine Zr ?_
      refine Zr ?_
      obtain rfl:=Option.some.inj H1
      obtain rfl:=Option.some.inj H0
      obtain ⟨u0,hu0,hq0⟩:=Zbf (P:=Tryz.prog) Zbw (hst.at 0 rfl)
      exact Zdq rfl hst hb hu0 (Zk (s:=5)) (Zcw hq0 (hst.at 1 rfl))
     ·replace H1:=Zw hc13 H1
      refine wp_skip ?_
      refine Zs ?_
      obtain ⟨r14,h15,H1⟩:=Zh H1
      refine r_s (L:=[(4,_),(6,_),(8,_),(10,_),(26,_),(27,_),(28,_)]) (T:=[⟨[.old 1],_,[],[],[44]⟩,⟨[.old 3],_,[],[],[45]⟩,⟨[.op 1 0],_,[],[1],[46]⟩,⟨[.old 3],_,[],[],[47]⟩,⟨[.op 3 0],_,[],[3],[48]⟩,⟨[.op 0 0,.op 2 0,.op 4 0],_,[],Lr 5,[49]⟩,⟨[.op 5 0],_,[],Lr 6,[43]⟩,⟨[.op 6 0],_,[],Lr 7,[50]⟩,⟨[.op 6 0],_,[],Lr 7,[51]⟩,⟨[.op 7 0,.old 1],_,[7],Lr 8,[6]⟩]) (F:=[.old 0,.op 9 0,.old 2,.old 3,.old 4,.old 5,.old 6]) (hst.pick [0,1,2,3,4,5,6] rfl) hb Zb
       (o_p rfl (Zb0 Zbw rfl rfl u_0)<|o_p rfl (Zd Zm5 rfl rfl u_0)<|o_p rfl (Zf ty_9 rfl rfl u_0)<|o_p rfl (Zd Zqh rfl rfl u_0)<|o_p rfl (Zf Zbc rfl rfl u_0)<|o_p rfl (Zo Zyt (Zj3 _ _ _ h15) rfl rfl (.cons u_0 (.cons u_1 (.cons u_2 .nil))))<|o_p rfl (Za rfl rfl u_0)<|o_p rfl (Z0 rfl rfl u_0 rfl)<|o_p rfl (Z0 rfl rfl u_0 rfl)<|o_p rfl (Z2 Zbw rfl rfl u_1 u_0)<|o_n) (by kernel_rfl) (fun a g hst hb=>?_)
      obtain ⟨r16,h17,H1⟩:=Zh H1
      refine r_g (T:=[⟨[.old 2],_,[],[],[53]⟩,⟨[.old 3],_,[],[],[54]⟩,⟨[.op 1 0],_,[],[1],[55]⟩,⟨[.old 3],_,[],[],[56]⟩,⟨[.op 3 0],_,[],[3],[57]⟩,⟨[.op 0 0,.op 2 0,.op 4 0],_,[],Lr 5,[58]⟩,⟨[.op 5 0],_,[],Lr 6,[52]⟩,⟨[.op 6 0],_,[],Lr 7,[59]⟩,⟨[.op 6 0],_,[],Lr 7,[60]⟩,⟨[.op 7 0,.old 2],_,[9],Lr 8,[8]⟩]) (F:=[.old 0,.old 1,.op 9 0,.old 4,.old 5,.old 6]) hst hb Zb
       (o_p rfl (Zb0 Zcv rfl rfl u_0)<|o_p rfl (Zd Zm5 rfl rfl u_0)<|o_p rfl (Zf ty_9 rfl rfl u_0)<|o_p rfl (Zd Zqh rfl rfl u_0)<|o_p rfl (Zf Zbc rfl rfl u_0)<|o_p rfl (Zo Z67 (Zl0 _ _ _ h17) rfl rfl (.cons u_0 (.cons u_1 (.cons u_2 .nil))))<|o_p rfl (Za rfl rfl u_0)<|o_p rfl (Z0 rfl rfl u_0 rfl)<|o_p rfl (Z0 rfl rfl u_0 rfl)<|o_p rfl (Z2 Zcv rfl rfl u_1 u_0)<|o_n) (by kernel_rfl) (fun a g hst hb=>?_)
      refine Zbe ?_
      refine Zs ?_
      refine r_g (T:=[⟨[.old 5],_,[],[],[61]⟩,⟨[.op 0 0],_,[],[0],[28]⟩]) (F:=[.old 0,.old 1,.old 2,.old 3,.old 4,.op 1 0]) hst hb Zb
       (o_p rfl (Zb7 rfl rfl u_0 c_i rfl)<|o_p rfl (Za rfl rfl u_0)<|o_n) (by kernel_rfl) (fun a g hst hb=>?_)
      exact ⟨n,Nat.lt_succ_self _,x4,r14.1,r16.1,(IntKind.i64.wrap (x7 + (1:Int))),g,rfl,(hst.pick [0,1,2,3,4,5] rfl),hb,H1⟩
    ·replace H1:=Zw hc8 H1
     refine wp_exit ?_
     refine Zb3 ?_
     refine Zb3 ?_
     refine Zcn ?_
     exact ⟨x4,x5,x6,g,rfl,(hst.pick [0,1,2] rfl),hb,Option.some.inj H1⟩
theorem Zsj (a0:Zu) {r:Int} (h:Zj7 a0=some r):FnOk Tryz.prog 33 [(Z4.pd a0)] (pInt .i64 r):=by
 have H0:=h
 unfold Zj7 at H0
 clear h
 refine Zbu (N:=19) Tryz.func33 rfl rfl (Nat.le_of_ble_eq_true rfl) rfl rfl (fun a g0 hst hb=>?_)
 refine r_s (T:=[⟨[.old 0],_,[],[],[1]⟩,⟨[],_,[],[],[2]⟩]) (F:=[.op 0 0]) hst hb Zb
  (o_p rfl (Zbq rfl rfl u_0)<|o_p rfl (Zc rfl rfl c_i)<|o_n) (by kernel_rfl) (fun a g hst hb=>?_)
 refine wp_seq ?_
 obtain ⟨r1,h2,H0⟩:=Zh H0
 refine r_s (T:=⟨[.old 0],_,[],[],[3]⟩ :: ⟨[.op 0 0],_,[],[0],[4]⟩ :: ⟨[.op 1 0],_,[],[0,1],[5]⟩ :: ⟨[.op 2 0],_,[],[0,1,2],[6]⟩ :: ⟨[.op 3 0],_,[],Lr 4,[7]⟩ :: ⟨[.op 4 0,.old 0],_,[],Lr 5,[8]⟩ :: ⟨[.op 4 0,.op 5 0],_,[],Lr 6,[9]⟩ :: ⟨[.op 4 0,.op 6 0],_,[],Lr 7,[10]⟩ :: ⟨[.op 4 0,.op 7 0],_,[],Lr 8,[11]⟩ :: ⟨[.op 4 0,.op 8 0],_,[],Lr 9,[12]⟩ :: ⟨[.op 9 0],_,[],Lr 10,[13]⟩ :: ⟨[.op 10 0,.old 0],_,[],Lr 11,[14]⟩ :: ⟨[.op 10 0,.op 11 0],_,[],Lr 12,[15]⟩ :: ⟨[.op 10 0,.op 12 0],_,[],Lr 13,[16]⟩ :: ⟨[.op 10 0,.op 13 0],_,[],Lr 14,[17]⟩ :: ⟨[.op 10 0,.op 14 0],_,[],Lr 15,[18]⟩ :: []) (F:=[.op 15 0]) hst hb Zb
  (o_p rfl (Zd Zic rfl rfl u_0)<|o_p rfl (Zf ty_9 rfl rfl u_0)<|o_p rfl (Zfp Tryz.underlying9 rfl rfl u_0)<|o_p rfl (Zcu rfl rfl u_0 c_i)<|o_p rfl (Za rfl rfl u_0)<|o_g (g_f rfl rfl rfl (fun hG=>Zd Zf0 rfl rfl u_0))<|o_g (g_f rfl rfl rfl (fun hG=>Zf ty_9 rfl rfl (Opd.gd hG u_0)))<|o_g (g_f rfl rfl rfl (fun hG=>Zfp Tryz.underlying9 rfl rfl (Opd.gd hG u_0)))<|o_g (g_f rfl rfl rfl (fun hG=>Zcu rfl rfl (Opd.gd hG u_0) c_i))<|o_p rfl (Zbo rfl rfl u_0 (fun hz=>(Opd.gd (bNF hz) u_1)))<|o_p rfl (Za rfl rfl u_0)<|o_g (g_f rfl rfl rfl (fun hG=>Zd Zmd rfl rfl u_0))<|o_g (g_f rfl rfl rfl (fun hG=>Zf Zbc rfl rfl (Opd.gd hG u_0)))<|o_g (g_f rfl rfl rfl (fun hG=>Zo Z7f (Zoi _ (Zbn h2 hG)) rfl rfl (.cons (Opd.gd hG u_0) .nil)))<|o_g (g_f rfl rfl rfl (fun hG=>Zcu rfl rfl (Opd.gd hG u_0) c_i))<|o_p rfl (Zbo rfl rfl u_0 (fun hz=>(Opd.gd (bNF hz) u_1)))<|o_n) (by kernel_rfl) (fun a g hst hb=>?_)
 refine wp_cond_split (hst.bool 0 rfl) (fun hc3=>?_) (fun hc3=>?_)
 ·replace H0:=Zv hc3 H0
  refine r_s (L:=[]) (T:=[⟨[],_,[],[],[2]⟩]) (F:=[.op 0 0]) (hst.pick [] rfl) hb Zb
   (o_p rfl (Zc rfl rfl c_i)<|o_n) (by kernel_rfl) (fun a g hst hb=>?_)
  refine wp_ret ?_
  refine Zr ?_
  obtain rfl:=Option.some.inj H0
  exact Z5 rfl hst hb (Zk (s:=2)) (hst.at 0 rfl)
 ·replace H0:=Zw hc3 H0
  refine wp_skip ?_
  refine Zs ?_
  refine r_s (L:=[]) (T:=[⟨[],_,[],[],[2]⟩]) (F:=[.op 0 0]) (hst.pick [] rfl) hb Zb
   (o_p rfl (Zc rfl rfl c_i)<|o_n) (by kernel_rfl) (fun a g hst hb=>?_)
  refine wp_ret ?_
  obtain rfl:=Option.some.inj H0
  exact Z5 rfl hst hb (Zk (s:=2)) (hst.at 0 rfl)
theorem Zsw (a0:Zbm) {r:Int} (h:Zjs a0=some r):FnOk Tryz.prog 9 [(Zch.pd a0)] (pInt .i64 r):=by
 have H0:=h
 unfold Zjs at H0
 clear h
 refine Zbu (N:=20) Tryz.func9 rfl rfl (Nat.le_of_ble_eq_true rfl) rfl rfl (fun a g0 hst hb=>?_)
 refine r_s (T:=[⟨[.old 0],_,[],[],[1]⟩,⟨[],_,[],[],[2]⟩]) (F:=[.op 0 0]) hst hb Zb
  (o_p rfl (Zbq rfl rfl u_0)<|o_p rfl (Zc rfl rfl c_i)<|o_n) (by kernel_rfl) (fun a g hst hb=>?_)
 refine wp_seq ?_
 refine r_s (T:=[⟨[.old 0],_,[],[],[5]⟩,⟨[.op 0 0],_,[],[0],[6]⟩,⟨[.op 1 0],_,[],[0,1],[7]⟩,⟨[.op 2 0],_,[],[0,1,2],[8]⟩]) (F:=[.old 0,.op 3 0]) hst hb Zb
  (o_p rfl (Zd Zhr rfl rfl u_0)<|o_p rfl (Zf Zkf rfl rfl u_0)<|o_p rfl (Zb1 Tryz.underlying23 rfl rfl u_0)<|o_p rfl (Zcu rfl rfl u_0 c_i)<|o_n) (by kernel_rfl) (fun a g hst hb=>?_)
 refine wp_cond_split (hst.bool 1 rfl) (fun hc1=>?_) (fun hc1=>?_)
 ·replace H0:=Zv hc1 H0
  refine r_s (L:=[]) (T:=[⟨[],_,[],[],[2]⟩]) (F:=[.op 0 0]) (hst.pick [] rfl) hb Zb
   (o_p rfl (Zc rfl rfl c_i)<|o_n) (by kernel_rfl) (fun a g hst hb=>?_)
  refine wp_ret ?_
  refine Zr ?_
  obtain rfl:=Option.some.inj H0
  exact Z5 rfl hst hb (Zk (s:=2)) (hst.at 0 rfl)
 ·replace H0:=Zw hc1 H0
  refine wp_skip ?_
  refine Zs ?_
  refine wp_seq ?_
  refine r_s (L:=[(1,_)]) (T:=[⟨[.old 0],_,[],[],[9]⟩,⟨[.op 0 0],_,[],[0],[10]⟩,⟨[.op 1 0],_,[],[0,1],[11]⟩,⟨[],_,[],[],[12]⟩]) (F:=[.op 1 0,.op 2 0,.op 3 0]) (hst.pick [0] rfl) hb Zb
   (o_p rfl (Zd Zhr rfl rfl u_0)<|o_p rfl (Zf Zkf rfl rfl u_0)<|o_p rfl (Zb1 Tryz.underlying23 rfl rfl u_0)<|o_p rfl (Za rfl rfl c_i)<|o_n) (by kernel_rfl) (fun a g hst hb=>?_)
  obtain ⟨z9,hz1,H0⟩:=Zh H0
  refine Zca (fun a w=>∃ (g:G),w=g.w ∧ St 20 [] a g ∧ Base g0 g ∧ (.inr ())=z9) ?_ ?_
  ·rintro a w ⟨g,rfl,hst,hb,rfl⟩
   refine Zs ?_
   refine r_s (T:=[⟨[],_,[],[],[2]⟩]) (F:=[.op 0 0]) hst hb Zb
    (o_p rfl (Zc rfl rfl c_i)<|o_n) (by kernel_rfl) (fun a g hst hb=>?_)
   refine wp_ret ?_
   obtain rfl:=Option.some.inj H0
   exact Z5 rfl hst hb (Zk (s:=2)) (hst.at 0 rfl)
  ·refine wp_block ?_
   refine wp_loop_ghost (fun n a w=>∃ (x2:Int) (g:G),w=g.w ∧ St 20 [(10,(Z4.sl.pd a0.Acts)),(11,(pInt .i64 (a0.Acts.length:Int))),(12,(pInt .i64 x2))] a g ∧ Base g0 g ∧ Zek a0 n x2=some z9) (Int.toNat ((a0.Acts.length:Int) - (0:Int)) + 1) ⟨(0:Int),g,rfl,(hst.pick [0,1,2] rfl),hb,hz1⟩ (fun n a w hI=>?_)
   obtain ⟨x2,g,rfl,hst,hb,H1⟩:=hI
   cases n with
   | zero=>exact absurd H1 (by simp [Zek])
   | succ n =>
    rw [Zek] at H1
    refine r_s (T:=[⟨[.old 2,.old 1],_,[],[],[13]⟩]) (F:=[.old 0,.old 1,.old 2,.op 0 0]) hst hb Zb
     (o_p rfl (Zci rfl rfl u_0 u_1)<|o_n) (by kernel_rfl) (fun a g hst hb=>?_)
    refine wp_seq ?_
    refine wp_cond_split (hst.bool 3 rfl) (fun hc3=>?_) (fun hc3=>?_)
    ·replace H1:=Zv hc3 H1
     refine wp_skip ?_
     refine Zs ?_
     refine wp_seq ?_
     refine wp_block ?_
     obtain ⟨e4,h5,H1⟩:=Zh H1
     refine r_s (L:=[(10,_),(11,_),(12,_)]) (T:=[⟨[.old 0,.old 2],_,[],[],[14]⟩,⟨[.op 0 0],_,[],[0],[15]⟩,⟨[],[(4,(pBox Z4 4 (default:Zu)))],[5],[],[4]⟩,⟨[.op 1 0,.op 2 0],_,[5],[0,1,2],[4]⟩]) (F:=[.op 3 0,.old 0,.old 1,.old 2]) (hst.pick [0,1,2] rfl) hb Zb
      (o_p rfl (Zbl Tryz.underlying23 Zo0 rfl rfl u_0 u_1 h5)<|o_p rfl (Zf Zh1 rfl rfl u_0)<|o_p rfl (Zbh (zs:=[.int .i64 0,.string ByteArray.empty,.int .i64 0,.float .f64 0,.string ByteArray.empty,.int .i64 0,.int .i64 0,.int .i64 0,.int .i64 0,.float .f64 0,.int .i64 0,.string ByteArray.empty,.slice none 0 0,.bool false]) (by kernel_rfl) (fun g=>Zo1 g) rfl rfl)<|o_p rfl (Zb5 Zh1 rfl rfl u_1 u_0)<|o_n) (by kernel_rfl) (fun a g hst hb=>?_)
     obtain ⟨r6,h7,H1⟩:=Zh H1
     refine r_s (T:=[⟨[.old 0],_,[],[],[16]⟩,⟨[.op 0 0],_,[],[0],[17]⟩,⟨[.op 1 0],_,[],[0,1],[18]⟩]) (F:=[.old 1,.old 2,.old 3,.op 2 0]) hst hb Zb
      (o_p rfl (Zf Zh1 rfl rfl u_0)<|o_p rfl (Zo Zbbo (Zsj _ h7) rfl rfl (.cons u_0 .nil))<|o_p rfl (Zcu rfl rfl u_0 c_i)<|o_n) (by kernel_rfl) (fun a g hst hb=>?_)
     refine wp_cond_split (hst.bool 3 rfl) (fun hc8=>?_) (fun hc8=>?_)
     ·replace H1:=Zv hc8 H1
      refine r_s (L:=[]) (T:=[⟨[],_,[],[],[2]⟩]) (F:=[.op 0 0]) (hst.pick [] rfl) hb Zb
       (o_p rfl (Zc rfl rfl c_i)<|o_n) (by kernel_rfl) (fun a g hst hb=>?_)
      refine wp_ret ?_
      refine Z6 ?_
      refine Zr ?_
      refine Zr ?_
      refine Z6 ?_
      refine Zr ?_
      refine Zr ?_
      obtain rfl:=Option.some.inj H1
      obtain rfl:=Option.some.inj H0
      exact Z5 rfl hst hb (Zk (s:=2)) (hst.at 0 rfl)
     ·replace H1:=Zw hc8 H1
      refine wp_skip ?_
      refine Zbe ?_
      refine Zs ?_
      refine r_g (L:=[(10,_),(11,_),(12,_)]) (T:=[⟨[.old 2],_,[],[],[19]⟩,⟨[.op 0 0],_,[],[0],[12]⟩]) (F:=[.old 0,.old 1,.op 1 0]) (hst.pick [0,1,2] rfl) hb Zb
       (o_p rfl (Zb7 rfl rfl u_0 c_i rfl)<|o_p rfl (Za rfl rfl u_0)<|o_n) (by kernel_rfl) (fun a g hst hb=>?_)
      exact ⟨n,Nat.lt_succ_self _,(IntKind.i64.wrap (x2 + (1:Int))),g,rfl,(hst.pick [0,1,2] rfl),hb,H1⟩
    ·replace H1:=Zw hc3 H1
     refine wp_exit ?_
     refine Zb3 ?_
     refine Zb3 ?_
     refine Zcn ?_
     exact ⟨g,rfl,(hst.pick [] rfl),hb,Option.some.inj H1⟩
theorem Zlj (a0:Ze) (a1:Ze) {r:Bool} (h:Zgw a0 a1=some r):FnOk Tryz.prog 47 [(Zi.pd a0),(Zi.pd a1)] (Zbg r):=by
 have H0:=h
 unfold Zgw at H0
 clear h
 refine Zbu (N:=97) Tryz.func47 rfl rfl (Nat.le_of_ble_eq_true rfl) rfl rfl (fun a g0 hst hb=>?_)
 refine r_s (T:=[⟨[.old 0],_,[],[],[2]⟩,⟨[.old 1],_,[],[],[3]⟩,⟨[],_,[],[],[4]⟩]) (F:=[.op 0 0,.op 1 0]) hst hb Zb
  (o_p rfl (Zbq rfl rfl u_0)<|o_p rfl (Zbq rfl rfl u_0)<|o_p rfl (Zc rfl rfl c_b)<|o_n) (by kernel_rfl) (fun a g hst hb=>?_)
 refine wp_seq ?_
 refine r_s (T:=⟨[.old 0],_,[],[],[6]⟩ :: ⟨[.op 0 0],_,[],[0],[7]⟩ :: ⟨[.old 1],_,[],[],[8]⟩ :: ⟨[.op 2 0],_,[],[2],[9]⟩ :: ⟨[.op 1 0,.op 3 0],_,[],Lr 4,[10]⟩ :: ⟨[.op 4 0],_,[],Lr 5,[11]⟩ :: ⟨[.op 5 0,.old 0],_,[],Lr 6,[12]⟩ :: ⟨[.op 5 0,.op 6 0],_,[],Lr 7,[13]⟩ :: ⟨[.op 5 0,.old 1],_,[],Lr 6,[14]⟩ :: ⟨[.op 5 0,.op 8 0],_,[],[0,1,2,3,4,5,8],[15]⟩ :: ⟨[.op 5 0,.op 7 0,.op 9 0],_,[],Lr 10,[16]⟩ :: ⟨[.op 5 0,.op 10 0],_,[],Lr 11,[17]⟩ :: ⟨[.op 11 0],_,[],Lr 12,[18]⟩ :: ⟨[.op 12 0,.old 0],_,[],Lr 13,[19]⟩ :: ⟨[.op 12 0,.op 13 0],_,[],Lr 14,[20]⟩ :: ⟨[.op 12 0,.old 1],_,[],Lr 13,[21]⟩ :: ⟨[.op 12 0,.op 15 0],_,[],0 :: 1 :: 2 :: 3 :: 4 :: 5 :: 6 :: 7 :: 8 :: 9 :: 10 :: 11 :: 12 :: 15 :: [],[22]⟩ :: ⟨[.op 12 0,.op 14 0,.op 16 0],_,[],Lr 17,[23]⟩ :: ⟨[.op 12 0,.op 17 0],_,[],Lr 18,[24]⟩ :: ⟨[.op 18 0],_,[],Lr 19,[25]⟩ :: ⟨[.op 19 0,.old 0],_,[],Lr 20,[26]⟩ :: ⟨[.op 19 0,.op 20 0],_,[],Lr 21,[27]⟩ :: ⟨[.op 19 0,.old 1],_,[],Lr 20,[28]⟩ :: ⟨[.op 19 0,.op 22 0],_,[],0 :: 1 :: 2 :: 3 :: 4 :: 5 :: 6 :: 7 :: 8 :: 9 :: 10 :: 11 :: 12 :: 13 :: 14 :: 15 :: 16 :: 17 :: 18 :: 19 :: 22 :: [],[29]⟩ :: ⟨[.op 19 0,.op 21 0,.op 23 0],_,[],Lr 24,[30]⟩ :: ⟨[.op 19 0,.op 24 0],_,[],Lr 25,[31]⟩ :: ⟨[.op 25 0],_,[],Lr 26,[32]⟩ :: ⟨[.op 26 0,.old 0],_,[],Lr 27,[33]⟩ :: ⟨[.op 26 0,.op 27 0],_,[],Lr 28,[34]⟩ :: ⟨[.op 26 0,.old 1],_,[],Lr 27,[35]⟩ :: ⟨[.op 26 0,.op 29 0],_,[],0 :: 1 :: 2 :: 3 :: 4 :: 5 :: 6 :: 7 :: 8 :: 9 :: 10 :: 11 :: 12 :: 13 :: 14 :: 15 :: 16 :: 17 :: 18 :: 19 :: 20 :: 21 :: 22 :: 23 :: 24 :: 25 :: 26 :: 29 :: [],[36]⟩ :: ⟨[.op 26 0,.op 28 0,.op 30 0],_,[],Lr 31,[37]⟩ :: ⟨[.op 26 0,.op 31 0],_,[],Lr 32,[38]⟩ :: ⟨[.op 32 0],_,[],Lr 33,[39]⟩ :: ⟨[.op 33 0,.old 0],_,[],Lr 34,[40]⟩ :: ⟨[.op 33 0,.op 34 0],_,[],Lr 35,[41]⟩ :: ⟨[.op 33 0,.old 1],_,[],Lr 34,[42]⟩ :: ⟨[.op 33 0,.op 36 0],_,[],0 :: 1 :: 2 :: 3 :: 4 :: 5 :: 6 :: 7 :: 8 :: 9 :: 10 :: 11 :: 12 :: 13 :: 14 :: 15 :: 16 :: 17 :: 18 :: 19 :: 20 :: 21 :: 22 :: 23 :: 24 :: 25 :: 26 :: 27 :: 28 :: 29 :: 30 :: 31 :: 32 :: 33 :: 36 :: [],[43]⟩ :: ⟨[.op 33 0,.op 35 0,.op 37 0],_,[],Lr 38,[44]⟩ :: ⟨[.op 33 0,.op 38 0],_,[],Lr 39,[45]⟩ :: []) (F:=[.old 0,.old 1,.op 39 0]) hst hb Zb
  (o_p rfl (Zd Zge rfl rfl u_0)<|o_p rfl (Zf ty_3 rfl rfl u_0)<|o_p rfl (Zd Zge rfl rfl u_0)<|o_p rfl (Zf ty_3 rfl rfl u_0)<|o_p rfl (Zdk rfl rfl u_0 u_1)<|o_p rfl (Za rfl rfl u_0)<|o_g (g_f rfl rfl rfl (fun hG=>Zd Zc1 rfl rfl u_0))<|o_g (g_f rfl rfl rfl (fun hG=>Zf ty_2 rfl rfl (Opd.gd hG u_0)))<|o_g (g_f rfl rfl rfl (fun hG=>Zd Zc1 rfl rfl u_0))<|o_g (g_f rfl rfl rfl (fun hG=>Zf ty_2 rfl rfl (Opd.gd hG u_0)))<|o_g (g_f rfl rfl rfl (fun hG=>Zdk rfl rfl (Opd.gd hG u_0) (Opd.gd hG u_1)))<|o_p rfl (Zbo rfl rfl u_0 (fun hz=>(Opd.gd (bNF hz) u_1)))<|o_p rfl (Za rfl rfl u_0)<|o_g (g_f rfl rfl rfl (fun hG=>Zd Zjp rfl rfl u_0))<|o_g (g_f rfl rfl rfl (fun hG=>Zf ty_2 rfl rfl (Opd.gd hG u_0)))<|o_g (g_f rfl rfl rfl (fun hG=>Zd Zjp rfl rfl u_0))<|o_g (g_f rfl rfl rfl (fun hG=>Zf ty_2 rfl rfl (Opd.gd hG u_0)))<|o_g (g_f rfl rfl rfl (fun hG=>Zdk rfl rfl (Opd.gd hG u_0) (Opd.gd hG u_1)))<|o_p rfl (Zbo rfl rfl u_0 (fun hz=>(Opd.gd (bNF hz) u_1)))<|o_p rfl (Za rfl rfl u_0)<|o_g (g_f rfl rfl rfl (fun hG=>Zd Zjo rfl rfl u_0))<|o_g (g_f rfl rfl rfl (fun hG=>Zf ty_2 rfl rfl (Opd.gd hG u_0)))<|o_g (g_f rfl rfl rfl (fun hG=>Zd Zjo rfl rfl u_0))<|o_g (g_f rfl rfl rfl (fun hG=>Zf ty_2 rfl rfl (Opd.gd hG u_0)))<|o_g (g_f rfl rfl rfl (fun hG=>Zdk rfl rfl (Opd.gd hG u_0) (Opd.gd hG u_1)))<|o_p rfl (Zbo rfl rfl u_0 (fun hz=>(Opd.gd (bNF hz) u_1)))<|o_p rfl (Za rfl rfl u_0)<|o_g (g_f rfl rfl rfl (fun hG=>Zd Zgz rfl rfl u_0))<|o_g (g_f rfl rfl rfl (fun hG=>Zf ty_3 rfl rfl (Opd.gd hG u_0)))<|o_g (g_f rfl rfl rfl (fun hG=>Zd Zgz rfl rfl u_0))<|o_g (g_f rfl rfl rfl (fun hG=>Zf ty_3 rfl rfl (Opd.gd hG u_0)))<|o_g (g_f rfl rfl rfl (fun hG=>Zdk rfl rfl (Opd.gd hG u_0) (Opd.gd hG u_1)))<|o_p rfl (Zbo rfl rfl u_0 (fun hz=>(Opd.gd (bNF hz) u_1)))<|o_p rfl (Za rfl rfl u_0)<|o_g (g_f rfl rfl rfl (fun hG=>Zd Zi9 rfl rfl u_0))<|o_g (g_f rfl rfl rfl (fun hG=>Zf ty_9 rfl rfl (Opd.gd hG u_0)))<|o_g (g_f rfl rfl rfl (fun hG=>Zd Zi9 rfl rfl u_0))<|o_g (g_f rfl rfl rfl (fun hG=>Zf ty_9 rfl rfl (Opd.gd hG u_0)))<|o_g (g_f rfl rfl rfl (fun hG=>Zol rfl rfl (Opd.gd hG u_0) (Opd.gd hG u_1)))<|o_p rfl (Zbo rfl rfl u_0 (fun hz=>(Opd.gd (bNF hz) u_1)))<|o_n) (by kernel_rfl) (fun a g hst hb=>?_)
 refine wp_cond_split (hst.bool 2 rfl) (fun hc1=>?_) (fun hc1=>?_)
 ·replace H0:=Zv hc1 H0
  refine r_s (L:=[]) (T:=[⟨[],_,[],[],[4]⟩]) (F:=[.op 0 0]) (hst.pick [] rfl) hb Zb
   (o_p rfl (Zc rfl rfl c_b)<|o_n) (by kernel_rfl) (fun a g hst hb=>?_)
  refine wp_ret ?_
  refine Zr ?_
  obtain rfl:=Option.some.inj H0
  exact Z5 rfl hst hb (Zk (s:=4)) (hst.at 0 rfl)
 ·replace H0:=Zw hc1 H0
  refine wp_skip ?_
  refine Zs ?_
  refine wp_seq ?_
  obtain ⟨r2,h3,H0⟩:=Zh H0
  refine r_s (L:=[(2,_),(3,_)]) (T:=⟨[.old 0],_,[],[],[46]⟩ :: ⟨[.op 0 0],_,[],[0],[47]⟩ :: ⟨[.old 1],_,[],[],[48]⟩ :: ⟨[.op 2 0],_,[],[2],[49]⟩ :: ⟨[.op 1 0,.op 3 0],_,[],Lr 4,[50]⟩ :: ⟨[.op 4 0],_,[],Lr 5,[51]⟩ :: ⟨[.op 5 0],_,[],Lr 6,[52]⟩ :: ⟨[.op 6 0,.old 0],_,[],Lr 7,[53]⟩ :: ⟨[.op 6 0,.op 7 0],_,[],Lr 8,[54]⟩ :: ⟨[.op 6 0,.op 8 0],_,[],Lr 9,[55]⟩ :: ⟨[.op 6 0,.old 1],_,[],Lr 7,[56]⟩ :: ⟨[.op 6 0,.op 10 0],_,[],[0,1,2,3,4,5,6,10],[57]⟩ :: ⟨[.op 6 0,.op 11 0],_,[],[0,1,2,3,4,5,6,10,11],[58]⟩ :: ⟨[.op 6 0,.op 9 0,.op 12 0],_,[],Lr 13,[59]⟩ :: ⟨[.op 6 0,.op 13 0],_,[],Lr 14,[60]⟩ :: []) (F:=[.old 0,.old 1,.op 14 0]) (hst.pick [0,1] rfl) hb Zb
   (o_p rfl (Zd Zgc rfl rfl u_0)<|o_p rfl (Zf Zc3 rfl rfl u_0)<|o_p rfl (Zd Zgc rfl rfl u_0)<|o_p rfl (Zf Zc3 rfl rfl u_0)<|o_p rfl (Zo Ztm (Zgl _ _ h3) rfl rfl (.cons u_0 (.cons u_1 .nil)))<|o_p rfl (Zb2 rfl rfl u_0)<|o_p rfl (Za rfl rfl u_0)<|o_g (g_f rfl rfl rfl (fun hG=>Zd Zce rfl rfl u_0))<|o_g (g_f rfl rfl rfl (fun hG=>Zf Zc7 rfl rfl (Opd.gd hG u_0)))<|o_g (g_f rfl rfl rfl (fun hG=>Zb1 Tryz.underlying36 rfl rfl (Opd.gd hG u_0)))<|o_g (g_f rfl rfl rfl (fun hG=>Zd Zce rfl rfl u_0))<|o_g (g_f rfl rfl rfl (fun hG=>Zf Zc7 rfl rfl (Opd.gd hG u_0)))<|o_g (g_f rfl rfl rfl (fun hG=>Zb1 Tryz.underlying36 rfl rfl (Opd.gd hG u_0)))<|o_g (g_f rfl rfl rfl (fun hG=>Zdk rfl rfl (Opd.gd hG u_0) (Opd.gd hG u_1)))<|o_p rfl (Zbo rfl rfl u_0 (fun hz=>(Opd.gd (bNF hz) u_1)))<|o_n) (by kernel_rfl) (fun a g hst hb=>?_)
  refine wp_cond_split (hst.bool 2 rfl) (fun hc4=>?_) (fun hc4=>?_)
  ·replace H0:=Zv hc4 H0
   refine r_s (L:=[]) (T:=[⟨[],_,[],[],[4]⟩]) (F:=[.op 0 0]) (hst.pick [] rfl) hb Zb
    (o_p rfl (Zc rfl rfl c_b)<|o_n) (by kernel_rfl) (fun a g hst hb=>?_)
   refine wp_ret ?_
   refine Zr ?_
   obtain rfl:=Option.some.inj H0
   exact Z5 rfl hst hb (Zk (s:=4)) (hst.at 0 rfl)
  ·replace H0:=Zw hc4 H0
   refine wp_skip ?_
   refine Zs ?_
   refine wp_seq ?_
   refine r_s (L:=[(2,_),(3,_)]) (T:=[⟨[],_,[],[],[5]⟩]) (F:=[.old 0,.old 1,.op 0 0]) (hst.pick [0,1] rfl) hb Zb
    (o_p rfl (Zc rfl rfl c_i)<|o_n) (by kernel_rfl) (fun a g hst hb=>?_)
   obtain ⟨z18,hz1,H0⟩:=Zh H0
   refine Zca (fun a w=>∃ (g:G),w=g.w ∧ St 97 [] a g ∧ Base g0 g ∧ (.inr ())=z18) ?_ ?_
   ·rintro a w ⟨g,rfl,hst,hb,rfl⟩
    refine Zs ?_
    refine r_s (T:=[⟨[],_,[],[],[4]⟩]) (F:=[.op 0 0]) hst hb Zb
     (o_p rfl (Zc rfl rfl c_b)<|o_n) (by kernel_rfl) (fun a g hst hb=>?_)
    refine wp_ret ?_
    obtain rfl:=Option.some.inj H0
    exact Z5 rfl hst hb (Zk (s:=4)) (hst.at 0 rfl)
   ·refine wp_block ?_
    refine wp_loop_ghost (fun n a w=>∃ (x5:Int) (g:G),w=g.w ∧ St 97 [(2,(Zi.ptr a0)),(3,(Zi.ptr a1)),(5,(pInt .i64 x5))] a g ∧ Base g0 g ∧ Zew a0 a1 n x5=some z18) (Int.toNat ((a0.List.length:Int) - (0:Int)) + 1) ⟨(0:Int),g,rfl,(hst.pick [0,1,2] rfl),hb,hz1⟩ (fun n a w hI=>?_)
    obtain ⟨x5,g,rfl,hst,hb,H1⟩:=hI
    cases n with
    | zero=>exact absurd H1 (by simp [Zew])
    | succ n =>
     rw [Zew] at H1
     refine wp_seq ?_
     refine r_s (T:=[⟨[.old 2],_,[],[],[61]⟩,⟨[.old 0],_,[],[],[62]⟩,⟨[.op 1 0],_,[],[1],[63]⟩,⟨[.op 2 0],_,[],[1,2],[64]⟩,⟨[.op 0 0,.op 3 0],_,[],Lr 4,[65]⟩]) (F:=[.old 0,.old 1,.old 2,.op 4 0]) hst hb Zb
      (o_p rfl (Za rfl rfl u_0)<|o_p rfl (Zd Zce rfl rfl u_0)<|o_p rfl (Zf Zc7 rfl rfl u_0)<|o_p rfl (Zb1 Tryz.underlying36 rfl rfl u_0)<|o_p rfl (Zci rfl rfl u_0 u_1)<|o_n) (by kernel_rfl) (fun a g hst hb=>?_)
     refine wp_cond_split (hst.bool 3 rfl) (fun hc6=>?_) (fun hc6=>?_)
     ·replace H1:=Zv hc6 H1
      refine wp_skip ?_
      refine Zs ?_
      refine wp_seq ?_
      refine wp_block ?_
      obtain ⟨e7,h8,H1⟩:=Zh H1;obtain ⟨e9,h10,H1⟩:=Zh H1;obtain ⟨e11,h12,H1⟩:=Zh H1;obtain ⟨e13,h14,H1⟩:=Zh H1;obtain ⟨r15,h16,H1⟩:=Zh H1
      refine r_s (L:=[(2,_),(3,_),(5,_)]) (T:=⟨[.old 0],_,[],[],[68]⟩ :: ⟨[.op 0 0],_,[],[0],[69]⟩ :: ⟨[.old 2],_,[],[],[70]⟩ :: ⟨[.op 1 0,.op 2 0],_,[],[0,1,2],[71]⟩ :: ⟨[.op 3 0],_,[],Lr 4,[72]⟩ :: ⟨[.op 4 0],_,[],Lr 5,[73]⟩ :: ⟨[.old 1],_,[],[],[74]⟩ :: ⟨[.op 6 0],_,[],[6],[75]⟩ :: ⟨[.old 2],_,[],[],[76]⟩ :: ⟨[.op 7 0,.op 8 0],_,[],[6,7,8],[77]⟩ :: ⟨[.op 9 0],_,[],List.range' 6 4,[78]⟩ :: ⟨[.op 10 0],_,[],List.range' 6 5,[79]⟩ :: ⟨[.op 5 0,.op 11 0],_,[],Lr 12,[80]⟩ :: ⟨[.op 12 0],_,[],Lr 13,[81]⟩ :: ⟨[.op 13 0,.old 0],_,[],Lr 14,[82]⟩ :: ⟨[.op 13 0,.op 14 0],_,[],Lr 15,[83]⟩ :: ⟨[.op 13 0,.old 2],_,[],Lr 14,[84]⟩ :: ⟨[.op 13 0,.op 15 0,.op 16 0],_,[],Lr 17,[85]⟩ :: ⟨[.op 13 0,.op 17 0],_,[],Lr 18,[86]⟩ :: ⟨[.op 13 0,.op 18 0],_,[],Lr 19,[87]⟩ :: ⟨[.op 13 0,.old 1],_,[],Lr 14,[88]⟩ :: ⟨[.op 13 0,.op 20 0],_,[],0 :: 1 :: 2 :: 3 :: 4 :: 5 :: 6 :: 7 :: 8 :: 9 :: 10 :: 11 :: 12 :: 13 :: 20 :: [],[89]⟩ :: ⟨[.op 13 0,.old 2],_,[],Lr 14,[90]⟩ :: ⟨[.op 13 0,.op 21 0,.op 22 0],_,[],0 :: 1 :: 2 :: 3 :: 4 :: 5 :: 6 :: 7 :: 8 :: 9 :: 10 :: 11 :: 12 :: 13 :: 20 :: 21 :: 22 :: [],[91]⟩ :: ⟨[.op 13 0,.op 23 0],_,[],0 :: 1 :: 2 :: 3 :: 4 :: 5 :: 6 :: 7 :: 8 :: 9 :: 10 :: 11 :: 12 :: 13 :: 20 :: 21 :: 22 :: 23 :: [],[92]⟩ :: ⟨[.op 13 0,.op 24 0],_,[],0 :: 1 :: 2 :: 3 :: 4 :: 5 :: 6 :: 7 :: 8 :: 9 :: 10 :: 11 :: 12 :: 13 :: 20 :: 21 :: 22 :: 23 :: 24 :: [],[93]⟩ :: ⟨[.op 13 0,.op 19 0,.op 25 0],_,[],Lr 26,[94]⟩ :: ⟨[.op 13 0,.op 26 0],_,[],Lr 27,[95]⟩ :: ⟨[.op 13 0,.op 27 0],_,[],Lr 28,[96]⟩ :: []) (F:=[.old 0,.old 1,.old 2,.op 28 0]) (hst.pick [0,1,2] rfl) hb Zb
       (o_p rfl (Zd Zce rfl rfl u_0)<|o_p rfl (Zf Zc7 rfl rfl u_0)<|o_p rfl (Za rfl rfl u_0)<|o_p rfl (Zbl Tryz.underlying36 Ze4 rfl rfl u_0 u_1 h8)<|o_p rfl (Zd Zd4 rfl rfl u_0)<|o_p rfl (Zf ty_9 rfl rfl u_0)<|o_p rfl (Zd Zce rfl rfl u_0)<|o_p rfl (Zf Zc7 rfl rfl u_0)<|o_p rfl (Za rfl rfl u_0)<|o_p rfl (Zbl Tryz.underlying36 Ze4 rfl rfl u_0 u_1 h10)<|o_p rfl (Zd Zd4 rfl rfl u_0)<|o_p rfl (Zf ty_9 rfl rfl u_0)<|o_p rfl (Zol rfl rfl u_0 u_1)<|o_p rfl (Za rfl rfl u_0)<|o_g (g_f rfl rfl rfl (fun hG=>Zd Zce rfl rfl u_0))<|o_g (g_f rfl rfl rfl (fun hG=>Zf Zc7 rfl rfl (Opd.gd hG u_0)))<|o_g (g_f rfl rfl rfl (fun hG=>Za rfl rfl u_0))<|o_g (g_f rfl rfl rfl (fun hG=>Zbl Tryz.underlying36 Ze4 rfl rfl (Opd.gd hG u_0) (Opd.gd hG u_1) (Zbn h12 hG)))<|o_g (g_f rfl rfl rfl (fun hG=>Zd Zfv rfl rfl (Opd.gd hG u_0)))<|o_g (g_f rfl rfl rfl (fun hG=>Zf Zc3 rfl rfl (Opd.gd hG u_0)))<|o_g (g_f rfl rfl rfl (fun hG=>Zd Zce rfl rfl u_0))<|o_g (g_f rfl rfl rfl (fun hG=>Zf Zc7 rfl rfl (Opd.gd hG u_0)))<|o_g (g_f rfl rfl rfl (fun hG=>Za rfl rfl u_0))<|o_g (g_f rfl rfl rfl (fun hG=>Zbl Tryz.underlying36 Ze4 rfl rfl (Opd.gd hG u_0) (Opd.gd hG u_1) (Zbn h14 hG)))<|o_g (g_f rfl rfl rfl (fun hG=>Zd Zfv rfl rfl (Opd.gd hG u_0)))<|o_g (g_f rfl rfl rfl (fun hG=>Zf Zc3 rfl rfl (Opd.gd hG u_0)))<|o_g (g_f rfl rfl rfl (fun hG=>Zo Ztm (Zgl _ _ (Zbn h16 hG)) rfl rfl (.cons (Opd.gd hG u_0) (.cons (Opd.gd hG u_1) .nil))))<|o_g (g_f rfl rfl rfl (fun hG=>Zb2 rfl rfl (Opd.gd hG u_0)))<|o_p rfl (Zbo rfl rfl u_0 (fun hz=>(Opd.gd (bNF hz) u_1)))<|o_n) (by kernel_rfl) (fun a g hst hb=>?_)
      refine wp_cond_split (hst.bool 3 rfl) (fun hc17=>?_) (fun hc17=>?_)
      ·replace H1:=Zv hc17 H1
       refine r_s (L:=[]) (T:=[⟨[],_,[],[],[4]⟩]) (F:=[.op 0 0]) (hst.pick [] rfl) hb Zb
        (o_p rfl (Zc rfl rfl c_b)<|o_n) (by kernel_rfl) (fun a g hst hb=>?_)
       refine wp_ret ?_
       refine Z6 ?_
       refine Zr ?_
       refine Zr ?_
       refine Z6 ?_
       refine Zr ?_
       refine Zr ?_
       obtain rfl:=Option.some.inj H1
       obtain rfl:=Option.some.inj H0
       exact Z5 rfl hst hb (Zk (s:=4)) (hst.at 0 rfl)
      ·replace H1:=Zw hc17 H1
       refine wp_skip ?_
       refine Zbe ?_
       refine Zs ?_
       refine r_g (L:=[(2,_),(3,_),(5,_)]) (T:=[⟨[.old 2],_,[],[],[66]⟩,⟨[.op 0 0],_,[],[0],[67]⟩,⟨[.op 1 0],_,[],[0,1],[5]⟩]) (F:=[.old 0,.old 1,.op 2 0]) (hst.pick [0,1,2] rfl) hb Zb
        (o_p rfl (Za rfl rfl u_0)<|o_p rfl (Zb7 rfl rfl u_0 c_i rfl)<|o_p rfl (Zc rfl rfl u_0)<|o_n) (by kernel_rfl) (fun a g hst hb=>?_)
       exact ⟨n,Nat.lt_succ_self _,(IntKind.i64.wrap (x5 + (1:Int))),g,rfl,(hst.pick [0,1,2] rfl),hb,H1⟩
     ·replace H1:=Zw hc6 H1
      refine wp_exit ?_
      refine Zb3 ?_
      refine Zb3 ?_
      refine Zcn ?_
      exact ⟨g,rfl,(hst.pick [] rfl),hb,Option.some.inj H1⟩
theorem Zq1 (a0:Int) {r:ByteArray} (h:Zlz a0=some r):FnOk Tryz.prog 95 [(pInt .i64 a0)] (pStr r):=by
 have H0:=h
 unfold Zlz at H0
 clear h
 refine Zbu (N:=15) Tryz.func95 rfl rfl (Nat.le_of_ble_eq_true rfl) rfl rfl (fun a g0 hst hb=>?_)
 refine r_s (T:=[⟨[],_,[],[],[2]⟩]) (F:=[.old 0]) hst hb Zb
  (o_p rfl (Zc rfl rfl c_s)<|o_n) (by kernel_rfl) (fun a g hst hb=>?_)
 refine r_s (T:=[⟨[],_,[],[],[4]⟩,⟨[.op 0 0],_,[],[0],[3]⟩]) (F:=[.old 0,.op 1 0]) hst hb Zb
  (o_p rfl (Ziw Zq7 (xs:=[.const (.string ⟨#[]⟩),.const (.string ⟨#[109]⟩),.const (.string ⟨#[]⟩),.const (.string ⟨#[]⟩),.const (.string ⟨#[]⟩),.const (.string ⟨#[115]⟩),.const (.string ⟨#[115]⟩),.const (.string ⟨#[110]⟩),.const (.string ⟨#[110]⟩),.const (.string ⟨#[110]⟩),.const (.string ⟨#[110]⟩),.const (.string ⟨#[110]⟩),.const (.string ⟨#[110]⟩),.const (.string ⟨#[120]⟩),.const (.string ⟨#[120]⟩),.const (.string ⟨#[120]⟩),.const (.string ⟨#[120]⟩),.const (.string ⟨#[120]⟩),.const (.string ⟨#[115]⟩),.const (.string ⟨#[115]⟩),.const (.string ⟨#[115]⟩),.const (.string ⟨#[120,115]⟩)]) (.cons c_s (.cons c_s (.cons c_s (.cons c_s (.cons c_s (.cons c_s (.cons c_s (.cons c_s (.cons c_s (.cons c_s (.cons c_s (.cons c_s (.cons c_s (.cons c_s (.cons c_s (.cons c_s (.cons c_s (.cons c_s (.cons c_s (.cons c_s (.cons c_s (.cons c_s .nil)))))))))))))))))))))) (by decide) rfl rfl)<|o_p rfl (Zc rfl rfl u_0)<|o_n) (by kernel_rfl) (fun a g hst hb=>?_)
 refine wp_seq ?_
 refine r_s (T:=[⟨[.old 0],_,[],[],[5]⟩,⟨[.op 0 0],_,[],[0],[6]⟩,⟨[.op 1 0],_,[],[0,1],[7]⟩,⟨[.op 2 0,.old 0],_,[],[0,1,2],[8]⟩,⟨[.op 2 0,.op 3 0],_,[],Lr 4,[9]⟩,⟨[.op 2 0,.op 4 0],_,[],Lr 5,[10]⟩]) (F:=[.old 0,.old 1,.op 5 0]) hst hb Zb
  (o_p rfl (Za rfl rfl u_0)<|o_p rfl (Zci rfl rfl u_0 c_i)<|o_p rfl (Za rfl rfl u_0)<|o_g (g_f rfl rfl rfl (fun hG=>Za rfl rfl u_0))<|o_g (g_f rfl rfl rfl (fun hG=>Zcu rfl rfl (Opd.gd hG u_0) c_i))<|o_p rfl (Zbo rfl rfl u_0 (fun hz=>(Opd.gd (bNF hz) u_1)))<|o_n) (by kernel_rfl) (fun a g hst hb=>?_)
 refine wp_cond_split (hst.bool 2 rfl) (fun hc1=>?_) (fun hc1=>?_)
 ·replace H0:=Zv hc1 H0
  refine r_s (L:=[]) (T:=[⟨[],_,[],[],[2]⟩]) (F:=[.op 0 0]) (hst.pick [] rfl) hb Zb
   (o_p rfl (Zc rfl rfl c_s)<|o_n) (by kernel_rfl) (fun a g hst hb=>?_)
  refine wp_ret ?_
  refine Zr ?_
  obtain rfl:=Option.some.inj H0
  exact Z5 rfl hst hb (Zk (s:=2)) (hst.at 0 rfl)
 ·replace H0:=Zw hc1 H0
  refine wp_skip ?_
  refine Zs ?_
  obtain ⟨e2,h3,H0⟩:=Zh H0
  refine r_s (L:=[(0,_),(3,_)]) (T:=[⟨[.old 1],_,[],[],[11]⟩,⟨[.old 0],_,[],[],[12]⟩,⟨[.op 0 0,.op 1 0],_,[],[0,1],[13]⟩,⟨[.op 2 0],_,[],[0,1,2],[14]⟩,⟨[.op 3 0],_,[],Lr 4,[2]⟩]) (F:=[.op 4 0]) (hst.pick [0,1] rfl) hb Zb
   (o_p rfl (Za rfl rfl u_0)<|o_p rfl (Za rfl rfl u_0)<|o_p rfl (Zbl Tryz.underlying26 sz_9 rfl rfl u_0 u_1 h3)<|o_p rfl (Zf ty_9 rfl rfl u_0)<|o_p rfl (Zc rfl rfl u_0)<|o_n) (by kernel_rfl) (fun a g hst hb=>?_)
  refine wp_ret ?_
  obtain rfl:=Option.some.inj H0
  exact Z5 rfl hst hb (Zk (s:=2)) (hst.at 0 rfl)
theorem Zlv (a0:Int) (a1:Int) {r:Bool} (h:Zee a0 a1=some r):FnOk Tryz.prog 69 [(pInt .i64 a0),(pInt .u8 a1)] (Zbg r):=by
 have H0:=h
 unfold Zee at H0
 clear h
 refine Zbu (N:=20) Tryz.func69 rfl rfl (Nat.le_of_ble_eq_true rfl) rfl rfl (fun a g0 hst hb=>?_)
 refine r_s (T:=[⟨[],_,[],[],[4]⟩]) (F:=[.old 0,.old 1]) hst hb Zb
  (o_p rfl (Zc rfl rfl c_b)<|o_n) (by kernel_rfl) (fun a g hst hb=>?_)
 obtain ⟨r1,h2,H0⟩:=Zh H0
 refine r_s (T:=[⟨[.old 0],_,[],[],[7]⟩,⟨[.op 0 0],_,[],[0],[8]⟩,⟨[.op 1 0],_,[],[0,1],[5]⟩]) (F:=[.old 1,.op 2 0]) hst hb Zb
  (o_p rfl (Za rfl rfl u_0)<|o_p rfl (Zo Zbc1 (Zq1 _ h2) rfl rfl (.cons u_0 .nil))<|o_p rfl (Zc rfl rfl u_0)<|o_n) (by kernel_rfl) (fun a g hst hb=>?_)
 refine wp_seq ?_
 refine r_s (T:=[⟨[],_,[],[],[6]⟩]) (F:=[.old 0,.old 1,.op 0 0]) hst hb Zb
  (o_p rfl (Zc rfl rfl c_i)<|o_n) (by kernel_rfl) (fun a g hst hb=>?_)
 obtain ⟨z8,hz1,H0⟩:=Zh H0
 refine Zca (fun a w=>∃ (g:G),w=g.w ∧ St 20 [] a g ∧ Base g0 g ∧ (.inr ())=z8) ?_ ?_
 ·rintro a w ⟨g,rfl,hst,hb,rfl⟩
  refine Zs ?_
  refine r_s (T:=[⟨[],_,[],[],[4]⟩]) (F:=[.op 0 0]) hst hb Zb
   (o_p rfl (Zc rfl rfl c_b)<|o_n) (by kernel_rfl) (fun a g hst hb=>?_)
  refine wp_ret ?_
  obtain rfl:=Option.some.inj H0
  exact Z5 rfl hst hb (Zk (s:=4)) (hst.at 0 rfl)
 ·refine wp_block ?_
  refine wp_loop_ghost (fun n a w=>∃ (x3:Int) (g:G),w=g.w ∧ St 20 [(1,(pInt .u8 a1)),(5,(pStr r1)),(6,(pInt .i64 x3))] a g ∧ Base g0 g ∧ Zh8 a1 r1 n x3=some z8) (Int.toNat ((r1.size:Int) - (0:Int)) + 1) ⟨(0:Int),g,rfl,(hst.pick [0,1,2] rfl),hb,hz1⟩ (fun n a w hI=>?_)
  obtain ⟨x3,g,rfl,hst,hb,H1⟩:=hI
  cases n with
  | zero=>exact absurd H1 (by simp [Zh8])
  | succ n =>
   rw [Zh8] at H1
   refine wp_seq ?_
   refine r_s (T:=[⟨[.old 2],_,[],[],[9]⟩,⟨[.old 1],_,[],[],[10]⟩,⟨[.op 1 0],_,[],[1],[11]⟩,⟨[.op 0 0,.op 2 0],_,[],[0,1,2],[12]⟩]) (F:=[.old 0,.old 1,.old 2,.op 3 0]) hst hb Zb
    (o_p rfl (Za rfl rfl u_0)<|o_p rfl (Za rfl rfl u_0)<|o_p rfl (Zfp Tryz.underlying9 rfl rfl u_0)<|o_p rfl (Zci rfl rfl u_0 u_1)<|o_n) (by kernel_rfl) (fun a g hst hb=>?_)
   refine wp_cond_split (hst.bool 3 rfl) (fun hc4=>?_) (fun hc4=>?_)
   ·replace H1:=Zv hc4 H1
    refine wp_skip ?_
    refine Zs ?_
    refine wp_seq ?_
    refine wp_block ?_
    obtain ⟨b5,h6,H1⟩:=Zh H1
    refine r_s (L:=[(1,_),(5,_),(6,_)]) (T:=[⟨[.old 1],_,[],[],[15]⟩,⟨[.old 2],_,[],[],[16]⟩,⟨[.op 0 0,.op 1 0],_,[],[0,1],[17]⟩,⟨[.old 0],_,[],[],[18]⟩,⟨[.op 2 0,.op 3 0],_,[],Lr 4,[19]⟩]) (F:=[.old 0,.old 1,.old 2,.op 4 0]) (hst.pick [0,1,2] rfl) hb Zb
     (o_p rfl (Za rfl rfl u_0)<|o_p rfl (Za rfl rfl u_0)<|o_p rfl (Zn1 Tryz.underlying9 rfl rfl u_0 u_1 h6)<|o_p rfl (Za rfl rfl u_0)<|o_p rfl (Zbs rfl rfl u_0 u_1)<|o_n) (by kernel_rfl) (fun a g hst hb=>?_)
    refine wp_cond_split (hst.bool 3 rfl) (fun hc7=>?_) (fun hc7=>?_)
    ·replace H1:=Zv hc7 H1
     refine r_s (L:=[]) (T:=[⟨[],_,[],[],[4]⟩]) (F:=[.op 0 0]) (hst.pick [] rfl) hb Zb
      (o_p rfl (Zc rfl rfl c_b)<|o_n) (by kernel_rfl) (fun a g hst hb=>?_)
     refine wp_ret ?_
     refine Z6 ?_
     refine Zr ?_
     refine Zr ?_
     refine Z6 ?_
     refine Zr ?_
     refine Zr ?_
     obtain rfl:=Option.some.inj H1
     obtain rfl:=Option.some.inj H0
     exact Z5 rfl hst hb (Zk (s:=4)) (hst.at 0 rfl)
    ·replace H1:=Zw hc7 H1
     refine wp_skip ?_
     refine Zbe ?_
     refine Zs ?_
     refine r_g (L:=[(1,_),(5,_),(6,_)]) (T:=[⟨[.old 2],_,[],[],[13]⟩,⟨[.op 0 0],_,[],[0],[14]⟩,⟨[.op 1 0],_,[],[0,1],[6]⟩]) (F:=[.old 0,.old 1,.op 2 0]) (hst.pick [0,1,2] rfl) hb Zb
      (o_p rfl (Za rfl rfl u_0)<|o_p rfl (Zb7 rfl rfl u_0 c_i rfl)<|o_p rfl (Zc rfl rfl u_0)<|o_n) (by kernel_rfl) (fun a g hst hb=>?_)
     exact ⟨n,Nat.lt_succ_self _,(IntKind.i64.wrap (x3 + (1:Int))),g,rfl,(hst.pick [0,1,2] rfl),hb,H1⟩
   ·replace H1:=Zw hc4 H1
    refine wp_exit ?_
    refine Zb3 ?_
    refine Zb3 ?_
    refine Zcn ?_
    exact ⟨g,rfl,(hst.pick [] rfl),hb,Option.some.inj H1⟩
theorem Zmg (a0:Int) {r:Int} (h:Ze5 a0=some r):FnOk Tryz.prog 70 [(pInt .i64 a0)] (pInt .i64 r):=by
 have H0:=h
 unfold Ze5 at H0
 clear h
 refine Zbu (N:=15) Tryz.func70 rfl rfl (Nat.le_of_ble_eq_true rfl) rfl rfl (fun a g0 hst hb=>?_)
 refine r_s (T:=[⟨[],_,[],[],[2]⟩]) (F:=[.old 0]) hst hb Zb
  (o_p rfl (Zc rfl rfl c_i)<|o_n) (by kernel_rfl) (fun a g hst hb=>?_)
 refine r_s (T:=[⟨[],_,[],[],[4]⟩,⟨[.op 0 0],_,[],[0],[3]⟩]) (F:=[.old 0,.op 1 0]) hst hb Zb
  (o_p rfl (Ziw Zbco (xs:=[.const (.int .i64 0),.const (.int .i64 0),.const (.int .i64 0),.const (.int .i64 0),.const (.int .i64 0),.const (.int .i64 1),.const (.int .i64 1),.const (.int .i64 2),.const (.int .i64 3),.const (.int .i64 3),.const (.int .i64 4),.const (.int .i64 4),.const (.int .i64 4),.const (.int .i64 5),.const (.int .i64 6),.const (.int .i64 7),.const (.int .i64 7),.const (.int .i64 7),.const (.int .i64 8),.const (.int .i64 8),.const (.int .i64 8),.const (.int .i64 9)]) (.cons c_i (.cons c_i (.cons c_i (.cons c_i (.cons c_i (.cons c_i (.cons c_i (.cons c_i (.cons c_i (.cons c_i (.cons c_i (.cons c_i (.cons c_i (.cons c_i (.cons c_i (.cons c_i (.cons c_i (.cons c_i (.cons c_i (.cons c_i (.cons c_i (.cons c_i .nil)))))))))))))))))))))) (by decide) rfl rfl)<|o_p rfl (Zc rfl rfl u_0)<|o_n) (by kernel_rfl) (fun a g hst hb=>?_)
 refine wp_seq ?_
 refine r_s (T:=[⟨[.old 0],_,[],[],[5]⟩,⟨[.op 0 0],_,[],[0],[6]⟩,⟨[.op 1 0],_,[],[0,1],[7]⟩,⟨[.op 2 0,.old 0],_,[],[0,1,2],[8]⟩,⟨[.op 2 0,.op 3 0],_,[],Lr 4,[9]⟩,⟨[.op 2 0,.op 4 0],_,[],Lr 5,[10]⟩]) (F:=[.old 0,.old 1,.op 5 0]) hst hb Zb
  (o_p rfl (Za rfl rfl u_0)<|o_p rfl (Zci rfl rfl u_0 c_i)<|o_p rfl (Za rfl rfl u_0)<|o_g (g_f rfl rfl rfl (fun hG=>Za rfl rfl u_0))<|o_g (g_f rfl rfl rfl (fun hG=>Zcu rfl rfl (Opd.gd hG u_0) c_i))<|o_p rfl (Zbo rfl rfl u_0 (fun hz=>(Opd.gd (bNF hz) u_1)))<|o_n) (by kernel_rfl) (fun a g hst hb=>?_)
 refine wp_cond_split (hst.bool 2 rfl) (fun hc1=>?_) (fun hc1=>?_)
 ·replace H0:=Zv hc1 H0
  refine r_s (L:=[]) (T:=[⟨[],_,[],[],[2]⟩]) (F:=[.op 0 0]) (hst.pick [] rfl) hb Zb
   (o_p rfl (Zc rfl rfl c_i)<|o_n) (by kernel_rfl) (fun a g hst hb=>?_)
  refine wp_ret ?_
  refine Zr ?_
  obtain rfl:=Option.some.inj H0
  exact Z5 rfl hst hb (Zk (s:=2)) (hst.at 0 rfl)
 ·replace H0:=Zw hc1 H0
  refine wp_skip ?_
  refine Zs ?_
  obtain ⟨e2,h3,H0⟩:=Zh H0
  refine r_s (L:=[(0,_),(3,_)]) (T:=[⟨[.old 1],_,[],[],[11]⟩,⟨[.old 0],_,[],[],[12]⟩,⟨[.op 0 0,.op 1 0],_,[],[0,1],[13]⟩,⟨[.op 2 0],_,[],[0,1,2],[14]⟩,⟨[.op 3 0],_,[],Lr 4,[2]⟩]) (F:=[.op 4 0]) (hst.pick [0,1] rfl) hb Zb
   (o_p rfl (Za rfl rfl u_0)<|o_p rfl (Za rfl rfl u_0)<|o_p rfl (Zbl Tryz.underlying65 sz_3 rfl rfl u_0 u_1 h3)<|o_p rfl (Zf ty_3 rfl rfl u_0)<|o_p rfl (Zc rfl rfl u_0)<|o_n) (by kernel_rfl) (fun a g hst hb=>?_)
  refine wp_ret ?_
  obtain rfl:=Option.some.inj H0
  exact Z5 rfl hst hb (Zk (s:=2)) (hst.at 0 rfl)
theorem Zna (a0:Zu) {r:Int} (h:Ze2 a0=some r):FnOk Tryz.prog 48 [(Z4.pd a0)] (pInt .i64 r):=by
 have H0:=h
 unfold Ze2 at H0
 clear h
 refine Zbu (N:=113) Tryz.func48 rfl rfl (Nat.le_of_ble_eq_true rfl) rfl rfl (fun a g0 hst hb=>?_)
 refine r_s (T:=[⟨[.old 0],_,[],[],[1]⟩,⟨[],_,[],[],[2]⟩]) (F:=[.op 0 0]) hst hb Zb
  (o_p rfl (Zbq rfl rfl u_0)<|o_p rfl (Zc rfl rfl c_i)<|o_n) (by kernel_rfl) (fun a g hst hb=>?_)
 refine wp_seq ?_
 refine r_s (T:=[⟨[.old 0],_,[],[],[3]⟩,⟨[.op 0 0],_,[],[0],[4]⟩,⟨[.op 1 0],_,[],[0,1],[5]⟩,⟨[.op 2 0],_,[],[0,1,2],[6]⟩,⟨[.op 3 0,.old 0],_,[],Lr 4,[7]⟩,⟨[.op 3 0,.op 4 0],_,[],Lr 5,[8]⟩,⟨[.op 3 0,.op 5 0],_,[],Lr 6,[9]⟩,⟨[.op 3 0,.op 6 0],_,[],Lr 7,[10]⟩]) (F:=[.old 0,.op 7 0]) hst hb Zb
  (o_p rfl (Zd Zdh rfl rfl u_0)<|o_p rfl (Zf ty_3 rfl rfl u_0)<|o_p rfl (Zci rfl rfl u_0 c_i)<|o_p rfl (Za rfl rfl u_0)<|o_g (g_f rfl rfl rfl (fun hG=>Zd Zdh rfl rfl u_0))<|o_g (g_f rfl rfl rfl (fun hG=>Zf ty_3 rfl rfl (Opd.gd hG u_0)))<|o_g (g_f rfl rfl rfl (fun hG=>Zcu rfl rfl (Opd.gd hG u_0) c_i))<|o_p rfl (Zbo rfl rfl u_0 (fun hz=>(Opd.gd (bNF hz) u_1)))<|o_n) (by kernel_rfl) (fun a g hst hb=>?_)
 refine wp_cond_split (hst.bool 1 rfl) (fun hc1=>?_) (fun hc1=>?_)
 ·replace H0:=Zv hc1 H0
  refine r_s (L:=[]) (T:=[⟨[],_,[],[],[2]⟩]) (F:=[.op 0 0]) (hst.pick [] rfl) hb Zb
   (o_p rfl (Zc rfl rfl c_i)<|o_n) (by kernel_rfl) (fun a g hst hb=>?_)
  refine wp_ret ?_
  refine Zr ?_
  obtain rfl:=Option.some.inj H0
  exact Z5 rfl hst hb (Zk (s:=2)) (hst.at 0 rfl)
 ·replace H0:=Zw hc1 H0
  refine wp_skip ?_
  refine Zs ?_
  refine wp_seq ?_
  refine r_s (L:=[(1,_)]) (T:=[⟨[.old 0],_,[],[],[11]⟩,⟨[.op 0 0],_,[],[0],[12]⟩,⟨[.op 1 0],_,[],[0,1],[13]⟩,⟨[.op 2 0],_,[],[0,1,2],[14]⟩,⟨[.op 3 0],_,[],Lr 4,[15]⟩,⟨[.op 4 0,.old 0],_,[],Lr 5,[16]⟩,⟨[.op 4 0,.op 5 0],_,[],Lr 6,[17]⟩,⟨[.op 4 0,.op 6 0],_,[],Lr 7,[18]⟩,⟨[.op 4 0,.op 7 0],_,[],Lr 8,[19]⟩,⟨[.op 4 0,.op 8 0],_,[],Lr 9,[20]⟩]) (F:=[.old 0,.op 9 0]) (hst.pick [0] rfl) hb Zb
   (o_p rfl (Zd Zic rfl rfl u_0)<|o_p rfl (Zf ty_9 rfl rfl u_0)<|o_p rfl (Zfp Tryz.underlying9 rfl rfl u_0)<|o_p rfl (Zci rfl rfl u_0 c_i)<|o_p rfl (Za rfl rfl u_0)<|o_g (g_f rfl rfl rfl (fun hG=>Zd Zic rfl rfl u_0))<|o_g (g_f rfl rfl rfl (fun hG=>Zf ty_9 rfl rfl (Opd.gd hG u_0)))<|o_g (g_f rfl rfl rfl (fun hG=>Zfp Tryz.underlying9 rfl rfl (Opd.gd hG u_0)))<|o_g (g_f rfl rfl rfl (fun hG=>Zcu rfl rfl (Opd.gd hG u_0) c_i))<|o_p rfl (Zbo rfl rfl u_0 (fun hz=>(Opd.gd (bNF hz) u_1)))<|o_n) (by kernel_rfl) (fun a g hst hb=>?_)
  refine wp_cond_split (hst.bool 1 rfl) (fun hc2=>?_) (fun hc2=>?_)
  ·replace H0:=Zv hc2 H0
   refine r_s (L:=[]) (T:=[⟨[],_,[],[],[2]⟩]) (F:=[.op 0 0]) (hst.pick [] rfl) hb Zb
    (o_p rfl (Zc rfl rfl c_i)<|o_n) (by kernel_rfl) (fun a g hst hb=>?_)
   refine wp_ret ?_
   refine Zr ?_
   obtain rfl:=Option.some.inj H0
   exact Z5 rfl hst hb (Zk (s:=2)) (hst.at 0 rfl)
  ·replace H0:=Zw hc2 H0
   refine wp_skip ?_
   refine Zs ?_
   refine wp_seq ?_
   obtain ⟨r3,h4,H0⟩:=Zh H0;obtain ⟨r5,h6,H0⟩:=Zh H0;obtain ⟨r7,h8,H0⟩:=Zh H0;obtain ⟨r9,h10,H0⟩:=Zh H0
   refine r_s (L:=[(1,_)]) (T:=⟨[.old 0],_,[],[],[21]⟩ :: ⟨[.op 0 0],_,[],[0],[22]⟩ :: ⟨[.op 1 0],_,[],[0,1],[23]⟩ :: ⟨[.op 2 0],_,[],[0,1,2],[24]⟩ :: ⟨[.op 3 0],_,[],Lr 4,[25]⟩ :: ⟨[.op 4 0,.old 0],_,[],Lr 5,[26]⟩ :: ⟨[.op 4 0,.op 5 0],_,[],Lr 6,[27]⟩ :: ⟨[.op 4 0,.op 6 0],_,[],Lr 7,[28]⟩ :: ⟨[.op 4 0,.op 7 0],_,[],Lr 8,[29]⟩ :: ⟨[.op 8 0],_,[],Lr 9,[30]⟩ :: ⟨[.op 9 0,.old 0],_,[],Lr 10,[31]⟩ :: ⟨[.op 9 0,.op 10 0],_,[],Lr 11,[32]⟩ :: ⟨[.op 9 0,.op 11 0],_,[],Lr 12,[33]⟩ :: ⟨[.op 9 0,.op 12 0],_,[],Lr 13,[34]⟩ :: ⟨[.op 9 0,.op 13 0],_,[],Lr 14,[35]⟩ :: ⟨[.op 14 0,.old 0],_,[],Lr 15,[36]⟩ :: ⟨[.op 14 0,.op 15 0],_,[],Lr 16,[37]⟩ :: ⟨[.op 14 0,.op 16 0],_,[],Lr 17,[38]⟩ :: ⟨[.op 14 0,.op 17 0],_,[],Lr 18,[39]⟩ :: ⟨[.op 9 0,.op 14 0,.op 18 0],_,[],Lr 19,[40]⟩ :: ⟨[.op 9 0,.op 19 0],_,[],Lr 20,[41]⟩ :: ⟨[.op 20 0],_,[],Lr 21,[42]⟩ :: ⟨[.op 21 0,.old 0],_,[],Lr 22,[43]⟩ :: ⟨[.op 21 0,.op 22 0],_,[],Lr 23,[44]⟩ :: ⟨[.op 21 0,.op 23 0],_,[],Lr 24,[45]⟩ :: ⟨[.op 21 0,.op 24 0],_,[],Lr 25,[46]⟩ :: ⟨[.op 21 0,.op 25 0],_,[],Lr 26,[47]⟩ :: ⟨[.op 26 0,.old 0],_,[],Lr 27,[48]⟩ :: ⟨[.op 26 0,.op 27 0],_,[],Lr 28,[49]⟩ :: ⟨[.op 26 0,.op 28 0],_,[],Lr 29,[50]⟩ :: ⟨[.op 21 0,.op 26 0,.op 29 0],_,[],Lr 30,[51]⟩ :: ⟨[.op 21 0,.op 30 0],_,[],Lr 31,[52]⟩ :: []) (F:=[.old 0,.op 31 0]) (hst.pick [0] rfl) hb Zb
    (o_p rfl (Zd Zdh rfl rfl u_0)<|o_p rfl (Zf ty_3 rfl rfl u_0)<|o_p rfl (Zo Z20 (Zlv _ _ h4) rfl rfl (.cons u_0 (.cons c_i .nil)))<|o_p rfl (Zb2 rfl rfl u_0)<|o_p rfl (Za rfl rfl u_0)<|o_g (g_t rfl rfl rfl (fun hG=>Zd Zed rfl rfl u_0))<|o_g (g_t rfl rfl rfl (fun hG=>Zf ty_2 rfl rfl (Opd.gd hG u_0)))<|o_g (g_t rfl rfl rfl (fun hG=>Zdk rfl rfl (Opd.gd hG u_0) c_i))<|o_p rfl (Zbi rfl rfl u_0 (fun hz=>(Opd.gd hz u_1)))<|o_p rfl (Za rfl rfl u_0)<|o_g (g_f rfl rfl rfl (fun hG=>Zd Zdh rfl rfl u_0))<|o_g (g_f rfl rfl rfl (fun hG=>Zf ty_3 rfl rfl (Opd.gd hG u_0)))<|o_g (g_f rfl rfl rfl (fun hG=>Zo Z20 (Zlv _ _ (Zbn h6 hG)) rfl rfl (.cons (Opd.gd hG u_0) (.cons c_i .nil))))<|o_g (g_f rfl rfl rfl (fun hG=>Zb2 rfl rfl (Opd.gd hG u_0)))<|o_g (g_f rfl rfl rfl (fun hG=>Za rfl rfl (Opd.gd hG u_0)))<|o_g (g_ti rfl rfl rfl (fun hG=>Zd Zjn rfl rfl u_0))<|o_g (g_ti rfl rfl rfl (fun hG=>Zf Zc3 rfl rfl (Opd.gd hG u_0)))<|o_g (g_ti rfl rfl rfl (fun hG=>Zo Ztm (Zgl _ _ (Zbn h8 hG)) rfl rfl (.cons (Opd.gd hG u_0) (.cons c_f .nil))))<|o_g (g_ti rfl rfl rfl (fun hG=>Zb2 rfl rfl (Opd.gd hG u_0)))<|o_g (g_f rfl rfl rfl (fun hG=>Zbi rfl rfl (Opd.gd hG u_0) (fun hz=>(Opd.gd (bA hG hz) u_1))))<|o_p rfl (Zbo rfl rfl u_0 (fun hz=>(Opd.gd (bNF hz) u_1)))<|o_p rfl (Za rfl rfl u_0)<|o_g (g_f rfl rfl rfl (fun hG=>Zd Zdh rfl rfl u_0))<|o_g (g_f rfl rfl rfl (fun hG=>Zf ty_3 rfl rfl (Opd.gd hG u_0)))<|o_g (g_f rfl rfl rfl (fun hG=>Zo Z20 (Zlv _ _ (Zbn h10 hG)) rfl rfl (.cons (Opd.gd hG u_0) (.cons c_i .nil))))<|o_g (g_f rfl rfl rfl (fun hG=>Zb2 rfl rfl (Opd.gd hG u_0)))<|o_g (g_f rfl rfl rfl (fun hG=>Za rfl rfl (Opd.gd hG u_0)))<|o_g (g_ti rfl rfl rfl (fun hG=>Zd Zf0 rfl rfl u_0))<|o_g (g_ti rfl rfl rfl (fun hG=>Zf ty_9 rfl rfl (Opd.gd hG u_0)))<|o_g (g_ti rfl rfl rfl (fun hG=>Zol rfl rfl (Opd.gd hG u_0) c_s))<|o_g (g_f rfl rfl rfl (fun hG=>Zbi rfl rfl (Opd.gd hG u_0) (fun hz=>(Opd.gd (bA hG hz) u_1))))<|o_p rfl (Zbo rfl rfl u_0 (fun hz=>(Opd.gd (bNF hz) u_1)))<|o_n) (by kernel_rfl) (fun a g hst hb=>?_)
   refine wp_cond_split (hst.bool 1 rfl) (fun hc11=>?_) (fun hc11=>?_)
   ·replace H0:=Zv hc11 H0
    refine r_s (L:=[]) (T:=[⟨[],_,[],[],[2]⟩]) (F:=[.op 0 0]) (hst.pick [] rfl) hb Zb
     (o_p rfl (Zc rfl rfl c_i)<|o_n) (by kernel_rfl) (fun a g hst hb=>?_)
    refine wp_ret ?_
    refine Zr ?_
    obtain rfl:=Option.some.inj H0
    exact Z5 rfl hst hb (Zk (s:=2)) (hst.at 0 rfl)
   ·replace H0:=Zw hc11 H0
    refine wp_skip ?_
    refine Zs ?_
    refine wp_seq ?_
    obtain ⟨r12,h13,H0⟩:=Zh H0
    refine r_s (L:=[(1,_)]) (T:=[⟨[.old 0],_,[],[],[53]⟩,⟨[.op 0 0],_,[],[0],[54]⟩,⟨[.op 1 0],_,[],[0,1],[55]⟩,⟨[.op 2 0],_,[],[0,1,2],[56]⟩,⟨[.op 3 0,.old 0],_,[],Lr 4,[57]⟩,⟨[.op 3 0,.op 4 0],_,[],Lr 5,[58]⟩,⟨[.op 3 0],_,[],Lr 4,[59]⟩,⟨[.op 3 0,.op 5 0,.op 6 0],_,[],Lr 7,[60]⟩,⟨[.op 3 0,.op 7 0],_,[],Lr 8,[61]⟩,⟨[.op 3 0,.op 8 0],_,[],Lr 9,[62]⟩]) (F:=[.old 0,.op 9 0]) (hst.pick [0] rfl) hb Zb
     (o_p rfl (Zd Zdh rfl rfl u_0)<|o_p rfl (Zf ty_3 rfl rfl u_0)<|o_p rfl (Zdk rfl rfl u_0 c_i)<|o_p rfl (Za rfl rfl u_0)<|o_g (g_t rfl rfl rfl (fun hG=>Zd Zmd rfl rfl u_0))<|o_g (g_t rfl rfl rfl (fun hG=>Zf Zbc rfl rfl (Opd.gd hG u_0)))<|o_g (g_t rfl rfl rfl (fun hG=>Znc rfl rfl ))<|o_g (g_t rfl rfl rfl (fun hG=>Zo Z2w (Zlj _ _ (Zbn h13 hG)) rfl rfl (.cons (Opd.gd hG u_0) (.cons (Opd.gd hG u_1) .nil))))<|o_g (g_t rfl rfl rfl (fun hG=>Zb2 rfl rfl (Opd.gd hG u_0)))<|o_p rfl (Zbi rfl rfl u_0 (fun hz=>(Opd.gd hz u_1)))<|o_n) (by kernel_rfl) (fun a g hst hb=>?_)
    refine wp_cond_split (hst.bool 1 rfl) (fun hc14=>?_) (fun hc14=>?_)
    ·replace H0:=Zv hc14 H0
     refine r_s (L:=[]) (T:=[⟨[],_,[],[],[2]⟩]) (F:=[.op 0 0]) (hst.pick [] rfl) hb Zb
      (o_p rfl (Zc rfl rfl c_i)<|o_n) (by kernel_rfl) (fun a g hst hb=>?_)
     refine wp_ret ?_
     refine Zr ?_
     obtain rfl:=Option.some.inj H0
     exact Z5 rfl hst hb (Zk (s:=2)) (hst.at 0 rfl)
    ·replace H0:=Zw hc14 H0
     refine wp_skip ?_
     refine Zs ?_
     refine wp_seq ?_
     obtain ⟨r15,h16,H0⟩:=Zh H0;obtain ⟨r17,h18,H0⟩:=Zh H0
     refine r_s (L:=[(1,_)]) (T:=⟨[.old 0],_,[],[],[63]⟩ :: ⟨[.op 0 0],_,[],[0],[64]⟩ :: ⟨[.op 1 0],_,[],[0,1],[65]⟩ :: ⟨[.op 2 0],_,[],[0,1,2],[66]⟩ :: ⟨[.op 3 0],_,[],Lr 4,[67]⟩ :: ⟨[.op 4 0,.old 0],_,[],Lr 5,[68]⟩ :: ⟨[.op 4 0,.op 5 0],_,[],Lr 6,[69]⟩ :: ⟨[.op 4 0,.op 6 0],_,[],Lr 7,[70]⟩ :: ⟨[.op 4 0,.op 7 0],_,[],Lr 8,[71]⟩ :: ⟨[.op 4 0,.op 8 0],_,[],Lr 9,[72]⟩ :: ⟨[.op 9 0],_,[],Lr 10,[73]⟩ :: ⟨[.op 10 0,.old 0],_,[],Lr 11,[74]⟩ :: ⟨[.op 10 0,.op 11 0],_,[],Lr 12,[75]⟩ :: ⟨[.op 10 0,.op 12 0],_,[],Lr 13,[76]⟩ :: ⟨[.op 10 0,.op 13 0],_,[],Lr 14,[77]⟩ :: ⟨[.op 10 0,.op 14 0],_,[],Lr 15,[78]⟩ :: ⟨[.op 15 0,.old 0],_,[],Lr 16,[79]⟩ :: ⟨[.op 15 0,.op 16 0],_,[],Lr 17,[80]⟩ :: ⟨[.op 15 0,.op 17 0],_,[],Lr 18,[81]⟩ :: ⟨[.op 15 0,.op 18 0],_,[],Lr 19,[82]⟩ :: ⟨[.op 10 0,.op 15 0,.op 19 0],_,[],Lr 20,[83]⟩ :: ⟨[.op 10 0,.op 20 0],_,[],Lr 21,[84]⟩ :: []) (F:=[.old 0,.op 21 0]) (hst.pick [0] rfl) hb Zb
      (o_p rfl (Zd Zdh rfl rfl u_0)<|o_p rfl (Zf ty_3 rfl rfl u_0)<|o_p rfl (Zo Z3x (Zmg _ h16) rfl rfl (.cons u_0 .nil))<|o_p rfl (Zbs rfl rfl u_0 c_i)<|o_p rfl (Za rfl rfl u_0)<|o_g (g_t rfl rfl rfl (fun hG=>Zd Zf0 rfl rfl u_0))<|o_g (g_t rfl rfl rfl (fun hG=>Zf ty_9 rfl rfl (Opd.gd hG u_0)))<|o_g (g_t rfl rfl rfl (fun hG=>Zfp Tryz.underlying9 rfl rfl (Opd.gd hG u_0)))<|o_g (g_t rfl rfl rfl (fun hG=>Zcu rfl rfl (Opd.gd hG u_0) c_i))<|o_p rfl (Zbi rfl rfl u_0 (fun hz=>(Opd.gd hz u_1)))<|o_p rfl (Za rfl rfl u_0)<|o_g (g_f rfl rfl rfl (fun hG=>Zd Zdh rfl rfl u_0))<|o_g (g_f rfl rfl rfl (fun hG=>Zf ty_3 rfl rfl (Opd.gd hG u_0)))<|o_g (g_f rfl rfl rfl (fun hG=>Zo Z3x (Zmg _ (Zbn h18 hG)) rfl rfl (.cons (Opd.gd hG u_0) .nil)))<|o_g (g_f rfl rfl rfl (fun hG=>Zdk rfl rfl (Opd.gd hG u_0) c_i))<|o_g (g_f rfl rfl rfl (fun hG=>Za rfl rfl (Opd.gd hG u_0)))<|o_g (g_ti rfl rfl rfl (fun hG=>Zd Zf0 rfl rfl u_0))<|o_g (g_ti rfl rfl rfl (fun hG=>Zf ty_9 rfl rfl (Opd.gd hG u_0)))<|o_g (g_ti rfl rfl rfl (fun hG=>Zfp Tryz.underlying9 rfl rfl (Opd.gd hG u_0)))<|o_g (g_ti rfl rfl rfl (fun hG=>Zcu rfl rfl (Opd.gd hG u_0) c_i))<|o_g (g_f rfl rfl rfl (fun hG=>Zbi rfl rfl (Opd.gd hG u_0) (fun hz=>(Opd.gd (bA hG hz) u_1))))<|o_p rfl (Zbo rfl rfl u_0 (fun hz=>(Opd.gd (bNF hz) u_1)))<|o_n) (by kernel_rfl) (fun a g hst hb=>?_)
     refine wp_cond_split (hst.bool 1 rfl) (fun hc19=>?_) (fun hc19=>?_)
     ·replace H0:=Zv hc19 H0
      refine r_s (L:=[]) (T:=[⟨[],_,[],[],[2]⟩]) (F:=[.op 0 0]) (hst.pick [] rfl) hb Zb
       (o_p rfl (Zc rfl rfl c_i)<|o_n) (by kernel_rfl) (fun a g hst hb=>?_)
      refine wp_ret ?_
      refine Zr ?_
      obtain rfl:=Option.some.inj H0
      exact Z5 rfl hst hb (Zk (s:=2)) (hst.at 0 rfl)
     ·replace H0:=Zw hc19 H0
      refine wp_skip ?_
      refine Zs ?_
      refine wp_seq ?_
      refine r_s (L:=[(1,_)]) (T:=⟨[.old 0],_,[],[],[85]⟩ :: ⟨[.op 0 0],_,[],[0],[86]⟩ :: ⟨[.op 1 0],_,[],[0,1],[87]⟩ :: ⟨[.op 2 0],_,[],[0,1,2],[88]⟩ :: ⟨[.op 3 0,.old 0],_,[],Lr 4,[89]⟩ :: ⟨[.op 3 0,.op 4 0],_,[],Lr 5,[90]⟩ :: ⟨[.op 3 0,.op 5 0],_,[],Lr 6,[91]⟩ :: ⟨[.op 3 0,.op 6 0],_,[],Lr 7,[92]⟩ :: ⟨[.op 7 0],_,[],Lr 8,[93]⟩ :: ⟨[.op 8 0,.old 0],_,[],Lr 9,[94]⟩ :: ⟨[.op 8 0,.op 9 0],_,[],Lr 10,[95]⟩ :: ⟨[.op 8 0,.op 10 0],_,[],Lr 11,[96]⟩ :: ⟨[.op 8 0,.op 11 0],_,[],Lr 12,[97]⟩ :: ⟨[.op 12 0,.old 0],_,[],Lr 13,[98]⟩ :: ⟨[.op 12 0,.op 13 0],_,[],Lr 14,[99]⟩ :: ⟨[.op 12 0,.op 14 0],_,[],Lr 15,[100]⟩ :: ⟨[.op 8 0,.op 12 0,.op 15 0],_,[],Lr 16,[101]⟩ :: ⟨[.op 8 0,.op 16 0],_,[],Lr 17,[102]⟩ :: []) (F:=[.old 0,.op 17 0]) (hst.pick [0] rfl) hb Zb
       (o_p rfl (Zd Zdh rfl rfl u_0)<|o_p rfl (Zf ty_3 rfl rfl u_0)<|o_p rfl (Zbs rfl rfl u_0 c_i)<|o_p rfl (Za rfl rfl u_0)<|o_g (g_f rfl rfl rfl (fun hG=>Zd Zdh rfl rfl u_0))<|o_g (g_f rfl rfl rfl (fun hG=>Zf ty_3 rfl rfl (Opd.gd hG u_0)))<|o_g (g_f rfl rfl rfl (fun hG=>Zbs rfl rfl (Opd.gd hG u_0) c_i))<|o_p rfl (Zbo rfl rfl u_0 (fun hz=>(Opd.gd (bNF hz) u_1)))<|o_p rfl (Za rfl rfl u_0)<|o_g (g_t rfl rfl rfl (fun hG=>Zd Zed rfl rfl u_0))<|o_g (g_t rfl rfl rfl (fun hG=>Zf ty_2 rfl rfl (Opd.gd hG u_0)))<|o_g (g_t rfl rfl rfl (fun hG=>Zci rfl rfl (Opd.gd hG u_0) c_i))<|o_g (g_t rfl rfl rfl (fun hG=>Za rfl rfl (Opd.gd hG u_0)))<|o_g (g_fi rfl rfl rfl (fun hG=>Zd Zed rfl rfl u_0))<|o_g (g_fi rfl rfl rfl (fun hG=>Zf ty_2 rfl rfl (Opd.gd hG u_0)))<|o_g (g_fi rfl rfl rfl (fun hG=>Zcu rfl rfl (Opd.gd hG u_0) c_i))<|o_g (g_t rfl rfl rfl (fun hG=>Zbo rfl rfl (Opd.gd hG u_0) (fun hz=>(Opd.gd (bA hG (bNF hz)) u_1))))<|o_p rfl (Zbi rfl rfl u_0 (fun hz=>(Opd.gd hz u_1)))<|o_n) (by kernel_rfl) (fun a g hst hb=>?_)
      refine wp_cond_split (hst.bool 1 rfl) (fun hc20=>?_) (fun hc20=>?_)
      ·replace H0:=Zv hc20 H0
       refine r_s (L:=[]) (T:=[⟨[],_,[],[],[2]⟩]) (F:=[.op 0 0]) (hst.pick [] rfl) hb Zb
        (o_p rfl (Zc rfl rfl c_i)<|o_n) (by kernel_rfl) (fun a g hst hb=>?_)
       refine wp_ret ?_
       refine Zr ?_
       obtain rfl:=Option.some.inj H0
       exact Z5 rfl hst hb (Zk (s:=2)) (hst.at 0 rfl)
      ·replace H0:=Zw hc20 H0
       refine wp_skip ?_
       refine Zs ?_
       refine wp_seq ?_
       obtain ⟨r21,h22,H0⟩:=Zh H0
       refine r_s (L:=[(1,_)]) (T:=[⟨[.old 0],_,[],[],[103]⟩,⟨[.op 0 0],_,[],[0],[104]⟩,⟨[.op 1 0],_,[],[0,1],[105]⟩,⟨[.op 2 0],_,[],[0,1,2],[106]⟩]) (F:=[.old 0,.op 3 0]) (hst.pick [0] rfl) hb Zb
        (o_p rfl (Zd Zjn rfl rfl u_0)<|o_p rfl (Zf Zc3 rfl rfl u_0)<|o_p rfl (Zo Z3w (Zkp _ h22) rfl rfl (.cons u_0 .nil))<|o_p rfl (Zb2 rfl rfl u_0)<|o_n) (by kernel_rfl) (fun a g hst hb=>?_)
       refine wp_cond_split (hst.bool 1 rfl) (fun hc23=>?_) (fun hc23=>?_)
       ·replace H0:=Zv hc23 H0
        refine r_s (L:=[]) (T:=[⟨[],_,[],[],[2]⟩]) (F:=[.op 0 0]) (hst.pick [] rfl) hb Zb
         (o_p rfl (Zc rfl rfl c_i)<|o_n) (by kernel_rfl) (fun a g hst hb=>?_)
        refine wp_ret ?_
        refine Zr ?_
        obtain rfl:=Option.some.inj H0
        exact Z5 rfl hst hb (Zk (s:=2)) (hst.at 0 rfl)
       ·replace H0:=Zw hc23 H0
        refine wp_skip ?_
        refine Zs ?_
        refine wp_seq ?_
        refine r_s (L:=[(1,_)]) (T:=[⟨[.old 0],_,[],[],[107]⟩,⟨[.op 0 0],_,[],[0],[108]⟩,⟨[.op 1 0],_,[],[0,1],[109]⟩]) (F:=[.old 0,.op 2 0]) (hst.pick [0] rfl) hb Zb
         (o_p rfl (Zd Zdh rfl rfl u_0)<|o_p rfl (Zf ty_3 rfl rfl u_0)<|o_p rfl (Zbs rfl rfl u_0 c_i)<|o_n) (by kernel_rfl) (fun a g hst hb=>?_)
        refine wp_cond_split (hst.bool 1 rfl) (fun hc24=>?_) (fun hc24=>?_)
        ·replace H0:=Zv hc24 H0
         obtain ⟨r25,h26,H0⟩:=Zh H0
         refine r_s (L:=[(1,_)]) (T:=[⟨[.old 0],_,[],[],[110]⟩,⟨[.op 0 0],_,[],[0],[111]⟩,⟨[.op 1 0],_,[],[0,1],[112]⟩,⟨[.op 2 0],_,[],[0,1,2],[2]⟩]) (F:=[.op 3 0]) (hst.pick [0] rfl) hb Zb
          (o_p rfl (Zd Zmd rfl rfl u_0)<|o_p rfl (Zf Zbc rfl rfl u_0)<|o_p rfl (Zo Z3d (Zkz _ h26) rfl rfl (.cons u_0 .nil))<|o_p rfl (Zc rfl rfl u_0)<|o_n) (by kernel_rfl) (fun a g hst hb=>?_)
         refine wp_ret ?_
         refine Zr ?_
         obtain rfl:=Option.some.inj H0
         exact Z5 rfl hst hb (Zk (s:=2)) (hst.at 0 rfl)
        ·replace H0:=Zw hc24 H0
         refine wp_skip ?_
         refine Zs ?_
         refine r_s (L:=[]) (T:=[⟨[],_,[],[],[2]⟩]) (F:=[.op 0 0]) (hst.pick [] rfl) hb Zb
          (o_p rfl (Zc rfl rfl c_i)<|o_n) (by kernel_rfl) (fun a g hst hb=>?_)
         refine wp_ret ?_
         obtain rfl:=Option.some.inj H0
         exact Z5 rfl hst hb (Zk (s:=2)) (hst.at 0 rfl)
theorem Zri (a0:Zbm) {r:Int × Int} (h:Zip a0=some r):FnOk Tryz.prog 22 [(Zch.pd a0)] (pTup [(pInt .i64 r.1),(pInt .i64 r.2)]):=by
 have H0:=h
 unfold Zip at H0
 clear h
 refine Zbu (N:=34) Tryz.func22 rfl rfl (Nat.le_of_ble_eq_true rfl) rfl rfl (fun a g0 hst hb=>?_)
 refine r_s (T:=[⟨[.old 0],_,[],[],[1]⟩,⟨[],_,[],[],[2]⟩,⟨[],_,[],[1],[3]⟩]) (F:=[.op 0 0]) hst hb Zb
  (o_p rfl (Zbq rfl rfl u_0)<|o_p rfl (Zc rfl rfl c_i)<|o_p rfl (Zc rfl rfl c_i)<|o_n) (by kernel_rfl) (fun a g hst hb=>?_)
 refine wp_seq ?_
 refine r_s (T:=[⟨[.old 0],_,[],[],[6]⟩,⟨[.op 0 0],_,[],[0],[7]⟩,⟨[.op 1 0],_,[],[0,1],[8]⟩,⟨[.op 2 0],_,[],[0,1,2],[9]⟩,⟨[.op 3 0],_,[],Lr 4,[10]⟩,⟨[.op 4 0,.old 0],_,[],Lr 5,[11]⟩,⟨[.op 4 0,.op 5 0],_,[],Lr 6,[12]⟩,⟨[.op 4 0,.op 6 0],_,[],Lr 7,[13]⟩,⟨[.op 4 0,.op 7 0],_,[],Lr 8,[14]⟩,⟨[.op 4 0,.op 8 0],_,[],Lr 9,[15]⟩]) (F:=[.old 0,.op 9 0]) hst hb Zb
  (o_p rfl (Zd Zhr rfl rfl u_0)<|o_p rfl (Zf Zkf rfl rfl u_0)<|o_p rfl (Zb1 Tryz.underlying23 rfl rfl u_0)<|o_p rfl (Zci rfl rfl u_0 c_i)<|o_p rfl (Za rfl rfl u_0)<|o_g (g_f rfl rfl rfl (fun hG=>Zd Zhr rfl rfl u_0))<|o_g (g_f rfl rfl rfl (fun hG=>Zf Zkf rfl rfl (Opd.gd hG u_0)))<|o_g (g_f rfl rfl rfl (fun hG=>Zb1 Tryz.underlying23 rfl rfl (Opd.gd hG u_0)))<|o_g (g_f rfl rfl rfl (fun hG=>Zcu rfl rfl (Opd.gd hG u_0) c_i))<|o_p rfl (Zbo rfl rfl u_0 (fun hz=>(Opd.gd (bNF hz) u_1)))<|o_n) (by kernel_rfl) (fun a g hst hb=>?_)
 refine wp_cond_split (hst.bool 1 rfl) (fun hc1=>?_) (fun hc1=>?_)
 ·replace H0:=Zv hc1 H0
  refine r_s (L:=[]) (T:=[⟨[],_,[],[],[2]⟩,⟨[],_,[],[0],[3]⟩]) (F:=[.op 0 0,.op 1 0]) (hst.pick [] rfl) hb Zb
   (o_p rfl (Zc rfl rfl c_i)<|o_p rfl (Zc rfl rfl c_i)<|o_n) (by kernel_rfl) (fun a g hst hb=>?_)
  refine wp_ret ?_
  refine Zr ?_
  obtain rfl:=Option.some.inj H0
  exact Zdq rfl hst hb (Zk (s:=2)) (Zk (s:=3)) (Zcw (hst.at 0 rfl) (hst.at 1 rfl))
 ·replace H0:=Zw hc1 H0
  refine wp_skip ?_
  refine Zs ?_
  refine wp_seq ?_
  refine r_s (L:=[(1,_)]) (T:=[⟨[],_,[],[],[4]⟩]) (F:=[.old 0,.op 0 0]) (hst.pick [0] rfl) hb Zb
   (o_p rfl (Zc rfl rfl c_i)<|o_n) (by kernel_rfl) (fun a g hst hb=>?_)
  obtain ⟨z9,hz1,H0⟩:=Zh H0
  refine Zca (fun a w=>∃ (g:G),w=g.w ∧ St 34 [] a g ∧ Base g0 g ∧ (.inr ())=z9) ?_ ?_
  ·rintro a w ⟨g,rfl,hst,hb,rfl⟩
   refine Zs ?_
   refine r_s (T:=[⟨[],_,[],[],[2]⟩,⟨[],_,[],[0],[3]⟩]) (F:=[.op 0 0,.op 1 0]) hst hb Zb
    (o_p rfl (Zc rfl rfl c_i)<|o_p rfl (Zc rfl rfl c_i)<|o_n) (by kernel_rfl) (fun a g hst hb=>?_)
   refine wp_ret ?_
   obtain rfl:=Option.some.inj H0
   exact Zdq rfl hst hb (Zk (s:=2)) (Zk (s:=3)) (Zcw (hst.at 0 rfl) (hst.at 1 rfl))
  ·refine wp_block ?_
   refine wp_loop_ghost (fun n a w=>∃ (x2:Int) (g:G),w=g.w ∧ St 34 [(1,(Zch.ptr a0)),(4,(pInt .i64 x2))] a g ∧ Base g0 g ∧ Zej a0 n x2=some z9) (Int.toNat ((a0.Acts.length:Int) - (0:Int)) + 1) ⟨(0:Int),g,rfl,(hst.pick [0,1] rfl),hb,hz1⟩ (fun n a w hI=>?_)
   obtain ⟨x2,g,rfl,hst,hb,H1⟩:=hI
   cases n with
   | zero=>exact absurd H1 (by simp [Zej])
   | succ n =>
    rw [Zej] at H1
    refine wp_seq ?_
    refine r_s (T:=[⟨[.old 1],_,[],[],[16]⟩,⟨[.old 0],_,[],[],[17]⟩,⟨[.op 1 0],_,[],[1],[18]⟩,⟨[.op 2 0],_,[],[1,2],[19]⟩,⟨[.op 0 0,.op 3 0],_,[],Lr 4,[20]⟩]) (F:=[.old 0,.old 1,.op 4 0]) hst hb Zb
     (o_p rfl (Za rfl rfl u_0)<|o_p rfl (Zd Zhr rfl rfl u_0)<|o_p rfl (Zf Zkf rfl rfl u_0)<|o_p rfl (Zb1 Tryz.underlying23 rfl rfl u_0)<|o_p rfl (Zci rfl rfl u_0 u_1)<|o_n) (by kernel_rfl) (fun a g hst hb=>?_)
    refine wp_cond_split (hst.bool 2 rfl) (fun hc3=>?_) (fun hc3=>?_)
    ·replace H1:=Zv hc3 H1
     refine wp_skip ?_
     refine Zs ?_
     refine wp_seq ?_
     refine wp_block ?_
     obtain ⟨e4,h5,H1⟩:=Zh H1;obtain ⟨r6,h7,H1⟩:=Zh H1
     refine r_s (L:=[(1,_),(4,_)]) (T:=[⟨[.old 0],_,[],[],[23]⟩,⟨[.op 0 0],_,[],[0],[24]⟩,⟨[.old 1],_,[],[],[25]⟩,⟨[.op 1 0,.op 2 0],_,[],[0,1,2],[26]⟩,⟨[.op 3 0],_,[],Lr 4,[27]⟩,⟨[.op 4 0],_,[],Lr 5,[28]⟩,⟨[.op 5 0],_,[],Lr 6,[5]⟩]) (F:=[.old 0,.old 1,.op 6 0]) (hst.pick [0,1] rfl) hb Zb
      (o_p rfl (Zd Zhr rfl rfl u_0)<|o_p rfl (Zf Zkf rfl rfl u_0)<|o_p rfl (Za rfl rfl u_0)<|o_p rfl (Zbl Tryz.underlying23 Zo0 rfl rfl u_0 u_1 h5)<|o_p rfl (Zf Zh1 rfl rfl u_0)<|o_p rfl (Zo Z66 (Zna _ h7) rfl rfl (.cons u_0 .nil))<|o_p rfl (Zc rfl rfl u_0)<|o_n) (by kernel_rfl) (fun a g hst hb=>?_)
     refine r_s (T:=[⟨[.old 2],_,[],[],[29]⟩,⟨[.op 0 0],_,[],[0],[30]⟩]) (F:=[.old 0,.old 1,.old 2,.op 1 0]) hst hb Zb
      (o_p rfl (Za rfl rfl u_0)<|o_p rfl (Zdk rfl rfl u_0 c_i)<|o_n) (by kernel_rfl) (fun a g hst hb=>?_)
     refine wp_cond_split (hst.bool 3 rfl) (fun hc8=>?_) (fun hc8=>?_)
     ·replace H1:=Zv hc8 H1
      refine r_s (L:=[(4,_),(5,_)]) (T:=[⟨[.old 1],_,[],[],[31]⟩,⟨[.old 0],_,[],[],[32]⟩,⟨[.op 1 0],_,[],[1],[33]⟩,⟨[.op 0 0],_,[],[0],[2]⟩,⟨[.op 2 0],_,[],Lr 4,[3]⟩]) (F:=[.op 3 0,.op 4 0]) (hst.pick [1,2] rfl) hb Zb
       (o_p rfl (Za rfl rfl u_0)<|o_p rfl (Za rfl rfl u_0)<|o_p rfl (Zb7 rfl rfl u_0 c_i rfl)<|o_p rfl (Zc rfl rfl u_0)<|o_p rfl (Zc rfl rfl u_0)<|o_n) (by kernel_rfl) (fun a g hst hb=>?_)
      refine wp_ret ?_
      refine Z6 ?_
      refine Zr ?_
      refine Zr ?_
      refine Z6 ?_
      refine Zr ?_
      refine Zr ?_
      obtain rfl:=Option.some.inj H1
      obtain rfl:=Option.some.inj H0
      exact Zdq rfl hst hb (Zk (s:=2)) (Zk (s:=3)) (Zcw (hst.at 0 rfl) (hst.at 1 rfl))
     ·replace H1:=Zw hc8 H1
      refine wp_skip ?_
      refine Zbe ?_
      refine Zs ?_
      refine r_g (L:=[(1,_),(4,_)]) (T:=[⟨[.old 1],_,[],[],[21]⟩,⟨[.op 0 0],_,[],[0],[22]⟩,⟨[.op 1 0],_,[],[0,1],[4]⟩]) (F:=[.old 0,.op 2 0]) (hst.pick [0,1] rfl) hb Zb
       (o_p rfl (Za rfl rfl u_0)<|o_p rfl (Zb7 rfl rfl u_0 c_i rfl)<|o_p rfl (Zc rfl rfl u_0)<|o_n) (by kernel_rfl) (fun a g hst hb=>?_)
      exact ⟨n,Nat.lt_succ_self _,(IntKind.i64.wrap (x2 + (1:Int))),g,rfl,(hst.pick [0,1] rfl),hb,H1⟩
    ·replace H1:=Zw hc3 H1
     refine wp_exit ?_
     refine Zb3 ?_
     refine Zb3 ?_
     refine Zcn ?_
     exact ⟨g,rfl,(hst.pick [] rfl),hb,Option.some.inj H1⟩
theorem Zpu (a0:Zj) (a1:ByteArray) {r:Ze × Bool} (h:Zg4 a0 a1=some r):FnOk Tryz.prog 65 [(Zbb.pd a0),(pStr a1)] (pTup [(Zi.pd r.1),(Zbg r.2)]):=by
 have H0:=h
 unfold Zg4 at H0
 clear h
 refine Zbu (N:=32) Tryz.func65 rfl rfl (Nat.le_of_ble_eq_true rfl) rfl rfl (fun a g0 hst hb=>?_)
 refine r_s (T:=[⟨[.old 0],_,[],[],[2]⟩,⟨[],[(4,(pBox Zi 4 (default:Ze)))],[5],[],[4]⟩,⟨[],_,[],[],[5]⟩]) (F:=[.old 1,.op 0 0,.op 1 0]) hst hb Zb
  (o_p rfl (Zbq rfl rfl u_0)<|o_p rfl (Zbh (zs:=[.int .i64 0,.int .i64 0,.int .i64 0,.int .i64 0,.float .f64 0,.int .i64 0,.string ByteArray.empty,.slice none 0 0]) (by kernel_rfl) (fun g=>Zb4 g) rfl rfl)<|o_p rfl (Zc rfl rfl c_b)<|o_n) (by kernel_rfl) (fun a g hst hb=>?_)
 obtain ⟨r1,h2,H0⟩:=Zh H0
 refine r_s (T:=[⟨[.old 1],_,[],[],[7]⟩,⟨[.old 0],_,[],[],[8]⟩,⟨[.op 0 0,.op 1 0],_,[],[0,1],[9]⟩,⟨[.op 2 0],_,[],[0,1,2],[6]⟩]) (F:=[.old 0,.old 1,.old 2,.op 3 0]) hst hb Zb
  (o_p rfl (Zf Zcv rfl rfl u_0)<|o_p rfl (Za rfl rfl u_0)<|o_p rfl (Zo Z2y (Zi0 _ _ h2) rfl rfl (.cons u_0 (.cons u_1 .nil)))<|o_p rfl (Zc rfl rfl u_0)<|o_n) (by kernel_rfl) (fun a g hst hb=>?_)
 refine wp_seq ?_
 obtain ⟨e3,h4,H0⟩:=Zh H0
 refine r_s (T:=⟨[.old 3],_,[],[],[10]⟩ :: ⟨[.old 1],_,[],[],[11]⟩ :: ⟨[.op 1 0],_,[],[1],[12]⟩ :: ⟨[.op 2 0],_,[],[1,2],[13]⟩ :: ⟨[.op 0 0,.op 3 0],_,[],Lr 4,[14]⟩ :: ⟨[.op 4 0],_,[],Lr 5,[15]⟩ :: ⟨[.op 5 0,.old 1],_,[],Lr 6,[16]⟩ :: ⟨[.op 5 0,.op 6 0],_,[],Lr 7,[17]⟩ :: ⟨[.op 5 0,.old 3],_,[],Lr 6,[18]⟩ :: ⟨[.op 5 0,.op 7 0,.op 8 0],_,[],Lr 9,[19]⟩ :: ⟨[.op 5 0,.op 9 0],_,[],Lr 10,[20]⟩ :: ⟨[.op 5 0,.op 10 0],_,[],Lr 11,[21]⟩ :: ⟨[.op 5 0,.old 0],_,[],Lr 6,[22]⟩ :: ⟨[.op 5 0,.op 11 0,.op 12 0],_,[],Lr 13,[23]⟩ :: ⟨[.op 5 0,.op 13 0],_,[],Lr 14,[24]⟩ :: []) (F:=[.old 1,.old 2,.old 3,.op 14 0]) hst hb Zb
  (o_p rfl (Za rfl rfl u_0)<|o_p rfl (Zd Zg5 rfl rfl u_0)<|o_p rfl (Zf Zj9 rfl rfl u_0)<|o_p rfl (Zb1 Tryz.underlying22 rfl rfl u_0)<|o_p rfl (Zci rfl rfl u_0 u_1)<|o_p rfl (Za rfl rfl u_0)<|o_g (g_t rfl rfl rfl (fun hG=>Zd Zg5 rfl rfl u_0))<|o_g (g_t rfl rfl rfl (fun hG=>Zf Zj9 rfl rfl (Opd.gd hG u_0)))<|o_g (g_t rfl rfl rfl (fun hG=>Za rfl rfl u_0))<|o_g (g_t rfl rfl rfl (fun hG=>Zbl Tryz.underlying22 Zm7 rfl rfl (Opd.gd hG u_0) (Opd.gd hG u_1) (Zbn h4 hG)))<|o_g (g_t rfl rfl rfl (fun hG=>Zd Zm5 rfl rfl (Opd.gd hG u_0)))<|o_g (g_t rfl rfl rfl (fun hG=>Zf ty_9 rfl rfl (Opd.gd hG u_0)))<|o_g (g_t rfl rfl rfl (fun hG=>Za rfl rfl u_0))<|o_g (g_t rfl rfl rfl (fun hG=>Zla rfl rfl (Opd.gd hG u_0) (Opd.gd hG u_1)))<|o_p rfl (Zbi rfl rfl u_0 (fun hz=>(Opd.gd hz u_1)))<|o_n) (by kernel_rfl) (fun a g hst hb=>?_)
 refine wp_cond_split (hst.bool 3 rfl) (fun hc5=>?_) (fun hc5=>?_)
 ·replace H0:=Zv hc5 H0
  obtain ⟨e6,h7,H0⟩:=Zh H0
  refine r_s (L:=[(2,_),(4,_),(6,_)]) (T:=[⟨[.old 0],_,[],[],[25]⟩,⟨[.op 0 0],_,[],[0],[26]⟩,⟨[.old 2],_,[],[],[27]⟩,⟨[.op 1 0,.op 2 0],_,[],[0,1,2],[28]⟩,⟨[.op 3 0],_,[],Lr 4,[29]⟩,⟨[.op 4 0],_,[],Lr 5,[30]⟩,⟨[.op 5 0,.old 1],_,[5],Lr 6,[4]⟩,⟨[],_,[],Lr 7,[5]⟩]) (F:=[.op 6 0,.op 7 0]) (hst.pick [0,1,2] rfl) hb Zb
   (o_p rfl (Zd Zg5 rfl rfl u_0)<|o_p rfl (Zf Zj9 rfl rfl u_0)<|o_p rfl (Za rfl rfl u_0)<|o_p rfl (Zbl Tryz.underlying22 Zm7 rfl rfl u_0 u_1 h7)<|o_p rfl (Zd Zqh rfl rfl u_0)<|o_p rfl (Zf Zbc rfl rfl u_0)<|o_p rfl (Z2 Zbc rfl rfl u_1 u_0)<|o_p rfl (Zc rfl rfl c_b)<|o_n) (by kernel_rfl) (fun a g hst hb=>?_)
  refine wp_ret ?_
  refine Zr ?_
  obtain rfl:=Option.some.inj H0
  obtain ⟨u0,hu0,hq0⟩:=Zbf (P:=Tryz.prog) Zbc (hst.at 0 rfl)
  exact Zdq rfl hst hb hu0 (Zk (s:=5)) (Zcw hq0 (hst.at 1 rfl))
 ·replace H0:=Zw hc5 H0
  refine wp_skip ?_
  refine Zs ?_
  refine r_s (L:=[(4,_)]) (T:=[⟨[],_,[],[],[31]⟩,⟨[.op 0 0,.old 0],_,[5],[0],[4]⟩,⟨[],_,[],[0,1],[5]⟩]) (F:=[.op 1 0,.op 2 0]) (hst.pick [1] rfl) hb Zb
   (o_p rfl (Znc rfl rfl )<|o_p rfl (Z2 Zbc rfl rfl u_1 u_0)<|o_p rfl (Zc rfl rfl c_b)<|o_n) (by kernel_rfl) (fun a g hst hb=>?_)
  refine wp_ret ?_
  obtain rfl:=Option.some.inj H0
  obtain ⟨u0,hu0,hq0⟩:=Zbf (P:=Tryz.prog) Zbc (hst.at 0 rfl)
  exact Zdq rfl hst hb hu0 (Zk (s:=5)) (Zcw hq0 (hst.at 1 rfl))
theorem Zii (a0:Ze) {r:Ze} (h:Zfd a0=some r):FnOk Tryz.prog 90 [(Zi.pd a0)] (Zi.pd r):=by
 have H0:=h
 unfold Zfd at H0
 clear h
 refine Zbu (N:=9) Tryz.func90 rfl rfl (Nat.le_of_ble_eq_true rfl) rfl rfl (fun a g0 hst hb=>?_)
 refine r_s (T:=[⟨[.old 0],_,[2],[],[1]⟩,⟨[],[(2,(pBox Zi 2 (default:Ze)))],[3],[],[2]⟩]) (F:=[.op 0 0,.op 1 0]) hst hb Zb
  (o_p rfl (Zkm rfl rfl u_0)<|o_p rfl (Zbh (zs:=[.int .i64 0,.int .i64 0,.int .i64 0,.int .i64 0,.float .f64 0,.int .i64 0,.string ByteArray.empty,.slice none 0 0]) (by kernel_rfl) (fun g=>Zb4 g) rfl rfl)<|o_n) (by kernel_rfl) (fun a g hst hb=>?_)
 obtain ⟨h1,H0⟩:=Zfz H0
 refine r_s (T:=[⟨[],_,[4],[],[3]⟩,⟨[.old 0],_,[],[],[4]⟩,⟨[.op 1 0],_,[],[1],[5]⟩,⟨[.op 0 0,.op 2 0],_,[4],[0,1,2],[3,6]⟩,⟨[.old 0],_,[],Lr 4,[7]⟩,⟨[.op 3 0,.op 4 0,.old 0],_,[2],Lr 5,[1,4,7]⟩]) (F:=[.op 5 0,.old 1]) hst hb Zb
  (o_p rfl (Zku 3 Zdl (xs:=[]) .nil (by decide) rfl rfl)<|o_p rfl (Zt Zce (off:=7) (by kernel_rfl) rfl rfl u_0)<|o_p rfl (Zbr Zc7 rfl rfl u_0)<|o_p rfl (Zfr Zdl rfl rfl u_0 u_1 h1)<|o_p rfl (Zt Zce (off:=7) (by kernel_rfl) rfl rfl u_0)<|o_p rfl (Zmz Zc7 rfl rfl u_2 u_1 (Opd.imp u_0 (fun _ _ h=>Zgi h)))<|o_n) (by kernel_rfl) (fun a g hst hb=>?_)
 refine r_s (T:=[⟨[.old 0],_,[],[],[8]⟩,⟨[.op 0 0,.old 1],_,[3],[0],[2]⟩]) (F:=[.op 1 0]) hst hb Zb
  (o_p rfl (Zb0 Zbc rfl rfl u_0)<|o_p rfl (Z2 Zbc rfl rfl u_1 u_0)<|o_n) (by kernel_rfl) (fun a g hst hb=>?_)
 refine wp_ret ?_
 obtain rfl:=Option.some.inj H0
 obtain ⟨u0,hu0,hq0⟩:=Zbf (P:=Tryz.prog) Zbc (hst.at 0 rfl)
 exact Z5 rfl hst hb hu0 hq0
theorem Zr0 (a0:Int) (a1:Int) {r:Bool} (h:Zjc a0 a1=some r):FnOk Tryz.prog 106 [(pInt .i64 a0),(pInt .i64 a1)] (Zbg r):=by
 have H0:=h
 unfold Zjc at H0
 clear h
 refine Zbu (N:=31) Tryz.func106 rfl rfl (Nat.le_of_ble_eq_true rfl) rfl rfl (fun a g0 hst hb=>?_)
 refine r_s (T:=[⟨[],_,[],[],[4]⟩]) (F:=[.old 0,.old 1]) hst hb Zb
  (o_p rfl (Zc rfl rfl c_b)<|o_n) (by kernel_rfl) (fun a g hst hb=>?_)
 refine r_s (T:=[⟨[.old 0],_,[],[],[6]⟩,⟨[.old 1],_,[],[],[7]⟩,⟨[.op 0 0,.op 1 0],_,[],[0,1],[8]⟩,⟨[.op 2 0],_,[],[0,1,2],[5]⟩]) (F:=[.old 0,.old 1,.op 3 0]) hst hb Zb
  (o_p rfl (Za rfl rfl u_0)<|o_p rfl (Za rfl rfl u_0)<|o_p rfl (Zb7 rfl rfl u_0 u_1 rfl)<|o_p rfl (Zc rfl rfl u_0)<|o_n) (by kernel_rfl) (fun a g hst hb=>?_)
 refine r_s (T:=⟨[.old 0],_,[],[],[9]⟩ :: ⟨[.op 0 0],_,[],[0],[10]⟩ :: ⟨[.op 1 0],_,[],[0,1],[11]⟩ :: ⟨[.op 2 0,.old 1],_,[],[0,1,2],[12]⟩ :: ⟨[.op 2 0,.op 3 0],_,[],Lr 4,[13]⟩ :: ⟨[.op 2 0,.op 4 0],_,[],Lr 5,[14]⟩ :: ⟨[.op 5 0],_,[],Lr 6,[15]⟩ :: ⟨[.op 6 0,.old 2],_,[],Lr 7,[16]⟩ :: ⟨[.op 6 0,.op 7 0],_,[],Lr 8,[17]⟩ :: ⟨[.op 6 0,.op 8 0],_,[],Lr 9,[18]⟩ :: ⟨[.op 9 0],_,[],Lr 10,[19]⟩ :: ⟨[.op 10 0,.old 0],_,[],Lr 11,[20]⟩ :: ⟨[.op 10 0,.op 11 0],_,[],Lr 12,[21]⟩ :: ⟨[.op 10 0,.op 12 0],_,[],Lr 13,[22]⟩ :: ⟨[.op 13 0,.old 1],_,[],Lr 14,[23]⟩ :: ⟨[.op 13 0,.op 14 0],_,[],Lr 15,[24]⟩ :: ⟨[.op 10 0,.op 13 0,.op 15 0],_,[],Lr 16,[25]⟩ :: ⟨[.op 10 0,.op 16 0],_,[],Lr 17,[26]⟩ :: ⟨[.op 17 0,.old 2],_,[],Lr 18,[27]⟩ :: ⟨[.op 17 0,.op 18 0],_,[],Lr 19,[28]⟩ :: ⟨[.op 10 0,.op 17 0,.op 19 0],_,[],Lr 20,[29]⟩ :: ⟨[.op 10 0,.op 20 0],_,[],Lr 21,[30]⟩ :: ⟨[.op 21 0],_,[],Lr 22,[4]⟩ :: []) (F:=[.op 22 0]) hst hb Zb
  (o_p rfl (Za rfl rfl u_0)<|o_p rfl (Zcu rfl rfl u_0 c_i)<|o_p rfl (Za rfl rfl u_0)<|o_g (g_t rfl rfl rfl (fun hG=>Za rfl rfl u_0))<|o_g (g_t rfl rfl rfl (fun hG=>Zcu rfl rfl (Opd.gd hG u_0) c_i))<|o_p rfl (Zbi rfl rfl u_0 (fun hz=>(Opd.gd hz u_1)))<|o_p rfl (Za rfl rfl u_0)<|o_g (g_t rfl rfl rfl (fun hG=>Za rfl rfl u_0))<|o_g (g_t rfl rfl rfl (fun hG=>Zci rfl rfl (Opd.gd hG u_0) c_i))<|o_p rfl (Zbi rfl rfl u_0 (fun hz=>(Opd.gd hz u_1)))<|o_p rfl (Za rfl rfl u_0)<|o_g (g_f rfl rfl rfl (fun hG=>Za rfl rfl u_0))<|o_g (g_f rfl rfl rfl (fun hG=>Zci rfl rfl (Opd.gd hG u_0) c_i))<|o_g (g_f rfl rfl rfl (fun hG=>Za rfl rfl (Opd.gd hG u_0)))<|o_g (g_ti rfl rfl rfl (fun hG=>Za rfl rfl u_0))<|o_g (g_ti rfl rfl rfl (fun hG=>Zci rfl rfl (Opd.gd hG u_0) c_i))<|o_g (g_f rfl rfl rfl (fun hG=>Zbi rfl rfl (Opd.gd hG u_0) (fun hz=>(Opd.gd (bA hG hz) u_1))))<|o_g (g_f rfl rfl rfl (fun hG=>Za rfl rfl (Opd.gd hG u_0)))<|o_g (g_ti rfl rfl rfl (fun hG=>Za rfl rfl u_0))<|o_g (g_ti rfl rfl rfl (fun hG=>Zmn rfl rfl (Opd.gd hG u_0) c_i))<|o_g (g_f rfl rfl rfl (fun hG=>Zbi rfl rfl (Opd.gd hG u_0) (fun hz=>(Opd.gd (bA hG hz) u_1))))<|o_p rfl (Zbo rfl rfl u_0 (fun hz=>(Opd.gd (bNF hz) u_1)))<|o_p rfl (Zc rfl rfl u_0)<|o_n) (by kernel_rfl) (fun a g hst hb=>?_)
 refine wp_ret ?_
 obtain rfl:=Option.some.inj H0
 exact Z5 rfl hst hb (Zk (s:=4)) (hst.at 0 rfl)
theorem Zsi (a0:Nat) (a1:Nat) {r:Nat} (h:Zj1 a0 a1=some r):FnOk Tryz.prog 107 [(pFlt a0),(pFlt a1)] (pFlt r):=by
 have H0:=h
 unfold Zj1 at H0
 clear h
 refine Zbu (N:=10) Tryz.func107 rfl rfl (Nat.le_of_ble_eq_true rfl) rfl rfl (fun a g0 hst hb=>?_)
 refine r_s (T:=[⟨[],_,[],[],[4]⟩]) (F:=[.old 0,.old 1]) hst hb Zb
  (o_p rfl (Zc rfl rfl c_f)<|o_n) (by kernel_rfl) (fun a g hst hb=>?_)
 refine wp_seq ?_
 obtain ⟨r1,h2,H0⟩:=Zh H0
 refine r_s (T:=[⟨[.old 0],_,[],[],[5]⟩,⟨[.old 1],_,[],[],[6]⟩,⟨[.op 0 0,.op 1 0],_,[],[0,1],[7]⟩]) (F:=[.old 0,.old 1,.op 2 0]) hst hb Zb
  (o_p rfl (Za rfl rfl u_0)<|o_p rfl (Za rfl rfl u_0)<|o_p rfl (Zo Zv1 (Zhn _ _ h2) rfl rfl (.cons u_0 (.cons u_1 .nil)))<|o_n) (by kernel_rfl) (fun a g hst hb=>?_)
 refine wp_cond_split (hst.bool 2 rfl) (fun hc3=>?_) (fun hc3=>?_)
 ·replace H0:=Zv hc3 H0
  refine r_s (L:=[(1,_)]) (T:=[⟨[.old 0],_,[],[],[8]⟩,⟨[.op 0 0],_,[],[0],[4]⟩]) (F:=[.op 1 0]) (hst.pick [1] rfl) hb Zb
   (o_p rfl (Za rfl rfl u_0)<|o_p rfl (Zc rfl rfl u_0)<|o_n) (by kernel_rfl) (fun a g hst hb=>?_)
  refine wp_ret ?_
  refine Zr ?_
  obtain rfl:=Option.some.inj H0
  exact Z5 rfl hst hb (Zk (s:=4)) (hst.at 0 rfl)
 ·replace H0:=Zw hc3 H0
  refine wp_skip ?_
  refine Zs ?_
  refine r_s (L:=[(0,_)]) (T:=[⟨[.old 0],_,[],[],[9]⟩,⟨[.op 0 0],_,[],[0],[4]⟩]) (F:=[.op 1 0]) (hst.pick [0] rfl) hb Zb
   (o_p rfl (Za rfl rfl u_0)<|o_p rfl (Zc rfl rfl u_0)<|o_n) (by kernel_rfl) (fun a g hst hb=>?_)
  refine wp_ret ?_
  obtain rfl:=Option.some.inj H0
  exact Z5 rfl hst hb (Zk (s:=4)) (hst.at 0 rfl)
theorem Zsm (a0:Nat) (a1:Nat) {r:Nat} (h:Zj8 a0 a1=some r):FnOk Tryz.prog 108 [(pFlt a0),(pFlt a1)] (pFlt r):=by
 have H0:=h
 unfold Zj8 at H0
 clear h
 refine Zbu (N:=10) Tryz.func108 rfl rfl (Nat.le_of_ble_eq_true rfl) rfl rfl (fun a g0 hst hb=>?_)
 refine r_s (T:=[⟨[],_,[],[],[4]⟩]) (F:=[.old 0,.old 1]) hst hb Zb
  (o_p rfl (Zc rfl rfl c_f)<|o_n) (by kernel_rfl) (fun a g hst hb=>?_)
 refine wp_seq ?_
 obtain ⟨r1,h2,H0⟩:=Zh H0
 refine r_s (T:=[⟨[.old 1],_,[],[],[5]⟩,⟨[.old 0],_,[],[],[6]⟩,⟨[.op 0 0,.op 1 0],_,[],[0,1],[7]⟩]) (F:=[.old 0,.old 1,.op 2 0]) hst hb Zb
  (o_p rfl (Za rfl rfl u_0)<|o_p rfl (Za rfl rfl u_0)<|o_p rfl (Zo Zv1 (Zhn _ _ h2) rfl rfl (.cons u_0 (.cons u_1 .nil)))<|o_n) (by kernel_rfl) (fun a g hst hb=>?_)
 refine wp_cond_split (hst.bool 2 rfl) (fun hc3=>?_) (fun hc3=>?_)
 ·replace H0:=Zv hc3 H0
  refine r_s (L:=[(1,_)]) (T:=[⟨[.old 0],_,[],[],[8]⟩,⟨[.op 0 0],_,[],[0],[4]⟩]) (F:=[.op 1 0]) (hst.pick [1] rfl) hb Zb
   (o_p rfl (Za rfl rfl u_0)<|o_p rfl (Zc rfl rfl u_0)<|o_n) (by kernel_rfl) (fun a g hst hb=>?_)
  refine wp_ret ?_
  refine Zr ?_
  obtain rfl:=Option.some.inj H0
  exact Z5 rfl hst hb (Zk (s:=4)) (hst.at 0 rfl)
 ·replace H0:=Zw hc3 H0
  refine wp_skip ?_
  refine Zs ?_
  refine r_s (L:=[(0,_)]) (T:=[⟨[.old 0],_,[],[],[9]⟩,⟨[.op 0 0],_,[],[0],[4]⟩]) (F:=[.op 1 0]) (hst.pick [0] rfl) hb Zb
   (o_p rfl (Za rfl rfl u_0)<|o_p rfl (Zc rfl rfl u_0)<|o_n) (by kernel_rfl) (fun a g hst hb=>?_)
  refine wp_ret ?_
  obtain rfl:=Option.some.inj H0
  exact Z5 rfl hst hb (Zk (s:=4)) (hst.at 0 rfl)
theorem Zmv (a0:Int) {r:Nat} (h:Zfe a0=some r):FnOk Tryz.prog 109 [(pInt .u64 a0)] (pFlt r):=by
 have H0:=h
 unfold Zfe at H0
 clear h
 refine Zbu (N:=18) Tryz.func109 rfl rfl (Nat.le_of_ble_eq_true rfl) rfl rfl (fun a g0 hst hb=>?_)
 refine r_s (T:=[⟨[],_,[],[],[2]⟩]) (F:=[.old 0]) hst hb Zb
  (o_p rfl (Zc rfl rfl c_f)<|o_n) (by kernel_rfl) (fun a g hst hb=>?_)
 refine r_s (T:=[⟨[],_,[],[],[3]⟩]) (F:=[.old 0,.op 0 0]) hst hb Zb
  (o_p rfl (Zc rfl rfl c_i)<|o_n) (by kernel_rfl) (fun a g hst hb=>?_)
 refine wp_seq ?_
 refine r_s (T:=[⟨[.old 0],_,[],[],[4]⟩,⟨[.old 1],_,[],[],[5]⟩,⟨[.op 0 0,.op 1 0],_,[],[0,1],[6]⟩]) (F:=[.old 0,.old 1,.op 2 0]) hst hb Zb
  (o_p rfl (Za rfl rfl u_0)<|o_p rfl (Za rfl rfl u_0)<|o_p rfl (Zmn rfl rfl u_0 u_1)<|o_n) (by kernel_rfl) (fun a g hst hb=>?_)
 refine wp_cond_split (hst.bool 2 rfl) (fun hc1=>?_) (fun hc1=>?_)
 ·replace H0:=Zv hc1 H0
  refine r_s (L:=[(0,_),(3,_)]) (T:=[⟨[.old 0],_,[],[],[7]⟩,⟨[.old 1],_,[],[],[8]⟩,⟨[.op 0 0,.op 1 0],_,[],[0,1],[9]⟩,⟨[.op 2 0],_,[],[0,1,2],[10]⟩,⟨[.op 3 0],_,[],Lr 4,[2]⟩]) (F:=[.op 4 0]) (hst.pick [0,1] rfl) hb Zb
   (o_p rfl (Za rfl rfl u_0)<|o_p rfl (Za rfl rfl u_0)<|o_p rfl (Zg7 rfl rfl u_0 u_1 rfl)<|o_p rfl (Zqe Zz9 rfl rfl u_0)<|o_p rfl (Zc rfl rfl u_0)<|o_n) (by kernel_rfl) (fun a g hst hb=>?_)
  refine wp_ret ?_
  refine Zr ?_
  obtain rfl:=Option.some.inj H0
  exact Z5 rfl hst hb (Zk (s:=2)) (hst.at 0 rfl)
 ·replace H0:=Zw hc1 H0
  refine wp_skip ?_
  refine Zs ?_
  refine r_s (L:=[(0,_),(3,_)]) (T:=[⟨[.old 1],_,[],[],[11]⟩,⟨[.old 1],_,[],[],[12]⟩,⟨[.op 1 0],_,[],[1],[13]⟩,⟨[.old 0],_,[],[],[14]⟩,⟨[.op 2 0,.op 3 0],_,[],[1,2,3],[15]⟩,⟨[.op 0 0,.op 4 0],_,[],Lr 5,[16]⟩,⟨[.op 5 0],_,[],Lr 6,[17]⟩,⟨[.op 6 0],_,[],Lr 7,[2]⟩]) (F:=[.op 7 0]) (hst.pick [0,1] rfl) hb Zb
   (o_p rfl (Za rfl rfl u_0)<|o_p rfl (Za rfl rfl u_0)<|o_p rfl (Zg7 rfl rfl u_0 c_i rfl)<|o_p rfl (Za rfl rfl u_0)<|o_p rfl (Zg7 rfl rfl u_0 u_1 rfl)<|o_p rfl (Zb7 rfl rfl u_0 u_1 rfl)<|o_p rfl (Zqe Zz9 rfl rfl u_0)<|o_p rfl (Zc rfl rfl u_0)<|o_n) (by kernel_rfl) (fun a g hst hb=>?_)
  refine wp_ret ?_
  obtain rfl:=Option.some.inj H0
  exact Z5 rfl hst hb (Zk (s:=2)) (hst.at 0 rfl)
theorem Zm6 (a0:Nat) {r:Int} (h:Zfu a0=some r):FnOk Tryz.prog 110 [(pFlt a0)] (pInt .u64 r):=by
 have H0:=h
 unfold Zfu at H0
 clear h
 refine Zbu (N:=23) Tryz.func110 rfl rfl (Nat.le_of_ble_eq_true rfl) rfl rfl (fun a g0 hst hb=>?_)
 refine r_s (T:=[⟨[],_,[],[],[2]⟩]) (F:=[.old 0]) hst hb Zb
  (o_p rfl (Zc rfl rfl c_i)<|o_n) (by kernel_rfl) (fun a g hst hb=>?_)
 refine r_s (T:=[⟨[],_,[],[],[3]⟩]) (F:=[.old 0,.op 0 0]) hst hb Zb
  (o_p rfl (Zc rfl rfl c_i)<|o_n) (by kernel_rfl) (fun a g hst hb=>?_)
 refine wp_seq ?_
 obtain ⟨r1,h2,H0⟩:=Zh H0
 refine r_s (T:=[⟨[.old 0],_,[],[],[5]⟩,⟨[.op 0 0],_,[],[0],[6]⟩]) (F:=[.old 0,.old 1,.op 1 0]) hst hb Zb
  (o_p rfl (Za rfl rfl u_0)<|o_p rfl (Zo Zyu (Zjl _ h2) rfl rfl (.cons u_0 .nil))<|o_n) (by kernel_rfl) (fun a g hst hb=>?_)
 refine wp_cond_split (hst.bool 2 rfl) (fun hc3=>?_) (fun hc3=>?_)
 ·replace H0:=Zv hc3 H0
  refine r_s (L:=[(3,_)]) (T:=[⟨[.old 0],_,[],[],[7]⟩,⟨[.op 0 0],_,[],[0],[8]⟩,⟨[.op 1 0],_,[],[0,1],[2]⟩]) (F:=[.op 2 0]) (hst.pick [1] rfl) hb Zb
   (o_p rfl (Za rfl rfl u_0)<|o_p rfl (Zb7 rfl rfl u_0 c_i rfl)<|o_p rfl (Zc rfl rfl u_0)<|o_n) (by kernel_rfl) (fun a g hst hb=>?_)
  refine wp_ret ?_
  refine Zr ?_
  obtain rfl:=Option.some.inj H0
  exact Z5 rfl hst hb (Zk (s:=2)) (hst.at 0 rfl)
 ·replace H0:=Zw hc3 H0
  refine wp_skip ?_
  refine Zs ?_
  refine r_s (L:=[(0,_),(3,_)]) (T:=[⟨[.old 0],_,[],[],[9]⟩,⟨[.op 0 0],_,[],[0],[10]⟩,⟨[.op 1 0],_,[],[0,1],[4]⟩]) (F:=[.old 1,.op 2 0]) (hst.pick [0,1] rfl) hb Zb
   (o_p rfl (Za rfl rfl u_0)<|o_p rfl (Zqi Zvg rfl rfl u_0)<|o_p rfl (Zc rfl rfl u_0)<|o_n) (by kernel_rfl) (fun a g hst hb=>?_)
  refine wp_seq ?_
  refine r_s (T:=[⟨[.old 1],_,[],[],[11]⟩,⟨[.old 0],_,[],[],[12]⟩,⟨[.op 0 0,.op 1 0],_,[],[0,1],[13]⟩]) (F:=[.old 0,.old 1,.op 2 0]) hst hb Zb
   (o_p rfl (Za rfl rfl u_0)<|o_p rfl (Za rfl rfl u_0)<|o_p rfl (Zmn rfl rfl u_0 u_1)<|o_n) (by kernel_rfl) (fun a g hst hb=>?_)
  refine wp_cond_split (hst.bool 2 rfl) (fun hc4=>?_) (fun hc4=>?_)
  ·replace H0:=Zv hc4 H0
   refine r_s (L:=[(3,_),(4,_)]) (T:=[⟨[.old 0],_,[],[],[14]⟩,⟨[.op 0 0],_,[],[0],[15]⟩,⟨[.old 1],_,[],[],[16]⟩,⟨[.old 0],_,[],[],[17]⟩,⟨[.op 2 0,.op 3 0],_,[],[2,3],[18]⟩,⟨[.op 1 0,.op 4 0],_,[],Lr 5,[19]⟩,⟨[.op 5 0],_,[],Lr 6,[2]⟩]) (F:=[.op 6 0]) (hst.pick [0,1] rfl) hb Zb
    (o_p rfl (Za rfl rfl u_0)<|o_p rfl (Zg7 rfl rfl u_0 c_i rfl)<|o_p rfl (Za rfl rfl u_0)<|o_p rfl (Za rfl rfl u_0)<|o_p rfl (Zg7 rfl rfl u_0 u_1 rfl)<|o_p rfl (Zg7 rfl rfl u_0 u_1 rfl)<|o_p rfl (Zc rfl rfl u_0)<|o_n) (by kernel_rfl) (fun a g hst hb=>?_)
   refine wp_ret ?_
   refine Zr ?_
   obtain rfl:=Option.some.inj H0
   exact Z5 rfl hst hb (Zk (s:=2)) (hst.at 0 rfl)
  ·replace H0:=Zw hc4 H0
   refine wp_skip ?_
   refine Zs ?_
   refine r_s (L:=[(3,_),(4,_)]) (T:=[⟨[.old 0],_,[],[],[20]⟩,⟨[.old 1],_,[],[],[21]⟩,⟨[.op 0 0,.op 1 0],_,[],[0,1],[22]⟩,⟨[.op 2 0],_,[],[0,1,2],[2]⟩]) (F:=[.op 3 0]) (hst.pick [0,1] rfl) hb Zb
    (o_p rfl (Za rfl rfl u_0)<|o_p rfl (Za rfl rfl u_0)<|o_p rfl (Zb7 rfl rfl u_0 u_1 rfl)<|o_p rfl (Zc rfl rfl u_0)<|o_n) (by kernel_rfl) (fun a g hst hb=>?_)
   refine wp_ret ?_
   obtain rfl:=Option.some.inj H0
   exact Z5 rfl hst hb (Zk (s:=2)) (hst.at 0 rfl)
theorem Zof (a0:List Zl) (a1:ByteArray) {r:Bool} (h:Zgg a0 a1=some r):FnOk Tryz.prog 111 [(Zz.sl.pd a0),(pStr a1)] (Zbg r):=by
 have H0:=h
 unfold Zgg at H0
 clear h
 refine Zbu (N:=19) Tryz.func111 rfl rfl (Nat.le_of_ble_eq_true rfl) rfl rfl (fun a g0 hst hb=>?_)
 refine r_s (T:=[⟨[],_,[],[],[4]⟩]) (F:=[.old 0,.old 1]) hst hb Zb
  (o_p rfl (Zc rfl rfl c_b)<|o_n) (by kernel_rfl) (fun a g hst hb=>?_)
 refine wp_seq ?_
 refine r_s (T:=[⟨[],_,[],[],[5]⟩]) (F:=[.old 0,.old 1,.op 0 0]) hst hb Zb
  (o_p rfl (Zc rfl rfl c_i)<|o_n) (by kernel_rfl) (fun a g hst hb=>?_)
 obtain ⟨z6,hz1,H0⟩:=Zh H0
 refine Zca (fun a w=>∃ (g:G),w=g.w ∧ St 19 [] a g ∧ Base g0 g ∧ (.inr ())=z6) ?_ ?_
 ·rintro a w ⟨g,rfl,hst,hb,rfl⟩
  refine Zs ?_
  refine r_s (T:=[⟨[],_,[],[],[4]⟩]) (F:=[.op 0 0]) hst hb Zb
   (o_p rfl (Zc rfl rfl c_b)<|o_n) (by kernel_rfl) (fun a g hst hb=>?_)
  refine wp_ret ?_
  obtain rfl:=Option.some.inj H0
  exact Z5 rfl hst hb (Zk (s:=4)) (hst.at 0 rfl)
 ·refine wp_block ?_
  refine wp_loop_ghost (fun n a w=>∃ (x1:Int) (g:G),w=g.w ∧ St 19 [(0,(Zz.sl.pd a0)),(1,(pStr a1)),(5,(pInt .i64 x1))] a g ∧ Base g0 g ∧ Zff a0 a1 n x1=some z6) (Int.toNat ((a0.length:Int) - (0:Int)) + 1) ⟨(0:Int),g,rfl,(hst.pick [0,1,2] rfl),hb,hz1⟩ (fun n a w hI=>?_)
  obtain ⟨x1,g,rfl,hst,hb,H1⟩:=hI
  cases n with
  | zero=>exact absurd H1 (by simp [Zff])
  | succ n =>
   rw [Zff] at H1
   refine wp_seq ?_
   refine r_s (T:=[⟨[.old 2],_,[],[],[6]⟩,⟨[.old 0],_,[],[],[7]⟩,⟨[.op 1 0],_,[],[1],[8]⟩,⟨[.op 0 0,.op 2 0],_,[],[0,1,2],[9]⟩]) (F:=[.old 0,.old 1,.old 2,.op 3 0]) hst hb Zb
    (o_p rfl (Za rfl rfl u_0)<|o_p rfl (Za rfl rfl u_0)<|o_p rfl (Zb1 Tryz.underlying36 rfl rfl u_0)<|o_p rfl (Zci rfl rfl u_0 u_1)<|o_n) (by kernel_rfl) (fun a g hst hb=>?_)
   refine wp_cond_split (hst.bool 3 rfl) (fun hc2=>?_) (fun hc2=>?_)
   ·replace H1:=Zv hc2 H1
    refine wp_skip ?_
    refine Zs ?_
    refine wp_seq ?_
    refine wp_block ?_
    obtain ⟨e3,h4,H1⟩:=Zh H1
    refine r_s (L:=[(0,_),(1,_),(5,_)]) (T:=[⟨[.old 0],_,[],[],[12]⟩,⟨[.old 2],_,[],[],[13]⟩,⟨[.op 0 0,.op 1 0],_,[],[0,1],[14]⟩,⟨[.op 2 0],_,[],[0,1,2],[15]⟩,⟨[.op 3 0],_,[],Lr 4,[16]⟩,⟨[.old 1],_,[],[],[17]⟩,⟨[.op 4 0,.op 5 0],_,[],Lr 6,[18]⟩]) (F:=[.old 0,.old 1,.old 2,.op 6 0]) (hst.pick [0,1,2] rfl) hb Zb
     (o_p rfl (Za rfl rfl u_0)<|o_p rfl (Za rfl rfl u_0)<|o_p rfl (Zbl Tryz.underlying36 Ze4 rfl rfl u_0 u_1 h4)<|o_p rfl (Zd Zd4 rfl rfl u_0)<|o_p rfl (Zf ty_9 rfl rfl u_0)<|o_p rfl (Za rfl rfl u_0)<|o_p rfl (Zla rfl rfl u_0 u_1)<|o_n) (by kernel_rfl) (fun a g hst hb=>?_)
    refine wp_cond_split (hst.bool 3 rfl) (fun hc5=>?_) (fun hc5=>?_)
    ·replace H1:=Zv hc5 H1
     refine r_s (L:=[]) (T:=[⟨[],_,[],[],[4]⟩]) (F:=[.op 0 0]) (hst.pick [] rfl) hb Zb
      (o_p rfl (Zc rfl rfl c_b)<|o_n) (by kernel_rfl) (fun a g hst hb=>?_)
     refine wp_ret ?_
     refine Z6 ?_
     refine Zr ?_
     refine Zr ?_
     refine Z6 ?_
     refine Zr ?_
     refine Zr ?_
     obtain rfl:=Option.some.inj H1
     obtain rfl:=Option.some.inj H0
     exact Z5 rfl hst hb (Zk (s:=4)) (hst.at 0 rfl)
    ·replace H1:=Zw hc5 H1
     refine wp_skip ?_
     refine Zbe ?_
     refine Zs ?_
     refine r_g (L:=[(0,_),(1,_),(5,_)]) (T:=[⟨[.old 2],_,[],[],[10]⟩,⟨[.op 0 0],_,[],[0],[11]⟩,⟨[.op 1 0],_,[],[0,1],[5]⟩]) (F:=[.old 0,.old 1,.op 2 0]) (hst.pick [0,1,2] rfl) hb Zb
      (o_p rfl (Za rfl rfl u_0)<|o_p rfl (Zb7 rfl rfl u_0 c_i rfl)<|o_p rfl (Zc rfl rfl u_0)<|o_n) (by kernel_rfl) (fun a g hst hb=>?_)
     exact ⟨n,Nat.lt_succ_self _,(IntKind.i64.wrap (x1 + (1:Int))),g,rfl,(hst.pick [0,1,2] rfl),hb,H1⟩
   ·replace H1:=Zw hc2 H1
    refine wp_exit ?_
    refine Zb3 ?_
    refine Zb3 ?_
    refine Zcn ?_
    exact ⟨g,rfl,(hst.pick [] rfl),hb,Option.some.inj H1⟩
theorem Znp (a0:List Zl) (a1:Zl) (a2:Bool) {r:List Zl} (h:Zf3 a0 a1 a2=some r):FnOk Tryz.prog 112 [(Zz.sl.pd a0),(Zz.pd a1),(Zbg a2)] (Zz.sl.pd r):=by
 have H0:=h
 unfold Zf3 at H0
 clear h
 refine Zbu (N:=89) Tryz.func112 rfl rfl (Nat.le_of_ble_eq_true rfl) rfl rfl (fun a g0 hst hb=>?_)
 refine r_s (T:=[⟨[.old 1],_,[],[],[4]⟩,⟨[],[(6,(Zz.sl.pd ([]:List Zl)))],[],[],[6]⟩]) (F:=[.old 0,.old 2,.op 0 0]) hst hb Zb
  (o_p rfl (Zbq rfl rfl u_0)<|o_p rfl (Zc rfl rfl (Opd.c (fun g=>Zgv g)))<|o_n) (by kernel_rfl) (fun a g hst hb=>?_)
 refine r_s (T:=[⟨[],_,[13],[],[12]⟩,⟨[.op 0 0],_,[],[0],[7]⟩,⟨[],_,[],[0,1],[8]⟩]) (F:=[.old 0,.old 1,.old 2,.op 1 0,.op 2 0]) hst hb Zb
  (o_p rfl (Zku 12 Zdl (xs:=[]) .nil (by decide) rfl rfl)<|o_p rfl (Zc rfl rfl u_0)<|o_p rfl (Zc rfl rfl c_b)<|o_n) (by kernel_rfl) (fun a g hst hb=>?_)
 refine wp_seq ?_
 refine r_s (T:=[⟨[],_,[],[],[9]⟩]) (F:=[.old 0,.old 1,.old 2,.old 3,.old 4,.op 0 0]) hst hb Zb
  (o_p rfl (Zc rfl rfl c_i)<|o_n) (by kernel_rfl) (fun a g hst hb=>?_)
 obtain ⟨z27,hz1,H0⟩:=Zh H0
 refine Zca (fun a w=>∃ (y25:List Zl) (y26:Bool) (g:G),w=g.w ∧ St 89 [(4,(Zz.ptr a1)),(7,(pRow Zz 116 12 y25)),(8,(Zbg y26))] a g ∧ Base g0 g ∧ (y25,y26)=z27) ?_ ?_
 ·rintro a w ⟨y25,y26,g,rfl,hst,hb,rfl⟩
  refine Zs ?_
  refine wp_seq ?_
  refine r_s (T:=[⟨[.old 2],_,[],[],[82]⟩,⟨[.op 0 0],_,[],[0],[83]⟩]) (F:=[.old 0,.old 1,.op 1 0]) hst hb Zb
   (o_p rfl (Za rfl rfl u_0)<|o_p rfl (Zb2 rfl rfl u_0)<|o_n) (by kernel_rfl) (fun a g hst hb=>?_)
  refine Zca (fun a w=>∃ (j30:List Zl) (g:G),w=g.w ∧ St 89 [(7,(pRow Zz 116 12 j30))] a g ∧ Base g0 g ∧ Zgm j30=some r) ?_ ?_
  ·rintro a w ⟨j30,g,rfl,hst,hb,H0⟩
   unfold Zgm at H0
   refine Zs ?_
   refine r_s (T:=[⟨[.old 0],_,[],[],[88]⟩,⟨[.op 0 0],_,[],[0],[6]⟩]) (F:=[.op 1 0]) hst hb Zb
    (o_p rfl (Za rfl rfl u_0)<|o_p rfl (Zc rfl rfl u_0)<|o_n) (by kernel_rfl) (fun a g hst hb=>?_)
   refine wp_ret ?_
   obtain rfl:=Option.some.inj H0
   exact Z5 rfl hst hb (Zk (s:=6)) (Zgi (hst.at 0 rfl))
  ·refine wp_cond_split (hst.bool 2 rfl) (fun hc28=>?_) (fun hc28=>?_)
   ·replace H0:=Zv hc28 H0
    obtain ⟨h29,H0⟩:=Zfz H0
    refine r_g (L:=[(4,_),(7,_)]) (T:=[⟨[.old 1],_,[],[],[84]⟩,⟨[.old 0],_,[],[],[85]⟩,⟨[.op 1 0],_,[],[1],[86]⟩,⟨[.op 0 0,.op 2 0],_,[13],[0,1,2],[7,84,87]⟩,⟨[.op 3 0],_,[],Lr 4,[7]⟩]) (F:=[.op 4 0]) (hst.pick [0,1] rfl) hb Zb
     (o_p rfl (Za rfl rfl u_0)<|o_p rfl (Zf Zea rfl rfl u_0)<|o_p rfl (Ziw Zdl (xs:=[.tmp 85]) (.cons u_0 .nil) (by decide) rfl rfl)<|o_p rfl (Zfr Zdl rfl rfl u_0 u_1 h29)<|o_p rfl (Zc rfl rfl u_0)<|o_n) (by kernel_rfl) (fun a g hst hb=>?_)
    exact ⟨(y25 ++ ([a1]:List Zl)),g,rfl,(hst.pick [0] rfl),hb,H0⟩
   ·replace H0:=Zw hc28 H0
    refine wp_skip ?_
    exact ⟨y25,g,rfl,(hst.pick [1] rfl),hb,H0⟩
 ·refine wp_block ?_
  refine wp_loop_ghost (fun n a w=>∃ (x1:List Zl) (x2:Bool) (x3:Int) (g:G),w=g.w ∧ St 89 [(0,(Zz.sl.pd a0)),(2,(Zbg a2)),(4,(Zz.ptr a1)),(7,(pRow Zz 116 12 x1)),(8,(Zbg x2)),(9,(pInt .i64 x3))] a g ∧ Base g0 g ∧ Zcr a0 a1 a2 n x1 x2 x3=some z27) (Int.toNat ((a0.length:Int) - (0:Int)) + 1) ⟨([]:List Zl),false,(0:Int),g,rfl,(hst.pick [0,1,2,3,4,5] rfl),hb,hz1⟩ (fun n a w hI=>?_)
  obtain ⟨x1,x2,x3,g,rfl,hst,hb,H1⟩:=hI
  cases n with
  | zero=>exact absurd H1 (by simp [Zcr])
  | succ n =>
   rw [Zcr] at H1
   refine wp_seq ?_
   refine r_s (T:=[⟨[.old 5],_,[],[],[13]⟩,⟨[.old 0],_,[],[],[14]⟩,⟨[.op 1 0],_,[],[1],[15]⟩,⟨[.op 0 0,.op 2 0],_,[],[0,1,2],[16]⟩]) (F:=[.old 0,.old 1,.old 2,.old 3,.old 4,.old 5,.op 3 0]) hst hb Zb
    (o_p rfl (Za rfl rfl u_0)<|o_p rfl (Za rfl rfl u_0)<|o_p rfl (Zb1 Tryz.underlying36 rfl rfl u_0)<|o_p rfl (Zci rfl rfl u_0 u_1)<|o_n) (by kernel_rfl) (fun a g hst hb=>?_)
   refine wp_cond_split (hst.bool 6 rfl) (fun hc4=>?_) (fun hc4=>?_)
   ·replace H1:=Zv hc4 H1
    refine wp_skip ?_
    refine Zs ?_
    refine wp_seq ?_
    refine wp_block ?_
    obtain ⟨e5,h6,H1⟩:=Zh H1;obtain ⟨r7,h8,H1⟩:=Zh H1;obtain ⟨e9,h10,H1⟩:=Zh H1
    refine r_s (L:=[(0,_),(2,_),(4,_),(7,_),(8,_),(9,_)]) (T:=⟨[.old 1],_,[],[],[19]⟩ :: ⟨[.op 0 0],_,[],[0],[20]⟩ :: ⟨[.op 1 0],_,[],[0,1],[21]⟩ :: ⟨[.op 2 0,.old 0],_,[],[0,1,2],[22]⟩ :: ⟨[.op 2 0,.old 5],_,[],[0,1,2],[23]⟩ :: ⟨[.op 2 0,.op 3 0,.op 4 0],_,[],Lr 5,[24]⟩ :: ⟨[.op 2 0,.op 5 0],_,[],Lr 6,[25]⟩ :: ⟨[.op 2 0,.old 2],_,[],[0,1,2],[26]⟩ :: ⟨[.op 2 0,.op 6 0,.op 7 0],_,[],Lr 8,[27]⟩ :: ⟨[.op 2 0,.op 8 0],_,[],Lr 9,[28]⟩ :: ⟨[.op 9 0],_,[],Lr 10,[29]⟩ :: ⟨[.op 10 0,.old 1],_,[],Lr 11,[30]⟩ :: ⟨[.op 10 0,.op 11 0],_,[],Lr 12,[31]⟩ :: ⟨[.op 12 0,.old 0],_,[],Lr 13,[32]⟩ :: ⟨[.op 12 0,.old 5],_,[],Lr 13,[33]⟩ :: ⟨[.op 12 0,.op 13 0,.op 14 0],_,[],Lr 15,[34]⟩ :: ⟨[.op 12 0,.op 15 0],_,[],Lr 16,[35]⟩ :: ⟨[.op 12 0,.op 16 0],_,[],Lr 17,[36]⟩ :: ⟨[.op 12 0,.old 2],_,[],Lr 13,[37]⟩ :: ⟨[.op 12 0,.op 18 0],_,[],0 :: 1 :: 2 :: 3 :: 4 :: 5 :: 6 :: 7 :: 8 :: 9 :: 10 :: 11 :: 12 :: 18 :: [],[38]⟩ :: ⟨[.op 12 0,.op 17 0,.op 19 0],_,[],Lr 20,[39]⟩ :: ⟨[.op 10 0,.op 12 0,.op 20 0],_,[],Lr 21,[40]⟩ :: ⟨[.op 10 0,.op 21 0],_,[],Lr 22,[41]⟩ :: ⟨[.op 22 0],_,[],Lr 23,[10]⟩ :: []) (F:=[.old 0,.old 1,.old 2,.old 3,.old 4,.old 5,.op 23 0]) (hst.pick [0,1,2,3,4,5] rfl) hb Zb
     (o_p rfl (Za rfl rfl u_0)<|o_p rfl (Zb2 rfl rfl u_0)<|o_p rfl (Za rfl rfl u_0)<|o_g (g_t rfl rfl rfl (fun hG=>Za rfl rfl u_0))<|o_g (g_t rfl rfl rfl (fun hG=>Za rfl rfl u_0))<|o_g (g_t rfl rfl rfl (fun hG=>Zbl Tryz.underlying36 Ze4 rfl rfl (Opd.gd hG u_0) (Opd.gd hG u_1) (Zbn h6 hG)))<|o_g (g_t rfl rfl rfl (fun hG=>Zf Zea rfl rfl (Opd.gd hG u_0)))<|o_g (g_t rfl rfl rfl (fun hG=>Zf Zea rfl rfl u_0))<|o_g (g_t rfl rfl rfl (fun hG=>Zo Z32 (Znh _ _ (Zbn h8 hG)) rfl rfl (.cons (Opd.gd hG u_0) (.cons (Opd.gd hG u_1) .nil))))<|o_p rfl (Zbi rfl rfl u_0 (fun hz=>(Opd.gd hz u_1)))<|o_p rfl (Za rfl rfl u_0)<|o_g (g_f rfl rfl rfl (fun hG=>Za rfl rfl u_0))<|o_g (g_f rfl rfl rfl (fun hG=>Za rfl rfl (Opd.gd hG u_0)))<|o_g (g_ti rfl rfl rfl (fun hG=>Za rfl rfl u_0))<|o_g (g_ti rfl rfl rfl (fun hG=>Za rfl rfl u_0))<|o_g (g_ti rfl rfl rfl (fun hG=>Zbl Tryz.underlying36 Ze4 rfl rfl (Opd.gd hG u_0) (Opd.gd hG u_1) (Zbn h10 hG)))<|o_g (g_ti rfl rfl rfl (fun hG=>Zd Zd4 rfl rfl (Opd.gd hG u_0)))<|o_g (g_ti rfl rfl rfl (fun hG=>Zf ty_9 rfl rfl (Opd.gd hG u_0)))<|o_g (g_ti rfl rfl rfl (fun hG=>Zd Zd4 rfl rfl u_0))<|o_g (g_ti rfl rfl rfl (fun hG=>Zf ty_9 rfl rfl (Opd.gd hG u_0)))<|o_g (g_ti rfl rfl rfl (fun hG=>Zm9 rfl rfl (Opd.gd hG u_0) (Opd.gd hG u_1)))<|o_g (g_f rfl rfl rfl (fun hG=>Zbi rfl rfl (Opd.gd hG u_0) (fun hz=>(Opd.gd (bA hG hz) u_1))))<|o_p rfl (Zbo rfl rfl u_0 (fun hz=>(Opd.gd (bNF hz) u_1)))<|o_p rfl (Zc rfl rfl u_0)<|o_n) (by kernel_rfl) (fun a g hst hb=>?_)
    obtain ⟨e11,h12,H1⟩:=Zh H1;obtain ⟨e13,h14,H1⟩:=Zh H1;obtain ⟨r15,h16,H1⟩:=Zh H1
    refine r_s (T:=⟨[.old 0],_,[],[],[42]⟩ :: ⟨[.old 5],_,[],[],[43]⟩ :: ⟨[.op 0 0,.op 1 0],_,[],[0,1],[44]⟩ :: ⟨[.op 2 0],_,[],[0,1,2],[45]⟩ :: ⟨[.op 3 0],_,[],Lr 4,[46]⟩ :: ⟨[.old 2],_,[],[],[47]⟩ :: ⟨[.op 5 0],_,[],[5],[48]⟩ :: ⟨[.op 4 0,.op 6 0],_,[],Lr 7,[49]⟩ :: ⟨[.op 7 0],_,[],Lr 8,[50]⟩ :: ⟨[.op 8 0,.old 1],_,[],Lr 9,[51]⟩ :: ⟨[.op 8 0,.op 9 0],_,[],Lr 10,[52]⟩ :: ⟨[.op 10 0,.old 0],_,[],Lr 11,[53]⟩ :: ⟨[.op 10 0,.old 5],_,[],Lr 11,[54]⟩ :: ⟨[.op 10 0,.op 11 0,.op 12 0],_,[],Lr 13,[55]⟩ :: ⟨[.op 10 0,.op 13 0],_,[],Lr 14,[56]⟩ :: ⟨[.op 10 0,.op 14 0],_,[],Lr 15,[57]⟩ :: ⟨[.op 10 0,.old 2],_,[],Lr 11,[58]⟩ :: ⟨[.op 10 0,.op 16 0],_,[],0 :: 1 :: 2 :: 3 :: 4 :: 5 :: 6 :: 7 :: 8 :: 9 :: 10 :: 16 :: [],[59]⟩ :: ⟨[.op 10 0,.op 15 0,.op 17 0],_,[],Lr 18,[60]⟩ :: ⟨[.op 8 0,.op 10 0,.op 18 0],_,[],Lr 19,[61]⟩ :: ⟨[.op 8 0,.op 19 0],_,[],Lr 20,[62]⟩ :: ⟨[.op 20 0],_,[],Lr 21,[11]⟩ :: []) (F:=[.old 0,.old 1,.old 2,.old 3,.old 4,.old 5,.old 6,.op 21 0]) hst hb Zb
     (o_p rfl (Za rfl rfl u_0)<|o_p rfl (Za rfl rfl u_0)<|o_p rfl (Zbl Tryz.underlying36 Ze4 rfl rfl u_0 u_1 h12)<|o_p rfl (Zd Zd4 rfl rfl u_0)<|o_p rfl (Zf ty_9 rfl rfl u_0)<|o_p rfl (Zd Zd4 rfl rfl u_0)<|o_p rfl (Zf ty_9 rfl rfl u_0)<|o_p rfl (Zla rfl rfl u_0 u_1)<|o_p rfl (Za rfl rfl u_0)<|o_g (g_t rfl rfl rfl (fun hG=>Za rfl rfl u_0))<|o_g (g_t rfl rfl rfl (fun hG=>Za rfl rfl (Opd.gd hG u_0)))<|o_g (g_fi rfl rfl rfl (fun hG=>Za rfl rfl u_0))<|o_g (g_fi rfl rfl rfl (fun hG=>Za rfl rfl u_0))<|o_g (g_fi rfl rfl rfl (fun hG=>Zbl Tryz.underlying36 Ze4 rfl rfl (Opd.gd hG u_0) (Opd.gd hG u_1) (Zbn h14 hG)))<|o_g (g_fi rfl rfl rfl (fun hG=>Zd Zfv rfl rfl (Opd.gd hG u_0)))<|o_g (g_fi rfl rfl rfl (fun hG=>Zf Zc3 rfl rfl (Opd.gd hG u_0)))<|o_g (g_fi rfl rfl rfl (fun hG=>Zd Zfv rfl rfl u_0))<|o_g (g_fi rfl rfl rfl (fun hG=>Zf Zc3 rfl rfl (Opd.gd hG u_0)))<|o_g (g_fi rfl rfl rfl (fun hG=>Zo Ztm (Zgl _ _ (Zbn h16 hG)) rfl rfl (.cons (Opd.gd hG u_0) (.cons (Opd.gd hG u_1) .nil))))<|o_g (g_t rfl rfl rfl (fun hG=>Zbo rfl rfl (Opd.gd hG u_0) (fun hz=>(Opd.gd (bA hG (bNF hz)) u_1))))<|o_p rfl (Zbi rfl rfl u_0 (fun hz=>(Opd.gd hz u_1)))<|o_p rfl (Zc rfl rfl u_0)<|o_n) (by kernel_rfl) (fun a g hst hb=>?_)
    refine wp_seq ?_
    refine r_s (T:=[⟨[.old 4],_,[],[],[63]⟩,⟨[.op 0 0],_,[],[0],[64]⟩,⟨[.op 1 0],_,[],[0,1],[65]⟩,⟨[.op 2 0,.old 6],_,[],[0,1,2],[66]⟩,⟨[.op 2 0,.op 3 0],_,[],Lr 4,[67]⟩,⟨[.op 2 0,.op 4 0],_,[],Lr 5,[68]⟩]) (F:=[.old 0,.old 1,.old 2,.old 3,.old 4,.old 5,.old 7,.op 5 0]) hst hb Zb
     (o_p rfl (Za rfl rfl u_0)<|o_p rfl (Zb2 rfl rfl u_0)<|o_p rfl (Za rfl rfl u_0)<|o_g (g_t rfl rfl rfl (fun hG=>Za rfl rfl u_0))<|o_g (g_t rfl rfl rfl (fun hG=>Zb2 rfl rfl (Opd.gd hG u_0)))<|o_p rfl (Zbi rfl rfl u_0 (fun hz=>(Opd.gd hz u_1)))<|o_n) (by kernel_rfl) (fun a g hst hb=>?_)
    refine Zca (fun a w=>∃ (j20:List Zl) (j21:Bool) (g:G),w=g.w ∧ St 89 [(0,(Zz.sl.pd a0)),(2,(Zbg a2)),(4,(Zz.ptr a1)),(7,(pRow Zz 116 12 j20)),(8,(Zbg j21)),(9,(pInt .i64 x3))] a g ∧ Base g0 g ∧ Zd5 a0 x3 (Zcr a0 a1 a2 n) j20 j21=some z27) ?_ ?_
    ·rintro a w ⟨j20,j21,g,rfl,hst,hb,H1⟩
     unfold Zd5 at H1
     refine Zs ?_
     obtain ⟨e22,h23,H1⟩:=Zh H1;obtain ⟨h24,H1⟩:=Zfz H1
     refine r_g (T:=[⟨[.old 3],_,[],[],[75]⟩,⟨[.old 0],_,[],[],[76]⟩,⟨[.old 5],_,[],[],[77]⟩,⟨[.op 1 0,.op 2 0],_,[],[1,2],[78]⟩,⟨[.op 3 0],_,[],[1,2,3],[79]⟩,⟨[.op 4 0],_,[],List.range' 1 4,[80]⟩,⟨[.op 0 0,.op 5 0],_,[13],Lr 6,[7,75,81]⟩,⟨[.op 6 0],_,[],Lr 7,[7]⟩]) (F:=[.old 0,.old 1,.old 2,.op 7 0,.old 4,.old 5]) hst hb Zb
      (o_p rfl (Za rfl rfl u_0)<|o_p rfl (Za rfl rfl u_0)<|o_p rfl (Za rfl rfl u_0)<|o_p rfl (Zbl Tryz.underlying36 Ze4 rfl rfl u_0 u_1 h23)<|o_p rfl (Zf Zea rfl rfl u_0)<|o_p rfl (Ziw Zdl (xs:=[.tmp 79]) (.cons u_0 .nil) (by decide) rfl rfl)<|o_p rfl (Zfr Zdl rfl rfl u_0 u_1 h24)<|o_p rfl (Zc rfl rfl u_0)<|o_n) (by kernel_rfl) (fun a g hst hb=>?_)
     refine Zbe ?_
     refine Zs ?_
     refine r_g (T:=[⟨[.old 5],_,[],[],[17]⟩,⟨[.op 0 0],_,[],[0],[18]⟩,⟨[.op 1 0],_,[],[0,1],[9]⟩]) (F:=[.old 0,.old 1,.old 2,.old 3,.old 4,.op 2 0]) hst hb Zb
      (o_p rfl (Za rfl rfl u_0)<|o_p rfl (Zb7 rfl rfl u_0 c_i rfl)<|o_p rfl (Zc rfl rfl u_0)<|o_n) (by kernel_rfl) (fun a g hst hb=>?_)
     exact ⟨n,Nat.lt_succ_self _,(j20 ++ ([e22]:List Zl)),j21,(IntKind.i64.wrap (x3 + (1:Int))),g,rfl,(hst.pick [0,1,2,3,4,5] rfl),hb,H1⟩
    ·refine wp_cond_split (hst.bool 7 rfl) (fun hc17=>?_) (fun hc17=>?_)
     ·replace H1:=Zv hc17 H1
      refine r_s (L:=[(0,_),(2,_),(4,_),(7,_),(9,_),(11,_)]) (T:=[⟨[],_,[],[],[8]⟩]) (F:=[.old 0,.old 1,.old 2,.old 3,.op 0 0,.old 4,.old 5]) (hst.pick [0,1,2,3,5,6] rfl) hb Zb
       (o_p rfl (Zc rfl rfl c_b)<|o_n) (by kernel_rfl) (fun a g hst hb=>?_)
      refine r_s (T:=[⟨[.old 6],_,[],[],[69]⟩,⟨[.op 0 0],_,[],[0],[70]⟩]) (F:=[.old 0,.old 1,.old 2,.old 3,.old 4,.old 5,.op 1 0]) hst hb Zb
       (o_p rfl (Za rfl rfl u_0)<|o_p rfl (Zb2 rfl rfl u_0)<|o_n) (by kernel_rfl) (fun a g hst hb=>?_)
      refine wp_cond_split (hst.bool 6 rfl) (fun hc18=>?_) (fun hc18=>?_)
      ·replace H1:=Zv hc18 H1
       obtain ⟨h19,H1⟩:=Zfz H1
       refine r_g (L:=[(0,_),(2,_),(4,_),(7,_),(8,_),(9,_)]) (T:=[⟨[.old 3],_,[],[],[71]⟩,⟨[.old 2],_,[],[],[72]⟩,⟨[.op 1 0],_,[],[1],[73]⟩,⟨[.op 0 0,.op 2 0],_,[13],[0,1,2],[7,71,74]⟩,⟨[.op 3 0],_,[],Lr 4,[7]⟩]) (F:=[.old 0,.old 1,.old 2,.op 4 0,.old 4,.old 5]) (hst.pick [0,1,2,3,4,5] rfl) hb Zb
        (o_p rfl (Za rfl rfl u_0)<|o_p rfl (Zf Zea rfl rfl u_0)<|o_p rfl (Ziw Zdl (xs:=[.tmp 72]) (.cons u_0 .nil) (by decide) rfl rfl)<|o_p rfl (Zfr Zdl rfl rfl u_0 u_1 h19)<|o_p rfl (Zc rfl rfl u_0)<|o_n) (by kernel_rfl) (fun a g hst hb=>?_)
       exact ⟨(x1 ++ ([a1]:List Zl)),true,g,rfl,(hst.pick [0,1,2,3,4,5] rfl),hb,H1⟩
      ·replace H1:=Zw hc18 H1
       refine wp_skip ?_
       exact ⟨x1,true,g,rfl,(hst.pick [0,1,2,3,4,5] rfl),hb,H1⟩
     ·replace H1:=Zw hc17 H1
      refine wp_skip ?_
      exact ⟨x1,x2,g,rfl,(hst.pick [0,1,2,3,4,5] rfl),hb,H1⟩
   ·replace H1:=Zw hc4 H1
    refine wp_exit ?_
    refine Zb3 ?_
    refine Zb3 ?_
    refine Zcn ?_
    exact ⟨x1,x2,g,rfl,(hst.pick [2,3,4] rfl),hb,Option.some.inj H1⟩
theorem Ztr (a0:Ze) (a1:Zu) {r:Ze × Zg} (h:Zbz a0 a1=some r):FnOk Tryz.prog 91 [(Zi.pd a0),(Z4.pd a1)] (pTup [(Zi.pd r.1),(Zm.pd r.2)]):=by
 have H0:=h
 unfold Zbz at H0
 clear h
 refine Zbu (N:=217) Tryz.func91 rfl rfl (Nat.le_of_ble_eq_true rfl) rfl rfl (fun a g0 hst hb=>?_)
 refine r_s (T:=[⟨[.old 0],_,[3],[],[2]⟩,⟨[.old 1],_,[],[],[3]⟩,⟨[],[(4,(pBox Zi 4 (default:Ze)))],[5],[],[4]⟩,⟨[],[(5,(pBox Zm 5 (default:Zg)))],[6],[],[5]⟩]) (F:=[.op 0 0,.op 1 0,.op 2 0,.op 3 0]) hst hb Zb
  (o_p rfl (Zkm rfl rfl u_0)<|o_p rfl (Zbq rfl rfl u_0)<|o_p rfl (Zbh (zs:=[.int .i64 0,.int .i64 0,.int .i64 0,.int .i64 0,.float .f64 0,.int .i64 0,.string ByteArray.empty,.slice none 0 0]) (by kernel_rfl) (fun g=>Zb4 g) rfl rfl)<|o_p rfl (Zbh (zs:=[.int .i64 0,.int .i64 0,.int .i64 0,.int .i64 0,.int .i64 0,.int .i64 0,.float .f64 0,.int .i64 0,.string ByteArray.empty,.slice none 0 0]) (by kernel_rfl) (fun g=>Zeb g) rfl rfl)<|o_n) (by kernel_rfl) (fun a g hst hb=>?_)
 refine r_s (T:=[⟨[],_,[],[],[10]⟩,⟨[],[(6,(pBox Zm 6 (default:Zg)))],[7],[],[6]⟩,⟨[.op 0 0,.op 1 0],_,[7],[0,1],[6]⟩]) (F:=[.old 0,.old 1,.old 2,.old 3,.op 2 0]) hst hb Zb
  (o_p rfl (Zqq rfl rfl )<|o_p rfl (Zbh (zs:=[.int .i64 0,.int .i64 0,.int .i64 0,.int .i64 0,.int .i64 0,.int .i64 0,.float .f64 0,.int .i64 0,.string ByteArray.empty,.slice none 0 0]) (by kernel_rfl) (fun g=>Zeb g) rfl rfl)<|o_p rfl (Z2 Zb9 rfl rfl u_1 u_0)<|o_n) (by kernel_rfl) (fun a g hst hb=>?_)
 refine wp_seq ?_
 refine r_s (T:=[⟨[.old 1],_,[],[],[11]⟩,⟨[.op 0 0],_,[],[0],[12]⟩]) (F:=[.old 0,.old 1,.old 2,.old 3,.old 4,.op 1 0]) hst hb Zb
  (o_p rfl (Zd Zdh rfl rfl u_0)<|o_p rfl (Zf ty_3 rfl rfl u_0)<|o_n) (by kernel_rfl) (fun a g hst hb=>?_)
 refine Zca (fun a w=>∃ (j65:Ze) (j66:Zg) (g:G),w=g.w ∧ St 217 [(2,(pBox Zi 2 j65)),(4,(pBox Zi 4 (default:Ze))),(5,(pBox Zm 5 (default:Zg))),(6,(pBox Zm 6 j66))] a g ∧ Base g0 g ∧ Z7 j65 j66=some r) ?_ ?_
 ·rintro a w ⟨j65,j66,g,rfl,hst,hb,H0⟩
  unfold Z7 at H0
  refine Zs ?_
  refine r_s (T:=[⟨[.old 0],_,[],[],[215]⟩,⟨[.old 3],_,[],[],[216]⟩,⟨[.op 0 0,.old 1],_,[5],[0],[4]⟩,⟨[.op 1 0,.old 2],_,[6],[0,1,2],[5]⟩]) (F:=[.op 2 0,.op 3 0]) hst hb Zb
   (o_p rfl (Zb0 Zbc rfl rfl u_0)<|o_p rfl (Zb0 Zb9 rfl rfl u_0)<|o_p rfl (Z2 Zbc rfl rfl u_1 u_0)<|o_p rfl (Z2 Zb9 rfl rfl u_1 u_0)<|o_n) (by kernel_rfl) (fun a g hst hb=>?_)
  refine wp_ret ?_
  obtain rfl:=Option.some.inj H0
  obtain ⟨u0,hu0,hq0⟩:=Zbf (P:=Tryz.prog) Zbc (hst.at 0 rfl)
  obtain ⟨u1,hu1,hq1⟩:=Zbf (P:=Tryz.prog) Zb9 (hst.at 1 rfl)
  exact Zdq rfl hst hb hu0 hu1 (Zcw hq0 hq1)
 ·refine wp_block ?_
  refine r_s (T:=[⟨[.old 5],_,[],[],[14]⟩,⟨[.op 0 0],_,[],[0],[13]⟩]) (F:=[.old 0,.old 1,.old 2,.old 3,.old 4,.old 5,.op 1 0]) hst hb Zb
   (o_p rfl (Zbs rfl rfl u_0 c_i)<|o_p rfl (Zc rfl rfl u_0)<|o_n) (by kernel_rfl) (fun a g hst hb=>?_)
  refine wp_cond_split (hst.bool 6 rfl) (fun hc1=>?_) (fun hc1=>?_)
  ·replace H0:=Zv hc1 H0
   refine r_g (L:=[(2,_),(3,_),(4,_),(5,_),(6,_)]) (T:=[⟨[.old 1],_,[],[],[15]⟩,⟨[.op 0 0],_,[],[0],[16]⟩,⟨[.old 0],_,[],[0,1],[17]⟩,⟨[.op 1 0,.op 2 0,.old 0],_,[3],[0,1,2],[2,17]⟩]) (F:=[.op 3 0,.old 2,.old 3,.old 4]) (hst.pick [0,1,2,3,4] rfl) hb Zb
    (o_p rfl (Zd Zf0 rfl rfl u_0)<|o_p rfl (Zf ty_9 rfl rfl u_0)<|o_p rfl (Zt Zi9 (off:=6) (by kernel_rfl) rfl rfl u_0)<|o_p rfl (Ztf ty_9 rfl rfl u_2 u_1 u_0)<|o_n) (by kernel_rfl) (fun a g hst hb=>?_)
   refine Zbe ?_
   exact ⟨({ a0 with Text:=a1.S }),({ Code:=(0:Int),Num:=(0:Int),Rec:=(default:Ze) }:Zg),g,rfl,(hst.pick [0,1,2,3] rfl),hb,H0⟩
  ·replace H0:=Zw hc1 H0
   refine r_s (L:=[(2,_),(3,_),(4,_),(5,_),(6,_),(12,_)]) (T:=[⟨[.old 5],_,[],[],[19]⟩,⟨[.op 0 0],_,[],[0],[18]⟩]) (F:=[.old 0,.old 1,.old 2,.old 3,.old 4,.old 5,.op 1 0]) (hst.pick [0,1,2,3,4,5] rfl) hb Zb
    (o_p rfl (Zbs rfl rfl u_0 c_i)<|o_p rfl (Zc rfl rfl u_0)<|o_n) (by kernel_rfl) (fun a g hst hb=>?_)
   refine wp_cond_split (hst.bool 6 rfl) (fun hc2=>?_) (fun hc2=>?_)
   ·replace H0:=Zv hc2 H0
    obtain ⟨r3,h4,H0⟩:=Zh H0
    refine r_s (L:=[(2,_),(3,_),(4,_),(5,_),(6,_)]) (T:=[⟨[.old 0],_,[],[],[20]⟩,⟨[.op 0 0],_,[],[0],[21]⟩,⟨[.old 4],_,[],[0,1],[22]⟩,⟨[.op 1 0,.op 2 0,.old 4],_,[7],[0,1,2],[6,22]⟩]) (F:=[.old 0,.old 1,.old 2,.old 3,.op 3 0]) (hst.pick [0,1,2,3,4] rfl) hb Zb
     (o_p rfl (Zb0 Zbc rfl rfl u_0)<|o_p rfl (Zo Zyq (Zii _ h4) rfl rfl (.cons u_0 .nil))<|o_p rfl (Zt Zo9 (off:=2) (by kernel_rfl) rfl rfl u_0)<|o_p rfl (Z12 Zbc rfl rfl u_2 u_1 u_0)<|o_n) (by kernel_rfl) (fun a g hst hb=>?_)
    refine r_g (T:=[⟨[.old 1],_,[],[],[23]⟩,⟨[.op 0 0],_,[],[0],[24]⟩,⟨[.old 0],_,[],[0,1],[25]⟩,⟨[.op 1 0,.op 2 0,.old 0],_,[3],[0,1,2],[2,25]⟩]) (F:=[.op 3 0,.old 2,.old 3,.old 4]) hst hb Zb
     (o_p rfl (Zd Zf0 rfl rfl u_0)<|o_p rfl (Zf ty_9 rfl rfl u_0)<|o_p rfl (Zt Zi9 (off:=6) (by kernel_rfl) rfl rfl u_0)<|o_p rfl (Ztf ty_9 rfl rfl u_2 u_1 u_0)<|o_n) (by kernel_rfl) (fun a g hst hb=>?_)
    refine Zbe ?_
    exact ⟨({ a0 with Text:=a1.S }),({ ({ Code:=(0:Int),Num:=(0:Int),Rec:=(default:Ze) }:Zg) with Rec:=r3 }),g,rfl,(hst.pick [0,1,2,3] rfl),hb,H0⟩
   ·replace H0:=Zw hc2 H0
    refine r_s (L:=[(2,_),(3,_),(4,_),(5,_),(6,_),(12,_)]) (T:=[⟨[.old 5],_,[],[],[27]⟩,⟨[.op 0 0],_,[],[0],[26]⟩]) (F:=[.old 0,.old 1,.old 2,.old 3,.old 4,.old 5,.op 1 0]) (hst.pick [0,1,2,3,4,5] rfl) hb Zb
     (o_p rfl (Zbs rfl rfl u_0 c_i)<|o_p rfl (Zc rfl rfl u_0)<|o_n) (by kernel_rfl) (fun a g hst hb=>?_)
    refine wp_cond_split (hst.bool 6 rfl) (fun hc5=>?_) (fun hc5=>?_)
    ·replace H0:=Zv hc5 H0
     refine r_g (L:=[(2,_),(3,_),(4,_),(5,_),(6,_)]) (T:=[⟨[.old 0],_,[],[],[28]⟩,⟨[.op 0 0],_,[],[0],[29]⟩,⟨[.old 1],_,[],[],[30]⟩,⟨[.op 2 0],_,[],[2],[31]⟩,⟨[.op 1 0,.op 3 0],_,[],Lr 4,[32]⟩,⟨[.old 0],_,[],Lr 5,[33]⟩,⟨[.op 4 0,.op 5 0,.old 0],_,[3],Lr 6,[2,28,33]⟩]) (F:=[.op 6 0,.old 2,.old 3,.old 4]) (hst.pick [0,1,2,3,4] rfl) hb Zb
      (o_p rfl (Zt Zc1 (off:=1) (by kernel_rfl) rfl rfl u_0)<|o_p rfl (Zbr ty_2 rfl rfl u_0)<|o_p rfl (Zd Zed rfl rfl u_0)<|o_p rfl (Zf ty_2 rfl rfl u_0)<|o_p rfl (Zb7 rfl rfl u_0 u_1 rfl)<|o_p rfl (Zt Zc1 (off:=1) (by kernel_rfl) rfl rfl u_0)<|o_p rfl (Zmu ty_2 rfl rfl u_2 u_1 u_0)<|o_n) (by kernel_rfl) (fun a g hst hb=>?_)
     refine Zbe ?_
     exact ⟨({ a0 with Num:=(IntKind.i64.wrap (a0.Num + a1.N)) }),({ Code:=(0:Int),Num:=(0:Int),Rec:=(default:Ze) }:Zg),g,rfl,(hst.pick [0,1,2,3] rfl),hb,H0⟩
    ·replace H0:=Zw hc5 H0
     refine r_s (L:=[(2,_),(3,_),(4,_),(5,_),(6,_),(12,_)]) (T:=[⟨[.old 5],_,[],[],[35]⟩,⟨[.op 0 0],_,[],[0],[34]⟩]) (F:=[.old 0,.old 1,.old 2,.old 3,.old 4,.old 5,.op 1 0]) (hst.pick [0,1,2,3,4,5] rfl) hb Zb
      (o_p rfl (Zbs rfl rfl u_0 c_i)<|o_p rfl (Zc rfl rfl u_0)<|o_n) (by kernel_rfl) (fun a g hst hb=>?_)
     refine wp_cond_split (hst.bool 6 rfl) (fun hc6=>?_) (fun hc6=>?_)
     ·replace H0:=Zv hc6 H0
      obtain ⟨r7,h8,H0⟩:=Zh H0
      refine r_s (L:=[(2,_),(3,_),(4,_),(5,_),(6,_)]) (T:=[⟨[.old 0],_,[],[],[36]⟩,⟨[.op 0 0],_,[],[0],[37]⟩,⟨[.old 1],_,[],[],[38]⟩,⟨[.op 2 0],_,[],[2],[39]⟩,⟨[.op 1 0,.op 3 0],_,[],Lr 4,[40]⟩]) (F:=[.old 0,.old 1,.old 2,.old 3,.old 4,.op 4 0]) (hst.pick [0,1,2,3,4] rfl) hb Zb
       (o_p rfl (Zt Zc1 (off:=1) (by kernel_rfl) rfl rfl u_0)<|o_p rfl (Zbr ty_2 rfl rfl u_0)<|o_p rfl (Zd Zed rfl rfl u_0)<|o_p rfl (Zf ty_2 rfl rfl u_0)<|o_p rfl (Zo Zba1 (Zr0 _ _ h8) rfl rfl (.cons u_0 (.cons u_1 .nil)))<|o_n) (by kernel_rfl) (fun a g hst hb=>?_)
      refine wp_cond_split (hst.bool 5 rfl) (fun hc9=>?_) (fun hc9=>?_)
      ·replace H0:=Zv hc9 H0
       refine r_g (L:=[(2,_),(4,_),(5,_),(6,_)]) (T:=[⟨[.old 3],_,[],[],[41]⟩,⟨[.op 0 0,.old 3],_,[7],[0],[6,41]⟩]) (F:=[.old 0,.old 1,.old 2,.op 1 0]) (hst.pick [0,2,3,4] rfl) hb Zb
        (o_p rfl (Zt Zif (off:=0) (by kernel_rfl) rfl rfl u_0)<|o_p rfl (Zo6 Zj6 rfl rfl u_1 u_0 c_i)<|o_n) (by kernel_rfl) (fun a g hst hb=>?_)
       refine Zbe ?_
       exact ⟨a0,({ ({ Code:=(0:Int),Num:=(0:Int),Rec:=(default:Ze) }:Zg) with Code:=(9:Int) }),g,rfl,(hst.pick [0,1,2,3] rfl),hb,H0⟩
      ·replace H0:=Zw hc9 H0
       refine r_g (L:=[(2,_),(3,_),(4,_),(5,_),(6,_)]) (T:=[⟨[.old 0],_,[],[],[42]⟩,⟨[.op 0 0],_,[],[0],[43]⟩,⟨[.old 1],_,[],[],[44]⟩,⟨[.op 2 0],_,[],[2],[45]⟩,⟨[.op 1 0,.op 3 0],_,[],Lr 4,[46]⟩,⟨[.old 0],_,[],Lr 5,[47]⟩,⟨[.op 4 0,.op 5 0,.old 0],_,[3],Lr 6,[2,42,47]⟩]) (F:=[.op 6 0,.old 2,.old 3,.old 4]) (hst.pick [0,1,2,3,4] rfl) hb Zb
        (o_p rfl (Zt Zc1 (off:=1) (by kernel_rfl) rfl rfl u_0)<|o_p rfl (Zbr ty_2 rfl rfl u_0)<|o_p rfl (Zd Zed rfl rfl u_0)<|o_p rfl (Zf ty_2 rfl rfl u_0)<|o_p rfl (Zb7 rfl rfl u_0 u_1 rfl)<|o_p rfl (Zt Zc1 (off:=1) (by kernel_rfl) rfl rfl u_0)<|o_p rfl (Zmu ty_2 rfl rfl u_2 u_1 u_0)<|o_n) (by kernel_rfl) (fun a g hst hb=>?_)
       refine Zbe ?_
       exact ⟨({ a0 with Num:=(IntKind.i64.wrap (a0.Num + a1.N)) }),({ Code:=(0:Int),Num:=(0:Int),Rec:=(default:Ze) }:Zg),g,rfl,(hst.pick [0,1,2,3] rfl),hb,H0⟩
     ·replace H0:=Zw hc6 H0
      refine wp_seq ?_
      refine r_s (L:=[(2,_),(3,_),(4,_),(5,_),(6,_),(12,_)]) (T:=[⟨[.old 5],_,[],[],[49]⟩,⟨[.op 0 0],_,[],[0],[48]⟩]) (F:=[.old 0,.old 1,.old 2,.old 3,.old 4,.old 5,.op 1 0]) (hst.pick [0,1,2,3,4,5] rfl) hb Zb
       (o_p rfl (Zbs rfl rfl u_0 c_i)<|o_p rfl (Zc rfl rfl u_0)<|o_n) (by kernel_rfl) (fun a g hst hb=>?_)
      refine Zca (fun a w=>∃ (j11:Bool) (g:G),w=g.w ∧ St 217 [(2,(pBox Zi 2 a0)),(3,(Z4.ptr a1)),(4,(pBox Zi 4 (default:Ze))),(5,(pBox Zm 5 (default:Zg))),(6,(pBox Zm 6 ({ Code:=(0:Int),Num:=(0:Int),Rec:=(default:Ze) }:Zg))),(12,(pInt .i64 a1.Kind)),(48,(Zbg j11))] a g ∧ Base g0 g ∧ Zcp a0 a1 j11=some r) ?_ ?_
      ·rintro a w ⟨j11,g,rfl,hst,hb,H0⟩
       unfold Zcp at H0
       refine Zs ?_
       refine wp_cond_split (hst.bool 6 rfl) (fun hc12=>?_) (fun hc12=>?_)
       ·replace H0:=Zv hc12 H0
        refine r_s (L:=[(2,_),(3,_),(4,_),(5,_),(6,_)]) (T:=[⟨[.old 0],_,[],[],[51]⟩,⟨[.op 0 0],_,[],[0],[52]⟩,⟨[.old 1],_,[],[],[53]⟩,⟨[.op 2 0],_,[],[2],[54]⟩,⟨[.op 1 0,.op 3 0],_,[],Lr 4,[55]⟩]) (F:=[.old 0,.old 2,.old 3,.old 4,.op 4 0]) (hst.pick [0,1,2,3,4] rfl) hb Zb
         (o_p rfl (Zt Zc1 (off:=1) (by kernel_rfl) rfl rfl u_0)<|o_p rfl (Zbr ty_2 rfl rfl u_0)<|o_p rfl (Zd Zed rfl rfl u_0)<|o_p rfl (Zf ty_2 rfl rfl u_0)<|o_p rfl (Zci rfl rfl u_0 u_1)<|o_n) (by kernel_rfl) (fun a g hst hb=>?_)
        refine wp_cond_split (hst.bool 4 rfl) (fun hc13=>?_) (fun hc13=>?_)
        ·replace H0:=Zv hc13 H0
         refine r_g (L:=[(2,_),(4,_),(5,_),(6,_)]) (T:=[⟨[.old 3],_,[],[],[56]⟩,⟨[.op 0 0,.old 3],_,[7],[0],[6,56]⟩]) (F:=[.old 0,.old 1,.old 2,.op 1 0]) (hst.pick [0,1,2,3] rfl) hb Zb
          (o_p rfl (Zt Zif (off:=0) (by kernel_rfl) rfl rfl u_0)<|o_p rfl (Zo6 Zj6 rfl rfl u_1 u_0 c_i)<|o_n) (by kernel_rfl) (fun a g hst hb=>?_)
         refine Zbe ?_
         exact ⟨a0,({ ({ Code:=(0:Int),Num:=(0:Int),Rec:=(default:Ze) }:Zg) with Code:=(11:Int) }),g,rfl,(hst.pick [0,1,2,3] rfl),hb,H0⟩
        ·replace H0:=Zw hc13 H0
         refine wp_skip ?_
         refine Zbe ?_
         exact ⟨a0,({ Code:=(0:Int),Num:=(0:Int),Rec:=(default:Ze) }:Zg),g,rfl,(hst.pick [0,1,2,3] rfl),hb,H0⟩
       ·replace H0:=Zw hc12 H0
        refine r_s (L:=[(2,_),(3,_),(4,_),(5,_),(6,_),(12,_)]) (T:=[⟨[.old 5],_,[],[],[58]⟩,⟨[.op 0 0],_,[],[0],[57]⟩]) (F:=[.old 0,.old 1,.old 2,.old 3,.old 4,.old 5,.op 1 0]) (hst.pick [0,1,2,3,4,5] rfl) hb Zb
         (o_p rfl (Zbs rfl rfl u_0 c_i)<|o_p rfl (Zc rfl rfl u_0)<|o_n) (by kernel_rfl) (fun a g hst hb=>?_)
        refine wp_cond_split (hst.bool 6 rfl) (fun hc14=>?_) (fun hc14=>?_)
        ·replace H0:=Zv hc14 H0
         refine r_s (L:=[(2,_),(3,_),(4,_),(5,_),(6,_)]) (T:=[⟨[.old 0],_,[],[],[59]⟩,⟨[.op 0 0],_,[],[0],[60]⟩,⟨[.old 1],_,[],[],[61]⟩,⟨[.op 2 0],_,[],[2],[62]⟩,⟨[.op 1 0,.op 3 0],_,[],Lr 4,[63]⟩,⟨[.old 0],_,[],[],[64]⟩,⟨[.op 5 0],_,[],[5],[65]⟩,⟨[.op 4 0,.op 6 0],_,[],Lr 7,[66]⟩]) (F:=[.old 0,.old 1,.old 2,.old 3,.old 4,.op 7 0]) (hst.pick [0,1,2,3,4] rfl) hb Zb
          (o_p rfl (Zt Zc1 (off:=1) (by kernel_rfl) rfl rfl u_0)<|o_p rfl (Zbr ty_2 rfl rfl u_0)<|o_p rfl (Zd Zed rfl rfl u_0)<|o_p rfl (Zf ty_2 rfl rfl u_0)<|o_p rfl (Zb7 rfl rfl u_0 u_1 rfl)<|o_p rfl (Zt Zjo (off:=3) (by kernel_rfl) rfl rfl u_0)<|o_p rfl (Zbr ty_2 rfl rfl u_0)<|o_p rfl (Zcu rfl rfl u_0 u_1)<|o_n) (by kernel_rfl) (fun a g hst hb=>?_)
         refine wp_cond_split (hst.bool 5 rfl) (fun hc15=>?_) (fun hc15=>?_)
         ·replace H0:=Zv hc15 H0
          refine r_g (L:=[(2,_),(4,_),(5,_),(6,_)]) (T:=[⟨[.old 3],_,[],[],[67]⟩,⟨[.op 0 0,.old 3],_,[7],[0],[6,67]⟩]) (F:=[.old 0,.old 1,.old 2,.op 1 0]) (hst.pick [0,2,3,4] rfl) hb Zb
           (o_p rfl (Zt Zif (off:=0) (by kernel_rfl) rfl rfl u_0)<|o_p rfl (Zo6 Zj6 rfl rfl u_1 u_0 c_i)<|o_n) (by kernel_rfl) (fun a g hst hb=>?_)
          refine Zbe ?_
          exact ⟨a0,({ ({ Code:=(0:Int),Num:=(0:Int),Rec:=(default:Ze) }:Zg) with Code:=(9:Int) }),g,rfl,(hst.pick [0,1,2,3] rfl),hb,H0⟩
         ·replace H0:=Zw hc15 H0
          refine r_g (L:=[(2,_),(3,_),(4,_),(5,_),(6,_)]) (T:=[⟨[.old 0],_,[],[],[68]⟩,⟨[.op 0 0],_,[],[0],[69]⟩,⟨[.old 1],_,[],[],[70]⟩,⟨[.op 2 0],_,[],[2],[71]⟩,⟨[.op 1 0,.op 3 0],_,[],Lr 4,[72]⟩,⟨[.old 0],_,[],Lr 5,[73]⟩,⟨[.op 4 0,.op 5 0,.old 0],_,[3],Lr 6,[2,68,73]⟩]) (F:=[.op 6 0,.old 2,.old 3,.old 4]) (hst.pick [0,1,2,3,4] rfl) hb Zb
           (o_p rfl (Zt Zc1 (off:=1) (by kernel_rfl) rfl rfl u_0)<|o_p rfl (Zbr ty_2 rfl rfl u_0)<|o_p rfl (Zd Zed rfl rfl u_0)<|o_p rfl (Zf ty_2 rfl rfl u_0)<|o_p rfl (Zb7 rfl rfl u_0 u_1 rfl)<|o_p rfl (Zt Zc1 (off:=1) (by kernel_rfl) rfl rfl u_0)<|o_p rfl (Zmu ty_2 rfl rfl u_2 u_1 u_0)<|o_n) (by kernel_rfl) (fun a g hst hb=>?_)
          refine Zbe ?_
          exact ⟨({ a0 with Num:=(IntKind.i64.wrap (a0.Num + a1.N)) }),({ Code:=(0:Int),Num:=(0:Int),Rec:=(default:Ze) }:Zg),g,rfl,(hst.pick [0,1,2,3] rfl),hb,H0⟩
        ·replace H0:=Zw hc14 H0
         refine r_s (L:=[(2,_),(3,_),(4,_),(5,_),(6,_),(12,_)]) (T:=[⟨[.old 5],_,[],[],[75]⟩,⟨[.op 0 0],_,[],[0],[74]⟩]) (F:=[.old 0,.old 1,.old 2,.old 3,.old 4,.old 5,.op 1 0]) (hst.pick [0,1,2,3,4,5] rfl) hb Zb
          (o_p rfl (Zbs rfl rfl u_0 c_i)<|o_p rfl (Zc rfl rfl u_0)<|o_n) (by kernel_rfl) (fun a g hst hb=>?_)
         refine wp_cond_split (hst.bool 6 rfl) (fun hc16=>?_) (fun hc16=>?_)
         ·replace H0:=Zv hc16 H0
          refine r_s (L:=[(2,_),(3,_),(4,_),(5,_),(6,_)]) (T:=[⟨[.old 0],_,[],[],[76]⟩,⟨[.op 0 0],_,[],[0],[77]⟩,⟨[.old 1],_,[],[],[78]⟩,⟨[.op 2 0],_,[],[2],[79]⟩,⟨[.op 1 0,.op 3 0],_,[],Lr 4,[80]⟩,⟨[.old 0],_,[],[],[81]⟩,⟨[.op 5 0],_,[],[5],[82]⟩,⟨[.op 4 0,.op 6 0],_,[],Lr 7,[83]⟩]) (F:=[.old 0,.old 1,.old 2,.old 3,.old 4,.op 7 0]) (hst.pick [0,1,2,3,4] rfl) hb Zb
           (o_p rfl (Zt Zc1 (off:=1) (by kernel_rfl) rfl rfl u_0)<|o_p rfl (Zbr ty_2 rfl rfl u_0)<|o_p rfl (Zd Zed rfl rfl u_0)<|o_p rfl (Zf ty_2 rfl rfl u_0)<|o_p rfl (Zg7 rfl rfl u_0 u_1 rfl)<|o_p rfl (Zt Zjp (off:=2) (by kernel_rfl) rfl rfl u_0)<|o_p rfl (Zbr ty_2 rfl rfl u_0)<|o_p rfl (Zci rfl rfl u_0 u_1)<|o_n) (by kernel_rfl) (fun a g hst hb=>?_)
          refine wp_cond_split (hst.bool 5 rfl) (fun hc17=>?_) (fun hc17=>?_)
          ·replace H0:=Zv hc17 H0
           refine r_g (L:=[(2,_),(4,_),(5,_),(6,_)]) (T:=[⟨[.old 3],_,[],[],[84]⟩,⟨[.op 0 0,.old 3],_,[7],[0],[6,84]⟩]) (F:=[.old 0,.old 1,.old 2,.op 1 0]) (hst.pick [0,2,3,4] rfl) hb Zb
            (o_p rfl (Zt Zif (off:=0) (by kernel_rfl) rfl rfl u_0)<|o_p rfl (Zo6 Zj6 rfl rfl u_1 u_0 c_i)<|o_n) (by kernel_rfl) (fun a g hst hb=>?_)
           refine Zbe ?_
           exact ⟨a0,({ ({ Code:=(0:Int),Num:=(0:Int),Rec:=(default:Ze) }:Zg) with Code:=(10:Int) }),g,rfl,(hst.pick [0,1,2,3] rfl),hb,H0⟩
          ·replace H0:=Zw hc17 H0
           refine r_g (L:=[(2,_),(3,_),(4,_),(5,_),(6,_)]) (T:=[⟨[.old 0],_,[],[],[85]⟩,⟨[.op 0 0],_,[],[0],[86]⟩,⟨[.old 1],_,[],[],[87]⟩,⟨[.op 2 0],_,[],[2],[88]⟩,⟨[.op 1 0,.op 3 0],_,[],Lr 4,[89]⟩,⟨[.old 0],_,[],Lr 5,[90]⟩,⟨[.op 4 0,.op 5 0,.old 0],_,[3],Lr 6,[2,85,90]⟩]) (F:=[.op 6 0,.old 2,.old 3,.old 4]) (hst.pick [0,1,2,3,4] rfl) hb Zb
            (o_p rfl (Zt Zc1 (off:=1) (by kernel_rfl) rfl rfl u_0)<|o_p rfl (Zbr ty_2 rfl rfl u_0)<|o_p rfl (Zd Zed rfl rfl u_0)<|o_p rfl (Zf ty_2 rfl rfl u_0)<|o_p rfl (Zg7 rfl rfl u_0 u_1 rfl)<|o_p rfl (Zt Zc1 (off:=1) (by kernel_rfl) rfl rfl u_0)<|o_p rfl (Zmu ty_2 rfl rfl u_2 u_1 u_0)<|o_n) (by kernel_rfl) (fun a g hst hb=>?_)
           refine Zbe ?_
           exact ⟨({ a0 with Num:=(IntKind.i64.wrap (a0.Num - a1.N)) }),({ Code:=(0:Int),Num:=(0:Int),Rec:=(default:Ze) }:Zg),g,rfl,(hst.pick [0,1,2,3] rfl),hb,H0⟩
         ·replace H0:=Zw hc16 H0
          refine r_s (L:=[(2,_),(3,_),(4,_),(5,_),(6,_),(12,_)]) (T:=[⟨[.old 5],_,[],[],[92]⟩,⟨[.op 0 0],_,[],[0],[91]⟩]) (F:=[.old 0,.old 1,.old 2,.old 3,.old 4,.old 5,.op 1 0]) (hst.pick [0,1,2,3,4,5] rfl) hb Zb
           (o_p rfl (Zbs rfl rfl u_0 c_i)<|o_p rfl (Zc rfl rfl u_0)<|o_n) (by kernel_rfl) (fun a g hst hb=>?_)
          refine wp_cond_split (hst.bool 6 rfl) (fun hc18=>?_) (fun hc18=>?_)
          ·replace H0:=Zv hc18 H0
           obtain ⟨r19,h20,H0⟩:=Zh H0
           refine r_g (L:=[(2,_),(3,_),(4,_),(5,_),(6,_)]) (T:=[⟨[.old 0],_,[],[],[93]⟩,⟨[.op 0 0],_,[],[0],[94]⟩,⟨[.old 1],_,[],[],[95]⟩,⟨[.op 2 0],_,[],[2],[96]⟩,⟨[.op 1 0,.op 3 0],_,[],Lr 4,[97]⟩,⟨[.old 0],_,[],Lr 5,[98]⟩,⟨[.op 4 0,.op 5 0,.old 0],_,[3],Lr 6,[2,93,98]⟩]) (F:=[.op 6 0,.old 2,.old 3,.old 4]) (hst.pick [0,1,2,3,4] rfl) hb Zb
            (o_p rfl (Zt Zgc (off:=4) (by kernel_rfl) rfl rfl u_0)<|o_p rfl (Zbr Zc3 rfl rfl u_0)<|o_p rfl (Zd Zjn rfl rfl u_0)<|o_p rfl (Zf Zc3 rfl rfl u_0)<|o_p rfl (Zo Zba5 (Zsi _ _ h20) rfl rfl (.cons u_0 (.cons u_1 .nil)))<|o_p rfl (Zt Zgc (off:=4) (by kernel_rfl) rfl rfl u_0)<|o_p rfl (Zo5 Zc3 rfl rfl u_2 u_1 u_0)<|o_n) (by kernel_rfl) (fun a g hst hb=>?_)
           refine Zbe ?_
           exact ⟨({ a0 with Real:=r19 }),({ Code:=(0:Int),Num:=(0:Int),Rec:=(default:Ze) }:Zg),g,rfl,(hst.pick [0,1,2,3] rfl),hb,H0⟩
          ·replace H0:=Zw hc18 H0
           refine r_s (L:=[(2,_),(3,_),(4,_),(5,_),(6,_),(12,_)]) (T:=[⟨[.old 5],_,[],[],[100]⟩,⟨[.op 0 0],_,[],[0],[99]⟩]) (F:=[.old 0,.old 1,.old 2,.old 3,.old 4,.old 5,.op 1 0]) (hst.pick [0,1,2,3,4,5] rfl) hb Zb
            (o_p rfl (Zbs rfl rfl u_0 c_i)<|o_p rfl (Zc rfl rfl u_0)<|o_n) (by kernel_rfl) (fun a g hst hb=>?_)
           refine wp_cond_split (hst.bool 6 rfl) (fun hc21=>?_) (fun hc21=>?_)
           ·replace H0:=Zv hc21 H0
            obtain ⟨r22,h23,H0⟩:=Zh H0
            refine r_g (L:=[(2,_),(3,_),(4,_),(5,_),(6,_)]) (T:=[⟨[.old 0],_,[],[],[101]⟩,⟨[.op 0 0],_,[],[0],[102]⟩,⟨[.old 1],_,[],[],[103]⟩,⟨[.op 2 0],_,[],[2],[104]⟩,⟨[.op 1 0,.op 3 0],_,[],Lr 4,[105]⟩,⟨[.old 0],_,[],Lr 5,[106]⟩,⟨[.op 4 0,.op 5 0,.old 0],_,[3],Lr 6,[2,101,106]⟩]) (F:=[.op 6 0,.old 2,.old 3,.old 4]) (hst.pick [0,1,2,3,4] rfl) hb Zb
             (o_p rfl (Zt Zgc (off:=4) (by kernel_rfl) rfl rfl u_0)<|o_p rfl (Zbr Zc3 rfl rfl u_0)<|o_p rfl (Zd Zjn rfl rfl u_0)<|o_p rfl (Zf Zc3 rfl rfl u_0)<|o_p rfl (Zo Z9p (Zsm _ _ h23) rfl rfl (.cons u_0 (.cons u_1 .nil)))<|o_p rfl (Zt Zgc (off:=4) (by kernel_rfl) rfl rfl u_0)<|o_p rfl (Zo5 Zc3 rfl rfl u_2 u_1 u_0)<|o_n) (by kernel_rfl) (fun a g hst hb=>?_)
            refine Zbe ?_
            exact ⟨({ a0 with Real:=r22 }),({ Code:=(0:Int),Num:=(0:Int),Rec:=(default:Ze) }:Zg),g,rfl,(hst.pick [0,1,2,3] rfl),hb,H0⟩
           ·replace H0:=Zw hc21 H0
            refine r_s (L:=[(2,_),(3,_),(4,_),(5,_),(6,_),(12,_)]) (T:=[⟨[.old 5],_,[],[],[108]⟩,⟨[.op 0 0],_,[],[0],[107]⟩]) (F:=[.old 0,.old 1,.old 2,.old 3,.old 4,.old 5,.op 1 0]) (hst.pick [0,1,2,3,4,5] rfl) hb Zb
             (o_p rfl (Zbs rfl rfl u_0 c_i)<|o_p rfl (Zc rfl rfl u_0)<|o_n) (by kernel_rfl) (fun a g hst hb=>?_)
            refine wp_cond_split (hst.bool 6 rfl) (fun hc24=>?_) (fun hc24=>?_)
            ·replace H0:=Zv hc24 H0
             obtain ⟨r25,h26,H0⟩:=Zh H0;obtain ⟨r27,h28,H0⟩:=Zh H0
             refine r_g (L:=[(2,_),(3,_),(4,_),(5,_),(6,_)]) (T:=[⟨[.old 0],_,[],[],[109]⟩,⟨[.op 0 0],_,[],[0],[110]⟩,⟨[.old 1],_,[],[],[111]⟩,⟨[.op 2 0],_,[],[2],[112]⟩,⟨[.op 1 0,.op 3 0],_,[],Lr 4,[113]⟩,⟨[.op 4 0],_,[],Lr 5,[114]⟩,⟨[.op 5 0],_,[],Lr 6,[115]⟩,⟨[.old 0],_,[],Lr 7,[116]⟩,⟨[.op 6 0,.op 7 0,.old 0],_,[3],Lr 8,[2,109,116]⟩]) (F:=[.op 8 0,.old 2,.old 3,.old 4]) (hst.pick [0,1,2,3,4] rfl) hb Zb
              (o_p rfl (Zt Zgc (off:=4) (by kernel_rfl) rfl rfl u_0)<|o_p rfl (Zbr Zc3 rfl rfl u_0)<|o_p rfl (Zd Zjn rfl rfl u_0)<|o_p rfl (Zf Zc3 rfl rfl u_0)<|o_p rfl (Zzx rfl rfl u_0 u_1)<|o_p rfl (Zo Z5h (Zq9 (fun r z hr hz=>by simp only [Zfu,Zer,hr,hz,Option.bind_some,if_true]) (fun z r h=>Zm6 z h) h26) rfl rfl (.cons u_0 .nil))<|o_p rfl (Zo Z5e (Zmv _ h28) rfl rfl (.cons u_0 .nil))<|o_p rfl (Zt Zgc (off:=4) (by kernel_rfl) rfl rfl u_0)<|o_p rfl (Zo5 Zc3 rfl rfl u_2 u_1 u_0)<|o_n) (by kernel_rfl) (fun a g hst hb=>?_)
             refine Zbe ?_
             exact ⟨({ a0 with Real:=r27 }),({ Code:=(0:Int),Num:=(0:Int),Rec:=(default:Ze) }:Zg),g,rfl,(hst.pick [0,1,2,3] rfl),hb,H0⟩
            ·replace H0:=Zw hc24 H0
             refine r_s (L:=[(2,_),(3,_),(4,_),(5,_),(6,_),(12,_)]) (T:=[⟨[.old 5],_,[],[],[118]⟩,⟨[.op 0 0],_,[],[0],[117]⟩]) (F:=[.old 0,.old 1,.old 2,.old 3,.old 4,.old 5,.op 1 0]) (hst.pick [0,1,2,3,4,5] rfl) hb Zb
              (o_p rfl (Zbs rfl rfl u_0 c_i)<|o_p rfl (Zc rfl rfl u_0)<|o_n) (by kernel_rfl) (fun a g hst hb=>?_)
             refine wp_cond_split (hst.bool 6 rfl) (fun hc29=>?_) (fun hc29=>?_)
             ·replace H0:=Zv hc29 H0
              obtain ⟨r30,h31,H0⟩:=Zh H0;obtain ⟨r32,h33,H0⟩:=Zh H0
              refine r_g (L:=[(2,_),(3,_),(4,_),(5,_),(6,_)]) (T:=[⟨[.old 0],_,[],[],[119]⟩,⟨[.op 0 0],_,[],[0],[120]⟩,⟨[.old 1],_,[],[],[121]⟩,⟨[.op 2 0],_,[],[2],[122]⟩,⟨[.op 1 0,.op 3 0],_,[],Lr 4,[123]⟩,⟨[.op 4 0],_,[],Lr 5,[124]⟩,⟨[.op 5 0],_,[],Lr 6,[125]⟩,⟨[.old 0],_,[],Lr 7,[126]⟩,⟨[.op 6 0,.op 7 0,.old 0],_,[3],Lr 8,[2,119,126]⟩]) (F:=[.op 8 0,.old 2,.old 3,.old 4]) (hst.pick [0,1,2,3,4] rfl) hb Zb
               (o_p rfl (Zt Zgc (off:=4) (by kernel_rfl) rfl rfl u_0)<|o_p rfl (Zbr Zc3 rfl rfl u_0)<|o_p rfl (Zd Zjn rfl rfl u_0)<|o_p rfl (Zf Zc3 rfl rfl u_0)<|o_p rfl (Z0f rfl rfl u_0 u_1)<|o_p rfl (Zo Z5h (Zq9 (fun r z hr hz=>by simp only [Zfu,Zer,hr,hz,Option.bind_some,if_true]) (fun z r h=>Zm6 z h) h31) rfl rfl (.cons u_0 .nil))<|o_p rfl (Zo Z5e (Zmv _ h33) rfl rfl (.cons u_0 .nil))<|o_p rfl (Zt Zgc (off:=4) (by kernel_rfl) rfl rfl u_0)<|o_p rfl (Zo5 Zc3 rfl rfl u_2 u_1 u_0)<|o_n) (by kernel_rfl) (fun a g hst hb=>?_)
              refine Zbe ?_
              exact ⟨({ a0 with Real:=r32 }),({ Code:=(0:Int),Num:=(0:Int),Rec:=(default:Ze) }:Zg),g,rfl,(hst.pick [0,1,2,3] rfl),hb,H0⟩
             ·replace H0:=Zw hc29 H0
              refine r_s (L:=[(2,_),(3,_),(4,_),(5,_),(6,_),(12,_)]) (T:=[⟨[.old 5],_,[],[],[128]⟩,⟨[.op 0 0],_,[],[0],[127]⟩]) (F:=[.old 0,.old 1,.old 2,.old 3,.old 4,.old 5,.op 1 0]) (hst.pick [0,1,2,3,4,5] rfl) hb Zb
               (o_p rfl (Zbs rfl rfl u_0 c_i)<|o_p rfl (Zc rfl rfl u_0)<|o_n) (by kernel_rfl) (fun a g hst hb=>?_)
              refine wp_cond_split (hst.bool 6 rfl) (fun hc34=>?_) (fun hc34=>?_)
              ·replace H0:=Zv hc34 H0
               refine r_g (L:=[(2,_),(3,_),(4,_),(5,_),(6,_)]) (T:=[⟨[.old 1],_,[],[],[129]⟩,⟨[.op 0 0],_,[],[0],[130]⟩,⟨[.old 0],_,[],[0,1],[131]⟩,⟨[.op 1 0,.op 2 0,.old 0],_,[3],[0,1,2],[2,131]⟩]) (F:=[.op 3 0,.old 2,.old 3,.old 4]) (hst.pick [0,1,2,3,4] rfl) hb Zb
                (o_p rfl (Zd Zjn rfl rfl u_0)<|o_p rfl (Zf Zc3 rfl rfl u_0)<|o_p rfl (Zt Zgc (off:=4) (by kernel_rfl) rfl rfl u_0)<|o_p rfl (Zo5 Zc3 rfl rfl u_2 u_1 u_0)<|o_n) (by kernel_rfl) (fun a g hst hb=>?_)
               refine Zbe ?_
               exact ⟨({ a0 with Real:=a1.X }),({ Code:=(0:Int),Num:=(0:Int),Rec:=(default:Ze) }:Zg),g,rfl,(hst.pick [0,1,2,3] rfl),hb,H0⟩
              ·replace H0:=Zw hc34 H0
               refine r_s (L:=[(2,_),(3,_),(4,_),(5,_),(6,_),(12,_)]) (T:=[⟨[.old 5],_,[],[],[133]⟩,⟨[.op 0 0],_,[],[0],[132]⟩]) (F:=[.old 0,.old 1,.old 2,.old 3,.old 4,.old 5,.op 1 0]) (hst.pick [0,1,2,3,4,5] rfl) hb Zb
                (o_p rfl (Zbs rfl rfl u_0 c_i)<|o_p rfl (Zc rfl rfl u_0)<|o_n) (by kernel_rfl) (fun a g hst hb=>?_)
               refine wp_cond_split (hst.bool 6 rfl) (fun hc35=>?_) (fun hc35=>?_)
               ·replace H0:=Zv hc35 H0
                obtain ⟨r36,h37,H0⟩:=Zh H0
                refine r_s (L:=[(2,_),(3,_),(4,_),(5,_),(6,_)]) (T:=⟨[.old 0],_,[],[],[134]⟩ :: ⟨[.op 0 0],_,[],[0],[135]⟩ :: ⟨[.old 1],_,[],[],[136]⟩ :: ⟨[.op 2 0],_,[],[2],[137]⟩ :: ⟨[.op 1 0,.op 3 0],_,[],Lr 4,[138]⟩ :: ⟨[.op 4 0],_,[],Lr 5,[139]⟩ :: ⟨[.op 5 0],_,[],Lr 6,[140]⟩ :: ⟨[.op 6 0,.old 0],_,[],Lr 7,[141]⟩ :: ⟨[.op 6 0,.op 7 0],_,[],Lr 8,[142]⟩ :: ⟨[.op 6 0,.op 8 0],_,[],Lr 9,[143]⟩ :: ⟨[.op 6 0,.old 0],_,[],Lr 7,[144]⟩ :: ⟨[.op 6 0,.op 10 0],_,[],[0,1,2,3,4,5,6,10],[145]⟩ :: ⟨[.op 6 0,.op 9 0,.op 11 0],_,[],Lr 12,[146]⟩ :: ⟨[.op 6 0,.op 12 0],_,[],Lr 13,[147]⟩ :: []) (F:=[.old 0,.old 1,.old 2,.old 3,.old 4,.op 13 0]) (hst.pick [0,1,2,3,4] rfl) hb Zb
                 (o_p rfl (Zt Zce (off:=7) (by kernel_rfl) rfl rfl u_0)<|o_p rfl (Zbr Zc7 rfl rfl u_0)<|o_p rfl (Zd Zf0 rfl rfl u_0)<|o_p rfl (Zf ty_9 rfl rfl u_0)<|o_p rfl (Zo Z4j (Zof _ _ h37) rfl rfl (.cons u_0 (.cons u_1 .nil)))<|o_p rfl (Zb2 rfl rfl u_0)<|o_p rfl (Za rfl rfl u_0)<|o_g (g_t rfl rfl rfl (fun hG=>Zt Zce (off:=7) (by kernel_rfl) rfl rfl u_0))<|o_g (g_t rfl rfl rfl (fun hG=>Zbr Zc7 rfl rfl (Opd.gd hG u_0)))<|o_g (g_t rfl rfl rfl (fun hG=>Zb1 Tryz.underlying36 rfl rfl (Opd.gd hG u_0)))<|o_g (g_t rfl rfl rfl (fun hG=>Zt Zgz (off:=5) (by kernel_rfl) rfl rfl u_0))<|o_g (g_t rfl rfl rfl (fun hG=>Zbr ty_3 rfl rfl (Opd.gd hG u_0)))<|o_g (g_t rfl rfl rfl (fun hG=>Zmn rfl rfl (Opd.gd hG u_0) (Opd.gd hG u_1)))<|o_p rfl (Zbi rfl rfl u_0 (fun hz=>(Opd.gd hz u_1)))<|o_n) (by kernel_rfl) (fun a g hst hb=>?_)
                refine wp_cond_split (hst.bool 5 rfl) (fun hc38=>?_) (fun hc38=>?_)
                ·replace H0:=Zv hc38 H0
                 refine r_g (L:=[(2,_),(4,_),(5,_),(6,_)]) (T:=[⟨[.old 3],_,[],[],[148]⟩,⟨[.op 0 0,.old 3],_,[7],[0],[6,148]⟩]) (F:=[.old 0,.old 1,.old 2,.op 1 0]) (hst.pick [0,2,3,4] rfl) hb Zb
                  (o_p rfl (Zt Zif (off:=0) (by kernel_rfl) rfl rfl u_0)<|o_p rfl (Zo6 Zj6 rfl rfl u_1 u_0 c_i)<|o_n) (by kernel_rfl) (fun a g hst hb=>?_)
                 refine Zbe ?_
                 exact ⟨a0,({ ({ Code:=(0:Int),Num:=(0:Int),Rec:=(default:Ze) }:Zg) with Code:=(8:Int) }),g,rfl,(hst.pick [0,1,2,3] rfl),hb,H0⟩
                ·replace H0:=Zw hc38 H0
                 obtain ⟨r39,h40,H0⟩:=Zh H0
                 refine r_g (L:=[(2,_),(3,_),(4,_),(5,_),(6,_)]) (T:=[⟨[.old 0],_,[],[],[149]⟩,⟨[.op 0 0],_,[],[0],[150]⟩,⟨[.old 1],_,[],[],[151]⟩,⟨[.op 2 0],_,[],[2],[152]⟩,⟨[.op 3 0],_,[],[2,3],[153]⟩,⟨[.op 1 0,.op 4 0],_,[],Lr 5,[154]⟩,⟨[.old 0],_,[],Lr 6,[155]⟩,⟨[.op 5 0,.op 6 0,.old 0],_,[3],Lr 7,[2,149,155]⟩]) (F:=[.op 7 0,.old 2,.old 3,.old 4]) (hst.pick [0,1,2,3,4] rfl) hb Zb
                  (o_p rfl (Zt Zce (off:=7) (by kernel_rfl) rfl rfl u_0)<|o_p rfl (Zbr Zc7 rfl rfl u_0)<|o_p rfl (Zd Zf0 rfl rfl u_0)<|o_p rfl (Zf ty_9 rfl rfl u_0)<|o_p rfl (Zzr rfl rfl u_0)<|o_p rfl (Zo Z47 (Znp _ _ _ h40) rfl rfl (.cons u_0 (.cons u_1 (.cons c_b .nil))))<|o_p rfl (Zt Zce (off:=7) (by kernel_rfl) rfl rfl u_0)<|o_p rfl (Zmz Zc7 rfl rfl u_2 u_1 u_0)<|o_n) (by kernel_rfl) (fun a g hst hb=>?_)
                 refine Zbe ?_
                 exact ⟨({ a0 with List:=r39 }),({ Code:=(0:Int),Num:=(0:Int),Rec:=(default:Ze) }:Zg),g,rfl,(hst.pick [0,1,2,3] rfl),hb,H0⟩
               ·replace H0:=Zw hc35 H0
                refine r_s (L:=[(2,_),(3,_),(4,_),(5,_),(6,_),(12,_)]) (T:=[⟨[.old 5],_,[],[],[157]⟩,⟨[.op 0 0],_,[],[0],[156]⟩]) (F:=[.old 0,.old 1,.old 2,.old 3,.old 4,.old 5,.op 1 0]) (hst.pick [0,1,2,3,4,5] rfl) hb Zb
                 (o_p rfl (Zbs rfl rfl u_0 c_i)<|o_p rfl (Zc rfl rfl u_0)<|o_n) (by kernel_rfl) (fun a g hst hb=>?_)
                refine wp_cond_split (hst.bool 6 rfl) (fun hc41=>?_) (fun hc41=>?_)
                ·replace H0:=Zv hc41 H0
                 refine r_s (L:=[(2,_),(3,_),(4,_),(5,_),(6,_)]) (T:=[⟨[],_,[159],[],[158]⟩,⟨[.op 0 0],_,[],[0],[7]⟩]) (F:=[.old 0,.old 1,.old 2,.old 3,.old 4,.op 1 0]) (hst.pick [0,1,2,3,4] rfl) hb Zb
                  (o_p rfl (Zku 158 Zdl (xs:=[]) .nil (by decide) rfl rfl)<|o_p rfl (Zc rfl rfl u_0)<|o_n) (by kernel_rfl) (fun a g hst hb=>?_)
                 refine wp_seq ?_
                 refine r_s (T:=[⟨[],_,[],[],[8]⟩]) (F:=[.old 0,.old 1,.old 2,.old 3,.old 4,.old 5,.op 0 0]) hst hb Zb
                  (o_p rfl (Zc rfl rfl c_i)<|o_n) (by kernel_rfl) (fun a g hst hb=>?_)
                 obtain ⟨z53,hz1,H0⟩:=Zh H0
                 refine Zca (fun a w=>∃ (y52:List Zl) (g:G),w=g.w ∧ St 217 [(2,(pBox Zi 2 a0)),(4,(pBox Zi 4 (default:Ze))),(5,(pBox Zm 5 (default:Zg))),(6,(pBox Zm 6 ({ Code:=(0:Int),Num:=(0:Int),Rec:=(default:Ze) }:Zg))),(7,(pRow Zz 116 158 y52))] a g ∧ Base g0 g ∧ y52=z53) ?_ ?_
                 ·rintro a w ⟨y52,g,rfl,hst,hb,rfl⟩
                  refine Zs ?_
                  refine r_g (T:=[⟨[.old 4],_,[],[],[183]⟩,⟨[.old 0],_,[],[0],[184]⟩,⟨[.op 0 0,.op 1 0,.old 0],_,[3],[0,1],[2,184]⟩]) (F:=[.op 2 0,.old 1,.old 2,.old 3]) hst hb Zb
                   (o_p rfl (Za rfl rfl u_0)<|o_p rfl (Zt Zce (off:=7) (by kernel_rfl) rfl rfl u_0)<|o_p rfl (Zmz Zc7 rfl rfl u_2 u_1 (Opd.imp u_0 (fun _ _ h=>Zgi h)))<|o_n) (by kernel_rfl) (fun a g hst hb=>?_)
                  refine Zbe ?_
                  exact ⟨({ a0 with List:=y52 }),({ Code:=(0:Int),Num:=(0:Int),Rec:=(default:Ze) }:Zg),g,rfl,(hst.pick [0,1,2,3] rfl),hb,H0⟩
                 ·refine wp_block ?_
                  refine wp_loop_ghost (fun n a w=>∃ (x42:List Zl) (x43:Int) (g:G),w=g.w ∧ St 217 [(2,(pBox Zi 2 a0)),(3,(Z4.ptr a1)),(4,(pBox Zi 4 (default:Ze))),(5,(pBox Zm 5 (default:Zg))),(6,(pBox Zm 6 ({ Code:=(0:Int),Num:=(0:Int),Rec:=(default:Ze) }:Zg))),(7,(pRow Zz 116 158 x42)),(8,(pInt .i64 x43))] a g ∧ Base g0 g ∧ Zdj a0 a1 n x42 x43=some z53) (Int.toNat ((a0.List.length:Int) - (0:Int)) + 1) ⟨([]:List Zl),(0:Int),g,rfl,(hst.pick [0,1,2,3,4,5,6] rfl),hb,hz1⟩ (fun n a w hI=>?_)
                  obtain ⟨x42,x43,g,rfl,hst,hb,H1⟩:=hI
                  cases n with
                  | zero=>exact absurd H1 (by simp [Zdj])
                  | succ n =>
                   rw [Zdj] at H1
                   refine wp_seq ?_
                   refine r_s (T:=[⟨[.old 6],_,[],[],[159]⟩,⟨[.old 0],_,[],[],[160]⟩,⟨[.op 1 0],_,[],[1],[161]⟩,⟨[.op 2 0],_,[],[1,2],[162]⟩,⟨[.op 0 0,.op 3 0],_,[],Lr 4,[163]⟩]) (F:=[.old 0,.old 1,.old 2,.old 3,.old 4,.old 5,.old 6,.op 4 0]) hst hb Zb
                    (o_p rfl (Za rfl rfl u_0)<|o_p rfl (Zt Zce (off:=7) (by kernel_rfl) rfl rfl u_0)<|o_p rfl (Zbr Zc7 rfl rfl u_0)<|o_p rfl (Zb1 Tryz.underlying36 rfl rfl u_0)<|o_p rfl (Zci rfl rfl u_0 u_1)<|o_n) (by kernel_rfl) (fun a g hst hb=>?_)
                   refine wp_cond_split (hst.bool 7 rfl) (fun hc44=>?_) (fun hc44=>?_)
                   ·replace H1:=Zv hc44 H1
                    refine wp_skip ?_
                    refine Zs ?_
                    refine wp_seq ?_
                    refine Zca (fun a w=>∃ (j51:List Zl) (g:G),w=g.w ∧ St 217 [(2,(pBox Zi 2 a0)),(3,(Z4.ptr a1)),(4,(pBox Zi 4 (default:Ze))),(5,(pBox Zm 5 (default:Zg))),(6,(pBox Zm 6 ({ Code:=(0:Int),Num:=(0:Int),Rec:=(default:Ze) }:Zg))),(7,(pRow Zz 116 158 j51)),(8,(pInt .i64 x43))] a g ∧ Base g0 g ∧ Ziu x43 (Zdj a0 a1 n) j51=some z53) ?_ ?_
                    ·rintro a w ⟨j51,g,rfl,hst,hb,H1⟩
                     unfold Ziu at H1
                     refine Zs ?_
                     refine r_g (T:=[⟨[.old 6],_,[],[],[164]⟩,⟨[.op 0 0],_,[],[0],[165]⟩,⟨[.op 1 0],_,[],[0,1],[8]⟩]) (F:=[.old 0,.old 1,.old 2,.old 3,.old 4,.old 5,.op 2 0]) hst hb Zb
                      (o_p rfl (Za rfl rfl u_0)<|o_p rfl (Zb7 rfl rfl u_0 c_i rfl)<|o_p rfl (Zc rfl rfl u_0)<|o_n) (by kernel_rfl) (fun a g hst hb=>?_)
                     exact ⟨n,Nat.lt_succ_self _,j51,(IntKind.i64.wrap (x43 + (1:Int))),g,rfl,(hst.pick [0,1,2,3,4,5,6] rfl),hb,H1⟩
                    ·refine wp_block ?_
                     obtain ⟨e45,h46,H1⟩:=Zh H1
                     refine r_s (L:=[(2,_),(3,_),(4,_),(5,_),(6,_),(7,_),(8,_)]) (T:=[⟨[.old 0],_,[],[],[166]⟩,⟨[.op 0 0],_,[],[0],[167]⟩,⟨[.old 6],_,[],[],[168]⟩,⟨[.op 1 0,.op 2 0],_,[],[0,1,2],[169]⟩,⟨[.op 3 0],_,[],Lr 4,[170]⟩,⟨[.op 4 0],_,[],Lr 5,[171]⟩,⟨[.old 1],_,[],[],[172]⟩,⟨[.op 6 0],_,[],[6],[173]⟩,⟨[.op 5 0,.op 7 0],_,[],Lr 8,[174]⟩]) (F:=[.old 0,.old 1,.old 2,.old 3,.old 4,.old 5,.old 6,.op 8 0]) (hst.pick [0,1,2,3,4,5,6] rfl) hb Zb
                      (o_p rfl (Zt Zce (off:=7) (by kernel_rfl) rfl rfl u_0)<|o_p rfl (Zbr Zc7 rfl rfl u_0)<|o_p rfl (Za rfl rfl u_0)<|o_p rfl (Zbl Tryz.underlying36 Ze4 rfl rfl u_0 u_1 h46)<|o_p rfl (Zd Zd4 rfl rfl u_0)<|o_p rfl (Zf ty_9 rfl rfl u_0)<|o_p rfl (Zd Zf0 rfl rfl u_0)<|o_p rfl (Zf ty_9 rfl rfl u_0)<|o_p rfl (Zol rfl rfl u_0 u_1)<|o_n) (by kernel_rfl) (fun a g hst hb=>?_)
                     refine wp_cond_split (hst.bool 7 rfl) (fun hc47=>?_) (fun hc47=>?_)
                     ·replace H1:=Zv hc47 H1
                      obtain ⟨e48,h49,H1⟩:=Zh H1;obtain ⟨h50,H1⟩:=Zfz H1
                      refine r_g (L:=[(2,_),(3,_),(4,_),(5,_),(6,_),(7,_),(8,_)]) (T:=[⟨[.old 5],_,[],[],[175]⟩,⟨[.old 0],_,[],[],[176]⟩,⟨[.op 1 0],_,[],[1],[177]⟩,⟨[.old 6],_,[],[],[178]⟩,⟨[.op 2 0,.op 3 0],_,[],[1,2,3],[179]⟩,⟨[.op 4 0],_,[],List.range' 1 4,[180]⟩,⟨[.op 5 0],_,[],List.range' 1 5,[181]⟩,⟨[.op 0 0,.op 6 0],_,[159],Lr 7,[7,175,182]⟩,⟨[.op 7 0],_,[],Lr 8,[7]⟩]) (F:=[.old 0,.old 1,.old 2,.old 3,.old 4,.op 8 0,.old 6]) (hst.pick [0,1,2,3,4,5,6] rfl) hb Zb
                       (o_p rfl (Za rfl rfl u_0)<|o_p rfl (Zt Zce (off:=7) (by kernel_rfl) rfl rfl u_0)<|o_p rfl (Zbr Zc7 rfl rfl u_0)<|o_p rfl (Za rfl rfl u_0)<|o_p rfl (Zbl Tryz.underlying36 Ze4 rfl rfl u_0 u_1 h49)<|o_p rfl (Zf Zea rfl rfl u_0)<|o_p rfl (Ziw Zdl (xs:=[.tmp 180]) (.cons u_0 .nil) (by decide) rfl rfl)<|o_p rfl (Zfr Zdl rfl rfl u_0 u_1 h50)<|o_p rfl (Zc rfl rfl u_0)<|o_n) (by kernel_rfl) (fun a g hst hb=>?_)
                      refine Zbe ?_
                      exact ⟨(x42 ++ ([e48]:List Zl)),g,rfl,(hst.pick [0,1,2,3,4,5,6] rfl),hb,H1⟩
                     ·replace H1:=Zw hc47 H1
                      refine wp_skip ?_
                      refine Zbe ?_
                      exact ⟨x42,g,rfl,(hst.pick [0,1,2,3,4,5,6] rfl),hb,H1⟩
                   ·replace H1:=Zw hc44 H1
                    refine wp_exit ?_
                    refine Zb3 ?_
                    refine Zb3 ?_
                    refine Zcn ?_
                    exact ⟨x42,g,rfl,(hst.pick [0,2,3,4,5] rfl),hb,Option.some.inj H1⟩
                ·replace H0:=Zw hc41 H0
                 refine r_s (L:=[(2,_),(3,_),(4,_),(5,_),(6,_),(12,_)]) (T:=[⟨[.old 5],_,[],[],[186]⟩,⟨[.op 0 0],_,[],[0],[185]⟩]) (F:=[.old 0,.old 1,.old 2,.old 3,.old 4,.old 5,.op 1 0]) (hst.pick [0,1,2,3,4,5] rfl) hb Zb
                  (o_p rfl (Zbs rfl rfl u_0 c_i)<|o_p rfl (Zc rfl rfl u_0)<|o_n) (by kernel_rfl) (fun a g hst hb=>?_)
                 refine wp_cond_split (hst.bool 6 rfl) (fun hc54=>?_) (fun hc54=>?_)
                 ·replace H0:=Zv hc54 H0
                  obtain ⟨r55,h56,H0⟩:=Zh H0
                  refine r_s (L:=[(2,_),(3,_),(4,_),(5,_),(6,_)]) (T:=[⟨[.old 0],_,[],[],[187]⟩,⟨[.op 0 0],_,[],[0],[188]⟩,⟨[.old 1],_,[],[],[189]⟩,⟨[.op 2 0],_,[],[2],[190]⟩,⟨[.op 1 0,.op 3 0],_,[],Lr 4,[191]⟩,⟨[.op 4 0],_,[],Lr 5,[192]⟩]) (F:=[.old 0,.old 2,.old 3,.old 4,.op 5 0]) (hst.pick [0,1,2,3,4] rfl) hb Zb
                   (o_p rfl (Zt Zce (off:=7) (by kernel_rfl) rfl rfl u_0)<|o_p rfl (Zbr Zc7 rfl rfl u_0)<|o_p rfl (Zd Zf0 rfl rfl u_0)<|o_p rfl (Zf ty_9 rfl rfl u_0)<|o_p rfl (Zo Z4j (Zof _ _ h56) rfl rfl (.cons u_0 (.cons u_1 .nil)))<|o_p rfl (Zb2 rfl rfl u_0)<|o_n) (by kernel_rfl) (fun a g hst hb=>?_)
                  refine wp_cond_split (hst.bool 4 rfl) (fun hc57=>?_) (fun hc57=>?_)
                  ·replace H0:=Zv hc57 H0
                   refine r_g (L:=[(2,_),(4,_),(5,_),(6,_)]) (T:=[⟨[.old 3],_,[],[],[193]⟩,⟨[.op 0 0,.old 3],_,[7],[0],[6,193]⟩]) (F:=[.old 0,.old 1,.old 2,.op 1 0]) (hst.pick [0,1,2,3] rfl) hb Zb
                    (o_p rfl (Zt Zif (off:=0) (by kernel_rfl) rfl rfl u_0)<|o_p rfl (Zo6 Zj6 rfl rfl u_1 u_0 c_i)<|o_n) (by kernel_rfl) (fun a g hst hb=>?_)
                   refine Zbe ?_
                   exact ⟨a0,({ ({ Code:=(0:Int),Num:=(0:Int),Rec:=(default:Ze) }:Zg) with Code:=(11:Int) }),g,rfl,(hst.pick [0,1,2,3] rfl),hb,H0⟩
                  ·replace H0:=Zw hc57 H0
                   refine wp_skip ?_
                   refine Zbe ?_
                   exact ⟨a0,({ Code:=(0:Int),Num:=(0:Int),Rec:=(default:Ze) }:Zg),g,rfl,(hst.pick [0,1,2,3] rfl),hb,H0⟩
                 ·replace H0:=Zw hc54 H0
                  refine r_s (L:=[(2,_),(3,_),(4,_),(5,_),(6,_),(12,_)]) (T:=[⟨[.old 5],_,[],[],[195]⟩,⟨[.op 0 0],_,[],[0],[194]⟩]) (F:=[.old 0,.old 1,.old 2,.old 3,.old 4,.op 1 0]) (hst.pick [0,1,2,3,4,5] rfl) hb Zb
                   (o_p rfl (Zbs rfl rfl u_0 c_i)<|o_p rfl (Zc rfl rfl u_0)<|o_n) (by kernel_rfl) (fun a g hst hb=>?_)
                  refine wp_cond_split (hst.bool 5 rfl) (fun hc58=>?_) (fun hc58=>?_)
                  ·replace H0:=Zv hc58 H0
                   obtain ⟨r59,h60,H0⟩:=Zh H0
                   refine r_s (L:=[(2,_),(3,_),(4,_),(5,_),(6,_)]) (T:=[⟨[.old 0],_,[],[],[196]⟩,⟨[.op 0 0],_,[],[0],[197]⟩,⟨[.old 1],_,[],[],[198]⟩,⟨[.op 2 0],_,[],[2],[199]⟩,⟨[.old 1],_,[],[],[200]⟩,⟨[.op 4 0],_,[],[4],[201]⟩,⟨[.op 3 0,.op 5 0],_,[],List.range' 2 4,[202]⟩,⟨[.op 1 0,.op 6 0],_,[],Lr 7,[203]⟩,⟨[.op 7 0],_,[],Lr 8,[9]⟩]) (F:=[.old 0,.old 2,.old 3,.old 4,.op 8 0]) (hst.pick [0,1,2,3,4] rfl) hb Zb
                    (o_p rfl (Zt Zce (off:=7) (by kernel_rfl) rfl rfl u_0)<|o_p rfl (Zbr Zc7 rfl rfl u_0)<|o_p rfl (Zd Zjn rfl rfl u_0)<|o_p rfl (Zf Zc3 rfl rfl u_0)<|o_p rfl (Zd Zf0 rfl rfl u_0)<|o_p rfl (Zf ty_9 rfl rfl u_0)<|o_p rfl (Zv9 rfl rfl u_0 u_1)<|o_p rfl (Zo Z47 (Znp _ _ _ h60) rfl rfl (.cons u_0 (.cons u_1 (.cons c_b .nil))))<|o_p rfl (Zc rfl rfl u_0)<|o_n) (by kernel_rfl) (fun a g hst hb=>?_)
                   refine wp_seq ?_
                   refine r_s (T:=[⟨[.old 4],_,[],[],[204]⟩,⟨[.op 0 0],_,[],[0],[205]⟩,⟨[.old 0],_,[],[],[206]⟩,⟨[.op 2 0],_,[],[2],[207]⟩,⟨[.op 1 0,.op 3 0],_,[],Lr 4,[208]⟩]) (F:=[.old 0,.old 1,.old 2,.old 3,.old 4,.op 4 0]) hst hb Zb
                    (o_p rfl (Za rfl rfl u_0)<|o_p rfl (Zb1 Tryz.underlying36 rfl rfl u_0)<|o_p rfl (Zt Zgz (off:=5) (by kernel_rfl) rfl rfl u_0)<|o_p rfl (Zbr ty_3 rfl rfl u_0)<|o_p rfl (Zcu rfl rfl u_0 u_1)<|o_n) (by kernel_rfl) (fun a g hst hb=>?_)
                   refine Zca (fun a w=>∃ (j64:List Zl) (g:G),w=g.w ∧ St 217 [(2,(pBox Zi 2 a0)),(4,(pBox Zi 4 (default:Ze))),(5,(pBox Zm 5 (default:Zg))),(6,(pBox Zm 6 ({ Code:=(0:Int),Num:=(0:Int),Rec:=(default:Ze) }:Zg))),(9,(Zz.sl.pd j64))] a g ∧ Base g0 g ∧ Zez a0 j64=some r) ?_ ?_
                   ·rintro a w ⟨j64,g,rfl,hst,hb,H0⟩
                    unfold Zez at H0
                    refine Zs ?_
                    refine r_g (T:=[⟨[.old 4],_,[],[],[213]⟩,⟨[.old 0],_,[],[0],[214]⟩,⟨[.op 0 0,.op 1 0,.old 0],_,[3],[0,1],[2,214]⟩]) (F:=[.op 2 0,.old 1,.old 2,.old 3]) hst hb Zb
                     (o_p rfl (Za rfl rfl u_0)<|o_p rfl (Zt Zce (off:=7) (by kernel_rfl) rfl rfl u_0)<|o_p rfl (Zmz Zc7 rfl rfl u_2 u_1 u_0)<|o_n) (by kernel_rfl) (fun a g hst hb=>?_)
                    refine Zbe ?_
                    exact ⟨({ a0 with List:=j64 }),({ Code:=(0:Int),Num:=(0:Int),Rec:=(default:Ze) }:Zg),g,rfl,(hst.pick [0,1,2,3] rfl),hb,H0⟩
                   ·refine wp_cond_split (hst.bool 5 rfl) (fun hc61=>?_) (fun hc61=>?_)
                    ·replace H0:=Zv hc61 H0
                     obtain ⟨c62,h63,H0⟩:=Zh H0
                     refine r_g (L:=[(2,_),(4,_),(5,_),(6,_),(9,_)]) (T:=[⟨[.old 4],_,[],[],[209]⟩,⟨[.old 0],_,[],[],[210]⟩,⟨[.op 1 0],_,[],[1],[211]⟩,⟨[.op 0 0,.op 2 0],_,[],[0,1,2],[212]⟩,⟨[.op 3 0],_,[],Lr 4,[9]⟩]) (F:=[.old 0,.old 1,.old 2,.old 3,.op 4 0]) (hst.pick [0,1,2,3,4] rfl) hb Zb
                      (o_p rfl (Za rfl rfl u_0)<|o_p rfl (Zt Zgz (off:=5) (by kernel_rfl) rfl rfl u_0)<|o_p rfl (Zbr ty_3 rfl rfl u_0)<|o_p rfl (Zti Tryz.underlying36 Ze4 rfl rfl u_0 u_1 h63)<|o_p rfl (Zc rfl rfl u_0)<|o_n) (by kernel_rfl) (fun a g hst hb=>?_)
                     exact ⟨c62,g,rfl,(hst.pick [0,1,2,3,4] rfl),hb,H0⟩
                    ·replace H0:=Zw hc61 H0
                     refine wp_skip ?_
                     exact ⟨r59,g,rfl,(hst.pick [0,1,2,3,4] rfl),hb,H0⟩
                  ·replace H0:=Zw hc58 H0
                   refine wp_skip ?_
                   refine Zbe ?_
                   exact ⟨a0,({ Code:=(0:Int),Num:=(0:Int),Rec:=(default:Ze) }:Zg),g,rfl,(hst.pick [0,2,3,4] rfl),hb,H0⟩
      ·refine wp_cond_split (hst.bool 6 rfl) (fun hc10=>?_) (fun hc10=>?_)
       ·replace H0:=Zv hc10 H0
        refine wp_skip ?_
        exact ⟨(a1.Kind == (9:Int)),g,rfl,(hst.pick [0,1,2,3,4,5,6] rfl),hb,H0⟩
       ·replace H0:=Zw hc10 H0
        refine r_g (L:=[(2,_),(3,_),(4,_),(5,_),(6,_),(12,_)]) (T:=[⟨[.old 5],_,[],[],[50]⟩,⟨[.op 0 0],_,[],[0],[48]⟩]) (F:=[.old 0,.old 1,.old 2,.old 3,.old 4,.old 5,.op 1 0]) (hst.pick [0,1,2,3,4,5] rfl) hb Zb
         (o_p rfl (Zbs rfl rfl u_0 c_i)<|o_p rfl (Zc rfl rfl u_0)<|o_n) (by kernel_rfl) (fun a g hst hb=>?_)
        exact ⟨(a1.Kind == (12:Int)),g,rfl,(hst.pick [0,1,2,3,4,5,6] rfl),hb,H0⟩
end Go.CL
