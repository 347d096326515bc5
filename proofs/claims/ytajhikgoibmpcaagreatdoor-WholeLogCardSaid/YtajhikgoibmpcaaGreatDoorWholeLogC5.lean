/- A part of the proof of WholeLog. -/
import Derived.Test.YtajhikgoibmpcaaGreatDoorWholeLogC4
import Derived.Laws.Strings
import Derived.KernelRfl
set_option linter.unusedVariables false
set_option linter.unusedSimpArgs false
set_option maxRecDepth 100000
open Option renaming bind_some→Zb1e,some→Zb2l,getD_some→Zb29
open Go.Proofs.Tryz renaming prog→Zb1f,underlying98→Zb1k,underlying26→Zb13,underlying41→Zb19,underlying48→Zb2k,underlying45→Zb21,underlying22→Zb22,underlying3→Zb27,underlying188→Zb3l,underlying197→Zb3m,underlying77→Zb3s,underlying49→Zb3t,func51→Zb39
open List renaming getElem?_eq_getElem→Zb1g,drop_eq_getElem_cons→Zb1l,replicate→Zb1m,drop_of_length_le→Zb1n,getElem_mem→Zb1p,length_map→Zb1q,length_append→Zb1s,take_of_length_le→Zb1w,drop_zero→Zb1z,getElem?_eq_none→Zb12,getElem?_append_right→Zb14,drop_succ_cons→Zb16,mem_cons_self→Zb17,length_drop→Zb2c,length_take→Zb2e,mem_cons_of_mem→Zb2f,pairwise_iff_getElem→Zb2g,mem_singleton→Zb2h,length_cons→Zb2m,take_append_drop→Zb2n,length_replicate→Zb2o,mem_of_getElem?→Zb2p,nil_append→Zb2r,filter_eq_self→Zb2v,getElem?_drop→Zb2y,getElem?_map→Zb20,append_assoc→Zb23,any_eq_false→Zb24,getElem?_eq_some_iff→Zb25,getElem?_append_left→Zb26,append_nil→Zb3d,length→Zb3f,length_singleton→Zb3g,getElem_of_mem→Zb3k,filter_cons→Zb3x,take_left'→Zb3y,drop_left→Zb3z,take_zero→Zb30,map_cons→Zb32,mem_cons→Zb33,any_cons→Zb36,range'→Zb4a
open Bool renaming false_eq_true→Zb1h,true_and→Zb1o,false_or→Zb1u,not_false→Zb1v,false_and→Zb1y,not_true→Zb10,and_eq_true→Zb15,or_eq_false_iff→Zb2q,and_false→Zb2x,and_true→Zb2z,or_eq_true→Zb3b,toNat_true→Zb3c,true_or→Zb3n
open Go.IntKind renaming i64→Zb1i,wrap→Zb1r,u64→Zb1t,signed→Zb2a,u8→Zb2d,bits→Zb2i
open Int renaming toNat→Zb1j,fdiv_eq_ediv_of_nonneg→Zb11,eq_ofNat_of_zero_le→Zb2j,fdiv→Zb2w,toNat_of_nonneg→Zb3j,zero_add→Zb3p,toNat_natCast→Zb3r,natCast_zero→Zb3w,ofNat_zero→Zb31,lt_irrefl→Zb35,add_zero→Zb37
open Nat renaming lt_succ_self→Zb1x,le_refl→Zb18,two_pow_add_eq_or_of_lt→Zb2b,mul_comm→Zb2s,mul_le_mul_right→Zb2t,testBit_two_pow→Zb2u,add_comm→Zb28,pow_succ→Zb3a,zero_le→Zb3e,div_lt_of_lt_mul→Zb3h,add_assoc→Zb3i,zero_add→Zb3o,one_mul→Zb3u,lt_irrefl→Zb34,lt_trans→Zb38
open Prod renaming mk→Zb3q
open Array renaming toList_inj→Zb3v
namespace Go.CL
open Go Go.RowKit Go.Proofs
theorem Z0t (a0:Zb) (a1:Zw) (a2:Zm) {r:Int×Zb×Zm} (H0:Zjo a0 a1 a2=some r):FnB Zb1f 140 [.box Zg a0 r.2.1,.val (Z6.pd a1),.box Z3 a2 r.2.2] (pInt .i64 r.1):=by
 unfold Zjo at H0
 refine Zf2 (N:=28) Tryz.func140 rfl rfl (Qe rfl) rfl rfl (fun a g0 bs hbs s b=>?_)
 obtain⟨b0,b2,rfl⟩:=Zpd hbs
 replace s:St 28 [(0,(Zbm (some b0) Zg 0 a0)),(1,(Z6.pd a1)),(2,(Zbm (some b2) Z3 2 a2))] _ _:=s
 refine U4 [5,25,0] s b Za
  (U2 [15] (Zbt rfl rfl U0)<|U2 [] (Zc rfl rfl U6)<|U3) fun a g s b=>?_
 refine wp_seq<|U4 [5,15,25,110] s b Za
  (Af Zd8 25 rfl<|Al U8 0 rfl<|Am 5 rfl<|U2 [0] (Zz rfl rfl U0)<|U2 [0] (Zv Zdc (off:=1) (by kernel_rfl) rfl rfl U0)<|AP U8 0 rfl<|Am 5 rfl<|U2 [0] (Zz rfl rfl U0)<|U2 [0] (Zv Zjt (off:=2) (by kernel_rfl) rfl rfl U0)<|AP U8 0 rfl<|U2 [40,0] (Zei rfl rfl U0 U1 rfl)<|U2 [90,0] (Zcn rfl rfl U0 U1)<|U3) fun a g s b=>?_
 refine Zs (s.bool 3 rfl) H0 (fun H0=>?_) (fun H0=>?_)
 refine U4 [5,15,0] (L:=[(0,_),(2,_)]) (s.pi [0,1] rfl) b Za
  (U2 [] (Zc rfl rfl U6)<|U3) fun a g s b=>?_
 refine wp_ret<|Zp ?_
 obtain rfl:=Oi H0
 exact Zgk rfl s b (Zf (s:=6)) (s.at 2 rfl) ⟨Zdu (s.at 0 rfl),Zdu (s.at 1 rfl),trivial⟩
 refine wp_skip<|Zl ?_
 refine U4 [90,15] (L:=[(0,_),(2,_),(4,_)]) (s.pi [0,1,2] rfl) b Za
  (Am 5 rfl<|U2 [0] (Zz rfl rfl U0)<|U2 [0] (Zv Zdc (off:=1) (by kernel_rfl) rfl rfl U0)<|AP U8 0 rfl<|Af Zd8 25 rfl<|Al U8 0 rfl<|U2 [20,0] (Zei rfl rfl U0 U1 rfl)<|U2 [60] (Zz rfl rfl U0)<|U2 [0] (Zv Zdc (off:=1) (by kernel_rfl) rfl rfl U0)<|U2 [20,0,5] (Zpj U8 rfl rfl U7 U1 U0)<|U3) fun a g s b=>?_
 refine U4 [5,15,0] s b Za
  (U2 [] (Zc rfl rfl U6)<|U3) fun a g s b=>?_
 refine wp_ret ?_
 obtain rfl:=Oi H0
 exact Zgk rfl s b (Zf (s:=6)) (s.at 2 rfl) ⟨Zdu (s.at 0 rfl),Zdu (s.at 1 rfl),trivial⟩
theorem Zny (h:Nat) (he:Zi Zb1f h) (ψ:Nat→Nat→Option Nat) (hψ:∀x y z,ψ x y=some z→FnOk Zb1f h [pFlt x,pFlt y] (pFlt z)) (a0:Zb) (a1:Zw) (a2:Zm) {z:Nat} (hz:ψ a0.Real a1.X=some z):FnB Zb1f 164 [.box Zg a0 {a0 with Real:=z},.val (Z6.pd a1),.box Z3 a2 a2,.val (Kd.fnc.ptr h)] (pInt .i64 0):=by
 refine Zf2 (N:=19) Tryz.func164 rfl rfl (Qe rfl) rfl rfl (fun a g0 bs hbs s b=>?_)
 obtain⟨b0,b2,rfl⟩:=Zpd hbs
 replace s:St 19 [(0,(Zbm (some b0) Zg 0 a0)),(1,(Z6.pd a1)),(2,(Zbm (some b2) Z3 2 a2)),(3,(Kd.fnc.ptr h))] _ _:=s
 refine r_s (T:=[⟨[.o 1],_,[],[],[5]⟩,⟨[],_,[],[],[7]⟩]) (F:=[.o 0,.o 2,.o 3,.p 0 0]) s b Za
  (Qb rfl U0<|Qa rfl U6<|o_n) fun a g s b=>?_
 refine r_s (T:=[⟨[.o 0],_,[],[],[8]⟩,⟨[.o 2],_,[],[],[9]⟩,⟨[.o 0],_,[],[],[10]⟩,⟨[.p 2 0],_,[],[2],[11]⟩,⟨[.p 3 0],_,[],[2,3],[12]⟩,⟨[.p 4 0],_,[],[2,3,4],[13]⟩,⟨[.o 3],_,[],[],[14]⟩,⟨[.p 6 0],_,[],[6],[15]⟩,⟨[.p 1 0,.p 5 0,.p 7 0],[(16,(pFlt z))],[],[1,2,3,4,5,6,7],[16]⟩,⟨[.p 0 0],_,[],[0,1,2,3,4,5,6,7,8],[17]⟩,⟨[.p 9 0],_,[],[0,1,2,3,4,5,6,7,8,9],[18]⟩,⟨[.p 8 0,.p 10 0,.o 0],_,[1],[0,1,2,3,4,5,6,7,8,9,10],[0,8,10,11,12,17,18]⟩]) (F:=[.p 11 0,.o 1]) s b Za
  (Qm rfl U0<|Ql rfl Zbnc U0<|Qm rfl U0<|o_p rfl (Zvy rfl rfl U0 (fun _ _ ⟨_,_,_,e,_⟩=>⟨_,e⟩))<|o_p rfl (Zv Zga (off:=4) (by kernel_rfl) rfl rfl U0)<|QP rfl Zdk U0<|Qf rfl Zit U0<|Ql rfl Zdk U0<|o_p rfl (Zxo (C:=[]) (hC:=rfl) he (hψ _ _ _ hz) rfl rfl (Opd.imp U0 (fun _ _ h=>Zbnp h)) (.cons U1 (.cons U7 .nil)))<|o_p rfl (Zvy rfl rfl U0 (fun _ _ ⟨_,_,_,e,_⟩=>⟨_,e⟩))<|o_p rfl (Zv Zga (off:=4) (by kernel_rfl) rfl rfl U0)<|o_p rfl (Zsb Zdk rfl rfl U7 U1 U0)<|o_n) fun a g s b=>?_
 refine r_s (T:=[⟨[],_,[],[],[7]⟩]) (F:=[.o 0,.o 1,.p 0 0]) s b Za
  (Qa rfl U6<|o_n) fun a g s b=>?_
 exact wp_ret<|Zgk rfl s b (Zf (s:=7)) (s.at 2 rfl) ⟨Zdu (s.at 0 rfl),Zdu (s.at 1 rfl),trivial⟩
theorem Zpi (h:Nat):FnOk Zb1f 141 [(Kd.fnc.pd h)] (pClo 164 [(Kd.fnc.ptr h)] rfl):=by
 refine Zb9 (N:=4) Tryz.func141 rfl rfl (Qe rfl) rfl rfl (fun a g0 s b=>?_)
 refine r_s (T:=[⟨[.o 0],_,[],[],[1]⟩,⟨[],[],[],[],[2]⟩]) (F:=[.p 0 0]) s b Za
  (Qb rfl U0<|o_p rfl (Zl2 (.inr rfl))<|o_n) fun a g s b=>?_
 refine r_s (T:=[⟨[.o 0],[(3,(pClo 164 [(Kd.fnc.ptr h)] rfl))],[],[],[3]⟩,⟨[.p 0 0],_,[],[0],[2]⟩]) (F:=[.p 1 0]) s b Za
  (o_p rfl (Zbb4 rfl rfl (.cons U0 .nil))<|Qa rfl U0<|o_n) fun a g s b=>?_
 exact wp_ret<|Zba rfl s b (Zf (s:=2)) (s.at 0 rfl)
theorem Zbgh (a0:Nat) (a1:Nat) {r:Nat} (H0:Zp9 a0 a1=some r):FnOk Zb1f 142 [(pFlt a0),(pFlt a1)] (pFlt r):=by
 unfold Zp9 at H0
 refine Zb9 (N:=12) Tryz.func142 rfl rfl (Qe rfl) rfl rfl (fun a g0 s b=>?_)
 refine U4 [5,15] s b Za
  (U2 [] (Zc rfl rfl c_f)<|U3) fun a g s b=>?_
 refine wp_seq ?_
 obtain⟨r1,h2,H0⟩:=Zd H0
 refine U4 [5,15,20] s b Za
  (Am 5 rfl<|Am 15 rfl<|U2 [10,0] (Zt Zbbs (Zv0 _ _ h2) rfl rfl (.cons U0 (.cons U1 .nil)))<|U3) fun a g s b=>?_
 refine Zs (s.bool 2 rfl) H0 (fun H0=>?_) (fun H0=>?_)
 obtain⟨r4,h5,H0⟩:=Zd H0
 refine U4 [20] (L:=[(1,_)]) (s.pi [1] rfl) b Za
  (Am 5 rfl<|U2 [0] (Zt Ztg (Zkl _ h5) rfl rfl (.cons U0 .nil))<|Aa 0 rfl<|U3) fun a g s b=>?_
 refine wp_ret<|Zp ?_
 obtain rfl:=Oi H0
 exact Zba rfl s b (Zf (s:=4)) (s.at 0 rfl)
 refine wp_skip<|Zl ?_
 obtain⟨r6,h7,H0⟩:=Zd H0
 refine U4 [20] (L:=[(0,_)]) (s.pi [0] rfl) b Za
  (Am 5 rfl<|U2 [0] (Zt Ztg (Zkl _ h7) rfl rfl (.cons U0 .nil))<|Aa 0 rfl<|U3) fun a g s b=>?_
 refine wp_ret ?_
 obtain rfl:=Oi H0
 exact Zba rfl s b (Zf (s:=4)) (s.at 0 rfl)
theorem Zbez (a0:Nat) (a1:Nat) {r:Nat} (H0:Zqc a0 a1=some r):FnOk Zb1f 143 [(pFlt a0),(pFlt a1)] (pFlt r):=by
 unfold Zqc at H0
 refine Zb9 (N:=12) Tryz.func143 rfl rfl (Qe rfl) rfl rfl (fun a g0 s b=>?_)
 refine U4 [5,15] s b Za
  (U2 [] (Zc rfl rfl c_f)<|U3) fun a g s b=>?_
 refine wp_seq ?_
 obtain⟨r1,h2,H0⟩:=Zd H0
 refine U4 [5,15,20] s b Za
  (Am 15 rfl<|Am 5 rfl<|U2 [10,0] (Zt Zbbs (Zv0 _ _ h2) rfl rfl (.cons U0 (.cons U1 .nil)))<|U3) fun a g s b=>?_
 refine Zs (s.bool 2 rfl) H0 (fun H0=>?_) (fun H0=>?_)
 obtain⟨r4,h5,H0⟩:=Zd H0
 refine U4 [20] (L:=[(1,_)]) (s.pi [1] rfl) b Za
  (Am 5 rfl<|U2 [0] (Zt Ztg (Zkl _ h5) rfl rfl (.cons U0 .nil))<|Aa 0 rfl<|U3) fun a g s b=>?_
 refine wp_ret<|Zp ?_
 obtain rfl:=Oi H0
 exact Zba rfl s b (Zf (s:=4)) (s.at 0 rfl)
 refine wp_skip<|Zl ?_
 obtain⟨r6,h7,H0⟩:=Zd H0
 refine U4 [20] (L:=[(0,_)]) (s.pi [0] rfl) b Za
  (Am 5 rfl<|U2 [0] (Zt Ztg (Zkl _ h7) rfl rfl (.cons U0 .nil))<|Aa 0 rfl<|U3) fun a g s b=>?_
 refine wp_ret ?_
 obtain rfl:=Oi H0
 exact Zba rfl s b (Zf (s:=4)) (s.at 0 rfl)
theorem Zbb3 (a0:Nat) (a1:Nat) {r:Nat} (H0:Zlq a0 a1=some r):FnOk Zb1f 144 [(pFlt a0),(pFlt a1)] (pFlt r):=by
 unfold Zlq at H0
 refine Zb9 (N:=9) Tryz.func144 rfl rfl (Qe rfl) rfl rfl (fun a g0 s b=>?_)
 refine U4 [5,15] s b Za
  (U2 [] (Zc rfl rfl c_f)<|U3) fun a g s b=>?_
 obtain⟨r1,h2,H0⟩:=Zd H0
 refine U4 [40] s b Za
  (Am 5 rfl<|Am 15 rfl<|U2 [10,0] (Z9r rfl rfl U0 U1)<|U2 [0] (Zt Ztg (Zxn (fun r z hr hz=>by simp only[Zh5,hr,hz,Zb1e,if_true]) (fun z r h=>Zkl z h) h2) rfl rfl (.cons U0 .nil))<|Aa 0 rfl<|U3) fun a g s b=>?_
 refine wp_ret ?_
 obtain rfl:=Oi H0
 exact Zba rfl s b (Zf (s:=4)) (s.at 0 rfl)
theorem Zba1 (a0:Nat) (a1:Nat) {r:Nat} (H0:Zkb a0 a1=some r):FnOk Zb1f 145 [(pFlt a0),(pFlt a1)] (pFlt r):=by
 unfold Zkb at H0
 refine Zb9 (N:=9) Tryz.func145 rfl rfl (Qe rfl) rfl rfl (fun a g0 s b=>?_)
 refine U4 [5,15] s b Za
  (U2 [] (Zc rfl rfl c_f)<|U3) fun a g s b=>?_
 obtain⟨r1,h2,H0⟩:=Zd H0
 refine U4 [40] s b Za
  (Am 5 rfl<|Am 15 rfl<|U2 [10,0] (Z97 rfl rfl U0 U1)<|U2 [0] (Zt Ztg (Zxn (fun r z hr hz=>by simp only[Zh5,hr,hz,Zb1e,if_true]) (fun z r h=>Zkl z h) h2) rfl rfl (.cons U0 .nil))<|Aa 0 rfl<|U3) fun a g s b=>?_
 refine wp_ret ?_
 obtain rfl:=Oi H0
 exact Zba rfl s b (Zf (s:=4)) (s.at 0 rfl)
theorem Z00 (a0:Nat) (a1:Nat) {r:Nat} (H0:Zjk a0 a1=some r):FnOk Zb1f 146 [(pFlt a0),(pFlt a1)] (pFlt r):=by
 unfold Zjk at H0
 refine Zb9 (N:=6) Tryz.func146 rfl rfl (Qe rfl) rfl rfl (fun a g0 s b=>?_)
 refine U4 [5] (L:=[(1,_)]) (s.pi [1] rfl) b Za
  (U2 [] (Zc rfl rfl c_f)<|U3) fun a g s b=>?_
 refine U4 [10] s b Za
  (Am 5 rfl<|Aa 0 rfl<|U3) fun a g s b=>?_
 refine wp_ret ?_
 obtain rfl:=Oi H0
 exact Zba rfl s b (Zf (s:=4)) (s.at 0 rfl)
theorem Zk4 (f2:Nat) (C2:List Pd) (hC2:Free C2) (e2_:Zi Zb1f f2) (φ2:Zn→ByteArray→Option Int) (hφ2:∀(y0:Zn) (y1:ByteArray) (r:Int),φ2 y0 y1=some r→FnOk Zb1f f2 ([(Zy.pd y0),(pStr y1)]++C2) (pInt .i64 r)) (a0:List Zn) (a1:ByteArray) {r:Int×Bool} (H0:Zd1 a0 a1 φ2=some r):FnOk Zb1f 167 [(Zy.sl.pd a0),(pStr a1),(pClo f2 C2 hC2)] (pTup [(pInt .i64 r.1),(Zbo r.2)]):=by
 unfold Zd1 at H0
 refine Zb9 (N:=49) Tryz.func167 rfl rfl (Qe rfl) rfl rfl (fun a g0 s b=>?_)
 refine U4 [5,15,25] s b Za
  (U2 [] (Zc rfl rfl U6)<|U2 [] (Zc rfl rfl c_b)<|U3) fun a g s b=>?_
 refine U4 [5,15,25,20,0] s b Za
  (Am 5 rfl<|U2 [0] (Zbv Zb1k rfl rfl U0)<|Aa 0 rfl<|U3) fun a g s b=>?_
 refine U4 [5,15,25,35,10,20,45] s b Za
  (Am 35 rfl<|U2 [] (Zc rfl rfl U6)<|Aa 10 rfl<|U3) fun a g s b=>?_
 obtain⟨z12,hz1,H0⟩:=Zd H0
 refine wp_seq<|Zbq (fun a w=>∃(y11:Int) (g:G),Jn 49 [(0,(Zy.sl.pd a0)),(1,(pStr a1)),(2,(pClo f2 C2 hC2)),(8,(pInt .i64 (a0.length:Int))),(9,(pInt .i64 y11)),(12,(Zy.sl.pd a0))] a w g0 g (y11=z12)) ?_ ?_
 ·rintro a w ⟨y11,g,rfl,s,b,rfl⟩
  refine Zl ?_
  obtain⟨e13,h14,H0⟩:=Zd H0;obtain⟨r15,h16,H0⟩:=Zd H0
  refine U4 [140,150] s b Za
   (Am 45 rfl<|Am 45 rfl<|Am 35 rfl<|U2 [10,0] (Zcj rfl rfl U0 U1)<|Am 0 rfl<|Gt [0,25] rfl (fun h=>Zx rfl rfl U0)<|Gt [10,5] rfl (fun h=>Zx rfl rfl U0)<|Gt [20,45] rfl (fun h=>Zx rfl rfl U0)<|Gt [30,10,0] rfl (fun h=>Zbn Zb1k Zf1 rfl rfl (V1 h U0) (V1 h U1) (Zcb h14 h))<|Gt [40,0] rfl (fun h=>Z2 Zev rfl rfl (V1 h U0))<|Gt [50,15] rfl (fun h=>Zx rfl rfl U0)<|Gt [60,50,10,0] rfl (fun h=>Zxo e2_ (hφ2 _ _ _ (Zcb h16 h)) rfl rfl (V1 h U0) (.cons (V1 h U1) (.cons (V1 h U7) .nil)))<|Gt [70,0] rfl (fun h=>Zb0 rfl rfl (V1 h U0) U6)<|U2 [80,0] (Zbs rfl rfl U0 (fun hz=>(V1 hz U1)))<|Aa 130 rfl<|Aa 10 rfl<|U3) fun a g s b=>?_
  refine wp_ret ?_
  obtain rfl:=Oi H0
  exact Zdq rfl s b (Zf (s:=6)) (Zf (s:=7)) (Zcr (s.at 0 rfl) (s.at 1 rfl))
 ·refine wp_block<|wp_loop_ghost (fun n a w=>∃(x1:Int) (x2:Int) (g:G),Jn 49 [(0,(Zy.sl.pd a0)),(1,(pStr a1)),(2,(pClo f2 C2 hC2)),(8,(pInt .i64 (a0.length:Int))),(9,(pInt .i64 x1)),(10,(pInt .i64 x2)),(12,(Zy.sl.pd a0))] a w g0 g (Zca a0 a1 φ2 n x1 x2=some z12)) (Zb1j ((a0.length:Int)-(0:Int))+1) ⟨(0:Int),(a0.length:Int),g,rfl,(s.pi [0,1,2,3,4,5,6] rfl),b,hz1⟩ (fun n a w hI=>?_)
  obtain⟨x1,x2,g,rfl,s,b,H1⟩:=hI
  cases n with
  | zero=>exact absurd H1 (by simp[Zca])
  | succ n =>
   rw[Zca]at H1
   refine wp_seq<|U4 [5,15,25,35,45,55,65,20] s b Za
    (Am 45 rfl<|Am 55 rfl<|U2 [10,0] (Zcj rfl rfl U0 U1)<|U3) fun a g s b=>?_
   refine Zs (s.bool 7 rfl) H1 (fun H1=>?_) (fun H1=>?_)
   ·refine wp_skip<|Zl ?_
    refine Zbq (fun a w=>∃(j9:Int) (j10:Int) (g:G),Jn 49 [(0,(Zy.sl.pd a0)),(1,(pStr a1)),(2,(pClo f2 C2 hC2)),(8,(pInt .i64 (a0.length:Int))),(9,(pInt .i64 j9)),(10,(pInt .i64 j10)),(12,(Zy.sl.pd a0))] a w g0 g (Zc8 (Zca a0 a1 φ2 n) j9 j10=some z12)) ?_ ?_
    ·rintro a w ⟨j9,j10,g,rfl,s,b,H1⟩
     unfold Zc8 at H1
     exact⟨n,Zb1x _,j9,j10,g,rfl,(s.pi [0,1,2,3,4,5,6] rfl),b,H1⟩
    ·refine wp_block<|U4 [5,15,25,35,45,55,60,65] (L:=[(0,_),(1,_),(2,_),(8,_),(9,_),(10,_),(12,_)]) (s.pi [0,1,2,3,4,5,6] rfl) b Za
      (Am 45 rfl<|Am 55 rfl<|U2 [10,0] (Zbw rfl rfl U0 U1 rfl)<|U2 [0] (Zek Zb27 Zb3l rfl rfl U0 rfl)<|U2 [0] (Zyi rfl rfl U0 U6 (by decide) rfl)<|U2 [0] (Zek Zb3l Zb27 rfl rfl U0 rfl)<|Aa 0 rfl<|U3) fun a g s b=>?_
     obtain⟨e4,h5,H1⟩:=Zd H1;obtain⟨r6,h7,H1⟩:=Zd H1
     refine U4 [5,15,25,35,45,55,65,75,70] s b Za
      (Am 25 rfl<|Am 5 rfl<|Am 65 rfl<|U2 [10,0] (Zbn Zb1k Zf1 rfl rfl U0 U1 h5)<|Al Zev 0 rfl<|Am 15 rfl<|U2 [50,10,0] (Zxo e2_ (hφ2 _ _ _ h7) rfl rfl U0 (.cons U1 (.cons U7 .nil)))<|U2 [0] (Zcj rfl rfl U0 U6)<|U3) fun a g s b=>?_
     refine Zs (s.bool 8 rfl) H1 (fun H1=>?_) (fun H1=>?_)
     ·refine U5 [5,15,25,35,20,45,65] (L:=[(0,_),(1,_),(2,_),(8,_),(10,_),(11,_),(12,_)]) (s.pi [0,1,2,3,5,6,7] rfl) b Za
       (Am 55 rfl<|U2 [0] (Zbw rfl rfl U0 U6 rfl)<|Aa 0 rfl<|U3) fun a g s b=>?_
      exact Zbb<|⟨(Zb1i.wrap ((Zb1i.wrap (Zb2w (Zb1t.wrap (Zb1i.wrap (x1+x2))) (2^1)))+(1:Int))),x2,g,rfl,(s.pi [0,1,2,3,4,5,6] rfl),b,H1⟩
     ·refine U5 [5,15,25,35,45,10,65] (L:=[(0,_),(1,_),(2,_),(8,_),(9,_),(11,_),(12,_)]) (s.pi [0,1,2,3,4,6,7] rfl) b Za
       (Am 55 rfl<|Aa 0 rfl<|U3) fun a g s b=>?_
      exact Zbb<|⟨x1,(Zb1i.wrap (Zb2w (Zb1t.wrap (Zb1i.wrap (x1+x2))) (2^1))),g,rfl,(s.pi [0,1,2,3,4,5,6] rfl),b,H1⟩
   ·refine wp_exit<|Zbx ?_
    refine Zbx<|Zcg ?_
    exact⟨x1,g,rfl,(s.pi [0,1,2,3,4,6] rfl),b,Oi H1⟩
theorem Z5o (a0:Zn) (a1:ByteArray) {r:Int} (H0:Zm8 a0 a1=some r):FnOk Zb1f 168 [(Zy.pd a0),(pStr a1)] (pInt .i64 r):=by
 unfold Zm8 at H0
 refine Zb9 (N:=15) Tryz.func168 rfl rfl (Qe rfl) rfl rfl (fun a g0 s b=>?_)
 refine U4 [15,0] s b Za
  (U2 [5] (Zbt rfl rfl U0)<|U2 [] (Zc rfl rfl U6)<|U3) fun a g s b=>?_
 refine wp_seq<|wp_block ?_
 refine U4 [5,15,40] s b Za
  (Af Zeq 15 rfl<|Al V0 0 rfl<|Am 5 rfl<|U2 [10,0] (Zro rfl rfl U0 U1)<|Aa 0 rfl<|U3) fun a g s b=>?_
 refine Zs (s.bool 2 rfl) H0 (fun H0=>?_) (fun H0=>?_)
 refine U4 [0] (L:=[]) (s.pi [] rfl) b Za
  (U2 [] (Zc rfl rfl U6)<|U3) fun a g s b=>?_
 refine wp_ret<|Z5 ?_
 refine Zp ?_
 obtain rfl:=Oi H0
 exact Zba rfl s b (Zf (s:=4)) (s.at 0 rfl)
 refine U4 [40] (L:=[(1,_),(2,_)]) (s.pi [0,1] rfl) b Za
  (Af Zeq 15 rfl<|Al V0 0 rfl<|Am 5 rfl<|U2 [10,0] (Z25 rfl rfl U0 U1)<|Aa 0 rfl<|U3) fun a g s b=>?_
 refine Zs (s.bool 0 rfl) H0 (fun H0=>?_) (fun H0=>?_)
 refine U4 [0] (L:=[]) (s.pi [] rfl) b Za
  (U2 [] (Zc rfl rfl U6)<|U3) fun a g s b=>?_
 refine wp_ret<|Z5 ?_
 refine Zp ?_
 obtain rfl:=Oi H0
 exact Zba rfl s b (Zf (s:=4)) (s.at 0 rfl)
 refine wp_skip<|Zbb ?_
 refine Zl<|U4 [0] (L:=[]) (s.pi [] rfl) b Za
  (U2 [] (Zc rfl rfl U6)<|U3) fun a g s b=>?_
 refine wp_ret ?_
 obtain rfl:=Oi H0
 exact Zba rfl s b (Zf (s:=4)) (s.at 0 rfl)
theorem Zuk (a0:List Zn) (a1:ByteArray) {r:Int×Bool} (H0:Zpm a0 a1=some r):FnOk Zb1f 149 [(Zy.sl.pd a0),(pStr a1)] (pTup [(pInt .i64 r.1),(Zbo r.2)]):=by
 unfold Zpm at H0
 refine Zb9 (N:=11) Tryz.func149 rfl rfl (Qe rfl) rfl rfl (fun a g0 s b=>?_)
 refine U4 [5,15] s b Za
  (U2 [] (Zc rfl rfl U6)<|U2 [] (Zc rfl rfl c_b)<|U3) fun a g s b=>?_
 obtain⟨r1,h2,H0⟩:=Zd H0
 refine U4 [50,60] s b Za
  (Am 5 rfl<|Am 15 rfl<|U2 [10,0] (Zt Zbqa (Zk4 168 [] rfl Zbps (fun y0 y1=>Zm8 y0 y1) (fun y0 y1 r h=>Z5o y0 y1 h) _ _ h2) rfl rfl (.cons U0 (.cons U1 (.cons Opd.fnc .nil))))<|U2 [0] (Z7 rfl rfl U0 rfl)<|U2 [10] (Z7 rfl rfl U0 rfl)<|Aa 10 rfl<|Aa 10 rfl<|U3) fun a g s b=>?_
 refine wp_ret ?_
 obtain rfl:=Oi H0
 exact Zdq rfl s b (Zf (s:=4)) (Zf (s:=5)) (Zcr (s.at 0 rfl) (s.at 1 rfl))
set_option maxHeartbeats 1000000 in
theorem Zk2 (a0:List Zn) (a1:Int) (a2:List Zn) {r:List Zn} (h:Zc3 a0 a1 a2=some r):Z7w Zb1f 166 Zy 139 a0 [(pInt .i64 a1),(Zy.sl.pd a2)] (Zy.sl.pd r):=by
 unfold Zc3 at h
 obtain⟨⟨hi0,hi1,hm,hsz⟩,H0⟩:=Zdr h
 obtain rfl:=Oi H0
 obtain⟨k,rfl⟩:=Zb2j hi0
 have hk:k≤a0.length:=by omega
 have hb0:(a0.length+a2.length)≤140737488355328:=Nat.le_trans (Nat.le_mul_of_pos_right _ (by decide)) hsz
 simp only[Zb3r]
 refine Zbbv (N:=95) Tryz.func166 rfl rfl (Qe rfl) rfl (fun hx a g A0 s b=>?_) (fun a g cap hcap hmax s b=>?_)
 subst hx
 obtain rfl:k=0:=by simpa using hk
 refine r_s (T:=[⟨[],[(6,(Zy.sl.pd []))],[],[],[6]⟩]) (F:=[.o 0,.o 1,.o 2]) s b Za
  (o_p rfl (Zc rfl rfl (Opd.c (fun g=>Zdv g)))<|o_n) fun a g s b=>?_
 refine r_s (T:=[⟨[.o 0],_,[],[],[10]⟩,⟨[.o 1],_,[],[],[11]⟩,⟨[.p 0 0,.p 1 0],_,[],[0,1],[12]⟩]) (F:=[.o 0,.o 1,.o 2]) s b Za
  (Qm rfl U0<|Qm rfl U0<|o_p rfl (Zbig Zd4 rfl U0 U1)<|o_n) fun a g s b=>?_
 refine r_s (T:=[⟨[.o 2],_,[],[],[13]⟩,⟨[.p 0 0],_,[],[0],[14]⟩,⟨[.p 1 0],_,[],[0,1],[7]⟩]) (F:=[.o 0,.o 1,.o 2,.p 2 0]) s b Za
  (Qm rfl U0<|o_p rfl (Zbv Zb1k rfl rfl U0)<|Qa rfl U0<|o_n) fun a g s b=>?_
 refine wp_seq<|r_s (T:=[⟨[.o 3],_,[],[],[15]⟩,⟨[.p 0 0],_,[],[0],[16]⟩]) (F:=[.o 0,.o 1,.o 2,.o 3,.p 1 0]) s b Za
  (Qm rfl U0<|o_p rfl (Zb0 rfl rfl U0 U6)<|o_n) fun a g s b=>?_
 refine wp_cond_split (s.bool 4 rfl) (fun hc=>?_) (fun hc=>?_)
 exact absurd (beq_iff_eq.1 hc) (by omega)
 refine wp_skip<|Zl ?_
 refine r_s (L:=[(0,_),(1,_),(2,_),(7,_)]) (T:=[⟨[.o 0],_,[],[],[18]⟩,⟨[.p 0 0],_,[],[0],[19]⟩,⟨[.p 1 0],_,[],[0,1],[8]⟩]) (F:=[.o 0,.o 1,.o 2,.o 3,.p 2 0]) (s.pi [0,1,2,3] rfl) b Za
  (Qm rfl U0<|o_p rfl (Zbos Zb1k rfl rfl U0)<|Qa rfl U0<|o_n) fun a g s b=>?_
 refine wp_seq<|r_s (T:=[⟨[.o 1],_,[],[],[20]⟩,⟨[.o 4],_,[],[],[21]⟩,⟨[.p 0 0,.p 1 0],_,[],[0,1],[22]⟩]) (F:=[.o 0,.o 1,.o 2,.o 3,.o 4,.p 2 0]) s b Za
  (Qm rfl U0<|Qm rfl U0<|o_p rfl (Zb0 rfl rfl U0 U1)<|o_n) fun a g s b=>?_
 refine wp_cond_split (s.bool 5 rfl) (fun hc=>?_) (fun hc=>?_)
 refine r_s (L:=[(0,_),(2,_)]) (T:=[⟨[.o 0],_,[],[],[23]⟩,⟨[.o 1],_,[],[],[24]⟩,⟨[.p 0 0,.p 1 0],[(25,(pOwn Zy 139 25 none (a2.map some)))],[26],[0,1],[25]⟩,⟨[.p 2 0],_,[],[0,1,2],[6]⟩]) (F:=[.p 3 0]) (s.pi [0,2] rfl) b Za
  (Qm rfl U0<|Qm rfl U0<|o_p rfl (Zbe7 Zd4 rfl rfl U0 U1 hm (by simpa using hsz))<|Qa rfl U0<|o_n) fun a g s b=>?_
 refine wp_ret<|Zp ?_
 have hq:=s.at 0 rfl
 have he:([]:List Zn).take 0++a2++([]:List Zn).drop 0=a2:=by simp
 rw[he]
 exact Zwo rfl s b (Zf (s:=6)) hq
 exact absurd hc (by simp)
 refine r_s (T:=[⟨[],[(6,(Zy.sl.pd []))],[],[],[6]⟩]) (F:=[.o 0,.o 1,.o 2]) s b Za
  (o_p rfl (Zc rfl rfl (Opd.c (fun g=>Zdv g)))<|o_n) fun a g s b=>?_
 refine r_s (T:=[⟨[.o 0],_,[],[],[10]⟩,⟨[.o 1],_,[],[],[11]⟩,⟨[.p 0 0,.p 1 0],_,[],[0,1],[12]⟩]) (F:=[.o 0,.o 1,.o 2]) s b Za
  (Qm rfl U0<|Qm rfl U0<|o_p rfl (Zj5 Zd4 (by simpa using hk) rfl rfl U0 U1)<|o_n) fun a g s b=>?_
 refine r_s (T:=[⟨[.o 2],_,[],[],[13]⟩,⟨[.p 0 0],_,[],[0],[14]⟩,⟨[.p 1 0],_,[],[0,1],[7]⟩]) (F:=[.o 0,.o 1,.o 2,.p 2 0]) s b Za
  (Qm rfl U0<|o_p rfl (Zbv Zb1k rfl rfl U0)<|Qa rfl U0<|o_n) fun a g s b=>?_
 refine wp_seq<|r_s (T:=[⟨[.o 3],_,[],[],[15]⟩,⟨[.p 0 0],_,[],[0],[16]⟩]) (F:=[.o 0,.o 1,.o 2,.o 3,.p 1 0]) s b Za
  (Qm rfl U0<|o_p rfl (Zb0 rfl rfl U0 U6)<|o_n) fun a g s b=>?_
 refine wp_cond_split (s.bool 4 rfl) (fun hc=>?_) (fun hc=>?_)
 exact absurd (beq_iff_eq.1 hc) (by omega)
 refine wp_skip<|Zl ?_
 refine r_s (L:=[(0,_),(1,_),(2,_),(7,_)]) (T:=[⟨[.o 0],_,[],[],[18]⟩,⟨[.p 0 0],_,[],[0],[19]⟩,⟨[.p 1 0],_,[],[0,1],[8]⟩]) (F:=[.o 0,.o 1,.o 2,.o 3,.p 2 0]) (s.pi [0,1,2,3] rfl) b Za
  (Qm rfl U0<|o_p rfl (Zz6 Zb1k rfl rfl U0)<|Qa rfl U0<|o_n) fun a g s b=>?_
 refine wp_seq<|r_s (T:=[⟨[.o 1],_,[],[],[20]⟩,⟨[.o 4],_,[],[],[21]⟩,⟨[.p 0 0,.p 1 0],_,[],[0,1],[22]⟩]) (F:=[.o 0,.o 1,.o 2,.o 3,.o 4,.p 2 0]) s b Za
  (Qm rfl U0<|Qm rfl U0<|o_p rfl (Zb0 rfl rfl U0 U1)<|o_n) fun a g s b=>?_
 refine wp_cond_split (s.bool 5 rfl) (fun hc=>?_) (fun hc=>?_)
 refine r_s (L:=[(0,_),(2,_)]) (T:=[⟨[.o 0],_,[],[],[23]⟩,⟨[.o 1],_,[],[],[24]⟩,⟨[.p 0 0,.p 1 0],_,[1],[0,1],[25,0,23]⟩,⟨[.p 2 0],_,[],[0,1,2],[6]⟩]) (F:=[.p 3 0]) (s.pi [0,2] rfl) b Za
  (Qm rfl U0<|Qm rfl U0<|o_p rfl (Z27 Zd4 rfl rfl U0 U1 hsz)<|Qa rfl U0<|o_n) fun a g s b=>?_
 refine wp_ret<|Zp ?_
 have hq:=s.at 0 rfl
 have hkn:=beq_iff_eq.1 hc
 simp only[Zb1q]at hkn
 have hkn:k=a0.length:=by omega
 have he:a0.take k++a2++a0.drop k=a0++a2:=by simp[hkn]
 rw[he]
 exact Zwo rfl s b (Zf (s:=6)) hq
 have hkn:k≠a0.length:=fun h=>(beq_eq_false_iff_ne.1 hc) (by simp only[Zb1q];omega)
 refine wp_skip<|Zl ?_
 refine wp_seq<|r_s (L:=[(0,_),(1,_),(2,_),(7,_),(8,_)]) (T:=[⟨[.o 4],_,[],[],[26]⟩,⟨[.o 3],_,[],[],[27]⟩,⟨[.p 0 0,.p 1 0],_,[],[0,1],[28]⟩,⟨[.o 0],_,[],[],[29]⟩,⟨[.p 3 0],_,[],[3],[30]⟩,⟨[.p 2 0,.p 4 0],_,[],[0,1,2,3,4],[31]⟩]) (F:=[.o 0,.o 1,.o 2,.o 3,.o 4,.p 5 0]) (s.pi [0,1,2,3,4] rfl) b Za
  (Qm rfl U0<|Qm rfl U0<|o_p rfl (Zbw rfl rfl U0 U1 (Zz9 (by simp only[Zb1q];omega)))<|Qm rfl U0<|o_p rfl (Zbop Zb1k rfl rfl U0)<|o_p rfl (Zcn rfl rfl U0 U1)<|o_n) fun a g s b=>?_
 refine wp_cond_split (s.bool 5 rfl) (fun hc2=>?_) (fun hc2=>?_)
 have hgr:cap<k+(a0.length+a2.length-k):=by have:=of_decide_eq_true hc2;simp only[Zb1q]at this;omega
 refine r_s (L:=[(0,_),(1,_),(2,_),(7,_),(8,_)]) (T:=[⟨[.o 0],_,[],[],[32]⟩,⟨[.o 1],_,[],[],[33]⟩,⟨[.p 0 0,.p 1 0],_,[],[0,1],[34]⟩,⟨[.o 4],_,[],[],[35]⟩,⟨[.o 3],_,[],[],[36]⟩,⟨[.p 3 0,.p 4 0],_,[],[3,4],[37]⟩,⟨[.o 1],_,[],[],[38]⟩,⟨[.p 5 0,.p 6 0],_,[],[3,4,5,6],[39]⟩,⟨[.p 2 0,.p 7 0,.o 0],[(40,(pOwn Zy 139 40 none ((a0.take k).map some++Zb1m (a0.length+a2.length-k) none)))],[41],[0,1,2,3,4,5,6,7],[40]⟩,⟨[.p 8 0],_,[],[0,1,2,3,4,5,6,7,8],[9]⟩]) (F:=[.o 0,.o 1,.o 2,.o 3,.p 9 0]) (s.pi [0,1,2,3,4] rfl) b Za
  (Qm rfl U0<|Qm rfl U0<|o_p rfl (Zyr Zd4 (by simpa using hk) rfl rfl U0 U1)<|Qm rfl U0<|Qm rfl U0<|o_p rfl (Zbw rfl rfl U0 U1 (Zz9 (by simp only[Zb1q];omega)))<|Qm rfl U0<|o_p rfl (Zei rfl rfl U0 U1 (Zbo4 (n:=a0.length+a2.length) (by simp only[Zb1q]) (by omega) (by omega)))<|o_p rfl (Zbej (s:=0) (d2:=40) (xs:=a0.take k) Zd4 Zb27 (by simp;omega) (by simp;omega) (by omega) hgr (by rw[show k+(a0.length+a2.length-k)=a0.length+a2.length by omega];exact hsz) (Z3h a0 k) rfl rfl U0 U1 U7)<|Qa rfl U0<|o_n) fun a g s b=>?_
 have hl1:(((a0.take k).map some++Zb1m (a0.length+a2.length-k) none):List (Option Zn)).length=a0.length+a2.length:=by simp;omega
 refine r_s (T:=[⟨[.o 4],_,[],[],[41]⟩,⟨[.o 1],_,[],[],[42]⟩,⟨[.p 0 0,.p 1 0],_,[],[0,1],[43]⟩,⟨[.o 2],_,[],[],[44]⟩,⟨[.p 2 0,.p 3 0,.o 4],_,[41],[0,1,2,3],[45,9,41,43]⟩]) (F:=[.o 0,.o 1,.o 2,.o 3,.p 4 1]) s b Za
  (Qm rfl U0<|Qm rfl U0<|o_p rfl (Zj5 Zd4 (by rw[hl1];omega) rfl rfl U0 U1)<|Qm rfl U0<|o_p rfl (Zbao (s:=9) Zd4 (by rw[hl1];omega) (by rw[hl1];omega) rfl rfl (by decide) U0 U1 U7)<|o_n) fun a g s b=>?_
 have hl2:(over (((a0.take k).map some++Zb1m (a0.length+a2.length-k) none):List (Option Zn)) k a2).length=a0.length+a2.length:=by rw[Zq6 (by rw[hl1];omega),hl1]
 refine r_s (T:=[⟨[.o 4],_,[],[],[46]⟩,⟨[.o 1],_,[],[],[47]⟩,⟨[.o 3],_,[],[],[48]⟩,⟨[.p 1 0,.p 2 0],_,[],[1,2],[49]⟩,⟨[.p 0 0,.p 3 0],_,[],[0,1,2,3],[50]⟩,⟨[.o 0],_,[],[],[51]⟩,⟨[.o 1],_,[],[],[52]⟩,⟨[.p 5 0,.p 6 0],_,[],[5,6],[53]⟩,⟨[.p 4 0,.p 7 0,.o 4,.o 0],_,[41],[0,1,2,3,4,5,6,7],[54,9,46,50]⟩]) (F:=[.p 8 1]) s b Za
  (Qm rfl U0<|Qm rfl U0<|Qm rfl U0<|o_p rfl (Zbw rfl rfl U0 U1 (Zz9 (by omega)))<|o_p rfl (Zj5 Zd4 (by rw[hl2];omega) rfl rfl U0 U1)<|Qm rfl U0<|Qm rfl U0<|o_p rfl (Zj5 Zd4 (by simpa using hk) rfl rfl U0 U1)<|o_p rfl (Zbaf (s:=9) (s2:=0) (ws:=a0.drop k) Zd4 (by rw[hl2];omega) (by simp;omega) (by rw[hl2,Zb1q,Zb2c];exact (Nat.min_eq_left (by omega)).symm) (fun i x hx=>by rw[Zb2y]at hx;rw[Zb20,hx];rfl) rfl rfl (by decide) U0 U1 U7 u_3)<|o_n) fun a g s b=>?_
 refine r_s (T:=[⟨[.o 0],_,[],[],[55]⟩,⟨[.p 0 0],_,[],[0],[6]⟩]) (F:=[.p 1 0]) s b Za
  (Qm rfl U0<|Qa rfl U0<|o_n) fun a g s b=>?_
 refine wp_ret<|Zp ?_
 have hq:=s.at 0 rfl
 rw[ins1 hk]at hq
 exact Zwo rfl s b (Zf (s:=6)) hq
 have hroom:a0.length+a2.length≤cap:=by have:=of_decide_eq_false hc2;simp only[Zb1q]at this;omega
 refine wp_skip<|Zl ?_
 refine r_s (L:=[(0,_),(1,_),(2,_),(7,_),(8,_)]) (T:=[⟨[.o 0],_,[],[],[56]⟩,⟨[.o 4],_,[],[],[57]⟩,⟨[.o 3],_,[],[],[58]⟩,⟨[.p 1 0,.p 2 0],_,[],[1,2],[59]⟩,⟨[.p 0 0,.p 3 0],[(60,(pOwn Zy 139 0 (some cap) (a0.map some++Zb1m (a0.length+a2.length-(a0.map some).length) none)))],[],[0,1,2,3],[60]⟩,⟨[.p 4 0],_,[],[0,1,2,3,4],[0]⟩]) (F:=[.p 5 0,.o 1,.o 2,.o 3]) (s.pi [0,1,2,3,4] rfl) b Za
  (Qm rfl U0<|Qm rfl U0<|Qm rfl U0<|o_p rfl (Zbw rfl rfl U0 U1 (Zz9 (by simp only[Zb1q];omega)))<|o_p rfl (Zbcf (h:=a0.length+a2.length) Zd4 (by simp) hroom rfl rfl U0 (Opd.to U1 (by simp)))<|Qa rfl U0<|o_n) fun a g s b=>?_
 have hl1:((a0.map some++Zb1m (a0.length+a2.length-(a0.map some).length) none):List (Option Zn)).length=a0.length+a2.length:=by simp
 refine wp_seq<|r_s (T:=[⟨[.o 2],_,[],[],[61]⟩,⟨[.o 0],_,[],[],[62]⟩,⟨[.o 1],_,[],[],[63]⟩,⟨[.o 3],_,[],[],[64]⟩,⟨[.p 2 0,.p 3 0],_,[],[2,3],[65]⟩,⟨[.p 1 0,.p 4 0],_,[],[1,2,3,4],[66]⟩,⟨[.p 0 0,.p 5 0,.o 0],_,[],[0,1,2,3,4,5],[67]⟩,⟨[.p 6 0],_,[],[0,1,2,3,4,5,6],[68]⟩]) (F:=[.o 0,.o 1,.o 2,.o 3,.p 7 0]) s b Za
  (Qm rfl U0<|Qm rfl U0<|Qm rfl U0<|Qm rfl U0<|o_p rfl (Zbw rfl rfl U0 U1 (Zz9 (by omega)))<|o_p rfl (Zj5 Zd4 (by rw[hl1];omega) rfl rfl U0 U1)<|o_p rfl (Zbcx (s:=0) Zd4 rfl Zboz (by rw[hl1];omega) rfl rfl U0 U1 U7)<|Qn rfl U0<|o_n) fun a g s b=>?_
 refine wp_cond_split (s.bool 4 rfl) (fun hc3=>?_) (fun hc3=>absurd hc3 (by simp))
 refine r_s (L:=[(0,_),(1,_),(2,_),(7,_)]) (T:=[⟨[.o 0],_,[],[],[69]⟩,⟨[.o 1],_,[],[],[70]⟩,⟨[.o 3],_,[],[],[71]⟩,⟨[.p 1 0,.p 2 0],_,[],[1,2],[72]⟩,⟨[.p 0 0,.p 3 0],_,[],[0,1,2,3],[73]⟩,⟨[.o 0],_,[],[],[74]⟩,⟨[.o 1],_,[],[],[75]⟩,⟨[.p 5 0,.p 6 0],_,[],[5,6],[76]⟩,⟨[.p 4 0,.p 7 0,.o 0,.o 0],_,[1],[0,1,2,3,4,5,6,7],[77,0,69,73,74,76]⟩]) (F:=[.p 8 1,.o 1,.o 2,.o 3]) (s.pi [0,1,2,3] rfl) b Za
  (Qm rfl U0<|Qm rfl U0<|Qm rfl U0<|o_p rfl (Zbw rfl rfl U0 U1 (Zz9 (by omega)))<|o_p rfl (Zj5 Zd4 (by rw[hl1];omega) rfl rfl U0 U1)<|Qm rfl U0<|Qm rfl U0<|o_p rfl (Zj5 Zd4 (by rw[hl1];omega) rfl rfl U0 U1)<|o_p rfl (Zbaf (s:=0) (s2:=0) (ws:=a0.drop k) Zd4 (by rw[hl1];omega) (by rw[hl1];omega) (by rw[hl1,Zb2c];have hm1:Nat.min (a0.length+a2.length-k) (a0.length+a2.length-(k+a2.length))=a0.length+a2.length-(k+a2.length):=Nat.min_eq_right (by omega);rw[hm1];omega) (fun i x hx=>by have hi:=(Zb25.1 hx).1;rw[Zb2c]at hi;rw[Zb2y]at hx;rw[Zb26 (by simp;omega),Zb20,hx];rfl) rfl rfl (by decide) U0 U1 U7 u_3)<|o_n) fun a g s b=>?_
 have hl2:(over ((a0.map some++Zb1m (a0.length+a2.length-(a0.map some).length) none):List (Option Zn)) (k+a2.length) (a0.drop k)).length=a0.length+a2.length:=by rw[Zq6 (by rw[hl1,Zb2c];omega),hl1]
 refine r_s (T:=[⟨[.o 0],_,[],[],[78]⟩,⟨[.o 1],_,[],[],[79]⟩,⟨[.p 0 0,.p 1 0],_,[],[0,1],[80]⟩,⟨[.o 2],_,[],[],[81]⟩,⟨[.p 2 0,.p 3 0,.o 0],_,[1],[0,1,2,3],[82,0,78,80]⟩]) (F:=[.p 4 1]) s b Za
  (Qm rfl U0<|Qm rfl U0<|o_p rfl (Zj5 Zd4 (by rw[hl2];omega) rfl rfl U0 U1)<|Qm rfl U0<|o_p rfl (Zbao (s:=0) Zd4 (by rw[hl2];omega) (by rw[hl2];omega) rfl rfl (by decide) U0 U1 U7)<|o_n) fun a g s b=>?_
 refine r_s (T:=[⟨[.o 0],_,[],[],[83]⟩,⟨[.p 0 0],_,[],[0],[6]⟩]) (F:=[.p 1 0]) s b Za
  (Qm rfl U0<|Qa rfl U0<|o_n) fun a g s b=>?_
 refine wp_ret<|Zp ?_
 have hq:=s.at 0 rfl
 rw[ins2 hk]at hq
 exact Zwo rfl s b (Zf (s:=6)) hq
theorem Z9w (a0:Zb) (a1:Zw) (a2:Zm) {r:Int×Zb×Zm} (H0:Zpt a0 a1 a2=some r):FnB Zb1f 147 [.box Zg a0 r.2.1,.val (Z6.pd a1),.box Z3 a2 r.2.2] (pInt .i64 r.1):=by
 unfold Zpt at H0
 refine Zf2 (N:=46) Tryz.func147 rfl rfl (Qe rfl) rfl rfl (fun a g0 bs hbs s b=>?_)
 obtain⟨b0,b2,rfl⟩:=Zpd hbs
 replace s:St 46 [(0,(Zbm (some b0) Zg 0 a0)),(1,(Z6.pd a1)),(2,(Zbm (some b2) Z3 2 a2))] _ _:=s
 refine U4 [5,25,0] s b Za
  (U2 [15] (Zbt rfl rfl U0)<|U2 [] (Zc rfl rfl U6)<|U3) fun a g s b=>?_
 obtain⟨r1,h2,H0⟩:=Zd H0
 refine U4 [5,15,25,100,110] s b Za
  (Am 5 rfl<|U2 [0] (Zz rfl rfl U0)<|U2 [0] (Zv Zcm (off:=7) (by kernel_rfl) rfl rfl U0)<|AP Zdx 0 rfl<|Af Zfe 25 rfl<|Al V0 0 rfl<|U2 [20,0] (Zt Z83 (Zuk _ _ h2) rfl rfl (.cons U0 (.cons U1 .nil)))<|Am 0 rfl<|U2 [0] (Z7 rfl rfl U0 rfl)<|U2 [10] (Z7 rfl rfl U0 rfl)<|Aa 10 rfl<|Aa 10 rfl<|U3) fun a g s b=>?_
 refine wp_seq<|wp_block ?_
 refine U4 [5,15,25,35,10] s b Za
  (Am 45 rfl<|Aa 0 rfl<|U3) fun a g s b=>?_
 refine Zs (s.bool 4 rfl) H0 (fun H0=>?_) (fun H0=>?_)
 refine U4 [5,15,0] (L:=[(0,_),(2,_)]) (s.pi [0,1] rfl) b Za
  (U2 [] (Zc rfl rfl U6)<|U3) fun a g s b=>?_
 refine wp_ret<|Z5 ?_
 refine Zp ?_
 obtain rfl:=Oi H0
 exact Zgk rfl s b (Zf (s:=6)) (s.at 2 rfl) ⟨Zdu (s.at 0 rfl),Zdu (s.at 1 rfl),trivial⟩
 refine U4 [5,15,25,35,100] (L:=[(0,_),(2,_),(4,_),(7,_)]) (s.pi [0,1,2,3] rfl) b Za
  (Am 5 rfl<|U2 [0] (Zz rfl rfl U0)<|U2 [0] (Zv Zcm (off:=7) (by kernel_rfl) rfl rfl U0)<|AP Zdx 0 rfl<|U2 [0] (Zbv Zb1k rfl rfl U0)<|Am 5 rfl<|U2 [0] (Zz rfl rfl U0)<|U2 [0] (Zv Zhb (off:=5) (by kernel_rfl) rfl rfl U0)<|AP U9 0 rfl<|U2 [40,0] (Zkp rfl rfl U0 U1)<|Aa 0 rfl<|U3) fun a g s b=>?_
 refine Zs (s.bool 4 rfl) H0 (fun H0=>?_) (fun H0=>?_)
 refine U4 [5,15,0] (L:=[(0,_),(2,_)]) (s.pi [0,1] rfl) b Za
  (U2 [] (Zc rfl rfl U6)<|U3) fun a g s b=>?_
 refine wp_ret<|Z5 ?_
 refine Zp ?_
 obtain rfl:=Oi H0
 exact Zgk rfl s b (Zf (s:=6)) (s.at 2 rfl) ⟨Zdu (s.at 0 rfl),Zdu (s.at 1 rfl),trivial⟩
 refine wp_skip<|Zbb ?_
 refine Zl ?_
 obtain⟨r5,h6,H0⟩:=Zd H0;obtain⟨r7,h8,H0⟩:=Zd H0
 refine U4 [140,15] (L:=[(0,_),(2,_),(4,_),(7,_)]) (s.pi [0,1,2,3] rfl) b Za
  (Am 5 rfl<|Am 5 rfl<|U2 [0] (Zz rfl rfl U0)<|U2 [0] (Zv Zcm (off:=7) (by kernel_rfl) rfl rfl U0)<|AP Zdx 0 rfl<|U2 [0] (Zur (j:=37) Z7u (Zhr _ h6) rfl rfl (.cons U0 .nil))<|Am 35 rfl<|Af Zfe 25 rfl<|Al V0 0 rfl<|U2 [0] (Z9d rfl rfl U0)<|U2 [0] (Zgm Zd4 (xs:=[.tmp 41]) (.cons U0 .nil) (by decide) rfl rfl)<|U2 [50,40,0] (Zxd Zbgu (Zk2 _ _ _ h8) rfl rfl rfl U0 (.cons U1 (.cons U7 .nil)))<|U2 [110] (Zz rfl rfl U0)<|U2 [0] (Zv Zcm (off:=7) (by kernel_rfl) rfl rfl U0)<|U2 [20,0,5] (Zpp Zdx rfl rfl U7 U1 U0)<|U3) fun a g s b=>?_
 refine U4 [5,15,0] s b Za
  (U2 [] (Zc rfl rfl U6)<|U3) fun a g s b=>?_
 refine wp_ret ?_
 obtain rfl:=Oi H0
 exact Zgk rfl s b (Zf (s:=6)) (s.at 2 rfl) ⟨Zdu (s.at 0 rfl),Zdu (s.at 1 rfl),trivial⟩
theorem Zqr (a0:List Zn) (a1 a2:Int) {r:List Zn} (h:Zg3 a0 a1 a2=some r):Z7w Zb1f 150 Zy 139 a0 [(pInt .i64 a1),(pInt .i64 a2)] (Zy.sl.pd r):=by
 unfold Zg3 at h
 obtain⟨⟨hpos,hi0,hij,hj,hsz⟩,H0⟩:=Zdr h
 obtain rfl:=Oi H0
 obtain⟨k,rfl⟩:=Zb2j hi0
 obtain⟨l,rfl⟩:=Zb2j (Int.le_trans hi0 hij)
 have hkl:k≤l:=by omega
 have hl:l≤a0.length:=by omega
 simp only[Zb3r]
 refine Zbbv (N:=33) Tryz.func150 rfl rfl (Qe rfl) rfl (fun hx a g A0 s b=>?_) (fun a g cap hcap hmax s b=>?_)
 rw[hx]at hpos;cases hpos
 refine r_s (T:=[⟨[],[(6,(Zy.sl.pd []))],[],[],[6]⟩]) (F:=[.o 0,.o 1,.o 2]) s b Za
  (o_p rfl (Zc rfl rfl (Opd.c (fun g=>Zdv g)))<|o_n) fun a g s b=>?_
 refine r_s (T:=[⟨[.o 0],_,[],[],[8]⟩,⟨[.o 1],_,[],[],[9]⟩,⟨[.o 2],_,[],[],[10]⟩,⟨[.o 0],_,[],[],[11]⟩,⟨[.p 3 0],_,[],[3],[12]⟩,⟨[.p 0 0,.p 1 0,.p 2 0,.p 4 0],[],[],[0,1,2,3,4],[13]⟩]) (F:=[.o 0,.o 1,.o 2]) s b Za
  (Qm rfl U0<|Qm rfl U0<|Qm rfl U0<|Qm rfl U0<|o_p rfl (Zz6 Zb1k rfl rfl U0)<|o_p rfl (Zbi0 Zd4 hkl (by simpa using hl) (Zb18 _) rfl U0 U1 U7 u_3)<|o_n) fun a g s b=>?_
 refine wp_seq<|r_s (T:=[⟨[.o 1],_,[],[],[14]⟩,⟨[.o 2],_,[],[],[15]⟩,⟨[.p 0 0,.p 1 0],_,[],[0,1],[16]⟩]) (F:=[.o 0,.o 1,.o 2,.p 2 0]) s b Za
  (Qm rfl U0<|Qm rfl U0<|o_p rfl (Zb0 rfl rfl U0 U1)<|o_n) fun a g s b=>?_
 refine wp_cond_split (s.bool 3 rfl) (fun hc=>?_) (fun hc=>?_)
 refine r_s (L:=[(0,_)]) (T:=[⟨[.o 0],_,[],[],[17]⟩,⟨[.p 0 0],_,[],[0],[6]⟩]) (F:=[.p 1 0]) (s.pi [0] rfl) b Za
  (Qm rfl U0<|Qa rfl U0<|o_n) fun a g s b=>?_
 refine wp_ret<|Zp ?_
 have hq:=s.at 0 rfl
 have hkl2:=beq_iff_eq.1 hc
 have he:a0.take k++a0.drop l=a0:=by rw[show l=k by omega,Zb2n]
 rw[he]
 exact Zwo rfl s b (Zf (s:=6)) hq
 refine wp_skip<|Zl ?_
 refine r_s (L:=[(0,_),(1,_),(2,_)]) (T:=[⟨[.o 0],_,[],[],[18]⟩,⟨[.p 0 0],_,[],[0],[19]⟩,⟨[.p 1 0],_,[],[0,1],[7]⟩]) (F:=[.o 0,.o 1,.o 2,.p 2 0]) (s.pi [0,1,2] rfl) b Za
  (Qm rfl U0<|o_p rfl (Zz6 Zb1k rfl rfl U0)<|Qa rfl U0<|o_n) fun a g s b=>?_
 refine r_s (T:=[⟨[.o 0],_,[],[],[20]⟩,⟨[.o 1],_,[],[],[21]⟩,⟨[.p 0 0,.p 1 0],_,[],[0,1],[22]⟩,⟨[.o 0],_,[],[],[23]⟩,⟨[.o 2],_,[],[],[24]⟩,⟨[.p 3 0,.p 4 0],_,[],[3,4],[25]⟩,⟨[.p 2 0,.p 5 0,.o 0],[(26,(pOwn Zy 139 0 (some cap) ((a0.take k++a0.drop l).map some)))],[1],[0,1,2,3,4,5],[26,0,20,22,23,25]⟩,⟨[.p 6 0],_,[],[0,1,2,3,4,5,6],[0]⟩]) (F:=[.p 7 0,.o 3]) s b Za
  (Qm rfl U0<|Qm rfl U0<|o_p rfl (Zyr Zd4 (by simp;omega) rfl rfl U0 U1)<|Qm rfl U0<|Qm rfl U0<|o_p rfl (Zj5 Zd4 (by simpa using hl) rfl rfl U0 U1)<|o_p rfl (Zbew (s:=0) (k:=cap) (xs:=a0.take k) (ws:=a0.drop l) Zd4 (by simp;omega) (by simp;omega) (by simp;omega) (by simp) (Z3h a0 k) (Zbf0 a0 l) rfl rfl U0 U1 U7)<|Qa rfl U0<|o_n) fun a g s b=>?_
 have hl2:((a0.take k++a0.drop l).map some).length=k+(a0.length-l):=by simp;omega
 refine r_s (T:=[⟨[.o 0],_,[],[],[27]⟩,⟨[.o 0],_,[],[],[28]⟩,⟨[.p 1 0],_,[],[1],[29]⟩,⟨[.o 1],_,[],[],[30]⟩,⟨[.p 0 0,.p 2 0,.p 3 0],_,[],[0,1,2,3],[31]⟩,⟨[.p 4 0,.o 0],_,[1],[0,1,2,3,4],[0,27,28,31]⟩]) (F:=[.p 5 0]) s b Za
  (Qm rfl U0<|Qm rfl U0<|o_p rfl (Zz6 Zb1k rfl rfl U0)<|Qm rfl U0<|o_p rfl (Zbgo (k:=cap) Zd4 (by rw[hl2,Zb1q];omega) (by rw[Zb1q];omega) rfl rfl U0 U1 U7)<|o_p rfl (Zbjd (s:=0) (k:=cap) Zd4 (by kernel_rfl) (Zb18 _) (by rw[hl2,Zb1q];omega) rfl rfl U0 U1)<|o_n) fun a g s b=>?_
 refine r_s (T:=[⟨[.o 0],_,[],[],[32]⟩,⟨[.p 0 0],_,[],[0],[6]⟩]) (F:=[.p 1 0]) s b Za
  (Qm rfl U0<|Qa rfl U0<|o_n) fun a g s b=>?_
 exact wp_ret<|Zwo rfl s b (Zf (s:=6)) (s.at 0 rfl)
theorem Z0r (a0:Zb) (a1:Zw) (a2:Zm) {r:Int×Zb×Zm} (H0:Zn2 a0 a1 a2=some r):FnB Zb1f 148 [.box Zg a0 r.2.1,.val (Z6.pd a1),.box Z3 a2 r.2.2] (pInt .i64 r.1):=by
 unfold Zn2 at H0
 refine Zf2 (N:=32) Tryz.func148 rfl rfl (Qe rfl) rfl rfl (fun a g0 bs hbs s b=>?_)
 obtain⟨b0,b2,rfl⟩:=Zpd hbs
 replace s:St 32 [(0,(Zbm (some b0) Zg 0 a0)),(1,(Z6.pd a1)),(2,(Zbm (some b2) Z3 2 a2))] _ _:=s
 refine U4 [5,25,0] s b Za
  (U2 [15] (Zbt rfl rfl U0)<|U2 [] (Zc rfl rfl U6)<|U3) fun a g s b=>?_
 refine wp_seq ?_
 obtain⟨r1,h2,H0⟩:=Zd H0
 refine U4 [5,15,100,110] s b Za
  (Am 5 rfl<|U2 [0] (Zz rfl rfl U0)<|U2 [0] (Zv Zcm (off:=7) (by kernel_rfl) rfl rfl U0)<|AP Zdx 0 rfl<|Af Zfe 25 rfl<|Al V0 0 rfl<|U2 [20,0] (Zt Z83 (Zuk _ _ h2) rfl rfl (.cons U0 (.cons U1 .nil)))<|Am 0 rfl<|U2 [0] (Z7 rfl rfl U0 rfl)<|U2 [10] (Z7 rfl rfl U0 rfl)<|Aa 10 rfl<|Aa 10 rfl<|U3) fun a g s b=>?_
 refine U4 [5,15,25,0] s b Za
  (Am 35 rfl<|U3) fun a g s b=>?_
 refine Zbq (fun a w=>∃(j8:Zb) (g:G),Jn 32 [(0,(Zbm (some b0) Zg 0 j8)),(2,(Zbm (some b2) Z3 2 a2))] a w g0 g (Zni a2 j8=some r)) ?_ ?_
 rintro a w ⟨j8,g,rfl,s,b,H0⟩
 unfold Zni at H0
 refine Zl<|U4 [5,15,0] s b Za
  (U2 [] (Zc rfl rfl U6)<|U3) fun a g s b=>?_
 refine wp_ret ?_
 obtain rfl:=Oi H0
 exact Zgk rfl s b (Zf (s:=6)) (s.at 2 rfl) ⟨Zdu (s.at 0 rfl),Zdu (s.at 1 rfl),trivial⟩
 refine Zs (s.bool 3 rfl) H0 (fun H0=>?_) (fun H0=>?_)
 obtain⟨r4,h5,H0⟩:=Zd H0;obtain⟨r6,h7,H0⟩:=Zd H0
 refine U5 [120,15] (L:=[(0,_),(2,_),(7,_)]) (s.pi [0,1,2] rfl) b Za
  (Am 5 rfl<|Am 5 rfl<|U2 [0] (Zz rfl rfl U0)<|U2 [0] (Zv Zcm (off:=7) (by kernel_rfl) rfl rfl U0)<|AP Zdx 0 rfl<|U2 [0] (Zur (j:=25) Z7u (Zhr _ h5) rfl rfl (.cons U0 .nil))<|Am 25 rfl<|Am 25 rfl<|U2 [0] (Zbw rfl rfl U0 U6 rfl)<|U2 [30,20,0] (Zxd Zbpa (Zqr _ _ _ h7) rfl rfl rfl U0 (.cons U1 (.cons U7 .nil)))<|U2 [90] (Zz rfl rfl U0)<|U2 [0] (Zv Zcm (off:=7) (by kernel_rfl) rfl rfl U0)<|U2 [20,0,5] (Zpp Zdx rfl rfl U7 U1 U0)<|U3) fun a g s b=>?_
 refine⟨_,g,rfl,?_,b,H0⟩
 exact (s.pi [0,1] rfl)
 exact wp_skip<|⟨a0,g,rfl,(s.pi [0,1] rfl),b,H0⟩
theorem Z0y (a0:Zb) (a1:Zw) (a2:Zm) {r:Int×Zb×Zm} (H0:Zh0 a0 a1 a2=some r):FnB Zb1f 151 [.box Zg a0 r.2.1,.val (Z6.pd a1),.box Z3 a2 r.2.2] (pInt .i64 r.1):=by
 unfold Zh0 at H0
 refine Zf2 (N:=21) Tryz.func151 rfl rfl (Qe rfl) rfl rfl (fun a g0 bs hbs s b=>?_)
 obtain⟨b0,b2,rfl⟩:=Zpd hbs
 replace s:St 21 [(0,(Zbm (some b0) Zg 0 a0)),(1,(Z6.pd a1)),(2,(Zbm (some b2) Z3 2 a2))] _ _:=s
 refine U4 [5,25,0] s b Za
  (U2 [15] (Zbt rfl rfl U0)<|U2 [] (Zc rfl rfl U6)<|U3) fun a g s b=>?_
 refine wp_seq ?_
 obtain⟨r1,h2,H0⟩:=Zd H0
 refine U4 [5,15,110] s b Za
  (Am 5 rfl<|U2 [0] (Zz rfl rfl U0)<|U2 [0] (Zv Zcm (off:=7) (by kernel_rfl) rfl rfl U0)<|AP Zdx 0 rfl<|Af Zfe 25 rfl<|Al V0 0 rfl<|U2 [20,0] (Zt Z83 (Zuk _ _ h2) rfl rfl (.cons U0 (.cons U1 .nil)))<|Am 0 rfl<|U2 [0] (Z7 rfl rfl U0 rfl)<|U2 [10] (Z7 rfl rfl U0 rfl)<|Aa 10 rfl<|Aa 10 rfl<|U3) fun a g s b=>?_
 refine U4 [5,15,10] s b Za
  (Am 25 rfl<|U2 [0] (Zct rfl rfl U0)<|U3) fun a g s b=>?_
 refine Zs (s.bool 2 rfl) H0 (fun H0=>?_) (fun H0=>?_)
 refine U4 [5,15,0] (L:=[(0,_),(2,_)]) (s.pi [0,1] rfl) b Za
  (U2 [] (Zc rfl rfl U6)<|U3) fun a g s b=>?_
 refine wp_ret<|Zp ?_
 obtain rfl:=Oi H0
 exact Zgk rfl s b (Zf (s:=6)) (s.at 2 rfl) ⟨Zdu (s.at 0 rfl),Zdu (s.at 1 rfl),trivial⟩
 refine wp_skip<|Zl ?_
 refine U4 [5,15,0] (L:=[(0,_),(2,_)]) (s.pi [0,1] rfl) b Za
  (U2 [] (Zc rfl rfl U6)<|U3) fun a g s b=>?_
 refine wp_ret ?_
 obtain rfl:=Oi H0
 exact Zgk rfl s b (Zf (s:=6)) (s.at 2 rfl) ⟨Zdu (s.at 0 rfl),Zdu (s.at 1 rfl),trivial⟩
theorem Z7i (a0:Zb) (a1:Zw) (a2:Zm) {r:Int×Zb×Zm} (H0:Zoc a0 a1 a2=some r):FnB Zb1f 152 [.box Zg a0 r.2.1,.val (Z6.pd a1),.box Z3 a2 r.2.2] (pInt .i64 r.1):=by
 unfold Zoc at H0
 refine Zf2 (N:=75) Tryz.func152 rfl rfl (Qe rfl) rfl rfl (fun a g0 bs hbs s b=>?_)
 obtain⟨b0,b2,rfl⟩:=Zpd hbs
 replace s:St 75 [(0,(Zbm (some b0) Zg 0 a0)),(1,(Z6.pd a1)),(2,(Zbm (some b2) Z3 2 a2))] _ _:=s
 refine U4 [5,25,0] s b Za
  (U2 [15] (Zbt rfl rfl U0)<|U2 [] (Zc rfl rfl U6)<|U3) fun a g s b=>?_
 refine U4 [5,15,60] s b Za
  (Af Zit 25 rfl<|Al Zdk 0 rfl<|Af Zfe 25 rfl<|Al V0 0 rfl<|U2 [20,0] (Z4f rfl rfl U0 U1)<|U2 [] (Zs1 7 rfl rfl)<|U2 [10,0] (Zci Zev rfl rfl U1 U0)<|U3) fun a g s b=>?_
 refine U4 [5,15,25,0] s b Za
  (U2 [] (Zc rfl rfl U6)<|U3) fun a g s b=>?_
 obtain⟨z8,hz1,H0⟩:=Zd H0
 refine wp_seq<|Zbq (fun a w=>∃(y7:Int) (g:G),Jn 75 [(0,(Zbm (some b0) Zg 0 a0)),(2,(Zbm (some b2) Z3 2 a2)),(7,(Zy.ptr ({Score:=a1.X,Name:=a1.S}:Zn))),(8,(pInt .i64 y7))] a w g0 g (y7=z8)) ?_ ?_
 ·rintro a w ⟨y7,g,rfl,s,b,rfl⟩
  refine Zl<|wp_seq ?_
  obtain⟨e9,h10,H0⟩:=Zd H0;obtain⟨r11,h12,H0⟩:=Zd H0
  refine U4 [5,15,25,35,180] s b Za
   (Am 35 rfl<|Am 5 rfl<|U2 [0] (Zz rfl rfl U0)<|U2 [0] (Zv Zcm (off:=7) (by kernel_rfl) rfl rfl U0)<|AP Zdx 0 rfl<|U2 [0] (Zbv Zb1k rfl rfl U0)<|U2 [50,0] (Zcj rfl rfl U0 U1)<|Am 0 rfl<|Gt [0,25] rfl (fun h=>Z2 Zev rfl rfl U0)<|Gt [10,5] rfl (fun h=>Zx rfl rfl U0)<|Gt [20,0] rfl (fun h=>Zz rfl rfl (V1 h U0))<|Gt [30,0] rfl (fun h=>Zv Zcm (off:=7) (by kernel_rfl) rfl rfl (V1 h U0))<|Gt [40,0] rfl (fun h=>Zjn Zdx rfl rfl (V1 h U0))<|Gt [50,35] rfl (fun h=>Zx rfl rfl U0)<|Gt [60,10,0] rfl (fun h=>Zbn Zb1k Zf1 rfl rfl (V1 h U0) (V1 h U1) (Zcb h10 h))<|Gt [70,0] rfl (fun h=>Z2 Zev rfl rfl (V1 h U0))<|Gt [80,70,0] rfl (fun h=>Zt Zbbq (Ztp _ _ (Zcb h12 h)) rfl rfl (.cons (V1 h U0) (.cons (V1 h U1) .nil)))<|Gt [90,0] rfl (fun h=>Zct rfl rfl (V1 h U0))<|U2 [100,0] (Zbs rfl rfl U0 (fun hz=>(V1 hz U1)))<|U3) fun a g s b=>?_
  refine Zs (s.bool 4 rfl) H0 (fun H0=>?_) (fun H0=>?_)
  ·refine U4 [5,15,0] (L:=[(0,_),(2,_)]) (s.pi [0,1] rfl) b Za
    (U2 [] (Zc rfl rfl U6)<|U3) fun a g s b=>?_
   refine wp_ret<|Zp ?_
   obtain rfl:=Oi H0
   exact Zgk rfl s b (Zf (s:=6)) (s.at 2 rfl) ⟨Zdu (s.at 0 rfl),Zdu (s.at 1 rfl),trivial⟩
  ·refine wp_skip<|Zl ?_
   obtain⟨r14,h15,H0⟩:=Zd H0;obtain⟨r16,h17,H0⟩:=Zd H0
   refine U4 [5,15,90] (L:=[(0,_),(2,_),(7,_),(8,_)]) (s.pi [0,1,2,3] rfl) b Za
    (Am 5 rfl<|U2 [0] (Zz rfl rfl U0)<|U2 [0] (Zv Zcm (off:=7) (by kernel_rfl) rfl rfl U0)<|AP Zdx 0 rfl<|U2 [0] (Zur (j:=58) Z7u (Zhr _ h15) rfl rfl (.cons U0 .nil))<|Am 35 rfl<|Al Zev 25 rfl<|U2 [0] (Zgm Zd4 (xs:=[.tmp 60]) (.cons U0 .nil) (by decide) rfl rfl)<|U2 [30,20,0] (Zxd Zbgu (Zk2 _ _ _ h17) rfl rfl rfl U0 (.cons U1 (.cons U7 .nil)))<|Aa 0 rfl<|U3) fun a g s b=>?_
   obtain⟨c18,h19,H0⟩:=Zd H0
   refine U4 [120,15] s b Za
    (Am 5 rfl<|Am 25 rfl<|Am 25 rfl<|U2 [0] (Zbv Zb1k rfl rfl U0)<|Am 5 rfl<|U2 [0] (Zz rfl rfl U0)<|U2 [0] (Zv Zhb (off:=5) (by kernel_rfl) rfl rfl U0)<|AP U9 0 rfl<|U2 [40,0] (Z3j rfl rfl U0 U1)<|U2 [70,0] (Zz3 Zb1k Zf1 rfl rfl U0 U1 h19)<|U2 [90] (Zz rfl rfl U0)<|U2 [0] (Zv Zcm (off:=7) (by kernel_rfl) rfl rfl U0)<|U2 [20,0,5] (Zpp Zdx rfl rfl U7 U1 U0)<|U3) fun a g s b=>?_
   refine U4 [5,15,0] s b Za
    (U2 [] (Zc rfl rfl U6)<|U3) fun a g s b=>?_
   refine wp_ret ?_
   obtain rfl:=Oi H0
   exact Zgk rfl s b (Zf (s:=6)) (s.at 2 rfl) ⟨Zdu (s.at 0 rfl),Zdu (s.at 1 rfl),trivial⟩
 ·refine wp_block<|wp_loop_ghost (fun n a w=>∃(x1:Int) (g:G),Jn 75 [(0,(Zbm (some b0) Zg 0 a0)),(2,(Zbm (some b2) Z3 2 a2)),(7,(Zy.ptr ({Score:=a1.X,Name:=a1.S}:Zn))),(8,(pInt .i64 x1))] a w g0 g (Zic a0 a1 n x1=some z8)) (Zb1j ((a0.List.length:Int)-(0:Int))+1) ⟨(0:Int),g,rfl,(s.pi [0,1,2,3] rfl),b,hz1⟩ (fun n a w hI=>?_)
  obtain⟨x1,g,rfl,s,b,H1⟩:=hI
  cases n with
  | zero=>exact absurd H1 (by simp[Zic])
  | succ n =>
   rw[Zic]at H1
   refine wp_seq ?_
   obtain⟨e2,h3,H1⟩:=Zd H1;obtain⟨r4,h5,H1⟩:=Zd H1
   refine U4 [5,15,25,35,170] s b Za
    (Am 35 rfl<|Am 5 rfl<|U2 [0] (Zz rfl rfl U0)<|U2 [0] (Zv Zcm (off:=7) (by kernel_rfl) rfl rfl U0)<|AP Zdx 0 rfl<|U2 [0] (Zbv Zb1k rfl rfl U0)<|U2 [50,0] (Zcj rfl rfl U0 U1)<|Am 0 rfl<|Gt [0,5] rfl (fun h=>Zx rfl rfl U0)<|Gt [10,0] rfl (fun h=>Zz rfl rfl (V1 h U0))<|Gt [20,0] rfl (fun h=>Zv Zcm (off:=7) (by kernel_rfl) rfl rfl (V1 h U0))<|Gt [30,0] rfl (fun h=>Zjn Zdx rfl rfl (V1 h U0))<|Gt [40,35] rfl (fun h=>Zx rfl rfl U0)<|Gt [50,10,0] rfl (fun h=>Zbn Zb1k Zf1 rfl rfl (V1 h U0) (V1 h U1) (Zcb h3 h))<|Gt [60,0] rfl (fun h=>Z2 Zev rfl rfl (V1 h U0))<|Gt [70,25] rfl (fun h=>Z2 Zev rfl rfl U0)<|Gt [80,10,0] rfl (fun h=>Zt Zbbq (Ztp _ _ (Zcb h5 h)) rfl rfl (.cons (V1 h U0) (.cons (V1 h U1) .nil)))<|U2 [90,0] (Zbs rfl rfl U0 (fun hz=>(V1 hz U1)))<|U3) fun a g s b=>?_
   refine Zs (s.bool 4 rfl) H1 (fun H1=>?_) (fun H1=>?_)
   ·refine wp_skip<|Zl ?_
    refine wp_block<|U5 [5,15,25,20] (L:=[(0,_),(2,_),(7,_),(8,_)]) (s.pi [0,1,2,3] rfl) b Za
     (Am 35 rfl<|U2 [0] (Zbw rfl rfl U0 U6 rfl)<|Aa 0 rfl<|U3) fun a g s b=>?_
    exact Zbb<|⟨n,Zb1x _,(Zb1i.wrap (x1+(1:Int))),g,rfl,(s.pi [0,1,2,3] rfl),b,H1⟩
   ·refine wp_exit<|Zbx ?_
    refine Zbx<|Zcg ?_
    exact⟨x1,g,rfl,(s.pi [0,1,2,3] rfl),b,Oi H1⟩
def Phi (k:Int) (f:FuncId) (C:List Pd):Prop:=∀(x0 x1:Zb) (a:Zw) (y0 y1:Zm) (c:Int),Zbz k x0 a y0=some (c,x1,y1)→FnB Zb1f f ([.box Zg x0 x1,.val (Z6.pd a),.box Z3 y0 y1]++C.map .val) (pInt .i64 c)
theorem Zbn3 {k:Int} {x0:Zb} {a:Zw} {y0:Zm} {r:Int×Zb×Zm} (h:Zbz k x0 a y0=some r):∀f C,Phi k f C→FnB Zb1f f ([.box Zg x0 r.2.1,.val (Z6.pd a),.box Z3 y0 r.2.2]++C.map .val) (pInt .i64 r.1):=fun f C hΦ=>hΦ _ _ _ _ _ _ h
def tabT:TabT:=fun k=>if 5≤k∧k≤21 then some (Phi k)else none
theorem Zbpd {i:Int} (h:5≤i∧i≤21):tabT i.toNat=some (Phi i):=by
 unfold tabT
 rw[if_pos (by omega),show ((i.toNat:Nat):Int)=i by omega]
theorem Zbrv:Phi 5 134 []:=fun x0 x1 a y0 y1 c h=>Z0v x0 a y0 (r:=(c,x1,y1)) (by simpa[Zbz]using h)
theorem Zbtn:Phi 6 135 []:=fun x0 x1 a y0 y1 c h=>Z0z x0 a y0 (r:=(c,x1,y1)) (by simpa[Zbz]using h)
theorem Zbtj:Phi 7 136 []:=fun x0 x1 a y0 y1 c h=>Z0u x0 a y0 (r:=(c,x1,y1)) (by simpa[Zbz]using h)
theorem Zbth:Phi 8 137 []:=fun x0 x1 a y0 y1 c h=>Zbau x0 a y0 (r:=(c,x1,y1)) (by simpa[Zbz]using h)
theorem Zbsz:Phi 9 138 []:=fun x0 x1 a y0 y1 c h=>Zvo x0 a y0 (r:=(c,x1,y1)) (by simpa[Zbz]using h)
theorem Zbqz:Phi 10 139 []:=fun x0 x1 a y0 y1 c h=>Z03 x0 a y0 (r:=(c,x1,y1)) (by simpa[Zbz]using h)
theorem Zbqg:Phi 11 140 []:=fun x0 x1 a y0 y1 c h=>Z0t x0 a y0 (r:=(c,x1,y1)) (by simpa[Zbz]using h)
theorem Zbqn:Phi 12 138 []:=fun x0 x1 a y0 y1 c h=>Zvo x0 a y0 (r:=(c,x1,y1)) (by simpa[Zbz]using h)
theorem Zbp6:Phi 13 164 [(Kd.fnc.ptr 142)]:=fun x0 x1 a y0 y1 c h=>by
 have h':Zgi (fun x y=>Zp9 x y) x0 a y0=some (c,x1,y1):=by simpa[Zbz]using h
 obtain⟨z,hz,h2⟩:=Zd h'
 injection h2 with h2
 simp only[Zb3q.injEq]at h2
 obtain⟨rfl,rfl,rfl⟩:=h2
 exact Zny 142 Zbo8 (fun x y=>Zp9 x y) (fun x y z h=>Zbgh x y h) x0 a y0 hz
theorem Zbqb:Phi 14 164 [(Kd.fnc.ptr 143)]:=fun x0 x1 a y0 y1 c h=>by
 have h':Zgi (fun x y=>Zqc x y) x0 a y0=some (c,x1,y1):=by simpa[Zbz]using h
 obtain⟨z,hz,h2⟩:=Zd h'
 injection h2 with h2
 simp only[Zb3q.injEq]at h2
 obtain⟨rfl,rfl,rfl⟩:=h2
 exact Zny 143 Zbo9 (fun x y=>Zqc x y) (fun x y z h=>Zbez x y h) x0 a y0 hz
theorem Zbpe:Phi 15 164 [(Kd.fnc.ptr 144)]:=fun x0 x1 a y0 y1 c h=>by
 have h':Zgi (fun x y=>Zlq x y) x0 a y0=some (c,x1,y1):=by simpa[Zbz]using h
 obtain⟨z,hz,h2⟩:=Zd h'
 injection h2 with h2
 simp only[Zb3q.injEq]at h2
 obtain⟨rfl,rfl,rfl⟩:=h2
 exact Zny 144 Zbqf (fun x y=>Zlq x y) (fun x y z h=>Zbb3 x y h) x0 a y0 hz
theorem Zbpx:Phi 16 164 [(Kd.fnc.ptr 145)]:=fun x0 x1 a y0 y1 c h=>by
 have h':Zgi (fun x y=>Zkb x y) x0 a y0=some (c,x1,y1):=by simpa[Zbz]using h
 obtain⟨z,hz,h2⟩:=Zd h'
 injection h2 with h2
 simp only[Zb3q.injEq]at h2
 obtain⟨rfl,rfl,rfl⟩:=h2
 exact Zny 145 Zbpr (fun x y=>Zkb x y) (fun x y z h=>Zba1 x y h) x0 a y0 hz
theorem Zbqs:Phi 17 164 [(Kd.fnc.ptr 146)]:=fun x0 x1 a y0 y1 c h=>by
 have h':Zgi (fun x y=>Zjk x y) x0 a y0=some (c,x1,y1):=by simpa[Zbz]using h
 obtain⟨z,hz,h2⟩:=Zd h'
 injection h2 with h2
 simp only[Zb3q.injEq]at h2
 obtain⟨rfl,rfl,rfl⟩:=h2
 exact Zny 146 Zbpo (fun x y=>Zjk x y) (fun x y z h=>Z00 x y h) x0 a y0 hz
theorem Zbq9:Phi 18 147 []:=fun x0 x1 a y0 y1 c h=>Z9w x0 a y0 (r:=(c,x1,y1)) (by simpa[Zbz]using h)
theorem Zbq3:Phi 19 148 []:=fun x0 x1 a y0 y1 c h=>Z0r x0 a y0 (r:=(c,x1,y1)) (by simpa[Zbz]using h)
theorem Zbpy:Phi 20 151 []:=fun x0 x1 a y0 y1 c h=>Z0y x0 a y0 (r:=(c,x1,y1)) (by simpa[Zbz]using h)
theorem Zbqp:Phi 21 152 []:=fun x0 x1 a y0 y1 c h=>Z7i x0 a y0 (r:=(c,x1,y1)) (by simpa[Zbz]using h)
theorem Zbb2 {N d:Nat} {o:Oper} {uses:Z8} (hop:o.op=.build 197 #[(5,.func 134),(6,.func 135),(7,.func 136),(8,.func 137),(9,.func 138),(12,.func 138),(10,.func 139),(11,.func 140),(13,.tmp 1),(14,.tmp 2),(15,.tmp 3),(16,.tmp 4),(17,.tmp 5),(18,.func 147),(19,.func 148),(20,.func 151),(21,.func 152)]) (hd:o.dst=some d) (h1:Opd uses (.tmp 1) (pClo 164 [(Kd.fnc.ptr 142)] rfl)) (h2:Opd uses (.tmp 2) (pClo 164 [(Kd.fnc.ptr 143)] rfl)) (h3:Opd uses (.tmp 3) (pClo 164 [(Kd.fnc.ptr 144)] rfl)) (h4:Opd uses (.tmp 4) (pClo 164 [(Kd.fnc.ptr 145)] rfl)) (h5:Opd uses (.tmp 5) (pClo 164 [(Kd.fnc.ptr 146)] rfl)):OB Zb1f N o uses [(d,((Kd.tab Zb1f 22 (by decide)).pd tabT))] [] :=
 Zcl hd fun a g hh=>by
  obtain⟨c1,e1,k1⟩:=h1 a g hh
  obtain⟨c2,e2,k2⟩:=h2 a g hh
  obtain⟨c3,e3,k3⟩:=h3 a g hh
  obtain⟨c4,e4,k4⟩:=h4 a g hh
  obtain⟨c5,e5,k5⟩:=h5 a g hh
  refine⟨.agg #[.nilFunc,.nilFunc,.nilFunc,.nilFunc,.nilFunc,.func (.func 134) #[] #[],.func (.func 135) #[] #[],.func (.func 136) #[] #[],.func (.func 137) #[] #[],.func (.func 138) #[] #[],.func (.func 139) #[] #[],.func (.func 140) #[] #[],.func (.func 138) #[] #[],.func (.func 164) #[] c1.toArray,.func (.func 164) #[] c2.toArray,.func (.func 164) #[] c3.toArray,.func (.func 164) #[] c4.toArray,.func (.func 164) #[] c5.toArray,.func (.func 147) #[] #[],.func (.func 148) #[] #[],.func (.func 151) #[] #[],.func (.func 152) #[] #[]],?_,[.nilFunc,.nilFunc,.nilFunc,.nilFunc,.nilFunc,.func (.func 134) #[] #[],.func (.func 135) #[] #[],.func (.func 136) #[] #[],.func (.func 137) #[] #[],.func (.func 138) #[] #[],.func (.func 139) #[] #[],.func (.func 140) #[] #[],.func (.func 138) #[] #[],.func (.func 164) #[] c1.toArray,.func (.func 164) #[] c2.toArray,.func (.func 164) #[] c3.toArray,.func (.func 164) #[] c4.toArray,.func (.func 164) #[] c5.toArray,.func (.func 147) #[] #[],.func (.func 148) #[] #[],.func (.func 151) #[] #[],.func (.func 152) #[] #[]],⟨rfl,?_,?_⟩,rfl⟩
  ·simp only[execOp,hop,Sem.run_bind,Sem.run_pure,Result.andThen_ok,List.map_toArray,Zb32,List.map_nil,e1,e2,e3,e4,e5]
   rw[Zyn Zb3m (zero:=.agg #[.nilFunc,.nilFunc,.nilFunc,.nilFunc,.nilFunc,.nilFunc,.nilFunc,.nilFunc,.nilFunc,.nilFunc,.nilFunc,.nilFunc,.nilFunc,.nilFunc,.nilFunc,.nilFunc,.nilFunc,.nilFunc,.nilFunc,.nilFunc,.nilFunc,.nilFunc]) (by kernel_rfl) (by kernel_rfl) (cells:=#[.nilFunc,.nilFunc,.nilFunc,.nilFunc,.nilFunc,.func (.func 134) #[] #[],.func (.func 135) #[] #[],.func (.func 136) #[] #[],.func (.func 137) #[] #[],.func (.func 138) #[] #[],.func (.func 139) #[] #[],.func (.func 140) #[] #[],.func (.func 138) #[] #[],.func (.func 164) #[] c1.toArray,.func (.func 164) #[] c2.toArray,.func (.func 164) #[] c3.toArray,.func (.func 164) #[] c4.toArray,.func (.func 164) #[] c5.toArray,.func (.func 147) #[] #[],.func (.func 148) #[] #[],.func (.func 151) #[] #[],.func (.func 152) #[] #[]]) (by kernel_rfl) g.w]
   rfl
  ·intro u hu
   simp only[Zb33,List.not_mem_nil,or_false]at hu
   rcases hu with rfl | rfl | rfl | rfl | rfl | rfl | rfl | rfl | rfl | rfl | rfl | rfl | rfl | rfl | rfl | rfl | rfl | rfl | rfl | rfl | rfl | rfl <;> rfl
  ·intro k F u hF hu
   unfold tabT at hF
   split at hF
   ·rename_i hk
    obtain rfl:=Oi hF
    obtain⟨hk1,hk2⟩:=hk
    have hk:k=5∨k=6∨k=7∨k=8∨k=9∨k=10∨k=11∨k=12∨k=13∨k=14∨k=15∨k=16∨k=17∨k=18∨k=19∨k=20∨k=21:=by omega
    rcases hk with rfl | rfl | rfl | rfl | rfl | rfl | rfl | rfl | rfl | rfl | rfl | rfl | rfl | rfl | rfl | rfl | rfl
    ·obtain rfl:=Oi hu;exact⟨134,[],[],rfl,Zbqd,rfl,Zbrv,Zf9,fun q hq=>by cases hq⟩
    ·obtain rfl:=Oi hu;exact⟨135,[],[],rfl,Zbqt,rfl,Zbtn,Zf9,fun q hq=>by cases hq⟩
    ·obtain rfl:=Oi hu;exact⟨136,[],[],rfl,Zbp7,rfl,Zbtj,Zf9,fun q hq=>by cases hq⟩
    ·obtain rfl:=Oi hu;exact⟨137,[],[],rfl,Zbqy,rfl,Zbth,Zf9,fun q hq=>by cases hq⟩
    ·obtain rfl:=Oi hu;exact⟨138,[],[],rfl,Zbhe,rfl,Zbsz,Zf9,fun q hq=>by cases hq⟩
    ·obtain rfl:=Oi hu;exact⟨139,[],[],rfl,Zbqk,rfl,Zbqz,Zf9,fun q hq=>by cases hq⟩
    ·obtain rfl:=Oi hu;exact⟨140,[],[],rfl,Zbqw,rfl,Zbqg,Zf9,fun q hq=>by cases hq⟩
    ·obtain rfl:=Oi hu;exact⟨138,[],[],rfl,Zbhe,rfl,Zbqn,Zf9,fun q hq=>by cases hq⟩
    ·obtain rfl:=Oi hu;exact⟨164,_,c1,rfl,Zze,rfl,Zbp6,k1,Zpz⟩
    ·obtain rfl:=Oi hu;exact⟨164,_,c2,rfl,Zze,rfl,Zbqb,k2,Zpz⟩
    ·obtain rfl:=Oi hu;exact⟨164,_,c3,rfl,Zze,rfl,Zbpe,k3,Zpz⟩
    ·obtain rfl:=Oi hu;exact⟨164,_,c4,rfl,Zze,rfl,Zbpx,k4,Zpz⟩
    ·obtain rfl:=Oi hu;exact⟨164,_,c5,rfl,Zze,rfl,Zbqs,k5,Zpz⟩
    ·obtain rfl:=Oi hu;exact⟨147,[],[],rfl,Zbpi,rfl,Zbq9,Zf9,fun q hq=>by cases hq⟩
    ·obtain rfl:=Oi hu;exact⟨148,[],[],rfl,Zbp8,rfl,Zbq3,Zf9,fun q hq=>by cases hq⟩
    ·obtain rfl:=Oi hu;exact⟨151,[],[],rfl,Zbo5,rfl,Zbpy,Zf9,fun q hq=>by cases hq⟩
    ·obtain rfl:=Oi hu;exact⟨152,[],[],rfl,Zbo0,rfl,Zbqp,Zf9,fun q hq=>by cases hq⟩
   ·cases hF
theorem Zbh6:Ty Zb1f 197 (Kd.tab Zb1f 22 (by decide)):=⟨by kernel_rfl,by kernel_rfl⟩
theorem Z37:FnOk Zb1f 105 [] (pTab Zb1f 22 tabT):=by
 refine Zb9 (N:=7) Tryz.func105 rfl rfl (Qe rfl) rfl rfl (fun a g0 s b=>?_)
 refine r_s (T:=[⟨[],[(0,(pBox (Kd.tab Zb1f 22 (by decide)) 0 (fun _=>none)))],[1],[],[0]⟩]) (F:=[.p 0 0]) s b Za
  (o_p rfl (Zf0 (zs:=[.nilFunc,.nilFunc,.nilFunc,.nilFunc,.nilFunc,.nilFunc,.nilFunc,.nilFunc,.nilFunc,.nilFunc,.nilFunc,.nilFunc,.nilFunc,.nilFunc,.nilFunc,.nilFunc,.nilFunc,.nilFunc,.nilFunc,.nilFunc,.nilFunc,.nilFunc]) (by kernel_rfl) (fun g=>⟨rfl,by decide,fun k F u h=>by cases h⟩) rfl rfl)<|o_n) fun a g s b=>?_
 refine r_s (T:=[⟨[],_,[],[],[1]⟩,⟨[],_,[],[0],[2]⟩,⟨[],_,[],[0,1],[3]⟩,⟨[],_,[],[0,1,2],[4]⟩,⟨[],_,[],[0,1,2,3],[5]⟩,⟨[.p 0 0,.p 1 0,.p 2 0,.p 3 0,.p 4 0],_,[],[0,1,2,3,4],[6]⟩,⟨[.p 5 0,.o 0],[(0,(pBox (Kd.tab Zb1f 22 (by decide)) 0 tabT))],[1],[0,1,2,3,4,5],[0]⟩]) (F:=[.p 6 0]) s b Za
  (o_p rfl (Zt Zzg (Zpi 142) rfl rfl (.cons Opd.fncv .nil))<|o_p rfl (Zt Zzg (Zpi 143) rfl rfl (.cons Opd.fncv .nil))<|o_p rfl (Zt Zzg (Zpi 144) rfl rfl (.cons Opd.fncv .nil))<|o_p rfl (Zt Zzg (Zpi 145) rfl rfl (.cons Opd.fncv .nil))<|o_p rfl (Zt Zzg (Zpi 146) rfl rfl (.cons Opd.fncv .nil))<|o_p rfl (Zbb2 rfl rfl U0 U1 U7 u_3 u_4)<|o_p rfl (Z9 Zbh6 rfl rfl U1 U0)<|o_n) fun a g s b=>?_
 refine wp_ret ?_
 obtain⟨u0,hu0,hq0⟩:=Zbi (P:=Zb1f) Zbh6 (s.at 0 rfl)
 exact Zba rfl s b hu0 (Zbk9 hq0)
theorem Z7n (a0:Zb) (a1:Bool) (a2:Zw) {r:Zb×Bool×Zm} (H0:Zon a0 a1 a2=some r):FnOk Zb1f 75 [(Zg.pd a0),(Zbo a1),(Z6.pd a2)] (pTup [(Zg.pd r.1),(Zbo r.2.1),(Z3.pd r.2.2)]):=by
 unfold Zon at H0
 refine Zb9 (N:=123) Tryz.func75 rfl rfl (Qe rfl) rfl rfl (fun a g0 s b=>?_)
 refine U4 [0,10,20,30,50] s b Za
  (U2 (outs:=[(3,(pBox Zg 3 a0))]) (S:=[4]) [5] (Zln rfl rfl U0)<|U2 [15] (Zbt rfl rfl U0)<|U2 [25] (Zbt rfl rfl U0)<|U2 [] (Ziv 6 rfl rfl)<|U2 [] (Zc rfl rfl c_b)<|U2 [] (Zlz 8 rfl rfl)<|U3) fun a g s b=>?_
 refine wp_seq<|U4 [5,15,25,35,45,10] s b Za
  (Al ty_4 15 rfl<|U2 [0] (Zct rfl rfl U0)<|U3) fun a g s b=>?_
 refine Zbq (fun a w=>∃(j2:Zb) (g:G),Jn 123 [(3,(pBox Zg 3 j2)),(4,(Kd.bool.ptr a1)),(5,(Z6.ptr a2)),(6,(pBox Zg 6 (default:Zb))),(8,(pBox Z3 8 (default:Zm)))] a w g0 g (Zjc a1 a2 j2=some r)) ?_ ?_
 rintro a w ⟨j2,g,rfl,s,b,H0⟩
 unfold Zjc at H0
 refine Zl ?_
 obtain⟨r3,h4,H0⟩:=Zd H0
 refine U4 [20,15,25,35,45] s b Za
  (AM Zbd 5 rfl<|U2 [0] (Zt Zvt (Zkf _ h4) rfl rfl (.cons U0 .nil))<|U2 [0,5] (Z9 Zbd rfl rfl U1 U0)<|U3) fun a g s b=>?_
 refine U4 [5,15,25,35,45,10] s b Za
  (U2 [5,15] (Zbbo rfl rfl (.cons U0 (.cons U1 .nil)))<|Aa 0 rfl<|U3) fun a g s b=>?_
 refine wp_seq ?_
 obtain⟨r5,h6,H0⟩:=Zd H0
 refine U4 [5,15,25,35,45,55,20] s b Za
  (Al Zgb 25 rfl<|U2 [0] (Zt Zbgg (Zuq _ h6) rfl rfl (.cons U0 .nil))<|Aa 0 rfl<|U3) fun a g s b=>?_
 refine U4 [5,15,25,35,45,55,65,10] s b Za
  (Am 65 rfl<|U2 [0] (Zcv rfl rfl U0 U6)<|U3) fun a g s b=>?_
 refine Zs (s.bool 7 rfl) H0 (fun H0=>?_) (fun H0=>?_)
 obtain⟨r8,h9,H0⟩:=Zd H0
 refine U4 [21,15,60,70,80] (L:=[(3,_),(4,_),(6,_),(8,_),(9,_),(10,_)]) (s.pi [0,1,3,4,5,6] rfl) b Za
  (Am 45 rfl<|Am 55 rfl<|U2 (outs:=[(27,(pTup [(Zg.pd r8.1),(Zbo r8.2.1),(Z3.pd r8.2.2.1)])),(3,(pBox Zg 3 r8.2.2.2))]) (S:=[4]) [10,0,5] (Zrq (Ps:=[.val (pInt .i64 r5)]) (hs:=[]) (ks:=[(3,none,3)]) Zyq (Zmt _ _ _ h9) rfl rfl rfl U0 (.val U1 .nil) (.box U7 rfl (.val .nil)) rfl rfl rfl rfl)<|U2 [0] (Z7 rfl rfl U0 rfl)<|U2 [10] (Z7 rfl rfl U0 rfl)<|U2 [20] (Z7 rfl rfl U0 rfl)<|U2 [20,25] (Z9 Zbd rfl rfl U1 U0)<|Aa 20 rfl<|U2 [20,35] (Z9 Zcf rfl rfl U1 U0)<|U3) fun a g s b=>?_
 refine wp_ret<|Zp ?_
 obtain rfl:=Oi H0
 obtain⟨u0,hu0,hq0⟩:=Zbi (P:=Zb1f) Zbd (s.at 2 rfl)
 obtain⟨u2,hu2,hq2⟩:=Zbi (P:=Zb1f) Zcf (s.at 4 rfl)
 exact Zk9 rfl s b hu0 (Zf (s:=7)) hu2 (Zft hq0 (s.at 3 rfl) hq2)
 refine wp_skip<|Zl ?_
 refine wp_seq<|U4 [5,15,25,35,45,55,0] (L:=[(3,_),(4,_),(5,_),(6,_),(8,_),(9,_)]) (s.pi [0,1,2,3,4,5] rfl) b Za
  (Al ty_4 15 rfl<|U3) fun a g s b=>?_
 refine Zbq (fun a w=>∃(g:G),Jn 123 [(3,(pBox Zg 3 r3)),(4,(Kd.bool.ptr a1)),(5,(Z6.ptr a2)),(6,(pBox Zg 6 (default:Zb))),(8,(pBox Z3 8 (default:Zm))),(9,(Z72 103 [(pBox Zg 3 r3),(Kd.bool.ptr a1)]))] a w g0 g (Zjb a1 a2 r3=some r)) ?_ ?_
 rintro a w ⟨g,rfl,s,b,H0⟩
 unfold Zjb at H0
 refine Zl<|wp_seq ?_
 refine wp_block<|U4 [5,15,25,35,45,55,60] s b Za
  (Af Zdh 25 rfl<|Al U9 0 rfl<|U2 [0] (Zb0 rfl rfl U0 U6)<|Am 0 rfl<|Gt [0,15] rfl (fun h=>Z2 ty_4 rfl rfl U0)<|U2 [10,0] (Zbs rfl rfl U0 (fun hz=>(V1 hz U1)))<|Aa 0 rfl<|U3) fun a g s b=>?_
 refine Zs (s.bool 6 rfl) H0 (fun H0=>?_) (fun H0=>?_)
 obtain⟨r17,h18,H0⟩:=Zd H0
 refine U4 [11,15,50,60,70] (L:=[(3,_),(4,_),(6,_),(8,_),(9,_)]) (s.pi [0,1,3,4,5] rfl) b Za
  (Am 45 rfl<|U2 (outs:=[(50,(pTup [(Zg.pd r17.1),(Zbo r17.2.1),(Z3.pd r17.2.2.1)])),(3,(pBox Zg 3 r17.2.2.2))]) (S:=[4]) [0,5] (Zrq (Ps:=[.val (pInt .i64 (7:Int))]) (hs:=[]) (ks:=[(3,none,3)]) Zyq (Zmt _ _ _ h18) rfl rfl rfl U0 (.val U6 .nil) (.box U1 rfl (.val .nil)) rfl rfl rfl rfl)<|U2 [0] (Z7 rfl rfl U0 rfl)<|U2 [10] (Z7 rfl rfl U0 rfl)<|U2 [20] (Z7 rfl rfl U0 rfl)<|U2 [20,25] (Z9 Zbd rfl rfl U1 U0)<|Aa 20 rfl<|U2 [20,35] (Z9 Zcf rfl rfl U1 U0)<|U3) fun a g s b=>?_
 refine wp_ret<|Z5 ?_
 refine Zp ?_
 obtain rfl:=Oi H0
 obtain⟨u0,hu0,hq0⟩:=Zbi (P:=Zb1f) Zbd (s.at 2 rfl)
 obtain⟨u2,hu2,hq2⟩:=Zbi (P:=Zb1f) Zcf (s.at 4 rfl)
 exact Zk9 rfl s b hu0 (Zf (s:=7)) hu2 (Zft hq0 (s.at 3 rfl) hq2)
 refine U4 [5,15,25,35,45,55,30] (L:=[(3,_),(4,_),(5,_),(6,_),(8,_),(9,_)]) (s.pi [0,1,2,3,4,5] rfl) b Za
  (Af Zdh 25 rfl<|Al U9 0 rfl<|U2 [0] (Zb0 rfl rfl U0 U6)<|Aa 0 rfl<|U3) fun a g s b=>?_
 refine Zs (s.bool 6 rfl) H0 (fun H0=>?_) (fun H0=>?_)
 obtain⟨r20,h21,H0⟩:=Zd H0
 refine U4 [5,15,40,50,60] (L:=[(3,_),(4,_),(5,_),(6,_),(8,_)]) (s.pi [0,1,2,3,4] rfl) b Za
  (Af Zob 25 rfl<|Al Zbd 0 rfl<|U2 [0] (Zt Zvt (Zkf _ h21) rfl rfl (.cons U0 .nil))<|U2 [] (Zt8 rfl rfl )<|U2 [10,35] (Z9 Zbd rfl rfl U1 U0)<|U2 [] (Zc rfl rfl c_b)<|U2 [20,45] (Z9 Zcf rfl rfl U1 U0)<|U3) fun a g s b=>?_
 refine wp_ret<|Z5 ?_
 refine Zp ?_
 obtain rfl:=Oi H0
 obtain⟨u0,hu0,hq0⟩:=Zbi (P:=Zb1f) Zbd (s.at 2 rfl)
 obtain⟨u2,hu2,hq2⟩:=Zbi (P:=Zb1f) Zcf (s.at 4 rfl)
 exact Zk9 rfl s b hu0 (Zf (s:=7)) hu2 (Zft hq0 (s.at 3 rfl) hq2)
 refine U4 [5,15,25,35,45,55,30] (L:=[(3,_),(4,_),(5,_),(6,_),(8,_),(9,_)]) (s.pi [0,1,2,3,4,5] rfl) b Za
  (Af Zdh 25 rfl<|Al U9 0 rfl<|U2 [0] (Zb0 rfl rfl U0 U6)<|Aa 0 rfl<|U3) fun a g s b=>?_
 refine Zs (s.bool 6 rfl) H0 (fun H0=>?_) (fun H0=>?_)
 refine U4 [5,15,50,60,70] (L:=[(3,_),(4,_),(6,_),(8,_)]) (s.pi [0,1,3,4] rfl) b Za
  (AM Zbd 5 rfl<|Al ty_4 15 rfl<|U2 [5] (Zv Zfd (off:=0) (by kernel_rfl) rfl rfl U0)<|AP U9 0 rfl<|U2 [0] (Z8z rfl rfl U0)<|U2 [40,25] (Z9 Zbd rfl rfl U1 U0)<|Aa 40 rfl<|U2 [20,35] (Z9 Zcf rfl rfl U1 U0)<|U3) fun a g s b=>?_
 refine wp_ret<|Z5 ?_
 refine Zp ?_
 obtain rfl:=Oi H0
 obtain⟨u0,hu0,hq0⟩:=Zbi (P:=Zb1f) Zbd (s.at 2 rfl)
 obtain⟨u2,hu2,hq2⟩:=Zbi (P:=Zb1f) Zcf (s.at 4 rfl)
 exact Zk9 rfl s b hu0 (Zf (s:=7)) hu2 (Zft hq0 (s.at 3 rfl) hq2)
 refine U4 [5,15,25,35,45,55,20] (L:=[(3,_),(4,_),(5,_),(6,_),(8,_),(9,_)]) (s.pi [0,1,2,3,4,5] rfl) b Za
  (Al ty_4 15 rfl<|U2 [0] (Zct rfl rfl U0)<|Aa 0 rfl<|U3) fun a g s b=>?_
 refine Zs (s.bool 6 rfl) H0 (fun H0=>?_) (fun H0=>?_)
 obtain⟨r24,h25,H0⟩:=Zd H0
 refine U4 [11,15,50,60,70] (L:=[(3,_),(4,_),(6,_),(8,_),(9,_)]) (s.pi [0,1,3,4,5] rfl) b Za
  (Am 45 rfl<|U2 (outs:=[(75,(pTup [(Zg.pd r24.1),(Zbo r24.2.1),(Z3.pd r24.2.2.1)])),(3,(pBox Zg 3 r24.2.2.2))]) (S:=[4]) [0,5] (Zrq (Ps:=[.val (pInt .i64 (6:Int))]) (hs:=[]) (ks:=[(3,none,3)]) Zyq (Zmt _ _ _ h25) rfl rfl rfl U0 (.val U6 .nil) (.box U1 rfl (.val .nil)) rfl rfl rfl rfl)<|U2 [0] (Z7 rfl rfl U0 rfl)<|U2 [10] (Z7 rfl rfl U0 rfl)<|U2 [20] (Z7 rfl rfl U0 rfl)<|U2 [20,25] (Z9 Zbd rfl rfl U1 U0)<|Aa 20 rfl<|U2 [20,35] (Z9 Zcf rfl rfl U1 U0)<|U3) fun a g s b=>?_
 refine wp_ret<|Z5 ?_
 refine Zp ?_
 obtain rfl:=Oi H0
 obtain⟨u0,hu0,hq0⟩:=Zbi (P:=Zb1f) Zbd (s.at 2 rfl)
 obtain⟨u2,hu2,hq2⟩:=Zbi (P:=Zb1f) Zcf (s.at 4 rfl)
 exact Zk9 rfl s b hu0 (Zf (s:=7)) hu2 (Zft hq0 (s.at 3 rfl) hq2)
 refine U4 [5,15,25,35,45,55,30] (L:=[(3,_),(4,_),(5,_),(6,_),(8,_),(9,_)]) (s.pi [0,1,2,3,4,5] rfl) b Za
  (Af Zdh 25 rfl<|Al U9 0 rfl<|U2 [0] (Zb0 rfl rfl U0 U6)<|Aa 0 rfl<|U3) fun a g s b=>?_
 refine Zs (s.bool 6 rfl) H0 (fun H0=>?_) (fun H0=>?_)
 refine U4 [5,15,20,30,40] (L:=[(3,_),(4,_),(6,_),(8,_)]) (s.pi [0,1,3,4] rfl) b Za
  (U2 [] (Zqf rfl rfl )<|U2 [] (Zt8 rfl rfl )<|U2 [10,25] (Z9 Zbd rfl rfl U1 U0)<|U2 [] (Zc rfl rfl c_b)<|U2 [20,35] (Z9 Zcf rfl rfl U1 U0)<|U3) fun a g s b=>?_
 refine wp_ret<|Z5 ?_
 refine Zp ?_
 obtain rfl:=Oi H0
 obtain⟨u0,hu0,hq0⟩:=Zbi (P:=Zb1f) Zbd (s.at 2 rfl)
 obtain⟨u2,hu2,hq2⟩:=Zbi (P:=Zb1f) Zcf (s.at 4 rfl)
 exact Zk9 rfl s b hu0 (Zf (s:=7)) hu2 (Zft hq0 (s.at 3 rfl) hq2)
 refine U4 [5,15,25,35,45,55,30] (L:=[(3,_),(4,_),(5,_),(6,_),(8,_),(9,_)]) (s.pi [0,1,2,3,4,5] rfl) b Za
  (Af Zdh 25 rfl<|Al U9 0 rfl<|U2 [0] (Zb0 rfl rfl U0 U6)<|Aa 0 rfl<|U3) fun a g s b=>?_
 refine Zs (s.bool 6 rfl) H0 (fun H0=>?_) (fun H0=>?_)
 obtain⟨r28,h29,H0⟩:=Zd H0
 refine U4 [5,15,50,60,70] (L:=[(3,_),(4,_),(6,_),(8,_)]) (s.pi [0,1,3,4] rfl) b Za
  (AM Zbd 5 rfl<|Al ty_4 15 rfl<|AM Zbd 5 rfl<|U2 [0] (Zt Zvt (Zkf _ h29) rfl rfl (.cons U0 .nil))<|U2 [0] (Z85 rfl rfl U0)<|U2 [40,25] (Z9 Zbd rfl rfl U1 U0)<|Aa 40 rfl<|U2 [20,35] (Z9 Zcf rfl rfl U1 U0)<|U3) fun a g s b=>?_
 refine wp_ret<|Z5 ?_
 refine Zp ?_
 obtain rfl:=Oi H0
 obtain⟨u0,hu0,hq0⟩:=Zbi (P:=Zb1f) Zbd (s.at 2 rfl)
 obtain⟨u2,hu2,hq2⟩:=Zbi (P:=Zb1f) Zcf (s.at 4 rfl)
 exact Zk9 rfl s b hu0 (Zf (s:=7)) hu2 (Zft hq0 (s.at 3 rfl) hq2)
 obtain⟨r30,h31,H0⟩:=Zd H0
 refine U4 [5,15,25,35,45,55,60] (L:=[(3,_),(4,_),(5,_),(6,_),(8,_),(9,_)]) (s.pi [0,1,2,3,4,5] rfl) b Za
  (Af Zdh 25 rfl<|Al U9 0 rfl<|U2 [0] (Zt Zbqi (Zbid _ h31) rfl rfl (.cons U0 .nil))<|U2 [5] (Zv Zfd (off:=0) (by kernel_rfl) rfl rfl U0)<|AP U9 0 rfl<|U2 [20,0] (Zcv rfl rfl U0 U1)<|Aa 0 rfl<|U3) fun a g s b=>?_
 refine Zs (s.bool 6 rfl) H0 (fun H0=>?_) (fun H0=>?_)
 obtain⟨r33,h34,H0⟩:=Zd H0
 refine U4 [11,15,50,60,70] (L:=[(3,_),(4,_),(6,_),(8,_),(9,_)]) (s.pi [0,1,3,4,5] rfl) b Za
  (Am 45 rfl<|U2 (outs:=[(102,(pTup [(Zg.pd r33.1),(Zbo r33.2.1),(Z3.pd r33.2.2.1)])),(3,(pBox Zg 3 r33.2.2.2))]) (S:=[4]) [0,5] (Zrq (Ps:=[.val (pInt .i64 (5:Int))]) (hs:=[]) (ks:=[(3,none,3)]) Zyq (Zmt _ _ _ h34) rfl rfl rfl U0 (.val U6 .nil) (.box U1 rfl (.val .nil)) rfl rfl rfl rfl)<|U2 [0] (Z7 rfl rfl U0 rfl)<|U2 [10] (Z7 rfl rfl U0 rfl)<|U2 [20] (Z7 rfl rfl U0 rfl)<|U2 [20,25] (Z9 Zbd rfl rfl U1 U0)<|Aa 20 rfl<|U2 [20,35] (Z9 Zcf rfl rfl U1 U0)<|U3) fun a g s b=>?_
 refine wp_ret<|Z5 ?_
 refine Zp ?_
 obtain rfl:=Oi H0
 obtain⟨u0,hu0,hq0⟩:=Zbi (P:=Zb1f) Zbd (s.at 2 rfl)
 obtain⟨u2,hu2,hq2⟩:=Zbi (P:=Zb1f) Zcf (s.at 4 rfl)
 exact Zk9 rfl s b hu0 (Zf (s:=7)) hu2 (Zft hq0 (s.at 3 rfl) hq2)
 refine wp_skip<|Zbb ?_
 refine Zl ?_
 obtain⟨r35,h36,H0⟩:=Zd H0
 refine U4 [5,15,25,35,45,30] (L:=[(3,_),(4,_),(5,_),(6,_),(8,_)]) (s.pi [0,1,2,3,4] rfl) b Za
  (AM Zbd 5 rfl<|U2 [0] (Zt Zvt (Zkf _ h36) rfl rfl (.cons U0 .nil))<|U2 [] (Ziv 12 rfl rfl)<|U2 [10,0] (Zci Zbd rfl rfl U1 U0)<|U3) fun a g s b=>?_
 refine U4 [5,15,25,35,45,55,0] s b Za
  (U2 [] (Zlz 13 rfl rfl)<|U3) fun a g s b=>?_
 refine wp_seq ?_
 obtain⟨h37,H0⟩:=Zdr H0;obtain⟨r38,h39,H0⟩:=Zd H0
 refine U4 [51,15,35,45,55,52,60] s b Za
  (U2 [] (Zt Zbq2 Z37 rfl rfl .nil)<|Af Zdh 25 rfl<|Al U9 0 rfl<|U2 (outs:=[(111,(pFun Zb1f (Phi a2.Kind)))]) (S:=[]) [20,0] (Zbb7 Zb3m (by kernel_rfl) ⟨_,Tryz.underlying196,rfl⟩ (by have:=h37;omega) (Zbpd h37) (by have:=h37;omega) rfl rfl U0 U1)<|Al Zgb 25 rfl<|U2 (outs:=[(113,(pInt .i64 r38.1)),(3,(pBox Zg 3 r38.2.1)),(13,(pBox Z3 13 r38.2.2))]) (S:=[4,14]) [10,5,0,65] (Zbfk (hs:=[(3,none,3),(13,none,13)]) (Zbn3 h39) rfl rfl rfl U0 (.box U1 U1 rfl (.val U7 (.box u_3 u_3 rfl .nil))) rfl rfl rfl)<|Aa 0 rfl<|U3) fun a g s b=>?_
 refine U4 [5,15,25,35,45,55,65,10] s b Za
  (Am 65 rfl<|U2 [0] (Zcv rfl rfl U0 U6)<|U3) fun a g s b=>?_
 refine Zs (s.bool 7 rfl) H0 (fun H0=>?_) (fun H0=>?_)
 refine U4 [5,15,40,50,60] (L:=[(3,_),(4,_),(6,_),(8,_),(12,_),(14,_)]) (s.pi [0,1,2,3,4,6] rfl) b Za
  (Al Zbd 45 rfl<|Al ty_4 15 rfl<|Am 55 rfl<|U2 [0] (Zua rfl rfl U0)<|U2 [30,25] (Z9 Zbd rfl rfl U1 U0)<|Aa 30 rfl<|U2 [20,35] (Z9 Zcf rfl rfl U1 U0)<|U3) fun a g s b=>?_
 refine wp_ret<|Zp ?_
 obtain rfl:=Oi H0
 obtain⟨u0,hu0,hq0⟩:=Zbi (P:=Zb1f) Zbd (s.at 2 rfl)
 obtain⟨u2,hu2,hq2⟩:=Zbi (P:=Zb1f) Zcf (s.at 4 rfl)
 exact Zk9 rfl s b hu0 (Zf (s:=7)) hu2 (Zft hq0 (s.at 3 rfl) hq2)
 refine wp_skip<|Zl ?_
 refine U4 [5,15,30,40,50] (L:=[(3,_),(4,_),(6,_),(8,_),(13,_)]) (s.pi [0,1,2,3,5] rfl) b Za
  (AM Zbd 5 rfl<|Al ty_4 15 rfl<|AM Zcf 45 rfl<|U2 [20,25] (Z9 Zbd rfl rfl U1 U0)<|Aa 20 rfl<|U2 [20,35] (Z9 Zcf rfl rfl U1 U0)<|U3) fun a g s b=>?_
 refine wp_ret ?_
 obtain rfl:=Oi H0
 obtain⟨u0,hu0,hq0⟩:=Zbi (P:=Zb1f) Zbd (s.at 2 rfl)
 obtain⟨u2,hu2,hq2⟩:=Zbi (P:=Zb1f) Zcf (s.at 4 rfl)
 exact Zk9 rfl s b hu0 (Zf (s:=7)) hu2 (Zft hq0 (s.at 3 rfl) hq2)
 refine Zs (s.bool 6 rfl) H0 (fun H0=>?_) (fun H0=>?_)
 obtain⟨r11,h12,H0⟩:=Zd H0
 refine U4 [5,15,25,35,45,55,20] (L:=[(3,_),(4,_),(5,_),(6,_),(8,_),(9,_)]) (s.pi [0,1,2,3,4,5] rfl) b Za
  (AM Zbd 5 rfl<|U2 [0] (Zt Z77 (Zrw _ h12) rfl rfl (.cons U0 .nil))<|Aa 0 rfl<|U3) fun a g s b=>?_
 refine U4 [5,15,25,35,45,55,65,10] s b Za
  (Am 65 rfl<|U2 [0] (Zcv rfl rfl U0 U6)<|U3) fun a g s b=>?_
 refine Zs (s.bool 7 rfl) H0 (fun H0=>?_) (fun H0=>?_)
 obtain⟨r14,h15,H0⟩:=Zd H0
 refine U4 [21,15,60,70,80] (L:=[(3,_),(4,_),(6,_),(8,_),(9,_),(11,_)]) (s.pi [0,1,3,4,5,6] rfl) b Za
  (Am 45 rfl<|Am 55 rfl<|U2 (outs:=[(38,(pTup [(Zg.pd r14.1),(Zbo r14.2.1),(Z3.pd r14.2.2.1)])),(3,(pBox Zg 3 r14.2.2.2))]) (S:=[4]) [10,0,5] (Zrq (Ps:=[.val (pInt .i64 r11)]) (hs:=[]) (ks:=[(3,none,3)]) Zyq (Zmt _ _ _ h15) rfl rfl rfl U0 (.val U1 .nil) (.box U7 rfl (.val .nil)) rfl rfl rfl rfl)<|U2 [0] (Z7 rfl rfl U0 rfl)<|U2 [10] (Z7 rfl rfl U0 rfl)<|U2 [20] (Z7 rfl rfl U0 rfl)<|U2 [20,25] (Z9 Zbd rfl rfl U1 U0)<|Aa 20 rfl<|U2 [20,35] (Z9 Zcf rfl rfl U1 U0)<|U3) fun a g s b=>?_
 refine wp_ret<|Zp ?_
 refine Zp ?_
 obtain rfl:=Oi H0
 obtain⟨u0,hu0,hq0⟩:=Zbi (P:=Zb1f) Zbd (s.at 2 rfl)
 obtain⟨u2,hu2,hq2⟩:=Zbi (P:=Zb1f) Zcf (s.at 4 rfl)
 exact Zk9 rfl s b hu0 (Zf (s:=7)) hu2 (Zft hq0 (s.at 3 rfl) hq2)
 exact wp_skip<|⟨g,rfl,(s.pi [0,1,2,3,4,5] rfl),b,H0⟩
 exact wp_skip<|⟨g,rfl,(s.pi [0,1,2,3,4,5] rfl),b,H0⟩
 refine Zs (s.bool 5 rfl) H0 (fun H0=>?_) (fun H0=>?_)
 refine U5 [10,15,25,35,45] (L:=[(3,_),(4,_),(5,_),(6,_),(8,_)]) (s.pi [0,1,2,3,4] rfl) b Za
  (U2 [] (Zqf rfl rfl )<|U2 [0,5] (Z9 Zbd rfl rfl U1 U0)<|U3) fun a g s b=>?_
 exact⟨({Kind:=(0:Int),Num:=(0:Int),Low:=(0:Int),High:=(0:Int),Real:=(0:Nat),Cap:=(0:Int),Text:=ByteArray.empty,List:=([]:List Zn)}:Zb),g,rfl,(s.pi [0,1,2,3,4] rfl),b,H0⟩
 exact wp_skip<|⟨a0,g,rfl,(s.pi [0,1,2,3,4] rfl),b,H0⟩
theorem Zba8 (a0:Int) {r:Bool} (H0:Zvv a0=some r):FnOk Zb1f 76 [(pInt .i64 a0)] (Zbo r):=by
 unfold Zvv at H0
 refine Zb9 (N:=21) Tryz.func76 rfl rfl (Qe rfl) rfl rfl (fun a g0 s b=>?_)
 refine U4 [5] s b Za
  (U2 [] (Zc rfl rfl c_b)<|U3) fun a g s b=>?_
 refine U4 [180] s b Za
  (Am 5 rfl<|U2 [0] (Zb0 rfl rfl U0 U6)<|Am 0 rfl<|Gf [0,5] rfl (fun h=>Zx rfl rfl U0)<|Gf [10,0] rfl (fun h=>Zb0 rfl rfl (V1 h U0) U6)<|U2 [20,0] (Zb3 rfl rfl U0 (fun hz=>(V1 (bNF hz) U1)))<|Am 0 rfl<|Gf [0,5] rfl (fun h=>Zx rfl rfl U0)<|Gf [10,0] rfl (fun h=>Zb0 rfl rfl (V1 h U0) U6)<|U2 [20,0] (Zb3 rfl rfl U0 (fun hz=>(V1 (bNF hz) U1)))<|Am 0 rfl<|Gf [0,5] rfl (fun h=>Zx rfl rfl U0)<|Gf [10,0] rfl (fun h=>Zb0 rfl rfl (V1 h U0) U6)<|U2 [20,0] (Zb3 rfl rfl U0 (fun hz=>(V1 (bNF hz) U1)))<|Am 0 rfl<|Gf [0,5] rfl (fun h=>Zx rfl rfl U0)<|Gf [10,0] rfl (fun h=>Zb0 rfl rfl (V1 h U0) U6)<|U2 [20,0] (Zb3 rfl rfl U0 (fun hz=>(V1 (bNF hz) U1)))<|Aa 0 rfl<|U3) fun a g s b=>?_
 refine wp_ret ?_
 obtain rfl:=Oi H0
 exact Zba rfl s b (Zf (s:=2)) (s.at 0 rfl)
theorem Zen (a0:shelf_nodeT) {r:Int} (H0:Zdp a0=some r):FnOk Zb1f 52 [(Zbk.pd a0)] (pInt .i64 r):=by
 unfold Zdp at H0
 refine Zb9 (N:=9) Tryz.func52 rfl rfl (Qe rfl) rfl rfl (fun a g0 s b=>?_)
 refine U4 [5] s b Za
  (U2 [] (Zc rfl rfl U6)<|U3) fun a g s b=>?_
 refine wp_seq<|U4 [5,10] s b Za
  (Am 5 rfl<|U2 [0] (Zwv Zb13 rfl rfl U0 (Zg6 _))<|U3) fun a g s b=>?_
 refine Zs (s.bool 1 rfl) H0 (fun H0=>?_) (fun H0=>?_)
 refine U4 [0] (L:=[]) (s.pi [] rfl) b Za
  (U2 [] (Zc rfl rfl U6)<|U3) fun a g s b=>?_
 refine wp_ret<|Zp ?_
 obtain rfl:=Oi H0
 exact Zba rfl s b (Zf (s:=2)) (s.at 0 rfl)
 refine wp_skip<|Zl ?_
 obtain⟨n2,h3,H0⟩:=Zd H0
 refine U4 [40] (L:=[(0,_)]) (s.pi [0] rfl) b Za
  (Am 5 rfl<|U2 [0] (Zz rfl rfl (Opd.imp U0 (fun _ _ h=>Z1 h3 h)))<|Af Zbjs 0 rfl<|Al U9 0 rfl<|Aa 0 rfl<|U3) fun a g s b=>?_
 refine wp_ret ?_
 obtain rfl:=Oi H0
 exact Zba rfl s b (Zf (s:=2)) (s.at 0 rfl)
theorem Zfi (a0:ByteArray) (a1:Zb) (a2:shelf_nodeT) (a3:shelf_nodeT) {r:shelf_nodeT} (H0:Ze3 a0 a1 a2 a3=some r):FnOk Zb1f 155 [(pStr a0),(Zg.pd a1),(Zbk.pd a2),(Zbk.pd a3)] (Zbk.pd r):=by
 unfold Ze3 at H0
 refine Zb9 (N:=21) Tryz.func155 rfl rfl (Qe rfl) rfl rfl (fun a g0 s b=>?_)
 refine U4 [5,25,35,0] s b Za
  (U2 [15] (Zbt rfl rfl U0)<|U2 (outs:=[(8,(Zbk.pd shelf_nodeT.nil))]) (S:=[]) [] (Zc rfl rfl (Opd.c (fun g=>Zf3 g)))<|U3) fun a g s b=>?_
 obtain⟨r1,h2,H0⟩:=Zd H0;obtain⟨r3,h4,H0⟩:=Zd H0
 refine U4 [120] s b Za
  (Am 5 rfl<|Al Zbd 35 rfl<|Am 15 rfl<|Am 25 rfl<|Am 15 rfl<|U2 [0] (Zt Zso (Zen _ h2) rfl rfl (.cons U0 .nil))<|Am 25 rfl<|U2 [0] (Zt Zso (Zen _ h4) rfl rfl (.cons U0 .nil))<|U2 [20,0] (Zbw rfl rfl U0 U1 rfl)<|U2 [0] (Zbw rfl rfl U0 U6 rfl)<|U2 [90,80,70,60,0] (Z1r rfl rfl U0 U1 U7 u_3 u_4)<|U2 [0] (Zbt rfl rfl U0)<|U2 [0] (Zc rfl rfl (Opd.imp U0 (fun _ _ h=>Z4z h)))<|U3) fun a g s b=>?_
 refine wp_ret ?_
 obtain rfl:=Oi H0
 exact Zba rfl s b (Zf (s:=8)) (s.at 0 rfl)
theorem Zqm (a0:shelf_nodeT) (a1:shelf_nodeT) {r:Bool} (H0:Zlh a0 a1=some r):FnOk Zb1f 169 [(Zbk.pd a0),(Zbk.pd a1)] (Zbo r):=by
 unfold Zlh at H0
 refine Zb9 (N:=13) Tryz.func169 rfl rfl (Qe rfl) rfl rfl (fun a g0 s b=>?_)
 refine U4 [5,15] s b Za
  (U2 [] (Zc rfl rfl c_b)<|U3) fun a g s b=>?_
 obtain⟨r1,h2,H0⟩:=Zd H0;obtain⟨r3,h4,H0⟩:=Zd H0
 refine U4 [80] s b Za
  (Am 5 rfl<|U2 [0] (Zt Zso (Zen _ h2) rfl rfl (.cons U0 .nil))<|U2 [0] (Zbw rfl rfl U0 U6 rfl)<|Am 15 rfl<|U2 [0] (Zt Zso (Zen _ h4) rfl rfl (.cons U0 .nil))<|U2 [0] (Zbw rfl rfl U0 U6 rfl)<|U2 [0] (Zyx rfl rfl U6 U0 rfl)<|U2 [40,0] (Zcn rfl rfl U0 U1)<|Aa 0 rfl<|U3) fun a g s b=>?_
 refine wp_ret ?_
 obtain rfl:=Oi H0
 exact Zba rfl s b (Zf (s:=4)) (s.at 0 rfl)
theorem Zov (a0:ByteArray) (a1:Zb) (a2:shelf_nodeT) (a3:shelf_nodeT) {r:shelf_nodeT} (H0:Zk7 a0 a1 a2 a3=some r):FnOk Zb1f 153 [(pStr a0),(Zg.pd a1),(Zbk.pd a2),(Zbk.pd a3)] (Zbk.pd r):=by
 unfold Zk7 at H0
 refine Zb9 (N:=182) Tryz.func153 rfl rfl (Qe rfl) rfl rfl (fun a g0 s b=>?_)
 refine U4 [5,25,35,0] s b Za
  (U2 [15] (Zbt rfl rfl U0)<|U2 (outs:=[(8,(Zbk.pd shelf_nodeT.nil))]) (S:=[]) [] (Zc rfl rfl (Opd.c (fun g=>Zf3 g)))<|U3) fun a g s b=>?_
 refine wp_seq<|wp_block ?_
 obtain⟨r1,h2,H0⟩:=Zd H0;obtain⟨n3,h4,H0⟩:=Zd H0;obtain⟨r5,h6,H0⟩:=Zd H0;obtain⟨n7,h8,H0⟩:=Zd H0;obtain⟨r9,h10,H0⟩:=Zd H0
 refine U4 [5,15,25,35,190] s b Za
  (Am 25 rfl<|Am 15 rfl<|U2 [10,0] (Zt Z26 (Zqm _ _ h2) rfl rfl (.cons U0 (.cons U1 .nil)))<|Am 0 rfl<|Gt [0,25] rfl (fun h=>Zx rfl rfl U0)<|Gt [10,0] rfl (fun u=>Zz rfl rfl (Opd.imp (V1 u U0) (fun _ _ h=>Z1 (Zcb h4 u) h)))<|Gt [20,0] rfl (fun h=>Zq Zfy rfl rfl (V1 h U0))<|Gt [30,0] rfl (fun h=>Z2 Zd5 rfl rfl (V1 h U0))<|Gt [40,0] rfl (fun h=>Zt Zso (Zen _ (Zcb h6 h)) rfl rfl (.cons (V1 h U0) .nil))<|Gt [50,0] rfl (fun h=>Zbw rfl rfl (V1 h U0) U6 rfl)<|Gt [60,25] rfl (fun h=>Zx rfl rfl U0)<|Gt [70,0] rfl (fun u=>Zz rfl rfl (Opd.imp (V1 u U0) (fun _ _ h=>Z1 (Zcb h8 u) h)))<|Gt [80,0] rfl (fun h=>Zq Zgx rfl rfl (V1 h U0))<|Gt [90,0] rfl (fun h=>Z2 Zd5 rfl rfl (V1 h U0))<|Gt [100,0] rfl (fun h=>Zt Zso (Zen _ (Zcb h10 h)) rfl rfl (.cons (V1 h U0) .nil))<|Gt [110,0] rfl (fun h=>Zbw rfl rfl (V1 h U0) U6 rfl)<|Gt [120,0] rfl (fun h=>Zyx rfl rfl U6 (V1 h U0) rfl)<|Gt [130,70,0] rfl (fun h=>Zcj rfl rfl (V1 h U0) (V1 h U1))<|U2 [140,0] (Zbs rfl rfl U0 (fun hz=>(V1 hz U1)))<|Aa 0 rfl<|U3) fun a g s b=>?_
 refine Zs (s.bool 4 rfl) H0 (fun H0=>?_) (fun H0=>?_)
 obtain⟨n12,h13,H0⟩:=Zd H0;obtain⟨r14,h15,H0⟩:=Zd H0;obtain⟨r16,h17,H0⟩:=Zd H0
 refine U4 [210] (L:=[(0,_),(2,_),(3,_),(5,_)]) (s.pi [0,1,2,3] rfl) b Za
  (Am 25 rfl<|U2 [0] (Zz rfl rfl (Opd.imp U0 (fun _ _ h=>Z1 h13 h)))<|Af Zgu 0 rfl<|Al V0 0 rfl<|Am 25 rfl<|U2 [0] (Zz rfl rfl (Opd.imp U0 (fun _ _ h=>Z1 h13 h)))<|Af Zj2 0 rfl<|Al Zbd 0 rfl<|Am 5 rfl<|Al Zbd 35 rfl<|Am 15 rfl<|Am 25 rfl<|U2 [0] (Zz rfl rfl (Opd.imp U0 (fun _ _ h=>Z1 h13 h)))<|Af Zfy 0 rfl<|Al Zd5 0 rfl<|U2 [60,50,40,0] (Zt Znx (Zfi _ _ _ _ h15) rfl rfl (.cons U0 (.cons U1 (.cons U7 (.cons u_3 .nil)))))<|Am 25 rfl<|U2 [0] (Zz rfl rfl (Opd.imp U0 (fun _ _ h=>Z1 h13 h)))<|Af Zgx 0 rfl<|Al Zd5 0 rfl<|U2 [160,120,40,0] (Zt Znx (Zfi _ _ _ _ h17) rfl rfl (.cons U0 (.cons U1 (.cons U7 (.cons u_3 .nil)))))<|Aa 0 rfl<|U3) fun a g s b=>?_
 refine wp_ret<|Z5 ?_
 refine Zp ?_
 obtain rfl:=Oi H0
 exact Zba rfl s b (Zf (s:=8)) (s.at 0 rfl)
 obtain⟨r18,h19,H0⟩:=Zd H0
 refine U4 [5,15,25,35,30] (L:=[(0,_),(2,_),(3,_),(5,_)]) (s.pi [0,1,2,3] rfl) b Za
  (Am 25 rfl<|Am 15 rfl<|U2 [10,0] (Zt Z26 (Zqm _ _ h19) rfl rfl (.cons U0 (.cons U1 .nil)))<|Aa 0 rfl<|U3) fun a g s b=>?_
 refine Zs (s.bool 4 rfl) H0 (fun H0=>?_) (fun H0=>?_)
 obtain⟨n21,h22,H0⟩:=Zd H0
 refine U4 [5,15,25,35,40] (L:=[(0,_),(2,_),(3,_),(5,_)]) (s.pi [0,1,2,3] rfl) b Za
  (Am 25 rfl<|U2 [0] (Zz rfl rfl (Opd.imp U0 (fun _ _ h=>Z1 h22 h)))<|Af Zfy 0 rfl<|Al Zd5 0 rfl<|Aa 0 rfl<|U3) fun a g s b=>?_
 obtain⟨n23,h24,H0⟩:=Zd H0;obtain⟨r25,h26,H0⟩:=Zd H0;obtain⟨r27,h28,H0⟩:=Zd H0;obtain⟨r29,h30,H0⟩:=Zd H0
 refine U4 [340] s b Za
  (Am 45 rfl<|U2 [0] (Zz rfl rfl (Opd.imp U0 (fun _ _ h=>Z1 h24 h)))<|Af Zgu 0 rfl<|Al V0 0 rfl<|Am 45 rfl<|U2 [0] (Zz rfl rfl (Opd.imp U0 (fun _ _ h=>Z1 h24 h)))<|Af Zj2 0 rfl<|Al Zbd 0 rfl<|Am 5 rfl<|Al Zbd 35 rfl<|Am 15 rfl<|Am 45 rfl<|U2 [0] (Zz rfl rfl (Opd.imp U0 (fun _ _ h=>Z1 h24 h)))<|Af Zfy 0 rfl<|Al Zd5 0 rfl<|U2 [60,50,40,0] (Zt Znx (Zfi _ _ _ _ h26) rfl rfl (.cons U0 (.cons U1 (.cons U7 (.cons u_3 .nil)))))<|Am 25 rfl<|U2 [0] (Zz rfl rfl (Opd.imp U0 (fun _ _ h=>Z1 h22 h)))<|Af Zgu 0 rfl<|Al V0 0 rfl<|Am 25 rfl<|U2 [0] (Zz rfl rfl (Opd.imp U0 (fun _ _ h=>Z1 h22 h)))<|Af Zj2 0 rfl<|Al Zbd 0 rfl<|Am 45 rfl<|U2 [0] (Zz rfl rfl (Opd.imp U0 (fun _ _ h=>Z1 h24 h)))<|Af Zgx 0 rfl<|Al Zd5 0 rfl<|Am 25 rfl<|U2 [0] (Zz rfl rfl (Opd.imp U0 (fun _ _ h=>Z1 h22 h)))<|Af Zgx 0 rfl<|Al Zd5 0 rfl<|U2 [120,80,40,0] (Zt Znx (Zfi _ _ _ _ h28) rfl rfl (.cons U0 (.cons U1 (.cons U7 (.cons u_3 .nil)))))<|U2 [290,250,170,0] (Zt Znx (Zfi _ _ _ _ h30) rfl rfl (.cons U0 (.cons U1 (.cons U7 (.cons u_3 .nil)))))<|Aa 0 rfl<|U3) fun a g s b=>?_
 refine wp_ret<|Z5 ?_
 refine Zp ?_
 obtain rfl:=Oi H0
 exact Zba rfl s b (Zf (s:=8)) (s.at 0 rfl)
 obtain⟨r31,h32,H0⟩:=Zd H0;obtain⟨n33,h34,H0⟩:=Zd H0;obtain⟨r35,h36,H0⟩:=Zd H0;obtain⟨n37,h38,H0⟩:=Zd H0;obtain⟨r39,h40,H0⟩:=Zd H0
 refine U4 [5,15,25,35,190] (L:=[(0,_),(2,_),(3,_),(5,_)]) (s.pi [0,1,2,3] rfl) b Za
  (Am 15 rfl<|Am 25 rfl<|U2 [10,0] (Zt Z26 (Zqm _ _ h32) rfl rfl (.cons U0 (.cons U1 .nil)))<|Am 0 rfl<|Gt [0,15] rfl (fun h=>Zx rfl rfl U0)<|Gt [10,0] rfl (fun u=>Zz rfl rfl (Opd.imp (V1 u U0) (fun _ _ h=>Z1 (Zcb h34 u) h)))<|Gt [20,0] rfl (fun h=>Zq Zgx rfl rfl (V1 h U0))<|Gt [30,0] rfl (fun h=>Z2 Zd5 rfl rfl (V1 h U0))<|Gt [40,0] rfl (fun h=>Zt Zso (Zen _ (Zcb h36 h)) rfl rfl (.cons (V1 h U0) .nil))<|Gt [50,0] rfl (fun h=>Zbw rfl rfl (V1 h U0) U6 rfl)<|Gt [60,15] rfl (fun h=>Zx rfl rfl U0)<|Gt [70,0] rfl (fun u=>Zz rfl rfl (Opd.imp (V1 u U0) (fun _ _ h=>Z1 (Zcb h38 u) h)))<|Gt [80,0] rfl (fun h=>Zq Zfy rfl rfl (V1 h U0))<|Gt [90,0] rfl (fun h=>Z2 Zd5 rfl rfl (V1 h U0))<|Gt [100,0] rfl (fun h=>Zt Zso (Zen _ (Zcb h40 h)) rfl rfl (.cons (V1 h U0) .nil))<|Gt [110,0] rfl (fun h=>Zbw rfl rfl (V1 h U0) U6 rfl)<|Gt [120,0] rfl (fun h=>Zyx rfl rfl U6 (V1 h U0) rfl)<|Gt [130,70,0] rfl (fun h=>Zcj rfl rfl (V1 h U0) (V1 h U1))<|U2 [140,0] (Zbs rfl rfl U0 (fun hz=>(V1 hz U1)))<|Aa 0 rfl<|U3) fun a g s b=>?_
 refine Zs (s.bool 4 rfl) H0 (fun H0=>?_) (fun H0=>?_)
 obtain⟨n42,h43,H0⟩:=Zd H0;obtain⟨r44,h45,H0⟩:=Zd H0;obtain⟨r46,h47,H0⟩:=Zd H0
 refine U4 [210] (L:=[(0,_),(2,_),(3,_),(5,_)]) (s.pi [0,1,2,3] rfl) b Za
  (Am 15 rfl<|U2 [0] (Zz rfl rfl (Opd.imp U0 (fun _ _ h=>Z1 h43 h)))<|Af Zgu 0 rfl<|Al V0 0 rfl<|Am 15 rfl<|U2 [0] (Zz rfl rfl (Opd.imp U0 (fun _ _ h=>Z1 h43 h)))<|Af Zj2 0 rfl<|Al Zbd 0 rfl<|Am 15 rfl<|U2 [0] (Zz rfl rfl (Opd.imp U0 (fun _ _ h=>Z1 h43 h)))<|Af Zfy 0 rfl<|Al Zd5 0 rfl<|Am 5 rfl<|Al Zbd 35 rfl<|Am 15 rfl<|U2 [0] (Zz rfl rfl (Opd.imp U0 (fun _ _ h=>Z1 h43 h)))<|Af Zgx 0 rfl<|Al Zd5 0 rfl<|Am 25 rfl<|U2 [60,50,10,0] (Zt Znx (Zfi _ _ _ _ h45) rfl rfl (.cons U0 (.cons U1 (.cons U7 (.cons u_3 .nil)))))<|U2 [160,120,80,0] (Zt Znx (Zfi _ _ _ _ h47) rfl rfl (.cons U0 (.cons U1 (.cons U7 (.cons u_3 .nil)))))<|Aa 0 rfl<|U3) fun a g s b=>?_
 refine wp_ret<|Z5 ?_
 refine Zp ?_
 obtain rfl:=Oi H0
 exact Zba rfl s b (Zf (s:=8)) (s.at 0 rfl)
 obtain⟨r48,h49,H0⟩:=Zd H0
 refine U4 [5,15,25,35,30] (L:=[(0,_),(2,_),(3,_),(5,_)]) (s.pi [0,1,2,3] rfl) b Za
  (Am 15 rfl<|Am 25 rfl<|U2 [10,0] (Zt Z26 (Zqm _ _ h49) rfl rfl (.cons U0 (.cons U1 .nil)))<|Aa 0 rfl<|U3) fun a g s b=>?_
 refine Zs (s.bool 4 rfl) H0 (fun H0=>?_) (fun H0=>?_)
 obtain⟨n51,h52,H0⟩:=Zd H0
 refine U4 [5,15,25,35,40] (L:=[(0,_),(2,_),(3,_),(5,_)]) (s.pi [0,1,2,3] rfl) b Za
  (Am 15 rfl<|U2 [0] (Zz rfl rfl (Opd.imp U0 (fun _ _ h=>Z1 h52 h)))<|Af Zgx 0 rfl<|Al Zd5 0 rfl<|Aa 0 rfl<|U3) fun a g s b=>?_
 obtain⟨n53,h54,H0⟩:=Zd H0;obtain⟨r55,h56,H0⟩:=Zd H0;obtain⟨r57,h58,H0⟩:=Zd H0;obtain⟨r59,h60,H0⟩:=Zd H0
 refine U4 [340] s b Za
  (Am 45 rfl<|U2 [0] (Zz rfl rfl (Opd.imp U0 (fun _ _ h=>Z1 h54 h)))<|Af Zgu 0 rfl<|Al V0 0 rfl<|Am 45 rfl<|U2 [0] (Zz rfl rfl (Opd.imp U0 (fun _ _ h=>Z1 h54 h)))<|Af Zj2 0 rfl<|Al Zbd 0 rfl<|Am 15 rfl<|U2 [0] (Zz rfl rfl (Opd.imp U0 (fun _ _ h=>Z1 h52 h)))<|Af Zgu 0 rfl<|Al V0 0 rfl<|Am 15 rfl<|U2 [0] (Zz rfl rfl (Opd.imp U0 (fun _ _ h=>Z1 h52 h)))<|Af Zj2 0 rfl<|Al Zbd 0 rfl<|Am 15 rfl<|U2 [0] (Zz rfl rfl (Opd.imp U0 (fun _ _ h=>Z1 h52 h)))<|Af Zfy 0 rfl<|Al Zd5 0 rfl<|Am 45 rfl<|U2 [0] (Zz rfl rfl (Opd.imp U0 (fun _ _ h=>Z1 h54 h)))<|Af Zfy 0 rfl<|Al Zd5 0 rfl<|U2 [120,80,40,0] (Zt Znx (Zfi _ _ _ _ h56) rfl rfl (.cons U0 (.cons U1 (.cons U7 (.cons u_3 .nil)))))<|Am 5 rfl<|Al Zbd 35 rfl<|Am 45 rfl<|U2 [0] (Zz rfl rfl (Opd.imp U0 (fun _ _ h=>Z1 h54 h)))<|Af Zgx 0 rfl<|Al Zd5 0 rfl<|Am 25 rfl<|U2 [60,50,10,0] (Zt Znx (Zfi _ _ _ _ h58) rfl rfl (.cons U0 (.cons U1 (.cons U7 (.cons u_3 .nil)))))<|U2 [290,250,80,0] (Zt Znx (Zfi _ _ _ _ h60) rfl rfl (.cons U0 (.cons U1 (.cons U7 (.cons u_3 .nil)))))<|Aa 0 rfl<|U3) fun a g s b=>?_
 refine wp_ret<|Z5 ?_
 refine Zp ?_
 obtain rfl:=Oi H0
 exact Zba rfl s b (Zf (s:=8)) (s.at 0 rfl)
 refine wp_skip<|Zbb ?_
 refine Zl ?_
 obtain⟨r61,h62,H0⟩:=Zd H0
 refine U4 [50] (L:=[(0,_),(2,_),(3,_),(5,_)]) (s.pi [0,1,2,3] rfl) b Za
  (Am 5 rfl<|Al Zbd 35 rfl<|Am 15 rfl<|Am 25 rfl<|U2 [30,20,10,0] (Zt Znx (Zfi _ _ _ _ h62) rfl rfl (.cons U0 (.cons U1 (.cons U7 (.cons u_3 .nil)))))<|Aa 0 rfl<|U3) fun a g s b=>?_
 refine wp_ret ?_
 obtain rfl:=Oi H0
 exact Zba rfl s b (Zf (s:=8)) (s.at 0 rfl)
theorem Zx8 (a0:shelf_nodeT) {r:shelf_nodeT} (H0:Zl5 a0=some r):FnOk Zb1f 154 [(Zbk.pd a0)] (Zbk.pd r):=by
 unfold Zl5 at H0
 refine Zb9 (N:=13) Tryz.func154 rfl rfl (Qe rfl) rfl rfl (fun a g0 s b=>?_)
 refine U4 [5] s b Za
  (U2 (outs:=[(2,(Zbk.pd shelf_nodeT.nil))]) (S:=[]) [] (Zc rfl rfl (Opd.c (fun g=>Zf3 g)))<|U3) fun a g s b=>?_
 obtain⟨z6,hz1,H0⟩:=Zd H0
 refine wp_seq<|Zbq (fun a w=>∃(y5:shelf_nodeT) (g:G),Jn 13 [(0,(Zbk.pd y5))] a w g0 g (y5=z6)) ?_ ?_
 ·rintro a w ⟨y5,g,rfl,s,b,rfl⟩
  refine Zl<|U4 [10] s b Za
   (Am 5 rfl<|Aa 0 rfl<|U3) fun a g s b=>?_
  refine wp_ret ?_
  obtain rfl:=Oi H0
  exact Zba rfl s b (Zf (s:=2)) (s.at 0 rfl)
 ·refine wp_block<|wp_loop_ghost (fun n a w=>∃(x1:shelf_nodeT) (g:G),Jn 13 [(0,(Zbk.pd x1))] a w g0 g (Zhc n x1=some z6)) (a0.hh+1) ⟨a0,g,rfl,(s.pi [0] rfl),b,hz1⟩ (fun n a w hI=>?_)
  obtain⟨x1,g,rfl,s,b,H1⟩:=hI
  cases n with
  | zero=>exact absurd H1 (by simp[Zhc])
  | succ n =>
   rw[Zhc]at H1
   refine wp_seq ?_
   obtain⟨n2,h3,H1⟩:=Zd H1
   refine U4 [5,40] s b Za
    (Am 5 rfl<|U2 [0] (Zz rfl rfl (Opd.imp U0 (fun _ _ h=>Z1 h3 h)))<|Af Zfy 0 rfl<|Al Zd5 0 rfl<|U2 [0] (Zbak Zb13 rfl rfl U0 (Zg6 _))<|U3) fun a g s b=>?_
   refine Zs (s.bool 1 rfl) H1 (fun H1=>?_) (fun H1=>?_)
   ·refine wp_skip<|Zl ?_
    refine wp_block<|U5 [40] (L:=[(0,_)]) (s.pi [0] rfl) b Za
     (Am 5 rfl<|U2 [0] (Zz rfl rfl (Opd.imp U0 (fun _ _ h=>Z1 h3 h)))<|Af Zfy 0 rfl<|Al Zd5 0 rfl<|Aa 0 rfl<|U3) fun a g s b=>?_
    exact Zbb<|⟨n,Zb1x _,n2.left,g,rfl,(s.pi [0] rfl),b,H1⟩
   ·refine wp_exit<|Zbx ?_
    refine Zbx<|Zcg ?_
    exact⟨x1,g,rfl,(s.pi [0] rfl),b,Oi H1⟩
theorem Zyg (self:shelf_nodeT→ByteArray→Option (shelf_nodeT)) (hself:∀(a0:shelf_nodeT) (a1:ByteArray) {r:shelf_nodeT},self a0 a1=some r→FnOk Zb1f 106 [(Zbk.pd a0),(pStr a1)] (Zbk.pd r)) (a0:shelf_nodeT) (a1:ByteArray) {r:shelf_nodeT} (H0:Zol self a0 a1=some r):FnOk Zb1f 106 [(Zbk.pd a0),(pStr a1)] (Zbk.pd r):=by
 unfold Zol at H0
 refine Zb9 (N:=108) Tryz.func106 rfl rfl (Qe rfl) rfl rfl (fun a g0 s b=>?_)
 refine U4 [5,15] s b Za
  (U2 (outs:=[(4,(Zbk.pd shelf_nodeT.nil))]) (S:=[]) [] (Zc rfl rfl (Opd.c (fun g=>Zf3 g)))<|U3) fun a g s b=>?_
 refine wp_seq<|wp_block ?_
 refine U4 [5,15,20] s b Za
  (Am 5 rfl<|U2 [0] (Zwv Zb13 rfl rfl U0 (Zg6 _))<|Aa 0 rfl<|U3) fun a g s b=>?_
 refine Zs (s.bool 2 rfl) H0 (fun H0=>?_) (fun H0=>?_)
 refine U4 [0] (L:=[]) (s.pi [] rfl) b Za
  (U2 (outs:=[(4,(Zbk.pd shelf_nodeT.nil))]) (S:=[]) [] (Zc rfl rfl (Opd.c (fun g=>Zf3 g)))<|U3) fun a g s b=>?_
 refine wp_ret<|Z5 ?_
 refine Zp ?_
 obtain rfl:=Oi H0
 exact Zba rfl s b (Zf (s:=4)) (s.at 0 rfl)
 obtain⟨n2,h3,H0⟩:=Zd H0
 refine U4 [5,15,60] (L:=[(0,_),(1,_)]) (s.pi [0,1] rfl) b Za
  (Am 15 rfl<|Am 5 rfl<|U2 [0] (Zz rfl rfl (Opd.imp U0 (fun _ _ h=>Z1 h3 h)))<|Af Zgu 0 rfl<|Al V0 0 rfl<|U2 [40,0] (Zro rfl rfl U0 U1)<|Aa 0 rfl<|U3) fun a g s b=>?_
 refine Zs (s.bool 2 rfl) H0 (fun H0=>?_) (fun H0=>?_)
 obtain⟨r5,h6,H0⟩:=Zd H0;obtain⟨r7,h8,H0⟩:=Zd H0
 refine U4 [190] (L:=[(0,_),(1,_)]) (s.pi [0,1] rfl) b Za
  (Am 5 rfl<|U2 [0] (Zz rfl rfl (Opd.imp U0 (fun _ _ h=>Z1 h3 h)))<|Af Zgu 0 rfl<|Al V0 0 rfl<|Am 5 rfl<|U2 [0] (Zz rfl rfl (Opd.imp U0 (fun _ _ h=>Z1 h3 h)))<|Af Zj2 0 rfl<|Al Zbd 0 rfl<|Am 5 rfl<|U2 [0] (Zz rfl rfl (Opd.imp U0 (fun _ _ h=>Z1 h3 h)))<|Af Zfy 0 rfl<|Al Zd5 0 rfl<|Am 15 rfl<|U2 [10,0] (Zt Z4r (hself _ _ h6) rfl rfl (.cons U0 (.cons U1 .nil)))<|Am 5 rfl<|U2 [0] (Zz rfl rfl (Opd.imp U0 (fun _ _ h=>Z1 h3 h)))<|Af Zgx 0 rfl<|Al Zd5 0 rfl<|U2 [140,100,40,0] (Zt Zy7 (Zov _ _ _ _ h8) rfl rfl (.cons U0 (.cons U1 (.cons U7 (.cons u_3 .nil)))))<|Aa 0 rfl<|U3) fun a g s b=>?_
 refine wp_ret<|Z5 ?_
 refine Zp ?_
 obtain rfl:=Oi H0
 exact Zba rfl s b (Zf (s:=4)) (s.at 0 rfl)
 refine U4 [5,15,60] (L:=[(0,_),(1,_)]) (s.pi [0,1] rfl) b Za
  (Am 15 rfl<|Am 5 rfl<|U2 [0] (Zz rfl rfl (Opd.imp U0 (fun _ _ h=>Z1 h3 h)))<|Af Zgu 0 rfl<|Al V0 0 rfl<|U2 [40,0] (Z25 rfl rfl U0 U1)<|Aa 0 rfl<|U3) fun a g s b=>?_
 refine Zs (s.bool 2 rfl) H0 (fun H0=>?_) (fun H0=>?_)
 obtain⟨r10,h11,H0⟩:=Zd H0;obtain⟨r12,h13,H0⟩:=Zd H0
 refine U4 [190] (L:=[(0,_),(1,_)]) (s.pi [0,1] rfl) b Za
  (Am 5 rfl<|U2 [0] (Zz rfl rfl (Opd.imp U0 (fun _ _ h=>Z1 h3 h)))<|Af Zgu 0 rfl<|Al V0 0 rfl<|Am 5 rfl<|U2 [0] (Zz rfl rfl (Opd.imp U0 (fun _ _ h=>Z1 h3 h)))<|Af Zj2 0 rfl<|Al Zbd 0 rfl<|Am 5 rfl<|U2 [0] (Zz rfl rfl (Opd.imp U0 (fun _ _ h=>Z1 h3 h)))<|Af Zfy 0 rfl<|Al Zd5 0 rfl<|Am 5 rfl<|U2 [0] (Zz rfl rfl (Opd.imp U0 (fun _ _ h=>Z1 h3 h)))<|Af Zgx 0 rfl<|Al Zd5 0 rfl<|Am 15 rfl<|U2 [10,0] (Zt Z4r (hself _ _ h11) rfl rfl (.cons U0 (.cons U1 .nil)))<|U2 [140,100,60,0] (Zt Zy7 (Zov _ _ _ _ h13) rfl rfl (.cons U0 (.cons U1 (.cons U7 (.cons u_3 .nil)))))<|Aa 0 rfl<|U3) fun a g s b=>?_
 refine wp_ret<|Z5 ?_
 refine Zp ?_
 obtain rfl:=Oi H0
 exact Zba rfl s b (Zf (s:=4)) (s.at 0 rfl)
 refine U4 [5,50] (L:=[(0,_)]) (s.pi [0] rfl) b Za
  (Am 5 rfl<|U2 [0] (Zz rfl rfl (Opd.imp U0 (fun _ _ h=>Z1 h3 h)))<|Af Zfy 0 rfl<|Al Zd5 0 rfl<|U2 [0] (Zwv Zb13 rfl rfl U0 (Zg6 _))<|Aa 0 rfl<|U3) fun a g s b=>?_
 refine Zs (s.bool 1 rfl) H0 (fun H0=>?_) (fun H0=>?_)
 refine U4 [40] (L:=[(0,_)]) (s.pi [0] rfl) b Za
  (Am 5 rfl<|U2 [0] (Zz rfl rfl (Opd.imp U0 (fun _ _ h=>Z1 h3 h)))<|Af Zgx 0 rfl<|Al Zd5 0 rfl<|Aa 0 rfl<|U3) fun a g s b=>?_
 refine wp_ret<|Z5 ?_
 refine Zp ?_
 obtain rfl:=Oi H0
 exact Zba rfl s b (Zf (s:=4)) (s.at 0 rfl)
 refine U4 [5,50] (L:=[(0,_)]) (s.pi [0] rfl) b Za
  (Am 5 rfl<|U2 [0] (Zz rfl rfl (Opd.imp U0 (fun _ _ h=>Z1 h3 h)))<|Af Zgx 0 rfl<|Al Zd5 0 rfl<|U2 [0] (Zwv Zb13 rfl rfl U0 (Zg6 _))<|Aa 0 rfl<|U3) fun a g s b=>?_
 refine Zs (s.bool 1 rfl) H0 (fun H0=>?_) (fun H0=>?_)
 refine U4 [40] (L:=[(0,_)]) (s.pi [0] rfl) b Za
  (Am 5 rfl<|U2 [0] (Zz rfl rfl (Opd.imp U0 (fun _ _ h=>Z1 h3 h)))<|Af Zfy 0 rfl<|Al Zd5 0 rfl<|Aa 0 rfl<|U3) fun a g s b=>?_
 refine wp_ret<|Z5 ?_
 refine Zp ?_
 obtain rfl:=Oi H0
 exact Zba rfl s b (Zf (s:=4)) (s.at 0 rfl)
 refine wp_skip<|Zbb ?_
 refine Zl ?_
 obtain⟨r16,h17,H0⟩:=Zd H0
 refine U4 [5,50] (L:=[(0,_)]) (s.pi [0] rfl) b Za
  (Am 5 rfl<|U2 [0] (Zz rfl rfl (Opd.imp U0 (fun _ _ h=>Z1 h3 h)))<|Af Zgx 0 rfl<|Al Zd5 0 rfl<|U2 [0] (Zt Zbpn (Zx8 _ h17) rfl rfl (.cons U0 .nil))<|Aa 0 rfl<|U3) fun a g s b=>?_
 obtain⟨n18,h19,H0⟩:=Zd H0;obtain⟨r20,h21,H0⟩:=Zd H0;obtain⟨r22,h23,H0⟩:=Zd H0
 refine U4 [220] s b Za
  (Am 15 rfl<|U2 [0] (Zz rfl rfl (Opd.imp U0 (fun _ _ h=>Z1 h19 h)))<|Af Zgu 0 rfl<|Al V0 0 rfl<|Am 15 rfl<|U2 [0] (Zz rfl rfl (Opd.imp U0 (fun _ _ h=>Z1 h19 h)))<|Af Zj2 0 rfl<|Al Zbd 0 rfl<|Am 5 rfl<|U2 [0] (Zz rfl rfl (Opd.imp U0 (fun _ _ h=>Z1 h3 h)))<|Af Zfy 0 rfl<|Al Zd5 0 rfl<|Am 5 rfl<|U2 [0] (Zz rfl rfl (Opd.imp U0 (fun _ _ h=>Z1 h3 h)))<|Af Zgx 0 rfl<|Al Zd5 0 rfl<|Am 15 rfl<|U2 [0] (Zz rfl rfl (Opd.imp U0 (fun _ _ h=>Z1 h19 h)))<|Af Zgu 0 rfl<|Al V0 0 rfl<|U2 [40,0] (Zt Z4r (hself _ _ h21) rfl rfl (.cons U0 (.cons U1 .nil)))<|U2 [170,130,90,0] (Zt Zy7 (Zov _ _ _ _ h23) rfl rfl (.cons U0 (.cons U1 (.cons U7 (.cons u_3 .nil)))))<|Aa 0 rfl<|U3) fun a g s b=>?_
 refine wp_ret ?_
 obtain rfl:=Oi H0
 exact Zba rfl s b (Zf (s:=4)) (s.at 0 rfl)
theorem Zr6:∀(n:Nat) (a0:shelf_nodeT) (a1:ByteArray) {r:shelf_nodeT},Zie n a0 a1=some r→FnOk Zb1f 106 [(Zbk.pd a0),(pStr a1)] (Zbk.pd r)
 | 0,_,_,_,h=>by simp[Zie]at h
 | n+1,a0,a1,_,h=>Zyg (Zie n) (fun a0 a1 r h=>Zr6 n a0 a1 h) a0 a1 h
theorem Z06 (a0:shelf_nodeT) (a1:ByteArray) {r:shelf_nodeT} (h:Zr8 a0 a1=some r):FnOk Zb1f 106 [(Zbk.pd a0),(pStr a1)] (Zbk.pd r):=Zr6 _ a0 a1 h
theorem Zzu (a0:Z4) (a1:ByteArray) {r:Z4×Bool} (H0:Zix a0 a1=some r):FnOk Zb1f 77 [(Zbu.pd a0),(pStr a1)] (pTup [(Zbu.pd r.1),(Zbo r.2)]):=by
 unfold Zix at H0
 refine Zb9 (N:=24) Tryz.func77 rfl rfl (Qe rfl) rfl rfl (fun a g0 s b=>?_)
 refine U4 [15,0,10] s b Za
  (U2 [5] (Zbt rfl rfl U0)<|U2 [] (Zsw 4 rfl rfl)<|U2 [] (Zc rfl rfl c_b)<|U3) fun a g s b=>?_
 refine wp_seq ?_
 obtain⟨r1,h2,H0⟩:=Zd H0
 refine U4 [5,15,25,80] s b Za
  (Al Zcw 15 rfl<|Am 5 rfl<|U2 [10,0] (Zt Zbfg (Zpr _ _ h2) rfl rfl (.cons U0 (.cons U1 .nil)))<|Am 0 rfl<|U2 [0] (Z7 rfl rfl U0 rfl)<|U2 [10] (Z7 rfl rfl U0 rfl)<|U2 [] (Ziv 6 rfl rfl)<|U2 [20,0] (Zci Zbd rfl rfl U1 U0)<|Aa 20 rfl<|U3) fun a g s b=>?_
 refine U4 [5,15,25,10] s b Za
  (Am 35 rfl<|U2 [0] (Zct rfl rfl U0)<|U3) fun a g s b=>?_
 refine Zs (s.bool 3 rfl) H0 (fun H0=>?_) (fun H0=>?_)
 refine U4 [10,20] (L:=[(2,_),(4,_)]) (s.pi [1,2] rfl) b Za
  (Al Zcw 5 rfl<|U2 [0,15] (Z9 Zcw rfl rfl U1 U0)<|U2 [] (Zc rfl rfl c_b)<|U3) fun a g s b=>?_
 refine wp_ret<|Zp ?_
 obtain rfl:=Oi H0
 obtain⟨u0,hu0,hq0⟩:=Zbi (P:=Zb1f) Zcw (s.at 0 rfl)
 exact Zdq rfl s b hu0 (Zf (s:=5)) (Zcr hq0 (s.at 1 rfl))
 refine wp_skip<|Zl ?_
 obtain⟨r4,h5,H0⟩:=Zd H0
 refine U4 [70,80] (L:=[(1,_),(2,_),(4,_)]) (s.pi [0,1,2] rfl) b Za
  (Af Zwr 15 rfl<|Al Zd5 0 rfl<|Am 5 rfl<|U2 [10,0] (Zt Z4r (Z06 _ _ h5) rfl rfl (.cons U0 (.cons U1 .nil)))<|Af Z0m 15 rfl<|Al U9 0 rfl<|U2 [20,0] (Z6v rfl rfl U0 U1)<|U2 [0,25] (Z9 Zcw rfl rfl U1 U0)<|U2 [] (Zc rfl rfl c_b)<|U3) fun a g s b=>?_
 refine wp_ret ?_
 obtain rfl:=Oi H0
 obtain⟨u0,hu0,hq0⟩:=Zbi (P:=Zb1f) Zcw (s.at 0 rfl)
 exact Zdq rfl s b hu0 (Zf (s:=5)) (Zcr hq0 (s.at 1 rfl))
theorem Ztd (a0:Z4) {r:Int} (H0:Zks a0=some r):FnOk Zb1f 27 [(Zbu.pd a0)] (pInt .i64 r):=by
 unfold Zks at H0
 refine Zb9 (N:=6) Tryz.func27 rfl rfl (Qe rfl) rfl rfl (fun a g0 s b=>?_)
 refine U4 [0] s b Za
  (U2 [5] (Zbt rfl rfl U0)<|U2 [] (Zc rfl rfl U6)<|U3) fun a g s b=>?_
 obtain⟨r1,h2,H0⟩:=Zd H0
 refine U4 [30] s b Za
  (Af Zwr 5 rfl<|Al Zd5 0 rfl<|U2 [0] (Zt Zso (Zen _ h2) rfl rfl (.cons U0 .nil))<|Aa 0 rfl<|U3) fun a g s b=>?_
 refine wp_ret ?_
 obtain rfl:=Oi H0
 exact Zba rfl s b (Zf (s:=2)) (s.at 0 rfl)
theorem Zyc (self:shelf_nodeT→ByteArray→Zb→Option (shelf_nodeT)) (hself:∀(a0:shelf_nodeT) (a1:ByteArray) (a2:Zb) {r:shelf_nodeT},self a0 a1 a2=some r→FnOk Zb1f 107 [(Zbk.pd a0),(pStr a1),(Zg.pd a2)] (Zbk.pd r)) (a0:shelf_nodeT) (a1:ByteArray) (a2:Zb) {r:shelf_nodeT} (H0:Zlt self a0 a1 a2=some r):FnOk Zb1f 107 [(Zbk.pd a0),(pStr a1),(Zg.pd a2)] (Zbk.pd r):=by
 unfold Zlt at H0
 refine Zb9 (N:=78) Tryz.func107 rfl rfl (Qe rfl) rfl rfl (fun a g0 s b=>?_)
 refine U4 [5,15,0] s b Za
  (U2 [25] (Zbt rfl rfl U0)<|U2 (outs:=[(6,(Zbk.pd shelf_nodeT.nil))]) (S:=[]) [] (Zc rfl rfl (Opd.c (fun g=>Zf3 g)))<|U3) fun a g s b=>?_
 refine wp_seq<|wp_block ?_
 refine U4 [5,15,25,20] s b Za
  (Am 5 rfl<|U2 [0] (Zwv Zb13 rfl rfl U0 (Zg6 _))<|Aa 0 rfl<|U3) fun a g s b=>?_
 refine Zs (s.bool 3 rfl) H0 (fun H0=>?_) (fun H0=>?_)
 obtain⟨r2,h3,H0⟩:=Zd H0
 refine U4 [30] (L:=[(1,_),(5,_)]) (s.pi [1,2] rfl) b Za
  (Am 5 rfl<|Al Zbd 15 rfl<|U2 (outs:=[(12,(Zbk.pd r2))]) (S:=[]) [10,0] (Zt Znx (Zfi _ _ _ _ h3) rfl rfl (.cons U0 (.cons U1 (.cons (Opd.c (fun g=>Zf3 g)) (.cons (Opd.c (fun g=>Zf3 g)) .nil)))))<|Aa 0 rfl<|U3) fun a g s b=>?_
 refine wp_ret<|Z5 ?_
 refine Zp ?_
 obtain rfl:=Oi H0
 exact Zba rfl s b (Zf (s:=6)) (s.at 0 rfl)
 obtain⟨n4,h5,H0⟩:=Zd H0
 refine U4 [5,15,25,60] (L:=[(0,_),(1,_),(5,_)]) (s.pi [0,1,2] rfl) b Za
  (Am 15 rfl<|Am 5 rfl<|U2 [0] (Zz rfl rfl (Opd.imp U0 (fun _ _ h=>Z1 h5 h)))<|Af Zgu 0 rfl<|Al V0 0 rfl<|U2 [40,0] (Zro rfl rfl U0 U1)<|Aa 0 rfl<|U3) fun a g s b=>?_
 refine Zs (s.bool 3 rfl) H0 (fun H0=>?_) (fun H0=>?_)
 obtain⟨r7,h8,H0⟩:=Zd H0;obtain⟨r9,h10,H0⟩:=Zd H0
 refine U4 [200] (L:=[(0,_),(1,_),(5,_)]) (s.pi [0,1,2] rfl) b Za
  (Am 5 rfl<|U2 [0] (Zz rfl rfl (Opd.imp U0 (fun _ _ h=>Z1 h5 h)))<|Af Zgu 0 rfl<|Al V0 0 rfl<|Am 5 rfl<|U2 [0] (Zz rfl rfl (Opd.imp U0 (fun _ _ h=>Z1 h5 h)))<|Af Zj2 0 rfl<|Al Zbd 0 rfl<|Am 5 rfl<|U2 [0] (Zz rfl rfl (Opd.imp U0 (fun _ _ h=>Z1 h5 h)))<|Af Zfy 0 rfl<|Al Zd5 0 rfl<|Am 15 rfl<|Al Zbd 25 rfl<|U2 [20,10,0] (Zt Z91 (hself _ _ _ h8) rfl rfl (.cons U0 (.cons U1 (.cons U7 .nil))))<|Am 5 rfl<|U2 [0] (Zz rfl rfl (Opd.imp U0 (fun _ _ h=>Z1 h5 h)))<|Af Zgx 0 rfl<|Al Zd5 0 rfl<|U2 [150,110,40,0] (Zt Zy7 (Zov _ _ _ _ h10) rfl rfl (.cons U0 (.cons U1 (.cons U7 (.cons u_3 .nil)))))<|Aa 0 rfl<|U3) fun a g s b=>?_
 refine wp_ret<|Z5 ?_
 refine Zp ?_
 obtain rfl:=Oi H0
 exact Zba rfl s b (Zf (s:=6)) (s.at 0 rfl)
 refine U4 [5,15,25,60] (L:=[(0,_),(1,_),(5,_)]) (s.pi [0,1,2] rfl) b Za
  (Am 15 rfl<|Am 5 rfl<|U2 [0] (Zz rfl rfl (Opd.imp U0 (fun _ _ h=>Z1 h5 h)))<|Af Zgu 0 rfl<|Al V0 0 rfl<|U2 [40,0] (Z25 rfl rfl U0 U1)<|Aa 0 rfl<|U3) fun a g s b=>?_
 refine Zs (s.bool 3 rfl) H0 (fun H0=>?_) (fun H0=>?_)
 obtain⟨r12,h13,H0⟩:=Zd H0;obtain⟨r14,h15,H0⟩:=Zd H0
 refine U4 [200] (L:=[(0,_),(1,_),(5,_)]) (s.pi [0,1,2] rfl) b Za
  (Am 5 rfl<|U2 [0] (Zz rfl rfl (Opd.imp U0 (fun _ _ h=>Z1 h5 h)))<|Af Zgu 0 rfl<|Al V0 0 rfl<|Am 5 rfl<|U2 [0] (Zz rfl rfl (Opd.imp U0 (fun _ _ h=>Z1 h5 h)))<|Af Zj2 0 rfl<|Al Zbd 0 rfl<|Am 5 rfl<|U2 [0] (Zz rfl rfl (Opd.imp U0 (fun _ _ h=>Z1 h5 h)))<|Af Zfy 0 rfl<|Al Zd5 0 rfl<|Am 5 rfl<|U2 [0] (Zz rfl rfl (Opd.imp U0 (fun _ _ h=>Z1 h5 h)))<|Af Zgx 0 rfl<|Al Zd5 0 rfl<|Am 15 rfl<|Al Zbd 25 rfl<|U2 [20,10,0] (Zt Z91 (hself _ _ _ h13) rfl rfl (.cons U0 (.cons U1 (.cons U7 .nil))))<|U2 [150,110,70,0] (Zt Zy7 (Zov _ _ _ _ h15) rfl rfl (.cons U0 (.cons U1 (.cons U7 (.cons u_3 .nil)))))<|Aa 0 rfl<|U3) fun a g s b=>?_
 refine wp_ret<|Z5 ?_
 refine Zp ?_
 obtain rfl:=Oi H0
 exact Zba rfl s b (Zf (s:=6)) (s.at 0 rfl)
 refine wp_skip<|Zbb ?_
 refine Zl ?_
 obtain⟨r16,h17,H0⟩:=Zd H0
 refine U4 [110] (L:=[(0,_),(1,_),(5,_)]) (s.pi [0,1,2] rfl) b Za
  (Am 15 rfl<|Al Zbd 25 rfl<|Am 5 rfl<|U2 [0] (Zz rfl rfl (Opd.imp U0 (fun _ _ h=>Z1 h5 h)))<|Af Zfy 0 rfl<|Al Zd5 0 rfl<|Am 5 rfl<|U2 [0] (Zz rfl rfl (Opd.imp U0 (fun _ _ h=>Z1 h5 h)))<|Af Zgx 0 rfl<|Al Zd5 0 rfl<|U2 [90,80,40,0] (Zt Znx (Zfi _ _ _ _ h17) rfl rfl (.cons U0 (.cons U1 (.cons U7 (.cons u_3 .nil)))))<|Aa 0 rfl<|U3) fun a g s b=>?_
 refine wp_ret ?_
 obtain rfl:=Oi H0
 exact Zba rfl s b (Zf (s:=6)) (s.at 0 rfl)
theorem Zr5:∀(n:Nat) (a0:shelf_nodeT) (a1:ByteArray) (a2:Zb) {r:shelf_nodeT},Zhp n a0 a1 a2=some r→FnOk Zb1f 107 [(Zbk.pd a0),(pStr a1),(Zg.pd a2)] (Zbk.pd r)
 | 0,_,_,_,_,h=>by simp[Zhp]at h
 | n+1,a0,a1,a2,_,h=>Zyc (Zhp n) (fun a0 a1 a2 r h=>Zr5 n a0 a1 a2 h) a0 a1 a2 h
theorem Z09 (a0:shelf_nodeT) (a1:ByteArray) (a2:Zb) {r:shelf_nodeT} (h:Zsh a0 a1 a2=some r):FnOk Zb1f 107 [(Zbk.pd a0),(pStr a1),(Zg.pd a2)] (Zbk.pd r):=Zr5 _ a0 a1 a2 h
theorem Zzm (a0:Z4) (a1:ByteArray) (a2:Zb) {r:Z4×Int} (H0:Zgj a0 a1 a2=some r):FnOk Zb1f 78 [(Zbu.pd a0),(pStr a1),(Zg.pd a2)] (pTup [(Zbu.pd r.1),(pInt .i64 r.2)]):=by
 unfold Zgj at H0
 refine Zb9 (N:=50) Tryz.func78 rfl rfl (Qe rfl) rfl rfl (fun a g0 s b=>?_)
 refine U4 [15,0,10,20] s b Za
  (U2 [5] (Zbt rfl rfl U0)<|U2 [25] (Zbt rfl rfl U0)<|U2 [] (Zsw 6 rfl rfl)<|U2 [] (Zc rfl rfl U6)<|U3) fun a g s b=>?_
 refine wp_seq<|U4 [5,15,25,35,60] s b Za
  (Am 5 rfl<|U2 [0] (Zpk rfl rfl U0 c_s)<|Am 0 rfl<|Gf [0,5] rfl (fun h=>Zx rfl rfl U0)<|Gf [10,0] rfl (fun h=>Zg4 Tryz.underlying9 rfl rfl (V1 h U0))<|Gf [20,0] rfl (fun h=>Zcn rfl rfl (V1 h U0) U6)<|U2 [30,0] (Zb3 rfl rfl U0 (fun hz=>(V1 (bNF hz) U1)))<|U3) fun a g s b=>?_
 refine Zs (s.bool 4 rfl) H0 (fun H0=>?_) (fun H0=>?_)
 refine U4 [10,20] (L:=[(3,_),(6,_)]) (s.pi [1,3] rfl) b Za
  (Al Zcw 5 rfl<|U2 [0,15] (Z9 Zcw rfl rfl U1 U0)<|U2 [] (Zc rfl rfl U6)<|U3) fun a g s b=>?_
 refine wp_ret<|Zp ?_
 obtain rfl:=Oi H0
 obtain⟨u0,hu0,hq0⟩:=Zbi (P:=Zb1f) Zcw (s.at 0 rfl)
 exact Zdq rfl s b hu0 (Zf (s:=7)) (Zcr hq0 (s.at 1 rfl))
 refine wp_skip<|Zl ?_
 refine wp_seq ?_
 obtain⟨r2,h3,H0⟩:=Zd H0
 refine U4 [5,15,25,35,20] (L:=[(1,_),(3,_),(5,_),(6,_)]) (s.pi [0,1,2,3] rfl) b Za
  (Al Zbd 25 rfl<|U2 [0] (Zt Z77 (Zrw _ h3) rfl rfl (.cons U0 .nil))<|Aa 0 rfl<|U3) fun a g s b=>?_
 refine U4 [5,15,25,35,45,10] s b Za
  (Am 45 rfl<|U2 [0] (Zcv rfl rfl U0 U6)<|U3) fun a g s b=>?_
 refine Zs (s.bool 5 rfl) H0 (fun H0=>?_) (fun H0=>?_)
 refine U4 [20,30] (L:=[(3,_),(6,_),(8,_)]) (s.pi [1,3,4] rfl) b Za
  (Al Zcw 5 rfl<|Am 25 rfl<|U2 [10,15] (Z9 Zcw rfl rfl U1 U0)<|Aa 10 rfl<|U3) fun a g s b=>?_
 refine wp_ret<|Zp ?_
 obtain rfl:=Oi H0
 obtain⟨u0,hu0,hq0⟩:=Zbi (P:=Zb1f) Zcw (s.at 0 rfl)
 exact Zdq rfl s b hu0 (Zf (s:=7)) (Zcr hq0 (s.at 1 rfl))
 refine wp_skip<|Zl ?_
 refine wp_seq ?_
 obtain⟨r5,h6,H0⟩:=Zd H0
 refine U4 [5,15,25,35,80] (L:=[(1,_),(3,_),(5,_),(6,_)]) (s.pi [0,1,2,3] rfl) b Za
  (Al Zcw 15 rfl<|Am 5 rfl<|U2 [10,0] (Zt Zbfg (Zpr _ _ h6) rfl rfl (.cons U0 (.cons U1 .nil)))<|Am 0 rfl<|U2 [0] (Z7 rfl rfl U0 rfl)<|U2 [10] (Z7 rfl rfl U0 rfl)<|U2 [] (Ziv 9 rfl rfl)<|U2 [20,0] (Zci Zbd rfl rfl U1 U0)<|Aa 20 rfl<|U3) fun a g s b=>?_
 obtain⟨r7,h8,H0⟩:=Zd H0
 refine U4 [5,15,25,35,80] s b Za
  (Am 45 rfl<|U2 [0] (Zct rfl rfl U0)<|Am 0 rfl<|Gt [0,15] rfl (fun h=>Z2 Zcw rfl rfl U0)<|Gt [10,0] rfl (fun h=>Zt Zbmh (Ztd _ (Zcb h8 h)) rfl rfl (.cons (V1 h U0) .nil))<|Gt [20,15] rfl (fun h=>Zq Z0m rfl rfl U0)<|Gt [30,0] rfl (fun h=>Z2 U9 rfl rfl (V1 h U0))<|Gt [40,20,0] rfl (fun h=>Zkp rfl rfl (V1 h U0) (V1 h U1))<|U2 [50,0] (Zbs rfl rfl U0 (fun hz=>(V1 hz U1)))<|U3) fun a g s b=>?_
 refine Zs (s.bool 4 rfl) H0 (fun H0=>?_) (fun H0=>?_)
 refine U4 [10,20] (L:=[(3,_),(6,_)]) (s.pi [1,3] rfl) b Za
  (Al Zcw 5 rfl<|U2 [0,15] (Z9 Zcw rfl rfl U1 U0)<|U2 [] (Zc rfl rfl U6)<|U3) fun a g s b=>?_
 refine wp_ret<|Zp ?_
 obtain rfl:=Oi H0
 obtain⟨u0,hu0,hq0⟩:=Zbi (P:=Zb1f) Zcw (s.at 0 rfl)
 exact Zdq rfl s b hu0 (Zf (s:=7)) (Zcr hq0 (s.at 1 rfl))
 refine wp_skip<|Zl ?_
 obtain⟨r10,h11,H0⟩:=Zd H0;obtain⟨r12,h13,H0⟩:=Zd H0
 refine U4 [90,100] (L:=[(1,_),(3,_),(5,_),(6,_)]) (s.pi [0,1,2,3] rfl) b Za
  (Af Zwr 15 rfl<|Al Zd5 0 rfl<|Am 5 rfl<|Al Zbd 25 rfl<|U2 [0] (Zt Zvt (Zkf _ h11) rfl rfl (.cons U0 .nil))<|U2 [30,20,0] (Zt Z91 (Z09 _ _ _ h13) rfl rfl (.cons U0 (.cons U1 (.cons U7 .nil))))<|Af Z0m 15 rfl<|Al U9 0 rfl<|U2 [20,0] (Z6v rfl rfl U0 U1)<|U2 [0,35] (Z9 Zcw rfl rfl U1 U0)<|U2 [] (Zc rfl rfl U6)<|U3) fun a g s b=>?_
 refine wp_ret ?_
 obtain rfl:=Oi H0
 obtain⟨u0,hu0,hq0⟩:=Zbi (P:=Zb1f) Zcw (s.at 0 rfl)
 exact Zdq rfl s b hu0 (Zf (s:=7)) (Zcr hq0 (s.at 1 rfl))
theorem Zbcm (a0:Z4) (a1:Zw) {r:Z4×Zm} (H0:Zuw a0 a1=some r):FnOk Zb1f 50 [(Zbu.pd a0),(Z6.pd a1)] (pTup [(Zbu.pd r.1),(Z3.pd r.2)]):=by
 unfold Zuw at H0
 refine Zb9 (N:=66) Tryz.func50 rfl rfl (Qe rfl) rfl rfl (fun a g0 s b=>?_)
 refine U4 [0,10,20,30] s b Za
  (U2 (outs:=[(2,(pBox Zbu 2 a0))]) (S:=[3]) [5] (Zln rfl rfl U0)<|U2 [15] (Zbt rfl rfl U0)<|U2 [] (Zsw 4 rfl rfl)<|U2 [] (Zlz 5 rfl rfl)<|U3) fun a g s b=>?_
 obtain⟨r1,h2,H0⟩:=Zd H0
 refine U4 [5,15,25,35,80,90] s b Za
  (AM Zcw 5 rfl<|Af Zjy 15 rfl<|Al V0 0 rfl<|U2 [20,0] (Zt Zbfg (Zpr _ _ h2) rfl rfl (.cons U0 (.cons U1 .nil)))<|Am 0 rfl<|U2 [0] (Z7 rfl rfl U0 rfl)<|U2 [10] (Z7 rfl rfl U0 rfl)<|U2 [] (Ziv 6 rfl rfl)<|U2 [20,0] (Zci Zbd rfl rfl U1 U0)<|Aa 20 rfl<|U3) fun a g s b=>?_
 obtain⟨r3,h4,H0⟩:=Zd H0
 refine U4 [5,15,25,35,100,110,120] s b Za
  (Al Zbd 45 rfl<|Am 55 rfl<|Al Zgb 15 rfl<|U2 [20,10,0] (Zt Zbsl (Z7n _ _ _ h4) rfl rfl (.cons U0 (.cons U1 (.cons U7 .nil))))<|Am 0 rfl<|U2 [0] (Z7 rfl rfl U0 rfl)<|U2 [10] (Z7 rfl rfl U0 rfl)<|U2 [20] (Z7 rfl rfl U0 rfl)<|U2 [] (Ziv 8 rfl rfl)<|U2 [] (Zlz 10 rfl rfl)<|U2 [40,10] (Zci Zbd rfl rfl U1 U0)<|Aa 40 rfl<|U2 [40,20] (Zci Zcf rfl rfl U1 U0)<|U3) fun a g s b=>?_
 refine wp_seq<|wp_block ?_
 obtain⟨r5,h6,H0⟩:=Zd H0
 refine U4 [5,15,25,35,45,55,65,80] s b Za
  (Af Zjs 65 rfl<|Al Zok 0 rfl<|U2 [0] (Zcv rfl rfl U0 U6)<|Am 0 rfl<|Gf [0,15] rfl (fun h=>Zq Zdh rfl rfl U0)<|Gf [10,0] rfl (fun h=>Z2 U9 rfl rfl (V1 h U0))<|Gf [20,0] rfl (fun h=>Zt Zbto (Zba8 _ (Zcb h6 h)) rfl rfl (.cons (V1 h U0) .nil))<|U2 [30,0] (Zb3 rfl rfl U0 (fun hz=>(V1 (bNF hz) U1)))<|Aa 0 rfl<|U3) fun a g s b=>?_
 refine Zs (s.bool 7 rfl) H0 (fun H0=>?_) (fun H0=>?_)
 refine U4 [20,30] (L:=[(2,_),(4,_),(5,_),(10,_)]) (s.pi [0,2,3,6] rfl) b Za
  (AM Zcw 5 rfl<|Al Zcf 35 rfl<|U2 [10,15] (Z9 Zcw rfl rfl U1 U0)<|U2 [10,25] (Z9 Zcf rfl rfl U1 U0)<|U3) fun a g s b=>?_
 refine wp_ret<|Z5 ?_
 refine Zp ?_
 obtain rfl:=Oi H0
 obtain⟨u0,hu0,hq0⟩:=Zbi (P:=Zb1f) Zcw (s.at 0 rfl)
 obtain⟨u1,hu1,hq1⟩:=Zbi (P:=Zb1f) Zcf (s.at 1 rfl)
 exact Zdq rfl s b hu0 hu1 (Zcr hq0 hq1)
 refine U4 [5,15,25,35,45,65,20] (L:=[(2,_),(3,_),(4,_),(5,_),(8,_),(9,_),(10,_)]) (s.pi [0,1,2,3,4,5,6] rfl) b Za
  (Am 55 rfl<|U2 [0] (Zct rfl rfl U0)<|Aa 0 rfl<|U3) fun a g s b=>?_
 refine Zs (s.bool 6 rfl) H0 (fun H0=>?_) (fun H0=>?_)
 obtain⟨r9,h10,H0⟩:=Zd H0
 refine U4 [70,25,35,45] (L:=[(2,_),(3,_),(4,_),(5,_),(10,_)]) (s.pi [0,1,2,3,5] rfl) b Za
  (AM Zcw 5 rfl<|Af Zjy 15 rfl<|Al V0 0 rfl<|U2 [20,0] (Zt Zbsc (Zzu _ _ h10) rfl rfl (.cons U0 (.cons U1 .nil)))<|Am 0 rfl<|U2 [0] (Z7 rfl rfl U0 rfl)<|U2 [10] (Z7 rfl rfl U0 rfl)<|U2 [10,5] (Z9 Zcw rfl rfl U1 U0)<|U3) fun a g s b=>?_
 refine U4 [20,30] s b Za
  (AM Zcw 5 rfl<|Al Zcf 35 rfl<|U2 [10,15] (Z9 Zcw rfl rfl U1 U0)<|U2 [10,25] (Z9 Zcf rfl rfl U1 U0)<|U3) fun a g s b=>?_
 refine wp_ret<|Z5 ?_
 refine Zp ?_
 obtain rfl:=Oi H0
 obtain⟨u0,hu0,hq0⟩:=Zbi (P:=Zb1f) Zcw (s.at 0 rfl)
 obtain⟨u1,hu1,hq1⟩:=Zbi (P:=Zb1f) Zcf (s.at 1 rfl)
 exact Zdq rfl s b hu0 hu1 (Zcr hq0 hq1)
 refine wp_skip<|Zbb ?_
 refine Zl ?_
 obtain⟨r11,h12,H0⟩:=Zd H0
 refine U4 [5,25,35,55,90,100] (L:=[(2,_),(3,_),(4,_),(5,_),(8,_),(10,_)]) (s.pi [0,1,2,3,4,5] rfl) b Za
  (AM Zcw 5 rfl<|Af Zjy 15 rfl<|Al V0 0 rfl<|Al Zbd 45 rfl<|U2 [30,10,0] (Zt Zbr0 (Zzm _ _ _ h12) rfl rfl (.cons U0 (.cons U1 (.cons U7 .nil))))<|Am 0 rfl<|U2 [0] (Z7 rfl rfl U0 rfl)<|U2 [10] (Z7 rfl rfl U0 rfl)<|U2 [] (Zsw 11 rfl rfl)<|U2 [20,0] (Zci Zcw rfl rfl U1 U0)<|Aa 20 rfl<|U3) fun a g s b=>?_
 refine wp_seq<|U4 [5,15,25,35,45,55,10] s b Za
  (Am 55 rfl<|U2 [0] (Zcv rfl rfl U0 U6)<|U3) fun a g s b=>?_
 refine Zs (s.bool 6 rfl) H0 (fun H0=>?_) (fun H0=>?_)
 refine U4 [30,40] (L:=[(2,_),(4,_),(5,_),(12,_)]) (s.pi [0,1,2,5] rfl) b Za
  (AM Zcw 5 rfl<|Am 35 rfl<|U2 [0] (Zua rfl rfl U0)<|U2 [20,15] (Z9 Zcw rfl rfl U1 U0)<|U2 [10,25] (Z9 Zcf rfl rfl U1 U0)<|U3) fun a g s b=>?_
 refine wp_ret<|Zp ?_
 obtain rfl:=Oi H0
 obtain⟨u0,hu0,hq0⟩:=Zbi (P:=Zb1f) Zcw (s.at 0 rfl)
 obtain⟨u1,hu1,hq1⟩:=Zbi (P:=Zb1f) Zcf (s.at 1 rfl)
 exact Zdq rfl s b hu0 hu1 (Zcr hq0 hq1)
 refine wp_skip<|Zl ?_
 refine U4 [20,30] (L:=[(4,_),(5,_),(10,_),(11,_)]) (s.pi [1,2,3,4] rfl) b Za
  (Al Zcw 35 rfl<|Al Zcf 25 rfl<|U2 [10,5] (Z9 Zcw rfl rfl U1 U0)<|U2 [10,15] (Z9 Zcf rfl rfl U1 U0)<|U3) fun a g s b=>?_
 refine wp_ret ?_
 obtain rfl:=Oi H0
 obtain⟨u0,hu0,hq0⟩:=Zbi (P:=Zb1f) Zcw (s.at 0 rfl)
 obtain⟨u1,hu1,hq1⟩:=Zbi (P:=Zb1f) Zcf (s.at 1 rfl)
 exact Zdq rfl s b hu0 hu1 (Zcr hq0 hq1)
theorem Zbba (a0:Zw) (a1:Zm) (a2:Int) {r:Zm} (H0:Ztb a0 a1 a2=some r):FnOk Zb1f 51 [(Z6.pd a0),(Z3.pd a1),(pInt .i64 a2)] (Z3.pd r):=by
 unfold Ztb at H0
 refine Zb9 (N:=20) Zb39 rfl rfl (Qe rfl) rfl rfl (fun a g0 s b=>?_)
 refine U4 [25,0,10,20] s b Za
  (U2 [5] (Zbt rfl rfl U0)<|U2 [15] (Zbt rfl rfl U0)<|U2 [] (Zlz 6 rfl rfl)<|U3) fun a g s b=>?_
 refine wp_seq<|U4 [5,25,35,60] s b Za
  (Af Zu8 15 rfl<|Al ty_4 0 rfl<|Am 0 rfl<|Gt [0,25] rfl (fun h=>Zq Zjs rfl rfl U0)<|Gt [10,0] rfl (fun h=>Z2 Zok rfl rfl (V1 h U0))<|Gt [20,0] rfl (fun h=>Zcv rfl rfl (V1 h U0) U6)<|U2 [30,0] (Zbs rfl rfl U0 (fun hz=>(V1 hz U1)))<|U3) fun a g s b=>?_
 refine Zbq (fun a w=>∃(g:G),Jn 20 [(4,(Z3.ptr a1)),(6,(pBox Z3 6 (default:Zm)))] a w g0 g (Zuu a1=some r)) ?_ ?_
 rintro a w ⟨g,rfl,s,b,H0⟩
 unfold Zuu at H0
 refine Zl<|U4 [10] s b Za
  (Al Zcf 5 rfl<|U2 [0,15] (Z9 Zcf rfl rfl U1 U0)<|U3) fun a g s b=>?_
 refine wp_ret ?_
 obtain rfl:=Oi H0
 obtain⟨u0,hu0,hq0⟩:=Zbi (P:=Zb1f) Zcf (s.at 0 rfl)
 exact Zba rfl s b hu0 hq0
 refine Zs (s.bool 3 rfl) H0 (fun H0=>?_) (fun H0=>?_)
 cases H0
 exact wp_skip<|⟨g,rfl,(s.pi [1,2] rfl),b,H0⟩
theorem Z4w (a0:Zw) (a1:Zm) (a2:Int) {r:Ze1} (H0:Zqs a0 a1 a2=some r):Zbf1 Zb1f 51 [(Z6.pd a0),(Z3.pd a1),(pInt .i64 a2)] (Zqx 130 (Zhv.pd r)):=by
 unfold Zqs at H0
 refine Zbkz (N:=20) Zb39 rfl rfl (Qe rfl) rfl rfl (fun a g0 s b=>?_)
 refine U4 [25,0,10,20] s b Za
  (U2 [5] (Zbt rfl rfl U0)<|U2 [15] (Zbt rfl rfl U0)<|U2 [] (Zlz 6 rfl rfl)<|U3) fun a g s b=>?_
 refine wp_seq<|U4 [5,25,35,60] s b Za
  (Af Zu8 15 rfl<|Al ty_4 0 rfl<|Am 0 rfl<|Gt [0,25] rfl (fun h=>Zq Zjs rfl rfl U0)<|Gt [10,0] rfl (fun h=>Z2 Zok rfl rfl (V1 h U0))<|Gt [20,0] rfl (fun h=>Zcv rfl rfl (V1 h U0) U6)<|U2 [30,0] (Zbs rfl rfl U0 (fun hz=>(V1 hz U1)))<|U3) fun a g s b=>?_
 refine Zbq (fun a w=>∃(g:G),Jn 20 [(4,(Z3.ptr a1)),(6,(pBox Z3 6 (default:Zm)))] a w g0 g (Zsj=some r)) ?_ ?_
 rintro a w ⟨g,rfl,s,b,H0⟩
 unfold Zsj at H0
 refine Zl<|U4 [10] s b Za
  (Al Zcf 5 rfl<|U2 [0,15] (Z9 Zcf rfl rfl U1 U0)<|U3) fun a g s b=>?_
 cases H0
 refine Zs (s.bool 3 rfl) H0 (fun H0=>?_) (fun H0=>?_)
 obtain rfl:=Oi H0
 refine r_gQ (L:=[(2,_),(4,_),(6,_)]) (T:=[⟨[.o 1],_,[],[],[14]⟩,⟨[.p 0 0],_,[],[0],[15]⟩,⟨[.o 0],_,[],[],[16]⟩,⟨[.p 1 0,.p 2 0],_,[],[0,1,2],[17]⟩,⟨[.p 3 0],_,[],Lr 4,[18]⟩,⟨[.p 4 0],[(1001,pNo)],[],Lr 5,[1001]⟩]) (F:=[.p 5 0]) (s.pi [0,1,2] rfl) b Za
  (q_p rfl (Zq Zjs rfl rfl U0)<|q_p rfl (Z2 Zok rfl rfl U0)<|q_p rfl (Zx rfl rfl U0)<|q_p rfl (Zbeu rfl rfl U0 U1)<|q_p rfl (Zblb (by kernel_rfl) rfl rfl U0)<|q_q (Zbiq rfl rfl U0 (fun a g v hN hD b hu hv=>by refine Zwt ?_;refine Zwt ?_;exact Zbq5 hD b hv))<|q_n) (by kernel_rfl) (fun a g s b=>(s.at 0 rfl).elim)
 exact wp_skip<|⟨g,rfl,(s.pi [1,2] rfl),b,H0⟩
theorem Zbci (a0:Z4) (a1:Zbj) {r:Z4×Zbl} (H0:Zuo a0 a1=some r):FnOk Zb1f 26 [(Zbu.pd a0),(Zb1.pd a1)] (pTup [(Zbu.pd r.1),(Zdl.pd r.2)]):=by
 unfold Zuo at H0
 refine Zbik (N:=52) Tryz.func26 rfl rfl (Qe rfl) rfl rfl (fun a g0 h0 s b=>?_)
 refine U4 [0,10,20,30] s b Za
  (U2 [5] (Zbt rfl rfl U0)<|U2 [15] (Zbt rfl rfl U0)<|U2 [] (Zsw 4 rfl rfl)<|U2 (outs:=[(5,(Zda none Zd9 Ze0 (hpL (pRow Z3 126 505 ((default:Zbl).Answers))) 5 (default:Zbl)))]) (S:=[6]) [] (Ztj (R:=hpL (pRow Z3 126 505 ((default:Zbl).Answers))) (zs:=[.int .i64 0,.int .i64 0,.slice none 0 0]) (none,0,0) (by kernel_rfl) Z3e (fun g=>Zj1 505 g) rfl rfl)<|U3) fun a g s b=>?_
 refine wp_seq ?_
 obtain⟨r1,h2,H0⟩:=Zd H0
 refine U4 [5,15,25,35,50,60] s b Za
  (Al Zl8 15 rfl<|U2 [0] (Zt Zbmi (Zx5 _ h2) rfl rfl (.cons U0 .nil))<|Am 0 rfl<|U2 [0] (Z7 rfl rfl U0 rfl)<|U2 [10] (Z7 rfl rfl U0 rfl)<|Aa 10 rfl<|Aa 10 rfl<|U3) fun a g s b=>?_
 refine U4 [5,15,25,35,45,55,10] s b Za
  (Am 45 rfl<|U2 [0] (Zcv rfl rfl U0 U6)<|U3) fun a g s b=>?_
 refine Zs (s.bool 6 rfl) H0 (fun H0=>?_) (fun H0=>?_)
 ·refine U4 [5,40,50] (L:=[(2,_),(4,_),(5,_),(6,_),(7,_)]) (s.pi [0,2,3,4,5] rfl) b Za
   (Al Zcw 5 rfl<|Am 35 rfl<|Am 45 rfl<|U2 [10,0] (Zvx rfl rfl U0 U1)<|U2 [30,15] (Z9 Zcw rfl rfl U1 U0)<|U2 [10,25] (Ztz (kV:=Zd9) (by rfl) Zl9 rfl rfl U1 U0)<|U3) fun a g s b=>?_
  refine wp_ret<|Zp ?_
  obtain rfl:=Oi H0
  obtain⟨u0,hu0,hq0⟩:=Zbi (P:=Zb1f) Zcw (s.at 1 rfl)
  obtain⟨u1,hu1,hq1⟩:=Zbi (P:=Zb1f) Zl9 (s.at 2 rfl)
  exact Zbql rfl s b hu0 hu1 (Zcr hq0 hq1)
 ·refine wp_skip<|Zl ?_
  obtain⟨b4,e4,q4⟩:=Z4u (s.at 2 rfl)
  obtain⟨b5,e5,q5⟩:=Zbds (s.at 3 rfl)
  refine wp_seq ?_
  have q2:=(s.at 0 rfl)
  obtain⟨v2,hv2⟩:∃v2,Act.at a 2=v2:=⟨_,rfl⟩
  refine Zbif (f:=49) (d1:=23) (x1:=2) (x2:=4) (x3:=5) ?_ ?_ ?_ ?_ ?_ ?_ ?_ hv2 e4 e5 s.df ?_
  ·rfl
  ·rfl
  ·rfl
  ·rfl
  ·rfl
  ·rfl
  ·rw[s.size];decide
  replace s:StD (dfr3 49 v2 b4 b5) 52 [(2,(Zbu.ptr a0)),(3,(Zb1.ptr a1)),(4,(Zbm (some b4) Zbu 4 (default:Z4))),(5,(Zda (some b5) Zd9 Ze0 (hpL (pRow Z3 126 505 ((default:Zbl).Answers))) 5 (default:Zbl))),(1000,(pAt v2 (Zbu.ptr a0)))] (dact a 23 (.func (.func 49) #[] #[v2,.pointer (some ⟨b4,0,none⟩),.pointer (some ⟨b5,0,none⟩)]) (dfr3 49 v2 b4 b5)) g:=⟨(Zu7 ..).trans s.size,rfl,(Zgv (Zse (by decide) (s.at 0 rfl)) (Zgv (Zse (by decide) (s.at 1 rfl)) (Zgv (Zse (by decide) q4) (Zgv (Zse (by decide) q5) (Zgv (Zbkp q2 hv2) Zs8)))))⟩
  refine Zl<|U4 [5,15,25,35,20,45] s b Za
   (Al Zcw 5 rfl<|U2 [] (Zsw 8 rfl rfl)<|U2 [10,0] (Z9 Zcw rfl rfl U1 U0)<|U3) fun a g s b=>?_
  refine wp_seq<|U4 [5,25,35,45,10,20,30,55] s b Za
   (Af Zjh 15 rfl<|Al Zod 0 rfl<|U2 [0] (Zbv Zb3s rfl rfl U0)<|U2 [] (Zx rfl rfl U6)<|U3) fun a g s b=>?_
  obtain⟨z19,hz1,H0⟩:=Zd H0
  refine Zbq (fun a w=>∃(y17:Zbl) (y18:Z4) (g:G),w=g.w∧StD (dfr3 49 v2 b4 b5) 52 [(2,(Zbu.ptr a0)),(4,(Zbm (some b4) Zbu 4 (default:Z4))),(5,(Zda (some b5) Zd9 Ze0 (hpL (pRow Z3 126 505 y17.Answers)) 5 y17)),(8,(pBox Zbu 8 y18)),(1000,(pAt v2 (Zbu.ptr a0)))] a g∧Base g0 g∧(.inr (y17,y18))=z19) ?_ ?_
  ·rintro a w ⟨y17,y18,g,rfl,s,b,rfl⟩
   refine Zl<|U4 [5,20,30,45] s b Za
    (AM Zcw 35 rfl<|U2 [25] (Zsn Z4q Zl9 rfl rfl U0)<|U2 [10,15] (Z9 Zcw rfl rfl U1 U0)<|U2 [10,25] (Ztz (kV:=Zd9) (by rfl) Zl9 rfl rfl U1 U0)<|U3) fun a g s b=>?_
   refine wp_ret ?_
   obtain rfl:=Oi H0
   exact Zbno Z5t Zbmo rfl Zcw Zl9 s b (s.at 1 rfl) (s.at 2 rfl)
  ·refine wp_block<|wp_loop_ghost (fun n a w=>∃(x4:Zbl) (x5:Z4) (x6:Int) (g:G),w=g.w∧StD (dfr3 49 v2 b4 b5) 52 [(2,(Zbu.ptr a0)),(4,(Zbm (some b4) Zbu 4 (default:Z4))),(5,(Zda (some b5) Zd9 Ze0 (hpL (pRow Z3 126 505 x4.Answers)) 5 x4)),(8,(pBox Zbu 8 x5)),(26,(Z6.sl.pd a1.Acts)),(27,(pInt .i64 (a1.Acts.length:Int))),(28,(pInt .i64 x6)),(1000,(pAt v2 (Zbu.ptr a0)))] a g∧Base g0 g∧Zj4 a0 a1 n x4 x5 x6=some z19) (Zb1j ((a1.Acts.length:Int)-(0:Int))+1) ⟨(default:Zbl),a0,(0:Int),g,rfl,(s.pi [0,1,2,3,4,5,6,7] rfl),b,hz1⟩ (fun n a w hI=>?_)
   obtain⟨x4,x5,x6,g,rfl,s,b,H1⟩:=hI
   cases n with
   | zero=>exact absurd H1 (by simp[Zj4])
   | succ n =>
    rw[Zj4]at H1
    refine U4 [5,15,25,35,45,55,65,0,75] s b Za
     (U2 [65,55] (Zcj rfl rfl U0 U1)<|U3) fun a g s b=>?_
    refine wp_seq<|Zs (s.bool 7 rfl) H1 (fun H1=>?_) (fun H1=>?_)
    ·refine wp_skip<|Zl ?_
     refine wp_seq<|wp_block ?_
     obtain⟨e8,h9,H1⟩:=Zd H1
     refine U4 [5,15,25,35,40,50,45,55,65,75] (L:=[(2,_),(4,_),(5,_),(8,_),(26,_),(27,_),(28,_),(1000,_)]) (s.pi [0,1,2,3,4,5,6,8] rfl) b Za
      (Am 65 rfl<|U2 [45,65] (Zbn Zb3s Zub rfl rfl U0 U1 h9)<|Al Zgb 0 rfl<|U2 [] (Zwg 10 rfl rfl)<|Aa 30 rfl<|U2 [20,10] (Zci Zgb rfl rfl U1 U0)<|U3) fun a g s b=>?_
     refine U4 [5,15,25,35,45,55,0,65,75,85,95] s b Za
      (U2 [] (Zlz 11 rfl rfl)<|U3) fun a g s b=>?_
     obtain⟨r10,h11,H1⟩:=Zd H1
     refine U4 [5,15,25,60,45,55,70,75,85,95,105] s b Za
      (AM Zcw 35 rfl<|Al Zgb 55 rfl<|U2 [10,0] (Zt Zbsn (Zbcm _ _ h11) rfl rfl (.cons U0 (.cons U1 .nil)))<|Am 0 rfl<|U2 [0] (Z7 rfl rfl U0 rfl)<|U2 [10] (Z7 rfl rfl U0 rfl)<|U2 [10,35] (Z9 Zcw rfl rfl U1 U0)<|U2 [10,65] (Z9 Zcf rfl rfl U1 U0)<|U3) fun a g s b=>?_
     rcases Zblg H1 with ⟨p12,h13,H1⟩ | ⟨h13,H1⟩
     ·obtain rfl:=Oi H1
      obtain rfl:=Oi H0
      refine r_gQ (L:=[(2,_),(4,_),(5,_),(8,_),(9,_),(10,_),(11,_),(26,_),(27,_),(28,_),(1000,_)]) (T:=[⟨[.o 2],_,[],[],[39]⟩,⟨[.p 0 0],_,[],[0],[40]⟩,⟨[.o 5],_,[],[],[41]⟩,⟨[.o 6],_,[],[],[42]⟩,⟨[.o 4],_,[],[],[43]⟩,⟨[.p 4 0],_,[],[4],[44]⟩,⟨[.p 2 0,.p 3 0,.p 5 0,.o 1,.o 2,.o 10],[(45,pNo)],[],Zb4a 2 4,[45]⟩,⟨[.p 6 0],[],[],Zb4a 2 5,[46]⟩,⟨[.p 6 0],[],[],Lr 8,[47]⟩,⟨[.p 6 0],[],[],Lr 9,[48]⟩,⟨[.p 6 0],[],[],Lr 10,[]⟩]) (F:=[.p 6 0]) s b Za
       (q_p rfl (Zmo Z13 (off:=2) (q:=(pRow Z3 126 505 x4.Answers)) (by kernel_rfl) (pr:=id) (fun _=>rfl) (fun _ _ h=>h) rfl rfl U0)<|q_p rfl (Zuy Z8y rfl rfl U0)<|q_p rfl (Z2 Zgb rfl rfl U0)<|q_p rfl (Zu4 Zcf rfl rfl U0)<|q_p rfl (Zx rfl rfl U0)<|q_p rfl (Zbw rfl rfl U0 U6 rfl)<|q_q (Zbck Zblp (Z4w _ _ _ h13) rfl rfl (.cons U0 (.cons U1 (.cons U7 .nil))) (fun a g v hN hD b hu hv=>by refine Z54 ?_;refine Zwt ?_;refine Zwt ?_;refine Z54 ?_;refine Zwt ?_;refine Zwt ?_;exact Zbii (r:=p12) (s4:=4) (s5:=5) Z42 Zbmo rfl Zcw Zl9 h0 hD b (by decide) (hu _ (Zb2p (i:=5) rfl)) (hu _ (Zb2p (i:=3) rfl)) (hu _ (Zb2p (i:=4) rfl)) hv))<|q_p rfl (Z3x U0)<|q_p rfl (Z3x U0)<|q_p rfl (Z3x U0)<|q_p rfl (Z3x U0)<|q_n) (by kernel_rfl) (fun a g s b=>(s.at 0 rfl).elim)
     ·obtain⟨r14,h15,H1⟩:=Zd H1;obtain⟨h16,H1⟩:=Zdr H1
      refine U5 [5,15,100,35,75,85,95,105] s b Za
       (U2 [25] (Zmo Z13 (off:=2) (q:=(pRow Z3 126 505 x4.Answers)) (by kernel_rfl) (pr:=id) (fun _=>rfl) (fun _ _ h=>h) rfl rfl U0)<|U2 [0] (Zuy Z8y rfl rfl U0)<|Al Zgb 55 rfl<|AM Zcf 65 rfl<|Am 45 rfl<|U2 [0] (Zbw rfl rfl U0 U6 rfl)<|U2 [30,20,0] (Zt Zblp (Zbba _ _ _ h15) rfl rfl (.cons U0 (.cons U1 (.cons U7 .nil))))<|U2 [0] (Zgm Z3l (xs:=[.tmp 45]) (.cons U0 .nil) (by decide) rfl rfl)<|U2 (outs:=[(5,(Zda (some b5) Zd9 Ze0 hpT 5 x4)),(47,(pRow Z3 126 505 (x4.Answers++([r14]:List Zm))))]) (S:=[506]) [60,0,25] (OB.frameU (Zdg Z3l rfl rfl U0 U1 h16) (Opd.imp U7 (fun _ _ h=>Z35 h)) (fun k hk hS=>Z7y (Zb2h.1 hk) (Zb2h.1 hS) (by decide)) (fun h=>by cases h))<|U2 [0] (Zmo Z13 (off:=2) (q:=pAny) (by kernel_rfl) (pr:=id) (fun _=>rfl) (fun _ _ _=>trivial) rfl rfl U0)<|U2 [11,0,10] (Zvm (x':=({x4 with Answers:=(x4.Answers++([r14]:List Zm))}:Zbl)) (R2:=hpL (pRow Z3 126 505 (({x4 with Answers:=(x4.Answers++([r14]:List Zm))}:Zbl).Answers))) (upd:=fun _ s2=>s2) Z8y rfl rfl (fun _ _ h=>Zlj h) (fun k hk=>by rw[Zb2h.1 hk];decide) (fun k hk=>by cases hk) U7 (fun a g hh=>Zz8 (U1 a g hh)) U0 (fun _ _ _ _ h=>h) (fun g cs s0 s1 ys h k=>Z3y h k))<|U3) fun a g s b=>?_
      refine Zbb<|Zl ?_
      refine U5 [5,15,25,35,45,55,10,75] s b Za
       (U2 [65] (Zbw rfl rfl U0 U6 rfl)<|Am 0 rfl<|U3) fun a g s b=>?_
      exact⟨n,Zb1x _,({x4 with Answers:=(x4.Answers++([r14]:List Zm))}:Zbl),r10.1,(Zb1i.wrap (x6+(1:Int))),g,rfl,(s.pi [0,1,2,3,4,5,6,7] rfl),b,H1⟩
    ·refine wp_exit<|Zbx ?_
     refine Zbx<|Zcg ?_
     exact⟨x4,x5,g,rfl,(s.pi [0,1,2,3,8] rfl),b,Oi H1⟩
theorem Zbca (a0:Z4) (a1:List Zbj) {r:Z4×(List Zbl)} (H0:Zph a0 a1=some r):FnOk Zb1f 16 [(Zbu.pd a0),(Zb1.sl.pd a1)] (pTup [(Zbu.pd r.1),(Zdl.sl.pd r.2)]):=by
 unfold Zph at H0
 refine Zb9 (N:=29) Tryz.func16 rfl rfl (Qe rfl) rfl rfl (fun a g0 s b=>?_)
 refine U4 [15,0,10] s b Za
  (U2 (outs:=[(2,(pBox Zbu 2 a0))]) (S:=[3]) [5] (Zln rfl rfl U0)<|U2 [] (Zsw 4 rfl rfl)<|U2 (outs:=[(5,(Zdl.sl.pd ([]:List Zbl)))]) (S:=[]) [] (Zc rfl rfl (Opd.c (fun g=>Zdv g)))<|U3) fun a g s b=>?_
 refine U4 [5,15,25,0] s b Za
  (U2 (outs:=[(6,(pRow Zdl 88 6 ([]:List Zbl)))]) (S:=[]) [] (Zc rfl rfl (Opd.c (fun g=>Zj1 6 g)))<|U3) fun a g s b=>?_
 refine wp_seq<|U4 [15,25,35,0,10,20] s b Za
  (Am 5 rfl<|U2 [0] (Zbv Zb3t rfl rfl U0)<|U2 [] (Zx rfl rfl U6)<|U3) fun a g s b=>?_
 obtain⟨z12,hz1,H0⟩:=Zd H0
 refine Zbq (fun a w=>∃(y10:Z4) (y11:List Zbl) (g:G),Jn 29 [(2,(pBox Zbu 2 y10)),(4,(pBox Zbu 4 (default:Z4))),(6,(pRow Zdl 88 6 y11))] a w g0 g ((y10,y11)=z12)) ?_ ?_
 ·rintro a w ⟨y10,y11,g,rfl,s,b,rfl⟩
  refine Zl<|U4 [20,30] s b Za
   (AM Zcw 5 rfl<|Am 25 rfl<|U2 [10,15] (Z9 Zcw rfl rfl U1 U0)<|Aa 10 rfl<|U3) fun a g s b=>?_
  refine wp_ret ?_
  obtain rfl:=Oi H0
  obtain⟨u0,hu0,hq0⟩:=Zbi (P:=Zb1f) Zcw (s.at 0 rfl)
  exact Zdq rfl s b hu0 (Zf (s:=5)) (Zcr hq0 (Zdt (s.at 1 rfl)))
 ·refine wp_block<|wp_loop_ghost (fun n a w=>∃(x1:Z4) (x2:List Zbl) (x3:Int) (g:G),Jn 29 [(2,(pBox Zbu 2 x1)),(4,(pBox Zbu 4 (default:Z4))),(6,(pRow Zdl 88 6 x2)),(10,(Zb1.sl.pd a1)),(11,(pInt .i64 (a1.length:Int))),(12,(pInt .i64 x3))] a w g0 g (Zli a1 n x1 x2 x3=some z12)) (Zb1j ((a1.length:Int)-(0:Int))+1) ⟨a0,([]:List Zbl),(0:Int),g,rfl,(s.pi [0,1,2,3,4,5] rfl),b,hz1⟩ (fun n a w hI=>?_)
  obtain⟨x1,x2,x3,g,rfl,s,b,H1⟩:=hI
  cases n with
  | zero=>exact absurd H1 (by simp[Zli])
  | succ n =>
   rw[Zli]at H1
   refine U4 [5,15,25,35,45,55,0] s b Za
    (U2 [55,45] (Zcj rfl rfl U0 U1)<|U3) fun a g s b=>?_
   refine wp_seq<|Zs (s.bool 6 rfl) H1 (fun H1=>?_) (fun H1=>?_)
   ·refine wp_skip<|Zl ?_
    refine wp_seq<|wp_block ?_
    obtain⟨e5,h6,H1⟩:=Zd H1
    refine U4 [5,15,25,30,35,45,55] (L:=[(2,_),(4,_),(6,_),(10,_),(11,_),(12,_)]) (s.pi [0,1,2,3,4,5] rfl) b Za
     (U2 [35,55] (Zbn Zb3t Z4n rfl rfl U0 U1 h6)<|Al Zl8 0 rfl<|U2 [] (Z4e 8 rfl rfl)<|U2 [10,0] (Zci Zl8 rfl rfl U1 U0)<|U3) fun a g s b=>?_
    refine U4 [5,15,25,35,0,45,55,65] s b Za
     (U2 [] (Zbff 9 rfl rfl)<|U3) fun a g s b=>?_
    obtain⟨r7,h8,H1⟩:=Zd H1
    refine U4 [60,15,25,70,55,65,75] s b Za
     (AM Zcw 5 rfl<|Al Zl8 35 rfl<|U2 [10,0] (Zt Zbtd (Zbci _ _ h8) rfl rfl (.cons U0 (.cons U1 .nil)))<|Am 0 rfl<|U2 [0] (Z7 rfl rfl U0 rfl)<|U2 [10] (Z7 rfl rfl U0 rfl)<|U2 [10,5] (Z9 Zcw rfl rfl U1 U0)<|U2 [10,45] (Z9 Zl9 rfl rfl U1 U0)<|U3) fun a g s b=>?_
    obtain⟨h9,H1⟩:=Zdr H1
    refine U5 [5,15,40,45,55,65] s b Za
     (Am 25 rfl<|AM Zl9 35 rfl<|U2 [0] (Zgm Z3i (xs:=[.tmp 23]) (.cons U0 .nil) (by decide) rfl rfl)<|U2 [20,0] (Zdg Z3i rfl rfl U0 U1 h9)<|Aa 0 rfl<|U3) fun a g s b=>?_
    refine Zbb<|Zl ?_
    refine U5 [5,15,25,35,45,10] s b Za
     (U2 [55] (Zbw rfl rfl U0 U6 rfl)<|Am 0 rfl<|U3) fun a g s b=>?_
    exact⟨n,Zb1x _,r7.1,(x2++([r7.2]:List Zbl)),(Zb1i.wrap (x3+(1:Int))),g,rfl,(s.pi [0,1,2,3,4,5] rfl),b,H1⟩
   ·refine wp_exit<|Zbx ?_
    refine Zbx<|Zcg ?_
    exact⟨x1,x2,g,rfl,(s.pi [0,1,2] rfl),b,Oi H1⟩
theorem Z0s (a0:Z4) (a1:Int) {r:ByteArray×Zb×Bool} (H0:Znr a0 a1=some r):FnOk Zb1f 28 [(Zbu.pd a0),(pInt .i64 a1)] (pTup [(pStr r.1),(Zg.pd r.2.1),(Zbo r.2.2)]):=by
 unfold Znr at H0
 refine Zb9 (N:=48) Tryz.func28 rfl rfl (Qe rfl) rfl rfl (fun a g0 s b=>?_)
 refine U4 [15,0,20] s b Za
  (U2 [5] (Zbt rfl rfl U0)<|U2 [] (Zc rfl rfl c_s)<|U2 [] (Ziv 5 rfl rfl)<|U2 [] (Zc rfl rfl c_b)<|U3) fun a g s b=>?_
 refine wp_seq<|U4 [5,25,20] s b Za
  (Af Zwr 15 rfl<|Al Zd5 0 rfl<|Aa 0 rfl<|U3) fun a g s b=>?_
 obtain⟨z16,hz1,H0⟩:=Zd H0
 refine Zbq (fun a w=>∃(y15:Zb) (g:G),Jn 48 [(5,(pBox Zg 5 y15))] a w g0 g ((.inr y15)=z16)) ?_ ?_
 ·rintro a w ⟨y15,g,rfl,s,b,rfl⟩
  refine Zl<|U4 [10,20,30] s b Za
   (U2 [] (Zqf rfl rfl )<|U2 [] (Zc rfl rfl c_s)<|U2 [10,5] (Z9 Zbd rfl rfl U1 U0)<|U2 [] (Zc rfl rfl c_b)<|U3) fun a g s b=>?_
  refine wp_ret ?_
  obtain rfl:=Oi H0
  obtain⟨u1,hu1,hq1⟩:=Zbi (P:=Zb1f) Zbd (s.at 1 rfl)
  exact Zk9 rfl s b (Zf (s:=4)) hu1 (Zf (s:=6)) (Zft (s.at 0 rfl) hq1 (s.at 2 rfl))
 ·refine wp_block<|wp_loop_ghost (fun n a w=>∃(x1:Int) (x2:Zb) (x3:shelf_nodeT) (g:G),Jn 48 [(1,(pInt .i64 x1)),(5,(pBox Zg 5 x2)),(7,(Zbk.pd x3))] a w g0 g (Ze9 n x1 x2 x3=some z16)) (a0.top.hh+1) ⟨a1,(default:Zb),a0.top,g,rfl,(s.pi [0,1,2] rfl),b,hz1⟩ (fun n a w hI=>?_)
  obtain⟨x1,x2,x3,g,rfl,s,b,H1⟩:=hI
  cases n with
  | zero=>exact absurd H1 (by simp[Ze9])
  | succ n =>
   rw[Ze9]at H1
   refine wp_seq<|U4 [5,15,25,10] s b Za
    (Am 25 rfl<|U2 [0] (Zbak Zb13 rfl rfl U0 (Zg6 _))<|U3) fun a g s b=>?_
   refine Zs (s.bool 3 rfl) H1 (fun H1=>?_) (fun H1=>?_)
   ·refine wp_skip<|Zl ?_
    refine Zbq (fun a w=>∃(j13:Int) (j14:shelf_nodeT) (g:G),Jn 48 [(1,(pInt .i64 j13)),(5,(pBox Zg 5 x2)),(7,(Zbk.pd j14))] a w g0 g (Zk1 x2 (Ze9 n) j13 j14=some z16)) ?_ ?_
    ·rintro a w ⟨j13,j14,g,rfl,s,b,H1⟩
     unfold Zk1 at H1
     exact⟨n,Zb1x _,j13,x2,j14,g,rfl,(s.pi [0,1,2] rfl),b,H1⟩
    ·refine wp_block ?_
     obtain⟨n5,h6,H1⟩:=Zd H1;obtain⟨r7,h8,H1⟩:=Zd H1
     refine U4 [5,15,25,50] (L:=[(1,_),(5,_),(7,_)]) (s.pi [0,1,2] rfl) b Za
      (Am 25 rfl<|U2 [0] (Zz rfl rfl (Opd.imp U0 (fun _ _ h=>Z1 h6 h)))<|Af Zfy 0 rfl<|Al Zd5 0 rfl<|U2 [0] (Zt Zso (Zen _ h8) rfl rfl (.cons U0 .nil))<|Aa 0 rfl<|U3) fun a g s b=>?_
     refine wp_block<|U4 [5,15,25,35,30] s b Za
      (Am 5 rfl<|Am 35 rfl<|U2 [10,0] (Zcj rfl rfl U0 U1)<|Aa 0 rfl<|U3) fun a g s b=>?_
     refine Zs (s.bool 4 rfl) H1 (fun H1=>?_) (fun H1=>?_)
     ·refine U5 [5,15,40] (L:=[(1,_),(5,_),(7,_)]) (s.pi [0,1,2] rfl) b Za
       (Am 25 rfl<|U2 [0] (Zz rfl rfl (Opd.imp U0 (fun _ _ h=>Z1 h6 h)))<|Af Zfy 0 rfl<|Al Zd5 0 rfl<|Aa 0 rfl<|U3) fun a g s b=>?_
      refine Zbb<|Zbb ?_
      exact⟨x1,n5.left,g,rfl,(s.pi [0,1,2] rfl),b,H1⟩
     ·refine U4 [5,15,25,35,30] (L:=[(1,_),(5,_),(7,_),(8,_)]) (s.pi [0,1,2,3] rfl) b Za
       (Am 5 rfl<|Am 35 rfl<|U2 [10,0] (Zcn rfl rfl U0 U1)<|Aa 0 rfl<|U3) fun a g s b=>?_
      refine Zs (s.bool 4 rfl) H1 (fun H1=>?_) (fun H1=>?_)
      ·refine U4 [40,15,25] (L:=[(1,_),(5,_),(7,_),(8,_)]) (s.pi [0,1,2,3] rfl) b Za
        (Am 5 rfl<|Am 35 rfl<|U2 [0] (Zbw rfl rfl U0 U6 rfl)<|U2 [20,0] (Zei rfl rfl U0 U1 rfl)<|Aa 0 rfl<|U3) fun a g s b=>?_
       refine U5 [5,15,40] s b Za
        (Am 25 rfl<|U2 [0] (Zz rfl rfl (Opd.imp U0 (fun _ _ h=>Z1 h6 h)))<|Af Zgx 0 rfl<|Al Zd5 0 rfl<|Aa 0 rfl<|U3) fun a g s b=>?_
       refine Zbb<|Zbb ?_
       exact⟨(Zb1i.wrap (x1-(Zb1i.wrap (r7+(1:Int))))),n5.right,g,rfl,(s.pi [0,1,2] rfl),b,H1⟩
      ·obtain⟨r11,h12,H1⟩:=Zd H1
       refine U4 [90,100,110] (L:=[(5,_),(7,_)]) (s.pi [1,2] rfl) b Za
        (Am 15 rfl<|U2 [0] (Zz rfl rfl (Opd.imp U0 (fun _ _ h=>Z1 h6 h)))<|Af Zgu 0 rfl<|Al V0 0 rfl<|Am 15 rfl<|U2 [0] (Zz rfl rfl (Opd.imp U0 (fun _ _ h=>Z1 h6 h)))<|Af Zj2 0 rfl<|Al Zbd 0 rfl<|U2 [0] (Zt Zvt (Zkf _ h12) rfl rfl (.cons U0 .nil))<|Aa 50 rfl<|U2 [10,5] (Z9 Zbd rfl rfl U1 U0)<|U2 [] (Zc rfl rfl c_b)<|U3) fun a g s b=>?_
       refine wp_ret<|Z5 ?_
       refine Z5<|Zp ?_
       refine Zp<|Z5 ?_
       refine Zp<|Zp ?_
       obtain rfl:=Oi H1
       obtain rfl:=Oi H0
       obtain⟨u1,hu1,hq1⟩:=Zbi (P:=Zb1f) Zbd (s.at 1 rfl)
       exact Zk9 rfl s b (Zf (s:=4)) hu1 (Zf (s:=6)) (Zft (s.at 0 rfl) hq1 (s.at 2 rfl))
   ·refine wp_exit<|Zbx ?_
    refine Zbx<|Zcg ?_
    exact⟨x2,g,rfl,(s.pi [1] rfl),b,Oi H1⟩
theorem Z1a (a0:Z4) (a1:Zk) {r:Int} (H0:Zno a0 a1=some r):FnOk Zb1f 17 [(Zbu.pd a0),(Zbe.pd a1)] (pInt .i64 r):=by
 unfold Zno at H0
 refine Zb9 (N:=54) Tryz.func17 rfl rfl (Qe rfl) rfl rfl (fun a g0 s b=>?_)
 refine U4 [0,10] s b Za
  (U2 [5] (Zbt rfl rfl U0)<|U2 [15] (Zbt rfl rfl U0)<|U2 [] (Zc rfl rfl U6)<|U3) fun a g s b=>?_
 refine wp_seq ?_
 obtain⟨r1,h2,H0⟩:=Zd H0;obtain⟨r3,h4,H0⟩:=Zd H0
 refine U4 [5,15,120] s b Za
  (Al Zcw 5 rfl<|U2 [0] (Zt Zbmh (Ztd _ h2) rfl rfl (.cons U0 .nil))<|Af Zin 15 rfl<|Al Zmp 0 rfl<|U2 [0] (Zbv Zb21 rfl rfl U0)<|U2 [30,0] (Zcv rfl rfl U0 U1)<|Am 0 rfl<|Gf [0,5] rfl (fun h=>Z2 Zcw rfl rfl U0)<|Gf [10,0] rfl (fun h=>Zt en_5 (Zr7 _ (Zcb h4 h)) rfl rfl (.cons (V1 h U0) .nil))<|Gf [20,15] rfl (fun h=>Zq Zwb rfl rfl U0)<|Gf [30,0] rfl (fun h=>Z2 U9 rfl rfl (V1 h U0))<|Gf [40,20,0] rfl (fun h=>Zcv rfl rfl (V1 h U0) (V1 h U1))<|U2 [50,0] (Zb3 rfl rfl U0 (fun hz=>(V1 (bNF hz) U1)))<|U3) fun a g s b=>?_
 refine Zs (s.bool 2 rfl) H0 (fun H0=>?_) (fun H0=>?_)
 ·refine U4 [0] (L:=[]) (s.pi [] rfl) b Za
   (U2 [] (Zc rfl rfl U6)<|U3) fun a g s b=>?_
  refine wp_ret<|Zp ?_
  obtain rfl:=Oi H0
  exact Zba rfl s b (Zf (s:=4)) (s.at 0 rfl)
 ·refine wp_skip<|Zl ?_
  refine wp_seq<|U4 [5,10,20,30] (L:=[(2,_),(3,_)]) (s.pi [0,1] rfl) b Za
   (Af Zin 15 rfl<|Al Zmp 0 rfl<|U2 [0] (Zbv Zb21 rfl rfl U0)<|U2 [] (Zx rfl rfl U6)<|U3) fun a g s b=>?_
  obtain⟨z15,hz1,H0⟩:=Zd H0
  refine Zbq (fun a w=>∃(g:G),Jn 54 [] a w g0 g ((.inr ())=z15)) ?_ ?_
  ·rintro a w ⟨g,rfl,s,b,rfl⟩
   refine Zl<|U4 [0] s b Za
    (U2 [] (Zc rfl rfl U6)<|U3) fun a g s b=>?_
   refine wp_ret ?_
   obtain rfl:=Oi H0
   exact Zba rfl s b (Zf (s:=4)) (s.at 0 rfl)
  ·refine wp_block<|wp_loop_ghost (fun n a w=>∃(x6:Int) (g:G),Jn 54 [(2,(Zbu.ptr a0)),(24,(Zdf.sl.pd a1.L)),(25,(pInt .i64 (a1.L.length:Int))),(26,(pInt .i64 x6))] a w g0 g (Zg8 a0 a1 n x6=some z15)) (Zb1j ((a1.L.length:Int)-(0:Int))+1) ⟨(0:Int),g,rfl,(s.pi [0,1,2,3] rfl),b,hz1⟩ (fun n a w hI=>?_)
   obtain⟨x6,g,rfl,s,b,H1⟩:=hI
   cases n with
   | zero=>exact absurd H1 (by simp[Zg8])
   | succ n =>
    rw[Zg8]at H1
    refine U4 [5,15,25,35,0] s b Za
     (U2 [35,25] (Zcj rfl rfl U0 U1)<|U3) fun a g s b=>?_
    refine wp_seq<|Zs (s.bool 4 rfl) H1 (fun H1=>?_) (fun H1=>?_)
    ·refine wp_skip<|Zl ?_
     refine wp_seq<|wp_block ?_
     obtain⟨e8,h9,H1⟩:=Zd H1
     refine U4 [5,40,50,15,25,35] (L:=[(2,_),(24,_),(25,_),(26,_)]) (s.pi [0,1,2,3] rfl) b Za
      (Am 35 rfl<|U2 [15,35] (Zbn Zb21 Zqu rfl rfl U0 U1 h9)<|Al Zbja 0 rfl<|U2 [] (Zbph 6 rfl rfl)<|Aa 30 rfl<|U2 [20,10] (Zci Zbja rfl rfl U1 U0)<|U3) fun a g s b=>?_
     obtain⟨r10,h11,H1⟩:=Zd H1
     refine U4 [5,25,80,90,100,35,45,55] s b Za
      (Al Zcw 5 rfl<|Am 15 rfl<|U2 [10,0] (Zt Zbsj (Z0s _ _ h11) rfl rfl (.cons U0 (.cons U1 .nil)))<|Am 0 rfl<|U2 [0] (Z7 rfl rfl U0 rfl)<|U2 [10] (Z7 rfl rfl U0 rfl)<|U2 [20] (Z7 rfl rfl U0 rfl)<|U2 [] (Ziv 8 rfl rfl)<|Aa 30 rfl<|U2 [30,10] (Zci Zbd rfl rfl U1 U0)<|Aa 30 rfl<|U3) fun a g s b=>?_
     obtain⟨r12,h13,H1⟩:=Zd H1
     refine U4 [5,55,65,75,140] s b Za
      (Am 45 rfl<|U2 [0] (Zct rfl rfl U0)<|Am 0 rfl<|Gf [0,25] rfl (fun h=>Zx rfl rfl U0)<|Gf [10,15] rfl (fun h=>Zq Zug rfl rfl U0)<|Gf [20,0] rfl (fun h=>Z2 V0 rfl rfl (V1 h U0))<|Gf [30,20,0] rfl (fun h=>Zue rfl rfl (V1 h U0) (V1 h U1))<|U2 [40,0] (Zb3 rfl rfl U0 (fun hz=>(V1 (bNF hz) U1)))<|Am 0 rfl<|Gf [0,35] rfl (fun h=>Z2 Zbd rfl rfl U0)<|Gf [10,15] rfl (fun h=>Zq Z9p rfl rfl U0)<|Gf [20,0] rfl (fun h=>Z2 Zbd rfl rfl (V1 h U0))<|Gf [30,20,0] rfl (fun h=>Zt Zbmf (Zr4 _ _ (Zcb h13 h)) rfl rfl (.cons (V1 h U0) (.cons (V1 h U1) .nil)))<|Gf [40,0] rfl (fun h=>Zct rfl rfl (V1 h U0))<|U2 [50,0] (Zb3 rfl rfl U0 (fun hz=>(V1 (bNF hz) U1)))<|U3) fun a g s b=>?_
     refine Zs (s.bool 4 rfl) H1 (fun H1=>?_) (fun H1=>?_)
     ·refine U4 [0] (L:=[]) (s.pi [] rfl) b Za
       (U2 [] (Zc rfl rfl U6)<|U3) fun a g s b=>?_
      refine wp_ret<|Z5 ?_
      refine Zp<|Zp ?_
      refine Z5<|Zp ?_
      refine Zp ?_
      obtain rfl:=Oi H1
      obtain rfl:=Oi H0
      exact Zba rfl s b (Zf (s:=4)) (s.at 0 rfl)
     ·refine wp_skip<|Zbb ?_
      refine Zl<|U5 [5,15,25,10] (L:=[(2,_),(24,_),(25,_),(26,_)]) (s.pi [0,1,2,3] rfl) b Za
       (U2 [35] (Zbw rfl rfl U0 U6 rfl)<|Am 0 rfl<|U3) fun a g s b=>?_
      exact⟨n,Zb1x _,(Zb1i.wrap (x6+(1:Int))),g,rfl,(s.pi [0,1,2,3] rfl),b,H1⟩
    ·refine wp_exit<|Zbx ?_
     refine Zbx<|Zcg ?_
     exact⟨g,rfl,(s.pi [] rfl),b,Oi H1⟩
theorem Zwq (a0:Int) (a1:List (List Zbj)) (a2:Zel) {r:Bool} (H0:Zmr a0 a1 a2=some r):FnOk Zb1f 3 [(pInt .i64 a0),(Zb1.sl.sl.pd a1),(Zes.pd a2)] (Zbo r):=by
 unfold Zmr at H0
 refine Zb9 (N:=178) Tryz.func3 rfl rfl (Qe rfl) rfl rfl (fun a g0 s b=>?_)
 refine U4 [5,15,0] s b Za
  (U2 [25] (Zbt rfl rfl U0)<|U2 [] (Zc rfl rfl c_b)<|U3) fun a g s b=>?_
 refine wp_seq ?_
 obtain⟨r1,h2,H0⟩:=Zd H0
 refine U4 [5,15,25,50] s b Za
  (U2 [] (Zt en_4 (Zzr _ h2) rfl rfl (.cons U6 .nil))<|Am 0 rfl<|U2 [0] (Z7 rfl rfl U0 rfl)<|U2 [10] (Z7 rfl rfl U0 rfl)<|U2 [] (Zsw 7 rfl rfl)<|U2 [20,0] (Zci Zcw rfl rfl U1 U0)<|Aa 20 rfl<|U3) fun a g s b=>?_
 obtain⟨r3,h4,H0⟩:=Zd H0;obtain⟨r5,h6,H0⟩:=Zd H0
 refine U4 [5,15,25,60] s b Za
  (Al Zcw 35 rfl<|U2 [0] (Zt en_5 (Zr7 _ h4) rfl rfl (.cons U0 .nil))<|U2 [0] (Zcv rfl rfl U0 U6)<|Am 0 rfl<|Gf [0] rfl (fun h=>Zt en_6 (Zuj _ (Zcb h6 h)) rfl rfl (.cons U6 .nil))<|Gf [10,0] rfl (fun h=>Zcv rfl rfl (V1 h U0) U6)<|U2 [20,0] (Zb3 rfl rfl U0 (fun hz=>(V1 (bNF hz) U1)))<|U3) fun a g s b=>?_
 refine Zs (s.bool 3 rfl) H0 (fun H0=>?_) (fun H0=>?_)
 ·refine U4 [0] (L:=[]) (s.pi [] rfl) b Za
   (U2 [] (Zc rfl rfl c_b)<|U3) fun a g s b=>?_
  refine wp_ret<|Zp ?_
  obtain rfl:=Oi H0
  exact Zba rfl s b (Zf (s:=6)) (s.at 0 rfl)
 ·refine wp_skip<|Zl ?_
  refine wp_seq ?_
  obtain⟨r8,h9,H0⟩:=Zd H0
  refine U4 [5,15,25,140] (L:=[(0,_),(1,_),(5,_)]) (s.pi [0,1,2] rfl) b Za
   (Am 5 rfl<|U2 [0] (Zcj rfl rfl U0 U6)<|Am 0 rfl<|Gf [0,5] rfl (fun h=>Zx rfl rfl U0)<|Gf [10,0] rfl (fun h=>Zcn rfl rfl (V1 h U0) U6)<|U2 [20,0] (Zb3 rfl rfl U0 (fun hz=>(V1 (bNF hz) U1)))<|Am 0 rfl<|Gf [0,15] rfl (fun h=>Zx rfl rfl U0)<|Gf [10,0] rfl (fun h=>Zbv Zb22 rfl rfl (V1 h U0))<|Gf [20,0] rfl (fun h=>Zcn rfl rfl (V1 h U0) U6)<|U2 [30,0] (Zb3 rfl rfl U0 (fun hz=>(V1 (bNF hz) U1)))<|Am 0 rfl<|Gf [0,25] rfl (fun h=>Z2 Zbrb rfl rfl U0)<|Gf [10,0] rfl (fun h=>Zt en_7 (Zv6 _ (Zcb h9 h)) rfl rfl (.cons (V1 h U0) .nil))<|U2 [20,0] (Zb3 rfl rfl U0 (fun hz=>(V1 (bNF hz) U1)))<|U3) fun a g s b=>?_
  refine Zs (s.bool 3 rfl) H0 (fun H0=>?_) (fun H0=>?_)
  ·refine U4 [0] (L:=[]) (s.pi [] rfl) b Za
    (U2 [] (Zc rfl rfl c_b)<|U3) fun a g s b=>?_
   refine wp_ret<|Zp ?_
   obtain rfl:=Oi H0
   exact Zba rfl s b (Zf (s:=6)) (s.at 0 rfl)
  ·refine wp_skip<|Zl ?_
   obtain⟨r11,h12,H0⟩:=Zd H0
   refine wp_seq<|U5 [5,15,25,40] (L:=[(0,_),(1,_),(5,_)]) (s.pi [0,1,2] rfl) b Za
    (U2 (outs:=[(56,(pTup [(Zkq none Zc1 56 r11.2),(pInt .i64 r11.1)]))]) (S:=[57,1000057]) [] (Zbc5 en_8 (Zbcg _ h12) rfl rfl rfl (.cons U6 .nil))<|Am 0 rfl<|U2 [0] (Z7 rfl rfl U0 rfl)<|U2 [10] (Z7 rfl rfl U0 rfl)<|Aa 10 rfl<|Aa 10 rfl<|U3) fun a g s b=>?_
   obtain⟨bN13,s⟩:=Z41 1001 (i:=3) rfl s
   replace s:St 178 [(0,(pInt .i64 a0)),(1,(Zb1.sl.sl.pd a1)),(5,(Zes.ptr a2)),(9,(pEq (ptrB bN13 0))),(1001,(pPO Zc1 bN13 56 r11.2))] a g:=s
   refine Zl<|U4 [5,15,25,35,20,45] s b Za
    (U2 [] (Zbnn rfl rfl U6)<|U2 [] (Zbrc 11 rfl rfl)<|U2 [10,0] (Zci Zve rfl rfl U1 U0)<|U3) fun a g s b=>?_
   obtain⟨r14,h15,H0⟩:=Zd H0
   refine wp_seq<|U5 [5,15,25,35,45,70,90] s b Za
    (Am 35 rfl<|Al Zve 45 rfl<|U2 (outs:=[(63,(pTup [(Zkq none (Zl0 bN13) 56 r14.2.2),(Zde.sl.pd r14.1),(pInt .i64 r14.2.1)]))]) (S:=[57,1000057]) [10,0,55] (Zv3 (m:=1001) en_9 (Z1g _ _ _ h15) rfl rfl rfl rfl U7 U0 (.cons U1 (.cons U6 .nil)))<|Am 0 rfl<|U2 [0] (Z7 rfl rfl U0 rfl)<|U2 [10] (Z7 rfl rfl U0 rfl)<|U2 [20] (Z7 rfl rfl U0 rfl)<|Aa 20 rfl<|Aa 20 rfl<|Aa 20 rfl<|U3) fun a g s b=>?_
   obtain⟨bN16,s⟩:=Z41 1001 (i:=5) rfl s
   replace s:St 178 [(0,(pInt .i64 a0)),(1,(Zb1.sl.sl.pd a1)),(5,(Zes.ptr a2)),(9,(pEq (ptrB bN13 0))),(11,(Zcu.ptr ({From:=(0:Int),Len:=(500:Int)}:Zc5))),(12,(pEq (ptrB bN16 0))),(14,(pInt .i64 r14.2.1)),(1001,(pPO (Zl0 bN13) bN16 56 r14.2.2))] a g:=s
   refine Zl<|wp_seq ?_
   refine U4 [5,15,25,35,45,55,50,75] s b Za
    (Am 65 rfl<|U2 [0] (Zcv rfl rfl U0 U6)<|Am 0 rfl<|Gf [0,55] rfl (fun h=>Zx rfl rfl U0)<|Gf [10,0] rfl (fun u=>Zwv Tryz.underlying40 rfl rfl (V1 u U0) (fun _ _ h=>⟨_,h,rfl⟩))<|U2 [20,0] (Zb3 rfl rfl U0 (fun hz=>(V1 (bNF hz) U1)))<|U3) fun a g s b=>?_
   refine Zs (s.bool 6 rfl) H0 (fun H0=>?_) (fun H0=>?_)
   ·refine U4 [0,5] (L:=[(1001,_)]) (s.pi [7] rfl) b Za
     (U2 [] (Zc rfl rfl c_b)<|U3) fun a g s b=>?_
    refine wp_ret<|Zp ?_
    obtain rfl:=Oi H0
    exact Zba rfl s b (Zf (s:=6)) (s.at 0 rfl)
   ·refine wp_skip<|Zl ?_
    obtain⟨r18,h19,H0⟩:=Zd H0
    refine U4 [5,15,25,35,45,55,31] (L:=[(0,_),(1,_),(5,_),(9,_),(11,_),(12,_),(1001,_)]) (s.pi [0,1,2,3,4,5,7] rfl) b Za
     (Am 35 rfl<|Af Zbom 25 rfl<|Al U9 0 rfl<|U2 (outs:=[(76,(pTup [])),(1001,(pPO (Zl0 bN13) bN16 56 (r14.2.2.1,(r14.2.2.2.1,r18))))]) (S:=[57,1000057]) [20,0,65] (Z20 (m:=1001) Z43 Zbrf (Zzt _ _ h19) rfl rfl rfl U7 U0 (.cons U1 .nil))<|U3) fun a g s b=>?_
    refine U4 [5,15,25,35,45,55,30,65] s b Za
     (Am 5 rfl<|U2 [0] (Zbmy rfl rfl U0)<|U2 [0] (Zka 79 Zbf9 (xs:=[.tmp 78]) (.cons U0 .nil) (by decide) rfl rfl)<|Aa 0 rfl<|U3) fun a g s b=>?_
    refine U4 [5,15,25,35,45,55,65,0,75] s b Za
     (U2 [] (Zc rfl rfl U6)<|U3) fun a g s b=>?_
    refine wp_seq<|U4 [5,25,35,45,55,65,75,0,10,20,85] s b Za
     (Am 15 rfl<|U2 [0] (Zbv Zb22 rfl rfl U0)<|U2 [] (Zx rfl rfl U6)<|U3) fun a g s b=>?_
    obtain⟨z49,hz1,H0⟩:=Zd H0
    refine Zbq (fun a w=>∃(y46:List Zk) (y47:Int) (y48:(Zdo×(Zb4×Ze))) (g:G),Jn 178 [(0,(pInt .i64 a0)),(5,(Zes.ptr a2)),(9,(pEq (ptrB bN13 0))),(11,(Zcu.ptr ({From:=(0:Int),Len:=(500:Int)}:Zc5))),(15,(pRow Zbe 47 79 y46)),(16,(pInt .i64 y47)),(1001,(pPO (Zl0 bN13) bN16 56 y48))] a w g0 g ((.inr (y46,y47,y48))=z49)) ?_ ?_
    ·rintro a w ⟨y46,y47,y48,g,rfl,s,b,rfl⟩
     refine Zl ?_
     obtain⟨r50,h51,H0⟩:=Zd H0
     refine U4 [5,25,35,45,55,31] s b Za
      (Am 25 rfl<|Af Zbdj 15 rfl<|Al Zbln 0 rfl<|U2 (outs:=[(126,(pTup [])),(1001,(pPO (Zl0 bN13) bN16 56 (y48.1,(y48.2.1,r50))))]) (S:=[57,1000057]) [20,0,65] (Z20 (m:=1001) Z43 Zbs1 (Zyl _ _ h51) rfl rfl rfl U7 U0 (.cons U1 .nil))<|U3) fun a g s b=>?_
     obtain⟨g1,hw,s,b⟩:=Zbpp Z43 (i:=5) rfl (by kernel_rfl) (by unfold AUX;decide) s b
     refine wp_seq ?_
     replace s:St 178 [(0,(pInt .i64 a0)),(9,(pEq (ptrB bN13 0))),(11,(Zcu.ptr ({From:=(0:Int),Len:=(500:Int)}:Zc5))),(15,(pRow Zbe 47 79 y46)),(16,(pInt .i64 y47)),(1001,(pPO Zc1 bN13 56 ((y48.1,(y48.2.1,r50)).2.2)))] a g1:=s
     rw[←hw]
     obtain⟨r52,h53,H0⟩:=Zd H0
     refine U5 [5,35,45,80,90] s b Za
      (Am 15 rfl<|Al Zve 25 rfl<|U2 (outs:=[(130,(pTup [(Zkq none (Zl0 bN13) 56 r52.2.2),(Zde.sl.pd r52.1),(pInt .i64 r52.2.1)]))]) (S:=[57,1000057]) [10,0,55] (Zv3 (m:=1001) en_9 (Z1g _ _ _ h53) rfl rfl rfl rfl U7 U0 (.cons U1 (.cons U6 .nil)))<|Am 0 rfl<|U2 [0] (Z7 rfl rfl U0 rfl)<|U2 [10] (Z7 rfl rfl U0 rfl)<|U2 [20] (Z7 rfl rfl U0 rfl)<|Aa 20 rfl<|Aa 20 rfl<|Aa 20 rfl<|U3) fun a g s b=>?_
     refine Zl ?_
     obtain⟨r54,h55,H0⟩:=Zd H0
     refine U4 [15,25,35,45,60] s b Za
      (Am 5 rfl<|U2 [0] (Zt en_4 (Zzr _ h55) rfl rfl (.cons U0 .nil))<|Am 0 rfl<|U2 [0] (Z7 rfl rfl U0 rfl)<|U2 [10] (Z7 rfl rfl U0 rfl)<|U2 [] (Zsw 25 rfl rfl)<|U2 [20,0] (Z9 Zcw rfl rfl U1 U0)<|Aa 20 rfl<|U3) fun a g s b=>?_
     refine wp_seq<|U4 [5,15,25,35,45,0,10,20] s b Za
      (Am 25 rfl<|U2 [0] (Zbv Zb19 rfl rfl U0)<|U2 [] (Zx rfl rfl U6)<|U3) fun a g s b=>?_
     obtain⟨z64,hz2,H0⟩:=Zd H0
     refine Zbq (fun a w=>∃(y63:Z4) (g:G),Jn 178 [(15,(pRow Zbe 47 79 y46)),(16,(pInt .i64 y47)),(23,(Zde.sl.pd r52.1)),(24,(pInt .i64 r52.2.1)),(25,(pBox Zbu 25 y63))] a w g0 g (y63=z64)) ?_ ?_
     ·rintro a w ⟨y63,g,rfl,s,b,rfl⟩
      refine Zl ?_
      obtain⟨e65,h66,H0⟩:=Zd H0;obtain⟨r67,h68,H0⟩:=Zd H0
      refine U4 [250] s b Za
       (Am 35 rfl<|U2 [0] (Zb0 rfl rfl U0 U6)<|Am 0 rfl<|Gt [0,25] rfl (fun h=>Zx rfl rfl U0)<|Gt [10,0] rfl (fun h=>Zbv Zb19 rfl rfl (V1 h U0))<|Gt [20,15] rfl (fun h=>Zx rfl rfl U0)<|Gt [30,10,0] rfl (fun h=>Zkp rfl rfl (V1 h U0) (V1 h U1))<|U2 [40,0] (Zbs rfl rfl U0 (fun hz=>(V1 hz U1)))<|Am 0 rfl<|Gt [0,25] rfl (fun h=>Zx rfl rfl U0)<|Gt [10,0] rfl (fun h=>Zbv Zb19 rfl rfl (V1 h U0))<|Gt [20,5] rfl (fun h=>Zx rfl rfl U0)<|Gt [30,0] rfl (fun u=>Zbv Zb2k rfl rfl (Opd.imp (V1 u U0) (fun _ _ h=>Zdt h)))<|Gt [40,20,0] rfl (fun h=>Zcj rfl rfl (V1 h U0) (V1 h U1))<|U2 [50,0] (Zbs rfl rfl U0 (fun hz=>(V1 hz U1)))<|Am 0 rfl<|Gt [0,45] rfl (fun h=>Zu4 Zcw rfl rfl U0)<|Gt [10,5] rfl (fun h=>Zx rfl rfl U0)<|Gt [20,25] rfl (fun h=>Zx rfl rfl U0)<|Gt [30,0] rfl (fun h=>Zbv Zb19 rfl rfl (V1 h U0))<|Gt [40,20,0] rfl (fun u=>Zbn Zb2k Zbmc rfl rfl (Opd.imp (V1 u U0) (fun _ _ h=>Zdt h)) (V1 u U1) (Zcb h66 u))<|Gt [50,0] rfl (fun h=>Z2 Zdd rfl rfl (V1 h U0))<|Gt [60,50,0] rfl (fun h=>Zt Zbtp (Z1a _ _ (Zcb h68 h)) rfl rfl (.cons (V1 h U0) (.cons (V1 h U1) .nil)))<|Gt [70,0] rfl (fun h=>Zb0 rfl rfl (V1 h U0) U6)<|U2 [80,0] (Zbs rfl rfl U0 (fun hz=>(V1 hz U1)))<|Aa 0 rfl<|U3) fun a g s b=>?_
      refine wp_ret ?_
      obtain rfl:=Oi H0
      exact Zba rfl s b (Zf (s:=6)) (s.at 0 rfl)
     ·refine wp_block<|wp_loop_ghost (fun n a w=>∃(x56:Z4) (x57:Int) (g:G),Jn 178 [(15,(pRow Zbe 47 79 y46)),(16,(pInt .i64 y47)),(23,(Zde.sl.pd r52.1)),(24,(pInt .i64 r52.2.1)),(25,(pBox Zbu 25 x56)),(139,(Zde.sl.pd r52.1)),(140,(pInt .i64 (r52.1.length:Int))),(141,(pInt .i64 x57))] a w g0 g (Ze6 r52 n x56 x57=some z64)) (Zb1j ((r52.1.length:Int)-(0:Int))+1) ⟨r54.1,(0:Int),g,rfl,(s.pi [0,1,2,3,4,5,6,7] rfl),b,hz2⟩ (fun n a w hI=>?_)
      obtain⟨x56,x57,g,rfl,s,b,H1⟩:=hI
      cases n with
      | zero=>exact absurd H1 (by simp[Ze6])
      | succ n =>
       rw[Ze6]at H1
       refine U4 [5,15,25,35,45,55,65,75,0] s b Za
        (U2 [75,65] (Zcj rfl rfl U0 U1)<|U3) fun a g s b=>?_
       refine wp_seq<|Zs (s.bool 8 rfl) H1 (fun H1=>?_) (fun H1=>?_)
       ·refine wp_skip<|Zl ?_
        refine wp_seq<|wp_block ?_
        obtain⟨e59,h60,H1⟩:=Zd H1
        refine U4 [5,15,25,35,45,30,55,65,75] (L:=[(15,_),(16,_),(23,_),(24,_),(25,_),(139,_),(140,_),(141,_)]) (s.pi [0,1,2,3,4,5,6,7] rfl) b Za
         (U2 [55,75] (Zbn Zb19 Zbr5 rfl rfl U0 U1 h60)<|Al Zqd 0 rfl<|U2 [] (Zbmn 28 rfl rfl)<|U2 [10,0] (Zci Zqd rfl rfl U1 U0)<|U3) fun a g s b=>?_
        obtain⟨r61,h62,H1⟩:=Zd H1
        refine U5 [5,15,25,35,70,65,75,85] s b Za
         (AM Zcw 45 rfl<|Af Zv7 55 rfl<|Al Z0d 0 rfl<|U2 [20,0] (Zt Zbsw (Zbca _ _ h62) rfl rfl (.cons U0 (.cons U1 .nil)))<|Am 0 rfl<|U2 [0] (Z7 rfl rfl U0 rfl)<|U2 [10] (Z7 rfl rfl U0 rfl)<|U2 [10,45] (Z9 Zcw rfl rfl U1 U0)<|U3) fun a g s b=>?_
        refine Zbb<|Zl ?_
        refine U5 [5,15,25,35,45,55,65,10] s b Za
         (U2 [75] (Zbw rfl rfl U0 U6 rfl)<|Am 0 rfl<|U3) fun a g s b=>?_
        exact⟨n,Zb1x _,r61.1,(Zb1i.wrap (x57+(1:Int))),g,rfl,(s.pi [0,1,2,3,4,5,6,7] rfl),b,H1⟩
       ·refine wp_exit<|Zbx ?_
        refine Zbx<|Zcg ?_
        exact⟨x56,g,rfl,(s.pi [0,1,2,3,4] rfl),b,Oi H1⟩
    ·refine wp_block<|wp_loop_ghost (fun n a w=>∃(x20:List Zk) (x21:Int) (x22:Int) (x23:(Zdo×(Zb4×Ze))) (g:G),Jn 178 [(0,(pInt .i64 a0)),(5,(Zes.ptr a2)),(9,(pEq (ptrB bN13 0))),(11,(Zcu.ptr ({From:=(0:Int),Len:=(500:Int)}:Zc5))),(12,(pEq (ptrB bN16 0))),(15,(pRow Zbe 47 79 x20)),(16,(pInt .i64 x21)),(80,(Zb1.sl.sl.pd a1)),(81,(pInt .i64 (a1.length:Int))),(82,(pInt .i64 x22)),(1001,(pPO (Zl0 bN13) bN16 56 x23))] a w g0 g (Zcz a1 n x20 x21 x22 x23=some z49)) (Zb1j ((a1.length:Int)-(0:Int))+1) ⟨([({L:=([]:List Zb2),Room:=a0}:Zk)]:List Zk),(0:Int),(0:Int),(r14.2.2.1,(r14.2.2.2.1,r18)),g,rfl,(s.pi [0,1,2,3,4,5,6,7,8,9,10] rfl),b,hz1⟩ (fun n a w hI=>?_)
     obtain⟨x20,x21,x22,x23,g,rfl,s,b,H1⟩:=hI
     cases n with
     | zero=>exact absurd H1 (by simp[Zcz])
     | succ n =>
      rw[Zcz]at H1
      refine U4 [5,15,25,35,45,55,65,75,85,95,0,105] s b Za
       (U2 [95,85] (Zcj rfl rfl U0 U1)<|U3) fun a g s b=>?_
      refine wp_seq<|Zs (s.bool 10 rfl) H1 (fun H1=>?_) (fun H1=>?_)
      ·refine wp_skip<|Zl ?_
       refine wp_seq<|Zbq (fun a w=>∃(j43:List Zk) (j44:Int) (j45:(Zdo×(Zb4×Ze))) (g:G),Jn 178 [(0,(pInt .i64 a0)),(5,(Zes.ptr a2)),(9,(pEq (ptrB bN13 0))),(11,(Zcu.ptr ({From:=(0:Int),Len:=(500:Int)}:Zc5))),(12,(pEq (ptrB bN16 0))),(15,(pRow Zbe 47 79 j43)),(16,(pInt .i64 j44)),(80,(Zb1.sl.sl.pd a1)),(81,(pInt .i64 (a1.length:Int))),(82,(pInt .i64 x22)),(1001,(pPO (Zl0 bN13) bN16 56 j45))] a w g0 g (Zhj x22 (Zcz a1 n) j43 j44 j45=some z49)) ?_ ?_
       ·rintro a w ⟨j43,j44,j45,g,rfl,s,b,H1⟩
        unfold Zhj at H1
        refine Zl<|U5 [5,15,25,35,45,55,65,75,85,10,105] s b Za
         (U2 [95] (Zbw rfl rfl U0 U6 rfl)<|Am 0 rfl<|U3) fun a g s b=>?_
        exact⟨n,Zb1x _,j43,j44,(Zb1i.wrap (x22+(1:Int))),j45,g,rfl,(s.pi [0,1,2,3,4,5,6,7,8,9,10] rfl),b,H1⟩
       ·refine wp_block ?_
        obtain⟨e25,h26,H1⟩:=Zd H1
        refine U4 [5,15,25,35,45,55,65,20,75,85,95,105] (L:=[(0,_),(5,_),(9,_),(11,_),(12,_),(15,_),(16,_),(80,_),(81,_),(82,_),(1001,_)]) (s.pi [0,1,2,3,4,5,6,7,8,9,11] rfl) b Za
         (U2 [75,95] (Zbn Zb22 Zbru rfl rfl U0 U1 h26)<|Al Z0d 0 rfl<|Aa 0 rfl<|U3) fun a g s b=>?_
        refine wp_seq ?_
        obtain⟨r27,h28,H1⟩:=Zd H1
        refine U4 [5,15,25,35,45,55,65,75,85,95,105,20,115] s b Za
         (Am 75 rfl<|U2 [0] (Zt Zbst (Zy8 _ h28) rfl rfl (.cons U0 .nil))<|U2 [0] (Zcn rfl rfl U0 U6)<|U3) fun a g s b=>?_
        refine Zs (s.bool 11 rfl) H1 (fun H1=>?_) (fun H1=>?_)
        ·refine U4 [0,5] (L:=[(1001,_)]) (s.pi [12] rfl) b Za
          (U2 [] (Zc rfl rfl c_b)<|U3) fun a g s b=>?_
         refine wp_ret<|Zp ?_
         refine Z5<|Zp ?_
         refine Zp<|Zp ?_
         refine Z5<|Zp ?_
         refine Zp ?_
         obtain rfl:=Oi H1
         obtain rfl:=Oi H0
         exact Zba rfl s b (Zf (s:=6)) (s.at 0 rfl)
        ·refine wp_skip<|Zl ?_
         obtain⟨r30,h31,H1⟩:=Zd H1;obtain⟨r32,h33,H1⟩:=Zd H1
         refine U4 [5,15,25,35,45,55,65,75,60,85,95,105,51] (L:=[(0,_),(5,_),(9,_),(11,_),(12,_),(15,_),(16,_),(18,_),(80,_),(81,_),(82,_),(1001,_)]) (s.pi [0,1,2,3,4,5,6,7,8,9,10,12] rfl) b Za
          (Am 45 rfl<|Am 45 rfl<|U2 (outs:=[(91,(pInt .i64 r30)),(1001,(pPO (Zl0 bN13) bN16 56 x23))]) (S:=[57,1000057]) [0,115] (Zf5 (m:=1001) Zbrl (Z32 _ h31) rfl rfl rfl U1 U0 .nil)<|Am 75 rfl<|U2 [10,0] (Zbgy rfl rfl U0 U1)<|U2 (outs:=[(94,(pInt .i64 r32.1)),(1001,(pPO (Zl0 bN13) bN16 56 r32.2))]) (S:=[57,1000057]) [40,0,21] (Zf5 (m:=1001) Zbr4 (Z5a _ _ h33) rfl rfl rfl U7 U0 (.cons U1 .nil))<|Aa 0 rfl<|U3) fun a g s b=>?_
         refine wp_seq<|U4 [5,15,25,35,45,55,65,75,85,95,105,115,50,125] s b Za
          (Am 85 rfl<|U2 [0] (Zb0 rfl rfl U0 U6)<|Am 0 rfl<|Gf [0,85] rfl (fun h=>Zx rfl rfl U0)<|Gf [10,0] rfl (fun h=>Zb0 rfl rfl (V1 h U0) U6)<|U2 [20,0] (Zb3 rfl rfl U0 (fun hz=>(V1 (bNF hz) U1)))<|U3) fun a g s b=>?_
         refine Zbq (fun a w=>∃(j40:List Zk) (g:G),Jn 178 [(0,(pInt .i64 a0)),(5,(Zes.ptr a2)),(9,(pEq (ptrB bN13 0))),(11,(Zcu.ptr ({From:=(0:Int),Len:=(500:Int)}:Zc5))),(12,(pEq (ptrB bN16 0))),(15,(pRow Zbe 47 79 j40)),(16,(pInt .i64 x21)),(19,(pInt .i64 r32.1)),(80,(Zb1.sl.sl.pd a1)),(81,(pInt .i64 (a1.length:Int))),(82,(pInt .i64 x22)),(1001,(pPO (Zl0 bN13) bN16 56 r32.2))] a w g0 g (Zgg x21 x22 r32 (Zcz a1 n) j40=some z49)) ?_ ?_
         ·rintro a w ⟨j40,g,rfl,s,b,H1⟩
          unfold Zgg at H1
          refine Zl<|wp_seq ?_
          refine U4 [5,15,25,35,45,55,65,75,85,95,105,10,115] s b Za
           (Am 75 rfl<|U2 [0] (Zb0 rfl rfl U0 U6)<|U3) fun a g s b=>?_
          refine Zs (s.bool 11 rfl) H1 (fun H1=>?_) (fun H1=>?_)
          ·refine wp_exit<|Zbx ?_
           refine Zbg1 (by decide)<|Zbx ?_
           refine Zbx<|Zbx ?_
           exact Zcg<|⟨j40,x21,r32.2,g,rfl,(s.pi [0,1,2,3,5,6,12] rfl),b,Oi H1⟩
          ·refine wp_skip<|Zl ?_
           refine U4 [5,15,25,35,45,55,65,85,95,105,10,115] (L:=[(0,_),(5,_),(9,_),(11,_),(12,_),(15,_),(16,_),(19,_),(80,_),(81,_),(82,_),(1001,_)]) (s.pi [0,1,2,3,4,5,6,7,8,9,10,12] rfl) b Za
            (Am 75 rfl<|U2 [0] (Zb0 rfl rfl U0 U6)<|U3) fun a g s b=>?_
           refine Zs (s.bool 10 rfl) H1 (fun H1=>?_) (fun H1=>?_)
           ·refine U5 [5,15,25,35,45,55,20,75,85,95,105] (L:=[(0,_),(5,_),(9,_),(11,_),(12,_),(15,_),(16,_),(80,_),(81,_),(82,_),(1001,_)]) (s.pi [0,1,2,3,4,5,6,7,8,9,11] rfl) b Za
             (Am 65 rfl<|U2 [0] (Zbw rfl rfl U0 U6 rfl)<|Aa 0 rfl<|U3) fun a g s b=>?_
            exact Zbb<|⟨j40,(Zb1i.wrap (x21+(1:Int))),r32.2,g,rfl,(s.pi [0,1,2,3,4,5,6,7,8,9,10] rfl),b,H1⟩
           ·refine wp_skip<|Zbb ?_
            exact⟨j40,x21,r32.2,g,rfl,(s.pi [0,1,2,3,4,5,6,7,8,9,11] rfl),b,H1⟩
         ·refine Zs (s.bool 12 rfl) H1 (fun H1=>?_) (fun H1=>?_)
          ·obtain⟨e35,h36,H1⟩:=Zd H1;obtain⟨r37,h38,H1⟩:=Zd H1
           refine U4 [5,15,25,35,45,55,65,85,120,95,105,115,125] (L:=[(0,_),(5,_),(9,_),(11,_),(12,_),(15,_),(16,_),(18,_),(19,_),(80,_),(81,_),(82,_),(1001,_)]) (s.pi [0,1,2,3,4,5,6,7,8,9,10,11,13] rfl) b Za
            (Am 55 rfl<|Am 55 rfl<|U2 [0] (Zbv Zb2k rfl rfl (Opd.imp U0 (fun _ _ h=>Zdt h)))<|U2 [0] (Zei rfl rfl U0 U6 rfl)<|U2 [30,0] (Zbn Zb2k Zbmc rfl rfl (Opd.imp U0 (fun _ _ h=>Zdt h)) U1 h36)<|Al Zdd 0 rfl<|Am 75 rfl<|U2 [10,0] (Zt Zbrg (Zzn _ _ h38) rfl rfl (.cons U0 (.cons U1 .nil)))<|Am 0 rfl<|U2 [0] (Z7 rfl rfl U0 rfl)<|U2 [10] (Z7 rfl rfl U0 rfl)<|U2 [] (Zw0 20 rfl rfl)<|U2 [20,0] (Zci Zdd rfl rfl U1 U0)<|Aa 20 rfl<|U3) fun a g s b=>?_
           obtain⟨h39,H1⟩:=Zdr H1
           refine U5 [5,15,25,35,45,40,65,75,95,105,115,125] s b Za
            (Am 55 rfl<|Al Zdd 85 rfl<|U2 [0] (Zgm Zbf9 (xs:=[.tmp 113]) (.cons U0 .nil) (by decide) rfl rfl)<|U2 [20,0] (Zdg Zbf9 rfl rfl U0 U1 h39)<|Aa 0 rfl<|U3) fun a g s b=>?_
           exact⟨(x20++([r37.1]:List Zk)),g,rfl,(s.pi [0,1,2,3,4,5,6,7,8,9,10,11] rfl),b,H1⟩
          ·exact wp_skip<|⟨x20,g,rfl,(s.pi [0,1,2,3,4,5,6,8,9,10,11,13] rfl),b,H1⟩
      ·refine wp_exit<|Zbx ?_
       refine Zbx<|Zcg ?_
       exact⟨x20,x21,x23,g,rfl,(s.pi [0,1,2,3,5,6,11] rfl),b,Oi H1⟩
end Go.CL
namespace Go.CL
open Go
theorem wr {x:Int} (h1:-9223372036854775808≤x) (h2:x≤9223372036854775807):Zb1i.wrap x=x:=by
 rw[IntKind.wrap_i64];omega
theorem wr1 {i:Nat} (h:i<9223372036854775807):Zb1i.wrap ((i:Int)+1)=((i+1:Nat):Int):=by
 rw[wr (by omega) (by omega)];omega
theorem Zvs (n:Int):Zb1t.wrap n=n % 18446744073709551616:=by simp[Zb1r,Zb2i,Zb2a]
theorem wru {x:Int} (h1:0≤x) (h2:x<18446744073709551616):Zb1t.wrap x=x:=by rw[Zvs];omega
theorem wrm {i:Nat} (h:i<9223372036854775807) (h0:0<i):Zb1i.wrap ((i:Int)-1)=((i-1:Nat):Int):=by
 rw[wr (by omega) (by omega)];omega
theorem idxn {α:Type} (xs:List α) (i:Nat):idx xs (i:Int)=xs[i]?:=by
 unfold idx
 rw[if_pos (by omega)]
 simp
theorem Zc0 {α:Type} {xs:List α} {i:Nat} (h:i<xs.length):idx xs (i:Int)=some xs[i]:=by
 rw[idxn,Zb1g h]
theorem gd_t {β:Type} [Inhabited β] (x:Option β):gd true x=x:=rfl
theorem gd_f {β:Type} [Inhabited β] (x:Option β):gd false x=some default:=rfl
theorem Zkw {α:Type} {xs:List α} {l h:Nat} (h1:l≤h) (h2:h≤xs.length):cut xs (l:Int) (h:Int)=some ((xs.drop l).take (h-l)):=by
 unfold cut
 rw[if_pos (by omega)]
 simp
theorem Z23 {a b:ByteArray} (h:a.toList=b.toList):a=b:=by
 rw[_root_.Go.ByteArray.toList_eq,_root_.Go.ByteArray.toList_eq]at h
 exact ByteArray.ext (Zb3v.1 h)
theorem Zko {a b:ByteArray}:sEq a b=true↔a=b:=by
 unfold sEq
 constructor
 ·intro h;exact Z23 (by simpa using h)
 ·rintro rfl;simp
theorem Zh2 (a:ByteArray):sEq a a=true:=Zko.2 rfl
theorem Zge {a b:ByteArray}:sEq a b=false↔a≠b:=by
 cases h:sEq a b
 ·simp;intro e;rw[Zko.2 e]at h;cases h
 ·simp;exact Zko.1 h
theorem Zbhh:∀l:List UInt8,Op.bytesLess l l=false
 | []=>rfl
 | x::l=>by simp[Op.bytesLess,Zbhh l]
theorem Zba0:∀{a b c:List UInt8},Op.bytesLess a b=true→Op.bytesLess b c=true→Op.bytesLess a c=true
 | [],[],c,h,_=>by simp[Op.bytesLess]at h
 | [],y::b,[],_,k=>by simp[Op.bytesLess]at k
 | [],y::b,z::c,_,_=>rfl
 | x::a,[],c,h,_=>by simp[Op.bytesLess]at h
 | x::a,y::b,[],_,k=>by simp[Op.bytesLess]at k
 | x::a,y::b,z::c,h,k=>by
  simp only[Op.bytesLess,Zb3b,Zb15,decide_eq_true_eq,beq_iff_eq]at h k⊢
  rcases h with h | ⟨m,n⟩ <;> rcases k with k | ⟨k1,k2⟩
  ·exact .inl (UInt8.lt_trans h k)
  ·subst k1;exact .inl h
  ·subst m;exact .inl k
  ·subst m;subst k1;exact .inr ⟨rfl,Zba0 n k2⟩
theorem Zbiu:∀(a b:List UInt8),Op.bytesLess a b=false→a≠b→Op.bytesLess b a=true
 | [],[],_,h=>absurd rfl h
 | [],y::b,h,_=>by simp[Op.bytesLess]at h
 | x::a,[],_,_=>rfl
 | x::a,y::b,h,k=>by
  simp only[Op.bytesLess,Zb2q,decide_eq_false_iff_not,Bool.and_eq_false_iff]at h
  simp only[Op.bytesLess,Zb3b,Zb15,decide_eq_true_eq,beq_iff_eq]
  by_cases e:x=y
  ·subst e
   right
   refine⟨rfl,Zbiu a b ?_ (fun h'=>k (by rw[h']))⟩
   rcases h.2 with h | h
   ·simp at h
   ·exact h
  ·left
   rcases UInt8.lt_or_lt_of_ne e with h' | h'
   ·exact absurd h' h.1
   ·exact h'
theorem Zrj (a:ByteArray):sLt a a=false:=Zbhh _
theorem Zih {a b c:ByteArray} (h:sLt a b=true) (k:sLt b c=true):sLt a c=true:=Zba0 h k
theorem Zsm {a b:ByteArray} (h:sLt a b=false) (k:a≠b):sLt b a=true:=Zbiu _ _ h (fun e=>k (Z23 e))
theorem Z2b {a b:ByteArray} (h:sLt a b=true):sLt b a=false:=by
 cases k:sLt b a
 ·rfl
 ·have:=Zih h k
  rw[Zrj]at this;cases this
theorem Zrr {a b:ByteArray} (h:sLt a b=true):a≠b:=fun e=>by subst e;rw[Zrj]at h;cases h
def sec (c:List Int):List Int:=1::(c.length:Int)::(c++(Zb1m (61-c.length) 0++[1]))
def Zfl:List Int:=Zb1m 64 0
theorem Zbdt {c:List Int} (h:c.length≤61):(sec c).length=64:=by simp[sec];omega
theorem Zbmz {c:List Int} (h:c.length≤61):Ztm c=some (sec c,0):=by
 unfold Ztm
 rw[if_neg (by simp;omega),if_pos (by decide),if_pos ⟨by decide,by simp;omega⟩]
 congr 2
 have k:Zb2d.wrap (c.length:Int)=(c.length:Int):=by
  simp only[Zb1r,Zb2i,Zb2a,Zb1y,Zb1h,if_false]
  omega
 rw[k]
 have hs:setI (Zb1m 64 (0:Int)) [(0,(1:Int)),(1,(c.length:Int)),(63,(1:Int))]=1::(c.length:Int)::(Zb1m 61 0++[1]):=rfl
 rw[hs]
 show Zi0 _ 2 c=_
 unfold Zi0 sec
 rw[Zb28 2,Zb16,Zb16,List.drop_append,List.drop_replicate,Zb2o]
 rw[show c.length-61=0 by omega]
 rfl
theorem Z53 (n:Nat):∀(k i:Nat),i+k=n→n≤64→Zki (Zb1m n 0) (k+1) (i:Int)=some (.inr ())
 | 0,i,h,m=>by rw[Zki,if_neg (by simp;omega)]
 | k+1,i,h,m=>by
  rw[Zki,if_pos (by simp;omega),Zc0 (by simp;omega),Zb1e,if_neg (by simp),wr1 (by omega)]
  exact Z53 n k (i+1) (by omega) m
theorem Zbju {c:List Int} (h:c.length≤61):Zn4 (sec c)=some (c,true):=by
 have hl:=Zbdt h
 have e0:idx (sec c) (0:Int)=some 1:=rfl
 have e1:idx (sec c) (1:Int)=some (c.length:Int):=rfl
 have e63:idx (sec c) (63:Int)=some 1:=by
  rw[show (63:Int)=((63:Nat):Int) from rfl,idxn]
  have:(sec c)[63]?=(c++(Zb1m (61-c.length) 0++[1]))[61]?:=rfl
  rw[this,Zb14 h,Zb14 (by simp),Zb2o,show 61-c.length-(61-c.length)=0 by omega]
  rfl
 have k:(sec c).drop (2+c.length)=Zb1m (61-c.length) 0++[1]:=by
  unfold sec
  rw[Zb28,Zb16,Zb16,Zb3z]
 unfold Zn4
 rw[e1,Zb1e,e0,Zb1e]
 simp only[bne_self_eq_false,Zb1v,gd_t,Zb1u]
 rw[e63,Zb1e,wr (by omega) (by omega)]
 simp only[bne_self_eq_false,Zb1u]
 rw[if_neg (by simp;omega),wr (by omega) (by omega)]
 have c1:cut (sec c) (2+(c.length:Int)) 63=some (Zb1m (61-c.length) 0):=by
  rw[show (2+(c.length:Int))=((2+c.length:Nat):Int) by omega,show (63:Int)=((63:Nat):Int) from rfl,Zkw (by omega) (by omega),k,List.take_append_of_le_length (by simp;omega),Zb1w (by simp;omega)]
 have c2:cut (sec c) 2 (2+(c.length:Int))=some c:=by
  rw[show (2+(c.length:Int))=((2+c.length:Nat):Int) by omega,show (2:Int)=((2:Nat):Int) from rfl,Zkw (by omega) (by omega),show 2+c.length-2=c.length by omega]
  have:(sec c).drop 2=c++(Zb1m (61-c.length) 0++[1]):=rfl
  rw[this,Zb3y rfl]
 rw[c1,Zb1e,Zb2o]
 have:=Z53 (61-c.length) (61-c.length) 0 (by omega) (by omega)
 rw[show ((0:Nat):Int)=0 from rfl]at this
 rw[show (Zb1j (((61-c.length:Nat):Int)-(0:Int))+1)=61-c.length+1 by omega,this,Zb1e]
 simp only[]
 rw[c2,Zb1e,if_pos (by simp;omega)]
 rfl
theorem Zbkf {s:List Int} (hl:s.length=64) (h:s[63]?≠some 1):Zn4 s=some ([],false):=by
 have i0:idx s (0:Int)=some s[0]:=Zc0 (i:=0) (by omega)
 have i1:idx s (1:Int)=some s[1]:=Zc0 (i:=1) (by omega)
 have i63:idx s (63:Int)=some s[63]:=Zc0 (i:=63) (by omega)
 have k:s[63]≠1:=fun e=>h (by rw[Zb1g (by omega),e])
 unfold Zn4
 rw[i1,Zb1e,i0,Zb1e]
 by_cases m:s[0]=1
 ·rw[m]
  simp only[bne_self_eq_false,Zb1v,gd_t,Zb1u]
  rw[i63,Zb1e,if_pos]
  simp[k]
 ·have:(s[0] !=1)=true:=by simpa using m
  rw[this]
  simp only[Zb10,gd_f,Zb1e,Zb3n,if_true]
theorem Zbav:Zfl[63]?≠some 1:=by decide
theorem Zvw:Zfl.length=64:=by decide
def torn (n:Nat) (s:List Int):List Int:=Zi0 Zfl 0 (s.take n)
theorem Zbk6 {n:Nat} {s:List Int} (h:s.length=64):(torn n s).length=64:=by
 unfold torn;rw[Z60 (by rw[Zvw,Zb2e];omega),Zvw]
theorem Zbar {s:List Int} (h:s.length=64):torn 64 s=s:=by
 unfold torn Zi0
 rw[Zb1w (show s.length≤64 by omega)]
 have:Zfl.drop (0+s.length)=[]:=Zb1n (by rw[h];decide)
 rw[this];simp
theorem Zbki {n:Nat} {s:List Int} (h:s.length=64) (hn:n<64):(torn n s)[63]?≠some 1:=by
 unfold torn Zi0
 rw[Zb30,Zb2r,Zb3o,Zb2e,show min n s.length=n by omega,Zb14 (by simp;omega),Zb2e,show min n s.length=n by omega,Zb2y,show n+(63-n)=63 by omega]
 decide
theorem dok {d:Ze} {i:Nat} (h:d.down=false) (hi:i<d.firm.length):Znz d (i:Int)=some 0:=by
 unfold Znz
 rw[h,if_neg (by simp),if_neg (by simp;omega)]
theorem Z28 {d:Ze} {i:Int} {x:List Int} (h:∀w∈d.pending,w.at_≠i) (m:d.pending.length≤100000):∀n:Nat,n≤d.pending.length→Zg7 d i (n+1) x ((n:Int)-1)=some (.inr x)
 | 0,_=>by rw[Zg7,if_neg (by simp)]
 | n+1,hn=>by
  have k:n<d.pending.length:=by omega
  rw[Zg7,if_pos (by simp),show ((n+1:Nat):Int)-1=(n:Int) by omega,Zc0 k]
  simp only[Zb1e]
  rw[if_neg (by simpa using h _ (Zb1p k)),wr (by omega) (by omega)]
  exact Z28 h m n (by omega)
theorem Z1t {d:Ze} {i:Nat} (m:d.down=false) (k:i<d.firm.length) (h:∀w∈d.pending,w.at_≠(i:Int)) (n:d.pending.length≤100000):Zlk d (i:Int)=some (d.firm[i],0):=by
 unfold Zlk
 rw[dok m k,Zb1e,if_neg (by simp),wr (by omega) (by omega),show (Zb1j ((d.pending.length:Int)-1+1-0)+1)=d.pending.length+1 by omega,Z28 h n _ (Zb18 _),Zb1e]
 simp only[]
 rw[Zc0 k]
 rfl
def Zsx (d:Ze) (i:Nat) (s:List Int):Ze:=⟨d.firm,d.pending++[⟨(i:Int),s⟩],if 0<d.left then d.left-1 else d.left,decide (d.left=1),Zb1i.wrap (d.writes+1)⟩
theorem Z6m {d:Ze} {i:Nat} {s:List Int} (k:d.down=false) (m:i<d.firm.length) (p:d.pending.length≤100000) (q:0≤d.left) (h:d.left≤9223372036854775807) :
  Zkt d (i:Int) s=some (if d.left=1 then 14 else 0,Zsx d i s):=by
 obtain⟨firm,pending,left,down,writes⟩:=d
 simp only at k m p q h
 subst k
 unfold Zkt
 rw[dok rfl m,Zb1e,if_neg (by simp),if_pos (by simp;omega)]
 simp only[]
 by_cases n:0<left
 ·rw[if_pos (by simpa using n),wr (show -9223372036854775808≤left-1 by omega) (by omega)]
  unfold Zik Zsx
  simp only[if_pos n]
  by_cases h:left=1
  ·subst h;rfl
  ·have:(left-1==0)=false:=by simp;omega
   rw[this,if_neg h]
   simp[h]
 ·have r:left=0:=by omega
  subst r
  rw[if_neg (by simp)]
  unfold Zik Zsx
  rfl
def Zl4 (ws:List Zo) (f:List (List Int)):List (List Int):=ws.foldl (fun f w=>f.set w.at_.toNat w.s) f
theorem Z34:∀(ws:List Zo) (f:List (List Int)),(Zl4 ws f).length=f.length
 | [],_=>rfl
 | w::ws,f=>(Z34 ws _).trans (by simp)
def InR (n:Nat) (ws:List Zo):Prop:=∀w∈ws,0≤w.at_∧w.at_<(n:Int)
theorem Zbgx {α:Type} {xs:List α} {i:Int} (k:0≤i) (h1:i<xs.length):∃x,idx xs i=some x∧xs[i.toNat]?=some x:=by
 have h:i.toNat<xs.length:=by omega
 refine⟨xs[i.toNat],?_,Zb1g h⟩
 have:=Zc0 h
 rwa [Zb3j k]at this
theorem Z4s {d:Ze} (r:d.pending.length≤100000):∀(n i:Nat) (x:Ze),i+n=d.pending.length→InR x.firm.length (d.pending.drop i)→Zg9 d (n+1) (i:Int) x=some {x with firm:=Zl4 (d.pending.drop i) x.firm}
 | 0,i,x,h,_=>by
  rw[Zg9,if_neg (by simp;omega),Zb1n (by omega)]
  rfl
 | n+1,i,x,h,m=>by
  have p:i<d.pending.length:=by omega
  have k:=Zb1l p
  have q:=m d.pending[i] (by rw[k];exact Zb17 ..)
  obtain⟨y,e1,e2⟩:=Zbgx q.1 q.2
  rw[Zg9,if_pos (by simp;omega),Zc0 p,wr1 (by omega)]
  simp only[Zb1e]
  rw[e1,Zb1e,Z4s r n (i+1) _ (by omega) (fun w s=>by
   have:=m w (by rw[k];exact Zb2f _ s)
   simpa using this),k]
  rfl
theorem Z8l {d:Ze} (h:d.down=false) (k:d.pending.length≤100000) (hr:InR d.firm.length d.pending):Zlo d=some (0,{d with firm:=Zl4 d.pending d.firm,pending:=[]}):=by
 unfold Zlo
 have:=Z4s k d.pending.length 0 d (by omega) (by rwa [Zb1z])
 rw[show ((0:Nat):Int)=0 from rfl,Zb1z]at this
 rw[h,if_neg (by simp),show (Zb1j ((d.pending.length:Int)-(0:Int))+1)=d.pending.length+1 by omega,this]
 simp[h]
def kn (kept:List Int) (i:Nat):Nat:=match kept[i]? with | some x=>(min (max x 0) 64).toNat | none=>0
theorem Zbrt (kept:List Int) (i:Nat):kn kept i≤64:=by
 unfold kn
 split <;> omega
def Zkh (kept:List Int):Nat→List Zo→List (List Int)→List (List Int)
 | _,[],f=>f
 | i,w::ws,f=>Zkh kept (i+1) ws (f.set w.at_.toNat (Zi0 (f[w.at_.toNat]?.getD []) 0 (w.s.take (kn kept i))))
theorem Zxx (kept:List Int):∀(ws:List Zo) (i:Nat) (f:List (List Int)),(Zkh kept i ws f).length=f.length
 | [],_,_=>rfl
 | w::ws,i,f=>(Zxx kept ws (i+1) _).trans (by simp)
theorem Z1l {d:Ze} {kept:List Int} (t:d.pending.length≤100000) (hs:∀w∈d.pending,w.s.length=64):∀(n i:Nat) (x:Ze),i+n=d.pending.length→InR x.firm.length (d.pending.drop i)→Zeh d kept (n+1) (i:Int) x=some {x with firm:=Zkh kept i (d.pending.drop i) x.firm}
 | 0,i,x,h,_=>by
  rw[Zeh,if_neg (by simp;omega),Zb1n (by omega)]
  rfl
 | n+1,i,x,h,p=>by
  have m:i<d.pending.length:=by omega
  have k:=Zb1l m
  have q:=p d.pending[i] (by rw[k];exact Zb17 ..)
  have z:=hs _ (Zb1p m)
  obtain⟨y,e1,e2⟩:=Zbgx q.1 q.2
  have key:∀j:Int,0≤j→j≤64→j.toNat=kn kept i→Zig (i:Int) x d.pending[i] (Zeh d kept (n+1)) j=some {x with firm:=Zkh kept i (d.pending.drop i) x.firm}:=by
   intro j j0 j1 jk
   unfold Zig
   have u:cut (d.pending[i]).s 0 j=some ((d.pending[i]).s.take j.toNat):=by
    have:=Zkw (xs:=(d.pending[i]).s) (l:=0) (h:=j.toNat) (by omega) (by omega)
    rw[show ((0:Nat):Int)=0 from rfl,Zb3j j0]at this
    simpa using this
   rw[e1,Zb1e,if_pos ⟨j0,j1,by decide⟩,u,Zb1e,if_pos ⟨by simp;omega,by simp;omega,by decide⟩,wr1 (by omega),Z1l t hs n (i+1) _ (by omega) (fun w v=>by
    have:=p w (by rw[k];exact Zb2f _ v)
    simpa using this),k]
   simp only[Zkh,e2,Zb29,jk]
  rw[Zeh,if_pos (by simp;omega),Zc0 m]
  simp only[Zb1e]
  by_cases r:i<kept.length
  ·rw[if_pos (by simp;omega),Zc0 r,Zb1e]
   exact key _ (by omega) (by omega) (by unfold kn;rw[Zb1g r])
  ·rw[if_neg (by simp;omega)]
   exact key 0 (by omega) (by omega) (by unfold kn;rw[Zb12 (by omega)];rfl)
theorem Z6s {d:Ze} {kept:List Int} (h:d.pending.length≤100000) (hs:∀w∈d.pending,w.s.length=64) (hr:InR d.firm.length d.pending):Zkr d kept=some ⟨Zkh kept 0 d.pending d.firm,[],0,false,d.writes⟩:=by
 unfold Zkr
 have:=Z1l (kept:=kept) h hs d.pending.length 0 d (by omega) (by rwa [Zb1z])
 rw[show ((0:Nat):Int)=0 from rfl,Zb1z]at this
 rw[show (Zb1j ((d.pending.length:Int)-(0:Int))+1)=d.pending.length+1 by omega,this]
 rfl
def need (n:Nat):Nat:=max ((n+59)/60) 1
theorem Zbeg {n:Nat} (h:n≤1000000):Zn8 (n:Int)=some ((need n:Nat):Int):=by
 unfold Zn8 need
 rw[wr (show -9223372036854775808≤(n:Int)+60 by omega) (by omega),wr (show -9223372036854775808≤(n:Int)+60-1 by omega) (by omega)]
 have:Int.tdiv ((n:Int)+60-1) 60=(((n+59)/60:Nat):Int):=by
  rw[show (n:Int)+60-1=((n+59:Nat):Int) by omega,show (60:Int)=((60:Nat):Int) from rfl]
  exact Int.ofNat_tdiv _ _
 rw[this,wr (by omega) (by omega)]
 congr 1
 omega
def Zm2 (b:List Int) (i:Nat):List Int:=(b.drop (60*i)).take 60
def sect (b:List Int) (i:Nat):List Int:=sec (((need b.length-1-i:Nat):Int)::Zm2 b i)
def secs (b:List Int):List (List Int):=(List.range (need b.length)).map (sect b)
theorem Zl6 (b:List Int):(secs b).length=need b.length:=by simp[secs]
theorem Zs9 (b:List Int) (i:Nat):(Zm2 b i).length=min 60 (b.length-60*i):=by simp[Zm2]
theorem Zbfu (b:List Int) (i:Nat):b.take (60*i)++Zm2 b i=b.take (60*(i+1)):=by
 rw[Nat.mul_add,List.take_add];rfl
theorem Zu0 (b:List Int) (i:Nat):(sect b i).length=64:=Zbdt (by simp[Zs9];omega)
abbrev A0:Zc5:={From:=0,Len:=500}
theorem Zxz (n:Nat):1≤need n:=Nat.le_max_right ..
theorem Zbah {d:Ze} {b:List Int} {p i n:Nat} {x:Int} (g:d.down=false) (u:d.pending=[]) (hf:d.firm.length=500) (j:need b.length≤64) (o:i<need b.length) (h5:p+i<500) (hs:d.firm[p+i]?=some (sect b i)) (v:i=0∨x=((need b.length-1:Nat):Int)) :
  Zfz d A0 (p:Int) (n+1) (b.take (60*i)) x (i:Int)=if i+1=need b.length then some (.inl (b,((need b.length:Nat):Int),0))else Zfz d A0 (p:Int) n (b.take (60*(i+1))) ((need b.length-1:Nat):Int) ((i+1:Nat):Int):=by
 have m:=Zs9 b i
 have r:b.length≤60*need b.length∧(60*(i+1)<b.length→i+1<need b.length)∧(i+1<need b.length→60*(i+1)<b.length)∧(0<i→60*i<b.length):=by unfold need at *;omega
 obtain⟨y,a⟩:∃y,y=need b.length:=⟨_,rfl⟩
 rw[←a]at j o v r⊢
 have q:p+i<d.firm.length:=by omega
 have c:d.firm[p+i]=sect b i:=by rw[Zb1g q]at hs;exact Zb2l.inj hs
 rw[Zfz,wr (show -9223372036854775808≤(p:Int)+(i:Int) by omega) (by omega),if_pos (by simp;omega)]
 simp only[Zb3p]
 rw[wr (show -9223372036854775808≤(p:Int) by omega) (by omega),wr (show -9223372036854775808≤(p:Int)+(i:Int) by omega) (by omega),show (p:Int)+(i:Int)=((p+i:Nat):Int) by omega,Z1t g q (by rw[u];intro w h;cases h) (by rw[u];simp),Zb1e,if_neg (by simp),c]
 have e:Zn4 (sect b i)=some (((y-1-i:Nat):Int)::Zm2 b i,true):=by
  rw[a];exact Zbju (by simp[Zs9];omega)
 have A:idx (((y-1-i:Nat):Int)::Zm2 b i) (0:Int)=some ((y-1-i:Nat):Int):=rfl
 rw[e,Zb1e,if_neg (by simp;omega)]
 simp only[]
 rw[A,Zb1e]
 have f:∀z:Int,z=((y-1:Nat):Int)→Zo8 (b.take (60*i)) (i:Int) (((y-1-i:Nat):Int)::Zm2 b i,true) ((y-1-i:Nat):Int) (Zfz d A0 (p:Int) n) z=if i+1=y then some (.inl (b,(y:Int),0))else Zfz d A0 (p:Int) n (b.take (60*(i+1))) ((y-1:Nat):Int) ((i+1:Nat):Int):=by
  rintro z rfl
  unfold Zo8
  simp only[]
  rw[wr (show -9223372036854775808≤((y-1-i:Nat):Int) by omega) (by omega),wr (show -9223372036854775808≤((y-1:Nat):Int)-(i:Int) by omega) (by omega)]
  have B:cut (((y-1-i:Nat):Int)::Zm2 b i) 1 (((((y-1-i:Nat):Int)::Zm2 b i).length:Nat):Int)=some (Zm2 b i):=by
   have:=Zkw (xs:=((y-1-i:Nat):Int)::Zm2 b i) (l:=1) (h:=(((y-1-i:Nat):Int)::Zm2 b i).length) (by simp) (Zb18 _)
   rw[show ((1:Nat):Int)=1 from rfl]at this
   rw[this,Zb16,Zb1z]
   congr 1
   exact Zb1w (by simp)
  have k:¬((((((y-1-i:Nat):Int)!=((y-1:Nat):Int)-(i:Int))||decide ((63:Int)<((y-1-i:Nat):Int)))||(decide ((0:Int)<((y-1-i:Nat):Int))&&((((((y-1-i:Nat):Int)::Zm2 b i).length:Nat):Int)!=61)))||((decide ((0:Int)<(i:Int))&&(((y-1-i:Nat):Int)==0))&&((((((y-1-i:Nat):Int)::Zm2 b i).length:Nat):Int)==1)))=true:=by
   simp only[Zb3b,Zb15,bne_iff_ne,ne_eq,decide_eq_true_eq,beq_iff_eq,Zb2m,m]
   omega
  rw[if_neg k,B,Zb1e,if_pos (by simp[m];omega),Zbfu]
  by_cases s:i+1=y
  ·rw[if_pos (by simp;omega),if_pos s,wr1 (by omega),Zb1w (by omega),s]
  ·rw[if_neg (by simp;omega),if_neg s,wr1 (by omega)]
 by_cases t:i=0
 ·rw[if_pos (by simp[t])]
  refine f _ ?_
  rw[wr (by omega) (by omega),t];rfl
 ·rw[if_neg (by simp;omega)]
  exact f x (v.resolve_left t)
theorem Z2q {d:Ze} {b:List Int} {p:Nat} (h:d.down=false) (k:d.pending=[]) (m:d.firm.length=500) (q:need b.length≤64):∀j n:Nat,j<need b.length→p+j≤500→(∀i,i<j→d.firm[p+i]?=some (sect b i)) →
  ∃x:Int,(j=0∨x=((need b.length-1:Nat):Int))∧Zfz d A0 (p:Int) (n+j) [] 0 0=Zfz d A0 (p:Int) n (b.take (60*j)) x (j:Int)
 | 0,n,_,_,_=>⟨0,.inl rfl,rfl⟩
 | j+1,n,hj,h5,hs=>by
  obtain⟨x,r,e⟩:=Z2q h k m q j (n+1) (by omega) (by omega) (fun i hi=>hs i (by omega))
  refine⟨((need b.length-1:Nat):Int),.inr rfl,?_⟩
  rw[show n+(j+1)=n+1+j by omega,e,Zbah h k m q (by omega) (by omega) (hs j (by omega)) r,if_neg (by omega)]
theorem Zbpm {d:Ze} {b:List Int} {p:Nat} (h:d.down=false) (k:d.pending=[]) (m:d.firm.length=500) (n:need b.length≤64) (h5:p+need b.length≤500) (hs:∀i,i<need b.length→d.firm[p+i]?=some (sect b i)) :
  Zi7 d A0 (p:Int)=some (b,((need b.length:Nat):Int),0):=by
 have h1:=Zxz b.length
 unfold Zi7
 rw[Zb37,wr (by omega) (by omega)]
 obtain⟨x,q,e⟩:=Z2q h k m n (need b.length-1) (500-p+1-(need b.length-1)) (by omega) (by omega) (fun i hi=>hs i (by omega))
 rw[show 500-p+1-(need b.length-1)+(need b.length-1)=500-p+1 by omega]at e
 rw[show (Zb1j ((500:Int)-(p:Int))+1)=500-p+1 by omega,e,show 500-p+1-(need b.length-1)=(500-p-(need b.length-1))+1 by omega,Zbah h k m n (by omega) (by omega) (hs _ (by omega)) q,if_pos (by omega)]
 rfl
theorem Z8x {d:Ze} {b:List Int} {p j:Nat} (n:d.down=false) (m:d.pending=[]) (t:d.firm.length=500) (u:need b.length≤64) (v:j<need b.length) (y:p+j≤500) (hs:∀i,i<j→d.firm[p+i]?=some (sect b i)) (q:p+j=500∨∃s,d.firm[p+j]?=some s∧s.length=64∧s[63]?≠some 1) :
  Zi7 d A0 (p:Int)=some ([],0,0):=by
 unfold Zi7
 rw[Zb37,wr (by omega) (by omega)]
 obtain⟨x,hx,e⟩:=Z2q n m t u j (500-p-j+1) v y hs
 rw[show 500-p-j+1+j=500-p+1 by omega]at e
 rw[show (Zb1j ((500:Int)-(p:Int))+1)=500-p+1 by omega,e,Zfz,wr (show -9223372036854775808≤(p:Int)+(j:Int) by omega) (by omega)]
 rcases q with q | ⟨s,e1,e2,e3⟩
 ·rw[if_neg (by simp;omega)];rfl
 ·have k:p+j<d.firm.length:=(Zb25.1 e1).1
  have r:d.firm[p+j]=s:=by rw[Zb1g k]at e1;exact Zb2l.inj e1
  rw[if_pos (by simp;omega)]
  simp only[Zb3p]
  rw[wr (show -9223372036854775808≤(p:Int) by omega) (by omega),wr (show -9223372036854775808≤(p:Int)+(j:Int) by omega) (by omega),show (p:Int)+(j:Int)=((p+j:Nat):Int) by omega,Z1t n k (by rw[m];intro w h;cases h) (by rw[m];simp),Zb1e,if_neg (by simp),r,Zbkf e2 e3,Zb1e,if_pos (by simp)]
  rfl
def flat (es:List (List Int)):List (List Int):=es.flatMap secs
theorem Zrh (b:List Int) (es:List (List Int)):flat (b::es)=secs b++flat es:=rfl
theorem Z1y (es fs:List (List Int)):flat (es++fs)=flat es++flat fs:=by simp[flat]
theorem Z17 (b:List Int):flat [b]=secs b:=by simp[flat]
theorem Z5n:∀es:List (List Int),es.length≤(flat es).length
 | []=>Zb3e _
 | b::es=>by
  have:=Z5n es
  have h:=Zxz b.length
  rw[Zrh,Zb1s,Zl6,Zb2m];omega
theorem Z2p {b:List Int} {i:Nat} (h:i<need b.length):(secs b)[i]?=some (sect b i):=by
 unfold secs
 rw[Zb20,List.getElem?_range h];rfl
theorem Z6p {d:Ze} {tl:List (List Int)} (q:d.down=false) (r:d.pending=[]) (h:d.firm.length=500):∀(es:List (List Int)) (pre:List (List Int)) (acc:List (List Int)) (n:Nat),(∀b∈es,need b.length≤64)→d.firm=pre++(flat es++tl)→acc.length+es.length≤500→es.length≤n→Zi7 d A0 ((pre.length+(flat es).length:Nat):Int)=some ([],0,0) →
  Zkc d A0 (n+1) acc (pre.length:Int)=some (.inl (acc++es,((pre.length+(flat es).length:Nat):Int),0))
 | [],pre,acc,n,_,_,_,_,hs=>by
  have hs:Zi7 d A0 (pre.length:Int)=some ([],0,0):=hs
  rw[Zkc,hs,Zb1e,if_pos (by simp)]
  simp[flat]
 | b::es,pre,acc,n,s,k,w,t,hs=>by
  have u:=congrArg Zb3f k
  rw[h,Zrh]at u
  simp only[Zb1s,Zl6]at u
  have h1:=Zxz b.length
  rw[Zrh,Zb1s,Zl6]at hs
  have p:Zi7 d A0 (pre.length:Int)=some (b,((need b.length:Nat):Int),0):=by
   refine Zbpm q r h (s b (Zb17 ..)) (by omega) fun i v=>?_
   rw[k,Zrh,Zb23,Zb14 (by omega),Nat.add_sub_cancel_left,Zb26 (by rw[Zl6];exact v),Z2p v]
  obtain⟨n,rfl⟩:∃m,n=m+1:=⟨n-1,by simp at t;omega⟩
  simp only[Zb2m]at w t
  have y:Zb1i.wrap ((pre.length:Int)+((need b.length:Nat):Int))=(((pre++secs b).length:Nat):Int):=by
   rw[wr (by omega) (by omega),Zb1s,Zl6];omega
  rw[Zkc,p,Zb1e,if_neg (by simp;omega),if_pos (by simp;omega),y]
  have:=Z6p (tl:=tl) q r h es (pre++secs b) (acc++[b]) n (fun x z=>s x (Zb2f _ z)) (by rw[k,Zrh];simp) (by simp;omega) (by omega) (by
   rw[Zb1s,Zl6,Zb3i];exact hs)
  simp only[]
  rw[this,Zrh]
  simp only[Zb1s,Zl6,Zb23,List.singleton_append,Zb3i]
theorem Zbnm {d:Ze} {tl:List (List Int)} {es:List (List Int)} (k:d.down=false) (n:d.pending=[]) (h:d.firm.length=500) (p:∀b∈es,need b.length≤64) (m:d.firm=flat es++tl) (hs:Zi7 d A0 (((flat es).length:Nat):Int)=some ([],0,0)):Zs6 d A0=some (es,(((flat es).length:Nat):Int),0):=by
 have r:=Z5n es
 have q:=congrArg Zb3f m
 rw[h,Zb1s]at q
 unfold Zs6 Zll Zvr Zow
 rw[k,h]
 have:=Z6p k n h es [] [] 501 p (by simpa using m) (by simp;omega) (by omega) (by simpa using hs)
 simp only[List.length_nil,Zb3o,Zb2r]at this
 rw[show ((0:Nat):Int)=0 from rfl]at this
 simp only[Zb1e,Zb1h,if_false]
 rw[show (Zb1j (500:Int)+2)=501+1 by decide,this]
 rfl
theorem Z3a:∀(ws:List Zo) (f:List (List Int)),(∀w∈ws,w.s=Zfl)→∀j:Nat,(Zl4 ws f)[j]?=if (∃w∈ws,w.at_.toNat=j)∧j<f.length then some Zfl else f[j]?
 | [],f,_,j=>by simp[Zl4]
 | w::ws,f,h,j=>by
  have ih:=Z3a ws (f.set w.at_.toNat w.s) (fun x k=>h x (Zb2f _ k)) j
  have r:=h w (Zb17 ..)
  have e:Zl4 (w::ws) f=Zl4 ws (f.set w.at_.toNat w.s):=rfl
  rw[e,ih,List.length_set,r]
  by_cases m:(∃w∈ws,w.at_.toNat=j)∧j<f.length
  ·rw[if_pos m,if_pos ⟨m.1.imp fun x k=>⟨List.mem_cons_of_mem _ k.1,k.2⟩,m.2⟩]
  ·rw[if_neg m,List.getElem?_set]
   by_cases n:w.at_.toNat=j
   ·rw[if_pos n]
    by_cases p:j<f.length
    ·rw[if_pos (by omega),if_pos ⟨⟨w,Zb17 ..,n⟩,p⟩]
    ·rw[if_neg (by omega),if_neg (fun h=>p h.2),Zb12 (by omega)]
   ·rw[if_neg n,if_neg]
    rintro⟨⟨x,k,q⟩,p⟩
    rcases Zb33.1 k with rfl | k
    ·exact n q
    ·exact m ⟨⟨x,k,q⟩,p⟩
theorem Zbjr (s:List Int):Zty s=some (s==Zfl):=rfl
structure Zbl2 (f:List (List Int)) (p i:Nat) (some_:Bool) (x:Ze):Prop where
 firm:x.firm=f
 up:x.down=false
 left:x.left=0
 len:x.pending.length≤i
 ws:∀w∈x.pending,w.s=Zfl∧(p:Int)≤w.at_∧w.at_<((p+i:Nat):Int)
 all:∀k,k<i→f[p+k]?=some Zfl∨∃w∈x.pending,w.at_=((p+k:Nat):Int)
 none_:some_=false→x.pending=[]
theorem Zy4 {f:List (List Int)} {p n:Nat} (v:f.length=500) (u:p+n=500):∀(m i:Nat) (s:Bool) (x:Ze),i+m=n→Zbl2 f p i s x→∃s' x',Zia (p:Int) (n:Int) (m+1) s (i:Int) x=some (.inr (s',x'))∧Zbl2 f p n s' x'
 | 0,i,s,x,h,q=>by
  rw[Zia,if_neg (by simp;omega)]
  exact⟨s,x,rfl,by rw[show n=i by omega];exact q⟩
 | m+1,i,s,x,h,q=>by
  have j:x.firm.length=500:=by rw[q.firm,v]
  have t:p+i<x.firm.length:=by omega
  have b:=q.len
  rw[Zia,if_pos (by simp;omega),wr (show -9223372036854775808≤(p:Int)+(i:Int) by omega) (by omega),show (p:Int)+(i:Int)=((p+i:Nat):Int) by omega,Z1t q.up t (fun w r=>by have:=(q.ws w r).2.2;omega) (by omega),Zb1e,if_neg (by simp)]
  simp only[]
  rw[Zbjr,Zb1e]
  have z:f[p+i]?=some x.firm[p+i]:=by rw[←q.firm,Zb1g t]
  unfold Zpn
  rw[wr1 (by omega)]
  by_cases y:x.firm[p+i]=Zfl
  ·rw[y,if_pos (by simp)]
   exact Zy4 v u m (i+1) s x (by omega) ⟨q.firm,q.up,q.left,by omega,fun w r=>⟨(q.ws w r).1,(q.ws w r).2.1,by have:=(q.ws w r).2.2;omega⟩,fun k c=>by
    by_cases e:k=i
    ·subst e;rw[z,y];exact .inl rfl
    ·exact q.all k (by omega),q.none_⟩
  ·rw[if_neg (by simpa using y)]
   have a:setI (Zb1m 64 (0:Int)) []=Zfl:=rfl
   rw[a,Z6m q.up t (by omega) (by rw[q.left];decide) (by rw[q.left];decide),Zb1e,if_neg (by simp[q.left])]
   refine Zy4 v u m (i+1) true _ (by omega) ⟨q.firm,by simp[Zsx,q.left],by simp[Zsx,q.left],by simp[Zsx];omega,fun w r=>?_,fun k c=>?_,fun h=>by cases h⟩
   ·rcases List.mem_append.1 r with r | r
    ·exact⟨(q.ws w r).1,(q.ws w r).2.1,by have:=(q.ws w r).2.2;omega⟩
    ·rw[Zb2h.1 r];exact⟨rfl,by simp;omega,by simp;omega⟩
   ·by_cases e:k=i
    ·subst e;exact .inr ⟨⟨((p+k:Nat):Int),Zfl⟩,List.mem_append_right _ (by simp),rfl⟩
    ·rcases q.all k (by omega)with h | ⟨w,d,g⟩
     ·exact .inl h
     ·exact .inr ⟨w,List.mem_append_left _ d,g⟩
theorem Zbm5 {d:Ze} {p n:Nat} (i:d.down=false) (z:d.pending=[]) (a:d.firm.length=500) (l:d.left=0) (c:p+n=500):∃u,Zs7 d (p:Int) (n:Int)=some (0,⟨d.firm.take p++Zb1m n Zfl,[],0,false,u⟩):=by
 obtain⟨s,x,e,m⟩:=Zy4 (f:=d.firm) a c n 0 false d (by omega) ⟨rfl,i,l,(by rw[z];simp),(by rw[z];intro w h;cases h),fun k hk=>(by omega),fun _=>z⟩
 rw[show ((0:Nat):Int)=0 from rfl]at e
 have q:Zl4 x.pending d.firm=d.firm.take p++Zb1m n Zfl:=by
  apply List.ext_getElem?
  intro j
  rw[Z3a _ _ (fun w r=>(m.ws w r).1),List.getElem?_append,Zb2e,a]
  by_cases o:j<p
  ·rw[if_neg,if_pos (by omega),List.getElem?_take,if_pos o]
   rintro⟨⟨w,r,rfl⟩,_⟩
   have:=(m.ws w r).2.1;omega
  ·rw[if_neg (by omega:¬j<min p 500),show j-min p 500=j-p by omega,List.getElem?_replicate]
   by_cases B:j<500
   ·rw[if_pos (by omega:j-p<n)]
    rcases m.all (j-p) (by omega)with h | ⟨w,t,v⟩
    ·rw[show p+(j-p)=j by omega]at h
     rw[h];split <;> rfl
    ·rw[if_pos ⟨⟨w,t,by rw[v];omega⟩,by omega⟩]
   ·rw[if_neg (by omega:¬j-p<n),if_neg (fun h=>by omega),Zb12 (by omega)]
 have y:InR x.firm.length x.pending:=fun w r=>by
  have:=m.ws w r
  rw[m.firm,a];omega
 have b:=m.len
 unfold Zs7
 rw[show (Zb1j ((max (n:Int) 0)-(0:Int))+1)=n+1 by omega,e,Zb1e]
 simp only[]
 obtain⟨firm,pending,left,down,writes⟩:=x
 have t:=m.firm;have v:=m.up;have g:=m.left
 simp only at t v g q y b
 subst t;subst v;subst g
 cases s with
 | false =>
  have A:pending=[]:=m.none_ rfl
  subst A
  rw[if_pos (by rfl)]
  exact⟨writes,by rw[←q];rfl⟩
 | true =>
  rw[if_neg (by simp),Z8l rfl (show pending.length≤100000 by omega) y,Zb1e]
  exact⟨writes,by simp only[q]⟩
theorem Zbcb {d:Ze} {tl:List (List Int)} {es:List (List Int)} (q:d.down=false) (r:d.pending=[]) (h:d.firm.length=500) (s:d.left=0) (t:∀b∈es,need b.length≤64) (k:d.firm=flat es++tl) (hs:Zi7 d A0 (((flat es).length:Nat):Int)=some ([],0,0)) :
  ∃u,Zs3 d A0=some (es,0,(⟨(),A0,(((flat es).length:Nat):Int)⟩,⟨flat es++Zb1m (500-(flat es).length) Zfl,[],0,false,u⟩)):=by
 have m:=congrArg Zb3f k
 rw[h,Zb1s]at m
 obtain⟨u,v⟩:=Zbm5 (p:=(flat es).length) (n:=500-(flat es).length) q r h s (by omega)
 refine⟨u,?_⟩
 unfold Zs3
 rw[Zbnm q r h t k hs,Zb1e,if_neg (by simp)]
 simp only[Zb3p]
 rw[wr (by omega) (by omega),wr (by omega) (by omega),show (500:Int)-(((flat es).length:Nat):Int)=((500-(flat es).length:Nat):Int) by omega,v,Zb1e,if_neg (by simp)]
 have:d.firm.take (flat es).length=flat es:=by rw[k];exact Zb3y rfl
 rw[this]
def NANB:Nat:=9221120237041090561
def keyf (b:Nat):Int:=if isn b then 18444492273895866369 else if TOP≤b then 18446744073709551615-b else b+9223372036854775808
def Zcs (b:Nat):Nat:=if isn b then NANB else b
theorem Z51 {b:Nat} (k:b<18446744073709551616):fneq b b=decide (isn b):=by
 unfold fneq
 show (Ieee.double.order b b !=some .eq)=_
 by_cases h:isn b
 ·rw[Z6q (.inl h)];simp[h]
 ·obtain⟨o,m,_,n⟩:=Zxv k k h h
  rw[m,n.2 rfl];simp[h]
theorem Zng {b:Nat} (k:b<18446744073709551616):Zh5 b=some (Zcs b):=by
 unfold Zh5 Zcs
 rw[Z51 k]
 by_cases h:isn b
 ·simp[h,Zxm,NANB]
 ·simp[h]
theorem Z5h {b:Nat} (hb:b<18446744073709551616):(bAnd .u64 (b:Int) 9223372036854775808 !=0)=decide (TOP≤b):=by
 have m:(BitVec.ofInt 64 (b:Int) &&& BitVec.ofInt 64 9223372036854775808).toNat=b &&& 9223372036854775808:=by
  rw[BitVec.toNat_and]
  have e1:(BitVec.ofInt 64 (b:Int)).toNat=b:=by
   rw[show BitVec.ofInt 64 (b:Int)=BitVec.ofNat 64 b from rfl]
   simp;omega
  rw[e1];rfl
 have n:b &&& 9223372036854775808=(b.testBit 63).toNat*9223372036854775808:=by
  apply Nat.eq_of_testBit_eq
  intro i
  rw[Nat.testBit_and,show (9223372036854775808:Nat)=2^63 from rfl,Zb2u]
  by_cases k:63=i
  ·subst k
   cases b.testBit 63
   ·simp
   ·rw[Zb3c,Zb3u,Zb2u];simp
  ·cases b.testBit 63
   ·simp[k]
   ·rw[Zb3c,Zb3u,Zb2u];simp[k]
 have p:b.testBit 63=decide (TOP≤b):=by
  rw[Nat.testBit_eq_decide_div_mod_eq]
  unfold TOP
  by_cases h:9223372036854775808≤b
  ·have:b/2^63 % 2=1:=by omega
   simp[this,h]
  ·have:b/2^63 % 2=0:=by omega
   simp[this,h]
 unfold bAnd
 show (Zb1r .u64 ((BitVec.ofInt 64 (b:Int) &&& BitVec.ofInt 64 9223372036854775808).toNat:Int)!=0)=_
 rw[m,n,p]
 by_cases h:TOP≤b
 ·simp only[h,decide_true,Zb3c,Zb3u]
  rfl
 ·simp only[h,decide_false,Bool.toNat_false,Nat.zero_mul]
  rfl
theorem Z40 {b:Nat} (hb:b<18446744073709551616):bXor .u64 Zb1t.max (b:Int)=18446744073709551615-b:=by
 have h:(BitVec.ofInt 64 18446744073709551615 ^^^ BitVec.ofInt 64 (b:Int)).toNat=18446744073709551615-b:=by
  have e1:BitVec.ofInt 64 18446744073709551615=BitVec.allOnes 64:=by decide
  rw[e1,BitVec.allOnes_xor,BitVec.toNat_not]
  have e2:(BitVec.ofInt 64 (b:Int)).toNat=b:=by
   rw[show BitVec.ofInt 64 (b:Int)=BitVec.ofNat 64 b from rfl]
   simp;omega
  rw[e2]
 unfold bXor
 show Zb1r .u64 ((BitVec.ofInt 64 18446744073709551615 ^^^ BitVec.ofInt 64 (b:Int)).toNat:Int)=_
 rw[h]
 simp[Zb1r,Zb2a,Zb2i]
 omega
theorem Zbq6 {b:Nat} (h:b<9223372036854775808):bOr .u64 (b:Int) 9223372036854775808=b+9223372036854775808:=by
 have k:(BitVec.ofInt 64 (b:Int) ||| BitVec.ofInt 64 9223372036854775808).toNat=b+9223372036854775808:=by
  rw[BitVec.toNat_or]
  have e1:(BitVec.ofInt 64 (b:Int)).toNat=b:=by
   rw[show BitVec.ofInt 64 (b:Int)=BitVec.ofNat 64 b from rfl]
   simp;omega
  rw[e1,show (BitVec.ofInt 64 9223372036854775808).toNat=2^63*1 from rfl,Nat.or_comm]
  rw[←Zb2b (by simpa using h)]
  omega
 unfold bOr
 show Zb1r .u64 ((BitVec.ofInt 64 (b:Int) ||| BitVec.ofInt 64 9223372036854775808).toNat:Int)=_
 rw[k]
 simp[Zb1r,Zb2a,Zb2i]
 omega
theorem Z1s {b:Nat} (hb:b<18446744073709551616):Zcs b<18446744073709551616:=by
 unfold Zcs NANB;split <;> omega
theorem Zv8 {b:Nat} (k:b<18446744073709551616):Zo4 b=some (keyf b):=by
 unfold Zo4
 rw[Zng k]
 simp only[Zb1e]
 rw[Z5h (Z1s k)]
 unfold keyf Zcs
 by_cases h:isn b
 ·simp only[h,if_true]
  rfl
 ·simp only[h,if_false]
  by_cases m:TOP≤b
  ·simp only[m,decide_true,if_true]
   rw[Z40 k]
  ·simp only[m,decide_false,if_false,Zb1h]
   rw[Zbq6 (by unfold TOP at m;omega)]
theorem Zt6 {a b:Nat} (h:a<18446744073709551616) (k:b<18446744073709551616):Zm6 a b=some (decide (keyf a=keyf b)):=by
 unfold Zm6
 rw[Zv8 h,Zv8 k]
 simp[BEq.beq]
theorem Z45 {a b:Nat} (h:a<18446744073709551616) (k:b<18446744073709551616):Zq9 a b=some (decide (keyf a<keyf b)):=by
 unfold Zq9
 rw[Zv8 h,Zv8 k]
 simp
theorem Zzo {a:Nat} (k:a<18446744073709551616):Zoe a=some (decide (a=Zcs a)):=by
 unfold Zoe
 rw[Zng k]
 congr 1
 by_cases h:a=Zcs a
 ·simp[←h]
 ·have:(a:Int)≠(Zcs a:Int):=by omega
  simp[h,this]
theorem Zbdb {a b:Nat} (ha:a<18446744073709551616) (hb:b<18446744073709551616) (na:¬isn a) (nb:¬isn b):keyf a<keyf b↔(sg a<sg b∨(a=TOP∧b=0)):=by
 unfold keyf
 rw[if_neg na,if_neg nb]
 unfold sg isn rg INF TOP at *
 split <;> split <;> omega
theorem Zbd9 {a b:Nat} (m:a<18446744073709551616) (n:b<18446744073709551616) (na:¬isn a) (nb:¬isn b):feql a b=decide (sg a=sg b):=by
 unfold feql
 show (Ieee.double.order a b==some .eq)=_
 obtain⟨o,p,_,k⟩:=Zxv m n na nb
 rw[p]
 by_cases h:sg a=sg b
 ·rw[k.2 h];simp[h]
 ·have:o≠.eq:=fun h'=>h (k.1 h')
  simp[h,this]
theorem Zbnz {a b:Nat} (m:a<18446744073709551616) (n:b<18446744073709551616) (na:¬isn a) (nb:¬isn b):flss a b=decide (sg a<sg b):=by
 unfold flss
 show (Ieee.double.order a b==some .lt)=_
 obtain⟨o,p,k,_⟩:=Zxv m n na nb
 rw[p]
 by_cases h:sg a<sg b
 ·rw[k.2 h];simp[h]
 ·have:o≠.lt:=fun h'=>h (k.1 h')
  simp[h,this]
theorem Zbp5:Zi8 0=some false:=by kernel_rfl
theorem Zbq7:Zi8 TOP=some true:=by kernel_rfl
theorem nan0:¬isn 0:=by decide
theorem Zbd2 {a:Nat} (ha:a<18446744073709551616):sg a=sg 0↔a=0∨a=TOP:=by
 unfold sg TOP
 split <;> simp <;> omega
theorem Zw8 {a:Nat} (h:a<18446744073709551616):Zfx a=some (decide (isn a)):=by
 unfold Zfx;rw[Z51 h]
theorem Zuf {a b:Nat} (k:a<18446744073709551616) (m:b<18446744073709551616):Zgy a b=some (decide (keyf a<keyf b)):=by
 unfold Zgy
 rw[Zw8 k,Zw8 m]
 simp only[Zb1e]
 have kb:∀x,x<18446744073709551616→¬isn x→keyf x<18444492273895866369:=by
  intro x hx nx
  unfold keyf
  rw[if_neg nx]
  unfold isn rg INF TOP at *
  split <;> omega
 have kn:∀x,isn x→keyf x=18444492273895866369:=fun x h=>by unfold keyf;rw[if_pos h]
 by_cases na:isn a
 ·simp only[na,decide_true,if_true]
  by_cases nb:isn b
  ·rw[kn a na,kn b nb];simp
  ·have:=kb b m nb
   rw[kn a na];simp;omega
 ·simp only[na,decide_false,Zb1h,if_false]
  by_cases nb:isn b
  ·have:=kb a k na
   rw[kn b nb];simp[nb,this]
  ·simp only[nb,decide_false,Zb1h,if_false]
   rw[Zbd9 k (by decide) na nan0,Zbd9 m (by decide) nb nan0,Zbnz k m na nb]
   by_cases n:sg a=sg 0∧sg b=sg 0
   ·rw[if_pos (by simp[n])]
    have p:=Zbdb k m na nb
    have q:(0:Nat)≠TOP:=by decide
    rcases (Zbd2 k).1 n.1 with rfl | rfl <;> rcases (Zbd2 m).1 n.2 with rfl | rfl <;> simp only[Zbp5,Zbq7,gd,Zb1e,if_true,if_false,Zb1h,Zb2l.injEq] <;> decide
   ·rw[if_neg (by simpa using n)]
    have p:=Zbdb k m na nb
    congr 1
    apply decide_eq_decide.2
    rw[p]
    constructor
    ·intro h;exact .inl h
    ·rintro (h | ⟨rfl,rfl⟩)
     ·exact h
     ·exact absurd ⟨rfl,rfl⟩ n
theorem Zsd {a b:Nat} (h:a<18446744073709551616) (k:b<18446744073709551616):Zex a b=some (decide (keyf a=keyf b)):=by
 unfold Zex
 rw[Zuf h k,Zuf k h]
 simp only[Zb1e,gd]
 by_cases m:keyf a<keyf b
 ·have:keyf a≠keyf b:=by omega
  simp[m,this]
 ·by_cases n:keyf b<keyf a
  ·have:keyf a≠keyf b:=by omega
   simp[m,n,this]
  ·have:keyf a=keyf b:=by omega
   simp[this]
theorem Zw3 {a:Nat} (m:a<18446744073709551616):Zhq a=some (decide (a=Zcs a)):=by
 unfold Zhq
 rw[Zw8 m]
 unfold Zcs NANB
 by_cases h:isn a
 ·by_cases k:a=9221120237041090561
  ·simp[h,k]
  ·have:(a:Int)≠9221120237041090561:=by omega
   simp[h,k,this]
 ·simp[h]
theorem Zsa {b:Nat} (hb:b<18446744073709551616):(BitVec.ofInt 64 (b:Int)).toNat=b:=by
 rw[show BitVec.ofInt 64 (b:Int)=BitVec.ofNat 64 b from rfl]
 simp;omega
theorem u8w (x:Int):Zb2d.wrap x=x % 256:=by simp[Zb1r,Zb2i,Zb2a]
theorem or8 {x:Int} (h:0≤x):bOr .u8 (Zb2d.wrap x) 128=x % 128+128:=by
 have key:∀n:Nat,n<256→bOr .u8 (n:Int) 128=(n:Int) % 128+128:=by decide +kernel
 have:=key (x % 256).toNat (by omega)
 rw[u8w,show x % 256=(((x % 256).toNat:Nat):Int) by omega,this]
 omega
theorem and8 {x:Int} (h:0≤x) (h2:x<256):bAnd .u8 x 127=x % 128:=by
 have key:∀n:Nat,n<256→bAnd .u8 (n:Int) 127=(n:Int) % 128:=by decide +kernel
 have:=key x.toNat (by omega)
 rw[show x=((x.toNat:Nat):Int) by omega,this]
theorem orN {m n:Nat} (k:m<18446744073709551616) (p:n<18446744073709551616):bOr .u64 (m:Int) (n:Int)=((m ||| n:Nat):Int):=by
 have h:=Nat.or_lt_two_pow (n:=64) k p
 unfold bOr
 show Zb1r .u64 ((BitVec.ofInt 64 (m:Int) ||| BitVec.ofInt 64 (n:Int)).toNat:Int)=_
 rw[BitVec.toNat_or,Zsa k,Zsa p,Zvs]
 omega
theorem Zbgn {m a i:Nat} (k:m<2^i) (h:m+a*2^i<18446744073709551616):bOr .u64 (m:Int) ((a*2^i:Nat):Int)=((m+a*2^i:Nat):Int):=by
 rw[orN (by omega) (by omega),Nat.or_comm,Zb2s,←Zb2b k,Zb28]
theorem Zbnt {m a i:Nat} (k:m<2^i) (h:m+a*2^i<18446744073709551616):bOr .u64 ((a*2^i:Nat):Int) (m:Int)=((m+a*2^i:Nat):Int):=by
 rw[orN (by omega) (by omega),Zb2s,←Zb2b k,Zb28]
theorem Zbn2 {m:Nat} (h:m<18446744073709551616):bAnd .u64 (m:Int) 1=((m % 2:Nat):Int):=by
 unfold bAnd
 show Zb1r .u64 ((BitVec.ofInt 64 (m:Int) &&& BitVec.ofInt 64 1).toNat:Int)=_
 rw[BitVec.toNat_and,Zsa h,show (BitVec.ofInt 64 1).toNat=1 from rfl,Nat.and_one_is_mod,Zvs]
 omega
theorem Zbey {m:Nat} (h1:9223372036854775808≤m) (h:m<18446744073709551616):Zv9 .u64 (m:Int) 9223372036854775808=((m-9223372036854775808:Nat):Int):=by
 unfold Zv9
 show Zb1r .u64 ((BitVec.ofInt 64 (m:Int) &&& ~~~BitVec.ofInt 64 9223372036854775808).toNat:Int)=_
 rw[BitVec.toNat_and,Zsa h,show (~~~BitVec.ofInt 64 9223372036854775808).toNat=2^63-1 from by decide,Nat.and_two_pow_sub_one_eq_mod,Zvs]
 omega
theorem Zbg0 (k:IntKind) (m n:Int):bXor k m n=bXor k n m:=by unfold bXor;rw[BitVec.xor_comm]
theorem Zbkr {m:Nat} (h:m<18446744073709551616):bXor .u64 (m:Int) 0=m:=by
 unfold bXor
 show Zb1r .u64 ((BitVec.ofInt 64 (m:Int) ^^^ BitVec.ofInt 64 0).toNat:Int)=_
 rw[show BitVec.ofInt 64 0=0#64 from rfl,BitVec.xor_zero,Zsa h,Zvs]
 omega
def zig (x:Int):Nat:=if 0≤x then (2*x).toNat else (-2*x-1).toNat
theorem Zbap {x:Int} (h1:-9223372036854775808≤x) (h2:x≤9223372036854775807):zig x<18446744073709551616:=by unfold zig;split <;> omega
theorem Zbq8 {x:Int} (h1:-9223372036854775808≤x) (h2:x≤9223372036854775807):bXor .u64 (Zb1t.wrap ((Zb1t.wrap x)*2^1)) (Zb1t.wrap (Zb2w x (2^63)))=(zig x:Nat):=by
 rw[Zb11 _ (by decide),Zvs,Zvs,Zvs]
 unfold zig
 by_cases h:0≤x
 ·rw[if_pos h,show (x % 18446744073709551616*2^1) % 18446744073709551616=(((2*x).toNat:Nat):Int) by omega,show (x/2^63) % 18446744073709551616=0 by omega,Zbkr (by omega)]
 ·rw[if_neg h,show (x % 18446744073709551616*2^1) % 18446744073709551616=(((18446744073709551616+2*x).toNat:Nat):Int) by omega,show (x/2^63) % 18446744073709551616=Zb1t.max by
   show _=(18446744073709551615:Int)
   omega,Zbg0,Z40 (by omega)]
  omega
theorem Zbpj {x:Int} (k:-9223372036854775808≤x) (m:x≤9223372036854775807):bXor .i64 (Zb1i.wrap (Zb2w ((zig x:Nat):Int) (2^1))) (Zb1i.wrap (0-(Zb1i.wrap (bAnd .u64 ((zig x:Nat):Int) (1:Int)))))=x:=by
 have n:=Zbap k m
 rw[Zbn2 n,Zb11 _ (by decide)]
 unfold zig
 by_cases h:0≤x
 ·rw[if_pos h,show ((((2*x).toNat:Nat):Int)/2^1)=((x.toNat:Nat):Int) by omega,show (2*x).toNat % 2=0 by omega,show Zb1i.wrap (0-Zb1i.wrap ((0:Nat):Int))=0 by decide,wr (by omega) (by omega)]
  unfold bXor
  show Zb1r .i64 ((BitVec.ofInt 64 ((x.toNat:Nat):Int) ^^^ BitVec.ofInt 64 0).toNat:Int)=_
  rw[show BitVec.ofInt 64 0=0#64 from rfl,BitVec.xor_zero,Zsa (by omega),wr (by omega) (by omega)]
  omega
 ·rw[if_neg h,show ((((-2*x-1).toNat:Nat):Int)/2^1)=(((-x-1).toNat:Nat):Int) by omega,show (-2*x-1).toNat % 2=1 by omega,show Zb1i.wrap (0-Zb1i.wrap ((1:Nat):Int))=-1 by decide,wr (by omega) (by omega)]
  unfold bXor
  show Zb1r .i64 ((BitVec.ofInt 64 (((-x-1).toNat:Nat):Int) ^^^ BitVec.ofInt 64 (-1)).toNat:Int)=_
  rw[show BitVec.ofInt 64 (-1)=BitVec.allOnes 64 by decide,BitVec.xor_allOnes,BitVec.toNat_not,Zsa (by omega)]
  have e:((2^64-1-(-x-1).toNat:Nat):Int)=18446744073709551616+x:=by omega
  rw[e]
  simp[Zb1r,Zb2a,Zb2i]
  omega
theorem Z0n {x:Nat} (p:x<18446744073709551616) (n:x=Zcs x):∃k:Nat,keyf x=k∧k<18446744073709551616∧Zsl (k:Int)=some (x,true):=by
 have q:keyf x=if TOP≤x then 18446744073709551615-(x:Int)else x+9223372036854775808:=by
  unfold keyf
  by_cases h:isn x
  ·rw[if_pos h]
   unfold Zcs at n;rw[if_pos h]at n
   subst n;decide
  ·rw[if_neg h]
 have m:=Zv8 p
 rw[q]at m⊢
 by_cases h:TOP≤x
 ·rw[if_pos h]at m⊢
  unfold TOP at h
  refine⟨18446744073709551615-x,by omega,by omega,?_⟩
  unfold Zsl Zo1
  rw[Z5h (by omega),decide_eq_false (by unfold TOP;omega),if_neg (by simp),Z40 (by omega),show ((18446744073709551615:Int)-((18446744073709551615-x:Nat):Int)).toNat=x by omega,m,Zb1e,if_neg (by simp;omega)]
 ·rw[if_neg h]at m⊢
  unfold TOP at h
  refine⟨x+9223372036854775808,by omega,by omega,?_⟩
  unfold Zsl Zo1
  rw[Z5h (by omega),decide_eq_true (by unfold TOP;omega),if_pos rfl,Zbey (by omega) (by omega),show (((x+9223372036854775808-9223372036854775808:Nat):Int)).toNat=x by omega,m,Zb1e,if_neg (by simp)]
theorem Z8j:∀(l:List UInt8) (r:ByteArray),((l.map fun b=>(b.toNat:Int)).foldl (fun r n=>r.push (UInt8.ofNat n.toNat)) r).data.toList=r.data.toList++l
 | [],r=>by simp
 | b::l,r=>by
  simp only[Zb32,List.foldl_cons]
  rw[Z8j l]
  simp[ByteArray.push]
theorem Zbkc (s:ByteArray):bstr (bts s)=s:=by
 have h:=Z8j s.data.toList ByteArray.empty
 have k:(bstr (bts s)).data.toList=s.data.toList:=by
  unfold bstr bts
  rw[h];rfl
 cases hs:bstr (bts s)with
 | mk d =>
  cases s with
  | mk e =>
   rw[hs]at k
   exact congrArg ByteArray.mk (Zb3v.1 k)
def Puts (put:Zu→Option Zu) (bs:List Int):Prop:=∀b:List Int,b.length+bs.length≤1000000000→put ⟨b⟩=some ⟨b++bs⟩
def Zrn {α:Type} (take:Zh→Option (α×Zh)) (bs:List Int) (x:α):Prop:=∀(X:List Int) (i:Nat) (post:List Int),X.length≤1000000000→X.drop i=bs++post→take ⟨X,(i:Int)⟩=some (x,⟨X,((i+bs.length:Nat):Int)⟩)
theorem Zd7 {X bs post:List Int} {i:Nat} (h:X.drop i=bs++post):X.drop (i+bs.length)=post:=by
 rw[←List.drop_drop,h,Zb3z]
theorem Zbbh {X bs post:List Int} {i:Nat} (h:X.drop i=bs++post) (h0:0<bs.length):i+bs.length≤X.length:=by
 have:=congrArg Zb3f h
 simp at this;omega
theorem Z4g {X post:List Int} {b:Int} {i:Nat} (hX:X.length≤1000000000) (h:X.drop i=b::post):Ziu ⟨X,(i:Int)⟩=some (b,⟨X,((i+1:Nat):Int)⟩):=by
 have k:=Zbbh (bs:=[b]) (post:=post) h (by simp)
 simp only[Zb3g]at k
 unfold Ziu Zkg
 have e:Zb1i.wrap ((i:Int)+1)=((i+1:Nat):Int):=wr1 (by omega)
 have e2:Zb1i.wrap ((((i+1:Nat):Int))-1)=(i:Int):=by rw[wrm (by omega) (by omega)];rfl
 rw[if_neg (by simp;omega)]
 simp only[e,e2]
 rw[idxn,show X[i]?=some b by
  have:=congrArg (·[0]?) h
  simpa using this]
 rfl
def enc:Nat→Nat→List Int
 | 0,v=>[(v:Int)]
 | n+1,v=>if 128≤v then ((v % 128+128:Nat):Int)::enc n (v/128)else [(v:Int)]
theorem Zbd8:∀n v,1≤(enc n v).length∧(enc n v).length≤n+1
 | 0,v=>by simp[enc]
 | n+1,v=>by
  unfold enc
  split
  ·have:=Zbd8 n (v/128);simp;omega
  ·simp
theorem Zbg8 {v:Nat} {b:List Int} {m:Nat} (hv:v<128) (hb:b.length+1≤1000000000):((Zgw (m+1) (v:Int) ⟨b⟩).bind fun z7=>match z7 with | (y5,y6)=>(if (y6.b.length+([(Zb2d.wrap y5)]:List Int).length)*1≤140737488355328 then (some ({b:=(y6.b++([(Zb2d.wrap y5)]:List Int))}:Zu))else none))=some ⟨b++[(v:Int)]⟩:=by
 rw[Zgw,if_neg (by simp;omega),Zb1e]
 simp only[]
 rw[if_pos (by simp;omega),u8w,show (v:Int) % 256=v by omega]
theorem Zbmm:∀(n m v:Nat) (b:List Int),n<m→v<128^(n+1)→b.length+(enc n v).length≤1000000000→((Zgw m (v:Int) ⟨b⟩).bind fun z7=>match z7 with | (y5,y6)=>(if (y6.b.length+([(Zb2d.wrap y5)]:List Int).length)*1≤140737488355328 then (some ({b:=(y6.b++([(Zb2d.wrap y5)]:List Int))}:Zu))else none))=some ⟨b++enc n v⟩
 | _,0,_,_,h,_,_=>by omega
 | 0,m+1,v,b,h,p,k=>Zbg8 (by simpa using p) (by simpa[enc]using k)
 | n+1,m+1,v,b,h,p,k=>by
  by_cases r:128≤v
  ·have q:enc (n+1) v=((v % 128+128:Nat):Int)::enc n (v/128):=by rw[enc,if_pos r]
   rw[q]at k⊢
   simp only[Zb2m]at k
   rw[Zgw,if_pos (by simp;omega),if_pos (by simp;omega),or8 (by omega),Zb11 _ (by decide),show (v:Int)/2^7=((v/128:Nat):Int) by omega,show (v:Int) % 128+128=((v % 128+128:Nat):Int) by omega]
   rw[Zbmm n m (v/128) _ (by omega) (by rw[Zb3a]at p;exact Zb3h (by rw[Zb2s];exact p)) (by simp;omega)]
   simp
  ·have q:enc (n+1) v=[(v:Int)]:=by rw[enc,if_neg r]
   rw[q]at k⊢
   exact Zbg8 (by omega) (by simpa using k)
theorem Z9l {d j:Nat} (hj:j≤9) (h:d*128^j<18446744073709551616):Zb1t.wrap ((d:Int)*2^(min (Zb1j ((7*j:Nat):Int)) (Zb1t).bits))=((d*2^(7*j):Nat):Int):=by
 have k:(128:Nat)^j=2^(7*j):=by rw[Nat.pow_mul]
 rw[show min (Zb1j ((7*j:Nat):Int)) (Zb1t).bits=7*j by
  show min _ 64=_
  omega,show ((d:Int)*2^(7*j))=((d*2^(7*j):Nat):Int) by simp]
 rw[k]at h
 exact wru (by omega) (by omega)
theorem Zbhi:∀(n j m a v i:Nat) (X post:List Int),n+j≤9→n<m→a<128^j→v<128^(n+1)→(0<j→0<v)→a+v*128^j<18446744073709551616→X.length≤1000000000→X.drop i=enc n v++post →
  Zey m (a:Int) ((7*j:Nat):Int) ⟨X,(i:Int)⟩=some (.inl (((a+v*128^j:Nat):Int),⟨X,((i+(enc n v).length:Nat):Int)⟩))
 | _,_,0,_,_,_,_,_,_,h,_,_,_,_,_,_=>by omega
 | n,j,m+1,a,v,i,X,post,hj,hm,t,q,h0,c,r,p=>by
  have g:0<128^j:=Nat.pow_pos (by decide)
  have k:(128:Nat)^j=2^(7*j):=by rw[Nat.pow_mul]
  have last:v<128→enc n v=[(v:Int)]→Zey (m+1) (a:Int) ((7*j:Nat):Int) ⟨X,(i:Int)⟩=some (.inl (((a+v*128^j:Nat):Int),⟨X,((i+(enc n v).length:Nat):Int)⟩)):=fun l s=>by
   rw[s]at p⊢
   rw[Zey,Z4g r p,Zb1e]
   have u:¬(((((7*j:Nat):Int))==63&&decide ((1:Int)<(v:Int)))=true):=by
    intro d
    simp only[Zb15,beq_iff_eq,decide_eq_true_eq]at d
    have w:j=9:=by omega
    subst w
    have:2*128^9≤v*128^9:=Zb2t _ (by omega)
    have e9:(2:Nat)*128^9=18446744073709551616:=by decide
    omega
   have y:v*128^j<18446744073709551616:=by omega
   rw[if_neg u,Zjv,if_pos (by omega),if_neg (by simp;omega),if_neg (by simp;omega),Zl1,and8 (by omega) (by omega),show (v:Int) % 128=(v:Int) by omega,wru (x:=(v:Int)) (by omega) (by omega),Z9l (by omega) y,Zbgn (by rw[←k];exact t) (by rw[←k];exact c),←k]
   rfl
  cases n with
  | zero=>exact last (by simpa using q) rfl
  | succ n =>
   by_cases z:128≤v
   ·have s:enc (n+1) v=((v % 128+128:Nat):Int)::enc n (v/128):=by rw[enc,if_pos z]
    rw[s]at p⊢
    have e:(v % 128)*128^j≤v*128^j:=Zb2t _ (Nat.mod_le _ _)
    have f:v*128^j=(v % 128)*128^j+(v/128)*128^(j+1):=by
     rw[Zb3a,show v/128*(128^j*128)=(v/128*128)*128^j by rw[Zb2s (128^j),Nat.mul_assoc],←Nat.add_mul]
     congr 1;omega
    have b:a+(v % 128)*128^j<128^(j+1):=by
     have:(v % 128)*128^j≤127*128^j:=Zb2t _ (by omega)
     rw[Zb3a];omega
    rw[Zey,Z4g r p,Zb1e,if_neg (by simp;omega),Zjv,if_pos (by omega),if_pos (by simp;omega),and8 (by omega) (by omega),show (((v % 128+128:Nat):Int)) % 128=((v % 128:Nat):Int) by omega,wru (x:=((v % 128:Nat):Int)) (by omega) (by omega),Z9l (by omega) (by omega),Zbgn (by rw[←k];exact t) (by rw[←k];omega),←k,show Zb1i.wrap (((7*j:Nat):Int)+7)=((7*(j+1):Nat):Int) by rw[wr (by omega) (by omega)];omega]
    rw[Zbhi n (j+1) m _ (v/128) (i+1) X post (by omega) (by omega) b (by rw[Zb3a]at q;exact Zb3h (by rw[Zb2s];exact q)) (fun _=>by omega) (by omega) r (by
     have:=Zd7 (bs:=[((v % 128+128:Nat):Int)]) p
     simpa using this)]
    rw[show a+v % 128*128^j+v/128*128^(j+1)=a+v*128^j by omega,show i+1+(enc n (v/128)).length=i+(((v % 128+128:Nat):Int)::enc n (v/128)).length by simp;omega]
   ·exact last (by omega) (by rw[enc,if_neg z])
abbrev W:Nat→List Int:=enc 9
theorem Znk (v:Nat):1≤(W v).length∧(W v).length≤10:=Zbd8 9 v
theorem Zrz {v:Nat} (h:v<18446744073709551616):Puts (fun w=>Zec w (v:Int)) (W v):=fun b k=>by
 show Zec ⟨b⟩ (v:Int)=_
 unfold Zec
 exact Zbmm 9 11 v b (by omega) (Zb38 h (by decide)) k
theorem Z5x {v:Nat} (k:v<18446744073709551616):Zrn Zkv (W v) (v:Int):=fun X i post m n=>by
 unfold Zkv
 have:=Zbhi 9 0 11 0 v i X post (by omega) (by omega) (by decide) (Zb38 k (by decide)) (fun h=>by omega) (by simpa using k) m n
 simp only[Nat.mul_zero,Nat.pow_zero,Nat.mul_one,Zb3o]at this
 rw[show ((0:Nat):Int)=0 from rfl]at this
 rw[this];rfl
theorem Zop {v:Nat} {l:Int} (hv:(v:Int)≤l) (hl:l<9223372036854775808):Zrn (fun r=>Zea r l) (W v) (v:Int):=fun X i post h k=>by
 show Zea _ l=_
 unfold Zea Zjf
 rw[Z5x (v:=v) (by omega) X i post h k,Zb1e]
 simp only[]
 rw[if_neg (by rw[show max l 0=l by omega,wru (by omega) (by omega)];simp;omega),wr (by omega) (by omega)]
theorem Z33 {s:ByteArray} (hs:s.size<1000000):Puts (fun w=>Zg0 w s) (W s.size++bts s):=fun b h=>by
 show Zg0 _ s=_
 simp only[Zb1s,Zo3]at h
 unfold Zg0
 rw[wru (by omega) (by omega),show Zec ⟨b⟩ (s.size:Int)=some ⟨b++W s.size⟩ from Zrz (by omega) b (by omega),Zb1e]
 rw[if_pos (by simp;omega)]
 simp
theorem Z0o {s:ByteArray} {l:Int} (hs:(s.size:Int)≤l) (hl:l<1000000):Zrn (fun r=>Zfg r l) (W s.size++bts s) s:=fun X i post n h=>by
 show Zfg _ l=_
 have hW:=Znk s.size
 have k:=Zbbh h (by simp;omega)
 simp only[Zb1s,Zo3]at k
 unfold Zfg Zju
 rw[Z5x (v:=s.size) (by omega) X i (bts s++post) n (by simpa using h),Zb1e]
 simp only[]
 rw[if_neg (by rw[show max l 0=l by omega,wru (by omega) (by omega)];simp;omega),Zb1e]
 simp only[]
 rw[wr (by omega) (by omega),if_neg (by rw[wru (by omega) (by omega)];simp;omega)]
 unfold Zjp
 simp only[]
 rw[wr (x:=(s.size:Int)) (by omega) (by omega),show Zb1i.wrap (((i+(W s.size).length:Nat):Int)+(s.size:Int))=((i+(W s.size).length+s.size:Nat):Int) by rw[wr (by omega) (by omega)];omega,
  show Zb1i.wrap (((i+(W s.size).length+s.size:Nat):Int)-(s.size:Int))=((i+(W s.size).length:Nat):Int) by rw[wr (by omega) (by omega)];omega,Zkw (by omega) (by omega),Zb1e]
 have m:X.drop (i+(W s.size).length)=bts s++post:=Zd7 (by simpa using h)
 rw[m,show i+(W s.size).length+s.size-(i+(W s.size).length)=(bts s).length by rw[Zo3];omega,List.take_left,Zbkc]
 simp[Zo3,Zb3i]
abbrev fl (c:Bool):List Int:=[if c then 1 else 0]
theorem Zbim (c:Bool):Puts (fun w=>Zj0 w c) (fl c):=fun b h=>by
 show Zj0 _ c=_
 unfold Zj0
 simp only[Zb3g]at h
 cases c
 ·rw[if_neg (by simp),if_pos (by simp;omega)];rfl
 ·rw[if_pos rfl,if_pos (by simp;omega)];rfl
theorem Zbfo (c:Bool):Zrn Zlu (fl c) c:=fun X i post h k=>by
 unfold Zlu Zjg
 rw[Z4g h k,Zb1e]
 cases c <;> simp
theorem Z39 {x:Int} (h:-9223372036854775808≤x) (k:x≤9223372036854775807):Puts (fun w=>Zg2 w x) (W (zig x)):=fun b m=>by
 show Zg2 _ x=_
 unfold Zg2
 rw[Zbq8 h k,show Zec ⟨b⟩ ((zig x:Nat):Int)=some ⟨b++W (zig x)⟩ from Zrz (Zbap h k) b m];rfl
theorem Z0l {x:Int} (h:-9223372036854775808≤x) (k:x≤9223372036854775807):Zrn Zfh (W (zig x)) x:=fun X i post m n=>by
 unfold Zfh
 rw[Z5x (Zbap h k) X i post m n,Zb1e]
 simp only[]
 rw[Zbpj h k]
def be (k:Nat):Nat→List Int
 | 0=>[]
 | j+1=>((k/2^(8*j) % 256:Nat):Int)::be k j
theorem Zbgr (k:Nat):∀j,(be k j).length=j
 | 0=>rfl
 | j+1=>by simp[be,Zbgr k j]
theorem Zbma (k:Nat):∀(j m:Nat) (b:List Int),j≤8→j<m→b.length+j≤1000000000→Zhn (k:Int) m (((8*j:Nat):Int)-8) ⟨b⟩=some ⟨b++be k j⟩
 | _,0,_,_,h,_=>by omega
 | 0,m+1,b,_,_,_=>by rw[Zhn,if_neg (by simp)];simp[be]
 | j+1,m+1,b,hj,hm,hb=>by
  have e:Zb2d.wrap (Zb2w (k:Int) (2^(min (Zb1j (((8*(j+1):Nat):Int)-8)) (Zb1t).bits)))=((k/2^(8*j) % 256:Nat):Int):=by
   rw[show min (Zb1j (((8*(j+1):Nat):Int)-8)) (Zb1t).bits=8*j by
    show min _ 64=_
    omega,Zb11 _ (by have:(0:Int)<2^(8*j):=Int.pow_pos (by decide);omega),u8w,show ((k:Int)/2^(8*j))=((k/2^(8*j):Nat):Int) by simp]
   omega
  rw[Zhn,if_pos (by simp;omega),if_pos (by omega),e,if_pos (by simp;omega),wr (by omega) (by omega),show (((8*(j+1):Nat):Int)-8-8)=((8*j:Nat):Int)-8 by omega,Zbma k j m _ (by omega) (by omega) (by simp;omega)]
  simp[be]
theorem Zbg5 {k:Nat} (n:k<18446744073709551616):∀(j m i:Nat) (X post:List Int),j≤8→j<m→X.length≤1000000000→X.drop i=be k j++post→Zhs m ((k/2^(8*j):Nat):Int) ((8-j:Nat):Int) ⟨X,(i:Int)⟩=some ((k:Int),⟨X,((i+j:Nat):Int)⟩)
 | _,0,_,_,_,_,h,_,_=>by omega
 | 0,m+1,i,X,post,_,_,_,_=>by rw[Zhs,if_neg (by simp)];simp
 | j+1,m+1,i,X,post,hj,hm,p,r=>by
  have t:k/2^(8*(j+1))=k/2^(8*j)/256:=by rw[Nat.mul_add,Nat.pow_add,Nat.div_div_eq_div_mul]
  have s:k/2^(8*j)<18446744073709551616:=Nat.lt_of_le_of_lt (Nat.div_le_self _ _) n
  have e1:Zb1t.wrap (((k/2^(8*(j+1)):Nat):Int)*2^8)=((k/2^(8*j)/256*2^8:Nat):Int):=by
   rw[t]
   generalize k/2^(8*j)=q at s⊢
   rw[wru (by omega) (by omega)];omega
  rw[Zhs,if_pos (by simp;omega),Z4g p r,Zb1e]
  simp only[]
  rw[e1,wru (x:=((k/2^(8*j) % 256:Nat):Int)) (by omega) (by omega),Zbnt (i:=8) (by omega) (by omega),show k/2^(8*j) % 256+k/2^(8*j)/256*2^8=k/2^(8*j) by omega,show Zb1i.wrap (((8-(j+1):Nat):Int)+1)=((8-j:Nat):Int) by rw[wr (by omega) (by omega)];omega]
  rw[Zbg5 n j m (i+1) X post (by omega) (by omega) p (by
   have:=Zd7 (bs:=[((k/2^(8*j) % 256:Nat):Int)]) r
   simpa using this)]
  rw[show i+1+j=i+(j+1) by omega]
def F8 (x:Nat):List Int:=be (keyf x).toNat 8
theorem Zzk (x:Nat):(F8 x).length=8:=Zbgr _ _
theorem Z8i {x:Nat} (m:x<18446744073709551616) (n:x=Zcs x):Puts (fun w=>Zg1 w x) (F8 x):=fun b h=>by
 obtain⟨k,e,hk,hb⟩:=Z0n m n
 rw[Zzk]at h
 show Zg1 _ x=_
 unfold Zg1 F8
 rw[Zv8 m,Zb1e,e]
 have:=Zbma k 8 58 b (by omega) (by omega) h
 rw[show (Zb1j ((56:Int)+1-(0:Int))+1)=58 from rfl,show (56:Int)=((8*8:Nat):Int)-8 from rfl,this]
 rfl
theorem Z5q {x:Nat} (n:x<18446744073709551616) (p:x=Zcs x):Zrn Zht (F8 x) x:=fun X i post q h=>by
 obtain⟨k,e,m,r⟩:=Z0n n p
 unfold F8 at h
 rw[e]at h
 unfold Zht Zlw
 have:=Zbg5 m 8 9 i X post (by omega) (by omega) q h
 rw[show k/2^(8*8)=0 from Nat.div_eq_of_lt m]at this
 rw[show (Zb1j ((8:Int)-(0:Int))+1)=9 from rfl]
 rw[show ((0:Nat):Int)=0 from rfl]at this
 rw[this,Zb1e]
 simp only[]
 rw[r,Zb1e,if_neg (by simp),Zzk]
theorem Z5z {x:Nat} (p:x<18446744073709551616) (q:x=Zcs x) (h:keyf x=keyf 0):x=0:=by
 obtain⟨k,e,_,m⟩:=Z0n p q
 obtain⟨k2,e2,_,n⟩:=Z0n (x:=0) (by decide) (by decide)
 have:k=k2:=by rw[e,e2]at h;omega
 rw[this,n]at m
 have:=Zb2l.inj m
 exact (congrArg Prod.fst this).symm
theorem Zoq {put:Zu→Option Zu} {bs:List Int} {β:Type} (h:Puts put bs) {b:List Int} (m:b.length+bs.length≤1000000000) (k:Zu→Option β):(put ⟨b⟩).bind k=k ⟨b++bs⟩:=by rw[h b m];rfl
theorem optP {put:Zu→Option Zu} {bs:List Int} {β:Type} {c:Bool} (h:c=true→Puts put bs) (m:c=false→bs=[]) {b:List Int} (n:b.length+bs.length≤1000000000) (k:Zu→Option β):(if c=true then (put ⟨b⟩).bind k else k ⟨b⟩)=k ⟨b++bs⟩:=by
 cases c with
 | true=>rw[if_pos rfl,Zoq (h rfl) n]
 | false=>rw[if_neg (by simp),m rfl,Zb3d]
theorem Zpg {α β:Type} {take:Zh→Option (α×Zh)} {bs:List Int} {x:α} (h:Zrn take bs x) {X post:List Int} {i:Nat} (k:X.length≤1000000000) (m:X.drop i=bs++post) (K:α→Zh→Option β):(take ⟨X,(i:Int)⟩).bind (fun r=>K r.1 r.2)=K x ⟨X,((i+bs.length:Nat):Int)⟩:=by rw[h X i post k m];rfl
theorem optT {α β:Type} {take:Zh→Option (α×Zh)} {bs:List Int} {x:α} {c:Bool} {X post:List Int} {i:Nat} {Z:Option β} (K:α→Zh→Option β) (h:c=true→Zrn take bs x) (k:c=false→bs=[]∧Z=K x ⟨X,(i:Int)⟩) (m:X.length≤1000000000) (n:X.drop i=bs++post) :
  (if c=true then (take ⟨X,(i:Int)⟩).bind (fun r=>K r.1 r.2)else Z)=K x ⟨X,((i+bs.length:Nat):Int)⟩:=by
 cases c with
 | true=>rw[if_pos rfl,Zpg (h rfl) m n]
 | false =>
  obtain⟨e1,e2⟩:=k rfl
  rw[if_neg (by simp),e2,e1];rfl
abbrev W64:Nat:=18446744073709551616
structure Zla (a:Zb):Prop where
 real:a.Real<W64
 len:a.List.length<4611686018427387904
 sc:∀e∈a.List,e.Score<W64
def Zej (a b:Zn):Bool:=if keyf a.Score=keyf b.Score then sLt a.Name b.Name else decide (keyf b.Score<keyf a.Score)
theorem Zvq {a b:Zn} (k:a.Score<W64) (m:b.Score<W64):Zor a b=some (Zej a b):=by
 unfold Zor Zej
 rw[Zt6 k m,Z45 m k]
 by_cases h:keyf a.Score=keyf b.Score <;> simp[h]
theorem Z8h {a b:Zn} (k:a.Score<W64) (m:b.Score<W64):Zh3 a b=some (Zej a b):=by
 unfold Zh3 Zej
 rw[Zuf m k,Zsd k m]
 by_cases h:keyf a.Score=keyf b.Score
 ·simp[h]
 ·by_cases n:keyf b.Score<keyf a.Score <;> simp[h,n]
theorem Zbdi {a:Nat} (h:a<W64):Zjj a=some (decide (keyf a=keyf 0)):=by
 unfold Zjj
 rw[Zsd h (by decide)]
 rfl
def Zj7 (k:Int) (l:List Zn) (i:Nat):Int :=
 match l[i]? with
 | none=>0
 | some x =>
  let p:=(l[i-1]?).getD default
  if (16:Int)<x.Name.size then 3
  else if (k=8∧keyf x.Score≠keyf 0)∨x.Score≠Zcs x.Score then 4
  else if 0<i∧k=8∧sLt p.Name x.Name=false then 4
  else if 0<i∧k=9∧Zej p x=false then 4
  else 0
theorem Zbh7 {k:Int} {l:List Zn} {i n:Nat} (r:i<l.length) (hl:l.length<4611686018427387904) (hs:∀e∈l,e.Score<W64) :
  Zgf k l (n+1) (i:Int)=if Zj7 k l i=0 then Zgf k l n ((i+1:Nat):Int)else some (.inl (Zj7 k l i)):=by
 have s:l[i].Score<W64:=hs _ (Zb1p r)
 rw[Zgf,if_pos (by simp;omega),Zc0 r,wr1 (by omega)]
 simp only[Zb1e]
 rw[Zt6 s (by decide),Zzo s]
 simp only[Zj7,Zb1g r]
 by_cases u:(16:Int)<l[i].Name.size
 ·simp[u]
 ·simp only[u,decide_false,if_false,Zb1h]
  have hz:((0:Nat):Int)=0:=rfl
  by_cases v:0<i
  ·have t:i-1<l.length:=by omega
   have w:l[i-1].Score<W64:=hs _ (Zb1p t)
   have z:(decide ((0:Int)<(i:Int)))=true:=by simp;omega
   rw[z,wrm (by omega) v,Zc0 t]
   simp only[Zb1g t,Zb29,v,true_and,Zb1o]
   by_cases m:k=8
   ·subst m
    simp only[beq_self_eq_true,gd_t,Zb1e,true_and,Zb1o]
    by_cases p:keyf l[i].Score=keyf 0
    ·by_cases h:l[i].Score=Zcs l[i].Score
     ·simp[p,←h,gd]
      cases sLt l[i-1].Name l[i].Name <;> simp
     ·simp[p,h,gd]
    ·simp[p,gd]
   ·have q:(k==8)=false:=by simpa using m
    simp only[q,m,gd_f,gd_t,Zb1e,false_and,false_or,Zb1y,Zb1v,Zb1u]
    by_cases h:l[i].Score=Zcs l[i].Score
    ·by_cases x:k=9
     ·subst x
      simp[←h,gd,Zvq w s]
      cases Zej l[i-1] l[i] <;> simp
     ·simp[←h,gd,x]
    ·simp[h]
  ·have y:i=0:=by omega
   subst y
   simp only[Zb34,false_and,if_false,Zb31,Zb35,decide_false,Zb1y,gd_f,Zb1e,Zb3w]
   by_cases m:k=8
   ·subst m
    simp only[beq_self_eq_true,gd_t,Zb1e,true_and,Zb1o]
    by_cases p:keyf l[0].Score=keyf 0
    ·by_cases h:l[0].Score=Zcs l[0].Score
     ·simp[p,←h,gd]
     ·simp[p,h,gd]
    ·simp[p,gd]
   ·have q:(k==8)=false:=by simpa using m
    simp only[q,m,gd_f,gd_t,Zb1e,false_and,false_or,Zb1y,Zb1v,Zb1u]
    by_cases h:l[0].Score=Zcs l[0].Score
    ·simp[←h,gd]
    ·simp[h]
theorem Zbkq {k:Int} {l:List Zn} {i:Nat} (q:i<l.length) (hl:l.length<4611686018427387904) (hs:∀e∈l,e.Score<W64):Zl3 k l (i:Int)=some (Zj7 k l i):=by
 have r:l[i].Score<W64:=hs _ (Zb1p q)
 unfold Zl3
 rw[Zc0 q]
 simp only[Zb1e]
 rw[Zbdi r,Zw3 r]
 simp only[Zj7,Zb1g q]
 by_cases t:(16:Int)<l[i].Name.size
 ·simp[t]
 ·simp only[t,decide_false,if_false,Zb1h]
  by_cases u:0<i
  ·have s:i-1<l.length:=by omega
   have v:l[i-1].Score<W64:=hs _ (Zb1p s)
   have y:(decide ((0:Int)<(i:Int)))=true:=by simp;omega
   rw[y,wrm (by omega) u,Zc0 s]
   simp only[Zb1g s,Zb29,u,true_and,Zb1o]
   by_cases m:k=8
   ·subst m
    simp only[beq_self_eq_true,gd_t,Zb1e,true_and,Zb1o]
    by_cases n:keyf l[i].Score=keyf 0
    ·by_cases h:l[i].Score=Zcs l[i].Score
     ·simp[n,←h,gd]
      cases sLt l[i-1].Name l[i].Name <;> simp
     ·simp[n,h,gd]
    ·simp[n,gd]
   ·have p:(k==8)=false:=by simpa using m
    simp only[p,m,gd_f,gd_t,Zb1e,false_and,false_or,Zb1y,Zb1v,Zb1u]
    by_cases h:l[i].Score=Zcs l[i].Score
    ·by_cases w:k=9
     ·subst w
      simp[←h,gd,Z8h v r]
      cases Zej l[i-1] l[i] <;> simp
     ·simp[←h,gd,w]
    ·simp[h]
  ·have x:i=0:=by omega
   subst x
   simp only[Zb34,false_and,if_false,Zb31,Zb35,decide_false,Zb1y,gd_f,Zb1e,Zb3w]
   by_cases m:k=8
   ·subst m
    simp only[beq_self_eq_true,gd_t,Zb1e,true_and,Zb1o]
    by_cases n:keyf l[0].Score=keyf 0
    ·by_cases h:l[0].Score=Zcs l[0].Score
     ·simp[n,←h,gd]
     ·simp[n,h,gd]
    ·simp[n,gd]
   ·have p:(k==8)=false:=by simpa using m
    simp only[p,m,gd_f,gd_t,Zb1e,false_and,false_or,Zb1y,Zb1v,Zb1u]
    by_cases h:l[0].Score=Zcs l[0].Score
    ·simp[←h,gd]
    ·simp[h]
def Zmv (k:Int) (l:List Zn):Nat→Nat→Int
 | _,0=>0
 | i,n+1=>if Zj7 k l i=0 then Zmv k l (i+1) n else Zj7 k l i
def endC (c:Int):Int⊕Unit:=if c=0 then .inr ()else .inl c
theorem Z2m {k:Int} {l:List Zn} {i n:Nat} (h:Zj7 k l i=0):Zmv k l i (n+1)=Zmv k l (i+1) n:=by simp[Zmv,h]
theorem Z1v {k:Int} {l:List Zn} {i n:Nat} (h:¬Zj7 k l i=0):Zmv k l i (n+1)=Zj7 k l i:=by simp[Zmv,h]
theorem Zbil {c:Int} (h:¬c=0):endC c=.inl c:=if_neg h
theorem Z4h {k:Int} {l:List Zn} (p:l.length<4611686018427387904) (hs:∀e∈l,e.Score<W64):∀(n i:Nat),i+n=l.length →
  Zgf k l (n+1) (i:Int)=some (endC (Zmv k l i n))
 | 0,i,h=>by
  rw[Zgf,if_neg (by simp;omega)]
  rfl
 | n+1,i,h=>by
  rw[Zbh7 (by omega) p hs]
  by_cases m:Zj7 k l i=0
  ·rw[if_pos m,Z2m m,Z4h p hs n (i+1) (by omega)]
  ·rw[if_neg m,Z1v m,Zbil m]
theorem Zbkk {k:Int} {l:List Zn} (m:l.length<4611686018427387904) (hs:∀e∈l,e.Score<W64):Zpq k l=some (Zmv k l 0 l.length):=by
 unfold Zpq
 rw[show (Zb1j ((l.length:Int)-(0:Int))+1)=l.length+1 by omega,show (0:Int)=((0:Nat):Int) from rfl,Z4h m hs l.length 0 (by omega)]
 unfold endC
 by_cases h:Zmv k l 0 l.length=0 <;> simp[h]
theorem Z1k {a:Zb} (m:Zla a):∀(n i:Nat),i+n=a.List.length →
  Zfp a (n+1) (i:Int)=some (endC (Zmv a.Kind a.List i n))
 | 0,i,h=>by
  rw[Zfp,if_neg (by simp;omega)]
  rfl
 | n+1,i,h=>by
  have p:=m.len
  rw[Zfp,if_pos (by simp;omega),Zbkq (by omega) p m.sc,wr1 (by omega)]
  simp only[Zb1e]
  by_cases k:Zj7 a.Kind a.List i=0
  ·rw[if_neg (by simp[k]),Z2m k,Z1k m n (i+1) (by omega)]
  ·rw[if_pos (by simp[k]),Z1v k,Zbil k]
def Zjd (t n b r l:Bool) (a:Zb):Bool:=(t||sEq a.Text ⟨#[]⟩)&&(n||a.Num==0)&&(b||(a.Low==0&&a.High==0))&&(r||decide (keyf a.Real=keyf 0))&&(l||(a.Cap==0&&(a.List.length:Int)==0))
theorem Zbof {a:Zb} (h:Zla a) (t n b r l:Bool):Zu6 a ⟨t,n,b,r,l⟩=some (Zjd t n b r l a):=by
 unfold Zu6 Zjd
 rw[Zt6 h.real (by decide)]
 simp only
 generalize sEq a.Text ⟨#[]⟩=x1
 generalize (a.Num==0)=x2
 generalize (a.Low==0)=x3
 generalize (a.High==0)=x4
 generalize decide (keyf a.Real=keyf 0)=x5
 generalize (a.Cap==0)=x6
 generalize ((a.List.length:Int)==0)=x7
 revert t n b r l x1 x2 x3 x4 x5 x6 x7
 decide
theorem Zbnr {a:Zb} (k:Zla a) {s:ByteArray} {t n b r l:Bool} (h:Zdz s (Zb1j ((s.size:Int)-(0:Int))+1) false false false false false 0=some (t,n,b,r,l)):Zlx a s=some (Zjd t n b r l a):=by
 unfold Zlx Zjd
 rw[h,Zbdi k.real]
 simp only[Zb1e,bne]
 generalize sEq a.Text ⟨#[]⟩=x1
 generalize (a.Num==0)=x2
 generalize (a.Low==0)=x3
 generalize (a.High==0)=x4
 generalize decide (keyf a.Real=keyf 0)=x5
 generalize (a.Cap==0)=x6
 generalize ((a.List.length:Int)==0)=x7
 clear h
 revert t n b r l x1 x2 x3 x4 x5 x6 x7
 decide
theorem Zbtr:Zdz ⟨#[116]⟩ (Zb1j (((⟨#[116]⟩:ByteArray).size:Int)-(0:Int))+1) false false false false false 0=some (true,false,false,false,false):=by kernel_rfl
theorem Zblm:Zdz ⟨#[110]⟩ (Zb1j (((⟨#[110]⟩:ByteArray).size:Int)-(0:Int))+1) false false false false false 0=some (false,true,false,false,false):=by kernel_rfl
theorem Zbp9:Zdz ⟨#[110,98]⟩ (Zb1j (((⟨#[110,98]⟩:ByteArray).size:Int)-(0:Int))+1) false false false false false 0=some (false,true,true,false,false):=by kernel_rfl
theorem Zbfx:Zdz ⟨#[114]⟩ (Zb1j (((⟨#[114]⟩:ByteArray).size:Int)-(0:Int))+1) false false false false false 0=some (false,false,false,true,false):=by kernel_rfl
theorem Zbls:Zdz ⟨#[108]⟩ (Zb1j (((⟨#[108]⟩:ByteArray).size:Int)-(0:Int))+1) false false false false false 0=some (false,false,false,false,true):=by kernel_rfl
def Zwj (t n b r l:Bool) (a:Zb):Int :=
 if Zjd t n b r l a=false then 4
 else if (64:Int)<a.Text.size then 3
 else if b=true∧(a.Low < -2305843009213693952∨2305843009213693952<a.High∨a.Num<a.Low∨a.High<a.Num)then 1
 else if a.Real≠Zcs a.Real then 4
 else if l=false then 0
 else if a.Cap<1∨32<a.Cap then 1
 else if a.Cap<a.List.length then 8
 else Zmv a.Kind a.List 0 a.List.length
theorem Zis {a:Zb} (k:Zla a) {t n b r l:Bool} (w:¬(a.Kind≤0∨10≤a.Kind)) (hs:Zew a.Kind=some ⟨t,n,b,r,l⟩):Zeg a=some (Zwj t n b r l a):=by
 unfold Zeg Zwj
 rw[hs]
 simp only[Zb1e]
 rw[Zbof k,Zzo k.real,Zbkk k.len k.sc]
 simp only[Zb1e]
 rw[if_neg (by simpa using w)]
 by_cases m:Zjd t n b r l a=false
 ·rw[if_pos m,if_pos (by simp[m])]
 ·rw[if_neg m,if_neg (by simpa using m)]
  by_cases p:(64:Int)<a.Text.size
  ·rw[if_pos p,if_pos (by simpa using p)]
  ·rw[if_neg p,if_neg (by simpa using p)]
   by_cases q:b=true∧(a.Low < -2305843009213693952∨2305843009213693952<a.High∨a.Num<a.Low∨a.High<a.Num)
   ·rw[if_pos q,if_pos (by simpa[or_assoc]using q)]
   ·rw[if_neg q,if_neg (by simpa[or_assoc]using q)]
    by_cases s:a.Real=Zcs a.Real
    ·rw[if_neg (show ¬(a.Real≠Zcs a.Real) from fun h=>h s),decide_eq_true s]
     simp only[Zb10,Zb1h,if_false]
     cases l
     ·simp
     ·simp only[Zb10,Zb1h,if_false,Bool.true_eq_false]
      by_cases u:a.Cap<1∨32<a.Cap
      ·rw[if_pos u,if_pos (by simpa using u)]
      ·rw[if_neg u,if_neg (by simpa using u)]
       by_cases v:a.Cap<a.List.length
       ·rw[if_pos v,if_pos (by simpa using v)]
       ·rw[if_neg v,if_neg (by simpa using v)]
    ·rw[if_pos (show a.Real≠Zcs a.Real from s),decide_eq_false s]
     rfl
theorem Zban:Zew 1=some ⟨true,false,false,false,false⟩:=by kernel_rfl
theorem Zbaa:Zew 2=some ⟨false,true,false,false,false⟩:=by kernel_rfl
theorem Zba6:Zew 3=some ⟨false,true,false,false,false⟩:=by kernel_rfl
theorem Z9j:Zew 4=some ⟨false,true,true,false,false⟩:=by kernel_rfl
theorem Z9o:Zew 5=some ⟨false,false,false,true,false⟩:=by kernel_rfl
theorem Z89:Zew 6=some ⟨false,false,false,true,false⟩:=by kernel_rfl
theorem Z8k:Zew 7=some ⟨false,false,false,true,false⟩:=by kernel_rfl
theorem Z96:Zew 8=some ⟨false,false,false,false,true⟩:=by kernel_rfl
theorem Z98:Zew 9=some ⟨false,false,false,false,true⟩:=by kernel_rfl
def Z0c (t n b r l:Bool) (k:Int) (a:Zb):Int :=
 if Zjd t n b r l a=false then 4
 else if k=1∧(64:Int)<a.Text.size then 3
 else if k=4∧(a.Low < -2305843009213693952∨2305843009213693952<a.High∨a.Num<a.Low∨a.High<a.Num)then 1
 else if a.Real≠Zcs a.Real then 4
 else if k<8 then 0
 else if a.Cap<1∨32<a.Cap then 1
 else if a.Cap<a.List.length then 8
 else Zmv a.Kind a.List 0 a.List.length
theorem Ziz {a:Zb} (y:Zla a) {t n b r l:Bool} {s:ByteArray} (z:¬(a.Kind<1∨9<a.Kind)) (c:Zmm a.Kind=some s)
  (d:Zdz s (Zb1j ((s.size:Int)-(0:Int))+1) false false false false false 0=some (t,n,b,r,l)):Zeu a=some (Z0c t n b r l a.Kind a):=by
 unfold Zeu Z0c
 have e:Zb1i.wrap (0-(2305843009213693952:Int))=-2305843009213693952:=by decide
 rw[c,Zw3 y.real,e,show (Zb1j ((a.List.length:Int)-(0:Int))+1)=a.List.length+1 by omega]
 have k:=Z1k y a.List.length 0 (by omega)
 rw[show ((0:Nat):Int)=0 from rfl]at k
 rw[k]
 simp only[Zb1e]
 rw[if_neg (by simpa using z),Zbnr y d]
 simp only[Zb1e]
 by_cases m:Zjd t n b r l a=false
 ·rw[if_pos m,if_pos (by simp[m])]
 ·rw[if_neg m,if_neg (by simpa using m)]
  by_cases p:a.Kind=1∧(64:Int)<a.Text.size
  ·rw[if_pos p,if_pos (by simpa using p)]
  ·rw[if_neg p,if_neg (by simpa using p)]
   by_cases q:a.Kind=4∧(a.Low < -2305843009213693952∨2305843009213693952<a.High∨a.Num<a.Low∨a.High<a.Num)
   ·rw[if_pos q,if_pos (by simpa[or_assoc]using q)]
   ·rw[if_neg q,if_neg (by simpa[or_assoc]using q)]
    by_cases u:a.Real=Zcs a.Real
    ·rw[if_neg (show ¬(a.Real≠Zcs a.Real) from fun h=>h u),decide_eq_true u]
     simp only[Zb10,Zb1h,if_false]
     by_cases v:a.Kind<8
     ·rw[if_pos v,if_pos (by simpa using v)]
     ·rw[if_neg v,if_neg (by simpa using v)]
      by_cases w:a.Cap<1∨32<a.Cap
      ·rw[if_pos w,if_pos (by simpa using w)]
      ·rw[if_neg w,if_neg (by simpa using w)]
       by_cases x:a.Cap<a.List.length
       ·rw[if_pos x,if_pos (by simpa using x)]
       ·rw[if_neg x,if_neg (by simpa using x)]
        unfold endC
        by_cases h:Zmv a.Kind a.List 0 a.List.length=0 <;> simp[h]
    ·rw[if_pos (show a.Real≠Zcs a.Real from u),decide_eq_false u]
     rfl
theorem Zbna {t n b r l:Bool} {a:Zb} (h:¬Zjd t n b r l a=false) (k:t=false):a.Text.size=0:=by
 subst k
 have:Zjd false n b r l a=true:=by simpa using h
 unfold Zjd at this
 simp only[Zb1u,Zb15]at this
 have:=Zko.1 this.1.1.1.1
 rw[this];rfl
theorem D_eq (t n b r l:Bool) (k:Int) (a:Zb) (p:t=true↔k=1) (q:b=true↔k=4) (s:l=false↔k<8):Z0c t n b r l k a=Zwj t n b r l a:=by
 unfold Z0c Zwj
 by_cases m:Zjd t n b r l a=false
 ·rw[if_pos m,if_pos m]
 ·rw[if_neg m,if_neg m]
  have e2:(k=1∧(64:Int)<a.Text.size)↔(64:Int)<a.Text.size:=by
   constructor
   ·exact fun h=>h.2
   ·intro h
    refine⟨p.1 ?_,h⟩
    cases t
    ·have:=Zbna m rfl;omega
    ·rfl
  simp only[e2,q,s]
theorem Zp4 {a:Zb} (k:Zla a):∃c,Zeg a=some c∧Zeu a=some c:=by
 by_cases n:a.Kind≤0∨10≤a.Kind
 ·refine⟨5,?_,?_⟩
  ·unfold Zeg
   have hs:∃s,Zew a.Kind=some s:=by
    have q:¬a.Kind=1:=by omega
    have r:¬a.Kind=2:=by omega
    have t:¬a.Kind=3:=by omega
    have u:¬a.Kind=4:=by omega
    have v:¬a.Kind=5:=by omega
    have w:¬a.Kind=6:=by omega
    have x:¬a.Kind=7:=by omega
    have y:¬a.Kind=8:=by omega
    have z:¬a.Kind=9:=by omega
    exact⟨⟨false,false,false,false,false⟩,by simp[Zew,Zox,Zmc,Zou,q,r,t,u,v,w,x,y,z]⟩
   obtain⟨s,hs⟩:=hs
   rw[hs]
   simp only[Zb1e]
   rw[if_pos (by simpa using n)]
  ·unfold Zeu
   rw[if_pos (by simp;omega)]
 ·have m:¬(a.Kind<1∨9<a.Kind):=by omega
  have p:a.Kind=1∨a.Kind=2∨a.Kind=3∨a.Kind=4∨a.Kind=5∨a.Kind=6∨a.Kind=7∨a.Kind=8∨a.Kind=9:=by omega
  rcases p with h | h | h | h | h | h | h | h | h
  ·exact⟨_,Zis k n (by rw[h];exact Zban),by rw[Ziz k m (by rw[h];kernel_rfl) Zbtr,D_eq _ _ _ _ _ _ _ (by simp[h]) (by simp[h]) (by simp[h])]⟩
  ·exact⟨_,Zis k n (by rw[h];exact Zbaa),by rw[Ziz k m (by rw[h];kernel_rfl) Zblm,D_eq _ _ _ _ _ _ _ (by simp[h]) (by simp[h]) (by simp[h])]⟩
  ·exact⟨_,Zis k n (by rw[h];exact Zba6),by rw[Ziz k m (by rw[h];kernel_rfl) Zblm,D_eq _ _ _ _ _ _ _ (by simp[h]) (by simp[h]) (by simp[h])]⟩
  ·exact⟨_,Zis k n (by rw[h];exact Z9j),by rw[Ziz k m (by rw[h];kernel_rfl) Zbp9,D_eq _ _ _ _ _ _ _ (by simp[h]) (by simp[h]) (by simp[h])]⟩
  ·exact⟨_,Zis k n (by rw[h];exact Z9o),by rw[Ziz k m (by rw[h];kernel_rfl) Zbfx,D_eq _ _ _ _ _ _ _ (by simp[h]) (by simp[h]) (by simp[h])]⟩
  ·exact⟨_,Zis k n (by rw[h];exact Z89),by rw[Ziz k m (by rw[h];kernel_rfl) Zbfx,D_eq _ _ _ _ _ _ _ (by simp[h]) (by simp[h]) (by simp[h])]⟩
  ·exact⟨_,Zis k n (by rw[h];exact Z8k),by rw[Ziz k m (by rw[h];kernel_rfl) Zbfx,D_eq _ _ _ _ _ _ _ (by simp[h]) (by simp[h]) (by simp[h])]⟩
  ·exact⟨_,Zis k n (by rw[h];exact Z96),by rw[Ziz k m (by rw[h];kernel_rfl) Zbls,D_eq _ _ _ _ _ _ _ (by simp[h]) (by simp[h]) (by simp[h])]⟩
  ·exact⟨_,Zis k n (by rw[h];exact Z98),by rw[Ziz k m (by rw[h];kernel_rfl) Zbls,D_eq _ _ _ _ _ _ _ (by simp[h]) (by simp[h]) (by simp[h])]⟩
def endB:Bool→Bool⊕Unit
 | true=>.inr ()
 | false=>.inl false
def eqI (x y:Zn):Bool:=sEq x.Name y.Name&&decide (keyf x.Score=keyf y.Score)
def eqL:List Zn→List Zn→Bool
 | [],[]=>true
 | x::xs,y::ys=>eqI x y&&eqL xs ys
 | _,_=>false
def Zpc (a b:Zb):Bool:=(a.Kind==b.Kind)&&(a.Num==b.Num)&&(a.Low==b.Low)&&(a.High==b.High)&&decide (keyf a.Real=keyf b.Real)&&(a.Cap==b.Cap)&&sEq a.Text b.Text&&eqL a.List b.List
theorem Zz1:∀{a b:List Zn},eqL a b=true→a.length=b.length
 | [],[],_=>rfl
 | x::xs,y::ys,h=>by
  simp only[eqL,Zb15]at h
  simp[Zz1 h.2]
 | [],_::_,h=>by simp[eqL]at h
 | _::_,[],h=>by simp[eqL]at h
theorem Zbjj {x y:Zn} (h:x.Score<W64) (k:y.Score<W64):Zmj x y=some (eqI x y):=by
 unfold Zmj eqI
 rw[Zt6 h k]
 cases sEq x.Name y.Name <;> simp[gd]
theorem Z9s {a b:List Zn} (p:∀e∈a,e.Score<W64) (q:∀e∈b,e.Score<W64) (r:a.length<4611686018427387904) (s:a.length=b.length):∀(n i:Nat),i+n=a.length →
  Zcd a b (fun y0 y1=>Zmj y0 y1) (n+1) (i:Int)=some (endB (eqL (a.drop i) (b.drop i)))
 | 0,i,h=>by
  rw[Zcd,if_neg (by simp;omega),Zb1n (by omega),Zb1n (by omega)]
  rfl
 | n+1,i,h=>by
  have k:i<a.length:=by omega
  have m:i<b.length:=by omega
  rw[Zcd,if_pos (by simp;omega),Zc0 k,Zc0 m,wr1 (by omega)]
  simp only[Zb1e]
  rw[Zbjj (p _ (Zb1p k)) (q _ (Zb1p m)),Zb1l k,Zb1l m]
  simp only[Zb1e,eqL]
  cases hq:eqI a[i] b[i]
  ·simp[endB]
  ·simp only[Zb10,Zb1h,if_false,Zb1o]
   exact Z9s p q r s n (i+1) (by omega)
theorem Zbqj {a b:List Zn} (m:∀e∈a,e.Score<W64) (n:∀e∈b,e.Score<W64) (p:a.length<4611686018427387904):Zc2 a b (fun y0 y1=>Zmj y0 y1)=some (eqL a b):=by
 unfold Zc2
 by_cases k:a.length=b.length
 ·rw[if_neg (by simp;omega),show (Zb1j ((a.length:Int)-(0:Int))+1)=a.length+1 by omega]
  have:=Z9s m n p k a.length 0 (by omega)
  rw[show ((0:Nat):Int)=0 from rfl]at this
  rw[this]
  simp only[Zb1z]
  cases eqL a b <;> simp[endB]
 ·rw[if_pos (by simp;omega)]
  cases h:eqL a b
  ·rfl
  ·exact absurd (Zz1 h) k
theorem Zbjl {a b:Zb} (h:Zla a) (k:Zla b):Zut a b=some (Zpc a b):=by
 unfold Zut Zpc
 rw[Zt6 h.real k.real,Zbqj h.sc k.sc h.len]
 generalize (a.Kind==b.Kind)=x1
 generalize (a.Num==b.Num)=x2
 generalize (a.Low==b.Low)=x3
 generalize (a.High==b.High)=x4
 generalize decide (keyf a.Real=keyf b.Real)=x5
 generalize (a.Cap==b.Cap)=x6
 generalize sEq a.Text b.Text=x7
 generalize eqL a.List b.List=x8
 revert x1 x2 x3 x4 x5 x6 x7 x8
 decide
theorem Z3n {a b:Zb} (k:Zla a) (q:Zla b) (u:a.List.length=b.List.length):∀(n i:Nat),i+n=a.List.length →
  Zf4 a b (n+1) (i:Int)=some (endB (eqL (a.List.drop i) (b.List.drop i)))
 | 0,i,h=>by
  rw[Zf4,if_neg (by simp;omega),Zb1n (by omega),Zb1n (by omega)]
  rfl
 | n+1,i,h=>by
  have m:i<a.List.length:=by omega
  have p:i<b.List.length:=by omega
  have hl:=k.len
  have r:=k.sc _ (Zb1p m)
  have s:=q.sc _ (Zb1p p)
  rw[Zf4,if_pos (by simp;omega),Zc0 m,Zc0 p,wr1 (by omega),Zb1l m,Zb1l p]
  simp only[Zb1e,eqL,eqI]
  cases hn:sEq a.List[i].Name b.List[i].Name
  ·simp[gd,endB]
  ·simp only[Zb10,Zb1v,gd_t,Zb1e]
   rw[Zsd r s]
   simp only[Zb1e,Zb1u,Zb1o]
   by_cases t:keyf a.List[i].Score=keyf b.List[i].Score
   ·simp only[t,decide_true,Zb10,Zb1h,if_false,Zb1o]
    exact Z3n k q u n (i+1) (by omega)
   ·simp[t,endB]
theorem Z6y {a b:Zb} (n:Zla a) (p:Zla b):Zji a b=some (Zpc a b):=by
 unfold Zji Zpc
 rw[Zsd n.real p.real]
 by_cases m:a.List.length=b.List.length
 ·have:=Z3n n p m a.List.length 0 (by omega)
  rw[show ((0:Nat):Int)=0 from rfl]at this
  rw[show (Zb1j ((a.List.length:Int)-(0:Int))+1)=a.List.length+1 by omega,this]
  have k:((a.List.length:Int)!=(b.List.length:Int))=false:=by simp;omega
  rw[k]
  simp only[Zb1z,bne]
  generalize (a.Kind==b.Kind)=x1
  generalize (a.Num==b.Num)=x2
  generalize (a.Low==b.Low)=x3
  generalize (a.High==b.High)=x4
  generalize decide (keyf a.Real=keyf b.Real)=x5
  generalize (a.Cap==b.Cap)=x6
  generalize sEq a.Text b.Text=x7
  generalize eqL a.List b.List=x8
  clear this k m
  revert x1 x2 x3 x4 x5 x6 x7 x8
  decide
 ·have q:eqL a.List b.List=false:=by
   cases h:eqL a.List b.List
   ·rfl
   ·exact absurd (Zz1 h) m
  have k:((a.List.length:Int)!=(b.List.length:Int))=true:=by simp;omega
  rw[k,q]
  simp only[bne,Bool.or_true,Zb1e,if_true,Zb2x,ite_self]
theorem Z3k {a:Zb} (k:a.List.length≤9223372036854775807):∀(n i:Nat),i+n=a.List.length→∃z,Zgq a (n+1) (i:Int)=some z∧(z=.inl 1∨z=.inr ())
 | 0,i,h=>by
  rw[Zgq,if_neg (by simp;omega)]
  exact⟨_,rfl,.inr rfl⟩
 | n+1,i,h=>by
  rw[Zgq,if_pos (by simp;omega),Zc0 (by omega),wr1 (by omega)]
  simp only[Zb1e]
  split
  ·exact⟨_,rfl,.inl rfl⟩
  ·exact Z3k k n (i+1) (by omega)
theorem Zbr7 {a:Zb} (m:a.List.length≤9223372036854775807):∃c,Zmx a=some c∧(c=0∨c=1)∧(c=0→a.List.length≤100):=by
 unfold Zmx
 by_cases h:(100:Int)<a.List.length∨(1000:Int)<a.Text.size
 ·rw[if_pos (by simpa using h)]
  exact⟨1,rfl,.inr rfl,fun h=>by cases h⟩
 ·rw[if_neg (by simpa using h),show (Zb1j ((a.List.length:Int)-(0:Int))+1)=a.List.length+1 by omega]
  obtain⟨z,k,n⟩:=Z3k m a.List.length 0 (by omega)
  rw[show ((0:Nat):Int)=0 from rfl]at k
  rw[k]
  rcases n with rfl | rfl
  ·exact⟨1,rfl,.inr rfl,fun h=>by cases h⟩
  ·exact⟨0,rfl,.inl rfl,fun _=>by omega⟩
theorem Zwk {β:Type} [Inhabited β] (c:Bool) (v:β):gd c (some v)=some (if c then v else default):=by cases c <;> rfl
def Z2w (a:Zw):Prop:=Zla a.Make∧a.X<W64
abbrev zrc:Zb:={Kind:=0,Num:=0,Low:=0,High:=0,Real:=0,Cap:=0,Text:=ByteArray.empty,List:=[]}
theorem Zbit:Zla zrc:=⟨by decide,by decide,fun e h=>by cases h⟩
def actD (n x s m o1 k1 k2:Bool) (c:Int) (a:Zw):Int :=
 if (sEq a.Key ⟨#[]⟩||decide ((24:Int)<a.Key.size))=true then 1
 else if (!(((n||a.N==0)&&(x||decide (keyf a.X=keyf 0)))&&(s||sEq a.S ⟨#[]⟩)&&(m||Zpc a.Make zrc)))=true then 4
 else if decide ((if o1=true then (64:Int)else 16)<a.S.size)=true then 3
 else if (k2&&(decide (a.N<0)||decide (2305843009213693952<a.N)))=true then 1
 else if (!decide (a.X=Zcs a.X))=true then 4
 else if k1=true then c else 0
theorem Zboh (k:ByteArray):(decide ((k.size:Int)<1))=sEq k ⟨#[]⟩:=by
 by_cases h:k=⟨#[]⟩
 ·subst h;rw[Zh2];decide
 ·rw[Zge.2 h]
  have:k.size≠0:=fun e=>h (by
   apply ByteArray.ext
   exact Array.size_eq_zero_iff.1 e)
  simp;omega
theorem Z56 {a:Zw} (h:Z2w a) {w has:ByteArray} {on c:Int} {n x s m:Bool} (k:Zeg a.Make=some c) (p:Znm a.Kind=some ⟨w,on,has⟩) (q:sEq w ⟨#[]⟩=false)
  (fn:Zb8 ⟨w,on,has⟩ 110=some n) (fx:Zb8 ⟨w,on,has⟩ 120=some x) (fs:Zb8 ⟨w,on,has⟩ 115=some s) (fm:Zb8 ⟨w,on,has⟩ 109=some m) :
  Ze7 a=some (actD n x s m (on==1) (a.Kind==1) (a.Kind==10||a.Kind==11) c a):=by
 have r:(0:Nat)<W64:=by decide
 unfold Ze7 Zwy Zq7
 rw[p]
 simp only[Zb1e,q,Zb1h,if_false,fn,fx,fs,fm,Zwk]
 rw[Zt6 h.2 r,Zbjl h.1 Zbit,Zzo h.2,k]
 simp only[Zb1e,Zwk]
 unfold actD
 generalize (sEq a.Key ⟨#[]⟩||decide ((24:Int)<a.Key.size))=b1
 generalize (a.N==0)=b2
 generalize decide (keyf a.X=keyf 0)=b3
 generalize sEq a.S ⟨#[]⟩=b4
 generalize Zpc a.Make zrc=b5
 generalize (a.Kind==10||a.Kind==11)=b6
 generalize (a.Kind==1)=b7
 generalize (decide (a.N<0)||decide (2305843009213693952<a.N))=b8
 generalize decide (a.X=Zcs a.X)=b9
 have e1:decide ((64:Int)<a.S.size)=decide ((if true=true then (64:Int)else 16)<a.S.size):=rfl
 cases b1
 ·have t:∀(z:Bool),((if z=true then some (64:Int)else some 16).bind fun r8=>(if decide (r8<(a.S.size:Int))=true then some (3:Int)else if (b6&&b8)=true then some 1 else if (!b9)=true then some 4 else if b7=true then some c else some 0))=some (if decide ((if z=true then (64:Int)else 16)<a.S.size)=true then 3 else if (b6&&b8)=true then 1 else if (!b9)=true then 4 else if b7=true then c else 0):=by
   intro z
   cases z <;> simp only[Zb1h,if_false,if_true,Zb1e] <;> (repeat' split) <;> rfl
  rw[t]
  cases n <;> cases x <;> cases s <;> cases m <;> cases b2 <;> cases b3 <;> cases b4 <;> cases b5 <;> rfl
 ·rfl
theorem Zbgd {a:Zw} (k:Z2w a) {on c:Int} {n x s m:Bool} (v:Zeu a.Make=some c) (w:¬(a.Kind<1∨21<a.Kind)) (ro:Zgh a.Kind=some on)
  (fn:Zfm a.Kind 110=some n) (fx:Zfm a.Kind 120=some x) (fs:Zfm a.Kind 115=some s) (fm:m=(a.Kind==1)) :
  Zf7 a=some (actD n x s m (on==1) (a.Kind==1) (a.Kind==10||a.Kind==11) c a):=by
 have y:(0:Nat)<W64:=by decide
 unfold Zf7
 rw[if_neg (by simpa using w),fn,fx,fs,ro]
 simp only[Zb1e,Zwk,Zboh]
 rw[Zsd k.2 y,Z6y k.1 Zbit,Zw3 k.2,v]
 simp only[Zb1e,Zwk]
 unfold actD
 subst fm
 have p:((on==1&&decide ((64:Int)<a.S.size))||((if (!(on==1&&decide ((64:Int)<a.S.size)))=true then on else default)!=1&&decide ((16:Int)<a.S.size)))=decide ((if (on==1)=true then (64:Int)else 16)<a.S.size):=by
  by_cases q:on=1
  ·subst q
   by_cases r:(64:Int)<a.S.size <;> simp[r]
  ·have t:(on==1)=false:=by simpa using q
   have u:(on !=1)=true:=by simpa using q
   simp[t,u]
 rw[p,show (a.N !=0)=!(a.N==0) from rfl,show (a.Kind !=1)=!(a.Kind==1) from rfl]
 generalize decide ((if (on==1)=true then (64:Int)else 16)<a.S.size)=b10
 generalize (sEq a.Key ⟨#[]⟩||decide ((24:Int)<a.Key.size))=b1
 generalize (a.N==0)=b2
 generalize decide (keyf a.X=keyf 0)=b3
 generalize sEq a.S ⟨#[]⟩=b4
 generalize Zpc a.Make zrc=b5
 generalize (a.Kind==10||a.Kind==11)=b6
 generalize (a.Kind==1)=b7
 generalize (decide (a.N<0)||decide (2305843009213693952<a.N))=b8
 generalize decide (a.X=Zcs a.X)=b9
 have h:(if b10=true then some (3:Int)else if (b6&&b8)=true then some 1 else if (!b9)=true then some 4 else if b7=true then some c else some 0)=some (if b10=true then 3 else if (b6&&b8)=true then 1 else if (!b9)=true then 4 else if b7=true then c else 0):=by
  (repeat' split) <;> rfl
 rw[h]
 cases b1
 ·cases n <;> cases x <;> cases s <;> cases b7 <;> cases b2 <;> cases b3 <;> cases b4 <;> cases b5 <;> rfl
 ·rfl
theorem Zbg7 {n x s m o1 k1 k2:Bool} {c:Int} {a:Zw} (h:actD n x s m o1 k1 k2 c a=0):(sEq a.Key ⟨#[]⟩||decide ((24:Int)<a.Key.size))=false∧decide ((if o1=true then (64:Int)else 16)<a.S.size)=false∧(k2&&(decide (a.N<0)||decide (2305843009213693952<a.N)))=false∧decide (a.X=Zcs a.X)=true∧(k1=true→c=0):=by
 unfold actD at h
 revert h
 generalize (sEq a.Key ⟨#[]⟩||decide ((24:Int)<a.Key.size))=b1
 generalize decide ((if o1=true then (64:Int)else 16)<a.S.size)=b3
 generalize (k2&&(decide (a.N<0)||decide (2305843009213693952<a.N)))=b4
 generalize decide (a.X=Zcs a.X)=b5
 generalize (!(((n||a.N==0)&&(x||decide (keyf a.X=keyf 0)))&&(s||sEq a.S ⟨#[]⟩)&&(m||Zpc a.Make zrc)))=b2
 cases b1 <;> cases b2 <;> cases b3 <;> cases b4 <;> cases b5 <;> cases k1 <;> simp
theorem Zri {a:Zw} (p:Z2w a):∃c,Ze7 a=some c∧Zf7 a=some c∧(c=0→1≤a.Kind∧a.Kind≤21∧a.X=Zcs a.X∧a.S.size≤64∧((a.Kind=10∨a.Kind=11)→0≤a.N∧a.N≤2305843009213693952)∧(a.Kind=1→Zeg a.Make=some 0)∧(¬(5≤a.Kind∧a.Kind≤6)→a.S.size≤16)∧sEq a.Key ⟨#[]⟩=false∧a.Key.size≤24):=by
 by_cases q:a.Kind<1∨21<a.Kind
 ·refine⟨5,?_,?_,fun h=>by cases h⟩
  ·unfold Ze7 Znm
   rw[if_pos (by simp;omega)]
   simp only[Zb1e]
   rw[if_pos (show sEq ByteArray.empty ⟨#[]⟩=true by kernel_rfl)]
  ·unfold Zf7
   rw[if_pos (by simpa using q)]
 ·obtain⟨c,k,r⟩:=Zp4 p.1
  have fin:∀{w has:ByteArray} {on:Int} {n x s m:Bool},Znm a.Kind=some ⟨w,on,has⟩→sEq w ⟨#[]⟩=false→Zb8 ⟨w,on,has⟩ 110=some n→Zb8 ⟨w,on,has⟩ 120=some x→Zb8 ⟨w,on,has⟩ 115=some s→Zb8 ⟨w,on,has⟩ 109=some m →
    Zgh a.Kind=some on→Zfm a.Kind 110=some n→Zfm a.Kind 120=some x→Zfm a.Kind 115=some s→m=(a.Kind==1)→((on==1)=true→5≤a.Kind∧a.Kind≤6) →
    ∃c,Ze7 a=some c∧Zf7 a=some c∧(c=0→1≤a.Kind∧a.Kind≤21∧a.X=Zcs a.X∧a.S.size≤64∧((a.Kind=10∨a.Kind=11)→0≤a.N∧a.N≤2305843009213693952)∧(a.Kind=1→Zeg a.Make=some 0)∧(¬(5≤a.Kind∧a.Kind≤6)→a.S.size≤16)∧sEq a.Key ⟨#[]⟩=false∧a.Key.size≤24):=by
   intro w has on n x s m y z fn fx fs fm ro rn rx rs b t
   refine⟨_,Z56 p k y z fn fx fs fm,by rw[b];exact Zbgd p r q ro rn rx rs rfl,fun d=>?_⟩
   obtain⟨g1,g3,g4,g5,g6⟩:=Zbg7 d
   simp only[Zb2q,decide_eq_false_iff_not]at g1
   have g3':¬(if (on==1)=true then (64:Int)else 16)<a.S.size:=of_decide_eq_false g3
   refine⟨by omega,by omega,of_decide_eq_true g5,?_,fun h=>?_,fun h=>?_,fun h=>?_,g1.1,by omega⟩
   ·split at g3' <;> omega
   ·have u:(a.Kind==10||a.Kind==11)=true:=by simpa using h
    rw[u]at g4
    simp only[Zb1o,Zb2q,decide_eq_false_iff_not]at g4
    omega
   ·rw[k,g6 (by simp[h])]
   ·rw[if_neg (fun e=>h (t e))]at g3'
    omega
  have v:a.Kind=1∨a.Kind=2∨a.Kind=3∨a.Kind=4∨a.Kind=5∨a.Kind=6∨a.Kind=7∨a.Kind=8∨a.Kind=9∨a.Kind=10∨a.Kind=11∨a.Kind=12∨a.Kind=13∨a.Kind=14∨a.Kind=15∨a.Kind=16∨a.Kind=17∨a.Kind=18∨a.Kind=19∨a.Kind=20∨a.Kind=21:=by omega
  rcases v with h | h | h | h | h | h | h | h | h | h | h | h | h | h | h | h | h | h | h | h | h <;> rw[h]at fin⊢
  ·exact fin (w:=⟨#[110,101,119]⟩) (on:=0) (has:=⟨#[109]⟩) (n:=false) (x:=false) (s:=false) (m:=true) (by kernel_rfl) (by kernel_rfl) (by kernel_rfl) (by kernel_rfl) (by kernel_rfl) (by kernel_rfl) (by kernel_rfl) (by kernel_rfl) (by kernel_rfl) (by kernel_rfl) (by decide) (by decide)
  ·exact fin (w:=⟨#[100,114,111,112]⟩) (on:=0) (has:=⟨#[]⟩) (n:=false) (x:=false) (s:=false) (m:=false) (by kernel_rfl) (by kernel_rfl) (by kernel_rfl) (by kernel_rfl) (by kernel_rfl) (by kernel_rfl) (by kernel_rfl) (by kernel_rfl) (by kernel_rfl) (by kernel_rfl) (by decide) (by decide)
  ·exact fin (w:=⟨#[105,115]⟩) (on:=0) (has:=⟨#[]⟩) (n:=false) (x:=false) (s:=false) (m:=false) (by kernel_rfl) (by kernel_rfl) (by kernel_rfl) (by kernel_rfl) (by kernel_rfl) (by kernel_rfl) (by kernel_rfl) (by kernel_rfl) (by kernel_rfl) (by kernel_rfl) (by decide) (by decide)
  ·exact fin (w:=⟨#[108,111,111,107]⟩) (on:=0) (has:=⟨#[]⟩) (n:=false) (x:=false) (s:=false) (m:=false) (by kernel_rfl) (by kernel_rfl) (by kernel_rfl) (by kernel_rfl) (by kernel_rfl) (by kernel_rfl) (by kernel_rfl) (by kernel_rfl) (by kernel_rfl) (by kernel_rfl) (by decide) (by decide)
  ·exact fin (w:=⟨#[112,117,116]⟩) (on:=1) (has:=⟨#[115]⟩) (n:=false) (x:=false) (s:=true) (m:=false) (by kernel_rfl) (by kernel_rfl) (by kernel_rfl) (by kernel_rfl) (by kernel_rfl) (by kernel_rfl) (by kernel_rfl) (by kernel_rfl) (by kernel_rfl) (by kernel_rfl) (by decide) (by decide)
  ·exact fin (w:=⟨#[115,119,97,112]⟩) (on:=1) (has:=⟨#[115]⟩) (n:=false) (x:=false) (s:=true) (m:=false) (by kernel_rfl) (by kernel_rfl) (by kernel_rfl) (by kernel_rfl) (by kernel_rfl) (by kernel_rfl) (by kernel_rfl) (by kernel_rfl) (by kernel_rfl) (by kernel_rfl) (by decide) (by decide)
  ·exact fin (w:=⟨#[97,100,100]⟩) (on:=2) (has:=⟨#[110]⟩) (n:=true) (x:=false) (s:=false) (m:=false) (by kernel_rfl) (by kernel_rfl) (by kernel_rfl) (by kernel_rfl) (by kernel_rfl) (by kernel_rfl) (by kernel_rfl) (by kernel_rfl) (by kernel_rfl) (by kernel_rfl) (by decide) (by decide)
  ·exact fin (w:=⟨#[112,108,117,115]⟩) (on:=3) (has:=⟨#[110]⟩) (n:=true) (x:=false) (s:=false) (m:=false) (by kernel_rfl) (by kernel_rfl) (by kernel_rfl) (by kernel_rfl) (by kernel_rfl) (by kernel_rfl) (by kernel_rfl) (by kernel_rfl) (by kernel_rfl) (by kernel_rfl) (by decide) (by decide)
  ·exact fin (w:=⟨#[114,101,97,99,104]⟩) (on:=3) (has:=⟨#[110]⟩) (n:=true) (x:=false) (s:=false) (m:=false) (by kernel_rfl) (by kernel_rfl) (by kernel_rfl) (by kernel_rfl) (by kernel_rfl) (by kernel_rfl) (by kernel_rfl) (by kernel_rfl) (by kernel_rfl) (by kernel_rfl) (by decide) (by decide)
  ·exact fin (w:=⟨#[105,110]⟩) (on:=4) (has:=⟨#[110]⟩) (n:=true) (x:=false) (s:=false) (m:=false) (by kernel_rfl) (by kernel_rfl) (by kernel_rfl) (by kernel_rfl) (by kernel_rfl) (by kernel_rfl) (by kernel_rfl) (by kernel_rfl) (by kernel_rfl) (by kernel_rfl) (by decide) (by decide)
  ·exact fin (w:=⟨#[111,117,116]⟩) (on:=4) (has:=⟨#[110]⟩) (n:=true) (x:=false) (s:=false) (m:=false) (by kernel_rfl) (by kernel_rfl) (by kernel_rfl) (by kernel_rfl) (by kernel_rfl) (by kernel_rfl) (by kernel_rfl) (by kernel_rfl) (by kernel_rfl) (by kernel_rfl) (by decide) (by decide)
  ·exact fin (w:=⟨#[101,110,111,117,103,104]⟩) (on:=4) (has:=⟨#[110]⟩) (n:=true) (x:=false) (s:=false) (m:=false) (by kernel_rfl) (by kernel_rfl) (by kernel_rfl) (by kernel_rfl) (by kernel_rfl) (by kernel_rfl) (by kernel_rfl) (by kernel_rfl) (by kernel_rfl) (by kernel_rfl) (by decide) (by decide)
  ·exact fin (w:=⟨#[114,97,105,115,101]⟩) (on:=5) (has:=⟨#[120]⟩) (n:=false) (x:=true) (s:=false) (m:=false) (by kernel_rfl) (by kernel_rfl) (by kernel_rfl) (by kernel_rfl) (by kernel_rfl) (by kernel_rfl) (by kernel_rfl) (by kernel_rfl) (by kernel_rfl) (by kernel_rfl) (by decide) (by decide)
  ·exact fin (w:=⟨#[108,111,119,101,114]⟩) (on:=6) (has:=⟨#[120]⟩) (n:=false) (x:=true) (s:=false) (m:=false) (by kernel_rfl) (by kernel_rfl) (by kernel_rfl) (by kernel_rfl) (by kernel_rfl) (by kernel_rfl) (by kernel_rfl) (by kernel_rfl) (by kernel_rfl) (by kernel_rfl) (by decide) (by decide)
  ·exact fin (w:=⟨#[115,104,105,102,116]⟩) (on:=7) (has:=⟨#[120]⟩) (n:=false) (x:=true) (s:=false) (m:=false) (by kernel_rfl) (by kernel_rfl) (by kernel_rfl) (by kernel_rfl) (by kernel_rfl) (by kernel_rfl) (by kernel_rfl) (by kernel_rfl) (by kernel_rfl) (by kernel_rfl) (by decide) (by decide)
  ·exact fin (w:=⟨#[115,99,97,108,101]⟩) (on:=7) (has:=⟨#[120]⟩) (n:=false) (x:=true) (s:=false) (m:=false) (by kernel_rfl) (by kernel_rfl) (by kernel_rfl) (by kernel_rfl) (by kernel_rfl) (by kernel_rfl) (by kernel_rfl) (by kernel_rfl) (by kernel_rfl) (by kernel_rfl) (by decide) (by decide)
  ·exact fin (w:=⟨#[102,105,120]⟩) (on:=7) (has:=⟨#[120]⟩) (n:=false) (x:=true) (s:=false) (m:=false) (by kernel_rfl) (by kernel_rfl) (by kernel_rfl) (by kernel_rfl) (by kernel_rfl) (by kernel_rfl) (by kernel_rfl) (by kernel_rfl) (by kernel_rfl) (by kernel_rfl) (by decide) (by decide)
  ·exact fin (w:=⟨#[106,111,105,110]⟩) (on:=8) (has:=⟨#[115]⟩) (n:=false) (x:=false) (s:=true) (m:=false) (by kernel_rfl) (by kernel_rfl) (by kernel_rfl) (by kernel_rfl) (by kernel_rfl) (by kernel_rfl) (by kernel_rfl) (by kernel_rfl) (by kernel_rfl) (by kernel_rfl) (by decide) (by decide)
  ·exact fin (w:=⟨#[108,101,97,118,101]⟩) (on:=8) (has:=⟨#[115]⟩) (n:=false) (x:=false) (s:=true) (m:=false) (by kernel_rfl) (by kernel_rfl) (by kernel_rfl) (by kernel_rfl) (by kernel_rfl) (by kernel_rfl) (by kernel_rfl) (by kernel_rfl) (by kernel_rfl) (by kernel_rfl) (by decide) (by decide)
  ·exact fin (w:=⟨#[104,97,115]⟩) (on:=8) (has:=⟨#[115]⟩) (n:=false) (x:=false) (s:=true) (m:=false) (by kernel_rfl) (by kernel_rfl) (by kernel_rfl) (by kernel_rfl) (by kernel_rfl) (by kernel_rfl) (by kernel_rfl) (by kernel_rfl) (by kernel_rfl) (by kernel_rfl) (by decide) (by decide)
  ·exact fin (w:=⟨#[111,102,102,101,114]⟩) (on:=9) (has:=⟨#[120,115]⟩) (n:=false) (x:=true) (s:=true) (m:=false) (by kernel_rfl) (by kernel_rfl) (by kernel_rfl) (by kernel_rfl) (by kernel_rfl) (by kernel_rfl) (by kernel_rfl) (by kernel_rfl) (by kernel_rfl) (by kernel_rfl) (by decide) (by decide)
abbrev Zet:=List Zn
def NS (l:Zet):Prop:=l.Pairwise fun p q=>sLt p.Name q.Name=true
def pre (f:Zn→Bool):Zet→Nat
 | []=>0
 | e::r=>if f e then pre f r+1 else 0
theorem Zus (f:Zn→Bool):∀l:Zet,pre f l≤l.length
 | []=>Zb18 _
 | e::r=>by
  have:=Zus f r
  simp only[pre]
  split <;> simp <;> omega
theorem Zbbw {f:Zn→Bool}:∀{l:Zet} {k:Nat} (h:k<pre f l),∃e,l[k]?=some e∧f e=true
 | [],k,h=>by simp[pre]at h
 | e::r,k,h=>by
  simp only[pre]at h
  split at h
  ·rename_i m
   cases k with
   | zero=>exact⟨e,rfl,m⟩
   | succ k=>exact Zbbw (l:=r) (by omega)
  ·omega
theorem Z4c {f:Zn→Bool}:∀{l:Zet} {e:Zn},l[pre f l]?=some e→f e=false
 | [],e,h=>by simp[pre]at h
 | x::r,e,h=>by
  simp only[pre]at h
  split at h
  ·exact Z4c (l:=r) (by simpa using h)
  ·rename_i k
   simp at h;subst h;simpa using k
theorem Z1q {s:ByteArray} {l:Zet} (hs:NS l) {k:Nat} (n:k<l.length):sLt (l[k]).Name s=decide (k<pre (fun e=>sLt e.Name s) l):=by
 by_cases h:k<pre (fun e=>sLt e.Name s) l
 ·obtain⟨e,p,u⟩:=Zbbw h
  rw[Zb1g n]at p
  obtain rfl:=Zb2l.inj p
  simp only[h,decide_true];exact u
 ·simp only[h,decide_false]
  have q:pre (fun e=>sLt e.Name s) l<l.length:=by omega
  have m:=Z4c (Zb1g q)
  rcases Nat.lt_or_eq_of_le (Nat.le_of_not_lt h)with r | t
  ·have v:=Zb2g.1 hs _ _ q n r
   cases w:sLt (l[k]).Name s
   ·rfl
   ·rw[Zih v w]at m;cases m
  ·have:l[k]=l[pre (fun e=>sLt e.Name s) l]:=by congr 1;exact t.symm
   rw[this];exact m
theorem half {i j:Nat} (h:i+j<4611686018427387904):Zb1i.wrap (Zb2w (Zb1t.wrap (Zb1i.wrap ((i:Int)+(j:Int)))) (2^1))=(((i+j)/2:Nat):Int):=by
 rw[wr (x:=(i:Int)+j) (by omega) (by omega),wru (by omega) (by omega)]
 have:Zb2w ((i:Int)+j) (2^1)=(((i+j)/2:Nat):Int):=by
  rw[Zb11 _ (by decide)];omega
 rw[this,wr (by omega) (by omega)]
theorem Zbli (e:Zn) (s:ByteArray):∃c:Int,Zm8 e s=some c∧decide (c<0)=sLt e.Name s∧(c==0)=sEq e.Name s:=by
 unfold Zm8
 by_cases h:sLt e.Name s=true
 ·exact⟨-1,by rw[if_pos h],by rw[h];rfl,by rw[Zge.2 (Zrr h)];rfl⟩
 ·have h':sLt e.Name s=false:=by simpa using h
  by_cases k:e.Name=s
  ·exact⟨0,by rw[if_neg h,h',Zko.2 k];rfl,by rw[h'];rfl,by rw[Zko.2 k];rfl⟩
  ·exact⟨1,by rw[if_neg h,h',Zge.2 k];rfl,by rw[h'];rfl,by rw[Zge.2 k];rfl⟩
theorem Z5e {l:Zet} {s:ByteArray} (hs:NS l) (m:l.length<2305843009213693952):∀(n i j:Nat),j-i<n→i≤pre (fun e=>sLt e.Name s) l→pre (fun e=>sLt e.Name s) l≤j→j≤l.length →
  Zca l s (fun y0 y1=>Zm8 y0 y1) n (i:Int) (j:Int)=some ((pre (fun e=>sLt e.Name s) l:Nat):Int)
 | 0,i,j,h,_,_,_=>by omega
 | n+1,i,j,h,t,u,v=>by
  rw[Zca]
  by_cases k:i<j
  ·rw[if_pos (by simpa using k),half (by omega)]
   have p:(i+j)/2<l.length:=by omega
   rw[Zc0 p]
   obtain⟨c,w,q,_⟩:=Zbli l[(i+j)/2] s
   simp only[Zb1e,w]
   rw[q,Z1q hs p]
   unfold Zc8
   by_cases r:(i+j)/2<pre (fun e=>sLt e.Name s) l
   ·rw[if_pos (by simpa using r),wr1 (by omega)]
    exact Z5e hs m n ((i+j)/2+1) j (by omega) (by omega) u v
   ·rw[if_neg (by simpa using r)]
    exact Z5e hs m n i ((i+j)/2) (by omega) t (by omega) (by omega)
  ·rw[if_neg (by simpa using k)]
   congr 2;omega
def isAt (s:ByteArray) (l:Zet):Bool:=match l[pre (fun e=>sLt e.Name s) l]? with
 | some e=>sEq e.Name s
 | none=>false
theorem Zt5 {l:Zet} {s:ByteArray} (hs:NS l) (n:l.length<2305843009213693952):Zpm l s=some (((pre (fun e=>sLt e.Name s) l:Nat):Int),isAt s l):=by
 unfold Zpm Zd1
 have:=Z5e (s:=s) hs n (l.length+1) 0 l.length (by omega) (Zb3e _) (Zus _ _) (Zb18 _)
 rw[show ((0:Nat):Int)=0 from rfl]at this
 rw[show (Zb1j ((l.length:Int)-(0:Int))+1)=l.length+1 by omega,this]
 simp only[Zb1e]
 unfold isAt
 by_cases h:pre (fun e=>sLt e.Name s) l<l.length
 ·have k:decide (((pre (fun e=>sLt e.Name s) l:Nat):Int)<(l.length:Int))=true:=by simpa using h
  rw[k,Zc0 h,Zb1g h]
  obtain⟨c,p,_,m⟩:=Zbli l[pre (fun e=>sLt e.Name s) l] s
  simp only[gd_t,Zb1e,p,Zb1o,m]
 ·have k:decide (((pre (fun e=>sLt e.Name s) l:Nat):Int)<(l.length:Int))=false:=by simpa using h
  rw[k,Zb12 (by omega)]
  rfl
def goL (f g:Zn→Bool) (x:Zn):Zet→Bool→Zet×Bool
 | [],d=>([],d)
 | e::r,d=>if (!d&&!f e)=true then ((if g e then []else [x])++e::(goL f g x r true).1,(goL f g x r true).2)else (e::(goL f g x r d).1,(goL f g x r d).2)
theorem Zbll (f g:Zn→Bool) (x:Zn):∀l:Zet,goL f g x l true=(l,true)
 | []=>rfl
 | e::r=>by simp[goL,Zbll f g x r]
theorem Zbly (f g:Zn→Bool) (x:Zn):∀l:Zet,goL f g x l false=match l[pre f l]? with
  | some e=>(l.take (pre f l)++(if g e then []else [x])++l.drop (pre f l),true)
  | none=>(l,false)
 | []=>rfl
 | e::r=>by
  simp only[goL,pre]
  by_cases h:f e=true
  ·simp only[h,Zb10,Zb2x,Zb1h,if_false,if_true]
   rw[Zbly f g x r]
   simp only[List.getElem?_cons_succ]
   cases r[pre f r]? <;> simp
  ·have k:f e=false:=by simpa using h
   simp only[k,Zb1v,Bool.and_self,if_true,Zb1h,if_false,Zbll,List.getElem?_cons_zero,Zb30,Zb2r,Zb1z]
def Zfb (x:Zn) (nm:Bool) (e:Zn):Bool:=if nm then sLt e.Name x.Name else Zej e x
def Zq0 (x:Zn) (nm:Bool) (e:Zn):Bool:=sEq e.Name x.Name&&(nm||decide (keyf e.Score=keyf x.Score))
theorem Zbhg {l:Zet} {x:Zn} {nm:Bool} (h:x.Score<W64) (k:∀e∈l,e.Score<W64) {n i:Nat} {out:Zet} {d:Bool} (m:i<l.length) :
  Zc9 l x nm (n+1) out d (i:Int)=(if (!d&&!Zfb x nm l[i])=true then (if (!Zq0 x nm l[i])=true then (if (out.length+([x]:List Zn).length)*24≤140737488355328 then Ze2 l (i:Int) (Zc9 l x nm n) (out++[x]) true else none)else Ze2 l (i:Int) (Zc9 l x nm n) out true)else Ze2 l (i:Int) (Zc9 l x nm n) out d):=by
 have p:=k _ (Zb1p m)
 have q:Zh3 l[i] x=some (Zej l[i] x):=Z8h p h
 have hs:Zex l[i].Score x.Score=some (decide (keyf l[i].Score=keyf x.Score)):=Zsd p h
 rw[Zc9,if_pos (by simp;omega),Zc0 m]
 cases nm
 ·simp only[Zb1v,gd_t,Zb1e,Zb1o,q,Zb2x,gd_f,Zb1y,Bool.or_false,Zb2z,Zb1u,Zfb,Zq0,Zb1h,if_false]
  cases hq:sEq l[i].Name x.Name
  ·simp only[gd_f,Zb1e,Zb1y]
  ·simp only[gd_t,Zb1e,Zb1o,hs]
 ·simp only[Zb10,gd_f,Zb1e,Zb1y,Zb1v,Zb1o,gd_t,Zb1u,Zb3n,Zb2x,Zb2z,Zfb,Zq0,if_true]
theorem Zva {l:Zet} {x:Zn} {nm:Bool} (m:x.Score<W64) (k:∀e∈l,e.Score<W64) (q:l.length<1000000):∀(n i:Nat) (out:Zet) (d:Bool),i+n=l.length→out.length+(if d=true then 0 else 1)≤i+1 →
  Zc9 l x nm (n+1) out d (i:Int)=some (out++(goL (Zfb x nm) (Zq0 x nm) x (l.drop i) d).1,(goL (Zfb x nm) (Zq0 x nm) x (l.drop i) d).2)
 | 0,i,out,d,h,_=>by
  rw[Zc9,if_neg (by simp;omega),Zb1n (by omega)]
  simp[goL]
 | n+1,i,out,d,h,s=>by
  have r:i<l.length:=by omega
  rw[Zbhg m k r,Zb1l r]
  simp only[Ze2,Zc0 r,wr1 (show i<9223372036854775807 by omega),Zb1e,goL]
  by_cases p:(!d&&!Zfb x nm l[i])=true
  ·rw[if_pos p,if_pos p]
   have t:d=false:=by cases d <;> simp_all
   subst t
   simp only[Zb1h,if_false]at s
   by_cases hs:(!Zq0 x nm l[i])=true
   ·rw[if_pos hs,if_pos (by simp;omega),if_pos (by simp;omega),Zva m k q n (i+1) _ true (by omega) (by simp;omega)]
    have:Zq0 x nm l[i]=false:=by simpa using hs
    simp[this]
   ·rw[if_neg hs,if_pos (by simp;omega),Zva m k q n (i+1) _ true (by omega) (by simp;omega)]
    have:Zq0 x nm l[i]=true:=by simpa using hs
    simp[this]
  ·rw[if_neg p,if_neg p,if_pos (by simp;omega),Zva m k q n (i+1) _ d (by omega) (by simp;omega)]
   simp
def layL (x:Zn) (nm:Bool) (l:Zet):Zet:=match l[pre (Zfb x nm) l]? with
 | some e=>l.take (pre (Zfb x nm) l)++(if Zq0 x nm e then []else [x])++l.drop (pre (Zfb x nm) l)
 | none=>l++[x]
theorem Zbdq {l:Zet} {x:Zn} {nm:Bool} (m:x.Score<W64) (k:∀e∈l,e.Score<W64) (n:l.length<1000000):Zho l x nm=some (layL x nm l):=by
 unfold Zho
 have:=Zva (nm:=nm) m k n l.length 0 [] false (by omega) (by simp)
 rw[show ((0:Nat):Int)=0 from rfl]at this
 rw[show (Zb1j ((l.length:Int)-(0:Int))+1)=l.length+1 by omega,this]
 simp only[Zb1e,Zb2r,Zb1z]
 rw[Zbly]
 unfold layL
 cases h:l[pre (Zfb x nm) l]? with
 | none =>
  simp only[Zb1v,if_true,Zh8]
  rw[if_pos (by simp;omega)]
 | some e=>simp only[Zb10,Zb1h,if_false,Zh8]
theorem Zbbl {l:Zet} {s:ByteArray} (q:l.length<1000000):∀(n i:Nat),i+n=l.length→Zgp l s (n+1) (i:Int)=some (cond ((l.drop i).any (fun e=>sEq e.Name s)) (.inl true) (.inr ()))
 | 0,i,h=>by
  rw[Zgp,if_neg (by simp;omega),Zb1n (by omega)];rfl
 | n+1,i,h=>by
  have m:i<l.length:=by omega
  rw[Zgp,if_pos (by simp;omega),Zc0 m,Zb1l m,Zb36]
  simp only[Zb1e]
  by_cases k:sEq l[i].Name s=true
  ·rw[if_pos k,k];rfl
  ·have p:sEq l[i].Name s=false:=by simpa using k
   rw[if_neg k,wr1 (by omega),Zbbl q n (i+1) (by omega),p,Zb1u]
theorem Zbgj {l:Zet} {s:ByteArray} (k:l.length<1000000):Zh7 l s=some (l.any (fun e=>sEq e.Name s)):=by
 unfold Zh7
 have:=Zbbl (s:=s) k l.length 0 (by omega)
 rw[show ((0:Nat):Int)=0 from rfl]at this
 rw[show (Zb1j ((l.length:Int)-(0:Int))+1)=l.length+1 by omega,this]
 simp only[Zb1z]
 cases h:l.any (fun e=>sEq e.Name s) <;> rfl
theorem Zvb {a0:Zb} {a:Zw} (m:a0.List.length<1000000):∀(n i:Nat) (out:Zet),i+n=a0.List.length→out.length≤i→Zeb a0 a (n+1) out (i:Int)=some (out++(a0.List.drop i).filter (fun e=>!sEq e.Name a.S))
 | 0,i,out,h,_=>by
  rw[Zeb,if_neg (by simp;omega),Zb1n (by omega)];simp
 | n+1,i,out,h,ho=>by
  have p:i<a0.List.length:=by omega
  rw[Zeb,if_pos (by simp;omega),Zc0 p,Zb1l p]
  simp only[Zb1e,Zk0,wr1 (show i<9223372036854775807 by omega)]
  rw[Zb3x]
  by_cases k:(!sEq a0.List[i].Name a.S)=true
  ·rw[if_pos k,if_pos k,if_pos (by simp;omega),Zvb m n (i+1) _ (by omega) (by simp;omega),Zb23];rfl
  ·rw[if_neg k,if_neg k,Zvb m n (i+1) _ (by omega) (by omega)]
theorem Z1d {l:Zet} {s:ByteArray} (hs:NS l):(∀e∈l.take (pre (fun e=>sLt e.Name s) l),sEq e.Name s=false)∧(∀e∈l.drop (pre (fun e=>sLt e.Name s) l+1),sEq e.Name s=false):=by
 constructor
 ·intro e m
  obtain⟨k,n,rfl⟩:=Zb3k m
  rw[Zb2e]at n
  rw[List.getElem_take]
  have:=Z1q (s:=s) hs (k:=k) (by omega)
  rw[show decide (k<pre (fun e=>sLt e.Name s) l)=true by simp;omega]at this
  exact Zge.2 (Zrr this)
 ·intro e m
  obtain⟨k,n,rfl⟩:=Zb3k m
  rw[Zb2c]at n
  rw[List.getElem_drop]
  refine Zge.2 fun h=>?_
  have p:pre (fun e=>sLt e.Name s) l<l.length:=by omega
  have q:=Zb2g.1 hs _ _ p (show pre (fun e=>sLt e.Name s) l+1+k<l.length by omega) (by omega)
  rw[h]at q
  have:=Z4c (Zb1g p)
  rw[q]at this;cases this
theorem Z2r (l:Zet) (k:Nat) (h:k<l.length):l=l.take k++l[k]::l.drop (k+1):=by
 rw[←Zb1l h,Zb2n]
theorem Z10 {l:Zet} {s:ByteArray} (hs:NS l):l.any (fun e=>sEq e.Name s)=isAt s l:=by
 obtain⟨k,n⟩:=Z1d (s:=s) hs
 unfold isAt
 by_cases m:pre (fun e=>sLt e.Name s) l<l.length
 ·rw[Zb1g m]
  conv=>lhs;rw[Z2r l _ m]
  have a1:(l.take (pre (fun e=>sLt e.Name s) l)).any (fun e=>sEq e.Name s)=false:=by
   rw[Zb24];intro e h;rw[k e h];decide
  have a2:(l.drop (pre (fun e=>sLt e.Name s) l+1)).any (fun e=>sEq e.Name s)=false:=by
   rw[Zb24];intro e h;rw[n e h];decide
  rw[List.any_append,Zb36,a1,a2];simp
 ·rw[Zb12 (by omega)]
  have:l.take (pre (fun e=>sLt e.Name s) l)=l:=Zb1w (by omega)
  rw[this]at k
  rw[Zb24];intro e h;rw[k e h];decide
theorem Zbg2 {l:Zet} {s:ByteArray} (hs:NS l):l.filter (fun e=>!sEq e.Name s)=if isAt s l=true then l.take (pre (fun e=>sLt e.Name s) l)++l.drop (pre (fun e=>sLt e.Name s) l+1)else l:=by
 obtain⟨m,p⟩:=Z1d (s:=s) hs
 unfold isAt
 by_cases n:pre (fun e=>sLt e.Name s) l<l.length
 ·rw[Zb1g n]
  conv=>lhs;rw[Z2r l _ n]
  have a1:(l.take (pre (fun e=>sLt e.Name s) l)).filter (fun e=>!sEq e.Name s)=l.take (pre (fun e=>sLt e.Name s) l):=Zb2v.2 fun e h=>by rw[m e h];rfl
  have a2:(l.drop (pre (fun e=>sLt e.Name s) l+1)).filter (fun e=>!sEq e.Name s)=l.drop (pre (fun e=>sLt e.Name s) l+1):=Zb2v.2 fun e h=>by rw[p e h];rfl
  rw[List.filter_append,Zb3x,a1,a2]
  by_cases k:sEq (l[pre (fun e=>sLt e.Name s) l]).Name s=true
  ·rw[if_pos k,if_neg (by rw[k];decide)]
  ·rw[if_neg k,if_pos (by simpa using k)]
   exact (Z2r l _ n).symm
 ·rw[Zb12 (by omega)]
  have:l.take (pre (fun e=>sLt e.Name s) l)=l:=Zb1w (by omega)
  rw[this]at m
  rw[if_neg (by simp)]
  exact Zb2v.2 fun e h=>by rw[m e h];rfl
theorem Zbgl {l:Zet} {s:ByteArray}:layL {Score:=0,Name:=s} true l=if isAt s l=true then l else l.take (pre (fun e=>sLt e.Name s) l)++[{Score:=0,Name:=s}]++l.drop (pre (fun e=>sLt e.Name s) l):=by
 have n:Zfb {Score:=0,Name:=s} true=fun e=>sLt e.Name s:=rfl
 unfold layL isAt
 rw[n]
 cases h:l[pre (fun e=>sLt e.Name s) l]? with
 | none =>
  have m:=List.getElem?_eq_none_iff.1 h
  rw[if_neg (by simp),Zb1w m,Zb1n m,Zb3d]
 | some e =>
  simp only[Zq0,Zb3n,Zb2z]
  by_cases k:sEq e.Name s=true
  ·rw[if_pos k,if_pos k,Zb3d,Zb2n]
  ·rw[if_neg k,if_neg k]
theorem Zwh {l:Zet} (h:l.length<1000000):Zco l=some l:=by
 unfold Zco
 rw[if_pos (by omega)]
theorem Z38 {r:Zb} {a:Zw} (s:a.X<W64) (m:∀e∈r.List,e.Score<W64) (t:r.List.length<1000000):∀(n i:Nat),i+n=r.List.length →
  Zic r a (n+1) (i:Int)=some ((i+pre (Zfb {Score:=a.X,Name:=a.S} false) (r.List.drop i):Nat):Int)
 | 0,i,h=>by
  have p:decide ((i:Int)<(r.List.length:Int))=false:=by simp;omega
  rw[Zic,p,Zb1n (by omega)]
  simp[gd,pre]
 | n+1,i,h=>by
  have q:i<r.List.length:=by omega
  have p:decide ((i:Int)<(r.List.length:Int))=true:=by simp;omega
  rw[Zic,p,Zc0 q,Zb1l q]
  simp only[gd_t,Zb1e,Zb1o]
  rw[Zvq (m _ (Zb1p q)) s]
  simp only[Zb1e,pre,Zfb,Zb1h,if_false,wr1 (show i<9223372036854775807 by omega)]
  by_cases k:Zej r.List[i] {Score:=a.X,Name:=a.S}=true
  ·rw[if_pos k,if_pos k,Z38 s m t n (i+1) (by omega)]
   congr 2;omega
  ·rw[if_neg k,if_neg k];simp
theorem Z6x {r:Zb} {a:Zw} (k:a.X<W64) (h:∀e∈r.List,e.Score<W64) (m:r.List.length<1000000):Zic r a (Zb1j ((r.List.length:Int)-(0:Int))+1) (0:Int)=some ((pre (Zfb {Score:=a.X,Name:=a.S} false) r.List:Nat):Int):=by
 have:=Z38 (a:=a) k h m r.List.length 0 (by omega)
 rw[show ((0:Nat):Int)=0 from rfl]at this
 rw[show (Zb1j ((r.List.length:Int)-(0:Int))+1)=r.List.length+1 by omega,this]
 simp
theorem Zbc1 {e x:Zn} (m:Zej e x=false):(!Zej x e)=Zq0 x false e:=by
 unfold Zej Zq0 at *
 by_cases k:keyf e.Score=keyf x.Score
 ·rw[if_pos k]at m
  rw[if_pos k.symm,k]
  simp only[Zb1u,decide_true,Zb2z]
  by_cases n:e.Name=x.Name
  ·rw[n,Zrj,Zh2];rfl
  ·rw[Zsm m n,Zge.2 n];rfl
 ·rw[if_neg k]at m
  rw[if_neg (fun h=>k h.symm)]
  have:=of_decide_eq_false m
  have p:keyf e.Score<keyf x.Score:=by omega
  simp[p,k]
theorem Z1n {k:Int} {l:Zet}:∀(n i:Nat),Zmv k l i n=0↔∀j,i≤j→j<i+n→Zj7 k l j=0
 | 0,i=>⟨fun _ j m p=>by omega,fun _=>rfl⟩
 | n+1,i=>by
  by_cases h:Zj7 k l i=0
  ·rw[Z2m h,Z1n n (i+1)]
   constructor
   ·intro hh j m p
    by_cases e:j=i
    ·rw[e];exact h
    ·exact hh j (by omega) (by omega)
   ·intro hh j m p;exact hh j (by omega) (by omega)
  ·rw[Z1v h]
   exact⟨fun e=>absurd e h,fun hh=>absurd (hh i (Zb18 _) (by omega)) h⟩
theorem Z1h {t n b r l:Bool} {a:Zb}:Zwj t n b r l a=0↔Zjd t n b r l a=true∧a.Text.size≤64∧(b=true→-2305843009213693952≤a.Low∧a.High≤2305843009213693952∧a.Low≤a.Num∧a.Num≤a.High)∧a.Real=Zcs a.Real∧(l=true→1≤a.Cap∧a.Cap≤32∧(a.List.length:Int)≤a.Cap∧∀i,i<a.List.length→Zj7 a.Kind a.List i=0):=by
 unfold Zwj
 by_cases p:Zjd t n b r l a=false
 ·rw[if_pos p,p];simp
 ·have s:Zjd t n b r l a=true:=by simpa using p
  rw[if_neg p,s]
  by_cases u:(64:Int)<a.Text.size
  ·rw[if_pos u];exact⟨fun h=>absurd h (by decide),fun h=>by omega⟩
  ·rw[if_neg u]
   by_cases k:b=true∧(a.Low < -2305843009213693952∨2305843009213693952<a.High∨a.Num<a.Low∨a.High<a.Num)
   ·rw[if_pos k];exact⟨fun h=>absurd h (by decide),fun h=>by have:=h.2.2.1 k.1;omega⟩
   ·rw[if_neg k]
    by_cases m:a.Real=Zcs a.Real
    ·rw[if_neg (fun h=>h m)]
     cases l
     ·rw[if_pos rfl]
      refine⟨fun _=>⟨rfl,by omega,fun q=>?_,m,fun h=>absurd h (by decide)⟩,fun _=>rfl⟩
      have:¬(a.Low < -2305843009213693952∨2305843009213693952<a.High∨a.Num<a.Low∨a.High<a.Num):=fun h=>k ⟨q,h⟩
      omega
     ·rw[if_neg (by decide)]
      by_cases v:a.Cap<1∨32<a.Cap
      ·rw[if_pos v];exact⟨fun h=>absurd h (by decide),fun h=>by have:=h.2.2.2.2 rfl;omega⟩
      ·rw[if_neg v]
       by_cases w:a.Cap<a.List.length
       ·rw[if_pos w];exact⟨fun h=>absurd h (by decide),fun h=>by have:=h.2.2.2.2 rfl;omega⟩
       ·rw[if_neg w,Z1n]
        constructor
        ·intro h
         refine⟨rfl,by omega,fun q=>?_,m,fun _=>⟨by omega,by omega,by omega,fun i hi=>h i (Zb3e _) (by omega)⟩⟩
         have:¬(a.Low < -2305843009213693952∨2305843009213693952<a.High∨a.Num<a.Low∨a.High<a.Num):=fun h=>k ⟨q,h⟩
         omega
        ·intro h j _ hj
         exact (h.2.2.2.2 rfl).2.2.2 j (by omega)
    ·rw[if_pos m];exact⟨fun h=>absurd h (by decide),fun h=>absurd h.2.2.2.1 m⟩
def Zd0 (a:Zb):Prop:=1≤a.Kind∧a.Kind≤9∧Zjd (decide (a.Kind=1)) (decide (2≤a.Kind∧a.Kind≤4)) (decide (a.Kind=4)) (decide (5≤a.Kind∧a.Kind≤7)) (decide (8≤a.Kind)) a=true∧a.Text.size≤64∧(a.Kind=4→-2305843009213693952≤a.Low∧a.High≤2305843009213693952∧a.Low≤a.Num∧a.Num≤a.High)∧a.Real=Zcs a.Real ∧
 (8≤a.Kind→1≤a.Cap∧a.Cap≤32∧(a.List.length:Int)≤a.Cap∧∀i,i<a.List.length→Zj7 a.Kind a.List i=0)
theorem Zqg {a:Zb} (v:Zla a):Zeg a=some 0↔Zd0 a:=by
 by_cases d:a.Kind≤0∨10≤a.Kind
 ·have:Zeg a≠some 0:=by
   obtain⟨c,e,k⟩:=Zp4 v
   unfold Zeu at k
   rw[if_pos (by simp;omega)]at k
   rw[e,←k];decide
  exact⟨fun h=>absurd h this,fun h=>by obtain⟨s,u,_⟩:=h;omega⟩
 ·have fin:∀{t n b r l:Bool},Zew a.Kind=some ⟨t,n,b,r,l⟩→t=decide (a.Kind=1)→n=decide (2≤a.Kind∧a.Kind≤4)→b=decide (a.Kind=4)→r=decide (5≤a.Kind∧a.Kind≤7)→l=decide (8≤a.Kind)→(Zeg a=some 0↔Zd0 a):=by
   intro t n b r l hs s u p w q
   rw[Zis v d hs]
   constructor
   ·intro h
    obtain⟨g1,g2,g3,g4,g5⟩:=Z1h.1 (Zb2l.inj h)
    refine⟨by omega,by omega,by rw[←s,←u,←p,←w,←q];exact g1,g2,fun x=>g3 (by rw[p];simpa using x),g4,fun y=>g5 (by rw[q];simpa using y)⟩
   ·rintro⟨_,_,g1,g2,g3,g4,g5⟩
    congr 1
    exact Z1h.2 ⟨by rw[s,u,p,w,q];exact g1,g2,fun m=>g3 (by rw[p]at m;simpa using m),g4,fun m=>g5 (by rw[q]at m;simpa using m)⟩
  have z:a.Kind=1∨a.Kind=2∨a.Kind=3∨a.Kind=4∨a.Kind=5∨a.Kind=6∨a.Kind=7∨a.Kind=8∨a.Kind=9:=by omega
  rcases z with h | h | h | h | h | h | h | h | h <;> rw[h]at fin
  ·exact fin Zban rfl rfl rfl rfl rfl
  ·exact fin Zbaa rfl rfl rfl rfl rfl
  ·exact fin Zba6 rfl rfl rfl rfl rfl
  ·exact fin Z9j rfl rfl rfl rfl rfl
  ·exact fin Z9o rfl rfl rfl rfl rfl
  ·exact fin Z89 rfl rfl rfl rfl rfl
  ·exact fin Z8k rfl rfl rfl rfl rfl
  ·exact fin Z96 rfl rfl rfl rfl rfl
  ·exact fin Z98 rfl rfl rfl rfl rfl
theorem Zru {a:Zb} (h:Zd0 a) (p:a.Kind=8):NS a.List:=by
 obtain⟨_,_,_,_,_,_,q⟩:=h
 obtain⟨_,_,_,m⟩:=q (by omega)
 have step:∀i,i+1<a.List.length→sLt ((a.List[i]?).getD default).Name ((a.List[i+1]?).getD default).Name=true:=by
  intro i k
  have:=m (i+1) k
  unfold Zj7 at this
  rw[Zb1g k]at this
  simp only[Nat.add_sub_cancel]at this
  split at this
  ·cases this
  ·split at this
   ·cases this
   ·split at this
    ·cases this
    ·rename_i r
     rw[Zb1g k]
     cases n:sLt ((a.List[i]?).getD default).Name a.List[i+1].Name
     ·exact absurd ⟨by omega,p,n⟩ r
     ·exact n
 have far:∀d i,i+d+1<a.List.length→sLt ((a.List[i]?).getD default).Name ((a.List[i+d+1]?).getD default).Name=true:=by
  intro d
  induction d with
  | zero=>intro i h;exact step i h
  | succ d ih=>intro i h;exact Zih (ih i (by omega)) (step (i+d+1) (by omega))
 refine Zb2g.2 fun i j m s t=>?_
 have:=far (j-i-1) i (by omega)
 rw[show i+(j-i-1)+1=j by omega,Zb1g m,Zb1g s]at this
 exact this
theorem Z5b {neg:Bool} {r:Nat} (h:r≤Ieee.double.infRung):Ieee.double.word neg r<W64:=by
 have k:Ieee.double.infRung=9218868437227405312:=by decide
 have m:Ieee.double.signWeight=9223372036854775808:=by decide
 unfold Ieee.Format.word
 rw[k]at h
 show _<18446744073709551616
 split
 ·rw[m];omega
 ·omega
theorem Zbfl (neg:Bool) (mag:Nat) (place:Int):Ieee.double.nearest neg mag place<W64:=by
 unfold Ieee.Format.nearest
 split
 ·exact Z5b (Zb3e _)
 ·exact Z5b (Nat.min_le_right _ _)
theorem Z9b {d:Ieee.Datum} (h:∀n f,d≠.nan n f):Ieee.double.write d<W64:=by
 cases d with
 | number n m p=>exact Zbfl n m p
 | infinity n=>exact Z5b (Zb18 _)
 | nan n f=>exact absurd rfl (h n f)
theorem Zbne {x y d:Ieee.Datum} (h:x.sum y=some d):∀n f,d≠.nan n f:=by
 intro n f e
 subst e
 cases x <;> cases y <;> simp[Ieee.Datum.sum]at h
theorem Zbcw {x y d:Ieee.Datum} (h:x.product y=some d):∀n f,d≠.nan n f:=by
 intro n f e
 subst e
 cases x <;> cases y <;> simp[Ieee.Datum.product]at h
theorem Zbdp (m n:Nat):fadd m n<W64:=by
 unfold fadd Ieee.Format.add
 cases h:(Ieee.double.read m).sum (Ieee.double.read n)with
 | none=>exact (by decide:9221120237041090561<W64)
 | some d=>simpa using Z9b (Zbne h)
theorem Zbdx (m n:Nat):fmul m n<W64:=by
 unfold fmul Ieee.Format.mul
 cases h:(Ieee.double.read m).product (Ieee.double.read n)with
 | none=>exact (by decide:9221120237041090561<W64)
 | some d=>simpa using Z9b (Zbcw h)
theorem Zzy {z:Nat} (k:z<W64):∃p,Zha z=some p∧Zgr p=some (Zcs z):=by
 have n:z<18446744073709551616:=k
 unfold Zha Zgr Zcs NANB
 rw[Zw8 k]
 simp only[Zb1e]
 by_cases h:isn z
 ·refine⟨18444492273895866369,by simp[h];decide,?_⟩
  rw[if_pos (by decide),if_pos h];decide
 ·simp only[h,decide_false,Zb1h,if_false]
  by_cases m:(9223372036854775808:Int)≤z
  ·rw[if_pos (by simpa using m)]
   refine⟨_,rfl,?_⟩
   rw[wru (x:=(9223372036854775808:Int)-1) (by decide) (by decide),wru (x:=(z:Int)-9223372036854775808) (by omega) (by omega),wru (by omega) (by omega)]
   rw[if_neg (by simp;omega)]
   rw[wru (x:=(9223372036854775808:Int)-1-_) (by omega) (by omega),wru (by omega) (by omega)]
   congr 1;omega
  ·rw[if_neg (by simpa using m)]
   refine⟨_,rfl,?_⟩
   rw[wru (by omega) (by omega),if_pos (by simp;omega),wru (by omega) (by omega)]
   congr 1;omega
theorem Z1e {z:Nat}:Zcs (Zcs z)=Zcs z:=by
 unfold Zcs
 by_cases h:isn z
 ·rw[if_pos h,if_pos (show isn NANB by unfold isn rg INF NANB TOP;decide)]
 ·rw[if_neg h,if_neg h]
theorem Z9v {a b:Nat} (k:a<W64) (n:b<W64) (ca:a=Zcs a) (cb:b=Zcs b):∃m,Zp9 a b=some m∧Zmg a b=some m∧(m=a∨m=b):=by
 unfold Zp9 Zmg
 rw[Z45 k n,Zuf k n,Zng k,Zng n,←ca,←cb]
 by_cases h:keyf a<keyf b
 ·exact⟨b,by simp[h],by simp[h],.inr rfl⟩
 ·exact⟨a,by simp[h],by simp[h],.inl rfl⟩
theorem Z9a {a b:Nat} (k:a<W64) (n:b<W64) (ca:a=Zcs a) (cb:b=Zcs b):∃m,Zqc a b=some m∧Zmw a b=some m∧(m=a∨m=b):=by
 unfold Zqc Zmw
 rw[Z45 n k,Zuf n k,Zng k,Zng n,←ca,←cb]
 by_cases h:keyf b<keyf a
 ·exact⟨b,by simp[h],by simp[h],.inr rfl⟩
 ·exact⟨a,by simp[h],by simp[h],.inl rfl⟩
end Go.CL
