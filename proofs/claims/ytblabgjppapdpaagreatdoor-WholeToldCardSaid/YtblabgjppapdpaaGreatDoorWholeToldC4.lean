/- A part of the proof of WholeTold. -/
import Derived.Test.YtblabgjppapdpaaGreatDoorWholeToldC3
set_option linter.unusedVariables false
set_option linter.unusedSimpArgs false
set_option maxRecDepth 100000
namespace Go.CL
open Go Go.RowKit Go.Proofs
theorem Zpr (a0:ByteArray) (a1:Zb) (a2:shelf_nodeT) (a3:shelf_nodeT) {r:shelf_nodeT} (h:Zj8 a0 a1 a2 a3=some r):FnOk Tryz.prog 84 [(pStr a0),(Ze.pd a1),(Z9.pd a2),(Z9.pd a3)] (Z9.pd r):=by
 have H0:=h
 unfold Zj8 at H0
 clear h
 refine Zbs (N:=182) Tryz.func84 rfl rfl (Qe rfl) rfl rfl (fun a g0 hst hb=>?_)
 refine r_a [5,25,35,0] (L:=[(0,_),(1,_),(2,_),(3,_)]) hst hb Za
  (a_p [15] rfl (Zbt rfl rfl u_0)<|a_p (outs:=[(8,(Z9.pd shelf_nodeT.nil))]) (S:=[]) [] rfl (Zd rfl rfl (Opd.c (fun g=>Zfq g)))<|a_n) (fun a g hst hb=>?_)
 refine wp_seq ?_
 refine wp_block ?_
 obtain ⟨r1,h2,H0⟩:=Zc H0;obtain ⟨n3,h4,H0⟩:=Zc H0;obtain ⟨r5,h6,H0⟩:=Zc H0;obtain ⟨n7,h8,H0⟩:=Zc H0;obtain ⟨r9,h10,H0⟩:=Zc H0
 refine r_a [5,15,25,35,190] (L:=[(0,_),(2,_),(3,_),(5,_)]) hst hb Za
  (Am 25 rfl<|Am 15 rfl<|a_p [10,0] rfl (Zf Zs9 (Zkc _ _ h2) rfl rfl (.cons u_0 (.cons u_1 .nil)))<|Am 0 rfl<|a_g [0,25] (Qg_t rfl (fun hG=>Zq rfl rfl u_0))<|a_g [10,0] (Qg_t rfl (fun hG=>Z6 rfl rfl (Opd.imp (Opd.gd hG u_0) (fun _ _ h=>Zv (Zbe h4 hG) h)) (fun _ _ ⟨_,_,_,e,_⟩=>⟨_,e⟩)))<|a_g [20,0] (Qg_t rfl (fun hG=>Zi Zgc rfl rfl (Opd.gd hG u_0)))<|a_g [30,0] (Qg_t rfl (fun hG=>Zs Zdy rfl rfl (Opd.gd hG u_0)))<|a_g [40,0] (Qg_t rfl (fun hG=>Zf Zlq (Zcy _ (Zbe h6 hG)) rfl rfl (.cons (Opd.gd hG u_0) .nil)))<|a_g [50,0] (Qg_t rfl (fun hG=>Zb6 rfl rfl (Opd.gd hG u_0) c_i rfl))<|a_g [60,25] (Qg_t rfl (fun hG=>Zq rfl rfl u_0))<|a_g [70,0] (Qg_t rfl (fun hG=>Z6 rfl rfl (Opd.imp (Opd.gd hG u_0) (fun _ _ h=>Zv (Zbe h8 hG) h)) (fun _ _ ⟨_,_,_,e,_⟩=>⟨_,e⟩)))<|a_g [80,0] (Qg_t rfl (fun hG=>Zi Zgx rfl rfl (Opd.gd hG u_0)))<|a_g [90,0] (Qg_t rfl (fun hG=>Zs Zdy rfl rfl (Opd.gd hG u_0)))<|a_g [100,0] (Qg_t rfl (fun hG=>Zf Zlq (Zcy _ (Zbe h10 hG)) rfl rfl (.cons (Opd.gd hG u_0) .nil)))<|a_g [110,0] (Qg_t rfl (fun hG=>Zb6 rfl rfl (Opd.gd hG u_0) c_i rfl))<|a_g [120,0] (Qg_t rfl (fun hG=>Zsh rfl rfl c_i (Opd.gd hG u_0) rfl))<|a_g [130,70,0] (Qg_t rfl (fun hG=>Zco rfl rfl (Opd.gd hG u_0) (Opd.gd hG u_1)))<|a_p [140,0] rfl (Zbg rfl rfl u_0 (fun hz=>(Opd.gd hz u_1)))<|Aa 0 rfl<|a_n) (fun a g hst hb=>?_)
 refine wp_cond_split (hst.bool 4 rfl) (fun hc11=>?_) (fun hc11=>?_)
 ·replace H0:=Zo hc11 H0
  obtain ⟨n12,h13,H0⟩:=Zc H0;obtain ⟨r14,h15,H0⟩:=Zc H0;obtain ⟨r16,h17,H0⟩:=Zc H0
  refine r_a [210] (L:=[(0,_),(2,_),(3,_),(5,_)]) (hst.pick [0,1,2,3] rfl) hb Za
   (Am 25 rfl<|a_p [0] rfl (Z6 rfl rfl (Opd.imp u_0 (fun _ _ h=>Zv h13 h)) (fun _ _ ⟨_,_,_,e,_⟩=>⟨_,e⟩))<|Af Zgz 0 rfl<|Al ty_9 0 rfl<|Am 25 rfl<|a_p [0] rfl (Z6 rfl rfl (Opd.imp u_0 (fun _ _ h=>Zv h13 h)) (fun _ _ ⟨_,_,_,e,_⟩=>⟨_,e⟩))<|Af Zjb 0 rfl<|Al Zbm 0 rfl<|Am 5 rfl<|Al Zbm 35 rfl<|Am 15 rfl<|Am 25 rfl<|a_p [0] rfl (Z6 rfl rfl (Opd.imp u_0 (fun _ _ h=>Zv h13 h)) (fun _ _ ⟨_,_,_,e,_⟩=>⟨_,e⟩))<|Af Zgc 0 rfl<|Al Zdy 0 rfl<|a_p [60,50,40,0] rfl (Zf Zkd (Zde _ _ _ _ h15) rfl rfl (.cons u_0 (.cons u_1 (.cons u_2 (.cons u_3 .nil)))))<|Am 25 rfl<|a_p [0] rfl (Z6 rfl rfl (Opd.imp u_0 (fun _ _ h=>Zv h13 h)) (fun _ _ ⟨_,_,_,e,_⟩=>⟨_,e⟩))<|Af Zgx 0 rfl<|Al Zdy 0 rfl<|a_p [160,120,40,0] rfl (Zf Zkd (Zde _ _ _ _ h17) rfl rfl (.cons u_0 (.cons u_1 (.cons u_2 (.cons u_3 .nil)))))<|Aa 0 rfl<|a_n) (fun a g hst hb=>?_)
  refine wp_ret ?_
  refine Zw ?_
  refine Zl ?_
  obtain rfl:=Option.some.inj H0
  exact Z2 rfl hst hb (Zg (s:=8)) (hst.at 0 rfl)
 ·replace H0:=Zp hc11 H0
  obtain ⟨r18,h19,H0⟩:=Zc H0
  refine r_a [5,15,25,35,30] (L:=[(0,_),(2,_),(3,_),(5,_)]) (hst.pick [0,1,2,3] rfl) hb Za
   (Am 25 rfl<|Am 15 rfl<|a_p [10,0] rfl (Zf Zs9 (Zkc _ _ h19) rfl rfl (.cons u_0 (.cons u_1 .nil)))<|Aa 0 rfl<|a_n) (fun a g hst hb=>?_)
  refine wp_cond_split (hst.bool 4 rfl) (fun hc20=>?_) (fun hc20=>?_)
  ·replace H0:=Zo hc20 H0
   obtain ⟨n21,h22,H0⟩:=Zc H0
   refine r_a [5,15,25,35,40] (L:=[(0,_),(2,_),(3,_),(5,_)]) (hst.pick [0,1,2,3] rfl) hb Za
    (Am 25 rfl<|a_p [0] rfl (Z6 rfl rfl (Opd.imp u_0 (fun _ _ h=>Zv h22 h)) (fun _ _ ⟨_,_,_,e,_⟩=>⟨_,e⟩))<|Af Zgc 0 rfl<|Al Zdy 0 rfl<|Aa 0 rfl<|a_n) (fun a g hst hb=>?_)
   obtain ⟨n23,h24,H0⟩:=Zc H0;obtain ⟨r25,h26,H0⟩:=Zc H0;obtain ⟨r27,h28,H0⟩:=Zc H0;obtain ⟨r29,h30,H0⟩:=Zc H0
   refine r_a [340] (L:=[(0,_),(2,_),(3,_),(5,_),(9,_)]) hst hb Za
    (Am 45 rfl<|a_p [0] rfl (Z6 rfl rfl (Opd.imp u_0 (fun _ _ h=>Zv h24 h)) (fun _ _ ⟨_,_,_,e,_⟩=>⟨_,e⟩))<|Af Zgz 0 rfl<|Al ty_9 0 rfl<|Am 45 rfl<|a_p [0] rfl (Z6 rfl rfl (Opd.imp u_0 (fun _ _ h=>Zv h24 h)) (fun _ _ ⟨_,_,_,e,_⟩=>⟨_,e⟩))<|Af Zjb 0 rfl<|Al Zbm 0 rfl<|Am 5 rfl<|Al Zbm 35 rfl<|Am 15 rfl<|Am 45 rfl<|a_p [0] rfl (Z6 rfl rfl (Opd.imp u_0 (fun _ _ h=>Zv h24 h)) (fun _ _ ⟨_,_,_,e,_⟩=>⟨_,e⟩))<|Af Zgc 0 rfl<|Al Zdy 0 rfl<|a_p [60,50,40,0] rfl (Zf Zkd (Zde _ _ _ _ h26) rfl rfl (.cons u_0 (.cons u_1 (.cons u_2 (.cons u_3 .nil)))))<|Am 25 rfl<|a_p [0] rfl (Z6 rfl rfl (Opd.imp u_0 (fun _ _ h=>Zv h22 h)) (fun _ _ ⟨_,_,_,e,_⟩=>⟨_,e⟩))<|Af Zgz 0 rfl<|Al ty_9 0 rfl<|Am 25 rfl<|a_p [0] rfl (Z6 rfl rfl (Opd.imp u_0 (fun _ _ h=>Zv h22 h)) (fun _ _ ⟨_,_,_,e,_⟩=>⟨_,e⟩))<|Af Zjb 0 rfl<|Al Zbm 0 rfl<|Am 45 rfl<|a_p [0] rfl (Z6 rfl rfl (Opd.imp u_0 (fun _ _ h=>Zv h24 h)) (fun _ _ ⟨_,_,_,e,_⟩=>⟨_,e⟩))<|Af Zgx 0 rfl<|Al Zdy 0 rfl<|Am 25 rfl<|a_p [0] rfl (Z6 rfl rfl (Opd.imp u_0 (fun _ _ h=>Zv h22 h)) (fun _ _ ⟨_,_,_,e,_⟩=>⟨_,e⟩))<|Af Zgx 0 rfl<|Al Zdy 0 rfl<|a_p [120,80,40,0] rfl (Zf Zkd (Zde _ _ _ _ h28) rfl rfl (.cons u_0 (.cons u_1 (.cons u_2 (.cons u_3 .nil)))))<|a_p [290,250,170,0] rfl (Zf Zkd (Zde _ _ _ _ h30) rfl rfl (.cons u_0 (.cons u_1 (.cons u_2 (.cons u_3 .nil)))))<|Aa 0 rfl<|a_n) (fun a g hst hb=>?_)
   refine wp_ret ?_
   refine Zw ?_
   refine Zl ?_
   obtain rfl:=Option.some.inj H0
   exact Z2 rfl hst hb (Zg (s:=8)) (hst.at 0 rfl)
  ·replace H0:=Zp hc20 H0
   obtain ⟨r31,h32,H0⟩:=Zc H0;obtain ⟨n33,h34,H0⟩:=Zc H0;obtain ⟨r35,h36,H0⟩:=Zc H0;obtain ⟨n37,h38,H0⟩:=Zc H0;obtain ⟨r39,h40,H0⟩:=Zc H0
   refine r_a [5,15,25,35,190] (L:=[(0,_),(2,_),(3,_),(5,_)]) (hst.pick [0,1,2,3] rfl) hb Za
    (Am 15 rfl<|Am 25 rfl<|a_p [10,0] rfl (Zf Zs9 (Zkc _ _ h32) rfl rfl (.cons u_0 (.cons u_1 .nil)))<|Am 0 rfl<|a_g [0,15] (Qg_t rfl (fun hG=>Zq rfl rfl u_0))<|a_g [10,0] (Qg_t rfl (fun hG=>Z6 rfl rfl (Opd.imp (Opd.gd hG u_0) (fun _ _ h=>Zv (Zbe h34 hG) h)) (fun _ _ ⟨_,_,_,e,_⟩=>⟨_,e⟩)))<|a_g [20,0] (Qg_t rfl (fun hG=>Zi Zgx rfl rfl (Opd.gd hG u_0)))<|a_g [30,0] (Qg_t rfl (fun hG=>Zs Zdy rfl rfl (Opd.gd hG u_0)))<|a_g [40,0] (Qg_t rfl (fun hG=>Zf Zlq (Zcy _ (Zbe h36 hG)) rfl rfl (.cons (Opd.gd hG u_0) .nil)))<|a_g [50,0] (Qg_t rfl (fun hG=>Zb6 rfl rfl (Opd.gd hG u_0) c_i rfl))<|a_g [60,15] (Qg_t rfl (fun hG=>Zq rfl rfl u_0))<|a_g [70,0] (Qg_t rfl (fun hG=>Z6 rfl rfl (Opd.imp (Opd.gd hG u_0) (fun _ _ h=>Zv (Zbe h38 hG) h)) (fun _ _ ⟨_,_,_,e,_⟩=>⟨_,e⟩)))<|a_g [80,0] (Qg_t rfl (fun hG=>Zi Zgc rfl rfl (Opd.gd hG u_0)))<|a_g [90,0] (Qg_t rfl (fun hG=>Zs Zdy rfl rfl (Opd.gd hG u_0)))<|a_g [100,0] (Qg_t rfl (fun hG=>Zf Zlq (Zcy _ (Zbe h40 hG)) rfl rfl (.cons (Opd.gd hG u_0) .nil)))<|a_g [110,0] (Qg_t rfl (fun hG=>Zb6 rfl rfl (Opd.gd hG u_0) c_i rfl))<|a_g [120,0] (Qg_t rfl (fun hG=>Zsh rfl rfl c_i (Opd.gd hG u_0) rfl))<|a_g [130,70,0] (Qg_t rfl (fun hG=>Zco rfl rfl (Opd.gd hG u_0) (Opd.gd hG u_1)))<|a_p [140,0] rfl (Zbg rfl rfl u_0 (fun hz=>(Opd.gd hz u_1)))<|Aa 0 rfl<|a_n) (fun a g hst hb=>?_)
   refine wp_cond_split (hst.bool 4 rfl) (fun hc41=>?_) (fun hc41=>?_)
   ·replace H0:=Zo hc41 H0
    obtain ⟨n42,h43,H0⟩:=Zc H0;obtain ⟨r44,h45,H0⟩:=Zc H0;obtain ⟨r46,h47,H0⟩:=Zc H0
    refine r_a [210] (L:=[(0,_),(2,_),(3,_),(5,_)]) (hst.pick [0,1,2,3] rfl) hb Za
     (Am 15 rfl<|a_p [0] rfl (Z6 rfl rfl (Opd.imp u_0 (fun _ _ h=>Zv h43 h)) (fun _ _ ⟨_,_,_,e,_⟩=>⟨_,e⟩))<|Af Zgz 0 rfl<|Al ty_9 0 rfl<|Am 15 rfl<|a_p [0] rfl (Z6 rfl rfl (Opd.imp u_0 (fun _ _ h=>Zv h43 h)) (fun _ _ ⟨_,_,_,e,_⟩=>⟨_,e⟩))<|Af Zjb 0 rfl<|Al Zbm 0 rfl<|Am 15 rfl<|a_p [0] rfl (Z6 rfl rfl (Opd.imp u_0 (fun _ _ h=>Zv h43 h)) (fun _ _ ⟨_,_,_,e,_⟩=>⟨_,e⟩))<|Af Zgc 0 rfl<|Al Zdy 0 rfl<|Am 5 rfl<|Al Zbm 35 rfl<|Am 15 rfl<|a_p [0] rfl (Z6 rfl rfl (Opd.imp u_0 (fun _ _ h=>Zv h43 h)) (fun _ _ ⟨_,_,_,e,_⟩=>⟨_,e⟩))<|Af Zgx 0 rfl<|Al Zdy 0 rfl<|Am 25 rfl<|a_p [60,50,10,0] rfl (Zf Zkd (Zde _ _ _ _ h45) rfl rfl (.cons u_0 (.cons u_1 (.cons u_2 (.cons u_3 .nil)))))<|a_p [160,120,80,0] rfl (Zf Zkd (Zde _ _ _ _ h47) rfl rfl (.cons u_0 (.cons u_1 (.cons u_2 (.cons u_3 .nil)))))<|Aa 0 rfl<|a_n) (fun a g hst hb=>?_)
    refine wp_ret ?_
    refine Zw ?_
    refine Zl ?_
    obtain rfl:=Option.some.inj H0
    exact Z2 rfl hst hb (Zg (s:=8)) (hst.at 0 rfl)
   ·replace H0:=Zp hc41 H0
    obtain ⟨r48,h49,H0⟩:=Zc H0
    refine r_a [5,15,25,35,30] (L:=[(0,_),(2,_),(3,_),(5,_)]) (hst.pick [0,1,2,3] rfl) hb Za
     (Am 15 rfl<|Am 25 rfl<|a_p [10,0] rfl (Zf Zs9 (Zkc _ _ h49) rfl rfl (.cons u_0 (.cons u_1 .nil)))<|Aa 0 rfl<|a_n) (fun a g hst hb=>?_)
    refine wp_cond_split (hst.bool 4 rfl) (fun hc50=>?_) (fun hc50=>?_)
    ·replace H0:=Zo hc50 H0
     obtain ⟨n51,h52,H0⟩:=Zc H0
     refine r_a [5,15,25,35,40] (L:=[(0,_),(2,_),(3,_),(5,_)]) (hst.pick [0,1,2,3] rfl) hb Za
      (Am 15 rfl<|a_p [0] rfl (Z6 rfl rfl (Opd.imp u_0 (fun _ _ h=>Zv h52 h)) (fun _ _ ⟨_,_,_,e,_⟩=>⟨_,e⟩))<|Af Zgx 0 rfl<|Al Zdy 0 rfl<|Aa 0 rfl<|a_n) (fun a g hst hb=>?_)
     obtain ⟨n53,h54,H0⟩:=Zc H0;obtain ⟨r55,h56,H0⟩:=Zc H0;obtain ⟨r57,h58,H0⟩:=Zc H0;obtain ⟨r59,h60,H0⟩:=Zc H0
     refine r_a [340] (L:=[(0,_),(2,_),(3,_),(5,_),(10,_)]) hst hb Za
      (Am 45 rfl<|a_p [0] rfl (Z6 rfl rfl (Opd.imp u_0 (fun _ _ h=>Zv h54 h)) (fun _ _ ⟨_,_,_,e,_⟩=>⟨_,e⟩))<|Af Zgz 0 rfl<|Al ty_9 0 rfl<|Am 45 rfl<|a_p [0] rfl (Z6 rfl rfl (Opd.imp u_0 (fun _ _ h=>Zv h54 h)) (fun _ _ ⟨_,_,_,e,_⟩=>⟨_,e⟩))<|Af Zjb 0 rfl<|Al Zbm 0 rfl<|Am 15 rfl<|a_p [0] rfl (Z6 rfl rfl (Opd.imp u_0 (fun _ _ h=>Zv h52 h)) (fun _ _ ⟨_,_,_,e,_⟩=>⟨_,e⟩))<|Af Zgz 0 rfl<|Al ty_9 0 rfl<|Am 15 rfl<|a_p [0] rfl (Z6 rfl rfl (Opd.imp u_0 (fun _ _ h=>Zv h52 h)) (fun _ _ ⟨_,_,_,e,_⟩=>⟨_,e⟩))<|Af Zjb 0 rfl<|Al Zbm 0 rfl<|Am 15 rfl<|a_p [0] rfl (Z6 rfl rfl (Opd.imp u_0 (fun _ _ h=>Zv h52 h)) (fun _ _ ⟨_,_,_,e,_⟩=>⟨_,e⟩))<|Af Zgc 0 rfl<|Al Zdy 0 rfl<|Am 45 rfl<|a_p [0] rfl (Z6 rfl rfl (Opd.imp u_0 (fun _ _ h=>Zv h54 h)) (fun _ _ ⟨_,_,_,e,_⟩=>⟨_,e⟩))<|Af Zgc 0 rfl<|Al Zdy 0 rfl<|a_p [120,80,40,0] rfl (Zf Zkd (Zde _ _ _ _ h56) rfl rfl (.cons u_0 (.cons u_1 (.cons u_2 (.cons u_3 .nil)))))<|Am 5 rfl<|Al Zbm 35 rfl<|Am 45 rfl<|a_p [0] rfl (Z6 rfl rfl (Opd.imp u_0 (fun _ _ h=>Zv h54 h)) (fun _ _ ⟨_,_,_,e,_⟩=>⟨_,e⟩))<|Af Zgx 0 rfl<|Al Zdy 0 rfl<|Am 25 rfl<|a_p [60,50,10,0] rfl (Zf Zkd (Zde _ _ _ _ h58) rfl rfl (.cons u_0 (.cons u_1 (.cons u_2 (.cons u_3 .nil)))))<|a_p [290,250,80,0] rfl (Zf Zkd (Zde _ _ _ _ h60) rfl rfl (.cons u_0 (.cons u_1 (.cons u_2 (.cons u_3 .nil)))))<|Aa 0 rfl<|a_n) (fun a g hst hb=>?_)
     refine wp_ret ?_
     refine Zw ?_
     refine Zl ?_
     obtain rfl:=Option.some.inj H0
     exact Z2 rfl hst hb (Zg (s:=8)) (hst.at 0 rfl)
    ·replace H0:=Zp hc50 H0
     refine wp_skip ?_
     refine Zba ?_
     refine Zm ?_
     obtain ⟨r61,h62,H0⟩:=Zc H0
     refine r_a [50] (L:=[(0,_),(2,_),(3,_),(5,_)]) (hst.pick [0,1,2,3] rfl) hb Za
      (Am 5 rfl<|Al Zbm 35 rfl<|Am 15 rfl<|Am 25 rfl<|a_p [30,20,10,0] rfl (Zf Zkd (Zde _ _ _ _ h62) rfl rfl (.cons u_0 (.cons u_1 (.cons u_2 (.cons u_3 .nil)))))<|Aa 0 rfl<|a_n) (fun a g hst hb=>?_)
     refine wp_ret ?_
     obtain rfl:=Option.some.inj H0
     exact Z2 rfl hst hb (Zg (s:=8)) (hst.at 0 rfl)
theorem Zp0 (self:shelf_nodeT → ByteArray → Zb → Option (shelf_nodeT)) (hself:∀ (a0:shelf_nodeT) (a1:ByteArray) (a2:Zb) {r:shelf_nodeT},self a0 a1 a2=some r → FnOk Tryz.prog 46 [(Z9.pd a0),(pStr a1),(Ze.pd a2)] (Z9.pd r)) (a0:shelf_nodeT) (a1:ByteArray) (a2:Zb) {r:shelf_nodeT} (h:Zg9 self a0 a1 a2=some r):FnOk Tryz.prog 46 [(Z9.pd a0),(pStr a1),(Ze.pd a2)] (Z9.pd r):=by
 have H0:=h
 unfold Zg9 at H0
 clear h
 refine Zbs (N:=78) Tryz.func46 rfl rfl (Qe rfl) rfl rfl (fun a g0 hst hb=>?_)
 refine r_a [5,15,0] (L:=[(0,_),(1,_),(2,_)]) hst hb Za
  (a_p [25] rfl (Zbt rfl rfl u_0)<|a_p (outs:=[(6,(Z9.pd shelf_nodeT.nil))]) (S:=[]) [] rfl (Zd rfl rfl (Opd.c (fun g=>Zfq g)))<|a_n) (fun a g hst hb=>?_)
 refine wp_seq ?_
 refine wp_block ?_
 refine r_a [5,15,25,20] (L:=[(0,_),(1,_),(5,_)]) hst hb Za
  (Am 5 rfl<|a_p [0] rfl (Zv4 Tryz.underlying25 rfl rfl u_0 (Zif _))<|Aa 0 rfl<|a_n) (fun a g hst hb=>?_)
 refine wp_cond_split (hst.bool 3 rfl) (fun hc1=>?_) (fun hc1=>?_)
 ·replace H0:=Zo hc1 H0
  obtain ⟨r2,h3,H0⟩:=Zc H0
  refine r_a [30] (L:=[(1,_),(5,_)]) (hst.pick [1,2] rfl) hb Za
   (Am 5 rfl<|Al Zbm 15 rfl<|a_p (outs:=[(12,(Z9.pd r2))]) (S:=[]) [10,0] rfl (Zf Zkd (Zde _ _ _ _ h3) rfl rfl (.cons u_0 (.cons u_1 (.cons (Opd.c (fun g=>Zfq g)) (.cons (Opd.c (fun g=>Zfq g)) .nil)))))<|Aa 0 rfl<|a_n) (fun a g hst hb=>?_)
  refine wp_ret ?_
  refine Zw ?_
  refine Zl ?_
  obtain rfl:=Option.some.inj H0
  exact Z2 rfl hst hb (Zg (s:=6)) (hst.at 0 rfl)
 ·replace H0:=Zp hc1 H0
  obtain ⟨n4,h5,H0⟩:=Zc H0
  refine r_a [5,15,25,60] (L:=[(0,_),(1,_),(5,_)]) (hst.pick [0,1,2] rfl) hb Za
   (Am 15 rfl<|Am 5 rfl<|a_p [0] rfl (Z6 rfl rfl (Opd.imp u_0 (fun _ _ h=>Zv h5 h)) (fun _ _ ⟨_,_,_,e,_⟩=>⟨_,e⟩))<|Af Zgz 0 rfl<|Al ty_9 0 rfl<|a_p [40,0] rfl (Zos rfl rfl u_0 u_1)<|Aa 0 rfl<|a_n) (fun a g hst hb=>?_)
  refine wp_cond_split (hst.bool 3 rfl) (fun hc6=>?_) (fun hc6=>?_)
  ·replace H0:=Zo hc6 H0
   obtain ⟨r7,h8,H0⟩:=Zc H0;obtain ⟨r9,h10,H0⟩:=Zc H0
   refine r_a [200] (L:=[(0,_),(1,_),(5,_)]) (hst.pick [0,1,2] rfl) hb Za
    (Am 5 rfl<|a_p [0] rfl (Z6 rfl rfl (Opd.imp u_0 (fun _ _ h=>Zv h5 h)) (fun _ _ ⟨_,_,_,e,_⟩=>⟨_,e⟩))<|Af Zgz 0 rfl<|Al ty_9 0 rfl<|Am 5 rfl<|a_p [0] rfl (Z6 rfl rfl (Opd.imp u_0 (fun _ _ h=>Zv h5 h)) (fun _ _ ⟨_,_,_,e,_⟩=>⟨_,e⟩))<|Af Zjb 0 rfl<|Al Zbm 0 rfl<|Am 5 rfl<|a_p [0] rfl (Z6 rfl rfl (Opd.imp u_0 (fun _ _ h=>Zv h5 h)) (fun _ _ ⟨_,_,_,e,_⟩=>⟨_,e⟩))<|Af Zgc 0 rfl<|Al Zdy 0 rfl<|Am 15 rfl<|Al Zbm 25 rfl<|a_p [20,10,0] rfl (Zf Zz4 (hself _ _ _ h8) rfl rfl (.cons u_0 (.cons u_1 (.cons u_2 .nil))))<|Am 5 rfl<|a_p [0] rfl (Z6 rfl rfl (Opd.imp u_0 (fun _ _ h=>Zv h5 h)) (fun _ _ ⟨_,_,_,e,_⟩=>⟨_,e⟩))<|Af Zgx 0 rfl<|Al Zdy 0 rfl<|a_p [150,110,40,0] rfl (Zf Z4c (Zpr _ _ _ _ h10) rfl rfl (.cons u_0 (.cons u_1 (.cons u_2 (.cons u_3 .nil)))))<|Aa 0 rfl<|a_n) (fun a g hst hb=>?_)
   refine wp_ret ?_
   refine Zw ?_
   refine Zl ?_
   obtain rfl:=Option.some.inj H0
   exact Z2 rfl hst hb (Zg (s:=6)) (hst.at 0 rfl)
  ·replace H0:=Zp hc6 H0
   refine r_a [5,15,25,60] (L:=[(0,_),(1,_),(5,_)]) (hst.pick [0,1,2] rfl) hb Za
    (Am 15 rfl<|Am 5 rfl<|a_p [0] rfl (Z6 rfl rfl (Opd.imp u_0 (fun _ _ h=>Zv h5 h)) (fun _ _ ⟨_,_,_,e,_⟩=>⟨_,e⟩))<|Af Zgz 0 rfl<|Al ty_9 0 rfl<|a_p [40,0] rfl (Z1k rfl rfl u_0 u_1)<|Aa 0 rfl<|a_n) (fun a g hst hb=>?_)
   refine wp_cond_split (hst.bool 3 rfl) (fun hc11=>?_) (fun hc11=>?_)
   ·replace H0:=Zo hc11 H0
    obtain ⟨r12,h13,H0⟩:=Zc H0;obtain ⟨r14,h15,H0⟩:=Zc H0
    refine r_a [200] (L:=[(0,_),(1,_),(5,_)]) (hst.pick [0,1,2] rfl) hb Za
     (Am 5 rfl<|a_p [0] rfl (Z6 rfl rfl (Opd.imp u_0 (fun _ _ h=>Zv h5 h)) (fun _ _ ⟨_,_,_,e,_⟩=>⟨_,e⟩))<|Af Zgz 0 rfl<|Al ty_9 0 rfl<|Am 5 rfl<|a_p [0] rfl (Z6 rfl rfl (Opd.imp u_0 (fun _ _ h=>Zv h5 h)) (fun _ _ ⟨_,_,_,e,_⟩=>⟨_,e⟩))<|Af Zjb 0 rfl<|Al Zbm 0 rfl<|Am 5 rfl<|a_p [0] rfl (Z6 rfl rfl (Opd.imp u_0 (fun _ _ h=>Zv h5 h)) (fun _ _ ⟨_,_,_,e,_⟩=>⟨_,e⟩))<|Af Zgc 0 rfl<|Al Zdy 0 rfl<|Am 5 rfl<|a_p [0] rfl (Z6 rfl rfl (Opd.imp u_0 (fun _ _ h=>Zv h5 h)) (fun _ _ ⟨_,_,_,e,_⟩=>⟨_,e⟩))<|Af Zgx 0 rfl<|Al Zdy 0 rfl<|Am 15 rfl<|Al Zbm 25 rfl<|a_p [20,10,0] rfl (Zf Zz4 (hself _ _ _ h13) rfl rfl (.cons u_0 (.cons u_1 (.cons u_2 .nil))))<|a_p [150,110,70,0] rfl (Zf Z4c (Zpr _ _ _ _ h15) rfl rfl (.cons u_0 (.cons u_1 (.cons u_2 (.cons u_3 .nil)))))<|Aa 0 rfl<|a_n) (fun a g hst hb=>?_)
    refine wp_ret ?_
    refine Zw ?_
    refine Zl ?_
    obtain rfl:=Option.some.inj H0
    exact Z2 rfl hst hb (Zg (s:=6)) (hst.at 0 rfl)
   ·replace H0:=Zp hc11 H0
    refine wp_skip ?_
    refine Zba ?_
    refine Zm ?_
    obtain ⟨r16,h17,H0⟩:=Zc H0
    refine r_a [110] (L:=[(0,_),(1,_),(5,_)]) (hst.pick [0,1,2] rfl) hb Za
     (Am 15 rfl<|Al Zbm 25 rfl<|Am 5 rfl<|a_p [0] rfl (Z6 rfl rfl (Opd.imp u_0 (fun _ _ h=>Zv h5 h)) (fun _ _ ⟨_,_,_,e,_⟩=>⟨_,e⟩))<|Af Zgc 0 rfl<|Al Zdy 0 rfl<|Am 5 rfl<|a_p [0] rfl (Z6 rfl rfl (Opd.imp u_0 (fun _ _ h=>Zv h5 h)) (fun _ _ ⟨_,_,_,e,_⟩=>⟨_,e⟩))<|Af Zgx 0 rfl<|Al Zdy 0 rfl<|a_p [90,80,40,0] rfl (Zf Zkd (Zde _ _ _ _ h17) rfl rfl (.cons u_0 (.cons u_1 (.cons u_2 (.cons u_3 .nil)))))<|Aa 0 rfl<|a_n) (fun a g hst hb=>?_)
    refine wp_ret ?_
    obtain rfl:=Option.some.inj H0
    exact Z2 rfl hst hb (Zg (s:=6)) (hst.at 0 rfl)
theorem Zla:∀ (n:Nat) (a0:shelf_nodeT) (a1:ByteArray) (a2:Zb) {r:shelf_nodeT},Zei n a0 a1 a2=some r → FnOk Tryz.prog 46 [(Z9.pd a0),(pStr a1),(Ze.pd a2)] (Z9.pd r)
 | 0,_,_,_,_,h=>by simp [Zei] at h
 | n + 1,a0,a1,a2,_,h=>Zp0 (Zei n) (fun a0 a1 a2 r h=>Zla n a0 a1 a2 h) a0 a1 a2 h
theorem Zrf (a0:shelf_nodeT) (a1:ByteArray) (a2:Zb) {r:shelf_nodeT} (h:Zlc a0 a1 a2=some r):FnOk Tryz.prog 46 [(Z9.pd a0),(pStr a1),(Ze.pd a2)] (Z9.pd r):=Zla _ a0 a1 a2 h
theorem Zl7 (a0:Zj) (a1:ByteArray) (a2:Zb) {r:Zj × Int} (h:Zc6 a0 a1 a2=some r):FnOk Tryz.prog 23 [(Z1.pd a0),(pStr a1),(Ze.pd a2)] (pTup [(Z1.pd r.1),(pInt .i64 r.2)]):=by
 have H0:=h
 unfold Zc6 at H0
 clear h
 refine Zbs (N:=50) Tryz.func23 rfl rfl (Qe rfl) rfl rfl (fun a g0 hst hb=>?_)
 refine r_a [15,0,10,20] (L:=[(0,_),(1,_),(2,_)]) hst hb Za
  (a_p [5] rfl (Zbt rfl rfl u_0)<|a_p [25] rfl (Zbt rfl rfl u_0)<|a_p (outs:=[(6,(pBox Z1 6 (default:Zj)))]) (S:=[7]) [] rfl (Zbl (zs:=[.pointer none,.int .i64 0]) (by kernel_rfl) (fun g=>Zd5 g) rfl rfl)<|a_p [] rfl (Zd rfl rfl c_i)<|a_n) (fun a g hst hb=>?_)
 refine wp_seq ?_
 refine r_a [5,15,25,35,60] (L:=[(1,_),(3,_),(5,_),(6,_)]) hst hb Za
  (Am 5 rfl<|a_p [0] rfl (Zir rfl rfl u_0 c_s)<|Am 0 rfl<|a_g [0,5] (Qg_f rfl (fun hG=>Zq rfl rfl u_0))<|a_g [10,0] (Qg_f rfl (fun hG=>Zdc Tryz.underlying9 rfl rfl (Opd.gd hG u_0)))<|a_g [20,0] (Qg_f rfl (fun hG=>Zcl rfl rfl (Opd.gd hG u_0) c_i))<|a_p [30,0] rfl (Zbh rfl rfl u_0 (fun hz=>(Opd.gd (bNF hz) u_1)))<|a_n) (fun a g hst hb=>?_)
 refine wp_cond_split (hst.bool 4 rfl) (fun hc1=>?_) (fun hc1=>?_)
 ·replace H0:=Zo hc1 H0
  refine r_a [10,20] (L:=[(3,_),(6,_)]) (hst.pick [1,3] rfl) hb Za
   (Al Zbu 5 rfl<|a_p [0,15] rfl (Z7 Zbu rfl rfl u_1 u_0)<|a_p [] rfl (Zd rfl rfl c_i)<|a_n) (fun a g hst hb=>?_)
  refine wp_ret ?_
  refine Zl ?_
  obtain rfl:=Option.some.inj H0
  obtain ⟨u0,hu0,hq0⟩:=Zbn (P:=Tryz.prog) Zbu (hst.at 0 rfl)
  exact Zdl rfl hst hb hu0 (Zg (s:=7)) (Zch hq0 (hst.at 1 rfl))
 ·replace H0:=Zp hc1 H0
  refine wp_skip ?_
  refine Zm ?_
  refine wp_seq ?_
  obtain ⟨r2,h3,H0⟩:=Zc H0
  refine r_a [5,15,25,35,20] (L:=[(1,_),(3,_),(5,_),(6,_)]) (hst.pick [0,1,2,3] rfl) hb Za
   (Al Zbm 25 rfl<|a_p [0] rfl (Zf Zv0 (Zk8 _ h3) rfl rfl (.cons u_0 .nil))<|Aa 0 rfl<|a_n) (fun a g hst hb=>?_)
  refine r_a [5,15,25,35,45,10] (L:=[(1,_),(3,_),(5,_),(6,_),(8,_)]) hst hb Za
   (Am 45 rfl<|a_p [0] rfl (Zcw rfl rfl u_0 c_i)<|a_n) (fun a g hst hb=>?_)
  refine wp_cond_split (hst.bool 5 rfl) (fun hc4=>?_) (fun hc4=>?_)
  ·replace H0:=Zo hc4 H0
   refine r_a [20,30] (L:=[(3,_),(6,_),(8,_)]) (hst.pick [1,3,4] rfl) hb Za
    (Al Zbu 5 rfl<|Am 25 rfl<|a_p [10,15] rfl (Z7 Zbu rfl rfl u_1 u_0)<|Aa 10 rfl<|a_n) (fun a g hst hb=>?_)
   refine wp_ret ?_
   refine Zl ?_
   obtain rfl:=Option.some.inj H0
   obtain ⟨u0,hu0,hq0⟩:=Zbn (P:=Tryz.prog) Zbu (hst.at 0 rfl)
   exact Zdl rfl hst hb hu0 (Zg (s:=7)) (Zch hq0 (hst.at 1 rfl))
  ·replace H0:=Zp hc4 H0
   refine wp_skip ?_
   refine Zm ?_
   refine wp_seq ?_
   obtain ⟨r5,h6,H0⟩:=Zc H0
   refine r_a [5,15,25,35,80] (L:=[(1,_),(3,_),(5,_),(6,_)]) (hst.pick [0,1,2,3] rfl) hb Za
    (Al Zbu 15 rfl<|Am 5 rfl<|a_p [10,0] rfl (Zf Z4i (Zl8 _ _ h6) rfl rfl (.cons u_0 (.cons u_1 .nil)))<|Am 0 rfl<|a_p [0] rfl (Zz rfl rfl u_0 rfl)<|a_p [10] rfl (Zz rfl rfl u_0 rfl)<|a_p (outs:=[(9,(pBox Ze 9 (default:Zb)))]) (S:=[10]) [] rfl (Zbl (zs:=[.int .i64 0,.int .i64 0,.int .i64 0,.int .i64 0,.float .f64 0,.int .i64 0,.string ByteArray.empty,.slice none 0 0]) (by kernel_rfl) (fun g=>Zb3 g) rfl rfl)<|a_p [20,0] rfl (Zb9 Zbm rfl rfl u_1 u_0)<|Aa 20 rfl<|a_n) (fun a g hst hb=>?_)
   obtain ⟨r7,h8,H0⟩:=Zc H0
   refine r_a [5,15,25,35,80] (L:=[(1,_),(3,_),(5,_),(6,_),(10,_)]) hst hb Za
    (Am 45 rfl<|a_p [0] rfl (Zcg rfl rfl u_0)<|Am 0 rfl<|a_g [0,15] (Qg_t rfl (fun hG=>Zs Zbu rfl rfl u_0))<|a_g [10,0] (Qg_t rfl (fun hG=>Zf en_8 (Ze9 _ (Zbe h8 hG)) rfl rfl (.cons (Opd.gd hG u_0) .nil)))<|a_g [20,15] (Qg_t rfl (fun hG=>Zi Zti rfl rfl u_0))<|a_g [30,0] (Qg_t rfl (fun hG=>Zs ty_3 rfl rfl (Opd.gd hG u_0)))<|a_g [40,20,0] (Qg_t rfl (fun hG=>Zhd rfl rfl (Opd.gd hG u_0) (Opd.gd hG u_1)))<|a_p [50,0] rfl (Zbg rfl rfl u_0 (fun hz=>(Opd.gd hz u_1)))<|a_n) (fun a g hst hb=>?_)
   refine wp_cond_split (hst.bool 4 rfl) (fun hc9=>?_) (fun hc9=>?_)
   ·replace H0:=Zo hc9 H0
    refine r_a [10,20] (L:=[(3,_),(6,_)]) (hst.pick [1,3] rfl) hb Za
     (Al Zbu 5 rfl<|a_p [0,15] rfl (Z7 Zbu rfl rfl u_1 u_0)<|a_p [] rfl (Zd rfl rfl c_i)<|a_n) (fun a g hst hb=>?_)
    refine wp_ret ?_
    refine Zl ?_
    obtain rfl:=Option.some.inj H0
    obtain ⟨u0,hu0,hq0⟩:=Zbn (P:=Tryz.prog) Zbu (hst.at 0 rfl)
    exact Zdl rfl hst hb hu0 (Zg (s:=7)) (Zch hq0 (hst.at 1 rfl))
   ·replace H0:=Zp hc9 H0
    refine wp_skip ?_
    refine Zm ?_
    obtain ⟨r10,h11,H0⟩:=Zc H0;obtain ⟨r12,h13,H0⟩:=Zc H0
    refine r_a [90,100] (L:=[(1,_),(3,_),(5,_),(6,_)]) (hst.pick [0,1,2,3] rfl) hb Za
     (Af Zqz 15 rfl<|Al Zdy 0 rfl<|Am 5 rfl<|Al Zbm 25 rfl<|a_p [0] rfl (Zf Zpc (Zg6 _ h11) rfl rfl (.cons u_0 .nil))<|a_p [30,20,0] rfl (Zf Zz4 (Zrf _ _ _ h13) rfl rfl (.cons u_0 (.cons u_1 (.cons u_2 .nil))))<|Af Zti 15 rfl<|Al ty_3 0 rfl<|a_p [20,0] rfl (Z0k rfl rfl u_0 u_1)<|a_p [0,35] rfl (Z7 Zbu rfl rfl u_1 u_0)<|a_p [] rfl (Zd rfl rfl c_i)<|a_n) (fun a g hst hb=>?_)
    refine wp_ret ?_
    obtain rfl:=Option.some.inj H0
    obtain ⟨u0,hu0,hq0⟩:=Zbn (P:=Tryz.prog) Zbu (hst.at 0 rfl)
    exact Zdl rfl hst hb hu0 (Zg (s:=7)) (Zch hq0 (hst.at 1 rfl))
theorem Zjg (a0:Nat) {r:Bool} (h:Ze1 a0=some r):FnOk Tryz.prog 121 [(pFlt a0)] (Z5 r):=by
 have H0:=h
 unfold Ze1 at H0
 clear h
 refine Zbs (N:=6) Tryz.func121 rfl rfl (Qe rfl) rfl rfl (fun a g0 hst hb=>?_)
 refine r_a [5] (L:=[(0,_)]) hst hb Za
  (a_p [] rfl (Zd rfl rfl c_b)<|a_n) (fun a g hst hb=>?_)
 refine r_a [30] (L:=[(0,_)]) hst hb Za
  (Am 5 rfl<|Am 5 rfl<|a_p [10,0] rfl (Zyn rfl rfl u_0 u_1)<|Aa 0 rfl<|a_n) (fun a g hst hb=>?_)
 refine wp_ret ?_
 obtain rfl:=Option.some.inj H0
 exact Z2 rfl hst hb (Zg (s:=2)) (hst.at 0 rfl)
theorem Zk2 (a0:Nat) {r:Bool} (h:Zfm a0=some r):FnOk Tryz.prog 158 [(pFlt a0)] (Z5 r):=by
 have H0:=h
 unfold Zfm at H0
 clear h
 refine Zbs (N:=10) Tryz.func158 rfl rfl (Qe rfl) rfl rfl (fun a g0 hst hb=>?_)
 refine r_a [5] (L:=[(0,_)]) hst hb Za
  (a_p [] rfl (Zd rfl rfl c_b)<|a_n) (fun a g hst hb=>?_)
 refine wp_seq ?_
 refine r_a [5,10] (L:=[(0,_)]) hst hb Za
  (Am 5 rfl<|a_p [0] rfl (Zty rfl rfl u_0 c_f)<|a_n) (fun a g hst hb=>?_)
 refine wp_cond_split (hst.bool 1 rfl) (fun hc1=>?_) (fun hc1=>?_)
 ·replace H0:=Zo hc1 H0
  obtain ⟨f2,h3,H0⟩:=Zc H0
  refine r_a [30] (L:=[(0,_)]) (hst.pick [0] rfl) hb Za
   (Am 5 rfl<|a_p [0] rfl (Z4x rfl rfl c_f u_0 h3)<|a_p [0] rfl (Zt4 rfl rfl u_0 c_f)<|Aa 0 rfl<|a_n) (fun a g hst hb=>?_)
  refine wp_ret ?_
  refine Zl ?_
  obtain rfl:=Option.some.inj H0
  exact Z2 rfl hst hb (Zg (s:=2)) (hst.at 0 rfl)
 ·replace H0:=Zp hc1 H0
  refine wp_skip ?_
  refine Zm ?_
  refine r_a [20] (L:=[(0,_)]) (hst.pick [0] rfl) hb Za
   (Am 5 rfl<|a_p [0] rfl (Zt4 rfl rfl u_0 c_f)<|Aa 0 rfl<|a_n) (fun a g hst hb=>?_)
  refine wp_ret ?_
  obtain rfl:=Option.some.inj H0
  exact Z2 rfl hst hb (Zg (s:=2)) (hst.at 0 rfl)
theorem Zjh (a0:Nat) (a1:Nat) {r:Bool} (h:Ze3 a0 a1=some r):FnOk Tryz.prog 113 [(pFlt a0),(pFlt a1)] (Z5 r):=by
 have H0:=h
 unfold Ze3 at H0
 clear h
 refine Zbs (N:=25) Tryz.func113 rfl rfl (Qe rfl) rfl rfl (fun a g0 hst hb=>?_)
 refine r_a [5,15] (L:=[(0,_),(1,_)]) hst hb Za
  (a_p [] rfl (Zd rfl rfl c_b)<|a_n) (fun a g hst hb=>?_)
 refine wp_seq ?_
 obtain ⟨r1,h2,H0⟩:=Zc H0
 refine r_a [5,15,10] (L:=[(0,_),(1,_)]) hst hb Za
  (Am 5 rfl<|a_p [0] rfl (Zf Zv3 (Zjg _ h2) rfl rfl (.cons u_0 .nil))<|a_n) (fun a g hst hb=>?_)
 refine wp_cond_split (hst.bool 2 rfl) (fun hc3=>?_) (fun hc3=>?_)
 ·replace H0:=Zo hc3 H0
  refine r_a [0] (L:=[]) (hst.pick [] rfl) hb Za
   (a_p [] rfl (Zd rfl rfl c_b)<|a_n) (fun a g hst hb=>?_)
  refine wp_ret ?_
  refine Zl ?_
  obtain rfl:=Option.some.inj H0
  exact Z2 rfl hst hb (Zg (s:=4)) (hst.at 0 rfl)
 ·replace H0:=Zp hc3 H0
  refine wp_skip ?_
  refine Zm ?_
  refine wp_seq ?_
  obtain ⟨r4,h5,H0⟩:=Zc H0
  refine r_a [5,15,10] (L:=[(0,_),(1,_)]) (hst.pick [0,1] rfl) hb Za
   (Am 15 rfl<|a_p [0] rfl (Zf Zv3 (Zjg _ h5) rfl rfl (.cons u_0 .nil))<|a_n) (fun a g hst hb=>?_)
  refine wp_cond_split (hst.bool 2 rfl) (fun hc6=>?_) (fun hc6=>?_)
  ·replace H0:=Zo hc6 H0
   refine r_a [0] (L:=[]) (hst.pick [] rfl) hb Za
    (a_p [] rfl (Zd rfl rfl c_b)<|a_n) (fun a g hst hb=>?_)
   refine wp_ret ?_
   refine Zl ?_
   obtain rfl:=Option.some.inj H0
   exact Z2 rfl hst hb (Zg (s:=4)) (hst.at 0 rfl)
  ·replace H0:=Zp hc6 H0
   refine wp_skip ?_
   refine Zm ?_
   refine wp_seq ?_
   refine r_a [5,15,50] (L:=[(0,_),(1,_)]) (hst.pick [0,1] rfl) hb Za
    (Am 5 rfl<|a_p [0] rfl (Zty rfl rfl u_0 c_f)<|Am 0 rfl<|a_g [0,15] (Qg_t rfl (fun hG=>Zq rfl rfl u_0))<|a_g [10,0] (Qg_t rfl (fun hG=>Zty rfl rfl (Opd.gd hG u_0) c_f))<|a_p [20,0] rfl (Zbg rfl rfl u_0 (fun hz=>(Opd.gd hz u_1)))<|a_n) (fun a g hst hb=>?_)
   refine wp_cond_split (hst.bool 2 rfl) (fun hc7=>?_) (fun hc7=>?_)
   ·replace H0:=Zo hc7 H0
    obtain ⟨r8,h9,H0⟩:=Zc H0;obtain ⟨r10,h11,H0⟩:=Zc H0
    refine r_a [70] (L:=[(0,_),(1,_)]) (hst.pick [0,1] rfl) hb Za
     (Am 5 rfl<|a_p [0] rfl (Zf Z04 (Zk2 _ h9) rfl rfl (.cons u_0 .nil))<|Am 0 rfl<|a_g [0,15] (Qg_t rfl (fun hG=>Zq rfl rfl u_0))<|a_g [10,0] (Qg_t rfl (fun hG=>Zf Z04 (Zk2 _ (Zbe h11 hG)) rfl rfl (.cons (Opd.gd hG u_0) .nil)))<|a_g [20,0] (Qg_t rfl (fun hG=>Zcg rfl rfl (Opd.gd hG u_0)))<|a_p [30,0] rfl (Zbg rfl rfl u_0 (fun hz=>(Opd.gd hz u_1)))<|Aa 0 rfl<|a_n) (fun a g hst hb=>?_)
    refine wp_ret ?_
    refine Zl ?_
    obtain rfl:=Option.some.inj H0
    exact Z2 rfl hst hb (Zg (s:=4)) (hst.at 0 rfl)
   ·replace H0:=Zp hc7 H0
    refine wp_skip ?_
    refine Zm ?_
    refine r_a [30] (L:=[(0,_),(1,_)]) (hst.pick [0,1] rfl) hb Za
     (Am 5 rfl<|Am 15 rfl<|a_p [10,0] rfl (Zt4 rfl rfl u_0 u_1)<|Aa 0 rfl<|a_n) (fun a g hst hb=>?_)
    refine wp_ret ?_
    obtain rfl:=Option.some.inj H0
    exact Z2 rfl hst hb (Zg (s:=4)) (hst.at 0 rfl)
theorem Zhc (a0:Nat) (a1:Nat) {r:Bool} (h:Zek a0 a1=some r):FnOk Tryz.prog 77 [(pFlt a0),(pFlt a1)] (Z5 r):=by
 have H0:=h
 unfold Zek at H0
 clear h
 refine Zbs (N:=15) Tryz.func77 rfl rfl (Qe rfl) rfl rfl (fun a g0 hst hb=>?_)
 refine r_a [5,15] (L:=[(0,_),(1,_)]) hst hb Za
  (a_p [] rfl (Zd rfl rfl c_b)<|a_n) (fun a g hst hb=>?_)
 obtain ⟨r1,h2,H0⟩:=Zc H0;obtain ⟨r3,h4,H0⟩:=Zc H0
 refine r_a [100] (L:=[(0,_),(1,_)]) hst hb Za
  (Am 5 rfl<|Am 15 rfl<|a_p [10,0] rfl (Zf Zxn (Zjh _ _ h2) rfl rfl (.cons u_0 (.cons u_1 .nil)))<|a_p [0] rfl (Zcg rfl rfl u_0)<|Am 0 rfl<|a_g [0,15] (Qg_t rfl (fun hG=>Zq rfl rfl u_0))<|a_g [10,5] (Qg_t rfl (fun hG=>Zq rfl rfl u_0))<|a_g [20,10,0] (Qg_t rfl (fun hG=>Zf Zxn (Zjh _ _ (Zbe h4 hG)) rfl rfl (.cons (Opd.gd hG u_0) (.cons (Opd.gd hG u_1) .nil))))<|a_g [30,0] (Qg_t rfl (fun hG=>Zcg rfl rfl (Opd.gd hG u_0)))<|a_p [40,0] rfl (Zbg rfl rfl u_0 (fun hz=>(Opd.gd hz u_1)))<|Aa 0 rfl<|a_n) (fun a g hst hb=>?_)
 refine wp_ret ?_
 obtain rfl:=Option.some.inj H0
 exact Z2 rfl hst hb (Zg (s:=4)) (hst.at 0 rfl)
theorem Zlb (a0:Nat) {r:Bool} (h:Zft a0=some r):FnOk Tryz.prog 120 [(pFlt a0)] (Z5 r):=by
 have H0:=h
 unfold Zft at H0
 clear h
 refine Zbs (N:=5) Tryz.func120 rfl rfl (Qe rfl) rfl rfl (fun a g0 hst hb=>?_)
 refine r_a [5] (L:=[(0,_)]) hst hb Za
  (a_p [] rfl (Zd rfl rfl c_b)<|a_n) (fun a g hst hb=>?_)
 obtain ⟨r1,h2,H0⟩:=Zc H0
 refine r_a [20] (L:=[(0,_)]) hst hb Za
  (Am 5 rfl<|a_p [0] rfl (Zf Zvy (Zhc _ _ h2) rfl rfl (.cons u_0 (.cons c_f .nil)))<|Aa 0 rfl<|a_n) (fun a g hst hb=>?_)
 refine wp_ret ?_
 obtain rfl:=Option.some.inj H0
 exact Z2 rfl hst hb (Zg (s:=2)) (hst.at 0 rfl)
theorem Zpx (a0:Zb) (a1:ByteArray) {r:Bool} (h:Zg5 a0 a1=some r):FnOk Tryz.prog 85 [(Ze.pd a0),(pStr a1)] (Z5 r):=by
 have H0:=h
 unfold Zg5 at H0
 clear h
 refine Zbs (N:=106) Tryz.func85 rfl rfl (Qe rfl) rfl rfl (fun a g0 hst hb=>?_)
 refine r_a [15,0] (L:=[(0,_),(1,_)]) hst hb Za
  (a_p [5] rfl (Zbt rfl rfl u_0)<|a_p [] rfl (Zd rfl rfl c_b)<|a_n) (fun a g hst hb=>?_)
 refine r_a [5,15,0,10,20,30,40] (L:=[(1,_),(2,_)]) hst hb Za
  (a_p [] rfl (Zd rfl rfl c_b)<|a_p [] rfl (Zd rfl rfl c_b)<|a_p [] rfl (Zd rfl rfl c_b)<|a_p [] rfl (Zd rfl rfl c_b)<|a_p [] rfl (Zd rfl rfl c_b)<|a_n) (fun a g hst hb=>?_)
 refine wp_seq ?_
 refine r_a [5,15,25,35,45,55,65,0] (L:=[(1,_),(2,_),(5,_),(6,_),(7,_),(8,_),(9,_)]) hst hb Za
  (a_p [] rfl (Zd rfl rfl c_i)<|a_n) (fun a g hst hb=>?_)
 obtain ⟨z23,hz1,H0⟩:=Zc H0
 refine Zbp (fun a w=>∃ (y18:Bool) (y19:Bool) (y20:Bool) (y21:Bool) (y22:Bool) (g:G),w=g.w ∧ St 106 [(2,(Ze.ptr a0)),(5,(Z5 y18)),(6,(Z5 y19)),(7,(Z5 y20)),(8,(Z5 y21)),(9,(Z5 y22))] a g ∧ Base g0 g ∧ (y18,y19,y20,y21,y22)=z23) ?_ ?_
 ·rintro a w ⟨y18,y19,y20,y21,y22,g,rfl,hst,hb,rfl⟩
  refine Zm ?_
  refine wp_seq ?_
  refine r_a [5,45,55,330] (L:=[(2,_),(5,_),(6,_),(7,_),(8,_),(9,_)]) hst hb Za
   (Am 15 rfl<|a_p [0] rfl (Zcg rfl rfl u_0)<|Am 0 rfl<|a_g [0,5] (Qg_t rfl (fun hG=>Zi Zje rfl rfl u_0))<|a_g [10,0] (Qg_t rfl (fun hG=>Zs ty_9 rfl rfl (Opd.gd hG u_0)))<|a_g [20,0] (Qg_t rfl (fun hG=>Zkl rfl rfl (Opd.gd hG u_0) c_s))<|a_p [30,0] rfl (Zbg rfl rfl u_0 (fun hz=>(Opd.gd hz u_1)))<|Am 0 rfl<|a_g [0,25] (Qg_f rfl (fun hG=>Zq rfl rfl u_0))<|a_g [10,0] (Qg_f rfl (fun hG=>Zcg rfl rfl (Opd.gd hG u_0)))<|a_g [20,0] (Qg_f rfl (fun hG=>Zq rfl rfl (Opd.gd hG u_0)))<|a_g [0,5] (Qg_ti rfl (fun hG=>Zi Zhi rfl rfl u_0))<|a_g [10,0] (Qg_ti rfl (fun hG=>Zs ty_2 rfl rfl (Opd.gd hG u_0)))<|a_g [20,0] (Qg_ti rfl (fun hG=>Zcw rfl rfl (Opd.gd hG u_0) c_i))<|a_g [60,30,0] (Qg_f rfl (fun hG=>Zbg rfl rfl (Opd.gd hG u_0) (fun hz=>(Opd.gd (bA hG hz) u_1))))<|a_p [70,0] rfl (Zbh rfl rfl u_0 (fun hz=>(Opd.gd (bNF hz) u_1)))<|Am 0 rfl<|a_g [0,35] (Qg_f rfl (fun hG=>Zq rfl rfl u_0))<|a_g [10,0] (Qg_f rfl (fun hG=>Zcg rfl rfl (Opd.gd hG u_0)))<|a_g [20,0] (Qg_f rfl (fun hG=>Zq rfl rfl (Opd.gd hG u_0)))<|a_g [0,5] (Qg_ti rfl (fun hG=>Zi Ziq rfl rfl u_0))<|a_g [10,0] (Qg_ti rfl (fun hG=>Zs ty_2 rfl rfl (Opd.gd hG u_0)))<|a_g [20,0] (Qg_ti rfl (fun hG=>Zcw rfl rfl (Opd.gd hG u_0) c_i))<|a_g [60,30,0] (Qg_f rfl (fun hG=>Zbg rfl rfl (Opd.gd hG u_0) (fun hz=>(Opd.gd (bA hG hz) u_1))))<|a_p [70,0] rfl (Zbh rfl rfl u_0 (fun hz=>(Opd.gd (bNF hz) u_1)))<|Am 0 rfl<|a_g [0,35] (Qg_f rfl (fun hG=>Zq rfl rfl u_0))<|a_g [10,0] (Qg_f rfl (fun hG=>Zcg rfl rfl (Opd.gd hG u_0)))<|a_g [20,0] (Qg_f rfl (fun hG=>Zq rfl rfl (Opd.gd hG u_0)))<|a_g [0,5] (Qg_ti rfl (fun hG=>Zi Ziv rfl rfl u_0))<|a_g [10,0] (Qg_ti rfl (fun hG=>Zs ty_2 rfl rfl (Opd.gd hG u_0)))<|a_g [20,0] (Qg_ti rfl (fun hG=>Zcw rfl rfl (Opd.gd hG u_0) c_i))<|a_g [60,30,0] (Qg_f rfl (fun hG=>Zbg rfl rfl (Opd.gd hG u_0) (fun hz=>(Opd.gd (bA hG hz) u_1))))<|a_p [70,0] rfl (Zbh rfl rfl u_0 (fun hz=>(Opd.gd (bNF hz) u_1)))<|a_n) (fun a g hst hb=>?_)
  refine wp_cond_split (hst.bool 3 rfl) (fun hc24=>?_) (fun hc24=>?_)
  ·replace H0:=Zo hc24 H0
   refine r_a [0] (L:=[]) (hst.pick [] rfl) hb Za
    (a_p [] rfl (Zd rfl rfl c_b)<|a_n) (fun a g hst hb=>?_)
   refine wp_ret ?_
   refine Zl ?_
   obtain rfl:=Option.some.inj H0
   exact Z2 rfl hst hb (Zg (s:=4)) (hst.at 0 rfl)
  ·replace H0:=Zp hc24 H0
   refine wp_skip ?_
   refine Zm ?_
   obtain ⟨r25,h26,H0⟩:=Zc H0
   refine r_a [200] (L:=[(2,_),(8,_),(9,_)]) (hst.pick [0,1,2] rfl) hb Za
    (Am 15 rfl<|Am 0 rfl<|a_g [0,5] (Qg_f rfl (fun hG=>Zi Zj4 rfl rfl u_0))<|a_g [10,0] (Qg_f rfl (fun hG=>Zs Zdt rfl rfl (Opd.gd hG u_0)))<|a_g [20,0] (Qg_f rfl (fun hG=>Zf Z17 (Zlb _ (Zbe h26 hG)) rfl rfl (.cons (Opd.gd hG u_0) .nil)))<|a_p [30,0] rfl (Zbh rfl rfl u_0 (fun hz=>(Opd.gd (bNF hz) u_1)))<|Am 0 rfl<|a_g [0,25] (Qg_t rfl (fun hG=>Zq rfl rfl u_0))<|a_g [10,0] (Qg_t rfl (fun hG=>Zq rfl rfl (Opd.gd hG u_0)))<|a_g [0,5] (Qg_fi rfl (fun hG=>Zi Zgw rfl rfl u_0))<|a_g [10,0] (Qg_fi rfl (fun hG=>Zs ty_3 rfl rfl (Opd.gd hG u_0)))<|a_g [20,0] (Qg_fi rfl (fun hG=>Zbk rfl rfl (Opd.gd hG u_0) c_i))<|a_g [30,0] (Qg_fi rfl (fun hG=>Zq rfl rfl (Opd.gd hG u_0)))<|a_g [0,5] (Qg_ti rfl (fun hG=>Zi Zd1 rfl rfl u_0))<|a_g [10,0] (Qg_ti rfl (fun hG=>Zs Zfz rfl rfl (Opd.gd hG u_0)))<|a_g [20,0] (Qg_ti rfl (fun hG=>Zcc Tryz.underlying36 rfl rfl (Opd.gd hG u_0)))<|a_g [30,0] (Qg_ti rfl (fun hG=>Zbk rfl rfl (Opd.gd hG u_0) c_i))<|a_g [80,40,0] (Qg_fi rfl (fun hG=>Zbg rfl rfl (Opd.gd hG u_0) (fun hz=>(Opd.gd (bA hG hz) u_1))))<|a_g [110,90,0] (Qg_t rfl (fun hG=>Zbh rfl rfl (Opd.gd hG u_0) (fun hz=>(Opd.gd (bA hG (bNF hz)) u_1))))<|a_p [120,0] rfl (Zbg rfl rfl u_0 (fun hz=>(Opd.gd hz u_1)))<|Aa 0 rfl<|a_n) (fun a g hst hb=>?_)
   refine wp_ret ?_
   obtain rfl:=Option.some.inj H0
   exact Z2 rfl hst hb (Zg (s:=4)) (hst.at 0 rfl)
 ·refine wp_block ?_
  refine wp_loop_ghost (fun n a w=>∃ (x1:Bool) (x2:Bool) (x3:Bool) (x4:Bool) (x5:Bool) (x6:Int) (g:G),w=g.w ∧ St 106 [(1,(pStr a1)),(2,(Ze.ptr a0)),(5,(Z5 x1)),(6,(Z5 x2)),(7,(Z5 x3)),(8,(Z5 x4)),(9,(Z5 x5)),(10,(pInt .i64 x6))] a g ∧ Base g0 g ∧ Zcf a1 n x1 x2 x3 x4 x5 x6=some z23) (Int.toNat ((a1.size:Int) - (0:Int)) + 1) ⟨false,false,false,false,false,(0:Int),g,rfl,(hst.pick [0,1,2,3,4,5,6,7] rfl),hb,hz1⟩ (fun n a w hI=>?_)
  obtain ⟨x1,x2,x3,x4,x5,x6,g,rfl,hst,hb,H1⟩:=hI
  cases n with
  | zero=>exact absurd H1 (by simp [Zcf])
  | succ n =>
   rw [Zcf] at H1
   refine wp_seq ?_
   refine r_a [5,15,25,35,45,55,65,75,30] (L:=[(1,_),(2,_),(5,_),(6,_),(7,_),(8,_),(9,_),(10,_)]) hst hb Za
    (Am 75 rfl<|Am 5 rfl<|a_p [0] rfl (Zdc Tryz.underlying9 rfl rfl u_0)<|a_p [20,0] rfl (Zco rfl rfl u_0 u_1)<|a_n) (fun a g hst hb=>?_)
   refine wp_cond_split (hst.bool 8 rfl) (fun hc7=>?_) (fun hc7=>?_)
   ·replace H1:=Zo hc7 H1
    refine wp_skip ?_
    refine Zm ?_
    refine wp_seq ?_
    refine wp_block ?_
    obtain ⟨b8,h9,H1⟩:=Zc H1
    refine r_a [5,15,70,35,45,55,65,75] (L:=[(1,_),(2,_),(5,_),(6,_),(7,_),(8,_),(9,_),(10,_)]) (hst.pick [0,1,2,3,4,5,6,7] rfl) hb Za
     (Am 25 rfl<|Am 0 rfl<|a_g [0,5] (Qg_f rfl (fun hG=>Zq rfl rfl u_0))<|a_g [10,75] (Qg_f rfl (fun hG=>Zq rfl rfl u_0))<|a_g [20,10,0] (Qg_f rfl (fun hG=>Zcj Tryz.underlying9 rfl rfl (Opd.gd hG u_0) (Opd.gd hG u_1) (Zbe h9 hG)))<|a_g [30,0] (Qg_f rfl (fun hG=>Zbk rfl rfl (Opd.gd hG u_0) c_i))<|a_p [40,0] rfl (Zbh rfl rfl u_0 (fun hz=>(Opd.gd (bNF hz) u_1)))<|Aa 0 rfl<|a_n) (fun a g hst hb=>?_)
    obtain ⟨b10,h11,H1⟩:=Zc H1
    refine r_a [5,15,25,70,45,55,65,75] (L:=[(1,_),(2,_),(5,_),(6,_),(7,_),(8,_),(9,_),(10,_)]) hst hb Za
     (Am 35 rfl<|Am 0 rfl<|a_g [0,5] (Qg_f rfl (fun hG=>Zq rfl rfl u_0))<|a_g [10,75] (Qg_f rfl (fun hG=>Zq rfl rfl u_0))<|a_g [20,10,0] (Qg_f rfl (fun hG=>Zcj Tryz.underlying9 rfl rfl (Opd.gd hG u_0) (Opd.gd hG u_1) (Zbe h11 hG)))<|a_g [30,0] (Qg_f rfl (fun hG=>Zbk rfl rfl (Opd.gd hG u_0) c_i))<|a_p [40,0] rfl (Zbh rfl rfl u_0 (fun hz=>(Opd.gd (bNF hz) u_1)))<|Aa 0 rfl<|a_n) (fun a g hst hb=>?_)
    obtain ⟨b12,h13,H1⟩:=Zc H1
    refine r_a [5,15,25,35,70,55,65,75] (L:=[(1,_),(2,_),(5,_),(6,_),(7,_),(8,_),(9,_),(10,_)]) hst hb Za
     (Am 45 rfl<|Am 0 rfl<|a_g [0,5] (Qg_f rfl (fun hG=>Zq rfl rfl u_0))<|a_g [10,75] (Qg_f rfl (fun hG=>Zq rfl rfl u_0))<|a_g [20,10,0] (Qg_f rfl (fun hG=>Zcj Tryz.underlying9 rfl rfl (Opd.gd hG u_0) (Opd.gd hG u_1) (Zbe h13 hG)))<|a_g [30,0] (Qg_f rfl (fun hG=>Zbk rfl rfl (Opd.gd hG u_0) c_i))<|a_p [40,0] rfl (Zbh rfl rfl u_0 (fun hz=>(Opd.gd (bNF hz) u_1)))<|Aa 0 rfl<|a_n) (fun a g hst hb=>?_)
    obtain ⟨b14,h15,H1⟩:=Zc H1
    refine r_a [5,15,25,35,45,70,65,75] (L:=[(1,_),(2,_),(5,_),(6,_),(7,_),(8,_),(9,_),(10,_)]) hst hb Za
     (Am 55 rfl<|Am 0 rfl<|a_g [0,5] (Qg_f rfl (fun hG=>Zq rfl rfl u_0))<|a_g [10,75] (Qg_f rfl (fun hG=>Zq rfl rfl u_0))<|a_g [20,10,0] (Qg_f rfl (fun hG=>Zcj Tryz.underlying9 rfl rfl (Opd.gd hG u_0) (Opd.gd hG u_1) (Zbe h15 hG)))<|a_g [30,0] (Qg_f rfl (fun hG=>Zbk rfl rfl (Opd.gd hG u_0) c_i))<|a_p [40,0] rfl (Zbh rfl rfl u_0 (fun hz=>(Opd.gd (bNF hz) u_1)))<|Aa 0 rfl<|a_n) (fun a g hst hb=>?_)
    obtain ⟨b16,h17,H1⟩:=Zc H1
    refine r_b [5,15,25,35,45,55,70,75] (L:=[(1,_),(2,_),(5,_),(6,_),(7,_),(8,_),(9,_),(10,_)]) hst hb Za
     (Am 65 rfl<|Am 0 rfl<|a_g [0,5] (Qg_f rfl (fun hG=>Zq rfl rfl u_0))<|a_g [10,75] (Qg_f rfl (fun hG=>Zq rfl rfl u_0))<|a_g [20,10,0] (Qg_f rfl (fun hG=>Zcj Tryz.underlying9 rfl rfl (Opd.gd hG u_0) (Opd.gd hG u_1) (Zbe h17 hG)))<|a_g [30,0] (Qg_f rfl (fun hG=>Zbk rfl rfl (Opd.gd hG u_0) c_i))<|a_p [40,0] rfl (Zbh rfl rfl u_0 (fun hz=>(Opd.gd (bNF hz) u_1)))<|Aa 0 rfl<|a_n) (fun a g hst hb=>?_)
    refine Zba ?_
    refine Zm ?_
    refine r_b [5,15,25,35,45,55,65,20] (L:=[(1,_),(2,_),(5,_),(6,_),(7,_),(8,_),(9,_),(10,_)]) hst hb Za
     (Am 75 rfl<|a_p [0] rfl (Zb6 rfl rfl u_0 c_i rfl)<|Aa 0 rfl<|a_n) (fun a g hst hb=>?_)
    exact ⟨n,Nat.lt_succ_self _,(x1 || (b8 == (116:Int))),(x2 || (b10 == (110:Int))),(x3 || (b12 == (98:Int))),(x4 || (b14 == (114:Int))),(x5 || (b16 == (108:Int))),(IntKind.i64.wrap (x6 + (1:Int))),g,rfl,(hst.pick [0,1,2,3,4,5,6,7] rfl),hb,H1⟩
   ·replace H1:=Zp hc7 H1
    refine wp_exit ?_
    refine Zbw ?_
    refine Zbw ?_
    refine Zb4 ?_
    exact ⟨x1,x2,x3,x4,x5,g,rfl,(hst.pick [1,2,3,4,5,6] rfl),hb,Option.some.inj H1⟩
theorem Zn9 (a0:Int) {r:ByteArray} (h:Zhu a0=some r):FnOk Tryz.prog 86 [(pInt .i64 a0)] (pStr r):=by
 have H0:=h
 unfold Zhu at H0
 clear h
 refine Zbs (N:=15) Tryz.func86 rfl rfl (Qe rfl) rfl rfl (fun a g0 hst hb=>?_)
 refine r_a [5] (L:=[(0,_)]) hst hb Za
  (a_p [] rfl (Zd rfl rfl c_s)<|a_n) (fun a g hst hb=>?_)
 refine r_a [5,10] (L:=[(0,_)]) hst hb Za
  (a_p [] rfl (Zfs Zhe (xs:=[.const (.string ⟨#[]⟩),.const (.string ⟨#[116]⟩),.const (.string ⟨#[110]⟩),.const (.string ⟨#[110]⟩),.const (.string ⟨#[110,98]⟩),.const (.string ⟨#[114]⟩),.const (.string ⟨#[114]⟩),.const (.string ⟨#[114]⟩),.const (.string ⟨#[108]⟩),.const (.string ⟨#[108]⟩)]) (.cons c_s (.cons c_s (.cons c_s (.cons c_s (.cons c_s (.cons c_s (.cons c_s (.cons c_s (.cons c_s (.cons c_s .nil)))))))))) (by decide) rfl rfl)<|Aa 0 rfl<|a_n) (fun a g hst hb=>?_)
 refine wp_seq ?_
 refine r_a [5,15,50] (L:=[(0,_),(3,_)]) hst hb Za
  (Am 5 rfl<|a_p [0] rfl (Zco rfl rfl u_0 c_i)<|Am 0 rfl<|a_g [0,5] (Qg_f rfl (fun hG=>Zq rfl rfl u_0))<|a_g [10,0] (Qg_f rfl (fun hG=>Zcl rfl rfl (Opd.gd hG u_0) c_i))<|a_p [20,0] rfl (Zbh rfl rfl u_0 (fun hz=>(Opd.gd (bNF hz) u_1)))<|a_n) (fun a g hst hb=>?_)
 refine wp_cond_split (hst.bool 2 rfl) (fun hc1=>?_) (fun hc1=>?_)
 ·replace H0:=Zo hc1 H0
  refine r_a [0] (L:=[]) (hst.pick [] rfl) hb Za
   (a_p [] rfl (Zd rfl rfl c_s)<|a_n) (fun a g hst hb=>?_)
  refine wp_ret ?_
  refine Zl ?_
  obtain rfl:=Option.some.inj H0
  exact Z2 rfl hst hb (Zg (s:=2)) (hst.at 0 rfl)
 ·replace H0:=Zp hc1 H0
  refine wp_skip ?_
  refine Zm ?_
  obtain ⟨e2,h3,H0⟩:=Zc H0
  refine r_a [40] (L:=[(0,_),(3,_)]) (hst.pick [0,1] rfl) hb Za
   (Am 15 rfl<|Am 5 rfl<|a_p [10,0] rfl (Zbz Tryz.underlying83 sz_9 rfl rfl u_0 u_1 h3)<|Al ty_9 0 rfl<|Aa 0 rfl<|a_n) (fun a g hst hb=>?_)
  refine wp_ret ?_
  obtain rfl:=Option.some.inj H0
  exact Z2 rfl hst hb (Zg (s:=2)) (hst.at 0 rfl)
theorem Zky (a0:Nat) {r:Bool} (h:Ze4 a0=some r):FnOk Tryz.prog 87 [(pFlt a0)] (Z5 r):=by
 have H0:=h
 unfold Ze4 at H0
 clear h
 refine Zbs (N:=11) Tryz.func87 rfl rfl (Qe rfl) rfl rfl (fun a g0 hst hb=>?_)
 refine r_a [5] (L:=[(0,_)]) hst hb Za
  (a_p [] rfl (Zd rfl rfl c_b)<|a_n) (fun a g hst hb=>?_)
 obtain ⟨r1,h2,H0⟩:=Zc H0
 refine r_a [80] (L:=[(0,_)]) hst hb Za
  (Am 5 rfl<|a_p [0] rfl (Zf Zv3 (Zjg _ h2) rfl rfl (.cons u_0 .nil))<|a_p [0] rfl (Zcg rfl rfl u_0)<|Am 0 rfl<|a_g [0,5] (Qg_f rfl (fun hG=>Zq rfl rfl u_0))<|a_g [10,0] (Qg_f rfl (fun hG=>Zq4 Zvn rfl rfl (Opd.gd hG u_0)))<|a_g [20,0] (Qg_f rfl (fun hG=>Zbk rfl rfl (Opd.gd hG u_0) c_i))<|a_p [30,0] rfl (Zbh rfl rfl u_0 (fun hz=>(Opd.gd (bNF hz) u_1)))<|Aa 0 rfl<|a_n) (fun a g hst hb=>?_)
 refine wp_ret ?_
 obtain rfl:=Option.some.inj H0
 exact Z2 rfl hst hb (Zg (s:=2)) (hst.at 0 rfl)
theorem Zot (a0:Zu) (a1:Zu) {r:Bool} (h:Zgi a0 a1=some r):FnOk Tryz.prog 122 [(Zy.pd a0),(Zy.pd a1)] (Z5 r):=by
 have H0:=h
 unfold Zgi at H0
 clear h
 refine Zbs (N:=22) Tryz.func122 rfl rfl (Qe rfl) rfl rfl (fun a g0 hst hb=>?_)
 refine r_a [0,10] (L:=[(0,_),(1,_)]) hst hb Za
  (a_p [5] rfl (Zbt rfl rfl u_0)<|a_p [15] rfl (Zbt rfl rfl u_0)<|a_p [] rfl (Zd rfl rfl c_b)<|a_n) (fun a g hst hb=>?_)
 refine wp_seq ?_
 obtain ⟨r1,h2,H0⟩:=Zc H0
 refine r_a [5,15,40] (L:=[(2,_),(3,_)]) hst hb Za
  (Af Zev 15 rfl<|Al Zdt 0 rfl<|Af Zev 5 rfl<|Al Zdt 0 rfl<|a_p [20,0] rfl (Zf Zxn (Zjh _ _ h2) rfl rfl (.cons u_0 (.cons u_1 .nil)))<|a_n) (fun a g hst hb=>?_)
 refine wp_cond_split (hst.bool 2 rfl) (fun hc3=>?_) (fun hc3=>?_)
 ·replace H0:=Zo hc3 H0
  refine r_a [0] (L:=[]) (hst.pick [] rfl) hb Za
   (a_p [] rfl (Zd rfl rfl c_b)<|a_n) (fun a g hst hb=>?_)
  refine wp_ret ?_
  refine Zl ?_
  obtain rfl:=Option.some.inj H0
  exact Z2 rfl hst hb (Zg (s:=4)) (hst.at 0 rfl)
 ·replace H0:=Zp hc3 H0
  refine wp_skip ?_
  refine Zm ?_
  obtain ⟨r4,h5,H0⟩:=Zc H0
  refine r_a [120] (L:=[(2,_),(3,_)]) (hst.pick [0,1] rfl) hb Za
   (Af Zev 5 rfl<|Al Zdt 0 rfl<|Af Zev 15 rfl<|Al Zdt 0 rfl<|a_p [20,0] rfl (Zf Zvy (Zhc _ _ h5) rfl rfl (.cons u_0 (.cons u_1 .nil)))<|Am 0 rfl<|a_g [0,5] (Qg_t rfl (fun hG=>Zi Ze7 rfl rfl u_0))<|a_g [10,0] (Qg_t rfl (fun hG=>Zs ty_9 rfl rfl (Opd.gd hG u_0)))<|a_g [20,15] (Qg_t rfl (fun hG=>Zi Ze7 rfl rfl u_0))<|a_g [30,0] (Qg_t rfl (fun hG=>Zs ty_9 rfl rfl (Opd.gd hG u_0)))<|a_g [40,20,0] (Qg_t rfl (fun hG=>Zos rfl rfl (Opd.gd hG u_0) (Opd.gd hG u_1)))<|a_p [50,0] rfl (Zbg rfl rfl u_0 (fun hz=>(Opd.gd hz u_1)))<|Aa 0 rfl<|a_n) (fun a g hst hb=>?_)
  refine wp_ret ?_
  obtain rfl:=Option.some.inj H0
  exact Z2 rfl hst hb (Zg (s:=4)) (hst.at 0 rfl)
theorem Zpy (a0:Int) (a1:List Zu) (a2:Int) {r:Int} (h:Zg1 a0 a1 a2=some r):FnOk Tryz.prog 88 [(pInt .i64 a0),(Zy.sl.pd a1),(pInt .i64 a2)] (pInt .i64 r):=by
 have H0:=h
 unfold Zg1 at H0
 clear h
 refine Zbs (N:=64) Tryz.func88 rfl rfl (Qe rfl) rfl rfl (fun a g0 hst hb=>?_)
 refine r_a [5,15,25] (L:=[(0,_),(1,_),(2,_)]) hst hb Za
  (a_p [] rfl (Zd rfl rfl c_i)<|a_n) (fun a g hst hb=>?_)
 obtain ⟨e1,h2,H0⟩:=Zc H0
 refine r_a [5,15,25,50] (L:=[(0,_),(1,_),(2,_)]) hst hb Za
  (Am 15 rfl<|Am 25 rfl<|a_p [10,0] rfl (Zbz Tryz.underlying36 Zji rfl rfl u_0 u_1 h2)<|Al Zgr 0 rfl<|a_p (outs:=[(7,(pBox Zy 7 (default:Zu)))]) (S:=[8]) [] rfl (Zbl (zs:=[.float .f64 0,.string ByteArray.empty]) (by kernel_rfl) (fun g=>Zic g) rfl rfl)<|a_p [10,0] rfl (Zb9 Zgr rfl rfl u_1 u_0)<|a_n) (fun a g hst hb=>?_)
 refine wp_seq ?_
 refine r_a [5,15,25,35,30] (L:=[(0,_),(1,_),(2,_),(7,_)]) hst hb Za
  (Af Ze7 35 rfl<|Al ty_9 0 rfl<|a_p [0] rfl (Zdc Tryz.underlying9 rfl rfl u_0)<|a_p [0] rfl (Zcl rfl rfl u_0 c_i)<|a_n) (fun a g hst hb=>?_)
 refine wp_cond_split (hst.bool 4 rfl) (fun hc3=>?_) (fun hc3=>?_)
 ·replace H0:=Zo hc3 H0
  refine r_a [0] (L:=[]) (hst.pick [] rfl) hb Za
   (a_p [] rfl (Zd rfl rfl c_i)<|a_n) (fun a g hst hb=>?_)
  refine wp_ret ?_
  refine Zl ?_
  obtain rfl:=Option.some.inj H0
  exact Z2 rfl hst hb (Zg (s:=6)) (hst.at 0 rfl)
 ·replace H0:=Zp hc3 H0
  refine wp_skip ?_
  refine Zm ?_
  refine wp_seq ?_
  obtain ⟨r4,h5,H0⟩:=Zc H0;obtain ⟨r6,h7,H0⟩:=Zc H0
  refine r_a [5,15,25,35,130] (L:=[(0,_),(1,_),(2,_),(7,_)]) (hst.pick [0,1,2,3] rfl) hb Za
   (Am 5 rfl<|a_p [0] rfl (Zbk rfl rfl u_0 c_i)<|Am 0 rfl<|a_g [0,35] (Qg_t rfl (fun hG=>Zi Zev rfl rfl u_0))<|a_g [10,0] (Qg_t rfl (fun hG=>Zs Zdt rfl rfl (Opd.gd hG u_0)))<|a_g [20,0] (Qg_t rfl (fun hG=>Zf Z17 (Zlb _ (Zbe h5 hG)) rfl rfl (.cons (Opd.gd hG u_0) .nil)))<|a_g [30,0] (Qg_t rfl (fun hG=>Zcg rfl rfl (Opd.gd hG u_0)))<|a_p [40,0] rfl (Zbg rfl rfl u_0 (fun hz=>(Opd.gd hz u_1)))<|Am 0 rfl<|a_g [0,35] (Qg_f rfl (fun hG=>Zi Zev rfl rfl u_0))<|a_g [10,0] (Qg_f rfl (fun hG=>Zs Zdt rfl rfl (Opd.gd hG u_0)))<|a_g [20,0] (Qg_f rfl (fun hG=>Zf Z36 (Zky _ (Zbe h7 hG)) rfl rfl (.cons (Opd.gd hG u_0) .nil)))<|a_g [30,0] (Qg_f rfl (fun hG=>Zcg rfl rfl (Opd.gd hG u_0)))<|a_p [40,0] rfl (Zbh rfl rfl u_0 (fun hz=>(Opd.gd (bNF hz) u_1)))<|a_n) (fun a g hst hb=>?_)
  refine wp_cond_split (hst.bool 4 rfl) (fun hc8=>?_) (fun hc8=>?_)
  ·replace H0:=Zo hc8 H0
   refine r_a [0] (L:=[]) (hst.pick [] rfl) hb Za
    (a_p [] rfl (Zd rfl rfl c_i)<|a_n) (fun a g hst hb=>?_)
   refine wp_ret ?_
   refine Zl ?_
   obtain rfl:=Option.some.inj H0
   exact Z2 rfl hst hb (Zg (s:=6)) (hst.at 0 rfl)
  ·replace H0:=Zp hc8 H0
   refine wp_skip ?_
   refine Zm ?_
   refine wp_seq ?_
   obtain ⟨e9,h10,H0⟩:=Zc H0
   refine r_a [5,15,25,35,170] (L:=[(0,_),(1,_),(2,_),(7,_)]) (hst.pick [0,1,2,3] rfl) hb Za
    (Am 25 rfl<|a_p [0] rfl (Zcl rfl rfl u_0 c_i)<|Am 0 rfl<|a_g [0,5] (Qg_t rfl (fun hG=>Zq rfl rfl u_0))<|a_g [10,0] (Qg_t rfl (fun hG=>Zbk rfl rfl (Opd.gd hG u_0) c_i))<|a_p [20,0] rfl (Zbg rfl rfl u_0 (fun hz=>(Opd.gd hz u_1)))<|Am 0 rfl<|a_g [0,15] (Qg_t rfl (fun hG=>Zq rfl rfl u_0))<|a_g [10,25] (Qg_t rfl (fun hG=>Zq rfl rfl u_0))<|a_g [20,0] (Qg_t rfl (fun hG=>Zjw rfl rfl (Opd.gd hG u_0) c_i rfl))<|a_g [30,20,0] (Qg_t rfl (fun hG=>Zbz Tryz.underlying36 Zji rfl rfl (Opd.gd hG u_0) (Opd.gd hG u_1) (Zbe h10 hG)))<|a_g [40,0] (Qg_t rfl (fun hG=>Zi Ze7 rfl rfl (Opd.gd hG u_0)))<|a_g [50,0] (Qg_t rfl (fun hG=>Zs ty_9 rfl rfl (Opd.gd hG u_0)))<|a_g [60,35] (Qg_t rfl (fun hG=>Zi Ze7 rfl rfl u_0))<|a_g [70,0] (Qg_t rfl (fun hG=>Zs ty_9 rfl rfl (Opd.gd hG u_0)))<|a_g [80,20,0] (Qg_t rfl (fun hG=>Zos rfl rfl (Opd.gd hG u_0) (Opd.gd hG u_1)))<|a_g [90,0] (Qg_t rfl (fun hG=>Zcg rfl rfl (Opd.gd hG u_0)))<|a_p [100,0] rfl (Zbg rfl rfl u_0 (fun hz=>(Opd.gd hz u_1)))<|a_n) (fun a g hst hb=>?_)
   refine wp_cond_split (hst.bool 4 rfl) (fun hc11=>?_) (fun hc11=>?_)
   ·replace H0:=Zo hc11 H0
    refine r_a [0] (L:=[]) (hst.pick [] rfl) hb Za
     (a_p [] rfl (Zd rfl rfl c_i)<|a_n) (fun a g hst hb=>?_)
    refine wp_ret ?_
    refine Zl ?_
    obtain rfl:=Option.some.inj H0
    exact Z2 rfl hst hb (Zg (s:=6)) (hst.at 0 rfl)
   ·replace H0:=Zp hc11 H0
    refine wp_skip ?_
    refine Zm ?_
    refine wp_seq ?_
    obtain ⟨e12,h13,H0⟩:=Zc H0;obtain ⟨r14,h15,H0⟩:=Zc H0
    refine r_a [150] (L:=[(0,_),(1,_),(2,_),(7,_)]) (hst.pick [0,1,2,3] rfl) hb Za
     (Am 25 rfl<|a_p [0] rfl (Zcl rfl rfl u_0 c_i)<|Am 0 rfl<|a_g [0,5] (Qg_t rfl (fun hG=>Zq rfl rfl u_0))<|a_g [10,0] (Qg_t rfl (fun hG=>Zbk rfl rfl (Opd.gd hG u_0) c_i))<|a_p [20,0] rfl (Zbg rfl rfl u_0 (fun hz=>(Opd.gd hz u_1)))<|Am 0 rfl<|a_g [0,15] (Qg_t rfl (fun hG=>Zq rfl rfl u_0))<|a_g [10,25] (Qg_t rfl (fun hG=>Zq rfl rfl u_0))<|a_g [20,0] (Qg_t rfl (fun hG=>Zjw rfl rfl (Opd.gd hG u_0) c_i rfl))<|a_g [30,20,0] (Qg_t rfl (fun hG=>Zbz Tryz.underlying36 Zji rfl rfl (Opd.gd hG u_0) (Opd.gd hG u_1) (Zbe h13 hG)))<|a_g [40,0] (Qg_t rfl (fun hG=>Zs Zgr rfl rfl (Opd.gd hG u_0)))<|a_g [50,35] (Qg_t rfl (fun hG=>Zs Zgr rfl rfl u_0))<|a_g [60,10,0] (Qg_t rfl (fun hG=>Zf Z67 (Zot _ _ (Zbe h15 hG)) rfl rfl (.cons (Opd.gd hG u_0) (.cons (Opd.gd hG u_1) .nil))))<|a_g [70,0] (Qg_t rfl (fun hG=>Zcg rfl rfl (Opd.gd hG u_0)))<|a_p [80,0] rfl (Zbg rfl rfl u_0 (fun hz=>(Opd.gd hz u_1)))<|a_n) (fun a g hst hb=>?_)
    refine wp_cond_split (hst.bool 0 rfl) (fun hc16=>?_) (fun hc16=>?_)
    ·replace H0:=Zo hc16 H0
     refine r_a [0] (L:=[]) (hst.pick [] rfl) hb Za
      (a_p [] rfl (Zd rfl rfl c_i)<|a_n) (fun a g hst hb=>?_)
     refine wp_ret ?_
     refine Zl ?_
     obtain rfl:=Option.some.inj H0
     exact Z2 rfl hst hb (Zg (s:=6)) (hst.at 0 rfl)
    ·replace H0:=Zp hc16 H0
     refine wp_skip ?_
     refine Zm ?_
     refine r_a [0] (L:=[]) (hst.pick [] rfl) hb Za
      (a_p [] rfl (Zd rfl rfl c_i)<|a_n) (fun a g hst hb=>?_)
     refine wp_ret ?_
     obtain rfl:=Option.some.inj H0
     exact Z2 rfl hst hb (Zg (s:=6)) (hst.at 0 rfl)
theorem Zo6 (a0:Zb) {r:Int} (h:Zd7 a0=some r):FnOk Tryz.prog 47 [(Ze.pd a0)] (pInt .i64 r):=by
 have H0:=h
 unfold Zd7 at H0
 clear h
 refine Zbs (N:=96) Tryz.func47 rfl rfl (Qe rfl) rfl rfl (fun a g0 hst hb=>?_)
 refine r_a [0] (L:=[(0,_)]) hst hb Za
  (a_p [5] rfl (Zbt rfl rfl u_0)<|a_p [] rfl (Zd rfl rfl c_i)<|a_n) (fun a g hst hb=>?_)
 refine wp_seq ?_
 refine r_a [5,70] (L:=[(1,_)]) hst hb Za
  (Af Zed 5 rfl<|Al ty_3 0 rfl<|a_p [0] rfl (Zco rfl rfl u_0 c_i)<|Am 0 rfl<|a_g [0,5] (Qg_f rfl (fun hG=>Zi Zed rfl rfl u_0))<|a_g [10,0] (Qg_f rfl (fun hG=>Zs ty_3 rfl rfl (Opd.gd hG u_0)))<|a_g [20,0] (Qg_f rfl (fun hG=>Zcl rfl rfl (Opd.gd hG u_0) c_i))<|a_p [30,0] rfl (Zbh rfl rfl u_0 (fun hz=>(Opd.gd (bNF hz) u_1)))<|a_n) (fun a g hst hb=>?_)
 refine wp_cond_split (hst.bool 1 rfl) (fun hc1=>?_) (fun hc1=>?_)
 ·replace H0:=Zo hc1 H0
  refine r_a [0] (L:=[]) (hst.pick [] rfl) hb Za
   (a_p [] rfl (Zd rfl rfl c_i)<|a_n) (fun a g hst hb=>?_)
  refine wp_ret ?_
  refine Zl ?_
  obtain rfl:=Option.some.inj H0
  exact Z2 rfl hst hb (Zg (s:=2)) (hst.at 0 rfl)
 ·replace H0:=Zp hc1 H0
  refine wp_skip ?_
  refine Zm ?_
  refine wp_seq ?_
  obtain ⟨r2,h3,H0⟩:=Zc H0;obtain ⟨r4,h5,H0⟩:=Zc H0
  refine r_a [5,50] (L:=[(1,_)]) (hst.pick [0] rfl) hb Za
   (Al Zbm 5 rfl<|Af Zed 5 rfl<|Al ty_3 0 rfl<|a_p [0] rfl (Zf Z78 (Zn9 _ h3) rfl rfl (.cons u_0 .nil))<|a_p [30,0] rfl (Zf Z70 (Zpx _ _ h5) rfl rfl (.cons u_0 (.cons u_1 .nil)))<|a_p [0] rfl (Zcg rfl rfl u_0)<|a_n) (fun a g hst hb=>?_)
  refine wp_cond_split (hst.bool 1 rfl) (fun hc6=>?_) (fun hc6=>?_)
  ·replace H0:=Zo hc6 H0
   refine r_a [0] (L:=[]) (hst.pick [] rfl) hb Za
    (a_p [] rfl (Zd rfl rfl c_i)<|a_n) (fun a g hst hb=>?_)
   refine wp_ret ?_
   refine Zl ?_
   obtain rfl:=Option.some.inj H0
   exact Z2 rfl hst hb (Zg (s:=2)) (hst.at 0 rfl)
  ·replace H0:=Zp hc6 H0
   refine wp_skip ?_
   refine Zm ?_
   refine wp_seq ?_
   refine r_a [5,80] (L:=[(1,_)]) (hst.pick [0] rfl) hb Za
    (Af Zed 5 rfl<|Al ty_3 0 rfl<|a_p [0] rfl (Zbk rfl rfl u_0 c_i)<|Am 0 rfl<|a_g [0,5] (Qg_t rfl (fun hG=>Zi Zje rfl rfl u_0))<|a_g [10,0] (Qg_t rfl (fun hG=>Zs ty_9 rfl rfl (Opd.gd hG u_0)))<|a_g [20,0] (Qg_t rfl (fun hG=>Zdc Tryz.underlying9 rfl rfl (Opd.gd hG u_0)))<|a_g [30,0] (Qg_t rfl (fun hG=>Zcl rfl rfl (Opd.gd hG u_0) c_i))<|a_p [40,0] rfl (Zbg rfl rfl u_0 (fun hz=>(Opd.gd hz u_1)))<|a_n) (fun a g hst hb=>?_)
   refine wp_cond_split (hst.bool 1 rfl) (fun hc7=>?_) (fun hc7=>?_)
   ·replace H0:=Zo hc7 H0
    refine r_a [0] (L:=[]) (hst.pick [] rfl) hb Za
     (a_p [] rfl (Zd rfl rfl c_i)<|a_n) (fun a g hst hb=>?_)
    refine wp_ret ?_
    refine Zl ?_
    obtain rfl:=Option.some.inj H0
    exact Z2 rfl hst hb (Zg (s:=2)) (hst.at 0 rfl)
   ·replace H0:=Zp hc7 H0
    refine wp_skip ?_
    refine Zm ?_
    refine r_a [5,0] (L:=[(1,_)]) (hst.pick [0] rfl) hb Za
     (a_p [] rfl (Zd rfl rfl c_i)<|a_n) (fun a g hst hb=>?_)
    refine wp_seq ?_
    refine r_a [5,290] (L:=[(1,_),(3,_)]) hst hb Za
     (Af Zed 5 rfl<|Al ty_3 0 rfl<|a_p [0] rfl (Zbk rfl rfl u_0 c_i)<|Am 0 rfl<|a_g [0,5] (Qg_t rfl (fun hG=>Zi Ziq rfl rfl u_0))<|a_g [10,0] (Qg_t rfl (fun hG=>Zs ty_2 rfl rfl (Opd.gd hG u_0)))<|a_g [20,15] (Qg_t rfl (fun hG=>Zq rfl rfl u_0))<|a_g [30,0] (Qg_t rfl (fun hG=>Z6r rfl rfl (Opd.gd hG u_0) rfl))<|a_g [40,20,0] (Qg_t rfl (fun hG=>Zco rfl rfl (Opd.gd hG u_0) (Opd.gd hG u_1)))<|a_g [50,0] (Qg_t rfl (fun hG=>Zq rfl rfl (Opd.gd hG u_0)))<|a_g [0,5] (Qg_fi rfl (fun hG=>Zi Ziv rfl rfl u_0))<|a_g [10,0] (Qg_fi rfl (fun hG=>Zs ty_2 rfl rfl (Opd.gd hG u_0)))<|a_g [20,15] (Qg_fi rfl (fun hG=>Zq rfl rfl u_0))<|a_g [30,10,0] (Qg_fi rfl (fun hG=>Zcl rfl rfl (Opd.gd hG u_0) (Opd.gd hG u_1)))<|a_g [100,40,0] (Qg_t rfl (fun hG=>Zbh rfl rfl (Opd.gd hG u_0) (fun hz=>(Opd.gd (bA hG (bNF hz)) u_1))))<|a_g [110,0] (Qg_t rfl (fun hG=>Zq rfl rfl (Opd.gd hG u_0)))<|a_g [0,5] (Qg_fi rfl (fun hG=>Zi Zhi rfl rfl u_0))<|a_g [10,0] (Qg_fi rfl (fun hG=>Zs ty_2 rfl rfl (Opd.gd hG u_0)))<|a_g [20,5] (Qg_fi rfl (fun hG=>Zi Ziq rfl rfl u_0))<|a_g [30,0] (Qg_fi rfl (fun hG=>Zs ty_2 rfl rfl (Opd.gd hG u_0)))<|a_g [40,20,0] (Qg_fi rfl (fun hG=>Zco rfl rfl (Opd.gd hG u_0) (Opd.gd hG u_1)))<|a_g [170,50,0] (Qg_t rfl (fun hG=>Zbh rfl rfl (Opd.gd hG u_0) (fun hz=>(Opd.gd (bA hG (bNF hz)) u_1))))<|a_g [180,0] (Qg_t rfl (fun hG=>Zq rfl rfl (Opd.gd hG u_0)))<|a_g [0,5] (Qg_fi rfl (fun hG=>Zi Zhi rfl rfl u_0))<|a_g [10,0] (Qg_fi rfl (fun hG=>Zs ty_2 rfl rfl (Opd.gd hG u_0)))<|a_g [20,5] (Qg_fi rfl (fun hG=>Zi Ziv rfl rfl u_0))<|a_g [30,0] (Qg_fi rfl (fun hG=>Zs ty_2 rfl rfl (Opd.gd hG u_0)))<|a_g [40,20,0] (Qg_fi rfl (fun hG=>Zcl rfl rfl (Opd.gd hG u_0) (Opd.gd hG u_1)))<|a_g [240,50,0] (Qg_t rfl (fun hG=>Zbh rfl rfl (Opd.gd hG u_0) (fun hz=>(Opd.gd (bA hG (bNF hz)) u_1))))<|a_p [250,0] rfl (Zbg rfl rfl u_0 (fun hz=>(Opd.gd hz u_1)))<|a_n) (fun a g hst hb=>?_)
    refine wp_cond_split (hst.bool 1 rfl) (fun hc8=>?_) (fun hc8=>?_)
    ·replace H0:=Zo hc8 H0
     refine r_a [0] (L:=[]) (hst.pick [] rfl) hb Za
      (a_p [] rfl (Zd rfl rfl c_i)<|a_n) (fun a g hst hb=>?_)
     refine wp_ret ?_
     refine Zl ?_
     obtain rfl:=Option.some.inj H0
     exact Z2 rfl hst hb (Zg (s:=2)) (hst.at 0 rfl)
    ·replace H0:=Zp hc8 H0
     refine wp_skip ?_
     refine Zm ?_
     refine wp_seq ?_
     obtain ⟨r9,h10,H0⟩:=Zc H0
     refine r_a [5,30] (L:=[(1,_)]) (hst.pick [0] rfl) hb Za
      (Af Zj4 5 rfl<|Al Zdt 0 rfl<|a_p [0] rfl (Zf Z36 (Zky _ h10) rfl rfl (.cons u_0 .nil))<|a_p [0] rfl (Zcg rfl rfl u_0)<|a_n) (fun a g hst hb=>?_)
     refine wp_cond_split (hst.bool 1 rfl) (fun hc11=>?_) (fun hc11=>?_)
     ·replace H0:=Zo hc11 H0
      refine r_a [0] (L:=[]) (hst.pick [] rfl) hb Za
       (a_p [] rfl (Zd rfl rfl c_i)<|a_n) (fun a g hst hb=>?_)
      refine wp_ret ?_
      refine Zl ?_
      obtain rfl:=Option.some.inj H0
      exact Z2 rfl hst hb (Zg (s:=2)) (hst.at 0 rfl)
     ·replace H0:=Zp hc11 H0
      refine wp_skip ?_
      refine Zm ?_
      refine wp_seq ?_
      refine r_a [5,20] (L:=[(1,_)]) (hst.pick [0] rfl) hb Za
       (Af Zed 5 rfl<|Al ty_3 0 rfl<|a_p [0] rfl (Zco rfl rfl u_0 c_i)<|a_n) (fun a g hst hb=>?_)
      refine wp_cond_split (hst.bool 1 rfl) (fun hc12=>?_) (fun hc12=>?_)
      ·replace H0:=Zo hc12 H0
       refine r_a [0] (L:=[]) (hst.pick [] rfl) hb Za
        (a_p [] rfl (Zd rfl rfl c_i)<|a_n) (fun a g hst hb=>?_)
       refine wp_ret ?_
       refine Zl ?_
       obtain rfl:=Option.some.inj H0
       exact Z2 rfl hst hb (Zg (s:=2)) (hst.at 0 rfl)
      ·replace H0:=Zp hc12 H0
       refine wp_skip ?_
       refine Zm ?_
       refine wp_seq ?_
       refine r_a [5,70] (L:=[(1,_)]) (hst.pick [0] rfl) hb Za
        (Af Zgw 5 rfl<|Al ty_3 0 rfl<|a_p [0] rfl (Zco rfl rfl u_0 c_i)<|Am 0 rfl<|a_g [0,5] (Qg_f rfl (fun hG=>Zi Zgw rfl rfl u_0))<|a_g [10,0] (Qg_f rfl (fun hG=>Zs ty_3 rfl rfl (Opd.gd hG u_0)))<|a_g [20,0] (Qg_f rfl (fun hG=>Zcl rfl rfl (Opd.gd hG u_0) c_i))<|a_p [30,0] rfl (Zbh rfl rfl u_0 (fun hz=>(Opd.gd (bNF hz) u_1)))<|a_n) (fun a g hst hb=>?_)
       refine wp_cond_split (hst.bool 1 rfl) (fun hc13=>?_) (fun hc13=>?_)
       ·replace H0:=Zo hc13 H0
        refine r_a [0] (L:=[]) (hst.pick [] rfl) hb Za
         (a_p [] rfl (Zd rfl rfl c_i)<|a_n) (fun a g hst hb=>?_)
        refine wp_ret ?_
        refine Zl ?_
        obtain rfl:=Option.some.inj H0
        exact Z2 rfl hst hb (Zg (s:=2)) (hst.at 0 rfl)
       ·replace H0:=Zp hc13 H0
        refine wp_skip ?_
        refine Zm ?_
        refine wp_seq ?_
        refine r_a [5,50] (L:=[(1,_)]) (hst.pick [0] rfl) hb Za
         (Af Zd1 5 rfl<|Al Zfz 0 rfl<|a_p [0] rfl (Zcc Tryz.underlying36 rfl rfl u_0)<|Af Zgw 5 rfl<|Al ty_3 0 rfl<|a_p [20,0] rfl (Zcl rfl rfl u_0 u_1)<|a_n) (fun a g hst hb=>?_)
        refine wp_cond_split (hst.bool 1 rfl) (fun hc14=>?_) (fun hc14=>?_)
        ·replace H0:=Zo hc14 H0
         refine r_a [0] (L:=[]) (hst.pick [] rfl) hb Za
          (a_p [] rfl (Zd rfl rfl c_i)<|a_n) (fun a g hst hb=>?_)
         refine wp_ret ?_
         refine Zl ?_
         obtain rfl:=Option.some.inj H0
         exact Z2 rfl hst hb (Zg (s:=2)) (hst.at 0 rfl)
        ·replace H0:=Zp hc14 H0
         refine wp_skip ?_
         refine Zm ?_
         refine wp_seq ?_
         refine r_a [5,0] (L:=[(1,_)]) (hst.pick [0] rfl) hb Za
          (a_p [] rfl (Zd rfl rfl c_i)<|a_n) (fun a g hst hb=>?_)
         obtain ⟨z20,hz1,H0⟩:=Zc H0
         refine Zbp (fun a w=>∃ (g:G),w=g.w ∧ St 96 [] a g ∧ Base g0 g ∧ (.inr ())=z20) ?_ ?_
         ·rintro a w ⟨g,rfl,hst,hb,rfl⟩
          refine Zm ?_
          refine r_a [0] (L:=[]) hst hb Za
           (a_p [] rfl (Zd rfl rfl c_i)<|a_n) (fun a g hst hb=>?_)
          refine wp_ret ?_
          obtain rfl:=Option.some.inj H0
          exact Z2 rfl hst hb (Zg (s:=2)) (hst.at 0 rfl)
         ·refine wp_block ?_
          refine wp_loop_ghost (fun n a w=>∃ (x15:Int) (g:G),w=g.w ∧ St 96 [(1,(Ze.ptr a0)),(4,(pInt .i64 x15))] a g ∧ Base g0 g ∧ Zdf a0 n x15=some z20) (Int.toNat ((a0.List.length:Int) - (0:Int)) + 1) ⟨(0:Int),g,rfl,(hst.pick [0,1] rfl),hb,hz1⟩ (fun n a w hI=>?_)
          obtain ⟨x15,g,rfl,hst,hb,H1⟩:=hI
          cases n with
          | zero=>exact absurd H1 (by simp [Zdf])
          | succ n =>
           rw [Zdf] at H1
           refine wp_seq ?_
           refine r_a [5,15,40] (L:=[(1,_),(4,_)]) hst hb Za
            (Am 15 rfl<|Af Zd1 5 rfl<|Al Zfz 0 rfl<|a_p [0] rfl (Zcc Tryz.underlying36 rfl rfl u_0)<|a_p [30,0] rfl (Zco rfl rfl u_0 u_1)<|a_n) (fun a g hst hb=>?_)
           refine wp_cond_split (hst.bool 2 rfl) (fun hc16=>?_) (fun hc16=>?_)
           ·replace H1:=Zo hc16 H1
            refine wp_skip ?_
            refine Zm ?_
            refine wp_seq ?_
            refine wp_block ?_
            obtain ⟨r17,h18,H1⟩:=Zc H1
            refine r_a [5,15,60] (L:=[(1,_),(4,_)]) (hst.pick [0,1] rfl) hb Za
             (Af Zed 5 rfl<|Al ty_3 0 rfl<|Af Zd1 5 rfl<|Al Zfz 0 rfl<|Am 15 rfl<|a_p [30,10,0] rfl (Zf Z77 (Zpy _ _ _ h18) rfl rfl (.cons u_0 (.cons u_1 (.cons u_2 .nil))))<|Aa 0 rfl<|a_n) (fun a g hst hb=>?_)
            refine r_a [5,15,25,10] (L:=[(1,_),(4,_),(5,_)]) hst hb Za
             (Am 25 rfl<|a_p [0] rfl (Zcw rfl rfl u_0 c_i)<|a_n) (fun a g hst hb=>?_)
            refine wp_cond_split (hst.bool 3 rfl) (fun hc19=>?_) (fun hc19=>?_)
            ·replace H1:=Zo hc19 H1
             refine r_a [10] (L:=[(5,_)]) (hst.pick [2] rfl) hb Za
              (Am 5 rfl<|Aa 0 rfl<|a_n) (fun a g hst hb=>?_)
             refine wp_ret ?_
             refine Zw ?_
             refine Zl ?_
             refine Zl ?_
             refine Zw ?_
             refine Zl ?_
             refine Zl ?_
             obtain rfl:=Option.some.inj H1
             obtain rfl:=Option.some.inj H0
             exact Z2 rfl hst hb (Zg (s:=2)) (hst.at 0 rfl)
            ·replace H1:=Zp hc19 H1
             refine wp_skip ?_
             refine Zba ?_
             refine Zm ?_
             refine r_b [5,20] (L:=[(1,_),(4,_)]) (hst.pick [0,1] rfl) hb Za
              (Am 15 rfl<|a_p [0] rfl (Zb6 rfl rfl u_0 c_i rfl)<|Aa 0 rfl<|a_n) (fun a g hst hb=>?_)
             exact ⟨n,Nat.lt_succ_self _,(IntKind.i64.wrap (x15 + (1:Int))),g,rfl,(hst.pick [0,1] rfl),hb,H1⟩
           ·replace H1:=Zp hc16 H1
            refine wp_exit ?_
            refine Zbw ?_
            refine Zbw ?_
            refine Zb4 ?_
            exact ⟨g,rfl,(hst.pick [] rfl),hb,Option.some.inj H1⟩
theorem Zmk (a0:Zn) (a1:ByteArray) {r:Int} (h:Zey a0 a1=some r):FnOk Tryz.prog 48 [(Zbo.pd a0),(pStr a1)] (pInt .i64 r):=by
 have H0:=h
 unfold Zey at H0
 clear h
 refine Zbs (N:=24) Tryz.func48 rfl rfl (Qe rfl) rfl rfl (fun a g0 hst hb=>?_)
 refine r_a [15,0] (L:=[(0,_),(1,_)]) hst hb Za
  (a_p [5] rfl (Zbt rfl rfl u_0)<|a_p [] rfl (Zd rfl rfl c_i)<|a_n) (fun a g hst hb=>?_)
 refine r_a [5,15,0] (L:=[(1,_),(2,_)]) hst hb Za
  (a_p [] rfl (Zd rfl rfl c_i)<|a_n) (fun a g hst hb=>?_)
 obtain ⟨z6,hz1,H0⟩:=Zc H0
 refine wp_seq ?_
 refine Zbp (fun a w=>∃ (y5:Int) (g:G),w=g.w ∧ St 24 [(5,(pInt .i64 y5))] a g ∧ Base g0 g ∧ y5=z6) ?_ ?_
 ·rintro a w ⟨y5,g,rfl,hst,hb,rfl⟩
  refine Zm ?_
  refine r_a [10] (L:=[(5,_)]) hst hb Za
   (Am 5 rfl<|Aa 0 rfl<|a_n) (fun a g hst hb=>?_)
  refine wp_ret ?_
  obtain rfl:=Option.some.inj H0
  exact Z2 rfl hst hb (Zg (s:=4)) (hst.at 0 rfl)
 ·refine wp_block ?_
  refine wp_loop_ghost (fun n a w=>∃ (x1:Int) (g:G),w=g.w ∧ St 24 [(1,(pStr a1)),(2,(Zbo.ptr a0)),(5,(pInt .i64 x1))] a g ∧ Base g0 g ∧ Zcn a0 a1 n x1=some z6) (Int.toNat ((a0.L.length:Int) - (0:Int)) + 1) ⟨(0:Int),g,rfl,(hst.pick [0,1,2] rfl),hb,hz1⟩ (fun n a w hI=>?_)
  obtain ⟨x1,g,rfl,hst,hb,H1⟩:=hI
  cases n with
  | zero=>exact absurd H1 (by simp [Zcn])
  | succ n =>
   rw [Zcn] at H1
   refine wp_seq ?_
   obtain ⟨e2,h3,H1⟩:=Zc H1
   refine r_a [5,15,25,140] (L:=[(1,_),(2,_),(5,_)]) hst hb Za
    (Am 25 rfl<|Af Zj9 15 rfl<|Al Zmh 0 rfl<|a_p [0] rfl (Zcc Tryz.underlying22 rfl rfl u_0)<|a_p [30,0] rfl (Zco rfl rfl u_0 u_1)<|Am 0 rfl<|a_g [0,15] (Qg_t rfl (fun hG=>Zi Zj9 rfl rfl u_0))<|a_g [10,0] (Qg_t rfl (fun hG=>Zs Zmh rfl rfl (Opd.gd hG u_0)))<|a_g [20,25] (Qg_t rfl (fun hG=>Zq rfl rfl u_0))<|a_g [30,10,0] (Qg_t rfl (fun hG=>Zbz Tryz.underlying22 Zqr rfl rfl (Opd.gd hG u_0) (Opd.gd hG u_1) (Zbe h3 hG)))<|a_g [40,0] (Qg_t rfl (fun hG=>Zi Zmo rfl rfl (Opd.gd hG u_0)))<|a_g [50,0] (Qg_t rfl (fun hG=>Zs ty_9 rfl rfl (Opd.gd hG u_0)))<|a_g [60,5] (Qg_t rfl (fun hG=>Zq rfl rfl u_0))<|a_g [70,10,0] (Qg_t rfl (fun hG=>Zos rfl rfl (Opd.gd hG u_0) (Opd.gd hG u_1)))<|a_p [80,0] rfl (Zbg rfl rfl u_0 (fun hz=>(Opd.gd hz u_1)))<|a_n) (fun a g hst hb=>?_)
   refine wp_cond_split (hst.bool 3 rfl) (fun hc4=>?_) (fun hc4=>?_)
   ·replace H1:=Zo hc4 H1
    refine wp_skip ?_
    refine Zm ?_
    refine wp_block ?_
    refine r_b [5,15,20] (L:=[(1,_),(2,_),(5,_)]) (hst.pick [0,1,2] rfl) hb Za
     (Am 25 rfl<|a_p [0] rfl (Zb6 rfl rfl u_0 c_i rfl)<|Aa 0 rfl<|a_n) (fun a g hst hb=>?_)
    refine Zba ?_
    exact ⟨n,Nat.lt_succ_self _,(IntKind.i64.wrap (x1 + (1:Int))),g,rfl,(hst.pick [0,1,2] rfl),hb,H1⟩
   ·replace H1:=Zp hc4 H1
    refine wp_exit ?_
    refine Zbw ?_
    refine Zbw ?_
    refine Zb4 ?_
    exact ⟨x1,g,rfl,(hst.pick [2] rfl),hb,Option.some.inj H1⟩
theorem Zmt (a0:Zn) (a1:ByteArray) (a2:Zb) {r:Zn × Int} (h:Zfd a0 a1 a2=some r):FnOk Tryz.prog 24 [(Zbo.pd a0),(pStr a1),(Ze.pd a2)] (pTup [(Zbo.pd r.1),(pInt .i64 r.2)]):=by
 have H0:=h
 unfold Zfd at H0
 clear h
 refine Zbs (N:=80) Tryz.func24 rfl rfl (Qe rfl) rfl rfl (fun a g0 hst hb=>?_)
 refine r_a [15,0,10,20] (L:=[(0,_),(1,_),(2,_)]) hst hb Za
  (a_p [5] rfl (Zbt rfl rfl u_0)<|a_p [25] rfl (Zbt rfl rfl u_0)<|a_p (outs:=[(6,(pBox Zbo 6 (default:Zn)))]) (S:=[7]) [] rfl (Zbl (zs:=[.slice none 0 0,.int .i64 0]) (by kernel_rfl) (fun g=>Zk3 g) rfl rfl)<|a_p [] rfl (Zd rfl rfl c_i)<|a_n) (fun a g hst hb=>?_)
 refine wp_seq ?_
 refine r_a [5,15,25,35,70] (L:=[(1,_),(3,_),(5,_),(6,_)]) hst hb Za
  (Am 5 rfl<|a_p [0] rfl (Zdc Tryz.underlying9 rfl rfl u_0)<|a_p [0] rfl (Zco rfl rfl u_0 c_i)<|Am 0 rfl<|a_g [0,5] (Qg_f rfl (fun hG=>Zq rfl rfl u_0))<|a_g [10,0] (Qg_f rfl (fun hG=>Zdc Tryz.underlying9 rfl rfl (Opd.gd hG u_0)))<|a_g [20,0] (Qg_f rfl (fun hG=>Zcl rfl rfl (Opd.gd hG u_0) c_i))<|a_p [30,0] rfl (Zbh rfl rfl u_0 (fun hz=>(Opd.gd (bNF hz) u_1)))<|a_n) (fun a g hst hb=>?_)
 refine wp_cond_split (hst.bool 4 rfl) (fun hc1=>?_) (fun hc1=>?_)
 ·replace H0:=Zo hc1 H0
  refine r_a [10,20] (L:=[(3,_),(6,_)]) (hst.pick [1,3] rfl) hb Za
   (Al Zii 5 rfl<|a_p [0,15] rfl (Z7 Zii rfl rfl u_1 u_0)<|a_p [] rfl (Zd rfl rfl c_i)<|a_n) (fun a g hst hb=>?_)
  refine wp_ret ?_
  refine Zl ?_
  obtain rfl:=Option.some.inj H0
  obtain ⟨u0,hu0,hq0⟩:=Zbn (P:=Tryz.prog) Zii (hst.at 0 rfl)
  exact Zdl rfl hst hb hu0 (Zg (s:=7)) (Zch hq0 (hst.at 1 rfl))
 ·replace H0:=Zp hc1 H0
  refine wp_skip ?_
  refine Zm ?_
  obtain ⟨r2,h3,H0⟩:=Zc H0
  refine r_a [5,15,25,35,20] (L:=[(1,_),(3,_),(5,_),(6,_)]) (hst.pick [0,1,2,3] rfl) hb Za
   (Al Zbm 25 rfl<|a_p [0] rfl (Zf Z8j (Zo6 _ h3) rfl rfl (.cons u_0 .nil))<|Aa 0 rfl<|a_n) (fun a g hst hb=>?_)
  refine wp_seq ?_
  refine r_a [5,15,25,35,45,10] (L:=[(1,_),(3,_),(5,_),(6,_),(8,_)]) hst hb Za
   (Am 45 rfl<|a_p [0] rfl (Zcw rfl rfl u_0 c_i)<|a_n) (fun a g hst hb=>?_)
  refine wp_cond_split (hst.bool 5 rfl) (fun hc4=>?_) (fun hc4=>?_)
  ·replace H0:=Zo hc4 H0
   refine r_a [20,30] (L:=[(3,_),(6,_),(8,_)]) (hst.pick [1,3,4] rfl) hb Za
    (Al Zii 5 rfl<|Am 25 rfl<|a_p [10,15] rfl (Z7 Zii rfl rfl u_1 u_0)<|Aa 10 rfl<|a_n) (fun a g hst hb=>?_)
   refine wp_ret ?_
   refine Zl ?_
   obtain rfl:=Option.some.inj H0
   obtain ⟨u0,hu0,hq0⟩:=Zbn (P:=Tryz.prog) Zii (hst.at 0 rfl)
   exact Zdl rfl hst hb hu0 (Zg (s:=7)) (Zch hq0 (hst.at 1 rfl))
  ·replace H0:=Zp hc4 H0
   refine wp_skip ?_
   refine Zm ?_
   obtain ⟨r5,h6,H0⟩:=Zc H0
   refine r_a [5,15,25,35,30] (L:=[(1,_),(3,_),(5,_),(6,_)]) (hst.pick [0,1,2,3] rfl) hb Za
    (Al Zii 15 rfl<|Am 5 rfl<|a_p [10,0] rfl (Zf Z8l (Zmk _ _ h6) rfl rfl (.cons u_0 (.cons u_1 .nil)))<|Aa 0 rfl<|a_n) (fun a g hst hb=>?_)
   obtain ⟨e7,h8,H0⟩:=Zc H0
   refine r_a [5,15,25,35,45,150] (L:=[(1,_),(3,_),(5,_),(6,_),(9,_)]) hst hb Za
    (Am 45 rfl<|Af Zj9 15 rfl<|Al Zmh 0 rfl<|a_p [0] rfl (Zcc Tryz.underlying22 rfl rfl u_0)<|a_p [30,0] rfl (Zco rfl rfl u_0 u_1)<|Am 0 rfl<|a_g [0,15] (Qg_t rfl (fun hG=>Zi Zj9 rfl rfl u_0))<|a_g [10,0] (Qg_t rfl (fun hG=>Zs Zmh rfl rfl (Opd.gd hG u_0)))<|a_g [20,45] (Qg_t rfl (fun hG=>Zq rfl rfl u_0))<|a_g [30,10,0] (Qg_t rfl (fun hG=>Zbz Tryz.underlying22 Zqr rfl rfl (Opd.gd hG u_0) (Opd.gd hG u_1) (Zbe h8 hG)))<|a_g [40,0] (Qg_t rfl (fun hG=>Zi Zmo rfl rfl (Opd.gd hG u_0)))<|a_g [50,0] (Qg_t rfl (fun hG=>Zs ty_9 rfl rfl (Opd.gd hG u_0)))<|a_g [60,5] (Qg_t rfl (fun hG=>Zq rfl rfl u_0))<|a_g [70,10,0] (Qg_t rfl (fun hG=>Zir rfl rfl (Opd.gd hG u_0) (Opd.gd hG u_1)))<|a_p [80,0] rfl (Zbg rfl rfl u_0 (fun hz=>(Opd.gd hz u_1)))<|Aa 0 rfl<|a_n) (fun a g hst hb=>?_)
   refine wp_seq ?_
   refine r_a [5,15,25,35,45,55,90] (L:=[(1,_),(3,_),(5,_),(6,_),(9,_),(10,_)]) hst hb Za
    (Am 55 rfl<|a_p [0] rfl (Zcg rfl rfl u_0)<|Am 0 rfl<|a_g [0,15] (Qg_t rfl (fun hG=>Zi Zj9 rfl rfl u_0))<|a_g [10,0] (Qg_t rfl (fun hG=>Zs Zmh rfl rfl (Opd.gd hG u_0)))<|a_g [20,0] (Qg_t rfl (fun hG=>Zcc Tryz.underlying22 rfl rfl (Opd.gd hG u_0)))<|a_g [30,15] (Qg_t rfl (fun hG=>Zi Ztw rfl rfl u_0))<|a_g [40,0] (Qg_t rfl (fun hG=>Zs ty_3 rfl rfl (Opd.gd hG u_0)))<|a_g [50,20,0] (Qg_t rfl (fun hG=>Zhd rfl rfl (Opd.gd hG u_0) (Opd.gd hG u_1)))<|a_p [60,0] rfl (Zbg rfl rfl u_0 (fun hz=>(Opd.gd hz u_1)))<|a_n) (fun a g hst hb=>?_)
   refine wp_cond_split (hst.bool 6 rfl) (fun hc9=>?_) (fun hc9=>?_)
   ·replace H0:=Zo hc9 H0
    refine r_a [10,20] (L:=[(3,_),(6,_)]) (hst.pick [1,3] rfl) hb Za
     (Al Zii 5 rfl<|a_p [0,15] rfl (Z7 Zii rfl rfl u_1 u_0)<|a_p [] rfl (Zd rfl rfl c_i)<|a_n) (fun a g hst hb=>?_)
    refine wp_ret ?_
    refine Zl ?_
    obtain rfl:=Option.some.inj H0
    obtain ⟨u0,hu0,hq0⟩:=Zbn (P:=Tryz.prog) Zii (hst.at 0 rfl)
    exact Zdl rfl hst hb hu0 (Zg (s:=7)) (Zch hq0 (hst.at 1 rfl))
   ·replace H0:=Zp hc9 H0
    refine wp_skip ?_
    refine Zm ?_
    obtain ⟨c10,h11,H0⟩:=Zc H0;obtain ⟨h12,H0⟩:=Zcm H0
    refine r_a [5,15,25,35,45,55,60] (L:=[(1,_),(3,_),(5,_),(6,_),(9,_),(10,_)]) (hst.pick [0,1,2,3,4,5] rfl) hb Za
     (a_p [] rfl (Znp 56 Zsz (xs:=[]) .nil (by decide) rfl rfl)<|Af Zj9 15 rfl<|Al Zmh 0 rfl<|Am 45 rfl<|a_p [10,0] rfl (Z5g Tryz.underlying22 Zqr rfl rfl u_0 u_1 h11)<|a_p [40,0] rfl (Zdi Zsz rfl rfl u_0 u_1 h12)<|Aa 0 rfl<|a_n) (fun a g hst hb=>?_)
    obtain ⟨h13,H0⟩:=Zcm H0
    refine r_a [15,35,45,55,60] (L:=[(1,_),(3,_),(5,_),(6,_),(9,_),(10,_),(11,_)]) hst hb Za
     (Am 65 rfl<|Am 5 rfl<|Al Zbm 25 rfl<|a_p [10,0] rfl (Z1b rfl rfl u_0 u_1)<|a_p [0] rfl (Zfs Zsz (xs:=[.tmp 65]) (.cons u_0 .nil) (by decide) rfl rfl)<|a_p [40,0] rfl (Zdi Zsz rfl rfl u_0 u_1 h13)<|Aa 0 rfl<|a_n) (fun a g hst hb=>?_)
    refine wp_seq ?_
    refine r_a [5,15,25,45,0] (L:=[(3,_),(6,_),(9,_),(10,_),(11,_)]) hst hb Za
     (Am 35 rfl<|a_n) (fun a g hst hb=>?_)
    refine Zbp (fun a w=>∃ (j15:Int) (g:G),w=g.w ∧ St 80 [(3,(Zbo.ptr a0)),(6,(pBox Zbo 6 (default:Zn))),(9,(pInt .i64 j15)),(11,(pRow Zbr 73 56 ((([]:List Z3) ++ c10) ++ ([({ Key:=a1,Rec:=a2 }:Z3)]:List Z3))))] a g ∧ Base g0 g ∧ Zds a0 a1 a2 c10 j15=some r) ?_ ?_
    ·rintro a w ⟨j15,g,rfl,hst,hb,H0⟩
     unfold Zds at H0
     refine Zm ?_
     obtain ⟨c16,h17,H0⟩:=Zc H0;obtain ⟨h18,H0⟩:=Zcm H0
     refine r_a [90,100] (L:=[(3,_),(6,_),(9,_),(11,_)]) hst hb Za
      (Am 35 rfl<|Af Zj9 5 rfl<|Al Zmh 0 rfl<|Am 25 rfl<|a_p [10,0] rfl (Zyf Tryz.underlying22 Zqr rfl rfl u_0 u_1 h17)<|a_p [40,0] rfl (Zdi Zsz rfl rfl u_0 u_1 h18)<|Af Ztw 5 rfl<|Al ty_3 0 rfl<|a_p [20,0] rfl (Z1v rfl rfl (Opd.imp u_0 (fun _ _ h=>Zjs h)) u_1)<|a_p [0,15] rfl (Z7 Zii rfl rfl u_1 u_0)<|a_p [] rfl (Zd rfl rfl c_i)<|a_n) (fun a g hst hb=>?_)
     refine wp_ret ?_
     obtain rfl:=Option.some.inj H0
     obtain ⟨u0,hu0,hq0⟩:=Zbn (P:=Tryz.prog) Zii (hst.at 0 rfl)
     exact Zdl rfl hst hb hu0 (Zg (s:=7)) (Zch hq0 (hst.at 1 rfl))
    ·refine wp_cond_split (hst.bool 4 rfl) (fun hc14=>?_) (fun hc14=>?_)
     ·replace H0:=Zo hc14 H0
      refine r_b [5,15,20,35] (L:=[(3,_),(6,_),(9,_),(11,_)]) (hst.pick [0,1,2,3] rfl) hb Za
       (Am 25 rfl<|a_p [0] rfl (Zb6 rfl rfl u_0 c_i rfl)<|Aa 0 rfl<|a_n) (fun a g hst hb=>?_)
      exact ⟨(IntKind.i64.wrap (r5 + (1:Int))),g,rfl,(hst.pick [0,1,2,3] rfl),hb,H0⟩
     ·replace H0:=Zp hc14 H0
      refine wp_skip ?_
      exact ⟨r5,g,rfl,(hst.pick [0,1,2,3] rfl),hb,H0⟩
theorem Zpm (a0:Int) (a1:List Z3) {r:Zj × (Option Zn)} (h:Zd8 a0 a1=some r):FnOk Tryz.prog 6 [(pInt .i64 a0),(Zbr.sl.pd a1)] (pTup [(Z1.pd r.1),(Zbo.opt.pd r.2)]):=by
 have H0:=h
 unfold Zd8 at H0
 clear h
 refine Zbs (N:=63) Tryz.func6 rfl rfl (Qe rfl) rfl rfl (fun a g0 hst hb=>?_)
 refine r_a [5,15,0] (L:=[(0,_),(1,_)]) hst hb Za
  (a_p (outs:=[(4,(pBox Z1 4 (default:Zj)))]) (S:=[5]) [] rfl (Zbl (zs:=[.pointer none,.int .i64 0]) (by kernel_rfl) (fun g=>Zd5 g) rfl rfl)<|a_p (outs:=[(5,(Zbo.opt.pd (none:Option Zn)))]) (S:=[]) [] rfl (Zd rfl rfl (Opd.c (fun g=>Zqc g)))<|a_n) (fun a g hst hb=>?_)
 obtain ⟨r1,h2,H0⟩:=Zc H0
 refine r_a [5,15,25,60,70] (L:=[(0,_),(1,_),(4,_)]) hst hb Za
  (Am 5 rfl<|a_p [0] rfl (Zf en_7 (Zqd _ h2) rfl rfl (.cons u_0 .nil))<|Am 0 rfl<|a_p [0] rfl (Zz rfl rfl u_0 rfl)<|a_p [10] rfl (Zz rfl rfl u_0 rfl)<|a_p (outs:=[(6,(pBox Z1 6 (default:Zj)))]) (S:=[7]) [] rfl (Zbl (zs:=[.pointer none,.int .i64 0]) (by kernel_rfl) (fun g=>Zd5 g) rfl rfl)<|a_p [20,0] rfl (Z7 Zbu rfl rfl u_1 u_0)<|Aa 20 rfl<|a_n) (fun a g hst hb=>?_)
 refine wp_seq ?_
 refine r_a [5,15,25,35,60] (L:=[(0,_),(1,_),(4,_),(6,_),(7,_)]) hst hb Za
  (Am 45 rfl<|a_p [0] rfl (Zcw rfl rfl u_0 c_i)<|Am 0 rfl<|a_g [0,15] (Qg_f rfl (fun hG=>Zq rfl rfl u_0))<|a_g [10,0] (Qg_f rfl (fun hG=>Zcc Tryz.underlying22 rfl rfl (Opd.gd hG u_0)))<|a_g [20,0] (Qg_f rfl (fun hG=>Zcl rfl rfl (Opd.gd hG u_0) c_i))<|a_p [30,0] rfl (Zbh rfl rfl u_0 (fun hz=>(Opd.gd (bNF hz) u_1)))<|a_n) (fun a g hst hb=>?_)
 refine wp_cond_split (hst.bool 4 rfl) (fun hc3=>?_) (fun hc3=>?_)
 ·replace H0:=Zo hc3 H0
  refine r_a [10,20] (L:=[(4,_),(6,_)]) (hst.pick [2,3] rfl) hb Za
   (AM Zbu 15 rfl<|a_p [0,5] rfl (Z7 Zbu rfl rfl u_1 u_0)<|a_p (outs:=[(5,(Zbo.opt.pd (none:Option Zn)))]) (S:=[]) [] rfl (Zd rfl rfl (Opd.c (fun g=>Zqc g)))<|a_n) (fun a g hst hb=>?_)
  refine wp_ret ?_
  refine Zl ?_
  obtain rfl:=Option.some.inj H0
  obtain ⟨u0,hu0,hq0⟩:=Zbn (P:=Tryz.prog) Zbu (hst.at 0 rfl)
  exact Zdl rfl hst hb hu0 (Zg (s:=5)) (Zch hq0 (hst.at 1 rfl))
 ·replace H0:=Zp hc3 H0
  refine wp_skip ?_
  refine Zm ?_
  refine r_a [15,25,35,30] (L:=[(0,_),(1,_),(4,_),(6,_)]) (hst.pick [0,1,2,3] rfl) hb Za
   (Am 5 rfl<|a_p [0] rfl (Z50 rfl rfl u_0)<|a_p (outs:=[(8,(pBox Zbo 8 (default:Zn)))]) (S:=[9]) [] rfl (Zbl (zs:=[.slice none 0 0,.int .i64 0]) (by kernel_rfl) (fun g=>Zk3 g) rfl rfl)<|a_p [10,0] rfl (Z7 Zii rfl rfl u_1 u_0)<|a_n) (fun a g hst hb=>?_)
  refine wp_seq ?_
  refine r_a [15,25,35,0,10,20] (L:=[(1,_),(4,_),(6,_),(8,_)]) hst hb Za
   (Am 5 rfl<|a_p [0] rfl (Zcc Tryz.underlying22 rfl rfl u_0)<|a_p [] rfl (Zq rfl rfl c_i)<|a_n) (fun a g hst hb=>?_)
  obtain ⟨z21,hz1,H0⟩:=Zc H0
  refine Zbp (fun a w=>∃ (y18:Zj) (y19:Zj) (y20:Zn) (g:G),w=g.w ∧ St 63 [(4,(pBox Z1 4 y18)),(6,(pBox Z1 6 y19)),(8,(pBox Zbo 8 y20))] a g ∧ Base g0 g ∧ (.inr (y18,y19,y20))=z21) ?_ ?_
  ·rintro a w ⟨y18,y19,y20,g,rfl,hst,hb,rfl⟩
   refine Zm ?_
   refine r_a [10,20] (L:=[(4,_),(6,_),(8,_)]) hst hb Za
    (AM Zbu 15 rfl<|a_p [0,5] rfl (Z7 Zbu rfl rfl u_1 u_0)<|a_p [25] rfl (Z2p (.inr rfl) rfl u_0)<|a_n) (fun a g hst hb=>?_)
   refine wp_ret ?_
   obtain rfl:=Option.some.inj H0
   obtain ⟨u0,hu0,hq0⟩:=Zbn (P:=Tryz.prog) Zbu (hst.at 0 rfl)
   exact Zdl rfl hst hb hu0 (Zg (s:=5)) (Zch hq0 (hst.at 1 rfl))
  ·refine wp_block ?_
   refine wp_loop_ghost (fun n a w=>∃ (x4:Zj) (x5:Zj) (x6:Zn) (x7:Int) (g:G),w=g.w ∧ St 63 [(4,(pBox Z1 4 x4)),(6,(pBox Z1 6 x5)),(8,(pBox Zbo 8 x6)),(26,(Zbr.sl.pd a1)),(27,(pInt .i64 (a1.length:Int))),(28,(pInt .i64 x7))] a g ∧ Base g0 g ∧ Zcb a1 n x4 x5 x6 x7=some z21) (Int.toNat ((a1.length:Int) - (0:Int)) + 1) ⟨(default:Zj),r1.1,({ L:=([]:List Z3),Room:=a0 }:Zn),(0:Int),g,rfl,(hst.pick [0,1,2,3,4,5] rfl),hb,hz1⟩ (fun n a w hI=>?_)
   obtain ⟨x4,x5,x6,x7,g,rfl,hst,hb,H1⟩:=hI
   cases n with
   | zero=>exact absurd H1 (by simp [Zcb])
   | succ n =>
    rw [Zcb] at H1
    refine r_a [5,15,25,35,45,55,0] (L:=[(4,_),(6,_),(8,_),(26,_),(27,_),(28,_)]) hst hb Za
     (a_p [55,45] rfl (Zco rfl rfl u_0 u_1)<|a_n) (fun a g hst hb=>?_)
    refine wp_seq ?_
    refine wp_cond_split (hst.bool 6 rfl) (fun hc8=>?_) (fun hc8=>?_)
    ·replace H1:=Zo hc8 H1
     refine wp_skip ?_
     refine Zm ?_
     refine wp_seq ?_
     refine wp_block ?_
     obtain ⟨e9,h10,H1⟩:=Zc H1
     refine r_a [5,15,25,30,35,45,55] (L:=[(4,_),(6,_),(8,_),(26,_),(27,_),(28,_)]) (hst.pick [0,1,2,3,4,5] rfl) hb Za
      (a_p [35,55] rfl (Zbz Tryz.underlying22 Zqr rfl rfl u_0 u_1 h10)<|Al Zvm 0 rfl<|a_p (outs:=[(10,(pBox Zbr 10 (default:Z3)))]) (S:=[11]) [] rfl (Zbl (zs:=[.string ByteArray.empty,.int .i64 0,.int .i64 0,.int .i64 0,.int .i64 0,.float .f64 0,.int .i64 0,.string ByteArray.empty,.slice none 0 0]) (by kernel_rfl) (fun g=>Zk9 g) rfl rfl)<|a_p [10,0] rfl (Zb9 Zvm rfl rfl u_1 u_0)<|a_n) (fun a g hst hb=>?_)
     refine wp_seq ?_
     obtain ⟨r11,h12,H1⟩:=Zc H1
     refine r_a [5,15,25,35,45,55,65,90] (L:=[(4,_),(6,_),(8,_),(10,_),(26,_),(27,_),(28,_)]) hst hb Za
      (Af Zmo 35 rfl<|Al ty_9 0 rfl<|a_p [0] rfl (Zdc Tryz.underlying9 rfl rfl u_0)<|a_p [0] rfl (Zcl rfl rfl u_0 c_i)<|Am 0 rfl<|a_g [0,35] (Qg_f rfl (fun hG=>Zi Zqn rfl rfl u_0))<|a_g [10,0] (Qg_f rfl (fun hG=>Zs Zbm rfl rfl (Opd.gd hG u_0)))<|a_g [20,0] (Qg_f rfl (fun hG=>Zf Z4f (Zma _ (Zbe h12 hG)) rfl rfl (.cons (Opd.gd hG u_0) .nil)))<|a_g [30,0] (Qg_f rfl (fun hG=>Zcl rfl rfl (Opd.gd hG u_0) c_i))<|a_p [40,0] rfl (Zbh rfl rfl u_0 (fun hz=>(Opd.gd (bNF hz) u_1)))<|a_n) (fun a g hst hb=>?_)
     refine wp_cond_split (hst.bool 7 rfl) (fun hc13=>?_) (fun hc13=>?_)
     ·replace H1:=Zo hc13 H1
      refine r_a [10,20] (L:=[(4,_),(6,_)]) (hst.pick [0,1] rfl) hb Za
       (AM Zbu 15 rfl<|a_p [0,5] rfl (Z7 Zbu rfl rfl u_1 u_0)<|a_p (outs:=[(5,(Zbo.opt.pd (none:Option Zn)))]) (S:=[]) [] rfl (Zd rfl rfl (Opd.c (fun g=>Zqc g)))<|a_n) (fun a g hst hb=>?_)
      refine wp_ret ?_
      refine Zl ?_
      refine Zw ?_
      refine Zl ?_
      refine Zl ?_
      refine Zw ?_
      refine Zl ?_
      refine Zl ?_
      obtain rfl:=Option.some.inj H1
      obtain rfl:=Option.some.inj H0
      obtain ⟨u0,hu0,hq0⟩:=Zbn (P:=Tryz.prog) Zbu (hst.at 0 rfl)
      exact Zdl rfl hst hb hu0 (Zg (s:=5)) (Zch hq0 (hst.at 1 rfl))
     ·replace H1:=Zp hc13 H1
      refine wp_skip ?_
      refine Zm ?_
      obtain ⟨r14,h15,H1⟩:=Zc H1
      refine r_a [5,90,25,35,45,55,65] (L:=[(4,_),(6,_),(8,_),(10,_),(26,_),(27,_),(28,_)]) (hst.pick [0,1,2,3,4,5,6] rfl) hb Za
       (AM Zbu 15 rfl<|Af Zmo 35 rfl<|Al ty_9 0 rfl<|Af Zqn 35 rfl<|Al Zbm 0 rfl<|a_p [40,20,0] rfl (Zf Z4n (Zl7 _ _ _ h15) rfl rfl (.cons u_0 (.cons u_1 (.cons u_2 .nil))))<|Am 0 rfl<|a_p [0] rfl (Zz rfl rfl u_0 rfl)<|a_p [10] rfl (Zz rfl rfl u_0 rfl)<|a_p [10,15] rfl (Z7 Zbu rfl rfl u_1 u_0)<|a_n) (fun a g hst hb=>?_)
      obtain ⟨r16,h17,H1⟩:=Zc H1
      refine r_b [5,15,90,45,55,65] (L:=[(4,_),(6,_),(8,_),(10,_),(26,_),(27,_),(28,_)]) hst hb Za
       (AM Zii 25 rfl<|Af Zmo 35 rfl<|Al ty_9 0 rfl<|Af Zqn 35 rfl<|Al Zbm 0 rfl<|a_p [40,20,0] rfl (Zf Z73 (Zmt _ _ _ h17) rfl rfl (.cons u_0 (.cons u_1 (.cons u_2 .nil))))<|Am 0 rfl<|a_p [0] rfl (Zz rfl rfl u_0 rfl)<|a_p [10] rfl (Zz rfl rfl u_0 rfl)<|a_p [10,25] rfl (Z7 Zii rfl rfl u_1 u_0)<|a_n) (fun a g hst hb=>?_)
      refine Zba ?_
      refine Zm ?_
      refine r_b [5,15,25,35,45,10] (L:=[(4,_),(6,_),(8,_),(26,_),(27,_),(28,_)]) hst hb Za
       (a_p [55] rfl (Zb6 rfl rfl u_0 c_i rfl)<|Am 0 rfl<|a_n) (fun a g hst hb=>?_)
      exact ⟨n,Nat.lt_succ_self _,x4,r14.1,r16.1,(IntKind.i64.wrap (x7 + (1:Int))),g,rfl,(hst.pick [0,1,2,3,4,5] rfl),hb,H1⟩
    ·replace H1:=Zp hc8 H1
     refine wp_exit ?_
     refine Zbw ?_
     refine Zbw ?_
     refine Zb4 ?_
     exact ⟨x4,x5,x6,g,rfl,(hst.pick [0,1,2] rfl),hb,Option.some.inj H1⟩
theorem Zik (a0:Zj) (a1:Int) {r:ByteArray × Zb × Bool} (h:Zen a0 a1=some r):FnOk Tryz.prog 9 [(Z1.pd a0),(pInt .i64 a1)] (pTup [(pStr r.1),(Ze.pd r.2.1),(Z5 r.2.2)]):=by
 have H0:=h
 unfold Zen at H0
 clear h
 refine Zbs (N:=48) Tryz.func9 rfl rfl (Qe rfl) rfl rfl (fun a g0 hst hb=>?_)
 refine r_a [15,0,20] (L:=[(0,_),(1,_)]) hst hb Za
  (a_p [5] rfl (Zbt rfl rfl u_0)<|a_p [] rfl (Zd rfl rfl c_s)<|a_p (outs:=[(5,(pBox Ze 5 (default:Zb)))]) (S:=[6]) [] rfl (Zbl (zs:=[.int .i64 0,.int .i64 0,.int .i64 0,.int .i64 0,.float .f64 0,.int .i64 0,.string ByteArray.empty,.slice none 0 0]) (by kernel_rfl) (fun g=>Zb3 g) rfl rfl)<|a_p [] rfl (Zd rfl rfl c_b)<|a_n) (fun a g hst hb=>?_)
 refine wp_seq ?_
 refine r_a [5,25,20] (L:=[(1,_),(2,_),(5,_)]) hst hb Za
  (Af Zqz 15 rfl<|Al Zdy 0 rfl<|Aa 0 rfl<|a_n) (fun a g hst hb=>?_)
 obtain ⟨z16,hz1,H0⟩:=Zc H0
 refine Zbp (fun a w=>∃ (y15:Zb) (g:G),w=g.w ∧ St 48 [(5,(pBox Ze 5 y15))] a g ∧ Base g0 g ∧ (.inr y15)=z16) ?_ ?_
 ·rintro a w ⟨y15,g,rfl,hst,hb,rfl⟩
  refine Zm ?_
  refine r_a [10,20,30] (L:=[(5,_)]) hst hb Za
   (a_p [] rfl (Zqg rfl rfl )<|a_p [] rfl (Zd rfl rfl c_s)<|a_p [10,5] rfl (Z7 Zbm rfl rfl u_1 u_0)<|a_p [] rfl (Zd rfl rfl c_b)<|a_n) (fun a g hst hb=>?_)
  refine wp_ret ?_
  obtain rfl:=Option.some.inj H0
  obtain ⟨u1,hu1,hq1⟩:=Zbn (P:=Tryz.prog) Zbm (hst.at 1 rfl)
  exact Zk6 rfl hst hb (Zg (s:=4)) hu1 (Zg (s:=6)) (Zi7 (hst.at 0 rfl) hq1 (hst.at 2 rfl))
 ·refine wp_block ?_
  refine wp_loop_ghost (fun n a w=>∃ (x1:Int) (x2:Zb) (x3:shelf_nodeT) (g:G),w=g.w ∧ St 48 [(1,(pInt .i64 x1)),(5,(pBox Ze 5 x2)),(7,(Z9.pd x3))] a g ∧ Base g0 g ∧ Zdd n x1 x2 x3=some z16) (a0.top.hh + 1) ⟨a1,(default:Zb),a0.top,g,rfl,(hst.pick [0,1,2] rfl),hb,hz1⟩ (fun n a w hI=>?_)
  obtain ⟨x1,x2,x3,g,rfl,hst,hb,H1⟩:=hI
  cases n with
  | zero=>exact absurd H1 (by simp [Zdd])
  | succ n =>
   rw [Zdd] at H1
   refine wp_seq ?_
   refine r_a [5,15,25,10] (L:=[(1,_),(5,_),(7,_)]) hst hb Za
    (Am 25 rfl<|a_p [0] rfl (Z1f Tryz.underlying25 rfl rfl u_0 (Zif _))<|a_n) (fun a g hst hb=>?_)
   refine wp_cond_split (hst.bool 3 rfl) (fun hc4=>?_) (fun hc4=>?_)
   ·replace H1:=Zo hc4 H1
    refine wp_skip ?_
    refine Zm ?_
    refine Zbp (fun a w=>∃ (j13:Int) (j14:shelf_nodeT) (g:G),w=g.w ∧ St 48 [(1,(pInt .i64 j13)),(5,(pBox Ze 5 x2)),(7,(Z9.pd j14))] a g ∧ Base g0 g ∧ Zgm x2 (Zdd n) j13 j14=some z16) ?_ ?_
    ·rintro a w ⟨j13,j14,g,rfl,hst,hb,H1⟩
     unfold Zgm at H1
     exact ⟨n,Nat.lt_succ_self _,j13,x2,j14,g,rfl,(hst.pick [0,1,2] rfl),hb,H1⟩
    ·refine wp_block ?_
     obtain ⟨n5,h6,H1⟩:=Zc H1;obtain ⟨r7,h8,H1⟩:=Zc H1
     refine r_a [5,15,25,50] (L:=[(1,_),(5,_),(7,_)]) (hst.pick [0,1,2] rfl) hb Za
      (Am 25 rfl<|a_p [0] rfl (Z6 rfl rfl (Opd.imp u_0 (fun _ _ h=>Zv h6 h)) (fun _ _ ⟨_,_,_,e,_⟩=>⟨_,e⟩))<|Af Zgc 0 rfl<|Al Zdy 0 rfl<|a_p [0] rfl (Zf Zlq (Zcy _ h8) rfl rfl (.cons u_0 .nil))<|Aa 0 rfl<|a_n) (fun a g hst hb=>?_)
     refine wp_block ?_
     refine r_a [5,15,25,35,30] (L:=[(1,_),(5,_),(7,_),(8,_)]) hst hb Za
      (Am 5 rfl<|Am 35 rfl<|a_p [10,0] rfl (Zco rfl rfl u_0 u_1)<|Aa 0 rfl<|a_n) (fun a g hst hb=>?_)
     refine wp_cond_split (hst.bool 4 rfl) (fun hc9=>?_) (fun hc9=>?_)
     ·replace H1:=Zo hc9 H1
      refine r_b [5,15,40] (L:=[(1,_),(5,_),(7,_)]) (hst.pick [0,1,2] rfl) hb Za
       (Am 25 rfl<|a_p [0] rfl (Z6 rfl rfl (Opd.imp u_0 (fun _ _ h=>Zv h6 h)) (fun _ _ ⟨_,_,_,e,_⟩=>⟨_,e⟩))<|Af Zgc 0 rfl<|Al Zdy 0 rfl<|Aa 0 rfl<|a_n) (fun a g hst hb=>?_)
      refine Zba ?_
      refine Zba ?_
      exact ⟨x1,n5.left,g,rfl,(hst.pick [0,1,2] rfl),hb,H1⟩
     ·replace H1:=Zp hc9 H1
      refine r_a [5,15,25,35,30] (L:=[(1,_),(5,_),(7,_),(8,_)]) (hst.pick [0,1,2,3] rfl) hb Za
       (Am 5 rfl<|Am 35 rfl<|a_p [10,0] rfl (Zcl rfl rfl u_0 u_1)<|Aa 0 rfl<|a_n) (fun a g hst hb=>?_)
      refine wp_cond_split (hst.bool 4 rfl) (fun hc10=>?_) (fun hc10=>?_)
      ·replace H1:=Zo hc10 H1
       refine r_a [40,15,25] (L:=[(1,_),(5,_),(7,_),(8,_)]) (hst.pick [0,1,2,3] rfl) hb Za
        (Am 5 rfl<|Am 35 rfl<|a_p [0] rfl (Zb6 rfl rfl u_0 c_i rfl)<|a_p [20,0] rfl (Zjw rfl rfl u_0 u_1 rfl)<|Aa 0 rfl<|a_n) (fun a g hst hb=>?_)
       refine r_b [5,15,40] (L:=[(1,_),(5,_),(7,_)]) hst hb Za
        (Am 25 rfl<|a_p [0] rfl (Z6 rfl rfl (Opd.imp u_0 (fun _ _ h=>Zv h6 h)) (fun _ _ ⟨_,_,_,e,_⟩=>⟨_,e⟩))<|Af Zgx 0 rfl<|Al Zdy 0 rfl<|Aa 0 rfl<|a_n) (fun a g hst hb=>?_)
       refine Zba ?_
       refine Zba ?_
       exact ⟨(IntKind.i64.wrap (x1 - (IntKind.i64.wrap (r7 + (1:Int))))),n5.right,g,rfl,(hst.pick [0,1,2] rfl),hb,H1⟩
      ·replace H1:=Zp hc10 H1
       obtain ⟨r11,h12,H1⟩:=Zc H1
       refine r_a [90,100,110] (L:=[(5,_),(7,_)]) (hst.pick [1,2] rfl) hb Za
        (Am 15 rfl<|a_p [0] rfl (Z6 rfl rfl (Opd.imp u_0 (fun _ _ h=>Zv h6 h)) (fun _ _ ⟨_,_,_,e,_⟩=>⟨_,e⟩))<|Af Zgz 0 rfl<|Al ty_9 0 rfl<|Am 15 rfl<|a_p [0] rfl (Z6 rfl rfl (Opd.imp u_0 (fun _ _ h=>Zv h6 h)) (fun _ _ ⟨_,_,_,e,_⟩=>⟨_,e⟩))<|Af Zjb 0 rfl<|Al Zbm 0 rfl<|a_p [0] rfl (Zf Zpc (Zg6 _ h12) rfl rfl (.cons u_0 .nil))<|Aa 50 rfl<|a_p [10,5] rfl (Z7 Zbm rfl rfl u_1 u_0)<|a_p [] rfl (Zd rfl rfl c_b)<|a_n) (fun a g hst hb=>?_)
       refine wp_ret ?_
       refine Zw ?_
       refine Zw ?_
       refine Zl ?_
       refine Zl ?_
       refine Zw ?_
       refine Zl ?_
       refine Zl ?_
       obtain rfl:=Option.some.inj H1
       obtain rfl:=Option.some.inj H0
       obtain ⟨u1,hu1,hq1⟩:=Zbn (P:=Tryz.prog) Zbm (hst.at 1 rfl)
       exact Zk6 rfl hst hb (Zg (s:=4)) hu1 (Zg (s:=6)) (Zi7 (hst.at 0 rfl) hq1 (hst.at 2 rfl))
   ·replace H1:=Zp hc4 H1
    refine wp_exit ?_
    refine Zbw ?_
    refine Zbw ?_
    refine Zb4 ?_
    exact ⟨x2,g,rfl,(hst.pick [1] rfl),hb,Option.some.inj H1⟩
theorem Znj (a0:Int) {r:Zcr} (h:Zne a0=some r):FnOk Tryz.prog 89 [(pInt .i64 a0)] (Zdo.pd r):=by
 have H0:=h
 unfold Zne at H0
 clear h
 refine Zbs (N:=13) Tryz.func89 rfl rfl (Qe rfl) rfl rfl (fun a g0 hst hb=>?_)
 refine r_a [5,0] (L:=[(0,_)]) hst hb Za
  (a_p (outs:=[(2,(pBox Zdo 2 (default:Zcr)))]) (S:=[3]) [] rfl (Zbl (zs:=[.string ByteArray.empty,.int .i64 0,.string ByteArray.empty]) (by kernel_rfl) (fun g=>Zrr g) rfl rfl)<|a_n) (fun a g hst hb=>?_)
 refine wp_seq ?_
 refine r_a [5,15,50] (L:=[(0,_),(2,_)]) hst hb Za
  (Am 5 rfl<|a_p [0] rfl (Zhg rfl rfl u_0 c_i)<|Am 0 rfl<|a_g [0,5] (Qg_f rfl (fun hG=>Zq rfl rfl u_0))<|a_g [10,0] (Qg_f rfl (fun hG=>Zhd rfl rfl (Opd.gd hG u_0) c_i))<|a_p [20,0] rfl (Zbh rfl rfl u_0 (fun hz=>(Opd.gd (bNF hz) u_1)))<|a_n) (fun a g hst hb=>?_)
 refine wp_cond_split (hst.bool 2 rfl) (fun hc1=>?_) (fun hc1=>?_)
 ·replace H0:=Zo hc1 H0
  refine r_a [10] (L:=[(2,_)]) (hst.pick [1] rfl) hb Za
   (a_p [] rfl (Z6d rfl rfl )<|a_p [0,5] rfl (Z7 Zja rfl rfl u_1 u_0)<|a_n) (fun a g hst hb=>?_)
  refine wp_ret ?_
  refine Zl ?_
  obtain rfl:=Option.some.inj H0
  obtain ⟨u0,hu0,hq0⟩:=Zbn (P:=Tryz.prog) Zja (hst.at 0 rfl)
  exact Z2 rfl hst hb hu0 hq0
 ·replace H0:=Zp hc1 H0
  refine wp_skip ?_
  refine Zm ?_
  obtain ⟨e2,h3,H0⟩:=Zc H0
  refine r_a [30] (L:=[(0,_),(2,_)]) (hst.pick [0,1] rfl) hb Za
   (Am 5 rfl<|a_p [0] rfl (Zx7 Tryz.underlying189 Z6o rfl rfl (Opd.glob gm_1 gk_1) u_0 h3)<|Al Zja 0 rfl<|a_p [0,15] rfl (Z7 Zja rfl rfl u_1 u_0)<|a_n) (fun a g hst hb=>?_)
  refine wp_ret ?_
  obtain rfl:=Option.some.inj H0
  obtain ⟨u0,hu0,hq0⟩:=Zbn (P:=Tryz.prog) Zja (hst.at 0 rfl)
  exact Z2 rfl hst hb hu0 hq0
theorem Zf2 (f2:Nat) (C2:List Pd) (hC2:Free C2) (e2_:Zk Tryz.prog f2) (φ2:Zu → Zu → Option Bool) (hφ2:∀ (y0:Zu) (y1:Zu) (r:Bool),φ2 y0 y1=some r → FnOk Tryz.prog f2 ([(Zy.pd y0),(Zy.pd y1)] ++ C2) (Z5 r)) (a0:List Zu) (a1:List Zu) {r:Bool} (h:Zb2 a0 a1 φ2=some r):FnOk Tryz.prog 75 [(Zy.sl.pd a0),(Zy.sl.pd a1),(pClo f2 C2 hC2)] (Z5 r):=by
 have H0:=h
 unfold Zb2 at H0
 clear h
 refine Zbs (N:=32) Tryz.func75 rfl rfl (Qe rfl) rfl rfl (fun a g0 hst hb=>?_)
 refine r_a [5,15,25] (L:=[(0,_),(1,_),(2,_)]) hst hb Za
  (a_p [] rfl (Zd rfl rfl c_b)<|a_n) (fun a g hst hb=>?_)
 refine wp_seq ?_
 refine r_a [5,15,25,40] (L:=[(0,_),(1,_),(2,_)]) hst hb Za
  (Am 5 rfl<|a_p [0] rfl (Zcc Tryz.underlying36 rfl rfl u_0)<|Am 15 rfl<|a_p [0] rfl (Zcc Tryz.underlying36 rfl rfl u_0)<|a_p [20,0] rfl (Zcw rfl rfl u_0 u_1)<|a_n) (fun a g hst hb=>?_)
 refine wp_cond_split (hst.bool 3 rfl) (fun hc1=>?_) (fun hc1=>?_)
 ·replace H0:=Zo hc1 H0
  refine r_a [0] (L:=[]) (hst.pick [] rfl) hb Za
   (a_p [] rfl (Zd rfl rfl c_b)<|a_n) (fun a g hst hb=>?_)
  refine wp_ret ?_
  refine Zl ?_
  obtain rfl:=Option.some.inj H0
  exact Z2 rfl hst hb (Zg (s:=6)) (hst.at 0 rfl)
 ·replace H0:=Zp hc1 H0
  refine wp_skip ?_
  refine Zm ?_
  refine wp_seq ?_
  refine r_a [15,25,0,10,20] (L:=[(0,_),(1,_),(2,_)]) (hst.pick [0,1,2] rfl) hb Za
   (Am 5 rfl<|a_p [0] rfl (Zcc Tryz.underlying36 rfl rfl u_0)<|a_p [] rfl (Zq rfl rfl c_i)<|a_n) (fun a g hst hb=>?_)
  obtain ⟨z11,hz1,H0⟩:=Zc H0
  refine Zbp (fun a w=>∃ (g:G),w=g.w ∧ St 32 [] a g ∧ Base g0 g ∧ (.inr ())=z11) ?_ ?_
  ·rintro a w ⟨g,rfl,hst,hb,rfl⟩
   refine Zm ?_
   refine r_a [0] (L:=[]) hst hb Za
    (a_p [] rfl (Zd rfl rfl c_b)<|a_n) (fun a g hst hb=>?_)
   refine wp_ret ?_
   obtain rfl:=Option.some.inj H0
   exact Z2 rfl hst hb (Zg (s:=6)) (hst.at 0 rfl)
  ·refine wp_block ?_
   refine wp_loop_ghost (fun n a w=>∃ (x2:Int) (g:G),w=g.w ∧ St 32 [(1,(Zy.sl.pd a1)),(2,(pClo f2 C2 hC2)),(15,(Zy.sl.pd a0)),(16,(pInt .i64 (a0.length:Int))),(17,(pInt .i64 x2))] a g ∧ Base g0 g ∧ Zbj a0 a1 φ2 n x2=some z11) (Int.toNat ((a0.length:Int) - (0:Int)) + 1) ⟨(0:Int),g,rfl,(hst.pick [0,1,2,3,4] rfl),hb,hz1⟩ (fun n a w hI=>?_)
   obtain ⟨x2,g,rfl,hst,hb,H1⟩:=hI
   cases n with
   | zero=>exact absurd H1 (by simp [Zbj])
   | succ n =>
    rw [Zbj] at H1
    refine r_a [5,15,25,35,45,0] (L:=[(1,_),(2,_),(15,_),(16,_),(17,_)]) hst hb Za
     (a_p [45,35] rfl (Zco rfl rfl u_0 u_1)<|a_n) (fun a g hst hb=>?_)
    refine wp_seq ?_
    refine wp_cond_split (hst.bool 5 rfl) (fun hc3=>?_) (fun hc3=>?_)
    ·replace H1:=Zo hc3 H1
     refine wp_skip ?_
     refine Zm ?_
     refine wp_seq ?_
     refine wp_block ?_
     obtain ⟨e4,h5,H1⟩:=Zc H1
     refine r_a [5,15,40,50,25,35,45] (L:=[(1,_),(2,_),(15,_),(16,_),(17,_)]) (hst.pick [0,1,2,3,4] rfl) hb Za
      (Am 45 rfl<|a_p [25,45] rfl (Zbz Tryz.underlying36 Zji rfl rfl u_0 u_1 h5)<|Al Zgr 0 rfl<|a_p (outs:=[(8,(pBox Zy 8 (default:Zu)))]) (S:=[9]) [] rfl (Zbl (zs:=[.float .f64 0,.string ByteArray.empty]) (by kernel_rfl) (fun g=>Zic g) rfl rfl)<|Aa 30 rfl<|a_p [20,10] rfl (Zb9 Zgr rfl rfl u_1 u_0)<|a_n) (fun a g hst hb=>?_)
     obtain ⟨e6,h7,H1⟩:=Zc H1
     refine r_a [5,15,35,50,45,55,65] (L:=[(1,_),(2,_),(7,_),(8,_),(15,_),(16,_),(17,_)]) hst hb Za
      (Am 5 rfl<|Am 25 rfl<|a_p [10,0] rfl (Zbz Tryz.underlying36 Zji rfl rfl u_0 u_1 h7)<|Al Zgr 0 rfl<|a_p (outs:=[(9,(pBox Zy 9 (default:Zu)))]) (S:=[10]) [] rfl (Zbl (zs:=[.float .f64 0,.string ByteArray.empty]) (by kernel_rfl) (fun g=>Zic g) rfl rfl)<|a_p [10,0] rfl (Zb9 Zgr rfl rfl u_1 u_0)<|a_n) (fun a g hst hb=>?_)
     obtain ⟨r8,h9,H1⟩:=Zc H1
     refine r_a [5,15,45,55,65,40] (L:=[(1,_),(2,_),(8,_),(9,_),(15,_),(16,_),(17,_)]) hst hb Za
      (Am 15 rfl<|Al Zgr 25 rfl<|Al Zgr 35 rfl<|a_p [20,10,0] rfl (Z2f e2_ (hφ2 _ _ _ h9) rfl rfl u_0 (.cons u_1 (.cons u_2 .nil)))<|a_p [0] rfl (Zcg rfl rfl u_0)<|a_n) (fun a g hst hb=>?_)
     refine wp_cond_split (hst.bool 5 rfl) (fun hc10=>?_) (fun hc10=>?_)
     ·replace H1:=Zo hc10 H1
      refine r_a [0] (L:=[]) (hst.pick [] rfl) hb Za
       (a_p [] rfl (Zd rfl rfl c_b)<|a_n) (fun a g hst hb=>?_)
      refine wp_ret ?_
      refine Zw ?_
      refine Zl ?_
      refine Zl ?_
      refine Zw ?_
      refine Zl ?_
      refine Zl ?_
      obtain rfl:=Option.some.inj H1
      obtain rfl:=Option.some.inj H0
      exact Z2 rfl hst hb (Zg (s:=6)) (hst.at 0 rfl)
     ·replace H1:=Zp hc10 H1
      refine wp_skip ?_
      refine Zba ?_
      refine Zm ?_
      refine r_b [5,15,25,35,10] (L:=[(1,_),(2,_),(15,_),(16,_),(17,_)]) (hst.pick [0,1,2,3,4] rfl) hb Za
       (a_p [45] rfl (Zb6 rfl rfl u_0 c_i rfl)<|Am 0 rfl<|a_n) (fun a g hst hb=>?_)
      exact ⟨n,Nat.lt_succ_self _,(IntKind.i64.wrap (x2 + (1:Int))),g,rfl,(hst.pick [0,1,2,3,4] rfl),hb,H1⟩
    ·replace H1:=Zp hc3 H1
     refine wp_exit ?_
     refine Zbw ?_
     refine Zbw ?_
     refine Zb4 ?_
     exact ⟨g,rfl,(hst.pick [] rfl),hb,Option.some.inj H1⟩
theorem Zu3 (a0:Zu) (a1:Zu) {r:Bool} (h:Zhw a0 a1=some r):FnOk Tryz.prog 76 [(Zy.pd a0),(Zy.pd a1)] (Z5 r):=by
 have H0:=h
 unfold Zhw at H0
 clear h
 refine Zbs (N:=17) Tryz.func76 rfl rfl (Qe rfl) rfl rfl (fun a g0 hst hb=>?_)
 refine r_a [0,10] (L:=[(0,_),(1,_)]) hst hb Za
  (a_p [5] rfl (Zbt rfl rfl u_0)<|a_p [15] rfl (Zbt rfl rfl u_0)<|a_p [] rfl (Zd rfl rfl c_b)<|a_n) (fun a g hst hb=>?_)
 obtain ⟨r1,h2,H0⟩:=Zc H0
 refine r_a [120] (L:=[(2,_),(3,_)]) hst hb Za
  (Af Ze7 5 rfl<|Al ty_9 0 rfl<|Af Ze7 15 rfl<|Al ty_9 0 rfl<|a_p [20,0] rfl (Zir rfl rfl u_0 u_1)<|Am 0 rfl<|a_g [0,5] (Qg_t rfl (fun hG=>Zi Zev rfl rfl u_0))<|a_g [10,0] (Qg_t rfl (fun hG=>Zs Zdt rfl rfl (Opd.gd hG u_0)))<|a_g [20,15] (Qg_t rfl (fun hG=>Zi Zev rfl rfl u_0))<|a_g [30,0] (Qg_t rfl (fun hG=>Zs Zdt rfl rfl (Opd.gd hG u_0)))<|a_g [40,20,0] (Qg_t rfl (fun hG=>Zf Zqs (Zjc _ _ (Zbe h2 hG)) rfl rfl (.cons (Opd.gd hG u_0) (.cons (Opd.gd hG u_1) .nil))))<|a_p [50,0] rfl (Zbg rfl rfl u_0 (fun hz=>(Opd.gd hz u_1)))<|Aa 0 rfl<|a_n) (fun a g hst hb=>?_)
 refine wp_ret ?_
 obtain rfl:=Option.some.inj H0
 exact Z2 rfl hst hb (Zg (s:=4)) (hst.at 0 rfl)
theorem Zrg (a0:Zb) (a1:Zb) {r:Bool} (h:Zll a0 a1=some r):FnOk Tryz.prog 40 [(Ze.pd a0),(Ze.pd a1)] (Z5 r):=by
 have H0:=h
 unfold Zll at H0
 clear h
 refine Zbs (N:=59) Tryz.func40 rfl rfl (Qe rfl) rfl rfl (fun a g0 hst hb=>?_)
 refine r_a [0,10] (L:=[(0,_),(1,_)]) hst hb Za
  (a_p [5] rfl (Zbt rfl rfl u_0)<|a_p [15] rfl (Zbt rfl rfl u_0)<|a_p [] rfl (Zd rfl rfl c_b)<|a_n) (fun a g hst hb=>?_)
 obtain ⟨r1,h2,H0⟩:=Zc H0;obtain ⟨r3,h4,H0⟩:=Zc H0
 refine r_a [540] (L:=[(2,_),(3,_)]) hst hb Za
  (Af Zed 5 rfl<|Al ty_3 0 rfl<|Af Zed 15 rfl<|Al ty_3 0 rfl<|a_p [20,0] rfl (Zbk rfl rfl u_0 u_1)<|Am 0 rfl<|a_g [0,5] (Qg_t rfl (fun hG=>Zi Zhi rfl rfl u_0))<|a_g [10,0] (Qg_t rfl (fun hG=>Zs ty_2 rfl rfl (Opd.gd hG u_0)))<|a_g [20,15] (Qg_t rfl (fun hG=>Zi Zhi rfl rfl u_0))<|a_g [30,0] (Qg_t rfl (fun hG=>Zs ty_2 rfl rfl (Opd.gd hG u_0)))<|a_g [40,20,0] (Qg_t rfl (fun hG=>Zbk rfl rfl (Opd.gd hG u_0) (Opd.gd hG u_1)))<|a_p [50,0] rfl (Zbg rfl rfl u_0 (fun hz=>(Opd.gd hz u_1)))<|Am 0 rfl<|a_g [0,5] (Qg_t rfl (fun hG=>Zi Ziq rfl rfl u_0))<|a_g [10,0] (Qg_t rfl (fun hG=>Zs ty_2 rfl rfl (Opd.gd hG u_0)))<|a_g [20,15] (Qg_t rfl (fun hG=>Zi Ziq rfl rfl u_0))<|a_g [30,0] (Qg_t rfl (fun hG=>Zs ty_2 rfl rfl (Opd.gd hG u_0)))<|a_g [40,20,0] (Qg_t rfl (fun hG=>Zbk rfl rfl (Opd.gd hG u_0) (Opd.gd hG u_1)))<|a_p [50,0] rfl (Zbg rfl rfl u_0 (fun hz=>(Opd.gd hz u_1)))<|Am 0 rfl<|a_g [0,5] (Qg_t rfl (fun hG=>Zi Ziv rfl rfl u_0))<|a_g [10,0] (Qg_t rfl (fun hG=>Zs ty_2 rfl rfl (Opd.gd hG u_0)))<|a_g [20,15] (Qg_t rfl (fun hG=>Zi Ziv rfl rfl u_0))<|a_g [30,0] (Qg_t rfl (fun hG=>Zs ty_2 rfl rfl (Opd.gd hG u_0)))<|a_g [40,20,0] (Qg_t rfl (fun hG=>Zbk rfl rfl (Opd.gd hG u_0) (Opd.gd hG u_1)))<|a_p [50,0] rfl (Zbg rfl rfl u_0 (fun hz=>(Opd.gd hz u_1)))<|Am 0 rfl<|a_g [0,5] (Qg_t rfl (fun hG=>Zi Zj4 rfl rfl u_0))<|a_g [10,0] (Qg_t rfl (fun hG=>Zs Zdt rfl rfl (Opd.gd hG u_0)))<|a_g [20,15] (Qg_t rfl (fun hG=>Zi Zj4 rfl rfl u_0))<|a_g [30,0] (Qg_t rfl (fun hG=>Zs Zdt rfl rfl (Opd.gd hG u_0)))<|a_g [40,20,0] (Qg_t rfl (fun hG=>Zf Zqs (Zjc _ _ (Zbe h2 hG)) rfl rfl (.cons (Opd.gd hG u_0) (.cons (Opd.gd hG u_1) .nil))))<|a_p [50,0] rfl (Zbg rfl rfl u_0 (fun hz=>(Opd.gd hz u_1)))<|Am 0 rfl<|a_g [0,5] (Qg_t rfl (fun hG=>Zi Zgw rfl rfl u_0))<|a_g [10,0] (Qg_t rfl (fun hG=>Zs ty_3 rfl rfl (Opd.gd hG u_0)))<|a_g [20,15] (Qg_t rfl (fun hG=>Zi Zgw rfl rfl u_0))<|a_g [30,0] (Qg_t rfl (fun hG=>Zs ty_3 rfl rfl (Opd.gd hG u_0)))<|a_g [40,20,0] (Qg_t rfl (fun hG=>Zbk rfl rfl (Opd.gd hG u_0) (Opd.gd hG u_1)))<|a_p [50,0] rfl (Zbg rfl rfl u_0 (fun hz=>(Opd.gd hz u_1)))<|Am 0 rfl<|a_g [0,5] (Qg_t rfl (fun hG=>Zi Zje rfl rfl u_0))<|a_g [10,0] (Qg_t rfl (fun hG=>Zs ty_9 rfl rfl (Opd.gd hG u_0)))<|a_g [20,15] (Qg_t rfl (fun hG=>Zi Zje rfl rfl u_0))<|a_g [30,0] (Qg_t rfl (fun hG=>Zs ty_9 rfl rfl (Opd.gd hG u_0)))<|a_g [40,20,0] (Qg_t rfl (fun hG=>Zir rfl rfl (Opd.gd hG u_0) (Opd.gd hG u_1)))<|a_p [50,0] rfl (Zbg rfl rfl u_0 (fun hz=>(Opd.gd hz u_1)))<|Am 0 rfl<|a_g [0,5] (Qg_t rfl (fun hG=>Zi Zd1 rfl rfl u_0))<|a_g [10,0] (Qg_t rfl (fun hG=>Zs Zfz rfl rfl (Opd.gd hG u_0)))<|a_g [20,15] (Qg_t rfl (fun hG=>Zi Zd1 rfl rfl u_0))<|a_g [30,0] (Qg_t rfl (fun hG=>Zs Zfz rfl rfl (Opd.gd hG u_0)))<|a_g [40,20,0] (Qg_t rfl (fun hG=>Zf Z7f (Zf2 76 [] rfl Z8o (fun y0 y1=>Zhw y0 y1) (fun y0 y1 r h=>Zu3 y0 y1 h) _ _ (Zbe h4 hG)) rfl rfl (.cons (Opd.gd hG u_0) (.cons (Opd.gd hG u_1) (.cons Opd.fnc .nil)))))<|a_p [50,0] rfl (Zbg rfl rfl u_0 (fun hz=>(Opd.gd hz u_1)))<|Aa 0 rfl<|a_n) (fun a g hst hb=>?_)
 refine wp_ret ?_
 obtain rfl:=Option.some.inj H0
 exact Z2 rfl hst hb (Zg (s:=4)) (hst.at 0 rfl)
theorem Zgk (a0:Zcr) (a1:Int) {r:Bool} (h:Zfu a0 a1=some r):FnOk Tryz.prog 92 [(Zdo.pd a0),(pInt .u8 a1)] (Z5 r):=by
 have H0:=h
 unfold Zfu at H0
 clear h
 refine Zbs (N:=19) Tryz.func92 rfl rfl (Qe rfl) rfl rfl (fun a g0 hst hb=>?_)
 refine r_a [15,0] (L:=[(0,_),(1,_)]) hst hb Za
  (a_p [5] rfl (Zbt rfl rfl u_0)<|a_p [] rfl (Zd rfl rfl c_b)<|a_n) (fun a g hst hb=>?_)
 refine wp_seq ?_
 refine r_a [5,15,20,30] (L:=[(1,_),(2,_)]) hst hb Za
  (Af Zxk 15 rfl<|Al ty_9 0 rfl<|a_p [0] rfl (Zdc Tryz.underlying9 rfl rfl u_0)<|a_p [] rfl (Zq rfl rfl c_i)<|a_n) (fun a g hst hb=>?_)
 obtain ⟨z6,hz1,H0⟩:=Zc H0
 refine Zbp (fun a w=>∃ (g:G),w=g.w ∧ St 19 [] a g ∧ Base g0 g ∧ (.inr ())=z6) ?_ ?_
 ·rintro a w ⟨g,rfl,hst,hb,rfl⟩
  refine Zm ?_
  refine r_a [0] (L:=[]) hst hb Za
   (a_p [] rfl (Zd rfl rfl c_b)<|a_n) (fun a g hst hb=>?_)
  refine wp_ret ?_
  obtain rfl:=Option.some.inj H0
  exact Z2 rfl hst hb (Zg (s:=4)) (hst.at 0 rfl)
 ·refine wp_block ?_
  refine wp_loop_ghost (fun n a w=>∃ (x1:Int) (g:G),w=g.w ∧ St 19 [(1,(pInt .u8 a1)),(2,(Zdo.ptr a0)),(8,(pInt .i64 (a0.has.size:Int))),(9,(pInt .i64 x1))] a g ∧ Base g0 g ∧ Zgn a0 a1 n x1=some z6) (Int.toNat ((a0.has.size:Int) - (0:Int)) + 1) ⟨(0:Int),g,rfl,(hst.pick [0,1,2,3] rfl),hb,hz1⟩ (fun n a w hI=>?_)
  obtain ⟨x1,g,rfl,hst,hb,H1⟩:=hI
  cases n with
  | zero=>exact absurd H1 (by simp [Zgn])
  | succ n =>
   rw [Zgn] at H1
   refine r_a [5,15,25,35,0] (L:=[(1,_),(2,_),(8,_),(9,_)]) hst hb Za
    (a_p [35,25] rfl (Zco rfl rfl u_0 u_1)<|a_n) (fun a g hst hb=>?_)
   refine wp_seq ?_
   refine wp_cond_split (hst.bool 4 rfl) (fun hc2=>?_) (fun hc2=>?_)
   ·replace H1:=Zo hc2 H1
    refine wp_skip ?_
    refine Zm ?_
    refine wp_seq ?_
    refine wp_block ?_
    refine r_a [5,15,10,25,35] (L:=[(1,_),(2,_),(8,_),(9,_)]) (hst.pick [0,1,2,3] rfl) hb Za
     (Am 35 rfl<|Aa 0 rfl<|a_n) (fun a g hst hb=>?_)
    obtain ⟨b3,h4,H1⟩:=Zc H1
    refine r_a [5,15,35,45,50] (L:=[(1,_),(2,_),(5,_),(8,_),(9,_)]) hst hb Za
     (Af Zxk 15 rfl<|Al ty_9 0 rfl<|Am 25 rfl<|a_p [10,0] rfl (Zcj Tryz.underlying9 rfl rfl u_0 u_1 h4)<|Am 5 rfl<|a_p [10,0] rfl (Zbk rfl rfl u_0 u_1)<|a_n) (fun a g hst hb=>?_)
    refine wp_cond_split (hst.bool 4 rfl) (fun hc5=>?_) (fun hc5=>?_)
    ·replace H1:=Zo hc5 H1
     refine r_a [0] (L:=[]) (hst.pick [] rfl) hb Za
      (a_p [] rfl (Zd rfl rfl c_b)<|a_n) (fun a g hst hb=>?_)
     refine wp_ret ?_
     refine Zw ?_
     refine Zl ?_
     refine Zl ?_
     refine Zw ?_
     refine Zl ?_
     refine Zl ?_
     obtain rfl:=Option.some.inj H1
     obtain rfl:=Option.some.inj H0
     exact Z2 rfl hst hb (Zg (s:=4)) (hst.at 0 rfl)
    ·replace H1:=Zp hc5 H1
     refine wp_skip ?_
     refine Zba ?_
     refine Zm ?_
     refine r_b [5,15,25,10] (L:=[(1,_),(2,_),(8,_),(9,_)]) (hst.pick [0,1,2,3] rfl) hb Za
      (a_p [35] rfl (Zb6 rfl rfl u_0 c_i rfl)<|Am 0 rfl<|a_n) (fun a g hst hb=>?_)
     exact ⟨n,Nat.lt_succ_self _,(IntKind.i64.wrap (x1 + (1:Int))),g,rfl,(hst.pick [0,1,2,3] rfl),hb,H1⟩
   ·replace H1:=Zp hc2 H1
    refine wp_exit ?_
    refine Zbw ?_
    refine Zbw ?_
    refine Zb4 ?_
    exact ⟨g,rfl,(hst.pick [] rfl),hb,Option.some.inj H1⟩
theorem Zxt (a0:Zr) (a1:Zcr) {r:Bool} (h:Zov a0 a1=some r):FnOk Tryz.prog 90 [(Zx.pd a0),(Zdo.pd a1)] (Z5 r):=by
 have H0:=h
 unfold Zov at H0
 clear h
 refine Zbs (N:=40) Tryz.func90 rfl rfl (Qe rfl) rfl rfl (fun a g0 hst hb=>?_)
 refine r_a [0,10] (L:=[(0,_),(1,_)]) hst hb Za
  (a_p [5] rfl (Zbt rfl rfl u_0)<|a_p [15] rfl (Zbt rfl rfl u_0)<|a_p [] rfl (Zd rfl rfl c_b)<|a_n) (fun a g hst hb=>?_)
 obtain ⟨r1,h2,H0⟩:=Zc H0;obtain ⟨r3,h4,H0⟩:=Zc H0;obtain ⟨r5,h6,H0⟩:=Zc H0;obtain ⟨r7,h8,H0⟩:=Zc H0;obtain ⟨r9,h10,H0⟩:=Zc H0;obtain ⟨r11,h12,H0⟩:=Zc H0
 refine r_a [350] (L:=[(2,_),(3,_)]) hst hb Za
  (Al Zja 15 rfl<|a_p [0] rfl (Zf Zsn (Zgk _ _ h2) rfl rfl (.cons u_0 (.cons c_i .nil)))<|Am 0 rfl<|a_g [0,5] (Qg_f rfl (fun hG=>Zi Zom rfl rfl u_0))<|a_g [10,0] (Qg_f rfl (fun hG=>Zs ty_2 rfl rfl (Opd.gd hG u_0)))<|a_g [20,0] (Qg_f rfl (fun hG=>Zbk rfl rfl (Opd.gd hG u_0) c_i))<|a_p [30,0] rfl (Zbh rfl rfl u_0 (fun hz=>(Opd.gd (bNF hz) u_1)))<|Am 0 rfl<|a_g [0,15] (Qg_t rfl (fun hG=>Zs Zja rfl rfl u_0))<|a_g [10,0] (Qg_t rfl (fun hG=>Zf Zsn (Zgk _ _ (Zbe h4 hG)) rfl rfl (.cons (Opd.gd hG u_0) (.cons c_i .nil))))<|a_g [20,0] (Qg_t rfl (fun hG=>Zq rfl rfl (Opd.gd hG u_0)))<|a_g [0,5] (Qg_fi rfl (fun hG=>Zi Zqx rfl rfl u_0))<|a_g [10,0] (Qg_fi rfl (fun hG=>Zs Zdt rfl rfl (Opd.gd hG u_0)))<|a_g [20,0] (Qg_fi rfl (fun hG=>Zf Zqs (Zjc _ _ (Zbe h6 hG)) rfl rfl (.cons (Opd.gd hG u_0) (.cons c_f .nil))))<|a_g [60,30,0] (Qg_t rfl (fun hG=>Zbh rfl rfl (Opd.gd hG u_0) (fun hz=>(Opd.gd (bA hG (bNF hz)) u_1))))<|a_p [70,0] rfl (Zbg rfl rfl u_0 (fun hz=>(Opd.gd hz u_1)))<|Am 0 rfl<|a_g [0,15] (Qg_t rfl (fun hG=>Zs Zja rfl rfl u_0))<|a_g [10,0] (Qg_t rfl (fun hG=>Zf Zsn (Zgk _ _ (Zbe h8 hG)) rfl rfl (.cons (Opd.gd hG u_0) (.cons c_i .nil))))<|a_g [20,0] (Qg_t rfl (fun hG=>Zq rfl rfl (Opd.gd hG u_0)))<|a_g [0,5] (Qg_fi rfl (fun hG=>Zi Zn4 rfl rfl u_0))<|a_g [10,0] (Qg_fi rfl (fun hG=>Zs ty_9 rfl rfl (Opd.gd hG u_0)))<|a_g [20,0] (Qg_fi rfl (fun hG=>Zir rfl rfl (Opd.gd hG u_0) c_s))<|a_g [60,30,0] (Qg_t rfl (fun hG=>Zbh rfl rfl (Opd.gd hG u_0) (fun hz=>(Opd.gd (bA hG (bNF hz)) u_1))))<|a_p [70,0] rfl (Zbg rfl rfl u_0 (fun hz=>(Opd.gd hz u_1)))<|Am 0 rfl<|a_g [0,15] (Qg_t rfl (fun hG=>Zs Zja rfl rfl u_0))<|a_g [10,0] (Qg_t rfl (fun hG=>Zf Zsn (Zgk _ _ (Zbe h10 hG)) rfl rfl (.cons (Opd.gd hG u_0) (.cons c_i .nil))))<|a_g [20,0] (Qg_t rfl (fun hG=>Zq rfl rfl (Opd.gd hG u_0)))<|a_g [0,5] (Qg_fi rfl (fun hG=>Zi Zmp rfl rfl u_0))<|a_g [10,0] (Qg_fi rfl (fun hG=>Zs Zbm rfl rfl (Opd.gd hG u_0)))<|a_g [20] (Qg_fi rfl (fun hG=>Zqg rfl rfl ))<|a_g [30,10,0] (Qg_fi rfl (fun hG=>Zf Z4g (Zrg _ _ (Zbe h12 hG)) rfl rfl (.cons (Opd.gd hG u_0) (.cons (Opd.gd hG u_1) .nil))))<|a_g [70,40,0] (Qg_t rfl (fun hG=>Zbh rfl rfl (Opd.gd hG u_0) (fun hz=>(Opd.gd (bA hG (bNF hz)) u_1))))<|a_p [80,0] rfl (Zbg rfl rfl u_0 (fun hz=>(Opd.gd hz u_1)))<|Aa 0 rfl<|a_n) (fun a g hst hb=>?_)
 refine wp_ret ?_
 obtain rfl:=Option.some.inj H0
 exact Z2 rfl hst hb (Zg (s:=4)) (hst.at 0 rfl)
theorem Zyb (a0:Zcr) {r:Int} (h:Zo2 a0=some r):FnOk Tryz.prog 91 [(Zdo.pd a0)] (pInt .i64 r):=by
 have H0:=h
 unfold Zo2 at H0
 clear h
 refine Zbs (N:=6) Tryz.func91 rfl rfl (Qe rfl) rfl rfl (fun a g0 hst hb=>?_)
 refine r_a [0] (L:=[(0,_)]) hst hb Za
  (a_p [5] rfl (Zbt rfl rfl u_0)<|a_p [] rfl (Zd rfl rfl c_i)<|a_n) (fun a g hst hb=>?_)
 refine wp_seq ?_
 refine r_a [20] (L:=[(1,_)]) hst hb Za
  (Af Zxa 5 rfl<|Al ty_3 0 rfl<|a_p [0] rfl (Zbk rfl rfl u_0 c_i)<|a_n) (fun a g hst hb=>?_)
 refine wp_cond_split (hst.bool 0 rfl) (fun hc1=>?_) (fun hc1=>?_)
 ·replace H0:=Zo hc1 H0
  refine r_a [0] (L:=[]) (hst.pick [] rfl) hb Za
   (a_p [] rfl (Zd rfl rfl c_i)<|a_n) (fun a g hst hb=>?_)
  refine wp_ret ?_
  refine Zl ?_
  obtain rfl:=Option.some.inj H0
  exact Z2 rfl hst hb (Zg (s:=2)) (hst.at 0 rfl)
 ·replace H0:=Zp hc1 H0
  refine wp_skip ?_
  refine Zm ?_
  refine r_a [0] (L:=[]) (hst.pick [] rfl) hb Za
   (a_p [] rfl (Zd rfl rfl c_i)<|a_n) (fun a g hst hb=>?_)
  refine wp_ret ?_
  obtain rfl:=Option.some.inj H0
  exact Z2 rfl hst hb (Zg (s:=2)) (hst.at 0 rfl)
theorem Zk7 (a0:Zr) {r:Int} (h:Zf7 a0=some r):FnOk Tryz.prog 50 [(Zx.pd a0)] (pInt .i64 r):=by
 have H0:=h
 unfold Zf7 at H0
 clear h
 refine Zbs (N:=64) Tryz.func50 rfl rfl (Qe rfl) rfl rfl (fun a g0 hst hb=>?_)
 refine r_a [0] (L:=[(0,_)]) hst hb Za
  (a_p [5] rfl (Zbt rfl rfl u_0)<|a_p [] rfl (Zd rfl rfl c_i)<|a_n) (fun a g hst hb=>?_)
 obtain ⟨r1,h2,H0⟩:=Zc H0
 refine r_a [5,40] (L:=[(1,_)]) hst hb Za
  (Af Zdw 5 rfl<|Al ty_3 0 rfl<|a_p [0] rfl (Zf Zvo (Znj _ h2) rfl rfl (.cons u_0 .nil))<|a_p (outs:=[(3,(pBox Zdo 3 (default:Zcr)))]) (S:=[4]) [] rfl (Zbl (zs:=[.string ByteArray.empty,.int .i64 0,.string ByteArray.empty]) (by kernel_rfl) (fun g=>Zrr g) rfl rfl)<|a_p [10,0] rfl (Zb9 Zja rfl rfl u_1 u_0)<|a_n) (fun a g hst hb=>?_)
 refine wp_seq ?_
 refine wp_block ?_
 refine r_a [5,15,30] (L:=[(1,_),(3,_)]) hst hb Za
  (Af Zwe 15 rfl<|Al ty_9 0 rfl<|a_p [0] rfl (Zir rfl rfl u_0 c_s)<|Aa 0 rfl<|a_n) (fun a g hst hb=>?_)
 refine wp_cond_split (hst.bool 2 rfl) (fun hc3=>?_) (fun hc3=>?_)
 ·replace H0:=Zo hc3 H0
  refine r_a [0] (L:=[]) (hst.pick [] rfl) hb Za
   (a_p [] rfl (Zd rfl rfl c_i)<|a_n) (fun a g hst hb=>?_)
  refine wp_ret ?_
  refine Zw ?_
  refine Zl ?_
  obtain rfl:=Option.some.inj H0
  exact Z2 rfl hst hb (Zg (s:=2)) (hst.at 0 rfl)
 ·replace H0:=Zp hc3 H0
  refine r_a [5,15,90] (L:=[(1,_),(3,_)]) (hst.pick [0,1] rfl) hb Za
   (Af Zlh 5 rfl<|Al ty_9 0 rfl<|a_p [0] rfl (Zir rfl rfl u_0 c_s)<|Am 0 rfl<|a_g [0,5] (Qg_f rfl (fun hG=>Zi Zlh rfl rfl u_0))<|a_g [10,0] (Qg_f rfl (fun hG=>Zs ty_9 rfl rfl (Opd.gd hG u_0)))<|a_g [20,0] (Qg_f rfl (fun hG=>Zdc Tryz.underlying9 rfl rfl (Opd.gd hG u_0)))<|a_g [30,0] (Qg_f rfl (fun hG=>Zcl rfl rfl (Opd.gd hG u_0) c_i))<|a_p [40,0] rfl (Zbh rfl rfl u_0 (fun hz=>(Opd.gd (bNF hz) u_1)))<|Aa 0 rfl<|a_n) (fun a g hst hb=>?_)
  refine wp_cond_split (hst.bool 2 rfl) (fun hc4=>?_) (fun hc4=>?_)
  ·replace H0:=Zo hc4 H0
   refine r_a [0] (L:=[]) (hst.pick [] rfl) hb Za
    (a_p [] rfl (Zd rfl rfl c_i)<|a_n) (fun a g hst hb=>?_)
   refine wp_ret ?_
   refine Zw ?_
   refine Zl ?_
   obtain rfl:=Option.some.inj H0
   exact Z2 rfl hst hb (Zg (s:=2)) (hst.at 0 rfl)
  ·replace H0:=Zp hc4 H0
   obtain ⟨r5,h6,H0⟩:=Zc H0
   refine r_a [5,15,40] (L:=[(1,_),(3,_)]) (hst.pick [0,1] rfl) hb Za
    (Al Zem 5 rfl<|Al Zja 15 rfl<|a_p [10,0] rfl (Zf Z8v (Zxt _ _ h6) rfl rfl (.cons u_0 (.cons u_1 .nil)))<|a_p [0] rfl (Zcg rfl rfl u_0)<|Aa 0 rfl<|a_n) (fun a g hst hb=>?_)
   refine wp_cond_split (hst.bool 2 rfl) (fun hc7=>?_) (fun hc7=>?_)
   ·replace H0:=Zo hc7 H0
    refine r_a [0] (L:=[]) (hst.pick [] rfl) hb Za
     (a_p [] rfl (Zd rfl rfl c_i)<|a_n) (fun a g hst hb=>?_)
    refine wp_ret ?_
    refine Zw ?_
    refine Zl ?_
    obtain rfl:=Option.some.inj H0
    exact Z2 rfl hst hb (Zg (s:=2)) (hst.at 0 rfl)
   ·replace H0:=Zp hc7 H0
    obtain ⟨r8,h9,H0⟩:=Zc H0
    refine r_a [5,60] (L:=[(1,_),(3,_)]) (hst.pick [0,1] rfl) hb Za
     (Af Zn4 5 rfl<|Al ty_9 0 rfl<|a_p [0] rfl (Zdc Tryz.underlying9 rfl rfl u_0)<|Al Zja 15 rfl<|a_p [0] rfl (Zf Z8k (Zyb _ h9) rfl rfl (.cons u_0 .nil))<|a_p [20,0] rfl (Zcl rfl rfl u_0 u_1)<|Aa 0 rfl<|a_n) (fun a g hst hb=>?_)
    refine wp_cond_split (hst.bool 1 rfl) (fun hc10=>?_) (fun hc10=>?_)
    ·replace H0:=Zo hc10 H0
     refine r_a [0] (L:=[]) (hst.pick [] rfl) hb Za
      (a_p [] rfl (Zd rfl rfl c_i)<|a_n) (fun a g hst hb=>?_)
     refine wp_ret ?_
     refine Zw ?_
     refine Zl ?_
     obtain rfl:=Option.some.inj H0
     exact Z2 rfl hst hb (Zg (s:=2)) (hst.at 0 rfl)
    ·replace H0:=Zp hc10 H0
     refine r_a [5,180] (L:=[(1,_)]) (hst.pick [0] rfl) hb Za
      (Af Zdw 5 rfl<|Al ty_3 0 rfl<|a_p [0] rfl (Zbk rfl rfl u_0 c_i)<|Am 0 rfl<|a_g [0,5] (Qg_f rfl (fun hG=>Zi Zdw rfl rfl u_0))<|a_g [10,0] (Qg_f rfl (fun hG=>Zs ty_3 rfl rfl (Opd.gd hG u_0)))<|a_g [20,0] (Qg_f rfl (fun hG=>Zbk rfl rfl (Opd.gd hG u_0) c_i))<|a_p [30,0] rfl (Zbh rfl rfl u_0 (fun hz=>(Opd.gd (bNF hz) u_1)))<|Am 0 rfl<|a_g [0,5] (Qg_t rfl (fun hG=>Zi Zom rfl rfl u_0))<|a_g [10,0] (Qg_t rfl (fun hG=>Zs ty_2 rfl rfl (Opd.gd hG u_0)))<|a_g [20,0] (Qg_t rfl (fun hG=>Zco rfl rfl (Opd.gd hG u_0) c_i))<|a_g [30,0] (Qg_t rfl (fun hG=>Zq rfl rfl (Opd.gd hG u_0)))<|a_g [0,5] (Qg_fi rfl (fun hG=>Zi Zom rfl rfl u_0))<|a_g [10,0] (Qg_fi rfl (fun hG=>Zs ty_2 rfl rfl (Opd.gd hG u_0)))<|a_g [20,0] (Qg_fi rfl (fun hG=>Zcl rfl rfl (Opd.gd hG u_0) c_i))<|a_g [70,30,0] (Qg_t rfl (fun hG=>Zbh rfl rfl (Opd.gd hG u_0) (fun hz=>(Opd.gd (bA hG (bNF hz)) u_1))))<|a_p [80,0] rfl (Zbg rfl rfl u_0 (fun hz=>(Opd.gd hz u_1)))<|Aa 0 rfl<|a_n) (fun a g hst hb=>?_)
     refine wp_cond_split (hst.bool 1 rfl) (fun hc11=>?_) (fun hc11=>?_)
     ·replace H0:=Zo hc11 H0
      refine r_a [0] (L:=[]) (hst.pick [] rfl) hb Za
       (a_p [] rfl (Zd rfl rfl c_i)<|a_n) (fun a g hst hb=>?_)
      refine wp_ret ?_
      refine Zw ?_
      refine Zl ?_
      obtain rfl:=Option.some.inj H0
      exact Z2 rfl hst hb (Zg (s:=2)) (hst.at 0 rfl)
     ·replace H0:=Zp hc11 H0
      obtain ⟨r12,h13,H0⟩:=Zc H0
      refine r_a [5,40] (L:=[(1,_)]) (hst.pick [0] rfl) hb Za
       (Af Zqx 5 rfl<|Al Zdt 0 rfl<|a_p [0] rfl (Zf Zzr (Zmc _ h13) rfl rfl (.cons u_0 .nil))<|a_p [0] rfl (Zcg rfl rfl u_0)<|Aa 0 rfl<|a_n) (fun a g hst hb=>?_)
      refine wp_cond_split (hst.bool 1 rfl) (fun hc14=>?_) (fun hc14=>?_)
      ·replace H0:=Zo hc14 H0
       refine r_a [0] (L:=[]) (hst.pick [] rfl) hb Za
        (a_p [] rfl (Zd rfl rfl c_i)<|a_n) (fun a g hst hb=>?_)
       refine wp_ret ?_
       refine Zw ?_
       refine Zl ?_
       obtain rfl:=Option.some.inj H0
       exact Z2 rfl hst hb (Zg (s:=2)) (hst.at 0 rfl)
      ·replace H0:=Zp hc14 H0
       refine r_a [5,30] (L:=[(1,_)]) (hst.pick [0] rfl) hb Za
        (Af Zdw 5 rfl<|Al ty_3 0 rfl<|a_p [0] rfl (Zbk rfl rfl u_0 c_i)<|Aa 0 rfl<|a_n) (fun a g hst hb=>?_)
       refine wp_cond_split (hst.bool 1 rfl) (fun hc15=>?_) (fun hc15=>?_)
       ·replace H0:=Zo hc15 H0
        obtain ⟨r16,h17,H0⟩:=Zc H0
        refine r_a [30] (L:=[(1,_)]) (hst.pick [0] rfl) hb Za
         (Af Zmp 5 rfl<|Al Zbm 0 rfl<|a_p [0] rfl (Zf Zv0 (Zk8 _ h17) rfl rfl (.cons u_0 .nil))<|Aa 0 rfl<|a_n) (fun a g hst hb=>?_)
        refine wp_ret ?_
        refine Zw ?_
        refine Zl ?_
        obtain rfl:=Option.some.inj H0
        exact Z2 rfl hst hb (Zg (s:=2)) (hst.at 0 rfl)
       ·replace H0:=Zp hc15 H0
        refine wp_skip ?_
        refine Zba ?_
        refine Zm ?_
        refine r_a [0] (L:=[]) (hst.pick [] rfl) hb Za
         (a_p [] rfl (Zd rfl rfl c_i)<|a_n) (fun a g hst hb=>?_)
        refine wp_ret ?_
        obtain rfl:=Option.some.inj H0
        exact Z2 rfl hst hb (Zg (s:=2)) (hst.at 0 rfl)
theorem Zmb (a0:Zbq) {r:Int × Int} (h:Zho a0=some r):FnOk Tryz.prog 27 [(Zdr.pd a0)] (pTup [(pInt .i64 r.1),(pInt .i64 r.2)]):=by
 have H0:=h
 unfold Zho at H0
 clear h
 refine Zbs (N:=33) Tryz.func27 rfl rfl (Qe rfl) rfl rfl (fun a g0 hst hb=>?_)
 refine r_a [0] (L:=[(0,_)]) hst hb Za
  (a_p [5] rfl (Zbt rfl rfl u_0)<|a_p [] rfl (Zd rfl rfl c_i)<|a_p [] rfl (Zd rfl rfl c_i)<|a_n) (fun a g hst hb=>?_)
 refine wp_seq ?_
 refine r_a [5,90] (L:=[(1,_)]) hst hb Za
  (Af Zku 5 rfl<|Al Zns 0 rfl<|a_p [0] rfl (Zcc Tryz.underlying44 rfl rfl u_0)<|a_p [0] rfl (Zbk rfl rfl u_0 c_i)<|Am 0 rfl<|a_g [0,5] (Qg_f rfl (fun hG=>Zi Zku rfl rfl u_0))<|a_g [10,0] (Qg_f rfl (fun hG=>Zs Zns rfl rfl (Opd.gd hG u_0)))<|a_g [20,0] (Qg_f rfl (fun hG=>Zcc Tryz.underlying44 rfl rfl (Opd.gd hG u_0)))<|a_g [30,0] (Qg_f rfl (fun hG=>Zcl rfl rfl (Opd.gd hG u_0) c_i))<|a_p [40,0] rfl (Zbh rfl rfl u_0 (fun hz=>(Opd.gd (bNF hz) u_1)))<|a_n) (fun a g hst hb=>?_)
 refine wp_cond_split (hst.bool 1 rfl) (fun hc1=>?_) (fun hc1=>?_)
 ·replace H0:=Zo hc1 H0
  refine r_a [0,10] (L:=[]) (hst.pick [] rfl) hb Za
   (a_p [] rfl (Zd rfl rfl c_i)<|a_p [] rfl (Zd rfl rfl c_i)<|a_n) (fun a g hst hb=>?_)
  refine wp_ret ?_
  refine Zl ?_
  obtain rfl:=Option.some.inj H0
  exact Zdl rfl hst hb (Zg (s:=2)) (Zg (s:=3)) (Zch (hst.at 0 rfl) (hst.at 1 rfl))
 ·replace H0:=Zp hc1 H0
  refine wp_skip ?_
  refine Zm ?_
  refine wp_seq ?_
  refine r_a [10,20,30] (L:=[(1,_)]) (hst.pick [0] rfl) hb Za
   (Af Zku 5 rfl<|Al Zns 0 rfl<|a_p [0] rfl (Zcc Tryz.underlying44 rfl rfl u_0)<|a_p [] rfl (Zq rfl rfl c_i)<|a_n) (fun a g hst hb=>?_)
  obtain ⟨z9,hz1,H0⟩:=Zc H0
  refine Zbp (fun a w=>∃ (g:G),w=g.w ∧ St 33 [] a g ∧ Base g0 g ∧ (.inr ())=z9) ?_ ?_
  ·rintro a w ⟨g,rfl,hst,hb,rfl⟩
   refine Zm ?_
   refine r_a [0,10] (L:=[]) hst hb Za
    (a_p [] rfl (Zd rfl rfl c_i)<|a_p [] rfl (Zd rfl rfl c_i)<|a_n) (fun a g hst hb=>?_)
   refine wp_ret ?_
   obtain rfl:=Option.some.inj H0
   exact Zdl rfl hst hb (Zg (s:=2)) (Zg (s:=3)) (Zch (hst.at 0 rfl) (hst.at 1 rfl))
  ·refine wp_block ?_
   refine wp_loop_ghost (fun n a w=>∃ (x2:Int) (g:G),w=g.w ∧ St 33 [(18,(Zx.sl.pd a0.Acts)),(19,(pInt .i64 (a0.Acts.length:Int))),(20,(pInt .i64 x2))] a g ∧ Base g0 g ∧ Zge a0 n x2=some z9) (Int.toNat ((a0.Acts.length:Int) - (0:Int)) + 1) ⟨(0:Int),g,rfl,(hst.pick [0,1,2] rfl),hb,hz1⟩ (fun n a w hI=>?_)
   obtain ⟨x2,g,rfl,hst,hb,H1⟩:=hI
   cases n with
   | zero=>exact absurd H1 (by simp [Zge])
   | succ n =>
    rw [Zge] at H1
    refine r_a [5,15,25,0] (L:=[(18,_),(19,_),(20,_)]) hst hb Za
     (a_p [25,15] rfl (Zco rfl rfl u_0 u_1)<|a_n) (fun a g hst hb=>?_)
    refine wp_seq ?_
    refine wp_cond_split (hst.bool 3 rfl) (fun hc3=>?_) (fun hc3=>?_)
    ·replace H1:=Zo hc3 H1
     refine wp_skip ?_
     refine Zm ?_
     refine wp_seq ?_
     refine wp_block ?_
     obtain ⟨e4,h5,H1⟩:=Zc H1
     refine r_a [40,50,5,15,25] (L:=[(18,_),(19,_),(20,_)]) (hst.pick [0,1,2] rfl) hb Za
      (Am 25 rfl<|a_p [5,25] rfl (Zbz Tryz.underlying44 Zvr rfl rfl u_0 u_1 h5)<|Al Zem 0 rfl<|a_p (outs:=[(5,(pBox Zx 5 (default:Zr)))]) (S:=[6]) [] rfl (Zbl (zs:=[.int .i64 0,.string ByteArray.empty,.int .i64 0,.float .f64 0,.string ByteArray.empty,.int .i64 0,.int .i64 0,.int .i64 0,.int .i64 0,.float .f64 0,.int .i64 0,.string ByteArray.empty,.slice none 0 0,.bool false]) (by kernel_rfl) (fun g=>Zi1 g) rfl rfl)<|Aa 30 rfl<|a_p [20,10] rfl (Zb9 Zem rfl rfl u_1 u_0)<|a_n) (fun a g hst hb=>?_)
     obtain ⟨r6,h7,H1⟩:=Zc H1
     refine r_a [5,20,25,35,45] (L:=[(4,_),(5,_),(18,_),(19,_),(20,_)]) hst hb Za
      (Al Zem 15 rfl<|a_p [0] rfl (Zf Zvu (Zk7 _ h7) rfl rfl (.cons u_0 .nil))<|Aa 0 rfl<|a_n) (fun a g hst hb=>?_)
     refine r_a [5,15,25,35,45,10] (L:=[(4,_),(6,_),(18,_),(19,_),(20,_)]) hst hb Za
      (Am 15 rfl<|a_p [0] rfl (Zcw rfl rfl u_0 c_i)<|a_n) (fun a g hst hb=>?_)
     refine wp_cond_split (hst.bool 5 rfl) (fun hc8=>?_) (fun hc8=>?_)
     ·replace H1:=Zo hc8 H1
      refine r_a [30,40] (L:=[(4,_),(6,_)]) (hst.pick [0,1] rfl) hb Za
       (Am 15 rfl<|Am 5 rfl<|a_p [0] rfl (Zb6 rfl rfl u_0 c_i rfl)<|Aa 20 rfl<|Aa 10 rfl<|a_n) (fun a g hst hb=>?_)
      refine wp_ret ?_
      refine Zw ?_
      refine Zl ?_
      refine Zl ?_
      refine Zw ?_
      refine Zl ?_
      refine Zl ?_
      obtain rfl:=Option.some.inj H1
      obtain rfl:=Option.some.inj H0
      exact Zdl rfl hst hb (Zg (s:=2)) (Zg (s:=3)) (Zch (hst.at 0 rfl) (hst.at 1 rfl))
     ·replace H1:=Zp hc8 H1
      refine wp_skip ?_
      refine Zba ?_
      refine Zm ?_
      refine r_b [5,15,10] (L:=[(18,_),(19,_),(20,_)]) (hst.pick [2,3,4] rfl) hb Za
       (a_p [25] rfl (Zb6 rfl rfl u_0 c_i rfl)<|Am 0 rfl<|a_n) (fun a g hst hb=>?_)
      exact ⟨n,Nat.lt_succ_self _,(IntKind.i64.wrap (x2 + (1:Int))),g,rfl,(hst.pick [0,1,2] rfl),hb,H1⟩
    ·replace H1:=Zp hc3 H1
     refine wp_exit ?_
     refine Zbw ?_
     refine Zbw ?_
     refine Zb4 ?_
     exact ⟨g,rfl,(hst.pick [] rfl),hb,Option.some.inj H1⟩
theorem Znx (a0:List ByteArray) (a1:ByteArray) {r:ByteArray} (h:Zg2 a0 a1=some r):FnOk Tryz.prog 29 [(Kd.str.sl.pd a0),(pStr a1)] (pStr r):=by
 unfold Zg2 at h
 split at h
 ·rename_i hc
  obtain rfl:=Option.some.inj h
  refine Zh9 fun g args ha=>?_
  obtain ⟨v1,v2,rfl,q1,q2⟩:=Zlm ha
  obtain rfl:=Zcz.1 q2
  obtain ⟨B,c,rfl,h1,h2,hr⟩:=Kd.sl_V.1 q1
  refine ⟨_,fun g'=>Zcz.2 rfl,?_⟩
  rcases hr with rfl | ⟨b,o,rfl,hr⟩
  ·refine (Any.strings_Join_none Tryz.lays156 Tryz.Builder_Extra_156 B c a1 g.w).mono ?_
   rintro e w' ⟨rfl,rfl⟩
   exact ⟨rfl,Below.refl _ _⟩
  ·have cell:∀ (j:Nat) x,a0[j]?=some x → Cell g b (o + j) (.string x):=fun j x hx=>by
    obtain ⟨cs,hk,hcs⟩:=hr j x hx
    have hk:cs=[.string x]:=hk
    subst hk
    have:=hcs 0 _ rfl
    rwa [show o + j * Kd.str.sz + 0=o + j by show o + j * 1 + 0=_;omega] at this
   cases a0 with
   | nil =>
    refine (Any.strings_Join_none Tryz.lays156 Tryz.Builder_Extra_156 _ c a1 g.w).mono ?_
    rintro e w' ⟨rfl,rfl⟩
    exact ⟨rfl,Below.refl _ _⟩
   | cons x0 l0=>exact Any.strings_Join Tryz.lays156 Tryz.Builder_Extra_156 b o c (x0 :: l0) a1 g.w (fun j x hx=>(cell j x hx).2) (g.hpr _ _ (cell 0 x0 rfl).1) (by have:=hc.1;omega) h1 hc.2
 ·cases h
theorem Zrh (a0:Int) {r:ByteArray} (h:Zm9 a0=some r):FnOk Tryz.prog 32 [(pInt .i64 a0)] (pStr r):=by
 unfold Zm9 at h
 split at h
 ·rename_i hc
  refine Zh9 fun g args ha=>?_
  obtain ⟨v1,rfl,q1⟩:=Zxh ha
  obtain rfl:=Zc9.1 q1
  exact ⟨_,fun g'=>Zcz.2 rfl,Z1p a0 hc.1 hc.2 h g.w⟩
 ·cases h
theorem Zoe (a0:Int) (a1:Int) {r:ByteArray} (h:Zh7 a0 a1=some r):FnOk Tryz.prog 59 [(pInt .u64 a0),(pInt .i64 a1)] (pStr r):=by
 unfold Zh7 at h
 split at h
 ·rename_i hc
  obtain ⟨rfl,h1,h2⟩:=hc
  obtain rfl:=Option.some.inj h
  refine Zh9 fun g args ha=>?_
  obtain ⟨v1,v2,rfl,q1,q2⟩:=Zlm ha
  obtain rfl:=Zc9.1 q1
  obtain rfl:=Zc9.1 q2
  have:=Z2h a0.toNat (by omega) g.w (g.gl.1 (5,_) gm_5 15 (.int .u8 4) (by kernel_rfl)).2 (g.hpr _ _ (g.gl.1 (5,_) gm_5 15 (.int .u8 4) (by kernel_rfl)).1)
  rw [show ((a0.toNat:Nat):Int)=a0 by omega] at this
  exact ⟨_,fun g'=>Zcz.2 rfl,this⟩
 ·cases h
theorem Zrd (a0:ByteArray) (a1:Int) {r:ByteArray} (h:Zj6 a0 a1=some r):FnOk Tryz.prog 61 [(pStr a0),(pInt .i64 a1)] (pStr r):=by
 unfold Zj6 at h
 split at h
 ·rename_i hc
  obtain ⟨h1,h2,h3⟩:=hc
  obtain rfl:=Option.some.inj h
  refine Zh9 fun g args ha=>?_
  obtain ⟨v1,v2,rfl,q1,q2⟩:=Zlm ha
  obtain rfl:=Zcz.1 q1
  obtain rfl:=Zc9.1 q2
  have:=Any.strings_Repeat Tryz.lays105 Tryz.Builder_Extra_105 a0 a1.toNat g.w (by omega) h3
  rw [show ((a1.toNat:Nat):Int)=a1 by omega] at this
  exact ⟨_,fun g'=>Zcz.2 rfl,this⟩
 ·cases h
theorem Zk5 (a0:Nat) {r:ByteArray} (h:Zix a0=some r):FnOk Tryz.prog 33 [(pFlt a0)] (pStr r):=by
 have H0:=h
 unfold Zix at H0
 clear h
 refine Zbs (N:=13) Tryz.func33 rfl rfl (Qe rfl) rfl rfl (fun a g0 hst hb=>?_)
 refine r_a [5] (L:=[(0,_)]) hst hb Za
  (a_p [] rfl (Zd rfl rfl c_s)<|a_n) (fun a g hst hb=>?_)
 obtain ⟨r1,h2,H0⟩:=Zc H0;obtain ⟨r3,h4,H0⟩:=Zc H0
 refine r_a [30] (L:=[(0,_)]) hst hb Za
  (Am 5 rfl<|a_p [0] rfl (Zf Zqy (Zka _ h2) rfl rfl (.cons u_0 .nil))<|a_p [0] rfl (Zf Z8b (Zoe _ _ h4) rfl rfl (.cons u_0 (.cons c_i .nil)))<|Aa 0 rfl<|a_n) (fun a g hst hb=>?_)
 obtain ⟨r5,h6,H0⟩:=Zc H0;obtain ⟨h7,H0⟩:=Zcm H0
 refine r_a [60] (L:=[(3,_)]) hst hb Za
  (Am 5 rfl<|a_p [0] rfl (Zdc Tryz.underlying9 rfl rfl u_0)<|a_p [0] rfl (Zjw rfl rfl c_i u_0 rfl)<|a_p [0] rfl (Zf Z8i (Zrd _ _ h6) rfl rfl (.cons c_s (.cons u_0 .nil)))<|Am 5 rfl<|a_p [10,0] rfl (Zhb rfl rfl u_0 u_1 h7)<|Aa 0 rfl<|a_n) (fun a g hst hb=>?_)
 refine wp_ret ?_
 obtain rfl:=Option.some.inj H0
 exact Z2 rfl hst hb (Zg (s:=2)) (hst.at 0 rfl)
theorem Zoc (a0:Zb) {r:ByteArray} (h:Zib a0=some r):FnOk Tryz.prog 12 [(Ze.pd a0)] (pStr r):=by
 have H0:=h
 unfold Zib at H0
 clear h
 refine Zbs (N:=87) Tryz.func12 rfl rfl (Qe rfl) rfl rfl (fun a g0 hst hb=>?_)
 refine r_a [0] (L:=[(0,_)]) hst hb Za
  (a_p [5] rfl (Zbt rfl rfl u_0)<|a_p [] rfl (Zd rfl rfl c_s)<|a_n) (fun a g hst hb=>?_)
 refine wp_seq ?_
 obtain ⟨r1,h2,H0⟩:=Zc H0
 refine r_a [5,20] (L:=[(1,_)]) hst hb Za
  (Al Zbm 5 rfl<|a_p [0] rfl (Zf Zv0 (Zk8 _ h2) rfl rfl (.cons u_0 .nil))<|a_p [0] rfl (Zcw rfl rfl u_0 c_i)<|a_n) (fun a g hst hb=>?_)
 refine wp_cond_split (hst.bool 1 rfl) (fun hc3=>?_) (fun hc3=>?_)
 ·replace H0:=Zo hc3 H0
  refine r_a [0] (L:=[]) (hst.pick [] rfl) hb Za
   (a_p [] rfl (Zd rfl rfl c_s)<|a_n) (fun a g hst hb=>?_)
  refine wp_ret ?_
  refine Zl ?_
  obtain rfl:=Option.some.inj H0
  exact Z2 rfl hst hb (Zg (s:=2)) (hst.at 0 rfl)
 ·replace H0:=Zp hc3 H0
  refine wp_skip ?_
  refine Zm ?_
  obtain ⟨r4,h5,H0⟩:=Zc H0
  refine r_a [5,40] (L:=[(1,_)]) (hst.pick [0] rfl) hb Za
   (Af Zed 5 rfl<|Al ty_3 0 rfl<|a_p [0] rfl (Zf Z4b (Zrh _ h5) rfl rfl (.cons u_0 .nil))<|a_p [0] rfl (Znp 12 Zhe (xs:=[.tmp 11]) (.cons u_0 .nil) (by decide) rfl rfl)<|Aa 0 rfl<|a_n) (fun a g hst hb=>?_)
  refine wp_seq ?_
  refine r_a [5,15,10] (L:=[(1,_),(3,_)]) hst hb Za
   (Af Zed 5 rfl<|Al ty_3 0 rfl<|a_n) (fun a g hst hb=>?_)
  refine Zbp (fun a w=>∃ (j49:List ByteArray) (g:G),w=g.w ∧ St 87 [(3,(pRow Kd.str 9 12 j49))] a g ∧ Base g0 g ∧ Zd4 j49=some r) ?_ ?_
  ·rintro a w ⟨j49,g,rfl,hst,hb,H0⟩
   unfold Zd4 at H0
   refine Zm ?_
   obtain ⟨r50,h51,H0⟩:=Zc H0
   refine r_a [20] (L:=[(3,_)]) hst hb Za
    (Am 5 rfl<|a_p [0] rfl (Zf Z4q (Znx _ _ h51) rfl rfl (.cons (Opd.imp u_0 (fun _ _ h=>Zjs h)) (.cons c_s .nil)))<|Aa 0 rfl<|a_n) (fun a g hst hb=>?_)
   refine wp_ret ?_
   obtain rfl:=Option.some.inj H0
   exact Z2 rfl hst hb (Zg (s:=2)) (hst.at 0 rfl)
  ·refine wp_block ?_
   refine r_a [5,15,25,10] (L:=[(1,_),(3,_),(14,_)]) hst hb Za
    (a_p [25] rfl (Zbk rfl rfl u_0 c_i)<|Aa 0 rfl<|a_n) (fun a g hst hb=>?_)
   refine wp_cond_split (hst.bool 3 rfl) (fun hc6=>?_) (fun hc6=>?_)
   ·replace H0:=Zo hc6 H0
    obtain ⟨r7,h8,H0⟩:=Zc H0;obtain ⟨h9,H0⟩:=Zcm H0
    refine r_b [60] (L:=[(1,_),(3,_)]) (hst.pick [0,1] rfl) hb Za
     (Am 15 rfl<|Af Zje 5 rfl<|Al ty_9 0 rfl<|a_p [0] rfl (Zf en_4 (Zjt _ h8) rfl rfl (.cons u_0 .nil))<|a_p [0] rfl (Zfs Zhe (xs:=[.tmp 49]) (.cons u_0 .nil) (by decide) rfl rfl)<|a_p [40,0] rfl (Zdi Zhe rfl rfl u_0 u_1 h9)<|Aa 0 rfl<|a_n) (fun a g hst hb=>?_)
    refine Zba ?_
    exact ⟨(([r4]:List ByteArray) ++ ([r7]:List ByteArray)),g,rfl,(hst.pick [0] rfl),hb,H0⟩
   ·replace H0:=Zp hc6 H0
    refine wp_seq ?_
    refine r_a [5,15,25,10] (L:=[(1,_),(3,_),(14,_)]) (hst.pick [0,1,2] rfl) hb Za
     (a_p [25] rfl (Zbk rfl rfl u_0 c_i)<|Aa 0 rfl<|a_n) (fun a g hst hb=>?_)
    refine Zbp (fun a w=>∃ (j11:Bool) (g:G),w=g.w ∧ St 87 [(1,(Ze.ptr a0)),(3,(pRow Kd.str 9 12 ([r4]:List ByteArray))),(14,(pInt .i64 a0.Kind)),(52,(Z5 j11))] a g ∧ Base g0 g ∧ Zfa a0 r4 j11=some r) ?_ ?_
    ·rintro a w ⟨j11,g,rfl,hst,hb,H0⟩
     unfold Zfa at H0
     refine Zm ?_
     refine wp_cond_split (hst.bool 3 rfl) (fun hc12=>?_) (fun hc12=>?_)
     ·replace H0:=Zo hc12 H0
      obtain ⟨r13,h14,H0⟩:=Zc H0;obtain ⟨h15,H0⟩:=Zcm H0
      refine r_b [60] (L:=[(1,_),(3,_)]) (hst.pick [0,1] rfl) hb Za
       (Am 15 rfl<|Af Zhi 5 rfl<|Al ty_2 0 rfl<|a_p [0] rfl (Zf en_5 (Zgu _ h14) rfl rfl (.cons u_0 .nil))<|a_p [0] rfl (Zfs Zhe (xs:=[.tmp 58]) (.cons u_0 .nil) (by decide) rfl rfl)<|a_p [40,0] rfl (Zdi Zhe rfl rfl u_0 u_1 h15)<|Aa 0 rfl<|a_n) (fun a g hst hb=>?_)
      refine Zba ?_
      exact ⟨(([r4]:List ByteArray) ++ ([r13]:List ByteArray)),g,rfl,(hst.pick [0] rfl),hb,H0⟩
     ·replace H0:=Zp hc12 H0
      refine r_a [5,15,25,10] (L:=[(1,_),(3,_),(14,_)]) (hst.pick [0,1,2] rfl) hb Za
       (a_p [25] rfl (Zbk rfl rfl u_0 c_i)<|Aa 0 rfl<|a_n) (fun a g hst hb=>?_)
      refine wp_cond_split (hst.bool 3 rfl) (fun hc16=>?_) (fun hc16=>?_)
      ·replace H0:=Zo hc16 H0
       obtain ⟨r17,h18,H0⟩:=Zc H0;obtain ⟨r19,h20,H0⟩:=Zc H0;obtain ⟨r21,h22,H0⟩:=Zc H0;obtain ⟨h23,H0⟩:=Zcm H0
       refine r_b [120] (L:=[(1,_),(3,_)]) (hst.pick [0,1] rfl) hb Za
        (Am 15 rfl<|Af Ziq 5 rfl<|Al ty_2 0 rfl<|a_p [0] rfl (Zf en_5 (Zgu _ h18) rfl rfl (.cons u_0 .nil))<|Af Ziv 5 rfl<|Al ty_2 0 rfl<|a_p [0] rfl (Zf en_5 (Zgu _ h20) rfl rfl (.cons u_0 .nil))<|Af Zhi 5 rfl<|Al ty_2 0 rfl<|a_p [0] rfl (Zf en_5 (Zgu _ h22) rfl rfl (.cons u_0 .nil))<|a_p [60,30,0] rfl (Zfs Zhe (xs:=[.tmp 66,.tmp 69,.tmp 72]) (.cons u_0 (.cons u_1 (.cons u_2 .nil))) (by decide) rfl rfl)<|a_p [100,0] rfl (Zdi Zhe rfl rfl u_0 u_1 h23)<|Aa 0 rfl<|a_n) (fun a g hst hb=>?_)
       refine Zba ?_
       exact ⟨(([r4]:List ByteArray) ++ ([r17,r19,r21]:List ByteArray)),g,rfl,(hst.pick [0] rfl),hb,H0⟩
      ·replace H0:=Zp hc16 H0
       refine wp_seq ?_
       refine r_a [5,15,25,10] (L:=[(1,_),(3,_),(14,_)]) (hst.pick [0,1,2] rfl) hb Za
        (a_p [25] rfl (Zbk rfl rfl u_0 c_i)<|Aa 0 rfl<|a_n) (fun a g hst hb=>?_)
       refine Zbp (fun a w=>∃ (j26:Bool) (g:G),w=g.w ∧ St 87 [(1,(Ze.ptr a0)),(3,(pRow Kd.str 9 12 ([r4]:List ByteArray))),(75,(Z5 j26))] a g ∧ Base g0 g ∧ Zep a0 r4 j26=some r) ?_ ?_
       ·rintro a w ⟨j26,g,rfl,hst,hb,H0⟩
        unfold Zep at H0
        refine Zm ?_
        refine wp_cond_split (hst.bool 2 rfl) (fun hc27=>?_) (fun hc27=>?_)
        ·replace H0:=Zo hc27 H0
         obtain ⟨r28,h29,H0⟩:=Zc H0;obtain ⟨h30,H0⟩:=Zcm H0
         refine r_b [60] (L:=[(1,_),(3,_)]) (hst.pick [0,1] rfl) hb Za
          (Am 15 rfl<|Af Zj4 5 rfl<|Al Zdt 0 rfl<|a_p [0] rfl (Zf Zvq (Zk5 _ h29) rfl rfl (.cons u_0 .nil))<|a_p [0] rfl (Zfs Zhe (xs:=[.tmp 82]) (.cons u_0 .nil) (by decide) rfl rfl)<|a_p [40,0] rfl (Zdi Zhe rfl rfl u_0 u_1 h30)<|Aa 0 rfl<|a_n) (fun a g hst hb=>?_)
         refine Zba ?_
         exact ⟨(([r4]:List ByteArray) ++ ([r28]:List ByteArray)),g,rfl,(hst.pick [0] rfl),hb,H0⟩
        ·replace H0:=Zp hc27 H0
         obtain ⟨r31,h32,H0⟩:=Zc H0;obtain ⟨h33,H0⟩:=Zcm H0
         refine r_a [5,60] (L:=[(1,_),(3,_)]) (hst.pick [0,1] rfl) hb Za
          (Am 15 rfl<|Af Zgw 5 rfl<|Al ty_3 0 rfl<|a_p [0] rfl (Zf en_5 (Zgu _ h32) rfl rfl (.cons u_0 .nil))<|a_p [0] rfl (Zfs Zhe (xs:=[.tmp 18]) (.cons u_0 .nil) (by decide) rfl rfl)<|a_p [40,0] rfl (Zdi Zhe rfl rfl u_0 u_1 h33)<|Aa 0 rfl<|a_n) (fun a g hst hb=>?_)
         refine r_a [5,15,10,20,30] (L:=[(1,_),(3,_)]) hst hb Za
          (Af Zd1 5 rfl<|Al Zfz 0 rfl<|a_p [0] rfl (Zcc Tryz.underlying36 rfl rfl u_0)<|a_p [] rfl (Zq rfl rfl c_i)<|a_n) (fun a g hst hb=>?_)
         obtain ⟨z48,hz1,H0⟩:=Zc H0
         refine Zbp (fun a w=>∃ (y47:List ByteArray) (g:G),w=g.w ∧ St 87 [(3,(pRow Kd.str 9 12 y47))] a g ∧ Base g0 g ∧ y47=z48) ?_ ?_
         ·rintro a w ⟨y47,g,rfl,hst,hb,rfl⟩
          refine Zba ?_
          exact ⟨y47,g,rfl,(hst.pick [0] rfl),hb,H0⟩
         ·refine wp_block ?_
          refine wp_loop_ghost (fun n a w=>∃ (x34:List ByteArray) (x35:Int) (g:G),w=g.w ∧ St 87 [(1,(Ze.ptr a0)),(3,(pRow Kd.str 9 12 x34)),(22,(Zy.sl.pd a0.List)),(23,(pInt .i64 (a0.List.length:Int))),(24,(pInt .i64 x35))] a g ∧ Base g0 g ∧ Zd6 a0 n x34 x35=some z48) (Int.toNat ((a0.List.length:Int) - (0:Int)) + 1) ⟨(([r4]:List ByteArray) ++ ([r31]:List ByteArray)),(0:Int),g,rfl,(hst.pick [0,1,2,3,4] rfl),hb,hz1⟩ (fun n a w hI=>?_)
          obtain ⟨x34,x35,g,rfl,hst,hb,H1⟩:=hI
          cases n with
          | zero=>exact absurd H1 (by simp [Zd6])
          | succ n =>
           rw [Zd6] at H1
           refine r_a [5,15,25,35,45,0] (L:=[(1,_),(3,_),(22,_),(23,_),(24,_)]) hst hb Za
            (a_p [45,35] rfl (Zco rfl rfl u_0 u_1)<|a_n) (fun a g hst hb=>?_)
           refine wp_seq ?_
           refine wp_cond_split (hst.bool 5 rfl) (fun hc36=>?_) (fun hc36=>?_)
           ·replace H1:=Zo hc36 H1
            refine wp_skip ?_
            refine Zm ?_
            refine wp_seq ?_
            refine wp_block ?_
            obtain ⟨e37,h38,H1⟩:=Zc H1
            refine r_a [5,15,30,25,35,45] (L:=[(1,_),(3,_),(22,_),(23,_),(24,_)]) (hst.pick [0,1,2,3,4] rfl) hb Za
             (a_p [25,45] rfl (Zbz Tryz.underlying36 Zji rfl rfl u_0 u_1 h38)<|Al Zgr 0 rfl<|a_p (outs:=[(5,(pBox Zy 5 (default:Zu)))]) (S:=[6]) [] rfl (Zbl (zs:=[.float .f64 0,.string ByteArray.empty]) (by kernel_rfl) (fun g=>Zic g) rfl rfl)<|a_p [10,0] rfl (Zb9 Zgr rfl rfl u_1 u_0)<|a_n) (fun a g hst hb=>?_)
            refine wp_seq ?_
            refine r_a [5,15,25,35,45,55,20] (L:=[(1,_),(3,_),(5,_),(22,_),(23,_),(24,_)]) hst hb Za
             (Af Zed 5 rfl<|Al ty_3 0 rfl<|a_p [0] rfl (Zbk rfl rfl u_0 c_i)<|a_n) (fun a g hst hb=>?_)
            refine Zbp (fun a w=>∃ (j43:List ByteArray) (g:G),w=g.w ∧ St 87 [(1,(Ze.ptr a0)),(3,(pRow Kd.str 9 12 j43)),(5,(Zy.ptr e37)),(22,(Zy.sl.pd a0.List)),(23,(pInt .i64 (a0.List.length:Int))),(24,(pInt .i64 x35))] a g ∧ Base g0 g ∧ Zg0 x35 e37 (Zd6 a0 n) j43=some z48) ?_ ?_
            ·rintro a w ⟨j43,g,rfl,hst,hb,H1⟩
             unfold Zg0 at H1
             refine Zm ?_
             obtain ⟨r44,h45,H1⟩:=Zc H1;obtain ⟨h46,H1⟩:=Zcm H1
             refine r_b [5,60,35,45,55] (L:=[(1,_),(3,_),(5,_),(22,_),(23,_),(24,_)]) hst hb Za
              (Am 15 rfl<|Af Ze7 25 rfl<|Al ty_9 0 rfl<|a_p [0] rfl (Zf en_4 (Zjt _ h45) rfl rfl (.cons u_0 .nil))<|a_p [0] rfl (Zfs Zhe (xs:=[.tmp 40]) (.cons u_0 .nil) (by decide) rfl rfl)<|a_p [40,0] rfl (Zdi Zhe rfl rfl u_0 u_1 h46)<|Aa 0 rfl<|a_n) (fun a g hst hb=>?_)
             refine Zba ?_
             refine Zm ?_
             refine r_b [5,15,25,35,10] (L:=[(1,_),(3,_),(22,_),(23,_),(24,_)]) hst hb Za
              (a_p [45] rfl (Zb6 rfl rfl u_0 c_i rfl)<|Am 0 rfl<|a_n) (fun a g hst hb=>?_)
             exact ⟨n,Nat.lt_succ_self _,(j43 ++ ([r44]:List ByteArray)),(IntKind.i64.wrap (x35 + (1:Int))),g,rfl,(hst.pick [0,1,2,3,4] rfl),hb,H1⟩
            ·refine wp_cond_split (hst.bool 6 rfl) (fun hc39=>?_) (fun hc39=>?_)
             ·replace H1:=Zo hc39 H1
              obtain ⟨r40,h41,H1⟩:=Zc H1;obtain ⟨h42,H1⟩:=Zcm H1
              refine r_b [5,60,25,35,45,55] (L:=[(1,_),(3,_),(5,_),(22,_),(23,_),(24,_)]) (hst.pick [0,1,2,3,4,5] rfl) hb Za
               (Am 15 rfl<|Af Zev 25 rfl<|Al Zdt 0 rfl<|a_p [0] rfl (Zf Zvq (Zk5 _ h41) rfl rfl (.cons u_0 .nil))<|a_p [0] rfl (Zfs Zhe (xs:=[.tmp 34]) (.cons u_0 .nil) (by decide) rfl rfl)<|a_p [40,0] rfl (Zdi Zhe rfl rfl u_0 u_1 h42)<|Aa 0 rfl<|a_n) (fun a g hst hb=>?_)
              exact ⟨(x34 ++ ([r40]:List ByteArray)),g,rfl,(hst.pick [0,1,2,3,4,5] rfl),hb,H1⟩
             ·replace H1:=Zp hc39 H1
              refine wp_skip ?_
              exact ⟨x34,g,rfl,(hst.pick [0,1,2,3,4,5] rfl),hb,H1⟩
           ·replace H1:=Zp hc36 H1
            refine wp_exit ?_
            refine Zbw ?_
            refine Zbw ?_
            refine Zb4 ?_
            exact ⟨x34,g,rfl,(hst.pick [1] rfl),hb,Option.some.inj H1⟩
       ·refine wp_cond_split (hst.bool 3 rfl) (fun hc24=>?_) (fun hc24=>?_)
        ·replace H0:=Zo hc24 H0
         refine wp_skip ?_
         exact ⟨(a0.Kind == (5:Int)),g,rfl,(hst.pick [0,1,3] rfl),hb,H0⟩
        ·replace H0:=Zp hc24 H0
         refine r_a [5,15,25,10] (L:=[(1,_),(3,_),(14,_)]) (hst.pick [0,1,2] rfl) hb Za
          (a_p [25] rfl (Zbk rfl rfl u_0 c_i)<|Aa 0 rfl<|a_n) (fun a g hst hb=>?_)
         refine wp_cond_split (hst.bool 3 rfl) (fun hc25=>?_) (fun hc25=>?_)
         ·replace H0:=Zo hc25 H0
          refine wp_skip ?_
          exact ⟨(a0.Kind == (6:Int)),g,rfl,(hst.pick [0,1,3] rfl),hb,H0⟩
         ·replace H0:=Zp hc25 H0
          refine r_b [5,15,10] (L:=[(1,_),(3,_),(14,_)]) (hst.pick [0,1,2] rfl) hb Za
           (a_p [25] rfl (Zbk rfl rfl u_0 c_i)<|Aa 0 rfl<|a_n) (fun a g hst hb=>?_)
          exact ⟨(a0.Kind == (7:Int)),g,rfl,(hst.pick [0,1,2] rfl),hb,H0⟩
    ·refine wp_cond_split (hst.bool 3 rfl) (fun hc10=>?_) (fun hc10=>?_)
     ·replace H0:=Zo hc10 H0
      refine wp_skip ?_
      exact ⟨(a0.Kind == (2:Int)),g,rfl,(hst.pick [0,1,2,3] rfl),hb,H0⟩
     ·replace H0:=Zp hc10 H0
      refine r_b [5,15,25,10] (L:=[(1,_),(3,_),(14,_)]) (hst.pick [0,1,2] rfl) hb Za
       (a_p [25] rfl (Zbk rfl rfl u_0 c_i)<|Aa 0 rfl<|a_n) (fun a g hst hb=>?_)
      exact ⟨(a0.Kind == (3:Int)),g,rfl,(hst.pick [0,1,2,3] rfl),hb,H0⟩
theorem Zrp (a0:Int) {r:ByteArray} (h:Zm5 a0=some r):FnOk Tryz.prog 51 [(pInt .i64 a0)] (pStr r):=by
 have H0:=h
 unfold Zm5 at H0
 clear h
 refine Zbs (N:=6) Tryz.func51 rfl rfl (Qe rfl) rfl rfl (fun a g0 hst hb=>?_)
 refine r_a [5] (L:=[(0,_)]) hst hb Za
  (a_p [] rfl (Zd rfl rfl c_s)<|a_n) (fun a g hst hb=>?_)
 obtain ⟨r1,h2,H0⟩:=Zc H0
 refine r_a [30] (L:=[(0,_)]) hst hb Za
  (Am 5 rfl<|a_p [0] rfl (Zf Zvo (Znj _ h2) rfl rfl (.cons u_0 .nil))<|a_p [0] rfl (Zxc Zwe rfl rfl u_0)<|Aa 0 rfl<|a_n) (fun a g hst hb=>?_)
 refine wp_ret ?_
 obtain rfl:=Option.some.inj H0
 exact Z2 rfl hst hb (Zg (s:=2)) (hst.at 0 rfl)
theorem Zf8 (a0:Int) (a1:Int) {r:Bool} (h:Zes a0 a1=some r):FnOk Tryz.prog 52 [(pInt .i64 a0),(pInt .u8 a1)] (Z5 r):=by
 have H0:=h
 unfold Zes at H0
 clear h
 refine Zbs (N:=9) Tryz.func52 rfl rfl (Qe rfl) rfl rfl (fun a g0 hst hb=>?_)
 refine r_a [5,15] (L:=[(0,_),(1,_)]) hst hb Za
  (a_p [] rfl (Zd rfl rfl c_b)<|a_n) (fun a g hst hb=>?_)
 obtain ⟨r1,h2,H0⟩:=Zc H0;obtain ⟨r3,h4,H0⟩:=Zc H0
 refine r_a [40] (L:=[(0,_),(1,_)]) hst hb Za
  (Am 5 rfl<|a_p [0] rfl (Zf Zvo (Znj _ h2) rfl rfl (.cons u_0 .nil))<|Am 15 rfl<|a_p [10,0] rfl (Zf Zsn (Zgk _ _ h4) rfl rfl (.cons u_0 (.cons u_1 .nil)))<|Aa 0 rfl<|a_n) (fun a g hst hb=>?_)
 refine wp_ret ?_
 obtain rfl:=Option.some.inj H0
 exact Z2 rfl hst hb (Zg (s:=4)) (hst.at 0 rfl)
theorem Zx5 (a0:Zr) {r:ByteArray} (h:Zm4 a0=some r):FnOk Tryz.prog 28 [(Zx.pd a0)] (pStr r):=by
 have H0:=h
 unfold Zm4 at H0
 clear h
 refine Zbs (N:=56) Tryz.func28 rfl rfl (Qe rfl) rfl rfl (fun a g0 hst hb=>?_)
 refine r_a [0] (L:=[(0,_)]) hst hb Za
  (a_p [5] rfl (Zbt rfl rfl u_0)<|a_p [] rfl (Zd rfl rfl c_s)<|a_n) (fun a g hst hb=>?_)
 refine wp_seq ?_
 obtain ⟨r1,h2,H0⟩:=Zc H0
 refine r_a [5,20] (L:=[(1,_)]) hst hb Za
  (Al Zem 5 rfl<|a_p [0] rfl (Zf Zvu (Zk7 _ h2) rfl rfl (.cons u_0 .nil))<|a_p [0] rfl (Zcw rfl rfl u_0 c_i)<|a_n) (fun a g hst hb=>?_)
 refine wp_cond_split (hst.bool 1 rfl) (fun hc3=>?_) (fun hc3=>?_)
 ·replace H0:=Zo hc3 H0
  refine r_a [0] (L:=[]) (hst.pick [] rfl) hb Za
   (a_p [] rfl (Zd rfl rfl c_s)<|a_n) (fun a g hst hb=>?_)
  refine wp_ret ?_
  refine Zl ?_
  obtain rfl:=Option.some.inj H0
  exact Z2 rfl hst hb (Zg (s:=2)) (hst.at 0 rfl)
 ·replace H0:=Zp hc3 H0
  refine wp_skip ?_
  refine Zm ?_
  obtain ⟨r4,h5,H0⟩:=Zc H0;obtain ⟨h6,H0⟩:=Zcm H0;obtain ⟨r7,h8,H0⟩:=Zc H0;obtain ⟨h9,H0⟩:=Zcm H0
  refine r_a [5,80] (L:=[(1,_)]) (hst.pick [0] rfl) hb Za
   (Af Zdw 5 rfl<|Al ty_3 0 rfl<|a_p [0] rfl (Zf Z32 (Zrp _ h5) rfl rfl (.cons u_0 .nil))<|a_p [0] rfl (Zhb rfl rfl u_0 c_s h6)<|Af Zlh 5 rfl<|Al ty_9 0 rfl<|a_p [0] rfl (Zf en_4 (Zjt _ h8) rfl rfl (.cons u_0 .nil))<|a_p [30,0] rfl (Zhb rfl rfl u_0 u_1 h9)<|Aa 0 rfl<|a_n) (fun a g hst hb=>?_)
  refine wp_seq ?_
  refine r_a [5,15,10] (L:=[(1,_),(3,_)]) hst hb Za
   (Af Zt7 5 rfl<|Al ty_4 0 rfl<|a_n) (fun a g hst hb=>?_)
  refine Zbp (fun a w=>∃ (j12:ByteArray) (g:G),w=g.w ∧ St 56 [(1,(Zx.ptr a0)),(3,(pStr j12))] a g ∧ Base g0 g ∧ Zkh a0 j12=some r) ?_ ?_
  ·rintro a w ⟨j12,g,rfl,hst,hb,H0⟩
   unfold Zkh at H0
   refine Zm ?_
   refine wp_seq ?_
   obtain ⟨r13,h14,H0⟩:=Zc H0
   refine r_a [5,15,20] (L:=[(1,_),(3,_)]) hst hb Za
    (Af Zdw 5 rfl<|Al ty_3 0 rfl<|a_p [0] rfl (Zf Znh (Zf8 _ _ h14) rfl rfl (.cons u_0 (.cons c_i .nil)))<|a_n) (fun a g hst hb=>?_)
   refine Zbp (fun a w=>∃ (j20:ByteArray) (g:G),w=g.w ∧ St 56 [(1,(Zx.ptr a0)),(3,(pStr j20))] a g ∧ Base g0 g ∧ Zko a0 j20=some r) ?_ ?_
   ·rintro a w ⟨j20,g,rfl,hst,hb,H0⟩
    unfold Zko at H0
    refine Zm ?_
    refine wp_seq ?_
    obtain ⟨r21,h22,H0⟩:=Zc H0
    refine r_a [5,15,20] (L:=[(1,_),(3,_)]) hst hb Za
     (Af Zdw 5 rfl<|Al ty_3 0 rfl<|a_p [0] rfl (Zf Znh (Zf8 _ _ h22) rfl rfl (.cons u_0 (.cons c_i .nil)))<|a_n) (fun a g hst hb=>?_)
    refine Zbp (fun a w=>∃ (j28:ByteArray) (g:G),w=g.w ∧ St 56 [(1,(Zx.ptr a0)),(3,(pStr j28))] a g ∧ Base g0 g ∧ Zkq a0 j28=some r) ?_ ?_
    ·rintro a w ⟨j28,g,rfl,hst,hb,H0⟩
     unfold Zkq at H0
     refine Zm ?_
     refine wp_seq ?_
     obtain ⟨r29,h30,H0⟩:=Zc H0
     refine r_a [5,15,20] (L:=[(1,_),(3,_)]) hst hb Za
      (Af Zdw 5 rfl<|Al ty_3 0 rfl<|a_p [0] rfl (Zf Znh (Zf8 _ _ h30) rfl rfl (.cons u_0 (.cons c_i .nil)))<|a_n) (fun a g hst hb=>?_)
     refine Zbp (fun a w=>∃ (j36:ByteArray) (g:G),w=g.w ∧ St 56 [(1,(Zx.ptr a0)),(3,(pStr j36))] a g ∧ Base g0 g ∧ Zkm a0 j36=some r) ?_ ?_
     ·rintro a w ⟨j36,g,rfl,hst,hb,H0⟩
      unfold Zkm at H0
      refine Zm ?_
      refine wp_seq ?_
      obtain ⟨r37,h38,H0⟩:=Zc H0
      refine r_a [5,15,20] (L:=[(1,_),(3,_)]) hst hb Za
       (Af Zdw 5 rfl<|Al ty_3 0 rfl<|a_p [0] rfl (Zf Znh (Zf8 _ _ h38) rfl rfl (.cons u_0 (.cons c_i .nil)))<|a_n) (fun a g hst hb=>?_)
      refine Zbp (fun a w=>∃ (j44:ByteArray) (g:G),w=g.w ∧ St 56 [(3,(pStr j44))] a g ∧ Base g0 g ∧ Zkj j44=some r) ?_ ?_
      ·rintro a w ⟨j44,g,rfl,hst,hb,H0⟩
       unfold Zkj at H0
       refine Zm ?_
       refine r_a [10] (L:=[(3,_)]) hst hb Za
        (Am 5 rfl<|Aa 0 rfl<|a_n) (fun a g hst hb=>?_)
       refine wp_ret ?_
       obtain rfl:=Option.some.inj H0
       exact Z2 rfl hst hb (Zg (s:=2)) (hst.at 0 rfl)
      ·refine wp_cond_split (hst.bool 2 rfl) (fun hc39=>?_) (fun hc39=>?_)
       ·replace H0:=Zo hc39 H0
        obtain ⟨r40,h41,H0⟩:=Zc H0;obtain ⟨h42,H0⟩:=Zcm H0;obtain ⟨h43,H0⟩:=Zcm H0
        refine r_b [60] (L:=[(1,_),(3,_)]) (hst.pick [0,1] rfl) hb Za
         (Am 15 rfl<|Af Zmp 5 rfl<|Al Zbm 0 rfl<|a_p [0] rfl (Zf Z4h (Zoc _ h41) rfl rfl (.cons u_0 .nil))<|a_p [0] rfl (Zhb rfl rfl c_s u_0 h42)<|a_p [40,0] rfl (Zhb rfl rfl u_0 u_1 h43)<|Aa 0 rfl<|a_n) (fun a g hst hb=>?_)
        exact ⟨(j36 ++ ((⟨#[32]⟩:ByteArray) ++ r40)),g,rfl,(hst.pick [0] rfl),hb,H0⟩
       ·replace H0:=Zp hc39 H0
        refine wp_skip ?_
        exact ⟨j36,g,rfl,(hst.pick [1] rfl),hb,H0⟩
     ·refine wp_cond_split (hst.bool 2 rfl) (fun hc31=>?_) (fun hc31=>?_)
      ·replace H0:=Zo hc31 H0
       obtain ⟨r32,h33,H0⟩:=Zc H0;obtain ⟨h34,H0⟩:=Zcm H0;obtain ⟨h35,H0⟩:=Zcm H0
       refine r_b [5,60] (L:=[(1,_),(3,_)]) (hst.pick [0,1] rfl) hb Za
        (Am 15 rfl<|Af Zn4 5 rfl<|Al ty_9 0 rfl<|a_p [0] rfl (Zf en_4 (Zjt _ h33) rfl rfl (.cons u_0 .nil))<|a_p [0] rfl (Zhb rfl rfl c_s u_0 h34)<|a_p [40,0] rfl (Zhb rfl rfl u_0 u_1 h35)<|Aa 0 rfl<|a_n) (fun a g hst hb=>?_)
       exact ⟨(j28 ++ ((⟨#[32]⟩:ByteArray) ++ r32)),g,rfl,(hst.pick [0,1] rfl),hb,H0⟩
      ·replace H0:=Zp hc31 H0
       refine wp_skip ?_
       exact ⟨j28,g,rfl,(hst.pick [0,1] rfl),hb,H0⟩
    ·refine wp_cond_split (hst.bool 2 rfl) (fun hc23=>?_) (fun hc23=>?_)
     ·replace H0:=Zo hc23 H0
      obtain ⟨r24,h25,H0⟩:=Zc H0;obtain ⟨h26,H0⟩:=Zcm H0;obtain ⟨h27,H0⟩:=Zcm H0
      refine r_b [5,60] (L:=[(1,_),(3,_)]) (hst.pick [0,1] rfl) hb Za
       (Am 15 rfl<|Af Zqx 5 rfl<|Al Zdt 0 rfl<|a_p [0] rfl (Zf Zvq (Zk5 _ h25) rfl rfl (.cons u_0 .nil))<|a_p [0] rfl (Zhb rfl rfl c_s u_0 h26)<|a_p [40,0] rfl (Zhb rfl rfl u_0 u_1 h27)<|Aa 0 rfl<|a_n) (fun a g hst hb=>?_)
      exact ⟨(j20 ++ ((⟨#[32]⟩:ByteArray) ++ r24)),g,rfl,(hst.pick [0,1] rfl),hb,H0⟩
     ·replace H0:=Zp hc23 H0
      refine wp_skip ?_
      exact ⟨j20,g,rfl,(hst.pick [0,1] rfl),hb,H0⟩
   ·refine wp_cond_split (hst.bool 2 rfl) (fun hc15=>?_) (fun hc15=>?_)
    ·replace H0:=Zo hc15 H0
     obtain ⟨r16,h17,H0⟩:=Zc H0;obtain ⟨h18,H0⟩:=Zcm H0;obtain ⟨h19,H0⟩:=Zcm H0
     refine r_b [5,60] (L:=[(1,_),(3,_)]) (hst.pick [0,1] rfl) hb Za
      (Am 15 rfl<|Af Zom 5 rfl<|Al ty_2 0 rfl<|a_p [0] rfl (Zf en_5 (Zgu _ h17) rfl rfl (.cons u_0 .nil))<|a_p [0] rfl (Zhb rfl rfl c_s u_0 h18)<|a_p [40,0] rfl (Zhb rfl rfl u_0 u_1 h19)<|Aa 0 rfl<|a_n) (fun a g hst hb=>?_)
     exact ⟨(j12 ++ ((⟨#[32]⟩:ByteArray) ++ r16)),g,rfl,(hst.pick [0,1] rfl),hb,H0⟩
    ·replace H0:=Zp hc15 H0
     refine wp_skip ?_
     exact ⟨j12,g,rfl,(hst.pick [0,1] rfl),hb,H0⟩
  ·refine wp_cond_split (hst.bool 2 rfl) (fun hc10=>?_) (fun hc10=>?_)
   ·replace H0:=Zo hc10 H0
    obtain ⟨h11,H0⟩:=Zcm H0
    refine r_b [5,20] (L:=[(1,_),(3,_)]) (hst.pick [0,1] rfl) hb Za
     (Am 15 rfl<|a_p [0] rfl (Zhb rfl rfl c_s u_0 h11)<|Aa 0 rfl<|a_n) (fun a g hst hb=>?_)
    exact ⟨((⟨#[33]⟩:ByteArray) ++ ((r4 ++ (⟨#[32]⟩:ByteArray)) ++ r7)),g,rfl,(hst.pick [0,1] rfl),hb,H0⟩
   ·replace H0:=Zp hc10 H0
    refine wp_skip ?_
    exact ⟨((r4 ++ (⟨#[32]⟩:ByteArray)) ++ r7),g,rfl,(hst.pick [0,1] rfl),hb,H0⟩
theorem Zxb (a0:Zbq) {r:ByteArray} (h:Zjz a0=some r):FnOk Tryz.prog 10 [(Zdr.pd a0)] (pStr r):=by
 have H0:=h
 unfold Zjz at H0
 clear h
 refine Zbs (N:=30) Tryz.func10 rfl rfl (Qe rfl) rfl rfl (fun a g0 hst hb=>?_)
 refine r_a [0] (L:=[(0,_)]) hst hb Za
  (a_p [5] rfl (Zbt rfl rfl u_0)<|a_p [] rfl (Zd rfl rfl c_s)<|a_n) (fun a g hst hb=>?_)
 refine wp_seq ?_
 obtain ⟨r1,h2,H0⟩:=Zc H0
 refine r_a [5,50] (L:=[(1,_)]) hst hb Za
  (Al Zj5 5 rfl<|a_p [0] rfl (Zf Zzd (Zmb _ h2) rfl rfl (.cons u_0 .nil))<|Am 0 rfl<|a_p [0] rfl (Zz rfl rfl u_0 rfl)<|a_p [10] rfl (Zz rfl rfl u_0 rfl)<|Aa 10 rfl<|Aa 10 rfl<|a_n) (fun a g hst hb=>?_)
 refine r_a [5,10] (L:=[(1,_),(3,_)]) hst hb Za
  (Am 15 rfl<|a_p [0] rfl (Zcw rfl rfl u_0 c_i)<|a_n) (fun a g hst hb=>?_)
 refine wp_cond_split (hst.bool 1 rfl) (fun hc3=>?_) (fun hc3=>?_)
 ·replace H0:=Zo hc3 H0
  refine r_a [0] (L:=[]) (hst.pick [] rfl) hb Za
   (a_p [] rfl (Zd rfl rfl c_s)<|a_n) (fun a g hst hb=>?_)
  refine wp_ret ?_
  refine Zl ?_
  obtain rfl:=Option.some.inj H0
  exact Z2 rfl hst hb (Zg (s:=2)) (hst.at 0 rfl)
 ·replace H0:=Zp hc3 H0
  refine wp_skip ?_
  refine Zm ?_
  refine r_a [5,0] (L:=[(1,_)]) (hst.pick [0] rfl) hb Za
   (a_p (outs:=[(5,(pRow Kd.str 9 5 ([]:List ByteArray)))]) (S:=[]) [] rfl (Zd rfl rfl (Opd.c (fun g=>Zm7 5 g)))<|a_n) (fun a g hst hb=>?_)
  refine wp_seq ?_
  refine r_a [15,10,20,30] (L:=[(1,_),(5,_)]) hst hb Za
   (Af Zku 5 rfl<|Al Zns 0 rfl<|a_p [0] rfl (Zcc Tryz.underlying44 rfl rfl u_0)<|a_p [] rfl (Zq rfl rfl c_i)<|a_n) (fun a g hst hb=>?_)
  obtain ⟨z13,hz1,H0⟩:=Zc H0
  refine Zbp (fun a w=>∃ (y12:List ByteArray) (g:G),w=g.w ∧ St 30 [(5,(pRow Kd.str 9 5 y12))] a g ∧ Base g0 g ∧ y12=z13) ?_ ?_
  ·rintro a w ⟨y12,g,rfl,hst,hb,rfl⟩
   refine Zm ?_
   obtain ⟨r14,h15,H0⟩:=Zc H0
   refine r_a [20] (L:=[(5,_)]) hst hb Za
    (Am 5 rfl<|a_p [0] rfl (Zf Z4q (Znx _ _ h15) rfl rfl (.cons (Opd.imp u_0 (fun _ _ h=>Zjs h)) (.cons c_s .nil)))<|Aa 0 rfl<|a_n) (fun a g hst hb=>?_)
   refine wp_ret ?_
   obtain rfl:=Option.some.inj H0
   exact Z2 rfl hst hb (Zg (s:=2)) (hst.at 0 rfl)
  ·refine wp_block ?_
   refine wp_loop_ghost (fun n a w=>∃ (x4:List ByteArray) (x5:Int) (g:G),w=g.w ∧ St 30 [(5,(pRow Kd.str 9 5 x4)),(16,(Zx.sl.pd a0.Acts)),(17,(pInt .i64 (a0.Acts.length:Int))),(18,(pInt .i64 x5))] a g ∧ Base g0 g ∧ Zg7 a0 n x4 x5=some z13) (Int.toNat ((a0.Acts.length:Int) - (0:Int)) + 1) ⟨([]:List ByteArray),(0:Int),g,rfl,(hst.pick [0,1,2,3] rfl),hb,hz1⟩ (fun n a w hI=>?_)
   obtain ⟨x4,x5,g,rfl,hst,hb,H1⟩:=hI
   cases n with
   | zero=>exact absurd H1 (by simp [Zg7])
   | succ n =>
    rw [Zg7] at H1
    refine r_a [5,15,25,35,0] (L:=[(5,_),(16,_),(17,_),(18,_)]) hst hb Za
     (a_p [35,25] rfl (Zco rfl rfl u_0 u_1)<|a_n) (fun a g hst hb=>?_)
    refine wp_seq ?_
    refine wp_cond_split (hst.bool 4 rfl) (fun hc6=>?_) (fun hc6=>?_)
    ·replace H1:=Zo hc6 H1
     refine wp_skip ?_
     refine Zm ?_
     refine wp_seq ?_
     refine wp_block ?_
     obtain ⟨e7,h8,H1⟩:=Zc H1
     refine r_a [5,30,15,25,35] (L:=[(5,_),(16,_),(17,_),(18,_)]) (hst.pick [0,1,2,3] rfl) hb Za
      (a_p [15,35] rfl (Zbz Tryz.underlying44 Zvr rfl rfl u_0 u_1 h8)<|Al Zem 0 rfl<|a_p (outs:=[(7,(pBox Zx 7 (default:Zr)))]) (S:=[8]) [] rfl (Zbl (zs:=[.int .i64 0,.string ByteArray.empty,.int .i64 0,.float .f64 0,.string ByteArray.empty,.int .i64 0,.int .i64 0,.int .i64 0,.int .i64 0,.float .f64 0,.int .i64 0,.string ByteArray.empty,.slice none 0 0,.bool false]) (by kernel_rfl) (fun g=>Zi1 g) rfl rfl)<|a_p [10,0] rfl (Zb9 Zem rfl rfl u_1 u_0)<|a_n) (fun a g hst hb=>?_)
     obtain ⟨r9,h10,H1⟩:=Zc H1;obtain ⟨h11,H1⟩:=Zcm H1
     refine r_b [50,25,35,45] (L:=[(5,_),(7,_),(16,_),(17,_),(18,_)]) hst hb Za
      (Am 5 rfl<|Al Zem 15 rfl<|a_p [0] rfl (Zf Z7n (Zx5 _ h10) rfl rfl (.cons u_0 .nil))<|a_p [0] rfl (Zfs Zhe (xs:=[.tmp 24]) (.cons u_0 .nil) (by decide) rfl rfl)<|a_p [30,0] rfl (Zdi Zhe rfl rfl u_0 u_1 h11)<|Aa 0 rfl<|a_n) (fun a g hst hb=>?_)
     refine Zba ?_
     refine Zm ?_
     refine r_b [5,15,25,10] (L:=[(5,_),(16,_),(17,_),(18,_)]) hst hb Za
      (a_p [35] rfl (Zb6 rfl rfl u_0 c_i rfl)<|Am 0 rfl<|a_n) (fun a g hst hb=>?_)
     exact ⟨n,Nat.lt_succ_self _,(x4 ++ ([r9]:List ByteArray)),(IntKind.i64.wrap (x5 + (1:Int))),g,rfl,(hst.pick [0,1,2,3] rfl),hb,H1⟩
    ·replace H1:=Zp hc6 H1
     refine wp_exit ?_
     refine Zbw ?_
     refine Zbw ?_
     refine Zb4 ?_
     exact ⟨x4,g,rfl,(hst.pick [0] rfl),hb,Option.some.inj H1⟩
theorem Zo3 (a0:Int) {r:Bool} (h:Zim a0=some r):FnOk Tryz.prog 30 [(pInt .u8 a0)] (Z5 r):=by
 have H0:=h
 unfold Zim at H0
 clear h
 refine Zbs (N:=25) Tryz.func30 rfl rfl (Qe rfl) rfl rfl (fun a g0 hst hb=>?_)
 refine r_a [5] (L:=[(0,_)]) hst hb Za
  (a_p [] rfl (Zd rfl rfl c_b)<|a_n) (fun a g hst hb=>?_)
 refine r_a [220] (L:=[(0,_)]) hst hb Za
  (Am 5 rfl<|a_p [0] rfl (Zhd rfl rfl u_0 c_i)<|Am 0 rfl<|a_g [0,5] (Qg_t rfl (fun hG=>Zq rfl rfl u_0))<|a_g [10,0] (Qg_t rfl (fun hG=>Zhg rfl rfl (Opd.gd hG u_0) c_i))<|a_p [20,0] rfl (Zbg rfl rfl u_0 (fun hz=>(Opd.gd hz u_1)))<|Am 0 rfl<|a_g [0,5] (Qg_f rfl (fun hG=>Zq rfl rfl u_0))<|a_g [10,0] (Qg_f rfl (fun hG=>Zhd rfl rfl (Opd.gd hG u_0) c_i))<|a_g [20,0] (Qg_f rfl (fun hG=>Zq rfl rfl (Opd.gd hG u_0)))<|a_g [0,5] (Qg_ti rfl (fun hG=>Zq rfl rfl u_0))<|a_g [10,0] (Qg_ti rfl (fun hG=>Zhg rfl rfl (Opd.gd hG u_0) c_i))<|a_g [50,20,0] (Qg_f rfl (fun hG=>Zbg rfl rfl (Opd.gd hG u_0) (fun hz=>(Opd.gd (bA hG hz) u_1))))<|a_p [60,0] rfl (Zbh rfl rfl u_0 (fun hz=>(Opd.gd (bNF hz) u_1)))<|Am 0 rfl<|a_g [0,5] (Qg_f rfl (fun hG=>Zq rfl rfl u_0))<|a_g [10,0] (Qg_f rfl (fun hG=>Zbk rfl rfl (Opd.gd hG u_0) c_i))<|a_p [20,0] rfl (Zbh rfl rfl u_0 (fun hz=>(Opd.gd (bNF hz) u_1)))<|Am 0 rfl<|a_g [0,5] (Qg_f rfl (fun hG=>Zq rfl rfl u_0))<|a_g [10,0] (Qg_f rfl (fun hG=>Zbk rfl rfl (Opd.gd hG u_0) c_i))<|a_p [20,0] rfl (Zbh rfl rfl u_0 (fun hz=>(Opd.gd (bNF hz) u_1)))<|Aa 0 rfl<|a_n) (fun a g hst hb=>?_)
 refine wp_ret ?_
 obtain rfl:=Option.some.inj H0
 exact Z2 rfl hst hb (Zg (s:=2)) (hst.at 0 rfl)
theorem Zp2 (a0:ByteArray) {r:ByteArray} (h:Zfw a0=some r):FnOk Tryz.prog 11 [(pStr a0)] (pStr r):=by
 have H0:=h
 unfold Zfw at H0
 clear h
 refine Zbs (N:=42) Tryz.func11 rfl rfl (Qe rfl) rfl rfl (fun a g0 hst hb=>?_)
 refine r_a [5] (L:=[(0,_)]) hst hb Za
  (a_p [] rfl (Zd rfl rfl c_s)<|a_n) (fun a g hst hb=>?_)
 refine wp_seq ?_
 refine r_a [5,10] (L:=[(0,_)]) hst hb Za
  (Am 5 rfl<|a_p [0] rfl (Zir rfl rfl u_0 c_s)<|a_n) (fun a g hst hb=>?_)
 refine wp_cond_split (hst.bool 1 rfl) (fun hc1=>?_) (fun hc1=>?_)
 ·replace H0:=Zo hc1 H0
  refine r_a [0] (L:=[]) (hst.pick [] rfl) hb Za
   (a_p [] rfl (Zd rfl rfl c_s)<|a_n) (fun a g hst hb=>?_)
  refine wp_ret ?_
  refine Zl ?_
  obtain rfl:=Option.some.inj H0
  exact Z2 rfl hst hb (Zg (s:=2)) (hst.at 0 rfl)
 ·replace H0:=Zp hc1 H0
  refine wp_skip ?_
  refine Zm ?_
  refine r_a [5,0] (L:=[(0,_)]) (hst.pick [0] rfl) hb Za
   (a_p [] rfl (Zd rfl rfl c_s)<|a_n) (fun a g hst hb=>?_)
  refine r_a [5,15,10] (L:=[(0,_),(3,_)]) hst hb Za
   (a_p [] rfl (Znp 8 Zmj (xs:=[]) .nil (by decide) rfl rfl)<|Aa 0 rfl<|a_n) (fun a g hst hb=>?_)
  refine wp_seq ?_
  refine r_a [5,15,25,0] (L:=[(0,_),(3,_),(4,_)]) hst hb Za
   (a_p [] rfl (Zd rfl rfl c_i)<|a_n) (fun a g hst hb=>?_)
  obtain ⟨z24,hz1,H0⟩:=Zc H0
  refine Zbp (fun a w=>∃ (y23:List Int) (g:G),w=g.w ∧ St 42 [(4,(pRow (Kd.int .u8) 5 8 y23))] a g ∧ Base g0 g ∧ y23=z24) ?_ ?_
  ·rintro a w ⟨y23,g,rfl,hst,hb,rfl⟩
   refine Zm ?_
   refine r_a [20] (L:=[(4,_)]) hst hb Za
    (Am 5 rfl<|a_p [0] rfl (Zy1 Tryz.underlying62 Tryz.underlying5 Tryz.underlying9 rfl rfl (Opd.imp u_0 (fun _ _ h=>Zjs h)))<|Aa 0 rfl<|a_n) (fun a g hst hb=>?_)
   refine wp_ret ?_
   obtain rfl:=Option.some.inj H0
   exact Z2 rfl hst hb (Zg (s:=2)) (hst.at 0 rfl)
  ·refine wp_block ?_
   refine wp_loop_ghost (fun n a w=>∃ (x2:List Int) (x3:Int) (g:G),w=g.w ∧ St 42 [(0,(pStr a0)),(3,(pStr (⟨#[48,49,50,51,52,53,54,55,56,57,65,66,67,68,69,70]⟩:ByteArray))),(4,(pRow (Kd.int .u8) 5 8 x2)),(5,(pInt .i64 x3))] a g ∧ Base g0 g ∧ Zcx a0 n x2 x3=some z24) (Int.toNat ((a0.size:Int) - (0:Int)) + 1) ⟨([]:List Int),(0:Int),g,rfl,(hst.pick [0,1,2,3] rfl),hb,hz1⟩ (fun n a w hI=>?_)
   obtain ⟨x2,x3,g,rfl,hst,hb,H1⟩:=hI
   cases n with
   | zero=>exact absurd H1 (by simp [Zcx])
   | succ n =>
    rw [Zcx] at H1
    refine wp_seq ?_
    refine r_a [5,15,25,35,30] (L:=[(0,_),(3,_),(4,_),(5,_)]) hst hb Za
     (Am 35 rfl<|Am 5 rfl<|a_p [0] rfl (Zdc Tryz.underlying9 rfl rfl u_0)<|a_p [20,0] rfl (Zco rfl rfl u_0 u_1)<|a_n) (fun a g hst hb=>?_)
    refine wp_cond_split (hst.bool 4 rfl) (fun hc4=>?_) (fun hc4=>?_)
    ·replace H1:=Zo hc4 H1
     refine wp_skip ?_
     refine Zm ?_
     refine wp_seq ?_
     refine Zbp (fun a w=>∃ (j22:List Int) (g:G),w=g.w ∧ St 42 [(0,(pStr a0)),(3,(pStr (⟨#[48,49,50,51,52,53,54,55,56,57,65,66,67,68,69,70]⟩:ByteArray))),(4,(pRow (Kd.int .u8) 5 8 j22)),(5,(pInt .i64 x3))] a g ∧ Base g0 g ∧ Zew x3 (Zcx a0 n) j22=some z24) ?_ ?_
     ·rintro a w ⟨j22,g,rfl,hst,hb,H1⟩
      unfold Zew at H1
      refine Zm ?_
      refine r_b [5,15,25,20] (L:=[(0,_),(3,_),(4,_),(5,_)]) hst hb Za
       (Am 35 rfl<|a_p [0] rfl (Zb6 rfl rfl u_0 c_i rfl)<|Aa 0 rfl<|a_n) (fun a g hst hb=>?_)
      exact ⟨n,Nat.lt_succ_self _,j22,(IntKind.i64.wrap (x3 + (1:Int))),g,rfl,(hst.pick [0,1,2,3] rfl),hb,H1⟩
     ·refine wp_block ?_
      obtain ⟨b5,h6,H1⟩:=Zc H1;obtain ⟨r7,h8,H1⟩:=Zc H1
      refine r_a [5,15,25,35,30] (L:=[(0,_),(3,_),(4,_),(5,_)]) (hst.pick [0,1,2,3] rfl) hb Za
       (Am 5 rfl<|Am 35 rfl<|a_p [10,0] rfl (Zcj Tryz.underlying9 rfl rfl u_0 u_1 h6)<|a_p [0] rfl (Zf Z7o (Zo3 _ h8) rfl rfl (.cons u_0 .nil))<|a_n) (fun a g hst hb=>?_)
      refine wp_cond_split (hst.bool 4 rfl) (fun hc9=>?_) (fun hc9=>?_)
      ·replace H1:=Zo hc9 H1
       obtain ⟨b10,h11,H1⟩:=Zc H1;obtain ⟨h12,H1⟩:=Zcm H1
       refine r_b [5,15,60,35] (L:=[(0,_),(3,_),(4,_),(5,_)]) (hst.pick [0,1,2,3] rfl) hb Za
        (Am 25 rfl<|Am 5 rfl<|Am 35 rfl<|a_p [10,0] rfl (Zcj Tryz.underlying9 rfl rfl u_0 u_1 h11)<|a_p [0] rfl (Zfs Zmj (xs:=[.tmp 22]) (.cons u_0 .nil) (by decide) rfl rfl)<|a_p [40,0] rfl (Zdi Zmj rfl rfl u_0 u_1 h12)<|Aa 0 rfl<|a_n) (fun a g hst hb=>?_)
       refine Zba ?_
       exact ⟨(x2 ++ ([b10]:List Int)),g,rfl,(hst.pick [0,1,2,3] rfl),hb,H1⟩
      ·replace H1:=Zp hc9 H1
       obtain ⟨b13,h14,H1⟩:=Zc H1;obtain ⟨b15,h16,H1⟩:=Zc H1;obtain ⟨b17,h18,H1⟩:=Zc H1;obtain ⟨b19,h20,H1⟩:=Zc H1;obtain ⟨h21,H1⟩:=Zcm H1
       refine r_b [5,15,150,35] (L:=[(0,_),(3,_),(4,_),(5,_)]) (hst.pick [0,1,2,3] rfl) hb Za
        (Am 25 rfl<|Am 15 rfl<|Am 5 rfl<|Am 35 rfl<|a_p [10,0] rfl (Zcj Tryz.underlying9 rfl rfl u_0 u_1 h14)<|a_p [0] rfl (Z1a rfl rfl u_0 c_i (by decide))<|a_p [40,0] rfl (Zcj Tryz.underlying9 rfl rfl u_0 u_1 h16)<|Am 15 rfl<|Am 5 rfl<|Am 35 rfl<|a_p [10,0] rfl (Zcj Tryz.underlying9 rfl rfl u_0 u_1 h18)<|a_p [0] rfl (Z7b rfl rfl u_0 c_i (by decide))<|a_p [40,0] rfl (Zcj Tryz.underlying9 rfl rfl u_0 u_1 h20)<|a_p [60,0] rfl (Zfs Zmj (xs:=[.const (.int .u8 37),.tmp 31,.tmp 37]) (.cons c_i (.cons u_0 (.cons u_1 .nil))) (by decide) rfl rfl)<|a_p [130,0] rfl (Zdi Zmj rfl rfl u_0 u_1 h21)<|Aa 0 rfl<|a_n) (fun a g hst hb=>?_)
       refine Zba ?_
       exact ⟨(x2 ++ ([(37:Int),b15,b19]:List Int)),g,rfl,(hst.pick [0,1,2,3] rfl),hb,H1⟩
    ·replace H1:=Zp hc4 H1
     refine wp_exit ?_
     refine Zbw ?_
     refine Zbw ?_
     refine Zb4 ?_
     exact ⟨x2,g,rfl,(hst.pick [2] rfl),hb,Option.some.inj H1⟩
theorem Zm2 (a0:ByteArray) (a1:ByteArray) {r:List ByteArray} (h:Ze0 a0 a1=some r):FnOk Tryz.prog 34 [(pStr a0),(pStr a1)] (Kd.str.sl.pd r):=by
 unfold Ze0 at h
 split at h
 ·rename_i hc
  obtain rfl:=Option.some.inj h
  have hl:=Lib.splitB_all a1 hc.2 0 _ a0 rfl
  have hle:=Lib.countB_le a1 hc.2 a0.size a0 (Nat.le_refl _)
  refine Z3i (n:=Lib.countB a0 a1 + 1) fun g args ha=>?_
  obtain ⟨v1,v2,rfl,q1,q2⟩:=Zlm ha
  obtain rfl:=Zcz.1 q1
  obtain rfl:=Zcz.1 q2
  obtain ⟨m,hm⟩:=(g.gl.2.1 3 (by simp [GLI])).2
  refine ⟨(Lib.splitB a1 0 (Lib.countB a0 a1) a0).map Value.string,9,by omega,by omega,fun g' hc' i x hx=>?_,?_⟩
  ·refine ⟨[.string x],rfl,fun j v hj=>?_⟩
   cases j with
   | zero =>
    obtain rfl:=Option.some.inj hj
    have:=hc' i (.string x) (by rw [List.getElem?_map,hx];rfl)
    rw [show 0 + i * Kd.str.sz + 0=0 + i by show 0 + i * 1 + 0=_;omega]
    exact this
   | succ j=>simp at hj
  ·rw [hl]
   exact Any.strings_Split Tryz.lays146 (by kernel_rfl) a0 a1 m g.w hc.1 hm hc.2
 ·cases h
theorem Zt1 (a0:Unit) {r:Bool} (h:Zro a0=some r):FnOk Tryz.prog 64 [(pEq .nilIface)] (Z5 r):=by
 have H0:=h
 unfold Zro at H0
 clear h
 refine Zbs (N:=15) Tryz.func64 rfl rfl (Qe rfl) rfl rfl (fun a g0 hst hb=>?_)
 refine r_a [5] (L:=[(0,_)]) hst hb Za
  (a_p [] rfl (Zd rfl rfl c_b)<|a_n) (fun a g hst hb=>?_)
 refine wp_seq ?_
 refine r_a [5,10] (L:=[(0,_)]) hst hb Za
  (Am 5 rfl<|a_p [0] rfl (Zyc (by kernel_rfl) rfl rfl u_0)<|a_n) (fun a g hst hb=>?_)
 refine wp_cond_split (hst.bool 1 rfl) (fun hc1=>?_) (fun hc1=>?_)
 ·replace H0:=Zo hc1 H0
  refine r_a [0] (L:=[]) (hst.pick [] rfl) hb Za
   (a_p [] rfl (Zd rfl rfl c_b)<|a_n) (fun a g hst hb=>?_)
  refine wp_ret ?_
  refine Zl ?_
  obtain rfl:=Option.some.inj H0
  exact Z2 rfl hst hb (Zg (s:=2)) (hst.at 0 rfl)
 ·replace H0:=Zp hc1 H0
  refine wp_skip ?_
  refine Zm ?_
  refine wp_seq ?_
  refine wp_seq ?_
  cases H0
theorem Zl1:Zwb Tryz.prog 63:=by
 intro g b4 b5
 refine callsD_of_wpS Tryz.func63 rfl fun c₀ cs hu=>?_
 apply wpS_seq
 apply wpS_region
 refine Z02 (N:=5) (o:=_) rfl rfl (fun _=>rfl) rfl (by simp [recoverD,hu]) (by simp [Tryz.ntmps63]) (by decide) fun a0 n0 d0 e0=>?_
 refine Z3z (g:=g.bare) (N:=5) (uses:=[(2,pEq .nilIface)]) (o:=_) rfl rfl (Zf Z8m (Zt1 () (r:=false) rfl) rfl rfl (.cons u_0 .nil)) n0 (fun t h=>by cases h;decide) (fun e he=>by rw [List.mem_singleton.1 he];exact e0) fun a1 g1 s1 n1 d1 h1 _=>?_
 refine wpS_of_wp ?_
 refine Zxg (fun a=>St 5 [(3,Z5 false)] a g1) ⟨n1,by rw [d1,d0],fun e he=>by rw [List.mem_singleton.1 he];exact h1 _ (List.mem_singleton.2 rfl)⟩ (fun a hst=>?_)
 have hb:Base g.bare g1:=(Znv g).step s1 (by simp)
 refine (show (Code.cond _ _ _).wp Tryz.prog _ a g1.w from ?_)
 refine wp_cond_split (hst.bool 0 rfl) (fun hc=>by cases hc) (fun _=>?_)
 refine wp_skip ?_
 obtain ⟨g5,e5,hs,_⟩:=Znq hb
 exact ⟨hst.df,.returning,by rw [← hu],.tuple #[],by simp [results,Tryz.results63],rfl,rfl,g5,e5.symm,hs⟩
theorem Zpd (a0:ByteArray) (a1:ByteArray) {r:ByteArray × Bool} (h:Zih a0 a1=some r):FnOk Tryz.prog 65 [(pStr a0),(pStr a1)] (pTup [(pStr r.1),(Z5 r.2)]):=by
 unfold Zih at h
 obtain rfl:=Option.some.inj h
 refine Zh9 fun g args ha=>?_
 obtain ⟨v1,v2,rfl,q1,q2⟩:=Zlm ha
 obtain rfl:=Zcz.1 q1
 obtain rfl:=Zcz.1 q2
 refine ⟨.tuple #[.string ⟨(Lib.trimPrefix a0.data.toList a1.data.toList).toArray⟩,.bool (Lib.hasPrefix a0.data.toList a1.data.toList)],fun g'=>?_,(Any.strings_CutPrefix Tryz.lays103 a0 a1 g.w).mono ?_⟩
 ·exact tup2 (Zcz.2 rfl) (Zgt.2 rfl)
 ·rintro e w' ⟨rfl,rfl⟩
  exact ⟨rfl,Below.refl _ _⟩
theorem Zf9 (a0:Z0) {r:ByteArray × Z0} (h:Zdu a0=some r):FnB Tryz.prog 66 [.box Z8 a0 r.2] (pStr r.1):=by
 have H0:=h
 unfold Zdu at H0
 clear h
 refine Zok (N:=27) Tryz.func66 rfl rfl (Qe rfl) rfl rfl (fun a g0 bs hbs hst hb=>?_)
 obtain ⟨b0,rfl⟩:=Zqq hbs
 replace hst:St 27 [(0,(Zbf (some b0) Z8 0 a0))] _ _:=hst
 replace hst:St 27 [(0,(pEq (ptrB b0 0))),(1002,(pRB Z8 0 b0 a0))] _ _:=Zl3 hst
 refine r_a [5,15] (L:=[(0,_),(1002,_)]) hst hb Za
  (a_p [] rfl (Zd rfl rfl c_s)<|a_n) (fun a g hst hb=>?_)
 refine wp_seq ?_
 refine r_a [5,50,15] (L:=[(0,_),(1002,_)]) hst hb Za
  (Am 5 rfl<|a_p [0] rfl (Z6 rfl rfl u_0 (fun _ _ h=>⟨_,h⟩))<|a_p [0] rfl (Zkg Zmy rfl rfl u_0)<|a_p [0,15] rfl (Zls Zq0 (fun g cs h=>Zpk h) rfl rfl u_1 u_0)<|a_p [0] rfl (Zcc Tryz.underlying83 rfl rfl u_0)<|a_p [0] rfl (Zbk rfl rfl u_0 c_i)<|a_n) (fun a g hst hb=>?_)
 refine Zbp (fun a w=>∃ (g:G),w=g.w ∧ St 27 [(0,(pEq (ptrB b0 0))),(1002,(pRB Z8 0 b0 a0))] a g ∧ Base g0 g ∧ Zhn a0=some r) ?_ ?_
 ·rintro a w ⟨g,rfl,hst,hb,H0⟩
  unfold Zhn at H0
  refine Zm ?_
  obtain ⟨e2,h3,H0⟩:=Zc H0
  refine r_a [5,60,15] (L:=[(0,_),(1002,_)]) hst hb Za
   (Am 5 rfl<|a_p [0] rfl (Z6 rfl rfl u_0 (fun _ _ h=>⟨_,h⟩))<|a_p [0] rfl (Zkg Zmy rfl rfl u_0)<|a_p [0,15] rfl (Zls Zq0 (fun g cs h=>Zpk h) rfl rfl u_1 u_0)<|a_p [0] rfl (Zbz Tryz.underlying83 sz_9 rfl rfl u_0 c_i h3)<|Al ty_9 0 rfl<|Aa 0 rfl<|a_n) (fun a g hst hb=>?_)
  obtain ⟨c4,h5,H0⟩:=Zc H0
  refine r_a [5,15,80] (L:=[(0,_),(3,_),(1002,_)]) hst hb Za
   (Am 5 rfl<|Am 5 rfl<|a_p [0] rfl (Z6 rfl rfl u_0 (fun _ _ h=>⟨_,h⟩))<|a_p [0] rfl (Zkg Zmy rfl rfl u_0)<|a_p [0,25] rfl (Zls Zq0 (fun g cs h=>Zpk h) rfl rfl u_1 u_0)<|a_p [0] rfl (Zyf Tryz.underlying83 sz_9 rfl rfl u_0 c_i h5)<|a_p [50] rfl (Z6 rfl rfl u_0 (fun _ _ h=>⟨_,h⟩))<|a_p [0] rfl (Zkg Zmy rfl rfl u_0)<|a_p (outs:=[(1002,(pRB Z8 0 b0 ({ a0 with l:=c4 }:Z0)))]) (S:=[1]) [0,20,25] rfl (Zxm (v':=({ a0 with l:=c4 }:Z0)) Zq0 rfl rfl u_2 u_0 u_1 (fun g cs ys h hy=>Z28 h hy))<|a_n) (fun a g hst hb=>?_)
  refine r_a [5,10,25] (L:=[(0,_),(3,_),(1002,_)]) hst hb Za
   (Am 15 rfl<|Aa 0 rfl<|a_n) (fun a g hst hb=>?_)
  refine wp_ret ?_
  obtain rfl:=Option.some.inj H0
  exact Zsr rfl hst hb (Zg (s:=2)) (hst.at 1 rfl) ⟨Zoj (hst.at 2 rfl),trivial⟩
 ·refine wp_cond_split (hst.bool 1 rfl) (fun hc1=>?_) (fun hc1=>?_)
  ·replace H0:=Zo hc1 H0
   cases H0
  ·replace H0:=Zp hc1 H0
   refine wp_skip ?_
   exact ⟨g,rfl,(hst.pick [0,2] rfl),hb,H0⟩
theorem Zrm (a0:Int) {r:Int × Bool} (h:Zle a0=some r):FnOk Tryz.prog 133 [(pInt .u8 a0)] (pTup [(pInt .u8 r.1),(Z5 r.2)]):=by
 have H0:=h
 unfold Zle at H0
 clear h
 refine Zbs (N:=23) Tryz.func133 rfl rfl (Qe rfl) rfl rfl (fun a g0 hst hb=>?_)
 refine r_a [5] (L:=[(0,_)]) hst hb Za
  (a_p [] rfl (Zd rfl rfl c_i)<|a_p [] rfl (Zd rfl rfl c_b)<|a_n) (fun a g hst hb=>?_)
 refine wp_seq ?_
 refine wp_block ?_
 refine r_a [5,60] (L:=[(0,_)]) hst hb Za
  (Am 5 rfl<|a_p [0] rfl (Zhd rfl rfl u_0 c_i)<|Am 0 rfl<|a_g [0,5] (Qg_t rfl (fun hG=>Zq rfl rfl u_0))<|a_g [10,0] (Qg_t rfl (fun hG=>Zhg rfl rfl (Opd.gd hG u_0) c_i))<|a_p [20,0] rfl (Zbg rfl rfl u_0 (fun hz=>(Opd.gd hz u_1)))<|Aa 0 rfl<|a_n) (fun a g hst hb=>?_)
 refine wp_cond_split (hst.bool 1 rfl) (fun hc1=>?_) (fun hc1=>?_)
 ·replace H0:=Zo hc1 H0
  refine r_a [20,30] (L:=[(0,_)]) (hst.pick [0] rfl) hb Za
   (Am 5 rfl<|a_p [0] rfl (Zjw rfl rfl u_0 c_i rfl)<|Aa 0 rfl<|a_p [] rfl (Zd rfl rfl c_b)<|a_n) (fun a g hst hb=>?_)
  refine wp_ret ?_
  refine Zw ?_
  refine Zl ?_
  obtain rfl:=Option.some.inj H0
  exact Zdl rfl hst hb (Zg (s:=2)) (Zg (s:=3)) (Zch (hst.at 0 rfl) (hst.at 1 rfl))
 ·replace H0:=Zp hc1 H0
  refine r_a [5,60] (L:=[(0,_)]) (hst.pick [0] rfl) hb Za
   (Am 5 rfl<|a_p [0] rfl (Zhd rfl rfl u_0 c_i)<|Am 0 rfl<|a_g [0,5] (Qg_t rfl (fun hG=>Zq rfl rfl u_0))<|a_g [10,0] (Qg_t rfl (fun hG=>Zhg rfl rfl (Opd.gd hG u_0) c_i))<|a_p [20,0] rfl (Zbg rfl rfl u_0 (fun hz=>(Opd.gd hz u_1)))<|Aa 0 rfl<|a_n) (fun a g hst hb=>?_)
  refine wp_cond_split (hst.bool 1 rfl) (fun hc2=>?_) (fun hc2=>?_)
  ·replace H0:=Zo hc2 H0
   refine r_a [30,40] (L:=[(0,_)]) (hst.pick [0] rfl) hb Za
    (Am 5 rfl<|a_p [0] rfl (Zjw rfl rfl u_0 c_i rfl)<|a_p [0] rfl (Zb6 rfl rfl u_0 c_i rfl)<|Aa 0 rfl<|a_p [] rfl (Zd rfl rfl c_b)<|a_n) (fun a g hst hb=>?_)
   refine wp_ret ?_
   refine Zw ?_
   refine Zl ?_
   obtain rfl:=Option.some.inj H0
   exact Zdl rfl hst hb (Zg (s:=2)) (Zg (s:=3)) (Zch (hst.at 0 rfl) (hst.at 1 rfl))
  ·replace H0:=Zp hc2 H0
   refine wp_skip ?_
   refine Zba ?_
   refine Zm ?_
   refine r_a [0,10] (L:=[]) (hst.pick [] rfl) hb Za
    (a_p [] rfl (Zd rfl rfl c_i)<|a_p [] rfl (Zd rfl rfl c_b)<|a_n) (fun a g hst hb=>?_)
   refine wp_ret ?_
   obtain rfl:=Option.some.inj H0
   exact Zdl rfl hst hb (Zg (s:=2)) (Zg (s:=3)) (Zch (hst.at 0 rfl) (hst.at 1 rfl))
theorem Zxd (a0:ByteArray) {r:ByteArray × Bool} (h:Zl4 a0=some r):FnOk Tryz.prog 105 [(pStr a0)] (pTup [(pStr r.1),(Z5 r.2)]):=by
 have H0:=h
 unfold Zl4 at H0
 clear h
 refine Zbs (N:=82) Tryz.func105 rfl rfl (Qe rfl) rfl rfl (fun a g0 hst hb=>?_)
 refine r_a [5] (L:=[(0,_)]) hst hb Za
  (a_p [] rfl (Zd rfl rfl c_s)<|a_p [] rfl (Zd rfl rfl c_b)<|a_n) (fun a g hst hb=>?_)
 refine wp_seq ?_
 refine r_a [5,10] (L:=[(0,_)]) hst hb Za
  (Am 5 rfl<|a_p [0] rfl (Zir rfl rfl u_0 c_s)<|a_n) (fun a g hst hb=>?_)
 refine wp_cond_split (hst.bool 1 rfl) (fun hc1=>?_) (fun hc1=>?_)
 ·replace H0:=Zo hc1 H0
  refine r_a [0,10] (L:=[]) (hst.pick [] rfl) hb Za
   (a_p [] rfl (Zd rfl rfl c_s)<|a_p [] rfl (Zd rfl rfl c_b)<|a_n) (fun a g hst hb=>?_)
  refine wp_ret ?_
  refine Zl ?_
  obtain rfl:=Option.some.inj H0
  exact Zdl rfl hst hb (Zg (s:=2)) (Zg (s:=3)) (Zch (hst.at 0 rfl) (hst.at 1 rfl))
 ·replace H0:=Zp hc1 H0
  refine wp_skip ?_
  refine Zm ?_
  refine r_a [5,0] (L:=[(0,_)]) (hst.pick [0] rfl) hb Za
   (a_p (outs:=[(4,(pRow (Kd.int .u8) 5 4 ([]:List Int)))]) (S:=[]) [] rfl (Zd rfl rfl (Opd.c (fun g=>Zm7 4 g)))<|a_n) (fun a g hst hb=>?_)
  refine wp_seq ?_
  refine r_a [5,15,0] (L:=[(0,_),(4,_)]) hst hb Za
   (a_p [] rfl (Zd rfl rfl c_i)<|a_n) (fun a g hst hb=>?_)
  obtain ⟨z31,hz1,H0⟩:=Zc H0
  refine Zbp (fun a w=>∃ (y30:List Int) (g:G),w=g.w ∧ St 82 [(4,(pRow (Kd.int .u8) 5 4 y30))] a g ∧ Base g0 g ∧ (.inr y30)=z31) ?_ ?_
  ·rintro a w ⟨y30,g,rfl,hst,hb,rfl⟩
   refine Zm ?_
   refine r_a [50,60] (L:=[(4,_)]) hst hb Za
    (Am 5 rfl<|a_p [0] rfl (Zy1 Tryz.underlying62 Tryz.underlying5 Tryz.underlying9 rfl rfl (Opd.imp u_0 (fun _ _ h=>Zjs h)))<|Am 5 rfl<|a_p [0] rfl (Zcc Tryz.underlying62 rfl rfl (Opd.imp u_0 (fun _ _ h=>Zjs h)))<|a_p [0] rfl (Zcl rfl rfl u_0 c_i)<|Aa 30 rfl<|Aa 10 rfl<|a_n) (fun a g hst hb=>?_)
   refine wp_ret ?_
   obtain rfl:=Option.some.inj H0
   exact Zdl rfl hst hb (Zg (s:=2)) (Zg (s:=3)) (Zch (hst.at 0 rfl) (hst.at 1 rfl))
  ·refine wp_block ?_
   refine wp_loop_ghost (fun n a w=>∃ (x2:List Int) (x3:Int) (g:G),w=g.w ∧ St 82 [(0,(pStr a0)),(4,(pRow (Kd.int .u8) 5 4 x2)),(5,(pInt .i64 x3))] a g ∧ Base g0 g ∧ Zeh a0 n x2 x3=some z31) (Int.toNat ((a0.size:Int) - (0:Int)) + 1) ⟨([]:List Int),(0:Int),g,rfl,(hst.pick [0,1,2] rfl),hb,hz1⟩ (fun n a w hI=>?_)
   obtain ⟨x2,x3,g,rfl,hst,hb,H1⟩:=hI
   cases n with
   | zero=>exact absurd H1 (by simp [Zeh])
   | succ n =>
    rw [Zeh] at H1
    refine wp_seq ?_
    refine r_a [5,15,25,30] (L:=[(0,_),(4,_),(5,_)]) hst hb Za
     (Am 25 rfl<|Am 5 rfl<|a_p [0] rfl (Zdc Tryz.underlying9 rfl rfl u_0)<|a_p [20,0] rfl (Zco rfl rfl u_0 u_1)<|a_n) (fun a g hst hb=>?_)
    refine wp_cond_split (hst.bool 3 rfl) (fun hc4=>?_) (fun hc4=>?_)
    ·replace H1:=Zo hc4 H1
     refine wp_skip ?_
     refine Zm ?_
     refine wp_seq ?_
     refine Zbp (fun a w=>∃ (j28:List Int) (j29:Int) (g:G),w=g.w ∧ St 82 [(0,(pStr a0)),(4,(pRow (Kd.int .u8) 5 4 j28)),(5,(pInt .i64 j29))] a g ∧ Base g0 g ∧ Zio (Zeh a0 n) j28 j29=some z31) ?_ ?_
     ·rintro a w ⟨j28,j29,g,rfl,hst,hb,H1⟩
      unfold Zio at H1
      refine Zm ?_
      refine r_b [5,15,20] (L:=[(0,_),(4,_),(5,_)]) hst hb Za
       (Am 25 rfl<|a_p [0] rfl (Zb6 rfl rfl u_0 c_i rfl)<|Aa 0 rfl<|a_n) (fun a g hst hb=>?_)
      exact ⟨n,Nat.lt_succ_self _,j28,(IntKind.i64.wrap (j29 + (1:Int))),g,rfl,(hst.pick [0,1,2] rfl),hb,H1⟩
     ·refine wp_block ?_
      refine wp_seq ?_
      obtain ⟨b5,h6,H1⟩:=Zc H1;obtain ⟨r7,h8,H1⟩:=Zc H1
      refine r_a [5,15,25,30] (L:=[(0,_),(4,_),(5,_)]) (hst.pick [0,1,2] rfl) hb Za
       (Am 5 rfl<|Am 25 rfl<|a_p [10,0] rfl (Zcj Tryz.underlying9 rfl rfl u_0 u_1 h6)<|a_p [0] rfl (Zf Z4a (Zps _ h8) rfl rfl (.cons u_0 .nil))<|a_n) (fun a g hst hb=>?_)
      refine wp_cond_split (hst.bool 3 rfl) (fun hc9=>?_) (fun hc9=>?_)
      ·replace H1:=Zo hc9 H1
       obtain ⟨b10,h11,H1⟩:=Zc H1;obtain ⟨h12,H1⟩:=Zcm H1
       refine r_a [5,60,25] (L:=[(0,_),(4,_),(5,_)]) (hst.pick [0,1,2] rfl) hb Za
        (Am 15 rfl<|Am 5 rfl<|Am 25 rfl<|a_p [10,0] rfl (Zcj Tryz.underlying9 rfl rfl u_0 u_1 h11)<|a_p [0] rfl (Zfs Zmj (xs:=[.tmp 25]) (.cons u_0 .nil) (by decide) rfl rfl)<|a_p [40,0] rfl (Zdi Zmj rfl rfl u_0 u_1 h12)<|Aa 0 rfl<|a_n) (fun a g hst hb=>?_)
       refine wp_exit ?_
       refine Zbw ?_
       refine Zb4 ?_
       exact ⟨(x2 ++ ([b10]:List Int)),x3,g,rfl,(hst.pick [0,1,2] rfl),hb,H1⟩
      ·replace H1:=Zp hc9 H1
       refine wp_skip ?_
       refine Zm ?_
       refine wp_seq ?_
       obtain ⟨b13,h14,H1⟩:=Zc H1
       refine r_a [5,15,25,100] (L:=[(0,_),(4,_),(5,_)]) (hst.pick [0,1,2] rfl) hb Za
        (Am 5 rfl<|Am 25 rfl<|a_p [10,0] rfl (Zcj Tryz.underlying9 rfl rfl u_0 u_1 h14)<|a_p [0] rfl (Zcw rfl rfl u_0 c_i)<|Am 0 rfl<|a_g [0,25] (Qg_f rfl (fun hG=>Zq rfl rfl u_0))<|a_g [10,0] (Qg_f rfl (fun hG=>Zb6 rfl rfl (Opd.gd hG u_0) c_i rfl))<|a_g [20,5] (Qg_f rfl (fun hG=>Zq rfl rfl u_0))<|a_g [30,0] (Qg_f rfl (fun hG=>Zdc Tryz.underlying9 rfl rfl (Opd.gd hG u_0)))<|a_g [40,20,0] (Qg_f rfl (fun hG=>Zhd rfl rfl (Opd.gd hG u_0) (Opd.gd hG u_1)))<|a_p [50,0] rfl (Zbh rfl rfl u_0 (fun hz=>(Opd.gd (bNF hz) u_1)))<|a_n) (fun a g hst hb=>?_)
       refine wp_cond_split (hst.bool 3 rfl) (fun hc15=>?_) (fun hc15=>?_)
       ·replace H1:=Zo hc15 H1
        refine r_a [0,10] (L:=[]) (hst.pick [] rfl) hb Za
         (a_p [] rfl (Zd rfl rfl c_s)<|a_p [] rfl (Zd rfl rfl c_b)<|a_n) (fun a g hst hb=>?_)
        refine wp_ret ?_
        refine Zl ?_
        refine Zw ?_
        refine Zl ?_
        refine Zl ?_
        refine Zl ?_
        refine Zw ?_
        refine Zl ?_
        refine Zl ?_
        obtain rfl:=Option.some.inj H1
        obtain rfl:=Option.some.inj H0
        exact Zdl rfl hst hb (Zg (s:=2)) (Zg (s:=3)) (Zch (hst.at 0 rfl) (hst.at 1 rfl))
       ·replace H1:=Zp hc15 H1
        refine wp_skip ?_
        refine Zm ?_
        obtain ⟨b16,h17,H1⟩:=Zc H1;obtain ⟨r18,h19,H1⟩:=Zc H1
        refine r_a [5,15,25,80,90] (L:=[(0,_),(4,_),(5,_)]) (hst.pick [0,1,2] rfl) hb Za
         (Am 5 rfl<|Am 25 rfl<|a_p [0] rfl (Zb6 rfl rfl u_0 c_i rfl)<|a_p [20,0] rfl (Zcj Tryz.underlying9 rfl rfl u_0 u_1 h17)<|a_p [0] rfl (Zf Z16 (Zrm _ h19) rfl rfl (.cons u_0 .nil))<|Am 0 rfl<|a_p [0] rfl (Zz rfl rfl u_0 rfl)<|a_p [10] rfl (Zz rfl rfl u_0 rfl)<|Aa 10 rfl<|Aa 10 rfl<|a_n) (fun a g hst hb=>?_)
        obtain ⟨b20,h21,H1⟩:=Zc H1;obtain ⟨r22,h23,H1⟩:=Zc H1
        refine r_a [5,15,25,35,45,80,90] (L:=[(0,_),(4,_),(5,_),(6,_),(7,_)]) hst hb Za
         (Am 5 rfl<|Am 25 rfl<|a_p [0] rfl (Zb6 rfl rfl u_0 c_i rfl)<|a_p [20,0] rfl (Zcj Tryz.underlying9 rfl rfl u_0 u_1 h21)<|a_p [0] rfl (Zf Z16 (Zrm _ h23) rfl rfl (.cons u_0 .nil))<|Am 0 rfl<|a_p [0] rfl (Zz rfl rfl u_0 rfl)<|a_p [10] rfl (Zz rfl rfl u_0 rfl)<|Aa 10 rfl<|Aa 10 rfl<|a_n) (fun a g hst hb=>?_)
        refine wp_seq ?_
        obtain ⟨r24,h25,H1⟩:=Zc H1
        refine r_a [5,15,25,35,55,120] (L:=[(0,_),(4,_),(5,_),(6,_),(7,_),(8,_),(9,_)]) hst hb Za
         (Am 45 rfl<|a_p [0] rfl (Zcg rfl rfl u_0)<|Am 0 rfl<|a_g [0,65] (Qg_f rfl (fun hG=>Zq rfl rfl u_0))<|a_g [10,0] (Qg_f rfl (fun hG=>Zcg rfl rfl (Opd.gd hG u_0)))<|a_p [20,0] rfl (Zbh rfl rfl u_0 (fun hz=>(Opd.gd (bNF hz) u_1)))<|Am 0 rfl<|a_g [0,35] (Qg_f rfl (fun hG=>Zq rfl rfl u_0))<|a_g [10,0] (Qg_f rfl (fun hG=>Zwx rfl rfl (Opd.gd hG u_0) c_i (by decide) rfl))<|a_g [20,55] (Qg_f rfl (fun hG=>Zq rfl rfl u_0))<|a_g [30,10,0] (Qg_f rfl (fun hG=>Zvt rfl rfl (Opd.gd hG u_0) (Opd.gd hG u_1)))<|a_g [40,0] (Qg_f rfl (fun hG=>Zf Z4a (Zps _ (Zbe h25 hG)) rfl rfl (.cons (Opd.gd hG u_0) .nil)))<|a_p [50,0] rfl (Zbh rfl rfl u_0 (fun hz=>(Opd.gd (bNF hz) u_1)))<|a_n) (fun a g hst hb=>?_)
        refine wp_cond_split (hst.bool 5 rfl) (fun hc26=>?_) (fun hc26=>?_)
        ·replace H1:=Zo hc26 H1
         refine r_a [0,10] (L:=[]) (hst.pick [] rfl) hb Za
          (a_p [] rfl (Zd rfl rfl c_s)<|a_p [] rfl (Zd rfl rfl c_b)<|a_n) (fun a g hst hb=>?_)
         refine wp_ret ?_
         refine Zl ?_
         refine Zw ?_
         refine Zl ?_
         refine Zl ?_
         refine Zl ?_
         refine Zw ?_
         refine Zl ?_
         refine Zl ?_
         obtain rfl:=Option.some.inj H1
         obtain rfl:=Option.some.inj H0
         exact Zdl rfl hst hb (Zg (s:=2)) (Zg (s:=3)) (Zch (hst.at 0 rfl) (hst.at 1 rfl))
        ·replace H1:=Zp hc26 H1
         refine wp_skip ?_
         refine Zm ?_
         obtain ⟨h27,H1⟩:=Zcm H1
         refine r_a [5,70,25] (L:=[(0,_),(4,_),(5,_),(6,_),(8,_)]) (hst.pick [0,1,2,3,4] rfl) hb Za
          (Am 15 rfl<|Am 35 rfl<|a_p [0] rfl (Zwx rfl rfl u_0 c_i (by decide) rfl)<|Am 45 rfl<|a_p [10,0] rfl (Zvt rfl rfl u_0 u_1)<|a_p [0] rfl (Zfs Zmj (xs:=[.tmp 72]) (.cons u_0 .nil) (by decide) rfl rfl)<|a_p [50,0] rfl (Zdi Zmj rfl rfl u_0 u_1 h27)<|Aa 0 rfl<|a_n) (fun a g hst hb=>?_)
         refine r_b [5,15,20] (L:=[(0,_),(4,_),(5,_)]) hst hb Za
          (Am 25 rfl<|a_p [0] rfl (Zb6 rfl rfl u_0 c_i rfl)<|Aa 0 rfl<|a_n) (fun a g hst hb=>?_)
         refine Zba ?_
         exact ⟨(x2 ++ ([(bOr .u8 (IntKind.u8.wrap (r18.1 * 2 ^ 4)) r22.1)]:List Int)),(IntKind.i64.wrap (x3 + (2:Int))),g,rfl,(hst.pick [0,1,2] rfl),hb,H1⟩
    ·replace H1:=Zp hc4 H1
     refine wp_exit ?_
     refine Zbw ?_
     refine Zbw ?_
     refine Zb4 ?_
     exact ⟨x2,g,rfl,(hst.pick [1] rfl),hb,Option.some.inj H1⟩
theorem Zh4 (a0:Z0) {r:ByteArray × Z0} (h:Zet a0=some r):FnB Tryz.prog 67 [.box Z8 a0 r.2] (pStr r.1):=by
 have H0:=h
 unfold Zet at H0
 clear h
 refine Zok (N:=16) Tryz.func67 rfl rfl (Qe rfl) rfl rfl (fun a g0 bs hbs hst hb=>?_)
 obtain ⟨b0,rfl⟩:=Zqq hbs
 replace hst:St 16 [(0,(Zbf (some b0) Z8 0 a0))] _ _:=hst
 replace hst:St 16 [(0,(pEq (ptrB b0 0))),(1002,(pRB Z8 0 b0 a0))] _ _:=Zl3 hst
 refine r_a [5,15] (L:=[(0,_),(1002,_)]) hst hb Za
  (a_p [] rfl (Zd rfl rfl c_s)<|a_n) (fun a g hst hb=>?_)
 obtain ⟨r1,h2,H0⟩:=Zc H0;obtain ⟨r3,h4,H0⟩:=Zc H0
 refine r_a [5,60,70,11] (L:=[(0,_),(1002,_)]) hst hb Za
  (Am 5 rfl<|a_p [0,15] rfl (Zd3 (m:=1002) (A:=[]) Zss (Zf9 _ h2) rfl rfl rfl (by decide) u_1 u_0 .nil)<|a_p [0] rfl (Zf Z6w (Zxd _ h4) rfl rfl (.cons u_0 .nil))<|Am 0 rfl<|a_p [0] rfl (Zz rfl rfl u_0 rfl)<|a_p [10] rfl (Zz rfl rfl u_0 rfl)<|Aa 10 rfl<|Aa 10 rfl<|a_n) (fun a g hst hb=>?_)
 refine wp_seq ?_
 refine r_a [5,15,10,35] (L:=[(0,_),(3,_),(4,_),(1002,_)]) hst hb Za
  (Am 25 rfl<|a_p [0] rfl (Zcg rfl rfl u_0)<|a_n) (fun a g hst hb=>?_)
 refine Zbp (fun a w=>∃ (g:G),w=g.w ∧ St 16 [(0,(pEq (ptrB b0 0))),(3,(pStr r3.1)),(1002,(pRB Z8 0 b0 r1.2))] a g ∧ Base g0 g ∧ Zhz r1 r3=some r) ?_ ?_
 ·rintro a w ⟨g,rfl,hst,hb,H0⟩
  unfold Zhz at H0
  refine Zm ?_
  refine r_a [5,10,25] (L:=[(0,_),(3,_),(1002,_)]) hst hb Za
   (Am 15 rfl<|Aa 0 rfl<|a_n) (fun a g hst hb=>?_)
  refine wp_ret ?_
  obtain rfl:=Option.some.inj H0
  exact Zsr rfl hst hb (Zg (s:=2)) (hst.at 1 rfl) ⟨Zoj (hst.at 2 rfl),trivial⟩
 ·refine wp_cond_split (hst.bool 2 rfl) (fun hc5=>?_) (fun hc5=>?_)
  ·replace H0:=Zo hc5 H0
   cases H0
  ·replace H0:=Zp hc5 H0
   refine wp_skip ?_
   exact ⟨g,rfl,(hst.pick [0,1,3] rfl),hb,H0⟩
theorem Zpz (a0:ByteArray) (a1:Int) (a2:Int) {r:Int × Unit} (h:Zi3 a0 a1 a2=some r):FnOk Tryz.prog 106 [(pStr a0),(pInt .i64 a1),(pInt .i64 a2)] (pTup [(pInt .i64 r.1),(pEq .nilIface)]):=by
 unfold Zi3 at h
 split at h
 ·rename_i hc
  obtain ⟨rfl,rfl,h1⟩:=hc
  split at h
  ·rename_i v hv
   obtain rfl:=Option.some.inj h
   refine Zh9 fun g args ha=>?_
   obtain ⟨v1,v2,v3,rfl,q1,q2,q3⟩:=Z3v ha
   obtain rfl:=Zcz.1 q1
   obtain rfl:=Zc9.1 q2
   obtain rfl:=Zc9.1 q3
   refine ⟨_,fun g'=>tup2 (Zc9.2 rfl) rfl,(Any.strconv_ParseInt_10_at64_ok Tryz.laysC174 a0 h1 v hv g.w).mono ?_⟩
   rintro e w' ⟨rfl,rfl | ⟨t,rfl⟩⟩
   ·exact ⟨rfl,Below.refl _ _⟩
   ·exact ⟨rfl,Lib.bytesWorld_below _ _ _⟩
  ·cases h
 ·cases h
theorem Zfn (a0:Z0) {r:Int × Z0} (h:Zd2 a0=some r):FnB Tryz.prog 68 [.box Z8 a0 r.2] (pInt .i64 r.1):=by
 have H0:=h
 unfold Zd2 at H0
 clear h
 refine Zok (N:=24) Tryz.func68 rfl rfl (Qe rfl) rfl rfl (fun a g0 bs hbs hst hb=>?_)
 obtain ⟨b0,rfl⟩:=Zqq hbs
 replace hst:St 24 [(0,(Zbf (some b0) Z8 0 a0))] _ _:=hst
 replace hst:St 24 [(0,(pEq (ptrB b0 0))),(1002,(pRB Z8 0 b0 a0))] _ _:=Zl3 hst
 refine r_a [5,15] (L:=[(0,_),(1002,_)]) hst hb Za
  (a_p [] rfl (Zd rfl rfl c_i)<|a_n) (fun a g hst hb=>?_)
 obtain ⟨r1,h2,H0⟩:=Zc H0
 refine r_a [5,20,11] (L:=[(0,_),(1002,_)]) hst hb Za
  (Am 5 rfl<|a_p [0,15] rfl (Zd3 (m:=1002) (A:=[]) Zss (Zf9 _ h2) rfl rfl rfl (by decide) u_1 u_0 .nil)<|Aa 0 rfl<|a_n) (fun a g hst hb=>?_)
 obtain ⟨r3,h4,H0⟩:=Zc H0
 refine r_a [5,15,50,60,25] (L:=[(0,_),(3,_),(1002,_)]) hst hb Za
  (Am 15 rfl<|a_p [0] rfl (Zf Z6x (Zpz _ _ _ h4) rfl rfl (.cons u_0 (.cons c_i (.cons c_i .nil))))<|Am 0 rfl<|a_p [0] rfl (Zz rfl rfl u_0 rfl)<|a_p [10] rfl (Zz rfl rfl u_0 rfl)<|Aa 10 rfl<|Aa 10 rfl<|a_n) (fun a g hst hb=>?_)
 refine wp_seq ?_
 obtain ⟨r5,h6,H0⟩:=Zc H0
 refine r_a [5,25,70,45] (L:=[(0,_),(3,_),(4,_),(5,_),(1002,_)]) hst hb Za
  (Am 35 rfl<|a_p [0] rfl (Zr9 (by kernel_rfl) rfl rfl u_0)<|Am 0 rfl<|a_g [0,25] (Qg_f rfl (fun hG=>Zq rfl rfl u_0))<|a_g [10,0] (Qg_f rfl (fun hG=>Zf en_5 (Zgu _ (Zbe h6 hG)) rfl rfl (.cons (Opd.gd hG u_0) .nil)))<|a_g [20,15] (Qg_f rfl (fun hG=>Zq rfl rfl u_0))<|a_g [30,10,0] (Qg_f rfl (fun hG=>Zkl rfl rfl (Opd.gd hG u_0) (Opd.gd hG u_1)))<|a_p [40,0] rfl (Zbh rfl rfl u_0 (fun hz=>(Opd.gd (bNF hz) u_1)))<|a_n) (fun a g hst hb=>?_)
 refine Zbp (fun a w=>∃ (g:G),w=g.w ∧ St 24 [(0,(pEq (ptrB b0 0))),(4,(pInt .i64 r3.1)),(1002,(pRB Z8 0 b0 r1.2))] a g ∧ Base g0 g ∧ Zig r1 r3=some r) ?_ ?_
 ·rintro a w ⟨g,rfl,hst,hb,H0⟩
  unfold Zig at H0
  refine Zm ?_
  refine r_a [5,10,25] (L:=[(0,_),(4,_),(1002,_)]) hst hb Za
   (Am 15 rfl<|Aa 0 rfl<|a_n) (fun a g hst hb=>?_)
  refine wp_ret ?_
  obtain rfl:=Option.some.inj H0
  exact Zsr rfl hst hb (Zg (s:=2)) (hst.at 1 rfl) ⟨Zoj (hst.at 2 rfl),trivial⟩
 ·refine wp_cond_split (hst.bool 2 rfl) (fun hc7=>?_) (fun hc7=>?_)
  ·replace H0:=Zo hc7 H0
   cases H0
  ·replace H0:=Zp hc7 H0
   refine wp_skip ?_
   exact ⟨g,rfl,(hst.pick [0,1,3] rfl),hb,H0⟩
theorem Zct (a0:Int) {r:Int} (h:Zci a0=some r):FnOk Tryz.prog 170 [(pInt .u8 a0)] (pInt .u8 r):=by
 have H0:=h
 unfold Zci at H0
 clear h
 refine Zbs (N:=5) Tryz.func170 rfl rfl (Qe rfl) rfl rfl (fun a g0 hst hb=>?_)
 refine r_a [5] (L:=[(0,_)]) hst hb Za
  (a_p [] rfl (Zd rfl rfl c_i)<|a_n) (fun a g hst hb=>?_)
 refine r_a [20] (L:=[(0,_)]) hst hb Za
  (Am 5 rfl<|a_p [0] rfl (Zvt rfl rfl u_0 c_i)<|Aa 0 rfl<|a_n) (fun a g hst hb=>?_)
 refine wp_ret ?_
 obtain rfl:=Option.some.inj H0
 exact Z2 rfl hst hb (Zg (s:=2)) (hst.at 0 rfl)
theorem Zmz (a0:ByteArray) {r:Bool} (h:Zis a0=some r):FnOk Tryz.prog 171 [(pStr a0)] (Z5 r):=by
 have H0:=h
 unfold Zis at H0
 clear h
 refine Zbs (N:=94) Tryz.func171 rfl rfl (Qe rfl) rfl rfl (fun a g0 hst hb=>?_)
 refine r_a [5] (L:=[(0,_)]) hst hb Za
  (a_p [] rfl (Zd rfl rfl c_b)<|a_n) (fun a g hst hb=>?_)
 refine r_a [5,0] (L:=[(0,_)]) hst hb Za
  (a_p [] rfl (Zd rfl rfl c_i)<|a_n) (fun a g hst hb=>?_)
 refine r_a [5,15,0] (L:=[(0,_),(3,_)]) hst hb Za
  (a_p [] rfl (Zd rfl rfl c_i)<|a_n) (fun a g hst hb=>?_)
 refine wp_seq ?_
 obtain ⟨b1,h2,H0⟩:=Zc H0;obtain ⟨b3,h4,H0⟩:=Zc H0
 refine r_a [5,15,25,120] (L:=[(0,_),(3,_),(4,_)]) hst hb Za
  (Am 5 rfl<|a_p [0] rfl (Zdc Tryz.underlying9 rfl rfl u_0)<|a_p [0] rfl (Zhd rfl rfl u_0 c_i)<|Am 0 rfl<|a_g [0,5] (Qg_t rfl (fun hG=>Zq rfl rfl u_0))<|a_g [10,0] (Qg_t rfl (fun hG=>Zcj Tryz.underlying9 rfl rfl (Opd.gd hG u_0) c_i (Zbe h2 hG)))<|a_g [20,0] (Qg_t rfl (fun hG=>Zbk rfl rfl (Opd.gd hG u_0) c_i))<|a_g [30,0] (Qg_t rfl (fun hG=>Zq rfl rfl (Opd.gd hG u_0)))<|a_g [0,5] (Qg_fi rfl (fun hG=>Zq rfl rfl u_0))<|a_g [10,0] (Qg_fi rfl (fun hG=>Zcj Tryz.underlying9 rfl rfl (Opd.gd hG u_0) c_i (Zbe h4 hG)))<|a_g [20,0] (Qg_fi rfl (fun hG=>Zbk rfl rfl (Opd.gd hG u_0) c_i))<|a_g [70,30,0] (Qg_t rfl (fun hG=>Zbh rfl rfl (Opd.gd hG u_0) (fun hz=>(Opd.gd (bA hG (bNF hz)) u_1))))<|a_p [80,0] rfl (Zbg rfl rfl u_0 (fun hz=>(Opd.gd hz u_1)))<|a_n) (fun a g hst hb=>?_)
 refine Zbp (fun a w=>∃ (g:G),w=g.w ∧ St 94 [(0,(pStr a0)),(3,(pInt .i32 (94:Int))),(4,(pInt .i64 (0:Int)))] a g ∧ Base g0 g ∧ Zg4 a0=some r) ?_ ?_
 ·rintro a w ⟨g,rfl,hst,hb,H0⟩
  unfold Zg4 at H0
  refine Zm ?_
  refine r_a [5,15,25,0] (L:=[(0,_),(3,_),(4,_)]) hst hb Za
   (a_p [] rfl (Zd rfl rfl c_b)<|a_n) (fun a g hst hb=>?_)
  refine wp_seq ?_
  obtain ⟨b6,h7,H0⟩:=Zc H0;obtain ⟨b8,h9,H0⟩:=Zc H0;obtain ⟨r10,h11,H0⟩:=Zc H0;obtain ⟨b12,h13,H0⟩:=Zc H0;obtain ⟨r14,h15,H0⟩:=Zc H0;obtain ⟨b16,h17,H0⟩:=Zc H0;obtain ⟨r18,h19,H0⟩:=Zc H0
  refine r_a [5,15,25,35,250] (L:=[(0,_),(3,_),(4,_),(5,_)]) hst hb Za
   (Am 5 rfl<|a_p [0] rfl (Zdc Tryz.underlying9 rfl rfl u_0)<|a_p [0] rfl (Zhd rfl rfl u_0 c_i)<|Am 0 rfl<|a_g [0,5] (Qg_t rfl (fun hG=>Zq rfl rfl u_0))<|a_g [10,0] (Qg_t rfl (fun hG=>Zcj Tryz.underlying9 rfl rfl (Opd.gd hG u_0) c_i (Zbe h7 hG)))<|a_g [20,0] (Qg_t rfl (fun hG=>Zbk rfl rfl (Opd.gd hG u_0) c_i))<|a_p [30,0] rfl (Zbg rfl rfl u_0 (fun hz=>(Opd.gd hz u_1)))<|Am 0 rfl<|a_g [0,5] (Qg_t rfl (fun hG=>Zq rfl rfl u_0))<|a_g [10,0] (Qg_t rfl (fun hG=>Zcj Tryz.underlying9 rfl rfl (Opd.gd hG u_0) c_i (Zbe h9 hG)))<|a_g [20,0] (Qg_t rfl (fun hG=>Zf Zi4 (Zct _ (Zbe h11 hG)) rfl rfl (.cons (Opd.gd hG u_0) .nil)))<|a_g [30,0] (Qg_t rfl (fun hG=>Zbk rfl rfl (Opd.gd hG u_0) c_i))<|a_g [40,0] (Qg_t rfl (fun hG=>Zq rfl rfl (Opd.gd hG u_0)))<|a_g [0,5] (Qg_fi rfl (fun hG=>Zq rfl rfl u_0))<|a_g [10,0] (Qg_fi rfl (fun hG=>Zcj Tryz.underlying9 rfl rfl (Opd.gd hG u_0) c_i (Zbe h13 hG)))<|a_g [20,0] (Qg_fi rfl (fun hG=>Zf Zi4 (Zct _ (Zbe h15 hG)) rfl rfl (.cons (Opd.gd hG u_0) .nil)))<|a_g [30,0] (Qg_fi rfl (fun hG=>Zbk rfl rfl (Opd.gd hG u_0) c_i))<|a_g [90,40,0] (Qg_t rfl (fun hG=>Zbh rfl rfl (Opd.gd hG u_0) (fun hz=>(Opd.gd (bA hG (bNF hz)) u_1))))<|a_g [100,0] (Qg_t rfl (fun hG=>Zq rfl rfl (Opd.gd hG u_0)))<|a_g [0,5] (Qg_fi rfl (fun hG=>Zq rfl rfl u_0))<|a_g [10,0] (Qg_fi rfl (fun hG=>Zcj Tryz.underlying9 rfl rfl (Opd.gd hG u_0) c_i (Zbe h17 hG)))<|a_g [20,0] (Qg_fi rfl (fun hG=>Zf Zi4 (Zct _ (Zbe h19 hG)) rfl rfl (.cons (Opd.gd hG u_0) .nil)))<|a_g [30,0] (Qg_fi rfl (fun hG=>Zbk rfl rfl (Opd.gd hG u_0) c_i))<|a_g [150,40,0] (Qg_t rfl (fun hG=>Zbh rfl rfl (Opd.gd hG u_0) (fun hz=>(Opd.gd (bA hG (bNF hz)) u_1))))<|a_p [160,0] rfl (Zbg rfl rfl u_0 (fun hz=>(Opd.gd hz u_1)))<|a_n) (fun a g hst hb=>?_)
  refine Zbp (fun a w=>∃ (j25:Int) (j26:Int) (j27:Bool) (g:G),w=g.w ∧ St 94 [(0,(pStr a0)),(3,(pInt .i32 j25)),(4,(pInt .i64 j26)),(5,(Z5 j27))] a g ∧ Base g0 g ∧ Zfk a0 j25 j26 j27=some r) ?_ ?_
  ·rintro a w ⟨j25,j26,j27,g,rfl,hst,hb,H0⟩
   unfold Zfk at H0
   refine Zm ?_
   obtain ⟨z51,hz1,H0⟩:=Zc H0
   refine wp_seq ?_
   refine Zbp (fun a w=>∃ (y50:Int) (g:G),w=g.w ∧ St 94 [(3,(pInt .i32 y50))] a g ∧ Base g0 g ∧ (.inr y50)=z51) ?_ ?_
   ·rintro a w ⟨y50,g,rfl,hst,hb,rfl⟩
    refine Zm ?_
    refine r_a [20] (L:=[(3,_)]) hst hb Za
     (Am 5 rfl<|a_p [0] rfl (Zcw rfl rfl u_0 c_i)<|Aa 0 rfl<|a_n) (fun a g hst hb=>?_)
    refine wp_ret ?_
    obtain rfl:=Option.some.inj H0
    exact Z2 rfl hst hb (Zg (s:=2)) (hst.at 0 rfl)
   ·refine wp_block ?_
    refine wp_loop_ghost (fun n a w=>∃ (x28:Int) (x29:Int) (g:G),w=g.w ∧ St 94 [(0,(pStr a0)),(3,(pInt .i32 x28)),(4,(pInt .i64 x29)),(5,(Z5 j27))] a g ∧ Base g0 g ∧ Zcu a0 j27 n x28 x29=some z51) (Int.toNat ((a0.size:Int) - j26) + 1) ⟨j25,j26,g,rfl,(hst.pick [0,1,2,3] rfl),hb,hz1⟩ (fun n a w hI=>?_)
    obtain ⟨x28,x29,g,rfl,hst,hb,H1⟩:=hI
    cases n with
    | zero=>exact absurd H1 (by simp [Zcu])
    | succ n =>
     rw [Zcu] at H1
     refine wp_seq ?_
     refine r_a [5,15,25,35,30] (L:=[(0,_),(3,_),(4,_),(5,_)]) hst hb Za
      (Am 25 rfl<|Am 5 rfl<|a_p [0] rfl (Zdc Tryz.underlying9 rfl rfl u_0)<|a_p [20,0] rfl (Zco rfl rfl u_0 u_1)<|a_n) (fun a g hst hb=>?_)
     refine wp_cond_split (hst.bool 4 rfl) (fun hc30=>?_) (fun hc30=>?_)
     ·replace H1:=Zo hc30 H1
      refine wp_skip ?_
      refine Zm ?_
      refine wp_seq ?_
      refine Zbp (fun a w=>∃ (j49:Int) (g:G),w=g.w ∧ St 94 [(0,(pStr a0)),(3,(pInt .i32 j49)),(4,(pInt .i64 x29)),(5,(Z5 j27))] a g ∧ Base g0 g ∧ Zel x29 (Zcu a0 j27 n) j49=some z51) ?_ ?_
      ·rintro a w ⟨j49,g,rfl,hst,hb,H1⟩
       unfold Zel at H1
       refine Zm ?_
       refine r_b [5,15,20,35] (L:=[(0,_),(3,_),(4,_),(5,_)]) hst hb Za
        (Am 25 rfl<|a_p [0] rfl (Zb6 rfl rfl u_0 c_i rfl)<|Aa 0 rfl<|a_n) (fun a g hst hb=>?_)
       exact ⟨n,Nat.lt_succ_self _,j49,(IntKind.i64.wrap (x29 + (1:Int))),g,rfl,(hst.pick [0,1,2,3] rfl),hb,H1⟩
      ·refine wp_block ?_
       refine wp_seq ?_
       obtain ⟨b31,h32,H1⟩:=Zc H1;obtain ⟨b33,h34,H1⟩:=Zc H1;obtain ⟨b35,h36,H1⟩:=Zc H1;obtain ⟨r37,h38,H1⟩:=Zc H1;obtain ⟨b39,h40,H1⟩:=Zc H1;obtain ⟨r41,h42,H1⟩:=Zc H1
       refine r_a [5,15,25,35,260] (L:=[(0,_),(3,_),(4,_),(5,_)]) (hst.pick [0,1,2,3] rfl) hb Za
        (Am 5 rfl<|Am 25 rfl<|a_p [10,0] rfl (Zcj Tryz.underlying9 rfl rfl u_0 u_1 h32)<|a_p [0] rfl (Zhg rfl rfl c_i u_0)<|Am 0 rfl<|a_g [0,5] (Qg_t rfl (fun hG=>Zq rfl rfl u_0))<|a_g [10,25] (Qg_t rfl (fun hG=>Zq rfl rfl u_0))<|a_g [20,10,0] (Qg_t rfl (fun hG=>Zcj Tryz.underlying9 rfl rfl (Opd.gd hG u_0) (Opd.gd hG u_1) (Zbe h34 hG)))<|a_g [30,0] (Qg_t rfl (fun hG=>Zhg rfl rfl (Opd.gd hG u_0) c_i))<|a_p [40,0] rfl (Zbg rfl rfl u_0 (fun hz=>(Opd.gd hz u_1)))<|Am 0 rfl<|a_g [0,35] (Qg_f rfl (fun hG=>Zq rfl rfl u_0))<|a_g [10,0] (Qg_f rfl (fun hG=>Zq rfl rfl (Opd.gd hG u_0)))<|a_g [0,5] (Qg_ti rfl (fun hG=>Zq rfl rfl u_0))<|a_g [10,25] (Qg_ti rfl (fun hG=>Zq rfl rfl u_0))<|a_g [20,10,0] (Qg_ti rfl (fun hG=>Zcj Tryz.underlying9 rfl rfl (Opd.gd hG u_0) (Opd.gd hG u_1) (Zbe h36 hG)))<|a_g [30,0] (Qg_ti rfl (fun hG=>Zf Zi4 (Zct _ (Zbe h38 hG)) rfl rfl (.cons (Opd.gd hG u_0) .nil)))<|a_g [40,0] (Qg_ti rfl (fun hG=>Zhg rfl rfl c_i (Opd.gd hG u_0)))<|a_g [70,50,0] (Qg_f rfl (fun hG=>Zbg rfl rfl (Opd.gd hG u_0) (fun hz=>(Opd.gd (bA hG hz) u_1))))<|a_g [80,0] (Qg_f rfl (fun hG=>Zq rfl rfl (Opd.gd hG u_0)))<|a_g [0,5] (Qg_ti rfl (fun hG=>Zq rfl rfl u_0))<|a_g [10,25] (Qg_ti rfl (fun hG=>Zq rfl rfl u_0))<|a_g [20,10,0] (Qg_ti rfl (fun hG=>Zcj Tryz.underlying9 rfl rfl (Opd.gd hG u_0) (Opd.gd hG u_1) (Zbe h40 hG)))<|a_g [30,0] (Qg_ti rfl (fun hG=>Zf Zi4 (Zct _ (Zbe h42 hG)) rfl rfl (.cons (Opd.gd hG u_0) .nil)))<|a_g [40,0] (Qg_ti rfl (fun hG=>Zhg rfl rfl (Opd.gd hG u_0) c_i))<|a_g [140,50,0] (Qg_f rfl (fun hG=>Zbg rfl rfl (Opd.gd hG u_0) (fun hz=>(Opd.gd (bA hG hz) u_1))))<|a_p [150,0] rfl (Zbh rfl rfl u_0 (fun hz=>(Opd.gd (bNF hz) u_1)))<|a_n) (fun a g hst hb=>?_)
       refine wp_cond_split (hst.bool 4 rfl) (fun hc43=>?_) (fun hc43=>?_)
       ·replace H1:=Zo hc43 H1
        refine r_a [5,0,15,25] (L:=[(0,_),(4,_),(5,_)]) (hst.pick [0,2,3] rfl) hb Za
         (a_p [] rfl (Zd rfl rfl c_i)<|a_n) (fun a g hst hb=>?_)
        refine wp_exit ?_
        refine Zbw ?_
        refine Zb4 ?_
        exact ⟨(48:Int),g,rfl,(hst.pick [0,1,2,3] rfl),hb,H1⟩
       ·replace H1:=Zp hc43 H1
        refine wp_skip ?_
        refine Zm ?_
        refine wp_seq ?_
        obtain ⟨b44,h45,H1⟩:=Zc H1
        refine r_a [5,15,25,35,30] (L:=[(0,_),(3,_),(4,_),(5,_)]) (hst.pick [0,1,2,3] rfl) hb Za
         (Am 5 rfl<|Am 25 rfl<|a_p [10,0] rfl (Zcj Tryz.underlying9 rfl rfl u_0 u_1 h45)<|a_p [0] rfl (Zbk rfl rfl u_0 c_i)<|a_n) (fun a g hst hb=>?_)
        refine wp_cond_split (hst.bool 4 rfl) (fun hc46=>?_) (fun hc46=>?_)
        ·replace H1:=Zo hc46 H1
         refine wp_seq ?_
         refine r_a [5,25,35,10] (L:=[(0,_),(3,_),(4,_),(5,_)]) (hst.pick [0,1,2,3] rfl) hb Za
          (Am 15 rfl<|a_p [0] rfl (Zcw rfl rfl u_0 c_i)<|a_n) (fun a g hst hb=>?_)
         refine wp_cond_split (hst.bool 3 rfl) (fun hc47=>?_) (fun hc47=>?_)
         ·replace H1:=Zo hc47 H1
          refine r_a [0] (L:=[]) (hst.pick [] rfl) hb Za
           (a_p [] rfl (Zd rfl rfl c_b)<|a_n) (fun a g hst hb=>?_)
          refine wp_ret ?_
          refine Zl ?_
          refine Zl ?_
          refine Zw ?_
          refine Zl ?_
          refine Zl ?_
          refine Zl ?_
          refine Zw ?_
          refine Zl ?_
          refine Zl ?_
          obtain rfl:=Option.some.inj H1
          obtain rfl:=Option.some.inj H0
          exact Z2 rfl hst hb (Zg (s:=2)) (hst.at 0 rfl)
         ·replace H1:=Zp hc47 H1
          refine wp_skip ?_
          refine Zm ?_
          refine r_a [5,0,15,25] (L:=[(0,_),(4,_),(5,_)]) (hst.pick [0,1,2] rfl) hb Za
           (a_p [] rfl (Zd rfl rfl c_i)<|a_n) (fun a g hst hb=>?_)
          refine wp_exit ?_
          refine Zbw ?_
          refine Zb4 ?_
          exact ⟨(95:Int),g,rfl,(hst.pick [0,1,2,3] rfl),hb,H1⟩
        ·replace H1:=Zp hc46 H1
         refine wp_skip ?_
         refine Zm ?_
         refine wp_seq ?_
         refine r_a [5,25,35,10] (L:=[(0,_),(3,_),(4,_),(5,_)]) (hst.pick [0,1,2,3] rfl) hb Za
          (Am 15 rfl<|a_p [0] rfl (Zbk rfl rfl u_0 c_i)<|a_n) (fun a g hst hb=>?_)
         refine wp_cond_split (hst.bool 3 rfl) (fun hc48=>?_) (fun hc48=>?_)
         ·replace H1:=Zo hc48 H1
          refine r_a [0] (L:=[]) (hst.pick [] rfl) hb Za
           (a_p [] rfl (Zd rfl rfl c_b)<|a_n) (fun a g hst hb=>?_)
          refine wp_ret ?_
          refine Zl ?_
          refine Zw ?_
          refine Zl ?_
          refine Zl ?_
          refine Zl ?_
          refine Zw ?_
          refine Zl ?_
          refine Zl ?_
          obtain rfl:=Option.some.inj H1
          obtain rfl:=Option.some.inj H0
          exact Z2 rfl hst hb (Zg (s:=2)) (hst.at 0 rfl)
         ·replace H1:=Zp hc48 H1
          refine wp_skip ?_
          refine Zm ?_
          refine r_b [5,0,15,25] (L:=[(0,_),(4,_),(5,_)]) (hst.pick [0,1,2] rfl) hb Za
           (a_p [] rfl (Zd rfl rfl c_i)<|a_n) (fun a g hst hb=>?_)
          refine Zba ?_
          exact ⟨(33:Int),g,rfl,(hst.pick [0,1,2,3] rfl),hb,H1⟩
     ·replace H1:=Zp hc30 H1
      refine wp_exit ?_
      refine Zbw ?_
      refine Zbw ?_
      refine Zb4 ?_
      exact ⟨x28,g,rfl,(hst.pick [1] rfl),hb,Option.some.inj H1⟩
  ·refine wp_cond_split (hst.bool 4 rfl) (fun hc20=>?_) (fun hc20=>?_)
   ·replace H0:=Zo hc20 H0
    refine r_a [5,0] (L:=[(0,_)]) (hst.pick [0] rfl) hb Za
     (a_p [] rfl (Zd rfl rfl c_i)<|a_n) (fun a g hst hb=>?_)
    refine r_a [5,0,15] (L:=[(0,_),(4,_)]) hst hb Za
     (a_p [] rfl (Zd rfl rfl c_i)<|a_n) (fun a g hst hb=>?_)
    obtain ⟨b21,h22,H0⟩:=Zc H0;obtain ⟨r23,h24,H0⟩:=Zc H0
    refine r_b [5,15,25,40] (L:=[(0,_),(3,_),(4,_)]) hst hb Za
     (Am 5 rfl<|a_p [0] rfl (Zcj Tryz.underlying9 rfl rfl u_0 c_i h22)<|a_p [0] rfl (Zf Zi4 (Zct _ h24) rfl rfl (.cons u_0 .nil))<|a_p [0] rfl (Zbk rfl rfl u_0 c_i)<|Aa 0 rfl<|a_n) (fun a g hst hb=>?_)
    exact ⟨(48:Int),(2:Int),(r23 == (120:Int)),g,rfl,(hst.pick [0,1,2,3] rfl),hb,H0⟩
   ·replace H0:=Zp hc20 H0
    refine wp_skip ?_
    exact ⟨(94:Int),(0:Int),false,g,rfl,(hst.pick [0,1,2,3] rfl),hb,H0⟩
 ·refine wp_cond_split (hst.bool 3 rfl) (fun hc5=>?_) (fun hc5=>?_)
  ·replace H0:=Zo hc5 H0
   cases H0
  ·replace H0:=Zp hc5 H0
   refine wp_skip ?_
   exact ⟨g,rfl,(hst.pick [0,1,2] rfl),hb,H0⟩
end Go.CL
