/- A part of the proof of WholeTold. -/
import Derived.Test.YtblabgjppapdpaaGreatDoorWholeToldC4
import Derived.KernelRfl
import Derived.Laws.Strings
set_option linter.unusedVariables false
set_option linter.unusedSimpArgs false
set_option maxRecDepth 100000
namespace Go.CL
open Go Go.RowKit Go.Proofs
theorem Zn8 (a0:ByteArray) (a1:Int) (a2:Int) {r:Int × Unit} (h:Zhm a0 a1 a2=some r):FnOk Tryz.prog 136 [(pStr a0),(pInt .i64 a1),(pInt .i64 a2)] (pTup [(pInt .u64 r.1),(pEq .nilIface)]):=by
 have H0:=h
 unfold Zhm at H0
 clear h
 refine Zbs (N:=172) Tryz.func136 rfl rfl (Qe rfl) rfl rfl (fun a g0 hst hb=>?_)
 refine r_a [5,15,25] (L:=[(0,_),(1,_),(2,_)]) hst hb Za
  (a_p [] rfl (Zd rfl rfl c_i)<|a_p [] rfl (Zd rfl rfl Zsg)<|a_n) (fun a g hst hb=>?_)
 refine wp_seq ?_
 refine r_a [5,15,25,10] (L:=[(0,_),(1,_),(2,_)]) hst hb Za
  (Am 5 rfl<|a_p [0] rfl (Zir rfl rfl u_0 c_s)<|a_n) (fun a g hst hb=>?_)
 refine wp_cond_split (hst.bool 3 rfl) (fun hc1=>?_) (fun hc1=>?_)
 ·replace H0:=Zo hc1 H0
  refine wp_seq ?_
  cases H0
 ·replace H0:=Zp hc1 H0
  refine wp_skip ?_
  refine Zm ?_
  refine r_a [5,15,25,20] (L:=[(0,_),(1,_),(2,_)]) (hst.pick [0,1,2] rfl) hb Za
   (Am 15 rfl<|a_p [0] rfl (Zbk rfl rfl u_0 c_i)<|Aa 0 rfl<|a_n) (fun a g hst hb=>?_)
  refine r_a [5,15,25,35,10] (L:=[(0,_),(1,_),(2,_),(8,_)]) hst hb Za
   (Am 5 rfl<|Aa 0 rfl<|a_n) (fun a g hst hb=>?_)
  refine wp_seq ?_
  refine Zbp (fun a w=>∃ (j22:Int) (g:G),w=g.w ∧ St 172 [(0,(pStr a0)),(1,(pInt .i64 j22)),(2,(pInt .i64 a2)),(8,(Z5 (a1 == (0:Int)))),(9,(pStr a0))] a g ∧ Base g0 g ∧ Ze8 a0 a1 a2 j22=some r) ?_ ?_
  ·rintro a w ⟨j22,g,rfl,hst,hb,H0⟩
   unfold Ze8 at H0
   refine Zm ?_
   refine wp_seq ?_
   refine r_a [5,15,25,35,45,10] (L:=[(0,_),(1,_),(2,_),(8,_),(9,_)]) hst hb Za
    (Am 25 rfl<|a_p [0] rfl (Zbk rfl rfl u_0 c_i)<|a_n) (fun a g hst hb=>?_)
   refine Zbp (fun a w=>∃ (j25:Int) (g:G),w=g.w ∧ St 172 [(0,(pStr a0)),(1,(pInt .i64 j22)),(2,(pInt .i64 j25)),(8,(Z5 (a1 == (0:Int)))),(9,(pStr a0))] a g ∧ Base g0 g ∧ Ze6 a0 a1 j22 j25=some r) ?_ ?_
   ·rintro a w ⟨j25,g,rfl,hst,hb,H0⟩
    unfold Ze6 at H0
    refine Zm ?_
    refine r_a [5,15,25,35,45] (L:=[(0,_),(1,_),(2,_),(8,_),(9,_)]) hst hb Za
     (a_p [] rfl (Zd rfl rfl c_i)<|a_n) (fun a g hst hb=>?_)
    refine wp_seq ?_
    refine r_a [5,15,25,35,45,0] (L:=[(0,_),(1,_),(2,_),(8,_),(9,_)]) hst hb Za
     (Am 15 rfl<|a_n) (fun a g hst hb=>?_)
    refine Zbp (fun a w=>∃ (j29:Int) (g:G),w=g.w ∧ St 172 [(0,(pStr a0)),(1,(pInt .i64 j22)),(2,(pInt .i64 j25)),(8,(Z5 (a1 == (0:Int)))),(9,(pStr a0)),(10,(pInt .u64 j29))] a g ∧ Base g0 g ∧ Zee a0 a1 j22 j25 j29=some r) ?_ ?_
    ·rintro a w ⟨j29,g,rfl,hst,hb,H0⟩
     unfold Zee at H0
     refine Zm ?_
     obtain ⟨h30,H0⟩:=Zcm H0
     refine r_a [5,15,35,45,55,40] (L:=[(0,_),(1,_),(2,_),(8,_),(9,_),(10,_)]) hst hb Za
      (Am 25 rfl<|a_p [0] rfl (Zof Tryz.underlying3 Tryz.underlying69 rfl rfl u_0 rfl)<|a_p [0] rfl (Zwx rfl rfl c_i u_0 h30 rfl)<|a_p [0] rfl (Zjw rfl rfl u_0 c_i rfl)<|Aa 0 rfl<|a_n) (fun a g hst hb=>?_)
     refine r_a [5,15,25,35,45,55,0] (L:=[(0,_),(1,_),(8,_),(9,_),(10,_),(11,_)]) hst hb Za
      (a_p [] rfl (Zd rfl rfl c_b)<|a_n) (fun a g hst hb=>?_)
     refine r_a [5,15,25,35,45,55,65,0] (L:=[(0,_),(1,_),(8,_),(9,_),(10,_),(11,_),(12,_)]) hst hb Za
      (a_p [] rfl (Zd rfl rfl c_i)<|a_n) (fun a g hst hb=>?_)
     refine wp_seq ?_
     obtain ⟨h31,H0⟩:=Zcm H0
     refine r_a [15,25,35,45,55,65,75,10,20,30] (L:=[(0,_),(1,_),(8,_),(9,_),(10,_),(11,_),(12,_),(13,_)]) hst hb Za
      (Am 5 rfl<|a_p [0] rfl (Z2m Tryz.underlying9 Tryz.underlying62 Tryz.underlying5 rfl rfl u_0 h31)<|a_p [0] rfl (Zcc Tryz.underlying62 rfl rfl u_0)<|a_p [] rfl (Zq rfl rfl c_i)<|a_n) (fun a g hst hb=>?_)
     obtain ⟨z55,hz1,H0⟩:=Zc H0
     refine Zbp (fun a w=>∃ (y53:Bool) (y54:Int) (g:G),w=g.w ∧ St 172 [(9,(pStr a0)),(12,(Z5 y53)),(13,(pInt .u64 y54))] a g ∧ Base g0 g ∧ (.inr (y53,y54))=z55) ?_ ?_
     ·rintro a w ⟨y53,y54,g,rfl,hst,hb,rfl⟩
      refine Zm ?_
      refine wp_seq ?_
      obtain ⟨r56,h57,H0⟩:=Zc H0
      refine r_a [25,50] (L:=[(9,_),(12,_),(13,_)]) hst hb Za
       (Am 15 rfl<|Am 0 rfl<|a_g [0,5] (Qg_t rfl (fun hG=>Zq rfl rfl u_0))<|a_g [10,0] (Qg_t rfl (fun hG=>Zf Z6s (Zmz _ (Zbe h57 hG)) rfl rfl (.cons (Opd.gd hG u_0) .nil)))<|a_g [20,0] (Qg_t rfl (fun hG=>Zcg rfl rfl (Opd.gd hG u_0)))<|a_p [30,0] rfl (Zbg rfl rfl u_0 (fun hz=>(Opd.gd hz u_1)))<|a_n) (fun a g hst hb=>?_)
      refine wp_cond_split (hst.bool 1 rfl) (fun hc58=>?_) (fun hc58=>?_)
      ·replace H0:=Zo hc58 H0
       refine wp_seq ?_
       cases H0
      ·replace H0:=Zp hc58 H0
       refine wp_skip ?_
       refine Zm ?_
       refine r_a [10,20] (L:=[(13,_)]) (hst.pick [0] rfl) hb Za
        (Am 5 rfl<|Aa 0 rfl<|a_p [] rfl (Zd rfl rfl Zsg)<|a_n) (fun a g hst hb=>?_)
       refine wp_ret ?_
       obtain rfl:=Option.some.inj H0
       exact Zdl rfl hst hb (Zg (s:=6)) (Zg (s:=7)) (Zch (hst.at 0 rfl) (hst.at 1 rfl))
     ·refine wp_block ?_
      refine wp_loop_ghost (fun n a w=>∃ (x32:Bool) (x33:Int) (x34:Int) (g:G),w=g.w ∧ St 172 [(1,(pInt .i64 j22)),(8,(Z5 (a1 == (0:Int)))),(9,(pStr a0)),(10,(pInt .u64 j29)),(11,(pInt .u64 (IntKind.u64.wrap ((IntKind.u64.wrap ((1:Int) * 2 ^ (min (Int.toNat (IntKind.u64.wrap j25)) (IntKind.u64).bits))) - (1:Int))))),(12,(Z5 x32)),(13,(pInt .u64 x33)),(99,((Kd.int .u8).sl.pd (bts a0))),(100,(pInt .i64 ((bts a0).length:Int))),(101,(pInt .i64 x34))] a g ∧ Base g0 g ∧ Zb1 a0 a1 j22 j25 j29 n x32 x33 x34=some z55) (Int.toNat (((bts a0).length:Int) - (0:Int)) + 1) ⟨false,(0:Int),(0:Int),g,rfl,(hst.pick [0,1,2,3,4,5,6,7,8,9] rfl),hb,hz1⟩ (fun n a w hI=>?_)
      obtain ⟨x32,x33,x34,g,rfl,hst,hb,H1⟩:=hI
      cases n with
      | zero=>exact absurd H1 (by simp [Zb1])
      | succ n =>
       rw [Zb1] at H1
       refine r_a [5,15,25,35,45,55,65,75,85,95,0] (L:=[(1,_),(8,_),(9,_),(10,_),(11,_),(12,_),(13,_),(99,_),(100,_),(101,_)]) hst hb Za
        (a_p [95,85] rfl (Zco rfl rfl u_0 u_1)<|a_n) (fun a g hst hb=>?_)
       refine wp_seq ?_
       refine wp_cond_split (hst.bool 10 rfl) (fun hc35=>?_) (fun hc35=>?_)
       ·replace H1:=Zo hc35 H1
        refine wp_skip ?_
        refine Zm ?_
        refine wp_seq ?_
        refine Zbp (fun a w=>∃ (j51:Bool) (j52:Int) (g:G),w=g.w ∧ St 172 [(1,(pInt .i64 j22)),(8,(Z5 (a1 == (0:Int)))),(9,(pStr a0)),(10,(pInt .u64 j29)),(11,(pInt .u64 (IntKind.u64.wrap ((IntKind.u64.wrap ((1:Int) * 2 ^ (min (Int.toNat (IntKind.u64.wrap j25)) (IntKind.u64).bits))) - (1:Int))))),(12,(Z5 j51)),(13,(pInt .u64 j52)),(99,((Kd.int .u8).sl.pd (bts a0))),(100,(pInt .i64 ((bts a0).length:Int))),(101,(pInt .i64 x34))] a g ∧ Base g0 g ∧ Zfb x34 (Zb1 a0 a1 j22 j25 j29 n) j51 j52=some z55) ?_ ?_
        ·rintro a w ⟨j51,j52,g,rfl,hst,hb,H1⟩
         unfold Zfb at H1
         refine Zm ?_
         refine r_b [5,15,25,35,45,55,65,75,85,10] (L:=[(1,_),(8,_),(9,_),(10,_),(11,_),(12,_),(13,_),(99,_),(100,_),(101,_)]) hst hb Za
          (a_p [95] rfl (Zb6 rfl rfl u_0 c_i rfl)<|Am 0 rfl<|a_n) (fun a g hst hb=>?_)
         exact ⟨n,Nat.lt_succ_self _,j51,j52,(IntKind.i64.wrap (x34 + (1:Int))),g,rfl,(hst.pick [0,1,2,3,4,5,6,7,8,9] rfl),hb,H1⟩
        ·refine wp_block ?_
         obtain ⟨e36,h37,H1⟩:=Zc H1
         refine r_a [5,15,25,35,45,55,65,20,75,85,95] (L:=[(1,_),(8,_),(9,_),(10,_),(11,_),(12,_),(13,_),(99,_),(100,_),(101,_)]) (hst.pick [0,1,2,3,4,5,6,7,8,9] rfl) hb Za
          (a_p [75,95] rfl (Zbz Tryz.underlying62 sz_5 rfl rfl u_0 u_1 h37)<|Al ty_5 0 rfl<|Aa 0 rfl<|a_n) (fun a g hst hb=>?_)
         refine r_a [5,15,25,35,45,55,65,75,85,95,105] (L:=[(1,_),(8,_),(9,_),(10,_),(11,_),(12,_),(13,_),(15,_),(99,_),(100,_),(101,_)]) hst hb Za
          (a_p [] rfl (Zd rfl rfl c_i)<|a_n) (fun a g hst hb=>?_)
         refine wp_seq ?_
         refine Zbp (fun a w=>∃ (j47:Int) (g:G),w=g.w ∧ St 172 [(1,(pInt .i64 j22)),(8,(Z5 (a1 == (0:Int)))),(9,(pStr a0)),(10,(pInt .u64 j29)),(11,(pInt .u64 (IntKind.u64.wrap ((IntKind.u64.wrap ((1:Int) * 2 ^ (min (Int.toNat (IntKind.u64.wrap j25)) (IntKind.u64).bits))) - (1:Int))))),(12,(Z5 x32)),(13,(pInt .u64 x33)),(16,(pInt .u8 j47)),(99,((Kd.int .u8).sl.pd (bts a0))),(100,(pInt .i64 ((bts a0).length:Int))),(101,(pInt .i64 x34))] a g ∧ Base g0 g ∧ Zef j22 j25 j29 x32 x33 x34 (Zb1 a0 a1 j22 j25 j29 n) j47=some z55) ?_ ?_
         ·rintro a w ⟨j47,g,rfl,hst,hb,H1⟩
          unfold Zef at H1
          refine Zm ?_
          refine wp_seq ?_
          refine r_a [5,15,25,35,45,55,65,75,85,95,105,30] (L:=[(1,_),(8,_),(9,_),(10,_),(11,_),(12,_),(13,_),(16,_),(99,_),(100,_),(101,_)]) hst hb Za
           (Am 75 rfl<|Am 5 rfl<|a_p [0] rfl (Zof Tryz.underlying3 Tryz.underlying5 rfl rfl u_0 rfl)<|a_p [20,0] rfl (Zhd rfl rfl u_0 u_1)<|a_n) (fun a g hst hb=>?_)
          refine wp_cond_split (hst.bool 11 rfl) (fun hc48=>?_) (fun hc48=>?_)
          ·replace H1:=Zo hc48 H1
           refine wp_seq ?_
           cases H1
          ·replace H1:=Zp hc48 H1
           refine wp_skip ?_
           refine Zm ?_
           refine wp_seq ?_
           refine r_a [5,15,25,35,45,55,65,75,85,95,105,20] (L:=[(1,_),(8,_),(9,_),(10,_),(11,_),(12,_),(13,_),(16,_),(99,_),(100,_),(101,_)]) (hst.pick [0,1,2,3,4,5,6,7,8,9,10] rfl) hb Za
            (Am 65 rfl<|Am 35 rfl<|a_p [10,0] rfl (Zhd rfl rfl u_0 u_1)<|a_n) (fun a g hst hb=>?_)
           refine wp_cond_split (hst.bool 11 rfl) (fun hc49=>?_) (fun hc49=>?_)
           ·replace H1:=Zo hc49 H1
            refine wp_seq ?_
            cases H1
           ·replace H1:=Zp hc49 H1
            refine wp_skip ?_
            refine Zm ?_
            refine r_a [5,15,25,35,45,55,40,75,85,95,105] (L:=[(1,_),(8,_),(9,_),(10,_),(11,_),(12,_),(13,_),(16,_),(99,_),(100,_),(101,_)]) (hst.pick [0,1,2,3,4,5,6,7,8,9,10] rfl) hb Za
             (Am 65 rfl<|Am 5 rfl<|a_p [0] rfl (Zof Tryz.underlying3 Tryz.underlying122 rfl rfl u_0 rfl)<|a_p [20,0] rfl (Zsh rfl rfl u_0 u_1 rfl)<|Aa 0 rfl<|a_n) (fun a g hst hb=>?_)
            refine r_a [5,15,25,35,45,55,65,40,85,95,105] (L:=[(1,_),(8,_),(9,_),(10,_),(11,_),(12,_),(13,_),(16,_),(99,_),(100,_),(101,_)]) hst hb Za
             (Am 65 rfl<|Am 75 rfl<|a_p [0] rfl (Zof Tryz.underlying5 Tryz.underlying122 rfl rfl u_0 rfl)<|a_p [20,0] rfl (Zb6 rfl rfl u_0 u_1 rfl)<|Aa 0 rfl<|a_n) (fun a g hst hb=>?_)
            refine wp_seq ?_
            refine r_a [5,15,25,35,45,55,75,85,95,105,70] (L:=[(1,_),(8,_),(9,_),(10,_),(11,_),(12,_),(13,_),(17,_),(99,_),(100,_),(101,_)]) hst hb Za
             (Am 75 rfl<|Am 65 rfl<|a_p [10,0] rfl (Zco rfl rfl u_0 u_1)<|Am 0 rfl<|a_g [0,75] (Qg_f rfl (fun hG=>Zq rfl rfl u_0))<|a_g [10,45] (Qg_f rfl (fun hG=>Zq rfl rfl u_0))<|a_g [20,10,0] (Qg_f rfl (fun hG=>Zcl rfl rfl (Opd.gd hG u_0) (Opd.gd hG u_1)))<|a_p [30,0] rfl (Zbh rfl rfl u_0 (fun hz=>(Opd.gd (bNF hz) u_1)))<|a_n) (fun a g hst hb=>?_)
            refine wp_cond_split (hst.bool 10 rfl) (fun hc50=>?_) (fun hc50=>?_)
            ·replace H1:=Zo hc50 H1
             refine wp_seq ?_
             cases H1
            ·replace H1:=Zp hc50 H1
             refine wp_skip ?_
             refine Zm ?_
             refine r_b [5,15,25,35,45,55,10,75,85,95] (L:=[(1,_),(8,_),(9,_),(10,_),(11,_),(12,_),(17,_),(99,_),(100,_),(101,_)]) (hst.pick [0,1,2,3,4,5,6,7,8,9] rfl) hb Za
              (Am 65 rfl<|Aa 0 rfl<|a_n) (fun a g hst hb=>?_)
             refine Zba ?_
             exact ⟨x32,(IntKind.u64.wrap ((IntKind.u64.wrap (x33 * (IntKind.u64.wrap j22))) + (IntKind.u64.wrap j47))),g,rfl,(hst.pick [0,1,2,3,4,5,6,7,8,9] rfl),hb,H1⟩
         ·refine wp_block ?_
          refine r_a [5,15,25,35,45,55,65,75,85,95,105,50] (L:=[(1,_),(8,_),(9,_),(10,_),(11,_),(12,_),(13,_),(15,_),(99,_),(100,_),(101,_)]) hst hb Za
           (Am 75 rfl<|a_p [0] rfl (Zbk rfl rfl u_0 c_i)<|Am 0 rfl<|a_g [0,15] (Qg_t rfl (fun hG=>Zq rfl rfl u_0))<|a_p [10,0] rfl (Zbg rfl rfl u_0 (fun hz=>(Opd.gd hz u_1)))<|Aa 0 rfl<|a_n) (fun a g hst hb=>?_)
          refine wp_cond_split (hst.bool 11 rfl) (fun hc38=>?_) (fun hc38=>?_)
          ·replace H1:=Zo hc38 H1
           refine r_a [5,15,25,35,45,0,55,65,75,85] (L:=[(1,_),(8,_),(9,_),(10,_),(11,_),(13,_),(99,_),(100,_),(101,_)]) (hst.pick [0,1,2,3,4,6,8,9,10] rfl) hb Za
            (a_p [] rfl (Zd rfl rfl c_b)<|a_n) (fun a g hst hb=>?_)
           refine wp_exit ?_
           refine Z0t (by decide) ?_
           refine Zbw ?_
           refine Zbw ?_
           refine Zb4 ?_
           exact ⟨true,x33,g,rfl,(hst.pick [0,1,2,3,4,5,6,7,8,9] rfl),hb,H1⟩
          ·replace H1:=Zp hc38 H1
           refine r_a [5,15,25,35,45,55,65,75,85,95,105,60] (L:=[(1,_),(8,_),(9,_),(10,_),(11,_),(12,_),(13,_),(15,_),(99,_),(100,_),(101,_)]) (hst.pick [0,1,2,3,4,5,6,7,8,9,10] rfl) hb Za
            (Am 75 rfl<|a_p [0] rfl (Zhg rfl rfl c_i u_0)<|Am 0 rfl<|a_g [0,75] (Qg_t rfl (fun hG=>Zq rfl rfl u_0))<|a_g [10,0] (Qg_t rfl (fun hG=>Zhg rfl rfl (Opd.gd hG u_0) c_i))<|a_p [20,0] rfl (Zbg rfl rfl u_0 (fun hz=>(Opd.gd hz u_1)))<|Aa 0 rfl<|a_n) (fun a g hst hb=>?_)
           refine wp_cond_split (hst.bool 11 rfl) (fun hc39=>?_) (fun hc39=>?_)
           ·replace H1:=Zo hc39 H1
            refine r_b [5,15,25,35,45,55,65,20,85,95,105] (L:=[(1,_),(8,_),(9,_),(10,_),(11,_),(12,_),(13,_),(15,_),(99,_),(100,_),(101,_)]) (hst.pick [0,1,2,3,4,5,6,7,8,9,10] rfl) hb Za
             (Am 75 rfl<|a_p [0] rfl (Zjw rfl rfl u_0 c_i rfl)<|Aa 0 rfl<|a_n) (fun a g hst hb=>?_)
            refine Zba ?_
            exact ⟨(IntKind.u8.wrap (e36 - (48:Int))),g,rfl,(hst.pick [0,1,2,3,4,5,6,7,8,9,10] rfl),hb,H1⟩
           ·replace H1:=Zp hc39 H1
            obtain ⟨r40,h41,H1⟩:=Zc H1;obtain ⟨r42,h43,H1⟩:=Zc H1
            refine r_a [5,15,25,35,45,55,65,75,85,95,105,80] (L:=[(1,_),(8,_),(9,_),(10,_),(11,_),(12,_),(13,_),(15,_),(99,_),(100,_),(101,_)]) (hst.pick [0,1,2,3,4,5,6,7,8,9,10] rfl) hb Za
             (Am 75 rfl<|a_p [0] rfl (Zf Zi4 (Zct _ h41) rfl rfl (.cons u_0 .nil))<|a_p [0] rfl (Zhg rfl rfl c_i u_0)<|Am 0 rfl<|a_g [0,75] (Qg_t rfl (fun hG=>Zq rfl rfl u_0))<|a_g [10,0] (Qg_t rfl (fun hG=>Zf Zi4 (Zct _ (Zbe h43 hG)) rfl rfl (.cons (Opd.gd hG u_0) .nil)))<|a_g [20,0] (Qg_t rfl (fun hG=>Zhg rfl rfl (Opd.gd hG u_0) c_i))<|a_p [30,0] rfl (Zbg rfl rfl u_0 (fun hz=>(Opd.gd hz u_1)))<|Aa 0 rfl<|a_n) (fun a g hst hb=>?_)
            refine wp_cond_split (hst.bool 11 rfl) (fun hc44=>?_) (fun hc44=>?_)
            ·replace H1:=Zo hc44 H1
             obtain ⟨r45,h46,H1⟩:=Zc H1
             refine r_b [5,15,25,35,45,55,65,40,85,95,105] (L:=[(1,_),(8,_),(9,_),(10,_),(11,_),(12,_),(13,_),(15,_),(99,_),(100,_),(101,_)]) (hst.pick [0,1,2,3,4,5,6,7,8,9,10] rfl) hb Za
              (Am 75 rfl<|a_p [0] rfl (Zf Zi4 (Zct _ h46) rfl rfl (.cons u_0 .nil))<|a_p [0] rfl (Zjw rfl rfl u_0 c_i rfl)<|a_p [0] rfl (Zb6 rfl rfl u_0 c_i rfl)<|Aa 0 rfl<|a_n) (fun a g hst hb=>?_)
             refine Zba ?_
             exact ⟨(IntKind.u8.wrap ((IntKind.u8.wrap (r45 - (97:Int))) + (10:Int))),g,rfl,(hst.pick [0,1,2,3,4,5,6,7,8,9,10] rfl),hb,H1⟩
            ·replace H1:=Zp hc44 H1
             refine wp_seq ?_
             cases H1
       ·replace H1:=Zp hc35 H1
        refine wp_exit ?_
        refine Zbw ?_
        refine Zbw ?_
        refine Zb4 ?_
        exact ⟨x32,x33,g,rfl,(hst.pick [2,5,6] rfl),hb,Option.some.inj H1⟩
    ·refine wp_block ?_
     refine r_a [5,15,25,35,45,55,10] (L:=[(0,_),(1,_),(2,_),(8,_),(9,_),(85,_)]) hst hb Za
      (a_p [55] rfl (Zbk rfl rfl u_0 c_i)<|Aa 0 rfl<|a_n) (fun a g hst hb=>?_)
     refine wp_cond_split (hst.bool 6 rfl) (fun hc26=>?_) (fun hc26=>?_)
     ·replace H0:=Zo hc26 H0
      refine r_b [5,15,25,35,45,0] (L:=[(0,_),(1,_),(2,_),(8,_),(9,_)]) (hst.pick [0,1,2,3,4] rfl) hb Za
       (a_p [] rfl (Zd rfl rfl c_i)<|a_n) (fun a g hst hb=>?_)
      refine Zba ?_
      exact ⟨(1844674407370955162:Int),g,rfl,(hst.pick [0,1,2,3,4,5] rfl),hb,H0⟩
     ·replace H0:=Zp hc26 H0
      refine r_a [5,15,25,35,45,10] (L:=[(0,_),(1,_),(2,_),(8,_),(9,_),(85,_)]) (hst.pick [0,1,2,3,4,5] rfl) hb Za
       (a_p [55] rfl (Zbk rfl rfl u_0 c_i)<|Aa 0 rfl<|a_n) (fun a g hst hb=>?_)
      refine wp_cond_split (hst.bool 5 rfl) (fun hc27=>?_) (fun hc27=>?_)
      ·replace H0:=Zo hc27 H0
       refine r_b [5,15,25,35,45,0] (L:=[(0,_),(1,_),(2,_),(8,_),(9,_)]) (hst.pick [0,1,2,3,4] rfl) hb Za
        (a_p [] rfl (Zd rfl rfl c_i)<|a_n) (fun a g hst hb=>?_)
       refine Zba ?_
       exact ⟨(1152921504606846976:Int),g,rfl,(hst.pick [0,1,2,3,4,5] rfl),hb,H0⟩
      ·replace H0:=Zp hc27 H0
       obtain ⟨h28,H0⟩:=Zcm H0
       refine r_b [5,15,25,35,45,40] (L:=[(0,_),(1,_),(2,_),(8,_),(9,_)]) (hst.pick [0,1,2,3,4] rfl) hb Za
        (Am 15 rfl<|a_p [0] rfl (Zof Tryz.underlying3 Tryz.underlying122 rfl rfl u_0 rfl)<|a_p [0] rfl (Z1a rfl rfl c_i u_0 h28)<|a_p [0] rfl (Zb6 rfl rfl u_0 c_i rfl)<|Aa 0 rfl<|a_n) (fun a g hst hb=>?_)
       refine Zba ?_
       exact ⟨(IntKind.u64.wrap ((IntKind.u64.wrap (Int.tdiv (18446744073709551615:Int) (IntKind.u64.wrap j22))) + (1:Int))),g,rfl,(hst.pick [0,1,2,3,4,5] rfl),hb,H0⟩
   ·refine wp_cond_split (hst.bool 5 rfl) (fun hc23=>?_) (fun hc23=>?_)
    ·replace H0:=Zo hc23 H0
     refine r_b [5,15,0,25,35] (L:=[(0,_),(1,_),(8,_),(9,_)]) (hst.pick [0,1,3,4] rfl) hb Za
      (a_p [] rfl (Zd rfl rfl c_i)<|a_n) (fun a g hst hb=>?_)
     exact ⟨(64:Int),g,rfl,(hst.pick [0,1,2,3,4] rfl),hb,H0⟩
    ·replace H0:=Zp hc23 H0
     refine r_a [5,15,25,35,45,50] (L:=[(0,_),(1,_),(2,_),(8,_),(9,_)]) (hst.pick [0,1,2,3,4] rfl) hb Za
      (Am 25 rfl<|a_p [0] rfl (Zco rfl rfl u_0 c_i)<|Am 0 rfl<|a_g [0,25] (Qg_f rfl (fun hG=>Zq rfl rfl u_0))<|a_g [10,0] (Qg_f rfl (fun hG=>Zcl rfl rfl (Opd.gd hG u_0) c_i))<|a_p [20,0] rfl (Zbh rfl rfl u_0 (fun hz=>(Opd.gd (bNF hz) u_1)))<|a_n) (fun a g hst hb=>?_)
     refine wp_cond_split (hst.bool 5 rfl) (fun hc24=>?_) (fun hc24=>?_)
     ·replace H0:=Zo hc24 H0
      refine wp_seq ?_
      cases H0
     ·replace H0:=Zp hc24 H0
      refine wp_skip ?_
      exact ⟨a2,g,rfl,(hst.pick [0,1,2,3,4] rfl),hb,H0⟩
  ·refine wp_block ?_
   refine r_a [5,15,25,35,45,60] (L:=[(0,_),(1,_),(2,_),(8,_),(9,_)]) hst hb Za
    (Am 15 rfl<|a_p [0] rfl (Zhg rfl rfl c_i u_0)<|Am 0 rfl<|a_g [0,15] (Qg_t rfl (fun hG=>Zq rfl rfl u_0))<|a_g [10,0] (Qg_t rfl (fun hG=>Zhg rfl rfl (Opd.gd hG u_0) c_i))<|a_p [20,0] rfl (Zbg rfl rfl u_0 (fun hz=>(Opd.gd hz u_1)))<|Aa 0 rfl<|a_n) (fun a g hst hb=>?_)
   refine wp_cond_split (hst.bool 5 rfl) (fun hc2=>?_) (fun hc2=>?_)
   ·replace H0:=Zo hc2 H0
    refine wp_skip ?_
    refine Zba ?_
    exact ⟨a1,g,rfl,(hst.pick [0,1,2,3,4] rfl),hb,H0⟩
   ·replace H0:=Zp hc2 H0
    refine r_a [5,25,35,45,20] (L:=[(0,_),(1,_),(2,_),(8,_),(9,_)]) (hst.pick [0,1,2,3,4] rfl) hb Za
     (Am 15 rfl<|a_p [0] rfl (Zbk rfl rfl u_0 c_i)<|Aa 0 rfl<|a_n) (fun a g hst hb=>?_)
    refine wp_cond_split (hst.bool 4 rfl) (fun hc3=>?_) (fun hc3=>?_)
    ·replace H0:=Zo hc3 H0
     refine r_a [5,0,15,25,35] (L:=[(0,_),(2,_),(8,_),(9,_)]) (hst.pick [0,1,2,3] rfl) hb Za
      (a_p [] rfl (Zd rfl rfl c_i)<|a_n) (fun a g hst hb=>?_)
     obtain ⟨b4,h5,H0⟩:=Zc H0
     refine r_a [5,15,25,35,45,20] (L:=[(0,_),(1,_),(2,_),(8,_),(9,_)]) hst hb Za
      (Am 5 rfl<|a_p [0] rfl (Zcj Tryz.underlying9 rfl rfl u_0 c_i h5)<|a_p [0] rfl (Zbk rfl rfl u_0 c_i)<|a_n) (fun a g hst hb=>?_)
     refine wp_cond_split (hst.bool 5 rfl) (fun hc6=>?_) (fun hc6=>?_)
     ·replace H0:=Zo hc6 H0
      refine wp_block ?_
      obtain ⟨b7,h8,H0⟩:=Zc H0;obtain ⟨r9,h10,H0⟩:=Zc H0
      refine r_a [5,15,25,35,90] (L:=[(0,_),(2,_),(8,_),(9,_)]) (hst.pick [0,2,3,4] rfl) hb Za
       (Am 5 rfl<|a_p [0] rfl (Zdc Tryz.underlying9 rfl rfl u_0)<|a_p [0] rfl (Zhd rfl rfl u_0 c_i)<|Am 0 rfl<|a_g [0,5] (Qg_t rfl (fun hG=>Zq rfl rfl u_0))<|a_g [10,0] (Qg_t rfl (fun hG=>Zcj Tryz.underlying9 rfl rfl (Opd.gd hG u_0) c_i (Zbe h8 hG)))<|a_g [20,0] (Qg_t rfl (fun hG=>Zf Zi4 (Zct _ (Zbe h10 hG)) rfl rfl (.cons (Opd.gd hG u_0) .nil)))<|a_g [30,0] (Qg_t rfl (fun hG=>Zbk rfl rfl (Opd.gd hG u_0) c_i))<|a_p [40,0] rfl (Zbg rfl rfl u_0 (fun hz=>(Opd.gd hz u_1)))<|Aa 0 rfl<|a_n) (fun a g hst hb=>?_)
      refine wp_cond_split (hst.bool 4 rfl) (fun hc11=>?_) (fun hc11=>?_)
      ·replace H0:=Zo hc11 H0
       refine r_a [5,0,15,25,35] (L:=[(0,_),(2,_),(8,_),(9,_)]) (hst.pick [0,1,2,3] rfl) hb Za
        (a_p [] rfl (Zd rfl rfl c_i)<|a_n) (fun a g hst hb=>?_)
       cases H0
      ·replace H0:=Zp hc11 H0
       obtain ⟨b12,h13,H0⟩:=Zc H0;obtain ⟨r14,h15,H0⟩:=Zc H0
       refine r_a [5,15,25,35,90] (L:=[(0,_),(2,_),(8,_),(9,_)]) (hst.pick [0,1,2,3] rfl) hb Za
        (Am 5 rfl<|a_p [0] rfl (Zdc Tryz.underlying9 rfl rfl u_0)<|a_p [0] rfl (Zhd rfl rfl u_0 c_i)<|Am 0 rfl<|a_g [0,5] (Qg_t rfl (fun hG=>Zq rfl rfl u_0))<|a_g [10,0] (Qg_t rfl (fun hG=>Zcj Tryz.underlying9 rfl rfl (Opd.gd hG u_0) c_i (Zbe h13 hG)))<|a_g [20,0] (Qg_t rfl (fun hG=>Zf Zi4 (Zct _ (Zbe h15 hG)) rfl rfl (.cons (Opd.gd hG u_0) .nil)))<|a_g [30,0] (Qg_t rfl (fun hG=>Zbk rfl rfl (Opd.gd hG u_0) c_i))<|a_p [40,0] rfl (Zbg rfl rfl u_0 (fun hz=>(Opd.gd hz u_1)))<|Aa 0 rfl<|a_n) (fun a g hst hb=>?_)
       refine wp_cond_split (hst.bool 4 rfl) (fun hc16=>?_) (fun hc16=>?_)
       ·replace H0:=Zo hc16 H0
        refine r_a [5,0,15,25,35] (L:=[(0,_),(2,_),(8,_),(9,_)]) (hst.pick [0,1,2,3] rfl) hb Za
         (a_p [] rfl (Zd rfl rfl c_i)<|a_n) (fun a g hst hb=>?_)
        cases H0
       ·replace H0:=Zp hc16 H0
        obtain ⟨b17,h18,H0⟩:=Zc H0;obtain ⟨r19,h20,H0⟩:=Zc H0
        refine r_a [5,15,25,35,90] (L:=[(0,_),(2,_),(8,_),(9,_)]) (hst.pick [0,1,2,3] rfl) hb Za
         (Am 5 rfl<|a_p [0] rfl (Zdc Tryz.underlying9 rfl rfl u_0)<|a_p [0] rfl (Zhd rfl rfl u_0 c_i)<|Am 0 rfl<|a_g [0,5] (Qg_t rfl (fun hG=>Zq rfl rfl u_0))<|a_g [10,0] (Qg_t rfl (fun hG=>Zcj Tryz.underlying9 rfl rfl (Opd.gd hG u_0) c_i (Zbe h18 hG)))<|a_g [20,0] (Qg_t rfl (fun hG=>Zf Zi4 (Zct _ (Zbe h20 hG)) rfl rfl (.cons (Opd.gd hG u_0) .nil)))<|a_g [30,0] (Qg_t rfl (fun hG=>Zbk rfl rfl (Opd.gd hG u_0) c_i))<|a_p [40,0] rfl (Zbg rfl rfl u_0 (fun hz=>(Opd.gd hz u_1)))<|Aa 0 rfl<|a_n) (fun a g hst hb=>?_)
        refine wp_cond_split (hst.bool 4 rfl) (fun hc21=>?_) (fun hc21=>?_)
        ·replace H0:=Zo hc21 H0
         refine r_a [5,0,15,25,35] (L:=[(0,_),(2,_),(8,_),(9,_)]) (hst.pick [0,1,2,3] rfl) hb Za
          (a_p [] rfl (Zd rfl rfl c_i)<|a_n) (fun a g hst hb=>?_)
         cases H0
        ·replace H0:=Zp hc21 H0
         refine r_a [5,0,15,25,35] (L:=[(0,_),(2,_),(8,_),(9,_)]) (hst.pick [0,1,2,3] rfl) hb Za
          (a_p [] rfl (Zd rfl rfl c_i)<|a_n) (fun a g hst hb=>?_)
         cases H0
     ·replace H0:=Zp hc6 H0
      refine wp_skip ?_
      refine Zba ?_
      exact ⟨(10:Int),g,rfl,(hst.pick [0,1,2,3,4] rfl),hb,H0⟩
    ·replace H0:=Zp hc3 H0
     refine wp_seq ?_
     cases H0
theorem Zo0 (a0:ByteArray) (a1:Int) (a2:Int) {r:Int × Unit} (h:Zgg a0 a1 a2=some r):FnOk Tryz.prog 107 [(pStr a0),(pInt .i64 a1),(pInt .i64 a2)] (pTup [(pInt .u64 r.1),(pEq .nilIface)]):=by
 have H0:=h
 unfold Zgg at H0
 clear h
 refine Zbs (N:=26) Tryz.func107 rfl rfl (Qe rfl) rfl rfl (fun a g0 hst hb=>?_)
 refine r_a [5,15,25] (L:=[(0,_),(1,_),(2,_)]) hst hb Za
  (a_p [] rfl (Zd rfl rfl c_i)<|a_p [] rfl (Zd rfl rfl Zsg)<|a_n) (fun a g hst hb=>?_)
 obtain ⟨r1,h2,H0⟩:=Zc H0
 refine r_a [5,15,25,70,80] (L:=[(0,_),(1,_),(2,_)]) hst hb Za
  (Am 5 rfl<|Am 15 rfl<|Am 25 rfl<|a_p [20,10,0] rfl (Zf Z6l (Zn8 _ _ _ h2) rfl rfl (.cons u_0 (.cons u_1 (.cons u_2 .nil))))<|Am 0 rfl<|a_p [0] rfl (Zz rfl rfl u_0 rfl)<|a_p [10] rfl (Zz rfl rfl u_0 rfl)<|Aa 10 rfl<|Aa 10 rfl<|a_n) (fun a g hst hb=>?_)
 refine wp_seq ?_
 refine r_a [5,15,25,35,45,10] (L:=[(0,_),(1,_),(2,_),(8,_),(9,_)]) hst hb Za
  (Am 45 rfl<|a_p [0] rfl (Zr9 (by kernel_rfl) rfl rfl u_0)<|a_n) (fun a g hst hb=>?_)
 refine wp_cond_split (hst.bool 5 rfl) (fun hc3=>?_) (fun hc3=>?_)
 ·replace H0:=Zo hc3 H0
  refine wp_seq ?_
  cases H0
 ·replace H0:=Zp hc3 H0
  refine wp_skip ?_
  refine Zm ?_
  refine r_a [10,20] (L:=[(8,_)]) (hst.pick [3] rfl) hb Za
   (Am 5 rfl<|Aa 0 rfl<|a_p [] rfl (Zd rfl rfl Zsg)<|a_n) (fun a g hst hb=>?_)
  refine wp_ret ?_
  obtain rfl:=Option.some.inj H0
  exact Zdl rfl hst hb (Zg (s:=6)) (Zg (s:=7)) (Zch (hst.at 0 rfl) (hst.at 1 rfl))
theorem Zya (a0:Int) {r:Nat × Bool} (h:Zlj a0=some r):FnOk Tryz.prog 108 [(pInt .u64 a0)] (pTup [(pFlt r.1),(Z5 r.2)]):=by
 have H0:=h
 unfold Zlj at H0
 clear h
 refine Zbs (N:=20) Tryz.func108 rfl rfl (Qe rfl) rfl rfl (fun a g0 hst hb=>?_)
 refine r_a [5] (L:=[(0,_)]) hst hb Za
  (a_p [] rfl (Zd rfl rfl c_f)<|a_p [] rfl (Zd rfl rfl c_b)<|a_n) (fun a g hst hb=>?_)
 refine r_a [5,20] (L:=[(0,_)]) hst hb Za
  (Am 5 rfl<|a_p [0] rfl (Zy4 rfl rfl rfl u_0)<|Aa 0 rfl<|a_n) (fun a g hst hb=>?_)
 refine wp_seq ?_
 refine r_a [5,15,20] (L:=[(0,_),(4,_)]) hst hb Za
  (Am 5 rfl<|a_p [0] rfl (Z0i rfl rfl u_0 c_i)<|a_p [0] rfl (Zcw rfl rfl u_0 c_i)<|a_n) (fun a g hst hb=>?_)
 refine Zbp (fun a w=>∃ (j2:Int) (g:G),w=g.w ∧ St 20 [(0,(pInt .u64 a0)),(4,(pInt .u64 j2))] a g ∧ Base g0 g ∧ Zjd a0 j2=some r) ?_ ?_
 ·rintro a w ⟨j2,g,rfl,hst,hb,H0⟩
  unfold Zjd at H0
  refine Zm ?_
  refine r_a [5,20] (L:=[(0,_),(4,_)]) hst hb Za
   (Am 15 rfl<|a_p [0] rfl (Zrk Z1l rfl rfl u_0)<|Aa 0 rfl<|a_n) (fun a g hst hb=>?_)
  refine wp_seq ?_
  obtain ⟨r3,h4,H0⟩:=Zc H0
  refine r_a [15,30] (L:=[(0,_),(5,_)]) hst hb Za
   (Am 15 rfl<|a_p [0] rfl (Zf Zqy (Zka _ h4) rfl rfl (.cons u_0 .nil))<|Am 5 rfl<|a_p [10,0] rfl (Zcw rfl rfl u_0 u_1)<|a_n) (fun a g hst hb=>?_)
  refine wp_cond_split (hst.bool 1 rfl) (fun hc5=>?_) (fun hc5=>?_)
  ·replace H0:=Zo hc5 H0
   refine r_a [0,10] (L:=[]) (hst.pick [] rfl) hb Za
    (a_p [] rfl (Zd rfl rfl c_f)<|a_p [] rfl (Zd rfl rfl c_b)<|a_n) (fun a g hst hb=>?_)
   refine wp_ret ?_
   refine Zl ?_
   obtain rfl:=Option.some.inj H0
   exact Zdl rfl hst hb (Zg (s:=2)) (Zg (s:=3)) (Zch (hst.at 0 rfl) (hst.at 1 rfl))
  ·replace H0:=Zp hc5 H0
   refine wp_skip ?_
   refine Zm ?_
   refine r_a [10,20] (L:=[(5,_)]) (hst.pick [0] rfl) hb Za
    (Am 5 rfl<|Aa 0 rfl<|a_p [] rfl (Zd rfl rfl c_b)<|a_n) (fun a g hst hb=>?_)
   refine wp_ret ?_
   obtain rfl:=Option.some.inj H0
   exact Zdl rfl hst hb (Zg (s:=2)) (Zg (s:=3)) (Zch (hst.at 0 rfl) (hst.at 1 rfl))
 ·refine wp_cond_split (hst.bool 2 rfl) (fun hc1=>?_) (fun hc1=>?_)
  ·replace H0:=Zo hc1 H0
   refine r_b [5,20] (L:=[(0,_)]) (hst.pick [0] rfl) hb Za
    (Am 5 rfl<|a_p [0] rfl (Z0u rfl rfl u_0 c_i)<|Aa 0 rfl<|a_n) (fun a g hst hb=>?_)
   exact ⟨(Zoo .u64 a0 (9223372036854775808:Int)),g,rfl,(hst.pick [0,1] rfl),hb,H0⟩
  ·replace H0:=Zp hc1 H0
   refine wp_skip ?_
   exact ⟨(bXor .u64 IntKind.u64.max a0),g,rfl,(hst.pick [0,1] rfl),hb,H0⟩
theorem Zjx (a0:Z0) {r:Nat × Z0} (h:Zeu a0=some r):FnB Tryz.prog 69 [.box Z8 a0 r.2] (pFlt r.1):=by
 have H0:=h
 unfold Zeu at H0
 clear h
 refine Zok (N:=35) Tryz.func69 rfl rfl (Qe rfl) rfl rfl (fun a g0 bs hbs hst hb=>?_)
 obtain ⟨b0,rfl⟩:=Zqq hbs
 replace hst:St 35 [(0,(Zbf (some b0) Z8 0 a0))] _ _:=hst
 replace hst:St 35 [(0,(pEq (ptrB b0 0))),(1002,(pRB Z8 0 b0 a0))] _ _:=Zl3 hst
 refine r_a [5,15] (L:=[(0,_),(1002,_)]) hst hb Za
  (a_p [] rfl (Zd rfl rfl c_f)<|a_n) (fun a g hst hb=>?_)
 obtain ⟨r1,h2,H0⟩:=Zc H0
 refine r_a [5,20,11] (L:=[(0,_),(1002,_)]) hst hb Za
  (Am 5 rfl<|a_p [0,15] rfl (Zd3 (m:=1002) (A:=[]) Zss (Zf9 _ h2) rfl rfl rfl (by decide) u_1 u_0 .nil)<|Aa 0 rfl<|a_n) (fun a g hst hb=>?_)
 obtain ⟨r3,h4,H0⟩:=Zc H0
 refine r_a [5,15,50,60,25] (L:=[(0,_),(3,_),(1002,_)]) hst hb Za
  (Am 15 rfl<|a_p [0] rfl (Zf Z6n (Zo0 _ _ _ h4) rfl rfl (.cons u_0 (.cons c_i (.cons c_i .nil))))<|Am 0 rfl<|a_p [0] rfl (Zz rfl rfl u_0 rfl)<|a_p [10] rfl (Zz rfl rfl u_0 rfl)<|Aa 10 rfl<|Aa 10 rfl<|a_n) (fun a g hst hb=>?_)
 obtain ⟨r5,h6,H0⟩:=Zc H0
 refine r_a [5,15,35,50,60,45] (L:=[(0,_),(3,_),(4,_),(5,_),(1002,_)]) hst hb Za
  (Am 25 rfl<|a_p [0] rfl (Zf Z6g (Zya _ h6) rfl rfl (.cons u_0 .nil))<|Am 0 rfl<|a_p [0] rfl (Zz rfl rfl u_0 rfl)<|a_p [10] rfl (Zz rfl rfl u_0 rfl)<|Aa 10 rfl<|Aa 10 rfl<|a_n) (fun a g hst hb=>?_)
 refine wp_seq ?_
 obtain ⟨r7,h8,H0⟩:=Zc H0
 refine r_a [5,35,110,55] (L:=[(0,_),(3,_),(5,_),(6,_),(7,_),(1002,_)]) hst hb Za
  (Am 25 rfl<|a_p [0] rfl (Zr9 (by kernel_rfl) rfl rfl u_0)<|Am 0 rfl<|a_g [0,45] (Qg_f rfl (fun hG=>Zq rfl rfl u_0))<|a_g [10,0] (Qg_f rfl (fun hG=>Zcg rfl rfl (Opd.gd hG u_0)))<|a_p [20,0] rfl (Zbh rfl rfl u_0 (fun hz=>(Opd.gd (bNF hz) u_1)))<|Am 0 rfl<|a_g [0,35] (Qg_f rfl (fun hG=>Zq rfl rfl u_0))<|a_g [10,0] (Qg_f rfl (fun hG=>Zf Zvq (Zk5 _ (Zbe h8 hG)) rfl rfl (.cons (Opd.gd hG u_0) .nil)))<|a_g [20,15] (Qg_f rfl (fun hG=>Zq rfl rfl u_0))<|a_g [30,10,0] (Qg_f rfl (fun hG=>Zkl rfl rfl (Opd.gd hG u_0) (Opd.gd hG u_1)))<|a_p [40,0] rfl (Zbh rfl rfl u_0 (fun hz=>(Opd.gd (bNF hz) u_1)))<|a_n) (fun a g hst hb=>?_)
 refine Zbp (fun a w=>∃ (g:G),w=g.w ∧ St 35 [(0,(pEq (ptrB b0 0))),(6,(pFlt r5.1)),(1002,(pRB Z8 0 b0 r1.2))] a g ∧ Base g0 g ∧ Zh1 r1 r5=some r) ?_ ?_
 ·rintro a w ⟨g,rfl,hst,hb,H0⟩
  unfold Zh1 at H0
  refine Zm ?_
  refine r_a [5,10,25] (L:=[(0,_),(6,_),(1002,_)]) hst hb Za
   (Am 15 rfl<|Aa 0 rfl<|a_n) (fun a g hst hb=>?_)
  refine wp_ret ?_
  obtain rfl:=Option.some.inj H0
  exact Zsr rfl hst hb (Zg (s:=2)) (hst.at 1 rfl) ⟨Zoj (hst.at 2 rfl),trivial⟩
 ·refine wp_cond_split (hst.bool 2 rfl) (fun hc9=>?_) (fun hc9=>?_)
  ·replace H0:=Zo hc9 H0
   cases H0
  ·replace H0:=Zp hc9 H0
   refine wp_skip ?_
   exact ⟨g,rfl,(hst.pick [0,1,3] rfl),hb,H0⟩
set_option maxHeartbeats 1000000 in
theorem Zou (a0:Z0) {r:Zb × Z0} (h:Zgj a0=some r):FnB Tryz.prog 70 [.box Z8 a0 r.2] (Ze.pd r.1):=by
 have H0:=h
 unfold Zgj at H0
 clear h
 refine Zok (N:=89) Tryz.func70 rfl rfl (Qe rfl) rfl rfl (fun a g0 bs hbs hst hb=>?_)
 obtain ⟨b0,rfl⟩:=Zqq hbs
 replace hst:St 89 [(0,(Zbf (some b0) Z8 0 a0))] _ _:=hst
 replace hst:St 89 [(0,(pEq (ptrB b0 0))),(1002,(pRB Z8 0 b0 a0))] _ _:=Zl3 hst
 refine r_a [5,0,15] (L:=[(0,_),(1002,_)]) hst hb Za
  (a_p (outs:=[(2,(pBox Ze 2 (default:Zb)))]) (S:=[3]) [] rfl (Zbl (zs:=[.int .i64 0,.int .i64 0,.int .i64 0,.int .i64 0,.float .f64 0,.int .i64 0,.string ByteArray.empty,.slice none 0 0]) (by kernel_rfl) (fun g=>Zb3 g) rfl rfl)<|a_n) (fun a g hst hb=>?_)
 refine r_a [5,15,0,25] (L:=[(0,_),(2,_),(1002,_)]) hst hb Za
  (a_p (outs:=[(3,(Zc5 none Zbc Zbi (hpL (pRow Zy 90 503 ((default:Zb).List))) 3 (default:Zb)))]) (S:=[4]) [] rfl (Zqh (R:=hpL (pRow Zy 90 503 ((default:Zb).List))) (zs:=[.int .i64 0,.int .i64 0,.int .i64 0,.int .i64 0,.float .f64 0,.int .i64 0,.string ByteArray.empty,.slice none 0 0]) (none,0,0) (by kernel_rfl) Zs5 (fun g=>Zm7 503 g) rfl rfl)<|a_n) (fun a g hst hb=>?_)
 obtain ⟨r1,h2,H0⟩:=Zc H0
 refine r_a [5,15,25,20,11] (L:=[(0,_),(2,_),(3,_),(1002,_)]) hst hb Za
  (Am 5 rfl<|a_p [0,35] rfl (Zd3 (m:=1002) (A:=[]) Zss (Zf9 _ h2) rfl rfl rfl (by decide) u_1 u_0 .nil)<|Aa 0 rfl<|a_n) (fun a g hst hb=>?_)
 refine wp_seq ?_
 refine r_a [5,15,25,35,0,45] (L:=[(0,_),(2,_),(3,_),(4,_),(1002,_)]) hst hb Za
  (a_p [] rfl (Zd rfl rfl c_i)<|a_n) (fun a g hst hb=>?_)
 obtain ⟨z13,hz1,H0⟩:=Zc H0
 refine Zbp (fun a w=>∃ (y11:Zb) (y12:Z0) (g:G),w=g.w ∧ St 89 [(0,(pEq (ptrB b0 0))),(2,(pBox Ze 2 (default:Zb))),(3,(Zc5 none Zbc Zbi (hpL (pRow Zy 90 503 y11.List)) 3 y11)),(1002,(pRB Z8 0 b0 y12))] a g ∧ Base g0 g ∧ (y11,y12)=z13) ?_ ?_
 ·rintro a w ⟨y11,y12,g,rfl,hst,hb,rfl⟩
  refine Zm ?_
  refine wp_seq ?_
  refine r_a [5,15,25,10,35] (L:=[(0,_),(2,_),(3,_),(1002,_)]) hst hb Za
   (a_p [25] rfl (Zf1 Zrx (off:=0) (by kernel_rfl) (fun _=>rfl) rfl rfl u_0)<|a_p [0] rfl (Zwl ty_3 rfl rfl u_0)<|a_n) (fun a g hst hb=>?_)
  refine Zbp (fun a w=>∃ (j53:Zb) (j54:Z0) (g:G),w=g.w ∧ St 89 [(0,(pEq (ptrB b0 0))),(2,(pBox Ze 2 (default:Zb))),(3,(Zc5 none Zbc Zbi (hpL (pRow Zy 90 503 j53.List)) 3 j53)),(1002,(pRB Z8 0 b0 j54))] a g ∧ Base g0 g ∧ Zc1 j53 j54=some r) ?_ ?_
  ·rintro a w ⟨j53,j54,g,rfl,hst,hb,H0⟩
   unfold Zc1 at H0
   refine Zm ?_
   refine r_a [5,10,35] (L:=[(0,_),(2,_),(3,_),(1002,_)]) hst hb Za
    (a_p [25] rfl (Zpq Zsy Zbm rfl rfl u_0)<|a_p [0,15] rfl (Z7 Zbm rfl rfl u_1 u_0)<|a_n) (fun a g hst hb=>?_)
   refine wp_ret ?_
   obtain rfl:=Option.some.inj H0
   obtain ⟨u0,hu0,hq0⟩:=Zbn (P:=Tryz.prog) Zbm (hst.at 1 rfl)
   exact Zsr rfl hst hb hu0 hq0 ⟨Zoj (hst.at 2 rfl),trivial⟩
  ·refine wp_block ?_
   refine r_a [5,15,25,35,10,45] (L:=[(0,_),(2,_),(3,_),(21,_),(1002,_)]) hst hb Za
    (a_p [35] rfl (Zbk rfl rfl u_0 c_i)<|Aa 0 rfl<|a_n) (fun a g hst hb=>?_)
   refine wp_cond_split (hst.bool 4 rfl) (fun hc14=>?_) (fun hc14=>?_)
   ·replace H0:=Zo hc14 H0
    cases H0
   ·replace H0:=Zp hc14 H0
    refine r_a [5,15,25,35,10,45] (L:=[(0,_),(2,_),(3,_),(21,_),(1002,_)]) (hst.pick [0,1,2,3,5] rfl) hb Za
     (a_p [35] rfl (Zbk rfl rfl u_0 c_i)<|Aa 0 rfl<|a_n) (fun a g hst hb=>?_)
    refine wp_cond_split (hst.bool 4 rfl) (fun hc15=>?_) (fun hc15=>?_)
    ·replace H0:=Zo hc15 H0
     obtain ⟨r16,h17,H0⟩:=Zc H0
     refine r_b [5,15,30,11] (L:=[(0,_),(2,_),(3,_),(1002,_)]) (hst.pick [0,1,2,5] rfl) hb Za
      (Am 5 rfl<|a_p [0,35] rfl (Zd3 (m:=1002) (A:=[]) Zvs (Zh4 _ h17) rfl rfl rfl (by decide) u_1 u_0 .nil)<|a_p [25] rfl (Zf1 Z2y (off:=6) (by kernel_rfl) (fun _=>rfl) rfl rfl u_0)<|a_p [10,0,25] rfl (Ziw (x':=({ y11 with Text:=r16.1 }:Zb)) ty_9 rfl rfl (fun k hk=>by rw [List.mem_singleton.1 hk];decide) u_2 u_1 u_0 (fun g cs s0 ys h k=>Zq8 h k))<|a_n) (fun a g hst hb=>?_)
     refine Zba ?_
     refine ⟨_,_,g,rfl,?_,hb,H0⟩
     exact (hst.pick [0,1,2,3] rfl)
    ·replace H0:=Zp hc15 H0
     refine wp_seq ?_
     refine r_a [5,15,25,35,10,45] (L:=[(0,_),(2,_),(3,_),(21,_),(1002,_)]) (hst.pick [0,1,2,3,5] rfl) hb Za
      (a_p [35] rfl (Zbk rfl rfl u_0 c_i)<|Aa 0 rfl<|a_n) (fun a g hst hb=>?_)
     refine Zbp (fun a w=>∃ (j19:Bool) (g:G),w=g.w ∧ St 89 [(0,(pEq (ptrB b0 0))),(2,(pBox Ze 2 (default:Zb))),(3,(Zc5 none Zbc Zbi (hpL (pRow Zy 90 503 y11.List)) 3 y11)),(21,(pInt .i64 y11.Kind)),(64,(Z5 j19)),(1002,(pRB Z8 0 b0 y12))] a g ∧ Base g0 g ∧ Zdg y11 y12 j19=some r) ?_ ?_
     ·rintro a w ⟨j19,g,rfl,hst,hb,H0⟩
      unfold Zdg at H0
      refine Zm ?_
      refine wp_cond_split (hst.bool 4 rfl) (fun hc20=>?_) (fun hc20=>?_)
      ·replace H0:=Zo hc20 H0
       obtain ⟨r21,h22,H0⟩:=Zc H0
       refine r_b [5,15,30,11] (L:=[(0,_),(2,_),(3,_),(1002,_)]) (hst.pick [0,1,2,5] rfl) hb Za
        (Am 5 rfl<|a_p [0,35] rfl (Zd3 (m:=1002) (A:=[]) Zqw (Zfn _ h22) rfl rfl rfl (by decide) u_1 u_0 .nil)<|a_p [25] rfl (Zf1 Zw4 (off:=1) (by kernel_rfl) (fun _=>rfl) rfl rfl u_0)<|a_p [10,0,25] rfl (Ziw (x':=({ y11 with Num:=r21.1 }:Zb)) ty_2 rfl rfl (fun k hk=>by rw [List.mem_singleton.1 hk];decide) u_2 u_1 u_0 (fun g cs s0 ys h k=>Zmd h k))<|a_n) (fun a g hst hb=>?_)
       refine Zba ?_
       refine ⟨_,_,g,rfl,?_,hb,H0⟩
       exact (hst.pick [0,1,2,3] rfl)
      ·replace H0:=Zp hc20 H0
       refine r_a [5,15,25,35,10,45] (L:=[(0,_),(2,_),(3,_),(21,_),(1002,_)]) (hst.pick [0,1,2,3,5] rfl) hb Za
        (a_p [35] rfl (Zbk rfl rfl u_0 c_i)<|Aa 0 rfl<|a_n) (fun a g hst hb=>?_)
       refine wp_cond_split (hst.bool 4 rfl) (fun hc23=>?_) (fun hc23=>?_)
       ·replace H0:=Zo hc23 H0
        obtain ⟨r24,h25,H0⟩:=Zc H0;obtain ⟨r26,h27,H0⟩:=Zc H0;obtain ⟨r28,h29,H0⟩:=Zc H0
        refine r_b [5,15,110,51] (L:=[(0,_),(2,_),(3,_),(1002,_)]) (hst.pick [0,1,2,5] rfl) hb Za
         (Am 5 rfl<|a_p [0,35] rfl (Zd3 (m:=1002) (A:=[]) Zqw (Zfn _ h25) rfl rfl rfl (by decide) u_1 u_0 .nil)<|Am 5 rfl<|a_p [0,11] rfl (Zd3 (m:=1002) (A:=[]) Zqw (Zfn _ h27) rfl rfl rfl (by decide) u_1 u_0 .nil)<|Am 5 rfl<|a_p [0,11] rfl (Zd3 (m:=1002) (A:=[]) Zqw (Zfn _ h29) rfl rfl rfl (by decide) u_1 u_0 .nil)<|a_p [25] rfl (Zf1 Z22 (off:=2) (by kernel_rfl) (fun _=>rfl) rfl rfl u_0)<|a_p [50,0,25] rfl (Ziw (x':=({ y11 with Low:=r24.1 }:Zb)) ty_2 rfl rfl (fun k hk=>by rw [List.mem_singleton.1 hk];decide) u_2 u_1 u_0 (fun g cs s0 ys h k=>Zq7 h k))<|a_p [0] rfl (Zf1 Z2j (off:=3) (by kernel_rfl) (fun _=>rfl) rfl rfl u_0)<|a_p [50,0,10] rfl (Ziw (x':=({ ({ y11 with Low:=r24.1 }:Zb) with High:=r26.1 }:Zb)) ty_2 rfl rfl (fun k hk=>by rw [List.mem_singleton.1 hk];decide) u_2 u_1 u_0 (fun g cs s0 ys h k=>Zq9 h k))<|a_p [0] rfl (Zf1 Zw4 (off:=1) (by kernel_rfl) (fun _=>rfl) rfl rfl u_0)<|a_p [50,0,10] rfl (Ziw (x':=({ ({ ({ y11 with Low:=r24.1 }:Zb) with High:=r26.1 }:Zb) with Num:=r28.1 }:Zb)) ty_2 rfl rfl (fun k hk=>by rw [List.mem_singleton.1 hk];decide) u_2 u_1 u_0 (fun g cs s0 ys h k=>Zmd h k))<|a_n) (fun a g hst hb=>?_)
        refine Zba ?_
        refine ⟨_,_,g,rfl,?_,hb,H0⟩
        exact (hst.pick [0,1,2,3] rfl)
       ·replace H0:=Zp hc23 H0
        refine wp_seq ?_
        refine r_a [5,15,25,35,10,45] (L:=[(0,_),(2,_),(3,_),(21,_),(1002,_)]) (hst.pick [0,1,2,3,5] rfl) hb Za
         (a_p [35] rfl (Zbk rfl rfl u_0 c_i)<|Aa 0 rfl<|a_n) (fun a g hst hb=>?_)
        refine Zbp (fun a w=>∃ (j32:Bool) (g:G),w=g.w ∧ St 89 [(0,(pEq (ptrB b0 0))),(2,(pBox Ze 2 (default:Zb))),(3,(Zc5 none Zbc Zbi (hpL (pRow Zy 90 503 y11.List)) 3 y11)),(81,(Z5 j32)),(1002,(pRB Z8 0 b0 y12))] a g ∧ Base g0 g ∧ Zc3 y11 y12 j32=some r) ?_ ?_
        ·rintro a w ⟨j32,g,rfl,hst,hb,H0⟩
         unfold Zc3 at H0
         refine Zm ?_
         refine wp_cond_split (hst.bool 3 rfl) (fun hc33=>?_) (fun hc33=>?_)
         ·replace H0:=Zo hc33 H0
          obtain ⟨r34,h35,H0⟩:=Zc H0
          refine r_b [5,15,30,11] (L:=[(0,_),(2,_),(3,_),(1002,_)]) (hst.pick [0,1,2,4] rfl) hb Za
           (Am 5 rfl<|a_p [0,35] rfl (Zd3 (m:=1002) (A:=[]) Zzg (Zjx _ h35) rfl rfl rfl (by decide) u_1 u_0 .nil)<|a_p [25] rfl (Zf1 Z3x (off:=4) (by kernel_rfl) (fun _=>rfl) rfl rfl u_0)<|a_p [10,0,25] rfl (Ziw (x':=({ y11 with Real:=r34.1 }:Zb)) Zdt rfl rfl (fun k hk=>by rw [List.mem_singleton.1 hk];decide) u_2 u_1 u_0 (fun g cs s0 ys h k=>Zra h k))<|a_n) (fun a g hst hb=>?_)
          refine Zba ?_
          refine ⟨_,_,g,rfl,?_,hb,H0⟩
          exact (hst.pick [0,1,2,3] rfl)
         ·replace H0:=Zp hc33 H0
          obtain ⟨r36,h37,H0⟩:=Zc H0
          refine r_a [5,15,25,20,11] (L:=[(0,_),(2,_),(3,_),(1002,_)]) (hst.pick [0,1,2,4] rfl) hb Za
           (Am 5 rfl<|a_p [0,35] rfl (Zd3 (m:=1002) (A:=[]) Zqw (Zfn _ h37) rfl rfl rfl (by decide) u_1 u_0 .nil)<|Aa 0 rfl<|a_n) (fun a g hst hb=>?_)
          refine wp_seq ?_
          refine r_a [5,15,25,35,50,45] (L:=[(0,_),(2,_),(3,_),(6,_),(1002,_)]) hst hb Za
           (Am 35 rfl<|a_p [0] rfl (Zco rfl rfl u_0 c_i)<|Am 0 rfl<|a_g [0,35] (Qg_f rfl (fun hG=>Zq rfl rfl u_0))<|a_g [10,0] (Qg_f rfl (fun hG=>Zcl rfl rfl (Opd.gd hG u_0) c_i))<|a_p [20,0] rfl (Zbh rfl rfl u_0 (fun hz=>(Opd.gd (bNF hz) u_1)))<|a_n) (fun a g hst hb=>?_)
          refine Zbp (fun a w=>∃ (g:G),w=g.w ∧ St 89 [(0,(pEq (ptrB b0 0))),(2,(pBox Ze 2 (default:Zb))),(3,(Zc5 none Zbc Zbi (hpL (pRow Zy 90 503 y11.List)) 3 y11)),(6,(pInt .i64 r36.1)),(1002,(pRB Z8 0 b0 r36.2))] a g ∧ Base g0 g ∧ Zgq y11 r36=some r) ?_ ?_
          ·rintro a w ⟨g,rfl,hst,hb,H0⟩
           unfold Zgq at H0
           refine Zm ?_
           refine r_a [5,15,20,45] (L:=[(0,_),(2,_),(3,_),(6,_),(1002,_)]) hst hb Za
            (Am 35 rfl<|a_p [25] rfl (Zf1 Z2t (off:=5) (by kernel_rfl) (fun _=>rfl) rfl rfl u_0)<|a_p [10,0,25] rfl (Ziw (x':=({ y11 with Cap:=r36.1 }:Zb)) ty_3 rfl rfl (fun k hk=>by rw [List.mem_singleton.1 hk];decide) u_2 u_1 u_0 (fun g cs s0 ys h k=>Zrc h k))<|a_n) (fun a g hst hb=>?_)
           obtain ⟨z52,hz2,H0⟩:=Zc H0
           refine Zbp (fun a w=>∃ (y50:Zb) (y51:Z0) (g:G),w=g.w ∧ St 89 [(0,(pEq (ptrB b0 0))),(2,(pBox Ze 2 (default:Zb))),(3,(Zc5 none Zbc Zbi (hpL (pRow Zy 90 503 y50.List)) 3 y50)),(1002,(pRB Z8 0 b0 y51))] a g ∧ Base g0 g ∧ (y50,y51)=z52) ?_ ?_
           ·rintro a w ⟨y50,y51,g,rfl,hst,hb,rfl⟩
            refine Zba ?_
            exact ⟨y50,y51,g,rfl,(hst.pick [0,1,2,3] rfl),hb,H0⟩
           ·refine wp_block ?_
            refine wp_loop_ghost (fun n a w=>∃ (x39:Zb) (x40:Z0) (g:G),w=g.w ∧ St 89 [(0,(pEq (ptrB b0 0))),(2,(pBox Ze 2 (default:Zb))),(3,(Zc5 none Zbc Zbi (hpL (pRow Zy 90 503 x39.List)) 3 x39)),(1002,(pRB Z8 0 b0 x40))] a g ∧ Base g0 g ∧ Zca n x39 x40=some z52) (Int.toNat ((r36.2.l.length:Int) - (0:Int)) + 1) ⟨({ y11 with Cap:=r36.1 }:Zb),r36.2,g,rfl,(hst.pick [0,1,2,3] rfl),hb,hz2⟩ (fun n a w hI=>?_)
            obtain ⟨x39,x40,g,rfl,hst,hb,H1⟩:=hI
            cases n with
            | zero=>exact absurd H1 (by simp [Zca])
            | succ n =>
             rw [Zca] at H1
             refine wp_seq ?_
             refine r_a [5,15,25,50,35] (L:=[(0,_),(2,_),(3,_),(1002,_)]) hst hb Za
              (Am 5 rfl<|a_p [0] rfl (Z6 rfl rfl u_0 (fun _ _ h=>⟨_,h⟩))<|a_p [0] rfl (Zkg Zmy rfl rfl u_0)<|a_p [0,35] rfl (Zls Zq0 (fun g cs h=>Zpk h) rfl rfl u_1 u_0)<|a_p [0] rfl (Zcc Tryz.underlying83 rfl rfl u_0)<|a_p [0] rfl (Zcl rfl rfl u_0 c_i)<|a_n) (fun a g hst hb=>?_)
             refine wp_cond_split (hst.bool 3 rfl) (fun hc41=>?_) (fun hc41=>?_)
             ·replace H1:=Zo hc41 H1
              refine wp_skip ?_
              refine Zm ?_
              refine wp_block ?_
              refine r_a [5,15,25,0,35] (L:=[(0,_),(2,_),(3,_),(1002,_)]) (hst.pick [0,1,2,4] rfl) hb Za
               (a_p (outs:=[(7,(pBox Zy 7 (default:Zu)))]) (S:=[8]) [] rfl (Zbl (zs:=[.float .f64 0,.string ByteArray.empty]) (by kernel_rfl) (fun g=>Zic g) rfl rfl)<|a_n) (fun a g hst hb=>?_)
              refine wp_seq ?_
              refine r_a [5,15,25,35,20,45] (L:=[(0,_),(2,_),(3,_),(7,_),(1002,_)]) hst hb Za
               (a_p [25] rfl (Zf1 Zrx (off:=0) (by kernel_rfl) (fun _=>rfl) rfl rfl u_0)<|a_p [0] rfl (Zwl ty_3 rfl rfl u_0)<|a_p [0] rfl (Zbk rfl rfl u_0 c_i)<|a_n) (fun a g hst hb=>?_)
              refine Zbp (fun a w=>∃ (j45:Zu) (j46:Z0) (g:G),w=g.w ∧ St 89 [(0,(pEq (ptrB b0 0))),(2,(pBox Ze 2 (default:Zb))),(3,(Zc5 none Zbc Zbi (hpL (pRow Zy 90 503 x39.List)) 3 x39)),(7,(pBox Zy 7 j45)),(1002,(pRB Z8 0 b0 j46))] a g ∧ Base g0 g ∧ Zd0 x39 (Zca n) j45 j46=some z52) ?_ ?_
              ·rintro a w ⟨j45,j46,g,rfl,hst,hb,H1⟩
               unfold Zd0 at H1
               refine Zm ?_
               obtain ⟨r47,h48,H1⟩:=Zc H1
               refine r_a [5,15,25,30,11] (L:=[(0,_),(2,_),(3,_),(7,_),(1002,_)]) hst hb Za
                (Am 5 rfl<|a_p [0,45] rfl (Zd3 (m:=1002) (A:=[]) Zvs (Zh4 _ h48) rfl rfl rfl (by decide) u_1 u_0 .nil)<|a_p [35] rfl (Zb5 Ze7 (off:=1) (by kernel_rfl) rfl rfl u_0)<|a_p [10,0,35] rfl (Z5m ty_9 rfl rfl u_2 u_1 u_0)<|a_n) (fun a g hst hb=>?_)
               obtain ⟨h49,H1⟩:=Zcm H1
               refine r_b [5,15,60,45] (L:=[(0,_),(2,_),(3,_),(7,_),(1002,_)]) hst hb Za
                (a_p [25] rfl (Zjy Zwc (off:=7) (q:=(pRow Zy 90 503 x39.List)) (by kernel_rfl) (pr:=id) (fun _=>rfl) (fun _ _ h=>h) rfl rfl u_0)<|a_p [0] rfl (Zpf Z1e rfl rfl u_0)<|AM Zgr 35 rfl<|a_p [0] rfl (Zfs Zvk (xs:=[.tmp 51]) (.cons u_0 .nil) (by decide) rfl rfl)<|a_p (outs:=[(3,(Zc5 none Zbc Zbi hpT 3 x39)),(53,(pRow Zy 90 503 (x39.List ++ ([({ j45 with Name:=r47.1 })]:List Zu))))]) (S:=[504]) [20,0,25] rfl (OB.frameU (Zdi Zvk rfl rfl u_0 u_1 h49) (Opd.imp u_2 (fun _ _ h=>Zzx h)) (fun k hk hS=>Zzs (List.mem_singleton.1 hk) (List.mem_singleton.1 hS) (by decide)) (fun h=>by cases h))<|a_p [0] rfl (Zjy Zwc (off:=7) (q:=pAny) (by kernel_rfl) (pr:=id) (fun _=>rfl) (fun _ _ _=>trivial) rfl rfl u_0)<|a_p [11,0,10] rfl (Zqm (x':=({ x39 with List:=(x39.List ++ ([({ j45 with Name:=r47.1 })]:List Zu)) }:Zb)) (R2:=hpL (pRow Zy 90 503 (({ x39 with List:=(x39.List ++ ([({ j45 with Name:=r47.1 })]:List Zu)) }:Zb).List))) (upd:=fun _ s2=>s2) Z1e rfl rfl (fun _ _ h=>Zth h) (fun k hk=>by rw [List.mem_singleton.1 hk];decide) (fun k hk=>by cases hk) u_2 (fun a g hh=>Ztl (u_1 a g hh)) u_0 (fun _ _ _ _ h=>h) (fun g cs s0 s1 ys h k=>Zta h k))<|a_n) (fun a g hst hb=>?_)
               refine Zba ?_
               exact ⟨n,Nat.lt_succ_self _,({ x39 with List:=(x39.List ++ ([({ j45 with Name:=r47.1 })]:List Zu)) }:Zb),r47.2,g,rfl,(hst.pick [0,1,2,3] rfl),hb,H1⟩
              ·refine wp_cond_split (hst.bool 4 rfl) (fun hc42=>?_) (fun hc42=>?_)
               ·replace H1:=Zo hc42 H1
                obtain ⟨r43,h44,H1⟩:=Zc H1
                refine r_b [5,15,25,30,11] (L:=[(0,_),(2,_),(3,_),(7,_),(1002,_)]) (hst.pick [0,1,2,3,5] rfl) hb Za
                 (Am 5 rfl<|a_p [0,45] rfl (Zd3 (m:=1002) (A:=[]) Zzg (Zjx _ h44) rfl rfl rfl (by decide) u_1 u_0 .nil)<|a_p [35] rfl (Zb5 Zev (off:=0) (by kernel_rfl) rfl rfl u_0)<|a_p [10,0,35] rfl (Z46 Zdt rfl rfl u_2 u_1 u_0)<|a_n) (fun a g hst hb=>?_)
                refine ⟨_,_,g,rfl,?_,hb,H1⟩
                exact (hst.pick [0,1,2,3,4] rfl)
               ·replace H1:=Zp hc42 H1
                refine wp_skip ?_
                exact ⟨(default:Zu),x40,g,rfl,(hst.pick [0,1,2,3,5] rfl),hb,H1⟩
             ·replace H1:=Zp hc41 H1
              refine wp_exit ?_
              refine Zbw ?_
              refine Zbw ?_
              refine Zb4 ?_
              exact ⟨x39,x40,g,rfl,(hst.pick [0,1,2,4] rfl),hb,Option.some.inj H1⟩
          ·refine wp_cond_split (hst.bool 4 rfl) (fun hc38=>?_) (fun hc38=>?_)
           ·replace H0:=Zo hc38 H0
            cases H0
           ·replace H0:=Zp hc38 H0
            refine wp_skip ?_
            exact ⟨g,rfl,(hst.pick [0,1,2,3,5] rfl),hb,H0⟩
        ·refine wp_cond_split (hst.bool 4 rfl) (fun hc30=>?_) (fun hc30=>?_)
         ·replace H0:=Zo hc30 H0
          refine wp_skip ?_
          exact ⟨(y11.Kind == (5:Int)),g,rfl,(hst.pick [0,1,2,4,5] rfl),hb,H0⟩
         ·replace H0:=Zp hc30 H0
          refine r_a [5,15,25,35,10,45] (L:=[(0,_),(2,_),(3,_),(21,_),(1002,_)]) (hst.pick [0,1,2,3,5] rfl) hb Za
           (a_p [35] rfl (Zbk rfl rfl u_0 c_i)<|Aa 0 rfl<|a_n) (fun a g hst hb=>?_)
          refine wp_cond_split (hst.bool 4 rfl) (fun hc31=>?_) (fun hc31=>?_)
          ·replace H0:=Zo hc31 H0
           refine wp_skip ?_
           exact ⟨(y11.Kind == (6:Int)),g,rfl,(hst.pick [0,1,2,4,5] rfl),hb,H0⟩
          ·replace H0:=Zp hc31 H0
           refine r_b [5,15,25,10,45] (L:=[(0,_),(2,_),(3,_),(21,_),(1002,_)]) (hst.pick [0,1,2,3,5] rfl) hb Za
            (a_p [35] rfl (Zbk rfl rfl u_0 c_i)<|Aa 0 rfl<|a_n) (fun a g hst hb=>?_)
           exact ⟨(y11.Kind == (7:Int)),g,rfl,(hst.pick [0,1,2,3,4] rfl),hb,H0⟩
     ·refine wp_cond_split (hst.bool 4 rfl) (fun hc18=>?_) (fun hc18=>?_)
      ·replace H0:=Zo hc18 H0
       refine wp_skip ?_
       exact ⟨(y11.Kind == (2:Int)),g,rfl,(hst.pick [0,1,2,3,4,5] rfl),hb,H0⟩
      ·replace H0:=Zp hc18 H0
       refine r_b [5,15,25,35,10,45] (L:=[(0,_),(2,_),(3,_),(21,_),(1002,_)]) (hst.pick [0,1,2,3,5] rfl) hb Za
        (a_p [35] rfl (Zbk rfl rfl u_0 c_i)<|Aa 0 rfl<|a_n) (fun a g hst hb=>?_)
       exact ⟨(y11.Kind == (3:Int)),g,rfl,(hst.pick [0,1,2,3,4,5] rfl),hb,H0⟩
 ·refine wp_block ?_
  refine wp_loop_ghost (fun n a w=>∃ (x3:Zb) (x4:Int) (x5:Z0) (g:G),w=g.w ∧ St 89 [(0,(pEq (ptrB b0 0))),(2,(pBox Ze 2 (default:Zb))),(3,(Zc5 none Zbc Zbi (hpL (pRow Zy 90 503 x3.List)) 3 x3)),(4,(pStr r1.1)),(5,(pInt .i64 x4)),(1002,(pRB Z8 0 b0 x5))] a g ∧ Base g0 g ∧ Zdk r1 n x3 x4 x5=some z13) (Int.toNat ((10:Int) - (1:Int)) + 1) ⟨(default:Zb),(1:Int),r1.2,g,rfl,(hst.pick [0,1,2,3,4,5] rfl),hb,hz1⟩ (fun n a w hI=>?_)
  obtain ⟨x3,x4,x5,g,rfl,hst,hb,H1⟩:=hI
  cases n with
  | zero=>exact absurd H1 (by simp [Zdk])
  | succ n =>
   rw [Zdk] at H1
   refine wp_seq ?_
   refine r_a [5,15,25,35,45,10,55] (L:=[(0,_),(2,_),(3,_),(4,_),(5,_),(1002,_)]) hst hb Za
    (Am 45 rfl<|a_p [0] rfl (Zco rfl rfl u_0 c_i)<|a_n) (fun a g hst hb=>?_)
   refine wp_cond_split (hst.bool 5 rfl) (fun hc6=>?_) (fun hc6=>?_)
   ·replace H1:=Zo hc6 H1
    refine wp_skip ?_
    refine Zm ?_
    refine wp_seq ?_
    refine Zbp (fun a w=>∃ (j10:Zb) (g:G),w=g.w ∧ St 89 [(0,(pEq (ptrB b0 0))),(2,(pBox Ze 2 (default:Zb))),(3,(Zc5 none Zbc Zbi (hpL (pRow Zy 90 503 j10.List)) 3 j10)),(4,(pStr r1.1)),(5,(pInt .i64 x4)),(1002,(pRB Z8 0 b0 x5))] a g ∧ Base g0 g ∧ Zgp x4 x5 (Zdk r1 n) j10=some z13) ?_ ?_
    ·rintro a w ⟨j10,g,rfl,hst,hb,H1⟩
     unfold Zgp at H1
     refine Zm ?_
     refine r_b [5,15,25,35,20,55] (L:=[(0,_),(2,_),(3,_),(4,_),(5,_),(1002,_)]) hst hb Za
      (Am 45 rfl<|a_p [0] rfl (Zb6 rfl rfl u_0 c_i rfl)<|Aa 0 rfl<|a_n) (fun a g hst hb=>?_)
     exact ⟨n,Nat.lt_succ_self _,j10,(IntKind.i64.wrap (x4 + (1:Int))),x5,g,rfl,(hst.pick [0,1,2,3,4,5] rfl),hb,H1⟩
    ·refine wp_block ?_
     obtain ⟨r7,h8,H1⟩:=Zc H1
     refine r_a [5,15,25,35,45,30,55] (L:=[(0,_),(2,_),(3,_),(4,_),(5,_),(1002,_)]) (hst.pick [0,1,2,3,4,6] rfl) hb Za
      (Am 45 rfl<|a_p [0] rfl (Zf Z4b (Zrh _ h8) rfl rfl (.cons u_0 .nil))<|Am 35 rfl<|a_p [10,0] rfl (Zir rfl rfl u_0 u_1)<|a_n) (fun a g hst hb=>?_)
     refine wp_cond_split (hst.bool 5 rfl) (fun hc9=>?_) (fun hc9=>?_)
     ·replace H1:=Zo hc9 H1
      refine r_b [5,15,20,35,45,55] (L:=[(0,_),(2,_),(3,_),(4,_),(5,_),(1002,_)]) (hst.pick [0,1,2,3,4,6] rfl) hb Za
       (Am 45 rfl<|a_p [25] rfl (Zf1 Zrx (off:=0) (by kernel_rfl) (fun _=>rfl) rfl rfl u_0)<|a_p [10,0,25] rfl (Ziw (x':=({ x3 with Kind:=x4 }:Zb)) ty_3 rfl rfl (fun k hk=>by rw [List.mem_singleton.1 hk];decide) u_2 u_1 u_0 (fun g cs s0 ys h k=>Zre h k))<|a_n) (fun a g hst hb=>?_)
      refine Zba ?_
      refine ⟨_,g,rfl,?_,hb,H1⟩
      exact (hst.pick [0,1,2,3,4,5] rfl)
     ·replace H1:=Zp hc9 H1
      refine wp_skip ?_
      refine Zba ?_
      exact ⟨x3,g,rfl,(hst.pick [0,1,2,3,4,6] rfl),hb,H1⟩
   ·replace H1:=Zp hc6 H1
    refine wp_exit ?_
    refine Zbw ?_
    refine Zbw ?_
    refine Zb4 ?_
    exact ⟨x3,x5,g,rfl,(hst.pick [0,1,2,6] rfl),hb,Option.some.inj H1⟩
theorem Zsf (a0:ByteArray) {r:Zr × Int} (h:Zj1 a0=some r):FnOk Tryz.prog 35 [(pStr a0)] (pTup [(Zx.pd r.1),(pInt .i64 r.2)]):=by
 have H0:=h
 unfold Zj1 at H0
 clear h
 refine Z0b (N:=80) Tryz.func35 rfl rfl (Qe rfl) rfl rfl (fun a g0 h0 hst hb=>?_)
 refine r_a [5,0,10] (L:=[(0,_)]) hst hb Za
  (a_p (outs:=[(2,(pBox Zx 2 (default:Zr)))]) (S:=[3]) [] rfl (Zbl (zs:=[.int .i64 0,.string ByteArray.empty,.int .i64 0,.float .f64 0,.string ByteArray.empty,.int .i64 0,.int .i64 0,.int .i64 0,.int .i64 0,.float .f64 0,.int .i64 0,.string ByteArray.empty,.slice none 0 0,.bool false]) (by kernel_rfl) (fun g=>Zi1 g) rfl rfl)<|a_p (outs:=[(3,(pBox (Kd.int .i64) 3 (0:Int)))]) (S:=[4]) [] rfl (Zbl (zs:=[.int .i64 0]) (by kernel_rfl) (fun g=>rfl) rfl rfl)<|a_n) (fun a g hst hb=>?_)
 obtain ⟨b4,e4,q4⟩:=Zqv (hst.at 1 rfl)
 obtain ⟨b5,e5,q5⟩:=Zqv (hst.at 2 rfl)
 refine wp_seq ?_
 refine Z05 (f:=63) (d1:=10) (x1:=2) (x2:=3) ?_ ?_ ?_ ?_ ?_ ?_ ?_ e4 e5 hst.df ?_
 ·rfl
 ·rfl
 ·rfl
 ·rfl
 ·rfl
 ·rfl
 ·rw [hst.size];decide
 replace hst:StD (dfr2 63 b4 b5) 80 [(0,(pStr a0)),(2,(Zbf (some b4) Zx 2 (default:Zr))),(3,(Zbf (some b5) (Kd.int .i64) 3 (0:Int)))] (dact a 10 (.func (.func 63) #[] #[ptrV b4,ptrV b5]) (dfr2 63 b4 b5)) g:=⟨(Zmw ..).trans hst.size,rfl,(Zdz (Zli (by decide) (hst.at 0 rfl)) (Zdz (Zli (by decide) q4) (Zdz (Zli (by decide) q5) Zlx)))⟩
 refine Zm ?_
 obtain ⟨r1,h2,H0⟩:=Zc H0
 refine r_a [15,25,40] (L:=[(0,_),(2,_),(3,_)]) hst hb Za
  (Am 5 rfl<|a_p [0] rfl (Zf Z4t (Zm2 _ _ h2) rfl rfl (.cons u_0 (.cons c_s .nil)))<|a_p [0] rfl (Z29 rfl rfl u_0)<|a_p (outs:=[(14,(pBox Z8 4 ({ l:=r1 }:Z0)))]) (S:=[5]) [0] rfl (Zq5 rfl rfl u_0)<|Aa 0 rfl<|a_n) (fun a g hst hb=>?_)
 obtain ⟨r3,h4,H0⟩:=Zc H0;obtain ⟨r5,h6,H0⟩:=Zc H0
 refine r_a [5,15,11,60,70] (L:=[(2,_),(3,_),(4,_)]) hst hb Za
  (Am 25 rfl<|a_p (outs:=[(17,(pStr r3.1)),(4,(pBox Z8 4 r3.2))]) (S:=[5]) [0,25] rfl (Zkt (hs:=[(4,none,4)]) Zss (Zf9 _ h4) rfl rfl rfl (.box u_1 u_0 rfl .nil) rfl rfl rfl)<|a_p [0] rfl (Zf Z8n (Zpd _ _ h6) rfl rfl (.cons u_0 (.cons c_s .nil)))<|Am 0 rfl<|a_p [0] rfl (Zz rfl rfl u_0 rfl)<|a_p [10] rfl (Zz rfl rfl u_0 rfl)<|Aa 10 rfl<|Aa 10 rfl<|a_n) (fun a g hst hb=>?_)
 refine r_a [5,15,25,35,30] (L:=[(2,_),(3,_),(4,_),(5,_),(6,_)]) hst hb Za
  (Am 45 rfl<|a_p [0] rfl (Z52 rfl rfl u_0)<|a_p (outs:=[(7,(pBox Zx 7 (default:Zr)))]) (S:=[8]) [] rfl (Zbl (zs:=[.int .i64 0,.string ByteArray.empty,.int .i64 0,.float .f64 0,.string ByteArray.empty,.int .i64 0,.int .i64 0,.int .i64 0,.int .i64 0,.float .f64 0,.int .i64 0,.string ByteArray.empty,.slice none 0 0,.bool false]) (by kernel_rfl) (fun g=>Zi1 g) rfl rfl)<|a_p [10,0] rfl (Z7 Zem rfl rfl u_1 u_0)<|a_n) (fun a g hst hb=>?_)
 refine wp_seq ?_
 refine r_a [5,15,25,35,45,0] (L:=[(2,_),(3,_),(4,_),(5,_),(7,_)]) hst hb Za
  (a_p [] rfl (Zd rfl rfl c_i)<|a_n) (fun a g hst hb=>?_)
 obtain ⟨z15,hz1,H0⟩:=Zc H0
 refine Zbp (fun a w=>∃ (y14:Zr) (g:G),w=g.w ∧ StD (dfr2 63 b4 b5) 80 [(2,(Zbf (some b4) Zx 2 (default:Zr))),(3,(Zbf (some b5) (Kd.int .i64) 3 (0:Int))),(4,(pBox Z8 4 r3.2)),(7,(pBox Zx 7 y14))] a g ∧ Base g0 g ∧ y14=z15) ?_ ?_
 ·rintro a w ⟨y14,g,rfl,hst,hb,rfl⟩
  refine Zm ?_
  refine wp_seq ?_
  refine r_a [5,15,25,35,20] (L:=[(2,_),(3,_),(4,_),(7,_)]) hst hb Za
   (a_p [35] rfl (Zb5 Zdw (off:=0) (by kernel_rfl) rfl rfl u_0)<|AP ty_3 0 rfl<|a_p [0] rfl (Zbk rfl rfl u_0 c_i)<|a_n) (fun a g hst hb=>?_)
  refine Zbp (fun a w=>∃ (g:G),w=g.w ∧ StD (dfr2 63 b4 b5) 80 [(2,(Zbf (some b4) Zx 2 (default:Zr))),(3,(Zbf (some b5) (Kd.int .i64) 3 (0:Int))),(4,(pBox Z8 4 r3.2)),(7,(pBox Zx 7 y14))] a g ∧ Base g0 g ∧ Zjn r3 y14=some r) ?_ ?_
  ·rintro a w ⟨g,rfl,hst,hb,H0⟩
   unfold Zjn at H0
   refine Zm ?_
   obtain ⟨r17,h18,H0⟩:=Zc H0
   refine r_a [5,15,11,30] (L:=[(2,_),(3,_),(4,_),(7,_)]) hst hb Za
    (Am 25 rfl<|a_p (outs:=[(39,(pStr r17.1)),(4,(pBox Z8 4 r17.2))]) (S:=[5]) [0,25] rfl (Zkt (hs:=[(4,none,4)]) Zvs (Zh4 _ h18) rfl rfl rfl (.box u_1 u_0 rfl .nil) rfl rfl rfl)<|a_p [35] rfl (Zb5 Zlh (off:=1) (by kernel_rfl) rfl rfl u_0)<|a_p [10,0,35] rfl (Z59 ty_9 rfl rfl u_2 u_1 u_0)<|a_n) (fun a g hst hb=>?_)
   refine wp_seq ?_
   obtain ⟨r19,h20,H0⟩:=Zc H0
   refine r_a [5,15,25,35,20] (L:=[(2,_),(3,_),(4,_),(7,_)]) hst hb Za
    (a_p [35] rfl (Zb5 Zdw (off:=0) (by kernel_rfl) rfl rfl u_0)<|AP ty_3 0 rfl<|a_p [0] rfl (Zf Znh (Zf8 _ _ h20) rfl rfl (.cons u_0 (.cons c_i .nil)))<|a_n) (fun a g hst hb=>?_)
   refine Zbp (fun a w=>∃ (j24:Z0) (j25:Zr) (g:G),w=g.w ∧ StD (dfr2 63 b4 b5) 80 [(2,(Zbf (some b4) Zx 2 (default:Zr))),(3,(Zbf (some b5) (Kd.int .i64) 3 (0:Int))),(4,(pBox Z8 4 j24)),(7,(pBox Zx 7 j25))] a g ∧ Base g0 g ∧ Zh0 j24 j25=some r) ?_ ?_
   ·rintro a w ⟨j24,j25,g,rfl,hst,hb,H0⟩
    unfold Zh0 at H0
    refine Zm ?_
    refine wp_seq ?_
    obtain ⟨r26,h27,H0⟩:=Zc H0
    refine r_a [5,15,25,35,20] (L:=[(2,_),(3,_),(4,_),(7,_)]) hst hb Za
     (a_p [35] rfl (Zb5 Zdw (off:=0) (by kernel_rfl) rfl rfl u_0)<|AP ty_3 0 rfl<|a_p [0] rfl (Zf Znh (Zf8 _ _ h27) rfl rfl (.cons u_0 (.cons c_i .nil)))<|a_n) (fun a g hst hb=>?_)
    refine Zbp (fun a w=>∃ (j31:Z0) (j32:Zr) (g:G),w=g.w ∧ StD (dfr2 63 b4 b5) 80 [(2,(Zbf (some b4) Zx 2 (default:Zr))),(3,(Zbf (some b5) (Kd.int .i64) 3 (0:Int))),(4,(pBox Z8 4 j31)),(7,(pBox Zx 7 j32))] a g ∧ Base g0 g ∧ Zhs j31 j32=some r) ?_ ?_
    ·rintro a w ⟨j31,j32,g,rfl,hst,hb,H0⟩
     unfold Zhs at H0
     refine Zm ?_
     refine wp_seq ?_
     obtain ⟨r33,h34,H0⟩:=Zc H0
     refine r_a [5,15,25,35,20] (L:=[(2,_),(3,_),(4,_),(7,_)]) hst hb Za
      (a_p [35] rfl (Zb5 Zdw (off:=0) (by kernel_rfl) rfl rfl u_0)<|AP ty_3 0 rfl<|a_p [0] rfl (Zf Znh (Zf8 _ _ h34) rfl rfl (.cons u_0 (.cons c_i .nil)))<|a_n) (fun a g hst hb=>?_)
     refine Zbp (fun a w=>∃ (j38:Z0) (j39:Zr) (g:G),w=g.w ∧ StD (dfr2 63 b4 b5) 80 [(2,(Zbf (some b4) Zx 2 (default:Zr))),(3,(Zbf (some b5) (Kd.int .i64) 3 (0:Int))),(4,(pBox Z8 4 j38)),(7,(pBox Zx 7 j39))] a g ∧ Base g0 g ∧ Zhx j38 j39=some r) ?_ ?_
     ·rintro a w ⟨j38,j39,g,rfl,hst,hb,H0⟩
      unfold Zhx at H0
      refine Zm ?_
      refine wp_seq ?_
      obtain ⟨r40,h41,H0⟩:=Zc H0
      refine r_a [5,15,25,35,20] (L:=[(2,_),(3,_),(4,_),(7,_)]) hst hb Za
       (a_p [35] rfl (Zb5 Zdw (off:=0) (by kernel_rfl) rfl rfl u_0)<|AP ty_3 0 rfl<|a_p [0] rfl (Zf Znh (Zf8 _ _ h41) rfl rfl (.cons u_0 (.cons c_i .nil)))<|a_n) (fun a g hst hb=>?_)
      refine Zbp (fun a w=>∃ (j45:Z0) (j46:Zr) (g:G),w=g.w ∧ StD (dfr2 63 b4 b5) 80 [(2,(Zbf (some b4) Zx 2 (default:Zr))),(3,(Zbf (some b5) (Kd.int .i64) 3 (0:Int))),(4,(pBox Z8 4 j45)),(7,(pBox Zx 7 j46))] a g ∧ Base g0 g ∧ Zhy j45 j46=some r) ?_ ?_
      ·rintro a w ⟨j45,j46,g,rfl,hst,hb,H0⟩
       unfold Zhy at H0
       refine Zm ?_
       refine wp_seq ?_
       refine r_a [5,15,35,50] (L:=[(2,_),(3,_),(4,_),(7,_)]) hst hb Za
        (Am 25 rfl<|a_p [0] rfl (Z6 rfl rfl u_0 (fun _ _ ⟨_,_,_,e,_⟩=>⟨_,e⟩))<|a_p [0] rfl (Zb5 Z3u (off:=0) (by kernel_rfl) rfl rfl u_0)<|AP Zq0 0 rfl<|a_p [0] rfl (Zcc Tryz.underlying83 rfl rfl u_0)<|a_p [0] rfl (Zcl rfl rfl u_0 c_i)<|a_n) (fun a g hst hb=>?_)
       refine Zbp (fun a w=>∃ (g:G),w=g.w ∧ StD (dfr2 63 b4 b5) 80 [(2,(Zbf (some b4) Zx 2 (default:Zr))),(3,(Zbf (some b5) (Kd.int .i64) 3 (0:Int))),(7,(pBox Zx 7 j46))] a g ∧ Base g0 g ∧ Zjo j46=some r) ?_ ?_
       ·rintro a w ⟨g,rfl,hst,hb,H0⟩
        unfold Zjo at H0
        refine Zm ?_
        refine wp_seq ?_
        obtain ⟨r48,h49,H0⟩:=Zc H0
        refine r_a [5,15,25,20] (L:=[(2,_),(3,_),(7,_)]) hst hb Za
         (AM Zem 25 rfl<|a_p [0] rfl (Zf Zvu (Zk7 _ h49) rfl rfl (.cons u_0 .nil))<|Aa 0 rfl<|a_n) (fun a g hst hb=>?_)
        refine r_a [5,15,25,35,10] (L:=[(2,_),(3,_),(7,_),(9,_)]) hst hb Za
         (Am 35 rfl<|a_p [0] rfl (Zcw rfl rfl u_0 c_i)<|a_n) (fun a g hst hb=>?_)
        refine wp_cond_split (hst.bool 4 rfl) (fun hc50=>?_) (fun hc50=>?_)
        ·replace H0:=Zo hc50 H0
         refine r_a [20,30] (L:=[(2,_),(3,_),(9,_)]) (hst.pick [0,1,3] rfl) hb Za
          (a_p [] rfl (Z65 rfl rfl )<|Am 25 rfl<|a_p [10,5] rfl (Z7 Zem rfl rfl u_1 u_0)<|a_p [10,15] rfl (Z7 Zlr rfl rfl u_1 u_0)<|a_n) (fun a g hst hb=>?_)
         refine wp_ret ?_
         refine Zl ?_
         obtain rfl:=Option.some.inj H0
         exact Zyt Zl1 Z33 rfl Zem Zlr hst hb (hst.at 0 rfl) (hst.at 1 rfl)
        ·replace H0:=Zp hc50 H0
         refine wp_skip ?_
         refine Zm ?_
         refine r_a [10,20] (L:=[(2,_),(3,_),(7,_)]) (hst.pick [0,1,2] rfl) hb Za
          (AM Zem 25 rfl<|a_p [0,5] rfl (Z7 Zem rfl rfl u_1 u_0)<|a_p [15] rfl (Z7 Zlr rfl rfl u_0 c_i)<|a_n) (fun a g hst hb=>?_)
         refine wp_ret ?_
         obtain rfl:=Option.some.inj H0
         exact Zyt Zl1 Z33 rfl Zem Zlr hst hb (hst.at 0 rfl) (hst.at 1 rfl)
       ·refine wp_cond_split (hst.bool 3 rfl) (fun hc47=>?_) (fun hc47=>?_)
        ·replace H0:=Zo hc47 H0
         cases H0
        ·replace H0:=Zp hc47 H0
         refine wp_skip ?_
         exact ⟨g,rfl,(hst.pick [0,1,2] rfl),hb,H0⟩
      ·refine wp_cond_split (hst.bool 4 rfl) (fun hc42=>?_) (fun hc42=>?_)
       ·replace H0:=Zo hc42 H0
        obtain ⟨r43,h44,H0⟩:=Zc H0
        refine r_b [5,15,11,30] (L:=[(2,_),(3,_),(4,_),(7,_)]) (hst.pick [0,1,2,3] rfl) hb Za
         (Am 25 rfl<|a_p (outs:=[(63,(Ze.pd r43.1)),(4,(pBox Z8 4 r43.2))]) (S:=[5]) [0,25] rfl (Zkt (hs:=[(4,none,4)]) Z8s (Zou _ h44) rfl rfl rfl (.box u_1 u_0 rfl .nil) rfl rfl rfl)<|a_p [35] rfl (Zb5 Zmp (off:=5) (by kernel_rfl) rfl rfl u_0)<|a_p [10,0,35] rfl (Z4z Zbm rfl rfl u_2 u_1 u_0)<|a_n) (fun a g hst hb=>?_)
        refine ⟨_,_,g,rfl,?_,hb,H0⟩
        exact (hst.pick [0,1,2,3] rfl)
       ·replace H0:=Zp hc42 H0
        refine wp_skip ?_
        exact ⟨j38,j39,g,rfl,(hst.pick [0,1,2,3] rfl),hb,H0⟩
     ·refine wp_cond_split (hst.bool 4 rfl) (fun hc35=>?_) (fun hc35=>?_)
      ·replace H0:=Zo hc35 H0
       obtain ⟨r36,h37,H0⟩:=Zc H0
       refine r_b [5,15,11,30] (L:=[(2,_),(3,_),(4,_),(7,_)]) (hst.pick [0,1,2,3] rfl) hb Za
        (Am 25 rfl<|a_p (outs:=[(57,(pStr r36.1)),(4,(pBox Z8 4 r36.2))]) (S:=[5]) [0,25] rfl (Zkt (hs:=[(4,none,4)]) Zvs (Zh4 _ h37) rfl rfl rfl (.box u_1 u_0 rfl .nil) rfl rfl rfl)<|a_p [35] rfl (Zb5 Zn4 (off:=4) (by kernel_rfl) rfl rfl u_0)<|a_p [10,0,35] rfl (Z5x ty_9 rfl rfl u_2 u_1 u_0)<|a_n) (fun a g hst hb=>?_)
       refine ⟨_,_,g,rfl,?_,hb,H0⟩
       exact (hst.pick [0,1,2,3] rfl)
      ·replace H0:=Zp hc35 H0
       refine wp_skip ?_
       exact ⟨j31,j32,g,rfl,(hst.pick [0,1,2,3] rfl),hb,H0⟩
    ·refine wp_cond_split (hst.bool 4 rfl) (fun hc28=>?_) (fun hc28=>?_)
     ·replace H0:=Zo hc28 H0
      obtain ⟨r29,h30,H0⟩:=Zc H0
      refine r_b [5,15,11,30] (L:=[(2,_),(3,_),(4,_),(7,_)]) (hst.pick [0,1,2,3] rfl) hb Za
       (Am 25 rfl<|a_p (outs:=[(51,(pFlt r29.1)),(4,(pBox Z8 4 r29.2))]) (S:=[5]) [0,25] rfl (Zkt (hs:=[(4,none,4)]) Zzg (Zjx _ h30) rfl rfl rfl (.box u_1 u_0 rfl .nil) rfl rfl rfl)<|a_p [35] rfl (Zb5 Zqx (off:=3) (by kernel_rfl) rfl rfl u_0)<|a_p [10,0,35] rfl (Z43 Zdt rfl rfl u_2 u_1 u_0)<|a_n) (fun a g hst hb=>?_)
      refine ⟨_,_,g,rfl,?_,hb,H0⟩
      exact (hst.pick [0,1,2,3] rfl)
     ·replace H0:=Zp hc28 H0
      refine wp_skip ?_
      exact ⟨j24,j25,g,rfl,(hst.pick [0,1,2,3] rfl),hb,H0⟩
   ·refine wp_cond_split (hst.bool 4 rfl) (fun hc21=>?_) (fun hc21=>?_)
    ·replace H0:=Zo hc21 H0
     obtain ⟨r22,h23,H0⟩:=Zc H0
     refine r_b [5,15,11,30] (L:=[(2,_),(3,_),(4,_),(7,_)]) (hst.pick [0,1,2,3] rfl) hb Za
      (Am 25 rfl<|a_p (outs:=[(45,(pInt .i64 r22.1)),(4,(pBox Z8 4 r22.2))]) (S:=[5]) [0,25] rfl (Zkt (hs:=[(4,none,4)]) Zqw (Zfn _ h23) rfl rfl rfl (.box u_1 u_0 rfl .nil) rfl rfl rfl)<|a_p [35] rfl (Zb5 Zom (off:=2) (by kernel_rfl) rfl rfl u_0)<|a_p [10,0,35] rfl (Z5u ty_2 rfl rfl u_2 u_1 u_0)<|a_n) (fun a g hst hb=>?_)
     refine ⟨_,_,g,rfl,?_,hb,H0⟩
     exact (hst.pick [0,1,2,3] rfl)
    ·replace H0:=Zp hc21 H0
     refine wp_skip ?_
     refine ⟨_,_,g,rfl,?_,hb,H0⟩
     exact (hst.pick [0,1,2,3] rfl)
  ·refine wp_cond_split (hst.bool 4 rfl) (fun hc16=>?_) (fun hc16=>?_)
   ·replace H0:=Zo hc16 H0
    cases H0
   ·replace H0:=Zp hc16 H0
    refine wp_skip ?_
    exact ⟨g,rfl,(hst.pick [0,1,2,3] rfl),hb,H0⟩
 ·refine wp_block ?_
  refine wp_loop_ghost (fun n a w=>∃ (x7:Zr) (x8:Int) (g:G),w=g.w ∧ StD (dfr2 63 b4 b5) 80 [(2,(Zbf (some b4) Zx 2 (default:Zr))),(3,(Zbf (some b5) (Kd.int .i64) 3 (0:Int))),(4,(pBox Z8 4 r3.2)),(5,(pStr r5.1)),(7,(pBox Zx 7 x7)),(8,(pInt .i64 x8))] a g ∧ Base g0 g ∧ Zer r5 n x7 x8=some z15) (Int.toNat ((22:Int) - (1:Int)) + 1) ⟨({ Kind:=(0:Int),Key:=ByteArray.empty,N:=(0:Int),X:=(0:Nat),S:=ByteArray.empty,Make:=(default:Zb),Must:=r5.2 }:Zr),(1:Int),g,rfl,(hst.pick [0,1,2,3,4,5] rfl),hb,hz1⟩ (fun n a w hI=>?_)
  obtain ⟨x7,x8,g,rfl,hst,hb,H1⟩:=hI
  cases n with
  | zero=>exact absurd H1 (by simp [Zer])
  | succ n =>
   rw [Zer] at H1
   refine wp_seq ?_
   refine r_a [5,15,25,35,45,55,10] (L:=[(2,_),(3,_),(4,_),(5,_),(7,_),(8,_)]) hst hb Za
    (Am 55 rfl<|a_p [0] rfl (Zco rfl rfl u_0 c_i)<|a_n) (fun a g hst hb=>?_)
   refine wp_cond_split (hst.bool 6 rfl) (fun hc9=>?_) (fun hc9=>?_)
   ·replace H1:=Zo hc9 H1
    refine wp_skip ?_
    refine Zm ?_
    refine wp_seq ?_
    refine Zbp (fun a w=>∃ (j13:Zr) (g:G),w=g.w ∧ StD (dfr2 63 b4 b5) 80 [(2,(Zbf (some b4) Zx 2 (default:Zr))),(3,(Zbf (some b5) (Kd.int .i64) 3 (0:Int))),(4,(pBox Z8 4 r3.2)),(5,(pStr r5.1)),(7,(pBox Zx 7 j13)),(8,(pInt .i64 x8))] a g ∧ Base g0 g ∧ Zjk x8 (Zer r5 n) j13=some z15) ?_ ?_
    ·rintro a w ⟨j13,g,rfl,hst,hb,H1⟩
     unfold Zjk at H1
     refine Zm ?_
     refine r_b [5,15,25,35,45,20] (L:=[(2,_),(3,_),(4,_),(5,_),(7,_),(8,_)]) hst hb Za
      (Am 55 rfl<|a_p [0] rfl (Zb6 rfl rfl u_0 c_i rfl)<|Aa 0 rfl<|a_n) (fun a g hst hb=>?_)
     exact ⟨n,Nat.lt_succ_self _,j13,(IntKind.i64.wrap (x8 + (1:Int))),g,rfl,(hst.pick [0,1,2,3,4,5] rfl),hb,H1⟩
    ·refine wp_block ?_
     obtain ⟨r10,h11,H1⟩:=Zc H1
     refine r_a [5,15,25,35,45,55,30] (L:=[(2,_),(3,_),(4,_),(5,_),(7,_),(8,_)]) (hst.pick [0,1,2,3,4,5] rfl) hb Za
      (Am 55 rfl<|a_p [0] rfl (Zf Z32 (Zrp _ h11) rfl rfl (.cons u_0 .nil))<|Am 35 rfl<|a_p [10,0] rfl (Zir rfl rfl u_0 u_1)<|a_n) (fun a g hst hb=>?_)
     refine wp_cond_split (hst.bool 6 rfl) (fun hc12=>?_) (fun hc12=>?_)
     ·replace H1:=Zo hc12 H1
      refine r_b [5,15,25,35,20,55] (L:=[(2,_),(3,_),(4,_),(5,_),(7,_),(8,_)]) (hst.pick [0,1,2,3,4,5] rfl) hb Za
       (Am 55 rfl<|a_p [45] rfl (Zb5 Zdw (off:=0) (by kernel_rfl) rfl rfl u_0)<|a_p [10,0,45] rfl (Z5a ty_3 rfl rfl u_2 u_1 u_0)<|a_n) (fun a g hst hb=>?_)
      refine Zba ?_
      refine ⟨_,g,rfl,?_,hb,H1⟩
      exact (hst.pick [0,1,2,3,4,5] rfl)
     ·replace H1:=Zp hc12 H1
      refine wp_skip ?_
      refine Zba ?_
      exact ⟨x7,g,rfl,(hst.pick [0,1,2,3,4,5] rfl),hb,H1⟩
   ·replace H1:=Zp hc9 H1
    refine wp_exit ?_
    refine Zbw ?_
    refine Zbw ?_
    refine Zb4 ?_
    exact ⟨x7,g,rfl,(hst.pick [0,1,2,4] rfl),hb,Option.some.inj H1⟩
theorem Zru (a0:ByteArray) {r:Zbq × Int} (h:Zhh a0=some r):FnOk Tryz.prog 13 [(pStr a0)] (pTup [(Zdr.pd r.1),(pInt .i64 r.2)]):=by
 have H0:=h
 unfold Zhh at H0
 clear h
 refine Zbs (N:=44) Tryz.func13 rfl rfl (Qe rfl) rfl rfl (fun a g0 hst hb=>?_)
 refine r_a [5,0] (L:=[(0,_)]) hst hb Za
  (a_p (outs:=[(2,(pBox Zdr 2 (default:Zbq)))]) (S:=[3]) [] rfl (Zbl (zs:=[.slice none 0 0]) (by kernel_rfl) (fun g=>Zrj g) rfl rfl)<|a_p [] rfl (Zd rfl rfl c_i)<|a_n) (fun a g hst hb=>?_)
 refine r_a [5,15,0] (L:=[(0,_),(2,_)]) hst hb Za
  (a_p (outs:=[(4,(Zc5 none Zfg Ze5 (hpL (pRow Zx 43 504 ((default:Zbq).Acts))) 4 (default:Zbq)))]) (S:=[5]) [] rfl (Zqh (R:=hpL (pRow Zx 43 504 ((default:Zbq).Acts))) (zs:=[.slice none 0 0]) (none,0,0) (by kernel_rfl) Zu4 (fun g=>Zm7 504 g) rfl rfl)<|a_n) (fun a g hst hb=>?_)
 refine wp_seq ?_
 obtain ⟨r1,h2,H0⟩:=Zc H0
 refine r_a [15,25,10,20,30] (L:=[(0,_),(2,_),(4,_)]) hst hb Za
  (Am 5 rfl<|a_p [0] rfl (Zf Z4t (Zm2 _ _ h2) rfl rfl (.cons u_0 (.cons c_s .nil)))<|a_p [0] rfl (Zcc Tryz.underlying83 rfl rfl u_0)<|a_p [] rfl (Zq rfl rfl c_i)<|a_n) (fun a g hst hb=>?_)
 obtain ⟨z15,hz1,H0⟩:=Zc H0
 refine Zbp (fun a w=>∃ (y13:Zbq) (y14:Zbq) (g:G),w=g.w ∧ St 44 [(2,(pBox Zdr 2 y13)),(4,(Zc5 none Zfg Ze5 (hpL (pRow Zx 43 504 y14.Acts)) 4 y14))] a g ∧ Base g0 g ∧ (.inr (y13,y14))=z15) ?_ ?_
 ·rintro a w ⟨y13,y14,g,rfl,hst,hb,rfl⟩
  refine Zm ?_
  refine wp_seq ?_
  obtain ⟨r16,h17,H0⟩:=Zc H0
  refine r_a [5,15,50] (L:=[(2,_),(4,_)]) hst hb Za
   (a_p [15] rfl (Zpq Zpu Zj5 rfl rfl u_0)<|a_p [0] rfl (Zf Zzd (Zmb _ h17) rfl rfl (.cons u_0 .nil))<|Am 0 rfl<|a_p [0] rfl (Zz rfl rfl u_0 rfl)<|a_p [10] rfl (Zz rfl rfl u_0 rfl)<|Aa 10 rfl<|Aa 10 rfl<|a_n) (fun a g hst hb=>?_)
  refine r_a [5,15,25,10] (L:=[(2,_),(4,_),(9,_)]) hst hb Za
   (Am 25 rfl<|a_p [0] rfl (Zcw rfl rfl u_0 c_i)<|a_n) (fun a g hst hb=>?_)
  refine wp_cond_split (hst.bool 3 rfl) (fun hc18=>?_) (fun hc18=>?_)
  ·replace H0:=Zo hc18 H0
   refine r_a [20,30] (L:=[(2,_),(9,_)]) (hst.pick [0,2] rfl) hb Za
    (a_p [] rfl (Z1q rfl rfl )<|Am 15 rfl<|a_p [10,5] rfl (Z7 Zj5 rfl rfl u_1 u_0)<|Aa 10 rfl<|a_n) (fun a g hst hb=>?_)
   refine wp_ret ?_
   refine Zl ?_
   obtain rfl:=Option.some.inj H0
   obtain ⟨u0,hu0,hq0⟩:=Zbn (P:=Tryz.prog) Zj5 (hst.at 0 rfl)
   exact Zdl rfl hst hb hu0 (Zg (s:=3)) (Zch hq0 (hst.at 1 rfl))
  ·replace H0:=Zp hc18 H0
   refine wp_skip ?_
   refine Zm ?_
   refine r_a [10,20] (L:=[(2,_),(4,_)]) (hst.pick [0,1] rfl) hb Za
    (a_p [15] rfl (Zpq Zpu Zj5 rfl rfl u_0)<|a_p [0,5] rfl (Z7 Zj5 rfl rfl u_1 u_0)<|a_p [] rfl (Zd rfl rfl c_i)<|a_n) (fun a g hst hb=>?_)
   refine wp_ret ?_
   obtain rfl:=Option.some.inj H0
   obtain ⟨u0,hu0,hq0⟩:=Zbn (P:=Tryz.prog) Zj5 (hst.at 0 rfl)
   exact Zdl rfl hst hb hu0 (Zg (s:=3)) (Zch hq0 (hst.at 1 rfl))
 ·refine wp_block ?_
  refine wp_loop_ghost (fun n a w=>∃ (x3:Zbq) (x4:Zbq) (x5:Int) (g:G),w=g.w ∧ St 44 [(2,(pBox Zdr 2 x3)),(4,(Zc5 none Zfg Ze5 (hpL (pRow Zx 43 504 x4.Acts)) 4 x4)),(12,(Kd.str.sl.pd r1)),(13,(pInt .i64 (r1.length:Int))),(14,(pInt .i64 x5))] a g ∧ Base g0 g ∧ Ze2 r1 n x3 x4 x5=some z15) (Int.toNat ((r1.length:Int) - (0:Int)) + 1) ⟨(default:Zbq),(default:Zbq),(0:Int),g,rfl,(hst.pick [0,1,2,3,4] rfl),hb,hz1⟩ (fun n a w hI=>?_)
  obtain ⟨x3,x4,x5,g,rfl,hst,hb,H1⟩:=hI
  cases n with
  | zero=>exact absurd H1 (by simp [Ze2])
  | succ n =>
   rw [Ze2] at H1
   refine r_a [5,15,25,35,45,0] (L:=[(2,_),(4,_),(12,_),(13,_),(14,_)]) hst hb Za
    (a_p [45,35] rfl (Zco rfl rfl u_0 u_1)<|a_n) (fun a g hst hb=>?_)
   refine wp_seq ?_
   refine wp_cond_split (hst.bool 5 rfl) (fun hc6=>?_) (fun hc6=>?_)
   ·replace H1:=Zo hc6 H1
    refine wp_skip ?_
    refine Zm ?_
    refine wp_seq ?_
    refine wp_block ?_
    obtain ⟨e7,h8,H1⟩:=Zc H1
    refine r_a [5,15,20,25,35,45] (L:=[(2,_),(4,_),(12,_),(13,_),(14,_)]) (hst.pick [0,1,2,3,4] rfl) hb Za
     (a_p [25,45] rfl (Zbz Tryz.underlying83 sz_9 rfl rfl u_0 u_1 h8)<|Al ty_9 0 rfl<|Aa 0 rfl<|a_n) (fun a g hst hb=>?_)
    obtain ⟨r9,h10,H1⟩:=Zc H1
    refine r_a [5,15,60,70,35,45,55] (L:=[(2,_),(4,_),(6,_),(12,_),(13,_),(14,_)]) hst hb Za
     (Am 25 rfl<|a_p [0] rfl (Zf Z7p (Zsf _ h10) rfl rfl (.cons u_0 .nil))<|Am 0 rfl<|a_p [0] rfl (Zz rfl rfl u_0 rfl)<|a_p [10] rfl (Zz rfl rfl u_0 rfl)<|a_p (outs:=[(7,(pBox Zx 7 (default:Zr)))]) (S:=[8]) [] rfl (Zbl (zs:=[.int .i64 0,.string ByteArray.empty,.int .i64 0,.float .f64 0,.string ByteArray.empty,.int .i64 0,.int .i64 0,.int .i64 0,.int .i64 0,.float .f64 0,.int .i64 0,.string ByteArray.empty,.slice none 0 0,.bool false]) (by kernel_rfl) (fun g=>Zi1 g) rfl rfl)<|a_p [20,0] rfl (Zb9 Zem rfl rfl u_1 u_0)<|Aa 20 rfl<|a_n) (fun a g hst hb=>?_)
    refine wp_seq ?_
    refine r_a [5,15,25,35,45,55,65,10] (L:=[(2,_),(4,_),(7,_),(8,_),(12,_),(13,_),(14,_)]) hst hb Za
     (Am 35 rfl<|a_p [0] rfl (Zcw rfl rfl u_0 c_i)<|a_n) (fun a g hst hb=>?_)
    refine wp_cond_split (hst.bool 7 rfl) (fun hc11=>?_) (fun hc11=>?_)
    ·replace H1:=Zo hc11 H1
     refine r_a [20,30] (L:=[(2,_),(8,_)]) (hst.pick [0,3] rfl) hb Za
      (a_p [] rfl (Z1q rfl rfl )<|Am 15 rfl<|a_p [10,5] rfl (Z7 Zj5 rfl rfl u_1 u_0)<|Aa 10 rfl<|a_n) (fun a g hst hb=>?_)
     refine wp_ret ?_
     refine Zl ?_
     refine Zw ?_
     refine Zl ?_
     refine Zl ?_
     refine Zw ?_
     refine Zl ?_
     refine Zl ?_
     obtain rfl:=Option.some.inj H1
     obtain rfl:=Option.some.inj H0
     obtain ⟨u0,hu0,hq0⟩:=Zbn (P:=Tryz.prog) Zj5 (hst.at 0 rfl)
     exact Zdl rfl hst hb hu0 (Zg (s:=3)) (Zch hq0 (hst.at 1 rfl))
    ·replace H1:=Zp hc11 H1
     refine wp_skip ?_
     refine Zm ?_
     obtain ⟨h12,H1⟩:=Zcm H1
     refine r_b [5,60,35,45,55] (L:=[(2,_),(4,_),(7,_),(12,_),(13,_),(14,_)]) (hst.pick [0,1,2,4,5,6] rfl) hb Za
      (a_p [15] rfl (Zjy Zw9 (off:=0) (q:=(pRow Zx 43 504 x4.Acts)) (by kernel_rfl) (pr:=id) (fun _=>rfl) (fun _ _ h=>h) rfl rfl u_0)<|a_p [0] rfl (Zpf Z1d rfl rfl u_0)<|Al Zem 25 rfl<|a_p [0] rfl (Zfs Zzq (xs:=[.tmp 29]) (.cons u_0 .nil) (by decide) rfl rfl)<|a_p (outs:=[(4,(Zc5 none Zfg Ze5 hpT 4 x4)),(31,(pRow Zx 43 504 (x4.Acts ++ ([r9.1]:List Zr))))]) (S:=[505]) [20,0,15] rfl (OB.frameU (Zdi Zzq rfl rfl u_0 u_1 h12) (Opd.imp u_2 (fun _ _ h=>Zzx h)) (fun k hk hS=>Zzs (List.mem_singleton.1 hk) (List.mem_singleton.1 hS) (by decide)) (fun h=>by cases h))<|a_p [0] rfl (Zjy Zw9 (off:=0) (q:=pAny) (by kernel_rfl) (pr:=id) (fun _=>rfl) (fun _ _ _=>trivial) rfl rfl u_0)<|a_p [11,0,10] rfl (Zqm (x':=({ x4 with Acts:=(x4.Acts ++ ([r9.1]:List Zr)) }:Zbq)) (R2:=hpL (pRow Zx 43 504 (({ x4 with Acts:=(x4.Acts ++ ([r9.1]:List Zr)) }:Zbq).Acts))) (upd:=fun _ s2=>s2) Z1d rfl rfl (fun _ _ h=>Zth h) (fun k hk=>by rw [List.mem_singleton.1 hk];decide) (fun k hk=>by cases hk) u_2 (fun a g hh=>Ztl (u_1 a g hh)) u_0 (fun _ _ _ _ h=>h) (fun g cs s0 s1 ys h k=>Zu5 h k))<|a_n) (fun a g hst hb=>?_)
     refine Zba ?_
     refine Zm ?_
     refine r_b [5,15,25,35,10] (L:=[(2,_),(4,_),(12,_),(13,_),(14,_)]) hst hb Za
      (a_p [45] rfl (Zb6 rfl rfl u_0 c_i rfl)<|Am 0 rfl<|a_n) (fun a g hst hb=>?_)
     exact ⟨n,Nat.lt_succ_self _,x3,({ x4 with Acts:=(x4.Acts ++ ([r9.1]:List Zr)) }:Zbq),(IntKind.i64.wrap (x5 + (1:Int))),g,rfl,(hst.pick [0,1,2,3,4] rfl),hb,H1⟩
   ·replace H1:=Zp hc6 H1
    refine wp_exit ?_
    refine Zbw ?_
    refine Zbw ?_
    refine Zb4 ?_
    exact ⟨x3,x4,g,rfl,(hst.pick [0,1] rfl),hb,Option.some.inj H1⟩
theorem Zp8 (a0:Zr) {r:Int} (h:Zh2 a0=some r):FnOk Tryz.prog 36 [(Zx.pd a0)] (pInt .i64 r):=by
 have H0:=h
 unfold Zh2 at H0
 clear h
 refine Zbs (N:=19) Tryz.func36 rfl rfl (Qe rfl) rfl rfl (fun a g0 hst hb=>?_)
 refine r_a [0] (L:=[(0,_)]) hst hb Za
  (a_p [5] rfl (Zbt rfl rfl u_0)<|a_p [] rfl (Zd rfl rfl c_i)<|a_n) (fun a g hst hb=>?_)
 refine wp_seq ?_
 obtain ⟨r1,h2,H0⟩:=Zc H0
 refine r_a [150] (L:=[(1,_)]) hst hb Za
  (Af Zlh 5 rfl<|Al ty_9 0 rfl<|a_p [0] rfl (Zdc Tryz.underlying9 rfl rfl u_0)<|a_p [0] rfl (Zcl rfl rfl u_0 c_i)<|Am 0 rfl<|a_g [0,5] (Qg_f rfl (fun hG=>Zi Zn4 rfl rfl u_0))<|a_g [10,0] (Qg_f rfl (fun hG=>Zs ty_9 rfl rfl (Opd.gd hG u_0)))<|a_g [20,0] (Qg_f rfl (fun hG=>Zdc Tryz.underlying9 rfl rfl (Opd.gd hG u_0)))<|a_g [30,0] (Qg_f rfl (fun hG=>Zcl rfl rfl (Opd.gd hG u_0) c_i))<|a_p [40,0] rfl (Zbh rfl rfl u_0 (fun hz=>(Opd.gd (bNF hz) u_1)))<|Am 0 rfl<|a_g [0,5] (Qg_f rfl (fun hG=>Zi Zmp rfl rfl u_0))<|a_g [10,0] (Qg_f rfl (fun hG=>Zs Zbm rfl rfl (Opd.gd hG u_0)))<|a_g [20,0] (Qg_f rfl (fun hG=>Zf Z4f (Zma _ (Zbe h2 hG)) rfl rfl (.cons (Opd.gd hG u_0) .nil)))<|a_g [30,0] (Qg_f rfl (fun hG=>Zcl rfl rfl (Opd.gd hG u_0) c_i))<|a_p [40,0] rfl (Zbh rfl rfl u_0 (fun hz=>(Opd.gd (bNF hz) u_1)))<|a_n) (fun a g hst hb=>?_)
 refine wp_cond_split (hst.bool 0 rfl) (fun hc3=>?_) (fun hc3=>?_)
 ·replace H0:=Zo hc3 H0
  refine r_a [0] (L:=[]) (hst.pick [] rfl) hb Za
   (a_p [] rfl (Zd rfl rfl c_i)<|a_n) (fun a g hst hb=>?_)
  refine wp_ret ?_
  refine Zl ?_
  obtain rfl:=Option.some.inj H0
  exact Z2 rfl hst hb (Zg (s:=2)) (hst.at 0 rfl)
 ·replace H0:=Zp hc3 H0
  refine wp_skip ?_
  refine Zm ?_
  refine r_a [0] (L:=[]) (hst.pick [] rfl) hb Za
   (a_p [] rfl (Zd rfl rfl c_i)<|a_n) (fun a g hst hb=>?_)
  refine wp_ret ?_
  obtain rfl:=Option.some.inj H0
  exact Z2 rfl hst hb (Zg (s:=2)) (hst.at 0 rfl)
theorem Zqb (a0:Zbq) {r:Int} (h:Zgd a0=some r):FnOk Tryz.prog 14 [(Zdr.pd a0)] (pInt .i64 r):=by
 have H0:=h
 unfold Zgd at H0
 clear h
 refine Zbs (N:=20) Tryz.func14 rfl rfl (Qe rfl) rfl rfl (fun a g0 hst hb=>?_)
 refine r_a [0] (L:=[(0,_)]) hst hb Za
  (a_p [5] rfl (Zbt rfl rfl u_0)<|a_p [] rfl (Zd rfl rfl c_i)<|a_n) (fun a g hst hb=>?_)
 refine wp_seq ?_
 refine r_a [5,30] (L:=[(1,_)]) hst hb Za
  (Af Zku 5 rfl<|Al Zns 0 rfl<|a_p [0] rfl (Zcc Tryz.underlying44 rfl rfl u_0)<|a_p [0] rfl (Zcl rfl rfl u_0 c_i)<|a_n) (fun a g hst hb=>?_)
 refine wp_cond_split (hst.bool 1 rfl) (fun hc1=>?_) (fun hc1=>?_)
 ·replace H0:=Zo hc1 H0
  refine r_a [0] (L:=[]) (hst.pick [] rfl) hb Za
   (a_p [] rfl (Zd rfl rfl c_i)<|a_n) (fun a g hst hb=>?_)
  refine wp_ret ?_
  refine Zl ?_
  obtain rfl:=Option.some.inj H0
  exact Z2 rfl hst hb (Zg (s:=2)) (hst.at 0 rfl)
 ·replace H0:=Zp hc1 H0
  refine wp_skip ?_
  refine Zm ?_
  refine wp_seq ?_
  refine r_a [10,20,30] (L:=[(1,_)]) (hst.pick [0] rfl) hb Za
   (Af Zku 5 rfl<|Al Zns 0 rfl<|a_p [0] rfl (Zcc Tryz.underlying44 rfl rfl u_0)<|a_p [] rfl (Zq rfl rfl c_i)<|a_n) (fun a g hst hb=>?_)
  obtain ⟨z9,hz1,H0⟩:=Zc H0
  refine Zbp (fun a w=>∃ (g:G),w=g.w ∧ St 20 [] a g ∧ Base g0 g ∧ (.inr ())=z9) ?_ ?_
  ·rintro a w ⟨g,rfl,hst,hb,rfl⟩
   refine Zm ?_
   refine r_a [0] (L:=[]) hst hb Za
    (a_p [] rfl (Zd rfl rfl c_i)<|a_n) (fun a g hst hb=>?_)
   refine wp_ret ?_
   obtain rfl:=Option.some.inj H0
   exact Z2 rfl hst hb (Zg (s:=2)) (hst.at 0 rfl)
  ·refine wp_block ?_
   refine wp_loop_ghost (fun n a w=>∃ (x2:Int) (g:G),w=g.w ∧ St 20 [(10,(Zx.sl.pd a0.Acts)),(11,(pInt .i64 (a0.Acts.length:Int))),(12,(pInt .i64 x2))] a g ∧ Base g0 g ∧ Zeg a0 n x2=some z9) (Int.toNat ((a0.Acts.length:Int) - (0:Int)) + 1) ⟨(0:Int),g,rfl,(hst.pick [0,1,2] rfl),hb,hz1⟩ (fun n a w hI=>?_)
   obtain ⟨x2,g,rfl,hst,hb,H1⟩:=hI
   cases n with
   | zero=>exact absurd H1 (by simp [Zeg])
   | succ n =>
    rw [Zeg] at H1
    refine r_a [5,15,25,0] (L:=[(10,_),(11,_),(12,_)]) hst hb Za
     (a_p [25,15] rfl (Zco rfl rfl u_0 u_1)<|a_n) (fun a g hst hb=>?_)
    refine wp_seq ?_
    refine wp_cond_split (hst.bool 3 rfl) (fun hc3=>?_) (fun hc3=>?_)
    ·replace H1:=Zo hc3 H1
     refine wp_skip ?_
     refine Zm ?_
     refine wp_seq ?_
     refine wp_block ?_
     obtain ⟨e4,h5,H1⟩:=Zc H1
     refine r_a [30,5,15,25] (L:=[(10,_),(11,_),(12,_)]) (hst.pick [0,1,2] rfl) hb Za
      (a_p [5,25] rfl (Zbz Tryz.underlying44 Zvr rfl rfl u_0 u_1 h5)<|Al Zem 0 rfl<|a_p (outs:=[(4,(pBox Zx 4 (default:Zr)))]) (S:=[5]) [] rfl (Zbl (zs:=[.int .i64 0,.string ByteArray.empty,.int .i64 0,.float .f64 0,.string ByteArray.empty,.int .i64 0,.int .i64 0,.int .i64 0,.int .i64 0,.float .f64 0,.int .i64 0,.string ByteArray.empty,.slice none 0 0,.bool false]) (by kernel_rfl) (fun g=>Zi1 g) rfl rfl)<|a_p [10,0] rfl (Zb9 Zem rfl rfl u_1 u_0)<|a_n) (fun a g hst hb=>?_)
     obtain ⟨r6,h7,H1⟩:=Zc H1
     refine r_a [15,25,35,20] (L:=[(4,_),(10,_),(11,_),(12,_)]) hst hb Za
      (Al Zem 5 rfl<|a_p [0] rfl (Zf Z7q (Zp8 _ h7) rfl rfl (.cons u_0 .nil))<|a_p [0] rfl (Zcl rfl rfl u_0 c_i)<|a_n) (fun a g hst hb=>?_)
     refine wp_cond_split (hst.bool 3 rfl) (fun hc8=>?_) (fun hc8=>?_)
     ·replace H1:=Zo hc8 H1
      refine r_a [0] (L:=[]) (hst.pick [] rfl) hb Za
       (a_p [] rfl (Zd rfl rfl c_i)<|a_n) (fun a g hst hb=>?_)
      refine wp_ret ?_
      refine Zw ?_
      refine Zl ?_
      refine Zl ?_
      refine Zw ?_
      refine Zl ?_
      refine Zl ?_
      obtain rfl:=Option.some.inj H1
      obtain rfl:=Option.some.inj H0
      exact Z2 rfl hst hb (Zg (s:=2)) (hst.at 0 rfl)
     ·replace H1:=Zp hc8 H1
      refine wp_skip ?_
      refine Zba ?_
      refine Zm ?_
      refine r_b [5,15,10] (L:=[(10,_),(11,_),(12,_)]) (hst.pick [0,1,2] rfl) hb Za
       (a_p [25] rfl (Zb6 rfl rfl u_0 c_i rfl)<|Am 0 rfl<|a_n) (fun a g hst hb=>?_)
      exact ⟨n,Nat.lt_succ_self _,(IntKind.i64.wrap (x2 + (1:Int))),g,rfl,(hst.pick [0,1,2] rfl),hb,H1⟩
    ·replace H1:=Zp hc3 H1
     refine wp_exit ?_
     refine Zbw ?_
     refine Zbw ?_
     refine Zb4 ?_
     exact ⟨g,rfl,(hst.pick [] rfl),hb,Option.some.inj H1⟩
theorem Zts:Zye Tryz.prog 37:=by
 intro g v2 b4 b5
 refine callsD_of_wpS Tryz.func37 rfl fun c₀ cs hu=>?_
 apply wpS_seq
 apply wpS_region
 simp [wpOpsS,go_sem,recoverD,hu,Tryz.ntmps37,Exit.thenS]
 refine wpS_of_wp ?_
 refine Zxg (fun a=>St 18 [(6,pEq .nilIface)] a g.bare) ?_ (fun a hst=>?_)
 ·exact ⟨by simp,rfl,Zdz (show Act.at _ _=_ by simp [Act.at,Array.getD_eq_getD_getElem?,Array.getElem?_append,Array.getElem?_setIfInBounds]) Zlx⟩
 have hb:=Znv g
 refine (show (Code.block _ _).wp Tryz.prog _ a g.bare.w from ?_)
 refine wp_block ?_
 refine r_s (T:=[⟨[.o 0],_,[],[],[8]⟩]) (F:=[.p 0 0,.o 0]) hst hb Za
  (o_p rfl (Zyc (by kernel_rfl) rfl rfl u_0)<|o_n) (fun a g1 hst hb=>?_)
 refine wp_cond_split (hst.bool 0 rfl) (fun _=>?_) (fun hc=>by cases hc)
 refine r_g (L:=[(6,_)]) (T:=[⟨[.o 0],_,[],[],[3]⟩]) (F:=[.o 0]) (hst.pick [1] rfl) hb Za
  (Qa rfl u_0<|o_n) (fun a g1 hst hb=>?_)
 refine Zba ?_
 obtain ⟨g2,e2,hs,_⟩:=Znq hb
 refine ⟨hst.df,.returning,?_,.tuple #[],by simp [results,Tryz.results37],rfl,rfl,g2,e2.symm,hs⟩
 rw [← hu]
theorem Ztg:Zyj Tryz.prog 37 Z1 Zcp Zc8 Zf5 96 Zeo (fun r=>({ Code:=r.code,At:=r.at_,Answers:=([]:List Zbb) }:Zbv)):=by
 intro g v2 v b4 b5 s z4 x r hs h4 h5 hv
 refine callsD_of_wpS Tryz.func37 rfl fun c₀ cs hu=>?_
 apply wpS_seq
 apply wpS_region
 simp [wpOpsS,go_sem,recoverD,hu,Tryz.ntmps37,Exit.thenS]
 refine wpS_of_wp ?_
 refine Zxg (fun a=>St 18 [(0,Z1.ptr s),(1,Zbf (some b4) Z1 0 z4),(2,Zc5 (some b5) Zcp Zc8 hpT 1 x),(6,Zkp 96 (Zeo.pd r))] a g) ?_ (fun a hst=>?_)
 ·exact ⟨by simp,rfl,Zdz (Zvv (v:=v2) (by simp [Act.at,Array.getD_eq_getD_getElem?,Array.getElem?_append,Array.getElem?_setIfInBounds]) hs) (Zdz (Zvv (v:=ptrV b4) (by simp [Act.at,Array.getD_eq_getD_getElem?,Array.getElem?_append,Array.getElem?_setIfInBounds]) h4) (Zdz (Zvv (v:=ptrV b5) (by simp [Act.at,Array.getD_eq_getD_getElem?,Array.getElem?_append,Array.getElem?_setIfInBounds]) h5) (Zdz (Zvv (v:=v) (by simp [Act.at,Array.getD_eq_getD_getElem?,Array.getElem?_append,Array.getElem?_setIfInBounds]) hv) Zlx)))⟩
 have hb:Base g g:=⟨.refl _,rfl,rfl,rfl,fun _ _ h=>⟨rfl,rfl,h⟩⟩
 refine (show (Code.block _ _).wp Tryz.prog _ a g.w from ?_)
 refine wp_block ?_
 refine r_s (T:=[⟨[.o 3],_,[],[],[8]⟩]) (F:=[.o 0,.o 1,.o 2,.o 3,.p 0 0]) hst hb Za
  (o_p rfl (Z2b (by kernel_rfl) rfl rfl u_0)<|o_n) (fun a g1 hst hb=>?_)
 refine wp_cond_split (hst.bool 4 rfl) (fun hc=>by cases hc) (fun _=>?_)
 refine r_s (L:=[(0,_),(1,_),(2,_),(6,_)]) (T:=[⟨[.o 3],_,[],[],[9]⟩,⟨[.p 0 0],_,[],[0],[10]⟩,⟨[.p 0 0],_,[],[0],[11]⟩]) (F:=[.o 0,.o 1,.o 2,.p 1 0,.p 2 0]) (hst.pick [0,1,2,3] rfl) hb Za
  (o_p rfl (Zz9 (by kernel_rfl) rfl rfl u_0)<|o_p rfl (Zz rfl rfl u_0 rfl)<|o_p rfl (Zz rfl rfl u_0 rfl)<|o_n) (fun a g1 hst hb=>?_)
 refine wp_cond_split (hst.bool 3 rfl) (fun _=>?_) (fun hc=>by cases hc)
 refine r_s (L:=[(0,_),(1,_),(2,_),(11,_)]) (T:=[⟨[],[(4,(pBox Zeo 90 (default:Zdm)))],[91],[],[4]⟩,⟨[.p 0 0,.o 3],_,[91],[0],[4]⟩]) (F:=[.o 0,.o 1,.o 2,.p 1 0]) (hst.pick [0,1,2,4] rfl) hb Za
  (o_p rfl (Zbl (zs:=[.int .i64 0,.int .i64 0]) (by kernel_rfl) (fun g=>Zsc g) rfl rfl)<|o_p rfl (Zb9 Z8u rfl rfl u_0 u_1)<|o_n) (fun a g1 hst hb=>?_)
 refine r_g (T:=[⟨[.o 0],_,[],[],[12]⟩,⟨[.o 3],_,[],[],[13]⟩,⟨[.p 1 0],_,[],[1],[14]⟩,⟨[.o 3],_,[],[],[15]⟩,⟨[.p 3 0],_,[],[3],[16]⟩,⟨[.p 2 0,.p 4 0],_,[],[1,2,3,4],[17]⟩,⟨[.o 1,.p 0 0],_,[1],[0],[1]⟩,⟨[.o 2,.p 5 0],_,[2],[0,1,2,3,4,5,6],[2]⟩]) (F:=[.p 6 0,.p 7 0]) hst hb Za
  (Ql rfl Zbu u_0<|Qf rfl Z6c u_0<|Ql rfl Zlr u_0<|Qf rfl Z41 u_0<|Ql rfl ty_3 u_0<|o_p rfl (Zu0 rfl rfl u_0 u_1)<|o_p rfl (Z7 Zbu rfl rfl u_0 u_1)<|o_p rfl (Zo8 (kV:=Zcp) (by rfl) Znt rfl rfl u_0 u_1)<|o_n) (fun a g1 hst hb=>?_)
 refine Zba ?_
 have k4:=hst.at 0 rfl
 have k5:=hst.at 1 rfl
 have w4:Act.at a 1=ptrV b4:=Z1w k4
 have w5:Act.at a 2=ptrV b5:=Z1w k5
 exact ⟨hst.df,.panicking [{ v:=v,recovered:=true }],rfl,.tuple #[],by simp [results,Tryz.results37],rfl,rfl,g1,rfl,hb,w4 ▸ k4,w5 ▸ k5⟩
theorem Zh6 (a0:Int) (a1:Zb) (a2:Bool) {r:Zb × Bool × Zbb × Zb} (h:Zha a0 a1 a2=some r):FnB Tryz.prog 109 [.val (pInt .i64 a0),.box Ze a1 r.2.2.2,.val (Kd.bool.ptr a2)] (pTup [(Ze.pd r.1),(Z5 r.2.1),(Zbd.pd r.2.2.1)]):=by
 have H0:=h
 unfold Zha at H0
 clear h
 refine Zok (N:=11) Tryz.func109 rfl rfl (Qe rfl) rfl rfl (fun a g0 bs hbs hst hb=>?_)
 obtain ⟨b1,rfl⟩:=Zqq hbs
 replace hst:St 11 [(0,(pInt .i64 a0)),(1,(Zbf (some b1) Ze 1 a1)),(2,(Kd.bool.ptr a2))] _ _:=hst
 refine r_a [5,15,25,0,20] (L:=[(0,_),(1,_),(2,_)]) hst hb Za
  (a_p (outs:=[(4,(pBox Ze 4 (default:Zb)))]) (S:=[5]) [] rfl (Zbl (zs:=[.int .i64 0,.int .i64 0,.int .i64 0,.int .i64 0,.float .f64 0,.int .i64 0,.string ByteArray.empty,.slice none 0 0]) (by kernel_rfl) (fun g=>Zb3 g) rfl rfl)<|a_p [] rfl (Zd rfl rfl c_b)<|a_p (outs:=[(6,(pBox Zbd 6 (default:Zbb)))]) (S:=[7]) [] rfl (Zbl (zs:=[.int .i64 0,.int .i64 0,.int .i64 0,.int .i64 0,.int .i64 0,.int .i64 0,.float .f64 0,.int .i64 0,.string ByteArray.empty,.slice none 0 0]) (by kernel_rfl) (fun g=>Zfo g) rfl rfl)<|a_n) (fun a g hst hb=>?_)
 refine r_a [15,40,50,60] (L:=[(0,_),(1,_),(2,_),(4,_),(6,_)]) hst hb Za
  (AM Zbm 15 rfl<|Al ty_4 25 rfl<|Am 5 rfl<|a_p [0] rfl (Zyp rfl rfl u_0)<|a_p [30,35] rfl (Z7 Zbm rfl rfl u_1 u_0)<|Aa 30 rfl<|a_p [20,45] rfl (Z7 Zdb rfl rfl u_1 u_0)<|a_n) (fun a g hst hb=>?_)
 refine wp_ret ?_
 obtain rfl:=Option.some.inj H0
 obtain ⟨u0,hu0,hq0⟩:=Zbn (P:=Tryz.prog) Zbm (hst.at 1 rfl)
 obtain ⟨u2,hu2,hq2⟩:=Zbn (P:=Tryz.prog) Zdb (hst.at 3 rfl)
 exact Z7z rfl hst hb hu0 (Zg (s:=5)) hu2 (Zi7 hq0 (hst.at 2 rfl) hq2) ⟨Z0w (hst.at 0 rfl),trivial⟩
theorem Z0n (a0:Int) {r:Int} (h:Zxe a0=some r):FnOk Tryz.prog 110 [(pInt .i64 a0)] (pInt .i64 r):=by
 have H0:=h
 unfold Zxe at H0
 clear h
 refine Zbs (N:=6) Tryz.func110 rfl rfl (Qe rfl) rfl rfl (fun a g0 hst hb=>?_)
 refine r_a [5] (L:=[(0,_)]) hst hb Za
  (a_p [] rfl (Zd rfl rfl c_i)<|a_n) (fun a g hst hb=>?_)
 obtain ⟨r1,h2,H0⟩:=Zc H0
 refine r_a [30] (L:=[(0,_)]) hst hb Za
  (Am 5 rfl<|a_p [0] rfl (Zf Zvo (Znj _ h2) rfl rfl (.cons u_0 .nil))<|a_p [0] rfl (Zxc Zxa rfl rfl u_0)<|Aa 0 rfl<|a_n) (fun a g hst hb=>?_)
 refine wp_ret ?_
 obtain rfl:=Option.some.inj H0
 exact Z2 rfl hst hb (Zg (s:=2)) (hst.at 0 rfl)
theorem Zvh (a0:Zb) (a1:Bool) (a2:Zr) {r:Zb × Bool × Zbb} (h:Zk1 a0 a1 a2=some r):FnOk Tryz.prog 71 [(Ze.pd a0),(Z5 a1),(Zx.pd a2)] (pTup [(Ze.pd r.1),(Z5 r.2.1),(Zbd.pd r.2.2)]):=by
 have H0:=h
 unfold Zk1 at H0
 clear h
 refine Zbs (N:=123) Tryz.func71 rfl rfl (Qe rfl) rfl rfl (fun a g0 hst hb=>?_)
 refine r_a [0,10,20,30,50] (L:=[(0,_),(1,_),(2,_)]) hst hb Za
  (a_p (outs:=[(3,(pBox Ze 3 a0))]) (S:=[4]) [5] rfl (Zq5 rfl rfl u_0)<|a_p [15] rfl (Zbt rfl rfl u_0)<|a_p [25] rfl (Zbt rfl rfl u_0)<|a_p (outs:=[(6,(pBox Ze 6 (default:Zb)))]) (S:=[7]) [] rfl (Zbl (zs:=[.int .i64 0,.int .i64 0,.int .i64 0,.int .i64 0,.float .f64 0,.int .i64 0,.string ByteArray.empty,.slice none 0 0]) (by kernel_rfl) (fun g=>Zb3 g) rfl rfl)<|a_p [] rfl (Zd rfl rfl c_b)<|a_p (outs:=[(8,(pBox Zbd 8 (default:Zbb)))]) (S:=[9]) [] rfl (Zbl (zs:=[.int .i64 0,.int .i64 0,.int .i64 0,.int .i64 0,.int .i64 0,.int .i64 0,.float .f64 0,.int .i64 0,.string ByteArray.empty,.slice none 0 0]) (by kernel_rfl) (fun g=>Zfo g) rfl rfl)<|a_n) (fun a g hst hb=>?_)
 refine wp_seq ?_
 refine r_a [5,15,25,35,45,10] (L:=[(3,_),(4,_),(5,_),(6,_),(8,_)]) hst hb Za
  (Al ty_4 15 rfl<|a_p [0] rfl (Zcg rfl rfl u_0)<|a_n) (fun a g hst hb=>?_)
 refine Zbp (fun a w=>∃ (j2:Zb) (g:G),w=g.w ∧ St 123 [(3,(pBox Ze 3 j2)),(4,(Kd.bool.ptr a1)),(5,(Zx.ptr a2)),(6,(pBox Ze 6 (default:Zb))),(8,(pBox Zbd 8 (default:Zbb)))] a g ∧ Base g0 g ∧ Zi5 a1 a2 j2=some r) ?_ ?_
 ·rintro a w ⟨j2,g,rfl,hst,hb,H0⟩
  unfold Zi5 at H0
  refine Zm ?_
  obtain ⟨r3,h4,H0⟩:=Zc H0
  refine r_a [20,15,25,35,45] (L:=[(3,_),(4,_),(5,_),(6,_),(8,_)]) hst hb Za
   (AM Zbm 5 rfl<|a_p [0] rfl (Zf Zpc (Zg6 _ h4) rfl rfl (.cons u_0 .nil))<|a_p [0,5] rfl (Z7 Zbm rfl rfl u_1 u_0)<|a_n) (fun a g hst hb=>?_)
  refine r_a [5,15,25,35,45,10] (L:=[(3,_),(4,_),(5,_),(6,_),(8,_)]) hst hb Za
   (a_p [5,15] rfl (Zxp rfl rfl (.cons u_0 (.cons u_1 .nil)))<|Aa 0 rfl<|a_n) (fun a g hst hb=>?_)
  refine wp_seq ?_
  obtain ⟨r5,h6,H0⟩:=Zc H0
  refine r_a [5,15,25,35,45,55,20] (L:=[(3,_),(4,_),(5,_),(6,_),(8,_),(9,_)]) hst hb Za
   (Al Zem 25 rfl<|a_p [0] rfl (Zf Zvu (Zk7 _ h6) rfl rfl (.cons u_0 .nil))<|Aa 0 rfl<|a_n) (fun a g hst hb=>?_)
  refine r_a [5,15,25,35,45,55,65,10] (L:=[(3,_),(4,_),(5,_),(6,_),(8,_),(9,_),(10,_)]) hst hb Za
   (Am 65 rfl<|a_p [0] rfl (Zcw rfl rfl u_0 c_i)<|a_n) (fun a g hst hb=>?_)
  refine wp_cond_split (hst.bool 7 rfl) (fun hc7=>?_) (fun hc7=>?_)
  ·replace H0:=Zo hc7 H0
   obtain ⟨r8,h9,H0⟩:=Zc H0
   refine r_a [21,15,60,70,80] (L:=[(3,_),(4,_),(6,_),(8,_),(9,_),(10,_)]) (hst.pick [0,1,3,4,5,6] rfl) hb Za
    (Am 45 rfl<|Am 55 rfl<|a_p (outs:=[(27,(pTup [(Ze.pd r8.1),(Z5 r8.2.1),(Zbd.pd r8.2.2.1)])),(3,(pBox Ze 3 r8.2.2.2))]) (S:=[4]) [10,0,5] rfl (Zkz (Ps:=[.val (pInt .i64 r5)]) (hs:=[]) (ks:=[(3,none,3)]) Zp9 (Zh6 _ _ _ h9) rfl rfl rfl u_0 (.val u_1 .nil) (.box u_2 rfl (.val .nil)) rfl rfl rfl rfl)<|a_p [0] rfl (Zz rfl rfl u_0 rfl)<|a_p [10] rfl (Zz rfl rfl u_0 rfl)<|a_p [20] rfl (Zz rfl rfl u_0 rfl)<|a_p [20,25] rfl (Z7 Zbm rfl rfl u_1 u_0)<|Aa 20 rfl<|a_p [20,35] rfl (Z7 Zdb rfl rfl u_1 u_0)<|a_n) (fun a g hst hb=>?_)
   refine wp_ret ?_
   refine Zl ?_
   obtain rfl:=Option.some.inj H0
   obtain ⟨u0,hu0,hq0⟩:=Zbn (P:=Tryz.prog) Zbm (hst.at 2 rfl)
   obtain ⟨u2,hu2,hq2⟩:=Zbn (P:=Tryz.prog) Zdb (hst.at 4 rfl)
   exact Zk6 rfl hst hb hu0 (Zg (s:=7)) hu2 (Zi7 hq0 (hst.at 3 rfl) hq2)
  ·replace H0:=Zp hc7 H0
   refine wp_skip ?_
   refine Zm ?_
   refine wp_seq ?_
   refine r_a [5,15,25,35,45,55,0] (L:=[(3,_),(4,_),(5,_),(6,_),(8,_),(9,_)]) (hst.pick [0,1,2,3,4,5] rfl) hb Za
    (Al ty_4 15 rfl<|a_n) (fun a g hst hb=>?_)
   refine Zbp (fun a w=>∃ (g:G),w=g.w ∧ St 123 [(3,(pBox Ze 3 r3)),(4,(Kd.bool.ptr a1)),(5,(Zx.ptr a2)),(6,(pBox Ze 6 (default:Zb))),(8,(pBox Zbd 8 (default:Zbb))),(9,(Zvw 109 [(pBox Ze 3 r3),(Kd.bool.ptr a1)]))] a g ∧ Base g0 g ∧ Zi6 a1 a2 r3=some r) ?_ ?_
   ·rintro a w ⟨g,rfl,hst,hb,H0⟩
    unfold Zi6 at H0
    refine Zm ?_
    refine wp_seq ?_
    refine wp_block ?_
    refine r_a [5,15,25,35,45,55,60] (L:=[(3,_),(4,_),(5,_),(6,_),(8,_),(9,_)]) hst hb Za
     (Af Zdw 25 rfl<|Al ty_3 0 rfl<|a_p [0] rfl (Zbk rfl rfl u_0 c_i)<|Am 0 rfl<|a_g [0,15] (Qg_t rfl (fun hG=>Zs ty_4 rfl rfl u_0))<|a_p [10,0] rfl (Zbg rfl rfl u_0 (fun hz=>(Opd.gd hz u_1)))<|Aa 0 rfl<|a_n) (fun a g hst hb=>?_)
    refine wp_cond_split (hst.bool 6 rfl) (fun hc16=>?_) (fun hc16=>?_)
    ·replace H0:=Zo hc16 H0
     obtain ⟨r17,h18,H0⟩:=Zc H0
     refine r_a [11,15,50,60,70] (L:=[(3,_),(4,_),(6,_),(8,_),(9,_)]) (hst.pick [0,1,3,4,5] rfl) hb Za
      (Am 45 rfl<|a_p (outs:=[(50,(pTup [(Ze.pd r17.1),(Z5 r17.2.1),(Zbd.pd r17.2.2.1)])),(3,(pBox Ze 3 r17.2.2.2))]) (S:=[4]) [0,5] rfl (Zkz (Ps:=[.val (pInt .i64 (7:Int))]) (hs:=[]) (ks:=[(3,none,3)]) Zp9 (Zh6 _ _ _ h18) rfl rfl rfl u_0 (.val c_i .nil) (.box u_1 rfl (.val .nil)) rfl rfl rfl rfl)<|a_p [0] rfl (Zz rfl rfl u_0 rfl)<|a_p [10] rfl (Zz rfl rfl u_0 rfl)<|a_p [20] rfl (Zz rfl rfl u_0 rfl)<|a_p [20,25] rfl (Z7 Zbm rfl rfl u_1 u_0)<|Aa 20 rfl<|a_p [20,35] rfl (Z7 Zdb rfl rfl u_1 u_0)<|a_n) (fun a g hst hb=>?_)
     refine wp_ret ?_
     refine Zw ?_
     refine Zl ?_
     obtain rfl:=Option.some.inj H0
     obtain ⟨u0,hu0,hq0⟩:=Zbn (P:=Tryz.prog) Zbm (hst.at 2 rfl)
     obtain ⟨u2,hu2,hq2⟩:=Zbn (P:=Tryz.prog) Zdb (hst.at 4 rfl)
     exact Zk6 rfl hst hb hu0 (Zg (s:=7)) hu2 (Zi7 hq0 (hst.at 3 rfl) hq2)
    ·replace H0:=Zp hc16 H0
     refine r_a [5,15,25,35,45,55,30] (L:=[(3,_),(4,_),(5,_),(6,_),(8,_),(9,_)]) (hst.pick [0,1,2,3,4,5] rfl) hb Za
      (Af Zdw 25 rfl<|Al ty_3 0 rfl<|a_p [0] rfl (Zbk rfl rfl u_0 c_i)<|Aa 0 rfl<|a_n) (fun a g hst hb=>?_)
     refine wp_cond_split (hst.bool 6 rfl) (fun hc19=>?_) (fun hc19=>?_)
     ·replace H0:=Zo hc19 H0
      obtain ⟨r20,h21,H0⟩:=Zc H0
      refine r_a [5,15,40,50,60] (L:=[(3,_),(4,_),(5,_),(6,_),(8,_)]) (hst.pick [0,1,2,3,4] rfl) hb Za
       (Af Zmp 25 rfl<|Al Zbm 0 rfl<|a_p [0] rfl (Zf Zpc (Zg6 _ h21) rfl rfl (.cons u_0 .nil))<|a_p [] rfl (Z06 rfl rfl )<|a_p [10,35] rfl (Z7 Zbm rfl rfl u_1 u_0)<|a_p [] rfl (Zd rfl rfl c_b)<|a_p [20,45] rfl (Z7 Zdb rfl rfl u_1 u_0)<|a_n) (fun a g hst hb=>?_)
      refine wp_ret ?_
      refine Zw ?_
      refine Zl ?_
      obtain rfl:=Option.some.inj H0
      obtain ⟨u0,hu0,hq0⟩:=Zbn (P:=Tryz.prog) Zbm (hst.at 2 rfl)
      obtain ⟨u2,hu2,hq2⟩:=Zbn (P:=Tryz.prog) Zdb (hst.at 4 rfl)
      exact Zk6 rfl hst hb hu0 (Zg (s:=7)) hu2 (Zi7 hq0 (hst.at 3 rfl) hq2)
     ·replace H0:=Zp hc19 H0
      refine r_a [5,15,25,35,45,55,30] (L:=[(3,_),(4,_),(5,_),(6,_),(8,_),(9,_)]) (hst.pick [0,1,2,3,4,5] rfl) hb Za
       (Af Zdw 25 rfl<|Al ty_3 0 rfl<|a_p [0] rfl (Zbk rfl rfl u_0 c_i)<|Aa 0 rfl<|a_n) (fun a g hst hb=>?_)
      refine wp_cond_split (hst.bool 6 rfl) (fun hc22=>?_) (fun hc22=>?_)
      ·replace H0:=Zo hc22 H0
       refine r_a [5,15,50,60,70] (L:=[(3,_),(4,_),(6,_),(8,_)]) (hst.pick [0,1,3,4] rfl) hb Za
        (AM Zbm 5 rfl<|Al ty_4 15 rfl<|a_p [5] rfl (Zb5 Zed (off:=0) (by kernel_rfl) rfl rfl u_0)<|AP ty_3 0 rfl<|a_p [0] rfl (Z5n rfl rfl u_0)<|a_p [40,25] rfl (Z7 Zbm rfl rfl u_1 u_0)<|Aa 40 rfl<|a_p [20,35] rfl (Z7 Zdb rfl rfl u_1 u_0)<|a_n) (fun a g hst hb=>?_)
       refine wp_ret ?_
       refine Zw ?_
       refine Zl ?_
       obtain rfl:=Option.some.inj H0
       obtain ⟨u0,hu0,hq0⟩:=Zbn (P:=Tryz.prog) Zbm (hst.at 2 rfl)
       obtain ⟨u2,hu2,hq2⟩:=Zbn (P:=Tryz.prog) Zdb (hst.at 4 rfl)
       exact Zk6 rfl hst hb hu0 (Zg (s:=7)) hu2 (Zi7 hq0 (hst.at 3 rfl) hq2)
      ·replace H0:=Zp hc22 H0
       refine r_a [5,15,25,35,45,55,20] (L:=[(3,_),(4,_),(5,_),(6,_),(8,_),(9,_)]) (hst.pick [0,1,2,3,4,5] rfl) hb Za
        (Al ty_4 15 rfl<|a_p [0] rfl (Zcg rfl rfl u_0)<|Aa 0 rfl<|a_n) (fun a g hst hb=>?_)
       refine wp_cond_split (hst.bool 6 rfl) (fun hc23=>?_) (fun hc23=>?_)
       ·replace H0:=Zo hc23 H0
        obtain ⟨r24,h25,H0⟩:=Zc H0
        refine r_a [11,15,50,60,70] (L:=[(3,_),(4,_),(6,_),(8,_),(9,_)]) (hst.pick [0,1,3,4,5] rfl) hb Za
         (Am 45 rfl<|a_p (outs:=[(75,(pTup [(Ze.pd r24.1),(Z5 r24.2.1),(Zbd.pd r24.2.2.1)])),(3,(pBox Ze 3 r24.2.2.2))]) (S:=[4]) [0,5] rfl (Zkz (Ps:=[.val (pInt .i64 (6:Int))]) (hs:=[]) (ks:=[(3,none,3)]) Zp9 (Zh6 _ _ _ h25) rfl rfl rfl u_0 (.val c_i .nil) (.box u_1 rfl (.val .nil)) rfl rfl rfl rfl)<|a_p [0] rfl (Zz rfl rfl u_0 rfl)<|a_p [10] rfl (Zz rfl rfl u_0 rfl)<|a_p [20] rfl (Zz rfl rfl u_0 rfl)<|a_p [20,25] rfl (Z7 Zbm rfl rfl u_1 u_0)<|Aa 20 rfl<|a_p [20,35] rfl (Z7 Zdb rfl rfl u_1 u_0)<|a_n) (fun a g hst hb=>?_)
        refine wp_ret ?_
        refine Zw ?_
        refine Zl ?_
        obtain rfl:=Option.some.inj H0
        obtain ⟨u0,hu0,hq0⟩:=Zbn (P:=Tryz.prog) Zbm (hst.at 2 rfl)
        obtain ⟨u2,hu2,hq2⟩:=Zbn (P:=Tryz.prog) Zdb (hst.at 4 rfl)
        exact Zk6 rfl hst hb hu0 (Zg (s:=7)) hu2 (Zi7 hq0 (hst.at 3 rfl) hq2)
       ·replace H0:=Zp hc23 H0
        refine r_a [5,15,25,35,45,55,30] (L:=[(3,_),(4,_),(5,_),(6,_),(8,_),(9,_)]) (hst.pick [0,1,2,3,4,5] rfl) hb Za
         (Af Zdw 25 rfl<|Al ty_3 0 rfl<|a_p [0] rfl (Zbk rfl rfl u_0 c_i)<|Aa 0 rfl<|a_n) (fun a g hst hb=>?_)
        refine wp_cond_split (hst.bool 6 rfl) (fun hc26=>?_) (fun hc26=>?_)
        ·replace H0:=Zo hc26 H0
         refine r_a [5,15,20,30,40] (L:=[(3,_),(4,_),(6,_),(8,_)]) (hst.pick [0,1,3,4] rfl) hb Za
          (a_p [] rfl (Zqg rfl rfl )<|a_p [] rfl (Z06 rfl rfl )<|a_p [10,25] rfl (Z7 Zbm rfl rfl u_1 u_0)<|a_p [] rfl (Zd rfl rfl c_b)<|a_p [20,35] rfl (Z7 Zdb rfl rfl u_1 u_0)<|a_n) (fun a g hst hb=>?_)
         refine wp_ret ?_
         refine Zw ?_
         refine Zl ?_
         obtain rfl:=Option.some.inj H0
         obtain ⟨u0,hu0,hq0⟩:=Zbn (P:=Tryz.prog) Zbm (hst.at 2 rfl)
         obtain ⟨u2,hu2,hq2⟩:=Zbn (P:=Tryz.prog) Zdb (hst.at 4 rfl)
         exact Zk6 rfl hst hb hu0 (Zg (s:=7)) hu2 (Zi7 hq0 (hst.at 3 rfl) hq2)
        ·replace H0:=Zp hc26 H0
         refine r_a [5,15,25,35,45,55,30] (L:=[(3,_),(4,_),(5,_),(6,_),(8,_),(9,_)]) (hst.pick [0,1,2,3,4,5] rfl) hb Za
          (Af Zdw 25 rfl<|Al ty_3 0 rfl<|a_p [0] rfl (Zbk rfl rfl u_0 c_i)<|Aa 0 rfl<|a_n) (fun a g hst hb=>?_)
         refine wp_cond_split (hst.bool 6 rfl) (fun hc27=>?_) (fun hc27=>?_)
         ·replace H0:=Zo hc27 H0
          obtain ⟨r28,h29,H0⟩:=Zc H0
          refine r_a [5,15,50,60,70] (L:=[(3,_),(4,_),(6,_),(8,_)]) (hst.pick [0,1,3,4] rfl) hb Za
           (AM Zbm 5 rfl<|Al ty_4 15 rfl<|AM Zbm 5 rfl<|a_p [0] rfl (Zf Zpc (Zg6 _ h29) rfl rfl (.cons u_0 .nil))<|a_p [0] rfl (Z4v rfl rfl u_0)<|a_p [40,25] rfl (Z7 Zbm rfl rfl u_1 u_0)<|Aa 40 rfl<|a_p [20,35] rfl (Z7 Zdb rfl rfl u_1 u_0)<|a_n) (fun a g hst hb=>?_)
          refine wp_ret ?_
          refine Zw ?_
          refine Zl ?_
          obtain rfl:=Option.some.inj H0
          obtain ⟨u0,hu0,hq0⟩:=Zbn (P:=Tryz.prog) Zbm (hst.at 2 rfl)
          obtain ⟨u2,hu2,hq2⟩:=Zbn (P:=Tryz.prog) Zdb (hst.at 4 rfl)
          exact Zk6 rfl hst hb hu0 (Zg (s:=7)) hu2 (Zi7 hq0 (hst.at 3 rfl) hq2)
         ·replace H0:=Zp hc27 H0
          obtain ⟨r30,h31,H0⟩:=Zc H0
          refine r_a [5,15,25,35,45,55,60] (L:=[(3,_),(4,_),(5,_),(6,_),(8,_),(9,_)]) (hst.pick [0,1,2,3,4,5] rfl) hb Za
           (Af Zdw 25 rfl<|Al ty_3 0 rfl<|a_p [0] rfl (Zf Z7a (Z0n _ h31) rfl rfl (.cons u_0 .nil))<|a_p [5] rfl (Zb5 Zed (off:=0) (by kernel_rfl) rfl rfl u_0)<|AP ty_3 0 rfl<|a_p [20,0] rfl (Zcw rfl rfl u_0 u_1)<|Aa 0 rfl<|a_n) (fun a g hst hb=>?_)
          refine wp_cond_split (hst.bool 6 rfl) (fun hc32=>?_) (fun hc32=>?_)
          ·replace H0:=Zo hc32 H0
           obtain ⟨r33,h34,H0⟩:=Zc H0
           refine r_a [11,15,50,60,70] (L:=[(3,_),(4,_),(6,_),(8,_),(9,_)]) (hst.pick [0,1,3,4,5] rfl) hb Za
            (Am 45 rfl<|a_p (outs:=[(102,(pTup [(Ze.pd r33.1),(Z5 r33.2.1),(Zbd.pd r33.2.2.1)])),(3,(pBox Ze 3 r33.2.2.2))]) (S:=[4]) [0,5] rfl (Zkz (Ps:=[.val (pInt .i64 (5:Int))]) (hs:=[]) (ks:=[(3,none,3)]) Zp9 (Zh6 _ _ _ h34) rfl rfl rfl u_0 (.val c_i .nil) (.box u_1 rfl (.val .nil)) rfl rfl rfl rfl)<|a_p [0] rfl (Zz rfl rfl u_0 rfl)<|a_p [10] rfl (Zz rfl rfl u_0 rfl)<|a_p [20] rfl (Zz rfl rfl u_0 rfl)<|a_p [20,25] rfl (Z7 Zbm rfl rfl u_1 u_0)<|Aa 20 rfl<|a_p [20,35] rfl (Z7 Zdb rfl rfl u_1 u_0)<|a_n) (fun a g hst hb=>?_)
           refine wp_ret ?_
           refine Zw ?_
           refine Zl ?_
           obtain rfl:=Option.some.inj H0
           obtain ⟨u0,hu0,hq0⟩:=Zbn (P:=Tryz.prog) Zbm (hst.at 2 rfl)
           obtain ⟨u2,hu2,hq2⟩:=Zbn (P:=Tryz.prog) Zdb (hst.at 4 rfl)
           exact Zk6 rfl hst hb hu0 (Zg (s:=7)) hu2 (Zi7 hq0 (hst.at 3 rfl) hq2)
          ·replace H0:=Zp hc32 H0
           refine wp_skip ?_
           refine Zba ?_
           refine Zm ?_
           obtain ⟨r35,h36,H0⟩:=Zc H0
           refine r_a [5,15,25,35,45,30] (L:=[(3,_),(4,_),(5,_),(6,_),(8,_)]) (hst.pick [0,1,2,3,4] rfl) hb Za
            (AM Zbm 5 rfl<|a_p [0] rfl (Zf Zpc (Zg6 _ h36) rfl rfl (.cons u_0 .nil))<|a_p (outs:=[(12,(pBox Ze 12 (default:Zb)))]) (S:=[13]) [] rfl (Zbl (zs:=[.int .i64 0,.int .i64 0,.int .i64 0,.int .i64 0,.float .f64 0,.int .i64 0,.string ByteArray.empty,.slice none 0 0]) (by kernel_rfl) (fun g=>Zb3 g) rfl rfl)<|a_p [10,0] rfl (Zb9 Zbm rfl rfl u_1 u_0)<|a_n) (fun a g hst hb=>?_)
           refine r_a [5,15,25,35,45,55,0] (L:=[(3,_),(4,_),(5,_),(6,_),(8,_),(12,_)]) hst hb Za
            (a_p (outs:=[(13,(pBox Zbd 13 (default:Zbb)))]) (S:=[14]) [] rfl (Zbl (zs:=[.int .i64 0,.int .i64 0,.int .i64 0,.int .i64 0,.int .i64 0,.int .i64 0,.float .f64 0,.int .i64 0,.string ByteArray.empty,.slice none 0 0]) (by kernel_rfl) (fun g=>Zfo g) rfl rfl)<|a_n) (fun a g hst hb=>?_)
           refine wp_seq ?_
           refine wp_seq ?_
           cases H0
   ·refine wp_cond_split (hst.bool 6 rfl) (fun hc10=>?_) (fun hc10=>?_)
    ·replace H0:=Zo hc10 H0
     obtain ⟨r11,h12,H0⟩:=Zc H0
     refine r_a [5,15,25,35,45,55,20] (L:=[(3,_),(4,_),(5,_),(6,_),(8,_),(9,_)]) (hst.pick [0,1,2,3,4,5] rfl) hb Za
      (AM Zbm 5 rfl<|a_p [0] rfl (Zf Zv0 (Zk8 _ h12) rfl rfl (.cons u_0 .nil))<|Aa 0 rfl<|a_n) (fun a g hst hb=>?_)
     refine r_a [5,15,25,35,45,55,65,10] (L:=[(3,_),(4,_),(5,_),(6,_),(8,_),(9,_),(11,_)]) hst hb Za
      (Am 65 rfl<|a_p [0] rfl (Zcw rfl rfl u_0 c_i)<|a_n) (fun a g hst hb=>?_)
     refine wp_cond_split (hst.bool 7 rfl) (fun hc13=>?_) (fun hc13=>?_)
     ·replace H0:=Zo hc13 H0
      obtain ⟨r14,h15,H0⟩:=Zc H0
      refine r_a [21,15,60,70,80] (L:=[(3,_),(4,_),(6,_),(8,_),(9,_),(11,_)]) (hst.pick [0,1,3,4,5,6] rfl) hb Za
       (Am 45 rfl<|Am 55 rfl<|a_p (outs:=[(38,(pTup [(Ze.pd r14.1),(Z5 r14.2.1),(Zbd.pd r14.2.2.1)])),(3,(pBox Ze 3 r14.2.2.2))]) (S:=[4]) [10,0,5] rfl (Zkz (Ps:=[.val (pInt .i64 r11)]) (hs:=[]) (ks:=[(3,none,3)]) Zp9 (Zh6 _ _ _ h15) rfl rfl rfl u_0 (.val u_1 .nil) (.box u_2 rfl (.val .nil)) rfl rfl rfl rfl)<|a_p [0] rfl (Zz rfl rfl u_0 rfl)<|a_p [10] rfl (Zz rfl rfl u_0 rfl)<|a_p [20] rfl (Zz rfl rfl u_0 rfl)<|a_p [20,25] rfl (Z7 Zbm rfl rfl u_1 u_0)<|Aa 20 rfl<|a_p [20,35] rfl (Z7 Zdb rfl rfl u_1 u_0)<|a_n) (fun a g hst hb=>?_)
      refine wp_ret ?_
      refine Zl ?_
      refine Zl ?_
      obtain rfl:=Option.some.inj H0
      obtain ⟨u0,hu0,hq0⟩:=Zbn (P:=Tryz.prog) Zbm (hst.at 2 rfl)
      obtain ⟨u2,hu2,hq2⟩:=Zbn (P:=Tryz.prog) Zdb (hst.at 4 rfl)
      exact Zk6 rfl hst hb hu0 (Zg (s:=7)) hu2 (Zi7 hq0 (hst.at 3 rfl) hq2)
     ·replace H0:=Zp hc13 H0
      refine wp_skip ?_
      exact ⟨g,rfl,(hst.pick [0,1,2,3,4,5] rfl),hb,H0⟩
    ·replace H0:=Zp hc10 H0
     refine wp_skip ?_
     exact ⟨g,rfl,(hst.pick [0,1,2,3,4,5] rfl),hb,H0⟩
 ·refine wp_cond_split (hst.bool 5 rfl) (fun hc1=>?_) (fun hc1=>?_)
  ·replace H0:=Zo hc1 H0
   refine r_b [10,15,25,35,45] (L:=[(3,_),(4,_),(5,_),(6,_),(8,_)]) (hst.pick [0,1,2,3,4] rfl) hb Za
    (a_p [] rfl (Zqg rfl rfl )<|a_p [0,5] rfl (Z7 Zbm rfl rfl u_1 u_0)<|a_n) (fun a g hst hb=>?_)
   exact ⟨({ Kind:=(0:Int),Num:=(0:Int),Low:=(0:Int),High:=(0:Int),Real:=(0:Nat),Cap:=(0:Int),Text:=ByteArray.empty,List:=([]:List Zu) }:Zb),g,rfl,(hst.pick [0,1,2,3,4] rfl),hb,H0⟩
  ·replace H0:=Zp hc1 H0
   refine wp_skip ?_
   exact ⟨a0,g,rfl,(hst.pick [0,1,2,3,4] rfl),hb,H0⟩
theorem Zwa (a0:Int) {r:Bool} (h:Znf a0=some r):FnOk Tryz.prog 72 [(pInt .i64 a0)] (Z5 r):=by
 have H0:=h
 unfold Znf at H0
 clear h
 refine Zbs (N:=21) Tryz.func72 rfl rfl (Qe rfl) rfl rfl (fun a g0 hst hb=>?_)
 refine r_a [5] (L:=[(0,_)]) hst hb Za
  (a_p [] rfl (Zd rfl rfl c_b)<|a_n) (fun a g hst hb=>?_)
 refine r_a [180] (L:=[(0,_)]) hst hb Za
  (Am 5 rfl<|a_p [0] rfl (Zbk rfl rfl u_0 c_i)<|Am 0 rfl<|a_g [0,5] (Qg_f rfl (fun hG=>Zq rfl rfl u_0))<|a_g [10,0] (Qg_f rfl (fun hG=>Zbk rfl rfl (Opd.gd hG u_0) c_i))<|a_p [20,0] rfl (Zbh rfl rfl u_0 (fun hz=>(Opd.gd (bNF hz) u_1)))<|Am 0 rfl<|a_g [0,5] (Qg_f rfl (fun hG=>Zq rfl rfl u_0))<|a_g [10,0] (Qg_f rfl (fun hG=>Zbk rfl rfl (Opd.gd hG u_0) c_i))<|a_p [20,0] rfl (Zbh rfl rfl u_0 (fun hz=>(Opd.gd (bNF hz) u_1)))<|Am 0 rfl<|a_g [0,5] (Qg_f rfl (fun hG=>Zq rfl rfl u_0))<|a_g [10,0] (Qg_f rfl (fun hG=>Zbk rfl rfl (Opd.gd hG u_0) c_i))<|a_p [20,0] rfl (Zbh rfl rfl u_0 (fun hz=>(Opd.gd (bNF hz) u_1)))<|Am 0 rfl<|a_g [0,5] (Qg_f rfl (fun hG=>Zq rfl rfl u_0))<|a_g [10,0] (Qg_f rfl (fun hG=>Zbk rfl rfl (Opd.gd hG u_0) c_i))<|a_p [20,0] rfl (Zbh rfl rfl u_0 (fun hz=>(Opd.gd (bNF hz) u_1)))<|Aa 0 rfl<|a_n) (fun a g hst hb=>?_)
 refine wp_ret ?_
 obtain rfl:=Option.some.inj H0
 exact Z2 rfl hst hb (Zg (s:=2)) (hst.at 0 rfl)
theorem Zx8 (a0:Zj) (a1:Zr) {r:Zj × Zbb} (h:Zmu a0 a1=some r):FnOk Tryz.prog 38 [(Z1.pd a0),(Zx.pd a1)] (pTup [(Z1.pd r.1),(Zbd.pd r.2)]):=by
 have H0:=h
 unfold Zmu at H0
 clear h
 refine Zbs (N:=66) Tryz.func38 rfl rfl (Qe rfl) rfl rfl (fun a g0 hst hb=>?_)
 refine r_a [0,10,20,30] (L:=[(0,_),(1,_)]) hst hb Za
  (a_p (outs:=[(2,(pBox Z1 2 a0))]) (S:=[3]) [5] rfl (Zq5 rfl rfl u_0)<|a_p [15] rfl (Zbt rfl rfl u_0)<|a_p (outs:=[(4,(pBox Z1 4 (default:Zj)))]) (S:=[5]) [] rfl (Zbl (zs:=[.pointer none,.int .i64 0]) (by kernel_rfl) (fun g=>Zd5 g) rfl rfl)<|a_p (outs:=[(5,(pBox Zbd 5 (default:Zbb)))]) (S:=[6]) [] rfl (Zbl (zs:=[.int .i64 0,.int .i64 0,.int .i64 0,.int .i64 0,.int .i64 0,.int .i64 0,.float .f64 0,.int .i64 0,.string ByteArray.empty,.slice none 0 0]) (by kernel_rfl) (fun g=>Zfo g) rfl rfl)<|a_n) (fun a g hst hb=>?_)
 obtain ⟨r1,h2,H0⟩:=Zc H0
 refine r_a [5,15,25,35,80,90] (L:=[(2,_),(3,_),(4,_),(5,_)]) hst hb Za
  (AM Zbu 5 rfl<|Af Zlh 15 rfl<|Al ty_9 0 rfl<|a_p [20,0] rfl (Zf Z4i (Zl8 _ _ h2) rfl rfl (.cons u_0 (.cons u_1 .nil)))<|Am 0 rfl<|a_p [0] rfl (Zz rfl rfl u_0 rfl)<|a_p [10] rfl (Zz rfl rfl u_0 rfl)<|a_p (outs:=[(6,(pBox Ze 6 (default:Zb)))]) (S:=[7]) [] rfl (Zbl (zs:=[.int .i64 0,.int .i64 0,.int .i64 0,.int .i64 0,.float .f64 0,.int .i64 0,.string ByteArray.empty,.slice none 0 0]) (by kernel_rfl) (fun g=>Zb3 g) rfl rfl)<|a_p [20,0] rfl (Zb9 Zbm rfl rfl u_1 u_0)<|Aa 20 rfl<|a_n) (fun a g hst hb=>?_)
 obtain ⟨r3,h4,H0⟩:=Zc H0
 refine r_a [5,15,25,35,100,110,120] (L:=[(2,_),(3,_),(4,_),(5,_),(6,_),(7,_)]) hst hb Za
  (Al Zbm 45 rfl<|Am 55 rfl<|Al Zem 15 rfl<|a_p [20,10,0] rfl (Zf Z8d (Zvh _ _ _ h4) rfl rfl (.cons u_0 (.cons u_1 (.cons u_2 .nil))))<|Am 0 rfl<|a_p [0] rfl (Zz rfl rfl u_0 rfl)<|a_p [10] rfl (Zz rfl rfl u_0 rfl)<|a_p [20] rfl (Zz rfl rfl u_0 rfl)<|a_p (outs:=[(8,(pBox Ze 8 (default:Zb)))]) (S:=[9]) [] rfl (Zbl (zs:=[.int .i64 0,.int .i64 0,.int .i64 0,.int .i64 0,.float .f64 0,.int .i64 0,.string ByteArray.empty,.slice none 0 0]) (by kernel_rfl) (fun g=>Zb3 g) rfl rfl)<|a_p (outs:=[(10,(pBox Zbd 10 (default:Zbb)))]) (S:=[11]) [] rfl (Zbl (zs:=[.int .i64 0,.int .i64 0,.int .i64 0,.int .i64 0,.int .i64 0,.int .i64 0,.float .f64 0,.int .i64 0,.string ByteArray.empty,.slice none 0 0]) (by kernel_rfl) (fun g=>Zfo g) rfl rfl)<|a_p [40,10] rfl (Zb9 Zbm rfl rfl u_1 u_0)<|Aa 40 rfl<|a_p [40,20] rfl (Zb9 Zdb rfl rfl u_1 u_0)<|a_n) (fun a g hst hb=>?_)
 refine wp_seq ?_
 refine wp_block ?_
 obtain ⟨r5,h6,H0⟩:=Zc H0
 refine r_a [5,15,25,35,45,55,65,80] (L:=[(2,_),(3,_),(4,_),(5,_),(8,_),(9,_),(10,_)]) hst hb Za
  (Af Zq1 65 rfl<|Al Zlr 0 rfl<|a_p [0] rfl (Zcw rfl rfl u_0 c_i)<|Am 0 rfl<|a_g [0,15] (Qg_f rfl (fun hG=>Zi Zdw rfl rfl u_0))<|a_g [10,0] (Qg_f rfl (fun hG=>Zs ty_3 rfl rfl (Opd.gd hG u_0)))<|a_g [20,0] (Qg_f rfl (fun hG=>Zf Z8a (Zwa _ (Zbe h6 hG)) rfl rfl (.cons (Opd.gd hG u_0) .nil)))<|a_p [30,0] rfl (Zbh rfl rfl u_0 (fun hz=>(Opd.gd (bNF hz) u_1)))<|Aa 0 rfl<|a_n) (fun a g hst hb=>?_)
 refine wp_cond_split (hst.bool 7 rfl) (fun hc7=>?_) (fun hc7=>?_)
 ·replace H0:=Zo hc7 H0
  refine r_a [20,30] (L:=[(2,_),(4,_),(5,_),(10,_)]) (hst.pick [0,2,3,6] rfl) hb Za
   (AM Zbu 5 rfl<|Al Zdb 35 rfl<|a_p [10,15] rfl (Z7 Zbu rfl rfl u_1 u_0)<|a_p [10,25] rfl (Z7 Zdb rfl rfl u_1 u_0)<|a_n) (fun a g hst hb=>?_)
  refine wp_ret ?_
  refine Zw ?_
  refine Zl ?_
  obtain rfl:=Option.some.inj H0
  obtain ⟨u0,hu0,hq0⟩:=Zbn (P:=Tryz.prog) Zbu (hst.at 0 rfl)
  obtain ⟨u1,hu1,hq1⟩:=Zbn (P:=Tryz.prog) Zdb (hst.at 1 rfl)
  exact Zdl rfl hst hb hu0 hu1 (Zch hq0 hq1)
 ·replace H0:=Zp hc7 H0
  refine r_a [5,15,25,35,45,65,20] (L:=[(2,_),(3,_),(4,_),(5,_),(8,_),(9,_),(10,_)]) (hst.pick [0,1,2,3,4,5,6] rfl) hb Za
   (Am 55 rfl<|a_p [0] rfl (Zcg rfl rfl u_0)<|Aa 0 rfl<|a_n) (fun a g hst hb=>?_)
  refine wp_cond_split (hst.bool 6 rfl) (fun hc8=>?_) (fun hc8=>?_)
  ·replace H0:=Zo hc8 H0
   refine wp_seq ?_
   cases H0
  ·replace H0:=Zp hc8 H0
   refine wp_skip ?_
   refine Zba ?_
   refine Zm ?_
   obtain ⟨r9,h10,H0⟩:=Zc H0
   refine r_a [5,25,35,55,90,100] (L:=[(2,_),(3,_),(4,_),(5,_),(8,_),(10,_)]) (hst.pick [0,1,2,3,4,5] rfl) hb Za
    (AM Zbu 5 rfl<|Af Zlh 15 rfl<|Al ty_9 0 rfl<|Al Zbm 45 rfl<|a_p [30,10,0] rfl (Zf Z4n (Zl7 _ _ _ h10) rfl rfl (.cons u_0 (.cons u_1 (.cons u_2 .nil))))<|Am 0 rfl<|a_p [0] rfl (Zz rfl rfl u_0 rfl)<|a_p [10] rfl (Zz rfl rfl u_0 rfl)<|a_p (outs:=[(11,(pBox Z1 11 (default:Zj)))]) (S:=[12]) [] rfl (Zbl (zs:=[.pointer none,.int .i64 0]) (by kernel_rfl) (fun g=>Zd5 g) rfl rfl)<|a_p [20,0] rfl (Zb9 Zbu rfl rfl u_1 u_0)<|Aa 20 rfl<|a_n) (fun a g hst hb=>?_)
   refine wp_seq ?_
   refine r_a [5,15,25,35,45,55,10] (L:=[(2,_),(4,_),(5,_),(10,_),(11,_),(12,_)]) hst hb Za
    (Am 55 rfl<|a_p [0] rfl (Zcw rfl rfl u_0 c_i)<|a_n) (fun a g hst hb=>?_)
   refine wp_cond_split (hst.bool 6 rfl) (fun hc11=>?_) (fun hc11=>?_)
   ·replace H0:=Zo hc11 H0
    refine r_a [30,40] (L:=[(2,_),(4,_),(5,_),(12,_)]) (hst.pick [0,1,2,5] rfl) hb Za
     (AM Zbu 5 rfl<|Am 35 rfl<|a_p [0] rfl (Zyp rfl rfl u_0)<|a_p [20,15] rfl (Z7 Zbu rfl rfl u_1 u_0)<|a_p [10,25] rfl (Z7 Zdb rfl rfl u_1 u_0)<|a_n) (fun a g hst hb=>?_)
    refine wp_ret ?_
    refine Zl ?_
    obtain rfl:=Option.some.inj H0
    obtain ⟨u0,hu0,hq0⟩:=Zbn (P:=Tryz.prog) Zbu (hst.at 0 rfl)
    obtain ⟨u1,hu1,hq1⟩:=Zbn (P:=Tryz.prog) Zdb (hst.at 1 rfl)
    exact Zdl rfl hst hb hu0 hu1 (Zch hq0 hq1)
   ·replace H0:=Zp hc11 H0
    refine wp_skip ?_
    refine Zm ?_
    refine r_a [20,30] (L:=[(4,_),(5,_),(10,_),(11,_)]) (hst.pick [1,2,3,4] rfl) hb Za
     (Al Zbu 35 rfl<|Al Zdb 25 rfl<|a_p [10,5] rfl (Z7 Zbu rfl rfl u_1 u_0)<|a_p [10,15] rfl (Z7 Zdb rfl rfl u_1 u_0)<|a_n) (fun a g hst hb=>?_)
    refine wp_ret ?_
    obtain rfl:=Option.some.inj H0
    obtain ⟨u0,hu0,hq0⟩:=Zbn (P:=Tryz.prog) Zbu (hst.at 0 rfl)
    obtain ⟨u1,hu1,hq1⟩:=Zbn (P:=Tryz.prog) Zdb (hst.at 1 rfl)
    exact Zdl rfl hst hb hu0 hu1 (Zch hq0 hq1)
theorem Zw7 (a0:Zr) (a1:Zbb) (a2:Int) {r:Zbb} (h:Zlv a0 a1 a2=some r):FnOk Tryz.prog 39 [(Zx.pd a0),(Zbd.pd a1),(pInt .i64 a2)] (Zbd.pd r):=by
 have H0:=h
 unfold Zlv at H0
 clear h
 refine Zbs (N:=20) Tryz.func39 rfl rfl (Qe rfl) rfl rfl (fun a g0 hst hb=>?_)
 refine r_a [25,0,10,20] (L:=[(0,_),(1,_),(2,_)]) hst hb Za
  (a_p [5] rfl (Zbt rfl rfl u_0)<|a_p [15] rfl (Zbt rfl rfl u_0)<|a_p (outs:=[(6,(pBox Zbd 6 (default:Zbb)))]) (S:=[7]) [] rfl (Zbl (zs:=[.int .i64 0,.int .i64 0,.int .i64 0,.int .i64 0,.int .i64 0,.int .i64 0,.float .f64 0,.int .i64 0,.string ByteArray.empty,.slice none 0 0]) (by kernel_rfl) (fun g=>Zfo g) rfl rfl)<|a_n) (fun a g hst hb=>?_)
 refine wp_seq ?_
 refine r_a [5,25,35,60] (L:=[(2,_),(3,_),(4,_),(6,_)]) hst hb Za
  (Af Zt7 15 rfl<|Al ty_4 0 rfl<|Am 0 rfl<|a_g [0,25] (Qg_t rfl (fun hG=>Zi Zq1 rfl rfl u_0))<|a_g [10,0] (Qg_t rfl (fun hG=>Zs Zlr rfl rfl (Opd.gd hG u_0)))<|a_g [20,0] (Qg_t rfl (fun hG=>Zcw rfl rfl (Opd.gd hG u_0) c_i))<|a_p [30,0] rfl (Zbg rfl rfl u_0 (fun hz=>(Opd.gd hz u_1)))<|a_n) (fun a g hst hb=>?_)
 refine Zbp (fun a w=>∃ (g:G),w=g.w ∧ St 20 [(4,(Zbd.ptr a1)),(6,(pBox Zbd 6 (default:Zbb)))] a g ∧ Base g0 g ∧ Znb a1=some r) ?_ ?_
 ·rintro a w ⟨g,rfl,hst,hb,H0⟩
  unfold Znb at H0
  refine Zm ?_
  refine r_a [10] (L:=[(4,_),(6,_)]) hst hb Za
   (Al Zdb 5 rfl<|a_p [0,15] rfl (Z7 Zdb rfl rfl u_1 u_0)<|a_n) (fun a g hst hb=>?_)
  refine wp_ret ?_
  obtain rfl:=Option.some.inj H0
  obtain ⟨u0,hu0,hq0⟩:=Zbn (P:=Tryz.prog) Zdb (hst.at 0 rfl)
  exact Z2 rfl hst hb hu0 hq0
 ·refine wp_cond_split (hst.bool 3 rfl) (fun hc1=>?_) (fun hc1=>?_)
  ·replace H0:=Zo hc1 H0
   cases H0
  ·replace H0:=Zp hc1 H0
   refine wp_skip ?_
   exact ⟨g,rfl,(hst.pick [1,2] rfl),hb,H0⟩
theorem Ztn (a0:Zr) (a1:Zbb) (a2:Int) {r:Zdm} (h:Zki a0 a1 a2=some r):Zzi Tryz.prog 39 [(Zx.pd a0),(Zbd.pd a1),(pInt .i64 a2)] (Zkp 96 (Zeo.pd r)):=by
 have H0:=h
 unfold Zki at H0
 clear h
 refine Z2a (N:=20) Tryz.func39 rfl rfl (Qe rfl) rfl rfl (fun a g0 hst hb=>?_)
 refine r_a [25,0,10,20] (L:=[(0,_),(1,_),(2,_)]) hst hb Za
  (a_p [5] rfl (Zbt rfl rfl u_0)<|a_p [15] rfl (Zbt rfl rfl u_0)<|a_p (outs:=[(6,(pBox Zbd 6 (default:Zbb)))]) (S:=[7]) [] rfl (Zbl (zs:=[.int .i64 0,.int .i64 0,.int .i64 0,.int .i64 0,.int .i64 0,.int .i64 0,.float .f64 0,.int .i64 0,.string ByteArray.empty,.slice none 0 0]) (by kernel_rfl) (fun g=>Zfo g) rfl rfl)<|a_n) (fun a g hst hb=>?_)
 refine wp_seq ?_
 refine r_a [5,25,35,60] (L:=[(2,_),(3,_),(4,_),(6,_)]) hst hb Za
  (Af Zt7 15 rfl<|Al ty_4 0 rfl<|Am 0 rfl<|a_g [0,25] (Qg_t rfl (fun hG=>Zi Zq1 rfl rfl u_0))<|a_g [10,0] (Qg_t rfl (fun hG=>Zs Zlr rfl rfl (Opd.gd hG u_0)))<|a_g [20,0] (Qg_t rfl (fun hG=>Zcw rfl rfl (Opd.gd hG u_0) c_i))<|a_p [30,0] rfl (Zbg rfl rfl u_0 (fun hz=>(Opd.gd hz u_1)))<|a_n) (fun a g hst hb=>?_)
 refine Zbp (fun a w=>∃ (g:G),w=g.w ∧ St 20 [(4,(Zbd.ptr a1)),(6,(pBox Zbd 6 (default:Zbb)))] a g ∧ Base g0 g ∧ Zlg=some r) ?_ ?_
 ·rintro a w ⟨g,rfl,hst,hb,H0⟩
  unfold Zlg at H0
  refine Zm ?_
  refine r_a [10] (L:=[(4,_),(6,_)]) hst hb Za
   (Al Zdb 5 rfl<|a_p [0,15] rfl (Z7 Zdb rfl rfl u_1 u_0)<|a_n) (fun a g hst hb=>?_)
  cases H0
 ·refine wp_cond_split (hst.bool 3 rfl) (fun hc1=>?_) (fun hc1=>?_)
  ·replace H0:=Zo hc1 H0
   obtain rfl:=Option.some.inj H0
   refine r_gQ (L:=[(2,_),(4,_),(6,_)]) (T:=[⟨[.o 1],_,[],[],[14]⟩,⟨[.p 0 0],_,[],[0],[15]⟩,⟨[.o 0],_,[],[],[16]⟩,⟨[.p 1 0,.p 2 0],_,[],[0,1,2],[17]⟩,⟨[.p 3 0],_,[],Lr 4,[18]⟩,⟨[.p 4 0],[(1001,pNo)],[],Lr 5,[1001]⟩]) (F:=[.p 5 0]) (hst.pick [0,1,2] rfl) hb Za
    (q_p rfl (Zi Zq1 rfl rfl u_0)<|q_p rfl (Zs Zlr rfl rfl u_0)<|q_p rfl (Zq rfl rfl u_0)<|q_p rfl (Z1r rfl rfl u_0 u_1)<|q_p rfl (Z2d (by kernel_rfl) rfl rfl u_0)<|q_q (Z1c rfl rfl u_0 (fun a g v hN hD hb hu hv=>by refine Zod ?_;refine Zod ?_;exact Z69 hD hb hv))<|q_n) (by kernel_rfl) (fun a g hst hb=>(hst.at 0 rfl).elim)
  ·replace H0:=Zp hc1 H0
   refine wp_skip ?_
   exact ⟨g,rfl,(hst.pick [1,2] rfl),hb,H0⟩
theorem Zxv (a0:Zj) (a1:Zbq) {r:Zj × Zbv} (h:Zlk a0 a1=some r):FnOk Tryz.prog 15 [(Z1.pd a0),(Zdr.pd a1)] (pTup [(Z1.pd r.1),(Zf5.pd r.2)]):=by
 have H0:=h
 unfold Zlk at H0
 clear h
 refine Z0b (N:=52) Tryz.func15 rfl rfl (Qe rfl) rfl rfl (fun a g0 h0 hst hb=>?_)
 refine r_a [0,10,20,30] (L:=[(0,_),(1,_)]) hst hb Za
  (a_p [5] rfl (Zbt rfl rfl u_0)<|a_p [15] rfl (Zbt rfl rfl u_0)<|a_p (outs:=[(4,(pBox Z1 4 (default:Zj)))]) (S:=[5]) [] rfl (Zbl (zs:=[.pointer none,.int .i64 0]) (by kernel_rfl) (fun g=>Zd5 g) rfl rfl)<|a_p (outs:=[(5,(Zc5 none Zcp Zc8 (hpL (pRow Zbd 98 505 ((default:Zbv).Answers))) 5 (default:Zbv)))]) (S:=[6]) [] rfl (Zqh (R:=hpL (pRow Zbd 98 505 ((default:Zbv).Answers))) (zs:=[.int .i64 0,.int .i64 0,.slice none 0 0]) (none,0,0) (by kernel_rfl) Zsu (fun g=>Zm7 505 g) rfl rfl)<|a_n) (fun a g hst hb=>?_)
 refine wp_seq ?_
 obtain ⟨r1,h2,H0⟩:=Zc H0
 refine r_a [5,15,25,35,50,60] (L:=[(2,_),(3,_),(4,_),(5,_)]) hst hb Za
  (Al Zj5 15 rfl<|a_p [0] rfl (Zf Zzd (Zmb _ h2) rfl rfl (.cons u_0 .nil))<|Am 0 rfl<|a_p [0] rfl (Zz rfl rfl u_0 rfl)<|a_p [10] rfl (Zz rfl rfl u_0 rfl)<|Aa 10 rfl<|Aa 10 rfl<|a_n) (fun a g hst hb=>?_)
 refine r_a [5,15,25,35,45,55,10] (L:=[(2,_),(3,_),(4,_),(5,_),(6,_),(7,_)]) hst hb Za
  (Am 45 rfl<|a_p [0] rfl (Zcw rfl rfl u_0 c_i)<|a_n) (fun a g hst hb=>?_)
 refine wp_cond_split (hst.bool 6 rfl) (fun hc3=>?_) (fun hc3=>?_)
 ·replace H0:=Zo hc3 H0
  refine r_a [5,40,50] (L:=[(2,_),(4,_),(5,_),(6,_),(7,_)]) (hst.pick [0,2,3,4,5] rfl) hb Za
   (Al Zbu 5 rfl<|Am 35 rfl<|Am 45 rfl<|a_p [10,0] rfl (Zu0 rfl rfl u_0 u_1)<|a_p [30,15] rfl (Z7 Zbu rfl rfl u_1 u_0)<|a_p [10,25] rfl (Zo8 (kV:=Zcp) (by rfl) Znt rfl rfl u_1 u_0)<|a_n) (fun a g hst hb=>?_)
  refine wp_ret ?_
  refine Zl ?_
  obtain rfl:=Option.some.inj H0
  obtain ⟨u0,hu0,hq0⟩:=Zbn (P:=Tryz.prog) Zbu (hst.at 1 rfl)
  obtain ⟨u1,hu1,hq1⟩:=Zbn (P:=Tryz.prog) Znt (hst.at 2 rfl)
  exact Z6t rfl hst hb hu0 hu1 (Zch hq0 hq1)
 ·replace H0:=Zp hc3 H0
  refine wp_skip ?_
  refine Zm ?_
  obtain ⟨b4,e4,q4⟩:=Zqv (hst.at 2 rfl)
  obtain ⟨b5,e5,q5⟩:=Z5z (hst.at 3 rfl)
  refine wp_seq ?_
  have q2:=(hst.at 0 rfl)
  obtain ⟨v2,hv2⟩:∃ v2,Act.at a 2=v2:=⟨_,rfl⟩
  refine Z0x (f:=37) (d1:=23) (x1:=2) (x2:=4) (x3:=5) ?_ ?_ ?_ ?_ ?_ ?_ ?_ hv2 e4 e5 hst.df ?_
  ·rfl
  ·rfl
  ·rfl
  ·rfl
  ·rfl
  ·rfl
  ·rw [hst.size];decide
  replace hst:StD (dfr3 37 v2 b4 b5) 52 [(2,(Z1.ptr a0)),(3,(Zdr.ptr a1)),(4,(Zbf (some b4) Z1 4 (default:Zj))),(5,(Zc5 (some b5) Zcp Zc8 (hpL (pRow Zbd 98 505 ((default:Zbv).Answers))) 5 (default:Zbv))),(1000,(pAt v2 (Z1.ptr a0)))] (dact a 23 (.func (.func 37) #[] #[v2,.pointer (some ⟨b4,0,none⟩),.pointer (some ⟨b5,0,none⟩)]) (dfr3 37 v2 b4 b5)) g:=⟨(Zmw ..).trans hst.size,rfl,(Zdz (Zli (by decide) (hst.at 0 rfl)) (Zdz (Zli (by decide) (hst.at 1 rfl)) (Zdz (Zli (by decide) q4) (Zdz (Zli (by decide) q5) (Zdz (Z2w q2 hv2) Zlx)))))⟩
  refine Zm ?_
  refine r_a [5,15,25,35,20,45] (L:=[(2,_),(3,_),(4,_),(5,_),(1000,_)]) hst hb Za
   (Al Zbu 5 rfl<|a_p (outs:=[(8,(pBox Z1 8 (default:Zj)))]) (S:=[9]) [] rfl (Zbl (zs:=[.pointer none,.int .i64 0]) (by kernel_rfl) (fun g=>Zd5 g) rfl rfl)<|a_p [10,0] rfl (Z7 Zbu rfl rfl u_1 u_0)<|a_n) (fun a g hst hb=>?_)
  refine wp_seq ?_
  refine r_a [5,25,35,45,10,20,30,55] (L:=[(2,_),(3,_),(4,_),(5,_),(8,_),(1000,_)]) hst hb Za
   (Af Zku 15 rfl<|Al Zns 0 rfl<|a_p [0] rfl (Zcc Tryz.underlying44 rfl rfl u_0)<|a_p [] rfl (Zq rfl rfl c_i)<|a_n) (fun a g hst hb=>?_)
  obtain ⟨z19,hz1,H0⟩:=Zc H0
  refine Zbp (fun a w=>∃ (y17:Zbv) (y18:Zj) (g:G),w=g.w ∧ StD (dfr3 37 v2 b4 b5) 52 [(2,(Z1.ptr a0)),(4,(Zbf (some b4) Z1 4 (default:Zj))),(5,(Zc5 (some b5) Zcp Zc8 (hpL (pRow Zbd 98 505 y17.Answers)) 5 y17)),(8,(pBox Z1 8 y18)),(1000,(pAt v2 (Z1.ptr a0)))] a g ∧ Base g0 g ∧ (.inr (y17,y18))=z19) ?_ ?_
  ·rintro a w ⟨y17,y18,g,rfl,hst,hb,rfl⟩
   refine Zm ?_
   refine r_a [5,20,30,45] (L:=[(2,_),(4,_),(5,_),(8,_),(1000,_)]) hst hb Za
    (AM Zbu 35 rfl<|a_p [25] rfl (Zpq Zs0 Znt rfl rfl u_0)<|a_p [10,15] rfl (Z7 Zbu rfl rfl u_1 u_0)<|a_p [10,25] rfl (Zo8 (kV:=Zcp) (by rfl) Znt rfl rfl u_1 u_0)<|a_n) (fun a g hst hb=>?_)
   refine wp_ret ?_
   obtain rfl:=Option.some.inj H0
   exact Z5c Zts Z4s rfl Zbu Znt hst hb (hst.at 1 rfl) (hst.at 2 rfl)
  ·refine wp_block ?_
   refine wp_loop_ghost (fun n a w=>∃ (x4:Zbv) (x5:Zj) (x6:Int) (g:G),w=g.w ∧ StD (dfr3 37 v2 b4 b5) 52 [(2,(Z1.ptr a0)),(4,(Zbf (some b4) Z1 4 (default:Zj))),(5,(Zc5 (some b5) Zcp Zc8 (hpL (pRow Zbd 98 505 x4.Answers)) 5 x4)),(8,(pBox Z1 8 x5)),(26,(Zx.sl.pd a1.Acts)),(27,(pInt .i64 (a1.Acts.length:Int))),(28,(pInt .i64 x6)),(1000,(pAt v2 (Z1.ptr a0)))] a g ∧ Base g0 g ∧ Zid a0 a1 n x4 x5 x6=some z19) (Int.toNat ((a1.Acts.length:Int) - (0:Int)) + 1) ⟨(default:Zbv),a0,(0:Int),g,rfl,(hst.pick [0,1,2,3,4,5,6,7] rfl),hb,hz1⟩ (fun n a w hI=>?_)
   obtain ⟨x4,x5,x6,g,rfl,hst,hb,H1⟩:=hI
   cases n with
   | zero=>exact absurd H1 (by simp [Zid])
   | succ n =>
    rw [Zid] at H1
    refine r_a [5,15,25,35,45,55,65,0,75] (L:=[(2,_),(4,_),(5,_),(8,_),(26,_),(27,_),(28,_),(1000,_)]) hst hb Za
     (a_p [65,55] rfl (Zco rfl rfl u_0 u_1)<|a_n) (fun a g hst hb=>?_)
    refine wp_seq ?_
    refine wp_cond_split (hst.bool 7 rfl) (fun hc7=>?_) (fun hc7=>?_)
    ·replace H1:=Zo hc7 H1
     refine wp_skip ?_
     refine Zm ?_
     refine wp_seq ?_
     refine wp_block ?_
     obtain ⟨e8,h9,H1⟩:=Zc H1
     refine r_a [5,15,25,35,40,50,45,55,65,75] (L:=[(2,_),(4,_),(5,_),(8,_),(26,_),(27,_),(28,_),(1000,_)]) (hst.pick [0,1,2,3,4,5,6,8] rfl) hb Za
      (Am 65 rfl<|a_p [45,65] rfl (Zbz Tryz.underlying44 Zvr rfl rfl u_0 u_1 h9)<|Al Zem 0 rfl<|a_p (outs:=[(10,(pBox Zx 10 (default:Zr)))]) (S:=[11]) [] rfl (Zbl (zs:=[.int .i64 0,.string ByteArray.empty,.int .i64 0,.float .f64 0,.string ByteArray.empty,.int .i64 0,.int .i64 0,.int .i64 0,.int .i64 0,.float .f64 0,.int .i64 0,.string ByteArray.empty,.slice none 0 0,.bool false]) (by kernel_rfl) (fun g=>Zi1 g) rfl rfl)<|Aa 30 rfl<|a_p [20,10] rfl (Zb9 Zem rfl rfl u_1 u_0)<|a_n) (fun a g hst hb=>?_)
     refine r_a [5,15,25,35,45,55,0,65,75,85,95] (L:=[(2,_),(4,_),(5,_),(8,_),(9,_),(10,_),(26,_),(27,_),(28,_),(1000,_)]) hst hb Za
      (a_p (outs:=[(11,(pBox Zbd 11 (default:Zbb)))]) (S:=[12]) [] rfl (Zbl (zs:=[.int .i64 0,.int .i64 0,.int .i64 0,.int .i64 0,.int .i64 0,.int .i64 0,.float .f64 0,.int .i64 0,.string ByteArray.empty,.slice none 0 0]) (by kernel_rfl) (fun g=>Zfo g) rfl rfl)<|a_n) (fun a g hst hb=>?_)
     obtain ⟨r10,h11,H1⟩:=Zc H1
     refine r_a [5,15,25,60,45,55,70,75,85,95,105] (L:=[(2,_),(4,_),(5,_),(8,_),(9,_),(10,_),(11,_),(26,_),(27,_),(28,_),(1000,_)]) hst hb Za
      (AM Zbu 35 rfl<|Al Zem 55 rfl<|a_p [10,0] rfl (Zf Z71 (Zx8 _ _ h11) rfl rfl (.cons u_0 (.cons u_1 .nil)))<|Am 0 rfl<|a_p [0] rfl (Zz rfl rfl u_0 rfl)<|a_p [10] rfl (Zz rfl rfl u_0 rfl)<|a_p [10,35] rfl (Z7 Zbu rfl rfl u_1 u_0)<|a_p [10,65] rfl (Z7 Zdb rfl rfl u_1 u_0)<|a_n) (fun a g hst hb=>?_)
     rcases Z2o H1 with ⟨p12,h13,H1⟩ | ⟨h13,H1⟩
     ·obtain rfl:=Option.some.inj H1
      obtain rfl:=Option.some.inj H0
      refine r_gQ (L:=[(2,_),(4,_),(5,_),(8,_),(9,_),(10,_),(11,_),(26,_),(27,_),(28,_),(1000,_)]) (T:=[⟨[.o 2],_,[],[],[39]⟩,⟨[.p 0 0],_,[],[0],[40]⟩,⟨[.o 5],_,[],[],[41]⟩,⟨[.o 6],_,[],[],[42]⟩,⟨[.o 4],_,[],[],[43]⟩,⟨[.p 4 0],_,[],[4],[44]⟩,⟨[.p 2 0,.p 3 0,.p 5 0,.o 1,.o 2,.o 10],[(45,pNo)],[],List.range' 2 4,[45]⟩,⟨[.p 6 0],[],[],List.range' 2 5,[46]⟩,⟨[.p 6 0],[],[],Lr 8,[47]⟩,⟨[.p 6 0],[],[],Lr 9,[48]⟩,⟨[.p 6 0],[],[],Lr 10,[]⟩]) (F:=[.p 6 0]) hst hb Za
       (q_p rfl (Zjy Zrt (off:=2) (q:=(pRow Zbd 98 505 x4.Answers)) (by kernel_rfl) (pr:=id) (fun _=>rfl) (fun _ _ h=>h) rfl rfl u_0)<|q_p rfl (Zpf Zv6 rfl rfl u_0)<|q_p rfl (Zs Zem rfl rfl u_0)<|q_p rfl (Znc Zdb rfl rfl u_0)<|q_p rfl (Zq rfl rfl u_0)<|q_p rfl (Zb6 rfl rfl u_0 c_i rfl)<|q_q (Zxy Z4e (Ztn _ _ _ h13) rfl rfl (.cons u_0 (.cons u_1 (.cons u_2 .nil))) (fun a g v hN hD hb hu hv=>by refine Zuo ?_;refine Zod ?_;refine Zod ?_;refine Zuo ?_;refine Zod ?_;refine Zod ?_;exact Z09 (r:=p12) (s4:=4) (s5:=5) Ztg Z4s rfl Zbu Znt h0 hD hb (by decide) (hu _ (List.mem_of_getElem? (i:=5) rfl)) (hu _ (List.mem_of_getElem? (i:=3) rfl)) (hu _ (List.mem_of_getElem? (i:=4) rfl)) hv))<|q_p rfl (Zsw u_0)<|q_p rfl (Zsw u_0)<|q_p rfl (Zsw u_0)<|q_p rfl (Zsw u_0)<|q_n) (by kernel_rfl) (fun a g hst hb=>(hst.at 0 rfl).elim)
     ·obtain ⟨r14,h15,H1⟩:=Zc H1;obtain ⟨h16,H1⟩:=Zcm H1
      refine r_b [5,15,100,35,75,85,95,105] (L:=[(2,_),(4,_),(5,_),(8,_),(9,_),(10,_),(11,_),(26,_),(27,_),(28,_),(1000,_)]) hst hb Za
       (a_p [25] rfl (Zjy Zrt (off:=2) (q:=(pRow Zbd 98 505 x4.Answers)) (by kernel_rfl) (pr:=id) (fun _=>rfl) (fun _ _ h=>h) rfl rfl u_0)<|a_p [0] rfl (Zpf Zv6 rfl rfl u_0)<|Al Zem 55 rfl<|AM Zdb 65 rfl<|Am 45 rfl<|a_p [0] rfl (Zb6 rfl rfl u_0 c_i rfl)<|a_p [30,20,0] rfl (Zf Z4e (Zw7 _ _ _ h15) rfl rfl (.cons u_0 (.cons u_1 (.cons u_2 .nil))))<|a_p [0] rfl (Zfs Z37 (xs:=[.tmp 45]) (.cons u_0 .nil) (by decide) rfl rfl)<|a_p (outs:=[(5,(Zc5 (some b5) Zcp Zc8 hpT 5 x4)),(47,(pRow Zbd 98 505 (x4.Answers ++ ([r14]:List Zbb))))]) (S:=[506]) [60,0,25] rfl (OB.frameU (Zdi Z37 rfl rfl u_0 u_1 h16) (Opd.imp u_2 (fun _ _ h=>Zzx h)) (fun k hk hS=>Zzs (List.mem_singleton.1 hk) (List.mem_singleton.1 hS) (by decide)) (fun h=>by cases h))<|a_p [0] rfl (Zjy Zrt (off:=2) (q:=pAny) (by kernel_rfl) (pr:=id) (fun _=>rfl) (fun _ _ _=>trivial) rfl rfl u_0)<|a_p [11,0,10] rfl (Zqm (x':=({ x4 with Answers:=(x4.Answers ++ ([r14]:List Zbb)) }:Zbv)) (R2:=hpL (pRow Zbd 98 505 (({ x4 with Answers:=(x4.Answers ++ ([r14]:List Zbb)) }:Zbv).Answers))) (upd:=fun _ s2=>s2) Zv6 rfl rfl (fun _ _ h=>Zth h) (fun k hk=>by rw [List.mem_singleton.1 hk];decide) (fun k hk=>by cases hk) u_2 (fun a g hh=>Ztl (u_1 a g hh)) u_0 (fun _ _ _ _ h=>h) (fun g cs s0 s1 ys h k=>Zsd h k))<|a_n) (fun a g hst hb=>?_)
      refine Zba ?_
      refine Zm ?_
      refine r_b [5,15,25,35,45,55,10,75] (L:=[(2,_),(4,_),(5,_),(8,_),(26,_),(27,_),(28,_),(1000,_)]) hst hb Za
       (a_p [65] rfl (Zb6 rfl rfl u_0 c_i rfl)<|Am 0 rfl<|a_n) (fun a g hst hb=>?_)
      exact ⟨n,Nat.lt_succ_self _,({ x4 with Answers:=(x4.Answers ++ ([r14]:List Zbb)) }:Zbv),r10.1,(IntKind.i64.wrap (x6 + (1:Int))),g,rfl,(hst.pick [0,1,2,3,4,5,6,7] rfl),hb,H1⟩
    ·replace H1:=Zp hc7 H1
     refine wp_exit ?_
     refine Zbw ?_
     refine Zbw ?_
     refine Zb4 ?_
     exact ⟨x4,x5,g,rfl,(hst.pick [0,1,2,3,8] rfl),hb,Option.some.inj H1⟩
theorem Zve (a0:Zj) (a1:Zj) {r:Bool} (h:Zj2 a0 a1=some r):FnOk Tryz.prog 16 [(Z1.pd a0),(Z1.pd a1)] (Z5 r):=by
 have H0:=h
 unfold Zj2 at H0
 clear h
 refine Zbs (N:=46) Tryz.func16 rfl rfl (Qe rfl) rfl rfl (fun a g0 hst hb=>?_)
 refine r_a [0,10] (L:=[(0,_),(1,_)]) hst hb Za
  (a_p [5] rfl (Zbt rfl rfl u_0)<|a_p [15] rfl (Zbt rfl rfl u_0)<|a_p [] rfl (Zd rfl rfl c_b)<|a_n) (fun a g hst hb=>?_)
 refine wp_seq ?_
 obtain ⟨r1,h2,H0⟩:=Zc H0;obtain ⟨r3,h4,H0⟩:=Zc H0
 refine r_a [5,15,40] (L:=[(2,_),(3,_)]) hst hb Za
  (Al Zbu 5 rfl<|a_p [0] rfl (Zf en_8 (Ze9 _ h2) rfl rfl (.cons u_0 .nil))<|Al Zbu 15 rfl<|a_p [0] rfl (Zf en_8 (Ze9 _ h4) rfl rfl (.cons u_0 .nil))<|a_p [20,0] rfl (Zcw rfl rfl u_0 u_1)<|a_n) (fun a g hst hb=>?_)
 refine wp_cond_split (hst.bool 2 rfl) (fun hc5=>?_) (fun hc5=>?_)
 ·replace H0:=Zo hc5 H0
  refine r_a [0] (L:=[]) (hst.pick [] rfl) hb Za
   (a_p [] rfl (Zd rfl rfl c_b)<|a_n) (fun a g hst hb=>?_)
  refine wp_ret ?_
  refine Zl ?_
  obtain rfl:=Option.some.inj H0
  exact Z2 rfl hst hb (Zg (s:=4)) (hst.at 0 rfl)
 ·replace H0:=Zp hc5 H0
  refine wp_skip ?_
  refine Zm ?_
  refine wp_seq ?_
  obtain ⟨r6,h7,H0⟩:=Zc H0
  refine r_a [5,15,10,20] (L:=[(2,_),(3,_)]) (hst.pick [0,1] rfl) hb Za
   (Al Zbu 5 rfl<|a_p [0] rfl (Zf en_8 (Ze9 _ h7) rfl rfl (.cons u_0 .nil))<|a_p [] rfl (Zq rfl rfl c_i)<|a_n) (fun a g hst hb=>?_)
  obtain ⟨z17,hz1,H0⟩:=Zc H0
  refine Zbp (fun a w=>∃ (g:G),w=g.w ∧ St 46 [] a g ∧ Base g0 g ∧ (.inr ())=z17) ?_ ?_
  ·rintro a w ⟨g,rfl,hst,hb,rfl⟩
   refine Zm ?_
   refine r_a [0] (L:=[]) hst hb Za
    (a_p [] rfl (Zd rfl rfl c_b)<|a_n) (fun a g hst hb=>?_)
   refine wp_ret ?_
   obtain rfl:=Option.some.inj H0
   exact Z2 rfl hst hb (Zg (s:=4)) (hst.at 0 rfl)
  ·refine wp_block ?_
   refine wp_loop_ghost (fun n a w=>∃ (x8:Int) (g:G),w=g.w ∧ St 46 [(2,(Z1.ptr a0)),(3,(Z1.ptr a1)),(18,(pInt .i64 r6)),(19,(pInt .i64 x8))] a g ∧ Base g0 g ∧ Zfp a0 a1 r6 n x8=some z17) (Int.toNat (r6 - (0:Int)) + 1) ⟨(0:Int),g,rfl,(hst.pick [0,1,2,3] rfl),hb,hz1⟩ (fun n a w hI=>?_)
   obtain ⟨x8,g,rfl,hst,hb,H1⟩:=hI
   cases n with
   | zero=>exact absurd H1 (by simp [Zfp])
   | succ n =>
    rw [Zfp] at H1
    refine r_a [5,15,25,35,0] (L:=[(2,_),(3,_),(18,_),(19,_)]) hst hb Za
     (a_p [35,25] rfl (Zco rfl rfl u_0 u_1)<|a_n) (fun a g hst hb=>?_)
    refine wp_seq ?_
    refine wp_cond_split (hst.bool 4 rfl) (fun hc9=>?_) (fun hc9=>?_)
    ·replace H1:=Zo hc9 H1
     refine wp_skip ?_
     refine Zm ?_
     refine wp_seq ?_
     refine wp_block ?_
     refine r_a [5,15,10,25,35] (L:=[(2,_),(3,_),(18,_),(19,_)]) (hst.pick [0,1,2,3] rfl) hb Za
      (Am 35 rfl<|Aa 0 rfl<|a_n) (fun a g hst hb=>?_)
     obtain ⟨r10,h11,H1⟩:=Zc H1
     refine r_a [5,15,25,80,90,35,45] (L:=[(2,_),(3,_),(5,_),(18,_),(19,_)]) hst hb Za
      (Al Zbu 5 rfl<|Am 25 rfl<|a_p [10,0] rfl (Zf en_9 (Zik _ _ h11) rfl rfl (.cons u_0 (.cons u_1 .nil)))<|Am 0 rfl<|a_p [0] rfl (Zz rfl rfl u_0 rfl)<|a_p [10] rfl (Zz rfl rfl u_0 rfl)<|a_p [20] rfl (Zz rfl rfl u_0 rfl)<|a_p (outs:=[(7,(pBox Ze 7 (default:Zb)))]) (S:=[8]) [] rfl (Zbl (zs:=[.int .i64 0,.int .i64 0,.int .i64 0,.int .i64 0,.float .f64 0,.int .i64 0,.string ByteArray.empty,.slice none 0 0]) (by kernel_rfl) (fun g=>Zb3 g) rfl rfl)<|Aa 30 rfl<|a_p [30,10] rfl (Zb9 Zbm rfl rfl u_1 u_0)<|Aa 30 rfl<|a_n) (fun a g hst hb=>?_)
     obtain ⟨r12,h13,H1⟩:=Zc H1
     refine r_a [5,15,35,45,80,90,55,65] (L:=[(2,_),(3,_),(5,_),(6,_),(7,_),(18,_),(19,_)]) hst hb Za
      (Al Zbu 15 rfl<|Am 25 rfl<|a_p [10,0] rfl (Zf en_9 (Zik _ _ h13) rfl rfl (.cons u_0 (.cons u_1 .nil)))<|Am 0 rfl<|a_p [0] rfl (Zz rfl rfl u_0 rfl)<|a_p [10] rfl (Zz rfl rfl u_0 rfl)<|a_p [20] rfl (Zz rfl rfl u_0 rfl)<|a_p (outs:=[(10,(pBox Ze 10 (default:Zb)))]) (S:=[11]) [] rfl (Zbl (zs:=[.int .i64 0,.int .i64 0,.int .i64 0,.int .i64 0,.float .f64 0,.int .i64 0,.string ByteArray.empty,.slice none 0 0]) (by kernel_rfl) (fun g=>Zb3 g) rfl rfl)<|Aa 30 rfl<|a_p [30,10] rfl (Zb9 Zbm rfl rfl u_1 u_0)<|Aa 30 rfl<|a_n) (fun a g hst hb=>?_)
     obtain ⟨r14,h15,H1⟩:=Zc H1
     refine r_a [5,15,65,75,80] (L:=[(2,_),(3,_),(6,_),(7,_),(9,_),(10,_),(18,_),(19,_)]) hst hb Za
      (Am 25 rfl<|Am 45 rfl<|a_p [10,0] rfl (Zkl rfl rfl u_0 u_1)<|Am 0 rfl<|a_g [0,35] (Qg_f rfl (fun hG=>Zs Zbm rfl rfl u_0))<|a_g [10,55] (Qg_f rfl (fun hG=>Zs Zbm rfl rfl u_0))<|a_g [20,10,0] (Qg_f rfl (fun hG=>Zf Z4g (Zrg _ _ (Zbe h15 hG)) rfl rfl (.cons (Opd.gd hG u_0) (.cons (Opd.gd hG u_1) .nil))))<|a_g [30,0] (Qg_f rfl (fun hG=>Zcg rfl rfl (Opd.gd hG u_0)))<|a_p [40,0] rfl (Zbh rfl rfl u_0 (fun hz=>(Opd.gd (bNF hz) u_1)))<|a_n) (fun a g hst hb=>?_)
     refine wp_cond_split (hst.bool 4 rfl) (fun hc16=>?_) (fun hc16=>?_)
     ·replace H1:=Zo hc16 H1
      refine r_a [0] (L:=[]) (hst.pick [] rfl) hb Za
       (a_p [] rfl (Zd rfl rfl c_b)<|a_n) (fun a g hst hb=>?_)
      refine wp_ret ?_
      refine Zw ?_
      refine Zl ?_
      refine Zl ?_
      refine Zw ?_
      refine Zl ?_
      refine Zl ?_
      obtain rfl:=Option.some.inj H1
      obtain rfl:=Option.some.inj H0
      exact Z2 rfl hst hb (Zg (s:=4)) (hst.at 0 rfl)
     ·replace H1:=Zp hc16 H1
      refine wp_skip ?_
      refine Zba ?_
      refine Zm ?_
      refine r_b [5,15,25,10] (L:=[(2,_),(3,_),(18,_),(19,_)]) (hst.pick [0,1,2,3] rfl) hb Za
       (a_p [35] rfl (Zb6 rfl rfl u_0 c_i rfl)<|Am 0 rfl<|a_n) (fun a g hst hb=>?_)
      exact ⟨n,Nat.lt_succ_self _,(IntKind.i64.wrap (x8 + (1:Int))),g,rfl,(hst.pick [0,1,2,3] rfl),hb,H1⟩
    ·replace H1:=Zp hc9 H1
     refine wp_exit ?_
     refine Zbw ?_
     refine Zbw ?_
     refine Zb4 ?_
     exact ⟨g,rfl,(hst.pick [] rfl),hb,Option.some.inj H1⟩
theorem Zp1 (a0:Zj) {r:Int} (h:Ziz a0=some r):FnOk Tryz.prog 41 [(Z1.pd a0)] (pInt .i64 r):=by
 have H0:=h
 unfold Ziz at H0
 clear h
 refine Zbs (N:=5) Tryz.func41 rfl rfl (Qe rfl) rfl rfl (fun a g0 hst hb=>?_)
 refine r_a [0] (L:=[(0,_)]) hst hb Za
  (a_p [5] rfl (Zbt rfl rfl u_0)<|a_p [] rfl (Zd rfl rfl c_i)<|a_n) (fun a g hst hb=>?_)
 refine r_a [20] (L:=[(1,_)]) hst hb Za
  (Af Zti 5 rfl<|Al ty_3 0 rfl<|Aa 0 rfl<|a_n) (fun a g hst hb=>?_)
 refine wp_ret ?_
 obtain rfl:=Option.some.inj H0
 exact Z2 rfl hst hb (Zg (s:=2)) (hst.at 0 rfl)
theorem Zpv (a0:Zb) (a1:Zb) {r:Bool} (h:Zg3 a0 a1=some r):FnOk Tryz.prog 42 [(Ze.pd a0),(Ze.pd a1)] (Z5 r):=by
 have H0:=h
 unfold Zg3 at H0
 clear h
 refine Zbs (N:=97) Tryz.func42 rfl rfl (Qe rfl) rfl rfl (fun a g0 hst hb=>?_)
 refine r_a [0,10] (L:=[(0,_),(1,_)]) hst hb Za
  (a_p [5] rfl (Zbt rfl rfl u_0)<|a_p [15] rfl (Zbt rfl rfl u_0)<|a_p [] rfl (Zd rfl rfl c_b)<|a_n) (fun a g hst hb=>?_)
 refine wp_seq ?_
 refine r_a [5,15,390] (L:=[(2,_),(3,_)]) hst hb Za
  (Af Zed 5 rfl<|Al ty_3 0 rfl<|Af Zed 15 rfl<|Al ty_3 0 rfl<|a_p [20,0] rfl (Zcw rfl rfl u_0 u_1)<|Am 0 rfl<|a_g [0,5] (Qg_f rfl (fun hG=>Zi Zhi rfl rfl u_0))<|a_g [10,0] (Qg_f rfl (fun hG=>Zs ty_2 rfl rfl (Opd.gd hG u_0)))<|a_g [20,15] (Qg_f rfl (fun hG=>Zi Zhi rfl rfl u_0))<|a_g [30,0] (Qg_f rfl (fun hG=>Zs ty_2 rfl rfl (Opd.gd hG u_0)))<|a_g [40,20,0] (Qg_f rfl (fun hG=>Zcw rfl rfl (Opd.gd hG u_0) (Opd.gd hG u_1)))<|a_p [50,0] rfl (Zbh rfl rfl u_0 (fun hz=>(Opd.gd (bNF hz) u_1)))<|Am 0 rfl<|a_g [0,5] (Qg_f rfl (fun hG=>Zi Ziq rfl rfl u_0))<|a_g [10,0] (Qg_f rfl (fun hG=>Zs ty_2 rfl rfl (Opd.gd hG u_0)))<|a_g [20,15] (Qg_f rfl (fun hG=>Zi Ziq rfl rfl u_0))<|a_g [30,0] (Qg_f rfl (fun hG=>Zs ty_2 rfl rfl (Opd.gd hG u_0)))<|a_g [40,20,0] (Qg_f rfl (fun hG=>Zcw rfl rfl (Opd.gd hG u_0) (Opd.gd hG u_1)))<|a_p [50,0] rfl (Zbh rfl rfl u_0 (fun hz=>(Opd.gd (bNF hz) u_1)))<|Am 0 rfl<|a_g [0,5] (Qg_f rfl (fun hG=>Zi Ziv rfl rfl u_0))<|a_g [10,0] (Qg_f rfl (fun hG=>Zs ty_2 rfl rfl (Opd.gd hG u_0)))<|a_g [20,15] (Qg_f rfl (fun hG=>Zi Ziv rfl rfl u_0))<|a_g [30,0] (Qg_f rfl (fun hG=>Zs ty_2 rfl rfl (Opd.gd hG u_0)))<|a_g [40,20,0] (Qg_f rfl (fun hG=>Zcw rfl rfl (Opd.gd hG u_0) (Opd.gd hG u_1)))<|a_p [50,0] rfl (Zbh rfl rfl u_0 (fun hz=>(Opd.gd (bNF hz) u_1)))<|Am 0 rfl<|a_g [0,5] (Qg_f rfl (fun hG=>Zi Zgw rfl rfl u_0))<|a_g [10,0] (Qg_f rfl (fun hG=>Zs ty_3 rfl rfl (Opd.gd hG u_0)))<|a_g [20,15] (Qg_f rfl (fun hG=>Zi Zgw rfl rfl u_0))<|a_g [30,0] (Qg_f rfl (fun hG=>Zs ty_3 rfl rfl (Opd.gd hG u_0)))<|a_g [40,20,0] (Qg_f rfl (fun hG=>Zcw rfl rfl (Opd.gd hG u_0) (Opd.gd hG u_1)))<|a_p [50,0] rfl (Zbh rfl rfl u_0 (fun hz=>(Opd.gd (bNF hz) u_1)))<|Am 0 rfl<|a_g [0,5] (Qg_f rfl (fun hG=>Zi Zje rfl rfl u_0))<|a_g [10,0] (Qg_f rfl (fun hG=>Zs ty_9 rfl rfl (Opd.gd hG u_0)))<|a_g [20,15] (Qg_f rfl (fun hG=>Zi Zje rfl rfl u_0))<|a_g [30,0] (Qg_f rfl (fun hG=>Zs ty_9 rfl rfl (Opd.gd hG u_0)))<|a_g [40,20,0] (Qg_f rfl (fun hG=>Zkl rfl rfl (Opd.gd hG u_0) (Opd.gd hG u_1)))<|a_p [50,0] rfl (Zbh rfl rfl u_0 (fun hz=>(Opd.gd (bNF hz) u_1)))<|a_n) (fun a g hst hb=>?_)
 refine wp_cond_split (hst.bool 2 rfl) (fun hc1=>?_) (fun hc1=>?_)
 ·replace H0:=Zo hc1 H0
  refine r_a [0] (L:=[]) (hst.pick [] rfl) hb Za
   (a_p [] rfl (Zd rfl rfl c_b)<|a_n) (fun a g hst hb=>?_)
  refine wp_ret ?_
  refine Zl ?_
  obtain rfl:=Option.some.inj H0
  exact Z2 rfl hst hb (Zg (s:=4)) (hst.at 0 rfl)
 ·replace H0:=Zp hc1 H0
  refine wp_skip ?_
  refine Zm ?_
  refine wp_seq ?_
  obtain ⟨r2,h3,H0⟩:=Zc H0
  refine r_a [5,15,140] (L:=[(2,_),(3,_)]) (hst.pick [0,1] rfl) hb Za
   (Af Zj4 5 rfl<|Al Zdt 0 rfl<|Af Zj4 15 rfl<|Al Zdt 0 rfl<|a_p [20,0] rfl (Zf Zvy (Zhc _ _ h3) rfl rfl (.cons u_0 (.cons u_1 .nil)))<|a_p [0] rfl (Zcg rfl rfl u_0)<|Am 0 rfl<|a_g [0,5] (Qg_f rfl (fun hG=>Zi Zd1 rfl rfl u_0))<|a_g [10,0] (Qg_f rfl (fun hG=>Zs Zfz rfl rfl (Opd.gd hG u_0)))<|a_g [20,0] (Qg_f rfl (fun hG=>Zcc Tryz.underlying36 rfl rfl (Opd.gd hG u_0)))<|a_g [30,15] (Qg_f rfl (fun hG=>Zi Zd1 rfl rfl u_0))<|a_g [40,0] (Qg_f rfl (fun hG=>Zs Zfz rfl rfl (Opd.gd hG u_0)))<|a_g [50,0] (Qg_f rfl (fun hG=>Zcc Tryz.underlying36 rfl rfl (Opd.gd hG u_0)))<|a_g [60,30,0] (Qg_f rfl (fun hG=>Zcw rfl rfl (Opd.gd hG u_0) (Opd.gd hG u_1)))<|a_p [70,0] rfl (Zbh rfl rfl u_0 (fun hz=>(Opd.gd (bNF hz) u_1)))<|a_n) (fun a g hst hb=>?_)
  refine wp_cond_split (hst.bool 2 rfl) (fun hc4=>?_) (fun hc4=>?_)
  ·replace H0:=Zo hc4 H0
   refine r_a [0] (L:=[]) (hst.pick [] rfl) hb Za
    (a_p [] rfl (Zd rfl rfl c_b)<|a_n) (fun a g hst hb=>?_)
   refine wp_ret ?_
   refine Zl ?_
   obtain rfl:=Option.some.inj H0
   exact Z2 rfl hst hb (Zg (s:=4)) (hst.at 0 rfl)
  ·replace H0:=Zp hc4 H0
   refine wp_skip ?_
   refine Zm ?_
   refine wp_seq ?_
   refine r_a [5,15,0] (L:=[(2,_),(3,_)]) (hst.pick [0,1] rfl) hb Za
    (a_p [] rfl (Zd rfl rfl c_i)<|a_n) (fun a g hst hb=>?_)
   obtain ⟨z18,hz1,H0⟩:=Zc H0
   refine Zbp (fun a w=>∃ (g:G),w=g.w ∧ St 97 [] a g ∧ Base g0 g ∧ (.inr ())=z18) ?_ ?_
   ·rintro a w ⟨g,rfl,hst,hb,rfl⟩
    refine Zm ?_
    refine r_a [0] (L:=[]) hst hb Za
     (a_p [] rfl (Zd rfl rfl c_b)<|a_n) (fun a g hst hb=>?_)
    refine wp_ret ?_
    obtain rfl:=Option.some.inj H0
    exact Z2 rfl hst hb (Zg (s:=4)) (hst.at 0 rfl)
   ·refine wp_block ?_
    refine wp_loop_ghost (fun n a w=>∃ (x5:Int) (g:G),w=g.w ∧ St 97 [(2,(Ze.ptr a0)),(3,(Ze.ptr a1)),(5,(pInt .i64 x5))] a g ∧ Base g0 g ∧ Zdn a0 a1 n x5=some z18) (Int.toNat ((a0.List.length:Int) - (0:Int)) + 1) ⟨(0:Int),g,rfl,(hst.pick [0,1,2] rfl),hb,hz1⟩ (fun n a w hI=>?_)
    obtain ⟨x5,g,rfl,hst,hb,H1⟩:=hI
    cases n with
    | zero=>exact absurd H1 (by simp [Zdn])
    | succ n =>
     rw [Zdn] at H1
     refine wp_seq ?_
     refine r_a [5,15,25,40] (L:=[(2,_),(3,_),(5,_)]) hst hb Za
      (Am 25 rfl<|Af Zd1 5 rfl<|Al Zfz 0 rfl<|a_p [0] rfl (Zcc Tryz.underlying36 rfl rfl u_0)<|a_p [30,0] rfl (Zco rfl rfl u_0 u_1)<|a_n) (fun a g hst hb=>?_)
     refine wp_cond_split (hst.bool 3 rfl) (fun hc6=>?_) (fun hc6=>?_)
     ·replace H1:=Zo hc6 H1
      refine wp_skip ?_
      refine Zm ?_
      refine wp_seq ?_
      refine wp_block ?_
      obtain ⟨e7,h8,H1⟩:=Zc H1;obtain ⟨e9,h10,H1⟩:=Zc H1;obtain ⟨e11,h12,H1⟩:=Zc H1;obtain ⟨e13,h14,H1⟩:=Zc H1;obtain ⟨r15,h16,H1⟩:=Zc H1
      refine r_a [5,15,25,280] (L:=[(2,_),(3,_),(5,_)]) (hst.pick [0,1,2] rfl) hb Za
       (Af Zd1 5 rfl<|Al Zfz 0 rfl<|Am 25 rfl<|a_p [10,0] rfl (Zbz Tryz.underlying36 Zji rfl rfl u_0 u_1 h8)<|Af Ze7 0 rfl<|Al ty_9 0 rfl<|Af Zd1 15 rfl<|Al Zfz 0 rfl<|Am 25 rfl<|a_p [10,0] rfl (Zbz Tryz.underlying36 Zji rfl rfl u_0 u_1 h10)<|Af Ze7 0 rfl<|Al ty_9 0 rfl<|a_p [60,0] rfl (Zkl rfl rfl u_0 u_1)<|Am 0 rfl<|a_g [0,5] (Qg_f rfl (fun hG=>Zi Zd1 rfl rfl u_0))<|a_g [10,0] (Qg_f rfl (fun hG=>Zs Zfz rfl rfl (Opd.gd hG u_0)))<|a_g [20,25] (Qg_f rfl (fun hG=>Zq rfl rfl u_0))<|a_g [30,10,0] (Qg_f rfl (fun hG=>Zbz Tryz.underlying36 Zji rfl rfl (Opd.gd hG u_0) (Opd.gd hG u_1) (Zbe h12 hG)))<|a_g [40,0] (Qg_f rfl (fun hG=>Zi Zev rfl rfl (Opd.gd hG u_0)))<|a_g [50,0] (Qg_f rfl (fun hG=>Zs Zdt rfl rfl (Opd.gd hG u_0)))<|a_g [60,15] (Qg_f rfl (fun hG=>Zi Zd1 rfl rfl u_0))<|a_g [70,0] (Qg_f rfl (fun hG=>Zs Zfz rfl rfl (Opd.gd hG u_0)))<|a_g [80,25] (Qg_f rfl (fun hG=>Zq rfl rfl u_0))<|a_g [90,10,0] (Qg_f rfl (fun hG=>Zbz Tryz.underlying36 Zji rfl rfl (Opd.gd hG u_0) (Opd.gd hG u_1) (Zbe h14 hG)))<|a_g [100,0] (Qg_f rfl (fun hG=>Zi Zev rfl rfl (Opd.gd hG u_0)))<|a_g [110,0] (Qg_f rfl (fun hG=>Zs Zdt rfl rfl (Opd.gd hG u_0)))<|a_g [120,60,0] (Qg_f rfl (fun hG=>Zf Zvy (Zhc _ _ (Zbe h16 hG)) rfl rfl (.cons (Opd.gd hG u_0) (.cons (Opd.gd hG u_1) .nil))))<|a_g [130,0] (Qg_f rfl (fun hG=>Zcg rfl rfl (Opd.gd hG u_0)))<|a_p [140,0] rfl (Zbh rfl rfl u_0 (fun hz=>(Opd.gd (bNF hz) u_1)))<|a_n) (fun a g hst hb=>?_)
      refine wp_cond_split (hst.bool 3 rfl) (fun hc17=>?_) (fun hc17=>?_)
      ·replace H1:=Zo hc17 H1
       refine r_a [0] (L:=[]) (hst.pick [] rfl) hb Za
        (a_p [] rfl (Zd rfl rfl c_b)<|a_n) (fun a g hst hb=>?_)
       refine wp_ret ?_
       refine Zw ?_
       refine Zl ?_
       refine Zl ?_
       refine Zw ?_
       refine Zl ?_
       refine Zl ?_
       obtain rfl:=Option.some.inj H1
       obtain rfl:=Option.some.inj H0
       exact Z2 rfl hst hb (Zg (s:=4)) (hst.at 0 rfl)
      ·replace H1:=Zp hc17 H1
       refine wp_skip ?_
       refine Zba ?_
       refine Zm ?_
       refine r_b [5,15,20] (L:=[(2,_),(3,_),(5,_)]) (hst.pick [0,1,2] rfl) hb Za
        (Am 25 rfl<|a_p [0] rfl (Zb6 rfl rfl u_0 c_i rfl)<|Aa 0 rfl<|a_n) (fun a g hst hb=>?_)
       exact ⟨n,Nat.lt_succ_self _,(IntKind.i64.wrap (x5 + (1:Int))),g,rfl,(hst.pick [0,1,2] rfl),hb,H1⟩
     ·replace H1:=Zp hc6 H1
      refine wp_exit ?_
      refine Zbw ?_
      refine Zbw ?_
      refine Zb4 ?_
      exact ⟨g,rfl,(hst.pick [] rfl),hb,Option.some.inj H1⟩
theorem Zq6 (a0:Zj) (a1:Zn) {r:Int} (h:Zip a0 a1=some r):FnOk Tryz.prog 17 [(Z1.pd a0),(Zbo.pd a1)] (pInt .i64 r):=by
 have H0:=h
 unfold Zip at H0
 clear h
 refine Zbs (N:=54) Tryz.func17 rfl rfl (Qe rfl) rfl rfl (fun a g0 hst hb=>?_)
 refine r_a [0,10] (L:=[(0,_),(1,_)]) hst hb Za
  (a_p [5] rfl (Zbt rfl rfl u_0)<|a_p [15] rfl (Zbt rfl rfl u_0)<|a_p [] rfl (Zd rfl rfl c_i)<|a_n) (fun a g hst hb=>?_)
 refine wp_seq ?_
 obtain ⟨r1,h2,H0⟩:=Zc H0;obtain ⟨r3,h4,H0⟩:=Zc H0
 refine r_a [5,15,120] (L:=[(2,_),(3,_)]) hst hb Za
  (Al Zbu 5 rfl<|a_p [0] rfl (Zf en_8 (Ze9 _ h2) rfl rfl (.cons u_0 .nil))<|Af Zj9 15 rfl<|Al Zmh 0 rfl<|a_p [0] rfl (Zcc Tryz.underlying22 rfl rfl u_0)<|a_p [30,0] rfl (Zcw rfl rfl u_0 u_1)<|Am 0 rfl<|a_g [0,5] (Qg_f rfl (fun hG=>Zs Zbu rfl rfl u_0))<|a_g [10,0] (Qg_f rfl (fun hG=>Zf Z8g (Zp1 _ (Zbe h4 hG)) rfl rfl (.cons (Opd.gd hG u_0) .nil)))<|a_g [20,15] (Qg_f rfl (fun hG=>Zi Ztw rfl rfl u_0))<|a_g [30,0] (Qg_f rfl (fun hG=>Zs ty_3 rfl rfl (Opd.gd hG u_0)))<|a_g [40,20,0] (Qg_f rfl (fun hG=>Zcw rfl rfl (Opd.gd hG u_0) (Opd.gd hG u_1)))<|a_p [50,0] rfl (Zbh rfl rfl u_0 (fun hz=>(Opd.gd (bNF hz) u_1)))<|a_n) (fun a g hst hb=>?_)
 refine wp_cond_split (hst.bool 2 rfl) (fun hc5=>?_) (fun hc5=>?_)
 ·replace H0:=Zo hc5 H0
  refine r_a [0] (L:=[]) (hst.pick [] rfl) hb Za
   (a_p [] rfl (Zd rfl rfl c_i)<|a_n) (fun a g hst hb=>?_)
  refine wp_ret ?_
  refine Zl ?_
  obtain rfl:=Option.some.inj H0
  exact Z2 rfl hst hb (Zg (s:=4)) (hst.at 0 rfl)
 ·replace H0:=Zp hc5 H0
  refine wp_skip ?_
  refine Zm ?_
  refine wp_seq ?_
  refine r_a [5,10,20,30] (L:=[(2,_),(3,_)]) (hst.pick [0,1] rfl) hb Za
   (Af Zj9 15 rfl<|Al Zmh 0 rfl<|a_p [0] rfl (Zcc Tryz.underlying22 rfl rfl u_0)<|a_p [] rfl (Zq rfl rfl c_i)<|a_n) (fun a g hst hb=>?_)
  obtain ⟨z15,hz1,H0⟩:=Zc H0
  refine Zbp (fun a w=>∃ (g:G),w=g.w ∧ St 54 [] a g ∧ Base g0 g ∧ (.inr ())=z15) ?_ ?_
  ·rintro a w ⟨g,rfl,hst,hb,rfl⟩
   refine Zm ?_
   refine r_a [0] (L:=[]) hst hb Za
    (a_p [] rfl (Zd rfl rfl c_i)<|a_n) (fun a g hst hb=>?_)
   refine wp_ret ?_
   obtain rfl:=Option.some.inj H0
   exact Z2 rfl hst hb (Zg (s:=4)) (hst.at 0 rfl)
  ·refine wp_block ?_
   refine wp_loop_ghost (fun n a w=>∃ (x6:Int) (g:G),w=g.w ∧ St 54 [(2,(Z1.ptr a0)),(24,(Zbr.sl.pd a1.L)),(25,(pInt .i64 (a1.L.length:Int))),(26,(pInt .i64 x6))] a g ∧ Base g0 g ∧ Zd9 a0 a1 n x6=some z15) (Int.toNat ((a1.L.length:Int) - (0:Int)) + 1) ⟨(0:Int),g,rfl,(hst.pick [0,1,2,3] rfl),hb,hz1⟩ (fun n a w hI=>?_)
   obtain ⟨x6,g,rfl,hst,hb,H1⟩:=hI
   cases n with
   | zero=>exact absurd H1 (by simp [Zd9])
   | succ n =>
    rw [Zd9] at H1
    refine r_a [5,15,25,35,0] (L:=[(2,_),(24,_),(25,_),(26,_)]) hst hb Za
     (a_p [35,25] rfl (Zco rfl rfl u_0 u_1)<|a_n) (fun a g hst hb=>?_)
    refine wp_seq ?_
    refine wp_cond_split (hst.bool 4 rfl) (fun hc7=>?_) (fun hc7=>?_)
    ·replace H1:=Zo hc7 H1
     refine wp_skip ?_
     refine Zm ?_
     refine wp_seq ?_
     refine wp_block ?_
     obtain ⟨e8,h9,H1⟩:=Zc H1
     refine r_a [5,40,50,15,25,35] (L:=[(2,_),(24,_),(25,_),(26,_)]) (hst.pick [0,1,2,3] rfl) hb Za
      (Am 35 rfl<|a_p [15,35] rfl (Zbz Tryz.underlying22 Zqr rfl rfl u_0 u_1 h9)<|Al Zvm 0 rfl<|a_p (outs:=[(6,(pBox Zbr 6 (default:Z3)))]) (S:=[7]) [] rfl (Zbl (zs:=[.string ByteArray.empty,.int .i64 0,.int .i64 0,.int .i64 0,.int .i64 0,.float .f64 0,.int .i64 0,.string ByteArray.empty,.slice none 0 0]) (by kernel_rfl) (fun g=>Zk9 g) rfl rfl)<|Aa 30 rfl<|a_p [20,10] rfl (Zb9 Zvm rfl rfl u_1 u_0)<|a_n) (fun a g hst hb=>?_)
     obtain ⟨r10,h11,H1⟩:=Zc H1
     refine r_a [5,25,80,90,100,35,45,55] (L:=[(2,_),(5,_),(6,_),(24,_),(25,_),(26,_)]) hst hb Za
      (Al Zbu 5 rfl<|Am 15 rfl<|a_p [10,0] rfl (Zf en_9 (Zik _ _ h11) rfl rfl (.cons u_0 (.cons u_1 .nil)))<|Am 0 rfl<|a_p [0] rfl (Zz rfl rfl u_0 rfl)<|a_p [10] rfl (Zz rfl rfl u_0 rfl)<|a_p [20] rfl (Zz rfl rfl u_0 rfl)<|a_p (outs:=[(8,(pBox Ze 8 (default:Zb)))]) (S:=[9]) [] rfl (Zbl (zs:=[.int .i64 0,.int .i64 0,.int .i64 0,.int .i64 0,.float .f64 0,.int .i64 0,.string ByteArray.empty,.slice none 0 0]) (by kernel_rfl) (fun g=>Zb3 g) rfl rfl)<|Aa 30 rfl<|a_p [30,10] rfl (Zb9 Zbm rfl rfl u_1 u_0)<|Aa 30 rfl<|a_n) (fun a g hst hb=>?_)
     obtain ⟨r12,h13,H1⟩:=Zc H1
     refine r_a [5,55,65,75,140] (L:=[(2,_),(6,_),(7,_),(8,_),(9,_),(24,_),(25,_),(26,_)]) hst hb Za
      (Am 45 rfl<|a_p [0] rfl (Zcg rfl rfl u_0)<|Am 0 rfl<|a_g [0,25] (Qg_f rfl (fun hG=>Zq rfl rfl u_0))<|a_g [10,15] (Qg_f rfl (fun hG=>Zi Zmo rfl rfl u_0))<|a_g [20,0] (Qg_f rfl (fun hG=>Zs ty_9 rfl rfl (Opd.gd hG u_0)))<|a_g [30,20,0] (Qg_f rfl (fun hG=>Zkl rfl rfl (Opd.gd hG u_0) (Opd.gd hG u_1)))<|a_p [40,0] rfl (Zbh rfl rfl u_0 (fun hz=>(Opd.gd (bNF hz) u_1)))<|Am 0 rfl<|a_g [0,35] (Qg_f rfl (fun hG=>Zs Zbm rfl rfl u_0))<|a_g [10,15] (Qg_f rfl (fun hG=>Zi Zqn rfl rfl u_0))<|a_g [20,0] (Qg_f rfl (fun hG=>Zs Zbm rfl rfl (Opd.gd hG u_0)))<|a_g [30,20,0] (Qg_f rfl (fun hG=>Zf Z8q (Zpv _ _ (Zbe h13 hG)) rfl rfl (.cons (Opd.gd hG u_0) (.cons (Opd.gd hG u_1) .nil))))<|a_g [40,0] (Qg_f rfl (fun hG=>Zcg rfl rfl (Opd.gd hG u_0)))<|a_p [50,0] rfl (Zbh rfl rfl u_0 (fun hz=>(Opd.gd (bNF hz) u_1)))<|a_n) (fun a g hst hb=>?_)
     refine wp_cond_split (hst.bool 4 rfl) (fun hc14=>?_) (fun hc14=>?_)
     ·replace H1:=Zo hc14 H1
      refine r_a [0] (L:=[]) (hst.pick [] rfl) hb Za
       (a_p [] rfl (Zd rfl rfl c_i)<|a_n) (fun a g hst hb=>?_)
      refine wp_ret ?_
      refine Zw ?_
      refine Zl ?_
      refine Zl ?_
      refine Zw ?_
      refine Zl ?_
      refine Zl ?_
      obtain rfl:=Option.some.inj H1
      obtain rfl:=Option.some.inj H0
      exact Z2 rfl hst hb (Zg (s:=4)) (hst.at 0 rfl)
     ·replace H1:=Zp hc14 H1
      refine wp_skip ?_
      refine Zba ?_
      refine Zm ?_
      refine r_b [5,15,25,10] (L:=[(2,_),(24,_),(25,_),(26,_)]) (hst.pick [0,1,2,3] rfl) hb Za
       (a_p [35] rfl (Zb6 rfl rfl u_0 c_i rfl)<|Am 0 rfl<|a_n) (fun a g hst hb=>?_)
      exact ⟨n,Nat.lt_succ_self _,(IntKind.i64.wrap (x6 + (1:Int))),g,rfl,(hst.pick [0,1,2,3] rfl),hb,H1⟩
    ·replace H1:=Zp hc7 H1
     refine wp_exit ?_
     refine Zbw ?_
     refine Zbw ?_
     refine Zb4 ?_
     exact ⟨g,rfl,(hst.pick [] rfl),hb,Option.some.inj H1⟩
theorem Zn3 (a0:Int) (a1:List Z3) {r:Bool} (h:Zhf a0 a1=some r):FnOk Tryz.prog 3 [(pInt .i64 a0),(Zbr.sl.pd a1)] (Z5 r):=by
 have H0:=h
 unfold Zhf at H0
 clear h
 refine Zbs (N:=102) Tryz.func3 rfl rfl (Qe rfl) rfl rfl (fun a g0 hst hb=>?_)
 refine r_a [5,15] (L:=[(0,_),(1,_)]) hst hb Za
  (a_p [] rfl (Zd rfl rfl c_b)<|a_n) (fun a g hst hb=>?_)
 refine wp_seq ?_
 obtain ⟨r1,h2,H0⟩:=Zc H0;obtain ⟨r3,h4,H0⟩:=Zc H0
 refine r_a [5,15,50] (L:=[(0,_),(1,_)]) hst hb Za
  (a_p [] rfl (Zf en_4 (Zjt _ h2) rfl rfl (.cons c_s .nil))<|a_p [0] rfl (Zkl rfl rfl u_0 c_s)<|Am 0 rfl<|a_g [0] (Qg_f rfl (fun hG=>Zf en_5 (Zgu _ (Zbe h4 hG)) rfl rfl (.cons c_i .nil)))<|a_g [10,0] (Qg_f rfl (fun hG=>Zkl rfl rfl (Opd.gd hG u_0) c_s))<|a_p [20,0] rfl (Zbh rfl rfl u_0 (fun hz=>(Opd.gd (bNF hz) u_1)))<|a_n) (fun a g hst hb=>?_)
 refine wp_cond_split (hst.bool 2 rfl) (fun hc5=>?_) (fun hc5=>?_)
 ·replace H0:=Zo hc5 H0
  refine r_a [0] (L:=[]) (hst.pick [] rfl) hb Za
   (a_p [] rfl (Zd rfl rfl c_b)<|a_n) (fun a g hst hb=>?_)
  refine wp_ret ?_
  refine Zl ?_
  obtain rfl:=Option.some.inj H0
  exact Z2 rfl hst hb (Zg (s:=4)) (hst.at 0 rfl)
 ·replace H0:=Zp hc5 H0
  refine wp_skip ?_
  refine Zm ?_
  obtain ⟨r6,h7,H0⟩:=Zc H0
  refine r_a [5,70,80] (L:=[(0,_),(1,_)]) (hst.pick [0,1] rfl) hb Za
   (Am 5 rfl<|Am 15 rfl<|a_p [10,0] rfl (Zf en_6 (Zpm _ _ h7) rfl rfl (.cons u_0 (.cons u_1 .nil)))<|Am 0 rfl<|a_p [0] rfl (Zz rfl rfl u_0 rfl)<|a_p [10] rfl (Zz rfl rfl u_0 rfl)<|a_p (outs:=[(5,(pBox Z1 5 (default:Zj)))]) (S:=[6]) [] rfl (Zbl (zs:=[.pointer none,.int .i64 0]) (by kernel_rfl) (fun g=>Zd5 g) rfl rfl)<|a_p [20,0] rfl (Zb9 Zbu rfl rfl u_1 u_0)<|Aa 20 rfl<|a_n) (fun a g hst hb=>?_)
  refine wp_seq ?_
  refine r_a [5,15,25,10] (L:=[(0,_),(5,_),(6,_)]) hst hb Za
   (Am 25 rfl<|a_p [0] rfl (Zv4 Tryz.underlying28 rfl rfl u_0 Z1t)<|a_n) (fun a g hst hb=>?_)
  refine wp_cond_split (hst.bool 3 rfl) (fun hc8=>?_) (fun hc8=>?_)
  ·replace H0:=Zo hc8 H0
   refine r_a [0] (L:=[]) (hst.pick [] rfl) hb Za
    (a_p [] rfl (Zd rfl rfl c_b)<|a_n) (fun a g hst hb=>?_)
   refine wp_ret ?_
   refine Zl ?_
   obtain rfl:=Option.some.inj H0
   exact Z2 rfl hst hb (Zg (s:=4)) (hst.at 0 rfl)
  ·replace H0:=Zp hc8 H0
   refine wp_skip ?_
   refine Zm ?_
   obtain ⟨r9,h10,H0⟩:=Zc H0
   refine r_a [15,25,60] (L:=[(0,_),(5,_),(6,_)]) (hst.pick [0,1,2] rfl) hb Za
    (Am 5 rfl<|a_p [0] rfl (Zf en_7 (Zqd _ h10) rfl rfl (.cons u_0 .nil))<|Am 0 rfl<|a_p [0] rfl (Zz rfl rfl u_0 rfl)<|a_p [10] rfl (Zz rfl rfl u_0 rfl)<|a_p (outs:=[(7,(pBox Z1 7 (default:Zj)))]) (S:=[8]) [] rfl (Zbl (zs:=[.pointer none,.int .i64 0]) (by kernel_rfl) (fun g=>Zd5 g) rfl rfl)<|a_p [20,0] rfl (Z7 Zbu rfl rfl u_1 u_0)<|Aa 20 rfl<|a_n) (fun a g hst hb=>?_)
   refine wp_seq ?_
   obtain ⟨r11,h12,H0⟩:=Zc H0
   refine r_a [5,15,25,10,20] (L:=[(5,_),(6,_),(7,_)]) hst hb Za
    (Al Zbu 5 rfl<|a_p [0] rfl (Zf en_8 (Ze9 _ h12) rfl rfl (.cons u_0 .nil))<|a_p [] rfl (Zq rfl rfl c_i)<|a_n) (fun a g hst hb=>?_)
   obtain ⟨z37,hz1,H0⟩:=Zc H0
   refine Zbp (fun a w=>∃ (y36:Zj) (g:G),w=g.w ∧ St 102 [(5,(Z1.ptr r6.1)),(6,(Zbo.opt.pd r6.2)),(7,(pBox Z1 7 y36))] a g ∧ Base g0 g ∧ (.inr y36)=z37) ?_ ?_
   ·rintro a w ⟨y36,g,rfl,hst,hb,rfl⟩
    refine Zm ?_
    obtain ⟨r38,h39,H0⟩:=Zc H0;obtain ⟨n40,h41,H0⟩:=Zc H0;obtain ⟨r42,h43,H0⟩:=Zc H0
    refine r_a [110] (L:=[(5,_),(6,_),(7,_)]) hst hb Za
     (Al Zbu 5 rfl<|AM Zbu 25 rfl<|a_p [10,0] rfl (Zf Z7k (Zve _ _ h39) rfl rfl (.cons u_0 (.cons u_1 .nil)))<|Am 0 rfl<|a_g [0,25] (Qg_t rfl (fun hG=>Znc Zbu rfl rfl u_0))<|a_g [10,15] (Qg_t rfl (fun hG=>Zq rfl rfl u_0))<|a_g [20,0] (Qg_t rfl (fun hG=>Z6 rfl rfl (Opd.imp (Opd.gd hG u_0) (fun _ _ h=>Z3j (Zbe h41 hG) h)) (fun _ _ ⟨_,_,_,e,_⟩=>⟨_,e⟩)))<|a_g [30,0] (Qg_t rfl (fun hG=>Zs Zii rfl rfl (Opd.gd hG u_0)))<|a_g [40,30,0] (Qg_t rfl (fun hG=>Zf Z8f (Zq6 _ _ (Zbe h43 hG)) rfl rfl (.cons (Opd.gd hG u_0) (.cons (Opd.gd hG u_1) .nil))))<|a_g [50,0] (Qg_t rfl (fun hG=>Zbk rfl rfl (Opd.gd hG u_0) c_i))<|a_p [60,0] rfl (Zbg rfl rfl u_0 (fun hz=>(Opd.gd hz u_1)))<|Aa 0 rfl<|a_n) (fun a g hst hb=>?_)
    refine wp_ret ?_
    obtain rfl:=Option.some.inj H0
    exact Z2 rfl hst hb (Zg (s:=4)) (hst.at 0 rfl)
   ·refine wp_block ?_
    refine wp_loop_ghost (fun n a w=>∃ (x13:Zj) (x14:Int) (g:G),w=g.w ∧ St 102 [(5,(Z1.ptr r6.1)),(6,(Zbo.opt.pd r6.2)),(7,(pBox Z1 7 x13)),(37,(pInt .i64 r11)),(38,(pInt .i64 x14))] a g ∧ Base g0 g ∧ Zc4 r6 r11 n x13 x14=some z37) (Int.toNat (r11 - (0:Int)) + 1) ⟨r9.1,(0:Int),g,rfl,(hst.pick [0,1,2,3,4] rfl),hb,hz1⟩ (fun n a w hI=>?_)
    obtain ⟨x13,x14,g,rfl,hst,hb,H1⟩:=hI
    cases n with
    | zero=>exact absurd H1 (by simp [Zc4])
    | succ n =>
     rw [Zc4] at H1
     refine r_a [5,15,25,35,45,0] (L:=[(5,_),(6,_),(7,_),(37,_),(38,_)]) hst hb Za
      (a_p [45,35] rfl (Zco rfl rfl u_0 u_1)<|a_n) (fun a g hst hb=>?_)
     refine wp_seq ?_
     refine wp_cond_split (hst.bool 5 rfl) (fun hc15=>?_) (fun hc15=>?_)
     ·replace H1:=Zo hc15 H1
      refine wp_skip ?_
      refine Zm ?_
      refine wp_seq ?_
      refine wp_block ?_
      refine r_a [5,15,25,10,35,45] (L:=[(5,_),(6,_),(7,_),(37,_),(38,_)]) (hst.pick [0,1,2,3,4] rfl) hb Za
       (Am 45 rfl<|Aa 0 rfl<|a_n) (fun a g hst hb=>?_)
      obtain ⟨r16,h17,H1⟩:=Zc H1
      refine r_a [5,15,25,80,90,45,55] (L:=[(5,_),(6,_),(7,_),(9,_),(37,_),(38,_)]) hst hb Za
       (Al Zbu 5 rfl<|Am 35 rfl<|a_p [10,0] rfl (Zf en_9 (Zik _ _ h17) rfl rfl (.cons u_0 (.cons u_1 .nil)))<|Am 0 rfl<|a_p [0] rfl (Zz rfl rfl u_0 rfl)<|a_p [10] rfl (Zz rfl rfl u_0 rfl)<|a_p [20] rfl (Zz rfl rfl u_0 rfl)<|a_p (outs:=[(11,(pBox Ze 11 (default:Zb)))]) (S:=[12]) [] rfl (Zbl (zs:=[.int .i64 0,.int .i64 0,.int .i64 0,.int .i64 0,.float .f64 0,.int .i64 0,.string ByteArray.empty,.slice none 0 0]) (by kernel_rfl) (fun g=>Zb3 g) rfl rfl)<|Aa 30 rfl<|a_p [30,10] rfl (Zb9 Zbm rfl rfl u_1 u_0)<|Aa 30 rfl<|a_n) (fun a g hst hb=>?_)
      obtain ⟨r18,h19,H1⟩:=Zc H1
      refine r_a [5,15,25,35,45,60,55,65] (L:=[(5,_),(6,_),(7,_),(10,_),(11,_),(37,_),(38,_)]) hst hb Za
       (Am 35 rfl<|Al Zbm 45 rfl<|a_p [10,0] rfl (Zvi rfl rfl c_i u_0 u_1 c_b)<|a_p [0] rfl (Zfs Zzq (xs:=[.tmp 50]) (.cons u_0 .nil) (by decide) rfl rfl)<|a_p [0] rfl (Z55 rfl rfl u_0)<|a_p [0] rfl (Zf Z7u (Zxb _ h19) rfl rfl (.cons u_0 .nil))<|Aa 0 rfl<|a_n) (fun a g hst hb=>?_)
      refine wp_seq ?_
      obtain ⟨r20,h21,H1⟩:=Zc H1;obtain ⟨h22,H1⟩:=Zcm H1;obtain ⟨h23,H1⟩:=Zcm H1;obtain ⟨r24,h25,H1⟩:=Zc H1;obtain ⟨h26,H1⟩:=Zcm H1
      refine r_a [5,15,25,55,65,75,80] (L:=[(5,_),(6,_),(7,_),(10,_),(11,_),(13,_),(37,_),(38,_)]) hst hb Za
       (Am 55 rfl<|Am 35 rfl<|a_p [0] rfl (Zf Z8p (Zp2 _ h21) rfl rfl (.cons u_0 .nil))<|a_p [0] rfl (Zhb rfl rfl c_s u_0 h22)<|a_p [0] rfl (Zhb rfl rfl u_0 c_s h23)<|Al Zbm 45 rfl<|a_p [0] rfl (Zf Z4h (Zoc _ h25) rfl rfl (.cons u_0 .nil))<|a_p [20,0] rfl (Zhb rfl rfl u_0 u_1 h26)<|a_p [70,0] rfl (Zkl rfl rfl u_0 u_1)<|a_n) (fun a g hst hb=>?_)
      refine wp_cond_split (hst.bool 6 rfl) (fun hc27=>?_) (fun hc27=>?_)
      ·replace H1:=Zo hc27 H1
       refine r_a [0] (L:=[]) (hst.pick [] rfl) hb Za
        (a_p [] rfl (Zd rfl rfl c_b)<|a_n) (fun a g hst hb=>?_)
       refine wp_ret ?_
       refine Zl ?_
       refine Zw ?_
       refine Zl ?_
       refine Zl ?_
       refine Zw ?_
       refine Zl ?_
       refine Zl ?_
       obtain rfl:=Option.some.inj H1
       obtain rfl:=Option.some.inj H0
       exact Z2 rfl hst hb (Zg (s:=4)) (hst.at 0 rfl)
      ·replace H1:=Zp hc27 H1
       refine wp_skip ?_
       refine Zm ?_
       obtain ⟨r28,h29,H1⟩:=Zc H1
       refine r_a [5,15,25,60,70,45,55] (L:=[(5,_),(6,_),(7,_),(13,_),(37,_),(38,_)]) (hst.pick [0,1,2,3,4,5] rfl) hb Za
        (Am 35 rfl<|a_p [0] rfl (Zf Z8c (Zru _ h29) rfl rfl (.cons u_0 .nil))<|Am 0 rfl<|a_p [0] rfl (Zz rfl rfl u_0 rfl)<|a_p [10] rfl (Zz rfl rfl u_0 rfl)<|a_p (outs:=[(14,(pBox Zdr 14 (default:Zbq)))]) (S:=[15]) [] rfl (Zbl (zs:=[.slice none 0 0]) (by kernel_rfl) (fun g=>Zrj g) rfl rfl)<|a_p [20,0] rfl (Zb9 Zj5 rfl rfl u_1 u_0)<|Aa 20 rfl<|a_n) (fun a g hst hb=>?_)
       refine wp_seq ?_
       obtain ⟨r30,h31,H1⟩:=Zc H1
       refine r_a [5,15,25,35,55,65,120] (L:=[(5,_),(6,_),(7,_),(14,_),(15,_),(37,_),(38,_)]) hst hb Za
        (Am 45 rfl<|a_p [0] rfl (Zcw rfl rfl u_0 c_i)<|Am 0 rfl<|a_g [0,35] (Qg_f rfl (fun hG=>Zs Zj5 rfl rfl u_0))<|a_g [10,0] (Qg_f rfl (fun hG=>Zf Z8h (Zqb _ (Zbe h31 hG)) rfl rfl (.cons (Opd.gd hG u_0) .nil)))<|a_g [20,0] (Qg_f rfl (fun hG=>Zcl rfl rfl (Opd.gd hG u_0) c_i))<|a_g [30,0] (Qg_f rfl (fun hG=>Zq rfl rfl (Opd.gd hG u_0)))<|a_g [0,35] (Qg_ti rfl (fun hG=>Zi Zku rfl rfl u_0))<|a_g [10,0] (Qg_ti rfl (fun hG=>Zs Zns rfl rfl (Opd.gd hG u_0)))<|a_g [20,0] (Qg_ti rfl (fun hG=>Zcc Tryz.underlying44 rfl rfl (Opd.gd hG u_0)))<|a_g [30,0] (Qg_ti rfl (fun hG=>Zcw rfl rfl (Opd.gd hG u_0) c_i))<|a_g [80,40,0] (Qg_f rfl (fun hG=>Zbg rfl rfl (Opd.gd hG u_0) (fun hz=>(Opd.gd (bA hG hz) u_1))))<|a_p [90,0] rfl (Zbh rfl rfl u_0 (fun hz=>(Opd.gd (bNF hz) u_1)))<|a_n) (fun a g hst hb=>?_)
       refine wp_cond_split (hst.bool 6 rfl) (fun hc32=>?_) (fun hc32=>?_)
       ·replace H1:=Zo hc32 H1
        refine r_a [0] (L:=[]) (hst.pick [] rfl) hb Za
         (a_p [] rfl (Zd rfl rfl c_b)<|a_n) (fun a g hst hb=>?_)
        refine wp_ret ?_
        refine Zl ?_
        refine Zw ?_
        refine Zl ?_
        refine Zl ?_
        refine Zw ?_
        refine Zl ?_
        refine Zl ?_
        obtain rfl:=Option.some.inj H1
        obtain rfl:=Option.some.inj H0
        exact Z2 rfl hst hb (Zg (s:=4)) (hst.at 0 rfl)
       ·replace H1:=Zp hc32 H1
        refine wp_skip ?_
        refine Zm ?_
        refine r_a [5,15,25,35,0,45,55] (L:=[(5,_),(6,_),(7,_),(14,_),(37,_),(38,_)]) (hst.pick [0,1,2,3,4,5] rfl) hb Za
         (a_p (outs:=[(16,(pBox Zf5 16 (default:Zbv)))]) (S:=[17]) [] rfl (Zbl (zs:=[.int .i64 0,.int .i64 0,.slice none 0 0]) (by kernel_rfl) (fun g=>Zvj g) rfl rfl)<|a_n) (fun a g hst hb=>?_)
        obtain ⟨r33,h34,H1⟩:=Zc H1
        refine r_a [5,15,60,70,55,65] (L:=[(5,_),(6,_),(7,_),(14,_),(16,_),(37,_),(38,_)]) hst hb Za
         (AM Zbu 25 rfl<|Al Zj5 35 rfl<|a_p [10,0] rfl (Zf Z74 (Zxv _ _ h34) rfl rfl (.cons u_0 (.cons u_1 .nil)))<|Am 0 rfl<|a_p [0] rfl (Zz rfl rfl u_0 rfl)<|a_p [10] rfl (Zz rfl rfl u_0 rfl)<|a_p [10,25] rfl (Z7 Zbu rfl rfl u_1 u_0)<|a_p [10,45] rfl (Z7 Znt rfl rfl u_1 u_0)<|a_n) (fun a g hst hb=>?_)
        refine r_a [5,15,25,45,55,20] (L:=[(5,_),(6,_),(7,_),(16,_),(37,_),(38,_)]) hst hb Za
         (a_p [35] rfl (Zb5 Z54 (off:=0) (by kernel_rfl) rfl rfl u_0)<|AP Zlr 0 rfl<|a_p [0] rfl (Zcw rfl rfl u_0 c_i)<|a_n) (fun a g hst hb=>?_)
        refine wp_cond_split (hst.bool 5 rfl) (fun hc35=>?_) (fun hc35=>?_)
        ·replace H1:=Zo hc35 H1
         refine r_a [0] (L:=[]) (hst.pick [] rfl) hb Za
          (a_p [] rfl (Zd rfl rfl c_b)<|a_n) (fun a g hst hb=>?_)
         refine wp_ret ?_
         refine Zw ?_
         refine Zl ?_
         refine Zl ?_
         refine Zw ?_
         refine Zl ?_
         refine Zl ?_
         obtain rfl:=Option.some.inj H1
         obtain rfl:=Option.some.inj H0
         exact Z2 rfl hst hb (Zg (s:=4)) (hst.at 0 rfl)
        ·replace H1:=Zp hc35 H1
         refine wp_skip ?_
         refine Zba ?_
         refine Zm ?_
         refine r_b [5,15,25,35,10] (L:=[(5,_),(6,_),(7,_),(37,_),(38,_)]) (hst.pick [0,1,2,3,4] rfl) hb Za
          (a_p [45] rfl (Zb6 rfl rfl u_0 c_i rfl)<|Am 0 rfl<|a_n) (fun a g hst hb=>?_)
         exact ⟨n,Nat.lt_succ_self _,r33.1,(IntKind.i64.wrap (x14 + (1:Int))),g,rfl,(hst.pick [0,1,2,3,4] rfl),hb,H1⟩
     ·replace H1:=Zp hc15 H1
      refine wp_exit ?_
      refine Zbw ?_
      refine Zbw ?_
      refine Zb4 ?_
      exact ⟨x13,g,rfl,(hst.pick [0,1,2] rfl),hb,Option.some.inj H1⟩
end Go.CL
namespace Go.CL
open Go
def NANB:Nat:=9221120237041090561
def keyf (b:Nat):Int:=if isn b then 18444492273895866369 else if TOP ≤ b then 18446744073709551615 - b else b + 9223372036854775808
def Zc2 (b:Nat):Nat:=if isn b then NANB else b
theorem Zub {b:Nat} (hb:b < 18446744073709551616):fneq b b=decide (isn b):=by
 unfold fneq
 show (Ieee.double.order b b != some .eq)=_
 by_cases h:isn b
 ·rw [Z1y (.inl h)];simp [h]
 ·obtain ⟨o,ho,_,he⟩:=Zpi hb hb h h
  rw [ho,he.2 rfl];simp [h]
theorem Zwm {b:Nat} (hb:b < 18446744073709551616):Zkw b=some (Zc2 b):=by
 unfold Zkw Zc2
 rw [Zub hb]
 by_cases h:isn b
 ·simp [h,Zo7,NANB]
 ·simp [h]
theorem Ztm {b:Nat} (hb:b < 18446744073709551616):(bAnd .u64 (b:Int) 9223372036854775808 != 0)=decide (TOP ≤ b):=by
 have h1:(BitVec.ofInt 64 (b:Int) &&& BitVec.ofInt 64 9223372036854775808).toNat=b &&& 9223372036854775808:=by
  rw [BitVec.toNat_and]
  have e1:(BitVec.ofInt 64 (b:Int)).toNat=b:=by
   rw [show BitVec.ofInt 64 (b:Int)=BitVec.ofNat 64 b from rfl]
   simp;omega
  rw [e1];rfl
 have h2:b &&& 9223372036854775808=(b.testBit 63).toNat * 9223372036854775808:=by
  apply Nat.eq_of_testBit_eq
  intro i
  rw [Nat.testBit_and,show (9223372036854775808:Nat)=2 ^ 63 from rfl,Nat.testBit_two_pow]
  by_cases hi:63=i
  ·subst hi
   cases b.testBit 63
   ·simp
   ·rw [Bool.toNat_true,Nat.one_mul,Nat.testBit_two_pow];simp
  ·cases b.testBit 63
   ·simp [hi]
   ·rw [Bool.toNat_true,Nat.one_mul,Nat.testBit_two_pow];simp [hi]
 have h3:b.testBit 63=decide (TOP ≤ b):=by
  rw [Nat.testBit_eq_decide_div_mod_eq]
  unfold TOP
  by_cases h:9223372036854775808 ≤ b
  ·have:b / 2 ^ 63 % 2=1:=by omega
   simp [this,h]
  ·have:b / 2 ^ 63 % 2=0:=by omega
   simp [this,h]
 unfold bAnd
 show (IntKind.wrap .u64 ((BitVec.ofInt 64 (b:Int) &&& BitVec.ofInt 64 9223372036854775808).toNat:Int) != 0)=_
 rw [h1,h2,h3]
 by_cases h:TOP ≤ b
 ·simp only [h,decide_true,Bool.toNat_true,Nat.one_mul]
  rfl
 ·simp only [h,decide_false,Bool.toNat_false,Nat.zero_mul]
  rfl
theorem Zyi {b:Nat} (hb:b < 18446744073709551616):bXor .u64 IntKind.u64.max (b:Int)=18446744073709551615 - b:=by
 have h1:(BitVec.ofInt 64 18446744073709551615 ^^^ BitVec.ofInt 64 (b:Int)).toNat=18446744073709551615 - b:=by
  have e1:BitVec.ofInt 64 18446744073709551615=BitVec.allOnes 64:=by decide
  rw [e1,BitVec.allOnes_xor,BitVec.toNat_not]
  have e2:(BitVec.ofInt 64 (b:Int)).toNat=b:=by
   rw [show BitVec.ofInt 64 (b:Int)=BitVec.ofNat 64 b from rfl]
   simp;omega
  rw [e2]
 unfold bXor
 show IntKind.wrap .u64 ((BitVec.ofInt 64 18446744073709551615 ^^^ BitVec.ofInt 64 (b:Int)).toNat:Int)=_
 rw [h1]
 simp [IntKind.wrap,IntKind.signed,IntKind.bits]
 omega
theorem Z6e {b:Nat} (hb:b < 9223372036854775808):bOr .u64 (b:Int) 9223372036854775808=b + 9223372036854775808:=by
 have h1:(BitVec.ofInt 64 (b:Int) ||| BitVec.ofInt 64 9223372036854775808).toNat=b + 9223372036854775808:=by
  rw [BitVec.toNat_or]
  have e1:(BitVec.ofInt 64 (b:Int)).toNat=b:=by
   rw [show BitVec.ofInt 64 (b:Int)=BitVec.ofNat 64 b from rfl]
   simp;omega
  rw [e1,show (BitVec.ofInt 64 9223372036854775808).toNat=2 ^ 63 * 1 from rfl,Nat.or_comm]
  rw [← Nat.two_pow_add_eq_or_of_lt (by simpa using hb)]
  omega
 unfold bOr
 show IntKind.wrap .u64 ((BitVec.ofInt 64 (b:Int) ||| BitVec.ofInt 64 9223372036854775808).toNat:Int)=_
 rw [h1]
 simp [IntKind.wrap,IntKind.signed,IntKind.bits]
 omega
theorem Z2u {b:Nat} (hb:b < 18446744073709551616):Zc2 b < 18446744073709551616:=by
 unfold Zc2 NANB;split <;> omega
theorem Zon {b:Nat} (hb:b < 18446744073709551616):Zjf b=some (keyf b):=by
 unfold Zjf
 rw [Zwm hb]
 simp only [Option.bind_some]
 rw [Ztm (Z2u hb)]
 unfold keyf Zc2
 by_cases h:isn b
 ·simp only [h,if_true]
  rfl
 ·simp only [h,if_false]
  by_cases ht:TOP ≤ b
  ·simp only [ht,decide_true,if_true]
   rw [Zyi hb]
  ·simp only [ht,decide_false,if_false,Bool.false_eq_true]
   rw [Z6e (by unfold TOP at ht;omega)]
theorem Zoi {a b:Nat} (ha:a < 18446744073709551616) (hb:b < 18446744073709551616):Zia a b=some (decide (keyf a=keyf b)):=by
 unfold Zia
 rw [Zon ha,Zon hb]
 simp [BEq.beq]
theorem Z5r {a b:Nat} (ha:a < 18446744073709551616) (hb:b < 18446744073709551616):Zmr a b=some (decide (keyf a < keyf b)):=by
 unfold Zmr
 rw [Zon ha,Zon hb]
 simp
theorem Zuf {a:Nat} (ha:a < 18446744073709551616):Zhl a=some (decide (a=Zc2 a)):=by
 unfold Zhl
 rw [Zwm ha]
 congr 1
 by_cases h:a=Zc2 a
 ·simp [← h]
 ·have:(a:Int) ≠ (Zc2 a:Int):=by omega
  simp [h,this]
theorem Zyw {a b:Nat} (ha:a < 18446744073709551616) (hb:b < 18446744073709551616) (na:¬ isn a) (nb:¬ isn b):keyf a < keyf b ↔ (sg a < sg b ∨ (a=TOP ∧ b=0)):=by
 unfold keyf
 rw [if_neg na,if_neg nb]
 unfold sg isn rg INF TOP at *
 split <;> split <;> omega
theorem Zzc {a b:Nat} (ha:a < 18446744073709551616) (hb:b < 18446744073709551616) (na:¬ isn a) (nb:¬ isn b):feql a b=decide (sg a=sg b):=by
 unfold feql
 show (Ieee.double.order a b == some .eq)=_
 obtain ⟨o,ho,_,he⟩:=Zpi ha hb na nb
 rw [ho]
 by_cases h:sg a=sg b
 ·rw [he.2 h];simp [h]
 ·have:o ≠ .eq:=fun h'=>h (he.1 h')
  simp [h,this]
theorem Z5w {a b:Nat} (ha:a < 18446744073709551616) (hb:b < 18446744073709551616) (na:¬ isn a) (nb:¬ isn b):flss a b=decide (sg a < sg b):=by
 unfold flss
 show (Ieee.double.order a b == some .lt)=_
 obtain ⟨o,ho,hl,_⟩:=Zpi ha hb na nb
 rw [ho]
 by_cases h:sg a < sg b
 ·rw [hl.2 h];simp [h]
 ·have:o ≠ .lt:=fun h'=>h (hl.1 h')
  simp [h,this]
theorem Z6m:Zfm 0=some false:=by kernel_rfl
theorem Z61:Zfm TOP=some true:=by kernel_rfl
theorem nan0:¬ isn 0:=by decide
theorem Zy2 {a:Nat} (ha:a < 18446744073709551616):sg a=sg 0 ↔ a=0 ∨ a=TOP:=by
 unfold sg TOP
 split <;> simp <;> omega
theorem Zr3 {a:Nat} (ha:a < 18446744073709551616):Ze1 a=some (decide (isn a)):=by
 unfold Ze1;rw [Zub ha]
theorem Zr0 {a b:Nat} (ha:a < 18446744073709551616) (hb:b < 18446744073709551616):Ze3 a b=some (decide (keyf a < keyf b)):=by
 unfold Ze3
 rw [Zr3 ha,Zr3 hb]
 simp only [Option.bind_some]
 have kb:∀ x,x < 18446744073709551616 → ¬ isn x → keyf x < 18444492273895866369:=by
  intro x hx nx
  unfold keyf
  rw [if_neg nx]
  unfold isn rg INF TOP at *
  split <;> omega
 have kn:∀ x,isn x → keyf x=18444492273895866369:=fun x h=>by unfold keyf;rw [if_pos h]
 by_cases na:isn a
 ·simp only [na,decide_true,if_true]
  by_cases nb:isn b
  ·rw [kn a na,kn b nb];simp
  ·have:=kb b hb nb
   rw [kn a na];simp;omega
 ·simp only [na,decide_false,Bool.false_eq_true,if_false]
  by_cases nb:isn b
  ·have:=kb a ha na
   rw [kn b nb];simp [nb,this]
  ·simp only [nb,decide_false,Bool.false_eq_true,if_false]
   rw [Zzc ha (by decide) na nan0,Zzc hb (by decide) nb nan0,Z5w ha hb na nb]
   by_cases hz:sg a=sg 0 ∧ sg b=sg 0
   ·rw [if_pos (by simp [hz])]
    have hk:=Zyw ha hb na nb
    have h0T:(0:Nat) ≠ TOP:=by decide
    rcases (Zy2 ha).1 hz.1 with rfl | rfl <;> rcases (Zy2 hb).1 hz.2 with rfl | rfl <;> simp only [Z6m,Z61,gd,Option.bind_some,if_true,if_false,Bool.false_eq_true,Option.some.injEq] <;> decide
   ·rw [if_neg (by simpa using hz)]
    have hk:=Zyw ha hb na nb
    congr 1
    apply decide_eq_decide.2
    rw [hk]
    constructor
    ·intro h;exact .inl h
    ·rintro (h | ⟨rfl,rfl⟩)
     ·exact h
     ·exact absurd ⟨rfl,rfl⟩ hz
theorem Zow {a b:Nat} (ha:a < 18446744073709551616) (hb:b < 18446744073709551616):Zek a b=some (decide (keyf a=keyf b)):=by
 unfold Zek
 rw [Zr0 ha hb,Zr0 hb ha]
 simp only [Option.bind_some,gd]
 by_cases h1:keyf a < keyf b
 ·have:keyf a ≠ keyf b:=by omega
  simp [h1,this]
 ·by_cases h2:keyf b < keyf a
  ·have:keyf a ≠ keyf b:=by omega
   simp [h1,h2,this]
  ·have:keyf a=keyf b:=by omega
   simp [this]
theorem Zs6 {a:Nat} (ha:a < 18446744073709551616):Ze4 a=some (decide (a=Zc2 a)):=by
 unfold Ze4
 rw [Zr3 ha]
 unfold Zc2 NANB
 by_cases h:isn a
 ·by_cases h2:a=9221120237041090561
  ·simp [h,h2]
  ·have:(a:Int) ≠ 9221120237041090561:=by omega
   simp [h,h2,this]
 ·simp [h]
theorem wr {x:Int} (h1:-9223372036854775808 ≤ x) (h2:x ≤ 9223372036854775807):IntKind.i64.wrap x=x:=by
 rw [IntKind.wrap_i64];omega
theorem wr1 {i:Nat} (h:i < 9223372036854775807):IntKind.i64.wrap ((i:Int) + 1)=((i + 1:Nat):Int):=by
 rw [wr (by omega) (by omega)];omega
theorem Z4o (n:Int):IntKind.u64.wrap n=n % 18446744073709551616:=by simp [IntKind.wrap,IntKind.bits,IntKind.signed]
theorem wru {x:Int} (h1:0 ≤ x) (h2:x < 18446744073709551616):IntKind.u64.wrap x=x:=by rw [Z4o];omega
theorem wrm {i:Nat} (h:i < 9223372036854775807) (h0:0 < i):IntKind.i64.wrap ((i:Int) - 1)=((i - 1:Nat):Int):=by
 rw [wr (by omega) (by omega)];omega
theorem idxn {α:Type} (xs:List α) (i:Nat):idx xs (i:Int)=xs[i]?:=by
 unfold idx
 rw [if_pos (by omega)]
 simp
theorem Zfr {α:Type} {xs:List α} {i:Nat} (h:i < xs.length):idx xs (i:Int)=some xs[i]:=by
 rw [idxn,List.getElem?_eq_getElem h]
theorem gd_t {β:Type} [Inhabited β] (x:Option β):gd true x=x:=rfl
theorem gd_f {β:Type} [Inhabited β] (x:Option β):gd false x=some default:=rfl
theorem Zm8 {α:Type} {xs:List α} {l h:Nat} (h1:l ≤ h) (h2:h ≤ xs.length):cut xs (l:Int) (h:Int)=some ((xs.drop l).take (h - l)):=by
 unfold cut
 rw [if_pos (by omega)]
 simp
theorem Zsb {a b:ByteArray} (h:a.toList=b.toList):a=b:=by
 rw [_root_.Go.ByteArray.toList_eq,_root_.Go.ByteArray.toList_eq] at h
 exact ByteArray.ext (Array.toList_inj.1 h)
theorem Ziu {a b:ByteArray}:sEq a b=true ↔ a=b:=by
 unfold sEq
 constructor
 ·intro h;exact Zsb (by simpa using h)
 ·rintro rfl;simp
theorem Zej (a:ByteArray):sEq a a=true:=Ziu.2 rfl
theorem Zgh {a b:ByteArray}:sEq a b=false ↔ a ≠ b:=by
 cases h:sEq a b
 ·simp;intro e;rw [Ziu.2 e] at h;cases h
 ·simp;exact Ziu.1 h
theorem Z0j:∀ l:List UInt8,Op.bytesLess l l=false
 | []=>rfl
 | x :: l=>by simp [Op.bytesLess,Z0j l]
theorem Zv8:∀ {a b c:List UInt8},Op.bytesLess a b=true → Op.bytesLess b c=true → Op.bytesLess a c=true
 | [],[],c,h,_=>by simp [Op.bytesLess] at h
 | [],y :: b,[],_,k=>by simp [Op.bytesLess] at k
 | [],y :: b,z :: c,_,_=>rfl
 | x :: a,[],c,h,_=>by simp [Op.bytesLess] at h
 | x :: a,y :: b,[],_,k=>by simp [Op.bytesLess] at k
 | x :: a,y :: b,z :: c,h,k=>by
  simp only [Op.bytesLess,Bool.or_eq_true,Bool.and_eq_true,decide_eq_true_eq,beq_iff_eq] at h k ⊢
  rcases h with h | ⟨h1,h2⟩ <;> rcases k with k | ⟨k1,k2⟩
  ·exact .inl (UInt8.lt_trans h k)
  ·subst k1;exact .inl h
  ·subst h1;exact .inl k
  ·subst h1;subst k1;exact .inr ⟨rfl,Zv8 h2 k2⟩
theorem Z1n:∀ (a b:List UInt8),Op.bytesLess a b=false → a ≠ b → Op.bytesLess b a=true
 | [],[],_,h=>absurd rfl h
 | [],y :: b,h,_=>by simp [Op.bytesLess] at h
 | x :: a,[],_,_=>rfl
 | x :: a,y :: b,h,hn=>by
  simp only [Op.bytesLess,Bool.or_eq_false_iff,decide_eq_false_iff_not,Bool.and_eq_false_iff] at h
  simp only [Op.bytesLess,Bool.or_eq_true,Bool.and_eq_true,decide_eq_true_eq,beq_iff_eq]
  by_cases e:x=y
  ·subst e
   right
   refine ⟨rfl,Z1n a b ?_ (fun h'=>hn (by rw [h']))⟩
   rcases h.2 with h | h
   ·simp at h
   ·exact h
  ·left
   rcases UInt8.lt_or_lt_of_ne e with h' | h'
   ·exact absurd h' h.1
   ·exact h'
theorem Zml (a:ByteArray):sLt a a=false:=Z0j _
theorem Zkv {a b c:ByteArray} (h:sLt a b=true) (k:sLt b c=true):sLt a c=true:=Zv8 h k
theorem Zq2 {a b:ByteArray} (h:sLt a b=false) (hn:a ≠ b):sLt b a=true:=Z1n _ _ h (fun e=>hn (Zsb e))
theorem Zr6 {a b:ByteArray} (h:sLt a b=true):sLt b a=false:=by
 cases k:sLt b a
 ·rfl
 ·have:=Zkv h k
  rw [Zml] at this;cases this
theorem Zor {a b:ByteArray} (h:sLt a b=true):a ≠ b:=fun e=>by subst e;rw [Zml] at h;cases h
theorem Z5s {b:Nat} (hb:b < 18446744073709551616):(BitVec.ofInt 64 (b:Int)).toNat=b:=by
 rw [show BitVec.ofInt 64 (b:Int)=BitVec.ofNat 64 b from rfl]
 simp;omega
theorem u8w (x:Int):IntKind.u8.wrap x=x % 256:=by simp [IntKind.wrap,IntKind.bits,IntKind.signed]
theorem Zze {m:Nat} (h1:9223372036854775808 ≤ m) (hm:m < 18446744073709551616):Zoo .u64 (m:Int) 9223372036854775808=((m - 9223372036854775808:Nat):Int):=by
 unfold Zoo
 show IntKind.wrap .u64 ((BitVec.ofInt 64 (m:Int) &&& ~~~BitVec.ofInt 64 9223372036854775808).toNat:Int)=_
 rw [BitVec.toNat_and,Z5s hm,show (~~~BitVec.ofInt 64 9223372036854775808).toNat=2 ^ 63 - 1 from by decide,Nat.and_two_pow_sub_one_eq_mod,Z4o]
 omega
theorem Zyz {x:Nat} (hx:x < 18446744073709551616) (hc:x=Zc2 x):∃ k:Nat,keyf x=k ∧ k < 18446744073709551616 ∧ Zlj (k:Int)=some (x,true):=by
 have hk:keyf x=if TOP ≤ x then 18446744073709551615 - (x:Int) else x + 9223372036854775808:=by
  unfold keyf
  by_cases h:isn x
  ·rw [if_pos h]
   unfold Zc2 at hc;rw [if_pos h] at hc
   subst hc;decide
  ·rw [if_neg h]
 have hkey:=Zon hx
 rw [hk] at hkey ⊢
 by_cases h:TOP ≤ x
 ·rw [if_pos h] at hkey ⊢
  unfold TOP at h
  refine ⟨18446744073709551615 - x,by omega,by omega,?_⟩
  unfold Zlj Zjd
  rw [Ztm (by omega),decide_eq_false (by unfold TOP;omega),if_neg (by simp),Zyi (by omega),show ((18446744073709551615:Int) - ((18446744073709551615 - x:Nat):Int)).toNat=x by omega,hkey,Option.bind_some,if_neg (by simp;omega)]
 ·rw [if_neg h] at hkey ⊢
  unfold TOP at h
  refine ⟨x + 9223372036854775808,by omega,by omega,?_⟩
  unfold Zlj Zjd
  rw [Ztm (by omega),decide_eq_true (by unfold TOP;omega),if_pos rfl,Zze (by omega) (by omega),show (((x + 9223372036854775808 - 9223372036854775808:Nat):Int)).toNat=x by omega,hkey,Option.bind_some,if_neg (by simp)]
theorem Zwj:∀ (l:List UInt8) (r:ByteArray),((l.map fun b=>(b.toNat:Int)).foldl (fun r n=>r.push (UInt8.ofNat n.toNat)) r).data.toList=r.data.toList ++ l
 | [],r=>by simp
 | b :: l,r=>by
  simp only [List.map_cons,List.foldl_cons]
  rw [Zwj l]
  simp [ByteArray.push]
theorem Z3l (s:ByteArray):bstr (bts s)=s:=by
 have h:=Zwj s.data.toList ByteArray.empty
 have h2:(bstr (bts s)).data.toList=s.data.toList:=by
  unfold bstr bts
  rw [h];rfl
 cases hs:bstr (bts s) with
 | mk d =>
  cases s with
  | mk e =>
   rw [hs] at h2
   exact congrArg ByteArray.mk (Array.toList_inj.1 h2)
theorem Zpj {d:Nat} (h:d < 256):(UInt8.ofNat d).toNat=d:=by simp;omega
theorem Ztv (u:Nat):∀ c ∈ Lib.decDigits u,48 ≤ c.toNat ∧ c.toNat ≤ 57:=by
 induction u using Nat.strongRecOn with
 | _ u ih =>
  rw [Lib.decDigits]
  split
  ·intro c hc
   rw [List.mem_singleton.1 hc,Zpj (by omega)];omega
  ·intro c hc
   rcases List.mem_append.1 hc with hc | hc
   ·exact ih (u / 10) (by omega) c hc
   ·rw [List.mem_singleton.1 hc,Zpj (by omega)];omega
theorem Zog:∀ (k u:Nat),u < 10 ^ (k + 1) → 1 ≤ (Lib.decDigits u).length ∧ (Lib.decDigits u).length ≤ k + 1
 | 0,u,h=>by rw [Lib.decDigits,dif_pos (by simpa using h)];simp
 | k + 1,u,h=>by
  rw [Lib.decDigits]
  split
  ·simp
  ·have:=Zog k (u / 10) (Nat.div_lt_of_lt_mul (by rw [Nat.pow_succ] at h;omega))
   simp;omega
theorem Z1s {M:Nat} (hM:M ≤ 18446744073709551615) (u:Nat):u ≤ M → ∀ r,Lib.parseUintM M 0 (Lib.decDigits u ++ r)=Lib.parseUintM M u r:=by
 induction u using Nat.strongRecOn with
 | _ u ih =>
  intro hu r
  rw [Lib.decDigits]
  split
  ·rw [List.singleton_append,Lib.parseUintM,Zpj (by omega),if_pos (by omega),if_neg (by omega),if_neg (by omega)]
   congr 1;omega
  ·rw [List.append_assoc,ih (u / 10) (by omega) (by omega),List.singleton_append,Lib.parseUintM,Zpj (by omega),if_pos (by omega),if_neg (by omega),if_neg (by omega)]
   congr 1;omega
theorem Zzl {n:Int} (h1:-9223372036854775808 ≤ n) (h2:n ≤ 9223372036854775807):Lib.parseIntB 64 (Lib.itoa n)=.ok n:=by
 have hp:∀ m:Nat,m ≤ 18446744073709551615 → Lib.parseUintB 64 (Lib.decDigits m)=.ok m:=fun m hm=>by
  have h0:Lib.decDigits m ≠ []:=fun e=>by
   have:=(Zog 19 m (by omega)).1
   rw [e] at this;simp at this
  unfold Lib.parseUintB
  rw [if_neg h0]
  have:=Z1s (M:=2 ^ 64 - 1) (by decide) m (by omega) []
  rw [List.append_nil] at this
  rw [this];rfl
 unfold Lib.itoa
 by_cases hn:n < 0
 ·rw [if_pos hn]
  have h:=hp n.natAbs (by omega)
  simp only [Lib.parseIntB]
  rw [if_pos (.inr (by decide)),h]
  simp only []
  rw [if_neg (by simp),if_neg (by omega),if_pos (by decide)]
  congr 1;omega
 ·rw [if_neg hn]
  have h:=hp n.toNat (by omega)
  cases hd:Lib.decDigits n.toNat with
  | nil=>have:=(Zog 19 n.toNat (by omega)).1;rw [hd] at this;simp at this
  | cons c r =>
   have hc:=Ztv n.toNat c (by rw [hd];exact List.mem_cons_self ..)
   rw [hd] at h
   simp only [Lib.parseIntB]
   rw [if_neg (by omega),h]
   simp only []
   rw [if_neg (by omega),if_neg (by omega),if_neg (by omega)]
   congr 1;omega
theorem Zwy {n:Int} (h1:-9223372036854775808 ≤ n) (h2:n ≤ 9223372036854775807):(Lib.itoa n).length ≤ 21 ∧ ∀ c ∈ Lib.itoa n,c=45 ∨ (48 ≤ c.toNat ∧ c.toNat ≤ 57):=by
 unfold Lib.itoa
 split
 ·have:=Zog 19 n.natAbs (by omega)
  refine ⟨by simp;omega,fun c hc=>?_⟩
  rcases List.mem_cons.1 hc with rfl | hc
  ·exact .inl rfl
  ·exact .inr (Ztv _ c hc)
 ·have:=Zog 19 n.toNat (by omega)
  exact ⟨by omega,fun c hc=>.inr (Ztv _ c hc)⟩
theorem Zl0 (x:ByteArray) (l:List ByteArray) (hl:l.length < 1000000):Zdu ⟨x :: l⟩=some (x,⟨l⟩):=by
 unfold Zdu Zhn
 rw [if_neg (by simp;omega)]
 show ((idx (x :: l) ((0:Nat):Int)).bind _)=_
 rw [idxn]
 simp only [List.getElem?_cons_zero,Option.bind_some]
 show ((cut (x :: l) ((1:Nat):Int) (((x :: l).length:Nat):Int)).bind _)=_
 rw [Zm8 (by simp) (Nat.le_refl _)]
 simp
def nb (l:List UInt8):ByteArray:=⟨l.toArray⟩
theorem Zlp (l:List UInt8):(nb l).data.toList=l:=rfl
theorem Zdx (l:List UInt8):(nb l).size=l.length:=by show l.toArray.size=_;simp
theorem Zjv {n:Int} (h1:-9223372036854775808 ≤ n) (h2:n ≤ 9223372036854775807):Zfx n=some (nb (Lib.itoa n)):=by
 unfold Zfx Zij
 rw [if_pos ⟨rfl,h1,h2⟩];rfl
theorem Zlf {n:Int} (h1:-9223372036854775808 ≤ n) (h2:n ≤ 9223372036854775807) (l:List ByteArray) (hl:l.length < 1000000):Zd2 ⟨nb (Lib.itoa n) :: l⟩=some (n,⟨l⟩):=by
 unfold Zd2 Zig Zi3
 have:=(Zwy h1 h2).1
 rw [Zl0 _ _ hl,Option.bind_some]
 simp only []
 rw [if_pos ⟨trivial,trivial,by rw [Zdx];omega⟩,Zlp,Zzl h1 h2]
 simp only [Option.bind_some,Bool.not_false,gd_t]
 rw [Zjv h1 h2]
 simp only [Option.bind_some,Zej,Bool.not_true,Bool.or_self,Bool.false_eq_true,if_false]
def Znw (c:UInt8):Prop:=(48 ≤ c.toNat ∧ c.toNat ≤ 57) ∨ (97 ≤ c.toNat ∧ c.toNat ≤ 102)
def hv (c:UInt8):Nat:=if c.toNat ≤ 57 then c.toNat - 48 else c.toNat - 87
def hval:Nat → List UInt8 → Nat
 | a,[]=>a
 | a,c :: l=>hval (a * 16 + hv c) l
theorem Zyy:∀ (l:List UInt8) (a:Nat),a ≤ hval a l
 | [],a=>Nat.le_refl _
 | c :: l,a=>by
  have:=Zyy l (a * 16 + hv c)
  rw [hval];omega
theorem Zmm {n:Nat} (h:n < 16):Znw (hexL n) ∧ hv (hexL n)=n:=by
 have key:∀ n:Nat,n < 16 → ((48 ≤ (hexL n).toNat ∧ (hexL n).toNat ≤ 57) ∨ (97 ≤ (hexL n).toNat ∧ (hexL n).toNat ≤ 102)) ∧ hv (hexL n)=n:=by decide +kernel
 exact key n h
theorem Zt2:∀ (k u:Nat),∀ c ∈ hexD k u,Znw c
 | 0,u,c,hc=>by rw [hexD] at hc;rw [List.mem_singleton.1 hc];exact (Zmm (Nat.mod_lt _ (by decide))).1
 | k + 1,u,c,hc=>by
  rw [hexD] at hc
  split at hc
  ·rw [List.mem_singleton.1 hc];exact (Zmm (Nat.mod_lt _ (by decide))).1
  ·rcases List.mem_append.1 hc with hc | hc
   ·exact Zt2 k _ c hc
   ·rw [List.mem_singleton.1 hc];exact (Zmm (Nat.mod_lt _ (by decide))).1
theorem Zrz:∀ (k u:Nat),1 ≤ (hexD k u).length ∧ (hexD k u).length ≤ k + 1
 | 0,u=>by simp [hexD]
 | k + 1,u=>by
  have:=Zrz k (u / 16)
  rw [hexD];split <;> simp <;> omega
theorem Zuw:∀ (k u:Nat) (r:List UInt8),u < 16 ^ (k + 1) → hval 0 (hexD k u ++ r)=hval u r
 | 0,u,r,h=>by
  have h:u < 16:=by simpa using h
  rw [hexD,List.singleton_append,hval,(Zmm (Nat.mod_lt _ (by decide))).2];congr 1;omega
 | k + 1,u,r,h=>by
  rw [hexD]
  split
  ·rw [List.singleton_append,hval,(Zmm (Nat.mod_lt _ (by decide))).2];congr 1;omega
  ·rw [List.append_assoc,Zuw k (u / 16) _ (Nat.div_lt_of_lt_mul (by rw [Nat.pow_succ] at h;omega)),List.singleton_append,hval,(Zmm (Nat.mod_lt _ (by decide))).2];congr 1;omega
theorem Zus:∀ (m:Nat) (r:List UInt8),hval 0 (List.replicate m 48 ++ r)=hval 0 r
 | 0,r=>rfl
 | m + 1,r=>by
  rw [List.replicate_succ,List.cons_append,hval,show 0 * 16 + hv 48=0 from rfl,Zus m]
theorem Z21 {c:UInt8} (h:97 ≤ c.toNat ∧ c.toNat ≤ 102):Zci (c.toNat:Int)=some (c.toNat:Int):=by
 have key:∀ n:Nat,n < 256 → 97 ≤ n → n ≤ 102 → bOr .u8 (n:Int) 32=(n:Int):=by decide +kernel
 unfold Zci
 rw [key c.toNat c.toNat_lt h.1 h.2]
theorem u8r {x:Int} (h0:0 ≤ x) (h1:x < 256):IntKind.u8.wrap x=x:=by rw [u8w];omega
theorem Z8t:IntKind.u64.wrap ((IntKind.u64.wrap ((1:Int) * 2 ^ (min (Int.toNat (IntKind.u64.wrap 64)) (IntKind.u64).bits))) - (1:Int))=18446744073709551615:=by decide
theorem Zwd {s:ByteArray} {n:Nat} {acc i v:Nat} (hv:v < 16) (hs:acc * 16 + v < 18446744073709551616) (hi:i < 1000000):Zef 16 64 1152921504606846976 false (acc:Int) (i:Int) (Zb1 s 16 16 64 1152921504606846976 n) (v:Int)=Zb1 s 16 16 64 1152921504606846976 n false ((acc * 16 + v:Nat):Int) ((i + 1:Nat):Int):=by
 unfold Zef Zfb
 rw [Z8t,u8r (x:=16) (by decide) (by decide),wru (x:=16) (by decide) (by decide),wru (x:=(v:Int)) (by omega) (by omega),wru (x:=(acc:Int) * 16) (by omega) (by omega),wru (x:=(acc:Int) * 16 + (v:Int)) (by omega) (by omega),wr1 (by omega)]
 rw [if_neg (by simp;omega),if_neg (by simp;omega),if_neg (by simp;omega)]
 congr 1
theorem Zwp {s:ByteArray} (hs:s.size < 1000000):∀ (l:List UInt8) (n i acc:Nat),l.length < n → i + l.length=s.size → s.data.toList.drop i=l → (∀ c ∈ l,Znw c) → hval acc l < 18446744073709551616 → Zb1 s 16 16 64 1152921504606846976 n false (acc:Int) (i:Int)=some (.inr (false,((hval acc l:Nat):Int)))
 | [],0,i,acc,h,_,_,_,_=>by simp at h
 | [],n + 1,i,acc,h,hi,hd,hc,hm=>by
  rw [Zb1,if_neg (by rw [Zln];simp at hi;simp;omega)];rfl
 | c :: l,0,i,acc,h,_,_,_,_=>by simp at h
 | c :: l,n + 1,i,acc,h,hi,hd,hc,hm=>by
  simp only [List.length_cons] at h hi
  have hg:s.data.toList[i]?=some c:=by
   have:=congrArg (·[0]?) hd
   simpa using this
  have hb:idx (bts s) (i:Int)=some (c.toNat:Int):=by rw [idxn];unfold bts;rw [List.getElem?_map,hg];rfl
  have hd2:s.data.toList.drop (i + 1)=l:=by rw [← List.drop_drop,hd];rfl
  have hok:=hc c (List.mem_cons_self ..)
  have hle:=Zyy l (acc * 16 + hv c)
  rw [hval] at hm
  have ih:=Zwp hs l n (i + 1) (acc * 16 + hv c) (by omega) (by omega) hd2 (fun x hx=>hc x (List.mem_cons_of_mem _ hx)) hm
  rw [Zb1,if_pos (by rw [Zln];simp;omega),hb,Option.bind_some,if_neg (by simp)]
  rcases hok with hok | hok
  ·have hvv:hv c=c.toNat - 48:=if_pos hok.2
   rw [if_pos (by simp;omega),u8r (by omega) (by omega),show (c.toNat:Int) - 48=((hv c:Nat):Int) by omega,Zwd (by omega) (by omega) (by omega),ih,hval]
  ·have hvv:hv c=c.toNat - 87:=if_neg (by omega)
   rw [if_neg (by simp;omega),Z21 hok,Option.bind_some,show decide ((97:Int) ≤ (c.toNat:Int))=true by simp;omega]
   simp only [gd_t,Option.bind_some,Bool.true_and]
   rw [if_pos (by simp;omega),u8r (x:=(c.toNat:Int) - 97) (by omega) (by omega),u8r (by omega) (by omega),show (c.toNat:Int) - 97 + 10=((hv c:Nat):Int) by omega,Zwd (by omega) (by omega) (by omega),ih,hval]
theorem Zz8 {l:List UInt8} (h1:1 ≤ l.length) (h2:l.length < 1000000) (hc:∀ c ∈ l,Znw c) (hm:hval 0 l < 18446744073709551616):Zgg (nb l) 16 64=some (((hval 0 l:Nat):Int),()):=by
 have hsz:=Zdx l
 have hne:sEq (nb l) ⟨#[]⟩=false:=by
  rw [Zgh]
  intro e
  have:=congrArg ByteArray.size e
  rw [hsz] at this
  have h0:l.length=0:=this
  omega
 unfold Zgg Zhm Ze8 Ze6 Zee
 rw [hne]
 simp only [Bool.false_eq_true,if_false]
 rw [if_pos (by decide),if_neg (by decide),if_neg (by decide),if_neg (by decide),if_pos (by decide),if_pos (by decide),if_pos (by omega),Zln,hsz,show (Int.toNat ((l.length:Int) - (0:Int)) + 1)=l.length + 1 by omega]
 have:=Zwp (s:=nb l) (by omega) l (l.length + 1) 0 0 (by omega) (by omega) (by rw [Zlp];rfl) hc hm
 rw [show ((0:Nat):Int)=0 from rfl] at this
 rw [this]
 simp [gd]
def Zfh (x:Nat):List UInt8:=List.replicate (16 - (hexD 15 (keyf x).toNat).length) 48 ++ hexD 15 (keyf x).toNat
theorem Zuq (c:UInt8):∀ n,Lib.repeatL [c] n=List.replicate n c
 | 0=>rfl
 | n + 1=>by rw [Lib.repeatL,Zuq c n];rfl
theorem Zhp (a b:List UInt8):nb a ++ nb b=nb (a ++ b):=by
 apply ByteArray.ext
 apply Array.toList_inj.1
 simp [nb]
theorem Zqi (x:Nat):(Zfh x).length=16:=by
 have:=Zrz 15 (keyf x).toNat
 unfold Zfh;rw [List.length_append,List.length_replicate];omega
theorem Zlu {x:Nat} (hx:x < 18446744073709551616) (hc:x=Zc2 x):Zix x=some (nb (Zfh x)):=by
 obtain ⟨k,hk,hlt,_⟩:=Zyz hx hc
 have hl:=Zrz 15 k
 have hkt:(keyf x).toNat=k:=by rw [hk];rfl
 unfold Zix
 rw [Zon hx,Option.bind_some,hk]
 unfold Zh7
 rw [if_pos ⟨rfl,by omega,by omega⟩,Option.bind_some,show ((k:Int)).toNat=k from rfl]
 have hsz:(⟨(hexD 15 k).toArray⟩:ByteArray).size=(hexD 15 k).length:=Zdx _
 rw [hsz,wr (by omega) (by omega)]
 unfold Zj6
 rw [if_pos ⟨by omega,by omega,by show 1 * _ ≤ _;omega⟩,Option.bind_some]
 have e1:(⟨(Lib.repeatL (⟨#[48]⟩:ByteArray).data.toList (Int.toNat ((16:Int) - ((hexD 15 k).length:Int)))).toArray⟩:ByteArray)=nb (List.replicate (16 - (hexD 15 k).length) 48):=by
  show nb (Lib.repeatL [48] _)=_
  rw [Zuq,show Int.toNat ((16:Int) - ((hexD 15 k).length:Int))=16 - (hexD 15 k).length by omega]
 rw [e1,Zdx,List.length_replicate,if_pos (by omega),show (⟨(hexD 15 k).toArray⟩:ByteArray)=nb (hexD 15 k) from rfl,Zhp]
 unfold Zfh
 rw [hkt]
theorem Znm {x:Nat} (hx:x < 18446744073709551616) (hc:x=Zc2 x) (l:List ByteArray) (hl:l.length < 1000000):Zeu ⟨nb (Zfh x) :: l⟩=some (x,⟨l⟩):=by
 obtain ⟨k,hk,hlt,hback⟩:=Zyz hx hc
 have hkt:(keyf x).toNat=k:=by rw [hk];rfl
 have hval1:hval 0 (Zfh x)=k:=by
  have:=Zuw 15 k [] (by omega)
  rw [List.append_nil] at this
  unfold Zfh
  rw [Zus,hkt,this];rfl
 have hok:∀ c ∈ Zfh x,Znw c:=fun c h=>by
  unfold Zfh at h
  rcases List.mem_append.1 h with h | h
  ·rw [List.eq_of_mem_replicate h];exact .inl (by decide)
  ·exact Zt2 _ _ c h
 have hp:=Zz8 (l:=Zfh x) (by rw [Zqi];decide) (by rw [Zqi];decide) hok (by rw [hval1];omega)
 unfold Zeu Zh1
 rw [Zl0 _ _ hl,Option.bind_some]
 simp only []
 rw [hp,Option.bind_some]
 simp only []
 rw [hval1,hback]
 simp only [Option.bind_some,Bool.not_true,Bool.or_self,Bool.not_false,gd_t]
 rw [Zlu hx hc]
 simp only [Option.bind_some,Zej,Bool.not_true,Bool.or_self,Bool.false_eq_true,if_false]
theorem Zn6 {s:ByteArray} {p:Nat} {c:UInt8} (h:s.data.toList[p]?=some c):sidx s (p:Int)=some (c.toNat:Int):=by
 obtain ⟨hp,e⟩:=List.getElem?_eq_some_iff.1 h
 have hs:p < s.size:=by rw [Lib.size_eq];exact hp
 unfold sidx
 rw [if_pos (by omega),show ((p:Int)).toNat=p from rfl,getElem?_pos s p hs,Option.map_some]
 have:s[p]=c:=by rw [← e];rfl
 rw [this]
theorem Zxo (c:UInt8):UInt8.ofNat c.toNat=c:=by simp
theorem Zpo (c:UInt8):Zj3 (c.toNat:Int)=some (Zjr c):=by
 have key:∀ n:Nat,n < 256 → Zj3 (n:Int)=some (Zjr (UInt8.ofNat n)):=by decide +kernel
 have:=key c.toNat c.toNat_lt
 rwa [Zxo] at this
theorem Zzj (c:UInt8):Zim (c.toNat:Int)=some (Zjr c):=Zpo c
theorem Z0h {n:Nat} (h:n < 16):Zle ((hexU n).toNat:Int)=some ((n:Int),true):=by
 have key:∀ n:Nat,n < 16 → Zle ((hexU n).toNat:Int)=some ((n:Int),true):=by decide +kernel
 exact key n h
theorem Z4y (c:UInt8):bOr .u8 (IntKind.u8.wrap (((c.toNat / 16:Nat):Int) * 2 ^ 4)) ((c.toNat % 16:Nat):Int)=(c.toNat:Int):=by
 have key:∀ n:Nat,n < 256 → bOr .u8 (IntKind.u8.wrap (((n / 16:Nat):Int) * 2 ^ 4)) ((n % 16:Nat):Int)=(n:Int):=by decide +kernel
 exact key c.toNat c.toNat_lt
theorem Zum (c:UInt8):1 ≤ (Zc0 c).length ∧ (Zc0 c).length ≤ 3:=by unfold Zc0;split <;> simp
theorem Zrq (l:List UInt8):l.length ≤ (l.flatMap Zc0).length ∧ (l.flatMap Zc0).length ≤ 3 * l.length:=by
 induction l with
 | nil=>simp
 | cons c l ih =>
  have:=Zum c
  simp only [List.flatMap_cons,List.length_append,List.length_cons];omega
theorem Zp4 {w:ByteArray} (hw:w.size < 1000000):∀ (l:List UInt8) (n p:Nat) (acc:List Int),l.length < n → w.data.toList.drop p=l.flatMap Zc0 → p + (l.flatMap Zc0).length=w.size → acc.length + l.length < 1000000 → Zeh w n acc (p:Int)=some (.inr (acc ++ l.map fun c=>(c.toNat:Int)))
 | [],0,p,acc,h,_,_,_=>by simp at h
 | [],n + 1,p,acc,h,hd,hp,ha=>by
  rw [Zeh,if_neg (by simp at hp;simp;omega)];simp
 | c :: l,0,p,acc,h,_,_,_=>by simp at h
 | c :: l,n + 1,p,acc,h,hd,hp,ha=>by
  simp only [List.length_cons] at h ha
  simp only [List.flatMap_cons,List.length_append] at hd hp
  have hc:=Zum c
  have at_:∀ (j:Nat) (x:UInt8),(Zc0 c)[j]?=some x → w.data.toList[p + j]?=some x:=fun j x hx=>by
   have:=congrArg (·[j]?) hd
   simp only [List.getElem?_drop] at this
   rw [this,List.getElem?_append_left (List.getElem?_eq_some_iff.1 hx).1,hx]
  have hd2:w.data.toList.drop (p + (Zc0 c).length)=l.flatMap Zc0:=by rw [← List.drop_drop,hd,List.drop_left]
  by_cases hpl:Zjr c=true
  ·have hw1:Zc0 c=[c]:=by unfold Zc0;rw [if_pos hpl]
   rw [hw1] at hd2 at_ hp
   simp only [List.length_singleton] at hd2 hp
   have h0:=Zn6 (at_ 0 c rfl)
   rw [Nat.add_zero] at h0
   rw [Zeh,if_pos (by simp;omega),h0,Option.bind_some,Zpo,Option.bind_some,if_pos hpl,Option.bind_some,if_pos (by simp;omega)]
   unfold Zio
   rw [wr1 (by omega),Zp4 hw l n (p + 1) _ (by omega) hd2 (by omega) (by simp;omega)]
   simp
  ·have hpf:Zjr c=false:=by simpa using hpl
   have hw1:Zc0 c=[37,hexU (c.toNat / 16),hexU (c.toNat % 16)]:=by unfold Zc0;rw [if_neg hpl]
   rw [hw1] at hd2 at_ hp
   simp only [List.length_cons,List.length_nil] at hd2 hp
   have h0:=Zn6 (at_ 0 37 rfl)
   have h1:=Zn6 (at_ 1 _ rfl)
   have h2:=Zn6 (at_ 2 _ rfl)
   rw [Nat.add_zero] at h0
   have hlt:=c.toNat_lt
   rw [Zeh,if_pos (by simp;omega),h0,Option.bind_some,Zpo,Option.bind_some,if_neg (by decide),Option.bind_some]
   rw [show IntKind.i64.wrap ((p:Int) + 2)=((p + 2:Nat):Int) by rw [wr (by omega) (by omega)];omega,show IntKind.i64.wrap ((p:Int) + 1)=((p + 1:Nat):Int) from wr1 (by omega)]
   rw [if_neg (by simp;omega),h1,Option.bind_some,Z0h (by omega),Option.bind_some,h2,Option.bind_some,Z0h (Nat.mod_lt _ (by decide)),Option.bind_some]
   simp only [Bool.not_true,Bool.or_self,Bool.not_false,gd_t,Z4y]
   rw [Zpo,Option.bind_some,hpf]
   simp only [Bool.or_self,Bool.false_eq_true,if_false]
   rw [if_pos (by simp;omega)]
   unfold Zio
   rw [wr1 (by omega),Zp4 hw l n (p + 2 + 1) _ (by omega) hd2 (by omega) (by simp;omega)]
   simp
def wB (s:ByteArray):List UInt8:=if s.size=0 then [37] else s.data.toList.flatMap Zc0
theorem Z0r (s:ByteArray):1 ≤ (wB s).length ∧ (wB s).length ≤ 3 * s.size + 1:=by
 have h:=Zrq s.data.toList
 have:=Lib.size_eq s
 unfold wB
 split
 ·simp
 ·rename_i h0;omega
theorem Zl6 {s:ByteArray} (h:s.size ≤ 1000000):Zgv s=some (nb (wB s)):=by
 unfold Zgv wB
 rw [if_pos h]
 split <;> rfl
theorem Zw8 (l:List UInt8):bstr (l.map fun c=>(c.toNat:Int))=nb l:=Z3l (nb l)
theorem Z13 {s:ByteArray} (h:s.size ≤ 1000):Zl4 (nb (wB s))=some (s,true):=by
 unfold Zl4
 by_cases h0:s.size=0
 ·have e:wB s=[37]:=if_pos h0
  rw [e,if_pos (show sEq (nb [37]) ⟨#[37]⟩=true from Ziu.2 rfl)]
  have:s=⟨#[]⟩:=ByteArray.ext (Array.size_eq_zero_iff.1 h0)
  rw [this]
 ·have e:wB s=s.data.toList.flatMap Zc0:=if_neg h0
  have hsz:=Lib.size_eq s
  have hf:=Zrq s.data.toList
  have hne:sEq (nb (wB s)) ⟨#[37]⟩=false:=by
   rw [Zgh]
   intro hq
   have hl:wB s=[37]:=congrArg (fun x:ByteArray=>x.data.toList) hq
   rw [e] at hl
   cases hs:s.data.toList with
   | nil=>rw [hs] at hsz;exact h0 hsz
   | cons c l =>
    rw [hs,List.flatMap_cons] at hl
    unfold Zc0 at hl
    split at hl
    ·rename_i hp
     rw [List.singleton_append] at hl
     rw [(List.cons.inj hl).1] at hp
     exact absurd hp (by decide)
    ·simp at hl
  rw [if_neg (by rw [hne];simp),Zdx,show (Int.toNat (((wB s).length:Int) - (0:Int)) + 1)=(wB s).length + 1 by omega]
  have:=Zp4 (w:=nb (wB s)) (by rw [Zdx,e];omega) s.data.toList ((wB s).length + 1) 0 [] (by rw [e];omega) (by rw [Zlp,e];rfl) (by rw [Zdx,e];omega) (by simp;omega)
  rw [show ((0:Nat):Int)=0 from rfl,List.nil_append] at this
  rw [this,Option.bind_some]
  simp only []
  rw [Zw8,List.length_map,← hsz]
  have:nb s.data.toList=s:=Lib.mk_data s
  rw [this,decide_eq_true (by omega)]
theorem Znn {s:ByteArray} (h:s.size ≤ 1000) (l:List ByteArray) (hl:l.length < 1000000):Zet ⟨nb (wB s) :: l⟩=some (s,⟨l⟩):=by
 unfold Zet Zhz
 rw [Zl0 _ _ hl,Option.bind_some,Z13 h]
 rfl
theorem hexs {n:Nat} (h:n < 16):sidx (⟨#[48,49,50,51,52,53,54,55,56,57,65,66,67,68,69,70]⟩:ByteArray) (n:Int)=some ((hexU n).toNat:Int):=by
 have key:∀ n:Nat,n < 16 → sidx (⟨#[48,49,50,51,52,53,54,55,56,57,65,66,67,68,69,70]⟩:ByteArray) (n:Int)=some ((hexU n).toNat:Int):=by decide +kernel
 exact key n h
theorem Zn2 {s:ByteArray} (hs:s.size ≤ 1000):∀ (l:List UInt8) (n i:Nat) (acc:List Int),l.length < n → i + l.length=s.size → s.data.toList.drop i=l → acc.length + 3 * l.length < 1000000 → Zcx s n acc (i:Int)=some (acc ++ (l.flatMap Zc0).map fun c=>(c.toNat:Int))
 | [],0,i,acc,h,_,_,_=>by simp at h
 | [],n + 1,i,acc,h,hi,hd,ha=>by rw [Zcx,if_neg (by simp at hi;simp;omega)];simp
 | c :: l,0,i,acc,h,_,_,_=>by simp at h
 | c :: l,n + 1,i,acc,h,hi,hd,ha=>by
  simp only [List.length_cons] at h hi ha
  have hg:s.data.toList[i]?=some c:=by
   have:=congrArg (·[0]?) hd
   simpa using this
  have h0:=Zn6 hg
  have hd2:s.data.toList.drop (i + 1)=l:=by rw [← List.drop_drop,hd];rfl
  have hlt:=c.toNat_lt
  rw [Zcx,if_pos (by simp;omega),h0,Option.bind_some,Zzj,Option.bind_some]
  by_cases hpl:Zjr c=true
  ·have hw1:Zc0 c=[c]:=by unfold Zc0;rw [if_pos hpl]
   rw [if_pos hpl,Option.bind_some,if_pos (by simp;omega)]
   unfold Zew
   rw [wr1 (by omega),Zn2 hs l n (i + 1) _ (by omega) (by omega) hd2 (by simp;omega),List.flatMap_cons,hw1]
   simp
  ·have hw1:Zc0 c=[37,hexU (c.toNat / 16),hexU (c.toNat % 16)]:=by unfold Zc0;rw [if_neg hpl]
   rw [if_neg hpl,Option.bind_some,Int.tdiv_eq_ediv_of_nonneg (by omega),show (c.toNat:Int) / 16=((c.toNat / 16:Nat):Int) by omega,u8r (by omega) (by omega),hexs (by omega),Option.bind_some,Option.bind_some,Int.tmod_eq_emod_of_nonneg (by omega),show (c.toNat:Int) % 16=((c.toNat % 16:Nat):Int) by omega,hexs (Nat.mod_lt _ (by decide)),Option.bind_some,if_pos (by simp;omega)]
   unfold Zew
   rw [wr1 (by omega),Zn2 hs l n (i + 1) _ (by omega) (by omega) hd2 (by simp;omega),List.flatMap_cons,hw1]
   simp
theorem Z7d {s:ByteArray} (hs:s.size ≤ 1000):Zfw s=some (nb (wB s)):=by
 unfold Zfw
 by_cases h0:s.size=0
 ·have:s=⟨#[]⟩:=ByteArray.ext (Array.size_eq_zero_iff.1 h0)
  subst this
  rw [if_pos (show sEq (⟨#[]⟩:ByteArray) ⟨#[]⟩=true from Ziu.2 rfl)]
  rfl
 ·rw [if_neg (by rw [Ziu];intro e;exact h0 (by rw [e];rfl)),show (Int.toNat ((s.size:Int) - (0:Int)) + 1)=s.size + 1 by omega]
  have hsz:=Lib.size_eq s
  have:=Zn2 hs s.data.toList (s.size + 1) 0 [] (by omega) (by omega) rfl (by simp;omega)
  rw [show ((0:Nat):Int)=0 from rfl,List.nil_append] at this
  rw [this,Option.bind_some]
  simp only []
  rw [Zw8]
  unfold wB
  rw [if_neg h0]
theorem Z6y (w r:List UInt8) (c:UInt8):Lib.occAt (w ++ c :: r) [c] w.length=true:=by
 unfold Lib.occAt
 rw [List.drop_left]
 simp [List.isPrefixOf]
theorem Z0e {w:List UInt8} {c:UInt8} (hw:c ∉ w) (r s:List UInt8) {j:Nat} (hj:j < w.length):Lib.occAt (w ++ r) (c :: s) j=false:=by
 unfold Lib.occAt
 rw [List.drop_append_of_le_length (by omega),List.drop_eq_getElem_cons hj]
 have:c ≠ w[j]:=fun e=>hw (e ▸ List.getElem_mem hj)
 rw [List.cons_append,List.isPrefixOf,show (c == w[j])=false from by simpa using this]
 rfl
theorem Z2g {w:List UInt8} {c:UInt8} (hw:c ∉ w) (r:List UInt8):Lib.index (w ++ c :: r) [c]=(w.length:Int) :=
 Lib.index_first (by simp) (Z6y w r c) (fun j hj=>Z0e hw _ _ hj)
theorem Zzm {w:List UInt8} {c:UInt8} (hw:c ∉ w) (s:List UInt8):Lib.index w (c :: s)=-1:=by
 refine Lib.index_none (fun j hj=>?_)
 by_cases h:j < w.length
 ·have:=Z0e hw [] s h
  rwa [List.append_nil] at this
 ·unfold Lib.occAt
  rw [List.drop_eq_nil_of_le (by omega)]
  rfl
theorem Zm3 (w:List UInt8) (s:List UInt8):Lib.join [w] s=w:=by simp [Lib.join,List.intercalate]
theorem Zju (w v:List UInt8) (ws:List (List UInt8)) (s:List UInt8):Lib.join (w :: v :: ws) s=w ++ s ++ Lib.join (v :: ws) s:=by simp [Lib.join,List.intercalate,List.intersperse]
theorem Zrl (c:UInt8):∀ (ws:List (List UInt8)) (w:List UInt8),(∀ v ∈ w :: ws,c ∉ v) → Lib.splitK [c] 0 ws.length (Lib.join (w :: ws) [c])=w :: ws
 | [],w,_=>by rw [Zm3];rfl
 | v :: ws,w,h=>by
  have hi:Lib.index (Lib.join (w :: v :: ws) [c]) [c]=(w.length:Int):=by
   rw [Zju,List.append_assoc]
   exact Z2g (h w (by simp)) _
  rw [List.length_cons,Lib.splitK,hi,if_neg (by intro e;have:=beq_iff_eq.1 e;omega),show ((w.length:Int)).toNat=w.length from rfl,Zju,List.append_assoc,Nat.add_zero,List.take_left]
  have:(w ++ ([c] ++ Lib.join (v :: ws) [c])).drop (w.length + [c].length)=Lib.join (v :: ws) [c]:=by
   rw [← List.append_assoc]
   exact List.drop_left' (by simp)
  rw [this,Zrl c ws v (fun x hx=>h x (by simp at hx ⊢;exact Or.inr hx))]
theorem Zsi (c:UInt8):∀ (ws:List (List UInt8)) (w:List UInt8),(∀ v ∈ w :: ws,c ∉ v) → (Lib.join (w :: ws) [c]).count c=ws.length
 | [],w,h=>by rw [Zm3];exact List.count_eq_zero.2 (h w (by simp))
 | v :: ws,w,h=>by
  rw [Zju,List.append_assoc,List.count_append,List.count_append,Zsi c ws v (fun x hx=>h x (by simp at hx ⊢;exact Or.inr hx)),List.count_eq_zero.2 (h w (by simp))]
  simp
  omega
theorem Zxw {w:List UInt8} {ws:List (List UInt8)} (h:∀ v ∈ w :: ws,(32:UInt8) ∉ v) (hs:(Lib.join (w :: ws) [32]).length < 4294967281):Ze0 (nb (Lib.join (w :: ws) [32])) (⟨#[32]⟩:ByteArray)=some ((w :: ws).map nb):=by
 unfold Ze0
 rw [if_pos ⟨by rw [Zdx];exact hs,by decide⟩]
 congr 1
 have hc:Lib.countB (nb (Lib.join (w :: ws) [32])) ⟨#[32]⟩=ws.length:=by
  show Lib.count (nb (Lib.join (w :: ws) [32])).data.toList [32]=_
  rw [Zlp,Lib.count_one,Zsi 32 ws w h]
 rw [hc]
 have hd:=Lib.splitB_data (⟨#[32]⟩:ByteArray) 0 ws.length (nb (Lib.join (w :: ws) [32]))
 rw [Zlp,show (⟨#[32]⟩:ByteArray).data.toList=[32] from rfl,Zrl 32 ws w h] at hd
 have:=congrArg (List.map nb) hd
 rw [List.map_map] at this
 have e:(nb ∘ fun x:ByteArray=>x.data.toList)=id:=by funext x;exact Lib.mk_data x
 rw [e,List.map_id] at this
 exact this
theorem Zzp {w:List UInt8} (h:(59:UInt8) ∉ w) (hs:w.length < 4294967281):Ze0 (nb w) (⟨#[59,32]⟩:ByteArray)=some [nb w]:=by
 unfold Ze0
 rw [if_pos ⟨by rw [Zdx];exact hs,by decide⟩]
 have hi:Lib.indexB (nb w) (⟨#[59,32]⟩:ByteArray)=-1:=by
  show Lib.index (nb w).data.toList [59,32]=-1
  rw [Zlp]
  exact Zzm h _
 rw [Lib.splitB_miss _ _ _ _ hi]
end Go.CL
