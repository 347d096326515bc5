/- A part of the proof of WholeLog. -/
import Derived.Test.YtajhikgoibmpcaaGreatDoorWholeLogC3
set_option linter.unusedVariables false
set_option linter.unusedSimpArgs false
set_option maxRecDepth 100000
open Go.Proofs.Tryz renaming prog→Zb0k,underlying98→Zb0l,underlying9→Zb0p,underlying45→Zb0r,underlying70→Zb0s,underlying148→Zb0t,underlying77→Zb0u,underlying49→Zb0w,underlying3→Zb0y,underlying92→Zb01,underlying5→Zb02,underlying23→Zb03,underlying233→Zb04,underlying67→Zb05,underlying63→Zb06,underlying2→Zb07,results49→Zb09,ntmps49→Zb1a,func49→Zb1b,func79→Zb1c
open List renaming mem_singleton→Zb0m
open Go.IntKind renaming i64→Zb0n,u64→Zb00,u8→Zb1d
open Nat renaming lt_succ_self→Zb0o
open Int renaming toNat→Zb0q
open Array renaming getElem?_setIfInBounds→Zb0v,getD_eq_getD_getElem?→Zb0x,getElem?_append→Zb0z
open Option renaming bind_some→Zb08
namespace Go.CL
open Go Go.RowKit Go.Proofs
theorem Zu2 (a0:Zbc) {r:Int×Int} (H0:Zja a0=some r):FnOk Zb0k 21 [(Zde.pd a0)] (pTup [(pInt .i64 r.1),(pInt .i64 r.2)]):=by
 unfold Zja at H0
 refine Zb9 (N:=45) Tryz.func21 rfl rfl (Qe rfl) rfl rfl (fun a g0 s b=>?_)
 refine U4 [0] s b Za
  (U2 [5] (Zbt rfl rfl U0)<|U2 [] (Zc rfl rfl U6)<|U2 [] (Zc rfl rfl U6)<|U3) fun a g s b=>?_
 refine wp_seq<|wp_block ?_
 refine U4 [5,80] s b Za
  (Af Zws 5 rfl<|Al U9 0 rfl<|U2 [0] (Zcj rfl rfl U0 U6)<|Am 0 rfl<|Gf [0,5] rfl (fun h=>Zq Zws rfl rfl U0)<|Gf [10,0] rfl (fun h=>Z2 U9 rfl rfl (V1 h U0))<|Gf [20,0] rfl (fun h=>Zcn rfl rfl (V1 h U0) U6)<|U2 [30,0] (Zb3 rfl rfl U0 (fun hz=>(V1 (bNF hz) U1)))<|Aa 0 rfl<|U3) fun a g s b=>?_
 refine Zs (s.bool 1 rfl) H0 (fun H0=>?_) (fun H0=>?_)
 ·refine U4 [0,10] (L:=[]) (s.pi [] rfl) b Za
   (U2 [] (Zc rfl rfl U6)<|U2 [] (Zc rfl rfl U6)<|U3) fun a g s b=>?_
  refine wp_ret<|Z5 ?_
  refine Zp ?_
  obtain rfl:=Oi H0
  exact Zdq rfl s b (Zf (s:=2)) (Zf (s:=3)) (Zcr (s.at 0 rfl) (s.at 1 rfl))
 ·refine U4 [5,40] (L:=[(1,_)]) (s.pi [0] rfl) b Za
   (Af Zv7 5 rfl<|Al Z0d 0 rfl<|U2 [0] (Zbv Zb0w rfl rfl U0)<|U2 [0] (Zcn rfl rfl U0 U6)<|Aa 0 rfl<|U3) fun a g s b=>?_
  refine Zs (s.bool 1 rfl) H0 (fun H0=>?_) (fun H0=>?_)
  ·refine U4 [0,10] (L:=[]) (s.pi [] rfl) b Za
    (U2 [] (Zc rfl rfl U6)<|U2 [] (Zc rfl rfl U6)<|U3) fun a g s b=>?_
   refine wp_ret<|Z5 ?_
   refine Zp ?_
   obtain rfl:=Oi H0
   exact Zdq rfl s b (Zf (s:=2)) (Zf (s:=3)) (Zcr (s.at 0 rfl) (s.at 1 rfl))
  ·refine wp_skip<|Zbb ?_
   refine Zl<|wp_seq ?_
   refine U4 [5,10,20,30] (L:=[(1,_)]) (s.pi [0] rfl) b Za
    (Af Zv7 5 rfl<|Al Z0d 0 rfl<|U2 [0] (Zbv Zb0w rfl rfl U0)<|U2 [] (Zx rfl rfl U6)<|U3) fun a g s b=>?_
   obtain⟨z10,hz1,H0⟩:=Zd H0
   refine Zbq (fun a w=>∃(g:G),Jn 45 [(1,(Zde.ptr a0))] a w g0 g ((.inr ())=z10)) ?_ ?_
   ·rintro a w ⟨g,rfl,s,b,rfl⟩
    refine Zl<|wp_seq ?_
    obtain⟨r11,h12,H0⟩:=Zd H0
    refine U4 [30] s b Za
     (Al Zqd 5 rfl<|U2 [0] (Zt Zbme (Zwc _ h12) rfl rfl (.cons U0 .nil))<|U2 [0] (Zbv Zb0s rfl rfl U0)<|U2 [0] (Zcn rfl rfl U0 U6)<|U3) fun a g s b=>?_
    refine Zs (s.bool 0 rfl) H0 (fun H0=>?_) (fun H0=>?_)
    ·refine U4 [0,10] (L:=[]) (s.pi [] rfl) b Za
      (U2 [] (Zc rfl rfl U6)<|U2 [] (Zc rfl rfl U6)<|U3) fun a g s b=>?_
     refine wp_ret<|Zp ?_
     obtain rfl:=Oi H0
     exact Zdq rfl s b (Zf (s:=2)) (Zf (s:=3)) (Zcr (s.at 0 rfl) (s.at 1 rfl))
    ·refine wp_skip<|Zl ?_
     refine U4 [0,10] (L:=[]) (s.pi [] rfl) b Za
      (U2 [] (Zc rfl rfl U6)<|U2 [] (Zc rfl rfl U6)<|U3) fun a g s b=>?_
     refine wp_ret ?_
     obtain rfl:=Oi H0
     exact Zdq rfl s b (Zf (s:=2)) (Zf (s:=3)) (Zcr (s.at 0 rfl) (s.at 1 rfl))
   ·refine wp_block<|wp_loop_ghost (fun n a w=>∃(x3:Int) (g:G),Jn 45 [(1,(Zde.ptr a0)),(23,(Zb1.sl.pd a0.Deals)),(24,(pInt .i64 (a0.Deals.length:Int))),(25,(pInt .i64 x3))] a w g0 g (Zez a0 n x3=some z10)) (Zb0q ((a0.Deals.length:Int)-(0:Int))+1) ⟨(0:Int),g,rfl,(s.pi [0,1,2,3] rfl),b,hz1⟩ (fun n a w hI=>?_)
    obtain⟨x3,g,rfl,s,b,H1⟩:=hI
    cases n with
    | zero=>exact absurd H1 (by simp[Zez])
    | succ n =>
     rw[Zez]at H1
     refine U4 [5,15,25,35,0] s b Za
      (U2 [35,25] (Zcj rfl rfl U0 U1)<|U3) fun a g s b=>?_
     refine wp_seq<|Zs (s.bool 4 rfl) H1 (fun H1=>?_) (fun H1=>?_)
     ·refine wp_skip<|Zl ?_
      refine wp_seq<|wp_block ?_
      obtain⟨e5,h6,H1⟩:=Zd H1
      refine U4 [5,40,50,15,25,35] (L:=[(1,_),(23,_),(24,_),(25,_)]) (s.pi [0,1,2,3] rfl) b Za
       (Am 35 rfl<|U2 [15,35] (Zbn Zb0w Z4n rfl rfl U0 U1 h6)<|Al Zl8 0 rfl<|U2 [] (Z4e 5 rfl rfl)<|Aa 30 rfl<|U2 [20,10] (Zci Zl8 rfl rfl U1 U0)<|U3) fun a g s b=>?_
      obtain⟨r7,h8,H1⟩:=Zd H1
      refine U4 [5,15,50,35,45,55] s b Za
       (Al Zl8 25 rfl<|U2 [0] (Zt Zbmi (Zx5 _ h8) rfl rfl (.cons U0 .nil))<|Am 0 rfl<|U2 [0] (Z7 rfl rfl U0 rfl)<|U2 [10] (Z7 rfl rfl U0 rfl)<|Aa 10 rfl<|Aa 10 rfl<|U3) fun a g s b=>?_
      refine U4 [5,15,25,35,45,55,10] s b Za
       (Am 25 rfl<|U2 [0] (Zcv rfl rfl U0 U6)<|U3) fun a g s b=>?_
      refine Zs (s.bool 6 rfl) H1 (fun H1=>?_) (fun H1=>?_)
      ·refine U4 [30,40] (L:=[(4,_),(6,_)]) (s.pi [1,2] rfl) b Za
        (Am 15 rfl<|Am 5 rfl<|U2 [0] (Zbw rfl rfl U0 U6 rfl)<|Aa 20 rfl<|Aa 10 rfl<|U3) fun a g s b=>?_
       refine wp_ret<|Z5 ?_
       refine Zp<|Zp ?_
       refine Z5<|Zp ?_
       refine Zp ?_
       obtain rfl:=Oi H1
       obtain rfl:=Oi H0
       exact Zdq rfl s b (Zf (s:=2)) (Zf (s:=3)) (Zcr (s.at 0 rfl) (s.at 1 rfl))
      ·refine wp_skip<|Zbb ?_
       refine Zl<|U5 [5,15,25,10] (L:=[(1,_),(23,_),(24,_),(25,_)]) (s.pi [0,3,4,5] rfl) b Za
        (U2 [35] (Zbw rfl rfl U0 U6 rfl)<|Am 0 rfl<|U3) fun a g s b=>?_
       exact⟨n,Zb0o _,(Zb0n.wrap (x3+(1:Int))),g,rfl,(s.pi [0,1,2,3] rfl),b,H1⟩
     ·refine wp_exit<|Zbx ?_
      refine Zbx<|Zcg ?_
      exact⟨g,rfl,(s.pi [0] rfl),b,Oi H1⟩
theorem Z4d:FnOk Zb0k 33 [pEq .nilIface] (Zdw.pd (default:Zdb)):=by
 refine Zb9 (N:=17) Tryz.func33 rfl rfl (Qe rfl) rfl rfl (fun a g0 s b=>?_)
 refine r_s (T:=[⟨[],[(2,(pBox Zdw 2 (default:Zdb)))],[3],[],[2]⟩]) (F:=[.o 0,.p 0 0]) s b Za
  (o_p rfl (Zf0 (zs:=[.int .i64 0,.int .i64 0]) (by kernel_rfl) (fun g=>Ztr g) rfl rfl)<|o_n) fun a g s b=>?_
 refine wp_seq<|r_s (T:=[⟨[.o 0],_,[],[],[5]⟩,⟨[.p 0 0],_,[],[0],[6]⟩]) (F:=[.o 1,.p 1 0]) s b Za
  (Qm rfl U0<|o_p rfl (Zbdf (by kernel_rfl) rfl rfl U0)<|o_n) fun a g s b=>?_
 refine wp_cond_split (s.bool 1 rfl) (fun _=>?_) (fun hc=>by cases hc)
 refine r_s (L:=[(2,_)]) (T:=[⟨[],_,[],[],[7]⟩,⟨[.o 0,.p 0 0],_,[3],[0],[2]⟩]) (F:=[.p 1 0]) (s.pi [0] rfl) b Za
  (o_p rfl (Z8m rfl rfl)<|o_p rfl (Z9 Zxp rfl rfl U0 U1)<|o_n) fun a g s b=>?_
 refine wp_ret<|Zp ?_
 obtain⟨u0,hu0,hq0⟩:=Zbi (P:=Zb0k) Zxp (s.at 0 rfl)
 exact Zba rfl s b hu0 hq0
end Go.CL
namespace Go.CL
open Go Go.RowKit
section
variable {P:Program} {N:Nat} {o:Oper} {uses outs:Z8} {S:List Nat} {d:Nat}
theorem Zbis {ops:Array Oper} {Q:Exit→Act→List Frame→World→Prop} {i:Nat} {l:List Nat} {a:Act} {cs:List Frame} {w:World} (p:ops[i]? =some o) (hg:o.guard=none) (k:∀ev,(execOp ev o).run P w=.ok .recover w) (q:o.dst=some d) (r:recoverD cs=none) (m:a.tmps.size=N) (n:d<N)
   (h:∀a':Act,a'.tmps.size=N→a'.defers=a.defers→Act.at a' d=.nilIface→wpOpsS P ops Q l a' cs w):wpOpsS P ops Q (i::l) a cs w :=
 Zbkl p hg (k _) r (h _ (by rw[Zu7,m]) (Zrm ..) (by rw[q];exact Zdn _ (by rw[m];exact n)))
theorem Z1w {ops:Array Oper} {Q:Exit→Act→List Frame→World→Prop} {i:Nat} {l:List Nat} {a:Act} {cs:List Frame} {g:G} (s:ops[i]? =some o) (hg:o.guard=none) (k:OB P N o uses outs S) (m:a.tmps.size=N) (q:∀t,o.dst=some t→t<N) (u:Ze4 uses a g)
   (h:∀(a':Act) g',Step S g g'→a'.tmps.size=N→a'.defers=a.defers→(∀e∈outs,e.2.p g' (Act.at a' e.1))→(∀n,o.dst≠some n→Act.at a' n=Act.at a n)→wpOpsS P ops Q l a' cs g'.w):wpOpsS P ops Q (i::l) a cs g.w :=
 Zbm1 s hg k m q u fun v g' hs r=>h _ g' hs (by rw[Zu7,m]) (Zrm ..) r fun n x=>Zlf _ x
end
end Go.CL
namespace Go.CL
open Go Go.RowKit Go.Proofs
theorem Z49:Z9m Zb0k 32:=by
 intro g b4 b5
 refine callsD_of_wpS Tryz.func32 rfl fun c₀ cs hu=>?_
 apply wpS_seq
 apply wpS_region
 refine Zbis (N:=10) (o:=_) rfl rfl (fun _=>rfl) rfl (by simp[recoverD,hu]) (by simp[Tryz.ntmps32]) (by decide) fun a0 n0 d0 e0=>?_
 refine Z1w (g:=g.bare) (N:=10) (uses:=[(3,pEq .nilIface)]) (o:=_) rfl rfl (Zt Zbss (Z4d) rfl rfl (.cons U0 .nil)) n0 (fun t h=>by cases h;decide) (fun e he=>by rw[Zb0m.1 he];exact e0) fun a1 g1 s1 n1 d1 h1 _=>?_
 refine Z1w (N:=10) (uses:=[]) (outs:=[(2,pBox Zdw 2 (default:Zdb))]) (o:=_) rfl rfl (Zf0 (zs:=[.int .i64 0,.int .i64 0]) (by kernel_rfl) (fun g=>Ztr g) rfl rfl) n1 (fun t h=>by cases h;decide) (fun e he=>by cases he) fun a2 g2 s2 n2 d2 h2 k2=>?_
 refine Z1w (N:=10) (uses:=[(2,pBox Zdw 2 (default:Zdb)),(4,Zdw.pd (default:Zdb))]) (o:=_) rfl rfl (Zci Zxp rfl rfl U0 U1) n2 (fun t h=>by cases h) (fun e he=>?_) fun a3 g3 s3 n3 d3 h3 _=>?_
 rcases List.mem_cons.1 he with rfl | he
 exact h2 _ (Zb0m.2 rfl)
 rw[Zb0m.1 he]
 have:=(Zdw.pd (default:Zdb)).st s2 (fun _ h _=>by cases h) (h1 _ (Zb0m.2 rfl))
 show (Zdw.pd (default:Zdb)).p g2 (Act.at a2 4)
 rw[k2 4 (fun h=>by cases h)];exact this
 refine wpS_of_wp<|Zbaw (fun a=>St 10 [(2,Zdw.ptr (default:Zdb))] a g3) ⟨n3,by rw[d3,d2,d1,d0],fun e he=>by rw[Zb0m.1 he];exact h3 _ (Zb0m.2 rfl)⟩ (fun a s=>?_)
 have hb3:Base g.bare g3:=(((Zs0 g).step s1 (by simp)).step s2 (by simp)).step s3 (by simp)
 have b:=hb3
 refine (show (Code.seq _ _).wp Zb0k _ a g3.w from ?_)
 refine r_s (T:=[⟨[.o 0],_,[],[],[5]⟩,⟨[.p 0 0],_,[],[0],[6]⟩,⟨[.p 1 0],_,[],[0,1],[7]⟩]) (F:=[.p 2 0]) s b Za
  (Qf rfl Zbnw U0<|Ql rfl Zok U0<|o_p rfl (Zcv rfl rfl U0 U6)<|o_n) fun a g4 s b=>?_
 refine wp_cond_split (s.bool 0 rfl) (fun hc=>by cases hc) (fun _=>?_)
 refine wp_skip ?_
 obtain⟨g5,e5,hs,_⟩:=Zvc b
 exact⟨s.df,.returning,by rw[←hu],.tuple #[],by simp[results,Tryz.results32],rfl,rfl,g5,e5.symm,hs⟩
theorem Zbb9 (a0:List Int) {r:Zh} (h:Z12 a0=some r):Zbbt Zb0k 34 [((Kd.int .u8).sl.pd a0)] Z0 r:=by
 obtain rfl:=Oi h
 refine Zbhx (N:=6) Tryz.func34 rfl rfl (Qe rfl) rfl (fun a g0 h0 s b=>?_)
 refine r_s (T:=[⟨[],[],[],[],[2]⟩]) (F:=[.o 0]) s b Za
  (o_p rfl (Zl2 (.inr rfl))<|o_n) fun a g s b=>?_
 refine r_s (T:=[⟨[.o 0],_,[],[],[3]⟩,⟨[.p 0 0],_,[],[0],[4]⟩,⟨[.p 1 0],[(5,(pBox Z0 5 ({b:=a0,at_:=(0:Int)}:Zh)))],[6],[0,1],[5]⟩,⟨[.p 2 0],_,[],[0,1,2],[2]⟩]) (F:=[.p 3 0]) s b Za
  (Qm rfl U0<|o_p rfl (Zbkw rfl rfl U0)<|o_p rfl (Zln rfl rfl U0)<|Qa rfl U0<|o_n) fun a g s b=>?_
 exact wp_ret<|Zbs5 rfl h0 s b (Zf (s:=2)) (s.at 0 rfl)
theorem Zep (a0:Zh) (a1:Int) {r:Zh} (H0:Zer a0 a1=some r):FnB Zb0k 60 [.box Z0 a0 r,.val (pInt .i64 a1)] (pTup []):=by
 unfold Zer at H0
 refine Zf2 (N:=11) Tryz.func60 rfl rfl (Qe rfl) rfl rfl (fun a g0 bs hbs s b=>?_)
 obtain⟨b0,rfl⟩:=Znj hbs
 replace s:St 11 [(0,(Zbm (some b0) Z0 0 a0)),(1,(pInt .i64 a1))] _ _:=s
 replace s:St 11 [(0,(pEq (ptrB b0 0))),(1,(pInt .i64 a1)),(1002,(pRB Z0 0 b0 a0))] _ _:=Zhm s
 cases H0
theorem Zp1 (a0:Zh) {r:Int×Zh} (H0:Ziu a0=some r):FnB Zb0k 83 [.box Z0 a0 r.2] (pInt .u8 r.1):=by
 unfold Ziu at H0
 refine Zf2 (N:=33) Tryz.func83 rfl rfl (Qe rfl) rfl rfl (fun a g0 bs hbs s b=>?_)
 obtain⟨b0,rfl⟩:=Znj hbs
 replace s:St 33 [(0,(Zbm (some b0) Z0 0 a0))] _ _:=s
 replace s:St 33 [(0,(pEq (ptrB b0 0))),(1002,(pRB Z0 0 b0 a0))] _ _:=Zhm s
 refine U4 [5,15] s b Za
  (U2 [] (Zc rfl rfl U6)<|U3) fun a g s b=>?_
 refine wp_seq<|U4 [5,90,15] s b Za
  (Am 5 rfl<|U2 [0] (Zz rfl rfl U0)<|U2 [0] (Zbh Zoi rfl rfl U0)<|U2 [0,15] (Zd3 U9 (fun g cs h=>Zra h) rfl rfl U1 U0)<|Am 5 rfl<|U2 [0] (Zz rfl rfl U0)<|U2 [0] (Zbh Zxs rfl rfl U0)<|U2 [0,15] (Zd3 Z3c (fun g cs h=>Zxj h) rfl rfl U1 U0)<|U2 [0] (Zbv Zb0s rfl rfl U0)<|U2 [50,0] (Zkp rfl rfl U0 U1)<|U3) fun a g s b=>?_
 refine Zbq (fun a w=>∃(j4:Zh) (g:G),Jn 33 [(0,(pEq (ptrB b0 0))),(1002,(pRB Z0 0 b0 j4))] a w g0 g (Zkg j4=some r)) ?_ ?_
 rintro a w ⟨j4,g,rfl,s,b,H0⟩
 unfold Zkg at H0
 refine Zl<|U4 [5,70] s b Za
  (Am 5 rfl<|U2 [0] (Zz rfl rfl U0)<|U2 [0] (Zbh Zoi rfl rfl U0)<|U2 [0,15] (Zd3 U9 (fun g cs h=>Zra h) rfl rfl U1 U0)<|U2 [0] (Zbw rfl rfl U0 U6 rfl)<|U2 [40] (Zz rfl rfl U0)<|U2 [0] (Zbh Zoi rfl rfl U0)<|U2 (outs:=[(1002,(pRB Z0 0 b0 ({j4 with at_:=(Zb0n.wrap (j4.at_+(1:Int)))}:Zh)))]) (S:=[1]) [0,20,15] (Zry (v':=({j4 with at_:=(Zb0n.wrap (j4.at_+(1:Int)))}:Zh)) U9 rfl rfl U7 U0 U1 (fun g cs ys h hy=>Z9e h hy))<|U3) fun a g s b=>?_
 obtain⟨e5,h6,H0⟩:=Zd H0
 refine U4 [5,110,15] s b Za
  (Am 5 rfl<|U2 [0] (Zz rfl rfl U0)<|U2 [0] (Zbh Zxs rfl rfl U0)<|U2 [0,15] (Zd3 Z3c (fun g cs h=>Zxj h) rfl rfl U1 U0)<|Am 5 rfl<|U2 [0] (Zz rfl rfl U0)<|U2 [0] (Zbh Zoi rfl rfl U0)<|U2 [0,15] (Zd3 U9 (fun g cs h=>Zra h) rfl rfl U1 U0)<|U2 [0] (Zei rfl rfl U0 U6 rfl)<|U2 [50,0] (Zbn Zb0s sz_5 rfl rfl U0 U1 h6)<|Al ty_5 0 rfl<|Aa 0 rfl<|U3) fun a g s b=>?_
 refine wp_ret ?_
 obtain rfl:=Oi H0
 exact Zgk rfl s b (Zf (s:=2)) (s.at 1 rfl) ⟨Zkm (s.at 2 rfl),trivial⟩
 refine Zs (s.bool 1 rfl) H0 (fun H0=>?_) (fun H0=>?_)
 obtain⟨r2,h3,H0⟩:=Zd H0
 refine U5 [5,11] (L:=[(0,_),(1002,_)]) (s.pi [0,2] rfl) b Za
  (Am 5 rfl<|U2 [0,15] (Zce (m:=1002) (A:=[(pInt .i64 (2:Int))]) Zst (Zep _ _ h3) rfl rfl rfl (by decide) U1 U0 (.cons U6 .nil))<|U3) fun a g s b=>?_
 exact⟨r2,g,rfl,(s.pi [0,1] rfl),b,H0⟩
 exact wp_skip<|⟨a0,g,rfl,(s.pi [0,2] rfl),b,H0⟩
set_option maxHeartbeats 1000000 in
theorem Zq8 (a0:Zh) {r:Int×Zh} (H0:Zkv a0=some r):FnB Zb0k 59 [.box Z0 a0 r.2] (pInt .u64 r.1):=by
 unfold Zkv at H0
 refine Zf2 (N:=36) Tryz.func59 rfl rfl (Qe rfl) rfl rfl (fun a g0 bs hbs s b=>?_)
 obtain⟨b0,rfl⟩:=Znj hbs
 replace s:St 36 [(0,(Zbm (some b0) Z0 0 a0))] _ _:=s
 replace s:St 36 [(0,(pEq (ptrB b0 0))),(1002,(pRB Z0 0 b0 a0))] _ _:=Zhm s
 refine U4 [5,15] s b Za
  (U2 [] (Zc rfl rfl U6)<|U3) fun a g s b=>?_
 refine U4 [5,0,15] s b Za
  (U2 [] (Zc rfl rfl U6)<|U3) fun a g s b=>?_
 refine U4 [5,15,0,25] s b Za
  (U2 [] (Zc rfl rfl U6)<|U3) fun a g s b=>?_
 obtain⟨z16,hz1,H0⟩:=Zd H0
 refine Zbq (fun a w=>∃(g:G),Jn 36 [] a w g0 g ((.inr ())=z16)) ?_ ?_
 ·rintro a w ⟨g,rfl,s,b,rfl⟩
  cases H0
 ·refine wp_block<|wp_loop_ghost (fun n a w=>∃(x1:Int) (x2:Int) (x3:Zh) (g:G),Jn 36 [(0,(pEq (ptrB b0 0))),(3,(pInt .u64 x1)),(4,(pInt .i64 x2)),(1002,(pRB Z0 0 b0 x3))] a w g0 g (Zey n x1 x2 x3=some z16)) 11 ⟨(0:Int),(0:Int),a0,g,rfl,(s.pi [0,1,2,3] rfl),b,hz1⟩ (fun n a w hI=>?_)
  obtain⟨x1,x2,x3,g,rfl,s,b,H1⟩:=hI
  cases n with
  | zero=>exact absurd H1 (by simp[Zey])
  | succ n =>
   rw[Zey]at H1
   refine wp_seq<|wp_block ?_
   obtain⟨r4,h5,H1⟩:=Zd H1
   refine U4 [5,15,25,20,11] s b Za
    (Am 5 rfl<|U2 [0,35] (Zce (m:=1002) (A:=[]) Zbfc (Zp1 _ h5) rfl rfl rfl (by decide) U1 U0 .nil)<|Aa 0 rfl<|U3) fun a g s b=>?_
   refine wp_seq<|U4 [5,15,25,35,50,45] s b Za
    (Am 25 rfl<|U2 [0] (Zb0 rfl rfl U0 U6)<|Am 0 rfl<|Gt [0,35] rfl (fun h=>Zx rfl rfl U0)<|Gt [10,0] rfl (fun h=>Zcn rfl rfl (V1 h U0) U6)<|U2 [20,0] (Zbs rfl rfl U0 (fun hz=>(V1 hz U1)))<|U3) fun a g s b=>?_
   refine Zbq (fun a w=>∃(j9:Zh) (g:G),Jn 36 [(0,(pEq (ptrB b0 0))),(3,(pInt .u64 x1)),(4,(pInt .i64 x2)),(5,(pInt .u8 r4.1)),(1002,(pRB Z0 0 b0 j9))] a w g0 g (Zjv x1 x2 r4 (Zey n) j9=some z16)) ?_ ?_
   ·rintro a w ⟨j9,g,rfl,s,b,H1⟩
    unfold Zjv at H1
    refine Zl ?_
    obtain⟨h10,H1⟩:=Zdr H1
    refine U4 [5,70,25,35,45] s b Za
     (Am 15 rfl<|Am 35 rfl<|U2 [0] (Z4m rfl rfl U0 U6)<|U2 [0] (Zek Zb02 Zb0t rfl rfl U0 rfl)<|Am 25 rfl<|U2 [10,0] (Z8t rfl rfl U0 U1 h10 rfl)<|U2 [50,0] (Z7x rfl rfl U0 U1)<|Aa 0 rfl<|U3) fun a g s b=>?_
    refine wp_seq<|U4 [5,15,25,35,10,45] s b Za
     (Am 35 rfl<|U2 [0] (Zkp rfl rfl U0 U6)<|U3) fun a g s b=>?_
    refine Zs (s.bool 4 rfl) H1 (fun H1=>?_) (fun H1=>?_)
    ·refine wp_exit<|Zbx ?_
     refine Zcg<|Zl ?_
     refine U5 [5,15,20,35] (L:=[(0,_),(3,_),(4,_),(1002,_)]) (s.pi [0,1,2,5] rfl) b Za
      (Am 25 rfl<|U2 [0] (Zbw rfl rfl U0 U6 rfl)<|Aa 0 rfl<|U3) fun a g s b=>?_
     exact⟨n,Zb0o _,(bOr .u64 x1 (Zb00.wrap ((Zb00.wrap (bAnd .u8 r4.1 (127:Int)))*2^(min (Zb0q x2) (Zb00).bits)))),(Zb0n.wrap (x2+(7:Int))),j9,g,rfl,(s.pi [0,1,2,3] rfl),b,H1⟩
    ·refine wp_skip<|Zl ?_
     refine wp_seq<|U4 [5,15,50,45] (L:=[(0,_),(3,_),(4,_),(5,_),(1002,_)]) (s.pi [0,1,2,3,5] rfl) b Za
      (Am 35 rfl<|U2 [0] (Zb0 rfl rfl U0 U6)<|Am 0 rfl<|Gt [0,25] rfl (fun h=>Zx rfl rfl U0)<|Gt [10,0] rfl (fun h=>Zcn rfl rfl (V1 h U0) U6)<|U2 [20,0] (Zbs rfl rfl U0 (fun hz=>(V1 hz U1)))<|U3) fun a g s b=>?_
     refine Zbq (fun a w=>∃(j15:Zh) (g:G),Jn 36 [(0,(pEq (ptrB b0 0))),(3,(pInt .u64 (bOr .u64 x1 (Zb00.wrap ((Zb00.wrap (bAnd .u8 r4.1 (127:Int)))*2^(min (Zb0q x2) (Zb00).bits)))))),(1002,(pRB Z0 0 b0 j15))] a w g0 g (Zl1 x1 x2 r4 j15=some z16)) ?_ ?_
     ·rintro a w ⟨j15,g,rfl,s,b,H1⟩
      unfold Zl1 at H1
      refine Zl<|U4 [5,10,25] s b Za
       (Am 15 rfl<|Aa 0 rfl<|U3) fun a g s b=>?_
      refine wp_ret<|Z5 ?_
      refine Zp<|Zp ?_
      refine Z5<|Zp ?_
      obtain rfl:=Oi H1
      obtain rfl:=Oi H0
      exact Zgk rfl s b (Zf (s:=2)) (s.at 1 rfl) ⟨Zkm (s.at 2 rfl),trivial⟩
     ·refine Zs (s.bool 2 rfl) H1 (fun H1=>?_) (fun H1=>?_)
      ·obtain⟨r13,h14,H1⟩:=Zd H1
       refine U5 [5,15,11] (L:=[(0,_),(3,_),(1002,_)]) (s.pi [0,1,3] rfl) b Za
        (Am 5 rfl<|U2 [0,25] (Zce (m:=1002) (A:=[(pInt .i64 (4:Int))]) Zst (Zep _ _ h14) rfl rfl rfl (by decide) U1 U0 (.cons U6 .nil))<|U3) fun a g s b=>?_
       exact⟨r13,g,rfl,(s.pi [0,1,2] rfl),b,H1⟩
      ·exact wp_skip<|⟨j9,g,rfl,(s.pi [0,1,3] rfl),b,H1⟩
   ·refine Zs (s.bool 4 rfl) H1 (fun H1=>?_) (fun H1=>?_)
    ·obtain⟨r7,h8,H1⟩:=Zd H1
     refine U5 [5,15,25,35,11] (L:=[(0,_),(3,_),(4,_),(5,_),(1002,_)]) (s.pi [0,1,2,3,5] rfl) b Za
      (Am 5 rfl<|U2 [0,45] (Zce (m:=1002) (A:=[(pInt .i64 (1:Int))]) Zst (Zep _ _ h8) rfl rfl rfl (by decide) U1 U0 (.cons U6 .nil))<|U3) fun a g s b=>?_
     exact⟨r7,g,rfl,(s.pi [0,1,2,3,4] rfl),b,H1⟩
    ·exact wp_skip<|⟨r4.2,g,rfl,(s.pi [0,1,2,3,5] rfl),b,H1⟩
theorem Zhd (a0:Zh) (a1:Int) {r:Int×Zh} (H0:Zea a0 a1=some r):FnB Zb0k 35 [.box Z0 a0 r.2,.val (pInt .i64 a1)] (pInt .i64 r.1):=by
 unfold Zea at H0
 refine Zf2 (N:=17) Tryz.func35 rfl rfl (Qe rfl) rfl rfl (fun a g0 bs hbs s b=>?_)
 obtain⟨b0,rfl⟩:=Znj hbs
 replace s:St 17 [(0,(Zbm (some b0) Z0 0 a0)),(1,(pInt .i64 a1))] _ _:=s
 replace s:St 17 [(0,(pEq (ptrB b0 0))),(1,(pInt .i64 a1)),(1002,(pRB Z0 0 b0 a0))] _ _:=Zhm s
 refine U4 [5,15,25] s b Za
  (U2 [] (Zc rfl rfl U6)<|U3) fun a g s b=>?_
 obtain⟨r1,h2,H0⟩:=Zd H0
 refine U4 [5,15,20,11] s b Za
  (Am 5 rfl<|U2 [0,25] (Zce (m:=1002) (A:=[]) Zber (Zq8 _ h2) rfl rfl rfl (by decide) U1 U0 .nil)<|Aa 0 rfl<|U3) fun a g s b=>?_
 refine wp_seq<|U4 [5,25,40,35] s b Za
  (Am 25 rfl<|Am 15 rfl<|U2 [0] (Zv5 rfl rfl U0 U6)<|U2 [0] (Zek Zb0y Zb0t rfl rfl U0 rfl)<|U2 [30,0] (Zcn rfl rfl U0 U1)<|U3) fun a g s b=>?_
 refine Zbq (fun a w=>∃(j6:Zh) (g:G),Jn 17 [(0,(pEq (ptrB b0 0))),(5,(pInt .u64 r1.1)),(1002,(pRB Z0 0 b0 j6))] a w g0 g (Zjf r1 j6=some r)) ?_ ?_
 rintro a w ⟨j6,g,rfl,s,b,H0⟩
 unfold Zjf at H0
 refine Zl<|U4 [5,20,25] s b Za
  (Am 15 rfl<|U2 [0] (Zek Zb0t Zb0y rfl rfl U0 rfl)<|Aa 0 rfl<|U3) fun a g s b=>?_
 refine wp_ret ?_
 obtain rfl:=Oi H0
 exact Zgk rfl s b (Zf (s:=4)) (s.at 1 rfl) ⟨Zkm (s.at 2 rfl),trivial⟩
 refine Zs (s.bool 2 rfl) H0 (fun H0=>?_) (fun H0=>?_)
 obtain⟨r4,h5,H0⟩:=Zd H0
 refine U5 [5,15,11] (L:=[(0,_),(5,_),(1002,_)]) (s.pi [0,1,3] rfl) b Za
  (Am 5 rfl<|U2 [0,25] (Zce (m:=1002) (A:=[(pInt .i64 (1:Int))]) Zst (Zep _ _ h5) rfl rfl rfl (by decide) U1 U0 (.cons U6 .nil))<|U3) fun a g s b=>?_
 exact⟨r4,g,rfl,(s.pi [0,1,2] rfl),b,H0⟩
 exact wp_skip<|⟨r1.2,g,rfl,(s.pi [0,1,3] rfl),b,H0⟩
theorem Zhe (a0:Zh) (a1:Int) {r:Zh} (H0:Zd2 a0 a1=some r):FnB Zb0k 36 [.box Z0 a0 r,.val (pInt .i64 a1)] (pTup []):=by
 unfold Zd2 at H0
 refine Zf2 (N:=7) Tryz.func36 rfl rfl (Qe rfl) rfl rfl (fun a g0 bs hbs s b=>?_)
 obtain⟨b0,rfl⟩:=Znj hbs
 replace s:St 7 [(0,(Zbm (some b0) Z0 0 a0)),(1,(pInt .i64 a1))] _ _:=s
 replace s:St 7 [(0,(pEq (ptrB b0 0))),(1,(pInt .i64 a1)),(1002,(pRB Z0 0 b0 a0))] _ _:=Zhm s
 obtain⟨r1,h2,H0⟩:=Zd H0
 refine U5 [5,21] s b Za
  (Am 5 rfl<|Am 15 rfl<|U2 [10,25,0] (Zce (m:=1002) (A:=[(pInt .i64 a1)]) Zst (Zep _ _ h2) rfl rfl rfl (by decide) U1 U0 (.cons U7 .nil))<|U3) fun a g s b=>?_
 obtain rfl:=Oi H0
 exact Zbhb rfl s b ⟨Zkm (s.at 1 rfl),trivial⟩
theorem Zyb (a0:Zh) {r:Bool×Zh} (H0:Zlu a0=some r):FnB Zb0k 85 [.box Z0 a0 r.2] (Zbo r.1):=by
 unfold Zlu at H0
 refine Zf2 (N:=12) Tryz.func85 rfl rfl (Qe rfl) rfl rfl (fun a g0 bs hbs s b=>?_)
 obtain⟨b0,rfl⟩:=Znj hbs
 replace s:St 12 [(0,(Zbm (some b0) Z0 0 a0))] _ _:=s
 replace s:St 12 [(0,(pEq (ptrB b0 0))),(1002,(pRB Z0 0 b0 a0))] _ _:=Zhm s
 refine U4 [5,15] s b Za
  (U2 [] (Zc rfl rfl c_b)<|U3) fun a g s b=>?_
 obtain⟨r1,h2,H0⟩:=Zd H0
 refine U4 [5,20,11] s b Za
  (Am 5 rfl<|U2 [0,15] (Zce (m:=1002) (A:=[]) Zbfc (Zp1 _ h2) rfl rfl rfl (by decide) U1 U0 .nil)<|Aa 0 rfl<|U3) fun a g s b=>?_
 refine wp_seq<|U4 [5,15,10,25] s b Za
  (Am 15 rfl<|U2 [0] (Zcn rfl rfl U0 U6)<|U3) fun a g s b=>?_
 refine Zbq (fun a w=>∃(j6:Zh) (g:G),Jn 12 [(0,(pEq (ptrB b0 0))),(3,(pInt .u8 r1.1)),(1002,(pRB Z0 0 b0 j6))] a w g0 g (Zjg r1 j6=some r)) ?_ ?_
 rintro a w ⟨j6,g,rfl,s,b,H0⟩
 unfold Zjg at H0
 refine Zl<|U4 [5,20,25] s b Za
  (Am 15 rfl<|U2 [0] (Zb0 rfl rfl U0 U6)<|Aa 0 rfl<|U3) fun a g s b=>?_
 refine wp_ret ?_
 obtain rfl:=Oi H0
 exact Zgk rfl s b (Zf (s:=2)) (s.at 1 rfl) ⟨Zkm (s.at 2 rfl),trivial⟩
 refine Zs (s.bool 2 rfl) H0 (fun H0=>?_) (fun H0=>?_)
 obtain⟨r4,h5,H0⟩:=Zd H0
 refine U5 [5,15,11] (L:=[(0,_),(3,_),(1002,_)]) (s.pi [0,1,3] rfl) b Za
  (Am 5 rfl<|U2 [0,25] (Zce (m:=1002) (A:=[(pInt .i64 (4:Int))]) Zst (Zep _ _ h5) rfl rfl rfl (by decide) U1 U0 (.cons U6 .nil))<|U3) fun a g s b=>?_
 exact⟨r4,g,rfl,(s.pi [0,1,2] rfl),b,H0⟩
 exact wp_skip<|⟨r1.2,g,rfl,(s.pi [0,1,3] rfl),b,H0⟩
theorem Zr3 (a0:Zh) {r:Int×Zh} (H0:Zju a0=some r):FnB Zb0k 62 [.box Z0 a0 r.2] (pInt .i64 r.1):=by
 unfold Zju at H0
 refine Zf2 (N:=13) Tryz.func62 rfl rfl (Qe rfl) rfl rfl (fun a g0 bs hbs s b=>?_)
 obtain⟨b0,rfl⟩:=Znj hbs
 replace s:St 13 [(0,(Zbm (some b0) Z0 0 a0))] _ _:=s
 replace s:St 13 [(0,(pEq (ptrB b0 0))),(1002,(pRB Z0 0 b0 a0))] _ _:=Zhm s
 refine U4 [5,15] s b Za
  (U2 [] (Zc rfl rfl U6)<|U3) fun a g s b=>?_
 refine U4 [5,100,15] s b Za
  (Am 5 rfl<|U2 [0] (Zz rfl rfl U0)<|U2 [0] (Zbh Zxs rfl rfl U0)<|U2 [0,15] (Zd3 Z3c (fun g cs h=>Zxj h) rfl rfl U1 U0)<|U2 [0] (Zbv Zb0s rfl rfl U0)<|Am 5 rfl<|U2 [0] (Zz rfl rfl U0)<|U2 [0] (Zbh Zoi rfl rfl U0)<|U2 [0,15] (Zd3 U9 (fun g cs h=>Zra h) rfl rfl U1 U0)<|U2 [40,0] (Zei rfl rfl U0 U1 rfl)<|Aa 0 rfl<|U3) fun a g s b=>?_
 refine wp_ret ?_
 obtain rfl:=Oi H0
 exact Zgk rfl s b (Zf (s:=2)) (s.at 1 rfl) ⟨Zkm (s.at 2 rfl),trivial⟩
theorem Zot (a0:Zh) (a1:Int) {r:ByteArray×Zh} (H0:Zfg a0 a1=some r):FnB Zb0k 86 [.box Z0 a0 r.2,.val (pInt .i64 a1)] (pStr r.1):=by
 unfold Zfg at H0
 refine Zf2 (N:=50) Tryz.func86 rfl rfl (Qe rfl) rfl rfl (fun a g0 bs hbs s b=>?_)
 obtain⟨b0,rfl⟩:=Znj hbs
 replace s:St 50 [(0,(Zbm (some b0) Z0 0 a0)),(1,(pInt .i64 a1))] _ _:=s
 replace s:St 50 [(0,(pEq (ptrB b0 0))),(1,(pInt .i64 a1)),(1002,(pRB Z0 0 b0 a0))] _ _:=Zhm s
 refine U4 [5,15,25] s b Za
  (U2 [] (Zc rfl rfl c_s)<|U3) fun a g s b=>?_
 obtain⟨r1,h2,H0⟩:=Zd H0
 refine U4 [5,15,20,11] s b Za
  (Am 5 rfl<|U2 [0,25] (Zce (m:=1002) (A:=[]) Zber (Zq8 _ h2) rfl rfl rfl (by decide) U1 U0 .nil)<|Aa 0 rfl<|U3) fun a g s b=>?_
 refine wp_seq<|Zbq (fun a w=>∃(j11:Zh) (g:G),Jn 50 [(0,(pEq (ptrB b0 0))),(5,(pInt .u64 r1.1)),(1002,(pRB Z0 0 b0 j11))] a w g0 g (Zjp r1 j11=some r)) ?_ ?_
 rintro a w ⟨j11,g,rfl,s,b,H0⟩
 unfold Zjp at H0
 refine Zl<|U4 [5,15,90] s b Za
  (Am 5 rfl<|U2 [0] (Zz rfl rfl U0)<|U2 [0] (Zbh Zoi rfl rfl U0)<|U2 [0,25] (Zd3 U9 (fun g cs h=>Zra h) rfl rfl U1 U0)<|Am 15 rfl<|U2 [0] (Zek Zb0t Zb0y rfl rfl U0 rfl)<|U2 [20,0] (Zbw rfl rfl U0 U1 rfl)<|U2 [60] (Zz rfl rfl U0)<|U2 [0] (Zbh Zoi rfl rfl U0)<|U2 (outs:=[(1002,(pRB Z0 0 b0 ({j11 with at_:=(Zb0n.wrap (j11.at_+(Zb0n.wrap r1.1)))}:Zh)))]) (S:=[1]) [0,20,25] (Zry (v':=({j11 with at_:=(Zb0n.wrap (j11.at_+(Zb0n.wrap r1.1)))}:Zh)) U9 rfl rfl U7 U0 U1 (fun g cs ys h hy=>Z9e h hy))<|U3) fun a g s b=>?_
 obtain⟨c12,h13,H0⟩:=Zd H0
 refine U4 [5,170,25] s b Za
  (Am 5 rfl<|U2 [0] (Zz rfl rfl U0)<|U2 [0] (Zbh Zxs rfl rfl U0)<|U2 [0,25] (Zd3 Z3c (fun g cs h=>Zxj h) rfl rfl U1 U0)<|Am 5 rfl<|U2 [0] (Zz rfl rfl U0)<|U2 [0] (Zbh Zoi rfl rfl U0)<|U2 [0,25] (Zd3 U9 (fun g cs h=>Zra h) rfl rfl U1 U0)<|Am 15 rfl<|U2 [0] (Zek Zb0t Zb0y rfl rfl U0 rfl)<|U2 [20,0] (Zei rfl rfl U0 U1 rfl)<|Am 5 rfl<|U2 [0] (Zz rfl rfl U0)<|U2 [0] (Zbh Zoi rfl rfl U0)<|U2 [0,25] (Zd3 U9 (fun g cs h=>Zra h) rfl rfl U1 U0)<|U2 [110,40,0] (Zbb1 Zb0s sz_5 rfl rfl U0 U1 U7 h13)<|U2 [0] (Zbns Zb0s Zb02 Zb0p rfl rfl U0)<|Aa 0 rfl<|U3) fun a g s b=>?_
 refine wp_ret ?_
 obtain rfl:=Oi H0
 exact Zgk rfl s b (Zf (s:=4)) (s.at 1 rfl) ⟨Zkm (s.at 2 rfl),trivial⟩
 refine wp_block<|U4 [5,25,50,35] s b Za
  (Am 25 rfl<|Am 15 rfl<|U2 [0] (Zv5 rfl rfl U0 U6)<|U2 [0] (Zek Zb0y Zb0t rfl rfl U0 rfl)<|U2 [30,0] (Zcn rfl rfl U0 U1)<|Aa 0 rfl<|U3) fun a g s b=>?_
 refine Zs (s.bool 2 rfl) H0 (fun H0=>?_) (fun H0=>?_)
 obtain⟨r4,h5,H0⟩:=Zd H0
 refine U5 [5,15,11] (L:=[(0,_),(5,_),(1002,_)]) (s.pi [0,1,3] rfl) b Za
  (Am 5 rfl<|U2 [0,25] (Zce (m:=1002) (A:=[(pInt .i64 (3:Int))]) Zst (Zep _ _ h5) rfl rfl rfl (by decide) U1 U0 (.cons U6 .nil))<|U3) fun a g s b=>?_
 exact Zbb<|⟨r4,g,rfl,(s.pi [0,1,2] rfl),b,H0⟩
 obtain⟨r6,h7,H0⟩:=Zd H0
 refine U4 [5,15,50,21] (L:=[(0,_),(5,_),(1002,_)]) (s.pi [0,1,3] rfl) b Za
  (Am 15 rfl<|Am 5 rfl<|U2 [0,25] (Zce (m:=1002) (A:=[]) Zbmd (Zr3 _ h7) rfl rfl rfl (by decide) U1 U0 .nil)<|U2 [0] (Zek Zb0y Zb0t rfl rfl U0 rfl)<|U2 [30,0] (Zcn rfl rfl U0 U1)<|Aa 0 rfl<|U3) fun a g s b=>?_
 refine Zs (s.bool 2 rfl) H0 (fun H0=>?_) (fun H0=>?_)
 obtain⟨r9,h10,H0⟩:=Zd H0
 refine U5 [5,15,11] (L:=[(0,_),(5,_),(1002,_)]) (s.pi [0,1,3] rfl) b Za
  (Am 5 rfl<|U2 [0,25] (Zce (m:=1002) (A:=[(pInt .i64 (2:Int))]) Zst (Zep _ _ h10) rfl rfl rfl (by decide) U1 U0 (.cons U6 .nil))<|U3) fun a g s b=>?_
 exact Zbb<|⟨r9,g,rfl,(s.pi [0,1,2] rfl),b,H0⟩
 refine wp_skip<|Zbb ?_
 exact⟨r6.2,g,rfl,(s.pi [0,1,3] rfl),b,H0⟩
theorem Zoh (a0:Zh) {r:Int×Zh} (H0:Zfh a0=some r):FnB Zb0k 88 [.box Z0 a0 r.2] (pInt .i64 r.1):=by
 unfold Zfh at H0
 refine Zf2 (N:=14) Tryz.func88 rfl rfl (Qe rfl) rfl rfl (fun a g0 bs hbs s b=>?_)
 obtain⟨b0,rfl⟩:=Znj hbs
 replace s:St 14 [(0,(Zbm (some b0) Z0 0 a0))] _ _:=s
 replace s:St 14 [(0,(pEq (ptrB b0 0))),(1002,(pRB Z0 0 b0 a0))] _ _:=Zhm s
 refine U4 [5,15] s b Za
  (U2 [] (Zc rfl rfl U6)<|U3) fun a g s b=>?_
 obtain⟨r1,h2,H0⟩:=Zd H0
 refine U4 [5,20,11] s b Za
  (Am 5 rfl<|U2 [0,15] (Zce (m:=1002) (A:=[]) Zber (Zq8 _ h2) rfl rfl rfl (by decide) U1 U0 .nil)<|Aa 0 rfl<|U3) fun a g s b=>?_
 refine U4 [5,80,25] s b Za
  (Am 15 rfl<|U2 [0] (Zyi rfl rfl U0 U6 (by decide) rfl)<|U2 [0] (Zek Zb0t Zb07 rfl rfl U0 rfl)<|Am 15 rfl<|U2 [0] (Z4m rfl rfl U0 U6)<|U2 [0] (Zek Zb0t Zb07 rfl rfl U0 rfl)<|U2 [0] (Zbgi rfl rfl U0 rfl)<|U2 [40,0] (Zbi1 rfl rfl U0 U1)<|Aa 0 rfl<|U3) fun a g s b=>?_
 refine wp_ret ?_
 obtain rfl:=Oi H0
 exact Zgk rfl s b (Zf (s:=2)) (s.at 1 rfl) ⟨Zkm (s.at 2 rfl),trivial⟩
theorem Zbcz (a0:Int) {r:Nat×Bool} (H0:Zsl a0=some r):FnOk Zb0k 110 [(pInt .u64 a0)] (pTup [(pFlt r.1),(Zbo r.2)]):=by
 unfold Zsl at H0
 refine Zb9 (N:=20) Tryz.func110 rfl rfl (Qe rfl) rfl rfl (fun a g0 s b=>?_)
 refine U4 [5] s b Za
  (U2 [] (Zc rfl rfl c_f)<|U2 [] (Zc rfl rfl c_b)<|U3) fun a g s b=>?_
 refine U4 [5,20] s b Za
  (Am 5 rfl<|U2 [0] (Zbdd rfl rfl rfl U0)<|Aa 0 rfl<|U3) fun a g s b=>?_
 refine wp_seq<|U4 [5,15,20] s b Za
  (Am 5 rfl<|U2 [0] (Z4m rfl rfl U0 U6)<|U2 [0] (Zcv rfl rfl U0 U6)<|U3) fun a g s b=>?_
 refine Zbq (fun a w=>∃(j2:Int) (g:G),Jn 20 [(0,(pInt .u64 a0)),(4,(pInt .u64 j2))] a w g0 g (Zo1 a0 j2=some r)) ?_ ?_
 rintro a w ⟨j2,g,rfl,s,b,H0⟩
 unfold Zo1 at H0
 refine Zl<|U4 [5,20] s b Za
  (Am 15 rfl<|U2 [0] (Zss Z4i rfl rfl U0)<|Aa 0 rfl<|U3) fun a g s b=>?_
 refine wp_seq ?_
 obtain⟨r3,h4,H0⟩:=Zd H0
 refine U4 [15,30] s b Za
  (Am 15 rfl<|U2 [0] (Zt Zww (Zql _ h4) rfl rfl (.cons U0 .nil))<|Am 5 rfl<|U2 [10,0] (Zcv rfl rfl U0 U1)<|U3) fun a g s b=>?_
 refine Zs (s.bool 1 rfl) H0 (fun H0=>?_) (fun H0=>?_)
 refine U4 [0,10] (L:=[]) (s.pi [] rfl) b Za
  (U2 [] (Zc rfl rfl c_f)<|U2 [] (Zc rfl rfl c_b)<|U3) fun a g s b=>?_
 refine wp_ret<|Zp ?_
 obtain rfl:=Oi H0
 exact Zdq rfl s b (Zf (s:=2)) (Zf (s:=3)) (Zcr (s.at 0 rfl) (s.at 1 rfl))
 refine wp_skip<|Zl ?_
 refine U4 [10,20] (L:=[(5,_)]) (s.pi [0] rfl) b Za
  (Am 5 rfl<|Aa 0 rfl<|U2 [] (Zc rfl rfl c_b)<|U3) fun a g s b=>?_
 refine wp_ret ?_
 obtain rfl:=Oi H0
 exact Zdq rfl s b (Zf (s:=2)) (Zf (s:=3)) (Zcr (s.at 0 rfl) (s.at 1 rfl))
 refine Zs (s.bool 2 rfl) H0 (fun H0=>?_) (fun H0=>?_)
 refine U5 [5,20] (L:=[(0,_)]) (s.pi [0] rfl) b Za
  (Am 5 rfl<|U2 [0] (Zbjc rfl rfl U0 U6)<|Aa 0 rfl<|U3) fun a g s b=>?_
 exact⟨(Zv9 .u64 a0 (9223372036854775808:Int)),g,rfl,(s.pi [0,1] rfl),b,H0⟩
 exact wp_skip<|⟨(bXor .u64 Zb00.max a0),g,rfl,(s.pi [0,1] rfl),b,H0⟩
theorem Zrc (a0:Zh) {r:Nat×Zh} (H0:Zht a0=some r):FnB Zb0k 89 [.box Z0 a0 r.2] (pFlt r.1):=by
 unfold Zht at H0
 refine Zf2 (N:=25) Tryz.func89 rfl rfl (Qe rfl) rfl rfl (fun a g0 bs hbs s b=>?_)
 obtain⟨b0,rfl⟩:=Znj hbs
 replace s:St 25 [(0,(Zbm (some b0) Z0 0 a0))] _ _:=s
 replace s:St 25 [(0,(pEq (ptrB b0 0))),(1002,(pRB Z0 0 b0 a0))] _ _:=Zhm s
 refine U4 [5,15] s b Za
  (U2 [] (Zc rfl rfl c_f)<|U3) fun a g s b=>?_
 refine U4 [5,0,15] s b Za
  (U2 [] (Zc rfl rfl U6)<|U3) fun a g s b=>?_
 refine wp_seq<|U4 [5,15,0,25] s b Za
  (U2 [] (Zx rfl rfl U6)<|U3) fun a g s b=>?_
 obtain⟨z9,hz1,H0⟩:=Zd H0
 refine Zbq (fun a w=>∃(y7:Int) (y8:Zh) (g:G),Jn 25 [(0,(pEq (ptrB b0 0))),(3,(pInt .u64 y7)),(1002,(pRB Z0 0 b0 y8))] a w g0 g ((y7,y8)=z9)) ?_ ?_
 ·rintro a w ⟨y7,y8,g,rfl,s,b,rfl⟩
  refine Zl ?_
  obtain⟨r10,h11,H0⟩:=Zd H0
  refine U4 [5,50,60,25] s b Za
   (Am 15 rfl<|U2 [0] (Zt Zbpu (Zbcz _ h11) rfl rfl (.cons U0 .nil))<|Am 0 rfl<|U2 [0] (Z7 rfl rfl U0 rfl)<|U2 [10] (Z7 rfl rfl U0 rfl)<|Aa 10 rfl<|Aa 10 rfl<|U3) fun a g s b=>?_
  refine wp_seq<|U4 [5,15,10,35] s b Za
   (Am 25 rfl<|U2 [0] (Zct rfl rfl U0)<|U3) fun a g s b=>?_
  refine Zbq (fun a w=>∃(j15:Zh) (g:G),Jn 25 [(0,(pEq (ptrB b0 0))),(4,(pFlt r10.1)),(1002,(pRB Z0 0 b0 j15))] a w g0 g (Zlw r10 j15=some r)) ?_ ?_
  ·rintro a w ⟨j15,g,rfl,s,b,H0⟩
   unfold Zlw at H0
   refine Zl<|U4 [5,10,25] s b Za
    (Am 15 rfl<|Aa 0 rfl<|U3) fun a g s b=>?_
   refine wp_ret ?_
   obtain rfl:=Oi H0
   exact Zgk rfl s b (Zf (s:=2)) (s.at 1 rfl) ⟨Zkm (s.at 2 rfl),trivial⟩
  ·refine Zs (s.bool 2 rfl) H0 (fun H0=>?_) (fun H0=>?_)
   ·obtain⟨r13,h14,H0⟩:=Zd H0
    refine U5 [5,15,11] (L:=[(0,_),(4,_),(1002,_)]) (s.pi [0,1,3] rfl) b Za
     (Am 5 rfl<|U2 [0,25] (Zce (m:=1002) (A:=[(pInt .i64 (4:Int))]) Zst (Zep _ _ h14) rfl rfl rfl (by decide) U1 U0 (.cons U6 .nil))<|U3) fun a g s b=>?_
    exact⟨r13,g,rfl,(s.pi [0,1,2] rfl),b,H0⟩
   ·exact wp_skip<|⟨y8,g,rfl,(s.pi [0,1,3] rfl),b,H0⟩
 ·refine wp_block<|wp_loop_ghost (fun n a w=>∃(x1:Int) (x2:Int) (x3:Zh) (g:G),Jn 25 [(0,(pEq (ptrB b0 0))),(3,(pInt .u64 x1)),(6,(pInt .i64 x2)),(1002,(pRB Z0 0 b0 x3))] a w g0 g (Zhs n x1 x2 x3=some z9)) (Zb0q ((8:Int)-(0:Int))+1) ⟨(0:Int),(0:Int),a0,g,rfl,(s.pi [0,1,2,3] rfl),b,hz1⟩ (fun n a w hI=>?_)
  obtain⟨x1,x2,x3,g,rfl,s,b,H1⟩:=hI
  cases n with
  | zero=>exact absurd H1 (by simp[Zhs])
  | succ n =>
   rw[Zhs]at H1
   refine U4 [5,15,25,0,35] s b Za
    (U2 [25] (Zcj rfl rfl U0 U6)<|U3) fun a g s b=>?_
   refine wp_seq<|Zs (s.bool 3 rfl) H1 (fun H1=>?_) (fun H1=>?_)
   ·refine wp_skip<|Zl ?_
    refine wp_seq<|wp_block ?_
    obtain⟨r5,h6,H1⟩:=Zd H1
    refine U5 [5,60,25,31] (L:=[(0,_),(3,_),(6,_),(1002,_)]) (s.pi [0,1,2,4] rfl) b Za
     (Am 15 rfl<|U2 [0] (Z8t rfl rfl U0 U6 (by decide) rfl)<|Am 5 rfl<|U2 [0,35] (Zce (m:=1002) (A:=[]) Zbfc (Zp1 _ h6) rfl rfl rfl (by decide) U1 U0 .nil)<|U2 [0] (Zek Zb02 Zb0t rfl rfl U0 rfl)<|U2 [30,0] (Z7x rfl rfl U0 U1)<|Aa 0 rfl<|U3) fun a g s b=>?_
    refine Zbb<|Zl ?_
    refine U5 [5,15,10,35] s b Za
     (U2 [25] (Zbw rfl rfl U0 U6 rfl)<|Am 0 rfl<|U3) fun a g s b=>?_
    exact⟨n,Zb0o _,(bOr .u64 (Zb00.wrap (x1*2^8)) (Zb00.wrap r5.1)),(Zb0n.wrap (x2+(1:Int))),r5.2,g,rfl,(s.pi [0,1,2,3] rfl),b,H1⟩
   ·refine wp_exit<|Zbx ?_
    refine Zbx<|Zcg ?_
    exact⟨x1,x3,g,rfl,(s.pi [0,1,4] rfl),b,Oi H1⟩
set_option maxHeartbeats 1000000 in
theorem Zbc0 (a0:Zh) {r:Zb×Zh} (H0:Zsk a0=some r):FnB Zb0k 91 [.box Z0 a0 r.2] (Zg.pd r.1):=by
 unfold Zsk at H0
 refine Zf2 (N:=74) Tryz.func91 rfl rfl (Qe rfl) rfl rfl (fun a g0 bs hbs s b=>?_)
 obtain⟨b0,rfl⟩:=Znj hbs
 replace s:St 74 [(0,(Zbm (some b0) Z0 0 a0))] _ _:=s
 replace s:St 74 [(0,(pEq (ptrB b0 0))),(1002,(pRB Z0 0 b0 a0))] _ _:=Zhm s
 refine U4 [5,0,15] s b Za
  (U2 [] (Ziv 2 rfl rfl)<|U3) fun a g s b=>?_
 refine U4 [5,15,0,25] s b Za
  (U2 (outs:=[(3,(Zda none Zb5 Zcc (hpL (pRow Zy 139 503 ((default:Zb).List))) 3 (default:Zb)))]) (S:=[4]) [] (Ztj (R:=hpL (pRow Zy 139 503 ((default:Zb).List))) (zs:=[.int .i64 0,.int .i64 0,.int .i64 0,.int .i64 0,.float .f64 0,.int .i64 0,.string ByteArray.empty,.slice none 0 0]) (none,0,0) (by kernel_rfl) Z3q (fun g=>Zj1 503 g) rfl rfl)<|U3) fun a g s b=>?_
 refine wp_seq ?_
 obtain⟨r1,h2,H0⟩:=Zd H0
 refine U4 [5,15,30,11] s b Za
  (Am 5 rfl<|U2 [0,35] (Zce (m:=1002) (A:=[(pInt .i64 (9:Int))]) Zw6 (Zhd _ _ h2) rfl rfl rfl (by decide) U1 U0 (.cons U6 .nil))<|U2 [25] (Zid Zvi (off:=0) (by kernel_rfl) (fun _=>rfl) rfl rfl U0)<|U2 [10,0,25] (Zn5 (x':=({(default:Zb)with Kind:=r1.1}:Zb)) U9 rfl rfl (fun k hk=>by rw[Zb0m.1 hk];decide) U7 U1 U0 (fun g cs s0 ys h k=>Z0q h k))<|U3) fun a g s b=>?_
 refine U4 [5,15,25,20,35] s b Za
  (U2 [25] (Zid Zvi (off:=0) (by kernel_rfl) (fun _=>rfl) rfl rfl U0)<|U2 [0] (Zxb U9 rfl rfl U0)<|U2 [0] (Zb0 rfl rfl U0 U6)<|U3) fun a g s b=>?_
 refine Zbq (fun a w=>∃(j6:Zh) (g:G),Jn 74 [(0,(pEq (ptrB b0 0))),(2,(pBox Zg 2 (default:Zb))),(3,(Zda none Zb5 Zcc (hpL (pRow Zy 139 503 (({(default:Zb)with Kind:=r1.1}:Zb).List))) 3 ({(default:Zb)with Kind:=r1.1}:Zb))),(1002,(pRB Z0 0 b0 j6))] a w g0 g (Zm9 r1 j6=some r)) ?_ ?_
 ·rintro a w ⟨j6,g,rfl,s,b,H0⟩
  unfold Zm9 at H0
  refine Zl ?_
  obtain⟨r7,h8,H0⟩:=Zd H0
  refine U4 [5,15,25,40,35] s b Za
   (U2 [25] (Zid Zvi (off:=0) (by kernel_rfl) (fun _=>rfl) rfl rfl U0)<|U2 [0] (Zxb U9 rfl rfl U0)<|U2 [0] (Zt Z92 (Zto _ h8) rfl rfl (.cons U0 .nil))<|U2 [] (Z3f 4 rfl rfl)<|U2 [10,0] (Zci Zk5 rfl rfl U1 U0)<|U3) fun a g s b=>?_
  refine wp_seq<|U4 [5,15,25,35,10,45] s b Za
   (Af Z2i 35 rfl<|Al ty_4 0 rfl<|U3) fun a g s b=>?_
  refine Zbq (fun a w=>∃(j12:Zb) (j13:Zh) (g:G),Jn 74 [(0,(pEq (ptrB b0 0))),(2,(pBox Zg 2 (default:Zb))),(3,(Zda none Zb5 Zcc (hpL (pRow Zy 139 503 j12.List)) 3 j12)),(4,(Zc4.ptr r7)),(1002,(pRB Z0 0 b0 j13))] a w g0 g (Znb r7 j12 j13=some r)) ?_ ?_
  ·rintro a w ⟨j12,j13,g,rfl,s,b,H0⟩
   unfold Znb at H0
   refine Zl<|wp_seq ?_
   refine U4 [5,15,25,35,10,45] s b Za
    (Af Zx0 35 rfl<|Al ty_4 0 rfl<|U3) fun a g s b=>?_
   refine Zbq (fun a w=>∃(j19:Zb) (j20:Zh) (g:G),Jn 74 [(0,(pEq (ptrB b0 0))),(2,(pBox Zg 2 (default:Zb))),(3,(Zda none Zb5 Zcc (hpL (pRow Zy 139 503 j19.List)) 3 j19)),(4,(Zc4.ptr r7)),(1002,(pRB Z0 0 b0 j20))] a w g0 g (Zld r7 j19 j20=some r)) ?_ ?_
   ·rintro a w ⟨j19,j20,g,rfl,s,b,H0⟩
    unfold Zld at H0
    refine Zl<|wp_seq ?_
    refine U4 [5,15,25,35,10,45] s b Za
     (Af Z1x 35 rfl<|Al ty_4 0 rfl<|U3) fun a g s b=>?_
    refine Zbq (fun a w=>∃(j24:Zb) (j25:Zh) (g:G),Jn 74 [(0,(pEq (ptrB b0 0))),(2,(pBox Zg 2 (default:Zb))),(3,(Zda none Zb5 Zcc (hpL (pRow Zy 139 503 j24.List)) 3 j24)),(4,(Zc4.ptr r7)),(1002,(pRB Z0 0 b0 j25))] a w g0 g (Zo9 r7 j24 j25=some r)) ?_ ?_
    ·rintro a w ⟨j24,j25,g,rfl,s,b,H0⟩
     unfold Zo9 at H0
     refine Zl<|wp_seq ?_
     refine U4 [5,15,25,35,10,45] s b Za
      (Af Z16 35 rfl<|Al ty_4 0 rfl<|U3) fun a g s b=>?_
     refine Zbq (fun a w=>∃(j29:Zb) (j30:Zh) (g:G),Jn 74 [(0,(pEq (ptrB b0 0))),(2,(pBox Zg 2 (default:Zb))),(3,(Zda none Zb5 Zcc (hpL (pRow Zy 139 503 j29.List)) 3 j29)),(4,(Zc4.ptr r7)),(1002,(pRB Z0 0 b0 j30))] a w g0 g (Zo5 r7 j29 j30=some r)) ?_ ?_
     ·rintro a w ⟨j29,j30,g,rfl,s,b,H0⟩
      unfold Zo5 at H0
      refine Zl<|wp_seq ?_
      refine U4 [5,15,25,10,45] s b Za
       (Af Zxe 35 rfl<|Al ty_4 0 rfl<|U3) fun a g s b=>?_
      refine Zbq (fun a w=>∃(j51:Zb) (j52:Zh) (g:G),Jn 74 [(0,(pEq (ptrB b0 0))),(2,(pBox Zg 2 (default:Zb))),(3,(Zda none Zb5 Zcc (hpL (pRow Zy 139 503 j51.List)) 3 j51)),(1002,(pRB Z0 0 b0 j52))] a w g0 g (Zle j51 j52=some r)) ?_ ?_
      ·rintro a w ⟨j51,j52,g,rfl,s,b,H0⟩
       unfold Zle at H0
       refine Zl<|wp_seq ?_
       obtain⟨r53,h54,H0⟩:=Zd H0
       refine U4 [5,15,25,20,35] s b Za
        (U2 [25] (Zsn Zvn Zbd rfl rfl U0)<|U2 [0] (Zt Z77 (Zrw _ h54) rfl rfl (.cons U0 .nil))<|Aa 0 rfl<|U3) fun a g s b=>?_
       refine U4 [5,15,25,35,10,45] s b Za
        (Am 35 rfl<|U2 [0] (Zcv rfl rfl U0 U6)<|U3) fun a g s b=>?_
       refine Zbq (fun a w=>∃(j58:Zh) (g:G),Jn 74 [(0,(pEq (ptrB b0 0))),(2,(pBox Zg 2 (default:Zb))),(3,(Zda none Zb5 Zcc (hpL (pRow Zy 139 503 j51.List)) 3 j51)),(1002,(pRB Z0 0 b0 j58))] a w g0 g (Zsp j51 j58=some r)) ?_ ?_
       ·rintro a w ⟨j58,g,rfl,s,b,H0⟩
        unfold Zsp at H0
        refine Zl<|U4 [5,10,35] s b Za
         (U2 [25] (Zsn Zvn Zbd rfl rfl U0)<|U2 [0,15] (Z9 Zbd rfl rfl U1 U0)<|U3) fun a g s b=>?_
        refine wp_ret ?_
        obtain rfl:=Oi H0
        obtain⟨u0,hu0,hq0⟩:=Zbi (P:=Zb0k) Zbd (s.at 1 rfl)
        exact Zgk rfl s b hu0 hq0 ⟨Zkm (s.at 2 rfl),trivial⟩
       ·refine Zs (s.bool 4 rfl) H0 (fun H0=>?_) (fun H0=>?_)
        ·obtain⟨r56,h57,H0⟩:=Zd H0
         refine U5 [5,15,25,21] (L:=[(0,_),(2,_),(3,_),(6,_),(1002,_)]) (s.pi [0,1,2,3,5] rfl) b Za
          (Am 5 rfl<|Am 35 rfl<|U2 [10,45,0] (Zce (m:=1002) (A:=[(pInt .i64 r53)]) Zxi (Zhe _ _ h57) rfl rfl rfl (by decide) U1 U0 (.cons U7 .nil))<|U3) fun a g s b=>?_
         exact⟨r56,g,rfl,(s.pi [0,1,2,3] rfl),b,H0⟩
        ·exact wp_skip<|⟨j52,g,rfl,(s.pi [0,1,2,5] rfl),b,H0⟩
      ·refine Zs (s.bool 3 rfl) H0 (fun H0=>?_) (fun H0=>?_)
       ·obtain⟨r32,h33,H0⟩:=Zd H0
        refine U4 [5,15,30,11] (L:=[(0,_),(2,_),(3,_),(1002,_)]) (s.pi [0,1,2,4] rfl) b Za
         (Am 5 rfl<|U2 [0,35] (Zce (m:=1002) (A:=[(pInt .i64 (32:Int))]) Zw6 (Zhd _ _ h33) rfl rfl rfl (by decide) U1 U0 (.cons U6 .nil))<|U2 [25] (Zid Zbhv (off:=5) (by kernel_rfl) (fun _=>rfl) rfl rfl U0)<|U2 [10,0,25] (Zn5 (x':=({j29 with Cap:=r32.1}:Zb)) U9 rfl rfl (fun k hk=>by rw[Zb0m.1 hk];decide) U7 U1 U0 (fun g cs s0 ys h k=>Z04 h k))<|U3) fun a g s b=>?_
        obtain⟨r34,h35,H0⟩:=Zd H0
        refine U4 [5,15,25,10,20,11] s b Za
         (Am 5 rfl<|U2 [0,35] (Zce (m:=1002) (A:=[(pInt .i64 (32:Int))]) Zw6 (Zhd _ _ h35) rfl rfl rfl (by decide) U1 U0 (.cons U6 .nil))<|U2 [] (Zx rfl rfl U6)<|U3) fun a g s b=>?_
        obtain⟨z50,hz1,H0⟩:=Zd H0
        refine Zbq (fun a w=>∃(y48:Zb) (y49:Zh) (g:G),Jn 74 [(0,(pEq (ptrB b0 0))),(2,(pBox Zg 2 (default:Zb))),(3,(Zda none Zb5 Zcc (hpL (pRow Zy 139 503 y48.List)) 3 y48)),(1002,(pRB Z0 0 b0 y49))] a w g0 g ((y48,y49)=z50)) ?_ ?_
        ·rintro a w ⟨y48,y49,g,rfl,s,b,rfl⟩
         exact⟨y48,y49,g,rfl,(s.pi [0,1,2,3] rfl),b,H0⟩
        ·refine wp_block<|wp_loop_ghost (fun n a w=>∃(x36:Zb) (x37:Int) (x38:Zh) (g:G),Jn 74 [(0,(pEq (ptrB b0 0))),(2,(pBox Zg 2 (default:Zb))),(3,(Zda none Zb5 Zcc (hpL (pRow Zy 139 503 x36.List)) 3 x36)),(47,(pInt .i64 r34.1)),(48,(pInt .i64 x37)),(1002,(pRB Z0 0 b0 x38))] a w g0 g (Zg5 r34 n x36 x37 x38=some z50)) (Zb0q (r34.1-(0:Int))+1) ⟨({j29 with Cap:=r32.1}:Zb),(0:Int),r34.2,g,rfl,(s.pi [0,1,2,3,4,5] rfl),b,hz1⟩ (fun n a w hI=>?_)
         obtain⟨x36,x37,x38,g,rfl,s,b,H1⟩:=hI
         cases n with
         | zero=>exact absurd H1 (by simp[Zg5])
         | succ n =>
          rw[Zg5]at H1
          refine U4 [5,15,25,35,45,0,55] s b Za
           (U2 [45,35] (Zcj rfl rfl U0 U1)<|U3) fun a g s b=>?_
          refine wp_seq<|Zs (s.bool 5 rfl) H1 (fun H1=>?_) (fun H1=>?_)
          ·refine wp_skip<|Zl ?_
           refine wp_seq<|wp_block ?_
           refine U4 [5,15,25,0,35,45,55] (L:=[(0,_),(2,_),(3,_),(47,_),(48,_),(1002,_)]) (s.pi [0,1,2,3,4,6] rfl) b Za
            (U2 [] (Zs1 5 rfl rfl)<|U3) fun a g s b=>?_
           refine wp_seq<|U4 [5,15,25,35,45,55,20,65] s b Za
            (U2 [25] (Zid Zvi (off:=0) (by kernel_rfl) (fun _=>rfl) rfl rfl U0)<|U2 [0] (Zxb U9 rfl rfl U0)<|U2 [0] (Zb0 rfl rfl U0 U6)<|U3) fun a g s b=>?_
           refine Zbq (fun a w=>∃(j43:Zn) (j44:Zh) (g:G),Jn 74 [(0,(pEq (ptrB b0 0))),(2,(pBox Zg 2 (default:Zb))),(3,(Zda none Zb5 Zcc (hpL (pRow Zy 139 503 x36.List)) 3 x36)),(5,(pBox Zy 5 j43)),(47,(pInt .i64 r34.1)),(48,(pInt .i64 x37)),(1002,(pRB Z0 0 b0 j44))] a w g0 g (Zna x36 x37 (Zg5 r34 n) j43 j44=some z50)) ?_ ?_
           ·rintro a w ⟨j43,j44,g,rfl,s,b,H1⟩
            unfold Zna at H1
            refine Zl ?_
            obtain⟨r45,h46,H1⟩:=Zd H1
            refine U4 [5,15,25,30,45,55,11] s b Za
             (Am 5 rfl<|U2 [0,65] (Zce (m:=1002) (A:=[(pInt .i64 (16:Int))]) Z78 (Zot _ _ h46) rfl rfl rfl (by decide) U1 U0 (.cons U6 .nil))<|U2 [35] (Zv Zeq (off:=1) (by kernel_rfl) rfl rfl U0)<|U2 [10,0,35] (Zbkg V0 rfl rfl U7 U1 U0)<|U3) fun a g s b=>?_
            obtain⟨h47,H1⟩:=Zdr H1
            refine U5 [5,15,60,45,55,65] s b Za
             (U2 [25] (Zmo Z6f (off:=7) (q:=(pRow Zy 139 503 x36.List)) (by kernel_rfl) (pr:=id) (fun _=>rfl) (fun _ _ h=>h) rfl rfl U0)<|U2 [0] (Zuy Zbhd rfl rfl U0)<|AM Zev 35 rfl<|U2 [0] (Zgm Zd4 (xs:=[.tmp 61]) (.cons U0 .nil) (by decide) rfl rfl)<|U2 (outs:=[(3,(Zda none Zb5 Zcc hpT 3 x36)),(63,(pRow Zy 139 503 (x36.List++([({j43 with Name:=r45.1})]:List Zn))))]) (S:=[504]) [20,0,25] (OB.frameU (Zdg Zd4 rfl rfl U0 U1 h47) (Opd.imp U7 (fun _ _ h=>Z35 h)) (fun k hk hS=>Z7y (Zb0m.1 hk) (Zb0m.1 hS) (by decide)) (fun h=>by cases h))<|U2 [0] (Zmo Z6f (off:=7) (q:=pAny) (by kernel_rfl) (pr:=id) (fun _=>rfl) (fun _ _ _=>trivial) rfl rfl U0)<|U2 [11,0,10] (Zvm (x':=({x36 with List:=(x36.List++([({j43 with Name:=r45.1})]:List Zn))}:Zb)) (R2:=hpL (pRow Zy 139 503 (({x36 with List:=(x36.List++([({j43 with Name:=r45.1})]:List Zn))}:Zb).List))) (upd:=fun _ s2=>s2) Zbhd rfl rfl (fun _ _ h=>Zlj h) (fun k hk=>by rw[Zb0m.1 hk];decide) (fun k hk=>by cases hk) U7 (fun a g hh=>Zz8 (U1 a g hh)) U0 (fun _ _ _ _ h=>h) (fun g cs s0 s1 ys h k=>Z3o h k))<|U3) fun a g s b=>?_
            refine Zbb<|Zl ?_
            refine U5 [5,15,25,35,10,55] s b Za
             (U2 [45] (Zbw rfl rfl U0 U6 rfl)<|Am 0 rfl<|U3) fun a g s b=>?_
            exact⟨n,Zb0o _,({x36 with List:=(x36.List++([({j43 with Name:=r45.1})]:List Zn))}:Zb),(Zb0n.wrap (x37+(1:Int))),r45.2,g,rfl,(s.pi [0,1,2,3,4,5] rfl),b,H1⟩
           ·refine Zs (s.bool 6 rfl) H1 (fun H1=>?_) (fun H1=>?_)
            ·obtain⟨r41,h42,H1⟩:=Zd H1
             refine U5 [5,15,25,30,45,55,11] (L:=[(0,_),(2,_),(3,_),(5,_),(47,_),(48,_),(1002,_)]) (s.pi [0,1,2,3,4,5,7] rfl) b Za
              (Am 5 rfl<|U2 [0,65] (Zce (m:=1002) (A:=[]) Zbeq (Zrc _ h42) rfl rfl rfl (by decide) U1 U0 .nil)<|U2 [35] (Zv Zgd (off:=0) (by kernel_rfl) rfl rfl U0)<|U2 [10,0,35] (Zbla Zdk rfl rfl U7 U1 U0)<|U3) fun a g s b=>?_
             refine⟨_,_,g,rfl,?_,b,H1⟩
             exact (s.pi [0,1,2,3,4,5,6] rfl)
            ·exact wp_skip<|⟨(default:Zn),x38,g,rfl,(s.pi [0,1,2,3,4,5,7] rfl),b,H1⟩
          ·refine wp_exit<|Zbx ?_
           refine Zbx<|Zcg ?_
           exact⟨x36,x38,g,rfl,(s.pi [0,1,2,6] rfl),b,Oi H1⟩
       ·exact wp_skip<|⟨j29,j30,g,rfl,(s.pi [0,1,2,4] rfl),b,H0⟩
     ·refine Zs (s.bool 4 rfl) H0 (fun H0=>?_) (fun H0=>?_)
      ·obtain⟨r27,h28,H0⟩:=Zd H0
       refine U5 [5,15,30,35,11] (L:=[(0,_),(2,_),(3,_),(4,_),(1002,_)]) (s.pi [0,1,2,3,5] rfl) b Za
        (Am 5 rfl<|U2 [0,45] (Zce (m:=1002) (A:=[]) Zbeq (Zrc _ h28) rfl rfl rfl (by decide) U1 U0 .nil)<|U2 [25] (Zid Zbh1 (off:=4) (by kernel_rfl) (fun _=>rfl) rfl rfl U0)<|U2 [10,0,25] (Zn5 (x':=({j24 with Real:=r27.1}:Zb)) Zdk rfl rfl (fun k hk=>by rw[Zb0m.1 hk];decide) U7 U1 U0 (fun g cs s0 ys h k=>Z0w h k))<|U3) fun a g s b=>?_
       refine⟨_,_,g,rfl,?_,b,H0⟩
       exact (s.pi [0,1,2,3,4] rfl)
      ·exact wp_skip<|⟨j24,j25,g,rfl,(s.pi [0,1,2,3,5] rfl),b,H0⟩
    ·refine Zs (s.bool 4 rfl) H0 (fun H0=>?_) (fun H0=>?_)
     ·obtain⟨r22,h23,H0⟩:=Zd H0
      refine U5 [5,15,30,35,11] (L:=[(0,_),(2,_),(3,_),(4,_),(1002,_)]) (s.pi [0,1,2,3,5] rfl) b Za
       (Am 5 rfl<|U2 [0,45] (Zce (m:=1002) (A:=[]) Z7p (Zoh _ h23) rfl rfl rfl (by decide) U1 U0 .nil)<|U2 [25] (Zid Zbhn (off:=1) (by kernel_rfl) (fun _=>rfl) rfl rfl U0)<|U2 [10,0,25] (Zn5 (x':=({j19 with Num:=r22.1}:Zb)) U8 rfl rfl (fun k hk=>by rw[Zb0m.1 hk];decide) U7 U1 U0 (fun g cs s0 ys h k=>Z0x h k))<|U3) fun a g s b=>?_
      refine⟨_,_,g,rfl,?_,b,H0⟩
      exact (s.pi [0,1,2,3,4] rfl)
     ·exact wp_skip<|⟨j19,j20,g,rfl,(s.pi [0,1,2,3,5] rfl),b,H0⟩
   ·refine Zs (s.bool 4 rfl) H0 (fun H0=>?_) (fun H0=>?_)
    ·obtain⟨r15,h16,H0⟩:=Zd H0;obtain⟨r17,h18,H0⟩:=Zd H0
     refine U5 [5,15,70,35,31] (L:=[(0,_),(2,_),(3,_),(4,_),(1002,_)]) (s.pi [0,1,2,3,5] rfl) b Za
      (Am 5 rfl<|U2 [0,45] (Zce (m:=1002) (A:=[]) Z7p (Zoh _ h16) rfl rfl rfl (by decide) U1 U0 .nil)<|Am 5 rfl<|U2 [0,11] (Zce (m:=1002) (A:=[]) Z7p (Zoh _ h18) rfl rfl rfl (by decide) U1 U0 .nil)<|U2 [25] (Zid Zbhc (off:=2) (by kernel_rfl) (fun _=>rfl) rfl rfl U0)<|U2 [30,0,25] (Zn5 (x':=({j12 with Low:=r15.1}:Zb)) U8 rfl rfl (fun k hk=>by rw[Zb0m.1 hk];decide) U7 U1 U0 (fun g cs s0 ys h k=>Z1c h k))<|U2 [0] (Zid Zbh8 (off:=3) (by kernel_rfl) (fun _=>rfl) rfl rfl U0)<|U2 [30,0,10] (Zn5 (x':=({({j12 with Low:=r15.1}:Zb)with High:=r17.1}:Zb)) U8 rfl rfl (fun k hk=>by rw[Zb0m.1 hk];decide) U7 U1 U0 (fun g cs s0 ys h k=>Z0p h k))<|U3) fun a g s b=>?_
     refine⟨_,_,g,rfl,?_,b,H0⟩
     exact (s.pi [0,1,2,3,4] rfl)
    ·exact wp_skip<|⟨j12,j13,g,rfl,(s.pi [0,1,2,3,5] rfl),b,H0⟩
  ·refine Zs (s.bool 4 rfl) H0 (fun H0=>?_) (fun H0=>?_)
   ·obtain⟨r10,h11,H0⟩:=Zd H0
    refine U5 [5,15,30,35,11] (L:=[(0,_),(2,_),(3,_),(4,_),(1002,_)]) (s.pi [0,1,2,3,5] rfl) b Za
     (Am 5 rfl<|U2 [0,45] (Zce (m:=1002) (A:=[(pInt .i64 (64:Int))]) Z78 (Zot _ _ h11) rfl rfl rfl (by decide) U1 U0 (.cons U6 .nil))<|U2 [25] (Zid Zbi8 (off:=6) (by kernel_rfl) (fun _=>rfl) rfl rfl U0)<|U2 [10,0,25] (Zn5 (x':=({({(default:Zb)with Kind:=r1.1}:Zb)with Text:=r10.1}:Zb)) V0 rfl rfl (fun k hk=>by rw[Zb0m.1 hk];decide) U7 U1 U0 (fun g cs s0 ys h k=>Z02 h k))<|U3) fun a g s b=>?_
    refine⟨_,_,g,rfl,?_,b,H0⟩
    exact (s.pi [0,1,2,3,4] rfl)
   ·refine wp_skip<|⟨_,_,g,rfl,?_,b,H0⟩
    exact (s.pi [0,1,2,3,5] rfl)
 ·refine Zs (s.bool 3 rfl) H0 (fun H0=>?_) (fun H0=>?_)
  ·obtain⟨r4,h5,H0⟩:=Zd H0
   refine U5 [5,15,25,11] (L:=[(0,_),(2,_),(3,_),(1002,_)]) (s.pi [0,1,2,4] rfl) b Za
    (Am 5 rfl<|U2 [0,35] (Zce (m:=1002) (A:=[(pInt .i64 (5:Int))]) Zxi (Zhe _ _ h5) rfl rfl rfl (by decide) U1 U0 (.cons U6 .nil))<|U3) fun a g s b=>?_
   exact⟨r4,g,rfl,(s.pi [0,1,2,3] rfl),b,H0⟩
  ·exact wp_skip<|⟨r1.2,g,rfl,(s.pi [0,1,2,4] rfl),b,H0⟩
set_option maxHeartbeats 1000000 in
theorem Zbch (a0:Zh) {r:Zw×Zh} (H0:Zuh a0=some r):FnB Zb0k 61 [.box Z0 a0 r.2] (Z6.pd r.1):=by
 unfold Zuh at H0
 refine Zf2 (N:=53) Tryz.func61 rfl rfl (Qe rfl) rfl rfl (fun a g0 bs hbs s b=>?_)
 obtain⟨b0,rfl⟩:=Znj hbs
 replace s:St 53 [(0,(Zbm (some b0) Z0 0 a0))] _ _:=s
 replace s:St 53 [(0,(pEq (ptrB b0 0))),(1002,(pRB Z0 0 b0 a0))] _ _:=Zhm s
 refine U4 [5,0,15] s b Za
  (U2 [] (Zwg 2 rfl rfl)<|U3) fun a g s b=>?_
 refine U4 [5,15,0,25] s b Za
  (U2 [] (Zwg 3 rfl rfl)<|U3) fun a g s b=>?_
 refine wp_seq ?_
 obtain⟨r1,h2,H0⟩:=Zd H0
 refine U4 [5,15,30,11] s b Za
  (Am 5 rfl<|U2 [0,35] (Zce (m:=1002) (A:=[(pInt .i64 (21:Int))]) Zw6 (Zhd _ _ h2) rfl rfl rfl (by decide) U1 U0 (.cons U6 .nil))<|U2 [25] (Zv Zdh (off:=0) (by kernel_rfl) rfl rfl U0)<|U2 [10,0,25] (Zbk5 U9 rfl rfl U7 U1 U0)<|U3) fun a g s b=>?_
 refine U4 [5,15,25,20,35] s b Za
  (U2 [25] (Zv Zdh (off:=0) (by kernel_rfl) rfl rfl U0)<|AP U9 0 rfl<|U2 [0] (Zb0 rfl rfl U0 U6)<|U3) fun a g s b=>?_
 refine Zbq (fun a w=>∃(j6:Zh) (g:G),Jn 53 [(0,(pEq (ptrB b0 0))),(2,(pBox Z6 2 (default:Zw))),(3,(pBox Z6 3 ({(default:Zw)with Kind:=r1.1}))),(1002,(pRB Z0 0 b0 j6))] a w g0 g (Znc r1 j6=some r)) ?_ ?_
 rintro a w ⟨j6,g,rfl,s,b,H0⟩
 unfold Znc at H0
 refine Zl ?_
 obtain⟨r7,h8,H0⟩:=Zd H0
 refine U4 [5,15,25,40,35] s b Za
  (U2 [25] (Zv Zdh (off:=0) (by kernel_rfl) rfl rfl U0)<|AP U9 0 rfl<|U2 [0] (Zt Z70 (Zvg _ h8) rfl rfl (.cons U0 .nil))<|U2 [] (Z2t 4 rfl rfl)<|U2 [10,0] (Zci Zhk rfl rfl U1 U0)<|U3) fun a g s b=>?_
 obtain⟨r9,h10,H0⟩:=Zd H0
 refine U4 [5,15,30,35,11] s b Za
  (Am 5 rfl<|U2 [0,45] (Zce (m:=1002) (A:=[]) Zbsq (Zyb _ h10) rfl rfl rfl (by decide) U1 U0 .nil)<|U2 [25] (Zv Zu8 (off:=13) (by kernel_rfl) rfl rfl U0)<|U2 [10,0,25] (Zbj6 ty_4 rfl rfl U7 U1 U0)<|U3) fun a g s b=>?_
 obtain⟨r11,h12,H0⟩:=Zd H0
 refine U4 [5,15,30,35,11] s b Za
  (Am 5 rfl<|U2 [0,45] (Zce (m:=1002) (A:=[(pInt .i64 (24:Int))]) Z78 (Zot _ _ h12) rfl rfl rfl (by decide) U1 U0 (.cons U6 .nil))<|U2 [25] (Zv Zjy (off:=1) (by kernel_rfl) rfl rfl U0)<|U2 [10,0,25] (Zbio V0 rfl rfl U7 U1 U0)<|U3) fun a g s b=>?_
 refine wp_seq ?_
 obtain⟨r13,h14,H0⟩:=Zd H0
 refine U4 [5,15,25,35,10,45] s b Za
  (Al Zhk 35 rfl<|U2 [0] (Zt Zq3 (Zee _ _ h14) rfl rfl (.cons U0 (.cons U6 .nil)))<|U3) fun a g s b=>?_
 refine Zbq (fun a w=>∃(j18:Zw) (j19:Zh) (g:G),Jn 53 [(0,(pEq (ptrB b0 0))),(2,(pBox Z6 2 (default:Zw))),(3,(pBox Z6 3 j18)),(4,(Zef.ptr r7)),(1002,(pRB Z0 0 b0 j19))] a w g0 g (Ziq r7 j18 j19=some r)) ?_ ?_
 rintro a w ⟨j18,j19,g,rfl,s,b,H0⟩
 unfold Ziq at H0
 refine Zl<|wp_seq ?_
 obtain⟨r20,h21,H0⟩:=Zd H0
 refine U4 [5,15,25,35,10,45] s b Za
  (Al Zhk 35 rfl<|U2 [0] (Zt Zq3 (Zee _ _ h21) rfl rfl (.cons U0 (.cons U6 .nil)))<|U3) fun a g s b=>?_
 refine Zbq (fun a w=>∃(j25:Zw) (j26:Zh) (g:G),Jn 53 [(0,(pEq (ptrB b0 0))),(2,(pBox Z6 2 (default:Zw))),(3,(pBox Z6 3 j25)),(4,(Zef.ptr r7)),(1002,(pRB Z0 0 b0 j26))] a w g0 g (Zoy r7 j25 j26=some r)) ?_ ?_
 rintro a w ⟨j25,j26,g,rfl,s,b,H0⟩
 unfold Zoy at H0
 refine Zl<|wp_seq ?_
 obtain⟨r27,h28,H0⟩:=Zd H0
 refine U4 [5,15,25,35,10,45] s b Za
  (Al Zhk 35 rfl<|U2 [0] (Zt Zq3 (Zee _ _ h28) rfl rfl (.cons U0 (.cons U6 .nil)))<|U3) fun a g s b=>?_
 refine Zbq (fun a w=>∃(j34:Zw) (j35:Zh) (g:G),Jn 53 [(0,(pEq (ptrB b0 0))),(2,(pBox Z6 2 (default:Zw))),(3,(pBox Z6 3 j34)),(4,(Zef.ptr r7)),(1002,(pRB Z0 0 b0 j35))] a w g0 g (Zo6 r7 j34 j35=some r)) ?_ ?_
 rintro a w ⟨j34,j35,g,rfl,s,b,H0⟩
 unfold Zo6 at H0
 refine Zl<|wp_seq ?_
 obtain⟨r36,h37,H0⟩:=Zd H0
 refine U4 [5,15,25,10,45] s b Za
  (Al Zhk 35 rfl<|U2 [0] (Zt Zq3 (Zee _ _ h37) rfl rfl (.cons U0 (.cons U6 .nil)))<|U3) fun a g s b=>?_
 refine Zbq (fun a w=>∃(j41:Zw) (j42:Zh) (g:G),Jn 53 [(0,(pEq (ptrB b0 0))),(2,(pBox Z6 2 (default:Zw))),(3,(pBox Z6 3 j41)),(1002,(pRB Z0 0 b0 j42))] a w g0 g (Zoz j41 j42=some r)) ?_ ?_
 rintro a w ⟨j41,j42,g,rfl,s,b,H0⟩
 unfold Zoz at H0
 refine Zl<|wp_seq ?_
 obtain⟨r43,h44,H0⟩:=Zd H0
 refine U4 [5,15,25,20,35] s b Za
  (AM Zgb 25 rfl<|U2 [0] (Zt Zbgg (Zuq _ h44) rfl rfl (.cons U0 .nil))<|Aa 0 rfl<|U3) fun a g s b=>?_
 refine U4 [5,15,25,35,10,45] s b Za
  (Am 35 rfl<|U2 [0] (Zcv rfl rfl U0 U6)<|U3) fun a g s b=>?_
 refine Zbq (fun a w=>∃(j48:Zh) (g:G),Jn 53 [(0,(pEq (ptrB b0 0))),(2,(pBox Z6 2 (default:Zw))),(3,(pBox Z6 3 j41)),(1002,(pRB Z0 0 b0 j48))] a w g0 g (Zqt j41 j48=some r)) ?_ ?_
 rintro a w ⟨j48,g,rfl,s,b,H0⟩
 unfold Zqt at H0
 refine Zl<|U4 [5,10,35] s b Za
  (AM Zgb 25 rfl<|U2 [0,15] (Z9 Zgb rfl rfl U1 U0)<|U3) fun a g s b=>?_
 refine wp_ret ?_
 obtain rfl:=Oi H0
 obtain⟨u0,hu0,hq0⟩:=Zbi (P:=Zb0k) Zgb (s.at 1 rfl)
 exact Zgk rfl s b hu0 hq0 ⟨Zkm (s.at 2 rfl),trivial⟩
 refine Zs (s.bool 4 rfl) H0 (fun H0=>?_) (fun H0=>?_)
 obtain⟨r46,h47,H0⟩:=Zd H0
 refine U5 [5,15,25,21] (L:=[(0,_),(2,_),(3,_),(5,_),(1002,_)]) (s.pi [0,1,2,3,5] rfl) b Za
  (Am 5 rfl<|Am 35 rfl<|U2 [10,45,0] (Zce (m:=1002) (A:=[(pInt .i64 r43)]) Zxi (Zhe _ _ h47) rfl rfl rfl (by decide) U1 U0 (.cons U7 .nil))<|U3) fun a g s b=>?_
 exact⟨r46,g,rfl,(s.pi [0,1,2,3] rfl),b,H0⟩
 exact wp_skip<|⟨j42,g,rfl,(s.pi [0,1,2,5] rfl),b,H0⟩
 refine Zs (s.bool 3 rfl) H0 (fun H0=>?_) (fun H0=>?_)
 obtain⟨r39,h40,H0⟩:=Zd H0
 refine U5 [5,15,30,11] (L:=[(0,_),(2,_),(3,_),(1002,_)]) (s.pi [0,1,2,4] rfl) b Za
  (Am 5 rfl<|U2 [0,35] (Zce (m:=1002) (A:=[]) Zbrj (Zbc0 _ h40) rfl rfl rfl (by decide) U1 U0 .nil)<|U2 [25] (Zv Zob (off:=5) (by kernel_rfl) rfl rfl U0)<|U2 [10,0,25] (Zbj5 Zbd rfl rfl U7 U1 U0)<|U3) fun a g s b=>?_
 refine⟨_,_,g,rfl,?_,b,H0⟩
 exact (s.pi [0,1,2,3] rfl)
 exact wp_skip<|⟨j34,j35,g,rfl,(s.pi [0,1,2,4] rfl),b,H0⟩
 refine Zs (s.bool 4 rfl) H0 (fun H0=>?_) (fun H0=>?_)
 obtain⟨r30,h31,H0⟩:=Zd H0;obtain⟨r32,h33,H0⟩:=Zd H0
 refine U5 [5,15,50,35,31] (L:=[(0,_),(2,_),(3,_),(4,_),(1002,_)]) (s.pi [0,1,2,3,5] rfl) b Za
  (Am 5 rfl<|Al Zhk 35 rfl<|U2 [0] (Zt Zbl8 (Z1p _ h31) rfl rfl (.cons U0 .nil))<|U2 [20,45,0] (Zce (m:=1002) (A:=[(pInt .i64 r30)]) Z78 (Zot _ _ h33) rfl rfl rfl (by decide) U1 U0 (.cons U7 .nil))<|U2 [25] (Zv Zfe (off:=4) (by kernel_rfl) rfl rfl U0)<|U2 [10,0,25] (Zbjm V0 rfl rfl U7 U1 U0)<|U3) fun a g s b=>?_
 refine⟨_,_,g,rfl,?_,b,H0⟩
 exact (s.pi [0,1,2,3,4] rfl)
 exact wp_skip<|⟨j25,j26,g,rfl,(s.pi [0,1,2,3,5] rfl),b,H0⟩
 refine Zs (s.bool 4 rfl) H0 (fun H0=>?_) (fun H0=>?_)
 obtain⟨r23,h24,H0⟩:=Zd H0
 refine U5 [5,15,30,35,11] (L:=[(0,_),(2,_),(3,_),(4,_),(1002,_)]) (s.pi [0,1,2,3,5] rfl) b Za
  (Am 5 rfl<|U2 [0,45] (Zce (m:=1002) (A:=[]) Zbeq (Zrc _ h24) rfl rfl rfl (by decide) U1 U0 .nil)<|U2 [25] (Zv Zit (off:=3) (by kernel_rfl) rfl rfl U0)<|U2 [10,0,25] (Zbko Zdk rfl rfl U7 U1 U0)<|U3) fun a g s b=>?_
 refine⟨_,_,g,rfl,?_,b,H0⟩
 exact (s.pi [0,1,2,3,4] rfl)
 exact wp_skip<|⟨j18,j19,g,rfl,(s.pi [0,1,2,3,5] rfl),b,H0⟩
 refine Zs (s.bool 4 rfl) H0 (fun H0=>?_) (fun H0=>?_)
 obtain⟨r16,h17,H0⟩:=Zd H0
 refine U5 [5,15,30,35,11] (L:=[(0,_),(2,_),(3,_),(4,_),(1002,_)]) (s.pi [0,1,2,3,5] rfl) b Za
  (Am 5 rfl<|U2 [0,45] (Zce (m:=1002) (A:=[]) Z7p (Zoh _ h17) rfl rfl rfl (by decide) U1 U0 .nil)<|U2 [25] (Zv Zd8 (off:=2) (by kernel_rfl) rfl rfl U0)<|U2 [10,0,25] (Zbib U8 rfl rfl U7 U1 U0)<|U3) fun a g s b=>?_
 refine⟨_,_,g,rfl,?_,b,H0⟩
 exact (s.pi [0,1,2,3,4] rfl)
 refine wp_skip<|⟨_,_,g,rfl,?_,b,H0⟩
 exact (s.pi [0,1,2,3,5] rfl)
 refine Zs (s.bool 3 rfl) H0 (fun H0=>?_) (fun H0=>?_)
 obtain⟨r4,h5,H0⟩:=Zd H0
 refine U5 [5,15,25,11] (L:=[(0,_),(2,_),(3,_),(1002,_)]) (s.pi [0,1,2,4] rfl) b Za
  (Am 5 rfl<|U2 [0,35] (Zce (m:=1002) (A:=[(pInt .i64 (5:Int))]) Zxi (Zhe _ _ h5) rfl rfl rfl (by decide) U1 U0 (.cons U6 .nil))<|U3) fun a g s b=>?_
 exact⟨r4,g,rfl,(s.pi [0,1,2,3] rfl),b,H0⟩
 exact wp_skip<|⟨r1.2,g,rfl,(s.pi [0,1,2,4] rfl),b,H0⟩
theorem Zbbz (a0:Zh) {r:Zbj×Zh} (H0:Zth a0=some r):FnB Zb0k 37 [.box Z0 a0 r.2] (Zb1.pd r.1):=by
 unfold Zth at H0
 refine Zf2 (N:=23) Tryz.func37 rfl rfl (Qe rfl) rfl rfl (fun a g0 bs hbs s b=>?_)
 obtain⟨b0,rfl⟩:=Znj hbs
 replace s:St 23 [(0,(Zbm (some b0) Z0 0 a0))] _ _:=s
 replace s:St 23 [(0,(pEq (ptrB b0 0))),(1002,(pRB Z0 0 b0 a0))] _ _:=Zhm s
 refine U4 [5,0,15] s b Za
  (U2 [] (Z4e 2 rfl rfl)<|U3) fun a g s b=>?_
 obtain⟨r1,h2,H0⟩:=Zd H0
 refine U4 [5,15,20,11] s b Za
  (Am 5 rfl<|U2 [0,25] (Zce (m:=1002) (A:=[(pInt .i64 (12:Int))]) Zw6 (Zhd _ _ h2) rfl rfl rfl (by decide) U1 U0 (.cons U6 .nil))<|Aa 0 rfl<|U3) fun a g s b=>?_
 refine wp_seq<|U4 [5,15,25,10,35] s b Za
  (Am 25 rfl<|U2 [0] (Zb0 rfl rfl U0 U6)<|U3) fun a g s b=>?_
 refine Zbq (fun a w=>∃(j6:Zh) (g:G),Jn 23 [(0,(pEq (ptrB b0 0))),(2,(pBox Zb1 2 (default:Zbj))),(3,(pInt .i64 r1.1)),(1002,(pRB Z0 0 b0 j6))] a w g0 g (Zls r1 j6=some r)) ?_ ?_
 ·rintro a w ⟨j6,g,rfl,s,b,H0⟩
  unfold Zls at H0
  refine Zl<|U4 [5,15,25,0,35] s b Za
   (U2 (outs:=[(4,(Zda none Zi5 Zij (hpL (pRow Z6 117 504 ((default:Zbj).Acts))) 4 (default:Zbj)))]) (S:=[5]) [] (Ztj (R:=hpL (pRow Z6 117 504 ((default:Zbj).Acts))) (zs:=[.slice none 0 0]) (none,0,0) (by kernel_rfl) Z7m (fun g=>Zj1 504 g) rfl rfl)<|U3) fun a g s b=>?_
  refine wp_seq<|U4 [5,15,35,0,10,45] s b Za
   (Am 25 rfl<|U2 [] (Zx rfl rfl U6)<|U3) fun a g s b=>?_
  obtain⟨z16,hz1,H0⟩:=Zd H0
  refine Zbq (fun a w=>∃(y14:Zbj) (y15:Zh) (g:G),Jn 23 [(0,(pEq (ptrB b0 0))),(2,(pBox Zb1 2 (default:Zbj))),(4,(Zda none Zi5 Zij (hpL (pRow Z6 117 504 y14.Acts)) 4 y14)),(1002,(pRB Z0 0 b0 y15))] a w g0 g ((y14,y15)=z16)) ?_ ?_
  ·rintro a w ⟨y14,y15,g,rfl,s,b,rfl⟩
   refine Zl<|U4 [5,10,35] s b Za
    (U2 [25] (Zsn Z68 Zl8 rfl rfl U0)<|U2 [0,15] (Z9 Zl8 rfl rfl U1 U0)<|U3) fun a g s b=>?_
   refine wp_ret ?_
   obtain rfl:=Oi H0
   obtain⟨u0,hu0,hq0⟩:=Zbi (P:=Zb0k) Zl8 (s.at 1 rfl)
   exact Zgk rfl s b hu0 hq0 ⟨Zkm (s.at 2 rfl),trivial⟩
  ·refine wp_block<|wp_loop_ghost (fun n a w=>∃(x7:Zbj) (x8:Int) (x9:Zh) (g:G),Jn 23 [(0,(pEq (ptrB b0 0))),(2,(pBox Zb1 2 (default:Zbj))),(4,(Zda none Zi5 Zij (hpL (pRow Z6 117 504 x7.Acts)) 4 x7)),(11,(pInt .i64 r1.1)),(12,(pInt .i64 x8)),(1002,(pRB Z0 0 b0 x9))] a w g0 g (Zi2 r1 n x7 x8 x9=some z16)) (Zb0q (r1.1-(0:Int))+1) ⟨(default:Zbj),(0:Int),j6,g,rfl,(s.pi [0,1,2,3,4,5] rfl),b,hz1⟩ (fun n a w hI=>?_)
   obtain⟨x7,x8,x9,g,rfl,s,b,H1⟩:=hI
   cases n with
   | zero=>exact absurd H1 (by simp[Zi2])
   | succ n =>
    rw[Zi2]at H1
    refine U4 [5,15,25,35,45,0,55] s b Za
     (U2 [45,35] (Zcj rfl rfl U0 U1)<|U3) fun a g s b=>?_
    refine wp_seq<|Zs (s.bool 5 rfl) H1 (fun H1=>?_) (fun H1=>?_)
    ·refine wp_skip<|Zl ?_
     refine wp_seq<|wp_block ?_
     obtain⟨r11,h12,H1⟩:=Zd H1;obtain⟨h13,H1⟩:=Zdr H1
     refine U5 [5,15,70,35,45,31] (L:=[(0,_),(2,_),(4,_),(11,_),(12,_),(1002,_)]) (s.pi [0,1,2,3,4,6] rfl) b Za
      (U2 [25] (Zmo Zba3 (off:=0) (q:=(pRow Z6 117 504 x7.Acts)) (by kernel_rfl) (pr:=id) (fun _=>rfl) (fun _ _ h=>h) rfl rfl U0)<|U2 [0] (Zuy Zbho rfl rfl U0)<|Am 5 rfl<|U2 [0,55] (Zce (m:=1002) (A:=[]) Zbsk (Zbch _ h12) rfl rfl rfl (by decide) U1 U0 .nil)<|U2 [0] (Zgm Zbl0 (xs:=[.tmp 17]) (.cons U0 .nil) (by decide) rfl rfl)<|U2 (outs:=[(4,(Zda none Zi5 Zij hpT 4 x7)),(19,(pRow Z6 117 504 (x7.Acts++([r11.1]:List Zw))))]) (S:=[505]) [30,0,25] (OB.frameU (Zdg Zbl0 rfl rfl U0 U1 h13) (Opd.imp U7 (fun _ _ h=>Z35 h)) (fun k hk hS=>Z7y (Zb0m.1 hk) (Zb0m.1 hS) (by decide)) (fun h=>by cases h))<|U2 [0] (Zmo Zba3 (off:=0) (q:=pAny) (by kernel_rfl) (pr:=id) (fun _=>rfl) (fun _ _ _=>trivial) rfl rfl U0)<|U2 [11,0,10] (Zvm (x':=({x7 with Acts:=(x7.Acts++([r11.1]:List Zw))}:Zbj)) (R2:=hpL (pRow Z6 117 504 (({x7 with Acts:=(x7.Acts++([r11.1]:List Zw))}:Zbj).Acts))) (upd:=fun _ s2=>s2) Zbho rfl rfl (fun _ _ h=>Zlj h) (fun k hk=>by rw[Zb0m.1 hk];decide) (fun k hk=>by cases hk) U7 (fun a g hh=>Zz8 (U1 a g hh)) U0 (fun _ _ _ _ h=>h) (fun g cs s0 s1 ys h k=>Z7g h k))<|U3) fun a g s b=>?_
     refine Zbb<|Zl ?_
     refine U5 [5,15,25,35,10,55] s b Za
      (U2 [45] (Zbw rfl rfl U0 U6 rfl)<|Am 0 rfl<|U3) fun a g s b=>?_
     exact⟨n,Zb0o _,({x7 with Acts:=(x7.Acts++([r11.1]:List Zw))}:Zbj),(Zb0n.wrap (x8+(1:Int))),r11.2,g,rfl,(s.pi [0,1,2,3,4,5] rfl),b,H1⟩
    ·refine wp_exit<|Zbx ?_
     refine Zbx<|Zcg ?_
     exact⟨x7,x9,g,rfl,(s.pi [0,1,2,6] rfl),b,Oi H1⟩
 ·refine Zs (s.bool 3 rfl) H0 (fun H0=>?_) (fun H0=>?_)
  ·obtain⟨r4,h5,H0⟩:=Zd H0
   refine U5 [5,15,25,11] (L:=[(0,_),(2,_),(3,_),(1002,_)]) (s.pi [0,1,2,4] rfl) b Za
    (Am 5 rfl<|U2 [0,35] (Zce (m:=1002) (A:=[(pInt .i64 (1:Int))]) Zxi (Zhe _ _ h5) rfl rfl rfl (by decide) U1 U0 (.cons U6 .nil))<|U3) fun a g s b=>?_
   exact⟨r4,g,rfl,(s.pi [0,1,2,3] rfl),b,H0⟩
  ·exact wp_skip<|⟨r1.2,g,rfl,(s.pi [0,1,2,4] rfl),b,H0⟩
theorem Zzh (a0:Zh) {r:Zh} (H0:Zpf a0=some r):FnB Zb0k 38 [.box Z0 a0 r] (pTup []):=by
 unfold Zpf at H0
 refine Zf2 (N:=7) Tryz.func38 rfl rfl (Qe rfl) rfl rfl (fun a g0 bs hbs s b=>?_)
 obtain⟨b0,rfl⟩:=Znj hbs
 replace s:St 7 [(0,(Zbm (some b0) Z0 0 a0))] _ _:=s
 replace s:St 7 [(0,(pEq (ptrB b0 0))),(1002,(pRB Z0 0 b0 a0))] _ _:=Zhm s
 obtain⟨r1,h2,H0⟩:=Zd H0
 refine U4 [5,20,11] s b Za
  (Am 5 rfl<|U2 [0,15] (Zce (m:=1002) (A:=[]) Zbmd (Zr3 _ h2) rfl rfl rfl (by decide) U1 U0 .nil)<|U2 [0] (Zcn rfl rfl U0 U6)<|U3) fun a g s b=>?_
 refine Zbq (fun a w=>∃(j6:Zh) (g:G),Jn 7 [(0,(pEq (ptrB b0 0))),(1002,(pRB Z0 0 b0 j6))] a w g0 g (Zmq j6=some r)) ?_ ?_
 rintro a w ⟨j6,g,rfl,s,b,H0⟩
 unfold Zmq at H0
 obtain rfl:=Oi H0
 exact Zbhb rfl s b ⟨Zkm (s.at 1 rfl),trivial⟩
 refine Zs (s.bool 1 rfl) H0 (fun H0=>?_) (fun H0=>?_)
 obtain⟨r4,h5,H0⟩:=Zd H0
 refine U5 [5,11] (L:=[(0,_),(1002,_)]) (s.pi [0,2] rfl) b Za
  (Am 5 rfl<|U2 [0,15] (Zce (m:=1002) (A:=[(pInt .i64 (3:Int))]) Zst (Zep _ _ h5) rfl rfl rfl (by decide) U1 U0 (.cons U6 .nil))<|U3) fun a g s b=>?_
 exact⟨r4,g,rfl,(s.pi [0,1] rfl),b,H0⟩
 exact wp_skip<|⟨r1.2,g,rfl,(s.pi [0,2] rfl),b,H0⟩
theorem Zbcj (a0:List Int) {r:Zbc×Zdb} (H0:Zuz a0=some r):FnOk Zb0k 19 [((Kd.int .u8).sl.pd a0)] (pTup [(Zde.pd r.1),(Zdw.pd r.2)]):=by
 unfold Zuz at H0
 refine Zbik (N:=44) Tryz.func19 rfl rfl (Qe rfl) rfl rfl (fun a g0 h0 s b=>?_)
 refine U4 [5,0,10] s b Za
  (U2 (outs:=[(2,(Zda none Ze8 Zff (hpL (pRow Zb1 79 502 ((default:Zbc).Deals))) 2 (default:Zbc)))]) (S:=[3]) [] (Ztj (R:=hpL (pRow Zb1 79 502 ((default:Zbc).Deals))) (zs:=[.int .i64 0,.slice none 0 0]) (none,0,0) (by kernel_rfl) Z9i (fun g=>Zj1 502 g) rfl rfl)<|U2 [] (Zblz 3 rfl rfl)<|U3) fun a g s b=>?_
 obtain⟨b4,e4,q4⟩:=Zbds (s.at 1 rfl)
 obtain⟨b5,e5,q5⟩:=Z4u (s.at 2 rfl)
 refine wp_seq<|Zbjf (f:=32) (d1:=7) (x1:=2) (x2:=3) ?_ ?_ ?_ ?_ ?_ ?_ ?_ e4 e5 s.df ?_
 ·rfl
 ·rfl
 ·rfl
 ·rfl
 ·rfl
 ·rfl
 ·rw[s.size];decide
 replace s:StD (dfr2 32 b4 b5) 44 [(0,((Kd.int .u8).sl.pd a0)),(2,(Zda (some b4) Ze8 Zff (hpL (pRow Zb1 79 502 ((default:Zbc).Deals))) 2 (default:Zbc))),(3,(Zbm (some b5) Zdw 3 (default:Zdb)))] (dact a 7 (.func (.func 32) #[] #[ptrV b4,ptrV b5]) (dfr2 32 b4 b5)) g:=⟨(Zu7 ..).trans s.size,rfl,(Zgv (Zse (by decide) (s.at 0 rfl)) (Zgv (Zse (by decide) q4) (Zgv (Zse (by decide) q5) Zs8)))⟩
 refine Zl ?_
 obtain⟨r1,h2,H0⟩:=Zd H0
 refine U4 [15,25,20] s b Za
  (Am 5 rfl<|U2 [0] (Zbc4 (j:=4) Zbrd (Zbb9 _ h2) rfl rfl (.cons U0 .nil))<|Aa 0 rfl<|U3) fun a g s b=>?_
 refine wp_seq ?_
 obtain⟨r3,h4,H0⟩:=Zd H0
 refine U4 [30,15,11] s b Za
  (Am 25 rfl<|U2 (outs:=[(11,(pInt .i64 r3.1)),(4,(pBox Z0 4 r3.2))]) (S:=[5]) [0,25] (Zrg (hs:=[(4,none,4)]) Zw6 (Zhd _ _ h4) rfl rfl rfl (.box U1 U0 rfl (.val U6 .nil)) rfl rfl rfl)<|U2 [5] (Zid Zbac (off:=0) (by kernel_rfl) (fun _=>rfl) rfl rfl U0)<|U2 [10,0,5] (Zn5 (x':=({(default:Zbc)with Number:=r3.1}:Zbc)) U9 rfl rfl (fun k hk=>by rw[Zb0m.1 hk];decide) U7 U1 U0 (fun g cs s0 ys h k=>Z5f h k))<|U3) fun a g s b=>?_
 refine U4 [5,15,25,20] s b Za
  (U2 [5] (Zid Zbac (off:=0) (by kernel_rfl) (fun _=>rfl) rfl rfl U0)<|U2 [0] (Zxb U9 rfl rfl U0)<|U2 [0] (Zb0 rfl rfl U0 U6)<|U3) fun a g s b=>?_
 refine Zbq (fun a w=>∃(j8:Zh) (g:G),w=g.w∧StD (dfr2 32 b4 b5) 44 [(2,(Zda (some b4) Ze8 Zff (hpL (pRow Zb1 79 502 (({(default:Zbc)with Number:=r3.1}:Zbc).Deals))) 2 ({(default:Zbc)with Number:=r3.1}:Zbc))),(3,(Zbm (some b5) Zdw 3 (default:Zdb))),(4,(pBox Z0 4 j8))] a g∧Base g0 g∧Znd r3 j8=some r) ?_ ?_
 ·rintro a w ⟨j8,g,rfl,s,b,H0⟩
  unfold Znd at H0
  refine Zl<|wp_seq ?_
  obtain⟨r9,h10,H0⟩:=Zd H0
  refine U4 [5,15,11,10,20] s b Za
   (Am 25 rfl<|U2 (outs:=[(19,(pInt .i64 r9.1)),(4,(pBox Z0 4 r9.2))]) (S:=[5]) [0,25] (Zrg (hs:=[(4,none,4)]) Zw6 (Zhd _ _ h10) rfl rfl rfl (.box U1 U0 rfl (.val U6 .nil)) rfl rfl rfl)<|U2 [] (Zx rfl rfl U6)<|U3) fun a g s b=>?_
  obtain⟨z20,hz1,H0⟩:=Zd H0
  refine Zbq (fun a w=>∃(y18:Zbc) (y19:Zh) (g:G),w=g.w∧StD (dfr2 32 b4 b5) 44 [(2,(Zda (some b4) Ze8 Zff (hpL (pRow Zb1 79 502 y18.Deals)) 2 y18)),(3,(Zbm (some b5) Zdw 3 (default:Zdb))),(4,(pBox Z0 4 y19))] a g∧Base g0 g∧(y18,y19)=z20) ?_ ?_
  ·rintro a w ⟨y18,y19,g,rfl,s,b,rfl⟩
   refine Zl<|wp_seq ?_
   obtain⟨r21,h22,H0⟩:=Zd H0
   refine U4 [5,15,25,50] s b Za
    (U2 [5] (Zsn Zyz Zqd rfl rfl U0)<|U2 [0] (Zt Zbek (Zu2 _ h22) rfl rfl (.cons U0 .nil))<|Am 0 rfl<|U2 [0] (Z7 rfl rfl U0 rfl)<|U2 [10] (Z7 rfl rfl U0 rfl)<|Aa 10 rfl<|Aa 10 rfl<|U3) fun a g s b=>?_
   refine U4 [5,15,25,35,10] s b Za
    (Am 35 rfl<|U2 [0] (Zcv rfl rfl U0 U6)<|U3) fun a g s b=>?_
   refine Zbq (fun a w=>∃(j26:Zh) (g:G),w=g.w∧StD (dfr2 32 b4 b5) 44 [(2,(Zda (some b4) Ze8 Zff (hpL (pRow Zb1 79 502 y18.Deals)) 2 y18)),(3,(Zbm (some b5) Zdw 3 (default:Zdb))),(4,(pBox Z0 4 j26))] a g∧Base g0 g∧Zne y18 j26=some r) ?_ ?_
   ·rintro a w ⟨j26,g,rfl,s,b,H0⟩
    unfold Zne at H0
    refine Zl ?_
    obtain⟨r27,h28,H0⟩:=Zd H0
    refine U4 [5,15] s b Za
     (Am 25 rfl<|U2 (outs:=[(41,(pTup [])),(4,(pBox Z0 4 r27))]) (S:=[5]) [0,25] (Zrg (hs:=[(4,none,4)]) Zbsp (Zzh _ h28) rfl rfl rfl (.box U1 U0 rfl .nil) rfl rfl rfl)<|U3) fun a g s b=>?_
    refine U4 [20,30] s b Za
     (U2 [5] (Zsn Zyz Zqd rfl rfl U0)<|U2 [] (Z8m rfl rfl )<|U2 [10,5] (Ztz (kV:=Ze8) (by rfl) Zqd rfl rfl U1 U0)<|U2 [10,15] (Z9 Zxp rfl rfl U1 U0)<|U3) fun a g s b=>?_
    refine wp_ret ?_
    obtain rfl:=Oi H0
    exact Zboq Z49 Zbrs rfl Zqd Zxp s b (s.at 0 rfl) (s.at 1 rfl)
   ·refine Zs (s.bool 4 rfl) H0 (fun H0=>?_) (fun H0=>?_)
    ·obtain⟨r24,h25,H0⟩:=Zd H0
     refine U5 [5,15,21] (L:=[(2,_),(3,_),(4,_),(5,_)]) (s.pi [0,1,2,3] rfl) b Za
      (Am 25 rfl<|Am 35 rfl<|U2 (outs:=[(39,(pTup [])),(4,(pBox Z0 4 r24))]) (S:=[5]) [10,25,0] (Zrg (hs:=[(4,none,4)]) Zxi (Zhe _ _ h25) rfl rfl rfl (.box U1 U0 rfl (.val U7 .nil)) rfl rfl rfl)<|U3) fun a g s b=>?_
     exact⟨r24,g,rfl,(s.pi [0,1,2] rfl),b,H0⟩
    ·exact wp_skip<|⟨y19,g,rfl,(s.pi [0,1,2] rfl),b,H0⟩
  ·refine wp_block<|wp_loop_ghost (fun n a w=>∃(x11:Zbc) (x12:Zh) (x13:Int) (g:G),w=g.w∧StD (dfr2 32 b4 b5) 44 [(2,(Zda (some b4) Ze8 Zff (hpL (pRow Zb1 79 502 x11.Deals)) 2 x11)),(3,(Zbm (some b5) Zdw 3 (default:Zdb))),(4,(pBox Z0 4 x12)),(19,(pInt .i64 r9.1)),(20,(pInt .i64 x13))] a g∧Base g0 g∧Zir r9 n x11 x12 x13=some z20) (Zb0q (r9.1-(0:Int))+1) ⟨({(default:Zbc)with Number:=r3.1}:Zbc),r9.2,(0:Int),g,rfl,(s.pi [0,1,2,3,4] rfl),b,hz1⟩ (fun n a w hI=>?_)
   obtain⟨x11,x12,x13,g,rfl,s,b,H1⟩:=hI
   cases n with
   | zero=>exact absurd H1 (by simp[Zir])
   | succ n =>
    rw[Zir]at H1
    refine U4 [5,15,25,35,45,0] s b Za
     (U2 [45,35] (Zcj rfl rfl U0 U1)<|U3) fun a g s b=>?_
    refine wp_seq<|Zs (s.bool 5 rfl) H1 (fun H1=>?_) (fun H1=>?_)
    ·refine wp_skip<|Zl ?_
     refine wp_seq<|wp_block ?_
     obtain⟨r15,h16,H1⟩:=Zd H1;obtain⟨h17,H1⟩:=Zdr H1
     refine U5 [70,15,31,35,45] (L:=[(2,_),(3,_),(4,_),(19,_),(20,_)]) (s.pi [0,1,2,3,4] rfl) b Za
      (U2 [5] (Zmo Zbab (off:=1) (q:=(pRow Zb1 79 502 x11.Deals)) (by kernel_rfl) (pr:=id) (fun _=>rfl) (fun _ _ h=>h) rfl rfl U0)<|U2 [0] (Zuy Zbgp rfl rfl U0)<|Am 25 rfl<|U2 (outs:=[(25,(Zb1.pd r15.1)),(4,(pBox Z0 4 r15.2))]) (S:=[5]) [0,25] (Zrg (hs:=[(4,none,4)]) Zbta (Zbbz _ h16) rfl rfl rfl (.box U1 U0 rfl .nil) rfl rfl rfl)<|U2 [0] (Zgm Zbmu (xs:=[.tmp 25]) (.cons U0 .nil) (by decide) rfl rfl)<|U2 (outs:=[(2,(Zda (some b4) Ze8 Zff hpT 2 x11)),(27,(pRow Zb1 79 502 (x11.Deals++([r15.1]:List Zbj))))]) (S:=[503]) [30,0,5] (OB.frameU (Zdg Zbmu rfl rfl U0 U1 h17) (Opd.imp U7 (fun _ _ h=>Z35 h)) (fun k hk hS=>Z7y (Zb0m.1 hk) (Zb0m.1 hS) (by decide)) (fun h=>by cases h))<|U2 [0] (Zmo Zbab (off:=1) (q:=pAny) (by kernel_rfl) (pr:=id) (fun _=>rfl) (fun _ _ _=>trivial) rfl rfl U0)<|U2 [11,0,10] (Zvm (x':=({x11 with Deals:=(x11.Deals++([r15.1]:List Zbj))}:Zbc)) (R2:=hpL (pRow Zb1 79 502 (({x11 with Deals:=(x11.Deals++([r15.1]:List Zbj))}:Zbc).Deals))) (upd:=fun _ s2=>s2) Zbgp rfl rfl (fun _ _ h=>Zlj h) (fun k hk=>by rw[Zb0m.1 hk];decide) (fun k hk=>by cases hk) U7 (fun a g hh=>Zz8 (U1 a g hh)) U0 (fun _ _ _ _ h=>h) (fun g cs s0 s1 ys h k=>Z99 h k))<|U3) fun a g s b=>?_
     refine Zbb<|Zl ?_
     refine U5 [5,15,25,35,10] s b Za
      (U2 [45] (Zbw rfl rfl U0 U6 rfl)<|Am 0 rfl<|U3) fun a g s b=>?_
     exact⟨n,Zb0o _,({x11 with Deals:=(x11.Deals++([r15.1]:List Zbj))}:Zbc),r15.2,(Zb0n.wrap (x13+(1:Int))),g,rfl,(s.pi [0,1,2,3,4] rfl),b,H1⟩
    ·refine wp_exit<|Zbx ?_
     refine Zbx<|Zcg ?_
     exact⟨x11,x12,g,rfl,(s.pi [0,1,2] rfl),b,Oi H1⟩
 ·refine Zs (s.bool 3 rfl) H0 (fun H0=>?_) (fun H0=>?_)
  ·obtain⟨r6,h7,H0⟩:=Zd H0
   refine U5 [5,15,11] (L:=[(2,_),(3,_),(4,_)]) (s.pi [0,1,2] rfl) b Za
    (Am 25 rfl<|U2 (outs:=[(17,(pTup [])),(4,(pBox Z0 4 r6))]) (S:=[5]) [0,25] (Zrg (hs:=[(4,none,4)]) Zxi (Zhe _ _ h7) rfl rfl rfl (.box U1 U0 rfl (.val U6 .nil)) rfl rfl rfl)<|U3) fun a g s b=>?_
   exact⟨r6,g,rfl,(s.pi [0,1,2] rfl),b,H0⟩
  ·exact wp_skip<|⟨r3.2,g,rfl,(s.pi [0,1,2] rfl),b,H0⟩
theorem Z1g (a0:Ze) (a1:Zc5) (a2:Int) {r:(List Zbc)×Int×((Zdo×(Zb4×Ze)))} (H0:Zq5 a0 a1 a2=some r):Z3p Zb0k 9 Zc1 a0 [(Zcu.pd a1),(pInt .i64 a2)] Zl0 r.2.2 (Zde.sl.pd r.1) (pInt .i64 r.2.1):=by
 unfold Zq5 at H0
 refine Z58 (N:=69) Tryz.func9 rfl rfl (Qe rfl) rfl (fun a g0 g bI s b=>?_)
 replace s:St 69 [(0,(pEq (ptrB bI 0))),(1,(Zcu.pd a1)),(2,(pInt .i64 a2)),(1001,(pPO Zc1 bI 1 a0))] a g:=s
 refine U4 [5,25,0,35] s b Za
  (U2 [15] (Zbt rfl rfl U0)<|U2 [] (Zl2 (.inr rfl))<|U2 (outs:=[(7,(Zde.sl.pd ([]:List Zbc)))]) (S:=[]) [] (Zc rfl rfl (Opd.c (fun g=>Zdv g)))<|U2 [] (Zc rfl rfl U6)<|U3) fun a g s b=>?_
 refine wp_seq<|U4 [5,15,25,50,35] s b Za
  (Am 15 rfl<|U2 [0] (Zcj rfl rfl U0 U6)<|Am 0 rfl<|Gf [0,15] rfl (fun h=>Zx rfl rfl U0)<|Gf [10,0] rfl (fun h=>Zcn rfl rfl (V1 h U0) U6)<|U2 [20,0] (Zb3 rfl rfl U0 (fun hz=>(V1 (bNF hz) U1)))<|U3) fun a g s b=>?_
 refine Zs (s.bool 3 rfl) H0 (fun H0=>?_) (fun H0=>?_)
 ·refine U4 [5,10,20,15] (L:=[(0,_),(1001,_)]) (s.pi [0,4] rfl) b Za
   (U2 [] (Zl2 (.inr rfl))<|U2 (outs:=[(7,(Zde.sl.pd ([]:List Zbc)))]) (S:=[]) [] (Zc rfl rfl (Opd.c (fun g=>Zdv g)))<|U2 [] (Zc rfl rfl U6)<|U3) fun a g s b=>?_
  cases H0
 ·refine wp_skip<|Zl ?_
  obtain⟨r2,h3,H0⟩:=Zd H0
  refine wp_seq<|U5 [5,15,70,80,90] (L:=[(0,_),(2,_),(4,_),(1001,_)]) (s.pi [0,1,2,4] rfl) b Za
   (Am 5 rfl<|Al Zve 25 rfl<|U2 (outs:=[(26,(pTup [(Zkq none (Zma bI) 1 r2.2.2),((Kd.int .u8).sl.sl.pd r2.1),(pInt .i64 r2.2.1)]))]) (S:=[2,1000002]) [10,0,35] (Zv3 (m:=1001) Zbtf (Z8g _ _ h3) rfl rfl rfl rfl U7 U0 (.cons U1 .nil))<|Am 0 rfl<|U2 [0] (Z7 rfl rfl U0 rfl)<|U2 [10] (Z7 rfl rfl U0 rfl)<|U2 [20] (Z7 rfl rfl U0 rfl)<|Aa 20 rfl<|Aa 20 rfl<|Aa 20 rfl<|U3) fun a g s b=>?_
  obtain⟨bN4,s⟩:=Z41 1001 (i:=2) rfl s
  replace s:St 69 [(0,(pEq (ptrB bI 0))),(2,(pInt .i64 a2)),(9,(pEq (ptrB bN4 0))),(10,((Kd.int .u8).sl.sl.pd r2.1)),(11,(pInt .i64 r2.2.1)),(1001,(pPO (Zma bI) bN4 1 r2.2.2))] a g:=s
  refine Zl<|wp_seq ?_
  refine U4 [5,15,25,35,45,10,55] s b Za
   (Am 45 rfl<|U2 [0] (Zcv rfl rfl U0 U6)<|U3) fun a g s b=>?_
  refine Zs (s.bool 5 rfl) H0 (fun H0=>?_) (fun H0=>?_)
  ·refine U4 [5,20,30,25] (L:=[(0,_),(11,_),(1001,_)]) (s.pi [0,4,6] rfl) b Za
    (Am 15 rfl<|U2 [] (Zl2 (.inr rfl))<|U2 (outs:=[(7,(Zde.sl.pd ([]:List Zbc)))]) (S:=[]) [] (Zc rfl rfl (Opd.c (fun g=>Zdv g)))<|Aa 20 rfl<|U3) fun a g s b=>?_
   cases H0
  ·refine wp_skip<|Zl ?_
   refine U4 [5,15,25,35,0,45] (L:=[(0,_),(2,_),(9,_),(10,_),(1001,_)]) (s.pi [0,1,2,3,6] rfl) b Za
    (U2 (outs:=[(12,(pRow Zde 53 12 ([]:List Zbc)))]) (S:=[]) [] (Zc rfl rfl (Opd.c (fun g=>Zj1 12 g)))<|U3) fun a g s b=>?_
   refine wp_seq<|U4 [5,15,25,45,0,10,20,55] s b Za
    (Am 35 rfl<|U2 [0] (Zbv Zb05 rfl rfl U0)<|U2 [] (Zx rfl rfl U6)<|U3) fun a g s b=>?_
   obtain⟨z16,hz1,H0⟩:=Zd H0
   refine Zbq (fun a w=>∃(y15:List Zbc) (g:G),Jn 69 [(0,(pEq (ptrB bI 0))),(2,(pInt .i64 a2)),(9,(pEq (ptrB bN4 0))),(12,(pRow Zde 53 12 y15)),(1001,(pPO (Zma bI) bN4 1 r2.2.2))] a w g0 g ((.inr y15)=z16)) ?_ ?_
   ·rintro a w ⟨y15,g,rfl,s,b,rfl⟩
    refine Zl<|U4 [5,80,90,100,45] s b Za
     (Am 25 rfl<|Am 15 rfl<|Am 35 rfl<|U2 [0] (Zbv Tryz.underlying41 rfl rfl (Opd.imp U0 (fun _ _ h=>Zdt h)))<|U2 [20,0] (Zbw rfl rfl U0 U1 rfl)<|U2 (outs:=[(66,((Zkj bN4).pd ({r:=(),next:=(Zb0n.wrap (a2+(y15.length:Int)))}:Zdo)))]) (S:=[]) [40,0] (Zbh0 rfl rfl (Opd.adr U0) U1)<|U2 (outs:=[(67,(pBox (Zkj bN4) 67 ({r:=(),next:=(Zb0n.wrap (a2+(y15.length:Int)))}:Zdo)))]) (S:=[68]) [0] (Zln rfl rfl U0)<|Am 35 rfl<|Aa 10 rfl<|Aa 10 rfl<|U2 [] (Zc rfl rfl U6)<|U3) fun a g s b=>?_
    refine wp_ret ?_
    obtain rfl:=Oi H0
    exact Zbdh (fun _ _ _ h=>⟨_,h⟩) (by unfold AUX;decide) rfl rfl rfl s b (Zf (s:=6)) (Zf (s:=7)) (Zf (s:=8)) (s.at 1 rfl) (s.at 4 rfl) (Zdt (s.at 2 rfl)) (s.at 3 rfl)
   ·refine wp_block<|wp_loop_ghost (fun n a w=>∃(x6:List Zbc) (x7:Int) (g:G),Jn 69 [(0,(pEq (ptrB bI 0))),(2,(pInt .i64 a2)),(9,(pEq (ptrB bN4 0))),(12,(pRow Zde 53 12 x6)),(33,((Kd.int .u8).sl.sl.pd r2.1)),(34,(pInt .i64 (r2.1.length:Int))),(35,(pInt .i64 x7)),(1001,(pPO (Zma bI) bN4 1 r2.2.2))] a w g0 g (Zlc a2 r2 n x6 x7=some z16)) (Zb0q ((r2.1.length:Int)-(0:Int))+1) ⟨([]:List Zbc),(0:Int),g,rfl,(s.pi [0,1,2,3,4,5,6,7] rfl),b,hz1⟩ (fun n a w hI=>?_)
    obtain⟨x6,x7,g,rfl,s,b,H1⟩:=hI
    cases n with
    | zero=>exact absurd H1 (by simp[Zlc])
    | succ n =>
     rw[Zlc]at H1
     refine U4 [5,15,25,35,45,55,65,0,75] s b Za
      (U2 [65,55] (Zcj rfl rfl U0 U1)<|U3) fun a g s b=>?_
     refine wp_seq<|Zs (s.bool 7 rfl) H1 (fun H1=>?_) (fun H1=>?_)
     ·refine wp_skip<|Zl ?_
      refine wp_seq<|wp_block ?_
      obtain⟨e9,h10,H1⟩:=Zd H1
      refine U4 [5,15,25,35,30,40,45,55,65,75] (L:=[(0,_),(2,_),(9,_),(12,_),(33,_),(34,_),(35,_),(1001,_)]) (s.pi [0,1,2,3,4,5,6,8] rfl) b Za
       (Am 65 rfl<|U2 [45,65] (Zbn Zb05 Zbs2 rfl rfl U0 U1 h10)<|Al Z3c 0 rfl<|Aa 20 rfl<|Aa 10 rfl<|U3) fun a g s b=>?_
      obtain⟨r11,h12,H1⟩:=Zd H1
      refine U4 [5,15,25,35,45,70,80,65,75,85,95] s b Za
       (Am 55 rfl<|U2 [0] (Zt Zbs7 (Zbcj _ h12) rfl rfl (.cons U0 .nil))<|Am 0 rfl<|U2 [0] (Z7 rfl rfl U0 rfl)<|U2 [10] (Z7 rfl rfl U0 rfl)<|U2 [] (Zbmn 15 rfl rfl)<|U2 [] (Zblz 16 rfl rfl)<|U2 [30,10] (Zci Zqd rfl rfl U1 U0)<|U2 [30,10] (Zci Zxp rfl rfl U1 U0)<|U3) fun a g s b=>?_
      refine wp_seq<|U4 [5,15,25,35,55,75,85,95,100,105] s b Za
       (Al Zxp 65 rfl<|U2 [] (Z8m rfl rfl )<|U2 [10,0] (Zbnv rfl Zbs0 Tryz.underlying72 (by kernel_rfl) (by kernel_rfl) Zbqo rfl rfl U0 U1)<|Am 0 rfl<|Gf [0,55] rfl (fun h=>Zq Zws rfl rfl U0)<|Gf [10,0] rfl (fun h=>Z2 U9 rfl rfl (V1 h U0))<|Gf [20,15] rfl (fun h=>Zx rfl rfl U0)<|Gf [30,45] rfl (fun h=>Zx rfl rfl U0)<|Gf [40,10,0] rfl (fun h=>Zbw rfl rfl (V1 h U0) (V1 h U1) rfl)<|Gf [50,30,0] rfl (fun h=>Zcv rfl rfl (V1 h U0) (V1 h U1))<|U2 [60,0] (Zb3 rfl rfl U0 (fun hz=>(V1 (bNF hz) U1)))<|U3) fun a g s b=>?_
      refine Zs (s.bool 8 rfl) H1 (fun H1=>?_) (fun H1=>?_)
      ·refine U4 [5,10,20,15] (L:=[(0,_),(1001,_)]) (s.pi [0,9] rfl) b Za
        (U2 [] (Zl2 (.inr rfl))<|U2 (outs:=[(7,(Zde.sl.pd ([]:List Zbc)))]) (S:=[]) [] (Zc rfl rfl (Opd.c (fun g=>Zdv g)))<|U2 [] (Zc rfl rfl U6)<|U3) fun a g s b=>?_
       cases H1
      ·refine wp_skip<|Zl ?_
       obtain⟨h14,H1⟩:=Zdr H1
       refine U5 [5,15,25,40,55,65,75,85] (L:=[(0,_),(2,_),(9,_),(12,_),(15,_),(33,_),(34,_),(35,_),(1001,_)]) (s.pi [0,1,2,3,4,5,6,7,9] rfl) b Za
        (Am 35 rfl<|Al Zqd 45 rfl<|U2 [0] (Zgm Zbl3 (xs:=[.tmp 57]) (.cons U0 .nil) (by decide) rfl rfl)<|U2 [20,0] (Zdg Zbl3 rfl rfl U0 U1 h14)<|Aa 0 rfl<|U3) fun a g s b=>?_
       refine Zbb<|Zl ?_
       refine U5 [5,15,25,35,45,55,10,75] s b Za
        (U2 [65] (Zbw rfl rfl U0 U6 rfl)<|Am 0 rfl<|U3) fun a g s b=>?_
       exact⟨n,Zb0o _,(x6++([r11.1]:List Zbc)),(Zb0n.wrap (x7+(1:Int))),g,rfl,(s.pi [0,1,2,3,4,5,6,7] rfl),b,H1⟩
     ·refine wp_exit<|Zbx ?_
      refine Zbx<|Zcg ?_
      exact⟨x6,g,rfl,(s.pi [0,1,2,3,8] rfl),b,Oi H1⟩
theorem Zzt (a0:Ze) (a1:Int) {r:Ze} (H0:Zpb a0 a1=some r):FnMR Zb0k 10 Zc1 a0 r [(pInt .i64 a1)] (pTup []):=by
 unfold Zpb at H0
 refine Zpl (N:=9) Tryz.func10 rfl rfl (Qe rfl) rfl rfl (fun a g0 b0 s b=>?_)
 replace s:St 9 [(0,(pEq (ptrB b0 0))),(1,(pInt .i64 a1)),(1002,(pSJ Zby Zcp (hpL2 (pArr (Kd.arr 64 (Kd.int .u8)) 92 1000000 a0.firm) (pRow Zbr 94 1000001 a0.pending)) 0 b0 a0))] _ _:=Zhl s
 refine U5 [5,50] s b Za
  (Am 5 rfl<|Am 15 rfl<|U2 [0] (Zv5 rfl rfl U0 U6)<|U2 [20] (Zz rfl rfl U0)<|U2 [0] (Zbh Zt9 rfl rfl U0)<|U2 (outs:=[(1002,(pSJ Zby Zcp (hpL2 (pArr (Kd.arr 64 (Kd.int .u8)) 92 1000000 ({a0 with left:=(max a1 (0:Int))}:Ze).firm) (pRow Zbr 94 1000001 ({a0 with left:=(max a1 (0:Int))}:Ze).pending)) 0 b0 ({a0 with left:=(max a1 (0:Int))}:Ze)))]) (S:=[1]) [0,20,25] (Zo0 U9 rfl rfl (fpn rfl) U7 U0 U1 (fun g g' cs s0 ys h hr hy=>⟨s0,Zbfy h hy,hr⟩))<|U3) fun a g s b=>?_
 obtain rfl:=Oi H0
 exact Zbec rfl s b (s.at 1 rfl)
theorem Zyp (a0:Zb) {r:Int} (H0:Zmx a0=some r):FnOk Zb0k 63 [(Zg.pd a0)] (pInt .i64 r):=by
 unfold Zmx at H0
 refine Zb9 (N:=27) Tryz.func63 rfl rfl (Qe rfl) rfl rfl (fun a g0 s b=>?_)
 refine U4 [0] s b Za
  (U2 [5] (Zbt rfl rfl U0)<|U2 [] (Zc rfl rfl U6)<|U3) fun a g s b=>?_
 refine wp_seq<|U4 [5,90] s b Za
  (Af Zcm 5 rfl<|Al Zdx 0 rfl<|U2 [0] (Zbv Zb0l rfl rfl U0)<|U2 [0] (Zcn rfl rfl U0 U6)<|Am 0 rfl<|Gf [0,5] rfl (fun h=>Zq Zi1 rfl rfl U0)<|Gf [10,0] rfl (fun h=>Z2 V0 rfl rfl (V1 h U0))<|Gf [20,0] rfl (fun h=>Zg4 Zb0p rfl rfl (V1 h U0))<|Gf [30,0] rfl (fun h=>Zcn rfl rfl (V1 h U0) U6)<|U2 [40,0] (Zb3 rfl rfl U0 (fun hz=>(V1 (bNF hz) U1)))<|U3) fun a g s b=>?_
 refine Zs (s.bool 1 rfl) H0 (fun H0=>?_) (fun H0=>?_)
 ·refine U4 [0] (L:=[]) (s.pi [] rfl) b Za
   (U2 [] (Zc rfl rfl U6)<|U3) fun a g s b=>?_
  refine wp_ret<|Zp ?_
  obtain rfl:=Oi H0
  exact Zba rfl s b (Zf (s:=2)) (s.at 0 rfl)
 ·refine wp_skip<|Zl ?_
  refine wp_seq<|U4 [10,20,30] (L:=[(1,_)]) (s.pi [0] rfl) b Za
   (Af Zcm 5 rfl<|Al Zdx 0 rfl<|U2 [0] (Zbv Zb0l rfl rfl U0)<|U2 [] (Zx rfl rfl U6)<|U3) fun a g s b=>?_
  obtain⟨z7,hz1,H0⟩:=Zd H0
  refine Zbq (fun a w=>∃(g:G),Jn 27 [] a w g0 g ((.inr ())=z7)) ?_ ?_
  ·rintro a w ⟨g,rfl,s,b,rfl⟩
   refine Zl<|U4 [0] s b Za
    (U2 [] (Zc rfl rfl U6)<|U3) fun a g s b=>?_
   refine wp_ret ?_
   obtain rfl:=Oi H0
   exact Zba rfl s b (Zf (s:=2)) (s.at 0 rfl)
  ·refine wp_block<|wp_loop_ghost (fun n a w=>∃(x2:Int) (g:G),Jn 27 [(16,(Zy.sl.pd a0.List)),(17,(pInt .i64 (a0.List.length:Int))),(18,(pInt .i64 x2))] a w g0 g (Zgq a0 n x2=some z7)) (Zb0q ((a0.List.length:Int)-(0:Int))+1) ⟨(0:Int),g,rfl,(s.pi [0,1,2] rfl),b,hz1⟩ (fun n a w hI=>?_)
   obtain⟨x2,g,rfl,s,b,H1⟩:=hI
   cases n with
   | zero=>exact absurd H1 (by simp[Zgq])
   | succ n =>
    rw[Zgq]at H1
    refine U4 [5,15,25,0] s b Za
     (U2 [25,15] (Zcj rfl rfl U0 U1)<|U3) fun a g s b=>?_
    refine wp_seq<|Zs (s.bool 3 rfl) H1 (fun H1=>?_) (fun H1=>?_)
    ·refine wp_skip<|Zl ?_
     refine wp_seq<|wp_block ?_
     obtain⟨e4,h5,H1⟩:=Zd H1
     refine U4 [30,5,15,25] (L:=[(16,_),(17,_),(18,_)]) (s.pi [0,1,2] rfl) b Za
      (U2 [5,25] (Zbn Zb0l Zf1 rfl rfl U0 U1 h5)<|Al Zev 0 rfl<|U2 [] (Zs1 4 rfl rfl)<|U2 [10,0] (Zci Zev rfl rfl U1 U0)<|U3) fun a g s b=>?_
     refine U4 [15,25,35,30] s b Za
      (Af Zeq 5 rfl<|Al V0 0 rfl<|U2 [0] (Zg4 Zb0p rfl rfl U0)<|U2 [0] (Zcn rfl rfl U0 U6)<|U3) fun a g s b=>?_
     refine Zs (s.bool 3 rfl) H1 (fun H1=>?_) (fun H1=>?_)
     ·refine U4 [0] (L:=[]) (s.pi [] rfl) b Za
       (U2 [] (Zc rfl rfl U6)<|U3) fun a g s b=>?_
      refine wp_ret<|Z5 ?_
      refine Zp<|Zp ?_
      refine Z5<|Zp ?_
      refine Zp ?_
      obtain rfl:=Oi H1
      obtain rfl:=Oi H0
      exact Zba rfl s b (Zf (s:=2)) (s.at 0 rfl)
     ·refine wp_skip<|Zbb ?_
      refine Zl<|U5 [5,15,10] (L:=[(16,_),(17,_),(18,_)]) (s.pi [0,1,2] rfl) b Za
       (U2 [25] (Zbw rfl rfl U0 U6 rfl)<|Am 0 rfl<|U3) fun a g s b=>?_
      exact⟨n,Zb0o _,(Zb0n.wrap (x2+(1:Int))),g,rfl,(s.pi [0,1,2] rfl),b,H1⟩
    ·refine wp_exit<|Zbx ?_
     refine Zbx<|Zcg ?_
     exact⟨g,rfl,(s.pi [] rfl),b,Oi H1⟩
theorem Zza (a0:Zw) {r:Int} (H0:Zm3 a0=some r):FnOk Zb0k 39 [(Z6.pd a0)] (pInt .i64 r):=by
 unfold Zm3 at H0
 refine Zb9 (N:=19) Tryz.func39 rfl rfl (Qe rfl) rfl rfl (fun a g0 s b=>?_)
 refine U4 [0] s b Za
  (U2 [5] (Zbt rfl rfl U0)<|U2 [] (Zc rfl rfl U6)<|U3) fun a g s b=>?_
 refine wp_seq ?_
 obtain⟨r1,h2,H0⟩:=Zd H0
 refine U4 [150] s b Za
  (Af Zjy 5 rfl<|Al V0 0 rfl<|U2 [0] (Zg4 Zb0p rfl rfl U0)<|U2 [0] (Zcn rfl rfl U0 U6)<|Am 0 rfl<|Gf [0,5] rfl (fun h=>Zq Zfe rfl rfl U0)<|Gf [10,0] rfl (fun h=>Z2 V0 rfl rfl (V1 h U0))<|Gf [20,0] rfl (fun h=>Zg4 Zb0p rfl rfl (V1 h U0))<|Gf [30,0] rfl (fun h=>Zcn rfl rfl (V1 h U0) U6)<|U2 [40,0] (Zb3 rfl rfl U0 (fun hz=>(V1 (bNF hz) U1)))<|Am 0 rfl<|Gf [0,5] rfl (fun h=>Zq Zob rfl rfl U0)<|Gf [10,0] rfl (fun h=>Z2 Zbd rfl rfl (V1 h U0))<|Gf [20,0] rfl (fun h=>Zt Zbs8 (Zyp _ (Zcb h2 h)) rfl rfl (.cons (V1 h U0) .nil))<|Gf [30,0] rfl (fun h=>Zcn rfl rfl (V1 h U0) U6)<|U2 [40,0] (Zb3 rfl rfl U0 (fun hz=>(V1 (bNF hz) U1)))<|U3) fun a g s b=>?_
 refine Zs (s.bool 0 rfl) H0 (fun H0=>?_) (fun H0=>?_)
 refine U4 [0] (L:=[]) (s.pi [] rfl) b Za
  (U2 [] (Zc rfl rfl U6)<|U3) fun a g s b=>?_
 refine wp_ret<|Zp ?_
 obtain rfl:=Oi H0
 exact Zba rfl s b (Zf (s:=2)) (s.at 0 rfl)
 refine wp_skip<|Zl ?_
 refine U4 [0] (L:=[]) (s.pi [] rfl) b Za
  (U2 [] (Zc rfl rfl U6)<|U3) fun a g s b=>?_
 refine wp_ret ?_
 obtain rfl:=Oi H0
 exact Zba rfl s b (Zf (s:=2)) (s.at 0 rfl)
theorem Zyw (a0:Zbj) {r:Int} (H0:Zmz a0=some r):FnOk Zb0k 20 [(Zb1.pd a0)] (pInt .i64 r):=by
 unfold Zmz at H0
 refine Zb9 (N:=20) Tryz.func20 rfl rfl (Qe rfl) rfl rfl (fun a g0 s b=>?_)
 refine U4 [0] s b Za
  (U2 [5] (Zbt rfl rfl U0)<|U2 [] (Zc rfl rfl U6)<|U3) fun a g s b=>?_
 refine wp_seq<|U4 [5,30] s b Za
  (Af Zjh 5 rfl<|Al Zod 0 rfl<|U2 [0] (Zbv Zb0u rfl rfl U0)<|U2 [0] (Zcn rfl rfl U0 U6)<|U3) fun a g s b=>?_
 refine Zs (s.bool 1 rfl) H0 (fun H0=>?_) (fun H0=>?_)
 ·refine U4 [0] (L:=[]) (s.pi [] rfl) b Za
   (U2 [] (Zc rfl rfl U6)<|U3) fun a g s b=>?_
  refine wp_ret<|Zp ?_
  obtain rfl:=Oi H0
  exact Zba rfl s b (Zf (s:=2)) (s.at 0 rfl)
 ·refine wp_skip<|Zl ?_
  refine wp_seq<|U4 [10,20,30] (L:=[(1,_)]) (s.pi [0] rfl) b Za
   (Af Zjh 5 rfl<|Al Zod 0 rfl<|U2 [0] (Zbv Zb0u rfl rfl U0)<|U2 [] (Zx rfl rfl U6)<|U3) fun a g s b=>?_
  obtain⟨z9,hz1,H0⟩:=Zd H0
  refine Zbq (fun a w=>∃(g:G),Jn 20 [] a w g0 g ((.inr ())=z9)) ?_ ?_
  ·rintro a w ⟨g,rfl,s,b,rfl⟩
   refine Zl<|U4 [0] s b Za
    (U2 [] (Zc rfl rfl U6)<|U3) fun a g s b=>?_
   refine wp_ret ?_
   obtain rfl:=Oi H0
   exact Zba rfl s b (Zf (s:=2)) (s.at 0 rfl)
  ·refine wp_block<|wp_loop_ghost (fun n a w=>∃(x2:Int) (g:G),Jn 20 [(10,(Z6.sl.pd a0.Acts)),(11,(pInt .i64 (a0.Acts.length:Int))),(12,(pInt .i64 x2))] a w g0 g (Zfk a0 n x2=some z9)) (Zb0q ((a0.Acts.length:Int)-(0:Int))+1) ⟨(0:Int),g,rfl,(s.pi [0,1,2] rfl),b,hz1⟩ (fun n a w hI=>?_)
   obtain⟨x2,g,rfl,s,b,H1⟩:=hI
   cases n with
   | zero=>exact absurd H1 (by simp[Zfk])
   | succ n =>
    rw[Zfk]at H1
    refine U4 [5,15,25,0] s b Za
     (U2 [25,15] (Zcj rfl rfl U0 U1)<|U3) fun a g s b=>?_
    refine wp_seq<|Zs (s.bool 3 rfl) H1 (fun H1=>?_) (fun H1=>?_)
    ·refine wp_skip<|Zl ?_
     refine wp_seq<|wp_block ?_
     obtain⟨e4,h5,H1⟩:=Zd H1
     refine U4 [30,5,15,25] (L:=[(10,_),(11,_),(12,_)]) (s.pi [0,1,2] rfl) b Za
      (U2 [5,25] (Zbn Zb0u Zub rfl rfl U0 U1 h5)<|Al Zgb 0 rfl<|U2 [] (Zwg 4 rfl rfl)<|U2 [10,0] (Zci Zgb rfl rfl U1 U0)<|U3) fun a g s b=>?_
     obtain⟨r6,h7,H1⟩:=Zd H1
     refine U4 [15,25,35,20] s b Za
      (Al Zgb 5 rfl<|U2 [0] (Zt Zbtb (Zza _ h7) rfl rfl (.cons U0 .nil))<|U2 [0] (Zcn rfl rfl U0 U6)<|U3) fun a g s b=>?_
     refine Zs (s.bool 3 rfl) H1 (fun H1=>?_) (fun H1=>?_)
     ·refine U4 [0] (L:=[]) (s.pi [] rfl) b Za
       (U2 [] (Zc rfl rfl U6)<|U3) fun a g s b=>?_
      refine wp_ret<|Z5 ?_
      refine Zp<|Zp ?_
      refine Z5<|Zp ?_
      refine Zp ?_
      obtain rfl:=Oi H1
      obtain rfl:=Oi H0
      exact Zba rfl s b (Zf (s:=2)) (s.at 0 rfl)
     ·refine wp_skip<|Zbb ?_
      refine Zl<|U5 [5,15,10] (L:=[(10,_),(11,_),(12,_)]) (s.pi [0,1,2] rfl) b Za
       (U2 [25] (Zbw rfl rfl U0 U6 rfl)<|Am 0 rfl<|U3) fun a g s b=>?_
      exact⟨n,Zb0o _,(Zb0n.wrap (x2+(1:Int))),g,rfl,(s.pi [0,1,2] rfl),b,H1⟩
    ·refine wp_exit<|Zbx ?_
     refine Zbx<|Zcg ?_
     exact⟨g,rfl,(s.pi [] rfl),b,Oi H1⟩
theorem Zy8 (a0:List Zbj) {r:Int} (H0:Zmi a0=some r):FnOk Zb0k 11 [(Zb1.sl.pd a0)] (pInt .i64 r):=by
 unfold Zmi at H0
 refine Zb9 (N:=18) Tryz.func11 rfl rfl (Qe rfl) rfl rfl (fun a g0 s b=>?_)
 refine U4 [5] s b Za
  (U2 [] (Zc rfl rfl U6)<|U3) fun a g s b=>?_
 refine wp_seq<|U4 [5,20] s b Za
  (Am 5 rfl<|U2 [0] (Zbv Zb0w rfl rfl U0)<|U2 [0] (Zcn rfl rfl U0 U6)<|U3) fun a g s b=>?_
 refine Zs (s.bool 1 rfl) H0 (fun H0=>?_) (fun H0=>?_)
 ·refine U4 [0] (L:=[]) (s.pi [] rfl) b Za
   (U2 [] (Zc rfl rfl U6)<|U3) fun a g s b=>?_
  refine wp_ret<|Zp ?_
  obtain rfl:=Oi H0
  exact Zba rfl s b (Zf (s:=2)) (s.at 0 rfl)
 ·refine wp_skip<|Zl ?_
  refine wp_seq<|U4 [0,10,20] (L:=[(0,_)]) (s.pi [0] rfl) b Za
   (Am 5 rfl<|U2 [0] (Zbv Zb0w rfl rfl U0)<|U2 [] (Zx rfl rfl U6)<|U3) fun a g s b=>?_
  obtain⟨z9,hz1,H0⟩:=Zd H0
  refine Zbq (fun a w=>∃(g:G),Jn 18 [] a w g0 g ((.inr ())=z9)) ?_ ?_
  ·rintro a w ⟨g,rfl,s,b,rfl⟩
   refine Zl<|U4 [0] s b Za
    (U2 [] (Zc rfl rfl U6)<|U3) fun a g s b=>?_
   refine wp_ret ?_
   obtain rfl:=Oi H0
   exact Zba rfl s b (Zf (s:=2)) (s.at 0 rfl)
  ·refine wp_block<|wp_loop_ghost (fun n a w=>∃(x2:Int) (g:G),Jn 18 [(8,(Zb1.sl.pd a0)),(9,(pInt .i64 (a0.length:Int))),(10,(pInt .i64 x2))] a w g0 g (Zfq a0 n x2=some z9)) (Zb0q ((a0.length:Int)-(0:Int))+1) ⟨(0:Int),g,rfl,(s.pi [0,1,2] rfl),b,hz1⟩ (fun n a w hI=>?_)
   obtain⟨x2,g,rfl,s,b,H1⟩:=hI
   cases n with
   | zero=>exact absurd H1 (by simp[Zfq])
   | succ n =>
    rw[Zfq]at H1
    refine U4 [5,15,25,0] s b Za
     (U2 [25,15] (Zcj rfl rfl U0 U1)<|U3) fun a g s b=>?_
    refine wp_seq<|Zs (s.bool 3 rfl) H1 (fun H1=>?_) (fun H1=>?_)
    ·refine wp_skip<|Zl ?_
     refine wp_seq<|wp_block ?_
     obtain⟨e4,h5,H1⟩:=Zd H1
     refine U4 [30,5,15,25] (L:=[(8,_),(9,_),(10,_)]) (s.pi [0,1,2] rfl) b Za
      (U2 [5,25] (Zbn Zb0w Z4n rfl rfl U0 U1 h5)<|Al Zl8 0 rfl<|U2 [] (Z4e 4 rfl rfl)<|U2 [10,0] (Zci Zl8 rfl rfl U1 U0)<|U3) fun a g s b=>?_
     obtain⟨r6,h7,H1⟩:=Zd H1
     refine U4 [15,25,35,20] s b Za
      (Al Zl8 5 rfl<|U2 [0] (Zt Zbsi (Zyw _ h7) rfl rfl (.cons U0 .nil))<|U2 [0] (Zcn rfl rfl U0 U6)<|U3) fun a g s b=>?_
     refine Zs (s.bool 3 rfl) H1 (fun H1=>?_) (fun H1=>?_)
     ·refine U4 [0] (L:=[]) (s.pi [] rfl) b Za
       (U2 [] (Zc rfl rfl U6)<|U3) fun a g s b=>?_
      refine wp_ret<|Z5 ?_
      refine Zp<|Zp ?_
      refine Z5<|Zp ?_
      refine Zp ?_
      obtain rfl:=Oi H1
      obtain rfl:=Oi H0
      exact Zba rfl s b (Zf (s:=2)) (s.at 0 rfl)
     ·refine wp_skip<|Zbb ?_
      refine Zl<|U5 [5,15,10] (L:=[(8,_),(9,_),(10,_)]) (s.pi [0,1,2] rfl) b Za
       (U2 [25] (Zbw rfl rfl U0 U6 rfl)<|Am 0 rfl<|U3) fun a g s b=>?_
      exact⟨n,Zb0o _,(Zb0n.wrap (x2+(1:Int))),g,rfl,(s.pi [0,1,2] rfl),b,H1⟩
    ·refine wp_exit<|Zbx ?_
     refine Zbx<|Zcg ?_
     exact⟨g,rfl,(s.pi [] rfl),b,Oi H1⟩
theorem Z01 {bI:Nat} (a0:Zb4) {r:Int×Zb4} (H0:Zqh a0=some r):FnB Zb0k 43 [.box (Zeo bI) a0 r.2] (pInt .i64 r.1):=by
 unfold Zqh at H0
 refine Zf2 (N:=13) Tryz.func43 rfl rfl (Qe rfl) rfl rfl (fun a g0 bs hbs s b=>?_)
 obtain⟨b0,rfl⟩:=Znj hbs
 replace s:St 13 [(0,(Zbm (some b0) (Zeo bI) 0 a0))] _ _:=s
 replace s:St 13 [(0,(pEq (ptrB b0 0))),(1002,(pRB (Zeo bI) 0 b0 a0))] _ _:=Zhm s
 refine U4 [5,15] s b Za
  (U2 [] (Zc rfl rfl U6)<|U3) fun a g s b=>?_
 refine U4 [5,100,15] s b Za
  (Am 5 rfl<|U2 [0] (Zz rfl rfl U0)<|U2 [0] (Zbh Z88 rfl rfl U0)<|U2 [0] (Zbh Zbog rfl rfl U0)<|U2 [0,15] (Zd3 U9 (fun g cs h=>Zbfv h) rfl rfl U1 U0)<|Am 5 rfl<|U2 [0] (Zz rfl rfl U0)<|U2 [0] (Zbh Zxg rfl rfl U0)<|U2 [0,15] (Zd3 U9 (fun g cs h=>Z2g h) rfl rfl U1 U0)<|U2 [40,0] (Zei rfl rfl U0 U1 rfl)<|Aa 0 rfl<|U3) fun a g s b=>?_
 refine wp_ret ?_
 obtain rfl:=Oi H0
 exact Zgk rfl s b (Zf (s:=2)) (s.at 1 rfl) ⟨Zkm (s.at 2 rfl),trivial⟩
theorem Zbbc (a0:List Int) {r:(List Int)×Int} (H0:Ztm a0=some r):FnOk Zb0k 44 [((Kd.int .u8).sl.pd a0)] (pTup [((Kd.arr 64 (Kd.int .u8)).pd r.1),(pInt .i64 r.2)]):=by
 unfold Ztm at H0
 refine Zb9 (N:=17) Tryz.func44 rfl rfl (Qe rfl) rfl rfl (fun a g0 s b=>?_)
 refine U4 [5,0] s b Za
  (U2 [] (Z0a 2 rfl rfl)<|U2 [] (Zc rfl rfl U6)<|U3) fun a g s b=>?_
 refine wp_seq<|U4 [5,15,20] s b Za
  (Am 5 rfl<|U2 [0] (Zbv Zb0s rfl rfl U0)<|U2 [0] (Zcn rfl rfl U0 U6)<|U3) fun a g s b=>?_
 refine Zs (s.bool 2 rfl) H0 (fun H0=>?_) (fun H0=>?_)
 refine U4 [10,20] (L:=[(2,_)]) (s.pi [1] rfl) b Za
  (U2 [] (Zp0 (k:=.u8) (ps:=[]) (vs:=[]) Zb01 (by kernel_rfl) (by kernel_rfl) rfl rfl rfl rfl .nil)<|U2 [0,5] (Z9 Zio rfl rfl U1 U0)<|U2 [] (Zc rfl rfl U6)<|U3) fun a g s b=>?_
 refine wp_ret<|Zp ?_
 obtain rfl:=Oi H0
 obtain⟨u0,hu0,hq0⟩:=Zbi (P:=Zb0k) Zio (s.at 0 rfl)
 exact Zdq rfl s b hu0 (Zf (s:=3)) (Zcr hq0 (s.at 1 rfl))
 refine wp_skip<|Zl ?_
 refine U4 [5,15,50] (L:=[(0,_),(2,_)]) (s.pi [0,1] rfl) b Za
  (Am 5 rfl<|U2 [0] (Zbv Zb0s rfl rfl U0)<|U2 [0] (Zek Zb0y Zb02 rfl rfl U0 rfl)<|U2 [0] (Zp0 (k:=.u8) (ps:=[(0,.const (.int .u8 1)),(1,.tmp 11),(63,.const (.int .u8 1))]) (vs:=[(0,(1:Int)),(1,(Zb1d.wrap (a0.length:Int))),(63,(1:Int))]) Zb01 (by kernel_rfl) (by kernel_rfl) rfl rfl rfl rfl (.cons U6 (.cons U0 (.cons U6 .nil))))<|U2 [] (Z0a 4 rfl rfl)<|U2 [10,0] (Z9 Zio rfl rfl U1 U0)<|U3) fun a g s b=>?_
 obtain⟨h2,H0⟩:=Zdr H0;obtain⟨h3,H0⟩:=Zdr H0
 refine U4 [15,21] s b Za
  (U2 (outs:=[(13,(pVw 4 (Zb0q (2:Int)*(Kd.int .u8).sz) (Zb0q (64:Int)-Zb0q (2:Int)) (64-Zb0q (2:Int))))]) (S:=[]) [25] (Zbi4 (l:=(2:Int)) (h:=(64:Int)) Zb01 sz_5 h2 rfl rfl U0 (.inr ⟨_,_,rfl,U6⟩) (.inl ⟨rfl,rfl⟩))<|Am 5 rfl<|U2 (outs:=[(15,(pInt .i64 (a0.length:Int))),(4,(pBox (Kd.arr 64 (Kd.int .u8)) 4 (Zi0 (setI (List.replicate 64 (0:Int)) [(0,(1:Int)),(1,(Zb1d.wrap (a0.length:Int))),(63,(1:Int))]) (Zb0q (2:Int)) a0)))]) (S:=[5]) [10,0,25] (Zbj2 Zlb h3.1 h3.2 rfl rfl (by decide) U0 U1 U7)<|U3) fun a g s b=>?_
 refine U4 [10,20] s b Za
  (AM Zio 15 rfl<|U2 [0,5] (Z9 Zio rfl rfl U1 U0)<|U2 [] (Zc rfl rfl U6)<|U3) fun a g s b=>?_
 refine wp_ret ?_
 obtain rfl:=Oi H0
 obtain⟨u0,hu0,hq0⟩:=Zbi (P:=Zb0k) Zio (s.at 0 rfl)
 exact Zdq rfl s b hu0 (Zf (s:=3)) (Zcr hq0 (s.at 1 rfl))
theorem Zx6 {bI:Nat} (a0:(Zb4×Ze)) (a1:List Int) {r:Int×((Zb4×Ze))} (H0:Zom a0 a1=some r):FnMR Zb0k 22 (Zma bI) a0 r.2 [((Kd.int .u8).sl.pd a1)] (pInt .i64 r.1):=by
 unfold Zom at H0
 refine Zz4 (N:=90) Tryz.func22 rfl rfl (Qe rfl) rfl rfl (fun a g0 g b0 s b=>?_)
 replace s:St 90 [(0,(pEq (ptrB b0 0))),(1,((Kd.int .u8).sl.pd a1)),(1001,(pPO Zc1 bI 1 a0.2)),(1002,(pRB (Zeo bI) 0 b0 a0.1))] a g:=s
 refine U4 [5,15,25,35] s b Za
  (U2 [] (Zc rfl rfl U6)<|U3) fun a g s b=>?_
 refine wp_seq<|wp_block ?_
 obtain⟨r1,h2,H0⟩:=Zd H0
 refine U4 [5,15,50,41,35] s b Za
  (Am 5 rfl<|U2 [0] (Zz rfl rfl U0)<|U2 [0] (Zbh Z19 rfl rfl U0)<|U2 (outs:=[(15,(pEq (ptrB bI 0)))]) (S:=[]) [0,35] (Zqw Zbag (fun g cs h=>Z2s h) rfl rfl U1 U0)<|U2 (outs:=[(16,(Zbo r1)),(1001,(pPO Zc1 bI 1 a0.2))]) (S:=[2,1000002]) [0,25] (Zf5 (m:=1001) Zblt (Ztt _ h2) rfl rfl rfl U1 U0 .nil)<|Aa 0 rfl<|U3) fun a g s b=>?_
 refine Zs (s.bool 2 rfl) H0 (fun H0=>?_) (fun H0=>?_)
 ·refine U4 [5,0,15,25] (L:=[(0,_),(1001,_),(1002,_)]) (s.pi [0,3,4] rfl) b Za
   (U2 [] (Zc rfl rfl U6)<|U3) fun a g s b=>?_
  refine wp_ret<|Z5 ?_
  refine Zp ?_
  obtain rfl:=Oi H0
  exact Zq1 rfl s b (Zf (s:=4)) (s.at 1 rfl) (s.at 2 rfl) (s.at 3 rfl)
 ·refine U4 [5,15,30,25,35] (L:=[(0,_),(1,_),(1001,_),(1002,_)]) (s.pi [0,1,3,4] rfl) b Za
   (Am 15 rfl<|U2 [0] (Zbv Zb0s rfl rfl U0)<|U2 [0] (Zcn rfl rfl U0 U6)<|Aa 0 rfl<|U3) fun a g s b=>?_
  refine Zs (s.bool 2 rfl) H0 (fun H0=>?_) (fun H0=>?_)
  ·refine U4 [5,0,15,25] (L:=[(0,_),(1001,_),(1002,_)]) (s.pi [0,3,4] rfl) b Za
    (U2 [] (Zc rfl rfl U6)<|U3) fun a g s b=>?_
   refine wp_ret<|Z5 ?_
   refine Zp ?_
   obtain rfl:=Oi H0
   exact Zq1 rfl s b (Zf (s:=4)) (s.at 1 rfl) (s.at 2 rfl) (s.at 3 rfl)
  ·obtain⟨r5,h6,H0⟩:=Zd H0;obtain⟨r7,h8,H0⟩:=Zd H0
   refine U4 [5,15,60,25,41] (L:=[(0,_),(1,_),(1001,_),(1002,_)]) (s.pi [0,1,3,4] rfl) b Za
    (Am 15 rfl<|U2 [0] (Zbv Zb0s rfl rfl U0)<|U2 [0] (Zt en_6 (Zuj _ h6) rfl rfl (.cons U0 .nil))<|Am 5 rfl<|U2 [0,35] (Zce (m:=1002) (A:=[]) Zbrz (Z01 _ h8) rfl rfl rfl (by decide) U1 U0 .nil)<|U2 [20,0] (Zcn rfl rfl U0 U1)<|Aa 0 rfl<|U3) fun a g s b=>?_
   refine Zs (s.bool 2 rfl) H0 (fun H0=>?_) (fun H0=>?_)
   ·refine U4 [5,0,15,25] (L:=[(0,_),(1001,_),(1002,_)]) (s.pi [0,3,4] rfl) b Za
     (U2 [] (Zc rfl rfl U6)<|U3) fun a g s b=>?_
    refine wp_ret<|Z5 ?_
    refine Zp ?_
    obtain rfl:=Oi H0
    exact Zq1 rfl s b (Zf (s:=4)) (s.at 1 rfl) (s.at 2 rfl) (s.at 3 rfl)
   ·refine wp_skip<|Zbb ?_
    refine Zl ?_
    obtain⟨r10,h11,H0⟩:=Zd H0
    refine U4 [5,15,30,25,35] (L:=[(0,_),(1,_),(1001,_),(1002,_)]) (s.pi [0,1,3,4] rfl) b Za
     (Am 15 rfl<|U2 [0] (Zbv Zb0s rfl rfl U0)<|U2 [0] (Zt en_6 (Zuj _ h11) rfl rfl (.cons U0 .nil))<|Aa 0 rfl<|U3) fun a g s b=>?_
    refine wp_seq<|U4 [5,15,25,0,10,35,45] s b Za
     (Am 25 rfl<|U2 [] (Zx rfl rfl U6)<|U3) fun a g s b=>?_
    obtain⟨z24,hz1,H0⟩:=Zd H0
    refine Zbq (fun a w=>∃(y23:Ze) (g:G),Jn 90 [(0,(pEq (ptrB b0 0))),(5,(pInt .i64 r10)),(1001,(pPO Zc1 bI 1 y23)),(1002,(pRB (Zeo bI) 0 b0 r7.2))] a w g0 g ((.inr y23)=z24)) ?_ ?_
    ·rintro a w ⟨y23,g,rfl,s,b,rfl⟩
     refine Zl<|U4 [5,25,80] s b Za
      (Am 5 rfl<|U2 [0] (Zz rfl rfl U0)<|U2 [0] (Zbh Zxg rfl rfl U0)<|U2 [0,35] (Zd3 U9 (fun g cs h=>Z2g h) rfl rfl U1 U0)<|Am 15 rfl<|U2 [10,0] (Zbw rfl rfl U0 U1 rfl)<|U2 [50] (Zz rfl rfl U0)<|U2 [0] (Zbh Zxg rfl rfl U0)<|U2 (outs:=[(1002,(pRB (Zeo bI) 0 b0 ({r7.2 with at_:=(Zb0n.wrap (r7.2.at_+r10))}:Zb4)))]) (S:=[1]) [0,20,35] (Zry (v':=({r7.2 with at_:=(Zb0n.wrap (r7.2.at_+r10))}:Zb4)) U9 rfl rfl U7 U0 U1 (fun g cs ys h hy=>Zbk3 h hy))<|U3) fun a g s b=>?_
     refine U4 [5,0,15,25] s b Za
      (U2 [] (Zc rfl rfl U6)<|U3) fun a g s b=>?_
     refine wp_ret ?_
     obtain rfl:=Oi H0
     exact Zq1 rfl s b (Zf (s:=4)) (s.at 1 rfl) (s.at 2 rfl) (s.at 3 rfl)
    ·refine wp_block<|wp_loop_ghost (fun n a w=>∃(x12:Int) (x13:Ze) (g:G),Jn 90 [(0,(pEq (ptrB b0 0))),(1,((Kd.int .u8).sl.pd a1)),(5,(pInt .i64 r10)),(31,(pInt .i64 r10)),(32,(pInt .i64 x12)),(1001,(pPO Zc1 bI 1 x13)),(1002,(pRB (Zeo bI) 0 b0 r7.2))] a w g0 g (Ze5 a1 r7 r10 n x12 x13=some z24)) (Zb0q (r10-(0:Int))+1) ⟨(0:Int),a0.2,g,rfl,(s.pi [0,1,2,3,4,5,6] rfl),b,hz1⟩ (fun n a w hI=>?_)
     obtain⟨x12,x13,g,rfl,s,b,H1⟩:=hI
     cases n with
     | zero=>exact absurd H1 (by simp[Ze5])
     | succ n =>
      rw[Ze5]at H1
      refine U4 [5,15,25,35,45,0,55,65] s b Za
       (U2 [45,35] (Zcj rfl rfl U0 U1)<|U3) fun a g s b=>?_
      refine wp_seq<|Zs (s.bool 5 rfl) H1 (fun H1=>?_) (fun H1=>?_)
      ·refine wp_skip<|Zl ?_
       refine wp_seq<|wp_block ?_
       refine U4 [5,15,25,10,35,45,55,65] (L:=[(0,_),(1,_),(5,_),(31,_),(32,_),(1001,_),(1002,_)]) (s.pi [0,1,2,3,4,6,7] rfl) b Za
        (Am 45 rfl<|Aa 0 rfl<|U3) fun a g s b=>?_
       obtain⟨c15,h16,H1⟩:=Zd H1
       refine U4 [5,15,25,35,130,45,55,65,75] s b Za
        (Am 15 rfl<|Am 35 rfl<|U2 [0] (Zyx rfl rfl U0 U6 rfl)<|Am 15 rfl<|U2 [0] (Zbv Zb0s rfl rfl U0)<|U2 [20,0] (Z3j rfl rfl U0 U1)<|Am 35 rfl<|U2 [0] (Zbw rfl rfl U0 U6 rfl)<|U2 [0] (Zyx rfl rfl U0 U6 rfl)<|Am 15 rfl<|U2 [0] (Zbv Zb0s rfl rfl U0)<|U2 [20,0] (Z3j rfl rfl U0 U1)<|U2 [110,60,0] (Zbb1 Zb0s sz_5 rfl rfl U0 U1 U7 h16)<|Aa 0 rfl<|U3) fun a g s b=>?_
       obtain⟨h17,H1⟩:=Zdr H1;obtain⟨r18,h19,H1⟩:=Zd H1
       refine U4 [5,15,25,35,130,55,65,75,85] s b Za
        (Am 25 rfl<|U2 [0] (Zei rfl rfl U0 U6 rfl)<|Am 35 rfl<|U2 [10,0] (Zei rfl rfl U0 U1 rfl)<|U2 [0] (Zek Zb0y Zb02 rfl rfl U0 rfl)<|U2 [0] (Zka 54 Zlb (xs:=[.tmp 53]) (.cons U0 .nil) (by decide) rfl rfl)<|Am 45 rfl<|U2 [10,0] (Zdg Zlb rfl rfl U0 U1 h17)<|U2 [0] (Zt Zbsr (Zbbc _ h19) rfl rfl (.cons (Opd.imp U0 (fun _ _ h=>Zdt h)) .nil))<|Am 0 rfl<|U2 [0] (Z7 rfl rfl U0 rfl)<|U2 [10] (Z7 rfl rfl U0 rfl)<|U2 [] (Z0a 8 rfl rfl)<|U2 [20,0] (Zci Zio rfl rfl U1 U0)<|Aa 20 rfl<|U3) fun a g s b=>?_
       obtain⟨r20,h21,H1⟩:=Zd H1
       refine U4 [5,15,25,180,55,65,171,85] s b Za
        (Am 5 rfl<|U2 [0] (Zz rfl rfl U0)<|U2 [0] (Zbh Z19 rfl rfl U0)<|U2 (outs:=[(63,(pEq (ptrB bI 0)))]) (S:=[]) [0,85] (Zqw Zbag (fun g cs h=>Z2s h) rfl rfl U1 U0)<|Am 5 rfl<|U2 [0] (Zz rfl rfl U0)<|U2 [0] (Zbh Z88 rfl rfl U0)<|U2 [0] (Zbh Zbnx rfl rfl U0)<|U2 [0,85] (Zd3 U9 (fun g cs h=>Zbep h) rfl rfl U1 U0)<|Am 5 rfl<|U2 [0] (Zz rfl rfl U0)<|U2 [0] (Zbh Zxg rfl rfl U0)<|U2 [0,85] (Zd3 U9 (fun g cs h=>Z2g h) rfl rfl U1 U0)<|U2 [40,0] (Zbw rfl rfl U0 U1 rfl)<|Am 35 rfl<|U2 [10,0] (Zbw rfl rfl U0 U1 rfl)<|Al Zio 45 rfl<|U2 (outs:=[(77,(pInt .i64 r20.1)),(1001,(pPO Zc1 bI 1 r20.2))]) (S:=[2,1000002]) [130,10,0,75] (Zf5 (m:=1001) Zblj (Zsy _ _ _ h21) rfl rfl rfl u_3 U0 (.cons U1 (.cons U7 .nil)))<|Aa 0 rfl<|U3) fun a g s b=>?_
       refine U4 [5,15,25,35,45,55,10,65,75] s b Za
        (Am 35 rfl<|U2 [0] (Zcv rfl rfl U0 U6)<|U3) fun a g s b=>?_
       refine Zs (s.bool 6 rfl) H1 (fun H1=>?_) (fun H1=>?_)
       ·refine U4 [5,10,25,35] (L:=[(0,_),(10,_),(1001,_),(1002,_)]) (s.pi [0,3,7,8] rfl) b Za
         (Am 15 rfl<|Aa 0 rfl<|U3) fun a g s b=>?_
        refine wp_ret<|Z5 ?_
        refine Zp<|Zp ?_
        refine Z5<|Zp ?_
        refine Zp ?_
        obtain rfl:=Oi H1
        obtain rfl:=Oi H0
        exact Zq1 rfl s b (Zf (s:=4)) (s.at 1 rfl) (s.at 2 rfl) (s.at 3 rfl)
       ·refine wp_skip<|Zbb ?_
        refine Zl<|U5 [5,15,25,35,10,55,65] (L:=[(0,_),(1,_),(5,_),(31,_),(32,_),(1001,_),(1002,_)]) (s.pi [0,1,2,4,5,7,8] rfl) b Za
         (U2 [45] (Zbw rfl rfl U0 U6 rfl)<|Am 0 rfl<|U3) fun a g s b=>?_
        exact⟨n,Zb0o _,(Zb0n.wrap (x12+(1:Int))),r20.2,g,rfl,(s.pi [0,1,2,3,4,5,6] rfl),b,H1⟩
      ·refine wp_exit<|Zbx ?_
       refine Zbx<|Zcg ?_
       exact⟨x13,g,rfl,(s.pi [0,2,6,7] rfl),b,Oi H1⟩
theorem Z9n (a0:Zbc) {r:List Int} (H0:Zte a0=some r):FnOk Zb0k 23 [(Zde.pd a0)] ((Kd.int .u8).sl.pd r):=by
 unfold Zte at H0
 refine Zb9 (N:=14) Tryz.func23 rfl rfl (Qe rfl) rfl rfl (fun a g0 s b=>?_)
 refine U4 [0] s b Za
  (U2 [5] (Zbt rfl rfl U0)<|U2 (outs:=[(2,((Kd.int .u8).sl.pd ([]:List Int)))]) (S:=[]) [] (Zc rfl rfl (Opd.c (fun g=>Zdv g)))<|U3) fun a g s b=>?_
 refine wp_seq ?_
 obtain⟨r1,h2,H0⟩:=Zd H0
 refine U4 [5,50] s b Za
  (Al Zqd 5 rfl<|U2 [0] (Zt Zbek (Zu2 _ h2) rfl rfl (.cons U0 .nil))<|Am 0 rfl<|U2 [0] (Z7 rfl rfl U0 rfl)<|U2 [10] (Z7 rfl rfl U0 rfl)<|Aa 10 rfl<|Aa 10 rfl<|U3) fun a g s b=>?_
 refine U4 [5,10] s b Za
  (Am 15 rfl<|U2 [0] (Zcv rfl rfl U0 U6)<|U3) fun a g s b=>?_
 refine Zs (s.bool 1 rfl) H0 (fun H0=>?_) (fun H0=>?_)
 refine U4 [0] (L:=[]) (s.pi [] rfl) b Za
  (U2 (outs:=[(2,((Kd.int .u8).sl.pd ([]:List Int)))]) (S:=[]) [] (Zc rfl rfl (Opd.c (fun g=>Zdv g)))<|U3) fun a g s b=>?_
 refine wp_ret<|Zp ?_
 obtain rfl:=Oi H0
 exact Zba rfl s b (Zf (s:=2)) (s.at 0 rfl)
 refine wp_skip<|Zl ?_
 obtain⟨r4,h5,H0⟩:=Zd H0
 refine U4 [20] (L:=[(1,_)]) (s.pi [0] rfl) b Za
  (Al Zqd 5 rfl<|U2 [0] (Zt Zbme (Zwc _ h5) rfl rfl (.cons U0 .nil))<|Aa 0 rfl<|U3) fun a g s b=>?_
 refine wp_ret ?_
 obtain rfl:=Oi H0
 exact Zba rfl s b (Zf (s:=2)) (s.at 0 rfl)
theorem Z1b {bI:Nat} (a0:(Zb4×Ze)) {r:Int×((Zb4×Ze))} (H0:Zqb a0=some r):FnMR Zb0k 24 (Zma bI) a0 r.2 [] (pInt .i64 r.1):=by
 unfold Zqb at H0
 refine Zz4 (N:=8) Tryz.func24 rfl rfl (Qe rfl) rfl rfl (fun a g0 g b0 s b=>?_)
 replace s:St 8 [(0,(pEq (ptrB b0 0))),(1001,(pPO Zc1 bI 1 a0.2)),(1002,(pRB (Zeo bI) 0 b0 a0.1))] a g:=s
 refine U4 [5,15,25] s b Za
  (U2 [] (Zc rfl rfl U6)<|U3) fun a g s b=>?_
 obtain⟨r1,h2,H0⟩:=Zd H0
 refine U4 [5,50,41,25] s b Za
  (Am 5 rfl<|U2 [0] (Zz rfl rfl U0)<|U2 [0] (Zbh Z19 rfl rfl U0)<|U2 (outs:=[(6,(pEq (ptrB bI 0)))]) (S:=[]) [0,25] (Zqw Zbag (fun g cs h=>Z2s h) rfl rfl U1 U0)<|U2 (outs:=[(7,(pInt .i64 r1.1)),(1001,(pPO Zc1 bI 1 r1.2))]) (S:=[2,1000002]) [0,15] (Zf5 (m:=1001) Zblv (Ztu _ h2) rfl rfl rfl U1 U0 .nil)<|Aa 0 rfl<|U3) fun a g s b=>?_
 refine wp_ret ?_
 obtain rfl:=Oi H0
 exact Zq1 rfl s b (Zf (s:=2)) (s.at 1 rfl) (s.at 2 rfl) (s.at 3 rfl)
theorem Z5a {bI:Nat} (a0:(Zdo×(Zb4×Ze))) (a1:Zbc) {r:Int×((Zdo×(Zb4×Ze)))} (H0:Zm5 a0 a1=some r):FnMR Zb0k 12 (Zl0 bI) a0 r.2 [(Zde.pd a1)] (pInt .i64 r.1):=by
 unfold Zm5 at H0
 refine fnEx (fun c=>?_)
 refine Zz4 (N:=49) Tryz.func12 rfl rfl (Qe rfl) rfl rfl (fun a g0 g b0 s b=>?_)
 replace s:St 49 [(0,(pEq (ptrB b0 0))),(1,(Zde.pd a1)),(1001,(pPO (Zma bI) c 1 a0.2)),(1002,(pRB (Zkj c) 0 b0 a0.1))] a g:=s
 refine U4 [5,0,25,35] s b Za
  (U2 [15] (Zbt rfl rfl U0)<|U2 [] (Zc rfl rfl U6)<|U3) fun a g s b=>?_
 refine wp_seq<|U4 [5,15,60,25,35] s b Za
  (Af Zws 15 rfl<|Al U9 0 rfl<|Am 5 rfl<|U2 [0] (Zz rfl rfl U0)<|U2 [0] (Zbh Z0i rfl rfl U0)<|U2 [0,35] (Zd3 U9 (fun g cs h=>Z4x h) rfl rfl U1 U0)<|U2 [40,0] (Zcv rfl rfl U0 U1)<|U3) fun a g s b=>?_
 refine Zs (s.bool 2 rfl) H0 (fun H0=>?_) (fun H0=>?_)
 refine U4 [5,0,15,25] (L:=[(0,_),(1001,_),(1002,_)]) (s.pi [0,3,4] rfl) b Za
  (U2 [] (Zc rfl rfl U6)<|U3) fun a g s b=>?_
 refine wp_ret<|Zp ?_
 obtain rfl:=Oi H0
 exact Zq1 rfl s b (Zf (s:=4)) (s.at 1 rfl) (s.at 2 rfl) (s.at 3 rfl)
 refine wp_skip<|Zl ?_
 refine wp_seq ?_
 obtain⟨r2,h3,H0⟩:=Zd H0
 refine U4 [5,15,50,25,35] (L:=[(0,_),(3,_),(1001,_),(1002,_)]) (s.pi [0,1,3,4] rfl) b Za
  (Al Zqd 15 rfl<|U2 [0] (Zt Zbek (Zu2 _ h3) rfl rfl (.cons U0 .nil))<|Am 0 rfl<|U2 [0] (Z7 rfl rfl U0 rfl)<|U2 [10] (Z7 rfl rfl U0 rfl)<|Aa 10 rfl<|Aa 10 rfl<|U3) fun a g s b=>?_
 refine U4 [5,15,25,10,35,45] s b Za
  (Am 25 rfl<|U2 [0] (Zcv rfl rfl U0 U6)<|U3) fun a g s b=>?_
 refine Zs (s.bool 3 rfl) H0 (fun H0=>?_) (fun H0=>?_)
 refine U4 [5,10,25,35] (L:=[(0,_),(5,_),(1001,_),(1002,_)]) (s.pi [0,2,4,5] rfl) b Za
  (Am 15 rfl<|Aa 0 rfl<|U3) fun a g s b=>?_
 refine wp_ret<|Zp ?_
 obtain rfl:=Oi H0
 exact Zq1 rfl s b (Zf (s:=4)) (s.at 1 rfl) (s.at 2 rfl) (s.at 3 rfl)
 refine wp_skip<|Zl ?_
 refine wp_seq ?_
 obtain⟨r5,h6,H0⟩:=Zd H0;obtain⟨r7,h8,H0⟩:=Zd H0
 refine U4 [5,70,61,35] (L:=[(0,_),(3,_),(1001,_),(1002,_)]) (s.pi [0,1,4,5] rfl) b Za
  (Am 5 rfl<|U2 [0] (Zz rfl rfl U0)<|U2 [0] (Zbh Zbd0 rfl rfl U0)<|U2 (outs:=[(27,(pEq (ptrB c 0)))]) (S:=[]) [0,35] (Zqw Zbhl (fun g cs h=>Zbei h) rfl rfl U1 U0)<|Al Zqd 15 rfl<|U2 [0] (Zt Zbti (Z9n _ h6) rfl rfl (.cons U0 .nil))<|U2 (outs:=[(30,(pInt .i64 r7.1)),(1001,(pPO (Zma bI) c 1 r7.2))]) (S:=[2,1000002]) [20,0,25] (Zf5 (m:=1001) Zbr9 (Zx6 _ _ h8) rfl rfl rfl U7 U0 (.cons U1 .nil))<|Aa 0 rfl<|U3) fun a g s b=>?_
 refine U4 [5,15,10,25,35] s b Za
  (Am 15 rfl<|U2 [0] (Zcv rfl rfl U0 U6)<|U3) fun a g s b=>?_
 refine Zs (s.bool 2 rfl) H0 (fun H0=>?_) (fun H0=>?_)
 refine U4 [5,10,25,35] (L:=[(0,_),(7,_),(1001,_),(1002,_)]) (s.pi [0,1,3,4] rfl) b Za
  (Am 15 rfl<|Aa 0 rfl<|U3) fun a g s b=>?_
 refine wp_ret<|Zp ?_
 obtain rfl:=Oi H0
 exact Zq1 rfl s b (Zf (s:=4)) (s.at 1 rfl) (s.at 2 rfl) (s.at 3 rfl)
 refine wp_skip<|Zl ?_
 refine wp_seq ?_
 obtain⟨r10,h11,H0⟩:=Zd H0
 refine U4 [5,50,41,25] (L:=[(0,_),(1001,_),(1002,_)]) (s.pi [0,3,4] rfl) b Za
  (Am 5 rfl<|U2 [0] (Zz rfl rfl U0)<|U2 [0] (Zbh Zbd0 rfl rfl U0)<|U2 (outs:=[(37,(pEq (ptrB c 0)))]) (S:=[]) [0,25] (Zqw Zbhl (fun g cs h=>Zbei h) rfl rfl U1 U0)<|U2 (outs:=[(38,(pInt .i64 r10.1)),(1001,(pPO (Zma bI) c 1 r10.2))]) (S:=[2,1000002]) [0,15] (Zf5 (m:=1001) Zbsb (Z1b _ h11) rfl rfl rfl U1 U0 .nil)<|Aa 0 rfl<|U3) fun a g s b=>?_
 refine U4 [5,15,10,25,35] s b Za
  (Am 15 rfl<|U2 [0] (Zcv rfl rfl U0 U6)<|U3) fun a g s b=>?_
 refine Zs (s.bool 2 rfl) H0 (fun H0=>?_) (fun H0=>?_)
 refine U4 [5,10,25,35] (L:=[(0,_),(8,_),(1001,_),(1002,_)]) (s.pi [0,1,3,4] rfl) b Za
  (Am 15 rfl<|Aa 0 rfl<|U3) fun a g s b=>?_
 refine wp_ret<|Zp ?_
 obtain rfl:=Oi H0
 exact Zq1 rfl s b (Zf (s:=4)) (s.at 1 rfl) (s.at 2 rfl) (s.at 3 rfl)
 refine wp_skip<|Zl ?_
 refine U4 [5,15,70] (L:=[(0,_),(1001,_),(1002,_)]) (s.pi [0,3,4] rfl) b Za
  (Am 5 rfl<|U2 [0] (Zz rfl rfl U0)<|U2 [0] (Zbh Z0i rfl rfl U0)<|U2 [0,25] (Zd3 U9 (fun g cs h=>Z4x h) rfl rfl U1 U0)<|U2 [0] (Zbw rfl rfl U0 U6 rfl)<|U2 [40] (Zz rfl rfl U0)<|U2 [0] (Zbh Z0i rfl rfl U0)<|U2 (outs:=[(1002,(pRB (Zkj c) 0 b0 ({a0.1 with next:=(Zb0n.wrap (a0.1.next+(1:Int)))}:Zdo)))]) (S:=[1]) [0,20,25] (Zry (v':=({a0.1 with next:=(Zb0n.wrap (a0.1.next+(1:Int)))}:Zdo)) U9 rfl rfl U7 U0 U1 (fun g cs ys h hy=>Zbob h hy))<|U3) fun a g s b=>?_
 refine U4 [5,0,15,25] s b Za
  (U2 [] (Zc rfl rfl U6)<|U3) fun a g s b=>?_
 refine wp_ret ?_
 obtain rfl:=Oi H0
 exact Zq1 rfl s b (Zf (s:=4)) (s.at 1 rfl) (s.at 2 rfl) (s.at 3 rfl)
theorem Z32 {bI:Nat} (a0:(Zdo×(Zb4×Ze))) {r:Int} (H0:Zrx a0=some r):FnMR Zb0k 13 (Zl0 bI) a0 a0 [] (pInt .i64 r):=by
 unfold Zrx at H0
 refine fnEx (fun c=>?_)
 refine Zz4 (N:=7) Tryz.func13 rfl rfl (Qe rfl) rfl rfl (fun a g0 g b0 s b=>?_)
 replace s:St 7 [(0,(pEq (ptrB b0 0))),(1001,(pPO (Zma bI) c 1 a0.2)),(1002,(pRB (Zkj c) 0 b0 a0.1))] a g:=s
 refine U4 [5,15,25] s b Za
  (U2 [] (Zc rfl rfl U6)<|U3) fun a g s b=>?_
 refine U4 [5,40,15,25] s b Za
  (Am 5 rfl<|U2 [0] (Zz rfl rfl U0)<|U2 [0] (Zbh Z0i rfl rfl U0)<|U2 [0,25] (Zd3 U9 (fun g cs h=>Z4x h) rfl rfl U1 U0)<|Aa 0 rfl<|U3) fun a g s b=>?_
 refine wp_ret ?_
 obtain rfl:=Oi H0
 exact Zq1 rfl s b (Zf (s:=2)) (s.at 1 rfl) (s.at 2 rfl) (s.at 3 rfl)
theorem Zl7 (a0:Nat) {r:Bool} (H0:Zfx a0=some r):FnOk Zb0k 108 [(pFlt a0)] (Zbo r):=by
 unfold Zfx at H0
 refine Zb9 (N:=6) Tryz.func108 rfl rfl (Qe rfl) rfl rfl (fun a g0 s b=>?_)
 refine U4 [5] s b Za
  (U2 [] (Zc rfl rfl c_b)<|U3) fun a g s b=>?_
 refine U4 [30] s b Za
  (Am 5 rfl<|Am 5 rfl<|U2 [10,0] (Zbee rfl rfl U0 U1)<|Aa 0 rfl<|U3) fun a g s b=>?_
 refine wp_ret ?_
 obtain rfl:=Oi H0
 exact Zba rfl s b (Zf (s:=2)) (s.at 0 rfl)
theorem Zrk (a0:Nat) {r:Bool} (H0:Zi8 a0=some r):FnOk Zb0k 109 [(pFlt a0)] (Zbo r):=by
 unfold Zi8 at H0
 refine Zb9 (N:=10) Tryz.func109 rfl rfl (Qe rfl) rfl rfl (fun a g0 s b=>?_)
 refine U4 [5] s b Za
  (U2 [] (Zc rfl rfl c_b)<|U3) fun a g s b=>?_
 refine wp_seq<|U4 [5,10] s b Za
  (Am 5 rfl<|U2 [0] (Z48 rfl rfl U0 c_f)<|U3) fun a g s b=>?_
 refine Zs (s.bool 1 rfl) H0 (fun H0=>?_) (fun H0=>?_)
 obtain⟨f2,h3,H0⟩:=Zd H0
 refine U4 [30] (L:=[(0,_)]) (s.pi [0] rfl) b Za
  (Am 5 rfl<|U2 [0] (Zboo rfl rfl c_f U0 h3)<|U2 [0] (Z5d rfl rfl U0 c_f)<|Aa 0 rfl<|U3) fun a g s b=>?_
 refine wp_ret<|Zp ?_
 obtain rfl:=Oi H0
 exact Zba rfl s b (Zf (s:=2)) (s.at 0 rfl)
 refine wp_skip<|Zl ?_
 refine U4 [20] (L:=[(0,_)]) (s.pi [0] rfl) b Za
  (Am 5 rfl<|U2 [0] (Z5d rfl rfl U0 c_f)<|Aa 0 rfl<|U3) fun a g s b=>?_
 refine wp_ret ?_
 obtain rfl:=Oi H0
 exact Zba rfl s b (Zf (s:=2)) (s.at 0 rfl)
theorem Zje (a0:Nat) (a1:Nat) {r:Bool} (H0:Zgy a0 a1=some r):FnOk Zb0k 80 [(pFlt a0),(pFlt a1)] (Zbo r):=by
 unfold Zgy at H0
 refine Zb9 (N:=25) Tryz.func80 rfl rfl (Qe rfl) rfl rfl (fun a g0 s b=>?_)
 refine U4 [5,15] s b Za
  (U2 [] (Zc rfl rfl c_b)<|U3) fun a g s b=>?_
 refine wp_seq ?_
 obtain⟨r1,h2,H0⟩:=Zd H0
 refine U4 [5,15,10] s b Za
  (Am 5 rfl<|U2 [0] (Zt Z4a (Zl7 _ h2) rfl rfl (.cons U0 .nil))<|U3) fun a g s b=>?_
 refine Zs (s.bool 2 rfl) H0 (fun H0=>?_) (fun H0=>?_)
 refine U4 [0] (L:=[]) (s.pi [] rfl) b Za
  (U2 [] (Zc rfl rfl c_b)<|U3) fun a g s b=>?_
 refine wp_ret<|Zp ?_
 obtain rfl:=Oi H0
 exact Zba rfl s b (Zf (s:=4)) (s.at 0 rfl)
 refine wp_skip<|Zl ?_
 refine wp_seq ?_
 obtain⟨r4,h5,H0⟩:=Zd H0
 refine U4 [5,15,10] (L:=[(0,_),(1,_)]) (s.pi [0,1] rfl) b Za
  (Am 15 rfl<|U2 [0] (Zt Z4a (Zl7 _ h5) rfl rfl (.cons U0 .nil))<|U3) fun a g s b=>?_
 refine Zs (s.bool 2 rfl) H0 (fun H0=>?_) (fun H0=>?_)
 refine U4 [0] (L:=[]) (s.pi [] rfl) b Za
  (U2 [] (Zc rfl rfl c_b)<|U3) fun a g s b=>?_
 refine wp_ret<|Zp ?_
 obtain rfl:=Oi H0
 exact Zba rfl s b (Zf (s:=4)) (s.at 0 rfl)
 refine wp_skip<|Zl ?_
 refine wp_seq<|U4 [5,15,50] (L:=[(0,_),(1,_)]) (s.pi [0,1] rfl) b Za
  (Am 5 rfl<|U2 [0] (Z48 rfl rfl U0 c_f)<|Am 0 rfl<|Gt [0,15] rfl (fun h=>Zx rfl rfl U0)<|Gt [10,0] rfl (fun h=>Z48 rfl rfl (V1 h U0) c_f)<|U2 [20,0] (Zbs rfl rfl U0 (fun hz=>(V1 hz U1)))<|U3) fun a g s b=>?_
 refine Zs (s.bool 2 rfl) H0 (fun H0=>?_) (fun H0=>?_)
 obtain⟨r8,h9,H0⟩:=Zd H0;obtain⟨r10,h11,H0⟩:=Zd H0
 refine U4 [70] (L:=[(0,_),(1,_)]) (s.pi [0,1] rfl) b Za
  (Am 5 rfl<|U2 [0] (Zt Zbih (Zrk _ h9) rfl rfl (.cons U0 .nil))<|Am 0 rfl<|Gt [0,15] rfl (fun h=>Zx rfl rfl U0)<|Gt [10,0] rfl (fun h=>Zt Zbih (Zrk _ (Zcb h11 h)) rfl rfl (.cons (V1 h U0) .nil))<|Gt [20,0] rfl (fun h=>Zct rfl rfl (V1 h U0))<|U2 [30,0] (Zbs rfl rfl U0 (fun hz=>(V1 hz U1)))<|Aa 0 rfl<|U3) fun a g s b=>?_
 refine wp_ret<|Zp ?_
 obtain rfl:=Oi H0
 exact Zba rfl s b (Zf (s:=4)) (s.at 0 rfl)
 refine wp_skip<|Zl ?_
 refine U4 [30] (L:=[(0,_),(1,_)]) (s.pi [0,1] rfl) b Za
  (Am 5 rfl<|Am 15 rfl<|U2 [10,0] (Z5d rfl rfl U0 U1)<|Aa 0 rfl<|U3) fun a g s b=>?_
 refine wp_ret ?_
 obtain rfl:=Oi H0
 exact Zba rfl s b (Zf (s:=4)) (s.at 0 rfl)
theorem Zh9 (a0:Nat) (a1:Nat) {r:Bool} (H0:Zex a0 a1=some r):FnOk Zb0k 54 [(pFlt a0),(pFlt a1)] (Zbo r):=by
 unfold Zex at H0
 refine Zb9 (N:=15) Tryz.func54 rfl rfl (Qe rfl) rfl rfl (fun a g0 s b=>?_)
 refine U4 [5,15] s b Za
  (U2 [] (Zc rfl rfl c_b)<|U3) fun a g s b=>?_
 obtain⟨r1,h2,H0⟩:=Zd H0;obtain⟨r3,h4,H0⟩:=Zd H0
 refine U4 [100] s b Za
  (Am 5 rfl<|Am 15 rfl<|U2 [10,0] (Zt Z3s (Zje _ _ h2) rfl rfl (.cons U0 (.cons U1 .nil)))<|U2 [0] (Zct rfl rfl U0)<|Am 0 rfl<|Gt [0,15] rfl (fun h=>Zx rfl rfl U0)<|Gt [10,5] rfl (fun h=>Zx rfl rfl U0)<|Gt [20,10,0] rfl (fun h=>Zt Z3s (Zje _ _ (Zcb h4 h)) rfl rfl (.cons (V1 h U0) (.cons (V1 h U1) .nil)))<|Gt [30,0] rfl (fun h=>Zct rfl rfl (V1 h U0))<|U2 [40,0] (Zbs rfl rfl U0 (fun hz=>(V1 hz U1)))<|Aa 0 rfl<|U3) fun a g s b=>?_
 refine wp_ret ?_
 obtain rfl:=Oi H0
 exact Zba rfl s b (Zf (s:=4)) (s.at 0 rfl)
theorem Zr4 (a0:Zb) (a1:Zb) {r:Bool} (H0:Zji a0 a1=some r):FnOk Zb0k 29 [(Zg.pd a0),(Zg.pd a1)] (Zbo r):=by
 unfold Zji at H0
 refine Zb9 (N:=97) Tryz.func29 rfl rfl (Qe rfl) rfl rfl (fun a g0 s b=>?_)
 refine U4 [0,10] s b Za
  (U2 [5] (Zbt rfl rfl U0)<|U2 [15] (Zbt rfl rfl U0)<|U2 [] (Zc rfl rfl c_b)<|U3) fun a g s b=>?_
 refine wp_seq<|U4 [5,15,390] s b Za
  (Af Zfd 5 rfl<|Al U9 0 rfl<|Af Zfd 15 rfl<|Al U9 0 rfl<|U2 [20,0] (Zcv rfl rfl U0 U1)<|Am 0 rfl<|Gf [0,5] rfl (fun h=>Zq Zdc rfl rfl U0)<|Gf [10,0] rfl (fun h=>Z2 U8 rfl rfl (V1 h U0))<|Gf [20,15] rfl (fun h=>Zq Zdc rfl rfl U0)<|Gf [30,0] rfl (fun h=>Z2 U8 rfl rfl (V1 h U0))<|Gf [40,20,0] rfl (fun h=>Zcv rfl rfl (V1 h U0) (V1 h U1))<|U2 [50,0] (Zb3 rfl rfl U0 (fun hz=>(V1 (bNF hz) U1)))<|Am 0 rfl<|Gf [0,5] rfl (fun h=>Zq Zjt rfl rfl U0)<|Gf [10,0] rfl (fun h=>Z2 U8 rfl rfl (V1 h U0))<|Gf [20,15] rfl (fun h=>Zq Zjt rfl rfl U0)<|Gf [30,0] rfl (fun h=>Z2 U8 rfl rfl (V1 h U0))<|Gf [40,20,0] rfl (fun h=>Zcv rfl rfl (V1 h U0) (V1 h U1))<|U2 [50,0] (Zb3 rfl rfl U0 (fun hz=>(V1 (bNF hz) U1)))<|Am 0 rfl<|Gf [0,5] rfl (fun h=>Zq Zjz rfl rfl U0)<|Gf [10,0] rfl (fun h=>Z2 U8 rfl rfl (V1 h U0))<|Gf [20,15] rfl (fun h=>Zq Zjz rfl rfl U0)<|Gf [30,0] rfl (fun h=>Z2 U8 rfl rfl (V1 h U0))<|Gf [40,20,0] rfl (fun h=>Zcv rfl rfl (V1 h U0) (V1 h U1))<|U2 [50,0] (Zb3 rfl rfl U0 (fun hz=>(V1 (bNF hz) U1)))<|Am 0 rfl<|Gf [0,5] rfl (fun h=>Zq Zhb rfl rfl U0)<|Gf [10,0] rfl (fun h=>Z2 U9 rfl rfl (V1 h U0))<|Gf [20,15] rfl (fun h=>Zq Zhb rfl rfl U0)<|Gf [30,0] rfl (fun h=>Z2 U9 rfl rfl (V1 h U0))<|Gf [40,20,0] rfl (fun h=>Zcv rfl rfl (V1 h U0) (V1 h U1))<|U2 [50,0] (Zb3 rfl rfl U0 (fun hz=>(V1 (bNF hz) U1)))<|Am 0 rfl<|Gf [0,5] rfl (fun h=>Zq Zi1 rfl rfl U0)<|Gf [10,0] rfl (fun h=>Z2 V0 rfl rfl (V1 h U0))<|Gf [20,15] rfl (fun h=>Zq Zi1 rfl rfl U0)<|Gf [30,0] rfl (fun h=>Z2 V0 rfl rfl (V1 h U0))<|Gf [40,20,0] rfl (fun h=>Zue rfl rfl (V1 h U0) (V1 h U1))<|U2 [50,0] (Zb3 rfl rfl U0 (fun hz=>(V1 (bNF hz) U1)))<|U3) fun a g s b=>?_
 refine Zs (s.bool 2 rfl) H0 (fun H0=>?_) (fun H0=>?_)
 ·refine U4 [0] (L:=[]) (s.pi [] rfl) b Za
   (U2 [] (Zc rfl rfl c_b)<|U3) fun a g s b=>?_
  refine wp_ret<|Zp ?_
  obtain rfl:=Oi H0
  exact Zba rfl s b (Zf (s:=4)) (s.at 0 rfl)
 ·refine wp_skip<|Zl ?_
  refine wp_seq ?_
  obtain⟨r2,h3,H0⟩:=Zd H0
  refine U4 [5,15,140] (L:=[(2,_),(3,_)]) (s.pi [0,1] rfl) b Za
   (Af Zga 5 rfl<|Al Zdk 0 rfl<|Af Zga 15 rfl<|Al Zdk 0 rfl<|U2 [20,0] (Zt Zz0 (Zh9 _ _ h3) rfl rfl (.cons U0 (.cons U1 .nil)))<|U2 [0] (Zct rfl rfl U0)<|Am 0 rfl<|Gf [0,5] rfl (fun h=>Zq Zcm rfl rfl U0)<|Gf [10,0] rfl (fun h=>Z2 Zdx rfl rfl (V1 h U0))<|Gf [20,0] rfl (fun h=>Zbv Zb0l rfl rfl (V1 h U0))<|Gf [30,15] rfl (fun h=>Zq Zcm rfl rfl U0)<|Gf [40,0] rfl (fun h=>Z2 Zdx rfl rfl (V1 h U0))<|Gf [50,0] rfl (fun h=>Zbv Zb0l rfl rfl (V1 h U0))<|Gf [60,30,0] rfl (fun h=>Zcv rfl rfl (V1 h U0) (V1 h U1))<|U2 [70,0] (Zb3 rfl rfl U0 (fun hz=>(V1 (bNF hz) U1)))<|U3) fun a g s b=>?_
  refine Zs (s.bool 2 rfl) H0 (fun H0=>?_) (fun H0=>?_)
  ·refine U4 [0] (L:=[]) (s.pi [] rfl) b Za
    (U2 [] (Zc rfl rfl c_b)<|U3) fun a g s b=>?_
   refine wp_ret<|Zp ?_
   obtain rfl:=Oi H0
   exact Zba rfl s b (Zf (s:=4)) (s.at 0 rfl)
  ·refine wp_skip<|Zl ?_
   refine wp_seq<|U4 [5,15,0] (L:=[(2,_),(3,_)]) (s.pi [0,1] rfl) b Za
    (U2 [] (Zc rfl rfl U6)<|U3) fun a g s b=>?_
   obtain⟨z18,hz1,H0⟩:=Zd H0
   refine Zbq (fun a w=>∃(g:G),Jn 97 [] a w g0 g ((.inr ())=z18)) ?_ ?_
   ·rintro a w ⟨g,rfl,s,b,rfl⟩
    refine Zl<|U4 [0] s b Za
     (U2 [] (Zc rfl rfl c_b)<|U3) fun a g s b=>?_
    refine wp_ret ?_
    obtain rfl:=Oi H0
    exact Zba rfl s b (Zf (s:=4)) (s.at 0 rfl)
   ·refine wp_block<|wp_loop_ghost (fun n a w=>∃(x5:Int) (g:G),Jn 97 [(2,(Zg.ptr a0)),(3,(Zg.ptr a1)),(5,(pInt .i64 x5))] a w g0 g (Zf4 a0 a1 n x5=some z18)) (Zb0q ((a0.List.length:Int)-(0:Int))+1) ⟨(0:Int),g,rfl,(s.pi [0,1,2] rfl),b,hz1⟩ (fun n a w hI=>?_)
    obtain⟨x5,g,rfl,s,b,H1⟩:=hI
    cases n with
    | zero=>exact absurd H1 (by simp[Zf4])
    | succ n =>
     rw[Zf4]at H1
     refine wp_seq<|U4 [5,15,25,40] s b Za
      (Am 25 rfl<|Af Zcm 5 rfl<|Al Zdx 0 rfl<|U2 [0] (Zbv Zb0l rfl rfl U0)<|U2 [30,0] (Zcj rfl rfl U0 U1)<|U3) fun a g s b=>?_
     refine Zs (s.bool 3 rfl) H1 (fun H1=>?_) (fun H1=>?_)
     ·refine wp_skip<|Zl ?_
      refine wp_seq<|wp_block ?_
      obtain⟨e7,h8,H1⟩:=Zd H1;obtain⟨e9,h10,H1⟩:=Zd H1;obtain⟨e11,h12,H1⟩:=Zd H1;obtain⟨e13,h14,H1⟩:=Zd H1;obtain⟨r15,h16,H1⟩:=Zd H1
      refine U4 [5,15,25,280] (L:=[(2,_),(3,_),(5,_)]) (s.pi [0,1,2] rfl) b Za
       (Af Zcm 5 rfl<|Al Zdx 0 rfl<|Am 25 rfl<|U2 [10,0] (Zbn Zb0l Zf1 rfl rfl U0 U1 h8)<|Af Zeq 0 rfl<|Al V0 0 rfl<|Af Zcm 15 rfl<|Al Zdx 0 rfl<|Am 25 rfl<|U2 [10,0] (Zbn Zb0l Zf1 rfl rfl U0 U1 h10)<|Af Zeq 0 rfl<|Al V0 0 rfl<|U2 [60,0] (Zue rfl rfl U0 U1)<|Am 0 rfl<|Gf [0,5] rfl (fun h=>Zq Zcm rfl rfl U0)<|Gf [10,0] rfl (fun h=>Z2 Zdx rfl rfl (V1 h U0))<|Gf [20,25] rfl (fun h=>Zx rfl rfl U0)<|Gf [30,10,0] rfl (fun h=>Zbn Zb0l Zf1 rfl rfl (V1 h U0) (V1 h U1) (Zcb h12 h))<|Gf [40,0] rfl (fun h=>Zq Zgd rfl rfl (V1 h U0))<|Gf [50,0] rfl (fun h=>Z2 Zdk rfl rfl (V1 h U0))<|Gf [60,15] rfl (fun h=>Zq Zcm rfl rfl U0)<|Gf [70,0] rfl (fun h=>Z2 Zdx rfl rfl (V1 h U0))<|Gf [80,25] rfl (fun h=>Zx rfl rfl U0)<|Gf [90,10,0] rfl (fun h=>Zbn Zb0l Zf1 rfl rfl (V1 h U0) (V1 h U1) (Zcb h14 h))<|Gf [100,0] rfl (fun h=>Zq Zgd rfl rfl (V1 h U0))<|Gf [110,0] rfl (fun h=>Z2 Zdk rfl rfl (V1 h U0))<|Gf [120,60,0] rfl (fun h=>Zt Zz0 (Zh9 _ _ (Zcb h16 h)) rfl rfl (.cons (V1 h U0) (.cons (V1 h U1) .nil)))<|Gf [130,0] rfl (fun h=>Zct rfl rfl (V1 h U0))<|U2 [140,0] (Zb3 rfl rfl U0 (fun hz=>(V1 (bNF hz) U1)))<|U3) fun a g s b=>?_
      refine Zs (s.bool 3 rfl) H1 (fun H1=>?_) (fun H1=>?_)
      ·refine U4 [0] (L:=[]) (s.pi [] rfl) b Za
        (U2 [] (Zc rfl rfl c_b)<|U3) fun a g s b=>?_
       refine wp_ret<|Z5 ?_
       refine Zp<|Zp ?_
       refine Z5<|Zp ?_
       refine Zp ?_
       obtain rfl:=Oi H1
       obtain rfl:=Oi H0
       exact Zba rfl s b (Zf (s:=4)) (s.at 0 rfl)
      ·refine wp_skip<|Zbb ?_
       refine Zl<|U5 [5,15,20] (L:=[(2,_),(3,_),(5,_)]) (s.pi [0,1,2] rfl) b Za
        (Am 25 rfl<|U2 [0] (Zbw rfl rfl U0 U6 rfl)<|Aa 0 rfl<|U3) fun a g s b=>?_
       exact⟨n,Zb0o _,(Zb0n.wrap (x5+(1:Int))),g,rfl,(s.pi [0,1,2] rfl),b,H1⟩
     ·refine wp_exit<|Zbx ?_
      refine Zbx<|Zcg ?_
      exact⟨g,rfl,(s.pi [] rfl),b,Oi H1⟩
theorem Zwl (a0:Int) {r:ByteArray} (H0:Zps a0=some r):FnOk Zb0k 123 [(pInt .i64 a0)] (pStr r):=by
 unfold Zps at H0
 refine Zb9 (N:=15) Tryz.func123 rfl rfl (Qe rfl) rfl rfl (fun a g0 s b=>?_)
 refine U4 [5] s b Za
  (U2 [] (Zc rfl rfl c_s)<|U3) fun a g s b=>?_
 refine U4 [5,10] s b Za
  (U2 [] (Zgm Zbje (xs:=[.const (.string ⟨#[]⟩),.const (.string ⟨#[109]⟩),.const (.string ⟨#[]⟩),.const (.string ⟨#[]⟩),.const (.string ⟨#[]⟩),.const (.string ⟨#[115]⟩),.const (.string ⟨#[115]⟩),.const (.string ⟨#[110]⟩),.const (.string ⟨#[110]⟩),.const (.string ⟨#[110]⟩),.const (.string ⟨#[110]⟩),.const (.string ⟨#[110]⟩),.const (.string ⟨#[110]⟩),.const (.string ⟨#[120]⟩),.const (.string ⟨#[120]⟩),.const (.string ⟨#[120]⟩),.const (.string ⟨#[120]⟩),.const (.string ⟨#[120]⟩),.const (.string ⟨#[115]⟩),.const (.string ⟨#[115]⟩),.const (.string ⟨#[115]⟩),.const (.string ⟨#[120,115]⟩)]) (.cons c_s (.cons c_s (.cons c_s (.cons c_s (.cons c_s (.cons c_s (.cons c_s (.cons c_s (.cons c_s (.cons c_s (.cons c_s (.cons c_s (.cons c_s (.cons c_s (.cons c_s (.cons c_s (.cons c_s (.cons c_s (.cons c_s (.cons c_s (.cons c_s (.cons c_s .nil)))))))))))))))))))))) (by decide) rfl rfl)<|Aa 0 rfl<|U3) fun a g s b=>?_
 refine wp_seq<|U4 [5,15,50] s b Za
  (Am 5 rfl<|U2 [0] (Zcj rfl rfl U0 U6)<|Am 0 rfl<|Gf [0,5] rfl (fun h=>Zx rfl rfl U0)<|Gf [10,0] rfl (fun h=>Zcn rfl rfl (V1 h U0) U6)<|U2 [20,0] (Zb3 rfl rfl U0 (fun hz=>(V1 (bNF hz) U1)))<|U3) fun a g s b=>?_
 refine Zs (s.bool 2 rfl) H0 (fun H0=>?_) (fun H0=>?_)
 refine U4 [0] (L:=[]) (s.pi [] rfl) b Za
  (U2 [] (Zc rfl rfl c_s)<|U3) fun a g s b=>?_
 refine wp_ret<|Zp ?_
 obtain rfl:=Oi H0
 exact Zba rfl s b (Zf (s:=2)) (s.at 0 rfl)
 refine wp_skip<|Zl ?_
 obtain⟨e2,h3,H0⟩:=Zd H0
 refine U4 [40] (L:=[(0,_),(3,_)]) (s.pi [0,1] rfl) b Za
  (Am 15 rfl<|Am 5 rfl<|U2 [10,0] (Zbn Zb04 sz_9 rfl rfl U0 U1 h3)<|Al V0 0 rfl<|Aa 0 rfl<|U3) fun a g s b=>?_
 refine wp_ret ?_
 obtain rfl:=Oi H0
 exact Zba rfl s b (Zf (s:=2)) (s.at 0 rfl)
theorem Zpw (a0:Int) (a1:Int) {r:Bool} (H0:Zfm a0 a1=some r):FnOk Zb0k 96 [(pInt .i64 a0),(pInt .u8 a1)] (Zbo r):=by
 unfold Zfm at H0
 refine Zb9 (N:=20) Tryz.func96 rfl rfl (Qe rfl) rfl rfl (fun a g0 s b=>?_)
 refine U4 [5,15] s b Za
  (U2 [] (Zc rfl rfl c_b)<|U3) fun a g s b=>?_
 obtain⟨r1,h2,H0⟩:=Zd H0
 refine U4 [15,20] s b Za
  (Am 5 rfl<|U2 [0] (Zt Zbpw (Zwl _ h2) rfl rfl (.cons U0 .nil))<|Aa 0 rfl<|U3) fun a g s b=>?_
 refine wp_seq<|U4 [5,15,0] s b Za
  (U2 [] (Zc rfl rfl U6)<|U3) fun a g s b=>?_
 obtain⟨z8,hz1,H0⟩:=Zd H0
 refine Zbq (fun a w=>∃(g:G),Jn 20 [] a w g0 g ((.inr ())=z8)) ?_ ?_
 ·rintro a w ⟨g,rfl,s,b,rfl⟩
  refine Zl<|U4 [0] s b Za
   (U2 [] (Zc rfl rfl c_b)<|U3) fun a g s b=>?_
  refine wp_ret ?_
  obtain rfl:=Oi H0
  exact Zba rfl s b (Zf (s:=4)) (s.at 0 rfl)
 ·refine wp_block<|wp_loop_ghost (fun n a w=>∃(x3:Int) (g:G),Jn 20 [(1,(pInt .u8 a1)),(5,(pStr r1)),(6,(pInt .i64 x3))] a w g0 g (Zke a1 r1 n x3=some z8)) (Zb0q ((r1.size:Int)-(0:Int))+1) ⟨(0:Int),g,rfl,(s.pi [0,1,2] rfl),b,hz1⟩ (fun n a w hI=>?_)
  obtain⟨x3,g,rfl,s,b,H1⟩:=hI
  cases n with
  | zero=>exact absurd H1 (by simp[Zke])
  | succ n =>
   rw[Zke]at H1
   refine wp_seq<|U4 [5,15,25,30] s b Za
    (Am 25 rfl<|Am 15 rfl<|U2 [0] (Zg4 Zb0p rfl rfl U0)<|U2 [20,0] (Zcj rfl rfl U0 U1)<|U3) fun a g s b=>?_
   refine Zs (s.bool 3 rfl) H1 (fun H1=>?_) (fun H1=>?_)
   ·refine wp_skip<|Zl ?_
    refine wp_seq<|wp_block ?_
    obtain⟨b5,h6,H1⟩:=Zd H1
    refine U4 [5,15,25,40] (L:=[(1,_),(5,_),(6,_)]) (s.pi [0,1,2] rfl) b Za
     (Am 15 rfl<|Am 25 rfl<|U2 [10,0] (Zr9 Zb0p rfl rfl U0 U1 h6)<|Am 5 rfl<|U2 [10,0] (Zb0 rfl rfl U0 U1)<|U3) fun a g s b=>?_
    refine Zs (s.bool 3 rfl) H1 (fun H1=>?_) (fun H1=>?_)
    ·refine U4 [0] (L:=[]) (s.pi [] rfl) b Za
      (U2 [] (Zc rfl rfl c_b)<|U3) fun a g s b=>?_
     refine wp_ret<|Z5 ?_
     refine Zp<|Zp ?_
     refine Z5<|Zp ?_
     refine Zp ?_
     obtain rfl:=Oi H1
     obtain rfl:=Oi H0
     exact Zba rfl s b (Zf (s:=4)) (s.at 0 rfl)
    ·refine wp_skip<|Zbb ?_
     refine Zl<|U5 [5,15,20] (L:=[(1,_),(5,_),(6,_)]) (s.pi [0,1,2] rfl) b Za
      (Am 25 rfl<|U2 [0] (Zbw rfl rfl U0 U6 rfl)<|Aa 0 rfl<|U3) fun a g s b=>?_
     exact⟨n,Zb0o _,(Zb0n.wrap (x3+(1:Int))),g,rfl,(s.pi [0,1,2] rfl),b,H1⟩
   ·refine wp_exit<|Zbx ?_
    refine Zbx<|Zcg ?_
    exact⟨g,rfl,(s.pi [] rfl),b,Oi H1⟩
theorem Zqp (a0:Int) {r:Int} (H0:Zgh a0=some r):FnOk Zb0k 97 [(pInt .i64 a0)] (pInt .i64 r):=by
 unfold Zgh at H0
 refine Zb9 (N:=15) Tryz.func97 rfl rfl (Qe rfl) rfl rfl (fun a g0 s b=>?_)
 refine U4 [5] s b Za
  (U2 [] (Zc rfl rfl U6)<|U3) fun a g s b=>?_
 refine U4 [5,10] s b Za
  (U2 [] (Zgm Zbrx (xs:=[.const (.int .i64 0),.const (.int .i64 0),.const (.int .i64 0),.const (.int .i64 0),.const (.int .i64 0),.const (.int .i64 1),.const (.int .i64 1),.const (.int .i64 2),.const (.int .i64 3),.const (.int .i64 3),.const (.int .i64 4),.const (.int .i64 4),.const (.int .i64 4),.const (.int .i64 5),.const (.int .i64 6),.const (.int .i64 7),.const (.int .i64 7),.const (.int .i64 7),.const (.int .i64 8),.const (.int .i64 8),.const (.int .i64 8),.const (.int .i64 9)]) (.cons U6 (.cons U6 (.cons U6 (.cons U6 (.cons U6 (.cons U6 (.cons U6 (.cons U6 (.cons U6 (.cons U6 (.cons U6 (.cons U6 (.cons U6 (.cons U6 (.cons U6 (.cons U6 (.cons U6 (.cons U6 (.cons U6 (.cons U6 (.cons U6 (.cons U6 .nil)))))))))))))))))))))) (by decide) rfl rfl)<|Aa 0 rfl<|U3) fun a g s b=>?_
 refine wp_seq<|U4 [5,15,50] s b Za
  (Am 5 rfl<|U2 [0] (Zcj rfl rfl U0 U6)<|Am 0 rfl<|Gf [0,5] rfl (fun h=>Zx rfl rfl U0)<|Gf [10,0] rfl (fun h=>Zcn rfl rfl (V1 h U0) U6)<|U2 [20,0] (Zb3 rfl rfl U0 (fun hz=>(V1 (bNF hz) U1)))<|U3) fun a g s b=>?_
 refine Zs (s.bool 2 rfl) H0 (fun H0=>?_) (fun H0=>?_)
 refine U4 [0] (L:=[]) (s.pi [] rfl) b Za
  (U2 [] (Zc rfl rfl U6)<|U3) fun a g s b=>?_
 refine wp_ret<|Zp ?_
 obtain rfl:=Oi H0
 exact Zba rfl s b (Zf (s:=2)) (s.at 0 rfl)
 refine wp_skip<|Zl ?_
 obtain⟨e2,h3,H0⟩:=Zd H0
 refine U4 [40] (L:=[(0,_),(3,_)]) (s.pi [0,1] rfl) b Za
  (Am 15 rfl<|Am 5 rfl<|U2 [10,0] (Zbn Zb03 sz_3 rfl rfl U0 U1 h3)<|Al U9 0 rfl<|Aa 0 rfl<|U3) fun a g s b=>?_
 refine wp_ret ?_
 obtain rfl:=Oi H0
 exact Zba rfl s b (Zf (s:=2)) (s.at 0 rfl)
theorem Zns (a0:Nat) {r:Bool} (H0:Zhq a0=some r):FnOk Zb0k 98 [(pFlt a0)] (Zbo r):=by
 unfold Zhq at H0
 refine Zb9 (N:=11) Tryz.func98 rfl rfl (Qe rfl) rfl rfl (fun a g0 s b=>?_)
 refine U4 [5] s b Za
  (U2 [] (Zc rfl rfl c_b)<|U3) fun a g s b=>?_
 obtain⟨r1,h2,H0⟩:=Zd H0
 refine U4 [80] s b Za
  (Am 5 rfl<|U2 [0] (Zt Z4a (Zl7 _ h2) rfl rfl (.cons U0 .nil))<|U2 [0] (Zct rfl rfl U0)<|Am 0 rfl<|Gf [0,5] rfl (fun h=>Zx rfl rfl U0)<|Gf [10,0] rfl (fun h=>Zwx Zy0 rfl rfl (V1 h U0))<|Gf [20,0] rfl (fun h=>Zb0 rfl rfl (V1 h U0) U6)<|U2 [30,0] (Zb3 rfl rfl U0 (fun hz=>(V1 (bNF hz) U1)))<|Aa 0 rfl<|U3) fun a g s b=>?_
 refine wp_ret ?_
 obtain rfl:=Oi H0
 exact Zba rfl s b (Zf (s:=2)) (s.at 0 rfl)
theorem Zr1 (a0:Nat) {r:Bool} (H0:Zjj a0=some r):FnOk Zb0k 162 [(pFlt a0)] (Zbo r):=by
 unfold Zjj at H0
 refine Zb9 (N:=5) Tryz.func162 rfl rfl (Qe rfl) rfl rfl (fun a g0 s b=>?_)
 refine U4 [5] s b Za
  (U2 [] (Zc rfl rfl c_b)<|U3) fun a g s b=>?_
 obtain⟨r1,h2,H0⟩:=Zd H0
 refine U4 [20] s b Za
  (Am 5 rfl<|U2 [0] (Zt Zz0 (Zh9 _ _ h2) rfl rfl (.cons U0 (.cons c_f .nil)))<|Aa 0 rfl<|U3) fun a g s b=>?_
 refine wp_ret ?_
 obtain rfl:=Oi H0
 exact Zba rfl s b (Zf (s:=2)) (s.at 0 rfl)
theorem Zyf (a0:Zb) (a1:ByteArray) {r:Bool} (H0:Zlx a0 a1=some r):FnOk Zb0k 124 [(Zg.pd a0),(pStr a1)] (Zbo r):=by
 unfold Zlx at H0
 refine Zb9 (N:=106) Tryz.func124 rfl rfl (Qe rfl) rfl rfl (fun a g0 s b=>?_)
 refine U4 [15,0] s b Za
  (U2 [5] (Zbt rfl rfl U0)<|U2 [] (Zc rfl rfl c_b)<|U3) fun a g s b=>?_
 refine U4 [5,15,0,10,20,30,40] s b Za
  (U2 [] (Zc rfl rfl c_b)<|U2 [] (Zc rfl rfl c_b)<|U2 [] (Zc rfl rfl c_b)<|U2 [] (Zc rfl rfl c_b)<|U2 [] (Zc rfl rfl c_b)<|U3) fun a g s b=>?_
 refine wp_seq<|U4 [5,15,25,35,45,55,65,0] s b Za
  (U2 [] (Zc rfl rfl U6)<|U3) fun a g s b=>?_
 obtain⟨z23,hz1,H0⟩:=Zd H0
 refine Zbq (fun a w=>∃(y18:Bool) (y19:Bool) (y20:Bool) (y21:Bool) (y22:Bool) (g:G),Jn 106 [(2,(Zg.ptr a0)),(5,(Zbo y18)),(6,(Zbo y19)),(7,(Zbo y20)),(8,(Zbo y21)),(9,(Zbo y22))] a w g0 g ((y18,y19,y20,y21,y22)=z23)) ?_ ?_
 ·rintro a w ⟨y18,y19,y20,y21,y22,g,rfl,s,b,rfl⟩
  refine Zl<|wp_seq ?_
  refine U4 [5,45,55,330] s b Za
   (Am 15 rfl<|U2 [0] (Zct rfl rfl U0)<|Am 0 rfl<|Gt [0,5] rfl (fun h=>Zq Zi1 rfl rfl U0)<|Gt [10,0] rfl (fun h=>Z2 V0 rfl rfl (V1 h U0))<|Gt [20,0] rfl (fun h=>Zue rfl rfl (V1 h U0) c_s)<|U2 [30,0] (Zbs rfl rfl U0 (fun hz=>(V1 hz U1)))<|Am 0 rfl<|Gf [0,25] rfl (fun h=>Zx rfl rfl U0)<|Gf [10,0] rfl (fun h=>Zct rfl rfl (V1 h U0))<|Gf [20,0] rfl (fun h=>Zx rfl rfl (V1 h U0))<|Gu [0,5] rfl (fun h=>Zq Zdc rfl rfl U0)<|Gu [10,0] rfl (fun h=>Z2 U8 rfl rfl (V1 h U0))<|Gu [20,0] rfl (fun h=>Zcv rfl rfl (V1 h U0) U6)<|Gf [60,30,0] rfl (fun h=>Zbs rfl rfl (V1 h U0) (fun hz=>(V1 (bA h hz) U1)))<|U2 [70,0] (Zb3 rfl rfl U0 (fun hz=>(V1 (bNF hz) U1)))<|Am 0 rfl<|Gf [0,35] rfl (fun h=>Zx rfl rfl U0)<|Gf [10,0] rfl (fun h=>Zct rfl rfl (V1 h U0))<|Gf [20,0] rfl (fun h=>Zx rfl rfl (V1 h U0))<|Gu [0,5] rfl (fun h=>Zq Zjt rfl rfl U0)<|Gu [10,0] rfl (fun h=>Z2 U8 rfl rfl (V1 h U0))<|Gu [20,0] rfl (fun h=>Zcv rfl rfl (V1 h U0) U6)<|Gf [60,30,0] rfl (fun h=>Zbs rfl rfl (V1 h U0) (fun hz=>(V1 (bA h hz) U1)))<|U2 [70,0] (Zb3 rfl rfl U0 (fun hz=>(V1 (bNF hz) U1)))<|Am 0 rfl<|Gf [0,35] rfl (fun h=>Zx rfl rfl U0)<|Gf [10,0] rfl (fun h=>Zct rfl rfl (V1 h U0))<|Gf [20,0] rfl (fun h=>Zx rfl rfl (V1 h U0))<|Gu [0,5] rfl (fun h=>Zq Zjz rfl rfl U0)<|Gu [10,0] rfl (fun h=>Z2 U8 rfl rfl (V1 h U0))<|Gu [20,0] rfl (fun h=>Zcv rfl rfl (V1 h U0) U6)<|Gf [60,30,0] rfl (fun h=>Zbs rfl rfl (V1 h U0) (fun hz=>(V1 (bA h hz) U1)))<|U2 [70,0] (Zb3 rfl rfl U0 (fun hz=>(V1 (bNF hz) U1)))<|U3) fun a g s b=>?_
  refine Zs (s.bool 3 rfl) H0 (fun H0=>?_) (fun H0=>?_)
  ·refine U4 [0] (L:=[]) (s.pi [] rfl) b Za
    (U2 [] (Zc rfl rfl c_b)<|U3) fun a g s b=>?_
   refine wp_ret<|Zp ?_
   obtain rfl:=Oi H0
   exact Zba rfl s b (Zf (s:=4)) (s.at 0 rfl)
  ·refine wp_skip<|Zl ?_
   obtain⟨r25,h26,H0⟩:=Zd H0
   refine U4 [200] (L:=[(2,_),(8,_),(9,_)]) (s.pi [0,1,2] rfl) b Za
    (Am 15 rfl<|Am 0 rfl<|Gf [0,5] rfl (fun h=>Zq Zga rfl rfl U0)<|Gf [10,0] rfl (fun h=>Z2 Zdk rfl rfl (V1 h U0))<|Gf [20,0] rfl (fun h=>Zt Zbhk (Zr1 _ (Zcb h26 h)) rfl rfl (.cons (V1 h U0) .nil))<|U2 [30,0] (Zb3 rfl rfl U0 (fun hz=>(V1 (bNF hz) U1)))<|Am 0 rfl<|Gt [0,25] rfl (fun h=>Zx rfl rfl U0)<|Gt [10,0] rfl (fun h=>Zx rfl rfl (V1 h U0))<|Gv [0,5] rfl (fun h=>Zq Zhb rfl rfl U0)<|Gv [10,0] rfl (fun h=>Z2 U9 rfl rfl (V1 h U0))<|Gv [20,0] rfl (fun h=>Zb0 rfl rfl (V1 h U0) U6)<|Gv [30,0] rfl (fun h=>Zx rfl rfl (V1 h U0))<|Gu [0,5] rfl (fun h=>Zq Zcm rfl rfl U0)<|Gu [10,0] rfl (fun h=>Z2 Zdx rfl rfl (V1 h U0))<|Gu [20,0] rfl (fun h=>Zbv Zb0l rfl rfl (V1 h U0))<|Gu [30,0] rfl (fun h=>Zb0 rfl rfl (V1 h U0) U6)<|Gv [80,40,0] rfl (fun h=>Zbs rfl rfl (V1 h U0) (fun hz=>(V1 (bA h hz) U1)))<|Gt [110,90,0] rfl (fun h=>Zb3 rfl rfl (V1 h U0) (fun hz=>(V1 (bA h (bNF hz)) U1)))<|U2 [120,0] (Zbs rfl rfl U0 (fun hz=>(V1 hz U1)))<|Aa 0 rfl<|U3) fun a g s b=>?_
   refine wp_ret ?_
   obtain rfl:=Oi H0
   exact Zba rfl s b (Zf (s:=4)) (s.at 0 rfl)
 ·refine wp_block<|wp_loop_ghost (fun n a w=>∃(x1:Bool) (x2:Bool) (x3:Bool) (x4:Bool) (x5:Bool) (x6:Int) (g:G),Jn 106 [(1,(pStr a1)),(2,(Zg.ptr a0)),(5,(Zbo x1)),(6,(Zbo x2)),(7,(Zbo x3)),(8,(Zbo x4)),(9,(Zbo x5)),(10,(pInt .i64 x6))] a w g0 g (Zdz a1 n x1 x2 x3 x4 x5 x6=some z23)) (Zb0q ((a1.size:Int)-(0:Int))+1) ⟨false,false,false,false,false,(0:Int),g,rfl,(s.pi [0,1,2,3,4,5,6,7] rfl),b,hz1⟩ (fun n a w hI=>?_)
  obtain⟨x1,x2,x3,x4,x5,x6,g,rfl,s,b,H1⟩:=hI
  cases n with
  | zero=>exact absurd H1 (by simp[Zdz])
  | succ n =>
   rw[Zdz]at H1
   refine wp_seq<|U4 [5,15,25,35,45,55,65,75,30] s b Za
    (Am 75 rfl<|Am 5 rfl<|U2 [0] (Zg4 Zb0p rfl rfl U0)<|U2 [20,0] (Zcj rfl rfl U0 U1)<|U3) fun a g s b=>?_
   refine Zs (s.bool 8 rfl) H1 (fun H1=>?_) (fun H1=>?_)
   ·refine wp_skip<|Zl ?_
    refine wp_seq<|wp_block ?_
    obtain⟨b8,h9,H1⟩:=Zd H1
    refine U4 [5,15,70,35,45,55,65,75] (L:=[(1,_),(2,_),(5,_),(6,_),(7,_),(8,_),(9,_),(10,_)]) (s.pi [0,1,2,3,4,5,6,7] rfl) b Za
     (Am 25 rfl<|Am 0 rfl<|Gf [0,5] rfl (fun h=>Zx rfl rfl U0)<|Gf [10,75] rfl (fun h=>Zx rfl rfl U0)<|Gf [20,10,0] rfl (fun h=>Zr9 Zb0p rfl rfl (V1 h U0) (V1 h U1) (Zcb h9 h))<|Gf [30,0] rfl (fun h=>Zb0 rfl rfl (V1 h U0) U6)<|U2 [40,0] (Zb3 rfl rfl U0 (fun hz=>(V1 (bNF hz) U1)))<|Aa 0 rfl<|U3) fun a g s b=>?_
    obtain⟨b10,h11,H1⟩:=Zd H1
    refine U4 [5,15,25,70,45,55,65,75] s b Za
     (Am 35 rfl<|Am 0 rfl<|Gf [0,5] rfl (fun h=>Zx rfl rfl U0)<|Gf [10,75] rfl (fun h=>Zx rfl rfl U0)<|Gf [20,10,0] rfl (fun h=>Zr9 Zb0p rfl rfl (V1 h U0) (V1 h U1) (Zcb h11 h))<|Gf [30,0] rfl (fun h=>Zb0 rfl rfl (V1 h U0) U6)<|U2 [40,0] (Zb3 rfl rfl U0 (fun hz=>(V1 (bNF hz) U1)))<|Aa 0 rfl<|U3) fun a g s b=>?_
    obtain⟨b12,h13,H1⟩:=Zd H1
    refine U4 [5,15,25,35,70,55,65,75] s b Za
     (Am 45 rfl<|Am 0 rfl<|Gf [0,5] rfl (fun h=>Zx rfl rfl U0)<|Gf [10,75] rfl (fun h=>Zx rfl rfl U0)<|Gf [20,10,0] rfl (fun h=>Zr9 Zb0p rfl rfl (V1 h U0) (V1 h U1) (Zcb h13 h))<|Gf [30,0] rfl (fun h=>Zb0 rfl rfl (V1 h U0) U6)<|U2 [40,0] (Zb3 rfl rfl U0 (fun hz=>(V1 (bNF hz) U1)))<|Aa 0 rfl<|U3) fun a g s b=>?_
    obtain⟨b14,h15,H1⟩:=Zd H1
    refine U4 [5,15,25,35,45,70,65,75] s b Za
     (Am 55 rfl<|Am 0 rfl<|Gf [0,5] rfl (fun h=>Zx rfl rfl U0)<|Gf [10,75] rfl (fun h=>Zx rfl rfl U0)<|Gf [20,10,0] rfl (fun h=>Zr9 Zb0p rfl rfl (V1 h U0) (V1 h U1) (Zcb h15 h))<|Gf [30,0] rfl (fun h=>Zb0 rfl rfl (V1 h U0) U6)<|U2 [40,0] (Zb3 rfl rfl U0 (fun hz=>(V1 (bNF hz) U1)))<|Aa 0 rfl<|U3) fun a g s b=>?_
    obtain⟨b16,h17,H1⟩:=Zd H1
    refine U5 [5,15,25,35,45,55,70,75] s b Za
     (Am 65 rfl<|Am 0 rfl<|Gf [0,5] rfl (fun h=>Zx rfl rfl U0)<|Gf [10,75] rfl (fun h=>Zx rfl rfl U0)<|Gf [20,10,0] rfl (fun h=>Zr9 Zb0p rfl rfl (V1 h U0) (V1 h U1) (Zcb h17 h))<|Gf [30,0] rfl (fun h=>Zb0 rfl rfl (V1 h U0) U6)<|U2 [40,0] (Zb3 rfl rfl U0 (fun hz=>(V1 (bNF hz) U1)))<|Aa 0 rfl<|U3) fun a g s b=>?_
    refine Zbb<|Zl ?_
    refine U5 [5,15,25,35,45,55,65,20] s b Za
     (Am 75 rfl<|U2 [0] (Zbw rfl rfl U0 U6 rfl)<|Aa 0 rfl<|U3) fun a g s b=>?_
    exact⟨n,Zb0o _,(x1||(b8==(116:Int))),(x2||(b10==(110:Int))),(x3||(b12==(98:Int))),(x4||(b14==(114:Int))),(x5||(b16==(108:Int))),(Zb0n.wrap (x6+(1:Int))),g,rfl,(s.pi [0,1,2,3,4,5,6,7] rfl),b,H1⟩
   ·refine wp_exit<|Zbx ?_
    refine Zbx<|Zcg ?_
    exact⟨x1,x2,x3,x4,x5,g,rfl,(s.pi [1,2,3,4,5,6] rfl),b,Oi H1⟩
theorem Zwp (a0:Int) {r:ByteArray} (H0:Zmm a0=some r):FnOk Zb0k 125 [(pInt .i64 a0)] (pStr r):=by
 unfold Zmm at H0
 refine Zb9 (N:=15) Tryz.func125 rfl rfl (Qe rfl) rfl rfl (fun a g0 s b=>?_)
 refine U4 [5] s b Za
  (U2 [] (Zc rfl rfl c_s)<|U3) fun a g s b=>?_
 refine U4 [5,10] s b Za
  (U2 [] (Zgm Zbje (xs:=[.const (.string ⟨#[]⟩),.const (.string ⟨#[116]⟩),.const (.string ⟨#[110]⟩),.const (.string ⟨#[110]⟩),.const (.string ⟨#[110,98]⟩),.const (.string ⟨#[114]⟩),.const (.string ⟨#[114]⟩),.const (.string ⟨#[114]⟩),.const (.string ⟨#[108]⟩),.const (.string ⟨#[108]⟩)]) (.cons c_s (.cons c_s (.cons c_s (.cons c_s (.cons c_s (.cons c_s (.cons c_s (.cons c_s (.cons c_s (.cons c_s .nil)))))))))) (by decide) rfl rfl)<|Aa 0 rfl<|U3) fun a g s b=>?_
 refine wp_seq<|U4 [5,15,50] s b Za
  (Am 5 rfl<|U2 [0] (Zcj rfl rfl U0 U6)<|Am 0 rfl<|Gf [0,5] rfl (fun h=>Zx rfl rfl U0)<|Gf [10,0] rfl (fun h=>Zcn rfl rfl (V1 h U0) U6)<|U2 [20,0] (Zb3 rfl rfl U0 (fun hz=>(V1 (bNF hz) U1)))<|U3) fun a g s b=>?_
 refine Zs (s.bool 2 rfl) H0 (fun H0=>?_) (fun H0=>?_)
 refine U4 [0] (L:=[]) (s.pi [] rfl) b Za
  (U2 [] (Zc rfl rfl c_s)<|U3) fun a g s b=>?_
 refine wp_ret<|Zp ?_
 obtain rfl:=Oi H0
 exact Zba rfl s b (Zf (s:=2)) (s.at 0 rfl)
 refine wp_skip<|Zl ?_
 obtain⟨e2,h3,H0⟩:=Zd H0
 refine U4 [40] (L:=[(0,_),(3,_)]) (s.pi [0,1] rfl) b Za
  (Am 15 rfl<|Am 5 rfl<|U2 [10,0] (Zbn Zb04 sz_9 rfl rfl U0 U1 h3)<|Al V0 0 rfl<|Aa 0 rfl<|U3) fun a g s b=>?_
 refine wp_ret ?_
 obtain rfl:=Oi H0
 exact Zba rfl s b (Zf (s:=2)) (s.at 0 rfl)
theorem Zrt (a0:Zn) (a1:Zn) {r:Bool} (H0:Zh3 a0 a1=some r):FnOk Zb0k 163 [(Zy.pd a0),(Zy.pd a1)] (Zbo r):=by
 unfold Zh3 at H0
 refine Zb9 (N:=22) Tryz.func163 rfl rfl (Qe rfl) rfl rfl (fun a g0 s b=>?_)
 refine U4 [0,10] s b Za
  (U2 [5] (Zbt rfl rfl U0)<|U2 [15] (Zbt rfl rfl U0)<|U2 [] (Zc rfl rfl c_b)<|U3) fun a g s b=>?_
 refine wp_seq ?_
 obtain⟨r1,h2,H0⟩:=Zd H0
 refine U4 [5,15,40] s b Za
  (Af Zgd 15 rfl<|Al Zdk 0 rfl<|Af Zgd 5 rfl<|Al Zdk 0 rfl<|U2 [20,0] (Zt Z3s (Zje _ _ h2) rfl rfl (.cons U0 (.cons U1 .nil)))<|U3) fun a g s b=>?_
 refine Zs (s.bool 2 rfl) H0 (fun H0=>?_) (fun H0=>?_)
 refine U4 [0] (L:=[]) (s.pi [] rfl) b Za
  (U2 [] (Zc rfl rfl c_b)<|U3) fun a g s b=>?_
 refine wp_ret<|Zp ?_
 obtain rfl:=Oi H0
 exact Zba rfl s b (Zf (s:=4)) (s.at 0 rfl)
 refine wp_skip<|Zl ?_
 obtain⟨r4,h5,H0⟩:=Zd H0
 refine U4 [120] (L:=[(2,_),(3,_)]) (s.pi [0,1] rfl) b Za
  (Af Zgd 5 rfl<|Al Zdk 0 rfl<|Af Zgd 15 rfl<|Al Zdk 0 rfl<|U2 [20,0] (Zt Zz0 (Zh9 _ _ h5) rfl rfl (.cons U0 (.cons U1 .nil)))<|Am 0 rfl<|Gt [0,5] rfl (fun h=>Zq Zeq rfl rfl U0)<|Gt [10,0] rfl (fun h=>Z2 V0 rfl rfl (V1 h U0))<|Gt [20,15] rfl (fun h=>Zq Zeq rfl rfl U0)<|Gt [30,0] rfl (fun h=>Z2 V0 rfl rfl (V1 h U0))<|Gt [40,20,0] rfl (fun h=>Zro rfl rfl (V1 h U0) (V1 h U1))<|U2 [50,0] (Zbs rfl rfl U0 (fun hz=>(V1 hz U1)))<|Aa 0 rfl<|U3) fun a g s b=>?_
 refine wp_ret ?_
 obtain rfl:=Oi H0
 exact Zba rfl s b (Zf (s:=4)) (s.at 0 rfl)
theorem Zx9 (a0:Int) (a1:List Zn) (a2:Int) {r:Int} (H0:Zl3 a0 a1 a2=some r):FnOk Zb0k 126 [(pInt .i64 a0),(Zy.sl.pd a1),(pInt .i64 a2)] (pInt .i64 r):=by
 unfold Zl3 at H0
 refine Zb9 (N:=64) Tryz.func126 rfl rfl (Qe rfl) rfl rfl (fun a g0 s b=>?_)
 refine U4 [5,15,25] s b Za
  (U2 [] (Zc rfl rfl U6)<|U3) fun a g s b=>?_
 obtain⟨e1,h2,H0⟩:=Zd H0
 refine U4 [5,15,25,50] s b Za
  (Am 15 rfl<|Am 25 rfl<|U2 [10,0] (Zbn Zb0l Zf1 rfl rfl U0 U1 h2)<|Al Zev 0 rfl<|U2 [] (Zs1 7 rfl rfl)<|U2 [10,0] (Zci Zev rfl rfl U1 U0)<|U3) fun a g s b=>?_
 refine wp_seq<|U4 [5,15,25,35,30] s b Za
  (Af Zeq 35 rfl<|Al V0 0 rfl<|U2 [0] (Zg4 Zb0p rfl rfl U0)<|U2 [0] (Zcn rfl rfl U0 U6)<|U3) fun a g s b=>?_
 refine Zs (s.bool 4 rfl) H0 (fun H0=>?_) (fun H0=>?_)
 refine U4 [0] (L:=[]) (s.pi [] rfl) b Za
  (U2 [] (Zc rfl rfl U6)<|U3) fun a g s b=>?_
 refine wp_ret<|Zp ?_
 obtain rfl:=Oi H0
 exact Zba rfl s b (Zf (s:=6)) (s.at 0 rfl)
 refine wp_skip<|Zl ?_
 refine wp_seq ?_
 obtain⟨r4,h5,H0⟩:=Zd H0;obtain⟨r6,h7,H0⟩:=Zd H0
 refine U4 [5,15,25,35,130] (L:=[(0,_),(1,_),(2,_),(7,_)]) (s.pi [0,1,2,3] rfl) b Za
  (Am 5 rfl<|U2 [0] (Zb0 rfl rfl U0 U6)<|Am 0 rfl<|Gt [0,35] rfl (fun h=>Zq Zgd rfl rfl U0)<|Gt [10,0] rfl (fun h=>Z2 Zdk rfl rfl (V1 h U0))<|Gt [20,0] rfl (fun h=>Zt Zbhk (Zr1 _ (Zcb h5 h)) rfl rfl (.cons (V1 h U0) .nil))<|Gt [30,0] rfl (fun h=>Zct rfl rfl (V1 h U0))<|U2 [40,0] (Zbs rfl rfl U0 (fun hz=>(V1 hz U1)))<|Am 0 rfl<|Gf [0,35] rfl (fun h=>Zq Zgd rfl rfl U0)<|Gf [10,0] rfl (fun h=>Z2 Zdk rfl rfl (V1 h U0))<|Gf [20,0] rfl (fun h=>Zt Zbe1 (Zns _ (Zcb h7 h)) rfl rfl (.cons (V1 h U0) .nil))<|Gf [30,0] rfl (fun h=>Zct rfl rfl (V1 h U0))<|U2 [40,0] (Zb3 rfl rfl U0 (fun hz=>(V1 (bNF hz) U1)))<|U3) fun a g s b=>?_
 refine Zs (s.bool 4 rfl) H0 (fun H0=>?_) (fun H0=>?_)
 refine U4 [0] (L:=[]) (s.pi [] rfl) b Za
  (U2 [] (Zc rfl rfl U6)<|U3) fun a g s b=>?_
 refine wp_ret<|Zp ?_
 obtain rfl:=Oi H0
 exact Zba rfl s b (Zf (s:=6)) (s.at 0 rfl)
 refine wp_skip<|Zl ?_
 refine wp_seq ?_
 obtain⟨e9,h10,H0⟩:=Zd H0
 refine U4 [5,15,25,35,170] (L:=[(0,_),(1,_),(2,_),(7,_)]) (s.pi [0,1,2,3] rfl) b Za
  (Am 25 rfl<|U2 [0] (Zcn rfl rfl U0 U6)<|Am 0 rfl<|Gt [0,5] rfl (fun h=>Zx rfl rfl U0)<|Gt [10,0] rfl (fun h=>Zb0 rfl rfl (V1 h U0) U6)<|U2 [20,0] (Zbs rfl rfl U0 (fun hz=>(V1 hz U1)))<|Am 0 rfl<|Gt [0,15] rfl (fun h=>Zx rfl rfl U0)<|Gt [10,25] rfl (fun h=>Zx rfl rfl U0)<|Gt [20,0] rfl (fun h=>Zei rfl rfl (V1 h U0) U6 rfl)<|Gt [30,20,0] rfl (fun h=>Zbn Zb0l Zf1 rfl rfl (V1 h U0) (V1 h U1) (Zcb h10 h))<|Gt [40,0] rfl (fun h=>Zq Zeq rfl rfl (V1 h U0))<|Gt [50,0] rfl (fun h=>Z2 V0 rfl rfl (V1 h U0))<|Gt [60,35] rfl (fun h=>Zq Zeq rfl rfl U0)<|Gt [70,0] rfl (fun h=>Z2 V0 rfl rfl (V1 h U0))<|Gt [80,20,0] rfl (fun h=>Zro rfl rfl (V1 h U0) (V1 h U1))<|Gt [90,0] rfl (fun h=>Zct rfl rfl (V1 h U0))<|U2 [100,0] (Zbs rfl rfl U0 (fun hz=>(V1 hz U1)))<|U3) fun a g s b=>?_
 refine Zs (s.bool 4 rfl) H0 (fun H0=>?_) (fun H0=>?_)
 refine U4 [0] (L:=[]) (s.pi [] rfl) b Za
  (U2 [] (Zc rfl rfl U6)<|U3) fun a g s b=>?_
 refine wp_ret<|Zp ?_
 obtain rfl:=Oi H0
 exact Zba rfl s b (Zf (s:=6)) (s.at 0 rfl)
 refine wp_skip<|Zl ?_
 refine wp_seq ?_
 obtain⟨e12,h13,H0⟩:=Zd H0;obtain⟨r14,h15,H0⟩:=Zd H0
 refine U4 [150] (L:=[(0,_),(1,_),(2,_),(7,_)]) (s.pi [0,1,2,3] rfl) b Za
  (Am 25 rfl<|U2 [0] (Zcn rfl rfl U0 U6)<|Am 0 rfl<|Gt [0,5] rfl (fun h=>Zx rfl rfl U0)<|Gt [10,0] rfl (fun h=>Zb0 rfl rfl (V1 h U0) U6)<|U2 [20,0] (Zbs rfl rfl U0 (fun hz=>(V1 hz U1)))<|Am 0 rfl<|Gt [0,15] rfl (fun h=>Zx rfl rfl U0)<|Gt [10,25] rfl (fun h=>Zx rfl rfl U0)<|Gt [20,0] rfl (fun h=>Zei rfl rfl (V1 h U0) U6 rfl)<|Gt [30,20,0] rfl (fun h=>Zbn Zb0l Zf1 rfl rfl (V1 h U0) (V1 h U1) (Zcb h13 h))<|Gt [40,0] rfl (fun h=>Z2 Zev rfl rfl (V1 h U0))<|Gt [50,35] rfl (fun h=>Z2 Zev rfl rfl U0)<|Gt [60,10,0] rfl (fun h=>Zt Zbi9 (Zrt _ _ (Zcb h15 h)) rfl rfl (.cons (V1 h U0) (.cons (V1 h U1) .nil)))<|Gt [70,0] rfl (fun h=>Zct rfl rfl (V1 h U0))<|U2 [80,0] (Zbs rfl rfl U0 (fun hz=>(V1 hz U1)))<|U3) fun a g s b=>?_
 refine Zs (s.bool 0 rfl) H0 (fun H0=>?_) (fun H0=>?_)
 refine U4 [0] (L:=[]) (s.pi [] rfl) b Za
  (U2 [] (Zc rfl rfl U6)<|U3) fun a g s b=>?_
 refine wp_ret<|Zp ?_
 obtain rfl:=Oi H0
 exact Zba rfl s b (Zf (s:=6)) (s.at 0 rfl)
 refine wp_skip<|Zl ?_
 refine U4 [0] (L:=[]) (s.pi [] rfl) b Za
  (U2 [] (Zc rfl rfl U6)<|U3) fun a g s b=>?_
 refine wp_ret ?_
 obtain rfl:=Oi H0
 exact Zba rfl s b (Zf (s:=6)) (s.at 0 rfl)
theorem Zoo (a0:Zb) {r:Int} (H0:Zeu a0=some r):FnOk Zb0k 99 [(Zg.pd a0)] (pInt .i64 r):=by
 unfold Zeu at H0
 refine Zb9 (N:=96) Tryz.func99 rfl rfl (Qe rfl) rfl rfl (fun a g0 s b=>?_)
 refine U4 [0] s b Za
  (U2 [5] (Zbt rfl rfl U0)<|U2 [] (Zc rfl rfl U6)<|U3) fun a g s b=>?_
 refine wp_seq<|U4 [5,70] s b Za
  (Af Zfd 5 rfl<|Al U9 0 rfl<|U2 [0] (Zcj rfl rfl U0 U6)<|Am 0 rfl<|Gf [0,5] rfl (fun h=>Zq Zfd rfl rfl U0)<|Gf [10,0] rfl (fun h=>Z2 U9 rfl rfl (V1 h U0))<|Gf [20,0] rfl (fun h=>Zcn rfl rfl (V1 h U0) U6)<|U2 [30,0] (Zb3 rfl rfl U0 (fun hz=>(V1 (bNF hz) U1)))<|U3) fun a g s b=>?_
 refine Zs (s.bool 1 rfl) H0 (fun H0=>?_) (fun H0=>?_)
 ·refine U4 [0] (L:=[]) (s.pi [] rfl) b Za
   (U2 [] (Zc rfl rfl U6)<|U3) fun a g s b=>?_
  refine wp_ret<|Zp ?_
  obtain rfl:=Oi H0
  exact Zba rfl s b (Zf (s:=2)) (s.at 0 rfl)
 ·refine wp_skip<|Zl ?_
  refine wp_seq ?_
  obtain⟨r2,h3,H0⟩:=Zd H0;obtain⟨r4,h5,H0⟩:=Zd H0
  refine U4 [5,50] (L:=[(1,_)]) (s.pi [0] rfl) b Za
   (Al Zbd 5 rfl<|Af Zfd 5 rfl<|Al U9 0 rfl<|U2 [0] (Zt Zbo6 (Zwp _ h3) rfl rfl (.cons U0 .nil))<|U2 [30,0] (Zt Zbpt (Zyf _ _ h5) rfl rfl (.cons U0 (.cons U1 .nil)))<|U2 [0] (Zct rfl rfl U0)<|U3) fun a g s b=>?_
  refine Zs (s.bool 1 rfl) H0 (fun H0=>?_) (fun H0=>?_)
  ·refine U4 [0] (L:=[]) (s.pi [] rfl) b Za
    (U2 [] (Zc rfl rfl U6)<|U3) fun a g s b=>?_
   refine wp_ret<|Zp ?_
   obtain rfl:=Oi H0
   exact Zba rfl s b (Zf (s:=2)) (s.at 0 rfl)
  ·refine wp_skip<|Zl ?_
   refine wp_seq<|U4 [5,80] (L:=[(1,_)]) (s.pi [0] rfl) b Za
    (Af Zfd 5 rfl<|Al U9 0 rfl<|U2 [0] (Zb0 rfl rfl U0 U6)<|Am 0 rfl<|Gt [0,5] rfl (fun h=>Zq Zi1 rfl rfl U0)<|Gt [10,0] rfl (fun h=>Z2 V0 rfl rfl (V1 h U0))<|Gt [20,0] rfl (fun h=>Zg4 Zb0p rfl rfl (V1 h U0))<|Gt [30,0] rfl (fun h=>Zcn rfl rfl (V1 h U0) U6)<|U2 [40,0] (Zbs rfl rfl U0 (fun hz=>(V1 hz U1)))<|U3) fun a g s b=>?_
   refine Zs (s.bool 1 rfl) H0 (fun H0=>?_) (fun H0=>?_)
   ·refine U4 [0] (L:=[]) (s.pi [] rfl) b Za
     (U2 [] (Zc rfl rfl U6)<|U3) fun a g s b=>?_
    refine wp_ret<|Zp ?_
    obtain rfl:=Oi H0
    exact Zba rfl s b (Zf (s:=2)) (s.at 0 rfl)
   ·refine wp_skip<|Zl ?_
    refine U4 [5,0] (L:=[(1,_)]) (s.pi [0] rfl) b Za
     (U2 [] (Zc rfl rfl U6)<|U3) fun a g s b=>?_
    refine wp_seq<|U4 [5,290] s b Za
     (Af Zfd 5 rfl<|Al U9 0 rfl<|U2 [0] (Zb0 rfl rfl U0 U6)<|Am 0 rfl<|Gt [0,5] rfl (fun h=>Zq Zjt rfl rfl U0)<|Gt [10,0] rfl (fun h=>Z2 U8 rfl rfl (V1 h U0))<|Gt [20,15] rfl (fun h=>Zx rfl rfl U0)<|Gt [30,0] rfl (fun h=>Zbgi rfl rfl (V1 h U0) rfl)<|Gt [40,20,0] rfl (fun h=>Zcj rfl rfl (V1 h U0) (V1 h U1))<|Gt [50,0] rfl (fun h=>Zx rfl rfl (V1 h U0))<|Gv [0,5] rfl (fun h=>Zq Zjz rfl rfl U0)<|Gv [10,0] rfl (fun h=>Z2 U8 rfl rfl (V1 h U0))<|Gv [20,15] rfl (fun h=>Zx rfl rfl U0)<|Gv [30,10,0] rfl (fun h=>Zcn rfl rfl (V1 h U0) (V1 h U1))<|Gt [100,40,0] rfl (fun h=>Zb3 rfl rfl (V1 h U0) (fun hz=>(V1 (bA h (bNF hz)) U1)))<|Gt [110,0] rfl (fun h=>Zx rfl rfl (V1 h U0))<|Gv [0,5] rfl (fun h=>Zq Zdc rfl rfl U0)<|Gv [10,0] rfl (fun h=>Z2 U8 rfl rfl (V1 h U0))<|Gv [20,5] rfl (fun h=>Zq Zjt rfl rfl U0)<|Gv [30,0] rfl (fun h=>Z2 U8 rfl rfl (V1 h U0))<|Gv [40,20,0] rfl (fun h=>Zcj rfl rfl (V1 h U0) (V1 h U1))<|Gt [170,50,0] rfl (fun h=>Zb3 rfl rfl (V1 h U0) (fun hz=>(V1 (bA h (bNF hz)) U1)))<|Gt [180,0] rfl (fun h=>Zx rfl rfl (V1 h U0))<|Gv [0,5] rfl (fun h=>Zq Zdc rfl rfl U0)<|Gv [10,0] rfl (fun h=>Z2 U8 rfl rfl (V1 h U0))<|Gv [20,5] rfl (fun h=>Zq Zjz rfl rfl U0)<|Gv [30,0] rfl (fun h=>Z2 U8 rfl rfl (V1 h U0))<|Gv [40,20,0] rfl (fun h=>Zcn rfl rfl (V1 h U0) (V1 h U1))<|Gt [240,50,0] rfl (fun h=>Zb3 rfl rfl (V1 h U0) (fun hz=>(V1 (bA h (bNF hz)) U1)))<|U2 [250,0] (Zbs rfl rfl U0 (fun hz=>(V1 hz U1)))<|U3) fun a g s b=>?_
    refine Zs (s.bool 1 rfl) H0 (fun H0=>?_) (fun H0=>?_)
    ·refine U4 [0] (L:=[]) (s.pi [] rfl) b Za
      (U2 [] (Zc rfl rfl U6)<|U3) fun a g s b=>?_
     refine wp_ret<|Zp ?_
     obtain rfl:=Oi H0
     exact Zba rfl s b (Zf (s:=2)) (s.at 0 rfl)
    ·refine wp_skip<|Zl ?_
     refine wp_seq ?_
     obtain⟨r9,h10,H0⟩:=Zd H0
     refine U4 [5,30] (L:=[(1,_)]) (s.pi [0] rfl) b Za
      (Af Zga 5 rfl<|Al Zdk 0 rfl<|U2 [0] (Zt Zbe1 (Zns _ h10) rfl rfl (.cons U0 .nil))<|U2 [0] (Zct rfl rfl U0)<|U3) fun a g s b=>?_
     refine Zs (s.bool 1 rfl) H0 (fun H0=>?_) (fun H0=>?_)
     ·refine U4 [0] (L:=[]) (s.pi [] rfl) b Za
       (U2 [] (Zc rfl rfl U6)<|U3) fun a g s b=>?_
      refine wp_ret<|Zp ?_
      obtain rfl:=Oi H0
      exact Zba rfl s b (Zf (s:=2)) (s.at 0 rfl)
     ·refine wp_skip<|Zl ?_
      refine wp_seq<|U4 [5,20] (L:=[(1,_)]) (s.pi [0] rfl) b Za
       (Af Zfd 5 rfl<|Al U9 0 rfl<|U2 [0] (Zcj rfl rfl U0 U6)<|U3) fun a g s b=>?_
      refine Zs (s.bool 1 rfl) H0 (fun H0=>?_) (fun H0=>?_)
      ·refine U4 [0] (L:=[]) (s.pi [] rfl) b Za
        (U2 [] (Zc rfl rfl U6)<|U3) fun a g s b=>?_
       refine wp_ret<|Zp ?_
       obtain rfl:=Oi H0
       exact Zba rfl s b (Zf (s:=2)) (s.at 0 rfl)
      ·refine wp_skip<|Zl ?_
       refine wp_seq<|U4 [5,70] (L:=[(1,_)]) (s.pi [0] rfl) b Za
        (Af Zhb 5 rfl<|Al U9 0 rfl<|U2 [0] (Zcj rfl rfl U0 U6)<|Am 0 rfl<|Gf [0,5] rfl (fun h=>Zq Zhb rfl rfl U0)<|Gf [10,0] rfl (fun h=>Z2 U9 rfl rfl (V1 h U0))<|Gf [20,0] rfl (fun h=>Zcn rfl rfl (V1 h U0) U6)<|U2 [30,0] (Zb3 rfl rfl U0 (fun hz=>(V1 (bNF hz) U1)))<|U3) fun a g s b=>?_
       refine Zs (s.bool 1 rfl) H0 (fun H0=>?_) (fun H0=>?_)
       ·refine U4 [0] (L:=[]) (s.pi [] rfl) b Za
         (U2 [] (Zc rfl rfl U6)<|U3) fun a g s b=>?_
        refine wp_ret<|Zp ?_
        obtain rfl:=Oi H0
        exact Zba rfl s b (Zf (s:=2)) (s.at 0 rfl)
       ·refine wp_skip<|Zl ?_
        refine wp_seq<|U4 [5,50] (L:=[(1,_)]) (s.pi [0] rfl) b Za
         (Af Zcm 5 rfl<|Al Zdx 0 rfl<|U2 [0] (Zbv Zb0l rfl rfl U0)<|Af Zhb 5 rfl<|Al U9 0 rfl<|U2 [20,0] (Zcn rfl rfl U0 U1)<|U3) fun a g s b=>?_
        refine Zs (s.bool 1 rfl) H0 (fun H0=>?_) (fun H0=>?_)
        ·refine U4 [0] (L:=[]) (s.pi [] rfl) b Za
          (U2 [] (Zc rfl rfl U6)<|U3) fun a g s b=>?_
         refine wp_ret<|Zp ?_
         obtain rfl:=Oi H0
         exact Zba rfl s b (Zf (s:=2)) (s.at 0 rfl)
        ·refine wp_skip<|Zl ?_
         refine wp_seq<|U4 [5,0] (L:=[(1,_)]) (s.pi [0] rfl) b Za
          (U2 [] (Zc rfl rfl U6)<|U3) fun a g s b=>?_
         obtain⟨z20,hz1,H0⟩:=Zd H0
         refine Zbq (fun a w=>∃(g:G),Jn 96 [] a w g0 g ((.inr ())=z20)) ?_ ?_
         ·rintro a w ⟨g,rfl,s,b,rfl⟩
          refine Zl<|U4 [0] s b Za
           (U2 [] (Zc rfl rfl U6)<|U3) fun a g s b=>?_
          refine wp_ret ?_
          obtain rfl:=Oi H0
          exact Zba rfl s b (Zf (s:=2)) (s.at 0 rfl)
         ·refine wp_block<|wp_loop_ghost (fun n a w=>∃(x15:Int) (g:G),Jn 96 [(1,(Zg.ptr a0)),(4,(pInt .i64 x15))] a w g0 g (Zfp a0 n x15=some z20)) (Zb0q ((a0.List.length:Int)-(0:Int))+1) ⟨(0:Int),g,rfl,(s.pi [0,1] rfl),b,hz1⟩ (fun n a w hI=>?_)
          obtain⟨x15,g,rfl,s,b,H1⟩:=hI
          cases n with
          | zero=>exact absurd H1 (by simp[Zfp])
          | succ n =>
           rw[Zfp]at H1
           refine wp_seq<|U4 [5,15,40] s b Za
            (Am 15 rfl<|Af Zcm 5 rfl<|Al Zdx 0 rfl<|U2 [0] (Zbv Zb0l rfl rfl U0)<|U2 [30,0] (Zcj rfl rfl U0 U1)<|U3) fun a g s b=>?_
           refine Zs (s.bool 2 rfl) H1 (fun H1=>?_) (fun H1=>?_)
           ·refine wp_skip<|Zl ?_
            refine wp_seq<|wp_block ?_
            obtain⟨r17,h18,H1⟩:=Zd H1
            refine U4 [5,15,60] (L:=[(1,_),(4,_)]) (s.pi [0,1] rfl) b Za
             (Af Zfd 5 rfl<|Al U9 0 rfl<|Af Zcm 5 rfl<|Al Zdx 0 rfl<|Am 15 rfl<|U2 [30,10,0] (Zt Zbox (Zx9 _ _ _ h18) rfl rfl (.cons U0 (.cons U1 (.cons U7 .nil))))<|Aa 0 rfl<|U3) fun a g s b=>?_
            refine U4 [5,15,25,10] s b Za
             (Am 25 rfl<|U2 [0] (Zcv rfl rfl U0 U6)<|U3) fun a g s b=>?_
            refine Zs (s.bool 3 rfl) H1 (fun H1=>?_) (fun H1=>?_)
            ·refine U4 [10] (L:=[(5,_)]) (s.pi [2] rfl) b Za
              (Am 5 rfl<|Aa 0 rfl<|U3) fun a g s b=>?_
             refine wp_ret<|Z5 ?_
             refine Zp<|Zp ?_
             refine Z5<|Zp ?_
             refine Zp ?_
             obtain rfl:=Oi H1
             obtain rfl:=Oi H0
             exact Zba rfl s b (Zf (s:=2)) (s.at 0 rfl)
            ·refine wp_skip<|Zbb ?_
             refine Zl<|U5 [5,20] (L:=[(1,_),(4,_)]) (s.pi [0,1] rfl) b Za
              (Am 15 rfl<|U2 [0] (Zbw rfl rfl U0 U6 rfl)<|Aa 0 rfl<|U3) fun a g s b=>?_
             exact⟨n,Zb0o _,(Zb0n.wrap (x15+(1:Int))),g,rfl,(s.pi [0,1] rfl),b,H1⟩
           ·refine wp_exit<|Zbx ?_
            refine Zbx<|Zcg ?_
            exact⟨g,rfl,(s.pi [] rfl),b,Oi H1⟩
theorem Zrv (a0:Zw) {r:Int} (H0:Zf7 a0=some r):FnOk Zb0k 69 [(Z6.pd a0)] (pInt .i64 r):=by
 unfold Zf7 at H0
 refine Zb9 (N:=113) Tryz.func69 rfl rfl (Qe rfl) rfl rfl (fun a g0 s b=>?_)
 refine U4 [0] s b Za
  (U2 [5] (Zbt rfl rfl U0)<|U2 [] (Zc rfl rfl U6)<|U3) fun a g s b=>?_
 refine wp_seq<|U4 [5,70] s b Za
  (Af Zdh 5 rfl<|Al U9 0 rfl<|U2 [0] (Zcj rfl rfl U0 U6)<|Am 0 rfl<|Gf [0,5] rfl (fun h=>Zq Zdh rfl rfl U0)<|Gf [10,0] rfl (fun h=>Z2 U9 rfl rfl (V1 h U0))<|Gf [20,0] rfl (fun h=>Zcn rfl rfl (V1 h U0) U6)<|U2 [30,0] (Zb3 rfl rfl U0 (fun hz=>(V1 (bNF hz) U1)))<|U3) fun a g s b=>?_
 refine Zs (s.bool 1 rfl) H0 (fun H0=>?_) (fun H0=>?_)
 refine U4 [0] (L:=[]) (s.pi [] rfl) b Za
  (U2 [] (Zc rfl rfl U6)<|U3) fun a g s b=>?_
 refine wp_ret<|Zp ?_
 obtain rfl:=Oi H0
 exact Zba rfl s b (Zf (s:=2)) (s.at 0 rfl)
 refine wp_skip<|Zl ?_
 refine wp_seq<|U4 [5,90] (L:=[(1,_)]) (s.pi [0] rfl) b Za
  (Af Zjy 5 rfl<|Al V0 0 rfl<|U2 [0] (Zg4 Zb0p rfl rfl U0)<|U2 [0] (Zcj rfl rfl U0 U6)<|Am 0 rfl<|Gf [0,5] rfl (fun h=>Zq Zjy rfl rfl U0)<|Gf [10,0] rfl (fun h=>Z2 V0 rfl rfl (V1 h U0))<|Gf [20,0] rfl (fun h=>Zg4 Zb0p rfl rfl (V1 h U0))<|Gf [30,0] rfl (fun h=>Zcn rfl rfl (V1 h U0) U6)<|U2 [40,0] (Zb3 rfl rfl U0 (fun hz=>(V1 (bNF hz) U1)))<|U3) fun a g s b=>?_
 refine Zs (s.bool 1 rfl) H0 (fun H0=>?_) (fun H0=>?_)
 refine U4 [0] (L:=[]) (s.pi [] rfl) b Za
  (U2 [] (Zc rfl rfl U6)<|U3) fun a g s b=>?_
 refine wp_ret<|Zp ?_
 obtain rfl:=Oi H0
 exact Zba rfl s b (Zf (s:=2)) (s.at 0 rfl)
 refine wp_skip<|Zl ?_
 refine wp_seq ?_
 obtain⟨r3,h4,H0⟩:=Zd H0;obtain⟨r5,h6,H0⟩:=Zd H0;obtain⟨r7,h8,H0⟩:=Zd H0;obtain⟨r9,h10,H0⟩:=Zd H0
 refine U4 [5,310] (L:=[(1,_)]) (s.pi [0] rfl) b Za
  (Af Zdh 5 rfl<|Al U9 0 rfl<|U2 [0] (Zt Zbfp (Zpw _ _ h4) rfl rfl (.cons U0 (.cons U6 .nil)))<|U2 [0] (Zct rfl rfl U0)<|Am 0 rfl<|Gt [0,5] rfl (fun h=>Zq Zd8 rfl rfl U0)<|Gt [10,0] rfl (fun h=>Z2 U8 rfl rfl (V1 h U0))<|Gt [20,0] rfl (fun h=>Zcv rfl rfl (V1 h U0) U6)<|U2 [30,0] (Zbs rfl rfl U0 (fun hz=>(V1 hz U1)))<|Am 0 rfl<|Gf [0,5] rfl (fun h=>Zq Zdh rfl rfl U0)<|Gf [10,0] rfl (fun h=>Z2 U9 rfl rfl (V1 h U0))<|Gf [20,0] rfl (fun h=>Zt Zbfp (Zpw _ _ (Zcb h6 h)) rfl rfl (.cons (V1 h U0) (.cons U6 .nil)))<|Gf [30,0] rfl (fun h=>Zct rfl rfl (V1 h U0))<|Gf [40,0] rfl (fun h=>Zx rfl rfl (V1 h U0))<|Gu [0,5] rfl (fun h=>Zq Zit rfl rfl U0)<|Gu [10,0] rfl (fun h=>Z2 Zdk rfl rfl (V1 h U0))<|Gu [20,0] rfl (fun h=>Zt Zz0 (Zh9 _ _ (Zcb h8 h)) rfl rfl (.cons (V1 h U0) (.cons c_f .nil)))<|Gu [30,0] rfl (fun h=>Zct rfl rfl (V1 h U0))<|Gf [90,40,0] rfl (fun h=>Zbs rfl rfl (V1 h U0) (fun hz=>(V1 (bA h hz) U1)))<|U2 [100,0] (Zb3 rfl rfl U0 (fun hz=>(V1 (bNF hz) U1)))<|Am 0 rfl<|Gf [0,5] rfl (fun h=>Zq Zdh rfl rfl U0)<|Gf [10,0] rfl (fun h=>Z2 U9 rfl rfl (V1 h U0))<|Gf [20,0] rfl (fun h=>Zt Zbfp (Zpw _ _ (Zcb h10 h)) rfl rfl (.cons (V1 h U0) (.cons U6 .nil)))<|Gf [30,0] rfl (fun h=>Zct rfl rfl (V1 h U0))<|Gf [40,0] rfl (fun h=>Zx rfl rfl (V1 h U0))<|Gu [0,5] rfl (fun h=>Zq Zfe rfl rfl U0)<|Gu [10,0] rfl (fun h=>Z2 V0 rfl rfl (V1 h U0))<|Gu [20,0] rfl (fun h=>Zue rfl rfl (V1 h U0) c_s)<|Gf [80,30,0] rfl (fun h=>Zbs rfl rfl (V1 h U0) (fun hz=>(V1 (bA h hz) U1)))<|U2 [90,0] (Zb3 rfl rfl U0 (fun hz=>(V1 (bNF hz) U1)))<|U3) fun a g s b=>?_
 refine Zs (s.bool 1 rfl) H0 (fun H0=>?_) (fun H0=>?_)
 refine U4 [0] (L:=[]) (s.pi [] rfl) b Za
  (U2 [] (Zc rfl rfl U6)<|U3) fun a g s b=>?_
 refine wp_ret<|Zp ?_
 obtain rfl:=Oi H0
 exact Zba rfl s b (Zf (s:=2)) (s.at 0 rfl)
 refine wp_skip<|Zl ?_
 refine wp_seq ?_
 obtain⟨r12,h13,H0⟩:=Zd H0
 refine U4 [5,90] (L:=[(1,_)]) (s.pi [0] rfl) b Za
  (Af Zdh 5 rfl<|Al U9 0 rfl<|U2 [0] (Zcv rfl rfl U0 U6)<|Am 0 rfl<|Gt [0,5] rfl (fun h=>Zq Zob rfl rfl U0)<|Gt [10,0] rfl (fun h=>Z2 Zbd rfl rfl (V1 h U0))<|Gt [20] rfl (fun h=>Zqf rfl rfl )<|Gt [30,10,0] rfl (fun h=>Zt Zbmf (Zr4 _ _ (Zcb h13 h)) rfl rfl (.cons (V1 h U0) (.cons (V1 h U1) .nil)))<|Gt [40,0] rfl (fun h=>Zct rfl rfl (V1 h U0))<|U2 [50,0] (Zbs rfl rfl U0 (fun hz=>(V1 hz U1)))<|U3) fun a g s b=>?_
 refine Zs (s.bool 1 rfl) H0 (fun H0=>?_) (fun H0=>?_)
 refine U4 [0] (L:=[]) (s.pi [] rfl) b Za
  (U2 [] (Zc rfl rfl U6)<|U3) fun a g s b=>?_
 refine wp_ret<|Zp ?_
 obtain rfl:=Oi H0
 exact Zba rfl s b (Zf (s:=2)) (s.at 0 rfl)
 refine wp_skip<|Zl ?_
 refine wp_seq ?_
 obtain⟨r15,h16,H0⟩:=Zd H0;obtain⟨r17,h18,H0⟩:=Zd H0
 refine U4 [5,210] (L:=[(1,_)]) (s.pi [0] rfl) b Za
  (Af Zdh 5 rfl<|Al U9 0 rfl<|U2 [0] (Zt Zbf6 (Zqp _ h16) rfl rfl (.cons U0 .nil))<|U2 [0] (Zb0 rfl rfl U0 U6)<|Am 0 rfl<|Gt [0,5] rfl (fun h=>Zq Zfe rfl rfl U0)<|Gt [10,0] rfl (fun h=>Z2 V0 rfl rfl (V1 h U0))<|Gt [20,0] rfl (fun h=>Zg4 Zb0p rfl rfl (V1 h U0))<|Gt [30,0] rfl (fun h=>Zcn rfl rfl (V1 h U0) U6)<|U2 [40,0] (Zbs rfl rfl U0 (fun hz=>(V1 hz U1)))<|Am 0 rfl<|Gf [0,5] rfl (fun h=>Zq Zdh rfl rfl U0)<|Gf [10,0] rfl (fun h=>Z2 U9 rfl rfl (V1 h U0))<|Gf [20,0] rfl (fun h=>Zt Zbf6 (Zqp _ (Zcb h18 h)) rfl rfl (.cons (V1 h U0) .nil))<|Gf [30,0] rfl (fun h=>Zcv rfl rfl (V1 h U0) U6)<|Gf [40,0] rfl (fun h=>Zx rfl rfl (V1 h U0))<|Gu [0,5] rfl (fun h=>Zq Zfe rfl rfl U0)<|Gu [10,0] rfl (fun h=>Z2 V0 rfl rfl (V1 h U0))<|Gu [20,0] rfl (fun h=>Zg4 Zb0p rfl rfl (V1 h U0))<|Gu [30,0] rfl (fun h=>Zcn rfl rfl (V1 h U0) U6)<|Gf [90,40,0] rfl (fun h=>Zbs rfl rfl (V1 h U0) (fun hz=>(V1 (bA h hz) U1)))<|U2 [100,0] (Zb3 rfl rfl U0 (fun hz=>(V1 (bNF hz) U1)))<|U3) fun a g s b=>?_
 refine Zs (s.bool 1 rfl) H0 (fun H0=>?_) (fun H0=>?_)
 refine U4 [0] (L:=[]) (s.pi [] rfl) b Za
  (U2 [] (Zc rfl rfl U6)<|U3) fun a g s b=>?_
 refine wp_ret<|Zp ?_
 obtain rfl:=Oi H0
 exact Zba rfl s b (Zf (s:=2)) (s.at 0 rfl)
 refine wp_skip<|Zl ?_
 refine wp_seq<|U4 [5,170] (L:=[(1,_)]) (s.pi [0] rfl) b Za
  (Af Zdh 5 rfl<|Al U9 0 rfl<|U2 [0] (Zb0 rfl rfl U0 U6)<|Am 0 rfl<|Gf [0,5] rfl (fun h=>Zq Zdh rfl rfl U0)<|Gf [10,0] rfl (fun h=>Z2 U9 rfl rfl (V1 h U0))<|Gf [20,0] rfl (fun h=>Zb0 rfl rfl (V1 h U0) U6)<|U2 [30,0] (Zb3 rfl rfl U0 (fun hz=>(V1 (bNF hz) U1)))<|Am 0 rfl<|Gt [0,5] rfl (fun h=>Zq Zd8 rfl rfl U0)<|Gt [10,0] rfl (fun h=>Z2 U8 rfl rfl (V1 h U0))<|Gt [20,0] rfl (fun h=>Zcj rfl rfl (V1 h U0) U6)<|Gt [30,0] rfl (fun h=>Zx rfl rfl (V1 h U0))<|Gv [0,5] rfl (fun h=>Zq Zd8 rfl rfl U0)<|Gv [10,0] rfl (fun h=>Z2 U8 rfl rfl (V1 h U0))<|Gv [20,0] rfl (fun h=>Zcn rfl rfl (V1 h U0) U6)<|Gt [70,30,0] rfl (fun h=>Zb3 rfl rfl (V1 h U0) (fun hz=>(V1 (bA h (bNF hz)) U1)))<|U2 [80,0] (Zbs rfl rfl U0 (fun hz=>(V1 hz U1)))<|U3) fun a g s b=>?_
 refine Zs (s.bool 1 rfl) H0 (fun H0=>?_) (fun H0=>?_)
 refine U4 [0] (L:=[]) (s.pi [] rfl) b Za
  (U2 [] (Zc rfl rfl U6)<|U3) fun a g s b=>?_
 refine wp_ret<|Zp ?_
 obtain rfl:=Oi H0
 exact Zba rfl s b (Zf (s:=2)) (s.at 0 rfl)
 refine wp_skip<|Zl ?_
 refine wp_seq ?_
 obtain⟨r21,h22,H0⟩:=Zd H0
 refine U4 [5,30] (L:=[(1,_)]) (s.pi [0] rfl) b Za
  (Af Zit 5 rfl<|Al Zdk 0 rfl<|U2 [0] (Zt Zbe1 (Zns _ h22) rfl rfl (.cons U0 .nil))<|U2 [0] (Zct rfl rfl U0)<|U3) fun a g s b=>?_
 refine Zs (s.bool 1 rfl) H0 (fun H0=>?_) (fun H0=>?_)
 refine U4 [0] (L:=[]) (s.pi [] rfl) b Za
  (U2 [] (Zc rfl rfl U6)<|U3) fun a g s b=>?_
 refine wp_ret<|Zp ?_
 obtain rfl:=Oi H0
 exact Zba rfl s b (Zf (s:=2)) (s.at 0 rfl)
 refine wp_skip<|Zl ?_
 refine wp_seq<|U4 [5,20] (L:=[(1,_)]) (s.pi [0] rfl) b Za
  (Af Zdh 5 rfl<|Al U9 0 rfl<|U2 [0] (Zb0 rfl rfl U0 U6)<|U3) fun a g s b=>?_
 refine Zs (s.bool 1 rfl) H0 (fun H0=>?_) (fun H0=>?_)
 obtain⟨r25,h26,H0⟩:=Zd H0
 refine U4 [30] (L:=[(1,_)]) (s.pi [0] rfl) b Za
  (Af Zob 5 rfl<|Al Zbd 0 rfl<|U2 [0] (Zt Zbgf (Zoo _ h26) rfl rfl (.cons U0 .nil))<|Aa 0 rfl<|U3) fun a g s b=>?_
 refine wp_ret<|Zp ?_
 obtain rfl:=Oi H0
 exact Zba rfl s b (Zf (s:=2)) (s.at 0 rfl)
 refine wp_skip<|Zl ?_
 refine U4 [0] (L:=[]) (s.pi [] rfl) b Za
  (U2 [] (Zc rfl rfl U6)<|U3) fun a g s b=>?_
 refine wp_ret ?_
 obtain rfl:=Oi H0
 exact Zba rfl s b (Zf (s:=2)) (s.at 0 rfl)
theorem Zw7 (a0:Zbj) {r:Int×Int} (H0:Zkz a0=some r):FnOk Zb0k 47 [(Zb1.pd a0)] (pTup [(pInt .i64 r.1),(pInt .i64 r.2)]):=by
 unfold Zkz at H0
 refine Zb9 (N:=34) Tryz.func47 rfl rfl (Qe rfl) rfl rfl (fun a g0 s b=>?_)
 refine U4 [0] s b Za
  (U2 [5] (Zbt rfl rfl U0)<|U2 [] (Zc rfl rfl U6)<|U2 [] (Zc rfl rfl U6)<|U3) fun a g s b=>?_
 refine wp_seq<|U4 [5,90] s b Za
  (Af Zjh 5 rfl<|Al Zod 0 rfl<|U2 [0] (Zbv Zb0u rfl rfl U0)<|U2 [0] (Zcj rfl rfl U0 U6)<|Am 0 rfl<|Gf [0,5] rfl (fun h=>Zq Zjh rfl rfl U0)<|Gf [10,0] rfl (fun h=>Z2 Zod rfl rfl (V1 h U0))<|Gf [20,0] rfl (fun h=>Zbv Zb0u rfl rfl (V1 h U0))<|Gf [30,0] rfl (fun h=>Zcn rfl rfl (V1 h U0) U6)<|U2 [40,0] (Zb3 rfl rfl U0 (fun hz=>(V1 (bNF hz) U1)))<|U3) fun a g s b=>?_
 refine Zs (s.bool 1 rfl) H0 (fun H0=>?_) (fun H0=>?_)
 ·refine U4 [0,10] (L:=[]) (s.pi [] rfl) b Za
   (U2 [] (Zc rfl rfl U6)<|U2 [] (Zc rfl rfl U6)<|U3) fun a g s b=>?_
  refine wp_ret<|Zp ?_
  obtain rfl:=Oi H0
  exact Zdq rfl s b (Zf (s:=2)) (Zf (s:=3)) (Zcr (s.at 0 rfl) (s.at 1 rfl))
 ·refine wp_skip<|Zl ?_
  refine wp_seq<|U4 [5,0] (L:=[(1,_)]) (s.pi [0] rfl) b Za
   (U2 [] (Zc rfl rfl U6)<|U3) fun a g s b=>?_
  obtain⟨z9,hz1,H0⟩:=Zd H0
  refine Zbq (fun a w=>∃(g:G),Jn 34 [] a w g0 g ((.inr ())=z9)) ?_ ?_
  ·rintro a w ⟨g,rfl,s,b,rfl⟩
   refine Zl<|U4 [0,10] s b Za
    (U2 [] (Zc rfl rfl U6)<|U2 [] (Zc rfl rfl U6)<|U3) fun a g s b=>?_
   refine wp_ret ?_
   obtain rfl:=Oi H0
   exact Zdq rfl s b (Zf (s:=2)) (Zf (s:=3)) (Zcr (s.at 0 rfl) (s.at 1 rfl))
  ·refine wp_block<|wp_loop_ghost (fun n a w=>∃(x2:Int) (g:G),Jn 34 [(1,(Zb1.ptr a0)),(4,(pInt .i64 x2))] a w g0 g (Zfo a0 n x2=some z9)) (Zb0q ((a0.Acts.length:Int)-(0:Int))+1) ⟨(0:Int),g,rfl,(s.pi [0,1] rfl),b,hz1⟩ (fun n a w hI=>?_)
   obtain⟨x2,g,rfl,s,b,H1⟩:=hI
   cases n with
   | zero=>exact absurd H1 (by simp[Zfo])
   | succ n =>
    rw[Zfo]at H1
    refine wp_seq<|U4 [5,15,40] s b Za
     (Am 15 rfl<|Af Zjh 5 rfl<|Al Zod 0 rfl<|U2 [0] (Zbv Zb0u rfl rfl U0)<|U2 [30,0] (Zcj rfl rfl U0 U1)<|U3) fun a g s b=>?_
    refine Zs (s.bool 2 rfl) H1 (fun H1=>?_) (fun H1=>?_)
    ·refine wp_skip<|Zl ?_
     refine wp_seq<|wp_block ?_
     obtain⟨e4,h5,H1⟩:=Zd H1;obtain⟨r6,h7,H1⟩:=Zd H1
     refine U4 [5,15,60] (L:=[(1,_),(4,_)]) (s.pi [0,1] rfl) b Za
      (Af Zjh 5 rfl<|Al Zod 0 rfl<|Am 15 rfl<|U2 [10,0] (Zbn Zb0u Zub rfl rfl U0 U1 h5)<|Al Zgb 0 rfl<|U2 [0] (Zt Zbl9 (Zrv _ h7) rfl rfl (.cons U0 .nil))<|Aa 0 rfl<|U3) fun a g s b=>?_
     refine U4 [5,15,25,10] s b Za
      (Am 25 rfl<|U2 [0] (Zcv rfl rfl U0 U6)<|U3) fun a g s b=>?_
     refine Zs (s.bool 3 rfl) H1 (fun H1=>?_) (fun H1=>?_)
     ·refine U4 [30,40] (L:=[(4,_),(5,_)]) (s.pi [1,2] rfl) b Za
       (Am 15 rfl<|Am 5 rfl<|U2 [0] (Zbw rfl rfl U0 U6 rfl)<|Aa 20 rfl<|Aa 10 rfl<|U3) fun a g s b=>?_
      refine wp_ret<|Z5 ?_
      refine Zp<|Zp ?_
      refine Z5<|Zp ?_
      refine Zp ?_
      obtain rfl:=Oi H1
      obtain rfl:=Oi H0
      exact Zdq rfl s b (Zf (s:=2)) (Zf (s:=3)) (Zcr (s.at 0 rfl) (s.at 1 rfl))
     ·refine wp_skip<|Zbb ?_
      refine Zl<|U5 [5,20] (L:=[(1,_),(4,_)]) (s.pi [0,1] rfl) b Za
       (Am 15 rfl<|U2 [0] (Zbw rfl rfl U0 U6 rfl)<|Aa 0 rfl<|U3) fun a g s b=>?_
      exact⟨n,Zb0o _,(Zb0n.wrap (x2+(1:Int))),g,rfl,(s.pi [0,1] rfl),b,H1⟩
    ·refine wp_exit<|Zbx ?_
     refine Zbx<|Zcg ?_
     exact⟨g,rfl,(s.pi [] rfl),b,Oi H1⟩
theorem Zk8 (a0:Zk) (a1:ByteArray) {r:Int} (H0:Zfw a0 a1=some r):FnOk Zb0k 100 [(Zbe.pd a0),(pStr a1)] (pInt .i64 r):=by
 unfold Zfw at H0
 refine Zb9 (N:=24) Tryz.func100 rfl rfl (Qe rfl) rfl rfl (fun a g0 s b=>?_)
 refine U4 [15,0] s b Za
  (U2 [5] (Zbt rfl rfl U0)<|U2 [] (Zc rfl rfl U6)<|U3) fun a g s b=>?_
 refine U4 [5,15,0] s b Za
  (U2 [] (Zc rfl rfl U6)<|U3) fun a g s b=>?_
 obtain⟨z6,hz1,H0⟩:=Zd H0
 refine wp_seq<|Zbq (fun a w=>∃(y5:Int) (g:G),Jn 24 [(5,(pInt .i64 y5))] a w g0 g (y5=z6)) ?_ ?_
 ·rintro a w ⟨y5,g,rfl,s,b,rfl⟩
  refine Zl<|U4 [10] s b Za
   (Am 5 rfl<|Aa 0 rfl<|U3) fun a g s b=>?_
  refine wp_ret ?_
  obtain rfl:=Oi H0
  exact Zba rfl s b (Zf (s:=4)) (s.at 0 rfl)
 ·refine wp_block<|wp_loop_ghost (fun n a w=>∃(x1:Int) (g:G),Jn 24 [(1,(pStr a1)),(2,(Zbe.ptr a0)),(5,(pInt .i64 x1))] a w g0 g (Zd6 a0 a1 n x1=some z6)) (Zb0q ((a0.L.length:Int)-(0:Int))+1) ⟨(0:Int),g,rfl,(s.pi [0,1,2] rfl),b,hz1⟩ (fun n a w hI=>?_)
  obtain⟨x1,g,rfl,s,b,H1⟩:=hI
  cases n with
  | zero=>exact absurd H1 (by simp[Zd6])
  | succ n =>
   rw[Zd6]at H1
   refine wp_seq ?_
   obtain⟨e2,h3,H1⟩:=Zd H1
   refine U4 [5,15,25,140] s b Za
    (Am 25 rfl<|Af Zin 15 rfl<|Al Zmp 0 rfl<|U2 [0] (Zbv Zb0r rfl rfl U0)<|U2 [30,0] (Zcj rfl rfl U0 U1)<|Am 0 rfl<|Gt [0,15] rfl (fun h=>Zq Zin rfl rfl U0)<|Gt [10,0] rfl (fun h=>Z2 Zmp rfl rfl (V1 h U0))<|Gt [20,25] rfl (fun h=>Zx rfl rfl U0)<|Gt [30,10,0] rfl (fun h=>Zbn Zb0r Zqu rfl rfl (V1 h U0) (V1 h U1) (Zcb h3 h))<|Gt [40,0] rfl (fun h=>Zq Zug rfl rfl (V1 h U0))<|Gt [50,0] rfl (fun h=>Z2 V0 rfl rfl (V1 h U0))<|Gt [60,5] rfl (fun h=>Zx rfl rfl U0)<|Gt [70,10,0] rfl (fun h=>Zro rfl rfl (V1 h U0) (V1 h U1))<|U2 [80,0] (Zbs rfl rfl U0 (fun hz=>(V1 hz U1)))<|U3) fun a g s b=>?_
   refine Zs (s.bool 3 rfl) H1 (fun H1=>?_) (fun H1=>?_)
   ·refine wp_skip<|Zl ?_
    refine wp_block<|U5 [5,15,20] (L:=[(1,_),(2,_),(5,_)]) (s.pi [0,1,2] rfl) b Za
     (Am 25 rfl<|U2 [0] (Zbw rfl rfl U0 U6 rfl)<|Aa 0 rfl<|U3) fun a g s b=>?_
    exact Zbb<|⟨n,Zb0o _,(Zb0n.wrap (x1+(1:Int))),g,rfl,(s.pi [0,1,2] rfl),b,H1⟩
   ·refine wp_exit<|Zbx ?_
    refine Zbx<|Zcg ?_
    exact⟨x1,g,rfl,(s.pi [2] rfl),b,Oi H1⟩
theorem Zul (a0:Zk) (a1:ByteArray) {r:Zb×Bool} (H0:Zil a0 a1=some r):FnOk Zb0k 70 [(Zbe.pd a0),(pStr a1)] (pTup [(Zg.pd r.1),(Zbo r.2)]):=by
 unfold Zil at H0
 refine Zb9 (N:=32) Tryz.func70 rfl rfl (Qe rfl) rfl rfl (fun a g0 s b=>?_)
 refine U4 [15,0,10] s b Za
  (U2 [5] (Zbt rfl rfl U0)<|U2 [] (Ziv 4 rfl rfl)<|U2 [] (Zc rfl rfl c_b)<|U3) fun a g s b=>?_
 obtain⟨r1,h2,H0⟩:=Zd H0
 refine U4 [5,15,25,30] s b Za
  (Al Zdd 15 rfl<|Am 5 rfl<|U2 [10,0] (Zt Zbbg (Zk8 _ _ h2) rfl rfl (.cons U0 (.cons U1 .nil)))<|Aa 0 rfl<|U3) fun a g s b=>?_
 refine wp_seq ?_
 obtain⟨e3,h4,H0⟩:=Zd H0
 refine U4 [15,25,35,140] s b Za
  (Am 35 rfl<|Af Zin 15 rfl<|Al Zmp 0 rfl<|U2 [0] (Zbv Zb0r rfl rfl U0)<|U2 [30,0] (Zcj rfl rfl U0 U1)<|Am 0 rfl<|Gt [0,15] rfl (fun h=>Zq Zin rfl rfl U0)<|Gt [10,0] rfl (fun h=>Z2 Zmp rfl rfl (V1 h U0))<|Gt [20,35] rfl (fun h=>Zx rfl rfl U0)<|Gt [30,10,0] rfl (fun h=>Zbn Zb0r Zqu rfl rfl (V1 h U0) (V1 h U1) (Zcb h4 h))<|Gt [40,0] rfl (fun h=>Zq Zug rfl rfl (V1 h U0))<|Gt [50,0] rfl (fun h=>Z2 V0 rfl rfl (V1 h U0))<|Gt [60,5] rfl (fun h=>Zx rfl rfl U0)<|Gt [70,10,0] rfl (fun h=>Zpk rfl rfl (V1 h U0) (V1 h U1))<|U2 [80,0] (Zbs rfl rfl U0 (fun hz=>(V1 hz U1)))<|U3) fun a g s b=>?_
 refine Zs (s.bool 3 rfl) H0 (fun H0=>?_) (fun H0=>?_)
 obtain⟨e6,h7,H0⟩:=Zd H0
 refine U4 [60,70] (L:=[(2,_),(4,_),(6,_)]) (s.pi [0,1,2] rfl) b Za
  (Af Zin 5 rfl<|Al Zmp 0 rfl<|Am 25 rfl<|U2 [10,0] (Zbn Zb0r Zqu rfl rfl U0 U1 h7)<|Af Z9p 0 rfl<|Al Zbd 0 rfl<|U2 [0,15] (Z9 Zbd rfl rfl U1 U0)<|U2 [] (Zc rfl rfl c_b)<|U3) fun a g s b=>?_
 refine wp_ret<|Zp ?_
 obtain rfl:=Oi H0
 obtain⟨u0,hu0,hq0⟩:=Zbi (P:=Zb0k) Zbd (s.at 0 rfl)
 exact Zdq rfl s b hu0 (Zf (s:=5)) (Zcr hq0 (s.at 1 rfl))
 refine wp_skip<|Zl ?_
 refine U4 [10,20] (L:=[(4,_)]) (s.pi [1] rfl) b Za
  (U2 [] (Zqf rfl rfl )<|U2 [0,5] (Z9 Zbd rfl rfl U1 U0)<|U2 [] (Zc rfl rfl c_b)<|U3) fun a g s b=>?_
 refine wp_ret ?_
 obtain rfl:=Oi H0
 obtain⟨u0,hu0,hq0⟩:=Zbi (P:=Zb0k) Zbd (s.at 0 rfl)
 exact Zdq rfl s b hu0 (Zf (s:=5)) (Zcr hq0 (s.at 1 rfl))
theorem Zkn (a0:Zb) {r:Zb} (H0:Zgn a0=some r):FnOk Zb0k 101 [(Zg.pd a0)] (Zg.pd r):=by
 unfold Zgn at H0
 refine Zb9 (N:=9) Tryz.func101 rfl rfl (Qe rfl) rfl rfl (fun a g0 s b=>?_)
 refine U4 [0,10] s b Za
  (U2 (outs:=[(1,(pBox Zg 1 a0))]) (S:=[2]) [5] (Zln rfl rfl U0)<|U2 [] (Ziv 2 rfl rfl)<|U3) fun a g s b=>?_
 obtain⟨h1,H0⟩:=Zdr H0
 refine U4 [50,15] s b Za
  (U2 [] (Zka 3 Zd4 (xs:=[]) .nil (by decide) rfl rfl)<|U2 [5] (Zv Zcm (off:=7) (by kernel_rfl) rfl rfl U0)<|AP Zdx 0 rfl<|U2 [20,0] (Zdg Zd4 rfl rfl U0 U1 h1)<|U2 [5] (Zv Zcm (off:=7) (by kernel_rfl) rfl rfl U0)<|U2 [10,0,5] (Zpp Zdx rfl rfl U7 U1 (Opd.imp U0 (fun _ _ h=>Zdt h)))<|U3) fun a g s b=>?_
 refine U4 [10] s b Za
  (AM Zbd 5 rfl<|U2 [0,15] (Z9 Zbd rfl rfl U1 U0)<|U3) fun a g s b=>?_
 refine wp_ret ?_
 obtain rfl:=Oi H0
 obtain⟨u0,hu0,hq0⟩:=Zbi (P:=Zb0k) Zbd (s.at 0 rfl)
 exact Zba rfl s b hu0 hq0
theorem Zya (a0:Int) (a1:Int) {r:Bool} (H0:Zlp a0 a1=some r):FnOk Zb0k 127 [(pInt .i64 a0),(pInt .i64 a1)] (Zbo r):=by
 unfold Zlp at H0
 refine Zb9 (N:=31) Tryz.func127 rfl rfl (Qe rfl) rfl rfl (fun a g0 s b=>?_)
 refine U4 [5,15] s b Za
  (U2 [] (Zc rfl rfl c_b)<|U3) fun a g s b=>?_
 refine U4 [5,15,30] s b Za
  (Am 5 rfl<|Am 15 rfl<|U2 [10,0] (Zbw rfl rfl U0 U1 rfl)<|Aa 0 rfl<|U3) fun a g s b=>?_
 refine U4 [220] s b Za
  (Am 5 rfl<|U2 [0] (Zcn rfl rfl U0 U6)<|Am 0 rfl<|Gt [0,15] rfl (fun h=>Zx rfl rfl U0)<|Gt [10,0] rfl (fun h=>Zcn rfl rfl (V1 h U0) U6)<|U2 [20,0] (Zbs rfl rfl U0 (fun hz=>(V1 hz U1)))<|Am 0 rfl<|Gt [0,25] rfl (fun h=>Zx rfl rfl U0)<|Gt [10,0] rfl (fun h=>Zcj rfl rfl (V1 h U0) U6)<|U2 [20,0] (Zbs rfl rfl U0 (fun hz=>(V1 hz U1)))<|Am 0 rfl<|Gf [0,5] rfl (fun h=>Zx rfl rfl U0)<|Gf [10,0] rfl (fun h=>Zcj rfl rfl (V1 h U0) U6)<|Gf [20,0] rfl (fun h=>Zx rfl rfl (V1 h U0))<|Gu [0,15] rfl (fun h=>Zx rfl rfl U0)<|Gu [10,0] rfl (fun h=>Zcj rfl rfl (V1 h U0) U6)<|Gf [50,20,0] rfl (fun h=>Zbs rfl rfl (V1 h U0) (fun hz=>(V1 (bA h hz) U1)))<|Gf [60,0] rfl (fun h=>Zx rfl rfl (V1 h U0))<|Gu [0,25] rfl (fun h=>Zx rfl rfl U0)<|Gu [10,0] rfl (fun h=>Zkp rfl rfl (V1 h U0) U6)<|Gf [90,20,0] rfl (fun h=>Zbs rfl rfl (V1 h U0) (fun hz=>(V1 (bA h hz) U1)))<|U2 [100,0] (Zb3 rfl rfl U0 (fun hz=>(V1 (bNF hz) U1)))<|Aa 0 rfl<|U3) fun a g s b=>?_
 refine wp_ret ?_
 obtain rfl:=Oi H0
 exact Zba rfl s b (Zf (s:=4)) (s.at 0 rfl)
theorem Zzp (a0:Nat) (a1:Nat) {r:Nat} (H0:Zmg a0 a1=some r):FnOk Zb0k 128 [(pFlt a0),(pFlt a1)] (pFlt r):=by
 unfold Zmg at H0
 refine Zb9 (N:=10) Tryz.func128 rfl rfl (Qe rfl) rfl rfl (fun a g0 s b=>?_)
 refine U4 [5,15] s b Za
  (U2 [] (Zc rfl rfl c_f)<|U3) fun a g s b=>?_
 refine wp_seq ?_
 obtain⟨r1,h2,H0⟩:=Zd H0
 refine U4 [5,15,20] s b Za
  (Am 5 rfl<|Am 15 rfl<|U2 [10,0] (Zt Z3s (Zje _ _ h2) rfl rfl (.cons U0 (.cons U1 .nil)))<|U3) fun a g s b=>?_
 refine Zs (s.bool 2 rfl) H0 (fun H0=>?_) (fun H0=>?_)
 refine U4 [10] (L:=[(1,_)]) (s.pi [1] rfl) b Za
  (Am 5 rfl<|Aa 0 rfl<|U3) fun a g s b=>?_
 refine wp_ret<|Zp ?_
 obtain rfl:=Oi H0
 exact Zba rfl s b (Zf (s:=4)) (s.at 0 rfl)
 refine wp_skip<|Zl ?_
 refine U4 [10] (L:=[(0,_)]) (s.pi [0] rfl) b Za
  (Am 5 rfl<|Aa 0 rfl<|U3) fun a g s b=>?_
 refine wp_ret ?_
 obtain rfl:=Oi H0
 exact Zba rfl s b (Zf (s:=4)) (s.at 0 rfl)
theorem Zyk (a0:Nat) (a1:Nat) {r:Nat} (H0:Zmw a0 a1=some r):FnOk Zb0k 129 [(pFlt a0),(pFlt a1)] (pFlt r):=by
 unfold Zmw at H0
 refine Zb9 (N:=10) Tryz.func129 rfl rfl (Qe rfl) rfl rfl (fun a g0 s b=>?_)
 refine U4 [5,15] s b Za
  (U2 [] (Zc rfl rfl c_f)<|U3) fun a g s b=>?_
 refine wp_seq ?_
 obtain⟨r1,h2,H0⟩:=Zd H0
 refine U4 [5,15,20] s b Za
  (Am 15 rfl<|Am 5 rfl<|U2 [10,0] (Zt Z3s (Zje _ _ h2) rfl rfl (.cons U0 (.cons U1 .nil)))<|U3) fun a g s b=>?_
 refine Zs (s.bool 2 rfl) H0 (fun H0=>?_) (fun H0=>?_)
 refine U4 [10] (L:=[(1,_)]) (s.pi [1] rfl) b Za
  (Am 5 rfl<|Aa 0 rfl<|U3) fun a g s b=>?_
 refine wp_ret<|Zp ?_
 obtain rfl:=Oi H0
 exact Zba rfl s b (Zf (s:=4)) (s.at 0 rfl)
 refine wp_skip<|Zl ?_
 refine U4 [10] (L:=[(0,_)]) (s.pi [0] rfl) b Za
  (Am 5 rfl<|Aa 0 rfl<|U3) fun a g s b=>?_
 refine wp_ret ?_
 obtain rfl:=Oi H0
 exact Zba rfl s b (Zf (s:=4)) (s.at 0 rfl)
set_option maxHeartbeats 1000000 in
theorem Zre (a0:Int) {r:Nat} (H0:Zgr a0=some r):FnOk Zb0k 130 [(pInt .u64 a0)] (pFlt r):=by
 unfold Zgr at H0
 refine Zb9 (N:=18) Tryz.func130 rfl rfl (Qe rfl) rfl rfl (fun a g0 s b=>?_)
 refine U4 [5] s b Za
  (U2 [] (Zc rfl rfl c_f)<|U3) fun a g s b=>?_
 refine U4 [5,0] s b Za
  (U2 [] (Zc rfl rfl U6)<|U3) fun a g s b=>?_
 refine wp_seq<|U4 [5,15,20] s b Za
  (Am 5 rfl<|Am 15 rfl<|U2 [10,0] (Zkp rfl rfl U0 U1)<|U3) fun a g s b=>?_
 refine Zs (s.bool 2 rfl) H0 (fun H0=>?_) (fun H0=>?_)
 refine U4 [40] (L:=[(0,_),(3,_)]) (s.pi [0,1] rfl) b Za
  (Am 5 rfl<|Am 15 rfl<|U2 [10,0] (Zei rfl rfl U0 U1 rfl)<|U2 [0] (Zss Z4i rfl rfl U0)<|Aa 0 rfl<|U3) fun a g s b=>?_
 refine wp_ret<|Zp ?_
 obtain rfl:=Oi H0
 exact Zba rfl s b (Zf (s:=2)) (s.at 0 rfl)
 refine wp_skip<|Zl ?_
 refine U4 [70] (L:=[(0,_),(3,_)]) (s.pi [0,1] rfl) b Za
  (Am 15 rfl<|Am 15 rfl<|U2 [0] (Zei rfl rfl U0 U6 rfl)<|Am 5 rfl<|U2 [10,0] (Zei rfl rfl U0 U1 rfl)<|U2 [40,0] (Zbw rfl rfl U0 U1 rfl)<|U2 [0] (Zss Z4i rfl rfl U0)<|Aa 0 rfl<|U3) fun a g s b=>?_
 refine wp_ret ?_
 obtain rfl:=Oi H0
 exact Zba rfl s b (Zf (s:=2)) (s.at 0 rfl)
theorem Zrs (a0:Nat) {r:Int} (H0:Zha a0=some r):FnOk Zb0k 131 [(pFlt a0)] (pInt .u64 r):=by
 unfold Zha at H0
 refine Zb9 (N:=23) Tryz.func131 rfl rfl (Qe rfl) rfl rfl (fun a g0 s b=>?_)
 refine U4 [5] s b Za
  (U2 [] (Zc rfl rfl U6)<|U3) fun a g s b=>?_
 refine U4 [5,0] s b Za
  (U2 [] (Zc rfl rfl U6)<|U3) fun a g s b=>?_
 refine wp_seq ?_
 obtain⟨r1,h2,H0⟩:=Zd H0
 refine U4 [5,15,10] s b Za
  (Am 5 rfl<|U2 [0] (Zt Z4a (Zl7 _ h2) rfl rfl (.cons U0 .nil))<|U3) fun a g s b=>?_
 refine Zs (s.bool 2 rfl) H0 (fun H0=>?_) (fun H0=>?_)
 refine U4 [20] (L:=[(3,_)]) (s.pi [1] rfl) b Za
  (Am 5 rfl<|U2 [0] (Zbw rfl rfl U0 U6 rfl)<|Aa 0 rfl<|U3) fun a g s b=>?_
 refine wp_ret<|Zp ?_
 obtain rfl:=Oi H0
 exact Zba rfl s b (Zf (s:=2)) (s.at 0 rfl)
 refine wp_skip<|Zl ?_
 refine U4 [15,20] (L:=[(0,_),(3,_)]) (s.pi [0,1] rfl) b Za
  (Am 5 rfl<|U2 [0] (Zwx Zy0 rfl rfl U0)<|Aa 0 rfl<|U3) fun a g s b=>?_
 refine wp_seq<|U4 [5,15,20] s b Za
  (Am 15 rfl<|Am 5 rfl<|U2 [10,0] (Zkp rfl rfl U0 U1)<|U3) fun a g s b=>?_
 refine Zs (s.bool 2 rfl) H0 (fun H0=>?_) (fun H0=>?_)
 refine U4 [60] (L:=[(3,_),(4,_)]) (s.pi [0,1] rfl) b Za
  (Am 5 rfl<|U2 [0] (Zei rfl rfl U0 U6 rfl)<|Am 15 rfl<|Am 5 rfl<|U2 [10,0] (Zei rfl rfl U0 U1 rfl)<|U2 [30,0] (Zei rfl rfl U0 U1 rfl)<|Aa 0 rfl<|U3) fun a g s b=>?_
 refine wp_ret<|Zp ?_
 obtain rfl:=Oi H0
 exact Zba rfl s b (Zf (s:=2)) (s.at 0 rfl)
 refine wp_skip<|Zl ?_
 refine U4 [30] (L:=[(3,_),(4,_)]) (s.pi [0,1] rfl) b Za
  (Am 5 rfl<|Am 15 rfl<|U2 [10,0] (Zbw rfl rfl U0 U1 rfl)<|Aa 0 rfl<|U3) fun a g s b=>?_
 refine wp_ret ?_
 obtain rfl:=Oi H0
 exact Zba rfl s b (Zf (s:=2)) (s.at 0 rfl)
theorem Zsz (a0:List Zn) (a1:ByteArray) {r:Bool} (H0:Zh7 a0 a1=some r):FnOk Zb0k 132 [(Zy.sl.pd a0),(pStr a1)] (Zbo r):=by
 unfold Zh7 at H0
 refine Zb9 (N:=19) Tryz.func132 rfl rfl (Qe rfl) rfl rfl (fun a g0 s b=>?_)
 refine U4 [5,15] s b Za
  (U2 [] (Zc rfl rfl c_b)<|U3) fun a g s b=>?_
 refine wp_seq<|U4 [5,15,0] s b Za
  (U2 [] (Zc rfl rfl U6)<|U3) fun a g s b=>?_
 obtain⟨z6,hz1,H0⟩:=Zd H0
 refine Zbq (fun a w=>∃(g:G),Jn 19 [] a w g0 g ((.inr ())=z6)) ?_ ?_
 ·rintro a w ⟨g,rfl,s,b,rfl⟩
  refine Zl<|U4 [0] s b Za
   (U2 [] (Zc rfl rfl c_b)<|U3) fun a g s b=>?_
  refine wp_ret ?_
  obtain rfl:=Oi H0
  exact Zba rfl s b (Zf (s:=4)) (s.at 0 rfl)
 ·refine wp_block<|wp_loop_ghost (fun n a w=>∃(x1:Int) (g:G),Jn 19 [(0,(Zy.sl.pd a0)),(1,(pStr a1)),(5,(pInt .i64 x1))] a w g0 g (Zgp a0 a1 n x1=some z6)) (Zb0q ((a0.length:Int)-(0:Int))+1) ⟨(0:Int),g,rfl,(s.pi [0,1,2] rfl),b,hz1⟩ (fun n a w hI=>?_)
  obtain⟨x1,g,rfl,s,b,H1⟩:=hI
  cases n with
  | zero=>exact absurd H1 (by simp[Zgp])
  | succ n =>
   rw[Zgp]at H1
   refine wp_seq<|U4 [5,15,25,30] s b Za
    (Am 25 rfl<|Am 5 rfl<|U2 [0] (Zbv Zb0l rfl rfl U0)<|U2 [20,0] (Zcj rfl rfl U0 U1)<|U3) fun a g s b=>?_
   refine Zs (s.bool 3 rfl) H1 (fun H1=>?_) (fun H1=>?_)
   ·refine wp_skip<|Zl ?_
    refine wp_seq<|wp_block ?_
    obtain⟨e3,h4,H1⟩:=Zd H1
    refine U4 [5,15,25,60] (L:=[(0,_),(1,_),(5,_)]) (s.pi [0,1,2] rfl) b Za
     (Am 5 rfl<|Am 25 rfl<|U2 [10,0] (Zbn Zb0l Zf1 rfl rfl U0 U1 h4)<|Af Zeq 0 rfl<|Al V0 0 rfl<|Am 15 rfl<|U2 [10,0] (Zpk rfl rfl U0 U1)<|U3) fun a g s b=>?_
    refine Zs (s.bool 3 rfl) H1 (fun H1=>?_) (fun H1=>?_)
    ·refine U4 [0] (L:=[]) (s.pi [] rfl) b Za
      (U2 [] (Zc rfl rfl c_b)<|U3) fun a g s b=>?_
     refine wp_ret<|Z5 ?_
     refine Zp<|Zp ?_
     refine Z5<|Zp ?_
     refine Zp ?_
     obtain rfl:=Oi H1
     obtain rfl:=Oi H0
     exact Zba rfl s b (Zf (s:=4)) (s.at 0 rfl)
    ·refine wp_skip<|Zbb ?_
     refine Zl<|U5 [5,15,20] (L:=[(0,_),(1,_),(5,_)]) (s.pi [0,1,2] rfl) b Za
      (Am 25 rfl<|U2 [0] (Zbw rfl rfl U0 U6 rfl)<|Aa 0 rfl<|U3) fun a g s b=>?_
     exact⟨n,Zb0o _,(Zb0n.wrap (x1+(1:Int))),g,rfl,(s.pi [0,1,2] rfl),b,H1⟩
   ·refine wp_exit<|Zbx ?_
    refine Zbx<|Zcg ?_
    exact⟨g,rfl,(s.pi [] rfl),b,Oi H1⟩
theorem Zr2 (a0:List Zn) (a1:Zn) (a2:Bool) {r:List Zn} (H0:Zho a0 a1 a2=some r):FnOk Zb0k 133 [(Zy.sl.pd a0),(Zy.pd a1),(Zbo a2)] (Zy.sl.pd r):=by
 unfold Zho at H0
 refine Zb9 (N:=89) Tryz.func133 rfl rfl (Qe rfl) rfl rfl (fun a g0 s b=>?_)
 refine U4 [5,25,0] s b Za
  (U2 [15] (Zbt rfl rfl U0)<|U2 (outs:=[(6,(Zy.sl.pd ([]:List Zn)))]) (S:=[]) [] (Zc rfl rfl (Opd.c (fun g=>Zdv g)))<|U3) fun a g s b=>?_
 refine U4 [5,15,25,10,20] s b Za
  (U2 [] (Zka 12 Zd4 (xs:=[]) .nil (by decide) rfl rfl)<|Aa 0 rfl<|U2 [] (Zc rfl rfl c_b)<|U3) fun a g s b=>?_
 refine wp_seq<|U4 [5,15,25,35,45,0] s b Za
  (U2 [] (Zc rfl rfl U6)<|U3) fun a g s b=>?_
 obtain⟨z27,hz1,H0⟩:=Zd H0
 refine Zbq (fun a w=>∃(y25:List Zn) (y26:Bool) (g:G),Jn 89 [(4,(Zy.ptr a1)),(7,(pRow Zy 139 12 y25)),(8,(Zbo y26))] a w g0 g ((y25,y26)=z27)) ?_ ?_
 ·rintro a w ⟨y25,y26,g,rfl,s,b,rfl⟩
  refine Zl<|wp_seq ?_
  refine U4 [5,15,10] s b Za
   (Am 25 rfl<|U2 [0] (Zct rfl rfl U0)<|U3) fun a g s b=>?_
  refine Zbq (fun a w=>∃(j30:List Zn) (g:G),Jn 89 [(7,(pRow Zy 139 12 j30))] a w g0 g (Zh8 j30=some r)) ?_ ?_
  ·rintro a w ⟨j30,g,rfl,s,b,H0⟩
   unfold Zh8 at H0
   refine Zl<|U4 [10] s b Za
    (Am 5 rfl<|Aa 0 rfl<|U3) fun a g s b=>?_
   refine wp_ret ?_
   obtain rfl:=Oi H0
   exact Zba rfl s b (Zf (s:=6)) (Zdt (s.at 0 rfl))
  ·refine Zs (s.bool 2 rfl) H0 (fun H0=>?_) (fun H0=>?_)
   ·obtain⟨h29,H0⟩:=Zdr H0
    refine U5 [40] (L:=[(4,_),(7,_)]) (s.pi [0,1] rfl) b Za
     (Am 15 rfl<|Al Zev 5 rfl<|U2 [0] (Zgm Zd4 (xs:=[.tmp 85]) (.cons U0 .nil) (by decide) rfl rfl)<|U2 [20,0] (Zdg Zd4 rfl rfl U0 U1 h29)<|Aa 0 rfl<|U3) fun a g s b=>?_
    exact⟨(y25++([a1]:List Zn)),g,rfl,(s.pi [0] rfl),b,H0⟩
   ·exact wp_skip<|⟨y25,g,rfl,(s.pi [1] rfl),b,H0⟩
 ·refine wp_block<|wp_loop_ghost (fun n a w=>∃(x1:List Zn) (x2:Bool) (x3:Int) (g:G),Jn 89 [(0,(Zy.sl.pd a0)),(2,(Zbo a2)),(4,(Zy.ptr a1)),(7,(pRow Zy 139 12 x1)),(8,(Zbo x2)),(9,(pInt .i64 x3))] a w g0 g (Zc9 a0 a1 a2 n x1 x2 x3=some z27)) (Zb0q ((a0.length:Int)-(0:Int))+1) ⟨([]:List Zn),false,(0:Int),g,rfl,(s.pi [0,1,2,3,4,5] rfl),b,hz1⟩ (fun n a w hI=>?_)
  obtain⟨x1,x2,x3,g,rfl,s,b,H1⟩:=hI
  cases n with
  | zero=>exact absurd H1 (by simp[Zc9])
  | succ n =>
   rw[Zc9]at H1
   refine wp_seq<|U4 [5,15,25,35,45,55,30] s b Za
    (Am 55 rfl<|Am 5 rfl<|U2 [0] (Zbv Zb0l rfl rfl U0)<|U2 [20,0] (Zcj rfl rfl U0 U1)<|U3) fun a g s b=>?_
   refine Zs (s.bool 6 rfl) H1 (fun H1=>?_) (fun H1=>?_)
   ·refine wp_skip<|Zl ?_
    refine wp_seq<|wp_block ?_
    obtain⟨e5,h6,H1⟩:=Zd H1;obtain⟨r7,h8,H1⟩:=Zd H1;obtain⟨e9,h10,H1⟩:=Zd H1
    refine U4 [5,15,25,35,45,55,230] (L:=[(0,_),(2,_),(4,_),(7,_),(8,_),(9,_)]) (s.pi [0,1,2,3,4,5] rfl) b Za
     (Am 15 rfl<|U2 [0] (Zct rfl rfl U0)<|Am 0 rfl<|Gt [0,5] rfl (fun h=>Zx rfl rfl U0)<|Gt [10,55] rfl (fun h=>Zx rfl rfl U0)<|Gt [20,10,0] rfl (fun h=>Zbn Zb0l Zf1 rfl rfl (V1 h U0) (V1 h U1) (Zcb h6 h))<|Gt [30,0] rfl (fun h=>Z2 Zev rfl rfl (V1 h U0))<|Gt [40,25] rfl (fun h=>Z2 Zev rfl rfl U0)<|Gt [50,10,0] rfl (fun h=>Zt Zbi9 (Zrt _ _ (Zcb h8 h)) rfl rfl (.cons (V1 h U0) (.cons (V1 h U1) .nil)))<|U2 [60,0] (Zbs rfl rfl U0 (fun hz=>(V1 hz U1)))<|Am 0 rfl<|Gf [0,15] rfl (fun h=>Zx rfl rfl U0)<|Gf [10,0] rfl (fun h=>Zx rfl rfl (V1 h U0))<|Gu [0,5] rfl (fun h=>Zx rfl rfl U0)<|Gu [10,55] rfl (fun h=>Zx rfl rfl U0)<|Gu [20,10,0] rfl (fun h=>Zbn Zb0l Zf1 rfl rfl (V1 h U0) (V1 h U1) (Zcb h10 h))<|Gu [30,0] rfl (fun h=>Zq Zeq rfl rfl (V1 h U0))<|Gu [40,0] rfl (fun h=>Z2 V0 rfl rfl (V1 h U0))<|Gu [50,25] rfl (fun h=>Zq Zeq rfl rfl U0)<|Gu [60,0] rfl (fun h=>Z2 V0 rfl rfl (V1 h U0))<|Gu [70,20,0] rfl (fun h=>Zro rfl rfl (V1 h U0) (V1 h U1))<|Gf [100,80,0] rfl (fun h=>Zbs rfl rfl (V1 h U0) (fun hz=>(V1 (bA h hz) U1)))<|U2 [110,0] (Zb3 rfl rfl U0 (fun hz=>(V1 (bNF hz) U1)))<|Aa 0 rfl<|U3) fun a g s b=>?_
    obtain⟨e11,h12,H1⟩:=Zd H1;obtain⟨e13,h14,H1⟩:=Zd H1;obtain⟨r15,h16,H1⟩:=Zd H1
    refine U4 [5,15,25,35,45,55,65,210] s b Za
     (Am 5 rfl<|Am 55 rfl<|U2 [10,0] (Zbn Zb0l Zf1 rfl rfl U0 U1 h12)<|Af Zeq 0 rfl<|Al V0 0 rfl<|Af Zeq 25 rfl<|Al V0 0 rfl<|U2 [20,0] (Zpk rfl rfl U0 U1)<|Am 0 rfl<|Gt [0,15] rfl (fun h=>Zx rfl rfl U0)<|Gt [10,0] rfl (fun h=>Zx rfl rfl (V1 h U0))<|Gv [0,5] rfl (fun h=>Zx rfl rfl U0)<|Gv [10,55] rfl (fun h=>Zx rfl rfl U0)<|Gv [20,10,0] rfl (fun h=>Zbn Zb0l Zf1 rfl rfl (V1 h U0) (V1 h U1) (Zcb h14 h))<|Gv [30,0] rfl (fun h=>Zq Zgd rfl rfl (V1 h U0))<|Gv [40,0] rfl (fun h=>Z2 Zdk rfl rfl (V1 h U0))<|Gv [50,25] rfl (fun h=>Zq Zgd rfl rfl U0)<|Gv [60,0] rfl (fun h=>Z2 Zdk rfl rfl (V1 h U0))<|Gv [70,20,0] rfl (fun h=>Zt Zz0 (Zh9 _ _ (Zcb h16 h)) rfl rfl (.cons (V1 h U0) (.cons (V1 h U1) .nil)))<|Gt [100,80,0] rfl (fun h=>Zb3 rfl rfl (V1 h U0) (fun hz=>(V1 (bA h (bNF hz)) U1)))<|U2 [110,0] (Zbs rfl rfl U0 (fun hz=>(V1 hz U1)))<|Aa 0 rfl<|U3) fun a g s b=>?_
    refine wp_seq<|U4 [5,15,25,35,45,55,75,50] s b Za
     (Am 45 rfl<|U2 [0] (Zct rfl rfl U0)<|Am 0 rfl<|Gt [0,65] rfl (fun h=>Zx rfl rfl U0)<|Gt [10,0] rfl (fun h=>Zct rfl rfl (V1 h U0))<|U2 [20,0] (Zbs rfl rfl U0 (fun hz=>(V1 hz U1)))<|U3) fun a g s b=>?_
    refine Zbq (fun a w=>∃(j20:List Zn) (j21:Bool) (g:G),Jn 89 [(0,(Zy.sl.pd a0)),(2,(Zbo a2)),(4,(Zy.ptr a1)),(7,(pRow Zy 139 12 j20)),(8,(Zbo j21)),(9,(pInt .i64 x3))] a w g0 g (Ze2 a0 x3 (Zc9 a0 a1 a2 n) j20 j21=some z27)) ?_ ?_
    ·rintro a w ⟨j20,j21,g,rfl,s,b,H1⟩
     unfold Ze2 at H1
     refine Zl ?_
     obtain⟨e22,h23,H1⟩:=Zd H1;obtain⟨h24,H1⟩:=Zdr H1
     refine U5 [5,15,25,70,45,55] s b Za
      (Am 35 rfl<|Am 5 rfl<|Am 55 rfl<|U2 [10,0] (Zbn Zb0l Zf1 rfl rfl U0 U1 h23)<|Al Zev 0 rfl<|U2 [0] (Zgm Zd4 (xs:=[.tmp 79]) (.cons U0 .nil) (by decide) rfl rfl)<|U2 [50,0] (Zdg Zd4 rfl rfl U0 U1 h24)<|Aa 0 rfl<|U3) fun a g s b=>?_
     refine Zbb<|Zl ?_
     refine U5 [5,15,25,35,45,20] s b Za
      (Am 55 rfl<|U2 [0] (Zbw rfl rfl U0 U6 rfl)<|Aa 0 rfl<|U3) fun a g s b=>?_
     exact⟨n,Zb0o _,(j20++([e22]:List Zn)),j21,(Zb0n.wrap (x3+(1:Int))),g,rfl,(s.pi [0,1,2,3,4,5] rfl),b,H1⟩
    ·refine Zs (s.bool 7 rfl) H1 (fun H1=>?_) (fun H1=>?_)
     ·refine U4 [5,15,25,35,0,45,55] (L:=[(0,_),(2,_),(4,_),(7,_),(9,_),(11,_)]) (s.pi [0,1,2,3,5,6] rfl) b Za
       (U2 [] (Zc rfl rfl c_b)<|U3) fun a g s b=>?_
      refine U4 [5,15,25,35,45,55,10] s b Za
       (Am 65 rfl<|U2 [0] (Zct rfl rfl U0)<|U3) fun a g s b=>?_
      refine Zs (s.bool 6 rfl) H1 (fun H1=>?_) (fun H1=>?_)
      ·obtain⟨h19,H1⟩:=Zdr H1
       refine U5 [5,15,25,40,45,55] (L:=[(0,_),(2,_),(4,_),(7,_),(8,_),(9,_)]) (s.pi [0,1,2,3,4,5] rfl) b Za
        (Am 35 rfl<|Al Zev 25 rfl<|U2 [0] (Zgm Zd4 (xs:=[.tmp 72]) (.cons U0 .nil) (by decide) rfl rfl)<|U2 [20,0] (Zdg Zd4 rfl rfl U0 U1 h19)<|Aa 0 rfl<|U3) fun a g s b=>?_
       exact⟨(x1++([a1]:List Zn)),true,g,rfl,(s.pi [0,1,2,3,4,5] rfl),b,H1⟩
      ·exact wp_skip<|⟨x1,true,g,rfl,(s.pi [0,1,2,3,4,5] rfl),b,H1⟩
     ·exact wp_skip<|⟨x1,x2,g,rfl,(s.pi [0,1,2,3,4,5] rfl),b,H1⟩
   ·refine wp_exit<|Zbx ?_
    refine Zbx<|Zcg ?_
    exact⟨x1,x2,g,rfl,(s.pi [2,3,4] rfl),b,Oi H1⟩
theorem Z07 (a0:Zb) (a1:Zw) {r:Zb×Zm} (H0:Zch a0 a1=some r):FnOk Zb0k 102 [(Zg.pd a0),(Z6.pd a1)] (pTup [(Zg.pd r.1),(Z3.pd r.2)]):=by
 unfold Zch at H0
 refine Zb9 (N:=217) Tryz.func102 rfl rfl (Qe rfl) rfl rfl (fun a g0 s b=>?_)
 refine U4 [0,10,20,30] s b Za
  (U2 (outs:=[(2,(pBox Zg 2 a0))]) (S:=[3]) [5] (Zln rfl rfl U0)<|U2 [15] (Zbt rfl rfl U0)<|U2 [] (Ziv 4 rfl rfl)<|U2 [] (Zlz 5 rfl rfl)<|U3) fun a g s b=>?_
 refine U4 [5,15,25,35,20] s b Za
  (U2 [] (Zt8 rfl rfl )<|U2 [] (Zlz 6 rfl rfl)<|U2 [10,0] (Z9 Zcf rfl rfl U1 U0)<|U3) fun a g s b=>?_
 refine wp_seq<|U4 [5,15,25,35,45,10] s b Za
  (Af Zdh 15 rfl<|Al U9 0 rfl<|U3) fun a g s b=>?_
 refine Zbq (fun a w=>∃(j65:Zb) (j66:Zm) (g:G),Jn 217 [(2,(pBox Zg 2 j65)),(4,(pBox Zg 4 (default:Zb))),(5,(pBox Z3 5 (default:Zm))),(6,(pBox Z3 6 j66))] a w g0 g (Zbf j65 j66=some r)) ?_ ?_
 ·rintro a w ⟨j65,j66,g,rfl,s,b,H0⟩
  unfold Zbf at H0
  refine Zl<|U4 [20,30] s b Za
   (AM Zbd 5 rfl<|AM Zcf 35 rfl<|U2 [10,15] (Z9 Zbd rfl rfl U1 U0)<|U2 [10,25] (Z9 Zcf rfl rfl U1 U0)<|U3) fun a g s b=>?_
  refine wp_ret ?_
  obtain rfl:=Oi H0
  obtain⟨u0,hu0,hq0⟩:=Zbi (P:=Zb0k) Zbd (s.at 0 rfl)
  obtain⟨u1,hu1,hq1⟩:=Zbi (P:=Zb0k) Zcf (s.at 1 rfl)
  exact Zdq rfl s b hu0 hu1 (Zcr hq0 hq1)
 ·refine wp_block<|U4 [5,15,25,35,45,55,10] s b Za
   (U2 [55] (Zb0 rfl rfl U0 U6)<|Aa 0 rfl<|U3) fun a g s b=>?_
  refine Zs (s.bool 6 rfl) H0 (fun H0=>?_) (fun H0=>?_)
  ·refine U5 [30,25,35,45] (L:=[(2,_),(3,_),(4,_),(5,_),(6,_)]) (s.pi [0,1,2,3,4] rfl) b Za
    (Af Zfe 15 rfl<|Al V0 0 rfl<|U2 [5] (Zv Zi1 (off:=6) (by kernel_rfl) rfl rfl U0)<|U2 [10,0,5] (Zxk V0 rfl rfl U7 U1 U0)<|U3) fun a g s b=>?_
   refine Zbb<|⟨_,_,g,rfl,?_,b,H0⟩
   exact (s.pi [0,1,2,3] rfl)
  ·refine U4 [5,15,25,35,45,55,10] (L:=[(2,_),(3,_),(4,_),(5,_),(6,_),(12,_)]) (s.pi [0,1,2,3,4,5] rfl) b Za
    (U2 [55] (Zb0 rfl rfl U0 U6)<|Aa 0 rfl<|U3) fun a g s b=>?_
   refine Zs (s.bool 6 rfl) H0 (fun H0=>?_) (fun H0=>?_)
   ·obtain⟨r3,h4,H0⟩:=Zd H0
    refine U4 [5,15,25,35,30] (L:=[(2,_),(3,_),(4,_),(5,_),(6,_)]) (s.pi [0,1,2,3,4] rfl) b Za
     (AM Zbd 5 rfl<|U2 [0] (Zt Z3d (Zkn _ h4) rfl rfl (.cons U0 .nil))<|U2 [45] (Zv Zbas (off:=2) (by kernel_rfl) rfl rfl U0)<|U2 [10,0,45] (Zbai Zbd rfl rfl U7 U1 U0)<|U3) fun a g s b=>?_
    refine U5 [30,25,35,45] s b Za
     (Af Zfe 15 rfl<|Al V0 0 rfl<|U2 [5] (Zv Zi1 (off:=6) (by kernel_rfl) rfl rfl U0)<|U2 [10,0,5] (Zxk V0 rfl rfl U7 U1 U0)<|U3) fun a g s b=>?_
    refine Zbb<|⟨_,_,g,rfl,?_,b,H0⟩
    exact (s.pi [0,1,2,3] rfl)
   ·refine U4 [5,15,25,35,45,55,10] (L:=[(2,_),(3,_),(4,_),(5,_),(6,_),(12,_)]) (s.pi [0,1,2,3,4,5] rfl) b Za
     (U2 [55] (Zb0 rfl rfl U0 U6)<|Aa 0 rfl<|U3) fun a g s b=>?_
    refine Zs (s.bool 6 rfl) H0 (fun H0=>?_) (fun H0=>?_)
    ·refine U5 [60,25,35,45] (L:=[(2,_),(3,_),(4,_),(5,_),(6,_)]) (s.pi [0,1,2,3,4] rfl) b Za
      (U2 [5] (Zv Zdc (off:=1) (by kernel_rfl) rfl rfl U0)<|AP U8 0 rfl<|Af Zd8 15 rfl<|Al U8 0 rfl<|U2 [20,0] (Zbw rfl rfl U0 U1 rfl)<|U2 [5] (Zv Zdc (off:=1) (by kernel_rfl) rfl rfl U0)<|U2 [10,0,5] (Zpj U8 rfl rfl U7 U1 U0)<|U3) fun a g s b=>?_
     refine Zbb<|⟨_,_,g,rfl,?_,b,H0⟩
     exact (s.pi [0,1,2,3] rfl)
    ·refine U4 [5,15,25,35,45,55,10] (L:=[(2,_),(3,_),(4,_),(5,_),(6,_),(12,_)]) (s.pi [0,1,2,3,4,5] rfl) b Za
      (U2 [55] (Zb0 rfl rfl U0 U6)<|Aa 0 rfl<|U3) fun a g s b=>?_
     refine Zs (s.bool 6 rfl) H0 (fun H0=>?_) (fun H0=>?_)
     ·obtain⟨r7,h8,H0⟩:=Zd H0
      refine U4 [5,15,25,35,45,40] (L:=[(2,_),(3,_),(4,_),(5,_),(6,_)]) (s.pi [0,1,2,3,4] rfl) b Za
       (U2 [5] (Zv Zdc (off:=1) (by kernel_rfl) rfl rfl U0)<|AP U8 0 rfl<|Af Zd8 15 rfl<|Al U8 0 rfl<|U2 [20,0] (Zt Zbq0 (Zya _ _ h8) rfl rfl (.cons U0 (.cons U1 .nil)))<|U3) fun a g s b=>?_
      refine Zs (s.bool 5 rfl) H0 (fun H0=>?_) (fun H0=>?_)
      ·refine U5 [5,15,25,10] (L:=[(2,_),(4,_),(5,_),(6,_)]) (s.pi [0,2,3,4] rfl) b Za
        (U2 [35] (Zv Zjs (off:=0) (by kernel_rfl) rfl rfl U0)<|U2 [0,35] (Zsi Zok rfl rfl U1 U0 U6)<|U3) fun a g s b=>?_
       refine Zbb<|⟨_,_,g,rfl,?_,b,H0⟩
       exact (s.pi [0,1,2,3] rfl)
      ·refine U5 [60,25,35,45] (L:=[(2,_),(3,_),(4,_),(5,_),(6,_)]) (s.pi [0,1,2,3,4] rfl) b Za
        (U2 [5] (Zv Zdc (off:=1) (by kernel_rfl) rfl rfl U0)<|AP U8 0 rfl<|Af Zd8 15 rfl<|Al U8 0 rfl<|U2 [20,0] (Zbw rfl rfl U0 U1 rfl)<|U2 [5] (Zv Zdc (off:=1) (by kernel_rfl) rfl rfl U0)<|U2 [10,0,5] (Zpj U8 rfl rfl U7 U1 U0)<|U3) fun a g s b=>?_
       refine Zbb<|⟨_,_,g,rfl,?_,b,H0⟩
       exact (s.pi [0,1,2,3] rfl)
     ·refine wp_seq<|U4 [5,15,25,35,45,55,10] (L:=[(2,_),(3,_),(4,_),(5,_),(6,_),(12,_)]) (s.pi [0,1,2,3,4,5] rfl) b Za
       (U2 [55] (Zb0 rfl rfl U0 U6)<|Aa 0 rfl<|U3) fun a g s b=>?_
      refine Zbq (fun a w=>∃(j11:Bool) (g:G),Jn 217 [(2,(pBox Zg 2 a0)),(3,(Z6.ptr a1)),(4,(pBox Zg 4 (default:Zb))),(5,(pBox Z3 5 (default:Zm))),(6,(pBox Z3 6 ({Code:=(0:Int),Num:=(0:Int),Rec:=(default:Zb)}:Zm))),(12,(pInt .i64 a1.Kind)),(48,(Zbo j11))] a w g0 g (Zc6 a0 a1 j11=some r)) ?_ ?_
      ·rintro a w ⟨j11,g,rfl,s,b,H0⟩
       unfold Zc6 at H0
       refine Zl<|Zs (s.bool 6 rfl) H0 (fun H0=>?_) (fun H0=>?_)
       ·refine U4 [5,25,35,45,40] (L:=[(2,_),(3,_),(4,_),(5,_),(6,_)]) (s.pi [0,1,2,3,4] rfl) b Za
         (U2 [5] (Zv Zdc (off:=1) (by kernel_rfl) rfl rfl U0)<|AP U8 0 rfl<|Af Zd8 15 rfl<|Al U8 0 rfl<|U2 [20,0] (Zcj rfl rfl U0 U1)<|U3) fun a g s b=>?_
        refine Zs (s.bool 4 rfl) H0 (fun H0=>?_) (fun H0=>?_)
        ·refine U5 [5,15,25,10] (L:=[(2,_),(4,_),(5,_),(6,_)]) (s.pi [0,1,2,3] rfl) b Za
          (U2 [35] (Zv Zjs (off:=0) (by kernel_rfl) rfl rfl U0)<|U2 [0,35] (Zsi Zok rfl rfl U1 U0 U6)<|U3) fun a g s b=>?_
         refine Zbb<|⟨_,_,g,rfl,?_,b,H0⟩
         exact (s.pi [0,1,2,3] rfl)
        ·refine wp_skip<|Zbb ?_
         exact⟨a0,({Code:=(0:Int),Num:=(0:Int),Rec:=(default:Zb)}:Zm),g,rfl,(s.pi [0,1,2,3] rfl),b,H0⟩
       ·refine U4 [5,15,25,35,45,55,10] (L:=[(2,_),(3,_),(4,_),(5,_),(6,_),(12,_)]) (s.pi [0,1,2,3,4,5] rfl) b Za
         (U2 [55] (Zb0 rfl rfl U0 U6)<|Aa 0 rfl<|U3) fun a g s b=>?_
        refine Zs (s.bool 6 rfl) H0 (fun H0=>?_) (fun H0=>?_)
        ·refine U4 [5,15,25,35,45,70] (L:=[(2,_),(3,_),(4,_),(5,_),(6,_)]) (s.pi [0,1,2,3,4] rfl) b Za
          (U2 [5] (Zv Zdc (off:=1) (by kernel_rfl) rfl rfl U0)<|AP U8 0 rfl<|Af Zd8 15 rfl<|Al U8 0 rfl<|U2 [20,0] (Zbw rfl rfl U0 U1 rfl)<|U2 [5] (Zv Zjz (off:=3) (by kernel_rfl) rfl rfl U0)<|AP U8 0 rfl<|U2 [20,0] (Zcn rfl rfl U0 U1)<|U3) fun a g s b=>?_
         refine Zs (s.bool 5 rfl) H0 (fun H0=>?_) (fun H0=>?_)
         ·refine U5 [5,15,25,10] (L:=[(2,_),(4,_),(5,_),(6,_)]) (s.pi [0,2,3,4] rfl) b Za
           (U2 [35] (Zv Zjs (off:=0) (by kernel_rfl) rfl rfl U0)<|U2 [0,35] (Zsi Zok rfl rfl U1 U0 U6)<|U3) fun a g s b=>?_
          refine Zbb<|⟨_,_,g,rfl,?_,b,H0⟩
          exact (s.pi [0,1,2,3] rfl)
         ·refine U5 [60,25,35,45] (L:=[(2,_),(3,_),(4,_),(5,_),(6,_)]) (s.pi [0,1,2,3,4] rfl) b Za
           (U2 [5] (Zv Zdc (off:=1) (by kernel_rfl) rfl rfl U0)<|AP U8 0 rfl<|Af Zd8 15 rfl<|Al U8 0 rfl<|U2 [20,0] (Zbw rfl rfl U0 U1 rfl)<|U2 [5] (Zv Zdc (off:=1) (by kernel_rfl) rfl rfl U0)<|U2 [10,0,5] (Zpj U8 rfl rfl U7 U1 U0)<|U3) fun a g s b=>?_
          refine Zbb<|⟨_,_,g,rfl,?_,b,H0⟩
          exact (s.pi [0,1,2,3] rfl)
        ·refine U4 [5,15,25,35,45,55,10] (L:=[(2,_),(3,_),(4,_),(5,_),(6,_),(12,_)]) (s.pi [0,1,2,3,4,5] rfl) b Za
          (U2 [55] (Zb0 rfl rfl U0 U6)<|Aa 0 rfl<|U3) fun a g s b=>?_
         refine Zs (s.bool 6 rfl) H0 (fun H0=>?_) (fun H0=>?_)
         ·refine U4 [5,15,25,35,45,70] (L:=[(2,_),(3,_),(4,_),(5,_),(6,_)]) (s.pi [0,1,2,3,4] rfl) b Za
           (U2 [5] (Zv Zdc (off:=1) (by kernel_rfl) rfl rfl U0)<|AP U8 0 rfl<|Af Zd8 15 rfl<|Al U8 0 rfl<|U2 [20,0] (Zei rfl rfl U0 U1 rfl)<|U2 [5] (Zv Zjt (off:=2) (by kernel_rfl) rfl rfl U0)<|AP U8 0 rfl<|U2 [20,0] (Zcj rfl rfl U0 U1)<|U3) fun a g s b=>?_
          refine Zs (s.bool 5 rfl) H0 (fun H0=>?_) (fun H0=>?_)
          ·refine U5 [5,15,25,10] (L:=[(2,_),(4,_),(5,_),(6,_)]) (s.pi [0,2,3,4] rfl) b Za
            (U2 [35] (Zv Zjs (off:=0) (by kernel_rfl) rfl rfl U0)<|U2 [0,35] (Zsi Zok rfl rfl U1 U0 U6)<|U3) fun a g s b=>?_
           refine Zbb<|⟨_,_,g,rfl,?_,b,H0⟩
           exact (s.pi [0,1,2,3] rfl)
          ·refine U5 [60,25,35,45] (L:=[(2,_),(3,_),(4,_),(5,_),(6,_)]) (s.pi [0,1,2,3,4] rfl) b Za
            (U2 [5] (Zv Zdc (off:=1) (by kernel_rfl) rfl rfl U0)<|AP U8 0 rfl<|Af Zd8 15 rfl<|Al U8 0 rfl<|U2 [20,0] (Zei rfl rfl U0 U1 rfl)<|U2 [5] (Zv Zdc (off:=1) (by kernel_rfl) rfl rfl U0)<|U2 [10,0,5] (Zpj U8 rfl rfl U7 U1 U0)<|U3) fun a g s b=>?_
           refine Zbb<|⟨_,_,g,rfl,?_,b,H0⟩
           exact (s.pi [0,1,2,3] rfl)
         ·refine U4 [5,15,25,35,45,55,10] (L:=[(2,_),(3,_),(4,_),(5,_),(6,_),(12,_)]) (s.pi [0,1,2,3,4,5] rfl) b Za
           (U2 [55] (Zb0 rfl rfl U0 U6)<|Aa 0 rfl<|U3) fun a g s b=>?_
          refine Zs (s.bool 6 rfl) H0 (fun H0=>?_) (fun H0=>?_)
          ·obtain⟨r19,h20,H0⟩:=Zd H0
           refine U5 [60,25,35,45] (L:=[(2,_),(3,_),(4,_),(5,_),(6,_)]) (s.pi [0,1,2,3,4] rfl) b Za
            (U2 [5] (Zv Zga (off:=4) (by kernel_rfl) rfl rfl U0)<|AP Zdk 0 rfl<|Af Zit 15 rfl<|Al Zdk 0 rfl<|U2 [20,0] (Zt Zbpq (Zzp _ _ h20) rfl rfl (.cons U0 (.cons U1 .nil)))<|U2 [5] (Zv Zga (off:=4) (by kernel_rfl) rfl rfl U0)<|U2 [10,0,5] (Zsb Zdk rfl rfl U7 U1 U0)<|U3) fun a g s b=>?_
           refine Zbb<|⟨_,_,g,rfl,?_,b,H0⟩
           exact (s.pi [0,1,2,3] rfl)
          ·refine U4 [5,15,25,35,45,55,10] (L:=[(2,_),(3,_),(4,_),(5,_),(6,_),(12,_)]) (s.pi [0,1,2,3,4,5] rfl) b Za
            (U2 [55] (Zb0 rfl rfl U0 U6)<|Aa 0 rfl<|U3) fun a g s b=>?_
           refine Zs (s.bool 6 rfl) H0 (fun H0=>?_) (fun H0=>?_)
           ·obtain⟨r22,h23,H0⟩:=Zd H0
            refine U5 [60,25,35,45] (L:=[(2,_),(3,_),(4,_),(5,_),(6,_)]) (s.pi [0,1,2,3,4] rfl) b Za
             (U2 [5] (Zv Zga (off:=4) (by kernel_rfl) rfl rfl U0)<|AP Zdk 0 rfl<|Af Zit 15 rfl<|Al Zdk 0 rfl<|U2 [20,0] (Zt Zbo2 (Zyk _ _ h23) rfl rfl (.cons U0 (.cons U1 .nil)))<|U2 [5] (Zv Zga (off:=4) (by kernel_rfl) rfl rfl U0)<|U2 [10,0,5] (Zsb Zdk rfl rfl U7 U1 U0)<|U3) fun a g s b=>?_
            refine Zbb<|⟨_,_,g,rfl,?_,b,H0⟩
            exact (s.pi [0,1,2,3] rfl)
           ·refine U4 [5,15,25,35,45,55,10] (L:=[(2,_),(3,_),(4,_),(5,_),(6,_),(12,_)]) (s.pi [0,1,2,3,4,5] rfl) b Za
             (U2 [55] (Zb0 rfl rfl U0 U6)<|Aa 0 rfl<|U3) fun a g s b=>?_
            refine Zs (s.bool 6 rfl) H0 (fun H0=>?_) (fun H0=>?_)
            ·obtain⟨r25,h26,H0⟩:=Zd H0;obtain⟨r27,h28,H0⟩:=Zd H0
             refine U5 [80,25,35,45] (L:=[(2,_),(3,_),(4,_),(5,_),(6,_)]) (s.pi [0,1,2,3,4] rfl) b Za
              (U2 [5] (Zv Zga (off:=4) (by kernel_rfl) rfl rfl U0)<|AP Zdk 0 rfl<|Af Zit 15 rfl<|Al Zdk 0 rfl<|U2 [20,0] (Z9r rfl rfl U0 U1)<|U2 [0] (Zt Zbi7 (Zxn (fun r z hr hz=>by simp only[Zha,Zfx,hr,hz,Zb08,if_true]) (fun z r h=>Zrs z h) h26) rfl rfl (.cons U0 .nil))<|U2 [0] (Zt Zbjb (Zre _ h28) rfl rfl (.cons U0 .nil))<|U2 [5] (Zv Zga (off:=4) (by kernel_rfl) rfl rfl U0)<|U2 [10,0,5] (Zsb Zdk rfl rfl U7 U1 U0)<|U3) fun a g s b=>?_
             refine Zbb<|⟨_,_,g,rfl,?_,b,H0⟩
             exact (s.pi [0,1,2,3] rfl)
            ·refine U4 [5,15,25,35,45,55,10] (L:=[(2,_),(3,_),(4,_),(5,_),(6,_),(12,_)]) (s.pi [0,1,2,3,4,5] rfl) b Za
              (U2 [55] (Zb0 rfl rfl U0 U6)<|Aa 0 rfl<|U3) fun a g s b=>?_
             refine Zs (s.bool 6 rfl) H0 (fun H0=>?_) (fun H0=>?_)
             ·obtain⟨r30,h31,H0⟩:=Zd H0;obtain⟨r32,h33,H0⟩:=Zd H0
              refine U5 [80,25,35,45] (L:=[(2,_),(3,_),(4,_),(5,_),(6,_)]) (s.pi [0,1,2,3,4] rfl) b Za
               (U2 [5] (Zv Zga (off:=4) (by kernel_rfl) rfl rfl U0)<|AP Zdk 0 rfl<|Af Zit 15 rfl<|Al Zdk 0 rfl<|U2 [20,0] (Z97 rfl rfl U0 U1)<|U2 [0] (Zt Zbi7 (Zxn (fun r z hr hz=>by simp only[Zha,Zfx,hr,hz,Zb08,if_true]) (fun z r h=>Zrs z h) h31) rfl rfl (.cons U0 .nil))<|U2 [0] (Zt Zbjb (Zre _ h33) rfl rfl (.cons U0 .nil))<|U2 [5] (Zv Zga (off:=4) (by kernel_rfl) rfl rfl U0)<|U2 [10,0,5] (Zsb Zdk rfl rfl U7 U1 U0)<|U3) fun a g s b=>?_
              refine Zbb<|⟨_,_,g,rfl,?_,b,H0⟩
              exact (s.pi [0,1,2,3] rfl)
             ·refine U4 [5,15,25,35,45,55,10] (L:=[(2,_),(3,_),(4,_),(5,_),(6,_),(12,_)]) (s.pi [0,1,2,3,4,5] rfl) b Za
               (U2 [55] (Zb0 rfl rfl U0 U6)<|Aa 0 rfl<|U3) fun a g s b=>?_
              refine Zs (s.bool 6 rfl) H0 (fun H0=>?_) (fun H0=>?_)
              ·refine U5 [30,25,35,45] (L:=[(2,_),(3,_),(4,_),(5,_),(6,_)]) (s.pi [0,1,2,3,4] rfl) b Za
                (Af Zit 15 rfl<|Al Zdk 0 rfl<|U2 [5] (Zv Zga (off:=4) (by kernel_rfl) rfl rfl U0)<|U2 [10,0,5] (Zsb Zdk rfl rfl U7 U1 U0)<|U3) fun a g s b=>?_
               refine Zbb<|⟨_,_,g,rfl,?_,b,H0⟩
               exact (s.pi [0,1,2,3] rfl)
              ·refine U4 [5,15,25,35,45,55,10] (L:=[(2,_),(3,_),(4,_),(5,_),(6,_),(12,_)]) (s.pi [0,1,2,3,4,5] rfl) b Za
                (U2 [55] (Zb0 rfl rfl U0 U6)<|Aa 0 rfl<|U3) fun a g s b=>?_
               refine Zs (s.bool 6 rfl) H0 (fun H0=>?_) (fun H0=>?_)
               ·obtain⟨r36,h37,H0⟩:=Zd H0
                refine U4 [5,15,25,35,45,130] (L:=[(2,_),(3,_),(4,_),(5,_),(6,_)]) (s.pi [0,1,2,3,4] rfl) b Za
                 (U2 [5] (Zv Zcm (off:=7) (by kernel_rfl) rfl rfl U0)<|AP Zdx 0 rfl<|Af Zfe 15 rfl<|Al V0 0 rfl<|U2 [20,0] (Zt Zbgv (Zsz _ _ h37) rfl rfl (.cons U0 (.cons U1 .nil)))<|U2 [0] (Zct rfl rfl U0)<|Am 0 rfl<|Gt [0,5] rfl (fun h=>Zv Zcm (off:=7) (by kernel_rfl) rfl rfl U0)<|Gt [10,0] rfl (fun h=>Zjn Zdx rfl rfl (V1 h U0))<|Gt [20,0] rfl (fun h=>Zbv Zb0l rfl rfl (V1 h U0))<|Gt [30,5] rfl (fun h=>Zv Zhb (off:=5) (by kernel_rfl) rfl rfl U0)<|Gt [40,0] rfl (fun h=>Zjn U9 rfl rfl (V1 h U0))<|Gt [50,20,0] rfl (fun h=>Zkp rfl rfl (V1 h U0) (V1 h U1))<|U2 [60,0] (Zbs rfl rfl U0 (fun hz=>(V1 hz U1)))<|U3) fun a g s b=>?_
                refine Zs (s.bool 5 rfl) H0 (fun H0=>?_) (fun H0=>?_)
                ·refine U5 [5,15,25,10] (L:=[(2,_),(4,_),(5,_),(6,_)]) (s.pi [0,2,3,4] rfl) b Za
                  (U2 [35] (Zv Zjs (off:=0) (by kernel_rfl) rfl rfl U0)<|U2 [0,35] (Zsi Zok rfl rfl U1 U0 U6)<|U3) fun a g s b=>?_
                 refine Zbb<|⟨_,_,g,rfl,?_,b,H0⟩
                 exact (s.pi [0,1,2,3] rfl)
                ·obtain⟨r39,h40,H0⟩:=Zd H0
                 refine U5 [70,25,35,45] (L:=[(2,_),(3,_),(4,_),(5,_),(6,_)]) (s.pi [0,1,2,3,4] rfl) b Za
                  (U2 [5] (Zv Zcm (off:=7) (by kernel_rfl) rfl rfl U0)<|AP Zdx 0 rfl<|Af Zfe 15 rfl<|Al V0 0 rfl<|U2 [0] (Z9d rfl rfl U0)<|U2 [30,0] (Zt Zbij (Zr2 _ _ _ h40) rfl rfl (.cons U0 (.cons U1 (.cons c_b .nil))))<|U2 [5] (Zv Zcm (off:=7) (by kernel_rfl) rfl rfl U0)<|U2 [10,0,5] (Zpp Zdx rfl rfl U7 U1 U0)<|U3) fun a g s b=>?_
                 refine Zbb<|⟨_,_,g,rfl,?_,b,H0⟩
                 exact (s.pi [0,1,2,3] rfl)
               ·refine U4 [5,15,25,35,45,55,10] (L:=[(2,_),(3,_),(4,_),(5,_),(6,_),(12,_)]) (s.pi [0,1,2,3,4,5] rfl) b Za
                 (U2 [55] (Zb0 rfl rfl U0 U6)<|Aa 0 rfl<|U3) fun a g s b=>?_
                refine Zs (s.bool 6 rfl) H0 (fun H0=>?_) (fun H0=>?_)
                ·refine U4 [5,15,25,35,45,10] (L:=[(2,_),(3,_),(4,_),(5,_),(6,_)]) (s.pi [0,1,2,3,4] rfl) b Za
                  (U2 [] (Zka 158 Zd4 (xs:=[]) .nil (by decide) rfl rfl)<|Aa 0 rfl<|U3) fun a g s b=>?_
                 refine wp_seq<|U4 [5,15,25,35,45,55,0] s b Za
                  (U2 [] (Zc rfl rfl U6)<|U3) fun a g s b=>?_
                 obtain⟨z53,hz1,H0⟩:=Zd H0
                 refine Zbq (fun a w=>∃(y52:List Zn) (g:G),Jn 217 [(2,(pBox Zg 2 a0)),(4,(pBox Zg 4 (default:Zb))),(5,(pBox Z3 5 (default:Zm))),(6,(pBox Z3 6 ({Code:=(0:Int),Num:=(0:Int),Rec:=(default:Zb)}:Zm))),(7,(pRow Zy 139 158 y52))] a w g0 g (y52=z53)) ?_ ?_
                 ·rintro a w ⟨y52,g,rfl,s,b,rfl⟩
                  refine Zl<|U5 [20,15,25,35] s b Za
                   (Am 45 rfl<|U2 [5] (Zv Zcm (off:=7) (by kernel_rfl) rfl rfl U0)<|U2 [10,0,5] (Zpp Zdx rfl rfl U7 U1 (Opd.imp U0 (fun _ _ h=>Zdt h)))<|U3) fun a g s b=>?_
                  refine Zbb<|⟨_,_,g,rfl,?_,b,H0⟩
                  exact (s.pi [0,1,2,3] rfl)
                 ·refine wp_block<|wp_loop_ghost (fun n a w=>∃(x42:List Zn) (x43:Int) (g:G),Jn 217 [(2,(pBox Zg 2 a0)),(3,(Z6.ptr a1)),(4,(pBox Zg 4 (default:Zb))),(5,(pBox Z3 5 (default:Zm))),(6,(pBox Z3 6 ({Code:=(0:Int),Num:=(0:Int),Rec:=(default:Zb)}:Zm))),(7,(pRow Zy 139 158 x42)),(8,(pInt .i64 x43))] a w g0 g (Zeb a0 a1 n x42 x43=some z53)) (Zb0q ((a0.List.length:Int)-(0:Int))+1) ⟨([]:List Zn),(0:Int),g,rfl,(s.pi [0,1,2,3,4,5,6] rfl),b,hz1⟩ (fun n a w hI=>?_)
                  obtain⟨x42,x43,g,rfl,s,b,H1⟩:=hI
                  cases n with
                  | zero=>exact absurd H1 (by simp[Zeb])
                  | succ n =>
                   rw[Zeb]at H1
                   refine wp_seq<|U4 [5,15,25,35,45,55,65,40] s b Za
                    (Am 65 rfl<|U2 [5] (Zv Zcm (off:=7) (by kernel_rfl) rfl rfl U0)<|AP Zdx 0 rfl<|U2 [0] (Zbv Zb0l rfl rfl U0)<|U2 [30,0] (Zcj rfl rfl U0 U1)<|U3) fun a g s b=>?_
                   refine Zs (s.bool 7 rfl) H1 (fun H1=>?_) (fun H1=>?_)
                   ·refine wp_skip<|Zl ?_
                    refine wp_seq<|Zbq (fun a w=>∃(j51:List Zn) (g:G),Jn 217 [(2,(pBox Zg 2 a0)),(3,(Z6.ptr a1)),(4,(pBox Zg 4 (default:Zb))),(5,(pBox Z3 5 (default:Zm))),(6,(pBox Z3 6 ({Code:=(0:Int),Num:=(0:Int),Rec:=(default:Zb)}:Zm))),(7,(pRow Zy 139 158 j51)),(8,(pInt .i64 x43))] a w g0 g (Zk0 x43 (Zeb a0 a1 n) j51=some z53)) ?_ ?_
                    ·rintro a w ⟨j51,g,rfl,s,b,H1⟩
                     unfold Zk0 at H1
                     refine Zl<|U5 [5,15,25,35,45,55,20] s b Za
                      (Am 65 rfl<|U2 [0] (Zbw rfl rfl U0 U6 rfl)<|Aa 0 rfl<|U3) fun a g s b=>?_
                     exact⟨n,Zb0o _,j51,(Zb0n.wrap (x43+(1:Int))),g,rfl,(s.pi [0,1,2,3,4,5,6] rfl),b,H1⟩
                    ·refine wp_block ?_
                     obtain⟨e45,h46,H1⟩:=Zd H1
                     refine U4 [5,15,25,35,45,55,65,80] (L:=[(2,_),(3,_),(4,_),(5,_),(6,_),(7,_),(8,_)]) (s.pi [0,1,2,3,4,5,6] rfl) b Za
                      (U2 [5] (Zv Zcm (off:=7) (by kernel_rfl) rfl rfl U0)<|AP Zdx 0 rfl<|Am 65 rfl<|U2 [10,0] (Zbn Zb0l Zf1 rfl rfl U0 U1 h46)<|Af Zeq 0 rfl<|Al V0 0 rfl<|Af Zfe 15 rfl<|Al V0 0 rfl<|U2 [20,0] (Zue rfl rfl U0 U1)<|U3) fun a g s b=>?_
                     refine Zs (s.bool 7 rfl) H1 (fun H1=>?_) (fun H1=>?_)
                     ·obtain⟨e48,h49,H1⟩:=Zd H1;obtain⟨h50,H1⟩:=Zdr H1
                      refine U5 [5,15,25,35,45,80,65] (L:=[(2,_),(3,_),(4,_),(5,_),(6,_),(7,_),(8,_)]) (s.pi [0,1,2,3,4,5,6] rfl) b Za
                       (Am 55 rfl<|U2 [5] (Zv Zcm (off:=7) (by kernel_rfl) rfl rfl U0)<|AP Zdx 0 rfl<|Am 65 rfl<|U2 [10,0] (Zbn Zb0l Zf1 rfl rfl U0 U1 h49)<|Al Zev 0 rfl<|U2 [0] (Zgm Zd4 (xs:=[.tmp 180]) (.cons U0 .nil) (by decide) rfl rfl)<|U2 [60,0] (Zdg Zd4 rfl rfl U0 U1 h50)<|Aa 0 rfl<|U3) fun a g s b=>?_
                      exact Zbb<|⟨(x42++([e48]:List Zn)),g,rfl,(s.pi [0,1,2,3,4,5,6] rfl),b,H1⟩
                     ·refine wp_skip<|Zbb ?_
                      exact⟨x42,g,rfl,(s.pi [0,1,2,3,4,5,6] rfl),b,H1⟩
                   ·refine wp_exit<|Zbx ?_
                    refine Zbx<|Zcg ?_
                    exact⟨x42,g,rfl,(s.pi [0,2,3,4,5] rfl),b,Oi H1⟩
                ·refine U4 [5,15,25,35,45,55,10] (L:=[(2,_),(3,_),(4,_),(5,_),(6,_),(12,_)]) (s.pi [0,1,2,3,4,5] rfl) b Za
                  (U2 [55] (Zb0 rfl rfl U0 U6)<|Aa 0 rfl<|U3) fun a g s b=>?_
                 refine Zs (s.bool 6 rfl) H0 (fun H0=>?_) (fun H0=>?_)
                 ·obtain⟨r55,h56,H0⟩:=Zd H0
                  refine U4 [5,25,35,45,50] (L:=[(2,_),(3,_),(4,_),(5,_),(6,_)]) (s.pi [0,1,2,3,4] rfl) b Za
                   (U2 [5] (Zv Zcm (off:=7) (by kernel_rfl) rfl rfl U0)<|AP Zdx 0 rfl<|Af Zfe 15 rfl<|Al V0 0 rfl<|U2 [20,0] (Zt Zbgv (Zsz _ _ h56) rfl rfl (.cons U0 (.cons U1 .nil)))<|U2 [0] (Zct rfl rfl U0)<|U3) fun a g s b=>?_
                  refine Zs (s.bool 4 rfl) H0 (fun H0=>?_) (fun H0=>?_)
                  ·refine U5 [5,15,25,10] (L:=[(2,_),(4,_),(5,_),(6,_)]) (s.pi [0,1,2,3] rfl) b Za
                    (U2 [35] (Zv Zjs (off:=0) (by kernel_rfl) rfl rfl U0)<|U2 [0,35] (Zsi Zok rfl rfl U1 U0 U6)<|U3) fun a g s b=>?_
                   refine Zbb<|⟨_,_,g,rfl,?_,b,H0⟩
                   exact (s.pi [0,1,2,3] rfl)
                  ·refine wp_skip<|Zbb ?_
                   exact⟨a0,({Code:=(0:Int),Num:=(0:Int),Rec:=(default:Zb)}:Zm),g,rfl,(s.pi [0,1,2,3] rfl),b,H0⟩
                 ·refine U4 [5,15,25,35,45,10] (L:=[(2,_),(3,_),(4,_),(5,_),(6,_),(12,_)]) (s.pi [0,1,2,3,4,5] rfl) b Za
                   (U2 [55] (Zb0 rfl rfl U0 U6)<|Aa 0 rfl<|U3) fun a g s b=>?_
                  refine Zs (s.bool 5 rfl) H0 (fun H0=>?_) (fun H0=>?_)
                  ·obtain⟨r59,h60,H0⟩:=Zd H0
                   refine U4 [5,25,35,45,80] (L:=[(2,_),(3,_),(4,_),(5,_),(6,_)]) (s.pi [0,1,2,3,4] rfl) b Za
                    (U2 [5] (Zv Zcm (off:=7) (by kernel_rfl) rfl rfl U0)<|AP Zdx 0 rfl<|Af Zit 15 rfl<|Al Zdk 0 rfl<|Af Zfe 15 rfl<|Al V0 0 rfl<|U2 [20,0] (Z4f rfl rfl U0 U1)<|U2 [50,0] (Zt Zbij (Zr2 _ _ _ h60) rfl rfl (.cons U0 (.cons U1 (.cons c_b .nil))))<|Aa 0 rfl<|U3) fun a g s b=>?_
                   refine wp_seq<|U4 [5,15,25,35,45,40] s b Za
                    (Am 45 rfl<|U2 [0] (Zbv Zb0l rfl rfl U0)<|U2 [5] (Zv Zhb (off:=5) (by kernel_rfl) rfl rfl U0)<|AP U9 0 rfl<|U2 [20,0] (Zcn rfl rfl U0 U1)<|U3) fun a g s b=>?_
                   refine Zbq (fun a w=>∃(j64:List Zn) (g:G),Jn 217 [(2,(pBox Zg 2 a0)),(4,(pBox Zg 4 (default:Zb))),(5,(pBox Z3 5 (default:Zm))),(6,(pBox Z3 6 ({Code:=(0:Int),Num:=(0:Int),Rec:=(default:Zb)}:Zm))),(9,(Zy.sl.pd j64))] a w g0 g (Zf8 a0 j64=some r)) ?_ ?_
                   ·rintro a w ⟨j64,g,rfl,s,b,H0⟩
                    unfold Zf8 at H0
                    refine Zl<|U5 [20,15,25,35] s b Za
                     (Am 45 rfl<|U2 [5] (Zv Zcm (off:=7) (by kernel_rfl) rfl rfl U0)<|U2 [10,0,5] (Zpp Zdx rfl rfl U7 U1 U0)<|U3) fun a g s b=>?_
                    refine Zbb<|⟨_,_,g,rfl,?_,b,H0⟩
                    exact (s.pi [0,1,2,3] rfl)
                   ·refine Zs (s.bool 5 rfl) H0 (fun H0=>?_) (fun H0=>?_)
                    ·obtain⟨c62,h63,H0⟩:=Zd H0
                     refine U5 [5,15,25,35,40] (L:=[(2,_),(4,_),(5,_),(6,_),(9,_)]) (s.pi [0,1,2,3,4] rfl) b Za
                      (Am 45 rfl<|U2 [5] (Zv Zhb (off:=5) (by kernel_rfl) rfl rfl U0)<|AP U9 0 rfl<|U2 [20,0] (Zz3 Zb0l Zf1 rfl rfl U0 U1 h63)<|Aa 0 rfl<|U3) fun a g s b=>?_
                     exact⟨c62,g,rfl,(s.pi [0,1,2,3,4] rfl),b,H0⟩
                    ·exact wp_skip<|⟨r59,g,rfl,(s.pi [0,1,2,3,4] rfl),b,H0⟩
                  ·refine wp_skip<|Zbb ?_
                   exact⟨a0,({Code:=(0:Int),Num:=(0:Int),Rec:=(default:Zb)}:Zm),g,rfl,(s.pi [0,2,3,4] rfl),b,H0⟩
      ·refine Zs (s.bool 6 rfl) H0 (fun H0=>?_) (fun H0=>?_)
       ·exact wp_skip<|⟨(a1.Kind==(9:Int)),g,rfl,(s.pi [0,1,2,3,4,5,6] rfl),b,H0⟩
       ·refine U5 [5,15,25,35,45,55,10] (L:=[(2,_),(3,_),(4,_),(5,_),(6,_),(12,_)]) (s.pi [0,1,2,3,4,5] rfl) b Za
         (U2 [55] (Zb0 rfl rfl U0 U6)<|Aa 0 rfl<|U3) fun a g s b=>?_
        exact⟨(a1.Kind==(12:Int)),g,rfl,(s.pi [0,1,2,3,4,5,6] rfl),b,H0⟩
theorem Zxt (a0:Zb) (a1:Bool) (a2:Zw) {r:Zb×Bool×Zm} (H0:Zky a0 a1 a2=some r):FnOk Zb0k 71 [(Zg.pd a0),(Zbo a1),(Z6.pd a2)] (pTup [(Zg.pd r.1),(Zbo r.2.1),(Z3.pd r.2.2)]):=by
 unfold Zky at H0
 refine Zb9 (N:=109) Tryz.func71 rfl rfl (Qe rfl) rfl rfl (fun a g0 s b=>?_)
 refine U4 [15,0,10,20,40] s b Za
  (U2 (outs:=[(3,(pBox Zg 3 a0))]) (S:=[4]) [5] (Zln rfl rfl U0)<|U2 [25] (Zbt rfl rfl U0)<|U2 [] (Ziv 6 rfl rfl)<|U2 [] (Zc rfl rfl c_b)<|U2 [] (Zlz 8 rfl rfl)<|U3) fun a g s b=>?_
 refine wp_seq<|U4 [5,15,25,35,45,10] s b Za
  (Am 5 rfl<|U2 [0] (Zct rfl rfl U0)<|U3) fun a g s b=>?_
 refine Zbq (fun a w=>∃(j2:Zb) (g:G),Jn 109 [(1,(Zbo a1)),(3,(pBox Zg 3 j2)),(5,(Z6.ptr a2)),(6,(pBox Zg 6 (default:Zb))),(8,(pBox Z3 8 (default:Zm)))] a w g0 g (Zhu a1 a2 j2=some r)) ?_ ?_
 rintro a w ⟨j2,g,rfl,s,b,H0⟩
 unfold Zhu at H0
 refine Zl ?_
 obtain⟨r3,h4,H0⟩:=Zd H0
 refine U4 [5,20,25,35,45] s b Za
  (AM Zbd 15 rfl<|U2 [0] (Zt Z3d (Zkn _ h4) rfl rfl (.cons U0 .nil))<|U2 [0,15] (Z9 Zbd rfl rfl U1 U0)<|U3) fun a g s b=>?_
 obtain⟨r5,h6,H0⟩:=Zd H0
 refine U4 [5,15,25,35,45,20] s b Za
  (Al Zgb 25 rfl<|U2 [0] (Zt Zbl9 (Zrv _ h6) rfl rfl (.cons U0 .nil))<|Aa 0 rfl<|U3) fun a g s b=>?_
 refine wp_seq<|U4 [5,15,25,35,45,55,40] s b Za
  (Am 55 rfl<|U2 [0] (Zb0 rfl rfl U0 U6)<|Am 0 rfl<|Gt [0,5] rfl (fun h=>Zx rfl rfl U0)<|U2 [10,0] (Zbs rfl rfl U0 (fun hz=>(V1 hz U1)))<|U3) fun a g s b=>?_
 refine Zbq (fun a w=>∃(j10:Int) (g:G),Jn 109 [(1,(Zbo a1)),(3,(pBox Zg 3 r3)),(5,(Z6.ptr a2)),(6,(pBox Zg 6 (default:Zb))),(8,(pBox Z3 8 (default:Zm))),(9,(pInt .i64 j10))] a w g0 g (Zfr a1 a2 r3 j10=some r)) ?_ ?_
 rintro a w ⟨j10,g,rfl,s,b,H0⟩
 unfold Zfr at H0
 refine Zl<|wp_seq ?_
 refine U4 [5,15,25,35,45,55,90] s b Za
  (Am 55 rfl<|U2 [0] (Zb0 rfl rfl U0 U6)<|Am 0 rfl<|Gt [0,25] rfl (fun h=>Zq Zdh rfl rfl U0)<|Gt [10,0] rfl (fun h=>Z2 U9 rfl rfl (V1 h U0))<|Gt [20,0] rfl (fun h=>Zb0 rfl rfl (V1 h U0) U6)<|U2 [30,0] (Zbs rfl rfl U0 (fun hz=>(V1 hz U1)))<|Am 0 rfl<|Gt [0,5] rfl (fun h=>Zx rfl rfl U0)<|U2 [10,0] (Zbs rfl rfl U0 (fun hz=>(V1 hz U1)))<|U3) fun a g s b=>?_
 refine Zbq (fun a w=>∃(j12:Int) (g:G),Jn 109 [(1,(Zbo a1)),(3,(pBox Zg 3 r3)),(5,(Z6.ptr a2)),(6,(pBox Zg 6 (default:Zb))),(8,(pBox Z3 8 (default:Zm))),(9,(pInt .i64 j12))] a w g0 g (Zhx a1 a2 r3 j12=some r)) ?_ ?_
 rintro a w ⟨j12,g,rfl,s,b,H0⟩
 unfold Zhx at H0
 refine Zl<|wp_seq ?_
 refine U4 [5,15,25,35,45,55,150] s b Za
  (Am 55 rfl<|U2 [0] (Zb0 rfl rfl U0 U6)<|Am 0 rfl<|Gt [0,5] rfl (fun h=>Zx rfl rfl U0)<|Gt [10,0] rfl (fun h=>Zct rfl rfl (V1 h U0))<|U2 [20,0] (Zbs rfl rfl U0 (fun hz=>(V1 hz U1)))<|Am 0 rfl<|Gt [0,25] rfl (fun h=>Zq Zdh rfl rfl U0)<|Gt [10,0] rfl (fun h=>Z2 U9 rfl rfl (V1 h U0))<|Gt [20,0] rfl (fun h=>Zcv rfl rfl (V1 h U0) U6)<|U2 [30,0] (Zbs rfl rfl U0 (fun hz=>(V1 hz U1)))<|Am 0 rfl<|Gt [0,25] rfl (fun h=>Zq Zdh rfl rfl U0)<|Gt [10,0] rfl (fun h=>Z2 U9 rfl rfl (V1 h U0))<|Gt [20,0] rfl (fun h=>Zcv rfl rfl (V1 h U0) U6)<|U2 [30,0] (Zbs rfl rfl U0 (fun hz=>(V1 hz U1)))<|U3) fun a g s b=>?_
 refine Zbq (fun a w=>∃(j14:Int) (g:G),Jn 109 [(1,(Zbo a1)),(3,(pBox Zg 3 r3)),(5,(Z6.ptr a2)),(6,(pBox Zg 6 (default:Zb))),(8,(pBox Z3 8 (default:Zm))),(9,(pInt .i64 j14))] a w g0 g (Zhy a1 a2 r3 j14=some r)) ?_ ?_
 rintro a w ⟨j14,g,rfl,s,b,H0⟩
 unfold Zhy at H0
 refine Zl ?_
 obtain⟨r15,h16,H0⟩:=Zd H0
 refine U4 [5,15,25,35,45,55,30] s b Za
  (Af Zdh 25 rfl<|Al U9 0 rfl<|U2 [0] (Zt Zbf6 (Zqp _ h16) rfl rfl (.cons U0 .nil))<|Aa 0 rfl<|U3) fun a g s b=>?_
 refine wp_seq<|U4 [5,15,25,35,45,55,110] s b Za
  (Am 55 rfl<|U2 [0] (Zb0 rfl rfl U0 U6)<|Am 0 rfl<|Gt [0,65] rfl (fun h=>Zx rfl rfl U0)<|Gt [10,0] rfl (fun h=>Zcv rfl rfl (V1 h U0) U6)<|U2 [20,0] (Zbs rfl rfl U0 (fun hz=>(V1 hz U1)))<|Am 0 rfl<|Gt [0,65] rfl (fun h=>Zx rfl rfl U0)<|Gt [10,15] rfl (fun h=>Zv Zfd (off:=0) (by kernel_rfl) rfl rfl U0)<|Gt [20,0] rfl (fun h=>Zjn U9 rfl rfl (V1 h U0))<|Gt [30,20,0] rfl (fun h=>Zcv rfl rfl (V1 h U0) (V1 h U1))<|U2 [40,0] (Zbs rfl rfl U0 (fun hz=>(V1 hz U1)))<|U3) fun a g s b=>?_
 refine Zbq (fun a w=>∃(j18:Int) (g:G),Jn 109 [(1,(Zbo a1)),(3,(pBox Zg 3 r3)),(5,(Z6.ptr a2)),(6,(pBox Zg 6 (default:Zb))),(8,(pBox Z3 8 (default:Zm))),(9,(pInt .i64 j18))] a w g0 g (Zhz a1 a2 r3 j18=some r)) ?_ ?_
 rintro a w ⟨j18,g,rfl,s,b,H0⟩
 unfold Zhz at H0
 refine Zl<|wp_seq ?_
 refine U4 [5,15,25,35,45,55,10] s b Za
  (Am 55 rfl<|U2 [0] (Zcv rfl rfl U0 U6)<|U3) fun a g s b=>?_
 refine Zs (s.bool 6 rfl) H0 (fun H0=>?_) (fun H0=>?_)
 refine U4 [40,50,60] (L:=[(1,_),(3,_),(6,_),(8,_),(9,_)]) (s.pi [0,1,3,4,5] rfl) b Za
  (AM Zbd 15 rfl<|Am 5 rfl<|Am 45 rfl<|U2 [0] (Zua rfl rfl U0)<|U2 [30,25] (Z9 Zbd rfl rfl U1 U0)<|Aa 30 rfl<|U2 [20,35] (Z9 Zcf rfl rfl U1 U0)<|U3) fun a g s b=>?_
 refine wp_ret<|Zp ?_
 obtain rfl:=Oi H0
 obtain⟨u0,hu0,hq0⟩:=Zbi (P:=Zb0k) Zbd (s.at 0 rfl)
 obtain⟨u2,hu2,hq2⟩:=Zbi (P:=Zb0k) Zcf (s.at 2 rfl)
 exact Zk9 rfl s b hu0 (Zf (s:=7)) hu2 (Zft hq0 (s.at 1 rfl) hq2)
 refine wp_skip<|Zl ?_
 refine wp_seq<|U4 [5,15,25,35,45,10] (L:=[(1,_),(3,_),(5,_),(6,_),(8,_)]) (s.pi [0,1,2,3,4] rfl) b Za
  (Af Zdh 25 rfl<|Al U9 0 rfl<|U3) fun a g s b=>?_
 refine wp_block<|U4 [5,15,25,35,45,55,10] s b Za
  (U2 [55] (Zb0 rfl rfl U0 U6)<|Aa 0 rfl<|U3) fun a g s b=>?_
 refine Zs (s.bool 6 rfl) H0 (fun H0=>?_) (fun H0=>?_)
 obtain⟨r21,h22,H0⟩:=Zd H0
 refine U4 [40,50,60] (L:=[(5,_),(6,_),(8,_)]) (s.pi [2,3,4] rfl) b Za
  (Af Zob 5 rfl<|Al Zbd 0 rfl<|U2 [0] (Zt Z3d (Zkn _ h22) rfl rfl (.cons U0 .nil))<|U2 [] (Zt8 rfl rfl )<|U2 [10,15] (Z9 Zbd rfl rfl U1 U0)<|U2 [] (Zc rfl rfl c_b)<|U2 [20,25] (Z9 Zcf rfl rfl U1 U0)<|U3) fun a g s b=>?_
 refine wp_ret<|Z5 ?_
 refine Zp ?_
 obtain rfl:=Oi H0
 obtain⟨u0,hu0,hq0⟩:=Zbi (P:=Zb0k) Zbd (s.at 0 rfl)
 obtain⟨u2,hu2,hq2⟩:=Zbi (P:=Zb0k) Zcf (s.at 2 rfl)
 exact Zk9 rfl s b hu0 (Zf (s:=7)) hu2 (Zft hq0 (s.at 1 rfl) hq2)
 refine U4 [5,15,25,35,45,55,10] (L:=[(1,_),(3,_),(5,_),(6,_),(8,_),(75,_)]) (s.pi [0,1,2,3,4,5] rfl) b Za
  (U2 [55] (Zb0 rfl rfl U0 U6)<|Aa 0 rfl<|U3) fun a g s b=>?_
 refine Zs (s.bool 6 rfl) H0 (fun H0=>?_) (fun H0=>?_)
 refine U4 [20,30,40] (L:=[(6,_),(8,_)]) (s.pi [3,4] rfl) b Za
  (U2 [] (Zqf rfl rfl )<|U2 [] (Zt8 rfl rfl )<|U2 [10,5] (Z9 Zbd rfl rfl U1 U0)<|U2 [] (Zc rfl rfl c_b)<|U2 [20,15] (Z9 Zcf rfl rfl U1 U0)<|U3) fun a g s b=>?_
 refine wp_ret<|Z5 ?_
 refine Zp ?_
 obtain rfl:=Oi H0
 obtain⟨u0,hu0,hq0⟩:=Zbi (P:=Zb0k) Zbd (s.at 0 rfl)
 obtain⟨u2,hu2,hq2⟩:=Zbi (P:=Zb0k) Zcf (s.at 2 rfl)
 exact Zk9 rfl s b hu0 (Zf (s:=7)) hu2 (Zft hq0 (s.at 1 rfl) hq2)
 refine U4 [5,15,25,35,45,55,10] (L:=[(1,_),(3,_),(5,_),(6,_),(8,_),(75,_)]) (s.pi [0,1,2,3,4,5] rfl) b Za
  (U2 [55] (Zb0 rfl rfl U0 U6)<|Aa 0 rfl<|U3) fun a g s b=>?_
 refine Zs (s.bool 6 rfl) H0 (fun H0=>?_) (fun H0=>?_)
 refine U4 [50,60,70] (L:=[(1,_),(3,_),(6,_),(8,_)]) (s.pi [0,1,3,4] rfl) b Za
  (AM Zbd 15 rfl<|Am 5 rfl<|U2 [15] (Zv Zfd (off:=0) (by kernel_rfl) rfl rfl U0)<|AP U9 0 rfl<|U2 [0] (Z8z rfl rfl U0)<|U2 [40,25] (Z9 Zbd rfl rfl U1 U0)<|Aa 40 rfl<|U2 [20,35] (Z9 Zcf rfl rfl U1 U0)<|U3) fun a g s b=>?_
 refine wp_ret<|Z5 ?_
 refine Zp ?_
 obtain rfl:=Oi H0
 obtain⟨u0,hu0,hq0⟩:=Zbi (P:=Zb0k) Zbd (s.at 0 rfl)
 obtain⟨u2,hu2,hq2⟩:=Zbi (P:=Zb0k) Zcf (s.at 2 rfl)
 exact Zk9 rfl s b hu0 (Zf (s:=7)) hu2 (Zft hq0 (s.at 1 rfl) hq2)
 refine U4 [5,15,25,35,45,10] (L:=[(1,_),(3,_),(5,_),(6,_),(8,_),(75,_)]) (s.pi [0,1,2,3,4,5] rfl) b Za
  (U2 [55] (Zb0 rfl rfl U0 U6)<|Aa 0 rfl<|U3) fun a g s b=>?_
 refine Zs (s.bool 5 rfl) H0 (fun H0=>?_) (fun H0=>?_)
 obtain⟨r26,h27,H0⟩:=Zd H0
 refine U4 [50,60,70] (L:=[(1,_),(3,_),(6,_),(8,_)]) (s.pi [0,1,3,4] rfl) b Za
  (AM Zbd 15 rfl<|Am 5 rfl<|AM Zbd 15 rfl<|U2 [0] (Zt Z3d (Zkn _ h27) rfl rfl (.cons U0 .nil))<|U2 [0] (Z85 rfl rfl U0)<|U2 [40,25] (Z9 Zbd rfl rfl U1 U0)<|Aa 40 rfl<|U2 [20,35] (Z9 Zcf rfl rfl U1 U0)<|U3) fun a g s b=>?_
 refine wp_ret<|Z5 ?_
 refine Zp ?_
 obtain rfl:=Oi H0
 obtain⟨u0,hu0,hq0⟩:=Zbi (P:=Zb0k) Zbd (s.at 0 rfl)
 obtain⟨u2,hu2,hq2⟩:=Zbi (P:=Zb0k) Zcf (s.at 2 rfl)
 exact Zk9 rfl s b hu0 (Zf (s:=7)) hu2 (Zft hq0 (s.at 1 rfl) hq2)
 refine wp_skip<|Zbb ?_
 refine Zl ?_
 obtain⟨r28,h29,H0⟩:=Zd H0
 refine U4 [5,35,45,80,90] (L:=[(1,_),(3,_),(5,_),(6,_),(8,_)]) (s.pi [0,1,2,3,4] rfl) b Za
  (AM Zbd 15 rfl<|Al Zgb 25 rfl<|U2 [10,0] (Zt Zbo7 (Z07 _ _ h29) rfl rfl (.cons U0 (.cons U1 .nil)))<|Am 0 rfl<|U2 [0] (Z7 rfl rfl U0 rfl)<|U2 [10] (Z7 rfl rfl U0 rfl)<|U2 [] (Ziv 11 rfl rfl)<|U2 [] (Zlz 12 rfl rfl)<|U2 [30,10] (Zci Zbd rfl rfl U1 U0)<|U2 [30,10] (Zci Zcf rfl rfl U1 U0)<|U3) fun a g s b=>?_
 refine U4 [30,40,50] s b Za
  (Al Zbd 35 rfl<|Am 5 rfl<|Al Zcf 45 rfl<|U2 [20,15] (Z9 Zbd rfl rfl U1 U0)<|Aa 20 rfl<|U2 [20,25] (Z9 Zcf rfl rfl U1 U0)<|U3) fun a g s b=>?_
 refine wp_ret ?_
 obtain rfl:=Oi H0
 obtain⟨u0,hu0,hq0⟩:=Zbi (P:=Zb0k) Zbd (s.at 0 rfl)
 obtain⟨u2,hu2,hq2⟩:=Zbi (P:=Zb0k) Zcf (s.at 2 rfl)
 exact Zk9 rfl s b hu0 (Zf (s:=7)) hu2 (Zft hq0 (s.at 1 rfl) hq2)
 refine Zs (s.bool 6 rfl) H0 (fun H0=>?_) (fun H0=>?_)
 refine U5 [5,15,25,35,45,0] (L:=[(1,_),(3,_),(5,_),(6,_),(8,_)]) (s.pi [0,1,2,3,4] rfl) b Za
  (U2 [] (Zc rfl rfl U6)<|U3) fun a g s b=>?_
 exact⟨(5:Int),g,rfl,(s.pi [0,1,2,3,4,5] rfl),b,H0⟩
 exact wp_skip<|⟨j14,g,rfl,(s.pi [0,1,2,3,4,5] rfl),b,H0⟩
 refine Zs (s.bool 6 rfl) H0 (fun H0=>?_) (fun H0=>?_)
 refine U5 [5,15,25,35,45,0] (L:=[(1,_),(3,_),(5,_),(6,_),(8,_)]) (s.pi [0,1,2,3,4] rfl) b Za
  (U2 [] (Zc rfl rfl U6)<|U3) fun a g s b=>?_
 exact⟨(6:Int),g,rfl,(s.pi [0,1,2,3,4,5] rfl),b,H0⟩
 exact wp_skip<|⟨j12,g,rfl,(s.pi [0,1,2,3,4,5] rfl),b,H0⟩
 refine Zs (s.bool 6 rfl) H0 (fun H0=>?_) (fun H0=>?_)
 refine U5 [5,15,25,35,45,0] (L:=[(1,_),(3,_),(5,_),(6,_),(8,_)]) (s.pi [0,1,2,3,4] rfl) b Za
  (U2 [] (Zc rfl rfl U6)<|U3) fun a g s b=>?_
 exact⟨(7:Int),g,rfl,(s.pi [0,1,2,3,4,5] rfl),b,H0⟩
 exact wp_skip<|⟨j10,g,rfl,(s.pi [0,1,2,3,4,5] rfl),b,H0⟩
 refine Zs (s.bool 6 rfl) H0 (fun H0=>?_) (fun H0=>?_)
 obtain⟨r8,h9,H0⟩:=Zd H0
 refine U5 [5,15,25,35,45,20] (L:=[(1,_),(3,_),(5,_),(6,_),(8,_)]) (s.pi [0,1,2,3,4] rfl) b Za
  (AM Zbd 15 rfl<|U2 [0] (Zt Zbgf (Zoo _ h9) rfl rfl (.cons U0 .nil))<|Aa 0 rfl<|U3) fun a g s b=>?_
 exact⟨r8,g,rfl,(s.pi [0,1,2,3,4,5] rfl),b,H0⟩
 exact wp_skip<|⟨r5,g,rfl,(s.pi [0,1,2,3,4,5] rfl),b,H0⟩
 refine Zs (s.bool 5 rfl) H0 (fun H0=>?_) (fun H0=>?_)
 refine U5 [5,10,25,35,45] (L:=[(1,_),(3,_),(5,_),(6,_),(8,_)]) (s.pi [0,1,2,3,4] rfl) b Za
  (U2 [] (Zqf rfl rfl )<|U2 [0,15] (Z9 Zbd rfl rfl U1 U0)<|U3) fun a g s b=>?_
 exact⟨({Kind:=(0:Int),Num:=(0:Int),Low:=(0:Int),High:=(0:Int),Real:=(0:Nat),Cap:=(0:Int),Text:=ByteArray.empty,List:=([]:List Zn)}:Zb),g,rfl,(s.pi [0,1,2,3,4] rfl),b,H0⟩
 exact wp_skip<|⟨a0,g,rfl,(s.pi [0,1,2,3,4] rfl),b,H0⟩
theorem Zup (a0:Zk) (a1:ByteArray) {r:Zk×Bool} (H0:Zim a0 a1=some r):FnOk Zb0k 72 [(Zbe.pd a0),(pStr a1)] (pTup [(Zbe.pd r.1),(Zbo r.2)]):=by
 unfold Zim at H0
 refine Zb9 (N:=43) Tryz.func72 rfl rfl (Qe rfl) rfl rfl (fun a g0 s b=>?_)
 refine U4 [15,0,10] s b Za
  (U2 [5] (Zbt rfl rfl U0)<|U2 [] (Zw0 4 rfl rfl)<|U2 [] (Zc rfl rfl c_b)<|U3) fun a g s b=>?_
 obtain⟨r1,h2,H0⟩:=Zd H0
 refine U4 [5,15,25,30] s b Za
  (Al Zdd 15 rfl<|Am 5 rfl<|U2 [10,0] (Zt Zbbg (Zk8 _ _ h2) rfl rfl (.cons U0 (.cons U1 .nil)))<|Aa 0 rfl<|U3) fun a g s b=>?_
 refine wp_seq ?_
 obtain⟨e3,h4,H0⟩:=Zd H0
 refine U4 [15,25,35,140] s b Za
  (Am 35 rfl<|Af Zin 15 rfl<|Al Zmp 0 rfl<|U2 [0] (Zbv Zb0r rfl rfl U0)<|U2 [30,0] (Zkp rfl rfl U0 U1)<|Am 0 rfl<|Gf [0,15] rfl (fun h=>Zq Zin rfl rfl U0)<|Gf [10,0] rfl (fun h=>Z2 Zmp rfl rfl (V1 h U0))<|Gf [20,35] rfl (fun h=>Zx rfl rfl U0)<|Gf [30,10,0] rfl (fun h=>Zbn Zb0r Zqu rfl rfl (V1 h U0) (V1 h U1) (Zcb h4 h))<|Gf [40,0] rfl (fun h=>Zq Zug rfl rfl (V1 h U0))<|Gf [50,0] rfl (fun h=>Z2 V0 rfl rfl (V1 h U0))<|Gf [60,5] rfl (fun h=>Zx rfl rfl U0)<|Gf [70,10,0] rfl (fun h=>Zue rfl rfl (V1 h U0) (V1 h U1))<|U2 [80,0] (Zb3 rfl rfl U0 (fun hz=>(V1 (bNF hz) U1)))<|U3) fun a g s b=>?_
 refine Zs (s.bool 3 rfl) H0 (fun H0=>?_) (fun H0=>?_)
 refine U4 [10,20] (L:=[(2,_),(4,_)]) (s.pi [0,1] rfl) b Za
  (Al Zdd 5 rfl<|U2 [0,15] (Z9 Zdd rfl rfl U1 U0)<|U2 [] (Zc rfl rfl c_b)<|U3) fun a g s b=>?_
 refine wp_ret<|Zp ?_
 obtain rfl:=Oi H0
 obtain⟨u0,hu0,hq0⟩:=Zbi (P:=Zb0k) Zdd (s.at 0 rfl)
 exact Zdq rfl s b hu0 (Zf (s:=5)) (Zcr hq0 (s.at 1 rfl))
 refine wp_skip<|Zl ?_
 obtain⟨c6,h7,H0⟩:=Zd H0;obtain⟨h8,H0⟩:=Zdr H0
 refine U4 [5,15,25,60] (L:=[(2,_),(4,_),(6,_)]) (s.pi [0,1,2] rfl) b Za
  (U2 [] (Zka 27 Zvk (xs:=[]) .nil (by decide) rfl rfl)<|Af Zin 5 rfl<|Al Zmp 0 rfl<|Am 25 rfl<|U2 [10,0] (Zz3 Zb0r Zqu rfl rfl U0 U1 h7)<|U2 [40,0] (Zdg Zvk rfl rfl U0 U1 h8)<|Aa 0 rfl<|U3) fun a g s b=>?_
 obtain⟨c9,h10,H0⟩:=Zd H0;obtain⟨h11,H0⟩:=Zdr H0
 refine U4 [100,110] s b Za
  (Am 35 rfl<|Af Zin 5 rfl<|Al Zmp 0 rfl<|Am 25 rfl<|U2 [0] (Zbw rfl rfl U0 U6 rfl)<|U2 [20,0] (Z4v Zb0r Zqu rfl rfl U0 U1 h10)<|U2 [50,0] (Zdg Zvk rfl rfl U0 U1 h11)<|Af Zwb 5 rfl<|Al U9 0 rfl<|U2 [20,0] (Z52 rfl rfl (Opd.imp U0 (fun _ _ h=>Zdt h)) U1)<|U2 [0,15] (Z9 Zdd rfl rfl U1 U0)<|U2 [] (Zc rfl rfl c_b)<|U3) fun a g s b=>?_
 refine wp_ret ?_
 obtain rfl:=Oi H0
 obtain⟨u0,hu0,hq0⟩:=Zbi (P:=Zb0k) Zdd (s.at 0 rfl)
 exact Zdq rfl s b hu0 (Zf (s:=5)) (Zcr hq0 (s.at 1 rfl))
theorem Zum (a0:Zk) (a1:ByteArray) (a2:Zb) {r:Zk×Int} (H0:Zhi a0 a1 a2=some r):FnOk Zb0k 73 [(Zbe.pd a0),(pStr a1),(Zg.pd a2)] (pTup [(Zbe.pd r.1),(pInt .i64 r.2)]):=by
 unfold Zhi at H0
 refine Zb9 (N:=80) Tryz.func73 rfl rfl (Qe rfl) rfl rfl (fun a g0 s b=>?_)
 refine U4 [15,0,10,20] s b Za
  (U2 [5] (Zbt rfl rfl U0)<|U2 [25] (Zbt rfl rfl U0)<|U2 [] (Zw0 6 rfl rfl)<|U2 [] (Zc rfl rfl U6)<|U3) fun a g s b=>?_
 refine wp_seq<|U4 [5,15,25,35,70] s b Za
  (Am 5 rfl<|U2 [0] (Zg4 Zb0p rfl rfl U0)<|U2 [0] (Zcj rfl rfl U0 U6)<|Am 0 rfl<|Gf [0,5] rfl (fun h=>Zx rfl rfl U0)<|Gf [10,0] rfl (fun h=>Zg4 Zb0p rfl rfl (V1 h U0))<|Gf [20,0] rfl (fun h=>Zcn rfl rfl (V1 h U0) U6)<|U2 [30,0] (Zb3 rfl rfl U0 (fun hz=>(V1 (bNF hz) U1)))<|U3) fun a g s b=>?_
 refine Zs (s.bool 4 rfl) H0 (fun H0=>?_) (fun H0=>?_)
 refine U4 [10,20] (L:=[(3,_),(6,_)]) (s.pi [1,3] rfl) b Za
  (Al Zdd 5 rfl<|U2 [0,15] (Z9 Zdd rfl rfl U1 U0)<|U2 [] (Zc rfl rfl U6)<|U3) fun a g s b=>?_
 refine wp_ret<|Zp ?_
 obtain rfl:=Oi H0
 obtain⟨u0,hu0,hq0⟩:=Zbi (P:=Zb0k) Zdd (s.at 0 rfl)
 exact Zdq rfl s b hu0 (Zf (s:=7)) (Zcr hq0 (s.at 1 rfl))
 refine wp_skip<|Zl ?_
 obtain⟨r2,h3,H0⟩:=Zd H0
 refine U4 [5,15,25,35,20] (L:=[(1,_),(3,_),(5,_),(6,_)]) (s.pi [0,1,2,3] rfl) b Za
  (Al Zbd 25 rfl<|U2 [0] (Zt Zbgf (Zoo _ h3) rfl rfl (.cons U0 .nil))<|Aa 0 rfl<|U3) fun a g s b=>?_
 refine wp_seq<|U4 [5,15,25,35,45,10] s b Za
  (Am 45 rfl<|U2 [0] (Zcv rfl rfl U0 U6)<|U3) fun a g s b=>?_
 refine Zs (s.bool 5 rfl) H0 (fun H0=>?_) (fun H0=>?_)
 refine U4 [20,30] (L:=[(3,_),(6,_),(8,_)]) (s.pi [1,3,4] rfl) b Za
  (Al Zdd 5 rfl<|Am 25 rfl<|U2 [10,15] (Z9 Zdd rfl rfl U1 U0)<|Aa 10 rfl<|U3) fun a g s b=>?_
 refine wp_ret<|Zp ?_
 obtain rfl:=Oi H0
 obtain⟨u0,hu0,hq0⟩:=Zbi (P:=Zb0k) Zdd (s.at 0 rfl)
 exact Zdq rfl s b hu0 (Zf (s:=7)) (Zcr hq0 (s.at 1 rfl))
 refine wp_skip<|Zl ?_
 obtain⟨r5,h6,H0⟩:=Zd H0
 refine U4 [5,15,25,35,30] (L:=[(1,_),(3,_),(5,_),(6,_)]) (s.pi [0,1,2,3] rfl) b Za
  (Al Zdd 15 rfl<|Am 5 rfl<|U2 [10,0] (Zt Zbbg (Zk8 _ _ h6) rfl rfl (.cons U0 (.cons U1 .nil)))<|Aa 0 rfl<|U3) fun a g s b=>?_
 obtain⟨e7,h8,H0⟩:=Zd H0
 refine U4 [5,15,25,35,45,150] s b Za
  (Am 45 rfl<|Af Zin 15 rfl<|Al Zmp 0 rfl<|U2 [0] (Zbv Zb0r rfl rfl U0)<|U2 [30,0] (Zcj rfl rfl U0 U1)<|Am 0 rfl<|Gt [0,15] rfl (fun h=>Zq Zin rfl rfl U0)<|Gt [10,0] rfl (fun h=>Z2 Zmp rfl rfl (V1 h U0))<|Gt [20,45] rfl (fun h=>Zx rfl rfl U0)<|Gt [30,10,0] rfl (fun h=>Zbn Zb0r Zqu rfl rfl (V1 h U0) (V1 h U1) (Zcb h8 h))<|Gt [40,0] rfl (fun h=>Zq Zug rfl rfl (V1 h U0))<|Gt [50,0] rfl (fun h=>Z2 V0 rfl rfl (V1 h U0))<|Gt [60,5] rfl (fun h=>Zx rfl rfl U0)<|Gt [70,10,0] rfl (fun h=>Zpk rfl rfl (V1 h U0) (V1 h U1))<|U2 [80,0] (Zbs rfl rfl U0 (fun hz=>(V1 hz U1)))<|Aa 0 rfl<|U3) fun a g s b=>?_
 refine wp_seq<|U4 [5,15,25,35,45,55,90] s b Za
  (Am 55 rfl<|U2 [0] (Zct rfl rfl U0)<|Am 0 rfl<|Gt [0,15] rfl (fun h=>Zq Zin rfl rfl U0)<|Gt [10,0] rfl (fun h=>Z2 Zmp rfl rfl (V1 h U0))<|Gt [20,0] rfl (fun h=>Zbv Zb0r rfl rfl (V1 h U0))<|Gt [30,15] rfl (fun h=>Zq Zwb rfl rfl U0)<|Gt [40,0] rfl (fun h=>Z2 U9 rfl rfl (V1 h U0))<|Gt [50,20,0] rfl (fun h=>Zkp rfl rfl (V1 h U0) (V1 h U1))<|U2 [60,0] (Zbs rfl rfl U0 (fun hz=>(V1 hz U1)))<|U3) fun a g s b=>?_
 refine Zs (s.bool 6 rfl) H0 (fun H0=>?_) (fun H0=>?_)
 refine U4 [10,20] (L:=[(3,_),(6,_)]) (s.pi [1,3] rfl) b Za
  (Al Zdd 5 rfl<|U2 [0,15] (Z9 Zdd rfl rfl U1 U0)<|U2 [] (Zc rfl rfl U6)<|U3) fun a g s b=>?_
 refine wp_ret<|Zp ?_
 obtain rfl:=Oi H0
 obtain⟨u0,hu0,hq0⟩:=Zbi (P:=Zb0k) Zdd (s.at 0 rfl)
 exact Zdq rfl s b hu0 (Zf (s:=7)) (Zcr hq0 (s.at 1 rfl))
 refine wp_skip<|Zl ?_
 obtain⟨c10,h11,H0⟩:=Zd H0;obtain⟨h12,H0⟩:=Zdr H0
 refine U4 [5,15,25,35,45,55,60] (L:=[(1,_),(3,_),(5,_),(6,_),(9,_),(10,_)]) (s.pi [0,1,2,3,4,5] rfl) b Za
  (U2 [] (Zka 56 Zvk (xs:=[]) .nil (by decide) rfl rfl)<|Af Zin 15 rfl<|Al Zmp 0 rfl<|Am 45 rfl<|U2 [10,0] (Zz3 Zb0r Zqu rfl rfl U0 U1 h11)<|U2 [40,0] (Zdg Zvk rfl rfl U0 U1 h12)<|Aa 0 rfl<|U3) fun a g s b=>?_
 obtain⟨h13,H0⟩:=Zdr H0
 refine U4 [15,35,45,55,60] s b Za
  (Am 65 rfl<|Am 5 rfl<|Al Zbd 25 rfl<|U2 [10,0] (Zbf7 rfl rfl U0 U1)<|U2 [0] (Zgm Zvk (xs:=[.tmp 65]) (.cons U0 .nil) (by decide) rfl rfl)<|U2 [40,0] (Zdg Zvk rfl rfl U0 U1 h13)<|Aa 0 rfl<|U3) fun a g s b=>?_
 refine wp_seq<|U4 [5,15,25,45,0] s b Za
  (Am 35 rfl<|U3) fun a g s b=>?_
 refine Zbq (fun a w=>∃(j15:Int) (g:G),Jn 80 [(3,(Zbe.ptr a0)),(6,(pBox Zbe 6 (default:Zk))),(9,(pInt .i64 j15)),(11,(pRow Zdf 102 56 ((([]:List Zb2)++c10)++([({Key:=a1,Rec:=a2}:Zb2)]:List Zb2))))] a w g0 g (Zgc a0 a1 a2 c10 j15=some r)) ?_ ?_
 rintro a w ⟨j15,g,rfl,s,b,H0⟩
 unfold Zgc at H0
 refine Zl ?_
 obtain⟨c16,h17,H0⟩:=Zd H0;obtain⟨h18,H0⟩:=Zdr H0
 refine U4 [90,100] s b Za
  (Am 35 rfl<|Af Zin 5 rfl<|Al Zmp 0 rfl<|Am 25 rfl<|U2 [10,0] (Z4v Zb0r Zqu rfl rfl U0 U1 h17)<|U2 [40,0] (Zdg Zvk rfl rfl U0 U1 h18)<|Af Zwb 5 rfl<|Al U9 0 rfl<|U2 [20,0] (Z52 rfl rfl (Opd.imp U0 (fun _ _ h=>Zdt h)) U1)<|U2 [0,15] (Z9 Zdd rfl rfl U1 U0)<|U2 [] (Zc rfl rfl U6)<|U3) fun a g s b=>?_
 refine wp_ret ?_
 obtain rfl:=Oi H0
 obtain⟨u0,hu0,hq0⟩:=Zbi (P:=Zb0k) Zdd (s.at 0 rfl)
 exact Zdq rfl s b hu0 (Zf (s:=7)) (Zcr hq0 (s.at 1 rfl))
 refine Zs (s.bool 4 rfl) H0 (fun H0=>?_) (fun H0=>?_)
 refine U5 [5,15,20,35] (L:=[(3,_),(6,_),(9,_),(11,_)]) (s.pi [0,1,2,3] rfl) b Za
  (Am 25 rfl<|U2 [0] (Zbw rfl rfl U0 U6 rfl)<|Aa 0 rfl<|U3) fun a g s b=>?_
 exact⟨(Zb0n.wrap (r5+(1:Int))),g,rfl,(s.pi [0,1,2,3] rfl),b,H0⟩
 exact wp_skip<|⟨r5,g,rfl,(s.pi [0,1,2,3] rfl),b,H0⟩
theorem Zy9 (a0:Zk) (a1:Zw) {r:Zk×Zm} (H0:Zmk a0 a1=some r):FnOk Zb0k 48 [(Zbe.pd a0),(Z6.pd a1)] (pTup [(Zbe.pd r.1),(Z3.pd r.2)]):=by
 unfold Zmk at H0
 refine Zb9 (N:=65) Tryz.func48 rfl rfl (Qe rfl) rfl rfl (fun a g0 s b=>?_)
 refine U4 [0,10,20,30] s b Za
  (U2 (outs:=[(2,(pBox Zbe 2 a0))]) (S:=[3]) [5] (Zln rfl rfl U0)<|U2 [15] (Zbt rfl rfl U0)<|U2 [] (Zw0 4 rfl rfl)<|U2 [] (Zlz 5 rfl rfl)<|U3) fun a g s b=>?_
 obtain⟨r1,h2,H0⟩:=Zd H0
 refine U4 [5,15,25,35,80,90] s b Za
  (AM Zdd 5 rfl<|Af Zjy 15 rfl<|Al V0 0 rfl<|U2 [20,0] (Zt Zbso (Zul _ _ h2) rfl rfl (.cons U0 (.cons U1 .nil)))<|Am 0 rfl<|U2 [0] (Z7 rfl rfl U0 rfl)<|U2 [10] (Z7 rfl rfl U0 rfl)<|U2 [] (Ziv 6 rfl rfl)<|U2 [20,0] (Zci Zbd rfl rfl U1 U0)<|Aa 20 rfl<|U3) fun a g s b=>?_
 obtain⟨r3,h4,H0⟩:=Zd H0
 refine U4 [5,15,25,35,100,110,120] s b Za
  (Al Zbd 45 rfl<|Am 55 rfl<|Al Zgb 15 rfl<|U2 [20,10,0] (Zt Zbts (Zxt _ _ _ h4) rfl rfl (.cons U0 (.cons U1 (.cons U7 .nil))))<|Am 0 rfl<|U2 [0] (Z7 rfl rfl U0 rfl)<|U2 [10] (Z7 rfl rfl U0 rfl)<|U2 [20] (Z7 rfl rfl U0 rfl)<|U2 [] (Ziv 8 rfl rfl)<|U2 [] (Zlz 10 rfl rfl)<|U2 [40,10] (Zci Zbd rfl rfl U1 U0)<|Aa 40 rfl<|U2 [40,20] (Zci Zcf rfl rfl U1 U0)<|U3) fun a g s b=>?_
 refine wp_seq<|U4 [5,15,25,35,45,55,65,20] s b Za
  (Af Zjs 65 rfl<|Al Zok 0 rfl<|U2 [0] (Zcv rfl rfl U0 U6)<|U3) fun a g s b=>?_
 refine Zs (s.bool 7 rfl) H0 (fun H0=>?_) (fun H0=>?_)
 refine U4 [20,30] (L:=[(2,_),(4,_),(5,_),(10,_)]) (s.pi [0,2,3,6] rfl) b Za
  (AM Zdd 5 rfl<|Al Zcf 35 rfl<|U2 [10,15] (Z9 Zdd rfl rfl U1 U0)<|U2 [10,25] (Z9 Zcf rfl rfl U1 U0)<|U3) fun a g s b=>?_
 refine wp_ret<|Zp ?_
 obtain rfl:=Oi H0
 obtain⟨u0,hu0,hq0⟩:=Zbi (P:=Zb0k) Zdd (s.at 0 rfl)
 obtain⟨u1,hu1,hq1⟩:=Zbi (P:=Zb0k) Zcf (s.at 1 rfl)
 exact Zdq rfl s b hu0 hu1 (Zcr hq0 hq1)
 refine wp_skip<|Zl ?_
 refine wp_seq<|U4 [5,15,25,35,45,55,65,100] (L:=[(2,_),(3,_),(4,_),(5,_),(8,_),(9,_),(10,_)]) (s.pi [0,1,2,3,4,5,6] rfl) b Za
  (Af Zdh 15 rfl<|Al U9 0 rfl<|U2 [0] (Zb0 rfl rfl U0 U6)<|Am 0 rfl<|Gt [0,5] rfl (fun h=>Zv Zin (off:=0) (by kernel_rfl) rfl rfl U0)<|Gt [10,0] rfl (fun h=>Zjn Zmp rfl rfl (V1 h U0))<|Gt [20,0] rfl (fun h=>Zbv Zb0r rfl rfl (V1 h U0))<|Gt [30,5] rfl (fun h=>Zv Zwb (off:=1) (by kernel_rfl) rfl rfl U0)<|Gt [40,0] rfl (fun h=>Zjn U9 rfl rfl (V1 h U0))<|Gt [50,20,0] rfl (fun h=>Zkp rfl rfl (V1 h U0) (V1 h U1))<|U2 [60,0] (Zbs rfl rfl U0 (fun hz=>(V1 hz U1)))<|U3) fun a g s b=>?_
 refine Zs (s.bool 7 rfl) H0 (fun H0=>?_) (fun H0=>?_)
 refine U4 [20,30] (L:=[(2,_),(4,_),(5,_)]) (s.pi [0,2,3] rfl) b Za
  (AM Zdd 5 rfl<|U2 [] (Zua rfl rfl U6)<|U2 [10,15] (Z9 Zdd rfl rfl U1 U0)<|U2 [10,25] (Z9 Zcf rfl rfl U1 U0)<|U3) fun a g s b=>?_
 refine wp_ret<|Zp ?_
 obtain rfl:=Oi H0
 obtain⟨u0,hu0,hq0⟩:=Zbi (P:=Zb0k) Zdd (s.at 0 rfl)
 obtain⟨u1,hu1,hq1⟩:=Zbi (P:=Zb0k) Zcf (s.at 1 rfl)
 exact Zdq rfl s b hu0 hu1 (Zcr hq0 hq1)
 refine wp_skip<|Zl ?_
 refine wp_seq<|U4 [5,15,25,35,45,65,10] (L:=[(2,_),(3,_),(4,_),(5,_),(8,_),(9,_),(10,_)]) (s.pi [0,1,2,3,4,5,6] rfl) b Za
  (Am 55 rfl<|U2 [0] (Zct rfl rfl U0)<|U3) fun a g s b=>?_
 refine Zs (s.bool 6 rfl) H0 (fun H0=>?_) (fun H0=>?_)
 obtain⟨r8,h9,H0⟩:=Zd H0
 refine U4 [70,25,35,45] (L:=[(2,_),(3,_),(4,_),(5,_),(10,_)]) (s.pi [0,1,2,3,5] rfl) b Za
  (AM Zdd 5 rfl<|Af Zjy 15 rfl<|Al V0 0 rfl<|U2 [20,0] (Zt Zbrn (Zup _ _ h9) rfl rfl (.cons U0 (.cons U1 .nil)))<|Am 0 rfl<|U2 [0] (Z7 rfl rfl U0 rfl)<|U2 [10] (Z7 rfl rfl U0 rfl)<|U2 [10,5] (Z9 Zdd rfl rfl U1 U0)<|U3) fun a g s b=>?_
 refine U4 [20,30] s b Za
  (AM Zdd 5 rfl<|Al Zcf 35 rfl<|U2 [10,15] (Z9 Zdd rfl rfl U1 U0)<|U2 [10,25] (Z9 Zcf rfl rfl U1 U0)<|U3) fun a g s b=>?_
 refine wp_ret<|Zp ?_
 obtain rfl:=Oi H0
 obtain⟨u0,hu0,hq0⟩:=Zbi (P:=Zb0k) Zdd (s.at 0 rfl)
 obtain⟨u1,hu1,hq1⟩:=Zbi (P:=Zb0k) Zcf (s.at 1 rfl)
 exact Zdq rfl s b hu0 hu1 (Zcr hq0 hq1)
 refine wp_skip<|Zl ?_
 obtain⟨r10,h11,H0⟩:=Zd H0
 refine U4 [80,25,35,55] (L:=[(2,_),(3,_),(4,_),(5,_),(8,_),(10,_)]) (s.pi [0,1,2,3,4,5] rfl) b Za
  (AM Zdd 5 rfl<|Af Zjy 15 rfl<|Al V0 0 rfl<|Al Zbd 45 rfl<|U2 [30,10,0] (Zt Zbtt (Zum _ _ _ h11) rfl rfl (.cons U0 (.cons U1 (.cons U7 .nil))))<|Am 0 rfl<|U2 [0] (Z7 rfl rfl U0 rfl)<|U2 [10] (Z7 rfl rfl U0 rfl)<|U2 [10,5] (Z9 Zdd rfl rfl U1 U0)<|U3) fun a g s b=>?_
 refine U4 [20,30] s b Za
  (AM Zdd 5 rfl<|Al Zcf 35 rfl<|U2 [10,15] (Z9 Zdd rfl rfl U1 U0)<|U2 [10,25] (Z9 Zcf rfl rfl U1 U0)<|U3) fun a g s b=>?_
 refine wp_ret ?_
 obtain rfl:=Oi H0
 obtain⟨u0,hu0,hq0⟩:=Zbi (P:=Zb0k) Zdd (s.at 0 rfl)
 obtain⟨u1,hu1,hq1⟩:=Zbi (P:=Zb0k) Zcf (s.at 1 rfl)
 exact Zdq rfl s b hu0 hu1 (Zcr hq0 hq1)
theorem Zy1 (a0:Zk) (a1:Zbj) {r:Zk×Zbl} (H0:Zme a0 a1=some r):FnOk Zb0k 25 [(Zbe.pd a0),(Zb1.pd a1)] (pTup [(Zbe.pd r.1),(Zdl.pd r.2)]):=by
 unfold Zme at H0
 refine Zb9 (N:=67) Tryz.func25 rfl rfl (Qe rfl) rfl rfl (fun a g0 s b=>?_)
 refine U4 [0,10,20,30] s b Za
  (U2 [5] (Zbt rfl rfl U0)<|U2 [15] (Zbt rfl rfl U0)<|U2 [] (Zw0 4 rfl rfl)<|U2 [] (Zbff 5 rfl rfl)<|U3) fun a g s b=>?_
 obtain⟨r1,h2,H0⟩:=Zd H0
 refine U4 [5,15,25,35,50,60] s b Za
  (Al Zl8 15 rfl<|U2 [0] (Zt Zbr3 (Zw7 _ h2) rfl rfl (.cons U0 .nil))<|Am 0 rfl<|U2 [0] (Z7 rfl rfl U0 rfl)<|U2 [10] (Z7 rfl rfl U0 rfl)<|Aa 10 rfl<|Aa 10 rfl<|U3) fun a g s b=>?_
 refine wp_seq<|U4 [5,15,25,35,45,55,10] s b Za
  (Am 45 rfl<|U2 [0] (Zcv rfl rfl U0 U6)<|U3) fun a g s b=>?_
 refine Zs (s.bool 6 rfl) H0 (fun H0=>?_) (fun H0=>?_)
 ·refine U4 [40,50] (L:=[(2,_),(4,_),(5,_),(6,_),(7,_)]) (s.pi [0,2,3,4,5] rfl) b Za
   (Al Zdd 5 rfl<|Am 35 rfl<|Am 45 rfl<|U2 [10,0] (Zvx rfl rfl U0 U1)<|U2 [30,15] (Z9 Zdd rfl rfl U1 U0)<|U2 [10,25] (Z9 Zl9 rfl rfl U1 U0)<|U3) fun a g s b=>?_
  refine wp_ret<|Zp ?_
  obtain rfl:=Oi H0
  obtain⟨u0,hu0,hq0⟩:=Zbi (P:=Zb0k) Zdd (s.at 0 rfl)
  obtain⟨u1,hu1,hq1⟩:=Zbi (P:=Zb0k) Zl9 (s.at 1 rfl)
  exact Zdq rfl s b hu0 hu1 (Zcr hq0 hq1)
 ·refine wp_skip<|Zl ?_
  refine U4 [5,15,25,35,30,40] (L:=[(2,_),(3,_),(4,_),(5,_)]) (s.pi [0,1,2,3] rfl) b Za
   (Al Zdd 5 rfl<|U2 [] (Zka 24 Z3l (xs:=[]) .nil (by decide) rfl rfl)<|U2 [] (Zw0 8 rfl rfl)<|U2 [20,0] (Z9 Zdd rfl rfl U1 U0)<|Aa 20 rfl<|U3) fun a g s b=>?_
  refine wp_seq<|U4 [5,15,25,35,45,55,0] s b Za
   (U2 [] (Zc rfl rfl U6)<|U3) fun a g s b=>?_
  obtain⟨z22,hz1,H0⟩:=Zd H0
  refine Zbq (fun a w=>∃(y18:Zk) (y19:Zbl) (y20:Zk) (y21:List Zm) (g:G),Jn 67 [(4,(pBox Zbe 4 y18)),(5,(pBox Zdl 5 y19)),(8,(pBox Zbe 8 y20)),(9,(pRow Z3 126 24 y21))] a w g0 g ((.inr (y18,y19,y20,y21))=z22)) ?_ ?_
  ·rintro a w ⟨y18,y19,y20,y21,g,rfl,s,b,rfl⟩
   refine Zl<|U4 [30,40] s b Za
    (AM Zdd 25 rfl<|Am 35 rfl<|U2 [0] (Zbm2 rfl rfl (Opd.imp U0 (fun _ _ h=>Zdt h)))<|U2 [20,5] (Z9 Zdd rfl rfl U1 U0)<|U2 [10,15] (Z9 Zl9 rfl rfl U1 U0)<|U3) fun a g s b=>?_
   refine wp_ret ?_
   obtain rfl:=Oi H0
   obtain⟨u0,hu0,hq0⟩:=Zbi (P:=Zb0k) Zdd (s.at 0 rfl)
   obtain⟨u1,hu1,hq1⟩:=Zbi (P:=Zb0k) Zl9 (s.at 1 rfl)
   exact Zdq rfl s b hu0 hu1 (Zcr hq0 hq1)
  ·refine wp_block<|wp_loop_ghost (fun n a w=>∃(x4:Zk) (x5:Zbl) (x6:Zk) (x7:List Zm) (x8:Int) (g:G),Jn 67 [(2,(Zbe.ptr a0)),(3,(Zb1.ptr a1)),(4,(pBox Zbe 4 x4)),(5,(pBox Zdl 5 x5)),(8,(pBox Zbe 8 x6)),(9,(pRow Z3 126 24 x7)),(10,(pInt .i64 x8))] a w g0 g (Zfs a0 a1 n x4 x5 x6 x7 x8=some z22)) (Zb0q ((a1.Acts.length:Int)-(0:Int))+1) ⟨(default:Zk),(default:Zbl),a0,([]:List Zm),(0:Int),g,rfl,(s.pi [0,1,2,3,4,5,6] rfl),b,hz1⟩ (fun n a w hI=>?_)
   obtain⟨x4,x5,x6,x7,x8,g,rfl,s,b,H1⟩:=hI
   cases n with
   | zero=>exact absurd H1 (by simp[Zfs])
   | succ n =>
    rw[Zfs]at H1
    refine wp_seq<|U4 [5,15,25,35,45,55,65,40] s b Za
     (Am 65 rfl<|Af Zjh 15 rfl<|Al Zod 0 rfl<|U2 [0] (Zbv Zb0u rfl rfl U0)<|U2 [30,0] (Zcj rfl rfl U0 U1)<|U3) fun a g s b=>?_
    refine Zs (s.bool 7 rfl) H1 (fun H1=>?_) (fun H1=>?_)
    ·refine wp_skip<|Zl ?_
     refine wp_seq<|wp_block ?_
     refine U4 [5,15,25,35,45,55,65,20] (L:=[(2,_),(3,_),(4,_),(5,_),(8,_),(9,_),(10,_)]) (s.pi [0,1,2,3,4,5,6] rfl) b Za
      (U2 [] (Zt8 rfl rfl )<|U2 [] (Zlz 11 rfl rfl)<|U2 [10,0] (Z9 Zcf rfl rfl U1 U0)<|U3) fun a g s b=>?_
     obtain⟨e10,h11,H1⟩:=Zd H1;obtain⟨r12,h13,H1⟩:=Zd H1
     refine U4 [5,15,25,35,100,55,65,110] s b Za
      (AM Zdd 45 rfl<|Af Zjh 15 rfl<|Al Zod 0 rfl<|Am 65 rfl<|U2 [10,0] (Zbn Zb0u Zub rfl rfl U0 U1 h11)<|Al Zgb 0 rfl<|U2 [50,0] (Zt Zbte (Zy9 _ _ h13) rfl rfl (.cons U0 (.cons U1 .nil)))<|Am 0 rfl<|U2 [0] (Z7 rfl rfl U0 rfl)<|U2 [10] (Z7 rfl rfl U0 rfl)<|U2 [10,45] (Z9 Zdd rfl rfl U1 U0)<|U2 [10,75] (Z9 Zcf rfl rfl U1 U0)<|U3) fun a g s b=>?_
     refine wp_seq ?_
     obtain⟨e14,h15,H1⟩:=Zd H1
     refine U4 [5,15,25,35,45,55,65,75,100] s b Za
      (U2 [75] (Zv Zjs (off:=0) (by kernel_rfl) rfl rfl U0)<|AP Zok 0 rfl<|U2 [0] (Zcv rfl rfl U0 U6)<|Am 0 rfl<|Gt [0,15] rfl (fun h=>Zq Zjh rfl rfl U0)<|Gt [10,0] rfl (fun h=>Z2 Zod rfl rfl (V1 h U0))<|Gt [20,65] rfl (fun h=>Zx rfl rfl U0)<|Gt [30,10,0] rfl (fun h=>Zbn Zb0u Zub rfl rfl (V1 h U0) (V1 h U1) (Zcb h15 h))<|Gt [40,0] rfl (fun h=>Zq Zu8 rfl rfl (V1 h U0))<|Gt [50,0] rfl (fun h=>Z2 ty_4 rfl rfl (V1 h U0))<|U2 [60,0] (Zbs rfl rfl U0 (fun hz=>(V1 hz U1)))<|U3) fun a g s b=>?_
     refine Zs (s.bool 8 rfl) H1 (fun H1=>?_) (fun H1=>?_)
     ·refine U4 [60,70] (L:=[(2,_),(4,_),(5,_),(10,_),(11,_)]) (s.pi [0,2,3,6,7] rfl) b Za
       (Al Zdd 5 rfl<|U2 [45] (Zv Zjs (off:=0) (by kernel_rfl) rfl rfl U0)<|AP Zok 0 rfl<|Am 35 rfl<|U2 [0] (Zbw rfl rfl U0 U6 rfl)<|U2 [20,0] (Zvx rfl rfl U0 U1)<|U2 [50,15] (Z9 Zdd rfl rfl U1 U0)<|U2 [10,25] (Z9 Zl9 rfl rfl U1 U0)<|U3) fun a g s b=>?_
      refine wp_ret<|Zp ?_
      refine Z5<|Zp ?_
      refine Zp<|Z5 ?_
      refine Zp<|Zp ?_
      obtain rfl:=Oi H1
      obtain rfl:=Oi H0
      obtain⟨u0,hu0,hq0⟩:=Zbi (P:=Zb0k) Zdd (s.at 0 rfl)
      obtain⟨u1,hu1,hq1⟩:=Zbi (P:=Zb0k) Zl9 (s.at 1 rfl)
      exact Zdq rfl s b hu0 hu1 (Zcr hq0 hq1)
     ·refine wp_skip<|Zl ?_
      obtain⟨h17,H1⟩:=Zdr H1
      refine U5 [5,15,25,35,45,40,65] (L:=[(2,_),(3,_),(4,_),(5,_),(8,_),(9,_),(10,_),(11,_)]) (s.pi [0,1,2,3,4,5,6,7] rfl) b Za
       (Am 55 rfl<|AM Zcf 75 rfl<|U2 [0] (Zgm Z3l (xs:=[.tmp 61]) (.cons U0 .nil) (by decide) rfl rfl)<|U2 [20,0] (Zdg Z3l rfl rfl U0 U1 h17)<|Aa 0 rfl<|U3) fun a g s b=>?_
      refine Zbb<|Zl ?_
      refine U5 [5,15,25,35,45,55,20] s b Za
       (Am 65 rfl<|U2 [0] (Zbw rfl rfl U0 U6 rfl)<|Aa 0 rfl<|U3) fun a g s b=>?_
      exact⟨n,Zb0o _,x4,x5,r12.1,(x7++([r12.2]:List Zm)),(Zb0n.wrap (x8+(1:Int))),g,rfl,(s.pi [0,1,2,3,4,5,6] rfl),b,H1⟩
    ·refine wp_exit<|Zbx ?_
     refine Zbx<|Zcg ?_
     exact⟨x4,x5,x6,x7,g,rfl,(s.pi [2,3,4,5] rfl),b,Oi H1⟩
theorem Zzn (a0:Zk) (a1:List Zbj) {r:Zk×(List Zbl)} (H0:Ziw a0 a1=some r):FnOk Zb0k 14 [(Zbe.pd a0),(Zb1.sl.pd a1)] (pTup [(Zbe.pd r.1),(Zdl.sl.pd r.2)]):=by
 unfold Ziw at H0
 refine Zb9 (N:=32) Tryz.func14 rfl rfl (Qe rfl) rfl rfl (fun a g0 s b=>?_)
 refine U4 [15,0,10] s b Za
  (U2 (outs:=[(2,(pBox Zbe 2 a0))]) (S:=[3]) [5] (Zln rfl rfl U0)<|U2 [] (Zw0 4 rfl rfl)<|U2 (outs:=[(5,(Zdl.sl.pd ([]:List Zbl)))]) (S:=[]) [] (Zc rfl rfl (Opd.c (fun g=>Zdv g)))<|U3) fun a g s b=>?_
 refine U4 [5,15,25,10] s b Za
  (U2 [] (Zka 9 Z3i (xs:=[]) .nil (by decide) rfl rfl)<|Aa 0 rfl<|U3) fun a g s b=>?_
 refine wp_seq<|U4 [5,15,25,35,0] s b Za
  (U2 [] (Zc rfl rfl U6)<|U3) fun a g s b=>?_
 obtain⟨z12,hz1,H0⟩:=Zd H0
 refine Zbq (fun a w=>∃(y10:Zk) (y11:List Zbl) (g:G),Jn 32 [(2,(pBox Zbe 2 y10)),(4,(pBox Zbe 4 (default:Zk))),(6,(pRow Zdl 88 9 y11))] a w g0 g ((y10,y11)=z12)) ?_ ?_
 ·rintro a w ⟨y10,y11,g,rfl,s,b,rfl⟩
  refine Zl<|U4 [20,30] s b Za
   (AM Zdd 5 rfl<|Am 25 rfl<|U2 [10,15] (Z9 Zdd rfl rfl U1 U0)<|Aa 10 rfl<|U3) fun a g s b=>?_
  refine wp_ret ?_
  obtain rfl:=Oi H0
  obtain⟨u0,hu0,hq0⟩:=Zbi (P:=Zb0k) Zdd (s.at 0 rfl)
  exact Zdq rfl s b hu0 (Zf (s:=5)) (Zcr hq0 (Zdt (s.at 1 rfl)))
 ·refine wp_block<|wp_loop_ghost (fun n a w=>∃(x1:Zk) (x2:List Zbl) (x3:Int) (g:G),Jn 32 [(1,(Zb1.sl.pd a1)),(2,(pBox Zbe 2 x1)),(4,(pBox Zbe 4 (default:Zk))),(6,(pRow Zdl 88 9 x2)),(7,(pInt .i64 x3))] a w g0 g (Zgs a1 n x1 x2 x3=some z12)) (Zb0q ((a1.length:Int)-(0:Int))+1) ⟨a0,([]:List Zbl),(0:Int),g,rfl,(s.pi [0,1,2,3,4] rfl),b,hz1⟩ (fun n a w hI=>?_)
  obtain⟨x1,x2,x3,g,rfl,s,b,H1⟩:=hI
  cases n with
  | zero=>exact absurd H1 (by simp[Zgs])
  | succ n =>
   rw[Zgs]at H1
   refine wp_seq<|U4 [5,15,25,35,45,30] s b Za
    (Am 45 rfl<|Am 5 rfl<|U2 [0] (Zbv Zb0w rfl rfl U0)<|U2 [20,0] (Zcj rfl rfl U0 U1)<|U3) fun a g s b=>?_
   refine Zs (s.bool 5 rfl) H1 (fun H1=>?_) (fun H1=>?_)
   ·refine wp_skip<|Zl ?_
    refine wp_seq<|wp_block ?_
    refine U4 [5,15,25,35,45,20] (L:=[(1,_),(2,_),(4,_),(6,_),(7,_)]) (s.pi [0,1,2,3,4] rfl) b Za
     (U2 [] (Zbqx rfl rfl )<|U2 [] (Zbff 8 rfl rfl)<|U2 [10,0] (Z9 Zl9 rfl rfl U1 U0)<|U3) fun a g s b=>?_
    obtain⟨e5,h6,H1⟩:=Zd H1;obtain⟨r7,h8,H1⟩:=Zd H1
    refine U4 [5,90,25,35,45,100] s b Za
     (AM Zdd 15 rfl<|Am 5 rfl<|Am 45 rfl<|U2 [10,0] (Zbn Zb0w Z4n rfl rfl U0 U1 h6)<|Al Zl8 0 rfl<|U2 [40,0] (Zt Zbs9 (Zy1 _ _ h8) rfl rfl (.cons U0 (.cons U1 .nil)))<|Am 0 rfl<|U2 [0] (Z7 rfl rfl U0 rfl)<|U2 [10] (Z7 rfl rfl U0 rfl)<|U2 [10,15] (Z9 Zdd rfl rfl U1 U0)<|U2 [10,55] (Z9 Zl9 rfl rfl U1 U0)<|U3) fun a g s b=>?_
    obtain⟨h9,H1⟩:=Zdr H1
    refine U5 [5,15,25,40,45] s b Za
     (Am 35 rfl<|AM Zl9 55 rfl<|U2 [0] (Zgm Z3i (xs:=[.tmp 27]) (.cons U0 .nil) (by decide) rfl rfl)<|U2 [20,0] (Zdg Z3i rfl rfl U0 U1 h9)<|Aa 0 rfl<|U3) fun a g s b=>?_
    refine Zbb<|Zl ?_
    refine U5 [5,15,25,35,20] s b Za
     (Am 45 rfl<|U2 [0] (Zbw rfl rfl U0 U6 rfl)<|Aa 0 rfl<|U3) fun a g s b=>?_
    exact⟨n,Zb0o _,r7.1,(x2++([r7.2]:List Zbl)),(Zb0n.wrap (x3+(1:Int))),g,rfl,(s.pi [0,1,2,3,4] rfl),b,H1⟩
   ·refine wp_exit<|Zbx ?_
    refine Zbx<|Zcg ?_
    exact⟨x1,x2,g,rfl,(s.pi [1,2,3] rfl),b,Oi H1⟩
theorem Zyl (a0:Ze) (a1:List Int) {r:Ze} (H0:Zkr a0 a1=some r):FnMR Zb0k 15 Zc1 a0 r [((Kd.int .i64).sl.pd a1)] (pTup []):=by
 unfold Zkr at H0
 refine Zpl (N:=50) Tryz.func15 rfl rfl (Qe rfl) rfl rfl (fun a g0 b0 k b=>?_)
 replace k:St 50 [(0,(pEq (ptrB b0 0))),(1,((Kd.int .i64).sl.pd a1)),(1002,(pSJ Zby Zcp (hpL2 (pArr (Kd.arr 64 (Kd.int .u8)) 92 1000000 a0.firm) (pRow Zbr 94 1000001 a0.pending)) 0 b0 a0))] _ _:=Zhl k
 refine wp_seq<|U4 [5,15,30,40,50,25] k b Za
  (Am 5 rfl<|U2 [0] (Zz rfl rfl U0)<|U2 [0] (Zbh Zqo rfl rfl U0)<|U2 (outs:=[(10,(pRow Zbr 94 1000001 a0.pending))]) (S:=[]) [0,25] (Zib (pr:=Prod.snd) Zr0 (fun g s cs h=>Z0f h) h2_2 rfl rfl U1 U0)<|U2 [0] (Zbv Zb06 rfl rfl (Opd.imp U0 (fun _ _ h=>Zdt h)))<|U2 [] (Zx rfl rfl U6)<|U3) fun a g k b=>?_
 obtain⟨z17,hz1,H0⟩:=Zd H0
 refine Zbq (fun a w=>∃(y16:Ze) (g:G),Jn 50 [(0,(pEq (ptrB b0 0))),(1002,(pSJ Zby Zcp (hpL2 (pArr (Kd.arr 64 (Kd.int .u8)) 92 1000000 y16.firm) (pRow Zbr 94 1000001 y16.pending)) 0 b0 y16))] a w g0 g (y16=z17)) ?_ ?_
 ·rintro a w ⟨y16,g,rfl,k,b,rfl⟩
  refine Zl<|U5 [5,110] k b Za
   (Am 5 rfl<|Am 5 rfl<|Am 5 rfl<|U2 [20] (Zz rfl rfl U0)<|U2 [0] (Zbh Zqo rfl rfl U0)<|U2 (outs:=[(1002,(pSJ Zby Zcp (hpL2 (pArr (Kd.arr 64 (Kd.int .u8)) 92 1000000 ({y16 with pending:=([]:List Zo)}:Ze).firm) (pRow Zbr 94 1000001 ({y16 with pending:=([]:List Zo)}:Ze).pending)) 0 b0 ({y16 with pending:=([]:List Zo)}:Ze)))]) (S:=[1]) [0,15] (Zuv (q:=(pRow Zbr 94 1000001 [])) (x':=({y16 with pending:=([]:List Zo)}:Ze)) (upd:=fun s s2=>(s.1,s2)) Zr0 rfl rfl (fun _ _ h=>Zlj h) (fpn rfl) (fpn rfl) U1 U0 (Opd.c (fun g=>Zj1 1000001 g)) (fun g cs s0 s1 ys h hy=>Zbfs h hy) h2_u)<|U2 [40] (Zz rfl rfl U0)<|U2 [0] (Zbh Zt9 rfl rfl U0)<|U2 (outs:=[(1002,(pSJ Zby Zcp (hpL2 (pArr (Kd.arr 64 (Kd.int .u8)) 92 1000000 ({({y16 with pending:=([]:List Zo)}:Ze)with left:=(0:Int)}:Ze).firm) (pRow Zbr 94 1000001 ({({y16 with pending:=([]:List Zo)}:Ze)with left:=(0:Int)}:Ze).pending)) 0 b0 ({({y16 with pending:=([]:List Zo)}:Ze)with left:=(0:Int)}:Ze)))]) (S:=[1]) [0,20] (Zo0 U9 rfl rfl (fpn rfl) U1 U0 U6 (fun g g' cs s0 ys h hr hy=>⟨s0,Zbfy h hy,hr⟩))<|U2 [60] (Zz rfl rfl U0)<|U2 [0] (Zbh Zt4 rfl rfl U0)<|U2 (outs:=[(1002,(pSJ Zby Zcp (hpL2 (pArr (Kd.arr 64 (Kd.int .u8)) 92 1000000 ({({({y16 with pending:=([]:List Zo)}:Ze)with left:=(0:Int)}:Ze)with down:=false}:Ze).firm) (pRow Zbr 94 1000001 ({({({y16 with pending:=([]:List Zo)}:Ze)with left:=(0:Int)}:Ze)with down:=false}:Ze).pending)) 0 b0 ({({({y16 with pending:=([]:List Zo)}:Ze)with left:=(0:Int)}:Ze)with down:=false}:Ze)))]) (S:=[1]) [0,20] (Zo0 ty_4 rfl rfl (fpn rfl) U1 U0 c_b (fun g g' cs s0 ys h hr hy=>⟨s0,Zbmq h hy,hr⟩))<|U3) fun a g k b=>?_
  obtain rfl:=Oi H0
  exact Zbec rfl k b (k.at 1 rfl)
 ·refine wp_block<|wp_loop_ghost (fun n a w=>∃(x1:Int) (x2:Ze) (g:G),Jn 50 [(0,(pEq (ptrB b0 0))),(1,((Kd.int .i64).sl.pd a1)),(10,(pRow Zbr 94 1000001 a0.pending)),(11,(pInt .i64 (a0.pending.length:Int))),(12,(pInt .i64 x1)),(1002,(pSJ Zby Zcp (hpL2 (pArr (Kd.arr 64 (Kd.int .u8)) 92 1000000 x2.firm) (pRow Zbr 94 1000001 x2.pending)) 0 b0 x2))] a w g0 g (Zeh a0 a1 n x1 x2=some z17)) (Zb0q ((a0.pending.length:Int)-(0:Int))+1) ⟨(0:Int),a0,g,rfl,(k.pi [0,1,2,3,4,5] rfl),b,hz1⟩ (fun n a w hI=>?_)
  obtain⟨x1,x2,g,rfl,k,b,H1⟩:=hI
  cases n with
  | zero=>exact absurd H1 (by simp[Zeh])
  | succ n =>
   rw[Zeh]at H1
   refine U4 [5,15,25,35,45,0,55] k b Za
    (U2 [45,35] (Zcj rfl rfl U0 U1)<|U3) fun a g k b=>?_
   refine wp_seq<|Zs (k.bool 5 rfl) H1 (fun H1=>?_) (fun H1=>?_)
   ·refine wp_skip<|Zl ?_
    refine wp_seq<|wp_block ?_
    obtain⟨e4,h5,H1⟩:=Zd H1
    refine U4 [5,15,40,50,25,35,45,55] (L:=[(0,_),(1,_),(10,_),(11,_),(12,_),(1002,_)]) (k.pi [0,1,2,3,4,6] rfl) b Za
     (Am 45 rfl<|U2 [25,45] (Zbn Zb06 Z7s rfl rfl (Opd.imp U0 (fun _ _ h=>Zdt h)) U1 h5)<|Al Z7v 0 rfl<|U2 [] (Zbl6 5 rfl rfl)<|Aa 30 rfl<|U2 [20,10] (Zci Z7v rfl rfl U1 U0)<|U3) fun a g k b=>?_
    refine U4 [5,15,25,35,0,45,55,65,75] k b Za
     (U2 [] (Zc rfl rfl U6)<|U3) fun a g k b=>?_
    refine wp_seq<|U4 [5,15,25,35,45,55,65,75,30,85] k b Za
     (Am 25 rfl<|Am 15 rfl<|U2 [0] (Zbv Zb03 rfl rfl U0)<|U2 [20,0] (Zcj rfl rfl U0 U1)<|U3) fun a g k b=>?_
    refine Zbq (fun a w=>∃(j9:Int) (g:G),Jn 50 [(0,(pEq (ptrB b0 0))),(1,((Kd.int .i64).sl.pd a1)),(5,(Zbr.ptr e4)),(6,(pInt .i64 j9)),(10,(pRow Zbr 94 1000001 a0.pending)),(11,(pInt .i64 (a0.pending.length:Int))),(12,(pInt .i64 x1)),(1002,(pSJ Zby Zcp (hpL2 (pArr (Kd.arr 64 (Kd.int .u8)) 92 1000000 x2.firm) (pRow Zbr 94 1000001 x2.pending)) 0 b0 x2))] a w g0 g (Zig x1 x2 e4 (Zeh a0 a1 n) j9=some z17)) ?_ ?_
    ·rintro a w ⟨j9,g,rfl,k,b,H1⟩
     unfold Zig at H1
     refine Zl ?_
     obtain⟨e10,h11,H1⟩:=Zd H1;obtain⟨h12,H1⟩:=Zdr H1;obtain⟨c13,h14,H1⟩:=Zd H1;obtain⟨h15,H1⟩:=Zdr H1
     refine U5 [5,15,45,55,65,121] k b Za
      (Am 5 rfl<|U2 [0] (Zz rfl rfl U0)<|U2 [0] (Zbh Zwe rfl rfl U0)<|U2 (outs:=[(30,(pArr (Kd.arr 64 (Kd.int .u8)) 92 1000000 x2.firm))]) (S:=[]) [0,75] (Zib (pr:=Prod.fst) Zzj (fun g s cs h=>Z29 h) h2_1 rfl rfl U1 U0)<|Af Z5m 25 rfl<|Al U9 0 rfl<|U2 [20,0] (Zzx Tryz.underlying62 Zbev rfl rfl U0 U1 h11)<|Am 35 rfl<|U2 (outs:=[(35,(pVw 1000000 ((Zb0q e4.at_)*(64*(Kd.int .u8).sz)) (Zb0q j9) 64))]) (S:=[]) [10,0] (Zbf5 (h:=j9) Zb01 sz_5 h12 rfl rfl U0 (.inr ⟨_,_,rfl,U1⟩))<|Af Z47 25 rfl<|Am 35 rfl<|U2 [10,0] (Z5g (l:=(0:Int)) (h:=j9) Zb01 sz_5 (by decide) rfl rfl U0 (.inl ⟨rfl,rfl⟩) (.inr ⟨_,_,rfl,U1⟩) h14)<|U2 (outs:=[(39,(pInt .i64 (c13.length:Int))),(1002,(pSJ Zby Zcp (hpL2 (pArr (Kd.arr 64 (Kd.int .u8)) 92 1000000 ({x2 with firm:=x2.firm.set (Zb0q e4.at_) (Zi0 e10 0 c13)}:Ze).firm) (pRow Zbr 94 1000001 ({x2 with firm:=x2.firm.set (Zb0q e4.at_) (Zi0 e10 0 c13)}:Ze).pending)) 0 b0 ({x2 with firm:=x2.firm.set (Zb0q e4.at_) (Zi0 e10 0 c13)}:Ze)))]) (S:=[1000001]) [30,0,75] (Zbi3 (x':=({x2 with firm:=x2.firm.set (Zb0q e4.at_) (Zi0 e10 0 c13)}:Ze)) (pr:=Prod.fst) (by decide) (fun _=>rfl) h2_1 (h2_e rfl) Zlb h15 (Zbd6 h11) rfl rfl (by decide) U7 U0 U1)<|U3) fun a g k b=>?_
     refine Zbb<|Zl ?_
     refine U5 [5,15,25,35,10,55] k b Za
      (U2 [45] (Zbw rfl rfl U0 U6 rfl)<|Am 0 rfl<|U3) fun a g k b=>?_
     exact⟨n,Zb0o _,(Zb0n.wrap (x1+(1:Int))),({x2 with firm:=x2.firm.set (Zb0q e4.at_) (Zi0 e10 0 c13)}:Ze),g,rfl,(k.pi [0,1,2,3,4,5] rfl),b,H1⟩
    ·refine Zs (k.bool 8 rfl) H1 (fun H1=>?_) (fun H1=>?_)
     ·obtain⟨e7,h8,H1⟩:=Zd H1
      refine U5 [5,15,35,60,45,55,65,75] (L:=[(0,_),(1,_),(4,_),(5,_),(10,_),(11,_),(12,_),(1002,_)]) (k.pi [0,1,2,3,5,6,7,9] rfl) b Za
       (Am 15 rfl<|Am 25 rfl<|U2 [10,0] (Zbn Zb03 sz_3 rfl rfl U0 U1 h8)<|Al U9 0 rfl<|U2 [0] (Zv5 rfl rfl U0 U6)<|U2 [0] (Z3j rfl rfl U0 U6)<|Aa 0 rfl<|U3) fun a g k b=>?_
      exact⟨(min (max e7 (0:Int)) (64:Int)),g,rfl,(k.pi [0,1,2,3,4,5,6,7] rfl),b,H1⟩
     ·exact wp_skip<|⟨(0:Int),g,rfl,(k.pi [0,1,3,4,5,6,7,9] rfl),b,H1⟩
   ·refine wp_exit<|Zbx ?_
    refine Zbx<|Zcg ?_
    exact⟨x2,g,rfl,(k.pi [0,6] rfl),b,Oi H1⟩
theorem Z5t:Zbdl Zb0k 49:=by
 intro g v2 b4 b5
 refine callsD_of_wpS Zb1b rfl fun c₀ cs hu=>?_
 apply wpS_seq
 apply wpS_region
 simp[wpOpsS,go_sem,recoverD,hu,Zb1a,Exit.thenS]
 refine wpS_of_wp<|Zbaw (fun a=>St 18 [(6,pEq .nilIface)] a g.bare) ?_ (fun a s=>?_)
 exact⟨by simp,rfl,Zgv (show Act.at _ _=_ by simp[Act.at,Zb0x,Zb0z,Zb0v]) Zs8⟩
 have b:=Zs0 g
 refine (show (Code.block _ _).wp Zb0k _ a g.bare.w from ?_)
 refine wp_block<|r_s (T:=[⟨[.o 0],_,[],[],[8]⟩]) (F:=[.p 0 0,.o 0]) s b Za
  (o_p rfl (Zbdf (by kernel_rfl) rfl rfl U0)<|o_n) fun a g1 s b=>?_
 refine wp_cond_split (s.bool 0 rfl) (fun _=>?_) (fun hc=>by cases hc)
 refine r_g (L:=[(6,_)]) (T:=[⟨[.o 0],_,[],[],[3]⟩]) (F:=[.o 0]) (s.pi [1] rfl) b Za
  (Qa rfl U0<|o_n) fun a g1 s b=>?_
 refine Zbb ?_
 obtain⟨g2,e2,hs,_⟩:=Zvc b
 refine⟨s.df,.returning,?_,.tuple #[],by simp[results,Zb09],rfl,rfl,g2,e2.symm,hs⟩
 rw[←hu]
theorem Z42:Zbed Zb0k 49 Zbu Zd9 Ze0 Zdl 130 Zhv (fun r=>({Code:=r.code,At:=r.at_,Answers:=([]:List Zm)}:Zbl)):=by
 intro g v2 v b4 b5 s z4 x r hs h4 h5 hv
 refine callsD_of_wpS Zb1b rfl fun c₀ cs hu=>?_
 apply wpS_seq
 apply wpS_region
 simp[wpOpsS,go_sem,recoverD,hu,Zb1a,Exit.thenS]
 refine wpS_of_wp<|Zbaw (fun a=>St 18 [(0,Zbu.ptr s),(1,Zbm (some b4) Zbu 0 z4),(2,Zda (some b5) Zd9 Ze0 hpT 1 x),(6,Zqx 130 (Zhv.pd r))] a g) ?_ (fun a k=>?_)
 exact⟨by simp,rfl,Zgv (Z74 (v:=v2) (by simp[Act.at,Zb0x,Zb0z,Zb0v]) hs) (Zgv (Z74 (v:=ptrV b4) (by simp[Act.at,Zb0x,Zb0z,Zb0v]) h4) (Zgv (Z74 (v:=ptrV b5) (by simp[Act.at,Zb0x,Zb0z,Zb0v]) h5) (Zgv (Z74 (v:=v) (by simp[Act.at,Zb0x,Zb0z,Zb0v]) hv) Zs8)))⟩
 have b:Base g g:=⟨.refl _,rfl,rfl,rfl,fun _ _ h=>⟨rfl,rfl,h⟩⟩
 refine (show (Code.block _ _).wp Zb0k _ a g.w from ?_)
 refine wp_block<|r_s (T:=[⟨[.o 3],_,[],[],[8]⟩]) (F:=[.o 0,.o 1,.o 2,.o 3,.p 0 0]) k b Za
  (o_p rfl (Zbkx (by kernel_rfl) rfl rfl U0)<|o_n) fun a g1 k b=>?_
 refine wp_cond_split (k.bool 4 rfl) (fun hc=>by cases hc) (fun _=>?_)
 refine r_s (L:=[(0,_),(1,_),(2,_),(6,_)]) (T:=[⟨[.o 3],_,[],[],[9]⟩,⟨[.p 0 0],_,[],[0],[10]⟩,⟨[.p 0 0],_,[],[0],[11]⟩]) (F:=[.o 0,.o 1,.o 2,.p 1 0,.p 2 0]) (k.pi [0,1,2,3] rfl) b Za
  (o_p rfl (Zbhm (by kernel_rfl) rfl rfl U0)<|o_p rfl (Z7 rfl rfl U0 rfl)<|o_p rfl (Z7 rfl rfl U0 rfl)<|o_n) fun a g1 k b=>?_
 refine wp_cond_split (k.bool 3 rfl) (fun _=>?_) (fun hc=>by cases hc)
 refine r_s (L:=[(0,_),(1,_),(2,_),(11,_)]) (T:=[⟨[],[(4,(pBox Zhv 90 (default:Ze1)))],[91],[],[4]⟩,⟨[.p 0 0,.o 3],_,[91],[0],[4]⟩]) (F:=[.o 0,.o 1,.o 2,.p 1 0]) (k.pi [0,1,2,4] rfl) b Za
  (o_p rfl (Zf0 (zs:=[.int .i64 0,.int .i64 0]) (by kernel_rfl) (fun g=>Z3r g) rfl rfl)<|o_p rfl (Zci Zbpg rfl rfl U0 U1)<|o_n) fun a g1 k b=>?_
 refine r_g (T:=[⟨[.o 0],_,[],[],[12]⟩,⟨[.o 3],_,[],[],[13]⟩,⟨[.p 1 0],_,[],[1],[14]⟩,⟨[.o 3],_,[],[],[15]⟩,⟨[.p 3 0],_,[],[3],[16]⟩,⟨[.p 2 0,.p 4 0],_,[],[1,2,3,4],[17]⟩,⟨[.o 1,.p 0 0],_,[1],[0],[1]⟩,⟨[.o 2,.p 5 0],_,[2],[0,1,2,3,4,5,6],[2]⟩]) (F:=[.p 6 0,.p 7 0]) k b Za
  (Ql rfl Zcw U0<|Qf rfl Zbji U0<|Ql rfl Zok U0<|Qf rfl Zbjy U0<|Ql rfl U9 U0<|o_p rfl (Zvx rfl rfl U0 U1)<|o_p rfl (Z9 Zcw rfl rfl U0 U1)<|o_p rfl (Ztz (kV:=Zd9) (by rfl) Zl9 rfl rfl U0 U1)<|o_n) fun a g1 k b=>?_
 refine Zbb ?_
 have k4:=k.at 0 rfl
 have k5:=k.at 1 rfl
 have w4:Act.at a 1=ptrV b4:=Zbgs k4
 have w5:Act.at a 2=ptrV b5:=Zbgs k5
 exact⟨k.df,.panicking [{v:=v,recovered:=true}],rfl,.tuple #[],by simp[results,Zb09],rfl,rfl,g1,rfl,b,w4▸k4,w5▸k5⟩
theorem Zqy (a0:(List Zn)) {r:(List Zn)} (h:Zco a0=some r):FnOk Zb0k 79 [(Zy.sl.pd a0)] (Zy.sl.pd r):=by
 unfold Zco at h
 obtain⟨hsz,H0⟩:=Zdr h
 obtain rfl:=Oi H0
 refine Zb9 (N:=8) Zb1c rfl rfl (Qe rfl) rfl rfl (fun a g0 s b=>?_)
 refine wp_seq<|Zud Za (N:=8) (L:=[(0,(Zy.sl.pd a0))]) (T:=[⟨[],[(2,(Zy.sl.pd []))],[],[],[2]⟩]) (F:=[.o 0]) (by kernel_rfl)
  (Zml (OT.plain rfl (Zc rfl rfl (Opd.c (fun g=>Zdv g)))) Zvp) s b (fun a g s b=>?_)
 refine Zl<|wp_seq ?_
 refine wp_seq<|Zud Za (N:=8) (L:=[(0,(Zy.sl.pd a0))]) (T:=[⟨[.o 0],[(3,(Zy.sl.pd a0))],[],[],[3]⟩,⟨[.p 0 0],[(4,Zblw a0)],[],[0],[4]⟩]) (F:=[.o 0,.p 1 0]) (by kernel_rfl)
  (Zml (OT.plain rfl (Zx rfl rfl Opd.t0)) (Zml (OT.plain rfl (Zbda Zb0l rfl rfl Opd.t0)) Zvp)) s b (fun a g s b=>?_)
 refine Zl ?_
 obtain⟨c,hc,hc'⟩:=s.at 1 rfl
 refine wp_cond_split hc (fun ht=>?_) (fun hf=>?_)
 obtain rfl:=hc' ht
 refine wp_seq<|Zud Za (N:=8) (L:=[]) (T:=[⟨[],[(2,(Zy.sl.pd []))],[],[],[2]⟩]) (F:=[.p 0 0]) (by kernel_rfl)
  (Zml (OT.plain rfl (Zc rfl rfl (Opd.c (fun g=>Zdv g)))) Zvp) (s.pi [] rfl) b (fun a g s b=>?_)
 refine Zl<|wp_ret ?_
 exact Zp<|Zba rfl s b (Zf (s:=2)) (s.at 0 rfl)
 refine wp_skip<|Zl ?_
 refine wp_seq ?_
 have hsz':(([]:(List Zn)).length+a0.length)*24≤140737488355328:=by simpa using hsz
 refine Zud Za (N:=8) (L:=[(0,(Zy.sl.pd a0))]) (T:=[⟨[],[(5,(pRow Zy 139 5 []))],[6],[],[5]⟩,⟨[.o 0],[(6,(Zy.sl.pd a0))],[],[],[6]⟩,⟨[.p 0 0,.p 1 0],[(7,(pRow Zy 139 5 ([]++a0)))],[6],[0,1],[5,7]⟩,⟨[.p 2 0],[(2,(pRow Zy 139 5 ([]++a0)))],[],[0,1,2],[2]⟩]) (F:=[.p 3 0]) (by kernel_rfl)
  (Zml (OT.plain rfl (Zka 5 Zd4 (xs:=[]) .nil (by decide) rfl rfl)) (Zml (OT.plain rfl (Zx rfl rfl Opd.t0)) (Zml (OT.plain rfl (Zdg Zd4 rfl rfl Opd.t0 (Opd.tl Opd.t0) hsz')) (Zml (OT.plain rfl (Zc rfl rfl Opd.t0)) Zvp)))) (s.pi [0] rfl) b (fun a g s b=>?_)
 refine Zl<|wp_ret ?_
 exact Zba rfl s b (Zf (s:=2)) (Zdt (s.at 0 rfl))
theorem Zhr (a0:(List Zn)) {r:(List Zn)} (h:Zco a0=some r):Z5s Zb0k 79 [(Zy.sl.pd a0)] Zy 139 r:=by
 unfold Zco at h
 obtain⟨hsz,H0⟩:=Zdr h
 obtain rfl:=Oi H0
 refine Zbf8 (N:=8) Zb1c rfl rfl (Qe rfl) rfl (fun a g0 h0 s b=>?_)
 refine r_s (T:=[⟨[],[(2,(Zy.sl.pd []))],[],[],[2]⟩]) (F:=[.o 0]) s b Za
  (o_p rfl (Zc rfl rfl (Opd.c (fun g=>Zdv g)))<|o_n) fun a g s b=>?_
 refine wp_seq<|r_s (T:=[⟨[.o 0],_,[],[],[3]⟩,⟨[.p 0 0],_,[],[0],[4]⟩]) (F:=[.o 0,.p 1 0]) s b Za
  (Qm rfl U0<|o_p rfl (Zbda Zb0l rfl rfl U0)<|o_n) fun a g s b=>?_
 obtain⟨c,hc,hc'⟩:=s.at 1 rfl
 refine wp_cond_split hc (fun ht=>?_) (fun hf=>?_)
 obtain rfl:=hc' ht
 refine r_s (L:=[]) (T:=[⟨[],[(2,(pEq (.slice none 0 0)))],[],[],[2]⟩]) (F:=[.p 0 0]) (s.pi [] rfl) b Za
  (o_p rfl (Zc rfl rfl (Opd.c (fun g=>rfl)))<|o_n) fun a g s b=>?_
 refine wp_ret<|Zp ?_
 exact Zbcd rfl s b (Zf (s:=2)) ⟨none,s.at 0 rfl⟩
 refine wp_skip<|Zl ?_
 refine r_s (L:=[(0,_)]) (T:=[⟨[],[(5,(pOwn Zy 139 5 (some 0) (([]:(List Zn)).map some)))],[6],[],[5]⟩,⟨[.o 0],_,[],[],[6]⟩,⟨[.p 0 0,.p 1 0],_,[6],[0,1],[5,7]⟩,⟨[.p 2 0],_,[],[0,1,2],[2]⟩]) (F:=[.p 3 0]) (s.pi [0] rfl) b Za
  (o_p rfl (Zbh2 (ty:=0) Zd4 rfl rfl)<|Qm rfl U0<|o_p rfl (Z27 Zd4 rfl rfl U0 U1 (by simpa using hsz))<|Qa rfl U0<|o_n) fun a g s b=>?_
 exact wp_ret<|Zbj1 rfl h0 s b (Zf (s:=2)) (s.at 0 rfl)
theorem Zkf (a0:Zb) {r:Zb} (H0:Zh4 a0=some r):FnOk Zb0k 53 [(Zg.pd a0)] (Zg.pd r):=by
 unfold Zh4 at H0
 refine Zb9 (N:=8) Tryz.func53 rfl rfl (Qe rfl) rfl rfl (fun a g0 s b=>?_)
 refine U4 [0,10] s b Za
  (U2 (outs:=[(1,(pBox Zg 1 a0))]) (S:=[2]) [5] (Zln rfl rfl U0)<|U2 [] (Ziv 2 rfl rfl)<|U3) fun a g s b=>?_
 obtain⟨r1,h2,H0⟩:=Zd H0
 refine U4 [40,15] s b Za
  (U2 [5] (Zv Zcm (off:=7) (by kernel_rfl) rfl rfl U0)<|AP Zdx 0 rfl<|U2 [0] (Zt Z7u (Zqy _ h2) rfl rfl (.cons U0 .nil))<|U2 [5] (Zv Zcm (off:=7) (by kernel_rfl) rfl rfl U0)<|U2 [10,0,5] (Zpp Zdx rfl rfl U7 U1 U0)<|U3) fun a g s b=>?_
 refine U4 [10] s b Za
  (AM Zbd 5 rfl<|U2 [0,15] (Z9 Zbd rfl rfl U1 U0)<|U3) fun a g s b=>?_
 refine wp_ret ?_
 obtain rfl:=Oi H0
 obtain⟨u0,hu0,hq0⟩:=Zbi (P:=Zb0k) Zbd (s.at 0 rfl)
 exact Zba rfl s b hu0 hq0
theorem Zpr (a0:Z4) (a1:ByteArray) {r:Zb×Bool} (H0:Zh6 a0 a1=some r):FnOk Zb0k 74 [(Zbu.pd a0),(pStr a1)] (pTup [(Zg.pd r.1),(Zbo r.2)]):=by
 unfold Zh6 at H0
 refine Zb9 (N:=39) Tryz.func74 rfl rfl (Qe rfl) rfl rfl (fun a g0 s b=>?_)
 refine U4 [15,0,10] s b Za
  (U2 [5] (Zbt rfl rfl U0)<|U2 [] (Ziv 4 rfl rfl)<|U2 [] (Zc rfl rfl c_b)<|U3) fun a g s b=>?_
 refine wp_seq<|U4 [5,25,20] s b Za
  (Af Zwr 15 rfl<|Al Zd5 0 rfl<|Aa 0 rfl<|U3) fun a g s b=>?_
 obtain⟨z12,hz1,H0⟩:=Zd H0
 refine Zbq (fun a w=>∃(y11:Zb) (g:G),Jn 39 [(4,(pBox Zg 4 y11))] a w g0 g ((.inr y11)=z12)) ?_ ?_
 ·rintro a w ⟨y11,g,rfl,s,b,rfl⟩
  refine Zl<|U4 [10,20] s b Za
   (U2 [] (Zqf rfl rfl )<|U2 [0,5] (Z9 Zbd rfl rfl U1 U0)<|U2 [] (Zc rfl rfl c_b)<|U3) fun a g s b=>?_
  refine wp_ret ?_
  obtain rfl:=Oi H0
  obtain⟨u0,hu0,hq0⟩:=Zbi (P:=Zb0k) Zbd (s.at 0 rfl)
  exact Zdq rfl s b hu0 (Zf (s:=5)) (Zcr hq0 (s.at 1 rfl))
 ·refine wp_block<|wp_loop_ghost (fun n a w=>∃(x1:Zb) (x2:shelf_nodeT) (g:G),Jn 39 [(1,(pStr a1)),(4,(pBox Zg 4 x1)),(6,(Zbk.pd x2))] a w g0 g (Zfv a1 n x1 x2=some z12)) (a0.top.hh+1) ⟨(default:Zb),a0.top,g,rfl,(s.pi [0,1,2] rfl),b,hz1⟩ (fun n a w hI=>?_)
  obtain⟨x1,x2,g,rfl,s,b,H1⟩:=hI
  cases n with
  | zero=>exact absurd H1 (by simp[Zfv])
  | succ n =>
   rw[Zfv]at H1
   refine wp_seq<|U4 [5,15,25,10] s b Za
    (Am 25 rfl<|U2 [0] (Zbak Tryz.underlying26 rfl rfl U0 (Zg6 _))<|U3) fun a g s b=>?_
   refine Zs (s.bool 3 rfl) H1 (fun H1=>?_) (fun H1=>?_)
   ·refine wp_skip<|Zl ?_
    refine Zbq (fun a w=>∃(j10:shelf_nodeT) (g:G),Jn 39 [(1,(pStr a1)),(4,(pBox Zg 4 x1)),(6,(Zbk.pd j10))] a w g0 g (Zkk x1 (Zfv a1 n) j10=some z12)) ?_ ?_
    ·rintro a w ⟨j10,g,rfl,s,b,H1⟩
     unfold Zkk at H1
     exact⟨n,Zb0o _,x1,j10,g,rfl,(s.pi [0,1,2] rfl),b,H1⟩
    ·refine wp_block<|wp_block ?_
     obtain⟨n4,h5,H1⟩:=Zd H1
     refine U4 [5,15,25,60] (L:=[(1,_),(4,_),(6,_)]) (s.pi [0,1,2] rfl) b Za
      (Am 5 rfl<|Am 25 rfl<|U2 [0] (Zz rfl rfl (Opd.imp U0 (fun _ _ h=>Z1 h5 h)))<|Af Zgu 0 rfl<|Al V0 0 rfl<|U2 [40,0] (Zro rfl rfl U0 U1)<|Aa 0 rfl<|U3) fun a g s b=>?_
     refine Zs (s.bool 3 rfl) H1 (fun H1=>?_) (fun H1=>?_)
     ·refine U5 [5,15,40] (L:=[(1,_),(4,_),(6,_)]) (s.pi [0,1,2] rfl) b Za
       (Am 25 rfl<|U2 [0] (Zz rfl rfl (Opd.imp U0 (fun _ _ h=>Z1 h5 h)))<|Af Zfy 0 rfl<|Al Zd5 0 rfl<|Aa 0 rfl<|U3) fun a g s b=>?_
      refine Zbb<|Zbb ?_
      exact⟨n4.left,g,rfl,(s.pi [0,1,2] rfl),b,H1⟩
     ·refine U4 [5,15,25,60] (L:=[(1,_),(4,_),(6,_)]) (s.pi [0,1,2] rfl) b Za
       (Am 5 rfl<|Am 25 rfl<|U2 [0] (Zz rfl rfl (Opd.imp U0 (fun _ _ h=>Z1 h5 h)))<|Af Zgu 0 rfl<|Al V0 0 rfl<|U2 [40,0] (Z25 rfl rfl U0 U1)<|Aa 0 rfl<|U3) fun a g s b=>?_
      refine Zs (s.bool 3 rfl) H1 (fun H1=>?_) (fun H1=>?_)
      ·refine U5 [5,15,40] (L:=[(1,_),(4,_),(6,_)]) (s.pi [0,1,2] rfl) b Za
        (Am 25 rfl<|U2 [0] (Zz rfl rfl (Opd.imp U0 (fun _ _ h=>Z1 h5 h)))<|Af Zgx 0 rfl<|Al Zd5 0 rfl<|Aa 0 rfl<|U3) fun a g s b=>?_
       refine Zbb<|Zbb ?_
       exact⟨n4.right,g,rfl,(s.pi [0,1,2] rfl),b,H1⟩
      ·obtain⟨r8,h9,H1⟩:=Zd H1
       refine U4 [50,60] (L:=[(4,_),(6,_)]) (s.pi [1,2] rfl) b Za
        (Am 15 rfl<|U2 [0] (Zz rfl rfl (Opd.imp U0 (fun _ _ h=>Z1 h5 h)))<|Af Zj2 0 rfl<|Al Zbd 0 rfl<|U2 [0] (Zt Zvt (Zkf _ h9) rfl rfl (.cons U0 .nil))<|U2 [0,5] (Z9 Zbd rfl rfl U1 U0)<|U2 [] (Zc rfl rfl c_b)<|U3) fun a g s b=>?_
       refine wp_ret<|Z5 ?_
       refine Z5<|Zp ?_
       refine Zp<|Z5 ?_
       refine Zp<|Zp ?_
       obtain rfl:=Oi H1
       obtain rfl:=Oi H0
       obtain⟨u0,hu0,hq0⟩:=Zbi (P:=Zb0k) Zbd (s.at 0 rfl)
       exact Zdq rfl s b hu0 (Zf (s:=5)) (Zcr hq0 (s.at 1 rfl))
   ·refine wp_exit<|Zbx ?_
    refine Zbx<|Zcg ?_
    exact⟨x1,g,rfl,(s.pi [1] rfl),b,Oi H1⟩
theorem Zmt (a0:Int) (a1:Zb) (a2:Bool) {r:Zb×Bool×Zm×Zb} (H0:Zi3 a0 a1 a2=some r):FnB Zb0k 103 [.val (pInt .i64 a0),.box Zg a1 r.2.2.2,.val (Kd.bool.ptr a2)] (pTup [(Zg.pd r.1),(Zbo r.2.1),(Z3.pd r.2.2.1)]):=by
 unfold Zi3 at H0
 refine Zf2 (N:=11) Tryz.func103 rfl rfl (Qe rfl) rfl rfl (fun a g0 bs hbs s b=>?_)
 obtain⟨b1,rfl⟩:=Znj hbs
 replace s:St 11 [(0,(pInt .i64 a0)),(1,(Zbm (some b1) Zg 1 a1)),(2,(Kd.bool.ptr a2))] _ _:=s
 refine U4 [5,15,25,0,20] s b Za
  (U2 [] (Ziv 4 rfl rfl)<|U2 [] (Zc rfl rfl c_b)<|U2 [] (Zlz 6 rfl rfl)<|U3) fun a g s b=>?_
 refine U4 [15,40,50,60] s b Za
  (AM Zbd 15 rfl<|Al ty_4 25 rfl<|Am 5 rfl<|U2 [0] (Zua rfl rfl U0)<|U2 [30,35] (Z9 Zbd rfl rfl U1 U0)<|Aa 30 rfl<|U2 [20,45] (Z9 Zcf rfl rfl U1 U0)<|U3) fun a g s b=>?_
 refine wp_ret ?_
 obtain rfl:=Oi H0
 obtain⟨u0,hu0,hq0⟩:=Zbi (P:=Zb0k) Zbd (s.at 1 rfl)
 obtain⟨u2,hu2,hq2⟩:=Zbi (P:=Zb0k) Zcf (s.at 3 rfl)
 exact Zbry rfl s b hu0 (Zf (s:=5)) hu2 (Zft hq0 (s.at 2 rfl) hq2) ⟨Zdu (s.at 0 rfl),trivial⟩
theorem Zbid (a0:Int) {r:Int} (H0:Zqv a0=some r):FnOk Zb0k 104 [(pInt .i64 a0)] (pInt .i64 r):=by
 unfold Zqv at H0
 refine Zb9 (N:=6) Tryz.func104 rfl rfl (Qe rfl) rfl rfl (fun a g0 s b=>?_)
 refine U4 [5] s b Za
  (U2 [] (Zc rfl rfl U6)<|U3) fun a g s b=>?_
 obtain⟨r1,h2,H0⟩:=Zd H0
 refine U4 [30] s b Za
  (Am 5 rfl<|U2 [0] (Zt Z70 (Zvg _ h2) rfl rfl (.cons U0 .nil))<|U2 [0] (Zbk0 Zbby rfl rfl U0)<|Aa 0 rfl<|U3) fun a g s b=>?_
 refine wp_ret ?_
 obtain rfl:=Oi H0
 exact Zba rfl s b (Zf (s:=2)) (s.at 0 rfl)
theorem Z0v (a0:Zb) (a1:Zw) (a2:Zm) {r:Int×Zb×Zm} (H0:Znt a0 a1 a2=some r):FnB Zb0k 134 [.box Zg a0 r.2.1,.val (Z6.pd a1),.box Z3 a2 r.2.2] (pInt .i64 r.1):=by
 unfold Znt at H0
 refine Zf2 (N:=12) Tryz.func134 rfl rfl (Qe rfl) rfl rfl (fun a g0 bs hbs s b=>?_)
 obtain⟨b0,b2,rfl⟩:=Zpd hbs
 replace s:St 12 [(0,(Zbm (some b0) Zg 0 a0)),(1,(Z6.pd a1)),(2,(Zbm (some b2) Z3 2 a2))] _ _:=s
 refine U4 [5,25,0] s b Za
  (U2 [15] (Zbt rfl rfl U0)<|U2 [] (Zc rfl rfl U6)<|U3) fun a g s b=>?_
 refine U4 [50,15] s b Za
  (Am 5 rfl<|Af Zfe 25 rfl<|Al V0 0 rfl<|U2 [20] (Zz rfl rfl U0)<|U2 [0] (Zv Zi1 (off:=6) (by kernel_rfl) rfl rfl U0)<|U2 [20,0,5] (Zxk V0 rfl rfl U7 U1 U0)<|U3) fun a g s b=>?_
 refine U4 [5,15,0] s b Za
  (U2 [] (Zc rfl rfl U6)<|U3) fun a g s b=>?_
 refine wp_ret ?_
 obtain rfl:=Oi H0
 exact Zgk rfl s b (Zf (s:=6)) (s.at 2 rfl) ⟨Zdu (s.at 0 rfl),Zdu (s.at 1 rfl),trivial⟩
theorem Z0z (a0:Zb) (a1:Zw) (a2:Zm) {r:Int×Zb×Zm} (H0:Zj3 a0 a1 a2=some r):FnB Zb0k 135 [.box Zg a0 r.2.1,.val (Z6.pd a1),.box Z3 a2 r.2.2] (pInt .i64 r.1):=by
 unfold Zj3 at H0
 refine Zf2 (N:=19) Tryz.func135 rfl rfl (Qe rfl) rfl rfl (fun a g0 bs hbs s b=>?_)
 obtain⟨b0,b2,rfl⟩:=Zpd hbs
 replace s:St 19 [(0,(Zbm (some b0) Zg 0 a0)),(1,(Z6.pd a1)),(2,(Zbm (some b2) Z3 2 a2))] _ _:=s
 refine U4 [5,25,0] s b Za
  (U2 [15] (Zbt rfl rfl U0)<|U2 [] (Zc rfl rfl U6)<|U3) fun a g s b=>?_
 obtain⟨r1,h2,H0⟩:=Zd H0
 refine U4 [5,70,25] s b Za
  (Am 15 rfl<|Am 5 rfl<|U2 [0] (Zz rfl rfl U0)<|AM Zbd 0 rfl<|U2 [0] (Zt Zvt (Zkf _ h2) rfl rfl (.cons U0 .nil))<|U2 [40] (Zz rfl rfl U0)<|U2 [0] (Zv Zbas (off:=2) (by kernel_rfl) rfl rfl U0)<|U2 [20,0,15] (Zbai Zbd rfl rfl U7 U1 U0)<|U3) fun a g s b=>?_
 refine U4 [50,15] s b Za
  (Am 5 rfl<|Af Zfe 25 rfl<|Al V0 0 rfl<|U2 [20] (Zz rfl rfl U0)<|U2 [0] (Zv Zi1 (off:=6) (by kernel_rfl) rfl rfl U0)<|U2 [20,0,5] (Zxk V0 rfl rfl U7 U1 U0)<|U3) fun a g s b=>?_
 refine U4 [5,15,0] s b Za
  (U2 [] (Zc rfl rfl U6)<|U3) fun a g s b=>?_
 refine wp_ret ?_
 obtain rfl:=Oi H0
 exact Zgk rfl s b (Zf (s:=6)) (s.at 2 rfl) ⟨Zdu (s.at 0 rfl),Zdu (s.at 1 rfl),trivial⟩
theorem Z0u (a0:Zb) (a1:Zw) (a2:Zm) {r:Int×Zb×Zm} (H0:Znq a0 a1 a2=some r):FnB Zb0k 136 [.box Zg a0 r.2.1,.val (Z6.pd a1),.box Z3 a2 r.2.2] (pInt .i64 r.1):=by
 unfold Znq at H0
 refine Zf2 (N:=16) Tryz.func136 rfl rfl (Qe rfl) rfl rfl (fun a g0 bs hbs s b=>?_)
 obtain⟨b0,b2,rfl⟩:=Zpd hbs
 replace s:St 16 [(0,(Zbm (some b0) Zg 0 a0)),(1,(Z6.pd a1)),(2,(Zbm (some b2) Z3 2 a2))] _ _:=s
 refine U4 [5,25,0] s b Za
  (U2 [15] (Zbt rfl rfl U0)<|U2 [] (Zc rfl rfl U6)<|U3) fun a g s b=>?_
 refine U4 [90,15] s b Za
  (Am 5 rfl<|U2 [0] (Zz rfl rfl U0)<|U2 [0] (Zv Zdc (off:=1) (by kernel_rfl) rfl rfl U0)<|AP U8 0 rfl<|Af Zd8 25 rfl<|Al U8 0 rfl<|U2 [20,0] (Zbw rfl rfl U0 U1 rfl)<|U2 [60] (Zz rfl rfl U0)<|U2 [0] (Zv Zdc (off:=1) (by kernel_rfl) rfl rfl U0)<|U2 [20,0,5] (Zpj U8 rfl rfl U7 U1 U0)<|U3) fun a g s b=>?_
 refine U4 [5,15,0] s b Za
  (U2 [] (Zc rfl rfl U6)<|U3) fun a g s b=>?_
 refine wp_ret ?_
 obtain rfl:=Oi H0
 exact Zgk rfl s b (Zf (s:=6)) (s.at 2 rfl) ⟨Zdu (s.at 0 rfl),Zdu (s.at 1 rfl),trivial⟩
theorem Zbau (a0:Zb) (a1:Zw) (a2:Zm) {r:Int×Zb×Zm} (H0:Zpx a0 a1 a2=some r):FnB Zb0k 137 [.box Zg a0 r.2.1,.val (Z6.pd a1),.box Z3 a2 r.2.2] (pInt .i64 r.1):=by
 unfold Zpx at H0
 refine Zf2 (N:=44) Tryz.func137 rfl rfl (Qe rfl) rfl rfl (fun a g0 bs hbs s b=>?_)
 obtain⟨b0,b2,rfl⟩:=Zpd hbs
 replace s:St 44 [(0,(Zbm (some b0) Zg 0 a0)),(1,(Z6.pd a1)),(2,(Zbm (some b2) Z3 2 a2))] _ _:=s
 refine U4 [5,25,0] s b Za
  (U2 [15] (Zbt rfl rfl U0)<|U2 [] (Zc rfl rfl U6)<|U3) fun a g s b=>?_
 refine wp_seq<|U4 [5,15,25,270] s b Za
  (Af Zd8 25 rfl<|Al U8 0 rfl<|U2 [0] (Zcn rfl rfl U0 U6)<|Am 0 rfl<|Gt [0,5] rfl (fun h=>Zx rfl rfl U0)<|Gt [10,0] rfl (fun h=>Zz rfl rfl (V1 h U0))<|Gt [20,0] rfl (fun h=>Zv Zdc (off:=1) (by kernel_rfl) rfl rfl (V1 h U0))<|Gt [30,0] rfl (fun h=>Zjn U8 rfl rfl (V1 h U0))<|Gt [40,25] rfl (fun h=>Zq Zd8 rfl rfl U0)<|Gt [50,0] rfl (fun h=>Z2 U8 rfl rfl (V1 h U0))<|Gt [60,0] rfl (fun h=>Zei rfl rfl U6 (V1 h U0) rfl)<|Gt [70,30,0] rfl (fun h=>Zcn rfl rfl (V1 h U0) (V1 h U1))<|U2 [80,0] (Zbs rfl rfl U0 (fun hz=>(V1 hz U1)))<|Am 0 rfl<|Gf [0,25] rfl (fun h=>Zq Zd8 rfl rfl U0)<|Gf [10,0] rfl (fun h=>Z2 U8 rfl rfl (V1 h U0))<|Gf [20,0] rfl (fun h=>Zcj rfl rfl (V1 h U0) U6)<|Gf [30,0] rfl (fun h=>Zx rfl rfl (V1 h U0))<|Gu [0,5] rfl (fun h=>Zx rfl rfl U0)<|Gu [10,0] rfl (fun h=>Zz rfl rfl (V1 h U0))<|Gu [20,0] rfl (fun h=>Zv Zdc (off:=1) (by kernel_rfl) rfl rfl (V1 h U0))<|Gu [30,0] rfl (fun h=>Zjn U8 rfl rfl (V1 h U0))<|Gu [40,25] rfl (fun h=>Zq Zd8 rfl rfl U0)<|Gu [50,0] rfl (fun h=>Z2 U8 rfl rfl (V1 h U0))<|Gu [60,0] rfl (fun h=>Zei rfl rfl U6 (V1 h U0) rfl)<|Gu [70,30,0] rfl (fun h=>Zcj rfl rfl (V1 h U0) (V1 h U1))<|Gf [120,80,0] rfl (fun h=>Zbs rfl rfl (V1 h U0) (fun hz=>(V1 (bA h hz) U1)))<|U2 [130,0] (Zb3 rfl rfl U0 (fun hz=>(V1 (bNF hz) U1)))<|U3) fun a g s b=>?_
 refine Zs (s.bool 3 rfl) H0 (fun H0=>?_) (fun H0=>?_)
 refine U4 [5,15,0] (L:=[(0,_),(2,_)]) (s.pi [0,1] rfl) b Za
  (U2 [] (Zc rfl rfl U6)<|U3) fun a g s b=>?_
 refine wp_ret<|Zp ?_
 obtain rfl:=Oi H0
 exact Zgk rfl s b (Zf (s:=6)) (s.at 2 rfl) ⟨Zdu (s.at 0 rfl),Zdu (s.at 1 rfl),trivial⟩
 refine wp_skip<|Zl ?_
 refine U4 [90,15] (L:=[(0,_),(2,_),(4,_)]) (s.pi [0,1,2] rfl) b Za
  (Am 5 rfl<|U2 [0] (Zz rfl rfl U0)<|U2 [0] (Zv Zdc (off:=1) (by kernel_rfl) rfl rfl U0)<|AP U8 0 rfl<|Af Zd8 25 rfl<|Al U8 0 rfl<|U2 [20,0] (Zbw rfl rfl U0 U1 rfl)<|U2 [60] (Zz rfl rfl U0)<|U2 [0] (Zv Zdc (off:=1) (by kernel_rfl) rfl rfl U0)<|U2 [20,0,5] (Zpj U8 rfl rfl U7 U1 U0)<|U3) fun a g s b=>?_
 refine U4 [5,15,0] s b Za
  (U2 [] (Zc rfl rfl U6)<|U3) fun a g s b=>?_
 refine wp_ret ?_
 obtain rfl:=Oi H0
 exact Zgk rfl s b (Zf (s:=6)) (s.at 2 rfl) ⟨Zdu (s.at 0 rfl),Zdu (s.at 1 rfl),trivial⟩
theorem Zvo (a0:Zb) (a1:Zw) (a2:Zm) {r:Int×Zb×Zm} (H0:Zfn a0 a1 a2=some r):FnB Zb0k 138 [.box Zg a0 r.2.1,.val (Z6.pd a1),.box Z3 a2 r.2.2] (pInt .i64 r.1):=by
 unfold Zfn at H0
 refine Zf2 (N:=14) Tryz.func138 rfl rfl (Qe rfl) rfl rfl (fun a g0 bs hbs s b=>?_)
 obtain⟨b0,b2,rfl⟩:=Zpd hbs
 replace s:St 14 [(0,(Zbm (some b0) Zg 0 a0)),(1,(Z6.pd a1)),(2,(Zbm (some b2) Z3 2 a2))] _ _:=s
 refine U4 [5,25,0] s b Za
  (U2 [15] (Zbt rfl rfl U0)<|U2 [] (Zc rfl rfl U6)<|U3) fun a g s b=>?_
 refine wp_seq<|U4 [5,15,60] s b Za
  (Am 5 rfl<|U2 [0] (Zz rfl rfl U0)<|U2 [0] (Zv Zdc (off:=1) (by kernel_rfl) rfl rfl U0)<|AP U8 0 rfl<|Af Zd8 25 rfl<|Al U8 0 rfl<|U2 [20,0] (Zcj rfl rfl U0 U1)<|U3) fun a g s b=>?_
 refine Zs (s.bool 2 rfl) H0 (fun H0=>?_) (fun H0=>?_)
 refine U4 [5,15,0] (L:=[(0,_),(2,_)]) (s.pi [0,1] rfl) b Za
  (U2 [] (Zc rfl rfl U6)<|U3) fun a g s b=>?_
 refine wp_ret<|Zp ?_
 obtain rfl:=Oi H0
 exact Zgk rfl s b (Zf (s:=6)) (s.at 2 rfl) ⟨Zdu (s.at 0 rfl),Zdu (s.at 1 rfl),trivial⟩
 refine wp_skip<|Zl ?_
 refine U4 [5,15,0] (L:=[(0,_),(2,_)]) (s.pi [0,1] rfl) b Za
  (U2 [] (Zc rfl rfl U6)<|U3) fun a g s b=>?_
 refine wp_ret ?_
 obtain rfl:=Oi H0
 exact Zgk rfl s b (Zf (s:=6)) (s.at 2 rfl) ⟨Zdu (s.at 0 rfl),Zdu (s.at 1 rfl),trivial⟩
theorem Z03 (a0:Zb) (a1:Zw) (a2:Zm) {r:Int×Zb×Zm} (H0:Zjm a0 a1 a2=some r):FnB Zb0k 139 [.box Zg a0 r.2.1,.val (Z6.pd a1),.box Z3 a2 r.2.2] (pInt .i64 r.1):=by
 unfold Zjm at H0
 refine Zf2 (N:=28) Tryz.func139 rfl rfl (Qe rfl) rfl rfl (fun a g0 bs hbs s b=>?_)
 obtain⟨b0,b2,rfl⟩:=Zpd hbs
 replace s:St 28 [(0,(Zbm (some b0) Zg 0 a0)),(1,(Z6.pd a1)),(2,(Zbm (some b2) Z3 2 a2))] _ _:=s
 refine U4 [5,25,0] s b Za
  (U2 [15] (Zbt rfl rfl U0)<|U2 [] (Zc rfl rfl U6)<|U3) fun a g s b=>?_
 refine wp_seq<|U4 [5,15,25,110] s b Za
  (Af Zd8 25 rfl<|Al U8 0 rfl<|Am 5 rfl<|U2 [0] (Zz rfl rfl U0)<|U2 [0] (Zv Zjz (off:=3) (by kernel_rfl) rfl rfl U0)<|AP U8 0 rfl<|Am 5 rfl<|U2 [0] (Zz rfl rfl U0)<|U2 [0] (Zv Zdc (off:=1) (by kernel_rfl) rfl rfl U0)<|AP U8 0 rfl<|U2 [40,0] (Zei rfl rfl U0 U1 rfl)<|U2 [90,0] (Zcn rfl rfl U0 U1)<|U3) fun a g s b=>?_
 refine Zs (s.bool 3 rfl) H0 (fun H0=>?_) (fun H0=>?_)
 refine U4 [5,15,0] (L:=[(0,_),(2,_)]) (s.pi [0,1] rfl) b Za
  (U2 [] (Zc rfl rfl U6)<|U3) fun a g s b=>?_
 refine wp_ret<|Zp ?_
 obtain rfl:=Oi H0
 exact Zgk rfl s b (Zf (s:=6)) (s.at 2 rfl) ⟨Zdu (s.at 0 rfl),Zdu (s.at 1 rfl),trivial⟩
 refine wp_skip<|Zl ?_
 refine U4 [90,15] (L:=[(0,_),(2,_),(4,_)]) (s.pi [0,1,2] rfl) b Za
  (Am 5 rfl<|U2 [0] (Zz rfl rfl U0)<|U2 [0] (Zv Zdc (off:=1) (by kernel_rfl) rfl rfl U0)<|AP U8 0 rfl<|Af Zd8 25 rfl<|Al U8 0 rfl<|U2 [20,0] (Zbw rfl rfl U0 U1 rfl)<|U2 [60] (Zz rfl rfl U0)<|U2 [0] (Zv Zdc (off:=1) (by kernel_rfl) rfl rfl U0)<|U2 [20,0,5] (Zpj U8 rfl rfl U7 U1 U0)<|U3) fun a g s b=>?_
 refine U4 [5,15,0] s b Za
  (U2 [] (Zc rfl rfl U6)<|U3) fun a g s b=>?_
 refine wp_ret ?_
 obtain rfl:=Oi H0
 exact Zgk rfl s b (Zf (s:=6)) (s.at 2 rfl) ⟨Zdu (s.at 0 rfl),Zdu (s.at 1 rfl),trivial⟩
end Go.CL
