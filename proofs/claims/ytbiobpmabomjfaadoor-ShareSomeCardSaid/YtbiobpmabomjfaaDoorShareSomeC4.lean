/- A part of the proof of ShareSome. -/
import Derived.Test.YtbiobpmabomjfaaDoorShareSomeC3
set_option linter.unusedVariables false
set_option linter.unusedSimpArgs false
set_option maxRecDepth 100000
namespace Go.CL
open Go Go.RowKit Go.Proofs
theorem Zsn (a0:Zd) (a1:ByteArray) {r:Int} (h:Zhs a0 a1=some r):FnOk Tryd.prog 109 [(Zo.pd a0),(pStr a1)] (pInt .i64 r):=by
 have H0:=h
 unfold Zhs at H0
 clear h
 refine Zbw (N:=15) Tryd.func109 rfl rfl (Qe rfl) rfl rfl (fun a g0 hst hb=>?_)
 refine r_s (T:=[⟨[.o 0],_,[],[],[2]⟩,⟨[],_,[],[],[4]⟩]) (F:=[.o 1,.p 0 0]) hst hb Zb
  (Qb rfl u_0<|Qa rfl c_i<|o_n) (fun a g hst hb=>?_)
 refine wp_seq ?_
 refine wp_block ?_
 refine r_s (T:=[⟨[.o 1],_,[],[],[6]⟩,⟨[.p 0 0],_,[],[0],[7]⟩,⟨[.o 0],_,[],[],[8]⟩,⟨[.p 1 0,.p 2 0],_,[],[0,1,2],[9]⟩,⟨[.p 3 0],_,[],Lr 4,[5]⟩]) (F:=[.o 0,.o 1,.p 4 0]) hst hb Zb
  (Qf rfl Zed u_0<|Ql rfl ty_9 u_0<|Qm rfl u_0<|o_p rfl (Zrf rfl rfl u_0 u_1)<|Qa rfl u_0<|o_n) (fun a g hst hb=>?_)
 refine wp_cond_split (hst.bool 2 rfl) (fun hc1=>?_) (fun hc1=>?_)
 ·replace H0:=Zp hc1 H0
  refine r_s (L:=[]) (T:=[⟨[],_,[],[],[4]⟩]) (F:=[.p 0 0]) (hst.pick [] rfl) hb Zb
   (Qa rfl c_i<|o_n) (fun a g hst hb=>?_)
  refine wp_ret ?_
  refine Zw ?_
  refine Zj ?_
  obtain rfl:=Option.some.inj H0
  exact Zx rfl hst hb (Zf (s:=4)) (hst.at 0 rfl)
 ·replace H0:=Zq hc1 H0
  refine r_s (L:=[(1,_),(2,_)]) (T:=[⟨[.o 1],_,[],[],[11]⟩,⟨[.p 0 0],_,[],[0],[12]⟩,⟨[.o 0],_,[],[],[13]⟩,⟨[.p 1 0,.p 2 0],_,[],[0,1,2],[14]⟩,⟨[.p 3 0],_,[],Lr 4,[10]⟩]) (F:=[.p 4 0]) (hst.pick [0,1] rfl) hb Zb
   (Qf rfl Zed u_0<|Ql rfl ty_9 u_0<|Qm rfl u_0<|o_p rfl (Z5i rfl rfl u_0 u_1)<|Qa rfl u_0<|o_n) (fun a g hst hb=>?_)
  refine wp_cond_split (hst.bool 0 rfl) (fun hc2=>?_) (fun hc2=>?_)
  ·replace H0:=Zp hc2 H0
   refine r_s (L:=[]) (T:=[⟨[],_,[],[],[4]⟩]) (F:=[.p 0 0]) (hst.pick [] rfl) hb Zb
    (Qa rfl c_i<|o_n) (fun a g hst hb=>?_)
   refine wp_ret ?_
   refine Zw ?_
   refine Zj ?_
   obtain rfl:=Option.some.inj H0
   exact Zx rfl hst hb (Zf (s:=4)) (hst.at 0 rfl)
  ·replace H0:=Zq hc2 H0
   refine wp_skip ?_
   refine Zbj ?_
   refine Zm ?_
   refine r_s (L:=[]) (T:=[⟨[],_,[],[],[4]⟩]) (F:=[.p 0 0]) (hst.pick [] rfl) hb Zb
    (Qa rfl c_i<|o_n) (fun a g hst hb=>?_)
   refine wp_ret ?_
   obtain rfl:=Option.some.inj H0
   exact Zx rfl hst hb (Zf (s:=4)) (hst.at 0 rfl)
theorem Zl7 (a0:List Zd) (a1:ByteArray) {r:Int × Bool} (h:Zjc a0 a1=some r):FnOk Tryd.prog 95 [(Zo.sl.pd a0),(pStr a1)] (pTup [(pInt .i64 r.1),(Z7 r.2)]):=by
 have H0:=h
 unfold Zjc at H0
 clear h
 refine Zbw (N:=11) Tryd.func95 rfl rfl (Qe rfl) rfl rfl (fun a g0 hst hb=>?_)
 refine r_s (T:=[⟨[],_,[],[],[4]⟩,⟨[],_,[],[0],[5]⟩]) (F:=[.o 0,.o 1]) hst hb Zb
  (Qa rfl c_i<|Qa rfl c_b<|o_n) (fun a g hst hb=>?_)
 obtain ⟨r1,h2,H0⟩:=Ze H0
 refine r_s (T:=[⟨[.o 0],_,[],[],[6]⟩,⟨[.o 1],_,[],[],[7]⟩,⟨[.p 0 0,.p 1 0],_,[],[0,1],[8]⟩,⟨[.p 2 0],_,[],[0,1,2],[9]⟩,⟨[.p 2 0],_,[],[0,1,2],[10]⟩,⟨[.p 3 0],_,[],Lr 5,[4]⟩,⟨[.p 4 0],_,[],Lr 6,[5]⟩]) (F:=[.p 5 0,.p 6 0]) hst hb Zb
  (Qm rfl u_0<|Qm rfl u_0<|o_p rfl (Zr Z6d (Zgk 109 [] rfl Z5o (fun y0 y1=>Zhs y0 y1) (fun y0 y1 r h=>Zsn y0 y1 h) _ _ h2) rfl rfl (.cons u_0 (.cons u_1 (.cons Opd.fnc .nil))))<|o_p rfl (Zbg rfl rfl u_0 rfl)<|o_p rfl (Zbg rfl rfl u_0 rfl)<|Qa rfl u_0<|Qa rfl u_0<|o_n) (fun a g hst hb=>?_)
 refine wp_ret ?_
 obtain rfl:=Option.some.inj H0
 exact Zhe rfl hst hb (Zf (s:=4)) (Zf (s:=5)) (Zfi (hst.at 0 rfl) (hst.at 1 rfl))
set_option maxHeartbeats 1000000 in
theorem Zgi (a0:List Zd) (a1:Int) (a2:List Zd) {r:List Zd} (h:Zby a0 a1 a2=some r):Ztz Tryd.prog 107 Zo 75 a0 [(pInt .i64 a1),(Zo.sl.pd a2)] (Zo.sl.pd r):=by
 unfold Zby at h
 obtain ⟨⟨hi0,hi1,hm,hsz⟩,H0⟩:=Zje h
 obtain rfl:=Option.some.inj H0
 obtain ⟨k,rfl⟩:=Int.eq_ofNat_of_zero_le hi0
 have hk:k ≤ a0.length:=by omega
 have hb0:(a0.length + a2.length) ≤ 140737488355328:=Nat.le_trans (Nat.le_mul_of_pos_right _ (by decide)) hsz
 simp only [Int.toNat_natCast]
 refine Zuf (N:=95) Tryd.func107 rfl rfl (Qe rfl) rfl (fun hx a g A0 hst hb=>?_) (fun a g cap hcap hmax hst hb=>?_)
 ·subst hx
  obtain rfl:k=0:=by simpa using hk
  refine r_s (T:=[⟨[],[(6,(Zo.sl.pd []))],[],[],[6]⟩]) (F:=[.o 0,.o 1,.o 2]) hst hb Zb
   (o_p rfl (Zdy rfl rfl (Opd.c (fun g=>Zji g)))<|o_n) (fun a g hst hb=>?_)
  refine r_s (T:=[⟨[.o 0],_,[],[],[10]⟩,⟨[.o 1],_,[],[],[11]⟩,⟨[.p 0 0,.p 1 0],_,[],[0,1],[12]⟩]) (F:=[.o 0,.o 1,.o 2]) hst hb Zb
   (Qm rfl u_0<|Qm rfl u_0<|o_p rfl (Zys Zdt rfl u_0 u_1)<|o_n) (fun a g hst hb=>?_)
  refine r_s (T:=[⟨[.o 2],_,[],[],[13]⟩,⟨[.p 0 0],_,[],[0],[14]⟩,⟨[.p 1 0],_,[],[0,1],[7]⟩]) (F:=[.o 0,.o 1,.o 2,.p 2 0]) hst hb Zb
   (Qm rfl u_0<|o_p rfl (Zcc Tryd.underlying23 rfl rfl u_0)<|Qa rfl u_0<|o_n) (fun a g hst hb=>?_)
  refine wp_seq ?_
  refine r_s (T:=[⟨[.o 3],_,[],[],[15]⟩,⟨[.p 0 0],_,[],[0],[16]⟩]) (F:=[.o 0,.o 1,.o 2,.o 3,.p 1 0]) hst hb Zb
   (Qm rfl u_0<|o_p rfl (Zbc rfl rfl u_0 c_i)<|o_n) (fun a g hst hb=>?_)
  refine wp_cond_split (hst.bool 4 rfl) (fun hc=>?_) (fun hc=>?_)
  ·exact absurd (beq_iff_eq.1 hc) (by omega)
  ·refine wp_skip ?_
   refine Zm ?_
   refine r_s (L:=[(0,_),(1,_),(2,_),(7,_)]) (T:=[⟨[.o 0],_,[],[],[18]⟩,⟨[.p 0 0],_,[],[0],[19]⟩,⟨[.p 1 0],_,[],[0,1],[8]⟩]) (F:=[.o 0,.o 1,.o 2,.o 3,.p 2 0]) (hst.pick [0,1,2,3] rfl) hb Zb
    (Qm rfl u_0<|o_p rfl (Z3n Tryd.underlying23 rfl rfl u_0)<|Qa rfl u_0<|o_n) (fun a g hst hb=>?_)
   refine wp_seq ?_
   refine r_s (T:=[⟨[.o 1],_,[],[],[20]⟩,⟨[.o 4],_,[],[],[21]⟩,⟨[.p 0 0,.p 1 0],_,[],[0,1],[22]⟩]) (F:=[.o 0,.o 1,.o 2,.o 3,.o 4,.p 2 0]) hst hb Zb
    (Qm rfl u_0<|Qm rfl u_0<|o_p rfl (Zbc rfl rfl u_0 u_1)<|o_n) (fun a g hst hb=>?_)
   refine wp_cond_split (hst.bool 5 rfl) (fun hc=>?_) (fun hc=>?_)
   ·refine r_s (L:=[(0,_),(2,_)]) (T:=[⟨[.o 0],_,[],[],[23]⟩,⟨[.o 1],_,[],[],[24]⟩,⟨[.p 0 0,.p 1 0],[(25,(pOwn Zo 75 25 none (a2.map some)))],[26],[0,1],[25]⟩,⟨[.p 2 0],_,[],[0,1,2],[6]⟩]) (F:=[.p 3 0]) (hst.pick [0,2] rfl) hb Zb
     (Qm rfl u_0<|Qm rfl u_0<|o_p rfl (Zrb Zdt rfl rfl u_0 u_1 hm (by simpa using hsz))<|Qa rfl u_0<|o_n) (fun a g hst hb=>?_)
    refine wp_ret ?_
    refine Zj ?_
    have hq:=hst.at 0 rfl
    have he:([]:List Zd).take 0 ++ a2 ++ ([]:List Zd).drop 0=a2:=by simp
    rw [he]
    exact Zm3 rfl hst hb (Zf (s:=6)) hq
   ·exact absurd hc (by simp)
 ·refine r_s (T:=[⟨[],[(6,(Zo.sl.pd []))],[],[],[6]⟩]) (F:=[.o 0,.o 1,.o 2]) hst hb Zb
   (o_p rfl (Zdy rfl rfl (Opd.c (fun g=>Zji g)))<|o_n) (fun a g hst hb=>?_)
  refine r_s (T:=[⟨[.o 0],_,[],[],[10]⟩,⟨[.o 1],_,[],[],[11]⟩,⟨[.p 0 0,.p 1 0],_,[],[0,1],[12]⟩]) (F:=[.o 0,.o 1,.o 2]) hst hb Zb
   (Qm rfl u_0<|Qm rfl u_0<|o_p rfl (Zfv Zdt (by simpa using hk) rfl rfl u_0 u_1)<|o_n) (fun a g hst hb=>?_)
  refine r_s (T:=[⟨[.o 2],_,[],[],[13]⟩,⟨[.p 0 0],_,[],[0],[14]⟩,⟨[.p 1 0],_,[],[0,1],[7]⟩]) (F:=[.o 0,.o 1,.o 2,.p 2 0]) hst hb Zb
   (Qm rfl u_0<|o_p rfl (Zcc Tryd.underlying23 rfl rfl u_0)<|Qa rfl u_0<|o_n) (fun a g hst hb=>?_)
  refine wp_seq ?_
  refine r_s (T:=[⟨[.o 3],_,[],[],[15]⟩,⟨[.p 0 0],_,[],[0],[16]⟩]) (F:=[.o 0,.o 1,.o 2,.o 3,.p 1 0]) hst hb Zb
   (Qm rfl u_0<|o_p rfl (Zbc rfl rfl u_0 c_i)<|o_n) (fun a g hst hb=>?_)
  refine wp_cond_split (hst.bool 4 rfl) (fun hc=>?_) (fun hc=>?_)
  ·exact absurd (beq_iff_eq.1 hc) (by omega)
  ·refine wp_skip ?_
   refine Zm ?_
   refine r_s (L:=[(0,_),(1,_),(2,_),(7,_)]) (T:=[⟨[.o 0],_,[],[],[18]⟩,⟨[.p 0 0],_,[],[0],[19]⟩,⟨[.p 1 0],_,[],[0,1],[8]⟩]) (F:=[.o 0,.o 1,.o 2,.o 3,.p 2 0]) (hst.pick [0,1,2,3] rfl) hb Zb
    (Qm rfl u_0<|o_p rfl (Zpr Tryd.underlying23 rfl rfl u_0)<|Qa rfl u_0<|o_n) (fun a g hst hb=>?_)
   refine wp_seq ?_
   refine r_s (T:=[⟨[.o 1],_,[],[],[20]⟩,⟨[.o 4],_,[],[],[21]⟩,⟨[.p 0 0,.p 1 0],_,[],[0,1],[22]⟩]) (F:=[.o 0,.o 1,.o 2,.o 3,.o 4,.p 2 0]) hst hb Zb
    (Qm rfl u_0<|Qm rfl u_0<|o_p rfl (Zbc rfl rfl u_0 u_1)<|o_n) (fun a g hst hb=>?_)
   refine wp_cond_split (hst.bool 5 rfl) (fun hc=>?_) (fun hc=>?_)
   ·refine r_s (L:=[(0,_),(2,_)]) (T:=[⟨[.o 0],_,[],[],[23]⟩,⟨[.o 1],_,[],[],[24]⟩,⟨[.p 0 0,.p 1 0],_,[1],[0,1],[25,0,23]⟩,⟨[.p 2 0],_,[],[0,1,2],[6]⟩]) (F:=[.p 3 0]) (hst.pick [0,2] rfl) hb Zb
     (Qm rfl u_0<|Qm rfl u_0<|o_p rfl (Zlh Zdt rfl rfl u_0 u_1 hsz)<|Qa rfl u_0<|o_n) (fun a g hst hb=>?_)
    refine wp_ret ?_
    refine Zj ?_
    have hq:=hst.at 0 rfl
    have hkn:=beq_iff_eq.1 hc
    simp only [List.length_map] at hkn
    have hkn:k=a0.length:=by omega
    have he:a0.take k ++ a2 ++ a0.drop k=a0 ++ a2:=by simp [hkn]
    rw [he]
    exact Zm3 rfl hst hb (Zf (s:=6)) hq
   ·have hkn:k ≠ a0.length:=fun h=>(beq_eq_false_iff_ne.1 hc) (by simp only [List.length_map];omega)
    refine wp_skip ?_
    refine Zm ?_
    refine wp_seq ?_
    refine r_s (L:=[(0,_),(1,_),(2,_),(7,_),(8,_)]) (T:=[⟨[.o 4],_,[],[],[26]⟩,⟨[.o 3],_,[],[],[27]⟩,⟨[.p 0 0,.p 1 0],_,[],[0,1],[28]⟩,⟨[.o 0],_,[],[],[29]⟩,⟨[.p 3 0],_,[],[3],[30]⟩,⟨[.p 2 0,.p 4 0],_,[],[0,1,2,3,4],[31]⟩]) (F:=[.o 0,.o 1,.o 2,.o 3,.o 4,.p 5 0]) (hst.pick [0,1,2,3,4] rfl) hb Zb
     (Qm rfl u_0<|Qm rfl u_0<|o_p rfl (Zcs rfl rfl u_0 u_1 (Zpm (by simp only [List.length_map];omega)))<|Qm rfl u_0<|o_p rfl (Z5c Tryd.underlying23 rfl rfl u_0)<|o_p rfl (Zcf rfl rfl u_0 u_1)<|o_n) (fun a g hst hb=>?_)
    refine wp_cond_split (hst.bool 5 rfl) (fun hc2=>?_) (fun hc2=>?_)
    ·have hgr:cap < k + (a0.length + a2.length - k):=by have:=of_decide_eq_true hc2;simp only [List.length_map] at this;omega
     refine r_s (L:=[(0,_),(1,_),(2,_),(7,_),(8,_)]) (T:=[⟨[.o 0],_,[],[],[32]⟩,⟨[.o 1],_,[],[],[33]⟩,⟨[.p 0 0,.p 1 0],_,[],[0,1],[34]⟩,⟨[.o 4],_,[],[],[35]⟩,⟨[.o 3],_,[],[],[36]⟩,⟨[.p 3 0,.p 4 0],_,[],[3,4],[37]⟩,⟨[.o 1],_,[],[],[38]⟩,⟨[.p 5 0,.p 6 0],_,[],[3,4,5,6],[39]⟩,⟨[.p 2 0,.p 7 0,.o 0],[(40,(pOwn Zo 75 40 none ((a0.take k).map some ++ List.replicate (a0.length + a2.length - k) none)))],[41],[0,1,2,3,4,5,6,7],[40]⟩,⟨[.p 8 0],_,[],[0,1,2,3,4,5,6,7,8],[9]⟩]) (F:=[.o 0,.o 1,.o 2,.o 3,.p 9 0]) (hst.pick [0,1,2,3,4] rfl) hb Zb
      (Qm rfl u_0<|Qm rfl u_0<|o_p rfl (Zpa Zdt (by simpa using hk) rfl rfl u_0 u_1)<|Qm rfl u_0<|Qm rfl u_0<|o_p rfl (Zcs rfl rfl u_0 u_1 (Zpm (by simp only [List.length_map];omega)))<|Qm rfl u_0<|o_p rfl (Ze6 rfl rfl u_0 u_1 (Z5l (n:=a0.length + a2.length) (by simp only [List.length_map]) (by omega) (by omega)))<|o_p rfl (Zxz (s:=0) (d2:=40) (xs:=a0.take k) Zdt Tryd.underlying3 (by simp;omega) (by simp;omega) (by omega) hgr (by rw [show k + (a0.length + a2.length - k)=a0.length + a2.length by omega];exact hsz) (Zrs a0 k) rfl rfl u_0 u_1 u_2)<|Qa rfl u_0<|o_n) (fun a g hst hb=>?_)
     have hl1:(((a0.take k).map some ++ List.replicate (a0.length + a2.length - k) none):List (Option Zd)).length=a0.length + a2.length:=by simp;omega
     refine r_s (T:=[⟨[.o 4],_,[],[],[41]⟩,⟨[.o 1],_,[],[],[42]⟩,⟨[.p 0 0,.p 1 0],_,[],[0,1],[43]⟩,⟨[.o 2],_,[],[],[44]⟩,⟨[.p 2 0,.p 3 0,.o 4],_,[41],[0,1,2,3],[45,9,41,43]⟩]) (F:=[.o 0,.o 1,.o 2,.o 3,.p 4 1]) hst hb Zb
      (Qm rfl u_0<|Qm rfl u_0<|o_p rfl (Zfv Zdt (by rw [hl1];omega) rfl rfl u_0 u_1)<|Qm rfl u_0<|o_p rfl (Zvy (s:=9) Zdt (by rw [hl1];omega) (by rw [hl1];omega) rfl rfl (by decide) u_0 u_1 u_2)<|o_n) (fun a g hst hb=>?_)
     have hl2:(over (((a0.take k).map some ++ List.replicate (a0.length + a2.length - k) none):List (Option Zd)) k a2).length=a0.length + a2.length:=by rw [Zj3 (by rw [hl1];omega),hl1]
     refine r_s (T:=[⟨[.o 4],_,[],[],[46]⟩,⟨[.o 1],_,[],[],[47]⟩,⟨[.o 3],_,[],[],[48]⟩,⟨[.p 1 0,.p 2 0],_,[],[1,2],[49]⟩,⟨[.p 0 0,.p 3 0],_,[],[0,1,2,3],[50]⟩,⟨[.o 0],_,[],[],[51]⟩,⟨[.o 1],_,[],[],[52]⟩,⟨[.p 5 0,.p 6 0],_,[],[5,6],[53]⟩,⟨[.p 4 0,.p 7 0,.o 4,.o 0],_,[41],[0,1,2,3,4,5,6,7],[54,9,46,50]⟩]) (F:=[.p 8 1]) hst hb Zb
      (Qm rfl u_0<|Qm rfl u_0<|Qm rfl u_0<|o_p rfl (Zcs rfl rfl u_0 u_1 (Zpm (by omega)))<|o_p rfl (Zfv Zdt (by rw [hl2];omega) rfl rfl u_0 u_1)<|Qm rfl u_0<|Qm rfl u_0<|o_p rfl (Zfv Zdt (by simpa using hk) rfl rfl u_0 u_1)<|o_p rfl (Zvm (s:=9) (s2:=0) (ws:=a0.drop k) Zdt (by rw [hl2];omega) (by simp;omega) (by rw [hl2,List.length_map,List.length_drop];exact (Nat.min_eq_left (by omega)).symm) (fun i x hx=>by rw [List.getElem?_drop] at hx;rw [List.getElem?_map,hx];rfl) rfl rfl (by decide) u_0 u_1 u_2 u_3)<|o_n) (fun a g hst hb=>?_)
     refine r_s (T:=[⟨[.o 0],_,[],[],[55]⟩,⟨[.p 0 0],_,[],[0],[6]⟩]) (F:=[.p 1 0]) hst hb Zb
      (Qm rfl u_0<|Qa rfl u_0<|o_n) (fun a g hst hb=>?_)
     refine wp_ret ?_
     refine Zj ?_
     have hq:=hst.at 0 rfl
     rw [ins1 hk] at hq
     exact Zm3 rfl hst hb (Zf (s:=6)) hq
    ·have hroom:a0.length + a2.length ≤ cap:=by have:=of_decide_eq_false hc2;simp only [List.length_map] at this;omega
     refine wp_skip ?_
     refine Zm ?_
     refine r_s (L:=[(0,_),(1,_),(2,_),(7,_),(8,_)]) (T:=[⟨[.o 0],_,[],[],[56]⟩,⟨[.o 4],_,[],[],[57]⟩,⟨[.o 3],_,[],[],[58]⟩,⟨[.p 1 0,.p 2 0],_,[],[1,2],[59]⟩,⟨[.p 0 0,.p 3 0],[(60,(pOwn Zo 75 0 (some cap) (a0.map some ++ List.replicate (a0.length + a2.length - (a0.map some).length) none)))],[],[0,1,2,3],[60]⟩,⟨[.p 4 0],_,[],[0,1,2,3,4],[0]⟩]) (F:=[.p 5 0,.o 1,.o 2,.o 3]) (hst.pick [0,1,2,3,4] rfl) hb Zb
      (Qm rfl u_0<|Qm rfl u_0<|Qm rfl u_0<|o_p rfl (Zcs rfl rfl u_0 u_1 (Zpm (by simp only [List.length_map];omega)))<|o_p rfl (Zwj (h:=a0.length + a2.length) Zdt (by simp) hroom rfl rfl u_0 (Opd.to u_1 (by simp)))<|Qa rfl u_0<|o_n) (fun a g hst hb=>?_)
     have hl1:((a0.map some ++ List.replicate (a0.length + a2.length - (a0.map some).length) none):List (Option Zd)).length=a0.length + a2.length:=by simp
     refine wp_seq ?_
     refine r_s (T:=[⟨[.o 2],_,[],[],[61]⟩,⟨[.o 0],_,[],[],[62]⟩,⟨[.o 1],_,[],[],[63]⟩,⟨[.o 3],_,[],[],[64]⟩,⟨[.p 2 0,.p 3 0],_,[],[2,3],[65]⟩,⟨[.p 1 0,.p 4 0],_,[],[1,2,3,4],[66]⟩,⟨[.p 0 0,.p 5 0,.o 0],_,[],[0,1,2,3,4,5],[67]⟩,⟨[.p 6 0],_,[],[0,1,2,3,4,5,6],[68]⟩]) (F:=[.o 0,.o 1,.o 2,.o 3,.p 7 0]) hst hb Zb
      (Qm rfl u_0<|Qm rfl u_0<|Qm rfl u_0<|Qm rfl u_0<|o_p rfl (Zcs rfl rfl u_0 u_1 (Zpm (by omega)))<|o_p rfl (Zfv Zdt (by rw [hl1];omega) rfl rfl u_0 u_1)<|o_p rfl (Zv1 (s:=0) Zdt rfl Z6n (by rw [hl1];omega) rfl rfl u_0 u_1 u_2)<|Qn rfl u_0<|o_n) (fun a g hst hb=>?_)
     refine wp_cond_split (hst.bool 4 rfl) (fun hc3=>?_) (fun hc3=>absurd hc3 (by simp))
     refine r_s (L:=[(0,_),(1,_),(2,_),(7,_)]) (T:=[⟨[.o 0],_,[],[],[69]⟩,⟨[.o 1],_,[],[],[70]⟩,⟨[.o 3],_,[],[],[71]⟩,⟨[.p 1 0,.p 2 0],_,[],[1,2],[72]⟩,⟨[.p 0 0,.p 3 0],_,[],[0,1,2,3],[73]⟩,⟨[.o 0],_,[],[],[74]⟩,⟨[.o 1],_,[],[],[75]⟩,⟨[.p 5 0,.p 6 0],_,[],[5,6],[76]⟩,⟨[.p 4 0,.p 7 0,.o 0,.o 0],_,[1],[0,1,2,3,4,5,6,7],[77,0,69,73,74,76]⟩]) (F:=[.p 8 1,.o 1,.o 2,.o 3]) (hst.pick [0,1,2,3] rfl) hb Zb
      (Qm rfl u_0<|Qm rfl u_0<|Qm rfl u_0<|o_p rfl (Zcs rfl rfl u_0 u_1 (Zpm (by omega)))<|o_p rfl (Zfv Zdt (by rw [hl1];omega) rfl rfl u_0 u_1)<|Qm rfl u_0<|Qm rfl u_0<|o_p rfl (Zfv Zdt (by rw [hl1];omega) rfl rfl u_0 u_1)<|o_p rfl (Zvm (s:=0) (s2:=0) (ws:=a0.drop k) Zdt (by rw [hl1];omega) (by rw [hl1];omega) (by rw [hl1,List.length_drop];have hm1:Nat.min (a0.length + a2.length - k) (a0.length + a2.length - (k + a2.length))=a0.length + a2.length - (k + a2.length):=Nat.min_eq_right (by omega);rw [hm1];omega) (fun i x hx=>by have hi:=(List.getElem?_eq_some_iff.1 hx).1;rw [List.length_drop] at hi;rw [List.getElem?_drop] at hx;rw [List.getElem?_append_left (by simp;omega),List.getElem?_map,hx];rfl) rfl rfl (by decide) u_0 u_1 u_2 u_3)<|o_n) (fun a g hst hb=>?_)
     have hl2:(over ((a0.map some ++ List.replicate (a0.length + a2.length - (a0.map some).length) none):List (Option Zd)) (k + a2.length) (a0.drop k)).length=a0.length + a2.length:=by rw [Zj3 (by rw [hl1,List.length_drop];omega),hl1]
     refine r_s (T:=[⟨[.o 0],_,[],[],[78]⟩,⟨[.o 1],_,[],[],[79]⟩,⟨[.p 0 0,.p 1 0],_,[],[0,1],[80]⟩,⟨[.o 2],_,[],[],[81]⟩,⟨[.p 2 0,.p 3 0,.o 0],_,[1],[0,1,2,3],[82,0,78,80]⟩]) (F:=[.p 4 1]) hst hb Zb
      (Qm rfl u_0<|Qm rfl u_0<|o_p rfl (Zfv Zdt (by rw [hl2];omega) rfl rfl u_0 u_1)<|Qm rfl u_0<|o_p rfl (Zvy (s:=0) Zdt (by rw [hl2];omega) (by rw [hl2];omega) rfl rfl (by decide) u_0 u_1 u_2)<|o_n) (fun a g hst hb=>?_)
     refine r_s (T:=[⟨[.o 0],_,[],[],[83]⟩,⟨[.p 0 0],_,[],[0],[6]⟩]) (F:=[.p 1 0]) hst hb Zb
      (Qm rfl u_0<|Qa rfl u_0<|o_n) (fun a g hst hb=>?_)
     refine wp_ret ?_
     refine Zj ?_
     have hq:=hst.at 0 rfl
     rw [ins2 hk] at hq
     exact Zm3 rfl hst hb (Zf (s:=6)) hq
theorem Zvg (a0:Za) (a1:Zg) (a2:Zi) {r:Int × Za × Zi} (h:Zi9 a0 a1 a2=some r):FnB Tryd.prog 93 [.box Zc a0 r.2.1,.val (Z1.pd a1),.box Z2 a2 r.2.2] (pInt .i64 r.1):=by
 have H0:=h
 unfold Zi9 at H0
 clear h
 refine Zh5 (N:=46) Tryd.func93 rfl rfl (Qe rfl) rfl rfl (fun a g0 bs hbs hst hb=>?_)
 obtain ⟨b0,b2,rfl⟩:=Zjx hbs
 replace hst:St 46 [(0,(Zbl (some b0) Zc 0 a0)),(1,(Z1.pd a1)),(2,(Zbl (some b2) Z2 2 a2))] _ _:=hst
 refine r_s (T:=[⟨[.o 1],_,[],[],[4]⟩,⟨[],_,[],[],[6]⟩]) (F:=[.o 0,.o 2,.p 0 0]) hst hb Zb
  (Qb rfl u_0<|Qa rfl c_i<|o_n) (fun a g hst hb=>?_)
 obtain ⟨r1,h2,H0⟩:=Ze H0
 refine r_s (T:=⟨[.o 0],_,[],[],[10]⟩ :: ⟨[.p 0 0],_,[],[0],[11]⟩ :: ⟨[.p 1 0],_,[],[0,1],[12]⟩ :: ⟨[.p 2 0],_,[],[0,1,2],[13]⟩ :: ⟨[.o 2],_,[],[],[14]⟩ :: ⟨[.p 4 0],_,[],[4],[15]⟩ :: ⟨[.p 3 0,.p 5 0],_,[],Lr 6,[16]⟩ :: ⟨[.p 6 0],_,[],Lr 7,[9]⟩ :: ⟨[.p 7 0],_,[],Lr 8,[17]⟩ :: ⟨[.p 7 0],_,[],Lr 8,[18]⟩ :: ⟨[.p 8 0],_,[],Lr 9,[7]⟩ :: ⟨[.p 9 0],_,[],Lr 11,[8]⟩ :: []) (F:=[.o 0,.o 1,.o 2,.p 10 0,.p 11 0]) hst hb Zb
  (Qm rfl u_0<|o_p rfl (Z9 rfl rfl u_0 (fun _ _ ⟨_,_,_,e,_⟩=>⟨_,e⟩))<|o_p rfl (Zt Zb5 (off:=7) (by kernel_rfl) rfl rfl u_0)<|QP rfl Zc4 u_0<|Qf rfl Zf7 u_0<|Ql rfl ty_9 u_0<|o_p rfl (Zr Zxt (Zl7 _ _ h2) rfl rfl (.cons u_0 (.cons u_1 .nil)))<|Qm rfl u_0<|o_p rfl (Zbg rfl rfl u_0 rfl)<|o_p rfl (Zbg rfl rfl u_0 rfl)<|Qa rfl u_0<|Qa rfl u_0<|o_n) (fun a g hst hb=>?_)
 refine wp_seq ?_
 refine wp_block ?_
 refine r_s (T:=[⟨[.o 4],_,[],[],[20]⟩,⟨[.p 0 0],_,[],[0],[19]⟩]) (F:=[.o 0,.o 1,.o 2,.o 3,.p 1 0]) hst hb Zb
  (Qm rfl u_0<|Qa rfl u_0<|o_n) (fun a g hst hb=>?_)
 refine wp_cond_split (hst.bool 4 rfl) (fun hc3=>?_) (fun hc3=>?_)
 ·replace H0:=Zp hc3 H0
  refine r_s (L:=[(0,_),(2,_)]) (T:=[⟨[],_,[],[],[6]⟩]) (F:=[.o 0,.o 1,.p 0 0]) (hst.pick [0,1] rfl) hb Zb
   (Qa rfl c_i<|o_n) (fun a g hst hb=>?_)
  refine wp_ret ?_
  refine Zw ?_
  refine Zj ?_
  obtain rfl:=Option.some.inj H0
  exact Zf6 rfl hst hb (Zf (s:=6)) (hst.at 2 rfl) ⟨Zb7 (hst.at 0 rfl),Zb7 (hst.at 1 rfl),trivial⟩
 ·replace H0:=Zq hc3 H0
  refine r_s (L:=[(0,_),(2,_),(4,_),(7,_)]) (T:=[⟨[.o 0],_,[],[],[22]⟩,⟨[.p 0 0],_,[],[0],[23]⟩,⟨[.p 1 0],_,[],[0,1],[24]⟩,⟨[.p 2 0],_,[],[0,1,2],[25]⟩,⟨[.p 3 0],_,[],Lr 4,[26]⟩,⟨[.o 0],_,[],[],[27]⟩,⟨[.p 5 0],_,[],[5],[28]⟩,⟨[.p 6 0],_,[],[5,6],[29]⟩,⟨[.p 7 0],_,[],[5,6,7],[30]⟩,⟨[.p 4 0,.p 8 0],_,[],Lr 9,[31]⟩,⟨[.p 9 0],_,[],Lr 10,[21]⟩]) (F:=[.o 0,.o 1,.o 2,.o 3,.p 10 0]) (hst.pick [0,1,2,3] rfl) hb Zb
   (Qm rfl u_0<|o_p rfl (Z9 rfl rfl u_0 (fun _ _ ⟨_,_,_,e,_⟩=>⟨_,e⟩))<|o_p rfl (Zt Zb5 (off:=7) (by kernel_rfl) rfl rfl u_0)<|QP rfl Zc4 u_0<|o_p rfl (Zcc Tryd.underlying23 rfl rfl u_0)<|Qm rfl u_0<|o_p rfl (Z9 rfl rfl u_0 (fun _ _ ⟨_,_,_,e,_⟩=>⟨_,e⟩))<|o_p rfl (Zt Zfb (off:=5) (by kernel_rfl) rfl rfl u_0)<|QP rfl ty_3 u_0<|o_p rfl (Znq rfl rfl u_0 u_1)<|Qa rfl u_0<|o_n) (fun a g hst hb=>?_)
  refine wp_cond_split (hst.bool 4 rfl) (fun hc4=>?_) (fun hc4=>?_)
  ·replace H0:=Zp hc4 H0
   refine r_s (L:=[(0,_),(2,_)]) (T:=[⟨[],_,[],[],[6]⟩]) (F:=[.o 0,.o 1,.p 0 0]) (hst.pick [0,1] rfl) hb Zb
    (Qa rfl c_i<|o_n) (fun a g hst hb=>?_)
   refine wp_ret ?_
   refine Zw ?_
   refine Zj ?_
   obtain rfl:=Option.some.inj H0
   exact Zf6 rfl hst hb (Zf (s:=6)) (hst.at 2 rfl) ⟨Zb7 (hst.at 0 rfl),Zb7 (hst.at 1 rfl),trivial⟩
  ·replace H0:=Zq hc4 H0
   refine wp_skip ?_
   refine Zbj ?_
   refine Zm ?_
   obtain ⟨r5,h6,H0⟩:=Ze H0;obtain ⟨r7,h8,H0⟩:=Ze H0
   refine r_s (L:=[(0,_),(2,_),(4,_),(7,_)]) (T:=⟨[.o 0],_,[],[],[32]⟩ :: ⟨[.o 0],_,[],[],[33]⟩ :: ⟨[.p 1 0],_,[],[1],[34]⟩ :: ⟨[.p 2 0],_,[],[1,2],[35]⟩ :: ⟨[.p 3 0],_,[],[1,2,3],[36]⟩ :: ⟨[.p 4 0],_,[38],List.range' 1 4,[37]⟩ :: ⟨[.o 3],_,[],[],[38]⟩ :: ⟨[.o 2],_,[],[],[39]⟩ :: ⟨[.p 7 0],_,[],[7],[40]⟩ :: ⟨[.p 8 0],_,[],[7,8],[41]⟩ :: ⟨[.p 9 0],_,[],[7,8,9],[42]⟩ :: ⟨[.p 5 0,.p 6 0,.p 10 0],_,[38],List.range' 1 10,[37,43]⟩ :: ⟨[.p 0 0],_,[],Lr 12,[44]⟩ :: ⟨[.p 12 0],_,[],Lr 13,[45]⟩ :: ⟨[.p 11 0,.p 13 0,.o 0],_,[1],Lr 14,[0,32,33,34,35,44,45]⟩ :: []) (F:=[.p 14 0,.o 1]) (hst.pick [0,1,2,3] rfl) hb Zb
    (Qm rfl u_0<|Qm rfl u_0<|o_p rfl (Z9 rfl rfl u_0 (fun _ _ ⟨_,_,_,e,_⟩=>⟨_,e⟩))<|o_p rfl (Zt Zb5 (off:=7) (by kernel_rfl) rfl rfl u_0)<|QP rfl Zc4 u_0<|o_p rfl (Zlx (j:=37) Zt6 (Zd8 _ h6) rfl rfl (.cons u_0 .nil))<|Qm rfl u_0<|Qf rfl Zf7 u_0<|Ql rfl ty_9 u_0<|o_p rfl (Z3t rfl rfl u_0)<|o_p rfl (Zi5 Zdt (xs:=[.tmp 41]) (.cons u_0 .nil) (by decide) rfl rfl)<|o_p rfl (Znm Zzl (Zgi _ _ _ h8) rfl rfl rfl u_0 (.cons u_1 (.cons u_2 .nil)))<|o_p rfl (Z9 rfl rfl u_0 (fun _ _ ⟨_,_,_,e,_⟩=>⟨_,e⟩))<|o_p rfl (Zt Zb5 (off:=7) (by kernel_rfl) rfl rfl u_0)<|o_p rfl (Zpt Zc4 rfl rfl u_2 u_1 u_0)<|o_n) (fun a g hst hb=>?_)
   refine r_s (T:=[⟨[],_,[],[],[6]⟩]) (F:=[.o 0,.o 1,.p 0 0]) hst hb Zb
    (Qa rfl c_i<|o_n) (fun a g hst hb=>?_)
   refine wp_ret ?_
   obtain rfl:=Option.some.inj H0
   exact Zf6 rfl hst hb (Zf (s:=6)) (hst.at 2 rfl) ⟨Zb7 (hst.at 0 rfl),Zb7 (hst.at 1 rfl),trivial⟩
theorem Zjr (a0:List Zd) (a1 a2:Int) {r:List Zd} (h:Zdv a0 a1 a2=some r):Ztz Tryd.prog 96 Zo 75 a0 [(pInt .i64 a1),(pInt .i64 a2)] (Zo.sl.pd r):=by
 unfold Zdv at h
 obtain ⟨⟨hpos,hi0,hij,hj,hsz⟩,H0⟩:=Zje h
 obtain rfl:=Option.some.inj H0
 obtain ⟨k,rfl⟩:=Int.eq_ofNat_of_zero_le hi0
 obtain ⟨l,rfl⟩:=Int.eq_ofNat_of_zero_le (Int.le_trans hi0 hij)
 have hkl:k ≤ l:=by omega
 have hl:l ≤ a0.length:=by omega
 simp only [Int.toNat_natCast]
 refine Zuf (N:=33) Tryd.func96 rfl rfl (Qe rfl) rfl (fun hx a g A0 hst hb=>?_) (fun a g cap hcap hmax hst hb=>?_)
 ·rw [hx] at hpos;cases hpos
 ·refine r_s (T:=[⟨[],[(6,(Zo.sl.pd []))],[],[],[6]⟩]) (F:=[.o 0,.o 1,.o 2]) hst hb Zb
   (o_p rfl (Zdy rfl rfl (Opd.c (fun g=>Zji g)))<|o_n) (fun a g hst hb=>?_)
  refine r_s (T:=[⟨[.o 0],_,[],[],[8]⟩,⟨[.o 1],_,[],[],[9]⟩,⟨[.o 2],_,[],[],[10]⟩,⟨[.o 0],_,[],[],[11]⟩,⟨[.p 3 0],_,[],[3],[12]⟩,⟨[.p 0 0,.p 1 0,.p 2 0,.p 4 0],[],[],[0,1,2,3,4],[13]⟩]) (F:=[.o 0,.o 1,.o 2]) hst hb Zb
   (Qm rfl u_0<|Qm rfl u_0<|Qm rfl u_0<|Qm rfl u_0<|o_p rfl (Zpr Tryd.underlying23 rfl rfl u_0)<|o_p rfl (Zy3 Zdt hkl (by simpa using hl) (Nat.le_refl _) rfl u_0 u_1 u_2 u_3)<|o_n) (fun a g hst hb=>?_)
  refine wp_seq ?_
  refine r_s (T:=[⟨[.o 1],_,[],[],[14]⟩,⟨[.o 2],_,[],[],[15]⟩,⟨[.p 0 0,.p 1 0],_,[],[0,1],[16]⟩]) (F:=[.o 0,.o 1,.o 2,.p 2 0]) hst hb Zb
   (Qm rfl u_0<|Qm rfl u_0<|o_p rfl (Zbc rfl rfl u_0 u_1)<|o_n) (fun a g hst hb=>?_)
  refine wp_cond_split (hst.bool 3 rfl) (fun hc=>?_) (fun hc=>?_)
  ·refine r_s (L:=[(0,_)]) (T:=[⟨[.o 0],_,[],[],[17]⟩,⟨[.p 0 0],_,[],[0],[6]⟩]) (F:=[.p 1 0]) (hst.pick [0] rfl) hb Zb
    (Qm rfl u_0<|Qa rfl u_0<|o_n) (fun a g hst hb=>?_)
   refine wp_ret ?_
   refine Zj ?_
   have hq:=hst.at 0 rfl
   have hkl2:=beq_iff_eq.1 hc
   have he:a0.take k ++ a0.drop l=a0:=by rw [show l=k by omega,List.take_append_drop]
   rw [he]
   exact Zm3 rfl hst hb (Zf (s:=6)) hq
  ·refine wp_skip ?_
   refine Zm ?_
   refine r_s (L:=[(0,_),(1,_),(2,_)]) (T:=[⟨[.o 0],_,[],[],[18]⟩,⟨[.p 0 0],_,[],[0],[19]⟩,⟨[.p 1 0],_,[],[0,1],[7]⟩]) (F:=[.o 0,.o 1,.o 2,.p 2 0]) (hst.pick [0,1,2] rfl) hb Zb
    (Qm rfl u_0<|o_p rfl (Zpr Tryd.underlying23 rfl rfl u_0)<|Qa rfl u_0<|o_n) (fun a g hst hb=>?_)
   refine r_s (T:=[⟨[.o 0],_,[],[],[20]⟩,⟨[.o 1],_,[],[],[21]⟩,⟨[.p 0 0,.p 1 0],_,[],[0,1],[22]⟩,⟨[.o 0],_,[],[],[23]⟩,⟨[.o 2],_,[],[],[24]⟩,⟨[.p 3 0,.p 4 0],_,[],[3,4],[25]⟩,⟨[.p 2 0,.p 5 0,.o 0],[(26,(pOwn Zo 75 0 (some cap) ((a0.take k ++ a0.drop l).map some)))],[1],[0,1,2,3,4,5],[26,0,20,22,23,25]⟩,⟨[.p 6 0],_,[],[0,1,2,3,4,5,6],[0]⟩]) (F:=[.p 7 0,.o 3]) hst hb Zb
    (Qm rfl u_0<|Qm rfl u_0<|o_p rfl (Zpa Zdt (by simp;omega) rfl rfl u_0 u_1)<|Qm rfl u_0<|Qm rfl u_0<|o_p rfl (Zfv Zdt (by simpa using hl) rfl rfl u_0 u_1)<|o_p rfl (Zx4 (s:=0) (k:=cap) (xs:=a0.take k) (ws:=a0.drop l) Zdt (by simp;omega) (by simp;omega) (by simp;omega) (by simp) (Zrs a0 k) (Zxv a0 l) rfl rfl u_0 u_1 u_2)<|Qa rfl u_0<|o_n) (fun a g hst hb=>?_)
   have hl2:((a0.take k ++ a0.drop l).map some).length=k + (a0.length - l):=by simp;omega
   refine r_s (T:=[⟨[.o 0],_,[],[],[27]⟩,⟨[.o 0],_,[],[],[28]⟩,⟨[.p 1 0],_,[],[1],[29]⟩,⟨[.o 1],_,[],[],[30]⟩,⟨[.p 0 0,.p 2 0,.p 3 0],_,[],[0,1,2,3],[31]⟩,⟨[.p 4 0,.o 0],_,[1],[0,1,2,3,4],[0,27,28,31]⟩]) (F:=[.p 5 0]) hst hb Zb
    (Qm rfl u_0<|Qm rfl u_0<|o_p rfl (Zpr Tryd.underlying23 rfl rfl u_0)<|Qm rfl u_0<|o_p rfl (Zyv (k:=cap) Zdt (by rw [hl2,List.length_map];omega) (by rw [List.length_map];omega) rfl rfl u_0 u_1 u_2)<|o_p rfl (Zza (s:=0) (k:=cap) Zdt (by kernel_rfl) (Nat.le_refl _) (by rw [hl2,List.length_map];omega) rfl rfl u_0 u_1)<|o_n) (fun a g hst hb=>?_)
   refine r_s (T:=[⟨[.o 0],_,[],[],[32]⟩,⟨[.p 0 0],_,[],[0],[6]⟩]) (F:=[.p 1 0]) hst hb Zb
    (Qm rfl u_0<|Qa rfl u_0<|o_n) (fun a g hst hb=>?_)
   refine wp_ret ?_
   exact Zm3 rfl hst hb (Zf (s:=6)) (hst.at 0 rfl)
theorem Zp0 (a0:Za) (a1:Zg) (a2:Zi) {r:Int × Za × Zi} (h:Zh6 a0 a1 a2=some r):FnB Tryd.prog 94 [.box Zc a0 r.2.1,.val (Z1.pd a1),.box Z2 a2 r.2.2] (pInt .i64 r.1):=by
 have H0:=h
 unfold Zh6 at H0
 clear h
 refine Zh5 (N:=32) Tryd.func94 rfl rfl (Qe rfl) rfl rfl (fun a g0 bs hbs hst hb=>?_)
 obtain ⟨b0,b2,rfl⟩:=Zjx hbs
 replace hst:St 32 [(0,(Zbl (some b0) Zc 0 a0)),(1,(Z1.pd a1)),(2,(Zbl (some b2) Z2 2 a2))] _ _:=hst
 refine r_s (T:=[⟨[.o 1],_,[],[],[4]⟩,⟨[],_,[],[],[6]⟩]) (F:=[.o 0,.o 2,.p 0 0]) hst hb Zb
  (Qb rfl u_0<|Qa rfl c_i<|o_n) (fun a g hst hb=>?_)
 refine wp_seq ?_
 obtain ⟨r1,h2,H0⟩:=Ze H0
 refine r_s (T:=⟨[.o 0],_,[],[],[10]⟩ :: ⟨[.p 0 0],_,[],[0],[11]⟩ :: ⟨[.p 1 0],_,[],[0,1],[12]⟩ :: ⟨[.p 2 0],_,[],[0,1,2],[13]⟩ :: ⟨[.o 2],_,[],[],[14]⟩ :: ⟨[.p 4 0],_,[],[4],[15]⟩ :: ⟨[.p 3 0,.p 5 0],_,[],Lr 6,[16]⟩ :: ⟨[.p 6 0],_,[],Lr 7,[9]⟩ :: ⟨[.p 7 0],_,[],Lr 8,[17]⟩ :: ⟨[.p 7 0],_,[],Lr 8,[18]⟩ :: ⟨[.p 8 0],_,[],Lr 9,[7]⟩ :: ⟨[.p 9 0],_,[],Lr 11,[8]⟩ :: []) (F:=[.o 0,.o 1,.p 10 0,.p 11 0]) hst hb Zb
  (Qm rfl u_0<|o_p rfl (Z9 rfl rfl u_0 (fun _ _ ⟨_,_,_,e,_⟩=>⟨_,e⟩))<|o_p rfl (Zt Zb5 (off:=7) (by kernel_rfl) rfl rfl u_0)<|QP rfl Zc4 u_0<|Qf rfl Zf7 u_0<|Ql rfl ty_9 u_0<|o_p rfl (Zr Zxt (Zl7 _ _ h2) rfl rfl (.cons u_0 (.cons u_1 .nil)))<|Qm rfl u_0<|o_p rfl (Zbg rfl rfl u_0 rfl)<|o_p rfl (Zbg rfl rfl u_0 rfl)<|Qa rfl u_0<|Qa rfl u_0<|o_n) (fun a g hst hb=>?_)
 refine r_s (T:=[⟨[.o 3],_,[],[],[19]⟩]) (F:=[.o 0,.o 1,.o 2,.p 0 0]) hst hb Zb
  (Qm rfl u_0<|o_n) (fun a g hst hb=>?_)
 refine Zce (fun a w=>∃ (j8:Za) (g:G),w=g.w ∧ St 32 [(0,(Zbl (some b0) Zc 0 j8)),(2,(Zbl (some b2) Z2 2 a2))] a g ∧ Base g0 g ∧ Zhz a2 j8=some r) ?_ ?_
 ·rintro a w ⟨j8,g,rfl,hst,hb,H0⟩
  unfold Zhz at H0
  refine Zm ?_
  refine r_s (T:=[⟨[],_,[],[],[6]⟩]) (F:=[.o 0,.o 1,.p 0 0]) hst hb Zb
   (Qa rfl c_i<|o_n) (fun a g hst hb=>?_)
  refine wp_ret ?_
  obtain rfl:=Option.some.inj H0
  exact Zf6 rfl hst hb (Zf (s:=6)) (hst.at 2 rfl) ⟨Zb7 (hst.at 0 rfl),Zb7 (hst.at 1 rfl),trivial⟩
 ·refine wp_cond_split (hst.bool 3 rfl) (fun hc3=>?_) (fun hc3=>?_)
  ·replace H0:=Zp hc3 H0
   obtain ⟨r4,h5,H0⟩:=Ze H0;obtain ⟨r6,h7,H0⟩:=Ze H0
   refine r_g (L:=[(0,_),(2,_),(7,_)]) (T:=⟨[.o 0],_,[],[],[20]⟩ :: ⟨[.o 0],_,[],[],[21]⟩ :: ⟨[.p 1 0],_,[],[1],[22]⟩ :: ⟨[.p 2 0],_,[],[1,2],[23]⟩ :: ⟨[.p 3 0],_,[],[1,2,3],[24]⟩ :: ⟨[.p 4 0],_,[26],List.range' 1 4,[25]⟩ :: ⟨[.o 2],_,[],[],[26]⟩ :: ⟨[.o 2],_,[],[],[27]⟩ :: ⟨[.p 7 0],_,[],[7],[28]⟩ :: ⟨[.p 5 0,.p 6 0,.p 8 0],_,[26],List.range' 1 8,[25,29]⟩ :: ⟨[.p 0 0],_,[],Lr 10,[30]⟩ :: ⟨[.p 10 0],_,[],Lr 11,[31]⟩ :: ⟨[.p 9 0,.p 11 0,.o 0],_,[1],Lr 12,[0,20,21,22,23,30,31]⟩ :: []) (F:=[.p 12 0,.o 1]) (hst.pick [0,1,2] rfl) hb Zb
    (Qm rfl u_0<|Qm rfl u_0<|o_p rfl (Z9 rfl rfl u_0 (fun _ _ ⟨_,_,_,e,_⟩=>⟨_,e⟩))<|o_p rfl (Zt Zb5 (off:=7) (by kernel_rfl) rfl rfl u_0)<|QP rfl Zc4 u_0<|o_p rfl (Zlx (j:=25) Zt6 (Zd8 _ h5) rfl rfl (.cons u_0 .nil))<|Qm rfl u_0<|Qm rfl u_0<|o_p rfl (Zcs rfl rfl u_0 c_i rfl)<|o_p rfl (Znm Z7f (Zjr _ _ _ h7) rfl rfl rfl u_0 (.cons u_1 (.cons u_2 .nil)))<|o_p rfl (Z9 rfl rfl u_0 (fun _ _ ⟨_,_,_,e,_⟩=>⟨_,e⟩))<|o_p rfl (Zt Zb5 (off:=7) (by kernel_rfl) rfl rfl u_0)<|o_p rfl (Zpt Zc4 rfl rfl u_2 u_1 u_0)<|o_n) (fun a g hst hb=>?_)
   exact ⟨({ a0 with List:=r6 }),g,rfl,(hst.pick [0,1] rfl),hb,H0⟩
  ·replace H0:=Zq hc3 H0
   refine wp_skip ?_
   exact ⟨a0,g,rfl,(hst.pick [0,1] rfl),hb,H0⟩
theorem Zp7 (a0:Za) (a1:Zg) (a2:Zi) {r:Int × Za × Zi} (h:Zfm a0 a1 a2=some r):FnB Tryd.prog 97 [.box Zc a0 r.2.1,.val (Z1.pd a1),.box Z2 a2 r.2.2] (pInt .i64 r.1):=by
 have H0:=h
 unfold Zfm at H0
 clear h
 refine Zh5 (N:=21) Tryd.func97 rfl rfl (Qe rfl) rfl rfl (fun a g0 bs hbs hst hb=>?_)
 obtain ⟨b0,b2,rfl⟩:=Zjx hbs
 replace hst:St 21 [(0,(Zbl (some b0) Zc 0 a0)),(1,(Z1.pd a1)),(2,(Zbl (some b2) Z2 2 a2))] _ _:=hst
 refine r_s (T:=[⟨[.o 1],_,[],[],[4]⟩,⟨[],_,[],[],[6]⟩]) (F:=[.o 0,.o 2,.p 0 0]) hst hb Zb
  (Qb rfl u_0<|Qa rfl c_i<|o_n) (fun a g hst hb=>?_)
 refine wp_seq ?_
 obtain ⟨r1,h2,H0⟩:=Ze H0
 refine r_s (T:=⟨[.o 0],_,[],[],[10]⟩ :: ⟨[.p 0 0],_,[],[0],[11]⟩ :: ⟨[.p 1 0],_,[],[0,1],[12]⟩ :: ⟨[.p 2 0],_,[],[0,1,2],[13]⟩ :: ⟨[.o 2],_,[],[],[14]⟩ :: ⟨[.p 4 0],_,[],[4],[15]⟩ :: ⟨[.p 3 0,.p 5 0],_,[],Lr 6,[16]⟩ :: ⟨[.p 6 0],_,[],Lr 7,[9]⟩ :: ⟨[.p 7 0],_,[],Lr 8,[17]⟩ :: ⟨[.p 7 0],_,[],Lr 8,[18]⟩ :: ⟨[.p 8 0],_,[],Lr 9,[7]⟩ :: ⟨[.p 9 0],_,[],Lr 11,[8]⟩ :: []) (F:=[.o 0,.o 1,.p 11 0]) hst hb Zb
  (Qm rfl u_0<|o_p rfl (Z9 rfl rfl u_0 (fun _ _ ⟨_,_,_,e,_⟩=>⟨_,e⟩))<|o_p rfl (Zt Zb5 (off:=7) (by kernel_rfl) rfl rfl u_0)<|QP rfl Zc4 u_0<|Qf rfl Zf7 u_0<|Ql rfl ty_9 u_0<|o_p rfl (Zr Zxt (Zl7 _ _ h2) rfl rfl (.cons u_0 (.cons u_1 .nil)))<|Qm rfl u_0<|o_p rfl (Zbg rfl rfl u_0 rfl)<|o_p rfl (Zbg rfl rfl u_0 rfl)<|Qa rfl u_0<|Qa rfl u_0<|o_n) (fun a g hst hb=>?_)
 refine r_s (T:=[⟨[.o 2],_,[],[],[19]⟩,⟨[.p 0 0],_,[],[0],[20]⟩]) (F:=[.o 0,.o 1,.p 1 0]) hst hb Zb
  (Qm rfl u_0<|Qn rfl u_0<|o_n) (fun a g hst hb=>?_)
 refine wp_cond_split (hst.bool 2 rfl) (fun hc3=>?_) (fun hc3=>?_)
 ·replace H0:=Zp hc3 H0
  refine r_s (L:=[(0,_),(2,_)]) (T:=[⟨[],_,[],[],[6]⟩]) (F:=[.o 0,.o 1,.p 0 0]) (hst.pick [0,1] rfl) hb Zb
   (Qa rfl c_i<|o_n) (fun a g hst hb=>?_)
  refine wp_ret ?_
  refine Zj ?_
  obtain rfl:=Option.some.inj H0
  exact Zf6 rfl hst hb (Zf (s:=6)) (hst.at 2 rfl) ⟨Zb7 (hst.at 0 rfl),Zb7 (hst.at 1 rfl),trivial⟩
 ·replace H0:=Zq hc3 H0
  refine wp_skip ?_
  refine Zm ?_
  refine r_s (L:=[(0,_),(2,_)]) (T:=[⟨[],_,[],[],[6]⟩]) (F:=[.o 0,.o 1,.p 0 0]) (hst.pick [0,1] rfl) hb Zb
   (Qa rfl c_i<|o_n) (fun a g hst hb=>?_)
  refine wp_ret ?_
  obtain rfl:=Option.some.inj H0
  exact Zf6 rfl hst hb (Zf (s:=6)) (hst.at 2 rfl) ⟨Zb7 (hst.at 0 rfl),Zb7 (hst.at 1 rfl),trivial⟩
theorem Ztr (a0:Za) (a1:Zg) (a2:Zi) {r:Int × Za × Zi} (h:Zii a0 a1 a2=some r):FnB Tryd.prog 98 [.box Zc a0 r.2.1,.val (Z1.pd a1),.box Z2 a2 r.2.2] (pInt .i64 r.1):=by
 have H0:=h
 unfold Zii at H0
 clear h
 refine Zh5 (N:=75) Tryd.func98 rfl rfl (Qe rfl) rfl rfl (fun a g0 bs hbs hst hb=>?_)
 obtain ⟨b0,b2,rfl⟩:=Zjx hbs
 replace hst:St 75 [(0,(Zbl (some b0) Zc 0 a0)),(1,(Z1.pd a1)),(2,(Zbl (some b2) Z2 2 a2))] _ _:=hst
 refine r_s (T:=[⟨[.o 1],_,[],[],[4]⟩,⟨[],_,[],[],[6]⟩]) (F:=[.o 0,.o 2,.p 0 0]) hst hb Zb
  (Qb rfl u_0<|Qa rfl c_i<|o_n) (fun a g hst hb=>?_)
 refine r_s (T:=[⟨[.o 2],_,[],[],[10]⟩,⟨[.p 0 0],_,[],[0],[11]⟩,⟨[.o 2],_,[],[],[12]⟩,⟨[.p 2 0],_,[],[2],[13]⟩,⟨[.p 1 0,.p 3 0],_,[],Lr 4,[14]⟩,⟨[],[(7,(pBox Zo 7 (default:Zd)))],[8],[],[7]⟩,⟨[.p 4 0,.p 5 0],_,[8],Lr 6,[7]⟩]) (F:=[.o 0,.o 1,.p 6 0]) hst hb Zb
  (Qf rfl Zk0 u_0<|Ql rfl Zcv u_0<|Qf rfl Zf7 u_0<|Ql rfl ty_9 u_0<|o_p rfl (Zy2 rfl rfl u_0 u_1)<|o_p rfl (Zbt (zs:=[.float .f64 0,.string ByteArray.empty]) (by kernel_rfl) (fun g=>Zgr g) rfl rfl)<|o_p rfl (Zcg Zd2 rfl rfl u_1 u_0)<|o_n) (fun a g hst hb=>?_)
 refine r_s (T:=[⟨[],_,[],[],[8]⟩]) (F:=[.o 0,.o 1,.o 2,.p 0 0]) hst hb Zb
  (Qa rfl c_i<|o_n) (fun a g hst hb=>?_)
 obtain ⟨z8,hz1,H0⟩:=Ze H0
 refine wp_seq ?_
 refine Zce (fun a w=>∃ (y7:Int) (g:G),w=g.w ∧ St 75 [(0,(Zbl (some b0) Zc 0 a0)),(2,(Zbl (some b2) Z2 2 a2)),(7,(Zo.ptr ({ Score:=a1.X,Name:=a1.S }:Zd))),(8,(pInt .i64 y7))] a g ∧ Base g0 g ∧ y7=z8) ?_ ?_
 ·rintro a w ⟨y7,g,rfl,hst,hb,rfl⟩
  refine Zm ?_
  refine wp_seq ?_
  obtain ⟨e9,h10,H0⟩:=Ze H0;obtain ⟨r11,h12,H0⟩:=Ze H0
  refine r_s (T:=⟨[.o 3],_,[],[],[35]⟩ :: ⟨[.o 0],_,[],[],[36]⟩ :: ⟨[.p 1 0],_,[],[1],[37]⟩ :: ⟨[.p 2 0],_,[],[1,2],[38]⟩ :: ⟨[.p 3 0],_,[],[1,2,3],[39]⟩ :: ⟨[.p 4 0],_,[],List.range' 1 4,[40]⟩ :: ⟨[.p 0 0,.p 5 0],_,[],Lr 6,[41]⟩ :: ⟨[.p 6 0],_,[],Lr 7,[42]⟩ :: ⟨[.p 7 0,.o 2],_,[],Lr 8,[43]⟩ :: ⟨[.p 7 0,.o 0],_,[],Lr 8,[44]⟩ :: ⟨[.p 7 0,.p 9 0],_,[],[0,1,2,3,4,5,6,7,9],[45]⟩ :: ⟨[.p 7 0,.p 10 0],_,[],[0,1,2,3,4,5,6,7,9,10],[46]⟩ :: ⟨[.p 7 0,.p 11 0],_,[],[0,1,2,3,4,5,6,7,9,10,11],[47]⟩ :: ⟨[.p 7 0,.o 3],_,[],Lr 8,[48]⟩ :: ⟨[.p 7 0,.p 12 0,.p 13 0],_,[],0 :: 1 :: 2 :: 3 :: 4 :: 5 :: 6 :: 7 :: 9 :: 10 :: 11 :: 12 :: 13 :: [],[49]⟩ :: ⟨[.p 7 0,.p 14 0],_,[],0 :: 1 :: 2 :: 3 :: 4 :: 5 :: 6 :: 7 :: 9 :: 10 :: 11 :: 12 :: 13 :: 14 :: [],[50]⟩ :: ⟨[.p 7 0,.p 8 0,.p 15 0],_,[],Lr 16,[51]⟩ :: ⟨[.p 7 0,.p 16 0],_,[],Lr 17,[52]⟩ :: ⟨[.p 7 0,.p 17 0],_,[],Lr 18,[53]⟩ :: []) (F:=[.o 0,.o 1,.o 2,.o 3,.p 18 0]) hst hb Zb
   (Qm rfl u_0<|Qm rfl u_0<|o_p rfl (Z9 rfl rfl u_0 (fun _ _ ⟨_,_,_,e,_⟩=>⟨_,e⟩))<|o_p rfl (Zt Zb5 (off:=7) (by kernel_rfl) rfl rfl u_0)<|QP rfl Zc4 u_0<|o_p rfl (Zcc Tryd.underlying23 rfl rfl u_0)<|o_p rfl (Zb8 rfl rfl u_0 u_1)<|Qm rfl u_0<|o_g (Qg_t rfl (fun hG=>Zn Zd2 rfl rfl u_0))<|o_g (Qg_t rfl (fun hG=>Z0 rfl rfl u_0))<|o_g (Qg_t rfl (fun hG=>Z9 rfl rfl (Opd.gd hG u_0) (fun _ _ ⟨_,_,_,e,_⟩=>⟨_,e⟩)))<|o_g (Qg_t rfl (fun hG=>Zt Zb5 (off:=7) (by kernel_rfl) rfl rfl (Opd.gd hG u_0)))<|o_g (Qg_t rfl (fun hG=>Zj6 Zc4 rfl rfl (Opd.gd hG u_0)))<|o_g (Qg_t rfl (fun hG=>Z0 rfl rfl u_0))<|o_g (Qg_t rfl (fun hG=>Zbp Tryd.underlying23 Zga rfl rfl (Opd.gd hG u_0) (Opd.gd hG u_1) (Zbs h10 hG)))<|o_g (Qg_t rfl (fun hG=>Zn Zd2 rfl rfl (Opd.gd hG u_0)))<|o_g (Qg_t rfl (fun hG=>Zr Zx3 (Zld _ _ (Zbs h12 hG)) rfl rfl (.cons (Opd.gd hG u_0) (.cons (Opd.gd hG u_1) .nil))))<|o_g (Qg_t rfl (fun hG=>Ze5 rfl rfl (Opd.gd hG u_0)))<|o_p rfl (Zbi rfl rfl u_0 (fun hz=>(Opd.gd hz u_1)))<|o_n) (fun a g hst hb=>?_)
  refine wp_cond_split (hst.bool 4 rfl) (fun hc13=>?_) (fun hc13=>?_)
  ·replace H0:=Zp hc13 H0
   refine r_s (L:=[(0,_),(2,_)]) (T:=[⟨[],_,[],[],[6]⟩]) (F:=[.o 0,.o 1,.p 0 0]) (hst.pick [0,1] rfl) hb Zb
    (Qa rfl c_i<|o_n) (fun a g hst hb=>?_)
   refine wp_ret ?_
   refine Zj ?_
   obtain rfl:=Option.some.inj H0
   exact Zf6 rfl hst hb (Zf (s:=6)) (hst.at 2 rfl) ⟨Zb7 (hst.at 0 rfl),Zb7 (hst.at 1 rfl),trivial⟩
  ·replace H0:=Zq hc13 H0
   refine wp_skip ?_
   refine Zm ?_
   obtain ⟨r14,h15,H0⟩:=Ze H0;obtain ⟨r16,h17,H0⟩:=Ze H0
   refine r_s (L:=[(0,_),(2,_),(7,_),(8,_)]) (T:=[⟨[.o 0],_,[],[],[54]⟩,⟨[.p 0 0],_,[],[0],[55]⟩,⟨[.p 1 0],_,[],[0,1],[56]⟩,⟨[.p 2 0],_,[],[0,1,2],[57]⟩,⟨[.p 3 0],_,[59],Lr 4,[58]⟩,⟨[.o 3],_,[],[],[59]⟩,⟨[.o 2],_,[],[],[60]⟩,⟨[.p 6 0],_,[],[6],[61]⟩,⟨[.p 4 0,.p 5 0,.p 7 0],_,[59],Lr 8,[58,62]⟩,⟨[.p 8 0],_,[],Lr 9,[9]⟩]) (F:=[.o 0,.o 1,.p 9 0]) (hst.pick [0,1,2,3] rfl) hb Zb
    (Qm rfl u_0<|o_p rfl (Z9 rfl rfl u_0 (fun _ _ ⟨_,_,_,e,_⟩=>⟨_,e⟩))<|o_p rfl (Zt Zb5 (off:=7) (by kernel_rfl) rfl rfl u_0)<|QP rfl Zc4 u_0<|o_p rfl (Zlx (j:=58) Zt6 (Zd8 _ h15) rfl rfl (.cons u_0 .nil))<|Qm rfl u_0<|Ql rfl Zd2 u_0<|o_p rfl (Zi5 Zdt (xs:=[.tmp 60]) (.cons u_0 .nil) (by decide) rfl rfl)<|o_p rfl (Znm Zzl (Zgi _ _ _ h17) rfl rfl rfl u_0 (.cons u_1 (.cons u_2 .nil)))<|Qa rfl u_0<|o_n) (fun a g hst hb=>?_)
   obtain ⟨c18,h19,H0⟩:=Ze H0
   refine r_s (T:=⟨[.o 0],_,[],[],[63]⟩ :: ⟨[.o 2],_,[],[],[64]⟩ :: ⟨[.o 2],_,[],[],[65]⟩ :: ⟨[.p 2 0],_,[],[2],[66]⟩ :: ⟨[.o 0],_,[],[],[67]⟩ :: ⟨[.p 4 0],_,[],[4],[68]⟩ :: ⟨[.p 5 0],_,[],[4,5],[69]⟩ :: ⟨[.p 6 0],_,[],[4,5,6],[70]⟩ :: ⟨[.p 3 0,.p 7 0],_,[],List.range' 2 6,[71]⟩ :: ⟨[.p 1 0,.p 8 0],_,[],List.range' 1 8,[72]⟩ :: ⟨[.p 0 0],_,[],Lr 10,[73]⟩ :: ⟨[.p 10 0],_,[],Lr 11,[74]⟩ :: ⟨[.p 9 0,.p 11 0,.o 0],_,[1],Lr 12,[0,63,67,68,69,73,74]⟩ :: []) (F:=[.p 12 0,.o 1]) hst hb Zb
    (Qm rfl u_0<|Qm rfl u_0<|Qm rfl u_0<|o_p rfl (Zcc Tryd.underlying23 rfl rfl u_0)<|Qm rfl u_0<|o_p rfl (Z9 rfl rfl u_0 (fun _ _ ⟨_,_,_,e,_⟩=>⟨_,e⟩))<|o_p rfl (Zt Zfb (off:=5) (by kernel_rfl) rfl rfl u_0)<|QP rfl ty_3 u_0<|o_p rfl (Z52 rfl rfl u_0 u_1)<|o_p rfl (Z4v Tryd.underlying23 Zga rfl rfl u_0 u_1 h19)<|o_p rfl (Z9 rfl rfl u_0 (fun _ _ ⟨_,_,_,e,_⟩=>⟨_,e⟩))<|o_p rfl (Zt Zb5 (off:=7) (by kernel_rfl) rfl rfl u_0)<|o_p rfl (Zpt Zc4 rfl rfl u_2 u_1 u_0)<|o_n) (fun a g hst hb=>?_)
   refine r_s (T:=[⟨[],_,[],[],[6]⟩]) (F:=[.o 0,.o 1,.p 0 0]) hst hb Zb
    (Qa rfl c_i<|o_n) (fun a g hst hb=>?_)
   refine wp_ret ?_
   obtain rfl:=Option.some.inj H0
   exact Zf6 rfl hst hb (Zf (s:=6)) (hst.at 2 rfl) ⟨Zb7 (hst.at 0 rfl),Zb7 (hst.at 1 rfl),trivial⟩
 ·refine wp_block ?_
  refine wp_loop_ghost (fun n a w=>∃ (x1:Int) (g:G),w=g.w ∧ St 75 [(0,(Zbl (some b0) Zc 0 a0)),(2,(Zbl (some b2) Z2 2 a2)),(7,(Zo.ptr ({ Score:=a1.X,Name:=a1.S }:Zd))),(8,(pInt .i64 x1))] a g ∧ Base g0 g ∧ Zeq a0 a1 n x1=some z8) (Int.toNat ((a0.List.length:Int) - (0:Int)) + 1) ⟨(0:Int),g,rfl,(hst.pick [0,1,2,3] rfl),hb,hz1⟩ (fun n a w hI=>?_)
  obtain ⟨x1,g,rfl,hst,hb,H1⟩:=hI
  cases n with
  | zero=>exact absurd H1 (by simp [Zeq])
  | succ n =>
   rw [Zeq] at H1
   refine wp_seq ?_
   obtain ⟨e2,h3,H1⟩:=Ze H1;obtain ⟨r4,h5,H1⟩:=Ze H1
   refine r_s (T:=⟨[.o 3],_,[],[],[15]⟩ :: ⟨[.o 0],_,[],[],[16]⟩ :: ⟨[.p 1 0],_,[],[1],[17]⟩ :: ⟨[.p 2 0],_,[],[1,2],[18]⟩ :: ⟨[.p 3 0],_,[],[1,2,3],[19]⟩ :: ⟨[.p 4 0],_,[],List.range' 1 4,[20]⟩ :: ⟨[.p 0 0,.p 5 0],_,[],Lr 6,[21]⟩ :: ⟨[.p 6 0],_,[],Lr 7,[22]⟩ :: ⟨[.p 7 0,.o 0],_,[],Lr 8,[23]⟩ :: ⟨[.p 7 0,.p 8 0],_,[],Lr 9,[24]⟩ :: ⟨[.p 7 0,.p 9 0],_,[],Lr 10,[25]⟩ :: ⟨[.p 7 0,.p 10 0],_,[],Lr 11,[26]⟩ :: ⟨[.p 7 0,.o 3],_,[],Lr 8,[27]⟩ :: ⟨[.p 7 0,.p 11 0,.p 12 0],_,[],Lr 13,[28]⟩ :: ⟨[.p 7 0,.p 13 0],_,[],Lr 14,[29]⟩ :: ⟨[.p 7 0,.o 2],_,[],Lr 8,[30]⟩ :: ⟨[.p 7 0,.p 14 0,.p 15 0],_,[],Lr 16,[31]⟩ :: ⟨[.p 7 0,.p 16 0],_,[],Lr 17,[32]⟩ :: []) (F:=[.o 0,.o 1,.o 2,.o 3,.p 17 0]) hst hb Zb
    (Qm rfl u_0<|Qm rfl u_0<|o_p rfl (Z9 rfl rfl u_0 (fun _ _ ⟨_,_,_,e,_⟩=>⟨_,e⟩))<|o_p rfl (Zt Zb5 (off:=7) (by kernel_rfl) rfl rfl u_0)<|QP rfl Zc4 u_0<|o_p rfl (Zcc Tryd.underlying23 rfl rfl u_0)<|o_p rfl (Zb8 rfl rfl u_0 u_1)<|Qm rfl u_0<|o_g (Qg_t rfl (fun hG=>Z0 rfl rfl u_0))<|o_g (Qg_t rfl (fun hG=>Z9 rfl rfl (Opd.gd hG u_0) (fun _ _ ⟨_,_,_,e,_⟩=>⟨_,e⟩)))<|o_g (Qg_t rfl (fun hG=>Zt Zb5 (off:=7) (by kernel_rfl) rfl rfl (Opd.gd hG u_0)))<|o_g (Qg_t rfl (fun hG=>Zj6 Zc4 rfl rfl (Opd.gd hG u_0)))<|o_g (Qg_t rfl (fun hG=>Z0 rfl rfl u_0))<|o_g (Qg_t rfl (fun hG=>Zbp Tryd.underlying23 Zga rfl rfl (Opd.gd hG u_0) (Opd.gd hG u_1) (Zbs h3 hG)))<|o_g (Qg_t rfl (fun hG=>Zn Zd2 rfl rfl (Opd.gd hG u_0)))<|o_g (Qg_t rfl (fun hG=>Zn Zd2 rfl rfl u_0))<|o_g (Qg_t rfl (fun hG=>Zr Zx3 (Zld _ _ (Zbs h5 hG)) rfl rfl (.cons (Opd.gd hG u_0) (.cons (Opd.gd hG u_1) .nil))))<|o_p rfl (Zbi rfl rfl u_0 (fun hz=>(Opd.gd hz u_1)))<|o_n) (fun a g hst hb=>?_)
   refine wp_cond_split (hst.bool 4 rfl) (fun hc6=>?_) (fun hc6=>?_)
   ·replace H1:=Zp hc6 H1
    refine wp_skip ?_
    refine Zm ?_
    refine wp_block ?_
    refine r_g (L:=[(0,_),(2,_),(7,_),(8,_)]) (T:=[⟨[.o 3],_,[],[],[33]⟩,⟨[.p 0 0],_,[],[0],[34]⟩,⟨[.p 1 0],_,[],[0,1],[8]⟩]) (F:=[.o 0,.o 1,.o 2,.p 2 0]) (hst.pick [0,1,2,3] rfl) hb Zb
     (Qm rfl u_0<|o_p rfl (Zcs rfl rfl u_0 c_i rfl)<|Qa rfl u_0<|o_n) (fun a g hst hb=>?_)
    refine Zbj ?_
    exact ⟨n,Nat.lt_succ_self _,(IntKind.i64.wrap (x1 + (1:Int))),g,rfl,(hst.pick [0,1,2,3] rfl),hb,H1⟩
   ·replace H1:=Zq hc6 H1
    refine wp_exit ?_
    refine Zca ?_
    refine Zca ?_
    refine Zc5 ?_
    exact ⟨x1,g,rfl,(hst.pick [0,1,2,3] rfl),hb,Option.some.inj H1⟩
def Phi (k:Int) (f:FuncId) (C:List Pd):Prop:=∀ (x0 x1:Za) (a:Zg) (y0 y1:Zi) (c:Int),Z6 k x0 a y0=some (c,x1,y1) → FnB Tryd.prog f ([.box Zc x0 x1,.val (Z1.pd a),.box Z2 y0 y1] ++ C.map .val) (pInt .i64 c)
theorem Z45 {k:Int} {x0:Za} {a:Zg} {y0:Zi} {r:Int × Za × Zi} (h:Z6 k x0 a y0=some r):∀ f C,Phi k f C → FnB Tryd.prog f ([.box Zc x0 r.2.1,.val (Z1.pd a),.box Z2 y0 r.2.2] ++ C.map .val) (pInt .i64 r.1):=fun f C hΦ=>hΦ _ _ _ _ _ _ h
def tabT:TabT:=fun k=>if 5 ≤ k ∧ k ≤ 21 then some (Phi k) else none
theorem Z6a {i:Int} (h:5 ≤ i ∧ i ≤ 21):tabT i.toNat=some (Phi i):=by
 unfold tabT
 rw [if_pos (by omega),show ((i.toNat:Nat):Int)=i by omega]
theorem Z7b:Phi 5 82 []:=fun x0 x1 a y0 y1 c h=>Zp1 x0 a y0 (r:=(c,x1,y1)) (by simpa [Z6] using h)
theorem Z7i:Phi 6 83 []:=fun x0 x1 a y0 y1 c h=>Zp3 x0 a y0 (r:=(c,x1,y1)) (by simpa [Z6] using h)
theorem Z73:Phi 7 84 []:=fun x0 x1 a y0 y1 c h=>Zp4 x0 a y0 (r:=(c,x1,y1)) (by simpa [Z6] using h)
theorem Z7e:Phi 8 85 []:=fun x0 x1 a y0 y1 c h=>Zvj x0 a y0 (r:=(c,x1,y1)) (by simpa [Z6] using h)
theorem Z77:Phi 9 86 []:=fun x0 x1 a y0 y1 c h=>Zmf x0 a y0 (r:=(c,x1,y1)) (by simpa [Z6] using h)
theorem Z5j:Phi 10 87 []:=fun x0 x1 a y0 y1 c h=>Zp8 x0 a y0 (r:=(c,x1,y1)) (by simpa [Z6] using h)
theorem Z5e:Phi 11 88 []:=fun x0 x1 a y0 y1 c h=>Zp9 x0 a y0 (r:=(c,x1,y1)) (by simpa [Z6] using h)
theorem Z5f:Phi 12 86 []:=fun x0 x1 a y0 y1 c h=>Zmf x0 a y0 (r:=(c,x1,y1)) (by simpa [Z6] using h)
theorem Z5g:Phi 13 106 [(Kd.fnc.ptr 38)]:=fun x0 x1 a y0 y1 c h=>by
 have h':Zdo (fun x y=>Zge x y) x0 a y0=some (c,x1,y1):=by simpa [Z6] using h
 obtain ⟨z,hz,h2⟩:=Ze h'
 injection h2 with h2
 simp only [Prod.mk.injEq] at h2
 obtain ⟨rfl,rfl,rfl⟩:=h2
 exact Zh8 38 Z10 (fun x y=>Zge x y) (fun x y z h=>Zrk x y h) x0 a y0 hz
theorem Z6s:Phi 14 106 [(Kd.fnc.ptr 39)]:=fun x0 x1 a y0 y1 c h=>by
 have h':Zdo (fun x y=>Zgh x y) x0 a y0=some (c,x1,y1):=by simpa [Z6] using h
 obtain ⟨z,hz,h2⟩:=Ze h'
 injection h2 with h2
 simp only [Prod.mk.injEq] at h2
 obtain ⟨rfl,rfl,rfl⟩:=h2
 exact Zh8 39 Z2k (fun x y=>Zgh x y) (fun x y z h=>Zrh x y h) x0 a y0 hz
theorem Z6l:Phi 15 106 [(Kd.fnc.ptr 90)]:=fun x0 x1 a y0 y1 c h=>by
 have h':Zdo (fun x y=>Zgy x y) x0 a y0=some (c,x1,y1):=by simpa [Z6] using h
 obtain ⟨z,hz,h2⟩:=Ze h'
 injection h2 with h2
 simp only [Prod.mk.injEq] at h2
 obtain ⟨rfl,rfl,rfl⟩:=h2
 exact Zh8 90 Z63 (fun x y=>Zgy x y) (fun x y z h=>Zv6 x y h) x0 a y0 hz
theorem Z6f:Phi 16 106 [(Kd.fnc.ptr 91)]:=fun x0 x1 a y0 y1 c h=>by
 have h':Zdo (fun x y=>Zfx x y) x0 a y0=some (c,x1,y1):=by simpa [Z6] using h
 obtain ⟨z,hz,h2⟩:=Ze h'
 injection h2 with h2
 simp only [Prod.mk.injEq] at h2
 obtain ⟨rfl,rfl,rfl⟩:=h2
 exact Zh8 91 Z7r (fun x y=>Zfx x y) (fun x y z h=>Zu9 x y h) x0 a y0 hz
theorem Z5r:Phi 17 106 [(Kd.fnc.ptr 92)]:=fun x0 x1 a y0 y1 c h=>by
 have h':Zdo (fun x y=>Zfq x y) x0 a y0=some (c,x1,y1):=by simpa [Z6] using h
 obtain ⟨z,hz,h2⟩:=Ze h'
 injection h2 with h2
 simp only [Prod.mk.injEq] at h2
 obtain ⟨rfl,rfl,rfl⟩:=h2
 exact Zh8 92 Z7w (fun x y=>Zfq x y) (fun x y z h=>Zp5 x y h) x0 a y0 hz
theorem Z55:Phi 18 93 []:=fun x0 x1 a y0 y1 c h=>Zvg x0 a y0 (r:=(c,x1,y1)) (by simpa [Z6] using h)
theorem Z51:Phi 19 94 []:=fun x0 x1 a y0 y1 c h=>Zp0 x0 a y0 (r:=(c,x1,y1)) (by simpa [Z6] using h)
theorem Z5x:Phi 20 97 []:=fun x0 x1 a y0 y1 c h=>Zp7 x0 a y0 (r:=(c,x1,y1)) (by simpa [Z6] using h)
theorem Z5w:Phi 21 98 []:=fun x0 x1 a y0 y1 c h=>Ztr x0 a y0 (r:=(c,x1,y1)) (by simpa [Z6] using h)
theorem Zwe {N d:Nat} {o:Oper} {uses:Z4} (hop:o.op=.build 116 #[(5,.func 82),(6,.func 83),(7,.func 84),(8,.func 85),(9,.func 86),(12,.func 86),(10,.func 87),(11,.func 88),(13,.tmp 1),(14,.tmp 2),(15,.tmp 3),(16,.tmp 4),(17,.tmp 5),(18,.func 93),(19,.func 94),(20,.func 97),(21,.func 98)]) (hd:o.dst=some d) (h1:Opd uses (.tmp 1) (pClo 106 [(Kd.fnc.ptr 38)] rfl)) (h2:Opd uses (.tmp 2) (pClo 106 [(Kd.fnc.ptr 39)] rfl)) (h3:Opd uses (.tmp 3) (pClo 106 [(Kd.fnc.ptr 90)] rfl)) (h4:Opd uses (.tmp 4) (pClo 106 [(Kd.fnc.ptr 91)] rfl)) (h5:Opd uses (.tmp 5) (pClo 106 [(Kd.fnc.ptr 92)] rfl)):OB Tryd.prog N o uses [(d,((Kd.tab Tryd.prog 22 (by decide)).pd tabT))] [] :=
 Zb1 hd fun a g hh=>by
  obtain ⟨c1,e1,k1⟩:=h1 a g hh
  obtain ⟨c2,e2,k2⟩:=h2 a g hh
  obtain ⟨c3,e3,k3⟩:=h3 a g hh
  obtain ⟨c4,e4,k4⟩:=h4 a g hh
  obtain ⟨c5,e5,k5⟩:=h5 a g hh
  refine ⟨.agg #[.nilFunc,.nilFunc,.nilFunc,.nilFunc,.nilFunc,.func (.func 82) #[] #[],.func (.func 83) #[] #[],.func (.func 84) #[] #[],.func (.func 85) #[] #[],.func (.func 86) #[] #[],.func (.func 87) #[] #[],.func (.func 88) #[] #[],.func (.func 86) #[] #[],.func (.func 106) #[] c1.toArray,.func (.func 106) #[] c2.toArray,.func (.func 106) #[] c3.toArray,.func (.func 106) #[] c4.toArray,.func (.func 106) #[] c5.toArray,.func (.func 93) #[] #[],.func (.func 94) #[] #[],.func (.func 97) #[] #[],.func (.func 98) #[] #[]],?_,[.nilFunc,.nilFunc,.nilFunc,.nilFunc,.nilFunc,.func (.func 82) #[] #[],.func (.func 83) #[] #[],.func (.func 84) #[] #[],.func (.func 85) #[] #[],.func (.func 86) #[] #[],.func (.func 87) #[] #[],.func (.func 88) #[] #[],.func (.func 86) #[] #[],.func (.func 106) #[] c1.toArray,.func (.func 106) #[] c2.toArray,.func (.func 106) #[] c3.toArray,.func (.func 106) #[] c4.toArray,.func (.func 106) #[] c5.toArray,.func (.func 93) #[] #[],.func (.func 94) #[] #[],.func (.func 97) #[] #[],.func (.func 98) #[] #[]],⟨rfl,?_,?_⟩,rfl⟩
  ·simp only [execOp,hop,Sem.run_bind,Sem.run_pure,Result.andThen_ok,List.map_toArray,List.map_cons,List.map_nil,e1,e2,e3,e4,e5]
   rw [Zur Tryd.underlying116 (zero:=.agg #[.nilFunc,.nilFunc,.nilFunc,.nilFunc,.nilFunc,.nilFunc,.nilFunc,.nilFunc,.nilFunc,.nilFunc,.nilFunc,.nilFunc,.nilFunc,.nilFunc,.nilFunc,.nilFunc,.nilFunc,.nilFunc,.nilFunc,.nilFunc,.nilFunc,.nilFunc]) (by kernel_rfl) (by kernel_rfl) (cells:=#[.nilFunc,.nilFunc,.nilFunc,.nilFunc,.nilFunc,.func (.func 82) #[] #[],.func (.func 83) #[] #[],.func (.func 84) #[] #[],.func (.func 85) #[] #[],.func (.func 86) #[] #[],.func (.func 87) #[] #[],.func (.func 88) #[] #[],.func (.func 86) #[] #[],.func (.func 106) #[] c1.toArray,.func (.func 106) #[] c2.toArray,.func (.func 106) #[] c3.toArray,.func (.func 106) #[] c4.toArray,.func (.func 106) #[] c5.toArray,.func (.func 93) #[] #[],.func (.func 94) #[] #[],.func (.func 97) #[] #[],.func (.func 98) #[] #[]]) (by kernel_rfl) g.w]
   rfl
  ·intro u hu
   simp only [List.mem_cons,List.not_mem_nil,or_false] at hu
   rcases hu with rfl | rfl | rfl | rfl | rfl | rfl | rfl | rfl | rfl | rfl | rfl | rfl | rfl | rfl | rfl | rfl | rfl | rfl | rfl | rfl | rfl | rfl <;> rfl
  ·intro k F u hF hu
   unfold tabT at hF
   split at hF
   ·rename_i hk
    obtain rfl:=Option.some.inj hF
    obtain ⟨hk1,hk2⟩:=hk
    have hk:k=5 ∨ k=6 ∨ k=7 ∨ k=8 ∨ k=9 ∨ k=10 ∨ k=11 ∨ k=12 ∨ k=13 ∨ k=14 ∨ k=15 ∨ k=16 ∨ k=17 ∨ k=18 ∨ k=19 ∨ k=20 ∨ k=21:=by omega
    rcases hk with rfl | rfl | rfl | rfl | rfl | rfl | rfl | rfl | rfl | rfl | rfl | rfl | rfl | rfl | rfl | rfl | rfl
    ·obtain rfl:=Option.some.inj hu;exact ⟨82,[],[],rfl,Z68,rfl,Z7b,Zdk,fun q hq=>by cases hq⟩
    ·obtain rfl:=Option.some.inj hu;exact ⟨83,[],[],rfl,Z74,rfl,Z7i,Zdk,fun q hq=>by cases hq⟩
    ·obtain rfl:=Option.some.inj hu;exact ⟨84,[],[],rfl,Z67,rfl,Z73,Zdk,fun q hq=>by cases hq⟩
    ·obtain rfl:=Option.some.inj hu;exact ⟨85,[],[],rfl,Z7h,rfl,Z7e,Zdk,fun q hq=>by cases hq⟩
    ·obtain rfl:=Option.some.inj hu;exact ⟨86,[],[],rfl,Z2g,rfl,Z77,Zdk,fun q hq=>by cases hq⟩
    ·obtain rfl:=Option.some.inj hu;exact ⟨87,[],[],rfl,Z7l,rfl,Z5j,Zdk,fun q hq=>by cases hq⟩
    ·obtain rfl:=Option.some.inj hu;exact ⟨88,[],[],rfl,Z60,rfl,Z5e,Zdk,fun q hq=>by cases hq⟩
    ·obtain rfl:=Option.some.inj hu;exact ⟨86,[],[],rfl,Z2g,rfl,Z5f,Zdk,fun q hq=>by cases hq⟩
    ·obtain rfl:=Option.some.inj hu;exact ⟨106,_,c1,rfl,Zop,rfl,Z5g,k1,Zi3⟩
    ·obtain rfl:=Option.some.inj hu;exact ⟨106,_,c2,rfl,Zop,rfl,Z6s,k2,Zi3⟩
    ·obtain rfl:=Option.some.inj hu;exact ⟨106,_,c3,rfl,Zop,rfl,Z6l,k3,Zi3⟩
    ·obtain rfl:=Option.some.inj hu;exact ⟨106,_,c4,rfl,Zop,rfl,Z6f,k4,Zi3⟩
    ·obtain rfl:=Option.some.inj hu;exact ⟨106,_,c5,rfl,Zop,rfl,Z5r,k5,Zi3⟩
    ·obtain rfl:=Option.some.inj hu;exact ⟨93,[],[],rfl,Z71,rfl,Z55,Zdk,fun q hq=>by cases hq⟩
    ·obtain rfl:=Option.some.inj hu;exact ⟨94,[],[],rfl,Z6z,rfl,Z51,Zdk,fun q hq=>by cases hq⟩
    ·obtain rfl:=Option.some.inj hu;exact ⟨97,[],[],rfl,Z7z,rfl,Z5x,Zdk,fun q hq=>by cases hq⟩
    ·obtain rfl:=Option.some.inj hu;exact ⟨98,[],[],rfl,Z7t,rfl,Z5w,Zdk,fun q hq=>by cases hq⟩
   ·cases hF
theorem Zzh:Ty Tryd.prog 116 (Kd.tab Tryd.prog 22 (by decide)):=⟨by kernel_rfl,by kernel_rfl⟩
theorem Zq3:FnOk Tryd.prog 68 [] (pTab Tryd.prog 22 tabT):=by
 refine Zbw (N:=7) Tryd.func68 rfl rfl (Qe rfl) rfl rfl (fun a g0 hst hb=>?_)
 refine r_s (T:=[⟨[],[(0,(pBox (Kd.tab Tryd.prog 22 (by decide)) 0 (fun _=>none)))],[1],[],[0]⟩]) (F:=[.p 0 0]) hst hb Zb
  (o_p rfl (Zbt (zs:=[.nilFunc,.nilFunc,.nilFunc,.nilFunc,.nilFunc,.nilFunc,.nilFunc,.nilFunc,.nilFunc,.nilFunc,.nilFunc,.nilFunc,.nilFunc,.nilFunc,.nilFunc,.nilFunc,.nilFunc,.nilFunc,.nilFunc,.nilFunc,.nilFunc,.nilFunc]) (by kernel_rfl) (fun g=>⟨rfl,by decide,fun k F u h=>by cases h⟩) rfl rfl)<|o_n) (fun a g hst hb=>?_)
 refine r_s (T:=[⟨[],_,[],[],[1]⟩,⟨[],_,[],[0],[2]⟩,⟨[],_,[],[0,1],[3]⟩,⟨[],_,[],[0,1,2],[4]⟩,⟨[],_,[],[0,1,2,3],[5]⟩,⟨[.p 0 0,.p 1 0,.p 2 0,.p 3 0,.p 4 0],_,[],[0,1,2,3,4],[6]⟩,⟨[.p 5 0,.o 0],[(0,(pBox (Kd.tab Tryd.prog 22 (by decide)) 0 tabT))],[1],[0,1,2,3,4,5],[0]⟩]) (F:=[.p 6 0]) hst hb Zb
  (o_p rfl (Zr Zrd (Zja 38) rfl rfl (.cons Opd.fncv .nil))<|o_p rfl (Zr Zrd (Zja 39) rfl rfl (.cons Opd.fncv .nil))<|o_p rfl (Zr Zrd (Zja 90) rfl rfl (.cons Opd.fncv .nil))<|o_p rfl (Zr Zrd (Zja 91) rfl rfl (.cons Opd.fncv .nil))<|o_p rfl (Zr Zrd (Zja 92) rfl rfl (.cons Opd.fncv .nil))<|o_p rfl (Zwe rfl rfl u_0 u_1 u_2 u_3 u_4)<|o_p rfl (Zbe Zzh rfl rfl u_1 u_0)<|o_n) (fun a g hst hb=>?_)
 refine wp_ret ?_
 obtain ⟨u0,hu0,hq0⟩:=Zbn (P:=Tryd.prog) Zzh (hst.at 0 rfl)
 exact Zx rfl hst hb hu0 (Z1d hq0)
theorem Zoh (a0:Za) (a1:Bool) (a2:Zg) {r:Za × Bool × Zi} (h:Zc3 a0 a1 a2=some r):FnOk Tryd.prog 40 [(Zc.pd a0),(Z7 a1),(Z1.pd a2)] (pTup [(Zc.pd r.1),(Z7 r.2.1),(Z2.pd r.2.2)]):=by
 have H0:=h
 unfold Zc3 at H0
 clear h
 refine Zbw (N:=123) Tryd.func40 rfl rfl (Qe rfl) rfl rfl (fun a g0 hst hb=>?_)
 refine r_s (T:=[⟨[.o 0],_,[4],[],[3]⟩,⟨[.o 1],_,[],[],[4]⟩,⟨[.o 2],_,[],[],[5]⟩,⟨[],[(6,(pBox Zc 6 (default:Za)))],[7],[],[6]⟩,⟨[],_,[],[],[7]⟩,⟨[],[(8,(pBox Z2 8 (default:Zi)))],[9],[],[8]⟩]) (F:=[.p 0 0,.p 1 0,.p 2 0,.p 3 0,.p 5 0]) hst hb Zb
  (o_p rfl (Znd rfl rfl u_0)<|Qb rfl u_0<|Qb rfl u_0<|o_p rfl (Zbt (zs:=[.int .i64 0,.int .i64 0,.int .i64 0,.int .i64 0,.float .f64 0,.int .i64 0,.string ByteArray.empty,.slice none 0 0]) (by kernel_rfl) (fun g=>Zb2 g) rfl rfl)<|Qa rfl c_b<|o_p rfl (Zbt (zs:=[.int .i64 0,.int .i64 0,.int .i64 0,.int .i64 0,.int .i64 0,.int .i64 0,.float .f64 0,.int .i64 0,.string ByteArray.empty,.slice none 0 0]) (by kernel_rfl) (fun g=>Zjy g) rfl rfl)<|o_n) (fun a g hst hb=>?_)
 refine wp_seq ?_
 refine r_s (T:=[⟨[.o 1],_,[],[],[15]⟩,⟨[.p 0 0],_,[],[0],[16]⟩]) (F:=[.o 0,.o 1,.o 2,.o 3,.o 4,.p 1 0]) hst hb Zb
  (Ql rfl ty_4 u_0<|Qn rfl u_0<|o_n) (fun a g hst hb=>?_)
 refine Zce (fun a w=>∃ (j2:Za) (g:G),w=g.w ∧ St 123 [(3,(pBox Zc 3 j2)),(4,(Kd.bool.ptr a1)),(5,(Z1.ptr a2)),(6,(pBox Zc 6 (default:Za))),(8,(pBox Z2 8 (default:Zi)))] a g ∧ Base g0 g ∧ Zd9 a1 a2 j2=some r) ?_ ?_
 ·rintro a w ⟨j2,g,rfl,hst,hb,H0⟩
  unfold Zd9 at H0
  refine Zm ?_
  obtain ⟨r3,h4,H0⟩:=Ze H0
  refine r_s (T:=[⟨[.o 0],_,[],[],[18]⟩,⟨[.p 0 0],_,[],[0],[19]⟩,⟨[.p 1 0,.o 0],_,[4],[0,1],[3]⟩]) (F:=[.p 2 0,.o 1,.o 2,.o 3,.o 4]) hst hb Zb
   (QM rfl Z8 u_0<|o_p rfl (Zr Znx (Zgu _ h4) rfl rfl (.cons u_0 .nil))<|o_p rfl (Zbe Z8 rfl rfl u_1 u_0)<|o_n) (fun a g hst hb=>?_)
  refine r_s (T:=[⟨[.o 0,.o 1],_,[],[],[20]⟩,⟨[.p 0 0],_,[],[0],[9]⟩]) (F:=[.o 0,.o 1,.o 2,.o 3,.o 4,.p 1 0]) hst hb Zb
   (o_p rfl (Zuw rfl rfl (.cons u_0 (.cons u_1 .nil)))<|Qa rfl u_0<|o_n) (fun a g hst hb=>?_)
  refine wp_seq ?_
  obtain ⟨r5,h6,H0⟩:=Ze H0
  refine r_s (T:=[⟨[.o 2],_,[],[],[21]⟩,⟨[.p 0 0],_,[],[0],[22]⟩,⟨[.p 1 0],_,[],[0,1],[10]⟩]) (F:=[.o 0,.o 1,.o 2,.o 3,.o 4,.o 5,.p 2 0]) hst hb Zb
   (Ql rfl Zg3 u_0<|o_p rfl (Zr Z1y (Zox _ h6) rfl rfl (.cons u_0 .nil))<|Qa rfl u_0<|o_n) (fun a g hst hb=>?_)
  refine r_s (T:=[⟨[.o 6],_,[],[],[23]⟩,⟨[.p 0 0],_,[],[0],[24]⟩]) (F:=[.o 0,.o 1,.o 2,.o 3,.o 4,.o 5,.o 6,.p 1 0]) hst hb Zb
   (Qm rfl u_0<|o_p rfl (Zdu rfl rfl u_0 c_i)<|o_n) (fun a g hst hb=>?_)
  refine wp_cond_split (hst.bool 7 rfl) (fun hc7=>?_) (fun hc7=>?_)
  ·replace H0:=Zp hc7 H0
   obtain ⟨r8,h9,H0⟩:=Ze H0
   refine r_s (L:=[(3,_),(4,_),(6,_),(8,_),(9,_),(10,_)]) (T:=[⟨[.o 4],_,[],[],[25]⟩,⟨[.o 5],_,[],[],[26]⟩,⟨[.p 0 0,.p 1 0,.o 0],[(27,(pTup [(Zc.pd r8.1),(Z7 r8.2.1),(Z2.pd r8.2.2.1)])),(3,(pBox Zc 3 r8.2.2.2))],[4],[0,1],[3,9,25,27]⟩,⟨[.p 2 0],_,[],[0,1,2],[28]⟩,⟨[.p 2 0],_,[],[0,1,2],[29]⟩,⟨[.p 2 0],_,[],[0,1,2],[30]⟩,⟨[.p 3 0,.o 2],_,[7],Lr 6,[6]⟩,⟨[.p 4 0],_,[],Lr 7,[7]⟩,⟨[.p 5 0,.o 3],_,[9],Lr 8,[8]⟩]) (F:=[.p 2 1,.o 1,.p 6 0,.p 7 0,.p 8 0]) (hst.pick [0,1,3,4,5,6] rfl) hb Zb
    (Qm rfl u_0<|Qm rfl u_0<|o_p rfl (Zkl (Ps:=[.val (pInt .i64 r5)]) (hs:=[]) (ks:=[(3,none,3)]) Zq2 (Zhc _ _ _ h9) rfl rfl rfl u_0 (.val u_1 .nil) (.box u_2 rfl (.val .nil)) rfl rfl rfl rfl)<|o_p rfl (Zbg rfl rfl u_0 rfl)<|o_p rfl (Zbg rfl rfl u_0 rfl)<|o_p rfl (Zbg rfl rfl u_0 rfl)<|o_p rfl (Zbe Z8 rfl rfl u_1 u_0)<|Qa rfl u_0<|o_p rfl (Zbe Zeh rfl rfl u_1 u_0)<|o_n) (fun a g hst hb=>?_)
   refine wp_ret ?_
   refine Zj ?_
   obtain rfl:=Option.some.inj H0
   obtain ⟨u0,hu0,hq0⟩:=Zbn (P:=Tryd.prog) Z8 (hst.at 2 rfl)
   obtain ⟨u2,hu2,hq2⟩:=Zbn (P:=Tryd.prog) Zeh (hst.at 4 rfl)
   exact Zkj rfl hst hb hu0 (Zf (s:=7)) hu2 (Zip hq0 (hst.at 3 rfl) hq2)
  ·replace H0:=Zq hc7 H0
   refine wp_skip ?_
   refine Zm ?_
   refine wp_seq ?_
   refine r_s (L:=[(3,_),(4,_),(5,_),(6,_),(8,_),(9,_)]) (T:=[⟨[.o 1],_,[],[],[31]⟩]) (F:=[.o 0,.o 1,.o 2,.o 3,.o 4,.o 5,.p 0 0]) (hst.pick [0,1,2,3,4,5] rfl) hb Zb
    (Ql rfl ty_4 u_0<|o_n) (fun a g hst hb=>?_)
   refine Zce (fun a w=>∃ (g:G),w=g.w ∧ St 123 [(3,(pBox Zc 3 r3)),(4,(Kd.bool.ptr a1)),(5,(Z1.ptr a2)),(6,(pBox Zc 6 (default:Za))),(8,(pBox Z2 8 (default:Zi))),(9,(Zt2 67 [(pBox Zc 3 r3),(Kd.bool.ptr a1)]))] a g ∧ Base g0 g ∧ Zff a1 a2 r3=some r) ?_ ?_
   ·rintro a w ⟨g,rfl,hst,hb,H0⟩
    unfold Zff at H0
    refine Zm ?_
    refine wp_seq ?_
    refine wp_block ?_
    refine r_s (T:=[⟨[.o 2],_,[],[],[43]⟩,⟨[.p 0 0],_,[],[0],[44]⟩,⟨[.p 1 0],_,[],[0,1],[45]⟩,⟨[.p 2 0],_,[],[0,1,2],[46]⟩,⟨[.p 3 0,.o 1],_,[],Lr 4,[47]⟩,⟨[.p 3 0,.p 4 0],_,[],Lr 5,[48]⟩,⟨[.p 5 0],_,[],Lr 6,[42]⟩]) (F:=[.o 0,.o 1,.o 2,.o 3,.o 4,.o 5,.p 6 0]) hst hb Zb
     (Qf rfl Zcp u_0<|Ql rfl ty_3 u_0<|o_p rfl (Zbc rfl rfl u_0 c_i)<|Qm rfl u_0<|o_g (Qg_t rfl (fun hG=>Zn ty_4 rfl rfl u_0))<|o_p rfl (Zbi rfl rfl u_0 (fun hz=>(Opd.gd hz u_1)))<|Qa rfl u_0<|o_n) (fun a g hst hb=>?_)
    refine wp_cond_split (hst.bool 6 rfl) (fun hc16=>?_) (fun hc16=>?_)
    ·replace H0:=Zp hc16 H0
     obtain ⟨r17,h18,H0⟩:=Ze H0
     refine r_s (L:=[(3,_),(4,_),(6,_),(8,_),(9,_)]) (T:=[⟨[.o 4],_,[],[],[49]⟩,⟨[.p 0 0,.o 0],[(50,(pTup [(Zc.pd r17.1),(Z7 r17.2.1),(Z2.pd r17.2.2.1)])),(3,(pBox Zc 3 r17.2.2.2))],[4],[0],[3,9,49,50]⟩,⟨[.p 1 0],_,[],[0,1],[51]⟩,⟨[.p 1 0],_,[],[0,1],[52]⟩,⟨[.p 1 0],_,[],[0,1],[53]⟩,⟨[.p 2 0,.o 2],_,[7],Lr 5,[6]⟩,⟨[.p 3 0],_,[],Lr 6,[7]⟩,⟨[.p 4 0,.o 3],_,[9],Lr 7,[8]⟩]) (F:=[.p 1 1,.o 1,.p 5 0,.p 6 0,.p 7 0]) (hst.pick [0,1,3,4,5] rfl) hb Zb
      (Qm rfl u_0<|o_p rfl (Zkl (Ps:=[.val (pInt .i64 (7:Int))]) (hs:=[]) (ks:=[(3,none,3)]) Zq2 (Zhc _ _ _ h18) rfl rfl rfl u_0 (.val c_i .nil) (.box u_1 rfl (.val .nil)) rfl rfl rfl rfl)<|o_p rfl (Zbg rfl rfl u_0 rfl)<|o_p rfl (Zbg rfl rfl u_0 rfl)<|o_p rfl (Zbg rfl rfl u_0 rfl)<|o_p rfl (Zbe Z8 rfl rfl u_1 u_0)<|Qa rfl u_0<|o_p rfl (Zbe Zeh rfl rfl u_1 u_0)<|o_n) (fun a g hst hb=>?_)
     refine wp_ret ?_
     refine Zw ?_
     refine Zj ?_
     obtain rfl:=Option.some.inj H0
     obtain ⟨u0,hu0,hq0⟩:=Zbn (P:=Tryd.prog) Z8 (hst.at 2 rfl)
     obtain ⟨u2,hu2,hq2⟩:=Zbn (P:=Tryd.prog) Zeh (hst.at 4 rfl)
     exact Zkj rfl hst hb hu0 (Zf (s:=7)) hu2 (Zip hq0 (hst.at 3 rfl) hq2)
    ·replace H0:=Zq hc16 H0
     refine r_s (L:=[(3,_),(4,_),(5,_),(6,_),(8,_),(9,_)]) (T:=[⟨[.o 2],_,[],[],[55]⟩,⟨[.p 0 0],_,[],[0],[56]⟩,⟨[.p 1 0],_,[],[0,1],[57]⟩,⟨[.p 2 0],_,[],[0,1,2],[54]⟩]) (F:=[.o 0,.o 1,.o 2,.o 3,.o 4,.o 5,.p 3 0]) (hst.pick [0,1,2,3,4,5] rfl) hb Zb
      (Qf rfl Zcp u_0<|Ql rfl ty_3 u_0<|o_p rfl (Zbc rfl rfl u_0 c_i)<|Qa rfl u_0<|o_n) (fun a g hst hb=>?_)
     refine wp_cond_split (hst.bool 6 rfl) (fun hc19=>?_) (fun hc19=>?_)
     ·replace H0:=Zp hc19 H0
      obtain ⟨r20,h21,H0⟩:=Ze H0
      refine r_s (L:=[(3,_),(4,_),(5,_),(6,_),(8,_)]) (T:=[⟨[.o 2],_,[],[],[58]⟩,⟨[.p 0 0],_,[],[0],[59]⟩,⟨[.p 1 0],_,[],[0,1],[60]⟩,⟨[],_,[],[],[61]⟩,⟨[.p 2 0,.o 3],_,[7],[0,1,2],[6]⟩,⟨[],_,[],[0,1,2,4],[7]⟩,⟨[.p 3 0,.o 4],_,[9],Lr 6,[8]⟩]) (F:=[.o 0,.o 1,.p 4 0,.p 5 0,.p 6 0]) (hst.pick [0,1,2,3,4] rfl) hb Zb
       (Qf rfl Zlr u_0<|Ql rfl Z8 u_0<|o_p rfl (Zr Znx (Zgu _ h21) rfl rfl (.cons u_0 .nil))<|o_p rfl (Zz5 rfl rfl )<|o_p rfl (Zbe Z8 rfl rfl u_1 u_0)<|Qa rfl c_b<|o_p rfl (Zbe Zeh rfl rfl u_1 u_0)<|o_n) (fun a g hst hb=>?_)
      refine wp_ret ?_
      refine Zw ?_
      refine Zj ?_
      obtain rfl:=Option.some.inj H0
      obtain ⟨u0,hu0,hq0⟩:=Zbn (P:=Tryd.prog) Z8 (hst.at 2 rfl)
      obtain ⟨u2,hu2,hq2⟩:=Zbn (P:=Tryd.prog) Zeh (hst.at 4 rfl)
      exact Zkj rfl hst hb hu0 (Zf (s:=7)) hu2 (Zip hq0 (hst.at 3 rfl) hq2)
     ·replace H0:=Zq hc19 H0
      refine r_s (L:=[(3,_),(4,_),(5,_),(6,_),(8,_),(9,_)]) (T:=[⟨[.o 2],_,[],[],[63]⟩,⟨[.p 0 0],_,[],[0],[64]⟩,⟨[.p 1 0],_,[],[0,1],[65]⟩,⟨[.p 2 0],_,[],[0,1,2],[62]⟩]) (F:=[.o 0,.o 1,.o 2,.o 3,.o 4,.o 5,.p 3 0]) (hst.pick [0,1,2,3,4,5] rfl) hb Zb
       (Qf rfl Zcp u_0<|Ql rfl ty_3 u_0<|o_p rfl (Zbc rfl rfl u_0 c_i)<|Qa rfl u_0<|o_n) (fun a g hst hb=>?_)
      refine wp_cond_split (hst.bool 6 rfl) (fun hc22=>?_) (fun hc22=>?_)
      ·replace H0:=Zp hc22 H0
       refine r_s (L:=[(3,_),(4,_),(6,_),(8,_)]) (T:=[⟨[.o 0],_,[],[],[66]⟩,⟨[.o 1],_,[],[],[67]⟩,⟨[.o 0],_,[],[],[68]⟩,⟨[.p 2 0],_,[],[2],[69]⟩,⟨[.p 3 0],_,[],[2,3],[70]⟩,⟨[.p 0 0,.o 2],_,[7],[0],[6]⟩,⟨[.p 1 0],_,[],[0,1,5],[7]⟩,⟨[.p 4 0,.o 3],_,[9],Lr 7,[8]⟩]) (F:=[.o 0,.o 1,.p 5 0,.p 6 0,.p 7 0]) (hst.pick [0,1,3,4] rfl) hb Zb
        (QM rfl Z8 u_0<|Ql rfl ty_4 u_0<|o_p rfl (Zt Zdr (off:=0) (by kernel_rfl) rfl rfl u_0)<|QP rfl ty_3 u_0<|o_p rfl (Z3z rfl rfl u_0)<|o_p rfl (Zbe Z8 rfl rfl u_1 u_0)<|Qa rfl u_0<|o_p rfl (Zbe Zeh rfl rfl u_1 u_0)<|o_n) (fun a g hst hb=>?_)
       refine wp_ret ?_
       refine Zw ?_
       refine Zj ?_
       obtain rfl:=Option.some.inj H0
       obtain ⟨u0,hu0,hq0⟩:=Zbn (P:=Tryd.prog) Z8 (hst.at 2 rfl)
       obtain ⟨u2,hu2,hq2⟩:=Zbn (P:=Tryd.prog) Zeh (hst.at 4 rfl)
       exact Zkj rfl hst hb hu0 (Zf (s:=7)) hu2 (Zip hq0 (hst.at 3 rfl) hq2)
      ·replace H0:=Zq hc22 H0
       refine r_s (L:=[(3,_),(4,_),(5,_),(6,_),(8,_),(9,_)]) (T:=[⟨[.o 1],_,[],[],[72]⟩,⟨[.p 0 0],_,[],[0],[73]⟩,⟨[.p 1 0],_,[],[0,1],[71]⟩]) (F:=[.o 0,.o 1,.o 2,.o 3,.o 4,.o 5,.p 2 0]) (hst.pick [0,1,2,3,4,5] rfl) hb Zb
        (Ql rfl ty_4 u_0<|Qn rfl u_0<|Qa rfl u_0<|o_n) (fun a g hst hb=>?_)
       refine wp_cond_split (hst.bool 6 rfl) (fun hc23=>?_) (fun hc23=>?_)
       ·replace H0:=Zp hc23 H0
        obtain ⟨r24,h25,H0⟩:=Ze H0
        refine r_s (L:=[(3,_),(4,_),(6,_),(8,_),(9,_)]) (T:=[⟨[.o 4],_,[],[],[74]⟩,⟨[.p 0 0,.o 0],[(75,(pTup [(Zc.pd r24.1),(Z7 r24.2.1),(Z2.pd r24.2.2.1)])),(3,(pBox Zc 3 r24.2.2.2))],[4],[0],[3,9,74,75]⟩,⟨[.p 1 0],_,[],[0,1],[76]⟩,⟨[.p 1 0],_,[],[0,1],[77]⟩,⟨[.p 1 0],_,[],[0,1],[78]⟩,⟨[.p 2 0,.o 2],_,[7],Lr 5,[6]⟩,⟨[.p 3 0],_,[],Lr 6,[7]⟩,⟨[.p 4 0,.o 3],_,[9],Lr 7,[8]⟩]) (F:=[.p 1 1,.o 1,.p 5 0,.p 6 0,.p 7 0]) (hst.pick [0,1,3,4,5] rfl) hb Zb
         (Qm rfl u_0<|o_p rfl (Zkl (Ps:=[.val (pInt .i64 (6:Int))]) (hs:=[]) (ks:=[(3,none,3)]) Zq2 (Zhc _ _ _ h25) rfl rfl rfl u_0 (.val c_i .nil) (.box u_1 rfl (.val .nil)) rfl rfl rfl rfl)<|o_p rfl (Zbg rfl rfl u_0 rfl)<|o_p rfl (Zbg rfl rfl u_0 rfl)<|o_p rfl (Zbg rfl rfl u_0 rfl)<|o_p rfl (Zbe Z8 rfl rfl u_1 u_0)<|Qa rfl u_0<|o_p rfl (Zbe Zeh rfl rfl u_1 u_0)<|o_n) (fun a g hst hb=>?_)
        refine wp_ret ?_
        refine Zw ?_
        refine Zj ?_
        obtain rfl:=Option.some.inj H0
        obtain ⟨u0,hu0,hq0⟩:=Zbn (P:=Tryd.prog) Z8 (hst.at 2 rfl)
        obtain ⟨u2,hu2,hq2⟩:=Zbn (P:=Tryd.prog) Zeh (hst.at 4 rfl)
        exact Zkj rfl hst hb hu0 (Zf (s:=7)) hu2 (Zip hq0 (hst.at 3 rfl) hq2)
       ·replace H0:=Zq hc23 H0
        refine r_s (L:=[(3,_),(4,_),(5,_),(6,_),(8,_),(9,_)]) (T:=[⟨[.o 2],_,[],[],[80]⟩,⟨[.p 0 0],_,[],[0],[81]⟩,⟨[.p 1 0],_,[],[0,1],[82]⟩,⟨[.p 2 0],_,[],[0,1,2],[79]⟩]) (F:=[.o 0,.o 1,.o 2,.o 3,.o 4,.o 5,.p 3 0]) (hst.pick [0,1,2,3,4,5] rfl) hb Zb
         (Qf rfl Zcp u_0<|Ql rfl ty_3 u_0<|o_p rfl (Zbc rfl rfl u_0 c_i)<|Qa rfl u_0<|o_n) (fun a g hst hb=>?_)
        refine wp_cond_split (hst.bool 6 rfl) (fun hc26=>?_) (fun hc26=>?_)
        ·replace H0:=Zp hc26 H0
         refine r_s (L:=[(3,_),(4,_),(6,_),(8,_)]) (T:=[⟨[],_,[],[],[83]⟩,⟨[],_,[],[],[84]⟩,⟨[.p 0 0,.o 2],_,[7],[0],[6]⟩,⟨[],_,[],[0,2],[7]⟩,⟨[.p 1 0,.o 3],_,[9],Lr 4,[8]⟩]) (F:=[.o 0,.o 1,.p 2 0,.p 3 0,.p 4 0]) (hst.pick [0,1,3,4] rfl) hb Zb
          (o_p rfl (Zm9 rfl rfl )<|o_p rfl (Zz5 rfl rfl )<|o_p rfl (Zbe Z8 rfl rfl u_1 u_0)<|Qa rfl c_b<|o_p rfl (Zbe Zeh rfl rfl u_1 u_0)<|o_n) (fun a g hst hb=>?_)
         refine wp_ret ?_
         refine Zw ?_
         refine Zj ?_
         obtain rfl:=Option.some.inj H0
         obtain ⟨u0,hu0,hq0⟩:=Zbn (P:=Tryd.prog) Z8 (hst.at 2 rfl)
         obtain ⟨u2,hu2,hq2⟩:=Zbn (P:=Tryd.prog) Zeh (hst.at 4 rfl)
         exact Zkj rfl hst hb hu0 (Zf (s:=7)) hu2 (Zip hq0 (hst.at 3 rfl) hq2)
        ·replace H0:=Zq hc26 H0
         refine r_s (L:=[(3,_),(4,_),(5,_),(6,_),(8,_),(9,_)]) (T:=[⟨[.o 2],_,[],[],[86]⟩,⟨[.p 0 0],_,[],[0],[87]⟩,⟨[.p 1 0],_,[],[0,1],[88]⟩,⟨[.p 2 0],_,[],[0,1,2],[85]⟩]) (F:=[.o 0,.o 1,.o 2,.o 3,.o 4,.o 5,.p 3 0]) (hst.pick [0,1,2,3,4,5] rfl) hb Zb
          (Qf rfl Zcp u_0<|Ql rfl ty_3 u_0<|o_p rfl (Zbc rfl rfl u_0 c_i)<|Qa rfl u_0<|o_n) (fun a g hst hb=>?_)
         refine wp_cond_split (hst.bool 6 rfl) (fun hc27=>?_) (fun hc27=>?_)
         ·replace H0:=Zp hc27 H0
          obtain ⟨r28,h29,H0⟩:=Ze H0
          refine r_s (L:=[(3,_),(4,_),(6,_),(8,_)]) (T:=[⟨[.o 0],_,[],[],[89]⟩,⟨[.o 1],_,[],[],[90]⟩,⟨[.o 0],_,[],[],[91]⟩,⟨[.p 2 0],_,[],[2],[92]⟩,⟨[.p 3 0],_,[],[2,3],[93]⟩,⟨[.p 0 0,.o 2],_,[7],[0,2,3],[6]⟩,⟨[.p 1 0],_,[],[0,1,2,3,5],[7]⟩,⟨[.p 4 0,.o 3],_,[9],Lr 7,[8]⟩]) (F:=[.o 0,.o 1,.p 5 0,.p 6 0,.p 7 0]) (hst.pick [0,1,3,4] rfl) hb Zb
           (QM rfl Z8 u_0<|Ql rfl ty_4 u_0<|QM rfl Z8 u_0<|o_p rfl (Zr Znx (Zgu _ h29) rfl rfl (.cons u_0 .nil))<|o_p rfl (Z4x rfl rfl u_0)<|o_p rfl (Zbe Z8 rfl rfl u_1 u_0)<|Qa rfl u_0<|o_p rfl (Zbe Zeh rfl rfl u_1 u_0)<|o_n) (fun a g hst hb=>?_)
          refine wp_ret ?_
          refine Zw ?_
          refine Zj ?_
          obtain rfl:=Option.some.inj H0
          obtain ⟨u0,hu0,hq0⟩:=Zbn (P:=Tryd.prog) Z8 (hst.at 2 rfl)
          obtain ⟨u2,hu2,hq2⟩:=Zbn (P:=Tryd.prog) Zeh (hst.at 4 rfl)
          exact Zkj rfl hst hb hu0 (Zf (s:=7)) hu2 (Zip hq0 (hst.at 3 rfl) hq2)
         ·replace H0:=Zq hc27 H0
          obtain ⟨r30,h31,H0⟩:=Ze H0
          refine r_s (L:=[(3,_),(4,_),(5,_),(6,_),(8,_),(9,_)]) (T:=[⟨[.o 2],_,[],[],[95]⟩,⟨[.p 0 0],_,[],[0],[96]⟩,⟨[.p 1 0],_,[],[0,1],[97]⟩,⟨[.o 0],_,[],[],[98]⟩,⟨[.p 3 0],_,[],[3],[99]⟩,⟨[.p 2 0,.p 4 0],_,[],Lr 5,[100]⟩,⟨[.p 5 0],_,[],Lr 6,[94]⟩]) (F:=[.o 0,.o 1,.o 2,.o 3,.o 4,.o 5,.p 6 0]) (hst.pick [0,1,2,3,4,5] rfl) hb Zb
           (Qf rfl Zcp u_0<|Ql rfl ty_3 u_0<|o_p rfl (Zr Z2f (Zs8 _ h31) rfl rfl (.cons u_0 .nil))<|o_p rfl (Zt Zdr (off:=0) (by kernel_rfl) rfl rfl u_0)<|QP rfl ty_3 u_0<|o_p rfl (Zdu rfl rfl u_0 u_1)<|Qa rfl u_0<|o_n) (fun a g hst hb=>?_)
          refine wp_cond_split (hst.bool 6 rfl) (fun hc32=>?_) (fun hc32=>?_)
          ·replace H0:=Zp hc32 H0
           obtain ⟨r33,h34,H0⟩:=Ze H0
           refine r_s (L:=[(3,_),(4,_),(6,_),(8,_),(9,_)]) (T:=[⟨[.o 4],_,[],[],[101]⟩,⟨[.p 0 0,.o 0],[(102,(pTup [(Zc.pd r33.1),(Z7 r33.2.1),(Z2.pd r33.2.2.1)])),(3,(pBox Zc 3 r33.2.2.2))],[4],[0],[3,9,101,102]⟩,⟨[.p 1 0],_,[],[0,1],[103]⟩,⟨[.p 1 0],_,[],[0,1],[104]⟩,⟨[.p 1 0],_,[],[0,1],[105]⟩,⟨[.p 2 0,.o 2],_,[7],Lr 5,[6]⟩,⟨[.p 3 0],_,[],Lr 6,[7]⟩,⟨[.p 4 0,.o 3],_,[9],Lr 7,[8]⟩]) (F:=[.p 1 1,.o 1,.p 5 0,.p 6 0,.p 7 0]) (hst.pick [0,1,3,4,5] rfl) hb Zb
            (Qm rfl u_0<|o_p rfl (Zkl (Ps:=[.val (pInt .i64 (5:Int))]) (hs:=[]) (ks:=[(3,none,3)]) Zq2 (Zhc _ _ _ h34) rfl rfl rfl u_0 (.val c_i .nil) (.box u_1 rfl (.val .nil)) rfl rfl rfl rfl)<|o_p rfl (Zbg rfl rfl u_0 rfl)<|o_p rfl (Zbg rfl rfl u_0 rfl)<|o_p rfl (Zbg rfl rfl u_0 rfl)<|o_p rfl (Zbe Z8 rfl rfl u_1 u_0)<|Qa rfl u_0<|o_p rfl (Zbe Zeh rfl rfl u_1 u_0)<|o_n) (fun a g hst hb=>?_)
           refine wp_ret ?_
           refine Zw ?_
           refine Zj ?_
           obtain rfl:=Option.some.inj H0
           obtain ⟨u0,hu0,hq0⟩:=Zbn (P:=Tryd.prog) Z8 (hst.at 2 rfl)
           obtain ⟨u2,hu2,hq2⟩:=Zbn (P:=Tryd.prog) Zeh (hst.at 4 rfl)
           exact Zkj rfl hst hb hu0 (Zf (s:=7)) hu2 (Zip hq0 (hst.at 3 rfl) hq2)
          ·replace H0:=Zq hc32 H0
           refine wp_skip ?_
           refine Zbj ?_
           refine Zm ?_
           obtain ⟨r35,h36,H0⟩:=Ze H0
           refine r_s (L:=[(3,_),(4,_),(5,_),(6,_),(8,_)]) (T:=[⟨[.o 0],_,[],[],[106]⟩,⟨[.p 0 0],_,[],[0],[107]⟩,⟨[],[(12,(pBox Zc 12 (default:Za)))],[13],[],[12]⟩,⟨[.p 1 0,.p 2 0],_,[13],[0,1,2],[12]⟩]) (F:=[.o 0,.o 1,.o 2,.o 3,.o 4,.p 3 0]) (hst.pick [0,1,2,3,4] rfl) hb Zb
            (QM rfl Z8 u_0<|o_p rfl (Zr Znx (Zgu _ h36) rfl rfl (.cons u_0 .nil))<|o_p rfl (Zbt (zs:=[.int .i64 0,.int .i64 0,.int .i64 0,.int .i64 0,.float .f64 0,.int .i64 0,.string ByteArray.empty,.slice none 0 0]) (by kernel_rfl) (fun g=>Zb2 g) rfl rfl)<|o_p rfl (Zcg Z8 rfl rfl u_1 u_0)<|o_n) (fun a g hst hb=>?_)
           refine r_s (T:=[⟨[],[(13,(pBox Z2 13 (default:Zi)))],[14],[],[13]⟩]) (F:=[.o 0,.o 1,.o 2,.o 3,.o 4,.o 5,.p 0 0]) hst hb Zb
            (o_p rfl (Zbt (zs:=[.int .i64 0,.int .i64 0,.int .i64 0,.int .i64 0,.int .i64 0,.int .i64 0,.float .f64 0,.int .i64 0,.string ByteArray.empty,.slice none 0 0]) (by kernel_rfl) (fun g=>Zjy g) rfl rfl)<|o_n) (fun a g hst hb=>?_)
           refine wp_seq ?_
           obtain ⟨h37,H0⟩:=Zje H0;obtain ⟨r38,h39,H0⟩:=Ze H0
           refine r_s (T:=[⟨[],_,[],[],[108]⟩,⟨[.o 2],_,[],[],[109]⟩,⟨[.p 1 0],_,[],[1],[110]⟩,⟨[.p 0 0,.p 2 0],[(111,(pFun Tryd.prog (Phi a2.Kind)))],[],[0,1,2],[111]⟩,⟨[.o 2],_,[],[],[112]⟩,⟨[.p 3 0,.o 0,.p 4 0,.o 6],[(113,(pInt .i64 r38.1)),(3,(pBox Zc 3 r38.2.1)),(13,(pBox Z2 13 r38.2.2))],[4,14],Lr 5,[3,13,113]⟩,⟨[.p 5 0],_,[],Lr 6,[14]⟩]) (F:=[.p 5 1,.o 1,.o 3,.o 4,.o 5,.p 5 2,.p 6 0]) hst hb Zb
            (o_p rfl (Zr Z6u Zq3 rfl rfl .nil)<|Qf rfl Zcp u_0<|Ql rfl ty_3 u_0<|o_p rfl (Zv5 Tryd.underlying116 (by kernel_rfl) ⟨_,Tryd.underlying115,rfl⟩ (by have:=h37;omega) (Z6a h37) (by have:=h37;omega) rfl rfl u_0 u_1)<|Ql rfl Zg3 u_0<|o_p rfl (Zya (hs:=[(3,none,3),(13,none,13)]) (Z45 h39) rfl rfl rfl u_0 (.box u_1 u_1 rfl (.val u_2 (.box u_3 u_3 rfl .nil))) rfl rfl rfl)<|Qa rfl u_0<|o_n) (fun a g hst hb=>?_)
           refine r_s (T:=[⟨[.o 6],_,[],[],[114]⟩,⟨[.p 0 0],_,[],[0],[115]⟩]) (F:=[.o 0,.o 1,.o 2,.o 3,.o 4,.o 5,.o 6,.p 1 0]) hst hb Zb
            (Qm rfl u_0<|o_p rfl (Zdu rfl rfl u_0 c_i)<|o_n) (fun a g hst hb=>?_)
           refine wp_cond_split (hst.bool 7 rfl) (fun hc40=>?_) (fun hc40=>?_)
           ·replace H0:=Zp hc40 H0
            refine r_s (L:=[(3,_),(4,_),(6,_),(8,_),(12,_),(14,_)]) (T:=[⟨[.o 4],_,[],[],[116]⟩,⟨[.o 1],_,[],[],[117]⟩,⟨[.o 5],_,[],[],[118]⟩,⟨[.p 2 0],_,[],[2],[119]⟩,⟨[.p 0 0,.o 2],_,[7],[0],[6]⟩,⟨[.p 1 0],_,[],[0,1,4],[7]⟩,⟨[.p 3 0,.o 3],_,[9],Lr 6,[8]⟩]) (F:=[.o 0,.o 1,.p 4 0,.p 5 0,.p 6 0]) (hst.pick [0,1,2,3,4,6] rfl) hb Zb
             (Ql rfl Z8 u_0<|Ql rfl ty_4 u_0<|Qm rfl u_0<|o_p rfl (Zxa rfl rfl u_0)<|o_p rfl (Zbe Z8 rfl rfl u_1 u_0)<|Qa rfl u_0<|o_p rfl (Zbe Zeh rfl rfl u_1 u_0)<|o_n) (fun a g hst hb=>?_)
            refine wp_ret ?_
            refine Zj ?_
            obtain rfl:=Option.some.inj H0
            obtain ⟨u0,hu0,hq0⟩:=Zbn (P:=Tryd.prog) Z8 (hst.at 2 rfl)
            obtain ⟨u2,hu2,hq2⟩:=Zbn (P:=Tryd.prog) Zeh (hst.at 4 rfl)
            exact Zkj rfl hst hb hu0 (Zf (s:=7)) hu2 (Zip hq0 (hst.at 3 rfl) hq2)
           ·replace H0:=Zq hc40 H0
            refine wp_skip ?_
            refine Zm ?_
            refine r_s (L:=[(3,_),(4,_),(6,_),(8,_),(13,_)]) (T:=[⟨[.o 0],_,[],[],[120]⟩,⟨[.o 1],_,[],[],[121]⟩,⟨[.o 4],_,[],[],[122]⟩,⟨[.p 0 0,.o 2],_,[7],[0],[6]⟩,⟨[.p 1 0],_,[],[0,1,3],[7]⟩,⟨[.p 2 0,.o 3],_,[9],Lr 5,[8]⟩]) (F:=[.o 0,.o 1,.p 3 0,.p 4 0,.p 5 0]) (hst.pick [0,1,2,3,5] rfl) hb Zb
             (QM rfl Z8 u_0<|Ql rfl ty_4 u_0<|QM rfl Zeh u_0<|o_p rfl (Zbe Z8 rfl rfl u_1 u_0)<|Qa rfl u_0<|o_p rfl (Zbe Zeh rfl rfl u_1 u_0)<|o_n) (fun a g hst hb=>?_)
            refine wp_ret ?_
            obtain rfl:=Option.some.inj H0
            obtain ⟨u0,hu0,hq0⟩:=Zbn (P:=Tryd.prog) Z8 (hst.at 2 rfl)
            obtain ⟨u2,hu2,hq2⟩:=Zbn (P:=Tryd.prog) Zeh (hst.at 4 rfl)
            exact Zkj rfl hst hb hu0 (Zf (s:=7)) hu2 (Zip hq0 (hst.at 3 rfl) hq2)
   ·refine wp_cond_split (hst.bool 6 rfl) (fun hc10=>?_) (fun hc10=>?_)
    ·replace H0:=Zp hc10 H0
     obtain ⟨r11,h12,H0⟩:=Ze H0
     refine r_s (L:=[(3,_),(4,_),(5,_),(6,_),(8,_),(9,_)]) (T:=[⟨[.o 0],_,[],[],[32]⟩,⟨[.p 0 0],_,[],[0],[33]⟩,⟨[.p 1 0],_,[],[0,1],[11]⟩]) (F:=[.o 0,.o 1,.o 2,.o 3,.o 4,.o 5,.p 2 0]) (hst.pick [0,1,2,3,4,5] rfl) hb Zb
      (QM rfl Z8 u_0<|o_p rfl (Zr Zre (Zjb _ h12) rfl rfl (.cons u_0 .nil))<|Qa rfl u_0<|o_n) (fun a g hst hb=>?_)
     refine r_s (T:=[⟨[.o 6],_,[],[],[34]⟩,⟨[.p 0 0],_,[],[0],[35]⟩]) (F:=[.o 0,.o 1,.o 2,.o 3,.o 4,.o 5,.o 6,.p 1 0]) hst hb Zb
      (Qm rfl u_0<|o_p rfl (Zdu rfl rfl u_0 c_i)<|o_n) (fun a g hst hb=>?_)
     refine wp_cond_split (hst.bool 7 rfl) (fun hc13=>?_) (fun hc13=>?_)
     ·replace H0:=Zp hc13 H0
      obtain ⟨r14,h15,H0⟩:=Ze H0
      refine r_s (L:=[(3,_),(4,_),(6,_),(8,_),(9,_),(11,_)]) (T:=[⟨[.o 4],_,[],[],[36]⟩,⟨[.o 5],_,[],[],[37]⟩,⟨[.p 0 0,.p 1 0,.o 0],[(38,(pTup [(Zc.pd r14.1),(Z7 r14.2.1),(Z2.pd r14.2.2.1)])),(3,(pBox Zc 3 r14.2.2.2))],[4],[0,1],[3,9,36,38]⟩,⟨[.p 2 0],_,[],[0,1,2],[39]⟩,⟨[.p 2 0],_,[],[0,1,2],[40]⟩,⟨[.p 2 0],_,[],[0,1,2],[41]⟩,⟨[.p 3 0,.o 2],_,[7],Lr 6,[6]⟩,⟨[.p 4 0],_,[],Lr 7,[7]⟩,⟨[.p 5 0,.o 3],_,[9],Lr 8,[8]⟩]) (F:=[.p 2 1,.o 1,.p 6 0,.p 7 0,.p 8 0]) (hst.pick [0,1,3,4,5,6] rfl) hb Zb
       (Qm rfl u_0<|Qm rfl u_0<|o_p rfl (Zkl (Ps:=[.val (pInt .i64 r11)]) (hs:=[]) (ks:=[(3,none,3)]) Zq2 (Zhc _ _ _ h15) rfl rfl rfl u_0 (.val u_1 .nil) (.box u_2 rfl (.val .nil)) rfl rfl rfl rfl)<|o_p rfl (Zbg rfl rfl u_0 rfl)<|o_p rfl (Zbg rfl rfl u_0 rfl)<|o_p rfl (Zbg rfl rfl u_0 rfl)<|o_p rfl (Zbe Z8 rfl rfl u_1 u_0)<|Qa rfl u_0<|o_p rfl (Zbe Zeh rfl rfl u_1 u_0)<|o_n) (fun a g hst hb=>?_)
      refine wp_ret ?_
      refine Zj ?_
      refine Zj ?_
      obtain rfl:=Option.some.inj H0
      obtain ⟨u0,hu0,hq0⟩:=Zbn (P:=Tryd.prog) Z8 (hst.at 2 rfl)
      obtain ⟨u2,hu2,hq2⟩:=Zbn (P:=Tryd.prog) Zeh (hst.at 4 rfl)
      exact Zkj rfl hst hb hu0 (Zf (s:=7)) hu2 (Zip hq0 (hst.at 3 rfl) hq2)
     ·replace H0:=Zq hc13 H0
      refine wp_skip ?_
      exact ⟨g,rfl,(hst.pick [0,1,2,3,4,5] rfl),hb,H0⟩
    ·replace H0:=Zq hc10 H0
     refine wp_skip ?_
     exact ⟨g,rfl,(hst.pick [0,1,2,3,4,5] rfl),hb,H0⟩
 ·refine wp_cond_split (hst.bool 5 rfl) (fun hc1=>?_) (fun hc1=>?_)
  ·replace H0:=Zp hc1 H0
   refine r_g (L:=[(3,_),(4,_),(5,_),(6,_),(8,_)]) (T:=[⟨[],_,[],[],[17]⟩,⟨[.p 0 0,.o 0],_,[4],[0],[3]⟩]) (F:=[.p 1 0,.o 1,.o 2,.o 3,.o 4]) (hst.pick [0,1,2,3,4] rfl) hb Zb
    (o_p rfl (Zm9 rfl rfl )<|o_p rfl (Zbe Z8 rfl rfl u_1 u_0)<|o_n) (fun a g hst hb=>?_)
   exact ⟨({ Kind:=(0:Int),Num:=(0:Int),Low:=(0:Int),High:=(0:Int),Real:=(0:Nat),Cap:=(0:Int),Text:=ByteArray.empty,List:=([]:List Zd) }:Za),g,rfl,(hst.pick [0,1,2,3,4] rfl),hb,H0⟩
  ·replace H0:=Zq hc1 H0
   refine wp_skip ?_
   exact ⟨a0,g,rfl,(hst.pick [0,1,2,3,4] rfl),hb,H0⟩
theorem Zkw (a0:Za) (a1:List Za) {r:Za} (h:Zgs a0 a1=some r):FnOk Tryd.prog 15 [(Zc.pd a0),(Zc.sl.pd a1)] (Zc.pd r):=by
 have H0:=h
 unfold Zgs at H0
 clear h
 refine Zbw (N:=76) Tryd.func15 rfl rfl (Qe rfl) rfl rfl (fun a g0 hst hb=>?_)
 refine r_s (T:=[⟨[.o 0],_,[3],[],[2]⟩,⟨[],[(4,(pBox Zc 4 (default:Za)))],[5],[],[4]⟩]) (F:=[.o 1,.p 0 0,.p 1 0]) hst hb Zb
  (o_p rfl (Znd rfl rfl u_0)<|o_p rfl (Zbt (zs:=[.int .i64 0,.int .i64 0,.int .i64 0,.int .i64 0,.float .f64 0,.int .i64 0,.string ByteArray.empty,.slice none 0 0]) (by kernel_rfl) (fun g=>Zb2 g) rfl rfl)<|o_n) (fun a g hst hb=>?_)
 obtain ⟨r1,h2,H0⟩:=Ze H0
 refine r_s (T:=[⟨[.o 1],_,[],[],[10]⟩,⟨[.p 0 0],_,[],[0],[11]⟩,⟨[.p 1 0,.o 1],_,[3],[0,1],[2]⟩]) (F:=[.o 0,.p 2 0,.o 2]) hst hb Zb
  (QM rfl Z8 u_0<|o_p rfl (Zr Znx (Zgu _ h2) rfl rfl (.cons u_0 .nil))<|o_p rfl (Zbe Z8 rfl rfl u_1 u_0)<|o_n) (fun a g hst hb=>?_)
 refine wp_seq ?_
 refine r_s (T:=[⟨[.o 0],_,[],[],[12]⟩,⟨[.p 0 0],_,[],[0],[13]⟩,⟨[],_,[],[],[14]⟩]) (F:=[.o 1,.o 2,.p 0 0,.p 1 0,.p 2 0]) hst hb Zb
  (Qm rfl u_0<|o_p rfl (Zcc Tryd.underlying33 rfl rfl u_0)<|Qm rfl c_i<|o_n) (fun a g hst hb=>?_)
 obtain ⟨z34,hz1,H0⟩:=Ze H0
 refine Zce (fun a w=>∃ (y33:Za) (g:G),w=g.w ∧ St 76 [(2,(pBox Zc 2 y33)),(4,(pBox Zc 4 (default:Za)))] a g ∧ Base g0 g ∧ y33=z34) ?_ ?_
 ·rintro a w ⟨y33,g,rfl,hst,hb,rfl⟩
  refine Zm ?_
  refine r_s (T:=[⟨[.o 0],_,[],[],[75]⟩,⟨[.p 0 0,.o 1],_,[5],[0],[4]⟩]) (F:=[.p 1 0]) hst hb Zb
   (QM rfl Z8 u_0<|o_p rfl (Zbe Z8 rfl rfl u_1 u_0)<|o_n) (fun a g hst hb=>?_)
  refine wp_ret ?_
  obtain rfl:=Option.some.inj H0
  obtain ⟨u0,hu0,hq0⟩:=Zbn (P:=Tryd.prog) Z8 (hst.at 0 rfl)
  exact Zx rfl hst hb hu0 hq0
 ·refine wp_block ?_
  refine wp_loop_ghost (fun n a w=>∃ (x3:Za) (x4:Int) (g:G),w=g.w ∧ St 76 [(2,(pBox Zc 2 x3)),(4,(pBox Zc 4 (default:Za))),(12,(Zc.sl.pd a1)),(13,(pInt .i64 (a1.length:Int))),(14,(pInt .i64 x4))] a g ∧ Base g0 g ∧ Zcz a1 n x3 x4=some z34) (Int.toNat ((a1.length:Int) - (0:Int)) + 1) ⟨r1,(0:Int),g,rfl,(hst.pick [0,1,2,3,4] rfl),hb,hz1⟩ (fun n a w hI=>?_)
  obtain ⟨x3,x4,g,rfl,hst,hb,H1⟩:=hI
  cases n with
  | zero=>exact absurd H1 (by simp [Zcz])
  | succ n =>
   rw [Zcz] at H1
   refine r_s (T:=[⟨[.o 4,.o 3],_,[],[],[15]⟩]) (F:=[.o 0,.o 1,.o 2,.o 3,.o 4,.p 0 0]) hst hb Zb
    (o_p rfl (Zb8 rfl rfl u_0 u_1)<|o_n) (fun a g hst hb=>?_)
   refine wp_seq ?_
   refine wp_cond_split (hst.bool 5 rfl) (fun hc5=>?_) (fun hc5=>?_)
   ·replace H1:=Zp hc5 H1
    refine wp_skip ?_
    refine Zm ?_
    refine wp_seq ?_
    refine Zce (fun a w=>∃ (j32:Za) (g:G),w=g.w ∧ St 76 [(2,(pBox Zc 2 j32)),(4,(pBox Zc 4 (default:Za))),(12,(Zc.sl.pd a1)),(13,(pInt .i64 (a1.length:Int))),(14,(pInt .i64 x4))] a g ∧ Base g0 g ∧ Zdw x4 (Zcz a1 n) j32=some z34) ?_ ?_
    ·rintro a w ⟨j32,g,rfl,hst,hb,H1⟩
     unfold Zdw at H1
     refine Zm ?_
     refine r_g (T:=[⟨[.o 4],_,[],[],[74]⟩,⟨[.p 0 0],_,[],[0],[14]⟩]) (F:=[.o 0,.o 1,.o 2,.o 3,.p 1 0]) hst hb Zb
      (o_p rfl (Zcs rfl rfl u_0 c_i rfl)<|Qm rfl u_0<|o_n) (fun a g hst hb=>?_)
     exact ⟨n,Nat.lt_succ_self _,j32,(IntKind.i64.wrap (x4 + (1:Int))),g,rfl,(hst.pick [0,1,2,3,4] rfl),hb,H1⟩
    ·refine wp_block ?_
     obtain ⟨e6,h7,H1⟩:=Ze H1
     refine r_s (L:=[(2,_),(4,_),(12,_),(13,_),(14,_)]) (T:=[⟨[.o 2,.o 4],_,[],[],[16]⟩,⟨[.p 0 0],_,[],[0],[17]⟩,⟨[],[(6,(pBox Zc 6 (default:Za)))],[7],[],[6]⟩,⟨[.p 1 0,.p 2 0],_,[7],[0,1,2],[6]⟩]) (F:=[.o 0,.o 1,.p 3 0,.o 2,.o 3,.o 4]) (hst.pick [0,1,2,3,4] rfl) hb Zb
      (o_p rfl (Zbp Tryd.underlying33 Zps rfl rfl u_0 u_1 h7)<|Ql rfl Z8 u_0<|o_p rfl (Zbt (zs:=[.int .i64 0,.int .i64 0,.int .i64 0,.int .i64 0,.float .f64 0,.int .i64 0,.string ByteArray.empty,.slice none 0 0]) (by kernel_rfl) (fun g=>Zb2 g) rfl rfl)<|o_p rfl (Zcg Z8 rfl rfl u_1 u_0)<|o_n) (fun a g hst hb=>?_)
     refine r_s (T:=[⟨[.o 0],_,[],[],[18]⟩,⟨[.p 0 0],_,[],[0],[19]⟩]) (F:=[.o 0,.o 1,.o 2,.o 3,.o 4,.o 5,.p 1 0]) hst hb Zb
      (o_p rfl (Zt Zdr (off:=0) (by kernel_rfl) rfl rfl u_0)<|QP rfl ty_3 u_0<|o_n) (fun a g hst hb=>?_)
     refine wp_block ?_
     refine wp_seq ?_
     refine r_s (T:=[⟨[.o 6],_,[],[],[21]⟩,⟨[.p 0 0],_,[],[0],[20]⟩]) (F:=[.o 0,.o 1,.o 2,.o 3,.o 4,.o 5,.o 6,.p 1 0]) hst hb Zb
      (o_p rfl (Zbc rfl rfl u_0 c_i)<|Qa rfl u_0<|o_n) (fun a g hst hb=>?_)
     refine Zce (fun a w=>∃ (j10:Bool) (g:G),w=g.w ∧ St 76 [(2,(pBox Zc 2 x3)),(4,(pBox Zc 4 (default:Za))),(6,(Zc.ptr e6)),(12,(Zc.sl.pd a1)),(13,(pInt .i64 (a1.length:Int))),(14,(pInt .i64 x4)),(19,(pInt .i64 x3.Kind)),(20,(Z7 j10))] a g ∧ Base g0 g ∧ Zgt x3 x4 e6 (Zcz a1 n) j10=some z34) ?_ ?_
     ·rintro a w ⟨j10,g,rfl,hst,hb,H1⟩
      unfold Zgt at H1
      refine Zm ?_
      refine wp_cond_split (hst.bool 7 rfl) (fun hc11=>?_) (fun hc11=>?_)
      ·replace H1:=Zp hc11 H1
       refine r_g (L:=[(2,_),(4,_),(6,_),(12,_),(13,_),(14,_)]) (T:=[⟨[.o 0],_,[],[],[24]⟩,⟨[.p 0 0],_,[],[0],[25]⟩,⟨[.o 2],_,[],[],[26]⟩,⟨[.p 2 0],_,[],[2],[27]⟩,⟨[.p 1 0,.p 3 0],_,[],Lr 4,[28]⟩,⟨[.o 0],_,[],Lr 5,[29]⟩,⟨[.p 4 0,.p 5 0,.o 0],_,[3],Lr 6,[2,24,29]⟩]) (F:=[.p 6 0,.o 1,.o 3,.o 4,.o 5]) (hst.pick [0,1,2,3,4,5] rfl) hb Zb
        (o_p rfl (Zt Zcl (off:=1) (by kernel_rfl) rfl rfl u_0)<|QP rfl ty_2 u_0<|Qf rfl Zcl u_0<|Ql rfl ty_2 u_0<|o_p rfl (Zcs rfl rfl u_0 u_1 rfl)<|o_p rfl (Zt Zcl (off:=1) (by kernel_rfl) rfl rfl u_0)<|o_p rfl (Zni ty_2 rfl rfl u_2 u_1 u_0)<|o_n) (fun a g hst hb=>?_)
       refine Zbj ?_
       refine Zbj ?_
       exact ⟨({ x3 with Num:=(IntKind.i64.wrap (x3.Num + e6.Num)) }),g,rfl,(hst.pick [0,1,2,3,4] rfl),hb,H1⟩
      ·replace H1:=Zq hc11 H1
       refine r_s (L:=[(2,_),(4,_),(6,_),(12,_),(13,_),(14,_),(19,_)]) (T:=[⟨[.o 6],_,[],[],[31]⟩,⟨[.p 0 0],_,[],[0],[30]⟩]) (F:=[.o 0,.o 1,.o 2,.o 3,.o 4,.o 5,.o 6,.p 1 0]) (hst.pick [0,1,2,3,4,5,6] rfl) hb Zb
        (o_p rfl (Zbc rfl rfl u_0 c_i)<|Qa rfl u_0<|o_n) (fun a g hst hb=>?_)
       refine wp_cond_split (hst.bool 7 rfl) (fun hc12=>?_) (fun hc12=>?_)
       ·replace H1:=Zp hc12 H1
        obtain ⟨r13,h14,H1⟩:=Ze H1
        refine r_g (L:=[(2,_),(4,_),(6,_),(12,_),(13,_),(14,_)]) (T:=[⟨[.o 0],_,[],[],[32]⟩,⟨[.p 0 0],_,[],[0],[33]⟩,⟨[.o 2],_,[],[],[34]⟩,⟨[.p 2 0],_,[],[2],[35]⟩,⟨[.p 1 0,.p 3 0],_,[],Lr 4,[36]⟩,⟨[.o 0],_,[],Lr 5,[37]⟩,⟨[.p 4 0,.p 5 0,.o 0],_,[3],Lr 6,[2,32,37]⟩]) (F:=[.p 6 0,.o 1,.o 3,.o 4,.o 5]) (hst.pick [0,1,2,3,4,5] rfl) hb Zb
         (o_p rfl (Zt Zfd (off:=4) (by kernel_rfl) rfl rfl u_0)<|QP rfl Zcv u_0<|Qf rfl Zfd u_0<|Ql rfl Zcv u_0<|o_p rfl (Zr Z10 (Zrk _ _ h14) rfl rfl (.cons u_0 (.cons u_1 .nil)))<|o_p rfl (Zt Zfd (off:=4) (by kernel_rfl) rfl rfl u_0)<|o_p rfl (Zr4 Zcv rfl rfl u_2 u_1 u_0)<|o_n) (fun a g hst hb=>?_)
        refine Zbj ?_
        refine Zbj ?_
        exact ⟨({ x3 with Real:=r13 }),g,rfl,(hst.pick [0,1,2,3,4] rfl),hb,H1⟩
       ·replace H1:=Zq hc12 H1
        refine r_s (L:=[(2,_),(4,_),(6,_),(12,_),(13,_),(14,_),(19,_)]) (T:=[⟨[.o 6],_,[],[],[39]⟩,⟨[.p 0 0],_,[],[0],[38]⟩]) (F:=[.o 0,.o 1,.o 2,.o 3,.o 4,.o 5,.o 6,.p 1 0]) (hst.pick [0,1,2,3,4,5,6] rfl) hb Zb
         (o_p rfl (Zbc rfl rfl u_0 c_i)<|Qa rfl u_0<|o_n) (fun a g hst hb=>?_)
        refine wp_cond_split (hst.bool 7 rfl) (fun hc15=>?_) (fun hc15=>?_)
        ·replace H1:=Zp hc15 H1
         obtain ⟨r16,h17,H1⟩:=Ze H1
         refine r_g (L:=[(2,_),(4,_),(6,_),(12,_),(13,_),(14,_)]) (T:=[⟨[.o 0],_,[],[],[40]⟩,⟨[.p 0 0],_,[],[0],[41]⟩,⟨[.o 2],_,[],[],[42]⟩,⟨[.p 2 0],_,[],[2],[43]⟩,⟨[.p 1 0,.p 3 0],_,[],Lr 4,[44]⟩,⟨[.o 0],_,[],Lr 5,[45]⟩,⟨[.p 4 0,.p 5 0,.o 0],_,[3],Lr 6,[2,40,45]⟩]) (F:=[.p 6 0,.o 1,.o 3,.o 4,.o 5]) (hst.pick [0,1,2,3,4,5] rfl) hb Zb
          (o_p rfl (Zt Zfd (off:=4) (by kernel_rfl) rfl rfl u_0)<|QP rfl Zcv u_0<|Qf rfl Zfd u_0<|Ql rfl Zcv u_0<|o_p rfl (Zr Z2k (Zrh _ _ h17) rfl rfl (.cons u_0 (.cons u_1 .nil)))<|o_p rfl (Zt Zfd (off:=4) (by kernel_rfl) rfl rfl u_0)<|o_p rfl (Zr4 Zcv rfl rfl u_2 u_1 u_0)<|o_n) (fun a g hst hb=>?_)
         refine Zbj ?_
         refine Zbj ?_
         exact ⟨({ x3 with Real:=r16 }),g,rfl,(hst.pick [0,1,2,3,4] rfl),hb,H1⟩
        ·replace H1:=Zq hc15 H1
         refine wp_seq ?_
         refine r_s (L:=[(2,_),(4,_),(6,_),(12,_),(13,_),(14,_),(19,_)]) (T:=[⟨[.o 6],_,[],[],[47]⟩,⟨[.p 0 0],_,[],[0],[46]⟩]) (F:=[.o 0,.o 1,.o 2,.o 3,.o 4,.o 5,.o 6,.p 1 0]) (hst.pick [0,1,2,3,4,5,6] rfl) hb Zb
          (o_p rfl (Zbc rfl rfl u_0 c_i)<|Qa rfl u_0<|o_n) (fun a g hst hb=>?_)
         refine Zce (fun a w=>∃ (j19:Bool) (g:G),w=g.w ∧ St 76 [(2,(pBox Zc 2 x3)),(4,(pBox Zc 4 (default:Za))),(6,(Zc.ptr e6)),(12,(Zc.sl.pd a1)),(13,(pInt .i64 (a1.length:Int))),(14,(pInt .i64 x4)),(46,(Z7 j19))] a g ∧ Base g0 g ∧ Zh3 x3 x4 e6 (Zcz a1 n) j19=some z34) ?_ ?_
         ·rintro a w ⟨j19,g,rfl,hst,hb,H1⟩
          unfold Zh3 at H1
          refine Zm ?_
          refine wp_cond_split (hst.bool 6 rfl) (fun hc20=>?_) (fun hc20=>?_)
          ·replace H1:=Zp hc20 H1
           refine r_s (L:=[(2,_),(4,_),(6,_),(12,_),(13,_),(14,_)]) (T:=[⟨[.o 2],_,[],[],[49]⟩,⟨[.p 0 0],_,[],[0],[50]⟩,⟨[.p 1 0],_,[],[0,1],[51]⟩,⟨[],_,[],[],[52]⟩]) (F:=[.o 0,.o 1,.o 3,.o 4,.o 5,.p 1 0,.p 2 0,.p 3 0]) (hst.pick [0,1,2,3,4,5] rfl) hb Zb
            (Qf rfl Zb5 u_0<|Ql rfl Zc4 u_0<|o_p rfl (Zcc Tryd.underlying23 rfl rfl u_0)<|Qm rfl c_i<|o_n) (fun a g hst hb=>?_)
           obtain ⟨z31,hz2,H1⟩:=Ze H1
           refine Zce (fun a w=>∃ (y30:Za) (g:G),w=g.w ∧ St 76 [(2,(pBox Zc 2 y30)),(4,(pBox Zc 4 (default:Za))),(12,(Zc.sl.pd a1)),(13,(pInt .i64 (a1.length:Int))),(14,(pInt .i64 x4))] a g ∧ Base g0 g ∧ y30=z31) ?_ ?_
           ·rintro a w ⟨y30,g,rfl,hst,hb,rfl⟩
            refine Zbj ?_
            refine Zbj ?_
            exact ⟨y30,g,rfl,(hst.pick [0,1,2,3,4] rfl),hb,H1⟩
           ·refine wp_block ?_
            refine wp_loop_ghost (fun n a w=>∃ (x21:Za) (x22:Int) (g:G),w=g.w ∧ St 76 [(2,(pBox Zc 2 x21)),(4,(pBox Zc 4 (default:Za))),(12,(Zc.sl.pd a1)),(13,(pInt .i64 (a1.length:Int))),(14,(pInt .i64 x4)),(50,(Zo.sl.pd e6.List)),(51,(pInt .i64 (e6.List.length:Int))),(52,(pInt .i64 x22))] a g ∧ Base g0 g ∧ Zdx e6 n x21 x22=some z31) (Int.toNat ((e6.List.length:Int) - (0:Int)) + 1) ⟨x3,(0:Int),g,rfl,(hst.pick [0,1,2,3,4,5,6,7] rfl),hb,hz2⟩ (fun n a w hI=>?_)
            obtain ⟨x21,x22,g,rfl,hst,hb,H2⟩:=hI
            cases n with
            | zero=>exact absurd H2 (by simp [Zdx])
            | succ n =>
             rw [Zdx] at H2
             refine r_s (T:=[⟨[.o 7,.o 6],_,[],[],[53]⟩]) (F:=[.o 0,.o 1,.o 2,.o 3,.o 4,.o 5,.o 6,.o 7,.p 0 0]) hst hb Zb
              (o_p rfl (Zb8 rfl rfl u_0 u_1)<|o_n) (fun a g hst hb=>?_)
             refine wp_seq ?_
             refine wp_cond_split (hst.bool 8 rfl) (fun hc23=>?_) (fun hc23=>?_)
             ·replace H2:=Zp hc23 H2
              refine wp_skip ?_
              refine Zm ?_
              refine wp_seq ?_
              refine wp_block ?_
              obtain ⟨e24,h25,H2⟩:=Ze H2
              refine r_s (L:=[(2,_),(4,_),(12,_),(13,_),(14,_),(50,_),(51,_),(52,_)]) (T:=[⟨[.o 5,.o 7],_,[],[],[54]⟩,⟨[.p 0 0],_,[],[0],[55]⟩,⟨[],[(8,(pBox Zo 8 (default:Zd)))],[9],[],[8]⟩,⟨[.p 1 0,.p 2 0],_,[9],[0,1,2],[8]⟩]) (F:=[.o 0,.o 1,.p 3 0,.o 2,.o 3,.o 4,.o 5,.o 6,.o 7]) (hst.pick [0,1,2,3,4,5,6,7] rfl) hb Zb
               (o_p rfl (Zbp Tryd.underlying23 Zga rfl rfl u_0 u_1 h25)<|Ql rfl Zd2 u_0<|o_p rfl (Zbt (zs:=[.float .f64 0,.string ByteArray.empty]) (by kernel_rfl) (fun g=>Zgr g) rfl rfl)<|o_p rfl (Zcg Zd2 rfl rfl u_1 u_0)<|o_n) (fun a g hst hb=>?_)
              refine r_s (T:=[⟨[.o 2],_,[],[],[56]⟩,⟨[.p 0 0],_,[],[0],[57]⟩,⟨[.p 1 0],_,[],[0,1],[58]⟩,⟨[],[(9,(pBox Z1 9 (default:Zg)))],[10],[],[9]⟩,⟨[.p 2 0,.p 3 0],_,[10],Lr 4,[9]⟩]) (F:=[.o 0,.o 1,.o 2,.p 4 0,.o 3,.o 4,.o 5,.o 6,.o 7,.o 8]) hst hb Zb
               (Qf rfl Zed u_0<|Ql rfl ty_9 u_0<|o_p rfl (Zwc rfl rfl c_i c_s u_0)<|o_p rfl (Zbt (zs:=[.int .i64 0,.string ByteArray.empty,.int .i64 0,.float .f64 0,.string ByteArray.empty,.int .i64 0,.int .i64 0,.int .i64 0,.int .i64 0,.float .f64 0,.int .i64 0,.string ByteArray.empty,.slice none 0 0,.bool false]) (by kernel_rfl) (fun g=>Zli g) rfl rfl)<|o_p rfl (Zbe Zg3 rfl rfl u_1 u_0)<|o_n) (fun a g hst hb=>?_)
              refine wp_seq ?_
              refine r_s (T:=[⟨[.o 0],_,[],[],[59]⟩,⟨[.p 0 0],_,[],[0],[60]⟩,⟨[.p 1 0],_,[],[0,1],[61]⟩]) (F:=[.o 0,.o 1,.o 2,.o 3,.o 4,.o 5,.o 6,.o 7,.o 8,.o 9,.p 2 0]) hst hb Zb
               (o_p rfl (Zt Zdr (off:=0) (by kernel_rfl) rfl rfl u_0)<|QP rfl ty_3 u_0<|o_p rfl (Zbc rfl rfl u_0 c_i)<|o_n) (fun a g hst hb=>?_)
              refine Zce (fun a w=>∃ (j27:Zg) (g:G),w=g.w ∧ St 76 [(2,(pBox Zc 2 x21)),(4,(pBox Zc 4 (default:Za))),(9,(pBox Z1 9 j27)),(12,(Zc.sl.pd a1)),(13,(pInt .i64 (a1.length:Int))),(14,(pInt .i64 x4)),(50,(Zo.sl.pd e6.List)),(51,(pInt .i64 (e6.List.length:Int))),(52,(pInt .i64 x22))] a g ∧ Base g0 g ∧ Zh4 x21 x22 (Zdx e6 n) j27=some z31) ?_ ?_
              ·rintro a w ⟨j27,g,rfl,hst,hb,H2⟩
               unfold Zh4 at H2
               refine Zm ?_
               obtain ⟨r28,h29,H2⟩:=Ze H2
               refine r_g (T:=[⟨[.o 0],_,[],[],[67]⟩,⟨[.o 2],_,[],[],[68]⟩,⟨[.p 0 0,.p 1 0],_,[],[0,1],[69]⟩,⟨[.p 2 0],_,[],[0,1,2],[66]⟩,⟨[.p 3 0],_,[],Lr 4,[70]⟩,⟨[.p 3 0],_,[],Lr 4,[71]⟩,⟨[.p 3 0],_,[],Lr 4,[72]⟩,⟨[.p 4 0,.o 0],_,[3],Lr 5,[2]⟩]) (F:=[.p 7 0,.o 1,.o 3,.o 4,.o 5,.o 6,.o 7,.o 8]) hst hb Zb
                (QM rfl Z8 u_0<|QM rfl Zg3 u_0<|o_p rfl (Zr Z2e (Zoh _ _ _ h29) rfl rfl (.cons u_0 (.cons c_b (.cons u_1 .nil))))<|Qm rfl u_0<|o_p rfl (Zbg rfl rfl u_0 rfl)<|o_p rfl (Zbg rfl rfl u_0 rfl)<|o_p rfl (Zbg rfl rfl u_0 rfl)<|o_p rfl (Zbe Z8 rfl rfl u_1 u_0)<|o_n) (fun a g hst hb=>?_)
               refine Zbj ?_
               refine Zm ?_
               refine r_g (T:=[⟨[.o 7],_,[],[],[73]⟩,⟨[.p 0 0],_,[],[0],[52]⟩]) (F:=[.o 0,.o 1,.o 2,.o 3,.o 4,.o 5,.o 6,.p 1 0]) hst hb Zb
                (o_p rfl (Zcs rfl rfl u_0 c_i rfl)<|Qm rfl u_0<|o_n) (fun a g hst hb=>?_)
               exact ⟨n,Nat.lt_succ_self _,r28.1,(IntKind.i64.wrap (x22 + (1:Int))),g,rfl,(hst.pick [0,1,2,3,4,5,6,7] rfl),hb,H2⟩
              ·refine wp_cond_split (hst.bool 10 rfl) (fun hc26=>?_) (fun hc26=>?_)
               ·replace H2:=Zp hc26 H2
                refine r_g (L:=[(2,_),(4,_),(8,_),(9,_),(12,_),(13,_),(14,_),(50,_),(51,_),(52,_)]) (T:=[⟨[.o 2],_,[],[],[62]⟩,⟨[.p 0 0],_,[],[0],[63]⟩,⟨[.o 3],_,[],[],[64]⟩,⟨[.p 2 0,.o 3],_,[10],[2],[9,64]⟩,⟨[.p 3 0],_,[],Lr 4,[65]⟩,⟨[.p 1 0,.p 4 0,.p 3 0],_,[10],Lr 5,[9,64,65]⟩]) (F:=[.o 0,.o 1,.p 5 0,.o 4,.o 5,.o 6,.o 7,.o 8,.o 9]) (hst.pick [0,1,2,3,4,5,6,7,8,9] rfl) hb Zb
                 (Qf rfl Zet u_0<|Ql rfl Zcv u_0<|o_p rfl (Zt Zcp (off:=0) (by kernel_rfl) rfl rfl u_0)<|o_p rfl (Zsi ty_3 rfl rfl u_1 u_0 c_i)<|o_p rfl (Zt Zk0 (off:=3) (by kernel_rfl) rfl rfl u_0)<|o_p rfl (Z39 Zcv rfl rfl u_2 u_1 u_0)<|o_n) (fun a g hst hb=>?_)
                exact ⟨({ ({ ({ Kind:=(18:Int),Key:=(⟨#[107]⟩:ByteArray),N:=(0:Int),X:=(0:Nat),S:=e24.Name,Make:=(default:Za),Must:=false }:Zg) with Kind:=(21:Int) }) with X:=e24.Score }),g,rfl,(hst.pick [0,1,2,3,4,5,6,7,8] rfl),hb,H2⟩
               ·replace H2:=Zq hc26 H2
                refine wp_skip ?_
                exact ⟨({ Kind:=(18:Int),Key:=(⟨#[107]⟩:ByteArray),N:=(0:Int),X:=(0:Nat),S:=e24.Name,Make:=(default:Za),Must:=false }:Zg),g,rfl,(hst.pick [0,1,3,4,5,6,7,8,9] rfl),hb,H2⟩
             ·replace H2:=Zq hc23 H2
              refine wp_exit ?_
              refine Zca ?_
              refine Zca ?_
              refine Zc5 ?_
              exact ⟨x21,g,rfl,(hst.pick [0,1,2,3,4] rfl),hb,Option.some.inj H2⟩
          ·replace H1:=Zq hc20 H1
           refine wp_skip ?_
           refine Zbj ?_
           refine Zbj ?_
           exact ⟨x3,g,rfl,(hst.pick [0,1,3,4,5] rfl),hb,H1⟩
         ·refine wp_cond_split (hst.bool 7 rfl) (fun hc18=>?_) (fun hc18=>?_)
          ·replace H1:=Zp hc18 H1
           refine wp_skip ?_
           exact ⟨(x3.Kind == (8:Int)),g,rfl,(hst.pick [0,1,2,3,4,5,7] rfl),hb,H1⟩
          ·replace H1:=Zq hc18 H1
           refine r_g (L:=[(2,_),(4,_),(6,_),(12,_),(13,_),(14,_),(19,_)]) (T:=[⟨[.o 6],_,[],[],[48]⟩,⟨[.p 0 0],_,[],[0],[46]⟩]) (F:=[.o 0,.o 1,.o 2,.o 3,.o 4,.o 5,.p 1 0]) (hst.pick [0,1,2,3,4,5,6] rfl) hb Zb
            (o_p rfl (Zbc rfl rfl u_0 c_i)<|Qa rfl u_0<|o_n) (fun a g hst hb=>?_)
           exact ⟨(x3.Kind == (9:Int)),g,rfl,(hst.pick [0,1,2,3,4,5,6] rfl),hb,H1⟩
     ·refine wp_cond_split (hst.bool 7 rfl) (fun hc8=>?_) (fun hc8=>?_)
      ·replace H1:=Zp hc8 H1
       refine wp_skip ?_
       exact ⟨(x3.Kind == (2:Int)),g,rfl,(hst.pick [0,1,2,3,4,5,6,7] rfl),hb,H1⟩
      ·replace H1:=Zq hc8 H1
       refine r_s (L:=[(2,_),(4,_),(6,_),(12,_),(13,_),(14,_),(19,_)]) (T:=[⟨[.o 6],_,[],[],[22]⟩,⟨[.p 0 0],_,[],[0],[20]⟩]) (F:=[.o 0,.o 1,.o 2,.o 3,.o 4,.o 5,.o 6,.p 1 0]) (hst.pick [0,1,2,3,4,5,6] rfl) hb Zb
        (o_p rfl (Zbc rfl rfl u_0 c_i)<|Qa rfl u_0<|o_n) (fun a g hst hb=>?_)
       refine wp_cond_split (hst.bool 7 rfl) (fun hc9=>?_) (fun hc9=>?_)
       ·replace H1:=Zp hc9 H1
        refine wp_skip ?_
        exact ⟨(x3.Kind == (3:Int)),g,rfl,(hst.pick [0,1,2,3,4,5,6,7] rfl),hb,H1⟩
       ·replace H1:=Zq hc9 H1
        refine r_g (L:=[(2,_),(4,_),(6,_),(12,_),(13,_),(14,_),(19,_)]) (T:=[⟨[.o 6],_,[],[],[23]⟩,⟨[.p 0 0],_,[],[0],[20]⟩]) (F:=[.o 0,.o 1,.o 2,.o 3,.o 4,.o 5,.o 6,.p 1 0]) (hst.pick [0,1,2,3,4,5,6] rfl) hb Zb
         (o_p rfl (Zbc rfl rfl u_0 c_i)<|Qa rfl u_0<|o_n) (fun a g hst hb=>?_)
        exact ⟨(x3.Kind == (4:Int)),g,rfl,(hst.pick [0,1,2,3,4,5,6,7] rfl),hb,H1⟩
   ·replace H1:=Zq hc5 H1
    refine wp_exit ?_
    refine Zca ?_
    refine Zca ?_
    refine Zc5 ?_
    exact ⟨x3,g,rfl,(hst.pick [0,1] rfl),hb,Option.some.inj H1⟩
theorem Zqa (a0:Za) (a1:Zg) {r:Za} (h:Ziz a0 a1=some r):FnOk Tryd.prog 16 [(Zc.pd a0),(Z1.pd a1)] (Zc.pd r):=by
 have H0:=h
 unfold Ziz at H0
 clear h
 refine Zbw (N:=29) Tryd.func16 rfl rfl (Qe rfl) rfl rfl (fun a g0 hst hb=>?_)
 refine r_s (T:=[⟨[.o 0],_,[],[],[2]⟩,⟨[.o 1],_,[4],[],[3]⟩,⟨[],[(4,(pBox Zc 4 (default:Za)))],[5],[],[4]⟩]) (F:=[.p 0 0,.p 1 0,.p 2 0]) hst hb Zb
  (Qb rfl u_0<|o_p rfl (Znd rfl rfl u_0)<|o_p rfl (Zbt (zs:=[.int .i64 0,.int .i64 0,.int .i64 0,.int .i64 0,.float .f64 0,.int .i64 0,.string ByteArray.empty,.slice none 0 0]) (by kernel_rfl) (fun g=>Zb2 g) rfl rfl)<|o_n) (fun a g hst hb=>?_)
 refine wp_seq ?_
 refine r_s (T:=[⟨[.o 1],_,[],[],[8]⟩,⟨[.p 0 0],_,[],[0],[9]⟩]) (F:=[.o 0,.o 1,.o 2,.p 1 0]) hst hb Zb
  (o_p rfl (Zt Zcp (off:=0) (by kernel_rfl) rfl rfl u_0)<|QP rfl ty_3 u_0<|o_n) (fun a g hst hb=>?_)
 refine Zce (fun a w=>∃ (j5:Zg) (g:G),w=g.w ∧ St 29 [(2,(Zc.ptr a0)),(3,(pBox Z1 3 j5)),(4,(pBox Zc 4 (default:Za)))] a g ∧ Base g0 g ∧ Zht a0 j5=some r) ?_ ?_
 ·rintro a w ⟨j5,g,rfl,hst,hb,H0⟩
  unfold Zht at H0
  refine Zm ?_
  obtain ⟨r6,h7,H0⟩:=Ze H0
  refine r_s (T:=⟨[.o 0],_,[],[],[22]⟩ :: ⟨[.o 1],_,[],[],[23]⟩ :: ⟨[.p 0 0,.p 1 0],_,[],[0,1],[24]⟩ :: ⟨[.p 2 0],_,[],[0,1,2],[21]⟩ :: ⟨[.p 3 0],_,[],Lr 4,[25]⟩ :: ⟨[.p 3 0],_,[],Lr 4,[26]⟩ :: ⟨[.p 3 0],_,[],Lr 4,[27]⟩ :: ⟨[],[(5,(pBox Zc 5 (default:Za)))],[6],[],[5]⟩ :: ⟨[],[(7,(pBox Z2 7 (default:Zi)))],[8],[],[7]⟩ :: ⟨[.p 4 0,.p 7 0],_,[6],[0,1,2,3,4,7,8],[5]⟩ :: ⟨[.p 5 0],_,[],[0,1,2,3,4,5,7,8,9],[6]⟩ :: ⟨[.p 6 0,.p 8 0],_,[8],Lr 11,[7]⟩ :: []) (F:=[.o 2,.p 9 0]) hst hb Zb
   (Ql rfl Z8 u_0<|QM rfl Zg3 u_0<|o_p rfl (Zr Z2e (Zoh _ _ _ h7) rfl rfl (.cons u_0 (.cons c_b (.cons u_1 .nil))))<|Qm rfl u_0<|o_p rfl (Zbg rfl rfl u_0 rfl)<|o_p rfl (Zbg rfl rfl u_0 rfl)<|o_p rfl (Zbg rfl rfl u_0 rfl)<|o_p rfl (Zbt (zs:=[.int .i64 0,.int .i64 0,.int .i64 0,.int .i64 0,.float .f64 0,.int .i64 0,.string ByteArray.empty,.slice none 0 0]) (by kernel_rfl) (fun g=>Zb2 g) rfl rfl)<|o_p rfl (Zbt (zs:=[.int .i64 0,.int .i64 0,.int .i64 0,.int .i64 0,.int .i64 0,.int .i64 0,.float .f64 0,.int .i64 0,.string ByteArray.empty,.slice none 0 0]) (by kernel_rfl) (fun g=>Zjy g) rfl rfl)<|o_p rfl (Zcg Z8 rfl rfl u_1 u_0)<|Qa rfl u_0<|o_p rfl (Zcg Zeh rfl rfl u_1 u_0)<|o_n) (fun a g hst hb=>?_)
  refine r_s (T:=[⟨[.o 1],_,[],[],[28]⟩,⟨[.p 0 0,.o 0],_,[5],[0],[4]⟩]) (F:=[.p 1 0]) hst hb Zb
   (Ql rfl Z8 u_0<|o_p rfl (Zbe Z8 rfl rfl u_1 u_0)<|o_n) (fun a g hst hb=>?_)
  refine wp_ret ?_
  obtain rfl:=Option.some.inj H0
  obtain ⟨u0,hu0,hq0⟩:=Zbn (P:=Tryd.prog) Z8 (hst.at 0 rfl)
  exact Zx rfl hst hb hu0 hq0
 ·refine wp_block ?_
  refine wp_seq ?_
  refine r_s (T:=[⟨[.o 3],_,[],[],[11]⟩,⟨[.p 0 0],_,[],[0],[10]⟩]) (F:=[.o 0,.o 1,.o 2,.o 3,.p 1 0]) hst hb Zb
   (o_p rfl (Zbc rfl rfl u_0 c_i)<|Qa rfl u_0<|o_n) (fun a g hst hb=>?_)
  refine Zce (fun a w=>∃ (j2:Bool) (g:G),w=g.w ∧ St 29 [(2,(Zc.ptr a0)),(3,(pBox Z1 3 a1)),(4,(pBox Zc 4 (default:Za))),(9,(pInt .i64 a1.Kind)),(10,(Z7 j2))] a g ∧ Base g0 g ∧ Zju a0 a1 j2=some r) ?_ ?_
  ·rintro a w ⟨j2,g,rfl,hst,hb,H0⟩
   unfold Zju at H0
   refine Zm ?_
   refine wp_cond_split (hst.bool 4 rfl) (fun hc3=>?_) (fun hc3=>?_)
   ·replace H0:=Zp hc3 H0
    refine r_g (L:=[(2,_),(3,_),(4,_)]) (T:=[⟨[.o 1],_,[],[],[13]⟩,⟨[.p 0 0,.o 1],_,[4],[0],[3,13]⟩]) (F:=[.o 0,.p 1 0,.o 2]) (hst.pick [0,1,2] rfl) hb Zb
     (o_p rfl (Zt Zcp (off:=0) (by kernel_rfl) rfl rfl u_0)<|o_p rfl (Zsi ty_3 rfl rfl u_1 u_0 c_i)<|o_n) (fun a g hst hb=>?_)
    refine Zbj ?_
    exact ⟨({ a1 with Kind:=(7:Int) }),g,rfl,(hst.pick [0,1,2] rfl),hb,H0⟩
   ·replace H0:=Zq hc3 H0
    refine r_s (L:=[(2,_),(3,_),(4,_),(9,_)]) (T:=[⟨[.o 3],_,[],[],[15]⟩,⟨[.p 0 0],_,[],[0],[14]⟩]) (F:=[.o 0,.o 1,.o 2,.p 1 0]) (hst.pick [0,1,2,3] rfl) hb Zb
     (o_p rfl (Zbc rfl rfl u_0 c_i)<|Qa rfl u_0<|o_n) (fun a g hst hb=>?_)
    refine wp_cond_split (hst.bool 3 rfl) (fun hc4=>?_) (fun hc4=>?_)
    ·replace H0:=Zp hc4 H0
     refine r_g (L:=[(2,_),(3,_),(4,_)]) (T:=[⟨[.o 1],_,[],[],[16]⟩,⟨[.p 0 0],_,[],[0],[17]⟩,⟨[.p 1 0],_,[],[0,1],[18]⟩,⟨[.o 1],_,[],[0,1],[19]⟩,⟨[.p 3 0,.o 1],_,[4],[0,1,3],[3,16,19]⟩,⟨[.p 4 0],_,[],Lr 5,[20]⟩,⟨[.p 2 0,.p 5 0,.p 4 0],_,[4],Lr 6,[3,16,19,20]⟩]) (F:=[.o 0,.p 6 0,.o 2]) (hst.pick [0,1,2] rfl) hb Zb
      (o_p rfl (Zt Zdf (off:=2) (by kernel_rfl) rfl rfl u_0)<|QP rfl ty_2 u_0<|o_p rfl (Zu6 rfl rfl u_0 rfl)<|o_p rfl (Zt Zcp (off:=0) (by kernel_rfl) rfl rfl u_0)<|o_p rfl (Zsi ty_3 rfl rfl u_1 u_0 c_i)<|o_p rfl (Zt Zdf (off:=2) (by kernel_rfl) rfl rfl u_0)<|o_p rfl (Z4h ty_2 rfl rfl u_2 u_1 u_0)<|o_n) (fun a g hst hb=>?_)
     refine Zbj ?_
     exact ⟨({ ({ a1 with Kind:=(7:Int) }) with N:=(IntKind.i64.wrap (0 - a1.N)) }),g,rfl,(hst.pick [0,1,2] rfl),hb,H0⟩
    ·replace H0:=Zq hc4 H0
     refine wp_skip ?_
     refine Zbj ?_
     exact ⟨a1,g,rfl,(hst.pick [0,1,2] rfl),hb,H0⟩
  ·refine wp_cond_split (hst.bool 4 rfl) (fun hc1=>?_) (fun hc1=>?_)
   ·replace H0:=Zp hc1 H0
    refine wp_skip ?_
    exact ⟨(a1.Kind == (8:Int)),g,rfl,(hst.pick [0,1,2,3,4] rfl),hb,H0⟩
   ·replace H0:=Zq hc1 H0
    refine r_g (L:=[(2,_),(3,_),(4,_),(9,_)]) (T:=[⟨[.o 3],_,[],[],[12]⟩,⟨[.p 0 0],_,[],[0],[10]⟩]) (F:=[.o 0,.o 1,.o 2,.o 3,.p 1 0]) (hst.pick [0,1,2,3] rfl) hb Zb
     (o_p rfl (Zbc rfl rfl u_0 c_i)<|Qa rfl u_0<|o_n) (fun a g hst hb=>?_)
    exact ⟨(a1.Kind == (10:Int)),g,rfl,(hst.pick [0,1,2,3,4] rfl),hb,H0⟩
theorem Ztn (a0:Za) {r:Zs × Bool} (h:Zkg a0=some r):FnOk Tryd.prog 53 [(Zc.pd a0)] (pTup [(Z5.pd r.1),(Z7 r.2)]):=by
 have H0:=h
 unfold Zkg at H0
 clear h
 refine Zbw (N:=43) Tryd.func53 rfl rfl (Qe rfl) rfl rfl (fun a g0 hst hb=>?_)
 refine r_s (T:=[⟨[.o 0],_,[],[],[1]⟩,⟨[],[(2,(pBox Z5 2 (default:Zs)))],[3],[],[2]⟩,⟨[],_,[],[],[3]⟩]) (F:=[.p 0 0,.p 1 0]) hst hb Zb
  (Qb rfl u_0<|o_p rfl (Zbt (zs:=[.int .u64 0,.int .u64 0]) (by kernel_rfl) (fun g=>Zin g) rfl rfl)<|Qa rfl c_b<|o_n) (fun a g hst hb=>?_)
 refine wp_seq ?_
 refine r_s (T:=[⟨[.o 0],_,[],[],[4]⟩,⟨[.p 0 0],_,[],[0],[5]⟩]) (F:=[.o 0,.o 1,.p 1 0]) hst hb Zb
  (Qf rfl Zdr u_0<|Ql rfl ty_3 u_0<|o_n) (fun a g hst hb=>?_)
 refine wp_block ?_
 refine r_s (T:=[⟨[.o 2],_,[],[],[7]⟩,⟨[.p 0 0],_,[],[0],[6]⟩]) (F:=[.o 0,.o 1,.o 2,.p 1 0]) hst hb Zb
  (o_p rfl (Zbc rfl rfl u_0 c_i)<|Qa rfl u_0<|o_n) (fun a g hst hb=>?_)
 refine wp_cond_split (hst.bool 3 rfl) (fun hc1=>?_) (fun hc1=>?_)
 ·replace H0:=Zp hc1 H0
  refine r_s (L:=[(1,_),(2,_)]) (T:=[⟨[.o 0],_,[],[],[8]⟩,⟨[.p 0 0],_,[],[0],[9]⟩,⟨[.p 1 0],_,[],[0,1],[10]⟩,⟨[.p 2 0],_,[],[0,1,2],[11]⟩,⟨[.o 0],_,[],[],[12]⟩,⟨[.p 4 0],_,[],[4],[13]⟩,⟨[.p 5 0],_,[],[4,5],[14]⟩,⟨[.p 6 0],_,[],[4,5,6],[15]⟩,⟨[.p 3 0,.p 7 0],_,[],Lr 8,[16]⟩,⟨[.p 8 0,.o 1],_,[3],Lr 9,[2]⟩,⟨[],_,[],Lr 10,[3]⟩]) (F:=[.p 9 0,.p 10 0]) (hst.pick [0,1] rfl) hb Zb
   (Qf rfl Zcl u_0<|Ql rfl ty_2 u_0<|o_p rfl (Zgf Tryd.underlying2 Tryd.underlying62 rfl rfl u_0 rfl)<|o_p rfl (Ze6 rfl rfl c_i u_0 rfl)<|Qf rfl Zcl u_0<|Ql rfl ty_2 u_0<|o_p rfl (Zgf Tryd.underlying2 Tryd.underlying62 rfl rfl u_0 rfl)<|o_p rfl (Ze6 rfl rfl u_0 c_i rfl)<|o_p rfl (Zpf rfl rfl u_0 u_1)<|o_p rfl (Zbe Zd3 rfl rfl u_1 u_0)<|Qa rfl c_b<|o_n) (fun a g hst hb=>?_)
  refine wp_ret ?_
  refine Zw ?_
  refine Zj ?_
  obtain rfl:=Option.some.inj H0
  obtain ⟨u0,hu0,hq0⟩:=Zbn (P:=Tryd.prog) Zd3 (hst.at 0 rfl)
  exact Zhe rfl hst hb hu0 (Zf (s:=3)) (Zfi hq0 (hst.at 1 rfl))
 ·replace H0:=Zq hc1 H0
  refine r_s (L:=[(1,_),(2,_),(5,_)]) (T:=[⟨[.o 2],_,[],[],[18]⟩,⟨[.p 0 0],_,[],[0],[17]⟩]) (F:=[.o 0,.o 1,.o 2,.p 1 0]) (hst.pick [0,1,2] rfl) hb Zb
   (o_p rfl (Zbc rfl rfl u_0 c_i)<|Qa rfl u_0<|o_n) (fun a g hst hb=>?_)
  refine wp_cond_split (hst.bool 3 rfl) (fun hc2=>?_) (fun hc2=>?_)
  ·replace H0:=Zp hc2 H0
   refine r_s (L:=[(1,_),(2,_)]) (T:=⟨[.o 0],_,[],[],[19]⟩ :: ⟨[.p 0 0],_,[],[0],[20]⟩ :: ⟨[.o 0],_,[],[],[21]⟩ :: ⟨[.p 2 0],_,[],[2],[22]⟩ :: ⟨[.p 1 0,.p 3 0],_,[],Lr 4,[23]⟩ :: ⟨[.p 4 0],_,[],Lr 5,[24]⟩ :: ⟨[.o 0],_,[],[],[25]⟩ :: ⟨[.p 6 0],_,[],[6],[26]⟩ :: ⟨[.o 0],_,[],[],[27]⟩ :: ⟨[.p 8 0],_,[],[8],[28]⟩ :: ⟨[.p 7 0,.p 9 0],_,[],List.range' 6 4,[29]⟩ :: ⟨[.p 10 0],_,[],List.range' 6 5,[30]⟩ :: ⟨[.p 5 0,.p 11 0],_,[],Lr 12,[31]⟩ :: ⟨[.p 12 0,.o 1],_,[3],Lr 13,[2]⟩ :: ⟨[],_,[],Lr 14,[3]⟩ :: []) (F:=[.p 13 0,.p 14 0]) (hst.pick [0,1] rfl) hb Zb
    (Qf rfl Zg8 u_0<|Ql rfl ty_2 u_0<|Qf rfl Zcl u_0<|Ql rfl ty_2 u_0<|o_p rfl (Ze6 rfl rfl u_0 u_1 rfl)<|o_p rfl (Zgf Tryd.underlying2 Tryd.underlying62 rfl rfl u_0 rfl)<|Qf rfl Zcl u_0<|Ql rfl ty_2 u_0<|Qf rfl Zg6 u_0<|Ql rfl ty_2 u_0<|o_p rfl (Ze6 rfl rfl u_0 u_1 rfl)<|o_p rfl (Zgf Tryd.underlying2 Tryd.underlying62 rfl rfl u_0 rfl)<|o_p rfl (Zpf rfl rfl u_0 u_1)<|o_p rfl (Zbe Zd3 rfl rfl u_1 u_0)<|Qa rfl c_b<|o_n) (fun a g hst hb=>?_)
   refine wp_ret ?_
   refine Zw ?_
   refine Zj ?_
   obtain rfl:=Option.some.inj H0
   obtain ⟨u0,hu0,hq0⟩:=Zbn (P:=Tryd.prog) Zd3 (hst.at 0 rfl)
   exact Zhe rfl hst hb hu0 (Zf (s:=3)) (Zfi hq0 (hst.at 1 rfl))
  ·replace H0:=Zq hc2 H0
   refine r_s (L:=[(1,_),(2,_),(5,_)]) (T:=[⟨[.o 2],_,[],[],[33]⟩,⟨[.p 0 0],_,[],[0],[32]⟩]) (F:=[.o 0,.o 1,.p 1 0]) (hst.pick [0,1,2] rfl) hb Zb
    (o_p rfl (Zbc rfl rfl u_0 c_i)<|Qa rfl u_0<|o_n) (fun a g hst hb=>?_)
   refine wp_cond_split (hst.bool 2 rfl) (fun hc3=>?_) (fun hc3=>?_)
   ·replace H0:=Zp hc3 H0
    refine r_s (L:=[(1,_),(2,_)]) (T:=[⟨[.o 0],_,[],[],[34]⟩,⟨[.p 0 0],_,[],[0],[35]⟩,⟨[.o 0],_,[],[],[36]⟩,⟨[.p 2 0],_,[],[2],[37]⟩,⟨[.p 3 0],_,[],[2,3],[38]⟩,⟨[.p 1 0,.p 4 0],_,[],Lr 5,[39]⟩,⟨[.p 5 0],_,[],Lr 6,[40]⟩,⟨[.p 6 0],_,[],Lr 7,[41]⟩,⟨[.p 7 0,.o 1],_,[3],Lr 8,[2]⟩,⟨[],_,[],Lr 9,[3]⟩]) (F:=[.p 8 0,.p 9 0]) (hst.pick [0,1] rfl) hb Zb
     (Qf rfl Zfb u_0<|Ql rfl ty_3 u_0<|Qf rfl Zb5 u_0<|Ql rfl Zc4 u_0<|o_p rfl (Zcc Tryd.underlying23 rfl rfl u_0)<|o_p rfl (Ze6 rfl rfl u_0 u_1 rfl)<|o_p rfl (Zgf Tryd.underlying3 Tryd.underlying62 rfl rfl u_0 rfl)<|o_p rfl (Zpp rfl rfl u_0)<|o_p rfl (Zbe Zd3 rfl rfl u_1 u_0)<|Qa rfl c_b<|o_n) (fun a g hst hb=>?_)
    refine wp_ret ?_
    refine Zw ?_
    refine Zj ?_
    obtain rfl:=Option.some.inj H0
    obtain ⟨u0,hu0,hq0⟩:=Zbn (P:=Tryd.prog) Zd3 (hst.at 0 rfl)
    exact Zhe rfl hst hb hu0 (Zf (s:=3)) (Zfi hq0 (hst.at 1 rfl))
   ·replace H0:=Zq hc3 H0
    refine wp_skip ?_
    refine Zbj ?_
    refine Zm ?_
    refine r_s (L:=[(2,_)]) (T:=[⟨[],_,[],[],[42]⟩,⟨[.p 0 0,.o 0],_,[3],[0],[2]⟩,⟨[],_,[],[0,1],[3]⟩]) (F:=[.p 1 0,.p 2 0]) (hst.pick [1] rfl) hb Zb
     (o_p rfl (Zve rfl rfl )<|o_p rfl (Zbe Zd3 rfl rfl u_1 u_0)<|Qa rfl c_b<|o_n) (fun a g hst hb=>?_)
    refine wp_ret ?_
    obtain rfl:=Option.some.inj H0
    obtain ⟨u0,hu0,hq0⟩:=Zbn (P:=Tryd.prog) Zd3 (hst.at 0 rfl)
    exact Zhe rfl hst hb hu0 (Zf (s:=3)) (Zfi hq0 (hst.at 1 rfl))
theorem Zok (a0:Int) (a1:Int) (a2:Int) {r:Int} (h:Zjn a0 a1 a2=some r):FnOk Tryd.prog 54 [(pInt .u64 a0),(pInt .i64 a1),(pInt .i64 a2)] (pInt .u64 r):=by
 have H0:=h
 unfold Zjn at H0
 clear h
 refine Zbw (N:=22) Tryd.func54 rfl rfl (Qe rfl) rfl rfl (fun a g0 hst hb=>?_)
 refine r_s (T:=[⟨[],_,[],[],[6]⟩]) (F:=[.o 0,.o 1,.o 2]) hst hb Zb
  (Qa rfl c_i<|o_n) (fun a g hst hb=>?_)
 obtain ⟨h1,H0⟩:=Zje H0
 refine r_s (T:=[⟨[.o 0],_,[],[],[8]⟩,⟨[.o 2],_,[],[],[9]⟩,⟨[.p 1 0],_,[],[1],[10]⟩,⟨[.p 0 0,.p 2 0],_,[],[0,1,2],[11]⟩,⟨[.p 3 0],_,[],Lr 4,[7]⟩]) (F:=[.o 0,.o 1,.o 2,.p 4 0]) hst hb Zb
  (Qm rfl u_0<|Qm rfl u_0<|o_p rfl (Zgf Tryd.underlying3 Tryd.underlying62 rfl rfl u_0 rfl)<|o_p rfl (Z5v rfl rfl u_0 u_1 h1)<|Qa rfl u_0<|o_n) (fun a g hst hb=>?_)
 refine wp_seq ?_
 obtain ⟨h2,H0⟩:=Zje H0
 refine r_s (T:=[⟨[.o 1],_,[],[],[12]⟩,⟨[.p 0 0],_,[],[0],[13]⟩,⟨[.o 0],_,[],[],[14]⟩,⟨[.o 2],_,[],[],[15]⟩,⟨[.p 3 0],_,[],[3],[16]⟩,⟨[.p 2 0,.p 4 0],_,[],[2,3,4],[17]⟩,⟨[.p 1 0,.p 5 0],_,[],Lr 6,[18]⟩]) (F:=[.o 3,.p 6 0]) hst hb Zb
  (Qm rfl u_0<|o_p rfl (Zgf Tryd.underlying3 Tryd.underlying62 rfl rfl u_0 rfl)<|Qm rfl u_0<|Qm rfl u_0<|o_p rfl (Zgf Tryd.underlying3 Tryd.underlying62 rfl rfl u_0 rfl)<|o_p rfl (Zzc rfl rfl u_0 u_1 h2)<|o_p rfl (Zb8 rfl rfl u_0 u_1)<|o_n) (fun a g hst hb=>?_)
 refine Zce (fun a w=>∃ (j4:Int) (g:G),w=g.w ∧ St 22 [(7,(pInt .u64 j4))] a g ∧ Base g0 g ∧ Ziq j4=some r) ?_ ?_
 ·rintro a w ⟨j4,g,rfl,hst,hb,H0⟩
  unfold Ziq at H0
  refine Zm ?_
  refine r_s (T:=[⟨[.o 0],_,[],[],[21]⟩,⟨[.p 0 0],_,[],[0],[6]⟩]) (F:=[.p 1 0]) hst hb Zb
   (Qm rfl u_0<|Qa rfl u_0<|o_n) (fun a g hst hb=>?_)
  refine wp_ret ?_
  obtain rfl:=Option.some.inj H0
  exact Zx rfl hst hb (Zf (s:=6)) (hst.at 0 rfl)
 ·refine wp_cond_split (hst.bool 1 rfl) (fun hc3=>?_) (fun hc3=>?_)
  ·replace H0:=Zp hc3 H0
   refine r_g (L:=[(7,_)]) (T:=[⟨[.o 0],_,[],[],[19]⟩,⟨[.p 0 0],_,[],[0],[20]⟩,⟨[.p 1 0],_,[],[0,1],[7]⟩]) (F:=[.p 2 0]) (hst.pick [0] rfl) hb Zb
    (Qm rfl u_0<|o_p rfl (Zcs rfl rfl u_0 c_i rfl)<|Qa rfl u_0<|o_n) (fun a g hst hb=>?_)
   exact ⟨(IntKind.u64.wrap ((IntKind.u64.wrap (Int.tdiv a0 (IntKind.u64.wrap a2))) + (1:Int))),g,rfl,(hst.pick [0] rfl),hb,H0⟩
  ·replace H0:=Zq hc3 H0
   refine wp_skip ?_
   exact ⟨(IntKind.u64.wrap (Int.tdiv a0 (IntKind.u64.wrap a2))),g,rfl,(hst.pick [0] rfl),hb,H0⟩
theorem Zot (a0:Za) (a1:Int) {r:(Option Zu) × Int} (h:Zi0 a0 a1=some r):Zvz Tryd.prog 24 [(Zc.pd a0),(pInt .i64 a1)] Zcq r.1 (pInt .i64 r.2):=by
 have H0:=h
 unfold Zi0 at H0
 clear h
 refine Z0b (N:=66) Tryd.func24 rfl rfl (Qe rfl) rfl (fun a g0 h0 hst hb=>?_)
 refine r_s (T:=[⟨[.o 0],_,[],[],[2]⟩,⟨[],[(4,(pEq (.pointer none)))],[],[],[4]⟩,⟨[],_,[],[1],[5]⟩]) (F:=[.o 1,.p 0 0]) hst hb Zb
  (Qb rfl u_0<|o_p rfl (Zdy rfl rfl (Opd.c (fun g=>Zrx g)))<|Qa rfl c_i<|o_n) (fun a g hst hb=>?_)
 refine wp_seq ?_
 refine r_s (T:=[⟨[.o 0],_,[],[],[13]⟩,⟨[.p 0 0],_,[],[0],[14]⟩,⟨[.p 1 0],_,[],[0,1],[15]⟩,⟨[.p 2 0,.o 0],_,[],[0,1,2],[16]⟩,⟨[.p 2 0,.p 3 0],_,[],Lr 4,[17]⟩,⟨[.p 2 0,.p 4 0],_,[],Lr 5,[18]⟩]) (F:=[.o 0,.o 1,.p 5 0]) hst hb Zb
  (Qm rfl u_0<|o_p rfl (Zb8 rfl rfl u_0 c_i)<|Qm rfl u_0<|o_g (Qg_f rfl (fun hG=>Z0 rfl rfl u_0))<|o_g (Qg_f rfl (fun hG=>Zcf rfl rfl (Opd.gd hG u_0) c_i))<|o_p rfl (Zbk rfl rfl u_0 (fun hz=>(Opd.gd (bNF hz) u_1)))<|o_n) (fun a g hst hb=>?_)
 refine wp_cond_split (hst.bool 2 rfl) (fun hc1=>?_) (fun hc1=>?_)
 ·replace H0:=Zp hc1 H0
  refine r_s (L:=[]) (T:=[⟨[],[(4,(pEq (.pointer none)))],[],[],[4]⟩,⟨[],_,[],[0],[5]⟩]) (F:=[.p 0 0,.p 1 0]) (hst.pick [] rfl) hb Zb
   (o_p rfl (Zdy rfl rfl (Opd.c (fun g=>Zrx g)))<|Qa rfl c_i<|o_n) (fun a g hst hb=>?_)
  refine wp_ret ?_
  refine Zj ?_
  obtain rfl:=Option.some.inj H0
  exact Zt9 rfl hst hb (Zf (s:=4)) (Zf (s:=5)) (hst.at 1 rfl) (hst.at 0 rfl)
 ·replace H0:=Zq hc1 H0
  refine wp_skip ?_
  refine Zm ?_
  refine wp_seq ?_
  obtain ⟨r2,h3,H0⟩:=Ze H0
  refine r_s (L:=[(1,_),(2,_)]) (T:=[⟨[.o 1],_,[],[],[19]⟩,⟨[.p 0 0],_,[],[0],[20]⟩,⟨[.p 1 0],_,[],[0,1],[6]⟩]) (F:=[.o 0,.o 1,.p 2 0]) (hst.pick [0,1] rfl) hb Zb
   (Ql rfl Z8 u_0<|o_p rfl (Zr Zre (Zjb _ h3) rfl rfl (.cons u_0 .nil))<|Qa rfl u_0<|o_n) (fun a g hst hb=>?_)
  refine r_s (T:=[⟨[.o 2],_,[],[],[21]⟩,⟨[.p 0 0],_,[],[0],[22]⟩]) (F:=[.o 0,.o 1,.o 2,.p 1 0]) hst hb Zb
   (Qm rfl u_0<|o_p rfl (Zdu rfl rfl u_0 c_i)<|o_n) (fun a g hst hb=>?_)
  refine wp_cond_split (hst.bool 3 rfl) (fun hc4=>?_) (fun hc4=>?_)
  ·replace H0:=Zp hc4 H0
   refine r_s (L:=[(6,_)]) (T:=[⟨[.o 0],_,[],[],[23]⟩,⟨[],[(4,(pEq (.pointer none)))],[],[],[4]⟩,⟨[.p 0 0],_,[],[0,1],[5]⟩]) (F:=[.p 1 0,.p 2 0]) (hst.pick [2] rfl) hb Zb
    (Qm rfl u_0<|o_p rfl (Zdy rfl rfl (Opd.c (fun g=>Zrx g)))<|Qa rfl u_0<|o_n) (fun a g hst hb=>?_)
   refine wp_ret ?_
   refine Zj ?_
   obtain rfl:=Option.some.inj H0
   exact Zt9 rfl hst hb (Zf (s:=4)) (Zf (s:=5)) (hst.at 1 rfl) (hst.at 0 rfl)
  ·replace H0:=Zq hc4 H0
   refine wp_skip ?_
   refine Zm ?_
   refine wp_seq ?_
   obtain ⟨r5,h6,H0⟩:=Ze H0
   refine r_s (L:=[(1,_),(2,_)]) (T:=[⟨[.o 1],_,[],[],[25]⟩,⟨[.p 0 0],_,[],[0],[26]⟩,⟨[.p 1 0],_,[],[0,1],[24]⟩,⟨[.p 2 0],_,[],[0,1,2],[27]⟩,⟨[.p 2 0],_,[],[0,1,2],[28]⟩,⟨[],[(7,(pBox Zc 7 (default:Za)))],[8],[],[7]⟩,⟨[.p 3 0,.p 5 0],_,[8],[0,1,2,3,5],[7]⟩,⟨[.p 4 0],_,[],Lr 7,[8]⟩]) (F:=[.o 0,.o 1,.p 7 0]) (hst.pick [0,1] rfl) hb Zb
    (Ql rfl Z8 u_0<|o_p rfl (Zr Zxs (Zkt _ h6) rfl rfl (.cons u_0 .nil))<|Qm rfl u_0<|o_p rfl (Zbg rfl rfl u_0 rfl)<|o_p rfl (Zbg rfl rfl u_0 rfl)<|o_p rfl (Zbt (zs:=[.int .i64 0,.int .i64 0,.int .i64 0,.int .i64 0,.float .f64 0,.int .i64 0,.string ByteArray.empty,.slice none 0 0]) (by kernel_rfl) (fun g=>Zb2 g) rfl rfl)<|o_p rfl (Zcg Z8 rfl rfl u_1 u_0)<|Qa rfl u_0<|o_n) (fun a g hst hb=>?_)
   refine r_s (T:=[⟨[.o 2],_,[],[],[29]⟩,⟨[.p 0 0],_,[],[0],[30]⟩]) (F:=[.o 0,.o 1,.p 1 0]) hst hb Zb
    (Qm rfl u_0<|Qn rfl u_0<|o_n) (fun a g hst hb=>?_)
   refine wp_cond_split (hst.bool 2 rfl) (fun hc7=>?_) (fun hc7=>?_)
   ·replace H0:=Zp hc7 H0
    refine r_s (L:=[]) (T:=[⟨[],[(4,(pEq (.pointer none)))],[],[],[4]⟩,⟨[],_,[],[0],[5]⟩]) (F:=[.p 0 0,.p 1 0]) (hst.pick [] rfl) hb Zb
     (o_p rfl (Zdy rfl rfl (Opd.c (fun g=>Zrx g)))<|Qa rfl c_i<|o_n) (fun a g hst hb=>?_)
    refine wp_ret ?_
    refine Zj ?_
    obtain rfl:=Option.some.inj H0
    exact Zt9 rfl hst hb (Zf (s:=4)) (Zf (s:=5)) (hst.at 1 rfl) (hst.at 0 rfl)
   ·replace H0:=Zq hc7 H0
    refine wp_skip ?_
    refine Zm ?_
    obtain ⟨r8,h9,H0⟩:=Ze H0
    refine r_s (L:=[(1,_),(2,_)]) (T:=[⟨[.o 1],_,[],[],[31]⟩,⟨[.p 0 0],_,[],[0],[32]⟩,⟨[.p 1 0],_,[],[0,1],[33]⟩,⟨[.p 2 0],[(34,(Zho none Zbo Zbq hpT 34 ({ r:=r8,by_:=([]:List Zs) }:Zu))),(1002,(pBT Zbo Zbq Zb4 Z5 96 34 534 ({ r:=r8,by_:=([]:List Zs) }:Zu)))],[35],[0,1,2],[34,1002]⟩,⟨[.p 3 0],_,[],Lr 4,[9]⟩]) (F:=[.o 0,.o 1,.p 4 0,.p 3 1]) (hst.pick [0,1] rfl) hb Zb
     (Ql rfl Z8 u_0<|o_p rfl (Zr Znx (Zgu _ h9) rfl rfl (.cons u_0 .nil))<|o_p rfl (Z31 rfl rfl u_0)<|o_p rfl (Z46 rfl rfl rfl u_0)<|Qa rfl u_0<|o_n) (fun a g hst hb=>?_)
    obtain ⟨r10,h11,H0⟩:=Ze H0
    refine r_s (T:=[⟨[.o 1],_,[],[],[36]⟩,⟨[.p 0 0],_,[],[0],[37]⟩,⟨[.p 1 0],_,[],[0,1],[35]⟩,⟨[.p 2 0],_,[],[0,1,2],[38]⟩,⟨[.p 2 0],_,[],[0,1,2],[39]⟩,⟨[],[(10,(pBox Z5 10 (default:Zs)))],[11],[],[10]⟩,⟨[.p 3 0,.p 5 0],_,[11],[0,1,2,3,5],[10]⟩,⟨[.p 4 0],_,[],Lr 7,[11]⟩]) (F:=[.o 0,.o 2,.p 6 0,.o 3]) hst hb Zb
     (Ql rfl Z8 u_0<|o_p rfl (Zr Z7x (Ztn _ h11) rfl rfl (.cons u_0 .nil))<|Qm rfl u_0<|o_p rfl (Zbg rfl rfl u_0 rfl)<|o_p rfl (Zbg rfl rfl u_0 rfl)<|o_p rfl (Zbt (zs:=[.int .u64 0,.int .u64 0]) (by kernel_rfl) (fun g=>Zin g) rfl rfl)<|o_p rfl (Zcg Zd3 rfl rfl u_1 u_0)<|Qa rfl u_0<|o_n) (fun a g hst hb=>?_)
    refine wp_seq ?_
    refine r_s (T:=[⟨[.o 0],_,[],[],[40]⟩,⟨[],_,[],[],[41]⟩]) (F:=[.o 0,.o 1,.o 2,.p 0 0,.p 1 0,.o 3]) hst hb Zb
     (Qm rfl u_0<|Qm rfl c_i<|o_n) (fun a g hst hb=>?_)
    obtain ⟨z21,hz1,H0⟩:=Ze H0
    refine Zce (fun a w=>∃ (y20:Zu) (g:G),w=g.w ∧ St 66 [(9,(Zho none Zbo Zbq hpT 34 y20)),(1002,(pBT Zbo Zbq Zb4 Z5 96 34 534 y20))] a g ∧ Base g0 g ∧ y20=z21) ?_ ?_
    ·rintro a w ⟨y20,g,rfl,hst,hb,rfl⟩
     refine Zm ?_
     refine r_s (T:=[⟨[.o 0],_,[],[],[65]⟩,⟨[.p 0 0],_,[],[0],[4]⟩,⟨[],_,[],[0,1],[5]⟩]) (F:=[.p 1 0,.p 2 0,.o 1]) hst hb Zb
      (Qm rfl u_0<|Qa rfl u_0<|Qa rfl c_i<|o_n) (fun a g hst hb=>?_)
     refine wp_ret ?_
     obtain rfl:=Option.some.inj H0
     exact Zt9 rfl hst hb (Zf (s:=4)) (Zf (s:=5)) (hst.at 1 rfl) ⟨34,534,by decide,Zw7 (hst.at 0 rfl) (hst.at 2 rfl)⟩
    ·refine wp_block ?_
     refine wp_loop_ghost (fun n a w=>∃ (x12:Zu) (x13:Int) (g:G),w=g.w ∧ St 66 [(1,(pInt .i64 a1)),(9,(Zho none Zbo Zbq hpT 34 x12)),(10,(Z5.ptr r10.1)),(40,(pInt .i64 a1)),(41,(pInt .i64 x13)),(1002,(pBT Zbo Zbq Zb4 Z5 96 34 534 x12))] a g ∧ Base g0 g ∧ Zf0 a1 r10 n x12 x13=some z21) (Int.toNat (a1 - (0:Int)) + 1) ⟨({ r:=r8,by_:=([]:List Zs) }:Zu),(0:Int),g,rfl,(hst.pick [0,1,2,3,4,5] rfl),hb,hz1⟩ (fun n a w hI=>?_)
     obtain ⟨x12,x13,g,rfl,hst,hb,H1⟩:=hI
     cases n with
     | zero=>exact absurd H1 (by simp [Zf0])
     | succ n =>
      rw [Zf0] at H1
      refine r_s (T:=[⟨[.o 4,.o 3],_,[],[],[42]⟩]) (F:=[.o 0,.o 1,.o 2,.o 3,.o 4,.p 0 0,.o 5]) hst hb Zb
       (o_p rfl (Zb8 rfl rfl u_0 u_1)<|o_n) (fun a g hst hb=>?_)
      refine wp_seq ?_
      refine wp_cond_split (hst.bool 5 rfl) (fun hc14=>?_) (fun hc14=>?_)
      ·replace H1:=Zp hc14 H1
       refine wp_skip ?_
       refine Zm ?_
       refine wp_seq ?_
       refine wp_block ?_
       refine r_s (L:=[(1,_),(9,_),(10,_),(40,_),(41,_),(1002,_)]) (T:=[⟨[.o 4],_,[],[],[43]⟩,⟨[.p 0 0],_,[],[0],[12]⟩]) (F:=[.o 0,.o 1,.o 2,.p 1 0,.o 3,.o 4,.o 5]) (hst.pick [0,1,2,3,4,6] rfl) hb Zb
        (Qm rfl u_0<|Qa rfl u_0<|o_n) (fun a g hst hb=>?_)
       obtain ⟨r15,h16,H1⟩:=Ze H1;obtain ⟨r17,h18,H1⟩:=Ze H1;obtain ⟨h19,H1⟩:=Zje H1
       refine r_g (T:=⟨[.o 1],_,[],[],[44]⟩ :: ⟨[.o 1],_,[],[],[45]⟩ :: ⟨[.p 1 0],_,[],[1],[46]⟩ :: ⟨[.p 2 0,.o 6],_,[],[1,2],[47]⟩ :: ⟨[.p 3 0],_,[],[1,2,3],[48]⟩ :: ⟨[.o 2],_,[],[],[49]⟩ :: ⟨[.p 5 0],_,[],[5],[50]⟩ :: ⟨[.o 3],_,[],[],[51]⟩ :: ⟨[.o 0],_,[],[],[52]⟩ :: ⟨[.p 6 0,.p 7 0,.p 8 0],_,[],List.range' 5 4,[53]⟩ :: ⟨[.o 2],_,[],[],[54]⟩ :: ⟨[.p 10 0],_,[],[10],[55]⟩ :: ⟨[.o 3],_,[],[],[56]⟩ :: ⟨[.o 0],_,[],[],[57]⟩ :: ⟨[.p 11 0,.p 12 0,.p 13 0],_,[],List.range' 5 9,[58]⟩ :: ⟨[.p 9 0,.p 14 0],_,[],List.range' 5 10,[59]⟩ :: ⟨[.p 15 0],_,[],List.range' 5 11,[60]⟩ :: ⟨[.p 4 0,.p 16 0],_,[535],List.range' 1 16,[47,48,61,1002]⟩ :: ⟨[.p 0 0],_,[],Lr 18,[62]⟩ :: ⟨[.p 18 0],_,[],Lr 19,[63]⟩ :: ⟨[.p 17 0,.p 19 0,.o 1],[(9,(Zho none Zbo Zbq hpT 34 ({ x12 with by_:=(x12.by_ ++ ([({ up:=r15,down:=r17 }:Zs)]:List Zs)) }:Zu))),(1002,(pBT Zbo Zbq Zb4 Z5 96 34 534 ({ x12 with by_:=(x12.by_ ++ ([({ up:=r15,down:=r17 }:Zs)]:List Zs)) }:Zu)))],[35],Lr 20,[9,44,45,46,47,62,63,1002]⟩ :: []) (F:=[.o 0,.p 20 0,.o 2,.o 4,.o 5,.p 20 1]) hst hb Zb
        (Qm rfl u_0<|Qm rfl u_0<|o_p rfl (Z9 rfl rfl u_0 (fun _ _ ⟨_,⟨_,_,_,e,_⟩,_⟩=>⟨_,e⟩))<|o_p rfl (Zla Zl0 (off:=8) (q:=(pArr Z5 96 534 (Zb4 x12))) (by kernel_rfl) (pr:=id) (fun _=>rfl) (fun _ _ h=>h) rfl rfl (Opd.joinT u_0 u_1))<|o_p rfl (Znv Zpd rfl rfl u_0)<|Qf rfl Zjo u_0<|Ql rfl Zhy u_0<|Qm rfl u_0<|Qm rfl u_0<|o_p rfl (Zr Z22 (Zok _ _ _ h16) rfl rfl (.cons u_0 (.cons u_1 (.cons u_2 .nil))))<|Qf rfl Zky u_0<|Ql rfl Zhy u_0<|Qm rfl u_0<|Qm rfl u_0<|o_p rfl (Zr Z22 (Zok _ _ _ h18) rfl rfl (.cons u_0 (.cons u_1 (.cons u_2 .nil))))<|o_p rfl (Zpf rfl rfl u_0 u_1)<|o_p rfl (Zi5 Z2y (xs:=[.tmp 59]) (.cons u_0 .nil) (by decide) rfl rfl)<|o_p rfl (Zx1 Z2y rfl rfl u_0 u_1 (by simp) h19)<|o_p rfl (Z9 rfl rfl u_0 (fun _ _ ⟨_,⟨_,_,_,e,_⟩,_⟩=>⟨_,e⟩))<|o_p rfl (Zla Zl0 (off:=8) (q:=pAny) (by kernel_rfl) (pr:=id) (fun _=>rfl) (fun _ _ _=>trivial) rfl rfl u_0)<|o_p rfl (OB.bxT (Zzr (x':=({ x12 with by_:=(x12.by_ ++ ([({ up:=r15,down:=r17 }:Zs)]:List Zs)) }:Zu)) (R2:=hpL (pArr Z5 96 534 (Zb4 ({ x12 with by_:=(x12.by_ ++ ([({ up:=r15,down:=r17 }:Zs)]:List Zs)) }:Zu)))) (upd:=fun _ s2=>s2) Zpd rfl rfl (fun _ _ h=>Z4k h) (fun k hk=>by rw [List.mem_singleton.1 hk];decide) (fun k hk=>by cases hk) u_2 (fun a g hh=>Z4o (u_1 a g hh)) u_0 (fun _ _ _ _ h=>h) (fun g cs s0 s1 ys h k=>Zp2 h k)))<|o_n) (fun a g hst hb=>?_)
       refine Zbj ?_
       refine Zm ?_
       refine r_g (T:=[⟨[.o 4],_,[],[],[64]⟩,⟨[.p 0 0],_,[],[0],[41]⟩]) (F:=[.o 0,.o 1,.o 2,.o 3,.p 1 0,.o 5]) hst hb Zb
        (o_p rfl (Zcs rfl rfl u_0 c_i rfl)<|Qm rfl u_0<|o_n) (fun a g hst hb=>?_)
       exact ⟨n,Nat.lt_succ_self _,({ x12 with by_:=(x12.by_ ++ ([({ up:=r15,down:=r17 }:Zs)]:List Zs)) }:Zu),(IntKind.i64.wrap (x13 + (1:Int))),g,rfl,(hst.pick [0,1,2,3,4,5] rfl),hb,H1⟩
      ·replace H1:=Zq hc14 H1
       refine wp_exit ?_
       refine Zca ?_
       refine Zca ?_
       refine Zc5 ?_
       exact ⟨x12,g,rfl,(hst.pick [1,6] rfl),hb,Option.some.inj H1⟩
theorem Znf (a0:Zu) (a1:Int) {r:Int × Int} (h:Ze8 a0 a1=some r):FnOk Tryd.prog 27 [(Zfn.ptr a0),(pInt .i64 a1)] (pTup [(pInt .u64 r.1),(pInt .u64 r.2)]):=by
 have H0:=h
 unfold Ze8 at H0
 clear h
 refine Zbw (N:=33) Tryd.func27 rfl rfl (Qe rfl) rfl rfl (fun a g0 hst hb=>?_)
 refine r_s (T:=[⟨[],_,[],[],[4]⟩,⟨[],_,[],[0],[5]⟩]) (F:=[.o 0,.o 1]) hst hb Zb
  (Qa rfl c_i<|Qa rfl c_i<|o_n) (fun a g hst hb=>?_)
 refine wp_seq ?_
 refine r_s (T:=[⟨[.o 1],_,[],[],[6]⟩,⟨[.p 0 0],_,[],[0],[7]⟩,⟨[.p 1 0],_,[],[0,1],[8]⟩,⟨[.p 2 0,.o 1],_,[],[0,1,2],[9]⟩,⟨[.p 2 0,.o 0],_,[],[0,1,2],[10]⟩,⟨[.p 2 0,.p 4 0],_,[],[0,1,2,4],[11]⟩,⟨[.p 2 0,.p 5 0],_,[],[0,1,2,4,5],[12]⟩,⟨[.p 2 0,.p 6 0],_,[],[0,1,2,4,5,6],[13]⟩,⟨[.p 2 0,.p 7 0],_,[],[0,1,2,4,5,6,7],[14]⟩,⟨[.p 2 0,.p 3 0,.p 8 0],_,[],Lr 9,[15]⟩,⟨[.p 2 0,.p 9 0],_,[],Lr 10,[16]⟩]) (F:=[.o 0,.o 1,.p 10 0]) hst hb Zb
  (Qm rfl u_0<|o_p rfl (Zb8 rfl rfl u_0 c_i)<|Qm rfl u_0<|o_g (Qg_f rfl (fun hG=>Z0 rfl rfl u_0))<|o_g (Qg_f rfl (fun hG=>Z0 rfl rfl u_0))<|o_g (Qg_f rfl (fun hG=>Z9 rfl rfl (Opd.gd hG u_0) (fun _ _ ⟨_,_,_,e,_⟩=>⟨_,e⟩)))<|o_g (Qg_f rfl (fun hG=>Zh Zsj rfl rfl (Opd.gd hG u_0)))<|o_g (Qg_f rfl (fun hG=>Zn Zyf rfl rfl (Opd.gd hG u_0)))<|o_g (Qg_f rfl (fun hG=>Zcc Tryd.underlying92 rfl rfl (Opd.gd hG u_0)))<|o_g (Qg_f rfl (fun hG=>Znq rfl rfl (Opd.gd hG u_0) (Opd.gd hG u_1)))<|o_p rfl (Zbk rfl rfl u_0 (fun hz=>(Opd.gd (bNF hz) u_1)))<|o_n) (fun a g hst hb=>?_)
 refine wp_cond_split (hst.bool 2 rfl) (fun hc1=>?_) (fun hc1=>?_)
 ·replace H0:=Zp hc1 H0
  refine r_s (L:=[]) (T:=[⟨[],_,[],[],[4]⟩,⟨[],_,[],[0],[5]⟩]) (F:=[.p 0 0,.p 1 0]) (hst.pick [] rfl) hb Zb
   (Qa rfl c_i<|Qa rfl c_i<|o_n) (fun a g hst hb=>?_)
  refine wp_ret ?_
  refine Zj ?_
  obtain rfl:=Option.some.inj H0
  exact Zhe rfl hst hb (Zf (s:=4)) (Zf (s:=5)) (Zfi (hst.at 0 rfl) (hst.at 1 rfl))
 ·replace H0:=Zq hc1 H0
  refine wp_skip ?_
  refine Zm ?_
  obtain ⟨e2,h3,H0⟩:=Ze H0;obtain ⟨e4,h5,H0⟩:=Ze H0
  refine r_s (L:=[(0,_),(1,_)]) (T:=⟨[.o 0],_,[],[],[17]⟩ :: ⟨[.p 0 0],_,[],[0],[18]⟩ :: ⟨[.p 1 0],_,[],[0,1],[19]⟩ :: ⟨[.p 2 0],_,[],[0,1,2],[20]⟩ :: ⟨[.o 1],_,[],[],[21]⟩ :: ⟨[.p 3 0,.p 4 0],_,[],Lr 5,[22]⟩ :: ⟨[.p 5 0],_,[],Lr 6,[23]⟩ :: ⟨[.p 6 0],_,[],Lr 7,[24]⟩ :: ⟨[.o 0],_,[],[],[25]⟩ :: ⟨[.p 8 0],_,[],[8],[26]⟩ :: ⟨[.p 9 0],_,[],[8,9],[27]⟩ :: ⟨[.p 10 0],_,[],[8,9,10],[28]⟩ :: ⟨[.o 1],_,[],[],[29]⟩ :: ⟨[.p 11 0,.p 12 0],_,[],List.range' 8 5,[30]⟩ :: ⟨[.p 13 0],_,[],List.range' 8 6,[31]⟩ :: ⟨[.p 14 0],_,[],List.range' 8 7,[32]⟩ :: ⟨[.p 7 0],_,[],Lr 8,[4]⟩ :: ⟨[.p 15 0],_,[],Lr 17,[5]⟩ :: []) (F:=[.p 16 0,.p 17 0]) (hst.pick [0,1] rfl) hb Zb
   (Qm rfl u_0<|o_p rfl (Z9 rfl rfl u_0 (fun _ _ ⟨_,_,_,e,_⟩=>⟨_,e⟩))<|Qf rfl Zsj u_0<|Ql rfl Zyf u_0<|Qm rfl u_0<|o_p rfl (Zbp Tryd.underlying92 Zt4 rfl rfl u_0 u_1 h3)<|Qf rfl Zjo u_0<|Ql rfl Zhy u_0<|Qm rfl u_0<|o_p rfl (Z9 rfl rfl u_0 (fun _ _ ⟨_,_,_,e,_⟩=>⟨_,e⟩))<|Qf rfl Zsj u_0<|Ql rfl Zyf u_0<|Qm rfl u_0<|o_p rfl (Zbp Tryd.underlying92 Zt4 rfl rfl u_0 u_1 h5)<|Qf rfl Zky u_0<|Ql rfl Zhy u_0<|Qa rfl u_0<|Qa rfl u_0<|o_n) (fun a g hst hb=>?_)
  refine wp_ret ?_
  obtain rfl:=Option.some.inj H0
  exact Zhe rfl hst hb (Zf (s:=4)) (Zf (s:=5)) (Zfi (hst.at 0 rfl) (hst.at 1 rfl))
theorem Zn8 (a0:Zu) (a1:Int) {r:Int × Int} (h:Ze8 a0 a1=some r):FnL Tryd.prog 27 [(Zfn.ptr a0),(pInt .i64 a1)] (pTup [(pInt .u64 r.1),(pInt .u64 r.2)]):=FnL.of (Znf a0 a1 h) Zzd
theorem Zkm (a0:Zu) (a1:Int) {r:Int × Int} (h:Ze8 a0 a1=some r):FnM Tryd.prog 27 Zcq a0 a0 [(pInt .i64 a1)] (pTup [(pInt .u64 r.1),(pInt .u64 r.2)]):=Z1w Zmi (Zn8 a0 a1 h) rfl
theorem Zm0 (a0:Zu) (a1:Zg) {r:Zs} (h:Zfa a0 a1=some r):FnOk Tryd.prog 59 [(Zfn.ptr a0),(Z1.pd a1)] (Z5.pd r):=by
 have H0:=h
 unfold Zfa at H0
 clear h
 refine Zbw (N:=56) Tryd.func59 rfl rfl (Qe rfl) rfl rfl (fun a g0 hst hb=>?_)
 refine r_s (T:=[⟨[.o 1],_,[],[],[3]⟩,⟨[],[(4,(pBox Z5 4 (default:Zs)))],[5],[],[4]⟩]) (F:=[.o 0,.p 0 0,.p 1 0]) hst hb Zb
  (Qb rfl u_0<|o_p rfl (Zbt (zs:=[.int .u64 0,.int .u64 0]) (by kernel_rfl) (fun g=>Zin g) rfl rfl)<|o_n) (fun a g hst hb=>?_)
 refine wp_seq ?_
 refine r_s (T:=[⟨[.o 1],_,[],[],[7]⟩,⟨[.p 0 0],_,[],[0],[8]⟩]) (F:=[.o 0,.o 1,.o 2,.p 1 0]) hst hb Zb
  (Qf rfl Zcp u_0<|Ql rfl ty_3 u_0<|o_n) (fun a g hst hb=>?_)
 refine wp_block ?_
 refine r_s (T:=[⟨[.o 3],_,[],[],[10]⟩,⟨[.p 0 0],_,[],[0],[9]⟩]) (F:=[.o 0,.o 1,.o 2,.o 3,.p 1 0]) hst hb Zb
  (o_p rfl (Zbc rfl rfl u_0 c_i)<|Qa rfl u_0<|o_n) (fun a g hst hb=>?_)
 refine wp_cond_split (hst.bool 4 rfl) (fun hc1=>?_) (fun hc1=>?_)
 ·replace H0:=Zp hc1 H0
  refine wp_seq ?_
  refine r_s (L:=[(3,_),(4,_)]) (T:=[⟨[.o 0],_,[],[],[11]⟩,⟨[.p 0 0],_,[],[0],[12]⟩,⟨[.p 1 0],_,[],[0,1],[13]⟩]) (F:=[.o 0,.o 1,.p 2 0]) (hst.pick [1,2] rfl) hb Zb
   (Qf rfl Zdf u_0<|Ql rfl ty_2 u_0<|o_p rfl (Zb8 rfl rfl u_0 c_i)<|o_n) (fun a g hst hb=>?_)
  refine wp_cond_split (hst.bool 2 rfl) (fun hc2=>?_) (fun hc2=>?_)
  ·replace H0:=Zp hc2 H0
   refine r_s (L:=[(3,_),(4,_)]) (T:=[⟨[.o 0],_,[],[],[14]⟩,⟨[.p 0 0],_,[],[0],[15]⟩,⟨[.p 1 0],_,[],[0,1],[16]⟩,⟨[.p 2 0],_,[],[0,1,2],[17]⟩,⟨[.p 3 0],_,[],Lr 4,[18]⟩,⟨[.p 4 0,.o 1],_,[5],Lr 5,[4]⟩]) (F:=[.p 5 0]) (hst.pick [0,1] rfl) hb Zb
    (Qf rfl Zdf u_0<|Ql rfl ty_2 u_0<|o_p rfl (Zgf Tryd.underlying2 Tryd.underlying62 rfl rfl u_0 rfl)<|o_p rfl (Zu6 rfl rfl u_0 rfl)<|o_p rfl (Zxg rfl rfl u_0)<|o_p rfl (Zbe Zd3 rfl rfl u_1 u_0)<|o_n) (fun a g hst hb=>?_)
   refine wp_ret ?_
   refine Zj ?_
   refine Zw ?_
   refine Zj ?_
   obtain rfl:=Option.some.inj H0
   obtain ⟨u0,hu0,hq0⟩:=Zbn (P:=Tryd.prog) Zd3 (hst.at 0 rfl)
   exact Zx rfl hst hb hu0 hq0
  ·replace H0:=Zq hc2 H0
   refine wp_skip ?_
   refine Zm ?_
   refine r_s (L:=[(3,_),(4,_)]) (T:=[⟨[.o 0],_,[],[],[19]⟩,⟨[.p 0 0],_,[],[0],[20]⟩,⟨[.p 1 0],_,[],[0,1],[21]⟩,⟨[.p 2 0],_,[],[0,1,2],[22]⟩,⟨[.p 3 0,.o 1],_,[5],Lr 4,[4]⟩]) (F:=[.p 4 0]) (hst.pick [0,1] rfl) hb Zb
    (Qf rfl Zdf u_0<|Ql rfl ty_2 u_0<|o_p rfl (Zgf Tryd.underlying2 Tryd.underlying62 rfl rfl u_0 rfl)<|o_p rfl (Zpp rfl rfl u_0)<|o_p rfl (Zbe Zd3 rfl rfl u_1 u_0)<|o_n) (fun a g hst hb=>?_)
   refine wp_ret ?_
   refine Zw ?_
   refine Zj ?_
   obtain rfl:=Option.some.inj H0
   obtain ⟨u0,hu0,hq0⟩:=Zbn (P:=Tryd.prog) Zd3 (hst.at 0 rfl)
   exact Zx rfl hst hb hu0 hq0
 ·replace H0:=Zq hc1 H0
  refine r_s (L:=[(0,_),(3,_),(4,_),(8,_)]) (T:=[⟨[.o 3],_,[],[],[24]⟩,⟨[.p 0 0],_,[],[0],[23]⟩]) (F:=[.o 0,.o 1,.o 2,.o 3,.p 1 0]) (hst.pick [0,1,2,3] rfl) hb Zb
   (o_p rfl (Zbc rfl rfl u_0 c_i)<|Qa rfl u_0<|o_n) (fun a g hst hb=>?_)
  refine wp_cond_split (hst.bool 4 rfl) (fun hc3=>?_) (fun hc3=>?_)
  ·replace H0:=Zp hc3 H0
   refine r_s (L:=[(3,_),(4,_)]) (T:=[⟨[.o 0],_,[],[],[25]⟩,⟨[.p 0 0],_,[],[0],[26]⟩,⟨[.p 1 0],_,[],[0,1],[27]⟩,⟨[.p 2 0],_,[],[0,1,2],[28]⟩,⟨[.p 3 0,.o 1],_,[5],Lr 4,[4]⟩]) (F:=[.p 4 0]) (hst.pick [1,2] rfl) hb Zb
    (Qf rfl Zdf u_0<|Ql rfl ty_2 u_0<|o_p rfl (Zgf Tryd.underlying2 Tryd.underlying62 rfl rfl u_0 rfl)<|o_p rfl (Zpp rfl rfl u_0)<|o_p rfl (Zbe Zd3 rfl rfl u_1 u_0)<|o_n) (fun a g hst hb=>?_)
   refine wp_ret ?_
   refine Zw ?_
   refine Zj ?_
   obtain rfl:=Option.some.inj H0
   obtain ⟨u0,hu0,hq0⟩:=Zbn (P:=Tryd.prog) Zd3 (hst.at 0 rfl)
   exact Zx rfl hst hb hu0 hq0
  ·replace H0:=Zq hc3 H0
   refine r_s (L:=[(0,_),(3,_),(4,_),(8,_)]) (T:=[⟨[.o 3],_,[],[],[30]⟩,⟨[.p 0 0],_,[],[0],[29]⟩]) (F:=[.o 0,.o 1,.o 2,.o 3,.p 1 0]) (hst.pick [0,1,2,3] rfl) hb Zb
    (o_p rfl (Zbc rfl rfl u_0 c_i)<|Qa rfl u_0<|o_n) (fun a g hst hb=>?_)
   refine wp_cond_split (hst.bool 4 rfl) (fun hc4=>?_) (fun hc4=>?_)
   ·replace H0:=Zp hc4 H0
    refine r_s (L:=[(3,_),(4,_)]) (T:=[⟨[.o 0],_,[],[],[31]⟩,⟨[.p 0 0],_,[],[0],[32]⟩,⟨[.p 1 0],_,[],[0,1],[33]⟩,⟨[.p 2 0],_,[],[0,1,2],[34]⟩,⟨[.p 3 0,.o 1],_,[5],Lr 4,[4]⟩]) (F:=[.p 4 0]) (hst.pick [1,2] rfl) hb Zb
     (Qf rfl Zdf u_0<|Ql rfl ty_2 u_0<|o_p rfl (Zgf Tryd.underlying2 Tryd.underlying62 rfl rfl u_0 rfl)<|o_p rfl (Zxg rfl rfl u_0)<|o_p rfl (Zbe Zd3 rfl rfl u_1 u_0)<|o_n) (fun a g hst hb=>?_)
    refine wp_ret ?_
    refine Zw ?_
    refine Zj ?_
    obtain rfl:=Option.some.inj H0
    obtain ⟨u0,hu0,hq0⟩:=Zbn (P:=Tryd.prog) Zd3 (hst.at 0 rfl)
    exact Zx rfl hst hb hu0 hq0
   ·replace H0:=Zq hc4 H0
    refine r_s (L:=[(0,_),(3,_),(4,_),(8,_)]) (T:=[⟨[.o 3],_,[],[],[36]⟩,⟨[.p 0 0],_,[],[0],[35]⟩]) (F:=[.o 0,.o 1,.o 2,.p 1 0]) (hst.pick [0,1,2,3] rfl) hb Zb
     (o_p rfl (Zbc rfl rfl u_0 c_i)<|Qa rfl u_0<|o_n) (fun a g hst hb=>?_)
    refine wp_cond_split (hst.bool 3 rfl) (fun hc5=>?_) (fun hc5=>?_)
    ·replace H0:=Zp hc5 H0
     refine wp_seq ?_
     refine r_s (L:=[(0,_),(3,_),(4,_)]) (T:=[⟨[.o 0],_,[],[],[37]⟩,⟨[.p 0 0],_,[],[0],[38]⟩,⟨[.p 1 0],_,[],[0,1],[39]⟩,⟨[.p 2 0],_,[],[0,1,2],[40]⟩,⟨[.p 3 0],_,[],Lr 4,[41]⟩,⟨[.p 4 0],_,[],Lr 5,[42]⟩,⟨[],_,[],[],[43]⟩]) (F:=[.o 1,.o 2,.p 4 0,.p 5 0,.p 6 0]) (hst.pick [0,1,2] rfl) hb Zb
      (Qm rfl u_0<|o_p rfl (Z9 rfl rfl u_0 (fun _ _ ⟨_,_,_,e,_⟩=>⟨_,e⟩))<|Qf rfl Z4n u_0<|Qf rfl Zb5 u_0<|Ql rfl Zc4 u_0<|o_p rfl (Zcc Tryd.underlying23 rfl rfl u_0)<|Qm rfl c_i<|o_n) (fun a g hst hb=>?_)
     obtain ⟨z13,hz1,H0⟩:=Ze H0
     refine Zce (fun a w=>∃ (y12:Zs) (g:G),w=g.w ∧ St 56 [(4,(pBox Z5 4 y12))] a g ∧ Base g0 g ∧ (.inr y12)=z13) ?_ ?_
     ·rintro a w ⟨y12,g,rfl,hst,hb,rfl⟩
      refine Zm ?_
      refine r_s (T:=[⟨[],_,[],[],[54]⟩,⟨[.p 0 0,.o 0],_,[5],[0],[4]⟩]) (F:=[.p 1 0]) hst hb Zb
       (o_p rfl (Zpp rfl rfl c_i)<|o_p rfl (Zbe Zd3 rfl rfl u_1 u_0)<|o_n) (fun a g hst hb=>?_)
      refine wp_ret ?_
      refine Zw ?_
      refine Zj ?_
      obtain rfl:=Option.some.inj H0
      obtain ⟨u0,hu0,hq0⟩:=Zbn (P:=Tryd.prog) Zd3 (hst.at 0 rfl)
      exact Zx rfl hst hb hu0 hq0
     ·refine wp_block ?_
      refine wp_loop_ghost (fun n a w=>∃ (x6:Zs) (x7:Int) (g:G),w=g.w ∧ St 56 [(3,(Z1.ptr a1)),(4,(pBox Z5 4 x6)),(41,(Zo.sl.pd a0.r.List)),(42,(pInt .i64 (a0.r.List.length:Int))),(43,(pInt .i64 x7))] a g ∧ Base g0 g ∧ Zcx a0 a1 n x6 x7=some z13) (Int.toNat ((a0.r.List.length:Int) - (0:Int)) + 1) ⟨(default:Zs),(0:Int),g,rfl,(hst.pick [0,1,2,3,4] rfl),hb,hz1⟩ (fun n a w hI=>?_)
      obtain ⟨x6,x7,g,rfl,hst,hb,H1⟩:=hI
      cases n with
      | zero=>exact absurd H1 (by simp [Zcx])
      | succ n =>
       rw [Zcx] at H1
       refine r_s (T:=[⟨[.o 4,.o 3],_,[],[],[44]⟩]) (F:=[.o 0,.o 1,.o 2,.o 3,.o 4,.p 0 0]) hst hb Zb
        (o_p rfl (Zb8 rfl rfl u_0 u_1)<|o_n) (fun a g hst hb=>?_)
       refine wp_seq ?_
       refine wp_cond_split (hst.bool 5 rfl) (fun hc8=>?_) (fun hc8=>?_)
       ·replace H1:=Zp hc8 H1
        refine wp_skip ?_
        refine Zm ?_
        refine wp_seq ?_
        refine wp_block ?_
        obtain ⟨e9,h10,H1⟩:=Ze H1
        refine r_s (L:=[(3,_),(4,_),(41,_),(42,_),(43,_)]) (T:=[⟨[.o 2,.o 4],_,[],[],[45]⟩,⟨[.p 0 0],_,[],[0],[46]⟩,⟨[],[(6,(pBox Zo 6 (default:Zd)))],[7],[],[6]⟩,⟨[.p 1 0,.p 2 0],_,[7],[0,1,2],[6]⟩]) (F:=[.o 0,.o 1,.p 3 0,.o 2,.o 3,.o 4]) (hst.pick [0,1,2,3,4] rfl) hb Zb
         (o_p rfl (Zbp Tryd.underlying23 Zga rfl rfl u_0 u_1 h10)<|Ql rfl Zd2 u_0<|o_p rfl (Zbt (zs:=[.float .f64 0,.string ByteArray.empty]) (by kernel_rfl) (fun g=>Zgr g) rfl rfl)<|o_p rfl (Zcg Zd2 rfl rfl u_1 u_0)<|o_n) (fun a g hst hb=>?_)
        refine r_s (T:=[⟨[.o 2],_,[],[],[47]⟩,⟨[.p 0 0],_,[],[0],[48]⟩,⟨[.o 0],_,[],[],[49]⟩,⟨[.p 2 0],_,[],[2],[50]⟩,⟨[.p 1 0,.p 3 0],_,[],Lr 4,[51]⟩]) (F:=[.o 0,.o 1,.o 3,.o 4,.o 5,.p 4 0]) hst hb Zb
         (Qf rfl Zed u_0<|Ql rfl ty_9 u_0<|Qf rfl Zf7 u_0<|Ql rfl ty_9 u_0<|o_p rfl (Zl1 rfl rfl u_0 u_1)<|o_n) (fun a g hst hb=>?_)
        refine wp_cond_split (hst.bool 5 rfl) (fun hc11=>?_) (fun hc11=>?_)
        ·replace H1:=Zp hc11 H1
         refine r_s (L:=[(4,_)]) (T:=[⟨[],_,[],[],[52]⟩,⟨[.p 0 0,.o 0],_,[5],[0],[4]⟩]) (F:=[.p 1 0]) (hst.pick [1] rfl) hb Zb
          (o_p rfl (Zve rfl rfl )<|o_p rfl (Zbe Zd3 rfl rfl u_1 u_0)<|o_n) (fun a g hst hb=>?_)
         refine wp_ret ?_
         refine Zw ?_
         refine Zj ?_
         refine Zj ?_
         refine Zw ?_
         refine Zj ?_
         refine Zj ?_
         refine Zw ?_
         refine Zj ?_
         obtain rfl:=Option.some.inj H1
         obtain rfl:=Option.some.inj H0
         obtain ⟨u0,hu0,hq0⟩:=Zbn (P:=Tryd.prog) Zd3 (hst.at 0 rfl)
         exact Zx rfl hst hb hu0 hq0
        ·replace H1:=Zq hc11 H1
         refine wp_skip ?_
         refine Zbj ?_
         refine Zm ?_
         refine r_g (L:=[(3,_),(4,_),(41,_),(42,_),(43,_)]) (T:=[⟨[.o 4],_,[],[],[53]⟩,⟨[.p 0 0],_,[],[0],[43]⟩]) (F:=[.o 0,.o 1,.o 2,.o 3,.p 1 0]) (hst.pick [0,1,2,3,4] rfl) hb Zb
          (o_p rfl (Zcs rfl rfl u_0 c_i rfl)<|Qm rfl u_0<|o_n) (fun a g hst hb=>?_)
         exact ⟨n,Nat.lt_succ_self _,x6,(IntKind.i64.wrap (x7 + (1:Int))),g,rfl,(hst.pick [0,1,2,3,4] rfl),hb,H1⟩
       ·replace H1:=Zq hc8 H1
        refine wp_exit ?_
        refine Zca ?_
        refine Zca ?_
        refine Zc5 ?_
        exact ⟨x6,g,rfl,(hst.pick [1] rfl),hb,Option.some.inj H1⟩
    ·replace H0:=Zq hc5 H0
     refine wp_skip ?_
     refine Zbj ?_
     refine Zm ?_
     refine r_s (L:=[(4,_)]) (T:=[⟨[],_,[],[],[55]⟩,⟨[.p 0 0,.o 0],_,[5],[0],[4]⟩]) (F:=[.p 1 0]) (hst.pick [2] rfl) hb Zb
      (o_p rfl (Zve rfl rfl )<|o_p rfl (Zbe Zd3 rfl rfl u_1 u_0)<|o_n) (fun a g hst hb=>?_)
     refine wp_ret ?_
     obtain rfl:=Option.some.inj H0
     obtain ⟨u0,hu0,hq0⟩:=Zbn (P:=Tryd.prog) Zd3 (hst.at 0 rfl)
     exact Zx rfl hst hb hu0 hq0
theorem Znl (a0:Zu) (a1:Zg) {r:Zs} (h:Zfa a0 a1=some r):FnL Tryd.prog 59 [(Zfn.ptr a0),(Z1.pd a1)] (Z5.pd r):=FnL.of (Zm0 a0 a1 h) (Z3c Zr0)
theorem Zmu (a0:Zu) (a1:Int) (a2:List Zg) {r:Int × Zu} (h:Zg1 a0 a1 a2=some r):FnM Tryd.prog 28 Zcq a0 r.2 [(pInt .i64 a1),(Z1.sl.pd a2)] (pInt .i64 r.1):=by
 have H0:=h
 unfold Zg1 at H0
 clear h
 refine Z34 (N:=96) Tryd.func28 rfl rfl (Qe rfl) rfl rfl (fun a g0 b0 hst hb=>?_)
 replace hst:St 96 [(0,(Zho (some b0) Zbo Zbq hpT 0 a0)),(1,(pInt .i64 a1)),(2,(Z1.sl.pd a2)),(1002,(pST Zbo Zbq Zb4 Z5 96 b0 a0))] _ _:=Zyb hst
 refine r_s (T:=[⟨[],_,[],[],[6]⟩]) (F:=[.o 0,.o 1,.o 2,.o 3]) hst hb Zb
  (Qa rfl c_i<|o_n) (fun a g hst hb=>?_)
 refine wp_seq ?_
 refine r_s (T:=[⟨[.o 1],_,[],[],[12]⟩,⟨[.p 0 0],_,[],[0],[13]⟩,⟨[.p 1 0],_,[],[0,1],[14]⟩,⟨[.p 2 0,.o 1],_,[],[0,1,2],[15]⟩,⟨[.p 2 0,.o 0],_,[],[0,1,2],[16]⟩,⟨[.p 2 0,.p 4 0],_,[],[0,1,2,4],[17]⟩,⟨[.p 2 0,.p 5 0,.o 3],_,[],[0,1,2,4,5],[18]⟩,⟨[.p 2 0,.p 6 0],_,[],[0,1,2,4,5,6],[19]⟩,⟨[.p 2 0,.p 7 0],_,[],[0,1,2,4,5,6,7],[20]⟩,⟨[.p 2 0,.p 3 0,.p 8 0],_,[],Lr 9,[21]⟩,⟨[.p 2 0,.p 9 0],_,[],Lr 10,[22]⟩]) (F:=[.o 0,.o 1,.o 2,.p 10 0,.o 3]) hst hb Zb
  (Qm rfl u_0<|o_p rfl (Zb8 rfl rfl u_0 c_i)<|Qm rfl u_0<|o_g (Qg_f rfl (fun hG=>Z0 rfl rfl u_0))<|o_g (Qg_f rfl (fun hG=>Z0 rfl rfl u_0))<|o_g (Qg_f rfl (fun hG=>Z9 rfl rfl (Opd.gd hG u_0) (fun _ _ ⟨_,⟨_,_,_,e,_⟩,_⟩=>⟨_,e⟩)))<|o_g (Qg_f rfl (fun hG=>Zla Zl0 (off:=8) (q:=(pArr Z5 96 1000000 (Zb4 a0))) (by kernel_rfl) (pr:=id) (fun _=>rfl) (fun _ _ h=>h) rfl rfl (Opd.joinS (Opd.gd hG u_0) u_1)))<|o_g (Qg_f rfl (fun hG=>Znv Zpd rfl rfl (Opd.gd hG u_0)))<|o_g (Qg_f rfl (fun hG=>Zsf Tryd.underlying92 rfl rfl (Opd.gd hG u_0)))<|o_g (Qg_f rfl (fun hG=>Znq rfl rfl (Opd.gd hG u_0) (Opd.gd hG u_1)))<|o_p rfl (Zbk rfl rfl u_0 (fun hz=>(Opd.gd (bNF hz) u_1)))<|o_n) (fun a g hst hb=>?_)
 refine wp_cond_split (hst.bool 3 rfl) (fun hc1=>?_) (fun hc1=>?_)
 ·replace H0:=Zp hc1 H0
  refine r_s (L:=[(0,_),(1002,_)]) (T:=[⟨[],_,[],[],[6]⟩]) (F:=[.o 0,.p 0 0,.o 1]) (hst.pick [0,4] rfl) hb Zb
   (Qa rfl c_i<|o_n) (fun a g hst hb=>?_)
  refine wp_ret ?_
  refine Zj ?_
  obtain rfl:=Option.some.inj H0
  exact Zn4 rfl hst hb (Zf (s:=6)) (hst.at 1 rfl) (Zic (hst.at 0 rfl) (hst.at 2 rfl))
 ·replace H0:=Zq hc1 H0
  refine wp_skip ?_
  refine Zm ?_
  obtain ⟨e2,h3,H0⟩:=Ze H0
  refine r_s (L:=[(0,_),(1,_),(2,_),(1002,_)]) (T:=[⟨[.o 0],_,[],[],[23]⟩,⟨[.p 0 0],_,[],[0],[24]⟩,⟨[.p 1 0,.o 3],_,[],[0,1],[25]⟩,⟨[.p 2 0],_,[],[0,1,2],[26]⟩,⟨[.o 1],_,[],[],[27]⟩,⟨[.p 3 0,.p 4 0],_,[],Lr 5,[28]⟩,⟨[.p 5 0],_,[],Lr 6,[29]⟩,⟨[],[(7,(pBox Z5 7 (default:Zs)))],[8],[],[7]⟩,⟨[.p 6 0,.p 7 0],_,[8],Lr 8,[7]⟩]) (F:=[.o 0,.o 1,.o 2,.p 8 0,.o 3]) (hst.pick [0,1,2,4] rfl) hb Zb
   (Qm rfl u_0<|o_p rfl (Z9 rfl rfl u_0 (fun _ _ ⟨_,⟨_,_,_,e,_⟩,_⟩=>⟨_,e⟩))<|o_p rfl (Zla Zl0 (off:=8) (q:=(pArr Z5 96 1000000 (Zb4 a0))) (by kernel_rfl) (pr:=id) (fun _=>rfl) (fun _ _ h=>h) rfl rfl (Opd.joinS u_0 u_1))<|o_p rfl (Znv Zpd rfl rfl u_0)<|Qm rfl u_0<|o_p rfl (Zka Tryd.underlying92 Zt4 rfl rfl u_0 u_1 h3)<|o_p rfl (Ztk Zd3 rfl rfl u_0)<|o_p rfl (Zbt (zs:=[.int .u64 0,.int .u64 0]) (by kernel_rfl) (fun g=>Zin g) rfl rfl)<|o_p rfl (Zbe Zd3 rfl rfl u_1 u_0)<|o_n) (fun a g hst hb=>?_)
  refine wp_seq ?_
  refine r_s (T:=[⟨[.o 2],_,[],[],[30]⟩,⟨[.p 0 0],_,[],[0],[31]⟩,⟨[],_,[],[],[32]⟩]) (F:=[.o 0,.o 1,.o 3,.p 0 0,.p 1 0,.p 2 0,.o 4]) hst hb Zb
   (Qm rfl u_0<|o_p rfl (Zcc Tryd.underlying60 rfl rfl u_0)<|Qm rfl c_i<|o_n) (fun a g hst hb=>?_)
  obtain ⟨z23,hz1,H0⟩:=Ze H0
  refine Zce (fun a w=>∃ (y21:Zu) (y22:Zs) (g:G),w=g.w ∧ St 96 [(0,(Zho (some b0) Zbo Zbq hpT 0 y21)),(1,(pInt .i64 a1)),(7,(pBox Z5 7 y22)),(1002,(pST Zbo Zbq Zb4 Z5 96 b0 y21))] a g ∧ Base g0 g ∧ (.inr (y21,y22))=z23) ?_ ?_
  ·rintro a w ⟨y21,y22,g,rfl,hst,hb,rfl⟩
   refine Zm ?_
   obtain ⟨e24,h25,H0⟩:=Ze H0
   refine r_s (T:=[⟨[.o 0],_,[],[],[89]⟩,⟨[.p 0 0],_,[],[0],[90]⟩,⟨[.p 1 0,.o 3],_,[],[0,1],[91]⟩,⟨[.p 2 0],_,[],[0,1,2],[92]⟩,⟨[.o 1],_,[],[],[93]⟩,⟨[.o 2],_,[],[],[94]⟩,⟨[.p 3 0,.p 4 0],_,[],Lr 6,[95]⟩,⟨[.p 5 0,.p 6 0,.o 3,.o 0],[(1002,(pST Zbo Zbq Zb4 Z5 96 b0 ({ y21 with by_:=y21.by_.set (Int.toNat a1) y22 }:Zu))),(0,(Zho (some b0) Zbo Zbq hpT 0 ({ y21 with by_:=y21.by_.set (Int.toNat a1) y22 }:Zu)))],[1000001],Lr 7,[0,91,92,95,1002]⟩]) (F:=[.p 7 1,.p 7 0]) hst hb Zb
    (Qm rfl u_0<|o_p rfl (Z9 rfl rfl u_0 (fun _ _ ⟨_,⟨_,_,_,e,_⟩,_⟩=>⟨_,e⟩))<|o_p rfl (Zla Zl0 (off:=8) (q:=(pArr Z5 96 1000000 (Zb4 y21))) (by kernel_rfl) (pr:=id) (fun _=>rfl) (fun _ _ h=>h) rfl rfl (Opd.joinS u_0 u_1))<|o_p rfl (Znv Zpd rfl rfl u_0)<|Qm rfl u_0<|QM rfl Zd3 u_0<|o_p rfl (Zka Tryd.underlying92 Zt4 rfl rfl u_0 u_1 h25)<|o_p rfl (Ztp (lst:=Zb4) (xv:=y21) (u:=e24) (x':=({ y21 with by_:=y21.by_.set (Int.toNat a1) y22 }:Zu)) (fun _=>rfl) rfl rfl Zd3 rfl rfl u_3 u_2 u_1 u_0 (Zpx h25) (by decide))<|o_n) (fun a g hst hb=>?_)
   refine r_s (T:=[⟨[],_,[],[],[6]⟩]) (F:=[.o 0,.p 0 0,.o 1]) hst hb Zb
    (Qa rfl c_i<|o_n) (fun a g hst hb=>?_)
   refine wp_ret ?_
   obtain rfl:=Option.some.inj H0
   exact Zn4 rfl hst hb (Zf (s:=6)) (hst.at 1 rfl) (Zic (hst.at 0 rfl) (hst.at 2 rfl))
  ·refine wp_block ?_
   refine wp_loop_ghost (fun n a w=>∃ (x4:Zu) (x5:Zs) (x6:Int) (g:G),w=g.w ∧ St 96 [(0,(Zho (some b0) Zbo Zbq hpT 0 x4)),(1,(pInt .i64 a1)),(7,(pBox Z5 7 x5)),(30,(Z1.sl.pd a2)),(31,(pInt .i64 (a2.length:Int))),(32,(pInt .i64 x6)),(1002,(pST Zbo Zbq Zb4 Z5 96 b0 x4))] a g ∧ Base g0 g ∧ Zdd a2 n x4 x5 x6=some z23) (Int.toNat ((a2.length:Int) - (0:Int)) + 1) ⟨a0,e2,(0:Int),g,rfl,(hst.pick [0,1,2,3,4,5,6] rfl),hb,hz1⟩ (fun n a w hI=>?_)
   obtain ⟨x4,x5,x6,g,rfl,hst,hb,H1⟩:=hI
   cases n with
   | zero=>exact absurd H1 (by simp [Zdd])
   | succ n =>
    rw [Zdd] at H1
    refine r_s (T:=[⟨[.o 5,.o 4],_,[],[],[33]⟩]) (F:=[.o 0,.o 1,.o 2,.o 3,.o 4,.o 5,.p 0 0,.o 6]) hst hb Zb
     (o_p rfl (Zb8 rfl rfl u_0 u_1)<|o_n) (fun a g hst hb=>?_)
    refine wp_seq ?_
    refine wp_cond_split (hst.bool 6 rfl) (fun hc7=>?_) (fun hc7=>?_)
    ·replace H1:=Zp hc7 H1
     refine wp_skip ?_
     refine Zm ?_
     refine wp_seq ?_
     refine wp_block ?_
     obtain ⟨e8,h9,H1⟩:=Ze H1
     refine r_s (L:=[(0,_),(1,_),(7,_),(30,_),(31,_),(32,_),(1002,_)]) (T:=[⟨[.o 3,.o 5],_,[],[],[34]⟩,⟨[.p 0 0],_,[],[0],[35]⟩,⟨[],[(9,(pBox Z1 9 (default:Zg)))],[10],[],[9]⟩,⟨[.p 1 0,.p 2 0],_,[10],[0,1,2],[9]⟩]) (F:=[.o 0,.o 1,.o 2,.p 3 0,.o 3,.o 4,.o 5,.o 6]) (hst.pick [0,1,2,3,4,5,7] rfl) hb Zb
      (o_p rfl (Zbp Tryd.underlying60 Z64 rfl rfl u_0 u_1 h9)<|Ql rfl Zg3 u_0<|o_p rfl (Zbt (zs:=[.int .i64 0,.string ByteArray.empty,.int .i64 0,.float .f64 0,.string ByteArray.empty,.int .i64 0,.int .i64 0,.int .i64 0,.int .i64 0,.float .f64 0,.int .i64 0,.string ByteArray.empty,.slice none 0 0,.bool false]) (by kernel_rfl) (fun g=>Zli g) rfl rfl)<|o_p rfl (Zcg Zg3 rfl rfl u_1 u_0)<|o_n) (fun a g hst hb=>?_)
     refine wp_seq ?_
     obtain ⟨r10,h11,H1⟩:=Ze H1
     refine r_s (T:=[⟨[.o 3],_,[],[],[36]⟩,⟨[.p 0 0],_,[],[0],[37]⟩,⟨[.p 1 0],_,[],[0,1],[10]⟩]) (F:=[.o 0,.o 1,.o 2,.o 3,.p 2 0,.o 4,.o 5,.o 6,.o 7]) hst hb Zb
      (Ql rfl Zg3 u_0<|o_p rfl (Zr Z1y (Zox _ h11) rfl rfl (.cons u_0 .nil))<|Qa rfl u_0<|o_n) (fun a g hst hb=>?_)
     refine r_s (T:=[⟨[.o 4],_,[],[],[38]⟩,⟨[.p 0 0],_,[],[0],[39]⟩]) (F:=[.o 0,.o 1,.o 2,.o 3,.o 4,.o 5,.o 6,.o 7,.p 1 0,.o 8]) hst hb Zb
      (Qm rfl u_0<|o_p rfl (Zdu rfl rfl u_0 c_i)<|o_n) (fun a g hst hb=>?_)
     refine wp_cond_split (hst.bool 8 rfl) (fun hc12=>?_) (fun hc12=>?_)
     ·replace H1:=Zp hc12 H1
      refine r_s (L:=[(0,_),(10,_),(1002,_)]) (T:=[⟨[.o 1],_,[],[],[40]⟩,⟨[.p 0 0],_,[],[0],[6]⟩]) (F:=[.o 0,.p 1 0,.o 2]) (hst.pick [0,4,9] rfl) hb Zb
       (Qm rfl u_0<|Qa rfl u_0<|o_n) (fun a g hst hb=>?_)
      refine wp_ret ?_
      refine Zj ?_
      refine Zw ?_
      refine Zj ?_
      refine Zj ?_
      refine Zw ?_
      refine Zj ?_
      refine Zj ?_
      obtain rfl:=Option.some.inj H1
      obtain rfl:=Option.some.inj H0
      exact Zn4 rfl hst hb (Zf (s:=6)) (hst.at 1 rfl) (Zic (hst.at 0 rfl) (hst.at 2 rfl))
     ·replace H1:=Zq hc12 H1
      refine wp_skip ?_
      refine Zm ?_
      refine wp_seq ?_
      obtain ⟨r13,h14,H1⟩:=Ze H1
      refine r_s (L:=[(0,_),(1,_),(7,_),(9,_),(30,_),(31,_),(32,_),(1002,_)]) (T:=[⟨[.o 0],_,[],[],[41]⟩,⟨[.p 0 0],_,[],[0],[42]⟩,⟨[.p 1 0],_,[],[0,1],[43]⟩,⟨[.p 2 0],_,[],[0,1,2],[44]⟩,⟨[.p 3 0],_,[],Lr 4,[45]⟩,⟨[.o 3],_,[],[],[46]⟩,⟨[.p 5 0],_,[],[5],[47]⟩,⟨[.p 4 0,.p 6 0],_,[],Lr 7,[48]⟩,⟨[.p 7 0],_,[],Lr 8,[49]⟩]) (F:=[.o 0,.o 1,.o 2,.o 3,.o 4,.o 5,.o 6,.p 8 0,.o 7]) (hst.pick [0,1,2,3,5,6,7,9] rfl) hb Zb
       (Qm rfl u_0<|o_p rfl (Z9 rfl rfl u_0 (fun _ _ ⟨_,⟨_,_,_,e,_⟩,_⟩=>⟨_,e⟩))<|o_p rfl (Zx2 Z0v (off:=0) (by kernel_rfl) (fun _=>rfl) rfl rfl u_0)<|o_p rfl (Zyp Zdr (off2:=0) (by kernel_rfl) (by decide) rfl rfl u_0)<|o_p rfl (Z01 ty_3 rfl rfl u_0)<|Qf rfl Zcp u_0<|Ql rfl ty_3 u_0<|o_p rfl (Zr Z2a (Zmh _ _ h14) rfl rfl (.cons u_0 (.cons u_1 .nil)))<|Qn rfl u_0<|o_n) (fun a g hst hb=>?_)
      refine wp_cond_split (hst.bool 7 rfl) (fun hc15=>?_) (fun hc15=>?_)
      ·replace H1:=Zp hc15 H1
       refine r_s (L:=[(0,_),(1002,_)]) (T:=[⟨[],_,[],[],[6]⟩]) (F:=[.o 0,.p 0 0,.o 1]) (hst.pick [0,8] rfl) hb Zb
        (Qa rfl c_i<|o_n) (fun a g hst hb=>?_)
       refine wp_ret ?_
       refine Zj ?_
       refine Zw ?_
       refine Zj ?_
       refine Zj ?_
       refine Zw ?_
       refine Zj ?_
       refine Zj ?_
       obtain rfl:=Option.some.inj H1
       obtain rfl:=Option.some.inj H0
       exact Zn4 rfl hst hb (Zf (s:=6)) (hst.at 1 rfl) (Zic (hst.at 0 rfl) (hst.at 2 rfl))
      ·replace H1:=Zq hc15 H1
       refine wp_skip ?_
       refine Zm ?_
       obtain ⟨r16,h17,H1⟩:=Ze H1
       refine r_s (L:=[(0,_),(1,_),(7,_),(9,_),(30,_),(31,_),(32,_),(1002,_)]) (T:=[⟨[.o 0],_,[],[],[50]⟩,⟨[.o 3],_,[],[],[51]⟩,⟨[.p 0 0,.p 1 0,.o 7],_,[],[0,1],[52]⟩,⟨[],[(11,(pBox Z5 11 (default:Zs)))],[12],[],[11]⟩,⟨[.p 2 0,.p 3 0],_,[12],Lr 4,[11]⟩]) (F:=[.o 0,.o 1,.o 2,.o 3,.p 4 0,.o 4,.o 5,.o 6,.o 7]) (hst.pick [0,1,2,3,4,5,6,8] rfl) hb Zb
        (Qm rfl u_0<|Ql rfl Zg3 u_0<|o_p rfl (Zuu Zmi Z6v (Znl _ _ h17) rfl rfl (Opd.joinS u_0 u_2) rfl (.cons u_1 .nil))<|o_p rfl (Zbt (zs:=[.int .u64 0,.int .u64 0]) (by kernel_rfl) (fun g=>Zin g) rfl rfl)<|o_p rfl (Zcg Zd3 rfl rfl u_1 u_0)<|o_n) (fun a g hst hb=>?_)
       refine wp_seq ?_
       refine wp_block ?_
       refine r_s (T:=[⟨[.o 4],_,[],[],[54]⟩,⟨[.p 0 0],_,[],[0],[55]⟩,⟨[.o 2],_,[],[],[56]⟩,⟨[.p 2 0],_,[],[2],[57]⟩,⟨[.p 1 0,.p 3 0],_,[],Lr 4,[58]⟩,⟨[.p 4 0],_,[],Lr 5,[59]⟩,⟨[.p 5 0,.o 3],_,[],Lr 6,[60]⟩,⟨[.p 5 0,.p 6 0],_,[],Lr 7,[61]⟩,⟨[.p 5 0,.p 7 0],_,[],Lr 8,[62]⟩,⟨[.p 5 0,.p 8 0],_,[],Lr 9,[63]⟩,⟨[.p 9 0],_,[],Lr 10,[53]⟩]) (F:=[.o 0,.o 1,.o 2,.o 4,.o 5,.o 6,.o 7,.p 10 0,.o 8]) hst hb Zb
        (Qf rfl Zjo u_0<|Ql rfl Zhy u_0<|o_p rfl (Zt Zjo (off:=0) (by kernel_rfl) rfl rfl u_0)<|QP rfl Zhy u_0<|o_p rfl (Zcf rfl rfl u_0 u_1)<|Qm rfl u_0<|o_g (Qg_t rfl (fun hG=>Zh Zcp rfl rfl u_0))<|o_g (Qg_t rfl (fun hG=>Zn ty_3 rfl rfl (Opd.gd hG u_0)))<|o_g (Qg_t rfl (fun hG=>Zbc rfl rfl (Opd.gd hG u_0) c_i))<|o_p rfl (Zbi rfl rfl u_0 (fun hz=>(Opd.gd hz u_1)))<|Qa rfl u_0<|o_n) (fun a g hst hb=>?_)
       refine wp_cond_split (hst.bool 7 rfl) (fun hc18=>?_) (fun hc18=>?_)
       ·replace H1:=Zp hc18 H1
        refine r_s (L:=[(0,_),(1002,_)]) (T:=[⟨[],_,[],[],[6]⟩]) (F:=[.o 0,.p 0 0,.o 1]) (hst.pick [0,8] rfl) hb Zb
         (Qa rfl c_i<|o_n) (fun a g hst hb=>?_)
        refine wp_ret ?_
        refine Zw ?_
        refine Zj ?_
        refine Zw ?_
        refine Zj ?_
        refine Zj ?_
        refine Zw ?_
        refine Zj ?_
        refine Zj ?_
        obtain rfl:=Option.some.inj H1
        obtain rfl:=Option.some.inj H0
        exact Zn4 rfl hst hb (Zf (s:=6)) (hst.at 1 rfl) (Zic (hst.at 0 rfl) (hst.at 2 rfl))
       ·replace H1:=Zq hc18 H1
        refine r_s (L:=[(0,_),(1,_),(7,_),(11,_),(30,_),(31,_),(32,_),(1002,_)]) (T:=[⟨[.o 3],_,[],[],[65]⟩,⟨[.p 0 0],_,[],[0],[66]⟩,⟨[.o 2],_,[],[],[67]⟩,⟨[.p 2 0],_,[],[2],[68]⟩,⟨[.p 1 0,.p 3 0],_,[],Lr 4,[69]⟩,⟨[.p 4 0],_,[],Lr 5,[64]⟩]) (F:=[.o 0,.o 1,.o 2,.o 3,.o 4,.o 5,.o 6,.p 5 0,.o 7]) (hst.pick [0,1,2,3,4,5,6,8] rfl) hb Zb
         (Qf rfl Zjo u_0<|Ql rfl Zhy u_0<|o_p rfl (Zt Zjo (off:=0) (by kernel_rfl) rfl rfl u_0)<|QP rfl Zhy u_0<|o_p rfl (Zcf rfl rfl u_0 u_1)<|Qa rfl u_0<|o_n) (fun a g hst hb=>?_)
        refine wp_cond_split (hst.bool 7 rfl) (fun hc19=>?_) (fun hc19=>?_)
        ·replace H1:=Zp hc19 H1
         refine r_s (L:=[(0,_),(1002,_)]) (T:=[⟨[],_,[],[],[6]⟩]) (F:=[.o 0,.p 0 0,.o 1]) (hst.pick [0,8] rfl) hb Zb
          (Qa rfl c_i<|o_n) (fun a g hst hb=>?_)
         refine wp_ret ?_
         refine Zw ?_
         refine Zj ?_
         refine Zw ?_
         refine Zj ?_
         refine Zj ?_
         refine Zw ?_
         refine Zj ?_
         refine Zj ?_
         obtain rfl:=Option.some.inj H1
         obtain rfl:=Option.some.inj H0
         exact Zn4 rfl hst hb (Zf (s:=6)) (hst.at 1 rfl) (Zic (hst.at 0 rfl) (hst.at 2 rfl))
        ·replace H1:=Zq hc19 H1
         refine r_s (L:=[(0,_),(1,_),(7,_),(11,_),(30,_),(31,_),(32,_),(1002,_)]) (T:=[⟨[.o 3],_,[],[],[71]⟩,⟨[.p 0 0],_,[],[0],[72]⟩,⟨[.o 2],_,[],[],[73]⟩,⟨[.p 2 0],_,[],[2],[74]⟩,⟨[.p 1 0,.p 3 0],_,[],Lr 4,[75]⟩,⟨[.p 4 0],_,[],Lr 5,[70]⟩]) (F:=[.o 0,.o 1,.o 2,.o 3,.o 4,.o 5,.o 6,.p 5 0,.o 7]) (hst.pick [0,1,2,3,4,5,6,8] rfl) hb Zb
          (Qf rfl Zky u_0<|Ql rfl Zhy u_0<|o_p rfl (Zt Zky (off:=1) (by kernel_rfl) rfl rfl u_0)<|QP rfl Zhy u_0<|o_p rfl (Zcf rfl rfl u_0 u_1)<|Qa rfl u_0<|o_n) (fun a g hst hb=>?_)
         refine wp_cond_split (hst.bool 7 rfl) (fun hc20=>?_) (fun hc20=>?_)
         ·replace H1:=Zp hc20 H1
          refine r_s (L:=[(0,_),(1002,_)]) (T:=[⟨[],_,[],[],[6]⟩]) (F:=[.o 0,.p 0 0,.o 1]) (hst.pick [0,8] rfl) hb Zb
           (Qa rfl c_i<|o_n) (fun a g hst hb=>?_)
          refine wp_ret ?_
          refine Zw ?_
          refine Zj ?_
          refine Zw ?_
          refine Zj ?_
          refine Zj ?_
          refine Zw ?_
          refine Zj ?_
          refine Zj ?_
          obtain rfl:=Option.some.inj H1
          obtain rfl:=Option.some.inj H0
          exact Zn4 rfl hst hb (Zf (s:=6)) (hst.at 1 rfl) (Zic (hst.at 0 rfl) (hst.at 2 rfl))
         ·replace H1:=Zq hc20 H1
          refine wp_skip ?_
          refine Zbj ?_
          refine Zm ?_
          refine r_s (L:=[(0,_),(1,_),(7,_),(11,_),(30,_),(31,_),(32,_),(1002,_)]) (T:=[⟨[.o 2],_,[],[],[76]⟩,⟨[.p 0 0],_,[],[0],[77]⟩,⟨[.o 3],_,[],[],[78]⟩,⟨[.p 2 0],_,[],[2],[79]⟩,⟨[.p 1 0,.p 3 0],_,[],Lr 4,[80]⟩,⟨[.o 2],_,[],Lr 5,[81]⟩,⟨[.p 4 0,.p 5 0,.o 2],_,[8],Lr 6,[7,76,81]⟩]) (F:=[.o 0,.o 1,.p 6 0,.o 3,.o 4,.o 5,.o 6,.o 7]) (hst.pick [0,1,2,3,4,5,6,8] rfl) hb Zb
           (o_p rfl (Zt Zjo (off:=0) (by kernel_rfl) rfl rfl u_0)<|QP rfl Zhy u_0<|Qf rfl Zjo u_0<|Ql rfl Zhy u_0<|o_p rfl (Ze6 rfl rfl u_0 u_1 rfl)<|o_p rfl (Zt Zjo (off:=0) (by kernel_rfl) rfl rfl u_0)<|o_p rfl (Z4b Zhy rfl rfl u_2 u_1 u_0)<|o_n) (fun a g hst hb=>?_)
          refine r_g (T:=[⟨[.o 2],_,[],[],[82]⟩,⟨[.p 0 0],_,[],[0],[83]⟩,⟨[.o 3],_,[],[],[84]⟩,⟨[.p 2 0],_,[],[2],[85]⟩,⟨[.p 1 0,.p 3 0],_,[],Lr 4,[86]⟩,⟨[.o 2],_,[],Lr 5,[87]⟩,⟨[.p 4 0,.p 5 0,.o 2],_,[8],Lr 6,[7,82,87]⟩]) (F:=[.o 0,.o 1,.p 6 0,.o 4,.o 5,.o 6,.o 7]) hst hb Zb
           (o_p rfl (Zt Zky (off:=1) (by kernel_rfl) rfl rfl u_0)<|QP rfl Zhy u_0<|Qf rfl Zky u_0<|Ql rfl Zhy u_0<|o_p rfl (Ze6 rfl rfl u_0 u_1 rfl)<|o_p rfl (Zt Zky (off:=1) (by kernel_rfl) rfl rfl u_0)<|o_p rfl (Z3k Zhy rfl rfl u_2 u_1 u_0)<|o_n) (fun a g hst hb=>?_)
          refine Zbj ?_
          refine Zm ?_
          refine r_g (T:=[⟨[.o 5],_,[],[],[88]⟩,⟨[.p 0 0],_,[],[0],[32]⟩]) (F:=[.o 0,.o 1,.o 2,.o 3,.o 4,.p 1 0,.o 6]) hst hb Zb
           (o_p rfl (Zcs rfl rfl u_0 c_i rfl)<|Qm rfl u_0<|o_n) (fun a g hst hb=>?_)
          exact ⟨n,Nat.lt_succ_self _,x4,({ ({ x5 with up:=(IntKind.u64.wrap (x5.up - r16.up)) }) with down:=(IntKind.u64.wrap (({ x5 with up:=(IntKind.u64.wrap (x5.up - r16.up)) }).down - r16.down)) }),(IntKind.i64.wrap (x6 + (1:Int))),g,rfl,(hst.pick [0,1,2,3,4,5,6] rfl),hb,H1⟩
    ·replace H1:=Zq hc7 H1
     refine wp_exit ?_
     refine Zca ?_
     refine Zca ?_
     refine Zc5 ?_
     exact ⟨x4,x5,g,rfl,(hst.pick [0,1,2,7] rfl),hb,Option.some.inj H1⟩
theorem Zif (a0:Zu) (a1:Int) (a2:List Zg) {r:Zu × Int} (h:Ze9 a0 a1 a2=some r):FnM Tryd.prog 28 Zcq a0 r.1 [(pInt .i64 a1),(Z1.sl.pd a2)] (pInt .i64 r.2):=by
 obtain ⟨u,h1,h2⟩:=Ze h
 obtain rfl:=Option.some.inj h2
 exact Zmu a0 a1 a2 h1
theorem Zm1 {r:Bool} (h:Zhj=some r):FnOk Tryd.prog 8 [] (Z7 r):=by
 have H0:=h
 unfold Zhj at H0
 clear h
 refine Zbw (N:=81) Tryd.func8 rfl rfl (Qe rfl) rfl rfl (fun a g0 hst hb=>?_)
 refine r_s (T:=[⟨[],_,[],[],[0]⟩]) (F:=[]) hst hb Zb
  (Qa rfl c_b<|o_n) (fun a g hst hb=>?_)
 refine r_s (T:=[⟨[],_,[],[],[11]⟩,⟨[],[(1,(pBox Zc 1 (default:Za)))],[2],[],[1]⟩,⟨[.p 0 0,.p 1 0],_,[2],[0,1],[1]⟩]) (F:=[.p 2 0]) hst hb Zb
  (o_p rfl (Zv4 rfl rfl c_i c_i c_i)<|o_p rfl (Zbt (zs:=[.int .i64 0,.int .i64 0,.int .i64 0,.int .i64 0,.float .f64 0,.int .i64 0,.string ByteArray.empty,.slice none 0 0]) (by kernel_rfl) (fun g=>Zb2 g) rfl rfl)<|o_p rfl (Zcg Z8 rfl rfl u_1 u_0)<|o_n) (fun a g hst hb=>?_)
 obtain ⟨r1,h2,H0⟩:=Ze H0
 refine r_s (T:=[⟨[.o 0],_,[],[],[13]⟩,⟨[.p 0 0],[(14,(pTup [(Zjl Zcq 14 r1.1),(pInt .i64 r1.2)]))],[15,1000015],[0],[14]⟩,⟨[.p 1 0],_,[],[0,1],[12]⟩,⟨[.p 2 0],_,[],[0,1,2],[15]⟩,⟨[.p 2 0],_,[],[0,1,2],[16]⟩,⟨[.p 3 0],_,[],Lr 4,[2]⟩,⟨[.p 4 0],_,[],Lr 6,[3]⟩]) (F:=[.o 0,.p 5 0,.p 6 0]) hst hb Zb
  (Ql rfl Z8 u_0<|o_p rfl (Zqi Z2t (Zot _ _ h2) rfl rfl rfl (.cons u_0 (.cons c_i .nil)))<|Qm rfl u_0<|o_p rfl (Zbg rfl rfl u_0 rfl)<|o_p rfl (Zbg rfl rfl u_0 rfl)<|Qa rfl u_0<|Qa rfl u_0<|o_n) (fun a g hst hb=>?_)
 refine wp_seq ?_
 refine r_s (T:=[⟨[.o 2],_,[],[],[17]⟩,⟨[.p 0 0],_,[],[0],[18]⟩,⟨[.p 1 0],_,[],[0,1],[19]⟩,⟨[.p 2 0,.o 1],_,[],[0,1,2],[20]⟩,⟨[.p 2 0,.p 3 0],_,[],Lr 4,[21]⟩,⟨[.p 2 0,.p 4 0],_,[],Lr 5,[22]⟩]) (F:=[.o 0,.o 1,.p 5 0]) hst hb Zb
  (Qm rfl u_0<|o_p rfl (Zdu rfl rfl u_0 c_i)<|Qm rfl u_0<|o_g (Qg_f rfl (fun hG=>Z0 rfl rfl u_0))<|o_g (Qg_f rfl (fun hG=>Zzk Tryd.underlying54 rfl rfl (Opd.gd hG u_0) Zvd))<|o_p rfl (Zbk rfl rfl u_0 (fun hz=>(Opd.gd (bNF hz) u_1)))<|o_n) (fun a g hst hb=>?_)
 refine wp_cond_split (hst.bool 2 rfl) (fun hc3=>?_) (fun hc3=>?_)
 ·replace H0:=Zp hc3 H0
  refine r_s (L:=[]) (T:=[⟨[],_,[],[],[0]⟩]) (F:=[.p 0 0]) (hst.pick [] rfl) hb Zb
   (Qa rfl c_b<|o_n) (fun a g hst hb=>?_)
  refine wp_ret ?_
  refine Zj ?_
  obtain rfl:=Option.some.inj H0
  exact Zx rfl hst hb (Zf (s:=0)) (hst.at 0 rfl)
 ·replace H0:=Zq hc3 H0
  refine wp_skip ?_
  refine Zm ?_
  obtain ⟨n4,h5,H0⟩:=Ze H0;obtain ⟨r6,h7,H0⟩:=Ze H0
  refine r_s (L:=[(1,_),(2,_)]) (T:=[⟨[.o 1],_,[],[],[24]⟩,⟨[.p 0 0,.o 1],[(25,(pTup [(pInt .u64 r6.1),(pInt .u64 r6.2)])),(2,(Zjl Zcq 14 (some n4)))],[15,1000015],[0],[2,24,25]⟩,⟨[.p 1 0],_,[],[0,1],[23]⟩,⟨[.p 2 0],_,[],[0,1,2],[26]⟩,⟨[.p 2 0],_,[],[0,1,2],[27]⟩,⟨[.p 3 0],_,[],Lr 4,[4]⟩,⟨[.p 4 0],_,[],Lr 6,[5]⟩]) (F:=[.o 0,.p 1 1,.p 5 0,.p 6 0]) (hst.pick [0,1] rfl) hb Zb
   (Qm rfl u_0<|o_p rfl (OB.objO (Zly Z2d (Zkm _ _ h7) rfl rfl rfl (by decide) (Opd.imp u_1 (fun _ _ h=>Zfz h5 h)) (Opd.imp u_0 (fun _ _ h=>Zfz h5 h)) (.cons c_i .nil)))<|Qm rfl u_0<|o_p rfl (Zbg rfl rfl u_0 rfl)<|o_p rfl (Zbg rfl rfl u_0 rfl)<|Qa rfl u_0<|Qa rfl u_0<|o_n) (fun a g hst hb=>?_)
  obtain ⟨r8,h9,H0⟩:=Ze H0
  refine r_s (T:=[⟨[.o 1],_,[],[],[29]⟩,⟨[.p 0 0,.o 1],[(30,(pTup [(pInt .u64 r8.1),(pInt .u64 r8.2)])),(2,(Zjl Zcq 14 (some n4)))],[15,1000015],[0],[2,29,30]⟩,⟨[.p 1 0],_,[],[0,1],[28]⟩,⟨[.p 2 0],_,[],[0,1,2],[31]⟩,⟨[.p 2 0],_,[],[0,1,2],[32]⟩,⟨[.p 3 0],_,[],Lr 4,[6]⟩,⟨[.p 4 0],_,[],Lr 6,[7]⟩]) (F:=[.o 0,.p 1 1,.o 2,.o 3,.p 5 0,.p 6 0]) hst hb Zb
   (Qm rfl u_0<|o_p rfl (OB.objO (Zly Z2d (Zkm _ _ h9) rfl rfl rfl (by decide) (Opd.imp u_1 (fun _ _ h=>Zfz rfl h)) (Opd.imp u_0 (fun _ _ h=>Zfz rfl h)) (.cons c_i .nil)))<|Qm rfl u_0<|o_p rfl (Zbg rfl rfl u_0 rfl)<|o_p rfl (Zbg rfl rfl u_0 rfl)<|Qa rfl u_0<|Qa rfl u_0<|o_n) (fun a g hst hb=>?_)
  refine wp_seq ?_
  refine r_s (T:=⟨[.o 2],_,[],[],[33]⟩ :: ⟨[.p 0 0],_,[],[0],[34]⟩ :: ⟨[.p 1 0],_,[],[0,1],[35]⟩ :: ⟨[.p 2 0,.o 3],_,[],[0,1,2],[36]⟩ :: ⟨[.p 2 0,.p 3 0],_,[],Lr 4,[37]⟩ :: ⟨[.p 2 0,.p 4 0],_,[],Lr 5,[38]⟩ :: ⟨[.p 5 0],_,[],Lr 6,[39]⟩ :: ⟨[.p 6 0,.o 4],_,[],Lr 7,[40]⟩ :: ⟨[.p 6 0,.p 7 0],_,[],Lr 8,[41]⟩ :: ⟨[.p 6 0,.p 8 0],_,[],Lr 9,[42]⟩ :: ⟨[.p 9 0],_,[],Lr 10,[43]⟩ :: ⟨[.p 10 0,.o 5],_,[],Lr 11,[44]⟩ :: ⟨[.p 10 0,.p 11 0],_,[],Lr 12,[45]⟩ :: ⟨[.p 10 0,.p 12 0],_,[],Lr 13,[46]⟩ :: []) (F:=[.o 0,.o 1,.p 13 0]) hst hb Zb
   (Qm rfl u_0<|o_p rfl (Zdu rfl rfl u_0 c_i)<|Qm rfl u_0<|o_g (Qg_f rfl (fun hG=>Z0 rfl rfl u_0))<|o_g (Qg_f rfl (fun hG=>Zdu rfl rfl (Opd.gd hG u_0) c_i))<|o_p rfl (Zbk rfl rfl u_0 (fun hz=>(Opd.gd (bNF hz) u_1)))<|Qm rfl u_0<|o_g (Qg_f rfl (fun hG=>Z0 rfl rfl u_0))<|o_g (Qg_f rfl (fun hG=>Zdu rfl rfl (Opd.gd hG u_0) c_i))<|o_p rfl (Zbk rfl rfl u_0 (fun hz=>(Opd.gd (bNF hz) u_1)))<|Qm rfl u_0<|o_g (Qg_f rfl (fun hG=>Z0 rfl rfl u_0))<|o_g (Qg_f rfl (fun hG=>Zdu rfl rfl (Opd.gd hG u_0) c_i))<|o_p rfl (Zbk rfl rfl u_0 (fun hz=>(Opd.gd (bNF hz) u_1)))<|o_n) (fun a g hst hb=>?_)
  refine wp_cond_split (hst.bool 2 rfl) (fun hc10=>?_) (fun hc10=>?_)
  ·replace H0:=Zp hc10 H0
   refine r_s (L:=[]) (T:=[⟨[],_,[],[],[0]⟩]) (F:=[.p 0 0]) (hst.pick [] rfl) hb Zb
    (Qa rfl c_b<|o_n) (fun a g hst hb=>?_)
   refine wp_ret ?_
   refine Zj ?_
   obtain rfl:=Option.some.inj H0
   exact Zx rfl hst hb (Zf (s:=0)) (hst.at 0 rfl)
  ·replace H0:=Zq hc10 H0
   refine wp_skip ?_
   refine Zm ?_
   refine r_s (L:=[(1,_),(2,_)]) (T:=[⟨[],_,[],[],[47]⟩,⟨[],[(8,(pBox Z1 8 (default:Zg)))],[9],[],[8]⟩,⟨[.p 0 0,.p 1 0],_,[9],[0,1],[8]⟩]) (F:=[.o 0,.o 1,.p 2 0]) (hst.pick [0,1] rfl) hb Zb
    (o_p rfl (Zwa rfl rfl c_i c_s c_i)<|o_p rfl (Zbt (zs:=[.int .i64 0,.string ByteArray.empty,.int .i64 0,.float .f64 0,.string ByteArray.empty,.int .i64 0,.int .i64 0,.int .i64 0,.int .i64 0,.float .f64 0,.int .i64 0,.string ByteArray.empty,.slice none 0 0,.bool false]) (by kernel_rfl) (fun g=>Zli g) rfl rfl)<|o_p rfl (Zcg Zg3 rfl rfl u_1 u_0)<|o_n) (fun a g hst hb=>?_)
   obtain ⟨r11,h12,H0⟩:=Ze H0
   refine r_s (T:=[⟨[.o 0],_,[],[],[49]⟩,⟨[.p 0 0],_,[],[0],[50]⟩,⟨[.p 1 0],_,[],[0,1],[48]⟩,⟨[.p 2 0],_,[],[0,1,2],[51]⟩,⟨[.p 2 0],_,[],[0,1,2],[52]⟩,⟨[],[(9,(pBox Zc 9 (default:Za)))],[10],[],[9]⟩,⟨[.p 3 0,.p 5 0],_,[10],[0,1,2,3,5],[9]⟩,⟨[.p 4 0],_,[],Lr 7,[10]⟩]) (F:=[.o 0,.o 1,.o 2,.p 6 0,.p 7 0]) hst hb Zb
    (Ql rfl Z8 u_0<|o_p rfl (Zr Zxs (Zkt _ h12) rfl rfl (.cons u_0 .nil))<|Qm rfl u_0<|o_p rfl (Zbg rfl rfl u_0 rfl)<|o_p rfl (Zbg rfl rfl u_0 rfl)<|o_p rfl (Zbt (zs:=[.int .i64 0,.int .i64 0,.int .i64 0,.int .i64 0,.float .f64 0,.int .i64 0,.string ByteArray.empty,.slice none 0 0]) (by kernel_rfl) (fun g=>Zb2 g) rfl rfl)<|o_p rfl (Zcg Z8 rfl rfl u_1 u_0)<|Qa rfl u_0<|o_n) (fun a g hst hb=>?_)
   obtain ⟨r13,h14,H0⟩:=Ze H0;obtain ⟨r15,h16,H0⟩:=Ze H0;obtain ⟨r17,h18,H0⟩:=Ze H0;obtain ⟨r19,h20,H0⟩:=Ze H0;obtain ⟨r21,h22,H0⟩:=Ze H0
   refine r_s (T:=⟨[.o 1],_,[],[],[53]⟩ :: ⟨[.o 2],_,[],[],[54]⟩ :: ⟨[.p 1 0],_,[],[1],[55]⟩ :: ⟨[.p 0 0,.p 2 0,.o 1],[(56,(pInt .i64 r13.2)),(2,(Zjl Zcq 14 (some r13.1)))],[15,1000015],[0,1,2],[2,53,56]⟩ :: ⟨[.p 3 0],_,[],Lr 4,[57]⟩ :: ⟨[.p 4 0],_,[],Lr 5,[58]⟩ :: ⟨[.p 5 0,.p 3 1],_,[],Lr 6,[59]⟩ :: ⟨[.p 5 0,.o 2],_,[],Lr 6,[60]⟩ :: ⟨[.p 5 0,.p 7 0],_,[],[0,1,2,3,4,5,7],[61]⟩ :: ⟨[.p 5 0,.p 6 0,.p 8 0,.p 3 1],[(62,(pIf (r13.2 == (9:Int)) (pInt .i64 r15.2))),(2,(pObj Zcq 14 (if (r13.2 == (9:Int))=true then r15.1 else r13.1)))],[15,1000015],Lr 9,[2,53,59,62]⟩ :: ⟨[.p 5 0,.p 9 0],_,[],Lr 10,[63]⟩ :: ⟨[.p 5 0,.p 10 0],_,[],Lr 11,[64]⟩ :: ⟨[.p 11 0],_,[],Lr 12,[65]⟩ :: ⟨[.p 12 0,.o 4],_,[],Lr 13,[66]⟩ :: ⟨[.p 12 0,.p 13 0],_,[],Lr 14,[67]⟩ :: ⟨[.p 14 0],_,[],Lr 15,[68]⟩ :: ⟨[.p 15 0,.o 0],_,[],Lr 16,[69]⟩ :: ⟨[.p 15 0,.o 3],_,[],Lr 16,[70]⟩ :: ⟨[.p 15 0,.o 2],_,[],Lr 16,[71]⟩ :: ⟨[.p 15 0,.p 17 0,.p 18 0],_,[],0 :: 1 :: 2 :: 3 :: 4 :: 5 :: 6 :: 7 :: 8 :: 9 :: 10 :: 11 :: 12 :: 13 :: 14 :: 15 :: 17 :: 18 :: [],[72]⟩ :: ⟨[.p 15 0,.p 19 0],_,[],0 :: 1 :: 2 :: 3 :: 4 :: 5 :: 6 :: 7 :: 8 :: 9 :: 10 :: 11 :: 12 :: 13 :: 14 :: 15 :: 17 :: 18 :: 19 :: [],[73]⟩ :: ⟨[.p 15 0,.p 16 0,.p 20 0],_,[],Lr 21,[74]⟩ :: ⟨[.p 15 0,.p 21 0],_,[],Lr 22,[75]⟩ :: ⟨[.p 15 0,.p 22 0],_,[],Lr 23,[76]⟩ :: ⟨[.p 15 0,.p 23 0],_,[],Lr 24,[77]⟩ :: ⟨[.p 24 0],_,[],Lr 25,[78]⟩ :: ⟨[.p 25 0],_,[],Lr 26,[79]⟩ :: ⟨[.p 25 0,.p 26 0],_,[],Lr 27,[80]⟩ :: ⟨[.p 27 0],_,[],Lr 28,[0]⟩ :: []) (F:=[.p 28 0]) hst hb Zb
    (Qm rfl u_0<|Ql rfl Zg3 u_0<|o_p rfl (Zi5 Zyk (xs:=[.tmp 54]) (.cons u_0 .nil) (by decide) rfl rfl)<|o_p rfl (OB.objO (Zly Zxq (Zif _ _ _ h14) rfl rfl rfl (by decide) (Opd.imp u_2 (fun _ _ h=>Zfz rfl h)) (Opd.imp u_0 (fun _ _ h=>Zfz rfl h)) (.cons c_i (.cons u_1 .nil))))<|o_p rfl (Zbc rfl rfl u_0 c_i)<|Qm rfl u_0<|o_g (Qg_t rfl (fun hG=>Z0 rfl rfl u_0))<|o_g (Qg_t rfl (fun hG=>Zn Zg3 rfl rfl u_0))<|o_g (Qg_t rfl (fun hG=>Zi5 Zyk (xs:=[.tmp 60]) (.cons (Opd.gd hG u_0) .nil) (by decide) rfl rfl))<|o_g (OT.guardM (r13.2 == (9:Int)) (gT (r13.2 == (9:Int))).1 (gT (r13.2 == (9:Int))).2 rfl rfl rfl (by decide) (Opd.imp u_2 (fun _ _ h=>Zfz rfl h)) (fun hG=>Zly Zxq (Zif _ _ _ (Zbs h16 hG)) rfl rfl rfl (by decide) (Opd.imp u_2 (fun _ _ h=>Zfz rfl h)) (Opd.imp (Opd.gd hG u_0) (fun _ _ h=>Zfz rfl h)) (.cons c_i (.cons (Opd.gd hG u_1) .nil))) rfl)<|o_g (Qg_t rfl (fun hG=>Zbc rfl rfl (Opd.gd hG u_0) c_i))<|o_p rfl (Zbi rfl rfl u_0 (fun hz=>(Opd.gd hz u_1)))<|Qm rfl u_0<|o_g (Qg_t rfl (fun hG=>Z0 rfl rfl u_0))<|o_p rfl (Zbi rfl rfl u_0 (fun hz=>(Opd.gd hz u_1)))<|Qm rfl u_0<|o_g (Qg_t rfl (fun hG=>Zn Z8 rfl rfl u_0))<|o_g (Qg_t rfl (fun hG=>Zn Z8 rfl rfl u_0))<|o_g (Qg_t rfl (fun hG=>Zn Zg3 rfl rfl u_0))<|o_g (Qg_t rfl (fun hG=>Zr Z23 (Zqa _ _ (Zbs h18 hG)) rfl rfl (.cons (Opd.gd hG u_0) (.cons (Opd.gd hG u_1) .nil))))<|o_g (Qg_t rfl (fun hG=>Zi5 Zt3 (xs:=[.tmp 72]) (.cons (Opd.gd hG u_0) .nil) (by decide) rfl rfl))<|o_g (Qg_t rfl (fun hG=>Zr Zx9 (Zkw _ _ (Zbs h20 hG)) rfl rfl (.cons (Opd.gd hG u_0) (.cons (Opd.gd hG u_1) .nil))))<|o_g (Qg_t rfl (fun hG=>Zvb Zcl rfl rfl (Opd.gd hG u_0)))<|o_g (Qg_t rfl (fun hG=>Zbc rfl rfl (Opd.gd hG u_0) c_i))<|o_p rfl (Zbi rfl rfl u_0 (fun hz=>(Opd.gd hz u_1)))<|Qm rfl u_0<|o_g (Qg_t rfl (fun hG=>Zr Z2a (Zmh _ _ (Zbs h22 hG)) rfl rfl (.cons c_i (.cons c_i .nil))))<|o_p rfl (Zbi rfl rfl u_0 (fun hz=>(Opd.gd hz u_1)))<|Qa rfl u_0<|o_n) (fun a g hst hb=>?_)
   refine wp_ret ?_
   obtain rfl:=Option.some.inj H0
   exact Zx rfl hst hb (Zf (s:=0)) (hst.at 0 rfl)
theorem Zk5 (a0:Za) {r:Int} (h:Zf9 a0=some r):FnOk Tryd.prog 30 [(Zc.pd a0)] (pInt .i64 r):=by
 have H0:=h
 unfold Zf9 at H0
 clear h
 refine Zbw (N:=27) Tryd.func30 rfl rfl (Qe rfl) rfl rfl (fun a g0 hst hb=>?_)
 refine r_s (T:=[⟨[.o 0],_,[],[],[1]⟩,⟨[],_,[],[],[2]⟩]) (F:=[.p 0 0]) hst hb Zb
  (Qb rfl u_0<|Qa rfl c_i<|o_n) (fun a g hst hb=>?_)
 refine wp_seq ?_
 refine r_s (T:=[⟨[.o 0],_,[],[],[5]⟩,⟨[.p 0 0],_,[],[0],[6]⟩,⟨[.p 1 0],_,[],[0,1],[7]⟩,⟨[.p 2 0],_,[],[0,1,2],[8]⟩,⟨[.p 3 0],_,[],Lr 4,[9]⟩,⟨[.p 4 0,.o 0],_,[],Lr 5,[10]⟩,⟨[.p 4 0,.p 5 0],_,[],Lr 6,[11]⟩,⟨[.p 4 0,.p 6 0],_,[],Lr 7,[12]⟩,⟨[.p 4 0,.p 7 0],_,[],Lr 8,[13]⟩,⟨[.p 4 0,.p 8 0],_,[],Lr 9,[14]⟩]) (F:=[.o 0,.p 9 0]) hst hb Zb
  (Qf rfl Zb5 u_0<|Ql rfl Zc4 u_0<|o_p rfl (Zcc Tryd.underlying23 rfl rfl u_0)<|o_p rfl (Zcf rfl rfl u_0 c_i)<|Qm rfl u_0<|o_g (Qg_f rfl (fun hG=>Zh Zia rfl rfl u_0))<|o_g (Qg_f rfl (fun hG=>Zn ty_9 rfl rfl (Opd.gd hG u_0)))<|o_g (Qg_f rfl (fun hG=>Zex Tryd.underlying9 rfl rfl (Opd.gd hG u_0)))<|o_g (Qg_f rfl (fun hG=>Zcf rfl rfl (Opd.gd hG u_0) c_i))<|o_p rfl (Zbk rfl rfl u_0 (fun hz=>(Opd.gd (bNF hz) u_1)))<|o_n) (fun a g hst hb=>?_)
 refine wp_cond_split (hst.bool 1 rfl) (fun hc1=>?_) (fun hc1=>?_)
 ·replace H0:=Zp hc1 H0
  refine r_s (L:=[]) (T:=[⟨[],_,[],[],[2]⟩]) (F:=[.p 0 0]) (hst.pick [] rfl) hb Zb
   (Qa rfl c_i<|o_n) (fun a g hst hb=>?_)
  refine wp_ret ?_
  refine Zj ?_
  obtain rfl:=Option.some.inj H0
  exact Zx rfl hst hb (Zf (s:=2)) (hst.at 0 rfl)
 ·replace H0:=Zq hc1 H0
  refine wp_skip ?_
  refine Zm ?_
  refine wp_seq ?_
  refine r_s (L:=[(1,_)]) (T:=[⟨[.o 0],_,[],[],[15]⟩,⟨[.p 0 0],_,[],[0],[16]⟩,⟨[.p 1 0],_,[],[0,1],[17]⟩,⟨[],_,[],[],[18]⟩]) (F:=[.p 1 0,.p 2 0,.p 3 0]) (hst.pick [0] rfl) hb Zb
   (Qf rfl Zb5 u_0<|Ql rfl Zc4 u_0<|o_p rfl (Zcc Tryd.underlying23 rfl rfl u_0)<|Qm rfl c_i<|o_n) (fun a g hst hb=>?_)
  obtain ⟨z7,hz1,H0⟩:=Ze H0
  refine Zce (fun a w=>∃ (g:G),w=g.w ∧ St 27 [] a g ∧ Base g0 g ∧ (.inr ())=z7) ?_ ?_
  ·rintro a w ⟨g,rfl,hst,hb,rfl⟩
   refine Zm ?_
   refine r_s (T:=[⟨[],_,[],[],[2]⟩]) (F:=[.p 0 0]) hst hb Zb
    (Qa rfl c_i<|o_n) (fun a g hst hb=>?_)
   refine wp_ret ?_
   obtain rfl:=Option.some.inj H0
   exact Zx rfl hst hb (Zf (s:=2)) (hst.at 0 rfl)
  ·refine wp_block ?_
   refine wp_loop_ghost (fun n a w=>∃ (x2:Int) (g:G),w=g.w ∧ St 27 [(16,(Zo.sl.pd a0.List)),(17,(pInt .i64 (a0.List.length:Int))),(18,(pInt .i64 x2))] a g ∧ Base g0 g ∧ Zdq a0 n x2=some z7) (Int.toNat ((a0.List.length:Int) - (0:Int)) + 1) ⟨(0:Int),g,rfl,(hst.pick [0,1,2] rfl),hb,hz1⟩ (fun n a w hI=>?_)
   obtain ⟨x2,g,rfl,hst,hb,H1⟩:=hI
   cases n with
   | zero=>exact absurd H1 (by simp [Zdq])
   | succ n =>
    rw [Zdq] at H1
    refine r_s (T:=[⟨[.o 2,.o 1],_,[],[],[19]⟩]) (F:=[.o 0,.o 1,.o 2,.p 0 0]) hst hb Zb
     (o_p rfl (Zb8 rfl rfl u_0 u_1)<|o_n) (fun a g hst hb=>?_)
    refine wp_seq ?_
    refine wp_cond_split (hst.bool 3 rfl) (fun hc3=>?_) (fun hc3=>?_)
    ·replace H1:=Zp hc3 H1
     refine wp_skip ?_
     refine Zm ?_
     refine wp_seq ?_
     refine wp_block ?_
     obtain ⟨e4,h5,H1⟩:=Ze H1
     refine r_s (L:=[(16,_),(17,_),(18,_)]) (T:=[⟨[.o 0,.o 2],_,[],[],[20]⟩,⟨[.p 0 0],_,[],[0],[21]⟩,⟨[],[(4,(pBox Zo 4 (default:Zd)))],[5],[],[4]⟩,⟨[.p 1 0,.p 2 0],_,[5],[0,1,2],[4]⟩]) (F:=[.p 3 0,.o 0,.o 1,.o 2]) (hst.pick [0,1,2] rfl) hb Zb
      (o_p rfl (Zbp Tryd.underlying23 Zga rfl rfl u_0 u_1 h5)<|Ql rfl Zd2 u_0<|o_p rfl (Zbt (zs:=[.float .f64 0,.string ByteArray.empty]) (by kernel_rfl) (fun g=>Zgr g) rfl rfl)<|o_p rfl (Zcg Zd2 rfl rfl u_1 u_0)<|o_n) (fun a g hst hb=>?_)
     refine r_s (T:=[⟨[.o 0],_,[],[],[22]⟩,⟨[.p 0 0],_,[],[0],[23]⟩,⟨[.p 1 0],_,[],[0,1],[24]⟩,⟨[.p 2 0],_,[],[0,1,2],[25]⟩]) (F:=[.o 1,.o 2,.o 3,.p 3 0]) hst hb Zb
      (Qf rfl Zed u_0<|Ql rfl ty_9 u_0<|o_p rfl (Zex Tryd.underlying9 rfl rfl u_0)<|o_p rfl (Zcf rfl rfl u_0 c_i)<|o_n) (fun a g hst hb=>?_)
     refine wp_cond_split (hst.bool 3 rfl) (fun hc6=>?_) (fun hc6=>?_)
     ·replace H1:=Zp hc6 H1
      refine r_s (L:=[]) (T:=[⟨[],_,[],[],[2]⟩]) (F:=[.p 0 0]) (hst.pick [] rfl) hb Zb
       (Qa rfl c_i<|o_n) (fun a g hst hb=>?_)
      refine wp_ret ?_
      refine Zw ?_
      refine Zj ?_
      refine Zj ?_
      refine Zw ?_
      refine Zj ?_
      refine Zj ?_
      obtain rfl:=Option.some.inj H1
      obtain rfl:=Option.some.inj H0
      exact Zx rfl hst hb (Zf (s:=2)) (hst.at 0 rfl)
     ·replace H1:=Zq hc6 H1
      refine wp_skip ?_
      refine Zbj ?_
      refine Zm ?_
      refine r_g (L:=[(16,_),(17,_),(18,_)]) (T:=[⟨[.o 2],_,[],[],[26]⟩,⟨[.p 0 0],_,[],[0],[18]⟩]) (F:=[.o 0,.o 1,.p 1 0]) (hst.pick [0,1,2] rfl) hb Zb
       (o_p rfl (Zcs rfl rfl u_0 c_i rfl)<|Qm rfl u_0<|o_n) (fun a g hst hb=>?_)
      exact ⟨n,Nat.lt_succ_self _,(IntKind.i64.wrap (x2 + (1:Int))),g,rfl,(hst.pick [0,1,2] rfl),hb,H1⟩
    ·replace H1:=Zq hc3 H1
     refine wp_exit ?_
     refine Zca ?_
     refine Zca ?_
     refine Zc5 ?_
     exact ⟨g,rfl,(hst.pick [] rfl),hb,Option.some.inj H1⟩
theorem Zpg (a0:Zg) {r:Int} (h:Zhl a0=some r):FnOk Tryd.prog 31 [(Z1.pd a0)] (pInt .i64 r):=by
 have H0:=h
 unfold Zhl at H0
 clear h
 refine Zbw (N:=19) Tryd.func31 rfl rfl (Qe rfl) rfl rfl (fun a g0 hst hb=>?_)
 refine r_s (T:=[⟨[.o 0],_,[],[],[1]⟩,⟨[],_,[],[],[2]⟩]) (F:=[.p 0 0]) hst hb Zb
  (Qb rfl u_0<|Qa rfl c_i<|o_n) (fun a g hst hb=>?_)
 refine wp_seq ?_
 obtain ⟨r1,h2,H0⟩:=Ze H0
 refine r_s (T:=⟨[.o 0],_,[],[],[3]⟩ :: ⟨[.p 0 0],_,[],[0],[4]⟩ :: ⟨[.p 1 0],_,[],[0,1],[5]⟩ :: ⟨[.p 2 0],_,[],[0,1,2],[6]⟩ :: ⟨[.p 3 0],_,[],Lr 4,[7]⟩ :: ⟨[.p 4 0,.o 0],_,[],Lr 5,[8]⟩ :: ⟨[.p 4 0,.p 5 0],_,[],Lr 6,[9]⟩ :: ⟨[.p 4 0,.p 6 0],_,[],Lr 7,[10]⟩ :: ⟨[.p 4 0,.p 7 0],_,[],Lr 8,[11]⟩ :: ⟨[.p 4 0,.p 8 0],_,[],Lr 9,[12]⟩ :: ⟨[.p 9 0],_,[],Lr 10,[13]⟩ :: ⟨[.p 10 0,.o 0],_,[],Lr 11,[14]⟩ :: ⟨[.p 10 0,.p 11 0],_,[],Lr 12,[15]⟩ :: ⟨[.p 10 0,.p 12 0],_,[],Lr 13,[16]⟩ :: ⟨[.p 10 0,.p 13 0],_,[],Lr 14,[17]⟩ :: ⟨[.p 10 0,.p 14 0],_,[],Lr 15,[18]⟩ :: []) (F:=[.p 15 0]) hst hb Zb
  (Qf rfl Zm2 u_0<|Ql rfl ty_9 u_0<|o_p rfl (Zex Tryd.underlying9 rfl rfl u_0)<|o_p rfl (Zcf rfl rfl u_0 c_i)<|Qm rfl u_0<|o_g (Qg_f rfl (fun hG=>Zh Zf7 rfl rfl u_0))<|o_g (Qg_f rfl (fun hG=>Zn ty_9 rfl rfl (Opd.gd hG u_0)))<|o_g (Qg_f rfl (fun hG=>Zex Tryd.underlying9 rfl rfl (Opd.gd hG u_0)))<|o_g (Qg_f rfl (fun hG=>Zcf rfl rfl (Opd.gd hG u_0) c_i))<|o_p rfl (Zbk rfl rfl u_0 (fun hz=>(Opd.gd (bNF hz) u_1)))<|Qm rfl u_0<|o_g (Qg_f rfl (fun hG=>Zh Zlr rfl rfl u_0))<|o_g (Qg_f rfl (fun hG=>Zn Z8 rfl rfl (Opd.gd hG u_0)))<|o_g (Qg_f rfl (fun hG=>Zr Z2l (Zk5 _ (Zbs h2 hG)) rfl rfl (.cons (Opd.gd hG u_0) .nil)))<|o_g (Qg_f rfl (fun hG=>Zcf rfl rfl (Opd.gd hG u_0) c_i))<|o_p rfl (Zbk rfl rfl u_0 (fun hz=>(Opd.gd (bNF hz) u_1)))<|o_n) (fun a g hst hb=>?_)
 refine wp_cond_split (hst.bool 0 rfl) (fun hc3=>?_) (fun hc3=>?_)
 ·replace H0:=Zp hc3 H0
  refine r_s (L:=[]) (T:=[⟨[],_,[],[],[2]⟩]) (F:=[.p 0 0]) (hst.pick [] rfl) hb Zb
   (Qa rfl c_i<|o_n) (fun a g hst hb=>?_)
  refine wp_ret ?_
  refine Zj ?_
  obtain rfl:=Option.some.inj H0
  exact Zx rfl hst hb (Zf (s:=2)) (hst.at 0 rfl)
 ·replace H0:=Zq hc3 H0
  refine wp_skip ?_
  refine Zm ?_
  refine r_s (L:=[]) (T:=[⟨[],_,[],[],[2]⟩]) (F:=[.p 0 0]) (hst.pick [] rfl) hb Zb
   (Qa rfl c_i<|o_n) (fun a g hst hb=>?_)
  refine wp_ret ?_
  obtain rfl:=Option.some.inj H0
  exact Zx rfl hst hb (Zf (s:=2)) (hst.at 0 rfl)
theorem Zo2 (a0:Za) (a1:List Zv) {r:Bool} (h:Zgd a0 a1=some r):FnOk Tryd.prog 9 [(Zc.pd a0),(Zba.sl.pd a1)] (Z7 r):=by
 have H0:=h
 unfold Zgd at H0
 clear h
 refine Zbw (N:=26) Tryd.func9 rfl rfl (Qe rfl) rfl rfl (fun a g0 hst hb=>?_)
 refine r_s (T:=[⟨[.o 0],_,[],[],[2]⟩,⟨[],_,[],[],[4]⟩]) (F:=[.o 1,.p 0 0]) hst hb Zb
  (Qb rfl u_0<|Qa rfl c_b<|o_n) (fun a g hst hb=>?_)
 refine wp_seq ?_
 obtain ⟨r1,h2,H0⟩:=Ze H0
 refine r_s (T:=[⟨[.o 1],_,[],[],[7]⟩,⟨[.p 0 0],_,[],[0],[8]⟩,⟨[.p 1 0],_,[],[0,1],[9]⟩,⟨[.p 2 0],_,[],[0,1,2],[10]⟩,⟨[.p 3 0,.o 0],_,[],Lr 4,[11]⟩,⟨[.p 3 0,.p 4 0],_,[],Lr 5,[12]⟩,⟨[.p 3 0,.p 5 0],_,[],Lr 6,[13]⟩,⟨[.p 3 0,.p 6 0],_,[],Lr 7,[14]⟩]) (F:=[.o 0,.p 7 0]) hst hb Zb
  (Ql rfl Z8 u_0<|o_p rfl (Zr Z2l (Zk5 _ h2) rfl rfl (.cons u_0 .nil))<|o_p rfl (Zcf rfl rfl u_0 c_i)<|Qm rfl u_0<|o_g (Qg_f rfl (fun hG=>Z0 rfl rfl u_0))<|o_g (Qg_f rfl (fun hG=>Zcc Tryd.underlying40 rfl rfl (Opd.gd hG u_0)))<|o_g (Qg_f rfl (fun hG=>Zcf rfl rfl (Opd.gd hG u_0) c_i))<|o_p rfl (Zbk rfl rfl u_0 (fun hz=>(Opd.gd (bNF hz) u_1)))<|o_n) (fun a g hst hb=>?_)
 refine wp_cond_split (hst.bool 1 rfl) (fun hc3=>?_) (fun hc3=>?_)
 ·replace H0:=Zp hc3 H0
  refine r_s (L:=[]) (T:=[⟨[],_,[],[],[4]⟩]) (F:=[.p 0 0]) (hst.pick [] rfl) hb Zb
   (Qa rfl c_b<|o_n) (fun a g hst hb=>?_)
  refine wp_ret ?_
  refine Zj ?_
  obtain rfl:=Option.some.inj H0
  exact Zx rfl hst hb (Zf (s:=4)) (hst.at 0 rfl)
 ·replace H0:=Zq hc3 H0
  refine wp_skip ?_
  refine Zm ?_
  refine wp_seq ?_
  refine r_s (L:=[(1,_)]) (T:=[⟨[.o 0],_,[],[],[15]⟩,⟨[.p 0 0],_,[],[0],[16]⟩,⟨[],_,[],[],[17]⟩]) (F:=[.p 0 0,.p 1 0,.p 2 0]) (hst.pick [0] rfl) hb Zb
   (Qm rfl u_0<|o_p rfl (Zcc Tryd.underlying40 rfl rfl u_0)<|Qm rfl c_i<|o_n) (fun a g hst hb=>?_)
  obtain ⟨z11,hz1,H0⟩:=Ze H0
  refine Zce (fun a w=>∃ (g:G),w=g.w ∧ St 26 [] a g ∧ Base g0 g ∧ (.inr ())=z11) ?_ ?_
  ·rintro a w ⟨g,rfl,hst,hb,rfl⟩
   refine Zm ?_
   refine r_s (T:=[⟨[],_,[],[],[4]⟩]) (F:=[.p 0 0]) hst hb Zb
    (Qa rfl c_b<|o_n) (fun a g hst hb=>?_)
   refine wp_ret ?_
   obtain rfl:=Option.some.inj H0
   exact Zx rfl hst hb (Zf (s:=4)) (hst.at 0 rfl)
  ·refine wp_block ?_
   refine wp_loop_ghost (fun n a w=>∃ (x4:Int) (g:G),w=g.w ∧ St 26 [(15,(Zba.sl.pd a1)),(16,(pInt .i64 (a1.length:Int))),(17,(pInt .i64 x4))] a g ∧ Base g0 g ∧ Zda a1 n x4=some z11) (Int.toNat ((a1.length:Int) - (0:Int)) + 1) ⟨(0:Int),g,rfl,(hst.pick [0,1,2] rfl),hb,hz1⟩ (fun n a w hI=>?_)
   obtain ⟨x4,g,rfl,hst,hb,H1⟩:=hI
   cases n with
   | zero=>exact absurd H1 (by simp [Zda])
   | succ n =>
    rw [Zda] at H1
    refine r_s (T:=[⟨[.o 2,.o 1],_,[],[],[18]⟩]) (F:=[.o 0,.o 1,.o 2,.p 0 0]) hst hb Zb
     (o_p rfl (Zb8 rfl rfl u_0 u_1)<|o_n) (fun a g hst hb=>?_)
    refine wp_seq ?_
    refine wp_cond_split (hst.bool 3 rfl) (fun hc5=>?_) (fun hc5=>?_)
    ·replace H1:=Zp hc5 H1
     refine wp_skip ?_
     refine Zm ?_
     refine wp_seq ?_
     refine wp_block ?_
     obtain ⟨e6,h7,H1⟩:=Ze H1
     refine r_s (L:=[(15,_),(16,_),(17,_)]) (T:=[⟨[.o 0,.o 2],_,[],[],[19]⟩,⟨[.p 0 0],_,[],[0],[20]⟩,⟨[],[(6,(pBox Zba 6 (default:Zv)))],[7],[],[6]⟩,⟨[.p 1 0,.p 2 0],_,[7],[0,1,2],[6]⟩]) (F:=[.p 3 0,.o 0,.o 1,.o 2]) (hst.pick [0,1,2] rfl) hb Zb
      (o_p rfl (Zbp Tryd.underlying40 Zx7 rfl rfl u_0 u_1 h7)<|Ql rfl Zny u_0<|o_p rfl (Zbt (zs:=[.int .i64 0,.int .i64 0,.string ByteArray.empty,.int .i64 0,.float .f64 0,.string ByteArray.empty,.int .i64 0,.int .i64 0,.int .i64 0,.int .i64 0,.float .f64 0,.int .i64 0,.string ByteArray.empty,.slice none 0 0,.bool false]) (by kernel_rfl) (fun g=>Zit g) rfl rfl)<|o_p rfl (Zcg Zny rfl rfl u_1 u_0)<|o_n) (fun a g hst hb=>?_)
     obtain ⟨r8,h9,H1⟩:=Ze H1
     refine r_s (T:=[⟨[.o 0],_,[],[],[21]⟩,⟨[.p 0 0],_,[],[0],[22]⟩,⟨[.p 1 0],_,[],[0,1],[23]⟩,⟨[.p 2 0],_,[],[0,1,2],[24]⟩]) (F:=[.o 1,.o 2,.o 3,.p 3 0]) hst hb Zb
      (Qf rfl Zpi u_0<|Ql rfl Zg3 u_0<|o_p rfl (Zr Z76 (Zpg _ h9) rfl rfl (.cons u_0 .nil))<|o_p rfl (Zcf rfl rfl u_0 c_i)<|o_n) (fun a g hst hb=>?_)
     refine wp_cond_split (hst.bool 3 rfl) (fun hc10=>?_) (fun hc10=>?_)
     ·replace H1:=Zp hc10 H1
      refine r_s (L:=[]) (T:=[⟨[],_,[],[],[4]⟩]) (F:=[.p 0 0]) (hst.pick [] rfl) hb Zb
       (Qa rfl c_b<|o_n) (fun a g hst hb=>?_)
      refine wp_ret ?_
      refine Zw ?_
      refine Zj ?_
      refine Zj ?_
      refine Zw ?_
      refine Zj ?_
      refine Zj ?_
      obtain rfl:=Option.some.inj H1
      obtain rfl:=Option.some.inj H0
      exact Zx rfl hst hb (Zf (s:=4)) (hst.at 0 rfl)
     ·replace H1:=Zq hc10 H1
      refine wp_skip ?_
      refine Zbj ?_
      refine Zm ?_
      refine r_g (L:=[(15,_),(16,_),(17,_)]) (T:=[⟨[.o 2],_,[],[],[25]⟩,⟨[.p 0 0],_,[],[0],[17]⟩]) (F:=[.o 0,.o 1,.p 1 0]) (hst.pick [0,1,2] rfl) hb Zb
       (o_p rfl (Zcs rfl rfl u_0 c_i rfl)<|Qm rfl u_0<|o_n) (fun a g hst hb=>?_)
      exact ⟨n,Nat.lt_succ_self _,(IntKind.i64.wrap (x4 + (1:Int))),g,rfl,(hst.pick [0,1,2] rfl),hb,H1⟩
    ·replace H1:=Zq hc5 H1
     refine wp_exit ?_
     refine Zca ?_
     refine Zca ?_
     refine Zc5 ?_
     exact ⟨g,rfl,(hst.pick [] rfl),hb,Option.some.inj H1⟩
theorem Ziv (a0:Nat) {r:Bool} (h:Zd4 a0=some r):FnOk Tryd.prog 72 [(pFlt a0)] (Z7 r):=by
 have H0:=h
 unfold Zd4 at H0
 clear h
 refine Zbw (N:=6) Tryd.func72 rfl rfl (Qe rfl) rfl rfl (fun a g0 hst hb=>?_)
 refine r_s (T:=[⟨[],_,[],[],[2]⟩]) (F:=[.o 0]) hst hb Zb
  (Qa rfl c_b<|o_n) (fun a g hst hb=>?_)
 refine r_s (T:=[⟨[.o 0],_,[],[],[3]⟩,⟨[.o 0],_,[],[],[4]⟩,⟨[.p 0 0,.p 1 0],_,[],[0,1],[5]⟩,⟨[.p 2 0],_,[],[0,1,2],[2]⟩]) (F:=[.p 3 0]) hst hb Zb
  (Qm rfl u_0<|Qm rfl u_0<|o_p rfl (Zw3 rfl rfl u_0 u_1)<|Qa rfl u_0<|o_n) (fun a g hst hb=>?_)
 refine wp_ret ?_
 obtain rfl:=Option.some.inj H0
 exact Zx rfl hst hb (Zf (s:=2)) (hst.at 0 rfl)
theorem Zkd (a0:Nat) {r:Bool} (h:Zfe a0=some r):FnOk Tryd.prog 80 [(pFlt a0)] (Z7 r):=by
 have H0:=h
 unfold Zfe at H0
 clear h
 refine Zbw (N:=10) Tryd.func80 rfl rfl (Qe rfl) rfl rfl (fun a g0 hst hb=>?_)
 refine r_s (T:=[⟨[],_,[],[],[2]⟩]) (F:=[.o 0]) hst hb Zb
  (Qa rfl c_b<|o_n) (fun a g hst hb=>?_)
 refine wp_seq ?_
 refine r_s (T:=[⟨[.o 0],_,[],[],[3]⟩,⟨[.p 0 0],_,[],[0],[4]⟩]) (F:=[.o 0,.p 1 0]) hst hb Zb
  (Qm rfl u_0<|o_p rfl (Zr3 rfl rfl u_0 c_f)<|o_n) (fun a g hst hb=>?_)
 refine wp_cond_split (hst.bool 1 rfl) (fun hc1=>?_) (fun hc1=>?_)
 ·replace H0:=Zp hc1 H0
  obtain ⟨f2,h3,H0⟩:=Ze H0
  refine r_s (L:=[(0,_)]) (T:=[⟨[.o 0],_,[],[],[5]⟩,⟨[.p 0 0],_,[],[0],[6]⟩,⟨[.p 1 0],_,[],[0,1],[7]⟩,⟨[.p 2 0],_,[],[0,1,2],[2]⟩]) (F:=[.p 3 0]) (hst.pick [0] rfl) hb Zb
   (Qm rfl u_0<|o_p rfl (Z40 rfl rfl c_f u_0 h3)<|o_p rfl (Zsh rfl rfl u_0 c_f)<|Qa rfl u_0<|o_n) (fun a g hst hb=>?_)
  refine wp_ret ?_
  refine Zj ?_
  obtain rfl:=Option.some.inj H0
  exact Zx rfl hst hb (Zf (s:=2)) (hst.at 0 rfl)
 ·replace H0:=Zq hc1 H0
  refine wp_skip ?_
  refine Zm ?_
  refine r_s (L:=[(0,_)]) (T:=[⟨[.o 0],_,[],[],[8]⟩,⟨[.p 0 0],_,[],[0],[9]⟩,⟨[.p 1 0],_,[],[0,1],[2]⟩]) (F:=[.p 2 0]) (hst.pick [0] rfl) hb Zb
   (Qm rfl u_0<|o_p rfl (Zsh rfl rfl u_0 c_f)<|Qa rfl u_0<|o_n) (fun a g hst hb=>?_)
  refine wp_ret ?_
  obtain rfl:=Option.some.inj H0
  exact Zx rfl hst hb (Zf (s:=2)) (hst.at 0 rfl)
theorem Ziu (a0:Nat) (a1:Nat) {r:Bool} (h:Zds a0 a1=some r):FnOk Tryd.prog 63 [(pFlt a0),(pFlt a1)] (Z7 r):=by
 have H0:=h
 unfold Zds at H0
 clear h
 refine Zbw (N:=25) Tryd.func63 rfl rfl (Qe rfl) rfl rfl (fun a g0 hst hb=>?_)
 refine r_s (T:=[⟨[],_,[],[],[4]⟩]) (F:=[.o 0,.o 1]) hst hb Zb
  (Qa rfl c_b<|o_n) (fun a g hst hb=>?_)
 refine wp_seq ?_
 obtain ⟨r1,h2,H0⟩:=Ze H0
 refine r_s (T:=[⟨[.o 0],_,[],[],[5]⟩,⟨[.p 0 0],_,[],[0],[6]⟩]) (F:=[.o 0,.o 1,.p 1 0]) hst hb Zb
  (Qm rfl u_0<|o_p rfl (Zr Zx6 (Ziv _ h2) rfl rfl (.cons u_0 .nil))<|o_n) (fun a g hst hb=>?_)
 refine wp_cond_split (hst.bool 2 rfl) (fun hc3=>?_) (fun hc3=>?_)
 ·replace H0:=Zp hc3 H0
  refine r_s (L:=[]) (T:=[⟨[],_,[],[],[4]⟩]) (F:=[.p 0 0]) (hst.pick [] rfl) hb Zb
   (Qa rfl c_b<|o_n) (fun a g hst hb=>?_)
  refine wp_ret ?_
  refine Zj ?_
  obtain rfl:=Option.some.inj H0
  exact Zx rfl hst hb (Zf (s:=4)) (hst.at 0 rfl)
 ·replace H0:=Zq hc3 H0
  refine wp_skip ?_
  refine Zm ?_
  refine wp_seq ?_
  obtain ⟨r4,h5,H0⟩:=Ze H0
  refine r_s (L:=[(0,_),(1,_)]) (T:=[⟨[.o 1],_,[],[],[7]⟩,⟨[.p 0 0],_,[],[0],[8]⟩]) (F:=[.o 0,.o 1,.p 1 0]) (hst.pick [0,1] rfl) hb Zb
   (Qm rfl u_0<|o_p rfl (Zr Zx6 (Ziv _ h5) rfl rfl (.cons u_0 .nil))<|o_n) (fun a g hst hb=>?_)
  refine wp_cond_split (hst.bool 2 rfl) (fun hc6=>?_) (fun hc6=>?_)
  ·replace H0:=Zp hc6 H0
   refine r_s (L:=[]) (T:=[⟨[],_,[],[],[4]⟩]) (F:=[.p 0 0]) (hst.pick [] rfl) hb Zb
    (Qa rfl c_b<|o_n) (fun a g hst hb=>?_)
   refine wp_ret ?_
   refine Zj ?_
   obtain rfl:=Option.some.inj H0
   exact Zx rfl hst hb (Zf (s:=4)) (hst.at 0 rfl)
  ·replace H0:=Zq hc6 H0
   refine wp_skip ?_
   refine Zm ?_
   refine wp_seq ?_
   refine r_s (L:=[(0,_),(1,_)]) (T:=[⟨[.o 0],_,[],[],[9]⟩,⟨[.p 0 0],_,[],[0],[10]⟩,⟨[.p 1 0],_,[],[0,1],[11]⟩,⟨[.p 2 0,.o 1],_,[],[0,1,2],[12]⟩,⟨[.p 2 0,.p 3 0],_,[],Lr 4,[13]⟩,⟨[.p 2 0,.p 4 0],_,[],Lr 5,[14]⟩]) (F:=[.o 0,.o 1,.p 5 0]) (hst.pick [0,1] rfl) hb Zb
    (Qm rfl u_0<|o_p rfl (Zr3 rfl rfl u_0 c_f)<|Qm rfl u_0<|o_g (Qg_t rfl (fun hG=>Z0 rfl rfl u_0))<|o_g (Qg_t rfl (fun hG=>Zr3 rfl rfl (Opd.gd hG u_0) c_f))<|o_p rfl (Zbi rfl rfl u_0 (fun hz=>(Opd.gd hz u_1)))<|o_n) (fun a g hst hb=>?_)
   refine wp_cond_split (hst.bool 2 rfl) (fun hc7=>?_) (fun hc7=>?_)
   ·replace H0:=Zp hc7 H0
    obtain ⟨r8,h9,H0⟩:=Ze H0;obtain ⟨r10,h11,H0⟩:=Ze H0
    refine r_s (L:=[(0,_),(1,_)]) (T:=[⟨[.o 0],_,[],[],[15]⟩,⟨[.p 0 0],_,[],[0],[16]⟩,⟨[.p 1 0],_,[],[0,1],[17]⟩,⟨[.p 2 0,.o 1],_,[],[0,1,2],[18]⟩,⟨[.p 2 0,.p 3 0],_,[],Lr 4,[19]⟩,⟨[.p 2 0,.p 4 0],_,[],Lr 5,[20]⟩,⟨[.p 2 0,.p 5 0],_,[],Lr 6,[21]⟩,⟨[.p 6 0],_,[],Lr 7,[4]⟩]) (F:=[.p 7 0]) (hst.pick [0,1] rfl) hb Zb
     (Qm rfl u_0<|o_p rfl (Zr Z2z (Zkd _ h9) rfl rfl (.cons u_0 .nil))<|Qm rfl u_0<|o_g (Qg_t rfl (fun hG=>Z0 rfl rfl u_0))<|o_g (Qg_t rfl (fun hG=>Zr Z2z (Zkd _ (Zbs h11 hG)) rfl rfl (.cons (Opd.gd hG u_0) .nil)))<|o_g (Qg_t rfl (fun hG=>Ze5 rfl rfl (Opd.gd hG u_0)))<|o_p rfl (Zbi rfl rfl u_0 (fun hz=>(Opd.gd hz u_1)))<|Qa rfl u_0<|o_n) (fun a g hst hb=>?_)
    refine wp_ret ?_
    refine Zj ?_
    obtain rfl:=Option.some.inj H0
    exact Zx rfl hst hb (Zf (s:=4)) (hst.at 0 rfl)
   ·replace H0:=Zq hc7 H0
    refine wp_skip ?_
    refine Zm ?_
    refine r_s (L:=[(0,_),(1,_)]) (T:=[⟨[.o 0],_,[],[],[22]⟩,⟨[.o 1],_,[],[],[23]⟩,⟨[.p 0 0,.p 1 0],_,[],[0,1],[24]⟩,⟨[.p 2 0],_,[],[0,1,2],[4]⟩]) (F:=[.p 3 0]) (hst.pick [0,1] rfl) hb Zb
     (Qm rfl u_0<|Qm rfl u_0<|o_p rfl (Zsh rfl rfl u_0 u_1)<|Qa rfl u_0<|o_n) (fun a g hst hb=>?_)
    refine wp_ret ?_
    obtain rfl:=Option.some.inj H0
    exact Zx rfl hst hb (Zf (s:=4)) (hst.at 0 rfl)
theorem Zfj (a0:Nat) (a1:Nat) {r:Bool} (h:Zc2 a0 a1=some r):FnOk Tryd.prog 36 [(pFlt a0),(pFlt a1)] (Z7 r):=by
 have H0:=h
 unfold Zc2 at H0
 clear h
 refine Zbw (N:=15) Tryd.func36 rfl rfl (Qe rfl) rfl rfl (fun a g0 hst hb=>?_)
 refine r_s (T:=[⟨[],_,[],[],[4]⟩]) (F:=[.o 0,.o 1]) hst hb Zb
  (Qa rfl c_b<|o_n) (fun a g hst hb=>?_)
 obtain ⟨r1,h2,H0⟩:=Ze H0;obtain ⟨r3,h4,H0⟩:=Ze H0
 refine r_s (T:=[⟨[.o 0],_,[],[],[5]⟩,⟨[.o 1],_,[],[],[6]⟩,⟨[.p 0 0,.p 1 0],_,[],[0,1],[7]⟩,⟨[.p 2 0],_,[],[0,1,2],[8]⟩,⟨[.p 3 0],_,[],Lr 4,[9]⟩,⟨[.p 4 0,.o 1],_,[],Lr 5,[10]⟩,⟨[.p 4 0,.o 0],_,[],Lr 5,[11]⟩,⟨[.p 4 0,.p 5 0,.p 6 0],_,[],Lr 7,[12]⟩,⟨[.p 4 0,.p 7 0],_,[],Lr 8,[13]⟩,⟨[.p 4 0,.p 8 0],_,[],Lr 9,[14]⟩,⟨[.p 9 0],_,[],Lr 10,[4]⟩]) (F:=[.p 10 0]) hst hb Zb
  (Qm rfl u_0<|Qm rfl u_0<|o_p rfl (Zr Zyg (Ziu _ _ h2) rfl rfl (.cons u_0 (.cons u_1 .nil)))<|Qn rfl u_0<|Qm rfl u_0<|o_g (Qg_t rfl (fun hG=>Z0 rfl rfl u_0))<|o_g (Qg_t rfl (fun hG=>Z0 rfl rfl u_0))<|o_g (Qg_t rfl (fun hG=>Zr Zyg (Ziu _ _ (Zbs h4 hG)) rfl rfl (.cons (Opd.gd hG u_0) (.cons (Opd.gd hG u_1) .nil))))<|o_g (Qg_t rfl (fun hG=>Ze5 rfl rfl (Opd.gd hG u_0)))<|o_p rfl (Zbi rfl rfl u_0 (fun hz=>(Opd.gd hz u_1)))<|Qa rfl u_0<|o_n) (fun a g hst hb=>?_)
 refine wp_ret ?_
 obtain rfl:=Option.some.inj H0
 exact Zx rfl hst hb (Zf (s:=4)) (hst.at 0 rfl)
theorem Zkn (a0:Za) (a1:Za) {r:Bool} (h:Zes a0 a1=some r):FnOk Tryd.prog 14 [(Zc.pd a0),(Zc.pd a1)] (Z7 r):=by
 have H0:=h
 unfold Zes at H0
 clear h
 refine Zbw (N:=97) Tryd.func14 rfl rfl (Qe rfl) rfl rfl (fun a g0 hst hb=>?_)
 refine r_s (T:=[⟨[.o 0],_,[],[],[2]⟩,⟨[.o 1],_,[],[],[3]⟩,⟨[],_,[],[],[4]⟩]) (F:=[.p 0 0,.p 1 0]) hst hb Zb
  (Qb rfl u_0<|Qb rfl u_0<|Qa rfl c_b<|o_n) (fun a g hst hb=>?_)
 refine wp_seq ?_
 refine r_s (T:=⟨[.o 0],_,[],[],[6]⟩ :: ⟨[.p 0 0],_,[],[0],[7]⟩ :: ⟨[.o 1],_,[],[],[8]⟩ :: ⟨[.p 2 0],_,[],[2],[9]⟩ :: ⟨[.p 1 0,.p 3 0],_,[],Lr 4,[10]⟩ :: ⟨[.p 4 0],_,[],Lr 5,[11]⟩ :: ⟨[.p 5 0,.o 0],_,[],Lr 6,[12]⟩ :: ⟨[.p 5 0,.p 6 0],_,[],Lr 7,[13]⟩ :: ⟨[.p 5 0,.o 1],_,[],Lr 6,[14]⟩ :: ⟨[.p 5 0,.p 8 0],_,[],[0,1,2,3,4,5,8],[15]⟩ :: ⟨[.p 5 0,.p 7 0,.p 9 0],_,[],Lr 10,[16]⟩ :: ⟨[.p 5 0,.p 10 0],_,[],Lr 11,[17]⟩ :: ⟨[.p 11 0],_,[],Lr 12,[18]⟩ :: ⟨[.p 12 0,.o 0],_,[],Lr 13,[19]⟩ :: ⟨[.p 12 0,.p 13 0],_,[],Lr 14,[20]⟩ :: ⟨[.p 12 0,.o 1],_,[],Lr 13,[21]⟩ :: ⟨[.p 12 0,.p 15 0],_,[],0 :: 1 :: 2 :: 3 :: 4 :: 5 :: 6 :: 7 :: 8 :: 9 :: 10 :: 11 :: 12 :: 15 :: [],[22]⟩ :: ⟨[.p 12 0,.p 14 0,.p 16 0],_,[],Lr 17,[23]⟩ :: ⟨[.p 12 0,.p 17 0],_,[],Lr 18,[24]⟩ :: ⟨[.p 18 0],_,[],Lr 19,[25]⟩ :: ⟨[.p 19 0,.o 0],_,[],Lr 20,[26]⟩ :: ⟨[.p 19 0,.p 20 0],_,[],Lr 21,[27]⟩ :: ⟨[.p 19 0,.o 1],_,[],Lr 20,[28]⟩ :: ⟨[.p 19 0,.p 22 0],_,[],0 :: 1 :: 2 :: 3 :: 4 :: 5 :: 6 :: 7 :: 8 :: 9 :: 10 :: 11 :: 12 :: 13 :: 14 :: 15 :: 16 :: 17 :: 18 :: 19 :: 22 :: [],[29]⟩ :: ⟨[.p 19 0,.p 21 0,.p 23 0],_,[],Lr 24,[30]⟩ :: ⟨[.p 19 0,.p 24 0],_,[],Lr 25,[31]⟩ :: ⟨[.p 25 0],_,[],Lr 26,[32]⟩ :: ⟨[.p 26 0,.o 0],_,[],Lr 27,[33]⟩ :: ⟨[.p 26 0,.p 27 0],_,[],Lr 28,[34]⟩ :: ⟨[.p 26 0,.o 1],_,[],Lr 27,[35]⟩ :: ⟨[.p 26 0,.p 29 0],_,[],0 :: 1 :: 2 :: 3 :: 4 :: 5 :: 6 :: 7 :: 8 :: 9 :: 10 :: 11 :: 12 :: 13 :: 14 :: 15 :: 16 :: 17 :: 18 :: 19 :: 20 :: 21 :: 22 :: 23 :: 24 :: 25 :: 26 :: 29 :: [],[36]⟩ :: ⟨[.p 26 0,.p 28 0,.p 30 0],_,[],Lr 31,[37]⟩ :: ⟨[.p 26 0,.p 31 0],_,[],Lr 32,[38]⟩ :: ⟨[.p 32 0],_,[],Lr 33,[39]⟩ :: ⟨[.p 33 0,.o 0],_,[],Lr 34,[40]⟩ :: ⟨[.p 33 0,.p 34 0],_,[],Lr 35,[41]⟩ :: ⟨[.p 33 0,.o 1],_,[],Lr 34,[42]⟩ :: ⟨[.p 33 0,.p 36 0],_,[],0 :: 1 :: 2 :: 3 :: 4 :: 5 :: 6 :: 7 :: 8 :: 9 :: 10 :: 11 :: 12 :: 13 :: 14 :: 15 :: 16 :: 17 :: 18 :: 19 :: 20 :: 21 :: 22 :: 23 :: 24 :: 25 :: 26 :: 27 :: 28 :: 29 :: 30 :: 31 :: 32 :: 33 :: 36 :: [],[43]⟩ :: ⟨[.p 33 0,.p 35 0,.p 37 0],_,[],Lr 38,[44]⟩ :: ⟨[.p 33 0,.p 38 0],_,[],Lr 39,[45]⟩ :: []) (F:=[.o 0,.o 1,.p 39 0]) hst hb Zb
  (Qf rfl Zdr u_0<|Ql rfl ty_3 u_0<|Qf rfl Zdr u_0<|Ql rfl ty_3 u_0<|o_p rfl (Zdu rfl rfl u_0 u_1)<|Qm rfl u_0<|o_g (Qg_f rfl (fun hG=>Zh Zcl rfl rfl u_0))<|o_g (Qg_f rfl (fun hG=>Zn ty_2 rfl rfl (Opd.gd hG u_0)))<|o_g (Qg_f rfl (fun hG=>Zh Zcl rfl rfl u_0))<|o_g (Qg_f rfl (fun hG=>Zn ty_2 rfl rfl (Opd.gd hG u_0)))<|o_g (Qg_f rfl (fun hG=>Zdu rfl rfl (Opd.gd hG u_0) (Opd.gd hG u_1)))<|o_p rfl (Zbk rfl rfl u_0 (fun hz=>(Opd.gd (bNF hz) u_1)))<|Qm rfl u_0<|o_g (Qg_f rfl (fun hG=>Zh Zg6 rfl rfl u_0))<|o_g (Qg_f rfl (fun hG=>Zn ty_2 rfl rfl (Opd.gd hG u_0)))<|o_g (Qg_f rfl (fun hG=>Zh Zg6 rfl rfl u_0))<|o_g (Qg_f rfl (fun hG=>Zn ty_2 rfl rfl (Opd.gd hG u_0)))<|o_g (Qg_f rfl (fun hG=>Zdu rfl rfl (Opd.gd hG u_0) (Opd.gd hG u_1)))<|o_p rfl (Zbk rfl rfl u_0 (fun hz=>(Opd.gd (bNF hz) u_1)))<|Qm rfl u_0<|o_g (Qg_f rfl (fun hG=>Zh Zg8 rfl rfl u_0))<|o_g (Qg_f rfl (fun hG=>Zn ty_2 rfl rfl (Opd.gd hG u_0)))<|o_g (Qg_f rfl (fun hG=>Zh Zg8 rfl rfl u_0))<|o_g (Qg_f rfl (fun hG=>Zn ty_2 rfl rfl (Opd.gd hG u_0)))<|o_g (Qg_f rfl (fun hG=>Zdu rfl rfl (Opd.gd hG u_0) (Opd.gd hG u_1)))<|o_p rfl (Zbk rfl rfl u_0 (fun hz=>(Opd.gd (bNF hz) u_1)))<|Qm rfl u_0<|o_g (Qg_f rfl (fun hG=>Zh Zfb rfl rfl u_0))<|o_g (Qg_f rfl (fun hG=>Zn ty_3 rfl rfl (Opd.gd hG u_0)))<|o_g (Qg_f rfl (fun hG=>Zh Zfb rfl rfl u_0))<|o_g (Qg_f rfl (fun hG=>Zn ty_3 rfl rfl (Opd.gd hG u_0)))<|o_g (Qg_f rfl (fun hG=>Zdu rfl rfl (Opd.gd hG u_0) (Opd.gd hG u_1)))<|o_p rfl (Zbk rfl rfl u_0 (fun hz=>(Opd.gd (bNF hz) u_1)))<|Qm rfl u_0<|o_g (Qg_f rfl (fun hG=>Zh Zia rfl rfl u_0))<|o_g (Qg_f rfl (fun hG=>Zn ty_9 rfl rfl (Opd.gd hG u_0)))<|o_g (Qg_f rfl (fun hG=>Zh Zia rfl rfl u_0))<|o_g (Qg_f rfl (fun hG=>Zn ty_9 rfl rfl (Opd.gd hG u_0)))<|o_g (Qg_f rfl (fun hG=>Zrw rfl rfl (Opd.gd hG u_0) (Opd.gd hG u_1)))<|o_p rfl (Zbk rfl rfl u_0 (fun hz=>(Opd.gd (bNF hz) u_1)))<|o_n) (fun a g hst hb=>?_)
 refine wp_cond_split (hst.bool 2 rfl) (fun hc1=>?_) (fun hc1=>?_)
 ·replace H0:=Zp hc1 H0
  refine r_s (L:=[]) (T:=[⟨[],_,[],[],[4]⟩]) (F:=[.p 0 0]) (hst.pick [] rfl) hb Zb
   (Qa rfl c_b<|o_n) (fun a g hst hb=>?_)
  refine wp_ret ?_
  refine Zj ?_
  obtain rfl:=Option.some.inj H0
  exact Zx rfl hst hb (Zf (s:=4)) (hst.at 0 rfl)
 ·replace H0:=Zq hc1 H0
  refine wp_skip ?_
  refine Zm ?_
  refine wp_seq ?_
  obtain ⟨r2,h3,H0⟩:=Ze H0
  refine r_s (L:=[(2,_),(3,_)]) (T:=⟨[.o 0],_,[],[],[46]⟩ :: ⟨[.p 0 0],_,[],[0],[47]⟩ :: ⟨[.o 1],_,[],[],[48]⟩ :: ⟨[.p 2 0],_,[],[2],[49]⟩ :: ⟨[.p 1 0,.p 3 0],_,[],Lr 4,[50]⟩ :: ⟨[.p 4 0],_,[],Lr 5,[51]⟩ :: ⟨[.p 5 0],_,[],Lr 6,[52]⟩ :: ⟨[.p 6 0,.o 0],_,[],Lr 7,[53]⟩ :: ⟨[.p 6 0,.p 7 0],_,[],Lr 8,[54]⟩ :: ⟨[.p 6 0,.p 8 0],_,[],Lr 9,[55]⟩ :: ⟨[.p 6 0,.o 1],_,[],Lr 7,[56]⟩ :: ⟨[.p 6 0,.p 10 0],_,[],[0,1,2,3,4,5,6,10],[57]⟩ :: ⟨[.p 6 0,.p 11 0],_,[],[0,1,2,3,4,5,6,10,11],[58]⟩ :: ⟨[.p 6 0,.p 9 0,.p 12 0],_,[],Lr 13,[59]⟩ :: ⟨[.p 6 0,.p 13 0],_,[],Lr 14,[60]⟩ :: []) (F:=[.o 0,.o 1,.p 14 0]) (hst.pick [0,1] rfl) hb Zb
   (Qf rfl Zfd u_0<|Ql rfl Zcv u_0<|Qf rfl Zfd u_0<|Ql rfl Zcv u_0<|o_p rfl (Zr Zq9 (Zfj _ _ h3) rfl rfl (.cons u_0 (.cons u_1 .nil)))<|Qn rfl u_0<|Qm rfl u_0<|o_g (Qg_f rfl (fun hG=>Zh Zb5 rfl rfl u_0))<|o_g (Qg_f rfl (fun hG=>Zn Zc4 rfl rfl (Opd.gd hG u_0)))<|o_g (Qg_f rfl (fun hG=>Zcc Tryd.underlying23 rfl rfl (Opd.gd hG u_0)))<|o_g (Qg_f rfl (fun hG=>Zh Zb5 rfl rfl u_0))<|o_g (Qg_f rfl (fun hG=>Zn Zc4 rfl rfl (Opd.gd hG u_0)))<|o_g (Qg_f rfl (fun hG=>Zcc Tryd.underlying23 rfl rfl (Opd.gd hG u_0)))<|o_g (Qg_f rfl (fun hG=>Zdu rfl rfl (Opd.gd hG u_0) (Opd.gd hG u_1)))<|o_p rfl (Zbk rfl rfl u_0 (fun hz=>(Opd.gd (bNF hz) u_1)))<|o_n) (fun a g hst hb=>?_)
  refine wp_cond_split (hst.bool 2 rfl) (fun hc4=>?_) (fun hc4=>?_)
  ·replace H0:=Zp hc4 H0
   refine r_s (L:=[]) (T:=[⟨[],_,[],[],[4]⟩]) (F:=[.p 0 0]) (hst.pick [] rfl) hb Zb
    (Qa rfl c_b<|o_n) (fun a g hst hb=>?_)
   refine wp_ret ?_
   refine Zj ?_
   obtain rfl:=Option.some.inj H0
   exact Zx rfl hst hb (Zf (s:=4)) (hst.at 0 rfl)
  ·replace H0:=Zq hc4 H0
   refine wp_skip ?_
   refine Zm ?_
   refine wp_seq ?_
   refine r_s (L:=[(2,_),(3,_)]) (T:=[⟨[],_,[],[],[5]⟩]) (F:=[.o 0,.o 1,.p 0 0]) (hst.pick [0,1] rfl) hb Zb
    (Qa rfl c_i<|o_n) (fun a g hst hb=>?_)
   obtain ⟨z18,hz1,H0⟩:=Ze H0
   refine Zce (fun a w=>∃ (g:G),w=g.w ∧ St 97 [] a g ∧ Base g0 g ∧ (.inr ())=z18) ?_ ?_
   ·rintro a w ⟨g,rfl,hst,hb,rfl⟩
    refine Zm ?_
    refine r_s (T:=[⟨[],_,[],[],[4]⟩]) (F:=[.p 0 0]) hst hb Zb
     (Qa rfl c_b<|o_n) (fun a g hst hb=>?_)
    refine wp_ret ?_
    obtain rfl:=Option.some.inj H0
    exact Zx rfl hst hb (Zf (s:=4)) (hst.at 0 rfl)
   ·refine wp_block ?_
    refine wp_loop_ghost (fun n a w=>∃ (x5:Int) (g:G),w=g.w ∧ St 97 [(2,(Zc.ptr a0)),(3,(Zc.ptr a1)),(5,(pInt .i64 x5))] a g ∧ Base g0 g ∧ Zdh a0 a1 n x5=some z18) (Int.toNat ((a0.List.length:Int) - (0:Int)) + 1) ⟨(0:Int),g,rfl,(hst.pick [0,1,2] rfl),hb,hz1⟩ (fun n a w hI=>?_)
    obtain ⟨x5,g,rfl,hst,hb,H1⟩:=hI
    cases n with
    | zero=>exact absurd H1 (by simp [Zdh])
    | succ n =>
     rw [Zdh] at H1
     refine wp_seq ?_
     refine r_s (T:=[⟨[.o 2],_,[],[],[61]⟩,⟨[.o 0],_,[],[],[62]⟩,⟨[.p 1 0],_,[],[1],[63]⟩,⟨[.p 2 0],_,[],[1,2],[64]⟩,⟨[.p 0 0,.p 3 0],_,[],Lr 4,[65]⟩]) (F:=[.o 0,.o 1,.o 2,.p 4 0]) hst hb Zb
      (Qm rfl u_0<|Qf rfl Zb5 u_0<|Ql rfl Zc4 u_0<|o_p rfl (Zcc Tryd.underlying23 rfl rfl u_0)<|o_p rfl (Zb8 rfl rfl u_0 u_1)<|o_n) (fun a g hst hb=>?_)
     refine wp_cond_split (hst.bool 3 rfl) (fun hc6=>?_) (fun hc6=>?_)
     ·replace H1:=Zp hc6 H1
      refine wp_skip ?_
      refine Zm ?_
      refine wp_seq ?_
      refine wp_block ?_
      obtain ⟨e7,h8,H1⟩:=Ze H1;obtain ⟨e9,h10,H1⟩:=Ze H1;obtain ⟨e11,h12,H1⟩:=Ze H1;obtain ⟨e13,h14,H1⟩:=Ze H1;obtain ⟨r15,h16,H1⟩:=Ze H1
      refine r_s (L:=[(2,_),(3,_),(5,_)]) (T:=⟨[.o 0],_,[],[],[68]⟩ :: ⟨[.p 0 0],_,[],[0],[69]⟩ :: ⟨[.o 2],_,[],[],[70]⟩ :: ⟨[.p 1 0,.p 2 0],_,[],[0,1,2],[71]⟩ :: ⟨[.p 3 0],_,[],Lr 4,[72]⟩ :: ⟨[.p 4 0],_,[],Lr 5,[73]⟩ :: ⟨[.o 1],_,[],[],[74]⟩ :: ⟨[.p 6 0],_,[],[6],[75]⟩ :: ⟨[.o 2],_,[],[],[76]⟩ :: ⟨[.p 7 0,.p 8 0],_,[],[6,7,8],[77]⟩ :: ⟨[.p 9 0],_,[],List.range' 6 4,[78]⟩ :: ⟨[.p 10 0],_,[],List.range' 6 5,[79]⟩ :: ⟨[.p 5 0,.p 11 0],_,[],Lr 12,[80]⟩ :: ⟨[.p 12 0],_,[],Lr 13,[81]⟩ :: ⟨[.p 13 0,.o 0],_,[],Lr 14,[82]⟩ :: ⟨[.p 13 0,.p 14 0],_,[],Lr 15,[83]⟩ :: ⟨[.p 13 0,.o 2],_,[],Lr 14,[84]⟩ :: ⟨[.p 13 0,.p 15 0,.p 16 0],_,[],Lr 17,[85]⟩ :: ⟨[.p 13 0,.p 17 0],_,[],Lr 18,[86]⟩ :: ⟨[.p 13 0,.p 18 0],_,[],Lr 19,[87]⟩ :: ⟨[.p 13 0,.o 1],_,[],Lr 14,[88]⟩ :: ⟨[.p 13 0,.p 20 0],_,[],0 :: 1 :: 2 :: 3 :: 4 :: 5 :: 6 :: 7 :: 8 :: 9 :: 10 :: 11 :: 12 :: 13 :: 20 :: [],[89]⟩ :: ⟨[.p 13 0,.o 2],_,[],Lr 14,[90]⟩ :: ⟨[.p 13 0,.p 21 0,.p 22 0],_,[],0 :: 1 :: 2 :: 3 :: 4 :: 5 :: 6 :: 7 :: 8 :: 9 :: 10 :: 11 :: 12 :: 13 :: 20 :: 21 :: 22 :: [],[91]⟩ :: ⟨[.p 13 0,.p 23 0],_,[],0 :: 1 :: 2 :: 3 :: 4 :: 5 :: 6 :: 7 :: 8 :: 9 :: 10 :: 11 :: 12 :: 13 :: 20 :: 21 :: 22 :: 23 :: [],[92]⟩ :: ⟨[.p 13 0,.p 24 0],_,[],0 :: 1 :: 2 :: 3 :: 4 :: 5 :: 6 :: 7 :: 8 :: 9 :: 10 :: 11 :: 12 :: 13 :: 20 :: 21 :: 22 :: 23 :: 24 :: [],[93]⟩ :: ⟨[.p 13 0,.p 19 0,.p 25 0],_,[],Lr 26,[94]⟩ :: ⟨[.p 13 0,.p 26 0],_,[],Lr 27,[95]⟩ :: ⟨[.p 13 0,.p 27 0],_,[],Lr 28,[96]⟩ :: []) (F:=[.o 0,.o 1,.o 2,.p 28 0]) (hst.pick [0,1,2] rfl) hb Zb
       (Qf rfl Zb5 u_0<|Ql rfl Zc4 u_0<|Qm rfl u_0<|o_p rfl (Zbp Tryd.underlying23 Zga rfl rfl u_0 u_1 h8)<|Qf rfl Zed u_0<|Ql rfl ty_9 u_0<|Qf rfl Zb5 u_0<|Ql rfl Zc4 u_0<|Qm rfl u_0<|o_p rfl (Zbp Tryd.underlying23 Zga rfl rfl u_0 u_1 h10)<|Qf rfl Zed u_0<|Ql rfl ty_9 u_0<|o_p rfl (Zrw rfl rfl u_0 u_1)<|Qm rfl u_0<|o_g (Qg_f rfl (fun hG=>Zh Zb5 rfl rfl u_0))<|o_g (Qg_f rfl (fun hG=>Zn Zc4 rfl rfl (Opd.gd hG u_0)))<|o_g (Qg_f rfl (fun hG=>Z0 rfl rfl u_0))<|o_g (Qg_f rfl (fun hG=>Zbp Tryd.underlying23 Zga rfl rfl (Opd.gd hG u_0) (Opd.gd hG u_1) (Zbs h12 hG)))<|o_g (Qg_f rfl (fun hG=>Zh Zet rfl rfl (Opd.gd hG u_0)))<|o_g (Qg_f rfl (fun hG=>Zn Zcv rfl rfl (Opd.gd hG u_0)))<|o_g (Qg_f rfl (fun hG=>Zh Zb5 rfl rfl u_0))<|o_g (Qg_f rfl (fun hG=>Zn Zc4 rfl rfl (Opd.gd hG u_0)))<|o_g (Qg_f rfl (fun hG=>Z0 rfl rfl u_0))<|o_g (Qg_f rfl (fun hG=>Zbp Tryd.underlying23 Zga rfl rfl (Opd.gd hG u_0) (Opd.gd hG u_1) (Zbs h14 hG)))<|o_g (Qg_f rfl (fun hG=>Zh Zet rfl rfl (Opd.gd hG u_0)))<|o_g (Qg_f rfl (fun hG=>Zn Zcv rfl rfl (Opd.gd hG u_0)))<|o_g (Qg_f rfl (fun hG=>Zr Zq9 (Zfj _ _ (Zbs h16 hG)) rfl rfl (.cons (Opd.gd hG u_0) (.cons (Opd.gd hG u_1) .nil))))<|o_g (Qg_f rfl (fun hG=>Ze5 rfl rfl (Opd.gd hG u_0)))<|o_p rfl (Zbk rfl rfl u_0 (fun hz=>(Opd.gd (bNF hz) u_1)))<|o_n) (fun a g hst hb=>?_)
      refine wp_cond_split (hst.bool 3 rfl) (fun hc17=>?_) (fun hc17=>?_)
      ·replace H1:=Zp hc17 H1
       refine r_s (L:=[]) (T:=[⟨[],_,[],[],[4]⟩]) (F:=[.p 0 0]) (hst.pick [] rfl) hb Zb
        (Qa rfl c_b<|o_n) (fun a g hst hb=>?_)
       refine wp_ret ?_
       refine Zw ?_
       refine Zj ?_
       refine Zj ?_
       refine Zw ?_
       refine Zj ?_
       refine Zj ?_
       obtain rfl:=Option.some.inj H1
       obtain rfl:=Option.some.inj H0
       exact Zx rfl hst hb (Zf (s:=4)) (hst.at 0 rfl)
      ·replace H1:=Zq hc17 H1
       refine wp_skip ?_
       refine Zbj ?_
       refine Zm ?_
       refine r_g (L:=[(2,_),(3,_),(5,_)]) (T:=[⟨[.o 2],_,[],[],[66]⟩,⟨[.p 0 0],_,[],[0],[67]⟩,⟨[.p 1 0],_,[],[0,1],[5]⟩]) (F:=[.o 0,.o 1,.p 2 0]) (hst.pick [0,1,2] rfl) hb Zb
        (Qm rfl u_0<|o_p rfl (Zcs rfl rfl u_0 c_i rfl)<|Qa rfl u_0<|o_n) (fun a g hst hb=>?_)
       exact ⟨n,Nat.lt_succ_self _,(IntKind.i64.wrap (x5 + (1:Int))),g,rfl,(hst.pick [0,1,2] rfl),hb,H1⟩
     ·replace H1:=Zq hc6 H1
      refine wp_exit ?_
      refine Zca ?_
      refine Zca ?_
      refine Zc5 ?_
      exact ⟨g,rfl,(hst.pick [] rfl),hb,Option.some.inj H1⟩
theorem Zko (a0:Nat) {r:Bool} (h:Zfk a0=some r):FnOk Tryd.prog 71 [(pFlt a0)] (Z7 r):=by
 have H0:=h
 unfold Zfk at H0
 clear h
 refine Zbw (N:=5) Tryd.func71 rfl rfl (Qe rfl) rfl rfl (fun a g0 hst hb=>?_)
 refine r_s (T:=[⟨[],_,[],[],[2]⟩]) (F:=[.o 0]) hst hb Zb
  (Qa rfl c_b<|o_n) (fun a g hst hb=>?_)
 obtain ⟨r1,h2,H0⟩:=Ze H0
 refine r_s (T:=[⟨[.o 0],_,[],[],[3]⟩,⟨[.p 0 0],_,[],[0],[4]⟩,⟨[.p 1 0],_,[],[0,1],[2]⟩]) (F:=[.p 2 0]) hst hb Zb
  (Qm rfl u_0<|o_p rfl (Zr Zq9 (Zfj _ _ h2) rfl rfl (.cons u_0 (.cons c_f .nil)))<|Qa rfl u_0<|o_n) (fun a g hst hb=>?_)
 refine wp_ret ?_
 obtain rfl:=Option.some.inj H0
 exact Zx rfl hst hb (Zf (s:=2)) (hst.at 0 rfl)
end Go.CL
