/- A part of the proof of WholeTold. -/
import Derived.Test.YtblabgjppapdpaaGreatDoorWholeToldC1
import Derived.Lib.AppendStr
import Derived.Laws.BytesString
import Derived.Defers
import Derived.Recover
import Derived.Lib.Split
import Derived.Lib.SplitLaws
import Derived.Lib.Join
import Derived.Lib.Repeat
import Derived.Lib.ItoaNum
import Derived.Lib.ParseIntB
import Derived.Lib.Strings
set_option linter.unusedVariables false
set_option linter.unusedSimpArgs false
set_option maxRecDepth 100000
namespace Go.CL
open Go Go.RowKit
section
variable {P:Program} {N:Nat} {o:Oper} {uses outs:Z4} {S:List Nat} {d:Nat} {q:Pd} {x y z:Operand} {α β:Type} {dk:Kd α} {t e j:Nat}
def Kd.opt (d:Kd α):Kd (Option α) where
 sz:=1
 ag:=false
 K:=fun g x cs=>(x=none ∧ cs=[.pointer none]) ∨ ∃ v b o cs',x=some v ∧ cs=[.pointer (some ⟨b,o,none⟩)] ∧ d.K g v cs' ∧ CellsAt g b o cs'
 len:=by
   rintro g x cs (⟨_,rfl⟩ | ⟨_,_,_,_,_,rfl,_⟩) <;> rfl
 one:=by
   rintro g x cs (⟨_,rfl⟩ | ⟨_,_,_,_,_,rfl,_⟩) u hu <;> (rw [List.mem_singleton.1 hu];rfl)
 mono:=by
   rintro g g' x cs h (k | ⟨v,b,o,cs',h1,h2,h3,h4⟩)
   · exact .inl k
   · exact .inr ⟨v,b,o,cs',h1,h2,d.mono h h3,h4.mono h⟩
 nag:=fun _=>rfl
theorem Zqc (g:G):(dk.opt.pd none).p g (.pointer none):=⟨_,.inl ⟨rfl,rfl⟩,rfl⟩
theorem Z6z {v:α} {g:G} {u:Value} (h:(dk.ptr v).p g u):(dk.opt.pd (some v)).p g u:=by
 obtain ⟨b,o,cs,rfl,h1,h2⟩:=h
 exact ⟨_,.inr ⟨v,b,o,cs,rfl,rfl,h1,h2⟩,rfl⟩
theorem Z3j {x:Option α} {v:α} (hx:x=some v) {g:G} {u:Value} (h:(dk.opt.pd x).p g u):(dk.ptr v).p g u:=by
 subst hx
 obtain ⟨cs,(⟨h1,_⟩ | ⟨v',b,o,cs',h1,rfl,h2,h3⟩),rfl⟩:=h
 · cases h1
 · obtain rfl:=Option.some.inj h1
   exact ⟨b,o,cs',rfl,h2,h3⟩
theorem Z1t {x:Option α} (g:G) (u:Value) (h:(dk.opt.pd x).p g u):∃ p,u=.pointer p ∧ p.isNone=x.isNone:=by
 obtain ⟨cs,(⟨rfl,rfl⟩ | ⟨v',b,o,cs',rfl,rfl,h2,h3⟩),rfl⟩:=h
 · exact ⟨none,rfl,rfl⟩
 · exact ⟨some _,rfl,rfl⟩
def G.give (g:G) (b:Nat) (hb:b < g.w.heap.size):G:=⟨g.w,fun b' o=>g.pr b' o ∨ b'=b,fun c=>if c=b then 0 else g.own c,fun b' o h=>h.elim (g.hpr b' o) (fun h=>by rw [h];exact hb),g.gl.le (fun _ _ h=>.inl h) (fun _ _ _=>rfl)⟩
theorem Zyr (g:G) (b:Nat) (hb:b < g.w.heap.size):g.le (g.give b hb):=⟨Nat.le_refl _,fun _ _ h=>.inl h,fun _ _ _=>rfl,fun _ _=>rfl⟩
theorem Z0g {g:G} {b j:Nat} (hb:b < g.w.heap.size) (ho:g.own b=j):Step [j] g (g.give b hb) :=
 ⟨Zyr g b hb,rfl,rfl,rfl,fun c hc hn=>by
   have hcb:c ≠ b:=fun h=>hn (by rw [h,ho];exact List.mem_singleton.2 rfl)
   refine ⟨rfl,?_,if_neg hcb⟩
   funext o
   show (g.pr c o ∨ c=b)=_
   simp [hcb],
  fun c h1 h2=>absurd (Nat.lt_of_lt_of_le h2 h1) (Nat.lt_irrefl _),
  fun c hc hn=>by
   show (if c=b then 0 else g.own c)=0 ∨ (if c=b then 0 else g.own c) ∈ _
   split
   · exact .inl rfl
   · exact .inr hn⟩
theorem Z2p {c:Option Nat} {v:α} (hop:o.op=.move x ∨ o.op=.assign x) (hd:o.dst=some d) (hx:Opd uses x (Zbf c dk j v)):OB P N o uses [(d,dk.opt.pd (some v))] [j + 1] :=
 Zke hd fun a g hh=>by
   have hr:(execOp a.eval o).run P g.w=.ok (.value (a.eval x)) g.w:=by rcases hop with h | h <;> simp [execOp,h]
   obtain ⟨b,cs,t',hv,⟨h1,h2,h3,h4,h5,h6⟩,_⟩:=hx a g hh
   refine ⟨a.eval x,g.give b h1,hr,Z0g h1 h2,?_⟩
   rw [hv]
   refine Z6z ⟨b,0,cs,rfl,dk.mono (Zyr g b h1) h5,fun k u hk=>⟨.inr rfl,?_⟩⟩
   show g.w.cell? _=_
   simp only [World.cell?,h4,Nat.zero_add]
   simpa using hk
end
section
variable {P:Program} {N:Nat} {o:Oper} {uses outs:Z4} {S:List Nat} {d:Nat} {q:Pd} {x y z:Operand}
theorem OB.frameU {n:Nat} (h:OB P N o uses outs S) (hs:Opd uses (.tmp n) q) (hq:∀ j ∈ q.fp,j ∉ S) (hn:o.dst ≠ some n):OB P N o uses ((n,q) :: outs) S:=by
 intro a g K Q hN hdN hu hK
 refine h a g K Q hN hdN hu fun v g' hst ho=>hK v g' hst fun e he=>?_
 rcases List.mem_cons.1 he with rfl | he
 · have h2:=q.st hst hq (hs a g hu)
   show q.p g' (Act.at (a.put o.dst v) n)
   rw [Zjq v hn];exact h2
 · exact ho e he
structure Hp (σ:Type) where
 p:G → σ → Prop
 fp:List Nat
 st:∀ {S:List Nat} {g g':G} {s:σ},Step S g g' → (∀ j ∈ fp,j ∉ S) → p g s → p g' s
def hpT {σ:Type}:Hp σ:=⟨fun _ _=>True,[],fun _ _ _=>trivial⟩
def hpL (q:Pd):Hp SlV:=⟨fun g s=>q.p g (slv s),q.fp,fun st hd h=>q.st st hd h⟩
variable {c:Option Nat} {α β γ δ ε σ:Type} {kV:Kd γ} {raw:α → σ → γ} {R R' R2:Hp σ} {dk:Kd β} {di:Kd δ} {dj:Kd ε} {t e j:Nat} {xv:α}
def Zc5 (c:Option Nat) (kV:Kd γ) (raw:α → σ → γ) (R:Hp σ) (j:Nat) (x:α):Pd:=⟨fun g v=>∃ s,(Zbf c kV j (raw x s)).p g v ∧ R.p g s,(j + 1) :: R.fp,fun st hd ⟨s,h1,h2⟩=>⟨s,(Zbf c kV j (raw x s)).st st (fun k hk=>hd k (List.mem_cons.2 (.inl (List.mem_singleton.1 hk)))) h1,R.st st (fun k hk=>hd k (List.mem_cons_of_mem _ hk)) h2⟩⟩
abbrev pBxS (kV:Kd γ) (raw:α → σ → γ) (R:Hp σ) (j:Nat) (x:α):Pd:=Zc5 none kV raw R j x
theorem Zzx {g:G} {v:Value} (hv:(Zc5 c kV raw R j xv).p g v):(Zc5 c kV raw hpT j xv).p g v:=let ⟨s,h1,_⟩:=hv;⟨s,h1,trivial⟩
theorem Z5v {k:Kd α} (hc:∀ g s cs,kV.K g (raw xv s) cs → R.p g s → k.K g xv cs) {g:G} {v:Value} (hv:(Zc5 c kV raw R j xv).p g v):(Zbf c k j xv).p g v:=by
 obtain ⟨s,⟨b,cs,t',e,⟨h1,h2,h3,h4,h5,h6⟩,h7⟩,hR⟩:=hv
 exact ⟨b,cs,t',e,⟨h1,h2,h3,h4,hc g s cs h5 hR,h6⟩,h7⟩
def pPQ (kV:Kd γ) (j off:Nat) (q:Pd):Pd:=⟨fun g v=>∃ w s,(Zeq kV j w off Kd.raw s).p g v ∧ q.p g (slv s),(j + 1) :: q.fp,fun st hd ⟨w,s,h1,h2⟩=>⟨w,s,(Zeq kV j w off Kd.raw s).st st (fun k hk=>hd k (List.mem_cons.2 (.inl (List.mem_singleton.1 hk)))) h1,q.st st (fun k hk=>hd k (List.mem_cons_of_mem _ hk)) h2⟩⟩
theorem Ztl {off:Nat} {g:G} {v:Value} (h:(pPQ kV j off q).p g v):∃ w s1,(Zeq kV j w off Kd.raw s1).p g v:=let ⟨w,s,h1,_⟩:=h;⟨w,s,h1⟩
theorem Zqh {zs:List Value} (s0:σ) (hz:(P.info? t).bind (·.zero)=some (mkV kV.ag zs)) (hk:∀ g,kV.K g (raw xv s0) zs) (hR:∀ g,R.p g s0) (hop:o.op=.alloc t) (hd:o.dst=some d):OB P N o uses [(d,pBxS kV raw R j xv)] [j + 1] :=
 (Zbl hz hk hop hd).weak fun g a h en he=>by
   rw [List.mem_singleton.1 he]
   exact ⟨_,h (d,pBox kV j (raw xv s0)) (List.mem_singleton.2 rfl),hR g⟩
theorem Zjy {s i off:Nat} {pt:Nat} {proj:γ → SlV} {pr:σ → SlV} (hF:Fld P s i kV Kd.raw proj) (ho:(match P.underlying s with | some (.struct F)=>(F[i]?).map (·.offset) | _=>none)=some off) (hu:∀ sv,proj (raw xv sv)=pr sv) (hq:∀ g s,R.p g s → q.p g (slv (pr s))) (hop:o.op=.fieldAddr s (.tmp pt) i) (hd:o.dst=some d) (hx:Opd uses (.tmp pt) (Zc5 c kV raw R j xv)):OB P N o uses [(d,pPQ kV j off q)] [] :=
 OB.at fun a g hh=>by
   obtain ⟨s0,h0,h2⟩:=hx a g hh
   refine ⟨[(N,pAt (slv (pr s0)) q),(pt,Zbf c kV j (raw xv s0))],fun en he=>?_,?_⟩
   · rcases List.mem_cons.1 he with rfl | he
     · exact hq g s0 h2
     · rw [List.mem_singleton.1 he];exact h0
   · intro a' g' K Q hN hdN hu' hK
     have hdl:=hdN d hd
     refine (OB.frame (n:=N) (q:=pAt (slv (pr s0)) q) (Zb5 (c:=c) hF ho hop hd .t0) (fun _ _ h=>by cases h) (by rw [hd];intro h;exact absurd (Option.some.inj h) (Nat.ne_of_lt hdl))).weak (fun g2 a2 h en he=>?_) a' g' K Q hN hdN hu' hK
     rw [List.mem_singleton.1 he]
     have:=h (d,Zeq kV j (raw xv s0) off Kd.raw (proj (raw xv s0))) (by simp)
     rw [hu] at this
     exact ⟨_,pr s0,this,h (N,pAt (slv (pr s0)) q) (by simp)⟩
theorem Zpf {off pt:Nat} (hT:Ty P t Kd.raw) (hop:o.op=.load t (.tmp pt)) (hd:o.dst=some d) (hx:Opd uses (.tmp pt) (pPQ kV j off q)):OB P N o uses [(d,q)] [] :=
 OB.at fun a g hh=>by
   obtain ⟨w,s0,h0,h2⟩:=hx a g hh
   refine ⟨[(N,pAt (slv s0) q),(pt,Zeq kV j w off Kd.raw s0)],fun en he=>?_,?_⟩
   · rcases List.mem_cons.1 he with rfl | he
     · exact h2
     · rw [List.mem_singleton.1 he];exact h0
   · intro a' g' K Q hN hdN hu' hK
     have hdl:=hdN d hd
     refine (OB.frame (n:=N) (q:=pAt (slv s0) q) (Zpa hT hop hd .t0) (fun _ _ h=>by cases h) (by rw [hd];intro h;exact absurd (Option.some.inj h) (Nat.ne_of_lt hdl))).weak (fun g2 a2 h en he=>?_) a' g' K Q hN hdN hu' hK
     rw [List.mem_singleton.1 he]
     have h3:=Z07.1 (h (d,Kd.raw.pd s0) (by simp))
     show q.p g2 (Act.at a2 d)
     rw [h3]
     exact h (N,pAt (slv s0) q) (by simp)
theorem Zqm {off s pt zt : Nat} {x' : α} {upd : σ → SlV → σ} (hT : Ty P t Kd.raw) (hop : o.op = .store t (.tmp pt) (.tmp zt)) (hd : o.dst = none) (hsl : ∀ g v, q.p g v → ∃ s2 : SlV, v = slv s2) (hj : ∀ k ∈ q.fp, k ≠ j + 1) (hj2 : ∀ k ∈ R.fp, k ≠ j + 1) (hs : Opd uses (.tmp s) (Zc5 c kV raw R j xv)) (hx : ∀ (a : Act) g, Zdq uses a g → ∃ w s1, (Zeq kV j w off Kd.raw s1).p g (Act.at a pt)) (hz : Opd uses (.tmp zt) q)
   (hR:∀ g s s2,R.p g s → q.p g (slv s2) → R2.p g (upd s s2)) (hw:∀ g cs s0 s1 ys,kV.K g (raw xv s0) cs → Kd.raw.K g s1 ys → off + ys.length ≤ cs.length ∧ kV.K g (raw x' (upd s0 s1)) (Zt cs off ys)):OB P N o uses [(s,Zc5 c kV raw R2 j x')] [j + 1] :=
 OB.at fun a g hh=>by
   obtain ⟨s0,h0,hR0⟩:=hs a g hh
   obtain ⟨w,s1,h1⟩:=hx a g hh
   have h2:=hz a g hh
   obtain ⟨s2,hv2⟩:=hsl _ _ h2
   refine ⟨[(N,pAt (slv s2) q),(N,⟨fun g _=>R.p g s0,R.fp,fun st hd h=>R.st st hd h⟩),(s,Zbf c kV j (raw xv s0)),(pt,Zeq kV j w off Kd.raw s1),(zt,Kd.raw.pd s2)],fun en he=>?_,?_⟩
   · rcases List.mem_cons.1 he with rfl | he
     · show q.p g (slv s2)
       rw [← hv2];exact h2
     · rcases List.mem_cons.1 he with rfl | he
       · exact hR0
       · rcases List.mem_cons.1 he with rfl | he
         · exact h0
         · rcases List.mem_cons.1 he with rfl | he
           · exact h1
           · rw [List.mem_singleton.1 he];exact Z07.2 hv2
   · refine (OB.frame (n:=N) (q:=pAt (slv s2) q) (OB.frame (n:=N) (q:=⟨fun g _=>R.p g s0,R.fp,fun st hd h=>R.st st hd h⟩) (Zf6 (c:=c) (v':=raw x' (upd s0 s2)) hT hop hd .t0 (.tl .t0) (.tl (.tl .t0)) (fun g cs ys h k=>hw g cs s0 s2 ys h k)) (fun k hk hS=>hj2 k hk (List.mem_singleton.1 hS)) (by rw [hd];simp)) (fun k hk hS=>hj k hk (List.mem_singleton.1 hS)) (by rw [hd];simp)).weak (fun g2 a2 h en he=>?_)
     rw [List.mem_singleton.1 he]
     have k1:R.p g2 s0:=h (N,⟨fun g _=>R.p g s0,R.fp,fun st hd h=>R.st st hd h⟩) (by simp)
     have k2:q.p g2 (slv s2):=h (N,pAt (slv s2) q) (by simp)
     exact ⟨upd s0 s2,h (s,Zbf c kV j (raw x' (upd s0 s2))) (by simp),hR g2 s0 s2 k1 k2⟩
theorem Zf1 {s i off:Nat} {pt:Nat} {proj:γ → δ} {u:δ} (hF:Fld P s i kV di proj) (ho:(match P.underlying s with | some (.struct F)=>(F[i]?).map (·.offset) | _=>none)=some off) (hu:∀ sv,proj (raw xv sv)=u) (hop:o.op=.fieldAddr s (.tmp pt) i) (hd:o.dst=some d) (hx:Opd uses (.tmp pt) (Zc5 c kV raw R j xv)):OB P N o uses [(d,pPX kV j off di u)] [] :=
 OB.at fun a g hh=>by
   obtain ⟨s0,h0,_⟩:=hx a g hh
   refine ⟨[(pt,Zbf c kV j (raw xv s0))],fun en he=>by rw [List.mem_singleton.1 he];exact h0,(Zb5 (c:=c) hF ho hop hd .t0).weak fun g2 a2 h en he=>?_⟩
   rw [List.mem_singleton.1 he]
   have:=h (d,Zeq kV j (raw xv s0) off di (proj (raw xv s0))) (List.mem_singleton.2 rfl)
   rw [hu] at this
   exact ⟨_,this⟩
theorem Ziw {off s pt : Nat} {x' : α} {u u' : δ} (hT : Ty P t di) (hop : o.op = .store t (.tmp pt) z) (hd : o.dst = none) (hj2 : ∀ k ∈ R.fp, k ≠ j + 1) (hs : Opd uses (.tmp s) (Zc5 c kV raw R j xv)) (hx : Opd uses (.tmp pt) (pPX kV j off di u)) (hz : Opd uses z (di.pd u'))
   (hw:∀ g cs s0 ys,kV.K g (raw xv s0) cs → di.K g u' ys → off + ys.length ≤ cs.length ∧ kV.K g (raw x' s0) (Zt cs off ys)):OB P N o uses [(s,Zc5 c kV raw R j x')] [j + 1] :=
 OB.at fun a g hh=>by
   obtain ⟨s0,h0,hR0⟩:=hs a g hh
   obtain ⟨w,h1⟩:=hx a g hh
   have h2:=hz a g hh
   refine ⟨[(N,⟨fun g _=>R.p g s0,R.fp,fun st hd h=>R.st st hd h⟩),(s,Zbf c kV j (raw xv s0)),(pt,Zeq kV j w off di u)] ++ uses,fun en he=>?_,?_⟩
   · rcases List.mem_append.1 he with he | he
     · rcases List.mem_cons.1 he with rfl | he
       · exact hR0
       · rcases List.mem_cons.1 he with rfl | he
         · exact h0
         · rw [List.mem_singleton.1 he];exact h1
     · exact hh en he
   · refine (OB.frame (n:=N) (q:=⟨fun g _=>R.p g s0,R.fp,fun st hd h=>R.st st hd h⟩) (Zf6 (c:=c) (v':=raw x' s0) hT hop hd .t0 (.tl .t0) (.tl (.tl hz)) (fun g cs ys h k=>hw g cs s0 ys h k)) (fun k hk hS=>hj2 k hk (List.mem_singleton.1 hS)) (by rw [hd];simp)).weak (fun g2 a2 h en he=>?_)
     rw [List.mem_singleton.1 he]
     exact ⟨s0,h (s,Zbf c kV j (raw x' s0)) (by simp),h (N,⟨fun g _=>R.p g s0,R.fp,fun st hd h=>R.st st hd h⟩) (by simp)⟩
theorem Zpq {k:Kd α} (hc:∀ g s cs,kV.K g (raw xv s) cs → R.p g s → k.K g xv cs) (hT:Ty P t k) (hop:o.op=.load t x) (hd:o.dst=some d) (hx:Opd uses x (Zc5 c kV raw R j xv)):OB P N o uses [(d,k.pd xv)] [] :=
 Znc (c:=c) hT hop hd (hx.imp fun _ _ h=>Z5v hc h)
theorem Zo8 {k:Kd α} {s:Nat} {x':α} (hkz:k.sz=kV.sz) (hT:Ty P t k) (hop:o.op=.store t (.tmp s) z) (hd:o.dst=none) (hx:Opd uses (.tmp s) (Zc5 c kV raw R j xv)) (hz:Opd uses z (k.pd x')):OB P N o uses [(s,Zbf c k j x')] [j + 1] :=
 Zoh hd fun a g hh=>by
   obtain ⟨s0,⟨b,cs,t',hv,hm,hcb⟩,_⟩:=hx a g hh
   obtain ⟨ys,hk,hw⟩:=hz a g hh
   have hl:ys.length=cs.length:=(k.len hk).trans (hkz.trans (kV.len hm.2.2.2.2.1).symm)
   have hst:=Zgf (off:=0) hT hm.2.2.2.1 hk (by simp [hl])
   have hv':Act.at a s=.pointer (some ⟨b,0,none⟩):=hv
   have hs:Step [j + 1] g (g.wr b ys.toArray hm.1 hm.2.2.2.2.2 (fun _=>False) (j + 1)):=Zmn hm.2.1 (.inr rfl) hm.2.2.2.2.2
   refine ⟨g.wr b ys.toArray hm.1 hm.2.2.2.2.2 (fun _=>False) (j + 1),?_,hs,?_⟩
   · simp only [Nat.zero_add,List.take_zero,List.nil_append] at hst
     rw [List.drop_of_length_le (by simp [hl]),List.append_nil] at hst
     simp [execOp,hop,hv,hw,Instr.storeAt,Instr.sureAddr,hst,wr_w]
   · intro e he
     rw [List.mem_singleton.1 he]
     refine ⟨b,ys,t',hv',⟨by rw [wr_w,Zff];exact hm.1,by simp [G.wr],fun b' hb' ho=>?_,by rw [wr_w];exact setRow_heap _ _ _ _ _ _ hm.2.2.2.1,k.mono hs.le hk,fun o=>by simp [G.wr]⟩,hcb⟩
     rw [wr_w,Zff] at hb'
     simp only [G.wr] at ho
     split at ho
     · assumption
     · exact hm.2.2.1 b' hb' ho
theorem Zth {α:Type} {dk:Kd α} {e j:Nat} {xs:List α} {g:G} {v:Value} (h:(pRow dk e j xs).p g v):∃ s:SlV,v=slv s:=by
 obtain ⟨A,c,hv,_⟩:=Kd.sl_V.1 h.1
 exact ⟨(A,xs.length,c),hv⟩
theorem Zv7 {α:Type} {dk:Kd α} {xs:List α} {g:G} {s:SlV} {cs:List Value} (h:Kd.raw.K g s cs) (hv:dk.sl.V g xs (slv s)):dk.sl.K g xs cs:=by
 have h1:cs=[slv s]:=h
 obtain ⟨cs',h2,h3⟩:=hv
 have hl:=dk.sl.len h2
 obtain ⟨u,rfl⟩:=List.length_eq_one_iff.1 hl
 have:slv s=u:=h3
 rw [h1,this];exact h2
end
structure ObR (α:Type) where
 R:G → Nat → (Nat → Prop) → α → Prop
 st:∀ {g g':G} {b:Nat} {B:Nat → Prop} {x:α},R g b B x → g.le g' → (∀ c,c=b ∨ B c → g'.w.heap[c]?=g.w.heap[c]? ∧ g'.pr c=g.pr c) → R g' b B x
def ptrB (b off:Nat):Value:=.pointer (some ⟨b,off,none⟩)
section
variable {P:Program} {N:Nat} {o:Oper} {uses outs:Z4} {S:List Nat} {d:Nat} {q q2:Pd} {x y z:Operand} {α β γ δ ε σ:Type} {kV:Kd γ} {raw:α → σ → γ} {R R2:Hp σ} {dk:Kd β} {di:Kd δ} {t e j b off m:Nat} {xv:α}
abbrev PF (P:Program) (s i off:Nat):Prop:=(match P.underlying s with | some (.struct F)=>(F[i]?).bind fun f=>(P.info? f.type).map fun y=>(f.offset,y.size == 0) | _=>none)=some (off,false)
theorem Zkg {s i off2:Nat} (hF:PF P s i off2) (hop:o.op=.fieldAddr s x i) (hd:o.dst=some d) (hx:Opd uses x (pEq (ptrB b off))):OB P N o uses [(d,pEq (ptrB b (off + off2)))] [] :=
 Zce hd fun a g hh=>by
   have hv:a.eval x=.pointer (some ⟨b,off,none⟩):=hx a g hh
   unfold PF at hF
   cases hu:P.underlying s with
   | none=>rw [hu] at hF;cases hF
   | some u =>
     rw [hu] at hF
     cases u with
     | struct F =>
       obtain ⟨f,hi,h2⟩:=Option.bind_eq_some_iff.1 hF
       obtain ⟨y,hy,h3⟩:=Option.map_eq_some_iff.1 h2
       simp only [Prod.mk.injEq,beq_eq_false_iff_ne] at h3
       obtain ⟨h4,h5⟩:=h3
       subst h4
       have hs:(P.info? f.type).map (·.size)=some y.size:=by rw [hy];rfl
       exact ⟨ptrB b (off + f.offset),by simp [execOp,hop,hv,Instr.fieldAt,Instr.sureAddr,run_underlying hu,hi,Zlo hs h5,ptrB],rfl⟩
     | _=>cases hF
end
end Go.CL
namespace Go.CL
open Go Go.RowKit Go.Lib
section
variable {P:Program} {N:Nat} {o:Oper} {uses:Z4} {d:Nat} {q:Pd} {x y z:Operand} {α β γ:Type} {kV:Kd γ} {raw:α → SlV → γ} {lst:α → List β} {dk:Kd β} {e b j m:Nat} {x0 x1:α}
section
variable {k:Kd α} {di:Kd β} {v v':α} {u u':β} {t off:Nat}
abbrev pRB (k:Kd α) (j b:Nat) (v:α):Pd:=pAt (ptrB b 0) (Zbf (some b) k j v)
theorem Zxs {g:G} {w:Value} (h:(pRB k j b v).p g w):∃ cs t,Mine k (j + 1) v g b cs t:=by
 obtain ⟨b',cs,t,_,hm,hc⟩:=h
 obtain rfl:=hc b rfl
 exact ⟨cs,t,hm⟩
theorem Zz1 {g:G} {w:Value} {cs:List Value} {t:TypeId} (hm:Mine k (j + 1) v g b cs t):(pRB k j b v).p g w:=⟨b,cs,t,rfl,hm,fun _ h=>Option.some.inj h⟩
theorem Zoj {g:G} {w:Value} (h:(pRB k j b v).p g w):Zvl k v g b:=Z0w (show (Zbf (some b) k j v).p g (ptrB b 0) from h)
theorem Zl3 {a:Act} {g:G} {L:Z4} (h:St N ((0,Zbf (some b) k j v) :: L) a g):St N ((0,pEq (ptrB b 0)) :: (L ++ [(1002,pRB k j b v)])) a g:=⟨h.size,h.df,fun en he=>by
 obtain ⟨b',cs,t,e1,hm,hc⟩:=h.h (0,Zbf (some b) k j v) (List.mem_cons_self ..)
 obtain rfl:=hc b rfl
 rcases List.mem_cons.1 he with rfl | he
 · exact e1
 · rcases List.mem_append.1 he with he | he
   · exact h.h en (List.mem_cons_of_mem _ he)
   · rw [List.mem_singleton.1 he];exact Zz1 hm⟩
theorem Zls (hT:Ty P t di) (hk:∀ (g:G) (cs:List Value),k.K g v cs → di.K g u (seg cs off di.sz)) (hop:o.op=.load t x) (hd:o.dst=some d) (hs:Opd uses (.tmp m) (pRB k j b v)) (hx:Opd uses x (pEq (ptrB b off))):OB P N o uses [(d,di.pd u)] [] :=
 Zce hd fun a g hh=>by
   obtain ⟨cs,t',hm⟩:=Zxs (hs a g hh)
   have hv:a.eval x=.pointer (some ⟨b,off,none⟩):=hx a g hh
   have hu:=hk g cs hm.2.2.2.2.1
   refine ⟨mkV di.ag (seg cs off di.sz),?_,_,hu,rfl⟩
   have:=Zkk (b:=b) (of:=off) hT hu (fun i u hu=>by
     refine Zni hm (off + i) u ?_
     simp only [seg,List.getElem?_take,List.getElem?_drop] at hu
     split at hu
     · exact hu
     · cases hu)
   simp [execOp,hop,hv,Instr.loadAt,Instr.sureAddr,this]
theorem Zxm (hT : Ty P t di) (hop : o.op = .store t x z) (hd : o.dst = none) (hs : Opd uses (.tmp m) (pRB k j b v)) (hx : Opd uses x (pEq (ptrB b off))) (hz : Opd uses z (di.pd u'))
   (hw:∀ (g:G) (cs ys:List Value),k.K g v cs → di.K g u' ys → off + ys.length ≤ cs.length ∧ k.K g v' (Zt cs off ys)):OB P N o uses [(m,pRB k j b v')] [j + 1] :=
 Zoh hd fun a g hh=>by
   obtain ⟨cs,t',hm⟩:=Zxs (hs a g hh)
   have hv:a.eval x=.pointer (some ⟨b,off,none⟩):=hx a g hh
   obtain ⟨ys,hk,hwv⟩:=hz a g hh
   obtain ⟨hfit,hK⟩:=hw g cs ys hm.2.2.2.2.1 hk
   have hst:=Zgf (off:=off) hT hm.2.2.2.1 hk (by simpa using hfit)
   refine ⟨g.wr b (Zt cs off ys).toArray hm.1 hm.2.2.2.2.2 (fun _=>False) (j + 1),?_,Zmn hm.2.1 (.inr rfl) hm.2.2.2.2.2,fun e he=>?_⟩
   · simp [execOp,hop,hv,hwv,Instr.storeAt,Instr.sureAddr,hst,wr_w,Zt]
   · rw [List.mem_singleton.1 he]
     exact Zz1 (Zt6 hm hK)
theorem Zd3 {f : FuncId} {xs : List Operand} {A : List Pd} {ty : Array TypeId} (he : Zk P f) (hok : FnB P f (.box k v v' :: A.map .val) q) (hop : o.op = .call { callee := .value (.func f), args := (x :: xs).toArray, argTypes := ty }) (hd : o.dst = some d) (hq : q.fp = []) (hmd : m ≠ d)
   (hs:Opd uses (.tmp m) (pRB k j b v)) (hx:Opd uses x (pEq (ptrB b 0))) (hargs:OpdL uses xs A):OB P N o uses [(d,q),(m,pRB k j b v')] [j + 1]:=by
 intro a g K Q hN hdN hu hK
 obtain ⟨cs,t',hm⟩:=Zxs (hs a g hu)
 have hv:a.eval x=.pointer (some ⟨b,0,none⟩):=hx a g hu
 have hr:(execOp a.eval o).run P g.w=.ok (.enter f (Value.pointer (some ⟨b,0,none⟩) :: xs.map a.eval).toArray) g.w:=by
   simp [execOp,hop,resolve,Zq3,Deferred.ofValue,invoke,Zjp he,hv]
 have vals:∀ {A:List Pd} {vs:List Value},ArgsOk A g vs → ParsOk g (A.map .val) vs []:=by
   intro A
   induction A with
   | nil=>intro vs h;cases vs with
     | nil=>trivial
     | cons v vs=>simpa using h.1
   | cons q A ih=>intro vs h;cases vs with
     | nil=>simpa using h.1
     | cons v vs=>exact ⟨h.2 0 q v rfl rfl,ih ⟨by simpa using h.1,fun i qi u h1 h2=>h.2 (i + 1) qi u (by simpa using h1) (by simpa using h2)⟩⟩
 unfold Oper.wp
 rw [hr]
 show Calls P f _ g.w _
 refine Calls.mono (hok g (Value.pointer (some ⟨b,0,none⟩) :: xs.map a.eval) [b] ⟨rfl,⟨hm.1,⟨cs,t',hm.2.2.2.1,hm.2.2.2.2.1⟩,hm.2.2.2.2.2⟩,by simp,vals (hargs.ok hu)⟩) ?_
 rintro en w' ⟨g',r,rfl,rfl,hS,⟨⟨m1,⟨cs',t2,m2,m3⟩,m4⟩,_⟩,hqv⟩
 let g2:G:=⟨g'.w,g'.pr,fun c=>if c < g.w.heap.size then g.own c else 0,g'.hpr,g'.gl⟩
 have hle:g'.le g2:=⟨Nat.le_refl _,fun _ _ h=>h,fun _ _ _=>rfl,fun _ _=>rfl⟩
 have hown:∀ c,g2.own c=if c < g.w.heap.size then g.own c else 0:=fun _=>rfl
 refine hK r g2 ⟨⟨hS.le.size,hS.le.pr,hS.le.cell,hS.le.blk⟩,hS.os,hS.tape,hS.output,fun c hc hn=>?_,fun c k1 k2=>.inl (by rw [hown,if_neg (by omega)]),fun c hc hn=>.inr (by rw [hown,if_pos hc];exact hn)⟩ fun en he'=>?_
 · have hc1:c ∉ [b]:=fun h=>hn (by rw [List.mem_singleton.1 h,hm.2.1];simp)
   obtain ⟨k1,k2⟩:=hS.same c hc hc1
   exact ⟨k1,k2,by rw [hown,if_pos hc]⟩
 · rcases List.mem_cons.1 he' with rfl | he'
   · rw [hd,Zfy r (by rw [hN];exact hdN d hd)]
     exact Pd.le hq hle rfl rfl rfl hqv
   · rw [List.mem_singleton.1 he']
     refine Zz1 (cs:=cs') (t:=t2) ⟨m1,by rw [hown,if_pos hm.1];exact hm.2.1,fun c hc ho=>?_,m2,k.mono hle m3,m4⟩
     rw [hown] at ho
     split at ho
     · rename_i hlt;exact hm.2.2.1 c hlt ho
     · omega
end
end
section
variable {P:Program} {N:Nat} {o:Oper} {uses:Z4} {d:Nat} {q:Pd} {x y z:Operand} {t e j:Nat}
def bts (s:ByteArray):List Int:=s.data.toList.map fun b=>(b.toNat:Int)
theorem Zln (s:ByteArray):(bts s).length=s.size:=by rw [bts,List.length_map,Array.length_toList];rfl
end
end Go.CL
namespace Go.CL
open Go Go.RowKit
inductive RB where
 | o (p:Nat)
 | b (i k:Nat)
instance (n:Nat):OfNat RB n:=⟨cond (Nat.beq (n % 10) 5) (.o (n / 10)) (.b (n / 10) (n % 10))⟩
structure Sp where
 refs:List RB
 outs:Z4
 S:List Nat
def kth (X:Option Sp) (k:Nat):Nat × Pd:=((X.map (·.outs)).getD []).getD k (0,pAny)
def refA (L:Z4) (acc:List Sp):RB → Nat × Pd
 | .o p=>L.getD p (0,pAny)
 | .b i k=>kth acc[i]? k
def refE (L:Z4) (T:List Sp):RB → Nat × Pd
 | .o p=>L.getD p (0,pAny)
 | .b j k=>kth T[j]? k
def absR (L:Z4) (x:Nat):RB → Ref
 | .o p=>.old p
 | .b i k=>bif decide (i < x) then .op (x - 1 - i) k else .old L.length
def absE:RB → Ref
 | .o p=>.old p
 | .b j k=>.op j k
def Z1z (ms:List Nat) (o:Oper):Nat:=(Zlz o).foldl (fun m j=>m ||| ((1 <<< j) ||| ms.getD j 0)) 0
def Zpe (L all:Z4):List Oper → List Nat → List Sp → List Spec
 | o :: os,ms,X :: Xs=>⟨X.refs.map (absR L ms.length),X.outs,X.S,(List.range ms.length).filter (fun j=>(Z1z ms o).testBit j),o.dst.toList ++ X.outs.map (·.1) ++ (bif X.S.isEmpty then [] else (all.filter fun e=>e.2.fp.any X.S.contains).map (·.1))⟩ :: Zpe L all os (ms ++ [Z1z ms o]) Xs
 | _,_,_=>[]
section
variable {P:Program} {N:Nat} {ops:Array Oper} {L:Z4} {T:List Sp} {F:List RB} {o:Oper} {os:List Oper} {X:Sp} {Xs acc:List Sp} {uses outs:Z4} {S:List Nat} {d j s:Nat} {q:Pd} {D:List Deferred}
def AllA (P:Program) (ops:Array Oper) (N:Nat) (L:Z4):List Sp → List Oper → List Sp → Prop
 | acc,o :: os,X :: Xs=>OT P ops N o (X.refs.map (refA L acc)) X.outs X.S ∧ AllA P ops N L (X :: acc) os Xs
 | _,[],[]=>True
 | _,_,_=>False
theorem Zwu:∀ {os:List Oper} {Xs acc:List Sp},AllA P ops N L acc os Xs → Xs.length=os.length
 | _ :: _,_ :: _,_,h=>by simp [Zwu h.2]
 | [],[],_,_=>rfl
 | [],_ :: _,_,h=>h.elim
 | _ :: _,[],_,h=>h.elim
theorem Zsx {all:Z4}:∀ {os:List Oper} {Xs:List Sp} {ms:List Nat} (j:Nat),Xs.length=os.length → ((Zpe L all os ms Xs)[j]?).map (·.outs)=(Xs[j]?).map (·.outs)
 | _ :: _,X :: Xs,ms,0,_=>rfl
 | _ :: _,X :: Xs,ms,j + 1,h=>by
   simp only [List.length_cons] at h
   simp only [Zpe,List.getElem?_cons_succ]
   exact Zsx j (Nat.succ.inj h)
 | [],[],_,j,_=>by simp [Zpe]
 | [],_ :: _,_,_,h=>by simp at h
 | _ :: _,[],_,_,h=>by simp at h
theorem Zys {T':List Spec} {Y:Option Sp} {j k:Nat} (h:(T'[j]?).map (·.outs)=Y.map (·.outs)):Zmf T' j k=kth Y k:=by unfold Zmf kth;rw [h]
theorem Z45 {T':List Spec} (hT:∀ j:Nat,(T'[j]?).map (·.outs)=(T[j]?).map (·.outs)) (hacc:∀ i:Nat,i < acc.length → acc[i]?=T[acc.length - 1 - i]?) (r:RB):Zeb L T' (absR L acc.length r)=refA L acc r:=by
 cases r with
 | o p=>rfl
 | b i k =>
   by_cases h:i < acc.length
   · have e:absR L acc.length (.b i k)=.op (acc.length - 1 - i) k:=by simp [absR,h]
     rw [e]
     show Zmf T' _ k=kth acc[i]? k
     rw [Zys (hT _),hacc i h]
   · have e:absR L acc.length (.b i k)=.old L.length:=by simp [absR,h]
     rw [e]
     show L.getD L.length (0,pAny)=kth acc[i]? k
     rw [List.getElem?_eq_none (by omega)]
     simp [kth]
theorem Z53 {T':List Spec} (hT:∀ j:Nat,(T'[j]?).map (·.outs)=(T[j]?).map (·.outs)) (r:RB):Zeb L T' (absE r)=refE L T r:=by
 cases r with
 | o p=>rfl
 | b j k=>exact Zys (hT j)
theorem Zv5 {all:Z4} {T':List Spec} (hT:∀ j:Nat,(T'[j]?).map (·.outs)=(T[j]?).map (·.outs)):∀ {os:List Oper} {Xs acc:List Sp} {ms:List Nat},ms.length=acc.length → T=acc.reverse ++ Xs → AllA P ops N L acc os Xs → AllOT P ops N L T' os (Zpe L all os ms Xs)
 | o :: os,X :: Xs,acc,ms,hm,he,h=>by
   refine ⟨?_,Zv5 hT (by simp [hm]) (by rw [he];simp) h.2⟩
   have hacc:∀ i:Nat,i < acc.length → acc[i]?=T[acc.length - 1 - i]?:=fun i hi=>by
     rw [he,List.getElem?_append_left (by simp;omega),List.getElem?_reverse (by omega)]
     congr 1;omega
   show OT P ops N o ((X.refs.map (absR L ms.length)).map (Zeb L T')) X.outs X.S
   rw [List.map_map,hm,show (Zeb L T' ∘ absR L acc.length)=refA L acc from funext fun r=>Z45 hT hacc r]
   exact h.1
 | [],[],_,_,_,_,_=>trivial
 | [],_ :: _,_,_,_,_,h=>h.elim
 | _ :: _,[],_,_,_,_,h=>h.elim
def chkA (N:Nat) (ops:Array Oper) (L:Z4) (T:List Sp) (F:List RB):Bool:=chk N ops L (Zpe L (L ++ T.flatMap (·.outs)) ops.toList [] T) (F.map absE)
theorem r_b (F : List RB) {id : Nat} {draw : Bool} {g0 : G} {a : Act} {g : G} {Q : Exit → Act → World → Prop} (h : StD D N L a g) (hb : Base g0 g) (hm : P.follows .mixedOrders = true) (hT : AllA P ops N L [] ops.toList T)
   (hQ:∀ a g,StD D N (F.map (refE L T)) a g → Base g0 g → Q .normal a g.w) (hc:chkA N ops L T F=true:=by kernel_rfl):(Code.region id ops draw).wp P Q a g.w:=by
 have hl:=Zwu hT
 have hT':=fun j=>Zsx (L:=L) (all:=L ++ T.flatMap (·.outs)) (ms:=[]) (Xs:=T) (os:=ops.toList) j hl
 refine Zms hm hc (Zv5 hT' rfl rfl hT) h hb fun a g hst hb=>hQ a g ?_ hb
 rw [List.map_map,show (Zeb L (Zpe L (L ++ T.flatMap (·.outs)) ops.toList [] T) ∘ absE)=refE L T from funext fun r=>Z53 hT' r] at hst
 exact hst
theorem r_a (F : List RB) {id : Nat} {draw : Bool} {g0 : G} {a : Act} {g : G} {Q : Exit → Act → World → Prop} {y : Code} (h : StD D N L a g) (hb : Base g0 g) (hm : P.follows .mixedOrders = true) (hT : AllA P ops N L [] ops.toList T)
   (hQ:∀ a g,StD D N (F.map (refE L T)) a g → Base g0 g → y.wp P Q a g.w) (hc:chkA N ops L T F=true:=by kernel_rfl):(Code.seq (Code.region id ops draw) y).wp P Q a g.w:=wp_seq (r_b F h hb hm hT hQ hc)
theorem a_p (r:List RB) (hg:o.guard=none) (h:OB P N o (r.map (refA L acc)) outs S) (hs:AllA P ops N L (⟨r,outs,S⟩ :: acc) os Xs):AllA P ops N L acc (o :: os) (⟨r,outs,S⟩ :: Xs):=⟨.plain hg h,hs⟩
theorem a_g (r:List RB) (h:OT P ops N o (r.map (refA L acc)) outs S) (hs:AllA P ops N L (⟨r,outs,S⟩ :: acc) os Xs):AllA P ops N L acc (o :: os) (⟨r,outs,S⟩ :: Xs):=⟨h,hs⟩
theorem a_n:AllA P ops N L acc [] []:=trivial
theorem Am (r:RB) (h:(o.guard,o.op,o.dst,refA L acc r)=(none,.move (.tmp s),some d,(s,q))) (hs:AllA P ops N L (⟨[r],[(d,q)],[]⟩ :: acc) os Xs):AllA P ops N L acc (o :: os) (⟨[r],[(d,q)],[]⟩ :: Xs):=by
 simp only [Prod.mk.injEq] at h
 exact a_p [r] h.1 (Zq h.2.1 h.2.2.1 (by rw [List.map_cons,show refA L acc r=(s,q) from h.2.2.2];exact u_0)) hs
theorem Aa (r:RB) (h:(o.guard,o.op,o.dst,refA L acc r)=(none,.assign (.tmp s),some d,(s,q))) (hs:AllA P ops N L (⟨[r],[(d,q)],[]⟩ :: acc) os Xs):AllA P ops N L acc (o :: os) (⟨[r],[(d,q)],[]⟩ :: Xs):=by
 simp only [Prod.mk.injEq] at h
 exact a_p [r] h.1 (Zd h.2.1 h.2.2.1 (by rw [List.map_cons,show refA L acc r=(s,q) from h.2.2.2];exact u_0)) hs
variable {α β:Type} {dk:Kd α} {di:Kd β} {t i jj off:Nat} {v:α} {z:β} {pj:α → β} {c:Option Nat}
theorem Al (hT:Ty P t dk) (r:RB) (h:(o.guard,o.op,o.dst,refA L acc r)=(none,.load t (.tmp s),some d,(s,dk.ptr v))) (hs:AllA P ops N L (⟨[r],[(d,dk.pd v)],[]⟩ :: acc) os Xs):AllA P ops N L acc (o :: os) (⟨[r],[(d,dk.pd v)],[]⟩ :: Xs):=by
 simp only [Prod.mk.injEq] at h
 exact a_p [r] h.1 (Zs hT h.2.1 h.2.2.1 (by rw [List.map_cons,show refA L acc r=(s,dk.ptr v) from h.2.2.2];exact u_0)) hs
theorem Af (hF:Fld P t i dk di pj) (r:RB) (h:(o.guard,o.op,o.dst,refA L acc r)=(none,.fieldAddr t (.tmp s) i,some d,(s,dk.ptr v))) (hs:AllA P ops N L (⟨[r],[(d,di.ptr (pj v))],[]⟩ :: acc) os Xs):AllA P ops N L acc (o :: os) (⟨[r],[(d,di.ptr (pj v))],[]⟩ :: Xs):=by
 simp only [Prod.mk.injEq] at h
 exact a_p [r] h.1 (Zi hF h.2.1 h.2.2.1 (by rw [List.map_cons,show refA L acc r=(s,dk.ptr v) from h.2.2.2];exact u_0)) hs
theorem AM (hT:Ty P t dk) (r:RB) (h:(o.guard,o.op,o.dst,refA L acc r)=(none,.load t (.tmp s),some d,(s,Zbf c dk jj v))) (hs:AllA P ops N L (⟨[r],[(d,dk.pd v)],[]⟩ :: acc) os Xs):AllA P ops N L acc (o :: os) (⟨[r],[(d,dk.pd v)],[]⟩ :: Xs):=by
 simp only [Prod.mk.injEq] at h
 exact a_p [r] h.1 (Znc (c:=c) hT h.2.1 h.2.2.1 (by rw [List.map_cons,show refA L acc r=(s,Zbf c dk jj v) from h.2.2.2];exact u_0)) hs
theorem AP (hT:Ty P t di) (r:RB) (h:(o.guard,o.op,o.dst,refA L acc r)=(none,.load t (.tmp s),some d,(s,Zeq dk jj v off di z))) (hs:AllA P ops N L (⟨[r],[(d,di.pd z)],[]⟩ :: acc) os Xs):AllA P ops N L acc (o :: os) (⟨[r],[(d,di.pd z)],[]⟩ :: Xs):=by
 simp only [Prod.mk.injEq] at h
 exact a_p [r] h.1 (Zpa hT h.2.1 h.2.2.1 (by rw [List.map_cons,show refA L acc r=(s,Zeq dk jj v off di z) from h.2.2.2];exact u_0)) hs
end
section
variable {P:Program} {N:Nat} {o:Oper} {uses outs:Z4} {S:List Nat} {d:Nat} {q:Pd} {x y z:Operand}
def bstr (xs:List Int):ByteArray:=xs.foldl (fun r n=>r.push (UInt8.ofNat n.toNat)) ByteArray.empty
theorem Zy1 {src dst e:TypeId} {xs:List Int} (hs:P.underlying src=some (.slice e)) (he:P.underlying e=some (.int .u8)) (hd':P.underlying dst=some .string) (hop:o.op=.convert src dst x) (hd:o.dst=some d) (hx:Opd uses x ((Kd.int .u8).sl.pd xs)):OB P N o uses [(d,pStr (bstr xs))] [] :=
 Zce hd fun a g hh=>by
   obtain ⟨A,c,hv,h1,h2,hR⟩:=Kd.sl_V.1 (hx a g hh)
   have main:∀ b of,A=some ⟨b,of,none⟩ → (loadCells ⟨b,of,none⟩ xs.length).run P g.w=.ok (xs.map (Value.int .u8)).toArray g.w → ∃ v,(execOp a.eval o).run P g.w=.ok (.value v) g.w ∧ (pStr (bstr xs)).p g v:=by
     rintro b of rfl hl
     exact ⟨.string (bstr xs),by simp [execOp,hop,hv,run_convert_bytes_string g.w src dst e (some ⟨b,of,none⟩) xs.length c hs he hd',run_bytesToString g.w ⟨b,of,none⟩ xs.length c xs hl,bstr],Zcz.2 rfl⟩
   rcases hR with rfl | ⟨b,of,rfl,hR⟩
   · cases A with
     | none=>exact ⟨.string ByteArray.empty,by simp [execOp,hop,hv,run_convert_bytes_string g.w src dst e none 0 c hs he hd',Conv.bytesToString],Zcz.2 rfl⟩
     | some A =>
       have hl:(loadCells A ([]:List Int).length).run P g.w=.ok (([]:List Int).map (Value.int .u8)).toArray g.w:=by simp [loadCells,loadCellsFrom]
       exact ⟨.string (bstr []),by simp [execOp,hop,hv,run_convert_bytes_string g.w src dst e (some A) 0 c hs he hd',run_bytesToString g.w A 0 c [] hl,bstr],Zcz.2 rfl⟩
   · refine main b of rfl ?_
     have hl:(loadCells ⟨b,of,none⟩ (xs.map (Value.int .u8)).length).run P g.w=.ok (xs.map (Value.int .u8)).toArray g.w:=by
       refine run_loadCells_list g.w ⟨b,of,none⟩ (xs.map (Value.int .u8)) fun i u hu=>?_
       rw [List.getElem?_map] at hu
       obtain ⟨n,hn,rfl⟩:=Option.map_eq_some_iff.1 hu
       obtain ⟨cs,k1,k2⟩:=hR i n hn
       obtain rfl:=k1
       have:=(k2 0 (.int .u8 n) rfl).2
       have hsz:(Kd.int .u8).sz=1:=rfl
       rw [hsz,Nat.mul_one,Nat.add_zero] at this
       rw [Zg8];exact this
     rwa [List.length_map] at hl
end
section
variable {P:Program} {N:Nat} {o:Oper} {uses outs:Z4} {S:List Nat} {d:Nat} {q:Pd} {x y z:Operand} {Q:Exit → Act → World → Prop} {a:Act} {w:World} {K:Act → World → Prop} {D:List Deferred} {g0:G} {ops:Array Oper} {L:Z4} {T:List Spec} {F:List Ref} {os:List Oper} {X:Spec} {Xs:List Spec}
theorem Zod {ch:List PanicEntry} (h:Q (.panic ch) a w):Exit.then K Q (.panic ch) a w:=h
theorem Zuo {id:Nat} {ch:List PanicEntry} (h:Q (.panic ch) a w):Exit.inBlock id Q (.panic ch) a w:=h
theorem r_gQ {id : Nat} {draw : Bool} {a : Act} {g : G} {Q : Exit → Act → World → Prop} (h : StD D N L a g) (hb : Base g0 g) (hm : P.follows .mixedOrders = true) (hT : Zin P ops N L T D g0 Q ops.toList T) (hc : chk N ops L T F = true)
   (hQ:∀ a g,StD D N (F.map (Zeb L T)) a g → Base g0 g → Q .normal a g.w):(Code.region id ops draw).wp P Q a g.w:=Zy8 hm hc hT h hb hQ
theorem q_p (hg:o.guard=none) (h:OB P N o (X.refs.map (Zeb L T)) X.outs X.S) (hs:Zin P ops N L T D g0 Q os Xs):Zin P ops N L T D g0 Q (o :: os) (X :: Xs):=⟨(OT.plain hg h).q,hs⟩
theorem q_q (h:OTQ P ops N o (X.refs.map (Zeb L T)) X.outs X.S D g0 Q) (hs:Zin P ops N L T D g0 Q os Xs):Zin P ops N L T D g0 Q (o :: os) (X :: Xs):=⟨h,hs⟩
theorem q_n:Zin P ops N L T D g0 Q [] []:=trivial
def pNo:Pd:=⟨fun _ _=>False,[],fun _ _ h=>h⟩
theorem Zsw (hx:Opd uses x pNo):OB P N o uses outs S:=fun a g K Q hN hdN hu hK=>(hx a g hu).elim
def Zkp (t:TypeId) (q:Pd):Pd:=⟨fun g v=>∃ u,v=.iface t u ∧ q.p g u,q.fp,fun st hd ⟨u,e,h⟩=>⟨u,e,q.st st hd h⟩⟩
theorem Z2d {t:TypeId} (ht:(P.underlying t).map (fun u=>match u with | .interface _=>true | _=>false)=some false) (hop:o.op=.makeInterface t x) (hd:o.dst=some d) (hx:Opd uses x q):OB P N o uses [(d,Zkp t q)] [] :=
 Zce hd fun a g hh=>by
   refine ⟨.iface t (a.eval x),?_,_,rfl,hx a g hh⟩
   cases hu:P.underlying t with
   | none=>rw [hu] at ht;cases ht
   | some u =>
     rw [hu] at ht
     cases u <;> first | (simp at ht;done) | simp [execOp,hop,Instr.makeInterface,run_underlying hu]
theorem Z1c {t:TypeId} (hop:o.op=.panic x) (hg:o.guard=none) (hx:Opd uses x (Zkp t q)) (hQ:∀ (a:Act) g v,a.tmps.size=N → a.defers=D → Base g0 g → Zdq uses a g → (Zkp t q).p g v → Q (.panic [{ v:=v,recovered:=false }]) a g.w):OTQ P ops N o uses outs S D g0 Q:=by
 intro a g K hN hD hb hdN hu hK
 have:Region.wanted o (yielded ops a.tmps)=true:=by simp [Region.wanted,hg]
 rw [if_pos this]
 obtain ⟨u,hv,hq⟩:=hx a g hu
 have hr:(execOp a.eval o).run P g.w=.halt (.panic (.iface t u)) g.w:=by simp [execOp,hop,hv,Instr.panic,goPanic]
 unfold Oper.wp
 rw [hr]
 exact hQ a g _ hN hD hb hu ⟨u,rfl,hq⟩
def Zzi (P:Program) (f:FuncId) (A:List Pd) (q:Pd):Prop:=∀ (g:G) (args:List Value),ArgsOk A g args → Calls P f args.toArray g.w (fun e w'=>∃ g' v,e=.panicked [{ v:=v,recovered:=false }] ∧ w'=g'.w ∧ Step [] g g' ∧ q.p g' v)
def Z0d (g0:G) (q:Pd):Ending → World → Prop:=fun e w'=>∃ g1 v,e=.panicked [{ v:=v,recovered:=false }] ∧ w'=g1.w ∧ Base g0 g1 ∧ q.p g1 v
theorem Z0m {g g0:G} {A:List Pd} {args:List Value} {n:Nat} (hle:g.le g0) (hw:g0.w=g.w) (hargs:ArgsOk A g args) (hA:A.all (fun q=>q.fp.isEmpty)=true) (hAN:A.length ≤ N) (hn:n=N):St N (Zo4 A 0) { tmps:=args.toArray ++ Array.replicate (n - args.toArray.size) undef,defers:=[] } g0:=by
 refine ⟨?_,rfl,?_⟩
 · have:=hargs.1
   simp [hn];omega
 · intro e he
   obtain ⟨i,h1,h2⟩:=Zry he
   have hi:i < args.length:=by rw [hargs.1];exact (List.getElem?_eq_some_iff.1 h2).1
   have hfp:e.2.fp=[]:=by
     have:=List.all_eq_true.1 hA e.2 (List.mem_of_getElem? h2)
     simpa using this
   have hv:Act.at { tmps:=args.toArray ++ Array.replicate (n - args.toArray.size) undef,defers:=[] } e.1=args[i]:=by
     rw [h1,Nat.zero_add]
     simp only [Act.at,Array.getD_eq_getD_getElem?]
     rw [Array.getElem?_append,if_pos (by simpa using hi)]
     simp [hi]
   rw [hv]
   exact Pd.le hfp hle (by rw [hw]) (by rw [hw]) (by rw [hw]) (hargs.2 i e.2 _ h2 (List.getElem?_eq_getElem hi))
def G.bare (g:G):G:=⟨g.w,g.pr,fun _=>0,g.hpr,g.gl⟩
theorem Zn7 (g:G):g.le g.bare:=⟨Nat.le_refl _,fun _ _ h=>h,fun _ _ _=>rfl,fun _ _=>rfl⟩
theorem Znv (g:G):Base g.bare g.bare:=⟨.refl _,rfl,rfl,rfl,fun _ _ _=>⟨rfl,rfl,rfl⟩⟩
theorem Znq {g g1:G} (hB:Base g.bare g1):∃ g2:G,g2.w=g1.w ∧ Step [] g g2 ∧ g1.le g2 :=
 ⟨⟨g1.w,g1.pr,fun b=>if b < g.w.heap.size then g.own b else 0,g1.hpr,g1.gl⟩,rfl,⟨⟨hB.le.size,hB.le.pr,hB.le.cell,hB.le.blk⟩,hB.os,hB.tape,hB.output,fun b hb _=>⟨(hB.same b hb rfl).1,(hB.same b hb rfl).2.1,if_pos hb⟩,fun b hb _=>.inl (if_neg (by omega)),fun _ _ h=>by cases h⟩,⟨Nat.le_refl _,fun _ _ h=>h,fun _ _ _=>rfl,fun _ _=>rfl⟩⟩
theorem Z2a {f : FuncId} {fn : Func} {c : Code} {A : List Pd} (hf : P.funcs[f]? = some fn) (hb : fn.body = some c) (hn : fn.ntmps = N) (hAN : A.length ≤ N) (hA : A.all (fun q => q.fp.isEmpty) = true) (hq : q.fp = [])
   (h:∀ (a:Act) (g:G),St N (Zo4 A 0) a g → Base g g → c.wp P (bodyPost P fn (Z0d g q)) a g.w):Zzi P f A q:=by
 intro g args hargs
 refine Calls.mono (calls_of_wp hf hb (h _ g.bare (Z0m (Zn7 g) rfl hargs hA hAN hn) (Znv g))) ?_
 rintro e w' ⟨g1,v,rfl,rfl,hB,hv⟩
 obtain ⟨g2,e2,hS,hle⟩:=Znq hB
 exact ⟨g2,v,rfl,e2.symm,hS,Pd.le hq hle (by rw [e2]) (by rw [e2]) (by rw [e2]) hv⟩
theorem Z69 {fn:Func} {a:Act} {g:G} {v:Value} (hd:a.defers=[]) (hb:Base g0 g) (hq:q.p g v):bodyPost P fn (Z0d g0 q) (.panic [{ v:=v,recovered:=false }]) a g.w:=⟨hd,g,v,rfl,rfl,hb,hq⟩
theorem Zxy {f : FuncId} {xs : List Operand} {A : List Pd} {ty : Array TypeId} (he : Zk P f) (hok : Zzi P f A q) (hop : o.op = .call { callee := .value (.func f), args := xs.toArray, argTypes := ty }) (hg : o.guard = none) (hargs : OpdL uses xs A)
   (hQ:∀ (a:Act) g v,a.tmps.size=N → a.defers=D → Base g0 g → Zdq uses a g → q.p g v → Q (.panic [{ v:=v,recovered:=false }]) a g.w):OTQ P ops N o uses outs S D g0 Q:=by
 intro a g K hN hD hb hdN hu hK
 have:Region.wanted o (yielded ops a.tmps)=true:=by simp [Region.wanted,hg]
 rw [if_pos this]
 have hr:(execOp a.eval o).run P g.w=.ok (.enter f (xs.map a.eval).toArray) g.w:=by
   simp [execOp,hop,resolve,Zq3,Deferred.ofValue,invoke,Zjp he]
 unfold Oper.wp
 rw [hr]
 show Calls P f _ g.w _
 refine Calls.mono (hok g _ (hargs.ok hu)) ?_
 rintro e w' ⟨g',v,rfl,rfl,hs,hq⟩
 exact hQ a g' v hN hD (hb.step hs (by simp)) (fun e he=>e.2.st hs (fun _ _ h=>by cases h) (hu e he)) hq
theorem Z0b {f : FuncId} {fn : Func} {c : Code} {A : List Pd} (hf : P.funcs[f]? = some fn) (hb : fn.body = some c) (hn : fn.ntmps = N) (hAN : A.length ≤ N) (hA : A.all (fun q => q.fp.isEmpty) = true) (hq : q.fp = [])
   (h:∀ (a:Act) (g:G),(∀ b,g.own b=0) → St N (Zo4 A 0) a g → Base g g → c.wp P (bodyPostD P fn (Fin g q)) a g.w):FnOk P f A q:=by
 intro g args hargs
 refine Calls.mono (calls_of_wp_defers hf hb (h _ g.bare (fun _=>rfl) (Z0m (Zn7 g) rfl hargs hA hAN hn) (Znv g))) ?_
 rintro e w' ⟨g1,v,rfl,rfl,hB,hv⟩
 obtain ⟨g2,e2,hS,hle⟩:=Znq hB
 exact ⟨g2,v,rfl,e2.symm,hS,Pd.le hq hle (by rw [e2]) (by rw [e2]) (by rw [e2]) hv⟩
def dfr3 (f:FuncId) (v1:Value) (b2 b3:Nat):List Deferred:=[{ target:=.fn (.func f) #[v1,.pointer (some ⟨b2,0,none⟩),.pointer (some ⟨b3,0,none⟩)],args:=#[] }]
theorem Z0x {id f x1 x2 x3 d1 : Nat} {o1 o2 : Oper} {a : Act} {w : World} (h1 : o1.op = .makeFunc (.func f) #[] #[.tmp x1, .tmp x2, .tmp x3]) (hg1 : o1.guard = none) (hd1 : o1.dst = some d1) (h2 : o2.op = .defer { callee := .value (.tmp d1), args := #[], argTypes := #[] }) (hg2 : o2.guard = none) (hd2 : o2.dst = none) (hlt : d1 < a.tmps.size)
   {b2 b3:Nat} {v1:Value} (e1:Act.at a x1=v1) (e2:Act.at a x2=.pointer (some ⟨b2,0,none⟩)) (e3:Act.at a x3=.pointer (some ⟨b3,0,none⟩)) (hD:a.defers=[])
   (hK:Q .normal { tmps:=(a.put (some d1) (.func (.func f) #[] #[v1,.pointer (some ⟨b2,0,none⟩),.pointer (some ⟨b3,0,none⟩)])).tmps,defers:=dfr3 f v1 b2 b3 } w):(Code.region id #[o1,o2] false).wp P Q a w:=by
 refine wp_region ?_
 have q1:a.eval (.tmp x1)=v1:=e1
 have q2:a.eval (.tmp x2)=_:=e2
 have q3:a.eval (.tmp x3)=_:=e3
 have hr1:(execOp a.eval o1).run P w=.ok (.value (.func (.func f) #[] #[v1,.pointer (some ⟨b2,0,none⟩),.pointer (some ⟨b3,0,none⟩)])) w:=by
   simp [execOp,h1,Instr.makeFunc,q1,q2,q3]
 have hev:(a.put (some d1) (.func (.func f) #[] #[v1,.pointer (some ⟨b2,0,none⟩),.pointer (some ⟨b3,0,none⟩)])).eval (.tmp d1)=.func (.func f) #[] #[v1,.pointer (some ⟨b2,0,none⟩),.pointer (some ⟨b3,0,none⟩)]:=Zfy _ hlt
 have hr2:(execOp (a.put (some d1) (.func (.func f) #[] #[v1,.pointer (some ⟨b2,0,none⟩),.pointer (some ⟨b3,0,none⟩)])).eval o2).run P w=.ok (.defer { target:=.fn (.func f) #[v1,.pointer (some ⟨b2,0,none⟩),.pointer (some ⟨b3,0,none⟩)],args:=#[] }) w:=by
   simp [execOp,h2,resolve,hev,Deferred.ofValue]
 have w1:∀ m,Region.wanted o1 m=true:=fun m=>by simp [Region.wanted,hg1]
 have w2:∀ m,Region.wanted o2 m=true:=fun m=>by simp [Region.wanted,hg2]
 show wpOps P #[o1,o2] _ (Lr 2) a w
 simp only [show Lr 2=[0,1] from rfl,wpOps,List.getElem?_toArray,List.getElem?_cons_zero,List.getElem?_cons_succ,w1,if_true]
 refine .inl ?_
 unfold Oper.wp
 rw [hr1,Oper.upon_value,hd1]
 simp only [w2,if_true]
 refine .inl ?_
 rw [hr2,Oper.upon_defer,hd2]
 have:∀ (d:Deferred) (v:Value),({ (a.put (some d1) v) with defers:=d :: (a.put (some d1) v).defers }:Act)={ tmps:=(a.put (some d1) v).tmps,defers:=[d] }:=fun d v=>by
   rw [Zk0,hD]
 have h3:=this { target:=.fn (.func f) #[v1,.pointer (some ⟨b2,0,none⟩),.pointer (some ⟨b3,0,none⟩)],args:=#[] } (.func (.func f) #[] #[v1,.pointer (some ⟨b2,0,none⟩),.pointer (some ⟨b3,0,none⟩)])
 show Q .normal (Act.put { (a.put (some d1) (.func (.func f) #[] #[v1,.pointer (some ⟨b2,0,none⟩),.pointer (some ⟨b3,0,none⟩)])) with defers:=_ :: (a.put (some d1) _).defers } none undef) w
 rw [h3];exact hK
theorem Zqv {α:Type} {dk:Kd α} {j:Nat} {v:α} {g:G} {u:Value} (h:(pBox dk j v).p g u):∃ b,u=.pointer (some ⟨b,0,none⟩) ∧ (Zbf (some b) dk j v).p g u:=by
 obtain ⟨b,cs,t,e,hm,_⟩:=h
 exact ⟨b,e,b,cs,t,e,hm,fun b' hb=>Option.some.inj hb⟩
theorem Z5z {α γ σ:Type} {kV:Kd γ} {raw:α → σ → γ} {R:Hp σ} {j:Nat} {x:α} {g:G} {u:Value} (h:(pBxS kV raw R j x).p g u):∃ b,u=.pointer (some ⟨b,0,none⟩) ∧ (Zc5 (some b) kV raw R j x).p g u:=by
 obtain ⟨s,h1,h2⟩:=h
 obtain ⟨b,e,h3⟩:=Zqv h1
 exact ⟨b,e,s,h3,h2⟩
theorem Z1w {α:Type} {dk:Kd α} {j b:Nat} {v:α} {g:G} {u:Value} (h:(Zbf (some b) dk j v).p g u):u=.pointer (some ⟨b,0,none⟩):=by
 obtain ⟨b',cs,t,e,hm,hb⟩:=h
 rw [e,hb b rfl]
section
variable {α β φ γ σ:Type} {kS:Kd α} {kR:Kd β} {kF:Kd φ} {kV:Kd γ} {raw:β → σ → γ} {R:Hp σ} {f:FuncId} {tf t4 t5 s4 s5 j4 j5 b4 b5:Nat} {v2 v:Value}
abbrev ptrV (b:Nat):Value:=.pointer (some ⟨b,0,none⟩)
def Zye (P:Program) (f:FuncId):Prop:=∀ (g:G) (v2:Value) (b4 b5:Nat),CallsD P f #[v2,ptrV b4,ptrV b5] .returning g.w (fun e u' w'=>e=.returned (.tuple #[]) ∧ u'=.returning ∧ ∃ g',w'=g'.w ∧ Step [] g g')
def Zyj (P:Program) (f:FuncId) (kS:Kd α) (kV:Kd γ) (raw:β → σ → γ) (kR:Kd β) (tf:TypeId) (kF:Kd φ) (mk:φ → β):Prop:=∀ (g:G) (v2 v:Value) (b4 b5:Nat) (s z4:α) (x:β) (r:φ),(kS.ptr s).p g v2 → (Zbf (some b4) kS 0 z4).p g (ptrV b4) → (Zc5 (some b5) kV raw hpT 1 x).p g (ptrV b5) → (Zkp tf (kF.pd r)).p g v →
 CallsD P f #[v2,ptrV b4,ptrV b5] (.panicking [{ v:=v,recovered:=false }]) g.w (fun e u' w'=>e=.returned (.tuple #[]) ∧ u'=.panicking [{ v:=v,recovered:=true }] ∧ ∃ g',w'=g'.w ∧ Base g g' ∧ (Zbf (some b4) kS 0 s).p g' (ptrV b4) ∧ (Zbf (some b5) kR 1 (mk r)).p g' (ptrV b5))
theorem Z6t {fn:Func} {r1 r2:ResultVar} {v1 v2:Value} {a:Act} {g g0:G} {L:Z4} (hr:fn.results=#[r1,r2]) (h:St N L a g) (hb:Base g0 g) (h1:Zil P a g r1 v1) (h2:Zil P a g r2 v2) (hq:q.p g (.tuple #[v1,v2])):bodyPostD P fn (Fin g0 q) .ret a g.w:=by
 show Leaves P fn a.tmps _ a.defers .returning g.w
 rw [h.df]
 have h1':(Zex a.tmps r1).run P g.w=.ok v1 g.w:=h1
 have h2':(Zex a.tmps r2).run P g.w=.ok v2 g.w:=h2
 exact ⟨.tuple #[v1,v2],by simp [Zgo,hr,h1',h2'],g,_,rfl,rfl,hb,hq⟩
theorem Zxi (he:Zk P f) (caps:Array Value) (w:World):(invoke (.fn (.func f) caps) #[]).run P w=.ok (.enter f caps) w:=by
 simp [invoke,Zjp he]
theorem Z5c {fn : Func} {a : Act} {g g0 : G} {L : Z4} {c4 c5 : Option Nat} {x : α} {y : β} (hc : Zye P f) (he : Zk P f) (hr : fn.results = #[.cell s4 t4, .cell s5 t5]) (hT4 : Ty P t4 kS) (hT5 : Ty P t5 kR) (h : StD (dfr3 f v2 b4 b5) N L a g) (hb : Base g0 g)
   (h4:(Zbf c4 kS j4 x).p g (Act.at a s4)) (h5:(Zbf c5 kR j5 y).p g (Act.at a s5)):bodyPostD P fn (Fin g0 (pTup [kS.pd x,kR.pd y])) .ret a g.w:=by
 show Leaves P fn a.tmps _ a.defers .returning g.w
 rw [h.df]
 refine leaves_cons (f:=f) (args:=#[v2,ptrV b4,ptrV b5]) (by simp) (Zxi he _ _) ?_
 refine (hc g v2 b4 b5).mono ?_
 rintro e u' w' ⟨rfl,rfl,g',rfl,hs⟩
 obtain ⟨u4,r4,q4⟩:=Zbn (P:=P) hT4 ((Zbf c4 kS j4 x).st hs (fun _ _ h=>by cases h) h4)
 obtain ⟨u5,r5,q5⟩:=Zbn (P:=P) hT5 ((Zbf c5 kR j5 y).st hs (fun _ _ h=>by cases h) h5)
 have r4':(Zex a.tmps (.cell s4 t4)).run P g'.w=.ok u4 g'.w:=r4
 have r5':(Zex a.tmps (.cell s5 t5)).run P g'.w=.ok u5 g'.w:=r5
 exact ⟨.tuple #[u4,u5],by simp [Zgo,hr,r4',r5'],g',_,rfl,rfl,hb.step hs (by simp),Zch q4 q5⟩
theorem Z09 {fn : Func} {a : Act} {g g0 : G} {z4 s : α} {x : β} {r : φ} {mk : φ → β} (hc : Zyj P f kS kV raw kR tf kF mk) (he : Zk P f) (hr : fn.results = #[.cell s4 t4, .cell s5 t5]) (hT4 : Ty P t4 kS) (hT5 : Ty P t5 kR) (h0 : ∀ b, g0.own b = 0) (hD : a.defers = dfr3 f v2 b4 b5) (hb : Base g0 g) (hj : j4 ≠ j5)
   (hs:(kS.ptr s).p g v2) (h4:(Zbf (some b4) kS j4 z4).p g (Act.at a s4)) (h5:(Zc5 (some b5) kV raw R j5 x).p g (Act.at a s5)) (hv:(Zkp tf (kF.pd r)).p g v):bodyPostD P fn (Fin g0 (pTup [kS.pd s,kR.pd (mk r)])) (.panic [{ v:=v,recovered:=false }]) a g.w:=by
 show Leaves P fn a.tmps _ a.defers (.panicking _) g.w
 rw [hD]
 refine leaves_cons (f:=f) (args:=#[v2,ptrV b4,ptrV b5]) (by simp) (Zxi he _ _) ?_
 obtain ⟨bb,cs4,ty4,e4,⟨m1,m2,m3,m4,m5,m6⟩,hbb⟩:=h4
 obtain rfl:=hbb _ rfl
 obtain ⟨sg,⟨bb',cs5,ty5,e5,⟨n1,n2,n3,n4,n5,n6⟩,hbb'⟩,_⟩:=h5
 obtain rfl:=hbb' _ rfl
 have hne:bb ≠ bb':=fun h=>by rw [h,n2] at m2;omega
 let gc:G:=⟨g.w,g.pr,fun c=>if c=bb then 1 else if c=bb' then 2 else 0,g.hpr,g.gl⟩
 have hle:g.le gc:=⟨Nat.le_refl _,fun _ _ h=>h,fun _ _ _=>rfl,fun _ _=>rfl⟩
 have own:∀ c,gc.own c=if c=bb then 1 else if c=bb' then 2 else 0:=fun _=>rfl
 have k4:(Zbf (some bb) kS 0 z4).p gc (ptrV bb):=⟨bb,cs4,ty4,rfl,⟨m1,by rw [own,if_pos rfl],fun b' _ ho=>by
   rw [own] at ho
   split at ho
   · assumption
   · split at ho <;> omega,m4,kS.mono hle m5,m6⟩,hbb⟩
 have k5:(Zc5 (some bb') kV raw hpT 1 x).p gc (ptrV bb'):=⟨sg,⟨bb',cs5,ty5,rfl,⟨n1,by rw [own,if_neg (Ne.symm hne),if_pos rfl],fun b' _ ho=>by
   rw [own] at ho
   split at ho
   · omega
   · split at ho
     · assumption
     · omega,n4,kV.mono hle n5,n6⟩,hbb'⟩,trivial⟩
 refine (hc gc v2 v bb bb' s z4 x r (Pd.le (q:=kS.ptr s) rfl hle rfl rfl rfl hs) k4 k5 (Pd.le (q:=Zkp tf (kF.pd r)) rfl hle rfl rfl rfl hv)).mono ?_
 rintro e u' w' ⟨rfl,rfl,g',rfl,hB,q4,q5⟩
 have a4:(Zbf (some bb) kS 0 s).p g' (Act.at a s4):=by rw [e4];exact q4
 have a5:(Zbf (some bb') kR 1 (mk r)).p g' (Act.at a s5):=by rw [e5];exact q5
 obtain ⟨u4,r4,p4⟩:=Zbn (P:=P) hT4 a4
 obtain ⟨u5,r5,p5⟩:=Zbn (P:=P) hT5 a5
 have r4':(Zex a.tmps (.cell s4 t4)).run P g'.w=.ok u4 g'.w:=r4
 have r5':(Zex a.tmps (.cell s5 t5)).run P g'.w=.ok u5 g'.w:=r5
 have hle':g.le g':=hle.trans hB.le
 show ∃ v,(results fn a.tmps).run P g'.w=.ok v g'.w ∧ _
 refine ⟨.tuple #[u4,u5],by simp [Zgo,hr,r4',r5'],g'.bare,_,rfl,rfl,⟨hb.le.trans (hle'.trans (Zn7 g')),hB.os.trans hb.os,hB.tape.trans hb.tape,hB.output.trans hb.output,fun c hcl hc0=>?_⟩,Zch (Pd.le (q:=kS.pd s) rfl (Zn7 g') rfl rfl rfl p4) (Pd.le (q:=kR.pd (mk r)) rfl (Zn7 g') rfl rfl rfl p5)⟩
 obtain ⟨k1,k2,k3⟩:=hb.same c hcl hc0
 have h1:c ≠ bb:=fun h=>by rw [h,m2] at k3;omega
 have h2:c ≠ bb':=fun h=>by rw [h,n2] at k3;omega
 obtain ⟨l1,l2,l3⟩:=hB.same c (Nat.lt_of_lt_of_le hcl hb.le.size) (by rw [own,if_neg h1,if_neg h2])
 exact ⟨l1.trans k1,l2.trans k2,rfl⟩
theorem Znd {t:TypeId} {ms:_} (w:World) (k:Nat) (hu:P.underlying t=some (.interface ms)):(Op.equalIn (k + 1) t .nilIface .nilIface).run P w=.ok true w:=by simp [Op.equalIn,run_underlying hu]
theorem Zrb {t t2:TypeId} {u2:Value} {ms:_} (w:World) (k:Nat) (hu:P.underlying t=some (.interface ms)):(Op.equalIn (k + 1) t (.iface t2 u2) .nilIface).run P w=.ok false w:=by simp [Op.equalIn,run_underlying hu]
theorem Zyc {t ty:TypeId} (ht:(P.underlying t).map (fun u=>match u with | .interface _=>true | _=>false)=some true) (hop:o.op=.binOp .eql t x (.const .nilIface) ty) (hd:o.dst=some d) (hx:Opd uses x (pEq .nilIface)):OB P N o uses [(d,Z5 true)] [] :=
 Zce hd fun a g hh=>by
   have hv:a.eval x=.nilIface:=hx a g hh
   refine ⟨.bool true,?_,Zec _ g⟩
   cases hu:P.underlying t with
   | none=>rw [hu] at ht;cases ht
   | some u =>
     rw [hu] at ht
     cases u <;> try (simp at ht;done)
     have hg:(eqGuard .eql t x (.const .nilIface) .nilIface .nilIface).run P g.w=.ok () g.w:=by
       unfold eqGuard
       cases x <;> rfl
     have hb:(binOp .eql t .nilIface .nilIface).run P g.w=.ok (.bool true) g.w:=by
       show (do pure (.bool (← Op.equal t .nilIface .nilIface)):Sem Value).run P g.w=_
       have:(Op.equal t .nilIface .nilIface).run P g.w=.ok true g.w:=by
         exact Znd g.w 9999 hu
       simp only [Sem.run_bind,this,Result.andThen_ok,Sem.run_pure]
     have hc:a.eval (.const .nilIface)=.nilIface:=rfl
     simp [execOp,hop,hv,hc,hg,hb]
theorem Z2b {t ty t2:TypeId} (ht:(P.underlying t).map (fun u=>match u with | .interface _=>true | _=>false)=some true) (hop:o.op=.binOp .eql t x (.const .nilIface) ty) (hd:o.dst=some d) (hx:Opd uses x (Zkp t2 q)):OB P N o uses [(d,Z5 false)] [] :=
 Zce hd fun a g hh=>by
   obtain ⟨u2,hv,_⟩:=hx a g hh
   refine ⟨.bool false,?_,Zec _ g⟩
   cases hu:P.underlying t with
   | none=>rw [hu] at ht;cases ht
   | some u =>
     rw [hu] at ht
     cases u <;> try (simp at ht;done)
     have hg:(eqGuard .eql t x (.const .nilIface) (.iface t2 u2) .nilIface).run P g.w=.ok () g.w:=by
       unfold eqGuard
       split <;> rfl
     have hb:(binOp .eql t (.iface t2 u2) .nilIface).run P g.w=.ok (.bool false) g.w:=by
       show (do pure (.bool (← Op.equal t (.iface t2 u2) .nilIface)):Sem Value).run P g.w=_
       have:(Op.equal t (.iface t2 u2) .nilIface).run P g.w=.ok false g.w:=by
         exact Zrb g.w 9999 hu
       simp only [Sem.run_bind,this,Result.andThen_ok,Sem.run_pure]
     have hc:a.eval (.const .nilIface)=.nilIface:=rfl
     simp [execOp,hop,hv,hc,hg,hb]
theorem Zz9 {t t2:TypeId} (ht:(P.underlying t2).map (fun u=>match u with | .interface _=>true | _=>false)=some false) (hop:o.op=.typeAssert x t t2 true) (hd:o.dst=some d) (hx:Opd uses x (Zkp t2 q)):OB P N o uses [(d,pTup [q,Z5 true])] [] :=
 Zce hd fun a g hh=>by
   obtain ⟨u2,hv,hq⟩:=hx a g hh
   refine ⟨.tuple #[u2,.bool true],?_,Zch hq (Zec _ g)⟩
   cases hu:P.underlying t2 with
   | none=>rw [hu] at ht;cases ht
   | some u =>
     rw [hu] at ht
     cases u <;> first | (simp at ht;done) | simp [execOp,hop,hv,Instr.typeAssert,run_underlying hu]
end
theorem Zxg {c:Code} {a:Act} {w:World} (J:Act → Prop) (hJ:J a) (h:∀ a,J a → c.wp P Q a w):c.wp P Q a w:=h a hJ
theorem Zvv {a:Act} {n:Nat} {g:G} {v:Value} (e:Act.at a n=v) (h:q.p g v):q.p g (Act.at a n):=e ▸ h
abbrev dact (a:Act) (d1:Nat) (v:Value) (D:List Deferred):Act:={ tmps:=(a.put (some d1) v).tmps,defers:=D }
theorem Zli {a:Act} {d1 n:Nat} {v:Value} {D:List Deferred} {g:G} (h:n ≠ d1) (hq:q.p g (Act.at a n)):q.p g (Act.at (dact a d1 v D) n):=by
 have:Act.at (dact a d1 v D) n=Act.at a n:=Zjq (a:=a) v (fun e=>h (Option.some.inj e).symm)
 rw [this];exact hq
theorem Z2w {a:Act} {g:G} {v u:Value} (h:q.p g u) (e:u=v):(pAt v q).p g (Act.at a 1000):=e ▸ h
theorem Zzs {k a b:Nat} (h:k=a) (h':k=b) (hn:a ≠ b):False:=hn (h.symm.trans h')
end
section
variable {P:Program} {N:Nat} {o:Oper} {uses outs:Z4} {S:List Nat} {d:Nat} {q:Pd} {x y z:Operand} {α β:Type} {dk:Kd α} {t e j:Nat} {xv:α}
def dfr2 (f:FuncId) (b2 b3:Nat):List Deferred:=[{ target:=.fn (.func f) #[ptrV b2,ptrV b3],args:=#[] }]
def Zwb (P:Program) (f:FuncId):Prop:=∀ (g:G) (b4 b5:Nat),CallsD P f #[ptrV b4,ptrV b5] .returning g.w (fun e u' w'=>e=.returned (.tuple #[]) ∧ u'=.returning ∧ ∃ g',w'=g'.w ∧ Step [] g g')
theorem Z05 {Q : Exit → Act → World → Prop} {id f x1 x2 d1 : Nat} {o1 o2 : Oper} {a : Act} {w : World} (h1 : o1.op = .makeFunc (.func f) #[] #[.tmp x1, .tmp x2]) (hg1 : o1.guard = none) (hd1 : o1.dst = some d1) (h2 : o2.op = .defer { callee := .value (.tmp d1), args := #[], argTypes := #[] }) (hg2 : o2.guard = none) (hd2 : o2.dst = none) (hlt : d1 < a.tmps.size)
   {b2 b3:Nat} (e1:Act.at a x1=ptrV b2) (e2:Act.at a x2=ptrV b3) (hD:a.defers=[])
   (hK:Q .normal (dact a d1 (.func (.func f) #[] #[ptrV b2,ptrV b3]) (dfr2 f b2 b3)) w):(Code.region id #[o1,o2] false).wp P Q a w:=by
 refine wp_region ?_
 have q1:a.eval (.tmp x1)=ptrV b2:=e1
 have q2:a.eval (.tmp x2)=ptrV b3:=e2
 have hr1:(execOp a.eval o1).run P w=.ok (.value (.func (.func f) #[] #[ptrV b2,ptrV b3])) w:=by
   simp [execOp,h1,Instr.makeFunc,q1,q2]
 have hev:(a.put (some d1) (.func (.func f) #[] #[ptrV b2,ptrV b3])).eval (.tmp d1)=.func (.func f) #[] #[ptrV b2,ptrV b3]:=Zfy _ hlt
 have hr2:(execOp (a.put (some d1) (.func (.func f) #[] #[ptrV b2,ptrV b3])).eval o2).run P w=.ok (.defer { target:=.fn (.func f) #[ptrV b2,ptrV b3],args:=#[] }) w:=by
   simp [execOp,h2,resolve,hev,Deferred.ofValue]
 have w1:∀ m,Region.wanted o1 m=true:=fun m=>by simp [Region.wanted,hg1]
 have w2:∀ m,Region.wanted o2 m=true:=fun m=>by simp [Region.wanted,hg2]
 show wpOps P #[o1,o2] _ (Lr 2) a w
 simp only [show Lr 2=[0,1] from rfl,wpOps,List.getElem?_toArray,List.getElem?_cons_zero,List.getElem?_cons_succ,w1,if_true]
 refine .inl ?_
 unfold Oper.wp
 rw [hr1,Oper.upon_value,hd1]
 simp only [w2,if_true]
 refine .inl ?_
 rw [hr2,Oper.upon_defer,hd2]
 have:∀ (d:Deferred) (v:Value),({ (a.put (some d1) v) with defers:=d :: (a.put (some d1) v).defers }:Act)={ tmps:=(a.put (some d1) v).tmps,defers:=[d] }:=fun d v=>by
   rw [Zk0,hD]
 have h3:=this { target:=.fn (.func f) #[ptrV b2,ptrV b3],args:=#[] } (.func (.func f) #[] #[ptrV b2,ptrV b3])
 show Q .normal (Act.put { (a.put (some d1) (.func (.func f) #[] #[ptrV b2,ptrV b3])) with defers:=_ :: (a.put (some d1) _).defers } none undef) w
 rw [h3];exact hK
theorem Zyt {kS : Kd α} {kR : Kd β} {f t4 t5 s4 s5 j4 j5 b4 b5 : Nat} {fn : Func} {a : Act} {g g0 : G} {L : Z4} {c4 c5 : Option Nat} {x : α} {y : β} (hc : Zwb P f) (he : Zk P f) (hr : fn.results = #[.cell s4 t4, .cell s5 t5]) (hT4 : Ty P t4 kS) (hT5 : Ty P t5 kR) (h : StD (dfr2 f b4 b5) N L a g) (hb : Base g0 g)
   (h4:(Zbf c4 kS j4 x).p g (Act.at a s4)) (h5:(Zbf c5 kR j5 y).p g (Act.at a s5)):bodyPostD P fn (Fin g0 (pTup [kS.pd x,kR.pd y])) .ret a g.w:=by
 show Leaves P fn a.tmps _ a.defers .returning g.w
 rw [h.df]
 refine leaves_cons (f:=f) (args:=#[ptrV b4,ptrV b5]) (by simp) (Zxi he _ _) ?_
 refine (hc g b4 b5).mono ?_
 rintro e u' w' ⟨rfl,rfl,g',rfl,hs⟩
 obtain ⟨u4,r4,q4⟩:=Zbn (P:=P) hT4 ((Zbf c4 kS j4 x).st hs (fun _ _ h=>by cases h) h4)
 obtain ⟨u5,r5,q5⟩:=Zbn (P:=P) hT5 ((Zbf c5 kR j5 y).st hs (fun _ _ h=>by cases h) h5)
 have r4':(Zex a.tmps (.cell s4 t4)).run P g'.w=.ok u4 g'.w:=r4
 have r5':(Zex a.tmps (.cell s5 t5)).run P g'.w=.ok u5 g'.w:=r5
 exact ⟨.tuple #[u4,u5],by simp [Zgo,hr,r4',r5'],g',_,rfl,rfl,hb.step hs (by simp),Zch q4 q5⟩
theorem Z2x {ops:Array Oper} {Q:Exit → Act → List Frame → World → Prop} {i:Nat} {l:List Nat} {o:Oper} {a:Act} {cs:List Frame} {w:World} (ho:ops[i]?=some o) (hg:o.guard=none) (hop:(execOp a.eval o).run P w=.ok .recover w) (hr:recoverD cs=none) (h:wpOpsS P ops Q l (a.put o.dst .nilIface) cs w):wpOpsS P ops Q (i :: l) a cs w:=by
 have hw:Region.wanted o (yielded ops a.tmps)=true:=by simp [Region.wanted,hg]
 simp only [wpOpsS,ho,hw,if_true,hop,hr]
 exact h
theorem Z5b {ops : Array Oper} {Q : Exit → Act → List Frame → World → Prop} {i : Nat} {l : List Nat} {o : Oper} {a : Act} {cs : List Frame} {g : G} (ho : ops[i]? = some o) (hg : o.guard = none) (hob : OB P N o uses outs S) (hN : a.tmps.size = N) (hdN : ∀ t, o.dst = some t → t < N) (hu : Zdq uses a g)
   (h:∀ v g',Step S g g' → (∀ e ∈ outs,e.2.p g' (Act.at (a.put o.dst v) e.1)) → wpOpsS P ops Q l (a.put o.dst v) cs g'.w):wpOpsS P ops Q (i :: l) a cs g.w:=by
 have hw:Region.wanted o (yielded ops a.tmps)=true:=by simp [Region.wanted,hg]
 have key:=hob a g (fun a' w'=>wpOpsS P ops Q l a' cs w') (fun e a' w'=>Q e a' cs w') hN hdN hu h
 unfold Oper.wp at key
 simp only [wpOpsS,ho,hw,if_true]
 generalize (execOp a.eval o).run P g.w=r at key
 cases r with
 | ok n w'=>cases n <;> first | exact key | exact key.elim
 | halt h w'=>exact key
end
structure Zu where
 Score:Nat
 Name:ByteArray
 deriving Inhabited
structure Zb where
 Kind:Int
 Num:Int
 Low:Int
 High:Int
 Real:Nat
 Cap:Int
 Text:ByteArray
 List:List Zu
 deriving Inhabited
inductive shelf_nodeT where
 | nil
 | node (key:ByteArray) (rec_:Zb) (left:shelf_nodeT) (right:shelf_nodeT) (size:Int)
 deriving Inhabited
structure shelf_node where
 key:ByteArray
 rec_:Zb
 left:shelf_nodeT
 right:shelf_nodeT
 size:Int
 deriving Inhabited
def shelf_nodeT.un:shelf_nodeT → Option shelf_node
 | .nil=>none
 | .node x0 x1 x2 x3 x4=>some ⟨x0,x1,x2,x3,x4⟩
def shelf_node.up (x:shelf_node):shelf_nodeT:=.node x.key x.rec_ x.left x.right x.size
def shelf_nodeT.isNil:shelf_nodeT → Bool
 | .nil=>true
 | .node ..=>false
def shelf_nodeT.hh:shelf_nodeT → Nat
 | .nil=>0
 | .node x0 x1 x2 x3 x4=>max x2.hh x3.hh + 1
structure Zj where
 top:shelf_nodeT
 room:Int
 deriving Inhabited
structure Zby where
 text:Bool
 num:Bool
 bounds:Bool
 real:Bool
 list:Bool
 deriving Inhabited
structure Z3 where
 Key:ByteArray
 Rec:Zb
 deriving Inhabited
structure Zn where
 L:List Z3
 Room:Int
 deriving Inhabited
structure Zcr where
 word:ByteArray
 on:Int
 has:ByteArray
 deriving Inhabited
structure Zr where
 Kind:Int
 Key:ByteArray
 N:Int
 X:Nat
 S:ByteArray
 Make:Zb
 Must:Bool
 deriving Inhabited
structure Zbq where
 Acts:List Zr
 deriving Inhabited
structure Z0 where
 l:List ByteArray
 deriving Inhabited
structure Zbb where
 Code:Int
 Num:Int
 Rec:Zb
 deriving Inhabited
structure Zdm where
 code:Int
 at_:Int
 deriving Inhabited
structure Zbv where
 Code:Int
 At:Int
 Answers:List Zbb
 deriving Inhabited
def g_1:List Zcr:=[{ word:=⟨#[]⟩,on:=(0),has:=⟨#[]⟩ },
 { word:=⟨#[110,101,119]⟩,on:=(0),has:=⟨#[109]⟩ },
 { word:=⟨#[100,114,111,112]⟩,on:=(0),has:=⟨#[]⟩ },
 { word:=⟨#[105,115]⟩,on:=(0),has:=⟨#[]⟩ },
 { word:=⟨#[108,111,111,107]⟩,on:=(0),has:=⟨#[]⟩ },
 { word:=⟨#[112,117,116]⟩,on:=(1),has:=⟨#[115]⟩ },
 { word:=⟨#[115,119,97,112]⟩,on:=(1),has:=⟨#[115]⟩ },
 { word:=⟨#[97,100,100]⟩,on:=(2),has:=⟨#[110]⟩ },
 { word:=⟨#[112,108,117,115]⟩,on:=(3),has:=⟨#[110]⟩ },
 { word:=⟨#[114,101,97,99,104]⟩,on:=(3),has:=⟨#[110]⟩ },
 { word:=⟨#[105,110]⟩,on:=(4),has:=⟨#[110]⟩ },
 { word:=⟨#[111,117,116]⟩,on:=(4),has:=⟨#[110]⟩ },
 { word:=⟨#[101,110,111,117,103,104]⟩,on:=(4),has:=⟨#[110]⟩ },
 { word:=⟨#[114,97,105,115,101]⟩,on:=(5),has:=⟨#[120]⟩ },
 { word:=⟨#[108,111,119,101,114]⟩,on:=(6),has:=⟨#[120]⟩ },
 { word:=⟨#[115,104,105,102,116]⟩,on:=(7),has:=⟨#[120]⟩ },
 { word:=⟨#[115,99,97,108,101]⟩,on:=(7),has:=⟨#[120]⟩ },
 { word:=⟨#[102,105,120]⟩,on:=(7),has:=⟨#[120]⟩ },
 { word:=⟨#[106,111,105,110]⟩,on:=(8),has:=⟨#[115]⟩ },
 { word:=⟨#[108,101,97,118,101]⟩,on:=(8),has:=⟨#[115]⟩ },
 { word:=⟨#[104,97,115]⟩,on:=(8),has:=⟨#[115]⟩ },
 { word:=⟨#[111,102,102,101,114]⟩,on:=(9),has:=⟨#[120,115]⟩ }]
def g_0:List Int:=[(1),
 (10),
 (100),
 (1000),
 (10000),
 (100000),
 (1000000),
 (10000000),
 (100000000),
 (1000000000),
 (10000000000),
 (100000000000),
 (1000000000000),
 (10000000000000),
 (100000000000000),
 (1000000000000000),
 (10000000000000000),
 (100000000000000000),
 (1000000000000000000),
 (10000000000000000000)]
def g_5:List Int:=[(0),
 (1),
 (56),
 (2),
 (57),
 (49),
 (28),
 (3),
 (61),
 (58),
 (42),
 (50),
 (38),
 (29),
 (17),
 (4),
 (62),
 (47),
 (59),
 (36),
 (45),
 (43),
 (51),
 (22),
 (53),
 (39),
 (33),
 (30),
 (24),
 (18),
 (12),
 (5),
 (63),
 (55),
 (48),
 (27),
 (60),
 (41),
 (37),
 (16),
 (46),
 (35),
 (44),
 (21),
 (52),
 (32),
 (23),
 (11),
 (54),
 (26),
 (40),
 (15),
 (34),
 (20),
 (31),
 (10),
 (25),
 (14),
 (19),
 (9),
 (13),
 (8),
 (7),
 (6)]
def Zj3 (a0:Int):Option (Bool):=(some (((((decide ((97:Int) ≤ a0)) && (decide (a0 ≤ (122:Int)))) || ((decide ((48:Int) ≤ a0)) && (decide (a0 ≤ (57:Int))))) || (a0 == (95:Int))) || (a0 == (46:Int))))
def Zjr (c:UInt8):Bool:=(decide (97 ≤ c) && decide (c ≤ 122)) || (decide (48 ≤ c) && decide (c ≤ 57)) || (c == 95) || (c == 46)
def hexU (n:Nat):UInt8:=if n < 10 then UInt8.ofNat (48 + n) else UInt8.ofNat (55 + n)
def Zc0 (c:UInt8):List UInt8:=if Zjr c then [c] else [37,hexU (c.toNat / 16),hexU (c.toNat % 16)]
def Zgv (a0:ByteArray):Option ByteArray:=if a0.size ≤ 1000000 then some (if a0.size=0 then ⟨#[37]⟩ else ⟨(a0.data.toList.flatMap Zc0).toArray⟩) else none
def Zij (a0:Int) (a1:Int):Option ByteArray:=if a1=10 ∧ -9223372036854775808 ≤ a0 ∧ a0 ≤ 9223372036854775807 then some ⟨(Lib.itoa a0).toArray⟩ else none
def Zfx (a0:Int):Option (ByteArray):=((Zij a0 (10:Int)).bind fun r1=>(some r1))
def Ziy (a0:Int):Option (Zj × Int):=(if ((decide (a0 < (1:Int))) || (decide ((4096:Int) < a0))) then (some (({ top:=shelf_nodeT.nil,room:=(0:Int) }:Zj),(1:Int))) else (some (({ top:=shelf_nodeT.nil,room:=a0 }:Zj),(0:Int))))
def Zdv (a0:Zb):Nat → (Int) → Option ((Int) ⊕ (Unit))
 | 0,_=>none
 | n + 1,x2=>(if (decide (x2 < (a0.List.length:Int))) then ((idx a0.List x2).bind fun e4=>(if (decide ((100:Int) < (e4.Name.size:Int))) then (some (.inl (1:Int))) else ((Zdv a0 n) (IntKind.i64.wrap (x2 + (1:Int)))))) else (some (.inr ())))
def Zgb (a0:Zb):Option (Int):=(if ((decide ((100:Int) < (a0.List.length:Int))) || (decide ((1000:Int) < (a0.Text.size:Int)))) then (some (1:Int)) else ((Zdv a0 (Int.toNat ((a0.List.length:Int) - (0:Int)) + 1) (0:Int)).bind fun z7=>match z7 with | .inl r=>some r | .inr ()=>(some (0:Int))))
def Zb8 (a0:shelf_nodeT):Option (Int):=(if a0.isNil then (some (0:Int)) else ((a0.un).bind fun n2=>(some n2.size)))
def Zc7 (a0:Zj):Option (Int):=((Zb8 a0.top).bind fun r1=>(some r1))
def Zdj (a0:List Zu):Option (List Zu):=if a0.length * 24 ≤ 140737488355328 then some a0 else none
def Zfc (a0:Zb):Option (Zb):=((Zdj a0.List).bind fun r1=>(some ({ a0 with List:=r1 })))
def Zi8 (j11:Bool):Option (Zby):=(if j11 then (some ({ text:=false,num:=false,bounds:=false,real:=false,list:=true }:Zby)) else (some ({ text:=false,num:=false,bounds:=false,real:=false,list:=false }:Zby)))
def Zhj (a0:Int) (j8:Bool):Option (Zby):=(if j8 then (some ({ text:=false,num:=false,bounds:=false,real:=true,list:=false }:Zby)) else (if (a0 == (8:Int)) then (Zi8 (a0 == (8:Int))) else (Zi8 (a0 == (9:Int)))))
def Zi9 (a0:Int) (j3:Bool):Option (Zby):=(if j3 then (some ({ text:=false,num:=true,bounds:=false,real:=false,list:=false }:Zby)) else (if (a0 == (4:Int)) then (some ({ text:=false,num:=true,bounds:=true,real:=false,list:=false }:Zby)) else (if (a0 == (5:Int)) then (Zhj a0 (a0 == (5:Int))) else (if (a0 == (6:Int)) then (Zhj a0 (a0 == (6:Int))) else (Zhj a0 (a0 == (7:Int)))))))
def Zdp (a0:Int):Option (Zby):=(if (a0 == (1:Int)) then (some ({ text:=true,num:=false,bounds:=false,real:=false,list:=false }:Zby)) else (if (a0 == (2:Int)) then (Zi9 a0 (a0 == (2:Int))) else (Zi9 a0 (a0 == (3:Int)))))
def Zo7:Option (Nat):=(some (Int.toNat (9221120237041090561:Int)))
def Zkw (a0:Nat):Option (Nat):=(if (fneq a0 a0) then ((Zo7).bind fun r2=>(some r2)) else (some a0))
def Zjf (a0:Nat):Option (Int):=((Zkw a0).bind fun r1=>(if ((bAnd .u64 (r1:Int) (9223372036854775808:Int)) != (0:Int)) then (some (bXor .u64 IntKind.u64.max (r1:Int))) else (some (bOr .u64 (r1:Int) (9223372036854775808:Int)))))
def Zia (a0:Nat) (a1:Nat):Option (Bool):=((Zjf a0).bind fun r1=>((Zjf a1).bind fun r3=>(some (r1 == r3))))
def Zna (a0:Zb) (a1:Zby):Option (Bool):=((gd ((((a1.text || (sEq a0.Text (⟨#[]⟩:ByteArray))) && (a1.num || (a0.Num == (0:Int)))) && (a1.bounds || ((a0.Low == (0:Int)) && (a0.High == (0:Int))))) && (!a1.real)) (Zia a0.Real (0:Nat))).bind fun r1=>(some (((((a1.text || (sEq a0.Text (⟨#[]⟩:ByteArray))) && (a1.num || (a0.Num == (0:Int)))) && (a1.bounds || ((a0.Low == (0:Int)) && (a0.High == (0:Int))))) && (a1.real || r1)) && (a1.list || ((a0.Cap == (0:Int)) && ((a0.List.length:Int) == (0:Int)))))))
def Zhl (a0:Nat):Option (Bool):=((Zkw a0).bind fun r1=>(some ((a0:Int) == (r1:Int))))
def Zmr (a0:Nat) (a1:Nat):Option (Bool):=((Zjf a0).bind fun r1=>((Zjf a1).bind fun r3=>(some (decide (r1 < r3)))))
def Zk4 (a0:Zu) (a1:Zu):Option (Bool):=((Zia a0.Score a1.Score).bind fun r1=>(if (!r1) then ((Zmr a1.Score a0.Score).bind fun r4=>(some r4)) else (some (sLt a0.Name a1.Name))))
def Zez (a0:Int) (a1:List Zu):Nat → (Int) → Option ((Int) ⊕ (Unit))
 | 0,_=>none
 | n + 1,x1=>(if (decide (x1 < (a1.length:Int))) then ((idx a1 x1).bind fun e3=>(if (decide ((16:Int) < (e3.Name.size:Int))) then (some (.inl (3:Int))) else ((gd (a0 == (8:Int)) (Zia e3.Score (0:Nat))).bind fun r6=>((gd (!((a0 == (8:Int)) && (!r6))) (Zhl e3.Score)).bind fun r8=>(if (((a0 == (8:Int)) && (!r6)) || (!r8)) then (some (.inl (4:Int))) else ((gd ((decide ((0:Int) < x1)) && (a0 == (8:Int))) (idx a1 (IntKind.i64.wrap (x1 - (1:Int))))).bind fun e11=>(if (((decide ((0:Int) < x1)) && (a0 == (8:Int))) && (!sLt e11.Name e3.Name)) then (some (.inl (4:Int))) else ((gd ((decide ((0:Int) < x1)) && (a0 == (9:Int))) (idx a1 (IntKind.i64.wrap (x1 - (1:Int))))).bind fun e14=>((gd ((decide ((0:Int) < x1)) && (a0 == (9:Int))) (Zk4 e14 e3)).bind fun r16=>(if (((decide ((0:Int) < x1)) && (a0 == (9:Int))) && (!r16)) then (some (.inl (4:Int))) else ((Zez a0 a1 n) (IntKind.i64.wrap (x1 + (1:Int)))))))))))))) else (some (.inr ())))
def Zl9 (a0:Int) (a1:List Zu):Option (Int):=((Zez a0 a1 (Int.toNat ((a1.length:Int) - (0:Int)) + 1) (0:Int)).bind fun z19=>match z19 with | .inl r=>some r | .inr ()=>(some (0:Int)))
def Zcv (a0:Zb):Option (Int):=((Zdp a0.Kind).bind fun r1=>(if ((decide (a0.Kind ≤ (0:Int))) || (decide ((10:Int) ≤ a0.Kind))) then (some (5:Int)) else ((Zna a0 r1).bind fun r4=>(if (!r4) then (some (4:Int)) else (if (decide ((64:Int) < (a0.Text.size:Int))) then (some (3:Int)) else (if (r1.bounds && ((((decide (a0.Low < (-2305843009213693952:Int))) || (decide ((2305843009213693952:Int) < a0.High))) || (decide (a0.Num < a0.Low))) || (decide (a0.High < a0.Num)))) then (some (1:Int)) else ((Zhl a0.Real).bind fun r9=>(if (!r9) then (some (4:Int)) else (if (!r1.list) then (some (0:Int)) else (if ((decide (a0.Cap < (1:Int))) || (decide ((32:Int) < a0.Cap))) then (some (1:Int)) else (if (decide (a0.Cap < (a0.List.length:Int))) then (some (8:Int)) else ((Zl9 a0.Kind a0.List).bind fun r15=>(some r15)))))))))))))
def Zf4 (x1:Zb) (kk:(Zb) → (shelf_nodeT) → Option ((Zb × Bool) ⊕ (Zb))) (j10:shelf_nodeT):Option ((Zb × Bool) ⊕ (Zb)):=(kk x1 j10)
def Zdh (a1:ByteArray):Nat → (Zb) → (shelf_nodeT) → Option ((Zb × Bool) ⊕ (Zb))
 | 0,_,_=>none
 | n + 1,x1,x2=>(if (!x2.isNil) then ((x2.un).bind fun n4=>(if (sLt a1 n4.key) then (Zf4 x1 (Zdh a1 n) n4.left) else (if (!(sLt a1 n4.key || sEq a1 n4.key)) then (Zf4 x1 (Zdh a1 n) n4.right) else ((Zfc n4.rec_).bind fun r8=>(some (.inl (r8,true))))))) else (some (.inr x1)))
def Zfj (a0:Zj) (a1:ByteArray):Option (Zb × Bool):=((Zdh a1 (a0.top.hh + 1) (default:Zb) a0.top).bind fun z12=>match z12 with | .inl r=>some r | .inr y11=>(some (({ Kind:=(0:Int),Num:=(0:Int),Low:=(0:Int),High:=(0:Int),Real:=(0:Nat),Cap:=(0:Int),Text:=ByteArray.empty,List:=([]:List Zu) }:Zb),false)))
def Zda (a0:ByteArray) (a1:Zb) (a2:shelf_nodeT) (a3:shelf_nodeT):Option (shelf_nodeT):=((Zb8 a2).bind fun r1=>((Zb8 a3).bind fun r3=>(some ({ key:=a0,rec_:=a1,left:=a2,right:=a3,size:=(IntKind.i64.wrap ((IntKind.i64.wrap (r1 + r3)) + (1:Int))) }:shelf_node).up)))
def Zgs (a0:shelf_nodeT) (a1:shelf_nodeT):Option (Bool):=((Zb8 a0).bind fun r1=>((Zb8 a1).bind fun r3=>(some (decide ((IntKind.i64.wrap ((3:Int) * (IntKind.i64.wrap (r3 + (1:Int))))) < (IntKind.i64.wrap (r1 + (1:Int))))))))
def Zj8 (a0:ByteArray) (a1:Zb) (a2:shelf_nodeT) (a3:shelf_nodeT):Option (shelf_nodeT):=((Zgs a3 a2).bind fun r1=>((gd r1 (a3.un)).bind fun n3=>((gd r1 (Zb8 n3.left)).bind fun r5=>((gd r1 (a3.un)).bind fun n7=>((gd r1 (Zb8 n7.right)).bind fun r9=>(if (r1 && (decide ((IntKind.i64.wrap (r5 + (1:Int))) < (IntKind.i64.wrap ((2:Int) * (IntKind.i64.wrap (r9 + (1:Int)))))))) then ((a3.un).bind fun n12=>((Zda a0 a1 a2 n12.left).bind fun r14=>((Zda n12.key n12.rec_ r14 n12.right).bind fun r16=>(some r16)))) else ((Zgs a3 a2).bind fun r18=>(if r18 then ((a3.un).bind fun n21=>((n21.left.un).bind fun n23=>((Zda a0 a1 a2 n23.left).bind fun r25=>((Zda n21.key n21.rec_ n23.right n21.right).bind fun r27=>((Zda n23.key n23.rec_ r25 r27).bind fun r29=>(some r29)))))) else ((Zgs a2 a3).bind fun r31=>((gd r31 (a2.un)).bind fun n33=>((gd r31 (Zb8 n33.right)).bind fun r35=>((gd r31 (a2.un)).bind fun n37=>((gd r31 (Zb8 n37.left)).bind fun r39=>(if (r31 && (decide ((IntKind.i64.wrap (r35 + (1:Int))) < (IntKind.i64.wrap ((2:Int) * (IntKind.i64.wrap (r39 + (1:Int)))))))) then ((a2.un).bind fun n42=>((Zda a0 a1 n42.right a3).bind fun r44=>((Zda n42.key n42.rec_ n42.left r44).bind fun r46=>(some r46)))) else ((Zgs a2 a3).bind fun r48=>(if r48 then ((a2.un).bind fun n51=>((n51.right.un).bind fun n53=>((Zda n51.key n51.rec_ n51.left n53.left).bind fun r55=>((Zda a0 a1 n53.right a3).bind fun r57=>((Zda n53.key n53.rec_ r55 r57).bind fun r59=>(some r59)))))) else ((Zda a0 a1 a2 a3).bind fun r61=>(some r61))))))))))))))))))
def Zg9 (self:shelf_nodeT → ByteArray → Zb → Option (shelf_nodeT)) (a0:shelf_nodeT) (a1:ByteArray) (a2:Zb):Option (shelf_nodeT):=(if a0.isNil then ((Zda a1 a2 shelf_nodeT.nil shelf_nodeT.nil).bind fun r2=>(some r2)) else ((a0.un).bind fun n4=>(if (sLt a1 n4.key) then ((self n4.left a1 a2).bind fun r7=>((Zj8 n4.key n4.rec_ r7 n4.right).bind fun r9=>(some r9))) else (if (!(sLt a1 n4.key || sEq a1 n4.key)) then ((self n4.right a1 a2).bind fun r12=>((Zj8 n4.key n4.rec_ n4.left r12).bind fun r14=>(some r14))) else ((Zda a1 a2 n4.left n4.right).bind fun r16=>(some r16))))))
def Zei:Nat → shelf_nodeT → ByteArray → Zb → Option (shelf_nodeT)
 | 0=>fun _ _ _=>none
 | n + 1=>Zg9 (Zei n)
def Zlc (a0:shelf_nodeT) (a1:ByteArray) (a2:Zb):Option (shelf_nodeT):=Zei (a0.hh + 1) a0 a1 a2
def Zc6 (a0:Zj) (a1:ByteArray) (a2:Zb):Option (Zj × Int):=(if ((sEq a1 (⟨#[]⟩:ByteArray)) || (decide ((24:Int) < (a1.size:Int)))) then (some (a0,(1:Int))) else ((Zcv a2).bind fun r2=>(if (r2 != (0:Int)) then (some (a0,r2)) else ((Zfj a0 a1).bind fun r5=>((gd (!r5.2) (Zc7 a0)).bind fun r7=>(if ((!r5.2) && (decide (a0.room ≤ r7))) then (some (a0,(8:Int))) else ((Zfc a2).bind fun r10=>((Zlc a0.top a1 r10).bind fun r12=>(some (({ top:=r12,room:=a0.room }:Zj),(0:Int)))))))))))
def Ze1 (a0:Nat):Option (Bool):=(some (fneq a0 a0))
def Zfm (a0:Nat):Option (Bool):=(if (feql a0 (0:Nat)) then ((Ieee.double.div (4607182418800017408:Nat) a0).bind fun f2=>(some (flss f2 (0:Nat)))) else (some (flss a0 (0:Nat))))
def Ze3 (a0:Nat) (a1:Nat):Option (Bool):=((Ze1 a0).bind fun r1=>(if r1 then (some false) else ((Ze1 a1).bind fun r4=>(if r4 then (some true) else (if ((feql a0 (0:Nat)) && (feql a1 (0:Nat))) then ((Zfm a0).bind fun r8=>((gd r8 (Zfm a1)).bind fun r10=>(some (r8 && (!r10))))) else (some (flss a0 a1)))))))
def Zek (a0:Nat) (a1:Nat):Option (Bool):=((Ze3 a0 a1).bind fun r1=>((gd (!r1) (Ze3 a1 a0)).bind fun r3=>(some ((!r1) && (!r3)))))
def Zft (a0:Nat):Option (Bool):=((Zek a0 (0:Nat)).bind fun r1=>(some r1))
def Zcf (a1:ByteArray):Nat → (Bool) → (Bool) → (Bool) → (Bool) → (Bool) → (Int) → Option (Bool × Bool × Bool × Bool × Bool)
 | 0,_,_,_,_,_,_=>none
 | n + 1,x1,x2,x3,x4,x5,x6=>(if (decide (x6 < (a1.size:Int))) then ((gd (!x1) (sidx a1 x6)).bind fun b8=>((gd (!x2) (sidx a1 x6)).bind fun b10=>((gd (!x3) (sidx a1 x6)).bind fun b12=>((gd (!x4) (sidx a1 x6)).bind fun b14=>((gd (!x5) (sidx a1 x6)).bind fun b16=>((Zcf a1 n) (x1 || (b8 == (116:Int))) (x2 || (b10 == (110:Int))) (x3 || (b12 == (98:Int))) (x4 || (b14 == (114:Int))) (x5 || (b16 == (108:Int))) (IntKind.i64.wrap (x6 + (1:Int))))))))) else (some (x1,x2,x3,x4,x5)))
def Zg5 (a0:Zb) (a1:ByteArray):Option (Bool):=((Zcf a1 (Int.toNat ((a1.size:Int) - (0:Int)) + 1) false false false false false (0:Int)).bind fun z23=>match z23 with | (y18,y19,y20,y21,y22)=>(if (((((!y18) && (!sEq a0.Text (⟨#[]⟩:ByteArray))) || ((!y19) && (a0.Num != (0:Int)))) || ((!y20) && (a0.Low != (0:Int)))) || ((!y20) && (a0.High != (0:Int)))) then (some false) else ((gd (!y21) (Zft a0.Real)).bind fun r25=>(some ((y21 || r25) && (y22 || ((a0.Cap == (0:Int)) && ((a0.List.length:Int) == (0:Int)))))))))
def Zhu (a0:Int):Option (ByteArray):=(if ((decide (a0 < (1:Int))) || (decide ((9:Int) < a0))) then (some (⟨#[]⟩:ByteArray)) else ((idx ([(⟨#[]⟩:ByteArray),(⟨#[116]⟩:ByteArray),(⟨#[110]⟩:ByteArray),(⟨#[110]⟩:ByteArray),(⟨#[110,98]⟩:ByteArray),(⟨#[114]⟩:ByteArray),(⟨#[114]⟩:ByteArray),(⟨#[114]⟩:ByteArray),(⟨#[108]⟩:ByteArray),(⟨#[108]⟩:ByteArray)]:List ByteArray) a0).bind fun e2=>(some e2)))
def Ze4 (a0:Nat):Option (Bool):=((Ze1 a0).bind fun r1=>(some ((!r1) || ((a0:Int) == (9221120237041090561:Int)))))
def Zgi (a0:Zu) (a1:Zu):Option (Bool):=((Ze3 a1.Score a0.Score).bind fun r1=>(if r1 then (some true) else ((Zek a0.Score a1.Score).bind fun r4=>(some (r4 && (sLt a0.Name a1.Name))))))
def Zg1 (a0:Int) (a1:List Zu) (a2:Int):Option (Int):=((idx a1 a2).bind fun e1=>(if (decide ((16:Int) < (e1.Name.size:Int))) then (some (3:Int)) else ((gd (a0 == (8:Int)) (Zft e1.Score)).bind fun r4=>((gd (!((a0 == (8:Int)) && (!r4))) (Ze4 e1.Score)).bind fun r6=>(if (((a0 == (8:Int)) && (!r4)) || (!r6)) then (some (4:Int)) else ((gd ((decide ((0:Int) < a2)) && (a0 == (8:Int))) (idx a1 (IntKind.i64.wrap (a2 - (1:Int))))).bind fun e9=>(if (((decide ((0:Int) < a2)) && (a0 == (8:Int))) && (!(sLt e9.Name e1.Name))) then (some (4:Int)) else ((gd ((decide ((0:Int) < a2)) && (a0 == (9:Int))) (idx a1 (IntKind.i64.wrap (a2 - (1:Int))))).bind fun e12=>((gd ((decide ((0:Int) < a2)) && (a0 == (9:Int))) (Zgi e12 e1)).bind fun r14=>(if (((decide ((0:Int) < a2)) && (a0 == (9:Int))) && (!r14)) then (some (4:Int)) else (some (0:Int))))))))))))
def Zdf (a0:Zb):Nat → (Int) → Option ((Int) ⊕ (Unit))
 | 0,_=>none
 | n + 1,x15=>(if (decide (x15 < (a0.List.length:Int))) then ((Zg1 a0.Kind a0.List x15).bind fun r17=>(if (r17 != (0:Int)) then (some (.inl r17)) else ((Zdf a0 n) (IntKind.i64.wrap (x15 + (1:Int)))))) else (some (.inr ())))
def Zd7 (a0:Zb):Option (Int):=(if ((decide (a0.Kind < (1:Int))) || (decide ((9:Int) < a0.Kind))) then (some (5:Int)) else ((Zhu a0.Kind).bind fun r2=>((Zg5 a0 r2).bind fun r4=>(if (!r4) then (some (4:Int)) else (if ((a0.Kind == (1:Int)) && (decide ((64:Int) < (a0.Text.size:Int)))) then (some (3:Int)) else (if ((a0.Kind == (4:Int)) && ((((decide (a0.Low < (IntKind.i64.wrap (0 - (2305843009213693952:Int))))) || (decide ((2305843009213693952:Int) < a0.High))) || (decide (a0.Num < a0.Low))) || (decide (a0.High < a0.Num)))) then (some (1:Int)) else ((Ze4 a0.Real).bind fun r9=>(if (!r9) then (some (4:Int)) else (if (decide (a0.Kind < (8:Int))) then (some (0:Int)) else (if ((decide (a0.Cap < (1:Int))) || (decide ((32:Int) < a0.Cap))) then (some (1:Int)) else (if (decide (a0.Cap < (a0.List.length:Int))) then (some (8:Int)) else ((Zdf a0 (Int.toNat ((a0.List.length:Int) - (0:Int)) + 1) (0:Int)).bind fun z20=>match z20 with | .inl r=>some r | .inr ()=>(some (0:Int))))))))))))))
def Zcn (a0:Zn) (a1:ByteArray):Nat → (Int) → Option (Int)
 | 0,_=>none
 | n + 1,x1=>((gd (decide (x1 < (a0.L.length:Int))) (idx a0.L x1)).bind fun e2=>(if ((decide (x1 < (a0.L.length:Int))) && (sLt e2.Key a1)) then ((Zcn a0 a1 n) (IntKind.i64.wrap (x1 + (1:Int)))) else (some x1)))
def Zey (a0:Zn) (a1:ByteArray):Option (Int):=((Zcn a0 a1 (Int.toNat ((a0.L.length:Int) - (0:Int)) + 1) (0:Int)).bind fun z6=>match z6 with | y5=>(some y5))
def Zds (a0:Zn) (a1:ByteArray) (a2:Zb) (c10:List Z3) (j15:Int):Option (Zn × Int):=((cut a0.L j15 (a0.L.length:Int)).bind fun c16=>(if (((([]:List Z3) ++ c10) ++ ([({ Key:=a1,Rec:=a2 }:Z3)]:List Z3)).length + c16.length) * 104 ≤ 140737488355328 then (some (({ L:=(((([]:List Z3) ++ c10) ++ ([({ Key:=a1,Rec:=a2 }:Z3)]:List Z3)) ++ c16),Room:=a0.Room }:Zn),(0:Int))) else none))
def Zfd (a0:Zn) (a1:ByteArray) (a2:Zb):Option (Zn × Int):=(if ((decide ((a1.size:Int) < (1:Int))) || (decide ((24:Int) < (a1.size:Int)))) then (some (a0,(1:Int))) else ((Zd7 a2).bind fun r2=>(if (r2 != (0:Int)) then (some (a0,r2)) else ((Zey a0 a1).bind fun r5=>((gd (decide (r5 < (a0.L.length:Int))) (idx a0.L r5)).bind fun e7=>(if ((!((decide (r5 < (a0.L.length:Int))) && (sEq e7.Key a1))) && (decide (a0.Room ≤ (a0.L.length:Int)))) then (some (a0,(8:Int))) else ((cut a0.L (0:Int) r5).bind fun c10=>(if (([]:List Z3).length + c10.length) * 104 ≤ 140737488355328 then (if ((([]:List Z3) ++ c10).length + ([({ Key:=a1,Rec:=a2 }:Z3)]:List Z3).length) * 104 ≤ 140737488355328 then (if ((decide (r5 < (a0.L.length:Int))) && (sEq e7.Key a1)) then (Zds a0 a1 a2 c10 (IntKind.i64.wrap (r5 + (1:Int)))) else (Zds a0 a1 a2 c10 r5)) else none) else none))))))))
def Zcb (a1:List Z3):Nat → (Zj) → (Zj) → (Zn) → (Int) → Option ((Zj × (Option Zn)) ⊕ (Zj × Zj × Zn))
 | 0,_,_,_,_=>none
 | n + 1,x4,x5,x6,x7=>(if (decide (x7 < (a1.length:Int))) then ((idx a1 x7).bind fun e9=>((gd (!(decide ((100:Int) < (e9.Key.size:Int)))) (Zgb e9.Rec)).bind fun r11=>(if ((decide ((100:Int) < (e9.Key.size:Int))) || (decide ((0:Int) < r11))) then (some (.inl (x5,(none:Option Zn)))) else ((Zc6 x5 e9.Key e9.Rec).bind fun r14=>((Zfd x6 e9.Key e9.Rec).bind fun r16=>((Zcb a1 n) x4 r14.1 r16.1 (IntKind.i64.wrap (x7 + (1:Int))))))))) else (some (.inr (x4,x5,x6))))
def Zd8 (a0:Int) (a1:List Z3):Option (Zj × (Option Zn)):=((Ziy a0).bind fun r1=>(if ((r1.2 != (0:Int)) || (decide ((60:Int) < (a1.length:Int)))) then (some (r1.1,(none:Option Zn))) else ((Zcb a1 (Int.toNat ((a1.length:Int) - (0:Int)) + 1) (default:Zj) r1.1 ({ L:=([]:List Z3),Room:=a0 }:Zn) (0:Int)).bind fun z21=>match z21 with | .inl r=>some r | .inr (y18,y19,y20)=>(some (y19,(some y20))))))
def Zgm (x2:Zb) (kk:(Int) → (Zb) → (shelf_nodeT) → Option ((ByteArray × Zb × Bool) ⊕ (Zb))) (j13:Int) (j14:shelf_nodeT):Option ((ByteArray × Zb × Bool) ⊕ (Zb)):=(kk j13 x2 j14)
def Zdd:Nat → (Int) → (Zb) → (shelf_nodeT) → Option ((ByteArray × Zb × Bool) ⊕ (Zb))
 | 0,_,_,_=>none
 | n + 1,x1,x2,x3=>(if (!x3.isNil) then ((x3.un).bind fun n5=>((Zb8 n5.left).bind fun r7=>(if (decide (x1 < r7)) then (Zgm x2 (Zdd n) x1 n5.left) else (if (decide (r7 < x1)) then (Zgm x2 (Zdd n) (IntKind.i64.wrap (x1 - (IntKind.i64.wrap (r7 + (1:Int))))) n5.right) else ((Zfc n5.rec_).bind fun r11=>(some (.inl (n5.key,r11,true)))))))) else (some (.inr x2)))
def Zen (a0:Zj) (a1:Int):Option (ByteArray × Zb × Bool):=((Zdd (a0.top.hh + 1) a1 (default:Zb) a0.top).bind fun z16=>match z16 with | .inl r=>some r | .inr y15=>(some ((⟨#[]⟩:ByteArray),({ Kind:=(0:Int),Num:=(0:Int),Low:=(0:Int),High:=(0:Int),Real:=(0:Nat),Cap:=(0:Int),Text:=ByteArray.empty,List:=([]:List Zu) }:Zb),false)))
def Zne (a0:Int):Option (Zcr):=(if ((decide (a0 ≤ (0:Int))) || (decide ((22:Int) ≤ a0))) then (some ({ word:=ByteArray.empty,on:=(0:Int),has:=ByteArray.empty }:Zcr)) else ((idx g_1 a0).bind fun e2=>(some e2)))
def Zbj (a0:List Zu) (a1:List Zu) (φ2:Zu → Zu → Option Bool):Nat → (Int) → Option ((Bool) ⊕ (Unit))
 | 0,_=>none
 | n + 1,x2=>(if (decide (x2 < (a0.length:Int))) then ((idx a0 x2).bind fun e4=>((idx a1 x2).bind fun e6=>((φ2 e4 e6).bind fun r8=>(if (!r8) then (some (.inl false)) else ((Zbj a0 a1 φ2 n) (IntKind.i64.wrap (x2 + (1:Int)))))))) else (some (.inr ())))
def Zb2 (a0:List Zu) (a1:List Zu) (φ2:Zu → Zu → Option Bool):Option (Bool):=(if ((a0.length:Int) != (a1.length:Int)) then (some false) else ((Zbj a0 a1 φ2 (Int.toNat ((a0.length:Int) - (0:Int)) + 1) (0:Int)).bind fun z11=>match z11 with | .inl r=>some r | .inr ()=>(some true)))
def Zhw (a0:Zu) (a1:Zu):Option (Bool):=((gd (sEq a0.Name a1.Name) (Zia a0.Score a1.Score)).bind fun r1=>(some ((sEq a0.Name a1.Name) && r1)))
def Zll (a0:Zb) (a1:Zb):Option (Bool):=((gd ((((a0.Kind == a1.Kind) && (a0.Num == a1.Num)) && (a0.Low == a1.Low)) && (a0.High == a1.High)) (Zia a0.Real a1.Real)).bind fun r1=>((gd (((((((a0.Kind == a1.Kind) && (a0.Num == a1.Num)) && (a0.Low == a1.Low)) && (a0.High == a1.High)) && r1) && (a0.Cap == a1.Cap)) && (sEq a0.Text a1.Text)) (Zb2 a0.List a1.List (fun y0 y1=>Zhw y0 y1))).bind fun r3=>(some ((((((((a0.Kind == a1.Kind) && (a0.Num == a1.Num)) && (a0.Low == a1.Low)) && (a0.High == a1.High)) && r1) && (a0.Cap == a1.Cap)) && (sEq a0.Text a1.Text)) && r3))))
def Zgn (a0:Zcr) (a1:Int):Nat → (Int) → Option ((Bool) ⊕ (Unit))
 | 0,_=>none
 | n + 1,x1=>(if (decide (x1 < (a0.has.size:Int))) then ((sidx a0.has x1).bind fun b3=>(if (b3 == a1) then (some (.inl true)) else ((Zgn a0 a1 n) (IntKind.i64.wrap (x1 + (1:Int)))))) else (some (.inr ())))
def Zfu (a0:Zcr) (a1:Int):Option (Bool):=((Zgn a0 a1 (Int.toNat ((a0.has.size:Int) - (0:Int)) + 1) (0:Int)).bind fun z6=>match z6 with | .inl r=>some r | .inr ()=>(some false))
def Zov (a0:Zr) (a1:Zcr):Option (Bool):=((Zfu a1 (110:Int)).bind fun r1=>((gd (r1 || (a0.N == (0:Int))) (Zfu a1 (120:Int))).bind fun r3=>((gd ((r1 || (a0.N == (0:Int))) && (!r3)) (Zia a0.X (0:Nat))).bind fun r5=>((gd ((r1 || (a0.N == (0:Int))) && (r3 || r5)) (Zfu a1 (115:Int))).bind fun r7=>((gd (((r1 || (a0.N == (0:Int))) && (r3 || r5)) && (r7 || (sEq a0.S (⟨#[]⟩:ByteArray)))) (Zfu a1 (109:Int))).bind fun r9=>((gd ((((r1 || (a0.N == (0:Int))) && (r3 || r5)) && (r7 || (sEq a0.S (⟨#[]⟩:ByteArray)))) && (!r9)) (Zll a0.Make ({ Kind:=(0:Int),Num:=(0:Int),Low:=(0:Int),High:=(0:Int),Real:=(0:Nat),Cap:=(0:Int),Text:=ByteArray.empty,List:=([]:List Zu) }:Zb))).bind fun r11=>(some ((((r1 || (a0.N == (0:Int))) && (r3 || r5)) && (r7 || (sEq a0.S (⟨#[]⟩:ByteArray)))) && (r9 || r11)))))))))
def Zo2 (a0:Zcr):Option (Int):=(if (a0.on == (1:Int)) then (some (64:Int)) else (some (16:Int)))
def Zf7 (a0:Zr):Option (Int):=((Zne a0.Kind).bind fun r1=>(if (sEq r1.word (⟨#[]⟩:ByteArray)) then (some (5:Int)) else (if ((sEq a0.Key (⟨#[]⟩:ByteArray)) || (decide ((24:Int) < (a0.Key.size:Int)))) then (some (1:Int)) else ((Zov a0 r1).bind fun r5=>(if (!r5) then (some (4:Int)) else ((Zo2 r1).bind fun r8=>(if (decide (r8 < (a0.S.size:Int))) then (some (3:Int)) else (if (((a0.Kind == (10:Int)) || (a0.Kind == (11:Int))) && ((decide (a0.N < (0:Int))) || (decide ((2305843009213693952:Int) < a0.N)))) then (some (1:Int)) else ((Zhl a0.X).bind fun r12=>(if (!r12) then (some (4:Int)) else (if (a0.Kind == (1:Int)) then ((Zcv a0.Make).bind fun r16=>(some r16)) else (some (0:Int)))))))))))))
def Zge (a0:Zbq):Nat → (Int) → Option ((Int × Int) ⊕ (Unit))
 | 0,_=>none
 | n + 1,x2=>(if (decide (x2 < (a0.Acts.length:Int))) then ((idx a0.Acts x2).bind fun e4=>((Zf7 e4).bind fun r6=>(if (r6 != (0:Int)) then (some (.inl (r6,(IntKind.i64.wrap (x2 + (1:Int)))))) else ((Zge a0 n) (IntKind.i64.wrap (x2 + (1:Int))))))) else (some (.inr ())))
def Zho (a0:Zbq):Option (Int × Int):=(if (((a0.Acts.length:Int) == (0:Int)) || (decide ((12:Int) < (a0.Acts.length:Int)))) then (some ((1:Int),(0:Int))) else ((Zge a0 (Int.toNat ((a0.Acts.length:Int) - (0:Int)) + 1) (0:Int)).bind fun z9=>match z9 with | .inl r=>some r | .inr ()=>(some ((0:Int),(0:Int)))))
def Zg2 (a0:List ByteArray) (a1:ByteArray):Option ByteArray:=if a0.length ≤ 1000000 ∧ (Lib.join (a0.map (·.data.toList)) a1.data.toList).length ≤ 140737488355328 then some ⟨(Lib.join (a0.map (·.data.toList)) a1.data.toList).toArray⟩ else none
def Znr:List ByteArray:=[⟨#[]⟩,⟨#[116,101,120,116]⟩,⟨#[115,117,109]⟩,⟨#[99,111,117,110,116]⟩,⟨#[112,117,114,115,101]⟩,⟨#[112,101,97,107]⟩,⟨#[100,105,112]⟩,⟨#[108,101,118,101,108]⟩,⟨#[115,101,116]⟩,⟨#[116,111,112]⟩]
def Zm9 (a0:Int):Option ByteArray:=if 1 ≤ a0 ∧ a0 ≤ 9 then idx Znr a0 else none
def hexL (n:Nat):UInt8:=if n < 10 then UInt8.ofNat (48 + n) else UInt8.ofNat (87 + n)
def hexD:Nat → Nat → List UInt8
 | 0,u=>[hexL (u % 16)]
 | k + 1,u=>if u < 16 then [hexL (u % 16)] else hexD k (u / 16) ++ [hexL (u % 16)]
def Zh7 (a0:Int) (a1:Int):Option ByteArray:=if a1=16 ∧ 0 ≤ a0 ∧ a0 < 18446744073709551616 then some ⟨(hexD 15 a0.toNat).toArray⟩ else none
def Zj6 (a0:ByteArray) (a1:Int):Option ByteArray:=if 0 ≤ a1 ∧ a1 ≤ 9223372036854775807 ∧ a0.size * a1.toNat ≤ 140737488355328 then some ⟨(Lib.repeatL a0.data.toList a1.toNat).toArray⟩ else none
def Zix (a0:Nat):Option (ByteArray):=((Zjf a0).bind fun r1=>((Zh7 r1 (16:Int)).bind fun r3=>((Zj6 (⟨#[48]⟩:ByteArray) (IntKind.i64.wrap ((16:Int) - (r3.size:Int)))).bind fun r5=>(if r5.size + r3.size ≤ 9223372036854775807 then (some (r5 ++ r3)) else none))))
def Zd4 (j49:List ByteArray):Option (ByteArray):=((Zg2 j49 (⟨#[32]⟩:ByteArray)).bind fun r50=>(some r50))
def Zg0 (x35:Int) (e37:Zu) (kk:(List ByteArray) → (Int) → Option (List ByteArray)) (j43:List ByteArray):Option (List ByteArray):=((Zgv e37.Name).bind fun r44=>(if (j43.length + ([r44]:List ByteArray).length) * 16 ≤ 140737488355328 then (kk (j43 ++ ([r44]:List ByteArray)) (IntKind.i64.wrap (x35 + (1:Int)))) else none))
def Zd6 (a0:Zb):Nat → (List ByteArray) → (Int) → Option (List ByteArray)
 | 0,_,_=>none
 | n + 1,x34,x35=>(if (decide (x35 < (a0.List.length:Int))) then ((idx a0.List x35).bind fun e37=>(if (a0.Kind == (9:Int)) then ((Zix e37.Score).bind fun r40=>(if (x34.length + ([r40]:List ByteArray).length) * 16 ≤ 140737488355328 then (Zg0 x35 e37 (Zd6 a0 n) (x34 ++ ([r40]:List ByteArray))) else none)) else (Zg0 x35 e37 (Zd6 a0 n) x34))) else (some x34))
def Zep (a0:Zb) (r4:ByteArray) (j26:Bool):Option (ByteArray):=(if j26 then ((Zix a0.Real).bind fun r28=>(if (([r4]:List ByteArray).length + ([r28]:List ByteArray).length) * 16 ≤ 140737488355328 then (Zd4 (([r4]:List ByteArray) ++ ([r28]:List ByteArray))) else none)) else ((Zfx a0.Cap).bind fun r31=>(if (([r4]:List ByteArray).length + ([r31]:List ByteArray).length) * 16 ≤ 140737488355328 then ((Zd6 a0 (Int.toNat ((a0.List.length:Int) - (0:Int)) + 1) (([r4]:List ByteArray) ++ ([r31]:List ByteArray)) (0:Int)).bind fun z48=>match z48 with | y47=>(Zd4 y47)) else none)))
def Zfa (a0:Zb) (r4:ByteArray) (j11:Bool):Option (ByteArray):=(if j11 then ((Zfx a0.Num).bind fun r13=>(if (([r4]:List ByteArray).length + ([r13]:List ByteArray).length) * 16 ≤ 140737488355328 then (Zd4 (([r4]:List ByteArray) ++ ([r13]:List ByteArray))) else none)) else (if (a0.Kind == (4:Int)) then ((Zfx a0.Low).bind fun r17=>((Zfx a0.High).bind fun r19=>((Zfx a0.Num).bind fun r21=>(if (([r4]:List ByteArray).length + ([r17,r19,r21]:List ByteArray).length) * 16 ≤ 140737488355328 then (Zd4 (([r4]:List ByteArray) ++ ([r17,r19,r21]:List ByteArray))) else none)))) else (if (a0.Kind == (5:Int)) then (Zep a0 r4 (a0.Kind == (5:Int))) else (if (a0.Kind == (6:Int)) then (Zep a0 r4 (a0.Kind == (6:Int))) else (Zep a0 r4 (a0.Kind == (7:Int)))))))
def Zib (a0:Zb):Option (ByteArray):=((Zcv a0).bind fun r1=>(if (r1 != (0:Int)) then (some (⟨#[]⟩:ByteArray)) else ((Zm9 a0.Kind).bind fun r4=>(if (a0.Kind == (1:Int)) then ((Zgv a0.Text).bind fun r7=>(if (([r4]:List ByteArray).length + ([r7]:List ByteArray).length) * 16 ≤ 140737488355328 then (Zd4 (([r4]:List ByteArray) ++ ([r7]:List ByteArray))) else none)) else (if (a0.Kind == (2:Int)) then (Zfa a0 r4 (a0.Kind == (2:Int))) else (Zfa a0 r4 (a0.Kind == (3:Int))))))))
def Zm5 (a0:Int):Option (ByteArray):=((Zne a0).bind fun r1=>(some r1.word))
def Zes (a0:Int) (a1:Int):Option (Bool):=((Zne a0).bind fun r1=>((Zfu r1 a1).bind fun r3=>(some r3)))
def Zkj (j44:ByteArray):Option (ByteArray):=(some j44)
def Zkm (a0:Zr) (j36:ByteArray):Option (ByteArray):=((Zes a0.Kind (109:Int)).bind fun r37=>(if r37 then ((Zib a0.Make).bind fun r40=>(if (⟨#[32]⟩:ByteArray).size + r40.size ≤ 9223372036854775807 then (if j36.size + ((⟨#[32]⟩:ByteArray) ++ r40).size ≤ 9223372036854775807 then (Zkj (j36 ++ ((⟨#[32]⟩:ByteArray) ++ r40))) else none) else none)) else (Zkj j36)))
def Zkq (a0:Zr) (j28:ByteArray):Option (ByteArray):=((Zes a0.Kind (115:Int)).bind fun r29=>(if r29 then ((Zgv a0.S).bind fun r32=>(if (⟨#[32]⟩:ByteArray).size + r32.size ≤ 9223372036854775807 then (if j28.size + ((⟨#[32]⟩:ByteArray) ++ r32).size ≤ 9223372036854775807 then (Zkm a0 (j28 ++ ((⟨#[32]⟩:ByteArray) ++ r32))) else none) else none)) else (Zkm a0 j28)))
def Zko (a0:Zr) (j20:ByteArray):Option (ByteArray):=((Zes a0.Kind (120:Int)).bind fun r21=>(if r21 then ((Zix a0.X).bind fun r24=>(if (⟨#[32]⟩:ByteArray).size + r24.size ≤ 9223372036854775807 then (if j20.size + ((⟨#[32]⟩:ByteArray) ++ r24).size ≤ 9223372036854775807 then (Zkq a0 (j20 ++ ((⟨#[32]⟩:ByteArray) ++ r24))) else none) else none)) else (Zkq a0 j20)))
def Zkh (a0:Zr) (j12:ByteArray):Option (ByteArray):=((Zes a0.Kind (110:Int)).bind fun r13=>(if r13 then ((Zfx a0.N).bind fun r16=>(if (⟨#[32]⟩:ByteArray).size + r16.size ≤ 9223372036854775807 then (if j12.size + ((⟨#[32]⟩:ByteArray) ++ r16).size ≤ 9223372036854775807 then (Zko a0 (j12 ++ ((⟨#[32]⟩:ByteArray) ++ r16))) else none) else none)) else (Zko a0 j12)))
def Zm4 (a0:Zr):Option (ByteArray):=((Zf7 a0).bind fun r1=>(if (r1 != (0:Int)) then (some (⟨#[]⟩:ByteArray)) else ((Zm5 a0.Kind).bind fun r4=>(if r4.size + (⟨#[32]⟩:ByteArray).size ≤ 9223372036854775807 then ((Zgv a0.Key).bind fun r7=>(if (r4 ++ (⟨#[32]⟩:ByteArray)).size + r7.size ≤ 9223372036854775807 then (if a0.Must then (if (⟨#[33]⟩:ByteArray).size + ((r4 ++ (⟨#[32]⟩:ByteArray)) ++ r7).size ≤ 9223372036854775807 then (Zkh a0 ((⟨#[33]⟩:ByteArray) ++ ((r4 ++ (⟨#[32]⟩:ByteArray)) ++ r7))) else none) else (Zkh a0 ((r4 ++ (⟨#[32]⟩:ByteArray)) ++ r7))) else none)) else none))))
def Zg7 (a0:Zbq):Nat → (List ByteArray) → (Int) → Option (List ByteArray)
 | 0,_,_=>none
 | n + 1,x4,x5=>(if (decide (x5 < (a0.Acts.length:Int))) then ((idx a0.Acts x5).bind fun e7=>((Zm4 e7).bind fun r9=>(if (x4.length + ([r9]:List ByteArray).length) * 16 ≤ 140737488355328 then ((Zg7 a0 n) (x4 ++ ([r9]:List ByteArray)) (IntKind.i64.wrap (x5 + (1:Int)))) else none))) else (some x4))
def Zjz (a0:Zbq):Option (ByteArray):=((Zho a0).bind fun r1=>(if (r1.1 != (0:Int)) then (some (⟨#[]⟩:ByteArray)) else ((Zg7 a0 (Int.toNat ((a0.Acts.length:Int) - (0:Int)) + 1) ([]:List ByteArray) (0:Int)).bind fun z13=>match z13 with | y12=>((Zg2 y12 (⟨#[59,32]⟩:ByteArray)).bind fun r14=>(some r14)))))
def Zim (a0:Int):Option (Bool):=(some (((((decide ((97:Int) ≤ a0)) && (decide (a0 ≤ (122:Int)))) || ((decide ((48:Int) ≤ a0)) && (decide (a0 ≤ (57:Int))))) || (a0 == (95:Int))) || (a0 == (46:Int))))
def Zew (x3:Int) (kk:(List Int) → (Int) → Option (List Int)) (j22:List Int):Option (List Int):=(kk j22 (IntKind.i64.wrap (x3 + (1:Int))))
def Zcx (a0:ByteArray):Nat → (List Int) → (Int) → Option (List Int)
 | 0,_,_=>none
 | n + 1,x2,x3=>(if (decide (x3 < (a0.size:Int))) then ((sidx a0 x3).bind fun b5=>((Zim b5).bind fun r7=>(if r7 then ((sidx a0 x3).bind fun b10=>(if (x2.length + ([b10]:List Int).length) * 1 ≤ 140737488355328 then (Zew x3 (Zcx a0 n) (x2 ++ ([b10]:List Int))) else none)) else ((sidx a0 x3).bind fun b13=>((sidx (⟨#[48,49,50,51,52,53,54,55,56,57,65,66,67,68,69,70]⟩:ByteArray) (IntKind.u8.wrap (Int.tdiv b13 (16:Int)))).bind fun b15=>((sidx a0 x3).bind fun b17=>((sidx (⟨#[48,49,50,51,52,53,54,55,56,57,65,66,67,68,69,70]⟩:ByteArray) (Int.tmod b17 (16:Int))).bind fun b19=>(if (x2.length + ([(37:Int),b15,b19]:List Int).length) * 1 ≤ 140737488355328 then (Zew x3 (Zcx a0 n) (x2 ++ ([(37:Int),b15,b19]:List Int))) else none)))))))) else (some x2))
def Zfw (a0:ByteArray):Option (ByteArray):=(if (sEq a0 (⟨#[]⟩:ByteArray)) then (some (⟨#[37]⟩:ByteArray)) else ((Zcx a0 (Int.toNat ((a0.size:Int) - (0:Int)) + 1) ([]:List Int) (0:Int)).bind fun z24=>match z24 with | y23=>(some (bstr y23))))
def Ze0 (a0:ByteArray) (a1:ByteArray):Option (List ByteArray):=if a0.size < 4294967281 ∧ 1 ≤ a1.size then some (Lib.splitB a1 0 (Lib.countB a0 a1) a0) else none
def Zro (a0:Unit):Option (Bool):=(if true then (some false) else none)
def Zih (a0:ByteArray) (a1:ByteArray):Option (ByteArray × Bool):=some (⟨(Lib.trimPrefix a0.data.toList a1.data.toList).toArray⟩,Lib.hasPrefix a0.data.toList a1.data.toList)
def Zhn (a0:Z0):Option (ByteArray × Z0):=((idx a0.l (0:Int)).bind fun e2=>((cut a0.l (1:Int) (a0.l.length:Int)).bind fun c4=>(some (e2,({ a0 with l:=c4 }:Z0)))))
def Zdu (a0:Z0):Option (ByteArray × Z0):=(if ((a0.l.length:Int) == (0:Int)) then none else (Zhn a0))
def Zle (a0:Int):Option (Int × Bool):=(if ((decide ((48:Int) ≤ a0)) && (decide (a0 ≤ (57:Int)))) then (some ((IntKind.u8.wrap (a0 - (48:Int))),true)) else (if ((decide ((65:Int) ≤ a0)) && (decide (a0 ≤ (70:Int)))) then (some ((IntKind.u8.wrap ((IntKind.u8.wrap (a0 - (65:Int))) + (10:Int))),true)) else (some ((0:Int),false))))
def Zio (kk:(List Int) → (Int) → Option ((ByteArray × Bool) ⊕ (List Int))) (j28:List Int) (j29:Int):Option ((ByteArray × Bool) ⊕ (List Int)):=(kk j28 (IntKind.i64.wrap (j29 + (1:Int))))
def Zeh (a0:ByteArray):Nat → (List Int) → (Int) → Option ((ByteArray × Bool) ⊕ (List Int))
 | 0,_,_=>none
 | n + 1,x2,x3=>(if (decide (x3 < (a0.size:Int))) then ((sidx a0 x3).bind fun b5=>((Zj3 b5).bind fun r7=>(if r7 then ((sidx a0 x3).bind fun b10=>(if (x2.length + ([b10]:List Int).length) * 1 ≤ 140737488355328 then (Zio (Zeh a0 n) (x2 ++ ([b10]:List Int)) x3) else none)) else ((sidx a0 x3).bind fun b13=>(if ((b13 != (37:Int)) || (decide ((a0.size:Int) ≤ (IntKind.i64.wrap (x3 + (2:Int)))))) then (some (.inl ((⟨#[]⟩:ByteArray),false))) else ((sidx a0 (IntKind.i64.wrap (x3 + (1:Int)))).bind fun b16=>((Zle b16).bind fun r18=>((sidx a0 (IntKind.i64.wrap (x3 + (2:Int)))).bind fun b20=>((Zle b20).bind fun r22=>((gd (!((!r18.2) || (!r22.2))) (Zj3 (bOr .u8 (IntKind.u8.wrap (r18.1 * 2 ^ 4)) r22.1))).bind fun r24=>(if (((!r18.2) || (!r22.2)) || r24) then (some (.inl ((⟨#[]⟩:ByteArray),false))) else (if (x2.length + ([(bOr .u8 (IntKind.u8.wrap (r18.1 * 2 ^ 4)) r22.1)]:List Int).length) * 1 ≤ 140737488355328 then (Zio (Zeh a0 n) (x2 ++ ([(bOr .u8 (IntKind.u8.wrap (r18.1 * 2 ^ 4)) r22.1)]:List Int)) (IntKind.i64.wrap (x3 + (2:Int)))) else none)))))))))))) else (some (.inr x2)))
def Zl4 (a0:ByteArray):Option (ByteArray × Bool):=(if (sEq a0 (⟨#[37]⟩:ByteArray)) then (some ((⟨#[]⟩:ByteArray),true)) else ((Zeh a0 (Int.toNat ((a0.size:Int) - (0:Int)) + 1) ([]:List Int) (0:Int)).bind fun z31=>match z31 with | .inl r=>some r | .inr y30=>(some ((bstr y30),(decide ((0:Int) < (y30.length:Int)))))))
def Zhz (r1:ByteArray × Z0) (r3:ByteArray × Bool):Option (ByteArray × Z0):=(some (r3.1,r1.2))
def Zet (a0:Z0):Option (ByteArray × Z0):=((Zdu a0).bind fun r1=>((Zl4 r1.1).bind fun r3=>(if (!r3.2) then none else (Zhz r1 r3))))
def Zci (a0:Int):Option (Int):=(some (bOr .u8 a0 (32:Int)))
def Zel (x29:Int) (kk:(Int) → (Int) → Option ((Bool) ⊕ (Int))) (j49:Int):Option ((Bool) ⊕ (Int)):=(kk j49 (IntKind.i64.wrap (x29 + (1:Int))))
def Zcu (a0:ByteArray) (j27:Bool):Nat → (Int) → (Int) → Option ((Bool) ⊕ (Int))
 | 0,_,_=>none
 | n + 1,x28,x29=>(if (decide (x29 < (a0.size:Int))) then ((sidx a0 x29).bind fun b31=>((gd (decide ((48:Int) ≤ b31)) (sidx a0 x29)).bind fun b33=>((gd ((!((decide ((48:Int) ≤ b31)) && (decide (b33 ≤ (57:Int))))) && j27) (sidx a0 x29)).bind fun b35=>((gd ((!((decide ((48:Int) ≤ b31)) && (decide (b33 ≤ (57:Int))))) && j27) (Zci b35)).bind fun r37=>((gd ((!((decide ((48:Int) ≤ b31)) && (decide (b33 ≤ (57:Int))))) && (j27 && (decide ((97:Int) ≤ r37)))) (sidx a0 x29)).bind fun b39=>((gd ((!((decide ((48:Int) ≤ b31)) && (decide (b33 ≤ (57:Int))))) && (j27 && (decide ((97:Int) ≤ r37)))) (Zci b39)).bind fun r41=>(if (((decide ((48:Int) ≤ b31)) && (decide (b33 ≤ (57:Int)))) || ((j27 && (decide ((97:Int) ≤ r37))) && (decide (r41 ≤ (102:Int))))) then (Zel x29 (Zcu a0 j27 n) (48:Int)) else ((sidx a0 x29).bind fun b44=>(if (b44 == (95:Int)) then (if (x28 != (48:Int)) then (some (.inl false)) else (Zel x29 (Zcu a0 j27 n) (95:Int))) else (if (x28 == (95:Int)) then (some (.inl false)) else (Zel x29 (Zcu a0 j27 n) (33:Int)))))))))))) else (some (.inr x28)))
def Zfk (a0:ByteArray) (j25:Int) (j26:Int) (j27:Bool):Option (Bool):=((Zcu a0 j27 (Int.toNat ((a0.size:Int) - j26) + 1) j25 j26).bind fun z51=>match z51 with | .inl r=>some r | .inr y50=>(some (y50 != (95:Int))))
def Zg4 (a0:ByteArray):Option (Bool):=((gd (decide ((2:Int) ≤ (a0.size:Int))) (sidx a0 (0:Int))).bind fun b6=>((gd ((decide ((2:Int) ≤ (a0.size:Int))) && (b6 == (48:Int))) (sidx a0 (1:Int))).bind fun b8=>((gd ((decide ((2:Int) ≤ (a0.size:Int))) && (b6 == (48:Int))) (Zci b8)).bind fun r10=>((gd (((decide ((2:Int) ≤ (a0.size:Int))) && (b6 == (48:Int))) && (!(r10 == (98:Int)))) (sidx a0 (1:Int))).bind fun b12=>((gd (((decide ((2:Int) ≤ (a0.size:Int))) && (b6 == (48:Int))) && (!(r10 == (98:Int)))) (Zci b12)).bind fun r14=>((gd (((decide ((2:Int) ≤ (a0.size:Int))) && (b6 == (48:Int))) && (!((r10 == (98:Int)) || (r14 == (111:Int))))) (sidx a0 (1:Int))).bind fun b16=>((gd (((decide ((2:Int) ≤ (a0.size:Int))) && (b6 == (48:Int))) && (!((r10 == (98:Int)) || (r14 == (111:Int))))) (Zci b16)).bind fun r18=>(if (((decide ((2:Int) ≤ (a0.size:Int))) && (b6 == (48:Int))) && (((r10 == (98:Int)) || (r14 == (111:Int))) || (r18 == (120:Int)))) then ((sidx a0 (1:Int)).bind fun b21=>((Zci b21).bind fun r23=>(Zfk a0 (48:Int) (2:Int) (r23 == (120:Int))))) else (Zfk a0 (94:Int) (0:Int) false)))))))))
def Zis (a0:ByteArray):Option (Bool):=((gd (decide ((1:Int) ≤ (a0.size:Int))) (sidx a0 (0:Int))).bind fun b1=>((gd ((decide ((1:Int) ≤ (a0.size:Int))) && (!(b1 == (45:Int)))) (sidx a0 (0:Int))).bind fun b3=>(if ((decide ((1:Int) ≤ (a0.size:Int))) && ((b1 == (45:Int)) || (b3 == (43:Int)))) then none else (Zg4 a0))))
def Zfb (x34:Int) (kk:(Bool) → (Int) → (Int) → Option ((Int × Unit) ⊕ (Bool × Int))) (j51:Bool) (j52:Int):Option ((Int × Unit) ⊕ (Bool × Int)):=(kk j51 j52 (IntKind.i64.wrap (x34 + (1:Int))))
def Zef (j22:Int) (j25:Int) (j29:Int) (x32:Bool) (x33:Int) (x34:Int) (kk:(Bool) → (Int) → (Int) → Option ((Int × Unit) ⊕ (Bool × Int))) (j47:Int):Option ((Int × Unit) ⊕ (Bool × Int)):=(if (decide ((IntKind.u8.wrap j22) ≤ j47)) then none else (if (decide (j29 ≤ x33)) then none else (if ((decide ((IntKind.u64.wrap ((IntKind.u64.wrap (x33 * (IntKind.u64.wrap j22))) + (IntKind.u64.wrap j47))) < (IntKind.u64.wrap (x33 * (IntKind.u64.wrap j22))))) || (decide ((IntKind.u64.wrap ((IntKind.u64.wrap ((1:Int) * 2 ^ (min (Int.toNat (IntKind.u64.wrap j25)) (IntKind.u64).bits))) - (1:Int))) < (IntKind.u64.wrap ((IntKind.u64.wrap (x33 * (IntKind.u64.wrap j22))) + (IntKind.u64.wrap j47)))))) then none else (Zfb x34 kk x32 (IntKind.u64.wrap ((IntKind.u64.wrap (x33 * (IntKind.u64.wrap j22))) + (IntKind.u64.wrap j47)))))))
def Zb1 (a0:ByteArray) (a1:Int) (j22:Int) (j25:Int) (j29:Int):Nat → (Bool) → (Int) → (Int) → Option ((Int × Unit) ⊕ (Bool × Int))
 | 0,_,_,_=>none
 | n + 1,x32,x33,x34=>(if (decide (x34 < ((bts a0).length:Int))) then ((idx (bts a0) x34).bind fun e36=>(if ((e36 == (95:Int)) && (a1 == (0:Int))) then (Zfb x34 (Zb1 a0 a1 j22 j25 j29 n) true x33) else (if ((decide ((48:Int) ≤ e36)) && (decide (e36 ≤ (57:Int)))) then (Zef j22 j25 j29 x32 x33 x34 (Zb1 a0 a1 j22 j25 j29 n) (IntKind.u8.wrap (e36 - (48:Int)))) else ((Zci e36).bind fun r40=>((gd (decide ((97:Int) ≤ r40)) (Zci e36)).bind fun r42=>(if ((decide ((97:Int) ≤ r40)) && (decide (r42 ≤ (122:Int)))) then ((Zci e36).bind fun r45=>(Zef j22 j25 j29 x32 x33 x34 (Zb1 a0 a1 j22 j25 j29 n) (IntKind.u8.wrap ((IntKind.u8.wrap (r45 - (97:Int))) + (10:Int))))) else none)))))) else (some (.inr (x32,x33))))
def Zee (a0:ByteArray) (a1:Int) (j22:Int) (j25:Int) (j29:Int):Option (Int × Unit):=(if 0 ≤ (IntKind.u64.wrap j25) then (if a0.size ≤ 9223372036854775807 then ((Zb1 a0 a1 j22 j25 j29 (Int.toNat (((bts a0).length:Int) - (0:Int)) + 1) false (0:Int) (0:Int)).bind fun z55=>match z55 with | .inl r=>some r | .inr (y53,y54)=>((gd y53 (Zis a0)).bind fun r56=>(if (y53 && (!r56)) then none else (some (y54,()))))) else none) else none)
def Ze6 (a0:ByteArray) (a1:Int) (j22:Int) (j25:Int):Option (Int × Unit):=(if (j22 == (10:Int)) then (Zee a0 a1 j22 j25 (1844674407370955162:Int)) else (if (j22 == (16:Int)) then (Zee a0 a1 j22 j25 (1152921504606846976:Int)) else (if (IntKind.u64.wrap j22) ≠ (0:Int) then (Zee a0 a1 j22 j25 (IntKind.u64.wrap ((IntKind.u64.wrap (Int.tdiv (18446744073709551615:Int) (IntKind.u64.wrap j22))) + (1:Int)))) else none)))
def Ze8 (a0:ByteArray) (a1:Int) (a2:Int) (j22:Int):Option (Int × Unit):=(if (a2 == (0:Int)) then (Ze6 a0 a1 j22 (64:Int)) else (if ((decide (a2 < (0:Int))) || (decide ((64:Int) < a2))) then none else (Ze6 a0 a1 j22 a2)))
def Zhm (a0:ByteArray) (a1:Int) (a2:Int):Option (Int × Unit):=(if (sEq a0 (⟨#[]⟩:ByteArray)) then none else (if ((decide ((2:Int) ≤ a1)) && (decide (a1 ≤ (36:Int)))) then (Ze8 a0 a1 a2 a1) else (if (a1 == (0:Int)) then ((sidx a0 (0:Int)).bind fun b4=>(if (b4 == (48:Int)) then ((gd (decide ((3:Int) ≤ (a0.size:Int))) (sidx a0 (1:Int))).bind fun b7=>((gd (decide ((3:Int) ≤ (a0.size:Int))) (Zci b7)).bind fun r9=>(if ((decide ((3:Int) ≤ (a0.size:Int))) && (r9 == (98:Int))) then none else ((gd (decide ((3:Int) ≤ (a0.size:Int))) (sidx a0 (1:Int))).bind fun b12=>((gd (decide ((3:Int) ≤ (a0.size:Int))) (Zci b12)).bind fun r14=>(if ((decide ((3:Int) ≤ (a0.size:Int))) && (r14 == (111:Int))) then none else ((gd (decide ((3:Int) ≤ (a0.size:Int))) (sidx a0 (1:Int))).bind fun b17=>((gd (decide ((3:Int) ≤ (a0.size:Int))) (Zci b17)).bind fun r19=>(if ((decide ((3:Int) ≤ (a0.size:Int))) && (r19 == (120:Int))) then none else none))))))))) else (Ze8 a0 a1 a2 (10:Int)))) else none)))
def Zi3 (a0:ByteArray) (a1:Int) (a2:Int):Option (Int × Unit):=if a1=10 ∧ a2=64 ∧ a0.size ≤ 9223372036854775806 then (match Lib.parseIntB 64 a0.data.toList with | .ok v=>some (v,()) | _=>none) else none
def Zig (r1:ByteArray × Z0) (r3:Int × Unit):Option (Int × Z0):=(some (r3.1,r1.2))
def Zd2 (a0:Z0):Option (Int × Z0):=((Zdu a0).bind fun r1=>((Zi3 r1.1 (10:Int) (64:Int)).bind fun r3=>((gd (!false) (Zfx r3.1)).bind fun r5=>(if (false || (!sEq r5 r1.1)) then none else (Zig r1 r3)))))
def Zgg (a0:ByteArray) (a1:Int) (a2:Int):Option (Int × Unit):=((Zhm a0 a1 a2).bind fun r1=>(if false then none else (some (r1.1,()))))
def Zjd (a0:Int) (j2:Int):Option (Nat × Bool):=((Zjf (Int.toNat j2)).bind fun r3=>(if (r3 != a0) then (some ((0:Nat),false)) else (some ((Int.toNat j2),true))))
def Zlj (a0:Int):Option (Nat × Bool):=(if ((bAnd .u64 a0 (9223372036854775808:Int)) != (0:Int)) then (Zjd a0 (Zoo .u64 a0 (9223372036854775808:Int))) else (Zjd a0 (bXor .u64 IntKind.u64.max a0)))
def Zh1 (r1:ByteArray × Z0) (r5:Nat × Bool):Option (Nat × Z0):=(some (r5.1,r1.2))
def Zeu (a0:Z0):Option (Nat × Z0):=((Zdu a0).bind fun r1=>((Zgg r1.1 (16:Int) (64:Int)).bind fun r3=>((Zlj r3.1).bind fun r5=>((gd (!(false || (!r5.2))) (Zix r5.1)).bind fun r7=>(if ((false || (!r5.2)) || (!sEq r7 r1.1)) then none else (Zh1 r1 r5))))))
def Zc1 (j53:Zb) (j54:Z0):Option (Zb × Z0):=(some (j53,j54))
def Zd0 (x39:Zb) (kk:(Zb) → (Z0) → Option (Zb × Z0)) (j45:Zu) (j46:Z0):Option (Zb × Z0):=((Zet j46).bind fun r47=>(if (x39.List.length + ([({ j45 with Name:=r47.1 })]:List Zu).length) * 24 ≤ 140737488355328 then (kk ({ x39 with List:=(x39.List ++ ([({ j45 with Name:=r47.1 })]:List Zu)) }:Zb) r47.2) else none))
def Zca:Nat → (Zb) → (Z0) → Option (Zb × Z0)
 | 0,_,_=>none
 | n + 1,x39,x40=>(if (decide ((0:Int) < (x40.l.length:Int))) then (if (x39.Kind == (9:Int)) then ((Zeu x40).bind fun r43=>(Zd0 x39 (Zca n) ({ (default:Zu) with Score:=r43.1 }) r43.2)) else (Zd0 x39 (Zca n) (default:Zu) x40)) else (some (x39,x40)))
def Zgq (y11:Zb) (r36:Int × Z0):Option (Zb × Z0):=((Zca (Int.toNat ((r36.2.l.length:Int) - (0:Int)) + 1) ({ y11 with Cap:=r36.1 }:Zb) r36.2).bind fun z52=>match z52 with | (y50,y51)=>(Zc1 y50 y51))
def Zc3 (y11:Zb) (y12:Z0) (j32:Bool):Option (Zb × Z0):=(if j32 then ((Zeu y12).bind fun r34=>(Zc1 ({ y11 with Real:=r34.1 }:Zb) r34.2)) else ((Zd2 y12).bind fun r36=>(if ((decide (r36.1 < (1:Int))) || (decide ((32:Int) < r36.1))) then none else (Zgq y11 r36))))
def Zdg (y11:Zb) (y12:Z0) (j19:Bool):Option (Zb × Z0):=(if j19 then ((Zd2 y12).bind fun r21=>(Zc1 ({ y11 with Num:=r21.1 }:Zb) r21.2)) else (if (y11.Kind == (4:Int)) then ((Zd2 y12).bind fun r24=>((Zd2 r24.2).bind fun r26=>((Zd2 r26.2).bind fun r28=>(Zc1 ({ ({ ({ y11 with Low:=r24.1 }:Zb) with High:=r26.1 }:Zb) with Num:=r28.1 }:Zb) r28.2)))) else (if (y11.Kind == (5:Int)) then (Zc3 y11 y12 (y11.Kind == (5:Int))) else (if (y11.Kind == (6:Int)) then (Zc3 y11 y12 (y11.Kind == (6:Int))) else (Zc3 y11 y12 (y11.Kind == (7:Int)))))))
def Zgp (x4:Int) (x5:Z0) (kk:(Zb) → (Int) → (Z0) → Option (Zb × Z0)) (j10:Zb):Option (Zb × Z0):=(kk j10 (IntKind.i64.wrap (x4 + (1:Int))) x5)
def Zdk (r1:ByteArray × Z0):Nat → (Zb) → (Int) → (Z0) → Option (Zb × Z0)
 | 0,_,_,_=>none
 | n + 1,x3,x4,x5=>(if (decide (x4 < (10:Int))) then ((Zm9 x4).bind fun r7=>(if (sEq r7 r1.1) then (Zgp x4 x5 (Zdk r1 n) ({ x3 with Kind:=x4 }:Zb)) else (Zgp x4 x5 (Zdk r1 n) x3))) else (some (x3,x5)))
def Zgj (a0:Z0):Option (Zb × Z0):=((Zdu a0).bind fun r1=>((Zdk r1 (Int.toNat ((10:Int) - (1:Int)) + 1) (default:Zb) (1:Int) r1.2).bind fun z13=>match z13 with | (y11,y12)=>(if (y11.Kind == (0:Int)) then none else (if (y11.Kind == (1:Int)) then ((Zet y12).bind fun r16=>(Zc1 ({ y11 with Text:=r16.1 }:Zb) r16.2)) else (if (y11.Kind == (2:Int)) then (Zdg y11 y12 (y11.Kind == (2:Int))) else (Zdg y11 y12 (y11.Kind == (3:Int))))))))
def Zjo (j46:Zr):Option (Zr × Int):=((Zf7 j46).bind fun r48=>(if (r48 != (0:Int)) then (some (({ Kind:=(0:Int),Key:=ByteArray.empty,N:=(0:Int),X:=(0:Nat),S:=ByteArray.empty,Make:=(default:Zb),Must:=false }:Zr),r48)) else (some (j46,(0:Int)))))
def Zhy (j45:Z0) (j46:Zr):Option (Zr × Int):=(if (decide ((0:Int) < (j45.l.length:Int))) then none else (Zjo j46))
def Zhx (j38:Z0) (j39:Zr):Option (Zr × Int):=((Zes j39.Kind (109:Int)).bind fun r40=>(if r40 then ((Zgj j38).bind fun r43=>(Zhy r43.2 ({ j39 with Make:=r43.1 }))) else (Zhy j38 j39)))
def Zhs (j31:Z0) (j32:Zr):Option (Zr × Int):=((Zes j32.Kind (115:Int)).bind fun r33=>(if r33 then ((Zet j31).bind fun r36=>(Zhx r36.2 ({ j32 with S:=r36.1 }))) else (Zhx j31 j32)))
def Zh0 (j24:Z0) (j25:Zr):Option (Zr × Int):=((Zes j25.Kind (120:Int)).bind fun r26=>(if r26 then ((Zeu j24).bind fun r29=>(Zhs r29.2 ({ j25 with X:=r29.1 }))) else (Zhs j24 j25)))
def Zjn (r3:ByteArray × Z0) (y14:Zr):Option (Zr × Int):=((Zet r3.2).bind fun r17=>((Zes (({ y14 with Key:=r17.1 }).Kind) (110:Int)).bind fun r19=>(if r19 then ((Zd2 r17.2).bind fun r22=>(Zh0 r22.2 ({ ({ y14 with Key:=r17.1 }) with N:=r22.1 }))) else (Zh0 r17.2 ({ y14 with Key:=r17.1 })))))
def Zjk (x8:Int) (kk:(Zr) → (Int) → Option (Zr)) (j13:Zr):Option (Zr):=(kk j13 (IntKind.i64.wrap (x8 + (1:Int))))
def Zer (r5:ByteArray × Bool):Nat → (Zr) → (Int) → Option (Zr)
 | 0,_,_=>none
 | n + 1,x7,x8=>(if (decide (x8 < (22:Int))) then ((Zm5 x8).bind fun r10=>(if (sEq r10 r5.1) then (Zjk x8 (Zer r5 n) ({ x7 with Kind:=x8 })) else (Zjk x8 (Zer r5 n) x7))) else (some x7))
def Zj1 (a0:ByteArray):Option (Zr × Int):=((Ze0 a0 (⟨#[32]⟩:ByteArray)).bind fun r1=>((Zdu ({ l:=r1 }:Z0)).bind fun r3=>((Zih r3.1 (⟨#[33]⟩:ByteArray)).bind fun r5=>((Zer r5 (Int.toNat ((22:Int) - (1:Int)) + 1) ({ Kind:=(0:Int),Key:=ByteArray.empty,N:=(0:Int),X:=(0:Nat),S:=ByteArray.empty,Make:=(default:Zb),Must:=r5.2 }:Zr) (1:Int)).bind fun z15=>match z15 with | y14=>(if (y14.Kind == (0:Int)) then none else (Zjn r3 y14))))))
def Ze2 (r1:List ByteArray):Nat → (Zbq) → (Zbq) → (Int) → Option ((Zbq × Int) ⊕ (Zbq × Zbq))
 | 0,_,_,_=>none
 | n + 1,x3,x4,x5=>(if (decide (x5 < (r1.length:Int))) then ((idx r1 x5).bind fun e7=>((Zj1 e7).bind fun r9=>(if (r9.2 != (0:Int)) then (some (.inl (({ Acts:=([]:List Zr) }:Zbq),r9.2))) else (if (x4.Acts.length + ([r9.1]:List Zr).length) * 152 ≤ 140737488355328 then ((Ze2 r1 n) x3 ({ x4 with Acts:=(x4.Acts ++ ([r9.1]:List Zr)) }:Zbq) (IntKind.i64.wrap (x5 + (1:Int)))) else none)))) else (some (.inr (x3,x4))))
def Zhh (a0:ByteArray):Option (Zbq × Int):=((Ze0 a0 (⟨#[59,32]⟩:ByteArray)).bind fun r1=>((Ze2 r1 (Int.toNat ((r1.length:Int) - (0:Int)) + 1) (default:Zbq) (default:Zbq) (0:Int)).bind fun z15=>match z15 with | .inl r=>some r | .inr (y13,y14)=>((Zho y14).bind fun r16=>(if (r16.1 != (0:Int)) then (some (({ Acts:=([]:List Zr) }:Zbq),r16.1)) else (some (y14,(0:Int)))))))
def Zh2 (a0:Zr):Option (Int):=((gd (!((decide ((200:Int) < (a0.Key.size:Int))) || (decide ((1000:Int) < (a0.S.size:Int))))) (Zgb a0.Make)).bind fun r1=>(if (((decide ((200:Int) < (a0.Key.size:Int))) || (decide ((1000:Int) < (a0.S.size:Int)))) || (decide ((0:Int) < r1))) then (some (1:Int)) else (some (0:Int))))
def Zeg (a0:Zbq):Nat → (Int) → Option ((Int) ⊕ (Unit))
 | 0,_=>none
 | n + 1,x2=>(if (decide (x2 < (a0.Acts.length:Int))) then ((idx a0.Acts x2).bind fun e4=>((Zh2 e4).bind fun r6=>(if (decide ((0:Int) < r6)) then (some (.inl (1:Int))) else ((Zeg a0 n) (IntKind.i64.wrap (x2 + (1:Int))))))) else (some (.inr ())))
def Zgd (a0:Zbq):Option (Int):=(if (decide ((40:Int) < (a0.Acts.length:Int))) then (some (1:Int)) else ((Zeg a0 (Int.toNat ((a0.Acts.length:Int) - (0:Int)) + 1) (0:Int)).bind fun z9=>match z9 with | .inl r=>some r | .inr ()=>(some (0:Int))))
def Zxe (a0:Int):Option (Int):=((Zne a0).bind fun r1=>(some r1.on))
def Zha (a0:Int) (a1:Zb) (a2:Bool):Option (Zb × Bool × Zbb × Zb):=(some (a1,a2,({ Code:=a0,Num:=(0:Int),Rec:=(default:Zb) }:Zbb),a1))
def Zi6 (a1:Bool) (a2:Zr) (r3:Zb):Option (Zb × Bool × Zbb):=(if ((a2.Kind == (1:Int)) && a1) then ((Zha (7:Int) r3 a1).bind fun r17=>(some (r17.1,r17.2.1,r17.2.2.1))) else (if (a2.Kind == (1:Int)) then ((Zfc a2.Make).bind fun r20=>(some (r20,true,({ Code:=(0:Int),Num:=(0:Int),Rec:=(default:Zb) }:Zbb)))) else (if (a2.Kind == (3:Int)) then (some (r3,a1,({ Code:=(0:Int),Num:=r3.Kind,Rec:=(default:Zb) }:Zbb))) else (if (!a1) then ((Zha (6:Int) r3 a1).bind fun r24=>(some (r24.1,r24.2.1,r24.2.2.1))) else (if (a2.Kind == (2:Int)) then (some (({ Kind:=(0:Int),Num:=(0:Int),Low:=(0:Int),High:=(0:Int),Real:=(0:Nat),Cap:=(0:Int),Text:=ByteArray.empty,List:=([]:List Zu) }:Zb),false,({ Code:=(0:Int),Num:=(0:Int),Rec:=(default:Zb) }:Zbb))) else (if (a2.Kind == (4:Int)) then ((Zfc r3).bind fun r28=>(some (r3,a1,({ Code:=(0:Int),Num:=(0:Int),Rec:=r28 }:Zbb)))) else ((Zxe a2.Kind).bind fun r30=>(if (r30 != r3.Kind) then ((Zha (5:Int) r3 a1).bind fun r33=>(some (r33.1,r33.2.1,r33.2.2.1))) else ((Zfc r3).bind fun r35=>none)))))))))
def Zi5 (a1:Bool) (a2:Zr) (j2:Zb):Option (Zb × Bool × Zbb):=((Zfc j2).bind fun r3=>((Zf7 a2).bind fun r5=>(if (r5 != (0:Int)) then ((Zha r5 r3 a1).bind fun r8=>(some (r8.1,r8.2.1,r8.2.2.1))) else (if a1 then ((Zcv r3).bind fun r11=>(if (r11 != (0:Int)) then ((Zha r11 r3 a1).bind fun r14=>(some (r14.1,r14.2.1,r14.2.2.1))) else (Zi6 a1 a2 r3))) else (Zi6 a1 a2 r3)))))
def Zk1 (a0:Zb) (a1:Bool) (a2:Zr):Option (Zb × Bool × Zbb):=(if (!a1) then (Zi5 a1 a2 ({ Kind:=(0:Int),Num:=(0:Int),Low:=(0:Int),High:=(0:Int),Real:=(0:Nat),Cap:=(0:Int),Text:=ByteArray.empty,List:=([]:List Zu) }:Zb)) else (Zi5 a1 a2 a0))
def Znf (a0:Int):Option (Bool):=(some (((((a0 == (3:Int)) || (a0 == (4:Int))) || (a0 == (9:Int))) || (a0 == (12:Int))) || (a0 == (20:Int))))
def Zmu (a0:Zj) (a1:Zr):Option (Zj × Zbb):=((Zfj a0 a1.Key).bind fun r1=>((Zk1 r1.1 r1.2 a1).bind fun r3=>((gd (!(r3.2.2.Code != (0:Int))) (Znf a1.Kind)).bind fun r5=>(if ((r3.2.2.Code != (0:Int)) || r5) then (some (a0,r3.2.2)) else (if (!r3.2.1) then none else ((Zc6 a0 a1.Key r3.1).bind fun r9=>(if (r9.2 != (0:Int)) then (some (a0,({ Code:=r9.2,Num:=(0:Int),Rec:=(default:Zb) }:Zbb))) else (some (r9.1,r3.2.2)))))))))
def Znb (a1:Zbb):Option (Zbb):=(some a1)
def Zlv (a0:Zr) (a1:Zbb) (a2:Int):Option (Zbb):=(if (a0.Must && (a1.Code != (0:Int))) then none else (Znb a1))
def Zlg:Option (Zdm):=none
def Zki (a0:Zr) (a1:Zbb) (a2:Int):Option (Zdm):=(if (a0.Must && (a1.Code != (0:Int))) then (some ({ code:=a1.Code,at_:=a2 }:Zdm)) else (Zlg))
def Zid (a0:Zj) (a1:Zbq):Nat → (Zbv) → (Zj) → (Int) → Option ((Zj × Zbv) ⊕ (Zbv × Zj))
 | 0,_,_,_=>none
 | n + 1,x4,x5,x6=>(if (decide (x6 < (a1.Acts.length:Int))) then ((idx a1.Acts x6).bind fun e8=>((Zmu x5 e8).bind fun r10=>(Zxq (Zki e8 r10.2 (IntKind.i64.wrap (x6 + (1:Int)))) (fun p12=>(some (.inl (a0,({ Code:=p12.code,At:=p12.at_,Answers:=([]:List Zbb) }:Zbv))))) ((Zlv e8 r10.2 (IntKind.i64.wrap (x6 + (1:Int)))).bind fun r14=>(if (x4.Answers.length + ([r14]:List Zbb).length) * 104 ≤ 140737488355328 then ((Zid a0 a1 n) ({ x4 with Answers:=(x4.Answers ++ ([r14]:List Zbb)) }:Zbv) r10.1 (IntKind.i64.wrap (x6 + (1:Int)))) else none))))) else (some (.inr (x4,x5))))
def Zlk (a0:Zj) (a1:Zbq):Option (Zj × Zbv):=((Zho a1).bind fun r1=>(if (r1.1 != (0:Int)) then (some (a0,({ Code:=r1.1,At:=r1.2,Answers:=([]:List Zbb) }:Zbv))) else ((Zid a0 a1 (Int.toNat ((a1.Acts.length:Int) - (0:Int)) + 1) (default:Zbv) a0 (0:Int)).bind fun z19=>match z19 with | .inl r=>some r | .inr (y17,y18)=>(some (y18,y17)))))
def Zfp (a0:Zj) (a1:Zj) (r6:Int):Nat → (Int) → Option ((Bool) ⊕ (Unit))
 | 0,_=>none
 | n + 1,x8=>(if (decide (x8 < r6)) then ((Zen a0 x8).bind fun r10=>((Zen a1 x8).bind fun r12=>((gd (!(!sEq r10.1 r12.1)) (Zll r10.2.1 r12.2.1)).bind fun r14=>(if ((!sEq r10.1 r12.1) || (!r14)) then (some (.inl false)) else ((Zfp a0 a1 r6 n) (IntKind.i64.wrap (x8 + (1:Int)))))))) else (some (.inr ())))
def Zj2 (a0:Zj) (a1:Zj):Option (Bool):=((Zc7 a0).bind fun r1=>((Zc7 a1).bind fun r3=>(if (r1 != r3) then (some false) else ((Zc7 a0).bind fun r6=>((Zfp a0 a1 r6 (Int.toNat (r6 - (0:Int)) + 1) (0:Int)).bind fun z17=>match z17 with | .inl r=>some r | .inr ()=>(some true))))))
def Ziz (a0:Zj):Option (Int):=(some a0.room)
def Zdn (a0:Zb) (a1:Zb):Nat → (Int) → Option ((Bool) ⊕ (Unit))
 | 0,_=>none
 | n + 1,x5=>(if (decide (x5 < (a0.List.length:Int))) then ((idx a0.List x5).bind fun e7=>((idx a1.List x5).bind fun e9=>((gd (!(!sEq e7.Name e9.Name)) (idx a0.List x5)).bind fun e11=>((gd (!(!sEq e7.Name e9.Name)) (idx a1.List x5)).bind fun e13=>((gd (!(!sEq e7.Name e9.Name)) (Zek e11.Score e13.Score)).bind fun r15=>(if ((!sEq e7.Name e9.Name) || (!r15)) then (some (.inl false)) else ((Zdn a0 a1 n) (IntKind.i64.wrap (x5 + (1:Int)))))))))) else (some (.inr ())))
def Zg3 (a0:Zb) (a1:Zb):Option (Bool):=(if ((((((a0.Kind != a1.Kind) || (a0.Num != a1.Num)) || (a0.Low != a1.Low)) || (a0.High != a1.High)) || (a0.Cap != a1.Cap)) || (!sEq a0.Text a1.Text)) then (some false) else ((Zek a0.Real a1.Real).bind fun r2=>(if ((!r2) || ((a0.List.length:Int) != (a1.List.length:Int))) then (some false) else ((Zdn a0 a1 (Int.toNat ((a0.List.length:Int) - (0:Int)) + 1) (0:Int)).bind fun z18=>match z18 with | .inl r=>some r | .inr ()=>(some true)))))
def Zd9 (a0:Zj) (a1:Zn):Nat → (Int) → Option ((Int) ⊕ (Unit))
 | 0,_=>none
 | n + 1,x6=>(if (decide (x6 < (a1.L.length:Int))) then ((idx a1.L x6).bind fun e8=>((Zen a0 x6).bind fun r10=>((gd (!((!r10.2.2) || (!sEq r10.1 e8.Key))) (Zg3 r10.2.1 e8.Rec)).bind fun r12=>(if (((!r10.2.2) || (!sEq r10.1 e8.Key)) || (!r12)) then (some (.inl (0:Int))) else ((Zd9 a0 a1 n) (IntKind.i64.wrap (x6 + (1:Int)))))))) else (some (.inr ())))
def Zip (a0:Zj) (a1:Zn):Option (Int):=((Zc7 a0).bind fun r1=>((gd (!(r1 != (a1.L.length:Int))) (Ziz a0)).bind fun r3=>(if ((r1 != (a1.L.length:Int)) || (r3 != a1.Room)) then (some (0:Int)) else ((Zd9 a0 a1 (Int.toNat ((a1.L.length:Int) - (0:Int)) + 1) (0:Int)).bind fun z15=>match z15 with | .inl r=>some r | .inr ()=>(some (1:Int))))))
def Zc4 (r6:Zj × (Option Zn)) (r11:Int):Nat → (Zj) → (Int) → Option ((Bool) ⊕ (Zj))
 | 0,_,_=>none
 | n + 1,x13,x14=>(if (decide (x14 < r11)) then ((Zen r6.1 x14).bind fun r16=>((Zjz ({ Acts:=([({ Kind:=(1:Int),Key:=r16.1,N:=(0:Int),X:=(0:Nat),S:=ByteArray.empty,Make:=r16.2.1,Must:=true }:Zr)]:List Zr) }:Zbq)).bind fun r18=>((Zfw r16.1).bind fun r20=>(if (⟨#[33,110,101,119,32]⟩:ByteArray).size + r20.size ≤ 9223372036854775807 then (if ((⟨#[33,110,101,119,32]⟩:ByteArray) ++ r20).size + (⟨#[32]⟩:ByteArray).size ≤ 9223372036854775807 then ((Zib r16.2.1).bind fun r24=>(if (((⟨#[33,110,101,119,32]⟩:ByteArray) ++ r20) ++ (⟨#[32]⟩:ByteArray)).size + r24.size ≤ 9223372036854775807 then (if (!sEq r18 ((((⟨#[33,110,101,119,32]⟩:ByteArray) ++ r20) ++ (⟨#[32]⟩:ByteArray)) ++ r24)) then (some (.inl false)) else ((Zhh r18).bind fun r28=>((gd (!(r28.2 != (0:Int))) (Zgd r28.1)).bind fun r30=>(if ((r28.2 != (0:Int)) || ((decide ((0:Int) < r30)) && ((r28.1.Acts.length:Int) != (1:Int)))) then (some (.inl false)) else ((Zlk x13 r28.1).bind fun r33=>(if (r33.2.Code != (0:Int)) then (some (.inl false)) else ((Zc4 r6 r11 n) r33.1 (IntKind.i64.wrap (x14 + (1:Int)))))))))) else none)) else none) else none)))) else (some (.inr x13)))
def Zhf (a0:Int) (a1:List Z3):Option (Bool):=((Zgv (⟨#[]⟩:ByteArray)).bind fun r1=>((gd (!(!sEq r1 (⟨#[37]⟩:ByteArray))) (Zfx (-3:Int))).bind fun r3=>(if ((!sEq r1 (⟨#[37]⟩:ByteArray)) || (!sEq r3 (⟨#[45,51]⟩:ByteArray))) then (some false) else ((Zd8 a0 a1).bind fun r6=>(if r6.2.isNone then (some true) else ((Ziy a0).bind fun r9=>((Zc7 r6.1).bind fun r11=>((Zc4 r6 r11 (Int.toNat (r11 - (0:Int)) + 1) r9.1 (0:Int)).bind fun z37=>match z37 with | .inl r=>some r | .inr y36=>((Zj2 r6.1 y36).bind fun r38=>((gd r38 (r6.2)).bind fun n40=>((gd r38 (Zip y36 n40)).bind fun r42=>(some (r38 && (r42 == (1:Int)))))))))))))))
def Zn1 (x:Zu):Prop:=(x.Score < 2 ^ 64) ∧ (x.Name.size ≤ maxLen)
def Zkr (x:Zb):Prop:=((IntKind.i64).min ≤ x.Kind ∧ x.Kind ≤ (IntKind.i64).max) ∧ ((IntKind.i64).min ≤ x.Num ∧ x.Num ≤ (IntKind.i64).max) ∧ ((IntKind.i64).min ≤ x.Low ∧ x.Low ≤ (IntKind.i64).max) ∧ ((IntKind.i64).min ≤ x.High ∧ x.High ≤ (IntKind.i64).max) ∧ (x.Real < 2 ^ 64) ∧ ((IntKind.i64).min ≤ x.Cap ∧ x.Cap ≤ (IntKind.i64).max) ∧ (x.Text.size ≤ maxLen) ∧ (x.List.length ≤ maxLen ∧ ∀ e0 ∈ x.List,(Zn1 e0))
def Zea (x:Z3):Prop:=(x.Key.size ≤ maxLen) ∧ (Zkr x.Rec)
end Go.CL
