/- A part of the proof of WholeLots. -/
import Derived.Test.YtblhcbpleiohaaaGreatDoorWholeLotsC2
import Derived.Test.YtblhcbpleiohaaaGreatDoorProg
set_option linter.unusedVariables false
set_option linter.unusedSimpArgs false
set_option maxRecDepth 100000
namespace Go.CL
open Go Go.RowKit
section
variable {P:Program} {N:Nat} {o:Oper} {uses outs:Zbd} {S:List Nat} {d:Nat} {q:Pd} {x y z:Operand} {α β:Type} {dk:Kd α} {t e j:Nat} {xv:α}
def Z4p (P:Program) (f:FuncId) (A:List Pd) (dk:Kd α) (x:α):Prop:=∀ (g:G) (args:List Value),ArgsOk A g args →
 Calls P f args.toArray g.w (fun en w'=>∃ g' b,en=.returned (Z22 b) ∧ w'=g'.w ∧ Zt8 (fun _=>False) g g' ∧ g.w.heap.size ≤ b ∧ Zwf dk x g' b)
def Zbd9 (dk:Kd α) (x:α) (g0:G) (v:Value) (g1:G):Prop:=Base g0 g1 ∧ ∃ b,v=Z22 b ∧ g0.w.heap.size ≤ b ∧ Zwf dk x g1 b
theorem Z94 {f : FuncId} {fn : Func} {cd : Code} {A : List Pd} (hf : P.funcs[f]? = some fn) (hb : fn.body = some cd) (hn : fn.ntmps = N) (hAN : A.length ≤ N) (hA : Free A)
   (h:∀ (a:Act) (g:G),(∀ b,g.own b=0) → St N (Zme A 0) a g → Base g g → cd.wp P (bodyPost P fn (FinP (Zbd9 dk xv g))) a g.w):Z4p P f A dk xv:=by
 intro g args hargs
 refine Calls.mono (calls_of_wp hf hb (h _ g.bare (fun _=>rfl) (Z5j (Zrm g) rfl hargs (by simpa [Free] using hA) hAN hn) (Zq0 g))) ?_
 rintro en w' ⟨g1,v,rfl,rfl,hB,b,rfl,h1,h2⟩
 exact ⟨g1,b,rfl,rfl,⟨⟨hB.le.size,hB.le.pr,hB.le.cell,hB.le.blk,hB.le.dr⟩,hB.os,hB.tape,hB.output,fun b hb _=>⟨(hB.same b hb rfl).1,(hB.same b hb rfl).2.1⟩⟩,h1,h2⟩
theorem Zbiz {fn:Func} {r:ResultVar} {v:Value} {a:Act} {g g0:G} {L:Zbd} (hr:fn.results=#[r]) (h0:∀ b,g0.own b=0) (h:St N L a g) (hb:Base g0 g) (h1:Ziu P a g r v) (hq:(pBox dk j xv).p g v):bodyPost P fn (FinP (Zbd9 dk xv g0)) .ret a g.w:=by
 refine endP hr h h1 ⟨hb,?_⟩
 obtain ⟨b,cs,t,rfl,⟨m1,m2,m3,m4,m5,m6⟩,_⟩:=hq
 refine ⟨b,rfl,Nat.le_of_not_lt fun hlt=>?_,m1,⟨cs,t,m4,m5⟩,m6⟩
 have:=(hb.same b hlt (h0 b)).2.2
 rw [m2] at this;omega
theorem Z6c {f:FuncId} {xo:List Operand} {A:List Pd} {ty:Array TypeId} (he:Zk P f) (hok:Z4p P f A dk xv) (hop:o.op=.call { callee:=.value (.func f),args:=xo.toArray,argTypes:=ty }) (hd:o.dst=some d) (hargs:OpdL uses xo A):OB P N o uses [(d,pBox dk j xv)] [j + 1]:=by
 intro a g K Q hN hdN hu hK
 have hr:(execOp a.eval o).run P g.w=.ok (.enter f (xo.map a.eval).toArray) g.w:=by
   simp [execOp,hop,resolve,Act.eval,Deferred.ofValue,invoke,Zh1 he]
 unfold Oper.wp
 rw [hr]
 show Calls P f _ g.w _
 refine Calls.mono (hok g _ (hargs.ok hu)) ?_
 rintro en w' ⟨g',b,rfl,rfl,hS,hb,h1,⟨cs,t',h2,h3⟩,h4⟩
 let g2:G:=⟨g'.w,g'.pr,fun c=>if c < g.w.heap.size then (if g.own c=j + 1 then 0 else g.own c) else if c=b then j + 1 else 0,g'.hpr,g'.gl⟩
 have hle:g'.le g2:=⟨Nat.le_refl _,fun _ _ h=>h,fun _ _ _=>rfl,fun _ _=>rfl,Nat.le_refl _⟩
 have ho:∀ c,g2.own c=if c < g.w.heap.size then (if g.own c=j + 1 then 0 else g.own c) else if c=b then j + 1 else 0:=fun _=>rfl
 refine hK _ g2 ⟨⟨hS.le.size,hS.le.pr,hS.le.cell,hS.le.blk,hS.le.dr⟩,hS.os,hS.tape,hS.output,fun c hc hn=>⟨(hS.same c hc id).1,(hS.same c hc id).2,by rw [ho,if_pos hc,if_neg (by simpa using hn)]⟩,fun c k1 k2=>?_,fun c hc hn=>.inl (by rw [ho,if_pos hc,if_pos (by simpa using hn)])⟩ fun e' he'=>?_
 · rw [ho,if_neg (by omega)]
   split <;> simp
 · rw [List.mem_singleton.1 he',hd,Zed _ (by rw [hN];exact hdN d hd)]
   refine ⟨b,cs,t',rfl,⟨h1,by rw [ho,if_neg (by omega),if_pos rfl],fun c hc hoc=>?_,h2,dk.mono hle h3,h4⟩,fun _ h=>by cases h⟩
   rw [ho] at hoc
   split at hoc
   · split at hoc
     · omega
     · rename_i h;exact absurd hoc h
   · split at hoc
     · assumption
     · omega
def Z85 (dk:Kd α) (xs:List α):Pd:=⟨fun g v=>∃ A,v=.slice A xs.length xs.length ∧ xs.length ≤ 9223372036854775807 ∧ dk.Row g A xs,[],fun s _ ⟨A,e,h,r⟩=>⟨A,e,h,r.mono s.le⟩⟩
theorem Zbfe {xs:List α} {n:Int} (hn:n=xs.length) (ht:P.underlying t=some (.slice e)) (hs:(P.info? e).map (·.size)=some dk.sz) (hop:o.op=.slice t x none (some y) (some z)) (hd:o.dst=some d) (hx:Opd uses x (dk.sl.pd xs)) (hy:Opd uses y (pInt .i64 n)) (hz:Opd uses z (pInt .i64 n)):OB P N o uses [(d,Z85 dk xs)] [] :=
 Zcg hd fun a g hh=>by
   subst hn
   obtain ⟨A,c,hv,h1,h2,hR⟩:=Kd.sl_V.1 (hx a g hh)
   have hyv:=Zct.1 (hy a g hh)
   have hzv:=Zct.1 (hz a g hh)
   have b1:∀ w cd,(Instr.sliceBound (a.eval z) c cd).run P w=.ok xs.length w:=fun w cd=>by rw [hzv];exact Zi4 rfl h1
   have b2:∀ w cd,(Instr.sliceBound (a.eval y) xs.length cd).run P w=.ok xs.length w:=fun w cd=>by rw [hyv];exact Zi4 rfl (Nat.le_refl _)
   refine ⟨.slice A xs.length xs.length,?_,A,rfl,h2,hR⟩
   cases A with
   | none =>
     have h0:xs.length=0:=by
       rcases hR with h | ⟨b,of,h,_⟩
       · rw [h];rfl
       · cases h
     simp [execOp,hop,hv,Instr.sliceAt,Instr.slice,Instr.sliceBounds,run_underlying ht,b1,b2,Zg5 hs]
   | some A =>
     simp [execOp,hop,hv,Instr.sliceAt,Instr.slice,Instr.sliceBounds,run_underlying ht,b1,b2,Zg5 hs]
     cases A with
     | mk b of pa=>cases pa <;> simp [Addr.add]
theorem Z86 {bytes : Nat} {xs ys : List α} (hT : TE P t e dk bytes) (h0 : 0 < ys.length) (hop : o.op = .call { callee := .builtin .append, args := #[x, y], argTypes := #[t, t] }) (hd : o.dst = some d) (hx : Opd uses x (Z85 dk xs)) (hy : Opd uses y (dk.sl.pd ys))
   (hl:(xs.length + ys.length) * bytes ≤ 140737488355328):OB P N o uses [(d,dk.sl.pd (xs ++ ys))] [] :=
 Zhb hd fun a g hh=>by
   obtain ⟨A0,hx1,hx2,hxr⟩:=hx a g hh
   obtain ⟨A,c,hy1,hy2,hy3,hyr⟩:=Zow (hy a g hh)
   obtain ⟨i,z,hi,hz,hsz,hby,hzs⟩:=hT.info
   have hb0:=hT.by0
   have hlen:xs.length + ys.length ≤ 140737488355328:=Nat.le_trans (Nat.le_mul_of_pos_right _ hb0) hl
   obtain ⟨b2,o2,news,rfl,hnl,hnc,hnk⟩:=hyr.resolve_left (fun h=>by rw [h] at h0;simp at h0)
   have hexec:∀ v w',(Builtin.append_ #[t,t] o.type #[a.eval x,a.eval y]).run P g.w=.ok v w' → (execOp a.eval o).run P g.w=.ok (.value v) w':=fun v w' h=>by
     simp [execOp,hop,resolve,invoke,builtin,h]
   have hnews:∀ k u,news[k]?=some u → g.w.cell? ((⟨b2,o2,none⟩:Addr).add k)=some u:=fun k u hu=>by rw [Zdf];exact (hnc k u hu).2
   have hnl':news.length=ys.length * i.size:=by rw [hsz];exact hnl
   have hlen2:(xs ++ ys).length=xs.length + ys.length:=by simp
   have hge:=grownCap_ge g.w (xs.length + ys.length) xs.length e
   have hmx:=grownCap_le_maxLen g.w (xs.length + ys.length) xs.length e (by simp only [maxLen];omega)
   have hxc:dk.sl.V g xs (.slice A0 xs.length xs.length):=Kd.sl_V.2 ⟨A0,xs.length,rfl,Nat.le_refl _,hx2,hxr⟩
   have fresh : ∀ (olds : List Value), olds.length = xs.length * dk.sz → (∀ k u, xs[k]? = some u → dk.K g u (seg olds (k * dk.sz) dk.sz)) →
       (Builtin.append_ #[t,t] o.type #[a.eval x,a.eval y]).run P g.w=.ok (.slice (some ⟨g.w.heap.size,0,none⟩) (xs.length + ys.length) (grownCap g.w (xs.length + ys.length) xs.length e)) (g.w.drew.alloc (.cells (olds.toArray ++ news.toArray ++ Builtin.zeroCells z.cells (grownCap g.w (xs.length + ys.length) xs.length e - (xs.length + ys.length))) e)) →
       ∃ v g',(execOp a.eval o).run P g.w=.ok (.value v) g'.w ∧ Step [] g g' ∧ (dk.sl.pd (xs ++ ys)).p g' v:=by
     intro olds hol hok hrun
     have hs:=(Step.drew g).trans (Zuf g.drew (olds.toArray ++ news.toArray ++ Builtin.zeroCells z.cells (grownCap g.w (xs.length + ys.length) xs.length e - (xs.length + ys.length))) e (fun _=>True))
     refine ⟨_,_,hexec _ _ hrun,hs,Kd.sl_V.2 ⟨some ⟨g.w.heap.size,0,none⟩,grownCap g.w (xs.length + ys.length) xs.length e,by rw [hlen2],by rw [hlen2];exact hge,by rw [hlen2];omega,.inr ⟨g.w.heap.size,0,rfl,fun k u hu=>?_⟩⟩⟩
     have hk:=(List.getElem?_eq_some_iff.1 hu).1
     have hc:=Ztv g.drew (olds ++ (news ++ (Builtin.zeroCells z.cells (grownCap g.w (xs.length + ys.length) xs.length e - (xs.length + ys.length))).toList)) e 0
     have e1:(olds ++ (news ++ (Builtin.zeroCells z.cells (grownCap g.w (xs.length + ys.length) xs.length e - (xs.length + ys.length))).toList)).toArray=olds.toArray ++ news.toArray ++ Builtin.zeroCells z.cells (grownCap g.w (xs.length + ys.length) xs.length e - (xs.length + ys.length)):=by
       apply Array.ext'
       simp
     rw [e1] at hc
     refine ⟨_,?_,hc.seg (k * dk.sz) dk.sz⟩
     refine dk.mono hs.le ?_
     rw [List.getElem?_append] at hu
     split at hu
     · rename_i hk1
       rw [Zew (by rw [hol];exact Zke hk1)]
       exact hok k u hu
     · rename_i hk1
       have hk2:k - xs.length < ys.length:=(List.getElem?_eq_some_iff.1 hu).1
       rw [show k * dk.sz=olds.length + (k - xs.length) * dk.sz by rw [hol,← Nat.add_mul];congr 1;omega,Zha,Zew (by rw [hnl];exact Zke hk2)]
       exact hnk _ u hu
   rcases hxr with hx0 | ⟨b,of,rfl,hrow⟩
   · subst hx0
     refine fresh [] (by simp) (fun k u hu=>by simp at hu) ?_
     cases A0 with
     | none =>
       have hr:=run_append_nil (P:=P) g.w t o.type e i z hT.und hi hz ⟨b2,o2,none⟩ ys.length c news hnl' hnews h0 (by omega) (by rw [hby];simp at hl;omega)
       rw [hx1,hy1];simpa using hr
     | some A0 =>
       have hr:=run_append_grow (P:=P) g.w t o.type e i z hT.und hi hz A0 0 0 [] (by simp) (fun k u hu=>by simp at hu) ⟨b2,o2,none⟩ ys.length c news hnl' hnews (by omega) (by omega) (growslice_fits (by omega) (by rw [hby];simpa using hl))
       rw [hx1,hy1];simpa using hr
   · obtain ⟨A1,c1,e1,_,_,hr1⟩:=Zow (show (dk.sl.pd xs).p g (.slice (some ⟨b,of,none⟩) xs.length xs.length) from hxc)
     by_cases hx0:xs=[]
     · subst hx0
       refine fresh [] (by simp) (fun k u hu=>by simp at hu) ?_
       have hr:=run_append_grow (P:=P) g.w t o.type e i z hT.und hi hz ⟨b,of,none⟩ 0 0 [] (by simp) (fun k u hu=>by simp at hu) ⟨b2,o2,none⟩ ys.length c news hnl' hnews (by omega) (by omega) (growslice_fits (by omega) (by rw [hby];simpa using hl))
       rw [hx1,hy1];simpa using hr
     · obtain ⟨b3,o3,olds,e3,hol,hoc,hok⟩:=hr1.resolve_left hx0
       injection e1 with e1 _ _
       rw [← e1] at e3
       injection e3 with e3
       injection e3 with e3 e4 _
       subst e3;subst e4
       refine fresh olds hol hok ?_
       have hr:=run_append_grow (P:=P) g.w t o.type e i z hT.und hi hz ⟨b,of,none⟩ xs.length xs.length olds (by rw [hsz];exact hol) (fun k u hu=>by rw [Zdf];exact (hoc k u hu).2) ⟨b2,o2,none⟩ ys.length c news hnl' hnews (by omega) (by omega) (growslice_fits (by omega) (by rw [hby];exact hl))
       rw [hx1,hy1];exact hr
def dfr2 (f:FuncId) (b2 b3:Nat):List Deferred:=[{ target:=.fn (.func f) #[ptrV b2,ptrV b3],args:=#[] }]
def Z4a (P:Program) (f:FuncId):Prop:=∀ (g:G) (b4 b5:Nat),CallsD P f #[ptrV b4,ptrV b5] .returning g.w (fun e u' w'=>e=.returned (.tuple #[]) ∧ u'=.returning ∧ ∃ g',w'=g'.w ∧ Step [] g g')
theorem Zbaf {Q : Exit → Act → World → Prop} {id f x1 x2 d1 : Nat} {o1 o2 : Oper} {a : Act} {w : World} (h1 : o1.op = .makeFunc (.func f) #[] #[.tmp x1, .tmp x2]) (hg1 : o1.guard = none) (hd1 : o1.dst = some d1) (h2 : o2.op = .defer { callee := .value (.tmp d1), args := #[], argTypes := #[] }) (hg2 : o2.guard = none) (hd2 : o2.dst = none) (hlt : d1 < a.tmps.size)
   {b2 b3:Nat} (e1:Act.at a x1=ptrV b2) (e2:Act.at a x2=ptrV b3) (hD:a.defers=[])
   (hK:Q .normal (dact a d1 (.func (.func f) #[] #[ptrV b2,ptrV b3]) (dfr2 f b2 b3)) w):(Code.region id #[o1,o2] false).wp P Q a w:=by
 refine wp_region ?_
 have q1:a.eval (.tmp x1)=ptrV b2:=e1
 have q2:a.eval (.tmp x2)=ptrV b3:=e2
 have hr1:(execOp a.eval o1).run P w=.ok (.value (.func (.func f) #[] #[ptrV b2,ptrV b3])) w:=by
   simp [execOp,h1,Instr.makeFunc,q1,q2]
 have hev:(a.put (some d1) (.func (.func f) #[] #[ptrV b2,ptrV b3])).eval (.tmp d1)=.func (.func f) #[] #[ptrV b2,ptrV b3]:=Zed _ hlt
 have hr2:(execOp (a.put (some d1) (.func (.func f) #[] #[ptrV b2,ptrV b3])).eval o2).run P w=.ok (.defer { target:=.fn (.func f) #[ptrV b2,ptrV b3],args:=#[] }) w:=by
   simp [execOp,h2,resolve,hev,Deferred.ofValue]
 have w1:∀ m,Region.wanted o1 m=true:=fun m=>by simp [Region.wanted,hg1]
 have w2:∀ m,Region.wanted o2 m=true:=fun m=>by simp [Region.wanted,hg2]
 show wpOps P #[o1,o2] _ (Lr 2) a w
 simp only [show Lr 2=[0,1] from rfl,wpOps,List.getElem?_toArray,List.getElem?_cons_zero,List.getElem?_cons_succ,w1,if_true]
 refine .inl ?_
 unfold Oper.wp
 rw [hr1,Oper.upon_value,hd1]
 simp only [w2,if_true]
 refine .inl ?_
 rw [hr2,Oper.upon_defer,hd2]
 have:∀ (d:Deferred) (v:Value),({ (a.put (some d1) v) with defers:=d :: (a.put (some d1) v).defers }:Act)={ tmps:=(a.put (some d1) v).tmps,defers:=[d] }:=fun d v=>by
   rw [Zpn,hD]
 have h3:=this { target:=.fn (.func f) #[ptrV b2,ptrV b3],args:=#[] } (.func (.func f) #[] #[ptrV b2,ptrV b3])
 show Q .normal (Act.put { (a.put (some d1) (.func (.func f) #[] #[ptrV b2,ptrV b3])) with defers:=_ :: (a.put (some d1) _).defers } none undef) w
 rw [h3];exact hK
theorem Zbgn {kS : Kd α} {kR : Kd β} {f t4 t5 s4 s5 j4 j5 b4 b5 : Nat} {fn : Func} {a : Act} {g g0 : G} {L : Zbd} {c4 c5 : Option Nat} {x : α} {y : β} (hc : Z4a P f) (he : Zk P f) (hr : fn.results = #[.cell s4 t4, .cell s5 t5]) (hT4 : Ty P t4 kS) (hT5 : Ty P t5 kR) (h : StD (dfr2 f b4 b5) N L a g) (hb : Base g0 g)
   (h4:(Zbi c4 kS j4 x).p g (Act.at a s4)) (h5:(Zbi c5 kR j5 y).p g (Act.at a s5)):bodyPostD P fn (Fin g0 (pTup [kS.pd x,kR.pd y])) .ret a g.w:=by
 show Leaves P fn a.tmps _ a.defers .returning g.w
 rw [h.df]
 refine leaves_cons (f:=f) (args:=#[ptrV b4,ptrV b5]) (by simp) (Z3v he _ _) ?_
 refine (hc g b4 b5).mono ?_
 rintro e u' w' ⟨rfl,rfl,g',rfl,hs⟩
 obtain ⟨u4,r4,q4⟩:=Zbo (P:=P) hT4 ((Zbi c4 kS j4 x).st hs (fun _ _ h=>by cases h) h4)
 obtain ⟨u5,r5,q5⟩:=Zbo (P:=P) hT5 ((Zbi c5 kR j5 y).st hs (fun _ _ h=>by cases h) h5)
 have r4':(Zgq a.tmps (.cell s4 t4)).run P g'.w=.ok u4 g'.w:=r4
 have r5':(Zgq a.tmps (.cell s5 t5)).run P g'.w=.ok u5 g'.w:=r5
 exact ⟨.tuple #[u4,u5],by simp [Zgl,hr,r4',r5'],g',_,rfl,rfl,hb.step hs (by simp),Zdc q4 q5⟩
theorem Zbcy {ops:Array Oper} {Q:Exit → Act → List Frame → World → Prop} {i:Nat} {l:List Nat} {o:Oper} {a:Act} {cs:List Frame} {w:World} (ho:ops[i]?=some o) (hg:o.guard=none) (hop:(execOp a.eval o).run P w=.ok .recover w) (hr:recoverD cs=none) (h:wpOpsS P ops Q l (a.put o.dst .nilIface) cs w):wpOpsS P ops Q (i :: l) a cs w:=by
 have hw:Region.wanted o (yielded ops a.tmps)=true:=by simp [Region.wanted,hg]
 simp only [wpOpsS,ho,hw,if_true,hop,hr]
 exact h
theorem Zbft {ops : Array Oper} {Q : Exit → Act → List Frame → World → Prop} {i : Nat} {l : List Nat} {o : Oper} {a : Act} {cs : List Frame} {g : G} (ho : ops[i]? = some o) (hg : o.guard = none) (hob : OB P N o uses outs S) (hN : a.tmps.size = N) (hdN : ∀ t, o.dst = some t → t < N) (hu : Zeh uses a g)
   (h:∀ v g',Step S g g' → (∀ e ∈ outs,e.2.p g' (Act.at (a.put o.dst v) e.1)) → wpOpsS P ops Q l (a.put o.dst v) cs g'.w):wpOpsS P ops Q (i :: l) a cs g.w:=by
 have hw:Region.wanted o (yielded ops a.tmps)=true:=by simp [Region.wanted,hg]
 have key:=hob a g (fun a' w'=>wpOpsS P ops Q l a' cs w') (fun e a' w'=>Q e a' cs w') hN hdN hu h
 unfold Oper.wp at key
 simp only [wpOpsS,ho,hw,if_true]
 generalize (execOp a.eval o).run P g.w=r at key
 cases r with
 | ok n w'=>cases n <;> first | exact key | exact key.elim
 | halt h w'=>exact key
end
section
variable {P:Program} {N:Nat} {o:Oper} {uses outs:Zbd} {S:List Nat} {d:Nat} {x y z:Operand} {α β γ:Type} {kS:Kd α} {kV:Kd γ} {raw:α → SlV → γ} {lst:α → List β} {dk:Kd β} {t e j jl off:Nat} {xv:α}
def Zbee (kS:Kd α) (kV:Kd γ) (raw:α → SlV → γ):Prop:=∀ (g:G) (x:α) (cs:List Value),kS.K g x cs → ∃ s,kV.K g (raw x s) cs
def Zbei (kS:Kd α) (kV:Kd γ) (raw:α → SlV → γ) (lst:α → List β) (dk:Kd β):Prop:=∀ (g:G) (x:α) (s:SlV) (cs:List Value),kV.K g (raw x s) cs → dk.sl.V g (lst x) (slv s) → kS.K g x cs
theorem Zbam {s pt zt : Nat} {zl : List β} (hO : Zbee kS kV raw) (hT : Ty P t Kd.raw) (hop : o.op = .store t (.tmp pt) (.tmp zt)) (hd : o.dst = none) (hj : jl ≠ j) (hs : Opd uses (.tmp s) (pBox kS j xv)) (hx : Opd uses (.tmp pt) (Zds kS j xv off dk.sl zl)) (hz : Opd uses (.tmp zt) (pArr dk e jl (lst xv)))
   (hw:∀ g cs s0 s1 ys,kV.K g (raw xv s0) cs → Kd.raw.K g s1 ys → off + ys.length ≤ cs.length ∧ kV.K g (raw xv s1) (Zq cs off ys)):OB P N o uses [(s,pBxO kV raw lst dk e j jl xv)] [j + 1] :=
 OB.at fun a g hh=>by
   obtain ⟨b,cs,t1,h1,⟨m1,m2,m3,m4,m5,m6⟩,h3⟩:=hs a g hh
   obtain ⟨b2,cs2,t2,h4,⟨n1,n2,n3,n4,n5,n6⟩,h5⟩:=hx a g hh
   obtain ⟨s0,k0⟩:=hO g xv cs m5
   obtain ⟨s2,k2⟩:=hO g xv cs2 n5
   have hraw:∃ s1:SlV,seg cs2 off 1=[slv s1]:=by
     obtain ⟨A,c,e1,_⟩:=h5
     exact ⟨(A,zl.length,c),e1⟩
   obtain ⟨s1,hs1⟩:=hraw
   refine ⟨[(s,pBxN kV raw j xv),(pt,pPX kV j off Kd.raw s1),(zt,pArr dk e jl (lst xv))],fun en he=>?_,?_⟩
   · rcases List.mem_cons.1 he with rfl | he
     · exact ⟨s0,b,cs,t1,h1,⟨m1,m2,m3,m4,k0,m6⟩,h3⟩
     · rcases List.mem_cons.1 he with rfl | he
       · exact ⟨raw xv s2,b2,cs2,t2,h4,⟨n1,n2,n3,n4,k2,n6⟩,hs1⟩
       · rw [List.mem_singleton.1 he];exact hz a g hh
   · exact Zbbn (l0 := fun _ => True) (w0 := s1) hT hop hd hj .t0 (fun a' g' hu => by
       obtain ⟨w,hp⟩:=hu (pt,pPX kV j off Kd.raw s1) (by simp)
       exact ⟨w,s1,hp⟩) (.tl (.tl .t0)) hw
theorem Z6t (hS:Zbei kS kV raw lst dk) (hag:kV.ag=kS.ag) (hT:Ty P t kV) (hop:o.op=.load t x) (hd:o.dst=some d) (hx:Opd uses x (pBxO kV raw lst dk e j jl xv)):OB P N o uses [(d,kS.pd xv)] [jl + 1] :=
 Zhb hd fun a g hh=>by
   obtain ⟨s,⟨b,cs,t',hv,hm,_⟩,harr⟩:=hx a g hh
   have hr:(execOp a.eval o).run P g.w=.ok (.value (mkV kV.ag cs)) g.w:=by simp [execOp,hop,hv,Instr.loadAt,Instr.sureAddr,Zjr hT hm.2.2.2.2.1 (fun i u hu=>by rw [Nat.zero_add];exact Zpd hm i u hu)]
   rcases harr with ⟨h1,A,h2⟩ | ⟨b2,cap,cur,hv2,hO⟩
   · refine ⟨_,g,hr,.sub (.refl [] g) (fun _ h=>by cases h),cs,hS g xv s cs hm.2.2.2.2.1 ?_,by rw [hag]⟩
     rw [h1,h2]
     exact Kd.sl_V.2 ⟨A,0,rfl,Nat.le_refl _,by simp,.inl rfl⟩
   · have hst:=Z10 hO.lt hO.own
     refine ⟨_,g.give b2 hO.lt,hr,hst,cs,hS _ xv s cs (kV.mono hst.le hm.2.2.2.2.1) ?_,by rw [hag]⟩
     rw [hv2];exact Zbb7 hO
end
structure Zb6 where
 text:Bool
 num:Bool
 bounds:Bool
 real:Bool
 list:Bool
 deriving Inhabited
structure Zh where
 Score:Nat
 Name:ByteArray
 deriving Inhabited
structure Zb where
 Kind:Int
 Num:Int
 Low:Int
 High:Int
 Real:Nat
 Cap:Int
 Text:ByteArray
 List:List Zh
 deriving Inhabited
structure Zcx where
 word:ByteArray
 on:Int
 has:ByteArray
 deriving Inhabited
structure Zs where
 Kind:Int
 Key:ByteArray
 N:Int
 X:Nat
 S:ByteArray
 Make:Zb
 Must:Bool
 deriving Inhabited
structure Zu where
 Acts:List Zs
 deriving Inhabited
structure Zn where
 b:List Int
 deriving Inhabited
structure Zbk where
 Number:Int
 Deals:List Zu
 deriving Inhabited
inductive shelf_nodeT where
 | nil
 | node (key:ByteArray) (rec_:Zb) (left:shelf_nodeT) (right:shelf_nodeT) (size:Int)
 deriving Inhabited
structure shelf_node where
 key:ByteArray
 rec_:Zb
 left:shelf_nodeT
 right:shelf_nodeT
 size:Int
 deriving Inhabited
def shelf_nodeT.un:shelf_nodeT → Option shelf_node
 | .nil=>none
 | .node x0 x1 x2 x3 x4=>some ⟨x0,x1,x2,x3,x4⟩
def shelf_node.up (x:shelf_node):shelf_nodeT:=.node x.key x.rec_ x.left x.right x.size
def shelf_nodeT.isNil:shelf_nodeT → Bool
 | .nil=>true
 | .node ..=>false
def shelf_nodeT.hh:shelf_nodeT → Nat
 | .nil=>0
 | .node x0 x1 x2 x3 x4=>max x2.hh x3.hh + 1
structure Zp where
 top:shelf_nodeT
 room:Int
 deriving Inhabited
structure Zbj where
 Key:ByteArray
 Rec:Zb
 deriving Inhabited
structure Zx where
 L:List Zbj
 Room:Int
 deriving Inhabited
structure Zcz where
 Code:Int
 At:Int
 deriving Inhabited
structure Ze where
 b:List Int
 at_:Int
 deriving Inhabited
structure Zj where
 Code:Int
 Num:Int
 Rec:Zb
 deriving Inhabited
structure Zea where
 code:Int
 at_:Int
 deriving Inhabited
structure Z7 where
 Code:Int
 At:Int
 Answers:List Zj
 deriving Inhabited
def Z0j (v:Zs) (y:ByteArray):Zs:={ v with Key:=y }
def Z7o (v:Zs) (y:Int):Zs:={ v with N:=y }
def g_0:List Zcx:=[{ word:=⟨#[]⟩,on:=(0),has:=⟨#[]⟩ },
 { word:=⟨#[110,101,119]⟩,on:=(0),has:=⟨#[109]⟩ },
 { word:=⟨#[100,114,111,112]⟩,on:=(0),has:=⟨#[]⟩ },
 { word:=⟨#[105,115]⟩,on:=(0),has:=⟨#[]⟩ },
 { word:=⟨#[108,111,111,107]⟩,on:=(0),has:=⟨#[]⟩ },
 { word:=⟨#[112,117,116]⟩,on:=(1),has:=⟨#[115]⟩ },
 { word:=⟨#[115,119,97,112]⟩,on:=(1),has:=⟨#[115]⟩ },
 { word:=⟨#[97,100,100]⟩,on:=(2),has:=⟨#[110]⟩ },
 { word:=⟨#[112,108,117,115]⟩,on:=(3),has:=⟨#[110]⟩ },
 { word:=⟨#[114,101,97,99,104]⟩,on:=(3),has:=⟨#[110]⟩ },
 { word:=⟨#[105,110]⟩,on:=(4),has:=⟨#[110]⟩ },
 { word:=⟨#[111,117,116]⟩,on:=(4),has:=⟨#[110]⟩ },
 { word:=⟨#[101,110,111,117,103,104]⟩,on:=(4),has:=⟨#[110]⟩ },
 { word:=⟨#[114,97,105,115,101]⟩,on:=(5),has:=⟨#[120]⟩ },
 { word:=⟨#[108,111,119,101,114]⟩,on:=(6),has:=⟨#[120]⟩ },
 { word:=⟨#[115,104,105,102,116]⟩,on:=(7),has:=⟨#[120]⟩ },
 { word:=⟨#[115,99,97,108,101]⟩,on:=(7),has:=⟨#[120]⟩ },
 { word:=⟨#[102,105,120]⟩,on:=(7),has:=⟨#[120]⟩ },
 { word:=⟨#[106,111,105,110]⟩,on:=(8),has:=⟨#[115]⟩ },
 { word:=⟨#[108,101,97,118,101]⟩,on:=(8),has:=⟨#[115]⟩ },
 { word:=⟨#[104,97,115]⟩,on:=(8),has:=⟨#[115]⟩ },
 { word:=⟨#[111,102,102,101,114]⟩,on:=(9),has:=⟨#[120,115]⟩ }]
def Zt2:Option (Nat):=(some (Int.toNat (9221120237041090561:Int)))
def Zgv (a0:Nat):Option (Nat):=(if (fneq a0 a0) then ((Zt2).bind fun r2=>(some r2)) else (some a0))
def Zma (a0:Nat):Option (Bool):=((Zgv a0).bind fun r1=>(some ((a0:Int) == (r1:Int))))
def Zmq (j11:Bool):Option (Zb6):=(if j11 then (some ({ text:=false,num:=false,bounds:=false,real:=false,list:=true }:Zb6)) else (some ({ text:=false,num:=false,bounds:=false,real:=false,list:=false }:Zb6)))
def Zkm (a0:Int) (j8:Bool):Option (Zb6):=(if j8 then (some ({ text:=false,num:=false,bounds:=false,real:=true,list:=false }:Zb6)) else (if (a0 == (8:Int)) then (Zmq (a0 == (8:Int))) else (Zmq (a0 == (9:Int)))))
def Zmr (a0:Int) (j3:Bool):Option (Zb6):=(if j3 then (some ({ text:=false,num:=true,bounds:=false,real:=false,list:=false }:Zb6)) else (if (a0 == (4:Int)) then (some ({ text:=false,num:=true,bounds:=true,real:=false,list:=false }:Zb6)) else (if (a0 == (5:Int)) then (Zkm a0 (a0 == (5:Int))) else (if (a0 == (6:Int)) then (Zkm a0 (a0 == (6:Int))) else (Zkm a0 (a0 == (7:Int)))))))
def Zd3 (a0:Int):Option (Zb6):=(if (a0 == (1:Int)) then (some ({ text:=true,num:=false,bounds:=false,real:=false,list:=false }:Zb6)) else (if (a0 == (2:Int)) then (Zmr a0 (a0 == (2:Int))) else (Zmr a0 (a0 == (3:Int)))))
def Zm4 (a0:Nat):Option (Int):=((Zgv a0).bind fun r1=>(if ((bAnd .u64 (r1:Int) (9223372036854775808:Int)) != (0:Int)) then (some (bXor .u64 IntKind.u64.max (r1:Int))) else (some (bOr .u64 (r1:Int) (9223372036854775808:Int)))))
def Zlg (a0:Nat) (a1:Nat):Option (Bool):=((Zm4 a0).bind fun r1=>((Zm4 a1).bind fun r3=>(some (r1 == r3))))
def Zrw (a0:Zb) (a1:Zb6):Option (Bool):=((gd ((((a1.text || (sEq a0.Text (⟨#[]⟩:ByteArray))) && (a1.num || (a0.Num == (0:Int)))) && (a1.bounds || ((a0.Low == (0:Int)) && (a0.High == (0:Int))))) && (!a1.real)) (Zlg a0.Real (0:Nat))).bind fun r1=>(some (((((a1.text || (sEq a0.Text (⟨#[]⟩:ByteArray))) && (a1.num || (a0.Num == (0:Int)))) && (a1.bounds || ((a0.Low == (0:Int)) && (a0.High == (0:Int))))) && (a1.real || r1)) && (a1.list || ((a0.Cap == (0:Int)) && ((a0.List.length:Int) == (0:Int)))))))
def Zo1 (a0:Nat) (a1:Nat):Option (Bool):=((Zm4 a0).bind fun r1=>((Zm4 a1).bind fun r3=>(some (decide (r1 < r3)))))
def Zl7 (a0:Zh) (a1:Zh):Option (Bool):=((Zlg a0.Score a1.Score).bind fun r1=>(if (!r1) then ((Zo1 a1.Score a0.Score).bind fun r4=>(some r4)) else (some (sLt a0.Name a1.Name))))
def Zg1 (a0:Int) (a1:List Zh):Nat → (Int) → Option ((Int) ⊕ (Unit))
 | 0,_=>none
 | n + 1,x1=>(if (decide (x1 < (a1.length:Int))) then ((idx a1 x1).bind fun e3=>(if (decide ((16:Int) < (e3.Name.size:Int))) then (some (.inl (3:Int))) else ((gd (a0 == (8:Int)) (Zlg e3.Score (0:Nat))).bind fun r6=>((gd (!((a0 == (8:Int)) && (!r6))) (Zma e3.Score)).bind fun r8=>(if (((a0 == (8:Int)) && (!r6)) || (!r8)) then (some (.inl (4:Int))) else ((gd ((decide ((0:Int) < x1)) && (a0 == (8:Int))) (idx a1 (IntKind.i64.wrap (x1 - (1:Int))))).bind fun e11=>(if (((decide ((0:Int) < x1)) && (a0 == (8:Int))) && (!sLt e11.Name e3.Name)) then (some (.inl (4:Int))) else ((gd ((decide ((0:Int) < x1)) && (a0 == (9:Int))) (idx a1 (IntKind.i64.wrap (x1 - (1:Int))))).bind fun e14=>((gd ((decide ((0:Int) < x1)) && (a0 == (9:Int))) (Zl7 e14 e3)).bind fun r16=>(if (((decide ((0:Int) < x1)) && (a0 == (9:Int))) && (!r16)) then (some (.inl (4:Int))) else ((Zg1 a0 a1 n) (IntKind.i64.wrap (x1 + (1:Int)))))))))))))) else (some (.inr ())))
def Zq5 (a0:Int) (a1:List Zh):Option (Int):=((Zg1 a0 a1 (Int.toNat ((a1.length:Int) - (0:Int)) + 1) (0:Int)).bind fun z19=>match z19 with | .inl r=>some r | .inr ()=>(some (0:Int)))
def Zd5 (a0:Zb):Option (Int):=((Zd3 a0.Kind).bind fun r1=>(if ((decide (a0.Kind ≤ (0:Int))) || (decide ((10:Int) ≤ a0.Kind))) then (some (5:Int)) else ((Zrw a0 r1).bind fun r4=>(if (!r4) then (some (4:Int)) else (if (decide ((64:Int) < (a0.Text.size:Int))) then (some (3:Int)) else (if (r1.bounds && ((((decide (a0.Low < (-2305843009213693952:Int))) || (decide ((2305843009213693952:Int) < a0.High))) || (decide (a0.Num < a0.Low))) || (decide (a0.High < a0.Num)))) then (some (1:Int)) else ((Zma a0.Real).bind fun r9=>(if (!r9) then (some (4:Int)) else (if (!r1.list) then (some (0:Int)) else (if ((decide (a0.Cap < (1:Int))) || (decide ((32:Int) < a0.Cap))) then (some (1:Int)) else (if (decide (a0.Cap < (a0.List.length:Int))) then (some (8:Int)) else ((Zq5 a0.Kind a0.List).bind fun r15=>(some r15)))))))))))))
def Zlq (a0:Int):Option (Zcx):=(if ((decide (a0 ≤ (0:Int))) || (decide ((22:Int) ≤ a0))) then (some ({ word:=ByteArray.empty,on:=(0:Int),has:=ByteArray.empty }:Zcx)) else ((idx g_0 a0).bind fun e2=>(some e2)))
def Zbz (a0:List Zh) (a1:List Zh) (φ2:Zh → Zh → Option Bool):Nat → (Int) → Option ((Bool) ⊕ (Unit))
 | 0,_=>none
 | n + 1,x2=>(if (decide (x2 < (a0.length:Int))) then ((idx a0 x2).bind fun e4=>((idx a1 x2).bind fun e6=>((φ2 e4 e6).bind fun r8=>(if (!r8) then (some (.inl false)) else ((Zbz a0 a1 φ2 n) (IntKind.i64.wrap (x2 + (1:Int)))))))) else (some (.inr ())))
def Zco (a0:List Zh) (a1:List Zh) (φ2:Zh → Zh → Option Bool):Option (Bool):=(if ((a0.length:Int) != (a1.length:Int)) then (some false) else ((Zbz a0 a1 φ2 (Int.toNat ((a0.length:Int) - (0:Int)) + 1) (0:Int)).bind fun z11=>match z11 with | .inl r=>some r | .inr ()=>(some true)))
def Zkq (a0:Zh) (a1:Zh):Option (Bool):=((gd (sEq a0.Name a1.Name) (Zlg a0.Score a1.Score)).bind fun r1=>(some ((sEq a0.Name a1.Name) && r1)))
def Zp5 (a0:Zb) (a1:Zb):Option (Bool):=((gd ((((a0.Kind == a1.Kind) && (a0.Num == a1.Num)) && (a0.Low == a1.Low)) && (a0.High == a1.High)) (Zlg a0.Real a1.Real)).bind fun r1=>((gd (((((((a0.Kind == a1.Kind) && (a0.Num == a1.Num)) && (a0.Low == a1.Low)) && (a0.High == a1.High)) && r1) && (a0.Cap == a1.Cap)) && (sEq a0.Text a1.Text)) (Zco a0.List a1.List (fun y0 y1=>Zkq y0 y1))).bind fun r3=>(some ((((((((a0.Kind == a1.Kind) && (a0.Num == a1.Num)) && (a0.Low == a1.Low)) && (a0.High == a1.High)) && r1) && (a0.Cap == a1.Cap)) && (sEq a0.Text a1.Text)) && r3))))
def Zjc (a0:Zcx) (a1:Int):Nat → (Int) → Option ((Bool) ⊕ (Unit))
 | 0,_=>none
 | n + 1,x1=>(if (decide (x1 < (a0.has.size:Int))) then ((sidx a0.has x1).bind fun b3=>(if (b3 == a1) then (some (.inl true)) else ((Zjc a0 a1 n) (IntKind.i64.wrap (x1 + (1:Int)))))) else (some (.inr ())))
def Zbu (a0:Zcx) (a1:Int):Option (Bool):=((Zjc a0 a1 (Int.toNat ((a0.has.size:Int) - (0:Int)) + 1) (0:Int)).bind fun z6=>match z6 with | .inl r=>some r | .inr ()=>(some false))
def Zt5 (a0:Zs) (a1:Zcx):Option (Bool):=((Zbu a1 (110:Int)).bind fun r1=>((gd (r1 || (a0.N == (0:Int))) (Zbu a1 (120:Int))).bind fun r3=>((gd ((r1 || (a0.N == (0:Int))) && (!r3)) (Zlg a0.X (0:Nat))).bind fun r5=>((gd ((r1 || (a0.N == (0:Int))) && (r3 || r5)) (Zbu a1 (115:Int))).bind fun r7=>((gd (((r1 || (a0.N == (0:Int))) && (r3 || r5)) && (r7 || (sEq a0.S (⟨#[]⟩:ByteArray)))) (Zbu a1 (109:Int))).bind fun r9=>((gd ((((r1 || (a0.N == (0:Int))) && (r3 || r5)) && (r7 || (sEq a0.S (⟨#[]⟩:ByteArray)))) && (!r9)) (Zp5 a0.Make ({ Kind:=(0:Int),Num:=(0:Int),Low:=(0:Int),High:=(0:Int),Real:=(0:Nat),Cap:=(0:Int),Text:=ByteArray.empty,List:=([]:List Zh) }:Zb))).bind fun r11=>(some ((((r1 || (a0.N == (0:Int))) && (r3 || r5)) && (r7 || (sEq a0.S (⟨#[]⟩:ByteArray)))) && (r9 || r11)))))))))
def Zou (a0:Zcx):Option (Int):=(if (a0.on == (1:Int)) then (some (64:Int)) else (some (16:Int)))
def Ze4 (a0:Zs):Option (Int):=((Zlq a0.Kind).bind fun r1=>(if (sEq r1.word (⟨#[]⟩:ByteArray)) then (some (5:Int)) else (if ((sEq a0.Key (⟨#[]⟩:ByteArray)) || (decide ((24:Int) < (a0.Key.size:Int)))) then (some (1:Int)) else ((Zt5 a0 r1).bind fun r5=>(if (!r5) then (some (4:Int)) else ((Zou r1).bind fun r8=>(if (decide (r8 < (a0.S.size:Int))) then (some (3:Int)) else (if (((a0.Kind == (10:Int)) || (a0.Kind == (11:Int))) && ((decide (a0.N < (0:Int))) || (decide ((2305843009213693952:Int) < a0.N)))) then (some (1:Int)) else ((Zma a0.X).bind fun r12=>(if (!r12) then (some (4:Int)) else (if (a0.Kind == (1:Int)) then ((Zd5 a0.Make).bind fun r16=>(some r16)) else (some (0:Int)))))))))))))
def Zej (a0:Zu):Nat → (Int) → Option ((Int × Int) ⊕ (Unit))
 | 0,_=>none
 | n + 1,x2=>(if (decide (x2 < (a0.Acts.length:Int))) then ((idx a0.Acts x2).bind fun e4=>((Ze4 e4).bind fun r6=>(if (r6 != (0:Int)) then (some (.inl (r6,(IntKind.i64.wrap (x2 + (1:Int)))))) else ((Zej a0 n) (IntKind.i64.wrap (x2 + (1:Int))))))) else (some (.inr ())))
def Zht (a0:Zu):Option (Int × Int):=(if (((a0.Acts.length:Int) == (0:Int)) || (decide ((12:Int) < (a0.Acts.length:Int)))) then (some ((1:Int),(0:Int))) else ((Zej a0 (Int.toNat ((a0.Acts.length:Int) - (0:Int)) + 1) (0:Int)).bind fun z9=>match z9 with | .inl r=>some r | .inr ()=>(some ((0:Int),(0:Int)))))
def Zfl:Nat → (Int) → (Zn) → Option (Int × Zn)
 | 0,_,_=>none
 | n + 1,x1,x2=>(if (decide ((128:Int) ≤ x1)) then (if (x2.b.length + ([(bOr .u8 (IntKind.u8.wrap x1) (128:Int))]:List Int).length) * 1 ≤ 140737488355328 then ((Zfl n) (Int.fdiv x1 (2 ^ 7)) ({ b:=(x2.b ++ ([(bOr .u8 (IntKind.u8.wrap x1) (128:Int))]:List Int)) }:Zn)) else none) else (some (x1,x2)))
def Zdq (a0:Zn) (a1:Int):Option (Zn):=((Zfl 11 a1 a0).bind fun z7=>match z7 with | (y5,y6)=>(if (y6.b.length + ([(IntKind.u8.wrap y5)]:List Int).length) * 1 ≤ 140737488355328 then (some ({ b:=(y6.b ++ ([(IntKind.u8.wrap y5)]:List Int)) }:Zn)) else none))
def Zib (a0:Zn) (a1:Bool):Option (Zn):=(if a1 then (if (a0.b.length + ([(1:Int)]:List Int).length) * 1 ≤ 140737488355328 then (some ({ b:=(a0.b ++ ([(1:Int)]:List Int)) }:Zn)) else none) else (if (a0.b.length + ([(0:Int)]:List Int).length) * 1 ≤ 140737488355328 then (some ({ b:=(a0.b ++ ([(0:Int)]:List Int)) }:Zn)) else none))
def Zfp (a0:Zn) (a1:ByteArray):Option (Zn):=((Zdq a0 (IntKind.u64.wrap (a1.size:Int))).bind fun r1=>(if r1.b.length + a1.size ≤ 140737488355328 then (some ({ b:=(r1.b ++ bts a1) }:Zn)) else none))
def Zfs (a0:Zn) (a1:Int):Option (Zn):=((Zdq a0 (bXor .u64 (IntKind.u64.wrap ((IntKind.u64.wrap a1) * 2 ^ 1)) (IntKind.u64.wrap (Int.fdiv a1 (2 ^ 63))))).bind fun r1=>(some r1))
def Zgi (r1:Int):Nat → (Int) → (Zn) → Option (Zn)
 | 0,_,_=>none
 | n + 1,x3,x4=>(if (decide ((0:Int) ≤ x3)) then (if 0 ≤ x3 then (if (x4.b.length + ([(IntKind.u8.wrap (Int.fdiv r1 (2 ^ (min (Int.toNat x3) (IntKind.u64).bits))))]:List Int).length) * 1 ≤ 140737488355328 then ((Zgi r1 n) (IntKind.i64.wrap (x3 - (8:Int))) ({ b:=(x4.b ++ ([(IntKind.u8.wrap (Int.fdiv r1 (2 ^ (min (Int.toNat x3) (IntKind.u64).bits))))]:List Int)) }:Zn)) else none) else none) else (some x4))
def Zfr (a0:Zn) (a1:Nat):Option (Zn):=((Zm4 a1).bind fun r1=>((Zgi r1 (Int.toNat ((56:Int) + 1 - (0:Int)) + 1) (56:Int) a0).bind fun z9=>match z9 with | y8=>(some y8)))
def Znv (x28:Int) (e31:Zh) (kk:(Int) → (Zn) → Option (Zn)) (j36:Zn):Option (Zn):=((Zfp j36 e31.Name).bind fun r37=>(kk (IntKind.i64.wrap (x28 + (1:Int))) r37))
def Zhw (a1:Zb):Nat → (Int) → (Zn) → Option (Zn)
 | 0,_,_=>none
 | n + 1,x28,x29=>(if (decide (x28 < (a1.List.length:Int))) then ((idx a1.List x28).bind fun e31=>(if (a1.Kind == (9:Int)) then ((Zfr x29 e31.Score).bind fun r34=>(Znv x28 e31 (Zhw a1 n) r34)) else (Znv x28 e31 (Zhw a1 n) x29))) else (some x29))
def Znx (a1:Zb) (r1:Zb6) (j22:Zn):Option (Zn):=(if (!r1.list) then (some j22) else ((Zdq j22 (IntKind.u64.wrap a1.Cap)).bind fun r24=>((Zdq r24 (IntKind.u64.wrap (a1.List.length:Int))).bind fun r26=>((Zhw a1 (Int.toNat ((a1.List.length:Int) - (0:Int)) + 1) (0:Int) r26).bind fun z40=>match z40 with | y39=>(some y39)))))
def Zn7 (a1:Zb) (r1:Zb6) (j18:Zn):Option (Zn):=(if r1.real then ((Zfr j18 a1.Real).bind fun r20=>(Znx a1 r1 r20)) else (Znx a1 r1 j18))
def Znw (a1:Zb) (r1:Zb6) (j14:Zn):Option (Zn):=(if r1.num then ((Zfs j14 a1.Num).bind fun r16=>(Zn7 a1 r1 r16)) else (Zn7 a1 r1 j14))
def Zmc (a1:Zb) (r1:Zb6) (j8:Zn):Option (Zn):=(if r1.bounds then ((Zfs j8 a1.Low).bind fun r10=>((Zfs r10 a1.High).bind fun r12=>(Znw a1 r1 r12))) else (Znw a1 r1 j8))
def Zqa (a0:Zn) (a1:Zb):Option (Zn):=((Zd3 a1.Kind).bind fun r1=>((Zdq a0 (IntKind.u64.wrap a1.Kind)).bind fun r3=>(if r1.text then ((Zfp r3 a1.Text).bind fun r6=>(Zmc a1 r1 r6)) else (Zmc a1 r1 r3))))
def Zly (j32:Zn):Option (Zn):=(some j32)
def Zlt (a1:Zs) (r1:Zcx) (j26:Zn):Option (Zn):=((Zbu r1 (109:Int)).bind fun r27=>(if r27 then ((Zqa j26 a1.Make).bind fun r30=>(Zly r30)) else (Zly j26)))
def Zlr (a1:Zs) (r1:Zcx) (j20:Zn):Option (Zn):=((Zbu r1 (115:Int)).bind fun r21=>(if r21 then ((Zfp j20 a1.S).bind fun r24=>(Zlt a1 r1 r24)) else (Zlt a1 r1 j20)))
def Zls (a1:Zs) (r1:Zcx) (j14:Zn):Option (Zn):=((Zbu r1 (120:Int)).bind fun r15=>(if r15 then ((Zfr j14 a1.X).bind fun r18=>(Zlr a1 r1 r18)) else (Zlr a1 r1 j14)))
def Zo7 (a0:Zn) (a1:Zs):Option (Zn):=((Zlq a1.Kind).bind fun r1=>((Zdq a0 (IntKind.u64.wrap a1.Kind)).bind fun r3=>((Zib r3 a1.Must).bind fun r5=>((Zfp r5 a1.Key).bind fun r7=>((Zbu r1 (110:Int)).bind fun r9=>(if r9 then ((Zfs r7 a1.N).bind fun r12=>(Zls a1 r1 r12)) else (Zls a1 r1 r7)))))))
def Zh4 (a1:Zu):Nat → (Int) → (Zn) → Option (Zn)
 | 0,_,_=>none
 | n + 1,x3,x4=>(if (decide (x3 < (a1.Acts.length:Int))) then ((idx a1.Acts x3).bind fun e6=>((Zo7 x4 e6).bind fun r8=>((Zh4 a1 n) (IntKind.i64.wrap (x3 + (1:Int))) r8))) else (some x4))
def Zn4 (a0:Zn) (a1:Zu):Option (Zn):=((Zdq a0 (IntKind.u64.wrap (a1.Acts.length:Int))).bind fun r1=>((Zh4 a1 (Int.toNat ((a1.Acts.length:Int) - (0:Int)) + 1) (0:Int) r1).bind fun z11=>match z11 with | y10=>(some y10)))
def Zlk (a0:Zn):Option ((List Int) × Zn):=(if (([]:List Int).length + a0.b.length) * 1 ≤ 140737488355328 then (some ((([]:List Int) ++ a0.b),a0)) else none)
def Zhe (a0:Zbk):Nat → (Int) → (Zn) → Option (Zn)
 | 0,_,_=>none
 | n + 1,x5,x6=>(if (decide (x5 < (a0.Deals.length:Int))) then ((idx a0.Deals x5).bind fun e8=>((Zn4 x6 e8).bind fun r10=>((Zhe a0 n) (IntKind.i64.wrap (x5 + (1:Int))) r10))) else (some x6))
def Zm6 (a0:Zbk):Option (List Int):=((Zdq ({ b:=([]:List Int) }:Zn) (IntKind.u64.wrap a0.Number)).bind fun r1=>((Zdq r1 (IntKind.u64.wrap (a0.Deals.length:Int))).bind fun r3=>((Zhe a0 (Int.toNat ((a0.Deals.length:Int) - (0:Int)) + 1) (0:Int) r3).bind fun z13=>match z13 with | y12=>((Zlk y12).bind fun r14=>(some r14.1)))))
def Zfq (a0:Zbk):Nat → (Int) → Option ((Int × Int) ⊕ (Unit))
 | 0,_=>none
 | n + 1,x3=>(if (decide (x3 < (a0.Deals.length:Int))) then ((idx a0.Deals x3).bind fun e5=>((Zht e5).bind fun r7=>(if (r7.1 != (0:Int)) then (some (.inl (r7.1,(IntKind.i64.wrap (x3 + (1:Int)))))) else ((Zfq a0 n) (IntKind.i64.wrap (x3 + (1:Int))))))) else (some (.inr ())))
def Zgg (a0:Zbk):Option (Int × Int):=(if ((decide (a0.Number < (1:Int))) || (decide ((1099511627776:Int) < a0.Number))) then (some ((1:Int),(0:Int))) else (if (decide ((32:Int) < (a0.Deals.length:Int))) then (some ((8:Int),(0:Int))) else ((Zfq a0 (Int.toNat ((a0.Deals.length:Int) - (0:Int)) + 1) (0:Int)).bind fun z10=>match z10 with | .inl r=>some r | .inr ()=>((Zm6 a0).bind fun r11=>(if (decide ((2048:Int) < (r11.length:Int))) then (some ((3:Int),(0:Int))) else (some ((0:Int),(0:Int))))))))
def Zo4 (a0:Zbk):Option (List Int):=((Zgg a0).bind fun r1=>(if (r1.1 != (0:Int)) then (some ([]:List Int)) else ((Zm6 a0).bind fun r4=>(some r4))))
def Zsd (a0:Int):Option (Zp × Int):=(if ((decide (a0 < (1:Int))) || (decide ((4096:Int) < a0))) then (some (({ top:=shelf_nodeT.nil,room:=(0:Int) }:Zp),(1:Int))) else (some (({ top:=shelf_nodeT.nil,room:=a0 }:Zp),(0:Int))))
def Zfe (a0:Zb):Nat → (Int) → Option ((Int) ⊕ (Unit))
 | 0,_=>none
 | n + 1,x2=>(if (decide (x2 < (a0.List.length:Int))) then ((idx a0.List x2).bind fun e4=>(if (decide ((100:Int) < (e4.Name.size:Int))) then (some (.inl (1:Int))) else ((Zfe a0 n) (IntKind.i64.wrap (x2 + (1:Int)))))) else (some (.inr ())))
def Zi6 (a0:Zb):Option (Int):=(if ((decide ((100:Int) < (a0.List.length:Int))) || (decide ((1000:Int) < (a0.Text.size:Int)))) then (some (1:Int)) else ((Zfe a0 (Int.toNat ((a0.List.length:Int) - (0:Int)) + 1) (0:Int)).bind fun z7=>match z7 with | .inl r=>some r | .inr ()=>(some (0:Int))))
def Zc1 (a0:shelf_nodeT):Option (Int):=(if a0.isNil then (some (0:Int)) else ((a0.un).bind fun n2=>(some n2.size)))
def Zf6 (a0:Zp):Option (Int):=((Zc1 a0.top).bind fun r1=>(some r1))
def Zb9 (a0:List Zh):Option (List Zh):=if a0.length * 24 ≤ 140737488355328 then some a0 else none
def Zf0 (a0:Zb):Option (Zb):=((Zb9 a0.List).bind fun r1=>(some ({ a0 with List:=r1 })))
def Zi0 (x1:Zb) (kk:(Zb) → (shelf_nodeT) → Option ((Zb × Bool) ⊕ (Zb))) (j10:shelf_nodeT):Option ((Zb × Bool) ⊕ (Zb)):=(kk x1 j10)
def Zeo (a1:ByteArray):Nat → (Zb) → (shelf_nodeT) → Option ((Zb × Bool) ⊕ (Zb))
 | 0,_,_=>none
 | n + 1,x1,x2=>(if (!x2.isNil) then ((x2.un).bind fun n4=>(if (sLt a1 n4.key) then (Zi0 x1 (Zeo a1 n) n4.left) else (if (!(sLt a1 n4.key || sEq a1 n4.key)) then (Zi0 x1 (Zeo a1 n) n4.right) else ((Zf0 n4.rec_).bind fun r8=>(some (.inl (r8,true))))))) else (some (.inr x1)))
def Zgw (a0:Zp) (a1:ByteArray):Option (Zb × Bool):=((Zeo a1 (a0.top.hh + 1) (default:Zb) a0.top).bind fun z12=>match z12 with | .inl r=>some r | .inr y11=>(some (({ Kind:=(0:Int),Num:=(0:Int),Low:=(0:Int),High:=(0:Int),Real:=(0:Nat),Cap:=(0:Int),Text:=ByteArray.empty,List:=([]:List Zh) }:Zb),false)))
def Zeb (a0:ByteArray) (a1:Zb) (a2:shelf_nodeT) (a3:shelf_nodeT):Option (shelf_nodeT):=((Zc1 a2).bind fun r1=>((Zc1 a3).bind fun r3=>(some ({ key:=a0,rec_:=a1,left:=a2,right:=a3,size:=(IntKind.i64.wrap ((IntKind.i64.wrap (r1 + r3)) + (1:Int))) }:shelf_node).up)))
def Zjw (a0:shelf_nodeT) (a1:shelf_nodeT):Option (Bool):=((Zc1 a0).bind fun r1=>((Zc1 a1).bind fun r3=>(some (decide ((IntKind.i64.wrap ((3:Int) * (IntKind.i64.wrap (r3 + (1:Int))))) < (IntKind.i64.wrap (r1 + (1:Int))))))))
def Zjp (a0:ByteArray) (a1:Zb) (a2:shelf_nodeT) (a3:shelf_nodeT):Option (shelf_nodeT):=((Zjw a3 a2).bind fun r1=>((gd r1 (a3.un)).bind fun n3=>((gd r1 (Zc1 n3.left)).bind fun r5=>((gd r1 (a3.un)).bind fun n7=>((gd r1 (Zc1 n7.right)).bind fun r9=>(if (r1 && (decide ((IntKind.i64.wrap (r5 + (1:Int))) < (IntKind.i64.wrap ((2:Int) * (IntKind.i64.wrap (r9 + (1:Int)))))))) then ((a3.un).bind fun n12=>((Zeb a0 a1 a2 n12.left).bind fun r14=>((Zeb n12.key n12.rec_ r14 n12.right).bind fun r16=>(some r16)))) else ((Zjw a3 a2).bind fun r18=>(if r18 then ((a3.un).bind fun n21=>((n21.left.un).bind fun n23=>((Zeb a0 a1 a2 n23.left).bind fun r25=>((Zeb n21.key n21.rec_ n23.right n21.right).bind fun r27=>((Zeb n23.key n23.rec_ r25 r27).bind fun r29=>(some r29)))))) else ((Zjw a2 a3).bind fun r31=>((gd r31 (a2.un)).bind fun n33=>((gd r31 (Zc1 n33.right)).bind fun r35=>((gd r31 (a2.un)).bind fun n37=>((gd r31 (Zc1 n37.left)).bind fun r39=>(if (r31 && (decide ((IntKind.i64.wrap (r35 + (1:Int))) < (IntKind.i64.wrap ((2:Int) * (IntKind.i64.wrap (r39 + (1:Int)))))))) then ((a2.un).bind fun n42=>((Zeb a0 a1 n42.right a3).bind fun r44=>((Zeb n42.key n42.rec_ n42.left r44).bind fun r46=>(some r46)))) else ((Zjw a2 a3).bind fun r48=>(if r48 then ((a2.un).bind fun n51=>((n51.right.un).bind fun n53=>((Zeb n51.key n51.rec_ n51.left n53.left).bind fun r55=>((Zeb a0 a1 n53.right a3).bind fun r57=>((Zeb n53.key n53.rec_ r55 r57).bind fun r59=>(some r59)))))) else ((Zeb a0 a1 a2 a3).bind fun r61=>(some r61))))))))))))))))))
def Zkj (self:shelf_nodeT → ByteArray → Zb → Option (shelf_nodeT)) (a0:shelf_nodeT) (a1:ByteArray) (a2:Zb):Option (shelf_nodeT):=(if a0.isNil then ((Zeb a1 a2 shelf_nodeT.nil shelf_nodeT.nil).bind fun r2=>(some r2)) else ((a0.un).bind fun n4=>(if (sLt a1 n4.key) then ((self n4.left a1 a2).bind fun r7=>((Zjp n4.key n4.rec_ r7 n4.right).bind fun r9=>(some r9))) else (if (!(sLt a1 n4.key || sEq a1 n4.key)) then ((self n4.right a1 a2).bind fun r12=>((Zjp n4.key n4.rec_ n4.left r12).bind fun r14=>(some r14))) else ((Zeb a1 a2 n4.left n4.right).bind fun r16=>(some r16))))))
def Zgf:Nat → shelf_nodeT → ByteArray → Zb → Option (shelf_nodeT)
 | 0=>fun _ _ _=>none
 | n + 1=>Zkj (Zgf n)
def Zqf (a0:shelf_nodeT) (a1:ByteArray) (a2:Zb):Option (shelf_nodeT):=Zgf (a0.hh + 1) a0 a1 a2
def Zet (a0:Zp) (a1:ByteArray) (a2:Zb):Option (Zp × Int):=(if ((sEq a1 (⟨#[]⟩:ByteArray)) || (decide ((24:Int) < (a1.size:Int)))) then (some (a0,(1:Int))) else ((Zd5 a2).bind fun r2=>(if (r2 != (0:Int)) then (some (a0,r2)) else ((Zgw a0 a1).bind fun r5=>((gd (!r5.2) (Zf6 a0)).bind fun r7=>(if ((!r5.2) && (decide (a0.room ≤ r7))) then (some (a0,(8:Int))) else ((Zf0 a2).bind fun r10=>((Zqf a0.top a1 r10).bind fun r12=>(some (({ top:=r12,room:=a0.room }:Zp),(0:Int)))))))))))
def Zgh (a0:Nat):Option (Bool):=(some (fneq a0 a0))
def Zhy (a0:Nat):Option (Bool):=(if (feql a0 (0:Nat)) then ((Ieee.double.div (4607182418800017408:Nat) a0).bind fun f2=>(some (flss f2 (0:Nat)))) else (some (flss a0 (0:Nat))))
def Zfk (a0:Nat) (a1:Nat):Option (Bool):=((Zgh a0).bind fun r1=>(if r1 then (some false) else ((Zgh a1).bind fun r4=>(if r4 then (some true) else (if ((feql a0 (0:Nat)) && (feql a1 (0:Nat))) then ((Zhy a0).bind fun r8=>((gd r8 (Zhy a1)).bind fun r10=>(some (r8 && (!r10))))) else (some (flss a0 a1)))))))
def Zdy (a0:Nat) (a1:Nat):Option (Bool):=((Zfk a0 a1).bind fun r1=>((gd (!r1) (Zfk a1 a0)).bind fun r3=>(some ((!r1) && (!r3)))))
def Zip (a0:Nat):Option (Bool):=((Zdy a0 (0:Nat)).bind fun r1=>(some r1))
def Zdb (a1:ByteArray):Nat → (Bool) → (Bool) → (Bool) → (Bool) → (Bool) → (Int) → Option (Bool × Bool × Bool × Bool × Bool)
 | 0,_,_,_,_,_,_=>none
 | n + 1,x1,x2,x3,x4,x5,x6=>(if (decide (x6 < (a1.size:Int))) then ((gd (!x1) (sidx a1 x6)).bind fun b8=>((gd (!x2) (sidx a1 x6)).bind fun b10=>((gd (!x3) (sidx a1 x6)).bind fun b12=>((gd (!x4) (sidx a1 x6)).bind fun b14=>((gd (!x5) (sidx a1 x6)).bind fun b16=>((Zdb a1 n) (x1 || (b8 == (116:Int))) (x2 || (b10 == (110:Int))) (x3 || (b12 == (98:Int))) (x4 || (b14 == (114:Int))) (x5 || (b16 == (108:Int))) (IntKind.i64.wrap (x6 + (1:Int))))))))) else (some (x1,x2,x3,x4,x5)))
def Zj7 (a0:Zb) (a1:ByteArray):Option (Bool):=((Zdb a1 (Int.toNat ((a1.size:Int) - (0:Int)) + 1) false false false false false (0:Int)).bind fun z23=>match z23 with | (y18,y19,y20,y21,y22)=>(if (((((!y18) && (!sEq a0.Text (⟨#[]⟩:ByteArray))) || ((!y19) && (a0.Num != (0:Int)))) || ((!y20) && (a0.Low != (0:Int)))) || ((!y20) && (a0.High != (0:Int)))) then (some false) else ((gd (!y21) (Zip a0.Real)).bind fun r25=>(some ((y21 || r25) && (y22 || ((a0.Cap == (0:Int)) && ((a0.List.length:Int) == (0:Int)))))))))
def Zkr (a0:Int):Option (ByteArray):=(if ((decide (a0 < (1:Int))) || (decide ((9:Int) < a0))) then (some (⟨#[]⟩:ByteArray)) else ((idx ([(⟨#[]⟩:ByteArray),(⟨#[116]⟩:ByteArray),(⟨#[110]⟩:ByteArray),(⟨#[110]⟩:ByteArray),(⟨#[110,98]⟩:ByteArray),(⟨#[114]⟩:ByteArray),(⟨#[114]⟩:ByteArray),(⟨#[114]⟩:ByteArray),(⟨#[108]⟩:ByteArray),(⟨#[108]⟩:ByteArray)]:List ByteArray) a0).bind fun e2=>(some e2)))
def Zgd (a0:Nat):Option (Bool):=((Zgh a0).bind fun r1=>(some ((!r1) || ((a0:Int) == (9221120237041090561:Int)))))
def Zgs (a0:Zh) (a1:Zh):Option (Bool):=((Zfk a1.Score a0.Score).bind fun r1=>(if r1 then (some true) else ((Zdy a0.Score a1.Score).bind fun r4=>(some (r4 && (sLt a0.Name a1.Name))))))
def Zj3 (a0:Int) (a1:List Zh) (a2:Int):Option (Int):=((idx a1 a2).bind fun e1=>(if (decide ((16:Int) < (e1.Name.size:Int))) then (some (3:Int)) else ((gd (a0 == (8:Int)) (Zip e1.Score)).bind fun r4=>((gd (!((a0 == (8:Int)) && (!r4))) (Zgd e1.Score)).bind fun r6=>(if (((a0 == (8:Int)) && (!r4)) || (!r6)) then (some (4:Int)) else ((gd ((decide ((0:Int) < a2)) && (a0 == (8:Int))) (idx a1 (IntKind.i64.wrap (a2 - (1:Int))))).bind fun e9=>(if (((decide ((0:Int) < a2)) && (a0 == (8:Int))) && (!(sLt e9.Name e1.Name))) then (some (4:Int)) else ((gd ((decide ((0:Int) < a2)) && (a0 == (9:Int))) (idx a1 (IntKind.i64.wrap (a2 - (1:Int))))).bind fun e12=>((gd ((decide ((0:Int) < a2)) && (a0 == (9:Int))) (Zgs e12 e1)).bind fun r14=>(if (((decide ((0:Int) < a2)) && (a0 == (9:Int))) && (!r14)) then (some (4:Int)) else (some (0:Int))))))))))))
def Zes (a0:Zb):Nat → (Int) → Option ((Int) ⊕ (Unit))
 | 0,_=>none
 | n + 1,x15=>(if (decide (x15 < (a0.List.length:Int))) then ((Zj3 a0.Kind a0.List x15).bind fun r17=>(if (r17 != (0:Int)) then (some (.inl r17)) else ((Zes a0 n) (IntKind.i64.wrap (x15 + (1:Int)))))) else (some (.inr ())))
def Zd2 (a0:Zb):Option (Int):=(if ((decide (a0.Kind < (1:Int))) || (decide ((9:Int) < a0.Kind))) then (some (5:Int)) else ((Zkr a0.Kind).bind fun r2=>((Zj7 a0 r2).bind fun r4=>(if (!r4) then (some (4:Int)) else (if ((a0.Kind == (1:Int)) && (decide ((64:Int) < (a0.Text.size:Int)))) then (some (3:Int)) else (if ((a0.Kind == (4:Int)) && ((((decide (a0.Low < (IntKind.i64.wrap (0 - (2305843009213693952:Int))))) || (decide ((2305843009213693952:Int) < a0.High))) || (decide (a0.Num < a0.Low))) || (decide (a0.High < a0.Num)))) then (some (1:Int)) else ((Zgd a0.Real).bind fun r9=>(if (!r9) then (some (4:Int)) else (if (decide (a0.Kind < (8:Int))) then (some (0:Int)) else (if ((decide (a0.Cap < (1:Int))) || (decide ((32:Int) < a0.Cap))) then (some (1:Int)) else (if (decide (a0.Cap < (a0.List.length:Int))) then (some (8:Int)) else ((Zes a0 (Int.toNat ((a0.List.length:Int) - (0:Int)) + 1) (0:Int)).bind fun z20=>match z20 with | .inl r=>some r | .inr ()=>(some (0:Int))))))))))))))
def Zdl (a0:Zx) (a1:ByteArray):Nat → (Int) → Option (Int)
 | 0,_=>none
 | n + 1,x1=>((gd (decide (x1 < (a0.L.length:Int))) (idx a0.L x1)).bind fun e2=>(if ((decide (x1 < (a0.L.length:Int))) && (sLt e2.Key a1)) then ((Zdl a0 a1 n) (IntKind.i64.wrap (x1 + (1:Int)))) else (some x1)))
def Zfv (a0:Zx) (a1:ByteArray):Option (Int):=((Zdl a0 a1 (Int.toNat ((a0.L.length:Int) - (0:Int)) + 1) (0:Int)).bind fun z6=>match z6 with | y5=>(some y5))
def Ze9 (a0:Zx) (a1:ByteArray) (a2:Zb) (c10:List Zbj) (j15:Int):Option (Zx × Int):=((cut a0.L j15 (a0.L.length:Int)).bind fun c16=>(if (((([]:List Zbj) ++ c10) ++ ([({ Key:=a1,Rec:=a2 }:Zbj)]:List Zbj)).length + c16.length) * 104 ≤ 140737488355328 then (some (({ L:=(((([]:List Zbj) ++ c10) ++ ([({ Key:=a1,Rec:=a2 }:Zbj)]:List Zbj)) ++ c16),Room:=a0.Room }:Zx),(0:Int))) else none))
def Zf9 (a0:Zx) (a1:ByteArray) (a2:Zb):Option (Zx × Int):=(if ((decide ((a1.size:Int) < (1:Int))) || (decide ((24:Int) < (a1.size:Int)))) then (some (a0,(1:Int))) else ((Zd2 a2).bind fun r2=>(if (r2 != (0:Int)) then (some (a0,r2)) else ((Zfv a0 a1).bind fun r5=>((gd (decide (r5 < (a0.L.length:Int))) (idx a0.L r5)).bind fun e7=>(if ((!((decide (r5 < (a0.L.length:Int))) && (sEq e7.Key a1))) && (decide (a0.Room ≤ (a0.L.length:Int)))) then (some (a0,(8:Int))) else ((cut a0.L (0:Int) r5).bind fun c10=>(if (([]:List Zbj).length + c10.length) * 104 ≤ 140737488355328 then (if ((([]:List Zbj) ++ c10).length + ([({ Key:=a1,Rec:=a2 }:Zbj)]:List Zbj).length) * 104 ≤ 140737488355328 then (if ((decide (r5 < (a0.L.length:Int))) && (sEq e7.Key a1)) then (Ze9 a0 a1 a2 c10 (IntKind.i64.wrap (r5 + (1:Int)))) else (Ze9 a0 a1 a2 c10 r5)) else none) else none))))))))
def Zd4 (a1:List Zbj):Nat → (Zp) → (Zp) → (Zx) → (Int) → Option ((Zp × (Option Zx)) ⊕ (Zp × Zp × Zx))
 | 0,_,_,_,_=>none
 | n + 1,x4,x5,x6,x7=>(if (decide (x7 < (a1.length:Int))) then ((idx a1 x7).bind fun e9=>((gd (!(decide ((100:Int) < (e9.Key.size:Int)))) (Zi6 e9.Rec)).bind fun r11=>(if ((decide ((100:Int) < (e9.Key.size:Int))) || (decide ((0:Int) < r11))) then (some (.inl (x5,(none:Option Zx)))) else ((Zet x5 e9.Key e9.Rec).bind fun r14=>((Zf9 x6 e9.Key e9.Rec).bind fun r16=>((Zd4 a1 n) x4 r14.1 r16.1 (IntKind.i64.wrap (x7 + (1:Int))))))))) else (some (.inr (x4,x5,x6))))
def Zhx (a0:Int) (a1:List Zbj):Option (Zp × (Option Zx)):=((Zsd a0).bind fun r1=>(if ((r1.2 != (0:Int)) || (decide ((60:Int) < (a1.length:Int)))) then (some (r1.1,(none:Option Zx))) else ((Zd4 a1 (Int.toNat ((a1.length:Int) - (0:Int)) + 1) (default:Zp) r1.1 ({ L:=([]:List Zbj),Room:=a0 }:Zx) (0:Int)).bind fun z21=>match z21 with | .inl r=>some r | .inr (y18,y19,y20)=>(some (y19,(some y20))))))
def Zk6 (a0:Zs):Option (Int):=((gd (!((decide ((200:Int) < (a0.Key.size:Int))) || (decide ((1000:Int) < (a0.S.size:Int))))) (Zi6 a0.Make)).bind fun r1=>(if (((decide ((200:Int) < (a0.Key.size:Int))) || (decide ((1000:Int) < (a0.S.size:Int)))) || (decide ((0:Int) < r1))) then (some (1:Int)) else (some (0:Int))))
def Zer (a0:Zu):Nat → (Int) → Option ((Int) ⊕ (Unit))
 | 0,_=>none
 | n + 1,x2=>(if (decide (x2 < (a0.Acts.length:Int))) then ((idx a0.Acts x2).bind fun e4=>((Zk6 e4).bind fun r6=>(if (decide ((0:Int) < r6)) then (some (.inl (1:Int))) else ((Zer a0 n) (IntKind.i64.wrap (x2 + (1:Int))))))) else (some (.inr ())))
def Zky (a0:Zu):Option (Int):=(if (decide ((40:Int) < (a0.Acts.length:Int))) then (some (1:Int)) else ((Zer a0 (Int.toNat ((a0.Acts.length:Int) - (0:Int)) + 1) (0:Int)).bind fun z9=>match z9 with | .inl r=>some r | .inr ()=>(some (0:Int))))
def Zeu (a0:List Zu):Nat → (Int) → Option ((Int) ⊕ (Unit))
 | 0,_=>none
 | n + 1,x2=>(if (decide (x2 < (a0.length:Int))) then ((idx a0 x2).bind fun e4=>((Zky e4).bind fun r6=>(if (decide ((0:Int) < r6)) then (some (.inl (1:Int))) else ((Zeu a0 n) (IntKind.i64.wrap (x2 + (1:Int))))))) else (some (.inr ())))
def Zku (a0:List Zu):Option (Int):=(if (decide ((40:Int) < (a0.length:Int))) then (some (1:Int)) else ((Zeu a0 (Int.toNat ((a0.length:Int) - (0:Int)) + 1) (0:Int)).bind fun z9=>match z9 with | .inl r=>some r | .inr ()=>(some (0:Int))))
def Zgp (a0:List Zs):Option (List Zs):=if a0.length * 152 ≤ 140737488355328 then some a0 else none
def Zn5 (a0:Zu):Option (Zu):=if a0.Acts.length * 152 ≤ 140737488355328 ∧ (a0.Acts.all fun e=>decide (e.Make.List.length * 24 ≤ 140737488355328))=true then some a0 else none
def Zkw (c15:List Zu):Nat → (List Zu) → (Int) → Option (List Zu)
 | 0,_,_=>none
 | n + 1,x17,x18=>(if (decide (x18 < (c15.length:Int))) then ((idx c15 x18).bind fun e20=>((Zn5 e20).bind fun r22=>(if (x17.length + ([r22]:List Zu).length) * 24 ≤ 140737488355328 then ((Zkw c15 n) (x17 ++ ([r22]:List Zu)) (IntKind.i64.wrap (x18 + (1:Int)))) else none))) else (some x17))
def Zkv (a0:Int) (a1:List Zu):Nat → (Zbk) → (Int) → Option (Zbk)
 | 0,_,_=>none
 | n + 1,x1,x2=>(if (decide (x2 < (a1.length:Int))) then ((idx a1 x2).bind fun e4=>((Zn5 e4).bind fun r6=>(if 0 < ([r6]:List Zu).length then (if (x1.Deals.length + ([r6]:List Zu).length) * 24 ≤ 140737488355328 then ((Zgg ({ Number:=a0,Deals:=(x1.Deals ++ ([r6]:List Zu)) }:Zbk)).bind fun r10=>(if (r10.1 != (0:Int)) then (some x1) else ((Zkv a0 a1 n) ({ Number:=a0,Deals:=(x1.Deals ++ ([r6]:List Zu)) }:Zbk) (IntKind.i64.wrap (x2 + (1:Int)))))) else none) else none))) else (some x1))
def Zte (a0:Int) (a1:List Zu):Option (Zbk × (List Zu)):=((Zkv a0 a1 (Int.toNat ((a1.length:Int) - (0:Int)) + 1) ({ Number:=a0,Deals:=([]:List Zu) }:Zbk) (0:Int)).bind fun z14=>match z14 with | y13=>((cut a1 (y13.Deals.length:Int) (a1.length:Int)).bind fun c15=>((Zkw c15 (Int.toNat ((c15.length:Int) - (0:Int)) + 1) ([]:List Zu) (0:Int)).bind fun z26=>match z26 with | y25=>(some (y13,y25)))))
def Zx8 (a0:List Int):Option Ze:=some { b:=a0,at_:=(0:Int) }
def Zdx (a0:Ze) (a1:Int):Option (Ze):=none
def Zi1 (j4:Ze):Option (Int × Ze):=((idx (({ j4 with at_:=(IntKind.i64.wrap (j4.at_ + (1:Int))) }:Ze).b) (IntKind.i64.wrap (({ j4 with at_:=(IntKind.i64.wrap (j4.at_ + (1:Int))) }:Ze).at_ - (1:Int)))).bind fun e5=>(some (e5,({ j4 with at_:=(IntKind.i64.wrap (j4.at_ + (1:Int))) }:Ze))))
def Zhp (a0:Ze):Option (Int × Ze):=(if (decide ((a0.b.length:Int) ≤ a0.at_)) then ((Zdx a0 (2:Int)).bind fun r2=>(Zi1 r2)) else (Zi1 a0))
def Zkf (x1:Int) (x2:Int) (r4:Int × Ze) (j15:Ze):Option ((Int × Ze) ⊕ (Unit)):=(some (.inl ((bOr .u64 x1 (IntKind.u64.wrap ((IntKind.u64.wrap (bAnd .u8 r4.1 (127:Int))) * 2 ^ (min (Int.toNat x2) (IntKind.u64).bits)))),j15)))
def Zil (x1:Int) (x2:Int) (r4:Int × Ze) (kk:(Int) → (Int) → (Ze) → Option ((Int × Ze) ⊕ (Unit))) (j9:Ze):Option ((Int × Ze) ⊕ (Unit)):=(if 0 ≤ x2 then (if (decide ((128:Int) ≤ r4.1)) then (kk (bOr .u64 x1 (IntKind.u64.wrap ((IntKind.u64.wrap (bAnd .u8 r4.1 (127:Int))) * 2 ^ (min (Int.toNat x2) (IntKind.u64).bits)))) (IntKind.i64.wrap (x2 + (7:Int))) j9) else (if ((r4.1 == (0:Int)) && (decide ((0:Int) < x2))) then ((Zdx j9 (4:Int)).bind fun r13=>(Zkf x1 x2 r4 r13)) else (Zkf x1 x2 r4 j9))) else none)
def Zd9:Nat → (Int) → (Int) → (Ze) → Option ((Int × Ze) ⊕ (Unit))
 | 0,_,_,_=>none
 | n + 1,x1,x2,x3=>((Zhp x3).bind fun r4=>(if ((x2 == (63:Int)) && (decide ((1:Int) < r4.1))) then ((Zdx r4.2 (1:Int)).bind fun r7=>(Zil x1 x2 r4 (Zd9 n) r7)) else (Zil x1 x2 r4 (Zd9 n) r4.2)))
def Zi9 (a0:Ze):Option (Int × Ze):=((Zd9 11 (0:Int) (0:Int) a0).bind fun z16=>match z16 with | .inl r=>some r | .inr ()=>none)
def Zh8 (r1:Int × Ze) (j6:Ze):Option (Int × Ze):=(some ((IntKind.i64.wrap r1.1),j6))
def Zdo (a0:Ze) (a1:Int):Option (Int × Ze):=((Zi9 a0).bind fun r1=>(if (decide ((IntKind.u64.wrap (max a1 (0:Int))) < r1.1)) then ((Zdx r1.2 (1:Int)).bind fun r4=>(Zh8 r1 r4)) else (Zh8 r1 r1.2)))
def Zdg (a0:Ze) (a1:Int):Option (Ze):=((Zdx a0 a1).bind fun r1=>(some r1))
def Zh7 (r1:Int × Ze) (j6:Ze):Option (Bool × Ze):=(some ((r1.1 == (1:Int)),j6))
def Zj6 (a0:Ze):Option (Bool × Ze):=((Zhp a0).bind fun r1=>(if (decide ((1:Int) < r1.1)) then ((Zdx r1.2 (4:Int)).bind fun r4=>(Zh7 r1 r4)) else (Zh7 r1 r1.2)))
def Zio (a0:Ze):Option (Int × Ze):=(some ((IntKind.i64.wrap ((a0.b.length:Int) - a0.at_)),a0))
def Ziq (r1:Int × Ze) (j11:Ze):Option (ByteArray × Ze):=((cut (({ j11 with at_:=(IntKind.i64.wrap (j11.at_ + (IntKind.i64.wrap r1.1))) }:Ze).b) (IntKind.i64.wrap (({ j11 with at_:=(IntKind.i64.wrap (j11.at_ + (IntKind.i64.wrap r1.1))) }:Ze).at_ - (IntKind.i64.wrap r1.1))) (({ j11 with at_:=(IntKind.i64.wrap (j11.at_ + (IntKind.i64.wrap r1.1))) }:Ze).at_)).bind fun c12=>(some ((bstr c12),({ j11 with at_:=(IntKind.i64.wrap (j11.at_ + (IntKind.i64.wrap r1.1))) }:Ze))))
def Zem (a0:Ze) (a1:Int):Option (ByteArray × Ze):=((Zi9 a0).bind fun r1=>(if (decide ((IntKind.u64.wrap (max a1 (0:Int))) < r1.1)) then ((Zdx r1.2 (3:Int)).bind fun r4=>(Ziq r1 r4)) else ((Zio r1.2).bind fun r6=>(if (decide ((IntKind.u64.wrap r6.1) < r1.1)) then ((Zdx r6.2 (2:Int)).bind fun r9=>(Ziq r1 r9)) else (Ziq r1 r6.2)))))
def Zek (a0:Ze):Option (Int × Ze):=((Zi9 a0).bind fun r1=>(some ((bXor .i64 (IntKind.i64.wrap (Int.fdiv r1.1 (2 ^ 1))) (IntKind.i64.wrap (0 - (IntKind.i64.wrap (bAnd .u64 r1.1 (1:Int)))))),r1.2)))
def Zmu (a0:Int) (j2:Int):Option (Nat × Bool):=((Zm4 (Int.toNat j2)).bind fun r3=>(if (r3 != a0) then (some ((0:Nat),false)) else (some ((Int.toNat j2),true))))
def Zp8 (a0:Int):Option (Nat × Bool):=(if ((bAnd .u64 a0 (9223372036854775808:Int)) != (0:Int)) then (Zmu a0 (Zs3 .u64 a0 (9223372036854775808:Int))) else (Zmu a0 (bXor .u64 IntKind.u64.max a0)))
def Zj5 (r10:Nat × Bool) (j15:Ze):Option (Nat × Ze):=(some (r10.1,j15))
def Zgb:Nat → (Int) → (Int) → (Ze) → Option (Int × Ze)
 | 0,_,_,_=>none
 | n + 1,x1,x2,x3=>(if (decide (x2 < (8:Int))) then ((Zhp x3).bind fun r5=>((Zgb n) (bOr .u64 (IntKind.u64.wrap (x1 * 2 ^ 8)) (IntKind.u64.wrap r5.1)) (IntKind.i64.wrap (x2 + (1:Int))) r5.2)) else (some (x1,x3)))
def Zgj (a0:Ze):Option (Nat × Ze):=((Zgb (Int.toNat ((8:Int) - (0:Int)) + 1) (0:Int) (0:Int) a0).bind fun z9=>match z9 with | (y7,y8)=>((Zp8 y7).bind fun r10=>(if (!r10.2) then ((Zdx y8 (4:Int)).bind fun r13=>(Zj5 r10 r13)) else (Zj5 r10 y8))))
def Zqj (j51:Zb) (j58:Ze):Option (Zb × Ze):=(some (j51,j58))
def Zjt (j51:Zb) (j52:Ze):Option (Zb × Ze):=((Zd5 j51).bind fun r53=>(if (r53 != (0:Int)) then ((Zdg j52 r53).bind fun r56=>(Zqj j51 r56)) else (Zqj j51 j52)))
def Zle (x36:Zb) (x37:Int) (kk:(Zb) → (Int) → (Ze) → Option (Zb × Ze)) (j43:Zh) (j44:Ze):Option (Zb × Ze):=((Zem j44 (16:Int)).bind fun r45=>(if (x36.List.length + ([({ j43 with Name:=r45.1 })]:List Zh).length) * 24 ≤ 140737488355328 then (kk ({ x36 with List:=(x36.List ++ ([({ j43 with Name:=r45.1 })]:List Zh)) }:Zb) (IntKind.i64.wrap (x37 + (1:Int))) r45.2) else none))
def Zfw (r34:Int × Ze):Nat → (Zb) → (Int) → (Ze) → Option (Zb × Ze)
 | 0,_,_,_=>none
 | n + 1,x36,x37,x38=>(if (decide (x37 < r34.1)) then (if (x36.Kind == (9:Int)) then ((Zgj x38).bind fun r41=>(Zle x36 x37 (Zfw r34 n) ({ (default:Zh) with Score:=r41.1 }) r41.2)) else (Zle x36 x37 (Zfw r34 n) (default:Zh) x38)) else (some (x36,x38)))
def Zmw (r7:Zb6) (j29:Zb) (j30:Ze):Option (Zb × Ze):=(if r7.list then ((Zdo j30 (32:Int)).bind fun r32=>((Zdo r32.2 (32:Int)).bind fun r34=>((Zfw r34 (Int.toNat (r34.1 - (0:Int)) + 1) ({ j29 with Cap:=r32.1 }:Zb) (0:Int) r34.2).bind fun z50=>match z50 with | (y48,y49)=>(Zjt y48 y49)))) else (Zjt j29 j30))
def Zm2 (r7:Zb6) (j24:Zb) (j25:Ze):Option (Zb × Ze):=(if r7.real then ((Zgj j25).bind fun r27=>(Zmw r7 ({ j24 with Real:=r27.1 }:Zb) r27.2)) else (Zmw r7 j24 j25))
def Zjs (r7:Zb6) (j19:Zb) (j20:Ze):Option (Zb × Ze):=(if r7.num then ((Zek j20).bind fun r22=>(Zm2 r7 ({ j19 with Num:=r22.1 }:Zb) r22.2)) else (Zm2 r7 j19 j20))
def Zlc (r7:Zb6) (j12:Zb) (j13:Ze):Option (Zb × Ze):=(if r7.bounds then ((Zek j13).bind fun r15=>((Zek r15.2).bind fun r17=>(Zjs r7 ({ ({ j12 with Low:=r15.1 }:Zb) with High:=r17.1 }:Zb) r17.2))) else (Zjs r7 j12 j13))
def Zld (r1:Int × Ze) (j6:Ze):Option (Zb × Ze):=((Zd3 (({ (default:Zb) with Kind:=r1.1 }:Zb).Kind)).bind fun r7=>(if r7.text then ((Zem j6 (64:Int)).bind fun r10=>(Zlc r7 ({ ({ (default:Zb) with Kind:=r1.1 }:Zb) with Text:=r10.1 }:Zb) r10.2)) else (Zlc r7 ({ (default:Zb) with Kind:=r1.1 }:Zb) j6)))
def Zp1 (a0:Ze):Option (Zb × Ze):=((Zdo a0 (9:Int)).bind fun r1=>(if (({ (default:Zb) with Kind:=r1.1 }:Zb).Kind == (0:Int)) then ((Zdg r1.2 (5:Int)).bind fun r4=>(Zld r1 r4)) else (Zld r1 r1.2)))
def Zol (j41:Zs) (j48:Ze):Option (Zs × Ze):=(some (j41,j48))
def Zm0 (j41:Zs) (j42:Ze):Option (Zs × Ze):=((Ze4 j41).bind fun r43=>(if (r43 != (0:Int)) then ((Zdg j42 r43).bind fun r46=>(Zol j41 r46)) else (Zol j41 j42)))
def Zm3 (r7:Zcx) (j34:Zs) (j35:Ze):Option (Zs × Ze):=((Zbu r7 (109:Int)).bind fun r36=>(if r36 then ((Zp1 j35).bind fun r39=>(Zm0 ({ j34 with Make:=r39.1 }) r39.2)) else (Zm0 j34 j35)))
def Zm5 (r7:Zcx) (j25:Zs) (j26:Ze):Option (Zs × Ze):=((Zbu r7 (115:Int)).bind fun r27=>(if r27 then ((Zou r7).bind fun r30=>((Zem j26 r30).bind fun r32=>(Zm3 r7 ({ j25 with S:=r32.1 }) r32.2))) else (Zm3 r7 j25 j26)))
def Zhi (r7:Zcx) (j18:Zs) (j19:Ze):Option (Zs × Ze):=((Zbu r7 (120:Int)).bind fun r20=>(if r20 then ((Zgj j19).bind fun r23=>(Zm5 r7 ({ j18 with X:=r23.1 }) r23.2)) else (Zm5 r7 j18 j19)))
def Zk8 (r1:Int × Ze) (j6:Ze):Option (Zs × Ze):=((Zlq (({ (default:Zs) with Kind:=r1.1 }).Kind)).bind fun r7=>((Zj6 j6).bind fun r9=>((Zem r9.2 (24:Int)).bind fun r11=>((Zbu r7 (110:Int)).bind fun r13=>(if r13 then ((Zek r11.2).bind fun r16=>(Zhi r7 (Z7o (Z0j ({ ({ (default:Zs) with Kind:=r1.1 }) with Must:=r9.1 }) r11.1) r16.1) r16.2)) else (Zhi r7 (Z0j ({ ({ (default:Zs) with Kind:=r1.1 }) with Must:=r9.1 }) r11.1) r11.2))))))
def Zr2 (a0:Ze):Option (Zs × Ze):=((Zdo a0 (21:Int)).bind fun r1=>(if (({ (default:Zs) with Kind:=r1.1 }).Kind == (0:Int)) then ((Zdg r1.2 (5:Int)).bind fun r4=>(Zk8 r1 r4)) else (Zk8 r1 r1.2)))
def Zhu (r1:Int × Ze):Nat → (Zu) → (Int) → (Ze) → Option (Zu × Ze)
 | 0,_,_,_=>none
 | n + 1,x7,x8,x9=>(if (decide (x8 < r1.1)) then ((Zr2 x9).bind fun r11=>(if (x7.Acts.length + ([r11.1]:List Zs).length) * 152 ≤ 140737488355328 then ((Zhu r1 n) ({ x7 with Acts:=(x7.Acts ++ ([r11.1]:List Zs)) }:Zu) (IntKind.i64.wrap (x8 + (1:Int))) r11.2) else none)) else (some (x7,x9)))
def Zki (r1:Int × Ze) (j6:Ze):Option (Zu × Ze):=((Zhu r1 (Int.toNat (r1.1 - (0:Int)) + 1) (default:Zu) (0:Int) j6).bind fun z16=>match z16 with | (y14,y15)=>(some (y14,y15)))
def Zqp (a0:Ze):Option (Zu × Ze):=((Zdo a0 (12:Int)).bind fun r1=>(if (r1.1 == (0:Int)) then ((Zdg r1.2 (1:Int)).bind fun r4=>(Zki r1 r4)) else (Zki r1 r1.2)))
def Zk1 (j6:Ze):Option (Ze):=(some j6)
def Znb (a0:Ze):Option (Ze):=((Zio a0).bind fun r1=>(if (decide ((0:Int) < r1.1)) then ((Zdx r1.2 (3:Int)).bind fun r4=>(Zk1 r4)) else (Zk1 r1.2)))
def Zla (y18:Zbk) (j26:Ze):Option (Zbk × Zcz):=((Znb j26).bind fun r27=>(some (y18,({ Code:=(0:Int),At:=(0:Int) }:Zcz))))
def Zhj (r9:Int × Ze):Nat → (Zbk) → (Ze) → (Int) → Option (Zbk × Ze)
 | 0,_,_,_=>none
 | n + 1,x11,x12,x13=>(if (decide (x13 < r9.1)) then ((Zqp x12).bind fun r15=>(if (x11.Deals.length + ([r15.1]:List Zu).length) * 24 ≤ 140737488355328 then ((Zhj r9 n) ({ x11 with Deals:=(x11.Deals ++ ([r15.1]:List Zu)) }:Zbk) r15.2 (IntKind.i64.wrap (x13 + (1:Int)))) else none)) else (some (x11,x12)))
def Zk7 (r3:Int × Ze) (j8:Ze):Option (Zbk × Zcz):=((Zdo j8 (32:Int)).bind fun r9=>((Zhj r9 (Int.toNat (r9.1 - (0:Int)) + 1) ({ (default:Zbk) with Number:=r3.1 }:Zbk) r9.2 (0:Int)).bind fun z20=>match z20 with | (y18,y19)=>((Zgg y18).bind fun r21=>(if (r21.1 != (0:Int)) then ((Zdg y19 r21.1).bind fun r24=>(Zla y18 r24)) else (Zla y18 y19)))))
def Zr5 (a0:List Int):Option (Zbk × Zcz):=((Zx8 a0).bind fun r1=>((Zdo r1 (1099511627776:Int)).bind fun r3=>(if (({ (default:Zbk) with Number:=r3.1 }:Zbk).Number == (0:Int)) then ((Zdg r3.2 (1:Int)).bind fun r6=>(Zk7 r3 r6)) else (Zk7 r3 r3.2))))
def Ze3 (a0:Zb) (a1:Zb):Nat → (Int) → Option ((Bool) ⊕ (Unit))
 | 0,_=>none
 | n + 1,x5=>(if (decide (x5 < (a0.List.length:Int))) then ((idx a0.List x5).bind fun e7=>((idx a1.List x5).bind fun e9=>((gd (!(!sEq e7.Name e9.Name)) (idx a0.List x5)).bind fun e11=>((gd (!(!sEq e7.Name e9.Name)) (idx a1.List x5)).bind fun e13=>((gd (!(!sEq e7.Name e9.Name)) (Zdy e11.Score e13.Score)).bind fun r15=>(if ((!sEq e7.Name e9.Name) || (!r15)) then (some (.inl false)) else ((Ze3 a0 a1 n) (IntKind.i64.wrap (x5 + (1:Int)))))))))) else (some (.inr ())))
def Zg9 (a0:Zb) (a1:Zb):Option (Bool):=(if ((((((a0.Kind != a1.Kind) || (a0.Num != a1.Num)) || (a0.Low != a1.Low)) || (a0.High != a1.High)) || (a0.Cap != a1.Cap)) || (!sEq a0.Text a1.Text)) then (some false) else ((Zdy a0.Real a1.Real).bind fun r2=>(if ((!r2) || ((a0.List.length:Int) != (a1.List.length:Int))) then (some false) else ((Ze3 a0 a1 (Int.toNat ((a0.List.length:Int) - (0:Int)) + 1) (0:Int)).bind fun z18=>match z18 with | .inl r=>some r | .inr ()=>(some true)))))
def Zkc (a0:Zs) (a1:Zs):Option (Bool):=(if (((((a0.Kind != a1.Kind) || (!sEq a0.Key a1.Key)) || (a0.N != a1.N)) || (!sEq a0.S a1.S)) || (a0.Must != a1.Must)) then (some false) else ((Zdy a0.X a1.X).bind fun r2=>((gd r2 (Zg9 a0.Make a1.Make)).bind fun r4=>(some (r2 && r4)))))
def Ze2 (a0:Zu) (a1:Zu):Nat → (Int) → Option ((Bool) ⊕ (Unit))
 | 0,_=>none
 | n + 1,x2=>(if (decide (x2 < (a0.Acts.length:Int))) then ((idx a0.Acts x2).bind fun e4=>((idx a1.Acts x2).bind fun e6=>((Zkc e4 e6).bind fun r8=>(if (!r8) then (some (.inl false)) else ((Ze2 a0 a1 n) (IntKind.i64.wrap (x2 + (1:Int)))))))) else (some (.inr ())))
def Zj9 (a0:Zu) (a1:Zu):Option (Bool):=(if ((a0.Acts.length:Int) != (a1.Acts.length:Int)) then (some false) else ((Ze2 a0 a1 (Int.toNat ((a0.Acts.length:Int) - (0:Int)) + 1) (0:Int)).bind fun z11=>match z11 with | .inl r=>some r | .inr ()=>(some true)))
def Ze1 (a0:Zbk) (a1:Zbk):Nat → (Int) → Option ((Bool) ⊕ (Unit))
 | 0,_=>none
 | n + 1,x2=>(if (decide (x2 < (a0.Deals.length:Int))) then ((idx a0.Deals x2).bind fun e4=>((idx a1.Deals x2).bind fun e6=>((Zj9 e4 e6).bind fun r8=>(if (!r8) then (some (.inl false)) else ((Ze1 a0 a1 n) (IntKind.i64.wrap (x2 + (1:Int)))))))) else (some (.inr ())))
def Zik (a0:Zbk) (a1:Zbk):Option (Bool):=(if ((a0.Number != a1.Number) || ((a0.Deals.length:Int) != (a1.Deals.length:Int))) then (some false) else ((Ze1 a0 a1 (Int.toNat ((a0.Deals.length:Int) - (0:Int)) + 1) (0:Int)).bind fun z11=>match z11 with | .inl r=>some r | .inr ()=>(some true)))
def Zpm (a0:Int):Option (Int):=((Zlq a0).bind fun r1=>(some r1.on))
def Zlz (a0:Zb) (a1:Zs) (a2:Zj):Option (Int × Zb × Zj):=(some ((0:Int),({ a0 with Text:=a1.S }),a2))
def Zir (a0:Zb) (a1:Zs) (a2:Zj):Option (Int × Zb × Zj):=((Zf0 a0).bind fun r1=>(some ((0:Int),({ a0 with Text:=a1.S }),({ a2 with Rec:=r1 }))))
def Zlw (a0:Zb) (a1:Zs) (a2:Zj):Option (Int × Zb × Zj):=(some ((0:Int),({ a0 with Num:=(IntKind.i64.wrap (a0.Num + a1.N)) }),a2))
def Znf (a0:Zb) (a1:Zs) (a2:Zj):Option (Int × Zb × Zj):=(if (((decide ((0:Int) < a1.N)) && (decide ((IntKind.i64.wrap ((9223372036854775807:Int) - a1.N)) < a0.Num))) || ((decide (a1.N < (0:Int))) && (decide (a0.Num < (IntKind.i64.wrap ((-9223372036854775808:Int) - a1.N)))))) then (some ((9:Int),a0,a2)) else (some ((0:Int),({ a0 with Num:=(IntKind.i64.wrap (a0.Num + a1.N)) }),a2)))
def Zg3 (a0:Zb) (a1:Zs) (a2:Zj):Option (Int × Zb × Zj):=(if (decide (a0.Num < a1.N)) then (some ((11:Int),a0,a2)) else (some ((0:Int),a0,a2)))
def Zie (a0:Zb) (a1:Zs) (a2:Zj):Option (Int × Zb × Zj):=(if (decide ((IntKind.i64.wrap (a0.High - a0.Num)) < a1.N)) then (some ((9:Int),a0,a2)) else (some ((0:Int),({ a0 with Num:=(IntKind.i64.wrap (a0.Num + a1.N)) }),a2)))
def Zic (a0:Zb) (a1:Zs) (a2:Zj):Option (Int × Zb × Zj):=(if (decide ((IntKind.i64.wrap (a0.Num - a0.Low)) < a1.N)) then (some ((10:Int),a0,a2)) else (some ((0:Int),({ a0 with Num:=(IntKind.i64.wrap (a0.Num - a1.N)) }),a2)))
def Zfb (ψ:Nat → Nat → Option Nat) (a0:Zb) (a1:Zs) (a2:Zj):Option (Int × Zb × Zj):=(ψ a0.Real a1.X).bind fun z=>some ((0:Int),{ a0 with Real:=z },a2)
def Zn1 (a0:Nat) (a1:Nat):Option (Nat):=((Zo1 a0 a1).bind fun r1=>(if r1 then ((Zgv a1).bind fun r4=>(some r4)) else ((Zgv a0).bind fun r6=>(some r6))))
def Zob (a0:Nat) (a1:Nat):Option (Nat):=((Zo1 a1 a0).bind fun r1=>(if r1 then ((Zgv a1).bind fun r4=>(some r4)) else ((Zgv a0).bind fun r6=>(some r6))))
def Zkd (a0:Nat) (a1:Nat):Option (Nat):=((Zgv (fadd a0 a1)).bind fun r1=>(some r1))
def Zi2 (a0:Nat) (a1:Nat):Option (Nat):=((Zgv (fmul a0 a1)).bind fun r1=>(some r1))
def Zih (a0:Nat) (a1:Nat):Option (Nat):=(some a1)
def Zcq (kk:(Int) → (Int) → Option (Int)) (j9:Int) (j10:Int):Option (Int):=(kk j9 j10)
def Zbv (a0:List Zh) (a1:ByteArray) (φ2:Zh → ByteArray → Option Int):Nat → (Int) → (Int) → Option (Int)
 | 0,_,_=>none
 | n + 1,x1,x2=>(if (decide (x1 < x2)) then ((idx a0 (IntKind.i64.wrap (Int.fdiv (IntKind.u64.wrap (IntKind.i64.wrap (x1 + x2))) (2 ^ 1)))).bind fun e4=>((φ2 e4 a1).bind fun r6=>(if (decide (r6 < (0:Int))) then (Zcq (Zbv a0 a1 φ2 n) (IntKind.i64.wrap ((IntKind.i64.wrap (Int.fdiv (IntKind.u64.wrap (IntKind.i64.wrap (x1 + x2))) (2 ^ 1))) + (1:Int))) x2) else (Zcq (Zbv a0 a1 φ2 n) x1 (IntKind.i64.wrap (Int.fdiv (IntKind.u64.wrap (IntKind.i64.wrap (x1 + x2))) (2 ^ 1))))))) else (some x1))
def Zde (a0:List Zh) (a1:ByteArray) (φ2:Zh → ByteArray → Option Int):Option (Int × Bool):=((Zbv a0 a1 φ2 (Int.toNat ((a0.length:Int) - (0:Int)) + 1) (0:Int) (a0.length:Int)).bind fun z12=>match z12 with | y11=>((gd (decide (y11 < (a0.length:Int))) (idx a0 y11)).bind fun e13=>((gd (decide (y11 < (a0.length:Int))) (φ2 e13 a1)).bind fun r15=>(some (y11,((decide (y11 < (a0.length:Int))) && (r15 == (0:Int))))))))
def Zlf (a0:Zh) (a1:ByteArray):Option (Int):=(if (sLt a0.Name a1) then (some (-1:Int)) else (if (!(sLt a0.Name a1 || sEq a0.Name a1)) then (some (1:Int)) else (some (0:Int))))
def Znq (a0:List Zh) (a1:ByteArray):Option (Int × Bool):=((Zde a0 a1 (fun y0 y1=>Zlf y0 y1)).bind fun r1=>(some (r1.1,r1.2)))
def Zcp (a0:List Zh) (a1:Int) (a2:List Zh):Option (List Zh):=if 0 ≤ a1 ∧ a1 ≤ a0.length ∧ 0 < a2.length ∧ (a0.length + a2.length) * 24 ≤ 140737488355328 then some (a0.take a1.toNat ++ a2 ++ a0.drop a1.toNat) else none
def Znh (a0:Zb) (a1:Zs) (a2:Zj):Option (Int × Zb × Zj):=((Znq a0.List a1.S).bind fun r1=>(if r1.2 then (some ((0:Int),a0,a2)) else (if (decide (a0.Cap ≤ (a0.List.length:Int))) then (some ((8:Int),a0,a2)) else ((Zb9 a0.List).bind fun r5=>((Zcp r5 r1.1 ([({ Score:=(0:Nat),Name:=a1.S }:Zh)]:List Zh)).bind fun r7=>(some ((0:Int),({ a0 with List:=r7 }),a2)))))))
def Zfu (a0:List Zh) (a1 a2:Int):Option (List Zh):=if 0 < a0.length ∧ 0 ≤ a1 ∧ a1 ≤ a2 ∧ a2 ≤ a0.length ∧ a0.length ≤ 140737488355328 then some (a0.take a1.toNat ++ a0.drop a2.toNat) else none
def Zll (a2:Zj) (j8:Zb):Option (Int × Zb × Zj):=(some ((0:Int),j8,a2))
def Zlu (a0:Zb) (a1:Zs) (a2:Zj):Option (Int × Zb × Zj):=((Znq a0.List a1.S).bind fun r1=>(if r1.2 then ((Zb9 a0.List).bind fun r4=>((Zfu r4 r1.1 (IntKind.i64.wrap (r1.1 + (1:Int)))).bind fun r6=>(Zll a2 ({ a0 with List:=r6 })))) else (Zll a2 a0)))
def Zig (a0:Zb) (a1:Zs) (a2:Zj):Option (Int × Zb × Zj):=((Znq a0.List a1.S).bind fun r1=>(if (!r1.2) then (some ((11:Int),a0,a2)) else (some ((0:Int),a0,a2))))
def Zg4 (a0:Zb) (a1:Zs):Nat → (Int) → Option (Int)
 | 0,_=>none
 | n + 1,x1=>((gd (decide (x1 < (a0.List.length:Int))) (idx a0.List x1)).bind fun e2=>((gd (decide (x1 < (a0.List.length:Int))) (Zl7 e2 ({ Score:=a1.X,Name:=a1.S }:Zh))).bind fun r4=>(if ((decide (x1 < (a0.List.length:Int))) && r4) then ((Zg4 a0 a1 n) (IntKind.i64.wrap (x1 + (1:Int)))) else (some x1))))
def Zl4 (a0:Zb) (a1:Zs) (a2:Zj):Option (Int × Zb × Zj):=((Zg4 a0 a1 (Int.toNat ((a0.List.length:Int) - (0:Int)) + 1) (0:Int)).bind fun z8=>match z8 with | y7=>((gd (decide (y7 < (a0.List.length:Int))) (idx a0.List y7)).bind fun e9=>((gd (decide (y7 < (a0.List.length:Int))) (Zl7 ({ Score:=a1.X,Name:=a1.S }:Zh) e9)).bind fun r11=>(if ((decide (y7 < (a0.List.length:Int))) && (!r11)) then (some ((0:Int),a0,a2)) else ((Zb9 a0.List).bind fun r14=>((Zcp r14 y7 ([({ Score:=a1.X,Name:=a1.S }:Zh)]:List Zh)).bind fun r16=>((cut r16 (0:Int) (min (r16.length:Int) a0.Cap)).bind fun c18=>(some ((0:Int),({ a0 with List:=c18 }),a2)))))))))
def Zbs (k:Int) (a0:Zb) (a1:Zs) (a2:Zj):Option (Int × Zb × Zj):=if k=5 then Zlz a0 a1 a2 else if k=6 then Zir a0 a1 a2 else if k=7 then Zlw a0 a1 a2 else if k=8 then Znf a0 a1 a2 else if k=9 then Zg3 a0 a1 a2 else if k=10 then Zie a0 a1 a2 else if k=11 then Zic a0 a1 a2 else if k=12 then Zg3 a0 a1 a2 else if k=13 then Zfb (fun x y=>Zn1 x y) a0 a1 a2 else if k=14 then Zfb (fun x y=>Zob x y) a0 a1 a2 else if k=15 then Zfb (fun x y=>Zkd x y) a0 a1 a2 else if k=16 then Zfb (fun x y=>Zi2 x y) a0 a1 a2 else if k=17 then Zfb (fun x y=>Zih x y) a0 a1 a2 else if k=18 then Znh a0 a1 a2 else if k=19 then Zlu a0 a1 a2 else if k=20 then Zig a0 a1 a2 else if k=21 then Zl4 a0 a1 a2 else none
def Zhl (a0:Int) (a1:Zb) (a2:Bool):Option (Zb × Bool × Zj × Zb):=(some (a1,a2,({ Code:=a0,Num:=(0:Int),Rec:=(default:Zb) }:Zj),a1))
def Zh0 (a1:Bool) (a2:Zs) (r3:Zb):Option (Zb × Bool × Zj):=(if ((a2.Kind == (1:Int)) && a1) then ((Zhl (7:Int) r3 a1).bind fun r17=>(some (r17.1,r17.2.1,r17.2.2.1))) else (if (a2.Kind == (1:Int)) then ((Zf0 a2.Make).bind fun r20=>(some (r20,true,({ Code:=(0:Int),Num:=(0:Int),Rec:=(default:Zb) }:Zj)))) else (if (a2.Kind == (3:Int)) then (some (r3,a1,({ Code:=(0:Int),Num:=r3.Kind,Rec:=(default:Zb) }:Zj))) else (if (!a1) then ((Zhl (6:Int) r3 a1).bind fun r24=>(some (r24.1,r24.2.1,r24.2.2.1))) else (if (a2.Kind == (2:Int)) then (some (({ Kind:=(0:Int),Num:=(0:Int),Low:=(0:Int),High:=(0:Int),Real:=(0:Nat),Cap:=(0:Int),Text:=ByteArray.empty,List:=([]:List Zh) }:Zb),false,({ Code:=(0:Int),Num:=(0:Int),Rec:=(default:Zb) }:Zj))) else (if (a2.Kind == (4:Int)) then ((Zf0 r3).bind fun r28=>(some (r3,a1,({ Code:=(0:Int),Num:=(0:Int),Rec:=r28 }:Zj)))) else ((Zpm a2.Kind).bind fun r30=>(if (r30 != r3.Kind) then ((Zhl (5:Int) r3 a1).bind fun r33=>(some (r33.1,r33.2.1,r33.2.2.1))) else ((Zf0 r3).bind fun r35=>(if (5 ≤ a2.Kind ∧ a2.Kind ≤ 21) then ((Zbs a2.Kind r3 a2 (default:Zj)).bind fun r38=>(if (r38.1 != (0:Int)) then (some (r35,a1,({ Code:=r38.1,Num:=(0:Int),Rec:=(default:Zb) }:Zj))) else (some (r38.2.1,a1,r38.2.2)))) else none))))))))))
def Zhz (a1:Bool) (a2:Zs) (j2:Zb):Option (Zb × Bool × Zj):=((Zf0 j2).bind fun r3=>((Ze4 a2).bind fun r5=>(if (r5 != (0:Int)) then ((Zhl r5 r3 a1).bind fun r8=>(some (r8.1,r8.2.1,r8.2.2.1))) else (if a1 then ((Zd5 r3).bind fun r11=>(if (r11 != (0:Int)) then ((Zhl r11 r3 a1).bind fun r14=>(some (r14.1,r14.2.1,r14.2.2.1))) else (Zh0 a1 a2 r3))) else (Zh0 a1 a2 r3)))))
def Zmj (a0:Zb) (a1:Bool) (a2:Zs):Option (Zb × Bool × Zj):=(if (!a1) then (Zhz a1 a2 ({ Kind:=(0:Int),Num:=(0:Int),Low:=(0:Int),High:=(0:Int),Real:=(0:Nat),Cap:=(0:Int),Text:=ByteArray.empty,List:=([]:List Zh) }:Zb)) else (Zhz a1 a2 a0))
def Zsg (a0:Int):Option (Bool):=(some (((((a0 == (3:Int)) || (a0 == (4:Int))) || (a0 == (9:Int))) || (a0 == (12:Int))) || (a0 == (20:Int))))
def Zf5:Nat → (shelf_nodeT) → Option (shelf_nodeT)
 | 0,_=>none
 | n + 1,x1=>((x1.un).bind fun n2=>(if (!n2.left.isNil) then ((Zf5 n) n2.left) else (some x1)))
def Zj4 (a0:shelf_nodeT):Option (shelf_nodeT):=((Zf5 (a0.hh + 1) a0).bind fun z6=>match z6 with | y5=>(some y5))
def Zmn (self:shelf_nodeT → ByteArray → Option (shelf_nodeT)) (a0:shelf_nodeT) (a1:ByteArray):Option (shelf_nodeT):=(if a0.isNil then (some shelf_nodeT.nil) else ((a0.un).bind fun n2=>(if (sLt a1 n2.key) then ((self n2.left a1).bind fun r5=>((Zjp n2.key n2.rec_ r5 n2.right).bind fun r7=>(some r7))) else (if (!(sLt a1 n2.key || sEq a1 n2.key)) then ((self n2.right a1).bind fun r10=>((Zjp n2.key n2.rec_ n2.left r10).bind fun r12=>(some r12))) else (if n2.left.isNil then (some n2.right) else (if n2.right.isNil then (some n2.left) else ((Zj4 n2.right).bind fun r16=>((r16.un).bind fun n18=>((self n2.right n18.key).bind fun r20=>((Zjp n18.key n18.rec_ n2.left r20).bind fun r22=>(some r22)))))))))))
def Zg8:Nat → shelf_nodeT → ByteArray → Option (shelf_nodeT)
 | 0=>fun _ _=>none
 | n + 1=>Zmn (Zg8 n)
def Zqc (a0:shelf_nodeT) (a1:ByteArray):Option (shelf_nodeT):=Zg8 (a0.hh + 1) a0 a1
def Zhr (a0:Zp) (a1:ByteArray):Option (Zp × Bool):=((Zgw a0 a1).bind fun r1=>(if (!r1.2) then (some (a0,false)) else ((Zqc a0.top a1).bind fun r4=>(some (({ top:=r4,room:=a0.room }:Zp),true)))))
def Zrs (a0:Zp) (a1:Zs):Option (Zp × Zj):=((Zgw a0 a1.Key).bind fun r1=>((Zmj r1.1 r1.2 a1).bind fun r3=>((gd (!(r3.2.2.Code != (0:Int))) (Zsg a1.Kind)).bind fun r5=>(if ((r3.2.2.Code != (0:Int)) || r5) then (some (a0,r3.2.2)) else (if (!r3.2.1) then ((Zhr a0 a1.Key).bind fun r9=>(some (r9.1,r3.2.2))) else ((Zet a0 a1.Key r3.1).bind fun r11=>(if (r11.2 != (0:Int)) then (some (a0,({ Code:=r11.2,Num:=(0:Int),Rec:=(default:Zb) }:Zj))) else (some (r11.1,r3.2.2)))))))))
def Zr1 (a1:Zj):Option (Zj):=(some a1)
def Zqt (a0:Zs) (a1:Zj) (a2:Int):Option (Zj):=(if (a0.Must && (a1.Code != (0:Int))) then none else (Zr1 a1))
def Zp9:Option (Zea):=none
def Zoi (a0:Zs) (a1:Zj) (a2:Int):Option (Zea):=(if (a0.Must && (a1.Code != (0:Int))) then (some ({ code:=a1.Code,at_:=a2 }:Zea)) else (Zp9))
def Zit (a0:Zp) (a1:Zu):Nat → (Z7) → (Zp) → (Int) → Option ((Zp × Z7) ⊕ (Z7 × Zp))
 | 0,_,_,_=>none
 | n + 1,x4,x5,x6=>(if (decide (x6 < (a1.Acts.length:Int))) then ((idx a1.Acts x6).bind fun e8=>((Zrs x5 e8).bind fun r10=>(Z4g (Zoi e8 r10.2 (IntKind.i64.wrap (x6 + (1:Int)))) (fun p12=>(some (.inl (a0,({ Code:=p12.code,At:=p12.at_,Answers:=([]:List Zj) }:Z7))))) ((Zqt e8 r10.2 (IntKind.i64.wrap (x6 + (1:Int)))).bind fun r14=>(if (x4.Answers.length + ([r14]:List Zj).length) * 104 ≤ 140737488355328 then ((Zit a0 a1 n) ({ x4 with Answers:=(x4.Answers ++ ([r14]:List Zj)) }:Z7) r10.1 (IntKind.i64.wrap (x6 + (1:Int)))) else none))))) else (some (.inr (x4,x5))))
def Zni (a0:Zp) (a1:Zu):Option (Zp × Z7):=((Zht a1).bind fun r1=>(if (r1.1 != (0:Int)) then (some (a0,({ Code:=r1.1,At:=r1.2,Answers:=([]:List Zj) }:Z7))) else ((Zit a0 a1 (Int.toNat ((a1.Acts.length:Int) - (0:Int)) + 1) (default:Z7) a0 (0:Int)).bind fun z19=>match z19 with | .inl r=>some r | .inr (y17,y18)=>(some (y18,y17)))))
def Zjv (a1:List Zu):Nat → (Zp) → (List Z7) → (Int) → Option (Zp × (List Z7))
 | 0,_,_,_=>none
 | n + 1,x1,x2,x3=>(if (decide (x3 < (a1.length:Int))) then ((idx a1 x3).bind fun e5=>((Zni x1 e5).bind fun r7=>(if (x2.length + ([r7.2]:List Z7).length) * 40 ≤ 140737488355328 then ((Zjv a1 n) r7.1 (x2 ++ ([r7.2]:List Z7)) (IntKind.i64.wrap (x3 + (1:Int)))) else none))) else (some (x1,x2)))
def Zp7 (a0:Zp) (a1:List Zu):Option (Zp × (List Z7)):=((Zjv a1 (Int.toNat ((a1.length:Int) - (0:Int)) + 1) a0 ([]:List Z7) (0:Int)).bind fun z12=>match z12 with | (y10,y11)=>(some (y10,y11)))
def Zjg (x2:Zb) (kk:(Int) → (Zb) → (shelf_nodeT) → Option ((ByteArray × Zb × Bool) ⊕ (Zb))) (j13:Int) (j14:shelf_nodeT):Option ((ByteArray × Zb × Bool) ⊕ (Zb)):=(kk j13 x2 j14)
def Zee:Nat → (Int) → (Zb) → (shelf_nodeT) → Option ((ByteArray × Zb × Bool) ⊕ (Zb))
 | 0,_,_,_=>none
 | n + 1,x1,x2,x3=>(if (!x3.isNil) then ((x3.un).bind fun n5=>((Zc1 n5.left).bind fun r7=>(if (decide (x1 < r7)) then (Zjg x2 (Zee n) x1 n5.left) else (if (decide (r7 < x1)) then (Zjg x2 (Zee n) (IntKind.i64.wrap (x1 - (IntKind.i64.wrap (r7 + (1:Int))))) n5.right) else ((Zf0 n5.rec_).bind fun r11=>(some (.inl (n5.key,r11,true)))))))) else (some (.inr x2)))
def Zjz (a0:Zp) (a1:Int):Option (ByteArray × Zb × Bool):=((Zee (a0.top.hh + 1) a1 (default:Zb) a0.top).bind fun z16=>match z16 with | .inl r=>some r | .inr y15=>(some ((⟨#[]⟩:ByteArray),({ Kind:=(0:Int),Num:=(0:Int),Low:=(0:Int),High:=(0:Int),Real:=(0:Nat),Cap:=(0:Int),Text:=ByteArray.empty,List:=([]:List Zh) }:Zb),false)))
def Zh2 (a0:Zp) (a1:Zp) (r6:Int):Nat → (Int) → Option ((Bool) ⊕ (Unit))
 | 0,_=>none
 | n + 1,x8=>(if (decide (x8 < r6)) then ((Zjz a0 x8).bind fun r10=>((Zjz a1 x8).bind fun r12=>((gd (!(!sEq r10.1 r12.1)) (Zp5 r10.2.1 r12.2.1)).bind fun r14=>(if ((!sEq r10.1 r12.1) || (!r14)) then (some (.inl false)) else ((Zh2 a0 a1 r6 n) (IntKind.i64.wrap (x8 + (1:Int)))))))) else (some (.inr ())))
def Znt (a0:Zp) (a1:Zp):Option (Bool):=((Zf6 a0).bind fun r1=>((Zf6 a1).bind fun r3=>(if (r1 != r3) then (some false) else ((Zf6 a0).bind fun r6=>((Zh2 a0 a1 r6 (Int.toNat (r6 - (0:Int)) + 1) (0:Int)).bind fun z17=>match z17 with | .inl r=>some r | .inr ()=>(some true))))))
def Zka (a0:Zj) (a1:Zj):Option (Bool):=((gd ((a0.Code == a1.Code) && (a0.Num == a1.Num)) (Zg9 a0.Rec a1.Rec)).bind fun r1=>(some (((a0.Code == a1.Code) && (a0.Num == a1.Num)) && r1)))
def Zeq (a0:Z7) (a1:Z7):Nat → (Int) → Option ((Bool) ⊕ (Unit))
 | 0,_=>none
 | n + 1,x2=>(if (decide (x2 < (a0.Answers.length:Int))) then ((idx a0.Answers x2).bind fun e4=>((idx a1.Answers x2).bind fun e6=>((Zka e4 e6).bind fun r8=>(if (!r8) then (some (.inl false)) else ((Zeq a0 a1 n) (IntKind.i64.wrap (x2 + (1:Int)))))))) else (some (.inr ())))
def Zjh (a0:Z7) (a1:Z7):Option (Bool):=(if (((a0.Code != a1.Code) || (a0.At != a1.At)) || ((a0.Answers.length:Int) != (a1.Answers.length:Int))) then (some false) else ((Zeq a0 a1 (Int.toNat ((a0.Answers.length:Int) - (0:Int)) + 1) (0:Int)).bind fun z11=>match z11 with | .inl r=>some r | .inr ()=>(some true)))
def Zep (a0:List Z7) (a1:List Z7):Nat → (Int) → Option ((Bool) ⊕ (Unit))
 | 0,_=>none
 | n + 1,x2=>(if (decide (x2 < (a0.length:Int))) then ((idx a0 x2).bind fun e4=>((idx a1 x2).bind fun e6=>((Zjh e4 e6).bind fun r8=>(if (!r8) then (some (.inl false)) else ((Zep a0 a1 n) (IntKind.i64.wrap (x2 + (1:Int)))))))) else (some (.inr ())))
def Zjb (a0:List Z7) (a1:List Z7):Option (Bool):=(if ((a0.length:Int) != (a1.length:Int)) then (some false) else ((Zep a0 a1 (Int.toNat ((a0.length:Int) - (0:Int)) + 1) (0:Int)).bind fun z11=>match z11 with | .inl r=>some r | .inr ()=>(some true)))
def Zfx (y30:Zp) (y33:List Z7) (r37:Zp × (List Z7)):Option (Bool):=((Znt y30 r37.1).bind fun r45=>((gd r45 (Zjb y33 r37.2)).bind fun r47=>(some (r45 && r47))))
def Zey:Nat → (Int) → (Zp) → (List Zu) → (Int) → (List Z7) → Option ((Bool) ⊕ (Int × Zp × (List Zu) × Int × (List Z7)))
 | 0,_,_,_,_,_=>none
 | n + 1,x11,x12,x13,x14,x15=>((Zte x11 x13).bind fun r16=>(if ((r16.1.Deals.length:Int) == (0:Int)) then (some (.inr (x11,x12,x13,x14,x15))) else ((Zo4 r16.1).bind fun r19=>((Zr5 r19).bind fun r21=>((gd (!(r21.2.Code != (0:Int))) (Zik r21.1 r16.1)).bind fun r23=>(if (((r21.2.Code != (0:Int)) || (!r23)) || ((IntKind.i64.wrap ((r16.1.Deals.length:Int) + (r16.2.length:Int))) != (x13.length:Int))) then (some (.inl false)) else ((Zp7 x12 r21.1.Deals).bind fun r26=>(if (x15.length + r26.2.length) * 40 ≤ 140737488355328 then ((Zey n) (IntKind.i64.wrap (x11 + (1:Int))) r26.1 r16.2 (IntKind.i64.wrap (x14 + (r16.1.Deals.length:Int))) (x15 ++ r26.2)) else none))))))))
def Zkl (a0:Int) (a1:List Zbj) (a2:List Zu):Option (Bool):=((Zgg ({ Number:=(1:Int),Deals:=([]:List Zu) }:Zbk)).bind fun r1=>((gd (!(r1.1 != (0:Int))) (Zo4 ({ Number:=(1:Int),Deals:=([]:List Zu) }:Zbk))).bind fun r3=>(if ((r1.1 != (0:Int)) || ((r3.length:Int) != (2:Int))) then (some false) else ((Zhx (8:Int) a1).bind fun r6=>((gd (!r6.2.isNone) (Zku a2)).bind fun r8=>(if (((r6.2.isNone || (decide ((0:Int) < r8))) || (decide (a0 < (1:Int)))) || (decide ((549755813888:Int) < a0))) then (some true) else ((Zey (a2.length + 2) a0 r6.1 a2 (0:Int) ([]:List Z7)).bind fun z34=>match z34 with | .inl r=>some r | .inr (y29,y30,y31,y32,y33)=>((cut a2 (0:Int) y32).bind fun c35=>((Zp7 r6.1 c35).bind fun r37=>(if (decide ((0:Int) < (y31.length:Int))) then ((cut y31 (0:Int) (1:Int)).bind fun c40=>((Zgg ({ Number:=y29,Deals:=c40 }:Zbk)).bind fun r42=>(if (r42.1 == (0:Int)) then (some false) else (Zfx y30 y33 r37)))) else (Zfx y30 y33 r37)))))))))))
def Zss (x:Zh):Prop:=(x.Score < 2 ^ 64) ∧ (x.Name.size ≤ maxLen)
def Zms (x:Zb):Prop:=((IntKind.i64).min ≤ x.Kind ∧ x.Kind ≤ (IntKind.i64).max) ∧ ((IntKind.i64).min ≤ x.Num ∧ x.Num ≤ (IntKind.i64).max) ∧ ((IntKind.i64).min ≤ x.Low ∧ x.Low ≤ (IntKind.i64).max) ∧ ((IntKind.i64).min ≤ x.High ∧ x.High ≤ (IntKind.i64).max) ∧ (x.Real < 2 ^ 64) ∧ ((IntKind.i64).min ≤ x.Cap ∧ x.Cap ≤ (IntKind.i64).max) ∧ (x.Text.size ≤ maxLen) ∧ (x.List.length ≤ maxLen ∧ ∀ e0 ∈ x.List,(Zss e0))
def Znu (x:Zs):Prop:=((IntKind.i64).min ≤ x.Kind ∧ x.Kind ≤ (IntKind.i64).max) ∧ (x.Key.size ≤ maxLen) ∧ ((IntKind.i64).min ≤ x.N ∧ x.N ≤ (IntKind.i64).max) ∧ (x.X < 2 ^ 64) ∧ (x.S.size ≤ maxLen) ∧ (Zms x.Make) ∧ True
def Zm1 (x:Zu):Prop:=(x.Acts.length ≤ maxLen ∧ ∀ e0 ∈ x.Acts,(Znu e0))
def Zh9 (x:Zbj):Prop:=(x.Key.size ≤ maxLen) ∧ (Zms x.Rec)
end Go.CL
namespace Go.CL
open Go Go.RowKit Go.Proofs
theorem Za:Tryz.prog.follows .mixedOrders=true:=by kernel_rfl
theorem Zmo {α:Type} {l:List α} (h:l.length=1):∃ u0,l=[u0]:=by
 match l,h with
 | [u0],_=>exact ⟨u0,rfl⟩
theorem Zop {α:Type} {l:List α} (h:l.length=2):∃ u0 u1,l=[u0,u1]:=by
 match l,h with
 | [u0,u1],_=>exact ⟨u0,u1,rfl⟩
theorem Z8c {α:Type} {l:List α} (h:l.length=8):∃ u0 u1 u2 u3 u4 u5 u6 u7,l=[u0,u1,u2,u3,u4,u5,u6,u7]:=by
 match l,h with
 | [u0,u1,u2,u3,u4,u5,u6,u7],_=>exact ⟨u0,u1,u2,u3,u4,u5,u6,u7,rfl⟩
def Z5n:List (Kd.FK Zb6):=[⟨_,Kd.bool,0,fun x:Zb6=>x.text⟩,
 ⟨_,Kd.bool,1,fun x:Zb6=>x.num⟩,
 ⟨_,Kd.bool,2,fun x:Zb6=>x.bounds⟩,
 ⟨_,Kd.bool,3,fun x:Zb6=>x.real⟩,
 ⟨_,Kd.bool,4,fun x:Zb6=>x.list⟩]
def Zcm:Kd Zb6:=Kd.struct 5 Z5n (by rfl)
theorem Zpo:∀ g,Zcm.K g (default:Zb6) [.bool false,.bool false,.bool false,.bool false,.bool false]:=fun g=>⟨rfl,(Qc.2 ⟨(rfl),(Qc.2 ⟨(rfl),(Qc.2 ⟨(rfl),(Qc.2 ⟨(rfl),(Qc.2 ⟨(rfl),(fun _ h=>by cases h)⟩)⟩)⟩)⟩)⟩)⟩
def Z6g:List (Kd.FK Zh):=[⟨_,Kd.flt,0,fun x:Zh=>x.Score⟩,
 ⟨_,Kd.str,1,fun x:Zh=>x.Name⟩]
def Zz:Kd Zh:=Kd.struct 2 Z6g (by rfl)
theorem Zjx:∀ g,Zz.K g (default:Zh) [.float .f64 0,.string ByteArray.empty]:=fun g=>⟨rfl,(Qc.2 ⟨(rfl),(Qc.2 ⟨(rfl),(fun _ h=>by cases h)⟩)⟩)⟩
def Z2r:List (Kd.FK Zb):=[⟨_,(Kd.int .i64),0,fun x:Zb=>x.Kind⟩,
 ⟨_,(Kd.int .i64),1,fun x:Zb=>x.Num⟩,
 ⟨_,(Kd.int .i64),2,fun x:Zb=>x.Low⟩,
 ⟨_,(Kd.int .i64),3,fun x:Zb=>x.High⟩,
 ⟨_,Kd.flt,4,fun x:Zb=>x.Real⟩,
 ⟨_,(Kd.int .i64),5,fun x:Zb=>x.Cap⟩,
 ⟨_,Kd.str,6,fun x:Zb=>x.Text⟩,
 ⟨_,Zz.sl,7,fun x:Zb=>x.List⟩]
def Zf:Kd Zb:=Kd.struct 8 Z2r (by rfl)
theorem Zc4:∀ g,Zf.K g (default:Zb) [.int .i64 0,.int .i64 0,.int .i64 0,.int .i64 0,.float .f64 0,.int .i64 0,.string ByteArray.empty,.slice none 0 0]:=fun g=>⟨rfl,(Qc.2 ⟨(rfl),(Qc.2 ⟨(rfl),(Qc.2 ⟨(rfl),(Qc.2 ⟨(rfl),(Qc.2 ⟨(rfl),(Qc.2 ⟨(rfl),(Qc.2 ⟨(rfl),(Qc.2 ⟨(⟨none,0,rfl,Nat.le_refl _,Nat.zero_le _,.inl rfl⟩),(fun _ h=>by cases h)⟩)⟩)⟩)⟩)⟩)⟩)⟩)⟩)⟩
def Z6p:List (Kd.FK Zcx):=[⟨_,Kd.str,0,fun x:Zcx=>x.word⟩,
 ⟨_,(Kd.int .i64),1,fun x:Zcx=>x.on⟩,
 ⟨_,Kd.str,2,fun x:Zcx=>x.has⟩]
def Zda:Kd Zcx:=Kd.struct 3 Z6p (by rfl)
theorem Zql:∀ g,Zda.K g (default:Zcx) [.string ByteArray.empty,.int .i64 0,.string ByteArray.empty]:=fun g=>⟨rfl,(Qc.2 ⟨(rfl),(Qc.2 ⟨(rfl),(Qc.2 ⟨(rfl),(fun _ h=>by cases h)⟩)⟩)⟩)⟩
def Z8x:List (Kd.FK Zs):=[⟨_,(Kd.int .i64),0,fun x:Zs=>x.Kind⟩,
 ⟨_,Kd.str,1,fun x:Zs=>x.Key⟩,
 ⟨_,(Kd.int .i64),2,fun x:Zs=>x.N⟩,
 ⟨_,Kd.flt,3,fun x:Zs=>x.X⟩,
 ⟨_,Kd.str,4,fun x:Zs=>x.S⟩,
 ⟨_,Zf,5,fun x:Zs=>x.Make⟩,
 ⟨_,Kd.bool,13,fun x:Zs=>x.Must⟩]
def Zy:Kd Zs:=Kd.struct 14 Z8x (by rfl)
theorem Zn3:∀ g,Zy.K g (default:Zs) [.int .i64 0,.string ByteArray.empty,.int .i64 0,.float .f64 0,.string ByteArray.empty,.int .i64 0,.int .i64 0,.int .i64 0,.int .i64 0,.float .f64 0,.int .i64 0,.string ByteArray.empty,.slice none 0 0,.bool false]:=fun g=>⟨rfl,(Qc.2 ⟨(rfl),(Qc.2 ⟨(rfl),(Qc.2 ⟨(rfl),(Qc.2 ⟨(rfl),(Qc.2 ⟨(rfl),(Qc.2 ⟨(Zc4 _),(Qc.2 ⟨(rfl),(fun _ h=>by cases h)⟩)⟩)⟩)⟩)⟩)⟩)⟩)⟩
def Z6x:List (Kd.FK Zu):=[⟨_,Zy.sl,0,fun x:Zu=>x.Acts⟩]
def Zbb:Kd Zu:=Kd.struct 1 Z6x (by rfl)
theorem Zju:∀ g,Zbb.K g (default:Zu) [.slice none 0 0]:=fun g=>⟨rfl,(Qc.2 ⟨(⟨none,0,rfl,Nat.le_refl _,Nat.zero_le _,.inl rfl⟩),(fun _ h=>by cases h)⟩)⟩
def Z81:List (Kd.FK Zbk):=[⟨_,(Kd.int .i64),0,fun x:Zbk=>x.Number⟩,
 ⟨_,Zbb.sl,1,fun x:Zbk=>x.Deals⟩]
def Zcs:Kd Zbk:=Kd.struct 2 Z81 (by rfl)
theorem Zps:∀ g,Zcs.K g (default:Zbk) [.int .i64 0,.slice none 0 0]:=fun g=>⟨rfl,(Qc.2 ⟨(rfl),(Qc.2 ⟨(⟨none,0,rfl,Nat.le_refl _,Nat.zero_le _,.inl rfl⟩),(fun _ h=>by cases h)⟩)⟩)⟩
def shelf_nodeT.V (g:G):shelf_nodeT → Value → Prop
 | .nil,v=>v=.pointer none
 | .node x0 x1 x2 x3 x4,v=>∃ b o cs,v=.pointer (some ⟨b,o,none⟩) ∧ CellsAt g b o cs ∧ cs.length=12 ∧ (∀ u ∈ cs,u.oneCell'=true) ∧ Kd.str.K g x0 (seg cs 0 1) ∧ Zf.K g x1 (seg cs 1 8) ∧ (∃ v,seg cs 9 1=[v] ∧ shelf_nodeT.V g x2 v) ∧ (∃ v,seg cs 10 1=[v] ∧ shelf_nodeT.V g x3 v) ∧ (Kd.int .i64).K g x4 (seg cs 11 1)
theorem shelf_nodeT.mono {g g':G} (h:g.le g') (t:shelf_nodeT):∀ v,shelf_nodeT.V g t v → shelf_nodeT.V g' t v:=by
 induction t with
 | nil=>exact fun v h=>h
 | node x0 x1 x2 x3 x4 ih2 ih3 =>
  rintro v ⟨b,o,cs,rfl,hc,hl,hz,h0,h1,⟨w2,e2,k2⟩,⟨w3,e3,k3⟩,h4⟩
  exact ⟨b,o,cs,rfl,hc.mono h,hl,hz,Kd.str.mono h h0,Zf.mono h h1,⟨w2,e2,ih2 w2 k2⟩,⟨w3,e3,ih3 w3 k3⟩,(Kd.int .i64).mono h h4⟩
theorem shelf_nodeT.ptr {g:G} {t:shelf_nodeT} {v:Value} (h:shelf_nodeT.V g t v):∃ p,v=.pointer p ∧ p.isNone=t.isNil:=by
 cases t with
 | nil=>exact ⟨_,h,rfl⟩
 | node =>
  obtain ⟨b,o,cs,e,_⟩:=h
  exact ⟨_,e,rfl⟩
def Zbe:Kd shelf_nodeT where
 sz:=1
 ag:=false
 K:=fun g t cs=>∃ v,cs=[v] ∧ shelf_nodeT.V g t v
 len:=by rintro _ _ _ ⟨v,rfl,_⟩;rfl
 one:=by
  rintro _ _ _ ⟨v,rfl,h⟩ u hu
  obtain ⟨p,e,_⟩:=shelf_nodeT.ptr h
  rw [List.mem_singleton.1 hu,e];rfl
 mono:=fun h ⟨v,e,k⟩=>⟨v,e,shelf_nodeT.mono h _ _ k⟩
 nag:=fun _=>rfl
def Z2c:List (Kd.FK shelf_node):=[⟨_,Kd.str,0,fun x:shelf_node=>x.key⟩,
 ⟨_,Zf,1,fun x:shelf_node=>x.rec_⟩,
 ⟨_,Zbe,9,fun x:shelf_node=>x.left⟩,
 ⟨_,Zbe,10,fun x:shelf_node=>x.right⟩,
 ⟨_,(Kd.int .i64),11,fun x:shelf_node=>x.size⟩]
def Zhn:Kd shelf_node:=Kd.struct 12 Z2c (by rfl)
theorem shelf_nodeT.V_iff {g:G} {t:shelf_nodeT} {v:Value}:(Zbe.pd t).p g v ↔ shelf_nodeT.V g t v:=by
 constructor
 ·rintro ⟨_,⟨u,rfl,h⟩,rfl⟩;exact h
 ·exact fun h=>⟨_,⟨v,rfl,h⟩,rfl⟩
theorem Zof (g:G):Zbe.K g shelf_nodeT.nil [.pointer none]:=⟨_,rfl,rfl⟩
theorem Ze5 (g:G):(Zbe.pd shelf_nodeT.nil).p g (.pointer none):=shelf_nodeT.V_iff.2 rfl
theorem Zfy (t:shelf_nodeT) (g:G) (v:Value) (h:(Zbe.pd t).p g v):∃ p,v=.pointer p ∧ p.isNone=t.isNil:=shelf_nodeT.ptr (shelf_nodeT.V_iff.1 h)
theorem Zw {g:G} {t:shelf_nodeT} {x:shelf_node} {v:Value} (h:t.un=some x) (hv:(Zbe.pd t).p g v):(Zhn.ptr x).p g v:=by
 cases t with
 | nil=>cases h
 | node x0 x1 x2 x3 x4 =>
  obtain rfl:=Option.some.inj h
  obtain ⟨b,o,cs,rfl,hc,hl,_,h0,h1,h2,h3,h4⟩:=shelf_nodeT.V_iff.1 hv
  exact ⟨b,o,cs,rfl,⟨hl,(Qc.2 ⟨h0,(Qc.2 ⟨h1,(Qc.2 ⟨h2,(Qc.2 ⟨h3,(Qc.2 ⟨h4,(fun _ h=>by cases h)⟩)⟩)⟩)⟩)⟩)⟩,hc⟩
theorem Z0k {g:G} {x:shelf_node} {v:Value} (h:(Zhn.ptr x).p g v):(Zbe.pd x.up).p g v:=by
 obtain ⟨b,o,cs,rfl,hk,hc⟩:=h
 exact shelf_nodeT.V_iff.2 ⟨b,o,cs,rfl,hc,hk.1,Zhn.one hk,hk.2 _ (List.mem_of_getElem? (i:=0) rfl),hk.2 _ (List.mem_of_getElem? (i:=1) rfl),hk.2 _ (List.mem_of_getElem? (i:=2) rfl),hk.2 _ (List.mem_of_getElem? (i:=3) rfl),hk.2 _ (List.mem_of_getElem? (i:=4) rfl)⟩
def Z03:List (Kd.FK Zp):=[⟨_,Zbe,0,fun x:Zp=>x.top⟩,
 ⟨_,(Kd.int .i64),1,fun x:Zp=>x.room⟩]
def Z4:Kd Zp:=Kd.struct 2 Z03 (by rfl)
theorem Zd6:∀ g,Z4.K g (default:Zp) [.pointer none,.int .i64 0]:=fun g=>⟨rfl,(Qc.2 ⟨(Zof _),(Qc.2 ⟨(rfl),(fun _ h=>by cases h)⟩)⟩)⟩
def Zut:List (Kd.FK Zbj):=[⟨_,Kd.str,0,fun x:Zbj=>x.Key⟩,
 ⟨_,Zf,1,fun x:Zbj=>x.Rec⟩]
def Zck:Kd Zbj:=Kd.struct 9 Zut (by rfl)
theorem Zuv:∀ g,Zck.K g (default:Zbj) [.string ByteArray.empty,.int .i64 0,.int .i64 0,.int .i64 0,.int .i64 0,.float .f64 0,.int .i64 0,.string ByteArray.empty,.slice none 0 0]:=fun g=>⟨rfl,(Qc.2 ⟨(rfl),(Qc.2 ⟨(Zc4 _),(fun _ h=>by cases h)⟩)⟩)⟩
def Zt9:List (Kd.FK Zx):=[⟨_,Zck.sl,0,fun x:Zx=>x.L⟩,
 ⟨_,(Kd.int .i64),1,fun x:Zx=>x.Room⟩]
def Zcc:Kd Zx:=Kd.struct 2 Zt9 (by rfl)
theorem Zpv:∀ g,Zcc.K g (default:Zx) [.slice none 0 0,.int .i64 0]:=fun g=>⟨rfl,(Qc.2 ⟨(⟨none,0,rfl,Nat.le_refl _,Nat.zero_le _,.inl rfl⟩),(Qc.2 ⟨(rfl),(fun _ h=>by cases h)⟩)⟩)⟩
def Z2h:List (Kd.FK Zcz):=[⟨_,(Kd.int .i64),0,fun x:Zcz=>x.Code⟩,
 ⟨_,(Kd.int .i64),1,fun x:Zcz=>x.At⟩]
def Zc9:Kd Zcz:=Kd.struct 2 Z2h (by rfl)
theorem Zoo:∀ g,Zc9.K g (default:Zcz) [.int .i64 0,.int .i64 0]:=fun g=>⟨rfl,(Qc.2 ⟨(rfl),(Qc.2 ⟨(rfl),(fun _ h=>by cases h)⟩)⟩)⟩
def Z0v:List (Kd.FK Ze):=[⟨_,(Kd.int .u8).sl,0,fun x:Ze=>x.b⟩,
 ⟨_,(Kd.int .i64),1,fun x:Ze=>x.at_⟩]
def Zv:Kd Ze:=Kd.struct 2 Z0v (by rfl)
def Z2i:List (Kd.FK Zj):=[⟨_,(Kd.int .i64),0,fun x:Zj=>x.Code⟩,
 ⟨_,(Kd.int .i64),1,fun x:Zj=>x.Num⟩,
 ⟨_,Zf,2,fun x:Zj=>x.Rec⟩]
def Z3:Kd Zj:=Kd.struct 10 Z2i (by rfl)
theorem Zh3:∀ g,Z3.K g (default:Zj) [.int .i64 0,.int .i64 0,.int .i64 0,.int .i64 0,.int .i64 0,.int .i64 0,.float .f64 0,.int .i64 0,.string ByteArray.empty,.slice none 0 0]:=fun g=>⟨rfl,(Qc.2 ⟨(rfl),(Qc.2 ⟨(rfl),(Qc.2 ⟨(Zc4 _),(fun _ h=>by cases h)⟩)⟩)⟩)⟩
def Zyr:List (Kd.FK Zea):=[⟨_,(Kd.int .i64),0,fun x:Zea=>x.code⟩,
 ⟨_,(Kd.int .i64),1,fun x:Zea=>x.at_⟩]
def Zgm:Kd Zea:=Kd.struct 2 Zyr (by rfl)
theorem Zzg:∀ g,Zgm.K g (default:Zea) [.int .i64 0,.int .i64 0]:=fun g=>⟨rfl,(Qc.2 ⟨(rfl),(Qc.2 ⟨(rfl),(fun _ h=>by cases h)⟩)⟩)⟩
def Z2g:List (Kd.FK Z7):=[⟨_,(Kd.int .i64),0,fun x:Z7=>x.Code⟩,
 ⟨_,(Kd.int .i64),1,fun x:Z7=>x.At⟩,
 ⟨_,Z3.sl,2,fun x:Z7=>x.Answers⟩]
def Zcd:Kd Z7:=Kd.struct 3 Z2g (by rfl)
theorem Z2m:∀ g,Zcd.K g (default:Z7) [.int .i64 0,.int .i64 0,.slice none 0 0]:=fun g=>⟨rfl,(Qc.2 ⟨(rfl),(Qc.2 ⟨(rfl),(Qc.2 ⟨(⟨none,0,rfl,Nat.le_refl _,Nat.zero_le _,.inl rfl⟩),(fun _ h=>by cases h)⟩)⟩)⟩)⟩
def Z4t:Zcx → List Value:=fun x=>[.string x.word,.int .i64 x.on,.string x.has]
theorem gm_0:(0,g_0.flatMap Z4t) ∈ GL:=List.mem_of_getElem? (i:=0) rfl
theorem gk_0:∀ g,(Kd.arr 22 Zda).K g g_0 (g_0.flatMap Z4t):=fun g=>Zbke (dk:=Zda) (enc:=Z4t) (fun g x=>⟨rfl,(Qc.2 ⟨rfl,(Qc.2 ⟨rfl,(Qc.2 ⟨rfl,(fun _ h=>by cases h)⟩)⟩)⟩)⟩) g g_0
theorem Zba5:Ext Tryz.prog 109 Extern.MathFloatBits.float64frombits:=⟨_,Tryz.func109,rfl,rfl,by kernel_rfl,by kernel_rfl⟩
theorem Zbiu:Zk Tryz.prog 107:=by
 unfold Zk
 kernel_rfl
theorem Z27:Ext Tryz.prog 89 Extern.MathFloatBits.float64bits:=⟨_,Tryz.func89,rfl,rfl,by kernel_rfl,by kernel_rfl⟩
theorem Zsf:Zk Tryz.prog 90:=by
 unfold Zk
 kernel_rfl
theorem Zbdi {N d:Nat} {o:Oper} {uses:Zbd} {x0:Operand} {v0:Bool} (hop:o.op=.build 137 #[(0,x0)]) (hd:o.dst=some d) (h0:Opd uses x0 (Kd.bool.pd v0)):OB Tryz.prog N o uses [(d,Zcm.pd { text:=v0,num:=false,bounds:=false,real:=false,list:=false })] []:=by
 refine Zdp hop hd fun a g hh=>?_
 obtain ⟨c0,k0,e0⟩:=h0 a g hh
 obtain rfl:=k0
 refine ⟨.agg #[.bool v0,.bool false,.bool false,.bool false,.bool false],?_,[.bool v0,.bool false,.bool false,.bool false,.bool false],⟨rfl,(Qc.2 ⟨rfl,(Qc.2 ⟨(rfl),(Qc.2 ⟨(rfl),(Qc.2 ⟨(rfl),(Qc.2 ⟨(rfl),(fun _ h=>by cases h)⟩)⟩)⟩)⟩)⟩)⟩,rfl⟩
 simp only [List.map_toArray,List.map_cons,List.map_nil,e0]
 exact Zc8 Tryz.underlying137 (zero:=.agg #[.bool false,.bool false,.bool false,.bool false,.bool false]) (by kernel_rfl) (places:=[(0,1),(1,1),(2,1),(3,1),(4,1)]) (by kernel_rfl) (by kernel_rfl) g.w
theorem Zjf:Ty Tryz.prog 137 Zcm:=⟨by kernel_rfl,by kernel_rfl⟩
theorem Zbch {N d:Nat} {o:Oper} {uses:Zbd} {x1:Operand} {v1:Bool} (hop:o.op=.build 137 #[(1,x1)]) (hd:o.dst=some d) (h1:Opd uses x1 (Kd.bool.pd v1)):OB Tryz.prog N o uses [(d,Zcm.pd { text:=false,num:=v1,bounds:=false,real:=false,list:=false })] []:=by
 refine Zdp hop hd fun a g hh=>?_
 obtain ⟨c1,k1,e1⟩:=h1 a g hh
 obtain rfl:=k1
 refine ⟨.agg #[.bool false,.bool v1,.bool false,.bool false,.bool false],?_,[.bool false,.bool v1,.bool false,.bool false,.bool false],⟨rfl,(Qc.2 ⟨(rfl),(Qc.2 ⟨rfl,(Qc.2 ⟨(rfl),(Qc.2 ⟨(rfl),(Qc.2 ⟨(rfl),(fun _ h=>by cases h)⟩)⟩)⟩)⟩)⟩)⟩,rfl⟩
 simp only [List.map_toArray,List.map_cons,List.map_nil,e1]
 exact Zc8 Tryz.underlying137 (zero:=.agg #[.bool false,.bool false,.bool false,.bool false,.bool false]) (by kernel_rfl) (places:=[(0,1),(1,1),(2,1),(3,1),(4,1)]) (by kernel_rfl) (by kernel_rfl) g.w
theorem Z8j {N d:Nat} {o:Oper} {uses:Zbd} {x1:Operand} {x2:Operand} {v1:Bool} {v2:Bool} (hop:o.op=.build 137 #[(1,x1),(2,x2)]) (hd:o.dst=some d) (h1:Opd uses x1 (Kd.bool.pd v1)) (h2:Opd uses x2 (Kd.bool.pd v2)):OB Tryz.prog N o uses [(d,Zcm.pd { text:=false,num:=v1,bounds:=v2,real:=false,list:=false })] []:=by
 refine Zdp hop hd fun a g hh=>?_
 obtain ⟨c1,k1,e1⟩:=h1 a g hh
 obtain rfl:=k1
 obtain ⟨c2,k2,e2⟩:=h2 a g hh
 obtain rfl:=k2
 refine ⟨.agg #[.bool false,.bool v1,.bool v2,.bool false,.bool false],?_,[.bool false,.bool v1,.bool v2,.bool false,.bool false],⟨rfl,(Qc.2 ⟨(rfl),(Qc.2 ⟨rfl,(Qc.2 ⟨rfl,(Qc.2 ⟨(rfl),(Qc.2 ⟨(rfl),(fun _ h=>by cases h)⟩)⟩)⟩)⟩)⟩)⟩,rfl⟩
 simp only [List.map_toArray,List.map_cons,List.map_nil,e1,e2]
 exact Zc8 Tryz.underlying137 (zero:=.agg #[.bool false,.bool false,.bool false,.bool false,.bool false]) (by kernel_rfl) (places:=[(0,1),(1,1),(2,1),(3,1),(4,1)]) (by kernel_rfl) (by kernel_rfl) g.w
theorem Zbc8 {N d:Nat} {o:Oper} {uses:Zbd} {x3:Operand} {v3:Bool} (hop:o.op=.build 137 #[(3,x3)]) (hd:o.dst=some d) (h3:Opd uses x3 (Kd.bool.pd v3)):OB Tryz.prog N o uses [(d,Zcm.pd { text:=false,num:=false,bounds:=false,real:=v3,list:=false })] []:=by
 refine Zdp hop hd fun a g hh=>?_
 obtain ⟨c3,k3,e3⟩:=h3 a g hh
 obtain rfl:=k3
 refine ⟨.agg #[.bool false,.bool false,.bool false,.bool v3,.bool false],?_,[.bool false,.bool false,.bool false,.bool v3,.bool false],⟨rfl,(Qc.2 ⟨(rfl),(Qc.2 ⟨(rfl),(Qc.2 ⟨(rfl),(Qc.2 ⟨rfl,(Qc.2 ⟨(rfl),(fun _ h=>by cases h)⟩)⟩)⟩)⟩)⟩)⟩,rfl⟩
 simp only [List.map_toArray,List.map_cons,List.map_nil,e3]
 exact Zc8 Tryz.underlying137 (zero:=.agg #[.bool false,.bool false,.bool false,.bool false,.bool false]) (by kernel_rfl) (places:=[(0,1),(1,1),(2,1),(3,1),(4,1)]) (by kernel_rfl) (by kernel_rfl) g.w
theorem Zbc5 {N d:Nat} {o:Oper} {uses:Zbd} {x4:Operand} {v4:Bool} (hop:o.op=.build 137 #[(4,x4)]) (hd:o.dst=some d) (h4:Opd uses x4 (Kd.bool.pd v4)):OB Tryz.prog N o uses [(d,Zcm.pd { text:=false,num:=false,bounds:=false,real:=false,list:=v4 })] []:=by
 refine Zdp hop hd fun a g hh=>?_
 obtain ⟨c4,k4,e4⟩:=h4 a g hh
 obtain rfl:=k4
 refine ⟨.agg #[.bool false,.bool false,.bool false,.bool false,.bool v4],?_,[.bool false,.bool false,.bool false,.bool false,.bool v4],⟨rfl,(Qc.2 ⟨(rfl),(Qc.2 ⟨(rfl),(Qc.2 ⟨(rfl),(Qc.2 ⟨(rfl),(Qc.2 ⟨rfl,(fun _ h=>by cases h)⟩)⟩)⟩)⟩)⟩)⟩,rfl⟩
 simp only [List.map_toArray,List.map_cons,List.map_nil,e4]
 exact Zc8 Tryz.underlying137 (zero:=.agg #[.bool false,.bool false,.bool false,.bool false,.bool false]) (by kernel_rfl) (places:=[(0,1),(1,1),(2,1),(3,1),(4,1)]) (by kernel_rfl) (by kernel_rfl) g.w
theorem Zbf7 {N d:Nat} {o:Oper} {uses:Zbd}   (hop:o.op=.build 137 #[]) (hd:o.dst=some d) :OB Tryz.prog N o uses [(d,Zcm.pd { text:=false,num:=false,bounds:=false,real:=false,list:=false })] []:=by
 refine Zdp hop hd fun a g hh=>?_
 refine ⟨.agg #[.bool false,.bool false,.bool false,.bool false,.bool false],?_,[.bool false,.bool false,.bool false,.bool false,.bool false],⟨rfl,(Qc.2 ⟨(rfl),(Qc.2 ⟨(rfl),(Qc.2 ⟨(rfl),(Qc.2 ⟨(rfl),(Qc.2 ⟨(rfl),(fun _ h=>by cases h)⟩)⟩)⟩)⟩)⟩)⟩,rfl⟩
 simp only [List.map_toArray,List.map_cons,List.map_nil,List.map_nil]
 exact Zc8 Tryz.underlying137 (zero:=.agg #[.bool false,.bool false,.bool false,.bool false,.bool false]) (by kernel_rfl) (places:=[(0,1),(1,1),(2,1),(3,1),(4,1)]) (by kernel_rfl) (by kernel_rfl) g.w
theorem Zwc:Zk Tryz.prog 88:=by
 unfold Zk
 kernel_rfl
theorem Zxx:Fld Tryz.prog 137 0 Zcm Kd.bool (fun x:Zb6=>x.text):=Fld.of ⟨_,Kd.bool,0,fun x:Zb6=>x.text⟩ (List.mem_of_getElem? (i:=0) rfl) 0 rfl (by kernel_rfl) (by decide)
theorem ty_4:Ty Tryz.prog 4 Kd.bool:=⟨by kernel_rfl,by kernel_rfl⟩
theorem Zkp:Fld Tryz.prog 62 6 Zf Kd.str (fun x:Zb=>x.Text):=Fld.of ⟨_,Kd.str,6,fun x:Zb=>x.Text⟩ (List.mem_of_getElem? (i:=6) rfl) 6 rfl (by kernel_rfl) (by decide)
theorem ty_9:Ty Tryz.prog 9 Kd.str:=⟨by kernel_rfl,by kernel_rfl⟩
theorem Zyn:Fld Tryz.prog 137 1 Zcm Kd.bool (fun x:Zb6=>x.num):=Fld.of ⟨_,Kd.bool,1,fun x:Zb6=>x.num⟩ (List.mem_of_getElem? (i:=1) rfl) 1 rfl (by kernel_rfl) (by decide)
theorem Zez:Fld Tryz.prog 62 1 Zf (Kd.int .i64) (fun x:Zb=>x.Num):=Fld.of ⟨_,(Kd.int .i64),1,fun x:Zb=>x.Num⟩ (List.mem_of_getElem? (i:=1) rfl) 1 rfl (by kernel_rfl) (by decide)
theorem ty_2:Ty Tryz.prog 2 (Kd.int .i64):=⟨by kernel_rfl,by kernel_rfl⟩
theorem Zui:Fld Tryz.prog 137 2 Zcm Kd.bool (fun x:Zb6=>x.bounds):=Fld.of ⟨_,Kd.bool,2,fun x:Zb6=>x.bounds⟩ (List.mem_of_getElem? (i:=2) rfl) 2 rfl (by kernel_rfl) (by decide)
theorem Zko:Fld Tryz.prog 62 2 Zf (Kd.int .i64) (fun x:Zb=>x.Low):=Fld.of ⟨_,(Kd.int .i64),2,fun x:Zb=>x.Low⟩ (List.mem_of_getElem? (i:=2) rfl) 2 rfl (by kernel_rfl) (by decide)
theorem Zkn:Fld Tryz.prog 62 3 Zf (Kd.int .i64) (fun x:Zb=>x.High):=Fld.of ⟨_,(Kd.int .i64),3,fun x:Zb=>x.High⟩ (List.mem_of_getElem? (i:=3) rfl) 3 rfl (by kernel_rfl) (by decide)
theorem Zyo:Fld Tryz.prog 137 3 Zcm Kd.bool (fun x:Zb6=>x.real):=Fld.of ⟨_,Kd.bool,3,fun x:Zb6=>x.real⟩ (List.mem_of_getElem? (i:=3) rfl) 3 rfl (by kernel_rfl) (by decide)
theorem Zlx:Fld Tryz.prog 62 4 Zf Kd.flt (fun x:Zb=>x.Real):=Fld.of ⟨_,Kd.flt,4,fun x:Zb=>x.Real⟩ (List.mem_of_getElem? (i:=4) rfl) 4 rfl (by kernel_rfl) (by decide)
theorem Zd7:Ty Tryz.prog 59 Kd.flt:=⟨by kernel_rfl,by kernel_rfl⟩
theorem Zwi:Zk Tryz.prog 57:=by
 unfold Zk
 kernel_rfl
theorem Ztr:Fld Tryz.prog 137 4 Zcm Kd.bool (fun x:Zb6=>x.list):=Fld.of ⟨_,Kd.bool,4,fun x:Zb6=>x.list⟩ (List.mem_of_getElem? (i:=4) rfl) 4 rfl (by kernel_rfl) (by decide)
theorem Zin:Fld Tryz.prog 62 5 Zf (Kd.int .i64) (fun x:Zb=>x.Cap):=Fld.of ⟨_,(Kd.int .i64),5,fun x:Zb=>x.Cap⟩ (List.mem_of_getElem? (i:=5) rfl) 5 rfl (by kernel_rfl) (by decide)
theorem ty_3:Ty Tryz.prog 3 (Kd.int .i64):=⟨by kernel_rfl,by kernel_rfl⟩
theorem Zc6:Fld Tryz.prog 62 7 Zf Zz.sl (fun x:Zb=>x.List):=Fld.of ⟨_,Zz.sl,7,fun x:Zb=>x.List⟩ (List.mem_of_getElem? (i:=7) rfl) 7 rfl (by kernel_rfl) (by decide)
theorem Zeg:Ty Tryz.prog 60 Zz.sl:=⟨by kernel_rfl,by kernel_rfl⟩
theorem Zf2:Fld Tryz.prog 100 0 Zz Kd.flt (fun x:Zh=>x.Score):=Fld.of ⟨_,Kd.flt,0,fun x:Zh=>x.Score⟩ (List.mem_of_getElem? (i:=0) rfl) 0 rfl (by kernel_rfl) (by decide)
theorem Z3l:Zk Tryz.prog 108:=by
 unfold Zk
 kernel_rfl
theorem Zfg:Fld Tryz.prog 100 1 Zz Kd.str (fun x:Zh=>x.Name):=Fld.of ⟨_,Kd.str,1,fun x:Zh=>x.Name⟩ (List.mem_of_getElem? (i:=1) rfl) 1 rfl (by kernel_rfl) (by decide)
theorem Zho:(Tryz.prog.info? 100).map (·.size)=some Zz.sz:=by kernel_rfl
theorem Zfa:Ty Tryz.prog 100 Zz:=⟨by kernel_rfl,by kernel_rfl⟩
theorem Z84:Zk Tryz.prog 64:=by
 unfold Zk
 kernel_rfl
theorem Z9f:Zk Tryz.prog 96:=by
 unfold Zk
 kernel_rfl
theorem Zga:Fld Tryz.prog 62 0 Zf (Kd.int .i64) (fun x:Zb=>x.Kind):=Fld.of ⟨_,(Kd.int .i64),0,fun x:Zb=>x.Kind⟩ (List.mem_of_getElem? (i:=0) rfl) 0 rfl (by kernel_rfl) (by decide)
theorem Z87:Zk Tryz.prog 66:=by
 unfold Zk
 kernel_rfl
theorem Zbr:Ty Tryz.prog 62 Zf:=⟨by kernel_rfl,by kernel_rfl⟩
theorem Zbjy:Zk Tryz.prog 67:=by
 unfold Zk
 kernel_rfl
theorem Zbje:Zk Tryz.prog 68:=by
 unfold Zk
 kernel_rfl
theorem Zbgg {N d:Nat} {o:Oper} {uses:Zbd}   (hop:o.op=.build 129 #[]) (hd:o.dst=some d) :OB Tryz.prog N o uses [(d,Zda.pd { word:=ByteArray.empty,on:=(0:Int),has:=ByteArray.empty })] []:=by
 refine Zdp hop hd fun a g hh=>?_
 refine ⟨.agg #[.string ByteArray.empty,.int .i64 0,.string ByteArray.empty],?_,[.string ByteArray.empty,.int .i64 0,.string ByteArray.empty],⟨rfl,(Qc.2 ⟨(rfl),(Qc.2 ⟨(rfl),(Qc.2 ⟨(rfl),(fun _ h=>by cases h)⟩)⟩)⟩)⟩,rfl⟩
 simp only [List.map_toArray,List.map_cons,List.map_nil,List.map_nil]
 exact Zc8 Tryz.underlying129 (zero:=.agg #[.string ByteArray.empty,.int .i64 0,.string ByteArray.empty]) (by kernel_rfl) (places:=[(0,1),(1,1),(2,1)]) (by kernel_rfl) (by kernel_rfl) g.w
theorem Zgc:Ty Tryz.prog 129 Zda:=⟨by kernel_rfl,by kernel_rfl⟩
theorem Zbhd:(Tryz.prog.info? 129).map (·.size)=some Zda.sz:=by kernel_rfl
theorem Zbi4:Zk Tryz.prog 59:=by
 unfold Zk
 kernel_rfl
theorem Zbkl:Zk Tryz.prog 58:=by
 unfold Zk
 kernel_rfl
theorem Z3p:Fld Tryz.prog 129 2 Zda Kd.str (fun x:Zcx=>x.has):=Fld.of ⟨_,Kd.str,2,fun x:Zcx=>x.has⟩ (List.mem_of_getElem? (i:=2) rfl) 2 rfl (by kernel_rfl) (by decide)
theorem Zos:Zk Tryz.prog 79:=by
 unfold Zk
 kernel_rfl
theorem Zg0:Fld Tryz.prog 90 2 Zy (Kd.int .i64) (fun x:Zs=>x.N):=Fld.of ⟨_,(Kd.int .i64),2,fun x:Zs=>x.N⟩ (List.mem_of_getElem? (i:=2) rfl) 2 rfl (by kernel_rfl) (by decide)
theorem Zo8:Fld Tryz.prog 90 3 Zy Kd.flt (fun x:Zs=>x.X):=Fld.of ⟨_,Kd.flt,3,fun x:Zs=>x.X⟩ (List.mem_of_getElem? (i:=3) rfl) 3 rfl (by kernel_rfl) (by decide)
theorem Zi8:Fld Tryz.prog 90 4 Zy Kd.str (fun x:Zs=>x.S):=Fld.of ⟨_,Kd.str,4,fun x:Zs=>x.S⟩ (List.mem_of_getElem? (i:=4) rfl) 4 rfl (by kernel_rfl) (by decide)
theorem Zmy:Fld Tryz.prog 90 5 Zy Zf (fun x:Zs=>x.Make):=Fld.of ⟨_,Zf,5,fun x:Zs=>x.Make⟩ (List.mem_of_getElem? (i:=5) rfl) 5 rfl (by kernel_rfl) (by decide)
theorem Zvw {N d:Nat} {o:Oper} {uses:Zbd}   (hop:o.op=.build 62 #[]) (hd:o.dst=some d) :OB Tryz.prog N o uses [(d,Zf.pd { Kind:=(0:Int),Num:=(0:Int),Low:=(0:Int),High:=(0:Int),Real:=(0:Nat),Cap:=(0:Int),Text:=ByteArray.empty,List:=([]:List Zh) })] []:=by
 refine Zdp hop hd fun a g hh=>?_
 refine ⟨.agg #[.int .i64 0,.int .i64 0,.int .i64 0,.int .i64 0,.float .f64 0,.int .i64 0,.string ByteArray.empty,.slice none 0 0],?_,[.int .i64 0,.int .i64 0,.int .i64 0,.int .i64 0,.float .f64 0,.int .i64 0,.string ByteArray.empty,.slice none 0 0],⟨rfl,(Qc.2 ⟨(rfl),(Qc.2 ⟨(rfl),(Qc.2 ⟨(rfl),(Qc.2 ⟨(rfl),(Qc.2 ⟨(rfl),(Qc.2 ⟨(rfl),(Qc.2 ⟨(rfl),(Qc.2 ⟨(⟨none,0,rfl,Nat.le_refl _,Nat.zero_le _,.inl rfl⟩),(fun _ h=>by cases h)⟩)⟩)⟩)⟩)⟩)⟩)⟩)⟩)⟩,rfl⟩
 simp only [List.map_toArray,List.map_cons,List.map_nil,List.map_nil]
 exact Zc8 Tryz.underlying62 (zero:=.agg #[.int .i64 0,.int .i64 0,.int .i64 0,.int .i64 0,.float .f64 0,.int .i64 0,.string ByteArray.empty,.slice none 0 0]) (by kernel_rfl) (places:=[(0,1),(1,1),(2,1),(3,1),(4,1),(5,1),(6,1),(7,1)]) (by kernel_rfl) (by kernel_rfl) g.w
theorem Zbdy:Zk Tryz.prog 34:=by
 unfold Zk
 kernel_rfl
theorem Z4w:Fld Tryz.prog 129 1 Zda (Kd.int .i64) (fun x:Zcx=>x.on):=Fld.of ⟨_,(Kd.int .i64),1,fun x:Zcx=>x.on⟩ (List.mem_of_getElem? (i:=1) rfl) 1 rfl (by kernel_rfl) (by decide)
theorem Zgn:Fld Tryz.prog 90 0 Zy (Kd.int .i64) (fun x:Zs=>x.Kind):=Fld.of ⟨_,(Kd.int .i64),0,fun x:Zs=>x.Kind⟩ (List.mem_of_getElem? (i:=0) rfl) 0 rfl (by kernel_rfl) (by decide)
theorem Z2x:Zk Tryz.prog 61:=by
 unfold Zk
 kernel_rfl
theorem Zbde:Fld Tryz.prog 129 0 Zda Kd.str (fun x:Zcx=>x.word):=Fld.of ⟨_,Kd.str,0,fun x:Zcx=>x.word⟩ (List.mem_of_getElem? (i:=0) rfl) 0 rfl (by kernel_rfl) (by decide)
theorem Zmx:Fld Tryz.prog 90 1 Zy Kd.str (fun x:Zs=>x.Key):=Fld.of ⟨_,Kd.str,1,fun x:Zs=>x.Key⟩ (List.mem_of_getElem? (i:=1) rfl) 1 rfl (by kernel_rfl) (by decide)
theorem Zhh:Ty Tryz.prog 90 Zy:=⟨by kernel_rfl,by kernel_rfl⟩
theorem Zbi9:Zk Tryz.prog 62:=by
 unfold Zk
 kernel_rfl
theorem Zbey:Zk Tryz.prog 63:=by
 unfold Zk
 kernel_rfl
theorem Z3d:Zk Tryz.prog 40:=by
 unfold Zk
 kernel_rfl
theorem Zid:Fld Tryz.prog 53 0 Zbb Zy.sl (fun x:Zu=>x.Acts):=Fld.of ⟨_,Zy.sl,0,fun x:Zu=>x.Acts⟩ (List.mem_of_getElem? (i:=0) rfl) 0 rfl (by kernel_rfl) (by decide)
theorem Znd:Ty Tryz.prog 51 Zy.sl:=⟨by kernel_rfl,by kernel_rfl⟩
theorem Zsj:(Tryz.prog.info? 90).map (·.size)=some Zy.sz:=by kernel_rfl
theorem Z9b:Zk Tryz.prog 36:=by
 unfold Zk
 kernel_rfl
structure Zom where
 b:SlV
def Zx6:List (Kd.FK Zom):=[⟨_,Kd.raw,0,fun x:Zom=>x.b⟩]
def Zbh:Kd Zom:=Kd.struct 1 Zx6 (by rfl)
def Z9 (x:Zn) (s:SlV):Zom:=⟨s⟩
theorem Zyf:∀ g,Zbh.K g (Z9 ((default:Zn)) (none,0,0)) [.slice none 0 0]:=fun g=>⟨rfl,(Qc.2 ⟨rfl,(fun _ h=>by cases h)⟩)⟩
theorem Zif {x:Zn} {g:G} {cs ys:List Value} {s0 s1:SlV} (hk:Zbh.K g (Z9 x s0) cs) (hy:Kd.raw.K g s1 ys):0 + ys.length ≤ cs.length ∧ Zbh.K g (Z9 x s1) (Zq cs 0 ys):=by
 have hc:cs.length=1:=hk.1
 have hl:ys.length=1:=Kd.raw.len hy
 exact ⟨by omega,(Zca (by omega)).trans hc,(Qc.2 ⟨(by show Kd.raw.K g s1 (seg (Zq cs 0 ys) 0 1);rw [Zb3 (by omega) hl];exact hy),(fun _ h=>by cases h)⟩)⟩
theorem Zlv:Ty Tryz.prog 29 Kd.raw:=⟨by kernel_rfl,by kernel_rfl⟩
theorem Zuh {x:Zn} {g:G} {s:SlV} {cs:List Value} (h:Zbh.K g (Z9 x s) cs):Kd.raw.K g s (seg cs 0 1):=h.2 _ (List.mem_of_getElem? (i:=0) rfl)
abbrev Zce:Zn → List Int:=fun x=>x.b
abbrev obWr:ObR Zn:=obR Zbh Z9 Zce (Kd.int .u8) 5
theorem Zj1:PF Tryz.prog 93 0 0:=by
 unfold PF
 kernel_rfl
theorem Zor:TE Tryz.prog 29 5 (Kd.int .u8) 1:=TE.of Tryz.underlying29 (by kernel_rfl) (by decide) (by decide)
theorem Zrj:Zk Tryz.prog 37:=by
 unfold Zk
 kernel_rfl
theorem Z2z:Zk Tryz.prog 92:=by
 unfold Zk
 kernel_rfl
theorem Z29:Zk Tryz.prog 93:=by
 unfold Zk
 kernel_rfl
theorem Z80:Zk Tryz.prog 94:=by
 unfold Zk
 kernel_rfl
theorem Zro:Fld Tryz.prog 90 6 Zy Kd.bool (fun x:Zs=>x.Must):=Fld.of ⟨_,Kd.bool,13,fun x:Zs=>x.Must⟩ (List.mem_of_getElem? (i:=6) rfl) 13 rfl (by kernel_rfl) (by decide)
theorem Zbjq:Zk Tryz.prog 91:=by
 unfold Zk
 kernel_rfl
theorem Zbjx:Zk Tryz.prog 95:=by
 unfold Zk
 kernel_rfl
theorem Zbkc:Zk Tryz.prog 65:=by
 unfold Zk
 kernel_rfl
theorem Zs7:Fld Tryz.prog 28 0 Zcs (Kd.int .i64) (fun x:Zbk=>x.Number):=Fld.of ⟨_,(Kd.int .i64),0,fun x:Zbk=>x.Number⟩ (List.mem_of_getElem? (i:=0) rfl) 0 rfl (by kernel_rfl) (by decide)
theorem Zii:Fld Tryz.prog 28 1 Zcs Zbb.sl (fun x:Zbk=>x.Deals):=Fld.of ⟨_,Zbb.sl,1,fun x:Zbk=>x.Deals⟩ (List.mem_of_getElem? (i:=1) rfl) 1 rfl (by kernel_rfl) (by decide)
theorem Zml:Ty Tryz.prog 23 Zbb.sl:=⟨by kernel_rfl,by kernel_rfl⟩
theorem Zon:(Tryz.prog.info? 53).map (·.size)=some Zbb.sz:=by kernel_rfl
theorem Zgx:Ty Tryz.prog 53 Zbb:=⟨by kernel_rfl,by kernel_rfl⟩
theorem Zbj2:Zk Tryz.prog 38:=by
 unfold Zk
 kernel_rfl
theorem Zbkb:Zk Tryz.prog 39:=by
 unfold Zk
 kernel_rfl
theorem Zbej:Zk Tryz.prog 14:=by
 unfold Zk
 kernel_rfl
theorem Zi7:Ty Tryz.prog 28 Zcs:=⟨by kernel_rfl,by kernel_rfl⟩
theorem Zbes:Zk Tryz.prog 15:=by
 unfold Zk
 kernel_rfl
theorem en_4:Zk Tryz.prog 4:=by
 unfold Zk
 kernel_rfl
theorem Zbhm {N d:Nat} {o:Oper} {uses:Zbd}   (hop:o.op=.build 33 #[]) (hd:o.dst=some d) :OB Tryz.prog N o uses [(d,Z4.pd { top:=shelf_nodeT.nil,room:=(0:Int) })] []:=by
 refine Zdp hop hd fun a g hh=>?_
 refine ⟨.agg #[.pointer none,.int .i64 0],?_,[.pointer none,.int .i64 0],⟨rfl,(Qc.2 ⟨(Zof _),(Qc.2 ⟨(rfl),(fun _ h=>by cases h)⟩)⟩)⟩,rfl⟩
 simp only [List.map_toArray,List.map_cons,List.map_nil,List.map_nil]
 exact Zc8 Tryz.underlying33 (zero:=.agg #[.pointer none,.int .i64 0]) (by kernel_rfl) (places:=[(0,1),(1,1)]) (by kernel_rfl) (by kernel_rfl) g.w
theorem Zb7:Ty Tryz.prog 33 Z4:=⟨by kernel_rfl,by kernel_rfl⟩
theorem Zbge {N d:Nat} {o:Oper} {uses:Zbd} {x1:Operand} {v1:Int} (hop:o.op=.build 33 #[(1,x1)]) (hd:o.dst=some d) (h1:Opd uses x1 ((Kd.int .i64).pd v1)):OB Tryz.prog N o uses [(d,Z4.pd { top:=shelf_nodeT.nil,room:=v1 })] []:=by
 refine Zdp hop hd fun a g hh=>?_
 obtain ⟨c1,k1,e1⟩:=h1 a g hh
 obtain rfl:=k1
 refine ⟨.agg #[.pointer none,.int .i64 v1],?_,[.pointer none,.int .i64 v1],⟨rfl,(Qc.2 ⟨(Zof _),(Qc.2 ⟨rfl,(fun _ h=>by cases h)⟩)⟩)⟩,rfl⟩
 simp only [List.map_toArray,List.map_cons,List.map_nil,e1]
 exact Zc8 Tryz.underlying33 (zero:=.agg #[.pointer none,.int .i64 0]) (by kernel_rfl) (places:=[(0,1),(1,1)]) (by kernel_rfl) (by kernel_rfl) g.w
theorem Zbc1:Fld Tryz.prog 123 4 Zhn (Kd.int .i64) (fun x:shelf_node=>x.size):=Fld.of ⟨_,(Kd.int .i64),11,fun x:shelf_node=>x.size⟩ (List.mem_of_getElem? (i:=4) rfl) 11 rfl (by kernel_rfl) (by decide)
theorem Zsz:Fld Tryz.prog 33 0 Z4 Zbe (fun x:Zp=>x.top):=Fld.of ⟨_,Zbe,0,fun x:Zp=>x.top⟩ (List.mem_of_getElem? (i:=0) rfl) 0 rfl (by kernel_rfl) (by decide)
theorem Zdj:Ty Tryz.prog 31 Zbe:=⟨by kernel_rfl,by kernel_rfl⟩
theorem Zqi:Zk Tryz.prog 56:=by
 unfold Zk
 kernel_rfl
theorem Ze6:TE Tryz.prog 60 100 Zz 24:=TE.of Tryz.underlying60 (by kernel_rfl) (by decide) (by decide)
theorem Z24:Zk Tryz.prog 71:=by
 unfold Zk
 kernel_rfl
theorem Zwa {c:Option Nat} {N j s:Nat} {o:Oper} {uses:Zbd} {x z:Operand} {v:Zb} {y0 y:List Zh} {v0:Zb} {t:Nat} (hT:Ty Tryz.prog t Zz.sl) (hop:o.op=.store t x z) (hd:o.dst=none) (hs:Opd uses (.tmp s) (Zbi c Zf j v)) (hx:Opd uses x (Zds Zf j v0 7 Zz.sl y0)) (hz:Opd uses z (Zz.sl.pd y)):OB Tryz.prog N o uses [(s,Zbi c Zf j { v with List:=y })] [j + 1] :=
 Zfd hT hop hd hs hx hz fun g cs ys hk hy=>by
  have hc:cs.length=8:=hk.1
  have hl:ys.length=1:=Zz.sl.len hy
  exact ⟨by omega,(Zca (by omega)).trans hc,(Qc.2 ⟨(by show (Kd.int .i64).K g v.Kind (seg (Zq cs 7 ys) 0 1);rw [Zg (by omega) (by omega)];exact hk.2 _ (List.mem_of_getElem? (i:=0) rfl)),(Qc.2 ⟨(by show (Kd.int .i64).K g v.Num (seg (Zq cs 7 ys) 1 1);rw [Zg (by omega) (by omega)];exact hk.2 _ (List.mem_of_getElem? (i:=1) rfl)),(Qc.2 ⟨(by show (Kd.int .i64).K g v.Low (seg (Zq cs 7 ys) 2 1);rw [Zg (by omega) (by omega)];exact hk.2 _ (List.mem_of_getElem? (i:=2) rfl)),(Qc.2 ⟨(by show (Kd.int .i64).K g v.High (seg (Zq cs 7 ys) 3 1);rw [Zg (by omega) (by omega)];exact hk.2 _ (List.mem_of_getElem? (i:=3) rfl)),(Qc.2 ⟨(by show Kd.flt.K g v.Real (seg (Zq cs 7 ys) 4 1);rw [Zg (by omega) (by omega)];exact hk.2 _ (List.mem_of_getElem? (i:=4) rfl)),(Qc.2 ⟨(by show (Kd.int .i64).K g v.Cap (seg (Zq cs 7 ys) 5 1);rw [Zg (by omega) (by omega)];exact hk.2 _ (List.mem_of_getElem? (i:=5) rfl)),(Qc.2 ⟨(by show Kd.str.K g v.Text (seg (Zq cs 7 ys) 6 1);rw [Zg (by omega) (by omega)];exact hk.2 _ (List.mem_of_getElem? (i:=6) rfl)),(Qc.2 ⟨(by show Zz.sl.K g y (seg (Zq cs 7 ys) 7 1);rw [Zb3 (by omega) hl];exact hy),(fun _ h=>by cases h)⟩)⟩)⟩)⟩)⟩)⟩)⟩)⟩)⟩
theorem Zfh:Fld Tryz.prog 123 0 Zhn Kd.str (fun x:shelf_node=>x.key):=Fld.of ⟨_,Kd.str,0,fun x:shelf_node=>x.key⟩ (List.mem_of_getElem? (i:=0) rfl) 0 rfl (by kernel_rfl) (by decide)
theorem Zex:Fld Tryz.prog 123 2 Zhn Zbe (fun x:shelf_node=>x.left):=Fld.of ⟨_,Zbe,9,fun x:shelf_node=>x.left⟩ (List.mem_of_getElem? (i:=2) rfl) 9 rfl (by kernel_rfl) (by decide)
theorem Zfo:Fld Tryz.prog 123 3 Zhn Zbe (fun x:shelf_node=>x.right):=Fld.of ⟨_,Zbe,10,fun x:shelf_node=>x.right⟩ (List.mem_of_getElem? (i:=3) rfl) 10 rfl (by kernel_rfl) (by decide)
theorem Zim:Fld Tryz.prog 123 1 Zhn Zf (fun x:shelf_node=>x.rec_):=Fld.of ⟨_,Zf,1,fun x:shelf_node=>x.rec_⟩ (List.mem_of_getElem? (i:=1) rfl) 1 rfl (by kernel_rfl) (by decide)
theorem Zrd:Zk Tryz.prog 43:=by
 unfold Zk
 kernel_rfl
theorem Zye {N d:Nat} {o:Oper} {uses:Zbd} {x0:Operand} {x1:Operand} {x2:Operand} {x3:Operand} {x4:Operand} {v0:ByteArray} {v1:Zb} {v2:shelf_nodeT} {v3:shelf_nodeT} {v4:Int} (hop:o.op=.build 123 #[(0,x0),(1,x1),(2,x2),(3,x3),(4,x4)]) (hd:o.dst=some d) (h0:Opd uses x0 (Kd.str.pd v0)) (h1:Opd uses x1 (Zf.pd v1)) (h2:Opd uses x2 (Zbe.pd v2)) (h3:Opd uses x3 (Zbe.pd v3)) (h4:Opd uses x4 ((Kd.int .i64).pd v4)):OB Tryz.prog N o uses [(d,Zhn.pd { key:=v0,rec_:=v1,left:=v2,right:=v3,size:=v4 })] []:=by
 refine Zdp hop hd fun a g hh=>?_
 obtain ⟨c0,k0,e0⟩:=h0 a g hh
 obtain rfl:=k0
 obtain ⟨c1,k1,e1⟩:=h1 a g hh
 obtain ⟨u1_0,u1_1,u1_2,u1_3,u1_4,u1_5,u1_6,u1_7,rfl⟩:=Z8c (Zf.len k1)
 obtain ⟨c2,k2,e2⟩:=h2 a g hh
 obtain ⟨p2,rfl,l2⟩:=k2
 obtain ⟨q2,rfl,_⟩:=shelf_nodeT.ptr l2
 obtain ⟨c3,k3,e3⟩:=h3 a g hh
 obtain ⟨p3,rfl,l3⟩:=k3
 obtain ⟨q3,rfl,_⟩:=shelf_nodeT.ptr l3
 obtain ⟨c4,k4,e4⟩:=h4 a g hh
 obtain rfl:=k4
 refine ⟨.agg #[.string v0,u1_0,u1_1,u1_2,u1_3,u1_4,u1_5,u1_6,u1_7,.pointer q2,.pointer q3,.int .i64 v4],?_,[.string v0,u1_0,u1_1,u1_2,u1_3,u1_4,u1_5,u1_6,u1_7,.pointer q2,.pointer q3,.int .i64 v4],⟨rfl,(Qc.2 ⟨rfl,(Qc.2 ⟨k1,(Qc.2 ⟨⟨.pointer q2,rfl,l2⟩,(Qc.2 ⟨⟨.pointer q3,rfl,l3⟩,(Qc.2 ⟨rfl,(fun _ h=>by cases h)⟩)⟩)⟩)⟩)⟩)⟩,rfl⟩
 simp only [List.map_toArray,List.map_cons,List.map_nil,e0,e1,e2,e3,e4]
 exact Zc8 Tryz.underlying123 (zero:=.agg #[.string ByteArray.empty,.int .i64 0,.int .i64 0,.int .i64 0,.int .i64 0,.float .f64 0,.int .i64 0,.string ByteArray.empty,.slice none 0 0,.pointer none,.pointer none,.int .i64 0]) (by kernel_rfl) (places:=[(0,1),(1,8),(9,1),(10,1),(11,1)]) (by kernel_rfl) (by kernel_rfl) g.w
theorem Z3e:Zk Tryz.prog 97:=by
 unfold Zk
 kernel_rfl
theorem Zoa:Zk Tryz.prog 69:=by
 unfold Zk
 kernel_rfl
theorem Z8k:Zk Tryz.prog 42:=by
 unfold Zk
 kernel_rfl
theorem Zy6:Zk Tryz.prog 70:=by
 unfold Zk
 kernel_rfl
theorem Z8d:Zk Tryz.prog 41:=by
 unfold Zk
 kernel_rfl
theorem Z3f:Zk Tryz.prog 32:=by
 unfold Zk
 kernel_rfl
theorem Z01:Fld Tryz.prog 33 1 Z4 (Kd.int .i64) (fun x:Zp=>x.room):=Fld.of ⟨_,(Kd.int .i64),1,fun x:Zp=>x.room⟩ (List.mem_of_getElem? (i:=1) rfl) 1 rfl (by kernel_rfl) (by decide)
theorem Z1b {N d:Nat} {o:Oper} {uses:Zbd} {x0:Operand} {x1:Operand} {v0:shelf_nodeT} {v1:Int} (hop:o.op=.build 33 #[(0,x0),(1,x1)]) (hd:o.dst=some d) (h0:Opd uses x0 (Zbe.pd v0)) (h1:Opd uses x1 ((Kd.int .i64).pd v1)):OB Tryz.prog N o uses [(d,Z4.pd { top:=v0,room:=v1 })] []:=by
 refine Zdp hop hd fun a g hh=>?_
 obtain ⟨c0,k0,e0⟩:=h0 a g hh
 obtain ⟨p0,rfl,l0⟩:=k0
 obtain ⟨q0,rfl,_⟩:=shelf_nodeT.ptr l0
 obtain ⟨c1,k1,e1⟩:=h1 a g hh
 obtain rfl:=k1
 refine ⟨.agg #[.pointer q0,.int .i64 v1],?_,[.pointer q0,.int .i64 v1],⟨rfl,(Qc.2 ⟨⟨.pointer q0,rfl,l0⟩,(Qc.2 ⟨rfl,(fun _ h=>by cases h)⟩)⟩)⟩,rfl⟩
 simp only [List.map_toArray,List.map_cons,List.map_nil,e0,e1]
 exact Zc8 Tryz.underlying33 (zero:=.agg #[.pointer none,.int .i64 0]) (by kernel_rfl) (places:=[(0,1),(1,1)]) (by kernel_rfl) (by kernel_rfl) g.w
theorem Z8z:Zk Tryz.prog 99:=by
 unfold Zk
 kernel_rfl
theorem Zbap:Zk Tryz.prog 110:=by
 unfold Zk
 kernel_rfl
theorem Z4m:Zk Tryz.prog 102:=by
 unfold Zk
 kernel_rfl
theorem Zzf:Zk Tryz.prog 83:=by
 unfold Zk
 kernel_rfl
theorem Zbeu:Zk Tryz.prog 98:=by
 unfold Zk
 kernel_rfl
theorem Zbit:TE Tryz.prog 166 9 Kd.str 16:=TE.of Tryz.underlying166 (by kernel_rfl) (by decide) (by decide)
theorem sz_9:(Tryz.prog.info? 9).map (·.size)=some Kd.str.sz:=by kernel_rfl
theorem Zbex:Zk Tryz.prog 74:=by
 unfold Zk
 kernel_rfl
theorem Zbg6:Zk Tryz.prog 100:=by
 unfold Zk
 kernel_rfl
theorem Zbi0:Zk Tryz.prog 73:=by
 unfold Zk
 kernel_rfl
theorem Zbjt:Zk Tryz.prog 72:=by
 unfold Zk
 kernel_rfl
theorem Zbi3:Zk Tryz.prog 75:=by
 unfold Zk
 kernel_rfl
theorem Zqh:Fld Tryz.prog 58 0 Zcc Zck.sl (fun x:Zx=>x.L):=Fld.of ⟨_,Zck.sl,0,fun x:Zx=>x.L⟩ (List.mem_of_getElem? (i:=0) rfl) 0 rfl (by kernel_rfl) (by decide)
theorem Zud:Ty Tryz.prog 22 Zck.sl:=⟨by kernel_rfl,by kernel_rfl⟩
theorem Zzx:(Tryz.prog.info? 64).map (·.size)=some Zck.sz:=by kernel_rfl
theorem Ztg:Fld Tryz.prog 64 0 Zck Kd.str (fun x:Zbj=>x.Key):=Fld.of ⟨_,Kd.str,0,fun x:Zbj=>x.Key⟩ (List.mem_of_getElem? (i:=0) rfl) 0 rfl (by kernel_rfl) (by decide)
theorem Zmk:Ty Tryz.prog 58 Zcc:=⟨by kernel_rfl,by kernel_rfl⟩
theorem Zbj8:Zk Tryz.prog 44:=by
 unfold Zk
 kernel_rfl
theorem Zbks:Zk Tryz.prog 45:=by
 unfold Zk
 kernel_rfl
theorem Z7j:Fld Tryz.prog 58 1 Zcc (Kd.int .i64) (fun x:Zx=>x.Room):=Fld.of ⟨_,(Kd.int .i64),1,fun x:Zx=>x.Room⟩ (List.mem_of_getElem? (i:=1) rfl) 1 rfl (by kernel_rfl) (by decide)
theorem Zys:TE Tryz.prog 22 64 Zck 104:=TE.of Tryz.underlying22 (by kernel_rfl) (by decide) (by decide)
theorem Zbbu {N d:Nat} {o:Oper} {uses:Zbd} {x0:Operand} {x1:Operand} {v0:ByteArray} {v1:Zb} (hop:o.op=.build 64 #[(0,x0),(1,x1)]) (hd:o.dst=some d) (h0:Opd uses x0 (Kd.str.pd v0)) (h1:Opd uses x1 (Zf.pd v1)):OB Tryz.prog N o uses [(d,Zck.pd { Key:=v0,Rec:=v1 })] []:=by
 refine Zdp hop hd fun a g hh=>?_
 obtain ⟨c0,k0,e0⟩:=h0 a g hh
 obtain rfl:=k0
 obtain ⟨c1,k1,e1⟩:=h1 a g hh
 obtain ⟨u1_0,u1_1,u1_2,u1_3,u1_4,u1_5,u1_6,u1_7,rfl⟩:=Z8c (Zf.len k1)
 refine ⟨.agg #[.string v0,u1_0,u1_1,u1_2,u1_3,u1_4,u1_5,u1_6,u1_7],?_,[.string v0,u1_0,u1_1,u1_2,u1_3,u1_4,u1_5,u1_6,u1_7],⟨rfl,(Qc.2 ⟨rfl,(Qc.2 ⟨k1,(fun _ h=>by cases h)⟩)⟩)⟩,rfl⟩
 simp only [List.map_toArray,List.map_cons,List.map_nil,e0,e1]
 exact Zc8 Tryz.underlying64 (zero:=.agg #[.string ByteArray.empty,.int .i64 0,.int .i64 0,.int .i64 0,.int .i64 0,.float .f64 0,.int .i64 0,.string ByteArray.empty,.slice none 0 0]) (by kernel_rfl) (places:=[(0,1),(1,8)]) (by kernel_rfl) (by kernel_rfl) g.w
theorem Z92 {N d:Nat} {o:Oper} {uses:Zbd} {x0:Operand} {x1:Operand} {v0:List Zbj} {v1:Int} (hop:o.op=.build 58 #[(0,x0),(1,x1)]) (hd:o.dst=some d) (h0:Opd uses x0 (Zck.sl.pd v0)) (h1:Opd uses x1 ((Kd.int .i64).pd v1)):OB Tryz.prog N o uses [(d,Zcc.pd { L:=v0,Room:=v1 })] []:=by
 refine Zdp hop hd fun a g hh=>?_
 obtain ⟨c0,k0,e0⟩:=h0 a g hh
 obtain ⟨A0,n0,rfl,l0⟩:=k0
 obtain ⟨c1,k1,e1⟩:=h1 a g hh
 obtain rfl:=k1
 refine ⟨.agg #[.slice A0 v0.length n0,.int .i64 v1],?_,[.slice A0 v0.length n0,.int .i64 v1],⟨rfl,(Qc.2 ⟨⟨A0,n0,rfl,l0⟩,(Qc.2 ⟨rfl,(fun _ h=>by cases h)⟩)⟩)⟩,rfl⟩
 simp only [List.map_toArray,List.map_cons,List.map_nil,e0,e1]
 exact Zc8 Tryz.underlying58 (zero:=.agg #[.slice none 0 0,.int .i64 0]) (by kernel_rfl) (places:=[(0,1),(1,1)]) (by kernel_rfl) (by kernel_rfl) g.w
theorem Zbjr:Zk Tryz.prog 16:=by
 unfold Zk
 kernel_rfl
theorem Zbf8 {N d:Nat} {o:Oper} {uses:Zbd} {x1:Operand} {v1:Int} (hop:o.op=.build 58 #[(1,x1)]) (hd:o.dst=some d) (h1:Opd uses x1 ((Kd.int .i64).pd v1)):OB Tryz.prog N o uses [(d,Zcc.pd { L:=([]:List Zbj),Room:=v1 })] []:=by
 refine Zdp hop hd fun a g hh=>?_
 obtain ⟨c1,k1,e1⟩:=h1 a g hh
 obtain rfl:=k1
 refine ⟨.agg #[.slice none 0 0,.int .i64 v1],?_,[.slice none 0 0,.int .i64 v1],⟨rfl,(Qc.2 ⟨(⟨none,0,rfl,Nat.le_refl _,Nat.zero_le _,.inl rfl⟩),(Qc.2 ⟨rfl,(fun _ h=>by cases h)⟩)⟩)⟩,rfl⟩
 simp only [List.map_toArray,List.map_cons,List.map_nil,e1]
 exact Zc8 Tryz.underlying58 (zero:=.agg #[.slice none 0 0,.int .i64 0]) (by kernel_rfl) (places:=[(0,1),(1,1)]) (by kernel_rfl) (by kernel_rfl) g.w
theorem Zbd6:Ty Tryz.prog 64 Zck:=⟨by kernel_rfl,by kernel_rfl⟩
theorem Z05:Fld Tryz.prog 64 1 Zck Zf (fun x:Zbj=>x.Rec):=Fld.of ⟨_,Zf,1,fun x:Zbj=>x.Rec⟩ (List.mem_of_getElem? (i:=1) rfl) 1 rfl (by kernel_rfl) (by decide)
theorem Zbd1:Zk Tryz.prog 17:=by
 unfold Zk
 kernel_rfl
theorem Zbdz:Zk Tryz.prog 18:=by
 unfold Zk
 kernel_rfl
theorem Zbjg:Zk Tryz.prog 19:=by
 unfold Zk
 kernel_rfl
theorem Zbi1:Zk Tryz.prog 46:=by
 unfold Zk
 kernel_rfl
theorem Zbjb:Zk Tryz.prog 20:=by
 unfold Zk
 kernel_rfl
theorem Z20:TE Tryz.prog 51 90 Zy 152:=TE.of Tryz.underlying51 (by kernel_rfl) (by decide) (by decide)
structure Znz where
 Acts:SlV
def Z2k:List (Kd.FK Znz):=[⟨_,Kd.raw,0,fun x:Znz=>x.Acts⟩]
def Zd1:Kd Znz:=Kd.struct 1 Z2k (by rfl)
def Zdu (x:Zu) (s:SlV):Znz:=⟨s⟩
theorem Z2q:∀ g,Zd1.K g (Zdu ((default:Zu)) (none,0,0)) [.slice none 0 0]:=fun g=>⟨rfl,(Qc.2 ⟨rfl,(fun _ h=>by cases h)⟩)⟩
theorem Z2j {x:Zu} {e j:Nat}:∀ (g:G) (s:SlV) (cs:List Value),Zd1.K g (Zdu x s) cs → (hpL (pRow Zy e j x.Acts)).p g s → Zbb.K g x cs:=fun g s cs h hr=>⟨h.1,(Qc.2 ⟨(Zvj (h.2 _ (List.mem_of_getElem? (i:=0) rfl)) hr.1),(fun _ h=>by cases h)⟩)⟩
theorem Zum {x:Zu} {g:G} {cs ys:List Value} {s0 s1:SlV} (hk:Zd1.K g (Zdu x s0) cs) (hy:Kd.raw.K g s1 ys):0 + ys.length ≤ cs.length ∧ Zd1.K g (Zdu x s1) (Zq cs 0 ys):=by
 have hc:cs.length=1:=hk.1
 have hl:ys.length=1:=Kd.raw.len hy
 exact ⟨by omega,(Zca (by omega)).trans hc,(Qc.2 ⟨(by show Kd.raw.K g s1 (seg (Zq cs 0 ys) 0 1);rw [Zb3 (by omega) hl];exact hy),(fun _ h=>by cases h)⟩)⟩
theorem Zrz:Fld Tryz.prog 53 0 Zd1 Kd.raw (fun x:Znz=>x.Acts):=Fld.of ⟨_,Kd.raw,0,fun x:Znz=>x.Acts⟩ (List.mem_of_getElem? (i:=0) rfl) 0 rfl (by kernel_rfl) (by decide)
theorem Zsv:Ty Tryz.prog 51 Kd.raw:=⟨by kernel_rfl,by kernel_rfl⟩
theorem Zbjn:Zk Tryz.prog 47:=by
 unfold Zk
 kernel_rfl
theorem Z38:Zbee Zbb Zd1 Zdu:=fun g x cs h=>by
 obtain ⟨A,c,e,_⟩:=h.2 _ (List.mem_of_getElem? (i:=0) rfl)
 exact ⟨(A,x.Acts.length,c),h.1,(Qc.2 ⟨e,(fun _ h=>by cases h)⟩)⟩
theorem Z4c:Zbei Zbb Zd1 Zdu (fun x:Zu=>x.Acts) Zy:=fun g x s cs h hr=>⟨h.1,(Qc.2 ⟨(Zvj (h.2 _ (List.mem_of_getElem? (i:=0) rfl)) hr),(fun _ h=>by cases h)⟩)⟩
theorem Zbhb:Ty Tryz.prog 53 Zd1:=⟨by kernel_rfl,by kernel_rfl⟩
theorem Z2l (u:Zs):∀ (g:G) (cs ys:List Value),Zy.K g u cs → Zf.K g u.Make ys → 0 + 5 + ys.length ≤ cs.length → Zy.K g u (Zq cs (0 + 5) ys):=fun g cs ys hk hy _=>by
 have hc:cs.length=14:=hk.1
 have hl:ys.length=8:=Zf.len hy
 exact ⟨(Zca (by omega)).trans hc,(Qc.2 ⟨(by show (Kd.int .i64).K g u.Kind (seg (Zq cs (0 + 5) ys) 0 1);rw [Nat.zero_add,Zg (by omega) (by omega)];exact hk.2 _ (List.mem_of_getElem? (i:=0) rfl)),(Qc.2 ⟨(by show Kd.str.K g u.Key (seg (Zq cs (0 + 5) ys) 1 1);rw [Nat.zero_add,Zg (by omega) (by omega)];exact hk.2 _ (List.mem_of_getElem? (i:=1) rfl)),(Qc.2 ⟨(by show (Kd.int .i64).K g u.N (seg (Zq cs (0 + 5) ys) 2 1);rw [Nat.zero_add,Zg (by omega) (by omega)];exact hk.2 _ (List.mem_of_getElem? (i:=2) rfl)),(Qc.2 ⟨(by show Kd.flt.K g u.X (seg (Zq cs (0 + 5) ys) 3 1);rw [Nat.zero_add,Zg (by omega) (by omega)];exact hk.2 _ (List.mem_of_getElem? (i:=3) rfl)),(Qc.2 ⟨(by show Kd.str.K g u.S (seg (Zq cs (0 + 5) ys) 4 1);rw [Nat.zero_add,Zg (by omega) (by omega)];exact hk.2 _ (List.mem_of_getElem? (i:=4) rfl)),(Qc.2 ⟨(by show Zf.K g u.Make (seg (Zq cs (0 + 5) ys) 5 8);rw [Nat.zero_add,Zb3 (by omega) hl];exact hy),(Qc.2 ⟨(by show Kd.bool.K g u.Must (seg (Zq cs (0 + 5) ys) 13 1);rw [Nat.zero_add,Zg (by omega) (by omega)];exact hk.2 _ (List.mem_of_getElem? (i:=6) rfl)),(fun _ h=>by cases h)⟩)⟩)⟩)⟩)⟩)⟩)⟩)⟩
theorem Z0s {N d:Nat} {o:Oper} {uses:Zbd} {x0:Operand} {v0:Int} (hop:o.op=.build 28 #[(0,x0)]) (hd:o.dst=some d) (h0:Opd uses x0 ((Kd.int .i64).pd v0)):OB Tryz.prog N o uses [(d,Zcs.pd { Number:=v0,Deals:=([]:List Zu) })] []:=by
 refine Zdp hop hd fun a g hh=>?_
 obtain ⟨c0,k0,e0⟩:=h0 a g hh
 obtain rfl:=k0
 refine ⟨.agg #[.int .i64 v0,.slice none 0 0],?_,[.int .i64 v0,.slice none 0 0],⟨rfl,(Qc.2 ⟨rfl,(Qc.2 ⟨(⟨none,0,rfl,Nat.le_refl _,Nat.zero_le _,.inl rfl⟩),(fun _ h=>by cases h)⟩)⟩)⟩,rfl⟩
 simp only [List.map_toArray,List.map_cons,List.map_nil,e0]
 exact Zc8 Tryz.underlying28 (zero:=.agg #[.int .i64 0,.slice none 0 0]) (by kernel_rfl) (places:=[(0,1),(1,1)]) (by kernel_rfl) (by kernel_rfl) g.w
theorem Zbkn:Zk Tryz.prog 21:=by
 unfold Zk
 kernel_rfl
theorem Zbdx:Zk Tryz.prog 22:=by
 unfold Zk
 kernel_rfl
theorem Zwr:TE Tryz.prog 23 53 Zbb 24:=TE.of Tryz.underlying23 (by kernel_rfl) (by decide) (by decide)
theorem Z19 {N d:Nat} {o:Oper} {uses:Zbd} {x0:Operand} {x1:Operand} {v0:Int} {v1:List Zu} (hop:o.op=.build 28 #[(0,x0),(1,x1)]) (hd:o.dst=some d) (h0:Opd uses x0 ((Kd.int .i64).pd v0)) (h1:Opd uses x1 (Zbb.sl.pd v1)):OB Tryz.prog N o uses [(d,Zcs.pd { Number:=v0,Deals:=v1 })] []:=by
 refine Zdp hop hd fun a g hh=>?_
 obtain ⟨c0,k0,e0⟩:=h0 a g hh
 obtain rfl:=k0
 obtain ⟨c1,k1,e1⟩:=h1 a g hh
 obtain ⟨A1,n1,rfl,l1⟩:=k1
 refine ⟨.agg #[.int .i64 v0,.slice A1 v1.length n1],?_,[.int .i64 v0,.slice A1 v1.length n1],⟨rfl,(Qc.2 ⟨rfl,(Qc.2 ⟨⟨A1,n1,rfl,l1⟩,(fun _ h=>by cases h)⟩)⟩)⟩,rfl⟩
 simp only [List.map_toArray,List.map_cons,List.map_nil,e0,e1]
 exact Zc8 Tryz.underlying28 (zero:=.agg #[.int .i64 0,.slice none 0 0]) (by kernel_rfl) (places:=[(0,1),(1,1)]) (by kernel_rfl) (by kernel_rfl) g.w
theorem Zwb:Ty Tryz.prog 42 Zc9:=⟨by kernel_rfl,by kernel_rfl⟩
theorem Zba2 {N d:Nat} {o:Oper} {uses:Zbd}   (hop:o.op=.build 42 #[]) (hd:o.dst=some d) :OB Tryz.prog N o uses [(d,Zc9.pd { Code:=(0:Int),At:=(0:Int) })] []:=by
 refine Zdp hop hd fun a g hh=>?_
 refine ⟨.agg #[.int .i64 0,.int .i64 0],?_,[.int .i64 0,.int .i64 0],⟨rfl,(Qc.2 ⟨(rfl),(Qc.2 ⟨(rfl),(fun _ h=>by cases h)⟩)⟩)⟩,rfl⟩
 simp only [List.map_toArray,List.map_cons,List.map_nil,List.map_nil]
 exact Zc8 Tryz.underlying42 (zero:=.agg #[.int .i64 0,.int .i64 0]) (by kernel_rfl) (places:=[(0,1),(1,1)]) (by kernel_rfl) (by kernel_rfl) g.w
theorem Zbdb {N d:Nat} {o:Oper} {uses:Zbd} {x0:Operand} {v0:List Int} (hop:o.op=.build 111 #[(0,x0)]) (hd:o.dst=some d) (h0:Opd uses x0 (((Kd.int .u8).sl).pd v0)):OB Tryz.prog N o uses [(d,Zv.pd { b:=v0,at_:=(0:Int) })] []:=by
 refine Zdp hop hd fun a g hh=>?_
 obtain ⟨c0,k0,e0⟩:=h0 a g hh
 obtain ⟨A0,n0,rfl,l0⟩:=k0
 refine ⟨.agg #[.slice A0 v0.length n0,.int .i64 0],?_,[.slice A0 v0.length n0,.int .i64 0],⟨rfl,(Qc.2 ⟨⟨A0,n0,rfl,l0⟩,(Qc.2 ⟨(rfl),(fun _ h=>by cases h)⟩)⟩)⟩,rfl⟩
 simp only [List.map_toArray,List.map_cons,List.map_nil,e0]
 exact Zc8 Tryz.underlying111 (zero:=.agg #[.slice none 0 0,.int .i64 0]) (by kernel_rfl) (places:=[(0,1),(1,1)]) (by kernel_rfl) (by kernel_rfl) g.w
theorem Zl3:PF Tryz.prog 111 1 1:=by
 unfold PF
 kernel_rfl
theorem Zox {v:Ze} {g:G} {cs:List Value} (h:Zv.K g v cs):(Kd.int .i64).K g v.at_ (seg cs 1 1):=h.2 _ (List.mem_of_getElem? (i:=1) rfl)
theorem Ztn:PF Tryz.prog 111 0 0:=by
 unfold PF
 kernel_rfl
theorem Z28:Ty Tryz.prog 29 (Kd.int .u8).sl:=⟨by kernel_rfl,by kernel_rfl⟩
theorem Zub {v:Ze} {g:G} {cs:List Value} (h:Zv.K g v cs):((Kd.int .u8).sl).K g v.b (seg cs 0 1):=h.2 _ (List.mem_of_getElem? (i:=0) rfl)
theorem Zqk:Zk Tryz.prog 49:=by
 unfold Zk
 kernel_rfl
theorem Z56 {v:Ze} {y:Int} {g:G} {cs ys:List Value} (hk:Zv.K g v cs) (hy:(Kd.int .i64).K g y ys):1 + ys.length ≤ cs.length ∧ Zv.K g { v with at_:=y } (Zq cs 1 ys):=by
 have hc:cs.length=2:=hk.1
 have hl:ys.length=1:=(Kd.int .i64).len hy
 exact ⟨by omega,(Zca (by omega)).trans hc,(Qc.2 ⟨(by show ((Kd.int .u8).sl).K g v.b (seg (Zq cs 1 ys) 0 1);rw [Zg (by omega) (by omega)];exact hk.2 _ (List.mem_of_getElem? (i:=0) rfl)),(Qc.2 ⟨(by show (Kd.int .i64).K g y (seg (Zq cs 1 ys) 1 1);rw [Zb3 (by omega) hl];exact hy),(fun _ h=>by cases h)⟩)⟩)⟩
theorem sz_5:(Tryz.prog.info? 5).map (·.size)=some (Kd.int .u8).sz:=by kernel_rfl
theorem ty_5:Ty Tryz.prog 5 (Kd.int .u8):=⟨by kernel_rfl,by kernel_rfl⟩
theorem Z9g:Zk Tryz.prog 76:=by
 unfold Zk
 kernel_rfl
theorem Z8m:Zk Tryz.prog 48:=by
 unfold Zk
 kernel_rfl
theorem Zbd8:Zk Tryz.prog 51:=by
 unfold Zk
 kernel_rfl
theorem Zbg7:Zk Tryz.prog 101:=by
 unfold Zk
 kernel_rfl
structure Zcn where
 Kind:Int
 Num:Int
 Low:Int
 High:Int
 Real:Nat
 Cap:Int
 Text:ByteArray
 List:SlV
def Zzs:List (Kd.FK Zcn):=[⟨_,(Kd.int .i64),0,fun x:Zcn=>x.Kind⟩,
 ⟨_,(Kd.int .i64),1,fun x:Zcn=>x.Num⟩,
 ⟨_,(Kd.int .i64),2,fun x:Zcn=>x.Low⟩,
 ⟨_,(Kd.int .i64),3,fun x:Zcn=>x.High⟩,
 ⟨_,Kd.flt,4,fun x:Zcn=>x.Real⟩,
 ⟨_,(Kd.int .i64),5,fun x:Zcn=>x.Cap⟩,
 ⟨_,Kd.str,6,fun x:Zcn=>x.Text⟩,
 ⟨_,Kd.raw,7,fun x:Zcn=>x.List⟩]
def Zbp:Kd Zcn:=Kd.struct 8 Zzs (by rfl)
def Zby (x:Zb) (s:SlV):Zcn:=⟨x.Kind,x.Num,x.Low,x.High,x.Real,x.Cap,x.Text,s⟩
theorem Zzn:∀ g,Zbp.K g (Zby ((default:Zb)) (none,0,0)) [.int .i64 0,.int .i64 0,.int .i64 0,.int .i64 0,.float .f64 0,.int .i64 0,.string ByteArray.empty,.slice none 0 0]:=fun g=>⟨rfl,(Qc.2 ⟨(rfl),(Qc.2 ⟨(rfl),(Qc.2 ⟨(rfl),(Qc.2 ⟨(rfl),(Qc.2 ⟨(rfl),(Qc.2 ⟨(rfl),(Qc.2 ⟨(rfl),(Qc.2 ⟨rfl,(fun _ h=>by cases h)⟩)⟩)⟩)⟩)⟩)⟩)⟩)⟩)⟩
theorem Zse {x:Zb} {e j:Nat}:∀ (g:G) (s:SlV) (cs:List Value),Zbp.K g (Zby x s) cs → (hpL (pRow Zz e j x.List)).p g s → Zf.K g x cs:=fun g s cs h hr=>⟨h.1,(Qc.2 ⟨(h.2 _ (List.mem_of_getElem? (i:=0) rfl)),(Qc.2 ⟨(h.2 _ (List.mem_of_getElem? (i:=1) rfl)),(Qc.2 ⟨(h.2 _ (List.mem_of_getElem? (i:=2) rfl)),(Qc.2 ⟨(h.2 _ (List.mem_of_getElem? (i:=3) rfl)),(Qc.2 ⟨(h.2 _ (List.mem_of_getElem? (i:=4) rfl)),(Qc.2 ⟨(h.2 _ (List.mem_of_getElem? (i:=5) rfl)),(Qc.2 ⟨(h.2 _ (List.mem_of_getElem? (i:=6) rfl)),(Qc.2 ⟨(Zvj (h.2 _ (List.mem_of_getElem? (i:=7) rfl)) hr.1),(fun _ h=>by cases h)⟩)⟩)⟩)⟩)⟩)⟩)⟩)⟩)⟩
theorem Zza {x:Zb} {g:G} {cs ys:List Value} {s0 s1:SlV} (hk:Zbp.K g (Zby x s0) cs) (hy:Kd.raw.K g s1 ys):7 + ys.length ≤ cs.length ∧ Zbp.K g (Zby x s1) (Zq cs 7 ys):=by
 have hc:cs.length=8:=hk.1
 have hl:ys.length=1:=Kd.raw.len hy
 exact ⟨by omega,(Zca (by omega)).trans hc,(Qc.2 ⟨(by show (Kd.int .i64).K g x.Kind (seg (Zq cs 7 ys) 0 1);rw [Zg (by omega) (by omega)];exact hk.2 _ (List.mem_of_getElem? (i:=0) rfl)),(Qc.2 ⟨(by show (Kd.int .i64).K g x.Num (seg (Zq cs 7 ys) 1 1);rw [Zg (by omega) (by omega)];exact hk.2 _ (List.mem_of_getElem? (i:=1) rfl)),(Qc.2 ⟨(by show (Kd.int .i64).K g x.Low (seg (Zq cs 7 ys) 2 1);rw [Zg (by omega) (by omega)];exact hk.2 _ (List.mem_of_getElem? (i:=2) rfl)),(Qc.2 ⟨(by show (Kd.int .i64).K g x.High (seg (Zq cs 7 ys) 3 1);rw [Zg (by omega) (by omega)];exact hk.2 _ (List.mem_of_getElem? (i:=3) rfl)),(Qc.2 ⟨(by show Kd.flt.K g x.Real (seg (Zq cs 7 ys) 4 1);rw [Zg (by omega) (by omega)];exact hk.2 _ (List.mem_of_getElem? (i:=4) rfl)),(Qc.2 ⟨(by show (Kd.int .i64).K g x.Cap (seg (Zq cs 7 ys) 5 1);rw [Zg (by omega) (by omega)];exact hk.2 _ (List.mem_of_getElem? (i:=5) rfl)),(Qc.2 ⟨(by show Kd.str.K g x.Text (seg (Zq cs 7 ys) 6 1);rw [Zg (by omega) (by omega)];exact hk.2 _ (List.mem_of_getElem? (i:=6) rfl)),(Qc.2 ⟨(by show Kd.raw.K g s1 (seg (Zq cs 7 ys) 7 1);rw [Zb3 (by omega) hl];exact hy),(fun _ h=>by cases h)⟩)⟩)⟩)⟩)⟩)⟩)⟩)⟩)⟩
theorem Zuj:Fld Tryz.prog 62 0 Zbp (Kd.int .i64) (fun x:Zcn=>x.Kind):=Fld.of ⟨_,(Kd.int .i64),0,fun x:Zcn=>x.Kind⟩ (List.mem_of_getElem? (i:=0) rfl) 0 rfl (by kernel_rfl) (by decide)
theorem Zbb6:Fld Tryz.prog 62 1 Zbp (Kd.int .i64) (fun x:Zcn=>x.Num):=Fld.of ⟨_,(Kd.int .i64),1,fun x:Zcn=>x.Num⟩ (List.mem_of_getElem? (i:=1) rfl) 1 rfl (by kernel_rfl) (by decide)
theorem Zbcq:Fld Tryz.prog 62 2 Zbp (Kd.int .i64) (fun x:Zcn=>x.Low):=Fld.of ⟨_,(Kd.int .i64),2,fun x:Zcn=>x.Low⟩ (List.mem_of_getElem? (i:=2) rfl) 2 rfl (by kernel_rfl) (by decide)
theorem Zbdo:Fld Tryz.prog 62 3 Zbp (Kd.int .i64) (fun x:Zcn=>x.High):=Fld.of ⟨_,(Kd.int .i64),3,fun x:Zcn=>x.High⟩ (List.mem_of_getElem? (i:=3) rfl) 3 rfl (by kernel_rfl) (by decide)
theorem Zbcf:Fld Tryz.prog 62 4 Zbp Kd.flt (fun x:Zcn=>x.Real):=Fld.of ⟨_,Kd.flt,4,fun x:Zcn=>x.Real⟩ (List.mem_of_getElem? (i:=4) rfl) 4 rfl (by kernel_rfl) (by decide)
theorem Zbbz:Fld Tryz.prog 62 5 Zbp (Kd.int .i64) (fun x:Zcn=>x.Cap):=Fld.of ⟨_,(Kd.int .i64),5,fun x:Zcn=>x.Cap⟩ (List.mem_of_getElem? (i:=5) rfl) 5 rfl (by kernel_rfl) (by decide)
theorem Zbc7:Fld Tryz.prog 62 6 Zbp Kd.str (fun x:Zcn=>x.Text):=Fld.of ⟨_,Kd.str,6,fun x:Zcn=>x.Text⟩ (List.mem_of_getElem? (i:=6) rfl) 6 rfl (by kernel_rfl) (by decide)
theorem Z5h:Fld Tryz.prog 62 7 Zbp Kd.raw (fun x:Zcn=>x.List):=Fld.of ⟨_,Kd.raw,7,fun x:Zcn=>x.List⟩ (List.mem_of_getElem? (i:=7) rfl) 7 rfl (by kernel_rfl) (by decide)
theorem Zbbl:Ty Tryz.prog 60 Kd.raw:=⟨by kernel_rfl,by kernel_rfl⟩
theorem Ztz:Zk Tryz.prog 26:=by
 unfold Zk
 kernel_rfl
theorem Zxb {x:Zb} {g:G} {cs ys:List Value} {s0:SlV} {u:Int} (hk:Zbp.K g (Zby x s0) cs) (hy:(Kd.int .i64).K g u ys):0 + ys.length ≤ cs.length ∧ Zbp.K g (Zby { x with Kind:=u } s0) (Zq cs 0 ys):=by
 have hc:cs.length=8:=hk.1
 have hl:ys.length=1:=(Kd.int .i64).len hy
 exact ⟨by omega,(Zca (by omega)).trans hc,(Qc.2 ⟨(by show (Kd.int .i64).K g u (seg (Zq cs 0 ys) 0 1);rw [Zb3 (by omega) hl];exact hy),(Qc.2 ⟨(by show (Kd.int .i64).K g x.Num (seg (Zq cs 0 ys) 1 1);rw [Zg (by omega) (by omega)];exact hk.2 _ (List.mem_of_getElem? (i:=1) rfl)),(Qc.2 ⟨(by show (Kd.int .i64).K g x.Low (seg (Zq cs 0 ys) 2 1);rw [Zg (by omega) (by omega)];exact hk.2 _ (List.mem_of_getElem? (i:=2) rfl)),(Qc.2 ⟨(by show (Kd.int .i64).K g x.High (seg (Zq cs 0 ys) 3 1);rw [Zg (by omega) (by omega)];exact hk.2 _ (List.mem_of_getElem? (i:=3) rfl)),(Qc.2 ⟨(by show Kd.flt.K g x.Real (seg (Zq cs 0 ys) 4 1);rw [Zg (by omega) (by omega)];exact hk.2 _ (List.mem_of_getElem? (i:=4) rfl)),(Qc.2 ⟨(by show (Kd.int .i64).K g x.Cap (seg (Zq cs 0 ys) 5 1);rw [Zg (by omega) (by omega)];exact hk.2 _ (List.mem_of_getElem? (i:=5) rfl)),(Qc.2 ⟨(by show Kd.str.K g x.Text (seg (Zq cs 0 ys) 6 1);rw [Zg (by omega) (by omega)];exact hk.2 _ (List.mem_of_getElem? (i:=6) rfl)),(Qc.2 ⟨(by show Kd.raw.K g s0 (seg (Zq cs 0 ys) 7 1);rw [Zg (by omega) (by omega)];exact hk.2 _ (List.mem_of_getElem? (i:=7) rfl)),(fun _ h=>by cases h)⟩)⟩)⟩)⟩)⟩)⟩)⟩)⟩)⟩
theorem Zt7:Zk Tryz.prog 27:=by
 unfold Zk
 kernel_rfl
theorem Z2w:Zk Tryz.prog 78:=by
 unfold Zk
 kernel_rfl
theorem Zxa {x:Zb} {g:G} {cs ys:List Value} {s0:SlV} {u:ByteArray} (hk:Zbp.K g (Zby x s0) cs) (hy:Kd.str.K g u ys):6 + ys.length ≤ cs.length ∧ Zbp.K g (Zby { x with Text:=u } s0) (Zq cs 6 ys):=by
 have hc:cs.length=8:=hk.1
 have hl:ys.length=1:=Kd.str.len hy
 exact ⟨by omega,(Zca (by omega)).trans hc,(Qc.2 ⟨(by show (Kd.int .i64).K g x.Kind (seg (Zq cs 6 ys) 0 1);rw [Zg (by omega) (by omega)];exact hk.2 _ (List.mem_of_getElem? (i:=0) rfl)),(Qc.2 ⟨(by show (Kd.int .i64).K g x.Num (seg (Zq cs 6 ys) 1 1);rw [Zg (by omega) (by omega)];exact hk.2 _ (List.mem_of_getElem? (i:=1) rfl)),(Qc.2 ⟨(by show (Kd.int .i64).K g x.Low (seg (Zq cs 6 ys) 2 1);rw [Zg (by omega) (by omega)];exact hk.2 _ (List.mem_of_getElem? (i:=2) rfl)),(Qc.2 ⟨(by show (Kd.int .i64).K g x.High (seg (Zq cs 6 ys) 3 1);rw [Zg (by omega) (by omega)];exact hk.2 _ (List.mem_of_getElem? (i:=3) rfl)),(Qc.2 ⟨(by show Kd.flt.K g x.Real (seg (Zq cs 6 ys) 4 1);rw [Zg (by omega) (by omega)];exact hk.2 _ (List.mem_of_getElem? (i:=4) rfl)),(Qc.2 ⟨(by show (Kd.int .i64).K g x.Cap (seg (Zq cs 6 ys) 5 1);rw [Zg (by omega) (by omega)];exact hk.2 _ (List.mem_of_getElem? (i:=5) rfl)),(Qc.2 ⟨(by show Kd.str.K g u (seg (Zq cs 6 ys) 6 1);rw [Zb3 (by omega) hl];exact hy),(Qc.2 ⟨(by show Kd.raw.K g s0 (seg (Zq cs 6 ys) 7 1);rw [Zg (by omega) (by omega)];exact hk.2 _ (List.mem_of_getElem? (i:=7) rfl)),(fun _ h=>by cases h)⟩)⟩)⟩)⟩)⟩)⟩)⟩)⟩)⟩
theorem Z2t:Zk Tryz.prog 80:=by
 unfold Zk
 kernel_rfl
theorem Zwy {x:Zb} {g:G} {cs ys:List Value} {s0:SlV} {u:Int} (hk:Zbp.K g (Zby x s0) cs) (hy:(Kd.int .i64).K g u ys):2 + ys.length ≤ cs.length ∧ Zbp.K g (Zby { x with Low:=u } s0) (Zq cs 2 ys):=by
 have hc:cs.length=8:=hk.1
 have hl:ys.length=1:=(Kd.int .i64).len hy
 exact ⟨by omega,(Zca (by omega)).trans hc,(Qc.2 ⟨(by show (Kd.int .i64).K g x.Kind (seg (Zq cs 2 ys) 0 1);rw [Zg (by omega) (by omega)];exact hk.2 _ (List.mem_of_getElem? (i:=0) rfl)),(Qc.2 ⟨(by show (Kd.int .i64).K g x.Num (seg (Zq cs 2 ys) 1 1);rw [Zg (by omega) (by omega)];exact hk.2 _ (List.mem_of_getElem? (i:=1) rfl)),(Qc.2 ⟨(by show (Kd.int .i64).K g u (seg (Zq cs 2 ys) 2 1);rw [Zb3 (by omega) hl];exact hy),(Qc.2 ⟨(by show (Kd.int .i64).K g x.High (seg (Zq cs 2 ys) 3 1);rw [Zg (by omega) (by omega)];exact hk.2 _ (List.mem_of_getElem? (i:=3) rfl)),(Qc.2 ⟨(by show Kd.flt.K g x.Real (seg (Zq cs 2 ys) 4 1);rw [Zg (by omega) (by omega)];exact hk.2 _ (List.mem_of_getElem? (i:=4) rfl)),(Qc.2 ⟨(by show (Kd.int .i64).K g x.Cap (seg (Zq cs 2 ys) 5 1);rw [Zg (by omega) (by omega)];exact hk.2 _ (List.mem_of_getElem? (i:=5) rfl)),(Qc.2 ⟨(by show Kd.str.K g x.Text (seg (Zq cs 2 ys) 6 1);rw [Zg (by omega) (by omega)];exact hk.2 _ (List.mem_of_getElem? (i:=6) rfl)),(Qc.2 ⟨(by show Kd.raw.K g s0 (seg (Zq cs 2 ys) 7 1);rw [Zg (by omega) (by omega)];exact hk.2 _ (List.mem_of_getElem? (i:=7) rfl)),(fun _ h=>by cases h)⟩)⟩)⟩)⟩)⟩)⟩)⟩)⟩)⟩
theorem Zw6 {x:Zb} {g:G} {cs ys:List Value} {s0:SlV} {u:Int} (hk:Zbp.K g (Zby x s0) cs) (hy:(Kd.int .i64).K g u ys):3 + ys.length ≤ cs.length ∧ Zbp.K g (Zby { x with High:=u } s0) (Zq cs 3 ys):=by
 have hc:cs.length=8:=hk.1
 have hl:ys.length=1:=(Kd.int .i64).len hy
 exact ⟨by omega,(Zca (by omega)).trans hc,(Qc.2 ⟨(by show (Kd.int .i64).K g x.Kind (seg (Zq cs 3 ys) 0 1);rw [Zg (by omega) (by omega)];exact hk.2 _ (List.mem_of_getElem? (i:=0) rfl)),(Qc.2 ⟨(by show (Kd.int .i64).K g x.Num (seg (Zq cs 3 ys) 1 1);rw [Zg (by omega) (by omega)];exact hk.2 _ (List.mem_of_getElem? (i:=1) rfl)),(Qc.2 ⟨(by show (Kd.int .i64).K g x.Low (seg (Zq cs 3 ys) 2 1);rw [Zg (by omega) (by omega)];exact hk.2 _ (List.mem_of_getElem? (i:=2) rfl)),(Qc.2 ⟨(by show (Kd.int .i64).K g u (seg (Zq cs 3 ys) 3 1);rw [Zb3 (by omega) hl];exact hy),(Qc.2 ⟨(by show Kd.flt.K g x.Real (seg (Zq cs 3 ys) 4 1);rw [Zg (by omega) (by omega)];exact hk.2 _ (List.mem_of_getElem? (i:=4) rfl)),(Qc.2 ⟨(by show (Kd.int .i64).K g x.Cap (seg (Zq cs 3 ys) 5 1);rw [Zg (by omega) (by omega)];exact hk.2 _ (List.mem_of_getElem? (i:=5) rfl)),(Qc.2 ⟨(by show Kd.str.K g x.Text (seg (Zq cs 3 ys) 6 1);rw [Zg (by omega) (by omega)];exact hk.2 _ (List.mem_of_getElem? (i:=6) rfl)),(Qc.2 ⟨(by show Kd.raw.K g s0 (seg (Zq cs 3 ys) 7 1);rw [Zg (by omega) (by omega)];exact hk.2 _ (List.mem_of_getElem? (i:=7) rfl)),(fun _ h=>by cases h)⟩)⟩)⟩)⟩)⟩)⟩)⟩)⟩)⟩
theorem Zw0 {x:Zb} {g:G} {cs ys:List Value} {s0:SlV} {u:Int} (hk:Zbp.K g (Zby x s0) cs) (hy:(Kd.int .i64).K g u ys):1 + ys.length ≤ cs.length ∧ Zbp.K g (Zby { x with Num:=u } s0) (Zq cs 1 ys):=by
 have hc:cs.length=8:=hk.1
 have hl:ys.length=1:=(Kd.int .i64).len hy
 exact ⟨by omega,(Zca (by omega)).trans hc,(Qc.2 ⟨(by show (Kd.int .i64).K g x.Kind (seg (Zq cs 1 ys) 0 1);rw [Zg (by omega) (by omega)];exact hk.2 _ (List.mem_of_getElem? (i:=0) rfl)),(Qc.2 ⟨(by show (Kd.int .i64).K g u (seg (Zq cs 1 ys) 1 1);rw [Zb3 (by omega) hl];exact hy),(Qc.2 ⟨(by show (Kd.int .i64).K g x.Low (seg (Zq cs 1 ys) 2 1);rw [Zg (by omega) (by omega)];exact hk.2 _ (List.mem_of_getElem? (i:=2) rfl)),(Qc.2 ⟨(by show (Kd.int .i64).K g x.High (seg (Zq cs 1 ys) 3 1);rw [Zg (by omega) (by omega)];exact hk.2 _ (List.mem_of_getElem? (i:=3) rfl)),(Qc.2 ⟨(by show Kd.flt.K g x.Real (seg (Zq cs 1 ys) 4 1);rw [Zg (by omega) (by omega)];exact hk.2 _ (List.mem_of_getElem? (i:=4) rfl)),(Qc.2 ⟨(by show (Kd.int .i64).K g x.Cap (seg (Zq cs 1 ys) 5 1);rw [Zg (by omega) (by omega)];exact hk.2 _ (List.mem_of_getElem? (i:=5) rfl)),(Qc.2 ⟨(by show Kd.str.K g x.Text (seg (Zq cs 1 ys) 6 1);rw [Zg (by omega) (by omega)];exact hk.2 _ (List.mem_of_getElem? (i:=6) rfl)),(Qc.2 ⟨(by show Kd.raw.K g s0 (seg (Zq cs 1 ys) 7 1);rw [Zg (by omega) (by omega)];exact hk.2 _ (List.mem_of_getElem? (i:=7) rfl)),(fun _ h=>by cases h)⟩)⟩)⟩)⟩)⟩)⟩)⟩)⟩)⟩
theorem Z88:Zk Tryz.prog 81:=by
 unfold Zk
 kernel_rfl
theorem Zwu {x:Zb} {g:G} {cs ys:List Value} {s0:SlV} {u:Nat} (hk:Zbp.K g (Zby x s0) cs) (hy:Kd.flt.K g u ys):4 + ys.length ≤ cs.length ∧ Zbp.K g (Zby { x with Real:=u } s0) (Zq cs 4 ys):=by
 have hc:cs.length=8:=hk.1
 have hl:ys.length=1:=Kd.flt.len hy
 exact ⟨by omega,(Zca (by omega)).trans hc,(Qc.2 ⟨(by show (Kd.int .i64).K g x.Kind (seg (Zq cs 4 ys) 0 1);rw [Zg (by omega) (by omega)];exact hk.2 _ (List.mem_of_getElem? (i:=0) rfl)),(Qc.2 ⟨(by show (Kd.int .i64).K g x.Num (seg (Zq cs 4 ys) 1 1);rw [Zg (by omega) (by omega)];exact hk.2 _ (List.mem_of_getElem? (i:=1) rfl)),(Qc.2 ⟨(by show (Kd.int .i64).K g x.Low (seg (Zq cs 4 ys) 2 1);rw [Zg (by omega) (by omega)];exact hk.2 _ (List.mem_of_getElem? (i:=2) rfl)),(Qc.2 ⟨(by show (Kd.int .i64).K g x.High (seg (Zq cs 4 ys) 3 1);rw [Zg (by omega) (by omega)];exact hk.2 _ (List.mem_of_getElem? (i:=3) rfl)),(Qc.2 ⟨(by show Kd.flt.K g u (seg (Zq cs 4 ys) 4 1);rw [Zb3 (by omega) hl];exact hy),(Qc.2 ⟨(by show (Kd.int .i64).K g x.Cap (seg (Zq cs 4 ys) 5 1);rw [Zg (by omega) (by omega)];exact hk.2 _ (List.mem_of_getElem? (i:=5) rfl)),(Qc.2 ⟨(by show Kd.str.K g x.Text (seg (Zq cs 4 ys) 6 1);rw [Zg (by omega) (by omega)];exact hk.2 _ (List.mem_of_getElem? (i:=6) rfl)),(Qc.2 ⟨(by show Kd.raw.K g s0 (seg (Zq cs 4 ys) 7 1);rw [Zg (by omega) (by omega)];exact hk.2 _ (List.mem_of_getElem? (i:=7) rfl)),(fun _ h=>by cases h)⟩)⟩)⟩)⟩)⟩)⟩)⟩)⟩)⟩
theorem Zw2 {x:Zb} {g:G} {cs ys:List Value} {s0:SlV} {u:Int} (hk:Zbp.K g (Zby x s0) cs) (hy:(Kd.int .i64).K g u ys):5 + ys.length ≤ cs.length ∧ Zbp.K g (Zby { x with Cap:=u } s0) (Zq cs 5 ys):=by
 have hc:cs.length=8:=hk.1
 have hl:ys.length=1:=(Kd.int .i64).len hy
 exact ⟨by omega,(Zca (by omega)).trans hc,(Qc.2 ⟨(by show (Kd.int .i64).K g x.Kind (seg (Zq cs 5 ys) 0 1);rw [Zg (by omega) (by omega)];exact hk.2 _ (List.mem_of_getElem? (i:=0) rfl)),(Qc.2 ⟨(by show (Kd.int .i64).K g x.Num (seg (Zq cs 5 ys) 1 1);rw [Zg (by omega) (by omega)];exact hk.2 _ (List.mem_of_getElem? (i:=1) rfl)),(Qc.2 ⟨(by show (Kd.int .i64).K g x.Low (seg (Zq cs 5 ys) 2 1);rw [Zg (by omega) (by omega)];exact hk.2 _ (List.mem_of_getElem? (i:=2) rfl)),(Qc.2 ⟨(by show (Kd.int .i64).K g x.High (seg (Zq cs 5 ys) 3 1);rw [Zg (by omega) (by omega)];exact hk.2 _ (List.mem_of_getElem? (i:=3) rfl)),(Qc.2 ⟨(by show Kd.flt.K g x.Real (seg (Zq cs 5 ys) 4 1);rw [Zg (by omega) (by omega)];exact hk.2 _ (List.mem_of_getElem? (i:=4) rfl)),(Qc.2 ⟨(by show (Kd.int .i64).K g u (seg (Zq cs 5 ys) 5 1);rw [Zb3 (by omega) hl];exact hy),(Qc.2 ⟨(by show Kd.str.K g x.Text (seg (Zq cs 5 ys) 6 1);rw [Zg (by omega) (by omega)];exact hk.2 _ (List.mem_of_getElem? (i:=6) rfl)),(Qc.2 ⟨(by show Kd.raw.K g s0 (seg (Zq cs 5 ys) 7 1);rw [Zg (by omega) (by omega)];exact hk.2 _ (List.mem_of_getElem? (i:=7) rfl)),(fun _ h=>by cases h)⟩)⟩)⟩)⟩)⟩)⟩)⟩)⟩)⟩
theorem Zbc6 {c:Option Nat} {N j s:Nat} {o:Oper} {uses:Zbd} {x z:Operand} {v:Zh} {y0 y:Nat} {v0:Zh} {t:Nat} (hT:Ty Tryz.prog t Kd.flt) (hop:o.op=.store t x z) (hd:o.dst=none) (hs:Opd uses (.tmp s) (Zbi c Zz j v)) (hx:Opd uses x (Zds Zz j v0 0 Kd.flt y0)) (hz:Opd uses z (Kd.flt.pd y)):OB Tryz.prog N o uses [(s,Zbi c Zz j { v with Score:=y })] [j + 1] :=
 Zfd hT hop hd hs hx hz fun g cs ys hk hy=>by
  have hc:cs.length=2:=hk.1
  have hl:ys.length=1:=Kd.flt.len hy
  exact ⟨by omega,(Zca (by omega)).trans hc,(Qc.2 ⟨(by show Kd.flt.K g y (seg (Zq cs 0 ys) 0 1);rw [Zb3 (by omega) hl];exact hy),(Qc.2 ⟨(by show Kd.str.K g v.Name (seg (Zq cs 0 ys) 1 1);rw [Zg (by omega) (by omega)];exact hk.2 _ (List.mem_of_getElem? (i:=1) rfl)),(fun _ h=>by cases h)⟩)⟩)⟩
theorem Zbcr {c:Option Nat} {N j s:Nat} {o:Oper} {uses:Zbd} {x z:Operand} {v:Zh} {y0 y:ByteArray} {v0:Zh} {t:Nat} (hT:Ty Tryz.prog t Kd.str) (hop:o.op=.store t x z) (hd:o.dst=none) (hs:Opd uses (.tmp s) (Zbi c Zz j v)) (hx:Opd uses x (Zds Zz j v0 1 Kd.str y0)) (hz:Opd uses z (Kd.str.pd y)):OB Tryz.prog N o uses [(s,Zbi c Zz j { v with Name:=y })] [j + 1] :=
 Zfd hT hop hd hs hx hz fun g cs ys hk hy=>by
  have hc:cs.length=2:=hk.1
  have hl:ys.length=1:=Kd.str.len hy
  exact ⟨by omega,(Zca (by omega)).trans hc,(Qc.2 ⟨(by show Kd.flt.K g v.Score (seg (Zq cs 1 ys) 0 1);rw [Zg (by omega) (by omega)];exact hk.2 _ (List.mem_of_getElem? (i:=0) rfl)),(Qc.2 ⟨(by show Kd.str.K g y (seg (Zq cs 1 ys) 1 1);rw [Zb3 (by omega) hl];exact hy),(fun _ h=>by cases h)⟩)⟩)⟩
theorem Zbgr {c:Option Nat} {N j s:Nat} {o:Oper} {uses:Zbd} {x z:Operand} {v:Zs} {y0 y:Int} {v0:Zs} {t:Nat} (hT:Ty Tryz.prog t (Kd.int .i64)) (hop:o.op=.store t x z) (hd:o.dst=none) (hs:Opd uses (.tmp s) (Zbi c Zy j v)) (hx:Opd uses x (Zds Zy j v0 0 (Kd.int .i64) y0)) (hz:Opd uses z ((Kd.int .i64).pd y)):OB Tryz.prog N o uses [(s,Zbi c Zy j { v with Kind:=y })] [j + 1] :=
 Zfd hT hop hd hs hx hz fun g cs ys hk hy=>by
  have hc:cs.length=14:=hk.1
  have hl:ys.length=1:=(Kd.int .i64).len hy
  exact ⟨by omega,(Zca (by omega)).trans hc,(Qc.2 ⟨(by show (Kd.int .i64).K g y (seg (Zq cs 0 ys) 0 1);rw [Zb3 (by omega) hl];exact hy),(Qc.2 ⟨(by show Kd.str.K g v.Key (seg (Zq cs 0 ys) 1 1);rw [Zg (by omega) (by omega)];exact hk.2 _ (List.mem_of_getElem? (i:=1) rfl)),(Qc.2 ⟨(by show (Kd.int .i64).K g v.N (seg (Zq cs 0 ys) 2 1);rw [Zg (by omega) (by omega)];exact hk.2 _ (List.mem_of_getElem? (i:=2) rfl)),(Qc.2 ⟨(by show Kd.flt.K g v.X (seg (Zq cs 0 ys) 3 1);rw [Zg (by omega) (by omega)];exact hk.2 _ (List.mem_of_getElem? (i:=3) rfl)),(Qc.2 ⟨(by show Kd.str.K g v.S (seg (Zq cs 0 ys) 4 1);rw [Zg (by omega) (by omega)];exact hk.2 _ (List.mem_of_getElem? (i:=4) rfl)),(Qc.2 ⟨(by show Zf.K g v.Make (seg (Zq cs 0 ys) 5 8);rw [Zg (by omega) (by omega)];exact hk.2 _ (List.mem_of_getElem? (i:=5) rfl)),(Qc.2 ⟨(by show Kd.bool.K g v.Must (seg (Zq cs 0 ys) 13 1);rw [Zg (by omega) (by omega)];exact hk.2 _ (List.mem_of_getElem? (i:=6) rfl)),(fun _ h=>by cases h)⟩)⟩)⟩)⟩)⟩)⟩)⟩)⟩
theorem Zbkr:Zk Tryz.prog 77:=by
 unfold Zk
 kernel_rfl
theorem Zbe3 {c:Option Nat} {N j s:Nat} {o:Oper} {uses:Zbd} {x z:Operand} {v:Zs} {y0 y:Bool} {v0:Zs} {t:Nat} (hT:Ty Tryz.prog t Kd.bool) (hop:o.op=.store t x z) (hd:o.dst=none) (hs:Opd uses (.tmp s) (Zbi c Zy j v)) (hx:Opd uses x (Zds Zy j v0 13 Kd.bool y0)) (hz:Opd uses z (Kd.bool.pd y)):OB Tryz.prog N o uses [(s,Zbi c Zy j { v with Must:=y })] [j + 1] :=
 Zfd hT hop hd hs hx hz fun g cs ys hk hy=>by
  have hc:cs.length=14:=hk.1
  have hl:ys.length=1:=Kd.bool.len hy
  exact ⟨by omega,(Zca (by omega)).trans hc,(Qc.2 ⟨(by show (Kd.int .i64).K g v.Kind (seg (Zq cs 13 ys) 0 1);rw [Zg (by omega) (by omega)];exact hk.2 _ (List.mem_of_getElem? (i:=0) rfl)),(Qc.2 ⟨(by show Kd.str.K g v.Key (seg (Zq cs 13 ys) 1 1);rw [Zg (by omega) (by omega)];exact hk.2 _ (List.mem_of_getElem? (i:=1) rfl)),(Qc.2 ⟨(by show (Kd.int .i64).K g v.N (seg (Zq cs 13 ys) 2 1);rw [Zg (by omega) (by omega)];exact hk.2 _ (List.mem_of_getElem? (i:=2) rfl)),(Qc.2 ⟨(by show Kd.flt.K g v.X (seg (Zq cs 13 ys) 3 1);rw [Zg (by omega) (by omega)];exact hk.2 _ (List.mem_of_getElem? (i:=3) rfl)),(Qc.2 ⟨(by show Kd.str.K g v.S (seg (Zq cs 13 ys) 4 1);rw [Zg (by omega) (by omega)];exact hk.2 _ (List.mem_of_getElem? (i:=4) rfl)),(Qc.2 ⟨(by show Zf.K g v.Make (seg (Zq cs 13 ys) 5 8);rw [Zg (by omega) (by omega)];exact hk.2 _ (List.mem_of_getElem? (i:=5) rfl)),(Qc.2 ⟨(by show Kd.bool.K g y (seg (Zq cs 13 ys) 13 1);rw [Zb3 (by omega) hl];exact hy),(fun _ h=>by cases h)⟩)⟩)⟩)⟩)⟩)⟩)⟩)⟩
theorem Zbff {c:Option Nat} {N j s:Nat} {o:Oper} {uses:Zbd} {x z:Operand} {v:Zs} {y0 y:ByteArray} {v0:Zs} {t:Nat} (hT:Ty Tryz.prog t Kd.str) (hop:o.op=.store t x z) (hd:o.dst=none) (hs:Opd uses (.tmp s) (Zbi c Zy j v)) (hx:Opd uses x (Zds Zy j v0 1 Kd.str y0)) (hz:Opd uses z (Kd.str.pd y)):OB Tryz.prog N o uses [(s,Zbi c Zy j { v with Key:=y })] [j + 1] :=
 Zfd hT hop hd hs hx hz fun g cs ys hk hy=>by
  have hc:cs.length=14:=hk.1
  have hl:ys.length=1:=Kd.str.len hy
  exact ⟨by omega,(Zca (by omega)).trans hc,(Qc.2 ⟨(by show (Kd.int .i64).K g v.Kind (seg (Zq cs 1 ys) 0 1);rw [Zg (by omega) (by omega)];exact hk.2 _ (List.mem_of_getElem? (i:=0) rfl)),(Qc.2 ⟨(by show Kd.str.K g y (seg (Zq cs 1 ys) 1 1);rw [Zb3 (by omega) hl];exact hy),(Qc.2 ⟨(by show (Kd.int .i64).K g v.N (seg (Zq cs 1 ys) 2 1);rw [Zg (by omega) (by omega)];exact hk.2 _ (List.mem_of_getElem? (i:=2) rfl)),(Qc.2 ⟨(by show Kd.flt.K g v.X (seg (Zq cs 1 ys) 3 1);rw [Zg (by omega) (by omega)];exact hk.2 _ (List.mem_of_getElem? (i:=3) rfl)),(Qc.2 ⟨(by show Kd.str.K g v.S (seg (Zq cs 1 ys) 4 1);rw [Zg (by omega) (by omega)];exact hk.2 _ (List.mem_of_getElem? (i:=4) rfl)),(Qc.2 ⟨(by show Zf.K g v.Make (seg (Zq cs 1 ys) 5 8);rw [Zg (by omega) (by omega)];exact hk.2 _ (List.mem_of_getElem? (i:=5) rfl)),(Qc.2 ⟨(by show Kd.bool.K g v.Must (seg (Zq cs 1 ys) 13 1);rw [Zg (by omega) (by omega)];exact hk.2 _ (List.mem_of_getElem? (i:=6) rfl)),(fun _ h=>by cases h)⟩)⟩)⟩)⟩)⟩)⟩)⟩)⟩
theorem Zbc4 {c:Option Nat} {N j s:Nat} {o:Oper} {uses:Zbd} {x z:Operand} {v:Zs} {y0 y:ByteArray} {v0:Zs} {t:Nat} (hT:Ty Tryz.prog t Kd.str) (hop:o.op=.store t x z) (hd:o.dst=none) (hs:Opd uses (.tmp s) (Zbi c Zy j v)) (hx:Opd uses x (Zds Zy j v0 1 Kd.str y0)) (hz:Opd uses z (Kd.str.pd y)):OB Tryz.prog N o uses [(s,Zbi c Zy j (Z0j v y))] [j + 1]:=Zbff hT hop hd hs hx hz
theorem Zbfz {c:Option Nat} {N j s:Nat} {o:Oper} {uses:Zbd} {x z:Operand} {v:Zs} {y0 y:Int} {v0:Zs} {t:Nat} (hT:Ty Tryz.prog t (Kd.int .i64)) (hop:o.op=.store t x z) (hd:o.dst=none) (hs:Opd uses (.tmp s) (Zbi c Zy j v)) (hx:Opd uses x (Zds Zy j v0 2 (Kd.int .i64) y0)) (hz:Opd uses z ((Kd.int .i64).pd y)):OB Tryz.prog N o uses [(s,Zbi c Zy j { v with N:=y })] [j + 1] :=
 Zfd hT hop hd hs hx hz fun g cs ys hk hy=>by
  have hc:cs.length=14:=hk.1
  have hl:ys.length=1:=(Kd.int .i64).len hy
  exact ⟨by omega,(Zca (by omega)).trans hc,(Qc.2 ⟨(by show (Kd.int .i64).K g v.Kind (seg (Zq cs 2 ys) 0 1);rw [Zg (by omega) (by omega)];exact hk.2 _ (List.mem_of_getElem? (i:=0) rfl)),(Qc.2 ⟨(by show Kd.str.K g v.Key (seg (Zq cs 2 ys) 1 1);rw [Zg (by omega) (by omega)];exact hk.2 _ (List.mem_of_getElem? (i:=1) rfl)),(Qc.2 ⟨(by show (Kd.int .i64).K g y (seg (Zq cs 2 ys) 2 1);rw [Zb3 (by omega) hl];exact hy),(Qc.2 ⟨(by show Kd.flt.K g v.X (seg (Zq cs 2 ys) 3 1);rw [Zg (by omega) (by omega)];exact hk.2 _ (List.mem_of_getElem? (i:=3) rfl)),(Qc.2 ⟨(by show Kd.str.K g v.S (seg (Zq cs 2 ys) 4 1);rw [Zg (by omega) (by omega)];exact hk.2 _ (List.mem_of_getElem? (i:=4) rfl)),(Qc.2 ⟨(by show Zf.K g v.Make (seg (Zq cs 2 ys) 5 8);rw [Zg (by omega) (by omega)];exact hk.2 _ (List.mem_of_getElem? (i:=5) rfl)),(Qc.2 ⟨(by show Kd.bool.K g v.Must (seg (Zq cs 2 ys) 13 1);rw [Zg (by omega) (by omega)];exact hk.2 _ (List.mem_of_getElem? (i:=6) rfl)),(fun _ h=>by cases h)⟩)⟩)⟩)⟩)⟩)⟩)⟩)⟩
theorem Zbb9 {c:Option Nat} {N j s:Nat} {o:Oper} {uses:Zbd} {x z:Operand} {v:Zs} {y0 y:Int} {v0:Zs} {t:Nat} (hT:Ty Tryz.prog t (Kd.int .i64)) (hop:o.op=.store t x z) (hd:o.dst=none) (hs:Opd uses (.tmp s) (Zbi c Zy j v)) (hx:Opd uses x (Zds Zy j v0 2 (Kd.int .i64) y0)) (hz:Opd uses z ((Kd.int .i64).pd y)):OB Tryz.prog N o uses [(s,Zbi c Zy j (Z7o v y))] [j + 1]:=Zbfz hT hop hd hs hx hz
theorem Zbga {c:Option Nat} {N j s:Nat} {o:Oper} {uses:Zbd} {x z:Operand} {v:Zs} {y0 y:Nat} {v0:Zs} {t:Nat} (hT:Ty Tryz.prog t Kd.flt) (hop:o.op=.store t x z) (hd:o.dst=none) (hs:Opd uses (.tmp s) (Zbi c Zy j v)) (hx:Opd uses x (Zds Zy j v0 3 Kd.flt y0)) (hz:Opd uses z (Kd.flt.pd y)):OB Tryz.prog N o uses [(s,Zbi c Zy j { v with X:=y })] [j + 1] :=
 Zfd hT hop hd hs hx hz fun g cs ys hk hy=>by
  have hc:cs.length=14:=hk.1
  have hl:ys.length=1:=Kd.flt.len hy
  exact ⟨by omega,(Zca (by omega)).trans hc,(Qc.2 ⟨(by show (Kd.int .i64).K g v.Kind (seg (Zq cs 3 ys) 0 1);rw [Zg (by omega) (by omega)];exact hk.2 _ (List.mem_of_getElem? (i:=0) rfl)),(Qc.2 ⟨(by show Kd.str.K g v.Key (seg (Zq cs 3 ys) 1 1);rw [Zg (by omega) (by omega)];exact hk.2 _ (List.mem_of_getElem? (i:=1) rfl)),(Qc.2 ⟨(by show (Kd.int .i64).K g v.N (seg (Zq cs 3 ys) 2 1);rw [Zg (by omega) (by omega)];exact hk.2 _ (List.mem_of_getElem? (i:=2) rfl)),(Qc.2 ⟨(by show Kd.flt.K g y (seg (Zq cs 3 ys) 3 1);rw [Zb3 (by omega) hl];exact hy),(Qc.2 ⟨(by show Kd.str.K g v.S (seg (Zq cs 3 ys) 4 1);rw [Zg (by omega) (by omega)];exact hk.2 _ (List.mem_of_getElem? (i:=4) rfl)),(Qc.2 ⟨(by show Zf.K g v.Make (seg (Zq cs 3 ys) 5 8);rw [Zg (by omega) (by omega)];exact hk.2 _ (List.mem_of_getElem? (i:=5) rfl)),(Qc.2 ⟨(by show Kd.bool.K g v.Must (seg (Zq cs 3 ys) 13 1);rw [Zg (by omega) (by omega)];exact hk.2 _ (List.mem_of_getElem? (i:=6) rfl)),(fun _ h=>by cases h)⟩)⟩)⟩)⟩)⟩)⟩)⟩)⟩
theorem Zbgj {c:Option Nat} {N j s:Nat} {o:Oper} {uses:Zbd} {x z:Operand} {v:Zs} {y0 y:ByteArray} {v0:Zs} {t:Nat} (hT:Ty Tryz.prog t Kd.str) (hop:o.op=.store t x z) (hd:o.dst=none) (hs:Opd uses (.tmp s) (Zbi c Zy j v)) (hx:Opd uses x (Zds Zy j v0 4 Kd.str y0)) (hz:Opd uses z (Kd.str.pd y)):OB Tryz.prog N o uses [(s,Zbi c Zy j { v with S:=y })] [j + 1] :=
 Zfd hT hop hd hs hx hz fun g cs ys hk hy=>by
  have hc:cs.length=14:=hk.1
  have hl:ys.length=1:=Kd.str.len hy
  exact ⟨by omega,(Zca (by omega)).trans hc,(Qc.2 ⟨(by show (Kd.int .i64).K g v.Kind (seg (Zq cs 4 ys) 0 1);rw [Zg (by omega) (by omega)];exact hk.2 _ (List.mem_of_getElem? (i:=0) rfl)),(Qc.2 ⟨(by show Kd.str.K g v.Key (seg (Zq cs 4 ys) 1 1);rw [Zg (by omega) (by omega)];exact hk.2 _ (List.mem_of_getElem? (i:=1) rfl)),(Qc.2 ⟨(by show (Kd.int .i64).K g v.N (seg (Zq cs 4 ys) 2 1);rw [Zg (by omega) (by omega)];exact hk.2 _ (List.mem_of_getElem? (i:=2) rfl)),(Qc.2 ⟨(by show Kd.flt.K g v.X (seg (Zq cs 4 ys) 3 1);rw [Zg (by omega) (by omega)];exact hk.2 _ (List.mem_of_getElem? (i:=3) rfl)),(Qc.2 ⟨(by show Kd.str.K g y (seg (Zq cs 4 ys) 4 1);rw [Zb3 (by omega) hl];exact hy),(Qc.2 ⟨(by show Zf.K g v.Make (seg (Zq cs 4 ys) 5 8);rw [Zg (by omega) (by omega)];exact hk.2 _ (List.mem_of_getElem? (i:=5) rfl)),(Qc.2 ⟨(by show Kd.bool.K g v.Must (seg (Zq cs 4 ys) 13 1);rw [Zg (by omega) (by omega)];exact hk.2 _ (List.mem_of_getElem? (i:=6) rfl)),(fun _ h=>by cases h)⟩)⟩)⟩)⟩)⟩)⟩)⟩)⟩
theorem Zbj5:Zk Tryz.prog 82:=by
 unfold Zk
 kernel_rfl
theorem Zbfk {c:Option Nat} {N j s:Nat} {o:Oper} {uses:Zbd} {x z:Operand} {v:Zs} {y0 y:Zb} {v0:Zs} {t:Nat} (hT:Ty Tryz.prog t Zf) (hop:o.op=.store t x z) (hd:o.dst=none) (hs:Opd uses (.tmp s) (Zbi c Zy j v)) (hx:Opd uses x (Zds Zy j v0 5 Zf y0)) (hz:Opd uses z (Zf.pd y)):OB Tryz.prog N o uses [(s,Zbi c Zy j { v with Make:=y })] [j + 1] :=
 Zfd hT hop hd hs hx hz fun g cs ys hk hy=>by
  have hc:cs.length=14:=hk.1
  have hl:ys.length=8:=Zf.len hy
  exact ⟨by omega,(Zca (by omega)).trans hc,(Qc.2 ⟨(by show (Kd.int .i64).K g v.Kind (seg (Zq cs 5 ys) 0 1);rw [Zg (by omega) (by omega)];exact hk.2 _ (List.mem_of_getElem? (i:=0) rfl)),(Qc.2 ⟨(by show Kd.str.K g v.Key (seg (Zq cs 5 ys) 1 1);rw [Zg (by omega) (by omega)];exact hk.2 _ (List.mem_of_getElem? (i:=1) rfl)),(Qc.2 ⟨(by show (Kd.int .i64).K g v.N (seg (Zq cs 5 ys) 2 1);rw [Zg (by omega) (by omega)];exact hk.2 _ (List.mem_of_getElem? (i:=2) rfl)),(Qc.2 ⟨(by show Kd.flt.K g v.X (seg (Zq cs 5 ys) 3 1);rw [Zg (by omega) (by omega)];exact hk.2 _ (List.mem_of_getElem? (i:=3) rfl)),(Qc.2 ⟨(by show Kd.str.K g v.S (seg (Zq cs 5 ys) 4 1);rw [Zg (by omega) (by omega)];exact hk.2 _ (List.mem_of_getElem? (i:=4) rfl)),(Qc.2 ⟨(by show Zf.K g y (seg (Zq cs 5 ys) 5 8);rw [Zb3 (by omega) hl];exact hy),(Qc.2 ⟨(by show Kd.bool.K g v.Must (seg (Zq cs 5 ys) 13 1);rw [Zg (by omega) (by omega)];exact hk.2 _ (List.mem_of_getElem? (i:=6) rfl)),(fun _ h=>by cases h)⟩)⟩)⟩)⟩)⟩)⟩)⟩)⟩
theorem Zbjs:Zk Tryz.prog 50:=by
 unfold Zk
 kernel_rfl
structure Zks where
 Number:Int
 Deals:SlV
def Z4d:List (Kd.FK Zks):=[⟨_,(Kd.int .i64),0,fun x:Zks=>x.Number⟩,
 ⟨_,Kd.raw,1,fun x:Zks=>x.Deals⟩]
def Zec:Kd Zks:=Kd.struct 2 Z4d (by rfl)
def Zei (x:Zbk) (s:SlV):Zks:=⟨x.Number,s⟩
theorem Z41:∀ g,Zec.K g (Zei ((default:Zbk)) (none,0,0)) [.int .i64 0,.slice none 0 0]:=fun g=>⟨rfl,(Qc.2 ⟨(rfl),(Qc.2 ⟨rfl,(fun _ h=>by cases h)⟩)⟩)⟩
theorem Zvd {x:Zbk} {e j:Nat}:∀ (g:G) (s:SlV) (cs:List Value),Zec.K g (Zei x s) cs → (hpL (pRow Zbb e j x.Deals)).p g s → Zcs.K g x cs:=fun g s cs h hr=>⟨h.1,(Qc.2 ⟨(h.2 _ (List.mem_of_getElem? (i:=0) rfl)),(Qc.2 ⟨(Zvj (h.2 _ (List.mem_of_getElem? (i:=1) rfl)) hr.1),(fun _ h=>by cases h)⟩)⟩)⟩
theorem Z55 {x:Zbk} {g:G} {cs ys:List Value} {s0 s1:SlV} (hk:Zec.K g (Zei x s0) cs) (hy:Kd.raw.K g s1 ys):1 + ys.length ≤ cs.length ∧ Zec.K g (Zei x s1) (Zq cs 1 ys):=by
 have hc:cs.length=2:=hk.1
 have hl:ys.length=1:=Kd.raw.len hy
 exact ⟨by omega,(Zca (by omega)).trans hc,(Qc.2 ⟨(by show (Kd.int .i64).K g x.Number (seg (Zq cs 1 ys) 0 1);rw [Zg (by omega) (by omega)];exact hk.2 _ (List.mem_of_getElem? (i:=0) rfl)),(Qc.2 ⟨(by show Kd.raw.K g s1 (seg (Zq cs 1 ys) 1 1);rw [Zb3 (by omega) hl];exact hy),(fun _ h=>by cases h)⟩)⟩)⟩
theorem Z39:Fld Tryz.prog 28 0 Zec (Kd.int .i64) (fun x:Zks=>x.Number):=Fld.of ⟨_,(Kd.int .i64),0,fun x:Zks=>x.Number⟩ (List.mem_of_getElem? (i:=0) rfl) 0 rfl (by kernel_rfl) (by decide)
theorem Z5c:Fld Tryz.prog 28 1 Zec Kd.raw (fun x:Zks=>x.Deals):=Fld.of ⟨_,Kd.raw,1,fun x:Zks=>x.Deals⟩ (List.mem_of_getElem? (i:=1) rfl) 1 rfl (by kernel_rfl) (by decide)
theorem Zbaw:Ty Tryz.prog 23 Kd.raw:=⟨by kernel_rfl,by kernel_rfl⟩
theorem Z7f:Fld Tryz.prog 42 0 Zc9 (Kd.int .i64) (fun x:Zcz=>x.Code):=Fld.of ⟨_,(Kd.int .i64),0,fun x:Zcz=>x.Code⟩ (List.mem_of_getElem? (i:=0) rfl) 0 rfl (by kernel_rfl) (by decide)
theorem Zpk:Ty Tryz.prog 24 (Kd.int .i64):=⟨by kernel_rfl,by kernel_rfl⟩
theorem Zbjf:Zk Tryz.prog 24:=by
 unfold Zk
 kernel_rfl
theorem Zbkt:Zk Tryz.prog 25:=by
 unfold Zk
 kernel_rfl
theorem Z0y {x:Zbk} {g:G} {cs ys:List Value} {s0:SlV} {u:Int} (hk:Zec.K g (Zei x s0) cs) (hy:(Kd.int .i64).K g u ys):0 + ys.length ≤ cs.length ∧ Zec.K g (Zei { x with Number:=u } s0) (Zq cs 0 ys):=by
 have hc:cs.length=2:=hk.1
 have hl:ys.length=1:=(Kd.int .i64).len hy
 exact ⟨by omega,(Zca (by omega)).trans hc,(Qc.2 ⟨(by show (Kd.int .i64).K g u (seg (Zq cs 0 ys) 0 1);rw [Zb3 (by omega) hl];exact hy),(Qc.2 ⟨(by show Kd.raw.K g s0 (seg (Zq cs 0 ys) 1 1);rw [Zg (by omega) (by omega)];exact hk.2 _ (List.mem_of_getElem? (i:=1) rfl)),(fun _ h=>by cases h)⟩)⟩)⟩
theorem Zbjv:Zk Tryz.prog 28:=by
 unfold Zk
 kernel_rfl
theorem Zbj9:Zk Tryz.prog 29:=by
 unfold Zk
 kernel_rfl
theorem Zbka:Zk Tryz.prog 23:=by
 unfold Zk
 kernel_rfl
theorem Zbel:Zk Tryz.prog 84:=by
 unfold Zk
 kernel_rfl
theorem Zbkj:Zk Tryz.prog 52:=by
 unfold Zk
 kernel_rfl
theorem Zbkp:Zk Tryz.prog 30:=by
 unfold Zk
 kernel_rfl
theorem Z7x {c:Option Nat} {N j s:Nat} {o:Oper} {uses:Zbd} {x z:Operand} {v:Zb} {y0 y:ByteArray} {v0:Zb} {t:Nat} (hT:Ty Tryz.prog t Kd.str) (hop:o.op=.store t x z) (hd:o.dst=none) (hs:Opd uses (.tmp s) (Zbi c Zf j v)) (hx:Opd uses x (Zds Zf j v0 6 Kd.str y0)) (hz:Opd uses z (Kd.str.pd y)):OB Tryz.prog N o uses [(s,Zbi c Zf j { v with Text:=y })] [j + 1] :=
 Zfd hT hop hd hs hx hz fun g cs ys hk hy=>by
  have hc:cs.length=8:=hk.1
  have hl:ys.length=1:=Kd.str.len hy
  exact ⟨by omega,(Zca (by omega)).trans hc,(Qc.2 ⟨(by show (Kd.int .i64).K g v.Kind (seg (Zq cs 6 ys) 0 1);rw [Zg (by omega) (by omega)];exact hk.2 _ (List.mem_of_getElem? (i:=0) rfl)),(Qc.2 ⟨(by show (Kd.int .i64).K g v.Num (seg (Zq cs 6 ys) 1 1);rw [Zg (by omega) (by omega)];exact hk.2 _ (List.mem_of_getElem? (i:=1) rfl)),(Qc.2 ⟨(by show (Kd.int .i64).K g v.Low (seg (Zq cs 6 ys) 2 1);rw [Zg (by omega) (by omega)];exact hk.2 _ (List.mem_of_getElem? (i:=2) rfl)),(Qc.2 ⟨(by show (Kd.int .i64).K g v.High (seg (Zq cs 6 ys) 3 1);rw [Zg (by omega) (by omega)];exact hk.2 _ (List.mem_of_getElem? (i:=3) rfl)),(Qc.2 ⟨(by show Kd.flt.K g v.Real (seg (Zq cs 6 ys) 4 1);rw [Zg (by omega) (by omega)];exact hk.2 _ (List.mem_of_getElem? (i:=4) rfl)),(Qc.2 ⟨(by show (Kd.int .i64).K g v.Cap (seg (Zq cs 6 ys) 5 1);rw [Zg (by omega) (by omega)];exact hk.2 _ (List.mem_of_getElem? (i:=5) rfl)),(Qc.2 ⟨(by show Kd.str.K g y (seg (Zq cs 6 ys) 6 1);rw [Zb3 (by omega) hl];exact hy),(Qc.2 ⟨(by show Zz.sl.K g v.List (seg (Zq cs 6 ys) 7 1);rw [Zg (by omega) (by omega)];exact hk.2 _ (List.mem_of_getElem? (i:=7) rfl)),(fun _ h=>by cases h)⟩)⟩)⟩)⟩)⟩)⟩)⟩)⟩)⟩
theorem Zyg:Fld Tryz.prog 118 2 Z3 Zf (fun x:Zj=>x.Rec):=Fld.of ⟨_,Zf,2,fun x:Zj=>x.Rec⟩ (List.mem_of_getElem? (i:=2) rfl) 2 rfl (by kernel_rfl) (by decide)
theorem Zbcp {c:Option Nat} {N j s:Nat} {o:Oper} {uses:Zbd} {x z:Operand} {v:Zj} {y0 y:Zb} {v0:Zj} {t:Nat} (hT:Ty Tryz.prog t Zf) (hop:o.op=.store t x z) (hd:o.dst=none) (hs:Opd uses (.tmp s) (Zbi c Z3 j v)) (hx:Opd uses x (Zds Z3 j v0 2 Zf y0)) (hz:Opd uses z (Zf.pd y)):OB Tryz.prog N o uses [(s,Zbi c Z3 j { v with Rec:=y })] [j + 1] :=
 Zfd hT hop hd hs hx hz fun g cs ys hk hy=>by
  have hc:cs.length=10:=hk.1
  have hl:ys.length=8:=Zf.len hy
  exact ⟨by omega,(Zca (by omega)).trans hc,(Qc.2 ⟨(by show (Kd.int .i64).K g v.Code (seg (Zq cs 2 ys) 0 1);rw [Zg (by omega) (by omega)];exact hk.2 _ (List.mem_of_getElem? (i:=0) rfl)),(Qc.2 ⟨(by show (Kd.int .i64).K g v.Num (seg (Zq cs 2 ys) 1 1);rw [Zg (by omega) (by omega)];exact hk.2 _ (List.mem_of_getElem? (i:=1) rfl)),(Qc.2 ⟨(by show Zf.K g y (seg (Zq cs 2 ys) 2 8);rw [Zb3 (by omega) hl];exact hy),(fun _ h=>by cases h)⟩)⟩)⟩)⟩
theorem Zwe {c:Option Nat} {N j s:Nat} {o:Oper} {uses:Zbd} {x z:Operand} {v:Zb} {y0 y:Int} {v0:Zb} {t:Nat} (hT:Ty Tryz.prog t (Kd.int .i64)) (hop:o.op=.store t x z) (hd:o.dst=none) (hs:Opd uses (.tmp s) (Zbi c Zf j v)) (hx:Opd uses x (Zds Zf j v0 1 (Kd.int .i64) y0)) (hz:Opd uses z ((Kd.int .i64).pd y)):OB Tryz.prog N o uses [(s,Zbi c Zf j { v with Num:=y })] [j + 1] :=
 Zfd hT hop hd hs hx hz fun g cs ys hk hy=>by
  have hc:cs.length=8:=hk.1
  have hl:ys.length=1:=(Kd.int .i64).len hy
  exact ⟨by omega,(Zca (by omega)).trans hc,(Qc.2 ⟨(by show (Kd.int .i64).K g v.Kind (seg (Zq cs 1 ys) 0 1);rw [Zg (by omega) (by omega)];exact hk.2 _ (List.mem_of_getElem? (i:=0) rfl)),(Qc.2 ⟨(by show (Kd.int .i64).K g y (seg (Zq cs 1 ys) 1 1);rw [Zb3 (by omega) hl];exact hy),(Qc.2 ⟨(by show (Kd.int .i64).K g v.Low (seg (Zq cs 1 ys) 2 1);rw [Zg (by omega) (by omega)];exact hk.2 _ (List.mem_of_getElem? (i:=2) rfl)),(Qc.2 ⟨(by show (Kd.int .i64).K g v.High (seg (Zq cs 1 ys) 3 1);rw [Zg (by omega) (by omega)];exact hk.2 _ (List.mem_of_getElem? (i:=3) rfl)),(Qc.2 ⟨(by show Kd.flt.K g v.Real (seg (Zq cs 1 ys) 4 1);rw [Zg (by omega) (by omega)];exact hk.2 _ (List.mem_of_getElem? (i:=4) rfl)),(Qc.2 ⟨(by show (Kd.int .i64).K g v.Cap (seg (Zq cs 1 ys) 5 1);rw [Zg (by omega) (by omega)];exact hk.2 _ (List.mem_of_getElem? (i:=5) rfl)),(Qc.2 ⟨(by show Kd.str.K g v.Text (seg (Zq cs 1 ys) 6 1);rw [Zg (by omega) (by omega)];exact hk.2 _ (List.mem_of_getElem? (i:=6) rfl)),(Qc.2 ⟨(by show Zz.sl.K g v.List (seg (Zq cs 1 ys) 7 1);rw [Zg (by omega) (by omega)];exact hk.2 _ (List.mem_of_getElem? (i:=7) rfl)),(fun _ h=>by cases h)⟩)⟩)⟩)⟩)⟩)⟩)⟩)⟩)⟩
theorem Zbfv {c:Option Nat} {N j s:Nat} {o:Oper} {uses:Zbd} {x z:Operand} {v:Zb} {y0 y:Nat} {v0:Zb} {t:Nat} (hT:Ty Tryz.prog t Kd.flt) (hop:o.op=.store t x z) (hd:o.dst=none) (hs:Opd uses (.tmp s) (Zbi c Zf j v)) (hx:Opd uses x (Zds Zf j v0 4 Kd.flt y0)) (hz:Opd uses z (Kd.flt.pd y)):OB Tryz.prog N o uses [(s,Zbi c Zf j { v with Real:=y })] [j + 1] :=
 Zfd hT hop hd hs hx hz fun g cs ys hk hy=>by
  have hc:cs.length=8:=hk.1
  have hl:ys.length=1:=Kd.flt.len hy
  exact ⟨by omega,(Zca (by omega)).trans hc,(Qc.2 ⟨(by show (Kd.int .i64).K g v.Kind (seg (Zq cs 4 ys) 0 1);rw [Zg (by omega) (by omega)];exact hk.2 _ (List.mem_of_getElem? (i:=0) rfl)),(Qc.2 ⟨(by show (Kd.int .i64).K g v.Num (seg (Zq cs 4 ys) 1 1);rw [Zg (by omega) (by omega)];exact hk.2 _ (List.mem_of_getElem? (i:=1) rfl)),(Qc.2 ⟨(by show (Kd.int .i64).K g v.Low (seg (Zq cs 4 ys) 2 1);rw [Zg (by omega) (by omega)];exact hk.2 _ (List.mem_of_getElem? (i:=2) rfl)),(Qc.2 ⟨(by show (Kd.int .i64).K g v.High (seg (Zq cs 4 ys) 3 1);rw [Zg (by omega) (by omega)];exact hk.2 _ (List.mem_of_getElem? (i:=3) rfl)),(Qc.2 ⟨(by show Kd.flt.K g y (seg (Zq cs 4 ys) 4 1);rw [Zb3 (by omega) hl];exact hy),(Qc.2 ⟨(by show (Kd.int .i64).K g v.Cap (seg (Zq cs 4 ys) 5 1);rw [Zg (by omega) (by omega)];exact hk.2 _ (List.mem_of_getElem? (i:=5) rfl)),(Qc.2 ⟨(by show Kd.str.K g v.Text (seg (Zq cs 4 ys) 6 1);rw [Zg (by omega) (by omega)];exact hk.2 _ (List.mem_of_getElem? (i:=6) rfl)),(Qc.2 ⟨(by show Zz.sl.K g v.List (seg (Zq cs 4 ys) 7 1);rw [Zg (by omega) (by omega)];exact hk.2 _ (List.mem_of_getElem? (i:=7) rfl)),(fun _ h=>by cases h)⟩)⟩)⟩)⟩)⟩)⟩)⟩)⟩)⟩
theorem Zvb:Zk Tryz.prog 131:=by
 unfold Zk
 kernel_rfl
theorem Zbgh:Ty Tryz.prog 179 Kd.fnc:=⟨by kernel_rfl,by kernel_rfl⟩
theorem Zbh4:Zk Tryz.prog 134:=by
 unfold Zk
 kernel_rfl
theorem Zbh6:Zk Tryz.prog 133:=by
 unfold Zk
 kernel_rfl
theorem Zbhu:Ext Tryz.prog 135 (Extern.SlicesOverlaps.overlaps #[60,60] #[4]):=⟨_,Tryz.func135,rfl,rfl,by kernel_rfl,by kernel_rfl⟩
theorem Z47:Zk Tryz.prog 126:=by
 unfold Zk
 kernel_rfl
theorem Zbdl {N d:Nat} {o:Oper} {uses:Zbd} {x1:Operand} {v1:ByteArray} (hop:o.op=.build 100 #[(1,x1)]) (hd:o.dst=some d) (h1:Opd uses x1 (Kd.str.pd v1)):OB Tryz.prog N o uses [(d,Zz.pd { Score:=(0:Nat),Name:=v1 })] []:=by
 refine Zdp hop hd fun a g hh=>?_
 obtain ⟨c1,k1,e1⟩:=h1 a g hh
 obtain rfl:=k1
 refine ⟨.agg #[.float .f64 0,.string v1],?_,[.float .f64 0,.string v1],⟨rfl,(Qc.2 ⟨(rfl),(Qc.2 ⟨rfl,(fun _ h=>by cases h)⟩)⟩)⟩,rfl⟩
 simp only [List.map_toArray,List.map_cons,List.map_nil,e1]
 exact Zc8 Tryz.underlying100 (zero:=.agg #[.float .f64 0,.string ByteArray.empty]) (by kernel_rfl) (places:=[(0,1),(1,1)]) (by kernel_rfl) (by kernel_rfl) g.w
theorem Zba9:Zk Tryz.prog 132:=by
 unfold Zk
 kernel_rfl
theorem Zbh0:Zk Tryz.prog 127:=by
 unfold Zk
 kernel_rfl
theorem Z8b {N d:Nat} {o:Oper} {uses:Zbd} {x0:Operand} {x1:Operand} {v0:Nat} {v1:ByteArray} (hop:o.op=.build 100 #[(0,x0),(1,x1)]) (hd:o.dst=some d) (h0:Opd uses x0 (Kd.flt.pd v0)) (h1:Opd uses x1 (Kd.str.pd v1)):OB Tryz.prog N o uses [(d,Zz.pd { Score:=v0,Name:=v1 })] []:=by
 refine Zdp hop hd fun a g hh=>?_
 obtain ⟨c0,k0,e0⟩:=h0 a g hh
 obtain rfl:=k0
 obtain ⟨c1,k1,e1⟩:=h1 a g hh
 obtain rfl:=k1
 refine ⟨.agg #[.float .f64 v0,.string v1],?_,[.float .f64 v0,.string v1],⟨rfl,(Qc.2 ⟨rfl,(Qc.2 ⟨rfl,(fun _ h=>by cases h)⟩)⟩)⟩,rfl⟩
 simp only [List.map_toArray,List.map_cons,List.map_nil,e0,e1]
 exact Zc8 Tryz.underlying100 (zero:=.agg #[.float .f64 0,.string ByteArray.empty]) (by kernel_rfl) (places:=[(0,1),(1,1)]) (by kernel_rfl) (by kernel_rfl) g.w
theorem Zbhv:Zk Tryz.prog 111:=by
 unfold Zk
 kernel_rfl
theorem Zbic:Zk Tryz.prog 112:=by
 unfold Zk
 kernel_rfl
theorem Zbik:Zk Tryz.prog 113:=by
 unfold Zk
 kernel_rfl
theorem Zbh2:Zk Tryz.prog 114:=by
 unfold Zk
 kernel_rfl
theorem Zbbv:Zk Tryz.prog 115:=by
 unfold Zk
 kernel_rfl
theorem Zbh3:Zk Tryz.prog 116:=by
 unfold Zk
 kernel_rfl
theorem Zbhs:Zk Tryz.prog 117:=by
 unfold Zk
 kernel_rfl
theorem Zbim:Zk Tryz.prog 119:=by
 unfold Zk
 kernel_rfl
theorem Zbg9:Zk Tryz.prog 120:=by
 unfold Zk
 kernel_rfl
theorem Zbho:Zk Tryz.prog 121:=by
 unfold Zk
 kernel_rfl
theorem Zbix:Zk Tryz.prog 122:=by
 unfold Zk
 kernel_rfl
theorem Zbij:Zk Tryz.prog 123:=by
 unfold Zk
 kernel_rfl
theorem Zbiv:Zk Tryz.prog 124:=by
 unfold Zk
 kernel_rfl
theorem Zbh9:Zk Tryz.prog 125:=by
 unfold Zk
 kernel_rfl
theorem Zbhy:Zk Tryz.prog 128:=by
 unfold Zk
 kernel_rfl
theorem Zbhx:Zk Tryz.prog 129:=by
 unfold Zk
 kernel_rfl
theorem Zvt:Zk Tryz.prog 118:=by
 unfold Zk
 kernel_rfl
theorem Zx1 {N d:Nat} {o:Oper} {uses:Zbd} {x0:Operand} {v0:Int} (hop:o.op=.build 118 #[(0,x0)]) (hd:o.dst=some d) (h0:Opd uses x0 ((Kd.int .i64).pd v0)):OB Tryz.prog N o uses [(d,Z3.pd { Code:=v0,Num:=(0:Int),Rec:=(default:Zb) })] []:=by
 refine Zdp hop hd fun a g hh=>?_
 obtain ⟨c0,k0,e0⟩:=h0 a g hh
 obtain rfl:=k0
 refine ⟨.agg #[.int .i64 v0,.int .i64 0,.int .i64 0,.int .i64 0,.int .i64 0,.int .i64 0,.float .f64 0,.int .i64 0,.string ByteArray.empty,.slice none 0 0],?_,[.int .i64 v0,.int .i64 0,.int .i64 0,.int .i64 0,.int .i64 0,.int .i64 0,.float .f64 0,.int .i64 0,.string ByteArray.empty,.slice none 0 0],⟨rfl,(Qc.2 ⟨rfl,(Qc.2 ⟨(rfl),(Qc.2 ⟨(Zc4 _),(fun _ h=>by cases h)⟩)⟩)⟩)⟩,rfl⟩
 simp only [List.map_toArray,List.map_cons,List.map_nil,e0]
 exact Zc8 Tryz.underlying118 (zero:=.agg #[.int .i64 0,.int .i64 0,.int .i64 0,.int .i64 0,.int .i64 0,.int .i64 0,.float .f64 0,.int .i64 0,.string ByteArray.empty,.slice none 0 0]) (by kernel_rfl) (places:=[(0,1),(1,1),(2,8)]) (by kernel_rfl) (by kernel_rfl) g.w
theorem Zcw:Ty Tryz.prog 118 Z3:=⟨by kernel_rfl,by kernel_rfl⟩
theorem Zu5:Zk Tryz.prog 103:=by
 unfold Zk
 kernel_rfl
theorem Z63 {N d:Nat} {o:Oper} {uses:Zbd}   (hop:o.op=.build 118 #[]) (hd:o.dst=some d) :OB Tryz.prog N o uses [(d,Z3.pd { Code:=(0:Int),Num:=(0:Int),Rec:=(default:Zb) })] []:=by
 refine Zdp hop hd fun a g hh=>?_
 refine ⟨.agg #[.int .i64 0,.int .i64 0,.int .i64 0,.int .i64 0,.int .i64 0,.int .i64 0,.float .f64 0,.int .i64 0,.string ByteArray.empty,.slice none 0 0],?_,[.int .i64 0,.int .i64 0,.int .i64 0,.int .i64 0,.int .i64 0,.int .i64 0,.float .f64 0,.int .i64 0,.string ByteArray.empty,.slice none 0 0],⟨rfl,(Qc.2 ⟨(rfl),(Qc.2 ⟨(rfl),(Qc.2 ⟨(Zc4 _),(fun _ h=>by cases h)⟩)⟩)⟩)⟩,rfl⟩
 simp only [List.map_toArray,List.map_cons,List.map_nil,List.map_nil]
 exact Zc8 Tryz.underlying118 (zero:=.agg #[.int .i64 0,.int .i64 0,.int .i64 0,.int .i64 0,.int .i64 0,.int .i64 0,.float .f64 0,.int .i64 0,.string ByteArray.empty,.slice none 0 0]) (by kernel_rfl) (places:=[(0,1),(1,1),(2,8)]) (by kernel_rfl) (by kernel_rfl) g.w
theorem Zbc2 {N d:Nat} {o:Oper} {uses:Zbd} {x1:Operand} {v1:Int} (hop:o.op=.build 118 #[(1,x1)]) (hd:o.dst=some d) (h1:Opd uses x1 ((Kd.int .i64).pd v1)):OB Tryz.prog N o uses [(d,Z3.pd { Code:=(0:Int),Num:=v1,Rec:=(default:Zb) })] []:=by
 refine Zdp hop hd fun a g hh=>?_
 obtain ⟨c1,k1,e1⟩:=h1 a g hh
 obtain rfl:=k1
 refine ⟨.agg #[.int .i64 0,.int .i64 v1,.int .i64 0,.int .i64 0,.int .i64 0,.int .i64 0,.float .f64 0,.int .i64 0,.string ByteArray.empty,.slice none 0 0],?_,[.int .i64 0,.int .i64 v1,.int .i64 0,.int .i64 0,.int .i64 0,.int .i64 0,.float .f64 0,.int .i64 0,.string ByteArray.empty,.slice none 0 0],⟨rfl,(Qc.2 ⟨(rfl),(Qc.2 ⟨rfl,(Qc.2 ⟨(Zc4 _),(fun _ h=>by cases h)⟩)⟩)⟩)⟩,rfl⟩
 simp only [List.map_toArray,List.map_cons,List.map_nil,e1]
 exact Zc8 Tryz.underlying118 (zero:=.agg #[.int .i64 0,.int .i64 0,.int .i64 0,.int .i64 0,.int .i64 0,.int .i64 0,.float .f64 0,.int .i64 0,.string ByteArray.empty,.slice none 0 0]) (by kernel_rfl) (places:=[(0,1),(1,1),(2,8)]) (by kernel_rfl) (by kernel_rfl) g.w
theorem Zbcn {N d:Nat} {o:Oper} {uses:Zbd} {x2:Operand} {v2:Zb} (hop:o.op=.build 118 #[(2,x2)]) (hd:o.dst=some d) (h2:Opd uses x2 (Zf.pd v2)):OB Tryz.prog N o uses [(d,Z3.pd { Code:=(0:Int),Num:=(0:Int),Rec:=v2 })] []:=by
 refine Zdp hop hd fun a g hh=>?_
 obtain ⟨c2,k2,e2⟩:=h2 a g hh
 obtain ⟨u2_0,u2_1,u2_2,u2_3,u2_4,u2_5,u2_6,u2_7,rfl⟩:=Z8c (Zf.len k2)
 refine ⟨.agg #[.int .i64 0,.int .i64 0,u2_0,u2_1,u2_2,u2_3,u2_4,u2_5,u2_6,u2_7],?_,[.int .i64 0,.int .i64 0,u2_0,u2_1,u2_2,u2_3,u2_4,u2_5,u2_6,u2_7],⟨rfl,(Qc.2 ⟨(rfl),(Qc.2 ⟨(rfl),(Qc.2 ⟨k2,(fun _ h=>by cases h)⟩)⟩)⟩)⟩,rfl⟩
 simp only [List.map_toArray,List.map_cons,List.map_nil,e2]
 exact Zc8 Tryz.underlying118 (zero:=.agg #[.int .i64 0,.int .i64 0,.int .i64 0,.int .i64 0,.int .i64 0,.int .i64 0,.float .f64 0,.int .i64 0,.string ByteArray.empty,.slice none 0 0]) (by kernel_rfl) (places:=[(0,1),(1,1),(2,8)]) (by kernel_rfl) (by kernel_rfl) g.w
theorem Zbh1:Zk Tryz.prog 104:=by
 unfold Zk
 kernel_rfl
theorem Zbgz:Zk Tryz.prog 105:=by
 unfold Zk
 kernel_rfl
theorem Zzh:Zk Tryz.prog 106:=by
 unfold Zk
 kernel_rfl
theorem Zbgy:Zk Tryz.prog 130:=by
 unfold Zk
 kernel_rfl
theorem Zbkq:Zk Tryz.prog 85:=by
 unfold Zk
 kernel_rfl
theorem Zqd:Fld Tryz.prog 118 0 Z3 (Kd.int .i64) (fun x:Zj=>x.Code):=Fld.of ⟨_,(Kd.int .i64),0,fun x:Zj=>x.Code⟩ (List.mem_of_getElem? (i:=0) rfl) 0 rfl (by kernel_rfl) (by decide)
theorem Zbki:Zk Tryz.prog 86:=by
 unfold Zk
 kernel_rfl
theorem Zbi6:Zk Tryz.prog 87:=by
 unfold Zk
 kernel_rfl
theorem Z8f {N d:Nat} {o:Oper} {uses:Zbd} {x0:Operand} {x1:Operand} {v0:Int} {v1:Int} (hop:o.op=.build 116 #[(0,x0),(1,x1)]) (hd:o.dst=some d) (h0:Opd uses x0 ((Kd.int .i64).pd v0)) (h1:Opd uses x1 ((Kd.int .i64).pd v1)):OB Tryz.prog N o uses [(d,Zgm.pd { code:=v0,at_:=v1 })] []:=by
 refine Zdp hop hd fun a g hh=>?_
 obtain ⟨c0,k0,e0⟩:=h0 a g hh
 obtain rfl:=k0
 obtain ⟨c1,k1,e1⟩:=h1 a g hh
 obtain rfl:=k1
 refine ⟨.agg #[.int .i64 v0,.int .i64 v1],?_,[.int .i64 v0,.int .i64 v1],⟨rfl,(Qc.2 ⟨rfl,(Qc.2 ⟨rfl,(fun _ h=>by cases h)⟩)⟩)⟩,rfl⟩
 simp only [List.map_toArray,List.map_cons,List.map_nil,e0,e1]
 exact Zc8 Tryz.underlying116 (zero:=.agg #[.int .i64 0,.int .i64 0]) (by kernel_rfl) (places:=[(0,1),(1,1)]) (by kernel_rfl) (by kernel_rfl) g.w
structure Zi3 where
 Code:Int
 At:Int
 Answers:SlV
def Zyy:List (Kd.FK Zi3):=[⟨_,(Kd.int .i64),0,fun x:Zi3=>x.Code⟩,
 ⟨_,(Kd.int .i64),1,fun x:Zi3=>x.At⟩,
 ⟨_,Kd.raw,2,fun x:Zi3=>x.Answers⟩]
def Zdn:Kd Zi3:=Kd.struct 3 Zyy (by rfl)
def Zd8 (x:Z7) (s:SlV):Zi3:=⟨x.Code,x.At,s⟩
theorem Zzu:∀ g,Zdn.K g (Zd8 ((default:Z7)) (none,0,0)) [.int .i64 0,.int .i64 0,.slice none 0 0]:=fun g=>⟨rfl,(Qc.2 ⟨(rfl),(Qc.2 ⟨(rfl),(Qc.2 ⟨rfl,(fun _ h=>by cases h)⟩)⟩)⟩)⟩
theorem Zzj {x:Z7} {e j:Nat}:∀ (g:G) (s:SlV) (cs:List Value),Zdn.K g (Zd8 x s) cs → (hpL (pRow Z3 e j x.Answers)).p g s → Zcd.K g x cs:=fun g s cs h hr=>⟨h.1,(Qc.2 ⟨(h.2 _ (List.mem_of_getElem? (i:=0) rfl)),(Qc.2 ⟨(h.2 _ (List.mem_of_getElem? (i:=1) rfl)),(Qc.2 ⟨(Zvj (h.2 _ (List.mem_of_getElem? (i:=2) rfl)) hr.1),(fun _ h=>by cases h)⟩)⟩)⟩)⟩
theorem Zzm {x:Z7} {g:G} {cs ys:List Value} {s0 s1:SlV} (hk:Zdn.K g (Zd8 x s0) cs) (hy:Kd.raw.K g s1 ys):2 + ys.length ≤ cs.length ∧ Zdn.K g (Zd8 x s1) (Zq cs 2 ys):=by
 have hc:cs.length=3:=hk.1
 have hl:ys.length=1:=Kd.raw.len hy
 exact ⟨by omega,(Zca (by omega)).trans hc,(Qc.2 ⟨(by show (Kd.int .i64).K g x.Code (seg (Zq cs 2 ys) 0 1);rw [Zg (by omega) (by omega)];exact hk.2 _ (List.mem_of_getElem? (i:=0) rfl)),(Qc.2 ⟨(by show (Kd.int .i64).K g x.At (seg (Zq cs 2 ys) 1 1);rw [Zg (by omega) (by omega)];exact hk.2 _ (List.mem_of_getElem? (i:=1) rfl)),(Qc.2 ⟨(by show Kd.raw.K g s1 (seg (Zq cs 2 ys) 2 1);rw [Zb3 (by omega) hl];exact hy),(fun _ h=>by cases h)⟩)⟩)⟩)⟩
theorem Zxu:Fld Tryz.prog 81 2 Zdn Kd.raw (fun x:Zi3=>x.Answers):=Fld.of ⟨_,Kd.raw,2,fun x:Zi3=>x.Answers⟩ (List.mem_of_getElem? (i:=2) rfl) 2 rfl (by kernel_rfl) (by decide)
theorem Z3i:Ty Tryz.prog 79 Kd.raw:=⟨by kernel_rfl,by kernel_rfl⟩
theorem Z1l {N d:Nat} {o:Oper} {uses:Zbd} {x0:Operand} {x1:Operand} {v0:Int} {v1:Int} (hop:o.op=.build 81 #[(0,x0),(1,x1)]) (hd:o.dst=some d) (h0:Opd uses x0 ((Kd.int .i64).pd v0)) (h1:Opd uses x1 ((Kd.int .i64).pd v1)):OB Tryz.prog N o uses [(d,Zcd.pd { Code:=v0,At:=v1,Answers:=([]:List Zj) })] []:=by
 refine Zdp hop hd fun a g hh=>?_
 obtain ⟨c0,k0,e0⟩:=h0 a g hh
 obtain rfl:=k0
 obtain ⟨c1,k1,e1⟩:=h1 a g hh
 obtain rfl:=k1
 refine ⟨.agg #[.int .i64 v0,.int .i64 v1,.slice none 0 0],?_,[.int .i64 v0,.int .i64 v1,.slice none 0 0],⟨rfl,(Qc.2 ⟨rfl,(Qc.2 ⟨rfl,(Qc.2 ⟨(⟨none,0,rfl,Nat.le_refl _,Nat.zero_le _,.inl rfl⟩),(fun _ h=>by cases h)⟩)⟩)⟩)⟩,rfl⟩
 simp only [List.map_toArray,List.map_cons,List.map_nil,e0,e1]
 exact Zc8 Tryz.underlying81 (zero:=.agg #[.int .i64 0,.int .i64 0,.slice none 0 0]) (by kernel_rfl) (places:=[(0,1),(1,1),(2,1)]) (by kernel_rfl) (by kernel_rfl) g.w
theorem Zpe:Ty Tryz.prog 81 Zcd:=⟨by kernel_rfl,by kernel_rfl⟩
theorem Zbcm:Fld Tryz.prog 116 0 Zgm (Kd.int .i64) (fun x:Zea=>x.code):=Fld.of ⟨_,(Kd.int .i64),0,fun x:Zea=>x.code⟩ (List.mem_of_getElem? (i:=0) rfl) 0 rfl (by kernel_rfl) (by decide)
theorem Zbcx:Fld Tryz.prog 116 1 Zgm (Kd.int .i64) (fun x:Zea=>x.at_):=Fld.of ⟨_,(Kd.int .i64),1,fun x:Zea=>x.at_⟩ (List.mem_of_getElem? (i:=1) rfl) 1 rfl (by kernel_rfl) (by decide)
theorem Zbg8:Ty Tryz.prog 116 Zgm:=⟨by kernel_rfl,by kernel_rfl⟩
theorem Zbi5:Zk Tryz.prog 54:=by
 unfold Zk
 kernel_rfl
theorem Zzi:Ty Tryz.prog 79 Z3.sl:=⟨by kernel_rfl,by kernel_rfl⟩
theorem Zbep:Zk Tryz.prog 55:=by
 unfold Zk
 kernel_rfl
theorem Zbdw:TE Tryz.prog 79 118 Z3 104:=TE.of Tryz.underlying79 (by kernel_rfl) (by decide) (by decide)
theorem Zbek:Zk Tryz.prog 53:=by
 unfold Zk
 kernel_rfl
theorem Zbj0:Zk Tryz.prog 31:=by
 unfold Zk
 kernel_rfl
theorem Z8r:TE Tryz.prog 38 81 Zcd 40:=TE.of Tryz.underlying38 (by kernel_rfl) (by decide) (by decide)
theorem Zbed:Zk Tryz.prog 33:=by
 unfold Zk
 kernel_rfl
theorem Z3x:Fld Tryz.prog 118 1 Z3 (Kd.int .i64) (fun x:Zj=>x.Num):=Fld.of ⟨_,(Kd.int .i64),1,fun x:Zj=>x.Num⟩ (List.mem_of_getElem? (i:=1) rfl) 1 rfl (by kernel_rfl) (by decide)
theorem Z7i:Fld Tryz.prog 81 0 Zcd (Kd.int .i64) (fun x:Z7=>x.Code):=Fld.of ⟨_,(Kd.int .i64),0,fun x:Z7=>x.Code⟩ (List.mem_of_getElem? (i:=0) rfl) 0 rfl (by kernel_rfl) (by decide)
theorem Z7h:Fld Tryz.prog 81 1 Zcd (Kd.int .i64) (fun x:Z7=>x.At):=Fld.of ⟨_,(Kd.int .i64),1,fun x:Z7=>x.At⟩ (List.mem_of_getElem? (i:=1) rfl) 1 rfl (by kernel_rfl) (by decide)
theorem Zs4:Fld Tryz.prog 81 2 Zcd Z3.sl (fun x:Z7=>x.Answers):=Fld.of ⟨_,Z3.sl,2,fun x:Z7=>x.Answers⟩ (List.mem_of_getElem? (i:=2) rfl) 2 rfl (by kernel_rfl) (by decide)
theorem Zbba:(Tryz.prog.info? 118).map (·.size)=some Z3.sz:=by kernel_rfl
theorem Zbkh:Zk Tryz.prog 60:=by
 unfold Zk
 kernel_rfl
theorem Zbd0:(Tryz.prog.info? 81).map (·.size)=some Zcd.sz:=by kernel_rfl
theorem Zbjo:Zk Tryz.prog 35:=by
 unfold Zk
 kernel_rfl
theorem en_5:Zk Tryz.prog 5:=by
 unfold Zk
 kernel_rfl
theorem en_6:Zk Tryz.prog 6:=by
 unfold Zk
 kernel_rfl
theorem en_7:Zk Tryz.prog 7:=by
 unfold Zk
 kernel_rfl
theorem en_8:Zk Tryz.prog 8:=by
 unfold Zk
 kernel_rfl
theorem en_9:Zk Tryz.prog 9:=by
 unfold Zk
 kernel_rfl
theorem Zbja:Zk Tryz.prog 10:=by
 unfold Zk
 kernel_rfl
theorem Zbea:Zk Tryz.prog 11:=by
 unfold Zk
 kernel_rfl
theorem Zbjz:Zk Tryz.prog 12:=by
 unfold Zk
 kernel_rfl
theorem Zbji:Zk Tryz.prog 13:=by
 unfold Zk
 kernel_rfl
theorem Z6y {r:Nat} (h:Zt2=some r):FnOk Tryz.prog 107 [] (pFlt r):=by
 have H0:=h
 unfold Zt2 at H0
 clear h
 refine Zb4 (N:=2) Tryz.func107 rfl rfl (Qe rfl) rfl rfl (fun a g0 hst hb=>?_)
 refine r_a [] (L:=[]) hst hb Za
  (a_p [] rfl (Zd rfl rfl c_f)<|a_n) (fun a g hst hb=>?_)
 refine r_a [10] (L:=[]) hst hb Za
  (a_p [] rfl (Zxp Zba5 rfl rfl c_i)<|Aa 0 rfl<|a_n) (fun a g hst hb=>?_)
 refine wp_ret ?_
 obtain rfl:=Option.some.inj H0
 exact Z8 rfl hst hb (Zi (s:=0)) (hst.at 0 rfl)
theorem Ziy (a0:Nat) {r:Nat} (h:Zgv a0=some r):FnOk Tryz.prog 90 [(pFlt a0)] (pFlt r):=by
 have H0:=h
 unfold Zgv at H0
 clear h
 refine Zb4 (N:=8) Tryz.func90 rfl rfl (Qe rfl) rfl rfl (fun a g0 hst hb=>?_)
 refine r_a [5] (L:=[(0,_)]) hst hb Za
  (a_p [] rfl (Zd rfl rfl c_f)<|a_n) (fun a g hst hb=>?_)
 refine wp_seq ?_
 refine r_a [5,20] (L:=[(0,_)]) hst hb Za
  (Am 5 rfl<|Am 5 rfl<|a_p [10,0] rfl (Z7u rfl rfl u_0 u_1)<|a_n) (fun a g hst hb=>?_)
 refine wp_cond_split (hst.bool 1 rfl) (fun hc1=>?_) (fun hc1=>?_)
 ·replace H0:=Z1 hc1 H0
  obtain ⟨r2,h3,H0⟩:=Zc H0
  refine r_a [10] (L:=[]) (hst.pick [] rfl) hb Za
   (a_p [] rfl (Zr Zbiu (Z6y h3) rfl rfl .nil)<|Aa 0 rfl<|a_n) (fun a g hst hb=>?_)
  refine wp_ret ?_
  refine Zt ?_
  obtain rfl:=Option.some.inj H0
  exact Z8 rfl hst hb (Zi (s:=2)) (hst.at 0 rfl)
 ·replace H0:=Z0 hc1 H0
  refine wp_skip ?_
  refine Zo ?_
  refine r_a [10] (L:=[(0,_)]) (hst.pick [0] rfl) hb Za
   (Am 5 rfl<|Aa 0 rfl<|a_n) (fun a g hst hb=>?_)
  refine wp_ret ?_
  obtain rfl:=Option.some.inj H0
  exact Z8 rfl hst hb (Zi (s:=2)) (hst.at 0 rfl)
theorem Zq7 (a0:Nat) {r:Bool} (h:Zma a0=some r):FnOk Tryz.prog 64 [(pFlt a0)] (Zbm r):=by
 have H0:=h
 unfold Zma at H0
 clear h
 refine Zb4 (N:=9) Tryz.func64 rfl rfl (Qe rfl) rfl rfl (fun a g0 hst hb=>?_)
 refine r_a [5] (L:=[(0,_)]) hst hb Za
  (a_p [] rfl (Zd rfl rfl c_b)<|a_n) (fun a g hst hb=>?_)
 obtain ⟨r1,h2,H0⟩:=Zc H0
 refine r_a [60] (L:=[(0,_)]) hst hb Za
  (Am 5 rfl<|a_p [0] rfl (Zv7 Z27 rfl rfl u_0)<|Am 5 rfl<|a_p [0] rfl (Zr Zsf (Ziy _ h2) rfl rfl (.cons u_0 .nil))<|a_p [0] rfl (Zv7 Z27 rfl rfl u_0)<|a_p [30,0] rfl (Zci rfl rfl u_0 u_1)<|Aa 0 rfl<|a_n) (fun a g hst hb=>?_)
 refine wp_ret ?_
 obtain rfl:=Option.some.inj H0
 exact Z8 rfl hst hb (Zi (s:=2)) (hst.at 0 rfl)
theorem Zq9 (a0:Int) {r:Zb6} (h:Zd3 a0=some r):FnOk Tryz.prog 66 [(pInt .i64 a0)] (Zcm.pd r):=by
 have H0:=h
 unfold Zd3 at H0
 clear h
 refine Zb4 (N:=24) Tryz.func66 rfl rfl (Qe rfl) rfl rfl (fun a g0 hst hb=>?_)
 refine r_a [5,0] (L:=[(0,_)]) hst hb Za
  (a_p (outs:=[(2,(pBox Zcm 2 (default:Zb6)))]) (S:=[3]) [] rfl (Zbl (zs:=[.bool false,.bool false,.bool false,.bool false,.bool false]) (by kernel_rfl) (fun g=>Zpo g) rfl rfl)<|a_n) (fun a g hst hb=>?_)
 refine wp_seq ?_
 refine r_a [15,0] (L:=[(0,_),(2,_)]) hst hb Za
  (Am 5 rfl<|a_n) (fun a g hst hb=>?_)
 refine wp_block ?_
 refine r_a [5,15,10] (L:=[(2,_),(3,_)]) hst hb Za
  (a_p [15] rfl (Zci rfl rfl u_0 c_i)<|Aa 0 rfl<|a_n) (fun a g hst hb=>?_)
 refine wp_cond_split (hst.bool 2 rfl) (fun hc1=>?_) (fun hc1=>?_)
 ·replace H0:=Z1 hc1 H0
  refine r_a [10] (L:=[(2,_)]) (hst.pick [0] rfl) hb Za
   (a_p [] rfl (Zbdi rfl rfl c_b)<|a_p [0,5] rfl (Zbg Zjf rfl rfl u_1 u_0)<|a_n) (fun a g hst hb=>?_)
  refine wp_ret ?_
  refine Z5 ?_
  refine Zt ?_
  obtain rfl:=Option.some.inj H0
  obtain ⟨u0,hu0,hq0⟩:=Zbo (P:=Tryz.prog) Zjf (hst.at 0 rfl)
  exact Z8 rfl hst hb hu0 hq0
 ·replace H0:=Z0 hc1 H0
  refine wp_seq ?_
  refine r_a [5,15,10] (L:=[(2,_),(3,_)]) (hst.pick [0,1] rfl) hb Za
   (a_p [15] rfl (Zci rfl rfl u_0 c_i)<|Aa 0 rfl<|a_n) (fun a g hst hb=>?_)
  refine Zbt (fun a w=>∃ (j3:Bool) (g:G),w=g.w ∧ St 24 [(2,(pBox Zcm 2 (default:Zb6))),(3,(pInt .i64 a0)),(7,(Zbm j3))] a g ∧ Base g0 g ∧ Zmr a0 j3=some r) ?_ ?_
  ·rintro a w ⟨j3,g,rfl,hst,hb,H0⟩
   unfold Zmr at H0
   refine Zo ?_
   refine wp_cond_split (hst.bool 2 rfl) (fun hc4=>?_) (fun hc4=>?_)
   ·replace H0:=Z1 hc4 H0
    refine r_a [10] (L:=[(2,_)]) (hst.pick [0] rfl) hb Za
     (a_p [] rfl (Zbch rfl rfl c_b)<|a_p [0,5] rfl (Zbg Zjf rfl rfl u_1 u_0)<|a_n) (fun a g hst hb=>?_)
    refine wp_ret ?_
    refine Z5 ?_
    refine Zt ?_
    obtain rfl:=Option.some.inj H0
    obtain ⟨u0,hu0,hq0⟩:=Zbo (P:=Tryz.prog) Zjf (hst.at 0 rfl)
    exact Z8 rfl hst hb hu0 hq0
   ·replace H0:=Z0 hc4 H0
    refine r_a [5,15,10] (L:=[(2,_),(3,_)]) (hst.pick [0,1] rfl) hb Za
     (a_p [15] rfl (Zci rfl rfl u_0 c_i)<|Aa 0 rfl<|a_n) (fun a g hst hb=>?_)
    refine wp_cond_split (hst.bool 2 rfl) (fun hc5=>?_) (fun hc5=>?_)
    ·replace H0:=Z1 hc5 H0
     refine r_a [10] (L:=[(2,_)]) (hst.pick [0] rfl) hb Za
      (a_p [] rfl (Z8j rfl rfl c_b c_b)<|a_p [0,5] rfl (Zbg Zjf rfl rfl u_1 u_0)<|a_n) (fun a g hst hb=>?_)
     refine wp_ret ?_
     refine Z5 ?_
     refine Zt ?_
     obtain rfl:=Option.some.inj H0
     obtain ⟨u0,hu0,hq0⟩:=Zbo (P:=Tryz.prog) Zjf (hst.at 0 rfl)
     exact Z8 rfl hst hb hu0 hq0
    ·replace H0:=Z0 hc5 H0
     refine wp_seq ?_
     refine r_a [5,15,10] (L:=[(2,_),(3,_)]) (hst.pick [0,1] rfl) hb Za
      (a_p [15] rfl (Zci rfl rfl u_0 c_i)<|Aa 0 rfl<|a_n) (fun a g hst hb=>?_)
     refine Zbt (fun a w=>∃ (j8:Bool) (g:G),w=g.w ∧ St 24 [(2,(pBox Zcm 2 (default:Zb6))),(3,(pInt .i64 a0)),(14,(Zbm j8))] a g ∧ Base g0 g ∧ Zkm a0 j8=some r) ?_ ?_
     ·rintro a w ⟨j8,g,rfl,hst,hb,H0⟩
      unfold Zkm at H0
      refine Zo ?_
      refine wp_cond_split (hst.bool 2 rfl) (fun hc9=>?_) (fun hc9=>?_)
      ·replace H0:=Z1 hc9 H0
       refine r_a [10] (L:=[(2,_)]) (hst.pick [0] rfl) hb Za
        (a_p [] rfl (Zbc8 rfl rfl c_b)<|a_p [0,5] rfl (Zbg Zjf rfl rfl u_1 u_0)<|a_n) (fun a g hst hb=>?_)
       refine wp_ret ?_
       refine Z5 ?_
       refine Zt ?_
       obtain rfl:=Option.some.inj H0
       obtain ⟨u0,hu0,hq0⟩:=Zbo (P:=Tryz.prog) Zjf (hst.at 0 rfl)
       exact Z8 rfl hst hb hu0 hq0
      ·replace H0:=Z0 hc9 H0
       refine wp_seq ?_
       refine r_a [5,15,10] (L:=[(2,_),(3,_)]) (hst.pick [0,1] rfl) hb Za
        (a_p [15] rfl (Zci rfl rfl u_0 c_i)<|Aa 0 rfl<|a_n) (fun a g hst hb=>?_)
       refine Zbt (fun a w=>∃ (j11:Bool) (g:G),w=g.w ∧ St 24 [(2,(pBox Zcm 2 (default:Zb6))),(19,(Zbm j11))] a g ∧ Base g0 g ∧ Zmq j11=some r) ?_ ?_
       ·rintro a w ⟨j11,g,rfl,hst,hb,H0⟩
        unfold Zmq at H0
        refine Zo ?_
        refine wp_cond_split (hst.bool 1 rfl) (fun hc12=>?_) (fun hc12=>?_)
        ·replace H0:=Z1 hc12 H0
         refine r_a [10] (L:=[(2,_)]) (hst.pick [0] rfl) hb Za
          (a_p [] rfl (Zbc5 rfl rfl c_b)<|a_p [0,5] rfl (Zbg Zjf rfl rfl u_1 u_0)<|a_n) (fun a g hst hb=>?_)
         refine wp_ret ?_
         refine Z5 ?_
         refine Zt ?_
         obtain rfl:=Option.some.inj H0
         obtain ⟨u0,hu0,hq0⟩:=Zbo (P:=Tryz.prog) Zjf (hst.at 0 rfl)
         exact Z8 rfl hst hb hu0 hq0
        ·replace H0:=Z0 hc12 H0
         refine wp_skip ?_
         refine Zbn ?_
         refine Zo ?_
         refine r_a [10] (L:=[(2,_)]) (hst.pick [0] rfl) hb Za
          (a_p [] rfl (Zbf7 rfl rfl )<|a_p [0,5] rfl (Zbg Zjf rfl rfl u_1 u_0)<|a_n) (fun a g hst hb=>?_)
         refine wp_ret ?_
         obtain rfl:=Option.some.inj H0
         obtain ⟨u0,hu0,hq0⟩:=Zbo (P:=Tryz.prog) Zjf (hst.at 0 rfl)
         exact Z8 rfl hst hb hu0 hq0
       ·refine wp_cond_split (hst.bool 2 rfl) (fun hc10=>?_) (fun hc10=>?_)
        ·replace H0:=Z1 hc10 H0
         refine wp_skip ?_
         exact ⟨(a0 == (8:Int)),g,rfl,(hst.pick [0,2] rfl),hb,H0⟩
        ·replace H0:=Z0 hc10 H0
         refine r_b [5,10] (L:=[(2,_),(3,_)]) (hst.pick [0,1] rfl) hb Za
          (a_p [15] rfl (Zci rfl rfl u_0 c_i)<|Aa 0 rfl<|a_n) (fun a g hst hb=>?_)
         exact ⟨(a0 == (9:Int)),g,rfl,(hst.pick [0,1] rfl),hb,H0⟩
     ·refine wp_cond_split (hst.bool 2 rfl) (fun hc6=>?_) (fun hc6=>?_)
      ·replace H0:=Z1 hc6 H0
       refine wp_skip ?_
       exact ⟨(a0 == (5:Int)),g,rfl,(hst.pick [0,1,2] rfl),hb,H0⟩
      ·replace H0:=Z0 hc6 H0
       refine r_a [5,15,10] (L:=[(2,_),(3,_)]) (hst.pick [0,1] rfl) hb Za
        (a_p [15] rfl (Zci rfl rfl u_0 c_i)<|Aa 0 rfl<|a_n) (fun a g hst hb=>?_)
       refine wp_cond_split (hst.bool 2 rfl) (fun hc7=>?_) (fun hc7=>?_)
       ·replace H0:=Z1 hc7 H0
        refine wp_skip ?_
        exact ⟨(a0 == (6:Int)),g,rfl,(hst.pick [0,1,2] rfl),hb,H0⟩
       ·replace H0:=Z0 hc7 H0
        refine r_b [5,15,10] (L:=[(2,_),(3,_)]) (hst.pick [0,1] rfl) hb Za
         (a_p [15] rfl (Zci rfl rfl u_0 c_i)<|Aa 0 rfl<|a_n) (fun a g hst hb=>?_)
        exact ⟨(a0 == (7:Int)),g,rfl,(hst.pick [0,1,2] rfl),hb,H0⟩
  ·refine wp_cond_split (hst.bool 2 rfl) (fun hc2=>?_) (fun hc2=>?_)
   ·replace H0:=Z1 hc2 H0
    refine wp_skip ?_
    exact ⟨(a0 == (2:Int)),g,rfl,(hst.pick [0,1,2] rfl),hb,H0⟩
   ·replace H0:=Z0 hc2 H0
    refine r_b [5,15,10] (L:=[(2,_),(3,_)]) (hst.pick [0,1] rfl) hb Za
     (a_p [15] rfl (Zci rfl rfl u_0 c_i)<|Aa 0 rfl<|a_n) (fun a g hst hb=>?_)
    exact ⟨(a0 == (3:Int)),g,rfl,(hst.pick [0,1,2] rfl),hb,H0⟩
theorem Zn0 (a0:Nat) {r:Int} (h:Zm4 a0=some r):FnOk Tryz.prog 88 [(pFlt a0)] (pInt .u64 r):=by
 have H0:=h
 unfold Zm4 at H0
 clear h
 refine Zb4 (N:=14) Tryz.func88 rfl rfl (Qe rfl) rfl rfl (fun a g0 hst hb=>?_)
 refine r_a [5] (L:=[(0,_)]) hst hb Za
  (a_p [] rfl (Zd rfl rfl c_i)<|a_n) (fun a g hst hb=>?_)
 obtain ⟨r1,h2,H0⟩:=Zc H0
 refine r_a [30] (L:=[(0,_)]) hst hb Za
  (Am 5 rfl<|a_p [0] rfl (Zr Zsf (Ziy _ h2) rfl rfl (.cons u_0 .nil))<|a_p [0] rfl (Zv7 Z27 rfl rfl u_0)<|Aa 0 rfl<|a_n) (fun a g hst hb=>?_)
 refine wp_seq ?_
 refine r_a [5,20] (L:=[(3,_)]) hst hb Za
  (Am 5 rfl<|a_p [0] rfl (Zy5 rfl rfl u_0 c_i)<|a_p [0] rfl (Zdd rfl rfl u_0 c_i)<|a_n) (fun a g hst hb=>?_)
 refine wp_cond_split (hst.bool 1 rfl) (fun hc3=>?_) (fun hc3=>?_)
 ·replace H0:=Z1 hc3 H0
  refine r_a [20] (L:=[(3,_)]) (hst.pick [0] rfl) hb Za
   (Am 5 rfl<|a_p [0] rfl (Z64 rfl rfl rfl u_0)<|Aa 0 rfl<|a_n) (fun a g hst hb=>?_)
  refine wp_ret ?_
  refine Zt ?_
  obtain rfl:=Option.some.inj H0
  exact Z8 rfl hst hb (Zi (s:=2)) (hst.at 0 rfl)
 ·replace H0:=Z0 hc3 H0
  refine wp_skip ?_
  refine Zo ?_
  refine r_a [20] (L:=[(3,_)]) (hst.pick [0] rfl) hb Za
   (Am 5 rfl<|a_p [0] rfl (Z3g rfl rfl u_0 c_i)<|Aa 0 rfl<|a_n) (fun a g hst hb=>?_)
  refine wp_ret ?_
  obtain rfl:=Option.some.inj H0
  exact Z8 rfl hst hb (Zi (s:=2)) (hst.at 0 rfl)
theorem Zmt (a0:Nat) (a1:Nat) {r:Bool} (h:Zlg a0 a1=some r):FnOk Tryz.prog 57 [(pFlt a0),(pFlt a1)] (Zbm r):=by
 have H0:=h
 unfold Zlg at H0
 clear h
 refine Zb4 (N:=10) Tryz.func57 rfl rfl (Qe rfl) rfl rfl (fun a g0 hst hb=>?_)
 refine r_a [5,15] (L:=[(0,_),(1,_)]) hst hb Za
  (a_p [] rfl (Zd rfl rfl c_b)<|a_n) (fun a g hst hb=>?_)
 obtain ⟨r1,h2,H0⟩:=Zc H0;obtain ⟨r3,h4,H0⟩:=Zc H0
 refine r_a [50] (L:=[(0,_),(1,_)]) hst hb Za
  (Am 5 rfl<|a_p [0] rfl (Zr Zwc (Zn0 _ h2) rfl rfl (.cons u_0 .nil))<|Am 15 rfl<|a_p [0] rfl (Zr Zwc (Zn0 _ h4) rfl rfl (.cons u_0 .nil))<|a_p [20,0] rfl (Zci rfl rfl u_0 u_1)<|Aa 0 rfl<|a_n) (fun a g hst hb=>?_)
 refine wp_ret ?_
 obtain rfl:=Option.some.inj H0
 exact Z8 rfl hst hb (Zi (s:=4)) (hst.at 0 rfl)
theorem Z6n (a0:Zb) (a1:Zb6) {r:Bool} (h:Zrw a0 a1=some r):FnOk Tryz.prog 67 [(Zf.pd a0),(Zcm.pd a1)] (Zbm r):=by
 have H0:=h
 unfold Zrw at H0
 clear h
 refine Zb4 (N:=59) Tryz.func67 rfl rfl (Qe rfl) rfl rfl (fun a g0 hst hb=>?_)
 refine r_a [0,10] (L:=[(0,_),(1,_)]) hst hb Za
  (a_p [5] rfl (Zbq rfl rfl u_0)<|a_p [15] rfl (Zbq rfl rfl u_0)<|a_p [] rfl (Zd rfl rfl c_b)<|a_n) (fun a g hst hb=>?_)
 obtain ⟨r1,h2,H0⟩:=Zc H0
 refine r_a [540] (L:=[(2,_),(3,_)]) hst hb Za
  (Af Zxx 15 rfl<|Al ty_4 0 rfl<|Am 0 rfl<|a_g [0,5] (Qg_f rfl (fun hG=>Zl Zkp rfl rfl u_0))<|a_g [10,0] (Qg_f rfl (fun hG=>Z2 ty_9 rfl rfl (Opd.gd hG u_0)))<|a_g [20,0] (Qg_f rfl (fun hG=>Zqv rfl rfl (Opd.gd hG u_0) c_s))<|a_p [30,0] rfl (Zb2 rfl rfl u_0 (fun hz=>(Opd.gd (bNF hz) u_1)))<|Am 0 rfl<|a_g [0,15] (Qg_t rfl (fun hG=>Zl Zyn rfl rfl u_0))<|a_g [10,0] (Qg_t rfl (fun hG=>Z2 ty_4 rfl rfl (Opd.gd hG u_0)))<|a_g [20,0] (Qg_t rfl (fun hG=>Z6 rfl rfl (Opd.gd hG u_0)))<|a_g [0,5] (Qg_fi rfl (fun hG=>Zl Zez rfl rfl u_0))<|a_g [10,0] (Qg_fi rfl (fun hG=>Z2 ty_2 rfl rfl (Opd.gd hG u_0)))<|a_g [20,0] (Qg_fi rfl (fun hG=>Zci rfl rfl (Opd.gd hG u_0) c_i))<|a_g [60,30,0] (Qg_t rfl (fun hG=>Zb2 rfl rfl (Opd.gd hG u_0) (fun hz=>(Opd.gd (bA hG (bNF hz)) u_1))))<|a_p [70,0] rfl (Zb5 rfl rfl u_0 (fun hz=>(Opd.gd hz u_1)))<|Am 0 rfl<|a_g [0,15] (Qg_t rfl (fun hG=>Zl Zui rfl rfl u_0))<|a_g [10,0] (Qg_t rfl (fun hG=>Z2 ty_4 rfl rfl (Opd.gd hG u_0)))<|a_g [20,0] (Qg_t rfl (fun hG=>Z6 rfl rfl (Opd.gd hG u_0)))<|a_g [0,5] (Qg_fi rfl (fun hG=>Zl Zko rfl rfl u_0))<|a_g [10,0] (Qg_fi rfl (fun hG=>Z2 ty_2 rfl rfl (Opd.gd hG u_0)))<|a_g [20,0] (Qg_fi rfl (fun hG=>Zci rfl rfl (Opd.gd hG u_0) c_i))<|a_g [30,0] (Qg_fi rfl (fun hG=>Z6 rfl rfl (Opd.gd hG u_0)))<|a_g [0,5] (Qg_ti rfl (fun hG=>Zl Zkn rfl rfl u_0))<|a_g [10,0] (Qg_ti rfl (fun hG=>Z2 ty_2 rfl rfl (Opd.gd hG u_0)))<|a_g [20,0] (Qg_ti rfl (fun hG=>Zci rfl rfl (Opd.gd hG u_0) c_i))<|a_g [70,30,0] (Qg_fi rfl (fun hG=>Zb5 rfl rfl (Opd.gd hG u_0) (fun hz=>(Opd.gd (bA hG hz) u_1))))<|a_g [110,80,0] (Qg_t rfl (fun hG=>Zb2 rfl rfl (Opd.gd hG u_0) (fun hz=>(Opd.gd (bA hG (bNF hz)) u_1))))<|a_p [120,0] rfl (Zb5 rfl rfl u_0 (fun hz=>(Opd.gd hz u_1)))<|Am 0 rfl<|a_g [0,15] (Qg_t rfl (fun hG=>Zl Zyo rfl rfl u_0))<|a_g [10,0] (Qg_t rfl (fun hG=>Z2 ty_4 rfl rfl (Opd.gd hG u_0)))<|a_g [20,0] (Qg_t rfl (fun hG=>Z6 rfl rfl (Opd.gd hG u_0)))<|a_g [0,5] (Qg_fi rfl (fun hG=>Zl Zlx rfl rfl u_0))<|a_g [10,0] (Qg_fi rfl (fun hG=>Z2 Zd7 rfl rfl (Opd.gd hG u_0)))<|a_g [20,0] (Qg_fi rfl (fun hG=>Zr Zwi (Zmt _ _ (Zcb h2 hG)) rfl rfl (.cons (Opd.gd hG u_0) (.cons c_f .nil))))<|a_g [60,30,0] (Qg_t rfl (fun hG=>Zb2 rfl rfl (Opd.gd hG u_0) (fun hz=>(Opd.gd (bA hG (bNF hz)) u_1))))<|a_p [70,0] rfl (Zb5 rfl rfl u_0 (fun hz=>(Opd.gd hz u_1)))<|Am 0 rfl<|a_g [0,15] (Qg_t rfl (fun hG=>Zl Ztr rfl rfl u_0))<|a_g [10,0] (Qg_t rfl (fun hG=>Z2 ty_4 rfl rfl (Opd.gd hG u_0)))<|a_g [20,0] (Qg_t rfl (fun hG=>Z6 rfl rfl (Opd.gd hG u_0)))<|a_g [0,5] (Qg_fi rfl (fun hG=>Zl Zin rfl rfl u_0))<|a_g [10,0] (Qg_fi rfl (fun hG=>Z2 ty_3 rfl rfl (Opd.gd hG u_0)))<|a_g [20,0] (Qg_fi rfl (fun hG=>Zci rfl rfl (Opd.gd hG u_0) c_i))<|a_g [30,0] (Qg_fi rfl (fun hG=>Z6 rfl rfl (Opd.gd hG u_0)))<|a_g [0,5] (Qg_ti rfl (fun hG=>Zl Zc6 rfl rfl u_0))<|a_g [10,0] (Qg_ti rfl (fun hG=>Z2 Zeg rfl rfl (Opd.gd hG u_0)))<|a_g [20,0] (Qg_ti rfl (fun hG=>Zbx Tryz.underlying60 rfl rfl (Opd.gd hG u_0)))<|a_g [30,0] (Qg_ti rfl (fun hG=>Zci rfl rfl (Opd.gd hG u_0) c_i))<|a_g [80,40,0] (Qg_fi rfl (fun hG=>Zb5 rfl rfl (Opd.gd hG u_0) (fun hz=>(Opd.gd (bA hG hz) u_1))))<|a_g [120,90,0] (Qg_t rfl (fun hG=>Zb2 rfl rfl (Opd.gd hG u_0) (fun hz=>(Opd.gd (bA hG (bNF hz)) u_1))))<|a_p [130,0] rfl (Zb5 rfl rfl u_0 (fun hz=>(Opd.gd hz u_1)))<|Aa 0 rfl<|a_n) (fun a g hst hb=>?_)
 refine wp_ret ?_
 obtain rfl:=Option.some.inj H0
 exact Z8 rfl hst hb (Zi (s:=4)) (hst.at 0 rfl)
theorem Zsr (a0:Nat) (a1:Nat) {r:Bool} (h:Zo1 a0 a1=some r):FnOk Tryz.prog 108 [(pFlt a0),(pFlt a1)] (Zbm r):=by
 have H0:=h
 unfold Zo1 at H0
 clear h
 refine Zb4 (N:=10) Tryz.func108 rfl rfl (Qe rfl) rfl rfl (fun a g0 hst hb=>?_)
 refine r_a [5,15] (L:=[(0,_),(1,_)]) hst hb Za
  (a_p [] rfl (Zd rfl rfl c_b)<|a_n) (fun a g hst hb=>?_)
 obtain ⟨r1,h2,H0⟩:=Zc H0;obtain ⟨r3,h4,H0⟩:=Zc H0
 refine r_a [50] (L:=[(0,_),(1,_)]) hst hb Za
  (Am 5 rfl<|a_p [0] rfl (Zr Zwc (Zn0 _ h2) rfl rfl (.cons u_0 .nil))<|Am 15 rfl<|a_p [0] rfl (Zr Zwc (Zn0 _ h4) rfl rfl (.cons u_0 .nil))<|a_p [20,0] rfl (Zcv rfl rfl u_0 u_1)<|Aa 0 rfl<|a_n) (fun a g hst hb=>?_)
 refine wp_ret ?_
 obtain rfl:=Option.some.inj H0
 exact Z8 rfl hst hb (Zi (s:=4)) (hst.at 0 rfl)
theorem Zq6 (a0:Zh) (a1:Zh) {r:Bool} (h:Zl7 a0 a1=some r):FnOk Tryz.prog 96 [(Zz.pd a0),(Zz.pd a1)] (Zbm r):=by
 have H0:=h
 unfold Zl7 at H0
 clear h
 refine Zb4 (N:=21) Tryz.func96 rfl rfl (Qe rfl) rfl rfl (fun a g0 hst hb=>?_)
 refine r_a [0,10] (L:=[(0,_),(1,_)]) hst hb Za
  (a_p [5] rfl (Zbq rfl rfl u_0)<|a_p [15] rfl (Zbq rfl rfl u_0)<|a_p [] rfl (Zd rfl rfl c_b)<|a_n) (fun a g hst hb=>?_)
 refine wp_seq ?_
 obtain ⟨r1,h2,H0⟩:=Zc H0
 refine r_a [5,15,50] (L:=[(2,_),(3,_)]) hst hb Za
  (Af Zf2 5 rfl<|Al Zd7 0 rfl<|Af Zf2 15 rfl<|Al Zd7 0 rfl<|a_p [20,0] rfl (Zr Zwi (Zmt _ _ h2) rfl rfl (.cons u_0 (.cons u_1 .nil)))<|a_p [0] rfl (Zc2 rfl rfl u_0)<|a_n) (fun a g hst hb=>?_)
 refine wp_cond_split (hst.bool 2 rfl) (fun hc3=>?_) (fun hc3=>?_)
 ·replace H0:=Z1 hc3 H0
  obtain ⟨r4,h5,H0⟩:=Zc H0
  refine r_a [50] (L:=[(2,_),(3,_)]) (hst.pick [0,1] rfl) hb Za
   (Af Zf2 15 rfl<|Al Zd7 0 rfl<|Af Zf2 5 rfl<|Al Zd7 0 rfl<|a_p [20,0] rfl (Zr Z3l (Zsr _ _ h5) rfl rfl (.cons u_0 (.cons u_1 .nil)))<|Aa 0 rfl<|a_n) (fun a g hst hb=>?_)
  refine wp_ret ?_
  refine Zt ?_
  obtain rfl:=Option.some.inj H0
  exact Z8 rfl hst hb (Zi (s:=4)) (hst.at 0 rfl)
 ·replace H0:=Z0 hc3 H0
  refine wp_skip ?_
  refine Zo ?_
  refine r_a [50] (L:=[(2,_),(3,_)]) (hst.pick [0,1] rfl) hb Za
   (Af Zfg 5 rfl<|Al ty_9 0 rfl<|Af Zfg 15 rfl<|Al ty_9 0 rfl<|a_p [20,0] rfl (Zqz rfl rfl u_0 u_1)<|Aa 0 rfl<|a_n) (fun a g hst hb=>?_)
  refine wp_ret ?_
  obtain rfl:=Option.some.inj H0
  exact Z8 rfl hst hb (Zi (s:=4)) (hst.at 0 rfl)
end Go.CL
