/- A part of the proof of WholeLog. -/
import Derived.Test.YtajhikgoibmpcaaGreatDoorWholeLogC1
import Derived.MapKept
import Derived.ChangeKeysEq
import Derived.Lib.AppendStr
import Derived.Laws.BytesString
import Derived.Defers
import Derived.Recover
set_option linter.unusedVariables false
set_option linter.unusedSimpArgs false
set_option maxRecDepth 100000
open Go.IntKind renaming i64→Zbxe,u64→Zbxh,u8→Zbx4
open List renaming mem_singleton→Zbxf,mem_cons→Zbxi,getElem?_eq_getElem→Zbxk,replicate→Zbxl,getElem?_map→Zbxm,getElem?_eq_some_iff→Zbxn,getElem?_take→Zbxq,not_mem_nil→Zbxr,mem_append→Zbxs,mem_cons_of_mem→Zbxt,getElem?_eq_none→Zbxu,mem_of_getElem?→Zbxv,getElem?_drop→Zbxy,mem_cons_self→Zbxz,getElem?_cons_succ→Zbx2,map_cons→Zbx3,eq_nil_of_length_eq_zero→Zbx5,getElem?_toArray→Zbx7,all_eq_true→Zbx8,length_map→Zbyb,getElem?_cons_zero→Zbyd,ext_getElem?→Zbye,append_assoc→Zbyf,drop_of_length_le→Zbyg,mem_append_right→Zbyi,contains_iff_mem→Zbyj,mem_append_left→Zbyk,length_set→Zbyl,take_append_of_le_length→Zbyn,size_toArray→Zbyq,mem_or_eq_of_mem_set→Zbyr,length_cons→Zbys,nil_append→Zbyt,append_nil→Zbyu,take_of_length_le→Zbyx,length_replicate→Zbyy,take_zero→Zbyz,getElem?_append→Zby0,getElem_of_mem→Zby2,replicate_succ→Zby3,toArray→Zby4,getElem_set→Zby7,getElem_mem→Zby8,length_take→Zby9,mem_range→Zbzc,map_map→Zbzg
open Int renaming toNat→Zbxg,fdiv→Zbyh
open Nat renaming le_refl→Zbxj,lt_of_lt_of_le→Zbxp,lt_of_not_le→Zbx1,mul_le_mul_right→Zbx9,zero_add→Zbyc,add_zero→Zbym,lt_irrefl→Zbyp,mul_one→Zbyw,lt_of_le_of_lt→Zby5,add_mul→Zby6,succ_ne_zero→Zbza,le_of_not_lt→Zbzb,add_comm→Zbzd,ne_of_lt→Zbzf
open Option renaming some→Zbxo,map_eq_some_iff→Zbxw,map_none→Zbyv
open Array renaming getD_eq_getD_getElem?→Zbxx,replicate→Zbx0,getElem?_append→Zbx6,length_toList→Zbyo
open Prod renaming mk→Zbya,fst→Zby1,snd→Zbze
namespace Go.CL
open Go Go.RowKit
structure ObR (α:Type) where
 R:G→Nat→(Nat→Prop)→α→Prop
 st:∀{g g':G} {b:Nat} {B:Nat→Prop} {x:α},R g b B x→g.le g'→(∀c,c=b∨B c→g'.w.heap[c]?=g.w.heap[c]?∧g'.pr c=g.pr c)→R g' b B x
def Zkq {α:Type} (cb:Option Nat) (k:ObR α) (j:Nat) (x:α):Pd where
 p:=fun g v=>∃b B,(v=.pointer (some ⟨b,0,none⟩)∧∀b',cb=some b'→b'=b)∧k.R g b B x∧b<g.w.heap.size∧g.own b=j+1∧(∀c,c<g.w.heap.size→g.own c=j+1→c=b)∧∀c,B c→c<g.w.heap.size∧g.own c=j+1+AUX
 fp:=[j+1,j+1+AUX]
 st:=fun {S g g' v} s y ⟨b,B,e,i,z,a,l,r⟩=>by
   have t:j+1∉S:=y _ (by simp)
   have u:j+1+AUX∉S:=y _ (by simp)
   obtain⟨k1,k2,k3⟩:=s.same b z (by rw[a];exact t)
   refine⟨b,B,e,k.st i s.le ?_,Zbxp z s.le.size,k3.trans a,?_,fun c q=>?_⟩
   · rintro c (rfl | q)
     · exact⟨k1,k2⟩
     · exact⟨(s.same c (r c q).1 (by rw[(r c q).2];exact u)).1,(s.same c (r c q).1 (by rw[(r c q).2];exact u)).2.1⟩
   · intro c q m
     rcases Nat.lt_or_ge c g.w.heap.size with n | d
     · by_cases f:g.own c ∈ S
       · rcases s.old c n f with h | h
         · rw[m]at h;omega
         · rw[m]at h;exact absurd h t
       · exact l c n ((s.same c n f).2.2.symm.trans m)
     · rcases s.new c d q with h | h
       · rw[m]at h;omega
       · rw[m]at h;exact absurd h t
   · obtain ⟨n,m⟩:=r c q
     obtain⟨m1,m2,m3⟩:=s.same c n (by rw[m];exact u)
     exact⟨Nat.lt_of_lt_of_le n s.le.size,m3.trans m⟩
def FnMR {α:Type} (P:Program) (f:FuncId) (k:ObR α) (x0 x1:α) (A:List Pd) (q:Pd):Prop :=
 ∀ (g:G) (b:Nat) (B:Nat → Prop) (args:List Value),k.R g b B x0 → b < g.w.heap.size → (∀ c,B c → c < g.w.heap.size ∧ c ≠ b) → ArgsOk A g args →
   Calls P f (Value.pointer (some ⟨b,0,none⟩)::args).toArray g.w (fun e w'=>∃g' v B',e=.returned v∧w'=g'.w∧Zsu (fun c=>c=b∨B c) g g'∧k.R g' b B' x1∧(∀c,B' c→(B c∨g.w.heap.size≤c)∧c<g'.w.heap.size)∧q.p g' v)
section
variable {P:Program} {N:Nat} {o:Oper} {uses outs:Z8} {S:List Nat} {d:Nat} {q:Pd} {x y z:Operand} {α β γ:Type} {k:ObR α}
open Classical in
theorem Zvh {g:G} {b:Nat} {own:Nat→Nat} {args:List Value} {A:List Pd} {qs:Pd} {fn:Func} (t:fn.ntmps=N) (y:A.length+1≤N) (u:Free A) (k:ArgsOk A g args) (v:qs.p ⟨g.w,g.pr,own,g.hpr,g.gl⟩ (.pointer (some ⟨b,0,none⟩))) :
   St N ((0,qs)::Zip A 1) {tmps:=(Value.pointer (some ⟨b,0,none⟩)::args).toArray++Zbx0 (fn.ntmps-(Value.pointer (some ⟨b,0,none⟩)::args).toArray.size) undef,defers:=[]} ⟨g.w,g.pr,own,g.hpr,g.gl⟩:=by
 have s:g.le ⟨g.w,g.pr,own,g.hpr,g.gl⟩:=⟨Nat.le_refl _,fun _ _ h=>h,fun _ _ _=>rfl,fun _ _=>rfl,Zbxj _⟩
 refine⟨?_,rfl,?_⟩
 · have:=k.1
   simp[t];omega
 · intro en m
   rcases Zbxi.1 m with rfl | m
   · have n:Act.at {tmps:=(Value.pointer (some ⟨b,0,none⟩)::args).toArray++Zbx0 (fn.ntmps-(Value.pointer (some ⟨b,0,none⟩)::args).toArray.size) undef,defers:=[]} 0=.pointer (some ⟨b,0,none⟩):=by
       simp only[Act.at,Zbxx]
       rw[Zbx6,if_pos (by simp)]
       simp
     show qs.p _ (Act.at _ 0)
     rw[n];exact v
   · obtain ⟨i,x,q⟩:=Zpu m
     have r:i<args.length:=by rw[k.1];exact (Zbxn.1 q).1
     have n:Act.at {tmps:=(Value.pointer (some ⟨b,0,none⟩)::args).toArray++Zbx0 (fn.ntmps-(Value.pointer (some ⟨b,0,none⟩)::args).toArray.size) undef,defers:=[]} en.1=args[i]:=by
       rw[x,Zbzd]
       simp only[Act.at,Zbxx]
       rw[Zbx6,if_pos (by simpa using r)]
       simp[r]
     rw[n]
     exact Pd.le (u.at q) s rfl rfl rfl (k.2 i en.2 _ q (Zbxk r))
def Z7z (k:ObR α) (x1:α) (b:Nat) (g0:G) (q:Pd) (v:Value) (g1:G):Prop:=Base g0 g1∧q.p g1 v∧(Zkq (some b) k 0 x1).p g1 (.pointer (some ⟨b,0,none⟩))
theorem Ztw {g g1:G} {own:Nat→Nat} {D:Nat→Prop} (hpr:GLok g.w g.pr) (p:∀c,own c≠0→D c) (k:Base ⟨g.w,g.pr,own,g.hpr,g.gl⟩ g1):Zsu D g g1:=⟨⟨k.le.size,k.le.pr,k.le.cell,k.le.blk,k.le.dr⟩,k.os,k.tape,k.output,fun c m q=>by
   have n:own c=0:=Classical.byContradiction fun h=>q (p c h)
   exact⟨(k.same c m n).1,(k.same c m n).2.1⟩⟩
open Classical in
theorem Zv4 {x0 x1:α} {f:FuncId} {fn:Func} {c:Code} {A:List Pd} (H:P.funcs[f]? =some fn) (I:fn.body=some c) (J:fn.ntmps=N) (z:A.length+1≤N) (K:Free A) (hq:q.fp=[])
   (h:∀(a:Act) (g:G) (b:Nat),St N ((0,Zkq (some b) k 0 x0)::Zip A 1) a g→Base g g→c.wp P (bodyPost P fn (FinP (Z7z k x1 b g q))) a g.w):FnMR P f k x0 x1 A q:=by
 intro g b B args L d e r
 let own:Nat→Nat:=fun c=>if c=b then 1 else if B c then 1+AUX else 0
 let g0:G:=⟨g.w,g.pr,own,g.hpr,g.gl⟩
 have i:g.le g0:=⟨Nat.le_refl _,fun _ _ h=>h,fun _ _ _=>rfl,fun _ _=>rfl,Zbxj _⟩
 have o1:own b=1:=if_pos rfl
 have o2:∀c,own c=1→c=b:=fun c m=>by
   have m:(if c=b then 1 else if B c then 1+AUX else 0)=1:=m
   split at m
   · assumption
   · split at m <;> simp[AUX]at m
 have o3:∀c,own c≠0→c=b∨B c:=fun c m=>by
   have m:(if c=b then 1 else if B c then 1+AUX else 0)≠0:=m
   split at m
   · left;assumption
   · split at m
     · right;assumption
     · exact absurd rfl m
 have y:(Zkq (some b) k 0 x0).p g0 (.pointer (some ⟨b,0,none⟩)):=⟨b,B,⟨rfl,fun _ h=>(Zbxo.inj h).symm⟩,k.st L i (fun _ _=>⟨rfl,rfl⟩),d,o1,fun c _ m=>o2 c m,fun c m=>⟨(e c m).1,by show (if c=b then 1 else if B c then 1+AUX else 0)=0+1+AUX;rw[if_neg (e c m).2,if_pos m]⟩⟩
 have j:=Zvh (fn:=fn) J z K r y
 have s:Base g0 g0:=⟨.refl _,rfl,rfl,rfl,fun _ _ h=>⟨rfl,rfl,h⟩⟩
 refine Calls.mono (calls_of_wp H I (h _ g0 b j s)) ?_
 rintro en w' ⟨g1,v,rfl,rfl,t,l,b1,B1,⟨e1,o⟩,C,M,D,O,u⟩
 obtain rfl:=o _ rfl
 refine⟨g1,v,B1,rfl,rfl,Ztw g.gl o3 t,C,fun c m=>⟨?_,(u c m).1⟩,l⟩
 refine Classical.byContradiction fun x=>?_
 have E:c<g.w.heap.size:=Zbx1 fun h=>x (.inr h)
 have n:=(u c m).2
 by_cases F:own c=0
 · have:=(t.same c E F).2.2
   rw[n]at this;simp[AUX]at this
 · rcases o3 c F with h | h
   · rw[h,D]at n;simp[AUX]at n
   · exact x (.inl h)
variable {kV:Kd γ} {raw:α→SlV→γ} {lst:α→List β} {dk:Kd β} {e:TypeId}
def RowB (dk:Kd β) (e:TypeId) (xs:List β) (g:G) (v:Value) (B:Nat→Prop):Prop :=
 dk.sl.V g xs v∧((v=.slice none 0 0∧xs.length=0)∨∃b cap cur,v=.slice (some ⟨b,0,none⟩) xs.length cap∧B b∧g.w.heap[b]?=some (.cells cur e (0,0))∧xs.length≤cap∧cap≤maxLen∧cur.size=cap*dk.sz∧∀i,xs.length*dk.sz≤i→¬g.pr b i)
def obR (kV:Kd γ) (raw:α→SlV→γ) (lst:α→List β) (dk:Kd β) (e:TypeId):ObR α where
 R:=fun g b B x=>∃s cs t,g.w.heap[b]?=some (.cells (Zby4 cs) t (0,0))∧(∀o,¬g.pr b o)∧kV.K g (raw x s) cs∧RowB dk e (lst x) g (slv s) B
 st:=by
   rintro g g' b B x ⟨s,cs,t,n,p,q,r,m⟩ k hh
   obtain⟨k1,k2⟩:=hh b (.inl rfl)
   refine⟨s,cs,t,k1.trans n,fun o=>by rw[k2];exact p o,kV.mono k q,r.imp fun _ h=>⟨dk.sl.mono k h.1,h.2⟩,?_⟩
   rcases m with m | ⟨c,cap,cur,m1,m2,m3,m4,m5,m6,m7⟩
   · exact .inl m
   · obtain ⟨k3,k4⟩:=hh c (.inr m2)
     exact .inr ⟨c,cap,cur,m1,m2,k3.trans m3,m4,m5,m6,fun i u=>by rw[k4];exact m7 i u⟩
abbrev Z94 (kV:Kd γ) (raw:α→SlV→γ) (lst:α→List β) (dk:Kd β) (e:TypeId) (b:Nat) (x:α):Pd:=Zda (some b) kV raw (hpL (pRow dk e AUX (lst x))) 0 x
def Z7q (kV:Kd γ) (raw:α→SlV→γ) (lst:α→List β) (dk:Kd β) (e:TypeId) (b:Nat) (x:α) (g0:G) (q:Pd) (v:Value) (g1:G):Prop:=Base g0 g1∧q.p g1 v∧(Z94 kV raw lst dk e b x).p g1 (.pointer (some ⟨b,0,none⟩))
open Classical in
theorem Zqi {x0 x1:α} {f:FuncId} {fn:Func} {c:Code} {A:List Pd} (O:P.funcs[f]? =some fn) (Q:fn.body=some c) (R:fn.ntmps=N) (l:A.length+1≤N) (S:Free A) (hq:q.fp=[])
   (h:∀(a:Act) (g:G) (b:Nat),St N ((0,Z94 kV raw lst dk e b x0)::Zip A 1) a g→Base g g→c.wp P (bodyPost P fn (FinP (Z7q kV raw lst dk e b x1 g q))) a g.w):FnMR P f (obR kV raw lst dk e) x0 x1 A q:=by
 intro g b B args T o U n
 obtain⟨s,cs,t,hh,C,V,D,W⟩:=T
 obtain⟨own,o1,o2,o3,j⟩:∃own:Nat→Nat,own b=1∧(∀c,own c=1→c=b)∧(∀c,own c≠0→c=b∨B c)∧∀g0:G,g0.w=g.w→g0.pr=g.pr→g0.own=own→g.le g0→(pRow dk e AUX (lst x0)).p g0 (slv s):=by
   rcases W with ⟨X,Y⟩ | ⟨c,cap,cur,k1,k2,k3,k4,k5,k6,k7⟩
   · refine ⟨fun c=>if c=b then 1 else 0,if_pos rfl,fun c k=>?_,fun c k=>?_,fun g0 _ _ _ m=>⟨D.imp fun _ h=>⟨dk.sl.mono m h.1,h.2⟩,.inl ⟨X,Y⟩⟩⟩
     · dsimp only at k
       split at k
       · assumption
       · omega
     · dsimp only at k
       split at k
       · left;assumption
       · exact absurd rfl k
   · obtain ⟨l1,l2⟩:=U c k2
     refine⟨fun c'=>if c'=b then 1 else if c'=c then AUX+1 else 0,if_pos rfl,fun c' k=>?_,fun c' k=>?_,fun g0 e1 e2 e3 m=>⟨D.imp fun _ h=>⟨dk.sl.mono m h.1,h.2⟩,.inr ⟨c,cap,cur,k1,by rw[e1];exact l1,by rw[e3];show (if c=b then 1 else if c=c then AUX+1 else 0)=AUX+1;rw[if_neg l2,if_pos rfl],by rw[e1];exact k3,k4,k5,k6,fun i Z=>by rw[e2];exact k7 i Z⟩⟩⟩
     · dsimp only at k
       split at k
       · assumption
       · split at k <;> simp[AUX]at k
     · dsimp only at k
       split at k
       · left;assumption
       · split at k
         · rename_i h;right;rw[h];exact k2
         · exact absurd rfl k
 let g0:G:=⟨g.w,g.pr,own,g.hpr,g.gl⟩
 have m:g.le g0:=⟨Nat.le_refl _,fun _ _ h=>h,fun _ _ _=>rfl,fun _ _=>rfl,Zbxj _⟩
 have r:(Z94 kV raw lst dk e b x0).p g0 (.pointer (some ⟨b,0,none⟩)):=⟨s,⟨b,cs,t,rfl,⟨o,o1,fun c _ k=>o2 c k,hh,kV.mono m V,C⟩,fun b' h=>Zbxo.inj h⟩,j g0 rfl rfl rfl m⟩
 have E:=Zvh (fn:=fn) R l S n r
 have u:Base g0 g0:=⟨.refl _,rfl,rfl,rfl,fun _ _ h=>⟨rfl,rfl,h⟩⟩
 refine Calls.mono (calls_of_wp O Q (h _ g0 b E u)) ?_
 rintro en w' ⟨g1,v,rfl,rfl,x,y,⟨s1,⟨b1,cs1,t1,e1,⟨m1,m2,m3,m4,m5,m6⟩,F⟩,z,H⟩⟩
 obtain rfl:=F _ rfl
 have I:Zsu (fun c=>c=b1∨B c) g g1:=Ztw g.gl o3 x
 rcases H with ⟨J,K⟩ | ⟨c,cap,cur,hv,l1,l2,l3,l4,l5,l6,l7⟩
 · exact⟨g1,v,fun _=>False,rfl,rfl,I,⟨s1,cs1,t1,m4,m6,m5,z,.inl ⟨J,K⟩⟩,fun c k=>k.elim,y⟩
 · refine ⟨g1,v,fun c'=>c'=c,rfl,rfl,I,⟨s1,cs1,t1,m4,m6,m5,z,.inr ⟨c,cap,cur,hv,rfl,l3,l4,l5,l6,l7⟩⟩,fun c' k=>?_,y⟩
   subst k
   refine⟨Classical.byContradiction fun d=>?_,l1⟩
   have L:c'<g.w.heap.size:=Zbx1 fun h=>d (.inr h)
   by_cases M:own c'=0
   · have:=(x.same c' L M).2.2
     rw[l2]at this;simp[AUX]at this
   · rcases o3 c' M with h | h
     · rw[h,m2]at l2;simp[AUX]at l2
     · exact d (.inl h)
end
theorem Zwd {k a b:Nat} (h:k=a) (h':k=b) (m:a≠b):False:=m (h.symm.trans h')
def ptrB (b off:Nat):Value:=.pointer (some ⟨b,off,none⟩)
instance {b off:Nat}:NZ (pEq (ptrB b off)):=⟨fun _ _ h=>⟨_,h⟩⟩
section
variable {P:Program} {N:Nat} {o:Oper} {uses outs:Z8} {S:List Nat} {d:Nat} {q q2:Pd} {x y z:Operand} {α β γ δ ε σ:Type} {kV:Kd γ} {raw:α→σ→γ} {R R2:Hp σ} {dk:Kd β} {di:Kd δ} {t e j b off m:Nat} {xv:α}
def pSJ (kV:Kd γ) (raw:α→σ→γ) (R:Hp σ) (j b:Nat) (x:α):Pd:=pAt (.pointer (some ⟨b,0,none⟩)) (Zda (some b) kV raw R j x)
theorem sj_T {g:G} {v:Value} (h:(pSJ kV raw R j b xv).p g v):(pSJ kV raw hpT j b xv).p g v:=Z35 h
theorem Zn0 {g:G} {v:Value} (h:(pSJ kV raw R j b xv).p g v):∃s cs t,Mine kV (j+1) (raw xv s) g b cs t∧R.p g s:=by
 obtain⟨s,⟨b',cs,t,_,k,m⟩,n⟩:=h
 obtain rfl:=m _ rfl
 exact⟨s,cs,t,k,n⟩
theorem Zqz {g:G} {v:Value} {s:σ} {cs:List Value} {t:TypeId} (k:Mine kV (j+1) (raw xv s) g b cs t) (m:R.p g s):(pSJ kV raw R j b xv).p g v:=⟨s,⟨b,cs,t,rfl,k,fun b' h=>Zbxo.inj h⟩,m⟩
abbrev PF (P:Program) (s i off:Nat):Prop:=(match P.underlying s with | some (.struct F)=>(F[i]?).bind fun f=>(P.info? f.type).map fun y=>(f.offset,y.size==0) | _=>none)=some (off,false)
theorem Zbh {s i off2:Nat} (h:PF P s i off2) (m:o.op=.fieldAddr s x i) (p:o.dst=some d) (q:Opd uses x (pEq (ptrB b off))):OB P N o uses [(d,pEq (ptrB b (off+off2)))] [] :=
 Zcl p fun a g hh=>by
   have r:a.eval x=.pointer (some ⟨b,off,none⟩):=q a g hh
   unfold PF at h
   cases k:P.underlying s with
   | none=>rw[k]at h;cases h
   | some u =>
     rw[k]at h
     cases u with
     | struct F =>
       obtain⟨f,t,v⟩:=Option.bind_eq_some_iff.1 h
       obtain⟨y,w,n⟩:=Zbxw.1 v
       simp only[Zbya.injEq,beq_eq_false_iff_ne]at n
       obtain⟨z,c⟩:=n
       subst z
       have hs:(P.info? f.type).map (·.size)=some y.size:=by rw[w];rfl
       exact⟨ptrB b (off+f.offset),by simp[execOp,m,r,Instr.fieldAt,Instr.sureAddr,run_underlying k,t,Zsc hs c,ptrB],rfl⟩
     | _=>cases h
theorem Zmh {u:δ} (q:Ty P t di) (r:∀(g:G) (s:σ) (cs:List Value),kV.K g (raw xv s) cs→R.p g s→di.K g u (seg cs off di.sz)) (k:o.op=.load t x) (v:o.dst=some d) (hs:Opd uses (.tmp m) (pSJ kV raw R j b xv)) (w:Opd uses x (pEq (ptrB b off))):OB P N o uses [(d,di.pd u)] [] :=
 Zcl v fun a g hh=>by
   obtain⟨s,cs,t',n,y⟩:=Zn0 (hs a g hh)
   have z:a.eval x=.pointer (some ⟨b,off,none⟩):=w a g hh
   have h:=r g s cs n.2.2.2.2.1 y
   refine⟨mkV di.ag (seg cs off di.sz),?_,_,h,rfl⟩
   have:=Zj6 (b:=b) (of:=off) q h (fun i u h=>by
     refine Zpv n (off+i) u ?_
     simp only[seg,Zbxq,Zbxy]at h
     split at h
     · exact h
     · cases h)
   simp[execOp,k,z,Instr.loadAt,Instr.sureAddr,this]
theorem Zm7 {raw:α→SlV→γ} (p:Ty P t Kd.raw) (r:∀(g:G) (s:SlV) (cs:List Value),kV.K g (raw xv s) cs→Kd.raw.K g s (seg cs off 1)) (k:o.op=.load t x) (v:o.dst=some d) (hs:Opd uses (.tmp m) (pSJ kV raw (hpL q) j b xv)) (y:Opd uses x (pEq (ptrB b off))):OB P N o uses [(d,q)] [] :=
 Zcl v fun a g hh=>by
   obtain⟨s,cs,t',n,z⟩:=Zn0 (hs a g hh)
   have c:a.eval x=.pointer (some ⟨b,off,none⟩):=y a g hh
   have h:=r g s cs n.2.2.2.2.1
   have:=Zj6 (b:=b) (of:=off) p h (fun i u h=>by
     refine Zpv n (off+i) u ?_
     simp only[seg,Zbxq,Zbxy]at h
     split at h
     · exact h
     · cases h)
   have e:seg cs off 1=[slv s]:=h
   refine⟨slv s,?_,z⟩
   rw[e]at this
   have this:(loadVar t ⟨b,off,none⟩).run P g.w=.ok (slv s) g.w:=this
   simp[execOp,k,c,Instr.loadAt,Instr.sureAddr,this]
theorem Zo0 {x':α} {u':δ} (i:Ty P t di) (w:o.op=.store t x z) (l:o.dst=none) (A:∀k∈R.fp,k≠j+1) (hs:Opd uses (.tmp m) (pSJ kV raw R j b xv)) (B:Opd uses x (pEq (ptrB b off))) (C:Opd uses z (di.pd u'))
   (y:∀(g g':G) (cs:List Value) (s0:σ) (ys:List Value),kV.K g (raw xv s0) cs→R.p g' s0→di.K g u' ys→∃s1,(off+ys.length≤cs.length∧kV.K g (raw x' s1) (Zr cs off ys))∧R2.p g' s1):OB P N o uses [(m,pSJ kV raw R2 j b x')] [j+1] :=
 Zp5 l fun a g hh=>by
   obtain⟨s,cs,t',h,c⟩:=Zn0 (hs a g hh)
   have D:a.eval x=.pointer (some ⟨b,off,none⟩):=B a g hh
   obtain⟨ys,q,d⟩:=C a g hh
   obtain⟨s0,⟨u,_⟩,_⟩:=y g g cs s ys h.2.2.2.2.1 c q
   have f:=Zf6 (off:=off) i h.2.2.2.1 q (by simpa using u)
   have n:Step [j+1] g (g.wr b (cs.toArray.toList.take off++ys++cs.toArray.toList.drop (off+ys.length)).toArray h.1 h.2.2.2.2.2 (fun _=>False) (j+1)):=Zmb h.2.1 (.inr rfl) h.2.2.2.2.2
   refine⟨g.wr b (cs.toArray.toList.take off++ys++cs.toArray.toList.drop (off+ys.length)).toArray h.1 h.2.2.2.2.2 (fun _=>False) (j+1),?_,n,?_⟩
   · simp[execOp,w,D,d,Instr.storeAt,Instr.sureAddr,f,wr_w]
   · intro e E
     rw[Zbxf.1 E]
     obtain⟨s1,⟨h1,F⟩,H⟩:=y _ _ cs s ys (kV.mono n.le h.2.2.2.2.1) (R.st n (fun k q I=>A k q (Zbxf.1 I)) c) (di.mono n.le q)
     refine Zqz (s:=s1) (cs:=Zr cs off ys) (t:=t') ⟨by rw[wr_w,Zdm];exact h.1,by simp[G.wr],fun b' r v=>?_,?_,F,fun o=>by simp[G.wr]⟩ H
     · rw [wr_w,Zdm] at r
       simp only[G.wr]at v
       split at v
       · assumption
       · exact h.2.2.1 b' r v
     · rw [wr_w]
       refine (setRow_heap _ _ _ _ _ _ h.2.2.2.1).trans ?_
       simp[Zr]
theorem Zn1 {raw:α→SlV→γ} {R:Hp SlV} {x':α} (U:Ty P t Kd.raw) (H:o.op=.store t x z) (c:o.dst=none) (d:∀g v,q.p g v→∃s2:SlV,v=slv s2) (hj:∀k∈R.fp,k≠j+1) (V:∀k∈q.fp,k≠j+1) (hs:Opd uses (.tmp m) (pSJ kV raw R j b xv)) (W:Opd uses x (pEq (ptrB b off))) (I:Opd uses z q)
   (J:∀(g:G) (cs:List Value) (s0 s1:SlV) (ys:List Value),kV.K g (raw xv s0) cs→Kd.raw.K g s1 ys→off+ys.length≤cs.length∧kV.K g (raw x' s1) (Zr cs off ys)):OB P N o uses [(m,pSJ kV raw (hpL q) j b x')] [j+1] :=
 OB.at fun a g hh=>by
   have f:=I a g hh
   obtain⟨s2,L⟩:=d _ _ f
   let R':Hp SlV:=⟨fun g s=>R.p g s∧q.p g (slv s2),R.fp++q.fp,fun st c h=>⟨R.st st (fun k u=>c k (Zbyk _ u)) h.1,q.st st (fun k u=>c k (Zbyi _ u)) h.2⟩⟩
   obtain⟨s,cs,t',X,Y⟩:=Zn0 (hs a g hh)
   refine⟨(m,pSJ kV raw R' j b xv)::uses,fun en r=>?_,?_⟩
   · rcases Zbxi.1 r with rfl | r
     · exact Zqz (R:=R') X ⟨Y,by rw[←L];exact f⟩
     · exact hh en r
   · intro a' g' K Q Z M i hK
     refine Zp5 (outs:=[(m,pSJ kV raw (hpL q) j b x')]) (S:=[j+1]) (o:=o) (uses:=uses++[(m,pSJ kV raw R' j b xv)]) c (fun a2 g2 l=>?_) a' g' K Q Z M (fun en r=>?_) hK
     · have A:Ze4 uses a2 g2:=fun en r=>l en (Zbyk _ r)
       have y:=l (m,pSJ kV raw R' j b xv) (by simp)
       obtain⟨s3,cs3,t3,n,c',d'⟩:=Zn0 y
       have hv:a2.eval x=.pointer (some ⟨b,off,none⟩):=W a2 g2 A
       have B:=I a2 g2 A
       obtain⟨s4,C⟩:=d _ _ B
       have u:Kd.raw.K g2 s4 [slv s4]:=rfl
       obtain⟨E,_⟩:=J g2 cs3 s3 s4 [slv s4] n.2.2.2.2.1 u
       have y:=Zf6 (off:=off) U n.2.2.2.1 u (by simpa using E)
       have w:Step [j+1] g2 (g2.wr b (cs3.toArray.toList.take off++[slv s4]++cs3.toArray.toList.drop (off+[slv s4].length)).toArray n.1 n.2.2.2.2.2 (fun _=>False) (j+1)):=Zmb n.2.1 (.inr rfl) n.2.2.2.2.2
       refine⟨_,?_,w,?_⟩
       · have O:mkV Kd.raw.ag [slv s4]=slv s4:=rfl
         rw[O]at y
         simp[execOp,H,hv,C,Instr.storeAt,Instr.sureAddr,y,wr_w]
       · intro e r
         rw[Zbxf.1 r]
         obtain⟨h1,h2⟩:=J _ cs3 s3 s4 [slv s4] (kV.mono w.le n.2.2.2.2.1) u
         refine Zqz (s:=s4) (cs:=Zr cs3 off [slv s4]) (t:=t3) ⟨by rw[wr_w,Zdm];exact n.1,by simp[G.wr],fun b' D F=>?_,?_,h2,fun o=>by simp[G.wr]⟩ ?_
         · rw [wr_w,Zdm] at D
           simp only[G.wr]at F
           split at F
           · assumption
           · exact n.2.2.1 b' D F
         · rw [wr_w]
           refine (setRow_heap _ _ _ _ _ _ n.2.2.2.1).trans ?_
           simp[Zr]
         · have T:q.p g2 (slv s4):=by rw [← C];exact B
           exact q.st w (fun k u hS=>V k u (Zbxf.1 hS)) T
     · rcases Zbxs.1 r with r | r
       · exact i en (Zbxt _ r)
       · rw[Zbxf.1 r];exact i _ (Zbxz ..)
theorem Zhl {a:Act} {g:G} {L:Z8} (h:St N ((0,Zda (some b) kV raw R j xv)::L) a g):St N ((0,pEq (ptrB b 0))::(L++[(1002,pSJ kV raw R j b xv)])) a g:=⟨h.size,h.df,fun en k=>by
 have m:=h.h (0,Zda (some b) kV raw R j xv) (Zbxz ..)
 obtain⟨s,⟨b',cs,t,e1,n,p⟩,q⟩:=m
 obtain rfl:=p _ rfl
 rcases Zbxi.1 k with rfl | k
 · exact e1
 · rcases Zbxs.1 k with k | k
   · exact h.h en (Zbxt _ k)
   · rw[Zbxf.1 k];exact Zqz n q⟩
theorem Zbht {a:Act} {g:G} {L:Z8} {i s m:Nat} {c:Option Nat} (n:L[i]?=some (s,Zda c kV raw R j xv)) (h:St N L a g):∃b,St N (L.set i (s,pEq (ptrB b 0))++[(m,pSJ kV raw R j b xv)]) a g:=by
 have p:=h.h _ (Zbxv n)
 obtain⟨sv,⟨b,cs,t,e1,q,hc⟩,r⟩:=p
 refine⟨b,h.size,h.df,fun en k=>?_⟩
 rcases Zbxs.1 k with k | k
 · rcases Zbyr k with k | rfl
   · exact h.h en k
   · exact e1
 · rw[Zbxf.1 k];exact Zqz q r
theorem Zblo {fn:Func} {Φ:Value→G→Prop} {r1 r2:ResultVar} {v1 v2:Value} {a:Act} {g:G} {L:Z8} (n:fn.results=#[r1,r2]) (h:St N L a g) (p:Zfc P a g r1 v1) (q:Zfc P a g r2 v2) (r:Φ (.tuple #[v1,v2]) g):bodyPost P fn (FinP Φ) .ret a g.w :=
 ⟨h.df,_,by
   have k:(Zfa a.tmps r1).run P g.w=.ok v1 g.w:=p
   have m:(Zfa a.tmps r2).run P g.w=.ok v2 g.w:=q
   simp[Zfu,n,k,m],g,_,rfl,rfl,r⟩
end
section
variable {P:Program} {N:Nat} {q:Pd} {α β γ:Type} {kV:Kd γ} {raw:α→SlV→γ} {lst:α→List β} {dk:Kd β} {e b:Nat} {k:ObR α}
theorem Zbrm {fn:Func} {r:ResultVar} {v w:Value} {a:Act} {g g0:G} {L:Z8} {x1:α} (k:fn.results=#[r]) (h:St N L a g) (m:Base g0 g) (n:Zfc P a g r v) (s:q.p g v) (hs:(pSJ kV raw (hpL (pRow dk e AUX (lst x1))) 0 b x1).p g w):bodyPost P fn (FinP (Z7q kV raw lst dk e b x1 g0 q)) .ret a g.w:=endP k h n ⟨m,s,hs⟩
end
section
variable {P:Program} {N:Nat} {o:Oper} {uses outs:Z8} {S:List Nat} {d:Nat} {q:Pd} {x y z:Operand} {α β γ δ:Type} {k:ObR δ}
def pPO (k:ObR δ) (b j:Nat) (x:δ):Pd:=pAt (.pointer (some ⟨b,0,none⟩)) (Zkq (some b) k j x)
theorem Zyo {b j:Nat} {v:δ} {g:G} {u:Value} (h:(pPO k b j v).p g u):∃B,k.R g b B v∧b<g.w.heap.size∧g.own b=j+1∧(∀c,c<g.w.heap.size→g.own c=j+1→c=b)∧∀c,B c→c<g.w.heap.size∧g.own c=j+1+AUX:=by
 obtain⟨b',B,⟨_,m⟩,n,q,r,s,t⟩:=h
 obtain rfl:=m _ rfl
 exact⟨B,n,q,r,s,t⟩
theorem Z31 {b j:Nat} {v:δ} {g:G} {u:Value} {B:Nat→Prop} (m:k.R g b B v) (n:b<g.w.heap.size) (q:g.own b=j+1) (r:∀c,c<g.w.heap.size→g.own c=j+1→c=b) (s:∀c,B c→c<g.w.heap.size∧g.own c=j+1+AUX):(pPO k b j v).p g u :=
 ⟨b,B,⟨rfl,fun _ h=>(Zbxo.inj h).symm⟩,m,n,q,r,s⟩
open Classical in
theorem Zf5 {x0 x1:δ} {f:FuncId} {xs:List Operand} {A:List Pd} {ty:Array TypeId} {m j b:Nat} (z:Zi P f) (F:FnMR P f k x0 x1 A q) (H:o.op=.call {callee:=.value (.func f),args:=(x::xs).toArray,argTypes:=ty}) (I:o.dst=some d)
   (Z:q.fp=[]) (hs:Opd uses (.tmp m) (pPO k b j x0)) (hx:Opd uses x (pEq (ptrB b 0))) (i:OpdL uses xs A):OB P N o uses [(d,q),(m,pPO k b j x1)] [j+1,j+1+AUX]:=by
 intro a g K Q hN J D hK
 obtain⟨B,hR,E,l,L,u⟩:=Zyo (hs a g D)
 have hv:a.eval x=.pointer (some ⟨b,0,none⟩):=hx a g D
 have hr:(execOp a.eval o).run P g.w=.ok (.enter f (Value.pointer (some ⟨b,0,none⟩)::xs.map a.eval).toArray) g.w:=by
   simp[execOp,H,resolve,Znl,Deferred.ofValue,invoke,Zgo z,hv]
 unfold Oper.wp
 rw[hr]
 show Calls P f _ g.w _
 have M:∀c,B c→c≠b:=fun c p h=>by
   have:=(u c p).2
   rw[h,l]at this;simp[AUX]at this
 refine Calls.mono (F g b B _ hR E (fun c p=>⟨(u c p).1,M c p⟩) (i.ok D)) ?_
 rintro e w' ⟨g',v,B',rfl,rfl,r,O,R,S⟩
 let g2:G:=⟨g'.w,g'.pr,fun c=>if c<g.w.heap.size then (if g.own c=j+1+AUX∧¬B' c then 0 else g.own c)else if B' c then j+1+AUX else 0,g'.hpr,g'.gl⟩
 have C:g'.le g2:=⟨Nat.le_refl _,fun _ _ h=>h,fun _ _ _=>rfl,fun _ _=>rfl,Zbxj _⟩
 have T:=r.le.size
 have n:∀c,g2.own c=if c<g.w.heap.size then (if g.own c=j+1+AUX∧¬B' c then 0 else g.own c)else if B' c then j+1+AUX else 0:=fun _=>rfl
 have U:g2.own b=j+1:=by
   rw[n,if_pos E,if_neg,l]
   rw[l];simp[AUX]
 refine hK v g2 ⟨⟨r.le.size,r.le.pr,r.le.cell,r.le.blk,r.le.dr⟩,r.os,r.tape,r.output,fun c p y=>?_,fun c t V=>?_,fun c p y=>?_⟩ fun e z=>?_
 · have W:c ≠ b:=fun h=>y (by rw [h,l];simp)
   have X:¬B c:=fun h=>y (by rw[(u c h).2];simp)
   obtain⟨k1,k2⟩:=r.same c p (by simp[W,X])
   refine⟨k1,k2,?_⟩
   rw[n,if_pos p,if_neg]
   intro h;exact y (by rw[h.1];simp)
 · rw [n,if_neg (by omega)]
   split <;> simp
 · rw [n,if_pos p]
   split
   · exact .inl rfl
   · exact .inr y
 · simp only [Zbxi,Zbxr,or_false] at z
   rcases z with rfl | rfl
   · rw [I,Zdn v (by rw [hN];exact J d I)]
     exact Pd.le Z C rfl rfl rfl S
   · refine Z31 (B:=B') (k.st O C (fun _ _=>⟨rfl,rfl⟩)) (Zbxp E T) U (fun c p s=>?_) (fun c p=>?_)
     · rw [n] at s
       split at s
       · rename_i Y
         split at s
         · omega
         · exact L c Y s
       · split at s
         · simp[AUX]at s
         · omega
     · obtain ⟨t,V⟩:=R c p
       refine⟨V,?_⟩
       rw[n]
       rcases t with t | t
       · rw[if_pos (u c t).1,if_neg (by simp[p])];exact (u c t).2
       · rw[if_neg (by omega),if_pos p]
def obIn (kV:Kd γ) (raw:α→γ) (bI:Nat) (k:ObR δ) (get:α→δ):ObR α where
 R:=fun g b B x=>∃cs t BI,g.w.heap[b]?=some (.cells (Zby4 cs) t (0,0))∧(∀o,¬g.pr b o)∧kV.K g (raw x) cs∧k.R g bI BI (get x)∧bI≠b∧B bI∧∀c,BI c→B c∧c≠bI
 st:=by
   rintro g g' b B x ⟨cs,t,BI,q,r,s,u,v,n,p⟩ h hh
   obtain⟨k1,k2⟩:=hh b (.inl rfl)
   refine⟨cs,t,BI,k1.trans q,fun o=>by rw[k2];exact r o,kV.mono h s,k.st u h (fun c m=>hh c (.inr ?_)),v,n,p⟩
   rcases m with rfl | m
   · exact n
   · exact (p c m).1
variable {kV:Kd γ} {raw:α→γ} {get:α→δ} {xv:α} {bI b j j2 m1 m2 i s:Nat} {L:Z8} {a:Act} {g:G}
abbrev Zxl (kV:Kd γ) (raw:α→γ) (j b:Nat) (x:α):Pd:=pSJ kV (fun x (_:Unit)=>raw x) hpT j b x
def Zbet (L:Z8) (i:Nat) (S:List Nat):Prop:=∀n en,L[n]?=some en→n≠i→∀f∈en.2.fp,f∉S
open Classical in
theorem Zblc (I:L[i]? =some (s,Zkq (some b) (obIn kV raw bI k get) j xv)) (h:St N L a g) (J:j2≠j∧j2<AUX∧j<AUX) (l:Zbet L i [j+1+AUX,j2+1,j2+1+AUX]) :
   ∃g':G,g'.w=g.w∧Step [j+1+AUX,j2+1,j2+1+AUX] g g'∧St N (L.set i (s,pEq (ptrB b 0))++[(m1,Zxl kV raw j b xv),(m2,pPO k bI j2 (get xv))]) a g':=by
 obtain⟨T,A,U⟩:=J
 have hA:0<AUX:=Zby5 (Nat.zero_le _) A
 have K:=h.h _ (Zbxv I)
 obtain⟨b',B,⟨M,C⟩,⟨cs,t,BI,r1,r2,r3,r4,r5,r6,r7⟩,O,o,P,x⟩:=K
 obtain rfl:=C _ rfl
 let own':Nat→Nat:=fun c=>if c=bI then j2+1 else if BI c then j2+1+AUX else if g.own c∈[j+1+AUX,j2+1,j2+1+AUX]then 0 else g.own c
 let g':G:=⟨g.w,g.pr,own',g.hpr,g.gl⟩
 have y:g.le g':=⟨Nat.le_refl _,fun _ _ h=>h,fun _ _ _=>rfl,fun _ _=>rfl,Zbxj _⟩
 have p:∀c,g'.own c=if c=bI then j2+1 else if BI c then j2+1+AUX else if g.own c∈[j+1+AUX,j2+1,j2+1+AUX]then 0 else g.own c:=fun _=>rfl
 have D:Step [j+1+AUX,j2+1,j2+1+AUX] g g':=by
   refine⟨y,rfl,rfl,rfl,fun c l r=>⟨rfl,rfl,?_⟩,fun c Q R=>absurd (Zbxp R Q) (Zbyp _),fun c l r=>?_⟩
   · rw [p,if_neg,if_neg,if_neg r]
     · intro z;exact r (by rw[(x c (r7 c z).1).2];simp)
     · rintro rfl;exact r (by rw[(x c r6).2];simp)
   · rw [p]
     split
     · exact .inr (by simp)
     split
     · exact .inr (by simp)
     · first | exact .inl rfl | (rw[if_pos r];exact .inl rfl)
 have E:g'.own b=j+1:=by
   rw[p,if_neg (Ne.symm r5),if_neg,if_neg,o]
   · rw[o];simp only[Zbxi,Zbxr,or_false];omega
   · intro z;have:=(x b (r7 b z).1).2;rw[o]at this;omega
 refine⟨g',rfl,D,h.size,h.df,fun en u=>?_⟩
 rcases Zbxs.1 u with u | u
 · obtain ⟨n,r,v⟩:=Zby2 u
   have d:n<L.length:=by simpa using r
   rw[Zby7]at v
   split at v
   · subst v;exact M
   · rename_i F
     subst v
     have hg:=Zbxk d
     exact (L[n]).2.st D (fun f S=>l n _ hg (fun e=>F e.symm) f S) (h.h _ (Zby8 d))
 · rcases Zbxi.1 u with rfl | u
   · refine Zqz (s:=()) (cs:=cs) (t:=t) ⟨O,E,fun c q m=>?_,r1,kV.mono y r3,r2⟩ trivial
     rw[p]at m
     split at m
     · omega
     split at m
     · omega
     split at m
     · omega
     · exact P c q m
   · rw [Zbxf.1 u]
     refine Z31 (B:=BI) (k.st r4 y (fun _ _=>⟨rfl,rfl⟩)) (x bI r6).1 (by rw[p,if_pos rfl]) (fun c q m=>?_) (fun c q=>⟨(x c (r7 c q).1).1,by rw[p,if_neg (r7 c q).2,if_pos q]⟩)
     rw[p]at m
     split at m
     · assumption
     split at m
     · omega
     split at m
     · omega
     · rename_i H
       exact absurd (by rw[m];simp) H
open Classical in
theorem Zbd5 {x1:α} {u1 u2:Value} (v:(Zxl kV raw j b xv).p g u1) (x:(pPO k bI j2 (get x1)).p g u2) (d:raw x1=raw xv) (f:j2≠j∧j2<AUX∧j<AUX) :
   ∃g':G,g'.w=g.w∧Step [j2+1,j2+1+AUX,j+1+AUX] g g'∧(Zkq (some b) (obIn kV raw bI k get) j x1).p g' (.pointer (some ⟨b,0,none⟩)):=by
 obtain⟨o,y,A⟩:=f
 have hA:0<AUX:=Zby5 (Nat.zero_le _) y
 obtain⟨_,cs,t,⟨n1,n2,n3,n4,n5,n6⟩,_⟩:=Zn0 v
 obtain⟨BI,r1,r2,r3,r4,r5⟩:=Zyo x
 let own':Nat→Nat:=fun c=>if c=bI∨BI c then j+1+AUX else g.own c
 let g':G:=⟨g.w,g.pr,own',g.hpr,g.gl⟩
 have q:g.le g':=⟨Nat.le_refl _,fun _ _ h=>h,fun _ _ _=>rfl,fun _ _=>rfl,Zbxj _⟩
 have m:∀c,g'.own c=if c=bI∨BI c then j+1+AUX else g.own c:=fun _=>rfl
 have u:bI≠b:=fun e=>by rw[e,n2]at r3;omega
 have z:¬BI b:=fun e=>by have:=(r5 b e).2;rw[n2]at this;omega
 refine⟨g',rfl,⟨q,rfl,rfl,rfl,fun c n s=>⟨rfl,rfl,?_⟩,fun c i l=>absurd (Zbxp l i) (Zbyp _),fun c n s=>?_⟩,b,fun c=>c=bI∨BI c,⟨rfl,fun _ h=>(Zbxo.inj h).symm⟩,⟨cs,t,BI,n4,n6,?_,k.st r1 q (fun _ _=>⟨rfl,rfl⟩),u,.inl rfl,fun c n=>⟨.inr n,fun e=>?_⟩⟩,n1,?_,fun c n r=>?_,fun c n=>⟨?_,?_⟩⟩
 · rw [m,if_neg]
   rintro (rfl | a)
   · exact s (by rw[r3];simp)
   · exact s (by rw[(r5 c a).2];simp)
 · rw [m]
   split
   · exact .inr (by simp)
   · exact .inr s
 · rw[d];exact kV.mono q n5
 · have:=(r5 c n).2;rw[e,r3]at this;omega
 · rw [m,if_neg,n2]
   rintro (e | e)
   · exact u e.symm
   · exact z e
 · rw [m] at r
   split at r
   · omega
   · exact n3 c n r
 · rcases n with rfl | n
   · exact r2
   · exact (r5 c n).1
 · rw[m,if_pos n]
def Zbfn (kV:Kd γ) (raw:α→γ) (bI:Nat) (k:ObR δ) (get:α→δ) (b:Nat) (x1:α) (g0:G) (q:Pd) (v:Value) (g1:G):Prop :=
 Base g0 g1∧q.p g1 v∧∃x2 u1 u2,(Zxl kV raw 0 b x2).p g1 u1∧(pPO k bI 1 (get x1)).p g1 u2∧raw x1=raw x2
theorem Zboi {x0 x1:α} {f:FuncId} {fn:Func} {c:Code} {A:List Pd} (p:P.funcs[f]? =some fn) (I:fn.body=some c) (J:fn.ntmps=N) (d:A.length+1≤N) (l:Free A) (o:q.fp=[])
   (h:∀(a:Act) (g0 g:G) (b:Nat),St N (((0,pEq (ptrB b 0))::Zip A 1)++[(1002,Zxl kV raw 0 b x0),(1001,pPO k bI 1 (get x0))]) a g→Base g0 g→c.wp P (bodyPost P fn (FinP (Zbfn kV raw bI k get b x1 g0 q))) a g.w):FnMR P f (obIn kV raw bI k get) x0 x1 A q:=by
 refine Zv4 p I J d l o fun a g b B t=>?_
 obtain⟨g',K,L,z⟩:=Zblc (i:=0) (s:=0) (j:=0) (j2:=1) (m1:=1002) (m2:=1001) rfl B (by unfold AUX;decide) (fun n en C D f p=>by
   cases n with
   | zero=>exact absurd rfl D
   | succ n =>
     have M:en∈Zip A 1:=Zbxv C
     obtain⟨i,h1,O⟩:=Zpu M
     rw[l.at O]at p;cases p)
 have E:Base g g':=t.step L (by unfold AUX;decide)
 have x:=h a g g' b z E
 rw[K]at x
 have u:∀en w,FinP (Zbfn kV raw bI k get b x1 g q) en w→FinP (Z7z (obIn kV raw bI k get) x1 b g q) en w:=by
   rintro en w ⟨g1,v,rfl,rfl,Q,F,x2,u1,u2,n1,n2,R⟩
   obtain⟨g2,H,y,S⟩:=Zbd5 n1 n2 R (by unfold AUX;decide)
   exact⟨g2,v,rfl,H.symm,Q.step y (by unfold AUX;decide),q.st y (by rw[o];intro f p;cases p) F,S⟩
 refine Code.wp_mono (fun e a' w' m=>?_) x
 cases e with
 | normal=>exact⟨m.1,m.2.imp fun v r=>⟨r.1,u _ _ r.2⟩⟩
 | ret=>exact⟨m.1,m.2.imp fun v r=>⟨r.1,u _ _ r.2⟩⟩
 | panic=>exact⟨m.1,u _ _ m.2⟩
 | outgrown=>exact u _ _ m
 | _=>exact m
variable {ε:Type} {K:Nat→ObR ε} {X:ε} {q2 q3:Pd} {x0:δ}
def Z3p (P:Program) (f:FuncId) (k:ObR δ) (x0:δ) (A:List Pd) (K:Nat→ObR ε) (X:ε) (q2 q3:Pd):Prop :=
 ∀ (g:G) (bI:Nat) (B:Nat → Prop) (args:List Value),k.R g bI B x0 → bI < g.w.heap.size → (∀ c,B c → c < g.w.heap.size ∧ c ≠ bI) → ArgsOk A g args →
   Calls P f (Value.pointer (some ⟨bI,0,none⟩)::args).toArray g.w (fun e w'=>∃g' b B' v2 v3,e=.returned (.tuple #[.pointer (some ⟨b,0,none⟩),v2,v3])∧w'=g'.w∧Zsu (fun c=>c=bI∨B c) g g'∧(K bI).R g' b B' X ∧
     (∀c,c=b∨B' c→(c=bI∨B c∨g.w.heap.size≤c)∧c<g'.w.heap.size)∧(∀c,B' c→c≠b)∧q2.p g' v2∧q3.p g' v3)
def TEnd (K:Nat→ObR ε) (X:ε) (bI:Nat) (q2 q3:Pd) (g0:G) (v:Value) (g1:G):Prop :=
 ∃b v2 v3,v=.tuple #[.pointer (some ⟨b,0,none⟩),v2,v3]∧Base g0 g1∧(Zkq (some b) (K bI) 0 X).p g1 (.pointer (some ⟨b,0,none⟩))∧q2.p g1 v2∧q3.p g1 v3
open Classical in
theorem Z58 {f:FuncId} {fn:Func} {c:Code} {A:List Pd} (O:P.funcs[f]? =some fn) (Q:fn.body=some c) (R:fn.ntmps=N) (j:A.length+1≤N) (S:Free A)
   (h:∀(a:Act) (g0 g:G) (bI:Nat),St N (((0,pEq (ptrB bI 0))::Zip A 1)++[(1001,pPO k bI 1 x0)]) a g→Base g0 g→c.wp P (bodyPost P fn (FinP (TEnd K X bI q2 q3 g0))) a g.w):Z3p P f k x0 A K X q2 q3:=by
 intro g bI B args T l o u
 let own:Nat→Nat:=fun c=>if c=bI then 2 else if B c then 2+AUX else 0
 let g0:G:=⟨g.w,g.pr,own,g.hpr,g.gl⟩
 have C:g.le g0:=⟨Nat.le_refl _,fun _ _ h=>h,fun _ _ _=>rfl,fun _ _=>rfl,Zbxj _⟩
 have n:∀c,own c=if c=bI then 2 else if B c then 2+AUX else 0:=fun _=>rfl
 have o3:∀c,own c≠0→c=bI∨B c:=fun c m=>by
   rw[n]at m
   split at m
   · left;assumption
   · split at m
     · right;assumption
     · exact absurd rfl m
 have i:(pPO k bI 1 x0).p g0 undef:=by
   refine Z31 (B:=B) (k.st T C (fun _ _=>⟨rfl,rfl⟩)) l (show own bI=2 by rw[n,if_pos rfl]) (fun c _ m=>?_) (fun c m=>⟨(o c m).1,show own c=2+AUX by rw[n,if_neg (o c m).2,if_pos m]⟩)
   have m:own c=2:=m
   rw[n]at m
   split at m
   · assumption
   · split at m <;> simp[AUX]at m
 have q:=Zvh (g:=g) (own:=own) (fn:=fn) (qs:=pEq (ptrB bI 0)) (b:=bI) R j S u rfl
 have D:St N (((0,pEq (ptrB bI 0))::Zip A 1)++[(1001,pPO k bI 1 x0)]) _ g0:=⟨q.size,q.df,fun en r=>by
   rcases Zbxs.1 r with r | r
   · exact q.h en r
   · rw[Zbxf.1 r];exact i⟩
 have x:Base g0 g0:=⟨.refl _,rfl,rfl,rfl,fun _ _ h=>⟨rfl,rfl,h⟩⟩
 refine Calls.mono (calls_of_wp O Q (h _ g0 g0 bI D x)) ?_
 rintro en w' ⟨g1,v,rfl,rfl,b,v2,v3,rfl,y,⟨b1,B1,⟨e1,E⟩,F,H,z,U,s⟩,I,J⟩
 obtain rfl:=E _ rfl
 refine⟨g1,b,B1,v2,v3,rfl,rfl,Ztw g.gl o3 y,F,fun c m=>?_,fun c m e=>?_,I,J⟩
 · have d:g1.own c≠0∧c<g1.w.heap.size:=by
     rcases m with rfl | m
     · exact⟨by rw[z];omega,H⟩
     · exact⟨by rw[(s c m).2];omega,(s c m).1⟩
   refine⟨Classical.byContradiction fun t=>?_,d.2⟩
   have L:c<g.w.heap.size:=Zbx1 fun h=>t (.inr (.inr h))
   by_cases M:own c=0
   · exact d.1 (y.same c L M).2.2
   · rcases o3 c M with h | h
     · exact t (.inl h)
     · exact t (.inr (.inl h))
 · have:=(s c m).2
   rw[e,z]at this;simp[AUX]at this
open Classical in
theorem Zv3 {f:FuncId} {xs:List Operand} {A:List Pd} {ty:Array TypeId} {m j b:Nat} (l:Zi P f) (E:Z3p P f k x0 A K X q2 q3) (F:o.op=.call {callee:=.value (.func f),args:=(x::xs).toArray,argTypes:=ty}) (H:o.dst=some d)
   (I:q2.fp=[]) (J:q3.fp=[]) (hs:Opd uses (.tmp m) (pPO k b j x0)) (W:Opd uses x (pEq (ptrB b 0))) (z:OpdL uses xs A):OB P N o uses [(d,pTup [Zkq none (K b) j X,q2,q3])] [j+1,j+1+AUX]:=by
 intro a g K' Q Y L C Z
 obtain⟨B,hR,hb,D,a',i⟩:=Zyo (hs a g C)
 have hv:a.eval x=.pointer (some ⟨b,0,none⟩):=W a g C
 have hr:(execOp a.eval o).run P g.w=.ok (.enter f (Value.pointer (some ⟨b,0,none⟩)::xs.map a.eval).toArray) g.w:=by
   simp[execOp,F,resolve,Znl,Deferred.ofValue,invoke,Zgo l,hv]
 unfold Oper.wp
 rw[hr]
 show Calls P f _ g.w _
 have M:∀c,B c→c≠b:=fun c n h=>by
   have:=(i c n).2
   rw[h,D]at this;simp[AUX]at this
 refine Calls.mono (E g b B _ hR hb (fun c n=>⟨(i c n).1,M c n⟩) (z.ok C)) ?_
 rintro e w' ⟨g',b',B',v2,v3,rfl,rfl,r,O,v,R,S,T⟩
 let g2:G:=⟨g'.w,g'.pr,fun c=>if c=b' then j+1 else if B' c then j+1+AUX else if c<g.w.heap.size∧g.own c∉[j+1,j+1+AUX]then g.own c else 0,g'.hpr,g'.gl⟩
 have y:g'.le g2:=⟨Nat.le_refl _,fun _ _ h=>h,fun _ _ _=>rfl,fun _ _=>rfl,Zbxj _⟩
 have c':=r.le.size
 have q:∀c,g2.own c=if c=b' then j+1 else if B' c then j+1+AUX else if c<g.w.heap.size∧g.own c∉[j+1,j+1+AUX]then g.own c else 0:=fun _=>rfl
 have u:∀c,c=b'∨B' c→c<g.w.heap.size→g.own c∈[j+1,j+1+AUX]:=fun c n d'=>by
   rcases (v c n).1 with rfl | h | h
   · rw[D];simp
   · rw[(i c h).2];simp
   · omega
 refine Z _ g2 ⟨⟨r.le.size,r.le.pr,r.le.cell,r.le.blk,r.le.dr⟩,r.os,r.tape,r.output,fun c n t=>?_,fun c h1 h2=>?_,fun c n t=>?_⟩ fun e l=>?_
 · have U:c ≠ b:=fun h=>t (by rw [h,D];simp)
   have V:¬B c:=fun h=>t (by rw[(i c h).2];simp)
   obtain⟨k1,k2⟩:=r.same c n (by simp[U,V])
   refine⟨k1,k2,?_⟩
   rw[q,if_neg,if_neg,if_pos ⟨n,t⟩]
   · exact fun h=>t (u c (.inr h) n)
   · exact fun h=>t (u c (.inl h) n)
 · rw [q]
   split
   · exact .inr (by simp)
   split
   · exact .inr (by simp)
   · rw[if_neg (by omega)];exact .inl rfl
 · rw [q]
   split
   · exact .inr (by simp)
   split
   · exact .inr (by simp)
   · rw[if_neg (fun h=>h.2 t)];exact .inl rfl
 · rw [Zbxf.1 l]
   show (pTup [Zkq none (K b) j X,q2,q3]).p g2 (Act.at _ d)
   rw[H,Zdn _ (by rw[Y];exact L d H)]
   refine Zft ⟨b',B',⟨rfl,fun _ h=>by cases h⟩,(K b).st O y (fun _ _=>⟨rfl,rfl⟩),(v b' (.inl rfl)).2,by rw[q,if_pos rfl],fun c n s=>?_,fun c n=>⟨(v c (.inr n)).2,by rw[q,if_neg (R c n),if_pos n]⟩⟩ (Pd.le I y rfl rfl rfl S) (Pd.le J y rfl rfl rfl T)
   rw[q]at s
   split at s
   · assumption
   split at s
   · simp[AUX]at s
   split at s
   · rename_i h3
     exact absurd (by rw[s];simp) h3.2
   · omega
end
section
variable {P:Program} {N:Nat} {o:Oper} {uses outs:Z8} {d:Nat} {q:Pd} {x y z:Operand} {α β γ:Type} {kV:Kd γ} {raw:α→SlV→γ} {lst:α→List β} {dk:Kd β} {e:TypeId}
def ArrB (dk:Kd β) (e:TypeId) (xs:List β) (g:G) (v:Value) (B:Nat→Prop):Prop :=
 (xs=[]∧∃A,v=.slice A 0 0)∨∃b cap cur,v=.slice (some ⟨b,0,none⟩) xs.length cap∧B b∧g.w.heap[b]?=some (.cells cur e (0,0))∧xs.length≤cap∧cap≤maxLen∧cur.size=cap*dk.sz∧∀(i:Nat) (x:β),xs[i]?=some x→dk.K g x (seg cur.toList (i*dk.sz) dk.sz)
end
section
variable {P:Program} {N:Nat} {o:Oper} {uses outs:Z8} {S:List Nat} {d:Nat} {q:Pd} {x y z:Operand} {β:Type} {dk:Kd β} {mt kt et:TypeId}
def MRel (dk:Kd β) (g:G):List (Int×β)→List MapEntry→Prop
 | [],[]=>True
 | e::m,x::es=>(x.key=.int .i64 e.1∧dk.V g e.2 x.val)∧MRel dk g m es
 | _,_=>False
theorem Zbiy {g g':G} (k:g.le g') {v:β} {u:Value} (h:dk.V g v u):dk.V g' v u:=h.imp fun _ h=>⟨dk.mono k h.1,h.2⟩
theorem MRel.mono {g g':G} (k:g.le g'):∀{m:List (Int×β)} {es:List MapEntry},MRel dk g m es→MRel dk g' m es
 | [],[],_=>trivial
 | _::_,_::_,h=>⟨⟨h.1.1,Zbiy k h.1.2⟩,MRel.mono k h.2⟩
def World.put (w:World) (b:Nat) (ob:Obj):World:={w with heap:=w.heap.setIfInBounds b ob}
structure MapB (β:Type) where
 old:List (Int×List β)
 last:Option (Int×List β)
def MapB.all (s:MapB β):List (Int×List β):=s.old++s.last.toList
def MapB.put (s:MapB β) (n:Int) (v:List β):MapB β:=match s.last with
 | none=>⟨s.old,some (n,v)⟩
 | some e=>if e.1=n then ⟨s.old,some (n,v)⟩else ⟨s.old++[e],some (n,v)⟩
variable {ee j jr:Nat}
end
section
variable {P:Program} {N:Nat} {o:Oper} {uses outs:Z8} {S:List Nat} {d:Nat} {q:Pd} {x y z:Operand} {α β γ:Type} {dk:Kd β} {t e j:Nat} {bytes:Nat}
theorem Zbod {xs:List β} {g:G} {v:Value} (h:(pArr dk e j xs).p g v):∃s:SlV,v=slv s:=by
 rcases h with ⟨rfl,A,rfl⟩ | ⟨b,cap,cur,rfl,_⟩
 · exact⟨(A,0,0),rfl⟩
 · exact⟨(some ⟨b,0,none⟩,xs.length,cap),rfl⟩
end
section
variable {P:Program} {N:Nat} {o:Oper} {uses outs:Z8} {S:List Nat} {d:Nat} {q:Pd} {x y z:Operand} {α β γ:Type} {kV:Kd γ} {raw:α→SlV→γ} {lst:α→List β} {k:Kd α} {dk:Kd β} {t e j:Nat} {bytes:Nat}
def FnL (P:Program) (f:FuncId) (A:List Pd) (q:Pd):Prop:=∀(g:G) (args:List Value),ArgsOk A g args →
 Calls P f args.toArray g.w (fun en w'=>∃g' v,en=.returned v∧w'=g'.w∧Step [] g g'∧∀g2:G,g2.w=g'.w→(∀b o,g.w.heap.size≤b→g'.pr b o→g2.pr b o)→q.p g2 v)
theorem FnL.ok {f:FuncId} {A:List Pd} (h:FnL P f A q):FnOk P f A q:=fun g args k=>Calls.mono (h g args k) fun en w' ⟨g',v,m,n,p,r⟩=>⟨g',v,m,n,p,r g' rfl (fun _ _ _ h=>h)⟩
theorem FnL.of {f:FuncId} {A:List Pd} (h:FnOk P f A q) (k:∀(g g':G) (v:Value),q.p g v→q.p g' v):FnL P f A q:=fun g args m=>Calls.mono (h g args m) fun en w' ⟨g',v,n,r,s,t⟩=>⟨g',v,n,r,s,fun g2 _ _=>k _ _ _ t⟩
end
section
variable {P:Program} {N:Nat} {o:Oper} {uses outs:Z8} {S:List Nat} {d:Nat} {q:Pd} {x y z:Operand} {α β γ:Type} {kV:Kd γ} {raw:α→SlV×SlV→γ} {l1 l2:α→List β} {k:Kd α} {dk:Kd β} {t e j:Nat} {xv:α}
theorem ArrB.st {xs:List β} {g g':G} {v:Value} {B:Nat→Prop} (h:ArrB dk e xs g v B) (k:g.le g') (hh:∀c,B c→g'.w.heap[c]?=g.w.heap[c]?):ArrB dk e xs g' v B:=by
 rcases h with h | ⟨c,cap,cur,k1,k2,k3,k4,k5,k6,k7⟩
 · exact .inl h
 · exact .inr ⟨c,cap,cur,k1,k2,(hh c k2).trans k3,k4,k5,k6,fun i x m=>dk.mono k (k7 i x m)⟩
theorem Zbgw {xs:List β} {g:G} {v:Value} {B:Nat→Prop} (h:ArrB dk e xs g v B) (q:∀c,B c→c<g.w.heap.size∧∀o,¬g.pr c o):∃T:Nat→Prop,(∀c,T c→B c)∧(∀c c',T c→T c'→c=c')∧∀(g0:G) (j:Nat),g0.w=g.w→g0.pr=g.pr→g.le g0→(∀c,g0.own c=j+1↔T c)→(pArr dk e j xs).p g0 v:=by
 rcases h with ⟨m,n⟩ | ⟨c,cap,cur,k1,k2,k3,k4,k5,k6,k7⟩
 · exact⟨fun _=>False,fun _ h=>h.elim,fun _ _ h=>h.elim,fun g0 j _ _ _ _=>.inl ⟨m,n⟩⟩
 · refine ⟨fun c'=>c'=c,fun c' h=>h ▸ k2,fun a b m n=>m.trans n.symm,fun g0 j e1 e2 r k=>.inr ⟨c,cap,cur,k1,by rw [e1];exact (q c k2).1,(k c).2 rfl,fun c' _ h=>(k c').1 h,by rw [e1];exact k3,by simpa using k4,k5,k6,fun i x s=>?_,fun o=>by rw [e2];exact (q c k2).2 o⟩⟩
   rw[Zbxm]at s
   obtain⟨u,y,t⟩:=Zbxw.1 s
   obtain rfl:=Zbxo.inj t
   exact dk.mono r (k7 i u y)
theorem Zbe9 {xs:List β} {g:G} {v:Value} (h:(pArr dk e j xs).p g v):∃B,ArrB dk e xs g v B∧∀c,B c→c<g.w.heap.size∧g.own c=j+1∧∀o,¬g.pr c o:=by
 rcases h with h | ⟨c,cap,cur,m,k⟩
 · exact⟨fun _=>False,.inl h,fun _ h=>h.elim⟩
 · refine ⟨fun c'=>c'=c,.inr ⟨c,cap,cur,m,rfl,k.heap,by simpa using k.len,k.max,k.sz,fun i x n=>k.known i x (by rw [Zbxm,n];rfl)⟩,fun c' h=>?_⟩
   subst h
   exact⟨k.lt,k.own,k.npr⟩
abbrev AUX2:Nat:=AUX+1
end
section
variable {P:Program} {N:Nat} {o:Oper} {uses outs:Z8} {S:List Nat} {d:Nat} {q:Pd} {x y z:Operand} {α β β' γ:Type} {kV:Kd γ} {raw:α→SlV×SlV→γ} {l1:α→List β} {l2:α→List β'} {dk:Kd β} {dr:Kd β'} {t e er j:Nat} {xv:α}
theorem RowB.st {xs:List β} {g g':G} {v:Value} {B:Nat→Prop} (h:RowB dk e xs g v B) (m:g.le g') (hh:∀c,B c→g'.w.heap[c]?=g.w.heap[c]?∧g'.pr c=g.pr c):RowB dk e xs g' v B:=by
 obtain⟨n,k⟩:=h
 refine⟨n.imp fun _ h=>⟨dk.sl.mono m h.1,h.2⟩,?_⟩
 rcases k with k | ⟨c,cap,cur,m1,m2,m3,m4,m5,m6,m7⟩
 · exact .inl k
 · obtain ⟨k3,k4⟩:=hh c m2
   exact .inr ⟨c,cap,cur,m1,m2,k3.trans m3,m4,m5,m6,fun i p=>by rw[k4];exact m7 i p⟩
theorem Zbh4 {xs:List β} {g:G} {v:Value} {B:Nat→Prop} (h:RowB dk e xs g v B) (q:∀c,B c→c<g.w.heap.size):∃T:Nat→Prop,(∀c,T c→B c)∧∀(g0:G) (j:Nat),g0.w=g.w→g0.pr=g.pr→g.le g0→(∀c,g0.own c=j+1↔T c)→(pRow dk e j xs).p g0 v:=by
 obtain⟨n,h⟩:=h
 rcases h with ⟨r,s⟩ | ⟨c,cap,cur,k1,k2,k3,k4,k5,k6,k7⟩
 · exact⟨fun _=>False,fun _ h=>h.elim,fun g0 j _ _ k _=>⟨n.imp fun _ h=>⟨dk.sl.mono k h.1,h.2⟩,.inl ⟨r,s⟩⟩⟩
 · exact⟨fun c'=>c'=c,fun c' h=>h▸k2,fun g0 j e1 e2 k m=>⟨n.imp fun _ h=>⟨dk.sl.mono k h.1,h.2⟩,.inr ⟨c,cap,cur,k1,by rw[e1];exact q c k2,(m c).2 rfl,by rw[e1];exact k3,k4,k5,k6,fun i t=>by rw[e2];exact k7 i t⟩⟩⟩
theorem Zbfb {xs:List β} {g:G} {v:Value} (h:(pRow dk e j xs).p g v):∃B,RowB dk e xs g v B∧∀c,B c→c<g.w.heap.size∧g.own c=j+1:=by
 obtain⟨k,h⟩:=h
 rcases h with ⟨m,n⟩ | ⟨c,cap,cur,k1,k2,k3,k4,k5,k6,k7,k8⟩
 · exact⟨fun _=>False,⟨k,.inl ⟨m,n⟩⟩,fun _ h=>h.elim⟩
 · exact⟨fun c'=>c'=c,⟨k,.inr ⟨c,cap,cur,k1,rfl,k4,k5,k6,k7,k8⟩⟩,fun c' h=>by subst h;exact⟨k2,k3⟩⟩
theorem Zbdm {zs:List Value}:∀(n i:Nat),i<n→seg (Zbxl n zs).flatten (i*zs.length) zs.length=zs
 | 0,_,h=>absurd h (Nat.not_lt_zero _)
 | n+1,0,_=>by simp[seg,Zby3]
 | n + 1,i + 1,h=>by
   have:=Zbdm (zs:=zs) n i (by omega)
   simp only[seg]at this⊢
   rw[Zby3,List.flatten_cons,Zby6,Nat.one_mul,Zbzd,List.drop_append,Nat.add_sub_cancel_left,Zbyg (by omega),Zbyt]
   exact this
def setI (l:List Int) (ps:List (Nat×Int)):List Int:=ps.foldl (fun l p=>l.set p.1 p.2) l
theorem Z9c:∀(ps:List (Nat×Int)) (l:List Int),(setI l ps).length=l.length
 | [],_=>rfl
 | p::ps,l=>(Z9c ps (l.set p.1 p.2)).trans (by simp)
theorem Z5y {k:IntKind}:∀(ps:List (Nat×Int)) (l:List Int),(∀p∈ps,p.1<l.length)→Instr.fill (fun i=>some (i*1,1)) (l.map (Value.int k)).toArray (ps.map fun p=>(p.1,Value.int k p.2))=some ((setI l ps).map (Value.int k)).toArray
 | [],_,_=>rfl
 | p :: ps,l,h=>by
   have h1:=h p (Zbxz ..)
   have ih:=Z5y (k:=k) ps (l.set p.1 p.2) (fun x m=>by rw[Zbyl];exact h x (Zbxt _ m))
   rw[Zbx3,Instr.fill]
   have n:(Value.int k p.2).cells=#[Value.int k p.2]:=rfl
   simp only[n,Zbyw]
   rw[if_neg (by simp;omega)]
   have e:(#[Value.int k p.2].zipIdx.foldl (fun cs (x:Value×Nat)=>cs.setIfInBounds (p.1+x.2) x.1) (l.map (Value.int k)).toArray)=((l.set p.1 p.2).map (Value.int k)).toArray:=by simp[List.map_set]
   refine Eq.trans ?_ ih
   congr 1
   simp only[Zbyw]
theorem Zp0 {n te:Nat} {k:IntKind} {ps:List (Nat×Operand)} {vs:List (Nat×Int)} (b:P.underlying t=some (.array n te)) (c:(P.info? t).bind (·.zero)=some (.agg ((Zbxl n (Value.int k 0)).toArray))) (hs:(P.info? te).map (·.size)=some 1) (e:ps.map (·.1)=vs.map (·.1)) (f:(vs.all fun v=>decide (v.1<n))=true)
   (s:o.op=.build t ps.toArray) (A:o.dst=some d) (B:OpdL uses (ps.map (·.2)) (vs.map fun v=>pInt k v.2)):OB P N o uses [(d,(Kd.arr n (Kd.int k)).pd (setI (Zbxl n 0) vs))] [] :=
 Zdj s A fun a g hh=>by
   have C:=B.ok hh
   have q:(ps.toArray.map fun (i,x)=>(i,a.eval x)).toList=vs.map fun p=>(p.1,Value.int k p.2):=by
     rw[Array.toList_map]
     apply Zbye
     intro j
     have h:=congrArg (·[j]?) e
     simp only[Zbxm]at h⊢
     cases m:ps[j]? with
     | none=>rw [m] at h;cases r:vs[j]? with
       | none=>rfl
       | some v=>rw[r]at h;cases h
     | some pj =>
       cases r:vs[j]? with
       | none=>rw[m,r]at h;cases h
       | some v =>
         rw[m,r]at h
         have D:pj.1=v.1:=Zbxo.inj h
         have u:=C.2 j (pInt k v.2) (a.eval pj.2) (by rw[Zbxm,r];rfl) (by rw[Zbxm,Zbxm,m];rfl)
         rw[Zcy]at u
         simp[D,u]
   have y:=Z5y (k:=k) vs (Zbxl n 0) (fun p m=>by rw[Zbyy];exact of_decide_eq_true (Zbx8.1 f p m))
   rw[←q,List.map_replicate]at y
   refine⟨_,Zyn b c hs y g.w,?_⟩
   have z:=Zbmg (dk:=Kd.int k) (enc:=fun x=>[Value.int k x]) (fun g x=>rfl) g (setI (Zbxl n 0) vs)
   rw[Z9c,Zbyy]at z
   refine⟨_,z,?_⟩
   show Value.agg _=Value.agg _
   congr 1
   induction setI (Zbxl n 0) vs with
   | nil=>rfl
   | cons x l ih=>simp_all
theorem Zbbi {te dd:Nat} {k k':IntKind} {w:World} (n:P.plainKey te=true) (q:P.underlying te=some (.int k')) (p:P.cellsOf te=1):∀(is:List Nat) (l m:List Int),(∀i∈is,i<l.length∧i<m.length) →
   (Op.eqItems (dd+1) te (P.cellsOf te) (l.map (Value.int k)).toArray (m.map (Value.int k)).toArray is).run P w=.ok (is.all fun i=>l[i]? == m[i]?) w
 | [],_,_,_=>by simp[Op.eqItems]
 | i :: is,l,m,h=>by
   obtain⟨r,s⟩:=h i (Zbxz ..)
   have ih:=Zbbi (w:=w) (k:=k) (dd:=dd) n q p is l m (fun x t=>h x (Zbxt _ t))
   have p1:(part te (l.map (Value.int k)).toArray (i*P.cellsOf te)).run P w=.ok (.int k l[i]) w:=run_part_plain w n (by rw[p];simp[r])
   have p2:(part te (m.map (Value.int k)).toArray (i*P.cellsOf te)).run P w=.ok (.int k m[i]) w:=run_part_plain w n (by rw[p];simp[s])
   rw[Op.eqItems,Sem.run_bind,p1,Result.andThen_ok,Sem.run_bind,p2,Result.andThen_ok,Sem.run_bind,run_equalIn_int w dd te k k' l[i] m[i] q,Result.andThen_ok]
   rw[List.all_cons,Zbxk r,Zbxk s]
   by_cases e:l[i]=m[i]
   · rw [show (l[i] == m[i])=true from beq_iff_eq.2 e,show (some l[i] == some m[i])=true from beq_iff_eq.2 (by rw [e])]
     simpa using ih
   · rw [show (l[i] == m[i])=false from beq_eq_false_iff_ne.2 e,show (some l[i] == some m[i])=false from beq_eq_false_iff_ne.2 (fun h=>e (Zbxo.inj h))]
     simp
theorem Zbh3 {l m:List Int} {n:Nat} (h1:l.length=n) (h2:m.length=n):((List.range n).all fun i=>l[i]? == m[i]?)=(l==m):=by
 rw[Bool.eq_iff_iff,Zbx8,beq_iff_eq]
 constructor
 · intro h
   apply Zbye
   intro i
   by_cases k:i<n
   · exact beq_iff_eq.1 (h i (Zbzc.2 k))
   · rw[Zbxu (by omega),Zbxu (by omega)]
 · rintro rfl i _
   simp
theorem Z6b {n:Nat} {k:IntKind} {l:List Int} {g:G} {cs:List Value} (h:(Kd.arr n (Kd.int k)).K g l cs):cs=l.map (Value.int k)∧l.length=n:=by
 obtain⟨p,m,_,q⟩:=h
 have m:cs.length=n*1:=m
 refine⟨List.ext_getElem? fun i=>?_,p⟩
 rw[Zbxm]
 by_cases hi:i<n
 · have:=q i l[i] (Zbxk (by omega))
   have this:seg cs (i*1) 1=[Value.int k l[i]]:=this
   have e:=congrArg (·[0]?) this
   simp only[seg,Zbxq,Zbxy]at e
   rw[Zbxk (show i<l.length by omega)]
   simpa using e
 · rw[Zbxu (by omega),Zbxu (by omega)];rfl
theorem Zbku {t ty te n:Nat} {k k':IntKind} {l m:List Int} (u:P.underlying t=some (.array n te)) (v:(P.info? te).isSome=true) (z:P.plainKey te=true) (h:P.underlying te=some (.int k')) (b:P.cellsOf te=1) (p:P.eqGuardType P.depth t=false)
   (q:o.op=.binOp .eql t x y ty) (c:o.dst=some d) (e:Opd uses x ((Kd.arr n (Kd.int k)).pd l)) (f:Opd uses y ((Kd.arr n (Kd.int k)).pd m)):OB P N o uses [(d,Zbo (l==m))] [] :=
 Zcl c fun a g hh=>by
   obtain⟨cs,i,e1⟩:=e a g hh
   obtain⟨cs',A,e2⟩:=f a g hh
   obtain⟨rfl,n1⟩:=Z6b i
   obtain⟨rfl,n2⟩:=Z6b A
   obtain⟨ii,r⟩:=Option.isSome_iff_exists.1 v
   have B:a.eval x=.agg (l.map (Value.int k)).toArray:=e1
   have s:a.eval y=.agg (m.map (Value.int k)).toArray:=e2
   have C:(Op.equal t (.agg (l.map (Value.int k)).toArray) (.agg (m.map (Value.int k)).toArray)).run P g.w=.ok (l==m) g.w:=by
     show (Op.equalIn (9998+1+1) t _ _).run P g.w=_
     rw[run_equalIn_array _ _ _ _ u r,Zbbi z h b _ l m (fun j D=>by have:=Zbzc.1 D;omega),Zbh3 n1 n2]
   have E:(binOp .eql t (.agg (l.map (Value.int k)).toArray) (.agg (m.map (Value.int k)).toArray)).run P g.w=.ok (.bool (l==m)) g.w:=by
     show (do pure (.bool (←Op.equal t (.agg (l.map (Value.int k)).toArray) (.agg (m.map (Value.int k)).toArray))):Sem Value).run P g.w=_
     simp only[Sem.run_bind,C,Result.andThen_ok,Sem.run_pure]
   have hg:(eqGuard .eql t x y (.agg (l.map (Value.int k)).toArray) (.agg (m.map (Value.int k)).toArray)).run P g.w=.ok () g.w:=by
     apply run_eqGuard_agg <;> first | exact p | rfl
   exact⟨.bool (l==m),by simp[execOp,q,B,s,hg,E],Zgt _ g⟩
theorem Z1z {z:β} {zs:List Value} (h:∀g,dk.K g z zs) (n:Nat) (g:G):(Kd.arr n dk).K g (Zbxl n z) (Zbxl n zs).flatten:=by
 have q:=dk.len (h g)
 refine⟨by simp,by simp[List.length_flatten,q],fun u m=>?_,fun i u m=>?_⟩
 · obtain ⟨l,p,k⟩:=List.mem_flatten.1 m
   rw[List.eq_of_mem_replicate p]at k
   exact dk.one (h g) u k
 · obtain ⟨p,k⟩:=Zbxn.1 m
   rw[List.getElem_replicate]at k
   subst k
   rw[←q,Zbdm n i (by simpa using p)]
   exact h g
def obAR (kV:Kd γ) (raw:α→SlV×SlV→γ) (l1:α→List β) (dk:Kd β) (e:TypeId) (l2:α→List β') (dr:Kd β') (er:TypeId):ObR α where
 R:=fun g b B x=>∃s cs t B1 B2,g.w.heap[b]?=some (.cells (Zby4 cs) t (0,0))∧(∀o,¬g.pr b o)∧kV.K g (raw x s) cs∧ArrB dk e (l1 x) g (slv s.1) B1∧(∀c,B1 c→∀o,¬g.pr c o)∧RowB dr er (l2 x) g (slv s.2) B2∧(∀c,B1 c→B c)∧(∀c,B2 c→B c)∧(∀c,B1 c→¬B2 c)
 st:=by
   rintro g g' b B x ⟨s,cs,t,B1,B2,q,r,u,v,n,y,m,p,z⟩ k hh
   obtain⟨k1,k2⟩:=hh b (.inl rfl)
   exact⟨s,cs,t,B1,B2,k1.trans q,fun o=>by rw[k2];exact r o,kV.mono k u,v.st k (fun c h=>(hh c (.inr (m c h))).1),fun c h o=>by rw[(hh c (.inr (m c h))).2];exact n c h o,y.st k (fun c h=>hh c (.inr (p c h))),m,p,z⟩
abbrev Z5c (kV:Kd γ) (raw:α→SlV×SlV→γ) (l1:α→List β) (dk:Kd β) (e:TypeId) (l2:α→List β') (dr:Kd β') (er:TypeId) (b:Nat) (x:α):Pd:=Zda (some b) kV raw (hpL2 (pArr dk e AUX (l1 x)) (pRow dr er AUX2 (l2 x))) 0 x
def Z3t (kV:Kd γ) (raw:α→SlV×SlV→γ) (l1:α→List β) (dk:Kd β) (e:TypeId) (l2:α→List β') (dr:Kd β') (er:TypeId) (b:Nat) (x:α) (g0:G) (q:Pd) (v:Value) (g1:G):Prop:=Base g0 g1∧q.p g1 v∧(Z5c kV raw l1 dk e l2 dr er b x).p g1 (.pointer (some ⟨b,0,none⟩))
open Classical in
theorem Zpl {x0 x1:α} {f:FuncId} {fn:Func} {c:Code} {A:List Pd} (R:P.funcs[f]? =some fn) (S:fn.body=some c) (T:fn.ntmps=N) (C:A.length+1≤N) (U:Free A) (hq:q.fp=[])
   (h:∀(a:Act) (g:G) (b:Nat),St N ((0,Z5c kV raw l1 dk e l2 dr er b x0)::Zip A 1) a g→Base g g→c.wp P (bodyPost P fn (FinP (Z3t kV raw l1 dk e l2 dr er b x1 g q))) a g.w):FnMR P f (obAR kV raw l1 dk e l2 dr er) x0 x1 A q:=by
 intro g b B args V D x y
 obtain⟨s,cs,t,B1,B2,hh,E,W,F,l,H,n,r,o⟩:=V
 obtain⟨T1,t1,t2,t3⟩:=Zbgw F (fun c k=>⟨(x c (n c k)).1,l c k⟩)
 obtain⟨T2,u1,u3⟩:=Zbh4 H (fun c k=>(x c (r c k)).1)
 have nb1:∀c,T1 c→c≠b:=fun c h=>(x c (n c (t1 c h))).2
 have nb2:∀c,T2 c→c≠b:=fun c h=>(x c (r c (u1 c h))).2
 have n12:∀c,T1 c→¬T2 c:=fun c h h'=>o c (t1 c h) (u1 c h')
 let own:Nat→Nat:=fun c=>if c=b then 1 else if T1 c then AUX+1 else if T2 c then AUX2+1 else 0
 have own_def:∀c,own c=if c=b then 1 else if T1 c then AUX+1 else if T2 c then AUX2+1 else 0:=fun _=>rfl
 have o1:own b=1:=if_pos rfl
 have o2:∀c,own c=1→c=b:=fun c k=>by
   rw[own_def]at k
   split at k
   · assumption
   · split at k
     · simp[AUX]at k
     · split at k <;> simp[AUX2,AUX]at k
 have o3:∀c,own c≠0→c=b∨B c:=fun c k=>by
   rw[own_def]at k
   split at k
   · left;assumption
   · split at k
     · right;exact n c (t1 c (by assumption))
     · split at k
       · right;exact r c (u1 c (by assumption))
       · exact absurd rfl k
 have oA:∀c,own c=AUX+1↔T1 c:=fun c=>by
   rw[own_def]
   constructor
   · intro k
     split at k
     · simp[AUX]at k
     · split at k
       · assumption
       · split at k <;> simp[AUX2,AUX]at k
   · intro k
     rw[if_neg (nb1 c k),if_pos k]
 have oB:∀c,own c=AUX2+1↔T2 c:=fun c=>by
   rw[own_def]
   constructor
   · intro k
     split at k
     · simp[AUX2,AUX]at k
     · split at k
       · simp[AUX2]at k
       · split at k
         · assumption
         · cases k
   · intro k
     rw[if_neg (nb2 c k),if_neg (fun h=>n12 c h k),if_pos k]
 let g0:G:=⟨g.w,g.pr,own,g.hpr,g.gl⟩
 have u:g.le g0:=⟨Nat.le_refl _,fun _ _ h=>h,fun _ _ _=>rfl,fun _ _=>rfl,Zbxj _⟩
 have z:(Z5c kV raw l1 dk e l2 dr er b x0).p g0 (.pointer (some ⟨b,0,none⟩)):=⟨s,⟨b,cs,t,rfl,⟨D,o1,fun c _ k=>o2 c k,hh,kV.mono u W,E⟩,fun b' h=>Zbxo.inj h⟩,t3 g0 AUX rfl rfl u oA,u3 g0 AUX2 rfl rfl u oB⟩
 have I:=Zvh (fn:=fn) T C U y z
 have d:Base g0 g0:=⟨.refl _,rfl,rfl,rfl,fun _ _ h=>⟨rfl,rfl,h⟩⟩
 refine Calls.mono (calls_of_wp R S (h _ g0 b I d)) ?_
 rintro en w' ⟨g1,v,rfl,rfl,i,J,⟨s1,⟨b1,cs1,tt,e1,⟨m1,m2,m3,m4,m5,m6⟩,K⟩,L,M⟩⟩
 obtain rfl:=K _ rfl
 obtain⟨C1,c1,c2⟩:=Zbe9 L
 obtain⟨C2,d1,d2⟩:=Zbfb M
 refine⟨g1,v,fun c=>C1 c∨C2 c,rfl,rfl,Ztw g.gl o3 i,⟨s1,cs1,tt,C1,C2,m4,m6,m5,c1,fun c k=>(c2 c k).2.2,d1,fun c h=>.inl h,fun c h=>.inr h,fun c h h'=>?_⟩,fun c k=>?_,J⟩
 · have k1:=(c2 c h).2.1
   have k2:=(d2 c h').2
   rw[k1]at k2;simp[AUX2]at k2
 · have m:c<g1.w.heap.size∧g1.own c≠0∧g1.own c≠1:=by
     rcases k with h | h
     · exact⟨(c2 c h).1,by rw[(c2 c h).2.1];simp[AUX],by rw[(c2 c h).2.1];simp[AUX]⟩
     · exact⟨(d2 c h).1,by rw[(d2 c h).2];simp[AUX2,AUX],by rw[(d2 c h).2];simp[AUX2,AUX]⟩
   refine⟨Classical.byContradiction fun j=>?_,m.1⟩
   have O:c<g.w.heap.size:=Zbx1 fun h=>j (.inr h)
   by_cases Q:own c=0
   · exact m.2.1 (i.same c O Q).2.2
   · rcases o3 c Q with h | h
     · rw[h]at m;exact m.2.2 m2
     · exact j (.inl h)
end
end Go.CL
namespace Go.CL
open Go Go.RowKit Go.Lib
section
variable {P:Program} {N:Nat} {o:Oper} {uses:Z8} {d:Nat} {q:Pd} {x y z:Operand} {α β γ:Type} {kV:Kd γ} {raw:α→SlV→γ} {lst:α→List β} {dk:Kd β} {e b j m:Nat} {x0 x1:α}
open Classical in
theorem Zdi {f:FuncId} {xs:List Operand} {A:List Pd} {ty:Array TypeId} (he:Zi P f) (U:FnMR P f (obR kV raw lst dk e) x0 x1 A q) (V:o.op=.call {callee:=.value (.func f),args:=(x::xs).toArray,argTypes:=ty}) (W:o.dst=some d) (hq:q.fp=[]) (j':m≠d)
   (hs:Opd uses (.tmp m) (pSJ kV raw (hpL (pRow dk e (j+AUX) (lst x0))) j b x0)) (hx:Opd uses x (pEq (ptrB b 0))) (F:OpdL uses xs A):OB P N o uses [(d,q),(m,pSJ kV raw (hpL (pRow dk e (j+AUX) (lst x1))) j b x1)] [j+1,j+AUX+1]:=by
 intro a g K Q hN X I hK
 obtain⟨s,cs,t,n,J⟩:=Zn0 (hs a g I)
 have hv:a.eval x=.pointer (some ⟨b,0,none⟩):=hx a g I
 have hr:(execOp a.eval o).run P g.w=.ok (.enter f (Value.pointer (some ⟨b,0,none⟩)::xs.map a.eval).toArray) g.w:=by
   simp[execOp,V,resolve,Znl,Deferred.ofValue,invoke,Zgo he,hv]
 obtain⟨Y,hT⟩:(pRow dk e (j+AUX) (lst x0)).p g (slv s):=J
 obtain⟨B,hR,l⟩:∃B:Nat→Prop,(obR kV raw lst dk e).R g b B x0∧∀c,B c→c<g.w.heap.size∧g.own c=j+AUX+1:=by
   rcases hT with ⟨i,r⟩ | ⟨c,cap,cur,i,r,h3,L,M,O,S,T⟩
   · exact⟨fun _=>False,⟨s,cs,t,n.2.2.2.1,n.2.2.2.2.2,n.2.2.2.2.1,Y,.inl ⟨i,r⟩⟩,fun c h=>h.elim⟩
   · exact⟨fun c'=>c'=c,⟨s,cs,t,n.2.2.2.1,n.2.2.2.2.2,n.2.2.2.2.1,Y,.inr ⟨c,cap,cur,i,rfl,L,M,O,S,T⟩⟩,fun c' h=>by rw[h];exact⟨r,h3⟩⟩
 unfold Oper.wp
 rw[hr]
 show Calls P f _ g.w _
 have H:=n.2.1
 have Z:∀c,B c→c≠b:=fun c u h=>by
   have:=(l c u).2
   rw[h,H]at this;simp[AUX]at this
 refine Calls.mono (U g b B _ hR n.1 (fun c u=>⟨(l c u).1,Z c u⟩) (F.ok I)) ?_
 rintro en w' ⟨g',v,B',rfl,rfl,y,⟨s',cs',t',r1,r2,r3,r4,r5⟩,a',b'⟩
 let g2:G:=⟨g'.w,g'.pr,fun c=>if c<g.w.heap.size then (if g.own c=j+AUX+1∧¬B' c then 0 else g.own c)else if B' c then j+AUX+1 else 0,g'.hpr,g'.gl⟩
 have C:g'.le g2:=⟨Nat.le_refl _,fun _ _ h=>h,fun _ _ _=>rfl,fun _ _=>rfl,Zbxj _⟩
 have d':=y.le.size
 have k:∀c,g2.own c=if c<g.w.heap.size then (if g.own c=j+AUX+1∧¬B' c then 0 else g.own c)else if B' c then j+AUX+1 else 0:=fun _=>rfl
 have e':g2.own b=j+1:=by
   rw[k,if_pos n.1,if_neg,H]
   rw[H];simp[AUX]
 refine hK v g2 ⟨⟨y.le.size,y.le.pr,y.le.cell,y.le.blk,y.le.dr⟩,y.os,y.tape,y.output,fun c u D=>?_,fun c i r=>?_,fun c u D=>?_⟩ fun en E=>?_
 · have f':c ≠ b:=fun h=>D (by rw [h,H];simp)
   have h':¬B c:=fun h=>D (by rw[(l c h).2];simp)
   obtain⟨k1,k2⟩:=y.same c u (by simp[f',h'])
   refine⟨k1,k2,?_⟩
   rw[k,if_pos u,if_neg]
   intro h;exact D (by rw[h.1];simp)
 · rw [k,if_neg (by omega)]
   split <;> simp
 · rw [k,if_pos u]
   split
   · exact .inl rfl
   · exact .inr D
 · rcases Zbxi.1 E with rfl | E
   · rw [W,Zdn v (by rw [hN];exact X d W)]
     exact Pd.le hq C rfl rfl rfl b'
   · rw [Zbxf.1 E]
     refine Zqz (s:=s') (cs:=cs') (t:=t') ⟨Nat.lt_of_lt_of_le n.1 d',e',fun c u z=>?_,r1,kV.mono C r3,r2⟩ ?_
     · rw [k] at z
       split at z
       · rename_i i'
         split at z
         · omega
         · exact n.2.2.1 c i' z
       · split at z
         · simp[AUX]at z
         · omega
     · refine ⟨r4.imp fun _ h=>⟨dk.sl.mono C h.1,h.2⟩,?_⟩
       rcases r5 with ⟨i,r⟩ | ⟨c,cap,cur,i,r,L,M,O,S,T⟩
       · exact .inl ⟨i,r⟩
       · obtain ⟨k1,k2⟩:=a' c r
         refine .inr ⟨c,cap,cur,i,k2,?_,L,M,O,S,T⟩
         rw[k]
         rcases k1 with k1 | k1
         · rw[if_pos (l c k1).1,if_neg (by simp[r])];exact (l c k1).2
         · rw[if_neg (by omega),if_pos r]
section
variable {k:Kd α} {di:Kd β} {v v':α} {u u':β} {t off:Nat}
abbrev pRB (k:Kd α) (j b:Nat) (v:α):Pd:=pAt (ptrB b 0) (Zbm (some b) k j v)
theorem Z3m {g:G} {w:Value} (h:(pRB k j b v).p g w):∃cs t,Mine k (j+1) v g b cs t:=by
 obtain⟨b',cs,t,_,m,n⟩:=h
 obtain rfl:=n b rfl
 exact⟨cs,t,m⟩
theorem Z4o {g:G} {w:Value} {cs:List Value} {t:TypeId} (m:Mine k (j+1) v g b cs t):(pRB k j b v).p g w:=⟨b,cs,t,rfl,m,fun _ h=>Zbxo.inj h⟩
theorem Zkm {g:G} {w:Value} (h:(pRB k j b v).p g w):Z0g k v g b:=Zdu (show (Zbm (some b) k j v).p g (ptrB b 0) from h)
theorem Zhm {a:Act} {g:G} {L:Z8} (h:St N ((0,Zbm (some b) k j v)::L) a g):St N ((0,pEq (ptrB b 0))::(L++[(1002,pRB k j b v)])) a g:=⟨h.size,h.df,fun en m=>by
 obtain⟨b',cs,t,e1,n,p⟩:=h.h (0,Zbm (some b) k j v) (Zbxz ..)
 obtain rfl:=p b rfl
 rcases Zbxi.1 m with rfl | m
 · exact e1
 · rcases Zbxs.1 m with m | m
   · exact h.h en (Zbxt _ m)
   · rw[Zbxf.1 m];exact Z4o n⟩
theorem Zd3 (q:Ty P t di) (r:∀(g:G) (cs:List Value),k.K g v cs→di.K g u (seg cs off di.sz)) (n:o.op=.load t x) (s:o.dst=some d) (hs:Opd uses (.tmp m) (pRB k j b v)) (w:Opd uses x (pEq (ptrB b off))):OB P N o uses [(d,di.pd u)] [] :=
 Zcl s fun a g hh=>by
   obtain⟨cs,t',p⟩:=Z3m (hs a g hh)
   have y:a.eval x=.pointer (some ⟨b,off,none⟩):=w a g hh
   have h:=r g cs p.2.2.2.2.1
   refine⟨mkV di.ag (seg cs off di.sz),?_,_,h,rfl⟩
   have:=Zj6 (b:=b) (of:=off) q h (fun i u h=>by
     refine Zpv p (off+i) u ?_
     simp only[seg,Zbxq,Zbxy]at h
     split at h
     · exact h
     · cases h)
   simp[execOp,n,y,Instr.loadAt,Instr.sureAddr,this]
theorem Zry (u:Ty P t di) (p:o.op=.store t x z) (w:o.dst=none) (hs:Opd uses (.tmp m) (pRB k j b v)) (y:Opd uses x (pEq (ptrB b off))) (c:Opd uses z (di.pd u'))
   (d:∀(g:G) (cs ys:List Value),k.K g v cs→di.K g u' ys→off+ys.length≤cs.length∧k.K g v' (Zr cs off ys)):OB P N o uses [(m,pRB k j b v')] [j+1] :=
 Zp5 w fun a g hh=>by
   obtain⟨cs,t',h⟩:=Z3m (hs a g hh)
   have f:a.eval x=.pointer (some ⟨b,off,none⟩):=y a g hh
   obtain⟨ys,q,r⟩:=c a g hh
   obtain⟨n,i⟩:=d g cs ys h.2.2.2.2.1 q
   have s:=Zf6 (off:=off) u h.2.2.2.1 q (by simpa using n)
   refine⟨g.wr b (Zr cs off ys).toArray h.1 h.2.2.2.2.2 (fun _=>False) (j+1),?_,Zmb h.2.1 (.inr rfl) h.2.2.2.2.2,fun e l=>?_⟩
   · simp[execOp,p,f,r,Instr.storeAt,Instr.sureAddr,s,wr_w,Zr]
   · rw [Zbxf.1 l]
     exact Z4o (Zz5 h i)
theorem Zce {f:FuncId} {xs:List Operand} {A:List Pd} {ty:Array TypeId} (O:Zi P f) (E:FnB P f (.box k v v'::A.map .val) q) (F:o.op=.call {callee:=.value (.func f),args:=(x::xs).toArray,argTypes:=ty}) (H:o.dst=some d) (R:q.fp=[]) (Z:m≠d)
   (hs:Opd uses (.tmp m) (pRB k j b v)) (S:Opd uses x (pEq (ptrB b 0))) (e:OpdL uses xs A):OB P N o uses [(d,q),(m,pRB k j b v')] [j+1]:=by
 intro a g K Q T I B U
 obtain⟨cs,t',s⟩:=Z3m (hs a g B)
 have V:a.eval x=.pointer (some ⟨b,0,none⟩):=S a g B
 have W:(execOp a.eval o).run P g.w=.ok (.enter f (Value.pointer (some ⟨b,0,none⟩)::xs.map a.eval).toArray) g.w:=by
   simp[execOp,F,resolve,Znl,Deferred.ofValue,invoke,Zgo O,V]
 have vals:∀{A:List Pd} {vs:List Value},ArgsOk A g vs→ParsOk g (A.map .val) vs []:=by
   intro A
   induction A with
   | nil=>intro vs h;cases vs with
     | nil=>trivial
     | cons v vs=>simpa using h.1
   | cons q A ih=>intro vs h;cases vs with
     | nil=>simpa using h.1
     | cons v vs=>exact⟨h.2 0 q v rfl rfl,ih ⟨by simpa using h.1,fun i qi u X Y=>h.2 (i+1) qi u (by simpa using X) (by simpa using Y)⟩⟩
 unfold Oper.wp
 rw[W]
 show Calls P f _ g.w _
 refine Calls.mono (E g (Value.pointer (some ⟨b,0,none⟩)::xs.map a.eval) [b] ⟨rfl,⟨s.1,⟨cs,t',s.2.2.2.1,s.2.2.2.2.1⟩,s.2.2.2.2.2⟩,by simp,vals (e.ok B)⟩) ?_
 rintro en w' ⟨g',r,rfl,rfl,p,⟨⟨m1,⟨cs',t2,m2,m3⟩,m4⟩,_⟩,J⟩
 let g2:G:=⟨g'.w,g'.pr,fun c=>if c<g.w.heap.size then g.own c else 0,g'.hpr,g'.gl⟩
 have l:g'.le g2:=⟨Nat.le_refl _,fun _ _ h=>h,fun _ _ _=>rfl,fun _ _=>rfl,Zbxj _⟩
 have n:∀c,g2.own c=if c<g.w.heap.size then g.own c else 0:=fun _=>rfl
 refine U r g2 ⟨⟨p.le.size,p.le.pr,p.le.cell,p.le.blk,p.le.dr⟩,p.os,p.tape,p.output,fun c y C=>?_,fun c k1 k2=>.inl (by rw[n,if_neg (by omega)]),fun c y C=>.inr (by rw[n,if_pos y];exact C)⟩ fun en z=>?_
 · have L:c ∉ [b]:=fun h=>C (by rw [Zbxf.1 h,s.2.1];simp)
   obtain⟨k1,k2⟩:=p.same c y L
   exact⟨k1,k2,by rw[n,if_pos y]⟩
 · rcases Zbxi.1 z with rfl | z
   · rw [H,Zdn r (by rw [T];exact I d H)]
     exact Pd.le R l rfl rfl rfl J
   · rw [Zbxf.1 z]
     refine Z4o (cs:=cs') (t:=t2) ⟨m1,by rw[n,if_pos s.1];exact s.2.1,fun c y D=>?_,m2,k.mono l m3,m4⟩
     rw[n]at D
     split at D
     · rename_i M;exact s.2.2.1 c M D
     · omega
end
theorem tup0 {g:G}:(pTup []).p g (.tuple #[]):=⟨[],rfl,rfl,fun i q u h=>by simp at h⟩
theorem Zbiz {fn:Func} {w:Value} {a:Act} {g g0:G} {L:Z8} (k:fn.results=#[]) (h:St N L a g) (m:Base g0 g) (hs:(pSJ kV raw (hpL (pRow dk e AUX (lst x1))) 0 b x1).p g w):bodyPost P fn (FinP (Z7q kV raw lst dk e b x1 g0 (pTup []))) .ret a g.w :=
 ⟨h.df,_,by simp[Zfu,k],g,_,rfl,rfl,m,tup0,hs⟩
theorem Zrf {fn:Func} {w:Value} {a:Act} {g g0:G} {L:Z8} (k:fn.results=#[]) (h:St N L a g) (m:Base g0 g) (hs:(pSJ kV raw (hpL (pRow dk e AUX (lst x1))) 0 b x1).p g w):bodyPost P fn (FinP (Z7q kV raw lst dk e b x1 g0 (pTup []))) .normal a g.w :=
 ⟨h.df,_,by simp[Zfu,k],g,_,rfl,rfl,m,tup0,hs⟩
theorem Zbhb {fn:Func} {a:Act} {g g0:G} {L:Z8} {Ps:List Par} {bs:List Nat} (k:fn.results=#[]) (h:St N L a g) (m:Base g0 g) (n:Zlv g Ps bs):bodyPost P fn (FinP (BEnd Ps bs g0 (pTup []))) .normal a g.w :=
 ⟨h.df,_,by simp[Zfu,k],g,_,rfl,rfl,m,tup0,n⟩
end
section
variable {P:Program} {N:Nat} {o:Oper} {uses:Z8} {d:Nat} {q:Pd} {x y z:Operand} {t e j:Nat}
def bts (s:ByteArray):List Int:=s.data.toList.map fun b=>(b.toNat:Int)
theorem Zo3 (s:ByteArray):(bts s).length=s.size:=by rw[bts,Zbyb,Zbyo];rfl
theorem Zzw (s:ByteArray):strCells s=(bts s).map (Value.int .u8):=by simp[strCells,bts]
abbrev kU8:Kd Int:=Kd.int .u8
theorem Zbl4 {g:G} {xs:List Int} {ws:List Value} (h:ws.take xs.length=xs.map (Value.int .u8)):∀i x,xs[i]?=some x→kU8.K g x (seg ws (i*kU8.sz) kU8.sz):=by
 intro i x k
 have m:=(Zbxn.1 k).1
 have n:ws[i]?=some (.int .u8 x):=by
   have:(ws.take xs.length)[i]?=(xs.map (Value.int .u8))[i]?:=by rw[h]
   rw[Zbxq,if_pos m,Zbxm,k]at this
   exact this
 show seg ws (i*1) 1=[Value.int .u8 x]
 have p:=(Zbxn.1 n).1
 rw[Zbyw]
 unfold seg
 rw[List.drop_eq_getElem_cons p]
 simp[(Zbxn.1 n).2]
theorem Zbn1 {g:G} {xs:List Int} {b cap:Nat} {cur:Array Value} (u:kU8.sl.V g xs (.slice (some ⟨b,0,none⟩) xs.length cap)) (hg:g.w.heap[b]?=some (.cells cur e (0,0))) (hc:xs.length≤cur.size):cur.toList.take xs.length=xs.map (Value.int .u8):=by
 obtain⟨A',c',n,_,_,h⟩:=Kd.sl_V.1 u
 injection n with m _ _
 apply Zbye
 intro i
 rw[Zbxq,Zbxm]
 by_cases k:i<xs.length
 · rw [if_pos k]
   rcases h with h | ⟨b',of',p,h⟩
   · rw[h]at k;simp at k
   · rw [p] at m
     injection m with m
     injection m with q r
     subst q;subst r
     obtain⟨cs,v,s⟩:=h i xs[i] (Zbxk k)
     have t:cs=[Value.int .u8 xs[i]]:=v
     subst t
     have:=(s 0 _ rfl).2
     simp only[World.cell?,hg]at this
     have x:0+i*kU8.sz+0=i:=by show 0+i*1+0=i;omega
     rw[x]at this
     rw[Zbxk k]
     simpa using this
 · rw[if_neg k,Zbxu (by omega)];rfl
theorem Zbbk {tx:TypeId} {xs:List Int} {s:ByteArray} (l:TE P t e kU8 1) (q:P.underlying tx=some .string) (h':o.op=.call {callee:=.builtin .append,args:=#[x,y],argTypes:=#[t,tx]}) (hd:o.dst=some d) (hx:Opd uses x (pRow kU8 e j xs)) (hy:Opd uses y (pStr s))
   (Y:xs.length+s.size≤140737488355328):OB P N o uses [(d,pRow kU8 e j (xs++bts s))] [j+1] :=
 Zjr hd fun a g hh=>by
   obtain⟨hV,E⟩:=hx a g hh
   have A:=Zog.1 (hy a g hh)
   obtain⟨i,z,F,hz,i',T,j'⟩:=l.info
   have B:i.size=1:=i'
   have k':z.cells.size=1:=j'
   have n:∀v w',(Builtin.append_ #[t,tx] o.type #[a.eval x,a.eval y]).run P g.w=.ok v w'→(execOp a.eval o).run P g.w=.ok (.value v) w':=fun v w' h=>by
     simp[execOp,h',resolve,invoke,builtin,h]
   have m:(xs++bts s).length=xs.length+s.size:=by simp[Zo3]
   by_cases H:s.size=0
   · have U:bts s=[]:=Zbx5 (by rw [Zo3];exact H)
     have Z:=run_firstCells_string (P:=P) g.w 1 s
     have l':strCells s=[]:=Zbx5 (by rw[strCells_length];exact H)
     refine⟨a.eval x,g,n _ _ ?_,.refl _ _,by rw[U,Zbyu];exact hV,by rw[U,Zbyu];exact E⟩
     rw[A]
     rw[H,l']at Z
     rcases E with ⟨c,O⟩ | ⟨b,cap,cur,c,_,_,hg,m',_⟩
     · rw [c]
       simp[Builtin.append_,run_underlying l.und,run_underlying q,sizeOf,typeInfo,F,B,Builtin.lenOf,H,Z]
     · rw [c]
       simp[Builtin.append_,run_underlying l.und,run_underlying q,sizeOf,typeInfo,F,B,Builtin.lenOf,H,m',Z,storeCells]
   · have a':0 < s.size:=by omega
     have fresh:∀(cap:Nat),xs.length+s.size≤cap→cap≤maxLen→(∀(g':G),g.le g'→True) →
         ∃g':G,g'.w=g.w.drew.alloc (.cells ((xs.map (Value.int .u8)).toArray++(strCells s).toArray++Builtin.zeroCells z.cells (cap-(xs.length+s.size))) e)∧Step [j+1] g g'∧(pRow kU8 e j (xs++bts s)).p g' (.slice (some ⟨g.w.heap.size,0,none⟩) (xs.length+s.size) cap):=by
       intro cap c' d' _
       have e':=Step.drew g
       have n':=Zn7 g.drew ((xs.map (Value.int .u8)).toArray++(strCells s).toArray++Builtin.zeroCells z.cells (cap-(xs.length+s.size))) e (fun i=>i<(xs++bts s).length*kU8.sz) (j+1)
       have hs:Step [j+1] g (g.drew.push ((xs.map (Value.int .u8)).toArray++(strCells s).toArray++Builtin.zeroCells z.cells (cap-(xs.length+s.size))) e (fun i=>i<(xs++bts s).length*kU8.sz) (j+1)):=(e'.sub (by simp)).trans n'
       refine⟨_,rfl,hs,?_⟩
       refine Zp2 m (by rw[Zh1,Zj8];exact Nat.lt_succ_self _) (by simp[G.push,G.drew]) (Zn9 g.drew.w _) (by rw[m];exact c') d' ?_ ?_ (fun i=>by simp[G.push,G.drew]) l.sz (by rw[m];omega)
       · simp only [Array.size_append,Zbyq,size_zeroCells,k',Zbyb,strCells_length]
         show _=cap*1
         omega
       · refine Zbl4 ?_
         have e1:((xs.map (Value.int .u8)).toArray++(strCells s).toArray++Builtin.zeroCells z.cells (cap-(xs.length+s.size))).toList=(xs++bts s).map (Value.int .u8)++(Builtin.zeroCells z.cells (cap-(xs.length+s.size))).toList:=by simp[Zzw]
         rw[e1,Zbyn (by simp),Zbyx (by simp)]
     rcases E with ⟨c,O⟩ | ⟨b,cap,cur,c,I,J,hg,q',Q,f',f⟩
     · have o':xs=[]:=Zbx5 O
       subst o'
       have K:=run_append_nil_string (P:=P) g.w t tx o.type e i z l.und q F hz s a' (by simp at Y;omega) (by rw[T];simp at Y;omega)
       have L:=grownCap_ge g.w s.size 0 e
       have M:=grownCap_le_maxLen g.w s.size 0 e (by simp only[maxLen];simp at Y;omega)
       obtain⟨g',R,hs,S⟩:=fresh (grownCap g.w s.size 0 e) (by simpa using L) M (fun _ _=>trivial)
       simp only[List.length_nil,Zbyc]at R S
       refine⟨_,g',n _ _ ?_,hs,S⟩
       rw[c,A,K,R]
       have e2:s.data.map (fun b=>Value.int .u8 b.toNat)=(strCells s).toArray:=by
         apply Array.ext'
         simp[strCells]
       rw[e2];simp
     · have r':cur.size=cap:=by have:cur.size=cap * 1:=f';omega
       have V:=Zbn1 (by rw[←c];exact hV) hg (by omega)
       by_cases C:xs.length+s.size≤cap
       · have K:=run_append_room_string (P:=P) g.w t tx o.type e i l.und q F B b xs.length cap cur hg s C (by omega)
         have W:∀b' i,g.pr b' i→(if b'=b then i<(xs++bts s).length*kU8.sz else g.pr b' i):=fun b' i h=>by
           split
           · rename_i r;subst r
             have h1:i<xs.length*kU8.sz:=Zbx1 fun D=>f i D h
             have D:xs.length*kU8.sz≤(xs++bts s).length*kU8.sz:=Zbx9 _ (by rw[m];omega)
             omega
           · exact h
         have X:∀b' i,g.pr b' i→(g.w.setRow b (cur.toList.take xs.length++strCells s++cur.toList.drop (xs.length+s.size)).toArray).cell? ⟨b',i,none⟩=g.w.cell? ⟨b',i,none⟩:=fun b' i h=>by
           by_cases r:b'=b
           · subst r
             have h1:i<xs.length*kU8.sz:=Zbx1 fun D=>f i D h
             have p':i<xs.length:=by have:i<xs.length*1:=h1;omega
             simp only[World.cell?,setRow_heap _ _ _ _ _ _ hg,hg]
             simp only[Option.isSome_none,Bool.false_eq_true,if_false,Zbx7]
             rw[Zbyf,Zby0,if_pos (by simp;omega),Zbxq,if_pos p']
             simp
           · exact Zqa (setRow_other _ _ _ _ r)
         let g' : G := ⟨g.w.setRow b (cur.toList.take xs.length ++ strCells s ++ cur.toList.drop (xs.length + s.size)).toArray, (fun b' i => if b' = b then i < (xs ++ bts s).length * kU8.sz else g.pr b' i), g.own, fun b' i h => by
             rw[Zdm]
             split at h
             · rename_i r;rw[r];exact I
             · exact g.hpr b' i h,g.gl.le W X⟩
         have hs:Step [j+1] g g' :=
           { le:={
               size:=by show _≤(g.w.setRow b _).heap.size;rw[Zdm];exact Zbxj _
               pr:=W
               cell:=X
               blk:=fun b' h=>setRow_other _ _ _ _ (fun r=>f _ (Zbxj _) (by rw[←r];exact h _))
               dr:=Zbxj _ }
             os:=rfl
             tape:=rfl
             output:=rfl
             same:=fun b' _ O=>by
               have:b'≠b:=fun r=>by subst r;exact O (by simp[J])
               exact⟨setRow_other _ _ _ _ this,by funext i;show (if b'=b then _ else _)=_;rw[if_neg this],rfl⟩
             new:=fun b' h1 D=>by
               have:(g.w.setRow b (cur.toList.take xs.length++strCells s++cur.toList.drop (xs.length+s.size)).toArray).heap.size=g.w.heap.size:=Zdm ..
               have s':b'<(g.w.setRow b (cur.toList.take xs.length++strCells s++cur.toList.drop (xs.length+s.size)).toArray).heap.size:=D
               omega
             old:=fun b' _ h=>.inr h }
         refine⟨_,g',n _ _ (by rw[c,A];exact K),hs,?_⟩
         refine Zp2 m (by show b<(g.w.setRow b _).heap.size;rw[Zdm];exact I) J (setRow_heap _ _ _ _ _ _ hg) (by rw[m];exact C) Q ?_ ?_ (fun i=>by simp[g']) l.sz (by rw[m];omega)
         · simp only [Zbyq,List.length_append,Zby9,List.length_drop,Zbyo,strCells_length]
           show _=cap*1
           omega
         · refine Zbl4 ?_
           rw[V,Zbyf,←Zbyf,Zzw,←List.map_append]
           show List.take _ (List.map _ (xs++bts s)++_)=_
           rw[Zbyn (by simp),Zbyx (by simp)]
       · have K:=run_append_grow_string (P:=P) g.w t tx o.type e i z l.und q F hz ⟨b,0,none⟩ xs.length cap (xs.map (Value.int .u8)) (by rw[B];simp) (fun k u q=>by
           rw[Zdy]
           simp only[World.cell?,hg,Zbyc]
           rw[←V,Zbxq]at q
           split at q
           · simpa using q
           · cases q) s (by omega) (by omega) (growslice_fits (by omega) (by rw[T];omega))
         have L:=grownCap_ge g.w (xs.length+s.size) cap e
         have M:=grownCap_le_maxLen g.w (xs.length+s.size) cap e (by simp only[maxLen];omega)
         obtain⟨g',R,hs,S⟩:=fresh (grownCap g.w (xs.length+s.size) cap e) L M (fun _ _=>trivial)
         refine⟨_,g',n _ _ ?_,hs,S⟩
         rw[c,A,K,R]
end
end Go.CL
namespace Go.CL
open Go Go.RowKit
theorem fpn {l:List Nat} {n:Nat} (h:l.contains n=false):∀k∈l,k≠n:=fun k m e=>by
 subst e;rw[Zbyj.2 m]at h;cases h
theorem fps {l S:List Nat} (h:l.all (fun j=>!S.contains j)=true):∀j∈l,j∉S:=fun j k m=>by
 have:=Zbx8.1 h j k
 rw[Zbyj.2 m]at this;cases this
theorem h2_1 {q1 q2:Pd}:∀g s,(hpL2 q1 q2).p g s→q1.p g (slv s.1):=fun _ _ h=>h.1
theorem h2_2 {q1 q2:Pd}:∀g s,(hpL2 q1 q2).p g s→q2.p g (slv s.2):=fun _ _ h=>h.2
theorem h2_t {q1 q2:Pd}:∀g s,(hpL2 q1 q2).p g s→(hpL2 q1 pAny).p g s:=fun _ _ h=>⟨h.1,trivial⟩
theorem h2_u {q1 q2 q:Pd}:∀g s0 s1,(hpL2 q1 q2).p g s0→q.p g (slv s1)→(hpL2 q1 q).p g (s0.1,s1):=fun _ _ _ h h'=>⟨h.1,h'⟩
theorem h2_e {q1 q2 q:Pd} {j:Nat} (m:q2.fp.all (fun k=>![j+1].contains k)=true):∀g g' s,Step [j+1] g g'→(hpL2 q1 q2).p g s→q.p g' (slv s.1)→(hpL2 q q2).p g' s:=fun _ _ _ st h h'=>⟨h',q2.st st (fps m) h.2⟩
section
variable {P:Program} {N:Nat} {o:Oper} {uses outs:Z8} {S:List Nat} {d:Nat} {q q2 q3:Pd} {x y z:Operand} {α β β' γ δ ε σ:Type} {kV:Kd γ} {raw:α→σ→γ} {R R2:Hp σ} {dk:Kd β} {dr:Kd β'} {di:Kd δ} {t e er j b off m:Nat} {xv:α}
theorem Zib {pr:σ→SlV} (r:Ty P t Kd.raw) (v:∀(g:G) (s:σ) (cs:List Value),kV.K g (raw xv s) cs→Kd.raw.K g (pr s) (seg cs off 1)) (y:∀g s,R.p g s→q.p g (slv (pr s))) (k:o.op=.load t x) (z:o.dst=some d) (hs:Opd uses (.tmp m) (pSJ kV raw R j b xv)) (c:Opd uses x (pEq (ptrB b off))):OB P N o uses [(d,q)] [] :=
 Zcl z fun a g hh=>by
   obtain⟨s,cs,t',n,e⟩:=Zn0 (hs a g hh)
   have f:a.eval x=.pointer (some ⟨b,off,none⟩):=c a g hh
   have h:=v g s cs n.2.2.2.2.1
   have:=Zj6 (b:=b) (of:=off) r h (fun i u h=>by
     refine Zpv n (off+i) u ?_
     simp only[seg,Zbxq,Zbxy]at h
     split at h
     · exact h
     · cases h)
   have l:seg cs off 1=[slv (pr s)]:=h
   refine⟨slv (pr s),?_,y g s e⟩
   rw[l]at this
   have this:(loadVar t ⟨b,off,none⟩).run P g.w=.ok (slv (pr s)) g.w:=this
   simp[execOp,k,f,Instr.loadAt,Instr.sureAddr,this]
theorem Zuv {x':α} {upd:σ→SlV→σ} (E:Ty P t Kd.raw) (l:o.op=.store t x z) (F:o.dst=none) (A:∀g v,q.p g v→∃s2:SlV,v=slv s2) (H:∀k∈R.fp,k≠j+1) (I:∀k∈q.fp,k≠j+1) (hs:Opd uses (.tmp m) (pSJ kV raw R j b xv)) (J:Opd uses x (pEq (ptrB b off))) (L:Opd uses z q)
   (B:∀(g:G) (cs:List Value) (s0:σ) (s1:SlV) (ys:List Value),kV.K g (raw xv s0) cs→Kd.raw.K g s1 ys→off+ys.length≤cs.length∧kV.K g (raw x' (upd s0 s1)) (Zr cs off ys)) (M:∀g s0 s1,R.p g s0→q.p g (slv s1)→R2.p g (upd s0 s1)):OB P N o uses [(m,pSJ kV raw R2 j b x')] [j+1] :=
 Zp5 F fun a2 g2 u=>by
   obtain⟨s3,cs3,t3,h,C⟩:=Zn0 (hs a2 g2 u)
   have O:a2.eval x=.pointer (some ⟨b,off,none⟩):=J a2 g2 u
   have w:=L a2 g2 u
   obtain⟨s4,y⟩:=A _ _ w
   have r:Kd.raw.K g2 s4 [slv s4]:=rfl
   obtain⟨d,_⟩:=B g2 cs3 s3 s4 [slv s4] h.2.2.2.2.1 r
   have a:=Zf6 (off:=off) E h.2.2.2.1 r (by simpa using d)
   have n:Step [j+1] g2 (g2.wr b (cs3.toArray.toList.take off++[slv s4]++cs3.toArray.toList.drop (off+[slv s4].length)).toArray h.1 h.2.2.2.2.2 (fun _=>False) (j+1)):=Zmb h.2.1 (.inr rfl) h.2.2.2.2.2
   refine⟨_,?_,n,?_⟩
   · have D:mkV Kd.raw.ag [slv s4]=slv s4:=rfl
     rw[D]at a
     simp[execOp,l,O,y,Instr.storeAt,Instr.sureAddr,a,wr_w]
   · intro e Q
     rw[Zbxf.1 Q]
     obtain⟨h1,S⟩:=B _ cs3 s3 s4 [slv s4] (kV.mono n.le h.2.2.2.2.1) r
     refine Zqz (s:=upd s3 s4) (cs:=Zr cs3 off [slv s4]) (t:=t3) ⟨by rw[wr_w,Zdm];exact h.1,by simp[G.wr],fun b' c f=>?_,?_,S,fun o=>by simp[G.wr]⟩ (M _ _ _ (R.st n (fun k r i=>H k r (Zbxf.1 i)) C) (q.st n (fun k r i=>I k r (Zbxf.1 i)) (by rw[←y];exact w)))
     · rw [wr_w,Zdm] at c
       simp only[G.wr]at f
       split at f
       · assumption
       · exact h.2.2.1 b' c f
     · rw [wr_w]
       refine (setRow_heap _ _ _ _ _ _ h.2.2.2.1).trans ?_
       simp[Zr]
theorem Zbor (h:∀g s,R.p g s→R2.p g s) {g:G} {v:Value} (k:(pSJ kV raw R j b xv).p g v):(pSJ kV raw R2 j b xv).p g v:=Zbj3 h k
theorem Zbjz {i jt:Nat} {xs:List β} {u v1 v2:β} {x':α} {pr:σ→SlV} (O:jt≠j) (q:∀s,raw x' s=raw xv s) (C:∀g s,R.p g s→(pArr dk e jt xs).p g (slv (pr s))) (v:∀g g' s,Step [jt+1] g g'→R.p g s→(pArr dk e jt (xs.set i v2)).p g' (slv (pr s))→R2.p g' s) (D:Ty P t dk) (w:o.op=.store t x z) (E:o.dst=none) (hs:Opd uses (.tmp m) (pSJ kV raw R j b xv)) (F:Opd uses x (pEl dk e jt xs i 0 dk v1)) (G:Opd uses z (dk.pd v2)) (y:xs[i]?=some u) (H:0<dk.sz):OB P N o uses [(m,pSJ kV raw R2 j b x')] [jt+1] :=
 Zp5 E fun a g hh=>by
   obtain⟨s,cs,t',I,n⟩:=Zn0 (hs a g hh)
   have r:=C g s n
   obtain⟨b2,cap,cur,cur',g',c,J,d,k,f⟩:=Zbce (u':=v2) D (F a g hh) (G a g hh) y (fun g cs ys K l h3=>by
     have l1:=dk.len K
     have l2:=dk.len l
     have:Zr cs 0 ys=ys:=by
       simp only[Zr,Zbyz,Zbyt,Zbyc]
       rw[Zbyg (by omega),Zbyu]
     rw[this];exact l)
   simp only[Zbym]at c d
   refine⟨g',by simp[execOp,w,c,Instr.storeAt,Instr.sureAddr,d],k,fun en L=>?_⟩
   rw[Zbxf.1 L]
   refine Zqz (s:=s) (I.st k (fun M=>?_) (Zbza _)|>fun h=>by rw[q s];exact h) (v g g' s k n ?_)
   · have:=Zbxf.1 M;omega
   · rcases r with ⟨rfl,_⟩ | ⟨b3,cap3,cur3,A,B⟩
     · simp at y
     · obtain ⟨rfl,rfl,rfl⟩:=J.same B H
       exact .inr ⟨b3,cap3,cur',by rw[Zbyl];exact A,f⟩
end
section
variable {P:Program} {N:Nat} {q:Pd} {α β β' γ:Type} {kV:Kd γ} {raw:α→SlV×SlV→γ} {l1:α→List β} {l2:α→List β'} {dk:Kd β} {dr:Kd β'} {e er b:Nat} {x1:α}
theorem Zsr {fn:Func} {r:ResultVar} {v w:Value} {a:Act} {g g0:G} {L:Z8} (k:fn.results=#[r]) (h:St N L a g) (m:Base g0 g) (n:Zfc P a g r v) (s:q.p g v) (hs:(pSJ kV raw (hpL2 (pArr dk e AUX (l1 x1)) (pRow dr er AUX2 (l2 x1))) 0 b x1).p g w):bodyPost P fn (FinP (Z3t kV raw l1 dk e l2 dr er b x1 g0 q)) .ret a g.w:=endP k h n ⟨m,s,hs⟩
theorem Zbbf {fn:Func} {r1 r2:ResultVar} {v1 v2 w:Value} {a:Act} {g g0:G} {L:Z8} (k:fn.results=#[r1,r2]) (h:St N L a g) (m:Base g0 g) (n:Zfc P a g r1 v1) (r:Zfc P a g r2 v2) (s:q.p g (.tuple #[v1,v2])) (hs:(pSJ kV raw (hpL2 (pArr dk e AUX (l1 x1)) (pRow dr er AUX2 (l2 x1))) 0 b x1).p g w):bodyPost P fn (FinP (Z3t kV raw l1 dk e l2 dr er b x1 g0 q)) .ret a g.w:=Zblo k h n r ⟨m,s,hs⟩
theorem Zbec {fn:Func} {w:Value} {a:Act} {g g0:G} {L:Z8} (k:fn.results=#[]) (h:St N L a g) (m:Base g0 g) (hs:(pSJ kV raw (hpL2 (pArr dk e AUX (l1 x1)) (pRow dr er AUX2 (l2 x1))) 0 b x1).p g w):bodyPost P fn (FinP (Z3t kV raw l1 dk e l2 dr er b x1 g0 (pTup []))) .normal a g.w :=
 ⟨h.df,_,by simp[Zfu,k],g,_,rfl,rfl,m,tup0,hs⟩
end
def Kd.adr (b:Nat):Kd Unit:=Kd.scalar (fun _=>ptrB b 0) fun _=>rfl
theorem Zbr6 {b:Nat} {g:G} {v:Value} (h:((Kd.adr b).pd ()).p g v):v=ptrB b 0:=by
 obtain⟨cs,rfl,rfl⟩:=h;rfl
theorem Zbsf {b:Nat} {g:G} {v:Value} (h:(pEq (ptrB b 0)).p g v):((Kd.adr b).pd ()).p g v:=Kd.scalar_V.2 h
theorem Opd.adr {uses:Z8} {x:Operand} {b:Nat} (h:Opd uses x (pEq (ptrB b 0))):Opd uses x ((Kd.adr b).pd ()):=h.imp fun _ _ h=>Zbsf h
section
variable {P:Program} {N:Nat} {o:Oper} {uses outs:Z8} {S:List Nat} {d:Nat} {q q2 q3:Pd} {x y z:Operand} {α γ δ ε:Type} {k:ObR δ} {K:ObR ε} {kV:Kd γ} {b bI j m t:Nat} {xv:δ}
theorem Z0e {a:Act} {g:G} {L:Z8} (h:St N ((0,Zkq (some b) k 0 xv)::L) a g):St N ((0,pEq (ptrB b 0))::(L++[(1001,pPO k b 0 xv)])) a g:=⟨h.size,h.df,fun en m=>by
 have p:=h.h (0,Zkq (some b) k 0 xv) (Zbxz ..)
 obtain⟨b',B,⟨e1,n⟩,q⟩:=p
 obtain rfl:=n _ rfl
 rcases Zbxi.1 m with rfl | m
 · exact e1
 · rcases Zbxs.1 m with m | m
   · exact h.h en (Zbxt _ m)
   · rw[Zbxf.1 m];exact⟨_,B,⟨rfl,n⟩,q⟩⟩
theorem Z41 {a:Act} {g:G} {L:Z8} {i s:Nat} {c:Option Nat} (m:Nat) (p:L[i]?=some (s,Zkq c k j xv)) (h:St N L a g):∃b,St N (L.set i (s,pEq (ptrB b 0))++[(m,pPO k b j xv)]) a g:=by
 obtain⟨b,B,⟨e1,hc⟩,q⟩:=h.h _ (Zbxv p)
 refine⟨b,h.size,h.df,fun en n=>?_⟩
 rcases Zbxs.1 n with n | n
 · rcases Zbyr n with n | rfl
   · exact h.h en n
   · exact e1
 · rw[Zbxf.1 n];exact⟨b,B,⟨rfl,fun _ h=>(Zbxo.inj h).symm⟩,q⟩
theorem Z3b {fn:Func} {r:ResultVar} {v w:Value} {a:Act} {g g0:G} {L:Z8} (m:fn.results=#[r]) (h:St N L a g) (n:Base g0 g) (s:Zfc P a g r v) (t:q.p g v) (hs:(pPO k b 0 xv).p g w):bodyPost P fn (FinP (Z7z k xv b g0 q)) .ret a g.w:=endP m h s ⟨n,t,hs⟩
theorem Ztc {fn:Func} {r1 r2 r3:ResultVar} {v1 v2 v3 w:Value} {a:Act} {g g0:G} {L:Z8} (s:fn.results=#[r1,r2,r3]) (h:St N L a g) (t:Base g0 g) (u:Zfc P a g r1 v1) (v:Zfc P a g r2 v2) (x:Zfc P a g r3 v3) (y:q.p g (.tuple #[v1,v2,v3])) (hs:(pPO k b 0 xv).p g w):bodyPost P fn (FinP (Z7z k xv b g0 q)) .ret a g.w :=
 ⟨h.df,_,by
   have m:(Zfa a.tmps r1).run P g.w=.ok v1 g.w:=u
   have n:(Zfa a.tmps r2).run P g.w=.ok v2 g.w:=v
   have r:(Zfa a.tmps r3).run P g.w=.ok v3 g.w:=x
   simp[Zfu,s,m,n,r],g,_,rfl,rfl,t,y,hs⟩
theorem Zqw {b2 off:Nat} {v:γ} (n:Ty P t (Kd.adr b2)) (p:∀(g:G) (cs:List Value),kV.K g v cs→(Kd.adr b2).K g () (seg cs off 1)) (k:o.op=.load t x) (q:o.dst=some d) (hs:Opd uses (.tmp m) (pRB kV j b v)) (r:Opd uses x (pEq (ptrB b off))):OB P N o uses [(d,pEq (ptrB b2 0))] [] :=
 (Zd3 n p k q hs r).weak fun g a h en s=>by
   rw[Zbxf.1 s]
   exact Zbr6 (h (d,(Kd.adr b2).pd ()) (by simp))
abbrev obP (kV:Kd γ) (bI:Nat) (k:ObR δ):ObR (γ×δ):=obIn kV Zby1 bI k Zbze
theorem Z5w {h:γ×δ} {g:G} {u:Value}:(Zxl kV Zby1 j b h).p g u↔(pRB kV j b h.1).p g u:=by
 constructor
 · intro hh
   obtain⟨_,cs,t,k,_⟩:=Zn0 hh
   exact Z4o k
 · intro hh
   obtain⟨cs,t,k⟩:=Z3m hh
   exact Zqz (s:=()) k trivial
def Zbel (kV:Kd γ) (bI:Nat) (k:ObR δ) (b:Nat) (x1:γ×δ) (g0:G) (q:Pd) (v:Value) (g1:G):Prop:=Base g0 g1∧q.p g1 v∧∃u1 u2,(pRB kV 0 b x1.1).p g1 u1∧(pPO k bI 1 x1.2).p g1 u2
theorem Zz4 {x0 x1:γ×δ} {f:FuncId} {fn:Func} {c:Code} {A:List Pd} (y:P.funcs[f]? =some fn) (z:fn.body=some c) (d:fn.ntmps=N) (t:A.length+1≤N) (i:Free A) (j:q.fp=[])
   (h:∀(a:Act) (g0 g:G) (b:Nat),St N (((0,pEq (ptrB b 0))::Zip A 1)++[(1001,pPO k bI 1 x0.2),(1002,pRB kV 0 b x0.1)]) a g→Base g0 g→c.wp P (bodyPost P fn (FinP (Zbel kV bI k b x1 g0 q))) a g.w):FnMR P f (obP kV bI k) x0 x1 A q:=by
 refine Zboi y z d t i j fun a g0 g b m u=>?_
 refine Code.wp_mono (fun e a' w' n=>?_) (h a g0 g b ⟨m.size,m.df,fun en p=>?_⟩ u)
 · have s:∀en w,FinP (Zbel kV bI k b x1 g0 q) en w→FinP (Zbfn kV Zby1 bI k Zbze b x1 g0 q) en w:=by
     rintro en w ⟨g1,v,rfl,rfl,l,x,u1,u2,n1,n2⟩
     exact⟨g1,v,rfl,rfl,l,x,x1,u1,u2,Z5w.2 n1,n2,rfl⟩
   cases e with
   | normal=>exact⟨n.1,n.2.imp fun v r=>⟨r.1,s _ _ r.2⟩⟩
   | ret=>exact⟨n.1,n.2.imp fun v r=>⟨r.1,s _ _ r.2⟩⟩
   | panic=>exact⟨n.1,s _ _ n.2⟩
   | outgrown=>exact s _ _ n
   | _=>exact n
 · rcases Zbxs.1 p with p | p
   · exact m.h en (Zbyk _ p)
   · rcases Zbxi.1 p with rfl | p
     · exact m.h (1001,pPO k bI 1 x0.2) (Zbyi _ (by simp))
     · rw [Zbxf.1 p]
       exact Z5w.1 (m.h (1002,Zxl kV Zby1 0 b x0) (Zbyi _ (by simp)))
theorem Zq1 {x1:γ×δ} {fn:Func} {r:ResultVar} {v w1 w2:Value} {a:Act} {g g0:G} {L:Z8} (s:fn.results=#[r]) (h:St N L a g) (t:Base g0 g) (u:Zfc P a g r v) (x:q.p g v) (m:(pPO k bI 1 x1.2).p g w2) (n:(pRB kV 0 b x1.1).p g w1):bodyPost P fn (FinP (Zbel kV bI k b x1 g0 q)) .ret a g.w:=endP s h u ⟨t,x,_,_,n,m⟩
def obEx (F:Nat→ObR ε):ObR ε where
 R:=fun g b B x=>∃c,(F c).R g b B x
 st:=fun ⟨c,h⟩ k hh=>⟨c,(F c).st h k hh⟩
theorem fnEx {F:Nat→ObR ε} {x0 x1:ε} {f:FuncId} {A:List Pd} (h:∀c,FnMR P f (F c) x0 x1 A q):FnMR P f (obEx F) x0 x1 A q:=by
 intro g b B args ⟨c,k⟩ m n p
 refine Calls.mono (h c g b B args k m n p) ?_
 rintro e w' ⟨g',v,B',r,s,t,u,w⟩
 exact⟨g',v,B',r,s,t,⟨c,u⟩,w⟩
open Classical in
theorem Zbe2 {j2:Nat} {c:Option Nat} {v:Value} {g:G} (hj:j<AUX∧j2<AUX) (h:(Zkq c k j xv).p g v):∃g':G,g'.w=g.w∧Step [j+1,j+1+AUX,j2+1,j2+1+AUX] g g'∧(Zkq c k j2 xv).p g' v∧g.le g':=by
 obtain⟨b,B,a,d,f,u,hu,t⟩:=h
 let own':Nat→Nat:=fun c=>if c=b then j2+1 else if B c then j2+1+AUX else if g.own c∈[j+1,j+1+AUX,j2+1,j2+1+AUX]then 0 else g.own c
 let g':G:=⟨g.w,g.pr,own',g.hpr,g.gl⟩
 have r:g.le g':=⟨Nat.le_refl _,fun _ _ h=>h,fun _ _ _=>rfl,fun _ _=>rfl,Zbxj _⟩
 have m:∀c,g'.own c=if c=b then j2+1 else if B c then j2+1+AUX else if g.own c∈[j+1,j+1+AUX,j2+1,j2+1+AUX]then 0 else g.own c:=fun _=>rfl
 have x:∀c,B c→c≠b:=fun c n e=>by have:=(t c n).2;rw[e,u]at this;simp[AUX]at this
 refine⟨g',rfl,⟨r,rfl,rfl,rfl,fun c n s=>⟨rfl,rfl,?_⟩,fun c i l=>absurd (Zbxp l i) (Zbyp _),fun c n s=>?_⟩,⟨b,B,a,k.st d r (fun _ _=>⟨rfl,rfl⟩),f,by rw[m,if_pos rfl],fun c n q=>?_,fun c n=>⟨(t c n).1,by rw[m,if_neg (x c n),if_pos n]⟩⟩,r⟩
 · rw [m,if_neg,if_neg,if_neg s]
   · intro y;exact s (by rw[(t c y).2];simp)
   · rintro rfl;exact s (by rw[u];simp)
 · rw [m]
   split
   · exact .inr (by simp)
   split
   · exact .inr (by simp)
   · first | exact .inl rfl | (rw[if_pos s];exact .inl rfl)
 · rw [m] at q
   split at q
   · assumption
   split at q
   · have:0 < AUX:=by omega
     omega
   split at q
   · omega
   · rename_i z
     exact absurd (by rw[q];simp) z
theorem Zbdh {fn:Func} {r1 r2 r3:ResultVar} {v1 v2 v3 w:Value} {a:Act} {g g0:G} {L:Z8} {KK:Nat→ObR (γ×δ)} {X:γ×δ} {b2 jB jO bD:Nat} (d:∀g b B,(obP kV b2 k).R g b B X→(KK bD).R g b B X) (q:jO≠jB∧jO<AUX∧jB<AUX) (m:q2.fp=[]) (n:q3.fp=[]) (e:fn.results=#[r1,r2,r3]) (h:St N L a g) (f:Base g0 g) (i:Zfc P a g r1 v1) (j:Zfc P a g r2 v2) (l:Zfc P a g r3 v3)
   (r:(pBox kV jB X.1).p g v1) (o:(pPO k b2 jO X.2).p g w) (s:q2.p g v2) (u:q3.p g v3):bodyPost P fn (FinP (TEnd KK X bD q2 q3 g0)) .ret a g.w:=by
 obtain⟨b,cs,t,rfl,A,_⟩:=r
 have hh:(Zxl kV Zby1 jB b X).p g undef:=Z5w.2 (Z4o A)
 obtain⟨g1,e1,s1,C⟩:=Zbd5 (x1:=X) hh o rfl q
 obtain⟨g2,e2,s2,v,_⟩:=Zbe2 (j2:=0) ⟨q.2.2,by unfold AUX;decide⟩ C
 have hA:0<AUX:=by unfold AUX;decide
 have x:=(f.step s1 (by simp only[Zbxi,Zbxr,or_false];omega)).step s2 (by simp only[Zbxi,Zbxr,or_false];omega)
 refine⟨h.df,.tuple #[.pointer (some ⟨b,0,none⟩),v2,v3],?_,g2,_,rfl,by rw[e2,e1],b,v2,v3,rfl,x,?_,q2.st s2 (by rw[m];intro _ h;cases h) (q2.st s1 (by rw[m];intro _ h;cases h) s),q3.st s2 (by rw[n];intro _ h;cases h) (q3.st s1 (by rw[n];intro _ h;cases h) u)⟩
 · have y:(Zfa a.tmps r1).run P g.w=.ok _ g.w:=i
   have z:(Zfa a.tmps r2).run P g.w=.ok v2 g.w:=j
   have c:(Zfa a.tmps r3).run P g.w=.ok v3 g.w:=l
   simp[Zfu,e,y,z,c]
 · obtain ⟨b',B,D,E,F⟩:=v
   exact⟨b',B,D,d _ _ _ E,F⟩
end
section
variable {P:Program} {N:Nat} {o:Oper} {uses outs:Z8} {S:List Nat} {d:Nat} {q:Pd} {x:Operand} {γ δ ε:Type} {k:ObR δ} {K:ObR ε} {kV:Kd γ} {b bI bK j m:Nat} {get:ε→δ} {set:ε→δ→ε}
def Foc (K:ObR ε) (bI:Nat) (k:ObR δ) (get:ε→δ) (set:ε→δ→ε):Prop :=
 ∀ g b B X,K.R g b B X → (∀ c,B c → c ≠ b) → ∃ BI:Nat → Prop,k.R g bI BI (get X) ∧ B bI ∧ (∀ c,BI c → B c ∧ c ≠ bI) ∧
   ∀(g':G) (BI':Nat→Prop) (d':δ),g.le g'→(∀c,(c=b∨B c)→c≠bI→¬BI c→g'.w.heap[c]?=g.w.heap[c]?∧g'.pr c=g.pr c)→k.R g' bI BI' d'→(∀c,BI' c→BI c∨(¬B c∧c≠b))→∃B':Nat→Prop,K.R g' b B' (set X d')∧∀c,B' c→B c∨BI' c
theorem Zbp4:Foc (obP kV bI k) bI k Zbze (fun X d=>(X.1,d)):=by
 intro g b B X ⟨cs,t,BI,u,v,w,x,p,m,n⟩ y
 have q:¬BI b:=fun h=>y b (n b h).1 rfl
 refine⟨BI,x,m,n,fun g' BI' d' r hs z a=>?_⟩
 obtain⟨k1,k2⟩:=hs b (.inl rfl) (Ne.symm p) q
 refine⟨fun c=>B c∨BI' c,⟨cs,t,BI',k1.trans u,fun o=>by rw[k2];exact v o,kV.mono r w,z,p,.inl m,fun c s=>⟨.inr s,?_⟩⟩,fun c h=>h⟩
 rcases a c s with h | h
 · exact (n c h).2
 · rintro rfl;exact h.1 m
theorem Zble (x:Foc K bI k get set):Foc (obP kV bK K) bI k (fun X=>get X.2) (fun X d=>(X.1,set X.2 d)):=by
 intro g b B X ⟨cs,t,BK,s,u,y,z,a,p,n⟩ f
 have q:¬BK b:=fun h=>f b (n b h).1 rfl
 obtain⟨BI,i1,i2,i3,i4⟩:=x g bK BK X.2 z (fun c m=>(n c m).2)
 have v:bI≠b:=fun e=>q (e▸i2)
 refine⟨BI,i1,(n bI i2).1,fun c m=>⟨(n c (i3 c m).1).1,(i3 c m).2⟩,fun g' BI' d' r hs i w=>?_⟩
 obtain⟨k1,k2⟩:=hs b (.inl rfl) (Ne.symm v) (fun h=>q (i3 b h).1)
 obtain⟨B',r1,r2⟩:=i4 g' BI' d' r (fun c m s u=>hs c (.inr (m.elim (fun e=>e▸p) (fun h=>(n c h).1))) s u) i (fun c m=>(w c m).imp id fun h=>⟨fun h'=>h.1 (n c h').1,fun e=>h.1 (e▸p)⟩)
 refine⟨fun c=>B c∨BI' c,⟨cs,t,B',k1.trans s,fun o=>by rw[k2];exact u o,kV.mono r y,r1,a,.inl p,fun c m=>⟨?_,?_⟩⟩,fun c h=>h⟩
 · rcases r2 c m with h | h
   · exact .inl (n c h).1
   · exact .inr h
 · rcases r2 c m with h | h
   · exact (n c h).2
   · rcases w c h with h | h
     · exact (n c (i3 c h).1).2
     · rintro rfl;exact h.1 p
theorem Zbow {F:Nat→ObR ε} (h:∀c,Foc (F c) bI k get set):Foc (obEx F) bI k get set:=by
 intro g b B X ⟨c,m⟩ n
 obtain⟨BI,p,q,r,s⟩:=h c g b B X m n
 refine⟨BI,p,q,r,fun g' BI' d' a1 a2 a3 a4=>?_⟩
 obtain⟨B',r1,r2⟩:=s g' BI' d' a1 a2 a3 a4
 exact⟨B',⟨c,r1⟩,r2⟩
open Classical in
theorem Z20 {X:ε} {d1:δ} {f:FuncId} {xs:List Operand} {A:List Pd} {ty:Array TypeId} (hF:Foc K bI k get set) (z:Zi P f) (J:FnMR P f k (get X) d1 A q) (L:o.op=.call {callee:=.value (.func f),args:=(x::xs).toArray,argTypes:=ty}) (M:o.dst=some d)
   (hq:q.fp=[]) (hs:Opd uses (.tmp m) (pPO K b j X)) (hx:Opd uses x (pEq (ptrB bI 0))) (i:OpdL uses xs A):OB P N o uses [(d,q),(m,pPO K b j (set X d1))] [j+1,j+1+AUX]:=by
 intro a g KK Q hN O F hK
 obtain⟨B,hR,H,I,R,t⟩:=Zyo (hs a g F)
 have S:∀c,B c→c≠b:=fun c n h=>by
   have:=(t c n).2
   rw[h,I]at this;simp[AUX]at this
 obtain⟨BI,f1,f2,f3,f4⟩:=hF g b B X hR S
 have hv:a.eval x=.pointer (some ⟨bI,0,none⟩):=hx a g F
 have hr:(execOp a.eval o).run P g.w=.ok (.enter f (Value.pointer (some ⟨bI,0,none⟩)::xs.map a.eval).toArray) g.w:=by
   simp[execOp,L,resolve,Znl,Deferred.ofValue,invoke,Zgo z,hv]
 unfold Oper.wp
 rw[hr]
 show Calls P f _ g.w _
 refine Calls.mono (J g bI BI _ f1 (t bI f2).1 (fun c n=>⟨(t c (f3 c n).1).1,(f3 c n).2⟩) (i.ok F)) ?_
 rintro e w' ⟨g',v,BI',rfl,rfl,r,T,y,U⟩
 obtain⟨B',r1,r2⟩:=f4 g' BI' d1 r.le (fun c n u l=>r.same c (n.elim (fun e=>e▸H) (fun h=>(t c h).1)) (by rintro (h | h);exact u h;exact l h)) T (fun c n=>(y c n).1.imp id fun h=>⟨fun h'=>by have:=(t c h').1;omega,by rintro rfl;omega⟩)
 have V:∀c,B' c→(B c∨g.w.heap.size≤c)∧c<g'.w.heap.size:=fun c n=>by
   rcases r2 c n with h | h
   · exact⟨.inl h,Zbxp (t c h).1 r.le.size⟩
   · exact⟨(y c h).1.imp (fun h=>(f3 c h).1) id,(y c h).2⟩
 let g2:G:=⟨g'.w,g'.pr,fun c=>if c<g.w.heap.size then (if g.own c=j+1+AUX∧¬B' c then 0 else g.own c)else if B' c then j+1+AUX else 0,g'.hpr,g'.gl⟩
 have D:g'.le g2:=⟨Nat.le_refl _,fun _ _ h=>h,fun _ _ _=>rfl,fun _ _=>rfl,Zbxj _⟩
 have W:=r.le.size
 have p:∀c,g2.own c=if c<g.w.heap.size then (if g.own c=j+1+AUX∧¬B' c then 0 else g.own c)else if B' c then j+1+AUX else 0:=fun _=>rfl
 have Y:g2.own b=j+1:=by
   rw[p,if_pos H,if_neg,I]
   rw[I];simp[AUX]
 refine hK v g2 ⟨⟨r.le.size,r.le.pr,r.le.cell,r.le.blk,r.le.dr⟩,r.os,r.tape,r.output,fun c n C=>?_,fun c u l=>?_,fun c n C=>?_⟩ fun e z=>?_
 · have E:¬ B c:=fun h=>C (by rw [(t c h).2];simp)
   obtain⟨k1,k2⟩:=r.same c n (by rintro (h | h);exact E (h▸f2);exact E (f3 c h).1)
   refine⟨k1,k2,?_⟩
   rw[p,if_pos n,if_neg]
   intro h;exact C (by rw[h.1];simp)
 · rw [p,if_neg (by omega)]
   split <;> simp
 · rw [p,if_pos n]
   split
   · exact .inl rfl
   · exact .inr C
 · simp only [Zbxi,Zbxr,or_false] at z
   rcases z with rfl | rfl
   · rw [M,Zdn v (by rw [hN];exact O d M)]
     exact Pd.le hq D rfl rfl rfl U
   · refine Z31 (B:=B') (K.st r1 D (fun _ _=>⟨rfl,rfl⟩)) (Zbxp H W) Y (fun c n s=>?_) (fun c n=>?_)
     · rw [p] at s
       split at s
       · rename_i Z
         split at s
         · omega
         · exact R c Z s
       · split at s
         · simp[AUX]at s
         · omega
     · obtain ⟨u,l⟩:=V c n
       refine⟨l,?_⟩
       rw[p]
       rcases u with u | u
       · rw[if_pos (t c u).1,if_neg (by simp[n])];exact (t c u).2
       · rw[if_neg (by omega),if_pos n]
open Classical in
theorem Zbkv {X:ε} {a:Act} {g:G} {L:Z8} {i:Nat} (C:Foc K bI k get set) (D:L[i]?=some (m,pPO K b j X)) (h:St N L a g) (hj:j<AUX) (u:Zbet L i [j+1,j+1+AUX]):∃g':G,g'.w=g.w∧Step [j+1,j+1+AUX] g g'∧St N (L.set i (m,pPO k bI j (get X))) a g':=by
 have E:=h.h _ (Zbxv D)
 obtain⟨B,F,hb,H,P,v⟩:=Zyo E
 have d:∀c,B c→c≠b:=fun c u h=>by
   have:=(v c u).2
   rw[h,H]at this;simp[AUX]at this
 obtain⟨BI,f1,f2,f3,_⟩:=C g b B X F d
 let own':Nat→Nat:=fun c=>if c=bI then j+1 else if BI c then j+1+AUX else if g.own c∈[j+1,j+1+AUX]then 0 else g.own c
 let g':G:=⟨g.w,g.pr,own',g.hpr,g.gl⟩
 have x:g.le g':=⟨Nat.le_refl _,fun _ _ h=>h,fun _ _ _=>rfl,fun _ _=>rfl,Zbxj _⟩
 have p:∀c,g'.own c=if c=bI then j+1 else if BI c then j+1+AUX else if g.own c∈[j+1,j+1+AUX]then 0 else g.own c:=fun _=>rfl
 have l:Step [j+1,j+1+AUX] g g':=by
   refine⟨x,rfl,rfl,rfl,fun c u r=>⟨rfl,rfl,?_⟩,fun c I J=>absurd (Zbxp J I) (Zbyp _),fun c u r=>?_⟩
   · rw [p,if_neg,if_neg,if_neg r]
     · intro o;exact r (by rw[(v c (f3 c o).1).2];simp)
     · rintro rfl;exact r (by rw[(v c f2).2];simp)
   · rw [p]
     split
     · exact .inr (by simp)
     split
     · exact .inr (by simp)
     · first | exact .inl rfl | (rw[if_pos r];exact .inl rfl)
 refine⟨g',rfl,l,h.size,h.df,fun en M=>?_⟩
 obtain⟨n,r,s⟩:=Zby2 M
 have y:n<L.length:=by simpa using r
 rw[Zby7]at s
 split at s
 · subst s
   refine Z31 (B:=BI) (k.st f1 x (fun _ _=>⟨rfl,rfl⟩)) (v bI f2).1 (by rw[p,if_pos rfl]) (fun c t q=>?_) (fun c t=>⟨(v c (f3 c t).1).1,by rw[p,if_neg (f3 c t).2,if_pos t]⟩)
   rw[p]at q
   split at q
   · assumption
   split at q
   · have:0 < AUX:=by omega
     omega
   split at q
   · omega
   · rename_i A
     exact absurd (by rw[q];simp) A
 · rename_i z
   subst s
   have hg:=Zbxk y
   exact (L[n]).2.st l (fun f O=>u n _ hg (fun e=>z e.symm) f O) (h.h _ (Zby8 y))
theorem Zbpp {X:ε} {a:Act} {g0 g:G} {L:Z8} {i:Nat} (u:Foc K bI k get set) (v:L[i]?=some (m,pPO K b j X)) (y:(L.eraseIdx i).all (fun x=>!(x.2.fp.contains (j+1))&&!(x.2.fp.contains (j+1+AUX)))=true) (z:j<AUX) (h:St N L a g) (c:Base g0 g):∃g':G,g'.w=g.w∧St N (L.set i (m,pPO k bI j (get X))) a g'∧Base g0 g':=by
 have d:Zbet L i [j+1,j+1+AUX]:=fun n en l r f p q=>by
   have o:en∈L.eraseIdx i:=List.mem_eraseIdx_iff_getElem?.2 ⟨n,r,l⟩
   have:=Zbx8.1 y en o
   simp only[Bool.and_eq_true,Bool.not_eq_true',←Bool.not_eq_true,Zbyj]at this
   rcases Zbxi.1 q with rfl | q
   · exact this.1 p
   · rw[Zbxf.1 q]at p;exact this.2 p
 obtain⟨g',e,s,t⟩:=Zbkv u v h z d
 exact⟨g',e,t,c.step s (by simp only[Zbxi,Zbxr,or_false];omega)⟩
theorem OT.guardPO {x0 x1 x2:δ} {ops:Array Oper} {i c j:Nat} {want:Bool} (G:Bool) {q0:Pd} (D:G=true→∀g v,q0.p g v→v=.bool want) (E:G=false→∀g v,q0.p g v→v≠.bool want) (hg:o.guard=some (i,want)) (x:(ops[i]?).bind (·.dst)=some c)
   (y:o.dst=some d) (hs:Opd uses (.tmp m) (pPO k b j x0)) (h:G=true→OB P N o uses [(d,q),(m,pPO k b j x1)] S) (z:x2=if G=true then x1 else x0):OT P ops N o ((c,q0)::uses) [(d,pIf G q),(m,pPO k b j x2)] S:=by
 intro a g K Q f l A B
 subst z
 have t:=A (c,q0) (by simp)
 have u:Ze4 uses a g:=fun e n=>A e (Zbxt _ n)
 cases r:G with
 | true =>
   have:Region.wanted o (yielded ops a.tmps)=true:=by simp[Region.wanted,hg,(Zt1 x).2 (D r _ _ t)]
   rw[if_pos this]
   refine h r a g K Q f l u fun v g' C w=>B v g' C ?_
   intro e n
   simp only[Zbxi,Zbxr,or_false]at n
   rcases n with rfl | rfl
   · exact⟨fun _=>w (d,q) (by simp),fun s=>(by rw[r]at s;cases s)⟩
   · rw[r];exact w (m,pPO k b j x1) (by simp)
 | false =>
   have:Region.wanted o (yielded ops a.tmps)=false:=by
     simp only[Region.wanted,hg,beq_eq_false_iff_ne,ne_eq]
     exact fun h=>E r _ _ t ((Zt1 x).1 h)
   rw[this]
   refine B undef g (.refl _ _) ?_
   intro e n
   simp only[Zbxi,Zbxr,or_false]at n
   rcases n with rfl | rfl
   · refine ⟨fun s=>(by rw [r] at s;cases s),fun _=>?_⟩
     rw[y]
     exact Zdn _ (by rw[f];exact l _ y)
   · rw [r]
     exact hs a g u
end
section
variable {P:Program} {N:Nat} {o:Oper} {uses outs:Z8} {S:List Nat} {d:Nat} {q:Pd} {x y z:Operand} {α β γ σ:Type} {di:Kd α} {t e j n sz:Nat} {kV:Kd γ} {raw:β→σ→γ} {R R2:Hp σ} {xv:β} {b m:Nat}
theorem Zun {w:World} {bb of:Nat} {l h:Int} (r:P.underlying t=some (.array n e)) (hs:(P.info? e).map (·.size)=some sz) (h0:0≤l) (h1:l≤h) (h2:h≤(n:Int)) (lo m:Option Value)
   (p:(lo=none∧l=0)∨∃k,lo=some (.int k l)) (q:(m=none∧h=(n:Int))∨∃k,m=some (.int k h)):(Instr.sliceAt t (.pointer (some ⟨bb,of,none⟩)) lo m none).run P w=.ok (.slice (some (if n=l.toNat then ⟨bb,of,none⟩else ⟨bb,of+l.toNat*sz,none⟩)) (h.toNat-l.toNat) (n-l.toNat)) w:=by
 have hL:l.toNat≤h.toNat:=by omega
 have s:(0≤l∧l≤(h.toNat:Int)):=by omega
 have u:(0≤h∧h≤(n:Int)):=by omega
 rcases p with ⟨rfl,rfl⟩ | ⟨k,rfl⟩ <;> rcases q with ⟨rfl,rfl⟩ | ⟨k',rfl⟩ <;>
   simp_all [Instr.sliceAt,Instr.sureAddr,Instr.sliceBounds,Instr.sliceBound,run_underlying r,Zi4 hs,asIntOf,Zdy]
def Bnd (uses:Z8) (lo:Option Operand) (l l0:Int):Prop:=(lo=none∧l=l0)∨∃y k,lo=some y∧Opd uses y (pInt k l)
theorem Bnd.at {lo:Option Operand} {l l0:Int} (h:Bnd uses lo l l0) {a:Act} {g:G} (hh:Ze4 uses a g):(lo.map a.eval=none∧l=l0)∨∃k,lo.map a.eval=some (.int k l):=by
 rcases h with ⟨rfl,rfl⟩ | ⟨y,k,rfl,m⟩
 · exact .inl ⟨rfl,rfl⟩
 · exact .inr ⟨k,by simp[Zcy.1 (m a g hh)]⟩
theorem Z5g {lo m:Option Operand} {l h:Int} {xs r:List α} (z:P.underlying t=some (.array n e)) (hs:(P.info? e).map (·.size)=some di.sz) (hm:n≤9223372036854775807) (p:o.op=.slice t x lo m none) (b:o.dst=some d) (f:Opd uses x ((Kd.arr n di).ptr xs)) (q:Bnd uses lo l 0) (s:Bnd uses m h (n:Int)) (j:cut xs l h=some r):OB P N o uses [(d,di.sl.pd r)] [] :=
 Zcl b fun a g hh=>by
   obtain⟨bb,of,cs,A,v,y⟩:=f a g hh
   have hl:xs.length=n:=v.1
   have k:di.Row g (some ⟨bb,of,none⟩) xs:=.inr ⟨bb,of,rfl,fun i u B=>⟨_,v.2.2.2 i u B,y.seg _ _⟩⟩
   obtain⟨C,D,h2,E⟩:=Zbc9 (c:=n) (by omega) (by omega) k j
   refine⟨_,?_,E⟩
   have F:=Zun (P:=P) (w:=g.w) (bb:=bb) (of:=of) z hs C D (by omega) _ _ (q.at hh) (s.at hh)
   simp only[execOp,p,A,Zbyv]
   rw[Sem.run_bind,F]
   split <;> simp[Zdy]
def pVw (j off len cap:Nat):Pd:=⟨fun g u=>∃b,u=.slice (some ⟨b,off,none⟩) len cap∧b<g.w.heap.size∧g.own b=j+1,[j+1],fun s m ⟨b,e,h,k⟩=>⟨b,e,Zbxp h s.le.size,((s.same b h (by rw[k];exact m _ (by simp))).2.2).trans k⟩⟩
theorem Zbi4 {c:Option Nat} {lo m:Option Operand} {l h:Int} {xs:List α} (v:P.underlying t=some (.array n e)) (hs:(P.info? e).map (·.size)=some di.sz) (k:0≤l∧l≤h∧h≤(n:Int)∧l<(n:Int)) (p:o.op=.slice t x lo m none) (y:o.dst=some d) (z:Opd uses x (Zbm c (Kd.arr n di) j xs)) (q:Bnd uses lo l 0) (r:Bnd uses m h (n:Int)):OB P N o uses [(d,pVw j (l.toNat*di.sz) (h.toNat-l.toNat) (n-l.toNat))] [] :=
 Zcl y fun a g hh=>by
   obtain⟨bb,cs,tt,b,s,_⟩:=z a g hh
   refine⟨.slice (some ⟨bb,l.toNat*di.sz,none⟩) (h.toNat-l.toNat) (n-l.toNat),?_,bb,rfl,s.1,s.2.1⟩
   have u:=Zun (P:=P) (w:=g.w) (bb:=bb) (of:=0) v hs k.1 k.2.1 k.2.2.1 _ _ (q.at hh) (r.at hh)
   rw[if_neg (by omega)]at u
   simp only[execOp,p,b,Zbyv]
   rw[Sem.run_bind,u]
   simp
theorem Zbf5 {e2 i:Nat} {m:Option Operand} {h:Int} {xs:List (List α)} {u:List α} (y:P.underlying t=some (.array n e)) (hs:(P.info? e).map (·.size)=some di.sz) (p:0≤h∧h≤(n:Int)∧0<n) (q:o.op=.slice t x none m none) (z:o.dst=some d) (b:Opd uses x (pEl (Kd.arr n di) e2 j xs i 0 (Kd.arr n di) u)) (r:Bnd uses m h (n:Int)):OB P N o uses [(d,pVw j (i*(n*di.sz)) h.toNat n)] [] :=
 Zcl z fun a g hh=>by
   obtain⟨bb,cap,cur,k,s,_⟩:=b a g hh
   refine⟨.slice (some ⟨bb,i*(n*di.sz),none⟩) h.toNat n,?_,bb,rfl,s.lt,s.own⟩
   have v:=Zun (P:=P) (w:=g.w) (bb:=bb) (of:=i*(n*di.sz)) (l:=0) y hs (by omega) p.1 p.2.1 none _ (.inl ⟨rfl,rfl⟩) (r.at hh)
   rw[if_neg (by simp;omega)]at v
   have k:a.eval x=.pointer (some ⟨bb,i*(n*di.sz),none⟩):=k
   simp only[execOp,q,k,Zbyv]
   rw[Sem.run_bind,v]
   simp
theorem Zym {w:World} {bb off len cap c2 k:Nat} {cur:Array Value} {tt:TypeId} {i:TypeInfo} (h:P.underlying t=some (.slice e)) (x:P.info? e=some i) (y:i.size=sz) (hg:w.heap[bb]? =some (.cells cur tt (0,0))) {A:Option Addr} {news:List Value} (z:k≤len) (a:(news=[]∧k=0)∨∃b2 o2,A=some ⟨b2,o2,none⟩∧∀k u,news[k]? =some u→w.cell? ⟨b2,o2+k,none⟩=some u) (b:news.length=k*sz) (r:off+news.length≤cur.size) (s:∀u∈news,u.oneCell' =true) (ty:TypeId) :
   (Builtin.copy_ #[t,t] ty #[.slice (some ⟨bb,off,none⟩) len cap,.slice A k c2]).run P w=.ok (.int .i64 (k:Int)) (w.setRow bb (Zr cur.toList off news).toArray):=by
 rcases a with ⟨rfl,rfl⟩ | ⟨b2,o2,rfl,m⟩
 · have hs:(Zr cur.toList off []).toArray=cur:=by simp [Zr]
   have n:w.setRow bb cur=w:=setRow_self w bb cur tt (0,0) hg
   rw[hs,n]
   cases A <;> simp[Builtin.copy_,run_underlying h,Builtin.lenOf,Builtin.firstCells,sizeOf,typeInfo,x,loadCells,loadCellsFrom,storeCells,goInt]
 · have p:=run_loadCells_list (P:=P) w ⟨b2,o2,none⟩ news (fun k u h=>by rw [Zdy];exact m k u h)
   rw[b]at p
   have q:=run_storeCells_at P bb off tt news 0 cur w hg (by rw[Zbym];exact r) s
   rw[Zbym]at q
   have v:Nat.min k len=k:=Nat.min_eq_left z
   simp only[Builtin.copy_,run_underlying h,Builtin.lenOf,Builtin.firstCells,sizeOf,typeInfo,Sem.run_bind,run_program,Result.andThen_ok,x,Sem.run_pure,y,Zbx7,Zbyd,Zbx2,p,goInt,v]
   rw[q]
   rfl
def Zi0 (xs:List α) (off:Nat) (vs:List α):List α:=xs.take off++vs++xs.drop (off+vs.length)
theorem Z60 {xs vs:List α} {off:Nat} (h:off+vs.length≤xs.length):(Zi0 xs off vs).length=xs.length:=by simp[Zi0];omega
theorem Zblh {xs vs:List α} {off:Nat}:over (xs.map some) off vs=(Zi0 xs off vs).map some:=by simp[over,Zi0,List.map_take,List.map_drop]
theorem Zbae {g:G} {xs vs:List α} {off:Nat} {cs news:List Value} (v:0<di.sz) (w:(Kd.arr n di).K g xs cs) (m:news.length=vs.length*di.sz) (p:off+vs.length≤n) (r:∀i x,vs[i]?=some x→di.K g x (seg news (i*di.sz) di.sz)):(Kd.arr n di).K g (Zi0 xs off vs) (Zr cs (off*di.sz) news):=by
 obtain⟨z,q,s,a⟩:=w
 have b:off*di.sz+news.length≤cs.length:=by rw[m,q,←Zby6];exact Zbx9 _ p
 refine⟨by rw[Z60 (by omega),z],by rw[Zb7 b,q],fun u h=>?_,fun i x k=>?_⟩
 · unfold Zr at h
   rcases Zbxs.1 h with h | h
   · rcases Zbxs.1 h with h | h
     · exact s u (List.mem_of_mem_take h)
     · exact Zn6 m r v u h
   · exact s u (List.mem_of_mem_drop h)
 · have t:(over (xs.map some) off vs)[i]?=some (some x):=by rw [Zblh,Zbxm,k];rfl
   exact Z22 (dk:=di) (.refl g) (fs:=xs.map some) (cap:=n) m q (by rw[Zbyb];omega) (by rw[Zbyb];omega) (fun i x k=>a i x (by rw[Zbxm]at k;obtain⟨y,c,e⟩:=Zbxw.1 k;rw[c,Zbxo.inj e])) r i x t
theorem Z6h {g:G} {vs:List α} {v:Value} (h:(di.sl.pd vs).p g v):∃A c2 news,v=.slice A vs.length c2∧news.length=vs.length*di.sz∧((news=[]∧vs.length=0)∨∃b2 o2,A=some ⟨b2,o2,none⟩∧∀k u,news[k]?=some u→g.w.cell? ⟨b2,o2+k,none⟩=some u)∧∀i x,vs[i]?=some x→di.K g x (seg news (i*di.sz) di.sz):=by
 obtain⟨A,c2,m,z,a,n⟩:=Zsf h
 rcases n with rfl | ⟨b2,o2,news,rfl,q,r,s⟩
 · exact⟨A,c2,[],m,by simp,.inl ⟨rfl,rfl⟩,fun i x t=>by simp at t⟩
 · exact⟨_,c2,news,m,q,.inr ⟨b2,o2,rfl,fun k u y=>(r k u y).2⟩,s⟩
theorem Zbj2 {bytes s off len cap:Nat} {c:Option Nat} {xs vs:List α} (m:TE P t e di bytes) (L:off+len≤n) (M:vs.length≤len) (u:o.op=.call {callee:=.builtin .copy,args:=#[x,y],argTypes:=#[t,t]}) (q:o.dst=some d) (v:s≠d)
   (O:Opd uses x (pVw j (off*di.sz) len cap)) (R:Opd uses y (di.sl.pd vs)) (hs:Opd uses (.tmp s) (Zbm c (Kd.arr n di) j xs)):OB P N o uses [(d,pInt .i64 (vs.length:Int)),(s,Zbm c (Kd.arr n di) j (Zi0 xs off vs))] [j+1]:=by
 intro a g K Q S z r T
 obtain⟨b1,b,f,l⟩:=O a g r
 obtain⟨b2,cs,tt,B,k,U⟩:=hs a g r
 obtain rfl:=k.2.2.1 b1 f l
 obtain⟨A,c2,news,C,p,D,E⟩:=Z6h (R a g r)
 obtain⟨i,zz,V,hz,F,Y,Z⟩:=m.info
 have G:cs.length=n*di.sz:=k.2.2.2.2.1.2.1
 have W:off*di.sz+news.length≤cs.length:=by rw[p,G,←Zby6];exact Zbx9 _ (by omega)
 have X:=Zym (P:=P) (off:=off*di.sz) (cap:=cap) (c2:=c2) m.und V F k.2.2.2.1 M D p (by simpa using W) (Zn6 p E m.sz) o.type
 have H:Step [j+1] g (g.wr b1 (Zr cs (off*di.sz) news).toArray k.1 k.2.2.2.2.2 (fun _=>False) (j+1)):=Zmb k.2.1 (.inr rfl) k.2.2.2.2.2
 have I:(execOp a.eval o).run P g.w=.ok (.value (.int .i64 (vs.length:Int))) (g.wr b1 (Zr cs (off*di.sz) news).toArray k.1 k.2.2.2.2.2 (fun _=>False) (j+1)).w:=by
   simp[execOp,u,resolve,invoke,builtin,b,C,X,wr_w]
 unfold Oper.wp
 rw[I]
 refine T _ _ H fun en J=>?_
 simp only[Zbxi,Zbxr,or_false]at J
 rcases J with rfl | rfl
 · rw[q,Zdn _ (by rw[S];exact z d q)];exact Zhh _ _ _
 · rw [Zlf _ (by rw [q];intro h;exact v (Zbxo.inj h).symm)]
   exact⟨b1,_,tt,B,Zz5 k (Zbae m.sz k.2.2.2.2.1 p (by omega) E),U⟩
theorem Zbi3 {bytes i j1 len cap e2:Nat} {xs:List (List α)} {u vs:List α} {x':β} {pr:σ→SlV} (b':j1≠j) (B:∀s,raw x' s=raw xv s) (hR:∀g s,R.p g s→(pArr (Kd.arr n di) e2 j1 xs).p g (slv (pr s))) (D:∀g g' s,Step [j1+1] g g'→R.p g s→(pArr (Kd.arr n di) e2 j1 (xs.set i (Zi0 u 0 vs))).p g' (slv (pr s))→R2.p g' s) (v:TE P t e di bytes) (E:vs.length≤len∧vs.length≤n∧0<n) (z:xs[i]? =some u) (F:o.op=.call {callee:=.builtin .copy,args:=#[x,y],argTypes:=#[t,t]}) (G:o.dst=some d) (c':m≠d)
   (hs:Opd uses (.tmp m) (pSJ kV raw R j b xv)) (hx:Opd uses x (pVw j1 (i*(n*di.sz)) len cap)) (hy:Opd uses y (di.sl.pd vs)):OB P N o uses [(d,pInt .i64 (vs.length:Int)),(m,pSJ kV raw R2 j b x')] [j1+1]:=by
 intro a g K Q hN H C hK
 obtain⟨b1,I,J,L⟩:=hx a g C
 obtain⟨s,cs,tt,hm,f⟩:=Zn0 (hs a g C)
 rcases hR g s f with ⟨rfl,_⟩ | ⟨b3,cap3,cur,M,k⟩
 · simp at z
 obtain rfl:=k.uniq b1 J L
 obtain⟨A,c2,news,O,c,S,T⟩:=Z6h (hy a g C)
 obtain⟨ii,zz,U,hz,V,d',e'⟩:=v.info
 have f':=(Zbxn.1 z).1
 have a':xs.length≤cap3:=by simpa using k.len
 have W:=k.known i u (by simp[z])
 have q:(Kd.arr n di).sz=n*di.sz:=rfl
 have h':news.length≤n*di.sz:=by rw[c];exact Zbx9 _ E.2.1
 have i':i*(n*di.sz)+n*di.sz≤cap3*(n*di.sz):=Zlr (by omega)
 have l:=Zbae (off:=0) v.sz W c (by omega) T
 rw[Nat.zero_mul]at l
 obtain⟨g',e1,r,X⟩:=Zbeh (off:=0) (ys:=news) k z (by rw[q];omega) l
 have hr:=Zym (P:=P) (off:=i*(n*di.sz)) (cap:=cap) (c2:=c2) v.und U V k.heap E.1 S c (by rw[k.sz,q];omega) (Zn6 c T v.sz) o.type
 have Y:(execOp a.eval o).run P g.w=.ok (.value (.int .i64 (vs.length:Int))) g'.w:=by
   rw[e1]
   simp[execOp,F,resolve,invoke,builtin,I,O,hr,q]
 unfold Oper.wp
 rw[Y]
 refine hK _ _ r fun en Z=>?_
 simp only[Zbxi,Zbxr,or_false]at Z
 rcases Z with rfl | rfl
 · rw[G,Zdn _ (by rw[hN];exact H d G)];exact Zhh _ _ _
 · refine Zqz (s:=s) (hm.st r (fun hS=>?_) (Zbza _) |> fun h=>by rw [B s];exact h) (D g g' s r f (.inr ⟨b1,cap3,_,by rw [Zbyl];exact M,X⟩))
   have:=Zbxf.1 hS;omega
end
section
variable {P:Program} {N:Nat} {o:Oper} {uses outs:Z8} {S:List Nat} {d:Nat} {q q2:Pd} {x y z:Operand} {α β β' γ σ:Type} {kV:Kd γ} {raw:α→σ→γ} {R:Hp σ} {dk:Kd β} {dr:Kd β'} {t e er j jl:Nat} {xv:α} {k:ObR α}
def pStG (kV:Kd γ) (raw:α→σ→γ) (R:Hp σ) (x:α):Pd:=⟨fun g v=>∃s,(kV.pd (raw x s)).p g v∧R.p g s,R.fp,fun st k ⟨s,m,n⟩=>⟨s,(kV.pd (raw x s)).st st (fun _ h=>by cases h) m,R.st st k n⟩⟩
theorem Zbgm {yt jr:Nat} {raw:α→SlV×SlV→γ} {xs:List β} (h:∀(s1:SlV) (U:Z8),Opd U (.tmp yt) (Kd.raw.pd s1)→OB P N o U [(d,kV.pd (raw xv (s1,(none,0,0))))] []) (r:o.dst=some d) (w:Opd uses (.tmp yt) (pArr dk e jl xs)):OB P N o uses [(d,pStG kV raw (hpL2 (pArr dk e jl xs) (pRow dr er jr [])) xv)] [] :=
 OB.at fun a g hh=>by
   have t:=w a g hh
   obtain⟨s,u⟩:=Zbod t
   refine⟨[(N,pAt (slv s) (pArr dk e jl xs)),(yt,Kd.raw.pd s)],fun en k=>?_,?_⟩
   · rcases Zbxi.1 k with rfl | k
     · show (pArr dk e jl xs).p g (slv s)
       rw[←u];exact t
     · rw[Zbxf.1 k];exact Z87.2 u
   · intro a' g' K Q x m y z
     have v:=m d r
     refine (OB.frame (n:=N) (q:=pAt (slv s) (pArr dk e jl xs)) (h s _ .t0) (fun _ _ h=>by cases h) (by rw[r];intro h;exact absurd (Zbxo.inj h) (Zbzf v))).weak (fun g2 a2 h en k=>?_) a' g' K Q x m y z
     rw[Zbxf.1 k]
     exact⟨(s,(none,0,0)),h (d,kV.pd (raw xv (s,(none,0,0)))) (by simp),h (N,pAt (slv s) (pArr dk e jl xs)) (by simp),Zj1 jr g2⟩
theorem Zbnb {zt:Nat} (x:∀k∈R.fp,k≠j+1) (v:o.op=.box t (.tmp zt)) (m:o.dst=some d) (y:Opd uses (.tmp zt) (pStG kV raw R xv)):OB P N o uses [(d,Zda none kV raw R j xv)] [j+1] :=
 OB.at fun a g hh=>by
   obtain⟨s,z,b⟩:=y a g hh
   let q':Pd:=⟨fun g _=>R.p g s,R.fp,fun st m h=>R.st st m h⟩
   refine⟨[(N,q'),(zt,kV.pd (raw xv s))],fun en r=>?_,?_⟩
   · rcases Zbxi.1 r with rfl | r
     · exact b
     · rw[Zbxf.1 r];exact z
   · intro a' g' K Q c u e f
     have w:=u d m
     refine (OB.frame (n:=N) (q:=q') (Zln (j:=j) v m .t0) (fun k i l=>x k i (Zbxf.1 l)) (by rw[m];intro h;exact absurd (Zbxo.inj h) (Zbzf w))).weak (fun g2 a2 h en r=>?_) a' g' K Q c u e f
     rw[Zbxf.1 r]
     exact⟨s,h (d,pBox kV j (raw xv s)) (by simp),h (N,q') (by simp)⟩
def Zbad (P:Program) (f:FuncId) (A:List Pd) (k:ObR α) (x:α) (q2:Pd):Prop :=
 ∀ (g:G) (args:List Value),ArgsOk A g args →
   Calls P f args.toArray g.w (fun e w'=>∃g' b B v2,e=.returned (.tuple #[.pointer (some ⟨b,0,none⟩),v2])∧w'=g'.w∧Zsu (fun _=>False) g g'∧g.w.heap.size≤b∧b<g'.w.heap.size∧k.R g' b B x∧(∀c,B c→g.w.heap.size≤c∧c<g'.w.heap.size∧c≠b)∧q2.p g' v2)
def Zbmt (kV:Kd γ) (raw:α→SlV×SlV→γ) (l1:α→List β) (dk:Kd β) (e:TypeId) (l2:α→List β') (dr:Kd β') (er:TypeId) (x:α) (q2:Pd) (g0:G) (v:Value) (g1:G):Prop:=Base g0 g1∧∃j j1 j2 v1 v2,v=.tuple #[v1,v2]∧(j≠j1∧j≠j2∧j1≠j2)∧(Zda none kV raw (hpL2 (pArr dk e j1 (l1 x)) (pRow dr er j2 (l2 x))) j x).p g1 v1∧q2.p g1 v2
theorem Zbgq {raw:α→SlV×SlV→γ} {l1:α→List β} {l2:α→List β'} {x0:α} {f:FuncId} {fn:Func} {c:Code} {A:List Pd} (o:P.funcs[f]? =some fn) (B:fn.body=some c) (C:fn.ntmps=N) (I:A.length≤N) (D:Free A)
   (h:∀(a:Act) (g:G),(∀b,g.own b=0)→St N (Zip A 0) a g→Base g g→c.wp P (bodyPost P fn (FinP (Zbmt kV raw l1 dk e l2 dr er x0 q2 g))) a g.w):Zbad P f A (obAR kV raw l1 dk e l2 dr er) x0 q2:=by
 intro g args m
 let g0:G:=⟨g.w,g.pr,fun _=>0,g.hpr,g.gl⟩
 have u:g.le g0:=⟨Nat.le_refl _,fun _ _ h=>h,fun _ _ _=>rfl,fun _ _=>rfl,Zbxj _⟩
 have x:St N (Zip A 0) {tmps:=args.toArray++Zbx0 (fn.ntmps-args.toArray.size) undef,defers:=[]} g0:=by
   refine⟨?_,rfl,?_⟩
   · have:=m.1
     simp[C];omega
   · intro en E
     obtain⟨i,s,q⟩:=Zpu E
     have t:i<args.length:=by rw[m.1];exact (Zbxn.1 q).1
     have F:Act.at {tmps:=args.toArray++Zbx0 (fn.ntmps-args.toArray.size) undef,defers:=[]} en.1=args[i]:=by
       rw[s,Zbyc]
       simp only[Act.at,Zbxx]
       rw[Zbx6,if_pos (by simpa using t)]
       simp[t]
     rw[F]
     exact Pd.le (D.at q) u rfl rfl rfl (m.2 i en.2 _ q (Zbxk t))
 have r:Base g0 g0:=⟨.refl _,rfl,rfl,rfl,fun _ _ _=>⟨rfl,rfl,rfl⟩⟩
 refine Calls.mono (calls_of_wp o B (h _ g0 (fun _=>rfl) x r)) ?_
 rintro en w' ⟨g1,v,rfl,rfl,k,j,j1,j2,v1,v2,rfl,⟨n1,n2,n3⟩,⟨s1,⟨b,cs1,t1,rfl,⟨m1,m2,m3,m4,m5,m6⟩,_⟩,y,z⟩,d⟩
 have n:∀c,g1.own c≠0→c<g1.w.heap.size→g.w.heap.size≤c:=fun c s q=>Zbzb fun l=>s ((k.same c l rfl).2.2)
 have H:Zsu (fun _=>False) g g1:=⟨⟨k.le.size,k.le.pr,k.le.cell,k.le.blk,k.le.dr⟩,k.os,k.tape,k.output,fun c p _=>⟨(k.same c p rfl).1,(k.same c p rfl).2.1⟩⟩
 obtain⟨C1,c1,c2⟩:=Zbe9 y
 obtain⟨C2,d1,d2⟩:=Zbfb z
 refine⟨g1,b,fun c=>C1 c∨C2 c,v2,rfl,rfl,H,n b (by rw[m2];omega) m1,m1,⟨s1,cs1,t1,C1,C2,m4,m6,m5,c1,fun c p=>(c2 c p).2.2,d1,fun c h=>.inl h,fun c h=>.inr h,fun c h h'=>?_⟩,fun c p=>?_,d⟩
 · have k1:=(c2 c h).2.1
   have k2:=(d2 c h').2
   omega
 · rcases p with h | h
   · exact⟨n c (by rw[(c2 c h).2.1];omega) (c2 c h).1,(c2 c h).1,fun e=>by have:=(c2 c h).2.1;rw[e,m2]at this;omega⟩
   · exact⟨n c (by rw[(d2 c h).2];omega) (d2 c h).1,(d2 c h).1,fun e=>by have:=(d2 c h).2;rw[e,m2]at this;omega⟩
theorem Zbsa {raw:α→SlV×SlV→γ} {l1:α→List β} {l2:α→List β'} {fn:Func} {r1 r2:ResultVar} {v1 v2:Value} {a:Act} {g g0:G} {L:Z8} {x1:α} {j j1 j2:Nat} (k:fn.results=#[r1,r2]) (h:St N L a g) (m:Base g0 g) (n:Zfc P a g r1 v1) (q:Zfc P a g r2 v2) (r:q2.p g v2) (s:j≠j1∧j≠j2∧j1≠j2) (hs:(Zda none kV raw (hpL2 (pArr dk e j1 (l1 x1)) (pRow dr er j2 (l2 x1))) j x1).p g v1):bodyPost P fn (FinP (Zbmt kV raw l1 dk e l2 dr er x1 q2 g0)) .ret a g.w:=Zblo k h n q ⟨m,j,j1,j2,v1,v2,rfl,s,hs,r⟩
open Classical in
theorem Zbc5 {x0:α} {f:FuncId} {xs:List Operand} {A:List Pd} {ty:Array TypeId} {j:Nat} (u:Zi P f) (y:Zbad P f A k x0 q2) (z:o.op=.call {callee:=.value (.func f),args:=xs.toArray,argTypes:=ty}) (i:o.dst=some d) (l:q2.fp=[])
   (s:OpdL uses xs A):OB P N o uses [(d,pTup [Zkq none k j x0,q2])] [j+1,j+1+AUX]:=by
 intro a g K Q F C H I
 have J:(execOp a.eval o).run P g.w=.ok (.enter f (xs.map a.eval).toArray) g.w:=by
   simp[execOp,z,resolve,Act.eval,Deferred.ofValue,invoke,Zgo u]
 unfold Oper.wp
 rw[J]
 show Calls P f _ g.w _
 refine Calls.mono (y g _ (s.ok H)) ?_
 rintro e w' ⟨g',b,B,v2,rfl,rfl,r,M,D,L,v,E⟩
 let g2:G:=⟨g'.w,g'.pr,fun c=>if c<g.w.heap.size then (if g.own c=j+1∨g.own c=j+1+AUX then 0 else g.own c)else if c=b then j+1 else if B c then j+1+AUX else 0,g'.hpr,g'.gl⟩
 have t:g'.le g2:=⟨Nat.le_refl _,fun _ _ h=>h,fun _ _ _=>rfl,fun _ _=>rfl,Zbxj _⟩
 have m:∀c,g2.own c=if c<g.w.heap.size then (if g.own c=j+1∨g.own c=j+1+AUX then 0 else g.own c)else if c=b then j+1 else if B c then j+1+AUX else 0:=fun _=>rfl
 refine I _ g2 ⟨⟨r.le.size,r.le.pr,r.le.cell,r.le.blk,r.le.dr⟩,r.os,r.tape,r.output,fun c q x=>?_,fun c h1 h2=>?_,fun c q x=>?_⟩ fun e u=>?_
 · obtain ⟨k1,k2⟩:=r.same c q id
   refine⟨k1,k2,?_⟩
   rw[m,if_pos q,if_neg]
   simpa using x
 · rw [m,if_neg (by omega)]
   split
   · simp
   · split <;> simp
 · rw[m,if_pos q,if_pos (by simpa using x)];exact .inl rfl
 · rw [Zbxf.1 u,i]
   show (pTup [Zkq none k j x0,q2]).p g2 (Act.at _ d)
   rw[Zdn _ (by rw[F];exact C d i)]
   refine Zcr ⟨b,B,⟨rfl,fun _ h=>by cases h⟩,k.st L t (fun _ _=>⟨rfl,rfl⟩),D,?_,fun c q n=>?_,fun c q=>⟨(v c q).2.1,?_⟩⟩ (Pd.le l t rfl rfl rfl E)
   · rw[m,if_neg (by omega),if_pos rfl]
   · rw [m] at n
     split at n
     · split at n
       · omega
       · rename_i h;exact absurd n (fun h'=>h (.inl h'))
     · split at n
       · assumption
       · split at n
         · simp[AUX]at n
         · omega
   · rw[m,if_neg (by have:=(v c q).1;omega),if_neg (v c q).2.2,if_pos q]
end
section
variable {P:Program} {N:Nat} {o:Oper} {uses outs:Z8} {S:List Nat} {d:Nat} {q:Pd} {x:Operand} {α β β' γ:Type} {kV:Kd γ} {raw:α→SlV×SlV→γ} {l1:α→List β} {l2:α→List β'} {dk:Kd β} {dr:Kd β'} {e er b m:Nat}
open Classical in
theorem Z6o {x0 x1:α} {f:FuncId} {xs:List Operand} {A:List Pd} {ty:Array TypeId} (j:Zi P f) (C:FnMR P f (obAR kV raw l1 dk e l2 dr er) x0 x1 A q) (D:o.op=.call {callee:=.value (.func f),args:=(x::xs).toArray,argTypes:=ty}) (E:o.dst=some d)
   (L:q.fp=[]) (W:m≠d) (hs:Opd uses (.tmp m) (pSJ kV raw (hpL2 (pArr dk e AUX (l1 x0)) (pRow dr er AUX2 (l2 x0))) 0 b x0)) (M:Opd uses x (pEq (ptrB b 0))) (l:OpdL uses xs A):OB P N o uses [(d,q),(m,pSJ kV raw (hpL2 (pArr dk e AUX (l1 x1)) (pRow dr er AUX2 (l2 x1))) 0 b x1)] [1,AUX+1,AUX2+1]:=by
 intro a g K Q O F B S
 obtain⟨s,cs,t,⟨m1,m2,m3,m4,m5,m6⟩,H,I⟩:=Zn0 (hs a g B)
 obtain⟨C1,c1,c2⟩:=Zbe9 H
 obtain⟨C2,d1,d2⟩:=Zbfb I
 have T:(obAR kV raw l1 dk e l2 dr er).R g b (fun c=>C1 c∨C2 c) x0:=⟨s,cs,t,C1,C2,m4,m6,m5,c1,fun c k=>(c2 c k).2.2,d1,fun c h=>.inl h,fun c h=>.inr h,fun c h h'=>by
   have k1:=(c2 c h).2.1
   have k2:=(d2 c h').2
   rw[k1]at k2;simp[AUX2]at k2⟩
 have z:∀c,C1 c∨C2 c→c<g.w.heap.size∧c≠b∧(g.own c=AUX+1∨g.own c=AUX2+1):=fun c k=>by
   rcases k with h | h
   · exact⟨(c2 c h).1,fun e=>by have:=(c2 c h).2.1;rw[e,m2]at this;simp[AUX]at this,.inl (c2 c h).2.1⟩
   · exact⟨(d2 c h).1,fun e=>by have:=(d2 c h).2;rw[e,m2]at this;simp[AUX2]at this,.inr (d2 c h).2⟩
 have U:a.eval x=.pointer (some ⟨b,0,none⟩):=M a g B
 have V:(execOp a.eval o).run P g.w=.ok (.enter f (Value.pointer (some ⟨b,0,none⟩)::xs.map a.eval).toArray) g.w:=by
   simp[execOp,D,resolve,Znl,Deferred.ofValue,invoke,Zgo j,U]
 unfold Oper.wp
 rw[V]
 show Calls P f _ g.w _
 refine Calls.mono (C g b _ _ T m1 (fun c k=>⟨(z c k).1,(z c k).2.1⟩) (l.ok B)) ?_
 rintro en w' ⟨g',v,B',rfl,rfl,n,⟨s1,cs1,t1,B1,B2,r1,r2,r3,r4,r5,r6,r7,r8,r9⟩,i,J⟩
 have u:∀c,B' c→c≠b∧c<g'.w.heap.size:=fun c k=>⟨fun e=>by
   rcases (i c k).1 with h | h
   · exact (z c h).2.1 e
   · omega,(i c k).2⟩
 obtain⟨T1,t1a,t1b,t1c⟩:=Zbgw r4 (fun c k=>⟨(u c (r7 c k)).2,r5 c k⟩)
 obtain⟨T2,u1,u3⟩:=Zbh4 r6 (fun c k=>(u c (r8 c k)).2)
 have n12:∀c,T1 c→¬T2 c:=fun c h h'=>r9 c (t1a c h) (u1 c h')
 have nb1:∀c,T1 c→c≠b:=fun c h=>(u c (r7 c (t1a c h))).1
 have nb2:∀c,T2 c→c≠b:=fun c h=>(u c (r8 c (u1 c h))).1
 let own:Nat→Nat:=fun c=>if c=b then 1 else if T1 c then AUX+1 else if T2 c then AUX2+1 else if c<g.w.heap.size∧g.own c∉[1,AUX+1,AUX2+1]then g.own c else 0
 have own_def:∀c,own c=if c=b then 1 else if T1 c then AUX+1 else if T2 c then AUX2+1 else if c<g.w.heap.size∧g.own c∉[1,AUX+1,AUX2+1]then g.own c else 0:=fun _=>rfl
 let g2:G:=⟨g'.w,g'.pr,own,g'.hpr,g'.gl⟩
 have y:g'.le g2:=⟨Nat.le_refl _,fun _ _ h=>h,fun _ _ _=>rfl,fun _ _=>rfl,Zbxj _⟩
 have o2:∀c,own c=1→c=b:=fun c k=>by
   rw[own_def]at k
   split at k
   · assumption
   split at k
   · simp[AUX]at k
   split at k
   · simp[AUX2]at k
   split at k
   · rename_i h;exact absurd (by rw[k];simp) h.2
   · omega
 have oA:∀c,own c=AUX+1↔T1 c:=fun c=>by
   rw[own_def]
   constructor
   · intro k
     split at k
     · simp[AUX]at k
     split at k
     · assumption
     split at k
     · simp[AUX2]at k
     split at k
     · rename_i h;exact absurd (by rw[k];simp) h.2
     · omega
   · intro k
     rw[if_neg (nb1 c k),if_pos k]
 have oB:∀c,own c=AUX2+1↔T2 c:=fun c=>by
   rw[own_def]
   constructor
   · intro k
     split at k
     · simp[AUX2]at k
     split at k
     · simp[AUX2]at k
     split at k
     · assumption
     split at k
     · rename_i h;exact absurd (by rw[k];simp) h.2
     · omega
   · intro k
     rw[if_neg (nb2 c k),if_neg (fun h=>n12 c h k),if_pos k]
 have r:∀c,c=b∨T1 c∨T2 c→c<g.w.heap.size→g.own c∈[1,AUX+1,AUX2+1]:=fun c k X=>by
   have:c=b∨B' c:=by
     rcases k with h | h | h
     · exact .inl h
     · exact .inr (r7 c (t1a c h))
     · exact .inr (r8 c (u1 c h))
   rcases this with rfl | h
   · rw[m2];simp
   · rcases (i c h).1 with h | h
     · rcases (z c h).2.2 with h | h <;> rw[h] <;> simp
     · omega
 refine S v g2 ⟨⟨n.le.size,n.le.pr,n.le.cell,n.le.blk,n.le.dr⟩,n.os,n.tape,n.output,fun c k p=>?_,fun c h1 h2=>?_,fun c k p=>?_⟩ fun en j=>?_
 · obtain⟨k1,k2⟩:=n.same c k (by
     rintro (rfl | h)
     · exact p (by rw[m2];simp)
     · rcases (z c h).2.2 with h | h <;> exact p (by rw[h];simp))
   refine⟨k1,k2,?_⟩
   show own c=g.own c
   rw[own_def,if_neg (fun h=>p (r c (.inl h) k)),if_neg (fun h=>p (r c (.inr (.inl h)) k)),if_neg (fun h=>p (r c (.inr (.inr h)) k)),if_pos ⟨k,p⟩]
 · show own c=0 ∨ own c ∈ _
   rw[own_def]
   split
   · exact .inr (by simp)
   split
   · exact .inr (by simp)
   split
   · exact .inr (by simp)
   · rw[if_neg (by omega)];exact .inl rfl
 · show own c=0 ∨ own c ∈ _
   rw[own_def]
   split
   · exact .inr (by simp)
   split
   · exact .inr (by simp)
   split
   · exact .inr (by simp)
   · rw[if_neg (fun h=>h.2 p)];exact .inl rfl
 · simp only [Zbxi,Zbxr,or_false] at j
   rcases j with rfl | rfl
   · rw [E,Zdn v (by rw [O];exact F d E)]
     exact Pd.le L y rfl rfl rfl J
   · exact Zqz (s:=s1) (cs:=cs1) (t:=t1) ⟨Nat.lt_of_lt_of_le m1 n.le.size,by show own b=1;rw[own_def,if_pos rfl],fun c _ k=>o2 c k,r1,kV.mono y r3,r2⟩ ⟨t1c g2 AUX rfl rfl y oA,u3 g2 AUX2 rfl rfl y oB⟩
end
section
variable {P:Program} {N:Nat} {o:Oper} {uses outs:Z8} {d:Nat} {x y:Operand}
theorem Zbnv {t ty:TypeId} {α:Type} {dk:Kd α} {u v:α} {f1 f2:α→Int} (h:dk.ag=true) (k:∀g x cs,dk.K g x cs→cs=[.int .i64 (f1 x),.int .i64 (f2 x)]) (p:P.underlying t=some (.struct (P.fieldsOf t))) (q:P.stoodInHeld t=false) (r:P.eqGuardType P.depth t=false)
   (m:∀(w:World) (a1 a2 n1 n2:Int),(Op.eqFields 9999 #[.int .i64 a1,.int .i64 n1] #[.int .i64 a2,.int .i64 n2] (P.fieldsOf t).toList).run P w=.ok (a1==a2&&n1==n2) w)
   (n:o.op=.binOp .neq t x y ty) (s:o.dst=some d) (z:Opd uses x (dk.pd u)) (b:Opd uses y (dk.pd v)):OB P N o uses [(d,Zbo (!(f1 u==f1 v&&f2 u==f2 v)))] [] :=
 Zcl s fun a g hh=>by
   obtain⟨cs,k1,e1⟩:=z a g hh
   obtain⟨cs',k2,e2⟩:=b a g hh
   obtain rfl:=k g u cs k1
   obtain rfl:=k g v cs' k2
   rw[h]at e1 e2
   have e1:a.eval x=.agg #[.int .i64 (f1 u),.int .i64 (f2 u)]:=e1
   have e2:a.eval y=.agg #[.int .i64 (f1 v),.int .i64 (f2 v)]:=e2
   refine⟨.bool (!(f1 u==f1 v&&f2 u==f2 v)),?_,Zgt _ g⟩
   have c:(Op.equal t (.agg #[.int .i64 (f1 u),.int .i64 (f2 u)]) (.agg #[.int .i64 (f1 v),.int .i64 (f2 v)])).run P g.w=.ok (f1 u==f1 v&&f2 u==f2 v) g.w:=by
     show (Op.equalIn (9999+1) t _ _).run P g.w=_
     rw[run_equalIn_agg g.w 9999 t _ _ p q,m]
   have e:(binOp .neq t (.agg #[.int .i64 (f1 u),.int .i64 (f2 u)]) (.agg #[.int .i64 (f1 v),.int .i64 (f2 v)])).run P g.w=.ok (.bool (!(f1 u==f1 v&&f2 u==f2 v))) g.w:=by
     show (do pure (.bool (!(←Op.equal t (.agg #[.int .i64 (f1 u),.int .i64 (f2 u)]) (.agg #[.int .i64 (f1 v),.int .i64 (f2 v)])))):Sem Value).run P g.w=_
     simp only[Sem.run_bind,c,Result.andThen_ok,Sem.run_pure]
   have hg:=run_eqGuard_agg (P:=P) g.w .neq t x y #[.int .i64 (f1 u),.int .i64 (f2 u)] #[.int .i64 (f1 v),.int .i64 (f2 v)] r
   simp[execOp,n,e1,e2,hg,e]
end
section
variable {P:Program} {N:Nat} {o:Oper} {uses outs:Z8} {d:Nat} {x y:Operand} {α β:Type} {kd:Kd α} {di:Kd β}
theorem Z82 (off:Nat):∀(vs:List Value) (k:Nat) (cs:Array Value),off+k+vs.length≤cs.size→(vs.zipIdx k).foldl (fun cs (p:Value×Nat)=>cs.setIfInBounds (off+p.2) p.1) cs=(Zr cs.toList (off+k) vs).toArray
 | [],k,cs,_=>by simp[Zr]
 | v :: vs,k,cs,h=>by
   simp only[Zbys]at h
   have ih:=Z82 off vs (k+1) (cs.setIfInBounds (off+k) v) (by simp;omega)
   simp only[List.zipIdx_cons,List.foldl_cons,ih]
   congr 1
   apply Zbye
   intro i
   simp only[Zr,Array.toList_setIfInBounds,Zbyf,Zby0,Zby9,Zbxq,Zbxy,Zbyl,List.getElem?_set,Zbys,Zbyo,List.getElem?_cons]
   repeat' split
   all_goals first | omega | rfl | (congr 1;omega) | skip
theorem Zbd1 {place:Nat→Option (Nat×Nat)} {i off size:Nat} {v:Value} {vs:List Value} {cells r:Array Value} {rest:List (Nat×Value)} (k:place i=some (off,size)) (m:v.cells=vs.toArray) (hs:vs.length=size) (hf:off+size≤cells.size) (h:Instr.fill place (Zr cells.toList off vs).toArray rest=some r):Instr.fill place cells ((i,v)::rest)=some r:=by
 unfold Instr.fill
 simp only[k,m]
 rw[if_neg (by simp;omega)]
 have:=Z82 off vs 0 cells (by omega)
 rw[Zbym]at this
 rw[←h,←this]
 simp
theorem Zbe6 {t n:Nat} {F:Array Field} {k1:IntKind} {v:Int} {l:List β} {X:α} (h0:0<n*di.sz) (b:P.underlying t=some (.struct F)) (c:((P.info? t).bind (·.zero)).map (fun z=>z.cells.size)=some (1+n*di.sz)) (e:F.toList.map (fun f=>(P.info? f.type).map fun i=>(f.offset,i.size))=([(0,1),(1,n*di.sz)]:List (Nat×Nat)).map some) (k:kd.ag=true) (j:∀g cs,(Kd.arr n di).K g l cs→kd.K g X (.int k1 v::cs))
   (m:o.op=.build t #[(0,x),(1,y)]) (A:o.dst=some d) (B:Opd uses x (pInt k1 v)) (C:Opd uses y ((Kd.arr n di).pd l)):OB P N o uses [(d,kd.pd X)] [] :=
 Zdj m A fun a g hh=>by
   have D:=Zcy.1 (B a g hh)
   obtain⟨cs,p,h⟩:=C a g hh
   obtain⟨z,q,r⟩:=Zbxw.1 c
   have s:cs.length=n*di.sz:=p.2.1
   have h:a.eval y=.agg cs.toArray:=h
   have E:Instr.fill (([(0,1),(1,n*di.sz)]:List (Nat×Nat)).toArray[·]?) z.cells [(0,.int k1 v),(1,.agg cs.toArray)]=some (Value.int k1 v::cs).toArray:=by
     have u:(Zr z.cells.toList 0 [Value.int k1 v]).length=1+n*di.sz:=by rw[Zb7 (by simp;omega)];simpa using r
     refine Zbd1 (vs:=[.int k1 v]) rfl rfl rfl (by omega) (Zbd1 (vs:=cs) rfl rfl s (by rw[Zbyq,u];omega) ?_)
     show some _=some _
     congr 1
     simp only[Zr,Zbyz,Zbyt,List.drop_zero,Zbyc,List.length_singleton,List.singleton_append,List.take_succ_cons,Zbyz]
     rw[Zbyg (by simp;omega)]
     simp
   refine⟨_,Zc7 b q e (parts:=#[(0,x),(1,y)].map fun (i,x)=>(i,a.eval x)) (by simpa[D,h]using E) g.w,_,j g cs p,?_⟩
   rw[k];rfl
end
inductive RB where
 | o (p:Nat)
 | b (i k:Nat)
instance (n:Nat):OfNat RB n:=⟨cond (Nat.beq (n % 10) 5) (.o (n/10)) (.b (n/10) (n % 10))⟩
structure Sp where
 refs:List RB
 outs:Z8
 S:List Nat
def kth (X:Option Sp) (k:Nat):Nat×Pd:=((X.map (·.outs)).getD []).getD k (0,pAny)
def refA (L:Z8) (acc:List Sp):RB→Nat×Pd
 | .o p=>L.getD p (0,pAny)
 | .b i k=>kth acc[i]? k
def refE (L:Z8) (T:List Sp):RB→Nat×Pd
 | .o p=>L.getD p (0,pAny)
 | .b j k=>kth T[j]? k
def absR (L:Z8) (x:Nat):RB→Ref
 | .o p=>.old p
 | .b i k=>bif decide (i<x)then .op (x-1-i) k else .old L.length
def absE:RB→Ref
 | .o p=>.old p
 | .b j k=>.op j k
def Zbh5 (ms:List Nat) (o:Oper):Nat:=(Zs2 o).foldl (fun m j=>m ||| ((1 <<< j) ||| ms.getD j 0)) 0
def Zxf (L all:Z8):List Oper→List Nat→List Sp→List Spec
 | o::os,ms,X::Xs=>⟨X.refs.map (absR L ms.length),X.outs,X.S,(List.range ms.length).filter (fun j=>(Zbh5 ms o).testBit j),o.dst.toList++X.outs.map (·.1)++(bif X.S.isEmpty then []else (all.filter fun e=>e.2.fp.any X.S.contains).map (·.1))⟩::Zxf L all os (ms++[Zbh5 ms o]) Xs
 | _,_,_=>[]
section
variable {P:Program} {N:Nat} {ops:Array Oper} {L:Z8} {T:List Sp} {F:List RB} {o:Oper} {os:List Oper} {X:Sp} {Xs acc:List Sp} {uses outs:Z8} {S:List Nat} {d j s:Nat} {q:Pd} {D:List Deferred}
def AllA (P:Program) (ops:Array Oper) (N:Nat) (L:Z8):List Sp→List Oper→List Sp→Prop
 | acc,o::os,X::Xs=>OT P ops N o (X.refs.map (refA L acc)) X.outs X.S∧AllA P ops N L (X::acc) os Xs
 | _,[],[]=>True
 | _,_,_=>False
theorem Zbbx:∀{os:List Oper} {Xs acc:List Sp},AllA P ops N L acc os Xs→Xs.length=os.length
 | _::_,_::_,_,h=>by simp[Zbbx h.2]
 | [],[],_,_=>rfl
 | [],_::_,_,h=>h.elim
 | _::_,[],_,h=>h.elim
theorem Z2u {all:Z8}:∀{os:List Oper} {Xs:List Sp} {ms:List Nat} (j:Nat),Xs.length=os.length→((Zxf L all os ms Xs)[j]?).map (·.outs)=(Xs[j]?).map (·.outs)
 | _::_,X::Xs,ms,0,_=>rfl
 | _ :: _,X :: Xs,ms,j + 1,h=>by
   simp only[Zbys]at h
   simp only[Zxf,Zbx2]
   exact Z2u j (Nat.succ.inj h)
 | [],[],_,j,_=>by simp[Zxf]
 | [],_::_,_,_,h=>by simp at h
 | _::_,[],_,_,h=>by simp at h
theorem Zbef {T':List Spec} {Y:Option Sp} {j k:Nat} (h:(T'[j]?).map (·.outs)=Y.map (·.outs)):Zt3 T' j k=kth Y k:=by unfold Zt3 kth;rw[h]
theorem Zbm7 {T':List Spec} (n:∀j:Nat,(T'[j]?).map (·.outs)=(T[j]?).map (·.outs)) (m:∀i:Nat,i<acc.length→acc[i]?=T[acc.length-1-i]?) (r:RB):Zhg L T' (absR L acc.length r)=refA L acc r:=by
 cases r with
 | o p=>rfl
 | b i k =>
   by_cases h:i<acc.length
   · have e:absR L acc.length (.b i k)=.op (acc.length - 1 - i) k:=by simp [absR,h]
     rw[e]
     show Zt3 T' _ k=kth acc[i]? k
     rw[Zbef (n _),m i h]
   · have e:absR L acc.length (.b i k)=.old L.length:=by simp [absR,h]
     rw[e]
     show L.getD L.length (0,pAny)=kth acc[i]? k
     rw[Zbxu (by omega)]
     simp[kth]
theorem Zbn7 {T':List Spec} (h:∀j:Nat,(T'[j]?).map (·.outs)=(T[j]?).map (·.outs)) (r:RB):Zhg L T' (absE r)=refE L T r:=by
 cases r with
 | o p=>rfl
 | b j k=>exact Zbef (h j)
theorem Zbaj {all:Z8} {T':List Spec} (m:∀j:Nat,(T'[j]?).map (·.outs)=(T[j]?).map (·.outs)):∀{os:List Oper} {Xs acc:List Sp} {ms:List Nat},ms.length=acc.length→T=acc.reverse++Xs→AllA P ops N L acc os Xs→AllOT P ops N L T' os (Zxf L all os ms Xs)
 | o :: os,X :: Xs,acc,ms,n,p,h=>by
   refine⟨?_,Zbaj m (by simp[n]) (by rw[p];simp) h.2⟩
   have k:∀i:Nat,i<acc.length→acc[i]?=T[acc.length-1-i]?:=fun i hi=>by
     rw[p,List.getElem?_append_left (by simp;omega),List.getElem?_reverse (by omega)]
     congr 1;omega
   show OT P ops N o ((X.refs.map (absR L ms.length)).map (Zhg L T')) X.outs X.S
   rw[Zbzg,n,show (Zhg L T'∘absR L acc.length)=refA L acc from funext fun r=>Zbm7 m k r]
   exact h.1
 | [],[],_,_,_,_,_=>trivial
 | [],_::_,_,_,_,_,h=>h.elim
 | _::_,[],_,_,_,_,h=>h.elim
def chkA (N:Nat) (ops:Array Oper) (L:Z8) (T:List Sp) (F:List RB):Bool:=chk N ops L (Zxf L (L++T.flatMap (·.outs)) ops.toList [] T) (F.map absE)
theorem U5 (F:List RB) {id:Nat} {draw:Bool} {g0:G} {a:Act} {g:G} {Q:Exit→Act→World→Prop} (h:StD D N L a g) (n:Base g0 g) (q:P.follows .mixedOrders=true) (p:AllA P ops N L [] ops.toList T)
   (s:∀a g,StD D N (F.map (refE L T)) a g→Base g0 g→Q .normal a g.w) (t:chkA N ops L T F=true:=by kernel_rfl):(Code.region id ops draw).wp P Q a g.w:=by
 have u:=Zbbx p
 have k:=fun j=>Z2u (L:=L) (all:=L++T.flatMap (·.outs)) (ms:=[]) (Xs:=T) (os:=ops.toList) j u
 refine Zud q t (Zbaj k rfl rfl p) h n fun a g m n=>s a g ?_ n
 rw[Zbzg,show (Zhg L (Zxf L (L++T.flatMap (·.outs)) ops.toList [] T)∘absE)=refE L T from funext fun r=>Zbn7 k r]at m
 exact m
theorem U4 (F:List RB) {id:Nat} {draw:Bool} {g0:G} {a:Act} {g:G} {Q:Exit→Act→World→Prop} {y:Code} (h:StD D N L a g) (k:Base g0 g) (m:P.follows .mixedOrders=true) (n:AllA P ops N L [] ops.toList T)
   (p:∀a g,StD D N (F.map (refE L T)) a g→Base g0 g→y.wp P Q a g.w) (q:chkA N ops L T F=true:=by kernel_rfl):(Code.seq (Code.region id ops draw) y).wp P Q a g.w:=wp_seq (U5 F h k m n p q)
theorem U2 (r:List RB) (h:OB P N o (r.map (refA L acc)) outs S) (hs:AllA P ops N L (⟨r,outs,S⟩::acc) os Xs) (hg:o.guard=none:=by rfl):AllA P ops N L acc (o::os) (⟨r,outs,S⟩::Xs):=⟨.plain hg h,hs⟩
theorem a_g (r:List RB) (h:OT P ops N o (r.map (refA L acc)) outs S) (hs:AllA P ops N L (⟨r,outs,S⟩::acc) os Xs):AllA P ops N L acc (o::os) (⟨r,outs,S⟩::Xs):=⟨h,hs⟩
theorem U3:AllA P ops N L acc [] []:=trivial
theorem Am (r:RB) (h:(o.guard,o.op,o.dst,refA L acc r)=(none,.move (.tmp s),some d,(s,q))) (hs:AllA P ops N L (⟨[r],[(d,q)],[]⟩::acc) os Xs):AllA P ops N L acc (o::os) (⟨[r],[(d,q)],[]⟩::Xs):=by
 simp only[Zbya.injEq]at h
 exact U2 (hg:=h.1) [r] (Zx h.2.1 h.2.2.1 (by rw[Zbx3,show refA L acc r=(s,q) from h.2.2.2];exact U0)) hs
theorem Aa (r:RB) (h:(o.guard,o.op,o.dst,refA L acc r)=(none,.assign (.tmp s),some d,(s,q))) (hs:AllA P ops N L (⟨[r],[(d,q)],[]⟩::acc) os Xs):AllA P ops N L acc (o::os) (⟨[r],[(d,q)],[]⟩::Xs):=by
 simp only[Zbya.injEq]at h
 exact U2 (hg:=h.1) [r] (Zc h.2.1 h.2.2.1 (by rw[Zbx3,show refA L acc r=(s,q) from h.2.2.2];exact U0)) hs
theorem Gt {c:Bool} (r:List RB) (hh:(o.guard,(ops[j]?).bind (·.dst),o.dst,r.map (refA L acc))=(some (j,true),some d,some s,(d,Zbo c)::uses)) (h:c=true→OB P N o uses [(s,q)] S) (hs:AllA P ops N L (⟨r,[(s,pIf c q)],S⟩::acc) os Xs):AllA P ops N L acc (o::os) (⟨r,[(s,pIf c q)],S⟩::Xs):=by
 simp only[Zbya.injEq]at hh
 exact a_g r (by rw[hh.2.2.2];exact g_t hh.1 hh.2.1 hh.2.2.1 h) hs
theorem Gf {c:Bool} (r:List RB) (hh:(o.guard,(ops[j]?).bind (·.dst),o.dst,r.map (refA L acc))=(some (j,false),some d,some s,(d,Zbo c)::uses)) (h:(!c)=true→OB P N o uses [(s,q)] S) (hs:AllA P ops N L (⟨r,[(s,pIf (!c) q)],S⟩::acc) os Xs):AllA P ops N L acc (o::os) (⟨r,[(s,pIf (!c) q)],S⟩::Xs):=by
 simp only[Zbya.injEq]at hh
 exact a_g r (by rw[hh.2.2.2];exact g_f hh.1 hh.2.1 hh.2.2.1 h) hs
theorem Gu {b c:Bool} (r:List RB) (hh:(o.guard,(ops[j]?).bind (·.dst),o.dst,r.map (refA L acc))=(some (j,true),some d,some s,(d,pIf b (Zbo c))::uses)) (h:(b&&c)=true→OB P N o uses [(s,q)] S) (hs:AllA P ops N L (⟨r,[(s,pIf (b&&c) q)],S⟩::acc) os Xs):AllA P ops N L acc (o::os) (⟨r,[(s,pIf (b&&c) q)],S⟩::Xs):=by
 simp only[Zbya.injEq]at hh
 exact a_g r (by rw[hh.2.2.2];exact g_ti hh.1 hh.2.1 hh.2.2.1 h) hs
theorem Gv {b c:Bool} (r:List RB) (hh:(o.guard,(ops[j]?).bind (·.dst),o.dst,r.map (refA L acc))=(some (j,false),some d,some s,(d,pIf b (Zbo c))::uses)) (h:(b&&!c)=true→OB P N o uses [(s,q)] S) (hs:AllA P ops N L (⟨r,[(s,pIf (b&&!c) q)],S⟩::acc) os Xs):AllA P ops N L acc (o::os) (⟨r,[(s,pIf (b&&!c) q)],S⟩::Xs):=by
 simp only[Zbya.injEq]at hh
 exact a_g r (by rw[hh.2.2.2];exact g_fi hh.1 hh.2.1 hh.2.2.1 h) hs
variable {α β:Type} {dk:Kd α} {di:Kd β} {t i jj off:Nat} {v:α} {z:β} {pj:α→β} {c:Option Nat}
theorem Al (k:Ty P t dk) (r:RB) (h:(o.guard,o.op,o.dst,refA L acc r)=(none,.load t (.tmp s),some d,(s,dk.ptr v))) (hs:AllA P ops N L (⟨[r],[(d,dk.pd v)],[]⟩::acc) os Xs):AllA P ops N L acc (o::os) (⟨[r],[(d,dk.pd v)],[]⟩::Xs):=by
 simp only[Zbya.injEq]at h
 exact U2 (hg:=h.1) [r] (Z2 k h.2.1 h.2.2.1 (by rw[Zbx3,show refA L acc r=(s,dk.ptr v) from h.2.2.2];exact U0)) hs
theorem Af (k:Fld P t i dk di pj) (r:RB) (h:(o.guard,o.op,o.dst,refA L acc r)=(none,.fieldAddr t (.tmp s) i,some d,(s,dk.ptr v))) (hs:AllA P ops N L (⟨[r],[(d,di.ptr (pj v))],[]⟩::acc) os Xs):AllA P ops N L acc (o::os) (⟨[r],[(d,di.ptr (pj v))],[]⟩::Xs):=by
 simp only[Zbya.injEq]at h
 exact U2 (hg:=h.1) [r] (Zq k h.2.1 h.2.2.1 (by rw[Zbx3,show refA L acc r=(s,dk.ptr v) from h.2.2.2];exact U0)) hs
theorem AM (k:Ty P t dk) (r:RB) (h:(o.guard,o.op,o.dst,refA L acc r)=(none,.load t (.tmp s),some d,(s,Zbm c dk jj v))) (hs:AllA P ops N L (⟨[r],[(d,dk.pd v)],[]⟩::acc) os Xs):AllA P ops N L acc (o::os) (⟨[r],[(d,dk.pd v)],[]⟩::Xs):=by
 simp only[Zbya.injEq]at h
 exact U2 (hg:=h.1) [r] (Zu4 (c:=c) k h.2.1 h.2.2.1 (by rw[Zbx3,show refA L acc r=(s,Zbm c dk jj v) from h.2.2.2];exact U0)) hs
theorem AP (k:Ty P t di) (r:RB) (h:(o.guard,o.op,o.dst,refA L acc r)=(none,.load t (.tmp s),some d,(s,Zfj dk jj v off di z))) (hs:AllA P ops N L (⟨[r],[(d,di.pd z)],[]⟩::acc) os Xs):AllA P ops N L acc (o::os) (⟨[r],[(d,di.pd z)],[]⟩::Xs):=by
 simp only[Zbya.injEq]at h
 exact U2 (hg:=h.1) [r] (Zjn k h.2.1 h.2.2.1 (by rw[Zbx3,show refA L acc r=(s,Zfj dk jj v off di z) from h.2.2.2];exact U0)) hs
end
section
variable {P:Program} {N:Nat} {o:Oper} {uses outs:Z8} {S:List Nat} {d:Nat} {q:Pd} {x y z:Operand}
def bstr (xs:List Int):ByteArray:=xs.foldl (fun r n=>r.push (UInt8.ofNat n.toNat)) ByteArray.empty
theorem Zbns {src dst e:TypeId} {xs:List Int} (hs:P.underlying src=some (.slice e)) (q:P.underlying e=some (.int .u8)) (h:P.underlying dst=some .string) (k:o.op=.convert src dst x) (z:o.dst=some d) (f:Opd uses x ((Kd.int .u8).sl.pd xs)):OB P N o uses [(d,pStr (bstr xs))] [] :=
 Zcl z fun a g hh=>by
   obtain⟨A,c,r,h1,h2,s⟩:=Kd.sl_V.1 (f a g hh)
   have main:∀b of,A=some ⟨b,of,none⟩→(loadCells ⟨b,of,none⟩ xs.length).run P g.w=.ok (xs.map (Value.int .u8)).toArray g.w→∃v,(execOp a.eval o).run P g.w=.ok (.value v) g.w∧(pStr (bstr xs)).p g v:=by
     rintro b of rfl m
     exact⟨.string (bstr xs),by simp[execOp,k,r,run_convert_bytes_string g.w src dst e (some ⟨b,of,none⟩) xs.length c hs q h,run_bytesToString g.w ⟨b,of,none⟩ xs.length c xs m,bstr],Zog.2 rfl⟩
   rcases s with rfl | ⟨b,of,rfl,s⟩
   · cases A with
     | none=>exact⟨.string ByteArray.empty,by simp[execOp,k,r,run_convert_bytes_string g.w src dst e none 0 c hs q h,Conv.bytesToString],Zog.2 rfl⟩
     | some A =>
       have m:(loadCells A ([]:List Int).length).run P g.w=.ok (([]:List Int).map (Value.int .u8)).toArray g.w:=by simp[loadCells,loadCellsFrom]
       exact⟨.string (bstr []),by simp[execOp,k,r,run_convert_bytes_string g.w src dst e (some A) 0 c hs q h,run_bytesToString g.w A 0 c [] m,bstr],Zog.2 rfl⟩
   · refine main b of rfl ?_
     have m:(loadCells ⟨b,of,none⟩ (xs.map (Value.int .u8)).length).run P g.w=.ok (xs.map (Value.int .u8)).toArray g.w:=by
       refine run_loadCells_list g.w ⟨b,of,none⟩ (xs.map (Value.int .u8)) fun i u t=>?_
       rw[Zbxm]at t
       obtain⟨n,j,rfl⟩:=Zbxw.1 t
       obtain⟨cs,k1,k2⟩:=s i n j
       obtain rfl:=k1
       have:=(k2 0 (.int .u8 n) rfl).2
       have y:(Kd.int .u8).sz=1:=rfl
       rw[y,Zbyw,Zbym]at this
       rw[Zdy];exact this
     rwa [Zbyb]at m
end
section
variable {P:Program} {N:Nat} {o:Oper} {uses outs:Z8} {S:List Nat} {d:Nat} {q:Pd} {x y z:Operand} {Q:Exit→Act→World→Prop} {a:Act} {w:World} {K:Act→World→Prop} {D:List Deferred} {g0:G} {ops:Array Oper} {L:Z8} {T:List Spec} {F:List Ref} {os:List Oper} {X:Spec} {Xs:List Spec}
theorem Zwt {ch:List PanicEntry} (h:Q (.panic ch) a w):Exit.then K Q (.panic ch) a w:=h
theorem Z54 {id:Nat} {ch:List PanicEntry} (h:Q (.panic ch) a w):Exit.inBlock id Q (.panic ch) a w:=h
theorem r_gQ {id:Nat} {draw:Bool} {a:Act} {g:G} {Q:Exit→Act→World→Prop} (h:StD D N L a g) (k:Base g0 g) (m:P.follows .mixedOrders=true) (n:Znp P ops N L T D g0 Q ops.toList T) (p:chk N ops L T F=true)
   (q:∀a g,StD D N (F.map (Zhg L T)) a g→Base g0 g→Q .normal a g.w):(Code.region id ops draw).wp P Q a g.w:=Zbdo m p n h k q
theorem q_p (hg:o.guard=none) (h:OB P N o (X.refs.map (Zhg L T)) X.outs X.S) (hs:Znp P ops N L T D g0 Q os Xs):Znp P ops N L T D g0 Q (o::os) (X::Xs):=⟨(OT.plain hg h).q,hs⟩
theorem q_q (h:OTQ P ops N o (X.refs.map (Zhg L T)) X.outs X.S D g0 Q) (hs:Znp P ops N L T D g0 Q os Xs):Znp P ops N L T D g0 Q (o::os) (X::Xs):=⟨h,hs⟩
theorem q_n:Znp P ops N L T D g0 Q [] []:=trivial
def pNo:Pd:=⟨fun _ _=>False,[],fun _ _ h=>h⟩
theorem Z3x (h:Opd uses x pNo):OB P N o uses outs S:=fun a g K Q hN m k hK=>(h a g k).elim
def Zqx (t:TypeId) (q:Pd):Pd:=⟨fun g v=>∃u,v=.iface t u∧q.p g u,q.fp,fun st k ⟨u,e,h⟩=>⟨u,e,q.st st k h⟩⟩
theorem Zblb {t:TypeId} (h:(P.underlying t).map (fun u=>match u with | .interface _=>true | _=>false)=some false) (m:o.op=.makeInterface t x) (n:o.dst=some d) (p:Opd uses x q):OB P N o uses [(d,Zqx t q)] [] :=
 Zcl n fun a g hh=>by
   refine⟨.iface t (a.eval x),?_,_,rfl,p a g hh⟩
   cases k:P.underlying t with
   | none=>rw[k]at h;cases h
   | some u =>
     rw[k]at h
     cases u <;> first | (simp at h;done) | simp[execOp,m,Instr.makeInterface,run_underlying k]
theorem Zbiq {t:TypeId} (h:o.op=.panic x) (hg:o.guard=none) (m:Opd uses x (Zqx t q)) (n:∀(a:Act) g v,a.tmps.size=N→a.defers=D→Base g0 g→Ze4 uses a g→(Zqx t q).p g v→Q (.panic [{v:=v,recovered:=false}]) a g.w):OTQ P ops N o uses outs S D g0 Q:=by
 intro a g K r s y d k hK
 have:Region.wanted o (yielded ops a.tmps)=true:=by simp[Region.wanted,hg]
 rw[if_pos this]
 obtain⟨u,z,b⟩:=m a g k
 have c:(execOp a.eval o).run P g.w=.halt (.panic (.iface t u)) g.w:=by simp[execOp,h,z,Instr.panic,goPanic]
 unfold Oper.wp
 rw[c]
 exact n a g _ r s y k ⟨u,rfl,b⟩
def Zbf1 (P:Program) (f:FuncId) (A:List Pd) (q:Pd):Prop:=∀(g:G) (args:List Value),ArgsOk A g args→Calls P f args.toArray g.w (fun e w'=>∃g' v,e=.panicked [{v:=v,recovered:=false}]∧w'=g'.w∧Step [] g g'∧q.p g' v)
def Zbg3 (g0:G) (q:Pd):Ending→World→Prop:=fun e w'=>∃g1 v,e=.panicked [{v:=v,recovered:=false}]∧w'=g1.w∧Base g0 g1∧q.p g1 v
theorem Zbam {g g0:G} {A:List Pd} {args:List Value} {n:Nat} (r:g.le g0) (k:g0.w=g.w) (h:ArgsOk A g args) (t:A.all (fun q=>q.fp.isEmpty)=true) (z:A.length≤N) (u:n=N):St N (Zip A 0) {tmps:=args.toArray++Zbx0 (n-args.toArray.size) undef,defers:=[]} g0:=by
 refine⟨?_,rfl,?_⟩
 · have:=h.1
   simp[u];omega
 · intro e v
   obtain⟨i,x,m⟩:=Zpu v
   have p:i<args.length:=by rw[h.1];exact (Zbxn.1 m).1
   have s:e.2.fp=[]:=by
     have:=Zbx8.1 t e.2 (Zbxv m)
     simpa using this
   have y:Act.at {tmps:=args.toArray++Zbx0 (n-args.toArray.size) undef,defers:=[]} e.1=args[i]:=by
     rw[x,Zbyc]
     simp only[Act.at,Zbxx]
     rw[Zbx6,if_pos (by simpa using p)]
     simp[p]
   rw[y]
   exact Pd.le s r (by rw[k]) (by rw[k]) (by rw[k]) (h.2 i e.2 _ m (Zbxk p))
def G.bare (g:G):G:=⟨g.w,g.pr,fun _=>0,g.hpr,g.gl⟩
theorem Zt7 (g:G):g.le g.bare:=⟨Nat.le_refl _,fun _ _ h=>h,fun _ _ _=>rfl,fun _ _=>rfl,Zbxj _⟩
theorem Zs0 (g:G):Base g.bare g.bare:=⟨.refl _,rfl,rfl,rfl,fun _ _ _=>⟨rfl,rfl,rfl⟩⟩
theorem Zvc {g g1:G} (k:Base g.bare g1):∃g2:G,g2.w=g1.w∧Step [] g g2∧g1.le g2 :=
 ⟨⟨g1.w,g1.pr,fun b=>if b<g.w.heap.size then g.own b else 0,g1.hpr,g1.gl⟩,rfl,⟨⟨k.le.size,k.le.pr,k.le.cell,k.le.blk,k.le.dr⟩,k.os,k.tape,k.output,fun b m _=>⟨(k.same b m rfl).1,(k.same b m rfl).2.1,if_pos m⟩,fun b m _=>.inl (if_neg (by omega)),fun _ _ h=>by cases h⟩,⟨Nat.le_refl _,fun _ _ h=>h,fun _ _ _=>rfl,fun _ _=>rfl,Zbxj _⟩⟩
theorem Zbkz {f:FuncId} {fn:Func} {c:Code} {A:List Pd} (p:P.funcs[f]? =some fn) (r:fn.body=some c) (s:fn.ntmps=N) (m:A.length≤N) (t:A.all (fun q=>q.fp.isEmpty)=true) (u:q.fp=[])
   (h:∀(a:Act) (g:G),St N (Zip A 0) a g→Base g g→c.wp P (bodyPost P fn (Zbg3 g q)) a g.w):Zbf1 P f A q:=by
 intro g args k
 refine Calls.mono (calls_of_wp p r (h _ g.bare (Zbam (Zt7 g) rfl k t m s) (Zs0 g))) ?_
 rintro e w' ⟨g1,v,rfl,rfl,x,y⟩
 obtain⟨g2,e2,z,n⟩:=Zvc x
 exact⟨g2,v,rfl,e2.symm,z,Pd.le u n (by rw[e2]) (by rw[e2]) (by rw[e2]) y⟩
theorem Zbq5 {fn:Func} {a:Act} {g:G} {v:Value} (h:a.defers=[]) (k:Base g0 g) (m:q.p g v):bodyPost P fn (Zbg3 g0 q) (.panic [{v:=v,recovered:=false}]) a g.w:=⟨h,g,v,rfl,rfl,k,m⟩
theorem Zbck {f:FuncId} {xs:List Operand} {A:List Pd} {ty:Array TypeId} (m:Zi P f) (n:Zbf1 P f A q) (r:o.op=.call {callee:=.value (.func f),args:=xs.toArray,argTypes:=ty}) (hg:o.guard=none) (k:OpdL uses xs A)
   (t:∀(a:Act) g v,a.tmps.size=N→a.defers=D→Base g0 g→Ze4 uses a g→q.p g v→Q (.panic [{v:=v,recovered:=false}]) a g.w):OTQ P ops N o uses outs S D g0 Q:=by
 intro a g K u x y c s hK
 have:Region.wanted o (yielded ops a.tmps)=true:=by simp[Region.wanted,hg]
 rw[if_pos this]
 have z:(execOp a.eval o).run P g.w=.ok (.enter f (xs.map a.eval).toArray) g.w:=by
   simp[execOp,r,resolve,Znl,Deferred.ofValue,invoke,Zgo m]
 unfold Oper.wp
 rw[z]
 show Calls P f _ g.w _
 refine Calls.mono (n g _ (k.ok s)) ?_
 rintro e w' ⟨g',v,rfl,rfl,hs,b⟩
 exact t a g' v u x (y.step hs (by simp)) (fun e m=>e.2.st hs (fun _ _ h=>by cases h) (s e m)) b
theorem Zbik {f:FuncId} {fn:Func} {c:Code} {A:List Pd} (p:P.funcs[f]? =some fn) (r:fn.body=some c) (s:fn.ntmps=N) (m:A.length≤N) (t:A.all (fun q=>q.fp.isEmpty)=true) (u:q.fp=[])
   (h:∀(a:Act) (g:G),(∀b,g.own b=0)→St N (Zip A 0) a g→Base g g→c.wp P (bodyPostD P fn (Fin g q)) a g.w):FnOk P f A q:=by
 intro g args k
 refine Calls.mono (calls_of_wp_defers p r (h _ g.bare (fun _=>rfl) (Zbam (Zt7 g) rfl k t m s) (Zs0 g))) ?_
 rintro e w' ⟨g1,v,rfl,rfl,x,y⟩
 obtain⟨g2,e2,z,n⟩:=Zvc x
 exact⟨g2,v,rfl,e2.symm,z,Pd.le u n (by rw[e2]) (by rw[e2]) (by rw[e2]) y⟩
def dfr3 (f:FuncId) (v1:Value) (b2 b3:Nat):List Deferred:=[{target:=.fn (.func f) #[v1,.pointer (some ⟨b2,0,none⟩),.pointer (some ⟨b3,0,none⟩)],args:=#[]}]
theorem Zbif {id f x1 x2 x3 d1:Nat} {o1 o2:Oper} {a:Act} {w:World} (u:o1.op=.makeFunc (.func f) #[] #[.tmp x1,.tmp x2,.tmp x3]) (h:o1.guard=none) (k:o1.dst=some d1) (x:o2.op=.defer {callee:=.value (.tmp d1),args:=#[],argTypes:=#[]}) (n:o2.guard=none) (p:o2.dst=none) (q:d1<a.tmps.size)
   {b2 b3:Nat} {v1:Value} (e1:Act.at a x1=v1) (e2:Act.at a x2=.pointer (some ⟨b2,0,none⟩)) (e3:Act.at a x3=.pointer (some ⟨b3,0,none⟩)) (y:a.defers=[])
   (z:Q .normal {tmps:=(a.put (some d1) (.func (.func f) #[] #[v1,.pointer (some ⟨b2,0,none⟩),.pointer (some ⟨b3,0,none⟩)])).tmps,defers:=dfr3 f v1 b2 b3} w):(Code.region id #[o1,o2] false).wp P Q a w:=by
 refine wp_region ?_
 have q1:a.eval (.tmp x1)=v1:=e1
 have q2:a.eval (.tmp x2)=_:=e2
 have q3:a.eval (.tmp x3)=_:=e3
 have r:(execOp a.eval o1).run P w=.ok (.value (.func (.func f) #[] #[v1,.pointer (some ⟨b2,0,none⟩),.pointer (some ⟨b3,0,none⟩)])) w:=by
   simp[execOp,u,Instr.makeFunc,q1,q2,q3]
 have s:(a.put (some d1) (.func (.func f) #[] #[v1,.pointer (some ⟨b2,0,none⟩),.pointer (some ⟨b3,0,none⟩)])).eval (.tmp d1)=.func (.func f) #[] #[v1,.pointer (some ⟨b2,0,none⟩),.pointer (some ⟨b3,0,none⟩)]:=Zdn _ q
 have t:(execOp (a.put (some d1) (.func (.func f) #[] #[v1,.pointer (some ⟨b2,0,none⟩),.pointer (some ⟨b3,0,none⟩)])).eval o2).run P w=.ok (.defer {target:=.fn (.func f) #[v1,.pointer (some ⟨b2,0,none⟩),.pointer (some ⟨b3,0,none⟩)],args:=#[]}) w:=by
   simp[execOp,x,resolve,s,Deferred.ofValue]
 have w1:∀m,Region.wanted o1 m=true:=fun m=>by simp[Region.wanted,h]
 have w2:∀m,Region.wanted o2 m=true:=fun m=>by simp[Region.wanted,n]
 show wpOps P #[o1,o2] _ (Lr 2) a w
 simp only[show Lr 2=[0,1] from rfl,wpOps,Zbx7,Zbyd,Zbx2,w1,if_true]
 refine .inl ?_
 unfold Oper.wp
 rw[r,Oper.upon_value,k]
 simp only[w2,if_true]
 refine .inl ?_
 rw[t,Oper.upon_defer,p]
 have:∀(d:Deferred) (v:Value),({(a.put (some d1) v)with defers:=d::(a.put (some d1) v).defers}:Act)={tmps:=(a.put (some d1) v).tmps,defers:=[d]}:=fun d v=>by
   rw[Zrm,y]
 have b:=this {target:=.fn (.func f) #[v1,.pointer (some ⟨b2,0,none⟩),.pointer (some ⟨b3,0,none⟩)],args:=#[]} (.func (.func f) #[] #[v1,.pointer (some ⟨b2,0,none⟩),.pointer (some ⟨b3,0,none⟩)])
 show Q .normal (Act.put {(a.put (some d1) (.func (.func f) #[] #[v1,.pointer (some ⟨b2,0,none⟩),.pointer (some ⟨b3,0,none⟩)]))with defers:=_::(a.put (some d1) _).defers} none undef) w
 rw[b];exact z
theorem Z4u {α:Type} {dk:Kd α} {j:Nat} {v:α} {g:G} {u:Value} (h:(pBox dk j v).p g u):∃b,u=.pointer (some ⟨b,0,none⟩)∧(Zbm (some b) dk j v).p g u:=by
 obtain⟨b,cs,t,e,k,_⟩:=h
 exact⟨b,e,b,cs,t,e,k,fun b' m=>Zbxo.inj m⟩
theorem Zbds {α γ σ:Type} {kV:Kd γ} {raw:α→σ→γ} {R:Hp σ} {j:Nat} {x:α} {g:G} {u:Value} (h:(pBxS kV raw R j x).p g u):∃b,u=.pointer (some ⟨b,0,none⟩)∧(Zda (some b) kV raw R j x).p g u:=by
 obtain⟨s,k,m⟩:=h
 obtain⟨b,e,n⟩:=Z4u k
 exact⟨b,e,s,n,m⟩
theorem Zbgs {α:Type} {dk:Kd α} {j b:Nat} {v:α} {g:G} {u:Value} (h:(Zbm (some b) dk j v).p g u):u=.pointer (some ⟨b,0,none⟩):=by
 obtain⟨b',cs,t,e,hm,k⟩:=h
 rw[e,k b rfl]
section
variable {α β φ γ σ:Type} {kS:Kd α} {kR:Kd β} {kF:Kd φ} {kV:Kd γ} {raw:β→σ→γ} {R:Hp σ} {f:FuncId} {tf t4 t5 s4 s5 j4 j5 b4 b5:Nat} {v2 v:Value}
abbrev ptrV (b:Nat):Value:=.pointer (some ⟨b,0,none⟩)
def Zbdl (P:Program) (f:FuncId):Prop:=∀(g:G) (v2:Value) (b4 b5:Nat),CallsD P f #[v2,ptrV b4,ptrV b5] .returning g.w (fun e u' w'=>e=.returned (.tuple #[])∧u'=.returning∧∃g',w'=g'.w∧Step [] g g')
def Zbed (P:Program) (f:FuncId) (kS:Kd α) (kV:Kd γ) (raw:β→σ→γ) (kR:Kd β) (tf:TypeId) (kF:Kd φ) (mk:φ→β):Prop:=∀(g:G) (v2 v:Value) (b4 b5:Nat) (s z4:α) (x:β) (r:φ),(kS.ptr s).p g v2→(Zbm (some b4) kS 0 z4).p g (ptrV b4)→(Zda (some b5) kV raw hpT 1 x).p g (ptrV b5)→(Zqx tf (kF.pd r)).p g v →
 CallsD P f #[v2,ptrV b4,ptrV b5] (.panicking [{v:=v,recovered:=false}]) g.w (fun e u' w'=>e=.returned (.tuple #[])∧u'=.panicking [{v:=v,recovered:=true}]∧∃g',w'=g'.w∧Base g g'∧(Zbm (some b4) kS 0 s).p g' (ptrV b4)∧(Zbm (some b5) kR 1 (mk r)).p g' (ptrV b5))
theorem Zbql {fn:Func} {r1 r2:ResultVar} {v1 v2:Value} {a:Act} {g g0:G} {L:Z8} (n:fn.results=#[r1,r2]) (h:St N L a g) (r:Base g0 g) (s:Zfc P a g r1 v1) (t:Zfc P a g r2 v2) (u:q.p g (.tuple #[v1,v2])):bodyPostD P fn (Fin g0 q) .ret a g.w:=by
 show Leaves P fn a.tmps _ a.defers .returning g.w
 rw[h.df]
 have k:(Zfa a.tmps r1).run P g.w=.ok v1 g.w:=s
 have m:(Zfa a.tmps r2).run P g.w=.ok v2 g.w:=t
 exact⟨.tuple #[v1,v2],by simp[Zfu,n,k,m],g,_,rfl,rfl,r,u⟩
theorem Z86 (h:Zi P f) (caps:Array Value) (w:World):(invoke (.fn (.func f) caps) #[]).run P w=.ok (.enter f caps) w:=by
 simp[invoke,Zgo h]
theorem Zbno {fn:Func} {a:Act} {g g0:G} {L:Z8} {c4 c5:Option Nat} {x:α} {y:β} (n:Zbdl P f) (q:Zi P f) (r:fn.results=#[.cell s4 t4,.cell s5 t5]) (k:Ty P t4 kS) (m:Ty P t5 kR) (h:StD (dfr3 f v2 b4 b5) N L a g) (s:Base g0 g)
   (t:(Zbm c4 kS j4 x).p g (Act.at a s4)) (u:(Zbm c5 kR j5 y).p g (Act.at a s5)):bodyPostD P fn (Fin g0 (pTup [kS.pd x,kR.pd y])) .ret a g.w:=by
 show Leaves P fn a.tmps _ a.defers .returning g.w
 rw[h.df]
 refine leaves_cons (f:=f) (args:=#[v2,ptrV b4,ptrV b5]) (by simp) (Z86 q _ _) ?_
 refine (n g v2 b4 b5).mono ?_
 rintro e u' w' ⟨rfl,rfl,g',rfl,hs⟩
 obtain⟨u4,r4,q4⟩:=Zbi (P:=P) k ((Zbm c4 kS j4 x).st hs (fun _ _ h=>by cases h) t)
 obtain⟨u5,r5,q5⟩:=Zbi (P:=P) m ((Zbm c5 kR j5 y).st hs (fun _ _ h=>by cases h) u)
 have r4':(Zfa a.tmps (.cell s4 t4)).run P g'.w=.ok u4 g'.w:=r4
 have r5':(Zfa a.tmps (.cell s5 t5)).run P g'.w=.ok u5 g'.w:=r5
 exact⟨.tuple #[u4,u5],by simp[Zfu,r,r4',r5'],g',_,rfl,rfl,s.step hs (by simp),Zcr q4 q5⟩
theorem Zbii {fn:Func} {a:Act} {g g0:G} {z4 s:α} {x:β} {r:φ} {mk:φ→β} (A:Zbed P f kS kV raw kR tf kF mk) (B:Zi P f) (C:fn.results=#[.cell s4 t4,.cell s5 t5]) (i:Ty P t4 kS) (j:Ty P t5 kR) (h0:∀b,g0.own b=0) (D:a.defers=dfr3 f v2 b4 b5) (n:Base g0 g) (hj:j4≠j5)
   (hs:(kS.ptr s).p g v2) (E:(Zbm (some b4) kS j4 z4).p g (Act.at a s4)) (F:(Zda (some b5) kV raw R j5 x).p g (Act.at a s5)) (H:(Zqx tf (kF.pd r)).p g v):bodyPostD P fn (Fin g0 (pTup [kS.pd s,kR.pd (mk r)])) (.panic [{v:=v,recovered:=false}]) a g.w:=by
 show Leaves P fn a.tmps _ a.defers (.panicking _) g.w
 rw[D]
 refine leaves_cons (f:=f) (args:=#[v2,ptrV b4,ptrV b5]) (by simp) (Z86 B _ _) ?_
 obtain⟨bb,cs4,ty4,e4,⟨m1,m2,m3,m4,m5,m6⟩,y⟩:=E
 obtain rfl:=y _ rfl
 obtain⟨sg,⟨bb',cs5,ty5,e5,⟨n1,n2,n3,n4,n5,n6⟩,t⟩,_⟩:=F
 obtain rfl:=t _ rfl
 have l:bb≠bb':=fun h=>by rw[h,n2]at m2;omega
 let gc:G:=⟨g.w,g.pr,fun c=>if c=bb then 1 else if c=bb' then 2 else 0,g.hpr,g.gl⟩
 have k:g.le gc:=⟨Nat.le_refl _,fun _ _ h=>h,fun _ _ _=>rfl,fun _ _=>rfl,Zbxj _⟩
 have own:∀c,gc.own c=if c=bb then 1 else if c=bb' then 2 else 0:=fun _=>rfl
 have k4:(Zbm (some bb) kS 0 z4).p gc (ptrV bb):=⟨bb,cs4,ty4,rfl,⟨m1,by rw[own,if_pos rfl],fun b' _ m=>by
   rw[own]at m
   split at m
   · assumption
   · split at m <;> omega,m4,kS.mono k m5,m6⟩,y⟩
 have k5:(Zda (some bb') kV raw hpT 1 x).p gc (ptrV bb'):=⟨sg,⟨bb',cs5,ty5,rfl,⟨n1,by rw[own,if_neg (Ne.symm l),if_pos rfl],fun b' _ m=>by
   rw[own]at m
   split at m
   · omega
   · split at m
     · assumption
     · omega,n4,kV.mono k n5,n6⟩,t⟩,trivial⟩
 refine (A gc v2 v bb bb' s z4 x r (Pd.le (q:=kS.ptr s) rfl k rfl rfl rfl hs) k4 k5 (Pd.le (q:=Zqx tf (kF.pd r)) rfl k rfl rfl rfl H)).mono ?_
 rintro e u' w' ⟨rfl,rfl,g',rfl,u,q4,q5⟩
 have a4:(Zbm (some bb) kS 0 s).p g' (Act.at a s4):=by rw[e4];exact q4
 have a5:(Zbm (some bb') kR 1 (mk r)).p g' (Act.at a s5):=by rw[e5];exact q5
 obtain⟨u4,r4,p4⟩:=Zbi (P:=P) i a4
 obtain⟨u5,r5,p5⟩:=Zbi (P:=P) j a5
 have r4':(Zfa a.tmps (.cell s4 t4)).run P g'.w=.ok u4 g'.w:=r4
 have r5':(Zfa a.tmps (.cell s5 t5)).run P g'.w=.ok u5 g'.w:=r5
 have d:g.le g':=k.trans u.le
 show ∃v,(results fn a.tmps).run P g'.w=.ok v g'.w∧_
 refine⟨.tuple #[u4,u5],by simp[Zfu,C,r4',r5'],g'.bare,_,rfl,rfl,⟨n.le.trans (d.trans (Zt7 g')),u.os.trans n.os,u.tape.trans n.tape,u.output.trans n.output,fun c z o=>?_⟩,Zcr (Pd.le (q:=kS.pd s) rfl (Zt7 g') rfl rfl rfl p4) (Pd.le (q:=kR.pd (mk r)) rfl (Zt7 g') rfl rfl rfl p5)⟩
 obtain⟨k1,k2,k3⟩:=n.same c z o
 have I:c≠bb:=fun h=>by rw[h,m2]at k3;omega
 have J:c≠bb':=fun h=>by rw[h,n2]at k3;omega
 obtain⟨l1,l2,l3⟩:=u.same c (Zbxp z n.le.size) (by rw[own,if_neg I,if_neg J])
 exact⟨l1.trans k1,l2.trans k2,rfl⟩
theorem Z2a {t:TypeId} {ms:_} (w:World) (k:Nat) (h:P.underlying t=some (.interface ms)):(Op.equalIn (k+1) t .nilIface .nilIface).run P w=.ok true w:=by simp[Op.equalIn,run_underlying h]
theorem Z08 {t t2:TypeId} {u2:Value} {ms:_} (w:World) (k:Nat) (h:P.underlying t=some (.interface ms)):(Op.equalIn (k+1) t (.iface t2 u2) .nilIface).run P w=.ok false w:=by simp[Op.equalIn,run_underlying h]
theorem Zbdf {t ty:TypeId} (h:(P.underlying t).map (fun u=>match u with | .interface _=>true | _=>false)=some true) (m:o.op=.binOp .eql t x (.const .nilIface) ty) (n:o.dst=some d) (p:Opd uses x (pEq .nilIface)):OB P N o uses [(d,Zbo true)] [] :=
 Zcl n fun a g hh=>by
   have q:a.eval x=.nilIface:=p a g hh
   refine⟨.bool true,?_,Zgt _ g⟩
   cases k:P.underlying t with
   | none=>rw[k]at h;cases h
   | some u =>
     rw[k]at h
     cases u <;> try (simp at h;done)
     have hg:(eqGuard .eql t x (.const .nilIface) .nilIface .nilIface).run P g.w=.ok () g.w:=by
       unfold eqGuard
       cases x <;> rfl
     have r:(binOp .eql t .nilIface .nilIface).run P g.w=.ok (.bool true) g.w:=by
       show (do pure (.bool (←Op.equal t .nilIface .nilIface)):Sem Value).run P g.w=_
       have:(Op.equal t .nilIface .nilIface).run P g.w=.ok true g.w:=by
         exact Z2a g.w 9999 k
       simp only[Sem.run_bind,this,Result.andThen_ok,Sem.run_pure]
     have s:a.eval (.const .nilIface)=.nilIface:=rfl
     simp[execOp,m,q,s,hg,r]
theorem Zbkx {t ty t2:TypeId} (h:(P.underlying t).map (fun u=>match u with | .interface _=>true | _=>false)=some true) (m:o.op=.binOp .eql t x (.const .nilIface) ty) (n:o.dst=some d) (p:Opd uses x (Zqx t2 q)):OB P N o uses [(d,Zbo false)] [] :=
 Zcl n fun a g hh=>by
   obtain⟨u2,r,_⟩:=p a g hh
   refine⟨.bool false,?_,Zgt _ g⟩
   cases k:P.underlying t with
   | none=>rw[k]at h;cases h
   | some u =>
     rw[k]at h
     cases u <;> try (simp at h;done)
     have hg:(eqGuard .eql t x (.const .nilIface) (.iface t2 u2) .nilIface).run P g.w=.ok () g.w:=by
       unfold eqGuard
       split <;> rfl
     have s:(binOp .eql t (.iface t2 u2) .nilIface).run P g.w=.ok (.bool false) g.w:=by
       show (do pure (.bool (←Op.equal t (.iface t2 u2) .nilIface)):Sem Value).run P g.w=_
       have:(Op.equal t (.iface t2 u2) .nilIface).run P g.w=.ok false g.w:=by
         exact Z08 g.w 9999 k
       simp only[Sem.run_bind,this,Result.andThen_ok,Sem.run_pure]
     have v:a.eval (.const .nilIface)=.nilIface:=rfl
     simp[execOp,m,r,v,hg,s]
theorem Zbhm {t t2:TypeId} (h:(P.underlying t2).map (fun u=>match u with | .interface _=>true | _=>false)=some false) (m:o.op=.typeAssert x t t2 true) (n:o.dst=some d) (p:Opd uses x (Zqx t2 q)):OB P N o uses [(d,pTup [q,Zbo true])] [] :=
 Zcl n fun a g hh=>by
   obtain⟨u2,r,s⟩:=p a g hh
   refine⟨.tuple #[u2,.bool true],?_,Zcr s (Zgt _ g)⟩
   cases k:P.underlying t2 with
   | none=>rw[k]at h;cases h
   | some u =>
     rw[k]at h
     cases u <;> first | (simp at h;done) | simp[execOp,m,r,Instr.typeAssert,run_underlying k]
end
theorem Zbaw {c:Code} {a:Act} {w:World} (J:Act→Prop) (k:J a) (h:∀a,J a→c.wp P Q a w):c.wp P Q a w:=h a k
theorem Z74 {a:Act} {n:Nat} {g:G} {v:Value} (e:Act.at a n=v) (h:q.p g v):q.p g (Act.at a n):=e▸h
abbrev dact (a:Act) (d1:Nat) (v:Value) (D:List Deferred):Act:={tmps:=(a.put (some d1) v).tmps,defers:=D}
theorem Zse {a:Act} {d1 n:Nat} {v:Value} {D:List Deferred} {g:G} (h:n≠d1) (k:q.p g (Act.at a n)):q.p g (Act.at (dact a d1 v D) n):=by
 have:Act.at (dact a d1 v D) n=Act.at a n:=Zlf (a:=a) v (fun e=>h (Zbxo.inj e).symm)
 rw[this];exact k
theorem Zbkp {a:Act} {g:G} {v u:Value} (h:q.p g u) (e:u=v):(pAt v q).p g (Act.at a 1000):=e▸h
theorem Z7y {k a b:Nat} (h:k=a) (h':k=b) (m:a≠b):False:=m (h.symm.trans h')
end
section
variable {P:Program} {N:Nat} {o:Oper} {uses outs:Z8} {S:List Nat} {d:Nat} {q:Pd} {x y z:Operand} {α β:Type} {dk:Kd α} {t e j:Nat} {xv:α}
def Zbbt (P:Program) (f:FuncId) (A:List Pd) (dk:Kd α) (x:α):Prop:=∀(g:G) (args:List Value),ArgsOk A g args →
 Calls P f args.toArray g.w (fun en w'=>∃g' b,en=.returned (Z75 b)∧w'=g'.w∧Zsu (fun _=>False) g g'∧g.w.heap.size≤b∧Z0g dk x g' b)
def Zbl5 (dk:Kd α) (x:α) (g0:G) (v:Value) (g1:G):Prop:=Base g0 g1∧∃b,v=Z75 b∧g0.w.heap.size≤b∧Z0g dk x g1 b
theorem Zbhx {f:FuncId} {fn:Func} {cd:Code} {A:List Pd} (q:P.funcs[f]? =some fn) (m:fn.body=some cd) (r:fn.ntmps=N) (p:A.length≤N) (s:Free A)
   (h:∀(a:Act) (g:G),(∀b,g.own b=0)→St N (Zip A 0) a g→Base g g→cd.wp P (bodyPost P fn (FinP (Zbl5 dk xv g))) a g.w):Zbbt P f A dk xv:=by
 intro g args n
 refine Calls.mono (calls_of_wp q m (h _ g.bare (fun _=>rfl) (Zbam (Zt7 g) rfl n (by simpa[Free]using s) p r) (Zs0 g))) ?_
 rintro en w' ⟨g1,v,rfl,rfl,k,b,rfl,t,u⟩
 exact⟨g1,b,rfl,rfl,⟨⟨k.le.size,k.le.pr,k.le.cell,k.le.blk,k.le.dr⟩,k.os,k.tape,k.output,fun b m _=>⟨(k.same b m rfl).1,(k.same b m rfl).2.1⟩⟩,t,u⟩
theorem Zbs5 {fn:Func} {r:ResultVar} {v:Value} {a:Act} {g g0:G} {L:Z8} (n:fn.results=#[r]) (q:∀b,g0.own b=0) (h:St N L a g) (k:Base g0 g) (s:Zfc P a g r v) (u:(pBox dk j xv).p g v):bodyPost P fn (FinP (Zbl5 dk xv g0)) .ret a g.w:=by
 refine endP n h s ⟨k,?_⟩
 obtain⟨b,cs,t,rfl,⟨m1,m2,m3,m4,m5,m6⟩,_⟩:=u
 refine⟨b,rfl,Zbzb fun m=>?_,m1,⟨cs,t,m4,m5⟩,m6⟩
 have:=(k.same b m (q b)).2.2
 rw[m2]at this;omega
theorem Zbc4 {f:FuncId} {xo:List Operand} {A:List Pd} {ty:Array TypeId} (z:Zi P f) (s:Zbbt P f A dk xv) (t:o.op=.call {callee:=.value (.func f),args:=xo.toArray,argTypes:=ty}) (u:o.dst=some d) (q:OpdL uses xo A):OB P N o uses [(d,pBox dk j xv)] [j+1]:=by
 intro a g K Q e v i l
 have B:(execOp a.eval o).run P g.w=.ok (.enter f (xo.map a.eval).toArray) g.w:=by
   simp[execOp,t,resolve,Act.eval,Deferred.ofValue,invoke,Zgo z]
 unfold Oper.wp
 rw[B]
 show Calls P f _ g.w _
 refine Calls.mono (s g _ (q.ok i)) ?_
 rintro en w' ⟨g',b,rfl,rfl,k,hb,C,⟨cs,t',D,E⟩,F⟩
 let g2:G:=⟨g'.w,g'.pr,fun c=>if c<g.w.heap.size then (if g.own c=j+1 then 0 else g.own c)else if c=b then j+1 else 0,g'.hpr,g'.gl⟩
 have x:g'.le g2:=⟨Nat.le_refl _,fun _ _ h=>h,fun _ _ _=>rfl,fun _ _=>rfl,Zbxj _⟩
 have p:∀c,g2.own c=if c<g.w.heap.size then (if g.own c=j+1 then 0 else g.own c)else if c=b then j+1 else 0:=fun _=>rfl
 refine l _ g2 ⟨⟨k.le.size,k.le.pr,k.le.cell,k.le.blk,k.le.dr⟩,k.os,k.tape,k.output,fun c n r=>⟨(k.same c n id).1,(k.same c n id).2,by rw[p,if_pos n,if_neg (by simpa using r)]⟩,fun c k1 k2=>?_,fun c n r=>.inl (by rw[p,if_pos n,if_pos (by simpa using r)])⟩ fun e' y=>?_
 · rw [p,if_neg (by omega)]
   split <;> simp
 · rw [Zbxf.1 y,u,Zdn _ (by rw [e];exact v d u)]
   refine⟨b,cs,t',rfl,⟨C,by rw[p,if_neg (by omega),if_pos rfl],fun c n m=>?_,D,dk.mono x E,F⟩,fun _ h=>by cases h⟩
   rw[p]at m
   split at m
   · split at m
     · omega
     · rename_i h;exact absurd m h
   · split at m
     · assumption
     · omega
def dfr2 (f:FuncId) (b2 b3:Nat):List Deferred:=[{target:=.fn (.func f) #[ptrV b2,ptrV b3],args:=#[]}]
def Z9m (P:Program) (f:FuncId):Prop:=∀(g:G) (b4 b5:Nat),CallsD P f #[ptrV b4,ptrV b5] .returning g.w (fun e u' w'=>e=.returned (.tuple #[])∧u'=.returning∧∃g',w'=g'.w∧Step [] g g')
theorem Zbjf {Q:Exit→Act→World→Prop} {id f x1 x2 d1:Nat} {o1 o2:Oper} {a:Act} {w:World} (u:o1.op=.makeFunc (.func f) #[] #[.tmp x1,.tmp x2]) (h:o1.guard=none) (k:o1.dst=some d1) (x:o2.op=.defer {callee:=.value (.tmp d1),args:=#[],argTypes:=#[]}) (n:o2.guard=none) (p:o2.dst=none) (q:d1<a.tmps.size)
   {b2 b3:Nat} (e1:Act.at a x1=ptrV b2) (e2:Act.at a x2=ptrV b3) (y:a.defers=[])
   (z:Q .normal (dact a d1 (.func (.func f) #[] #[ptrV b2,ptrV b3]) (dfr2 f b2 b3)) w):(Code.region id #[o1,o2] false).wp P Q a w:=by
 refine wp_region ?_
 have q1:a.eval (.tmp x1)=ptrV b2:=e1
 have q2:a.eval (.tmp x2)=ptrV b3:=e2
 have r:(execOp a.eval o1).run P w=.ok (.value (.func (.func f) #[] #[ptrV b2,ptrV b3])) w:=by
   simp[execOp,u,Instr.makeFunc,q1,q2]
 have s:(a.put (some d1) (.func (.func f) #[] #[ptrV b2,ptrV b3])).eval (.tmp d1)=.func (.func f) #[] #[ptrV b2,ptrV b3]:=Zdn _ q
 have t:(execOp (a.put (some d1) (.func (.func f) #[] #[ptrV b2,ptrV b3])).eval o2).run P w=.ok (.defer {target:=.fn (.func f) #[ptrV b2,ptrV b3],args:=#[]}) w:=by
   simp[execOp,x,resolve,s,Deferred.ofValue]
 have w1:∀m,Region.wanted o1 m=true:=fun m=>by simp[Region.wanted,h]
 have w2:∀m,Region.wanted o2 m=true:=fun m=>by simp[Region.wanted,n]
 show wpOps P #[o1,o2] _ (Lr 2) a w
 simp only[show Lr 2=[0,1] from rfl,wpOps,Zbx7,Zbyd,Zbx2,w1,if_true]
 refine .inl ?_
 unfold Oper.wp
 rw[r,Oper.upon_value,k]
 simp only[w2,if_true]
 refine .inl ?_
 rw[t,Oper.upon_defer,p]
 have:∀(d:Deferred) (v:Value),({(a.put (some d1) v)with defers:=d::(a.put (some d1) v).defers}:Act)={tmps:=(a.put (some d1) v).tmps,defers:=[d]}:=fun d v=>by
   rw[Zrm,y]
 have b:=this {target:=.fn (.func f) #[ptrV b2,ptrV b3],args:=#[]} (.func (.func f) #[] #[ptrV b2,ptrV b3])
 show Q .normal (Act.put {(a.put (some d1) (.func (.func f) #[] #[ptrV b2,ptrV b3]))with defers:=_::(a.put (some d1) _).defers} none undef) w
 rw[b];exact z
theorem Zboq {kS:Kd α} {kR:Kd β} {f t4 t5 s4 s5 j4 j5 b4 b5:Nat} {fn:Func} {a:Act} {g g0:G} {L:Z8} {c4 c5:Option Nat} {x:α} {y:β} (n:Z9m P f) (q:Zi P f) (r:fn.results=#[.cell s4 t4,.cell s5 t5]) (k:Ty P t4 kS) (m:Ty P t5 kR) (h:StD (dfr2 f b4 b5) N L a g) (s:Base g0 g)
   (t:(Zbm c4 kS j4 x).p g (Act.at a s4)) (u:(Zbm c5 kR j5 y).p g (Act.at a s5)):bodyPostD P fn (Fin g0 (pTup [kS.pd x,kR.pd y])) .ret a g.w:=by
 show Leaves P fn a.tmps _ a.defers .returning g.w
 rw[h.df]
 refine leaves_cons (f:=f) (args:=#[ptrV b4,ptrV b5]) (by simp) (Z86 q _ _) ?_
 refine (n g b4 b5).mono ?_
 rintro e u' w' ⟨rfl,rfl,g',rfl,hs⟩
 obtain⟨u4,r4,q4⟩:=Zbi (P:=P) k ((Zbm c4 kS j4 x).st hs (fun _ _ h=>by cases h) t)
 obtain⟨u5,r5,q5⟩:=Zbi (P:=P) m ((Zbm c5 kR j5 y).st hs (fun _ _ h=>by cases h) u)
 have r4':(Zfa a.tmps (.cell s4 t4)).run P g'.w=.ok u4 g'.w:=r4
 have r5':(Zfa a.tmps (.cell s5 t5)).run P g'.w=.ok u5 g'.w:=r5
 exact⟨.tuple #[u4,u5],by simp[Zfu,r,r4',r5'],g',_,rfl,rfl,s.step hs (by simp),Zcr q4 q5⟩
theorem Zbkl {ops:Array Oper} {Q:Exit→Act→List Frame→World→Prop} {i:Nat} {l:List Nat} {o:Oper} {a:Act} {cs:List Frame} {w:World} (m:ops[i]?=some o) (hg:o.guard=none) (k:(execOp a.eval o).run P w=.ok .recover w) (n:recoverD cs=none) (h:wpOpsS P ops Q l (a.put o.dst .nilIface) cs w):wpOpsS P ops Q (i::l) a cs w:=by
 have p:Region.wanted o (yielded ops a.tmps)=true:=by simp[Region.wanted,hg]
 simp only[wpOpsS,m,p,if_true,k,n]
 exact h
theorem Zbm1 {ops:Array Oper} {Q:Exit→Act→List Frame→World→Prop} {i:Nat} {l:List Nat} {o:Oper} {a:Act} {cs:List Frame} {g:G} (q:ops[i]? =some o) (hg:o.guard=none) (k:OB P N o uses outs S) (s:a.tmps.size=N) (m:∀t,o.dst=some t→t<N) (u:Ze4 uses a g)
   (h:∀v g',Step S g g'→(∀e∈outs,e.2.p g' (Act.at (a.put o.dst v) e.1))→wpOpsS P ops Q l (a.put o.dst v) cs g'.w):wpOpsS P ops Q (i::l) a cs g.w:=by
 have x:Region.wanted o (yielded ops a.tmps)=true:=by simp[Region.wanted,hg]
 have key:=k a g (fun a' w'=>wpOpsS P ops Q l a' cs w') (fun e a' w'=>Q e a' cs w') s m u h
 unfold Oper.wp at key
 simp only[wpOpsS,q,x,if_true]
 generalize (execOp a.eval o).run P g.w=r at key
 cases r with
 | ok n w'=>cases n <;> first | exact key | exact key.elim
 | halt h w'=>exact key
end
structure Zn where
 Score:Nat
 Name:ByteArray
 deriving Inhabited
structure Zb where
 Kind:Int
 Num:Int
 Low:Int
 High:Int
 Real:Nat
 Cap:Int
 Text:ByteArray
 List:List Zn
 deriving Inhabited
inductive shelf_nodeT where
 | nil
 | node (key:ByteArray) (rec_:Zb) (left:shelf_nodeT) (right:shelf_nodeT) (size:Int)
 deriving Inhabited
structure shelf_node where
 key:ByteArray
 rec_:Zb
 left:shelf_nodeT
 right:shelf_nodeT
 size:Int
 deriving Inhabited
def shelf_nodeT.un:shelf_nodeT→Option shelf_node
 | .nil=>none
 | .node x0 x1 x2 x3 x4=>some ⟨x0,x1,x2,x3,x4⟩
def shelf_node.up (x:shelf_node):shelf_nodeT:=.node x.key x.rec_ x.left x.right x.size
def shelf_nodeT.isNil:shelf_nodeT→Bool
 | .nil=>true
 | .node ..=>false
def shelf_nodeT.hh:shelf_nodeT→Nat
 | .nil=>0
 | .node x0 x1 x2 x3 x4=>max x2.hh x3.hh+1
structure Z4 where
 top:shelf_nodeT
 room:Int
 deriving Inhabited
structure Zel where
 At:Int
 Kept:List Int
 deriving Inhabited
structure Zo where
 at_:Int
 s:List Int
instance:Inhabited Zo:=⟨{at_:=default,s:=Zbxl 64 (default)}⟩
structure Ze where
 firm:List (List Int)
 pending:List Zo
 left:Int
 down:Bool
 writes:Int
 deriving Inhabited
structure Zc5 where
 From:Int
 Len:Int
 deriving Inhabited
structure Zb4 where
 d:Unit
 a:Zc5
 at_:Int
 deriving Inhabited
structure Zdo where
 r:Unit
 next:Int
 deriving Inhabited
structure Zds where
 word:ByteArray
 on:Int
 has:ByteArray
 deriving Inhabited
structure Zw where
 Kind:Int
 Key:ByteArray
 N:Int
 X:Nat
 S:ByteArray
 Make:Zb
 Must:Bool
 deriving Inhabited
structure Zck where
 text:Bool
 num:Bool
 bounds:Bool
 real:Bool
 list:Bool
 deriving Inhabited
structure Zbj where
 Acts:List Zw
 deriving Inhabited
structure Zu where
 b:List Int
 deriving Inhabited
structure Zbc where
 Number:Int
 Deals:List Zbj
 deriving Inhabited
structure Zdb where
 Code:Int
 At:Int
 deriving Inhabited
structure Zh where
 b:List Int
 at_:Int
 deriving Inhabited
structure Zb2 where
 Key:ByteArray
 Rec:Zb
 deriving Inhabited
structure Zk where
 L:List Zb2
 Room:Int
 deriving Inhabited
structure Zm where
 Code:Int
 Num:Int
 Rec:Zb
 deriving Inhabited
structure Zbl where
 Code:Int
 At:Int
 Answers:List Zm
 deriving Inhabited
structure Ze1 where
 code:Int
 at_:Int
 deriving Inhabited
def Z18 (v:Zw) (y:ByteArray):Zw:={v with Key:=y}
def Z81 (v:Zw) (y:Int):Zw:={v with N:=y}
def g_0:List Zds:=[{word:=⟨#[]⟩,on:=(0),has:=⟨#[]⟩},
 {word:=⟨#[110,101,119]⟩,on:=(0),has:=⟨#[109]⟩},
 {word:=⟨#[100,114,111,112]⟩,on:=(0),has:=⟨#[]⟩},
 {word:=⟨#[105,115]⟩,on:=(0),has:=⟨#[]⟩},
 {word:=⟨#[108,111,111,107]⟩,on:=(0),has:=⟨#[]⟩},
 {word:=⟨#[112,117,116]⟩,on:=(1),has:=⟨#[115]⟩},
 {word:=⟨#[115,119,97,112]⟩,on:=(1),has:=⟨#[115]⟩},
 {word:=⟨#[97,100,100]⟩,on:=(2),has:=⟨#[110]⟩},
 {word:=⟨#[112,108,117,115]⟩,on:=(3),has:=⟨#[110]⟩},
 {word:=⟨#[114,101,97,99,104]⟩,on:=(3),has:=⟨#[110]⟩},
 {word:=⟨#[105,110]⟩,on:=(4),has:=⟨#[110]⟩},
 {word:=⟨#[111,117,116]⟩,on:=(4),has:=⟨#[110]⟩},
 {word:=⟨#[101,110,111,117,103,104]⟩,on:=(4),has:=⟨#[110]⟩},
 {word:=⟨#[114,97,105,115,101]⟩,on:=(5),has:=⟨#[120]⟩},
 {word:=⟨#[108,111,119,101,114]⟩,on:=(6),has:=⟨#[120]⟩},
 {word:=⟨#[115,104,105,102,116]⟩,on:=(7),has:=⟨#[120]⟩},
 {word:=⟨#[115,99,97,108,101]⟩,on:=(7),has:=⟨#[120]⟩},
 {word:=⟨#[102,105,120]⟩,on:=(7),has:=⟨#[120]⟩},
 {word:=⟨#[106,111,105,110]⟩,on:=(8),has:=⟨#[115]⟩},
 {word:=⟨#[108,101,97,118,101]⟩,on:=(8),has:=⟨#[115]⟩},
 {word:=⟨#[104,97,115]⟩,on:=(8),has:=⟨#[115]⟩},
 {word:=⟨#[111,102,102,101,114]⟩,on:=(9),has:=⟨#[120,115]⟩}]
def Zpy (a0:Int):Option (Z4×Int):=(if ((decide (a0<(1:Int)))||(decide ((4096:Int)<a0)))then (some (({top:=shelf_nodeT.nil,room:=(0:Int)}:Z4),(1:Int)))else (some (({top:=shelf_nodeT.nil,room:=a0}:Z4),(0:Int))))
def Zjl (a0:Z4):Option (Int):=(some a0.room)
def Zn8 (a0:Int):Option (Int):=(some (max (Zbxe.wrap (Int.tdiv (Zbxe.wrap ((Zbxe.wrap (a0+(60:Int)))-(1:Int))) (60:Int))) (1:Int)))
def Zmd (a0:Zel):Option (Bool):=(some (decide ((300:Int)<(a0.Kept.length:Int))))
def Zx1 (a0:Int):Option (Int×Ze):=(if ((decide (a0<(1:Int)))||(decide ((4096:Int)<a0)))then none else (if 0≤a0∧Zbxg a0*64≤140737488355328 then (some ((0:Int),({firm:=(Zbxl (Zbxg a0) (Zbxl 64 (0:Int))),pending:=([]:List Zo),left:=(0:Int),down:=false,writes:=(0:Int)}:Ze)))else none))
def Zll (a0:Ze):Option (Bool):=(some a0.down)
def Zow (a0:Ze):Option (Int):=(some (a0.firm.length:Int))
def Zvr (a0:Ze) (a1:Zc5):Option (Bool):=((gd ((decide ((0:Int)≤a1.From))&&(decide ((1:Int)≤a1.Len))) (Zow a0)).bind fun r1=>((gd (((decide ((0:Int)≤a1.From))&&(decide ((1:Int)≤a1.Len)))&&(decide (a1.From<r1))) (Zow a0)).bind fun r3=>(some ((((decide ((0:Int)≤a1.From))&&(decide ((1:Int)≤a1.Len)))&&(decide (a1.From<r1)))&&(decide (a1.Len≤(Zbxe.wrap (r3-a1.From))))))))
def Znz (a0:Ze) (a1:Int):Option (Int):=(if a0.down then (some (14:Int))else (if ((decide (a1<(0:Int)))||(decide ((a0.firm.length:Int)≤a1)))then (some (1:Int))else (some (0:Int))))
def Zg7 (a0:Ze) (a1:Int):Nat→(List Int)→(Int)→Option (((List Int)×Int)⊕(List Int))
 | 0,_,_=>none
 | n+1,x4,x5=>(if (decide ((0:Int)≤x5))then ((idx a0.pending x5).bind fun e7=>(if (e7.at_==a1)then ((idx a0.pending x5).bind fun e10=>(some (.inl (e10.s,(0:Int)))))else ((Zg7 a0 a1 n) x4 (Zbxe.wrap (x5-(1:Int))))))else (some (.inr x4)))
def Zlk (a0:Ze) (a1:Int):Option ((List Int)×Int):=((Znz a0 a1).bind fun r1=>(if (r1 !=(0:Int))then (some ((setI (Zbxl 64 (0:Int)) []),r1))else ((Zg7 a0 a1 (Zbxg ((Zbxe.wrap ((a0.pending.length:Int)-(1:Int)))+1-(0:Int))+1) (Zbxl 64 (0:Int)) (Zbxe.wrap ((a0.pending.length:Int)-(1:Int)))).bind fun z13=>match z13 with | .inl r=>some r | .inr y12=>((idx a0.firm a1).bind fun e14=>(some (e14,(0:Int)))))))
def Zki (c8:List Int):Nat→(Int)→Option (((List Int)×Bool)⊕(Unit))
 | 0,_=>none
 | n+1,x10=>(if (decide (x10<(c8.length:Int)))then ((idx c8 x10).bind fun e12=>(if (e12 !=(0:Int))then (some (.inl (([]:List Int),false)))else ((Zki c8 n) (Zbxe.wrap (x10+(1:Int))))))else (some (.inr ())))
def Zn4 (a0:List Int):Option ((List Int)×Bool):=((idx a0 (1:Int)).bind fun e1=>((idx a0 (0:Int)).bind fun e3=>((gd (!(e3 !=(1:Int))) (idx a0 (63:Int))).bind fun e5=>(if (((e3 !=(1:Int))||(e5 !=(1:Int)))||(decide ((61:Int)<(Zbxe.wrap e1))))then (some (([]:List Int),false))else ((cut a0 (Zbxe.wrap ((2:Int)+(Zbxe.wrap e1))) (63:Int)).bind fun c8=>((Zki c8 (Zbxg ((c8.length:Int)-(0:Int))+1) (0:Int)).bind fun z15=>match z15 with | .inl r=>some r | .inr ()=>((cut a0 (2:Int) (Zbxe.wrap ((2:Int)+(Zbxe.wrap e1)))).bind fun c16=>(if (([]:List Int).length+c16.length)*1≤140737488355328 then (some ((([]:List Int)++c16),true))else none))))))))
def Zo8 (x1:List Int) (x3:Int) (r8:(List Int)×Bool) (e11:Int) (kk:(List Int)→(Int)→(Int)→Option (((List Int)×Int×Int)⊕(Unit))) (j14:Int):Option (((List Int)×Int×Int)⊕(Unit)):=(if (((((Zbxe.wrap e11)!=(Zbxe.wrap (j14-x3)))||(decide ((63:Int)<(Zbxe.wrap e11))))||((decide ((0:Int)<(Zbxe.wrap e11)))&&((r8.1.length:Int)!=(61:Int))))||(((decide ((0:Int)<x3))&&((Zbxe.wrap e11)==(0:Int)))&&((r8.1.length:Int)==(1:Int))))then (some (.inl (([]:List Int),(0:Int),(0:Int))))else ((cut r8.1 (1:Int) (r8.1.length:Int)).bind fun c16=>(if (x1.length+c16.length)*1≤140737488355328 then (if ((Zbxe.wrap e11)==(0:Int))then (some (.inl ((x1++c16),(Zbxe.wrap (x3+(1:Int))),(0:Int))))else (kk (x1++c16) j14 (Zbxe.wrap (x3+(1:Int)))))else none)))
def Zfz (a0:Ze) (a1:Zc5) (a2:Int):Nat→(List Int)→(Int)→(Int)→Option (((List Int)×Int×Int)⊕(Unit))
 | 0,_,_,_=>none
 | n+1,x1,x2,x3=>(if (decide ((Zbxe.wrap (a2+x3))<a1.Len))then ((Zlk a0 (Zbxe.wrap ((Zbxe.wrap (a1.From+a2))+x3))).bind fun r5=>(if (r5.2 !=(0:Int))then (some (.inl (([]:List Int),(0:Int),r5.2)))else ((Zn4 r5.1).bind fun r8=>(if ((!r8.2)||(decide ((r8.1.length:Int)<(1:Int))))then (some (.inl (([]:List Int),(0:Int),(0:Int))))else ((idx r8.1 (0:Int)).bind fun e11=>(if (x3==(0:Int))then (Zo8 x1 x3 r8 e11 (Zfz a0 a1 a2 n) (Zbxe.wrap e11))else (Zo8 x1 x3 r8 e11 (Zfz a0 a1 a2 n) x2)))))))else (some (.inr ())))
def Zi7 (a0:Ze) (a1:Zc5) (a2:Int):Option ((List Int)×Int×Int):=((Zfz a0 a1 a2 (Zbxg (a1.Len-(Zbxe.wrap (a2+(0:Int))))+1) ([]:List Int) (0:Int) (0:Int)).bind fun z20=>match z20 with | .inl r=>some r | .inr ()=>(some (([]:List Int),(0:Int),(0:Int))))
def Zkc (a0:Ze) (a1:Zc5):Nat→(List (List Int))→(Int)→Option (((List (List Int))×Int×Int)⊕(Unit))
 | 0,_,_=>none
 | n+1,x7,x8=>((Zi7 a0 a1 x8).bind fun r9=>(if ((r9.2.2 !=(0:Int))||(r9.2.1==(0:Int)))then (some (.inl (x7,x8,r9.2.2)))else (if (x7.length+([r9.1]:List (List Int)).length)*24≤140737488355328 then ((Zkc a0 a1 n) (x7++([r9.1]:List (List Int))) (Zbxe.wrap (x8+r9.2.1)))else none)))
def Zs6 (a0:Ze) (a1:Zc5):Option ((List (List Int))×Int×Int):=((Zll a0).bind fun r1=>(if r1 then (some (([]:List (List Int)),(0:Int),(14:Int)))else ((Zvr a0 a1).bind fun r4=>(if (!r4)then (some (([]:List (List Int)),(0:Int),(1:Int)))else ((Zkc a0 a1 (Zbxg a1.Len+2) ([]:List (List Int)) (0:Int)).bind fun z13=>match z13 with | .inl r=>some r | .inr ()=>none)))))
def Zik (j6:Ze):Option (Int×Ze):=(if j6.down then (some ((14:Int),j6))else (some ((0:Int),j6)))
def Zkt (a0:Ze) (a1:Int) (a2:List Int):Option (Int×Ze):=((Znz a0 a1).bind fun r1=>(if (r1 !=(0:Int))then (some (r1,a0))else (if (a0.pending.length+([({at_:=a1,s:=a2}:Zo)]:List Zo).length)*72≤140737488355328 then (if (decide ((0:Int)<({({a0 with pending:=(a0.pending++([({at_:=a1,s:=a2}:Zo)]:List Zo))}:Ze)with writes:=(Zbxe.wrap (({a0 with pending:=(a0.pending++([({at_:=a1,s:=a2}:Zo)]:List Zo))}:Ze).writes+(1:Int)))}:Ze).left))then (Zik ({({({({a0 with pending:=(a0.pending++([({at_:=a1,s:=a2}:Zo)]:List Zo))}:Ze)with writes:=(Zbxe.wrap (({a0 with pending:=(a0.pending++([({at_:=a1,s:=a2}:Zo)]:List Zo))}:Ze).writes+(1:Int)))}:Ze)with left:=(Zbxe.wrap (({({a0 with pending:=(a0.pending++([({at_:=a1,s:=a2}:Zo)]:List Zo))}:Ze)with writes:=(Zbxe.wrap (({a0 with pending:=(a0.pending++([({at_:=a1,s:=a2}:Zo)]:List Zo))}:Ze).writes+(1:Int)))}:Ze).left-(1:Int)))}:Ze)with down:=(({({({a0 with pending:=(a0.pending++([({at_:=a1,s:=a2}:Zo)]:List Zo))}:Ze)with writes:=(Zbxe.wrap (({a0 with pending:=(a0.pending++([({at_:=a1,s:=a2}:Zo)]:List Zo))}:Ze).writes+(1:Int)))}:Ze)with left:=(Zbxe.wrap (({({a0 with pending:=(a0.pending++([({at_:=a1,s:=a2}:Zo)]:List Zo))}:Ze)with writes:=(Zbxe.wrap (({a0 with pending:=(a0.pending++([({at_:=a1,s:=a2}:Zo)]:List Zo))}:Ze).writes+(1:Int)))}:Ze).left-(1:Int)))}:Ze).left==(0:Int))}:Ze))else (Zik ({({a0 with pending:=(a0.pending++([({at_:=a1,s:=a2}:Zo)]:List Zo))}:Ze)with writes:=(Zbxe.wrap (({a0 with pending:=(a0.pending++([({at_:=a1,s:=a2}:Zo)]:List Zo))}:Ze).writes+(1:Int)))}:Ze)))else none)))
def Zg9 (a0:Ze):Nat→(Int)→(Ze)→Option (Ze)
 | 0,_,_=>none
 | n+1,x2,x3=>(if (decide (x2<(a0.pending.length:Int)))then ((idx a0.pending x2).bind fun e5=>((idx x3.firm e5.at_).bind fun e7=>((Zg9 a0 n) (Zbxe.wrap (x2+(1:Int))) ({x3 with firm:=x3.firm.set (Zbxg e5.at_) e5.s}:Ze))))else (some x3))
def Zlo (a0:Ze):Option (Int×Ze):=(if a0.down then (some ((14:Int),a0))else ((Zg9 a0 (Zbxg ((a0.pending.length:Int)-(0:Int))+1) (0:Int) a0).bind fun z10=>match z10 with | y9=>(some ((0:Int),({y9 with pending:=([]:List Zo)}:Ze)))))
def Zty (a0:List Int):Option (Bool):=(some (a0==(setI (Zbxl 64 (0:Int)) [])))
def Zpn (x2:Int) (kk:(Bool)→(Int)→(Ze)→Option ((Int×Ze)⊕(Bool×Ze))) (j14:Bool) (j15:Ze):Option ((Int×Ze)⊕(Bool×Ze)):=(kk j14 (Zbxe.wrap (x2+(1:Int))) j15)
def Zia (a1:Int) (a2:Int):Nat→(Bool)→(Int)→(Ze)→Option ((Int×Ze)⊕(Bool×Ze))
 | 0,_,_,_=>none
 | n+1,x1,x2,x3=>(if (decide (x2<(max a2 (0:Int))))then ((Zlk x3 (Zbxe.wrap (a1+x2))).bind fun r5=>(if (r5.2 !=(0:Int))then (some (.inl (r5.2,x3)))else ((Zty r5.1).bind fun r8=>(if r8 then (Zpn x2 (Zia a1 a2 n) x1 x3)else ((Zkt x3 (Zbxe.wrap (a1+x2)) (setI (Zbxl 64 (0:Int)) [])).bind fun r11=>(if (r11.1 !=(0:Int))then (some (.inl (r11.1,r11.2)))else (Zpn x2 (Zia a1 a2 n) true r11.2)))))))else (some (.inr (x1,x3))))
def Zs7 (a0:Ze) (a1:Int) (a2:Int):Option (Int×Ze):=((Zia a1 a2 (Zbxg ((max a2 (0:Int))-(0:Int))+1) false (0:Int) a0).bind fun z18=>match z18 with | .inl r=>some r | .inr (y16,y17)=>(if (!y16)then (some ((0:Int),y17))else ((Zlo y17).bind fun r20=>(some (r20.1,r20.2)))))
def Zs3 (a0:Ze) (a1:Zc5):Option ((List (List Int))×Int×((Zb4×Ze))):=((Zs6 a0 a1).bind fun r1=>(if (r1.2.2 !=(0:Int))then none else ((Zs7 a0 (Zbxe.wrap (a1.From+r1.2.1)) (Zbxe.wrap (a1.Len-r1.2.1))).bind fun r4=>(if (r4.1 !=(0:Int))then none else (some (r1.1,(0:Int),(({d:=(),a:=a1,at_:=r1.2.1}:Zb4),r4.2)))))))
def Znm (a0:Int):Option (Zds):=(if ((decide (a0≤(0:Int)))||(decide ((22:Int)≤a0)))then (some ({word:=ByteArray.empty,on:=(0:Int),has:=ByteArray.empty}:Zds))else ((idx g_0 a0).bind fun e2=>(some e2)))
def Zq7 (a0:Zds):Option (Int):=(if (a0.on==(1:Int))then (some (64:Int))else (some (16:Int)))
def Zkx (a0:Zds) (a1:Int):Nat→(Int)→Option ((Bool)⊕(Unit))
 | 0,_=>none
 | n+1,x1=>(if (decide (x1<(a0.has.size:Int)))then ((sidx a0.has x1).bind fun b3=>(if (b3==a1)then (some (.inl true))else ((Zkx a0 a1 n) (Zbxe.wrap (x1+(1:Int))))))else (some (.inr ())))
def Zb8 (a0:Zds) (a1:Int):Option (Bool):=((Zkx a0 a1 (Zbxg ((a0.has.size:Int)-(0:Int))+1) (0:Int)).bind fun z6=>match z6 with | .inl r=>some r | .inr ()=>(some false))
def Zxm:Option (Nat):=(some (Zbxg (9221120237041090561:Int)))
def Zh5 (a0:Nat):Option (Nat):=(if (fneq a0 a0)then ((Zxm).bind fun r2=>(some r2))else (some a0))
def Zo4 (a0:Nat):Option (Int):=((Zh5 a0).bind fun r1=>(if ((bAnd .u64 (r1:Int) (9223372036854775808:Int))!=(0:Int))then (some (bXor .u64 Zbxh.max (r1:Int)))else (some (bOr .u64 (r1:Int) (9223372036854775808:Int)))))
def Zm6 (a0:Nat) (a1:Nat):Option (Bool):=((Zo4 a0).bind fun r1=>((Zo4 a1).bind fun r3=>(some (r1==r3))))
def Zcd (a0:List Zn) (a1:List Zn) (φ2:Zn→Zn→Option Bool):Nat→(Int)→Option ((Bool)⊕(Unit))
 | 0,_=>none
 | n+1,x2=>(if (decide (x2<(a0.length:Int)))then ((idx a0 x2).bind fun e4=>((idx a1 x2).bind fun e6=>((φ2 e4 e6).bind fun r8=>(if (!r8)then (some (.inl false))else ((Zcd a0 a1 φ2 n) (Zbxe.wrap (x2+(1:Int))))))))else (some (.inr ())))
def Zc2 (a0:List Zn) (a1:List Zn) (φ2:Zn→Zn→Option Bool):Option (Bool):=(if ((a0.length:Int)!=(a1.length:Int))then (some false)else ((Zcd a0 a1 φ2 (Zbxg ((a0.length:Int)-(0:Int))+1) (0:Int)).bind fun z11=>match z11 with | .inl r=>some r | .inr ()=>(some true)))
def Zmj (a0:Zn) (a1:Zn):Option (Bool):=((gd (sEq a0.Name a1.Name) (Zm6 a0.Score a1.Score)).bind fun r1=>(some ((sEq a0.Name a1.Name)&&r1)))
def Zut (a0:Zb) (a1:Zb):Option (Bool):=((gd ((((a0.Kind==a1.Kind)&&(a0.Num==a1.Num))&&(a0.Low==a1.Low))&&(a0.High==a1.High)) (Zm6 a0.Real a1.Real)).bind fun r1=>((gd (((((((a0.Kind==a1.Kind)&&(a0.Num==a1.Num))&&(a0.Low==a1.Low))&&(a0.High==a1.High))&&r1)&&(a0.Cap==a1.Cap))&&(sEq a0.Text a1.Text)) (Zc2 a0.List a1.List (fun y0 y1=>Zmj y0 y1))).bind fun r3=>(some ((((((((a0.Kind==a1.Kind)&&(a0.Num==a1.Num))&&(a0.Low==a1.Low))&&(a0.High==a1.High))&&r1)&&(a0.Cap==a1.Cap))&&(sEq a0.Text a1.Text))&&r3))))
def Zwy (a0:Zw) (a1:Zds):Option (Bool):=((Zb8 a1 (110:Int)).bind fun r1=>((gd (r1||(a0.N==(0:Int))) (Zb8 a1 (120:Int))).bind fun r3=>((gd ((r1||(a0.N==(0:Int)))&&(!r3)) (Zm6 a0.X (0:Nat))).bind fun r5=>((gd ((r1||(a0.N==(0:Int)))&&(r3||r5)) (Zb8 a1 (115:Int))).bind fun r7=>((gd (((r1||(a0.N==(0:Int)))&&(r3||r5))&&(r7||(sEq a0.S (⟨#[]⟩:ByteArray)))) (Zb8 a1 (109:Int))).bind fun r9=>((gd ((((r1||(a0.N==(0:Int)))&&(r3||r5))&&(r7||(sEq a0.S (⟨#[]⟩:ByteArray))))&&(!r9)) (Zut a0.Make ({Kind:=(0:Int),Num:=(0:Int),Low:=(0:Int),High:=(0:Int),Real:=(0:Nat),Cap:=(0:Int),Text:=ByteArray.empty,List:=([]:List Zn)}:Zb))).bind fun r11=>(some ((((r1||(a0.N==(0:Int)))&&(r3||r5))&&(r7||(sEq a0.S (⟨#[]⟩:ByteArray))))&&(r9||r11)))))))))
def Zoe (a0:Nat):Option (Bool):=((Zh5 a0).bind fun r1=>(some ((a0:Int)==(r1:Int))))
def Zou (j11:Bool):Option (Zck):=(if j11 then (some ({text:=false,num:=false,bounds:=false,real:=false,list:=true}:Zck))else (some ({text:=false,num:=false,bounds:=false,real:=false,list:=false}:Zck)))
def Zmc (a0:Int) (j8:Bool):Option (Zck):=(if j8 then (some ({text:=false,num:=false,bounds:=false,real:=true,list:=false}:Zck))else (if (a0==(8:Int))then (Zou (a0==(8:Int)))else (Zou (a0==(9:Int)))))
def Zox (a0:Int) (j3:Bool):Option (Zck):=(if j3 then (some ({text:=false,num:=true,bounds:=false,real:=false,list:=false}:Zck))else (if (a0==(4:Int))then (some ({text:=false,num:=true,bounds:=true,real:=false,list:=false}:Zck))else (if (a0==(5:Int))then (Zmc a0 (a0==(5:Int)))else (if (a0==(6:Int))then (Zmc a0 (a0==(6:Int)))else (Zmc a0 (a0==(7:Int)))))))
def Zew (a0:Int):Option (Zck):=(if (a0==(1:Int))then (some ({text:=true,num:=false,bounds:=false,real:=false,list:=false}:Zck))else (if (a0==(2:Int))then (Zox a0 (a0==(2:Int)))else (Zox a0 (a0==(3:Int)))))
def Zu6 (a0:Zb) (a1:Zck):Option (Bool):=((gd ((((a1.text||(sEq a0.Text (⟨#[]⟩:ByteArray)))&&(a1.num||(a0.Num==(0:Int))))&&(a1.bounds||((a0.Low==(0:Int))&&(a0.High==(0:Int)))))&&(!a1.real)) (Zm6 a0.Real (0:Nat))).bind fun r1=>(some (((((a1.text||(sEq a0.Text (⟨#[]⟩:ByteArray)))&&(a1.num||(a0.Num==(0:Int))))&&(a1.bounds||((a0.Low==(0:Int))&&(a0.High==(0:Int)))))&&(a1.real||r1))&&(a1.list||((a0.Cap==(0:Int))&&((a0.List.length:Int)==(0:Int)))))))
def Zq9 (a0:Nat) (a1:Nat):Option (Bool):=((Zo4 a0).bind fun r1=>((Zo4 a1).bind fun r3=>(some (decide (r1<r3)))))
def Zor (a0:Zn) (a1:Zn):Option (Bool):=((Zm6 a0.Score a1.Score).bind fun r1=>(if (!r1)then ((Zq9 a1.Score a0.Score).bind fun r4=>(some r4))else (some (sLt a0.Name a1.Name))))
def Zgf (a0:Int) (a1:List Zn):Nat→(Int)→Option ((Int)⊕(Unit))
 | 0,_=>none
 | n+1,x1=>(if (decide (x1<(a1.length:Int)))then ((idx a1 x1).bind fun e3=>(if (decide ((16:Int)<(e3.Name.size:Int)))then (some (.inl (3:Int)))else ((gd (a0==(8:Int)) (Zm6 e3.Score (0:Nat))).bind fun r6=>((gd (!((a0==(8:Int))&&(!r6))) (Zoe e3.Score)).bind fun r8=>(if (((a0==(8:Int))&&(!r6))||(!r8))then (some (.inl (4:Int)))else ((gd ((decide ((0:Int)<x1))&&(a0==(8:Int))) (idx a1 (Zbxe.wrap (x1-(1:Int))))).bind fun e11=>(if (((decide ((0:Int)<x1))&&(a0==(8:Int)))&&(!sLt e11.Name e3.Name))then (some (.inl (4:Int)))else ((gd ((decide ((0:Int)<x1))&&(a0==(9:Int))) (idx a1 (Zbxe.wrap (x1-(1:Int))))).bind fun e14=>((gd ((decide ((0:Int)<x1))&&(a0==(9:Int))) (Zor e14 e3)).bind fun r16=>(if (((decide ((0:Int)<x1))&&(a0==(9:Int)))&&(!r16))then (some (.inl (4:Int)))else ((Zgf a0 a1 n) (Zbxe.wrap (x1+(1:Int))))))))))))))else (some (.inr ())))
def Zpq (a0:Int) (a1:List Zn):Option (Int):=((Zgf a0 a1 (Zbxg ((a1.length:Int)-(0:Int))+1) (0:Int)).bind fun z19=>match z19 with | .inl r=>some r | .inr ()=>(some (0:Int)))
def Zeg (a0:Zb):Option (Int):=((Zew a0.Kind).bind fun r1=>(if ((decide (a0.Kind≤(0:Int)))||(decide ((10:Int)≤a0.Kind)))then (some (5:Int))else ((Zu6 a0 r1).bind fun r4=>(if (!r4)then (some (4:Int))else (if (decide ((64:Int)<(a0.Text.size:Int)))then (some (3:Int))else (if (r1.bounds&&((((decide (a0.Low<(-2305843009213693952:Int)))||(decide ((2305843009213693952:Int)<a0.High)))||(decide (a0.Num<a0.Low)))||(decide (a0.High<a0.Num))))then (some (1:Int))else ((Zoe a0.Real).bind fun r9=>(if (!r9)then (some (4:Int))else (if (!r1.list)then (some (0:Int))else (if ((decide (a0.Cap<(1:Int)))||(decide ((32:Int)<a0.Cap)))then (some (1:Int))else (if (decide (a0.Cap<(a0.List.length:Int)))then (some (8:Int))else ((Zpq a0.Kind a0.List).bind fun r15=>(some r15)))))))))))))
def Ze7 (a0:Zw):Option (Int):=((Znm a0.Kind).bind fun r1=>(if (sEq r1.word (⟨#[]⟩:ByteArray))then (some (5:Int))else (if ((sEq a0.Key (⟨#[]⟩:ByteArray))||(decide ((24:Int)<(a0.Key.size:Int))))then (some (1:Int))else ((Zwy a0 r1).bind fun r5=>(if (!r5)then (some (4:Int))else ((Zq7 r1).bind fun r8=>(if (decide (r8<(a0.S.size:Int)))then (some (3:Int))else (if (((a0.Kind==(10:Int))||(a0.Kind==(11:Int)))&&((decide (a0.N<(0:Int)))||(decide ((2305843009213693952:Int)<a0.N))))then (some (1:Int))else ((Zoe a0.X).bind fun r12=>(if (!r12)then (some (4:Int))else (if (a0.Kind==(1:Int))then ((Zeg a0.Make).bind fun r16=>(some r16))else (some (0:Int)))))))))))))
def Zed (a0:Zbj):Nat→(Int)→Option ((Int×Int)⊕(Unit))
 | 0,_=>none
 | n+1,x2=>(if (decide (x2<(a0.Acts.length:Int)))then ((idx a0.Acts x2).bind fun e4=>((Ze7 e4).bind fun r6=>(if (r6 !=(0:Int))then (some (.inl (r6,(Zbxe.wrap (x2+(1:Int))))))else ((Zed a0 n) (Zbxe.wrap (x2+(1:Int)))))))else (some (.inr ())))
def Zhw (a0:Zbj):Option (Int×Int):=(if (((a0.Acts.length:Int)==(0:Int))||(decide ((12:Int)<(a0.Acts.length:Int))))then (some ((1:Int),(0:Int)))else ((Zed a0 (Zbxg ((a0.Acts.length:Int)-(0:Int))+1) (0:Int)).bind fun z9=>match z9 with | .inl r=>some r | .inr ()=>(some ((0:Int),(0:Int)))))
def Zgw:Nat→(Int)→(Zu)→Option (Int×Zu)
 | 0,_,_=>none
 | n+1,x1,x2=>(if (decide ((128:Int)≤x1))then (if (x2.b.length+([(bOr .u8 (Zbx4.wrap x1) (128:Int))]:List Int).length)*1≤140737488355328 then ((Zgw n) (Zbyh x1 (2^7)) ({b:=(x2.b++([(bOr .u8 (Zbx4.wrap x1) (128:Int))]:List Int))}:Zu))else none)else (some (x1,x2)))
def Zec (a0:Zu) (a1:Int):Option (Zu):=((Zgw 11 a1 a0).bind fun z7=>match z7 with | (y5,y6)=>(if (y6.b.length+([(Zbx4.wrap y5)]:List Int).length)*1≤140737488355328 then (some ({b:=(y6.b++([(Zbx4.wrap y5)]:List Int))}:Zu))else none))
def Zj0 (a0:Zu) (a1:Bool):Option (Zu):=(if a1 then (if (a0.b.length+([(1:Int)]:List Int).length)*1≤140737488355328 then (some ({b:=(a0.b++([(1:Int)]:List Int))}:Zu))else none)else (if (a0.b.length+([(0:Int)]:List Int).length)*1≤140737488355328 then (some ({b:=(a0.b++([(0:Int)]:List Int))}:Zu))else none))
def Zg0 (a0:Zu) (a1:ByteArray):Option (Zu):=((Zec a0 (Zbxh.wrap (a1.size:Int))).bind fun r1=>(if r1.b.length+a1.size≤140737488355328 then (some ({b:=(r1.b++bts a1)}:Zu))else none))
def Zg2 (a0:Zu) (a1:Int):Option (Zu):=((Zec a0 (bXor .u64 (Zbxh.wrap ((Zbxh.wrap a1)*2^1)) (Zbxh.wrap (Zbyh a1 (2^63))))).bind fun r1=>(some r1))
def Zhn (r1:Int):Nat→(Int)→(Zu)→Option (Zu)
 | 0,_,_=>none
 | n+1,x3,x4=>(if (decide ((0:Int)≤x3))then (if 0≤x3 then (if (x4.b.length+([(Zbx4.wrap (Zbyh r1 (2^(min (Zbxg x3) (Zbxh).bits))))]:List Int).length)*1≤140737488355328 then ((Zhn r1 n) (Zbxe.wrap (x3-(8:Int))) ({b:=(x4.b++([(Zbx4.wrap (Zbyh r1 (2^(min (Zbxg x3) (Zbxh).bits))))]:List Int))}:Zu))else none)else none)else (some x4))
def Zg1 (a0:Zu) (a1:Nat):Option (Zu):=((Zo4 a1).bind fun r1=>((Zhn r1 (Zbxg ((56:Int)+1-(0:Int))+1) (56:Int) a0).bind fun z9=>match z9 with | y8=>(some y8)))
def Zp3 (x28:Int) (e31:Zn) (kk:(Int)→(Zu)→Option (Zu)) (j36:Zu):Option (Zu):=((Zg0 j36 e31.Name).bind fun r37=>(kk (Zbxe.wrap (x28+(1:Int))) r37))
def Zi6 (a1:Zb):Nat→(Int)→(Zu)→Option (Zu)
 | 0,_,_=>none
 | n+1,x28,x29=>(if (decide (x28<(a1.List.length:Int)))then ((idx a1.List x28).bind fun e31=>(if (a1.Kind==(9:Int))then ((Zg1 x29 e31.Score).bind fun r34=>(Zp3 x28 e31 (Zi6 a1 n) r34))else (Zp3 x28 e31 (Zi6 a1 n) x29)))else (some x29))
def Zqe (a1:Zb) (r1:Zck) (j22:Zu):Option (Zu):=(if (!r1.list)then (some j22)else ((Zec j22 (Zbxh.wrap a1.Cap)).bind fun r24=>((Zec r24 (Zbxh.wrap (a1.List.length:Int))).bind fun r26=>((Zi6 a1 (Zbxg ((a1.List.length:Int)-(0:Int))+1) (0:Int) r26).bind fun z40=>match z40 with | y39=>(some y39)))))
def Zqj (a1:Zb) (r1:Zck) (j18:Zu):Option (Zu):=(if r1.real then ((Zg1 j18 a1.Real).bind fun r20=>(Zqe a1 r1 r20))else (Zqe a1 r1 j18))
def Zp6 (a1:Zb) (r1:Zck) (j14:Zu):Option (Zu):=(if r1.num then ((Zg2 j14 a1.Num).bind fun r16=>(Zqj a1 r1 r16))else (Zqj a1 r1 j14))
def Zoj (a1:Zb) (r1:Zck) (j8:Zu):Option (Zu):=(if r1.bounds then ((Zg2 j8 a1.Low).bind fun r10=>((Zg2 r10 a1.High).bind fun r12=>(Zp6 a1 r1 r12)))else (Zp6 a1 r1 j8))
def Zsg (a0:Zu) (a1:Zb):Option (Zu):=((Zew a1.Kind).bind fun r1=>((Zec a0 (Zbxh.wrap a1.Kind)).bind fun r3=>(if r1.text then ((Zg0 r3 a1.Text).bind fun r6=>(Zoj a1 r1 r6))else (Zoj a1 r1 r3))))
def Znw (j32:Zu):Option (Zu):=(some j32)
def Znv (a1:Zw) (r1:Zds) (j26:Zu):Option (Zu):=((Zb8 r1 (109:Int)).bind fun r27=>(if r27 then ((Zsg j26 a1.Make).bind fun r30=>(Znw r30))else (Znw j26)))
def Znn (a1:Zw) (r1:Zds) (j20:Zu):Option (Zu):=((Zb8 r1 (115:Int)).bind fun r21=>(if r21 then ((Zg0 j20 a1.S).bind fun r24=>(Znv a1 r1 r24))else (Znv a1 r1 j20)))
def Znu (a1:Zw) (r1:Zds) (j14:Zu):Option (Zu):=((Zb8 r1 (120:Int)).bind fun r15=>(if r15 then ((Zg1 j14 a1.X).bind fun r18=>(Znn a1 r1 r18))else (Znn a1 r1 j14)))
def Zrd (a0:Zu) (a1:Zw):Option (Zu):=((Znm a1.Kind).bind fun r1=>((Zec a0 (Zbxh.wrap a1.Kind)).bind fun r3=>((Zj0 r3 a1.Must).bind fun r5=>((Zg0 r5 a1.Key).bind fun r7=>((Zb8 r1 (110:Int)).bind fun r9=>(if r9 then ((Zg2 r7 a1.N).bind fun r12=>(Znu a1 r1 r12))else (Znu a1 r1 r7)))))))
def Zi9 (a1:Zbj):Nat→(Int)→(Zu)→Option (Zu)
 | 0,_,_=>none
 | n+1,x3,x4=>(if (decide (x3<(a1.Acts.length:Int)))then ((idx a1.Acts x3).bind fun e6=>((Zrd x4 e6).bind fun r8=>((Zi9 a1 n) (Zbxe.wrap (x3+(1:Int))) r8)))else (some x4))
def Zp8 (a0:Zu) (a1:Zbj):Option (Zu):=((Zec a0 (Zbxh.wrap (a1.Acts.length:Int))).bind fun r1=>((Zi9 a1 (Zbxg ((a1.Acts.length:Int)-(0:Int))+1) (0:Int) r1).bind fun z11=>match z11 with | y10=>(some y10)))
def Znh (a0:Zu):Option ((List Int)×Zu):=(if (([]:List Int).length+a0.b.length)*1≤140737488355328 then (some ((([]:List Int)++a0.b),a0))else none)
def Zif (a0:Zbc):Nat→(Int)→(Zu)→Option (Zu)
 | 0,_,_=>none
 | n+1,x5,x6=>(if (decide (x5<(a0.Deals.length:Int)))then ((idx a0.Deals x5).bind fun e8=>((Zp8 x6 e8).bind fun r10=>((Zif a0 n) (Zbxe.wrap (x5+(1:Int))) r10)))else (some x6))
def Zo7 (a0:Zbc):Option (List Int):=((Zec ({b:=([]:List Int)}:Zu) (Zbxh.wrap a0.Number)).bind fun r1=>((Zec r1 (Zbxh.wrap (a0.Deals.length:Int))).bind fun r3=>((Zif a0 (Zbxg ((a0.Deals.length:Int)-(0:Int))+1) (0:Int) r3).bind fun z13=>match z13 with | y12=>((Znh y12).bind fun r14=>(some r14.1)))))
def Zez (a0:Zbc):Nat→(Int)→Option ((Int×Int)⊕(Unit))
 | 0,_=>none
 | n+1,x3=>(if (decide (x3<(a0.Deals.length:Int)))then ((idx a0.Deals x3).bind fun e5=>((Zhw e5).bind fun r7=>(if (r7.1 !=(0:Int))then (some (.inl (r7.1,(Zbxe.wrap (x3+(1:Int))))))else ((Zez a0 n) (Zbxe.wrap (x3+(1:Int)))))))else (some (.inr ())))
def Zja (a0:Zbc):Option (Int×Int):=(if ((decide (a0.Number<(1:Int)))||(decide ((1099511627776:Int)<a0.Number)))then (some ((1:Int),(0:Int)))else (if (decide ((32:Int)<(a0.Deals.length:Int)))then (some ((8:Int),(0:Int)))else ((Zez a0 (Zbxg ((a0.Deals.length:Int)-(0:Int))+1) (0:Int)).bind fun z10=>match z10 with | .inl r=>some r | .inr ()=>((Zo7 a0).bind fun r11=>(if (decide ((2048:Int)<(r11.length:Int)))then (some ((3:Int),(0:Int)))else (some ((0:Int),(0:Int))))))))
def Z12 (a0:List Int):Option Zh:=some {b:=a0,at_:=(0:Int)}
def Zer (a0:Zh) (a1:Int):Option (Zh):=none
def Zkg (j4:Zh):Option (Int×Zh):=((idx (({j4 with at_:=(Zbxe.wrap (j4.at_+(1:Int)))}:Zh).b) (Zbxe.wrap (({j4 with at_:=(Zbxe.wrap (j4.at_+(1:Int)))}:Zh).at_-(1:Int)))).bind fun e5=>(some (e5,({j4 with at_:=(Zbxe.wrap (j4.at_+(1:Int)))}:Zh))))
def Ziu (a0:Zh):Option (Int×Zh):=(if (decide ((a0.b.length:Int)≤a0.at_))then ((Zer a0 (2:Int)).bind fun r2=>(Zkg r2))else (Zkg a0))
def Zl1 (x1:Int) (x2:Int) (r4:Int×Zh) (j15:Zh):Option ((Int×Zh)⊕(Unit)):=(some (.inl ((bOr .u64 x1 (Zbxh.wrap ((Zbxh.wrap (bAnd .u8 r4.1 (127:Int)))*2^(min (Zbxg x2) (Zbxh).bits)))),j15)))
def Zjv (x1:Int) (x2:Int) (r4:Int×Zh) (kk:(Int)→(Int)→(Zh)→Option ((Int×Zh)⊕(Unit))) (j9:Zh):Option ((Int×Zh)⊕(Unit)):=(if 0≤x2 then (if (decide ((128:Int)≤r4.1))then (kk (bOr .u64 x1 (Zbxh.wrap ((Zbxh.wrap (bAnd .u8 r4.1 (127:Int)))*2^(min (Zbxg x2) (Zbxh).bits)))) (Zbxe.wrap (x2+(7:Int))) j9)else (if ((r4.1==(0:Int))&&(decide ((0:Int)<x2)))then ((Zer j9 (4:Int)).bind fun r13=>(Zl1 x1 x2 r4 r13))else (Zl1 x1 x2 r4 j9)))else none)
def Zey:Nat→(Int)→(Int)→(Zh)→Option ((Int×Zh)⊕(Unit))
 | 0,_,_,_=>none
 | n+1,x1,x2,x3=>((Ziu x3).bind fun r4=>(if ((x2==(63:Int))&&(decide ((1:Int)<r4.1)))then ((Zer r4.2 (1:Int)).bind fun r7=>(Zjv x1 x2 r4 (Zey n) r7))else (Zjv x1 x2 r4 (Zey n) r4.2)))
def Zkv (a0:Zh):Option (Int×Zh):=((Zey 11 (0:Int) (0:Int) a0).bind fun z16=>match z16 with | .inl r=>some r | .inr ()=>none)
def Zjf (r1:Int×Zh) (j6:Zh):Option (Int×Zh):=(some ((Zbxe.wrap r1.1),j6))
def Zea (a0:Zh) (a1:Int):Option (Int×Zh):=((Zkv a0).bind fun r1=>(if (decide ((Zbxh.wrap (max a1 (0:Int)))<r1.1))then ((Zer r1.2 (1:Int)).bind fun r4=>(Zjf r1 r4))else (Zjf r1 r1.2)))
def Zd2 (a0:Zh) (a1:Int):Option (Zh):=((Zer a0 a1).bind fun r1=>(some r1))
def Zjg (r1:Int×Zh) (j6:Zh):Option (Bool×Zh):=(some ((r1.1==(1:Int)),j6))
def Zlu (a0:Zh):Option (Bool×Zh):=((Ziu a0).bind fun r1=>(if (decide ((1:Int)<r1.1))then ((Zer r1.2 (4:Int)).bind fun r4=>(Zjg r1 r4))else (Zjg r1 r1.2)))
def Zju (a0:Zh):Option (Int×Zh):=(some ((Zbxe.wrap ((a0.b.length:Int)-a0.at_)),a0))
def Zjp (r1:Int×Zh) (j11:Zh):Option (ByteArray×Zh):=((cut (({j11 with at_:=(Zbxe.wrap (j11.at_+(Zbxe.wrap r1.1)))}:Zh).b) (Zbxe.wrap (({j11 with at_:=(Zbxe.wrap (j11.at_+(Zbxe.wrap r1.1)))}:Zh).at_-(Zbxe.wrap r1.1))) (({j11 with at_:=(Zbxe.wrap (j11.at_+(Zbxe.wrap r1.1)))}:Zh).at_)).bind fun c12=>(some ((bstr c12),({j11 with at_:=(Zbxe.wrap (j11.at_+(Zbxe.wrap r1.1)))}:Zh))))
def Zfg (a0:Zh) (a1:Int):Option (ByteArray×Zh):=((Zkv a0).bind fun r1=>(if (decide ((Zbxh.wrap (max a1 (0:Int)))<r1.1))then ((Zer r1.2 (3:Int)).bind fun r4=>(Zjp r1 r4))else ((Zju r1.2).bind fun r6=>(if (decide ((Zbxh.wrap r6.1)<r1.1))then ((Zer r6.2 (2:Int)).bind fun r9=>(Zjp r1 r9))else (Zjp r1 r6.2)))))
def Zfh (a0:Zh):Option (Int×Zh):=((Zkv a0).bind fun r1=>(some ((bXor .i64 (Zbxe.wrap (Zbyh r1.1 (2^1))) (Zbxe.wrap (0-(Zbxe.wrap (bAnd .u64 r1.1 (1:Int)))))),r1.2)))
def Zo1 (a0:Int) (j2:Int):Option (Nat×Bool):=((Zo4 (Zbxg j2)).bind fun r3=>(if (r3 !=a0)then (some ((0:Nat),false))else (some ((Zbxg j2),true))))
def Zsl (a0:Int):Option (Nat×Bool):=(if ((bAnd .u64 a0 (9223372036854775808:Int))!=(0:Int))then (Zo1 a0 (Zv9 .u64 a0 (9223372036854775808:Int)))else (Zo1 a0 (bXor .u64 Zbxh.max a0)))
def Zlw (r10:Nat×Bool) (j15:Zh):Option (Nat×Zh):=(some (r10.1,j15))
def Zhs:Nat→(Int)→(Int)→(Zh)→Option (Int×Zh)
 | 0,_,_,_=>none
 | n+1,x1,x2,x3=>(if (decide (x2<(8:Int)))then ((Ziu x3).bind fun r5=>((Zhs n) (bOr .u64 (Zbxh.wrap (x1*2^8)) (Zbxh.wrap r5.1)) (Zbxe.wrap (x2+(1:Int))) r5.2))else (some (x1,x3)))
def Zht (a0:Zh):Option (Nat×Zh):=((Zhs (Zbxg ((8:Int)-(0:Int))+1) (0:Int) (0:Int) a0).bind fun z9=>match z9 with | (y7,y8)=>((Zsl y7).bind fun r10=>(if (!r10.2)then ((Zer y8 (4:Int)).bind fun r13=>(Zlw r10 r13))else (Zlw r10 y8))))
def Zsp (j51:Zb) (j58:Zh):Option (Zb×Zh):=(some (j51,j58))
def Zle (j51:Zb) (j52:Zh):Option (Zb×Zh):=((Zeg j51).bind fun r53=>(if (r53 !=(0:Int))then ((Zd2 j52 r53).bind fun r56=>(Zsp j51 r56))else (Zsp j51 j52)))
def Zna (x36:Zb) (x37:Int) (kk:(Zb)→(Int)→(Zh)→Option (Zb×Zh)) (j43:Zn) (j44:Zh):Option (Zb×Zh):=((Zfg j44 (16:Int)).bind fun r45=>(if (x36.List.length+([({j43 with Name:=r45.1})]:List Zn).length)*24≤140737488355328 then (kk ({x36 with List:=(x36.List++([({j43 with Name:=r45.1})]:List Zn))}:Zb) (Zbxe.wrap (x37+(1:Int))) r45.2)else none))
def Zg5 (r34:Int×Zh):Nat→(Zb)→(Int)→(Zh)→Option (Zb×Zh)
 | 0,_,_,_=>none
 | n+1,x36,x37,x38=>(if (decide (x37<r34.1))then (if (x36.Kind==(9:Int))then ((Zht x38).bind fun r41=>(Zna x36 x37 (Zg5 r34 n) ({(default:Zn)with Score:=r41.1}) r41.2))else (Zna x36 x37 (Zg5 r34 n) (default:Zn) x38))else (some (x36,x38)))
def Zo5 (r7:Zck) (j29:Zb) (j30:Zh):Option (Zb×Zh):=(if r7.list then ((Zea j30 (32:Int)).bind fun r32=>((Zea r32.2 (32:Int)).bind fun r34=>((Zg5 r34 (Zbxg (r34.1-(0:Int))+1) ({j29 with Cap:=r32.1}:Zb) (0:Int) r34.2).bind fun z50=>match z50 with | (y48,y49)=>(Zle y48 y49))))else (Zle j29 j30))
def Zo9 (r7:Zck) (j24:Zb) (j25:Zh):Option (Zb×Zh):=(if r7.real then ((Zht j25).bind fun r27=>(Zo5 r7 ({j24 with Real:=r27.1}:Zb) r27.2))else (Zo5 r7 j24 j25))
def Zld (r7:Zck) (j19:Zb) (j20:Zh):Option (Zb×Zh):=(if r7.num then ((Zfh j20).bind fun r22=>(Zo9 r7 ({j19 with Num:=r22.1}:Zb) r22.2))else (Zo9 r7 j19 j20))
def Znb (r7:Zck) (j12:Zb) (j13:Zh):Option (Zb×Zh):=(if r7.bounds then ((Zfh j13).bind fun r15=>((Zfh r15.2).bind fun r17=>(Zld r7 ({({j12 with Low:=r15.1}:Zb)with High:=r17.1}:Zb) r17.2)))else (Zld r7 j12 j13))
def Zm9 (r1:Int×Zh) (j6:Zh):Option (Zb×Zh):=((Zew (({(default:Zb)with Kind:=r1.1}:Zb).Kind)).bind fun r7=>(if r7.text then ((Zfg j6 (64:Int)).bind fun r10=>(Znb r7 ({({(default:Zb)with Kind:=r1.1}:Zb)with Text:=r10.1}:Zb) r10.2))else (Znb r7 ({(default:Zb)with Kind:=r1.1}:Zb) j6)))
def Zsk (a0:Zh):Option (Zb×Zh):=((Zea a0 (9:Int)).bind fun r1=>(if (({(default:Zb)with Kind:=r1.1}:Zb).Kind==(0:Int))then ((Zd2 r1.2 (5:Int)).bind fun r4=>(Zm9 r1 r4))else (Zm9 r1 r1.2)))
def Zqt (j41:Zw) (j48:Zh):Option (Zw×Zh):=(some (j41,j48))
def Zoz (j41:Zw) (j42:Zh):Option (Zw×Zh):=((Ze7 j41).bind fun r43=>(if (r43 !=(0:Int))then ((Zd2 j42 r43).bind fun r46=>(Zqt j41 r46))else (Zqt j41 j42)))
def Zo6 (r7:Zds) (j34:Zw) (j35:Zh):Option (Zw×Zh):=((Zb8 r7 (109:Int)).bind fun r36=>(if r36 then ((Zsk j35).bind fun r39=>(Zoz ({j34 with Make:=r39.1}) r39.2))else (Zoz j34 j35)))
def Zoy (r7:Zds) (j25:Zw) (j26:Zh):Option (Zw×Zh):=((Zb8 r7 (115:Int)).bind fun r27=>(if r27 then ((Zq7 r7).bind fun r30=>((Zfg j26 r30).bind fun r32=>(Zo6 r7 ({j25 with S:=r32.1}) r32.2)))else (Zo6 r7 j25 j26)))
def Ziq (r7:Zds) (j18:Zw) (j19:Zh):Option (Zw×Zh):=((Zb8 r7 (120:Int)).bind fun r20=>(if r20 then ((Zht j19).bind fun r23=>(Zoy r7 ({j18 with X:=r23.1}) r23.2))else (Zoy r7 j18 j19)))
def Znc (r1:Int×Zh) (j6:Zh):Option (Zw×Zh):=((Znm (({(default:Zw)with Kind:=r1.1}).Kind)).bind fun r7=>((Zlu j6).bind fun r9=>((Zfg r9.2 (24:Int)).bind fun r11=>((Zb8 r7 (110:Int)).bind fun r13=>(if r13 then ((Zfh r11.2).bind fun r16=>(Ziq r7 (Z81 (Z18 ({({(default:Zw)with Kind:=r1.1})with Must:=r9.1}) r11.1) r16.1) r16.2))else (Ziq r7 (Z18 ({({(default:Zw)with Kind:=r1.1})with Must:=r9.1}) r11.1) r11.2))))))
def Zuh (a0:Zh):Option (Zw×Zh):=((Zea a0 (21:Int)).bind fun r1=>(if (({(default:Zw)with Kind:=r1.1}).Kind==(0:Int))then ((Zd2 r1.2 (5:Int)).bind fun r4=>(Znc r1 r4))else (Znc r1 r1.2)))
def Zi2 (r1:Int×Zh):Nat→(Zbj)→(Int)→(Zh)→Option (Zbj×Zh)
 | 0,_,_,_=>none
 | n+1,x7,x8,x9=>(if (decide (x8<r1.1))then ((Zuh x9).bind fun r11=>(if (x7.Acts.length+([r11.1]:List Zw).length)*152≤140737488355328 then ((Zi2 r1 n) ({x7 with Acts:=(x7.Acts++([r11.1]:List Zw))}:Zbj) (Zbxe.wrap (x8+(1:Int))) r11.2)else none))else (some (x7,x9)))
def Zls (r1:Int×Zh) (j6:Zh):Option (Zbj×Zh):=((Zi2 r1 (Zbxg (r1.1-(0:Int))+1) (default:Zbj) (0:Int) j6).bind fun z16=>match z16 with | (y14,y15)=>(some (y14,y15)))
def Zth (a0:Zh):Option (Zbj×Zh):=((Zea a0 (12:Int)).bind fun r1=>(if (r1.1==(0:Int))then ((Zd2 r1.2 (1:Int)).bind fun r4=>(Zls r1 r4))else (Zls r1 r1.2)))
def Zmq (j6:Zh):Option (Zh):=(some j6)
def Zpf (a0:Zh):Option (Zh):=((Zju a0).bind fun r1=>(if (decide ((0:Int)<r1.1))then ((Zer r1.2 (3:Int)).bind fun r4=>(Zmq r4))else (Zmq r1.2)))
def Zne (y18:Zbc) (j26:Zh):Option (Zbc×Zdb):=((Zpf j26).bind fun r27=>(some (y18,({Code:=(0:Int),At:=(0:Int)}:Zdb))))
def Zir (r9:Int×Zh):Nat→(Zbc)→(Zh)→(Int)→Option (Zbc×Zh)
 | 0,_,_,_=>none
 | n+1,x11,x12,x13=>(if (decide (x13<r9.1))then ((Zth x12).bind fun r15=>(if (x11.Deals.length+([r15.1]:List Zbj).length)*24≤140737488355328 then ((Zir r9 n) ({x11 with Deals:=(x11.Deals++([r15.1]:List Zbj))}:Zbc) r15.2 (Zbxe.wrap (x13+(1:Int))))else none))else (some (x11,x12)))
def Znd (r3:Int×Zh) (j8:Zh):Option (Zbc×Zdb):=((Zea j8 (32:Int)).bind fun r9=>((Zir r9 (Zbxg (r9.1-(0:Int))+1) ({(default:Zbc)with Number:=r3.1}:Zbc) r9.2 (0:Int)).bind fun z20=>match z20 with | (y18,y19)=>((Zja y18).bind fun r21=>(if (r21.1 !=(0:Int))then ((Zd2 y19 r21.1).bind fun r24=>(Zne y18 r24))else (Zne y18 y19)))))
def Zuz (a0:List Int):Option (Zbc×Zdb):=((Z12 a0).bind fun r1=>((Zea r1 (1099511627776:Int)).bind fun r3=>(if (({(default:Zbc)with Number:=r3.1}:Zbc).Number==(0:Int))then ((Zd2 r3.2 (1:Int)).bind fun r6=>(Znd r3 r6))else (Znd r3 r3.2))))
def Zlc (a2:Int) (r2:(List (List Int))×Int×((Zb4×Ze))):Nat→(List Zbc)→(Int)→Option (((List Zbc)×Int×((Zdo×(Zb4×Ze))))⊕(List Zbc))
 | 0,_,_=>none
 | n+1,x6,x7=>(if (decide (x7<(r2.1.length:Int)))then ((idx r2.1 x7).bind fun e9=>((Zuz e9).bind fun r11=>(if ((!(r11.2.Code==({Code:=(0:Int),At:=(0:Int)}:Zdb).Code&&r11.2.At==({Code:=(0:Int),At:=(0:Int)}:Zdb).At))||(r11.1.Number !=(Zbxe.wrap (a2+x7))))then none else (if (x6.length+([r11.1]:List Zbc).length)*32≤140737488355328 then ((Zlc a2 r2 n) (x6++([r11.1]:List Zbc)) (Zbxe.wrap (x7+(1:Int))))else none))))else (some (.inr x6)))
def Zq5 (a0:Ze) (a1:Zc5) (a2:Int):Option ((List Zbc)×Int×((Zdo×(Zb4×Ze)))):=(if ((decide (a2<(1:Int)))||(decide ((1099511627776:Int)<a2)))then none else ((Zs3 a0 a1).bind fun r2=>(if (r2.2.1 !=(0:Int))then none else ((Zlc a2 r2 (Zbxg ((r2.1.length:Int)-(0:Int))+1) ([]:List Zbc) (0:Int)).bind fun z16=>match z16 with | .inl r=>some r | .inr y15=>(some (y15,(0:Int),(({r:=(),next:=(Zbxe.wrap (a2+(y15.length:Int)))}:Zdo),r2.2.2)))))))
def Zpb (a0:Ze) (a1:Int):Option (Ze):=(some ({a0 with left:=(max a1 (0:Int))}:Ze))
def Zgq (a0:Zb):Nat→(Int)→Option ((Int)⊕(Unit))
 | 0,_=>none
 | n+1,x2=>(if (decide (x2<(a0.List.length:Int)))then ((idx a0.List x2).bind fun e4=>(if (decide ((100:Int)<(e4.Name.size:Int)))then (some (.inl (1:Int)))else ((Zgq a0 n) (Zbxe.wrap (x2+(1:Int))))))else (some (.inr ())))
def Zmx (a0:Zb):Option (Int):=(if ((decide ((100:Int)<(a0.List.length:Int)))||(decide ((1000:Int)<(a0.Text.size:Int))))then (some (1:Int))else ((Zgq a0 (Zbxg ((a0.List.length:Int)-(0:Int))+1) (0:Int)).bind fun z7=>match z7 with | .inl r=>some r | .inr ()=>(some (0:Int))))
def Zm3 (a0:Zw):Option (Int):=((gd (!((decide ((200:Int)<(a0.Key.size:Int)))||(decide ((1000:Int)<(a0.S.size:Int))))) (Zmx a0.Make)).bind fun r1=>(if (((decide ((200:Int)<(a0.Key.size:Int)))||(decide ((1000:Int)<(a0.S.size:Int))))||(decide ((0:Int)<r1)))then (some (1:Int))else (some (0:Int))))
def Zfk (a0:Zbj):Nat→(Int)→Option ((Int)⊕(Unit))
 | 0,_=>none
 | n+1,x2=>(if (decide (x2<(a0.Acts.length:Int)))then ((idx a0.Acts x2).bind fun e4=>((Zm3 e4).bind fun r6=>(if (decide ((0:Int)<r6))then (some (.inl (1:Int)))else ((Zfk a0 n) (Zbxe.wrap (x2+(1:Int)))))))else (some (.inr ())))
def Zmz (a0:Zbj):Option (Int):=(if (decide ((40:Int)<(a0.Acts.length:Int)))then (some (1:Int))else ((Zfk a0 (Zbxg ((a0.Acts.length:Int)-(0:Int))+1) (0:Int)).bind fun z9=>match z9 with | .inl r=>some r | .inr ()=>(some (0:Int))))
def Zfq (a0:List Zbj):Nat→(Int)→Option ((Int)⊕(Unit))
 | 0,_=>none
 | n+1,x2=>(if (decide (x2<(a0.length:Int)))then ((idx a0 x2).bind fun e4=>((Zmz e4).bind fun r6=>(if (decide ((0:Int)<r6))then (some (.inl (1:Int)))else ((Zfq a0 n) (Zbxe.wrap (x2+(1:Int)))))))else (some (.inr ())))
def Zmi (a0:List Zbj):Option (Int):=(if (decide ((40:Int)<(a0.length:Int)))then (some (1:Int))else ((Zfq a0 (Zbxg ((a0.length:Int)-(0:Int))+1) (0:Int)).bind fun z9=>match z9 with | .inl r=>some r | .inr ()=>(some (0:Int))))
def Zqh (a0:Zb4):Option (Int×Zb4):=(some ((Zbxe.wrap (a0.a.Len-a0.at_)),a0))
def Ztm (a0:List Int):Option ((List Int)×Int):=(if (decide ((61:Int)<(a0.length:Int)))then (some ((setI (Zbxl 64 (0:Int)) []),(3:Int)))else (if 0≤(2:Int)∧(2:Int)≤(64:Int)∧(64:Int)≤64∧(2:Int)<64 then (if (Zbxg (2:Int)+(Zbxg (64:Int)-Zbxg (2:Int))≤64)∧a0.length≤Zbxg (64:Int)-Zbxg (2:Int)then (some ((Zi0 (setI (Zbxl 64 (0:Int)) [(0,(1:Int)),(1,(Zbx4.wrap (a0.length:Int))),(63,(1:Int))]) (Zbxg (2:Int)) a0),(0:Int)))else none)else none))
def Ze5 (a1:List Int) (r7:Int×Zb4) (r10:Int):Nat→(Int)→(Ze)→Option ((Int×((Zb4×Ze)))⊕(Ze))
 | 0,_,_=>none
 | n+1,x12,x13=>(if (decide (x12<r10))then ((cut a1 (min (Zbxe.wrap (x12*(60:Int))) (a1.length:Int)) (min (Zbxe.wrap ((Zbxe.wrap (x12+(1:Int)))*(60:Int))) (a1.length:Int))).bind fun c15=>(if (([(Zbx4.wrap (Zbxe.wrap ((Zbxe.wrap (r10-(1:Int)))-x12)))]:List Int).length+c15.length)*1≤140737488355328 then ((Ztm (([(Zbx4.wrap (Zbxe.wrap ((Zbxe.wrap (r10-(1:Int)))-x12)))]:List Int)++c15)).bind fun r18=>((Zkt x13 (Zbxe.wrap ((Zbxe.wrap (r7.2.a.From+r7.2.at_))+x12)) r18.1).bind fun r20=>(if (r20.1 !=(0:Int))then (some (.inl (r20.1,(r7.2,r20.2))))else ((Ze5 a1 r7 r10 n) (Zbxe.wrap (x12+(1:Int))) r20.2))))else none))else (some (.inr x13)))
def Zom (a0:(Zb4×Ze)) (a1:List Int):Option (Int×((Zb4×Ze))):=((Zll a0.2).bind fun r1=>(if r1 then (some ((14:Int),(a0.1,a0.2)))else (if (decide ((3840:Int)<(a1.length:Int)))then (some ((3:Int),(a0.1,a0.2)))else ((Zn8 (a1.length:Int)).bind fun r5=>((Zqh a0.1).bind fun r7=>(if (decide (r7.1<r5))then (some ((8:Int),(r7.2,a0.2)))else ((Zn8 (a1.length:Int)).bind fun r10=>((Ze5 a1 r7 r10 (Zbxg (r10-(0:Int))+1) (0:Int) a0.2).bind fun z24=>match z24 with | .inl r=>some r | .inr y23=>(some ((0:Int),(({r7.2 with at_:=(Zbxe.wrap (r7.2.at_+r10))}:Zb4),y23)))))))))))
def Zte (a0:Zbc):Option (List Int):=((Zja a0).bind fun r1=>(if (r1.1 !=(0:Int))then (some ([]:List Int))else ((Zo7 a0).bind fun r4=>(some r4))))
def Zqb (a0:(Zb4×Ze)):Option (Int×((Zb4×Ze))):=((Zlo a0.2).bind fun r1=>(some (r1.1,(a0.1,r1.2))))
def Zm5 (a0:(Zdo×(Zb4×Ze))) (a1:Zbc):Option (Int×((Zdo×(Zb4×Ze)))):=(if (a1.Number !=a0.1.next)then (some ((4:Int),(a0.1,a0.2)))else ((Zja a1).bind fun r2=>(if (r2.1 !=(0:Int))then (some (r2.1,(a0.1,a0.2)))else ((Zte a1).bind fun r5=>((Zom a0.2 r5).bind fun r7=>(if (r7.1 !=(0:Int))then (some (r7.1,(a0.1,r7.2)))else ((Zqb r7.2).bind fun r10=>(if (r10.1 !=(0:Int))then (some (r10.1,(a0.1,r10.2)))else (some ((0:Int),(({a0.1 with next:=(Zbxe.wrap (a0.1.next+(1:Int)))}:Zdo),r10.2)))))))))))
def Zrx (a0:(Zdo×(Zb4×Ze))):Option (Int):=(some a0.1.next)
def Zfx (a0:Nat):Option (Bool):=(some (fneq a0 a0))
def Zi8 (a0:Nat):Option (Bool):=(if (feql a0 (0:Nat))then ((Ieee.double.div (4607182418800017408:Nat) a0).bind fun f2=>(some (flss f2 (0:Nat))))else (some (flss a0 (0:Nat))))
def Zgy (a0:Nat) (a1:Nat):Option (Bool):=((Zfx a0).bind fun r1=>(if r1 then (some false)else ((Zfx a1).bind fun r4=>(if r4 then (some true)else (if ((feql a0 (0:Nat))&&(feql a1 (0:Nat)))then ((Zi8 a0).bind fun r8=>((gd r8 (Zi8 a1)).bind fun r10=>(some (r8&&(!r10)))))else (some (flss a0 a1)))))))
def Zex (a0:Nat) (a1:Nat):Option (Bool):=((Zgy a0 a1).bind fun r1=>((gd (!r1) (Zgy a1 a0)).bind fun r3=>(some ((!r1)&&(!r3)))))
def Zf4 (a0:Zb) (a1:Zb):Nat→(Int)→Option ((Bool)⊕(Unit))
 | 0,_=>none
 | n+1,x5=>(if (decide (x5<(a0.List.length:Int)))then ((idx a0.List x5).bind fun e7=>((idx a1.List x5).bind fun e9=>((gd (!(!sEq e7.Name e9.Name)) (idx a0.List x5)).bind fun e11=>((gd (!(!sEq e7.Name e9.Name)) (idx a1.List x5)).bind fun e13=>((gd (!(!sEq e7.Name e9.Name)) (Zex e11.Score e13.Score)).bind fun r15=>(if ((!sEq e7.Name e9.Name)||(!r15))then (some (.inl false))else ((Zf4 a0 a1 n) (Zbxe.wrap (x5+(1:Int))))))))))else (some (.inr ())))
def Zji (a0:Zb) (a1:Zb):Option (Bool):=(if ((((((a0.Kind !=a1.Kind)||(a0.Num !=a1.Num))||(a0.Low !=a1.Low))||(a0.High !=a1.High))||(a0.Cap !=a1.Cap))||(!sEq a0.Text a1.Text))then (some false)else ((Zex a0.Real a1.Real).bind fun r2=>(if ((!r2)||((a0.List.length:Int)!=(a1.List.length:Int)))then (some false)else ((Zf4 a0 a1 (Zbxg ((a0.List.length:Int)-(0:Int))+1) (0:Int)).bind fun z18=>match z18 with | .inl r=>some r | .inr ()=>(some true)))))
def Zps (a0:Int):Option (ByteArray):=(if ((decide (a0<(0:Int)))||(decide ((21:Int)<a0)))then (some (⟨#[]⟩:ByteArray))else ((idx ([(⟨#[]⟩:ByteArray),(⟨#[109]⟩:ByteArray),(⟨#[]⟩:ByteArray),(⟨#[]⟩:ByteArray),(⟨#[]⟩:ByteArray),(⟨#[115]⟩:ByteArray),(⟨#[115]⟩:ByteArray),(⟨#[110]⟩:ByteArray),(⟨#[110]⟩:ByteArray),(⟨#[110]⟩:ByteArray),(⟨#[110]⟩:ByteArray),(⟨#[110]⟩:ByteArray),(⟨#[110]⟩:ByteArray),(⟨#[120]⟩:ByteArray),(⟨#[120]⟩:ByteArray),(⟨#[120]⟩:ByteArray),(⟨#[120]⟩:ByteArray),(⟨#[120]⟩:ByteArray),(⟨#[115]⟩:ByteArray),(⟨#[115]⟩:ByteArray),(⟨#[115]⟩:ByteArray),(⟨#[120,115]⟩:ByteArray)]:List ByteArray) a0).bind fun e2=>(some e2)))
def Zke (a1:Int) (r1:ByteArray):Nat→(Int)→Option ((Bool)⊕(Unit))
 | 0,_=>none
 | n+1,x3=>(if (decide (x3<(r1.size:Int)))then ((sidx r1 x3).bind fun b5=>(if (b5==a1)then (some (.inl true))else ((Zke a1 r1 n) (Zbxe.wrap (x3+(1:Int))))))else (some (.inr ())))
def Zfm (a0:Int) (a1:Int):Option (Bool):=((Zps a0).bind fun r1=>((Zke a1 r1 (Zbxg ((r1.size:Int)-(0:Int))+1) (0:Int)).bind fun z8=>match z8 with | .inl r=>some r | .inr ()=>(some false)))
def Zgh (a0:Int):Option (Int):=(if ((decide (a0<(0:Int)))||(decide ((21:Int)<a0)))then (some (0:Int))else ((idx ([(0:Int),(0:Int),(0:Int),(0:Int),(0:Int),(1:Int),(1:Int),(2:Int),(3:Int),(3:Int),(4:Int),(4:Int),(4:Int),(5:Int),(6:Int),(7:Int),(7:Int),(7:Int),(8:Int),(8:Int),(8:Int),(9:Int)]:List Int) a0).bind fun e2=>(some e2)))
def Zhq (a0:Nat):Option (Bool):=((Zfx a0).bind fun r1=>(some ((!r1)||((a0:Int)==(9221120237041090561:Int)))))
def Zjj (a0:Nat):Option (Bool):=((Zex a0 (0:Nat)).bind fun r1=>(some r1))
def Zdz (a1:ByteArray):Nat→(Bool)→(Bool)→(Bool)→(Bool)→(Bool)→(Int)→Option (Bool×Bool×Bool×Bool×Bool)
 | 0,_,_,_,_,_,_=>none
 | n+1,x1,x2,x3,x4,x5,x6=>(if (decide (x6<(a1.size:Int)))then ((gd (!x1) (sidx a1 x6)).bind fun b8=>((gd (!x2) (sidx a1 x6)).bind fun b10=>((gd (!x3) (sidx a1 x6)).bind fun b12=>((gd (!x4) (sidx a1 x6)).bind fun b14=>((gd (!x5) (sidx a1 x6)).bind fun b16=>((Zdz a1 n) (x1||(b8==(116:Int))) (x2||(b10==(110:Int))) (x3||(b12==(98:Int))) (x4||(b14==(114:Int))) (x5||(b16==(108:Int))) (Zbxe.wrap (x6+(1:Int)))))))))else (some (x1,x2,x3,x4,x5)))
def Zlx (a0:Zb) (a1:ByteArray):Option (Bool):=((Zdz a1 (Zbxg ((a1.size:Int)-(0:Int))+1) false false false false false (0:Int)).bind fun z23=>match z23 with | (y18,y19,y20,y21,y22)=>(if (((((!y18)&&(!sEq a0.Text (⟨#[]⟩:ByteArray)))||((!y19)&&(a0.Num !=(0:Int))))||((!y20)&&(a0.Low !=(0:Int))))||((!y20)&&(a0.High !=(0:Int))))then (some false)else ((gd (!y21) (Zjj a0.Real)).bind fun r25=>(some ((y21||r25)&&(y22||((a0.Cap==(0:Int))&&((a0.List.length:Int)==(0:Int)))))))))
def Zmm (a0:Int):Option (ByteArray):=(if ((decide (a0<(1:Int)))||(decide ((9:Int)<a0)))then (some (⟨#[]⟩:ByteArray))else ((idx ([(⟨#[]⟩:ByteArray),(⟨#[116]⟩:ByteArray),(⟨#[110]⟩:ByteArray),(⟨#[110]⟩:ByteArray),(⟨#[110,98]⟩:ByteArray),(⟨#[114]⟩:ByteArray),(⟨#[114]⟩:ByteArray),(⟨#[114]⟩:ByteArray),(⟨#[108]⟩:ByteArray),(⟨#[108]⟩:ByteArray)]:List ByteArray) a0).bind fun e2=>(some e2)))
def Zh3 (a0:Zn) (a1:Zn):Option (Bool):=((Zgy a1.Score a0.Score).bind fun r1=>(if r1 then (some true)else ((Zex a0.Score a1.Score).bind fun r4=>(some (r4&&(sLt a0.Name a1.Name))))))
def Zl3 (a0:Int) (a1:List Zn) (a2:Int):Option (Int):=((idx a1 a2).bind fun e1=>(if (decide ((16:Int)<(e1.Name.size:Int)))then (some (3:Int))else ((gd (a0==(8:Int)) (Zjj e1.Score)).bind fun r4=>((gd (!((a0==(8:Int))&&(!r4))) (Zhq e1.Score)).bind fun r6=>(if (((a0==(8:Int))&&(!r4))||(!r6))then (some (4:Int))else ((gd ((decide ((0:Int)<a2))&&(a0==(8:Int))) (idx a1 (Zbxe.wrap (a2-(1:Int))))).bind fun e9=>(if (((decide ((0:Int)<a2))&&(a0==(8:Int)))&&(!(sLt e9.Name e1.Name)))then (some (4:Int))else ((gd ((decide ((0:Int)<a2))&&(a0==(9:Int))) (idx a1 (Zbxe.wrap (a2-(1:Int))))).bind fun e12=>((gd ((decide ((0:Int)<a2))&&(a0==(9:Int))) (Zh3 e12 e1)).bind fun r14=>(if (((decide ((0:Int)<a2))&&(a0==(9:Int)))&&(!r14))then (some (4:Int))else (some (0:Int))))))))))))
def Zfp (a0:Zb):Nat→(Int)→Option ((Int)⊕(Unit))
 | 0,_=>none
 | n+1,x15=>(if (decide (x15<(a0.List.length:Int)))then ((Zl3 a0.Kind a0.List x15).bind fun r17=>(if (r17 !=(0:Int))then (some (.inl r17))else ((Zfp a0 n) (Zbxe.wrap (x15+(1:Int))))))else (some (.inr ())))
def Zeu (a0:Zb):Option (Int):=(if ((decide (a0.Kind<(1:Int)))||(decide ((9:Int)<a0.Kind)))then (some (5:Int))else ((Zmm a0.Kind).bind fun r2=>((Zlx a0 r2).bind fun r4=>(if (!r4)then (some (4:Int))else (if ((a0.Kind==(1:Int))&&(decide ((64:Int)<(a0.Text.size:Int))))then (some (3:Int))else (if ((a0.Kind==(4:Int))&&((((decide (a0.Low<(Zbxe.wrap (0-(2305843009213693952:Int)))))||(decide ((2305843009213693952:Int)<a0.High)))||(decide (a0.Num<a0.Low)))||(decide (a0.High<a0.Num))))then (some (1:Int))else ((Zhq a0.Real).bind fun r9=>(if (!r9)then (some (4:Int))else (if (decide (a0.Kind<(8:Int)))then (some (0:Int))else (if ((decide (a0.Cap<(1:Int)))||(decide ((32:Int)<a0.Cap)))then (some (1:Int))else (if (decide (a0.Cap<(a0.List.length:Int)))then (some (8:Int))else ((Zfp a0 (Zbxg ((a0.List.length:Int)-(0:Int))+1) (0:Int)).bind fun z20=>match z20 with | .inl r=>some r | .inr ()=>(some (0:Int))))))))))))))
def Zf7 (a0:Zw):Option (Int):=(if ((decide (a0.Kind<(1:Int)))||(decide ((21:Int)<a0.Kind)))then (some (5:Int))else (if ((decide ((a0.Key.size:Int)<(1:Int)))||(decide ((24:Int)<(a0.Key.size:Int))))then (some (1:Int))else ((Zfm a0.Kind (110:Int)).bind fun r3=>((gd (!((!r3)&&(a0.N !=(0:Int)))) (Zfm a0.Kind (120:Int))).bind fun r5=>((gd ((!((!r3)&&(a0.N !=(0:Int))))&&(!r5)) (Zex a0.X (0:Nat))).bind fun r7=>((gd (!(((!r3)&&(a0.N !=(0:Int)))||((!r5)&&(!r7)))) (Zfm a0.Kind (115:Int))).bind fun r9=>(if ((((!r3)&&(a0.N !=(0:Int)))||((!r5)&&(!r7)))||((!r9)&&(!sEq a0.S (⟨#[]⟩:ByteArray))))then (some (4:Int))else ((gd (a0.Kind !=(1:Int)) (Zji a0.Make ({Kind:=(0:Int),Num:=(0:Int),Low:=(0:Int),High:=(0:Int),Real:=(0:Nat),Cap:=(0:Int),Text:=ByteArray.empty,List:=([]:List Zn)}:Zb))).bind fun r12=>(if ((a0.Kind !=(1:Int))&&(!r12))then (some (4:Int))else ((Zgh a0.Kind).bind fun r15=>((gd (!((r15==(1:Int))&&(decide ((64:Int)<(a0.S.size:Int))))) (Zgh a0.Kind)).bind fun r17=>(if (((r15==(1:Int))&&(decide ((64:Int)<(a0.S.size:Int))))||((r17 !=(1:Int))&&(decide ((16:Int)<(a0.S.size:Int)))))then (some (3:Int))else (if (((a0.Kind==(10:Int))||(a0.Kind==(11:Int)))&&((decide (a0.N<(0:Int)))||(decide ((2305843009213693952:Int)<a0.N))))then (some (1:Int))else ((Zhq a0.X).bind fun r21=>(if (!r21)then (some (4:Int))else (if (a0.Kind==(1:Int))then ((Zeu a0.Make).bind fun r25=>(some r25))else (some (0:Int))))))))))))))))))
def Zfo (a0:Zbj):Nat→(Int)→Option ((Int×Int)⊕(Unit))
 | 0,_=>none
 | n+1,x2=>(if (decide (x2<(a0.Acts.length:Int)))then ((idx a0.Acts x2).bind fun e4=>((Zf7 e4).bind fun r6=>(if (r6 !=(0:Int))then (some (.inl (r6,(Zbxe.wrap (x2+(1:Int))))))else ((Zfo a0 n) (Zbxe.wrap (x2+(1:Int)))))))else (some (.inr ())))
def Zkz (a0:Zbj):Option (Int×Int):=(if ((decide ((a0.Acts.length:Int)<(1:Int)))||(decide ((12:Int)<(a0.Acts.length:Int))))then (some ((1:Int),(0:Int)))else ((Zfo a0 (Zbxg ((a0.Acts.length:Int)-(0:Int))+1) (0:Int)).bind fun z9=>match z9 with | .inl r=>some r | .inr ()=>(some ((0:Int),(0:Int)))))
def Zd6 (a0:Zk) (a1:ByteArray):Nat→(Int)→Option (Int)
 | 0,_=>none
 | n+1,x1=>((gd (decide (x1<(a0.L.length:Int))) (idx a0.L x1)).bind fun e2=>(if ((decide (x1<(a0.L.length:Int)))&&(sLt e2.Key a1))then ((Zd6 a0 a1 n) (Zbxe.wrap (x1+(1:Int))))else (some x1)))
def Zfw (a0:Zk) (a1:ByteArray):Option (Int):=((Zd6 a0 a1 (Zbxg ((a0.L.length:Int)-(0:Int))+1) (0:Int)).bind fun z6=>match z6 with | y5=>(some y5))
def Zil (a0:Zk) (a1:ByteArray):Option (Zb×Bool):=((Zfw a0 a1).bind fun r1=>((gd (decide (r1<(a0.L.length:Int))) (idx a0.L r1)).bind fun e3=>(if ((decide (r1<(a0.L.length:Int)))&&(sEq e3.Key a1))then ((idx a0.L r1).bind fun e6=>(some (e6.Rec,true)))else (some (({Kind:=(0:Int),Num:=(0:Int),Low:=(0:Int),High:=(0:Int),Real:=(0:Nat),Cap:=(0:Int),Text:=ByteArray.empty,List:=([]:List Zn)}:Zb),false)))))
def Zgn (a0:Zb):Option (Zb):=(if (([]:List Zn).length+a0.List.length)*24≤140737488355328 then (some ({a0 with List:=(([]:List Zn)++a0.List)}))else none)
def Zlp (a0:Int) (a1:Int):Option (Bool):=(some ((((decide ((0:Int)<a0))&&(decide ((0:Int)<a1)))&&(decide ((Zbxe.wrap (a0+a1))<(0:Int))))||(((decide (a0<(0:Int)))&&(decide (a1<(0:Int))))&&(decide ((0:Int)≤(Zbxe.wrap (a0+a1)))))))
def Zmg (a0:Nat) (a1:Nat):Option (Nat):=((Zgy a0 a1).bind fun r1=>(if r1 then (some a1)else (some a0)))
def Zmw (a0:Nat) (a1:Nat):Option (Nat):=((Zgy a1 a0).bind fun r1=>(if r1 then (some a1)else (some a0)))
def Zgr (a0:Int):Option (Nat):=(if (decide ((9223372036854775808:Int)≤a0))then (some (Zbxg (Zbxh.wrap (a0-(9223372036854775808:Int)))))else (some (Zbxg (Zbxh.wrap ((9223372036854775808:Int)+(Zbxh.wrap ((Zbxh.wrap ((9223372036854775808:Int)-(1:Int)))-a0)))))))
def Zha (a0:Nat):Option (Int):=((Zfx a0).bind fun r1=>(if r1 then (some (Zbxh.wrap ((9223372036854775808:Int)+(9221120237041090561:Int))))else (if (decide ((9223372036854775808:Int)≤(a0:Int)))then (some (Zbxh.wrap ((Zbxh.wrap ((9223372036854775808:Int)-(1:Int)))-(Zbxh.wrap ((a0:Int)-(9223372036854775808:Int))))))else (some (Zbxh.wrap ((9223372036854775808:Int)+(a0:Int)))))))
def Zgp (a0:List Zn) (a1:ByteArray):Nat→(Int)→Option ((Bool)⊕(Unit))
 | 0,_=>none
 | n+1,x1=>(if (decide (x1<(a0.length:Int)))then ((idx a0 x1).bind fun e3=>(if (sEq e3.Name a1)then (some (.inl true))else ((Zgp a0 a1 n) (Zbxe.wrap (x1+(1:Int))))))else (some (.inr ())))
def Zh7 (a0:List Zn) (a1:ByteArray):Option (Bool):=((Zgp a0 a1 (Zbxg ((a0.length:Int)-(0:Int))+1) (0:Int)).bind fun z6=>match z6 with | .inl r=>some r | .inr ()=>(some false))
def Zh8 (j30:List Zn):Option (List Zn):=(some j30)
def Ze2 (a0:List Zn) (x3:Int) (kk:(List Zn)→(Bool)→(Int)→Option ((List Zn)×Bool)) (j20:List Zn) (j21:Bool):Option ((List Zn)×Bool):=((idx a0 x3).bind fun e22=>(if (j20.length+([e22]:List Zn).length)*24≤140737488355328 then (kk (j20++([e22]:List Zn)) j21 (Zbxe.wrap (x3+(1:Int))))else none))
def Zc9 (a0:List Zn) (a1:Zn) (a2:Bool):Nat→(List Zn)→(Bool)→(Int)→Option ((List Zn)×Bool)
 | 0,_,_,_=>none
 | n+1,x1,x2,x3=>(if (decide (x3<(a0.length:Int)))then ((gd (!a2) (idx a0 x3)).bind fun e5=>((gd (!a2) (Zh3 e5 a1)).bind fun r7=>((gd ((!((!a2)&&r7))&&a2) (idx a0 x3)).bind fun e9=>((idx a0 x3).bind fun e11=>((gd ((sEq e11.Name a1.Name)&&(!a2)) (idx a0 x3)).bind fun e13=>((gd ((sEq e11.Name a1.Name)&&(!a2)) (Zex e13.Score a1.Score)).bind fun r15=>(if ((!x2)&&(!(((!a2)&&r7)||(a2&&(sLt e9.Name a1.Name)))))then (if (!((sEq e11.Name a1.Name)&&(a2||r15)))then (if (x1.length+([a1]:List Zn).length)*24≤140737488355328 then (Ze2 a0 x3 (Zc9 a0 a1 a2 n) (x1++([a1]:List Zn)) true)else none)else (Ze2 a0 x3 (Zc9 a0 a1 a2 n) x1 true))else (Ze2 a0 x3 (Zc9 a0 a1 a2 n) x1 x2))))))))else (some (x1,x2)))
def Zho (a0:List Zn) (a1:Zn) (a2:Bool):Option (List Zn):=((Zc9 a0 a1 a2 (Zbxg ((a0.length:Int)-(0:Int))+1) ([]:List Zn) false (0:Int)).bind fun z27=>match z27 with | (y25,y26)=>(if (!y26)then (if (y25.length+([a1]:List Zn).length)*24≤140737488355328 then (Zh8 (y25++([a1]:List Zn)))else none)else (Zh8 y25)))
def Zbf (j65:Zb) (j66:Zm):Option (Zb×Zm):=(some (j65,j66))
def Zk0 (x43:Int) (kk:(List Zn)→(Int)→Option (List Zn)) (j51:List Zn):Option (List Zn):=(kk j51 (Zbxe.wrap (x43+(1:Int))))
def Zeb (a0:Zb) (a1:Zw):Nat→(List Zn)→(Int)→Option (List Zn)
 | 0,_,_=>none
 | n+1,x42,x43=>(if (decide (x43<(a0.List.length:Int)))then ((idx a0.List x43).bind fun e45=>(if (!sEq e45.Name a1.S)then ((idx a0.List x43).bind fun e48=>(if (x42.length+([e48]:List Zn).length)*24≤140737488355328 then (Zk0 x43 (Zeb a0 a1 n) (x42++([e48]:List Zn)))else none))else (Zk0 x43 (Zeb a0 a1 n) x42)))else (some x42))
def Zf8 (a0:Zb) (j64:List Zn):Option (Zb×Zm):=(Zbf ({a0 with List:=j64}) ({Code:=(0:Int),Num:=(0:Int),Rec:=(default:Zb)}:Zm))
def Zc6 (a0:Zb) (a1:Zw) (j11:Bool):Option (Zb×Zm):=(if j11 then (if (decide (a0.Num<a1.N))then (Zbf a0 ({({Code:=(0:Int),Num:=(0:Int),Rec:=(default:Zb)}:Zm)with Code:=(11:Int)}))else (Zbf a0 ({Code:=(0:Int),Num:=(0:Int),Rec:=(default:Zb)}:Zm)))else (if (a1.Kind==(10:Int))then (if (decide (a0.High<(Zbxe.wrap (a0.Num+a1.N))))then (Zbf a0 ({({Code:=(0:Int),Num:=(0:Int),Rec:=(default:Zb)}:Zm)with Code:=(9:Int)}))else (Zbf ({a0 with Num:=(Zbxe.wrap (a0.Num+a1.N))}) ({Code:=(0:Int),Num:=(0:Int),Rec:=(default:Zb)}:Zm)))else (if (a1.Kind==(11:Int))then (if (decide ((Zbxe.wrap (a0.Num-a1.N))<a0.Low))then (Zbf a0 ({({Code:=(0:Int),Num:=(0:Int),Rec:=(default:Zb)}:Zm)with Code:=(10:Int)}))else (Zbf ({a0 with Num:=(Zbxe.wrap (a0.Num-a1.N))}) ({Code:=(0:Int),Num:=(0:Int),Rec:=(default:Zb)}:Zm)))else (if (a1.Kind==(13:Int))then ((Zmg a0.Real a1.X).bind fun r19=>(Zbf ({a0 with Real:=r19}) ({Code:=(0:Int),Num:=(0:Int),Rec:=(default:Zb)}:Zm)))else (if (a1.Kind==(14:Int))then ((Zmw a0.Real a1.X).bind fun r22=>(Zbf ({a0 with Real:=r22}) ({Code:=(0:Int),Num:=(0:Int),Rec:=(default:Zb)}:Zm)))else (if (a1.Kind==(15:Int))then ((Zha (fadd a0.Real a1.X)).bind fun r25=>((Zgr r25).bind fun r27=>(Zbf ({a0 with Real:=r27}) ({Code:=(0:Int),Num:=(0:Int),Rec:=(default:Zb)}:Zm))))else (if (a1.Kind==(16:Int))then ((Zha (fmul a0.Real a1.X)).bind fun r30=>((Zgr r30).bind fun r32=>(Zbf ({a0 with Real:=r32}) ({Code:=(0:Int),Num:=(0:Int),Rec:=(default:Zb)}:Zm))))else (if (a1.Kind==(17:Int))then (Zbf ({a0 with Real:=a1.X}) ({Code:=(0:Int),Num:=(0:Int),Rec:=(default:Zb)}:Zm))else (if (a1.Kind==(18:Int))then ((Zh7 a0.List a1.S).bind fun r36=>(if ((!r36)&&(decide (a0.Cap≤(a0.List.length:Int))))then (Zbf a0 ({({Code:=(0:Int),Num:=(0:Int),Rec:=(default:Zb)}:Zm)with Code:=(8:Int)}))else ((Zho a0.List ({Score:=(0:Nat),Name:=a1.S}:Zn) true).bind fun r39=>(Zbf ({a0 with List:=r39}) ({Code:=(0:Int),Num:=(0:Int),Rec:=(default:Zb)}:Zm)))))else (if (a1.Kind==(19:Int))then ((Zeb a0 a1 (Zbxg ((a0.List.length:Int)-(0:Int))+1) ([]:List Zn) (0:Int)).bind fun z53=>match z53 with | y52=>(Zbf ({a0 with List:=y52}) ({Code:=(0:Int),Num:=(0:Int),Rec:=(default:Zb)}:Zm)))else (if (a1.Kind==(20:Int))then ((Zh7 a0.List a1.S).bind fun r55=>(if (!r55)then (Zbf a0 ({({Code:=(0:Int),Num:=(0:Int),Rec:=(default:Zb)}:Zm)with Code:=(11:Int)}))else (Zbf a0 ({Code:=(0:Int),Num:=(0:Int),Rec:=(default:Zb)}:Zm))))else (if (a1.Kind==(21:Int))then ((Zho a0.List ({Score:=a1.X,Name:=a1.S}:Zn) false).bind fun r59=>(if (decide (a0.Cap<(r59.length:Int)))then ((cut r59 (0:Int) a0.Cap).bind fun c62=>(Zf8 a0 c62))else (Zf8 a0 r59)))else (Zbf a0 ({Code:=(0:Int),Num:=(0:Int),Rec:=(default:Zb)}:Zm))))))))))))))
def Zch (a0:Zb) (a1:Zw):Option (Zb×Zm):=(if (a1.Kind==(5:Int))then (Zbf ({a0 with Text:=a1.S}) ({Code:=(0:Int),Num:=(0:Int),Rec:=(default:Zb)}:Zm))else (if (a1.Kind==(6:Int))then ((Zgn a0).bind fun r3=>(Zbf ({a0 with Text:=a1.S}) ({({Code:=(0:Int),Num:=(0:Int),Rec:=(default:Zb)}:Zm)with Rec:=r3})))else (if (a1.Kind==(7:Int))then (Zbf ({a0 with Num:=(Zbxe.wrap (a0.Num+a1.N))}) ({Code:=(0:Int),Num:=(0:Int),Rec:=(default:Zb)}:Zm))else (if (a1.Kind==(8:Int))then ((Zlp a0.Num a1.N).bind fun r7=>(if r7 then (Zbf a0 ({({Code:=(0:Int),Num:=(0:Int),Rec:=(default:Zb)}:Zm)with Code:=(9:Int)}))else (Zbf ({a0 with Num:=(Zbxe.wrap (a0.Num+a1.N))}) ({Code:=(0:Int),Num:=(0:Int),Rec:=(default:Zb)}:Zm))))else (if (a1.Kind==(9:Int))then (Zc6 a0 a1 (a1.Kind==(9:Int)))else (Zc6 a0 a1 (a1.Kind==(12:Int))))))))
def Zhz (a1:Bool) (a2:Zw) (r3:Zb) (j18:Int):Option (Zb×Bool×Zm):=(if (j18 !=(0:Int))then (some (r3,a1,({Code:=j18,Num:=(0:Int),Rec:=(default:Zb)}:Zm)))else (if (a2.Kind==(1:Int))then ((Zgn a2.Make).bind fun r21=>(some (r21,true,({Code:=(0:Int),Num:=(0:Int),Rec:=(default:Zb)}:Zm))))else (if (a2.Kind==(2:Int))then (some (({Kind:=(0:Int),Num:=(0:Int),Low:=(0:Int),High:=(0:Int),Real:=(0:Nat),Cap:=(0:Int),Text:=ByteArray.empty,List:=([]:List Zn)}:Zb),false,({Code:=(0:Int),Num:=(0:Int),Rec:=(default:Zb)}:Zm)))else (if (a2.Kind==(3:Int))then (some (r3,a1,({Code:=(0:Int),Num:=r3.Kind,Rec:=(default:Zb)}:Zm)))else (if (a2.Kind==(4:Int))then ((Zgn r3).bind fun r26=>(some (r3,a1,({Code:=(0:Int),Num:=(0:Int),Rec:=r26}:Zm))))else ((Zch r3 a2).bind fun r28=>(some (r28.1,a1,r28.2))))))))
def Zhy (a1:Bool) (a2:Zw) (r3:Zb) (j14:Int):Option (Zb×Bool×Zm):=((Zgh a2.Kind).bind fun r15=>(if (((j14==(0:Int))&&(r15 !=(0:Int)))&&(r15 !=r3.Kind))then (Zhz a1 a2 r3 (5:Int))else (Zhz a1 a2 r3 j14)))
def Zhx (a1:Bool) (a2:Zw) (r3:Zb) (j12:Int):Option (Zb×Bool×Zm):=(if ((((j12==(0:Int))&&(!a1))&&(a2.Kind !=(1:Int)))&&(a2.Kind !=(3:Int)))then (Zhy a1 a2 r3 (6:Int))else (Zhy a1 a2 r3 j12))
def Zfr (a1:Bool) (a2:Zw) (r3:Zb) (j10:Int):Option (Zb×Bool×Zm):=(if (((j10==(0:Int))&&(a2.Kind==(1:Int)))&&a1)then (Zhx a1 a2 r3 (7:Int))else (Zhx a1 a2 r3 j10))
def Zhu (a1:Bool) (a2:Zw) (j2:Zb):Option (Zb×Bool×Zm):=((Zgn j2).bind fun r3=>((Zf7 a2).bind fun r5=>(if ((r5==(0:Int))&&a1)then ((Zeu r3).bind fun r8=>(Zfr a1 a2 r3 r8))else (Zfr a1 a2 r3 r5))))
def Zky (a0:Zb) (a1:Bool) (a2:Zw):Option (Zb×Bool×Zm):=(if (!a1)then (Zhu a1 a2 ({Kind:=(0:Int),Num:=(0:Int),Low:=(0:Int),High:=(0:Int),Real:=(0:Nat),Cap:=(0:Int),Text:=ByteArray.empty,List:=([]:List Zn)}:Zb))else (Zhu a1 a2 a0))
def Zim (a0:Zk) (a1:ByteArray):Option (Zk×Bool):=((Zfw a0 a1).bind fun r1=>((gd (!(decide ((a0.L.length:Int)≤r1))) (idx a0.L r1)).bind fun e3=>(if ((decide ((a0.L.length:Int)≤r1))||(!sEq e3.Key a1))then (some (a0,false))else ((cut a0.L (0:Int) r1).bind fun c6=>(if (([]:List Zb2).length+c6.length)*104≤140737488355328 then ((cut a0.L (Zbxe.wrap (r1+(1:Int))) (a0.L.length:Int)).bind fun c9=>(if ((([]:List Zb2)++c6).length+c9.length)*104≤140737488355328 then (some (({L:=((([]:List Zb2)++c6)++c9),Room:=a0.Room}:Zk),true))else none))else none)))))
def Zgc (a0:Zk) (a1:ByteArray) (a2:Zb) (c10:List Zb2) (j15:Int):Option (Zk×Int):=((cut a0.L j15 (a0.L.length:Int)).bind fun c16=>(if (((([]:List Zb2)++c10)++([({Key:=a1,Rec:=a2}:Zb2)]:List Zb2)).length+c16.length)*104≤140737488355328 then (some (({L:=(((([]:List Zb2)++c10)++([({Key:=a1,Rec:=a2}:Zb2)]:List Zb2))++c16),Room:=a0.Room}:Zk),(0:Int)))else none))
def Zhi (a0:Zk) (a1:ByteArray) (a2:Zb):Option (Zk×Int):=(if ((decide ((a1.size:Int)<(1:Int)))||(decide ((24:Int)<(a1.size:Int))))then (some (a0,(1:Int)))else ((Zeu a2).bind fun r2=>(if (r2 !=(0:Int))then (some (a0,r2))else ((Zfw a0 a1).bind fun r5=>((gd (decide (r5<(a0.L.length:Int))) (idx a0.L r5)).bind fun e7=>(if ((!((decide (r5<(a0.L.length:Int)))&&(sEq e7.Key a1)))&&(decide (a0.Room≤(a0.L.length:Int))))then (some (a0,(8:Int)))else ((cut a0.L (0:Int) r5).bind fun c10=>(if (([]:List Zb2).length+c10.length)*104≤140737488355328 then (if ((([]:List Zb2)++c10).length+([({Key:=a1,Rec:=a2}:Zb2)]:List Zb2).length)*104≤140737488355328 then (if ((decide (r5<(a0.L.length:Int)))&&(sEq e7.Key a1))then (Zgc a0 a1 a2 c10 (Zbxe.wrap (r5+(1:Int))))else (Zgc a0 a1 a2 c10 r5))else none)else none))))))))
def Zmk (a0:Zk) (a1:Zw):Option (Zk×Zm):=((Zil a0 a1.Key).bind fun r1=>((Zky r1.1 r1.2 a1).bind fun r3=>(if (r3.2.2.Code !=(0:Int))then (some (a0,r3.2.2))else (if ((a1.Kind==(1:Int))&&(decide (a0.Room≤(a0.L.length:Int))))then (some (a0,({Code:=(8:Int),Num:=(0:Int),Rec:=(default:Zb)}:Zm)))else (if (!r3.2.1)then ((Zim a0 a1.Key).bind fun r8=>(some (r8.1,r3.2.2)))else ((Zhi a0 a1.Key r3.1).bind fun r10=>(some (r10.1,r3.2.2))))))))
def Zfs (a0:Zk) (a1:Zbj):Nat→(Zk)→(Zbl)→(Zk)→(List Zm)→(Int)→Option ((Zk×Zbl)⊕(Zk×Zbl×Zk×(List Zm)))
 | 0,_,_,_,_,_=>none
 | n+1,x4,x5,x6,x7,x8=>(if (decide (x8<(a1.Acts.length:Int)))then ((idx a1.Acts x8).bind fun e10=>((Zmk x6 e10).bind fun r12=>((gd (r12.2.Code !=(0:Int)) (idx a1.Acts x8)).bind fun e14=>(if ((r12.2.Code !=(0:Int))&&e14.Must)then (some (.inl (a0,({Code:=r12.2.Code,At:=(Zbxe.wrap (x8+(1:Int))),Answers:=([]:List Zm)}:Zbl))))else (if (x7.length+([r12.2]:List Zm).length)*104≤140737488355328 then ((Zfs a0 a1 n) x4 x5 r12.1 (x7++([r12.2]:List Zm)) (Zbxe.wrap (x8+(1:Int))))else none)))))else (some (.inr (x4,x5,x6,x7))))
def Zme (a0:Zk) (a1:Zbj):Option (Zk×Zbl):=((Zkz a1).bind fun r1=>(if (r1.1 !=(0:Int))then (some (a0,({Code:=r1.1,At:=r1.2,Answers:=([]:List Zm)}:Zbl)))else ((Zfs a0 a1 (Zbxg ((a1.Acts.length:Int)-(0:Int))+1) (default:Zk) (default:Zbl) a0 ([]:List Zm) (0:Int)).bind fun z22=>match z22 with | .inl r=>some r | .inr (y18,y19,y20,y21)=>(some (y20,({Code:=(0:Int),At:=(0:Int),Answers:=y21}:Zbl))))))
def Zgs (a1:List Zbj):Nat→(Zk)→(List Zbl)→(Int)→Option (Zk×(List Zbl))
 | 0,_,_,_=>none
 | n+1,x1,x2,x3=>(if (decide (x3<(a1.length:Int)))then ((idx a1 x3).bind fun e5=>((Zme x1 e5).bind fun r7=>(if (x2.length+([r7.2]:List Zbl).length)*40≤140737488355328 then ((Zgs a1 n) r7.1 (x2++([r7.2]:List Zbl)) (Zbxe.wrap (x3+(1:Int))))else none)))else (some (x1,x2)))
def Ziw (a0:Zk) (a1:List Zbj):Option (Zk×(List Zbl)):=((Zgs a1 (Zbxg ((a1.length:Int)-(0:Int))+1) a0 ([]:List Zbl) (0:Int)).bind fun z12=>match z12 with | (y10,y11)=>(some (y10,y11)))
def Zig (x1:Int) (x2:Ze) (e4:Zo) (kk:(Int)→(Ze)→Option (Ze)) (j9:Int):Option (Ze):=((idx x2.firm e4.at_).bind fun e10=>(if 0≤j9∧j9≤64∧0<64 then ((cut e4.s (0:Int) j9).bind fun c13=>(if c13.length≤Zbxg j9∧c13.length≤64∧0<64 then (kk (Zbxe.wrap (x1+(1:Int))) ({x2 with firm:=x2.firm.set (Zbxg e4.at_) (Zi0 e10 0 c13)}:Ze))else none))else none))
def Zeh (a0:Ze) (a1:List Int):Nat→(Int)→(Ze)→Option (Ze)
 | 0,_,_=>none
 | n+1,x1,x2=>(if (decide (x1<(a0.pending.length:Int)))then ((idx a0.pending x1).bind fun e4=>(if (decide (x1<(a1.length:Int)))then ((idx a1 x1).bind fun e7=>(Zig x1 x2 e4 (Zeh a0 a1 n) (min (max e7 (0:Int)) (64:Int))))else (Zig x1 x2 e4 (Zeh a0 a1 n) (0:Int))))else (some x2))
def Zkr (a0:Ze) (a1:List Int):Option (Ze):=((Zeh a0 a1 (Zbxg ((a0.pending.length:Int)-(0:Int))+1) (0:Int) a0).bind fun z17=>match z17 with | y16=>(some ({({({y16 with pending:=([]:List Zo)}:Ze)with left:=(0:Int)}:Ze)with down:=false}:Ze)))
def Zco (a0:List Zn):Option (List Zn):=if a0.length*24≤140737488355328 then some a0 else none
def Zh4 (a0:Zb):Option (Zb):=((Zco a0.List).bind fun r1=>(some ({a0 with List:=r1})))
def Zkk (x1:Zb) (kk:(Zb)→(shelf_nodeT)→Option ((Zb×Bool)⊕(Zb))) (j10:shelf_nodeT):Option ((Zb×Bool)⊕(Zb)):=(kk x1 j10)
def Zfv (a1:ByteArray):Nat→(Zb)→(shelf_nodeT)→Option ((Zb×Bool)⊕(Zb))
 | 0,_,_=>none
 | n+1,x1,x2=>(if (!x2.isNil)then ((x2.un).bind fun n4=>(if (sLt a1 n4.key)then (Zkk x1 (Zfv a1 n) n4.left)else (if (!(sLt a1 n4.key||sEq a1 n4.key))then (Zkk x1 (Zfv a1 n) n4.right)else ((Zh4 n4.rec_).bind fun r8=>(some (.inl (r8,true)))))))else (some (.inr x1)))
def Zh6 (a0:Z4) (a1:ByteArray):Option (Zb×Bool):=((Zfv a1 (a0.top.hh+1) (default:Zb) a0.top).bind fun z12=>match z12 with | .inl r=>some r | .inr y11=>(some (({Kind:=(0:Int),Num:=(0:Int),Low:=(0:Int),High:=(0:Int),Real:=(0:Nat),Cap:=(0:Int),Text:=ByteArray.empty,List:=([]:List Zn)}:Zb),false)))
def Zqv (a0:Int):Option (Int):=((Znm a0).bind fun r1=>(some r1.on))
def Znt (a0:Zb) (a1:Zw) (a2:Zm):Option (Int×Zb×Zm):=(some ((0:Int),({a0 with Text:=a1.S}),a2))
def Zj3 (a0:Zb) (a1:Zw) (a2:Zm):Option (Int×Zb×Zm):=((Zh4 a0).bind fun r1=>(some ((0:Int),({a0 with Text:=a1.S}),({a2 with Rec:=r1}))))
def Znq (a0:Zb) (a1:Zw) (a2:Zm):Option (Int×Zb×Zm):=(some ((0:Int),({a0 with Num:=(Zbxe.wrap (a0.Num+a1.N))}),a2))
def Zpx (a0:Zb) (a1:Zw) (a2:Zm):Option (Int×Zb×Zm):=(if (((decide ((0:Int)<a1.N))&&(decide ((Zbxe.wrap ((9223372036854775807:Int)-a1.N))<a0.Num)))||((decide (a1.N<(0:Int)))&&(decide (a0.Num<(Zbxe.wrap ((-9223372036854775808:Int)-a1.N))))))then (some ((9:Int),a0,a2))else (some ((0:Int),({a0 with Num:=(Zbxe.wrap (a0.Num+a1.N))}),a2)))
def Zfn (a0:Zb) (a1:Zw) (a2:Zm):Option (Int×Zb×Zm):=(if (decide (a0.Num<a1.N))then (some ((11:Int),a0,a2))else (some ((0:Int),a0,a2)))
def Zjm (a0:Zb) (a1:Zw) (a2:Zm):Option (Int×Zb×Zm):=(if (decide ((Zbxe.wrap (a0.High-a0.Num))<a1.N))then (some ((9:Int),a0,a2))else (some ((0:Int),({a0 with Num:=(Zbxe.wrap (a0.Num+a1.N))}),a2)))
def Zjo (a0:Zb) (a1:Zw) (a2:Zm):Option (Int×Zb×Zm):=(if (decide ((Zbxe.wrap (a0.Num-a0.Low))<a1.N))then (some ((10:Int),a0,a2))else (some ((0:Int),({a0 with Num:=(Zbxe.wrap (a0.Num-a1.N))}),a2)))
def Zgi (ψ:Nat→Nat→Option Nat) (a0:Zb) (a1:Zw) (a2:Zm):Option (Int×Zb×Zm):=(ψ a0.Real a1.X).bind fun z=>some ((0:Int),{a0 with Real:=z},a2)
def Zp9 (a0:Nat) (a1:Nat):Option (Nat):=((Zq9 a0 a1).bind fun r1=>(if r1 then ((Zh5 a1).bind fun r4=>(some r4))else ((Zh5 a0).bind fun r6=>(some r6))))
def Zqc (a0:Nat) (a1:Nat):Option (Nat):=((Zq9 a1 a0).bind fun r1=>(if r1 then ((Zh5 a1).bind fun r4=>(some r4))else ((Zh5 a0).bind fun r6=>(some r6))))
def Zlq (a0:Nat) (a1:Nat):Option (Nat):=((Zh5 (fadd a0 a1)).bind fun r1=>(some r1))
def Zkb (a0:Nat) (a1:Nat):Option (Nat):=((Zh5 (fmul a0 a1)).bind fun r1=>(some r1))
def Zjk (a0:Nat) (a1:Nat):Option (Nat):=(some a1)
def Zc8 (kk:(Int)→(Int)→Option (Int)) (j9:Int) (j10:Int):Option (Int):=(kk j9 j10)
def Zca (a0:List Zn) (a1:ByteArray) (φ2:Zn→ByteArray→Option Int):Nat→(Int)→(Int)→Option (Int)
 | 0,_,_=>none
 | n+1,x1,x2=>(if (decide (x1<x2))then ((idx a0 (Zbxe.wrap (Zbyh (Zbxh.wrap (Zbxe.wrap (x1+x2))) (2^1)))).bind fun e4=>((φ2 e4 a1).bind fun r6=>(if (decide (r6<(0:Int)))then (Zc8 (Zca a0 a1 φ2 n) (Zbxe.wrap ((Zbxe.wrap (Zbyh (Zbxh.wrap (Zbxe.wrap (x1+x2))) (2^1)))+(1:Int))) x2)else (Zc8 (Zca a0 a1 φ2 n) x1 (Zbxe.wrap (Zbyh (Zbxh.wrap (Zbxe.wrap (x1+x2))) (2^1)))))))else (some x1))
def Zd1 (a0:List Zn) (a1:ByteArray) (φ2:Zn→ByteArray→Option Int):Option (Int×Bool):=((Zca a0 a1 φ2 (Zbxg ((a0.length:Int)-(0:Int))+1) (0:Int) (a0.length:Int)).bind fun z12=>match z12 with | y11=>((gd (decide (y11<(a0.length:Int))) (idx a0 y11)).bind fun e13=>((gd (decide (y11<(a0.length:Int))) (φ2 e13 a1)).bind fun r15=>(some (y11,((decide (y11<(a0.length:Int)))&&(r15==(0:Int))))))))
def Zm8 (a0:Zn) (a1:ByteArray):Option (Int):=(if (sLt a0.Name a1)then (some (-1:Int))else (if (!(sLt a0.Name a1||sEq a0.Name a1))then (some (1:Int))else (some (0:Int))))
def Zpm (a0:List Zn) (a1:ByteArray):Option (Int×Bool):=((Zd1 a0 a1 (fun y0 y1=>Zm8 y0 y1)).bind fun r1=>(some (r1.1,r1.2)))
def Zc3 (a0:List Zn) (a1:Int) (a2:List Zn):Option (List Zn):=if 0≤a1∧a1≤a0.length∧0<a2.length∧(a0.length+a2.length)*24≤140737488355328 then some (a0.take a1.toNat++a2++a0.drop a1.toNat)else none
def Zpt (a0:Zb) (a1:Zw) (a2:Zm):Option (Int×Zb×Zm):=((Zpm a0.List a1.S).bind fun r1=>(if r1.2 then (some ((0:Int),a0,a2))else (if (decide (a0.Cap≤(a0.List.length:Int)))then (some ((8:Int),a0,a2))else ((Zco a0.List).bind fun r5=>((Zc3 r5 r1.1 ([({Score:=(0:Nat),Name:=a1.S}:Zn)]:List Zn)).bind fun r7=>(some ((0:Int),({a0 with List:=r7}),a2)))))))
def Zg3 (a0:List Zn) (a1 a2:Int):Option (List Zn):=if 0<a0.length∧0≤a1∧a1≤a2∧a2≤a0.length∧a0.length≤140737488355328 then some (a0.take a1.toNat++a0.drop a2.toNat)else none
def Zni (a2:Zm) (j8:Zb):Option (Int×Zb×Zm):=(some ((0:Int),j8,a2))
def Zn2 (a0:Zb) (a1:Zw) (a2:Zm):Option (Int×Zb×Zm):=((Zpm a0.List a1.S).bind fun r1=>(if r1.2 then ((Zco a0.List).bind fun r4=>((Zg3 r4 r1.1 (Zbxe.wrap (r1.1+(1:Int)))).bind fun r6=>(Zni a2 ({a0 with List:=r6}))))else (Zni a2 a0)))
def Zh0 (a0:Zb) (a1:Zw) (a2:Zm):Option (Int×Zb×Zm):=((Zpm a0.List a1.S).bind fun r1=>(if (!r1.2)then (some ((11:Int),a0,a2))else (some ((0:Int),a0,a2))))
def Zic (a0:Zb) (a1:Zw):Nat→(Int)→Option (Int)
 | 0,_=>none
 | n+1,x1=>((gd (decide (x1<(a0.List.length:Int))) (idx a0.List x1)).bind fun e2=>((gd (decide (x1<(a0.List.length:Int))) (Zor e2 ({Score:=a1.X,Name:=a1.S}:Zn))).bind fun r4=>(if ((decide (x1<(a0.List.length:Int)))&&r4)then ((Zic a0 a1 n) (Zbxe.wrap (x1+(1:Int))))else (some x1))))
def Zoc (a0:Zb) (a1:Zw) (a2:Zm):Option (Int×Zb×Zm):=((Zic a0 a1 (Zbxg ((a0.List.length:Int)-(0:Int))+1) (0:Int)).bind fun z8=>match z8 with | y7=>((gd (decide (y7<(a0.List.length:Int))) (idx a0.List y7)).bind fun e9=>((gd (decide (y7<(a0.List.length:Int))) (Zor ({Score:=a1.X,Name:=a1.S}:Zn) e9)).bind fun r11=>(if ((decide (y7<(a0.List.length:Int)))&&(!r11))then (some ((0:Int),a0,a2))else ((Zco a0.List).bind fun r14=>((Zc3 r14 y7 ([({Score:=a1.X,Name:=a1.S}:Zn)]:List Zn)).bind fun r16=>((cut r16 (0:Int) (min (r16.length:Int) a0.Cap)).bind fun c18=>(some ((0:Int),({a0 with List:=c18}),a2)))))))))
def Zbz (k:Int) (a0:Zb) (a1:Zw) (a2:Zm):Option (Int×Zb×Zm):=if k=5 then Znt a0 a1 a2 else if k=6 then Zj3 a0 a1 a2 else if k=7 then Znq a0 a1 a2 else if k=8 then Zpx a0 a1 a2 else if k=9 then Zfn a0 a1 a2 else if k=10 then Zjm a0 a1 a2 else if k=11 then Zjo a0 a1 a2 else if k=12 then Zfn a0 a1 a2 else if k=13 then Zgi (fun x y=>Zp9 x y) a0 a1 a2 else if k=14 then Zgi (fun x y=>Zqc x y) a0 a1 a2 else if k=15 then Zgi (fun x y=>Zlq x y) a0 a1 a2 else if k=16 then Zgi (fun x y=>Zkb x y) a0 a1 a2 else if k=17 then Zgi (fun x y=>Zjk x y) a0 a1 a2 else if k=18 then Zpt a0 a1 a2 else if k=19 then Zn2 a0 a1 a2 else if k=20 then Zh0 a0 a1 a2 else if k=21 then Zoc a0 a1 a2 else none
def Zi3 (a0:Int) (a1:Zb) (a2:Bool):Option (Zb×Bool×Zm×Zb):=(some (a1,a2,({Code:=a0,Num:=(0:Int),Rec:=(default:Zb)}:Zm),a1))
def Zjb (a1:Bool) (a2:Zw) (r3:Zb):Option (Zb×Bool×Zm):=(if ((a2.Kind==(1:Int))&&a1)then ((Zi3 (7:Int) r3 a1).bind fun r17=>(some (r17.1,r17.2.1,r17.2.2.1)))else (if (a2.Kind==(1:Int))then ((Zh4 a2.Make).bind fun r20=>(some (r20,true,({Code:=(0:Int),Num:=(0:Int),Rec:=(default:Zb)}:Zm))))else (if (a2.Kind==(3:Int))then (some (r3,a1,({Code:=(0:Int),Num:=r3.Kind,Rec:=(default:Zb)}:Zm)))else (if (!a1)then ((Zi3 (6:Int) r3 a1).bind fun r24=>(some (r24.1,r24.2.1,r24.2.2.1)))else (if (a2.Kind==(2:Int))then (some (({Kind:=(0:Int),Num:=(0:Int),Low:=(0:Int),High:=(0:Int),Real:=(0:Nat),Cap:=(0:Int),Text:=ByteArray.empty,List:=([]:List Zn)}:Zb),false,({Code:=(0:Int),Num:=(0:Int),Rec:=(default:Zb)}:Zm)))else (if (a2.Kind==(4:Int))then ((Zh4 r3).bind fun r28=>(some (r3,a1,({Code:=(0:Int),Num:=(0:Int),Rec:=r28}:Zm))))else ((Zqv a2.Kind).bind fun r30=>(if (r30 !=r3.Kind)then ((Zi3 (5:Int) r3 a1).bind fun r33=>(some (r33.1,r33.2.1,r33.2.2.1)))else ((Zh4 r3).bind fun r35=>(if (5≤a2.Kind∧a2.Kind≤21)then ((Zbz a2.Kind r3 a2 (default:Zm)).bind fun r38=>(if (r38.1 !=(0:Int))then (some (r35,a1,({Code:=r38.1,Num:=(0:Int),Rec:=(default:Zb)}:Zm)))else (some (r38.2.1,a1,r38.2.2))))else none))))))))))
def Zjc (a1:Bool) (a2:Zw) (j2:Zb):Option (Zb×Bool×Zm):=((Zh4 j2).bind fun r3=>((Ze7 a2).bind fun r5=>(if (r5 !=(0:Int))then ((Zi3 r5 r3 a1).bind fun r8=>(some (r8.1,r8.2.1,r8.2.2.1)))else (if a1 then ((Zeg r3).bind fun r11=>(if (r11 !=(0:Int))then ((Zi3 r11 r3 a1).bind fun r14=>(some (r14.1,r14.2.1,r14.2.2.1)))else (Zjb a1 a2 r3)))else (Zjb a1 a2 r3)))))
def Zon (a0:Zb) (a1:Bool) (a2:Zw):Option (Zb×Bool×Zm):=(if (!a1)then (Zjc a1 a2 ({Kind:=(0:Int),Num:=(0:Int),Low:=(0:Int),High:=(0:Int),Real:=(0:Nat),Cap:=(0:Int),Text:=ByteArray.empty,List:=([]:List Zn)}:Zb))else (Zjc a1 a2 a0))
def Zvv (a0:Int):Option (Bool):=(some (((((a0==(3:Int))||(a0==(4:Int)))||(a0==(9:Int)))||(a0==(12:Int)))||(a0==(20:Int))))
def Zdp (a0:shelf_nodeT):Option (Int):=(if a0.isNil then (some (0:Int))else ((a0.un).bind fun n2=>(some n2.size)))
def Ze3 (a0:ByteArray) (a1:Zb) (a2:shelf_nodeT) (a3:shelf_nodeT):Option (shelf_nodeT):=((Zdp a2).bind fun r1=>((Zdp a3).bind fun r3=>(some ({key:=a0,rec_:=a1,left:=a2,right:=a3,size:=(Zbxe.wrap ((Zbxe.wrap (r1+r3))+(1:Int)))}:shelf_node).up)))
def Zlh (a0:shelf_nodeT) (a1:shelf_nodeT):Option (Bool):=((Zdp a0).bind fun r1=>((Zdp a1).bind fun r3=>(some (decide ((Zbxe.wrap ((3:Int)*(Zbxe.wrap (r3+(1:Int)))))<(Zbxe.wrap (r1+(1:Int))))))))
def Zk7 (a0:ByteArray) (a1:Zb) (a2:shelf_nodeT) (a3:shelf_nodeT):Option (shelf_nodeT):=((Zlh a3 a2).bind fun r1=>((gd r1 (a3.un)).bind fun n3=>((gd r1 (Zdp n3.left)).bind fun r5=>((gd r1 (a3.un)).bind fun n7=>((gd r1 (Zdp n7.right)).bind fun r9=>(if (r1&&(decide ((Zbxe.wrap (r5+(1:Int)))<(Zbxe.wrap ((2:Int)*(Zbxe.wrap (r9+(1:Int))))))))then ((a3.un).bind fun n12=>((Ze3 a0 a1 a2 n12.left).bind fun r14=>((Ze3 n12.key n12.rec_ r14 n12.right).bind fun r16=>(some r16))))else ((Zlh a3 a2).bind fun r18=>(if r18 then ((a3.un).bind fun n21=>((n21.left.un).bind fun n23=>((Ze3 a0 a1 a2 n23.left).bind fun r25=>((Ze3 n21.key n21.rec_ n23.right n21.right).bind fun r27=>((Ze3 n23.key n23.rec_ r25 r27).bind fun r29=>(some r29))))))else ((Zlh a2 a3).bind fun r31=>((gd r31 (a2.un)).bind fun n33=>((gd r31 (Zdp n33.right)).bind fun r35=>((gd r31 (a2.un)).bind fun n37=>((gd r31 (Zdp n37.left)).bind fun r39=>(if (r31&&(decide ((Zbxe.wrap (r35+(1:Int)))<(Zbxe.wrap ((2:Int)*(Zbxe.wrap (r39+(1:Int))))))))then ((a2.un).bind fun n42=>((Ze3 a0 a1 n42.right a3).bind fun r44=>((Ze3 n42.key n42.rec_ n42.left r44).bind fun r46=>(some r46))))else ((Zlh a2 a3).bind fun r48=>(if r48 then ((a2.un).bind fun n51=>((n51.right.un).bind fun n53=>((Ze3 n51.key n51.rec_ n51.left n53.left).bind fun r55=>((Ze3 a0 a1 n53.right a3).bind fun r57=>((Ze3 n53.key n53.rec_ r55 r57).bind fun r59=>(some r59))))))else ((Ze3 a0 a1 a2 a3).bind fun r61=>(some r61))))))))))))))))))
def Zhc:Nat→(shelf_nodeT)→Option (shelf_nodeT)
 | 0,_=>none
 | n+1,x1=>((x1.un).bind fun n2=>(if (!n2.left.isNil)then ((Zhc n) n2.left)else (some x1)))
def Zl5 (a0:shelf_nodeT):Option (shelf_nodeT):=((Zhc (a0.hh+1) a0).bind fun z6=>match z6 with | y5=>(some y5))
def Zol (self:shelf_nodeT→ByteArray→Option (shelf_nodeT)) (a0:shelf_nodeT) (a1:ByteArray):Option (shelf_nodeT):=(if a0.isNil then (some shelf_nodeT.nil)else ((a0.un).bind fun n2=>(if (sLt a1 n2.key)then ((self n2.left a1).bind fun r5=>((Zk7 n2.key n2.rec_ r5 n2.right).bind fun r7=>(some r7)))else (if (!(sLt a1 n2.key||sEq a1 n2.key))then ((self n2.right a1).bind fun r10=>((Zk7 n2.key n2.rec_ n2.left r10).bind fun r12=>(some r12)))else (if n2.left.isNil then (some n2.right)else (if n2.right.isNil then (some n2.left)else ((Zl5 n2.right).bind fun r16=>((r16.un).bind fun n18=>((self n2.right n18.key).bind fun r20=>((Zk7 n18.key n18.rec_ n2.left r20).bind fun r22=>(some r22)))))))))))
def Zie:Nat→shelf_nodeT→ByteArray→Option (shelf_nodeT)
 | 0=>fun _ _=>none
 | n+1=>Zol (Zie n)
def Zr8 (a0:shelf_nodeT) (a1:ByteArray):Option (shelf_nodeT):=Zie (a0.hh+1) a0 a1
def Zix (a0:Z4) (a1:ByteArray):Option (Z4×Bool):=((Zh6 a0 a1).bind fun r1=>(if (!r1.2)then (some (a0,false))else ((Zr8 a0.top a1).bind fun r4=>(some (({top:=r4,room:=a0.room}:Z4),true)))))
def Zks (a0:Z4):Option (Int):=((Zdp a0.top).bind fun r1=>(some r1))
def Zlt (self:shelf_nodeT→ByteArray→Zb→Option (shelf_nodeT)) (a0:shelf_nodeT) (a1:ByteArray) (a2:Zb):Option (shelf_nodeT):=(if a0.isNil then ((Ze3 a1 a2 shelf_nodeT.nil shelf_nodeT.nil).bind fun r2=>(some r2))else ((a0.un).bind fun n4=>(if (sLt a1 n4.key)then ((self n4.left a1 a2).bind fun r7=>((Zk7 n4.key n4.rec_ r7 n4.right).bind fun r9=>(some r9)))else (if (!(sLt a1 n4.key||sEq a1 n4.key))then ((self n4.right a1 a2).bind fun r12=>((Zk7 n4.key n4.rec_ n4.left r12).bind fun r14=>(some r14)))else ((Ze3 a1 a2 n4.left n4.right).bind fun r16=>(some r16))))))
def Zhp:Nat→shelf_nodeT→ByteArray→Zb→Option (shelf_nodeT)
 | 0=>fun _ _ _=>none
 | n+1=>Zlt (Zhp n)
def Zsh (a0:shelf_nodeT) (a1:ByteArray) (a2:Zb):Option (shelf_nodeT):=Zhp (a0.hh+1) a0 a1 a2
def Zgj (a0:Z4) (a1:ByteArray) (a2:Zb):Option (Z4×Int):=(if ((sEq a1 (⟨#[]⟩:ByteArray))||(decide ((24:Int)<(a1.size:Int))))then (some (a0,(1:Int)))else ((Zeg a2).bind fun r2=>(if (r2 !=(0:Int))then (some (a0,r2))else ((Zh6 a0 a1).bind fun r5=>((gd (!r5.2) (Zks a0)).bind fun r7=>(if ((!r5.2)&&(decide (a0.room≤r7)))then (some (a0,(8:Int)))else ((Zh4 a2).bind fun r10=>((Zsh a0.top a1 r10).bind fun r12=>(some (({top:=r12,room:=a0.room}:Z4),(0:Int)))))))))))
def Zuw (a0:Z4) (a1:Zw):Option (Z4×Zm):=((Zh6 a0 a1.Key).bind fun r1=>((Zon r1.1 r1.2 a1).bind fun r3=>((gd (!(r3.2.2.Code !=(0:Int))) (Zvv a1.Kind)).bind fun r5=>(if ((r3.2.2.Code !=(0:Int))||r5)then (some (a0,r3.2.2))else (if (!r3.2.1)then ((Zix a0 a1.Key).bind fun r9=>(some (r9.1,r3.2.2)))else ((Zgj a0 a1.Key r3.1).bind fun r11=>(if (r11.2 !=(0:Int))then (some (a0,({Code:=r11.2,Num:=(0:Int),Rec:=(default:Zb)}:Zm)))else (some (r11.1,r3.2.2)))))))))
def Zuu (a1:Zm):Option (Zm):=(some a1)
def Ztb (a0:Zw) (a1:Zm) (a2:Int):Option (Zm):=(if (a0.Must&&(a1.Code !=(0:Int)))then none else (Zuu a1))
def Zsj:Option (Ze1):=none
def Zqs (a0:Zw) (a1:Zm) (a2:Int):Option (Ze1):=(if (a0.Must&&(a1.Code !=(0:Int)))then (some ({code:=a1.Code,at_:=a2}:Ze1))else (Zsj))
def Zj4 (a0:Z4) (a1:Zbj):Nat→(Zbl)→(Z4)→(Int)→Option ((Z4×Zbl)⊕(Zbl×Z4))
 | 0,_,_,_=>none
 | n+1,x4,x5,x6=>(if (decide (x6<(a1.Acts.length:Int)))then ((idx a1.Acts x6).bind fun e8=>((Zuw x5 e8).bind fun r10=>(Z90 (Zqs e8 r10.2 (Zbxe.wrap (x6+(1:Int)))) (fun p12=>(some (.inl (a0,({Code:=p12.code,At:=p12.at_,Answers:=([]:List Zm)}:Zbl))))) ((Ztb e8 r10.2 (Zbxe.wrap (x6+(1:Int)))).bind fun r14=>(if (x4.Answers.length+([r14]:List Zm).length)*104≤140737488355328 then ((Zj4 a0 a1 n) ({x4 with Answers:=(x4.Answers++([r14]:List Zm))}:Zbl) r10.1 (Zbxe.wrap (x6+(1:Int))))else none)))))else (some (.inr (x4,x5))))
def Zuo (a0:Z4) (a1:Zbj):Option (Z4×Zbl):=((Zhw a1).bind fun r1=>(if (r1.1 !=(0:Int))then (some (a0,({Code:=r1.1,At:=r1.2,Answers:=([]:List Zm)}:Zbl)))else ((Zj4 a0 a1 (Zbxg ((a1.Acts.length:Int)-(0:Int))+1) (default:Zbl) a0 (0:Int)).bind fun z19=>match z19 with | .inl r=>some r | .inr (y17,y18)=>(some (y18,y17)))))
def Zli (a1:List Zbj):Nat→(Z4)→(List Zbl)→(Int)→Option (Z4×(List Zbl))
 | 0,_,_,_=>none
 | n+1,x1,x2,x3=>(if (decide (x3<(a1.length:Int)))then ((idx a1 x3).bind fun e5=>((Zuo x1 e5).bind fun r7=>(if (x2.length+([r7.2]:List Zbl).length)*40≤140737488355328 then ((Zli a1 n) r7.1 (x2++([r7.2]:List Zbl)) (Zbxe.wrap (x3+(1:Int))))else none)))else (some (x1,x2)))
def Zph (a0:Z4) (a1:List Zbj):Option (Z4×(List Zbl)):=((Zli a1 (Zbxg ((a1.length:Int)-(0:Int))+1) a0 ([]:List Zbl) (0:Int)).bind fun z12=>match z12 with | (y10,y11)=>(some (y10,y11)))
def Zk1 (x2:Zb) (kk:(Int)→(Zb)→(shelf_nodeT)→Option ((ByteArray×Zb×Bool)⊕(Zb))) (j13:Int) (j14:shelf_nodeT):Option ((ByteArray×Zb×Bool)⊕(Zb)):=(kk j13 x2 j14)
def Ze9:Nat→(Int)→(Zb)→(shelf_nodeT)→Option ((ByteArray×Zb×Bool)⊕(Zb))
 | 0,_,_,_=>none
 | n+1,x1,x2,x3=>(if (!x3.isNil)then ((x3.un).bind fun n5=>((Zdp n5.left).bind fun r7=>(if (decide (x1<r7))then (Zk1 x2 (Ze9 n) x1 n5.left)else (if (decide (r7<x1))then (Zk1 x2 (Ze9 n) (Zbxe.wrap (x1-(Zbxe.wrap (r7+(1:Int))))) n5.right)else ((Zh4 n5.rec_).bind fun r11=>(some (.inl (n5.key,r11,true))))))))else (some (.inr x2)))
def Znr (a0:Z4) (a1:Int):Option (ByteArray×Zb×Bool):=((Ze9 (a0.top.hh+1) a1 (default:Zb) a0.top).bind fun z16=>match z16 with | .inl r=>some r | .inr y15=>(some ((⟨#[]⟩:ByteArray),({Kind:=(0:Int),Num:=(0:Int),Low:=(0:Int),High:=(0:Int),Real:=(0:Nat),Cap:=(0:Int),Text:=ByteArray.empty,List:=([]:List Zn)}:Zb),false)))
def Zg8 (a0:Z4) (a1:Zk):Nat→(Int)→Option ((Int)⊕(Unit))
 | 0,_=>none
 | n+1,x6=>(if (decide (x6<(a1.L.length:Int)))then ((idx a1.L x6).bind fun e8=>((Znr a0 x6).bind fun r10=>((gd (!((!r10.2.2)||(!sEq r10.1 e8.Key))) (Zji r10.2.1 e8.Rec)).bind fun r12=>(if (((!r10.2.2)||(!sEq r10.1 e8.Key))||(!r12))then (some (.inl (0:Int)))else ((Zg8 a0 a1 n) (Zbxe.wrap (x6+(1:Int))))))))else (some (.inr ())))
def Zno (a0:Z4) (a1:Zk):Option (Int):=((Zks a0).bind fun r1=>((gd (!(r1 !=(a1.L.length:Int))) (Zjl a0)).bind fun r3=>(if ((r1 !=(a1.L.length:Int))||(r3 !=a1.Room))then (some (0:Int))else ((Zg8 a0 a1 (Zbxg ((a1.L.length:Int)-(0:Int))+1) (0:Int)).bind fun z15=>match z15 with | .inl r=>some r | .inr ()=>(some (1:Int))))))
def Ze6 (r52:(List Zbc)×Int×((Zdo×(Zb4×Ze)))):Nat→(Z4)→(Int)→Option (Z4)
 | 0,_,_=>none
 | n+1,x56,x57=>(if (decide (x57<(r52.1.length:Int)))then ((idx r52.1 x57).bind fun e59=>((Zph x56 e59.Deals).bind fun r61=>((Ze6 r52 n) r61.1 (Zbxe.wrap (x57+(1:Int))))))else (some x56))
def Zhj (x22:Int) (kk:(List Zk)→(Int)→(Int)→((Zdo×(Zb4×Ze)))→Option ((Bool)⊕((List Zk)×Int×(Zdo×(Zb4×Ze))))) (j43:List Zk) (j44:Int) (j45:(Zdo×(Zb4×Ze))):Option ((Bool)⊕((List Zk)×Int×(Zdo×(Zb4×Ze)))):=(kk j43 j44 (Zbxe.wrap (x22+(1:Int))) j45)
def Zgg (x21:Int) (x22:Int) (r32:Int×((Zdo×(Zb4×Ze)))) (kk:(List Zk)→(Int)→(Int)→((Zdo×(Zb4×Ze)))→Option ((Bool)⊕((List Zk)×Int×(Zdo×(Zb4×Ze))))) (j40:List Zk):Option ((Bool)⊕((List Zk)×Int×(Zdo×(Zb4×Ze)))):=(if (r32.1==(14:Int))then (some (.inr (j40,x21,r32.2)))else (if (r32.1==(0:Int))then (Zhj x22 kk j40 (Zbxe.wrap (x21+(1:Int))) r32.2)else (Zhj x22 kk j40 x21 r32.2)))
def Zcz (a1:List (List Zbj)):Nat→(List Zk)→(Int)→(Int)→((Zdo×(Zb4×Ze)))→Option ((Bool)⊕((List Zk)×Int×(Zdo×(Zb4×Ze))))
 | 0,_,_,_,_=>none
 | n+1,x20,x21,x22,x23=>(if (decide (x22<(a1.length:Int)))then ((idx a1 x22).bind fun e25=>((Zmi e25).bind fun r27=>(if (decide ((0:Int)<r27))then (some (.inl true))else ((Zrx x23).bind fun r30=>((Zm5 x23 ({Number:=r30,Deals:=e25}:Zbc)).bind fun r32=>(if ((r32.1==(0:Int))||(r32.1==(14:Int)))then ((idx x20 (Zbxe.wrap ((x20.length:Int)-(1:Int)))).bind fun e35=>((Ziw e35 e25).bind fun r37=>(if (x20.length+([r37.1]:List Zk).length)*32≤140737488355328 then (Zgg x21 x22 r32 (Zcz a1 n) (x20++([r37.1]:List Zk)))else none)))else (Zgg x21 x22 r32 (Zcz a1 n) x20)))))))else (some (.inr (x20,x21,x23))))
def Zmr (a0:Int) (a1:List (List Zbj)) (a2:Zel):Option (Bool):=((Zpy (2:Int)).bind fun r1=>((Zjl r1.1).bind fun r3=>((gd (!(r3 !=(2:Int))) (Zn8 (61:Int))).bind fun r5=>(if ((r3 !=(2:Int))||(r5 !=(2:Int)))then (some false)else ((gd (!(((decide (a0<(1:Int)))||(decide ((4096:Int)<a0)))||(decide ((10:Int)<(a1.length:Int))))) (Zmd a2)).bind fun r8=>(if ((((decide (a0<(1:Int)))||(decide ((4096:Int)<a0)))||(decide ((10:Int)<(a1.length:Int))))||r8)then (some true)else ((Zx1 (500:Int)).bind fun r11=>((Zq5 r11.2 ({From:=(0:Int),Len:=(500:Int)}:Zc5) (1:Int)).bind fun r14=>(if ((r14.2.1 !=(0:Int))||false)then (some false)else ((Zpb r14.2.2.2.2 a2.At).bind fun r18=>((Zcz a1 (Zbxg ((a1.length:Int)-(0:Int))+1) ([({L:=([]:List Zb2),Room:=a0}:Zk)]:List Zk) (0:Int) (0:Int) (r14.2.2.1,(r14.2.2.2.1,r18))).bind fun z49=>match z49 with | .inl r=>some r | .inr (y46,y47,y48)=>((Zkr y48.2.2 a2.Kept).bind fun r50=>((Zq5 ((y48.1,(y48.2.1,r50)).2.2) ({From:=(0:Int),Len:=(500:Int)}:Zc5) (1:Int)).bind fun r52=>((Zpy a0).bind fun r54=>((Ze6 r52 (Zbxg ((r52.1.length:Int)-(0:Int))+1) r54.1 (0:Int)).bind fun z64=>match z64 with | y63=>((gd (((r52.2.1==(0:Int))&&(decide (y47≤(r52.1.length:Int))))&&(decide ((r52.1.length:Int)<(y46.length:Int)))) (idx y46 (r52.1.length:Int))).bind fun e65=>((gd (((r52.2.1==(0:Int))&&(decide (y47≤(r52.1.length:Int))))&&(decide ((r52.1.length:Int)<(y46.length:Int)))) (Zno y63 e65)).bind fun r67=>(some ((((r52.2.1==(0:Int))&&(decide (y47≤(r52.1.length:Int))))&&(decide ((r52.1.length:Int)<(y46.length:Int))))&&(r67==(1:Int)))))))))))))))))))))
def Zv1 (x:Zn):Prop:=(x.Score<2^64)∧(x.Name.size≤maxLen)
def Zq2 (x:Zb):Prop:=((Zbxe).min≤x.Kind∧x.Kind≤(Zbxe).max)∧((Zbxe).min≤x.Num∧x.Num≤(Zbxe).max)∧((Zbxe).min≤x.Low∧x.Low≤(Zbxe).max)∧((Zbxe).min≤x.High∧x.High≤(Zbxe).max)∧(x.Real<2^64)∧((Zbxe).min≤x.Cap∧x.Cap≤(Zbxe).max)∧(x.Text.size≤maxLen)∧(x.List.length≤maxLen∧∀e0∈x.List,(Zv1 e0))
def Zts (x:Zel):Prop:=((Zbxe).min≤x.At∧x.At≤(Zbxe).max)∧(x.Kept.length≤maxLen∧∀e0∈x.Kept,((Zbxe).min≤e0∧e0≤(Zbxe).max))
def Zqk (x:Zw):Prop:=((Zbxe).min≤x.Kind∧x.Kind≤(Zbxe).max)∧(x.Key.size≤maxLen)∧((Zbxe).min≤x.N∧x.N≤(Zbxe).max)∧(x.X<2^64)∧(x.S.size≤maxLen)∧(Zq2 x.Make)∧True
def Zlg (x:Zbj):Prop:=(x.Acts.length≤maxLen∧∀e0∈x.Acts,(Zqk e0))
end Go.CL
