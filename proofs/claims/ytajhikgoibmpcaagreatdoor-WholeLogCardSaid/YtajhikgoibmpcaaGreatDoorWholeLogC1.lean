/- A part of the proof of WholeLog. -/
import GoSem.Core.World
import Derived.Orders
import Derived.Below
import Derived.KernelRfl
import Derived.Deep.LoopGhost
import Derived.Laws.Cells
import Derived.Laws.Entries
import Derived.Maps.AppendAt
import GoSem.Extern.MathFloatBits
import Derived.ProofKit
import Derived.LaidMore
import Derived.LaidHandle
import Derived.OpenShut
import Derived.FnData
import Derived.MakeChecks
import Derived.Laws.CopyRow
import Derived.Laws.Externs
import GoSem.Extern.SlicesOverlaps
set_option linter.unusedVariables false
set_option linter.unusedSimpArgs false
set_option maxRecDepth 100000
open List renaming mem_singleton→Zbtu,getElem?_eq_getElem→Zbtv,getElem?_eq_some_iff→Zbtw,getElem?_take→Zbty,getElem?_drop→Zbtz,getElem?_map→Zbt1,all_eq_true→Zbt2,getElem?_append→Zbt4,mem_cons→Zbt6,contains_iff_mem→Zbt8,eq_nil_of_length_eq_zero→Zbua,mem_map→Zbud,mem_range→Zbue,getElem?_eq_none→Zbuf,append_assoc→Zbug,mem_of_getElem?→Zbuh,drop_of_length_le→Zbui,replicate→Zbun,ext_getElem?→Zbuo,size_toArray→Zbup,range→Zbuq,append_nil→Zbur,getElem?_append_left→Zbus,length_take→Zbut,length_map→Zbuv,length_append→Zbux,mem_cons_of_mem→Zbuz,nil_append→Zbu1,length_cons→Zbu2,drop_take→Zbu5,take_take→Zbu6,getElem?_replicate→Zbu7,length_eq_one_iff→Zbu9,getElem?_toArray→Zbvd,map_cons→Zbvf,mem_filter→Zbvg,flatten_cons→Zbvk,length_drop→Zbvm,map_toArray→Zbvn,mem_append_right→Zbvo,drop_append_of_le_length→Zbvr,take_append_of_le_length→Zbvs,take_zero→Zbvv,drop_zero→Zbvw,drop_drop→Zbvx,getElem?_append_right→Zbv0,flatMap_cons→Zbv1,isEmpty_iff→Zbv4,drop_append→Zbv5,getElem?_cons_succ→Zbv8,mem_append→Zbv9,take_of_length_le→Zbwd,take_left→Zbwf,mem_append_left→Zbwh,getElem_of_mem→Zbwl,length_pos_iff→Zbwm,map_nil→Zbwo,getElem?_set→Zbwr,any_eq_true→Zbwt,filter_cons→Zbwv,mem_flatMap→Zbww,not_mem_nil→Zbwz,toArray→Zbxa
open Nat renaming mul_le_mul_right→Zbtx,add_mul→Zbt0,le_refl→Zbub,zero_add→Zbuc,le_mul_of_pos_right→Zbul,lt_of_lt_of_le→Zbuw,le_trans→Zbuy,min_eq_left→Zbu8,add_zero→Zbva,zero_mul→Zbvb,mul_comm→Zbvc,eq_zero_or_pos→Zbvi,lt_or_ge→Zbvp,div_add_mod→Zbvq,mul_lt_mul_of_pos_right→Zbvz,mod_lt→Zbv2,lt_succ_self→Zbv6,min_le_right→Zbv7,two_pow_pos→Zbwa,zero_le→Zbwe,mul_lt_mul_right→Zbwi,lt_irrefl→Zbwj,mul_assoc→Zbwk,ne_of_lt→Zbwn,sub_add_cancel→Zbwp,min→Zbwq,lt_trichotomy→Zbws,lt_of_not_le→Zbwx,le_add_right→Zbw0,min_le_left→Zbw3,mul_ne_zero→Zbw5,mul_eq_zero→Zbw6,zero_lt_one→Zbw7,add_assoc→Zbw9,add_comm→Zbxb,sub_zero→Zbxc
open Option renaming map_eq_some_iff→Zbt3,some→Zbt7,bind_eq_some_iff→Zbuk,map_some→Zbvh,bind_some→Zbv3,getD_some→Zbwu
open Bool renaming and_eq_true→Zbt5,or_eq_true→Zbu0,not_eq_true'→Zbu4,false_eq_true→Zbvy,or_eq_false_iff→Zbwg,false_or→Zbw8
open Array renaming getD_eq_getD_getElem?→Zbt9,getElem?_eq_getElem→Zbuj,getElem?_eq_some_iff→Zbum,replicate→Zbuu,getElem?_append→Zbve,size_append→Zbvj,all_eq_true_iff_forall_mem→Zbvl,length_toList→Zbvt,toList_append→Zbvu,getElem?_eq_none→Zbwb,ext'→Zbw1,size_push→Zbw2,range→Zbxd
open Prod renaming mk→Zbu3
open Go.IntKind renaming i64→Zbwc,wrap_i64→Zbwy
open Int renaming natCast_mul→Zbw4
namespace Go.CL
open Go
def GL:List (Nat × List Value):=[(0,[.string ⟨#[]⟩,.int .i64 (0),.string ⟨#[]⟩,.string ⟨#[110,101,119]⟩,.int .i64 (0),.string ⟨#[109]⟩,.string ⟨#[100,114,111,112]⟩,.int .i64 (0),.string ⟨#[]⟩,.string ⟨#[105,115]⟩,.int .i64 (0),.string ⟨#[]⟩,.string ⟨#[108,111,111,107]⟩,.int .i64 (0),.string ⟨#[]⟩,.string ⟨#[112,117,116]⟩,.int .i64 (1),.string ⟨#[115]⟩,.string ⟨#[115,119,97,112]⟩,.int .i64 (1),.string ⟨#[115]⟩,.string ⟨#[97,100,100]⟩,.int .i64 (2),.string ⟨#[110]⟩,.string ⟨#[112,108,117,115]⟩,.int .i64 (3),.string ⟨#[110]⟩,.string ⟨#[114,101,97,99,104]⟩,.int .i64 (3),.string ⟨#[110]⟩,.string ⟨#[105,110]⟩,.int .i64 (4),.string ⟨#[110]⟩,.string ⟨#[111,117,116]⟩,.int .i64 (4),.string ⟨#[110]⟩,.string ⟨#[101,110,111,117,103,104]⟩,.int .i64 (4),.string ⟨#[110]⟩,.string ⟨#[114,97,105,115,101]⟩,.int .i64 (5),.string ⟨#[120]⟩,.string ⟨#[108,111,119,101,114]⟩,.int .i64 (6),.string ⟨#[120]⟩,.string ⟨#[115,104,105,102,116]⟩,.int .i64 (7),.string ⟨#[120]⟩,.string ⟨#[115,99,97,108,101]⟩,.int .i64 (7),.string ⟨#[120]⟩,.string ⟨#[102,105,120]⟩,.int .i64 (7),.string ⟨#[120]⟩,.string ⟨#[106,111,105,110]⟩,.int .i64 (8),.string ⟨#[115]⟩,.string ⟨#[108,101,97,118,101]⟩,.int .i64 (8),.string ⟨#[115]⟩,.string ⟨#[104,97,115]⟩,.int .i64 (8),.string ⟨#[115]⟩,.string ⟨#[111,102,102,101,114]⟩,.int .i64 (9),.string ⟨#[120,115]⟩])]
end Go.CL
namespace Go.CL
abbrev Lr:=Zbuq
open Go Go.RowKit
def GLok (w:World) (pr:Nat→Nat→Prop):Prop:=∀e∈GL,∀i v,e.2[i]?=some v→pr e.1 i∧w.cell? ⟨e.1,i,none⟩=some v
theorem GLok.le {w w':World} {pr pr':Nat→Nat→Prop} (h:GLok w pr) (k:∀b o,pr b o→pr' b o) (m:∀b o,pr b o→w'.cell? ⟨b,o,none⟩=w.cell? ⟨b,o,none⟩):GLok w' pr':=fun e n i v p=>by
 obtain⟨k1,k2⟩:=h e n i v p
 exact⟨k _ _ k1,(m _ _ k1).trans k2⟩
structure G where
 w:World
 pr:Nat→Nat→Prop
 own:Nat→Nat
 hpr:∀b o,pr b o→b<w.heap.size
 gl:GLok w pr
structure G.le (g g':G):Prop where
 size:g.w.heap.size≤g'.w.heap.size
 pr:∀b o,g.pr b o→g'.pr b o
 cell:∀b o,g.pr b o→g'.w.cell? ⟨b,o,none⟩=g.w.cell? ⟨b,o,none⟩
 blk:∀b,(∀o,g.pr b o)→g'.w.heap[b]?=g.w.heap[b]?
 dr:g.w.drawn≤g'.w.drawn
theorem G.le.refl (g:G):g.le g:=⟨Nat.le_refl _,fun _ _ h=>h,fun _ _ _=>rfl,fun _ _=>rfl,Zbub _⟩
theorem G.le.trans {a b c:G} (h:a.le b) (k:b.le c):a.le c :=
 ⟨Nat.le_trans h.size k.size,fun x o m=>k.pr x o (h.pr x o m),fun x o m=>(k.cell x o (h.pr x o m)).trans (h.cell x o m),fun x m=>(k.blk x (fun o=>h.pr x o (m o))).trans (h.blk x m),Zbuy h.dr k.dr⟩
structure Step (S:List Nat) (g g':G):Prop where
 le:g.le g'
 os:g'.w.os=g.w.os
 tape:g'.w.tape=g.w.tape
 output:g'.w.output=g.w.output
 same:∀b,b<g.w.heap.size→g.own b∉S→g'.w.heap[b]?=g.w.heap[b]?∧g'.pr b=g.pr b∧g'.own b=g.own b
 new:∀b,g.w.heap.size≤b→b<g'.w.heap.size→g'.own b=0∨g'.own b∈S
 old:∀b,b<g.w.heap.size→g.own b∈S→g'.own b=0∨g'.own b∈S
theorem Step.refl (S:List Nat) (g:G):Step S g g:=⟨.refl g,rfl,rfl,rfl,fun _ _ _=>⟨rfl,rfl,rfl⟩,fun _ h k=>absurd (Zbuw k h) (Zbwj _),fun _ _ h=>.inr h⟩
theorem Step.trans {S:List Nat} {a b c:G} (h:Step S a b) (k:Step S b c):Step S a c :=
 ⟨h.le.trans k.le,k.os.trans h.os,k.tape.trans h.tape,k.output.trans h.output,fun x p r=>by
   obtain⟨n,t,s⟩:=h.same x p r
   obtain⟨k1,k2,k3⟩:=k.same x (Zbuw p h.le.size) (by rw[s];exact r)
   exact⟨k1.trans n,k2.trans t,k3.trans s⟩,
  fun x p u=>by
   rcases Zbvp x b.w.heap.size with m | m
   · rcases h.new x p m with n | n
     · by_cases q:b.own x ∈ S
       · exact k.old x m q
       · exact .inl ((k.same x m q).2.2.trans n)
     · exact k.old x m n
   · exact k.new x m u,
  fun x p r=>by
   have m:=Zbuw p h.le.size
   rcases h.old x p r with n | n
   · by_cases q:b.own x ∈ S
     · exact k.old x m q
     · exact .inl ((k.same x m q).2.2.trans n)
   · exact k.old x m n⟩
theorem Step.sub {S T:List Nat} {g g':G} (h:Step S g g') (hs:∀x∈S,x∈T):Step T g g' :=
 ⟨h.le,h.os,h.tape,h.output,fun b k m=>h.same b k (fun p=>m (hs _ p)),fun b q r=>(h.new b q r).imp_right (hs _),fun b k m=>by
   by_cases n:g.own b∈S
   · exact (h.old b k n).imp_right (hs _)
   · right;rw[(h.same b k n).2.2];exact m⟩
def G.drew (g:G):G:=⟨{g.w with drawn:=g.w.drawn+1},g.pr,g.own,g.hpr,g.gl.le (fun _ _ h=>h) (fun _ _ _=>rfl)⟩
theorem Step.drew (g:G):Step [] g g.drew:=⟨⟨Nat.le_refl _,fun _ _ h=>h,fun _ _ _=>rfl,fun _ _=>rfl,Nat.le_succ _⟩,rfl,rfl,rfl,fun _ _ _=>⟨rfl,rfl,rfl⟩,fun _ h k=>absurd (Zbuw k h) (Zbwj _),fun _ _ h=>.inr h⟩
structure Base (g0 g:G):Prop where
 le:g0.le g
 os:g.w.os=g0.w.os
 tape:g.w.tape=g0.w.tape
 output:g.w.output=g0.w.output
 same:∀b,b<g0.w.heap.size→g0.own b=0→g.w.heap[b]?=g0.w.heap[b]?∧g.pr b=g0.pr b∧g.own b=0
theorem Base.step {S:List Nat} {g0 g g':G} (h:Base g0 g) (k:Step S g g') (p:0∉S):Base g0 g' :=
 ⟨h.le.trans k.le,k.os.trans h.os,k.tape.trans h.tape,k.output.trans h.output,fun b m q=>by
   obtain⟨r,s,n⟩:=h.same b m q
   obtain⟨k1,k2,k3⟩:=k.same b (Zbuw m h.le.size) (by rw[n];exact p)
   exact⟨k1.trans r,k2.trans s,k3.trans n⟩⟩
structure Pd where
 p:G→Value→Prop
 fp:List Nat
 st:∀{S:List Nat} {g g':G} {v:Value},Step S g g'→(∀j∈fp,j∉S)→p g v→p g' v
def pAny:Pd:=⟨fun _ _=>True,[],fun _ _ h=>h⟩
def pIf (c:Bool) (q:Pd):Pd:=⟨fun g v=>(c=true→q.p g v)∧(c=false→v=undef),q.fp,fun s d h=>⟨fun k=>q.st s d (h.1 k),h.2⟩⟩
abbrev Z8:=List (Nat×Pd)
def Act.at (a:Act) (n:Nat):Value:=a.tmps.getD n undef
def Ze4 (L:Z8) (a:Act) (g:G):Prop:=∀e∈L,e.2.p g (Act.at a e.1)
structure StD (D:List Deferred) (N:Nat) (L:Z8) (a:Act) (g:G):Prop where
 size:a.tmps.size=N
 df:a.defers=D
 h:Ze4 L a g
abbrev St (N:Nat) (L:Z8) (a:Act) (g:G):Prop:=StD [] N L a g
theorem Zu7 (a:Act) (d:Option Tmp) (v:Value):(a.put d v).tmps.size=a.tmps.size:=by cases d <;> simp[Act.put]
theorem Zrm (a:Act) (d:Option Tmp) (v:Value):(a.put d v).defers=a.defers:=by cases d <;> rfl
theorem Zdn {a:Act} {d:Nat} (v:Value) (h:d<a.tmps.size):Act.at (a.put (some d) v) d=v:=by
 simp[Act.at,Act.put,h]
theorem Zlf {a:Act} {d:Option Nat} (v:Value) {n:Nat} (h:d≠some n):Act.at (a.put d v) n=Act.at a n:=by
 cases d with
 | none=>rfl
 | some d =>
   have:d≠n:=fun e=>h (by rw[e])
   simp[Act.at,Act.put,Array.getElem?_setIfInBounds_ne this]
def OB (P:Program) (N:Nat) (o:Oper) (uses outs:Z8) (S:List Nat):Prop :=
 ∀ (a:Act) (g:G) (K:Act → World → Prop) (Q:Exit → Act → World → Prop),a.tmps.size=N → (∀ t,o.dst=some t → t < N) → Ze4 uses a g →
   (∀v g',Step S g g'→(∀e∈outs,e.2.p g' (Act.at (a.put o.dst v) e.1))→K (a.put o.dst v) g'.w)→o.wp P a g.w K Q
def OT (P:Program) (ops:Array Oper) (N:Nat) (o:Oper) (uses outs:Z8) (S:List Nat):Prop :=
 ∀ (a:Act) (g:G) (K:Act → World → Prop) (Q:Exit → Act → World → Prop),a.tmps.size=N → (∀ t,o.dst=some t → t < N) → Ze4 uses a g →
   (∀v g',Step S g g'→(∀e∈outs,e.2.p g' (Act.at (a.put o.dst v) e.1))→K (a.put o.dst v) g'.w) →
   if Region.wanted o (yielded ops a.tmps)then o.wp P a g.w K Q else K (a.put o.dst undef) g.w
theorem OT.plain {P:Program} {ops:Array Oper} {N:Nat} {o:Oper} {uses outs:Z8} {S:List Nat} (hg:o.guard=none) (h:OB P N o uses outs S):OT P ops N o uses outs S:=by
 intro a g K Q k m n p
 have:Region.wanted o (yielded ops a.tmps)=true:=by simp[Region.wanted,hg]
 rw[if_pos this]
 exact h a g K Q k m n p
theorem Zt1 {ops:Array Oper} {a:Act} {j d:Nat} {c:Bool} (h:(ops[j]?).bind (·.dst)=some d):yielded ops a.tmps j=some c↔Act.at a d=.bool c:=by
 unfold yielded Act.at
 rw[h,Zbt9]
 simp only[Zbv3]
 cases hx:a.tmps[d]? with
 | none=>simp[undef]
 | some v=>cases v <;> simp
theorem OT.guard {P:Program} {ops:Array Oper} {N:Nat} {o:Oper} {uses outs:Z8} {S:List Nat} {j d:Nat} {want:Bool} (G:Bool) {q:Pd} (c:G=true→∀g v,q.p g v→v=.bool want) (f:G=false→∀g v,q.p g v→v≠.bool want) (hg:o.guard=some (j,want)) (s:(ops[j]?).bind (·.dst)=some d)
   (t:∀e∈outs,o.dst=some e.1) (h:G=true→OB P N o uses outs S):OT P ops N o ((d,q)::uses) (outs.map fun e=>(e.1,pIf G e.2)) S:=by
 intro a g K Q u w x y
 have z:=x (d,q) (by simp)
 cases m:G with
 | true =>
   have:Region.wanted o (yielded ops a.tmps)=true:=by simp[Region.wanted,hg,(Zt1 s).2 (c m _ _ z)]
   rw[if_pos this]
   refine h m a g K Q u w (fun e n=>x e (Zbuz _ n)) fun v g' hs b=>y v g' hs ?_
   intro e n
   obtain⟨e',k,rfl⟩:=Zbud.1 n
   exact⟨fun _=>b e' k,fun r=>(by rw[m]at r;cases r)⟩
 | false =>
   have:Region.wanted o (yielded ops a.tmps)=false:=by
     simp only[Region.wanted,hg,beq_eq_false_iff_ne,ne_eq]
     exact fun h=>f m _ _ z ((Zt1 s).1 h)
   rw[this]
   refine y undef g (.refl _ _) ?_
   intro e n
   obtain⟨e',k,rfl⟩:=Zbud.1 n
   refine⟨fun r=>(by rw[m]at r;cases r),fun _=>?_⟩
   rw[t e' k]
   exact Zdn _ (by rw[u];exact w _ (t e' k))
inductive Ref where
 | old (p:Nat)
 | op (j k:Nat)
abbrev Ref.o:=Ref.old
abbrev Ref.p:=Ref.op
structure Spec where
 refs:List Ref
 outs:Z8
 S:List Nat
 bef:List Nat
 tn:List Nat
def Zt3 (T:List Spec) (j k:Nat):Nat×Pd:=(((T[j]?).map (·.outs)).getD []).getD k (0,pAny)
def Zhg (L:Z8) (T:List Spec):Ref→Nat×Pd
 | .old p=>L.getD p (0,pAny)
 | .op j k=>Zt3 T j k
def Zpa (T:List Spec) (j:Nat):List Nat:=((T[j]?).map (·.bef)).getD []
def tnOf (T:List Spec) (j:Nat):List Nat:=((T[j]?).map (·.tn)).getD []
def Ztf (T:List Spec) (j:Nat):Z8:=((T[j]?).map (·.outs)).getD []
def Zs2 (o:Oper):List Nat:=(o.after.toList.filter (Region.binds .any ·)).map (·.on)
def disj (x y:List Nat):Bool:=x.all fun j=>!y.contains j
def Z24 (N n:Nat) (L:Z8) (T:List Spec) (o:Oper) (x:Nat) (X:Spec):Bool :=
 let d:=Zs2 o
 d.all (·<x) &&
 X.bef.all (fun j=>d.contains j||d.any fun m=>(Zpa T m).contains j) &&
 (match o.dst with | some t=>X.tn.contains t&&decide (t<N) | none=>true) &&
 X.outs.all (fun e=>X.tn.contains e.1) &&
 !X.S.contains 0 &&
 (X.S.isEmpty||(L.all fun e=>X.tn.contains e.1||disj e.2.fp X.S)) &&
 (Zbuq n).all (fun i=>i==x||((X.S.isEmpty||(Zpa T i).contains x||((Ztf T i).all fun e=>X.tn.contains e.1||disj e.2.fp X.S)) &&
   (disj ((Ztf T i).map (·.1)) X.tn||X.bef.contains i||(Zpa T i).contains x))) &&
 X.refs.all (fun r=>match r with
   | .old p=>decide (p<L.length)&&(Zbuq n).all fun y=>y==x||!(tnOf T y).contains (L.getD p (0,pAny)).1||(Zpa T y).contains x
   | .op j k=>X.bef.contains j&&decide (k<(Ztf T j).length)&&(Zbuq n).all fun y=>y==x||y==j||!(tnOf T y).contains (Zt3 T j k).1||!(Zpa T y).contains j||(Zpa T y).contains x)
def Zbq1 (n:Nat) (L:Z8) (T:List Spec) (F:List Ref):Bool :=
 F.all fun r=>match r with
   | .old p=>decide (p<L.length)&&(Zbuq n).all fun y=>!(tnOf T y).contains (L.getD p (0,pAny)).1
   | .op j k=>decide (j<n)&&decide (k<(Ztf T j).length)&&(Zbuq n).all fun y=>y==j||!(tnOf T y).contains (Zt3 T j k).1||!(Zpa T y).contains j
def Zu5 (N n:Nat) (L:Z8) (T:List Spec):List Oper→List Spec→Nat→Bool
 | o::os,X::Xs,x=>Z24 N n L T o x X&&Zu5 N n L T os Xs (x+1)
 | [],[],_=>true
 | _,_,_=>false
def chk (N:Nat) (ops:Array Oper) (L:Z8) (T:List Spec) (F:List Ref):Bool :=
 ops.size==T.length&&Zu5 N ops.size L T ops.toList T 0&&Zbq1 ops.size L T F
def AllOT (P:Program) (ops:Array Oper) (N:Nat) (L:Z8) (T:List Spec):List Oper→List Spec→Prop
 | o::os,X::Xs=>OT P ops N o (X.refs.map (Zhg L T)) X.outs X.S∧AllOT P ops N L T os Xs
 | _,_=>True
def OTQ (P:Program) (ops:Array Oper) (N:Nat) (o:Oper) (uses outs:Z8) (S:List Nat) (D:List Deferred) (g0:G) (Q:Exit→Act→World→Prop):Prop :=
 ∀ (a:Act) (g:G) (K:Act → World → Prop),a.tmps.size=N → a.defers=D → Base g0 g → (∀ t,o.dst=some t → t < N) → Ze4 uses a g →
   (∀v g',Step S g g'→(∀e∈outs,e.2.p g' (Act.at (a.put o.dst v) e.1))→K (a.put o.dst v) g'.w) →
   if Region.wanted o (yielded ops a.tmps)then o.wp P a g.w K Q else K (a.put o.dst undef) g.w
def Znp (P:Program) (ops:Array Oper) (N:Nat) (L:Z8) (T:List Spec) (D:List Deferred) (g0:G) (Q:Exit→Act→World→Prop):List Oper→List Spec→Prop
 | o::os,X::Xs=>OTQ P ops N o (X.refs.map (Zhg L T)) X.outs X.S D g0 Q∧Znp P ops N L T D g0 Q os Xs
 | _,_=>True
theorem OT.q {P:Program} {ops:Array Oper} {N:Nat} {o:Oper} {uses outs:Z8} {S:List Nat} {D:List Deferred} {g0:G} {Q:Exit→Act→World→Prop} (h:OT P ops N o uses outs S):OTQ P ops N o uses outs S D g0 Q :=
 fun a g K k _ _ m n p=>h a g K Q k m n p
theorem AllOT.q {P:Program} {ops:Array Oper} {N:Nat} {L:Z8} {T:List Spec} {D:List Deferred} {g0:G} {Q:Exit→Act→World→Prop}:∀{os:List Oper} {Xs:List Spec},AllOT P ops N L T os Xs→Znp P ops N L T D g0 Q os Xs
 | _::_,_::_,h=>⟨h.1.q,AllOT.q h.2⟩
 | [],_,_=>trivial
 | _::_,[],_=>trivial
section
variable {P:Program} {N:Nat} {ops:Array Oper} {L:Z8} {T:List Spec} {D:List Deferred}
theorem Zy2 {n:Nat}:∀{os:List Oper} {Xs:List Spec} {x i:Nat} {o:Oper} {X:Spec},Zu5 N n L T os Xs x=true→os[i]?=some o→Xs[i]?=some X→Z24 N n L T o (x+i) X=true
 | o :: os,X :: Xs,x,0,o',X',h,k,m=>by
   simp at k m;subst k;subst m
   simp only[Zu5,Zbt5]at h
   exact h.1
 | o :: os,X :: Xs,x,i + 1,o',X',h,k,m=>by
   simp only[Zu5,Zbt5]at h
   have:=Zy2 (x:=x+1) (i:=i) h.2 (by simpa using k) (by simpa using m)
   rwa [show x+1+i=x+(i+1) by omega]at this
 | [],[],_,_,_,_,_,k,_=>by simp at k
 | [],_::_,_,_,_,_,h,_,_=>by simp[Zu5]at h
 | _::_,[],_,_,_,_,h,_,_=>by simp[Zu5]at h
theorem Z9z {g0:G} {Q:Exit→Act→World→Prop}:∀{os:List Oper} {Xs:List Spec} {i:Nat} {o:Oper} {X:Spec},Znp P ops N L T D g0 Q os Xs→os[i]?=some o→Xs[i]?=some X→OTQ P ops N o (X.refs.map (Zhg L T)) X.outs X.S D g0 Q
 | o :: os,X :: Xs,0,o',X',h,k,m=>by
   simp at k m;subst k;subst m
   exact h.1
 | o::os,X::Xs,i+1,o',X',h,k,m=>Z9z (i:=i) h.2 (by simpa using k) (by simpa using m)
 | [],_,_,_,_,_,k,_=>by simp at k
 | _::_,[],_,_,_,_,_,m=>by simp at m
structure Inv (D:List Deferred) (N:Nat) (L:Z8) (T:List Spec) (g0:G) (done:Nat→Bool) (a:Act) (g:G):Prop where
 size:a.tmps.size=N
 df:a.defers=D
 base:Base g0 g
 closed:∀i,done i=true→∀j∈Zpa T i,done j=true
 old:∀e∈L,(∀x,e.1∈tnOf T x→done x=false)→e.2.p g (Act.at a e.1)
 new:∀i,done i=true→∀e∈Ztf T i,(∀x,e.1∈tnOf T x→x≠i→i∈Zpa T x→done x=false)→e.2.p g (Act.at a e.1)
theorem Zyt {x y:List Nat} (h:disj x y=true):∀j∈x,j∉y:=by
 intro j k
 have:=Zbt2.1 h j k
 simpa using this
theorem Zwz {L:Z8} {p:Nat} (h:p<L.length):L.getD p (0,pAny)∈L:=by
 rw[List.getD_eq_getElem?_getD,Zbtv h]
 exact List.getElem_mem h
theorem Z8d {F:List Ref} (hc:chk N ops L T F=true) {g0:G} {Q:Exit→Act→World→Prop} (hT:Znp P ops N L T D g0 Q ops.toList T) {done:Nat→Bool} {a:Act} {g:G} {K:Act→World→Prop} (n:Inv D N L T g0 done a g)
   {x:Nat} {o:Oper} (ho:ops[x]?=some o) (d:done x=false) (J:∀j∈Zs2 o,done j=true) (f:∀i,ops.size≤i→done i=false)
   (hK:∀a' g',Inv D N L T g0 (fun i=>i==x||done i) a' g'→K a' g'.w):wpOp P ops Q x K a g.w:=by
 have hx:x<ops.size:=(Zbum.1 ho).1
 simp only[chk,Zbt5,beq_iff_eq]at hc
 obtain⟨⟨o',e'⟩,p'⟩:=hc
 have i':x<T.length:=by omega
 obtain⟨X,M⟩:∃X,T[x]?=some X:=⟨T[x],Zbtv i'⟩
 have d':ops.toList[x]?=some o:=by simpa using ho
 have l:=Zy2 (x:=0) e' d' M
 rw[Zbuc]at l
 simp only[Z24,Zbt5]at l
 obtain⟨⟨⟨⟨⟨⟨⟨c1,c2⟩,c3⟩,c4⟩,c5⟩,c6⟩,c7⟩,c8⟩:=l
 have E:Zpa T x=X.bef:=by simp[Zpa,M]
 have O:tnOf T x=X.tn:=by simp[tnOf,M]
 have f':Ztf T x=X.outs:=by simp[Ztf,M]
 have R:∀j∈X.bef,done j=true:=by
   intro j q
   have:=Zbt2.1 c2 j q
   simp only[Zbu0,Zbwt,Zbt8]at this
   rcases this with h | ⟨m,hm,h⟩
   · exact J j h
   · exact n.closed m (J m hm) j h
 have H:∀y,done y=true→x∉Zpa T y:=fun y u U=>by
   have:=n.closed y u x U
   rw[d]at this;cases this
 have Z:0∉X.S:=by simpa using c5
 have j':=Z9z hT d' M
 have b':Ze4 (X.refs.map (Zhg L T)) a g:=by
   intro e s
   obtain⟨r,hr,rfl⟩:=Zbud.1 s
   have A:=Zbt2.1 c8 r hr
   cases r with
   | old p =>
     simp only[Zbt5,decide_eq_true_eq,Zbt2,Zbue,Zbu0,beq_iff_eq,Zbu4,Zbt8]at A
     refine n.old _ (Zwz A.1) fun y u=>?_
     by_cases V:y<ops.size
     · rcases A.2 y V with (h | h) | h
       · rw[h];exact d
       · rw[show (tnOf T y).contains (L.getD p (0,pAny)).1=true from Zbt8.2 u]at h;cases h
       · cases B:done y with
         | false=>rfl
         | true=>exact absurd h (H y B)
     · exact f y (by omega)
   | op j k =>
     simp only[Zbt5,decide_eq_true_eq,Zbt2,Zbue,Zbu0,beq_iff_eq,Zbu4,Zbt8]at A
     have q:=R j A.1.1
     have h':Zt3 T j k∈Ztf T j:=Zwz A.1.2
     refine n.new j q _ h' fun y u k' U=>?_
     by_cases V:y<ops.size
     · rcases A.2 y V with (((h | h) | h) | h) | h
       · rw[h];exact d
       · exact absurd h k'
       · rw[show (tnOf T y).contains (Zt3 T j k).1=true from Zbt8.2 u]at h;cases h
       · rw[show (Zpa T y).contains j=true from Zbt8.2 U]at h;cases h
       · cases B:done y with
         | false=>rfl
         | true=>exact absurd h (H y B)
     · exact f y (by omega)
 have l':∀t,o.dst=some t→t<N:=fun t ht=>by
   rw[ht]at c3
   simp only[Zbt5,decide_eq_true_eq]at c3
   exact c3.2
 have key:=j' a g K n.size n.df n.base l' b' (fun v g' hs c'=>by
   refine hK _ g' ⟨(Zu7 ..).trans n.size,(Zrm ..).trans n.df,n.base.step hs Z,?_,?_,?_⟩
   · intro i C j q
     simp only[Zbu0,beq_iff_eq]at C⊢
     rcases C with rfl | C
     · rw [E] at q
       exact .inr (R j q)
     · exact .inr (n.closed i C j q)
   · intro e s z
     have b:e.1∉X.tn:=fun h=>by
       have:=z x (by rw[O];exact h)
       simp at this
     have B:o.dst≠some e.1:=fun h=>by
       rw[h]at c3
       simp only[Zbt5,Zbt8]at c3
       exact b c3.1
     rw[Zlf v B]
     refine e.2.st hs ?_ (n.old e s fun y u=>?_)
     · simp only [Zbu0,Zbt2,Zbv4,Zbt8] at c6
       rcases c6 with h | h
       · rw[h];intro j _ q;cases q
       · rcases h e s with h | h
         · exact absurd h b
         · exact Zyt h
     · have:=z y u
       simp only[Zbwg]at this
       exact this.2
   · intro i C e s z
     by_cases I:i=x
     · subst I
       rw[f']at s
       exact c' e s
     · have c:done i=true:=by
         simp only[Zbu0,beq_iff_eq]at C
         exact C.resolve_left I
       have m':i<ops.size:=by
         rcases Zbvp i ops.size with h | h
         · exact h
         · rw[f i h]at c;cases c
       have W:=Zbt2.1 c7 i (Zbue.2 m')
       simp only[Zbu0,Zbt5,beq_iff_eq,Zbt2,Zbv4,Zbt8]at W
       have W:=W.resolve_left I
       have b:e.1∉X.tn:=fun h=>by
         rcases W.2 with (Y | Y) | Y
         · exact Zyt Y e.1 (Zbud.2 ⟨e,s,rfl⟩) h
         · have:=z x (by rw [O];exact h) (Ne.symm I) (by rw [E];exact Y)
           simp at this
         · exact H i c Y
       have B:o.dst≠some e.1:=fun h=>by
         rw[h]at c3
         simp only[Zbt5,Zbt8]at c3
         exact b c3.1
       rw[Zlf v B]
       refine e.2.st hs ?_ (n.new i c e s fun y u n' U=>?_)
       · rcases W.1 with (h | h) | h
         · rw[h];intro j _ q;cases q
         · exact absurd h (H i c)
         · rcases h e s with h | h
           · exact absurd h b
           · exact Zyt h
       · have:=z y u n' U
         simp only[Zbwg]at this
         exact this.2)
 unfold wpOp
 simp only[ho]
 split
 · rename_i hw
   rw[if_pos hw]at key
   exact .inl key
 · rename_i hw
   rw[if_neg hw]at key
   exact key
theorem Z5p {F:List Ref} (v:chk N ops L T F=true) {g0:G} {done:Nat→Bool} {a:Act} {g:G} (q:Inv D N L T g0 done a g) (s:∀i,i<ops.size→done i=true) (m:∀i,ops.size≤i→done i=false) :
   StD D N (F.map (Zhg L T)) a g:=by
 simp only[chk,Zbt5,beq_iff_eq]at v
 obtain⟨⟨x,_⟩,t⟩:=v
 refine⟨q.size,q.df,?_⟩
 intro e z
 obtain⟨r,b,rfl⟩:=Zbud.1 z
 have h:=Zbt2.1 t r b
 cases r with
 | old p =>
   simp only[Zbt5,decide_eq_true_eq,Zbt2,Zbue,Zbu4]at h
   refine q.old _ (Zwz h.1) fun y u=>?_
   by_cases n:y<ops.size
   · have:=h.2 y n
     rw[show (tnOf T y).contains (L.getD p (0,pAny)).1=true from Zbt8.2 u]at this;cases this
   · exact m y (by omega)
 | op j k =>
   simp only[Zbt5,decide_eq_true_eq,Zbt2,Zbue,Zbu0,beq_iff_eq,Zbu4]at h
   refine q.new j (s j h.1.1) _ (Zwz h.1.2) fun y u w c=>?_
   by_cases n:y<ops.size
   · rcases h.2 y n with (h | h) | h
     · exact absurd h w
     · rw[show (tnOf T y).contains (Zt3 T j k).1=true from Zbt8.2 u]at h;cases h
     · rw[show (Zpa T y).contains j=true from Zbt8.2 c]at h;cases h
   · exact m y (by omega)
theorem Z6c {F:List Ref} (m:chk N ops L T F=true) {x:Nat} {o:Oper} (n:ops[x]?=some o):∀j∈Zs2 o,j<x:=by
 have hx:x<ops.size:=(Zbum.1 n).1
 simp only[chk,Zbt5,beq_iff_eq]at m
 obtain⟨⟨q,k⟩,r⟩:=m
 have p:x<T.length:=by omega
 obtain⟨X,s⟩:∃X,T[x]?=some X:=⟨T[x],Zbtv p⟩
 have h:=Zy2 (x:=0) k (by simpa using n) s
 rw[Zbuc]at h
 simp only[Z24,Zbt5]at h
 intro j t
 have:=Zbt2.1 h.1.1.1.1.1.1.1 j t
 simpa using this
theorem Z6n {g0:G} {a:Act} {g:G} (h:StD D N L a g) (k:Base g0 g):Inv D N L T g0 (fun _=>false) a g :=
 ⟨h.size,h.df,k,fun _ h=>by simp at h,fun e m _=>h.h e m,fun _ h=>by simp at h⟩
theorem Zbe4 {F:List Ref} (d:chk N ops L T F=true) {g0:G} {Q:Exit→Act→World→Prop} (Y:Znp P ops N L T D g0 Q ops.toList T)
   (O:∀a g,StD D N (F.map (Zhg L T)) a g→Base g0 g→Q .normal a g.w) :
   ∀ (fuel:Nat) (listed:Array Bool) (a:Act) (g:G),listed.size=ops.size → Inv D N L T g0 (fun i=>listed.getD i false) a g → (∀ i,i < ops.size → listed.getD i false=false → 0 < fuel) →
     ((Zbuq ops.size).filter (fun i=>!listed.getD i false)).length≤fuel→wpAny P .any ops Q fuel listed a g.w:=by
 have q:∀listed:Array Bool,listed.size=ops.size→∀i,ops.size≤i→listed.getD i false=false:=fun listed n i m=>by
   simp[Zbt9,Zbwb (show listed.size≤i by omega)]
 have r:∀(listed:Array Bool) (i:Nat),i∈Region.ready .any ops listed→listed.size=ops.size→∃o,ops[i]?=some o∧listed.getD i false=false∧∀j∈Zs2 o,listed.getD j false=true:=by
   intro listed i m n
   simp only[Region.ready,Zbvg,Zbue,Zbt5,Zbu4]at m
   obtain⟨x,s,z⟩:=m
   obtain⟨o,p⟩:∃o,ops[i]?=some o:=⟨ops[i],Zbuj x⟩
   refine⟨o,p,?_,?_⟩
   · simp only [Zbt9,Zbuj (show i < listed.size by omega)] at s ⊢
     simpa using s
   · intro j f
     simp only[Zs2,Zbud,Zbvg]at f
     obtain⟨e,⟨B,C⟩,rfl⟩:=f
     rw[p]at z
     simp only[Zbvh,Zbwu,Zbvl]at z
     have:=z e (by simpa using B)
     rw[C]at this
     simpa using this
 have E:∀(listed:Array Bool),listed.size=ops.size→Region.ready .any ops listed=[]→∀i,i<ops.size→listed.getD i false=true:=by
   intro listed n H i
   induction i using Nat.strongRecOn with
   | _ i ih =>
     intro m
     cases u:listed.getD i false with
     | true=>rfl
     | false =>
       exfalso
       obtain⟨o,p⟩:∃o,ops[i]?=some o:=⟨ops[i],Zbuj m⟩
       have:i∈Region.ready .any ops listed:=by
         simp only[Region.ready,Zbvg,Zbue,Zbt5,Zbu4]
         refine⟨m,?_,?_⟩
         · simp only [Zbt9,Zbuj (show i < listed.size by omega)] at u ⊢
           simpa using u
         · rw [p]
           simp only[Zbvh,Zbwu,Zbvl]
           intro e B
           by_cases R:Region.binds .any e=true
           · have f:e.on∈Zs2 o:=by
               simp only[Zs2,Zbud,Zbvg]
               exact⟨e,⟨by simpa using B,R⟩,rfl⟩
             have S:=Z6c d p e.on f
             rw[ih e.on S (by omega)]
             simp
           · simp[R]
       rw[H]at this
       cases this
 intro fuel
 induction fuel with
 | zero =>
   intro listed a g n v I J
   have b:∀i,i<ops.size→listed.getD i false=true:=fun i m=>by
     cases u:listed.getD i false with
     | true=>rfl
     | false=>exact absurd (I i m u) (Zbwj 0)
   refine⟨?_,O a g (Z5p d v b (q listed n)) v.base⟩
   refine List.eq_nil_iff_forall_not_mem.2 fun i m=>?_
   obtain⟨o,p,s,_⟩:=r listed i m n
   rw[b i (Zbum.1 p).1]at s
   cases s
 | succ fuel ih =>
   intro listed a g n v _ J
   refine⟨fun H=>O a g (Z5p d v (E listed n H) (q listed n)) v.base,fun i m=>?_⟩
   obtain⟨o,p,s,z⟩:=r listed i m n
   have x:i<ops.size:=(Zbum.1 p).1
   refine Z8d d Y v p s z (q listed n) fun a' g' U=>?_
   have c:(fun k=>(listed.setIfInBounds i true).getD k false)=(fun k=>k==i||listed.getD k false):=by
     funext k
     simp only[Zbt9,Array.getElem?_setIfInBounds]
     by_cases t:i=k
     · subst t;simp[show i<listed.size by omega]
     · have:(k == i)=false:=by simpa using fun h=>t h.symm
       simp[t,this]
   have X:((Zbuq ops.size).filter (fun k=>!(listed.setIfInBounds i true).getD k false)).length<((Zbuq ops.size).filter (fun k=>!listed.getD k false)).length:=by
     have K:∀(l:List Nat),l.Nodup→i∈l→(l.filter (fun k=>!(k==i||listed.getD k false))).length<(l.filter (fun k=>!listed.getD k false)).length:=by
       intro l
       induction l with
       | nil=>intro _ h;cases h
       | cons y ys ihl =>
         intro M A
         obtain⟨V,M⟩:=List.nodup_cons.1 M
         rcases Zbt6.1 A with rfl | A
         · have:ys.filter (fun k=>!(k==i||listed.getD k false))=ys.filter (fun k=>!listed.getD k false):=by
             refine List.filter_congr fun k t=>?_
             have:(k==i)=false:=by simp;rintro rfl;exact V t
             rw[this,Zbw8]
           simp only[Zbwv,beq_self_eq_true,Bool.true_or,Bool.not_true,Zbvy,if_false,s,Bool.not_false,if_true,Zbu2,this]
           omega
         · have:=ihl M A
           have W:(y==i)=false:=by simp;rintro rfl;exact V A
           simp only[Zbwv,W,Zbw8]
           split <;> (try simp only[Zbu2]) <;> omega
     have:=K (Zbuq ops.size) List.nodup_range (Zbue.2 x)
     have e:(fun k=>!(listed.setIfInBounds i true).getD k false)=(fun k=>!(k==i||listed.getD k false)):=by
       funext k;exact congrArg _ (congrFun c k)
     rw[e];exact this
   refine ih (listed.setIfInBounds i true) a' g' (by simpa using n) (by rw[c];exact U) (fun k t u=>?_) (by omega)
   refine Nat.pos_of_ne_zero fun h0=>?_
   have:k∈(Zbuq ops.size).filter (fun k=>!(listed.setIfInBounds i true).getD k false):=by
     simp only[Zbvg,Zbue];exact⟨t,by rw[u];rfl⟩
   have:=List.length_pos_of_mem this
   omega
theorem Zbcu {F:List Ref} (k:chk N ops L T F=true) {g0:G} {Q:Exit→Act→World→Prop} (t:Znp P ops N L T D g0 Q ops.toList T)
   (u:∀a g,StD D N (F.map (Zhg L T)) a g→Base g0 g→Q .normal a g.w) :
   ∀(m s:Nat) (a:Act) (g:G),s+m=ops.size→Inv D N L T g0 (fun i=>decide (i<s)) a g→wpOps P ops Q (List.range' s m) a g.w:=by
 intro m
 induction m with
 | zero =>
   intro s a g hs h
   exact u a g (Z5p k h (fun i n=>by simp;omega) (fun i n=>by simp;omega)) h.base
 | succ m ih =>
   intro s a g hs h
   rw[List.range'_succ,wpOps_cons]
   obtain⟨o,p⟩:∃o,ops[s]?=some o:=⟨ops[s],Zbuj (by omega)⟩
   refine Z8d k t h p (by simp) (fun j v=>by simp;exact Z6c k p j v) (fun i n=>by simp;omega) fun a' g' q=>?_
   refine ih (s+1) a' g' (by omega) ?_
   have:(fun i=>decide (i<s+1))=(fun i=>i==s||decide (i<s)):=by
     funext i
     by_cases r:i=s
     · subst r;simp
     · have:(i == s)=false:=by simpa using r
       rw[this];simp;omega
   rw[this];exact q
theorem Zbdo {F:List Ref} {id:Nat} {draw:Bool} (q:P.follows .mixedOrders=true) (k:chk N ops L T F=true) {g0:G} {Q:Exit→Act→World→Prop} (m:Znp P ops N L T D g0 Q ops.toList T) {a:Act} {g:G} (h:StD D N L a g) (n:Base g0 g)
   (p:∀a g,StD D N (F.map (Zhg L T)) a g→Base g0 g→Q .normal a g.w):(Code.region id ops draw).wp P Q a g.w:=by
 cases draw with
 | false =>
   refine wp_region ?_
   rw[List.range_eq_range']
   refine Zbcu k m p ops.size 0 a g (by omega) ?_
   have:(fun i=>decide (i<0))=(fun _:Nat=>false):=by funext i;simp
   rw[this]
   exact Z6n h n
 | true =>
   refine wp_region_any q ?_
   have hs:=Step.drew g
   refine Zbe4 k m p ops.size (Zbuu ops.size false) a g.drew (by simp) ?_ (fun i hi _=>by omega) (Zbuy (List.length_filter_le _ _) (by simp))
   have:(fun i=>(Zbuu ops.size false).getD i false)=(fun _:Nat=>false):=by
     funext i
     simp only[Zbt9,Array.getElem?_replicate]
     split <;> rfl
   rw[this]
   exact Z6n ⟨h.size,h.df,fun e r=>e.2.st hs (fun _ _ h=>by cases h) (h.h e r)⟩ (n.step hs (by simp))
theorem Zud {F:List Ref} {id:Nat} {draw:Bool} (k:P.follows .mixedOrders=true) (m:chk N ops L T F=true) (n:AllOT P ops N L T ops.toList T) {g0:G} {a:Act} {g:G} (h:StD D N L a g) (p:Base g0 g) {Q:Exit→Act→World→Prop}
   (r:∀a g,StD D N (F.map (Zhg L T)) a g→Base g0 g→Q .normal a g.w):(Code.region id ops draw).wp P Q a g.w:=Zbdo k m n.q h p r
end
theorem Zdy (b o n:Nat):(⟨b,o,none⟩:Addr).add n=⟨b,o+n,none⟩:=by
 unfold Addr.add
 split <;> simp_all
def Cell (g:G) (b o:Nat) (v:Value):Prop:=g.pr b o∧g.w.cell? ⟨b,o,none⟩=some v
theorem Cell.mono {g g':G} {b o:Nat} {v:Value} (h:g.le g') (c:Cell g b o v):Cell g' b o v:=⟨h.pr b o c.1,(h.cell b o c.1).trans c.2⟩
def CellsAt (g:G) (b o:Nat) (cs:List Value):Prop:=∀j v,cs[j]?=some v→Cell g b (o+j) v
theorem CellsAt.mono {g g':G} {b o:Nat} {cs:List Value} (h:g.le g') (c:CellsAt g b o cs):CellsAt g' b o cs:=fun j v k=>(c j v k).mono h
def seg (cs:List Value) (o n:Nat):List Value:=(cs.drop o).take n
theorem CellsAt.seg {g:G} {b o:Nat} {cs:List Value} (c:CellsAt g b o cs) (k n:Nat):CellsAt g b (o+k) (seg cs k n):=by
 intro j v h
 rw[Zbw9]
 refine c (k+j) v ?_
 simp only[CL.seg,Zbty,Zbtz]at h
 split at h
 · exact h
 · cases h
structure Kd (α:Type) where
 sz:Nat
 ag:Bool
 K:G→α→List Value→Prop
 len:∀{g x cs},K g x cs→cs.length=sz
 one:∀{g x cs},K g x cs→∀u∈cs,u.oneCell'=true
 mono:∀{g g' x cs},g.le g'→K g x cs→K g' x cs
 nag:ag=false→sz=1
def mkV (ag:Bool) (cs:List Value):Value:=if ag then .agg cs.toArray else cs.headD undef
namespace Kd
variable {α β:Type}
def V (d:Kd α) (g:G) (x:α) (v:Value):Prop:=∃cs,d.K g x cs∧v=mkV d.ag cs
def pd (d:Kd α) (x:α):Pd:=⟨fun g v=>d.V g x v,[],fun s _ h=>h.imp fun _ h=>⟨d.mono s.le h.1,h.2⟩⟩
def ptr (d:Kd α) (x:α):Pd:=⟨fun g v=>∃b o cs,v=.pointer (some ⟨b,o,none⟩)∧d.K g x cs∧CellsAt g b o cs,[],fun s _ ⟨b,o,cs,e,h,c⟩=>⟨b,o,cs,e,d.mono s.le h,c.mono s.le⟩⟩
theorem cells_mkV {d:Kd α} {g:G} {x:α} {cs:List Value} (h:d.K g x cs):(mkV d.ag cs).cells=cs.toArray:=by
 unfold mkV
 split
 · rfl
 · rename_i k
   have m:=d.len h
   rw[d.nag (by simpa using k)]at m
   obtain⟨u,rfl⟩:=Zbu9.1 m
   have:=d.one h u (by simp)
   cases u <;> first | rfl | simp[Value.oneCell']at this
def scalar (enc:α→Value) (k:∀x,(enc x).oneCell'=true):Kd α where
 sz:=1
 ag:=false
 K:=fun _ x cs=>cs=[enc x]
 len:=by rintro _ _ _ rfl;rfl
 one:=by
   rintro _ x _ rfl u m
   rw[Zbtu.1 m];exact k x
 mono:=fun _ h=>h
 nag:=fun _=>rfl
theorem scalar_V {enc:α→Value} {h:∀x,(enc x).oneCell'=true} {g:G} {x:α} {v:Value}:(scalar enc h).V g x v↔v=enc x:=by
 constructor
 · rintro⟨cs,rfl,rfl⟩;rfl
 · rintro rfl;exact⟨_,rfl,rfl⟩
def int (k:IntKind):Kd Int:=scalar (Value.int k) fun _=>rfl
def bool:Kd Bool:=scalar Value.bool fun _=>rfl
def str:Kd ByteArray:=scalar Value.string fun _=>rfl
def flt:Kd Nat:=scalar (Value.float .f64) fun _=>rfl
structure FK (α:Type) where
 β:Type
 d:Kd β
 off:Nat
 proj:α→β
def cover (fs:List (FK α)) (sz:Nat):Bool:=(Zbuq sz).all fun k=>fs.any fun f=>decide (f.off≤k)&&decide (k<f.off+f.d.sz)
def struct (sz:Nat) (fs:List (FK α)) (q:cover fs sz=true):Kd α where
 sz:=sz
 ag:=true
 K:=fun g x cs=>cs.length=sz∧∀f∈fs,f.d.K g (f.proj x) (seg cs f.off f.d.sz)
 len:=fun h=>h.1
 one:=by
   rintro g x cs ⟨hl,n⟩ u r
   obtain⟨k,m,rfl⟩:=Zbwl r
   have:=Zbt2.1 q k (Zbue.2 (by omega))
   obtain⟨f,p,s⟩:=Zbwt.1 this
   simp only[Zbt5,decide_eq_true_eq]at s
   refine f.d.one (n f p) _ ?_
   refine Zbuh (i:=k-f.off) ?_
   simp only[seg,Zbty,Zbtz]
   rw[if_pos (by omega),show f.off+(k-f.off)=k by omega,Zbtv m]
 mono:=fun h m=>⟨m.1,fun f n=>f.d.mono h (m.2 f n)⟩
 nag:=fun h=>by cases h
def Row (d:Kd α) (g:G) (A:Option Addr) (xs:List α):Prop:=xs=[]∨∃b o,A=some ⟨b,o,none⟩∧∀i x,xs[i]?=some x→∃cs,d.K g x cs∧CellsAt g b (o+i*d.sz) cs
theorem Row.mono {d:Kd α} {g g':G} {A:Option Addr} {xs:List α} (h:g.le g') (r:d.Row g A xs):d.Row g' A xs:=by
 rcases r with r | ⟨b,o,e,k⟩
 · exact .inl r
 · exact .inr ⟨b,o,e,fun i x m=>by obtain⟨cs,n,p⟩:=k i x m;exact⟨cs,d.mono h n,p.mono h⟩⟩
def sl (d:Kd α):Kd (List α) where
 sz:=1
 ag:=false
 K:=fun g xs cs=>∃A c,cs=[.slice A xs.length c]∧xs.length≤c∧xs.length≤9223372036854775807∧d.Row g A xs
 len:=by rintro _ _ _ ⟨A,c,rfl,_⟩;rfl
 one:=by
   rintro _ _ _ ⟨A,c,rfl,_⟩ u k
   rw[Zbtu.1 k];rfl
 mono:=fun h ⟨A,c,e,m,n,r⟩=>⟨A,c,e,m,n,r.mono h⟩
 nag:=fun _=>rfl
theorem sl_V {d:Kd α} {g:G} {xs:List α} {v:Value}:d.sl.V g xs v↔∃A c,v=.slice A xs.length c∧xs.length≤c∧xs.length≤9223372036854775807∧d.Row g A xs:=by
 constructor
 · rintro⟨_,⟨A,c,rfl,h⟩,rfl⟩;exact⟨A,c,rfl,h⟩
 · rintro⟨A,c,rfl,h⟩;exact⟨_,⟨A,c,rfl,h⟩,rfl⟩
theorem sl_nil (d:Kd α) (g:G):d.sl.V g [] (.slice none 0 0):=sl_V.2 ⟨none,0,rfl,by simp,by simp,.inl rfl⟩
end Kd
abbrev pInt (k:IntKind) (x:Int):Pd:=(Kd.int k).pd x
abbrev pStr (s:ByteArray):Pd:=Kd.str.pd s
abbrev pFlt (x:Nat):Pd:=Kd.flt.pd x
def pEq (v:Value):Pd:=⟨fun _ u=>u=v,[],fun _ _ h=>h⟩
abbrev Zbo (b:Bool):Pd:=Kd.bool.pd b
theorem Zcy {k:IntKind} {x:Int} {g:G} {v:Value}:(pInt k x).p g v↔v=.int k x:=Kd.scalar_V
theorem Zms {b:Bool} {g:G} {v:Value}:(Zbo b).p g v↔v=.bool b:=Kd.scalar_V
theorem Zog {s:ByteArray} {g:G} {v:Value}:(pStr s).p g v↔v=.string s:=Kd.scalar_V
theorem Zm4 {x:Nat} {g:G} {v:Value}:(pFlt x).p g v↔v=.float .f64 x:=Kd.scalar_V
theorem gT (c:Bool):(c=true→∀g v,(Zbo c).p g v→v=.bool true)∧(c=false→∀g v,(Zbo c).p g v→v≠.bool true) :=
 ⟨fun h g v k=>(by rw[Zms.1 k,h]),fun h g v k=>(by rw[Zms.1 k,h];simp)⟩
theorem gF (c:Bool):((!c)=true→∀g v,(Zbo c).p g v→v=.bool false)∧((!c)=false→∀g v,(Zbo c).p g v→v≠.bool false):=by
 cases c
 · exact⟨fun _ g v k=>Zms.1 k,fun h=>(by cases h)⟩
 · exact⟨fun h=>(by cases h),fun _ g v k=>(by rw[Zms.1 k];simp)⟩
theorem giT (b c:Bool):((b&&c)=true→∀g v,(pIf b (Zbo c)).p g v→v=.bool true)∧((b&&c)=false→∀g v,(pIf b (Zbo c)).p g v→v≠.bool true):=by
 cases b
 · exact⟨fun h=>(by cases h),fun _ g v k=>(by rw[k.2 rfl];simp[undef])⟩
 · exact⟨fun h g v k=>(gT c).1 h g v (k.1 rfl),fun h g v k=>(gT c).2 h g v (k.1 rfl)⟩
theorem giF (b c:Bool):((b&&!c)=true→∀g v,(pIf b (Zbo c)).p g v→v=.bool false)∧((b&&!c)=false→∀g v,(pIf b (Zbo c)).p g v→v≠.bool false):=by
 cases b
 · exact⟨fun h=>(by cases h),fun _ g v k=>(by rw[k.2 rfl];simp[undef])⟩
 · exact⟨fun h g v k=>(gF c).1 h g v (k.1 rfl),fun h g v k=>(gF c).2 h g v (k.1 rfl)⟩
def pTup (l:List Pd):Pd:=⟨fun g v=>∃vs:List Value,v=.tuple vs.toArray∧vs.length=l.length∧∀i (q:Pd) u,l[i]?=some q→vs[i]?=some u→q.p g u,l.flatMap (·.fp),fun {S g g' v} s d ⟨vs,e,m,h⟩=>⟨vs,e,m,fun i (q:Pd) u k n=>q.st s (fun j r=>d j (Zbww.2 ⟨q,Zbuh k,r⟩)) (h i q u k n)⟩⟩
structure Ty (P:Program) (t:TypeId) {α:Type} (d:Kd α):Prop where
 sz:(P.info? t).map (·.size)=some d.sz
 ag:(P.underlying t).map (fun u=>match u with | .struct _ | .array _ _=>true | _=>false)=some d.ag
structure Fld (P:Program) (s:TypeId) (i:Nat) {α β:Type} (d:Kd α) (di:Kd β) (proj:α→β):Prop where
 look:∃fs f,P.underlying s=some (.struct fs)∧fs[i]?=some f∧(P.info? f.type).map (·.size)=some di.sz∧(P.underlying f.type).map (fun u=>match u with | .struct _ | .array _ _=>true | _=>false)=some di.ag∧di.sz≠0 ∧
   (∀g x cs,d.K g x cs→di.K g (proj x) (seg cs f.offset di.sz))∧d.ag=true
theorem Fld.of {P:Program} {s:TypeId} {i:Nat} {α:Type} {sz:Nat} {fs:List (Kd.FK α)} {q:Kd.cover fs sz=true} (f:Kd.FK α) (r:f∈fs) (off:Nat) (t:f.off=off)
   (h:(match P.underlying s with | some (.struct F)=>(F[i]?).bind (fun x=>(P.info? x.type).bind fun y=>(P.underlying x.type).map fun u=>(x.offset,y.size,match u with | .struct _ | .array _ _=>true | _=>false)) | _=>none)=some (off,f.d.sz,f.d.ag)) (w:f.d.sz≠0) :
   Fld P s i (Kd.struct sz fs q) f.d f.proj:=by
 subst t
 cases n:P.underlying s with
 | none=>rw[n]at h;cases h
 | some u =>
   rw[n]at h
   cases u <;> try (cases h;done)
   rename_i F
   cases k:F[i]? with
   | none=>simp[k]at h
   | some x =>
     cases m:P.info? x.type with
     | none=>simp[k,m]at h
     | some y =>
       cases p:P.underlying x.type with
       | none=>simp[k,m,p]at h
       | some v =>
         simp only[k,m,p,Zbv3,Zbvh,Zbt7.injEq,Zbu3.injEq]at h
         refine⟨F,x,n,k,by rw[m];simp[h.2.1],by rw[p];simp[h.2.2],w,?_,rfl⟩
         rintro g z cs ⟨_,a⟩
         rw[h.1]
         exact a f r
section
variable {P:Program} {N:Nat} {o:Oper} {uses:Z8} {d:Nat} {q q':Pd} {x y z:Operand}
def Opd (uses:Z8) (x:Operand) (q:Pd):Prop:=∀(a:Act) g,Ze4 uses a g→q.p g (a.eval x)
theorem Opd.t0 {s:Nat} {u:Z8}:Opd ((s,q)::u) (.tmp s) q:=fun _ _ h=>h (s,q) (by simp)
theorem Opd.tl {u:Z8} {e:Nat×Pd} (h:Opd u x q):Opd (e::u) x q:=fun a g hh=>h a g fun e k=>hh e (Zbuz _ k)
theorem Opd.c {v:Value} (h:∀g,q.p g v):Opd uses (.const v) q:=fun _ g _=>h g
theorem Opd.fn {f:Nat}:Opd uses (.func f) (pEq (.func (.func f) #[] #[])):=fun _ _ _=>rfl
theorem Opd.imp (h:Opd uses x q) (k:∀g v,q.p g v→q'.p g v):Opd uses x q':=fun a g hh=>k _ _ (h a g hh)
theorem Zjr {S:List Nat} (k:o.dst=some d) (h:∀(a:Act) g,Ze4 uses a g→∃v g',(execOp a.eval o).run P g.w=.ok (.value v) g'.w∧Step S g g'∧q.p g' v):OB P N o uses [(d,q)] S:=by
 intro a g K Q n m r s
 obtain⟨v,g',t,hs,u⟩:=h a g r
 unfold Oper.wp
 rw[t]
 refine s v g' hs fun e x=>?_
 rw[Zbtu.1 x]
 rw[k,Zdn v (by rw[n];exact m d k)]
 exact u
theorem Zcl (k:o.dst=some d) (h:∀(a:Act) g,Ze4 uses a g→∃v,(execOp a.eval o).run P g.w=.ok (.value v) g.w∧q.p g v):OB P N o uses [(d,q)] [] :=
 Zjr k fun a g hh=>let ⟨v,m,n⟩:=h a g hh;⟨v,g,m,.refl _ _,n⟩
theorem OB.weak {outs outs':Z8} {S:List Nat} (h:OB P N o uses outs S) (m:∀g (a:Act),Ze4 outs a g→Ze4 outs' a g):OB P N o uses outs' S :=
 fun a g K Q n k p q=>h a g K Q n k p fun v g' hs r=>q v g' hs (m g' _ r)
theorem OB.any {outs:Z8} {S:List Nat} (h:OB P N o uses outs S):OB P N o uses [] S:=h.weak fun _ _ _ _ k=>by cases k
theorem Zx (h:o.op=.move x) (k:o.dst=some d) (m:Opd uses x q):OB P N o uses [(d,q)] [] :=
 Zcl k fun a g hh=>⟨a.eval x,by simp[execOp,h],m a g hh⟩
theorem Zc (h:o.op=.assign x) (k:o.dst=some d) (m:Opd uses x q):OB P N o uses [(d,q)] [] :=
 Zcl k fun a g hh=>⟨a.eval x,by simp[execOp,h],m a g hh⟩
theorem Zl2 (k:o.op=.move x∨o.op=.assign x):OB P N o uses [] []:=by
 intro a g K Q hN p hu m
 have:(execOp a.eval o).run P g.w=.ok (.value (a.eval x)) g.w:=by rcases k with h | h <;> simp[execOp,h]
 unfold Oper.wp
 rw[this]
 exact m _ g (.refl _ _) (fun e n=>by cases n)
theorem Zbdr {c:Bool} (h:o.op=.pick x y z) (m:o.dst=some d) (n:Opd uses x (Zbo c)) (p:c=true→Opd uses y q) (r:c=false→Opd uses z q):OB P N o uses [(d,q)] [] :=
 Zcl m fun a g hh=>by
   have k:=Zms.1 (n a g hh)
   cases c with
   | true=>exact⟨_,by simp[execOp,h,k,asBool],p rfl a g hh⟩
   | false=>exact⟨_,by simp[execOp,h,k,asBool],r rfl a g hh⟩
theorem Zbnd (w:World) {op:BinOp} {t ty:TypeId} {k:IntKind} {m n:Int} (a:Act) (p:o.op=.binOp op t x y ty) (q:a.eval x=.int k m) (r:a.eval y=.int k n) {v:Value} (h:(binOp op t (.int k m) (.int k n)).run P w=.ok v w):(execOp a.eval o).run P w=.ok (.value v) w:=by
 have hg:(eqGuard op t x y (.int k m) (.int k n)).run P w=.ok () w:=by
   unfold eqGuard
   split <;> rfl
 simp[execOp,p,q,r,hg,h]
theorem Zm0 {op:BinOp} {t ty:TypeId} {k:IntKind} {m n:Int} {v:Value} (r:o.op=.binOp op t x y ty) (s:o.dst=some d) (u:Opd uses x (pInt k m)) (z:Opd uses y (pInt k n)) (h:∀w,(binOp op t (.int k m) (.int k n)).run P w=.ok v w) (b:∀g,q.p g v):OB P N o uses [(d,q)] [] :=
 Zcl s fun a g hh=>⟨v,Zbnd g.w a r (Zcy.1 (u a g hh)) (Zcy.1 (z a g hh)) (h g.w),b g⟩
theorem Zgt (b:Bool) (g:G):(Zbo b).p g (.bool b):=Zms.2 rfl
theorem Zhh (k:IntKind) (n:Int) (g:G):(pInt k n).p g (.int k n):=Zcy.2 rfl
theorem Zcj {t ty:TypeId} {k:IntKind} {m n:Int} (h:o.op=.binOp .lss t x y ty) (p:o.dst=some d) (q:Opd uses x (pInt k m)) (r:Opd uses y (pInt k n)):OB P N o uses [(d,Zbo (decide (m<n)))] [] :=
 Zm0 h p q r (fun w=>by simp[binOp,Op.intCmp]) (Zgt _)
theorem Zbfw {t ty:TypeId} {k:IntKind} {m n:Int} (h:o.op=.binOp .leq t x y ty) (p:o.dst=some d) (q:Opd uses x (pInt k m)) (r:Opd uses y (pInt k n)):OB P N o uses [(d,Zbo (decide (m≤n)))] [] :=
 Zm0 h p q r (fun w=>by simp[binOp,Op.intCmp]) (Zgt _)
theorem Zcn {t ty:TypeId} {k:IntKind} {m n:Int} (h:o.op=.binOp .gtr t x y ty) (p:o.dst=some d) (q:Opd uses x (pInt k m)) (r:Opd uses y (pInt k n)):OB P N o uses [(d,Zbo (decide (n<m)))] [] :=
 Zm0 h p q r (fun w=>by simp[binOp,Op.intCmp]) (Zgt _)
theorem Zkp {t ty:TypeId} {k:IntKind} {m n:Int} (h:o.op=.binOp .geq t x y ty) (p:o.dst=some d) (q:Opd uses x (pInt k m)) (r:Opd uses y (pInt k n)):OB P N o uses [(d,Zbo (decide (n≤m)))] [] :=
 Zm0 h p q r (fun w=>by simp[binOp,Op.intCmp]) (Zgt _)
theorem Zb0 {t ty:TypeId} {k:IntKind} {m n:Int} (h:o.op=.binOp .eql t x y ty) (p:o.dst=some d) (q:Opd uses x (pInt k m)) (r:Opd uses y (pInt k n)):OB P N o uses [(d,Zbo (m==n))] [] :=
 Zm0 h p q r (fun w=>by simp[binOp,Op.intCmp]) (Zgt _)
theorem Zcv {t ty:TypeId} {k:IntKind} {m n:Int} (h:o.op=.binOp .neq t x y ty) (p:o.dst=some d) (q:Opd uses x (pInt k m)) (r:Opd uses y (pInt k n)):OB P N o uses [(d,Zbo (m !=n))] [] :=
 Zm0 h p q r (fun w=>by simp[binOp,Op.intCmp]) (Zgt _)
theorem Zbw {t ty:TypeId} {k:IntKind} {m n c:Int} (h:o.op=.binOp .add t x y ty) (p:o.dst=some d) (q:Opd uses x (pInt k m)) (r:Opd uses y (pInt k n)) (s:k.wrap (m+n)=c):OB P N o uses [(d,pInt k c)] [] :=
 Zm0 h p q r (fun w=>by simp[binOp,Op.intArith,s]) (Zhh _ _)
theorem Zei {t ty:TypeId} {k:IntKind} {m n c:Int} (h:o.op=.binOp .sub t x y ty) (p:o.dst=some d) (q:Opd uses x (pInt k m)) (r:Opd uses y (pInt k n)) (s:k.wrap (m-n)=c):OB P N o uses [(d,pInt k c)] [] :=
 Zm0 h p q r (fun w=>by simp[binOp,Op.intArith,s]) (Zhh _ _)
theorem Zyx {t ty:TypeId} {k:IntKind} {m n c:Int} (h:o.op=.binOp .mul t x y ty) (p:o.dst=some d) (q:Opd uses x (pInt k m)) (r:Opd uses y (pInt k n)) (s:k.wrap (m*n)=c):OB P N o uses [(d,pInt k c)] [] :=
 Zm0 h p q r (fun w=>by simp[binOp,Op.intArith,s]) (Zhh _ _)
theorem Zct {t:TypeId} {b:Bool} (h:o.op=.unOp .not t x) (k:o.dst=some d) (m:Opd uses x (Zbo b)):OB P N o uses [(d,Zbo (!b))] [] :=
 Zcl k fun a g hh=>⟨.bool (!b),by simp[execOp,h,Zms.1 (m a g hh),Op.unary],Zgt _ g⟩
theorem Zbgi {t:TypeId} {k:IntKind} {n c:Int} (h:o.op=.unOp .neg t x) (m:o.dst=some d) (p:Opd uses x (pInt k n)) (q:k.wrap (0-n)=c):OB P N o uses [(d,pInt k c)] [] :=
 Zcl m fun a g hh=>⟨.int k c,by simp[execOp,h,Zcy.1 (p a g hh),Op.unary,Op.intArith];simpa using q,Zhh _ _ g⟩
theorem Zek {s t:TypeId} {k k':IntKind} {n c:Int} {u:TypeDesc} (hs:P.underlying s=some u) (m:P.underlying t=some (.int k')) (h:o.op=.convert s t x) (p:o.dst=some d) (q:Opd uses x (pInt k n)) (r:k'.wrap n=c):OB P N o uses [(d,pInt k' c)] [] :=
 Zcl p fun a g hh=>⟨.int k' c,by
   have v:=run_underlying hs g.w
   have y:=run_underlying m g.w
   cases u <;> simp[execOp,h,Zcy.1 (q a g hh),convert,v,y,Conv.intToInt,r],Zhh _ _ g⟩
theorem Zbk4 (w:World) {op:BinOp} {t ty:TypeId} {m n:ByteArray} (a:Act) (k:o.op=.binOp op t x y ty) (p:a.eval x=.string m) (q:a.eval y=.string n) {v:Value} (h:(Op.stringOp op m n).run P w=.ok v w):(execOp a.eval o).run P w=.ok (.value v) w:=by
 have hg:(eqGuard op t x y (.string m) (.string n)).run P w=.ok () w:=by
   unfold eqGuard
   split <;> rfl
 simp[execOp,k,p,q,hg,binOp,h]
theorem Zzf {op:BinOp} {t ty:TypeId} {m n:ByteArray} {v:Value} (k:o.op=.binOp op t x y ty) (r:o.dst=some d) (s:Opd uses x (pStr m)) (u:Opd uses y (pStr n)) (h:∀w,(Op.stringOp op m n).run P w=.ok v w) (z:∀g,q.p g v):OB P N o uses [(d,q)] [] :=
 Zcl r fun a g hh=>⟨v,Zbk4 g.w a k (Zog.1 (s a g hh)) (Zog.1 (u a g hh)) (h g.w),z g⟩
def sEq (a b:ByteArray):Bool:=a.toList==b.toList
def sLt (a b:ByteArray):Bool:=Op.bytesLess a.toList b.toList
theorem Zpk {t ty:TypeId} {m n:ByteArray} (h:o.op=.binOp .eql t x y ty) (k:o.dst=some d) (p:Opd uses x (pStr m)) (q:Opd uses y (pStr n)):OB P N o uses [(d,Zbo (sEq m n))] [] :=
 Zzf h k p q (fun w=>rfl) (Zgt _)
theorem Zue {t ty:TypeId} {m n:ByteArray} (h:o.op=.binOp .neq t x y ty) (k:o.dst=some d) (p:Opd uses x (pStr m)) (q:Opd uses y (pStr n)):OB P N o uses [(d,Zbo (!sEq m n))] [] :=
 Zzf h k p q (fun w=>rfl) (Zgt _)
theorem Zro {t ty:TypeId} {m n:ByteArray} (h:o.op=.binOp .lss t x y ty) (k:o.dst=some d) (p:Opd uses x (pStr m)) (q:Opd uses y (pStr n)):OB P N o uses [(d,Zbo (sLt m n))] [] :=
 Zzf h k p q (fun w=>rfl) (Zgt _)
theorem Z25 {t ty:TypeId} {m n:ByteArray} (h:o.op=.binOp .gtr t x y ty) (k:o.dst=some d) (p:Opd uses x (pStr m)) (q:Opd uses y (pStr n)):OB P N o uses [(d,Zbo (!(sLt m n||sEq m n)))] [] :=
 Zzf h k p q (fun w=>rfl) (Zgt _)
theorem Zbp1 {t ty:TypeId} {m n:ByteArray} (h:o.op=.binOp .geq t x y ty) (k:o.dst=some d) (p:Opd uses x (pStr m)) (q:Opd uses y (pStr n)):OB P N o uses [(d,Zbo (!sLt m n))] [] :=
 Zzf h k p q (fun w=>rfl) (Zgt _)
theorem Zg4 {t:TypeId} {s:ByteArray} (k:P.underlying t=some .string) (h:o.op=.call {callee:=.builtin .len,args:=#[x],argTypes:=#[t]}) (m:o.dst=some d) (n:Opd uses x (pStr s)):OB P N o uses [(d,pInt .i64 s.size)] [] :=
 Zcl m fun a g hh=>⟨.int .i64 s.size,by
   simp[execOp,h,resolve,invoke,builtin,Builtin.len_,run_underlying k,Zog.1 (n a g hh),goInt],Zhh _ _ g⟩
theorem Zbv {α:Type} {dk:Kd α} {t e:TypeId} {xs:List α} (k:P.underlying t=some (.slice e)) (h:o.op=.call {callee:=.builtin .len,args:=#[x],argTypes:=#[t]}) (m:o.dst=some d) (n:Opd uses x (dk.sl.pd xs)):OB P N o uses [(d,pInt .i64 xs.length)] [] :=
 Zcl m fun a g hh=>by
   obtain⟨A,c,p,_⟩:=Kd.sl_V.1 (n a g hh)
   exact⟨.int .i64 xs.length,by simp[execOp,h,resolve,invoke,builtin,Builtin.len_,run_underlying k,p,goInt],Zhh _ _ g⟩
section
variable {α β:Type} {dk:Kd α} {di:Kd β} {v:α} {proj:α→β} {t:TypeId}
theorem Z61 {P:Program} {t:TypeId} {b:Bool} (h:(P.underlying t).map (fun u=>match u with | .struct _ | .array _ _=>true | _=>false)=some b) (w:World):(isAgg t).run P w=.ok b w:=by
 cases k:P.underlying t with
 | none=>rw[k]at h;cases h
 | some u =>
   rw[k]at h
   simp only[isAgg,Sem.run_bind,run_underlying k,Result.andThen_ok]
   cases u <;> simp_all
theorem Zi4 {P:Program} {t:TypeId} {n:Nat} (h:(P.info? t).map (·.size)=some n) (w:World):(sizeOf t).run P w=.ok n w:=by
 obtain⟨i,k,rfl⟩:=Zbt3.1 h
 simp[sizeOf,typeInfo,k]
theorem Zj6 (n:Ty P t dk) {g:G} {b of:Nat} {cs:List Value} (q:dk.K g v cs) (r:∀j u,cs[j]?=some u→g.w.cell? ⟨b,of+j,none⟩=some u):(loadVar t ⟨b,of,none⟩).run P g.w=.ok (mkV dk.ag cs) g.w:=by
 have m:=dk.len q
 have k:∀j u,cs[j]?=some u→g.w.cell? ((⟨b,of,none⟩:Addr).add j)=some u:=fun j u s=>by rw[Zdy];exact r j u s
 simp only[loadVar,Sem.run_bind,Z61 n.ag,Result.andThen_ok,Sem.run_ite]
 cases p:dk.ag with
 | true =>
   have h:=run_loadCells_list (P:=P) (w:=g.w) ⟨b,of,none⟩ cs k
   rw[m]at h
   simp[Zi4 n.sz,h,mkV]
 | false =>
   rw[dk.nag p]at m
   obtain⟨u,rfl⟩:=Zbu9.1 m
   have:=k 0 u (by simp)
   rw[Zdy]at this
   simp only[Zbva]at this
   simp[this,mkV]
theorem Z2 (m:Ty P t dk) (h:o.op=.load t x) (n:o.dst=some d) (p:Opd uses x (dk.ptr v)):OB P N o uses [(d,dk.pd v)] [] :=
 Zcl n fun a g hh=>by
   obtain⟨b,of,cs,q,k,r⟩:=p a g hh
   exact⟨mkV dk.ag cs,by simp[execOp,h,q,Instr.loadAt,Instr.sureAddr,Zj6 m k (fun j u s=>(r j u s).2)],cs,k,rfl⟩
theorem Zsc {f:Field} {n:Nat} (hs:(P.info? f.type).map (·.size)=some n) (h:n≠0) (b of:Nat) (w:World):(fieldPlace ⟨b,of,none⟩ f).run P w=.ok ⟨b,of+f.offset,none⟩ w:=by
 simp[fieldPlace,Zi4 hs,h,Zdy]
theorem Zq {s i:Nat} (m:Fld P s i dk di proj) (h:o.op=.fieldAddr s x i) (n:o.dst=some d) (p:Opd uses x (dk.ptr v)):OB P N o uses [(d,di.ptr (proj v))] [] :=
 Zcl n fun a g hh=>by
   obtain⟨b,of,cs,q,r,t⟩:=p a g hh
   obtain⟨fs,f,u,w,k,c,y,z,_⟩:=m.look
   exact⟨.pointer (some ⟨b,of+f.offset,none⟩),by simp[execOp,h,q,Instr.fieldAt,Instr.sureAddr,run_underlying u,w,Zsc k y],b,of+f.offset,_,rfl,z g v cs r,t.seg _ _⟩
theorem Zbk0 {s i:Nat} (z:Fld P s i dk di proj) (m:o.op=.field s x i) (b:o.dst=some d) (c:Opd uses x (dk.pd v)):OB P N o uses [(d,di.pd (proj v))] [] :=
 Zcl b fun a g hh=>by
   obtain⟨cs,e,n⟩:=c a g hh
   obtain⟨fs,f,k,j,p,q,h0,l,r⟩:=z.look
   have h:=l g v cs e
   have t:=di.len h
   rw[r]at n
   refine⟨mkV di.ag (seg cs f.offset di.sz),?_,_,h,rfl⟩
   have y:a.eval x=.agg cs.toArray:=n
   have A:(part f.type cs.toArray f.offset).run P g.w=.ok (mkV di.ag (seg cs f.offset di.sz)) g.w:=by
     simp only[part,Sem.run_bind,Z61 q,Result.andThen_ok,Sem.run_ite]
     cases hg:di.ag with
     | true =>
       simp only[if_true,Sem.run_bind,Zi4 p,Result.andThen_ok,Sem.run_pure]
       congr 1
       simp only[mkV,if_true,seg]
       congr 1
       apply Zbw1
       simp
     | false =>
       simp only[Zbvy,if_false]
       rw[di.nag hg]at t⊢
       have:(seg cs f.offset 1)=[(seg cs f.offset 1).headD undef]:=by
         obtain⟨u,k⟩:=Zbu9.1 t
         rw[k];rfl
       have B:cs[f.offset]?=some ((seg cs f.offset 1).headD undef):=by
         have C:(seg cs f.offset 1)[0]?=some ((seg cs f.offset 1).headD undef):=by rw[this];rfl
         simpa[seg,Zbty,Zbtz]using C
       simp[B,mkV]
   simp[execOp,m,y,Instr.field,run_underlying k,j,asAgg,A]
def idx (xs:List α) (n:Int):Option α:=if 0≤n then xs[n.toNat]? else none
theorem Zbn {t e:TypeId} {k:IntKind} {xs:List α} {n:Int} {y:α} {ix:Operand} (q:P.underlying t=some (.slice e)) (hs:(P.info? e).map (·.size)=some dk.sz) (p:o.op=.indexAddr t x ix) (r:o.dst=some d) (s:Opd uses x (dk.sl.pd xs)) (u:Opd uses ix (pInt k n)) (h:idx xs n=some y):OB P N o uses [(d,dk.ptr y)] [] :=
 Zcl r fun a g hh=>by
   obtain⟨A,c,v,_,_,m⟩:=Kd.sl_V.1 (s a g hh)
   have w:=Zcy.1 (u a g hh)
   unfold idx at h
   split at h
   · rename_i z
     have l:=(Zbtw.1 h).1
     rcases m with rfl | ⟨b,of,rfl,m⟩
     · simp at h
     · obtain ⟨cs,f,i⟩:=m _ _ h
       have j:0≤n∧n<(xs.length:Int):=⟨z,by omega⟩
       exact⟨.pointer (some ⟨b,of+n.toNat*dk.sz,none⟩),by simp[execOp,p,v,w,Instr.indexAt,asIntOf,run_underlying q,j,Zi4 hs,Zdy],b,_,cs,rfl,f,i⟩
   · cases h
class NZ (q:Pd):Prop where
 h:∀g v,q.p g v→∃A,v=.pointer (some A)
theorem Zvy (h:o.op=.nilCheck x) (m:o.dst=some d) (k:Opd uses x q) (n:∀g v,q.p g v→∃A,v=.pointer (some A)):OB P N o uses [(d,q)] [] :=
 Zcl m fun a g hh=>by
   obtain⟨A,r⟩:=n g _ (k a g hh)
   exact⟨a.eval x,by simp[execOp,h,r],k a g hh⟩
theorem Zz [h:NZ q] (k:o.op=.nilCheck x) (m:o.dst=some d) (n:Opd uses x q):OB P N o uses [(d,q)] []:=Zvy k m n h.h
instance {α:Type} {dk:Kd α} {v:α}:NZ (dk.ptr v):=⟨fun _ _ ⟨_,_,_,e,_⟩=>⟨_,e⟩⟩
theorem Z7 {l:List Pd} {i:Nat} (k:o.op=.extract x i) (n:o.dst=some d) (p:Opd uses x (pTup l)) (m:l[i]?=some q):OB P N o uses [(d,q)] [] :=
 Zcl n fun a g hh=>by
   obtain⟨vs,r,hl,h⟩:=p a g hh
   have s:=(Zbtw.1 m).1
   have:vs[i]?=some vs[i]:=Zbtv (by omega)
   exact⟨vs[i],by simp[execOp,k,r,Instr.extract,this],h i q _ m this⟩
end
end
section
variable {P:Program} {N:Nat} {o:Oper} {uses:Z8} {d:Nat} {q q':Pd} {x y z:Operand}
variable {α β:Type} {dk:Kd α} {di:Kd β} {zs:List Value} {t:TypeId}
theorem Zj8 (w:World) (ob:Obj):(w.alloc ob).heap.size=w.heap.size+1:=Zbw2 _
theorem Zn9 (w:World) (ob:Obj):(w.alloc ob).heap[w.heap.size]?=some ob:=by show (w.heap.push ob)[w.heap.size]?=_;simp
theorem Zti (w:World) (ob:Obj) {b:Nat} (h:b<w.heap.size):(w.alloc ob).heap[b]?=w.heap[b]?:=by
 show (w.heap.push ob)[b]?=_
 rw[Array.getElem?_push,if_neg (Zbwn h)]
theorem Zqa {w w':World} {b o:Nat} (h:w'.heap[b]?=w.heap[b]?):w'.cell? ⟨b,o,none⟩=w.cell? ⟨b,o,none⟩:=by simp[World.cell?,h]
def G.push (g:G) (c:Array Value) (t:TypeId) (P':Nat→Prop) (j:Nat):G where
 w:=g.w.alloc (.cells c t)
 pr:=fun b o=>if b=g.w.heap.size then P' o else g.pr b o
 own:=fun b=>if b=g.w.heap.size then j else if g.own b=j then 0 else g.own b
 hpr:=fun b o h=>by
   have hs:(g.w.alloc (.cells c t)).heap.size=g.w.heap.size+1:=Zbw2 _
   split at h
   · omega
   · have:=g.hpr b o h;omega
 gl:=g.gl.le (fun b o h=>by have:=g.hpr b o h;rw[if_neg (by omega)];exact h) (fun b o h=>Zqa (Zti g.w _ (g.hpr b o h)))
theorem Zh1 (g:G) (c:Array Value) (t:TypeId) (P':Nat→Prop) (j:Nat):(g.push c t P' j).w=g.w.alloc (.cells c t):=rfl
theorem Zwf (g:G) (c:Array Value) (t:TypeId) (P':Nat→Prop) (j:Nat):g.le (g.push c t P' j) where
 size:=by rw[Zh1,Zj8];omega
 pr:=fun b o h=>by
   have:=g.hpr b o h
   simp only[G.push]
   rw[if_neg (by omega)];exact h
 cell:=fun b o h=>Zqa (Zti g.w _ (g.hpr b o h))
 blk:=fun b h=>Zti g.w _ (g.hpr b 0 (h 0))
 dr:=Zbub _
theorem Z4j (g:G) (c:Array Value) (t:TypeId) (P':Nat→Prop):Step [] g (g.push c t P' 0) where
 le:=Zwf ..
 os:=rfl
 tape:=rfl
 output:=rfl
 same:=fun b k _=>⟨Zti g.w _ k,by simp only[G.push];funext o;rw[if_neg (by omega)],by simp only[G.push];rw[if_neg (by omega)];split <;> simp_all⟩
 new:=fun b h1 m=>by
   rw[Zh1,Zj8]at m
   have:b=g.w.heap.size:=by omega
   left;simp[G.push,this]
 old:=fun _ _ h=>by cases h
theorem Zn7 (g:G) (c:Array Value) (t:TypeId) (P':Nat→Prop) (j:Nat):Step [j] g (g.push c t P' j) where
 le:=Zwf ..
 os:=rfl
 tape:=rfl
 output:=rfl
 same:=fun b k m=>⟨Zti g.w _ k,by simp only[G.push];funext o;rw[if_neg (by omega)],by simp only[G.push];rw[if_neg (by omega),if_neg (by simpa using m)]⟩
 new:=fun b h1 n=>by
   rw[Zh1,Zj8]at n
   have:b=g.w.heap.size:=by omega
   right;simp[G.push,this]
 old:=fun b k h=>by
   left
   have:g.own b=j:=by simpa using h
   simp only[G.push];rw[if_neg (by omega),if_pos this]
theorem Z4p (g:G) (cs:List Value) (t:TypeId) (j:Nat):CellsAt (g.push cs.toArray t (fun _=>True) j) g.w.heap.size 0 cs:=by
 intro i v h
 refine⟨by simp[G.push],?_⟩
 rw[Zh1]
 simp only[World.cell?,Zn9,Zbuc]
 simpa using h
theorem Zbt {t:TypeId} {v:α} (h:o.op=.box t x) (m:o.dst=some d) (n:Opd uses x (dk.pd v)):OB P N o uses [(d,dk.ptr v)] [] :=
 Zjr m fun a g hh=>by
   obtain⟨cs,k,p⟩:=n a g hh
   refine⟨.pointer (some ⟨g.w.heap.size,0,none⟩),g.push cs.toArray t (fun _=>True) 0,?_,Z4j ..,g.w.heap.size,0,cs,rfl,dk.mono (Zwf ..) k,Z4p _ _ _ _⟩
   have:(a.eval x).cells=cs.toArray:=by rw[p];exact Kd.cells_mkV k
   simp[execOp,h,Instr.box,newVar,newRow,this,Zh1]
def Mine (dk:Kd α) (j:Nat) (v:α) (g:G) (b:Nat) (cs:List Value) (t:TypeId):Prop :=
 b<g.w.heap.size∧g.own b=j∧(∀b',b'<g.w.heap.size→g.own b'=j→b'=b)∧g.w.heap[b]?=some (.cells cs.toArray t (0,0))∧dk.K g v cs∧∀o,¬g.pr b o
theorem Mine.st {j:Nat} {v:α} {g g':G} {b:Nat} {cs:List Value} {t:TypeId} {S:List Nat} (hs:Step S g g') (p:j∉S) (n:j≠0) (h:Mine dk j v g b cs t):Mine dk j v g' b cs t:=by
 obtain⟨q,r,y,z,a,c⟩:=h
 obtain⟨k1,k2,k3⟩:=hs.same b q (by rw[r];exact p)
 refine⟨Nat.lt_of_lt_of_le q hs.le.size,k3.trans r,fun b' s k=>?_,k1.trans z,dk.mono hs.le a,fun o=>by rw[k2];exact c o⟩
 rcases Zbvp b' g.w.heap.size with m | u
 · by_cases x:g.own b' ∈ S
   · rcases hs.old b' m x with h | h
     · rw[k]at h;exact absurd h n
     · rw[k]at h;exact absurd h p
   · exact y b' m ((hs.same b' m x).2.2.symm.trans k)
 · rcases hs.new b' u s with h | h
   · rw[k]at h;exact absurd h n
   · rw[k]at h;exact absurd h p
def Zbm (c:Option Nat) (dk:Kd α) (j:Nat) (v:α):Pd:=⟨fun g u=>∃b cs t,u=.pointer (some ⟨b,0,none⟩)∧Mine dk (j+1) v g b cs t∧∀b',c=some b'→b=b',[j+1],fun s k ⟨b,cs,t,e,h,m⟩=>⟨b,cs,t,e,h.st s (k _ (by simp)) (by omega),m⟩⟩
instance {c:Option Nat} {j:Nat} {v:α}:NZ (Zbm c dk j v):=⟨fun _ _ ⟨_,_,_,e,_⟩=>⟨_,e⟩⟩
abbrev pBox (dk:Kd α) (j:Nat) (v:α):Pd:=Zbm none dk j v
def Zfj (dk:Kd α) (j:Nat) (v:α) (off:Nat) (di:Kd β) (z:β):Pd:=⟨fun g u=>∃b cs t,u=.pointer (some ⟨b,off,none⟩)∧Mine dk (j+1) v g b cs t∧di.K g z (seg cs off di.sz),[j+1],fun s m ⟨b,cs,t,e,h,k⟩=>⟨b,cs,t,e,h.st s (m _ (by simp)) (by omega),di.mono s.le k⟩⟩
theorem Z6d {j:Nat} {v:α} {g:G} {cs:List Value} {t:TypeId} (m:j≠0) (n:dk.K g v cs):Mine dk j v (g.push cs.toArray t (fun _=>False) j) g.w.heap.size cs t:=by
 refine⟨by rw[Zh1,Zj8];omega,by simp[G.push],fun b' q k=>?_,by rw[Zh1];exact Zn9 ..,dk.mono (Zwf ..) n,fun o=>by simp[G.push]⟩
 by_cases h:b'=g.w.heap.size
 · exact h
 · simp only [G.push,if_neg h] at k
   split at k
   · exact absurd k.symm m
   · rename_i p;exact absurd k p
theorem Zf0 {t:TypeId} {j:Nat} {v:α} (k:(P.info? t).bind (·.zero)=some (mkV dk.ag zs)) (m:∀g,dk.K g v zs) (n:o.op=.alloc t) (p:o.dst=some d):OB P N o uses [(d,pBox dk j v)] [j+1] :=
 Zjr p fun a g hh=>by
   obtain⟨i,q,k⟩:=Zbuk.1 k
   have r:(mkV dk.ag zs).cells=zs.toArray:=Kd.cells_mkV (m g)
   refine⟨.pointer (some ⟨g.w.heap.size,0,none⟩),g.push zs.toArray t (fun _=>False) (j+1),?_,Zn7 ..,g.w.heap.size,zs,t,rfl,Z6d (by omega) (m g),fun _ h=>by cases h⟩
   simp[execOp,n,Instr.alloc,zeroValue,typeInfo,q,k,newVar,newRow,r,Zh1]
theorem Zln {t:TypeId} {j:Nat} {v:α} (k:o.op=.box t x) (n:o.dst=some d) (p:Opd uses x (dk.pd v)):OB P N o uses [(d,pBox dk j v)] [j+1] :=
 Zjr n fun a g hh=>by
   obtain⟨cs,m,q⟩:=p a g hh
   refine⟨.pointer (some ⟨g.w.heap.size,0,none⟩),g.push cs.toArray t (fun _=>False) (j+1),?_,Zn7 ..,g.w.heap.size,cs,t,rfl,Z6d (by omega) m,fun _ h=>by cases h⟩
   have:(a.eval x).cells=cs.toArray:=by rw[q];exact Kd.cells_mkV m
   simp[execOp,k,Instr.box,newVar,newRow,this,Zh1]
theorem Zpv {j:Nat} {v:α} {g:G} {b:Nat} {cs:List Value} {t:TypeId} (h:Mine dk j v g b cs t) (i:Nat) (u:Value) (k:cs[i]?=some u):g.w.cell? ⟨b,i,none⟩=some u:=by
 simp only[World.cell?,h.2.2.2.1]
 simpa using k
theorem Zu4 {c:Option Nat} {t:TypeId} {j:Nat} {v:α} (m:Ty P t dk) (k:o.op=.load t x) (n:o.dst=some d) (p:Opd uses x (Zbm c dk j v)):OB P N o uses [(d,dk.pd v)] [] :=
 Zcl n fun a g hh=>by
   obtain⟨b,cs,t',q,h,s⟩:=p a g hh
   exact⟨mkV dk.ag cs,by simp[execOp,k,q,Instr.loadAt,Instr.sureAddr,Zj6 m h.2.2.2.2.1 (fun i u r=>by rw[Zbuc];exact Zpv h i u r)],cs,h.2.2.2.2.1,rfl⟩
theorem Zv {c:Option Nat} {s i j:Nat} {v:α} {proj:α→β} {off:Nat} (q:Fld P s i dk di proj) (r:(match P.underlying s with | some (.struct F)=>(F[i]?).map (·.offset) | _=>none)=some off) (h:o.op=.fieldAddr s x i) (t:o.dst=some d) (u:Opd uses x (Zbm c dk j v)):OB P N o uses [(d,Zfj dk j v off di (proj v))] [] :=
 Zcl t fun a g hh=>by
   obtain⟨b,cs,t',w,k,e⟩:=u a g hh
   obtain⟨fs,f,m,n,p,l,y,z,_⟩:=q.look
   have:f.offset=off:=by simpa[m,n]using r
   subst this
   exact⟨.pointer (some ⟨b,f.offset,none⟩),by simp[execOp,h,w,Instr.fieldAt,Instr.sureAddr,run_underlying m,n,Zsc p y],b,cs,t',rfl,k,z g v cs k.2.2.2.2.1⟩
theorem Zjn {t:TypeId} {j off:Nat} {v:α} {z:β} (n:Ty P t di) (k:o.op=.load t x) (p:o.dst=some d) (q:Opd uses x (Zfj dk j v off di z)):OB P N o uses [(d,di.pd z)] [] :=
 Zcl p fun a g hh=>by
   obtain⟨b,cs,t',r,s,m⟩:=q a g hh
   refine⟨mkV di.ag (seg cs off di.sz),?_,_,m,rfl⟩
   have:=Zj6 (b:=b) (of:=off) n m (fun i u h=>by
     refine Zpv s (off+i) u ?_
     simp only[seg,Zbty,Zbtz]at h
     split at h
     · exact h
     · cases h)
   simp[execOp,k,r,Instr.loadAt,Instr.sureAddr,this]
def Zr (cs:List Value) (off:Nat) (ys:List Value):List Value:=cs.take off++ys++cs.drop (off+ys.length)
theorem Zb7 {cs ys:List Value} {off:Nat} (h:off+ys.length≤cs.length):(Zr cs off ys).length=cs.length:=by
 simp[Zr];omega
theorem Zb6 {cs ys:List Value} {off n:Nat} (h:off+ys.length≤cs.length) (k:ys.length=n):seg (Zr cs off ys) off n=ys:=by
 subst k
 simp only[seg,Zr,Zbug]
 rw[Zbvr (by simp;omega)]
 have:(cs.take off).length=off:=by simp;omega
 rw[Zbui (by omega),Zbu1,List.take_left']
 rfl
theorem Zj {cs ys:List Value} {off o2 n2:Nat} (h:off+ys.length≤cs.length) (k:o2+n2≤off∨off+ys.length≤o2):seg (Zr cs off ys) o2 n2=seg cs o2 n2:=by
 apply Zbuo
 intro i
 simp only[seg,Zbty,Zbtz]
 split
 · rename_i hi
   simp only[Zr,Zbug,Zbt4,Zbut,Zbty,Zbtz]
   rcases k with k | k
   · rw[if_pos (by omega),if_pos (by omega)]
   · rw [if_neg (by omega)]
     rw[if_neg (by omega)]
     congr 1
     omega
 · rfl
theorem Zf6 (n:Ty P t di) {g:G} {b off:Nat} {cur:Array Value} {tt:TypeId} {ys:List Value} {z:β} (hg:g.w.heap[b]? =some (.cells cur tt (0,0))) (k:di.K g z ys) (m:off+ys.length≤cur.size) :
   (storeVar t ⟨b,off,none⟩ (mkV di.ag ys)).run P g.w=.ok () (g.w.setRow b (cur.toList.take off++ys++cur.toList.drop (off+ys.length)).toArray):=by
 have p:(mkV di.ag ys).cells=ys.toArray:=Kd.cells_mkV k
 have h:=run_storeCells_at P b off tt ys 0 cur g.w hg (by simpa using m) (di.one k)
 simp only[Zbva]at h
 simp only[storeVar,Sem.run_bind,Zi4 n.sz,Result.andThen_ok,p,Sem.run_ite]
 rw[if_neg (by simp[di.len k])]
 simpa using h
def G.wr (g:G) (b:Nat) (cs:Array Value) (n:b<g.w.heap.size) (m:∀o,¬g.pr b o) (P':Nat→Prop) (j:Nat):G where
 w:=g.w.setRow b cs
 pr:=fun b' o=>if b'=b then P' o else g.pr b' o
 own:=fun b'=>if b'=b then j else g.own b'
 hpr:=fun b' o h=>by
   have hs:(g.w.setRow b cs).heap.size=g.w.heap.size:=by simp[World.setRow]
   rw[hs]
   split at h
   · rename_i k;rw[k];exact n
   · exact g.hpr b' o h
 gl:=g.gl.le (fun b' o h=>by
     rw[if_neg (fun k=>m o (by rw[←k];exact h))];exact h) (fun b' o h=>Zqa (setRow_other _ _ _ _ (fun k=>m o (by rw[←k];exact h))))
theorem wr_w (g:G) (b:Nat) (cs:Array Value) (h:b<g.w.heap.size) (k:∀o,¬g.pr b o) (P':Nat→Prop) (j:Nat):(g.wr b cs h k P' j).w=g.w.setRow b cs:=rfl
theorem Zdm (w:World) (b:Nat) (cs:Array Value):(w.setRow b cs).heap.size=w.heap.size:=by simp[World.setRow]
theorem Zmb {g:G} {b:Nat} {cs:Array Value} {p:b<g.w.heap.size} {P':Nat→Prop} {j k:Nat} (q:g.own b=j) (r:k=0∨k=j) (n:∀o,¬g.pr b o):Step [j] g (g.wr b cs p n P' k) where
 le:={
   size:=by rw[wr_w,Zdm];exact Zbub _
   pr:=fun b' o h=>by
     simp only[G.wr]
     split
     · rename_i m;subst m;exact absurd h (n o)
     · exact h
   cell:=fun b' o h=>by
     have:b'≠b:=fun m=>by subst m;exact n o h
     exact Zqa (setRow_other _ _ _ _ this)
   blk:=fun b' h=>setRow_other _ _ _ _ (fun m=>n 0 (by rw[←m];exact h 0))
   dr:=Zbub _ }
 os:=rfl
 tape:=rfl
 output:=rfl
 same:=fun b' _ s=>by
   have:b'≠b:=fun m=>by subst m;exact s (by simp[q])
   exact⟨setRow_other _ _ _ _ this,by simp only[G.wr];funext o;rw[if_neg this],by simp only[G.wr];rw[if_neg this]⟩
 new:=fun b' h1 t=>by rw[wr_w,Zdm]at t;omega
 old:=fun b' _ h=>by
   simp only[G.wr]
   split
   · rcases r with h | h <;> simp[h]
   · exact .inr h
theorem Zz5 {j:Nat} {v v':α} {g:G} {b:Nat} {cs cs':List Value} {t:TypeId} (h:Mine dk j v g b cs t) (n:dk.K g v' cs'):Mine dk j v' (g.wr b cs'.toArray h.1 h.2.2.2.2.2 (fun _=>False) j) b cs' t:=by
 refine⟨by rw[wr_w,Zdm];exact h.1,by simp[G.wr],fun b' k m=>?_,by rw[wr_w];exact setRow_heap _ _ _ _ _ _ h.2.2.2.1,dk.mono (Zmb h.2.1 (.inr rfl) h.2.2.2.2.2).le n,fun o=>by simp[G.wr]⟩
 rw[wr_w,Zdm]at k
 simp only[G.wr]at m
 split at m
 · assumption
 · exact h.2.2.1 b' k m
theorem Zp5 {S:List Nat} {outs:Z8} (k:o.dst=none) (h:∀(a:Act) g,Ze4 uses a g→∃g',(execOp a.eval o).run P g.w=.ok .skip g'.w∧Step S g g'∧∀e∈outs,e.2.p g' (Act.at a e.1)):OB P N o uses outs S:=by
 intro a g K Q hN t m n
 obtain⟨g',q,hs,r⟩:=h a g m
 unfold Oper.wp
 rw[q]
 refine n undef g' hs fun e s=>?_
 rw[k]
 exact r e s
theorem Z9 {c:Option Nat} {t s j:Nat} {v v':α} (w:Ty P t dk) (n:o.op=.store t (.tmp s) y) (x:o.dst=none) (z:Opd uses (.tmp s) (Zbm c dk j v)) (d:Opd uses y (dk.pd v')):OB P N o uses [(s,Zbm c dk j v')] [j+1] :=
 Zp5 x fun a g hh=>by
   obtain⟨b,cs,t',p,h,q⟩:=z a g hh
   obtain⟨ys,m,f⟩:=d a g hh
   have r:ys.length=cs.length:=(dk.len m).trans (dk.len h.2.2.2.2.1).symm
   have k:=Zf6 (off:=0) w h.2.2.2.1 m (by simp[r])
   have u:Act.at a s=.pointer (some ⟨b,0,none⟩):=p
   refine⟨g.wr b ys.toArray h.1 h.2.2.2.2.2 (fun _=>False) (j+1),?_,Zmb h.2.1 (.inr rfl) h.2.2.2.2.2,?_⟩
   · simp only [Zbuc,Zbvv,Zbu1] at k
     rw[Zbui (by simp[r]),Zbur]at k
     simp[execOp,n,p,f,Instr.storeAt,Instr.sureAddr,k,wr_w]
   · intro e i
     rw[Zbtu.1 i]
     exact⟨b,ys,t',u,Zz5 h m,q⟩
theorem Zci {c:Option Nat} {t s j:Nat} {v v':α} (w:Ty P t dk) (n:o.op=.store t (.tmp s) y) (x:o.dst=none) (z:Opd uses (.tmp s) (Zbm c dk j v)) (d:Opd uses y (dk.pd v')):OB P N o uses [(s,dk.ptr v')] [j+1] :=
 Zp5 x fun a g hh=>by
   obtain⟨b,cs,t',p,h,B⟩:=z a g hh
   obtain⟨ys,m,f⟩:=d a g hh
   have q:ys.length=cs.length:=(dk.len m).trans (dk.len h.2.2.2.2.1).symm
   have k:=Zf6 (off:=0) w h.2.2.2.1 m (by simp[q])
   have r:Act.at a s=.pointer (some ⟨b,0,none⟩):=p
   have hs:Step [j+1] g (g.wr b ys.toArray h.1 h.2.2.2.2.2 (fun _=>True) 0):=Zmb h.2.1 (.inl rfl) h.2.2.2.2.2
   refine⟨g.wr b ys.toArray h.1 h.2.2.2.2.2 (fun _=>True) 0,?_,hs,?_⟩
   · simp only [Zbuc,Zbvv,Zbu1] at k
     rw[Zbui (by simp[q]),Zbur]at k
     simp[execOp,n,p,f,Instr.storeAt,Instr.sureAddr,k,wr_w]
   · intro e l
     rw[Zbtu.1 l]
     refine⟨b,0,ys,r,dk.mono hs.le m,fun i u A=>⟨by simp[G.wr],?_⟩⟩
     rw[wr_w,Zbuc]
     simp only[World.cell?,setRow_heap _ _ _ _ _ _ h.2.2.2.1]
     simpa using A
end
section
variable {P:Program} {N:Nat} {o:Oper} {uses:Z8} {d:Nat} {q q':Pd} {x y z:Operand}
variable {α β:Type} {dk:Kd α} {di:Kd β} {t e:TypeId}
theorem Z6j {g:G}:∀(ys:List α) (b off:Nat),(∀i u,ys[i]? =some u→∃cs,dk.K g u cs∧CellsAt g b (off+i*dk.sz) cs) →
   ∃news:List Value,news.length=ys.length*dk.sz∧CellsAt g b off news∧∀i u,ys[i]?=some u→dk.K g u (seg news (i*dk.sz) dk.sz)
 | [],b,off,_=>⟨[],by simp,fun j v h=>by simp at h,fun i u h=>by simp at h⟩
 | u :: ys,b,off,h=>by
   obtain⟨cs,p,q⟩:=h 0 u rfl
   obtain⟨news,r,s,hs⟩:=Z6j ys b (off+dk.sz) fun i w k=>by
     obtain⟨cs,t,h2⟩:=h (i+1) w (by simpa using k)
     exact⟨cs,t,by rwa [show off+dk.sz+i*dk.sz=off+(i+1)*dk.sz by rw[Zbt0];omega]⟩
   have m:=dk.len p
   refine⟨cs++news,by simp[r,m,Zbt0];omega,?_,?_⟩
   · intro j v n
     rw[Zbt4]at n
     split at n
     · have:=q j v n
       simpa using this
     · have:=s (j - cs.length) v n
       rwa [show off+dk.sz+(j-cs.length)=off+j by omega]at this
   · intro i w k
     cases i with
     | zero =>
       simp at k;subst k
       rw[Zbvb]
       have:seg (cs++news) 0 dk.sz=cs:=by
         simp only[seg,Zbvw]
         rw[←m]
         exact Zbwf
       rw[this];exact p
     | succ i =>
       have:=hs i w (by simpa using k)
       have e:seg (cs++news) ((i+1)*dk.sz) dk.sz=seg news (i*dk.sz) dk.sz:=by
         simp only[seg]
         congr 1
         rw[show (i+1)*dk.sz=cs.length+i*dk.sz by rw[Zbt0,m];omega,Zbv5]
         have:(cs.drop (cs.length+i*dk.sz))=[]:=Zbui (by omega)
         rw[this,Zbu1]
         congr 1
         omega
       rw[e];exact this
def Tail (dk:Kd α) (e:TypeId) (j n:Nat) (g:G) (v:Value):Prop :=
 (v=.slice none 0 0∧n=0)∨∃b cap cur,v=.slice (some ⟨b,0,none⟩) n cap∧b<g.w.heap.size∧g.own b=j∧g.w.heap[b]?=some (.cells cur e (0,0))∧n≤cap∧cap≤maxLen∧cur.size=cap*dk.sz∧∀i,n*dk.sz≤i→¬g.pr b i
theorem Tail.st {j n:Nat} {g g':G} {v:Value} {S:List Nat} (hs:Step S g g') (p:j∉S) (h:Tail dk e j n g v):Tail dk e j n g' v:=by
 rcases h with h | ⟨b,cap,cur,rfl,k,m,q,r,s,t,u⟩
 · exact .inl h
 · obtain ⟨k1,k2,k3⟩:=hs.same b k (by rw [m];exact p)
   exact .inr ⟨b,cap,cur,rfl,Zbuw k hs.le.size,k3.trans m,k1.trans q,r,s,t,fun i w=>by rw[k2];exact u i w⟩
def pRow (dk:Kd α) (e:TypeId) (j:Nat) (xs:List α):Pd:=⟨fun g v=>dk.sl.V g xs v∧Tail dk e (j+1) xs.length g v,[j+1],fun s k ⟨h,m⟩=>⟨h.imp fun _ h=>⟨dk.sl.mono s.le h.1,h.2⟩,m.st s (k _ (by simp))⟩⟩
theorem Zdt {j:Nat} {xs:List α} {g:G} {v:Value} (h:(pRow dk e j xs).p g v):(dk.sl.pd xs).p g v:=h.1
theorem Zj1 (j:Nat) (g:G):(pRow dk e j []).p g (.slice none 0 0):=⟨Kd.sl_nil dk g,.inl ⟨rfl,rfl⟩⟩
theorem Zdv (g:G):(dk.sl.pd []).p g (.slice none 0 0):=Kd.sl_nil dk g
structure TE (P:Program) (t e:TypeId) (dk:Kd α) (bytes:Nat):Prop where
 und:P.underlying t=some (.slice e)
 info:∃i z,P.info? e=some i∧i.zero=some z∧i.size=dk.sz∧i.bytes=bytes∧z.cells.size=dk.sz
 sz:0<dk.sz
 by0:0<bytes
theorem TE.of {bytes:Nat} (k:P.underlying t=some (.slice e)) (m:(P.info? e).bind (fun i=>i.zero.map fun z=>(i.size,i.bytes,z.cells.size))=some (dk.sz,bytes,dk.sz)) (hs:0<dk.sz) (n:0<bytes):TE P t e dk bytes:=by
 obtain⟨i,p,q⟩:=Zbuk.1 m
 obtain⟨z,r,h⟩:=Zbt3.1 q
 simp only[Zbu3.injEq]at h
 exact⟨k,⟨i,z,p,r,h.1,h.2.1,h.2.2⟩,hs,n⟩
theorem Zsf {g:G} {ys:List α} {v:Value} (h:dk.sl.V g ys v):∃A c,v=.slice A ys.length c∧ys.length≤c∧ys.length≤9223372036854775807 ∧
   (ys=[]∨∃b off news,A=some ⟨b,off,none⟩∧news.length=ys.length*dk.sz∧CellsAt g b off news∧∀i u,ys[i]?=some u→dk.K g u (seg news (i*dk.sz) dk.sz)):=by
 obtain⟨A,c,rfl,m,n,k⟩:=Kd.sl_V.1 h
 refine⟨A,c,rfl,m,n,?_⟩
 rcases k with k | ⟨b,off,rfl,k⟩
 · exact .inl k
 · obtain ⟨news,p,q,hs⟩:=Z6j ys b off k
   exact .inr ⟨b,off,news,rfl,p,q,hs⟩
theorem Zn6 {g:G} {ys:List α} {news:List Value} (hl:news.length=ys.length*dk.sz) (hs:∀i u,ys[i]?=some u→dk.K g u (seg news (i*dk.sz) dk.sz)) (h:0<dk.sz):∀u∈news,u.oneCell'=true:=by
 intro u m
 obtain⟨k,n,rfl⟩:=Zbwl m
 have p:k/dk.sz<ys.length:=Nat.div_lt_of_lt_mul (by rw[Zbvc];omega)
 have:=hs (k/dk.sz) _ (Zbtv p)
 refine dk.one this _ (Zbuh (i:=k % dk.sz) ?_)
 simp only[seg,Zbty,Zbtz]
 rw[if_pos (Zbv2 _ h),show k/dk.sz*dk.sz+k % dk.sz=k by rw[Zbvc];exact Zbvq k dk.sz,Zbtv n]
theorem Zhf {a b:List Value} {o n:Nat} (h:o+n≤a.length):seg (a++b) o n=seg a o n:=by
 simp only[seg]
 rw[Zbvr (by omega),Zbvs (by simp;omega)]
theorem Zjw {a b:List Value} {o n:Nat}:seg (a++b) (a.length+o) n=seg b o n:=by
 simp only[seg]
 congr 1
 rw[Zbv5]
 rw[Zbui (by omega),Zbu1]
 congr 1;omega
theorem Zp2 {g':G} {b cap n:Nat} {cur:Array Value} {zs:List α} {j:Nat} (y:zs.length=n) (z:b<g'.w.heap.size) (q:g'.own b=j) (hh:g'.w.heap[b]? =some (.cells cur e (0,0))) (h:zs.length≤cap) (r:cap≤maxLen) (s:cur.size=cap*dk.sz)
   (a:∀i u,zs[i]?=some u→dk.K g' u (seg cur.toList (i*dk.sz) dk.sz)) (p:∀i,g'.pr b i↔i<zs.length*dk.sz) (h0:0<dk.sz) (c:zs.length≤9223372036854775807) :
   dk.sl.V g' zs (.slice (some ⟨b,0,none⟩) n cap)∧Tail dk e j zs.length g' (.slice (some ⟨b,0,none⟩) n cap):=by
 subst y
 refine⟨Kd.sl_V.2 ⟨some ⟨b,0,none⟩,cap,rfl,h,c,.inr ⟨b,0,rfl,fun i u t=>⟨_,a i u t,?_⟩⟩⟩,.inr ⟨b,cap,cur,rfl,z,q,hh,h,r,s,fun i hi d=>by have:=(p i).1 d;omega⟩⟩
 intro k v m
 have x:i<zs.length:=(Zbtw.1 t).1
 simp only[seg,Zbty,Zbtz]at m
 split at m
 · rename_i f
   refine⟨(p _).2 ?_,?_⟩
   · have:(i + 1) * dk.sz ≤ zs.length * dk.sz:=Zbtx _ x
     rw[Zbt0]at this;omega
   · simp only [World.cell?,hh]
     simpa using m
 · cases m
theorem Zdg {bytes j:Nat} {xs ys:List α} (f:TE P t e dk bytes) (v':o.op=.call {callee:=.builtin .append,args:=#[x,y],argTypes:=#[t,t]}) (hd:o.dst=some d) (hx:Opd uses x (pRow dk e j xs)) (hy:Opd uses y (dk.sl.pd ys))
   (hl:(xs.length+ys.length)*bytes≤140737488355328):OB P N o uses [(d,pRow dk e j (xs++ys))] [j+1] :=
 Zjr hd fun a g hh=>by
   obtain⟨hV,I⟩:=hx a g hh
   obtain⟨A,c,J,hy2,hy3,x'⟩:=Zsf (hy a g hh)
   obtain⟨i,z,Q,hz,L,m',y'⟩:=f.info
   have z':=f.by0
   have hlen:xs.length+ys.length≤140737488355328:=Zbuy (Zbul _ z') hl
   have r:∀v w',(Builtin.append_ #[t,t] o.type #[a.eval x,a.eval y]).run P g.w=.ok v w'→(execOp a.eval o).run P g.w=.ok (.value v) w':=fun v w' h=>by
     simp[execOp,v',resolve,invoke,builtin,h]
   rcases x' with rfl | ⟨b2,o2,news,rfl,C,M,W⟩
   ·
     refine⟨a.eval x,g,r _ _ ?_,.refl _ _,by rw[Zbur];exact hV,by rw[Zbur];exact I⟩
     rw[J]
     rcases I with ⟨s,X⟩ | ⟨b,cap,cur,s,_,_,hg,M,_⟩
     · rw [s]
       cases A <;> simp[Builtin.append_,run_underlying f.und,sizeOf,typeInfo,Q,Builtin.lenOf,Builtin.firstCells,loadCells,loadCellsFrom]
     · rw [s]
       cases A <;> simp[Builtin.append_,run_underlying f.und,sizeOf,typeInfo,Q,Builtin.lenOf,Builtin.firstCells,M,storeCells,loadCells,loadCellsFrom]
   · by_cases n':ys=[]
     · subst n'
       refine⟨a.eval x,g,r _ _ ?_,.refl _ _,by rw[Zbur];exact hV,by rw[Zbur];exact I⟩
       rw[J]
       rcases I with ⟨s,X⟩ | ⟨b,cap,cur,s,_,_,hg,M,_⟩
       · rw[s];simp[Builtin.append_,run_underlying f.und,sizeOf,typeInfo,Q,Builtin.lenOf,Builtin.firstCells,loadCells,loadCellsFrom]
       · rw[s];simp[Builtin.append_,run_underlying f.und,sizeOf,typeInfo,Q,Builtin.lenOf,Builtin.firstCells,M,storeCells,loadCells,loadCellsFrom]
     · have i':0 < ys.length:=Zbwm.2 n'
       have hn1:∀u∈news,u.oneCell'=true:=Zn6 C W f.sz
       have E:∀k u,news[k]?=some u→g.w.cell? ((⟨b2,o2,none⟩:Addr).add k)=some u:=fun k u n=>by rw[Zdy];exact (M k u n).2
       have R:news.length=ys.length*i.size:=by rw[L];exact C
       have q:(xs++ys).length=xs.length+ys.length:=by simp
       have fresh:∀(olds:List Value) (cap:Nat),olds.length=xs.length*dk.sz→(∀k u,xs[k]? =some u→dk.K g u (seg olds (k*dk.sz) dk.sz))→xs.length+ys.length≤cap→cap≤maxLen →
           ∃g':G,g'.w=g.w.drew.alloc (.cells (olds.toArray++news.toArray++Builtin.zeroCells z.cells (cap-(xs.length+ys.length))) e)∧Step [j+1] g g'∧(pRow dk e j (xs++ys)).p g' (.slice (some ⟨g.w.heap.size,0,none⟩) (xs.length+ys.length) cap):=by
         intro olds cap D hok t' u'
         have hs1:=Step.drew g
         have hs2:=Zn7 g.drew (olds.toArray++news.toArray++Builtin.zeroCells z.cells (cap-(xs.length+ys.length))) e (fun i=>i<(xs++ys).length*dk.sz) (j+1)
         have hs:Step [j+1] g (g.drew.push (olds.toArray++news.toArray++Builtin.zeroCells z.cells (cap-(xs.length+ys.length))) e (fun i=>i<(xs++ys).length*dk.sz) (j+1)):=(hs1.sub (by simp)).trans hs2
         refine⟨_,rfl,hs,?_⟩
         refine Zp2 q (by rw[Zh1,Zj8];exact Zbv6 _) (by simp[G.push,G.drew]) (Zn9 g.drew.w _) (by rw[q];exact t') u' ?_ ?_ (fun i=>by simp[G.push,G.drew]) f.sz (by rw[q];omega)
         · simp only [Zbvj,Zbup,size_zeroCells,y',D,C,← Zbt0]
           congr 1;omega
         · intro k u n
           refine dk.mono hs.le ?_
           have e1:(olds.toArray++news.toArray++Builtin.zeroCells z.cells (cap-(xs.length+ys.length))).toList=olds++(news++(Builtin.zeroCells z.cells (cap-(xs.length+ys.length))).toList):=by simp
           rw[e1]
           rw[Zbt4]at n
           split at n
           · rename_i l
             rw[Zhf (by rw[D];have:(k+1)*dk.sz≤xs.length*dk.sz:=Zbtx _ l;rw[Zbt0]at this;omega)]
             exact hok k u n
           · rename_i l
             have Y:k-xs.length<ys.length:=(Zbtw.1 n).1
             rw[show k*dk.sz=olds.length+(k-xs.length)*dk.sz by rw[D,←Zbt0];congr 1;omega,Zjw,
               Zhf (by rw[C];have:(k-xs.length+1)*dk.sz≤ys.length*dk.sz:=Zbtx _ Y;rw[Zbt0]at this;omega)]
             exact W _ u n
       rcases I with ⟨s,X⟩ | ⟨b,cap,cur,s,Z,a',hg,j',k',d',F⟩
       · have hx0:xs=[]:=Zbua X
         subst hx0
         have T:=run_append_nil (P:=P) g.w t o.type e i z f.und Q hz ⟨b2,o2,none⟩ ys.length c news R E i' (by omega) (by rw[m'];simp at hl;omega)
         have e':=grownCap_ge g.w ys.length 0 e
         have f':=grownCap_le_maxLen g.w ys.length 0 e (by simp only[maxLen];omega)
         obtain⟨g',hw,hs,hp⟩:=fresh [] (grownCap g.w ys.length 0 e) (by simp) (fun k u n=>by simp at n) (by simpa using e') f'
         simp only[List.length_nil,Zbuc]at hw hp
         refine⟨_,g',r _ _ ?_,hs,hp⟩
         rw[s,J,T,hw]
         simp
       ·
         have o':∀k u,xs[k]?=some u→dk.K g u (seg cur.toList (k*dk.sz) dk.sz):=by
           obtain⟨A',c',p',_,_,O⟩:=Kd.sl_V.1 hV
           rw[s]at p'
           injection p' with hA _ _
           rcases O with O | ⟨b',of',hA',O⟩
           · subst O;intro k u n;simp at n
           · rw [hA'] at hA
             injection hA with hA
             injection hA with hA1 hA2
             subst hA1;subst hA2
             intro k u n
             obtain⟨cs,l,hc⟩:=O k u n
             have:seg cur.toList (k*dk.sz) dk.sz=cs:=by
               apply Zbuo
               intro m
               simp only[seg,Zbty,Zbtz]
               split
               · rename_i hm
                 have q':m<cs.length:=by rw[dk.len l];exact hm
                 have U:=(hc m _ (Zbtv q')).2
                 simp only[World.cell?,hg,Zbuc]at U
                 rw[Zbtv q']
                 simpa using U
               · rename_i hm
                 rw[Zbuf (by rw[dk.len l];omega)]
             rw[this];exact l
         by_cases H:xs.length+ys.length≤cap
         · have h':xs.length * i.size + news.length ≤ cur.size:=by rw [C,d',L,← Zbt0];exact Zbtx _ H
           have T:=run_append_room (P:=P) g.w t o.type e i f.und Q b xs.length cap cur hg ⟨b2,o2,none⟩ ys.length c news R E hn1 H h'
           rw[L]at T h'
           have S:(cur.toList.take (xs.length*dk.sz)).length=xs.length*dk.sz:=by simp;omega
           have r':∀b' i,g.pr b' i→(if b' =b then i<(xs++ys).length*dk.sz else g.pr b' i):=fun b' i h=>by
                   split
                   · rename_i B;subst B
                     have U:i<xs.length*dk.sz:=Zbwx fun V=>F i V h
                     have V:xs.length*dk.sz≤(xs++ys).length*dk.sz:=Zbtx _ (by rw[q];omega)
                     omega
                   · exact h
           have s':∀b' i,g.pr b' i→(g.w.setRow b (cur.toList.take (xs.length*dk.sz)++news++cur.toList.drop (xs.length*dk.sz+news.length)).toArray).cell? ⟨b',i,none⟩=g.w.cell? ⟨b',i,none⟩:=fun b' i h=>by
                   by_cases B:b'=b
                   · subst B
                     have U:i<xs.length*dk.sz:=Zbwx fun V=>F i V h
                     simp only[World.cell?,setRow_heap _ _ _ _ _ _ hg,hg]
                     simp only[Option.isSome_none,Zbvy,if_false,Zbvd]
                     rw[Zbug,Zbt4,if_pos (by omega),Zbty,if_pos U]
                     simp
                   · exact Zqa (setRow_other _ _ _ _ B)
           have hs:Step [j+1] g ⟨g.w.setRow b (cur.toList.take (xs.length*dk.sz)++news++cur.toList.drop (xs.length*dk.sz+news.length)).toArray,(fun b' i=>if b' =b then i<(xs++ys).length*dk.sz else g.pr b' i),g.own,fun b' i h=>by
               rw[Zdm]
               split at h
               · rename_i B;rw[B];exact Z
               · exact g.hpr b' i h,g.gl.le r' s'⟩ :=
             { le:={
                 size:=by show _≤(g.w.setRow b _).heap.size;rw[Zdm];exact Zbub _
                 pr:=r'
                 cell:=s'
                 blk:=fun b' h=>setRow_other _ _ _ _ (fun B=>F _ (Zbub _) (by rw[←B];exact h _))
                 dr:=Zbub _ }
               os:=rfl
               tape:=rfl
               output:=rfl
               same:=fun b' _ X=>by
                 have:b'≠b:=fun B=>by subst B;exact X (by simp[a'])
                 exact⟨setRow_other _ _ _ _ this,by funext i;show (if b'=b then _ else _)=_;rw[if_neg this],rfl⟩
               new:=fun b' U V=>by
                 have:(g.w.setRow b (cur.toList.take (xs.length*dk.sz)++news++cur.toList.drop (xs.length*dk.sz+news.length)).toArray).heap.size=g.w.heap.size:=Zdm ..
                 have h2':b'<(g.w.setRow b (cur.toList.take (xs.length*dk.sz)++news++cur.toList.drop (xs.length*dk.sz+news.length)).toArray).heap.size:=V
                 omega
               old:=fun b' _ h=>.inr h }
           refine⟨_,_,r _ _ (by rw[s,J];exact T),hs,?_⟩
           refine Zp2 q (by show b<(g.w.setRow b _).heap.size;rw[Zdm];exact Z) a' (setRow_heap _ _ _ _ _ _ hg) (by rw[q];exact H) k' ?_ ?_ (fun i=>by simp) f.sz (by rw[q];omega)
           · simp only [Zbup,Zbux,Zbut,Zbvm,Zbvt]
             omega
           · intro k u n
             refine dk.mono hs.le ?_
             show dk.K g u (seg (cur.toList.take (xs.length*dk.sz)++news++cur.toList.drop (xs.length*dk.sz+news.length)) (k*dk.sz) dk.sz)
             rw[Zbug]
             rw[Zbt4]at n
             split at n
             · rename_i l
               have hle:k*dk.sz+dk.sz≤xs.length*dk.sz:=by have:(k+1)*dk.sz≤xs.length*dk.sz:=Zbtx _ l;rw[Zbt0]at this;omega
               rw[Zhf (by rw[S];exact hle)]
               have:=o' k u n
               have e2:seg (cur.toList.take (xs.length*dk.sz)) (k*dk.sz) dk.sz=seg cur.toList (k*dk.sz) dk.sz:=by
                 simp only[seg,Zbu5,Zbu6]
                 congr 1;omega
               rw[e2];exact this
             · rename_i l
               have Y:k-xs.length<ys.length:=(Zbtw.1 n).1
               rw[show k*dk.sz=(cur.toList.take (xs.length*dk.sz)).length+(k-xs.length)*dk.sz by rw[S,←Zbt0];congr 1;omega,Zjw,
                 Zhf (by rw[C];have:(k-xs.length+1)*dk.sz≤ys.length*dk.sz:=Zbtx _ Y;rw[Zbt0]at this;omega)]
               exact W _ u n
         · have D:(cur.toList.take (xs.length * dk.sz)).length=xs.length * i.size:=by rw [L,Zbut,show cur.toList.length=cap * dk.sz by simpa using d'];exact Zbu8 (Zbtx _ j')
           have l':∀k u,(cur.toList.take (xs.length*dk.sz))[k]?=some u→g.w.cell? ((⟨b,0,none⟩:Addr).add k)=some u:=fun k u n=>by
             rw[Zdy]
             simp only[World.cell?,hg,Zbuc]
             rw[Zbty]at n
             split at n
             · simpa using n
             · cases n
           have T:=run_append_grow (P:=P) g.w t o.type e i z f.und Q hz ⟨b,0,none⟩ xs.length cap (cur.toList.take (xs.length*dk.sz)) D l' ⟨b2,o2,none⟩ ys.length c news R E (by omega) (by omega) (growslice_fits (by omega) (by rw[m'];exact hl))
           have e':=grownCap_ge g.w (xs.length+ys.length) cap e
           have f':=grownCap_le_maxLen g.w (xs.length+ys.length) cap e (by simp only[maxLen];omega)
           obtain⟨g',hw,hs,hp⟩:=fresh (cur.toList.take (xs.length*dk.sz)) (grownCap g.w (xs.length+ys.length) cap e) (by rw[D,L]) (fun k u n=>by
             have l:=(Zbtw.1 n).1
             have e2:seg (cur.toList.take (xs.length*dk.sz)) (k*dk.sz) dk.sz=seg cur.toList (k*dk.sz) dk.sz:=by
               have:(k+1)*dk.sz≤xs.length*dk.sz:=Zbtx _ l
               rw[Zbt0]at this
               simp only[seg,Zbu5,Zbu6]
               congr 1;omega
             rw[e2];exact o' k u n) e' f'
           refine⟨_,g',r _ _ ?_,hs,hp⟩
           rw[s,J,T,hw]
end
section
variable {P:Program} {N:Nat} {o:Oper} {uses:Z8} {d:Nat} {q:Pd} {x:Operand}
theorem StD.at {D:List Deferred} {L:Z8} {a:Act} {g:G} (h:StD D N L a g) (i:Nat) {e:Nat×Pd} (k:L[i]?=some e):e.2.p g (Act.at a e.1):=h.h e (Zbuh k)
theorem StD.bool {D:List Deferred} {L:Z8} {a:Act} {g:G} (h:StD D N L a g) (i:Nat) {s:Nat} {c:Bool} (k:L[i]?=some (s,Zbo c)):a.eval (.tmp s)=.bool c:=Zms.1 (h.at i k)
theorem StD.imp {D:List Deferred} {L L':Z8} {a:Act} {g:G} (h:StD D N L a g) (k:Ze4 L a g→Ze4 L' a g):StD D N L' a g:=⟨h.size,h.df,k h.h⟩
theorem Zs8 {a:Act} {g:G}:Ze4 [] a g:=fun _ h=>by cases h
theorem Zgv {L:Z8} {a:Act} {g:G} {s:Nat} (h:q.p g (Act.at a s)) (m:Ze4 L a g):Ze4 ((s,q)::L) a g:=fun e k=>by
 rcases Zbt6.1 k with rfl | k
 · exact h
 · exact m e k
theorem Pd.le {g g':G} {v:Value} (m:q.fp=[]) (h:g.le g') (n:g'.w.os=g.w.os) (r:g'.w.tape=g.w.tape) (s:g'.w.output=g.w.output) (t:q.p g v):q.p g' v:=by
 refine q.st (S:=(Zbuq g.w.heap.size).map g.own++(Zbuq g'.w.heap.size).map g'.own) ⟨h,n,r,s,fun b k u=>absurd ?_ u,fun b _ k=>.inr ?_,fun b k _=>.inr ?_⟩ (by rw[m];intro j x;cases x) t
 · exact Zbwh _ (Zbud.2 ⟨b,Zbue.2 k,rfl⟩)
 · exact Zbvo _ (Zbud.2 ⟨b,Zbue.2 k,rfl⟩)
 · exact Zbvo _ (Zbud.2 ⟨b,Zbue.2 (Zbuw k h.size),rfl⟩)
def Left (g:G) (q:Pd):Ending→World→Prop:=fun e w'=>∃g' v,e=.returned v∧w'=g'.w∧Step [] g g'∧q.p g' v
def ArgsOk (A:List Pd) (g:G) (args:List Value):Prop:=args.length=A.length∧∀(i:Nat) (qi:Pd) (u:Value),A[i]?=some qi→args[i]?=some u→qi.p g u
theorem Zf9 {g:G}:ArgsOk [] g []:=⟨rfl,fun i qi u h=>by simp at h⟩
theorem Zsv {A:List Pd} {g:G} {args:List Value} {v:Value} (h:q.p g v) (n:ArgsOk A g args):ArgsOk (q::A) g (v::args):=⟨by simp[n.1],fun i qi u k m=>by
 cases i with
 | zero=>simp at k m;subst k;subst m;exact h
 | succ i=>exact n.2 i qi u (by simpa using k) (by simpa using m)⟩
def FnOk (P:Program) (f:FuncId) (A:List Pd) (q:Pd):Prop:=∀(g:G) (args:List Value),ArgsOk A g args→Calls P f args.toArray g.w (Left g q)
def Fin (g0:G) (q:Pd):Ending→World→Prop:=fun e w'=>∃g1 v,e=.returned v∧w'=g1.w∧Base g0 g1∧q.p g1 v
def Zip (A:List Pd) (s:Nat):Z8:=match A with
 | []=>[]
 | q::A=>(s,q)::Zip A (s+1)
theorem Zpu:∀{A:List Pd} {s:Nat} {e:Nat×Pd},e∈Zip A s→∃i,e.1=s+i∧A[i]?=some e.2
 | q :: A,s,e,h=>by
   rcases Zbt6.1 h with rfl | h
   · exact⟨0,rfl,rfl⟩
   · obtain ⟨i,h1,k⟩:=Zpu h
     exact⟨i+1,by omega,by simpa using k⟩
 | [],_,_,h=>by cases h
theorem Zb9 {f:FuncId} {fn:Func} {c:Code} {A:List Pd} (z:P.funcs[f]? =some fn) (n:fn.body=some c) (d:fn.ntmps=N) (C:A.length≤N) (j:A.all (fun q=>q.fp.isEmpty)=true) (l:q.fp=[])
   (h:∀(a:Act) (g:G),St N (Zip A 0) a g→Base g g→c.wp P (bodyPost P fn (Fin g q)) a g.w):FnOk P f A q:=by
 intro g args m
 let g0:G:=⟨g.w,g.pr,fun _=>0,g.hpr,g.gl⟩
 have u:g.le g0:=⟨Nat.le_refl _,fun _ _ h=>h,fun _ _ _=>rfl,fun _ _=>rfl,Zbub _⟩
 have x:St N (Zip A 0) {tmps:=args.toArray++Zbuu (fn.ntmps-args.toArray.size) undef,defers:=[]} g0:=by
   refine⟨?_,rfl,?_⟩
   · have:=m.1
     simp[d];omega
   · intro e o
     obtain⟨i,B,r⟩:=Zpu o
     have s:i<args.length:=by rw[m.1];exact (Zbtw.1 r).1
     have y:e.2.fp=[]:=by
       have:=Zbt2.1 j e.2 (Zbuh r)
       simpa using this
     have t:Act.at {tmps:=args.toArray++Zbuu (fn.ntmps-args.toArray.size) undef,defers:=[]} e.1=args[i]:=by
       rw[B,Zbuc]
       simp only[Act.at,Zbt9]
       rw[Zbve,if_pos (by simpa using s)]
       simp[s]
     rw[t]
     exact Pd.le y u rfl rfl rfl (m.2 i e.2 _ r (Zbtv s))
 have p:Base g0 g0:=⟨.refl _,rfl,rfl,rfl,fun _ _ _=>⟨rfl,rfl,rfl⟩⟩
 refine Calls.mono (calls_of_wp z n (h _ g0 x p)) ?_
 rintro e w' ⟨g1,v,rfl,rfl,k,t⟩
 refine⟨⟨g1.w,g1.pr,fun b=>if b<g.w.heap.size then g.own b else 0,g1.hpr,g1.gl⟩,v,rfl,rfl,⟨⟨k.le.size,k.le.pr,k.le.cell,k.le.blk,k.le.dr⟩,k.os,k.tape,k.output,fun b n _=>⟨(k.same b n rfl).1,(k.same b n rfl).2.1,if_pos n⟩,fun b n _=>.inl (if_neg (by omega)),fun _ _ h=>by cases h⟩,?_⟩
 exact Pd.le (g:=g1) l ⟨Nat.le_refl _,fun _ _ h=>h,fun _ _ _=>rfl,fun _ _=>rfl,Zbub _⟩ rfl rfl rfl t
theorem Zcr {q1 q2:Pd} {g:G} {v1 v2:Value} (m:q1.p g v1) (n:q2.p g v2):(pTup [q1,q2]).p g (.tuple #[v1,v2]) :=
 ⟨[v1,v2],rfl,rfl,fun i q u h k=>by
   match i,h,k with
   | 0,h,k=>simp at h k;subst h;subst k;exact m
   | 1,h,k=>simp at h k;subst h;subst k;exact n⟩
theorem Zft {q1 q2 q3:Pd} {g:G} {v1 v2 v3:Value} (m:q1.p g v1) (n:q2.p g v2) (r:q3.p g v3):(pTup [q1,q2,q3]).p g (.tuple #[v1,v2,v3]) :=
 ⟨[v1,v2,v3],rfl,rfl,fun i q u h k=>by
   match i,h,k with
   | 0,h,k=>simp at h k;subst h;subst k;exact m
   | 1,h,k=>simp at h k;subst h;subst k;exact n
   | 2,h,k=>simp at h k;subst h;subst k;exact r⟩
def Zfa (tmps:Array Value):ResultVar→Sem Value:=fun
 | .tmp t=>pure (tmps.getD t undef)
 | .cell a t=>do loadVar t (←asAddr (tmps.getD a undef))
theorem Zfu (fn:Func) (tmps:Array Value):results fn tmps=(do let vs ←fn.results.mapM (Zfa tmps);pure (if h:vs.size=1 then vs[0]else .tuple vs)):=rfl
def Zfc (P:Program) (a:Act) (g:G) (r:ResultVar) (v:Value):Prop:=(Zfa a.tmps r).run P g.w=.ok v g.w
theorem Zf {a:Act} {g:G} {s:Nat}:Zfc P a g (.tmp s) (Act.at a s):=rfl
theorem Zbi {c:Option Nat} {a:Act} {g:G} {s t j:Nat} {α:Type} {dk:Kd α} {v:α} (n:Ty P t dk) (h:(Zbm c dk j v).p g (Act.at a s)):∃u,Zfc P a g (.cell s t) u∧(dk.pd v).p g u:=by
 obtain⟨b,cs,t',q,k,_⟩:=h
 refine⟨mkV dk.ag cs,?_,cs,k.2.2.2.2.1,rfl⟩
 have m:a.tmps.getD s undef=.pointer (some ⟨b,0,none⟩):=q
 have:=Zj6 (b:=b) (of:=0) n k.2.2.2.2.1 (fun i u r=>by rw[Zbuc];exact Zpv k i u r)
 simp only[Zfc,Zfa,m,asAddr,Sem.run_bind,Sem.run_pure,Result.andThen_ok,this]
theorem Zba {fn:Func} {r:ResultVar} {v:Value} {a:Act} {g g0:G} {L:Z8} (m:fn.results=#[r]) (h:St N L a g) (n:Base g0 g) (s:Zfc P a g r v) (t:q.p g v):bodyPost P fn (Fin g0 q) .ret a g.w :=
 ⟨h.df,v,by
   have k:(Zfa a.tmps r).run P g.w=.ok v g.w:=s
   simp[Zfu,m,k],g,v,rfl,rfl,n,t⟩
theorem Zdq {fn:Func} {r1 r2:ResultVar} {v1 v2:Value} {a:Act} {g g0:G} {L:Z8} (n:fn.results=#[r1,r2]) (h:St N L a g) (r:Base g0 g) (s:Zfc P a g r1 v1) (t:Zfc P a g r2 v2) (u:q.p g (.tuple #[v1,v2])):bodyPost P fn (Fin g0 q) .ret a g.w :=
 ⟨h.df,_,by
   have k:(Zfa a.tmps r1).run P g.w=.ok v1 g.w:=s
   have m:(Zfa a.tmps r2).run P g.w=.ok v2 g.w:=t
   simp[Zfu,n,k,m],g,_,rfl,rfl,r,u⟩
theorem Zk9 {fn:Func} {r1 r2 r3:ResultVar} {v1 v2 v3:Value} {a:Act} {g g0:G} {L:Z8} (r:fn.results=#[r1,r2,r3]) (h:St N L a g) (s:Base g0 g) (t:Zfc P a g r1 v1) (u:Zfc P a g r2 v2) (v:Zfc P a g r3 v3) (x:q.p g (.tuple #[v1,v2,v3])):bodyPost P fn (Fin g0 q) .ret a g.w :=
 ⟨h.df,_,by
   have k:(Zfa a.tmps r1).run P g.w=.ok v1 g.w:=t
   have m:(Zfa a.tmps r2).run P g.w=.ok v2 g.w:=u
   have n:(Zfa a.tmps r3).run P g.w=.ok v3 g.w:=v
   simp[Zfu,r,k,m,n],g,_,rfl,rfl,s,x⟩
inductive OpdL (uses:Z8):List Operand→List Pd→Prop
 | nil:OpdL uses [] []
 | cons {x:Operand} {q:Pd} {xs:List Operand} {A:List Pd}:Opd uses x q→OpdL uses xs A→OpdL uses (x::xs) (q::A)
theorem OpdL.ok {xs:List Operand} {A:List Pd} (h:OpdL uses xs A) {a:Act} {g:G} (k:Ze4 uses a g):ArgsOk A g (xs.map a.eval):=by
 induction h with
 | nil=>exact Zf9
 | cons h _ ih=>exact Zsv (h a g k) ih
def Zi (P : Program) (f : FuncId) : Prop := (P.funcs[f]?).map (fun fn => (fn.name == "runtime.NumGoroutine", fn.body.isNone)) = some (false, false)
theorem Zgo {f:FuncId} (h:Zi P f) (args:Array Value) (w:World):(callFunc f args).run P w=.ok (.enter f args) w:=by
 obtain⟨fn,m,k⟩:=Zbt3.1 h
 simp only[Zbu3.injEq]at k
 have n : fn.name ≠ "runtime.NumGoroutine" := by simpa using k.1
 have p:fn.body≠none:=by
   intro h
   rw[h]at k
   simp at k
 simp[callFunc,m,n,p]
theorem Zt {f:FuncId} {xs:List Operand} {A:List Pd} {ty:Array TypeId} (k:Zi P f) (m:FnOk P f A q) (n:o.op=.call {callee:=.value (.func f),args:=xs.toArray,argTypes:=ty}) (p:o.dst=some d) (h:OpdL uses xs A):OB P N o uses [(d,q)] []:=by
 intro a g K Q s r t u
 have x:(execOp a.eval o).run P g.w=.ok (.enter f (xs.map a.eval).toArray) g.w:=by
   simp[execOp,n,resolve,Act.eval,Deferred.ofValue,invoke,Zgo k]
 unfold Oper.wp
 rw[x]
 show Calls P f _ g.w _
 refine Calls.mono (m g _ (h.ok t)) ?_
 rintro e w' ⟨g',v,rfl,rfl,hs,y⟩
 refine u v g' hs fun e k=>?_
 rw[Zbtu.1 k,p,Zdn v (by rw[s];exact r d p)]
 exact y
end
theorem Zd {α β:Type} {x:Option α} {f:α→Option β} {r:β} (h:x.bind f=some r):∃y,x=some y∧f y=some r:=Zbuk.1 h
theorem Zdr {β:Type} {c:Prop} [Decidable c] {x:Option β} {r:β} (h:(if c then x else none)=some r):c∧x=some r:=by
 split at h
 · exact⟨by assumption,h⟩
 · cases h
def gd {β:Type} [Inhabited β] (c:Bool) (x:Option β):Option β:=if c then x else some default
theorem Zcb {β:Type} [Inhabited β] {c:Bool} {x:Option β} {y:β} (h:gd c x=some y) (k:c=true):x=some y:=by rw[gd,if_pos k]at h;exact h
theorem V1 {uses:Z8} {x:Operand} {q:Pd} {c:Bool} (h:c=true) (k:Opd uses x (pIf c q)):Opd uses x q:=fun a g hh=>(k a g hh).1 h
theorem Zvp {P:Program} {ops:Array Oper} {N:Nat} {L:Z8} {T:List Spec}:AllOT P ops N L T [] []:=trivial
theorem Zml {P:Program} {ops:Array Oper} {N:Nat} {L:Z8} {T:List Spec} {o:Oper} {os:List Oper} {X:Spec} {Xs:List Spec} (h:OT P ops N o (X.refs.map (Zhg L T)) X.outs X.S) (hs:AllOT P ops N L T os Xs):AllOT P ops N L T (o::os) (X::Xs):=⟨h,hs⟩
theorem StD.pi {D:List Deferred} {N:Nat} {L L':Z8} {a:Act} {g:G} (h:StD D N L a g) (l:List Nat) (k:l.map (fun i=>L[i]?)=L'.map some):StD D N L' a g:=⟨h.size,h.df,fun e m=>by
 have:some e∈L'.map some:=Zbud.2 ⟨e,m,rfl⟩
 rw[←k]at this
 obtain⟨i,_,n⟩:=Zbud.1 this
 exact h.h e (Zbuh n)⟩
theorem Zbr8 {β:Type} {c:Bool} {x y:Option β} {r:Option β} (h:c=true) (H:(if c=true then x else y)=r):x=r:=by rw[if_pos h]at H;exact H
theorem Zbri {β:Type} {c:Bool} {x y:Option β} {r:Option β} (h:c=false) (H:(if c=true then x else y)=r):y=r:=by rw[h]at H;exact H
theorem Oi {α:Type} {a b:α} (h:some a=some b):a=b:=Zbt7.inj h
theorem Zs {P:Program} {Q:Exit→Act→World→Prop} {a:Act} {w:World} {β:Type} {c:Operand} {x y:Code} {t:Bool} {u v r:Option β} (k:a.eval c=.bool t) (H:(if t=true then u else v)=r) (m:u=r→x.wp P Q a w) (n:v=r→y.wp P Q a w):(Code.cond c x y).wp P Q a w:=wp_cond_split k (fun h=>m (Zbr8 h H)) (fun h=>n (Zbri h H))
abbrev Jn (N:Nat) (L:Z8) (a:Act) (w:World) (g0 g:G) (p:Prop):Prop:=w=g.w∧St N L a g∧Base g0 g∧p
theorem Zbd3 {x:Int} (h0:-9223372036854775808≤x) (h1:x≤9223372036854775807):Zbwc.wrap x=x:=by
 rw[Zbwy];omega
section
variable {P:Program} {N:Nat} {o:Oper} {uses:Z8} {d:Nat} {q:Pd} {x y z:Operand} {Q:Exit→Act→World→Prop} {a:Act} {w:World} {K:Act→World→Prop}
theorem Zl (h:K a w):Exit.then K Q .normal a w:=h
theorem Zbx {id:Nat} (h:Q (.exit id) a w):Exit.then K Q (.exit id) a w:=h
theorem Zp (h:Q .ret a w):Exit.then K Q .ret a w:=h
theorem Zbb {id:Nat} (h:Q .normal a w):Exit.inBlock id Q .normal a w:=h
theorem Zcg {id:Nat} (h:Q .normal a w):Exit.inBlock id Q (.exit id) a w:=by simpa[Exit.inBlock]using h
theorem Zbg1 {id id':Nat} (k:id'≠id) (h:Q (.exit id') a w):Exit.inBlock id Q (.exit id') a w:=by simpa[Exit.inBlock,k]using h
theorem Z5 {id:Nat} (h:Q .ret a w):Exit.inBlock id Q .ret a w:=h
theorem Zbq {c:Code} (J:Act→World→Prop) (k:∀a w,J a w→Q .normal a w) (h:c.wp P (Exit.then J Q) a w):c.wp P Q a w:=by
 refine wp_mono h ?_
 intro e a w h
 cases e <;> first | exact k _ _ h | exact h
def bAnd (k:IntKind) (m n:Int):Int:=k.wrap ((BitVec.ofInt k.bits m &&& BitVec.ofInt k.bits n).toNat)
def bOr (k:IntKind) (m n:Int):Int:=k.wrap ((BitVec.ofInt k.bits m ||| BitVec.ofInt k.bits n).toNat)
def bXor (k:IntKind) (m n:Int):Int:=k.wrap ((BitVec.ofInt k.bits m ^^^ BitVec.ofInt k.bits n).toNat)
def Zv9 (k:IntKind) (m n:Int):Int:=k.wrap ((BitVec.ofInt k.bits m &&& ~~~BitVec.ofInt k.bits n).toNat)
theorem Z4m {t ty:TypeId} {k:IntKind} {m n:Int} (h:o.op=.binOp .and t x y ty) (p:o.dst=some d) (q:Opd uses x (pInt k m)) (r:Opd uses y (pInt k n)):OB P N o uses [(d,pInt k (bAnd k m n))] [] :=
 Zm0 h p q r (fun w=>by simp only[binOp,ne_eq,not_true_eq_false,if_false];rfl) (Zhh _ _)
theorem Z7x {t ty:TypeId} {k:IntKind} {m n:Int} (h:o.op=.binOp .or t x y ty) (p:o.dst=some d) (q:Opd uses x (pInt k m)) (r:Opd uses y (pInt k n)):OB P N o uses [(d,pInt k (bOr k m n))] [] :=
 Zm0 h p q r (fun w=>by simp only[binOp,ne_eq,not_true_eq_false,if_false];rfl) (Zhh _ _)
theorem Zbi1 {t ty:TypeId} {k:IntKind} {m n:Int} (h:o.op=.binOp .xor t x y ty) (p:o.dst=some d) (q:Opd uses x (pInt k m)) (r:Opd uses y (pInt k n)):OB P N o uses [(d,pInt k (bXor k m n))] [] :=
 Zm0 h p q r (fun w=>by simp only[binOp,ne_eq,not_true_eq_false,if_false];rfl) (Zhh _ _)
theorem Zbjc {t ty:TypeId} {k:IntKind} {m n:Int} (h:o.op=.binOp .andNot t x y ty) (p:o.dst=some d) (q:Opd uses x (pInt k m)) (r:Opd uses y (pInt k n)):OB P N o uses [(d,pInt k (Zv9 k m n))] [] :=
 Zm0 h p q r (fun w=>by simp only[binOp,ne_eq,not_true_eq_false,if_false];rfl) (Zhh _ _)
theorem Zbqr {t ty:TypeId} {k:IntKind} {m n:Int} (h:o.op=.binOp .quo t x y ty) (p:o.dst=some d) (q:Opd uses x (pInt k m)) (r:Opd uses y (pInt k n)) (s:n≠0):OB P N o uses [(d,pInt k (k.wrap (m.tdiv n)))] [] :=
 Zm0 h p q r (fun w=>by simp[binOp,Op.intDiv,s]) (Zhh _ _)
theorem Zbdd {t:TypeId} {k:IntKind} {n:Int} (h:o.op=.unOp .xor t x) (m:o.dst=some d) (p:k.signed=false) (q:Opd uses x (pInt k n)):OB P N o uses [(d,pInt k (bXor k k.max n))] [] :=
 Zcl m fun a g hh=>⟨.int k (bXor k k.max n),by
   have:(Op.intBits .xor k (if k.signed then -1 else k.max) n).run P g.w=.ok (.int k (bXor k k.max n)) g.w:=by
     rw[p];rfl
   simp[execOp,h,Zcy.1 (q a g hh),Op.unary,this],Zhh _ _ g⟩
theorem Z3j {ty:Array TypeId} {k:IntKind} {m n:Int} (h:o.op=.call {callee:=.builtin .min,args:=#[x,y],argTypes:=ty}) (p:o.dst=some d) (q:Opd uses x (pInt k m)) (r:Opd uses y (pInt k n)):OB P N o uses [(d,pInt k (min m n))] [] :=
 Zcl p fun a g hh=>⟨.int k (min m n),by
   simp[execOp,h,resolve,invoke,builtin,Builtin.min_,Builtin.min2,Zcy.1 (q a g hh),Zcy.1 (r a g hh)];split <;> omega,Zhh _ _ g⟩
theorem Zv5 {ty:Array TypeId} {k:IntKind} {m n:Int} (h:o.op=.call {callee:=.builtin .max,args:=#[x,y],argTypes:=ty}) (p:o.dst=some d) (q:Opd uses x (pInt k m)) (r:Opd uses y (pInt k n)):OB P N o uses [(d,pInt k (max m n))] [] :=
 Zcl p fun a g hh=>⟨.int k (max m n),by
   simp[execOp,h,resolve,invoke,builtin,Builtin.max_,Builtin.max2,Zcy.1 (q a g hh),Zcy.1 (r a g hh)];split <;> omega,Zhh _ _ g⟩
def feql (a b:Nat):Bool:=FloatKind.f64.format.order a b==some .eq
def fneq (a b:Nat):Bool:=FloatKind.f64.format.order a b !=some .eq
def flss (a b:Nat):Bool:=FloatKind.f64.format.order a b==some .lt
theorem Zbkt (w:World) {op:BinOp} {t ty:TypeId} {m n:Nat} (a:Act) (k:o.op=.binOp op t x y ty) (p:a.eval x=.float .f64 m) (q:a.eval y=.float .f64 n) {v:Value} (h:(binOp op t (.float .f64 m) (.float .f64 n)).run P w=.ok v w):(execOp a.eval o).run P w=.ok (.value v) w:=by
 have hg:(eqGuard op t x y (.float .f64 m) (.float .f64 n)).run P w=.ok () w:=by
   unfold eqGuard
   split <;> rfl
 simp[execOp,k,p,q,hg,h]
theorem Z8u {op:BinOp} {t ty:TypeId} {m n:Nat} {v:Value} (k:o.op=.binOp op t x y ty) (r:o.dst=some d) (s:Opd uses x (pFlt m)) (u:Opd uses y (pFlt n)) (h:∀w,(binOp op t (.float .f64 m) (.float .f64 n)).run P w=.ok v w) (z:∀g,q.p g v):OB P N o uses [(d,q)] [] :=
 Zcl r fun a g hh=>⟨v,Zbkt g.w a k (Zm4.1 (s a g hh)) (Zm4.1 (u a g hh)) (h g.w),z g⟩
theorem Z48 {t ty:TypeId} {m n:Nat} (h:o.op=.binOp .eql t x y ty) (k:o.dst=some d) (p:Opd uses x (pFlt m)) (q:Opd uses y (pFlt n)):OB P N o uses [(d,Zbo (feql m n))] []:=Z8u h k p q (fun w=>rfl) (Zgt _)
theorem Zbee {t ty:TypeId} {m n:Nat} (h:o.op=.binOp .neq t x y ty) (k:o.dst=some d) (p:Opd uses x (pFlt m)) (q:Opd uses y (pFlt n)):OB P N o uses [(d,Zbo (fneq m n))] []:=Z8u h k p q (fun w=>rfl) (Zgt _)
theorem Z5d {t ty:TypeId} {m n:Nat} (h:o.op=.binOp .lss t x y ty) (k:o.dst=some d) (p:Opd uses x (pFlt m)) (q:Opd uses y (pFlt n)):OB P N o uses [(d,Zbo (flss m n))] []:=Z8u h k p q (fun w=>rfl) (Zgt _)
theorem Zx4 {α β:Type} (f:α→Sem β) (h:α→β):∀(l:List α) (w:World),(∀x∈l,(f x).run P w=.ok (h x) w)→(l.mapM f).run P w=.ok (l.map h) w
 | [],w,_=>rfl
 | x :: l,w,k=>by
   simp only[List.mapM_cons,Sem.run_bind,k x (by simp),Result.andThen_ok,Zx4 f h l w (fun y m=>k y (Zbuz _ m)),Sem.run_pure,Zbvf]
theorem Zc7 {t:TypeId} {F:Array Field} {zero:Value} {places:List (Nat×Nat)} (s:P.underlying t=some (.struct F)) (n:(P.info? t).bind (·.zero)=some zero) (q:F.toList.map (fun f=>(P.info? f.type).map fun i=>(f.offset,i.size))=places.map some)
   {parts:Array (Nat×Value)} {cells:Array Value} (u:Instr.fill (places.toArray[·]?) zero.cells parts.toList=some cells) (w:World):(Instr.build t parts).run P w=.ok (.agg cells) w:=by
 obtain⟨i,r,n⟩:=Zbuk.1 n
 have v:(F.mapM fun f=>do pure (f.offset,←sizeOf f.type):Sem (Array (Nat×Nat))).run P w=.ok places.toArray w:=by
   have x:∀f∈F.toList,((do pure (f.offset,←sizeOf f.type):Sem (Nat×Nat))).run P w=.ok (f.offset,((P.info? f.type).map (·.size)).getD 0) w:=by
     intro f m
     have:(P.info? f.type).isSome:=by
       have:((P.info? f.type).map fun i=>(f.offset,i.size))∈places.map some:=by rw[←q];exact Zbud.2 ⟨f,m,rfl⟩
       obtain⟨p,_,k⟩:=Zbud.1 this
       cases h:P.info? f.type with
       | none=>rw[h]at k;cases k
       | some _=>rfl
     obtain⟨i,r⟩:=Option.isSome_iff_exists.1 this
     simp[sizeOf,typeInfo,r]
   have y:=Zx4 (P:=P) _ _ F.toList w x
   rw[Array.mapM_eq_mapM_toList]
   simp only[Sem.run_map,y,Result.andThen_ok]
   congr 1
   apply Zbw1
   simp only[List.toList_toArray]
   have z:F.toList.map (fun f=>some (f.offset,((P.info? f.type).map (·.size)).getD 0))=places.map some:=by
     rw[←q]
     refine List.map_congr_left fun f m=>?_
     have:((P.info? f.type).map fun i=>(f.offset,i.size))∈places.map some:=by rw[←q];exact Zbud.2 ⟨f,m,rfl⟩
     obtain⟨p,_,k⟩:=Zbud.1 this
     cases h:P.info? f.type with
     | none=>rw[h]at k;cases k
     | some _=>rfl
   have a:=congrArg (List.filterMap id) z
   simpa[List.filterMap_map]using a
 simp only[Instr.build,zeroValue,typeInfo,Sem.run_bind,run_program,Result.andThen_ok,r,Sem.run_pure,n,run_underlying s]
 simp only[v,Result.andThen_ok,u]
 rfl
theorem Zdj {t:TypeId} {parts:Array (Nat×Operand)} (k:o.op=.build t parts) (m:o.dst=some d) (h:∀(a:Act) g,Ze4 uses a g→∃v,(Instr.build t (parts.map fun (i,x)=>(i,a.eval x))).run P g.w=.ok v g.w∧q.p g v):OB P N o uses [(d,q)] [] :=
 Zcl m fun a g hh=>by
   obtain⟨v,n,r⟩:=h a g hh
   exact⟨v,by simp[execOp,k,n],r⟩
end
theorem Zbm6 {c z:Bool} (h:c=true):true=(c||z):=by rw[h];rfl
theorem Zbnh {c z:Bool} (h:c=false):z=(c||z):=by rw[h];rfl
theorem Zbkd {c z:Bool} (h:c=true):z=(c&&z):=by rw[h];rfl
theorem Zbj7 {c z:Bool} (h:c=false):false=(c&&z):=by rw[h];rfl
theorem Opd.to {uses:Z8} {x:Operand} {q q':Pd} (h:Opd uses x q) (e:q=q'):Opd uses x q':=e▸h
theorem bA {a b:Bool} (h:a=true) (k:b=true):(a&&b)=true:=by rw[h,k];rfl
theorem bNF {a:Bool} (h:a=false):(!a)=true:=by rw[h];rfl
theorem Z6w (off:Nat):∀(l:List Value) (k:Nat) (acc:Array Value),off+k+l.length≤acc.size →
   (l.zipIdx k).foldl (fun cs (p:Value×Nat)=>cs.setIfInBounds (off+p.2) p.1) acc=(acc.toList.take (off+k)++l++acc.toList.drop (off+k+l.length)).toArray
 | [],k,acc,_=>by simp
 | c :: l,k,acc,h=>by
   simp only[List.zipIdx_cons,List.foldl_cons]
   have n:off+k<acc.size:=by simp at h;omega
   rw[Z6w off l (k+1) (acc.setIfInBounds (off+k) c) (by simp at h⊢;omega)]
   apply Zbw1
   simp only[Array.toList_setIfInBounds,Zbu2]
   apply Zbuo
   intro i
   simp only[Zbt4,Zbux,Zbut,List.length_set,Zbty,Zbwr,Zbtz,Zbvt,Zbu2]
   have q:off+k+(l.length+1)≤acc.size:=by simpa using h
   by_cases h1:i<off+k
   · rw[if_pos (by omega),if_pos (by omega),if_pos (by omega),if_neg (by omega),if_pos (by omega),if_pos (by omega),if_pos (by omega)]
   · by_cases m:i=off + k
     · subst m
       rw[if_pos (by omega),if_pos (by omega),if_pos (by omega),if_pos rfl,if_pos (by omega),if_pos (by omega),if_neg (by omega)]
       rw[show off+k-min (off+k) acc.size=0 by omega]
       rfl
     · by_cases h3:i < off + k + (l.length + 1)
       · rw [if_pos (by omega),if_neg (by omega),if_pos (by omega),if_neg (by omega)]
         rw[show i-min (off+k) acc.size=(i-min (off+(k+1)) acc.size)+1 by omega,Zbv8]
       · rw [if_neg (by omega),if_neg (by omega),if_neg (by omega)]
         congr 1
         omega
theorem Zbkh (off:Nat) (l:List Value) (acc:Array Value) (h:off+l.length≤acc.size) :
   l.toArray.zipIdx.foldl (fun cs (c,j)=>cs.setIfInBounds (off+j) c) acc=(acc.toList.take off++l++acc.toList.drop (off+l.length)).toArray:=by
 have:=Z6w off l 0 acc (by simpa using h)
 simp only[Zbva]at this
 rw[←this,←Array.foldl_toList]
 congr 1
 simp
def idxL {α:Type}:Nat→List α→List (Nat×α)
 | _,[]=>[]
 | k,x::xs=>(k,x)::idxL (k+1) xs
theorem Z8p {α β:Type} (f:α→β):∀(k:Nat) (xs:List α),(idxL k xs).map (fun (i,x)=>(i,f x))=idxL k (xs.map f)
 | _,[]=>rfl
 | k,x::xs=>by simp[idxL,Z8p f (k+1) xs]
theorem Zbaz (sz:Nat):∀(vs:List Value) (css:List (List Value)) (k:Nat) (acc:Array Value),vs.map (·.cells)=css.map Zbxa→(∀c∈css,c.length=sz)→(k+vs.length)*sz≤acc.size →
   Instr.fill (fun i=>some (i*sz,sz)) acc (idxL k vs)=some (acc.toList.take (k*sz)++css.flatten++acc.toList.drop ((k+vs.length)*sz)).toArray
 | [],css,k,acc,m,_,_=>by
   have:css=[]:=by simpa using m.symm
   subst this
   simp[idxL,Instr.fill]
 | v::vs,[],k,acc,m,_,_=>by simp at m
 | v :: vs,c :: css,k,acc,m,p,hs=>by
   simp only[Zbvf,List.cons.injEq]at m
   have h:=p c (by simp)
   have q:(k+1+vs.length)*sz≤acc.size:=by simpa[Zbw9,Zbxb 1]using hs
   have r:k*sz+sz≤acc.size:=by
     have:(k+1)*sz≤(k+1+vs.length)*sz:=Zbtx _ (by omega)
     rw[Zbt0]at this;omega
   simp only[idxL,Instr.fill,m.1,Zbup,h]
   rw[if_neg (by simp;omega)]
   rw[Zbkh (k*sz) c acc (by rw[h];exact r)]
   have n:(acc.toList.take (k*sz)++c++acc.toList.drop (k*sz+c.length)).length=acc.size:=by simp[h];omega
   rw[Zbaz sz vs css (k+1) _ m.2 (fun x s=>p x (by simp[s])) (by simp only[Zbup,n];exact q)]
   have e1:(k+1)*sz=k*sz+sz:=by rw[Zbt0,Nat.one_mul]
   have t:(acc.toList.take (k*sz)++c++acc.toList.drop (k*sz+c.length)).take ((k+1)*sz)=acc.toList.take (k*sz)++c:=by
     rw[Zbvs (by simp[h];omega)]
     exact Zbwd (by simp[h];omega)
   have u:(acc.toList.take (k*sz)++c++acc.toList.drop (k*sz+c.length)).drop ((k+1+vs.length)*sz)=acc.toList.drop ((k+(v::vs).length)*sz):=by
     have e2:(k+1+vs.length)*sz=k*sz+sz+vs.length*sz:=by rw[Zbt0,Zbt0,Nat.one_mul]
     have e3:(k+(v::vs).length)*sz=k*sz+sz+vs.length*sz:=by rw[Zbu2,show k+(vs.length+1)=k+1+vs.length by omega,e2]
     rw[e2,e3,Zbv5]
     rw[Zbui (by simp[h];omega),Zbu1,Zbvx]
     congr 1
     simp[h];omega
   rw[t,u]
   simp only[Zbvk,Zbug]
section
variable {P:Program} {N:Nat} {o:Oper} {uses:Z8} {d:Nat} {q q':Pd} {x y z:Operand}
variable {α β:Type} {dk:Kd α} {di:Kd β} {t e:TypeId}
inductive OpdA (uses:Z8) (dk:Kd α):List Operand→List α→Prop
 | nil:OpdA uses dk [] []
 | cons {x:Operand} {y:α} {xs:List Operand} {ys:List α}:Opd uses x (dk.pd y)→OpdA uses dk xs ys→OpdA uses dk (x::xs) (y::ys)
theorem OpdA.cells {xs:List Operand} {ys:List α} (h:OpdA uses dk xs ys) {a:Act} {g:G} (hh:Ze4 uses a g):xs.length=ys.length∧∃css:List (List Value),css.length=ys.length∧(xs.map a.eval).map (·.cells)=css.map Zbxa∧(∀c∈css,c.length=dk.sz) ∧
   ∀i y,ys[i]?=some y→dk.K g y (seg css.flatten (i*dk.sz) dk.sz):=by
 induction h with
 | nil=>exact⟨rfl,[],rfl,rfl,(fun _ h=>by cases h),(fun i y h=>by simp at h)⟩
 | @cons x y xs ys q _ ih =>
   obtain⟨r,css,s,t,u,v⟩:=ih
   obtain⟨cs,m,w⟩:=q a g hh
   have k:=dk.len m
   refine⟨by simp[r],cs::css,by simp[s],?_,?_,?_⟩
   · simp only [Zbvf,List.cons.injEq]
     exact⟨by rw[w];exact Kd.cells_mkV m,t⟩
   · intro c n
     rcases Zbt6.1 n with rfl | n
     · exact k
     · exact u c n
   · intro i z p
     cases i with
     | zero =>
       simp at p;subst p
       rw[Zbvk,Zbvb]
       have:seg (cs++css.flatten) 0 dk.sz=cs:=by
         simp only[seg,Zbvw];rw[←k];exact Zbwf
       rw[this];exact m
     | succ i =>
       rw[Zbvk,show (i+1)*dk.sz=cs.length+i*dk.sz by rw[Zbt0,k];omega,Zjw]
       exact v i z (by simpa using p)
theorem Zbcq {css:List (List Value)} {sz:Nat} (h:∀c∈css,c.length=sz):css.flatten.length=css.length*sz:=by
 induction css with
 | nil=>simp
 | cons c css ih=>simp only[Zbvk,Zbux,Zbu2,h c (by simp),ih (fun x k=>h x (by simp[k])),Zbt0];omega
theorem Z5i {bytes:Nat} (m:TE P t e dk bytes) {xs:List Operand} {ys:List α} (u:OpdA uses dk xs ys) (j:xs.length*dk.sz≤16777216) {a:Act} {g:G} (hh:Ze4 uses a g) :
   ∃ cells:List Value,cells.length=ys.length * dk.sz ∧ (∀ i y,ys[i]?=some y → dk.K g y (seg cells (i * dk.sz) dk.sz)) ∧
     (Instr.buildSlice t xs.length ((idxL 0 xs).toArray.map fun (i,x)=>(i,a.eval x))).run P g.w=.ok (.slice (some ⟨g.w.heap.size,0,none⟩) ys.length ys.length) (g.w.alloc (.cells cells.toArray e)):=by
 obtain⟨v,css,b,c,n,d⟩:=u.cells hh
 obtain⟨i,z,p,f,q,l,o⟩:=m.info
 refine⟨css.flatten,by rw[Zbcq n,b],d,?_⟩
 have r:∀acc:Array Value,acc.size=xs.length*dk.sz→Instr.fill (fun i=>some (i*dk.sz,dk.sz)) acc (idxL 0 (xs.map a.eval))=some css.flatten.toArray:=by
   intro acc h
   rw[Zbaz dk.sz (xs.map a.eval) css 0 acc c n (by simp[h])]
   simp only[Zbvb,Zbvv,Zbu1,Zbuc,Zbuv]
   rw[Zbui (by simp[h]),Zbur]
 have k:((idxL 0 xs).toArray.map fun (i,x)=>(i,a.eval x)).toList=idxL 0 (xs.map a.eval):=by
   simp only[Zbvn]
   exact Z8p a.eval 0 xs
 simp only[Instr.buildSlice,Sem.run_bind,run_underlying m.und,Result.andThen_ok,sizeOf,typeInfo,run_program,p,Sem.run_pure,q]
 rw[if_neg (by omega)]
 simp only[pure_bind]
 rw[←v]
 by_cases s:xs.length*dk.sz=0
 · have:=r ((Zbxd (xs.length * dk.sz)).map (fun x=>(#[]:Array Value)[x % (#[]:Array Value).size]!)) (by simp)
   simp only[s,if_true,Sem.run_pure,Result.andThen_ok,k]at this⊢
   rw[this]
   simp[newRow]
 · have:=r ((Zbxd (xs.length * dk.sz)).map (fun x=>z.cells[x % z.cells.size]!)) (by simp)
   simp only[if_neg s,zeroValue,typeInfo,Sem.run_bind,run_program,Result.andThen_ok,p,Sem.run_pure,f,k,this]
   simp[newRow]
theorem Zgm {bytes:Nat} (k:TE P t e dk bytes) {xs:List Operand} {ys:List α} (m:OpdA uses dk xs ys) (h:xs.length*dk.sz≤16777216) (n:o.op=.buildSlice t xs.length (idxL 0 xs).toArray) (q:o.dst=some d):OB P N o uses [(d,dk.sl.pd ys)] [] :=
 Zjr q fun a g hh=>by
   obtain⟨cells,hl,r,p⟩:=Z5i k m h hh
   have s:=k.sz
   have w:ys.length≤16777216:=by
     have:=(m.cells hh).1
     exact Zbuy (Zbuy (by omega) (Zbul xs.length s)) h
   refine⟨_,g.push cells.toArray e (fun _=>True) 0,by rw[Zh1];simp only[Zbvn]at p;simp[execOp,n];rw[p];rfl,Z4j ..,?_⟩
   refine Kd.sl_V.2 ⟨_,_,rfl,Zbub _,by omega,.inr ⟨_,0,rfl,fun i u v=>⟨_,dk.mono (Zwf ..) (r i u v),?_⟩⟩⟩
   exact (Z4p g cells e 0).seg _ _
theorem Zka {bytes:Nat} (j:Nat) (k:TE P t e dk bytes) {xs:List Operand} {ys:List α} (m:OpdA uses dk xs ys) (h:xs.length*dk.sz≤16777216) (n:o.op=.buildSlice t xs.length (idxL 0 xs).toArray) (r:o.dst=some d):OB P N o uses [(d,pRow dk e j ys)] [j+1] :=
 Zjr r fun a g hh=>by
   obtain⟨cells,s,v,p⟩:=Z5i k m h hh
   have q:=k.sz
   have x:ys.length≤16777216:=by
     have:=(m.cells hh).1
     exact Zbuy (Zbuy (by omega) (Zbul xs.length q)) h
   have hs:=Zn7 g cells.toArray e (fun i=>i<ys.length*dk.sz) (j+1)
   refine⟨_,g.push cells.toArray e (fun i=>i<ys.length*dk.sz) (j+1),by rw[Zh1];simp only[Zbvn]at p;simp[execOp,n];rw[p];rfl,hs,?_⟩
   exact Zp2 rfl (by rw[Zh1,Zj8];exact Zbv6 _) (by simp[G.push]) (Zn9 ..) (Zbub _) (by simp only[maxLen];omega) (by simpa using s) (fun i u w=>dk.mono hs.le (v i u w)) (fun i=>by simp[G.push]) q (by omega)
theorem Zgl {c:Option Nat} {s j off:Nat} {v v' v0:α} {y0 y':β} (d:Ty P t di) (n:o.op=.store t x z) (f:o.dst=none) (hs:Opd uses (.tmp s) (Zbm c dk j v)) (i:Opd uses x (Zfj dk j v0 off di y0)) (l:Opd uses z (di.pd y'))
   (A:∀g cs ys,dk.K g v cs→di.K g y' ys→off+ys.length≤cs.length∧dk.K g v' (Zr cs off ys)):OB P N o uses [(s,Zbm c dk j v')] [j+1] :=
 Zp5 f fun a g hh=>by
   obtain⟨b,cs,t1,B,h,p⟩:=hs a g hh
   obtain⟨b2,cs2,t2,q,k,_⟩:=i a g hh
   obtain⟨ys,r,u⟩:=l a g hh
   have C:b2=b:=h.2.2.1 b2 k.1 k.2.1
   subst C
   obtain⟨m,D⟩:=A g cs ys h.2.2.2.2.1 r
   have w:=Zf6 (off:=off) d h.2.2.2.1 r (by simpa using m)
   have y:Act.at a s=.pointer (some ⟨b2,0,none⟩):=B
   refine⟨g.wr b2 (Zr cs off ys).toArray h.1 h.2.2.2.2.2 (fun _=>False) (j+1),?_,Zmb h.2.1 (.inr rfl) h.2.2.2.2.2,?_⟩
   · simp[execOp,n,q,u,Instr.storeAt,Instr.sureAddr,w,wr_w,Zr]
   · intro e E
     rw[Zbtu.1 E]
     exact⟨b2,_,t1,y,Zz5 h D,p⟩
def cut (xs:List α) (l h:Int):Option (List α):=if 0≤l∧l≤h∧h≤xs.length then some ((xs.drop l.toNat).take (h.toNat-l.toNat))else none
theorem Zbc9 {g:G} {xs r:List α} {l h:Int} {A:Option Addr} {c:Nat} (hc:xs.length≤c) (hm:xs.length≤9223372036854775807) (p:dk.Row g A xs) (k:cut xs l h=some r) :
   0≤l∧l≤h∧h≤xs.length∧dk.sl.V g r (.slice (if c=l.toNat then A else A.map (·.add (l.toNat*dk.sz))) (h.toNat-l.toNat) (c-l.toNat)):=by
 unfold cut at k
 split at k
 · rename_i q
   obtain⟨s,t,v⟩:=q
   injection k with k
   subst k
   refine⟨s,t,v,?_⟩
   have m:((xs.drop l.toNat).take (h.toNat-l.toNat)).length=h.toNat-l.toNat:=by simp;omega
   refine Kd.sl_V.2 ⟨_,c-l.toNat,by rw[m],by rw[m];omega,by rw[m];omega,?_⟩
   rcases p with rfl | ⟨b,o,rfl,p⟩
   · left;simp
   · by_cases w:c=l.toNat
     · left
       apply Zbua
       rw[m];omega
     · right
       refine⟨b,o+l.toNat*dk.sz,by rw[if_neg w];simp[Zdy],fun i u n=>?_⟩
       rw[Zbty]at n
       split at n
       · rw [Zbtz] at n
         obtain⟨cs,x,h4⟩:=p _ u n
         exact⟨cs,x,by rwa [show o+l.toNat*dk.sz+i*dk.sz=o+(l.toNat+i)*dk.sz by rw[Zbt0];omega]⟩
       · cases n
 · cases k
theorem Zzc {g:G} {xs r:List α} {v:Value} (s:P.underlying t=some (.slice e)) (hs:(P.info? e).map (·.size)=some dk.sz) (x:dk.sl.V g xs v) {l h:Int} (m:cut xs l h=some r) (lo n:Option Value)
   (p:(lo=none∧l=0)∨∃k,lo=some (.int k l)) (q:(n=none∧h=xs.length)∨∃k,n=some (.int k h)):∃u,(Instr.sliceAt t v lo n none).run P g.w=.ok u g.w∧dk.sl.V g r u:=by
 obtain⟨A,c,rfl,y,z,a⟩:=Kd.sl_V.1 x
 obtain⟨h0,h1,h2,b⟩:=Zbc9 y z a m
 refine⟨_,?_,b⟩
 have hL:l.toNat≤h.toNat:=by omega
 have d:(0≤l∧l≤(h.toNat:Int)):=by omega
 have f:(0≤h∧h≤(c:Int)):=by omega
 rcases p with ⟨rfl,rfl⟩ | ⟨k,rfl⟩ <;> rcases q with ⟨rfl,rfl⟩ | ⟨k',rfl⟩ <;>
   simp_all [Instr.sliceAt,Instr.slice,Instr.sliceBounds,Instr.sliceBound,run_underlying s,Zi4 hs,asIntOf]
theorem Zbb1 {xs r:List α} {l h:Int} {k k':IntKind} (n:P.underlying t=some (.slice e)) (hs:(P.info? e).map (·.size)=some dk.sz) (m:o.op=.slice t x (some y) (some z) none) (p:o.dst=some d) (q:Opd uses x (dk.sl.pd xs)) (s:Opd uses y (pInt k l)) (v:Opd uses z (pInt k' h)) (w:cut xs l h=some r):OB P N o uses [(d,dk.sl.pd r)] [] :=
 Zcl p fun a g hh=>by
   obtain⟨u,b,c⟩:=Zzc (P:=P) n hs (q a g hh) w (some (.int k l)) (some (.int k' h)) (.inr ⟨k,rfl⟩) (.inr ⟨k',rfl⟩)
   exact⟨u,by simp[execOp,m,Zcy.1 (s a g hh),Zcy.1 (v a g hh),b],c⟩
theorem Z4v {xs r:List α} {l:Int} {k:IntKind} (m:P.underlying t=some (.slice e)) (hs:(P.info? e).map (·.size)=some dk.sz) (h:o.op=.slice t x (some y) none none) (n:o.dst=some d) (p:Opd uses x (dk.sl.pd xs)) (q:Opd uses y (pInt k l)) (s:cut xs l (xs.length:Int)=some r):OB P N o uses [(d,dk.sl.pd r)] [] :=
 Zcl n fun a g hh=>by
   obtain⟨u,v,w⟩:=Zzc (P:=P) m hs (p a g hh) s (some (.int k l)) none (.inr ⟨k,rfl⟩) (.inl ⟨rfl,rfl⟩)
   exact⟨u,by simp[execOp,h,Zcy.1 (q a g hh),v],w⟩
theorem Zz3 {xs r:List α} {h:Int} {k:IntKind} (n:P.underlying t=some (.slice e)) (hs:(P.info? e).map (·.size)=some dk.sz) (m:o.op=.slice t x none (some z) none) (p:o.dst=some d) (q:Opd uses x (dk.sl.pd xs)) (s:Opd uses z (pInt k h)) (v:cut xs 0 h=some r):OB P N o uses [(d,dk.sl.pd r)] [] :=
 Zcl p fun a g hh=>by
   obtain⟨u,w,y⟩:=Zzc (P:=P) n hs (q a g hh) v none (some (.int k h)) (.inl ⟨rfl,rfl⟩) (.inr ⟨k,rfl⟩)
   exact⟨u,by simp[execOp,m,Zcy.1 (s a g hh),w],y⟩
def sidx (s:ByteArray) (n:Int):Option Int:=if 0≤n then (s[n.toNat]?).map (fun b=>(b.toNat:Int))else none
theorem Zr9 {s:ByteArray} {n r:Int} {k:IntKind} (p:P.underlying t=some .string) (m:o.op=.index t x y) (q:o.dst=some d) (u:Opd uses x (pStr s)) (v:Opd uses y (pInt k n)) (h:sidx s n=some r):OB P N o uses [(d,pInt .u8 r)] [] :=
 Zcl q fun a g hh=>by
   unfold sidx at h
   split at h
   · rename_i w
     obtain⟨b,z,rfl⟩:=Zbt3.1 h
     exact⟨.int .u8 b.toNat,by simp[execOp,m,Instr.index,Zog.1 (u a g hh),Zcy.1 (v a g hh),asIntOf,run_underlying p,w,z],Zhh _ _ g⟩
   · cases h
end
section
variable {P:Program} {N:Nat} {o:Oper} {uses:Z8} {d:Nat} {q q':Pd} {x y z:Operand}
abbrev Free (A:List Pd):Prop:=A.all (fun q=>q.fp.isEmpty)=true
theorem Free.at {A:List Pd} (k:Free A) {i:Nat} {qi:Pd} (h:A[i]?=some qi):qi.fp=[]:=by
 have:=Zbt2.1 k qi (Zbuh h)
 simpa using this
theorem ArgsOk.le {A:List Pd} {g g':G} {args:List Value} (n:Free A) (h:g.le g') (p:g'.w.os=g.w.os) (q:g'.w.tape=g.w.tape) (r:g'.w.output=g.w.output) (k:ArgsOk A g args):ArgsOk A g' args :=
 ⟨k.1,fun i qi u m s=>Pd.le (n.at m) h p q r (k.2 i qi u m s)⟩
theorem Z7d {A C:List Pd} {g:G} {as cs:List Value} (h:ArgsOk A g as) (k:ArgsOk C g cs):ArgsOk (A++C) g (as++cs) :=
 ⟨by simp[h.1,k.1],fun i qi u n m=>by
   rw[Zbt4]at n m
   rw[h.1]at m
   split at n
   · rename_i p;rw[if_pos p]at m;exact h.2 i qi u n m
   · rename_i p;rw[if_neg p]at m;exact k.2 _ qi u n m⟩
def pClo (f:FuncId) (C:List Pd) (hC:Free C):Pd:=⟨fun g v=>∃caps:List Value,v=.func (.func f) #[] caps.toArray∧ArgsOk C g caps,[],fun s hd ⟨caps,e,h⟩=>⟨caps,e,h.1,fun i qi u k m=>qi.st s (by rw[hC.at k];intro j n;cases n) (h.2 i qi u k m)⟩⟩
theorem Znl (a:Act) (f:Nat):a.eval (.func f)=.func (.func f) #[] #[]:=rfl
theorem Opd.fnc {f:Nat}:Opd uses (.func f) (pClo f [] rfl):=fun _ _ _=>⟨[],rfl,Zf9⟩
theorem Zbb4 {f:FuncId} {C:List Pd} {hC:Free C} {xs:List Operand} (h:o.op=.makeFunc (.func f) #[] xs.toArray) (k:o.dst=some d) (m:OpdL uses xs C):OB P N o uses [(d,pClo f C hC)] [] :=
 Zcl k fun a g hh=>⟨.func (.func f) #[] (xs.map a.eval).toArray,by simp[execOp,h,Instr.makeFunc],xs.map a.eval,rfl,m.ok hh⟩
theorem Zxo {f:FuncId} {C A:List Pd} {hC:Free C} {xs:List Operand} {ty:Array TypeId} (k:Zi P f) (m:FnOk P f (A++C) q) (n:o.op=.call {callee:=.value x,args:=xs.toArray,argTypes:=ty}) (p:o.dst=some d) (t:Opd uses x (pClo f C hC)) (h:OpdL uses xs A):OB P N o uses [(d,q)] []:=by
 intro a g K Q u r s y
 obtain⟨caps,z,b⟩:=t a g s
 have c:(execOp a.eval o).run P g.w=.ok (.enter f (xs.map a.eval++caps).toArray) g.w:=by
   simp[execOp,n,resolve,z,Deferred.ofValue,invoke,Zgo k]
 unfold Oper.wp
 rw[c]
 show Calls P f _ g.w _
 refine Calls.mono (m g _ (Z7d (h.ok s) b)) ?_
 rintro e w' ⟨g',v,rfl,rfl,hs,i⟩
 refine y v g' hs fun e k=>?_
 rw[Zbtu.1 k,p,Zdn v (by rw[u];exact r d p)]
 exact i
def AUX:Nat:=1000000
structure Zsu (D:Nat→Prop) (g g':G):Prop where
 le:g.le g'
 os:g'.w.os=g.w.os
 tape:g'.w.tape=g.w.tape
 output:g'.w.output=g.w.output
 same:∀b,b<g.w.heap.size→¬D b→g'.w.heap[b]?=g.w.heap[b]?∧g'.pr b=g.pr b
theorem Z14 (w:World) (k:Nat) {t e:TypeId} (h:P.underlying t=some (.pointer e)) (p:Option Addr):(Op.equalIn (k+1) t (.pointer p) (.pointer none)).run P w=.ok p.isNone w:=by
 cases p <;> simp[Op.equalIn,run_underlying h]
theorem Zwm (w:World) {t e:TypeId} (h:P.underlying t=some (.pointer e)) (p:Option Addr):(Op.equal t (.pointer p) (.pointer none)).run P w=.ok p.isNone w:=Z14 w 9999 h p
theorem Zwv {r:Bool} {t ty e:Nat} (k:P.underlying t=some (.pointer e)) (h:o.op=.binOp .eql t x (.const (.pointer none)) ty) (m:o.dst=some d) (n:Opd uses x q) (s:∀g v,q.p g v→∃p,v=.pointer p∧p.isNone=r):OB P N o uses [(d,Zbo r)] [] :=
 Zcl m fun a g hh=>by
   obtain⟨p,u,rfl⟩:=s g _ (n a g hh)
   refine⟨.bool p.isNone,?_,Zgt _ g⟩
   have hg:(eqGuard .eql t x (.const (.pointer none)) (.pointer p) (.pointer none)).run P g.w=.ok () g.w:=by
     unfold eqGuard
     split <;> rfl
   have y:(binOp .eql t (.pointer p) (.pointer none)).run P g.w=.ok (.bool p.isNone) g.w:=by
     show (do pure (.bool (←Op.equal t (.pointer p) (.pointer none))):Sem Value).run P g.w=_
     simp only[Sem.run_bind,Zwm g.w k,Result.andThen_ok,Sem.run_pure]
   have z:a.eval (.const (.pointer none))=.pointer none:=rfl
   simp[execOp,h,u,z,hg,y]
theorem Zbak {r:Bool} {t ty e:Nat} (k:P.underlying t=some (.pointer e)) (h:o.op=.binOp .neq t x (.const (.pointer none)) ty) (m:o.dst=some d) (n:Opd uses x q) (s:∀g v,q.p g v→∃p,v=.pointer p∧p.isNone=r):OB P N o uses [(d,Zbo (!r))] [] :=
 Zcl m fun a g hh=>by
   obtain⟨p,u,rfl⟩:=s g _ (n a g hh)
   refine⟨.bool (!p.isNone),?_,Zgt _ g⟩
   have hg:(eqGuard .neq t x (.const (.pointer none)) (.pointer p) (.pointer none)).run P g.w=.ok () g.w:=by
     unfold eqGuard
     split <;> rfl
   have y:(binOp .neq t (.pointer p) (.pointer none)).run P g.w=.ok (.bool (!p.isNone)) g.w:=by
     show (do pure (.bool (!(←Op.equal t (.pointer p) (.pointer none)))):Sem Value).run P g.w=_
     simp only[Sem.run_bind,Zwm g.w k,Result.andThen_ok,Sem.run_pure]
   have z:a.eval (.const (.pointer none))=.pointer none:=rfl
   simp[execOp,h,u,z,hg,y]
def FinP (Φ:Value→G→Prop):Ending→World→Prop:=fun e w'=>∃g1 v,e=.returned v∧w'=g1.w∧Φ v g1
theorem endP {fn:Func} {Φ:Value→G→Prop} {r:ResultVar} {v:Value} {a:Act} {g:G} {L:Z8} (m:fn.results=#[r]) (h:St N L a g) (n:Zfc P a g r v) (p:Φ v g):bodyPost P fn (FinP Φ) .ret a g.w :=
 ⟨h.df,v,by
   have k:(Zfa a.tmps r).run P g.w=.ok v g.w:=n
   simp[Zfu,m,k],g,v,rfl,rfl,p⟩
end
section
variable {P:Program} {N:Nat} {o:Oper} {uses:Z8} {d:Nat} {q q':Pd} {x y z:Operand}
def Ext (P : Program) (f : FuncId) (e : Array Value → Sem Value) : Prop := ∃ fn, P.funcs[f]? = some fn ∧ (fn.name == "runtime.NumGoroutine") = false ∧ fn.body.isNone = true ∧ (Extern.findNext fn).isNone = true ∧ Extern.find fn = some e
theorem Zbeb {f:FuncId} {e:Array Value→Sem Value} (h:Ext P f e) (args:Array Value) (w:World):(callFunc f args).run P w=((e args).run P w).andThen fun v w'=>.ok (.value v) w':=by
 obtain⟨fn,p,q,r,s,t⟩:=h
 have k:Extern.findNext fn=none:=by simpa using s
 have m : fn.name ≠ "runtime.NumGoroutine" := by simpa using q
 have n:fn.body=none:=by simpa using r
 simp[callFunc,p,m,n,k,t,run_mark]
theorem Zbha {f:FuncId} {e:Array Value→Sem Value} {xs:List Operand} {ty:Array TypeId} (m:Ext P f e) (k:o.op=.call {callee:=.value (.func f),args:=xs.toArray,argTypes:=ty}) (n:o.dst=some d)
   (h:∀(a:Act) g,Ze4 uses a g→∃v,(e (xs.map a.eval).toArray).run P g.w=.ok v g.w∧q.p g v):OB P N o uses [(d,q)] [] :=
 Zcl n fun a g hh=>by
   obtain⟨v,r,s⟩:=h a g hh
   exact⟨v,by simp[execOp,k,resolve,Znl,Deferred.ofValue,invoke,Zbeb m,r],s⟩
theorem Zblu (b:Nat) (g:G):(pFlt b).p g (.float .f64 b):=Zm4.2 rfl
theorem Zwx {f:FuncId} {b:Nat} {ty:Array TypeId} (k:Ext P f Extern.MathFloatBits.float64bits) (h:o.op=.call {callee:=.value (.func f),args:=#[x],argTypes:=ty}) (m:o.dst=some d) (n:Opd uses x (pFlt b)):OB P N o uses [(d,pInt .u64 (b:Int))] [] :=
 Zbha (xs:=[x]) k h m fun a g hh=>⟨.int .u64 b,by simp only[Zbvf,Zbwo,Zm4.1 (n a g hh)];rfl,Zhh _ _ g⟩
theorem Zss {f:FuncId} {n:Int} {ty:Array TypeId} (k:Ext P f Extern.MathFloatBits.float64frombits) (h:o.op=.call {callee:=.value (.func f),args:=#[x],argTypes:=ty}) (m:o.dst=some d) (p:Opd uses x (pInt .u64 n)):OB P N o uses [(d,pFlt n.toNat)] [] :=
 Zbha (xs:=[x]) k h m fun a g hh=>⟨.float .f64 n.toNat,by simp only[Zbvf,Zbwo,Zcy.1 (p a g hh)];rfl,Zblu _ g⟩
theorem Zbre {op:BinOp} {t ty:TypeId} {m n:Nat} {v:Value} (k:o.op=.binOp op t x y ty) (r:o.dst=some d) (s:Opd uses x (pFlt m)) (u:Opd uses y (pFlt n)) (h:∀w,(binOp op t (.float .f64 m) (.float .f64 n)).run P w=.ok v w) (z:∀g,q.p g v):OB P N o uses [(d,q)] [] :=
 Zcl r fun a g hh=>⟨v,by
   have hg:(eqGuard op t x y (.float .f64 m) (.float .f64 n)).run P g.w=.ok () g.w:=by
     unfold eqGuard
     split <;> rfl
   simp[execOp,k,Zm4.1 (s a g hh),Zm4.1 (u a g hh),hg,h],z g⟩
theorem Zboo {t ty:TypeId} {m n r:Nat} (h:o.op=.binOp .quo t x y ty) (k:o.dst=some d) (p:Opd uses x (pFlt m)) (q:Opd uses y (pFlt n)) (s:Ieee.double.div m n=some r):OB P N o uses [(d,pFlt r)] [] :=
 Zbre h k p q (fun w=>by simp[binOp,Op.floatArith,FloatKind.format,s]) (Zblu r)
theorem Zyi {t ty:TypeId} {k yk:IntKind} {m n c:Int} (h:o.op=.binOp .shr t x y ty) (p:o.dst=some d) (q:Opd uses x (pInt k m)) (r:Opd uses y (pInt yk n)) (hn:0≤n) (s:m.fdiv (2^(min n.toNat k.bits))=c):OB P N o uses [(d,pInt k c)] [] :=
 Zcl p fun a g hh=>⟨.int k c,by
   have hg:(eqGuard .shr t x y (.int k m) (.int yk n)).run P g.w=.ok () g.w:=by
     unfold eqGuard
     split <;> rfl
   have u:(binOp .shr t (.int k m) (.int yk n)).run P g.w=.ok (.int k c) g.w:=by
     simp only[binOp,Op.shift]
     rw[if_neg (by omega)]
     simp[s]
   simp[execOp,h,Zcy.1 (q a g hh),Zcy.1 (r a g hh),hg,u],Zhh _ _ g⟩
theorem Z8t {t ty:TypeId} {k yk:IntKind} {m n c:Int} (h:o.op=.binOp .shl t x y ty) (p:o.dst=some d) (q:Opd uses x (pInt k m)) (r:Opd uses y (pInt yk n)) (hn:0≤n) (s:k.wrap (m*2^(min n.toNat k.bits))=c):OB P N o uses [(d,pInt k c)] [] :=
 Zcl p fun a g hh=>⟨.int k c,by
   have hg:(eqGuard .shl t x y (.int k m) (.int yk n)).run P g.w=.ok () g.w:=by
     unfold eqGuard
     split <;> rfl
   have u:(binOp .shl t (.int k m) (.int yk n)).run P g.w=.ok (.int k c) g.w:=by
     simp only[binOp,Op.shift]
     rw[if_neg (by omega)]
     simp[s]
   simp[execOp,h,Zcy.1 (q a g hh),Zcy.1 (r a g hh),hg,u],Zhh _ _ g⟩
def Zblw {α:Type} (xs:List α):Pd:=⟨fun _ v=>∃c,v=.bool c∧(c=true→xs=[]),[],fun _ _ h=>h⟩
theorem Z2o (w:World) (k:Nat) {t e:TypeId} (h:P.underlying t=some (.slice e)) (A:Option Addr) (n c:Nat):(Op.equalIn (k+1) t (.slice A n c) (.slice none 0 0)).run P w=.ok A.isNone w:=by
 cases A <;> simp[Op.equalIn,run_underlying h]
theorem Zbda {α:Type} {dk:Kd α} {xs:List α} {t ty e:TypeId} (n:P.underlying t=some (.slice e)) (m:o.op=.binOp .eql t x (.const (.slice none 0 0)) ty) (p:o.dst=some d) (q:Opd uses x (dk.sl.pd xs)):OB P N o uses [(d,Zblw xs)] [] :=
 Zcl p fun a g hh=>by
   obtain⟨A,c,r,h1,h2,k⟩:=Kd.sl_V.1 (q a g hh)
   refine⟨.bool A.isNone,?_,A.isNone,rfl,fun h=>?_⟩
   · have hg:(eqGuard .eql t x (.const (.slice none 0 0)) (.slice A xs.length c) (.slice none 0 0)).run P g.w=.ok () g.w:=by
       unfold eqGuard
       split <;> rfl
     have s:(binOp .eql t (.slice A xs.length c) (.slice none 0 0)).run P g.w=.ok (.bool A.isNone) g.w:=by
       show (do pure (.bool (←Op.equal t (.slice A xs.length c) (.slice none 0 0))):Sem Value).run P g.w=_
       simp only[Sem.run_bind,Op.equal,Z2o g.w 9999 n,Result.andThen_ok,Sem.run_pure,Op.maxDepth]
     have u:a.eval (.const (.slice none 0 0))=.slice none 0 0:=rfl
     simp[execOp,m,r,u,hg,s]
   · rcases k with k | ⟨b,of,v,_⟩
     · exact k
     · rw[v]at h;cases h
end
section
variable {P:Program} {N:Nat} {o:Oper} {uses:Z8} {d:Nat} {q q':Pd} {x y z:Operand}
variable {α β:Type} {dk:Kd α}
def Kd.arr (n:Nat) (d:Kd α):Kd (List α) where
 sz:=n*d.sz
 ag:=true
 K:=fun g xs cs=>xs.length=n∧cs.length=n*d.sz∧(∀u∈cs,u.oneCell'=true)∧∀i x,xs[i]?=some x→d.K g x (seg cs (i*d.sz) d.sz)
 len:=fun h=>h.2.1
 one:=fun h=>h.2.2.1
 mono:=fun h k=>⟨k.1,k.2.1,k.2.2.1,fun i x m=>d.mono h (k.2.2.2 i x m)⟩
 nag:=fun h=>by cases h
theorem Zbmg {enc:α→List Value} (k:∀g x,dk.K g x (enc x)) (g:G) (xs:List α):(Kd.arr xs.length dk).K g xs (xs.flatMap enc):=by
 induction xs with
 | nil=>exact⟨rfl,by simp,(fun u h=>by cases h),(fun i x h=>by simp at h)⟩
 | cons x xs ih =>
   obtain⟨_,q,r,s⟩:=ih
   have n:=dk.len (k g x)
   refine⟨rfl,by simp only[Zbv1,Zbux,n,q,Zbu2,Zbt0];omega,?_,?_⟩
   · intro u m
     rw[Zbv1]at m
     rcases Zbv9.1 m with m | m
     · exact dk.one (k g x) u m
     · exact r u m
   · intro i y p
     rw[Zbv1]
     cases i with
     | zero =>
       simp at p;subst p
       rw[Zbvb]
       have:seg (enc x++xs.flatMap enc) 0 dk.sz=enc x:=by
         simp only[seg,Zbvw];rw[←n];exact Zbwf
       rw[this];exact k g x
     | succ i =>
       rw[show (i+1)*dk.sz=(enc x).length+i*dk.sz by rw[Zbt0,n];omega,Zjw]
       exact s i y (by simpa using p)
theorem Opd.glob {b:Nat} {v:α} {cells:List Value} (h:(b,cells)∈GL) (k:∀g,dk.K g v cells):Opd uses (.global b) (dk.ptr v):=fun a g _=>by
 refine⟨b,0,cells,rfl,k g,fun i u m=>?_⟩
 rw[Zbuc]
 exact g.gl (b,cells) h i u m
theorem Zsq {t e n:Nat} {k:IntKind} {xs:List α} {i:Int} {y:α} {ix:Operand} (q:P.underlying t=some (.array n e)) (hs:(P.info? e).map (·.size)=some dk.sz) (m:o.op=.indexAddr t x ix) (r:o.dst=some d) (s:Opd uses x ((Kd.arr n dk).ptr xs)) (u:Opd uses ix (pInt k i)) (h:idx xs i=some y):OB P N o uses [(d,dk.ptr y)] [] :=
 Zcl r fun a g hh=>by
   obtain⟨b,of,cs,v,p,w⟩:=s a g hh
   have z:=Zcy.1 (u a g hh)
   unfold idx at h
   split at h
   · rename_i c
     have l:=(Zbtw.1 h).1
     have f:xs.length=n:=p.1
     have j:0≤i∧i<(n:Int):=⟨c,by omega⟩
     exact⟨.pointer (some ⟨b,of+i.toNat*dk.sz,none⟩),by simp[execOp,m,v,z,Instr.indexAt,Instr.sureAddr,asIntOf,run_underlying q,j,Zi4 hs,Zdy],b,_,_,rfl,p.2.2.2 _ _ h,w.seg _ _⟩
   · cases h
end
end Go.CL
namespace Go.CL
open Go Go.RowKit Go.ChangeShapes Go.WideShapes
def GW (w:World) (h:GLok w (fun b _=>b<w.heap.size)):G:=⟨w,fun b _=>b<w.heap.size,fun _=>0,fun _ _ h=>h,h⟩
section
variable {P:Program} {α β:Type} {d:Kd α}
structure Opn (P:Program) (t:TypeId) (d:Kd α) (W:α→Prop):Prop where
 sz:P.cellsOf t=d.sz
 op:∀{H:Type} {enc:TypeId×Value→H} {w:World} {base:Nat} {spare:Nat→Bool} {held:Bool} {fuel:Nat} {cs:List Value} {x:DataW H×List MemPlace} (hg:GLok w (fun b _=>b<w.heap.size)),DataW.trod enc P w base spare held fuel t cs=some x→∃a,d.K (GW w hg) a cs∧W a
 fm:∀{w:World} {r:Reach} {b:Nat} {v:Value},Value.okWide P w r b t v→v=mkV d.ag v.cells.toList
theorem Zbdu {t:TypeId} {k:IntKind} (m:P.underlying t=some (.int k)) (hs:P.cellsOf t=1):Opn P t (Kd.int k) (fun n=>k.min≤n∧n≤k.max) where
 sz:=hs
 op:=fun {H enc w base spare p fuel cs x} hg h=>by
   cases fuel with
   | zero=>cases h
   | succ f =>
     simp only[DataW.trod,m]at h
     split at h <;> try (cases h;done)
     all_goals (try (split at h <;> try (cases h;done)))
     all_goals (try simp_all)
     rename_i q
     exact⟨_,rfl,by simpa[Lit.wf]using q.2⟩
 fm:=fun h=>by
   obtain⟨n,rfl⟩:=okWide_int m h
   rfl
theorem Zbkj {t:TypeId} (k:P.underlying t=some .bool) (hs:P.cellsOf t=1):Opn P t Kd.bool (fun _=>True) where
 sz:=hs
 op:=fun {H enc w base spare m fuel cs x} hg h=>by
   cases fuel with
   | zero=>cases h
   | succ f =>
     simp only[DataW.trod,k]at h
     split at h <;> try (cases h;done)
     all_goals first | exact⟨_,rfl,trivial⟩ | (simp_all;done)
 fm:=fun h=>by
   obtain⟨n,rfl⟩:=okWide_bool k h
   rfl
theorem Zbm9 {t:TypeId} (k:P.underlying t=some .string) (hs:P.cellsOf t=1):Opn P t Kd.str (fun s=>s.size≤maxLen) where
 sz:=hs
 op:=fun {H enc w base spare m fuel cs x} hg h=>by
   cases fuel with
   | zero=>cases h
   | succ f =>
     simp only[DataW.trod,k]at h
     split at h <;> try (cases h;done)
     all_goals (try (split at h <;> try (cases h;done)))
     all_goals (try simp_all)
     rename_i p
     exact⟨_,rfl,p⟩
 fm:=fun h=>by
   obtain⟨n,rfl⟩:=okWide_string k h
   rfl
theorem Zbm4 {t:TypeId} (m:P.underlying t=some (.float .f64)) (hs:P.cellsOf t=1):Opn P t Kd.flt (fun b=>b<2^64) where
 sz:=hs
 op:=fun {H enc w base spare n fuel cs x} hg h=>by
   cases fuel with
   | zero=>cases h
   | succ f =>
     simp only[DataW.trod,m]at h
     split at h <;> try (cases h;done)
     all_goals (try (split at h <;> try (cases h;done)))
     all_goals first | (rename_i k;obtain⟨hk,k⟩:=k;simp_all;subst_vars;exact⟨_,rfl,by simpa[Lit.wf]using k⟩) | (simp_all;done)
 fm:=fun h=>by
   simp only[Value.okWide,m,Cell.okWide]at h
   rename_i v
   cases v <;> simp_all [Cell.ok] <;> rfl
theorem Zbi5 {w:World} {base n:Nat} {A:Addr} {cs:List Value} (h:w.cells? base A n=some cs):cs.length=n∧∀i v,cs[i]?=some v→w.cell? (A.add i)=some v:=by
 unfold World.cells? at h
 split at h
 · have k:cs.length=n:=by simpa using mapM_some_length h
   refine⟨k,fun i v m=>?_⟩
   have p:i<n:=by rw[←k];exact (Zbtw.1 m).1
   rw[mapM_some_get h i i (by simp[p]),m]
 · cases h
theorem Zyy {w:World} {A:Addr} {v:Value} (h:w.cell? A=some v):A=⟨A.block,A.off,none⟩∧A.block<w.heap.size:=by
 obtain⟨b,o,s⟩:=A
 simp only[World.cell?]at h
 split at h
 · rename_i k
   split at h
   · cases h
   · rename_i hs
     have:s=none:=by simpa using hs
     subst this
     exact⟨rfl,(Zbum.1 k).1⟩
 · cases h
theorem Zbdz {Q:Nat→α→Prop}:∀(n:Nat),(∀i,i<n→∃y,Q i y)→∃xs:List α,xs.length=n∧∀i x,xs[i]?=some x→Q i x
 | 0,_=>⟨[],rfl,fun i x h=>by simp at h⟩
 | n + 1,h=>by
   obtain⟨xs,m,p⟩:=Zbdz n fun i hi=>h i (by omega)
   obtain⟨y,q⟩:=h n (by omega)
   refine⟨xs++[y],by simp[m],fun i x k=>?_⟩
   rw[Zbt4]at k
   split at k
   · exact p i x k
   · have:i=n:=by
       have:=(Zbtw.1 k).1
       simp at this;omega
     subst this
     simp[m]at k
     subst k;exact q
theorem Zzd {t e:TypeId} {W:α→Prop} (f:P.underlying t=some (.slice e)) (hs:P.cellsOf t=1) (g:Opn P e d W) (N:0<d.sz):Opn P t d.sl (fun xs=>xs.length≤maxLen∧∀x∈xs,W x) where
 sz:=hs
 op:=fun {H enc w base spare O fuel cs x} hg h=>by
   rcases DataW.trod_slice f h with j | ⟨a,len,cap,elems,rest,n,hn,l,q,hb,hl,Q,R,B,r,Z⟩
   · obtain ⟨rfl,_⟩:=j
     exact⟨[],⟨none,0,rfl,Zbub _,Zbwe _,.inl rfl⟩,Zbwe _,fun _ h=>by cases h⟩
   · subst l
     have C:∀i,i<len→∃y,W y∧∃cs',d.K (GW w hg) y cs'∧∀k v,cs'[k]?=some v→w.cell? ((a.add (i*d.sz)).add k)=some v:=by
       intro i u
       have D:=B i u
       rw[Zbtv (by omega)]at D
       obtain⟨cs',S,T⟩:=Zbuk.1 D
       obtain⟨y,z,U⟩:=g.op hg T
       obtain⟨h4,E⟩:=Zbi5 S
       rw[g.sz]at E
       exact⟨y,U,cs',z,E⟩
     obtain⟨xs,F,m⟩:=Zbdz len C
     have V:len≤9223372036854775807:=by simp only[maxLen]at Q;omega
     refine⟨xs,⟨some a,cap,by rw[F],by omega,by omega,?_⟩,by omega,fun x q=>?_⟩
     · by_cases G:xs=[]
       · exact .inl G
       · right
         have I:0<xs.length:=Zbwm.2 G
         obtain⟨_,cs0,J,L⟩:=m 0 _ (Zbtv I)
         have M:0<cs0.length:=by rw[d.len J];exact N
         have r:=(Zyy (L 0 _ (Zbtv M))).1
         have p:a=⟨a.block,a.off,none⟩:=by
           obtain⟨b,o,s⟩:=a
           have:s=none:=by simpa[Addr.add]using congrArg Addr.spot r
           subst this
           rfl
         refine⟨a.block,a.off,by rw[←p],fun i x q=>?_⟩
         obtain⟨_,cs',z,X⟩:=m i x q
         refine⟨cs',z,fun k v Y=>?_⟩
         have:=X k v Y
         rw[p,Zdy,Zdy]at this
         exact⟨(Zyy this).2,this⟩
     · obtain ⟨i,u⟩:=List.getElem?_of_mem q
       exact (m i x u).1
 fm:=fun h=>by
   obtain⟨A,n,c,rfl⟩:=okWide_slice f h
   rfl
theorem Zrl {t:TypeId} {fs:Array Field} (q:P.underlying t=some (.struct fs)) {H:Type} {enc:TypeId×Value→H} {w:World} {base:Nat} {spare:Nat→Bool} {k:Bool} {fuel:Nat} {cs:List Value} {x:DataW H×List MemPlace} (h:DataW.trod enc P w base spare k fuel t cs=some x) :
   cs.length=P.cellsOf t∧∃n,∀(i:Nat) (f:Field),fs[i]?=some f→∃y,DataW.trod enc P w base spare k n f.type (seg cs f.offset (P.cellsOf f.type))=some y:=by
 obtain⟨xs,n,_,_,r,m,s⟩:=DataW.trod_struct q h
 refine⟨r,n,fun i f p=>?_⟩
 have u:i<xs.length:=by rw[m];exact (Zbum.1 p).1
 have:=s i f p
 rw[Zbtv u]at this
 exact⟨_,this⟩
theorem Zta {t:TypeId} {fs:Array Field} (k:P.underlying t=some (.struct fs)) {w:World} {r:Reach} {b:Nat} {v:Value} (h:Value.okWide P w r b t v):v=mkV true v.cells.toList:=by
 obtain⟨cs,rfl,_⟩:=okWide_struct k h
 simp[mkV,Value.cells]
theorem Zbbm {t:TypeId} {W:α→Prop} (m:Opn P t d W) {H:Type} {enc:TypeId×Value→H} {w:World} {base base':Nat} {spare:Nat→Bool} {k:Bool} {r:Reach} {v:Value} {D:DataW H} {ps:List MemPlace} (hg:GLok w (fun b _=>b<w.heap.size))
   (h:DataW.Trod enc P w base spare k t v D ps) (n:Value.okWide P w r base' t v):∃a,(d.pd a).p (GW w hg) v∧W a:=by
 obtain⟨fuel,h⟩:=h
 obtain⟨a,q,s⟩:=m.op hg h
 exact⟨a,⟨_,q,m.fm n⟩,s⟩
theorem Zbjg {w:World} {hg:GLok w (fun b _=>b<w.heap.size)} {g':G} (h:Step [] (GW w hg) g'):Below w.heap.size w g'.w :=
 ⟨h.os,h.tape,h.output,h.le.size,fun b k=>(h.same b k (by simp)).1⟩
theorem Z67 {H:Type} {enc:TypeId×Value→H} {f:Func} {s:ChangeSpec} {apart k:Bool} {W W':World} {args:Array Value} {v:Value} {ds gs:List (DataW H)} {before pa pv:List MemPlace}
   (q:DataW.Whole enc P f.params.toList s.vars apart W args.toList ds gs before) (r:Below W.heap.size W W')
   (p:DataW.TrodAll enc P W' W.heap.size (fun _=>false) k f.resultTypes.toList (v.resultList f.resultTypes.size) (s.fn H (ds++gs)).results [])
   (m:DataW.TrodAll enc P W' 0 (fun b=>decide (b<W.heap.size)) true f.params.toList args.toList (s.fn H (ds++gs)).args pa)
   (n:DataW.TrodVars enc P W' (fun b=>decide (b<W.heap.size)) s.vars (s.fn H (ds++gs)).vars pv):s.post enc P f apart true k false W args v W' :=
 ⟨ds,gs,before,[],pa,pv,q,p,m,n,r.frame _,fun h=>by cases h⟩
end
end Go.CL
namespace Go.CL
open Go Go.RowKit
section
variable {P:Program}
def Det (P:Program) (t:TypeId):Prop:=∀{w w':World} {base base':Nat} {sp sp':Nat→Bool} {k h:Bool} {fu fu':Nat} {cs cs':List Value} {x x':DataW Unit×List MemPlace},
 DataW.trod (fun _=>()) P w base sp k fu t cs=some x→DataW.trod (fun _=>()) P w' base' sp' h fu' t cs'=some x'→x.1=x'.1→cs=cs'
theorem Zbm0 {t:TypeId} {k:IntKind} (p:P.underlying t=some (.int k)):Det P t:=fun h h' e=>by
 obtain⟨n,rfl,rfl,_⟩:=DataW.trod_int p h
 obtain⟨m,rfl,rfl,_⟩:=DataW.trod_int p h'
 simp at e;rw[e]
theorem Zbn5 {t:TypeId} (k:P.underlying t=some .string):Det P t:=fun h h' e=>by
 obtain⟨n,rfl,rfl,_⟩:=DataW.trod_string k h
 obtain⟨m,rfl,rfl,_⟩:=DataW.trod_string k h'
 simp at e
 obtain⟨⟨n⟩⟩:=n
 obtain⟨⟨m⟩⟩:=m
 simp at e;rw[e]
theorem Zbes {t:TypeId} {fs:Array Field} (q:P.underlying t=some (.struct fs)) (r:∀(i:Nat) (f:Field),fs[i]? =some f→Det P f.type)
   (s:(Zbuq (P.cellsOf t)).all (fun j=>fs.any fun f=>decide (f.offset≤j∧j<f.offset+P.cellsOf f.type))=true):Det P t:=fun {w w' base base' sp sp' hd b fu fu' cs cs' x x'} h h' e=>by
 obtain⟨xs,n,_,rfl,l1,l2,u⟩:=DataW.trod_struct q h
 obtain⟨ys,m,_,rfl,k1,k2,v⟩:=DataW.trod_struct q h'
 simp only[DataW.agg.injEq]at e
 apply Zbuo 
 intro j
 by_cases y:j<P.cellsOf t
 · have:=Zbt2.1 s j (Zbue.2 y)
   obtain⟨i,z,a⟩:=Array.any_eq_true.1 this
   obtain⟨p1,p2⟩:=of_decide_eq_true a
   have k:fs[i]?=some fs[i]:=Zbuj z
   have a1:=u i _ k
   have a2:=v i _ k
   rw[Zbtv (by omega)]at a1 a2
   have p:=r i _ k a1 a2 (by
     have:=congrArg (fun l:List (DataW Unit)=>l[i]?) e
     simp only[Zbt1]at this
     rw[Zbtv (by omega),Zbtv (by omega)]at this
     exact Zbt7.inj this)
   have:=congrArg (fun l:List Value=>l[j-fs[i].offset]?) p
   simp only[Zbty,Zbtz]at this
   rw[if_pos (by omega),if_pos (by omega),show fs[i].offset+(j-fs[i].offset)=j by omega]at this
   exact this
 · rw[Zbuf (by omega),Zbuf (by omega)]
theorem Zboa {t e n:Nat} (q:P.underlying t=some (.array n e)) (y:Det P e) (z:P.cellsOf t=n*P.cellsOf e):Det P t:=fun {w w' base base' sp sp' m c fu fu' cs cs' x x'} h h' ee=>by
 obtain⟨xs,n',_,rfl,l1,l2,a⟩:=DataW.trod_array q h
 obtain⟨ys,m',_,rfl,k1,k2,b⟩:=DataW.trod_array q h'
 simp only[DataW.agg.injEq]at ee
 apply Zbuo 
 intro j
 by_cases r:j<P.cellsOf t
 · have s:0<P.cellsOf e:=by
     rcases Zbvi (P.cellsOf e)with p | p
     · rw[z,p]at r;simp at r
     · exact p
   have u:j/P.cellsOf e<n:=by rw[Nat.div_lt_iff_lt_mul s];omega
   have a1:=a _ u
   have a2:=b _ u
   rw[Zbtv (by omega)]at a1 a2
   have k:=y a1 a2 (by
     have:=congrArg (fun l:List (DataW Unit)=>l[j/P.cellsOf e]?) ee
     simp only[Zbt1]at this
     rw[Zbtv (by omega),Zbtv (by omega)]at this
     exact Zbt7.inj this)
   have:=congrArg (fun l:List Value=>l[j % P.cellsOf e]?) k
   have v:=Zbv2 j s
   have m:=Zbvq j (P.cellsOf e)
   rw[Zbvc]at m
   simp only[Zbty,Zbtz]at this
   rw[if_pos v,if_pos v,m]at this
   exact this
 · rw[Zbuf (by omega),Zbuf (by omega)]
theorem Zbj8 {nm:String} {d:DataW Unit} {g t:Nat} {W w0:World} {cells:List Value} {fu:Nat} (hg:P.globalNamed nm=some g) (s:(P.globals[g]?).map (·.type)=some t) (u:Det P t)
   (w:(DataW.trod (fun _=>()) P w0 0 (fun _=>true) false fu t cells).map (·.1)=some d) (y:d.handleName?.isNone=true)
   (h:laidMetH P [(nm,d)] W):∀i v,cells[i]?=some v→W.cell? ⟨g,i,none⟩=some v:=by
 rw[MakeChecks.laidMetH_plain _ _ _ (by simp[y])]at h
 obtain⟨ps,⟨g',t',cs,f,p,q,k,m,z,n,_⟩,_⟩:=h
 obtain rfl:=Zbt7.inj (hg.symm.trans k)
 obtain rfl:=Zbt7.inj (s.symm.trans m)
 obtain⟨x,a,r⟩:=Zbt3.1 w
 have:=u n a r.symm
 intro i v b
 rw[World.var?_cell hg z i,←b,←this]
 simp
end
section
variable {P:Program} {N:Nat} {ops:Array Oper} {L:Z8} {T:List Spec} {F:List Ref} {o:Oper} {os:List Oper} {X:Spec} {Xs:List Spec} {uses:Z8} {S:List Nat} {d j s:Nat} {q:Pd} {D:List Deferred}
theorem r_g {id:Nat} {draw:Bool} {g0:G} {a:Act} {g:G} {Q:Exit→Act→World→Prop} (h:StD D N L a g) (k:Base g0 g) (m:P.follows .mixedOrders=true) (n:AllOT P ops N L T ops.toList T)
   (p:∀a g,StD D N (F.map (Zhg L T)) a g→Base g0 g→Q .normal a g.w) (q:chk N ops L T F=true:=by kernel_rfl):(Code.region id ops draw).wp P Q a g.w:=Zud m q n h k p
theorem r_s {id:Nat} {draw:Bool} {g0:G} {a:Act} {g:G} {Q:Exit→Act→World→Prop} {y:Code} (h:StD D N L a g) (k:Base g0 g) (m:P.follows .mixedOrders=true) (n:AllOT P ops N L T ops.toList T)
   (p:∀a g,StD D N (F.map (Zhg L T)) a g→Base g0 g→y.wp P Q a g.w) (q:chk N ops L T F=true:=by kernel_rfl):(Code.seq (Code.region id ops draw) y).wp P Q a g.w:=wp_seq (Zud m q n h k p)
theorem o_p (hg:o.guard=none) (h:OB P N o (X.refs.map (Zhg L T)) X.outs X.S) (hs:AllOT P ops N L T os Xs):AllOT P ops N L T (o::os) (X::Xs):=⟨.plain hg h,hs⟩
theorem g_t {c:Bool} (hg:o.guard=some (j,true)) (k:(ops[j]?).bind (·.dst)=some d) (m:o.dst=some s) (h:c=true→OB P N o uses [(s,q)] S):OT P ops N o ((d,Zbo c)::uses) [(s,pIf c q)] S :=
 OT.guard (outs:=[(s,q)]) c (gT c).1 (gT c).2 hg k (fun e n=>by rw[Zbtu.1 n];exact m) h
theorem g_f {c:Bool} (hg:o.guard=some (j,false)) (k:(ops[j]?).bind (·.dst)=some d) (m:o.dst=some s) (h:(!c)=true→OB P N o uses [(s,q)] S):OT P ops N o ((d,Zbo c)::uses) [(s,pIf (!c) q)] S :=
 OT.guard (outs:=[(s,q)]) (!c) (gF c).1 (gF c).2 hg k (fun e n=>by rw[Zbtu.1 n];exact m) h
theorem g_ti {b c:Bool} (hg:o.guard=some (j,true)) (k:(ops[j]?).bind (·.dst)=some d) (m:o.dst=some s) (h:(b&&c)=true→OB P N o uses [(s,q)] S):OT P ops N o ((d,pIf b (Zbo c))::uses) [(s,pIf (b&&c) q)] S :=
 OT.guard (outs:=[(s,q)]) (b&&c) (giT b c).1 (giT b c).2 hg k (fun e n=>by rw[Zbtu.1 n];exact m) h
theorem g_fi {b c:Bool} (hg:o.guard=some (j,false)) (k:(ops[j]?).bind (·.dst)=some d) (m:o.dst=some s) (h:(b&&!c)=true→OB P N o uses [(s,q)] S):OT P ops N o ((d,pIf b (Zbo c))::uses) [(s,pIf (b&&!c) q)] S :=
 OT.guard (outs:=[(s,q)]) (b&&!c) (giF b c).1 (giF b c).2 hg k (fun e n=>by rw[Zbtu.1 n];exact m) h
theorem Zb3 {c e:Bool} {x z:Operand} (k:o.op=.pick x (.const (.bool true)) z) (m:o.dst=some d) (n:Opd uses x (Zbo c)) (p:c=false→Opd uses z (Zbo e)):OB P N o uses [(d,Zbo (c||e))] [] :=
 Zbdr k m n (fun h=>Opd.to (Opd.c (Zgt _)) (congrArg (fun t=>Zbo t) (Zbm6 h))) (fun h=>Opd.to (p h) (congrArg (fun t=>Zbo t) (Zbnh h)))
theorem Zbs {c e:Bool} {x y:Operand} (k:o.op=.pick x y (.const (.bool false))) (m:o.dst=some d) (n:Opd uses x (Zbo c)) (p:c=true→Opd uses y (Zbo e)):OB P N o uses [(d,Zbo (c&&e))] [] :=
 Zbdr k m n (fun h=>Opd.to (p h) (congrArg (fun t=>Zbo t) (Zbkd h))) (fun h=>Opd.to (Opd.c (Zgt _)) (congrArg (fun t=>Zbo t) (Zbj7 h)))
theorem U6 {k:IntKind} {n:Int}:Opd uses (.const (.int k n)) (pInt k n):=Opd.c (Zhh _ _)
theorem c_b {b:Bool}:Opd uses (.const (.bool b)) (Zbo b):=Opd.c (Zgt _)
theorem c_s {b:ByteArray}:Opd uses (.const (.string b)) (pStr b):=Opd.c (fun _=>Zog.2 rfl)
theorem c_f {b:Nat}:Opd uses (.const (.float .f64 b)) (pFlt b):=Opd.c (fun _=>Zm4.2 rfl)
theorem U0:Opd ((s,q)::uses) (.tmp s) q:=Opd.t0
theorem U1 {e:Nat×Pd}:Opd (e::(s,q)::uses) (.tmp s) q:=Opd.tl U0
theorem U7 {e f:Nat×Pd}:Opd (e::f::(s,q)::uses) (.tmp s) q:=Opd.tl U1
theorem u_3 {e f g:Nat×Pd}:Opd (e::f::g::(s,q)::uses) (.tmp s) q:=Opd.tl U7
theorem u_4 {e f g h:Nat×Pd}:Opd (e::f::g::h::(s,q)::uses) (.tmp s) q:=Opd.tl u_3
theorem o_n:AllOT P ops N L T [] []:=trivial
theorem Qm {x:Operand} {R:List Ref} {A W:List Nat} (h:(o.guard,o.op,o.dst)=(none,Op.move x,some d)) (k:Opd (R.map (Zhg L T)) x q) (hs:AllOT P ops N L T os Xs):AllOT P ops N L T (o::os) (⟨R,[(d,q)],[],A,W⟩::Xs):=by
 simp only[Zbu3.injEq]at h;exact o_p h.1 (Zx h.2.1 h.2.2 k) hs
theorem Qa {x:Operand} {R:List Ref} {A W:List Nat} (h:(o.guard,o.op,o.dst)=(none,Op.assign x,some d)) (k:Opd (R.map (Zhg L T)) x q) (hs:AllOT P ops N L T os Xs):AllOT P ops N L T (o::os) (⟨R,[(d,q)],[],A,W⟩::Xs):=by
 simp only[Zbu3.injEq]at h;exact o_p h.1 (Zc h.2.1 h.2.2 k) hs
theorem Qb {x:Operand} {R:List Ref} {A W:List Nat} {α:Type} {dk:Kd α} {t:TypeId} {v:α} (h:(o.guard,o.op,o.dst)=(none,Op.box t x,some d)) (k:Opd (R.map (Zhg L T)) x (dk.pd v)) (hs:AllOT P ops N L T os Xs):AllOT P ops N L T (o::os) (⟨R,[(d,dk.ptr v)],[],A,W⟩::Xs):=by
 simp only[Zbu3.injEq]at h;exact o_p h.1 (Zbt h.2.1 h.2.2 k) hs
theorem Qn {x:Operand} {R:List Ref} {A W:List Nat} {t:TypeId} {bb:Bool} (h:(o.guard,o.op,o.dst)=(none,Op.unOp .not t x,some d)) (k:Opd (R.map (Zhg L T)) x (Zbo bb)) (hs:AllOT P ops N L T os Xs):AllOT P ops N L T (o::os) (⟨R,[(d,Zbo (!bb))],[],A,W⟩::Xs):=by
 simp only[Zbu3.injEq]at h;exact o_p h.1 (Zct h.2.1 h.2.2 k) hs
theorem Ql {x:Operand} {R:List Ref} {A W:List Nat} {α:Type} {dk:Kd α} {t:TypeId} {v:α} (h:(o.guard,o.op,o.dst)=(none,Op.load t x,some d)) (k:Ty P t dk) (m:Opd (R.map (Zhg L T)) x (dk.ptr v)) (hs:AllOT P ops N L T os Xs):AllOT P ops N L T (o::os) (⟨R,[(d,dk.pd v)],[],A,W⟩::Xs):=by
 simp only[Zbu3.injEq]at h;exact o_p h.1 (Z2 k h.2.1 h.2.2 m) hs
theorem Qf {x:Operand} {R:List Ref} {A W:List Nat} {α:Type} {dk:Kd α} {β:Type} {di:Kd β} {t:TypeId} {i:Nat} {v:α} {pj:α→β} (h:(o.guard,o.op,o.dst)=(none,Op.fieldAddr t x i,some d)) (k:Fld P t i dk di pj) (m:Opd (R.map (Zhg L T)) x (dk.ptr v)) (hs:AllOT P ops N L T os Xs):AllOT P ops N L T (o::os) (⟨R,[(d,di.ptr (pj v))],[],A,W⟩::Xs):=by
 simp only[Zbu3.injEq]at h;exact o_p h.1 (Zq k h.2.1 h.2.2 m) hs
theorem QM {x:Operand} {R:List Ref} {A W:List Nat} {α:Type} {dk:Kd α} {t:TypeId} {c:Option Nat} {jj:Nat} {v:α} (h:(o.guard,o.op,o.dst)=(none,Op.load t x,some d)) (k:Ty P t dk) (m:Opd (R.map (Zhg L T)) x (Zbm c dk jj v)) (hs:AllOT P ops N L T os Xs):AllOT P ops N L T (o::os) (⟨R,[(d,dk.pd v)],[],A,W⟩::Xs):=by
 simp only[Zbu3.injEq]at h;exact o_p h.1 (Zu4 k h.2.1 h.2.2 m) hs
theorem QP {x:Operand} {R:List Ref} {A W:List Nat} {α:Type} {dk:Kd α} {β:Type} {di:Kd β} {t:TypeId} {v:α} {z:β} {jj:Nat} {off:Nat} (h:(o.guard,o.op,o.dst)=(none,Op.load t x,some d)) (k:Ty P t di) (m:Opd (R.map (Zhg L T)) x (Zfj dk jj v off di z)) (hs:AllOT P ops N L T os Xs):AllOT P ops N L T (o::os) (⟨R,[(d,di.pd z)],[],A,W⟩::Xs):=by
 simp only[Zbu3.injEq]at h;exact o_p h.1 (Zjn k h.2.1 h.2.2 m) hs
theorem Qg_t {c:Bool} (hh:(o.guard,(ops[j]?).bind (·.dst),o.dst)=(some (j,true),some d,some s)) (h:c=true→OB P N o uses [(s,q)] S):OT P ops N o ((d,Zbo c)::uses) [(s,pIf c q)] S:=by
 simp only[Zbu3.injEq]at hh;exact g_t hh.1 hh.2.1 hh.2.2 h
theorem Qg_f {c:Bool} (hh:(o.guard,(ops[j]?).bind (·.dst),o.dst)=(some (j,false),some d,some s)) (h:(!c)=true→OB P N o uses [(s,q)] S):OT P ops N o ((d,Zbo c)::uses) [(s,pIf (!c) q)] S:=by
 simp only[Zbu3.injEq]at hh;exact g_f hh.1 hh.2.1 hh.2.2 h
theorem Qg_ti {b c:Bool} (hh:(o.guard,(ops[j]?).bind (·.dst),o.dst)=(some (j,true),some d,some s)) (h:(b&&c)=true→OB P N o uses [(s,q)] S):OT P ops N o ((d,pIf b (Zbo c))::uses) [(s,pIf (b&&c) q)] S:=by
 simp only[Zbu3.injEq]at hh;exact g_ti hh.1 hh.2.1 hh.2.2 h
theorem Qg_fi {b c:Bool} (hh:(o.guard,(ops[j]?).bind (·.dst),o.dst)=(some (j,false),some d,some s)) (h:(b&&!c)=true→OB P N o uses [(s,q)] S):OT P ops N o ((d,pIf b (Zbo c))::uses) [(s,pIf (b&&!c) q)] S:=by
 simp only[Zbu3.injEq]at hh;exact g_fi hh.1 hh.2.1 hh.2.2 h
theorem Qe {a b:Nat} (h:Nat.ble a b=true):a≤b:=Nat.le_of_ble_eq_true h
theorem Qc {α:Type _} {p:α→Prop} {a:α} {l:List α}:(∀x∈a::l,p x)↔p a∧∀x∈l,p x:=List.forall_mem_cons
end
section
variable {P:Program} {N:Nat} {o:Oper} {uses:Z8} {d:Nat} {q q1:Pd} {x y z:Operand} {α β:Type} {k1:Kd α} {k2:Kd β} {x0 x1:α} {y0 y1:β}
def Z75 (b:Nat):Value:=.pointer (some ⟨b,0,none⟩)
def Z0g (dk:Kd α) (v:α) (g:G) (b:Nat):Prop:=b<g.w.heap.size∧(∃cs t,g.w.heap[b]?=some (.cells cs.toArray t (0,0))∧dk.K g v cs)∧∀o,¬g.pr b o
theorem Zdu {b j:Nat} {v:α} {g:G} {u:Value} (h:(Zbm (some b) k1 j v).p g u):Z0g k1 v g b:=by
 obtain⟨b',cs,t,e,k,m⟩:=h
 obtain rfl:=m b rfl
 exact⟨k.1,⟨cs,t,k.2.2.2.1,k.2.2.2.2.1⟩,k.2.2.2.2.2⟩
inductive Par:Type 1
 | val (q:Pd)
 | box {α:Type} (k:Kd α) (x0 x1:α)
def ParsOk (g:G):List Par→List Value→List Nat→Prop
 | [],[],[]=>True
 | .val q::Ps,v::vs,bs=>q.p g v∧ParsOk g Ps vs bs
 | .box k x0 _::Ps,v::vs,b::bs=>v=Z75 b∧Z0g k x0 g b∧b∉bs∧ParsOk g Ps vs bs
 | _,_,_=>False
def Zlv (g:G):List Par→List Nat→Prop
 | .val _::Ps,bs=>Zlv g Ps bs
 | .box k _ x1::Ps,b::bs=>Z0g k x1 g b∧Zlv g Ps bs
 | _,_=>True
def ownB:List Par→List Nat→Nat→Nat→Nat
 | .val _::Ps,bs,i,c=>ownB Ps bs (i+1) c
 | .box _ _ _::Ps,b::bs,i,c=>if c=b then i+1 else ownB Ps bs (i+1) c
 | _,_,_,_=>0
def Zzs:List Par→List Nat→Nat→Z8
 | .val q::Ps,bs,i=>(i,q)::Zzs Ps bs (i+1)
 | .box k x0 _::Ps,b::bs,i=>(i,Zbm (some b) k i x0)::Zzs Ps bs (i+1)
 | _,_,_=>[]
def Z3w:List Par→Bool
 | .val q::Ps=>q.fp.isEmpty&&Z3w Ps
 | .box _ _ _::Ps=>Z3w Ps
 | []=>true
def nbox:List Par→Nat
 | .val _::Ps=>nbox Ps
 | .box _ _ _::Ps=>nbox Ps+1
 | []=>0
def FnB (P:Program) (f:FuncId) (Ps:List Par) (q:Pd):Prop:=∀(g:G) (args:List Value) (bs:List Nat),ParsOk g Ps args bs →
 Calls P f args.toArray g.w (fun e w'=>∃g' u,e=.returned u∧w'=g'.w∧Zsu (·∈bs) g g'∧Zlv g' Ps bs∧q.p g' u)
theorem ParsOk.len {g:G}:∀{Ps:List Par} {vs:List Value} {bs:List Nat},ParsOk g Ps vs bs→vs.length=Ps.length∧bs.length=nbox Ps
 | [],[],[],_=>⟨rfl,rfl⟩
 | .val q::Ps,v::vs,bs,h=>⟨by simp[(ParsOk.len h.2).1],(ParsOk.len h.2).2⟩
 | .box k x0 x1::Ps,v::vs,b::bs,h=>⟨by simp[(ParsOk.len h.2.2.2).1],by simp[nbox,(ParsOk.len h.2.2.2).2]⟩
 | [],v::vs,_,h=>by cases h
 | [],[],b::bs,h=>by cases h
 | .val q::Ps,[],_,h=>by cases h
 | .box k x0 x1::Ps,[],_,h=>by cases h
 | .box k x0 x1::Ps,v::vs,[],h=>by cases h
theorem Z44:∀{Ps:List Par} {bs:List Nat} {i c:Nat},ownB Ps bs i c≠0→i<ownB Ps bs i c
 | .val _::Ps,bs,i,c,h=>by have:=Z44 (Ps:=Ps) (bs:=bs) (i:=i+1) (c:=c) h;exact Nat.lt_trans (Zbv6 _) this
 | .box _ _ _ :: Ps,b :: bs,i,c,h=>by
   simp only[ownB]at h⊢
   split
   · omega
   · rename_i k;rw[if_neg k]at h;have:=Z44 (Ps:=Ps) (bs:=bs) (i:=i+1) (c:=c) h;omega
 | .box _ _ _::Ps,[],i,c,h=>by simp[ownB]at h
 | [],_,i,c,h=>by simp[ownB]at h
theorem Zu3:∀{Ps:List Par} {bs:List Nat} {i c:Nat},c∉bs→ownB Ps bs i c=0
 | .val _::Ps,bs,i,c,h=>Zu3 (Ps:=Ps) h
 | .box _ _ _ :: Ps,b :: bs,i,c,h=>by
   simp only[ownB]
   rw[if_neg (fun e=>h (by simp[e])),Zu3 (fun e=>h (by simp[e]))]
 | .box _ _ _::Ps,[],i,c,h=>rfl
 | [],_,i,c,h=>rfl
theorem Zy3 {g g0:G} (f:g0.w=g.w) (C:g0.pr=g.pr) (h:∀(q:Pd) v,q.fp=[]→q.p g v→q.p g0 v) (D:∀{α:Type} (k:Kd α) x cs,k.K g x cs→k.K g0 x cs) {a:Act} :
   ∀{Ps:List Par} {vs:List Value} {bs:List Nat} {i:Nat},Z3w Ps=true→ParsOk g Ps vs bs→(∀n u,vs[n]?=some u→Act.at a (i+n)=u)→(∀c,ownB Ps bs i c≠0→g0.own c=ownB Ps bs i c)→(∀c,i<g0.own c→g0.own c=ownB Ps bs i c)→Ze4 (Zzs Ps bs i) a g0
 | [],[],[],i,_,_,_,_,_=>Zs8
 | .val q :: Ps,v :: vs,bs,i,r,j,s,l,A=>by
   simp only[Z3w,Zbt5,Zbv4]at r
   refine Zgv (by rw[show Act.at a i=v from s 0 v rfl];exact h q v r.1 j.1) (Zy3 f C h D r.2 j.2 (fun n u y=>?_) l (fun c m=>A c (by omega)))
   rw[show i+1+n=i+(n+1) by omega];exact s (n+1) u (by simpa using y)
 | .box k x0 x1 :: Ps,v :: vs,b :: bs,i,r,⟨J,⟨E,⟨cs,t,F,H⟩,I⟩,L,j⟩,s,l,A=>by
   have z:ownB (.box k x0 x1::Ps) (b::bs) i b=i+1:=by simp[ownB]
   have B:g0.own b=i+1:=by rw[l b (by rw[z];omega),z]
   have y:∀b',g0.own b'=i+1→b'=b:=fun b' e=>by
     have:=A b' (by omega)
     simp only[ownB]at this
     split at this
     · assumption
     · rename_i m
       have h3:=Z44 (Ps:=Ps) (bs:=bs) (i:=i+1) (c:=b') (by omega)
       omega
   refine Zgv (show (Zbm (some b) k i x0).p g0 _ from ?_) (Zy3 f C h D r j (fun n u y=>?_) (fun c m=>?_) (fun c m=>?_))
   · rw [show Act.at a i=v from s 0 v rfl]
     exact⟨b,cs,t,J,⟨by rw[f];exact E,B,fun b' _ e=>y b' e,by rw[f];exact F,D k _ _ H,fun o=>by rw[C];exact I o⟩,fun b' e=>Zbt7.inj e⟩
   · rw[show i+1+n=i+(n+1) by omega];exact s (n+1) u (by simpa using y)
   · have d:c ≠ b:=fun e=>m (by rw [e];exact Zu3 L)
     have e:ownB (.box k x0 x1::Ps) (b::bs) i c=ownB Ps bs (i+1) c:=by simp[ownB,d]
     rw[l c (by rw[e];exact m),e]
   · have d:c ≠ b:=fun e=>by rw [e,B] at m;omega
     have e:ownB (.box k x0 x1::Ps) (b::bs) i c=ownB Ps bs (i+1) c:=by simp[ownB,d]
     rw[A c (by omega),e]
 | [],v::vs,_,_,_,h,_,_,_=>by cases h
 | [],[],b::bs,_,_,h,_,_,_=>by cases h
 | .val q::Ps,[],_,_,_,h,_,_,_=>by cases h
 | .box k x0 x1::Ps,[],_,_,_,h,_,_,_=>by cases h
 | .box k x0 x1::Ps,v::vs,[],_,_,h,_,_,_=>by cases h
def BEnd (Ps:List Par) (bs:List Nat) (g0:G) (q:Pd) (v:Value) (g1:G):Prop:=Base g0 g1∧q.p g1 v∧Zlv g1 Ps bs
theorem Zf2 {f:FuncId} {fn:Func} {c:Code} {Ps:List Par} (B:P.funcs[f]? =some fn) (C:fn.body=some c) (D:fn.ntmps=N) (I:Ps.length≤N) (E:Z3w Ps=true) (z:q.fp=[])
   (h:∀(a:Act) (g:G) (bs:List Nat),bs.length=nbox Ps→St N (Zzs Ps bs 0) a g→Base g g→c.wp P (bodyPost P fn (FinP (BEnd Ps bs g q))) a g.w):FnB P f Ps q:=by
 intro g args bs p
 obtain⟨J,b⟩:=p.len
 let g0:G:=⟨g.w,g.pr,fun c=>ownB Ps bs 0 c,g.hpr,g.gl⟩
 have t:g.le g0:=⟨Nat.le_refl _,fun _ _ h=>h,fun _ _ _=>rfl,fun _ _=>rfl,Zbub _⟩
 have d:St N (Zzs Ps bs 0) {tmps:=args.toArray++Zbuu (fn.ntmps-args.toArray.size) undef,defers:=[]} g0:=by
   refine⟨by simp[D];omega,rfl,Zy3 (g:=g) (g0:=g0) rfl rfl (fun q v z F=>Pd.le z t rfl rfl rfl F) (fun k x cs H=>k.mono t H) E p (fun n u i=>?_) (fun _ _=>rfl) (fun _ _=>rfl)⟩
   have j:=(Zbtw.1 i).1
   rw[Zbuc]
   simp only[Act.at,Zbt9]
   rw[Zbve,if_pos (by simpa using j)]
   have l:(args.toArray)[n]?=some u:=by rw[Zbvd];exact i
   rw[l];rfl
 have r:Base g0 g0:=⟨.refl _,rfl,rfl,rfl,fun _ _ h=>⟨rfl,rfl,h⟩⟩
 refine Calls.mono (calls_of_wp B C (h _ g0 bs b d r)) ?_
 rintro e w' ⟨g1,u,rfl,rfl,m,o,s⟩
 exact⟨g1,u,rfl,rfl,⟨⟨m.le.size,m.le.pr,m.le.cell,m.le.blk,m.le.dr⟩,m.os,m.tape,m.output,fun c A y=>⟨(m.same c A (Zu3 y)).1,(m.same c A (Zu3 y)).2.1⟩⟩,s,o⟩
theorem Zgk {fn:Func} {r:ResultVar} {v:Value} {a:Act} {g g0:G} {L:Z8} {Ps:List Par} {bs:List Nat} (k:fn.results=#[r]) (h:St N L a g) (m:Base g0 g) (n:Zfc P a g r v) (s:q.p g v) (t:Zlv g Ps bs):bodyPost P fn (FinP (BEnd Ps bs g0 q)) .ret a g.w :=
 endP k h n ⟨m,s,t⟩
theorem Zbry {fn:Func} {r1 r2 r3:ResultVar} {v1 v2 v3:Value} {a:Act} {g g0:G} {L:Z8} {Ps:List Par} {bs:List Nat} (r:fn.results=#[r1,r2,r3]) (h:St N L a g) (s:Base g0 g) (t:Zfc P a g r1 v1) (u:Zfc P a g r2 v2) (v:Zfc P a g r3 v3) (x:q.p g (.tuple #[v1,v2,v3])) (y:Zlv g Ps bs):bodyPost P fn (FinP (BEnd Ps bs g0 q)) .ret a g.w :=
 ⟨h.df,_,by
   have k:(Zfa a.tmps r1).run P g.w=.ok v1 g.w:=t
   have m:(Zfa a.tmps r2).run P g.w=.ok v2 g.w:=u
   have n:(Zfa a.tmps r3).run P g.w=.ok v3 g.w:=v
   simp[Zfu,r,k,m,n],g,_,rfl,rfl,s,x,y⟩
abbrev Home:=Nat×Option Nat×Nat
def ValB (a:Act) (g:G):List Par→List Value→List Home→Prop
 | [],[],[]=>True
 | .val q::Ps,v::vs,hs=>q.p g v∧ValB a g Ps vs hs
 | .box k x0 _::Ps,v::vs,h::hs=>(Zbm h.2.1 k h.2.2 x0).p g (Act.at a h.1)∧(∃c,(Zbm c k h.2.2 x0).p g v)∧(∀e∈hs,e.2.2≠h.2.2)∧ValB a g Ps vs hs
 | _,_,_=>False
def Zmf:List Par→List Home→Z8
 | .val _::Ps,hs=>Zmf Ps hs
 | .box k _ x1::Ps,h::hs=>(h.1,Zbm h.2.1 k h.2.2 x1)::Zmf Ps hs
 | _,_=>[]
def SB (hs:List Home):List Nat:=hs.map fun h=>h.2.2+1
theorem Zy6 {a:Act} {g:G}:∀{Ps:List Par} {vs:List Value} {hs:List Home},ValB a g Ps vs hs→∃bs:List Nat,ParsOk g Ps vs bs∧(∀b∈bs,∃h∈hs,g.own b=h.2.2+1)
 | [],[],[],_=>⟨[],trivial,fun b h=>by cases h⟩
 | .val q :: Ps,v :: vs,hs,⟨s,u⟩=>by
   obtain⟨bs,e1,e2⟩:=Zy6 u
   exact⟨bs,⟨s,e1⟩,e2⟩
 | .box k x0 x1 :: Ps,v :: vs,h :: hs,⟨s,⟨c,b,cs,t,w,m,_⟩,x,y⟩=>by
   obtain⟨bs,e1,e2⟩:=Zy6 y
   refine⟨b::bs,⟨w,⟨m.1,⟨cs,t,m.2.2.2.1,m.2.2.2.2.1⟩,m.2.2.2.2.2⟩,fun z=>?_,e1⟩,fun b' n=>?_⟩
   · obtain ⟨h',p,r⟩:=e2 b z
     have:=x h' p
     rw[m.2.1]at r;omega
   · rcases Zbt6.1 n with rfl | n
     · exact⟨h,by simp,m.2.1⟩
     · obtain ⟨h',p,r⟩:=e2 b' n
       exact⟨h',by simp[p],r⟩
 | [],v::vs,_,h=>by cases h
 | [],[],b::bs,h=>by cases h
 | .val q::Ps,[],_,h=>by cases h
 | .box k x0 x1::Ps,[],_,h=>by cases h
 | .box k x0 x1::Ps,v::vs,[],h=>by cases h
theorem Zyv {a a':Act} {g g2:G} (m:∀c,c<g.w.heap.size→g2.own c=g.own c) (n:∀c,g.w.heap.size≤c→g2.own c=0) (d:g.w.heap.size≤g2.w.heap.size) :
   ∀{Ps:List Par} {vs:List Value} {hs:List Home} {bs:List Nat},(∀h∈hs,Act.at a' h.1=Act.at a h.1)→ValB a g Ps vs hs→ParsOk g Ps vs bs→Zlv g2 Ps bs→∀e∈Zmf Ps hs,e.2.p g2 (Act.at a' e.1)
 | [],[],[],[],_,_,_,_,e,r=>by cases r
 | .val q::Ps,v::vs,hs,bs,y,h,f,i,e,r=>Zyv m n d y h.2 f.2 i e r
 | .box k x0 x1 :: Ps,v :: vs,h :: hs,b :: bs,y,⟨C,⟨c,b2,cs,t,D,s,_⟩,h3,E⟩,⟨u,_,_,f⟩,⟨⟨p1,⟨cs',t',p2,p3⟩,p4⟩,i⟩,e,r=>by
   rcases Zbt6.1 r with rfl | r
   · obtain ⟨b3,cs3,t3,j,l,o⟩:=C
     obtain rfl:b2=b3:=l.2.2.1 b2 s.1 s.2.1
     have A:b2=b:=by
       rw[D]at u
       simp only[Z75,Value.pointer.injEq,Zbt7.injEq,Addr.mk.injEq]at u
       exact u.1
     subst A
     show (Zbm h.2.1 k h.2.2 x1).p g2 (Act.at a' h.1)
     rw[y h (by simp)]
     refine⟨b2,cs',t',j,⟨p1,by rw[m b2 s.1];exact s.2.1,fun b' F x=>?_,p2,p3,p4⟩,o⟩
     rcases Zbvp b' g.w.heap.size with z | z
     · rw[m b' z]at x;exact s.2.2.1 b' z x
     · rw[n b' z]at x;omega
   · exact Zyv m n d (fun h' B=>y h' (by simp[B])) E f i e r
 | [],v::vs,_,_,_,h,_,_,_,_=>by cases h
 | [],[],b::bs,_,_,h,_,_,_,_=>by cases h
 | [],[],[],b::bs,_,_,h,_,_,_=>by cases h
 | .val q::Ps,[],_,_,_,h,_,_,_,_=>by cases h
 | .box k x0 x1::Ps,[],_,_,_,h,_,_,_,_=>by cases h
 | .box k x0 x1::Ps,v::vs,[],_,_,h,_,_,_,_=>by cases h
 | .box k x0 x1::Ps,v::vs,h::hs,[],_,_,h',_,_,_=>by cases h'
theorem Z1f {hs:List Home} {outs:Z8} (J:q.fp=[]) (y:o.dst=some d) (l:∀h∈hs,h.1≠d)
   (z:∀(a:Act) g,Ze4 uses a g→∃(f:FuncId) (Ps:List Par) (vs:List Value),FnB P f Ps q∧outs=Zmf Ps hs∧(execOp a.eval o).run P g.w=.ok (.enter f vs.toArray) g.w∧ValB a g Ps vs hs):OB P N o uses ((d,q)::outs) (SB hs):=by
 intro a g K Q L A M O
 obtain⟨f,Ps,vs,B,rfl,z,C⟩:=z a g M
 obtain⟨bs,D,E⟩:=Zy6 C
 unfold Oper.wp
 rw[z]
 show Calls P f _ g.w _
 refine Calls.mono (B g vs bs D) ?_
 rintro e w' ⟨g',u,rfl,rfl,n,v,F⟩
 let g2:G:=⟨g'.w,g'.pr,fun c=>if c<g.w.heap.size then g.own c else 0,g'.hpr,g'.gl⟩
 have x:g'.le g2:=⟨Nat.le_refl _,fun _ _ h=>h,fun _ _ _=>rfl,fun _ _=>rfl,Zbub _⟩
 have m:∀c,g2.own c=if c<g.w.heap.size then g.own c else 0:=fun _=>rfl
 have s:∀{Ps:List Par} {bs:List Nat},Zlv g' Ps bs→Zlv g2 Ps bs:=by
   intro Ps
   induction Ps with
   | nil=>intro bs _;cases bs <;> trivial
   | cons p Ps ih =>
     intro bs h
     cases p with
     | val q=>exact ih (show Zlv g' Ps bs from h)
     | box k x0 x1=>cases bs with
       | nil=>trivial
       | cons b bs =>
         obtain⟨⟨p1,⟨cs,t,p2,p3⟩,p4⟩,h⟩:=h
         exact⟨⟨p1,⟨cs,t,p2,k.mono x p3⟩,p4⟩,ih h⟩
 refine O u g2 ⟨⟨n.le.size,n.le.pr,n.le.cell,n.le.blk,n.le.dr⟩,n.os,n.tape,n.output,fun c r i=>?_,fun c k1 k2=>.inl ?_,fun c r i=>.inr ?_⟩ fun e j=>?_
 · have H:c∉bs:=fun R=>by
     obtain⟨h,hh,I⟩:=E c R
     exact i (by rw[I];exact Zbud.2 ⟨h,hh,rfl⟩)
   obtain⟨k1,k2⟩:=n.same c r H
   exact⟨k1,k2,by rw[m,if_pos r]⟩
 · rw[m,if_neg (by omega)]
 · rw[m,if_pos r];exact i
 · rcases Zbt6.1 j with rfl | j
   · rw [y,Zdn u (by rw [L];exact A d y)]
     exact Pd.le J x rfl rfl rfl F
   · exact Zyv (g:=g) (g2:=g2) (fun c r=>by rw[m,if_pos r]) (fun c r=>by rw[m,if_neg (by omega)]) n.le.size (fun h hh=>Zlf u (by rw[y];intro e;exact l h hh (Zbt7.inj e).symm)) C D (s v) e j
theorem Z3g {f:FuncId} {Ps:List Par} {hs:List Home} (k:FnB P f Ps q) (n:q.fp=[]) (p:o.dst=some d) (m:∀h∈hs,h.1≠d)
   (r:∀(a:Act) g,Ze4 uses a g→∃vs:List Value,(execOp a.eval o).run P g.w=.ok (.enter f vs.toArray) g.w∧ValB a g Ps vs hs):OB P N o uses ((d,q)::Zmf Ps hs) (SB hs) :=
 Z1f n p m fun a g s=>let ⟨vs,t,u⟩:=r a g s;⟨f,Ps,vs,k,rfl,t,u⟩
inductive OpB (uses:Z8):List Par→List Operand→List Home→Prop
 | nil:OpB uses [] [] []
 | val {q:Pd} {Ps:List Par} {x:Operand} {xs:List Operand} {hs:List Home}:Opd uses x q→OpB uses Ps xs hs→OpB uses (.val q::Ps) (x::xs) hs
 | box {α:Type} {k:Kd α} {x0 x1:α} {Ps:List Par} {x:Operand} {xs:List Operand} {s j:Nat} {c c':Option Nat} {hs:List Home}:Opd uses (.tmp s) (Zbm c k j x0)→Opd uses x (Zbm c' k j x0)→(hs.all fun e=>e.2.2 !=j)=true→OpB uses Ps xs hs→OpB uses (.box k x0 x1::Ps) (x::xs) ((s,c,j)::hs)
theorem OpB.ok {Ps:List Par} {xs:List Operand} {hs:List Home} (h:OpB uses Ps xs hs) {a:Act} {g:G} (k:Ze4 uses a g):ValB a g Ps (xs.map a.eval) hs:=by
 induction h with
 | nil=>trivial
 | val h _ ih=>exact⟨h a g k,ih⟩
 | box m n p _ ih=>exact⟨m a g k,⟨_,n a g k⟩,fun e q=>by simpa using Zbt2.1 p e q,ih⟩
theorem Zbk8 {f:FuncId} {Ps:List Par} {xs:List Operand} {hs:List Home} {ty:Array TypeId} (p:Zi P f) (k:FnB P f Ps q) (m:o.op=.call {callee:=.value (.func f),args:=xs.toArray,argTypes:=ty}) (r:o.dst=some d) (s:q.fp=[]) (n:(hs.all fun h=>h.1 !=d)=true) (t:OpB uses Ps xs hs) :
   OB P N o uses ((d,q)::Zmf Ps hs) (SB hs) :=
 Z3g k s r (fun h hh=>by simpa using Zbt2.1 n h hh) fun a g u=>⟨xs.map a.eval,by simp[execOp,m,resolve,Znl,Deferred.ofValue,invoke,Zgo p],t.ok u⟩
theorem Zxh {a:Act} {g:G}:∀{Ps Qs:List Par} {vs us:List Value} {hs ks:List Home},ValB a g Ps vs hs→ValB a g Qs us ks→(∀h∈hs,∀k∈ks,k.2.2≠h.2.2)→ValB a g (Ps++Qs) (vs++us) (hs++ks)
 | [],Qs,[],us,[],ks,_,h,_=>h
 | .val q::Ps,Qs,v::vs,us,hs,ks,r,p,n=>⟨r.1,Zxh r.2 p n⟩
 | .box k x0 x1::Ps,Qs,v::vs,us,h::hs,ks,⟨a1,a2,a3,a4⟩,p,n=>⟨a1,a2,fun e m=>by
     rcases Zbv9.1 m with m | m
     · exact a3 e m
     · exact n h (by simp) e m,Zxh a4 p (fun h' s=>n h' (by simp[s]))⟩
 | [],_,v::vs,_,_,_,h,_,_=>by cases h
 | [],_,[],_,b::bs,_,h,_,_=>by cases h
 | .val q::Ps,_,[],_,_,_,h,_,_=>by cases h
 | .box k x0 x1::Ps,_,[],_,_,_,h,_,_=>by cases h
 | .box k x0 x1::Ps,_,v::vs,_,[],_,h,_,_=>by cases h
theorem Z59 {a:Act} {g:G}:∀{C:List Pd} {vs:List Value},ArgsOk C g vs→ValB a g (C.map .val) vs []
 | [],[],_=>trivial
 | q::C,v::vs,h=>⟨h.2 0 q v rfl rfl,Z59 ⟨by simpa using h.1,fun i qi u k m=>h.2 (i+1) qi u (by simpa using k) (by simpa using m)⟩⟩
 | [],v::vs,h=>by simpa using h.1
 | q::C,[],h=>by simpa using h.1
theorem Zvd:∀{Ps:List Par} {C:List Pd} {hs:List Home},Zmf (Ps++C.map .val) hs=Zmf Ps hs
 | [],[],hs=>rfl
 | [],q::C,hs=>by show Zmf (C.map .val) hs=_;rw[show C.map Par.val=[]++C.map .val from rfl,Zvd]
 | .val q::Ps,C,hs=>by show Zmf (Ps++C.map .val) hs=Zmf Ps hs;exact Zvd
 | .box k x0 x1::Ps,C,[]=>rfl
 | .box k x0 x1::Ps,C,h::hs=>by show _::Zmf (Ps++C.map .val) hs=_::Zmf Ps hs;rw[Zvd]
def Z72 (f:FuncId) (C:List Pd):Pd:=⟨fun g v=>∃caps:List Value,v=.func (.func f) #[] caps.toArray∧ArgsOk C g caps,C.flatMap (·.fp),fun s m ⟨caps,e,h⟩=>⟨caps,e,h.1,fun i qi u k n=>qi.st s (fun j p=>m j (Zbww.2 ⟨qi,Zbuh k,p⟩)) (h.2 i qi u k n)⟩⟩
theorem Zbbo {f:FuncId} {C:List Pd} {xs:List Operand} (h:o.op=.makeFunc (.func f) #[] xs.toArray) (k:o.dst=some d) (m:OpdL uses xs C):OB P N o uses [(d,Z72 f C)] [] :=
 Zcl k fun a g hh=>⟨.func (.func f) #[] (xs.map a.eval).toArray,by simp[execOp,h,Instr.makeFunc],xs.map a.eval,rfl,m.ok hh⟩
inductive CapB (uses:Z8):List Pd→List Par→List Home→Prop
 | nil:CapB uses [] [] []
 | val {q:Pd} {C:List Pd} {Ps:List Par} {hs:List Home}:CapB uses C Ps hs→CapB uses (q::C) (.val q::Ps) hs
 | box {α:Type} {k:Kd α} {x0 x1:α} {C:List Pd} {Ps:List Par} {s j:Nat} {c c':Option Nat} {hs:List Home}:Opd uses (.tmp s) (Zbm c k j x0)→(hs.all fun e=>e.2.2 !=j)=true→CapB uses C Ps hs→CapB uses (Zbm c' k j x0::C) (.box k x0 x1::Ps) ((s,c,j)::hs)
theorem CapB.ok {C:List Pd} {Ps:List Par} {hs:List Home} (h:CapB uses C Ps hs) {a:Act} {g:G} (p:Ze4 uses a g):∀{vs:List Value},ArgsOk C g vs→ValB a g Ps vs hs:=by
 induction h with
 | nil=>intro vs h;cases vs with
   | nil=>trivial
   | cons v vs=>simpa using h.1
 | @val q C Ps hs _ ih=>intro vs h;cases vs with
   | nil=>simpa using h.1
   | cons v vs=>exact⟨h.2 0 q v rfl rfl,ih ⟨by simpa using h.1,fun i qi u m n=>h.2 (i+1) qi u (by simpa using m) (by simpa using n)⟩⟩
 | @box α k x0 x1 C Ps s j c c' hs m n _ ih=>intro vs h;cases vs with
   | nil=>simpa using h.1
   | cons v vs=>exact⟨m a g p,⟨c',h.2 0 _ v rfl rfl⟩,fun e r=>by simpa using Zbt2.1 n e r,ih ⟨by simpa using h.1,fun i qi u m n=>h.2 (i+1) qi u (by simpa using m) (by simpa using n)⟩⟩
theorem Zbhq {f:FuncId} {C:List Pd} {Ps Qs:List Par} {xs:List Operand} {hs ks:List Home} {ty:Array TypeId} (t:Zi P f) (p:FnB P f (Ps++Qs) q) (r:o.op=.call {callee:=.value x,args:=xs.toArray,argTypes:=ty}) (u:o.dst=some d) (v:q.fp=[]) (s:((hs++ks).all fun h=>h.1 !=d)=true)
   (w:(hs.all fun h=>ks.all fun k=>k.2.2 !=h.2.2)=true) (y:Opd uses x (Z72 f C)) (z:OpB uses Ps xs hs) (b:CapB uses C Qs ks):OB P N o uses ((d,q)::Zmf (Ps++Qs) (hs++ks)) (SB (hs++ks)):=by
 refine Z3g p v u (fun h hh=>by simpa using Zbt2.1 s h hh) fun a g m=>?_
 obtain⟨caps,c,n⟩:=y a g m
 refine⟨xs.map a.eval++caps,by simp[execOp,r,resolve,c,Deferred.ofValue,invoke,Zgo t],Zxh (z.ok m) (b.ok m n) fun h hh k e=>?_⟩
 simpa using Zbt2.1 (Zbt2.1 w h hh) k e
end
section
variable {P:Program} {N:Nat} {o:Oper} {uses:Z8} {d:Nat} {q:Pd} {x y z:Operand} {α:Type} {dk:Kd α} {t e:TypeId} {bytes j:Nat} {c:Option Nat}
structure OwnAt (dk:Kd α) (e:TypeId) (j:Nat) (fs:List (Option α)) (g:G) (b cap:Nat) (cur:Array Value):Prop where
 lt:b<g.w.heap.size
 own:g.own b=j
 uniq:∀b',b'<g.w.heap.size→g.own b'=j→b'=b
 heap:g.w.heap[b]?=some (.cells cur e (0,0))
 len:fs.length≤cap
 max:cap≤maxLen
 sz:cur.size=cap*dk.sz
 known:∀i x,fs[i]?=some (some x)→dk.K g x (seg cur.toList (i*dk.sz) dk.sz)
 npr:∀o,¬g.pr b o
theorem Zbka {g g':G} {S:List Nat} {b:Nat} (hs:Step S g g') (p:j∉S) (n:j≠0) (h:∀b',b'<g.w.heap.size→g.own b'=j→b'=b):∀b',b'<g'.w.heap.size→g'.own b'=j→b'=b:=fun b' q k=>by
 rcases Zbvp b' g.w.heap.size with m | r
 · by_cases s:g.own b' ∈ S
   · rcases hs.old b' m s with h | h
     · rw[k]at h;exact absurd h n
     · rw[k]at h;exact absurd h p
   · exact h b' m ((hs.same b' m s).2.2.symm.trans k)
 · rcases hs.new b' r q with h | h
   · rw[k]at h;exact absurd h n
   · rw[k]at h;exact absurd h p
theorem OwnAt.st {fs:List (Option α)} {g g':G} {S:List Nat} {b cap:Nat} {cur:Array Value} (hs:Step S g g') (k:j∉S) (m:j≠0) (h:OwnAt dk e j fs g b cap cur):OwnAt dk e j fs g' b cap cur:=by
 obtain⟨k1,k2,k3⟩:=hs.same b h.lt (by rw[h.own];exact k)
 exact⟨Nat.lt_of_lt_of_le h.lt hs.le.size,k3.trans h.own,Zbka hs k m h.uniq,k1.trans h.heap,h.len,h.max,h.sz,fun i x n=>dk.mono hs.le (h.known i x n),fun o=>by rw[k2];exact h.npr o⟩
def pOwn (dk:Kd α) (e:TypeId) (j:Nat) (c:Option Nat) (fs:List (Option α)):Pd:=⟨fun g u=>∃b cap cur,u=.slice (some ⟨b,0,none⟩) fs.length cap∧OwnAt dk e (j+1) fs g b cap cur∧∀k,c=some k→cap=k,[j+1],fun s m ⟨b,cap,cur,e,h,n⟩=>⟨b,cap,cur,e,h.st s (m _ (by simp)) (by omega),n⟩⟩
def Zrp (dk:Kd α) (e:TypeId) (j off len:Nat):Pd:=⟨fun g u=>∃b cap cur,u=.slice (some (if cap=off then ⟨b,0,none⟩else ⟨b,off*dk.sz,none⟩)) len (cap-off)∧OwnAt dk e (j+1) [] g b cap cur∧off+len≤cap,[j+1],fun s k ⟨b,cap,cur,e,h,m⟩=>⟨b,cap,cur,e,h.st s (k _ (by simp)) (by omega),m⟩⟩
theorem OwnAt.nil {fs:List (Option α)} {g:G} {b cap:Nat} {cur:Array Value} (h:OwnAt dk e j fs g b cap cur):OwnAt dk e j [] g b cap cur:=⟨h.lt,h.own,h.uniq,h.heap,Zbwe _,h.max,h.sz,fun i x k=>by simp at k,h.npr⟩
theorem OwnAt.same {fs:List (Option α)} {fs':List (Option α)} {g:G} {b b' cap cap':Nat} {cur cur':Array Value} (h:OwnAt dk e j fs g b cap cur) (k:OwnAt dk e j fs' g b' cap' cur') (m:0<dk.sz):b'=b∧cur'=cur∧cap'=cap:=by
 obtain rfl:=h.uniq b' k.lt k.own
 have:=k.heap
 rw[h.heap]at this
 injection this with this
 injection this with this
 subst this
 exact⟨rfl,rfl,Nat.eq_of_mul_eq_mul_right m (k.sz.symm.trans h.sz)⟩
theorem Zz6 {fs:List (Option α)} {t:TypeId} (k:P.underlying t=some (.slice e)) (h:o.op=.call {callee:=.builtin .len,args:=#[x],argTypes:=#[t]}) (m:o.dst=some d) (n:Opd uses x (pOwn dk e j c fs)):OB P N o uses [(d,pInt .i64 (fs.length:Int))] [] :=
 Zcl m fun a g hh=>by
   obtain⟨b,cap,cur,p,_⟩:=n a g hh
   exact⟨.int .i64 fs.length,by simp[execOp,h,resolve,invoke,builtin,p,Builtin.len_,run_underlying k,goInt],Zhh _ _ g⟩
theorem Zbop {fs:List (Option α)} {t:TypeId} {k:Nat} (m:P.underlying t=some (.slice e)) (h:o.op=.call {callee:=.builtin .cap,args:=#[x],argTypes:=#[t]}) (n:o.dst=some d) (p:Opd uses x (pOwn dk e j (some k) fs)):OB P N o uses [(d,pInt .i64 (k:Int))] [] :=
 Zcl n fun a g hh=>by
   obtain⟨b,cap,cur,q,_,r⟩:=p a g hh
   obtain rfl:=r k rfl
   exact⟨.int .i64 cap,by simp[execOp,h,resolve,invoke,builtin,q,Builtin.cap_,run_underlying m,goInt],Zhh _ _ g⟩
theorem Zmn {x:Value} {i n:Nat} {cd:BoundsCode} {w:World} (k:x=.int .i64 i) (h:i≤n):(Instr.sliceBound x n cd).run P w=.ok i w:=by
 subst k
 simp[Instr.sliceBound,asIntOf,h]
theorem Zj5 {fs:List (Option α)} {l:Nat} (h:TE P t e dk bytes) (q:l≤fs.length) (k:o.op=.slice t x (some y) none none) (r:o.dst=some d) (s:Opd uses x (pOwn dk e j c fs)) (u:Opd uses y (pInt .i64 (l:Int))):OB P N o uses [(d,Zrp dk e j l (fs.length-l))] [] :=
 Zcl r fun a g hh=>by
   obtain⟨b,cap,cur,v,m,hc⟩:=s a g hh
   have n:=Zcy.1 (u a g hh)
   obtain⟨i,zz,z,hz,p,B,C⟩:=h.info
   have f:∀w cd,(Instr.sliceBound (a.eval y) fs.length cd).run P w=.ok l w:=fun w cd=>Zmn n q
   have A:=m.len
   refine⟨_,?_,b,cap,cur,rfl,m.nil,by omega⟩
   simp[execOp,k,v,Instr.sliceAt,Instr.slice,Instr.sliceBounds,run_underlying h.und,f,sizeOf,typeInfo,z,p,Zdy]
   try (split <;> simp_all [Zdy])
theorem Zyr {fs:List (Option α)} {h:Nat} (k:TE P t e dk bytes) (hl:h≤fs.length) (m:o.op=.slice t x none (some y) none) (r:o.dst=some d) (s:Opd uses x (pOwn dk e j c fs)) (u:Opd uses y (pInt .i64 (h:Int))):OB P N o uses [(d,Zrp dk e j 0 h)] [] :=
 Zcl r fun a g hh=>by
   obtain⟨b,cap,cur,v,n,hc⟩:=s a g hh
   have p:=Zcy.1 (u a g hh)
   obtain⟨i,zz,z,hz,q,A,B⟩:=k.info
   have f:=n.len
   have l:∀w cd,(Instr.sliceBound (a.eval y) cap cd).run P w=.ok h w:=fun w cd=>Zmn p (by omega)
   refine⟨_,?_,b,cap,cur,rfl,n.nil,by omega⟩
   simp[execOp,m,v,Instr.sliceAt,Instr.slice,Instr.sliceBounds,run_underlying k.und,l,sizeOf,typeInfo,z,q,Zdy]
   try (split <;> simp_all [Zdy])
theorem Zbcf {fs:List (Option α)} {h k:Nat} (q:TE P t e dk bytes) (hl:fs.length≤h) (r:h≤k) (s:o.op=.slice t x none (some y) none) (c:o.dst=some d) (m:Opd uses x (pOwn dk e j (some k) fs)) (f:Opd uses y (pInt .i64 (h:Int))):OB P N o uses [(d,pOwn dk e j (some k) (fs++Zbun (h-fs.length) none))] [] :=
 Zcl c fun a g hh=>by
   obtain⟨b,cap,cur,l,n,u⟩:=m a g hh
   obtain rfl:=u k rfl
   have v:=Zcy.1 (f a g hh)
   obtain⟨i,zz,A,hz,z,C,D⟩:=q.info
   have B:∀w cd,(Instr.sliceBound (a.eval y) cap cd).run P w=.ok h w:=fun w cd=>Zmn v r
   have p:(fs++Zbun (h-fs.length) none).length=h:=by simp;omega
   refine⟨_,?_,b,cap,cur,rfl,⟨n.lt,n.own,n.uniq,n.heap,by rw[p];exact r,n.max,n.sz,fun i x m=>?_,n.npr⟩,u⟩
   · rw [p]
     simp[execOp,s,l,Instr.sliceAt,Instr.slice,Instr.sliceBounds,run_underlying q.und,B,sizeOf,typeInfo,A,z,Zdy]
     try (split <;> simp_all [Zdy])
   · rw [Zbt4] at m
     split at m
     · exact n.known i x m
     · rw [Zbu7] at m
       split at m <;> simp at m
theorem Zbi0 {fs:List (Option α)} {l h m:Nat} {y1 y2 y3:Operand} (p:TE P t e dk bytes) (f:l≤h) (A:h≤m) (h3:m≤fs.length) (q:o.op=.slice t x (some y1) (some y2) (some y3)) (B:Opd uses x (pOwn dk e j c fs)) (r:Opd uses y1 (pInt .i64 (l:Int))) (s:Opd uses y2 (pInt .i64 (h:Int))) (u:Opd uses y3 (pInt .i64 (m:Int))):OB P N o uses [] []:=by
 intro a g K Q hN I k C
 obtain⟨b,cap,cur,D,E,hc⟩:=B a g k
 obtain⟨i,zz,F,hz,J,L,M⟩:=p.info
 have G:=E.len
 have y:∀w cd,(Instr.sliceBound (a.eval y1) h cd).run P w=.ok l w:=fun w cd=>Zmn (Zcy.1 (r a g k)) f
 have z:∀w cd,(Instr.sliceBound (a.eval y2) m cd).run P w=.ok h w:=fun w cd=>Zmn (Zcy.1 (s a g k)) A
 have d:∀w cd,(Instr.sliceBound (a.eval y3) cap cd).run P w=.ok m w:=fun w cd=>Zmn (Zcy.1 (u a g k)) (by omega)
 have n:∃v,(execOp a.eval o).run P g.w=.ok (.value v) g.w:=by
   simp[execOp,q,D,Instr.sliceAt,Instr.slice,Instr.sliceBounds,run_underlying p.und,y,z,d,sizeOf,typeInfo,F]
 obtain⟨v,n⟩:=n
 unfold Oper.wp
 rw[n]
 exact C v g (.refl _ _) (fun e H=>by cases H)
theorem Zbgo {fs:List (Option α)} {l h k:Nat} {y1 y2:Operand} (m:TE P t e dk bytes) (v:l≤h) (y:h≤k) (n:o.op=.slice t x (some y1) (some y2) none) (z:o.dst=some d) (c:Opd uses x (pOwn dk e j (some k) fs)) (p:Opd uses y1 (pInt .i64 (l:Int))) (q:Opd uses y2 (pInt .i64 (h:Int))):OB P N o uses [(d,Zrp dk e j l (h-l))] [] :=
 Zcl z fun a g hh=>by
   obtain⟨b,cap,cur,f,A,B⟩:=c a g hh
   obtain rfl:=B k rfl
   obtain⟨i,zz,C,hz,r,D,E⟩:=m.info
   have s:∀w cd,(Instr.sliceBound (a.eval y1) h cd).run P w=.ok l w:=fun w cd=>Zmn (Zcy.1 (p a g hh)) v
   have u:∀w cd,(Instr.sliceBound (a.eval y2) cap cd).run P w=.ok h w:=fun w cd=>Zmn (Zcy.1 (q a g hh)) y
   refine⟨_,?_,b,cap,cur,rfl,A.nil,by omega⟩
   simp[execOp,n,f,Instr.sliceAt,Instr.slice,Instr.sliceBounds,run_underlying m.und,s,u,sizeOf,typeInfo,C,r,Zdy]
   try (split <;> simp_all [Zdy])
theorem Zlr {i n sz:Nat} (h:i<n):i*sz+sz≤n*sz:=by
 have:(i+1)*sz≤n*sz:=Zbtx _ h
 rw[Zbt0]at this;omega
def over (fs:List (Option α)) (off:Nat) (ws:List α):List (Option α):=fs.take off++ws.map some++fs.drop (off+ws.length)
theorem Zq6 {fs:List (Option α)} {off:Nat} {ws:List α} (h:off+ws.length≤fs.length):(over fs off ws).length=fs.length:=by simp[over];omega
theorem Zpo {fs:List (Option α)} {off:Nat} {ws:List α} (h:off+ws.length≤fs.length) (i:Nat):(over fs off ws)[i]?=if i<off then fs[i]? else if i<off+ws.length then (ws[i-off]?).map some else fs[i]?:=by
 unfold over
 rw[Zbug,Zbt4]
 have n:(fs.take off).length=off:=by simp;omega
 rw[n]
 by_cases k:i<off
 · rw[if_pos k,if_pos k,Zbty,if_pos k]
 · rw [if_neg k,if_neg k,Zbt4,Zbuv]
   by_cases m:i<off+ws.length
   · rw[if_pos m,if_pos (by omega),Zbt1]
   · rw [if_neg m,if_neg (by omega),Zbtz]
     congr 1;omega
theorem Z22 {g g':G} (m:g.le g') {fs:List (Option α)} {off cap:Nat} {ws:List α} {cur news:List Value} (n:news.length=ws.length*dk.sz) (u:cur.length=cap*dk.sz) (p:off+ws.length≤fs.length) (v:fs.length≤cap)
   (q:∀i x,fs[i]?=some (some x)→dk.K g x (seg cur (i*dk.sz) dk.sz)) (w:∀i x,ws[i]?=some x→dk.K g x (seg news (i*dk.sz) dk.sz)) :
   ∀i x,(over fs off ws)[i]?=some (some x)→dk.K g' x (seg (Zr cur (off*dk.sz) news) (i*dk.sz) dk.sz):=by
 intro i x k
 have h:off*dk.sz+news.length≤cur.length:=by rw[n,u,←Zbt0];exact Zbtx _ (by omega)
 rw[Zpo p]at k
 split at k
 · rename_i r
   rw[Zj h (.inl (Zlr r))]
   exact dk.mono m (q i x k)
 · rename_i r
   split at k
   · rename_i z
     obtain⟨y,a,s⟩:=Zbt3.1 k
     obtain rfl:=Zbt7.inj s
     have e:seg (Zr cur (off*dk.sz) news) (i*dk.sz) dk.sz=seg news ((i-off)*dk.sz) dk.sz:=by
       have t:(cur.take (off*dk.sz)).length=off*dk.sz:=by simp;omega
       unfold Zr
       rw[Zbug,show i*dk.sz=(cur.take (off*dk.sz)).length+(i-off)*dk.sz by rw[t,←Zbt0];congr 1;omega,Zjw,Zhf (by rw[n];exact Zlr (by omega))]
     rw[e];exact dk.mono m (w _ _ a)
   · rename_i z
     rw[Zj h (.inr (by rw[n,←Zbt0];exact Zbtx _ (by omega)))]
     exact dk.mono m (q i x k)
theorem Zzq {fs:List (Option α)} {g:G} {b cap:Nat} {cur:Array Value} (h:OwnAt dk e j fs g b cap cur) {off:Nat} {ws:List α} {news:List Value} (r:news.length=ws.length*dk.sz) (k:off+ws.length≤fs.length) (s:∀i x,ws[i]? =some x→dk.K g x (seg news (i*dk.sz) dk.sz)) :
   ∃g':G,g'.w=g.w.setRow b (Zr cur.toList (off*dk.sz) news).toArray∧Step [j] g g'∧OwnAt dk e j (over fs off ws) g' b cap (Zr cur.toList (off*dk.sz) news).toArray:=by
 have n:Step [j] g (g.wr b (Zr cur.toList (off*dk.sz) news).toArray h.lt h.npr (fun _=>False) j):=Zmb h.own (.inr rfl) h.npr
 have m:cur.toList.length=cap*dk.sz:=by simpa using h.sz
 have t:=h.len
 refine⟨_,rfl,n,⟨by rw[wr_w,Zdm];exact h.lt,by simp[G.wr],fun b' p q=>?_,by rw[wr_w];exact setRow_heap _ _ _ _ _ _ h.heap,by rw[Zq6 k];exact h.len,h.max,?_,?_,fun o=>by simp[G.wr]⟩⟩
 · rw [wr_w,Zdm] at p
   simp only[G.wr]at q
   split at q
   · assumption
   · exact h.uniq b' p q
 · rw[Zbup,Zb7 (by rw[r,m,←Zbt0];exact Zbtx _ (by omega))];exact m
 · exact Z22 n.le r m k h.len h.known s
theorem Zyu {g:G} {b off len cap:Nat} {fs:List (Option α)} {cur:Array Value} (r:TE P t e dk bytes) (h:OwnAt dk e j fs g b cap cur) (o:off+len≤fs.length) {A:Option Addr} {n c2:Nat} {ws:List α} {news:List Value} (p:ws.length=Zbwq n len) (B:ws=[]∨∃b2 o2,A=some ⟨b2,o2,none⟩∧∀k u,news[k]? =some u→g.w.cell? ⟨b2,o2+k,none⟩=some u) (s:news.length=ws.length*dk.sz) (a:∀u∈news,u.oneCell' =true) (ty:TypeId) :
   (Builtin.copy_ #[t,t] ty #[.slice (some (if cap=off then ⟨b,0,none⟩else ⟨b,off*dk.sz,none⟩)) len (cap-off),.slice A n c2]).run P g.w=.ok (.int .i64 (ws.length:Int)) (g.w.setRow b (Zr cur.toList (off*dk.sz) news).toArray):=by
 obtain⟨i,zz,c,hz,f,F,H⟩:=r.info
 have I:cur.toList.length=cap*dk.sz:=by simpa using h.sz
 have C:=h.len
 rcases B with rfl | ⟨b2,o2,rfl,v⟩
 · have q:news=[]:=Zbua (by simpa using s)
   subst q
   have hs:(Zr cur.toList (off*dk.sz) []).toArray=cur:=by simp[Zr]
   have m:g.w.setRow b cur=g.w:=setRow_self g.w b cur e (0,0) h.heap
   rw[hs,m]
   have d:Zbwq n len=0:=by simpa using p.symm
   cases A <;> simp[Builtin.copy_,run_underlying r.und,Builtin.lenOf,Builtin.firstCells,sizeOf,typeInfo,c,d,loadCells,loadCellsFrom,storeCells,goInt]
 · have y:=run_loadCells_list (P:=P) g.w ⟨b2,o2,none⟩ news (fun k u D=>by rw [Zdy];exact v k u D)
   rw[s,p]at y
   by_cases E:cap=off
   · have x:len=0:=by omega
     have l:ws=[]:=Zbua (by rw[p,x];simp)
     subst l
     have q:news=[]:=Zbua (by simpa using s)
     subst q
     have hs:(Zr cur.toList (off*dk.sz) []).toArray=cur:=by simp[Zr]
     have m:g.w.setRow b cur=g.w:=setRow_self g.w b cur e (0,0) h.heap
     rw[hs,m]
     have d:Zbwq n len=0:=by simpa using p.symm
     simp[Builtin.copy_,run_underlying r.und,Builtin.lenOf,Builtin.firstCells,sizeOf,typeInfo,c,d,loadCells,loadCellsFrom,storeCells,goInt]
   · rw [if_neg E]
     have z:=run_storeCells_at P b (off*dk.sz) e news 0 cur g.w h.heap (by rw[s,Zbva,←Zbt0];rw[h.sz];exact Zbtx _ (by rw[p];have:Zbwq n len≤len:=Zbv7 n len;omega)) a
     rw[Zbva]at z
     simp only[Builtin.copy_,run_underlying r.und,Builtin.lenOf,Builtin.firstCells,sizeOf,typeInfo,Sem.run_bind,run_program,Result.andThen_ok,c,Sem.run_pure,f,Zbvd,List.getElem?_cons_zero,Zbv8,y,goInt,p]
     rw[z]
     rfl
theorem Zbao {fs:List (Option α)} {off len s:Nat} {vs:List α} (p:TE P t e dk bytes) (q:off+len≤fs.length) (S:vs.length≤len) (l:o.op=.call {callee:=.builtin .copy,args:=#[x,y],argTypes:=#[t,t]}) (r:o.dst=some d) (B:s≠d)
   (v:Opd uses x (Zrp dk e j off len)) (T:Opd uses y (dk.sl.pd vs)) (hs:Opd uses (.tmp s) (pOwn dk e j c fs)):OB P N o uses [(d,pInt .i64 (vs.length:Int)),(s,pOwn dk e j c (over fs off vs))] [j+1]:=by
 intro a g K Q U C m V
 obtain⟨b,cap,cur,D,E,_⟩:=v a g m
 obtain⟨b',cap',cur',F,z,W⟩:=hs a g m
 obtain⟨rfl,rfl,rfl⟩:=z.same E p.sz
 obtain⟨A,c2,G,a',c',H⟩:=Zsf (T a g m)
 obtain⟨news,f,I,J⟩:∃news:List Value,news.length=vs.length*dk.sz∧(vs=[]∨∃b2 o2,A=some ⟨b2,o2,none⟩∧∀k u,news[k]?=some u→g.w.cell? ⟨b2,o2+k,none⟩=some u)∧∀i x,vs[i]?=some x→dk.K g x (seg news (i*dk.sz) dk.sz):=by
   rcases H with rfl | ⟨b2,o2,news,rfl,X,Y,Z⟩
   · exact⟨[],by simp,.inl rfl,fun i x v=>by simp at v⟩
   · exact⟨news,X,.inr ⟨b2,o2,rfl,fun k u m=>(Y k u m).2⟩,Z⟩
 obtain⟨g',hw,L,M⟩:=Zzq z (off:=off) f (by omega) J
 have hr:=Zyu p z (off:=off) (len:=len) q (A:=A) (n:=vs.length) (c2:=c2) (ws:=vs) (by simp[Zbu8 S]) I f (Zn6 f J p.sz) o.type
 have O:(execOp a.eval o).run P g.w=.ok (.value (.int .i64 (vs.length:Int))) g'.w:=by
   simp[execOp,l,resolve,invoke,builtin,D,G,hr,hw]
 unfold Oper.wp
 rw[O]
 refine V _ g' L fun e R=>?_
 simp only[Zbt6,Zbwz,or_false]at R
 rcases R with rfl | rfl
 · rw[r,Zdn _ (by rw[U];exact C d r)];exact Zhh _ _ g'
 · rw [Zlf _ (by rw [r];intro h;exact B (Zbt7.inj h).symm)]
   exact⟨b,cap,_,by rw[Zq6 (by omega)];exact F,M,W⟩
theorem Zbaf {fs fs2:List (Option α)} {off len off2 len2 s s2 j2:Nat} {c2:Option Nat} {ws:List α} (v:TE P t e dk bytes) (B:off+len≤fs.length) (Z:off2+len2≤fs2.length) (C:ws.length=Zbwq len2 len) (G:∀i x,ws[i]? =some x→fs2[off2+i]? =some (some x))
   (H:o.op=.call {callee:=.builtin .copy,args:=#[x,y],argTypes:=#[t,t]}) (D:o.dst=some d) (I:s≠d) (z:Opd uses x (Zrp dk e j off len)) (hy:Opd uses y (Zrp dk e j2 off2 len2)) (hs:Opd uses (.tmp s) (pOwn dk e j c fs)) (J:Opd uses (.tmp s2) (pOwn dk e j2 c2 fs2)) :
   OB P N o uses [(d,pInt .i64 (ws.length:Int)),(s,pOwn dk e j c (over fs off ws))] [j+1]:=by
 intro a g K Q hN L q hK
 obtain⟨b,cap,cur,M,O,_⟩:=z a g q
 obtain⟨b',cap',cur',R,E,hc⟩:=hs a g q
 obtain⟨rfl,rfl,rfl⟩:=E.same O v.sz
 obtain⟨b3,cap3,cur3,S,T,a'⟩:=hy a g q
 obtain⟨b2,cap2,cur2,c',m,e'⟩:=J a g q
 obtain⟨rfl,rfl,rfl⟩:=m.same T v.sz
 have d':ws.length≤len2:=by rw[C];exact Zbw3 _ _
 have f':ws.length≤len:=by rw[C];exact Zbv7 _ _
 have h':=m.len
 have F:cur3.toList.length=cap3*dk.sz:=by simpa using m.sz
 let news:=seg cur3.toList (off2*dk.sz) (ws.length*dk.sz)
 have r:news.length=ws.length*dk.sz:=by
   show ((cur3.toList.drop (off2*dk.sz)).take (ws.length*dk.sz)).length=_
   rw[Zbut,Zbvm,F]
   have:(off2+ws.length)*dk.sz≤cap3*dk.sz:=Zbtx _ (by omega)
   rw[Zbt0]at this;omega
 have U:∀i x,ws[i]?=some x→dk.K g x (seg news (i*dk.sz) dk.sz):=fun i x z=>by
   have hi:=(Zbtw.1 z).1
   have h1:=m.known _ _ (G i x z)
   have e:seg news (i*dk.sz) dk.sz=seg cur3.toList ((off2+i)*dk.sz) dk.sz:=by
     show (((cur3.toList.drop (off2*dk.sz)).take (ws.length*dk.sz)).drop (i*dk.sz)).take dk.sz=_
     have:=Zlr (sz:=dk.sz) hi
     rw[Zbu5,Zbu6,Zbvx,Zbu8 (by omega),Zbt0];rfl
   rw[e];exact h1
 obtain⟨g',V,W,X⟩:=Zzq E (off:=off) r (by omega) U
 have f:∀k u,news[k]?=some u→g.w.cell? ⟨b3,off2*dk.sz+k,none⟩=some u:=fun k u q=>by
   simp only[World.cell?,m.heap]
   have p:((cur3.toList.drop (off2*dk.sz)).take (ws.length*dk.sz))[k]?=some u:=q
   rw[Zbty]at p
   split at p
   · rw [Zbtz] at p
     simpa using p
   · cases p
 have hr:=Zyu v E (off:=off) (len:=len) B (A:=some (if cap3=off2 then ⟨b3,0,none⟩else ⟨b3,off2*dk.sz,none⟩)) (n:=len2) (c2:=cap3-off2) (ws:=ws) (news:=news) C (by
   by_cases l:cap3=off2
   · left;apply Zbua;omega
   · right;exact⟨b3,off2*dk.sz,by rw[if_neg l],f⟩) r (Zn6 r U v.sz) o.type
 have Y:(execOp a.eval o).run P g.w=.ok (.value (.int .i64 (ws.length:Int))) g'.w:=by
   simp only[execOp,H,resolve,invoke,builtin,Sem.run_bind,Sem.run_pure,Result.andThen_ok,Zbvn,Zbvf,Zbwo,M,S,hr,V]
 unfold Oper.wp
 rw[Y]
 refine hK _ g' W fun e l=>?_
 simp only[Zbt6,Zbwz,or_false]at l
 rcases l with rfl | rfl
 · rw[D,Zdn _ (by rw[hN];exact L d D)];exact Zhh _ _ g'
 · rw [Zlf _ (by rw [D];intro h;exact I (Zbt7.inj h).symm)]
   exact⟨b,cap,_,by rw[Zq6 (by omega)];exact R,X,hc⟩
end
section
variable {P:Program} {N:Nat} {o:Oper} {uses:Z8} {d:Nat} {q:Pd} {x y z:Operand} {α:Type} {dk:Kd α} {t e:TypeId} {bytes j:Nat} {c:Option Nat}
theorem OwnAt.ext {fs:List (Option α)} {g:G} {b cap h:Nat} {cur:Array Value} (k:OwnAt dk e j fs g b cap cur) (h1:fs.length≤h) (h2:h≤cap):OwnAt dk e j (fs++Zbun (h-fs.length) none) g b cap cur :=
 ⟨k.lt,k.own,k.uniq,k.heap,by simp;omega,k.max,k.sz,fun i x m=>by
   rw[Zbt4]at m
   split at m
   · exact k.known i x m
   · rw [Zbu7] at m
     split at m <;> simp at m,k.npr⟩
theorem OwnAt.sub {fs fs':List (Option α)} {g:G} {b cap:Nat} {cur:Array Value} (h:OwnAt dk e j fs g b cap cur) (k:fs'.length≤cap) (m:∀(i:Nat) (x:α),fs'[i]?=some (some x)→fs[i]?=some (some x)):OwnAt dk e j fs' g b cap cur :=
 ⟨h.lt,h.own,h.uniq,h.heap,k,h.max,h.sz,fun i x n=>h.known i x (m i x n),h.npr⟩
theorem Zp7 (z:Array Value) (n:Nat):(Builtin.zeroCells z n).size=n*z.size:=by simp[Builtin.zeroCells]
theorem Z15 {g:G} {cur:Array Value} {cap:Nat} {fs:List (Option α)} (r:j≠0) (s:fs.length≤cap) (t:cap≤maxLen) (hs:cur.size=cap*dk.sz) (u:∀(i:Nat) (x:α),fs[i]? =some (some x)→dk.K g x (seg cur.toList (i*dk.sz) dk.sz)) :
   ∃g':G,g'.w=g.w.drew.alloc (.cells cur e)∧Step [j] g g'∧OwnAt dk e j fs g' g.w.heap.size cap cur:=by
 have p:=Step.drew g
 have q:=Zn7 g.drew cur e (fun _=>False) j
 have n:Step [j] g (g.drew.push cur e (fun _=>False) j):=(p.sub (by simp)).trans q
 have k:g.drew.w.heap.size=g.w.heap.size:=rfl
 refine⟨g.drew.push cur e (fun _=>False) j,rfl,n,⟨by rw[Zh1,Zj8];omega,by simp[G.push,k],fun b' z m=>?_,by rw[Zh1,←k];exact Zn9 ..,s,t,hs,fun i x v=>dk.mono n.le (u i x v),fun o=>by simp[G.push,k]⟩⟩
 by_cases h:b'=g.drew.w.heap.size
 · rw[h,k]
 · simp only [G.push,if_neg h] at m
   split at m
   · exact absurd m.symm r
   · rename_i y;exact absurd m y
theorem Zbh2 {j:Nat} {ty:TypeId} (r:TE P t e dk bytes) (n:o.op=.buildSlice t 0 #[]) (s:o.dst=some d):OB P N o uses [(d,pOwn dk e j (some 0) ([]:List (Option α)))] [j+1] :=
 Zjr s fun a g hh=>by
   have p:=Zn7 g #[] e (fun _=>False) (j+1)
   refine⟨.slice (some ⟨g.w.heap.size,0,none⟩) 0 0,g.push #[] e (fun _=>False) (j+1),?_,p,g.w.heap.size,0,#[],rfl,⟨by rw[Zh1,Zj8];omega,by simp[G.push],fun b' f m=>?_,by rw[Zh1];exact Zn9 ..,Zbub _,Zbwe _,by simp,fun i x u=>by simp at u,fun o=>by simp[G.push]⟩,fun k v=>Zbt7.inj v⟩
   · obtain ⟨cells,y,_,z⟩:=Z5i (ys:=[]) (xs:=[]) r .nil (by simp) hh
     have b:cells=[]:=Zbua (by simpa using y)
     subst b
     rw[Zh1]
     have q:(Instr.buildSlice t 0 #[]).run P g.w=.ok (.slice (some ⟨g.w.heap.size,0,none⟩) 0 0) (g.w.alloc (.cells #[] e)):=by simpa[idxL]using z
     simp[execOp,n]
     rw[q];rfl
   · by_cases h:b'=g.w.heap.size
     · exact h
     · simp only [G.push,if_neg h] at m
       split at m
       · omega
       · rename_i c;exact absurd m c
theorem Z27 {xs vs:List α} (D:TE P t e dk bytes) (U:o.op=.call {callee:=.builtin .append,args:=#[x,y],argTypes:=#[t,t]}) (hd:o.dst=some d) (hx:Opd uses x (pOwn dk e j c (xs.map some))) (R:Opd uses y (dk.sl.pd vs)) (V:(xs.length+vs.length)*bytes≤140737488355328) :
   OB P N o uses [(d,pOwn dk e j none ((xs++vs).map some))] [j+1] :=
 Zjr hd fun a g hh=>by
   obtain⟨b,cap,cur,F,q,_⟩:=hx a g hh
   obtain⟨A,c2,G,j',k',W⟩:=Zsf (R a g hh)
   obtain⟨i,zz,S,hz,r,X,Y⟩:=D.info
   have Z:=D.by0
   have n:∀v w',(Builtin.append_ #[t,t] o.type #[a.eval x,a.eval y]).run P g.w=.ok v w'→(execOp a.eval o).run P g.w=.ok (.value v) w':=fun v w' h=>by
     simp[execOp,U,resolve,invoke,builtin,h]
   have i':xs.length+vs.length≤140737488355328:=Zbuy (Zbul _ Z) V
   have H:=q.len
   rw[Zbuv]at H F
   rcases Zbvi vs.length with h0 | I
   · obtain rfl:=Zbua h0
     refine⟨a.eval x,g,n _ _ ?_,.refl _ _,b,cap,cur,by rw[F];simp,by rw[Zbur];exact q,fun k m=>by cases m⟩
     rw[F,G]
     cases A <;> simp[Builtin.append_,run_underlying D.und,sizeOf,typeInfo,S,Builtin.lenOf,Builtin.firstCells,loadCells,loadCellsFrom,H,storeCells]
   · obtain ⟨b2,o2,news,rfl,s,a',J⟩:=W.resolve_left (fun h=>by rw [h] at I;simp at I)
     have b':=Zn6 s J D.sz
     have B:news.length=vs.length*i.size:=by rw[r];exact s
     have C:∀k u,news[k]?=some u→g.w.cell? ((⟨b2,o2,none⟩:Addr).add k)=some u:=fun k u E=>by rw[Zdy];exact (a' k u E).2
     by_cases p:xs.length+vs.length≤cap
     · have c':=q.ext (h:=xs.length + vs.length) (by simp) p
       obtain⟨g',T,K,L⟩:=Zzq c' (off:=xs.length) (ws:=vs) s (by simp) J
       have M:=run_append_room (P:=P) g.w t o.type e i D.und S b xs.length cap cur q.heap ⟨b2,o2,none⟩ vs.length c2 news B C b' p (by rw[B,←Zbt0,q.sz,r];exact Zbtx _ p)
       rw[r]at M
       refine⟨_,g',n _ _ (by rw[F,G];rw[T];exact M),K,b,cap,(Zr cur.toList (xs.length*dk.sz) news).toArray,by simp,?_,fun k m=>by cases m⟩
       refine L.sub (by simp;omega) fun k u m=>?_
       rw[Zpo (by simp)]
       rw[Zbt1]at m
       by_cases z:k<xs.length
       · rw [if_pos z,Zbus (by simpa using z),Zbt1]
         rwa [Zbus z]at m
       · rw [if_neg z]
         have O:=(Zbtw.1 (show (xs++vs)[k]?=some u by
           obtain⟨y,R,he⟩:=Zbt3.1 m
           rw[R,Zbt7.inj he])).1
         rw[Zbux]at O
         rw[if_pos O]
         rwa [Zbv0 (by omega)]at m
     · have d':cur.toList.length=cap * dk.sz:=by simpa using q.sz
       have f:(cur.toList.take (xs.length*dk.sz)).length=xs.length*i.size:=by rw[r,Zbut,d'];exact Zbu8 (Zbtx _ H)
       have Q:∀k u,(cur.toList.take (xs.length*dk.sz))[k]?=some u→g.w.cell? ((⟨b,0,none⟩:Addr).add k)=some u:=fun k u E=>by
         rw[Zdy]
         simp only[World.cell?,q.heap,Zbuc]
         rw[Zbty]at E
         split at E
         · simpa using E
         · cases E
       have M:=run_append_grow (P:=P) g.w t o.type e i zz D.und S hz ⟨b,0,none⟩ xs.length cap (cur.toList.take (xs.length*dk.sz)) f Q ⟨b2,o2,none⟩ vs.length c2 news B C (by omega) (by omega) (growslice_fits (by omega) (by rw[X];exact V))
       have e':=grownCap_ge g.w (xs.length+vs.length) cap e
       have f':=grownCap_le_maxLen g.w (xs.length+vs.length) cap e (by simp only[maxLen];omega)
       rw[r]at f
       obtain⟨g',T,K,L⟩:=Z15 (dk:=dk) (e:=e) (g:=g) (j:=j+1) (cur:=(cur.toList.take (xs.length*dk.sz)).toArray++news.toArray++Builtin.zeroCells zz.cells (grownCap g.w (xs.length+vs.length) cap e-(xs.length+vs.length))) (cap:=grownCap g.w (xs.length+vs.length) cap e) (fs:=(xs++vs).map some) (by omega) (by simpa using e') f' (by
           simp only[Zbvj,Zbup,Zp7,Y,f,s,←Zbt0]
           congr 1;omega) (fun k u m=>by
           rw[Zbt1]at m
           obtain⟨u',l,h'⟩:=Zbt3.1 m
           obtain rfl:=Zbt7.inj h'
           simp only[Zbvu,Zbug]
           rw[Zbt4]at l
           split at l
           · rename_i z
             rw[Zhf (by rw[f];exact Zlr z)]
             have e2:seg (cur.toList.take (xs.length*dk.sz)) (k*dk.sz) dk.sz=seg cur.toList (k*dk.sz) dk.sz:=by
               have:=Zlr (sz:=dk.sz) z
               simp only[seg,Zbu5,Zbu6]
               congr 1;omega
             rw[e2]
             exact q.known k u' (by rw[Zbt1,l];rfl)
           · rename_i z
             have O:=(Zbtw.1 l).1
             rw[show k*dk.sz=(cur.toList.take (xs.length*dk.sz)).length+(k-xs.length)*dk.sz by rw[f,←Zbt0];congr 1;omega,Zjw,Zhf (by rw[s];exact Zlr O)]
             exact J _ _ l)
       refine⟨_,g',n _ _ (by rw[F,G];rw[T];exact M),K,_,_,_,by simp,L,fun k m=>by cases m⟩
theorem Zbew {fs:List (Option α)} {n off len s k:Nat} {xs ws:List α} (l:TE P t e dk bytes) (hn:n=xs.length) (a':n+len≤k) (c':off+len≤fs.length) (B:ws.length=len) (H:∀(i:Nat) (x:α),xs[i]? =some x→fs[i]? =some (some x)) (I:∀(i:Nat) (x:α),ws[i]? =some x→fs[off+i]? =some (some x))
   (J:o.op=.call {callee:=.builtin .append,args:=#[x,y],argTypes:=#[t,t]}) (hd:o.dst=some d) (z:Opd uses x (Zrp dk e j 0 n)) (A:Opd uses y (Zrp dk e j off len)) (hs:Opd uses (.tmp s) (pOwn dk e j (some k) fs)) :
   OB P N o uses [(d,pOwn dk e j (some k) ((xs++ws).map some))] [j+1] :=
 Zjr hd fun a g hh=>by
   obtain⟨b,cap,cur,L,M,_⟩:=z a g hh
   obtain⟨b',cap',cur',d',m,O⟩:=hs a g hh
   obtain rfl:=O k rfl
   obtain⟨rfl,rfl,rfl⟩:=m.same M l.sz
   obtain⟨b3,cap3,cur3,Q,R,Z⟩:=A a g hh
   obtain⟨rfl,rfl,rfl⟩:=m.same R l.sz
   obtain⟨i,zz,F,hz,p,e',f'⟩:=l.info
   have h':=m.len
   have S:cur3.toList.length=cap3*dk.sz:=by simpa using m.sz
   let news:=seg cur3.toList (off*dk.sz) (len*dk.sz)
   have q:news.length=ws.length*dk.sz:=by
     show ((cur3.toList.drop (off*dk.sz)).take (len*dk.sz)).length=_
     rw[Zbut,Zbvm,S,B]
     have:(off+len)*dk.sz≤cap3*dk.sz:=Zbtx _ (by omega)
     rw[Zbt0]at this;omega
   have r:∀(i:Nat) (x:α),ws[i]?=some x→dk.K g x (seg news (i*dk.sz) dk.sz):=fun i x z=>by
     have F:=(Zbtw.1 z).1
     have C:=m.known _ _ (I i x z)
     have e:seg news (i*dk.sz) dk.sz=seg cur3.toList ((off+i)*dk.sz) dk.sz:=by
       show (((cur3.toList.drop (off*dk.sz)).take (len*dk.sz)).drop (i*dk.sz)).take dk.sz=_
       have:=Zlr (sz:=dk.sz) (show i<len by omega)
       rw[Zbu5,Zbu6,Zbvx,Zbu8 (by omega),Zbt0];rfl
     rw[e];exact C
   have D:∀k u,news[k]?=some u→g.w.cell? ((⟨b3,off*dk.sz,none⟩:Addr).add k)=some u:=fun k u c=>by
     rw[Zdy]
     simp only[World.cell?,m.heap]
     have v:((cur3.toList.drop (off*dk.sz)).take (len*dk.sz))[k]?=some u:=c
     rw[Zbty]at v
     split at v
     · rw [Zbtz] at v
       simpa using v
     · cases v
   have T:=(m.sub (fs':=xs.map some) (by rw[Zbuv];omega) (fun i x z=>by
     rw[Zbt1]at z
     obtain⟨y,A,G⟩:=Zbt3.1 z
     rw[H i y A,G])).ext (h:=n+len) (by rw[Zbuv];omega) (by omega)
   obtain⟨g',U,V,W⟩:=Zzq T (off:=n) (ws:=ws) q (by simp;omega) r
   have X:(if cap3=0 then (⟨b3,0,none⟩:Addr)else ⟨b3,0*dk.sz,none⟩)=⟨b3,0,none⟩:=by split <;> simp
   have hr:(Builtin.append_ #[t,t] o.type #[a.eval x,a.eval y]).run P g.w=.ok (.slice (some ⟨b3,0,none⟩) (n+len) cap3) g'.w:=by
     rw[L,Q,X,U,Zbxc]
     by_cases Y:cap3=off
     · have E:len=0:=by omega
       have f:news=[]:=Zbua (by rw[q,B,E];simp)
       rw[if_pos Y]
       have:=run_append_room (P:=P) g.w t o.type e i l.und F b3 n cap3 cur3 m.heap ⟨b3,0,none⟩ len (cap3-off) news (by rw[f,E];simp) (fun j u c=>by rw[f]at c;simp at c) (fun u c=>by rw[f]at c;cases c) (by omega) (by rw[f,m.sz,p];simp;exact Zbtx _ (by omega))
       rw[p]at this
       exact this
     · rw [if_neg Y]
       have:=run_append_room (P:=P) g.w t o.type e i l.und F b3 n cap3 cur3 m.heap ⟨b3,off*dk.sz,none⟩ len (cap3-off) news (by rw[q,B,p]) D (Zn6 q r l.sz) (by omega) (by rw[q,B,p,←Zbt0,m.sz];exact Zbtx _ (by omega))
       rw[p]at this
       exact this
   refine⟨_,g',?_,V,b3,cap3,(Zr cur3.toList (n*dk.sz) news).toArray,rfl,?_,O⟩
   · rw [show ((xs ++ ws).map some).length=n + len by simp;omega]
     simp[execOp,J,resolve,invoke,builtin,hr]
   · refine W.sub (by simp;omega) fun k u r=>?_
     rw[Zpo (by simp;omega)]
     rw[Zbt1]at r
     by_cases C:k<n
     · rw [if_pos C,Zbus (by simp;omega),Zbt1]
       rwa [Zbus (by omega)]at r
     · rw [if_neg C]
       have h2:=(Zbtw.1 (show (xs++ws)[k]?=some u by
         obtain⟨y,A,G⟩:=Zbt3.1 r
         rw[A,Zbt7.inj G])).1
       rw[Zbux]at h2
       rw[if_pos (by omega)]
       rw[Zbv0 (by omega)]at r
       rw[hn];exact r
theorem Zwn (w:World) (t tn ty e:TypeId) (i:TypeInfo) (z:Value) (k kn:IntKind) (a:P.underlying t=some (.slice e)) (s:P.underlying tn=some (.int kn)) (c:P.info? e=some i) (d:i.zero=some z)
   (b:Addr) (sLen sCap:Nat) (olds:List Value) (u:olds.length=sLen*i.size) (h:∀j v,olds[j]?=some v→w.cell? (b.add j)=some v)
   (n:Nat) (h0:0<n) (hs:0<i.size) (hg:sCap<sLen+n) (o:((sLen+n:Nat):Int)≤9223372036854775807) (A:n*i.bytes≤281474976710656) (f:Builtin.nextslicecap (sLen+n) sCap*i.bytes≤281474976710656) :
   (Builtin.append_ #[t,tn] ty #[.slice (some b) sLen sCap,.int k n]).run P w =
     .ok (.slice (some ⟨w.heap.size,0,none⟩) (sLen+n) (grownCap w (sLen+n) sCap e))
       (w.drew.alloc (.cells (olds.toArray++Builtin.zeroCells z.cells n++Builtin.zeroCells z.cells (grownCap w (sLen+n) sCap e-(sLen+n))) e)):=by
 have g:Zbwc.wrap (n:Int)=n:=by rw[Zbwy];omega
 have l:¬(sLen+n≤sCap):=by omega
 have m:¬(9223372036854775807<((sLen:Int)+(n:Int))):=by omega
 have p:¬(281474976710656<Builtin.nextslicecap (sLen+n) sCap*i.bytes):=by omega
 have q:¬(281474976710656<(n:Int)*(i.bytes:Int)):=by
   rw[←Zbw4]
   omega
 have r:¬((n:Int)<0):=by omega
 have x:¬(n*i.size=0):=Zbw5 (by omega) (by omega)
 have y:=run_firstCells_some (P:=P) w.drew i.size sLen b sLen sCap olds u (by simpa using h)
 simp[Builtin.append_,run_underlying a,run_underlying s,sizeOf,typeInfo,zeroValue,c,d,asInt,asIntOf,g,l,r,x,m,p,q,Question.forced,y,newRow,grownCap]
theorem Zbej {fs:List (Option α)} {n m s k d2 tn:Nat} {kn:IntKind} {xs:List α} (p:TE P t e dk bytes) (A:P.underlying tn=some (.int kn)) (hn:n=xs.length) (a':n≤fs.length) (Q:0<m) (h:k<n+m) (B:(n+m)*bytes≤140737488355328) (C:∀(i:Nat) (x:α),xs[i]? =some x→fs[i]? =some (some x))
   (D:o.op=.call {callee:=.builtin .append,args:=#[x,y],argTypes:=#[t,tn]}) (R:o.dst=some d) (S:Opd uses x (Zrp dk e j 0 n)) (T:Opd uses y (pInt .i64 (m:Int))) (hs:Opd uses (.tmp s) (pOwn dk e j (some k) fs)) :
   OB P N o uses [(d,pOwn dk e d2 none (xs.map some++Zbun m none))] [d2+1] :=
 Zjr R fun a g hh=>by
   obtain⟨b,cap,cur,c,E,_⟩:=S a g hh
   obtain⟨b',cap',cur',c',q,U⟩:=hs a g hh
   obtain rfl:=U k rfl
   obtain⟨rfl,rfl,rfl⟩:=q.same E p.sz
   obtain⟨i,zz,V,W,f,l,F⟩:=p.info
   have G:=Zcy.1 (T a g hh)
   have H:(if cap=0 then (⟨b,0,none⟩:Addr)else ⟨b,0*dk.sz,none⟩)=⟨b,0,none⟩:=by split <;> simp
   have d':=q.len
   have I:cur.toList.length=cap*dk.sz:=by simpa using q.sz
   have X:n+m≤140737488355328:=Zbuy (Zbul _ p.by0) B
   have r:(cur.toList.take (n*dk.sz)).length=n*dk.sz:=by rw[Zbut,I];exact Zbu8 (Zbtx _ (by omega))
   have v:∀k u,(cur.toList.take (n*dk.sz))[k]?=some u→g.w.cell? ((⟨b,0,none⟩:Addr).add k)=some u:=fun k u z=>by
     rw[Zdy]
     simp only[World.cell?,q.heap,Zbuc]
     rw[Zbty]at z
     split at z
     · simpa using z
     · cases z
   have e':m*bytes≤(n+m)*bytes:=Zbtx _ (by omega)
   have Y:=Zwn (P:=P) g.w t tn o.type e i zz .i64 kn p.und A V W ⟨b,0,none⟩ n cap (cur.toList.take (n*dk.sz)) (by rw[r,f]) v m Q (by rw[f];exact p.sz) h (by omega) (by rw[l];omega) (growslice_fits h (by rw[l];exact B))
   have f':=grownCap_ge g.w (n+m) cap e
   have J:=grownCap_le_maxLen g.w (n+m) cap e (by simp only[maxLen];omega)
   obtain⟨g',Z,K,L⟩:=Z15 (dk:=dk) (e:=e) (g:=g) (j:=d2+1) (cur:=(cur.toList.take (n*dk.sz)).toArray++Builtin.zeroCells zz.cells m++Builtin.zeroCells zz.cells (grownCap g.w (n+m) cap e-(n+m))) (cap:=grownCap g.w (n+m) cap e) (fs:=xs.map some++Zbun m none) (by omega) (by simp;omega) J (by
       simp only[Zbvj,Zbup,Zp7,F,r,←Zbt0]
       congr 1;omega) (fun k u h=>by
       rw[Zbt4]at h
       split at h
       · rename_i h1
         rw[Zbuv]at h1
         rw[Zbt1]at h
         obtain⟨u',M,O⟩:=Zbt3.1 h
         obtain rfl:=Zbt7.inj O
         simp only[Zbvu,Zbug]
         rw[Zhf (by rw[r];exact Zlr (by omega))]
         have e2:seg (cur.toList.take (n*dk.sz)) (k*dk.sz) dk.sz=seg cur.toList (k*dk.sz) dk.sz:=by
           have:=Zlr (sz:=dk.sz) (show k<n by omega)
           simp only[seg,Zbu5,Zbu6]
           congr 1;omega
         rw[e2]
         exact q.known k u' (C k u' M)
       · rw [Zbu7] at h
         split at h <;> simp at h)
   refine⟨_,g',?_,K,_,_,_,rfl,L,fun k h=>by cases h⟩
   rw[show (xs.map some++Zbun m (none:Option α)).length=n+m by simp;omega]
   rw[H,Zbxc]at c
   simp[execOp,D,resolve,invoke,builtin,c,G,Y,Z]
theorem Zbjd {fs:List (Option α)} {off len s k:Nat} (q:TE P t e dk bytes) (c:((P.info? e).bind (·.zero)).map (fun z=>z.cells.all (·.oneCell'))=some true) (a':fs.length≤off) (T:off+len≤k)
   (E:o.op=.call {callee:=.builtin .clear,args:=#[x],argTypes:=#[t]}) (U:o.dst=none) (v:Opd uses x (Zrp dk e j off len)) (hs:Opd uses (.tmp s) (pOwn dk e j (some k) fs)):OB P N o uses [(s,pOwn dk e j (some k) fs)] [j+1]:=by
 intro a g K Q hN c' r V
 obtain⟨b,cap,cur,F,H,_⟩:=v a g r
 obtain⟨b',cap',cur',I,h,J⟩:=hs a g r
 obtain rfl:=J k rfl
 obtain⟨rfl,rfl,rfl⟩:=h.same H q.sz
 obtain⟨i,zz,B,L,d',e',d⟩:=q.info
 have f:cur.toList.length=cap*dk.sz:=by simpa using h.sz
 have C:∀u∈(Builtin.zeroCells zz.cells len).toList,u.oneCell'=true:=by
   simp only[B,L,Zbv3,Zbvh,Zbt7.injEq]at c
   intro u r
   simp only[Builtin.zeroCells,Array.toList_map,Zbud]at r
   obtain⟨m,hm,rfl⟩:=r
   have W:0<zz.cells.size:=by rw[d];exact q.sz
   have l:m % zz.cells.size<zz.cells.size:=Zbv2 _ W
   rw[getElem!_pos zz.cells _ l]
   exact Array.all_eq_true.1 c _ l
 have X:(cur.toList.take (off*dk.sz)++(Builtin.zeroCells zz.cells len).toList++cur.toList.drop (off*dk.sz+(Builtin.zeroCells zz.cells len).toList.length)).toArray=(Zr cur.toList (off*dk.sz) (Builtin.zeroCells zz.cells len).toList).toArray:=rfl
 have M:(Builtin.zeroCells zz.cells len).toList.length=len*dk.sz:=by rw[Zbvt,Zp7,d]
 have p:off*dk.sz+(Builtin.zeroCells zz.cells len).toList.length≤cur.toList.length:=by rw[M,f,←Zbt0];exact Zbtx _ T
 let cs:=(Zr cur.toList (off*dk.sz) (Builtin.zeroCells zz.cells len).toList).toArray
 have Y:(Builtin.clear_ #[t] o.type #[a.eval x]).run P g.w=.ok (.tuple #[]) (g.w.setRow b cs):=by
   rw[F]
   rcases Zbvi len with rfl | Z
   · have O:cs=cur:=by
       show (Zr cur.toList (off*dk.sz) (Builtin.zeroCells zz.cells 0).toList).toArray=cur
       have:(Builtin.zeroCells zz.cells 0).toList=[]:=by simp[Builtin.zeroCells]
       rw[this];simp[Zr]
     rw[O,setRow_self g.w b cur e (0,0) h.heap]
     by_cases y:cap=off <;> simp[Builtin.clear_,run_underlying q.und]
   · have y:¬ cap=off:=by omega
     rw[if_neg y]
     have n:=run_storeCells_at P b (off*dk.sz) e (Builtin.zeroCells zz.cells len).toList 0 cur g.w h.heap (by rw[Zbva];simpa using p) C
     rw[Zbva]at n
     obtain⟨len,rfl⟩:∃m,len=m+1:=⟨len-1,by omega⟩
     simp[Builtin.clear_,run_underlying q.und,zeroValue,typeInfo,B,L]
     rw[n];rfl
 have R:(execOp a.eval o).run P g.w=.ok (.value (.tuple #[])) (g.w.setRow b cs):=by
   simp[execOp,E,resolve,invoke,builtin,Y]
 unfold Oper.wp
 rw[R]
 have n:Step [j+1] g (g.wr b cs h.lt h.npr (fun _=>False) (j+1)):=Zmb h.own (.inr rfl) h.npr
 refine V _ (g.wr b cs h.lt h.npr (fun _=>False) (j+1)) n fun e y=>?_
 rw[Zbtu.1 y]
 have S:Act.at (a.put o.dst (.tuple #[])) s=Act.at a s:=by rw[U];rfl
 rw[S]
 refine⟨b,cap,cs,I,⟨by rw[wr_w,Zdm];exact h.lt,by simp[G.wr],fun b' A D=>?_,by rw[wr_w];exact setRow_heap _ _ _ _ _ _ h.heap,h.len,h.max,?_,fun i x v=>?_,fun o=>by simp[G.wr]⟩,J⟩
 · rw [wr_w,Zdm] at A
   simp only[G.wr]at D
   split at D
   · assumption
   · exact h.uniq b' A D
 · show (Zr cur.toList (off * dk.sz) (Builtin.zeroCells zz.cells len).toList).toArray.size=_
   rw[Zbup,Zb7 p,f]
 · have B:=(Zbtw.1 v).1
   have e2:seg cs.toList (i*dk.sz) dk.sz=seg cur.toList (i*dk.sz) dk.sz:=by
     show seg (Zr cur.toList (off*dk.sz) (Builtin.zeroCells zz.cells len).toList) (i*dk.sz) dk.sz=_
     exact Zj p (.inl (Zlr (by omega)))
   rw[e2]
   exact dk.mono n.le (h.known i x v)
end
section
variable {P:Program} {N:Nat} {o:Oper} {uses:Z8} {d:Nat} {q:Pd} {x y z:Operand} {α:Type} {dk:Kd α} {t e:TypeId} {bytes j:Nat} {c:Option Nat}
theorem Z8f {w:World} {ps rs:Array TypeId} {A:Option Addr} {la ca lb cb:Nat} {B:Addr} {cur:Array Value} {i:TypeInfo} (m:ps[0]? =some t) (p:P.underlying t=some (.slice e)) (q:P.info? e=some i)
   (g:la=0∨∃a c2 t2 fr,A=some a∧a.block≠B.block∧w.heap[a.block]?=some (.cells c2 t2 fr)∧c2.size≠0) (r:w.heap[B.block]?=some (.cells cur e (0,0))) (hc:cur.size≠0) :
   (Extern.SlicesOverlaps.overlaps ps rs #[.slice A la ca,.slice (some B) lb cb]).run P w=.ok (.bool false) w:=by
 have v:∀n,w.frozen? {block:=B.block,off:=n}=false:=fun n=>by simp[World.frozen?,r]
 have s:w.frozen? B=false:=by simp[World.frozen?,r]
 have h:w.shape? B.block=some (e,cur.size):=by simp[World.shape?,r]
 obtain⟨n,j⟩:∃n,cur.size=n+1:=⟨cur.size-1,by omega⟩
 rw[j]at h
 change Sem.run P (α:=Value) (do
   let some t := ps[0]? | stuck "slices.overlaps: no parameter types"
   let .slice elem ← underlying t | stuck "slices.overlaps: slice type expected"
   let size ←sizeOf elem
   match A,(some B:Option Addr)with
   | some a,some b =>
     if la=0∨lb=0∨size=0 then pure (Value.bool false)
     else if a.block !=b.block&&(←frozen a)&&(←frozen b)then unsupported .addressObserved
     else do
       if a.block !=b.block then do
         noView a;noView b
         if ← mayBeOne a b then return Value.bool ((← choose (.extern "sameAddr.stringBytes" 2)) == 1)
       pure (Value.bool (a.block==b.block&&a.off<b.off+lb*size&&b.off<a.off+la*size))
   | _,_=>pure (Value.bool false)) w=_
 rcases g with rfl | ⟨a,c2,t2,fr,rfl,k,l,o⟩
 · cases A <;> simp[m,run_underlying p,sizeOf,typeInfo,q]
 · have x:(a.block != B.block)=true:=by simpa using k
   have u:(a.block==B.block)=false:=by simpa using k
   obtain⟨n2,y⟩:∃n,c2.size=n+1:=⟨c2.size-1,by omega⟩
   have z:w.shape? a.block=some (t2,n2+1):=by simp[World.shape?,l,y]
   by_cases c:la=0∨lb=0∨i.size=0
   · simp[m,run_underlying p,sizeOf,typeInfo,q,c]
   · cases d:w.frozen? a <;> cases f:w.frozen? {block:=a.block,off:=n2+1} <;>
       simp[m,run_underlying p,sizeOf,typeInfo,q,c,x,u,frozen,noView,viewAt,mayBeOne,stringish,shape,Sem.run,z,h,d,f,v,s]
theorem Zbcx {f:FuncId} {fs:List (Option α)} {off len s:Nat} {vs:List α} {ps rs:Array TypeId} {ty:Array TypeId} (n:TE P t e dk bytes) (J:ps[0]? =some t) (K:Ext P f (Extern.SlicesOverlaps.overlaps ps rs)) (V:0<fs.length) (z:o.op=.call {callee:=.value (.func f),args:=#[x,y],argTypes:=ty}) (L:o.dst=some d)
   (M:Opd uses x (dk.sl.pd vs)) (O:Opd uses y (Zrp dk e j off len)) (hs:Opd uses (.tmp s) (pOwn dk e j c fs)):OB P N o uses [(d,Zbo false)] [] :=
 Zcl L fun a g hh=>by
   obtain⟨A,c2,l,W,X,B⟩:=Zsf (M a g hh)
   obtain⟨b,cap,cur,C,Q,R⟩:=O a g hh
   obtain⟨b',cap',cur',Y,m,_⟩:=hs a g hh
   obtain⟨rfl,rfl,rfl⟩:=Q.same m n.sz
   obtain⟨i,zz,S,hz,Z,a',c'⟩:=n.info
   have hl:=m.len
   have D:cur'.size≠0:=by rw[m.sz];exact Zbw5 (by omega) (Nat.ne_of_gt n.sz)
   have T:(Extern.SlicesOverlaps.overlaps ps rs #[a.eval x,a.eval y]).run P g.w=.ok (.bool false) g.w:=by
     rw[l,C]
     have p:(if cap'=off then (⟨b',0,none⟩:Addr)else ⟨b',off*dk.sz,none⟩).block=b':=by split <;> rfl
     refine Z8f J n.und S ?_ (by rw[p];exact m.heap) D
     rw[p]
     rcases B with rfl | ⟨b2,o2,news,rfl,E,F,d'⟩
     · exact .inl rfl
     · rcases Zbvi vs.length with r | u
       · exact .inl r
       · right
         have U:0<news.length:=by rw[E];exact Nat.mul_pos u n.sz
         obtain⟨G,k⟩:=F 0 _ (Zbtv U)
         have H:b2≠b':=fun h=>m.npr _ (by rw[←h];exact G)
         obtain⟨cc,tt,fr,I,v⟩:∃cc tt fr,g.w.heap[b2]?=some (.cells cc tt fr)∧cc.size≠0:=by
           cases q:g.w.heap[b2]? with
           | none=>simp[World.cell?,q]at k
           | some ob=>cases ob with
             | cells cc tt fr =>
               refine⟨cc,tt,fr,rfl,fun r=>?_⟩
               have:cc=#[]:=Array.eq_empty_of_size_eq_zero r
               subst this
               simp[World.cell?,q]at k
             | _=>simp[World.cell?,q]at k
         exact⟨⟨b2,o2,none⟩,cc,tt,fr,rfl,H,I,v⟩
   exact⟨.bool false,by simp[execOp,z,resolve,Znl,Deferred.ofValue,invoke,Zbeb K,T],Zgt _ g⟩
def Z7r (dk:Kd α) (e:TypeId) (xs:List α) (g:G) (v:Value) (D:Nat→Prop):Prop :=
 (xs=[]∧∃A,v=.slice A 0 0)∨∃b cap cur,v=.slice (some ⟨b,0,none⟩) xs.length cap∧D b∧b<g.w.heap.size∧g.w.heap[b]?=some (.cells cur e (0,0))∧xs.length≤cap∧cap≤maxLen∧cur.size=cap*dk.sz∧(∀(i:Nat) (x:α),xs[i]?=some x→dk.K g x (seg cur.toList (i*dk.sz) dk.sz))∧∀o,¬g.pr b o
def pArr (dk:Kd α) (e:TypeId) (j:Nat) (xs:List α):Pd:=⟨fun g u=>(xs=[]∧∃A,u=.slice A 0 0)∨∃b cap cur,u=.slice (some ⟨b,0,none⟩) xs.length cap∧OwnAt dk e (j+1) (xs.map some) g b cap cur,[j+1],fun s k h=>h.imp id fun ⟨b,cap,cur,e,h⟩=>⟨b,cap,cur,e,h.st s (k _ (by simp)) (by omega)⟩⟩
def Z5s (P:Program) (f:FuncId) (A:List Pd) (dk:Kd α) (e:TypeId) (xs:List α):Prop:=∀(g:G) (args:List Value),ArgsOk A g args →
 Calls P f args.toArray g.w (fun en w'=>∃g' v,en=.returned v∧w'=g'.w∧Zsu (fun _=>False) g g'∧Z7r dk e xs g' v (fun b=>g.w.heap.size≤b))
def Z7w (P:Program) (f:FuncId) (dk:Kd α) (e:TypeId) (xs:List α) (A:List Pd) (q:Pd):Prop:=∀(g:G) (v:Value) (D:Nat→Prop) (args:List Value),Z7r dk e xs g v D→ArgsOk A g args →
 Calls P f (v::args).toArray g.w (fun en w'=>∃g' u,en=.returned u∧w'=g'.w∧Zsu D g g'∧q.p g' u)
open Classical in
theorem Zur {f:FuncId} {xs:List α} {xo:List Operand} {A:List Pd} {ty:Array TypeId} (G:Zi P f) (l:Z5s P f A dk e xs) (B:o.op=.call {callee:=.value (.func f),args:=xo.toArray,argTypes:=ty}) (q:o.dst=some d) (r:OpdL uses xo A):OB P N o uses [(d,pArr dk e j xs)] [j+1]:=by
 intro a g K Q C t H D
 have I:(execOp a.eval o).run P g.w=.ok (.enter f (xo.map a.eval).toArray) g.w:=by
   simp[execOp,B,resolve,Act.eval,Deferred.ofValue,invoke,Zgo G]
 unfold Oper.wp
 rw[I]
 show Calls P f _ g.w _
 refine Calls.mono (l g _ (r.ok H)) ?_
 rintro en w' ⟨g',v,rfl,rfl,k,J⟩
 have fin:∀(o1:Nat→Nat),(∀b,b<g.w.heap.size→o1 b=if g.own b=j+1 then 0 else g.own b)→(∀b,g.w.heap.size≤b→o1 b=0∨o1 b=j+1)→Step [j+1] g ⟨g'.w,g'.pr,o1,g'.hpr,g'.gl⟩:=fun o1 s u =>
   ⟨⟨k.le.size,k.le.pr,k.le.cell,k.le.blk,k.le.dr⟩,k.os,k.tape,k.output,fun b m z=>⟨(k.same b m id).1,(k.same b m id).2,by show o1 b=_;rw[s b m,if_neg (by simpa using z)]⟩,
     fun b k1 k2=>(u b k1).imp id (fun h=>by show o1 b∈_;rw[h];simp),fun b m z=>.inl (by show o1 b=0;rw[s b m,if_pos (by simpa using z)])⟩
 rcases J with ⟨rfl,A0,rfl⟩ | ⟨b,cap,cur,rfl,hD,s,u,L,M,O,R,S⟩
 · refine D _ ⟨g'.w,g'.pr,fun b=>if b < g.w.heap.size then (if g.own b=j + 1 then 0 else g.own b) else 0,g'.hpr,g'.gl⟩ (fin (fun b=>if b < g.w.heap.size then (if g.own b=j + 1 then 0 else g.own b) else 0) (fun b m=>if_pos m) (fun b m=>.inl (if_neg (by omega)))) fun e' p=>?_
   rw[Zbtu.1 p,q,Zdn _ (by rw[C];exact t d q)]
   exact .inl ⟨rfl,A0,rfl⟩
 · refine D _ ⟨g'.w,g'.pr,fun c=>if c<g.w.heap.size then (if g.own c=j+1 then 0 else g.own c)else if c=b then j+1 else 0,g'.hpr,g'.gl⟩ (fin _ (fun b m=>if_pos m) (fun c hc=>by
     show (if c<g.w.heap.size then _ else _)=0∨_=j+1
     rw[if_neg (by omega)];split <;> simp)) fun e' p=>?_
   rw[Zbtu.1 p,q,Zdn _ (by rw[C];exact t d q)]
   refine .inr ⟨b,cap,cur,rfl,⟨s,?_,fun b' V T=>?_,u,by simpa using L,M,O,fun i x E=>?_,S⟩⟩
   · show (if b < g.w.heap.size then _ else _)=_
     rw[if_neg (by omega),if_pos rfl]
   · have n:(if b' < g.w.heap.size then (if g.own b'=j + 1 then 0 else g.own b') else if b'=b then j + 1 else 0)=j + 1:=T
     split at n
     · split at n
       · omega
       · rename_i F;exact absurd n F
     · split at n
       · assumption
       · omega
   · rw [Zbt1] at E
     obtain⟨y,U,he''⟩:=Zbt3.1 E
     obtain rfl:=Zbt7.inj he''
     exact dk.mono (g:=g') ⟨Nat.le_refl _,fun _ _ h=>h,fun _ _ _=>rfl,fun _ _=>rfl,Zbub _⟩ (R i y U)
theorem Zxd {f:FuncId} {xs:List α} {xo:List Operand} {A:List Pd} {ty:Array TypeId} (F:Zi P f) (u:Z7w P f dk e xs A q) (H:q.fp=[]) (y:o.op=.call {callee:=.value (.func f),args:=(x::xo).toArray,argTypes:=ty}) (z:o.dst=some d) (s:Opd uses x (pArr dk e j xs)) (p:OpdL uses xo A):OB P N o uses [(d,q)] [j+1]:=by
 intro a g K Q I l B J
 have L:(execOp a.eval o).run P g.w=.ok (.enter f (a.eval x::xo.map a.eval).toArray) g.w:=by
   simp[execOp,y,resolve,Znl,Deferred.ofValue,invoke,Zgo F]
 unfold Oper.wp
 rw[L]
 show Calls P f _ g.w _
 have M:Z7r dk e xs g (a.eval x) (fun b=>g.own b=j+1):=by
   rcases s a g B with h | ⟨b,cap,cur,O,m⟩
   · exact .inl h
   · exact .inr ⟨b,cap,cur,O,m.own,m.lt,m.heap,by simpa using m.len,m.max,m.sz,fun i x s=>m.known i x (by rw[Zbt1,s];rfl),m.npr⟩
 refine Calls.mono (u g _ _ _ M (p.ok B)) ?_
 rintro en w' ⟨g',v,rfl,rfl,k,C⟩
 let g2:G:=⟨g'.w,g'.pr,fun c=>if c<g.w.heap.size then g.own c else 0,g'.hpr,g'.gl⟩
 have D:g'.le g2:=⟨Nat.le_refl _,fun _ _ h=>h,fun _ _ _=>rfl,fun _ _=>rfl,Zbub _⟩
 have n:∀c,g2.own c=if c<g.w.heap.size then g.own c else 0:=fun _=>rfl
 refine J v g2 ⟨⟨k.le.size,k.le.pr,k.le.cell,k.le.blk,k.le.dr⟩,k.os,k.tape,k.output,fun c r t=>?_,fun c k1 k2=>.inl ?_,fun c r t=>.inr ?_⟩ fun e' E=>?_
 · obtain ⟨k1,k2⟩:=k.same c r (by simpa using t)
   exact⟨k1,k2,by rw[n,if_pos r]⟩
 · rw[n,if_neg (by omega)]
 · rw[n,if_pos r];exact t
 · rw [Zbtu.1 E,z,Zdn _ (by rw [I];exact l d z)]
   exact Pd.le H D rfl rfl rfl C
def Z2e (dk:Kd α) (e:TypeId) (xs:List α) (g0:G) (v:Value) (g1:G):Prop:=Base g0 g1∧Z7r dk e xs g1 v (fun b=>g0.w.heap.size≤b)
theorem Zbf8 {f:FuncId} {fn:Func} {cd:Code} {A:List Pd} {xs:List α} (x:P.funcs[f]? =some fn) (n:fn.body=some cd) (y:fn.ntmps=N) (j:A.length≤N) (z:Free A)
   (h:∀(a:Act) (g:G),(∀b,g.own b=0)→St N (Zip A 0) a g→Base g g→cd.wp P (bodyPost P fn (FinP (Z2e dk e xs g))) a g.w):Z5s P f A dk e xs:=by
 intro g args m
 let g0:G:=⟨g.w,g.pr,fun _=>0,g.hpr,g.gl⟩
 have t:g.le g0:=⟨Nat.le_refl _,fun _ _ h=>h,fun _ _ _=>rfl,fun _ _=>rfl,Zbub _⟩
 have u:St N (Zip A 0) {tmps:=args.toArray++Zbuu (fn.ntmps-args.toArray.size) undef,defers:=[]} g0:=by
   refine⟨?_,rfl,?_⟩
   · have:=m.1
     simp[y];omega
   · intro e c
     obtain⟨i,d,q⟩:=Zpu c
     have r:i<args.length:=by rw[m.1];exact (Zbtw.1 q).1
     have s:Act.at {tmps:=args.toArray++Zbuu (fn.ntmps-args.toArray.size) undef,defers:=[]} e.1=args[i]:=by
       rw[d,Zbuc]
       simp only[Act.at,Zbt9]
       rw[Zbve,if_pos (by simpa using r)]
       simp[r]
     rw[s]
     exact Pd.le (z.at q) t rfl rfl rfl (m.2 i e.2 _ q (Zbtv r))
 have p:Base g0 g0:=⟨.refl _,rfl,rfl,rfl,fun _ _ _=>⟨rfl,rfl,rfl⟩⟩
 refine Calls.mono (calls_of_wp x n (h _ g0 (fun _=>rfl) u p)) ?_
 rintro en w' ⟨g1,v,rfl,rfl,k,s⟩
 exact⟨g1,v,rfl,rfl,⟨⟨k.le.size,k.le.pr,k.le.cell,k.le.blk,k.le.dr⟩,k.os,k.tape,k.output,fun b n _=>⟨(k.same b n rfl).1,(k.same b n rfl).2.1⟩⟩,s⟩
theorem Zbj1 {fn:Func} {r:ResultVar} {v:Value} {xs:List α} {a:Act} {g g0:G} {L:Z8} (q:fn.results=#[r]) (s:∀b,g0.own b=0) (h:St N L a g) (m:Base g0 g) (t:Zfc P a g r v) (u:(pOwn dk e j c (xs.map some)).p g v):bodyPost P fn (FinP (Z2e dk e xs g0)) .ret a g.w:=by
 refine endP q h t ⟨m,?_⟩
 obtain⟨b,cap,cur,e1,k,_⟩:=u
 refine .inr ⟨b,cap,cur,by rw[e1];simp,Nat.le_of_not_lt fun n=>?_,k.lt,k.heap,by simpa using k.len,k.max,k.sz,fun i x y=>k.known i x (by rw[Zbt1,y];rfl),k.npr⟩
 have:=(m.same b n (s b)).2.2
 rw[k.own]at this;omega
theorem Zbcd {fn:Func} {r:ResultVar} {v:Value} {a:Act} {g g0:G} {L:Z8} (k:fn.results=#[r]) (h:St N L a g) (m:Base g0 g) (n:Zfc P a g r v) (p:∃A,v=.slice A 0 0):bodyPost P fn (FinP (Z2e dk e [] g0)) .ret a g.w:=endP k h n ⟨m,.inl ⟨rfl,p⟩⟩
theorem Zbqq {xs:List α} {g g0:G} {b cap:Nat} {cur:Array Value} (n:Base g0 g) (m:OwnAt dk e (j+1) (xs.map some) g b cap cur):∃g',g'.w=g.w∧Base g0 g'∧(dk.sl.pd xs).p g' (.slice (some ⟨b,0,none⟩) xs.length cap):=by
 let g':G:=⟨g.w,fun b' o=>g.pr b' o∨b'=b,g.own,fun b' o h=>h.elim (g.hpr b' o) (fun h=>by rw[h];exact m.lt),g.gl.le (fun _ _ h=>.inl h) (fun _ _ _=>rfl)⟩
 have r:g.le g':=⟨Nat.le_refl _,fun _ _ h=>.inl h,fun _ _ _=>rfl,fun _ _=>rfl,Zbub _⟩
 have s:=m.len
 rw[Zbuv]at s
 have v:=m.max
 refine⟨g',rfl,⟨n.le.trans r,n.os,n.tape,n.output,fun c y z=>?_⟩,Kd.sl_V.2 ⟨_,cap,rfl,s,by simp only[maxLen]at v;omega,.inr ⟨b,0,rfl,fun i x a=>?_⟩⟩⟩
 · obtain ⟨k1,k2,k3⟩:=n.same c y z
   refine⟨k1,?_,k3⟩
   have t:c≠b:=fun h=>by rw[h,m.own]at k3;omega
   funext o
   show (g.pr c o∨c=b)=_
   rw[←k2];simp[t]
 · refine ⟨_,dk.mono r (m.known i x (by rw [Zbt1,a];rfl)),fun k u q=>⟨.inr rfl,?_⟩⟩
   simp only[seg,Zbty,Zbtz]at q
   split at q
   · show g.w.cell? _=_
     simp only[World.cell?,m.heap]
     simpa using q
   · cases q
def Z84 (g0:G) (q:Pd) (v:Value) (g1:G):Prop:=Base g0 g1∧q.p g1 v
theorem Zbbv {f:FuncId} {fn:Func} {cd:Code} {A:List Pd} {xs:List α} (C:P.funcs[f]? =some fn) (z:fn.body=some cd) (E:fn.ntmps=N) (a':A.length+1≤N) (O:Free A)
   (Q:xs=[]→∀(a:Act) (g:G) (A0:Option Addr),St N ((0,pEq (.slice A0 0 0))::Zip A 1) a g→Base g g→cd.wp P (bodyPost P fn (FinP (Z84 g q))) a g.w)
   (h:∀(a:Act) (g:G) (cap:Nat),xs.length≤cap→cap≤maxLen→St N ((0,pOwn dk e 0 (some cap) (xs.map some))::Zip A 1) a g→Base g g→cd.wp P (bodyPost P fn (FinP (Z84 g q))) a g.w):Z7w P f dk e xs A q:=by
 intro g v D args R s
 have l:=s.1
 have d:∀(i:Nat) (u:Value),(v::args)[i]?=some u→Act.at {tmps:=(v::args).toArray++Zbuu (fn.ntmps-(v::args).toArray.size) undef,defers:=[]} i=u:=fun i u j=>by
   have F:=(Zbtw.1 j).1
   simp only[Act.at,Zbt9]
   rw[Zbve,if_pos (by simpa using F)]
   have H:((v::args).toArray)[i]?=some u:=by rw[Zbvd];exact j
   rw[H];rfl
 have t:∀(g0:G),g.le g0→g0.w=g.w→Ze4 (Zip A 1) {tmps:=(v::args).toArray++Zbuu (fn.ntmps-(v::args).toArray.size) undef,defers:=[]} g0:=fun g0 r o e' n=>by
   obtain⟨i,e1,e2⟩:=Zpu n
   have j:i<args.length:=by rw[l];exact (Zbtw.1 e2).1
   rw[d e'.1 args[i] (by rw[e1,Zbxb];exact Zbtv j)]
   exact Pd.le (O.at e2) r (by rw[o]) (by rw[o]) (by rw[o]) (s.2 i e'.2 _ e2 (Zbtv j))
 rcases R with ⟨I,A0,rfl⟩ | ⟨b,cap,cur,rfl,S,T,U,J,K,V,W,X⟩
 · let g0:G:=⟨g.w,g.pr,fun _=>0,g.hpr,g.gl⟩
   have r:g.le g0:=⟨Nat.le_refl _,fun _ _ h=>h,fun _ _ _=>rfl,fun _ _=>rfl,Zbub _⟩
   refine Calls.mono (calls_of_wp C z (Q I _ g0 A0 ⟨by simp[E];omega,rfl,fun e' n=>?_⟩ ⟨.refl _,rfl,rfl,rfl,fun _ _ _=>⟨rfl,rfl,rfl⟩⟩)) ?_
   · rcases Zbt6.1 n with rfl | n
     · exact d 0 _ rfl
     · exact t g0 r rfl e' n
   · rintro en w' ⟨g1,u,rfl,rfl,m,B⟩
     exact⟨g1,u,rfl,rfl,⟨⟨m.le.size,m.le.pr,m.le.cell,m.le.blk,m.le.dr⟩,m.os,m.tape,m.output,fun b z _=>⟨(m.same b z rfl).1,(m.same b z rfl).2.1⟩⟩,B⟩
 · let g0:G:=⟨g.w,g.pr,fun c=>if c=b then 1 else 0,g.hpr,g.gl⟩
   have r:g.le g0:=⟨Nat.le_refl _,fun _ _ h=>h,fun _ _ _=>rfl,fun _ _=>rfl,Zbub _⟩
   refine Calls.mono (calls_of_wp C z (h _ g0 cap J K ⟨by simp[E];omega,rfl,fun e' n=>?_⟩ ⟨.refl _,rfl,rfl,rfl,fun _ _ h=>⟨rfl,rfl,h⟩⟩)) ?_
   · rcases Zbt6.1 n with rfl | n
     · show (pOwn dk e 0 (some cap) (xs.map some)).p g0 _
       rw[d 0 _ rfl]
       refine⟨b,cap,cur,by simp,⟨T,if_pos rfl,fun b' _ Y=>?_,U,by simpa using J,K,V,fun i x L=>?_,X⟩,fun k Z=>Zbt7.inj Z⟩
       · have:(if b'=b then 1 else 0)=1:=Y
         split at this
         · assumption
         · omega
       · rw [Zbt1] at L
         obtain⟨y,hy,he''⟩:=Zbt3.1 L
         obtain rfl:=Zbt7.inj he''
         exact dk.mono r (W i y hy)
     · exact t g0 r rfl e' n
   · rintro en w' ⟨g1,u,rfl,rfl,m,B⟩
     refine⟨g1,u,rfl,rfl,⟨⟨m.le.size,m.le.pr,m.le.cell,m.le.blk,m.le.dr⟩,m.os,m.tape,m.output,fun c hc M=>?_⟩,B⟩
     have:=m.same c hc (by show (if c=b then 1 else 0)=0;rw[if_neg (fun h=>M (by rw[h];exact S))])
     exact⟨this.1,this.2.1⟩
theorem Zwo {fn:Func} {r:ResultVar} {v:Value} {xs:List α} {a:Act} {g g0:G} {L:Z8} (m:fn.results=#[r]) (h:St N L a g) (n:Base g0 g) (q:Zfc P a g r v) (s:(pOwn dk e j c (xs.map some)).p g v):bodyPost P fn (FinP (Z84 g0 (dk.sl.pd xs))) .ret a g.w:=by
 obtain⟨b,cap,cur,e1,t,_⟩:=s
 obtain⟨g',u,x,y⟩:=Zbqq n t
 refine⟨h.df,v,?_,g',v,rfl,u.symm,x,by rw[e1,Zbuv];exact y⟩
 have k:(Zfa a.tmps r).run P g.w=.ok v g.w:=q
 simp[Zfu,m,k]
theorem Zbig {A:Option Addr} (k:TE P t e dk bytes) (m:o.op=.slice t x (some y) none none) (p:Opd uses x (pEq (.slice A 0 0))) (q:Opd uses y (pInt .i64 0)):OB P N o uses [] []:=by
 intro a g K Q hN c n r
 have s:a.eval x=.slice A 0 0:=p a g n
 obtain⟨i,zz,u,hz,d,f,j⟩:=k.info
 have z:∀w cd,(Instr.sliceBound (a.eval y) 0 cd).run P w=.ok 0 w:=fun w cd=>Zmn (Zcy.1 (q a g n)) (Zbub _)
 have h:∃v,(execOp a.eval o).run P g.w=.ok (.value v) g.w:=by
   simp[execOp,m,s,Instr.sliceAt,Instr.slice,Instr.sliceBounds,run_underlying k.und,z,sizeOf,typeInfo,u]
 obtain⟨v,h⟩:=h
 unfold Oper.wp
 rw[h]
 exact r v g (.refl _ _) (fun e b=>by cases b)
theorem Zbos {A:Option Addr} {t:TypeId} (k:P.underlying t=some (.slice e)) (h:o.op=.call {callee:=.builtin .len,args:=#[x],argTypes:=#[t]}) (m:o.dst=some d) (n:Opd uses x (pEq (.slice A 0 0))):OB P N o uses [(d,pInt .i64 0)] [] :=
 Zcl m fun a g hh=>by
   have p:a.eval x=.slice A 0 0:=n a g hh
   exact⟨.int .i64 0,by simp[execOp,h,resolve,invoke,builtin,p,Builtin.len_,run_underlying k,goInt],Zhh _ _ g⟩
theorem Zbe7 {A:Option Addr} {vs:List α} (r:TE P t e dk bytes) (c:o.op=.call {callee:=.builtin .append,args:=#[x,y],argTypes:=#[t,t]}) (O:o.dst=some d) (Q:Opd uses x (pEq (.slice A 0 0))) (R:Opd uses y (dk.sl.pd vs)) (m:0<vs.length) (f:vs.length*bytes≤140737488355328) :
   OB P N o uses [(d,pOwn dk e j none (vs.map some))] [j+1] :=
 Zjr O fun a g hh=>by
   have S:a.eval x=.slice A 0 0:=Q a g hh
   obtain⟨A2,c2,l,W,X,B⟩:=Zsf (R a g hh)
   obtain⟨i,zz,C,D,E,v,F⟩:=r.info
   have T:vs.length≤140737488355328:=Zbuy (Zbul _ r.by0) f
   obtain⟨b2,o2,news,rfl,p,G,H⟩:=B.resolve_left (fun h=>by rw[h]at m;simp at m)
   have q:news.length=vs.length*i.size:=by rw[E];exact p
   have n:∀k u,news[k]?=some u→g.w.cell? ((⟨b2,o2,none⟩:Addr).add k)=some u:=fun k u b=>by rw[Zdy];exact (G k u b).2
   have I:=grownCap_ge g.w vs.length 0 e
   have J:=grownCap_le_maxLen g.w vs.length 0 e (by simp only[maxLen];omega)
   have U:(Builtin.append_ #[t,t] o.type #[.slice A 0 0,.slice (some ⟨b2,o2,none⟩) vs.length c2]).run P g.w=.ok (.slice (some ⟨g.w.heap.size,0,none⟩) vs.length (grownCap g.w vs.length 0 e)) (g.w.drew.alloc (.cells (news.toArray++Builtin.zeroCells zz.cells (grownCap g.w vs.length 0 e-vs.length)) e)):=by
     cases A with
     | none=>exact run_append_nil (P:=P) g.w t o.type e i zz r.und C D ⟨b2,o2,none⟩ vs.length c2 news q n m (by omega) (by rw[v];omega)
     | some A =>
       have:=run_append_grow (P:=P) g.w t o.type e i zz r.und C D A 0 0 [] (by simp) (fun j u b=>by simp at b) ⟨b2,o2,none⟩ vs.length c2 news q n (by omega) (by omega) (growslice_fits (by omega) (by rw[v,Zbuc];exact f))
       simpa using this
   obtain⟨g',V,K,L⟩:=Z15 (dk:=dk) (e:=e) (g:=g) (j:=j+1) (cur:=news.toArray++Builtin.zeroCells zz.cells (grownCap g.w vs.length 0 e-vs.length)) (cap:=grownCap g.w vs.length 0 e) (fs:=vs.map some) (by omega) (by simpa using I) J (by
       simp only[Zbvj,Zbup,Zp7,F,p,←Zbt0]
       congr 1;omega) (fun k u s=>by
       rw[Zbt1]at s
       obtain⟨u',z,M⟩:=Zbt3.1 s
       obtain rfl:=Zbt7.inj M
       simp only[Zbvu]
       rw[Zhf (by rw[p];exact Zlr (Zbtw.1 z).1)]
       exact H _ _ z)
   refine⟨_,g',?_,K,_,_,_,rfl,L,fun k s=>by cases s⟩
   rw[Zbuv]
   simp[execOp,c,resolve,invoke,builtin,S,l,U,V]
theorem Zbea (xs vs:List α) (k i:Nat) (hk:k≤xs.length):((xs.take k++vs++xs.drop k).map some)[i]?=if i<k then (xs[i]?).map some else if i<k+vs.length then (vs[i-k]?).map some else (xs[i-vs.length]?).map some:=by
 have h:(xs.take k).length=k:=by simp;omega
 rw[Zbt1,Zbug,Zbt4,h]
 by_cases a:i<k
 · rw[if_pos a,if_pos a,Zbty,if_pos a]
 · rw [if_neg a,if_neg a,Zbt4]
   by_cases b:i<k+vs.length
   · rw[if_pos b,if_pos (by omega)]
   · rw [if_neg b,if_neg (by omega),Zbtz]
     congr 2;omega
theorem ins1 {xs vs:List α} {k:Nat} (n:k≤xs.length):over (over ((xs.take k).map some++Zbun (xs.length+vs.length-k) none) k vs) (k+vs.length) (xs.drop k)=(xs.take k++vs++xs.drop k).map some:=by
 have h:((xs.take k).map some++Zbun (xs.length+vs.length-k) (none:Option α)).length=xs.length+vs.length:=by simp;omega
 apply Zbuo
 intro i
 rw[Zpo (by rw[Zq6 (by rw[h];omega),h];simp;omega),Zpo (by rw[h];omega),Zbea xs vs k i n]
 have m:(xs.drop k).length=xs.length-k:=by simp
 by_cases a:i<k
 · rw[if_pos (by omega),if_pos a,if_pos a,Zbus (by simp;omega),Zbt1,Zbty,if_pos a]
 · by_cases b:i < k + vs.length
   · rw[if_pos b,if_neg a,if_pos b,if_neg a,if_pos b]
   · rw [if_neg b,if_neg a,if_neg b]
     by_cases c:i<xs.length+vs.length
     · rw [if_pos (by rw [m];omega),Zbtz]
       rw[show k+(i-(k+vs.length))=i-vs.length by omega,if_neg a,if_neg b]
     · rw[if_neg (by rw[m];omega),if_neg a,if_neg b,Zbuf (by rw[h];omega),Zbuf (by omega)];rfl
theorem ins2 {xs vs:List α} {k:Nat} (n:k≤xs.length):over (over (xs.map some++Zbun (xs.length+vs.length-(xs.map some).length) none) (k+vs.length) (xs.drop k)) k vs=(xs.take k++vs++xs.drop k).map some:=by
 have h:(xs.map some++Zbun (xs.length+vs.length-(xs.map some).length) (none:Option α)).length=xs.length+vs.length:=by simp
 have m:(xs.drop k).length=xs.length-k:=by simp
 apply Zbuo
 intro i
 rw[Zpo (by rw[Zq6 (by rw[h,m];omega),h];omega),Zpo (by rw[h,m];omega),Zbea xs vs k i n]
 by_cases a:i<k
 · rw[if_pos a,if_pos (by omega),if_pos a,Zbus (by simp;omega),Zbt1]
 · by_cases b:i < k + vs.length
   · rw[if_neg a,if_pos b,if_neg a,if_pos b]
   · rw [if_neg a,if_neg b,if_neg b,if_neg a,if_neg b]
     by_cases c:i<xs.length+vs.length
     · rw [if_pos (by rw [m];omega),Zbtz]
       rw[show k+(i-(k+vs.length))=i-vs.length by omega]
     · rw[if_neg (by rw[m];omega),Zbuf (by rw[h];omega),Zbuf (by omega)];rfl
theorem Zz9 {a b:Nat} (h:a+b≤9223372036854775807):Zbwc.wrap ((a:Int)+(b:Int))=((a+b:Nat):Int):=by rw[Zbd3 (by omega) (by omega)];omega
theorem Zbo4 {x:Nat} {n k:Nat} (hx:x=n) (h:k≤n) (hn:n≤9223372036854775807):Zbwc.wrap ((x:Int)-(k:Int))=((n-k:Nat):Int):=by rw[Zbd3 (by omega) (by omega)];omega
theorem Z3h (xs:List α) (k:Nat):∀(i:Nat) (x:α),(xs.take k)[i]?=some x→(xs.map some)[i]?=some (some x):=fun i x h=>by
 rw[Zbty]at h
 split at h
 · rw[Zbt1,h];rfl
 · cases h
theorem Zbf0 (xs:List α) (k:Nat):∀(i:Nat) (x:α),(xs.drop k)[i]?=some x→(xs.map some)[k+i]?=some (some x):=fun i x h=>by
 rw[Zbtz]at h
 rw[Zbt1,h];rfl
theorem Zrg {f:FuncId} {Ps:List Par} {xs:List Operand} {hs:List Home} {ty:Array TypeId} {outs:Z8} {S:List Nat} (p:Zi P f) (k:FnB P f Ps q) (m:o.op=.call {callee:=.value (.func f),args:=xs.toArray,argTypes:=ty}) (r:o.dst=some d) (s:q.fp=[]) (t:OpB uses Ps xs hs) (n:(hs.all fun h=>h.1 !=d)=true)
   (u:outs=(d,q)::Zmf Ps hs) (v:S=SB hs):OB P N o uses outs S:=by subst u;subst v;exact Zbk8 p k m r s n t
theorem Zrq {f:FuncId} {C:List Pd} {Ps Qs:List Par} {xs:List Operand} {hs ks:List Home} {ty:Array TypeId} {outs:Z8} {S:List Nat} (r:Zi P f) (m:FnB P f (Ps++Qs) q) (n:o.op=.call {callee:=.value x,args:=xs.toArray,argTypes:=ty}) (s:o.dst=some d) (t:q.fp=[]) (u:Opd uses x (Z72 f C)) (v:OpB uses Ps xs hs) (w:CapB uses C Qs ks)
   (p:((hs++ks).all fun h=>h.1 !=d)=true) (y:(hs.all fun h=>ks.all fun k=>k.2.2 !=h.2.2)=true) (z:outs=(d,q)::Zmf (Ps++Qs) (hs++ks)) (a:S=SB (hs++ks)):OB P N o uses outs S:=by
 subst z;subst a;exact Zbhq r m n s t p y u v w
def pFun (P:Program) (Φ:FuncId→List Pd→Prop):Pd:=⟨fun g v=>∃(f:FuncId) (C:List Pd) (caps:List Value),v=.func (.func f) #[] caps.toArray∧Zi P f∧Free C∧Φ f C∧ArgsOk C g caps∧(∀q∈C,∀(g g':G) (u:Value),g.le g'→q.p g u→q.p g' u),[],fun s _ ⟨f,C,caps,n,r,h,t,k,w⟩=>⟨f,C,caps,n,r,h,t,⟨k.1,fun i qi u m x=>qi.st s (by rw[h.at m];intro j y;cases y) (k.2 i qi u m x)⟩,w⟩⟩
theorem Zbfk {Φ:FuncId→List Pd→Prop} {Ps:List Par} {xs:List Operand} {hs:List Home} {ty:Array TypeId} {outs:Z8} {S:List Nat} (hΦ:∀f C,Φ f C→FnB P f (Ps++C.map .val) q) (m:o.op=.call {callee:=.value x,args:=xs.toArray,argTypes:=ty}) (r:o.dst=some d) (s:q.fp=[]) (t:Opd uses x (pFun P Φ)) (u:OpB uses Ps xs hs) (n:(hs.all fun h=>h.1 !=d)=true)
   (v:outs=(d,q)::Zmf Ps hs) (w:S=SB hs):OB P N o uses outs S:=by
 subst v;subst w
 refine Z1f s r (fun h hh=>by simpa using Zbt2.1 n h hh) fun a g p=>?_
 obtain⟨f,C,caps,y,z,h3,b,c,_⟩:=t a g p
 refine⟨f,Ps++C.map .val,xs.map a.eval++caps,hΦ f C b,Zvd.symm,?_,?_⟩
 · simp[execOp,m,resolve,y,Deferred.ofValue,invoke,Zgo z]
 · have:=Zxh (u.ok p) (Z59 (a:=a) c) (fun h _ k e=>by cases e)
   rwa [Zbur]at this
def pTab (P:Program) (n:Nat) (Φ:Nat→Option (FuncId→List Pd→Prop)):Pd:=⟨fun g v=>∃cs:List Value,v=.agg cs.toArray∧cs.length=n∧∀(k:Nat) (F:FuncId→List Pd→Prop) (u:Value),Φ k=some F→cs[k]?=some u→(pFun P F).p g u,[],fun s hd ⟨cs,h,m,q⟩=>⟨cs,h,m,fun k F u r t=>(pFun P F).st s (fun j w=>by cases w) (q k F u r t)⟩⟩
theorem Zbb7 {t e:TypeId} {n:Nat} {i:Int} {Φ:Nat→Option (FuncId→List Pd→Prop)} {F:FuncId→List Pd→Prop} (s:P.underlying t=some (.array n e)) (hs:(P.info? e).map (·.size)=some 1) (v:∃u,P.underlying e=some u∧(match u with | .struct _ | .array _ _=>true | _=>false)=false) (z:0≤i) (b:Φ i.toNat=some F) (hn:i.toNat<n)
   (k:o.op=.index t x y) (c:o.dst=some d) (f:Opd uses x (pTab P n Φ)) (j:Opd uses y (pInt .i64 i)):OB P N o uses [(d,pFun P F)] [] :=
 Zcl c fun a g hh=>by
   obtain⟨cs,l,hl,A⟩:=f a g hh
   have m:=Zcy.1 (j a g hh)
   have h:i.toNat<cs.length:=by omega
   obtain⟨u,p,q⟩:=v
   have r:(isAgg e).run P g.w=.ok false g.w:=by
     unfold isAgg
     simp only[Sem.run_bind,run_underlying p,Result.andThen_ok]
     cases u <;> first | rfl | simp at q
   refine⟨cs[i.toNat],?_,A i.toNat F _ b (Zbtv h)⟩
   have B:i<(n:Int):=by omega
   simp[execOp,k,l,m,Instr.index,asIntOf,run_underlying s,z,B,Zi4 hs,part,r,h]
def Kd.fnc:Kd Nat:=Kd.scalar (fun f=>.func (.func f) #[] #[]) fun _=>rfl
theorem Opd.fncv {f:Nat}:Opd uses (.func f) (Kd.fnc.pd f):=fun _ _ _=>Kd.scalar_V.2 rfl
theorem Zbnp {f:Nat} {g:G} {v:Value} (h:(Kd.fnc.pd f).p g v):(pClo f [] rfl).p g v:=by
 obtain⟨cs,rfl,rfl⟩:=h
 exact⟨[],rfl,Zf9⟩
theorem Zpz {f:Nat}:∀q∈[Kd.fnc.ptr f],∀(g g':G) (u:Value),g.le g'→q.p g u→q.p g' u:=fun q m g g' u k h=>by
 rw[Zbtu.1 m]at h⊢
 obtain⟨b,o,cs,e,n,r⟩:=h
 exact⟨b,o,cs,e,Kd.fnc.mono k n,r.mono k⟩
theorem Zbn8 {Φ:FuncId→List Pd→Prop} {g g':G} {v:Value} (h:g.le g') (q:(pFun P Φ).p g v):(pFun P Φ).p g' v:=by
 obtain⟨f,C,caps,r,s,t,w,k,m⟩:=q
 exact⟨f,C,caps,r,s,t,w,⟨k.1,fun i qi u n x=>m qi (Zbuh n) _ _ _ h (k.2 i qi u n x)⟩,m⟩
abbrev TabT:=Nat→Option (FuncId→List Pd→Prop)
def Kd.tab (P:Program) (n:Nat) (hn:n≠1):Kd TabT where
 sz:=n
 ag:=true
 K:=fun g Φ cs=>cs.length=n∧(∀u∈cs,u.oneCell'=true)∧∀(k:Nat) (F:FuncId→List Pd→Prop) (u:Value),Φ k=some F→cs[k]?=some u→(pFun P F).p g u
 len:=fun h=>h.1
 one:=fun h=>h.2.1
 mono:=fun m h=>⟨h.1,h.2.1,fun k F u q r=>Zbn8 m (h.2.2 k F u q r)⟩
 nag:=fun h=>by cases h
theorem Zbk9 {n:Nat} {k:n≠1} {Φ:TabT} {g:G} {v:Value} (h:((Kd.tab P n k).pd Φ).p g v):(pTab P n Φ).p g v:=by
 obtain⟨cs,⟨m,h2,q⟩,rfl⟩:=h
 exact⟨cs,rfl,m,q⟩
theorem Zyn {t e:TypeId} {n:Nat} {zero:Value} (m:P.underlying t=some (.array n e)) (h:(P.info? t).bind (·.zero)=some zero) (hs:(P.info? e).map (·.size)=some 1) {parts:Array (Nat×Value)} {cells:Array Value}
   (p:Instr.fill (fun i=>some (i*1,1)) zero.cells parts.toList=some cells) (w:World):(Instr.build t parts).run P w=.ok (.agg cells) w:=by
 obtain⟨i,q,h⟩:=Zbuk.1 h
 have k:Instr.fill (fun i=>some (i,1)) zero.cells parts.toList=some cells:=by simpa using p
 simp[Instr.build,zeroValue,typeInfo,q,h,run_underlying m,Zi4 hs,k]
end
section
variable {P:Program} {N:Nat} {o:Oper} {uses:Z8} {d:Nat} {q:Pd} {x y z:Operand} {α β γ:Type} {dk:Kd α} {di:Kd β} {dj:Kd γ} {t e:TypeId} {bytes j:Nat}
theorem Z9t {cs:List Value} {a n b m:Nat} (h:b+m≤n):seg (seg cs a n) b m=seg cs (a+b) m:=by
 simp only[seg,Zbu5,Zbvx,Zbu6]
 congr 1
 omega
theorem Zbix {cs ys:List Value} {a n b:Nat} (h:b+ys.length≤n) (hn:a+n≤cs.length):Zr cs a (Zr (seg cs a n) b ys)=Zr cs (a+b) ys:=by
 have k:(seg cs a n).length=n:=by simp[seg];omega
 have hs:(Zr (seg cs a n) b ys).length=n:=by simp[Zr,k];omega
 apply Zbuo
 intro i
 simp only[Zr,seg,Zbug,Zbt4,Zbut,Zbvm,Zbux,Zbty,Zbtz]
 repeat' split
 all_goals (try omega)
 all_goals (first | rfl | (congr 1;omega))
def pEl (dk:Kd α) (e:TypeId) (j:Nat) (xs:List α) (i off:Nat) (di:Kd β) (u:β):Pd:=⟨fun g v=>∃b cap cur,v=.pointer (some ⟨b,i*dk.sz+off,none⟩)∧OwnAt dk e (j+1) (xs.map some) g b cap cur∧i<xs.length∧off+di.sz≤dk.sz∧di.K g u (seg cur.toList (i*dk.sz+off) di.sz),[j+1],
 fun s k ⟨b,cap,cur,e,h,m,n,p⟩=>⟨b,cap,cur,e,h.st s (k _ (by simp)) (by omega),m,n,di.mono s.le p⟩⟩
instance {xs:List α} {i off:Nat} {u:β}:NZ (pEl dk e j xs i off di u):=⟨fun _ _ ⟨_,_,_,e,_⟩=>⟨_,e⟩⟩
theorem Zzx {k:IntKind} {xs:List α} {n:Int} {u:α} {ix:Operand} (r:P.underlying t=some (.slice e)) (hs:(P.info? e).map (·.size)=some dk.sz) (m:o.op=.indexAddr t x ix) (s:o.dst=some d) (v:Opd uses x (pArr dk e j xs)) (w:Opd uses ix (pInt k n)) (h:idx xs n=some u):OB P N o uses [(d,pEl dk e j xs n.toNat 0 dk u)] [] :=
 Zcl s fun a g hh=>by
   have y:=Zcy.1 (w a g hh)
   unfold idx at h
   split at h
   · rename_i z
     have p:=(Zbtw.1 h).1
     rcases v a g hh with ⟨rfl,_⟩ | ⟨b,cap,cur,c,q⟩
     · simp at h
     · have f:0 ≤ n ∧ n < (xs.length:Int):=⟨z,by omega⟩
       refine⟨.pointer (some ⟨b,n.toNat*dk.sz,none⟩),by simp[execOp,m,c,y,Instr.indexAt,asIntOf,run_underlying r,f,Zi4 hs,Zdy],b,cap,cur,rfl,q,p,by omega,q.known _ _ (by simp[h])⟩
   · cases h
theorem Zbjh {fs:List (Option α)} {g:G} {b cap:Nat} {cur:Array Value} (h:OwnAt dk e j fs g b cap cur) (i:Nat) (u:Value) (k:cur.toList[i]?=some u):g.w.cell? ⟨b,i,none⟩=some u:=by
 simp only[World.cell?,h.heap]
 simpa using k
theorem Zbiw {i off:Nat} {xs:List α} {u:β} (p:Ty P t di) (m:o.op=.load t x) (q:o.dst=some d) (r:Opd uses x (pEl dk e j xs i off di u)):OB P N o uses [(d,di.pd u)] [] :=
 Zcl q fun a g hh=>by
   obtain⟨b,cap,cur,s,v,h1,h2,n⟩:=r a g hh
   refine⟨mkV di.ag (seg cur.toList (i*dk.sz+off) di.sz),?_,_,n,rfl⟩
   have:=Zj6 (b:=b) (of:=i*dk.sz+off) p n (fun k u h=>by
     refine Zbjh v (i*dk.sz+off+k) u ?_
     simp only[seg,Zbty,Zbtz]at h
     split at h
     · exact h
     · cases h)
   simp[execOp,m,s,Instr.loadAt,Instr.sureAddr,this]
theorem Zbeh {g:G} {b cap i off:Nat} {xs:List α} {cur:Array Value} {u u':α} {ys:List Value} (m:OwnAt dk e (j+1) (xs.map some) g b cap cur) (v:xs[i]? =some u) (n:off+ys.length≤dk.sz) (p:dk.K g u' (Zr (seg cur.toList (i*dk.sz) dk.sz) off ys)) :
   ∃g':G,g'.w=g.w.setRow b (Zr cur.toList (i*dk.sz+off) ys).toArray∧Step [j+1] g g'∧OwnAt dk e (j+1) ((xs.set i u').map some) g' b cap (Zr cur.toList (i*dk.sz+off) ys).toArray:=by
 have q:=(Zbtw.1 v).1
 have z:cur.toList.length=cap*dk.sz:=by simpa using m.sz
 have y:xs.length≤cap:=by simpa using m.len
 have a:i*dk.sz+dk.sz≤cap*dk.sz:=Zlr (by omega)
 have r:=dk.len p
 obtain⟨g',e1,e2,e3⟩:=Zzq (ws:=[u']) (off:=i) (news:=Zr (seg cur.toList (i*dk.sz) dk.sz) off ys) m (by rw[r];simp) (by simp;omega) (fun k x h=>by
   cases k with
   | zero =>
     simp at h;subst h
     rw[Zbvb]
     have:seg (Zr (seg cur.toList (i*dk.sz) dk.sz) off ys) 0 dk.sz=Zr (seg cur.toList (i*dk.sz) dk.sz) off ys:=by
       simp only[seg,Zbvw]
       rw[Zbwd]
       simp only[seg]at r
       omega
     rw[this];exact p
   | succ k=>simp at h)
 rw[Zbix n (by omega)]at e1 e3
 refine⟨g',e1,e2,⟨e3.lt,e3.own,e3.uniq,e3.heap,by simpa using m.len,e3.max,e3.sz,fun k x h=>e3.known k x ?_,e3.npr⟩⟩
 rw[Zpo (by simp;omega)]
 simp only[Zbt1,Zbwr,List.length_singleton]at h⊢
 by_cases s:k<i
 · rw [if_pos s]
   rw[if_neg (by omega)]at h
   exact h
 · rw [if_neg s]
   by_cases t:k<i+1
   · have:k=i:=by omega
     subst this
     rw[if_pos t]
     simp only[if_pos q,if_true]at h
     simpa using h
   · rw [if_neg t]
     rw[if_neg (by omega)]at h
     exact h
theorem Zbce {i off:Nat} {xs:List α} {u:α} {v1 v2:β} {u':α} {g:G} {pv w:Value} (r:Ty P t di) (s:(pEl dk e j xs i off di v1).p g pv) (v:(di.pd v2).p g w) (n:xs[i]? =some u) (x:∀g cs ys,dk.K g u cs→di.K g v2 ys→off+ys.length≤cs.length→dk.K g u' (Zr cs off ys)) :
   ∃(b cap:Nat) (cur cur':Array Value) (g':G),pv=.pointer (some ⟨b,i*dk.sz+off,none⟩)∧OwnAt dk e (j+1) (xs.map some) g b cap cur∧(storeVar t ⟨b,i*dk.sz+off,none⟩ w).run P g.w=.ok () g'.w∧Step [j+1] g g'∧OwnAt dk e (j+1) ((xs.set i u').map some) g' b cap cur':=by
 obtain⟨b,cap,cur,rfl,h,h1,h2,h3⟩:=s
 obtain⟨ys,m,rfl⟩:=v
 have z:=di.len m
 have a:cur.toList.length=cap*dk.sz:=by simpa using h.sz
 have y:xs.length≤cap:=by simpa using h.len
 have c:i*dk.sz+dk.sz≤cap*dk.sz:=Zlr (by omega)
 have k:=h.known i u (by simp[n])
 obtain⟨g',e1,e2,e3⟩:=Zbeh (u':=u') (ys:=ys) (off:=off) h n (by omega) (x g _ _ k m (by rw[dk.len k];omega))
 have q:=Zf6 (off:=i*dk.sz+off) r h.heap m (by rw[h.sz];omega)
 exact⟨b,cap,cur,_,g',rfl,h,by rw[e1];simpa[Zr]using q,e2,e3⟩
end
section
variable {P:Program} {N:Nat} {o:Oper} {uses outs:Z8} {S:List Nat} {d:Nat} {q:Pd} {x y z:Operand}
theorem OB.at (h:∀(a:Act) g,Ze4 uses a g→∃uses':Z8,Ze4 uses' a g∧OB P N o uses' outs S):OB P N o uses outs S :=
 fun a g K Q m k n p=>let ⟨_,q,r⟩:=h a g n;r a g K Q m k q p
theorem OB.frame {n:Nat} (h:OB P N o uses outs S) (s:∀j∈q.fp,j∉S) (t:o.dst≠some n):OB P N o ((n,q)::uses) ((n,q)::outs) S:=by
 intro a g K Q u m r w
 refine h a g K Q u m (fun e k=>r e (Zbuz _ k)) fun v g' hs x=>w v g' hs fun e k=>?_
 rcases Zbt6.1 k with rfl | k
 · have:=r (n,q) (List.mem_cons_self ..)
   have y:=q.st hs s this
   show q.p g' (Act.at (a.put o.dst v) n)
   rw[Zlf v t];exact y
 · exact x e k
def pAt (v:Value) (q:Pd):Pd:=⟨fun g _=>q.p g v,q.fp,fun s k h=>q.st s k h⟩
abbrev SlV:=Option Addr×Nat×Nat
def slv (s:SlV):Value:=.slice s.1 s.2.1 s.2.2
def Kd.raw:Kd SlV:=Kd.scalar slv fun _=>rfl
theorem Z87 {s:SlV} {g:G} {v:Value}:(Kd.raw.pd s).p g v↔v=slv s:=Kd.scalar_V
variable {α β γ δ ε:Type} {kV:Kd γ} {raw:α→SlV→γ} {lst:α→List β} {dk:Kd β} {di:Kd δ} {dj:Kd ε} {t e j jl:Nat} {xv:α}
def pPX (kV:Kd γ) (j off:Nat) (di:Kd δ) (u:δ):Pd:=⟨fun g v=>∃w,(Zfj kV j w off di u).p g v,[j+1],fun st k ⟨w,h⟩=>⟨w,(Zfj kV j w off di u).st st k h⟩⟩
theorem Zxb {off pt:Nat} {u:δ} (k:Ty P t di) (h:o.op=.load t (.tmp pt)) (m:o.dst=some d) (n:Opd uses (.tmp pt) (pPX kV j off di u)):OB P N o uses [(d,di.pd u)] [] :=
 OB.at fun a g hh=>by
   obtain⟨w,p⟩:=n a g hh
   exact⟨[(pt,Zfj kV j w off di u)],fun en q=>by rw[Zbtu.1 q];exact p,Zjn k h m .t0⟩
end
section
variable {P:Program} {N:Nat} {o:Oper} {uses outs:Z8} {S:List Nat} {d:Nat} {q:Pd} {x y z:Operand}
variable {α β γ δ ε:Type} {kV:Kd γ} {raw:α→SlV→γ} {lst:α→List β} {dk:Kd β} {di:Kd δ} {t e j jl:Nat} {xv:α}
theorem Zbd7 {xs:List β} (m:P.underlying t=some (.slice e)) (h:o.op=.call {callee:=.builtin .len,args:=#[x],argTypes:=#[t]}) (n:o.dst=some d) (p:Opd uses x (pArr dk e jl xs)):OB P N o uses [(d,pInt .i64 (xs.length:Int))] [] :=
 Zcl n fun a g hh=>by
   rcases p a g hh with ⟨rfl,A,k⟩ | ⟨b,cap,cur,k,_⟩
   · exact⟨.int .i64 0,by simp[execOp,h,resolve,invoke,builtin,k,Builtin.len_,run_underlying m,goInt],Zhh _ _ g⟩
   · exact⟨.int .i64 xs.length,by simp[execOp,h,resolve,invoke,builtin,k,Builtin.len_,run_underlying m,goInt],Zhh _ _ g⟩
theorem Zbd6 {xs:List β} {n:Int} {u:β} (h:idx xs n=some u):xs[n.toNat]?=some u:=by
 unfold idx at h
 split at h
 · exact h
 · cases h
end
end Go.CL
namespace Go.CL
open Go
def INF:Nat:=9218868437227405312
def TOP:Nat:=9223372036854775808
def BIN:Nat:=4503599627370496
def rg (b:Nat):Nat:=b % TOP
def isn (b:Nat):Prop:=INF<rg b
instance (b:Nat):Decidable (isn b):=inferInstanceAs (Decidable (INF<rg b))
def sg (b:Nat):Int:=if TOP≤b then -((b-TOP:Nat):Int)else (b:Int)
def ngb (b:Nat):Bool:=b/TOP % 2 == 1
def Zpe:Int:=Ieee.double.leastPlace
theorem Z5k (b:Nat):Ieee.double.read b=if rg b<BIN then .number (ngb b) (rg b) Zpe else if rg b<INF then .number (ngb b) (BIN+rg b % BIN) (Zpe+(rg b/BIN-1:Nat))else if rg b=INF then .infinity (ngb b)else .nan (ngb b) (rg b-INF):=rfl
def mg (r:Nat):Nat:=if r<BIN then r else (BIN+r % BIN)*2^(r/BIN-1)
theorem Z76 {r s:Nat} (h:r<s):mg r<mg s:=by
 unfold mg
 have n:0<BIN:=by decide
 by_cases m:r<BIN
 ·rw[if_pos m]
  by_cases hs:s<BIN
  ·rw[if_pos hs];exact h
  ·rw[if_neg hs]
   have:1≤2^(s/BIN-1):=Nat.one_le_two_pow
   calc r<BIN:=m
    _≤BIN+s % BIN:=Zbw0 _ _
    _≤(BIN+s % BIN)*2^(s/BIN-1):=Zbul _ this
 ·have hs:¬s<BIN:=by omega
  rw[if_neg m,if_neg hs]
  have h1:1≤r/BIN:=(Nat.le_div_iff_mul_le n).2 (by omega)
  have p:r/BIN≤s/BIN:=Nat.div_le_div_right (Nat.le_of_lt h)
  have er:=Zbvq r BIN
  have es:=Zbvq s BIN
  have hm:r % BIN<BIN:=Zbv2 _ n
  rcases Nat.lt_or_eq_of_le p with u | k
  ·have q:2^(r/BIN-1)*2≤2^(s/BIN-1):=by
    rw[←Nat.pow_succ]
    exact Nat.pow_le_pow_right (by decide) (by omega)
   have t:0<2^(r/BIN-1):=Zbwa _
   calc (BIN+r % BIN)*2^(r/BIN-1)<(BIN+BIN)*2^(r/BIN-1):=Zbvz (by omega) t
    _=BIN*(2^(r/BIN-1)*2):=by rw[←Nat.two_mul,Zbvc (2^(r/BIN-1)) 2,←Zbwk,Zbvc BIN 2]
    _≤BIN*2^(s/BIN-1):=Nat.mul_le_mul_left _ q
    _≤(BIN+s % BIN)*2^(s/BIN-1):=Zbtx _ (Zbw0 _ _)
  ·rw[k]
   rw[k]at er
   exact Zbvz (by omega) (Zbwa _)
theorem Zbin {r s:Nat}:mg r=mg s↔r=s:=by
 constructor
 ·intro h
  rcases Zbws r s with k | m | n
  ·have:=Z76 k;omega
  ·exact m
  ·have:=Z76 n;omega
 ·intro h;rw[h]
theorem Z6g {r s:Nat}:mg r<mg s↔r<s:=by
 constructor
 ·intro h
  rcases Zbws r s with k | m | n
  ·exact k
  ·rw[m]at h;omega
  ·have:=Z76 n;omega
 ·exact Z76
def sgn (s:Bool) (n:Nat):Int:=if s then -(n:Int)else n
theorem Zbpb {s t:Bool} {m n r q:Nat} (h:m<n↔r<q) (h':n<m↔q<r) (h0:m=0↔r=0) (k:n=0↔q=0):sgn s m<sgn t n↔sgn s r<sgn t q:=by
 cases s <;> cases t <;> simp[sgn] <;> omega
theorem Zboy {s t:Bool} {m n r q:Nat} (h:m<n↔r<q) (h':n<m↔q<r) (h0:m=0↔r=0) (k:n=0↔q=0):sgn s m=sgn t n↔sgn s r=sgn t q:=by
 cases s <;> cases t <;> simp[sgn] <;> omega
theorem Zbo1 (a b:Int):compare a b=.lt↔a<b:=by
 simp only[compare,compareOfLessAndEq]
 split
 ·simp[*]
 ·split <;> simp[*]
theorem Zbou (a b:Int):compare a b=.eq↔a=b:=by
 simp only[compare,compareOfLessAndEq]
 split
 ·rename_i h;simp;omega
 ·split <;> simp[*]
theorem Zbmr {b:Nat} (h:b<18446744073709551616):sg b=sgn (ngb b) (rg b):=by
 unfold sg sgn ngb rg TOP
 split
 ·rename_i h1
  have e1:b/9223372036854775808=1:=by omega
  have e2:b % 9223372036854775808=b-9223372036854775808:=by omega
  simp[e1,e2]
 ·have e1:b/9223372036854775808=0:=by omega
  have e2:b % 9223372036854775808=b:=by omega
  simp[e1,e2]
def nm (r:Nat):Nat:=if r<BIN then r else BIN+r % BIN
def np (r:Nat):Nat:=if r<BIN then 0 else r/BIN-1
theorem Zblk (r:Nat):mg r=nm r*2^np r:=by
 unfold mg nm np
 split <;> simp
theorem Zw4 {b:Nat} (h:rg b<INF):Ieee.double.read b=.number (ngb b) (nm (rg b)) (Zpe+(np (rg b):Nat)):=by
 rw[Z5k]
 unfold nm np
 split
 ·simp
 ·simp[h]
theorem Zbgk (s t:Bool) (r q:Nat):∃o,Ieee.Datum.order (.number s (nm r) (Zpe+(np r:Nat))) (.number t (nm q) (Zpe+(np q:Nat)))=some o∧(o=.lt↔sgn s r<sgn t q)∧(o=.eq↔sgn s r=sgn t q):=by
 refine⟨_,rfl,?_⟩
 have k:min (Zpe+(np r:Nat)) (Zpe+(np q:Nat))=Zpe+(min (np r) (np q):Nat):=by omega
 have e1:(Zpe+(np r:Nat)-min (Zpe+(np r:Nat)) (Zpe+(np q:Nat))).toNat=np r-min (np r) (np q):=by rw[k];omega
 have e2:(Zpe+(np q:Nat)-min (Zpe+(np r:Nat)) (Zpe+(np q:Nat))).toNat=np q-min (np r) (np q):=by rw[k];omega
 have hs:∀(s:Bool) (m u:Nat),Ieee.signed s m u=sgn s (m*2^u):=by
  intro s m u
  simp[Ieee.signed,sgn,Nat.shiftLeft_eq]
 rw[e1,e2,hs,hs,Zbo1,Zbou]
 have p:0<2^min (np r) (np q):=Zbwa _
 have m1:nm r*2^(np r-min (np r) (np q))*2^min (np r) (np q)=mg r:=by
  rw[Zbwk,←Nat.pow_add,Zbwp (Zbw3 _ _),Zblk]
 have m2:nm q*2^(np q-min (np r) (np q))*2^min (np r) (np q)=mg q:=by
  rw[Zbwk,←Nat.pow_add,Zbwp (Zbv7 _ _),Zblk]
 have k1:nm r*2^(np r-min (np r) (np q))<nm q*2^(np q-min (np r) (np q))↔r<q:=by
  rw[←Z6g (r:=r) (s:=q),←m1,←m2]
  exact (Zbwi p).symm
 have k2:nm q*2^(np q-min (np r) (np q))<nm r*2^(np r-min (np r) (np q))↔q<r:=by
  rw[←Z6g (r:=q) (s:=r),←m1,←m2]
  exact (Zbwi p).symm
 have z0:mg 0=0:=rfl
 have k3:nm r*2^(np r-min (np r) (np q))=0↔r=0:=by
  have n:r=0↔mg r=0:=(Zbin (r:=r) (s:=0)).symm
  rw[n,←m1]
  constructor
  ·intro h;rw[h,Zbvb]
  ·intro h;exact (Zbw6.1 h).resolve_right (by omega)
 have k4:nm q*2^(np q-min (np r) (np q))=0↔q=0:=by
  have n:q=0↔mg q=0:=(Zbin (r:=q) (s:=0)).symm
  rw[n,←m2]
  constructor
  ·intro h;rw[h,Zbvb]
  ·intro h;exact (Zbw6.1 h).resolve_right (by omega)
 exact⟨Zbpb k1 k2 k3 k4,Zboy k1 k2 k3 k4⟩
theorem Zxv {a b:Nat} (n:a<18446744073709551616) (p:b<18446744073709551616) (na:¬isn a) (nb:¬isn b):∃o,Ieee.double.order a b=some o∧(o=.lt↔sg a<sg b)∧(o=.eq↔sg a=sg b):=by
 rw[Zbmr n,Zbmr p]
 unfold isn at na nb
 have hI:INF=9218868437227405312:=rfl
 have rd:∀x,¬INF<rg x→rg x<INF∨rg x=INF:=fun x h=>by omega
 have ri:∀x,rg x=INF→Ieee.double.read x=.infinity (ngb x):=fun x h=>by
  rw[Z5k,if_neg (by rw[h];decide),if_neg (by rw[h];decide),if_pos h]
 unfold Ieee.Format.order
 rcases rd a na with k | k <;> rcases rd b nb with m | m
 ·rw[Zw4 k,Zw4 m];exact Zbgk _ _ _ _
 ·rw[Zw4 k,ri b m]
  refine⟨_,rfl,?_⟩
  rw[m]
  cases ngb a <;> cases ngb b <;> simp[sgn] <;> omega
 ·rw[ri a k,Zw4 m]
  refine⟨_,rfl,?_⟩
  rw[k]
  cases ngb a <;> cases ngb b <;> simp[sgn] <;> omega
 ·rw[ri a k,ri b m]
  refine⟨_,rfl,?_⟩
  rw[k,m]
  cases ngb a <;> cases ngb b <;> simp[sgn] <;> first | decide | omega
theorem Z6q {a b:Nat} (h:isn a∨isn b):Ieee.double.order a b=none:=by
 have rn:∀x,isn x→∃s f,Ieee.double.read x=.nan s f:=fun x h=>by
  refine⟨ngb x,rg x-INF,?_⟩
  unfold isn at h
  have hI:INF=9218868437227405312:=rfl
  have hB:BIN=4503599627370496:=rfl
  rw[Z5k,if_neg (by omega),if_neg (by omega),if_neg (by omega)]
 unfold Ieee.Format.order
 rcases h with h | h
 ·obtain⟨s,f,e⟩:=rn a h
  rw[e];rfl
 ·obtain⟨s,f,e⟩:=rn b h
  rw[e]
  cases Ieee.double.read a <;> rfl
end Go.CL
namespace Go.CL
open Go Go.RowKit
def fadd (m n:Nat):Nat:=(Ieee.double.add m n).getD 9221120237041090561
def fmul (m n:Nat):Nat:=(Ieee.double.mul m n).getD 9221120237041090561
theorem Zbjx {b:Nat} (h:isn b):fneq b b=true:=by
 unfold fneq
 show (Ieee.double.order b b !=some .eq)=true
 rw[Z6q (.inl h)];rfl
section
variable {P:Program} {N:Nat} {o:Oper} {uses:Z8} {d:Nat} {q:Pd} {x y z:Operand}
def Z7t (z:Nat):Pd:=⟨fun g v=>∃r,v=.float .f64 r∧(r=z∨(fneq r r=true∧fneq z z=true)),[],fun _ _ h=>h⟩
theorem Z8w {op:BinOp} {f:Nat→Nat→Option Nat} {t ty:TypeId} {m n:Nat} (k:o.op=.binOp op t x y ty) (z:o.dst=some d) (b:Opd uses x (pFlt m)) (c:Opd uses y (pFlt n))
   (h:∀w,(binOp op t (.float .f64 m) (.float .f64 n)).run P w=(match f m n with | some r=>.ok (.float .f64 r) w | none=>((choose (.nanBits .f64 m n)).run P w).andThen fun r w'=>.ok (.float .f64 r) w')):OB P N o uses [(d,Z7t ((f m n).getD 9221120237041090561))] [] :=
 Zjr z fun a g hh=>by
   have p:=Zm4.1 (b a g hh)
   have q:=Zm4.1 (c a g hh)
   have hg:(eqGuard op t x y (.float .f64 m) (.float .f64 n)).run P g.w=.ok () g.w:=by
     unfold eqGuard
     split <;> rfl
   cases s:f m n with
   | some r =>
     refine⟨.float .f64 r,g,?_,.refl _ _,r,rfl,.inl (by simp)⟩
     have:=h g.w
     rw[s]at this
     simp[execOp,k,p,q,hg,this]
   | none =>
     have:=h g.w
     rw[s]at this
     have e:(choose (.nanBits .f64 m n)).run P g.w=.ok ((Question.nanBits .f64 m n).cut (g.w.tape g.w.drawn (Question.nanBits .f64 m n))) g.w.drew:=by
       simp[Question.forced]
     refine⟨.float .f64 ((Question.nanBits .f64 m n).cut (g.w.tape g.w.drawn (Question.nanBits .f64 m n))),g.drew,?_,Step.drew g,_,rfl,.inr ⟨Zbjx ?_,by decide +kernel⟩⟩
     · simp only [e,Result.andThen_ok] at this
       simp[execOp,k,p,q,hg,this];rfl
     · unfold isn rg INF TOP
       generalize g.w.tape g.w.drawn (Question.nanBits .f64 m n)=u
       simp only[Question.cut]
       have i:=Zbv2 (u/2) (show 0<2^52-1 by decide)
       generalize u/2 % (2^52-1)=v at i
       rcases Nat.mod_two_eq_zero_or_one u with h | h <;> rw[h] <;> omega
theorem Z9r {t ty:TypeId} {m n:Nat} (k:o.op=.binOp .add t x y ty) (p:o.dst=some d) (q:Opd uses x (pFlt m)) (r:Opd uses y (pFlt n)):OB P N o uses [(d,Z7t (fadd m n))] [] :=
 Z8w k p q r fun w=>by
   cases h:Ieee.double.add m n <;> simp[binOp,Op.floatArith,FloatKind.format,h]
theorem Z97 {t ty:TypeId} {m n:Nat} (k:o.op=.binOp .mul t x y ty) (p:o.dst=some d) (q:Opd uses x (pFlt m)) (r:Opd uses y (pFlt n)):OB P N o uses [(d,Z7t (fmul m n))] [] :=
 Z8w k p q r fun w=>by
   cases h:Ieee.double.mul m n <;> simp[binOp,Op.floatArith,FloatKind.format,h]
theorem Zxn {β:Type} {f:FuncId} {F:Nat→Option β} {q:β→Pd} (s:∀r z,fneq r r=true→fneq z z=true→F r=F z) (p:∀z r,F z=some r→FnOk P f [pFlt z] (q r)) {z:Nat} {r:β} (h:F z=some r):FnOk P f [Z7t z] (q r):=by
 intro g args k
 obtain⟨r',t,v⟩:=k.2 0 _ _ rfl (Zbtv (by rw[k.1];exact Zbw7))
 have h':F r'=some r:=by
   rcases v with rfl | ⟨m,n⟩
   · exact h
   · rw[s r' z m n];exact h
 refine p r' r h' g args ⟨k.1,fun i qi u m n=>?_⟩
 match i,m with
 | 0,m =>
   simp at m;subst m
   have w:0<args.length:=by rw[k.1];exact Zbw7
   rw[Zbtv w]at n
   have:=Zbt7.inj n
   exact Zm4.2 (by rw[←this];exact t)
end
end Go.CL
namespace Go.CL
def Z90 {ε β:Type} (o:Option ε) (f:ε→Option β) (g:Option β):Option β:=match o with | some e=>f e | none=>g
theorem Zblg {ε β:Type} {o:Option ε} {f:ε→Option β} {g:Option β} {r:β} (h:Z90 o f g=some r):(∃e,o=some e∧f e=some r)∨(o=none∧g=some r):=by
 cases o with
 | none=>exact .inr ⟨rfl,h⟩
 | some e=>exact .inl ⟨e,rfl,h⟩
section
variable {P:Program} {N:Nat} {o:Oper} {uses outs:Z8} {S:List Nat} {d:Nat} {q:Pd} {x y z:Operand} {α β:Type} {dk:Kd α} {t e j:Nat}
theorem Z62 {zc:Array Value} {n i:Nat} (m:i<n) (hz:0<zc.size):seg (madeCells zc (n*zc.size)).toList (i*zc.size) zc.size=zc.toList:=by
 have p:i*zc.size+zc.size≤n*zc.size:=Zlr m
 apply Zbuo
 intro k
 simp only[seg,Zbty,Zbtz,Array.getElem?_toList,madeCells,Array.getElem?_map,Array.getElem?_range]
 split
 · rename_i h
   rw[if_pos (by omega)]
   simp only[Zbvh]
   rw[show (i*zc.size+k) % zc.size=k by rw[Zbvc,Nat.mul_add_mod];exact Nat.mod_eq_of_lt h]
   rw[getElem!_pos zc k h,Zbuj h]
 · rename_i h
   rw[Zbwb (by omega)]
theorem Zbok {bytes n:Nat} {zs:List Value} {zv:α} {k1 k2:IntKind} (D:TE P t e dk bytes) (E:(P.info? e).bind (fun i=>i.zero.map (fun z=>(z.cells,i.size,i.bytes)))=some (zs.toArray,zs.length,bytes)) (b:∀g,dk.K g zv zs) (F:0<zs.length) (c:o.op=.makeSlice t x y) (H:o.dst=some d)
   (k:Opd uses x (pInt k1 (n:Int))) (I:Opd uses y (pInt k2 (n:Int))) (hn:n*bytes≤140737488355328) (O:n≤140737488355328):OB P N o uses [(d,pArr dk e j (Zbun n zv))] [j+1] :=
 Zjr H fun a g hh=>by
   obtain⟨i,J,f⟩:=Zbuk.1 E
   obtain⟨zz,l,p⟩:=Zbt3.1 f
   simp only[Zbu3.injEq]at p
   obtain⟨z1,z2,z3⟩:=p
   have q:dk.sz=zs.length:=(dk.len (b g)).symm
   have L:(i.bytes:Int)*(n:Int)≤281474976710656:=by
     have h:((i.bytes*n:Nat):Int)≤281474976710656:=by rw[z3,Zbvc];omega
     rwa [Zbw4]at h
   have A:=run_make (P:=P) g.w t e i zz D.und J l k1 k2 n n (by omega) (Int.le_refl _) L (by omega)
   simp only[Int.toNat_natCast,z1,z2]at A
   have r:=Zn7 g (madeCells zs.toArray (n*zs.length)) e (fun _=>False) (j+1)
   refine⟨.slice (some ⟨g.w.heap.size,0,none⟩) n n,g.push (madeCells zs.toArray (n*zs.length)) e (fun _=>False) (j+1),?_,r,.inr ⟨g.w.heap.size,n,madeCells zs.toArray (n*zs.length),by simp,⟨by rw[Zh1,Zj8];omega,by simp[G.push],fun b' Q s=>?_,by rw[Zh1];exact Zn9 ..,by simp,by simp only[maxLen];omega,by rw[size_madeCells,q],fun i x k=>?_,fun o=>by simp[G.push]⟩⟩⟩
   · rw [Zh1]
     have M:=Zcy.1 (k a g hh)
     have v:=Zcy.1 (I a g hh)
     simp[execOp,c,M,v,A]
   · by_cases h:b'=g.w.heap.size
     · exact h
     · simp only [G.push,if_neg h] at s
       split at s
       · omega
       · rename_i v;exact absurd s v
   · rw [Zbt1] at k
     obtain⟨u,m,B⟩:=Zbt3.1 k
     obtain rfl:=Zbt7.inj B
     rw[Zbu7]at m
     split at m
     · rename_i C
       obtain rfl:=Zbt7.inj m
       rw[q,show zs.length=zs.toArray.size by simp,Z62 C (by simpa using F)]
       exact dk.mono r.le (b g)
     · cases m
end
section
variable {P:Program} {N:Nat} {o:Oper} {uses outs:Z8} {S:List Nat} {d:Nat} {q:Pd} {x y z:Operand}
theorem OB.frameU {n:Nat} (h:OB P N o uses outs S) (hs:Opd uses (.tmp n) q) (t:∀j∈q.fp,j∉S) (u:o.dst≠some n):OB P N o uses ((n,q)::outs) S:=by
 intro a g K Q w r s x
 refine h a g K Q w r s fun v g' k y=>x v g' k fun e m=>?_
 rcases Zbt6.1 m with rfl | m
 · have z:=q.st k t (hs a g s)
   show q.p g' (Act.at (a.put o.dst v) n)
   rw[Zlf v u];exact z
 · exact y e m
structure Hp (σ:Type) where
 p:G→σ→Prop
 fp:List Nat
 st:∀{S:List Nat} {g g':G} {s:σ},Step S g g'→(∀j∈fp,j∉S)→p g s→p g' s
def hpT {σ:Type}:Hp σ:=⟨fun _ _=>True,[],fun _ _ _=>trivial⟩
def hpL (q:Pd):Hp SlV:=⟨fun g s=>q.p g (slv s),q.fp,fun st k h=>q.st st k h⟩
def hpL2 (q1 q2:Pd):Hp (SlV×SlV):=⟨fun g s=>q1.p g (slv s.1)∧q2.p g (slv s.2),q1.fp++q2.fp,fun st m h=>⟨q1.st st (fun j k=>m j (Zbwh _ k)) h.1,q2.st st (fun j k=>m j (Zbvo _ k)) h.2⟩⟩
variable {c:Option Nat} {α β γ δ ε σ:Type} {kV:Kd γ} {raw:α→σ→γ} {R R' R2:Hp σ} {dk:Kd β} {di:Kd δ} {dj:Kd ε} {t e j:Nat} {xv:α}
def Zda (c:Option Nat) (kV:Kd γ) (raw:α→σ→γ) (R:Hp σ) (j:Nat) (x:α):Pd:=⟨fun g v=>∃s,(Zbm c kV j (raw x s)).p g v∧R.p g s,(j+1)::R.fp,fun st m ⟨s,n,q⟩=>⟨s,(Zbm c kV j (raw x s)).st st (fun k h=>m k (Zbt6.2 (.inl (Zbtu.1 h)))) n,R.st st (fun k h=>m k (Zbuz _ h)) q⟩⟩
instance {c:Option Nat}:NZ (Zda c kV raw R j xv):=⟨fun _ _ ⟨_,⟨_,_,_,e,_⟩,_⟩=>⟨_,e⟩⟩
abbrev pBxS (kV:Kd γ) (raw:α→σ→γ) (R:Hp σ) (j:Nat) (x:α):Pd:=Zda none kV raw R j x
theorem Zbj3 (h:∀g s,R.p g s→R'.p g s) {g:G} {v:Value} (k:(Zda c kV raw R j xv).p g v):(Zda c kV raw R' j xv).p g v:=let ⟨s,m,n⟩:=k;⟨s,m,h g s n⟩
theorem Z35 {g:G} {v:Value} (h:(Zda c kV raw R j xv).p g v):(Zda c kV raw hpT j xv).p g v:=let ⟨s,k,_⟩:=h;⟨s,k,trivial⟩
theorem Zbnu {k:Kd α} (h:∀g s cs,kV.K g (raw xv s) cs→R.p g s→k.K g xv cs) {g:G} {v:Value} (m:(Zda c kV raw R j xv).p g v):(Zbm c k j xv).p g v:=by
 obtain⟨s,⟨b,cs,t',e,⟨n,q,r,t,u,w⟩,x⟩,y⟩:=m
 exact⟨b,cs,t',e,⟨n,q,r,t,h g s cs u y,w⟩,x⟩
def pPQ (kV:Kd γ) (j off:Nat) (q:Pd):Pd:=⟨fun g v=>∃w s,(Zfj kV j w off Kd.raw s).p g v∧q.p g (slv s),(j+1)::q.fp,fun st m ⟨w,s,n,r⟩=>⟨w,s,(Zfj kV j w off Kd.raw s).st st (fun k h=>m k (Zbt6.2 (.inl (Zbtu.1 h)))) n,q.st st (fun k h=>m k (Zbuz _ h)) r⟩⟩
theorem Zz8 {off:Nat} {g:G} {v:Value} (h:(pPQ kV j off q).p g v):∃w s1,(Zfj kV j w off Kd.raw s1).p g v:=let ⟨w,s,k,_⟩:=h;⟨w,s,k⟩
theorem Ztj {zs:List Value} (s0:σ) (m:(P.info? t).bind (·.zero)=some (mkV kV.ag zs)) (n:∀g,kV.K g (raw xv s0) zs) (q:∀g,R.p g s0) (k:o.op=.alloc t) (r:o.dst=some d):OB P N o uses [(d,pBxS kV raw R j xv)] [j+1] :=
 (Zf0 m n k r).weak fun g a h en s=>by
   rw[Zbtu.1 s]
   exact⟨_,h (d,pBox kV j (raw xv s0)) (Zbtu.2 rfl),q g⟩
theorem Zmo {s i off:Nat} {pt:Nat} {proj:γ→SlV} {pr:σ→SlV} (w:Fld P s i kV Kd.raw proj) (x:(match P.underlying s with | some (.struct F)=>(F[i]?).map (·.offset) | _=>none)=some off) (y:∀sv,proj (raw xv sv)=pr sv) (z:∀g s,R.p g s→q.p g (slv (pr s))) (t:o.op=.fieldAddr s (.tmp pt) i) (r:o.dst=some d) (b:Opd uses (.tmp pt) (Zda c kV raw R j xv)):OB P N o uses [(d,pPQ kV j off q)] [] :=
 OB.at fun a g hh=>by
   obtain⟨s0,e,f⟩:=b a g hh
   refine⟨[(N,pAt (slv (pr s0)) q),(pt,Zbm c kV j (raw xv s0))],fun en k=>?_,?_⟩
   · rcases Zbt6.1 k with rfl | k
     · exact z g s0 f
     · rw[Zbtu.1 k];exact e
   · intro a' g' K Q l m u A
     have v:=m d r
     refine (OB.frame (n:=N) (q:=pAt (slv (pr s0)) q) (Zv (c:=c) w x t r .t0) (fun _ _ h=>by cases h) (by rw[r];intro h;exact absurd (Zbt7.inj h) (Zbwn v))).weak (fun g2 a2 h en k=>?_) a' g' K Q l m u A
     rw[Zbtu.1 k]
     have:=h (d,Zfj kV j (raw xv s0) off Kd.raw (proj (raw xv s0))) (by simp)
     rw[y]at this
     exact⟨_,pr s0,this,h (N,pAt (slv (pr s0)) q) (by simp)⟩
theorem Zuy {off pt:Nat} (x:Ty P t Kd.raw) (s:o.op=.load t (.tmp pt)) (r:o.dst=some d) (y:Opd uses (.tmp pt) (pPQ kV j off q)):OB P N o uses [(d,q)] [] :=
 OB.at fun a g hh=>by
   obtain⟨w,s0,z,b⟩:=y a g hh
   refine⟨[(N,pAt (slv s0) q),(pt,Zfj kV j w off Kd.raw s0)],fun en k=>?_,?_⟩
   · rcases Zbt6.1 k with rfl | k
     · exact b
     · rw[Zbtu.1 k];exact z
   · intro a' g' K Q c m u e
     have v:=m d r
     refine (OB.frame (n:=N) (q:=pAt (slv s0) q) (Zjn x s r .t0) (fun _ _ h=>by cases h) (by rw[r];intro h;exact absurd (Zbt7.inj h) (Zbwn v))).weak (fun g2 a2 h en k=>?_) a' g' K Q c m u e
     rw[Zbtu.1 k]
     have f:=Z87.1 (h (d,Kd.raw.pd s0) (by simp))
     show q.p g2 (Act.at a2 d)
     rw[f]
     exact h (N,pAt (slv s0) q) (by simp)
theorem Zvm {off s pt zt:Nat} {x':α} {upd:σ→SlV→σ} (i:Ty P t Kd.raw) (z:o.op=.store t (.tmp pt) (.tmp zt)) (r:o.dst=none) (b:∀g v,q.p g v→∃s2:SlV,v=slv s2) (l:∀k∈q.fp,k≠j+1) (d:∀k∈R.fp,k≠j+1) (hs:Opd uses (.tmp s) (Zda c kV raw R j xv)) (A:∀(a:Act) g,Ze4 uses a g→∃w s1,(Zfj kV j w off Kd.raw s1).p g (Act.at a pt)) (B:Opd uses (.tmp zt) q)
   (C:∀g s s2,R.p g s→q.p g (slv s2)→R2.p g (upd s s2)) (D:∀g cs s0 s1 ys,kV.K g (raw xv s0) cs→Kd.raw.K g s1 ys→off+ys.length≤cs.length∧kV.K g (raw x' (upd s0 s1)) (Zr cs off ys)):OB P N o uses [(s,Zda c kV raw R2 j x')] [j+1] :=
 OB.at fun a g hh=>by
   obtain⟨s0,E,e⟩:=hs a g hh
   obtain⟨w,s1,F⟩:=A a g hh
   have f:=B a g hh
   obtain⟨s2,u⟩:=b _ _ f
   refine⟨[(N,pAt (slv s2) q),(N,⟨fun g _=>R.p g s0,R.fp,fun st r h=>R.st st r h⟩),(s,Zbm c kV j (raw xv s0)),(pt,Zfj kV j w off Kd.raw s1),(zt,Kd.raw.pd s2)],fun en m=>?_,?_⟩
   · rcases Zbt6.1 m with rfl | m
     · show q.p g (slv s2)
       rw[←u];exact f
     · rcases Zbt6.1 m with rfl | m
       · exact e
       · rcases Zbt6.1 m with rfl | m
         · exact E
         · rcases Zbt6.1 m with rfl | m
           · exact F
           · rw[Zbtu.1 m];exact Z87.2 u
   · refine (OB.frame (n:=N) (q:=pAt (slv s2) q) (OB.frame (n:=N) (q:=⟨fun g _=>R.p g s0,R.fp,fun st r h=>R.st st r h⟩) (Zgl (c:=c) (v':=raw x' (upd s0 s2)) i z r .t0 (.tl .t0) (.tl (.tl .t0)) (fun g cs ys h k=>D g cs s0 s2 ys h k)) (fun k x y=>d k x (Zbtu.1 y)) (by rw [r];simp)) (fun k x y=>l k x (Zbtu.1 y)) (by rw [r];simp)).weak (fun g2 a2 h en m=>?_)
     rw[Zbtu.1 m]
     have k1:R.p g2 s0:=h (N,⟨fun g _=>R.p g s0,R.fp,fun st r h=>R.st st r h⟩) (by simp)
     have k2:q.p g2 (slv s2):=h (N,pAt (slv s2) q) (by simp)
     exact⟨upd s0 s2,h (s,Zbm c kV j (raw x' (upd s0 s2))) (by simp),C g2 s0 s2 k1 k2⟩
theorem Zid {s i off:Nat} {pt:Nat} {proj:γ→δ} {u:δ} (n:Fld P s i kV di proj) (p:(match P.underlying s with | some (.struct F)=>(F[i]?).map (·.offset) | _=>none)=some off) (q:∀sv,proj (raw xv sv)=u) (m:o.op=.fieldAddr s (.tmp pt) i) (r:o.dst=some d) (t:Opd uses (.tmp pt) (Zda c kV raw R j xv)):OB P N o uses [(d,pPX kV j off di u)] [] :=
 OB.at fun a g hh=>by
   obtain⟨s0,v,_⟩:=t a g hh
   refine⟨[(pt,Zbm c kV j (raw xv s0))],fun en k=>by rw[Zbtu.1 k];exact v,(Zv (c:=c) n p m r .t0).weak fun g2 a2 h en k=>?_⟩
   rw[Zbtu.1 k]
   have:=h (d,Zfj kV j (raw xv s0) off di (proj (raw xv s0))) (Zbtu.2 rfl)
   rw[q]at this
   exact⟨_,this⟩
theorem Zn5 {off s pt:Nat} {x':α} {u u':δ} (d:Ty P t di) (v:o.op=.store t (.tmp pt) z) (r:o.dst=none) (x:∀k∈R.fp,k≠j+1) (hs:Opd uses (.tmp s) (Zda c kV raw R j xv)) (e:Opd uses (.tmp pt) (pPX kV j off di u)) (y:Opd uses z (di.pd u'))
   (f:∀g cs s0 ys,kV.K g (raw xv s0) cs→di.K g u' ys→off+ys.length≤cs.length∧kV.K g (raw x' s0) (Zr cs off ys)):OB P N o uses [(s,Zda c kV raw R j x')] [j+1] :=
 OB.at fun a g hh=>by
   obtain⟨s0,i,b⟩:=hs a g hh
   obtain⟨w,l⟩:=e a g hh
   have h2:=y a g hh
   refine⟨[(N,⟨fun g _=>R.p g s0,R.fp,fun st r h=>R.st st r h⟩),(s,Zbm c kV j (raw xv s0)),(pt,Zfj kV j w off di u)]++uses,fun en m=>?_,?_⟩
   · rcases Zbv9.1 m with m | m
     · rcases Zbt6.1 m with rfl | m
       · exact b
       · rcases Zbt6.1 m with rfl | m
         · exact i
         · rw[Zbtu.1 m];exact l
     · exact hh en m
   · refine (OB.frame (n:=N) (q:=⟨fun g _=>R.p g s0,R.fp,fun st r h=>R.st st r h⟩) (Zgl (c:=c) (v':=raw x' s0) d v r .t0 (.tl .t0) (.tl (.tl y)) (fun g cs ys h k=>f g cs s0 ys h k)) (fun k A B=>x k A (Zbtu.1 B)) (by rw [r];simp)).weak (fun g2 a2 h en m=>?_)
     rw[Zbtu.1 m]
     exact⟨s0,h (s,Zbm c kV j (raw x' s0)) (by simp),h (N,⟨fun g _=>R.p g s0,R.fp,fun st r h=>R.st st r h⟩) (by simp)⟩
theorem Zsn {k:Kd α} (n:∀g s cs,kV.K g (raw xv s) cs→R.p g s→k.K g xv cs) (q:Ty P t k) (m:o.op=.load t x) (r:o.dst=some d) (u:Opd uses x (Zda c kV raw R j xv)):OB P N o uses [(d,k.pd xv)] [] :=
 Zu4 (c:=c) q m r (u.imp fun _ _ h=>Zbnu n h)
theorem Ztz {k:Kd α} {s:Nat} {x':α} (r:k.sz=kV.sz) (d:Ty P t k) (u:o.op=.store t (.tmp s) z) (f:o.dst=none) (i:Opd uses (.tmp s) (Zda c kV raw R j xv)) (l:Opd uses z (k.pd x')):OB P N o uses [(s,Zbm c k j x')] [j+1] :=
 Zp5 f fun a g hh=>by
   obtain⟨s0,⟨b,cs,t',v,h,w⟩,_⟩:=i a g hh
   obtain⟨ys,p,A⟩:=l a g hh
   have x:ys.length=cs.length:=(k.len p).trans (r.trans (kV.len h.2.2.2.2.1).symm)
   have m:=Zf6 (off:=0) d h.2.2.2.1 p (by simp[x])
   have y:Act.at a s=.pointer (some ⟨b,0,none⟩):=v
   have hs:Step [j+1] g (g.wr b ys.toArray h.1 h.2.2.2.2.2 (fun _=>False) (j+1)):=Zmb h.2.1 (.inr rfl) h.2.2.2.2.2
   refine⟨g.wr b ys.toArray h.1 h.2.2.2.2.2 (fun _=>False) (j+1),?_,hs,?_⟩
   · simp only [Zbuc,Zbvv,Zbu1] at m
     rw[Zbui (by simp[x]),Zbur]at m
     simp[execOp,u,v,A,Instr.storeAt,Instr.sureAddr,m,wr_w]
   · intro e B
     rw[Zbtu.1 B]
     refine⟨b,ys,t',y,⟨by rw[wr_w,Zdm];exact h.1,by simp[G.wr],fun b' n q=>?_,by rw[wr_w];exact setRow_heap _ _ _ _ _ _ h.2.2.2.1,k.mono hs.le p,fun o=>by simp[G.wr]⟩,w⟩
     rw[wr_w,Zdm]at n
     simp only[G.wr]at q
     split at q
     · assumption
     · exact h.2.2.1 b' n q
theorem Zlj {α:Type} {dk:Kd α} {e j:Nat} {xs:List α} {g:G} {v:Value} (h:(pRow dk e j xs).p g v):∃s:SlV,v=slv s:=by
 obtain⟨A,c,k,_⟩:=Kd.sl_V.1 h.1
 exact⟨(A,xs.length,c),k⟩
theorem Z3u {α:Type} {dk:Kd α} {xs:List α} {g:G} {s:SlV} {cs:List Value} (h:Kd.raw.K g s cs) (m:dk.sl.V g xs (slv s)):dk.sl.K g xs cs:=by
 have n:cs=[slv s]:=h
 obtain⟨cs',k,p⟩:=m
 have q:=dk.sl.len k
 obtain⟨u,rfl⟩:=Zbu9.1 q
 have:slv s=u:=p
 rw[n,this];exact k
end
end Go.CL
