/- A part of the proof of WholeTold. -/
import GoSem.Core.World
import Derived.Orders
import Derived.Below
import Derived.KernelRfl
import Derived.Deep.LoopGhost
import Derived.Laws.Cells
import Derived.Laws.Entries
import Derived.Maps.AppendAt
import GoSem.Extern.MathFloatBits
import Derived.ProofKit
import Derived.LaidMore
import Derived.LaidHandle
import Derived.OpenShut
import Derived.FnData
import Derived.MakeChecks
import Derived.Lay
import Derived.HandedShaped
import Derived.Shelf.Vars
import Derived.Laws.CopyRow
import Derived.Laws.Externs
import GoSem.Extern.SlicesOverlaps
set_option linter.unusedVariables false
set_option linter.unusedSimpArgs false
set_option maxRecDepth 100000
namespace Go.CL
open Go
def GL:List (Nat × List Value):=[(0,[.int .u64 (1),.int .u64 (10),.int .u64 (100),.int .u64 (1000),.int .u64 (10000),.int .u64 (100000),.int .u64 (1000000),.int .u64 (10000000),.int .u64 (100000000),.int .u64 (1000000000),.int .u64 (10000000000),.int .u64 (100000000000),.int .u64 (1000000000000),.int .u64 (10000000000000),.int .u64 (100000000000000),.int .u64 (1000000000000000),.int .u64 (10000000000000000),.int .u64 (100000000000000000),.int .u64 (1000000000000000000),.int .u64 (10000000000000000000)]),(1,[.string ⟨#[]⟩,.int .i64 (0),.string ⟨#[]⟩,.string ⟨#[110,101,119]⟩,.int .i64 (0),.string ⟨#[109]⟩,.string ⟨#[100,114,111,112]⟩,.int .i64 (0),.string ⟨#[]⟩,.string ⟨#[105,115]⟩,.int .i64 (0),.string ⟨#[]⟩,.string ⟨#[108,111,111,107]⟩,.int .i64 (0),.string ⟨#[]⟩,.string ⟨#[112,117,116]⟩,.int .i64 (1),.string ⟨#[115]⟩,.string ⟨#[115,119,97,112]⟩,.int .i64 (1),.string ⟨#[115]⟩,.string ⟨#[97,100,100]⟩,.int .i64 (2),.string ⟨#[110]⟩,.string ⟨#[112,108,117,115]⟩,.int .i64 (3),.string ⟨#[110]⟩,.string ⟨#[114,101,97,99,104]⟩,.int .i64 (3),.string ⟨#[110]⟩,.string ⟨#[105,110]⟩,.int .i64 (4),.string ⟨#[110]⟩,.string ⟨#[111,117,116]⟩,.int .i64 (4),.string ⟨#[110]⟩,.string ⟨#[101,110,111,117,103,104]⟩,.int .i64 (4),.string ⟨#[110]⟩,.string ⟨#[114,97,105,115,101]⟩,.int .i64 (5),.string ⟨#[120]⟩,.string ⟨#[108,111,119,101,114]⟩,.int .i64 (6),.string ⟨#[120]⟩,.string ⟨#[115,104,105,102,116]⟩,.int .i64 (7),.string ⟨#[120]⟩,.string ⟨#[115,99,97,108,101]⟩,.int .i64 (7),.string ⟨#[120]⟩,.string ⟨#[102,105,120]⟩,.int .i64 (7),.string ⟨#[120]⟩,.string ⟨#[106,111,105,110]⟩,.int .i64 (8),.string ⟨#[115]⟩,.string ⟨#[108,101,97,118,101]⟩,.int .i64 (8),.string ⟨#[115]⟩,.string ⟨#[104,97,115]⟩,.int .i64 (8),.string ⟨#[115]⟩,.string ⟨#[111,102,102,101,114]⟩,.int .i64 (9),.string ⟨#[120,115]⟩]),(5,[.int .u8 (0),.int .u8 (1),.int .u8 (56),.int .u8 (2),.int .u8 (57),.int .u8 (49),.int .u8 (28),.int .u8 (3),.int .u8 (61),.int .u8 (58),.int .u8 (42),.int .u8 (50),.int .u8 (38),.int .u8 (29),.int .u8 (17),.int .u8 (4),.int .u8 (62),.int .u8 (47),.int .u8 (59),.int .u8 (36),.int .u8 (45),.int .u8 (43),.int .u8 (51),.int .u8 (22),.int .u8 (53),.int .u8 (39),.int .u8 (33),.int .u8 (30),.int .u8 (24),.int .u8 (18),.int .u8 (12),.int .u8 (5),.int .u8 (63),.int .u8 (55),.int .u8 (48),.int .u8 (27),.int .u8 (60),.int .u8 (41),.int .u8 (37),.int .u8 (16),.int .u8 (46),.int .u8 (35),.int .u8 (44),.int .u8 (21),.int .u8 (52),.int .u8 (32),.int .u8 (23),.int .u8 (11),.int .u8 (54),.int .u8 (26),.int .u8 (40),.int .u8 (15),.int .u8 (34),.int .u8 (20),.int .u8 (31),.int .u8 (10),.int .u8 (25),.int .u8 (14),.int .u8 (19),.int .u8 (9),.int .u8 (13),.int .u8 (8),.int .u8 (7),.int .u8 (6)])]
def GLI:List Nat:=[3]
def GLE:List (Nat × Nat):=[(0,20)]
end Go.CL
namespace Go.CL
abbrev Lr := List.range
open Go Go.RowKit
def GLok (w:World) (pr:Nat → Nat → Prop):Prop:=(∀ e ∈ GL,∀ i v,e.2[i]?=some v → pr e.1 i ∧ w.cell? ⟨e.1,i,none⟩=some v) ∧ (∀ b ∈ GLI,pr b 0 ∧ ∃ m:Int,w.cell? ⟨b,0,none⟩=some (.int .i64 m)) ∧ ∀ e ∈ GLE,pr e.1 e.2 ∧ w.cell? ⟨e.1,e.2,none⟩=none
theorem GLok.le {w w':World} {pr pr':Nat → Nat → Prop} (h:GLok w pr) (h1:∀ b o,pr b o → pr' b o) (h2:∀ b o,pr b o → w'.cell? ⟨b,o,none⟩=w.cell? ⟨b,o,none⟩):GLok w' pr':=⟨fun e he i v hv=>by
 obtain ⟨k1,k2⟩:=h.1 e he i v hv
 exact ⟨h1 _ _ k1,(h2 _ _ k1).trans k2⟩,fun b hb=>by
 obtain ⟨k1,m,k2⟩:=h.2.1 b hb
 exact ⟨h1 _ _ k1,m,(h2 _ _ k1).trans k2⟩,fun e he=>⟨h1 _ _ (h.2.2 e he).1,(h2 _ _ (h.2.2 e he).1).trans (h.2.2 e he).2⟩⟩
structure G where
 w:World
 pr:Nat → Nat → Prop
 own:Nat → Nat
 hpr:∀ b o,pr b o → b < w.heap.size
 gl:GLok w pr
structure G.le (g g':G):Prop where
 size:g.w.heap.size ≤ g'.w.heap.size
 pr:∀ b o,g.pr b o → g'.pr b o
 cell:∀ b o,g.pr b o → g'.w.cell? ⟨b,o,none⟩=g.w.cell? ⟨b,o,none⟩
 blk:∀ b,(∀ o,g.pr b o) → g'.w.heap[b]?=g.w.heap[b]?
theorem G.le.refl (g:G):g.le g:=⟨Nat.le_refl _,fun _ _ h=>h,fun _ _ _=>rfl,fun _ _=>rfl⟩
theorem G.le.trans {a b c:G} (h:a.le b) (k:b.le c):a.le c :=
 ⟨Nat.le_trans h.size k.size,fun x o hx=>k.pr x o (h.pr x o hx),fun x o hx=>(k.cell x o (h.pr x o hx)).trans (h.cell x o hx),fun x hx=>(k.blk x (fun o=>h.pr x o (hx o))).trans (h.blk x hx)⟩
structure Step (S:List Nat) (g g':G):Prop where
 le:g.le g'
 os:g'.w.os=g.w.os
 tape:g'.w.tape=g.w.tape
 output:g'.w.output=g.w.output
 same:∀ b,b < g.w.heap.size → g.own b ∉ S → g'.w.heap[b]?=g.w.heap[b]? ∧ g'.pr b=g.pr b ∧ g'.own b=g.own b
 new:∀ b,g.w.heap.size ≤ b → b < g'.w.heap.size → g'.own b=0 ∨ g'.own b ∈ S
 old:∀ b,b < g.w.heap.size → g.own b ∈ S → g'.own b=0 ∨ g'.own b ∈ S
theorem Step.refl (S:List Nat) (g:G):Step S g g:=⟨.refl g,rfl,rfl,rfl,fun _ _ _=>⟨rfl,rfl,rfl⟩,fun _ h k=>absurd (Nat.lt_of_lt_of_le k h) (Nat.lt_irrefl _),fun _ _ h=>.inr h⟩
theorem Step.trans {S:List Nat} {a b c:G} (h:Step S a b) (k:Step S b c):Step S a c :=
 ⟨h.le.trans k.le,k.os.trans h.os,k.tape.trans h.tape,k.output.trans h.output,fun x hx hS=>by
   obtain ⟨h1,h2,h3⟩:=h.same x hx hS
   obtain ⟨k1,k2,k3⟩:=k.same x (Nat.lt_of_lt_of_le hx h.le.size) (by rw [h3];exact hS)
   exact ⟨k1.trans h1,k2.trans h2,k3.trans h3⟩,
  fun x hx hc=>by
   rcases Nat.lt_or_ge x b.w.heap.size with hb | hb
   · rcases h.new x hx hb with h1 | h1
     · by_cases h0:b.own x ∈ S
       · exact k.old x hb h0
       · exact .inl ((k.same x hb h0).2.2.trans h1)
     · exact k.old x hb h1
   · exact k.new x hb hc,
  fun x hx hS=>by
   have hb:=Nat.lt_of_lt_of_le hx h.le.size
   rcases h.old x hx hS with h1 | h1
   · by_cases h0:b.own x ∈ S
     · exact k.old x hb h0
     · exact .inl ((k.same x hb h0).2.2.trans h1)
   · exact k.old x hb h1⟩
theorem Step.sub {S T:List Nat} {g g':G} (h:Step S g g') (hs:∀ x ∈ S,x ∈ T):Step T g g' :=
 ⟨h.le,h.os,h.tape,h.output,fun b hb hT=>h.same b hb (fun hx=>hT (hs _ hx)),fun b h1 h2=>(h.new b h1 h2).imp_right (hs _),fun b hb hT=>by
   by_cases hS:g.own b ∈ S
   · exact (h.old b hb hS).imp_right (hs _)
   · right;rw [(h.same b hb hS).2.2];exact hT⟩
def G.drew (g:G):G:=⟨{ g.w with drawn:=g.w.drawn + 1 },g.pr,g.own,g.hpr,g.gl.le (fun _ _ h=>h) (fun _ _ _=>rfl)⟩
theorem Step.drew (g:G):Step [] g g.drew:=⟨⟨Nat.le_refl _,fun _ _ h=>h,fun _ _ _=>rfl,fun _ _=>rfl⟩,rfl,rfl,rfl,fun _ _ _=>⟨rfl,rfl,rfl⟩,fun _ h k=>absurd (Nat.lt_of_lt_of_le k h) (Nat.lt_irrefl _),fun _ _ h=>.inr h⟩
structure Base (g0 g:G):Prop where
 le:g0.le g
 os:g.w.os=g0.w.os
 tape:g.w.tape=g0.w.tape
 output:g.w.output=g0.w.output
 same:∀ b,b < g0.w.heap.size → g0.own b=0 → g.w.heap[b]?=g0.w.heap[b]? ∧ g.pr b=g0.pr b ∧ g.own b=0
theorem Base.step {S:List Nat} {g0 g g':G} (h:Base g0 g) (k:Step S g g') (h0:0 ∉ S):Base g0 g' :=
 ⟨h.le.trans k.le,k.os.trans h.os,k.tape.trans h.tape,k.output.trans h.output,fun b hb hz=>by
   obtain ⟨h1,h2,h3⟩:=h.same b hb hz
   obtain ⟨k1,k2,k3⟩:=k.same b (Nat.lt_of_lt_of_le hb h.le.size) (by rw [h3];exact h0)
   exact ⟨k1.trans h1,k2.trans h2,k3.trans h3⟩⟩
structure Pd where
 p:G → Value → Prop
 fp:List Nat
 st:∀ {S:List Nat} {g g':G} {v:Value},Step S g g' → (∀ j ∈ fp,j ∉ S) → p g v → p g' v
def pAny:Pd:=⟨fun _ _=>True,[],fun _ _ h=>h⟩
def pIf (c:Bool) (q:Pd):Pd:=⟨fun g v=>(c=true → q.p g v) ∧ (c=false → v=undef),q.fp,fun s d h=>⟨fun hc=>q.st s d (h.1 hc),h.2⟩⟩
abbrev Z4:=List (Nat × Pd)
def Act.at (a:Act) (n:Nat):Value:=a.tmps.getD n undef
def Zdq (L:Z4) (a:Act) (g:G):Prop:=∀ e ∈ L,e.2.p g (Act.at a e.1)
structure StD (D:List Deferred) (N:Nat) (L:Z4) (a:Act) (g:G):Prop where
 size:a.tmps.size=N
 df:a.defers=D
 h:Zdq L a g
abbrev St (N:Nat) (L:Z4) (a:Act) (g:G):Prop:=StD [] N L a g
theorem Zmw (a:Act) (d:Option Tmp) (v:Value):(a.put d v).tmps.size=a.tmps.size:=by cases d <;> simp [Act.put]
theorem Zk0 (a:Act) (d:Option Tmp) (v:Value):(a.put d v).defers=a.defers:=by cases d <;> rfl
theorem Zfy {a:Act} {d:Nat} (v:Value) (h:d < a.tmps.size):Act.at (a.put (some d) v) d=v:=by
 simp [Act.at,Act.put,h]
theorem Zjq {a:Act} {d:Option Nat} (v:Value) {n:Nat} (h:d ≠ some n):Act.at (a.put d v) n=Act.at a n:=by
 cases d with
 | none=>rfl
 | some d =>
   have:d ≠ n:=fun e=>h (by rw [e])
   simp [Act.at,Act.put,Array.getElem?_setIfInBounds_ne this]
def OB (P:Program) (N:Nat) (o:Oper) (uses outs:Z4) (S:List Nat):Prop :=
 ∀ (a:Act) (g:G) (K:Act → World → Prop) (Q:Exit → Act → World → Prop),a.tmps.size=N → (∀ t,o.dst=some t → t < N) → Zdq uses a g →
   (∀ v g',Step S g g' → (∀ e ∈ outs,e.2.p g' (Act.at (a.put o.dst v) e.1)) → K (a.put o.dst v) g'.w) → o.wp P a g.w K Q
def OT (P:Program) (ops:Array Oper) (N:Nat) (o:Oper) (uses outs:Z4) (S:List Nat):Prop :=
 ∀ (a:Act) (g:G) (K:Act → World → Prop) (Q:Exit → Act → World → Prop),a.tmps.size=N → (∀ t,o.dst=some t → t < N) → Zdq uses a g →
   (∀ v g',Step S g g' → (∀ e ∈ outs,e.2.p g' (Act.at (a.put o.dst v) e.1)) → K (a.put o.dst v) g'.w) →
   if Region.wanted o (yielded ops a.tmps) then o.wp P a g.w K Q else K (a.put o.dst undef) g.w
theorem OT.plain {P:Program} {ops:Array Oper} {N:Nat} {o:Oper} {uses outs:Z4} {S:List Nat} (hg:o.guard=none) (h:OB P N o uses outs S):OT P ops N o uses outs S:=by
 intro a g K Q hN ht hu hK
 have:Region.wanted o (yielded ops a.tmps)=true:=by simp [Region.wanted,hg]
 rw [if_pos this]
 exact h a g K Q hN ht hu hK
theorem Zsk {ops:Array Oper} {a:Act} {j d:Nat} {c:Bool} (hd:(ops[j]?).bind (·.dst)=some d):yielded ops a.tmps j=some c ↔ Act.at a d=.bool c:=by
 unfold yielded Act.at
 rw [hd,Array.getD_eq_getD_getElem?]
 simp only [Option.bind_some]
 cases hx:a.tmps[d]? with
 | none=>simp [undef]
 | some v=>cases v <;> simp
theorem OT.guard {P : Program} {ops : Array Oper} {N : Nat} {o : Oper} {uses outs : Z4} {S : List Nat} {j d : Nat} {want : Bool} (G : Bool) {q : Pd} (h1 : G = true → ∀ g v, q.p g v → v = .bool want) (h2 : G = false → ∀ g v, q.p g v → v ≠ .bool want) (hg : o.guard = some (j, want)) (hd : (ops[j]?).bind (·.dst) = some d)
   (ho:∀ e ∈ outs,o.dst=some e.1) (h:G=true → OB P N o uses outs S):OT P ops N o ((d,q) :: uses) (outs.map fun e=>(e.1,pIf G e.2)) S:=by
 intro a g K Q hN ht hu hK
 have hc:=hu (d,q) (by simp)
 cases hG:G with
 | true =>
   have:Region.wanted o (yielded ops a.tmps)=true:=by simp [Region.wanted,hg,(Zsk hd).2 (h1 hG _ _ hc)]
   rw [if_pos this]
   refine h hG a g K Q hN ht (fun e he=>hu e (List.mem_cons_of_mem _ he)) fun v g' hs ho'=>hK v g' hs ?_
   intro e he
   obtain ⟨e',he',rfl⟩:=List.mem_map.1 he
   exact ⟨fun _=>ho' e' he',fun h0=>(by rw [hG] at h0;cases h0)⟩
 | false =>
   have:Region.wanted o (yielded ops a.tmps)=false:=by
     simp only [Region.wanted,hg,beq_eq_false_iff_ne,ne_eq]
     exact fun h=>h2 hG _ _ hc ((Zsk hd).1 h)
   rw [this]
   refine hK undef g (.refl _ _) ?_
   intro e he
   obtain ⟨e',he',rfl⟩:=List.mem_map.1 he
   refine ⟨fun h0=>(by rw [hG] at h0;cases h0),fun _=>?_⟩
   rw [ho e' he']
   exact Zfy _ (by rw [hN];exact ht _ (ho e' he'))
inductive Ref where
 | old (p:Nat)
 | op (j k:Nat)
abbrev Ref.o := Ref.old
abbrev Ref.p := Ref.op
structure Spec where
 refs:List Ref
 outs:Z4
 S:List Nat
 bef:List Nat
 tn:List Nat
def Zmf (T:List Spec) (j k:Nat):Nat × Pd:=(((T[j]?).map (·.outs)).getD []).getD k (0,pAny)
def Zeb (L:Z4) (T:List Spec):Ref → Nat × Pd
 | .old p=>L.getD p (0,pAny)
 | .op j k=>Zmf T j k
def Zjm (T:List Spec) (j:Nat):List Nat:=((T[j]?).map (·.bef)).getD []
def tnOf (T:List Spec) (j:Nat):List Nat:=((T[j]?).map (·.tn)).getD []
def Zl2 (T:List Spec) (j:Nat):Z4:=((T[j]?).map (·.outs)).getD []
def Zlz (o:Oper):List Nat:=(o.after.toList.filter (Region.binds .any ·)).map (·.on)
def disj (x y:List Nat):Bool:=x.all fun j=>!y.contains j
def Zst (N n:Nat) (L:Z4) (T:List Spec) (o:Oper) (x:Nat) (X:Spec):Bool :=
 let d:=Zlz o
 d.all (· < x) &&
 X.bef.all (fun j=>d.contains j || d.any fun m=>(Zjm T m).contains j) &&
 (match o.dst with | some t=>X.tn.contains t && decide (t < N) | none=>true) &&
 X.outs.all (fun e=>X.tn.contains e.1) &&
 !X.S.contains 0 &&
 (X.S.isEmpty || (L.all fun e=>X.tn.contains e.1 || disj e.2.fp X.S)) &&
 (List.range n).all (fun i=>i == x || ((X.S.isEmpty || (Zjm T i).contains x || ((Zl2 T i).all fun e=>X.tn.contains e.1 || disj e.2.fp X.S)) &&
   (disj ((Zl2 T i).map (·.1)) X.tn || X.bef.contains i || (Zjm T i).contains x))) &&
 X.refs.all (fun r=>match r with
   | .old p=>decide (p < L.length) && (List.range n).all fun y=>y == x || !(tnOf T y).contains (L.getD p (0,pAny)).1 || (Zjm T y).contains x
   | .op j k=>X.bef.contains j && decide (k < (Zl2 T j).length) && (List.range n).all fun y=>y == x || y == j || !(tnOf T y).contains (Zmf T j k).1 || !(Zjm T y).contains j || (Zjm T y).contains x)
def Z6j (n:Nat) (L:Z4) (T:List Spec) (F:List Ref):Bool :=
 F.all fun r=>match r with
   | .old p=>decide (p < L.length) && (List.range n).all fun y=>!(tnOf T y).contains (L.getD p (0,pAny)).1
   | .op j k=>decide (j < n) && decide (k < (Zl2 T j).length) && (List.range n).all fun y=>y == j || !(tnOf T y).contains (Zmf T j k).1 || !(Zjm T y).contains j
def Zm6 (N n:Nat) (L:Z4) (T:List Spec):List Oper → List Spec → Nat → Bool
 | o :: os,X :: Xs,x=>Zst N n L T o x X && Zm6 N n L T os Xs (x + 1)
 | [],[],_=>true
 | _,_,_=>false
def chk (N:Nat) (ops:Array Oper) (L:Z4) (T:List Spec) (F:List Ref):Bool :=
 ops.size == T.length && Zm6 N ops.size L T ops.toList T 0 && Z6j ops.size L T F
def AllOT (P:Program) (ops:Array Oper) (N:Nat) (L:Z4) (T:List Spec):List Oper → List Spec → Prop
 | o :: os,X :: Xs=>OT P ops N o (X.refs.map (Zeb L T)) X.outs X.S ∧ AllOT P ops N L T os Xs
 | _,_=>True
def OTQ (P:Program) (ops:Array Oper) (N:Nat) (o:Oper) (uses outs:Z4) (S:List Nat) (D:List Deferred) (g0:G) (Q:Exit → Act → World → Prop):Prop :=
 ∀ (a:Act) (g:G) (K:Act → World → Prop),a.tmps.size=N → a.defers=D → Base g0 g → (∀ t,o.dst=some t → t < N) → Zdq uses a g →
   (∀ v g',Step S g g' → (∀ e ∈ outs,e.2.p g' (Act.at (a.put o.dst v) e.1)) → K (a.put o.dst v) g'.w) →
   if Region.wanted o (yielded ops a.tmps) then o.wp P a g.w K Q else K (a.put o.dst undef) g.w
def Zin (P:Program) (ops:Array Oper) (N:Nat) (L:Z4) (T:List Spec) (D:List Deferred) (g0:G) (Q:Exit → Act → World → Prop):List Oper → List Spec → Prop
 | o :: os,X :: Xs=>OTQ P ops N o (X.refs.map (Zeb L T)) X.outs X.S D g0 Q ∧ Zin P ops N L T D g0 Q os Xs
 | _,_=>True
theorem OT.q {P:Program} {ops:Array Oper} {N:Nat} {o:Oper} {uses outs:Z4} {S:List Nat} {D:List Deferred} {g0:G} {Q:Exit → Act → World → Prop} (h:OT P ops N o uses outs S):OTQ P ops N o uses outs S D g0 Q :=
 fun a g K hN _ _ hd hu hK=>h a g K Q hN hd hu hK
theorem AllOT.q {P:Program} {ops:Array Oper} {N:Nat} {L:Z4} {T:List Spec} {D:List Deferred} {g0:G} {Q:Exit → Act → World → Prop}:∀ {os:List Oper} {Xs:List Spec},AllOT P ops N L T os Xs → Zin P ops N L T D g0 Q os Xs
 | _ :: _,_ :: _,h=>⟨h.1.q,AllOT.q h.2⟩
 | [],_,_=>trivial
 | _ :: _,[],_=>trivial
section
variable {P:Program} {N:Nat} {ops:Array Oper} {L:Z4} {T:List Spec} {D:List Deferred}
theorem Zqf {n:Nat}:∀ {os:List Oper} {Xs:List Spec} {x i:Nat} {o:Oper} {X:Spec},Zm6 N n L T os Xs x=true → os[i]?=some o → Xs[i]?=some X → Zst N n L T o (x + i) X=true
 | o :: os,X :: Xs,x,0,o',X',h,ho,hX=>by
   simp at ho hX;subst ho;subst hX
   simp only [Zm6,Bool.and_eq_true] at h
   exact h.1
 | o :: os,X :: Xs,x,i + 1,o',X',h,ho,hX=>by
   simp only [Zm6,Bool.and_eq_true] at h
   have:=Zqf (x:=x + 1) (i:=i) h.2 (by simpa using ho) (by simpa using hX)
   rwa [show x + 1 + i=x + (i + 1) by omega] at this
 | [],[],_,_,_,_,_,ho,_=>by simp at ho
 | [],_ :: _,_,_,_,_,h,_,_=>by simp [Zm6] at h
 | _ :: _,[],_,_,_,_,h,_,_=>by simp [Zm6] at h
theorem Zwn {g0:G} {Q:Exit → Act → World → Prop}:∀ {os:List Oper} {Xs:List Spec} {i:Nat} {o:Oper} {X:Spec},Zin P ops N L T D g0 Q os Xs → os[i]?=some o → Xs[i]?=some X → OTQ P ops N o (X.refs.map (Zeb L T)) X.outs X.S D g0 Q
 | o :: os,X :: Xs,0,o',X',h,ho,hX=>by
   simp at ho hX;subst ho;subst hX
   exact h.1
 | o :: os,X :: Xs,i + 1,o',X',h,ho,hX=>Zwn (i:=i) h.2 (by simpa using ho) (by simpa using hX)
 | [],_,_,_,_,_,ho,_=>by simp at ho
 | _ :: _,[],_,_,_,_,_,hX=>by simp at hX
structure Inv (D:List Deferred) (N:Nat) (L:Z4) (T:List Spec) (g0:G) (done:Nat → Bool) (a:Act) (g:G):Prop where
 size:a.tmps.size=N
 df:a.defers=D
 base:Base g0 g
 closed:∀ i,done i=true → ∀ j ∈ Zjm T i,done j=true
 old:∀ e ∈ L,(∀ x,e.1 ∈ tnOf T x → done x=false) → e.2.p g (Act.at a e.1)
 new:∀ i,done i=true → ∀ e ∈ Zl2 T i,(∀ x,e.1 ∈ tnOf T x → x ≠ i → i ∈ Zjm T x → done x=false) → e.2.p g (Act.at a e.1)
theorem Zp3 {x y:List Nat} (h:disj x y=true):∀ j ∈ x,j ∉ y:=by
 intro j hj
 have:=List.all_eq_true.1 h j hj
 simpa using this
theorem Zoy {L:Z4} {p:Nat} (h:p < L.length):L.getD p (0,pAny) ∈ L:=by
 rw [List.getD_eq_getElem?_getD,List.getElem?_eq_getElem h]
 exact List.getElem_mem h
theorem Zv9 {F : List Ref} (hc : chk N ops L T F = true) {g0 : G} {Q : Exit → Act → World → Prop} (hT : Zin P ops N L T D g0 Q ops.toList T) {done : Nat → Bool} {a : Act} {g : G} {K : Act → World → Prop} (hI : Inv D N L T g0 done a g)
   {x:Nat} {o:Oper} (ho:ops[x]?=some o) (hnew:done x=false) (hrdy:∀ j ∈ Zlz o,done j=true) (hfar:∀ i,ops.size ≤ i → done i=false)
   (hK:∀ a' g',Inv D N L T g0 (fun i=>i == x || done i) a' g' → K a' g'.w):wpOp P ops Q x K a g.w:=by
 have hx:x < ops.size:=(Array.getElem?_eq_some_iff.1 ho).1
 simp only [chk,Bool.and_eq_true,beq_iff_eq] at hc
 obtain ⟨⟨hlen,hall⟩,hfin⟩:=hc
 have hxT:x < T.length:=by omega
 obtain ⟨X,hX⟩:∃ X,T[x]?=some X:=⟨T[x],List.getElem?_eq_getElem hxT⟩
 have ho':ops.toList[x]?=some o:=by simpa using ho
 have hone:=Zqf (x:=0) hall ho' hX
 rw [Nat.zero_add] at hone
 simp only [Zst,Bool.and_eq_true] at hone
 obtain ⟨⟨⟨⟨⟨⟨⟨c1,c2⟩,c3⟩,c4⟩,c5⟩,c6⟩,c7⟩,c8⟩:=hone
 have hbefX:Zjm T x=X.bef:=by simp [Zjm,hX]
 have htnX:tnOf T x=X.tn:=by simp [tnOf,hX]
 have houX:Zl2 T x=X.outs:=by simp [Zl2,hX]
 have hbef:∀ j ∈ X.bef,done j=true:=by
   intro j hj
   have:=List.all_eq_true.1 c2 j hj
   simp only [Bool.or_eq_true,List.any_eq_true,List.contains_iff_mem] at this
   rcases this with h | ⟨m,hm,h⟩
   · exact hrdy j h
   · exact hI.closed m (hrdy m hm) j h
 have hnb:∀ y,done y=true → x ∉ Zjm T y:=fun y hy hb=>by
   have:=hI.closed y hy x hb
   rw [hnew] at this;cases this
 have hnot0:0 ∉ X.S:=by simpa using c5
 have hOT:=Zwn hT ho' hX
 have huses:Zdq (X.refs.map (Zeb L T)) a g:=by
   intro e he
   obtain ⟨r,hr,rfl⟩:=List.mem_map.1 he
   have h8:=List.all_eq_true.1 c8 r hr
   cases r with
   | old p =>
     simp only [Bool.and_eq_true,decide_eq_true_eq,List.all_eq_true,List.mem_range,Bool.or_eq_true,beq_iff_eq,Bool.not_eq_true',List.contains_iff_mem] at h8
     refine hI.old _ (Zoy h8.1) fun y hy=>?_
     by_cases hyn:y < ops.size
     · rcases h8.2 y hyn with (h | h) | h
       · rw [h];exact hnew
       · rw [show (tnOf T y).contains (L.getD p (0,pAny)).1=true from List.contains_iff_mem.2 hy] at h;cases h
       · cases hd:done y with
         | false=>rfl
         | true=>exact absurd h (hnb y hd)
     · exact hfar y (by omega)
   | op j k =>
     simp only [Bool.and_eq_true,decide_eq_true_eq,List.all_eq_true,List.mem_range,Bool.or_eq_true,beq_iff_eq,Bool.not_eq_true',List.contains_iff_mem] at h8
     have hj:=hbef j h8.1.1
     have hmem:Zmf T j k ∈ Zl2 T j:=Zoy h8.1.2
     refine hI.new j hj _ hmem fun y hy hyj hb=>?_
     by_cases hyn:y < ops.size
     · rcases h8.2 y hyn with (((h | h) | h) | h) | h
       · rw [h];exact hnew
       · exact absurd h hyj
       · rw [show (tnOf T y).contains (Zmf T j k).1=true from List.contains_iff_mem.2 hy] at h;cases h
       · rw [show (Zjm T y).contains j=true from List.contains_iff_mem.2 hb] at h;cases h
       · cases hd:done y with
         | false=>rfl
         | true=>exact absurd h (hnb y hd)
     · exact hfar y (by omega)
 have hdN:∀ t,o.dst=some t → t < N:=fun t ht=>by
   rw [ht] at c3
   simp only [Bool.and_eq_true,decide_eq_true_eq] at c3
   exact c3.2
 have key:=hOT a g K hI.size hI.df hI.base hdN huses (fun v g' hs houts=>by
   refine hK _ g' ⟨(Zmw ..).trans hI.size,(Zk0 ..).trans hI.df,hI.base.step hs hnot0,?_,?_,?_⟩
   · intro i hi j hj
     simp only [Bool.or_eq_true,beq_iff_eq] at hi ⊢
     rcases hi with rfl | hi
     · rw [hbefX] at hj
       exact .inr (hbef j hj)
     · exact .inr (hI.closed i hi j hj)
   · intro e he hun
     have hxn:e.1 ∉ X.tn:=fun h=>by
       have:=hun x (by rw [htnX];exact h)
       simp at this
     have hd:o.dst ≠ some e.1:=fun h=>by
       rw [h] at c3
       simp only [Bool.and_eq_true,List.contains_iff_mem] at c3
       exact hxn c3.1
     rw [Zjq v hd]
     refine e.2.st hs ?_ (hI.old e he fun y hy=>?_)
     · simp only [Bool.or_eq_true,List.all_eq_true,List.isEmpty_iff,List.contains_iff_mem] at c6
       rcases c6 with h | h
       · rw [h];intro j _ hj;cases hj
       · rcases h e he with h | h
         · exact absurd h hxn
         · exact Zp3 h
     · have:=hun y hy
       simp only [Bool.or_eq_false_iff] at this
       exact this.2
   · intro i hi e he hun
     by_cases hix:i=x
     · subst hix
       rw [houX] at he
       exact houts e he
     · have hi' : done i = true := by
         simp only [Bool.or_eq_true,beq_iff_eq] at hi
         exact hi.resolve_left hix
       have hin:i < ops.size:=by
         rcases Nat.lt_or_ge i ops.size with h | h
         · exact h
         · rw [hfar i h] at hi';cases hi'
       have h7:=List.all_eq_true.1 c7 i (List.mem_range.2 hin)
       simp only [Bool.or_eq_true,Bool.and_eq_true,beq_iff_eq,List.all_eq_true,List.isEmpty_iff,List.contains_iff_mem] at h7
       have h7:=h7.resolve_left hix
       have hxn:e.1 ∉ X.tn:=fun h=>by
         rcases h7.2 with (h2 | h2) | h2
         · exact Zp3 h2 e.1 (List.mem_map.2 ⟨e,he,rfl⟩) h
         · have:=hun x (by rw [htnX];exact h) (Ne.symm hix) (by rw [hbefX];exact h2)
           simp at this
         · exact hnb i hi' h2
       have hd:o.dst ≠ some e.1:=fun h=>by
         rw [h] at c3
         simp only [Bool.and_eq_true,List.contains_iff_mem] at c3
         exact hxn c3.1
       rw [Zjq v hd]
       refine e.2.st hs ?_ (hI.new i hi' e he fun y hy hyi hb=>?_)
       · rcases h7.1 with (h | h) | h
         · rw [h];intro j _ hj;cases hj
         · exact absurd h (hnb i hi')
         · rcases h e he with h | h
           · exact absurd h hxn
           · exact Zp3 h
       · have:=hun y hy hyi hb
         simp only [Bool.or_eq_false_iff] at this
         exact this.2)
 unfold wpOp
 simp only [ho]
 split
 · rename_i hw
   rw [if_pos hw] at key
   exact .inl key
 · rename_i hw
   rw [if_neg hw] at key
   exact key
theorem Ztk {F : List Ref} (hc : chk N ops L T F = true) {g0 : G} {done : Nat → Bool} {a : Act} {g : G} (hI : Inv D N L T g0 done a g) (hall : ∀ i, i < ops.size → done i = true) (hfar : ∀ i, ops.size ≤ i → done i = false) :
   StD D N (F.map (Zeb L T)) a g:=by
 simp only [chk,Bool.and_eq_true,beq_iff_eq] at hc
 obtain ⟨⟨hlen,_⟩,hfin⟩:=hc
 refine ⟨hI.size,hI.df,?_⟩
 intro e he
 obtain ⟨r,hr,rfl⟩:=List.mem_map.1 he
 have h:=List.all_eq_true.1 hfin r hr
 cases r with
 | old p =>
   simp only [Bool.and_eq_true,decide_eq_true_eq,List.all_eq_true,List.mem_range,Bool.not_eq_true'] at h
   refine hI.old _ (Zoy h.1) fun y hy=>?_
   by_cases hyn:y < ops.size
   · have:=h.2 y hyn
     rw [show (tnOf T y).contains (L.getD p (0,pAny)).1=true from List.contains_iff_mem.2 hy] at this;cases this
   · exact hfar y (by omega)
 | op j k =>
   simp only [Bool.and_eq_true,decide_eq_true_eq,List.all_eq_true,List.mem_range,Bool.or_eq_true,beq_iff_eq,Bool.not_eq_true'] at h
   refine hI.new j (hall j h.1.1) _ (Zoy h.1.2) fun y hy hyj hb=>?_
   by_cases hyn:y < ops.size
   · rcases h.2 y hyn with (h | h) | h
     · exact absurd h hyj
     · rw [show (tnOf T y).contains (Zmf T j k).1=true from List.contains_iff_mem.2 hy] at h;cases h
     · rw [show (Zjm T y).contains j=true from List.contains_iff_mem.2 hb] at h;cases h
   · exact hfar y (by omega)
theorem Zur {F:List Ref} (hc:chk N ops L T F=true) {x:Nat} {o:Oper} (ho:ops[x]?=some o):∀ j ∈ Zlz o,j < x:=by
 have hx:x < ops.size:=(Array.getElem?_eq_some_iff.1 ho).1
 simp only [chk,Bool.and_eq_true,beq_iff_eq] at hc
 obtain ⟨⟨hlen,hall⟩,hfin⟩:=hc
 have hxT:x < T.length:=by omega
 obtain ⟨X,hX⟩:∃ X,T[x]?=some X:=⟨T[x],List.getElem?_eq_getElem hxT⟩
 have hone:=Zqf (x:=0) hall (by simpa using ho) hX
 rw [Nat.zero_add] at hone
 simp only [Zst,Bool.and_eq_true] at hone
 intro j hj
 have:=List.all_eq_true.1 hone.1.1.1.1.1.1.1 j hj
 simpa using this
theorem Zup {g0:G} {a:Act} {g:G} (h:StD D N L a g) (hb:Base g0 g):Inv D N L T g0 (fun _=>false) a g :=
 ⟨h.size,h.df,hb,fun _ h=>by simp at h,fun e he _=>h.h e he,fun _ h=>by simp at h⟩
theorem Zz3 {F : List Ref} (hc : chk N ops L T F = true) {g0 : G} {Q : Exit → Act → World → Prop} (hT : Zin P ops N L T D g0 Q ops.toList T)
   (hQ:∀ a g,StD D N (F.map (Zeb L T)) a g → Base g0 g → Q .normal a g.w) :
   ∀ (fuel:Nat) (listed:Array Bool) (a:Act) (g:G),listed.size=ops.size → Inv D N L T g0 (fun i=>listed.getD i false) a g → (∀ i,i < ops.size → listed.getD i false=false → 0 < fuel) →
     ((List.range ops.size).filter (fun i=>!listed.getD i false)).length ≤ fuel → wpAny P .any ops Q fuel listed a g.w:=by
 have hfarL:∀ listed:Array Bool,listed.size=ops.size → ∀ i,ops.size ≤ i → listed.getD i false=false:=fun listed hl i hi=>by
   simp [Array.getD_eq_getD_getElem?,Array.getElem?_eq_none (show listed.size ≤ i by omega)]
 have hready:∀ (listed:Array Bool) (i:Nat),i ∈ Region.ready .any ops listed → listed.size=ops.size → ∃ o,ops[i]?=some o ∧ listed.getD i false=false ∧ ∀ j ∈ Zlz o,listed.getD j false=true:=by
   intro listed i hi hl
   simp only [Region.ready,List.mem_filter,List.mem_range,Bool.and_eq_true,Bool.not_eq_true'] at hi
   obtain ⟨hin,h1,h2⟩:=hi
   obtain ⟨o,ho⟩:∃ o,ops[i]?=some o:=⟨ops[i],Array.getElem?_eq_getElem hin⟩
   refine ⟨o,ho,?_,?_⟩
   · simp only [Array.getD_eq_getD_getElem?,Array.getElem?_eq_getElem (show i < listed.size by omega)] at h1 ⊢
     simpa using h1
   · intro j hj
     simp only [Zlz,List.mem_map,List.mem_filter] at hj
     obtain ⟨e,⟨he,hbnd⟩,rfl⟩:=hj
     rw [ho] at h2
     simp only [Option.map_some,Option.getD_some,Array.all_eq_true_iff_forall_mem] at h2
     have:=h2 e (by simpa using he)
     rw [hbnd] at this
     simpa using this
 have hnil:∀ (listed:Array Bool),listed.size=ops.size → Region.ready .any ops listed=[] → ∀ i,i < ops.size → listed.getD i false=true:=by
   intro listed hl hr i
   induction i using Nat.strongRecOn with
   | _ i ih =>
     intro hi
     cases hd:listed.getD i false with
     | true=>rfl
     | false =>
       exfalso
       obtain ⟨o,ho⟩:∃ o,ops[i]?=some o:=⟨ops[i],Array.getElem?_eq_getElem hi⟩
       have:i ∈ Region.ready .any ops listed:=by
         simp only [Region.ready,List.mem_filter,List.mem_range,Bool.and_eq_true,Bool.not_eq_true']
         refine ⟨hi,?_,?_⟩
         · simp only [Array.getD_eq_getD_getElem?,Array.getElem?_eq_getElem (show i < listed.size by omega)] at hd ⊢
           simpa using hd
         · rw [ho]
           simp only [Option.map_some,Option.getD_some,Array.all_eq_true_iff_forall_mem]
           intro e he
           by_cases hb:Region.binds .any e=true
           · have hj : e.on ∈ Zlz o := by
               simp only [Zlz,List.mem_map,List.mem_filter]
               exact ⟨e,⟨by simpa using he,hb⟩,rfl⟩
             have hlt:=Zur hc ho e.on hj
             rw [ih e.on hlt (by omega)]
             simp
           · simp [hb]
       rw [hr] at this
       cases this
 intro fuel
 induction fuel with
 | zero =>
   intro listed a g hl hI hpos hcnt
   have hall:∀ i,i < ops.size → listed.getD i false=true:=fun i hi=>by
     cases hd:listed.getD i false with
     | true=>rfl
     | false=>exact absurd (hpos i hi hd) (Nat.lt_irrefl 0)
   refine ⟨?_,hQ a g (Ztk hc hI hall (hfarL listed hl)) hI.base⟩
   refine List.eq_nil_iff_forall_not_mem.2 fun i hi=>?_
   obtain ⟨o,ho,h1,_⟩:=hready listed i hi hl
   rw [hall i (Array.getElem?_eq_some_iff.1 ho).1] at h1
   cases h1
 | succ fuel ih =>
   intro listed a g hl hI _ hcnt
   refine ⟨fun hr=>hQ a g (Ztk hc hI (hnil listed hl hr) (hfarL listed hl)) hI.base,fun i hi=>?_⟩
   obtain ⟨o,ho,h1,h2⟩:=hready listed i hi hl
   have hin:i < ops.size:=(Array.getElem?_eq_some_iff.1 ho).1
   refine Zv9 hc hT hI ho h1 h2 (hfarL listed hl) fun a' g' hI'=>?_
   have hset:(fun k=>(listed.setIfInBounds i true).getD k false)=(fun k=>k == i || listed.getD k false):=by
     funext k
     simp only [Array.getD_eq_getD_getElem?,Array.getElem?_setIfInBounds]
     by_cases hk:i=k
     · subst hk;simp [show i < listed.size by omega]
     · have:(k == i)=false:=by simpa using fun h=>hk h.symm
       simp [hk,this]
   have hcnt':((List.range ops.size).filter (fun k=>!(listed.setIfInBounds i true).getD k false)).length < ((List.range ops.size).filter (fun k=>!listed.getD k false)).length:=by
     have hsub:∀ (l:List Nat),l.Nodup → i ∈ l → (l.filter (fun k=>!(k == i || listed.getD k false))).length < (l.filter (fun k=>!listed.getD k false)).length:=by
       intro l
       induction l with
       | nil=>intro _ h;cases h
       | cons y ys ihl =>
         intro hn hm
         obtain ⟨hy,hn⟩:=List.nodup_cons.1 hn
         rcases List.mem_cons.1 hm with rfl | hm
         · have : ys.filter (fun k => !(k == i || listed.getD k false)) = ys.filter (fun k => !listed.getD k false) := by
             refine List.filter_congr fun k hk=>?_
             have:(k == i)=false:=by simp;rintro rfl;exact hy hk
             rw [this,Bool.false_or]
           simp only [List.filter_cons,beq_self_eq_true,Bool.true_or,Bool.not_true,Bool.false_eq_true,if_false,h1,Bool.not_false,if_true,List.length_cons,this]
           omega
         · have:=ihl hn hm
           have hyi:(y == i)=false:=by simp;rintro rfl;exact hy hm
           simp only [List.filter_cons,hyi,Bool.false_or]
           split <;> (try simp only [List.length_cons]) <;> omega
     have:=hsub (List.range ops.size) List.nodup_range (List.mem_range.2 hin)
     have e:(fun k=>!(listed.setIfInBounds i true).getD k false)=(fun k=>!(k == i || listed.getD k false)):=by
       funext k;exact congrArg _ (congrFun hset k)
     rw [e];exact this
   refine ih (listed.setIfInBounds i true) a' g' (by simpa using hl) (by rw [hset];exact hI') (fun k hk hd=>?_) (by omega)
   refine Nat.pos_of_ne_zero fun h0=>?_
   have:k ∈ (List.range ops.size).filter (fun k=>!(listed.setIfInBounds i true).getD k false):=by
     simp only [List.mem_filter,List.mem_range];exact ⟨hk,by rw [hd];rfl⟩
   have:=List.length_pos_of_mem this
   omega
theorem Zxx {F : List Ref} (hc : chk N ops L T F = true) {g0 : G} {Q : Exit → Act → World → Prop} (hT : Zin P ops N L T D g0 Q ops.toList T)
   (hQ:∀ a g,StD D N (F.map (Zeb L T)) a g → Base g0 g → Q .normal a g.w) :
   ∀ (m s:Nat) (a:Act) (g:G),s + m=ops.size → Inv D N L T g0 (fun i=>decide (i < s)) a g → wpOps P ops Q (List.range' s m) a g.w:=by
 intro m
 induction m with
 | zero =>
   intro s a g hs hI
   exact hQ a g (Ztk hc hI (fun i hi=>by simp;omega) (fun i hi=>by simp;omega)) hI.base
 | succ m ih =>
   intro s a g hs hI
   rw [List.range'_succ,wpOps_cons]
   obtain ⟨o,ho⟩:∃ o,ops[s]?=some o:=⟨ops[s],Array.getElem?_eq_getElem (by omega)⟩
   refine Zv9 hc hT hI ho (by simp) (fun j hj=>by simp;exact Zur hc ho j hj) (fun i hi=>by simp;omega) fun a' g' hI'=>?_
   refine ih (s + 1) a' g' (by omega) ?_
   have:(fun i=>decide (i < s + 1))=(fun i=>i == s || decide (i < s)):=by
     funext i
     by_cases h1:i=s
     · subst h1;simp
     · have:(i == s)=false:=by simpa using h1
       rw [this];simp;omega
   rw [this];exact hI'
theorem Zy8 {F : List Ref} {id : Nat} {draw : Bool} (hm : P.follows .mixedOrders = true) (hc : chk N ops L T F = true) {g0 : G} {Q : Exit → Act → World → Prop} (hT : Zin P ops N L T D g0 Q ops.toList T) {a : Act} {g : G} (h : StD D N L a g) (hb : Base g0 g)
   (hQ:∀ a g,StD D N (F.map (Zeb L T)) a g → Base g0 g → Q .normal a g.w):(Code.region id ops draw).wp P Q a g.w:=by
 cases draw with
 | false =>
   refine wp_region ?_
   rw [List.range_eq_range']
   refine Zxx hc hT hQ ops.size 0 a g (by omega) ?_
   have:(fun i=>decide (i < 0))=(fun _:Nat=>false):=by funext i;simp
   rw [this]
   exact Zup h hb
 | true =>
   refine wp_region_any hm ?_
   have hs:=Step.drew g
   refine Zz3 hc hT hQ ops.size (Array.replicate ops.size false) a g.drew (by simp) ?_ (fun i hi _=>by omega) (Nat.le_trans (List.length_filter_le _ _) (by simp))
   have:(fun i=>(Array.replicate ops.size false).getD i false)=(fun _:Nat=>false):=by
     funext i
     simp only [Array.getD_eq_getD_getElem?,Array.getElem?_replicate]
     split <;> rfl
   rw [this]
   exact Zup ⟨h.size,h.df,fun e he=>e.2.st hs (fun _ _ h=>by cases h) (h.h e he)⟩ (hb.step hs (by simp))
theorem Zms {F : List Ref} {id : Nat} {draw : Bool} (hm : P.follows .mixedOrders = true) (hc : chk N ops L T F = true) (hT : AllOT P ops N L T ops.toList T) {g0 : G} {a : Act} {g : G} (h : StD D N L a g) (hb : Base g0 g) {Q : Exit → Act → World → Prop}
   (hQ:∀ a g,StD D N (F.map (Zeb L T)) a g → Base g0 g → Q .normal a g.w):(Code.region id ops draw).wp P Q a g.w:=Zy8 hm hc hT.q h hb hQ
end
theorem Zg8 (b o n:Nat):(⟨b,o,none⟩:Addr).add n=⟨b,o + n,none⟩:=by
 unfold Addr.add
 split <;> simp_all
def Cell (g:G) (b o:Nat) (v:Value):Prop:=g.pr b o ∧ g.w.cell? ⟨b,o,none⟩=some v
theorem Cell.mono {g g':G} {b o:Nat} {v:Value} (h:g.le g') (c:Cell g b o v):Cell g' b o v:=⟨h.pr b o c.1,(h.cell b o c.1).trans c.2⟩
def CellsAt (g:G) (b o:Nat) (cs:List Value):Prop:=∀ j v,cs[j]?=some v → Cell g b (o + j) v
theorem CellsAt.mono {g g':G} {b o:Nat} {cs:List Value} (h:g.le g') (c:CellsAt g b o cs):CellsAt g' b o cs:=fun j v hj=>(c j v hj).mono h
def seg (cs:List Value) (o n:Nat):List Value:=(cs.drop o).take n
theorem CellsAt.seg {g:G} {b o:Nat} {cs:List Value} (c:CellsAt g b o cs) (k n:Nat):CellsAt g b (o + k) (seg cs k n):=by
 intro j v hj
 rw [Nat.add_assoc]
 refine c (k + j) v ?_
 simp only [CL.seg,List.getElem?_take,List.getElem?_drop] at hj
 split at hj
 · exact hj
 · cases hj
structure Kd (α:Type) where
 sz:Nat
 ag:Bool
 K:G → α → List Value → Prop
 len:∀ {g x cs},K g x cs → cs.length=sz
 one:∀ {g x cs},K g x cs → ∀ u ∈ cs,u.oneCell'=true
 mono:∀ {g g' x cs},g.le g' → K g x cs → K g' x cs
 nag:ag=false → sz=1
def mkV (ag:Bool) (cs:List Value):Value:=if ag then .agg cs.toArray else cs.headD undef
namespace Kd
variable {α β:Type}
def V (d:Kd α) (g:G) (x:α) (v:Value):Prop:=∃ cs,d.K g x cs ∧ v=mkV d.ag cs
def pd (d:Kd α) (x:α):Pd:=⟨fun g v=>d.V g x v,[],fun s _ h=>h.imp fun _ h=>⟨d.mono s.le h.1,h.2⟩⟩
def ptr (d:Kd α) (x:α):Pd:=⟨fun g v=>∃ b o cs,v=.pointer (some ⟨b,o,none⟩) ∧ d.K g x cs ∧ CellsAt g b o cs,[],fun s _ ⟨b,o,cs,e,h,c⟩=>⟨b,o,cs,e,d.mono s.le h,c.mono s.le⟩⟩
theorem cells_mkV {d:Kd α} {g:G} {x:α} {cs:List Value} (h:d.K g x cs):(mkV d.ag cs).cells=cs.toArray:=by
 unfold mkV
 split
 · rfl
 · rename_i hag
   have hl:=d.len h
   rw [d.nag (by simpa using hag)] at hl
   obtain ⟨u,rfl⟩:=List.length_eq_one_iff.1 hl
   have:=d.one h u (by simp)
   cases u <;> first | rfl | simp [Value.oneCell'] at this
def scalar (enc:α → Value) (h1:∀ x,(enc x).oneCell'=true):Kd α where
 sz:=1
 ag:=false
 K:=fun _ x cs=>cs=[enc x]
 len:=by rintro _ _ _ rfl;rfl
 one:=by
   rintro _ x _ rfl u hu
   rw [List.mem_singleton.1 hu];exact h1 x
 mono:=fun _ h=>h
 nag:=fun _=>rfl
theorem scalar_V {enc:α → Value} {h1:∀ x,(enc x).oneCell'=true} {g:G} {x:α} {v:Value}:(scalar enc h1).V g x v ↔ v=enc x:=by
 constructor
 · rintro ⟨cs,rfl,rfl⟩;rfl
 · rintro rfl;exact ⟨_,rfl,rfl⟩
def int (k:IntKind):Kd Int:=scalar (Value.int k) fun _=>rfl
def bool:Kd Bool:=scalar Value.bool fun _=>rfl
def str:Kd ByteArray:=scalar Value.string fun _=>rfl
def flt:Kd Nat:=scalar (Value.float .f64) fun _=>rfl
structure FK (α:Type) where
 β:Type
 d:Kd β
 off:Nat
 proj:α → β
def cover (fs:List (FK α)) (sz:Nat):Bool:=(List.range sz).all fun k=>fs.any fun f=>decide (f.off ≤ k) && decide (k < f.off + f.d.sz)
def struct (sz:Nat) (fs:List (FK α)) (hc:cover fs sz=true):Kd α where
 sz:=sz
 ag:=true
 K:=fun g x cs=>cs.length=sz ∧ ∀ f ∈ fs,f.d.K g (f.proj x) (seg cs f.off f.d.sz)
 len:=fun h=>h.1
 one:=by
   rintro g x cs ⟨hl,hf⟩ u hu
   obtain ⟨k,hk,rfl⟩:=List.getElem_of_mem hu
   have:=List.all_eq_true.1 hc k (List.mem_range.2 (by omega))
   obtain ⟨f,hfm,hr⟩:=List.any_eq_true.1 this
   simp only [Bool.and_eq_true,decide_eq_true_eq] at hr
   refine f.d.one (hf f hfm) _ ?_
   refine List.mem_of_getElem? (i:=k - f.off) ?_
   simp only [seg,List.getElem?_take,List.getElem?_drop]
   rw [if_pos (by omega),show f.off + (k - f.off)=k by omega,List.getElem?_eq_getElem hk]
 mono:=fun h hk=>⟨hk.1,fun f hf=>f.d.mono h (hk.2 f hf)⟩
 nag:=fun h=>by cases h
def Row (d:Kd α) (g:G) (A:Option Addr) (xs:List α):Prop:=xs=[] ∨ ∃ b o,A=some ⟨b,o,none⟩ ∧ ∀ i x,xs[i]?=some x → ∃ cs,d.K g x cs ∧ CellsAt g b (o + i * d.sz) cs
theorem Row.mono {d:Kd α} {g g':G} {A:Option Addr} {xs:List α} (h:g.le g') (r:d.Row g A xs):d.Row g' A xs:=by
 rcases r with r | ⟨b,o,e,hr⟩
 · exact .inl r
 · exact .inr ⟨b,o,e,fun i x hx=>by obtain ⟨cs,h1,h2⟩:=hr i x hx;exact ⟨cs,d.mono h h1,h2.mono h⟩⟩
def sl (d:Kd α):Kd (List α) where
 sz:=1
 ag:=false
 K:=fun g xs cs=>∃ A c,cs=[.slice A xs.length c] ∧ xs.length ≤ c ∧ xs.length ≤ 9223372036854775807 ∧ d.Row g A xs
 len:=by rintro _ _ _ ⟨A,c,rfl,_⟩;rfl
 one:=by
   rintro _ _ _ ⟨A,c,rfl,_⟩ u hu
   rw [List.mem_singleton.1 hu];rfl
 mono:=fun h ⟨A,c,e,h1,h2,r⟩=>⟨A,c,e,h1,h2,r.mono h⟩
 nag:=fun _=>rfl
theorem sl_V {d:Kd α} {g:G} {xs:List α} {v:Value}:d.sl.V g xs v ↔ ∃ A c,v=.slice A xs.length c ∧ xs.length ≤ c ∧ xs.length ≤ 9223372036854775807 ∧ d.Row g A xs:=by
 constructor
 · rintro ⟨_,⟨A,c,rfl,h⟩,rfl⟩;exact ⟨A,c,rfl,h⟩
 · rintro ⟨A,c,rfl,h⟩;exact ⟨_,⟨A,c,rfl,h⟩,rfl⟩
theorem sl_nil (d:Kd α) (g:G):d.sl.V g [] (.slice none 0 0):=sl_V.2 ⟨none,0,rfl,by simp,by simp,.inl rfl⟩
end Kd
abbrev pInt (k:IntKind) (x:Int):Pd:=(Kd.int k).pd x
abbrev pStr (s:ByteArray):Pd:=Kd.str.pd s
abbrev pFlt (x:Nat):Pd:=Kd.flt.pd x
def pEq (v:Value):Pd:=⟨fun _ u=>u=v,[],fun _ _ h=>h⟩
abbrev Z5 (b:Bool):Pd:=Kd.bool.pd b
theorem Zc9 {k:IntKind} {x:Int} {g:G} {v:Value}:(pInt k x).p g v ↔ v=.int k x:=Kd.scalar_V
theorem Zgt {b:Bool} {g:G} {v:Value}:(Z5 b).p g v ↔ v=.bool b:=Kd.scalar_V
theorem Zcz {s:ByteArray} {g:G} {v:Value}:(pStr s).p g v ↔ v=.string s:=Kd.scalar_V
theorem Zks {x:Nat} {g:G} {v:Value}:(pFlt x).p g v ↔ v=.float .f64 x:=Kd.scalar_V
theorem gT (c:Bool):(c=true → ∀ g v,(Z5 c).p g v → v=.bool true) ∧ (c=false → ∀ g v,(Z5 c).p g v → v ≠ .bool true) :=
 ⟨fun h g v hv=>(by rw [Zgt.1 hv,h]),fun h g v hv=>(by rw [Zgt.1 hv,h];simp)⟩
theorem gF (c:Bool):((!c)=true → ∀ g v,(Z5 c).p g v → v=.bool false) ∧ ((!c)=false → ∀ g v,(Z5 c).p g v → v ≠ .bool false):=by
 cases c
 · exact ⟨fun _ g v hv=>Zgt.1 hv,fun h=>(by cases h)⟩
 · exact ⟨fun h=>(by cases h),fun _ g v hv=>(by rw [Zgt.1 hv];simp)⟩
theorem giT (b c:Bool):((b && c)=true → ∀ g v,(pIf b (Z5 c)).p g v → v=.bool true) ∧ ((b && c)=false → ∀ g v,(pIf b (Z5 c)).p g v → v ≠ .bool true):=by
 cases b
 · exact ⟨fun h=>(by cases h),fun _ g v hv=>(by rw [hv.2 rfl];simp [undef])⟩
 · exact ⟨fun h g v hv=>(gT c).1 h g v (hv.1 rfl),fun h g v hv=>(gT c).2 h g v (hv.1 rfl)⟩
theorem giF (b c:Bool):((b && !c)=true → ∀ g v,(pIf b (Z5 c)).p g v → v=.bool false) ∧ ((b && !c)=false → ∀ g v,(pIf b (Z5 c)).p g v → v ≠ .bool false):=by
 cases b
 · exact ⟨fun h=>(by cases h),fun _ g v hv=>(by rw [hv.2 rfl];simp [undef])⟩
 · exact ⟨fun h g v hv=>(gF c).1 h g v (hv.1 rfl),fun h g v hv=>(gF c).2 h g v (hv.1 rfl)⟩
def pTup (l:List Pd):Pd:=⟨fun g v=>∃ vs:List Value,v=.tuple vs.toArray ∧ vs.length=l.length ∧ ∀ i (q:Pd) u,l[i]?=some q → vs[i]?=some u → q.p g u,l.flatMap (·.fp),fun {S g g' v} s d ⟨vs,e,hl,h⟩=>⟨vs,e,hl,fun i (q:Pd) u hq hu=>q.st s (fun j hj=>d j (List.mem_flatMap.2 ⟨q,List.mem_of_getElem? hq,hj⟩)) (h i q u hq hu)⟩⟩
structure Ty (P:Program) (t:TypeId) {α:Type} (d:Kd α):Prop where
 sz:(P.info? t).map (·.size)=some d.sz
 ag:(P.underlying t).map (fun u=>match u with | .struct _ | .array _ _=>true | _=>false)=some d.ag
structure Fld (P:Program) (s:TypeId) (i:Nat) {α β:Type} (d:Kd α) (di:Kd β) (proj:α → β):Prop where
 look:∃ fs f,P.underlying s=some (.struct fs) ∧ fs[i]?=some f ∧ (P.info? f.type).map (·.size)=some di.sz ∧ (P.underlying f.type).map (fun u=>match u with | .struct _ | .array _ _=>true | _=>false)=some di.ag ∧ di.sz ≠ 0 ∧
   (∀ g x cs,d.K g x cs → di.K g (proj x) (seg cs f.offset di.sz)) ∧ d.ag=true
theorem Fld.of {P : Program} {s : TypeId} {i : Nat} {α : Type} {sz : Nat} {fs : List (Kd.FK α)} {hc : Kd.cover fs sz = true} (f : Kd.FK α) (hf : f ∈ fs) (off : Nat) (ho : f.off = off)
   (h:(match P.underlying s with | some (.struct F)=>(F[i]?).bind (fun x=>(P.info? x.type).bind fun y=>(P.underlying x.type).map fun u=>(x.offset,y.size,match u with | .struct _ | .array _ _=>true | _=>false)) | _=>none)=some (off,f.d.sz,f.d.ag)) (h0:f.d.sz ≠ 0) :
   Fld P s i (Kd.struct sz fs hc) f.d f.proj:=by
 subst ho
 cases hu:P.underlying s with
 | none=>rw [hu] at h;cases h
 | some u =>
   rw [hu] at h
   cases u <;> try (cases h;done)
   rename_i F
   cases hi:F[i]? with
   | none=>simp [hi] at h
   | some x =>
     cases hy:P.info? x.type with
     | none=>simp [hi,hy] at h
     | some y =>
       cases hv:P.underlying x.type with
       | none=>simp [hi,hy,hv] at h
       | some v =>
         simp only [hi,hy,hv,Option.bind_some,Option.map_some,Option.some.injEq,Prod.mk.injEq] at h
         refine ⟨F,x,hu,hi,by rw [hy];simp [h.2.1],by rw [hv];simp [h.2.2],h0,?_,rfl⟩
         rintro g z cs ⟨_,hk⟩
         rw [h.1]
         exact hk f hf
section
variable {P:Program} {N:Nat} {o:Oper} {uses:Z4} {d:Nat} {q q':Pd} {x y z:Operand}
def Opd (uses:Z4) (x:Operand) (q:Pd):Prop:=∀ (a:Act) g,Zdq uses a g → q.p g (a.eval x)
theorem Opd.t0 {s:Nat} {u:Z4}:Opd ((s,q) :: u) (.tmp s) q:=fun _ _ h=>h (s,q) (by simp)
theorem Opd.tl {u:Z4} {e:Nat × Pd} (h:Opd u x q):Opd (e :: u) x q:=fun a g hh=>h a g fun e he=>hh e (List.mem_cons_of_mem _ he)
theorem Opd.c {v:Value} (h:∀ g,q.p g v):Opd uses (.const v) q:=fun _ g _=>h g
theorem Opd.fn {f:Nat}:Opd uses (.func f) (pEq (.func (.func f) #[] #[])):=fun _ _ _=>rfl
theorem Opd.imp (h:Opd uses x q) (hi:∀ g v,q.p g v → q'.p g v):Opd uses x q':=fun a g hh=>hi _ _ (h a g hh)
theorem Zke {S:List Nat} (hd:o.dst=some d) (h:∀ (a:Act) g,Zdq uses a g → ∃ v g',(execOp a.eval o).run P g.w=.ok (.value v) g'.w ∧ Step S g g' ∧ q.p g' v):OB P N o uses [(d,q)] S:=by
 intro a g K Q hN hdN hu hK
 obtain ⟨v,g',hr,hs,hq⟩:=h a g hu
 unfold Oper.wp
 rw [hr]
 refine hK v g' hs fun e he=>?_
 rw [List.mem_singleton.1 he]
 rw [hd,Zfy v (by rw [hN];exact hdN d hd)]
 exact hq
theorem Zce (hd:o.dst=some d) (h:∀ (a:Act) g,Zdq uses a g → ∃ v,(execOp a.eval o).run P g.w=.ok (.value v) g.w ∧ q.p g v):OB P N o uses [(d,q)] [] :=
 Zke hd fun a g hh=>let ⟨v,hr,hq⟩:=h a g hh;⟨v,g,hr,.refl _ _,hq⟩
theorem OB.weak {outs outs':Z4} {S:List Nat} (h:OB P N o uses outs S) (hw:∀ g (a:Act),Zdq outs a g → Zdq outs' a g):OB P N o uses outs' S :=
 fun a g K Q hN hdN hu hK=>h a g K Q hN hdN hu fun v g' hs ho=>hK v g' hs (hw g' _ ho)
theorem OB.any {outs:Z4} {S:List Nat} (h:OB P N o uses outs S):OB P N o uses [] S:=h.weak fun _ _ _ _ he=>by cases he
theorem Zq (hop:o.op=.move x) (hd:o.dst=some d) (hx:Opd uses x q):OB P N o uses [(d,q)] [] :=
 Zce hd fun a g hh=>⟨a.eval x,by simp [execOp,hop],hx a g hh⟩
theorem Zd (hop:o.op=.assign x) (hd:o.dst=some d) (hx:Opd uses x q):OB P N o uses [(d,q)] [] :=
 Zce hd fun a g hh=>⟨a.eval x,by simp [execOp,hop],hx a g hh⟩
theorem Zym {c:Bool} (hop:o.op=.pick x y z) (hd:o.dst=some d) (hx:Opd uses x (Z5 c)) (hy:c=true → Opd uses y q) (hz:c=false → Opd uses z q):OB P N o uses [(d,q)] [] :=
 Zce hd fun a g hh=>by
   have h1:=Zgt.1 (hx a g hh)
   cases c with
   | true=>exact ⟨_,by simp [execOp,hop,h1,asBool],hy rfl a g hh⟩
   | false=>exact ⟨_,by simp [execOp,hop,h1,asBool],hz rfl a g hh⟩
theorem Z56 (w:World) {op:BinOp} {t ty:TypeId} {k:IntKind} {m n:Int} (a:Act) (hop:o.op=.binOp op t x y ty) (h1:a.eval x=.int k m) (h2:a.eval y=.int k n) {v:Value} (h:(binOp op t (.int k m) (.int k n)).run P w=.ok v w):(execOp a.eval o).run P w=.ok (.value v) w:=by
 have hg:(eqGuard op t x y (.int k m) (.int k n)).run P w=.ok () w:=by
   unfold eqGuard
   split <;> rfl
 simp [execOp,hop,h1,h2,hg,h]
theorem Zhk {op:BinOp} {t ty:TypeId} {k:IntKind} {m n:Int} {v:Value} (hop:o.op=.binOp op t x y ty) (hd:o.dst=some d) (hx:Opd uses x (pInt k m)) (hy:Opd uses y (pInt k n)) (h:∀ w,(binOp op t (.int k m) (.int k n)).run P w=.ok v w) (hq:∀ g,q.p g v):OB P N o uses [(d,q)] [] :=
 Zce hd fun a g hh=>⟨v,Z56 g.w a hop (Zc9.1 (hx a g hh)) (Zc9.1 (hy a g hh)) (h g.w),hq g⟩
theorem Zec (b:Bool) (g:G):(Z5 b).p g (.bool b):=Zgt.2 rfl
theorem Zhv (k:IntKind) (n:Int) (g:G):(pInt k n).p g (.int k n):=Zc9.2 rfl
theorem Zco {t ty:TypeId} {k:IntKind} {m n:Int} (hop:o.op=.binOp .lss t x y ty) (hd:o.dst=some d) (hx:Opd uses x (pInt k m)) (hy:Opd uses y (pInt k n)):OB P N o uses [(d,Z5 (decide (m < n)))] [] :=
 Zhk hop hd hx hy (fun w=>by simp [binOp,Op.intCmp]) (Zec _)
theorem Zhg {t ty:TypeId} {k:IntKind} {m n:Int} (hop:o.op=.binOp .leq t x y ty) (hd:o.dst=some d) (hx:Opd uses x (pInt k m)) (hy:Opd uses y (pInt k n)):OB P N o uses [(d,Z5 (decide (m ≤ n)))] [] :=
 Zhk hop hd hx hy (fun w=>by simp [binOp,Op.intCmp]) (Zec _)
theorem Zcl {t ty:TypeId} {k:IntKind} {m n:Int} (hop:o.op=.binOp .gtr t x y ty) (hd:o.dst=some d) (hx:Opd uses x (pInt k m)) (hy:Opd uses y (pInt k n)):OB P N o uses [(d,Z5 (decide (n < m)))] [] :=
 Zhk hop hd hx hy (fun w=>by simp [binOp,Op.intCmp]) (Zec _)
theorem Zhd {t ty:TypeId} {k:IntKind} {m n:Int} (hop:o.op=.binOp .geq t x y ty) (hd:o.dst=some d) (hx:Opd uses x (pInt k m)) (hy:Opd uses y (pInt k n)):OB P N o uses [(d,Z5 (decide (n ≤ m)))] [] :=
 Zhk hop hd hx hy (fun w=>by simp [binOp,Op.intCmp]) (Zec _)
theorem Zbk {t ty:TypeId} {k:IntKind} {m n:Int} (hop:o.op=.binOp .eql t x y ty) (hd:o.dst=some d) (hx:Opd uses x (pInt k m)) (hy:Opd uses y (pInt k n)):OB P N o uses [(d,Z5 (m == n))] [] :=
 Zhk hop hd hx hy (fun w=>by simp [binOp,Op.intCmp]) (Zec _)
theorem Zcw {t ty:TypeId} {k:IntKind} {m n:Int} (hop:o.op=.binOp .neq t x y ty) (hd:o.dst=some d) (hx:Opd uses x (pInt k m)) (hy:Opd uses y (pInt k n)):OB P N o uses [(d,Z5 (m != n))] [] :=
 Zhk hop hd hx hy (fun w=>by simp [binOp,Op.intCmp]) (Zec _)
theorem Zb6 {t ty:TypeId} {k:IntKind} {m n c:Int} (hop:o.op=.binOp .add t x y ty) (hd:o.dst=some d) (hx:Opd uses x (pInt k m)) (hy:Opd uses y (pInt k n)) (hc:k.wrap (m + n)=c):OB P N o uses [(d,pInt k c)] [] :=
 Zhk hop hd hx hy (fun w=>by simp [binOp,Op.intArith,hc]) (Zhv _ _)
theorem Zjw {t ty:TypeId} {k:IntKind} {m n c:Int} (hop:o.op=.binOp .sub t x y ty) (hd:o.dst=some d) (hx:Opd uses x (pInt k m)) (hy:Opd uses y (pInt k n)) (hc:k.wrap (m - n)=c):OB P N o uses [(d,pInt k c)] [] :=
 Zhk hop hd hx hy (fun w=>by simp [binOp,Op.intArith,hc]) (Zhv _ _)
theorem Zsh {t ty:TypeId} {k:IntKind} {m n c:Int} (hop:o.op=.binOp .mul t x y ty) (hd:o.dst=some d) (hx:Opd uses x (pInt k m)) (hy:Opd uses y (pInt k n)) (hc:k.wrap (m * n)=c):OB P N o uses [(d,pInt k c)] [] :=
 Zhk hop hd hx hy (fun w=>by simp [binOp,Op.intArith,hc]) (Zhv _ _)
theorem Zcg {t:TypeId} {b:Bool} (hop:o.op=.unOp .not t x) (hd:o.dst=some d) (hx:Opd uses x (Z5 b)):OB P N o uses [(d,Z5 (!b))] [] :=
 Zce hd fun a g hh=>⟨.bool (!b),by simp [execOp,hop,Zgt.1 (hx a g hh),Op.unary],Zec _ g⟩
theorem Z6r {t:TypeId} {k:IntKind} {n c:Int} (hop:o.op=.unOp .neg t x) (hd:o.dst=some d) (hx:Opd uses x (pInt k n)) (hc:k.wrap (0 - n)=c):OB P N o uses [(d,pInt k c)] [] :=
 Zce hd fun a g hh=>⟨.int k c,by simp [execOp,hop,Zc9.1 (hx a g hh),Op.unary,Op.intArith];simpa using hc,Zhv _ _ g⟩
theorem Zof {s t:TypeId} {k k':IntKind} {n c:Int} {u:TypeDesc} (hs:P.underlying s=some u) (ht:P.underlying t=some (.int k')) (hop:o.op=.convert s t x) (hd:o.dst=some d) (hx:Opd uses x (pInt k n)) (hc:k'.wrap n=c):OB P N o uses [(d,pInt k' c)] [] :=
 Zce hd fun a g hh=>⟨.int k' c,by
   have h1:=run_underlying hs g.w
   have h2:=run_underlying ht g.w
   cases u <;> simp [execOp,hop,Zc9.1 (hx a g hh),convert,h1,h2,Conv.intToInt,hc],Zhv _ _ g⟩
theorem Z2s (w:World) {op:BinOp} {t ty:TypeId} {m n:ByteArray} (a:Act) (hop:o.op=.binOp op t x y ty) (h1:a.eval x=.string m) (h2:a.eval y=.string n) {v:Value} (h:(Op.stringOp op m n).run P w=.ok v w):(execOp a.eval o).run P w=.ok (.value v) w:=by
 have hg:(eqGuard op t x y (.string m) (.string n)).run P w=.ok () w:=by
   unfold eqGuard
   split <;> rfl
 simp [execOp,hop,h1,h2,hg,binOp,h]
theorem Zob {op:BinOp} {t ty:TypeId} {m n:ByteArray} {v:Value} (hop:o.op=.binOp op t x y ty) (hd:o.dst=some d) (hx:Opd uses x (pStr m)) (hy:Opd uses y (pStr n)) (h:∀ w,(Op.stringOp op m n).run P w=.ok v w) (hq:∀ g,q.p g v):OB P N o uses [(d,q)] [] :=
 Zce hd fun a g hh=>⟨v,Z2s g.w a hop (Zcz.1 (hx a g hh)) (Zcz.1 (hy a g hh)) (h g.w),hq g⟩
def sEq (a b:ByteArray):Bool:=a.toList == b.toList
def sLt (a b:ByteArray):Bool:=Op.bytesLess a.toList b.toList
theorem Zir {t ty:TypeId} {m n:ByteArray} (hop:o.op=.binOp .eql t x y ty) (hd:o.dst=some d) (hx:Opd uses x (pStr m)) (hy:Opd uses y (pStr n)):OB P N o uses [(d,Z5 (sEq m n))] [] :=
 Zob hop hd hx hy (fun w=>rfl) (Zec _)
theorem Zkl {t ty:TypeId} {m n:ByteArray} (hop:o.op=.binOp .neq t x y ty) (hd:o.dst=some d) (hx:Opd uses x (pStr m)) (hy:Opd uses y (pStr n)):OB P N o uses [(d,Z5 (!sEq m n))] [] :=
 Zob hop hd hx hy (fun w=>rfl) (Zec _)
theorem Zos {t ty:TypeId} {m n:ByteArray} (hop:o.op=.binOp .lss t x y ty) (hd:o.dst=some d) (hx:Opd uses x (pStr m)) (hy:Opd uses y (pStr n)):OB P N o uses [(d,Z5 (sLt m n))] [] :=
 Zob hop hd hx hy (fun w=>rfl) (Zec _)
theorem Z1k {t ty:TypeId} {m n:ByteArray} (hop:o.op=.binOp .gtr t x y ty) (hd:o.dst=some d) (hx:Opd uses x (pStr m)) (hy:Opd uses y (pStr n)):OB P N o uses [(d,Z5 (!(sLt m n || sEq m n)))] [] :=
 Zob hop hd hx hy (fun w=>rfl) (Zec _)
theorem Z62 {t ty:TypeId} {m n:ByteArray} (hop:o.op=.binOp .geq t x y ty) (hd:o.dst=some d) (hx:Opd uses x (pStr m)) (hy:Opd uses y (pStr n)):OB P N o uses [(d,Z5 (!sLt m n))] [] :=
 Zob hop hd hx hy (fun w=>rfl) (Zec _)
theorem Zhb {t ty:TypeId} {m n:ByteArray} (hop:o.op=.binOp .add t x y ty) (hd:o.dst=some d) (hx:Opd uses x (pStr m)) (hy:Opd uses y (pStr n)) (hl:m.size + n.size ≤ 9223372036854775807):OB P N o uses [(d,pStr (m ++ n))] [] :=
 Zob hop hd hx hy (fun w=>by
   have:¬ (((m.size + n.size:Nat):Int) > IntKind.i64.max):=by
     have:IntKind.i64.max=9223372036854775807:=by decide
     omega
   simp only [Op.stringOp,if_neg this];rfl) (fun _=>Zcz.2 rfl)
theorem Zdc {t:TypeId} {s:ByteArray} (ht:P.underlying t=some .string) (hop:o.op=.call { callee:=.builtin .len,args:=#[x],argTypes:=#[t] }) (hd:o.dst=some d) (hx:Opd uses x (pStr s)):OB P N o uses [(d,pInt .i64 s.size)] [] :=
 Zce hd fun a g hh=>⟨.int .i64 s.size,by
   simp [execOp,hop,resolve,invoke,builtin,Builtin.len_,run_underlying ht,Zcz.1 (hx a g hh),goInt],Zhv _ _ g⟩
theorem Zcc {α:Type} {dk:Kd α} {t e:TypeId} {xs:List α} (ht:P.underlying t=some (.slice e)) (hop:o.op=.call { callee:=.builtin .len,args:=#[x],argTypes:=#[t] }) (hd:o.dst=some d) (hx:Opd uses x (dk.sl.pd xs)):OB P N o uses [(d,pInt .i64 xs.length)] [] :=
 Zce hd fun a g hh=>by
   obtain ⟨A,c,hv,_⟩:=Kd.sl_V.1 (hx a g hh)
   exact ⟨.int .i64 xs.length,by simp [execOp,hop,resolve,invoke,builtin,Builtin.len_,run_underlying ht,hv,goInt],Zhv _ _ g⟩
section
variable {α β:Type} {dk:Kd α} {di:Kd β} {v:α} {proj:α → β} {t:TypeId}
theorem Zuk {P:Program} {t:TypeId} {b:Bool} (h:(P.underlying t).map (fun u=>match u with | .struct _ | .array _ _=>true | _=>false)=some b) (w:World):(isAgg t).run P w=.ok b w:=by
 cases hu:P.underlying t with
 | none=>rw [hu] at h;cases h
 | some u =>
   rw [hu] at h
   simp only [isAgg,Sem.run_bind,run_underlying hu,Result.andThen_ok]
   cases u <;> simp_all
theorem Zi0 {P:Program} {t:TypeId} {n:Nat} (h:(P.info? t).map (·.size)=some n) (w:World):(sizeOf t).run P w=.ok n w:=by
 obtain ⟨i,hi,rfl⟩:=Option.map_eq_some_iff.1 h
 simp [sizeOf,typeInfo,hi]
theorem Zkk (hT:Ty P t dk) {g:G} {b of:Nat} {cs:List Value} (hk:dk.K g v cs) (hc:∀ j u,cs[j]?=some u → g.w.cell? ⟨b,of + j,none⟩=some u):(loadVar t ⟨b,of,none⟩).run P g.w=.ok (mkV dk.ag cs) g.w:=by
 have hl:=dk.len hk
 have hcell:∀ j u,cs[j]?=some u → g.w.cell? ((⟨b,of,none⟩:Addr).add j)=some u:=fun j u hj=>by rw [Zg8];exact hc j u hj
 simp only [loadVar,Sem.run_bind,Zuk hT.ag,Result.andThen_ok,Sem.run_ite]
 cases hag:dk.ag with
 | true =>
   have h:=run_loadCells_list (P:=P) (w:=g.w) ⟨b,of,none⟩ cs hcell
   rw [hl] at h
   simp [Zi0 hT.sz,h,mkV]
 | false =>
   rw [dk.nag hag] at hl
   obtain ⟨u,rfl⟩:=List.length_eq_one_iff.1 hl
   have:=hcell 0 u (by simp)
   rw [Zg8] at this
   simp only [Nat.add_zero] at this
   simp [this,mkV]
theorem Zs (hT:Ty P t dk) (hop:o.op=.load t x) (hd:o.dst=some d) (hx:Opd uses x (dk.ptr v)):OB P N o uses [(d,dk.pd v)] [] :=
 Zce hd fun a g hh=>by
   obtain ⟨b,of,cs,hv,hk,hc⟩:=hx a g hh
   exact ⟨mkV dk.ag cs,by simp [execOp,hop,hv,Instr.loadAt,Instr.sureAddr,Zkk hT hk (fun j u hj=>(hc j u hj).2)],cs,hk,rfl⟩
theorem Zlo {f:Field} {n:Nat} (hs:(P.info? f.type).map (·.size)=some n) (h0:n ≠ 0) (b of:Nat) (w:World):(fieldPlace ⟨b,of,none⟩ f).run P w=.ok ⟨b,of + f.offset,none⟩ w:=by
 simp [fieldPlace,Zi0 hs,h0,Zg8]
theorem Zi {s i:Nat} (hF:Fld P s i dk di proj) (hop:o.op=.fieldAddr s x i) (hd:o.dst=some d) (hx:Opd uses x (dk.ptr v)):OB P N o uses [(d,di.ptr (proj v))] [] :=
 Zce hd fun a g hh=>by
   obtain ⟨b,of,cs,hv,hk,hc⟩:=hx a g hh
   obtain ⟨fs,f,hu,hi,hsz,hag,h0,hK,_⟩:=hF.look
   exact ⟨.pointer (some ⟨b,of + f.offset,none⟩),by simp [execOp,hop,hv,Instr.fieldAt,Instr.sureAddr,run_underlying hu,hi,Zlo hsz h0],b,of + f.offset,_,rfl,hK g v cs hk,hc.seg _ _⟩
theorem Zxc {s i:Nat} (hF:Fld P s i dk di proj) (hop:o.op=.field s x i) (hd:o.dst=some d) (hx:Opd uses x (dk.pd v)):OB P N o uses [(d,di.pd (proj v))] [] :=
 Zce hd fun a g hh=>by
   obtain ⟨cs,hk,hv⟩:=hx a g hh
   obtain ⟨fs,f,hu,hi,hsz,hag,h0,hK,hda⟩:=hF.look
   have hk':=hK g v cs hk
   have hl:=di.len hk'
   rw [hda] at hv
   refine ⟨mkV di.ag (seg cs f.offset di.sz),?_,_,hk',rfl⟩
   have hv':a.eval x=.agg cs.toArray:=hv
   have hp:(part f.type cs.toArray f.offset).run P g.w=.ok (mkV di.ag (seg cs f.offset di.sz)) g.w:=by
     simp only [part,Sem.run_bind,Zuk hag,Result.andThen_ok,Sem.run_ite]
     cases hg:di.ag with
     | true =>
       simp only [if_true,Sem.run_bind,Zi0 hsz,Result.andThen_ok,Sem.run_pure]
       congr 1
       simp only [mkV,if_true,seg]
       congr 1
       apply Array.ext'
       simp
     | false =>
       simp only [Bool.false_eq_true,if_false]
       rw [di.nag hg] at hl ⊢
       have:(seg cs f.offset 1)=[(seg cs f.offset 1).headD undef]:=by
         obtain ⟨u,hu⟩:=List.length_eq_one_iff.1 hl
         rw [hu];rfl
       have h1:cs[f.offset]?=some ((seg cs f.offset 1).headD undef):=by
         have h2:(seg cs f.offset 1)[0]?=some ((seg cs f.offset 1).headD undef):=by rw [this];rfl
         simpa [seg,List.getElem?_take,List.getElem?_drop] using h2
       simp [h1,mkV]
   simp [execOp,hop,hv',Instr.field,run_underlying hu,hi,asAgg,hp]
def idx (xs:List α) (n:Int):Option α:=if 0 ≤ n then xs[n.toNat]? else none
theorem Zbz {t e:TypeId} {k:IntKind} {xs:List α} {n:Int} {y:α} {ix:Operand} (ht:P.underlying t=some (.slice e)) (hs:(P.info? e).map (·.size)=some dk.sz) (hop:o.op=.indexAddr t x ix) (hd:o.dst=some d) (hx:Opd uses x (dk.sl.pd xs)) (hi:Opd uses ix (pInt k n)) (h:idx xs n=some y):OB P N o uses [(d,dk.ptr y)] [] :=
 Zce hd fun a g hh=>by
   obtain ⟨A,c,hv,_,_,hr⟩:=Kd.sl_V.1 (hx a g hh)
   have hn:=Zc9.1 (hi a g hh)
   unfold idx at h
   split at h
   · rename_i h0
     have hlt:=(List.getElem?_eq_some_iff.1 h).1
     rcases hr with rfl | ⟨b,of,rfl,hr⟩
     · simp at h
     · obtain ⟨cs,hk,hc⟩:=hr _ _ h
       have hb:0 ≤ n ∧ n < (xs.length:Int):=⟨h0,by omega⟩
       exact ⟨.pointer (some ⟨b,of + n.toNat * dk.sz,none⟩),by simp [execOp,hop,hv,hn,Instr.indexAt,asIntOf,run_underlying ht,hb,Zi0 hs,Zg8],b,_,cs,rfl,hk,hc⟩
   · cases h
theorem Z6 (hop:o.op=.nilCheck x) (hd:o.dst=some d) (hx:Opd uses x q) (hq:∀ g v,q.p g v → ∃ A,v=.pointer (some A)):OB P N o uses [(d,q)] [] :=
 Zce hd fun a g hh=>by
   obtain ⟨A,hA⟩:=hq g _ (hx a g hh)
   exact ⟨a.eval x,by simp [execOp,hop,hA],hx a g hh⟩
theorem Zz {l:List Pd} {i:Nat} (hop:o.op=.extract x i) (hd:o.dst=some d) (hx:Opd uses x (pTup l)) (hi:l[i]?=some q):OB P N o uses [(d,q)] [] :=
 Zce hd fun a g hh=>by
   obtain ⟨vs,hv,hl,h⟩:=hx a g hh
   have hlt:=(List.getElem?_eq_some_iff.1 hi).1
   have:vs[i]?=some vs[i]:=List.getElem?_eq_getElem (by omega)
   exact ⟨vs[i],by simp [execOp,hop,hv,Instr.extract,this],h i q _ hi this⟩
end
end
section
variable {P:Program} {N:Nat} {o:Oper} {uses:Z4} {d:Nat} {q q':Pd} {x y z:Operand}
variable {α β:Type} {dk:Kd α} {di:Kd β} {zs:List Value} {t:TypeId}
theorem Zkb (w:World) (ob:Obj):(w.alloc ob).heap.size=w.heap.size + 1:=Array.size_push _
theorem Znk (w:World) (ob:Obj):(w.alloc ob).heap[w.heap.size]?=some ob:=by show (w.heap.push ob)[w.heap.size]?=_;simp
theorem Zkx (w:World) (ob:Obj) {b:Nat} (h:b < w.heap.size):(w.alloc ob).heap[b]?=w.heap[b]?:=by
 show (w.heap.push ob)[b]?=_
 rw [Array.getElem?_push,if_neg (Nat.ne_of_lt h)]
theorem Zf0 {w w':World} {b o:Nat} (h:w'.heap[b]?=w.heap[b]?):w'.cell? ⟨b,o,none⟩=w.cell? ⟨b,o,none⟩:=by simp [World.cell?,h]
def G.push (g:G) (c:Array Value) (t:TypeId) (P':Nat → Prop) (j:Nat):G where
 w:=g.w.alloc (.cells c t)
 pr:=fun b o=>if b=g.w.heap.size then P' o else g.pr b o
 own:=fun b=>if b=g.w.heap.size then j else if g.own b=j then 0 else g.own b
 hpr:=fun b o h=>by
   have hs:(g.w.alloc (.cells c t)).heap.size=g.w.heap.size + 1:=Array.size_push _
   split at h
   · omega
   · have:=g.hpr b o h;omega
 gl:=g.gl.le (fun b o h=>by have:=g.hpr b o h;rw [if_neg (by omega)];exact h) (fun b o h=>Zf0 (Zkx g.w _ (g.hpr b o h)))
theorem Zit (g:G) (c:Array Value) (t:TypeId) (P':Nat → Prop) (j:Nat):(g.push c t P' j).w=g.w.alloc (.cells c t):=rfl
theorem Zoa (g:G) (c:Array Value) (t:TypeId) (P':Nat → Prop) (j:Nat):g.le (g.push c t P' j) where
 size:=by rw [Zit,Zkb];omega
 pr:=fun b o h=>by
   have:=g.hpr b o h
   simp only [G.push]
   rw [if_neg (by omega)];exact h
 cell:=fun b o h=>Zf0 (Zkx g.w _ (g.hpr b o h))
 blk:=fun b h=>Zkx g.w _ (g.hpr b 0 (h 0))
theorem Zo9 (g:G) (c:Array Value) (t:TypeId) (P':Nat → Prop):Step [] g (g.push c t P' 0) where
 le:=Zoa ..
 os:=rfl
 tape:=rfl
 output:=rfl
 same:=fun b hb _=>⟨Zkx g.w _ hb,by simp only [G.push];funext o;rw [if_neg (by omega)],by simp only [G.push];rw [if_neg (by omega)];split <;> simp_all⟩
 new:=fun b h1 h2=>by
   rw [Zit,Zkb] at h2
   have:b=g.w.heap.size:=by omega
   left;simp [G.push,this]
 old:=fun _ _ h=>by cases h
theorem Zny (g:G) (c:Array Value) (t:TypeId) (P':Nat → Prop) (j:Nat):Step [j] g (g.push c t P' j) where
 le:=Zoa ..
 os:=rfl
 tape:=rfl
 output:=rfl
 same:=fun b hb hj=>⟨Zkx g.w _ hb,by simp only [G.push];funext o;rw [if_neg (by omega)],by simp only [G.push];rw [if_neg (by omega),if_neg (by simpa using hj)]⟩
 new:=fun b h1 h2=>by
   rw [Zit,Zkb] at h2
   have:b=g.w.heap.size:=by omega
   right;simp [G.push,this]
 old:=fun b hb h=>by
   left
   have:g.own b=j:=by simpa using h
   simp only [G.push];rw [if_neg (by omega),if_pos this]
theorem Zoz (g:G) (cs:List Value) (t:TypeId) (j:Nat):CellsAt (g.push cs.toArray t (fun _=>True) j) g.w.heap.size 0 cs:=by
 intro i v hv
 refine ⟨by simp [G.push],?_⟩
 rw [Zit]
 simp only [World.cell?,Znk,Nat.zero_add]
 simpa using hv
theorem Zbt {t:TypeId} {v:α} (hop:o.op=.box t x) (hd:o.dst=some d) (hx:Opd uses x (dk.pd v)):OB P N o uses [(d,dk.ptr v)] [] :=
 Zke hd fun a g hh=>by
   obtain ⟨cs,hk,hv⟩:=hx a g hh
   refine ⟨.pointer (some ⟨g.w.heap.size,0,none⟩),g.push cs.toArray t (fun _=>True) 0,?_,Zo9 ..,g.w.heap.size,0,cs,rfl,dk.mono (Zoa ..) hk,Zoz _ _ _ _⟩
   have:(a.eval x).cells=cs.toArray:=by rw [hv];exact Kd.cells_mkV hk
   simp [execOp,hop,Instr.box,newVar,newRow,this,Zit]
def Mine (dk:Kd α) (j:Nat) (v:α) (g:G) (b:Nat) (cs:List Value) (t:TypeId):Prop :=
 b < g.w.heap.size ∧ g.own b=j ∧ (∀ b',b' < g.w.heap.size → g.own b'=j → b'=b) ∧ g.w.heap[b]?=some (.cells cs.toArray t (0,0)) ∧ dk.K g v cs ∧ ∀ o,¬ g.pr b o
theorem Mine.st {j:Nat} {v:α} {g g':G} {b:Nat} {cs:List Value} {t:TypeId} {S:List Nat} (hs:Step S g g') (hj:j ∉ S) (hj0:j ≠ 0) (h:Mine dk j v g b cs t):Mine dk j v g' b cs t:=by
 obtain ⟨h1,h2,h3,h4,h5,h6⟩:=h
 obtain ⟨k1,k2,k3⟩:=hs.same b h1 (by rw [h2];exact hj)
 refine ⟨Nat.lt_of_lt_of_le h1 hs.le.size,k3.trans h2,fun b' hb' ho=>?_,k1.trans h4,dk.mono hs.le h5,fun o=>by rw [k2];exact h6 o⟩
 rcases Nat.lt_or_ge b' g.w.heap.size with hlt | hge
 · by_cases hS:g.own b' ∈ S
   · rcases hs.old b' hlt hS with h | h
     · rw [ho] at h;exact absurd h hj0
     · rw [ho] at h;exact absurd h hj
   · exact h3 b' hlt ((hs.same b' hlt hS).2.2.symm.trans ho)
 · rcases hs.new b' hge hb' with h | h
   · rw [ho] at h;exact absurd h hj0
   · rw [ho] at h;exact absurd h hj
def Zbf (c:Option Nat) (dk:Kd α) (j:Nat) (v:α):Pd:=⟨fun g u=>∃ b cs t,u=.pointer (some ⟨b,0,none⟩) ∧ Mine dk (j + 1) v g b cs t ∧ ∀ b',c=some b' → b=b',[j + 1],fun s hd ⟨b,cs,t,e,h,hc⟩=>⟨b,cs,t,e,h.st s (hd _ (by simp)) (by omega),hc⟩⟩
abbrev pBox (dk:Kd α) (j:Nat) (v:α):Pd:=Zbf none dk j v
def Zeq (dk:Kd α) (j:Nat) (v:α) (off:Nat) (di:Kd β) (z:β):Pd:=⟨fun g u=>∃ b cs t,u=.pointer (some ⟨b,off,none⟩) ∧ Mine dk (j + 1) v g b cs t ∧ di.K g z (seg cs off di.sz),[j + 1],fun s hd ⟨b,cs,t,e,h,k⟩=>⟨b,cs,t,e,h.st s (hd _ (by simp)) (by omega),di.mono s.le k⟩⟩
theorem Zul {j:Nat} {v:α} {g:G} {cs:List Value} {t:TypeId} (hj:j ≠ 0) (hk:dk.K g v cs):Mine dk j v (g.push cs.toArray t (fun _=>False) j) g.w.heap.size cs t:=by
 refine ⟨by rw [Zit,Zkb];omega,by simp [G.push],fun b' hb' ho=>?_,by rw [Zit];exact Znk ..,dk.mono (Zoa ..) hk,fun o=>by simp [G.push]⟩
 by_cases h:b'=g.w.heap.size
 · exact h
 · simp only [G.push,if_neg h] at ho
   split at ho
   · exact absurd ho.symm hj
   · rename_i h2;exact absurd ho h2
theorem Zbl {t:TypeId} {j:Nat} {v:α} (hz:(P.info? t).bind (·.zero)=some (mkV dk.ag zs)) (hk:∀ g,dk.K g v zs) (hop:o.op=.alloc t) (hd:o.dst=some d):OB P N o uses [(d,pBox dk j v)] [j + 1] :=
 Zke hd fun a g hh=>by
   obtain ⟨i,hi,hz⟩:=Option.bind_eq_some_iff.1 hz
   have hc:(mkV dk.ag zs).cells=zs.toArray:=Kd.cells_mkV (hk g)
   refine ⟨.pointer (some ⟨g.w.heap.size,0,none⟩),g.push zs.toArray t (fun _=>False) (j + 1),?_,Zny ..,g.w.heap.size,zs,t,rfl,Zul (by omega) (hk g),fun _ h=>by cases h⟩
   simp [execOp,hop,Instr.alloc,zeroValue,typeInfo,hi,hz,newVar,newRow,hc,Zit]
theorem Zq5 {t:TypeId} {j:Nat} {v:α} (hop:o.op=.box t x) (hd:o.dst=some d) (hx:Opd uses x (dk.pd v)):OB P N o uses [(d,pBox dk j v)] [j + 1] :=
 Zke hd fun a g hh=>by
   obtain ⟨cs,hk,hv⟩:=hx a g hh
   refine ⟨.pointer (some ⟨g.w.heap.size,0,none⟩),g.push cs.toArray t (fun _=>False) (j + 1),?_,Zny ..,g.w.heap.size,cs,t,rfl,Zul (by omega) hk,fun _ h=>by cases h⟩
   have:(a.eval x).cells=cs.toArray:=by rw [hv];exact Kd.cells_mkV hk
   simp [execOp,hop,Instr.box,newVar,newRow,this,Zit]
theorem Zni {j:Nat} {v:α} {g:G} {b:Nat} {cs:List Value} {t:TypeId} (h:Mine dk j v g b cs t) (i:Nat) (u:Value) (hu:cs[i]?=some u):g.w.cell? ⟨b,i,none⟩=some u:=by
 simp only [World.cell?,h.2.2.2.1]
 simpa using hu
theorem Znc {c:Option Nat} {t:TypeId} {j:Nat} {v:α} (hT:Ty P t dk) (hop:o.op=.load t x) (hd:o.dst=some d) (hx:Opd uses x (Zbf c dk j v)):OB P N o uses [(d,dk.pd v)] [] :=
 Zce hd fun a g hh=>by
   obtain ⟨b,cs,t',hv,hm,hcb⟩:=hx a g hh
   exact ⟨mkV dk.ag cs,by simp [execOp,hop,hv,Instr.loadAt,Instr.sureAddr,Zkk hT hm.2.2.2.2.1 (fun i u hu=>by rw [Nat.zero_add];exact Zni hm i u hu)],cs,hm.2.2.2.2.1,rfl⟩
theorem Zb5 {c:Option Nat} {s i j:Nat} {v:α} {proj:α → β} {off:Nat} (hF:Fld P s i dk di proj) (ho:(match P.underlying s with | some (.struct F)=>(F[i]?).map (·.offset) | _=>none)=some off) (hop:o.op=.fieldAddr s x i) (hd:o.dst=some d) (hx:Opd uses x (Zbf c dk j v)):OB P N o uses [(d,Zeq dk j v off di (proj v))] [] :=
 Zce hd fun a g hh=>by
   obtain ⟨b,cs,t',hv,hm,hcb⟩:=hx a g hh
   obtain ⟨fs,f,hu,hi,hsz,hag,h0,hK,_⟩:=hF.look
   have:f.offset=off:=by simpa [hu,hi] using ho
   subst this
   exact ⟨.pointer (some ⟨b,f.offset,none⟩),by simp [execOp,hop,hv,Instr.fieldAt,Instr.sureAddr,run_underlying hu,hi,Zlo hsz h0],b,cs,t',rfl,hm,hK g v cs hm.2.2.2.2.1⟩
theorem Zpa {t:TypeId} {j off:Nat} {v:α} {z:β} (hT:Ty P t di) (hop:o.op=.load t x) (hd:o.dst=some d) (hx:Opd uses x (Zeq dk j v off di z)):OB P N o uses [(d,di.pd z)] [] :=
 Zce hd fun a g hh=>by
   obtain ⟨b,cs,t',hv,hm,hk⟩:=hx a g hh
   refine ⟨mkV di.ag (seg cs off di.sz),?_,_,hk,rfl⟩
   have:=Zkk (b:=b) (of:=off) hT hk (fun i u hu=>by
     refine Zni hm (off + i) u ?_
     simp only [seg,List.getElem?_take,List.getElem?_drop] at hu
     split at hu
     · exact hu
     · cases hu)
   simp [execOp,hop,hv,Instr.loadAt,Instr.sureAddr,this]
def Zt (cs:List Value) (off:Nat) (ys:List Value):List Value:=cs.take off ++ ys ++ cs.drop (off + ys.length)
theorem Zb7 {cs ys:List Value} {off:Nat} (h:off + ys.length ≤ cs.length):(Zt cs off ys).length=cs.length:=by
 simp [Zt];omega
theorem Zb0 {cs ys:List Value} {off n:Nat} (h:off + ys.length ≤ cs.length) (hn:ys.length=n):seg (Zt cs off ys) off n=ys:=by
 subst hn
 simp only [seg,Zt,List.append_assoc]
 rw [List.drop_append_of_le_length (by simp;omega)]
 have:(cs.take off).length=off:=by simp;omega
 rw [List.drop_of_length_le (by omega),List.nil_append,List.take_left']
 rfl
theorem Zh {cs ys:List Value} {off o2 n2:Nat} (h:off + ys.length ≤ cs.length) (hd:o2 + n2 ≤ off ∨ off + ys.length ≤ o2):seg (Zt cs off ys) o2 n2=seg cs o2 n2:=by
 apply List.ext_getElem?
 intro i
 simp only [seg,List.getElem?_take,List.getElem?_drop]
 split
 · rename_i hi
   simp only [Zt,List.append_assoc,List.getElem?_append,List.length_take,List.getElem?_take,List.getElem?_drop]
   rcases hd with hd | hd
   · rw [if_pos (by omega),if_pos (by omega)]
   · rw [if_neg (by omega)]
     rw [if_neg (by omega)]
     congr 1
     omega
 · rfl
theorem Zgf (hT : Ty P t di) {g : G} {b off : Nat} {cur : Array Value} {tt : TypeId} {ys : List Value} {z : β} (hg : g.w.heap[b]? = some (.cells cur tt (0, 0))) (hk : di.K g z ys) (hfit : off + ys.length ≤ cur.size) :
   (storeVar t ⟨b,off,none⟩ (mkV di.ag ys)).run P g.w=.ok () (g.w.setRow b (cur.toList.take off ++ ys ++ cur.toList.drop (off + ys.length)).toArray):=by
 have hc:(mkV di.ag ys).cells=ys.toArray:=Kd.cells_mkV hk
 have hst:=run_storeCells_at P b off tt ys 0 cur g.w hg (by simpa using hfit) (di.one hk)
 simp only [Nat.add_zero] at hst
 simp only [storeVar,Sem.run_bind,Zi0 hT.sz,Result.andThen_ok,hc,Sem.run_ite]
 rw [if_neg (by simp [di.len hk])]
 simpa using hst
def G.wr (g:G) (b:Nat) (cs:Array Value) (hb:b < g.w.heap.size) (hp:∀ o,¬ g.pr b o) (P':Nat → Prop) (j:Nat):G where
 w:=g.w.setRow b cs
 pr:=fun b' o=>if b'=b then P' o else g.pr b' o
 own:=fun b'=>if b'=b then j else g.own b'
 hpr:=fun b' o h=>by
   have hs:(g.w.setRow b cs).heap.size=g.w.heap.size:=by simp [World.setRow]
   rw [hs]
   split at h
   · rename_i he;rw [he];exact hb
   · exact g.hpr b' o h
 gl := g.gl.le (fun b' o h => by
     rw [if_neg (fun he=>hp o (by rw [← he];exact h))];exact h) (fun b' o h=>Zf0 (setRow_other _ _ _ _ (fun he=>hp o (by rw [← he];exact h))))
theorem wr_w (g:G) (b:Nat) (cs:Array Value) (hb:b < g.w.heap.size) (hp:∀ o,¬ g.pr b o) (P':Nat → Prop) (j:Nat):(g.wr b cs hb hp P' j).w=g.w.setRow b cs:=rfl
theorem Zff (w:World) (b:Nat) (cs:Array Value):(w.setRow b cs).heap.size=w.heap.size:=by simp [World.setRow]
theorem Zmn {g:G} {b:Nat} {cs:Array Value} {hb:b < g.w.heap.size} {P':Nat → Prop} {j k:Nat} (hj:g.own b=j) (hk:k=0 ∨ k=j) (hp:∀ o,¬ g.pr b o):Step [j] g (g.wr b cs hb hp P' k) where
 le:={
   size:=by rw [wr_w,Zff];exact Nat.le_refl _
   pr:=fun b' o h=>by
     simp only [G.wr]
     split
     · rename_i he;subst he;exact absurd h (hp o)
     · exact h
   cell:=fun b' o h=>by
     have:b' ≠ b:=fun he=>by subst he;exact hp o h
     exact Zf0 (setRow_other _ _ _ _ this)
   blk:=fun b' h=>setRow_other _ _ _ _ (fun he=>hp 0 (by rw [← he];exact h 0)) }
 os:=rfl
 tape:=rfl
 output:=rfl
 same:=fun b' _ hn=>by
   have:b' ≠ b:=fun he=>by subst he;exact hn (by simp [hj])
   exact ⟨setRow_other _ _ _ _ this,by simp only [G.wr];funext o;rw [if_neg this],by simp only [G.wr];rw [if_neg this]⟩
 new:=fun b' h1 h2=>by rw [wr_w,Zff] at h2;omega
 old:=fun b' _ h=>by
   simp only [G.wr]
   split
   · rcases hk with h | h <;> simp [h]
   · exact .inr h
theorem Zt6 {j:Nat} {v v':α} {g:G} {b:Nat} {cs cs':List Value} {t:TypeId} (hm:Mine dk j v g b cs t) (hk:dk.K g v' cs'):Mine dk j v' (g.wr b cs'.toArray hm.1 hm.2.2.2.2.2 (fun _=>False) j) b cs' t:=by
 refine ⟨by rw [wr_w,Zff];exact hm.1,by simp [G.wr],fun b' hb' ho=>?_,by rw [wr_w];exact setRow_heap _ _ _ _ _ _ hm.2.2.2.1,dk.mono (Zmn hm.2.1 (.inr rfl) hm.2.2.2.2.2).le hk,fun o=>by simp [G.wr]⟩
 rw [wr_w,Zff] at hb'
 simp only [G.wr] at ho
 split at ho
 · assumption
 · exact hm.2.2.1 b' hb' ho
theorem Zoh {S:List Nat} {outs:Z4} (hd:o.dst=none) (h:∀ (a:Act) g,Zdq uses a g → ∃ g',(execOp a.eval o).run P g.w=.ok .skip g'.w ∧ Step S g g' ∧ ∀ e ∈ outs,e.2.p g' (Act.at a e.1)):OB P N o uses outs S:=by
 intro a g K Q hN hdN hu hK
 obtain ⟨g',hr,hs,hq⟩:=h a g hu
 unfold Oper.wp
 rw [hr]
 refine hK undef g' hs fun e he=>?_
 rw [hd]
 exact hq e he
theorem Z7 {c:Option Nat} {t s j:Nat} {v v':α} (hT:Ty P t dk) (hop:o.op=.store t (.tmp s) y) (hd:o.dst=none) (hx:Opd uses (.tmp s) (Zbf c dk j v)) (hy:Opd uses y (dk.pd v')):OB P N o uses [(s,Zbf c dk j v')] [j + 1] :=
 Zoh hd fun a g hh=>by
   obtain ⟨b,cs,t',hv,hm,hcb⟩:=hx a g hh
   obtain ⟨ys,hk,hw⟩:=hy a g hh
   have hl:ys.length=cs.length:=(dk.len hk).trans (dk.len hm.2.2.2.2.1).symm
   have hst:=Zgf (off:=0) hT hm.2.2.2.1 hk (by simp [hl])
   have hv':Act.at a s=.pointer (some ⟨b,0,none⟩):=hv
   refine ⟨g.wr b ys.toArray hm.1 hm.2.2.2.2.2 (fun _=>False) (j + 1),?_,Zmn hm.2.1 (.inr rfl) hm.2.2.2.2.2,?_⟩
   · simp only [Nat.zero_add,List.take_zero,List.nil_append] at hst
     rw [List.drop_of_length_le (by simp [hl]),List.append_nil] at hst
     simp [execOp,hop,hv,hw,Instr.storeAt,Instr.sureAddr,hst,wr_w]
   · intro e he
     rw [List.mem_singleton.1 he]
     exact ⟨b,ys,t',hv',Zt6 hm hk,hcb⟩
theorem Zb9 {c:Option Nat} {t s j:Nat} {v v':α} (hT:Ty P t dk) (hop:o.op=.store t (.tmp s) y) (hd:o.dst=none) (hx:Opd uses (.tmp s) (Zbf c dk j v)) (hy:Opd uses y (dk.pd v')):OB P N o uses [(s,dk.ptr v')] [j + 1] :=
 Zoh hd fun a g hh=>by
   obtain ⟨b,cs,t',hv,hm,hcb⟩:=hx a g hh
   obtain ⟨ys,hk,hw⟩:=hy a g hh
   have hl:ys.length=cs.length:=(dk.len hk).trans (dk.len hm.2.2.2.2.1).symm
   have hst:=Zgf (off:=0) hT hm.2.2.2.1 hk (by simp [hl])
   have hv':Act.at a s=.pointer (some ⟨b,0,none⟩):=hv
   have hs:Step [j + 1] g (g.wr b ys.toArray hm.1 hm.2.2.2.2.2 (fun _=>True) 0):=Zmn hm.2.1 (.inl rfl) hm.2.2.2.2.2
   refine ⟨g.wr b ys.toArray hm.1 hm.2.2.2.2.2 (fun _=>True) 0,?_,hs,?_⟩
   · simp only [Nat.zero_add,List.take_zero,List.nil_append] at hst
     rw [List.drop_of_length_le (by simp [hl]),List.append_nil] at hst
     simp [execOp,hop,hv,hw,Instr.storeAt,Instr.sureAddr,hst,wr_w]
   · intro e he
     rw [List.mem_singleton.1 he]
     refine ⟨b,0,ys,hv',dk.mono hs.le hk,fun i u hu=>⟨by simp [G.wr],?_⟩⟩
     rw [wr_w,Nat.zero_add]
     simp only [World.cell?,setRow_heap _ _ _ _ _ _ hm.2.2.2.1]
     simpa using hu
end
section
variable {P:Program} {N:Nat} {o:Oper} {uses:Z4} {d:Nat} {q q':Pd} {x y z:Operand}
variable {α β:Type} {dk:Kd α} {di:Kd β} {t e:TypeId}
theorem Zue {g : G} : ∀ (ys : List α) (b off : Nat), (∀ i u, ys[i]? = some u → ∃ cs, dk.K g u cs ∧ CellsAt g b (off + i * dk.sz) cs) →
   ∃ news:List Value,news.length=ys.length * dk.sz ∧ CellsAt g b off news ∧ ∀ i u,ys[i]?=some u → dk.K g u (seg news (i * dk.sz) dk.sz)
 | [],b,off,_=>⟨[],by simp,fun j v h=>by simp at h,fun i u h=>by simp at h⟩
 | u :: ys,b,off,h=>by
   obtain ⟨cs,hk,hc⟩:=h 0 u rfl
   obtain ⟨news,hl,hn,hs⟩:=Zue ys b (off + dk.sz) fun i w hw=>by
     obtain ⟨cs,h1,h2⟩:=h (i + 1) w (by simpa using hw)
     exact ⟨cs,h1,by rwa [show off + dk.sz + i * dk.sz=off + (i + 1) * dk.sz by rw [Nat.add_mul];omega]⟩
   have hcl:=dk.len hk
   refine ⟨cs ++ news,by simp [hl,hcl,Nat.add_mul];omega,?_,?_⟩
   · intro j v hj
     rw [List.getElem?_append] at hj
     split at hj
     · have:=hc j v hj
       simpa using this
     · have:=hn (j - cs.length) v hj
       rwa [show off + dk.sz + (j - cs.length)=off + j by omega] at this
   · intro i w hw
     cases i with
     | zero =>
       simp at hw;subst hw
       rw [Nat.zero_mul]
       have:seg (cs ++ news) 0 dk.sz=cs:=by
         simp only [seg,List.drop_zero]
         rw [← hcl]
         exact List.take_left
       rw [this];exact hk
     | succ i =>
       have:=hs i w (by simpa using hw)
       have e:seg (cs ++ news) ((i + 1) * dk.sz) dk.sz=seg news (i * dk.sz) dk.sz:=by
         simp only [seg]
         congr 1
         rw [show (i + 1) * dk.sz=cs.length + i * dk.sz by rw [Nat.add_mul,hcl];omega,List.drop_append]
         have:(cs.drop (cs.length + i * dk.sz))=[]:=List.drop_of_length_le (by omega)
         rw [this,List.nil_append]
         congr 1
         omega
       rw [e];exact this
def Tail (dk:Kd α) (e:TypeId) (j n:Nat) (g:G) (v:Value):Prop :=
 (v=.slice none 0 0 ∧ n=0) ∨ ∃ b cap cur,v=.slice (some ⟨b,0,none⟩) n cap ∧ b < g.w.heap.size ∧ g.own b=j ∧ g.w.heap[b]?=some (.cells cur e (0,0)) ∧ n ≤ cap ∧ cap ≤ maxLen ∧ cur.size=cap * dk.sz ∧ ∀ i,n * dk.sz ≤ i → ¬ g.pr b i
theorem Tail.st {j n:Nat} {g g':G} {v:Value} {S:List Nat} (hs:Step S g g') (hj:j ∉ S) (h:Tail dk e j n g v):Tail dk e j n g' v:=by
 rcases h with h | ⟨b,cap,cur,rfl,h1,h2,h3,h4,h5,h6,h7⟩
 · exact .inl h
 · obtain ⟨k1,k2,k3⟩:=hs.same b h1 (by rw [h2];exact hj)
   exact .inr ⟨b,cap,cur,rfl,Nat.lt_of_lt_of_le h1 hs.le.size,k3.trans h2,k1.trans h3,h4,h5,h6,fun i hi=>by rw [k2];exact h7 i hi⟩
def pRow (dk:Kd α) (e:TypeId) (j:Nat) (xs:List α):Pd:=⟨fun g v=>dk.sl.V g xs v ∧ Tail dk e (j + 1) xs.length g v,[j + 1],fun s hd ⟨h,ht⟩=>⟨h.imp fun _ h=>⟨dk.sl.mono s.le h.1,h.2⟩,ht.st s (hd _ (by simp))⟩⟩
theorem Zjs {j:Nat} {xs:List α} {g:G} {v:Value} (h:(pRow dk e j xs).p g v):(dk.sl.pd xs).p g v:=h.1
theorem Zm7 (j:Nat) (g:G):(pRow dk e j []).p g (.slice none 0 0):=⟨Kd.sl_nil dk g,.inl ⟨rfl,rfl⟩⟩
theorem Zww (g:G):(dk.sl.pd []).p g (.slice none 0 0):=Kd.sl_nil dk g
structure TE (P:Program) (t e:TypeId) (dk:Kd α) (bytes:Nat):Prop where
 und:P.underlying t=some (.slice e)
 info:∃ i z,P.info? e=some i ∧ i.zero=some z ∧ i.size=dk.sz ∧ i.bytes=bytes ∧ z.cells.size=dk.sz
 sz:0 < dk.sz
 by0:0 < bytes
theorem TE.of {bytes:Nat} (hu:P.underlying t=some (.slice e)) (hi:(P.info? e).bind (fun i=>i.zero.map fun z=>(i.size,i.bytes,z.cells.size))=some (dk.sz,bytes,dk.sz)) (hs:0 < dk.sz) (hb:0 < bytes):TE P t e dk bytes:=by
 obtain ⟨i,h1,h2⟩:=Option.bind_eq_some_iff.1 hi
 obtain ⟨z,h3,h4⟩:=Option.map_eq_some_iff.1 h2
 simp only [Prod.mk.injEq] at h4
 exact ⟨hu,⟨i,z,h1,h3,h4.1,h4.2.1,h4.2.2⟩,hs,hb⟩
theorem Z19 {g : G} {ys : List α} {v : Value} (h : dk.sl.V g ys v) : ∃ A c, v = .slice A ys.length c ∧ ys.length ≤ c ∧ ys.length ≤ 9223372036854775807 ∧
   (ys=[] ∨ ∃ b off news,A=some ⟨b,off,none⟩ ∧ news.length=ys.length * dk.sz ∧ CellsAt g b off news ∧ ∀ i u,ys[i]?=some u → dk.K g u (seg news (i * dk.sz) dk.sz)):=by
 obtain ⟨A,c,rfl,h1,h2,hr⟩:=Kd.sl_V.1 h
 refine ⟨A,c,rfl,h1,h2,?_⟩
 rcases hr with hr | ⟨b,off,rfl,hr⟩
 · exact .inl hr
 · obtain ⟨news,hl,hn,hs⟩:=Zue ys b off hr
   exact .inr ⟨b,off,news,rfl,hl,hn,hs⟩
theorem Z1u {g:G} {ys:List α} {news:List Value} (hl:news.length=ys.length * dk.sz) (hs:∀ i u,ys[i]?=some u → dk.K g u (seg news (i * dk.sz) dk.sz)) (h0:0 < dk.sz):∀ u ∈ news,u.oneCell'=true:=by
 intro u hu
 obtain ⟨k,hk,rfl⟩:=List.getElem_of_mem hu
 have hd:k / dk.sz < ys.length:=Nat.div_lt_of_lt_mul (by rw [Nat.mul_comm];omega)
 have:=hs (k / dk.sz) _ (List.getElem?_eq_getElem hd)
 refine dk.one this _ (List.mem_of_getElem? (i:=k % dk.sz) ?_)
 simp only [seg,List.getElem?_take,List.getElem?_drop]
 rw [if_pos (Nat.mod_lt _ h0),show k / dk.sz * dk.sz + k % dk.sz=k by rw [Nat.mul_comm];exact Nat.div_add_mod k dk.sz,List.getElem?_eq_getElem hk]
theorem Zjl {a b:List Value} {o n:Nat} (h:o + n ≤ a.length):seg (a ++ b) o n=seg a o n:=by
 simp only [seg]
 rw [List.drop_append_of_le_length (by omega),List.take_append_of_le_length (by simp;omega)]
theorem Zi2 {a b:List Value} {o n:Nat}:seg (a ++ b) (a.length + o) n=seg b o n:=by
 simp only [seg]
 congr 1
 rw [List.drop_append]
 rw [List.drop_of_length_le (by omega),List.nil_append]
 congr 1;omega
theorem Zmx {g' : G} {b cap n : Nat} {cur : Array Value} {zs : List α} {j : Nat} (hn : zs.length = n) (hb : b < g'.w.heap.size) (hown : g'.own b = j) (hh : g'.w.heap[b]? = some (.cells cur e (0, 0))) (hcap : zs.length ≤ cap) (hmax : cap ≤ maxLen) (hsz : cur.size = cap * dk.sz)
   (hk:∀ i u,zs[i]?=some u → dk.K g' u (seg cur.toList (i * dk.sz) dk.sz)) (hpr:∀ i,g'.pr b i ↔ i < zs.length * dk.sz) (h0:0 < dk.sz) (hl:zs.length ≤ 9223372036854775807) :
   dk.sl.V g' zs (.slice (some ⟨b,0,none⟩) n cap) ∧ Tail dk e j zs.length g' (.slice (some ⟨b,0,none⟩) n cap):=by
 subst hn
 refine ⟨Kd.sl_V.2 ⟨some ⟨b,0,none⟩,cap,rfl,hcap,hl,.inr ⟨b,0,rfl,fun i u hu=>⟨_,hk i u hu,?_⟩⟩⟩,.inr ⟨b,cap,cur,rfl,hb,hown,hh,hcap,hmax,hsz,fun i hi hp=>by have:=(hpr i).1 hp;omega⟩⟩
 intro k v hv
 have hlt:i < zs.length:=(List.getElem?_eq_some_iff.1 hu).1
 simp only [seg,List.getElem?_take,List.getElem?_drop] at hv
 split at hv
 · rename_i hk2
   refine ⟨(hpr _).2 ?_,?_⟩
   · have:(i + 1) * dk.sz ≤ zs.length * dk.sz:=Nat.mul_le_mul_right _ hlt
     rw [Nat.add_mul] at this;omega
   · simp only [World.cell?,hh]
     simpa using hv
 · cases hv
theorem Zdi {bytes j : Nat} {xs ys : List α} (hT : TE P t e dk bytes) (hop : o.op = .call { callee := .builtin .append, args := #[x, y], argTypes := #[t, t] }) (hd : o.dst = some d) (hx : Opd uses x (pRow dk e j xs)) (hy : Opd uses y (dk.sl.pd ys))
   (hl:(xs.length + ys.length) * bytes ≤ 140737488355328):OB P N o uses [(d,pRow dk e j (xs ++ ys))] [j + 1] :=
 Zke hd fun a g hh=>by
   obtain ⟨hV,hTl⟩:=hx a g hh
   obtain ⟨A,c,hy1,hy2,hy3,hyr⟩:=Z19 (hy a g hh)
   obtain ⟨i,z,hi,hz,hsz,hby,hzs⟩:=hT.info
   have hb0:=hT.by0
   have hlen:xs.length + ys.length ≤ 140737488355328:=Nat.le_trans (Nat.le_mul_of_pos_right _ hb0) hl
   have hexec:∀ v w',(Builtin.append_ #[t,t] o.type #[a.eval x,a.eval y]).run P g.w=.ok v w' → (execOp a.eval o).run P g.w=.ok (.value v) w':=fun v w' h=>by
     simp [execOp,hop,resolve,invoke,builtin,h]
   rcases hyr with rfl | ⟨b2,o2,news,rfl,hnl,hnc,hnk⟩
   ·
     refine ⟨a.eval x,g,hexec _ _ ?_,.refl _ _,by rw [List.append_nil];exact hV,by rw [List.append_nil];exact hTl⟩
     rw [hy1]
     rcases hTl with ⟨hv,hn⟩ | ⟨b,cap,cur,hv,_,_,hg,hnc,_⟩
     · rw [hv]
       cases A <;> simp [Builtin.append_,run_underlying hT.und,sizeOf,typeInfo,hi,Builtin.lenOf,Builtin.firstCells,loadCells,loadCellsFrom]
     · rw [hv]
       cases A <;> simp [Builtin.append_,run_underlying hT.und,sizeOf,typeInfo,hi,Builtin.lenOf,Builtin.firstCells,hnc,storeCells,loadCells,loadCellsFrom]
   · by_cases hy0:ys=[]
     · subst hy0
       refine ⟨a.eval x,g,hexec _ _ ?_,.refl _ _,by rw [List.append_nil];exact hV,by rw [List.append_nil];exact hTl⟩
       rw [hy1]
       rcases hTl with ⟨hv,hn⟩ | ⟨b,cap,cur,hv,_,_,hg,hnc,_⟩
       · rw [hv];simp [Builtin.append_,run_underlying hT.und,sizeOf,typeInfo,hi,Builtin.lenOf,Builtin.firstCells,loadCells,loadCellsFrom]
       · rw [hv];simp [Builtin.append_,run_underlying hT.und,sizeOf,typeInfo,hi,Builtin.lenOf,Builtin.firstCells,hnc,storeCells,loadCells,loadCellsFrom]
     · have hypos:0 < ys.length:=List.length_pos_iff.2 hy0
       have hn1:∀ u ∈ news,u.oneCell'=true:=Z1u hnl hnk hT.sz
       have hnews:∀ k u,news[k]?=some u → g.w.cell? ((⟨b2,o2,none⟩:Addr).add k)=some u:=fun k u hu=>by rw [Zg8];exact (hnc k u hu).2
       have hnl':news.length=ys.length * i.size:=by rw [hsz];exact hnl
       have hlen2:(xs ++ ys).length=xs.length + ys.length:=by simp
       have fresh : ∀ (olds : List Value) (cap : Nat), olds.length = xs.length * dk.sz → (∀ k u, xs[k]? = some u → dk.K g u (seg olds (k * dk.sz) dk.sz)) → xs.length + ys.length ≤ cap → cap ≤ maxLen →
           ∃ g':G,g'.w=g.w.drew.alloc (.cells (olds.toArray ++ news.toArray ++ Builtin.zeroCells z.cells (cap - (xs.length + ys.length))) e) ∧ Step [j + 1] g g' ∧ (pRow dk e j (xs ++ ys)).p g' (.slice (some ⟨g.w.heap.size,0,none⟩) (xs.length + ys.length) cap):=by
         intro olds cap hol hok hcap hmax
         have hs1:=Step.drew g
         have hs2:=Zny g.drew (olds.toArray ++ news.toArray ++ Builtin.zeroCells z.cells (cap - (xs.length + ys.length))) e (fun i=>i < (xs ++ ys).length * dk.sz) (j + 1)
         have hs:Step [j + 1] g (g.drew.push (olds.toArray ++ news.toArray ++ Builtin.zeroCells z.cells (cap - (xs.length + ys.length))) e (fun i=>i < (xs ++ ys).length * dk.sz) (j + 1)):=(hs1.sub (by simp)).trans hs2
         refine ⟨_,rfl,hs,?_⟩
         refine Zmx hlen2 (by rw [Zit,Zkb];exact Nat.lt_succ_self _) (by simp [G.push,G.drew]) (Znk g.drew.w _) (by rw [hlen2];exact hcap) hmax ?_ ?_ (fun i=>by simp [G.push,G.drew]) hT.sz (by rw [hlen2];omega)
         · simp only [Array.size_append,List.size_toArray,size_zeroCells,hzs,hol,hnl,← Nat.add_mul]
           congr 1;omega
         · intro k u hu
           refine dk.mono hs.le ?_
           have e1:(olds.toArray ++ news.toArray ++ Builtin.zeroCells z.cells (cap - (xs.length + ys.length))).toList=olds ++ (news ++ (Builtin.zeroCells z.cells (cap - (xs.length + ys.length))).toList):=by simp
           rw [e1]
           rw [List.getElem?_append] at hu
           split at hu
           · rename_i hk
             rw [Zjl (by rw [hol];have:(k + 1) * dk.sz ≤ xs.length * dk.sz:=Nat.mul_le_mul_right _ hk;rw [Nat.add_mul] at this;omega)]
             exact hok k u hu
           · rename_i hk
             have hk2:k - xs.length < ys.length:=(List.getElem?_eq_some_iff.1 hu).1
             rw [show k * dk.sz=olds.length + (k - xs.length) * dk.sz by rw [hol,← Nat.add_mul];congr 1;omega,Zi2,
               Zjl (by rw [hnl];have:(k - xs.length + 1) * dk.sz ≤ ys.length * dk.sz:=Nat.mul_le_mul_right _ hk2;rw [Nat.add_mul] at this;omega)]
             exact hnk _ u hu
       rcases hTl with ⟨hv,hn⟩ | ⟨b,cap,cur,hv,hblt,hown,hg,hncap,hmaxc,hcsz,hunpr⟩
       · have hx0:xs=[]:=List.eq_nil_of_length_eq_zero hn
         subst hx0
         have hr:=run_append_nil (P:=P) g.w t o.type e i z hT.und hi hz ⟨b2,o2,none⟩ ys.length c news hnl' hnews hypos (by omega) (by rw [hby];simp at hl;omega)
         have hge:=grownCap_ge g.w ys.length 0 e
         have hmx:=grownCap_le_maxLen g.w ys.length 0 e (by simp only [maxLen];omega)
         obtain ⟨g',hw,hs,hp⟩:=fresh [] (grownCap g.w ys.length 0 e) (by simp) (fun k u hu=>by simp at hu) (by simpa using hge) hmx
         simp only [List.length_nil,Nat.zero_add] at hw hp
         refine ⟨_,g',hexec _ _ ?_,hs,hp⟩
         rw [hv,hy1,hr,hw]
         simp
       ·
         have hxk:∀ k u,xs[k]?=some u → dk.K g u (seg cur.toList (k * dk.sz) dk.sz):=by
           obtain ⟨A',c',hv',_,_,hr'⟩:=Kd.sl_V.1 hV
           rw [hv] at hv'
           injection hv' with hA _ _
           rcases hr' with hr' | ⟨b',of',hA',hr'⟩
           · subst hr';intro k u hu;simp at hu
           · rw [hA'] at hA
             injection hA with hA
             injection hA with hA1 hA2
             subst hA1;subst hA2
             intro k u hu
             obtain ⟨cs,hk,hc⟩:=hr' k u hu
             have:seg cur.toList (k * dk.sz) dk.sz=cs:=by
               apply List.ext_getElem?
               intro m
               simp only [seg,List.getElem?_take,List.getElem?_drop]
               split
               · rename_i hm
                 have hml:m < cs.length:=by rw [dk.len hk];exact hm
                 have h1:=(hc m _ (List.getElem?_eq_getElem hml)).2
                 simp only [World.cell?,hg,Nat.zero_add] at h1
                 rw [List.getElem?_eq_getElem hml]
                 simpa using h1
               · rename_i hm
                 rw [List.getElem?_eq_none (by rw [dk.len hk];omega)]
             rw [this];exact hk
         by_cases hroom:xs.length + ys.length ≤ cap
         · have hfit:xs.length * i.size + news.length ≤ cur.size:=by rw [hnl,hcsz,hsz,← Nat.add_mul];exact Nat.mul_le_mul_right _ hroom
           have hr:=run_append_room (P:=P) g.w t o.type e i hT.und hi b xs.length cap cur hg ⟨b2,o2,none⟩ ys.length c news hnl' hnews hn1 hroom hfit
           rw [hsz] at hr hfit
           have hcurL:(cur.toList.take (xs.length * dk.sz)).length=xs.length * dk.sz:=by simp;omega
           have hp1 : ∀ b' i, g.pr b' i → (if b' = b then i < (xs ++ ys).length * dk.sz else g.pr b' i) := fun b' i h => by
                   split
                   · rename_i he;subst he
                     have h1:i < xs.length * dk.sz:=Nat.lt_of_not_le fun h2=>hunpr i h2 h
                     have h2:xs.length * dk.sz ≤ (xs ++ ys).length * dk.sz:=Nat.mul_le_mul_right _ (by rw [hlen2];omega)
                     omega
                   · exact h
           have hp2 : ∀ b' i, g.pr b' i → (g.w.setRow b (cur.toList.take (xs.length * dk.sz) ++ news ++ cur.toList.drop (xs.length * dk.sz + news.length)).toArray).cell? ⟨b', i, none⟩ = g.w.cell? ⟨b', i, none⟩ := fun b' i h => by
                   by_cases he:b'=b
                   · subst he
                     have h1:i < xs.length * dk.sz:=Nat.lt_of_not_le fun h2=>hunpr i h2 h
                     simp only [World.cell?,setRow_heap _ _ _ _ _ _ hg,hg]
                     simp only [Option.isSome_none,Bool.false_eq_true,if_false,List.getElem?_toArray]
                     rw [List.append_assoc,List.getElem?_append,if_pos (by omega),List.getElem?_take,if_pos h1]
                     simp
                   · exact Zf0 (setRow_other _ _ _ _ he)
           have hs : Step [j + 1] g ⟨g.w.setRow b (cur.toList.take (xs.length * dk.sz) ++ news ++ cur.toList.drop (xs.length * dk.sz + news.length)).toArray, (fun b' i => if b' = b then i < (xs ++ ys).length * dk.sz else g.pr b' i), g.own, fun b' i h => by
               rw [Zff]
               split at h
               · rename_i he;rw [he];exact hblt
               · exact g.hpr b' i h,g.gl.le hp1 hp2⟩ :=
             { le := {
                 size:=by show _ ≤ (g.w.setRow b _).heap.size;rw [Zff];exact Nat.le_refl _
                 pr:=hp1
                 cell:=hp2
                 blk:=fun b' h=>setRow_other _ _ _ _ (fun he=>hunpr _ (Nat.le_refl _) (by rw [← he];exact h _)) }
               os:=rfl
               tape:=rfl
               output:=rfl
               same:=fun b' _ hn=>by
                 have:b' ≠ b:=fun he=>by subst he;exact hn (by simp [hown])
                 exact ⟨setRow_other _ _ _ _ this,by funext i;show (if b'=b then _ else _)=_;rw [if_neg this],rfl⟩
               new:=fun b' h1 h2=>by
                 have:(g.w.setRow b (cur.toList.take (xs.length * dk.sz) ++ news ++ cur.toList.drop (xs.length * dk.sz + news.length)).toArray).heap.size=g.w.heap.size:=Zff ..
                 have h2':b' < (g.w.setRow b (cur.toList.take (xs.length * dk.sz) ++ news ++ cur.toList.drop (xs.length * dk.sz + news.length)).toArray).heap.size:=h2
                 omega
               old:=fun b' _ h=>.inr h }
           refine ⟨_,_,hexec _ _ (by rw [hv,hy1];exact hr),hs,?_⟩
           refine Zmx hlen2 (by show b < (g.w.setRow b _).heap.size;rw [Zff];exact hblt) hown (setRow_heap _ _ _ _ _ _ hg) (by rw [hlen2];exact hroom) hmaxc ?_ ?_ (fun i=>by simp) hT.sz (by rw [hlen2];omega)
           · simp only [List.size_toArray,List.length_append,List.length_take,List.length_drop,Array.length_toList]
             omega
           · intro k u hu
             refine dk.mono hs.le ?_
             show dk.K g u (seg (cur.toList.take (xs.length * dk.sz) ++ news ++ cur.toList.drop (xs.length * dk.sz + news.length)) (k * dk.sz) dk.sz)
             rw [List.append_assoc]
             rw [List.getElem?_append] at hu
             split at hu
             · rename_i hk
               have hle:k * dk.sz + dk.sz ≤ xs.length * dk.sz:=by have:(k + 1) * dk.sz ≤ xs.length * dk.sz:=Nat.mul_le_mul_right _ hk;rw [Nat.add_mul] at this;omega
               rw [Zjl (by rw [hcurL];exact hle)]
               have:=hxk k u hu
               have e2:seg (cur.toList.take (xs.length * dk.sz)) (k * dk.sz) dk.sz=seg cur.toList (k * dk.sz) dk.sz:=by
                 simp only [seg,List.drop_take,List.take_take]
                 congr 1;omega
               rw [e2];exact this
             · rename_i hk
               have hk2:k - xs.length < ys.length:=(List.getElem?_eq_some_iff.1 hu).1
               rw [show k * dk.sz=(cur.toList.take (xs.length * dk.sz)).length + (k - xs.length) * dk.sz by rw [hcurL,← Nat.add_mul];congr 1;omega,Zi2,
                 Zjl (by rw [hnl];have:(k - xs.length + 1) * dk.sz ≤ ys.length * dk.sz:=Nat.mul_le_mul_right _ hk2;rw [Nat.add_mul] at this;omega)]
               exact hnk _ u hu
         · have hol:(cur.toList.take (xs.length * dk.sz)).length=xs.length * i.size:=by rw [hsz,List.length_take,show cur.toList.length=cap * dk.sz by simpa using hcsz];exact Nat.min_eq_left (Nat.mul_le_mul_right _ hncap)
           have holds:∀ k u,(cur.toList.take (xs.length * dk.sz))[k]?=some u → g.w.cell? ((⟨b,0,none⟩:Addr).add k)=some u:=fun k u hu=>by
             rw [Zg8]
             simp only [World.cell?,hg,Nat.zero_add]
             rw [List.getElem?_take] at hu
             split at hu
             · simpa using hu
             · cases hu
           have hr:=run_append_grow (P:=P) g.w t o.type e i z hT.und hi hz ⟨b,0,none⟩ xs.length cap (cur.toList.take (xs.length * dk.sz)) hol holds ⟨b2,o2,none⟩ ys.length c news hnl' hnews (by omega) (by omega) (growslice_fits (by omega) (by rw [hby];exact hl))
           have hge:=grownCap_ge g.w (xs.length + ys.length) cap e
           have hmx:=grownCap_le_maxLen g.w (xs.length + ys.length) cap e (by simp only [maxLen];omega)
           obtain ⟨g',hw,hs,hp⟩:=fresh (cur.toList.take (xs.length * dk.sz)) (grownCap g.w (xs.length + ys.length) cap e) (by rw [hol,hsz]) (fun k u hu=>by
             have hk:=(List.getElem?_eq_some_iff.1 hu).1
             have e2:seg (cur.toList.take (xs.length * dk.sz)) (k * dk.sz) dk.sz=seg cur.toList (k * dk.sz) dk.sz:=by
               have:(k + 1) * dk.sz ≤ xs.length * dk.sz:=Nat.mul_le_mul_right _ hk
               rw [Nat.add_mul] at this
               simp only [seg,List.drop_take,List.take_take]
               congr 1;omega
             rw [e2];exact hxk k u hu) hge hmx
           refine ⟨_,g',hexec _ _ ?_,hs,hp⟩
           rw [hv,hy1,hr,hw]
end
section
variable {P:Program} {N:Nat} {o:Oper} {uses:Z4} {d:Nat} {q:Pd} {x:Operand}
theorem StD.at {D:List Deferred} {L:Z4} {a:Act} {g:G} (h:StD D N L a g) (i:Nat) {e:Nat × Pd} (he:L[i]?=some e):e.2.p g (Act.at a e.1):=h.h e (List.mem_of_getElem? he)
theorem StD.bool {D:List Deferred} {L:Z4} {a:Act} {g:G} (h:StD D N L a g) (i:Nat) {s:Nat} {c:Bool} (he:L[i]?=some (s,Z5 c)):a.eval (.tmp s)=.bool c:=Zgt.1 (h.at i he)
theorem StD.imp {D:List Deferred} {L L':Z4} {a:Act} {g:G} (h:StD D N L a g) (hi:Zdq L a g → Zdq L' a g):StD D N L' a g:=⟨h.size,h.df,hi h.h⟩
theorem Zlx {a:Act} {g:G}:Zdq [] a g:=fun _ h=>by cases h
theorem Zdz {L:Z4} {a:Act} {g:G} {s:Nat} (h:q.p g (Act.at a s)) (hL:Zdq L a g):Zdq ((s,q) :: L) a g:=fun e he=>by
 rcases List.mem_cons.1 he with rfl | he
 · exact h
 · exact hL e he
theorem Pd.le {g g':G} {v:Value} (hq:q.fp=[]) (h:g.le g') (h1:g'.w.os=g.w.os) (h2:g'.w.tape=g.w.tape) (h3:g'.w.output=g.w.output) (hp:q.p g v):q.p g' v:=by
 refine q.st (S:=(List.range g.w.heap.size).map g.own ++ (List.range g'.w.heap.size).map g'.own) ⟨h,h1,h2,h3,fun b hb hn=>absurd ?_ hn,fun b _ hb=>.inr ?_,fun b hb _=>.inr ?_⟩ (by rw [hq];intro j hj;cases hj) hp
 · exact List.mem_append_left _ (List.mem_map.2 ⟨b,List.mem_range.2 hb,rfl⟩)
 · exact List.mem_append_right _ (List.mem_map.2 ⟨b,List.mem_range.2 hb,rfl⟩)
 · exact List.mem_append_right _ (List.mem_map.2 ⟨b,List.mem_range.2 (Nat.lt_of_lt_of_le hb h.size),rfl⟩)
def Left (g:G) (q:Pd):Ending → World → Prop:=fun e w'=>∃ g' v,e=.returned v ∧ w'=g'.w ∧ Step [] g g' ∧ q.p g' v
def ArgsOk (A:List Pd) (g:G) (args:List Value):Prop:=args.length=A.length ∧ ∀ (i:Nat) (qi:Pd) (u:Value),A[i]?=some qi → args[i]?=some u → qi.p g u
theorem Zo1 {g:G}:ArgsOk [] g []:=⟨rfl,fun i qi u h=>by simp at h⟩
theorem Znz {A:List Pd} {g:G} {args:List Value} {v:Value} (h:q.p g v) (hA:ArgsOk A g args):ArgsOk (q :: A) g (v :: args):=⟨by simp [hA.1],fun i qi u h1 h2=>by
 cases i with
 | zero=>simp at h1 h2;subst h1;subst h2;exact h
 | succ i=>exact hA.2 i qi u (by simpa using h1) (by simpa using h2)⟩
def FnOk (P:Program) (f:FuncId) (A:List Pd) (q:Pd):Prop:=∀ (g:G) (args:List Value),ArgsOk A g args → Calls P f args.toArray g.w (Left g q)
def Fin (g0:G) (q:Pd):Ending → World → Prop:=fun e w'=>∃ g1 v,e=.returned v ∧ w'=g1.w ∧ Base g0 g1 ∧ q.p g1 v
def Zo4 (A:List Pd) (s:Nat):Z4:=match A with
 | []=>[]
 | q :: A=>(s,q) :: Zo4 A (s + 1)
theorem Zry:∀ {A:List Pd} {s:Nat} {e:Nat × Pd},e ∈ Zo4 A s → ∃ i,e.1=s + i ∧ A[i]?=some e.2
 | q :: A,s,e,h=>by
   rcases List.mem_cons.1 h with rfl | h
   · exact ⟨0,rfl,rfl⟩
   · obtain ⟨i,h1,h2⟩:=Zry h
     exact ⟨i + 1,by omega,by simpa using h2⟩
 | [],_,_,h=>by cases h
theorem Zbs {f : FuncId} {fn : Func} {c : Code} {A : List Pd} (hf : P.funcs[f]? = some fn) (hb : fn.body = some c) (hn : fn.ntmps = N) (hAN : A.length ≤ N) (hA : A.all (fun q => q.fp.isEmpty) = true) (hq : q.fp = [])
   (h:∀ (a:Act) (g:G),St N (Zo4 A 0) a g → Base g g → c.wp P (bodyPost P fn (Fin g q)) a g.w):FnOk P f A q:=by
 intro g args hargs
 let g0:G:=⟨g.w,g.pr,fun _=>0,g.hpr,g.gl⟩
 have hle:g.le g0:=⟨Nat.le_refl _,fun _ _ h=>h,fun _ _ _=>rfl,fun _ _=>rfl⟩
 have hst:St N (Zo4 A 0) { tmps:=args.toArray ++ Array.replicate (fn.ntmps - args.toArray.size) undef,defers:=[] } g0:=by
   refine ⟨?_,rfl,?_⟩
   · have:=hargs.1
     simp [hn];omega
   · intro e he
     obtain ⟨i,h1,h2⟩:=Zry he
     have hi:i < args.length:=by rw [hargs.1];exact (List.getElem?_eq_some_iff.1 h2).1
     have hfp:e.2.fp=[]:=by
       have:=List.all_eq_true.1 hA e.2 (List.mem_of_getElem? h2)
       simpa using this
     have hv:Act.at { tmps:=args.toArray ++ Array.replicate (fn.ntmps - args.toArray.size) undef,defers:=[] } e.1=args[i]:=by
       rw [h1,Nat.zero_add]
       simp only [Act.at,Array.getD_eq_getD_getElem?]
       rw [Array.getElem?_append,if_pos (by simpa using hi)]
       simp [hi]
     rw [hv]
     exact Pd.le hfp hle rfl rfl rfl (hargs.2 i e.2 _ h2 (List.getElem?_eq_getElem hi))
 have hbase:Base g0 g0:=⟨.refl _,rfl,rfl,rfl,fun _ _ _=>⟨rfl,rfl,rfl⟩⟩
 refine Calls.mono (calls_of_wp hf hb (h _ g0 hst hbase)) ?_
 rintro e w' ⟨g1,v,rfl,rfl,hB,hv⟩
 refine ⟨⟨g1.w,g1.pr,fun b=>if b < g.w.heap.size then g.own b else 0,g1.hpr,g1.gl⟩,v,rfl,rfl,⟨⟨hB.le.size,hB.le.pr,hB.le.cell,hB.le.blk⟩,hB.os,hB.tape,hB.output,fun b hb _=>⟨(hB.same b hb rfl).1,(hB.same b hb rfl).2.1,if_pos hb⟩,fun b hb _=>.inl (if_neg (by omega)),fun _ _ h=>by cases h⟩,?_⟩
 exact Pd.le (g:=g1) hq ⟨Nat.le_refl _,fun _ _ h=>h,fun _ _ _=>rfl,fun _ _=>rfl⟩ rfl rfl rfl hv
theorem Zch {q1 q2:Pd} {g:G} {v1 v2:Value} (h1:q1.p g v1) (h2:q2.p g v2):(pTup [q1,q2]).p g (.tuple #[v1,v2]) :=
 ⟨[v1,v2],rfl,rfl,fun i q u hq hu=>by
   match i,hq,hu with
   | 0,hq,hu=>simp at hq hu;subst hq;subst hu;exact h1
   | 1,hq,hu=>simp at hq hu;subst hq;subst hu;exact h2⟩
theorem Zi7 {q1 q2 q3:Pd} {g:G} {v1 v2 v3:Value} (h1:q1.p g v1) (h2:q2.p g v2) (h3:q3.p g v3):(pTup [q1,q2,q3]).p g (.tuple #[v1,v2,v3]) :=
 ⟨[v1,v2,v3],rfl,rfl,fun i q u hq hu=>by
   match i,hq,hu with
   | 0,hq,hu=>simp at hq hu;subst hq;subst hu;exact h1
   | 1,hq,hu=>simp at hq hu;subst hq;subst hu;exact h2
   | 2,hq,hu=>simp at hq hu;subst hq;subst hu;exact h3⟩
def Zex (tmps:Array Value):ResultVar → Sem Value:=fun
 | .tmp t=>pure (tmps.getD t undef)
 | .cell a t=>do loadVar t (← asAddr (tmps.getD a undef))
theorem Zgo (fn:Func) (tmps:Array Value):results fn tmps=(do let vs ← fn.results.mapM (Zex tmps);pure (if h:vs.size=1 then vs[0] else .tuple vs)):=rfl
def Zil (P:Program) (a:Act) (g:G) (r:ResultVar) (v:Value):Prop:=(Zex a.tmps r).run P g.w=.ok v g.w
theorem Zg {a:Act} {g:G} {s:Nat}:Zil P a g (.tmp s) (Act.at a s):=rfl
theorem Zbn {c:Option Nat} {a:Act} {g:G} {s t j:Nat} {α:Type} {dk:Kd α} {v:α} (hT:Ty P t dk) (h:(Zbf c dk j v).p g (Act.at a s)):∃ u,Zil P a g (.cell s t) u ∧ (dk.pd v).p g u:=by
 obtain ⟨b,cs,t',hv,hm,_⟩:=h
 refine ⟨mkV dk.ag cs,?_,cs,hm.2.2.2.2.1,rfl⟩
 have hv':a.tmps.getD s undef=.pointer (some ⟨b,0,none⟩):=hv
 have:=Zkk (b:=b) (of:=0) hT hm.2.2.2.2.1 (fun i u hu=>by rw [Nat.zero_add];exact Zni hm i u hu)
 simp only [Zil,Zex,hv',asAddr,Sem.run_bind,Sem.run_pure,Result.andThen_ok,this]
theorem Z2 {fn:Func} {r:ResultVar} {v:Value} {a:Act} {g g0:G} {L:Z4} (hr:fn.results=#[r]) (h:St N L a g) (hb:Base g0 g) (h1:Zil P a g r v) (hq:q.p g v):bodyPost P fn (Fin g0 q) .ret a g.w :=
 ⟨h.df,v,by
   have h1':(Zex a.tmps r).run P g.w=.ok v g.w:=h1
   simp [Zgo,hr,h1'],g,v,rfl,rfl,hb,hq⟩
theorem Zdl {fn:Func} {r1 r2:ResultVar} {v1 v2:Value} {a:Act} {g g0:G} {L:Z4} (hr:fn.results=#[r1,r2]) (h:St N L a g) (hb:Base g0 g) (h1:Zil P a g r1 v1) (h2:Zil P a g r2 v2) (hq:q.p g (.tuple #[v1,v2])):bodyPost P fn (Fin g0 q) .ret a g.w :=
 ⟨h.df,_,by
   have h1':(Zex a.tmps r1).run P g.w=.ok v1 g.w:=h1
   have h2':(Zex a.tmps r2).run P g.w=.ok v2 g.w:=h2
   simp [Zgo,hr,h1',h2'],g,_,rfl,rfl,hb,hq⟩
theorem Zk6 {fn:Func} {r1 r2 r3:ResultVar} {v1 v2 v3:Value} {a:Act} {g g0:G} {L:Z4} (hr:fn.results=#[r1,r2,r3]) (h:St N L a g) (hb:Base g0 g) (h1:Zil P a g r1 v1) (h2:Zil P a g r2 v2) (h3:Zil P a g r3 v3) (hq:q.p g (.tuple #[v1,v2,v3])):bodyPost P fn (Fin g0 q) .ret a g.w :=
 ⟨h.df,_,by
   have h1':(Zex a.tmps r1).run P g.w=.ok v1 g.w:=h1
   have h2':(Zex a.tmps r2).run P g.w=.ok v2 g.w:=h2
   have h3':(Zex a.tmps r3).run P g.w=.ok v3 g.w:=h3
   simp [Zgo,hr,h1',h2',h3'],g,_,rfl,rfl,hb,hq⟩
inductive OpdL (uses:Z4):List Operand → List Pd → Prop
 | nil:OpdL uses [] []
 | cons {x:Operand} {q:Pd} {xs:List Operand} {A:List Pd}:Opd uses x q → OpdL uses xs A → OpdL uses (x :: xs) (q :: A)
theorem OpdL.ok {xs:List Operand} {A:List Pd} (h:OpdL uses xs A) {a:Act} {g:G} (hu:Zdq uses a g):ArgsOk A g (xs.map a.eval):=by
 induction h with
 | nil=>exact Zo1
 | cons h _ ih=>exact Znz (h a g hu) ih
def Zk (P : Program) (f : FuncId) : Prop := (P.funcs[f]?).map (fun fn => (fn.name == "runtime.NumGoroutine", fn.body.isNone)) = some (false, false)
theorem Zjp {f:FuncId} (h:Zk P f) (args:Array Value) (w:World):(callFunc f args).run P w=.ok (.enter f args) w:=by
 obtain ⟨fn,hf,he⟩:=Option.map_eq_some_iff.1 h
 simp only [Prod.mk.injEq] at he
 have h1 : fn.name ≠ "runtime.NumGoroutine" := by simpa using he.1
 have h2:fn.body ≠ none:=by
   intro h
   rw [h] at he
   simp at he
 simp [callFunc,hf,h1,h2]
theorem Zf {f:FuncId} {xs:List Operand} {A:List Pd} {ty:Array TypeId} (he:Zk P f) (hok:FnOk P f A q) (hop:o.op=.call { callee:=.value (.func f),args:=xs.toArray,argTypes:=ty }) (hd:o.dst=some d) (hargs:OpdL uses xs A):OB P N o uses [(d,q)] []:=by
 intro a g K Q hN hdN hu hK
 have hr:(execOp a.eval o).run P g.w=.ok (.enter f (xs.map a.eval).toArray) g.w:=by
   simp [execOp,hop,resolve,Act.eval,Deferred.ofValue,invoke,Zjp he]
 unfold Oper.wp
 rw [hr]
 show Calls P f _ g.w _
 refine Calls.mono (hok g _ (hargs.ok hu)) ?_
 rintro e w' ⟨g',v,rfl,rfl,hs,hq⟩
 refine hK v g' hs fun e he=>?_
 rw [List.mem_singleton.1 he,hd,Zfy v (by rw [hN];exact hdN d hd)]
 exact hq
end
theorem Zc {α β:Type} {x:Option α} {f:α → Option β} {r:β} (h:x.bind f=some r):∃ y,x=some y ∧ f y=some r:=Option.bind_eq_some_iff.1 h
theorem Zcm {β:Type} {c:Prop} [Decidable c] {x:Option β} {r:β} (h:(if c then x else none)=some r):c ∧ x=some r:=by
 split at h
 · exact ⟨by assumption,h⟩
 · cases h
def gd {β:Type} [Inhabited β] (c:Bool) (x:Option β):Option β:=if c then x else some default
theorem Zbe {β:Type} [Inhabited β] {c:Bool} {x:Option β} {y:β} (h:gd c x=some y) (hc:c=true):x=some y:=by rw [gd,if_pos hc] at h;exact h
theorem Opd.gd {uses:Z4} {x:Operand} {q:Pd} {c:Bool} (h:c=true) (ho:Opd uses x (pIf c q)):Opd uses x q:=fun a g hh=>(ho a g hh).1 h
theorem Zng {P:Program} {ops:Array Oper} {N:Nat} {L:Z4} {T:List Spec}:AllOT P ops N L T [] []:=trivial
theorem Zh3 {P:Program} {ops:Array Oper} {N:Nat} {L:Z4} {T:List Spec} {o:Oper} {os:List Oper} {X:Spec} {Xs:List Spec} (h:OT P ops N o (X.refs.map (Zeb L T)) X.outs X.S) (hs:AllOT P ops N L T os Xs):AllOT P ops N L T (o :: os) (X :: Xs):=⟨h,hs⟩
theorem StD.pick {D:List Deferred} {N:Nat} {L L':Z4} {a:Act} {g:G} (h:StD D N L a g) (l:List Nat) (he:l.map (fun i=>L[i]?)=L'.map some):StD D N L' a g:=⟨h.size,h.df,fun e hm=>by
 have:some e ∈ L'.map some:=List.mem_map.2 ⟨e,hm,rfl⟩
 rw [← he] at this
 obtain ⟨i,_,hi⟩:=List.mem_map.1 this
 exact h.h e (List.mem_of_getElem? hi)⟩
theorem Zo {β:Type} {c:Bool} {x y:Option β} {r:Option β} (h:c=true) (H:(if c=true then x else y)=r):x=r:=by rw [if_pos h] at H;exact H
theorem Zp {β:Type} {c:Bool} {x y:Option β} {r:Option β} (h:c=false) (H:(if c=true then x else y)=r):y=r:=by rw [h] at H;exact H
section
variable {P:Program} {N:Nat} {o:Oper} {uses:Z4} {d:Nat} {q:Pd} {x y z:Operand} {Q:Exit → Act → World → Prop} {a:Act} {w:World} {K:Act → World → Prop}
theorem Zm (h:K a w):Exit.then K Q .normal a w:=h
theorem Zbw {id:Nat} (h:Q (.exit id) a w):Exit.then K Q (.exit id) a w:=h
theorem Zl (h:Q .ret a w):Exit.then K Q .ret a w:=h
theorem Zba {id:Nat} (h:Q .normal a w):Exit.inBlock id Q .normal a w:=h
theorem Zb4 {id:Nat} (h:Q .normal a w):Exit.inBlock id Q (.exit id) a w:=by simpa [Exit.inBlock] using h
theorem Z0t {id id':Nat} (hne:id' ≠ id) (h:Q (.exit id') a w):Exit.inBlock id Q (.exit id') a w:=by simpa [Exit.inBlock,hne] using h
theorem Zw {id:Nat} (h:Q .ret a w):Exit.inBlock id Q .ret a w:=h
theorem Zbp {c:Code} (J:Act → World → Prop) (hJ:∀ a w,J a w → Q .normal a w) (h:c.wp P (Exit.then J Q) a w):c.wp P Q a w:=by
 refine wp_mono h ?_
 intro e a w h
 cases e <;> first | exact hJ _ _ h | exact h
def bAnd (k:IntKind) (m n:Int):Int:=k.wrap ((BitVec.ofInt k.bits m &&& BitVec.ofInt k.bits n).toNat)
def bOr (k:IntKind) (m n:Int):Int:=k.wrap ((BitVec.ofInt k.bits m ||| BitVec.ofInt k.bits n).toNat)
def bXor (k:IntKind) (m n:Int):Int:=k.wrap ((BitVec.ofInt k.bits m ^^^ BitVec.ofInt k.bits n).toNat)
def Zoo (k:IntKind) (m n:Int):Int:=k.wrap ((BitVec.ofInt k.bits m &&& ~~~BitVec.ofInt k.bits n).toNat)
theorem Z0i {t ty:TypeId} {k:IntKind} {m n:Int} (hop:o.op=.binOp .and t x y ty) (hd:o.dst=some d) (hx:Opd uses x (pInt k m)) (hy:Opd uses y (pInt k n)):OB P N o uses [(d,pInt k (bAnd k m n))] [] :=
 Zhk hop hd hx hy (fun w=>by simp only [binOp,ne_eq,not_true_eq_false,if_false];rfl) (Zhv _ _)
theorem Zvt {t ty:TypeId} {k:IntKind} {m n:Int} (hop:o.op=.binOp .or t x y ty) (hd:o.dst=some d) (hx:Opd uses x (pInt k m)) (hy:Opd uses y (pInt k n)):OB P N o uses [(d,pInt k (bOr k m n))] [] :=
 Zhk hop hd hx hy (fun w=>by simp only [binOp,ne_eq,not_true_eq_false,if_false];rfl) (Zhv _ _)
theorem Z0u {t ty:TypeId} {k:IntKind} {m n:Int} (hop:o.op=.binOp .andNot t x y ty) (hd:o.dst=some d) (hx:Opd uses x (pInt k m)) (hy:Opd uses y (pInt k n)):OB P N o uses [(d,pInt k (Zoo k m n))] [] :=
 Zhk hop hd hx hy (fun w=>by simp only [binOp,ne_eq,not_true_eq_false,if_false];rfl) (Zhv _ _)
theorem Z1a {t ty:TypeId} {k:IntKind} {m n:Int} (hop:o.op=.binOp .quo t x y ty) (hd:o.dst=some d) (hx:Opd uses x (pInt k m)) (hy:Opd uses y (pInt k n)) (hn:n ≠ 0):OB P N o uses [(d,pInt k (k.wrap (m.tdiv n)))] [] :=
 Zhk hop hd hx hy (fun w=>by simp [binOp,Op.intDiv,hn]) (Zhv _ _)
theorem Z7b {t ty:TypeId} {k:IntKind} {m n:Int} (hop:o.op=.binOp .rem t x y ty) (hd:o.dst=some d) (hx:Opd uses x (pInt k m)) (hy:Opd uses y (pInt k n)) (hn:n ≠ 0):OB P N o uses [(d,pInt k (m.tmod n))] [] :=
 Zhk hop hd hx hy (fun w=>by simp [binOp,Op.intDiv,hn]) (Zhv _ _)
theorem Zy4 {t:TypeId} {k:IntKind} {n:Int} (hop:o.op=.unOp .xor t x) (hd:o.dst=some d) (hk:k.signed=false) (hx:Opd uses x (pInt k n)):OB P N o uses [(d,pInt k (bXor k k.max n))] [] :=
 Zce hd fun a g hh=>⟨.int k (bXor k k.max n),by
   have:(Op.intBits .xor k (if k.signed then -1 else k.max) n).run P g.w=.ok (.int k (bXor k k.max n)) g.w:=by
     rw [hk];rfl
   simp [execOp,hop,Zc9.1 (hx a g hh),Op.unary,this],Zhv _ _ g⟩
def feql (a b:Nat):Bool:=FloatKind.f64.format.order a b == some .eq
def fneq (a b:Nat):Bool:=FloatKind.f64.format.order a b != some .eq
def flss (a b:Nat):Bool:=FloatKind.f64.format.order a b == some .lt
theorem Z3s (w:World) {op:BinOp} {t ty:TypeId} {m n:Nat} (a:Act) (hop:o.op=.binOp op t x y ty) (h1:a.eval x=.float .f64 m) (h2:a.eval y=.float .f64 n) {v:Value} (h:(binOp op t (.float .f64 m) (.float .f64 n)).run P w=.ok v w):(execOp a.eval o).run P w=.ok (.value v) w:=by
 have hg:(eqGuard op t x y (.float .f64 m) (.float .f64 n)).run P w=.ok () w:=by
   unfold eqGuard
   split <;> rfl
 simp [execOp,hop,h1,h2,hg,h]
theorem Zw1 {op:BinOp} {t ty:TypeId} {m n:Nat} {v:Value} (hop:o.op=.binOp op t x y ty) (hd:o.dst=some d) (hx:Opd uses x (pFlt m)) (hy:Opd uses y (pFlt n)) (h:∀ w,(binOp op t (.float .f64 m) (.float .f64 n)).run P w=.ok v w) (hq:∀ g,q.p g v):OB P N o uses [(d,q)] [] :=
 Zce hd fun a g hh=>⟨v,Z3s g.w a hop (Zks.1 (hx a g hh)) (Zks.1 (hy a g hh)) (h g.w),hq g⟩
theorem Zty {t ty:TypeId} {m n:Nat} (hop:o.op=.binOp .eql t x y ty) (hd:o.dst=some d) (hx:Opd uses x (pFlt m)) (hy:Opd uses y (pFlt n)):OB P N o uses [(d,Z5 (feql m n))] []:=Zw1 hop hd hx hy (fun w=>rfl) (Zec _)
theorem Zyn {t ty:TypeId} {m n:Nat} (hop:o.op=.binOp .neq t x y ty) (hd:o.dst=some d) (hx:Opd uses x (pFlt m)) (hy:Opd uses y (pFlt n)):OB P N o uses [(d,Z5 (fneq m n))] []:=Zw1 hop hd hx hy (fun w=>rfl) (Zec _)
theorem Zt4 {t ty:TypeId} {m n:Nat} (hop:o.op=.binOp .lss t x y ty) (hd:o.dst=some d) (hx:Opd uses x (pFlt m)) (hy:Opd uses y (pFlt n)):OB P N o uses [(d,Z5 (flss m n))] []:=Zw1 hop hd hx hy (fun w=>rfl) (Zec _)
theorem Zpt {α β:Type} (f:α → Sem β) (h:α → β):∀ (l:List α) (w:World),(∀ x ∈ l,(f x).run P w=.ok (h x) w) → (l.mapM f).run P w=.ok (l.map h) w
 | [],w,_=>rfl
 | x :: l,w,hx=>by
   simp only [List.mapM_cons,Sem.run_bind,hx x (by simp),Result.andThen_ok,Zpt f h l w (fun y hy=>hx y (List.mem_cons_of_mem _ hy)),Sem.run_pure,List.map_cons]
theorem Zcd {t : TypeId} {F : Array Field} {zero : Value} {places : List (Nat × Nat)} (hu : P.underlying t = some (.struct F)) (hz : (P.info? t).bind (·.zero) = some zero) (hp : F.toList.map (fun f => (P.info? f.type).map fun i => (f.offset, i.size)) = places.map some)
   {parts:Array (Nat × Value)} {cells:Array Value} (hf:Instr.fill (places.toArray[·]?) zero.cells parts.toList=some cells) (w:World):(Instr.build t parts).run P w=.ok (.agg cells) w:=by
 obtain ⟨i,hi,hz⟩:=Option.bind_eq_some_iff.1 hz
 have hm:(F.mapM fun f=>do pure (f.offset,← sizeOf f.type):Sem (Array (Nat × Nat))).run P w=.ok places.toArray w:=by
   have h1:∀ f ∈ F.toList,((do pure (f.offset,← sizeOf f.type):Sem (Nat × Nat))).run P w=.ok (f.offset,((P.info? f.type).map (·.size)).getD 0) w:=by
     intro f hf'
     have:(P.info? f.type).isSome:=by
       have:((P.info? f.type).map fun i=>(f.offset,i.size)) ∈ places.map some:=by rw [← hp];exact List.mem_map.2 ⟨f,hf',rfl⟩
       obtain ⟨p,_,hp'⟩:=List.mem_map.1 this
       cases h:P.info? f.type with
       | none=>rw [h] at hp';cases hp'
       | some _=>rfl
     obtain ⟨i,hi⟩:=Option.isSome_iff_exists.1 this
     simp [sizeOf,typeInfo,hi]
   have h2:=Zpt (P:=P) _ _ F.toList w h1
   rw [Array.mapM_eq_mapM_toList]
   simp only [Sem.run_map,h2,Result.andThen_ok]
   congr 1
   apply Array.ext'
   simp only [List.toList_toArray]
   have h3:F.toList.map (fun f=>some (f.offset,((P.info? f.type).map (·.size)).getD 0))=places.map some:=by
     rw [← hp]
     refine List.map_congr_left fun f hf'=>?_
     have:((P.info? f.type).map fun i=>(f.offset,i.size)) ∈ places.map some:=by rw [← hp];exact List.mem_map.2 ⟨f,hf',rfl⟩
     obtain ⟨p,_,hp'⟩:=List.mem_map.1 this
     cases h:P.info? f.type with
     | none=>rw [h] at hp';cases hp'
     | some _=>rfl
   have h4:=congrArg (List.filterMap id) h3
   simpa [List.filterMap_map] using h4
 simp only [Instr.build,zeroValue,typeInfo,Sem.run_bind,run_program,Result.andThen_ok,hi,Sem.run_pure,hz,run_underlying hu]
 simp only [hm,Result.andThen_ok,hf]
 rfl
theorem Zcq {t:TypeId} {parts:Array (Nat × Operand)} (hop:o.op=.build t parts) (hd:o.dst=some d) (h:∀ (a:Act) g,Zdq uses a g → ∃ v,(Instr.build t (parts.map fun (i,x)=>(i,a.eval x))).run P g.w=.ok v g.w ∧ q.p g v):OB P N o uses [(d,q)] [] :=
 Zce hd fun a g hh=>by
   obtain ⟨v,hr,hq⟩:=h a g hh
   exact ⟨v,by simp [execOp,hop,hr],hq⟩
end
theorem Z5e {c z:Bool} (h:c=true):true=(c || z):=by rw [h];rfl
theorem Z6a {c z:Bool} (h:c=false):z=(c || z):=by rw [h];rfl
theorem Z2v {c z:Bool} (h:c=true):z=(c && z):=by rw [h];rfl
theorem Z3n {c z:Bool} (h:c=false):false=(c && z):=by rw [h];rfl
theorem Opd.to {uses:Z4} {x:Operand} {q q':Pd} (h:Opd uses x q) (e:q=q'):Opd uses x q':=e ▸ h
theorem bA {a b:Bool} (h:a=true) (k:b=true):(a && b)=true:=by rw [h,k];rfl
theorem bNF {a:Bool} (h:a=false):(!a)=true:=by rw [h];rfl
theorem Zuy (off : Nat) : ∀ (l : List Value) (k : Nat) (acc : Array Value), off + k + l.length ≤ acc.size →
   (l.zipIdx k).foldl (fun cs (p:Value × Nat)=>cs.setIfInBounds (off + p.2) p.1) acc=(acc.toList.take (off + k) ++ l ++ acc.toList.drop (off + k + l.length)).toArray
 | [],k,acc,_=>by simp
 | c :: l,k,acc,h=>by
   simp only [List.zipIdx_cons,List.foldl_cons]
   have hlt:off + k < acc.size:=by simp at h;omega
   rw [Zuy off l (k + 1) (acc.setIfInBounds (off + k) c) (by simp at h ⊢;omega)]
   apply Array.ext'
   simp only [Array.toList_setIfInBounds,List.length_cons]
   apply List.ext_getElem?
   intro i
   simp only [List.getElem?_append,List.length_append,List.length_take,List.length_set,List.getElem?_take,List.getElem?_set,List.getElem?_drop,Array.length_toList,List.length_cons]
   have hsz:off + k + (l.length + 1) ≤ acc.size:=by simpa using h
   by_cases h1:i < off + k
   · rw [if_pos (by omega),if_pos (by omega),if_pos (by omega),if_neg (by omega),if_pos (by omega),if_pos (by omega),if_pos (by omega)]
   · by_cases h2:i=off + k
     · subst h2
       rw [if_pos (by omega),if_pos (by omega),if_pos (by omega),if_pos rfl,if_pos (by omega),if_pos (by omega),if_neg (by omega)]
       rw [show off + k - min (off + k) acc.size=0 by omega]
       rfl
     · by_cases h3:i < off + k + (l.length + 1)
       · rw [if_pos (by omega),if_neg (by omega),if_pos (by omega),if_neg (by omega)]
         rw [show i - min (off + k) acc.size=(i - min (off + (k + 1)) acc.size) + 1 by omega,List.getElem?_cons_succ]
       · rw [if_neg (by omega),if_neg (by omega),if_neg (by omega)]
         congr 1
         omega
theorem Z23 (off : Nat) (l : List Value) (acc : Array Value) (h : off + l.length ≤ acc.size) :
   l.toArray.zipIdx.foldl (fun cs (c,j)=>cs.setIfInBounds (off + j) c) acc=(acc.toList.take off ++ l ++ acc.toList.drop (off + l.length)).toArray:=by
 have:=Zuy off l 0 acc (by simpa using h)
 simp only [Nat.add_zero] at this
 rw [← this,← Array.foldl_toList]
 congr 1
 simp
def idxL {α:Type}:Nat → List α → List (Nat × α)
 | _,[]=>[]
 | k,x :: xs=>(k,x) :: idxL (k + 1) xs
theorem Zw3 {α β:Type} (f:α → β):∀ (k:Nat) (xs:List α),(idxL k xs).map (fun (i,x)=>(i,f x))=idxL k (xs.map f)
 | _,[]=>rfl
 | k,x :: xs=>by simp [idxL,Zw3 f (k + 1) xs]
theorem Zxf (sz : Nat) : ∀ (vs : List Value) (css : List (List Value)) (k : Nat) (acc : Array Value), vs.map (·.cells) = css.map List.toArray → (∀ c ∈ css, c.length = sz) → (k + vs.length) * sz ≤ acc.size →
   Instr.fill (fun i=>some (i * sz,sz)) acc (idxL k vs)=some (acc.toList.take (k * sz) ++ css.flatten ++ acc.toList.drop ((k + vs.length) * sz)).toArray
 | [],css,k,acc,hc,_,_=>by
   have:css=[]:=by simpa using hc.symm
   subst this
   simp [idxL,Instr.fill]
 | v :: vs,[],k,acc,hc,_,_=>by simp at hc
 | v :: vs,c :: css,k,acc,hc,hl,hs=>by
   simp only [List.map_cons,List.cons.injEq] at hc
   have hcl:=hl c (by simp)
   have hs':(k + 1 + vs.length) * sz ≤ acc.size:=by simpa [Nat.add_assoc,Nat.add_comm 1] using hs
   have h1:k * sz + sz ≤ acc.size:=by
     have:(k + 1) * sz ≤ (k + 1 + vs.length) * sz:=Nat.mul_le_mul_right _ (by omega)
     rw [Nat.add_mul] at this;omega
   simp only [idxL,Instr.fill,hc.1,List.size_toArray,hcl]
   rw [if_neg (by simp;omega)]
   rw [Z23 (k * sz) c acc (by rw [hcl];exact h1)]
   have hlen:(acc.toList.take (k * sz) ++ c ++ acc.toList.drop (k * sz + c.length)).length=acc.size:=by simp [hcl];omega
   rw [Zxf sz vs css (k + 1) _ hc.2 (fun x hx=>hl x (by simp [hx])) (by simp only [List.size_toArray,hlen];exact hs')]
   have e1:(k + 1) * sz=k * sz + sz:=by rw [Nat.add_mul,Nat.one_mul]
   have hA:(acc.toList.take (k * sz) ++ c ++ acc.toList.drop (k * sz + c.length)).take ((k + 1) * sz)=acc.toList.take (k * sz) ++ c:=by
     rw [List.take_append_of_le_length (by simp [hcl];omega)]
     exact List.take_of_length_le (by simp [hcl];omega)
   have hB:(acc.toList.take (k * sz) ++ c ++ acc.toList.drop (k * sz + c.length)).drop ((k + 1 + vs.length) * sz)=acc.toList.drop ((k + (v :: vs).length) * sz):=by
     have e2:(k + 1 + vs.length) * sz=k * sz + sz + vs.length * sz:=by rw [Nat.add_mul,Nat.add_mul,Nat.one_mul]
     have e3:(k + (v :: vs).length) * sz=k * sz + sz + vs.length * sz:=by rw [List.length_cons,show k + (vs.length + 1)=k + 1 + vs.length by omega,e2]
     rw [e2,e3,List.drop_append]
     rw [List.drop_of_length_le (by simp [hcl];omega),List.nil_append,List.drop_drop]
     congr 1
     simp [hcl];omega
   rw [hA,hB]
   simp only [List.flatten_cons,List.append_assoc]
section
variable {P:Program} {N:Nat} {o:Oper} {uses:Z4} {d:Nat} {q q':Pd} {x y z:Operand}
variable {α β:Type} {dk:Kd α} {di:Kd β} {t e:TypeId}
inductive OpdA (uses:Z4) (dk:Kd α):List Operand → List α → Prop
 | nil:OpdA uses dk [] []
 | cons {x:Operand} {y:α} {xs:List Operand} {ys:List α}:Opd uses x (dk.pd y) → OpdA uses dk xs ys → OpdA uses dk (x :: xs) (y :: ys)
theorem OpdA.cells {xs : List Operand} {ys : List α} (h : OpdA uses dk xs ys) {a : Act} {g : G} (hh : Zdq uses a g) : xs.length = ys.length ∧ ∃ css : List (List Value), css.length = ys.length ∧ (xs.map a.eval).map (·.cells) = css.map List.toArray ∧ (∀ c ∈ css, c.length = dk.sz) ∧
   ∀ i y,ys[i]?=some y → dk.K g y (seg css.flatten (i * dk.sz) dk.sz):=by
 induction h with
 | nil=>exact ⟨rfl,[],rfl,rfl,(fun _ h=>by cases h),(fun i y h=>by simp at h)⟩
 | @cons x y xs ys hx _ ih =>
   obtain ⟨hl,css,h1,h2,h3,h4⟩:=ih
   obtain ⟨cs,hk,hv⟩:=hx a g hh
   have hcl:=dk.len hk
   refine ⟨by simp [hl],cs :: css,by simp [h1],?_,?_,?_⟩
   · simp only [List.map_cons,List.cons.injEq]
     exact ⟨by rw [hv];exact Kd.cells_mkV hk,h2⟩
   · intro c hc
     rcases List.mem_cons.1 hc with rfl | hc
     · exact hcl
     · exact h3 c hc
   · intro i z hz
     cases i with
     | zero =>
       simp at hz;subst hz
       rw [List.flatten_cons,Nat.zero_mul]
       have:seg (cs ++ css.flatten) 0 dk.sz=cs:=by
         simp only [seg,List.drop_zero];rw [← hcl];exact List.take_left
       rw [this];exact hk
     | succ i =>
       rw [List.flatten_cons,show (i + 1) * dk.sz=cs.length + i * dk.sz by rw [Nat.add_mul,hcl];omega,Zi2]
       exact h4 i z (by simpa using hz)
theorem Zx2 {css:List (List Value)} {sz:Nat} (h:∀ c ∈ css,c.length=sz):css.flatten.length=css.length * sz:=by
 induction css with
 | nil=>simp
 | cons c css ih=>simp only [List.flatten_cons,List.length_append,List.length_cons,h c (by simp),ih (fun x hx=>h x (by simp [hx])),Nat.add_mul];omega
theorem Zyd {bytes : Nat} (hT : TE P t e dk bytes) {xs : List Operand} {ys : List α} (hx : OpdA uses dk xs ys) (h24 : xs.length * dk.sz ≤ 16777216) {a : Act} {g : G} (hh : Zdq uses a g) :
   ∃ cells:List Value,cells.length=ys.length * dk.sz ∧ (∀ i y,ys[i]?=some y → dk.K g y (seg cells (i * dk.sz) dk.sz)) ∧
     (Instr.buildSlice t xs.length ((idxL 0 xs).toArray.map fun (i,x)=>(i,a.eval x))).run P g.w=.ok (.slice (some ⟨g.w.heap.size,0,none⟩) ys.length ys.length) (g.w.alloc (.cells cells.toArray e)):=by
 obtain ⟨hl,css,h1,h2,h3,h4⟩:=hx.cells hh
 obtain ⟨i,z,hi,hz,hsz,hby,hzs⟩:=hT.info
 refine ⟨css.flatten,by rw [Zx2 h3,h1],h4,?_⟩
 have hf:∀ acc:Array Value,acc.size=xs.length * dk.sz → Instr.fill (fun i=>some (i * dk.sz,dk.sz)) acc (idxL 0 (xs.map a.eval))=some css.flatten.toArray:=by
   intro acc hacc
   rw [Zxf dk.sz (xs.map a.eval) css 0 acc h2 h3 (by simp [hacc])]
   simp only [Nat.zero_mul,List.take_zero,List.nil_append,Nat.zero_add,List.length_map]
   rw [List.drop_of_length_le (by simp [hacc]),List.append_nil]
 have hmap:((idxL 0 xs).toArray.map fun (i,x)=>(i,a.eval x)).toList=idxL 0 (xs.map a.eval):=by
   simp only [List.map_toArray]
   exact Zw3 a.eval 0 xs
 simp only [Instr.buildSlice,Sem.run_bind,run_underlying hT.und,Result.andThen_ok,sizeOf,typeInfo,run_program,hi,Sem.run_pure,hsz]
 rw [if_neg (by omega)]
 simp only [pure_bind]
 rw [← hl]
 by_cases h0:xs.length * dk.sz=0
 · have:=hf ((Array.range (xs.length * dk.sz)).map (fun x=>(#[]:Array Value)[x % (#[]:Array Value).size]!)) (by simp)
   simp only [h0,if_true,Sem.run_pure,Result.andThen_ok,hmap] at this ⊢
   rw [this]
   simp [newRow]
 · have:=hf ((Array.range (xs.length * dk.sz)).map (fun x=>z.cells[x % z.cells.size]!)) (by simp)
   simp only [if_neg h0,zeroValue,typeInfo,Sem.run_bind,run_program,Result.andThen_ok,hi,Sem.run_pure,hz,hmap,this]
   simp [newRow]
theorem Zfs {bytes:Nat} (hT:TE P t e dk bytes) {xs:List Operand} {ys:List α} (hx:OpdA uses dk xs ys) (h24:xs.length * dk.sz ≤ 16777216) (hop:o.op=.buildSlice t xs.length (idxL 0 xs).toArray) (hd:o.dst=some d):OB P N o uses [(d,dk.sl.pd ys)] [] :=
 Zke hd fun a g hh=>by
   obtain ⟨cells,hl,hk,hr⟩:=Zyd hT hx h24 hh
   have h0:=hT.sz
   have hyl:ys.length ≤ 16777216:=by
     have:=(hx.cells hh).1
     exact Nat.le_trans (Nat.le_trans (by omega) (Nat.le_mul_of_pos_right xs.length h0)) h24
   refine ⟨_,g.push cells.toArray e (fun _=>True) 0,by rw [Zit];simp only [List.map_toArray] at hr;simp [execOp,hop];rw [hr];rfl,Zo9 ..,?_⟩
   refine Kd.sl_V.2 ⟨_,_,rfl,Nat.le_refl _,by omega,.inr ⟨_,0,rfl,fun i u hu=>⟨_,dk.mono (Zoa ..) (hk i u hu),?_⟩⟩⟩
   exact (Zoz g cells e 0).seg _ _
theorem Znp {bytes:Nat} (j:Nat) (hT:TE P t e dk bytes) {xs:List Operand} {ys:List α} (hx:OpdA uses dk xs ys) (h24:xs.length * dk.sz ≤ 16777216) (hop:o.op=.buildSlice t xs.length (idxL 0 xs).toArray) (hd:o.dst=some d):OB P N o uses [(d,pRow dk e j ys)] [j + 1] :=
 Zke hd fun a g hh=>by
   obtain ⟨cells,hl,hk,hr⟩:=Zyd hT hx h24 hh
   have h0:=hT.sz
   have hyl:ys.length ≤ 16777216:=by
     have:=(hx.cells hh).1
     exact Nat.le_trans (Nat.le_trans (by omega) (Nat.le_mul_of_pos_right xs.length h0)) h24
   have hs:=Zny g cells.toArray e (fun i=>i < ys.length * dk.sz) (j + 1)
   refine ⟨_,g.push cells.toArray e (fun i=>i < ys.length * dk.sz) (j + 1),by rw [Zit];simp only [List.map_toArray] at hr;simp [execOp,hop];rw [hr];rfl,hs,?_⟩
   exact Zmx rfl (by rw [Zit,Zkb];exact Nat.lt_succ_self _) (by simp [G.push]) (Znk ..) (Nat.le_refl _) (by simp only [maxLen];omega) (by simpa using hl) (fun i u hu=>dk.mono hs.le (hk i u hu)) (fun i=>by simp [G.push]) h0 (by omega)
theorem Zf6 {c : Option Nat} {s j off : Nat} {v v' v0 : α} {y0 y' : β} (hT : Ty P t di) (hop : o.op = .store t x z) (hd : o.dst = none) (hs : Opd uses (.tmp s) (Zbf c dk j v)) (hx : Opd uses x (Zeq dk j v0 off di y0)) (hz : Opd uses z (di.pd y'))
   (hw:∀ g cs ys,dk.K g v cs → di.K g y' ys → off + ys.length ≤ cs.length ∧ dk.K g v' (Zt cs off ys)):OB P N o uses [(s,Zbf c dk j v')] [j + 1] :=
 Zoh hd fun a g hh=>by
   obtain ⟨b,cs,t1,hv,hm,hcb⟩:=hs a g hh
   obtain ⟨b2,cs2,t2,hv2,hm2,_⟩:=hx a g hh
   obtain ⟨ys,hk,hw2⟩:=hz a g hh
   have hb:b2=b:=hm.2.2.1 b2 hm2.1 hm2.2.1
   subst hb
   obtain ⟨hfit,hK⟩:=hw g cs ys hm.2.2.2.2.1 hk
   have hst:=Zgf (off:=off) hT hm.2.2.2.1 hk (by simpa using hfit)
   have hv':Act.at a s=.pointer (some ⟨b2,0,none⟩):=hv
   refine ⟨g.wr b2 (Zt cs off ys).toArray hm.1 hm.2.2.2.2.2 (fun _=>False) (j + 1),?_,Zmn hm.2.1 (.inr rfl) hm.2.2.2.2.2,?_⟩
   · simp [execOp,hop,hv2,hw2,Instr.storeAt,Instr.sureAddr,hst,wr_w,Zt]
   · intro e he
     rw [List.mem_singleton.1 he]
     exact ⟨b2,_,t1,hv',Zt6 hm hK,hcb⟩
def cut (xs:List α) (l h:Int):Option (List α):=if 0 ≤ l ∧ l ≤ h ∧ h ≤ xs.length then some ((xs.drop l.toNat).take (h.toNat - l.toNat)) else none
theorem Z57 {g : G} {xs r : List α} {l h : Int} {A : Option Addr} {c : Nat} (hc : xs.length ≤ c) (hm : xs.length ≤ 9223372036854775807) (hr : dk.Row g A xs) (hcut : cut xs l h = some r) :
   0 ≤ l ∧ l ≤ h ∧ h ≤ xs.length ∧ dk.sl.V g r (.slice (if c=l.toNat then A else A.map (·.add (l.toNat * dk.sz))) (h.toNat - l.toNat) (c - l.toNat)):=by
 unfold cut at hcut
 split at hcut
 · rename_i hb
   obtain ⟨h0,h1,h2⟩:=hb
   injection hcut with hcut
   subst hcut
   refine ⟨h0,h1,h2,?_⟩
   have hlen:((xs.drop l.toNat).take (h.toNat - l.toNat)).length=h.toNat - l.toNat:=by simp;omega
   refine Kd.sl_V.2 ⟨_,c - l.toNat,by rw [hlen],by rw [hlen];omega,by rw [hlen];omega,?_⟩
   rcases hr with rfl | ⟨b,o,rfl,hr⟩
   · left;simp
   · by_cases he:c=l.toNat
     · left
       apply List.eq_nil_of_length_eq_zero
       rw [hlen];omega
     · right
       refine ⟨b,o + l.toNat * dk.sz,by rw [if_neg he];simp [Zg8],fun i u hu=>?_⟩
       rw [List.getElem?_take] at hu
       split at hu
       · rw [List.getElem?_drop] at hu
         obtain ⟨cs,h3,h4⟩:=hr _ u hu
         exact ⟨cs,h3,by rwa [show o + l.toNat * dk.sz + i * dk.sz=o + (l.toNat + i) * dk.sz by rw [Nat.add_mul];omega]⟩
       · cases hu
 · cases hcut
theorem Zuj {g : G} {xs r : List α} {v : Value} (ht : P.underlying t = some (.slice e)) (hs : (P.info? e).map (·.size) = some dk.sz) (hv : dk.sl.V g xs v) {l h : Int} (hcut : cut xs l h = some r) (lo hi : Option Value)
   (hlo:(lo=none ∧ l=0) ∨ ∃ k,lo=some (.int k l)) (hhi:(hi=none ∧ h=xs.length) ∨ ∃ k,hi=some (.int k h)):∃ u,(Instr.sliceAt t v lo hi none).run P g.w=.ok u g.w ∧ dk.sl.V g r u:=by
 obtain ⟨A,c,rfl,hc,hm,hr⟩:=Kd.sl_V.1 hv
 obtain ⟨h0,h1,h2,hV⟩:=Z57 hc hm hr hcut
 refine ⟨_,?_,hV⟩
 have hL:l.toNat ≤ h.toNat:=by omega
 have hl':(0 ≤ l ∧ l ≤ (h.toNat:Int)):=by omega
 have hh':(0 ≤ h ∧ h ≤ (c:Int)):=by omega
 rcases hlo with ⟨rfl,rfl⟩ | ⟨k,rfl⟩ <;> rcases hhi with ⟨rfl,rfl⟩ | ⟨k',rfl⟩ <;>
   simp_all [Instr.sliceAt,Instr.slice,Instr.sliceBounds,Instr.sliceBound,run_underlying ht,Zi0 hs,asIntOf]
theorem Zyf {xs r:List α} {l:Int} {k:IntKind} (ht:P.underlying t=some (.slice e)) (hs:(P.info? e).map (·.size)=some dk.sz) (hop:o.op=.slice t x (some y) none none) (hd:o.dst=some d) (hx:Opd uses x (dk.sl.pd xs)) (hy:Opd uses y (pInt k l)) (hc:cut xs l (xs.length:Int)=some r):OB P N o uses [(d,dk.sl.pd r)] [] :=
 Zce hd fun a g hh=>by
   obtain ⟨u,hr,hu⟩:=Zuj (P:=P) ht hs (hx a g hh) hc (some (.int k l)) none (.inr ⟨k,rfl⟩) (.inl ⟨rfl,rfl⟩)
   exact ⟨u,by simp [execOp,hop,Zc9.1 (hy a g hh),hr],hu⟩
theorem Z5g {xs r:List α} {h:Int} {k:IntKind} (ht:P.underlying t=some (.slice e)) (hs:(P.info? e).map (·.size)=some dk.sz) (hop:o.op=.slice t x none (some z) none) (hd:o.dst=some d) (hx:Opd uses x (dk.sl.pd xs)) (hz:Opd uses z (pInt k h)) (hc:cut xs 0 h=some r):OB P N o uses [(d,dk.sl.pd r)] [] :=
 Zce hd fun a g hh=>by
   obtain ⟨u,hr,hu⟩:=Zuj (P:=P) ht hs (hx a g hh) hc none (some (.int k h)) (.inl ⟨rfl,rfl⟩) (.inr ⟨k,rfl⟩)
   exact ⟨u,by simp [execOp,hop,Zc9.1 (hz a g hh),hr],hu⟩
def sidx (s:ByteArray) (n:Int):Option Int:=if 0 ≤ n then (s[n.toNat]?).map (fun b=>(b.toNat:Int)) else none
theorem Zcj {s:ByteArray} {n r:Int} {k:IntKind} (ht:P.underlying t=some .string) (hop:o.op=.index t x y) (hd:o.dst=some d) (hx:Opd uses x (pStr s)) (hy:Opd uses y (pInt k n)) (hr:sidx s n=some r):OB P N o uses [(d,pInt .u8 r)] [] :=
 Zce hd fun a g hh=>by
   unfold sidx at hr
   split at hr
   · rename_i h0
     obtain ⟨b,hb,rfl⟩:=Option.map_eq_some_iff.1 hr
     exact ⟨.int .u8 b.toNat,by simp [execOp,hop,Instr.index,Zcz.1 (hx a g hh),Zc9.1 (hy a g hh),asIntOf,run_underlying ht,h0,hb],Zhv _ _ g⟩
   · cases hr
end
section
variable {P:Program} {N:Nat} {o:Oper} {uses:Z4} {d:Nat} {q q':Pd} {x y z:Operand}
abbrev Free (A:List Pd):Prop:=A.all (fun q=>q.fp.isEmpty)=true
theorem Free.at {A:List Pd} (hA:Free A) {i:Nat} {qi:Pd} (h:A[i]?=some qi):qi.fp=[]:=by
 have:=List.all_eq_true.1 hA qi (List.mem_of_getElem? h)
 simpa using this
theorem ArgsOk.le {A:List Pd} {g g':G} {args:List Value} (hA:Free A) (h:g.le g') (h1:g'.w.os=g.w.os) (h2:g'.w.tape=g.w.tape) (h3:g'.w.output=g.w.output) (ha:ArgsOk A g args):ArgsOk A g' args :=
 ⟨ha.1,fun i qi u hq hu=>Pd.le (hA.at hq) h h1 h2 h3 (ha.2 i qi u hq hu)⟩
theorem Zvc {A C:List Pd} {g:G} {as cs:List Value} (h:ArgsOk A g as) (k:ArgsOk C g cs):ArgsOk (A ++ C) g (as ++ cs) :=
 ⟨by simp [h.1,k.1],fun i qi u hq hu=>by
   rw [List.getElem?_append] at hq hu
   rw [h.1] at hu
   split at hq
   · rename_i hi;rw [if_pos hi] at hu;exact h.2 i qi u hq hu
   · rename_i hi;rw [if_neg hi] at hu;exact k.2 _ qi u hq hu⟩
def pClo (f:FuncId) (C:List Pd) (hC:Free C):Pd:=⟨fun g v=>∃ caps:List Value,v=.func (.func f) #[] caps.toArray ∧ ArgsOk C g caps,[],fun s hd ⟨caps,e,h⟩=>⟨caps,e,h.1,fun i qi u hq hu=>qi.st s (by rw [hC.at hq];intro j hj;cases hj) (h.2 i qi u hq hu)⟩⟩
theorem Zq3 (a:Act) (f:Nat):a.eval (.func f)=.func (.func f) #[] #[]:=rfl
theorem Opd.fnc {f:Nat}:Opd uses (.func f) (pClo f [] rfl):=fun _ _ _=>⟨[],rfl,Zo1⟩
theorem Z2f {f:FuncId} {C A:List Pd} {hC:Free C} {xs:List Operand} {ty:Array TypeId} (he:Zk P f) (hok:FnOk P f (A ++ C) q) (hop:o.op=.call { callee:=.value x,args:=xs.toArray,argTypes:=ty }) (hd:o.dst=some d) (hx:Opd uses x (pClo f C hC)) (hargs:OpdL uses xs A):OB P N o uses [(d,q)] []:=by
 intro a g K Q hN hdN hu hK
 obtain ⟨caps,hv,hc⟩:=hx a g hu
 have hr:(execOp a.eval o).run P g.w=.ok (.enter f (xs.map a.eval ++ caps).toArray) g.w:=by
   simp [execOp,hop,resolve,hv,Deferred.ofValue,invoke,Zjp he]
 unfold Oper.wp
 rw [hr]
 show Calls P f _ g.w _
 refine Calls.mono (hok g _ (Zvc (hargs.ok hu) hc)) ?_
 rintro e w' ⟨g',v,rfl,rfl,hs,hq⟩
 refine hK v g' hs fun e he=>?_
 rw [List.mem_singleton.1 he,hd,Zfy v (by rw [hN];exact hdN d hd)]
 exact hq
structure Z7i (D:Nat → Prop) (g g':G):Prop where
 le:g.le g'
 os:g'.w.os=g.w.os
 tape:g'.w.tape=g.w.tape
 output:g'.w.output=g.w.output
 same:∀ b,b < g.w.heap.size → ¬ D b → g'.w.heap[b]?=g.w.heap[b]? ∧ g'.pr b=g.pr b
theorem Zr1 (w:World) (k:Nat) {t e:TypeId} (ht:P.underlying t=some (.pointer e)) (p:Option Addr):(Op.equalIn (k + 1) t (.pointer p) (.pointer none)).run P w=.ok p.isNone w:=by
 cases p <;> simp [Op.equalIn,run_underlying ht]
theorem Zn5 (w:World) {t e:TypeId} (ht:P.underlying t=some (.pointer e)) (p:Option Addr):(Op.equal t (.pointer p) (.pointer none)).run P w=.ok p.isNone w:=Zr1 w 9999 ht p
theorem Zv4 {r:Bool} {t ty e:Nat} (ht:P.underlying t=some (.pointer e)) (hop:o.op=.binOp .eql t x (.const (.pointer none)) ty) (hd:o.dst=some d) (hx:Opd uses x q) (hq:∀ g v,q.p g v → ∃ p,v=.pointer p ∧ p.isNone=r):OB P N o uses [(d,Z5 r)] [] :=
 Zce hd fun a g hh=>by
   obtain ⟨p,hv,rfl⟩:=hq g _ (hx a g hh)
   refine ⟨.bool p.isNone,?_,Zec _ g⟩
   have hg:(eqGuard .eql t x (.const (.pointer none)) (.pointer p) (.pointer none)).run P g.w=.ok () g.w:=by
     unfold eqGuard
     split <;> rfl
   have hb:(binOp .eql t (.pointer p) (.pointer none)).run P g.w=.ok (.bool p.isNone) g.w:=by
     show (do pure (.bool (← Op.equal t (.pointer p) (.pointer none))):Sem Value).run P g.w=_
     simp only [Sem.run_bind,Zn5 g.w ht,Result.andThen_ok,Sem.run_pure]
   have hc:a.eval (.const (.pointer none))=.pointer none:=rfl
   simp [execOp,hop,hv,hc,hg,hb]
theorem Z1f {r:Bool} {t ty e:Nat} (ht:P.underlying t=some (.pointer e)) (hop:o.op=.binOp .neq t x (.const (.pointer none)) ty) (hd:o.dst=some d) (hx:Opd uses x q) (hq:∀ g v,q.p g v → ∃ p,v=.pointer p ∧ p.isNone=r):OB P N o uses [(d,Z5 (!r))] [] :=
 Zce hd fun a g hh=>by
   obtain ⟨p,hv,rfl⟩:=hq g _ (hx a g hh)
   refine ⟨.bool (!p.isNone),?_,Zec _ g⟩
   have hg:(eqGuard .neq t x (.const (.pointer none)) (.pointer p) (.pointer none)).run P g.w=.ok () g.w:=by
     unfold eqGuard
     split <;> rfl
   have hb:(binOp .neq t (.pointer p) (.pointer none)).run P g.w=.ok (.bool (!p.isNone)) g.w:=by
     show (do pure (.bool (!(← Op.equal t (.pointer p) (.pointer none)))):Sem Value).run P g.w=_
     simp only [Sem.run_bind,Zn5 g.w ht,Result.andThen_ok,Sem.run_pure]
   have hc:a.eval (.const (.pointer none))=.pointer none:=rfl
   simp [execOp,hop,hv,hc,hg,hb]
def FinP (Φ:Value → G → Prop):Ending → World → Prop:=fun e w'=>∃ g1 v,e=.returned v ∧ w'=g1.w ∧ Φ v g1
theorem endP {fn:Func} {Φ:Value → G → Prop} {r:ResultVar} {v:Value} {a:Act} {g:G} {L:Z4} (hr:fn.results=#[r]) (h:St N L a g) (h1:Zil P a g r v) (hq:Φ v g):bodyPost P fn (FinP Φ) .ret a g.w :=
 ⟨h.df,v,by
   have h1':(Zex a.tmps r).run P g.w=.ok v g.w:=h1
   simp [Zgo,hr,h1'],g,v,rfl,rfl,hq⟩
end
section
variable {P:Program} {N:Nat} {o:Oper} {uses:Z4} {d:Nat} {q q':Pd} {x y z:Operand}
def Ext (P : Program) (f : FuncId) (e : Array Value → Sem Value) : Prop := ∃ fn, P.funcs[f]? = some fn ∧ (fn.name == "runtime.NumGoroutine") = false ∧ fn.body.isNone = true ∧ (Extern.findNext fn).isNone = true ∧ Extern.find fn = some e
theorem Z5y {f:FuncId} {e:Array Value → Sem Value} (h:Ext P f e) (args:Array Value) (w:World):(callFunc f args).run P w=((e args).run P w).andThen fun v w'=>.ok (.value v) w':=by
 obtain ⟨fn,h1,h2,h3,h4,h5⟩:=h
 have h4':Extern.findNext fn=none:=by simpa using h4
 have h2' : fn.name ≠ "runtime.NumGoroutine" := by simpa using h2
 have h3':fn.body=none:=by simpa using h3
 simp [callFunc,h1,h2',h3',h4',h5,run_mark]
theorem Z1m {f : FuncId} {e : Array Value → Sem Value} {xs : List Operand} {ty : Array TypeId} (he : Ext P f e) (hop : o.op = .call { callee := .value (.func f), args := xs.toArray, argTypes := ty }) (hd : o.dst = some d)
   (h:∀ (a:Act) g,Zdq uses a g → ∃ v,(e (xs.map a.eval).toArray).run P g.w=.ok v g.w ∧ q.p g v):OB P N o uses [(d,q)] [] :=
 Zce hd fun a g hh=>by
   obtain ⟨v,hr,hq⟩:=h a g hh
   exact ⟨v,by simp [execOp,hop,resolve,Zq3,Deferred.ofValue,invoke,Z5y he,hr],hq⟩
theorem Z4j (b:Nat) (g:G):(pFlt b).p g (.float .f64 b):=Zks.2 rfl
theorem Zq4 {f:FuncId} {b:Nat} {ty:Array TypeId} (he:Ext P f Extern.MathFloatBits.float64bits) (hop:o.op=.call { callee:=.value (.func f),args:=#[x],argTypes:=ty }) (hd:o.dst=some d) (hx:Opd uses x (pFlt b)):OB P N o uses [(d,pInt .u64 (b:Int))] [] :=
 Z1m (xs:=[x]) he hop hd fun a g hh=>⟨.int .u64 b,by simp only [List.map_cons,List.map_nil,Zks.1 (hx a g hh)];rfl,Zhv _ _ g⟩
theorem Zrk {f:FuncId} {n:Int} {ty:Array TypeId} (he:Ext P f Extern.MathFloatBits.float64frombits) (hop:o.op=.call { callee:=.value (.func f),args:=#[x],argTypes:=ty }) (hd:o.dst=some d) (hx:Opd uses x (pInt .u64 n)):OB P N o uses [(d,pFlt n.toNat)] [] :=
 Z1m (xs:=[x]) he hop hd fun a g hh=>⟨.float .f64 n.toNat,by simp only [List.map_cons,List.map_nil,Zc9.1 (hx a g hh)];rfl,Z4j _ g⟩
theorem Z7l {op:BinOp} {t ty:TypeId} {m n:Nat} {v:Value} (hop:o.op=.binOp op t x y ty) (hd:o.dst=some d) (hx:Opd uses x (pFlt m)) (hy:Opd uses y (pFlt n)) (h:∀ w,(binOp op t (.float .f64 m) (.float .f64 n)).run P w=.ok v w) (hq:∀ g,q.p g v):OB P N o uses [(d,q)] [] :=
 Zce hd fun a g hh=>⟨v,by
   have hg:(eqGuard op t x y (.float .f64 m) (.float .f64 n)).run P g.w=.ok () g.w:=by
     unfold eqGuard
     split <;> rfl
   simp [execOp,hop,Zks.1 (hx a g hh),Zks.1 (hy a g hh),hg,h],hq g⟩
theorem Z4x {t ty:TypeId} {m n r:Nat} (hop:o.op=.binOp .quo t x y ty) (hd:o.dst=some d) (hx:Opd uses x (pFlt m)) (hy:Opd uses y (pFlt n)) (hr:Ieee.double.div m n=some r):OB P N o uses [(d,pFlt r)] [] :=
 Z7l hop hd hx hy (fun w=>by simp [binOp,Op.floatArith,FloatKind.format,hr]) (Z4j r)
theorem Zwx {t ty:TypeId} {k yk:IntKind} {m n c:Int} (hop:o.op=.binOp .shl t x y ty) (hd:o.dst=some d) (hx:Opd uses x (pInt k m)) (hy:Opd uses y (pInt yk n)) (hn:0 ≤ n) (hc:k.wrap (m * 2 ^ (min n.toNat k.bits))=c):OB P N o uses [(d,pInt k c)] [] :=
 Zce hd fun a g hh=>⟨.int k c,by
   have hg:(eqGuard .shl t x y (.int k m) (.int yk n)).run P g.w=.ok () g.w:=by
     unfold eqGuard
     split <;> rfl
   have hb:(binOp .shl t (.int k m) (.int yk n)).run P g.w=.ok (.int k c) g.w:=by
     simp only [binOp,Op.shift]
     rw [if_neg (by omega)]
     simp [hc]
   simp [execOp,hop,Zc9.1 (hx a g hh),Zc9.1 (hy a g hh),hg,hb],Zhv _ _ g⟩
def Z4m {α:Type} (xs:List α):Pd:=⟨fun _ v=>∃ c,v=.bool c ∧ (c=true → xs=[]),[],fun _ _ h=>h⟩
theorem Zsa (w:World) (k:Nat) {t e:TypeId} (ht:P.underlying t=some (.slice e)) (A:Option Addr) (n c:Nat):(Op.equalIn (k + 1) t (.slice A n c) (.slice none 0 0)).run P w=.ok A.isNone w:=by
 cases A <;> simp [Op.equalIn,run_underlying ht]
theorem Z51 {α:Type} {dk:Kd α} {xs:List α} {t ty e:TypeId} (ht:P.underlying t=some (.slice e)) (hop:o.op=.binOp .eql t x (.const (.slice none 0 0)) ty) (hd:o.dst=some d) (hx:Opd uses x (dk.sl.pd xs)):OB P N o uses [(d,Z4m xs)] [] :=
 Zce hd fun a g hh=>by
   obtain ⟨A,c,hv,h1,h2,hr⟩:=Kd.sl_V.1 (hx a g hh)
   refine ⟨.bool A.isNone,?_,A.isNone,rfl,fun h=>?_⟩
   · have hg : (eqGuard .eql t x (.const (.slice none 0 0)) (.slice A xs.length c) (.slice none 0 0)).run P g.w = .ok () g.w := by
       unfold eqGuard
       split <;> rfl
     have hb:(binOp .eql t (.slice A xs.length c) (.slice none 0 0)).run P g.w=.ok (.bool A.isNone) g.w:=by
       show (do pure (.bool (← Op.equal t (.slice A xs.length c) (.slice none 0 0))):Sem Value).run P g.w=_
       simp only [Sem.run_bind,Op.equal,Zsa g.w 9999 ht,Result.andThen_ok,Sem.run_pure,Op.maxDepth]
     have hc:a.eval (.const (.slice none 0 0))=.slice none 0 0:=rfl
     simp [execOp,hop,hv,hc,hg,hb]
   · rcases hr with hr | ⟨b,of,hA,_⟩
     · exact hr
     · rw [hA] at h;cases h
end
section
variable {P:Program} {N:Nat} {o:Oper} {uses:Z4} {d:Nat} {q q':Pd} {x y z:Operand}
variable {α β:Type} {dk:Kd α}
def Kd.arr (n:Nat) (d:Kd α):Kd (List α) where
 sz:=n * d.sz
 ag:=true
 K:=fun g xs cs=>xs.length=n ∧ cs.length=n * d.sz ∧ (∀ u ∈ cs,u.oneCell'=true) ∧ ∀ i x,xs[i]?=some x → d.K g x (seg cs (i * d.sz) d.sz)
 len:=fun h=>h.2.1
 one:=fun h=>h.2.2.1
 mono:=fun h hk=>⟨hk.1,hk.2.1,hk.2.2.1,fun i x hx=>d.mono h (hk.2.2.2 i x hx)⟩
 nag:=fun h=>by cases h
theorem Z7j {enc:α → List Value} (henc:∀ g x,dk.K g x (enc x)) (g:G) (xs:List α):(Kd.arr xs.length dk).K g xs (xs.flatMap enc):=by
 induction xs with
 | nil=>exact ⟨rfl,by simp,(fun u h=>by cases h),(fun i x h=>by simp at h)⟩
 | cons x xs ih =>
   obtain ⟨_,h2,h3,h4⟩:=ih
   have hl:=dk.len (henc g x)
   refine ⟨rfl,by simp only [List.flatMap_cons,List.length_append,hl,h2,List.length_cons,Nat.add_mul];omega,?_,?_⟩
   · intro u hu
     rw [List.flatMap_cons] at hu
     rcases List.mem_append.1 hu with hu | hu
     · exact dk.one (henc g x) u hu
     · exact h3 u hu
   · intro i y hy
     rw [List.flatMap_cons]
     cases i with
     | zero =>
       simp at hy;subst hy
       rw [Nat.zero_mul]
       have:seg (enc x ++ xs.flatMap enc) 0 dk.sz=enc x:=by
         simp only [seg,List.drop_zero];rw [← hl];exact List.take_left
       rw [this];exact henc g x
     | succ i =>
       rw [show (i + 1) * dk.sz=(enc x).length + i * dk.sz by rw [Nat.add_mul,hl];omega,Zi2]
       exact h4 i y (by simpa using hy)
theorem Opd.glob {b:Nat} {v:α} {cells:List Value} (hm:(b,cells) ∈ GL) (hK:∀ g,dk.K g v cells):Opd uses (.global b) (dk.ptr v):=fun a g _=>by
 refine ⟨b,0,cells,rfl,hK g,fun i u hu=>?_⟩
 rw [Nat.zero_add]
 exact g.gl.1 (b,cells) hm i u hu
theorem Zx7 {t e n:Nat} {k:IntKind} {xs:List α} {i:Int} {y:α} {ix:Operand} (ht:P.underlying t=some (.array n e)) (hs:(P.info? e).map (·.size)=some dk.sz) (hop:o.op=.indexAddr t x ix) (hd:o.dst=some d) (hx:Opd uses x ((Kd.arr n dk).ptr xs)) (hi:Opd uses ix (pInt k i)) (h:idx xs i=some y):OB P N o uses [(d,dk.ptr y)] [] :=
 Zce hd fun a g hh=>by
   obtain ⟨b,of,cs,hv,hk,hc⟩:=hx a g hh
   have hn:=Zc9.1 (hi a g hh)
   unfold idx at h
   split at h
   · rename_i h0
     have hlt:=(List.getElem?_eq_some_iff.1 h).1
     have hlen:xs.length=n:=hk.1
     have hb:0 ≤ i ∧ i < (n:Int):=⟨h0,by omega⟩
     exact ⟨.pointer (some ⟨b,of + i.toNat * dk.sz,none⟩),by simp [execOp,hop,hv,hn,Instr.indexAt,Instr.sureAddr,asIntOf,run_underlying ht,hb,Zi0 hs,Zg8],b,_,_,rfl,hk.2.2.2 _ _ h,hc.seg _ _⟩
   · cases h
end
end Go.CL
namespace Go.CL
open Go Go.RowKit Go.ChangeShapes Go.WideShapes
def GW (w:World) (h:GLok w (fun b _=>b < w.heap.size)):G:=⟨w,fun b _=>b < w.heap.size,fun _=>0,fun _ _ h=>h,h⟩
section
variable {P:Program} {α β:Type} {d:Kd α}
structure Opn (P:Program) (t:TypeId) (d:Kd α) (W:α → Prop):Prop where
 sz:P.cellsOf t=d.sz
 op:∀ {H:Type} {enc:TypeId × Value → H} {w:World} {base:Nat} {spare:Nat → Bool} {held:Bool} {fuel:Nat} {cs:List Value} {x:DataW H × List MemPlace} (hg:GLok w (fun b _=>b < w.heap.size)),DataW.trod enc P w base spare held fuel t cs=some x → ∃ a,d.K (GW w hg) a cs ∧ W a
 fm:∀ {w:World} {r:Reach} {b:Nat} {v:Value},Value.okWide P w r b t v → v=mkV d.ag v.cells.toList
theorem Zzb {t:TypeId} {k:IntKind} (ht:P.underlying t=some (.int k)) (hs:P.cellsOf t=1):Opn P t (Kd.int k) (fun n=>k.min ≤ n ∧ n ≤ k.max) where
 sz:=hs
 op:=fun {H enc w base spare held fuel cs x} hg h=>by
   cases fuel with
   | zero=>cases h
   | succ f =>
     simp only [DataW.trod,ht] at h
     split at h <;> try (cases h;done)
     all_goals (try (split at h <;> try (cases h;done)))
     all_goals (try simp_all)
     rename_i hw
     exact ⟨_,rfl,by simpa [Lit.wf] using hw.2⟩
 fm:=fun h=>by
   obtain ⟨n,rfl⟩:=okWide_int ht h
   rfl
theorem Z42 {t:TypeId} (ht:P.underlying t=some .string) (hs:P.cellsOf t=1):Opn P t Kd.str (fun s=>s.size ≤ maxLen) where
 sz:=hs
 op:=fun {H enc w base spare held fuel cs x} hg h=>by
   cases fuel with
   | zero=>cases h
   | succ f =>
     simp only [DataW.trod,ht] at h
     split at h <;> try (cases h;done)
     all_goals (try (split at h <;> try (cases h;done)))
     all_goals (try simp_all)
     rename_i hw
     exact ⟨_,rfl,hw⟩
 fm:=fun h=>by
   obtain ⟨n,rfl⟩:=okWide_string ht h
   rfl
theorem Z6b {t:TypeId} (ht:P.underlying t=some (.float .f64)) (hs:P.cellsOf t=1):Opn P t Kd.flt (fun b=>b < 2 ^ 64) where
 sz:=hs
 op:=fun {H enc w base spare held fuel cs x} hg h=>by
   cases fuel with
   | zero=>cases h
   | succ f =>
     simp only [DataW.trod,ht] at h
     split at h <;> try (cases h;done)
     all_goals (try (split at h <;> try (cases h;done)))
     all_goals first | (rename_i hw;obtain ⟨hk,hw⟩:=hw;simp_all;subst_vars;exact ⟨_,rfl,by simpa [Lit.wf] using hw⟩) | (simp_all;done)
 fm:=fun h=>by
   simp only [Value.okWide,ht,Cell.okWide] at h
   rename_i v
   cases v <;> simp_all [Cell.ok] <;> rfl
theorem Z1o {w:World} {base n:Nat} {A:Addr} {cs:List Value} (h:w.cells? base A n=some cs):cs.length=n ∧ ∀ i v,cs[i]?=some v → w.cell? (A.add i)=some v:=by
 unfold World.cells? at h
 split at h
 · have hl:cs.length=n:=by simpa using mapM_some_length h
   refine ⟨hl,fun i v hv=>?_⟩
   have hi:i < n:=by rw [← hl];exact (List.getElem?_eq_some_iff.1 hv).1
   rw [mapM_some_get h i i (by simp [hi]),hv]
 · cases h
theorem Zj0 {w:World} {A:Addr} {v:Value} (h:w.cell? A=some v):A=⟨A.block,A.off,none⟩ ∧ A.block < w.heap.size:=by
 obtain ⟨b,o,s⟩:=A
 simp only [World.cell?] at h
 split at h
 · rename_i hb
   split at h
   · cases h
   · rename_i hs
     have:s=none:=by simpa using hs
     subst this
     exact ⟨rfl,(Array.getElem?_eq_some_iff.1 hb).1⟩
 · cases h
theorem Zy5 {Q:Nat → α → Prop}:∀ (n:Nat),(∀ i,i < n → ∃ y,Q i y) → ∃ xs:List α,xs.length=n ∧ ∀ i x,xs[i]?=some x → Q i x
 | 0,_=>⟨[],rfl,fun i x h=>by simp at h⟩
 | n + 1,h=>by
   obtain ⟨xs,h1,h2⟩:=Zy5 n fun i hi=>h i (by omega)
   obtain ⟨y,hy⟩:=h n (by omega)
   refine ⟨xs ++ [y],by simp [h1],fun i x hx=>?_⟩
   rw [List.getElem?_append] at hx
   split at hx
   · exact h2 i x hx
   · have : i = n := by
       have:=(List.getElem?_eq_some_iff.1 hx).1
       simp at this;omega
     subst this
     simp [h1] at hx
     subst hx;exact hy
theorem Z0y {t e:TypeId} {W:α → Prop} (ht:P.underlying t=some (.slice e)) (hs:P.cellsOf t=1) (he:Opn P e d W) (h0:0 < d.sz):Opn P t d.sl (fun xs=>xs.length ≤ maxLen ∧ ∀ x ∈ xs,W x) where
 sz:=hs
 op:=fun {H enc w base spare held fuel cs x} hg h=>by
   rcases DataW.trod_slice ht h with h0' | ⟨a,len,cap,elems,rest,n,hn,hcs,hx,hb,hl,hm,hlen,hel,hsp,hns⟩
   · obtain ⟨rfl,_⟩:=h0'
     exact ⟨[],⟨none,0,rfl,Nat.le_refl _,Nat.zero_le _,.inl rfl⟩,Nat.zero_le _,fun _ h=>by cases h⟩
   · subst hcs
     have hit:∀ i,i < len → ∃ y,W y ∧ ∃ cs',d.K (GW w hg) y cs' ∧ ∀ k v,cs'[k]?=some v → w.cell? ((a.add (i * d.sz)).add k)=some v:=by
       intro i hi
       have h1:=hel i hi
       rw [List.getElem?_eq_getElem (by omega)] at h1
       obtain ⟨cs',h2,h3⟩:=Option.bind_eq_some_iff.1 h1
       obtain ⟨y,hk,hw⟩:=he.op hg h3
       obtain ⟨h4,h5⟩:=Z1o h2
       rw [he.sz] at h5
       exact ⟨y,hw,cs',hk,h5⟩
     obtain ⟨xs,hxl,hxs⟩:=Zy5 len hit
     have hmax:len ≤ 9223372036854775807:=by simp only [maxLen] at hm;omega
     refine ⟨xs,⟨some a,cap,by rw [hxl],by omega,by omega,?_⟩,by omega,fun x hx=>?_⟩
     · by_cases hz:xs=[]
       · exact .inl hz
       · right
         have h00:0 < xs.length:=List.length_pos_iff.2 hz
         obtain ⟨_,cs0,hk0,hc0⟩:=hxs 0 _ (List.getElem?_eq_getElem h00)
         have hcl:0 < cs0.length:=by rw [d.len hk0];exact h0
         have hsp:=(Zj0 (hc0 0 _ (List.getElem?_eq_getElem hcl))).1
         have hsp':a=⟨a.block,a.off,none⟩:=by
           obtain ⟨b,o,s⟩:=a
           have:s=none:=by simpa [Addr.add] using congrArg Addr.spot hsp
           subst this
           rfl
         refine ⟨a.block,a.off,by rw [← hsp'],fun i x hx=>?_⟩
         obtain ⟨_,cs',hk,hc⟩:=hxs i x hx
         refine ⟨cs',hk,fun k v hv=>?_⟩
         have:=hc k v hv
         rw [hsp',Zg8,Zg8] at this
         exact ⟨(Zj0 this).2,this⟩
     · obtain ⟨i,hi⟩:=List.getElem?_of_mem hx
       exact (hxs i x hi).1
 fm:=fun h=>by
   obtain ⟨A,n,c,rfl⟩:=okWide_slice ht h
   rfl
theorem Zpl {t : TypeId} {fs : Array Field} (ht : P.underlying t = some (.struct fs)) {H : Type} {enc : TypeId × Value → H} {w : World} {base : Nat} {spare : Nat → Bool} {held : Bool} {fuel : Nat} {cs : List Value} {x : DataW H × List MemPlace} (h : DataW.trod enc P w base spare held fuel t cs = some x) :
   cs.length=P.cellsOf t ∧ ∃ n,∀ (i:Nat) (f:Field),fs[i]?=some f → ∃ y,DataW.trod enc P w base spare held n f.type (seg cs f.offset (P.cellsOf f.type))=some y:=by
 obtain ⟨xs,n,_,_,hl,hxl,hx⟩:=DataW.trod_struct ht h
 refine ⟨hl,n,fun i f hf=>?_⟩
 have hi:i < xs.length:=by rw [hxl];exact (Array.getElem?_eq_some_iff.1 hf).1
 have:=hx i f hf
 rw [List.getElem?_eq_getElem hi] at this
 exact ⟨_,this⟩
theorem Zqa {t:TypeId} {fs:Array Field} (ht:P.underlying t=some (.struct fs)) {w:World} {r:Reach} {b:Nat} {v:Value} (h:Value.okWide P w r b t v):v=mkV true v.cells.toList:=by
 obtain ⟨cs,rfl,_⟩:=okWide_struct ht h
 simp [mkV,Value.cells]
theorem Z1i {t : TypeId} {W : α → Prop} (he : Opn P t d W) {H : Type} {enc : TypeId × Value → H} {w : World} {base base' : Nat} {spare : Nat → Bool} {held : Bool} {r : Reach} {v : Value} {D : DataW H} {ps : List MemPlace} (hg : GLok w (fun b _ => b < w.heap.size))
   (h:DataW.Trod enc P w base spare held t v D ps) (hv:Value.okWide P w r base' t v):∃ a,(d.pd a).p (GW w hg) v ∧ W a:=by
 obtain ⟨fuel,h⟩:=h
 obtain ⟨a,hk,hw⟩:=he.op hg h
 exact ⟨a,⟨_,hk,he.fm hv⟩,hw⟩
theorem Z3t {w:World} {hg:GLok w (fun b _=>b < w.heap.size)} {g':G} (h:Step [] (GW w hg) g'):Below w.heap.size w g'.w :=
 ⟨h.os,h.tape,h.output,h.le.size,fun b hb=>(h.same b hb (by simp)).1⟩
theorem Zu2 {H : Type} {enc : TypeId × Value → H} {f : Func} {s : ChangeSpec} {apart handsOn : Bool} {W W' : World} {args : Array Value} {v : Value} {ds gs : List (DataW H)} {before pa pv : List MemPlace}
   (hW:DataW.Whole enc P f.params.toList s.vars apart W args.toList ds gs before) (hb:Below W.heap.size W W')
   (hres:DataW.TrodAll enc P W' W.heap.size (fun _=>false) handsOn f.resultTypes.toList (v.resultList f.resultTypes.size) (s.fn H (ds ++ gs)).results [])
   (hargs:DataW.TrodAll enc P W' 0 (fun b=>decide (b < W.heap.size)) true f.params.toList args.toList (s.fn H (ds ++ gs)).args pa)
   (hvars:DataW.TrodVars enc P W' (fun b=>decide (b < W.heap.size)) s.vars (s.fn H (ds ++ gs)).vars pv):s.post enc P f apart true handsOn false W args v W' :=
 ⟨ds,gs,before,[],pa,pv,hW,hres,hargs,hvars,hb.frame _,fun h=>by cases h⟩
end
end Go.CL
namespace Go.CL
open Go Go.RowKit
section
variable {P:Program}
def Det (P:Program) (t:TypeId):Prop:=∀ {w w':World} {base base':Nat} {sp sp':Nat → Bool} {hd hd':Bool} {fu fu':Nat} {cs cs':List Value} {x x':DataW Unit × List MemPlace},
 DataW.trod (fun _=>()) P w base sp hd fu t cs=some x → DataW.trod (fun _=>()) P w' base' sp' hd' fu' t cs'=some x' → x.1=x'.1 → cs=cs'
theorem Zt5 {t:TypeId} {k:IntKind} (ht:P.underlying t=some (.int k)):Det P t:=fun h h' e=>by
 obtain ⟨n,rfl,rfl,_⟩:=DataW.trod_int ht h
 obtain ⟨m,rfl,rfl,_⟩:=DataW.trod_int ht h'
 simp at e;rw [e]
theorem Z4w {t:TypeId} (ht:P.underlying t=some .string):Det P t:=fun h h' e=>by
 obtain ⟨n,rfl,rfl,_⟩:=DataW.trod_string ht h
 obtain ⟨m,rfl,rfl,_⟩:=DataW.trod_string ht h'
 simp at e
 obtain ⟨⟨n⟩⟩:=n
 obtain ⟨⟨m⟩⟩:=m
 simp at e;rw [e]
theorem Zzy {t : TypeId} {fs : Array Field} (ht : P.underlying t = some (.struct fs)) (hf : ∀ (i : Nat) (f : Field), fs[i]? = some f → Det P f.type)
   (hc:(List.range (P.cellsOf t)).all (fun j=>fs.any fun f=>decide (f.offset ≤ j ∧ j < f.offset + P.cellsOf f.type))=true):Det P t:=fun {w w' base base' sp sp' hd hd' fu fu' cs cs' x x'} h h' e=>by
 obtain ⟨xs,n,_,rfl,l1,l2,hx⟩:=DataW.trod_struct ht h
 obtain ⟨ys,m,_,rfl,k1,k2,hy⟩:=DataW.trod_struct ht h'
 simp only [DataW.agg.injEq] at e
 apply List.ext_getElem? 
 intro j
 by_cases hj:j < P.cellsOf t
 · have:=List.all_eq_true.1 hc j (List.mem_range.2 hj)
   obtain ⟨i,hi,hp⟩:=Array.any_eq_true.1 this
   obtain ⟨p1,p2⟩:=of_decide_eq_true hp
   have hfi:fs[i]?=some fs[i]:=Array.getElem?_eq_getElem hi
   have a1:=hx i _ hfi
   have a2:=hy i _ hfi
   rw [List.getElem?_eq_getElem (by omega)] at a1 a2
   have hsame:=hf i _ hfi a1 a2 (by
     have:=congrArg (fun l:List (DataW Unit)=>l[i]?) e
     simp only [List.getElem?_map] at this
     rw [List.getElem?_eq_getElem (by omega),List.getElem?_eq_getElem (by omega)] at this
     exact Option.some.inj this)
   have:=congrArg (fun l:List Value=>l[j - fs[i].offset]?) hsame
   simp only [List.getElem?_take,List.getElem?_drop] at this
   rw [if_pos (by omega),if_pos (by omega),show fs[i].offset + (j - fs[i].offset)=j by omega] at this
   exact this
 · rw [List.getElem?_eq_none (by omega),List.getElem?_eq_none (by omega)]
theorem Ztp {t e n:Nat} (ht:P.underlying t=some (.array n e)) (he:Det P e) (hc:P.cellsOf t=n * P.cellsOf e):Det P t:=fun {w w' base base' sp sp' hd hd' fu fu' cs cs' x x'} h h' ee=>by
 obtain ⟨xs,n',_,rfl,l1,l2,hx⟩:=DataW.trod_array ht h
 obtain ⟨ys,m',_,rfl,k1,k2,hy⟩:=DataW.trod_array ht h'
 simp only [DataW.agg.injEq] at ee
 apply List.ext_getElem? 
 intro j
 by_cases hj:j < P.cellsOf t
 · have hz : 0 < P.cellsOf e := by
     rcases Nat.eq_zero_or_pos (P.cellsOf e) with h0 | h0
     · rw [hc,h0] at hj;simp at hj
     · exact h0
   have hi:j / P.cellsOf e < n:=by rw [Nat.div_lt_iff_lt_mul hz];omega
   have a1:=hx _ hi
   have a2:=hy _ hi
   rw [List.getElem?_eq_getElem (by omega)] at a1 a2
   have hsame:=he a1 a2 (by
     have:=congrArg (fun l:List (DataW Unit)=>l[j / P.cellsOf e]?) ee
     simp only [List.getElem?_map] at this
     rw [List.getElem?_eq_getElem (by omega),List.getElem?_eq_getElem (by omega)] at this
     exact Option.some.inj this)
   have:=congrArg (fun l:List Value=>l[j % P.cellsOf e]?) hsame
   have hm:=Nat.mod_lt j hz
   have hd:=Nat.div_add_mod j (P.cellsOf e)
   rw [Nat.mul_comm] at hd
   simp only [List.getElem?_take,List.getElem?_drop] at this
   rw [if_pos hm,if_pos hm,hd] at this
   exact this
 · rw [List.getElem?_eq_none (by omega),List.getElem?_eq_none (by omega)]
end
section
variable {P:Program}
theorem Zr4 {nm : String} {d : DataW Unit} {g t : Nat} {W w0 : World} {cells : List Value} {fu : Nat} (hg : P.globalNamed nm = some g) (ht : (P.globals[g]?).map (·.type) = some t) (hd : Det P t)
   (h0:(DataW.trod (fun _=>()) P w0 0 (fun _=>true) false fu t cells).map (·.1)=some d) (hp:d.handleName?.isNone=true)
   (h:laidMetH P [(nm,d)] W):∀ i,W.cell? ⟨g,i,none⟩=cells[i]?:=by
 rw [MakeChecks.laidMetH_plain _ _ _ (by simp [hp])] at h
 obtain ⟨ps,⟨g',t',cs,f,p,q,hg',ht',hv,htr,_⟩,_⟩:=h
 obtain rfl:=Option.some.inj (hg.symm.trans hg')
 obtain rfl:=Option.some.inj (ht.symm.trans ht')
 obtain ⟨x,hx,hxd⟩:=Option.map_eq_some_iff.1 h0
 have:=hd htr hx hxd.symm
 intro i
 rw [World.var?_cell hg hv i,← this]
 simp
theorem Zu8 {H : Type} {enc : TypeId × Value → H} {a : Assume} {C : Checked} {os : Os} {f : FuncId} {fn : Func} {s : ChangeSpec} {conds : List PathCond} {apart fresh handsOn again : Bool} {X : World → Array Value → Prop}
   (hX:∀ (w w':World) (args:Array Value),w.heap=w'.heap → X w args → X w' args)
   (own:ownKnob C.prog.godebug=none) (started:os.Started) (noInit:C.prog.inits.idxOf? f=none) (hfn:C.prog.funcs[f]?=some fn)
   (witness:∃ (w:World) (tape:Tape) (i:Input),w.os=os ∧ (w.forCall tape i).Shaped C.prog ∧ i.vars=[] ∧ Input.okWide C.prog (w.forCall tape i) .any w.heap.size f i ∧
     ((s.pre enc C.prog fn conds apart (w.forCall tape i).memory i.args ∧ X (w.forCall tape i).memory i.args) ∧ sizedMet enc C.prog fn (OpenSpec.ofChange s) apart (w.forCall tape i).memory i.args) ∧ a.holds C.prog (lone (Frame.enter C.prog f i.args .normal) [] (w.forCall tape i)))
   (contract:∀ (W:World) (base:Nat) (args:Array Value) (ds gs:List (DataW H)) (before:List MemPlace),
     (∀ (j:Nat) t v,fn.params[j]?=some t → args[j]?=some v → Value.okWide C.prog W .any base t v) →
     DataW.Whole enc C.prog fn.params.toList s.vars apart W args.toList ds gs before →
     conds.all (PathCond.test C.prog ⟨fn.params.toList,ds,s.plain.varTypes C.prog,gs⟩)=true →
     X W args → W.ShapedOpen C.prog →
     Calls C.prog f args W fun e W'=>∃ v,e=.returned v ∧ s.post enc C.prog fn apart fresh handsOn again W args v W') :
   ReturnsInHanded a C os f .any (fun w args=>(s.pre enc C.prog fn conds apart w args ∧ X w args) ∧ sizedMet enc C.prog fn (OpenSpec.ofChange s) apart w args) (s.post enc C.prog fn apart fresh handsOn again):=by
 refine returnsInHanded_of_calls own started noInit witness ?_
 intro w tape i _ hsh _ hok hpre _
 obtain ⟨_,_,_,fn',hfn',_,_,_,_,hval⟩:=hok
 have e:fn'=fn:=Option.some.inj (hfn'.symm.trans hfn)
 subst e
 obtain ⟨⟨⟨ds,gs,before,hw,hc⟩,hx⟩,_⟩:=hpre
 have hw':=DataW.Whole.of_heap (w':=w.forCall tape i) (by rfl) hw
 refine (contract (w.forCall tape i) w.heap.size i.args ds gs before hval hw' hc (hX _ _ _ (by rfl) hx) hsh).mono fun e W' ⟨v,he,hp⟩=>?_
 subst he
 exact ChangeSpec.post_blind hp
end
section
variable {P : Program} {N : Nat} {ops : Array Oper} {L : Z4} {T : List Spec} {F : List Ref} {o : Oper} {os : List Oper} {X : Spec} {Xs : List Spec} {uses : Z4} {S : List Nat} {d j s : Nat} {q : Pd} {D : List Deferred}
theorem r_g {id : Nat} {draw : Bool} {g0 : G} {a : Act} {g : G} {Q : Exit → Act → World → Prop} (h : StD D N L a g) (hb : Base g0 g) (hm : P.follows .mixedOrders = true) (hT : AllOT P ops N L T ops.toList T)
   (hQ : ∀ a g, StD D N (F.map (Zeb L T)) a g → Base g0 g → Q .normal a g.w) (hc : chk N ops L T F = true := by kernel_rfl) : (Code.region id ops draw).wp P Q a g.w := Zms hm hc hT h hb hQ
theorem r_s {id : Nat} {draw : Bool} {g0 : G} {a : Act} {g : G} {Q : Exit → Act → World → Prop} {y : Code} (h : StD D N L a g) (hb : Base g0 g) (hm : P.follows .mixedOrders = true) (hT : AllOT P ops N L T ops.toList T)
   (hQ : ∀ a g, StD D N (F.map (Zeb L T)) a g → Base g0 g → y.wp P Q a g.w) (hc : chk N ops L T F = true := by kernel_rfl) : (Code.seq (Code.region id ops draw) y).wp P Q a g.w := wp_seq (Zms hm hc hT h hb hQ)
theorem o_p (hg : o.guard = none) (h : OB P N o (X.refs.map (Zeb L T)) X.outs X.S) (hs : AllOT P ops N L T os Xs) : AllOT P ops N L T (o :: os) (X :: Xs) := ⟨.plain hg h, hs⟩
theorem g_t {c : Bool} (hg : o.guard = some (j, true)) (hd : (ops[j]?).bind (·.dst) = some d) (ho : o.dst = some s) (h : c = true → OB P N o uses [(s, q)] S) : OT P ops N o ((d, Z5 c) :: uses) [(s, pIf c q)] S :=
 OT.guard (outs := [(s, q)]) c (gT c).1 (gT c).2 hg hd (fun e he => by rw [List.mem_singleton.1 he]; exact ho) h
theorem g_f {c : Bool} (hg : o.guard = some (j, false)) (hd : (ops[j]?).bind (·.dst) = some d) (ho : o.dst = some s) (h : (!c) = true → OB P N o uses [(s, q)] S) : OT P ops N o ((d, Z5 c) :: uses) [(s, pIf (!c) q)] S :=
 OT.guard (outs := [(s, q)]) (!c) (gF c).1 (gF c).2 hg hd (fun e he => by rw [List.mem_singleton.1 he]; exact ho) h
theorem g_ti {b c : Bool} (hg : o.guard = some (j, true)) (hd : (ops[j]?).bind (·.dst) = some d) (ho : o.dst = some s) (h : (b && c) = true → OB P N o uses [(s, q)] S) : OT P ops N o ((d, pIf b (Z5 c)) :: uses) [(s, pIf (b && c) q)] S :=
 OT.guard (outs := [(s, q)]) (b && c) (giT b c).1 (giT b c).2 hg hd (fun e he => by rw [List.mem_singleton.1 he]; exact ho) h
theorem g_fi {b c : Bool} (hg : o.guard = some (j, false)) (hd : (ops[j]?).bind (·.dst) = some d) (ho : o.dst = some s) (h : (b && !c) = true → OB P N o uses [(s, q)] S) : OT P ops N o ((d, pIf b (Z5 c)) :: uses) [(s, pIf (b && !c) q)] S :=
 OT.guard (outs := [(s, q)]) (b && !c) (giF b c).1 (giF b c).2 hg hd (fun e he => by rw [List.mem_singleton.1 he]; exact ho) h
theorem Zbh {c e : Bool} {x z : Operand} (hop : o.op = .pick x (.const (.bool true)) z) (hd : o.dst = some d) (hx : Opd uses x (Z5 c)) (hz : c = false → Opd uses z (Z5 e)) : OB P N o uses [(d, Z5 (c || e))] [] :=
 Zym hop hd hx (fun h => Opd.to (Opd.c (Zec _)) (congrArg (fun t => Z5 t) (Z5e h))) (fun h => Opd.to (hz h) (congrArg (fun t => Z5 t) (Z6a h)))
theorem Zbg {c e : Bool} {x y : Operand} (hop : o.op = .pick x y (.const (.bool false))) (hd : o.dst = some d) (hx : Opd uses x (Z5 c)) (hy : c = true → Opd uses y (Z5 e)) : OB P N o uses [(d, Z5 (c && e))] [] :=
 Zym hop hd hx (fun h => Opd.to (hy h) (congrArg (fun t => Z5 t) (Z2v h))) (fun h => Opd.to (Opd.c (Zec _)) (congrArg (fun t => Z5 t) (Z3n h)))
theorem c_i {k : IntKind} {n : Int} : Opd uses (.const (.int k n)) (pInt k n) := Opd.c (Zhv _ _)
theorem c_b {b : Bool} : Opd uses (.const (.bool b)) (Z5 b) := Opd.c (Zec _)
theorem c_s {b : ByteArray} : Opd uses (.const (.string b)) (pStr b) := Opd.c (fun _ => Zcz.2 rfl)
theorem c_f {b : Nat} : Opd uses (.const (.float .f64 b)) (pFlt b) := Opd.c (fun _ => Zks.2 rfl)
theorem u_0 : Opd ((s, q) :: uses) (.tmp s) q := Opd.t0
theorem u_1 {e : Nat × Pd} : Opd (e :: (s, q) :: uses) (.tmp s) q := Opd.tl u_0
theorem u_2 {e f : Nat × Pd} : Opd (e :: f :: (s, q) :: uses) (.tmp s) q := Opd.tl u_1
theorem u_3 {e f g : Nat × Pd} : Opd (e :: f :: g :: (s, q) :: uses) (.tmp s) q := Opd.tl u_2
theorem u_4 {e f g h : Nat × Pd} : Opd (e :: f :: g :: h :: (s, q) :: uses) (.tmp s) q := Opd.tl u_3
theorem o_n : AllOT P ops N L T [] [] := trivial
theorem Qm {x : Operand} {R : List Ref} {A W : List Nat} (h : (o.guard, o.op, o.dst) = (none, Op.move x, some d)) (hx : Opd (R.map (Zeb L T)) x q) (hs : AllOT P ops N L T os Xs) : AllOT P ops N L T (o :: os) (⟨R, [(d, q)], [], A, W⟩ :: Xs) := by
 simp only [Prod.mk.injEq] at h; exact o_p h.1 (Zq h.2.1 h.2.2 hx) hs
theorem Qa {x : Operand} {R : List Ref} {A W : List Nat} (h : (o.guard, o.op, o.dst) = (none, Op.assign x, some d)) (hx : Opd (R.map (Zeb L T)) x q) (hs : AllOT P ops N L T os Xs) : AllOT P ops N L T (o :: os) (⟨R, [(d, q)], [], A, W⟩ :: Xs) := by
 simp only [Prod.mk.injEq] at h; exact o_p h.1 (Zd h.2.1 h.2.2 hx) hs
theorem Qb {x : Operand} {R : List Ref} {A W : List Nat} {α : Type} {dk : Kd α} {t : TypeId} {v : α} (h : (o.guard, o.op, o.dst) = (none, Op.box t x, some d)) (hx : Opd (R.map (Zeb L T)) x (dk.pd v)) (hs : AllOT P ops N L T os Xs) : AllOT P ops N L T (o :: os) (⟨R, [(d, dk.ptr v)], [], A, W⟩ :: Xs) := by
 simp only [Prod.mk.injEq] at h; exact o_p h.1 (Zbt h.2.1 h.2.2 hx) hs
theorem Qn {x : Operand} {R : List Ref} {A W : List Nat} {t : TypeId} {bb : Bool} (h : (o.guard, o.op, o.dst) = (none, Op.unOp .not t x, some d)) (hx : Opd (R.map (Zeb L T)) x (Z5 bb)) (hs : AllOT P ops N L T os Xs) : AllOT P ops N L T (o :: os) (⟨R, [(d, Z5 (!bb))], [], A, W⟩ :: Xs) := by
 simp only [Prod.mk.injEq] at h; exact o_p h.1 (Zcg h.2.1 h.2.2 hx) hs
theorem Ql {x : Operand} {R : List Ref} {A W : List Nat} {α : Type} {dk : Kd α} {t : TypeId} {v : α} (h : (o.guard, o.op, o.dst) = (none, Op.load t x, some d)) (hT : Ty P t dk) (hx : Opd (R.map (Zeb L T)) x (dk.ptr v)) (hs : AllOT P ops N L T os Xs) : AllOT P ops N L T (o :: os) (⟨R, [(d, dk.pd v)], [], A, W⟩ :: Xs) := by
 simp only [Prod.mk.injEq] at h; exact o_p h.1 (Zs hT h.2.1 h.2.2 hx) hs
theorem Qf {x : Operand} {R : List Ref} {A W : List Nat} {α : Type} {dk : Kd α} {β : Type} {di : Kd β} {t : TypeId} {i : Nat} {v : α} {pj : α → β} (h : (o.guard, o.op, o.dst) = (none, Op.fieldAddr t x i, some d)) (hF : Fld P t i dk di pj) (hx : Opd (R.map (Zeb L T)) x (dk.ptr v)) (hs : AllOT P ops N L T os Xs) : AllOT P ops N L T (o :: os) (⟨R, [(d, di.ptr (pj v))], [], A, W⟩ :: Xs) := by
 simp only [Prod.mk.injEq] at h; exact o_p h.1 (Zi hF h.2.1 h.2.2 hx) hs
theorem QM {x : Operand} {R : List Ref} {A W : List Nat} {α : Type} {dk : Kd α} {t : TypeId} {c : Option Nat} {jj : Nat} {v : α} (h : (o.guard, o.op, o.dst) = (none, Op.load t x, some d)) (hT : Ty P t dk) (hx : Opd (R.map (Zeb L T)) x (Zbf c dk jj v)) (hs : AllOT P ops N L T os Xs) : AllOT P ops N L T (o :: os) (⟨R, [(d, dk.pd v)], [], A, W⟩ :: Xs) := by
 simp only [Prod.mk.injEq] at h; exact o_p h.1 (Znc hT h.2.1 h.2.2 hx) hs
theorem QP {x : Operand} {R : List Ref} {A W : List Nat} {α : Type} {dk : Kd α} {β : Type} {di : Kd β} {t : TypeId} {v : α} {z : β} {jj : Nat} {off : Nat} (h : (o.guard, o.op, o.dst) = (none, Op.load t x, some d)) (hT : Ty P t di) (hx : Opd (R.map (Zeb L T)) x (Zeq dk jj v off di z)) (hs : AllOT P ops N L T os Xs) : AllOT P ops N L T (o :: os) (⟨R, [(d, di.pd z)], [], A, W⟩ :: Xs) := by
 simp only [Prod.mk.injEq] at h; exact o_p h.1 (Zpa hT h.2.1 h.2.2 hx) hs
theorem Qg_t {c : Bool} (hh : (o.guard, (ops[j]?).bind (·.dst), o.dst) = (some (j, true), some d, some s)) (h : c = true → OB P N o uses [(s, q)] S) : OT P ops N o ((d, Z5 c) :: uses) [(s, pIf c q)] S := by
 simp only [Prod.mk.injEq] at hh; exact g_t hh.1 hh.2.1 hh.2.2 h
theorem Qg_f {c : Bool} (hh : (o.guard, (ops[j]?).bind (·.dst), o.dst) = (some (j, false), some d, some s)) (h : (!c) = true → OB P N o uses [(s, q)] S) : OT P ops N o ((d, Z5 c) :: uses) [(s, pIf (!c) q)] S := by
 simp only [Prod.mk.injEq] at hh; exact g_f hh.1 hh.2.1 hh.2.2 h
theorem Qg_ti {b c : Bool} (hh : (o.guard, (ops[j]?).bind (·.dst), o.dst) = (some (j, true), some d, some s)) (h : (b && c) = true → OB P N o uses [(s, q)] S) : OT P ops N o ((d, pIf b (Z5 c)) :: uses) [(s, pIf (b && c) q)] S := by
 simp only [Prod.mk.injEq] at hh; exact g_ti hh.1 hh.2.1 hh.2.2 h
theorem Qg_fi {b c : Bool} (hh : (o.guard, (ops[j]?).bind (·.dst), o.dst) = (some (j, false), some d, some s)) (h : (b && !c) = true → OB P N o uses [(s, q)] S) : OT P ops N o ((d, pIf b (Z5 c)) :: uses) [(s, pIf (b && !c) q)] S := by
 simp only [Prod.mk.injEq] at hh; exact g_fi hh.1 hh.2.1 hh.2.2 h
theorem Qe {a b : Nat} (h : Nat.ble a b = true) : a ≤ b := Nat.le_of_ble_eq_true h
theorem Qc {α : Type _} {p : α → Prop} {a : α} {l : List α} : (∀ x ∈ a :: l, p x) ↔ p a ∧ ∀ x ∈ l, p x := List.forall_mem_cons
end
section
variable {P:Program} {N:Nat} {o:Oper} {uses:Z4} {d:Nat} {q q1:Pd} {x y z:Operand} {α β:Type} {k1:Kd α} {k2:Kd β} {x0 x1:α} {y0 y1:β}
def Z4l (b:Nat):Value:=.pointer (some ⟨b,0,none⟩)
def Zvl (dk:Kd α) (v:α) (g:G) (b:Nat):Prop:=b < g.w.heap.size ∧ (∃ cs t,g.w.heap[b]?=some (.cells cs.toArray t (0,0)) ∧ dk.K g v cs) ∧ ∀ o,¬ g.pr b o
theorem Z0w {b j:Nat} {v:α} {g:G} {u:Value} (h:(Zbf (some b) k1 j v).p g u):Zvl k1 v g b:=by
 obtain ⟨b',cs,t,e,hm,hc⟩:=h
 obtain rfl:=hc b rfl
 exact ⟨hm.1,⟨cs,t,hm.2.2.2.1,hm.2.2.2.2.1⟩,hm.2.2.2.2.2⟩
inductive Par:Type 1
 | val (q:Pd)
 | box {α:Type} (k:Kd α) (x0 x1:α)
def ParsOk (g:G):List Par → List Value → List Nat → Prop
 | [],[],[]=>True
 | .val q :: Ps,v :: vs,bs=>q.p g v ∧ ParsOk g Ps vs bs
 | .box k x0 _ :: Ps,v :: vs,b :: bs=>v=Z4l b ∧ Zvl k x0 g b ∧ b ∉ bs ∧ ParsOk g Ps vs bs
 | _,_,_=>False
def Zie (g:G):List Par → List Nat → Prop
 | .val _ :: Ps,bs=>Zie g Ps bs
 | .box k _ x1 :: Ps,b :: bs=>Zvl k x1 g b ∧ Zie g Ps bs
 | _,_=>True
def ownB:List Par → List Nat → Nat → Nat → Nat
 | .val _ :: Ps,bs,i,c=>ownB Ps bs (i + 1) c
 | .box _ _ _ :: Ps,b :: bs,i,c=>if c=b then i + 1 else ownB Ps bs (i + 1) c
 | _,_,_,_=>0
def Zqe:List Par → List Nat → Nat → Z4
 | .val q :: Ps,bs,i=>(i,q) :: Zqe Ps bs (i + 1)
 | .box k x0 _ :: Ps,b :: bs,i=>(i,Zbf (some b) k i x0) :: Zqe Ps bs (i + 1)
 | _,_,_=>[]
def Zs2:List Par → Bool
 | .val q :: Ps=>q.fp.isEmpty && Zs2 Ps
 | .box _ _ _ :: Ps=>Zs2 Ps
 | []=>true
def nbox:List Par → Nat
 | .val _ :: Ps=>nbox Ps
 | .box _ _ _ :: Ps=>nbox Ps + 1
 | []=>0
def FnB (P:Program) (f:FuncId) (Ps:List Par) (q:Pd):Prop:=∀ (g:G) (args:List Value) (bs:List Nat),ParsOk g Ps args bs →
 Calls P f args.toArray g.w (fun e w'=>∃ g' u,e=.returned u ∧ w'=g'.w ∧ Z7i (· ∈ bs) g g' ∧ Zie g' Ps bs ∧ q.p g' u)
theorem ParsOk.len {g:G}:∀ {Ps:List Par} {vs:List Value} {bs:List Nat},ParsOk g Ps vs bs → vs.length=Ps.length ∧ bs.length=nbox Ps
 | [],[],[],_=>⟨rfl,rfl⟩
 | .val q :: Ps,v :: vs,bs,h=>⟨by simp [(ParsOk.len h.2).1],(ParsOk.len h.2).2⟩
 | .box k x0 x1 :: Ps,v :: vs,b :: bs,h=>⟨by simp [(ParsOk.len h.2.2.2).1],by simp [nbox,(ParsOk.len h.2.2.2).2]⟩
 | [],v :: vs,_,h=>by cases h
 | [],[],b :: bs,h=>by cases h
 | .val q :: Ps,[],_,h=>by cases h
 | .box k x0 x1 :: Ps,[],_,h=>by cases h
 | .box k x0 x1 :: Ps,v :: vs,[],h=>by cases h
theorem Ztq:∀ {Ps:List Par} {bs:List Nat} {i c:Nat},ownB Ps bs i c ≠ 0 → i < ownB Ps bs i c
 | .val _ :: Ps,bs,i,c,h=>by have:=Ztq (Ps:=Ps) (bs:=bs) (i:=i + 1) (c:=c) h;exact Nat.lt_trans (Nat.lt_succ_self _) this
 | .box _ _ _ :: Ps,b :: bs,i,c,h=>by
   simp only [ownB] at h ⊢
   split
   · omega
   · rename_i hc;rw [if_neg hc] at h;have:=Ztq (Ps:=Ps) (bs:=bs) (i:=i + 1) (c:=c) h;omega
 | .box _ _ _ :: Ps,[],i,c,h=>by simp [ownB] at h
 | [],_,i,c,h=>by simp [ownB] at h
theorem Zmv:∀ {Ps:List Par} {bs:List Nat} {i c:Nat},c ∉ bs → ownB Ps bs i c=0
 | .val _ :: Ps,bs,i,c,h=>Zmv (Ps:=Ps) h
 | .box _ _ _ :: Ps,b :: bs,i,c,h=>by
   simp only [ownB]
   rw [if_neg (fun e=>h (by simp [e])),Zmv (fun e=>h (by simp [e]))]
 | .box _ _ _ :: Ps,[],i,c,h=>rfl
 | [],_,i,c,h=>rfl
theorem Zp6 {g g0 : G} (hw : g0.w = g.w) (hp : g0.pr = g.pr) (h : ∀ (q : Pd) v, q.fp = [] → q.p g v → q.p g0 v) (hk : ∀ {α : Type} (k : Kd α) x cs, k.K g x cs → k.K g0 x cs) {a : Act} :
   ∀ {Ps:List Par} {vs:List Value} {bs:List Nat} {i:Nat},Zs2 Ps=true → ParsOk g Ps vs bs → (∀ n u,vs[n]?=some u → Act.at a (i + n)=u) → (∀ c,ownB Ps bs i c ≠ 0 → g0.own c=ownB Ps bs i c) → (∀ c,i < g0.own c → g0.own c=ownB Ps bs i c) → Zdq (Zqe Ps bs i) a g0
 | [],[],[],i,_,_,_,_,_=>Zlx
 | .val q :: Ps,v :: vs,bs,i,hf,ho,ha,h1,h2=>by
   simp only [Zs2,Bool.and_eq_true,List.isEmpty_iff] at hf
   refine Zdz (by rw [show Act.at a i=v from ha 0 v rfl];exact h q v hf.1 ho.1) (Zp6 hw hp h hk hf.2 ho.2 (fun n u hu=>?_) h1 (fun c hc=>h2 c (by omega)))
   rw [show i + 1 + n=i + (n + 1) by omega];exact ha (n + 1) u (by simpa using hu)
 | .box k x0 x1 :: Ps,v :: vs,b :: bs,i,hf,⟨hv,⟨hb1,⟨cs,t,hb2,hb3⟩,hb4⟩,hn,ho⟩,ha,h1,h2=>by
   have hown:ownB (.box k x0 x1 :: Ps) (b :: bs) i b=i + 1:=by simp [ownB]
   have hob:g0.own b=i + 1:=by rw [h1 b (by rw [hown];omega),hown]
   have hu:∀ b',g0.own b'=i + 1 → b'=b:=fun b' e=>by
     have:=h2 b' (by omega)
     simp only [ownB] at this
     split at this
     · assumption
     · rename_i hc
       have h3:=Ztq (Ps:=Ps) (bs:=bs) (i:=i + 1) (c:=b') (by omega)
       omega
   refine Zdz (show (Zbf (some b) k i x0).p g0 _ from ?_) (Zp6 hw hp h hk hf ho (fun n u hu=>?_) (fun c hc=>?_) (fun c hc=>?_))
   · rw [show Act.at a i=v from ha 0 v rfl]
     exact ⟨b,cs,t,hv,⟨by rw [hw];exact hb1,hob,fun b' _ e=>hu b' e,by rw [hw];exact hb2,hk k _ _ hb3,fun o=>by rw [hp];exact hb4 o⟩,fun b' e=>Option.some.inj e⟩
   · rw [show i + 1 + n=i + (n + 1) by omega];exact ha (n + 1) u (by simpa using hu)
   · have hcb:c ≠ b:=fun e=>hc (by rw [e];exact Zmv hn)
     have e:ownB (.box k x0 x1 :: Ps) (b :: bs) i c=ownB Ps bs (i + 1) c:=by simp [ownB,hcb]
     rw [h1 c (by rw [e];exact hc),e]
   · have hcb:c ≠ b:=fun e=>by rw [e,hob] at hc;omega
     have e:ownB (.box k x0 x1 :: Ps) (b :: bs) i c=ownB Ps bs (i + 1) c:=by simp [ownB,hcb]
     rw [h2 c (by omega),e]
 | [],v :: vs,_,_,_,h,_,_,_=>by cases h
 | [],[],b :: bs,_,_,h,_,_,_=>by cases h
 | .val q :: Ps,[],_,_,_,h,_,_,_=>by cases h
 | .box k x0 x1 :: Ps,[],_,_,_,h,_,_,_=>by cases h
 | .box k x0 x1 :: Ps,v :: vs,[],_,_,h,_,_,_=>by cases h
def BEnd (Ps:List Par) (bs:List Nat) (g0:G) (q:Pd) (v:Value) (g1:G):Prop:=Base g0 g1 ∧ q.p g1 v ∧ Zie g1 Ps bs
theorem Zok {f : FuncId} {fn : Func} {c : Code} {Ps : List Par} (hf : P.funcs[f]? = some fn) (hb : fn.body = some c) (hn : fn.ntmps = N) (hAN : Ps.length ≤ N) (hA : Zs2 Ps = true) (hq : q.fp = [])
   (h:∀ (a:Act) (g:G) (bs:List Nat),bs.length=nbox Ps → St N (Zqe Ps bs 0) a g → Base g g → c.wp P (bodyPost P fn (FinP (BEnd Ps bs g q))) a g.w):FnB P f Ps q:=by
 intro g args bs hargs
 obtain ⟨hl1,hl2⟩:=hargs.len
 let g0:G:=⟨g.w,g.pr,fun c=>ownB Ps bs 0 c,g.hpr,g.gl⟩
 have hle:g.le g0:=⟨Nat.le_refl _,fun _ _ h=>h,fun _ _ _=>rfl,fun _ _=>rfl⟩
 have hst:St N (Zqe Ps bs 0) { tmps:=args.toArray ++ Array.replicate (fn.ntmps - args.toArray.size) undef,defers:=[] } g0:=by
   refine ⟨by simp [hn];omega,rfl,Zp6 (g:=g) (g0:=g0) rfl rfl (fun q v hq hv=>Pd.le hq hle rfl rfl rfl hv) (fun k x cs hk=>k.mono hle hk) hA hargs (fun n u hu=>?_) (fun _ _=>rfl) (fun _ _=>rfl)⟩
   have hlt:=(List.getElem?_eq_some_iff.1 hu).1
   rw [Nat.zero_add]
   simp only [Act.at,Array.getD_eq_getD_getElem?]
   rw [Array.getElem?_append,if_pos (by simpa using hlt)]
   have hi':(args.toArray)[n]?=some u:=by rw [List.getElem?_toArray];exact hu
   rw [hi'];rfl
 have hbase:Base g0 g0:=⟨.refl _,rfl,rfl,rfl,fun _ _ h=>⟨rfl,rfl,h⟩⟩
 refine Calls.mono (calls_of_wp hf hb (h _ g0 bs hl2 hst hbase)) ?_
 rintro e w' ⟨g1,u,rfl,rfl,hB,hqu,hpost⟩
 exact ⟨g1,u,rfl,rfl,⟨⟨hB.le.size,hB.le.pr,hB.le.cell,hB.le.blk⟩,hB.os,hB.tape,hB.output,fun c hc hn'=>⟨(hB.same c hc (Zmv hn')).1,(hB.same c hc (Zmv hn')).2.1⟩⟩,hpost,hqu⟩
theorem Zsr {fn:Func} {r:ResultVar} {v:Value} {a:Act} {g g0:G} {L:Z4} {Ps:List Par} {bs:List Nat} (hr:fn.results=#[r]) (h:St N L a g) (hb:Base g0 g) (h1:Zil P a g r v) (hq:q.p g v) (hp:Zie g Ps bs):bodyPost P fn (FinP (BEnd Ps bs g0 q)) .ret a g.w :=
 endP hr h h1 ⟨hb,hq,hp⟩
theorem Z7z {fn:Func} {r1 r2 r3:ResultVar} {v1 v2 v3:Value} {a:Act} {g g0:G} {L:Z4} {Ps:List Par} {bs:List Nat} (hr:fn.results=#[r1,r2,r3]) (h:St N L a g) (hb:Base g0 g) (h1:Zil P a g r1 v1) (h2:Zil P a g r2 v2) (h3:Zil P a g r3 v3) (hq:q.p g (.tuple #[v1,v2,v3])) (hp:Zie g Ps bs):bodyPost P fn (FinP (BEnd Ps bs g0 q)) .ret a g.w :=
 ⟨h.df,_,by
   have h1':(Zex a.tmps r1).run P g.w=.ok v1 g.w:=h1
   have h2':(Zex a.tmps r2).run P g.w=.ok v2 g.w:=h2
   have h3':(Zex a.tmps r3).run P g.w=.ok v3 g.w:=h3
   simp [Zgo,hr,h1',h2',h3'],g,_,rfl,rfl,hb,hq,hp⟩
abbrev Home:=Nat × Option Nat × Nat
def ValB (a:Act) (g:G):List Par → List Value → List Home → Prop
 | [],[],[]=>True
 | .val q :: Ps,v :: vs,hs=>q.p g v ∧ ValB a g Ps vs hs
 | .box k x0 _ :: Ps,v :: vs,h :: hs=>(Zbf h.2.1 k h.2.2 x0).p g (Act.at a h.1) ∧ (∃ c,(Zbf c k h.2.2 x0).p g v) ∧ (∀ e ∈ hs,e.2.2 ≠ h.2.2) ∧ ValB a g Ps vs hs
 | _,_,_=>False
def Zme:List Par → List Home → Z4
 | .val _ :: Ps,hs=>Zme Ps hs
 | .box k _ x1 :: Ps,h :: hs=>(h.1,Zbf h.2.1 k h.2.2 x1) :: Zme Ps hs
 | _,_=>[]
def SB (hs:List Home):List Nat:=hs.map fun h=>h.2.2 + 1
theorem Zql {a:Act} {g:G}:∀ {Ps:List Par} {vs:List Value} {hs:List Home},ValB a g Ps vs hs → ∃ bs:List Nat,ParsOk g Ps vs bs ∧ (∀ b ∈ bs,∃ h ∈ hs,g.own b=h.2.2 + 1)
 | [],[],[],_=>⟨[],trivial,fun b h=>by cases h⟩
 | .val q :: Ps,v :: vs,hs,⟨h1,h2⟩=>by
   obtain ⟨bs,e1,e2⟩:=Zql h2
   exact ⟨bs,⟨h1,e1⟩,e2⟩
 | .box k x0 x1 :: Ps,v :: vs,h :: hs,⟨h1,⟨c,b,cs,t,hv,hm,_⟩,h3,h4⟩=>by
   obtain ⟨bs,e1,e2⟩:=Zql h4
   refine ⟨b :: bs,⟨hv,⟨hm.1,⟨cs,t,hm.2.2.2.1,hm.2.2.2.2.1⟩,hm.2.2.2.2.2⟩,fun hb=>?_,e1⟩,fun b' hb'=>?_⟩
   · obtain ⟨h',hh',ho⟩:=e2 b hb
     have:=h3 h' hh'
     rw [hm.2.1] at ho;omega
   · rcases List.mem_cons.1 hb' with rfl | hb'
     · exact ⟨h,by simp,hm.2.1⟩
     · obtain ⟨h',hh',ho⟩:=e2 b' hb'
       exact ⟨h',by simp [hh'],ho⟩
 | [],v :: vs,_,h=>by cases h
 | [],[],b :: bs,h=>by cases h
 | .val q :: Ps,[],_,h=>by cases h
 | .box k x0 x1 :: Ps,[],_,h=>by cases h
 | .box k x0 x1 :: Ps,v :: vs,[],h=>by cases h
theorem Zp7 {a a' : Act} {g g2 : G} (hown : ∀ c, c < g.w.heap.size → g2.own c = g.own c) (hnew : ∀ c, g.w.heap.size ≤ c → g2.own c = 0) (hsz : g.w.heap.size ≤ g2.w.heap.size) :
   ∀ {Ps:List Par} {vs:List Value} {hs:List Home} {bs:List Nat},(∀ h ∈ hs,Act.at a' h.1=Act.at a h.1) → ValB a g Ps vs hs → ParsOk g Ps vs bs → Zie g2 Ps bs → ∀ e ∈ Zme Ps hs,e.2.p g2 (Act.at a' e.1)
 | [],[],[],[],_,_,_,_,e,he=>by cases he
 | .val q :: Ps,v :: vs,hs,bs,ha,h,ho,hp,e,he=>Zp7 hown hnew hsz ha h.2 ho.2 hp e he
 | .box k x0 x1 :: Ps,v :: vs,h :: hs,b :: bs,ha,⟨h1,⟨c,b2,cs,t,hv,hm,_⟩,h3,h4⟩,⟨hv2,_,_,ho⟩,⟨⟨p1,⟨cs',t',p2,p3⟩,p4⟩,hp⟩,e,he=>by
   rcases List.mem_cons.1 he with rfl | he
   · obtain ⟨b3,cs3,t3,hv3,hm3,hc3⟩:=h1
     obtain rfl:b2=b3:=hm3.2.2.1 b2 hm.1 hm.2.1
     have hbb:b2=b:=by
       rw [hv] at hv2
       simp only [Z4l,Value.pointer.injEq,Option.some.injEq,Addr.mk.injEq] at hv2
       exact hv2.1
     subst hbb
     show (Zbf h.2.1 k h.2.2 x1).p g2 (Act.at a' h.1)
     rw [ha h (by simp)]
     refine ⟨b2,cs',t',hv3,⟨p1,by rw [hown b2 hm.1];exact hm.2.1,fun b' hb' ho'=>?_,p2,p3,p4⟩,hc3⟩
     rcases Nat.lt_or_ge b' g.w.heap.size with hl | hl
     · rw [hown b' hl] at ho';exact hm.2.2.1 b' hl ho'
     · rw [hnew b' hl] at ho';omega
   · exact Zp7 hown hnew hsz (fun h' hh'=>ha h' (by simp [hh'])) h4 ho hp e he
 | [],v :: vs,_,_,_,h,_,_,_,_=>by cases h
 | [],[],b :: bs,_,_,h,_,_,_,_=>by cases h
 | [],[],[],b :: bs,_,_,h,_,_,_=>by cases h
 | .val q :: Ps,[],_,_,_,h,_,_,_,_=>by cases h
 | .box k x0 x1 :: Ps,[],_,_,_,h,_,_,_,_=>by cases h
 | .box k x0 x1 :: Ps,v :: vs,[],_,_,h,_,_,_,_=>by cases h
 | .box k x0 x1 :: Ps,v :: vs,h :: hs,[],_,_,h',_,_,_=>by cases h'
theorem Zxu {hs : List Home} {outs : Z4} (hq : q.fp = []) (hd : o.dst = some d) (hne : ∀ h ∈ hs, h.1 ≠ d)
   (hr:∀ (a:Act) g,Zdq uses a g → ∃ (f:FuncId) (Ps:List Par) (vs:List Value),FnB P f Ps q ∧ outs=Zme Ps hs ∧ (execOp a.eval o).run P g.w=.ok (.enter f vs.toArray) g.w ∧ ValB a g Ps vs hs):OB P N o uses ((d,q) :: outs) (SB hs):=by
 intro a g K Q hN hdN hu hK
 obtain ⟨f,Ps,vs,hok,rfl,hr,hv⟩:=hr a g hu
 obtain ⟨bs,ho,hbs⟩:=Zql hv
 unfold Oper.wp
 rw [hr]
 show Calls P f _ g.w _
 refine Calls.mono (hok g vs bs ho) ?_
 rintro e w' ⟨g',u,rfl,rfl,hS,hpost,hqu⟩
 let g2:G:=⟨g'.w,g'.pr,fun c=>if c < g.w.heap.size then g.own c else 0,g'.hpr,g'.gl⟩
 have hle:g'.le g2:=⟨Nat.le_refl _,fun _ _ h=>h,fun _ _ _=>rfl,fun _ _=>rfl⟩
 have hown:∀ c,g2.own c=if c < g.w.heap.size then g.own c else 0:=fun _=>rfl
 have hpost2:∀ {Ps:List Par} {bs:List Nat},Zie g' Ps bs → Zie g2 Ps bs:=by
   intro Ps
   induction Ps with
   | nil=>intro bs _;cases bs <;> trivial
   | cons p Ps ih =>
     intro bs h
     cases p with
     | val q=>exact ih (show Zie g' Ps bs from h)
     | box k x0 x1=>cases bs with
       | nil=>trivial
       | cons b bs =>
         obtain ⟨⟨p1,⟨cs,t,p2,p3⟩,p4⟩,h⟩:=h
         exact ⟨⟨p1,⟨cs,t,p2,k.mono hle p3⟩,p4⟩,ih h⟩
 refine hK u g2 ⟨⟨hS.le.size,hS.le.pr,hS.le.cell,hS.le.blk⟩,hS.os,hS.tape,hS.output,fun c hc hn=>?_,fun c k1 k2=>.inl ?_,fun c hc hn=>.inr ?_⟩ fun e he=>?_
 · have hc1 : c ∉ bs := fun hb => by
     obtain ⟨h,hh,ho'⟩:=hbs c hb
     exact hn (by rw [ho'];exact List.mem_map.2 ⟨h,hh,rfl⟩)
   obtain ⟨k1,k2⟩:=hS.same c hc hc1
   exact ⟨k1,k2,by rw [hown,if_pos hc]⟩
 · rw [hown,if_neg (by omega)]
 · rw [hown,if_pos hc];exact hn
 · rcases List.mem_cons.1 he with rfl | he
   · rw [hd,Zfy u (by rw [hN];exact hdN d hd)]
     exact Pd.le hq hle rfl rfl rfl hqu
   · exact Zp7 (g:=g) (g2:=g2) (fun c hc=>by rw [hown,if_pos hc]) (fun c hc=>by rw [hown,if_neg (by omega)]) hS.le.size (fun h hh=>Zjq u (by rw [hd];intro e;exact hne h hh (Option.some.inj e).symm)) hv ho (hpost2 hpost) e he
theorem Zs4 {f : FuncId} {Ps : List Par} {hs : List Home} (hok : FnB P f Ps q) (hq : q.fp = []) (hd : o.dst = some d) (hne : ∀ h ∈ hs, h.1 ≠ d)
   (hr:∀ (a:Act) g,Zdq uses a g → ∃ vs:List Value,(execOp a.eval o).run P g.w=.ok (.enter f vs.toArray) g.w ∧ ValB a g Ps vs hs):OB P N o uses ((d,q) :: Zme Ps hs) (SB hs) :=
 Zxu hq hd hne fun a g hu=>let ⟨vs,h1,h2⟩:=hr a g hu;⟨f,Ps,vs,hok,rfl,h1,h2⟩
inductive OpB (uses:Z4):List Par → List Operand → List Home → Prop
 | nil:OpB uses [] [] []
 | val {q:Pd} {Ps:List Par} {x:Operand} {xs:List Operand} {hs:List Home}:Opd uses x q → OpB uses Ps xs hs → OpB uses (.val q :: Ps) (x :: xs) hs
 | box {α:Type} {k:Kd α} {x0 x1:α} {Ps:List Par} {x:Operand} {xs:List Operand} {s j:Nat} {c c':Option Nat} {hs:List Home}:Opd uses (.tmp s) (Zbf c k j x0) → Opd uses x (Zbf c' k j x0) → (hs.all fun e=>e.2.2 != j)=true → OpB uses Ps xs hs → OpB uses (.box k x0 x1 :: Ps) (x :: xs) ((s,c,j) :: hs)
theorem OpB.ok {Ps:List Par} {xs:List Operand} {hs:List Home} (h:OpB uses Ps xs hs) {a:Act} {g:G} (hu:Zdq uses a g):ValB a g Ps (xs.map a.eval) hs:=by
 induction h with
 | nil=>trivial
 | val h _ ih=>exact ⟨h a g hu,ih⟩
 | box h1 h2 h3 _ ih=>exact ⟨h1 a g hu,⟨_,h2 a g hu⟩,fun e he=>by simpa using List.all_eq_true.1 h3 e he,ih⟩
theorem Z3m {f : FuncId} {Ps : List Par} {xs : List Operand} {hs : List Home} {ty : Array TypeId} (he : Zk P f) (hok : FnB P f Ps q) (hop : o.op = .call { callee := .value (.func f), args := xs.toArray, argTypes := ty }) (hd : o.dst = some d) (hq : q.fp = []) (hne : (hs.all fun h => h.1 != d) = true) (hx : OpB uses Ps xs hs) :
   OB P N o uses ((d,q) :: Zme Ps hs) (SB hs) :=
 Zs4 hok hq hd (fun h hh=>by simpa using List.all_eq_true.1 hne h hh) fun a g hu=>⟨xs.map a.eval,by simp [execOp,hop,resolve,Zq3,Deferred.ofValue,invoke,Zjp he],hx.ok hu⟩
theorem Zrv {a:Act} {g:G}:∀ {Ps Qs:List Par} {vs us:List Value} {hs ks:List Home},ValB a g Ps vs hs → ValB a g Qs us ks → (∀ h ∈ hs,∀ k ∈ ks,k.2.2 ≠ h.2.2) → ValB a g (Ps ++ Qs) (vs ++ us) (hs ++ ks)
 | [],Qs,[],us,[],ks,_,h,_=>h
 | .val q :: Ps,Qs,v :: vs,us,hs,ks,h1,h2,h3=>⟨h1.1,Zrv h1.2 h2 h3⟩
 | .box k x0 x1 :: Ps, Qs, v :: vs, us, h :: hs, ks, ⟨a1, a2, a3, a4⟩, h2, h3 => ⟨a1, a2, fun e he => by
     rcases List.mem_append.1 he with he | he
     · exact a3 e he
     · exact h3 h (by simp) e he,Zrv a4 h2 (fun h' hh'=>h3 h' (by simp [hh']))⟩
 | [],_,v :: vs,_,_,_,h,_,_=>by cases h
 | [],_,[],_,b :: bs,_,h,_,_=>by cases h
 | .val q :: Ps,_,[],_,_,_,h,_,_=>by cases h
 | .box k x0 x1 :: Ps,_,[],_,_,_,h,_,_=>by cases h
 | .box k x0 x1 :: Ps,_,v :: vs,_,[],_,h,_,_=>by cases h
def Zvw (f:FuncId) (C:List Pd):Pd:=⟨fun g v=>∃ caps:List Value,v=.func (.func f) #[] caps.toArray ∧ ArgsOk C g caps,C.flatMap (·.fp),fun s hd ⟨caps,e,h⟩=>⟨caps,e,h.1,fun i qi u hq hu=>qi.st s (fun j hj=>hd j (List.mem_flatMap.2 ⟨qi,List.mem_of_getElem? hq,hj⟩)) (h.2 i qi u hq hu)⟩⟩
theorem Zxp {f:FuncId} {C:List Pd} {xs:List Operand} (hop:o.op=.makeFunc (.func f) #[] xs.toArray) (hd:o.dst=some d) (hx:OpdL uses xs C):OB P N o uses [(d,Zvw f C)] [] :=
 Zce hd fun a g hh=>⟨.func (.func f) #[] (xs.map a.eval).toArray,by simp [execOp,hop,Instr.makeFunc],xs.map a.eval,rfl,hx.ok hh⟩
inductive CapB (uses:Z4):List Pd → List Par → List Home → Prop
 | nil:CapB uses [] [] []
 | val {q:Pd} {C:List Pd} {Ps:List Par} {hs:List Home}:CapB uses C Ps hs → CapB uses (q :: C) (.val q :: Ps) hs
 | box {α:Type} {k:Kd α} {x0 x1:α} {C:List Pd} {Ps:List Par} {s j:Nat} {c c':Option Nat} {hs:List Home}:Opd uses (.tmp s) (Zbf c k j x0) → (hs.all fun e=>e.2.2 != j)=true → CapB uses C Ps hs → CapB uses (Zbf c' k j x0 :: C) (.box k x0 x1 :: Ps) ((s,c,j) :: hs)
theorem CapB.ok {C:List Pd} {Ps:List Par} {hs:List Home} (h:CapB uses C Ps hs) {a:Act} {g:G} (hu:Zdq uses a g):∀ {vs:List Value},ArgsOk C g vs → ValB a g Ps vs hs:=by
 induction h with
 | nil=>intro vs h;cases vs with
   | nil=>trivial
   | cons v vs=>simpa using h.1
 | @val q C Ps hs _ ih=>intro vs h;cases vs with
   | nil=>simpa using h.1
   | cons v vs=>exact ⟨h.2 0 q v rfl rfl,ih ⟨by simpa using h.1,fun i qi u h1 h2=>h.2 (i + 1) qi u (by simpa using h1) (by simpa using h2)⟩⟩
 | @box α k x0 x1 C Ps s j c c' hs h1 h2 _ ih=>intro vs h;cases vs with
   | nil=>simpa using h.1
   | cons v vs=>exact ⟨h1 a g hu,⟨c',h.2 0 _ v rfl rfl⟩,fun e he=>by simpa using List.all_eq_true.1 h2 e he,ih ⟨by simpa using h.1,fun i qi u h1 h2=>h.2 (i + 1) qi u (by simpa using h1) (by simpa using h2)⟩⟩
theorem Z1x {f : FuncId} {C : List Pd} {Ps Qs : List Par} {xs : List Operand} {hs ks : List Home} {ty : Array TypeId} (he : Zk P f) (hok : FnB P f (Ps ++ Qs) q) (hop : o.op = .call { callee := .value x, args := xs.toArray, argTypes := ty }) (hd : o.dst = some d) (hq : q.fp = []) (hne : ((hs ++ ks).all fun h => h.1 != d) = true)
   (hj:(hs.all fun h=>ks.all fun k=>k.2.2 != h.2.2)=true) (hf:Opd uses x (Zvw f C)) (hx:OpB uses Ps xs hs) (hc:CapB uses C Qs ks):OB P N o uses ((d,q) :: Zme (Ps ++ Qs) (hs ++ ks)) (SB (hs ++ ks)):=by
 refine Zs4 hok hq hd (fun h hh=>by simpa using List.all_eq_true.1 hne h hh) fun a g hu=>?_
 obtain ⟨caps,hv,hcap⟩:=hf a g hu
 refine ⟨xs.map a.eval ++ caps,by simp [execOp,hop,resolve,hv,Deferred.ofValue,invoke,Zjp he],Zrv (hx.ok hu) (hc.ok hu hcap) fun h hh k hk=>?_⟩
 simpa using List.all_eq_true.1 (List.all_eq_true.1 hj h hh) k hk
end
section
variable {P:Program} {N:Nat} {o:Oper} {uses:Z4} {d:Nat} {q:Pd} {x y z:Operand} {α:Type} {dk:Kd α} {t e:TypeId} {bytes j:Nat} {c:Option Nat}
structure OwnAt (dk:Kd α) (e:TypeId) (j:Nat) (fs:List (Option α)) (g:G) (b cap:Nat) (cur:Array Value):Prop where
 lt:b < g.w.heap.size
 own:g.own b=j
 uniq:∀ b',b' < g.w.heap.size → g.own b'=j → b'=b
 heap:g.w.heap[b]?=some (.cells cur e (0,0))
 len:fs.length ≤ cap
 max:cap ≤ maxLen
 sz:cur.size=cap * dk.sz
 known:∀ i x,fs[i]?=some (some x) → dk.K g x (seg cur.toList (i * dk.sz) dk.sz)
 npr:∀ o,¬ g.pr b o
theorem Z3o {g g':G} {S:List Nat} {b:Nat} (hs:Step S g g') (hj:j ∉ S) (hj0:j ≠ 0) (h:∀ b',b' < g.w.heap.size → g.own b'=j → b'=b):∀ b',b' < g'.w.heap.size → g'.own b'=j → b'=b:=fun b' hb' ho=>by
 rcases Nat.lt_or_ge b' g.w.heap.size with hlt | hge
 · by_cases hS:g.own b' ∈ S
   · rcases hs.old b' hlt hS with h | h
     · rw [ho] at h;exact absurd h hj0
     · rw [ho] at h;exact absurd h hj
   · exact h b' hlt ((hs.same b' hlt hS).2.2.symm.trans ho)
 · rcases hs.new b' hge hb' with h | h
   · rw [ho] at h;exact absurd h hj0
   · rw [ho] at h;exact absurd h hj
theorem OwnAt.st {fs:List (Option α)} {g g':G} {S:List Nat} {b cap:Nat} {cur:Array Value} (hs:Step S g g') (hj:j ∉ S) (hj0:j ≠ 0) (h:OwnAt dk e j fs g b cap cur):OwnAt dk e j fs g' b cap cur:=by
 obtain ⟨k1,k2,k3⟩:=hs.same b h.lt (by rw [h.own];exact hj)
 exact ⟨Nat.lt_of_lt_of_le h.lt hs.le.size,k3.trans h.own,Z3o hs hj hj0 h.uniq,k1.trans h.heap,h.len,h.max,h.sz,fun i x hx=>dk.mono hs.le (h.known i x hx),fun o=>by rw [k2];exact h.npr o⟩
theorem OwnAt.nil {fs:List (Option α)} {g:G} {b cap:Nat} {cur:Array Value} (h:OwnAt dk e j fs g b cap cur):OwnAt dk e j [] g b cap cur:=⟨h.lt,h.own,h.uniq,h.heap,Nat.zero_le _,h.max,h.sz,fun i x hx=>by simp at hx,h.npr⟩
theorem OwnAt.same {fs:List (Option α)} {fs':List (Option α)} {g:G} {b b' cap cap':Nat} {cur cur':Array Value} (h:OwnAt dk e j fs g b cap cur) (k:OwnAt dk e j fs' g b' cap' cur') (h0:0 < dk.sz):b'=b ∧ cur'=cur ∧ cap'=cap:=by
 obtain rfl:=h.uniq b' k.lt k.own
 have:=k.heap
 rw [h.heap] at this
 injection this with this
 injection this with this
 subst this
 exact ⟨rfl,rfl,Nat.eq_of_mul_eq_mul_right h0 (k.sz.symm.trans h.sz)⟩
end
section
variable {P:Program} {N:Nat} {o:Oper} {uses:Z4} {d:Nat} {q:Pd} {x y z:Operand} {α:Type} {dk:Kd α} {t e:TypeId} {bytes j:Nat} {c:Option Nat}
theorem OwnAt.ext {fs:List (Option α)} {g:G} {b cap h:Nat} {cur:Array Value} (hO:OwnAt dk e j fs g b cap cur) (h1:fs.length ≤ h) (h2:h ≤ cap):OwnAt dk e j (fs ++ List.replicate (h - fs.length) none) g b cap cur :=
 ⟨hO.lt,hO.own,hO.uniq,hO.heap,by simp;omega,hO.max,hO.sz,fun i x hx=>by
   rw [List.getElem?_append] at hx
   split at hx
   · exact hO.known i x hx
   · rw [List.getElem?_replicate] at hx
     split at hx <;> simp at hx,hO.npr⟩
theorem OwnAt.sub {fs fs':List (Option α)} {g:G} {b cap:Nat} {cur:Array Value} (hO:OwnAt dk e j fs g b cap cur) (hl:fs'.length ≤ cap) (hk:∀ (i:Nat) (x:α),fs'[i]?=some (some x) → fs[i]?=some (some x)):OwnAt dk e j fs' g b cap cur :=
 ⟨hO.lt,hO.own,hO.uniq,hO.heap,hl,hO.max,hO.sz,fun i x hx=>hO.known i x (hk i x hx),hO.npr⟩
end
section
variable {P:Program} {N:Nat} {o:Oper} {uses:Z4} {d:Nat} {q:Pd} {x y z:Operand} {α:Type} {dk:Kd α} {t e:TypeId} {bytes j:Nat} {c:Option Nat}
theorem Zkt {f : FuncId} {Ps : List Par} {xs : List Operand} {hs : List Home} {ty : Array TypeId} {outs : Z4} {S : List Nat} (he : Zk P f) (hok : FnB P f Ps q) (hop : o.op = .call { callee := .value (.func f), args := xs.toArray, argTypes := ty }) (hd : o.dst = some d) (hq : q.fp = []) (hx : OpB uses Ps xs hs) (hne : (hs.all fun h => h.1 != d) = true)
   (ho:outs=(d,q) :: Zme Ps hs) (hS:S=SB hs):OB P N o uses outs S:=by subst ho;subst hS;exact Z3m he hok hop hd hq hne hx
theorem Zkz {f : FuncId} {C : List Pd} {Ps Qs : List Par} {xs : List Operand} {hs ks : List Home} {ty : Array TypeId} {outs : Z4} {S : List Nat} (he : Zk P f) (hok : FnB P f (Ps ++ Qs) q) (hop : o.op = .call { callee := .value x, args := xs.toArray, argTypes := ty }) (hd : o.dst = some d) (hq : q.fp = []) (hf : Opd uses x (Zvw f C)) (hx : OpB uses Ps xs hs) (hc : CapB uses C Qs ks)
   (hne:((hs ++ ks).all fun h=>h.1 != d)=true) (hj:(hs.all fun h=>ks.all fun k=>k.2.2 != h.2.2)=true) (ho:outs=(d,q) :: Zme (Ps ++ Qs) (hs ++ ks)) (hS:S=SB (hs ++ ks)):OB P N o uses outs S:=by
 subst ho;subst hS;exact Z1x he hok hop hd hq hne hj hf hx hc
def Kd.fnc:Kd Nat:=Kd.scalar (fun f=>.func (.func f) #[] #[]) fun _=>rfl
end
section
variable {P:Program} {N:Nat} {o:Oper} {uses outs:Z4} {S:List Nat} {d:Nat} {q:Pd} {x y z:Operand}
theorem OB.at (h:∀ (a:Act) g,Zdq uses a g → ∃ uses':Z4,Zdq uses' a g ∧ OB P N o uses' outs S):OB P N o uses outs S :=
 fun a g K Q hN hdN hu hK=>let ⟨_,h1,h2⟩:=h a g hu;h2 a g K Q hN hdN h1 hK
theorem OB.frame {n:Nat} (h:OB P N o uses outs S) (hq:∀ j ∈ q.fp,j ∉ S) (hn:o.dst ≠ some n):OB P N o ((n,q) :: uses) ((n,q) :: outs) S:=by
 intro a g K Q hN hdN hu hK
 refine h a g K Q hN hdN (fun e he=>hu e (List.mem_cons_of_mem _ he)) fun v g' hs ho=>hK v g' hs fun e he=>?_
 rcases List.mem_cons.1 he with rfl | he
 · have:=hu (n,q) (List.mem_cons_self ..)
   have h2:=q.st hs hq this
   show q.p g' (Act.at (a.put o.dst v) n)
   rw [Zjq v hn];exact h2
 · exact ho e he
def pAt (v:Value) (q:Pd):Pd:=⟨fun g _=>q.p g v,q.fp,fun s hd h=>q.st s hd h⟩
abbrev SlV:=Option Addr × Nat × Nat
def slv (s:SlV):Value:=.slice s.1 s.2.1 s.2.2
def Kd.raw:Kd SlV:=Kd.scalar slv fun _=>rfl
theorem Z07 {s:SlV} {g:G} {v:Value}:(Kd.raw.pd s).p g v ↔ v=slv s:=Kd.scalar_V
variable {α β γ δ ε:Type} {kV:Kd γ} {raw:α → SlV → γ} {lst:α → List β} {dk:Kd β} {di:Kd δ} {dj:Kd ε} {t e j jl:Nat} {xv:α}
def pPX (kV:Kd γ) (j off:Nat) (di:Kd δ) (u:δ):Pd:=⟨fun g v=>∃ w,(Zeq kV j w off di u).p g v,[j + 1],fun st hd ⟨w,h⟩=>⟨w,(Zeq kV j w off di u).st st hd h⟩⟩
theorem Zwl {off pt:Nat} {u:δ} (hT:Ty P t di) (hop:o.op=.load t (.tmp pt)) (hd:o.dst=some d) (hx:Opd uses (.tmp pt) (pPX kV j off di u)):OB P N o uses [(d,di.pd u)] [] :=
 OB.at fun a g hh=>by
   obtain ⟨w,h0⟩:=hx a g hh
   exact ⟨[(pt,Zeq kV j w off di u)],fun en he=>by rw [List.mem_singleton.1 he];exact h0,Zpa hT hop hd .t0⟩
end
end Go.CL
namespace Go.CL
open Go
def INF:Nat:=9218868437227405312
def TOP:Nat:=9223372036854775808
def BIN:Nat:=4503599627370496
def rg (b:Nat):Nat:=b % TOP
def isn (b:Nat):Prop:=INF < rg b
instance (b:Nat):Decidable (isn b):=inferInstanceAs (Decidable (INF < rg b))
def sg (b:Nat):Int:=if TOP ≤ b then -((b - TOP:Nat):Int) else (b:Int)
def ngb (b:Nat):Bool:=b / TOP % 2 == 1
def Zjj:Int:=Ieee.double.leastPlace
theorem Ztx (b:Nat):Ieee.double.read b=if rg b < BIN then .number (ngb b) (rg b) Zjj else if rg b < INF then .number (ngb b) (BIN + rg b % BIN) (Zjj + (rg b / BIN - 1:Nat)) else if rg b=INF then .infinity (ngb b) else .nan (ngb b) (rg b - INF):=rfl
def mg (r:Nat):Nat:=if r < BIN then r else (BIN + r % BIN) * 2 ^ (r / BIN - 1)
theorem Zvp {r s:Nat} (h:r < s):mg r < mg s:=by
 unfold mg
 have hB:0 < BIN:=by decide
 by_cases hr:r < BIN
 ·rw [if_pos hr]
  by_cases hs:s < BIN
  ·rw [if_pos hs];exact h
  ·rw [if_neg hs]
   have:1 ≤ 2 ^ (s / BIN - 1):=Nat.one_le_two_pow
   calc r < BIN:=hr
    _ ≤ BIN + s % BIN:=Nat.le_add_right _ _
    _ ≤ (BIN + s % BIN) * 2 ^ (s / BIN - 1):=Nat.le_mul_of_pos_right _ this
 ·have hs:¬ s < BIN:=by omega
  rw [if_neg hr,if_neg hs]
  have h1:1 ≤ r / BIN:=(Nat.le_div_iff_mul_le hB).2 (by omega)
  have hq:r / BIN ≤ s / BIN:=Nat.div_le_div_right (Nat.le_of_lt h)
  have er:=Nat.div_add_mod r BIN
  have es:=Nat.div_add_mod s BIN
  have hm:r % BIN < BIN:=Nat.mod_lt _ hB
  rcases Nat.lt_or_eq_of_le hq with hlt | heq
  ·have h2:2 ^ (r / BIN - 1) * 2 ≤ 2 ^ (s / BIN - 1):=by
    rw [← Nat.pow_succ]
    exact Nat.pow_le_pow_right (by decide) (by omega)
   have hp:0 < 2 ^ (r / BIN - 1):=Nat.two_pow_pos _
   calc (BIN + r % BIN) * 2 ^ (r / BIN - 1) < (BIN + BIN) * 2 ^ (r / BIN - 1):=Nat.mul_lt_mul_of_pos_right (by omega) hp
    _=BIN * (2 ^ (r / BIN - 1) * 2):=by rw [← Nat.two_mul,Nat.mul_comm (2 ^ (r / BIN - 1)) 2,← Nat.mul_assoc,Nat.mul_comm BIN 2]
    _ ≤ BIN * 2 ^ (s / BIN - 1):=Nat.mul_le_mul_left _ h2
    _ ≤ (BIN + s % BIN) * 2 ^ (s / BIN - 1):=Nat.mul_le_mul_right _ (Nat.le_add_right _ _)
  ·rw [heq]
   rw [heq] at er
   exact Nat.mul_lt_mul_of_pos_right (by omega) (Nat.two_pow_pos _)
theorem Zz6 {r s:Nat}:mg r=mg s ↔ r=s:=by
 constructor
 ·intro h
  rcases Nat.lt_trichotomy r s with hlt | heq | hgt
  ·have:=Zvp hlt;omega
  ·exact heq
  ·have:=Zvp hgt;omega
 ·intro h;rw [h]
theorem Zun {r s:Nat}:mg r < mg s ↔ r < s:=by
 constructor
 ·intro h
  rcases Nat.lt_trichotomy r s with hlt | heq | hgt
  ·exact hlt
  ·rw [heq] at h;omega
  ·have:=Zvp hgt;omega
 ·exact Zvp
def sgn (s:Bool) (n:Nat):Int:=if s then -(n:Int) else n
theorem Z64 {s t:Bool} {m n r q:Nat} (h:m < n ↔ r < q) (h':n < m ↔ q < r) (h0:m=0 ↔ r=0) (h0':n=0 ↔ q=0):sgn s m < sgn t n ↔ sgn s r < sgn t q:=by
 cases s <;> cases t <;> simp [sgn] <;> omega
theorem Z6q {s t:Bool} {m n r q:Nat} (h:m < n ↔ r < q) (h':n < m ↔ q < r) (h0:m=0 ↔ r=0) (h0':n=0 ↔ q=0):sgn s m=sgn t n ↔ sgn s r=sgn t q:=by
 cases s <;> cases t <;> simp [sgn] <;> omega
theorem Z68 (a b:Int):compare a b=.lt ↔ a < b:=by
 simp only [compare,compareOfLessAndEq]
 split
 ·simp [*]
 ·split <;> simp [*]
theorem Z6i (a b:Int):compare a b=.eq ↔ a=b:=by
 simp only [compare,compareOfLessAndEq]
 split
 ·rename_i h;simp;omega
 ·split <;> simp [*]
theorem Z30 {b:Nat} (h:b < 18446744073709551616):sg b=sgn (ngb b) (rg b):=by
 unfold sg sgn ngb rg TOP
 split
 ·rename_i h1
  have e1:b / 9223372036854775808=1:=by omega
  have e2:b % 9223372036854775808=b - 9223372036854775808:=by omega
  simp [e1,e2]
 ·have e1:b / 9223372036854775808=0:=by omega
  have e2:b % 9223372036854775808=b:=by omega
  simp [e1,e2]
def nm (r:Nat):Nat:=if r < BIN then r else BIN + r % BIN
def np (r:Nat):Nat:=if r < BIN then 0 else r / BIN - 1
theorem Z4k (r:Nat):mg r=nm r * 2 ^ np r:=by
 unfold mg nm np
 split <;> simp
theorem Zpn {b:Nat} (h:rg b < INF):Ieee.double.read b=.number (ngb b) (nm (rg b)) (Zjj + (np (rg b):Nat)):=by
 rw [Ztx]
 unfold nm np
 split
 ·simp
 ·simp [h]
theorem Z0v (s t:Bool) (r q:Nat):∃ o,Ieee.Datum.order (.number s (nm r) (Zjj + (np r:Nat))) (.number t (nm q) (Zjj + (np q:Nat)))=some o ∧ (o=.lt ↔ sgn s r < sgn t q) ∧ (o=.eq ↔ sgn s r=sgn t q):=by
 refine ⟨_,rfl,?_⟩
 have hmin:min (Zjj + (np r:Nat)) (Zjj + (np q:Nat))=Zjj + (min (np r) (np q):Nat):=by omega
 have e1:(Zjj + (np r:Nat) - min (Zjj + (np r:Nat)) (Zjj + (np q:Nat))).toNat=np r - min (np r) (np q):=by rw [hmin];omega
 have e2:(Zjj + (np q:Nat) - min (Zjj + (np r:Nat)) (Zjj + (np q:Nat))).toNat=np q - min (np r) (np q):=by rw [hmin];omega
 have hs:∀ (s:Bool) (m u:Nat),Ieee.signed s m u=sgn s (m * 2 ^ u):=by
  intro s m u
  simp [Ieee.signed,sgn,Nat.shiftLeft_eq]
 rw [e1,e2,hs,hs,Z68,Z6i]
 have hc:0 < 2 ^ min (np r) (np q):=Nat.two_pow_pos _
 have m1:nm r * 2 ^ (np r - min (np r) (np q)) * 2 ^ min (np r) (np q)=mg r:=by
  rw [Nat.mul_assoc,← Nat.pow_add,Nat.sub_add_cancel (Nat.min_le_left _ _),Z4k]
 have m2:nm q * 2 ^ (np q - min (np r) (np q)) * 2 ^ min (np r) (np q)=mg q:=by
  rw [Nat.mul_assoc,← Nat.pow_add,Nat.sub_add_cancel (Nat.min_le_right _ _),Z4k]
 have k1:nm r * 2 ^ (np r - min (np r) (np q)) < nm q * 2 ^ (np q - min (np r) (np q)) ↔ r < q:=by
  rw [← Zun (r:=r) (s:=q),← m1,← m2]
  exact (Nat.mul_lt_mul_right hc).symm
 have k2:nm q * 2 ^ (np q - min (np r) (np q)) < nm r * 2 ^ (np r - min (np r) (np q)) ↔ q < r:=by
  rw [← Zun (r:=q) (s:=r),← m1,← m2]
  exact (Nat.mul_lt_mul_right hc).symm
 have z0:mg 0=0:=rfl
 have k3:nm r * 2 ^ (np r - min (np r) (np q))=0 ↔ r=0:=by
  have hz:r=0 ↔ mg r=0:=(Zz6 (r:=r) (s:=0)).symm
  rw [hz,← m1]
  constructor
  ·intro h;rw [h,Nat.zero_mul]
  ·intro h;exact (Nat.mul_eq_zero.1 h).resolve_right (by omega)
 have k4:nm q * 2 ^ (np q - min (np r) (np q))=0 ↔ q=0:=by
  have hz:q=0 ↔ mg q=0:=(Zz6 (r:=q) (s:=0)).symm
  rw [hz,← m2]
  constructor
  ·intro h;rw [h,Nat.zero_mul]
  ·intro h;exact (Nat.mul_eq_zero.1 h).resolve_right (by omega)
 exact ⟨Z64 k1 k2 k3 k4,Z6q k1 k2 k3 k4⟩
theorem Zpi {a b:Nat} (ha:a < 18446744073709551616) (hb:b < 18446744073709551616) (na:¬ isn a) (nb:¬ isn b):∃ o,Ieee.double.order a b=some o ∧ (o=.lt ↔ sg a < sg b) ∧ (o=.eq ↔ sg a=sg b):=by
 rw [Z30 ha,Z30 hb]
 unfold isn at na nb
 have hI:INF=9218868437227405312:=rfl
 have rd:∀ x,¬ INF < rg x → rg x < INF ∨ rg x=INF:=fun x h=>by omega
 have ri:∀ x,rg x=INF → Ieee.double.read x=.infinity (ngb x):=fun x h=>by
  rw [Ztx,if_neg (by rw [h];decide),if_neg (by rw [h];decide),if_pos h]
 unfold Ieee.Format.order
 rcases rd a na with h1 | h1 <;> rcases rd b nb with h2 | h2
 ·rw [Zpn h1,Zpn h2];exact Z0v _ _ _ _
 ·rw [Zpn h1,ri b h2]
  refine ⟨_,rfl,?_⟩
  rw [h2]
  cases ngb a <;> cases ngb b <;> simp [sgn] <;> omega
 ·rw [ri a h1,Zpn h2]
  refine ⟨_,rfl,?_⟩
  rw [h1]
  cases ngb a <;> cases ngb b <;> simp [sgn] <;> omega
 ·rw [ri a h1,ri b h2]
  refine ⟨_,rfl,?_⟩
  rw [h1,h2]
  cases ngb a <;> cases ngb b <;> simp [sgn] <;> first | decide | omega
theorem Z1y {a b:Nat} (h:isn a ∨ isn b):Ieee.double.order a b=none:=by
 have rn:∀ x,isn x → ∃ s f,Ieee.double.read x=.nan s f:=fun x h=>by
  refine ⟨ngb x,rg x - INF,?_⟩
  unfold isn at h
  have hI:INF=9218868437227405312:=rfl
  have hB:BIN=4503599627370496:=rfl
  rw [Ztx,if_neg (by omega),if_neg (by omega),if_neg (by omega)]
 unfold Ieee.Format.order
 rcases h with h | h
 ·obtain ⟨s,f,e⟩:=rn a h
  rw [e];rfl
 ·obtain ⟨s,f,e⟩:=rn b h
  rw [e]
  cases Ieee.double.read a <;> rfl
end Go.CL
namespace Go.CL
open Go Go.RowKit
end Go.CL
namespace Go.CL
def Zxq {ε β:Type} (o:Option ε) (f:ε → Option β) (g:Option β):Option β:=match o with | some e=>f e | none=>g
theorem Z2o {ε β:Type} {o:Option ε} {f:ε → Option β} {g:Option β} {r:β} (h:Zxq o f g=some r):(∃ e,o=some e ∧ f e=some r) ∨ (o=none ∧ g=some r):=by
 cases o with
 | none=>exact .inr ⟨rfl,h⟩
 | some e=>exact .inl ⟨e,rfl,h⟩
end Go.CL
