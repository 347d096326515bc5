/- A part of the proof of HandApart. -/
import Derived.Test.YtlanlccmokaajaaGreatDoorHandApartC1
import Derived.Laws.CopyRow
import Derived.Laws.Externs
import GoSem.Extern.SlicesOverlaps
set_option linter.unusedVariables false
set_option linter.unusedSimpArgs false
set_option maxRecDepth 100000
namespace Go.CL
open Go Go.RowKit
section
variable {P:Program} {N:Nat} {o:Oper} {uses:Zbm} {d:Nat} {q:Pd} {x y z:Operand} {α:Type} {dk:Kd α} {t e:TypeId} {bytes j:Nat} {c:Option Nat}
structure OwnAt (dk:Kd α) (e:TypeId) (j:Nat) (fs:List (Option α)) (g:G) (b cap:Nat) (cur:Array Value):Prop where
 lt:b < g.w.heap.size
 own:g.own b=j
 uniq:∀ b',b' < g.w.heap.size → g.own b'=j → b'=b
 heap:g.w.heap[b]?=some (.cells cur e (0,0))
 len:fs.length ≤ cap
 max:cap ≤ maxLen
 sz:cur.size=cap * dk.sz
 known:∀ i x,fs[i]?=some (some x) → dk.K g x (seg cur.toList (i * dk.sz) dk.sz)
 npr:∀ o,¬ g.pr b o
theorem Z8v {g g':G} {S:List Nat} {b:Nat} (hs:Step S g g') (hj:j ∉ S) (hj0:j ≠ 0) (h:∀ b',b' < g.w.heap.size → g.own b'=j → b'=b):∀ b',b' < g'.w.heap.size → g'.own b'=j → b'=b:=fun b' hb' ho=>by
 rcases Nat.lt_or_ge b' g.w.heap.size with hlt | hge
 · by_cases hS:g.own b' ∈ S
   · rcases hs.old b' hlt hS with h | h
     · rw [ho] at h;exact absurd h hj0
     · rw [ho] at h;exact absurd h hj
   · exact h b' hlt ((hs.same b' hlt hS).2.2.symm.trans ho)
 · rcases hs.new b' hge hb' with h | h
   · rw [ho] at h;exact absurd h hj0
   · rw [ho] at h;exact absurd h hj
theorem OwnAt.st {fs:List (Option α)} {g g':G} {S:List Nat} {b cap:Nat} {cur:Array Value} (hs:Step S g g') (hj:j ∉ S) (hj0:j ≠ 0) (h:OwnAt dk e j fs g b cap cur):OwnAt dk e j fs g' b cap cur:=by
 obtain ⟨k1,k2,k3⟩:=hs.same b h.lt (by rw [h.own];exact hj)
 exact ⟨Nat.lt_of_lt_of_le h.lt hs.le.size,k3.trans h.own,Z8v hs hj hj0 h.uniq,k1.trans h.heap,h.len,h.max,h.sz,fun i x hx=>dk.mono hs.le (h.known i x hx),fun o=>by rw [k2];exact h.npr o⟩
def pOwn (dk:Kd α) (e:TypeId) (j:Nat) (c:Option Nat) (fs:List (Option α)):Pd:=⟨fun g u=>∃ b cap cur,u=.slice (some ⟨b,0,none⟩) fs.length cap ∧ OwnAt dk e (j + 1) fs g b cap cur ∧ ∀ k,c=some k → cap=k,[j + 1],fun s hd ⟨b,cap,cur,e,h,hc⟩=>⟨b,cap,cur,e,h.st s (hd _ (by simp)) (by omega),hc⟩⟩
def Zod (dk:Kd α) (e:TypeId) (j off len:Nat):Pd:=⟨fun g u=>∃ b cap cur,u=.slice (some (if cap=off then ⟨b,0,none⟩ else ⟨b,off * dk.sz,none⟩)) len (cap - off) ∧ OwnAt dk e (j + 1) [] g b cap cur ∧ off + len ≤ cap,[j + 1],fun s hd ⟨b,cap,cur,e,h,hc⟩=>⟨b,cap,cur,e,h.st s (hd _ (by simp)) (by omega),hc⟩⟩
theorem OwnAt.nil {fs:List (Option α)} {g:G} {b cap:Nat} {cur:Array Value} (h:OwnAt dk e j fs g b cap cur):OwnAt dk e j [] g b cap cur:=⟨h.lt,h.own,h.uniq,h.heap,Nat.zero_le _,h.max,h.sz,fun i x hx=>by simp at hx,h.npr⟩
theorem OwnAt.same {fs:List (Option α)} {fs':List (Option α)} {g:G} {b b' cap cap':Nat} {cur cur':Array Value} (h:OwnAt dk e j fs g b cap cur) (k:OwnAt dk e j fs' g b' cap' cur') (h0:0 < dk.sz):b'=b ∧ cur'=cur ∧ cap'=cap:=by
 obtain rfl:=h.uniq b' k.lt k.own
 have:=k.heap
 rw [h.heap] at this
 injection this with this
 injection this with this
 subst this
 exact ⟨rfl,rfl,Nat.eq_of_mul_eq_mul_right h0 (k.sz.symm.trans h.sz)⟩
theorem Zuy {fs:List (Option α)} {t:TypeId} (ht:P.underlying t=some (.slice e)) (hop:o.op=.call { callee:=.builtin .len,args:=#[x],argTypes:=#[t] }) (hd:o.dst=some d) (hx:Opd uses x (pOwn dk e j c fs)):OB P N o uses [(d,pInt .i64 (fs.length:Int))] [] :=
 Zck hd fun a g hh=>by
   obtain ⟨b,cap,cur,hv,_⟩:=hx a g hh
   exact ⟨.int .i64 fs.length,by simp [execOp,hop,resolve,invoke,builtin,hv,Builtin.len_,run_underlying ht,goInt],Zid _ _ g⟩
theorem Zbb2 {fs:List (Option α)} {t:TypeId} {k:Nat} (ht:P.underlying t=some (.slice e)) (hop:o.op=.call { callee:=.builtin .cap,args:=#[x],argTypes:=#[t] }) (hd:o.dst=some d) (hx:Opd uses x (pOwn dk e j (some k) fs)):OB P N o uses [(d,pInt .i64 (k:Int))] [] :=
 Zck hd fun a g hh=>by
   obtain ⟨b,cap,cur,hv,_,hc⟩:=hx a g hh
   obtain rfl:=hc k rfl
   exact ⟨.int .i64 cap,by simp [execOp,hop,resolve,invoke,builtin,hv,Builtin.cap_,run_underlying ht,goInt],Zid _ _ g⟩
theorem Zkn {x:Value} {i n:Nat} {cd:BoundsCode} {w:World} (hx:x=.int .i64 i) (h:i ≤ n):(Instr.sliceBound x n cd).run P w=.ok i w:=by
 subst hx
 simp [Instr.sliceBound,asIntOf,h]
theorem Ziv {fs:List (Option α)} {l:Nat} (hT:TE P t e dk bytes) (hl:l ≤ fs.length) (hop:o.op=.slice t x (some y) none none) (hd:o.dst=some d) (hx:Opd uses x (pOwn dk e j c fs)) (hy:Opd uses y (pInt .i64 (l:Int))):OB P N o uses [(d,Zod dk e j l (fs.length - l))] [] :=
 Zck hd fun a g hh=>by
   obtain ⟨b,cap,cur,hv,hO,hc⟩:=hx a g hh
   have hy':=Zdh.1 (hy a g hh)
   obtain ⟨i,zz,hi,hz,hsz,hby,hzs⟩:=hT.info
   have hb:∀ w cd,(Instr.sliceBound (a.eval y) fs.length cd).run P w=.ok l w:=fun w cd=>Zkn hy' hl
   have hlen:=hO.len
   refine ⟨_,?_,b,cap,cur,rfl,hO.nil,by omega⟩
   simp [execOp,hop,hv,Instr.sliceAt,Instr.slice,Instr.sliceBounds,run_underlying hT.und,hb,sizeOf,typeInfo,hi,hsz,Zdu]
   try (split <;> simp_all [Zdu])
theorem Zum {fs:List (Option α)} {h:Nat} (hT:TE P t e dk bytes) (hl:h ≤ fs.length) (hop:o.op=.slice t x none (some y) none) (hd:o.dst=some d) (hx:Opd uses x (pOwn dk e j c fs)) (hy:Opd uses y (pInt .i64 (h:Int))):OB P N o uses [(d,Zod dk e j 0 h)] [] :=
 Zck hd fun a g hh=>by
   obtain ⟨b,cap,cur,hv,hO,hc⟩:=hx a g hh
   have hy':=Zdh.1 (hy a g hh)
   obtain ⟨i,zz,hi,hz,hsz,hby,hzs⟩:=hT.info
   have hlen:=hO.len
   have hb:∀ w cd,(Instr.sliceBound (a.eval y) cap cd).run P w=.ok h w:=fun w cd=>Zkn hy' (by omega)
   refine ⟨_,?_,b,cap,cur,rfl,hO.nil,by omega⟩
   simp [execOp,hop,hv,Instr.sliceAt,Instr.slice,Instr.sliceBounds,run_underlying hT.und,hb,sizeOf,typeInfo,hi,hsz,Zdu]
   try (split <;> simp_all [Zdu])
theorem Z3e {fs:List (Option α)} {h k:Nat} (hT:TE P t e dk bytes) (hl:fs.length ≤ h) (hk:h ≤ k) (hop:o.op=.slice t x none (some y) none) (hd:o.dst=some d) (hx:Opd uses x (pOwn dk e j (some k) fs)) (hy:Opd uses y (pInt .i64 (h:Int))):OB P N o uses [(d,pOwn dk e j (some k) (fs ++ List.replicate (h - fs.length) none))] [] :=
 Zck hd fun a g hh=>by
   obtain ⟨b,cap,cur,hv,hO,hc⟩:=hx a g hh
   obtain rfl:=hc k rfl
   have hy':=Zdh.1 (hy a g hh)
   obtain ⟨i,zz,hi,hz,hsz,hby,hzs⟩:=hT.info
   have hb:∀ w cd,(Instr.sliceBound (a.eval y) cap cd).run P w=.ok h w:=fun w cd=>Zkn hy' hk
   have hlen:(fs ++ List.replicate (h - fs.length) none).length=h:=by simp;omega
   refine ⟨_,?_,b,cap,cur,rfl,⟨hO.lt,hO.own,hO.uniq,hO.heap,by rw [hlen];exact hk,hO.max,hO.sz,fun i x hx=>?_,hO.npr⟩,hc⟩
   · rw [hlen]
     simp [execOp,hop,hv,Instr.sliceAt,Instr.slice,Instr.sliceBounds,run_underlying hT.und,hb,sizeOf,typeInfo,hi,hsz,Zdu]
     try (split <;> simp_all [Zdu])
   · rw [List.getElem?_append] at hx
     split at hx
     · exact hO.known i x hx
     · rw [List.getElem?_replicate] at hx
       split at hx <;> simp at hx
theorem Z7i {fs:List (Option α)} {l h m:Nat} {y1 y2 y3:Operand} (hT:TE P t e dk bytes) (h1:l ≤ h) (h2:h ≤ m) (h3:m ≤ fs.length) (hop:o.op=.slice t x (some y1) (some y2) (some y3)) (hx:Opd uses x (pOwn dk e j c fs)) (hy1:Opd uses y1 (pInt .i64 (l:Int))) (hy2:Opd uses y2 (pInt .i64 (h:Int))) (hy3:Opd uses y3 (pInt .i64 (m:Int))):OB P N o uses [] []:=by
 intro a g K Q hN hdN hu hK
 obtain ⟨b,cap,cur,hv,hO,hc⟩:=hx a g hu
 obtain ⟨i,zz,hi,hz,hsz,hby,hzs⟩:=hT.info
 have hlen:=hO.len
 have hb1:∀ w cd,(Instr.sliceBound (a.eval y1) h cd).run P w=.ok l w:=fun w cd=>Zkn (Zdh.1 (hy1 a g hu)) h1
 have hb2:∀ w cd,(Instr.sliceBound (a.eval y2) m cd).run P w=.ok h w:=fun w cd=>Zkn (Zdh.1 (hy2 a g hu)) h2
 have hb3:∀ w cd,(Instr.sliceBound (a.eval y3) cap cd).run P w=.ok m w:=fun w cd=>Zkn (Zdh.1 (hy3 a g hu)) (by omega)
 have hr:∃ v,(execOp a.eval o).run P g.w=.ok (.value v) g.w:=by
   simp [execOp,hop,hv,Instr.sliceAt,Instr.slice,Instr.sliceBounds,run_underlying hT.und,hb1,hb2,hb3,sizeOf,typeInfo,hi]
 obtain ⟨v,hr⟩:=hr
 unfold Oper.wp
 rw [hr]
 exact hK v g (.refl _ _) (fun e he=>by cases he)
theorem Z7d {fs:List (Option α)} {l h k:Nat} {y1 y2:Operand} (hT:TE P t e dk bytes) (h1:l ≤ h) (h2:h ≤ k) (hop:o.op=.slice t x (some y1) (some y2) none) (hd:o.dst=some d) (hx:Opd uses x (pOwn dk e j (some k) fs)) (hy1:Opd uses y1 (pInt .i64 (l:Int))) (hy2:Opd uses y2 (pInt .i64 (h:Int))):OB P N o uses [(d,Zod dk e j l (h - l))] [] :=
 Zck hd fun a g hh=>by
   obtain ⟨b,cap,cur,hv,hO,hc⟩:=hx a g hh
   obtain rfl:=hc k rfl
   obtain ⟨i,zz,hi,hz,hsz,hby,hzs⟩:=hT.info
   have hb1:∀ w cd,(Instr.sliceBound (a.eval y1) h cd).run P w=.ok l w:=fun w cd=>Zkn (Zdh.1 (hy1 a g hh)) h1
   have hb2:∀ w cd,(Instr.sliceBound (a.eval y2) cap cd).run P w=.ok h w:=fun w cd=>Zkn (Zdh.1 (hy2 a g hh)) h2
   refine ⟨_,?_,b,cap,cur,rfl,hO.nil,by omega⟩
   simp [execOp,hop,hv,Instr.sliceAt,Instr.slice,Instr.sliceBounds,run_underlying hT.und,hb1,hb2,sizeOf,typeInfo,hi,hsz,Zdu]
   try (split <;> simp_all [Zdu])
theorem Zld {i n sz:Nat} (h:i < n):i * sz + sz ≤ n * sz:=by
 have:(i + 1) * sz ≤ n * sz:=Nat.mul_le_mul_right _ h
 rw [Nat.add_mul] at this;omega
def over (fs:List (Option α)) (off:Nat) (ws:List α):List (Option α):=fs.take off ++ ws.map some ++ fs.drop (off + ws.length)
theorem Znn {fs:List (Option α)} {off:Nat} {ws:List α} (h:off + ws.length ≤ fs.length):(over fs off ws).length=fs.length:=by simp [over];omega
theorem Zmj {fs:List (Option α)} {off:Nat} {ws:List α} (h:off + ws.length ≤ fs.length) (i:Nat):(over fs off ws)[i]?=if i < off then fs[i]? else if i < off + ws.length then (ws[i - off]?).map some else fs[i]?:=by
 unfold over
 rw [List.append_assoc,List.getElem?_append]
 have h1:(fs.take off).length=off:=by simp;omega
 rw [h1]
 by_cases hi:i < off
 · rw [if_pos hi,if_pos hi,List.getElem?_take,if_pos hi]
 · rw [if_neg hi,if_neg hi,List.getElem?_append,List.length_map]
   by_cases h2:i < off + ws.length
   · rw [if_pos h2,if_pos (by omega),List.getElem?_map]
   · rw [if_neg h2,if_neg (by omega),List.getElem?_drop]
     congr 1;omega
theorem Z5t {g g' : G} (hle : g.le g') {fs : List (Option α)} {off cap : Nat} {ws : List α} {cur news : List Value} (hl : news.length = ws.length * dk.sz) (hc : cur.length = cap * dk.sz) (hfit : off + ws.length ≤ fs.length) (hcap : fs.length ≤ cap)
   (hk:∀ i x,fs[i]?=some (some x) → dk.K g x (seg cur (i * dk.sz) dk.sz)) (hn:∀ i x,ws[i]?=some x → dk.K g x (seg news (i * dk.sz) dk.sz)) :
   ∀ i x,(over fs off ws)[i]?=some (some x) → dk.K g' x (seg (Zba cur (off * dk.sz) news) (i * dk.sz) dk.sz):=by
 intro i x hx
 have hfit':off * dk.sz + news.length ≤ cur.length:=by rw [hl,hc,← Nat.add_mul];exact Nat.mul_le_mul_right _ (by omega)
 rw [Zmj hfit] at hx
 split at hx
 · rename_i h1
   rw [Z8 hfit' (.inl (Zld h1))]
   exact dk.mono hle (hk i x hx)
 · rename_i h1
   split at hx
   · rename_i h2
     obtain ⟨y,hy,hxy⟩:=Option.map_eq_some_iff.1 hx
     obtain rfl:=Option.some.inj hxy
     have e:seg (Zba cur (off * dk.sz) news) (i * dk.sz) dk.sz=seg news ((i - off) * dk.sz) dk.sz:=by
       have hto:(cur.take (off * dk.sz)).length=off * dk.sz:=by simp;omega
       unfold Zba
       rw [List.append_assoc,show i * dk.sz=(cur.take (off * dk.sz)).length + (i - off) * dk.sz by rw [hto,← Nat.add_mul];congr 1;omega,Zip,Zf9 (by rw [hl];exact Zld (by omega))]
     rw [e];exact dk.mono hle (hn _ _ hy)
   · rename_i h2
     rw [Z8 hfit' (.inr (by rw [hl,← Nat.add_mul];exact Nat.mul_le_mul_right _ (by omega)))]
     exact dk.mono hle (hk i x hx)
theorem Zul {fs : List (Option α)} {g : G} {b cap : Nat} {cur : Array Value} (h : OwnAt dk e j fs g b cap cur) {off : Nat} {ws : List α} {news : List Value} (hl : news.length = ws.length * dk.sz) (hfit : off + ws.length ≤ fs.length) (hn : ∀ i x, ws[i]? = some x → dk.K g x (seg news (i * dk.sz) dk.sz)) :
   ∃ g':G,g'.w=g.w.setRow b (Zba cur.toList (off * dk.sz) news).toArray ∧ Step [j] g g' ∧ OwnAt dk e j (over fs off ws) g' b cap (Zba cur.toList (off * dk.sz) news).toArray:=by
 have hst:Step [j] g (g.wr b (Zba cur.toList (off * dk.sz) news).toArray h.lt h.npr (fun _=>False) j):=Znp h.own (.inr rfl) h.npr
 have hcl:cur.toList.length=cap * dk.sz:=by simpa using h.sz
 have hlen:=h.len
 refine ⟨_,rfl,hst,⟨by rw [wr_w,Zea];exact h.lt,by simp [G.wr],fun b' hb' ho=>?_,by rw [wr_w];exact setRow_heap _ _ _ _ _ _ h.heap,by rw [Znn hfit];exact h.len,h.max,?_,?_,fun o=>by simp [G.wr]⟩⟩
 · rw [wr_w,Zea] at hb'
   simp only [G.wr] at ho
   split at ho
   · assumption
   · exact h.uniq b' hb' ho
 · rw [List.size_toArray,Zdg (by rw [hl,hcl,← Nat.add_mul];exact Nat.mul_le_mul_right _ (by omega))];exact hcl
 · exact Z5t hst.le hl hcl hfit h.len h.known hn
theorem Zur {g : G} {b off len cap : Nat} {fs : List (Option α)} {cur : Array Value} (hT : TE P t e dk bytes) (h : OwnAt dk e j fs g b cap cur) (hoff : off + len ≤ fs.length) {A : Option Addr} {n c2 : Nat} {ws : List α} {news : List Value} (hn : ws.length = Nat.min n len) (hA : ws = [] ∨ ∃ b2 o2, A = some ⟨b2, o2, none⟩ ∧ ∀ k u, news[k]? = some u → g.w.cell? ⟨b2, o2 + k, none⟩ = some u) (hl : news.length = ws.length * dk.sz) (hone : ∀ u ∈ news, u.oneCell' = true) (ty : TypeId) :
   (Builtin.copy_ #[t,t] ty #[.slice (some (if cap=off then ⟨b,0,none⟩ else ⟨b,off * dk.sz,none⟩)) len (cap - off),.slice A n c2]).run P g.w=.ok (.int .i64 (ws.length:Int)) (g.w.setRow b (Zba cur.toList (off * dk.sz) news).toArray):=by
 obtain ⟨i,zz,hi,hz,hsz,hby,hzs⟩:=hT.info
 have hcl:cur.toList.length=cap * dk.sz:=by simpa using h.sz
 have hlen:=h.len
 rcases hA with rfl | ⟨b2,o2,rfl,hcell⟩
 · have hn0:news=[]:=List.eq_nil_of_length_eq_zero (by simpa using hl)
   subst hn0
   have hs:(Zba cur.toList (off * dk.sz) []).toArray=cur:=by simp [Zba]
   have hself:g.w.setRow b cur=g.w:=setRow_self g.w b cur e (0,0) h.heap
   rw [hs,hself]
   have hm:Nat.min n len=0:=by simpa using hn.symm
   cases A <;> simp [Builtin.copy_,run_underlying hT.und,Builtin.lenOf,Builtin.firstCells,sizeOf,typeInfo,hi,hm,loadCells,loadCellsFrom,storeCells,goInt]
 · have hld:=run_loadCells_list (P:=P) g.w ⟨b2,o2,none⟩ news (fun k u hu=>by rw [Zdu];exact hcell k u hu)
   rw [hl,hn] at hld
   by_cases he:cap=off
   · have hlen0:len=0:=by omega
     have hw0:ws=[]:=List.eq_nil_of_length_eq_zero (by rw [hn,hlen0];simp)
     subst hw0
     have hn0:news=[]:=List.eq_nil_of_length_eq_zero (by simpa using hl)
     subst hn0
     have hs:(Zba cur.toList (off * dk.sz) []).toArray=cur:=by simp [Zba]
     have hself:g.w.setRow b cur=g.w:=setRow_self g.w b cur e (0,0) h.heap
     rw [hs,hself]
     have hm:Nat.min n len=0:=by simpa using hn.symm
     simp [Builtin.copy_,run_underlying hT.und,Builtin.lenOf,Builtin.firstCells,sizeOf,typeInfo,hi,hm,loadCells,loadCellsFrom,storeCells,goInt]
   · rw [if_neg he]
     have hst:=run_storeCells_at P b (off * dk.sz) e news 0 cur g.w h.heap (by rw [hl,Nat.add_zero,← Nat.add_mul];rw [h.sz];exact Nat.mul_le_mul_right _ (by rw [hn];have:Nat.min n len ≤ len:=Nat.min_le_right n len;omega)) hone
     rw [Nat.add_zero] at hst
     simp only [Builtin.copy_,run_underlying hT.und,Builtin.lenOf,Builtin.firstCells,sizeOf,typeInfo,Sem.run_bind,run_program,Result.andThen_ok,hi,Sem.run_pure,hsz,List.getElem?_toArray,List.getElem?_cons_zero,List.getElem?_cons_succ,hld,goInt,hn]
     rw [hst]
     rfl
theorem Z01 {fs : List (Option α)} {off len s : Nat} {vs : List α} (hT : TE P t e dk bytes) (hfit : off + len ≤ fs.length) (hv : vs.length ≤ len) (hop : o.op = .call { callee := .builtin .copy, args := #[x, y], argTypes := #[t, t] }) (hd : o.dst = some d) (hsd : s ≠ d)
   (hx:Opd uses x (Zod dk e j off len)) (hy:Opd uses y (dk.sl.pd vs)) (hs:Opd uses (.tmp s) (pOwn dk e j c fs)):OB P N o uses [(d,pInt .i64 (vs.length:Int)),(s,pOwn dk e j c (over fs off vs))] [j + 1]:=by
 intro a g K Q hN hdN hu hK
 obtain ⟨b,cap,cur,hxv,hO1,_⟩:=hx a g hu
 obtain ⟨b',cap',cur',hsv,hO,hc⟩:=hs a g hu
 obtain ⟨rfl,rfl,rfl⟩:=hO.same hO1 hT.sz
 obtain ⟨A,c2,hy1,hy2,hy3,hyr⟩:=Zqi (hy a g hu)
 obtain ⟨news,hl,hcl,hk⟩:∃ news:List Value,news.length=vs.length * dk.sz ∧ (vs=[] ∨ ∃ b2 o2,A=some ⟨b2,o2,none⟩ ∧ ∀ k u,news[k]?=some u → g.w.cell? ⟨b2,o2 + k,none⟩=some u) ∧ ∀ i x,vs[i]?=some x → dk.K g x (seg news (i * dk.sz) dk.sz):=by
   rcases hyr with rfl | ⟨b2,o2,news,rfl,h1,h2,h3⟩
   · exact ⟨[],by simp,.inl rfl,fun i x hx=>by simp at hx⟩
   · exact ⟨news,h1,.inr ⟨b2,o2,rfl,fun k u hu=>(h2 k u hu).2⟩,h3⟩
 obtain ⟨g',hw,hst,hO'⟩:=Zul hO (off:=off) hl (by omega) hk
 have hr:=Zur hT hO (off:=off) (len:=len) hfit (A:=A) (n:=vs.length) (c2:=c2) (ws:=vs) (by simp [Nat.min_eq_left hv]) hcl hl (Znr hl hk hT.sz) o.type
 have hr':(execOp a.eval o).run P g.w=.ok (.value (.int .i64 (vs.length:Int))) g'.w:=by
   simp [execOp,hop,resolve,invoke,builtin,hxv,hy1,hr,hw]
 unfold Oper.wp
 rw [hr']
 refine hK _ g' hst fun e he=>?_
 simp only [List.mem_cons,List.not_mem_nil,or_false] at he
 rcases he with rfl | rfl
 · rw [hd,Zfx _ (by rw [hN];exact hdN d hd)];exact Zid _ _ g'
 · rw [Zkh _ (by rw [hd];intro h;exact hsd (Option.some.inj h).symm)]
   exact ⟨b,cap,_,by rw [Znn (by omega)];exact hsv,hO',hc⟩
theorem Z2g {fs fs2 : List (Option α)} {off len off2 len2 s s2 j2 : Nat} {c2 : Option Nat} {ws : List α} (hT : TE P t e dk bytes) (hfit : off + len ≤ fs.length) (hfit2 : off2 + len2 ≤ fs2.length) (hw : ws.length = Nat.min len2 len) (hws : ∀ i x, ws[i]? = some x → fs2[off2 + i]? = some (some x))
   (hop:o.op=.call { callee:=.builtin .copy,args:=#[x,y],argTypes:=#[t,t] }) (hd:o.dst=some d) (hsd:s ≠ d) (hx:Opd uses x (Zod dk e j off len)) (hy:Opd uses y (Zod dk e j2 off2 len2)) (hs:Opd uses (.tmp s) (pOwn dk e j c fs)) (hs2:Opd uses (.tmp s2) (pOwn dk e j2 c2 fs2)) :
   OB P N o uses [(d,pInt .i64 (ws.length:Int)),(s,pOwn dk e j c (over fs off ws))] [j + 1]:=by
 intro a g K Q hN hdN hu hK
 obtain ⟨b,cap,cur,hxv,hO1,_⟩:=hx a g hu
 obtain ⟨b',cap',cur',hsv,hO,hc⟩:=hs a g hu
 obtain ⟨rfl,rfl,rfl⟩:=hO.same hO1 hT.sz
 obtain ⟨b3,cap3,cur3,hyv,hO3,hcap3⟩:=hy a g hu
 obtain ⟨b2,cap2,cur2,hsv2,hO2,hc2⟩:=hs2 a g hu
 obtain ⟨rfl,rfl,rfl⟩:=hO2.same hO3 hT.sz
 have hwl2:ws.length ≤ len2:=by rw [hw];exact Nat.min_le_left _ _
 have hwl:ws.length ≤ len:=by rw [hw];exact Nat.min_le_right _ _
 have hl2:=hO2.len
 have hcl2:cur3.toList.length=cap3 * dk.sz:=by simpa using hO2.sz
 let news:=seg cur3.toList (off2 * dk.sz) (ws.length * dk.sz)
 have hnl:news.length=ws.length * dk.sz:=by
   show ((cur3.toList.drop (off2 * dk.sz)).take (ws.length * dk.sz)).length=_
   rw [List.length_take,List.length_drop,hcl2]
   have:(off2 + ws.length) * dk.sz ≤ cap3 * dk.sz:=Nat.mul_le_mul_right _ (by omega)
   rw [Nat.add_mul] at this;omega
 have hk:∀ i x,ws[i]?=some x → dk.K g x (seg news (i * dk.sz) dk.sz):=fun i x hx=>by
   have hi:=(List.getElem?_eq_some_iff.1 hx).1
   have h1:=hO2.known _ _ (hws i x hx)
   have e:seg news (i * dk.sz) dk.sz=seg cur3.toList ((off2 + i) * dk.sz) dk.sz:=by
     show (((cur3.toList.drop (off2 * dk.sz)).take (ws.length * dk.sz)).drop (i * dk.sz)).take dk.sz=_
     have:=Zld (sz:=dk.sz) hi
     rw [List.drop_take,List.take_take,List.drop_drop,Nat.min_eq_left (by omega),Nat.add_mul];rfl
   rw [e];exact h1
 obtain ⟨g',hgw,hst,hO'⟩:=Zul hO (off:=off) hnl (by omega) hk
 have hcell:∀ k u,news[k]?=some u → g.w.cell? ⟨b3,off2 * dk.sz + k,none⟩=some u:=fun k u hu=>by
   simp only [World.cell?,hO2.heap]
   have hu':((cur3.toList.drop (off2 * dk.sz)).take (ws.length * dk.sz))[k]?=some u:=hu
   rw [List.getElem?_take] at hu'
   split at hu'
   · rw [List.getElem?_drop] at hu'
     simpa using hu'
   · cases hu'
 have hr:=Zur hT hO (off:=off) (len:=len) hfit (A:=some (if cap3=off2 then ⟨b3,0,none⟩ else ⟨b3,off2 * dk.sz,none⟩)) (n:=len2) (c2:=cap3 - off2) (ws:=ws) (news:=news) hw (by
   by_cases he:cap3=off2
   · left;apply List.eq_nil_of_length_eq_zero;omega
   · right;exact ⟨b3,off2 * dk.sz,by rw [if_neg he],hcell⟩) hnl (Znr hnl hk hT.sz) o.type
 have hr':(execOp a.eval o).run P g.w=.ok (.value (.int .i64 (ws.length:Int))) g'.w:=by
   simp only [execOp,hop,resolve,invoke,builtin,Sem.run_bind,Sem.run_pure,Result.andThen_ok,List.map_toArray,List.map_cons,List.map_nil,hxv,hyv,hr,hgw]
 unfold Oper.wp
 rw [hr']
 refine hK _ g' hst fun e he=>?_
 simp only [List.mem_cons,List.not_mem_nil,or_false] at he
 rcases he with rfl | rfl
 · rw [hd,Zfx _ (by rw [hN];exact hdN d hd)];exact Zid _ _ g'
 · rw [Zkh _ (by rw [hd];intro h;exact hsd (Option.some.inj h).symm)]
   exact ⟨b,cap,_,by rw [Znn (by omega)];exact hsv,hO',hc⟩
end
section
variable {P:Program} {N:Nat} {o:Oper} {uses:Zbm} {d:Nat} {q:Pd} {x y z:Operand} {α:Type} {dk:Kd α} {t e:TypeId} {bytes j:Nat} {c:Option Nat}
theorem OwnAt.ext {fs:List (Option α)} {g:G} {b cap h:Nat} {cur:Array Value} (hO:OwnAt dk e j fs g b cap cur) (h1:fs.length ≤ h) (h2:h ≤ cap):OwnAt dk e j (fs ++ List.replicate (h - fs.length) none) g b cap cur :=
 ⟨hO.lt,hO.own,hO.uniq,hO.heap,by simp;omega,hO.max,hO.sz,fun i x hx=>by
   rw [List.getElem?_append] at hx
   split at hx
   · exact hO.known i x hx
   · rw [List.getElem?_replicate] at hx
     split at hx <;> simp at hx,hO.npr⟩
theorem OwnAt.sub {fs fs':List (Option α)} {g:G} {b cap:Nat} {cur:Array Value} (hO:OwnAt dk e j fs g b cap cur) (hl:fs'.length ≤ cap) (hk:∀ (i:Nat) (x:α),fs'[i]?=some (some x) → fs[i]?=some (some x)):OwnAt dk e j fs' g b cap cur :=
 ⟨hO.lt,hO.own,hO.uniq,hO.heap,hl,hO.max,hO.sz,fun i x hx=>hO.known i x (hk i x hx),hO.npr⟩
theorem Zm1 (z:Array Value) (n:Nat):(Builtin.zeroCells z n).size=n * z.size:=by simp [Builtin.zeroCells]
theorem Zwd {g : G} {cur : Array Value} {cap : Nat} {fs : List (Option α)} (hj : j ≠ 0) (hl : fs.length ≤ cap) (hm : cap ≤ maxLen) (hs : cur.size = cap * dk.sz) (hk : ∀ (i : Nat) (x : α), fs[i]? = some (some x) → dk.K g x (seg cur.toList (i * dk.sz) dk.sz)) :
   ∃ g':G,g'.w=g.w.drew.alloc (.cells cur e) ∧ Step [j] g g' ∧ OwnAt dk e j fs g' g.w.heap.size cap cur:=by
 have hs1:=Step.drew g
 have hs2:=Zny g.drew cur e (fun _=>False) j
 have hst:Step [j] g (g.drew.push cur e (fun _=>False) j):=(hs1.sub (by simp)).trans hs2
 have hsz:g.drew.w.heap.size=g.w.heap.size:=rfl
 refine ⟨g.drew.push cur e (fun _=>False) j,rfl,hst,⟨by rw [Zii,Zkq];omega,by simp [G.push,hsz],fun b' hb' ho=>?_,by rw [Zii,← hsz];exact Zns ..,hl,hm,hs,fun i x hx=>dk.mono hst.le (hk i x hx),fun o=>by simp [G.push,hsz]⟩⟩
 by_cases h:b'=g.drew.w.heap.size
 · rw [h,hsz]
 · simp only [G.push,if_neg h] at ho
   split at ho
   · exact absurd ho.symm hj
   · rename_i h2;exact absurd ho h2
theorem Ztz {j:Nat} {ty:TypeId} (hT:TE P t e dk bytes) (hop:o.op=.buildSlice t 0 #[]) (hd:o.dst=some d):OB P N o uses [(d,pOwn dk e j (some 0) ([]:List (Option α)))] [j + 1] :=
 Zis hd fun a g hh=>by
   have hs2:=Zny g #[] e (fun _=>False) (j + 1)
   refine ⟨.slice (some ⟨g.w.heap.size,0,none⟩) 0 0,g.push #[] e (fun _=>False) (j + 1),?_,hs2,g.w.heap.size,0,#[],rfl,⟨by rw [Zii,Zkq];omega,by simp [G.push],fun b' hb' ho=>?_,by rw [Zii];exact Zns ..,Nat.le_refl _,Nat.zero_le _,by simp,fun i x hx=>by simp at hx,fun o=>by simp [G.push]⟩,fun k hk=>Option.some.inj hk⟩
   · obtain ⟨cells,hl,_,hr⟩:=Zyg (ys:=[]) (xs:=[]) hT .nil (by simp) hh
     have hc:cells=[]:=List.eq_nil_of_length_eq_zero (by simpa using hl)
     subst hc
     rw [Zii]
     have hr':(Instr.buildSlice t 0 #[]).run P g.w=.ok (.slice (some ⟨g.w.heap.size,0,none⟩) 0 0) (g.w.alloc (.cells #[] e)):=by simpa [idxL] using hr
     simp [execOp,hop]
     rw [hr'];rfl
   · by_cases h:b'=g.w.heap.size
     · exact h
     · simp only [G.push,if_neg h] at ho
       split at ho
       · omega
       · rename_i h2;exact absurd ho h2
theorem Zp4 {xs vs : List α} (hT : TE P t e dk bytes) (hop : o.op = .call { callee := .builtin .append, args := #[x, y], argTypes := #[t, t] }) (hd : o.dst = some d) (hx : Opd uses x (pOwn dk e j c (xs.map some))) (hy : Opd uses y (dk.sl.pd vs)) (hl : (xs.length + vs.length) * bytes ≤ 140737488355328) :
   OB P N o uses [(d,pOwn dk e j none ((xs ++ vs).map some))] [j + 1] :=
 Zis hd fun a g hh=>by
   obtain ⟨b,cap,cur,hv,hO,_⟩:=hx a g hh
   obtain ⟨A,c2,hy1,hy2,hy3,hyr⟩:=Zqi (hy a g hh)
   obtain ⟨i,zz,hi,hz,hsz,hby,hzs⟩:=hT.info
   have hb0:=hT.by0
   have hexec:∀ v w',(Builtin.append_ #[t,t] o.type #[a.eval x,a.eval y]).run P g.w=.ok v w' → (execOp a.eval o).run P g.w=.ok (.value v) w':=fun v w' h=>by
     simp [execOp,hop,resolve,invoke,builtin,h]
   have hlen:xs.length + vs.length ≤ 140737488355328:=Nat.le_trans (Nat.le_mul_of_pos_right _ hb0) hl
   have hOl:=hO.len
   rw [List.length_map] at hOl hv
   rcases Nat.eq_zero_or_pos vs.length with h0 | hpos
   · obtain rfl:=List.eq_nil_of_length_eq_zero h0
     refine ⟨a.eval x,g,hexec _ _ ?_,.refl _ _,b,cap,cur,by rw [hv];simp,by rw [List.append_nil];exact hO,fun k hk=>by cases hk⟩
     rw [hv,hy1]
     cases A <;> simp [Builtin.append_,run_underlying hT.und,sizeOf,typeInfo,hi,Builtin.lenOf,Builtin.firstCells,loadCells,loadCellsFrom,hOl,storeCells]
   · obtain ⟨b2,o2,news,rfl,hnl,hnc,hnk⟩:=hyr.resolve_left (fun h=>by rw [h] at hpos;simp at hpos)
     have hn1:=Znr hnl hnk hT.sz
     have hnl':news.length=vs.length * i.size:=by rw [hsz];exact hnl
     have hnews:∀ k u,news[k]?=some u → g.w.cell? ((⟨b2,o2,none⟩:Addr).add k)=some u:=fun k u hu=>by rw [Zdu];exact (hnc k u hu).2
     by_cases hroom:xs.length + vs.length ≤ cap
     · have hO2:=hO.ext (h:=xs.length + vs.length) (by simp) hroom
       obtain ⟨g',hw,hst,hO3⟩:=Zul hO2 (off:=xs.length) (ws:=vs) hnl (by simp) hnk
       have hr:=run_append_room (P:=P) g.w t o.type e i hT.und hi b xs.length cap cur hO.heap ⟨b2,o2,none⟩ vs.length c2 news hnl' hnews hn1 hroom (by rw [hnl',← Nat.add_mul,hO.sz,hsz];exact Nat.mul_le_mul_right _ hroom)
       rw [hsz] at hr
       refine ⟨_,g',hexec _ _ (by rw [hv,hy1];rw [hw];exact hr),hst,b,cap,(Zba cur.toList (xs.length * dk.sz) news).toArray,by simp,?_,fun k hk=>by cases hk⟩
       refine hO3.sub (by simp;omega) fun k u hk=>?_
       rw [Zmj (by simp)]
       rw [List.getElem?_map] at hk
       by_cases h1:k < xs.length
       · rw [if_pos h1,List.getElem?_append_left (by simpa using h1),List.getElem?_map]
         rwa [List.getElem?_append_left h1] at hk
       · rw [if_neg h1]
         have h2:=(List.getElem?_eq_some_iff.1 (show (xs ++ vs)[k]?=some u by
           obtain ⟨y,hy,he⟩:=Option.map_eq_some_iff.1 hk
           rw [hy,Option.some.inj he])).1
         rw [List.length_append] at h2
         rw [if_pos h2]
         rwa [List.getElem?_append_right (by omega)] at hk
     · have hcl:cur.toList.length=cap * dk.sz:=by simpa using hO.sz
       have hol:(cur.toList.take (xs.length * dk.sz)).length=xs.length * i.size:=by rw [hsz,List.length_take,hcl];exact Nat.min_eq_left (Nat.mul_le_mul_right _ hOl)
       have holds:∀ k u,(cur.toList.take (xs.length * dk.sz))[k]?=some u → g.w.cell? ((⟨b,0,none⟩:Addr).add k)=some u:=fun k u hu=>by
         rw [Zdu]
         simp only [World.cell?,hO.heap,Nat.zero_add]
         rw [List.getElem?_take] at hu
         split at hu
         · simpa using hu
         · cases hu
       have hr:=run_append_grow (P:=P) g.w t o.type e i zz hT.und hi hz ⟨b,0,none⟩ xs.length cap (cur.toList.take (xs.length * dk.sz)) hol holds ⟨b2,o2,none⟩ vs.length c2 news hnl' hnews (by omega) (by omega) (growslice_fits (by omega) (by rw [hby];exact hl))
       have hge:=grownCap_ge g.w (xs.length + vs.length) cap e
       have hmx:=grownCap_le_maxLen g.w (xs.length + vs.length) cap e (by simp only [maxLen];omega)
       rw [hsz] at hol
       obtain ⟨g', hw, hst, hO3⟩ := Zwd (dk := dk) (e := e) (g := g) (j := j + 1) (cur := (cur.toList.take (xs.length * dk.sz)).toArray ++ news.toArray ++ Builtin.zeroCells zz.cells (grownCap g.w (xs.length + vs.length) cap e - (xs.length + vs.length))) (cap := grownCap g.w (xs.length + vs.length) cap e) (fs := (xs ++ vs).map some) (by omega) (by simpa using hge) hmx (by
           simp only [Array.size_append,List.size_toArray,Zm1,hzs,hol,hnl,← Nat.add_mul]
           congr 1;omega) (fun k u hk=>by
           rw [List.getElem?_map] at hk
           obtain ⟨u',hu',he'⟩:=Option.map_eq_some_iff.1 hk
           obtain rfl:=Option.some.inj he'
           simp only [Array.toList_append,List.append_assoc]
           rw [List.getElem?_append] at hu'
           split at hu'
           · rename_i h1
             rw [Zf9 (by rw [hol];exact Zld h1)]
             have e2:seg (cur.toList.take (xs.length * dk.sz)) (k * dk.sz) dk.sz=seg cur.toList (k * dk.sz) dk.sz:=by
               have:=Zld (sz:=dk.sz) h1
               simp only [seg,List.drop_take,List.take_take]
               congr 1;omega
             rw [e2]
             exact hO.known k u' (by rw [List.getElem?_map,hu'];rfl)
           · rename_i h1
             have h2:=(List.getElem?_eq_some_iff.1 hu').1
             rw [show k * dk.sz=(cur.toList.take (xs.length * dk.sz)).length + (k - xs.length) * dk.sz by rw [hol,← Nat.add_mul];congr 1;omega,Zip,Zf9 (by rw [hnl];exact Zld h2)]
             exact hnk _ _ hu')
       refine ⟨_,g',hexec _ _ (by rw [hv,hy1];rw [hw];exact hr),hst,_,_,_,by simp,hO3,fun k hk=>by cases hk⟩
theorem Z5g {fs : List (Option α)} {n off len s k : Nat} {xs ws : List α} (hT : TE P t e dk bytes) (hn : n = xs.length) (hn2 : n + len ≤ k) (hfs : off + len ≤ fs.length) (hw : ws.length = len) (hxs : ∀ (i : Nat) (x : α), xs[i]? = some x → fs[i]? = some (some x)) (hws : ∀ (i : Nat) (x : α), ws[i]? = some x → fs[off + i]? = some (some x))
   (hop:o.op=.call { callee:=.builtin .append,args:=#[x,y],argTypes:=#[t,t] }) (hd:o.dst=some d) (hx:Opd uses x (Zod dk e j 0 n)) (hy:Opd uses y (Zod dk e j off len)) (hs:Opd uses (.tmp s) (pOwn dk e j (some k) fs)) :
   OB P N o uses [(d,pOwn dk e j (some k) ((xs ++ ws).map some))] [j + 1] :=
 Zis hd fun a g hh=>by
   obtain ⟨b,cap,cur,hxv,hO1,_⟩:=hx a g hh
   obtain ⟨b',cap',cur',hsv,hO,hc⟩:=hs a g hh
   obtain rfl:=hc k rfl
   obtain ⟨rfl,rfl,rfl⟩:=hO.same hO1 hT.sz
   obtain ⟨b3,cap3,cur3,hyv,hO3,hcap3⟩:=hy a g hh
   obtain ⟨rfl,rfl,rfl⟩:=hO.same hO3 hT.sz
   obtain ⟨i,zz,hi,hz,hsz,hby,hzs⟩:=hT.info
   have hl2:=hO.len
   have hcl:cur3.toList.length=cap3 * dk.sz:=by simpa using hO.sz
   let news:=seg cur3.toList (off * dk.sz) (len * dk.sz)
   have hnl:news.length=ws.length * dk.sz:=by
     show ((cur3.toList.drop (off * dk.sz)).take (len * dk.sz)).length=_
     rw [List.length_take,List.length_drop,hcl,hw]
     have:(off + len) * dk.sz ≤ cap3 * dk.sz:=Nat.mul_le_mul_right _ (by omega)
     rw [Nat.add_mul] at this;omega
   have hk:∀ (i:Nat) (x:α),ws[i]?=some x → dk.K g x (seg news (i * dk.sz) dk.sz):=fun i x hx=>by
     have hi:=(List.getElem?_eq_some_iff.1 hx).1
     have h1:=hO.known _ _ (hws i x hx)
     have e:seg news (i * dk.sz) dk.sz=seg cur3.toList ((off + i) * dk.sz) dk.sz:=by
       show (((cur3.toList.drop (off * dk.sz)).take (len * dk.sz)).drop (i * dk.sz)).take dk.sz=_
       have:=Zld (sz:=dk.sz) (show i < len by omega)
       rw [List.drop_take,List.take_take,List.drop_drop,Nat.min_eq_left (by omega),Nat.add_mul];rfl
     rw [e];exact h1
   have hcell:∀ k u,news[k]?=some u → g.w.cell? ((⟨b3,off * dk.sz,none⟩:Addr).add k)=some u:=fun k u hu=>by
     rw [Zdu]
     simp only [World.cell?,hO.heap]
     have hu':((cur3.toList.drop (off * dk.sz)).take (len * dk.sz))[k]?=some u:=hu
     rw [List.getElem?_take] at hu'
     split at hu'
     · rw [List.getElem?_drop] at hu'
       simpa using hu'
     · cases hu'
   have hO4:=(hO.sub (fs':=xs.map some) (by rw [List.length_map];omega) (fun i x hx=>by
     rw [List.getElem?_map] at hx
     obtain ⟨y,hy,he⟩:=Option.map_eq_some_iff.1 hx
     rw [hxs i y hy,he])).ext (h:=n + len) (by rw [List.length_map];omega) (by omega)
   obtain ⟨g',hgw,hst,hO5⟩:=Zul hO4 (off:=n) (ws:=ws) hnl (by simp;omega) hk
   have hb0:(if cap3=0 then (⟨b3,0,none⟩:Addr) else ⟨b3,0 * dk.sz,none⟩)=⟨b3,0,none⟩:=by split <;> simp
   have hr:(Builtin.append_ #[t,t] o.type #[a.eval x,a.eval y]).run P g.w=.ok (.slice (some ⟨b3,0,none⟩) (n + len) cap3) g'.w:=by
     rw [hxv,hyv,hb0,hgw,Nat.sub_zero]
     by_cases h0:cap3=off
     · have hl0:len=0:=by omega
       have hn0:news=[]:=List.eq_nil_of_length_eq_zero (by rw [hnl,hw,hl0];simp)
       rw [if_pos h0]
       have:=run_append_room (P:=P) g.w t o.type e i hT.und hi b3 n cap3 cur3 hO.heap ⟨b3,0,none⟩ len (cap3 - off) news (by rw [hn0,hl0];simp) (fun j u hu=>by rw [hn0] at hu;simp at hu) (fun u hu=>by rw [hn0] at hu;cases hu) (by omega) (by rw [hn0,hO.sz,hsz];simp;exact Nat.mul_le_mul_right _ (by omega))
       rw [hsz] at this
       exact this
     · rw [if_neg h0]
       have:=run_append_room (P:=P) g.w t o.type e i hT.und hi b3 n cap3 cur3 hO.heap ⟨b3,off * dk.sz,none⟩ len (cap3 - off) news (by rw [hnl,hw,hsz]) hcell (Znr hnl hk hT.sz) (by omega) (by rw [hnl,hw,hsz,← Nat.add_mul,hO.sz];exact Nat.mul_le_mul_right _ (by omega))
       rw [hsz] at this
       exact this
   refine ⟨_,g',?_,hst,b3,cap3,(Zba cur3.toList (n * dk.sz) news).toArray,rfl,?_,hc⟩
   · rw [show ((xs ++ ws).map some).length=n + len by simp;omega]
     simp [execOp,hop,resolve,invoke,builtin,hr]
   · refine hO5.sub (by simp;omega) fun k u hk=>?_
     rw [Zmj (by simp;omega)]
     rw [List.getElem?_map] at hk
     by_cases h1:k < n
     · rw [if_pos h1,List.getElem?_append_left (by simp;omega),List.getElem?_map]
       rwa [List.getElem?_append_left (by omega)] at hk
     · rw [if_neg h1]
       have h2:=(List.getElem?_eq_some_iff.1 (show (xs ++ ws)[k]?=some u by
         obtain ⟨y,hy,he⟩:=Option.map_eq_some_iff.1 hk
         rw [hy,Option.some.inj he])).1
       rw [List.length_append] at h2
       rw [if_pos (by omega)]
       rw [List.getElem?_append_right (by omega)] at hk
       rw [hn];exact hk
theorem Zrs (w : World) (t tn ty e : TypeId) (i : TypeInfo) (z : Value) (k kn : IntKind) (ht : P.underlying t = some (.slice e)) (htn : P.underlying tn = some (.int kn)) (hi : P.info? e = some i) (hz : i.zero = some z)
   (b:Addr) (sLen sCap:Nat) (olds:List Value) (hlo:olds.length=sLen * i.size) (holds:∀ j v,olds[j]?=some v → w.cell? (b.add j)=some v)
   (n:Nat) (h0:0 < n) (hs:0 < i.size) (hg:sCap < sLen + n) (h63:((sLen + n:Nat):Int) ≤ 9223372036854775807) (h48:n * i.bytes ≤ 281474976710656) (hfit:Builtin.nextslicecap (sLen + n) sCap * i.bytes ≤ 281474976710656) :
   (Builtin.append_ #[t,tn] ty #[.slice (some b) sLen sCap,.int k n]).run P w =
     .ok (.slice (some ⟨w.heap.size,0,none⟩) (sLen + n) (grownCap w (sLen + n) sCap e))
       (w.drew.alloc (.cells (olds.toArray ++ Builtin.zeroCells z.cells n ++ Builtin.zeroCells z.cells (grownCap w (sLen + n) sCap e - (sLen + n))) e)):=by
 have hw:IntKind.i64.wrap (n:Int)=n:=by rw [IntKind.wrap_i64];omega
 have hn:¬ (sLen + n ≤ sCap):=by omega
 have h63':¬ (9223372036854775807 < ((sLen:Int) + (n:Int))):=by omega
 have h48':¬ (281474976710656 < Builtin.nextslicecap (sLen + n) sCap * i.bytes):=by omega
 have h48i:¬ (281474976710656 < (n:Int) * (i.bytes:Int)):=by
   rw [← Int.natCast_mul]
   omega
 have hneg:¬ ((n:Int) < 0):=by omega
 have hns:¬ (n * i.size=0):=Nat.mul_ne_zero (by omega) (by omega)
 have hfo:=run_firstCells_some (P:=P) w.drew i.size sLen b sLen sCap olds hlo (by simpa using holds)
 simp [Builtin.append_,run_underlying ht,run_underlying htn,sizeOf,typeInfo,zeroValue,hi,hz,asInt,asIntOf,hw,hn,hneg,hns,h63',h48',h48i,Question.forced,hfo,newRow,grownCap]
theorem Z5v {fs : List (Option α)} {n m s k d2 tn : Nat} {kn : IntKind} {xs : List α} (hT : TE P t e dk bytes) (htn : P.underlying tn = some (.int kn)) (hn : n = xs.length) (hfs : n ≤ fs.length) (hm : 0 < m) (hk : k < n + m) (hb : (n + m) * bytes ≤ 140737488355328) (hxs : ∀ (i : Nat) (x : α), xs[i]? = some x → fs[i]? = some (some x))
   (hop:o.op=.call { callee:=.builtin .append,args:=#[x,y],argTypes:=#[t,tn] }) (hd:o.dst=some d) (hx:Opd uses x (Zod dk e j 0 n)) (hy:Opd uses y (pInt .i64 (m:Int))) (hs:Opd uses (.tmp s) (pOwn dk e j (some k) fs)) :
   OB P N o uses [(d,pOwn dk e d2 none (xs.map some ++ List.replicate m none))] [d2 + 1] :=
 Zis hd fun a g hh=>by
   obtain ⟨b,cap,cur,hxv,hO1,_⟩:=hx a g hh
   obtain ⟨b',cap',cur',hsv,hO,hc⟩:=hs a g hh
   obtain rfl:=hc k rfl
   obtain ⟨rfl,rfl,rfl⟩:=hO.same hO1 hT.sz
   obtain ⟨i,zz,hi,hz,hsz,hby,hzs⟩:=hT.info
   have hyv:=Zdh.1 (hy a g hh)
   have hb0:(if cap=0 then (⟨b,0,none⟩:Addr) else ⟨b,0 * dk.sz,none⟩)=⟨b,0,none⟩:=by split <;> simp
   have hOl:=hO.len
   have hcl:cur.toList.length=cap * dk.sz:=by simpa using hO.sz
   have hlen:n + m ≤ 140737488355328:=Nat.le_trans (Nat.le_mul_of_pos_right _ hT.by0) hb
   have hol:(cur.toList.take (n * dk.sz)).length=n * dk.sz:=by rw [List.length_take,hcl];exact Nat.min_eq_left (Nat.mul_le_mul_right _ (by omega))
   have holds:∀ k u,(cur.toList.take (n * dk.sz))[k]?=some u → g.w.cell? ((⟨b,0,none⟩:Addr).add k)=some u:=fun k u hu=>by
     rw [Zdu]
     simp only [World.cell?,hO.heap,Nat.zero_add]
     rw [List.getElem?_take] at hu
     split at hu
     · simpa using hu
     · cases hu
   have hmb:m * bytes ≤ (n + m) * bytes:=Nat.mul_le_mul_right _ (by omega)
   have hr:=Zrs (P:=P) g.w t tn o.type e i zz .i64 kn hT.und htn hi hz ⟨b,0,none⟩ n cap (cur.toList.take (n * dk.sz)) (by rw [hol,hsz]) holds m hm (by rw [hsz];exact hT.sz) hk (by omega) (by rw [hby];omega) (growslice_fits hk (by rw [hby];exact hb))
   have hge:=grownCap_ge g.w (n + m) cap e
   have hmx:=grownCap_le_maxLen g.w (n + m) cap e (by simp only [maxLen];omega)
   obtain ⟨g', hw, hst, hO3⟩ := Zwd (dk := dk) (e := e) (g := g) (j := d2 + 1) (cur := (cur.toList.take (n * dk.sz)).toArray ++ Builtin.zeroCells zz.cells m ++ Builtin.zeroCells zz.cells (grownCap g.w (n + m) cap e - (n + m))) (cap := grownCap g.w (n + m) cap e) (fs := xs.map some ++ List.replicate m none) (by omega) (by simp; omega) hmx (by
       simp only [Array.size_append,List.size_toArray,Zm1,hzs,hol,← Nat.add_mul]
       congr 1;omega) (fun k u hk=>by
       rw [List.getElem?_append] at hk
       split at hk
       · rename_i h1
         rw [List.length_map] at h1
         rw [List.getElem?_map] at hk
         obtain ⟨u',hu',he'⟩:=Option.map_eq_some_iff.1 hk
         obtain rfl:=Option.some.inj he'
         simp only [Array.toList_append,List.append_assoc]
         rw [Zf9 (by rw [hol];exact Zld (by omega))]
         have e2:seg (cur.toList.take (n * dk.sz)) (k * dk.sz) dk.sz=seg cur.toList (k * dk.sz) dk.sz:=by
           have:=Zld (sz:=dk.sz) (show k < n by omega)
           simp only [seg,List.drop_take,List.take_take]
           congr 1;omega
         rw [e2]
         exact hO.known k u' (hxs k u' hu')
       · rw [List.getElem?_replicate] at hk
         split at hk <;> simp at hk)
   refine ⟨_,g',?_,hst,_,_,_,rfl,hO3,fun k hk=>by cases hk⟩
   rw [show (xs.map some ++ List.replicate m (none:Option α)).length=n + m by simp;omega]
   rw [hb0,Nat.sub_zero] at hxv
   simp [execOp,hop,resolve,invoke,builtin,hxv,hyv,hr,hw]
theorem Z6s {fs : List (Option α)} {off len s k : Nat} (hT : TE P t e dk bytes) (hz1 : ((P.info? e).bind (·.zero)).map (fun z => z.cells.all (·.oneCell')) = some true) (hfs : fs.length ≤ off) (hk : off + len ≤ k)
   (hop:o.op=.call { callee:=.builtin .clear,args:=#[x],argTypes:=#[t] }) (hd:o.dst=none) (hx:Opd uses x (Zod dk e j off len)) (hs:Opd uses (.tmp s) (pOwn dk e j (some k) fs)):OB P N o uses [(s,pOwn dk e j (some k) fs)] [j + 1]:=by
 intro a g K Q hN hdN hu hK
 obtain ⟨b,cap,cur,hxv,hO1,_⟩:=hx a g hu
 obtain ⟨b',cap',cur',hsv,hO,hc⟩:=hs a g hu
 obtain rfl:=hc k rfl
 obtain ⟨rfl,rfl,rfl⟩:=hO.same hO1 hT.sz
 obtain ⟨i,zz,hi,hz,hsz,hby,hzs⟩:=hT.info
 have hcl:cur.toList.length=cap * dk.sz:=by simpa using hO.sz
 have hone:∀ u ∈ (Builtin.zeroCells zz.cells len).toList,u.oneCell'=true:=by
   simp only [hi,hz,Option.bind_some,Option.map_some,Option.some.injEq] at hz1
   intro u hu
   simp only [Builtin.zeroCells,Array.toList_map,List.mem_map] at hu
   obtain ⟨m,hm,rfl⟩:=hu
   have h0:0 < zz.cells.size:=by rw [hzs];exact hT.sz
   have hlt:m % zz.cells.size < zz.cells.size:=Nat.mod_lt _ h0
   rw [getElem!_pos zz.cells _ hlt]
   exact Array.all_eq_true.1 hz1 _ hlt
 have hcl2:(cur.toList.take (off * dk.sz) ++ (Builtin.zeroCells zz.cells len).toList ++ cur.toList.drop (off * dk.sz + (Builtin.zeroCells zz.cells len).toList.length)).toArray=(Zba cur.toList (off * dk.sz) (Builtin.zeroCells zz.cells len).toList).toArray:=rfl
 have hzl:(Builtin.zeroCells zz.cells len).toList.length=len * dk.sz:=by rw [Array.length_toList,Zm1,hzs]
 have hfit:off * dk.sz + (Builtin.zeroCells zz.cells len).toList.length ≤ cur.toList.length:=by rw [hzl,hcl,← Nat.add_mul];exact Nat.mul_le_mul_right _ hk
 let cs:=(Zba cur.toList (off * dk.sz) (Builtin.zeroCells zz.cells len).toList).toArray
 have hr:(Builtin.clear_ #[t] o.type #[a.eval x]).run P g.w=.ok (.tuple #[]) (g.w.setRow b cs):=by
   rw [hxv]
   rcases Nat.eq_zero_or_pos len with rfl | hpos
   · have hs0 : cs = cur := by
       show (Zba cur.toList (off * dk.sz) (Builtin.zeroCells zz.cells 0).toList).toArray=cur
       have:(Builtin.zeroCells zz.cells 0).toList=[]:=by simp [Builtin.zeroCells]
       rw [this];simp [Zba]
     rw [hs0,setRow_self g.w b cur e (0,0) hO.heap]
     by_cases he:cap=off <;> simp [Builtin.clear_,run_underlying hT.und]
   · have he:¬ cap=off:=by omega
     rw [if_neg he]
     have hst:=run_storeCells_at P b (off * dk.sz) e (Builtin.zeroCells zz.cells len).toList 0 cur g.w hO.heap (by rw [Nat.add_zero];simpa using hfit) hone
     rw [Nat.add_zero] at hst
     obtain ⟨len,rfl⟩:∃ m,len=m + 1:=⟨len - 1,by omega⟩
     simp [Builtin.clear_,run_underlying hT.und,zeroValue,typeInfo,hi,hz]
     rw [hst];rfl
 have hr':(execOp a.eval o).run P g.w=.ok (.value (.tuple #[])) (g.w.setRow b cs):=by
   simp [execOp,hop,resolve,invoke,builtin,hr]
 unfold Oper.wp
 rw [hr']
 have hst:Step [j + 1] g (g.wr b cs hO.lt hO.npr (fun _=>False) (j + 1)):=Znp hO.own (.inr rfl) hO.npr
 refine hK _ (g.wr b cs hO.lt hO.npr (fun _=>False) (j + 1)) hst fun e he=>?_
 rw [List.mem_singleton.1 he]
 have hat:Act.at (a.put o.dst (.tuple #[])) s=Act.at a s:=by rw [hd];rfl
 rw [hat]
 refine ⟨b,cap,cs,hsv,⟨by rw [wr_w,Zea];exact hO.lt,by simp [G.wr],fun b' hb' ho=>?_,by rw [wr_w];exact setRow_heap _ _ _ _ _ _ hO.heap,hO.len,hO.max,?_,fun i x hx=>?_,fun o=>by simp [G.wr]⟩,hc⟩
 · rw [wr_w,Zea] at hb'
   simp only [G.wr] at ho
   split at ho
   · assumption
   · exact hO.uniq b' hb' ho
 · show (Zba cur.toList (off * dk.sz) (Builtin.zeroCells zz.cells len).toList).toArray.size=_
   rw [List.size_toArray,Zdg hfit,hcl]
 · have hi:=(List.getElem?_eq_some_iff.1 hx).1
   have e2:seg cs.toList (i * dk.sz) dk.sz=seg cur.toList (i * dk.sz) dk.sz:=by
     show seg (Zba cur.toList (off * dk.sz) (Builtin.zeroCells zz.cells len).toList) (i * dk.sz) dk.sz=_
     exact Z8 hfit (.inl (Zld (by omega)))
   rw [e2]
   exact dk.mono hst.le (hO.known i x hx)
end
section
variable {P:Program} {N:Nat} {o:Oper} {uses:Zbm} {d:Nat} {q:Pd} {x y z:Operand} {α:Type} {dk:Kd α} {t e:TypeId} {bytes j:Nat} {c:Option Nat}
theorem Z24 {w : World} {ps rs : Array TypeId} {A : Option Addr} {la ca lb cb : Nat} {B : Addr} {cur : Array Value} {i : TypeInfo} (hp : ps[0]? = some t) (ht : P.underlying t = some (.slice e)) (hi : P.info? e = some i)
   (hA:la=0 ∨ ∃ a c2 t2 fr,A=some a ∧ a.block ≠ B.block ∧ w.heap[a.block]?=some (.cells c2 t2 fr) ∧ c2.size ≠ 0) (hB:w.heap[B.block]?=some (.cells cur e (0,0))) (hc:cur.size ≠ 0) :
   (Extern.SlicesOverlaps.overlaps ps rs #[.slice A la ca,.slice (some B) lb cb]).run P w=.ok (.bool false) w:=by
 have hfb:∀ n,w.frozen? { block:=B.block,off:=n }=false:=fun n=>by simp [World.frozen?,hB]
 have hfb':w.frozen? B=false:=by simp [World.frozen?,hB]
 have hsb:w.shape? B.block=some (e,cur.size):=by simp [World.shape?,hB]
 obtain ⟨n,hn⟩:∃ n,cur.size=n + 1:=⟨cur.size - 1,by omega⟩
 rw [hn] at hsb
 change Sem.run P (α:=Value) (do
   let some t := ps[0]? | stuck "slices.overlaps: no parameter types"
   let .slice elem ← underlying t | stuck "slices.overlaps: slice type expected"
   let size ← sizeOf elem
   match A,(some B:Option Addr) with
   | some a,some b =>
     if la=0 ∨ lb=0 ∨ size=0 then pure (Value.bool false)
     else if a.block != b.block && (← frozen a) && (← frozen b) then unsupported .addressObserved
     else do
       if a.block != b.block then do
         noView a;noView b
         if ← mayBeOne a b then return Value.bool ((← choose (.extern "sameAddr.stringBytes" 2)) == 1)
       pure (Value.bool (a.block == b.block && a.off < b.off + lb * size && b.off < a.off + la * size))
   | _,_=>pure (Value.bool false)) w=_
 rcases hA with rfl | ⟨a,c2,t2,fr,rfl,hne,ha,hc2⟩
 · cases A <;> simp [hp,run_underlying ht,sizeOf,typeInfo,hi]
 · have hnb:(a.block != B.block)=true:=by simpa using hne
   have hnb':(a.block == B.block)=false:=by simpa using hne
   obtain ⟨n2,hn2⟩:∃ n,c2.size=n + 1:=⟨c2.size - 1,by omega⟩
   have hsa:w.shape? a.block=some (t2,n2 + 1):=by simp [World.shape?,ha,hn2]
   by_cases h0:la=0 ∨ lb=0 ∨ i.size=0
   · simp [hp,run_underlying ht,sizeOf,typeInfo,hi,h0]
   · cases hfa : w.frozen? a <;> cases hfe : w.frozen? { block := a.block, off := n2 + 1 } <;>
       simp [hp,run_underlying ht,sizeOf,typeInfo,hi,h0,hnb,hnb',frozen,noView,viewAt,mayBeOne,stringish,shape,Sem.run,hsa,hsb,hfa,hfe,hfb,hfb']
theorem Z3f {f : FuncId} {fs : List (Option α)} {off len s : Nat} {vs : List α} {ps rs : Array TypeId} {ty : Array TypeId} (hT : TE P t e dk bytes) (hp : ps[0]? = some t) (he : Ext P f (Extern.SlicesOverlaps.overlaps ps rs)) (hfs : 0 < fs.length) (hop : o.op = .call { callee := .value (.func f), args := #[x, y], argTypes := ty }) (hd : o.dst = some d)
   (hx:Opd uses x (dk.sl.pd vs)) (hy:Opd uses y (Zod dk e j off len)) (hs:Opd uses (.tmp s) (pOwn dk e j c fs)):OB P N o uses [(d,Zbf false)] [] :=
 Zck hd fun a g hh=>by
   obtain ⟨A,c2,hx1,hx2,hx3,hxr⟩:=Zqi (hx a g hh)
   obtain ⟨b,cap,cur,hyv,hO,hcap⟩:=hy a g hh
   obtain ⟨b',cap',cur',hsv,hO',_⟩:=hs a g hh
   obtain ⟨rfl,rfl,rfl⟩:=hO.same hO' hT.sz
   obtain ⟨i,zz,hi,hz,hsz,hby,hzs⟩:=hT.info
   have hl:=hO'.len
   have hcs:cur'.size ≠ 0:=by rw [hO'.sz];exact Nat.mul_ne_zero (by omega) (Nat.ne_of_gt hT.sz)
   have hr:(Extern.SlicesOverlaps.overlaps ps rs #[a.eval x,a.eval y]).run P g.w=.ok (.bool false) g.w:=by
     rw [hx1,hyv]
     have hblk:(if cap'=off then (⟨b',0,none⟩:Addr) else ⟨b',off * dk.sz,none⟩).block=b':=by split <;> rfl
     refine Z24 hp hT.und hi ?_ (by rw [hblk];exact hO'.heap) hcs
     rw [hblk]
     rcases hxr with rfl | ⟨b2,o2,news,rfl,hnl,hnc,hnk⟩
     · exact .inl rfl
     · rcases Nat.eq_zero_or_pos vs.length with h0 | hpos
       · exact .inl h0
       · right
         have h1:0 < news.length:=by rw [hnl];exact Nat.mul_pos hpos hT.sz
         obtain ⟨hpr,hcell⟩:=hnc 0 _ (List.getElem?_eq_getElem h1)
         have hne:b2 ≠ b':=fun h=>hO'.npr _ (by rw [← h];exact hpr)
         obtain ⟨cc,tt,fr,hh2,hcs2⟩:∃ cc tt fr,g.w.heap[b2]?=some (.cells cc tt fr) ∧ cc.size ≠ 0:=by
           cases hob:g.w.heap[b2]? with
           | none=>simp [World.cell?,hob] at hcell
           | some ob=>cases ob with
             | cells cc tt fr =>
               refine ⟨cc,tt,fr,rfl,fun h0=>?_⟩
               have:cc=#[]:=Array.eq_empty_of_size_eq_zero h0
               subst this
               simp [World.cell?,hob] at hcell
             | _=>simp [World.cell?,hob] at hcell
         exact ⟨⟨b2,o2,none⟩,cc,tt,fr,rfl,hne,hh2,hcs2⟩
   exact ⟨.bool false,by simp [execOp,hop,resolve,Zu6,Deferred.ofValue,invoke,Z4t he,hr],Zg6 _ g⟩
def Z0q (dk:Kd α) (e:TypeId) (xs:List α) (g:G) (v:Value) (D:Nat → Prop):Prop :=
 (xs=[] ∧ ∃ A,v=.slice A 0 0) ∨ ∃ b cap cur,v=.slice (some ⟨b,0,none⟩) xs.length cap ∧ D b ∧ b < g.w.heap.size ∧ g.w.heap[b]?=some (.cells cur e (0,0)) ∧ xs.length ≤ cap ∧ cap ≤ maxLen ∧ cur.size=cap * dk.sz ∧ (∀ (i:Nat) (x:α),xs[i]?=some x → dk.K g x (seg cur.toList (i * dk.sz) dk.sz)) ∧ ∀ o,¬ g.pr b o
def pArr (dk:Kd α) (e:TypeId) (j:Nat) (xs:List α):Pd:=⟨fun g u=>(xs=[] ∧ ∃ A,u=.slice A 0 0) ∨ ∃ b cap cur,u=.slice (some ⟨b,0,none⟩) xs.length cap ∧ OwnAt dk e (j + 1) (xs.map some) g b cap cur,[j + 1],fun s hd h=>h.imp id fun ⟨b,cap,cur,e,h⟩=>⟨b,cap,cur,e,h.st s (hd _ (by simp)) (by omega)⟩⟩
def Zrt (P:Program) (f:FuncId) (A:List Pd) (dk:Kd α) (e:TypeId) (xs:List α):Prop:=∀ (g:G) (args:List Value),ArgsOk A g args →
 Calls P f args.toArray g.w (fun en w'=>∃ g' v,en=.returned v ∧ w'=g'.w ∧ Zrg (fun _=>False) g g' ∧ Z0q dk e xs g' v (fun b=>g.w.heap.size ≤ b))
def Z0v (P:Program) (f:FuncId) (dk:Kd α) (e:TypeId) (xs:List α) (A:List Pd) (q:Pd):Prop:=∀ (g:G) (v:Value) (D:Nat → Prop) (args:List Value),Z0q dk e xs g v D → ArgsOk A g args →
 Calls P f (v :: args).toArray g.w (fun en w'=>∃ g' u,en=.returned u ∧ w'=g'.w ∧ Zrg D g g' ∧ q.p g' u)
open Classical in
theorem Zmg {f:FuncId} {xs:List α} {xo:List Operand} {A:List Pd} {ty:Array TypeId} (he:Zm P f) (hok:Zrt P f A dk e xs) (hop:o.op=.call { callee:=.value (.func f),args:=xo.toArray,argTypes:=ty }) (hd:o.dst=some d) (hargs:OpdL uses xo A):OB P N o uses [(d,pArr dk e j xs)] [j + 1]:=by
 intro a g K Q hN hdN hu hK
 have hr:(execOp a.eval o).run P g.w=.ok (.enter f (xo.map a.eval).toArray) g.w:=by
   simp [execOp,hop,resolve,Act.eval,Deferred.ofValue,invoke,Zlk he]
 unfold Oper.wp
 rw [hr]
 show Calls P f _ g.w _
 refine Calls.mono (hok g _ (hargs.ok hu)) ?_
 rintro en w' ⟨g',v,rfl,rfl,hS,hA⟩
 have fin:∀ (o1:Nat → Nat),(∀ b,b < g.w.heap.size → o1 b=if g.own b=j + 1 then 0 else g.own b) → (∀ b,g.w.heap.size ≤ b → o1 b=0 ∨ o1 b=j + 1) → Step [j + 1] g ⟨g'.w,g'.pr,o1,g'.hpr,g'.gl⟩:=fun o1 h1 h2 =>
   ⟨⟨hS.le.size,hS.le.pr,hS.le.cell,hS.le.blk⟩,hS.os,hS.tape,hS.output,fun b hb hn=>⟨(hS.same b hb id).1,(hS.same b hb id).2,by show o1 b=_;rw [h1 b hb,if_neg (by simpa using hn)]⟩,
     fun b k1 k2=>(h2 b k1).imp id (fun h=>by show o1 b ∈ _;rw [h];simp),fun b hb hn=>.inl (by show o1 b=0;rw [h1 b hb,if_pos (by simpa using hn)])⟩
 rcases hA with ⟨rfl,A0,rfl⟩ | ⟨b,cap,cur,rfl,hD,h1,h2,h3,h4,h5,h6,h7⟩
 · refine hK _ ⟨g'.w,g'.pr,fun b=>if b < g.w.heap.size then (if g.own b=j + 1 then 0 else g.own b) else 0,g'.hpr,g'.gl⟩ (fin (fun b=>if b < g.w.heap.size then (if g.own b=j + 1 then 0 else g.own b) else 0) (fun b hb=>if_pos hb) (fun b hb=>.inl (if_neg (by omega)))) fun e' he'=>?_
   rw [List.mem_singleton.1 he',hd,Zfx _ (by rw [hN];exact hdN d hd)]
   exact .inl ⟨rfl,A0,rfl⟩
 · refine hK _ ⟨g'.w, g'.pr, fun c => if c < g.w.heap.size then (if g.own c = j + 1 then 0 else g.own c) else if c = b then j + 1 else 0, g'.hpr, g'.gl⟩ (fin _ (fun b hb => if_pos hb) (fun c hc => by
     show (if c < g.w.heap.size then _ else _)=0 ∨ _=j + 1
     rw [if_neg (by omega)];split <;> simp)) fun e' he'=>?_
   rw [List.mem_singleton.1 he',hd,Zfx _ (by rw [hN];exact hdN d hd)]
   refine .inr ⟨b,cap,cur,rfl,⟨h1,?_,fun b' hb' ho=>?_,h2,by simpa using h3,h4,h5,fun i x hx=>?_,h7⟩⟩
   · show (if b < g.w.heap.size then _ else _)=_
     rw [if_neg (by omega),if_pos rfl]
   · have ho':(if b' < g.w.heap.size then (if g.own b'=j + 1 then 0 else g.own b') else if b'=b then j + 1 else 0)=j + 1:=ho
     split at ho'
     · split at ho'
       · omega
       · rename_i hne;exact absurd ho' hne
     · split at ho'
       · assumption
       · omega
   · rw [List.getElem?_map] at hx
     obtain ⟨y,hy,he''⟩:=Option.map_eq_some_iff.1 hx
     obtain rfl:=Option.some.inj he''
     exact dk.mono (g:=g') ⟨Nat.le_refl _,fun _ _ h=>h,fun _ _ _=>rfl,fun _ _=>rfl⟩ (h6 i y hy)
theorem Zsz {f:FuncId} {xs:List α} {xo:List Operand} {A:List Pd} {ty:Array TypeId} (he:Zm P f) (hok:Z0v P f dk e xs A q) (hq:q.fp=[]) (hop:o.op=.call { callee:=.value (.func f),args:=(x :: xo).toArray,argTypes:=ty }) (hd:o.dst=some d) (hx:Opd uses x (pArr dk e j xs)) (hargs:OpdL uses xo A):OB P N o uses [(d,q)] [j + 1]:=by
 intro a g K Q hN hdN hu hK
 have hr:(execOp a.eval o).run P g.w=.ok (.enter f (a.eval x :: xo.map a.eval).toArray) g.w:=by
   simp [execOp,hop,resolve,Zu6,Deferred.ofValue,invoke,Zlk he]
 unfold Oper.wp
 rw [hr]
 show Calls P f _ g.w _
 have hA:Z0q dk e xs g (a.eval x) (fun b=>g.own b=j + 1):=by
   rcases hx a g hu with h | ⟨b,cap,cur,h1,h2⟩
   · exact .inl h
   · exact .inr ⟨b,cap,cur,h1,h2.own,h2.lt,h2.heap,by simpa using h2.len,h2.max,h2.sz,fun i x hx=>h2.known i x (by rw [List.getElem?_map,hx];rfl),h2.npr⟩
 refine Calls.mono (hok g _ _ _ hA (hargs.ok hu)) ?_
 rintro en w' ⟨g',v,rfl,rfl,hS,hqv⟩
 let g2:G:=⟨g'.w,g'.pr,fun c=>if c < g.w.heap.size then g.own c else 0,g'.hpr,g'.gl⟩
 have hle:g'.le g2:=⟨Nat.le_refl _,fun _ _ h=>h,fun _ _ _=>rfl,fun _ _=>rfl⟩
 have hown:∀ c,g2.own c=if c < g.w.heap.size then g.own c else 0:=fun _=>rfl
 refine hK v g2 ⟨⟨hS.le.size,hS.le.pr,hS.le.cell,hS.le.blk⟩,hS.os,hS.tape,hS.output,fun c hc hn=>?_,fun c k1 k2=>.inl ?_,fun c hc hn=>.inr ?_⟩ fun e' he'=>?_
 · obtain ⟨k1,k2⟩:=hS.same c hc (by simpa using hn)
   exact ⟨k1,k2,by rw [hown,if_pos hc]⟩
 · rw [hown,if_neg (by omega)]
 · rw [hown,if_pos hc];exact hn
 · rw [List.mem_singleton.1 he',hd,Zfx _ (by rw [hN];exact hdN d hd)]
   exact Pd.le hq hle rfl rfl rfl hqv
def Zwm (dk:Kd α) (e:TypeId) (xs:List α) (g0:G) (v:Value) (g1:G):Prop:=Base g0 g1 ∧ Z0q dk e xs g1 v (fun b=>g0.w.heap.size ≤ b)
theorem Zso {f : FuncId} {fn : Func} {cd : Code} {A : List Pd} {xs : List α} (hf : P.funcs[f]? = some fn) (hb : fn.body = some cd) (hn : fn.ntmps = N) (hAN : A.length ≤ N) (hA : Free A)
   (h:∀ (a:Act) (g:G),(∀ b,g.own b=0) → St N (Zmd A 0) a g → Base g g → cd.wp P (bodyPost P fn (FinP (Zwm dk e xs g))) a g.w):Zrt P f A dk e xs:=by
 intro g args hargs
 let g0:G:=⟨g.w,g.pr,fun _=>0,g.hpr,g.gl⟩
 have hle:g.le g0:=⟨Nat.le_refl _,fun _ _ h=>h,fun _ _ _=>rfl,fun _ _=>rfl⟩
 have hst:St N (Zmd A 0) { tmps:=args.toArray ++ Array.replicate (fn.ntmps - args.toArray.size) undef,defers:=[] } g0:=by
   refine ⟨?_,rfl,?_⟩
   · have:=hargs.1
     simp [hn];omega
   · intro e he
     obtain ⟨i,h1,h2⟩:=Zot he
     have hi:i < args.length:=by rw [hargs.1];exact (List.getElem?_eq_some_iff.1 h2).1
     have hv:Act.at { tmps:=args.toArray ++ Array.replicate (fn.ntmps - args.toArray.size) undef,defers:=[] } e.1=args[i]:=by
       rw [h1,Nat.zero_add]
       simp only [Act.at,Array.getD_eq_getD_getElem?]
       rw [Array.getElem?_append,if_pos (by simpa using hi)]
       simp [hi]
     rw [hv]
     exact Pd.le (hA.at h2) hle rfl rfl rfl (hargs.2 i e.2 _ h2 (List.getElem?_eq_getElem hi))
 have hbase:Base g0 g0:=⟨.refl _,rfl,rfl,rfl,fun _ _ _=>⟨rfl,rfl,rfl⟩⟩
 refine Calls.mono (calls_of_wp hf hb (h _ g0 (fun _=>rfl) hst hbase)) ?_
 rintro en w' ⟨g1,v,rfl,rfl,hB,hv⟩
 exact ⟨g1,v,rfl,rfl,⟨⟨hB.le.size,hB.le.pr,hB.le.cell,hB.le.blk⟩,hB.os,hB.tape,hB.output,fun b hb _=>⟨(hB.same b hb rfl).1,(hB.same b hb rfl).2.1⟩⟩,hv⟩
theorem Zwb {fn:Func} {r:ResultVar} {v:Value} {xs:List α} {a:Act} {g g0:G} {L:Zbm} (hr:fn.results=#[r]) (h0:∀ b,g0.own b=0) (h:St N L a g) (hb:Base g0 g) (h1:Zhr P a g r v) (hq:(pOwn dk e j c (xs.map some)).p g v):bodyPost P fn (FinP (Zwm dk e xs g0)) .ret a g.w:=by
 refine endP hr h h1 ⟨hb,?_⟩
 obtain ⟨b,cap,cur,e1,hO,_⟩:=hq
 refine .inr ⟨b,cap,cur,by rw [e1];simp,Nat.le_of_not_lt fun hlt=>?_,hO.lt,hO.heap,by simpa using hO.len,hO.max,hO.sz,fun i x hx=>hO.known i x (by rw [List.getElem?_map,hx];rfl),hO.npr⟩
 have:=(hb.same b hlt (h0 b)).2.2
 rw [hO.own] at this;omega
theorem Zrj {fn:Func} {r:ResultVar} {v:Value} {a:Act} {g g0:G} {L:Zbm} (hr:fn.results=#[r]) (h:St N L a g) (hb:Base g0 g) (h1:Zhr P a g r v) (hq:∃ A,v=.slice A 0 0):bodyPost P fn (FinP (Zwm dk e [] g0)) .ret a g.w:=endP hr h h1 ⟨hb,.inl ⟨rfl,hq⟩⟩
theorem Zbdj {xs:List α} {g g0:G} {b cap:Nat} {cur:Array Value} (hb:Base g0 g) (hO:OwnAt dk e (j + 1) (xs.map some) g b cap cur):∃ g',g'.w=g.w ∧ Base g0 g' ∧ (dk.sl.pd xs).p g' (.slice (some ⟨b,0,none⟩) xs.length cap):=by
 let g':G:=⟨g.w,fun b' o=>g.pr b' o ∨ b'=b,g.own,fun b' o h=>h.elim (g.hpr b' o) (fun h=>by rw [h];exact hO.lt),g.gl.le (fun _ _ h=>.inl h) (fun _ _ _=>rfl)⟩
 have hle:g.le g':=⟨Nat.le_refl _,fun _ _ h=>.inl h,fun _ _ _=>rfl,fun _ _=>rfl⟩
 have hl:=hO.len
 rw [List.length_map] at hl
 have hm:=hO.max
 refine ⟨g',rfl,⟨hb.le.trans hle,hb.os,hb.tape,hb.output,fun c hc h0=>?_⟩,Kd.sl_V.2 ⟨_,cap,rfl,hl,by simp only [maxLen] at hm;omega,.inr ⟨b,0,rfl,fun i x hx=>?_⟩⟩⟩
 · obtain ⟨k1,k2,k3⟩:=hb.same c hc h0
   refine ⟨k1,?_,k3⟩
   have hcb:c ≠ b:=fun h=>by rw [h,hO.own] at k3;omega
   funext o
   show (g.pr c o ∨ c=b)=_
   rw [← k2];simp [hcb]
 · refine ⟨_,dk.mono hle (hO.known i x (by rw [List.getElem?_map,hx];rfl)),fun k u hk=>⟨.inr rfl,?_⟩⟩
   simp only [seg,List.getElem?_take,List.getElem?_drop] at hk
   split at hk
   · show g.w.cell? _=_
     simp only [World.cell?,hO.heap]
     simpa using hk
   · cases hk
def Z1x (g0:G) (q:Pd) (v:Value) (g1:G):Prop:=Base g0 g1 ∧ q.p g1 v
theorem Z1f {f : FuncId} {fn : Func} {cd : Code} {A : List Pd} {xs : List α} (hf : P.funcs[f]? = some fn) (hb : fn.body = some cd) (hn : fn.ntmps = N) (hAN : A.length + 1 ≤ N) (hA : Free A)
   (h0:xs=[] → ∀ (a:Act) (g:G) (A0:Option Addr),St N ((0,pEq (.slice A0 0 0)) :: Zmd A 1) a g → Base g g → cd.wp P (bodyPost P fn (FinP (Z1x g q))) a g.w)
   (h:∀ (a:Act) (g:G) (cap:Nat),xs.length ≤ cap → cap ≤ maxLen → St N ((0,pOwn dk e 0 (some cap) (xs.map some)) :: Zmd A 1) a g → Base g g → cd.wp P (bodyPost P fn (FinP (Z1x g q))) a g.w):Z0v P f dk e xs A q:=by
 intro g v D args hv hargs
 have hlen:=hargs.1
 have hat:∀ (i:Nat) (u:Value),(v :: args)[i]?=some u → Act.at { tmps:=(v :: args).toArray ++ Array.replicate (fn.ntmps - (v :: args).toArray.size) undef,defers:=[] } i=u:=fun i u hi=>by
   have hlt:=(List.getElem?_eq_some_iff.1 hi).1
   simp only [Act.at,Array.getD_eq_getD_getElem?]
   rw [Array.getElem?_append,if_pos (by simpa using hlt)]
   have hi':((v :: args).toArray)[i]?=some u:=by rw [List.getElem?_toArray];exact hi
   rw [hi'];rfl
 have hrest:∀ (g0:G),g.le g0 → g0.w=g.w → Zfk (Zmd A 1) { tmps:=(v :: args).toArray ++ Array.replicate (fn.ntmps - (v :: args).toArray.size) undef,defers:=[] } g0:=fun g0 hle hw e' he'=>by
   obtain ⟨i,e1,e2⟩:=Zot he'
   have hi:i < args.length:=by rw [hlen];exact (List.getElem?_eq_some_iff.1 e2).1
   rw [hat e'.1 args[i] (by rw [e1,Nat.add_comm];exact List.getElem?_eq_getElem hi)]
   exact Pd.le (hA.at e2) hle (by rw [hw]) (by rw [hw]) (by rw [hw]) (hargs.2 i e'.2 _ e2 (List.getElem?_eq_getElem hi))
 rcases hv with ⟨hx0,A0,rfl⟩ | ⟨b,cap,cur,rfl,hD,h1,h2,h3,h4,h5,h6,h7⟩
 · let g0:G:=⟨g.w,g.pr,fun _=>0,g.hpr,g.gl⟩
   have hle:g.le g0:=⟨Nat.le_refl _,fun _ _ h=>h,fun _ _ _=>rfl,fun _ _=>rfl⟩
   refine Calls.mono (calls_of_wp hf hb (h0 hx0 _ g0 A0 ⟨by simp [hn];omega,rfl,fun e' he'=>?_⟩ ⟨.refl _,rfl,rfl,rfl,fun _ _ _=>⟨rfl,rfl,rfl⟩⟩)) ?_
   · rcases List.mem_cons.1 he' with rfl | he'
     · exact hat 0 _ rfl
     · exact hrest g0 hle rfl e' he'
   · rintro en w' ⟨g1,u,rfl,rfl,hB,hq⟩
     exact ⟨g1,u,rfl,rfl,⟨⟨hB.le.size,hB.le.pr,hB.le.cell,hB.le.blk⟩,hB.os,hB.tape,hB.output,fun b hb _=>⟨(hB.same b hb rfl).1,(hB.same b hb rfl).2.1⟩⟩,hq⟩
 · let g0:G:=⟨g.w,g.pr,fun c=>if c=b then 1 else 0,g.hpr,g.gl⟩
   have hle:g.le g0:=⟨Nat.le_refl _,fun _ _ h=>h,fun _ _ _=>rfl,fun _ _=>rfl⟩
   refine Calls.mono (calls_of_wp hf hb (h _ g0 cap h3 h4 ⟨by simp [hn];omega,rfl,fun e' he'=>?_⟩ ⟨.refl _,rfl,rfl,rfl,fun _ _ h=>⟨rfl,rfl,h⟩⟩)) ?_
   · rcases List.mem_cons.1 he' with rfl | he'
     · show (pOwn dk e 0 (some cap) (xs.map some)).p g0 _
       rw [hat 0 _ rfl]
       refine ⟨b,cap,cur,by simp,⟨h1,if_pos rfl,fun b' _ ho=>?_,h2,by simpa using h3,h4,h5,fun i x hx=>?_,h7⟩,fun k hk=>Option.some.inj hk⟩
       · have:(if b'=b then 1 else 0)=1:=ho
         split at this
         · assumption
         · omega
       · rw [List.getElem?_map] at hx
         obtain ⟨y,hy,he''⟩:=Option.map_eq_some_iff.1 hx
         obtain rfl:=Option.some.inj he''
         exact dk.mono hle (h6 i y hy)
     · exact hrest g0 hle rfl e' he'
   · rintro en w' ⟨g1,u,rfl,rfl,hB,hq⟩
     refine ⟨g1,u,rfl,rfl,⟨⟨hB.le.size,hB.le.pr,hB.le.cell,hB.le.blk⟩,hB.os,hB.tape,hB.output,fun c hc hn'=>?_⟩,hq⟩
     have:=hB.same c hc (by show (if c=b then 1 else 0)=0;rw [if_neg (fun h=>hn' (by rw [h];exact hD))])
     exact ⟨this.1,this.2.1⟩
theorem Zr8 {fn:Func} {r:ResultVar} {v:Value} {xs:List α} {a:Act} {g g0:G} {L:Zbm} (hr:fn.results=#[r]) (h:St N L a g) (hb:Base g0 g) (h1:Zhr P a g r v) (hq:(pOwn dk e j c (xs.map some)).p g v):bodyPost P fn (FinP (Z1x g0 (dk.sl.pd xs))) .ret a g.w:=by
 obtain ⟨b,cap,cur,e1,hO,_⟩:=hq
 obtain ⟨g',hw,hB,hp⟩:=Zbdj hb hO
 refine ⟨h.df,v,?_,g',v,rfl,hw.symm,hB,by rw [e1,List.length_map];exact hp⟩
 have h1':(Zjf a.tmps r).run P g.w=.ok v g.w:=h1
 simp [Zlt,hr,h1']
theorem Z6f {A:Option Addr} (hT:TE P t e dk bytes) (hop:o.op=.slice t x (some y) none none) (hx:Opd uses x (pEq (.slice A 0 0))) (hy:Opd uses y (pInt .i64 0)):OB P N o uses [] []:=by
 intro a g K Q hN hdN hu hK
 have hv:a.eval x=.slice A 0 0:=hx a g hu
 obtain ⟨i,zz,hi,hz,hsz,hby,hzs⟩:=hT.info
 have hb:∀ w cd,(Instr.sliceBound (a.eval y) 0 cd).run P w=.ok 0 w:=fun w cd=>Zkn (Zdh.1 (hy a g hu)) (Nat.le_refl _)
 have hr:∃ v,(execOp a.eval o).run P g.w=.ok (.value v) g.w:=by
   simp [execOp,hop,hv,Instr.sliceAt,Instr.slice,Instr.sliceBounds,run_underlying hT.und,hb,sizeOf,typeInfo,hi]
 obtain ⟨v,hr⟩:=hr
 unfold Oper.wp
 rw [hr]
 exact hK v g (.refl _ _) (fun e he=>by cases he)
theorem Zba7 {A:Option Addr} {t:TypeId} (ht:P.underlying t=some (.slice e)) (hop:o.op=.call { callee:=.builtin .len,args:=#[x],argTypes:=#[t] }) (hd:o.dst=some d) (hx:Opd uses x (pEq (.slice A 0 0))):OB P N o uses [(d,pInt .i64 0)] [] :=
 Zck hd fun a g hh=>by
   have hv:a.eval x=.slice A 0 0:=hx a g hh
   exact ⟨.int .i64 0,by simp [execOp,hop,resolve,invoke,builtin,hv,Builtin.len_,run_underlying ht,goInt],Zid _ _ g⟩
theorem Z5i {A : Option Addr} {vs : List α} (hT : TE P t e dk bytes) (hop : o.op = .call { callee := .builtin .append, args := #[x, y], argTypes := #[t, t] }) (hd : o.dst = some d) (hx : Opd uses x (pEq (.slice A 0 0))) (hy : Opd uses y (dk.sl.pd vs)) (hpos : 0 < vs.length) (hl : vs.length * bytes ≤ 140737488355328) :
   OB P N o uses [(d,pOwn dk e j none (vs.map some))] [j + 1] :=
 Zis hd fun a g hh=>by
   have hv:a.eval x=.slice A 0 0:=hx a g hh
   obtain ⟨A2,c2,hy1,hy2,hy3,hyr⟩:=Zqi (hy a g hh)
   obtain ⟨i,zz,hi,hz,hsz,hby,hzs⟩:=hT.info
   have hlen:vs.length ≤ 140737488355328:=Nat.le_trans (Nat.le_mul_of_pos_right _ hT.by0) hl
   obtain ⟨b2,o2,news,rfl,hnl,hnc,hnk⟩:=hyr.resolve_left (fun h=>by rw [h] at hpos;simp at hpos)
   have hnl':news.length=vs.length * i.size:=by rw [hsz];exact hnl
   have hnews:∀ k u,news[k]?=some u → g.w.cell? ((⟨b2,o2,none⟩:Addr).add k)=some u:=fun k u hu=>by rw [Zdu];exact (hnc k u hu).2
   have hge:=grownCap_ge g.w vs.length 0 e
   have hmx:=grownCap_le_maxLen g.w vs.length 0 e (by simp only [maxLen];omega)
   have hr:(Builtin.append_ #[t,t] o.type #[.slice A 0 0,.slice (some ⟨b2,o2,none⟩) vs.length c2]).run P g.w=.ok (.slice (some ⟨g.w.heap.size,0,none⟩) vs.length (grownCap g.w vs.length 0 e)) (g.w.drew.alloc (.cells (news.toArray ++ Builtin.zeroCells zz.cells (grownCap g.w vs.length 0 e - vs.length)) e)):=by
     cases A with
     | none=>exact run_append_nil (P:=P) g.w t o.type e i zz hT.und hi hz ⟨b2,o2,none⟩ vs.length c2 news hnl' hnews hpos (by omega) (by rw [hby];omega)
     | some A =>
       have:=run_append_grow (P:=P) g.w t o.type e i zz hT.und hi hz A 0 0 [] (by simp) (fun j u hu=>by simp at hu) ⟨b2,o2,none⟩ vs.length c2 news hnl' hnews (by omega) (by omega) (growslice_fits (by omega) (by rw [hby,Nat.zero_add];exact hl))
       simpa using this
   obtain ⟨g', hw, hst, hO3⟩ := Zwd (dk := dk) (e := e) (g := g) (j := j + 1) (cur := news.toArray ++ Builtin.zeroCells zz.cells (grownCap g.w vs.length 0 e - vs.length)) (cap := grownCap g.w vs.length 0 e) (fs := vs.map some) (by omega) (by simpa using hge) hmx (by
       simp only [Array.size_append,List.size_toArray,Zm1,hzs,hnl,← Nat.add_mul]
       congr 1;omega) (fun k u hk=>by
       rw [List.getElem?_map] at hk
       obtain ⟨u',hu',he'⟩:=Option.map_eq_some_iff.1 hk
       obtain rfl:=Option.some.inj he'
       simp only [Array.toList_append]
       rw [Zf9 (by rw [hnl];exact Zld (List.getElem?_eq_some_iff.1 hu').1)]
       exact hnk _ _ hu')
   refine ⟨_,g',?_,hst,_,_,_,rfl,hO3,fun k hk=>by cases hk⟩
   rw [List.length_map]
   simp [execOp,hop,resolve,invoke,builtin,hv,hy1,hr,hw]
theorem Z4x (xs vs:List α) (k i:Nat) (hk:k ≤ xs.length):((xs.take k ++ vs ++ xs.drop k).map some)[i]?=if i < k then (xs[i]?).map some else if i < k + vs.length then (vs[i - k]?).map some else (xs[i - vs.length]?).map some:=by
 have h1:(xs.take k).length=k:=by simp;omega
 rw [List.getElem?_map,List.append_assoc,List.getElem?_append,h1]
 by_cases a:i < k
 · rw [if_pos a,if_pos a,List.getElem?_take,if_pos a]
 · rw [if_neg a,if_neg a,List.getElem?_append]
   by_cases b:i < k + vs.length
   · rw [if_pos b,if_pos (by omega)]
   · rw [if_neg b,if_neg (by omega),List.getElem?_drop]
     congr 2;omega
theorem ins1 {xs vs:List α} {k:Nat} (hk:k ≤ xs.length):over (over ((xs.take k).map some ++ List.replicate (xs.length + vs.length - k) none) k vs) (k + vs.length) (xs.drop k)=(xs.take k ++ vs ++ xs.drop k).map some:=by
 have hl:((xs.take k).map some ++ List.replicate (xs.length + vs.length - k) (none:Option α)).length=xs.length + vs.length:=by simp;omega
 apply List.ext_getElem?
 intro i
 rw [Zmj (by rw [Znn (by rw [hl];omega),hl];simp;omega),Zmj (by rw [hl];omega),Z4x xs vs k i hk]
 have hd:(xs.drop k).length=xs.length - k:=by simp
 by_cases a:i < k
 · rw [if_pos (by omega),if_pos a,if_pos a,List.getElem?_append_left (by simp;omega),List.getElem?_map,List.getElem?_take,if_pos a]
 · by_cases b:i < k + vs.length
   · rw [if_pos b,if_neg a,if_pos b,if_neg a,if_pos b]
   · rw [if_neg b,if_neg a,if_neg b]
     by_cases c:i < xs.length + vs.length
     · rw [if_pos (by rw [hd];omega),List.getElem?_drop]
       rw [show k + (i - (k + vs.length))=i - vs.length by omega,if_neg a,if_neg b]
     · rw [if_neg (by rw [hd];omega),if_neg a,if_neg b,List.getElem?_eq_none (by rw [hl];omega),List.getElem?_eq_none (by omega)];rfl
theorem ins2 {xs vs:List α} {k:Nat} (hk:k ≤ xs.length):over (over (xs.map some ++ List.replicate (xs.length + vs.length - (xs.map some).length) none) (k + vs.length) (xs.drop k)) k vs=(xs.take k ++ vs ++ xs.drop k).map some:=by
 have hl:(xs.map some ++ List.replicate (xs.length + vs.length - (xs.map some).length) (none:Option α)).length=xs.length + vs.length:=by simp
 have hd:(xs.drop k).length=xs.length - k:=by simp
 apply List.ext_getElem?
 intro i
 rw [Zmj (by rw [Znn (by rw [hl,hd];omega),hl];omega),Zmj (by rw [hl,hd];omega),Z4x xs vs k i hk]
 by_cases a:i < k
 · rw [if_pos a,if_pos (by omega),if_pos a,List.getElem?_append_left (by simp;omega),List.getElem?_map]
 · by_cases b:i < k + vs.length
   · rw [if_neg a,if_pos b,if_neg a,if_pos b]
   · rw [if_neg a,if_neg b,if_neg b,if_neg a,if_neg b]
     by_cases c:i < xs.length + vs.length
     · rw [if_pos (by rw [hd];omega),List.getElem?_drop]
       rw [show k + (i - (k + vs.length))=i - vs.length by omega]
     · rw [if_neg (by rw [hd];omega),List.getElem?_eq_none (by rw [hl];omega),List.getElem?_eq_none (by omega)];rfl
theorem Zvg {a b:Nat} (h:a + b ≤ 9223372036854775807):IntKind.i64.wrap ((a:Int) + (b:Int))=((a + b:Nat):Int):=by rw [Zyp (by omega) (by omega)];omega
theorem Zbdw {x:Nat} {n k:Nat} (hx:x=n) (h:k ≤ n) (hn:n ≤ 9223372036854775807):IntKind.i64.wrap ((x:Int) - (k:Int))=((n - k:Nat):Int):=by rw [Zyp (by omega) (by omega)];omega
theorem Zw8 (xs:List α) (k:Nat):∀ (i:Nat) (x:α),(xs.take k)[i]?=some x → (xs.map some)[i]?=some (some x):=fun i x hx=>by
 rw [List.getElem?_take] at hx
 split at hx
 · rw [List.getElem?_map,hx];rfl
 · cases hx
theorem Z5n (xs:List α) (k:Nat):∀ (i:Nat) (x:α),(xs.drop k)[i]?=some x → (xs.map some)[k + i]?=some (some x):=fun i x hx=>by
 rw [List.getElem?_drop] at hx
 rw [List.getElem?_map,hx];rfl
theorem Zoe {f : FuncId} {C : List Pd} {Ps Qs : List Par} {xs : List Operand} {hs ks : List Home} {ty : Array TypeId} {outs : Zbm} {S : List Nat} (he : Zm P f) (hok : FnB P f (Ps ++ Qs) q) (hop : o.op = .call { callee := .value x, args := xs.toArray, argTypes := ty }) (hd : o.dst = some d) (hq : q.fp = []) (hf : Opd uses x (Z0y f C)) (hx : OpB uses Ps xs hs) (hc : CapB uses C Qs ks)
   (hne:((hs ++ ks).all fun h=>h.1 != d)=true) (hj:(hs.all fun h=>ks.all fun k=>k.2.2 != h.2.2)=true) (ho:outs=(d,q) :: Zlp (Ps ++ Qs) (hs ++ ks)) (hS:S=SB (hs ++ ks)):OB P N o uses outs S:=by
 subst ho;subst hS;exact Z7o he hok hop hd hq hne hj hf hx hc
def pFun (P:Program) (Φ:FuncId → List Pd → Prop):Pd:=⟨fun g v=>∃ (f:FuncId) (C:List Pd) (caps:List Value),v=.func (.func f) #[] caps.toArray ∧ Zm P f ∧ Free C ∧ Φ f C ∧ ArgsOk C g caps ∧ (∀ q ∈ C,∀ (g g':G) (u:Value),g.le g' → q.p g u → q.p g' u),[],fun s _ ⟨f,C,caps,h1,h2,h3,h4,h5,h6⟩=>⟨f,C,caps,h1,h2,h3,h4,⟨h5.1,fun i qi u hq hu=>qi.st s (by rw [h3.at hq];intro j hj;cases hj) (h5.2 i qi u hq hu)⟩,h6⟩⟩
theorem Z50 {Φ : FuncId → List Pd → Prop} {Ps : List Par} {xs : List Operand} {hs : List Home} {ty : Array TypeId} {outs : Zbm} {S : List Nat} (hΦ : ∀ f C, Φ f C → FnB P f (Ps ++ C.map .val) q) (hop : o.op = .call { callee := .value x, args := xs.toArray, argTypes := ty }) (hd : o.dst = some d) (hq : q.fp = []) (hf : Opd uses x (pFun P Φ)) (hx : OpB uses Ps xs hs) (hne : (hs.all fun h => h.1 != d) = true)
   (ho:outs=(d,q) :: Zlp Ps hs) (hS:S=SB hs):OB P N o uses outs S:=by
 subst ho;subst hS
 refine Zv1 hq hd (fun h hh=>by simpa using List.all_eq_true.1 hne h hh) fun a g hu=>?_
 obtain ⟨f,C,caps,h1,h2,h3,h4,h5,_⟩:=hf a g hu
 refine ⟨f,Ps ++ C.map .val,xs.map a.eval ++ caps,hΦ f C h4,Zq9.symm,?_,?_⟩
 · simp [execOp,hop,resolve,h1,Deferred.ofValue,invoke,Zlk h2]
 · have:=Zsl (hx.ok hu) (Zy4 (a:=a) h5) (fun h _ k hk=>by cases hk)
   rwa [List.append_nil] at this
def pTab (P:Program) (n:Nat) (Φ:Nat → Option (FuncId → List Pd → Prop)):Pd:=⟨fun g v=>∃ cs:List Value,v=.agg cs.toArray ∧ cs.length=n ∧ ∀ (k:Nat) (F:FuncId → List Pd → Prop) (u:Value),Φ k=some F → cs[k]?=some u → (pFun P F).p g u,[],fun s hd ⟨cs,h1,h2,h3⟩=>⟨cs,h1,h2,fun k F u hF hu=>(pFun P F).st s (fun j hj=>by cases hj) (h3 k F u hF hu)⟩⟩
theorem Z3s {t e : TypeId} {n : Nat} {i : Int} {Φ : Nat → Option (FuncId → List Pd → Prop)} {F : FuncId → List Pd → Prop} (ht : P.underlying t = some (.array n e)) (hs : (P.info? e).map (·.size) = some 1) (hu : ∃ u, P.underlying e = some u ∧ (match u with | .struct _ | .array _ _ => true | _ => false) = false) (h0 : 0 ≤ i) (hF : Φ i.toNat = some F) (hn : i.toNat < n)
   (hop:o.op=.index t x y) (hd:o.dst=some d) (hx:Opd uses x (pTab P n Φ)) (hy:Opd uses y (pInt .i64 i)):OB P N o uses [(d,pFun P F)] [] :=
 Zck hd fun a g hh=>by
   obtain ⟨cs,hv,hl,h3⟩:=hx a g hh
   have hyv:=Zdh.1 (hy a g hh)
   have hlt:i.toNat < cs.length:=by omega
   obtain ⟨u,hu1,hu2⟩:=hu
   have hag:(isAgg e).run P g.w=.ok false g.w:=by
     unfold isAgg
     simp only [Sem.run_bind,run_underlying hu1,Result.andThen_ok]
     cases u <;> first | rfl | simp at hu2
   refine ⟨cs[i.toNat],?_,h3 i.toNat F _ hF (List.getElem?_eq_getElem hlt)⟩
   have h1:i < (n:Int):=by omega
   simp [execOp,hop,hv,hyv,Instr.index,asIntOf,run_underlying ht,h0,h1,Zhu hs,part,hag,hlt]
def Kd.fnc:Kd Nat:=Kd.scalar (fun f=>.func (.func f) #[] #[]) fun _=>rfl
theorem Opd.fncv {f:Nat}:Opd uses (.func f) (Kd.fnc.pd f):=fun _ _ _=>Kd.scalar_V.2 rfl
theorem Zba3 {f:Nat} {g:G} {v:Value} (h:(Kd.fnc.pd f).p g v):(pClo f [] rfl).p g v:=by
 obtain ⟨cs,rfl,rfl⟩:=h
 exact ⟨[],rfl,Zfa⟩
theorem Zmh {f:Nat}:∀ q ∈ [Kd.fnc.ptr f],∀ (g g':G) (u:Value),g.le g' → q.p g u → q.p g' u:=fun q hq g g' u hle h=>by
 rw [List.mem_singleton.1 hq] at h ⊢
 obtain ⟨b,o,cs,e,hk,hc⟩:=h
 exact ⟨b,o,cs,e,Kd.fnc.mono hle hk,hc.mono hle⟩
theorem Zbau {Φ:FuncId → List Pd → Prop} {g g':G} {v:Value} (h:g.le g') (hv:(pFun P Φ).p g v):(pFun P Φ).p g' v:=by
 obtain ⟨f,C,caps,h1,h2,h3,h4,h5,h6⟩:=hv
 exact ⟨f,C,caps,h1,h2,h3,h4,⟨h5.1,fun i qi u hq hu=>h6 qi (List.mem_of_getElem? hq) _ _ _ h (h5.2 i qi u hq hu)⟩,h6⟩
abbrev TabT:=Nat → Option (FuncId → List Pd → Prop)
def Kd.tab (P:Program) (n:Nat) (hn:n ≠ 1):Kd TabT where
 sz:=n
 ag:=true
 K:=fun g Φ cs=>cs.length=n ∧ (∀ u ∈ cs,u.oneCell'=true) ∧ ∀ (k:Nat) (F:FuncId → List Pd → Prop) (u:Value),Φ k=some F → cs[k]?=some u → (pFun P F).p g u
 len:=fun h=>h.1
 one:=fun h=>h.2.1
 mono:=fun hle h=>⟨h.1,h.2.1,fun k F u hF hu=>Zbau hle (h.2.2 k F u hF hu)⟩
 nag:=fun h=>by cases h
theorem Z9b {n:Nat} {hn:n ≠ 1} {Φ:TabT} {g:G} {v:Value} (h:((Kd.tab P n hn).pd Φ).p g v):(pTab P n Φ).p g v:=by
 obtain ⟨cs,⟨h1,h2,h3⟩,rfl⟩:=h
 exact ⟨cs,rfl,h1,h3⟩
theorem Z1z {t e : TypeId} {n : Nat} {zero : Value} (hu : P.underlying t = some (.array n e)) (hz : (P.info? t).bind (·.zero) = some zero) (hs : (P.info? e).map (·.size) = some 1) {parts : Array (Nat × Value)} {cells : Array Value}
   (hf:Instr.fill (fun i=>some (i * 1,1)) zero.cells parts.toList=some cells) (w:World):(Instr.build t parts).run P w=.ok (.agg cells) w:=by
 obtain ⟨i,hi,hz⟩:=Option.bind_eq_some_iff.1 hz
 have hf':Instr.fill (fun i=>some (i,1)) zero.cells parts.toList=some cells:=by simpa using hf
 simp [Instr.build,zeroValue,typeInfo,hi,hz,run_underlying hu,Zhu hs,hf']
end
section
variable {P:Program} {N:Nat} {o:Oper} {uses:Zbm} {d:Nat} {q:Pd} {x y z:Operand} {α β γ:Type} {dk:Kd α} {di:Kd β} {dj:Kd γ} {t e:TypeId} {bytes j:Nat}
theorem Zmp {cs:List Value} {a n b m:Nat} (h:b + m ≤ n):seg (seg cs a n) b m=seg cs (a + b) m:=by
 simp only [seg,List.drop_take,List.drop_drop,List.take_take]
 congr 1
 omega
theorem Z7m {cs ys:List Value} {a n b:Nat} (h:b + ys.length ≤ n) (hn:a + n ≤ cs.length):Zba cs a (Zba (seg cs a n) b ys)=Zba cs (a + b) ys:=by
 have hl:(seg cs a n).length=n:=by simp [seg];omega
 have hs:(Zba (seg cs a n) b ys).length=n:=by simp [Zba,hl];omega
 apply List.ext_getElem?
 intro i
 simp only [Zba,seg,List.append_assoc,List.getElem?_append,List.length_take,List.length_drop,List.length_append,List.getElem?_take,List.getElem?_drop]
 repeat' split
 all_goals (try omega)
 all_goals (first | rfl | (congr 1;omega))
def pEl (dk:Kd α) (e:TypeId) (j:Nat) (xs:List α) (i off:Nat) (di:Kd β) (u:β):Pd:=⟨fun g v=>∃ b cap cur,v=.pointer (some ⟨b,i * dk.sz + off,none⟩) ∧ OwnAt dk e (j + 1) (xs.map some) g b cap cur ∧ i < xs.length ∧ off + di.sz ≤ dk.sz ∧ di.K g u (seg cur.toList (i * dk.sz + off) di.sz),[j + 1],
 fun s hd ⟨b,cap,cur,e,h,h1,h2,h3⟩=>⟨b,cap,cur,e,h.st s (hd _ (by simp)) (by omega),h1,h2,di.mono s.le h3⟩⟩
theorem Zre {k:IntKind} {xs:List α} {n:Int} {u:α} {ix:Operand} (ht:P.underlying t=some (.slice e)) (hs:(P.info? e).map (·.size)=some dk.sz) (hop:o.op=.indexAddr t x ix) (hd:o.dst=some d) (hx:Opd uses x (pArr dk e j xs)) (hi:Opd uses ix (pInt k n)) (h:idx xs n=some u):OB P N o uses [(d,pEl dk e j xs n.toNat 0 dk u)] [] :=
 Zck hd fun a g hh=>by
   have hn:=Zdh.1 (hi a g hh)
   unfold idx at h
   split at h
   · rename_i h0
     have hlt:=(List.getElem?_eq_some_iff.1 h).1
     rcases hx a g hh with ⟨rfl,_⟩ | ⟨b,cap,cur,hv,hO⟩
     · simp at h
     · have hb:0 ≤ n ∧ n < (xs.length:Int):=⟨h0,by omega⟩
       refine ⟨.pointer (some ⟨b,n.toNat * dk.sz,none⟩),by simp [execOp,hop,hv,hn,Instr.indexAt,asIntOf,run_underlying ht,hb,Zhu hs,Zdu],b,cap,cur,rfl,hO,hlt,by omega,hO.known _ _ (by simp [h])⟩
   · cases h
theorem Zp5 {s i k off off2:Nat} {xs:List α} {u:β} {proj:β → γ} (hF:Fld P s k di dj proj) (ho:(match P.underlying s with | some (.struct F)=>(F[k]?).map (·.offset) | _=>none)=some off2) (hfit:off2 + dj.sz ≤ di.sz) (hop:o.op=.fieldAddr s x k) (hd:o.dst=some d) (hx:Opd uses x (pEl dk e j xs i off di u)):OB P N o uses [(d,pEl dk e j xs i (off + off2) dj (proj u))] [] :=
 Zck hd fun a g hh=>by
   obtain ⟨b,cap,cur,hv,hO,h1,h2,h3⟩:=hx a g hh
   obtain ⟨fs,f,hu,hi,hsz,hag,h0,hK,_⟩:=hF.look
   have:f.offset=off2:=by simpa [hu,hi] using ho
   subst this
   refine ⟨.pointer (some ⟨b,i * dk.sz + off + f.offset,none⟩),by simp [execOp,hop,hv,Instr.fieldAt,Instr.sureAddr,run_underlying hu,hi,Zmv hsz h0],b,cap,cur,by rw [Nat.add_assoc],hO,h1,by omega,?_⟩
   have:=hK g u _ h3
   rw [Zmp hfit] at this
   rw [← Nat.add_assoc];exact this
theorem Z84 {fs:List (Option α)} {g:G} {b cap:Nat} {cur:Array Value} (h:OwnAt dk e j fs g b cap cur) (i:Nat) (u:Value) (hu:cur.toList[i]?=some u):g.w.cell? ⟨b,i,none⟩=some u:=by
 simp only [World.cell?,h.heap]
 simpa using hu
theorem Zzw {i off:Nat} {xs:List α} {u:β} (hT:Ty P t di) (hop:o.op=.load t x) (hd:o.dst=some d) (hx:Opd uses x (pEl dk e j xs i off di u)):OB P N o uses [(d,di.pd u)] [] :=
 Zck hd fun a g hh=>by
   obtain ⟨b,cap,cur,hv,hO,h1,h2,hk⟩:=hx a g hh
   refine ⟨mkV di.ag (seg cur.toList (i * dk.sz + off) di.sz),?_,_,hk,rfl⟩
   have:=Zjx (b:=b) (of:=i * dk.sz + off) hT hk (fun k u hu=>by
     refine Z84 hO (i * dk.sz + off + k) u ?_
     simp only [seg,List.getElem?_take,List.getElem?_drop] at hu
     split at hu
     · exact hu
     · cases hu)
   simp [execOp,hop,hv,Instr.loadAt,Instr.sureAddr,this]
theorem Zbag {g : G} {b cap i off : Nat} {xs : List α} {cur : Array Value} {u u' : α} {ys : List Value} (hO : OwnAt dk e (j + 1) (xs.map some) g b cap cur) (hi : xs[i]? = some u) (hfit : off + ys.length ≤ dk.sz) (hk : dk.K g u' (Zba (seg cur.toList (i * dk.sz) dk.sz) off ys)) :
   ∃ g':G,g'.w=g.w.setRow b (Zba cur.toList (i * dk.sz + off) ys).toArray ∧ Step [j + 1] g g' ∧ OwnAt dk e (j + 1) ((xs.set i u').map some) g' b cap (Zba cur.toList (i * dk.sz + off) ys).toArray:=by
 have hlt:=(List.getElem?_eq_some_iff.1 hi).1
 have hcl:cur.toList.length=cap * dk.sz:=by simpa using hO.sz
 have hlen:xs.length ≤ cap:=by simpa using hO.len
 have hin:i * dk.sz + dk.sz ≤ cap * dk.sz:=Zld (by omega)
 have hl:=dk.len hk
 obtain ⟨g',e1,e2,e3⟩:=Zul (ws:=[u']) (off:=i) (news:=Zba (seg cur.toList (i * dk.sz) dk.sz) off ys) hO (by rw [hl];simp) (by simp;omega) (fun k x hx=>by
   cases k with
   | zero =>
     simp at hx;subst hx
     rw [Nat.zero_mul]
     have:seg (Zba (seg cur.toList (i * dk.sz) dk.sz) off ys) 0 dk.sz=Zba (seg cur.toList (i * dk.sz) dk.sz) off ys:=by
       simp only [seg,List.drop_zero]
       rw [List.take_of_length_le]
       simp only [seg] at hl
       omega
     rw [this];exact hk
   | succ k=>simp at hx)
 rw [Z7m hfit (by omega)] at e1 e3
 refine ⟨g',e1,e2,⟨e3.lt,e3.own,e3.uniq,e3.heap,by simpa using hO.len,e3.max,e3.sz,fun k x hx=>e3.known k x ?_,e3.npr⟩⟩
 rw [Zmj (by simp;omega)]
 simp only [List.getElem?_map,List.getElem?_set,List.length_singleton] at hx ⊢
 by_cases h1:k < i
 · rw [if_pos h1]
   rw [if_neg (by omega)] at hx
   exact hx
 · rw [if_neg h1]
   by_cases h2:k < i + 1
   · have:k=i:=by omega
     subst this
     rw [if_pos h2]
     simp only [if_pos hlt,if_true] at hx
     simpa using hx
   · rw [if_neg h2]
     rw [if_neg (by omega)] at hx
     exact hx
theorem Z3c {i off : Nat} {xs : List α} {u : α} {v1 v2 : β} {u' : α} {g : G} {pv w : Value} (hT : Ty P t di) (hx : (pEl dk e j xs i off di v1).p g pv) (hz : (di.pd v2).p g w) (hi : xs[i]? = some u) (hw : ∀ g cs ys, dk.K g u cs → di.K g v2 ys → off + ys.length ≤ cs.length → dk.K g u' (Zba cs off ys)) :
   ∃ (b cap:Nat) (cur cur':Array Value) (g':G),pv=.pointer (some ⟨b,i * dk.sz + off,none⟩) ∧ OwnAt dk e (j + 1) (xs.map some) g b cap cur ∧ (storeVar t ⟨b,i * dk.sz + off,none⟩ w).run P g.w=.ok () g'.w ∧ Step [j + 1] g g' ∧ OwnAt dk e (j + 1) ((xs.set i u').map some) g' b cap cur':=by
 obtain ⟨b,cap,cur,rfl,hO,h1,h2,h3⟩:=hx
 obtain ⟨ys,hk,rfl⟩:=hz
 have hyl:=di.len hk
 have hcl:cur.toList.length=cap * dk.sz:=by simpa using hO.sz
 have hlen:xs.length ≤ cap:=by simpa using hO.len
 have hin:i * dk.sz + dk.sz ≤ cap * dk.sz:=Zld (by omega)
 have hku:=hO.known i u (by simp [hi])
 obtain ⟨g',e1,e2,e3⟩:=Zbag (u':=u') (ys:=ys) (off:=off) hO hi (by omega) (hw g _ _ hku hk (by rw [dk.len hku];omega))
 have hst:=Zh8 (off:=i * dk.sz + off) hT hO.heap hk (by rw [hO.sz];omega)
 exact ⟨b,cap,cur,_,g',rfl,hO,by rw [e1];simpa [Zba] using hst,e2,e3⟩
end
section
variable {P:Program} {N:Nat} {o:Oper} {uses outs:Zbm} {S:List Nat} {d:Nat} {q:Pd} {x y z:Operand}
theorem OB.at (h:∀ (a:Act) g,Zfk uses a g → ∃ uses':Zbm,Zfk uses' a g ∧ OB P N o uses' outs S):OB P N o uses outs S :=
 fun a g K Q hN hdN hu hK=>let ⟨_,h1,h2⟩:=h a g hu;h2 a g K Q hN hdN h1 hK
theorem OB.frame {n:Nat} (h:OB P N o uses outs S) (hq:∀ j ∈ q.fp,j ∉ S) (hn:o.dst ≠ some n):OB P N o ((n,q) :: uses) ((n,q) :: outs) S:=by
 intro a g K Q hN hdN hu hK
 refine h a g K Q hN hdN (fun e he=>hu e (List.mem_cons_of_mem _ he)) fun v g' hs ho=>hK v g' hs fun e he=>?_
 rcases List.mem_cons.1 he with rfl | he
 · have:=hu (n,q) (List.mem_cons_self ..)
   have h2:=q.st hs hq this
   show q.p g' (Act.at (a.put o.dst v) n)
   rw [Zkh v hn];exact h2
 · exact ho e he
def pAt (v:Value) (q:Pd):Pd:=⟨fun g _=>q.p g v,q.fp,fun s hd h=>q.st s hd h⟩
abbrev SlV:=Option Addr × Nat × Nat
def slv (s:SlV):Value:=.slice s.1 s.2.1 s.2.2
def Kd.raw:Kd SlV:=Kd.scalar slv fun _=>rfl
theorem Z7n {s:SlV} {g:G} {v:Value}:(Kd.raw.pd s).p g v ↔ v=slv s:=Kd.scalar_V
variable {α β γ δ ε:Type} {kV:Kd γ} {raw:α → SlV → γ} {lst:α → List β} {dk:Kd β} {di:Kd δ} {dj:Kd ε} {t e j jl:Nat} {xv:α}
def pBxO (kV:Kd γ) (raw:α → SlV → γ) (lst:α → List β) (dk:Kd β) (e j jl:Nat) (x:α):Pd:=⟨fun g v=>∃ s,(pBox kV j (raw x s)).p g v ∧ (pArr dk e jl (lst x)).p g (slv s),[j + 1,jl + 1],fun st hd ⟨s,h1,h2⟩=>⟨s,(pBox kV j (raw x s)).st st (fun k hk=>hd k (List.mem_cons.2 (.inl (List.mem_singleton.1 hk)))) h1,(pArr dk e jl (lst x)).st st (fun k hk=>hd k (List.mem_cons_of_mem _ hk)) h2⟩⟩
def pBxN (kV:Kd γ) (raw:α → SlV → γ) (j:Nat) (x:α):Pd:=⟨fun g v=>∃ s,(pBox kV j (raw x s)).p g v,[j + 1],fun st hd ⟨s,h1⟩=>⟨s,(pBox kV j (raw x s)).st st hd h1⟩⟩
def pPX (kV:Kd γ) (j off:Nat) (di:Kd δ) (u:δ):Pd:=⟨fun g v=>∃ w,(Zju kV j w off di u).p g v,[j + 1],fun st hd ⟨w,h⟩=>⟨w,(Zju kV j w off di u).st st hd h⟩⟩
def pPL (kV:Kd γ) (dk:Kd β) (e j jl off:Nat) (l:List β):Pd:=⟨fun g v=>∃ w s,(Zju kV j w off Kd.raw s).p g v ∧ (pArr dk e jl l).p g (slv s),[j + 1,jl + 1],fun st hd ⟨w,s,h1,h2⟩=>⟨w,s,(Zju kV j w off Kd.raw s).st st (fun k hk=>hd k (List.mem_cons.2 (.inl (List.mem_singleton.1 hk)))) h1,(pArr dk e jl l).st st (fun k hk=>hd k (List.mem_cons_of_mem _ hk)) h2⟩⟩
theorem Znq {s i off:Nat} {pt:Nat} {proj:γ → SlV} (hF:Fld P s i kV Kd.raw proj) (ho:(match P.underlying s with | some (.struct F)=>(F[i]?).map (·.offset) | _=>none)=some off) (hu:∀ sv,proj (raw xv sv)=sv) (hop:o.op=.fieldAddr s (.tmp pt) i) (hd:o.dst=some d) (hx:Opd uses (.tmp pt) (pBxO kV raw lst dk e j jl xv)):OB P N o uses [(d,pPL kV dk e j jl off (lst xv))] [] :=
 OB.at fun a g hh=>by
   obtain ⟨s0,h0,h2⟩:=hx a g hh
   refine ⟨[(N,pAt (slv s0) (pArr dk e jl (lst xv))),(pt,pBox kV j (raw xv s0))],fun en he=>?_,?_⟩
   · rcases List.mem_cons.1 he with rfl | he
     · exact h2
     · rw [List.mem_singleton.1 he];exact h0
   · intro a' g' K Q hN hdN hu' hK
     have hdl:=hdN d hd
     refine (OB.frame (n:=N) (q:=pAt (slv s0) (pArr dk e jl (lst xv))) (Zr (c:=none) hF ho hop hd .t0) (fun _ _ h=>by cases h) (by rw [hd];intro h;exact absurd (Option.some.inj h) (Nat.ne_of_lt hdl))).weak (fun g2 a2 h en he=>?_) a' g' K Q hN hdN hu' hK
     rw [List.mem_singleton.1 he]
     have:=h (d,Zju kV j (raw xv s0) off Kd.raw (proj (raw xv s0))) (by simp)
     rw [hu] at this
     exact ⟨_,s0,this,h (N,pAt (slv s0) (pArr dk e jl (lst xv))) (by simp)⟩
theorem Zon {off pt:Nat} {l:List β} (hT:Ty P t Kd.raw) (hop:o.op=.load t (.tmp pt)) (hd:o.dst=some d) (hx:Opd uses (.tmp pt) (pPL kV dk e j jl off l)):OB P N o uses [(d,pArr dk e jl l)] [] :=
 OB.at fun a g hh=>by
   obtain ⟨w,s0,h0,h2⟩:=hx a g hh
   refine ⟨[(N,pAt (slv s0) (pArr dk e jl l)),(pt,Zju kV j w off Kd.raw s0)],fun en he=>?_,?_⟩
   · rcases List.mem_cons.1 he with rfl | he
     · exact h2
     · rw [List.mem_singleton.1 he];exact h0
   · intro a' g' K Q hN hdN hu' hK
     have hdl:=hdN d hd
     refine (OB.frame (n:=N) (q:=pAt (slv s0) (pArr dk e jl l)) (Zjc hT hop hd .t0) (fun _ _ h=>by cases h) (by rw [hd];intro h;exact absurd (Option.some.inj h) (Nat.ne_of_lt hdl))).weak (fun g2 a2 h en he=>?_) a' g' K Q hN hdN hu' hK
     rw [List.mem_singleton.1 he]
     have h3:=Z7n.1 (h (d,Kd.raw.pd s0) (by simp))
     show (pArr dk e jl l).p g2 (Act.at a2 d)
     rw [h3]
     exact h (N,pAt (slv s0) (pArr dk e jl l)) (by simp)
theorem Z6x {off s pt zt : Nat} {x' : α} {w0 : SlV} {l0 : SlV → Prop} (hT : Ty P t Kd.raw) (hop : o.op = .store t (.tmp pt) (.tmp zt)) (hd : o.dst = none) (hj : jl ≠ j) (hs : Opd uses (.tmp s) (pBxN kV raw j xv)) (hx : ∀ (a : Act) g, Zfk uses a g → ∃ w s1, (Zju kV j w off Kd.raw s1).p g (Act.at a pt)) (hz : Opd uses (.tmp zt) (pArr dk e jl (lst x')))
   (hw:∀ g cs s0 s1 ys,kV.K g (raw xv s0) cs → Kd.raw.K g s1 ys → off + ys.length ≤ cs.length ∧ kV.K g (raw x' s1) (Zba cs off ys)):OB P N o uses [(s,pBxO kV raw lst dk e j jl x')] [j + 1] :=
 OB.at fun a g hh=>by
   obtain ⟨s0,h0⟩:=hs a g hh
   obtain ⟨w,s1,h1⟩:=hx a g hh
   have h2:=hz a g hh
   have hsl:∃ s2:SlV,Act.at a zt=slv s2:=by
     rcases h2 with ⟨_,A,hv⟩ | ⟨b,cap,cur,hv,_⟩
     · exact ⟨(A,0,0),hv⟩
     · exact ⟨(_,_,_),hv⟩
   obtain ⟨s2,hv2⟩:=hsl
   refine ⟨[(N,pAt (slv s2) (pArr dk e jl (lst x'))),(s,pBox kV j (raw xv s0)),(pt,Zju kV j w off Kd.raw s1),(zt,Kd.raw.pd s2)],fun en he=>?_,?_⟩
   · rcases List.mem_cons.1 he with rfl | he
     · show (pArr dk e jl (lst x')).p g (slv s2)
       rw [← hv2];exact h2
     · rcases List.mem_cons.1 he with rfl | he
       · exact h0
       · rcases List.mem_cons.1 he with rfl | he
         · exact h1
         · rw [List.mem_singleton.1 he];exact Z7n.2 hv2
   · refine (OB.frame (n:=N) (q:=pAt (slv s2) (pArr dk e jl (lst x'))) (Zmm (c:=none) (v':=raw x' s2) hT hop hd .t0 (.tl .t0) (.tl (.tl .t0)) (fun g cs ys h k=>hw g cs s0 s2 ys h k)) (fun k hk hS=>?_) (by rw [hd];simp)).weak (fun g2 a2 h en he=>?_)
     · have a1:k=jl + 1:=List.mem_singleton.1 hk
       have a2:k=j + 1:=List.mem_singleton.1 hS
       omega
     · rw [List.mem_singleton.1 he]
       exact ⟨s2,h (s,pBox kV j (raw x' s2)) (by simp),h (N,pAt (slv s2) (pArr dk e jl (lst x'))) (by simp)⟩
end
section
variable {P:Program} {N:Nat} {o:Oper} {uses outs:Zbm} {S:List Nat} {d:Nat} {q:Pd} {x y z:Operand}
variable {α β γ δ ε:Type} {kV:Kd γ} {raw:α → SlV → γ} {lst:α → List β} {dk:Kd β} {di:Kd δ} {t e j jl:Nat} {xv:α}
theorem Z4d {xs:List β} (ht:P.underlying t=some (.slice e)) (hop:o.op=.call { callee:=.builtin .len,args:=#[x],argTypes:=#[t] }) (hd:o.dst=some d) (hx:Opd uses x (pArr dk e jl xs)):OB P N o uses [(d,pInt .i64 (xs.length:Int))] [] :=
 Zck hd fun a g hh=>by
   rcases hx a g hh with ⟨rfl,A,hv⟩ | ⟨b,cap,cur,hv,_⟩
   · exact ⟨.int .i64 0,by simp [execOp,hop,resolve,invoke,builtin,hv,Builtin.len_,run_underlying ht,goInt],Zid _ _ g⟩
   · exact ⟨.int .i64 xs.length,by simp [execOp,hop,resolve,invoke,builtin,hv,Builtin.len_,run_underlying ht,goInt],Zid _ _ g⟩
theorem Z4a {xs:List β} {n:Int} {u:β} (h:idx xs n=some u):xs[n.toNat]?=some u:=by
 unfold idx at h
 split at h
 · exact h
 · cases h
theorem Zv7 {s i off : Nat} {u u' : β} {v1 v2 : δ} {x' : α} (hT : Ty P t di) (hop : o.op = .store t x z) (hd : o.dst = none) (hj : j ≠ jl) (hs : Opd uses (.tmp s) (pBxO kV raw lst dk e j jl xv)) (hx : Opd uses x (pEl dk e jl (lst xv) i off di v1)) (hz : Opd uses z (di.pd v2)) (hi : (lst xv)[i]? = some u) (h0 : 0 < dk.sz)
   (hl:lst x'=(lst xv).set i u') (hr:∀ s,raw x' s=raw xv s) (hw:∀ g cs ys,dk.K g u cs → di.K g v2 ys → off + ys.length ≤ cs.length → dk.K g u' (Zba cs off ys)):OB P N o uses [(s,pBxO kV raw lst dk e j jl x')] [jl + 1] :=
 Zqd hd fun a g hh=>by
   obtain ⟨b,cap,cur,cur',g',hv,hO,hrun,hst,hO'⟩:=Z3c hT (hx a g hh) (hz a g hh) hi hw
   refine ⟨g',by simp [execOp,hop,hv,Instr.storeAt,Instr.sureAddr,hrun],hst,fun en he=>?_⟩
   rw [List.mem_singleton.1 he]
   obtain ⟨sv,hb,ha⟩:=hs a g hh
   refine ⟨sv,?_,?_⟩
   · rw [hr]
     refine (pBox kV j (raw xv sv)).st hst (fun k hk hS=>?_) hb
     have a1:k=j + 1:=List.mem_singleton.1 hk
     have a2:k=jl + 1:=List.mem_singleton.1 hS
     omega
   · rcases ha with ⟨hn,_⟩ | ⟨b2,cap2,cur2,hv2,hO2⟩
     · rw [hn] at hi;simp at hi
     · obtain ⟨rfl,rfl,rfl⟩:=hO.same hO2 h0
       rw [hl]
       exact .inr ⟨b2,cap2,cur',by rw [List.length_set];exact hv2,hO'⟩
end
end Go.CL
namespace Go.CL
open Go
def INF:Nat:=9218868437227405312
def TOP:Nat:=9223372036854775808
def BIN:Nat:=4503599627370496
def rg (b:Nat):Nat:=b % TOP
def isn (b:Nat):Prop:=INF < rg b
instance (b:Nat):Decidable (isn b):=inferInstanceAs (Decidable (INF < rg b))
def sg (b:Nat):Int:=if TOP ≤ b then -((b - TOP:Nat):Int) else (b:Int)
def ngb (b:Nat):Bool:=b / TOP % 2 == 1
def Zmc:Int:=Ieee.double.leastPlace
theorem Zx8 (b:Nat):Ieee.double.read b=if rg b < BIN then .number (ngb b) (rg b) Zmc else if rg b < INF then .number (ngb b) (BIN + rg b % BIN) (Zmc + (rg b / BIN - 1:Nat)) else if rg b=INF then .infinity (ngb b) else .nan (ngb b) (rg b - INF):=rfl
def mg (r:Nat):Nat:=if r < BIN then r else (BIN + r % BIN) * 2 ^ (r / BIN - 1)
theorem Z0s {r s:Nat} (h:r < s):mg r < mg s:=by
 unfold mg
 have hB:0 < BIN:=by decide
 by_cases hr:r < BIN
 ·rw [if_pos hr]
  by_cases hs:s < BIN
  ·rw [if_pos hs];exact h
  ·rw [if_neg hs]
   have:1 ≤ 2 ^ (s / BIN - 1):=Nat.one_le_two_pow
   calc r < BIN:=hr
    _ ≤ BIN + s % BIN:=Nat.le_add_right _ _
    _ ≤ (BIN + s % BIN) * 2 ^ (s / BIN - 1):=Nat.le_mul_of_pos_right _ this
 ·have hs:¬ s < BIN:=by omega
  rw [if_neg hr,if_neg hs]
  have h1:1 ≤ r / BIN:=(Nat.le_div_iff_mul_le hB).2 (by omega)
  have hq:r / BIN ≤ s / BIN:=Nat.div_le_div_right (Nat.le_of_lt h)
  have er:=Nat.div_add_mod r BIN
  have es:=Nat.div_add_mod s BIN
  have hm:r % BIN < BIN:=Nat.mod_lt _ hB
  rcases Nat.lt_or_eq_of_le hq with hlt | heq
  ·have h2:2 ^ (r / BIN - 1) * 2 ≤ 2 ^ (s / BIN - 1):=by
    rw [← Nat.pow_succ]
    exact Nat.pow_le_pow_right (by decide) (by omega)
   have hp:0 < 2 ^ (r / BIN - 1):=Nat.two_pow_pos _
   calc (BIN + r % BIN) * 2 ^ (r / BIN - 1) < (BIN + BIN) * 2 ^ (r / BIN - 1):=Nat.mul_lt_mul_of_pos_right (by omega) hp
    _=BIN * (2 ^ (r / BIN - 1) * 2):=by rw [← Nat.two_mul,Nat.mul_comm (2 ^ (r / BIN - 1)) 2,← Nat.mul_assoc,Nat.mul_comm BIN 2]
    _ ≤ BIN * 2 ^ (s / BIN - 1):=Nat.mul_le_mul_left _ h2
    _ ≤ (BIN + s % BIN) * 2 ^ (s / BIN - 1):=Nat.mul_le_mul_right _ (Nat.le_add_right _ _)
  ·rw [heq]
   rw [heq] at er
   exact Nat.mul_lt_mul_of_pos_right (by omega) (Nat.two_pow_pos _)
theorem Z7t {r s:Nat}:mg r=mg s ↔ r=s:=by
 constructor
 ·intro h
  rcases Nat.lt_trichotomy r s with hlt | heq | hgt
  ·have:=Z0s hlt;omega
  ·exact heq
  ·have:=Z0s hgt;omega
 ·intro h;rw [h]
theorem Zzf {r s:Nat}:mg r < mg s ↔ r < s:=by
 constructor
 ·intro h
  rcases Nat.lt_trichotomy r s with hlt | heq | hgt
  ·exact hlt
  ·rw [heq] at h;omega
  ·have:=Z0s hgt;omega
 ·exact Z0s
def sgn (s:Bool) (n:Nat):Int:=if s then -(n:Int) else n
theorem Zbcw {s t:Bool} {m n r q:Nat} (h:m < n ↔ r < q) (h':n < m ↔ q < r) (h0:m=0 ↔ r=0) (h0':n=0 ↔ q=0):sgn s m < sgn t n ↔ sgn s r < sgn t q:=by
 cases s <;> cases t <;> simp [sgn] <;> omega
theorem Zbde {s t:Bool} {m n r q:Nat} (h:m < n ↔ r < q) (h':n < m ↔ q < r) (h0:m=0 ↔ r=0) (h0':n=0 ↔ q=0):sgn s m=sgn t n ↔ sgn s r=sgn t q:=by
 cases s <;> cases t <;> simp [sgn] <;> omega
theorem Zbdt (a b:Int):compare a b=.lt ↔ a < b:=by
 simp only [compare,compareOfLessAndEq]
 split
 ·simp [*]
 ·split <;> simp [*]
theorem Zbd1 (a b:Int):compare a b=.eq ↔ a=b:=by
 simp only [compare,compareOfLessAndEq]
 split
 ·rename_i h;simp;omega
 ·split <;> simp [*]
theorem Z9e {b:Nat} (h:b < 18446744073709551616):sg b=sgn (ngb b) (rg b):=by
 unfold sg sgn ngb rg TOP
 split
 ·rename_i h1
  have e1:b / 9223372036854775808=1:=by omega
  have e2:b % 9223372036854775808=b - 9223372036854775808:=by omega
  simp [e1,e2]
 ·have e1:b / 9223372036854775808=0:=by omega
  have e2:b % 9223372036854775808=b:=by omega
  simp [e1,e2]
def nm (r:Nat):Nat:=if r < BIN then r else BIN + r % BIN
def np (r:Nat):Nat:=if r < BIN then 0 else r / BIN - 1
theorem Z9s (r:Nat):mg r=nm r * 2 ^ np r:=by
 unfold mg nm np
 split <;> simp
theorem Zsh {b:Nat} (h:rg b < INF):Ieee.double.read b=.number (ngb b) (nm (rg b)) (Zmc + (np (rg b):Nat)):=by
 rw [Zx8]
 unfold nm np
 split
 ·simp
 ·simp [h]
theorem Z7s (s t:Bool) (r q:Nat):∃ o,Ieee.Datum.order (.number s (nm r) (Zmc + (np r:Nat))) (.number t (nm q) (Zmc + (np q:Nat)))=some o ∧ (o=.lt ↔ sgn s r < sgn t q) ∧ (o=.eq ↔ sgn s r=sgn t q):=by
 refine ⟨_,rfl,?_⟩
 have hmin:min (Zmc + (np r:Nat)) (Zmc + (np q:Nat))=Zmc + (min (np r) (np q):Nat):=by omega
 have e1:(Zmc + (np r:Nat) - min (Zmc + (np r:Nat)) (Zmc + (np q:Nat))).toNat=np r - min (np r) (np q):=by rw [hmin];omega
 have e2:(Zmc + (np q:Nat) - min (Zmc + (np r:Nat)) (Zmc + (np q:Nat))).toNat=np q - min (np r) (np q):=by rw [hmin];omega
 have hs:∀ (s:Bool) (m u:Nat),Ieee.signed s m u=sgn s (m * 2 ^ u):=by
  intro s m u
  simp [Ieee.signed,sgn,Nat.shiftLeft_eq]
 rw [e1,e2,hs,hs,Zbdt,Zbd1]
 have hc:0 < 2 ^ min (np r) (np q):=Nat.two_pow_pos _
 have m1:nm r * 2 ^ (np r - min (np r) (np q)) * 2 ^ min (np r) (np q)=mg r:=by
  rw [Nat.mul_assoc,← Nat.pow_add,Nat.sub_add_cancel (Nat.min_le_left _ _),Z9s]
 have m2:nm q * 2 ^ (np q - min (np r) (np q)) * 2 ^ min (np r) (np q)=mg q:=by
  rw [Nat.mul_assoc,← Nat.pow_add,Nat.sub_add_cancel (Nat.min_le_right _ _),Z9s]
 have k1:nm r * 2 ^ (np r - min (np r) (np q)) < nm q * 2 ^ (np q - min (np r) (np q)) ↔ r < q:=by
  rw [← Zzf (r:=r) (s:=q),← m1,← m2]
  exact (Nat.mul_lt_mul_right hc).symm
 have k2:nm q * 2 ^ (np q - min (np r) (np q)) < nm r * 2 ^ (np r - min (np r) (np q)) ↔ q < r:=by
  rw [← Zzf (r:=q) (s:=r),← m1,← m2]
  exact (Nat.mul_lt_mul_right hc).symm
 have z0:mg 0=0:=rfl
 have k3:nm r * 2 ^ (np r - min (np r) (np q))=0 ↔ r=0:=by
  have hz:r=0 ↔ mg r=0:=(Z7t (r:=r) (s:=0)).symm
  rw [hz,← m1]
  constructor
  ·intro h;rw [h,Nat.zero_mul]
  ·intro h;exact (Nat.mul_eq_zero.1 h).resolve_right (by omega)
 have k4:nm q * 2 ^ (np q - min (np r) (np q))=0 ↔ q=0:=by
  have hz:q=0 ↔ mg q=0:=(Z7t (r:=q) (s:=0)).symm
  rw [hz,← m2]
  constructor
  ·intro h;rw [h,Nat.zero_mul]
  ·intro h;exact (Nat.mul_eq_zero.1 h).resolve_right (by omega)
 exact ⟨Zbcw k1 k2 k3 k4,Zbde k1 k2 k3 k4⟩
theorem Zsd {a b:Nat} (ha:a < 18446744073709551616) (hb:b < 18446744073709551616) (na:¬ isn a) (nb:¬ isn b):∃ o,Ieee.double.order a b=some o ∧ (o=.lt ↔ sg a < sg b) ∧ (o=.eq ↔ sg a=sg b):=by
 rw [Z9e ha,Z9e hb]
 unfold isn at na nb
 have hI:INF=9218868437227405312:=rfl
 have rd:∀ x,¬ INF < rg x → rg x < INF ∨ rg x=INF:=fun x h=>by omega
 have ri:∀ x,rg x=INF → Ieee.double.read x=.infinity (ngb x):=fun x h=>by
  rw [Zx8,if_neg (by rw [h];decide),if_neg (by rw [h];decide),if_pos h]
 unfold Ieee.Format.order
 rcases rd a na with h1 | h1 <;> rcases rd b nb with h2 | h2
 ·rw [Zsh h1,Zsh h2];exact Z7s _ _ _ _
 ·rw [Zsh h1,ri b h2]
  refine ⟨_,rfl,?_⟩
  rw [h2]
  cases ngb a <;> cases ngb b <;> simp [sgn] <;> omega
 ·rw [ri a h1,Zsh h2]
  refine ⟨_,rfl,?_⟩
  rw [h1]
  cases ngb a <;> cases ngb b <;> simp [sgn] <;> omega
 ·rw [ri a h1,ri b h2]
  refine ⟨_,rfl,?_⟩
  rw [h1,h2]
  cases ngb a <;> cases ngb b <;> simp [sgn] <;> first | decide | omega
theorem Zzd {a b:Nat} (h:isn a ∨ isn b):Ieee.double.order a b=none:=by
 have rn:∀ x,isn x → ∃ s f,Ieee.double.read x=.nan s f:=fun x h=>by
  refine ⟨ngb x,rg x - INF,?_⟩
  unfold isn at h
  have hI:INF=9218868437227405312:=rfl
  have hB:BIN=4503599627370496:=rfl
  rw [Zx8,if_neg (by omega),if_neg (by omega),if_neg (by omega)]
 unfold Ieee.Format.order
 rcases h with h | h
 ·obtain ⟨s,f,e⟩:=rn a h
  rw [e];rfl
 ·obtain ⟨s,f,e⟩:=rn b h
  rw [e]
  cases Ieee.double.read a <;> rfl
end Go.CL
namespace Go.CL
open Go Go.RowKit
def fadd (m n:Nat):Nat:=(Ieee.double.add m n).getD 9221120237041090561
def fmul (m n:Nat):Nat:=(Ieee.double.mul m n).getD 9221120237041090561
theorem Z8g {b:Nat} (h:isn b):fneq b b=true:=by
 unfold fneq
 show (Ieee.double.order b b != some .eq)=true
 rw [Zzd (.inl h)];rfl
section
variable {P:Program} {N:Nat} {o:Oper} {uses:Zbm} {d:Nat} {q:Pd} {x y z:Operand}
def Z0m (z:Nat):Pd:=⟨fun g v=>∃ r,v=.float .f64 r ∧ (r=z ∨ (fneq r r=true ∧ fneq z z=true)),[],fun _ _ h=>h⟩
theorem Z2a {op : BinOp} {f : Nat → Nat → Option Nat} {t ty : TypeId} {m n : Nat} (hop : o.op = .binOp op t x y ty) (hd : o.dst = some d) (hx : Opd uses x (pFlt m)) (hy : Opd uses y (pFlt n))
   (h:∀ w,(binOp op t (.float .f64 m) (.float .f64 n)).run P w=(match f m n with | some r=>.ok (.float .f64 r) w | none=>((choose (.nanBits .f64 m n)).run P w).andThen fun r w'=>.ok (.float .f64 r) w')):OB P N o uses [(d,Z0m ((f m n).getD 9221120237041090561))] [] :=
 Zis hd fun a g hh=>by
   have h1:=Zk5.1 (hx a g hh)
   have h2:=Zk5.1 (hy a g hh)
   have hg:(eqGuard op t x y (.float .f64 m) (.float .f64 n)).run P g.w=.ok () g.w:=by
     unfold eqGuard
     split <;> rfl
   cases hf:f m n with
   | some r =>
     refine ⟨.float .f64 r,g,?_,.refl _ _,r,rfl,.inl (by simp)⟩
     have:=h g.w
     rw [hf] at this
     simp [execOp,hop,h1,h2,hg,this]
   | none =>
     have:=h g.w
     rw [hf] at this
     have hc:(choose (.nanBits .f64 m n)).run P g.w=.ok ((Question.nanBits .f64 m n).cut (g.w.tape g.w.drawn (Question.nanBits .f64 m n))) g.w.drew:=by
       simp [Question.forced]
     refine ⟨.float .f64 ((Question.nanBits .f64 m n).cut (g.w.tape g.w.drawn (Question.nanBits .f64 m n))),g.drew,?_,Step.drew g,_,rfl,.inr ⟨Z8g ?_,by decide +kernel⟩⟩
     · simp only [hc,Result.andThen_ok] at this
       simp [execOp,hop,h1,h2,hg,this];rfl
     · unfold isn rg INF TOP
       generalize g.w.tape g.w.drawn (Question.nanBits .f64 m n)=u
       simp only [Question.cut]
       have hv:=Nat.mod_lt (u / 2) (show 0 < 2 ^ 52 - 1 by decide)
       generalize u / 2 % (2 ^ 52 - 1)=v at hv
       rcases Nat.mod_two_eq_zero_or_one u with h | h <;> rw [h] <;> omega
theorem Z2j {t ty:TypeId} {m n:Nat} (hop:o.op=.binOp .add t x y ty) (hd:o.dst=some d) (hx:Opd uses x (pFlt m)) (hy:Opd uses y (pFlt n)):OB P N o uses [(d,Z0m (fadd m n))] [] :=
 Z2a hop hd hx hy fun w=>by
   cases h:Ieee.double.add m n <;> simp [binOp,Op.floatArith,FloatKind.format,h]
theorem Z2b {t ty:TypeId} {m n:Nat} (hop:o.op=.binOp .mul t x y ty) (hd:o.dst=some d) (hx:Opd uses x (pFlt m)) (hy:Opd uses y (pFlt n)):OB P N o uses [(d,Z0m (fmul m n))] [] :=
 Z2a hop hd hx hy fun w=>by
   cases h:Ieee.double.mul m n <;> simp [binOp,Op.floatArith,FloatKind.format,h]
theorem Zsf {β:Type} {f:FuncId} {F:Nat → Option β} {q:β → Pd} (hF:∀ r z,fneq r r=true → fneq z z=true → F r=F z) (hok:∀ z r,F z=some r → FnOk P f [pFlt z] (q r)) {z:Nat} {r:β} (h:F z=some r):FnOk P f [Z0m z] (q r):=by
 intro g args hargs
 obtain ⟨r',hv,hr⟩:=hargs.2 0 _ _ rfl (List.getElem?_eq_getElem (by rw [hargs.1];exact Nat.zero_lt_one))
 have h':F r'=some r:=by
   rcases hr with rfl | ⟨h1,h2⟩
   · exact h
   · rw [hF r' z h1 h2];exact h
 refine hok r' r h' g args ⟨hargs.1,fun i qi u h1 h2=>?_⟩
 match i,h1 with
 | 0,h1 =>
   simp at h1;subst h1
   have hl:0 < args.length:=by rw [hargs.1];exact Nat.zero_lt_one
   rw [List.getElem?_eq_getElem hl] at h2
   have:=Option.some.inj h2
   exact Zk5.2 (by rw [← this];exact hv)
end
end Go.CL
namespace Go.CL
section
variable {P:Program} {N:Nat} {o:Oper} {uses outs:Zbm} {S:List Nat} {d:Nat} {q:Pd} {x y z:Operand} {α β:Type} {dk:Kd α} {t e j:Nat}
def Kd.opt (d:Kd α):Kd (Option α) where
 sz:=1
 ag:=false
 K:=fun g x cs=>(x=none ∧ cs=[.pointer none]) ∨ ∃ v b o cs',x=some v ∧ cs=[.pointer (some ⟨b,o,none⟩)] ∧ d.K g v cs' ∧ CellsAt g b o cs'
 len:=by
   rintro g x cs (⟨_,rfl⟩ | ⟨_,_,_,_,_,rfl,_⟩) <;> rfl
 one:=by
   rintro g x cs (⟨_,rfl⟩ | ⟨_,_,_,_,_,rfl,_⟩) u hu <;> (rw [List.mem_singleton.1 hu];rfl)
 mono:=by
   rintro g g' x cs h (k | ⟨v,b,o,cs',h1,h2,h3,h4⟩)
   · exact .inl k
   · exact .inr ⟨v,b,o,cs',h1,h2,d.mono h h3,h4.mono h⟩
 nag:=fun _=>rfl
theorem Zuk (g:G):(dk.opt.pd none).p g (.pointer none):=⟨_,.inl ⟨rfl,rfl⟩,rfl⟩
theorem Zbc8 {v:α} {g:G} {u:Value} (h:(dk.ptr v).p g u):(dk.opt.pd (some v)).p g u:=by
 obtain ⟨b,o,cs,rfl,h1,h2⟩:=h
 exact ⟨_,.inr ⟨v,b,o,cs,rfl,rfl,h1,h2⟩,rfl⟩
theorem Z8k {x:Option α} {v:α} (hx:x=some v) {g:G} {u:Value} (h:(dk.opt.pd x).p g u):(dk.ptr v).p g u:=by
 subst hx
 obtain ⟨cs,(⟨h1,_⟩ | ⟨v',b,o,cs',h1,rfl,h2,h3⟩),rfl⟩:=h
 · cases h1
 · obtain rfl:=Option.some.inj h1
   exact ⟨b,o,cs',rfl,h2,h3⟩
theorem Z59 {x:Option α} (g:G) (u:Value) (h:(dk.opt.pd x).p g u):∃ p,u=.pointer p ∧ p.isNone=x.isNone:=by
 obtain ⟨cs,(⟨rfl,rfl⟩ | ⟨v',b,o,cs',rfl,rfl,h2,h3⟩),rfl⟩:=h
 · exact ⟨none,rfl,rfl⟩
 · exact ⟨some _,rfl,rfl⟩
def G.give (g:G) (b:Nat) (hb:b < g.w.heap.size):G:=⟨g.w,fun b' o=>g.pr b' o ∨ b'=b,fun c=>if c=b then 0 else g.own c,fun b' o h=>h.elim (g.hpr b' o) (fun h=>by rw [h];exact hb),g.gl.le (fun _ _ h=>.inl h) (fun _ _ _=>rfl)⟩
theorem Zx5 (g:G) (b:Nat) (hb:b < g.w.heap.size):g.le (g.give b hb):=⟨Nat.le_refl _,fun _ _ h=>.inl h,fun _ _ _=>rfl,fun _ _=>rfl⟩
theorem Zy2 {g:G} {b j:Nat} (hb:b < g.w.heap.size) (ho:g.own b=j):Step [j] g (g.give b hb) :=
 ⟨Zx5 g b hb,rfl,rfl,rfl,fun c hc hn=>by
   have hcb:c ≠ b:=fun h=>hn (by rw [h,ho];exact List.mem_singleton.2 rfl)
   refine ⟨rfl,?_,if_neg hcb⟩
   funext o
   show (g.pr c o ∨ c=b)=_
   simp [hcb],
  fun c h1 h2=>absurd (Nat.lt_of_lt_of_le h2 h1) (Nat.lt_irrefl _),
  fun c hc hn=>by
   show (if c=b then 0 else g.own c)=0 ∨ (if c=b then 0 else g.own c) ∈ _
   split
   · exact .inl rfl
   · exact .inr hn⟩
theorem Z74 {xs:List α} {g:G} {b cap:Nat} {cur:Array Value} (hO:OwnAt dk e j (xs.map some) g b cap cur):(dk.sl.pd xs).p (g.give b hO.lt) (.slice (some ⟨b,0,none⟩) xs.length cap):=by
 have hle:=Zx5 g b hO.lt
 have hl:=hO.len
 rw [List.length_map] at hl
 have hm:=hO.max
 refine Kd.sl_V.2 ⟨_,cap,rfl,hl,by simp only [maxLen] at hm;omega,.inr ⟨b,0,rfl,fun i x hx=>?_⟩⟩
 refine ⟨_,dk.mono hle (hO.known i x (by rw [List.getElem?_map,hx];rfl)),fun k u hk=>⟨.inr rfl,?_⟩⟩
 simp only [seg,List.getElem?_take,List.getElem?_drop] at hk
 split at hk
 · show g.w.cell? _=_
   simp only [World.cell?,hO.heap]
   simpa using hk
 · cases hk
theorem Z8d {c:Option Nat} {v:α} (hop:o.op=.move x ∨ o.op=.assign x) (hd:o.dst=some d) (hx:Opd uses x (Zch c dk j v)):OB P N o uses [(d,dk.opt.pd (some v))] [j + 1] :=
 Zis hd fun a g hh=>by
   have hr:(execOp a.eval o).run P g.w=.ok (.value (a.eval x)) g.w:=by rcases hop with h | h <;> simp [execOp,h]
   obtain ⟨b,cs,t',hv,⟨h1,h2,h3,h4,h5,h6⟩,_⟩:=hx a g hh
   refine ⟨a.eval x,g.give b h1,hr,Zy2 h1 h2,?_⟩
   rw [hv]
   refine Zbc8 ⟨b,0,cs,rfl,dk.mono (Zx5 g b h1) h5,fun k u hk=>⟨.inr rfl,?_⟩⟩
   show g.w.cell? _=_
   simp only [World.cell?,h4,Nat.zero_add]
   simpa using hk
end
section
variable {P:Program} {N:Nat} {o:Oper} {uses outs:Zbm} {S:List Nat} {d:Nat} {q:Pd} {x y z:Operand}
theorem OB.frameU {n:Nat} (h:OB P N o uses outs S) (hs:Opd uses (.tmp n) q) (hq:∀ j ∈ q.fp,j ∉ S) (hn:o.dst ≠ some n):OB P N o uses ((n,q) :: outs) S:=by
 intro a g K Q hN hdN hu hK
 refine h a g K Q hN hdN hu fun v g' hst ho=>hK v g' hst fun e he=>?_
 rcases List.mem_cons.1 he with rfl | he
 · have h2:=q.st hst hq (hs a g hu)
   show q.p g' (Act.at (a.put o.dst v) n)
   rw [Zkh v hn];exact h2
 · exact ho e he
structure Hp (σ:Type) where
 p:G → σ → Prop
 fp:List Nat
 st:∀ {S:List Nat} {g g':G} {s:σ},Step S g g' → (∀ j ∈ fp,j ∉ S) → p g s → p g' s
def hpT {σ:Type}:Hp σ:=⟨fun _ _=>True,[],fun _ _ _=>trivial⟩
def hpL (q:Pd):Hp SlV:=⟨fun g s=>q.p g (slv s),q.fp,fun st hd h=>q.st st hd h⟩
variable {c:Option Nat} {α β γ δ ε σ:Type} {kV:Kd γ} {raw:α → σ → γ} {R R' R2:Hp σ} {dk:Kd β} {di:Kd δ} {dj:Kd ε} {t e j:Nat} {xv:α}
def Zo7 (c:Option Nat) (kV:Kd γ) (raw:α → σ → γ) (R:Hp σ) (j:Nat) (x:α):Pd:=⟨fun g v=>∃ s,(Zch c kV j (raw x s)).p g v ∧ R.p g s,(j + 1) :: R.fp,fun st hd ⟨s,h1,h2⟩=>⟨s,(Zch c kV j (raw x s)).st st (fun k hk=>hd k (List.mem_cons.2 (.inl (List.mem_singleton.1 hk)))) h1,R.st st (fun k hk=>hd k (List.mem_cons_of_mem _ hk)) h2⟩⟩
abbrev pBxS (kV:Kd γ) (raw:α → σ → γ) (R:Hp σ) (j:Nat) (x:α):Pd:=Zo7 none kV raw R j x
theorem Zbez {g:G} {v:Value} (hv:(Zo7 c kV raw R j xv).p g v):(Zo7 c kV raw hpT j xv).p g v:=let ⟨s,h1,_⟩:=hv;⟨s,h1,trivial⟩
theorem Zbak {α:Type} {dk:Kd α} {e j:Nat} {xs:List α} {g:G} {v:Value} (h:(pRow dk e j xs).p g v):∃ s:SlV,v=slv s:=by
 obtain ⟨A,c,hv,_⟩:=Kd.sl_V.1 h.1
 exact ⟨(A,xs.length,c),hv⟩
theorem Z2s {α:Type} {dk:Kd α} {xs:List α} {g:G} {s:SlV} {cs:List Value} (h:Kd.raw.K g s cs) (hv:dk.sl.V g xs (slv s)):dk.sl.K g xs cs:=by
 have h1:cs=[slv s]:=h
 obtain ⟨cs',h2,h3⟩:=hv
 have hl:=dk.sl.len h2
 obtain ⟨u,rfl⟩:=List.length_eq_one_iff.1 hl
 have:slv s=u:=h3
 rw [h1,this];exact h2
end
structure ObR (α:Type) where
 R:G → Nat → (Nat → Prop) → α → Prop
 st:∀ {g g':G} {b:Nat} {B:Nat → Prop} {x:α},R g b B x → g.le g' → (∀ c,c=b ∨ B c → g'.w.heap[c]?=g.w.heap[c]? ∧ g'.pr c=g.pr c) → R g' b B x
def Zcc {α:Type} (cb:Option Nat) (k:ObR α) (j:Nat) (x:α):Pd where
 p:=fun g v=>∃ b B,(v=.pointer (some ⟨b,0,none⟩) ∧ ∀ b',cb=some b' → b'=b) ∧ k.R g b B x ∧ b < g.w.heap.size ∧ g.own b=j + 1 ∧ (∀ c,c < g.w.heap.size → g.own c=j + 1 → c=b) ∧ ∀ c,B c → c < g.w.heap.size ∧ g.own c=j + 1 + AUX
 fp:=[j + 1,j + 1 + AUX]
 st:=fun {S g g' v} s hd ⟨b,B,e,hR,hb,ho,hu,hB⟩=>by
   have h1:j + 1 ∉ S:=hd _ (by simp)
   have h2:j + 1 + AUX ∉ S:=hd _ (by simp)
   obtain ⟨k1,k2,k3⟩:=s.same b hb (by rw [ho];exact h1)
   refine ⟨b,B,e,k.st hR s.le ?_,Nat.lt_of_lt_of_le hb s.le.size,k3.trans ho,?_,fun c hc=>?_⟩
   · rintro c (rfl | hc)
     · exact ⟨k1,k2⟩
     · exact ⟨(s.same c (hB c hc).1 (by rw [(hB c hc).2];exact h2)).1,(s.same c (hB c hc).1 (by rw [(hB c hc).2];exact h2)).2.1⟩
   · intro c hc hoc
     rcases Nat.lt_or_ge c g.w.heap.size with hlt | hge
     · by_cases hS:g.own c ∈ S
       · rcases s.old c hlt hS with h | h
         · rw [hoc] at h;omega
         · rw [hoc] at h;exact absurd h h1
       · exact hu c hlt ((s.same c hlt hS).2.2.symm.trans hoc)
     · rcases s.new c hge hc with h | h
       · rw [hoc] at h;omega
       · rw [hoc] at h;exact absurd h h1
   · obtain ⟨hlt,hoc⟩:=hB c hc
     obtain ⟨m1,m2,m3⟩:=s.same c hlt (by rw [hoc];exact h2)
     exact ⟨Nat.lt_of_lt_of_le hlt s.le.size,m3.trans hoc⟩
def FnMR {α:Type} (P:Program) (f:FuncId) (k:ObR α) (x0 x1:α) (A:List Pd) (q:Pd):Prop :=
 ∀ (g:G) (b:Nat) (B:Nat → Prop) (args:List Value),k.R g b B x0 → b < g.w.heap.size → (∀ c,B c → c < g.w.heap.size ∧ c ≠ b) → ArgsOk A g args →
   Calls P f (Value.pointer (some ⟨b,0,none⟩) :: args).toArray g.w (fun e w'=>∃ g' v B',e=.returned v ∧ w'=g'.w ∧ Zrg (fun c=>c=b ∨ B c) g g' ∧ k.R g' b B' x1 ∧ (∀ c,B' c → (B c ∨ g.w.heap.size ≤ c) ∧ c < g'.w.heap.size) ∧ q.p g' v)
def Z20 {α:Type} (P:Program) (f:FuncId) (A:List Pd) (k:ObR α) (x:α):Prop :=
 ∀ (g:G) (args:List Value),ArgsOk A g args →
   Calls P f args.toArray g.w (fun e w'=>∃ g' b B,e=.returned (.pointer (some ⟨b,0,none⟩)) ∧ w'=g'.w ∧ Zrg (fun _=>False) g g' ∧ g.w.heap.size ≤ b ∧ b < g'.w.heap.size ∧ k.R g' b B x ∧ ∀ c,B c → g.w.heap.size ≤ c ∧ c < g'.w.heap.size ∧ c ≠ b)
theorem Z1d {α:Type} {k:ObR α} {cb:Option Nat} {j:Nat} {x0:α} (g:G) (v:Value) (h:(Zcc cb k j x0).p g v):∃ p,v=.pointer p ∧ p.isNone=false:=by
 obtain ⟨b,B,⟨hv,_⟩,_⟩:=h
 exact ⟨_,hv,rfl⟩
section
variable {P:Program} {N:Nat} {o:Oper} {uses outs:Zbm} {S:List Nat} {d:Nat} {q:Pd} {x y z:Operand} {α β γ:Type} {k:ObR α}
open Classical in
theorem Zef {x0 x1 : α} {f : FuncId} {xs : List Operand} {A : List Pd} {ty : Array TypeId} {s j : Nat} {cb cb' : Option Nat} (he : Zm P f) (hok : FnMR P f k x0 x1 A q) (hop : o.op = .call { callee := .value (.func f), args := (x :: xs).toArray, argTypes := ty }) (hd : o.dst = some d)
   (hq:q.fp=[]) (hsd:s ≠ d) (hs:Opd uses (.tmp s) (Zcc cb k j x0)) (hx:Opd uses x (Zcc cb' k j x0)) (hargs:OpdL uses xs A):OB P N o uses [(d,q),(s,Zcc cb k j x1)] [j + 1,j + 1 + AUX]:=by
 intro a g K Q hN hdN hu hK
 obtain ⟨b,B,⟨hv,_⟩,hR,hb,ho,huq,hB⟩:=hx a g hu
 obtain ⟨b2,_,⟨hv2,hcb⟩,_,hb2,ho2,_⟩:=hs a g hu
 have:b2=b:=huq b2 hb2 ho2
 subst this
 have hr:(execOp a.eval o).run P g.w=.ok (.enter f (Value.pointer (some ⟨b2,0,none⟩) :: xs.map a.eval).toArray) g.w:=by
   simp [execOp,hop,resolve,Zu6,Deferred.ofValue,invoke,Zlk he,hv]
 unfold Oper.wp
 rw [hr]
 show Calls P f _ g.w _
 have hne:∀ c,B c → c ≠ b2:=fun c hc h=>by
   have:=(hB c hc).2
   rw [h,ho] at this;simp [AUX] at this
 refine Calls.mono (hok g b2 B _ hR hb (fun c hc=>⟨(hB c hc).1,hne c hc⟩) (hargs.ok hu)) ?_
 rintro e w' ⟨g',v,B',rfl,rfl,hS,hR',hB',hqv⟩
 let g2:G:=⟨g'.w,g'.pr,fun c=>if c < g.w.heap.size then (if g.own c=j + 1 + AUX ∧ ¬ B' c then 0 else g.own c) else if B' c then j + 1 + AUX else 0,g'.hpr,g'.gl⟩
 have hle:g'.le g2:=⟨Nat.le_refl _,fun _ _ h=>h,fun _ _ _=>rfl,fun _ _=>rfl⟩
 have hsz:=hS.le.size
 have hown2:∀ c,g2.own c=if c < g.w.heap.size then (if g.own c=j + 1 + AUX ∧ ¬ B' c then 0 else g.own c) else if B' c then j + 1 + AUX else 0:=fun _=>rfl
 have hob:g2.own b2=j + 1:=by
   rw [hown2,if_pos hb,if_neg,ho]
   rw [ho];simp [AUX]
 refine hK v g2 ⟨⟨hS.le.size,hS.le.pr,hS.le.cell,hS.le.blk⟩,hS.os,hS.tape,hS.output,fun c hc hn=>?_,fun c h1 h2=>?_,fun c hc hn=>?_⟩ fun e he=>?_
 · have hc1:c ≠ b2:=fun h=>hn (by rw [h,ho];simp)
   have hc2:¬ B c:=fun h=>hn (by rw [(hB c h).2];simp)
   obtain ⟨k1,k2⟩:=hS.same c hc (by simp [hc1,hc2])
   refine ⟨k1,k2,?_⟩
   rw [hown2,if_pos hc,if_neg]
   intro h;exact hn (by rw [h.1];simp)
 · rw [hown2,if_neg (by omega)]
   split <;> simp
 · rw [hown2,if_pos hc]
   split
   · exact .inl rfl
   · exact .inr hn
 · simp only [List.mem_cons,List.not_mem_nil,or_false] at he
   rcases he with rfl | rfl
   · rw [hd,Zfx v (by rw [hN];exact hdN d hd)]
     exact Pd.le hq hle rfl rfl rfl hqv
   · have hat:Act.at (a.put o.dst v) s=Act.at a s:=Zkh v (by rw [hd];intro h;exact hsd (Option.some.inj h).symm)
     rw [hat]
     refine ⟨b2,B',⟨hv2,hcb⟩,k.st hR' hle (fun _ _=>⟨rfl,rfl⟩),Nat.lt_of_lt_of_le hb hsz,hob,fun c hc hoc=>?_,fun c hc=>?_⟩
     · rw [hown2] at hoc
       split at hoc
       · rename_i hlt
         split at hoc
         · omega
         · exact huq c hlt hoc
       · split at hoc
         · simp [AUX] at hoc
         · omega
     · obtain ⟨h1,h2⟩:=hB' c hc
       refine ⟨h2,?_⟩
       rw [hown2]
       rcases h1 with h1 | h1
       · rw [if_pos (hB c h1).1,if_neg (by simp [hc])];exact (hB c h1).2
       · rw [if_neg (by omega),if_pos hc]
open Classical in
theorem Zo3 {x0 : α} {f : FuncId} {xs : List Operand} {A : List Pd} {ty : Array TypeId} {j : Nat} (he : Zm P f) (hok : Z20 P f A k x0) (hop : o.op = .call { callee := .value (.func f), args := xs.toArray, argTypes := ty }) (hd : o.dst = some d)
   (hargs:OpdL uses xs A):OB P N o uses [(d,Zcc none k j x0)] [j + 1,j + 1 + AUX]:=by
 intro a g K Q hN hdN hu hK
 have hr:(execOp a.eval o).run P g.w=.ok (.enter f (xs.map a.eval).toArray) g.w:=by
   simp [execOp,hop,resolve,Act.eval,Deferred.ofValue,invoke,Zlk he]
 unfold Oper.wp
 rw [hr]
 show Calls P f _ g.w _
 refine Calls.mono (hok g _ (hargs.ok hu)) ?_
 rintro e w' ⟨g',b,B,rfl,rfl,hS,hb1,hb2,hR,hB⟩
 let g2:G:=⟨g'.w,g'.pr,fun c=>if c < g.w.heap.size then (if g.own c=j + 1 ∨ g.own c=j + 1 + AUX then 0 else g.own c) else if c=b then j + 1 else if B c then j + 1 + AUX else 0,g'.hpr,g'.gl⟩
 have hle:g'.le g2:=⟨Nat.le_refl _,fun _ _ h=>h,fun _ _ _=>rfl,fun _ _=>rfl⟩
 have hown2:∀ c,g2.own c=if c < g.w.heap.size then (if g.own c=j + 1 ∨ g.own c=j + 1 + AUX then 0 else g.own c) else if c=b then j + 1 else if B c then j + 1 + AUX else 0:=fun _=>rfl
 refine hK _ g2 ⟨⟨hS.le.size,hS.le.pr,hS.le.cell,hS.le.blk⟩,hS.os,hS.tape,hS.output,fun c hc hn=>?_,fun c h1 h2=>?_,fun c hc hn=>?_⟩ fun e he=>?_
 · obtain ⟨k1,k2⟩:=hS.same c hc id
   refine ⟨k1,k2,?_⟩
   rw [hown2,if_pos hc,if_neg]
   simpa using hn
 · rw [hown2,if_neg (by omega)]
   split
   · simp
   · split <;> simp
 · rw [hown2,if_pos hc,if_pos (by simpa using hn)];exact .inl rfl
 · rw [List.mem_singleton.1 he,hd,Zfx _ (by rw [hN];exact hdN d hd)]
   refine ⟨b,B,⟨rfl,fun _ h=>by cases h⟩,k.st hR hle (fun _ _=>⟨rfl,rfl⟩),hb2,?_,fun c hc hoc=>?_,fun c hc=>⟨(hB c hc).2.1,?_⟩⟩
   · rw [hown2,if_neg (by omega),if_pos rfl]
   · rw [hown2] at hoc
     split at hoc
     · split at hoc
       · omega
       · rename_i h;exact absurd hoc (fun h'=>h (.inl h'))
     · split at hoc
       · assumption
       · split at hoc
         · simp [AUX] at hoc
         · omega
   · rw [hown2,if_neg (by have:=(hB c hc).1;omega),if_neg (hB c hc).2.2,if_pos hc]
theorem OT.guardMR {x0 x1 x2 : α} {ops : Array Oper} {i c s j : Nat} {cb : Option Nat} {want : Bool} (G : Bool) {q0 : Pd} (h1 : G = true → ∀ g v, q0.p g v → v = .bool want) (h2 : G = false → ∀ g v, q0.p g v → v ≠ .bool want) (hg : o.guard = some (i, want)) (hc : (ops[i]?).bind (·.dst) = some c)
   (hd:o.dst=some d) (hsd:s ≠ d) (hs:Opd uses (.tmp s) (Zcc cb k j x0)) (h:G=true → OB P N o uses [(d,q),(s,Zcc cb k j x1)] S) (hx2:x2=if G=true then x1 else x0):OT P ops N o ((c,q0) :: uses) [(d,pIf G q),(s,Zcc cb k j x2)] S:=by
 intro a g K Q hN ht hu hK
 subst hx2
 have hcv:=hu (c,q0) (by simp)
 have hu':Zfk uses a g:=fun e he=>hu e (List.mem_cons_of_mem _ he)
 cases hG:G with
 | true =>
   have:Region.wanted o (yielded ops a.tmps)=true:=by simp [Region.wanted,hg,(Zp3 hc).2 (h1 hG _ _ hcv)]
   rw [if_pos this]
   refine h hG a g K Q hN ht hu' fun v g' hst ho'=>hK v g' hst ?_
   intro e he
   simp only [List.mem_cons,List.not_mem_nil,or_false] at he
   rcases he with rfl | rfl
   · exact ⟨fun _=>ho' (d,q) (by simp),fun h0=>(by rw [hG] at h0;cases h0)⟩
   · rw [hG];exact ho' (s,Zcc cb k j x1) (by simp)
 | false =>
   have:Region.wanted o (yielded ops a.tmps)=false:=by
     simp only [Region.wanted,hg,beq_eq_false_iff_ne,ne_eq]
     exact fun h=>h2 hG _ _ hcv ((Zp3 hc).1 h)
   rw [this]
   refine hK undef g (.refl _ _) ?_
   intro e he
   simp only [List.mem_cons,List.not_mem_nil,or_false] at he
   rcases he with rfl | rfl
   · refine ⟨fun h0=>(by rw [hG] at h0;cases h0),fun _=>?_⟩
     rw [hd]
     exact Zfx _ (by rw [hN];exact ht _ hd)
   · rw [hG]
     have hat:Act.at (a.put o.dst undef) s=Act.at a s:=Zkh undef (by rw [hd];intro h;exact hsd (Option.some.inj h).symm)
     rw [hat]
     exact hs a g hu'
open Classical in
theorem Zze {g : G} {b : Nat} {own : Nat → Nat} {args : List Value} {A : List Pd} {qs : Pd} {fn : Func} (hn : fn.ntmps = N) (hAN : A.length + 1 ≤ N) (hA : Free A) (hargs : ArgsOk A g args) (hq : qs.p ⟨g.w, g.pr, own, g.hpr, g.gl⟩ (.pointer (some ⟨b, 0, none⟩))) :
   St N ((0,qs) :: Zmd A 1) { tmps:=(Value.pointer (some ⟨b,0,none⟩) :: args).toArray ++ Array.replicate (fn.ntmps - (Value.pointer (some ⟨b,0,none⟩) :: args).toArray.size) undef,defers:=[] } ⟨g.w,g.pr,own,g.hpr,g.gl⟩:=by
 have hle:g.le ⟨g.w,g.pr,own,g.hpr,g.gl⟩:=⟨Nat.le_refl _,fun _ _ h=>h,fun _ _ _=>rfl,fun _ _=>rfl⟩
 refine ⟨?_,rfl,?_⟩
 · have:=hargs.1
   simp [hn];omega
 · intro en he
   rcases List.mem_cons.1 he with rfl | he
   · have hv : Act.at { tmps := (Value.pointer (some ⟨b, 0, none⟩) :: args).toArray ++ Array.replicate (fn.ntmps - (Value.pointer (some ⟨b, 0, none⟩) :: args).toArray.size) undef, defers := [] } 0 = .pointer (some ⟨b, 0, none⟩) := by
       simp only [Act.at,Array.getD_eq_getD_getElem?]
       rw [Array.getElem?_append,if_pos (by simp)]
       simp
     show qs.p _ (Act.at _ 0)
     rw [hv];exact hq
   · obtain ⟨i,h1,h2⟩:=Zot he
     have hi:i < args.length:=by rw [hargs.1];exact (List.getElem?_eq_some_iff.1 h2).1
     have hv:Act.at { tmps:=(Value.pointer (some ⟨b,0,none⟩) :: args).toArray ++ Array.replicate (fn.ntmps - (Value.pointer (some ⟨b,0,none⟩) :: args).toArray.size) undef,defers:=[] } en.1=args[i]:=by
       rw [h1,Nat.add_comm]
       simp only [Act.at,Array.getD_eq_getD_getElem?]
       rw [Array.getElem?_append,if_pos (by simpa using hi)]
       simp [hi]
     rw [hv]
     exact Pd.le (hA.at h2) hle rfl rfl rfl (hargs.2 i en.2 _ h2 (List.getElem?_eq_getElem hi))
def Z9y (k:ObR α) (x1:α) (b:Nat) (g0:G) (q:Pd) (v:Value) (g1:G):Prop:=Base g0 g1 ∧ q.p g1 v ∧ (Zcc (some b) k 0 x1).p g1 (.pointer (some ⟨b,0,none⟩))
theorem Zwx {g g1 : G} {own : Nat → Nat} {D : Nat → Prop} (hpr : GLok g.w g.pr) (ho : ∀ c, own c ≠ 0 → D c) (hBs : Base ⟨g.w, g.pr, own, g.hpr, g.gl⟩ g1) : Zrg D g g1 := ⟨⟨hBs.le.size, hBs.le.pr, hBs.le.cell, hBs.le.blk⟩, hBs.os, hBs.tape, hBs.output, fun c hc hn => by
   have h0:own c=0:=Classical.byContradiction fun h=>hn (ho c h)
   exact ⟨(hBs.same c hc h0).1,(hBs.same c hc h0).2.1⟩⟩
open Classical in
theorem Zban {x0 x1 : α} {f : FuncId} {fn : Func} {c : Code} {A : List Pd} (hf : P.funcs[f]? = some fn) (hb : fn.body = some c) (hn : fn.ntmps = N) (hAN : A.length + 1 ≤ N) (hA : Free A) (hq : q.fp = [])
   (h:∀ (a:Act) (g:G) (b:Nat),St N ((0,Zcc (some b) k 0 x0) :: Zmd A 1) a g → Base g g → c.wp P (bodyPost P fn (FinP (Z9y k x1 b g q))) a g.w):FnMR P f k x0 x1 A q:=by
 intro g b B args hR hbl hB hargs
 let own:Nat → Nat:=fun c=>if c=b then 1 else if B c then 1 + AUX else 0
 let g0:G:=⟨g.w,g.pr,own,g.hpr,g.gl⟩
 have hle:g.le g0:=⟨Nat.le_refl _,fun _ _ h=>h,fun _ _ _=>rfl,fun _ _=>rfl⟩
 have o1:own b=1:=if_pos rfl
 have o2:∀ c,own c=1 → c=b:=fun c hc=>by
   have hc:(if c=b then 1 else if B c then 1 + AUX else 0)=1:=hc
   split at hc
   · assumption
   · split at hc <;> simp [AUX] at hc
 have o3:∀ c,own c ≠ 0 → c=b ∨ B c:=fun c hc=>by
   have hc:(if c=b then 1 else if B c then 1 + AUX else 0) ≠ 0:=hc
   split at hc
   · left;assumption
   · split at hc
     · right;assumption
     · exact absurd rfl hc
 have hobj:(Zcc (some b) k 0 x0).p g0 (.pointer (some ⟨b,0,none⟩)):=⟨b,B,⟨rfl,fun _ h=>(Option.some.inj h).symm⟩,k.st hR hle (fun _ _=>⟨rfl,rfl⟩),hbl,o1,fun c _ hc=>o2 c hc,fun c hc=>⟨(hB c hc).1,by show (if c=b then 1 else if B c then 1 + AUX else 0)=0 + 1 + AUX;rw [if_neg (hB c hc).2,if_pos hc]⟩⟩
 have hst:=Zze (fn:=fn) hn hAN hA hargs hobj
 have hbase:Base g0 g0:=⟨.refl _,rfl,rfl,rfl,fun _ _ h=>⟨rfl,rfl,h⟩⟩
 refine Calls.mono (calls_of_wp hf hb (h _ g0 b hst hbase)) ?_
 rintro en w' ⟨g1,v,rfl,rfl,hBs,hqv,b1,B1,⟨e1,hc1⟩,hR1,hb1,ho1,hu1,hB1⟩
 obtain rfl:=hc1 _ rfl
 refine ⟨g1,v,B1,rfl,rfl,Zwx g.gl o3 hBs,hR1,fun c hc=>⟨?_,(hB1 c hc).1⟩,hqv⟩
 refine Classical.byContradiction fun hno=>?_
 have hlt:c < g.w.heap.size:=Nat.lt_of_not_le fun h=>hno (.inr h)
 have hoc:=(hB1 c hc).2
 by_cases h0:own c=0
 · have:=(hBs.same c hlt h0).2.2
   rw [hoc] at this;simp [AUX] at this
 · rcases o3 c h0 with h | h
   · rw [h,ho1] at hoc;simp [AUX] at hoc
   · exact hno (.inl h)
variable {kV:Kd γ} {raw:α → SlV → γ} {lst:α → List β} {dk:Kd β} {e:TypeId}
def RowB (dk:Kd β) (e:TypeId) (xs:List β) (g:G) (v:Value) (B:Nat → Prop):Prop :=
 dk.sl.V g xs v ∧ ((v=.slice none 0 0 ∧ xs.length=0) ∨ ∃ b cap cur,v=.slice (some ⟨b,0,none⟩) xs.length cap ∧ B b ∧ g.w.heap[b]?=some (.cells cur e (0,0)) ∧ xs.length ≤ cap ∧ cap ≤ maxLen ∧ cur.size=cap * dk.sz ∧ ∀ i,xs.length * dk.sz ≤ i → ¬ g.pr b i)
def obR (kV:Kd γ) (raw:α → SlV → γ) (lst:α → List β) (dk:Kd β) (e:TypeId):ObR α where
 R:=fun g b B x=>∃ s cs t,g.w.heap[b]?=some (.cells (List.toArray cs) t (0,0)) ∧ (∀ o,¬ g.pr b o) ∧ kV.K g (raw x s) cs ∧ RowB dk e (lst x) g (slv s) B
 st:=by
   rintro g g' b B x ⟨s,cs,t,h1,h0,h2,h3,h4⟩ hle hh
   obtain ⟨k1,k2⟩:=hh b (.inl rfl)
   refine ⟨s,cs,t,k1.trans h1,fun o=>by rw [k2];exact h0 o,kV.mono hle h2,h3.imp fun _ h=>⟨dk.sl.mono hle h.1,h.2⟩,?_⟩
   rcases h4 with h4 | ⟨c,cap,cur,m1,m2,m3,m4,m5,m6,m7⟩
   · exact .inl h4
   · obtain ⟨k3,k4⟩:=hh c (.inr m2)
     exact .inr ⟨c,cap,cur,m1,m2,k3.trans m3,m4,m5,m6,fun i hi=>by rw [k4];exact m7 i hi⟩
abbrev Z1l (kV:Kd γ) (raw:α → SlV → γ) (lst:α → List β) (dk:Kd β) (e:TypeId) (b:Nat) (x:α):Pd:=Zo7 (some b) kV raw (hpL (pRow dk e AUX (lst x))) 0 x
def Z5p (kV:Kd γ) (raw:α → SlV → γ) (lst:α → List β) (dk:Kd β) (e:TypeId) (b:Nat) (x:α) (g0:G) (q:Pd) (v:Value) (g1:G):Prop:=Base g0 g1 ∧ q.p g1 v ∧ (Z1l kV raw lst dk e b x).p g1 (.pointer (some ⟨b,0,none⟩))
open Classical in
theorem Zu8 {x0 x1 : α} {f : FuncId} {fn : Func} {c : Code} {A : List Pd} (hf : P.funcs[f]? = some fn) (hb : fn.body = some c) (hn : fn.ntmps = N) (hAN : A.length + 1 ≤ N) (hA : Free A) (hq : q.fp = [])
   (h:∀ (a:Act) (g:G) (b:Nat),St N ((0,Z1l kV raw lst dk e b x0) :: Zmd A 1) a g → Base g g → c.wp P (bodyPost P fn (FinP (Z5p kV raw lst dk e b x1 g q))) a g.w):FnMR P f (obR kV raw lst dk e) x0 x1 A q:=by
 intro g b B args hR hbl hB hargs
 obtain ⟨s,cs,t,hh,hnp,hk,hV,hl⟩:=hR
 obtain ⟨own,o1,o2,o3,hrow⟩:∃ own:Nat → Nat,own b=1 ∧ (∀ c,own c=1 → c=b) ∧ (∀ c,own c ≠ 0 → c=b ∨ B c) ∧ ∀ g0:G,g0.w=g.w → g0.pr=g.pr → g0.own=own → g.le g0 → (pRow dk e AUX (lst x0)).p g0 (slv s):=by
   rcases hl with ⟨h1,h2⟩ | ⟨c,cap,cur,k1,k2,k3,k4,k5,k6,k7⟩
   · refine ⟨fun c=>if c=b then 1 else 0,if_pos rfl,fun c hc=>?_,fun c hc=>?_,fun g0 _ _ _ hle=>⟨hV.imp fun _ h=>⟨dk.sl.mono hle h.1,h.2⟩,.inl ⟨h1,h2⟩⟩⟩
     · dsimp only at hc
       split at hc
       · assumption
       · omega
     · dsimp only at hc
       split at hc
       · left;assumption
       · exact absurd rfl hc
   · obtain ⟨l1,l2⟩:=hB c k2
     refine ⟨fun c'=>if c'=b then 1 else if c'=c then AUX + 1 else 0,if_pos rfl,fun c' hc=>?_,fun c' hc=>?_,fun g0 e1 e2 e3 hle=>⟨hV.imp fun _ h=>⟨dk.sl.mono hle h.1,h.2⟩,.inr ⟨c,cap,cur,k1,by rw [e1];exact l1,by rw [e3];show (if c=b then 1 else if c=c then AUX + 1 else 0)=AUX + 1;rw [if_neg l2,if_pos rfl],by rw [e1];exact k3,k4,k5,k6,fun i hi=>by rw [e2];exact k7 i hi⟩⟩⟩
     · dsimp only at hc
       split at hc
       · assumption
       · split at hc <;> simp [AUX] at hc
     · dsimp only at hc
       split at hc
       · left;assumption
       · split at hc
         · rename_i h;right;rw [h];exact k2
         · exact absurd rfl hc
 let g0:G:=⟨g.w,g.pr,own,g.hpr,g.gl⟩
 have hle:g.le g0:=⟨Nat.le_refl _,fun _ _ h=>h,fun _ _ _=>rfl,fun _ _=>rfl⟩
 have hself:(Z1l kV raw lst dk e b x0).p g0 (.pointer (some ⟨b,0,none⟩)):=⟨s,⟨b,cs,t,rfl,⟨hbl,o1,fun c _ hc=>o2 c hc,hh,kV.mono hle hk,hnp⟩,fun b' h=>Option.some.inj h⟩,hrow g0 rfl rfl rfl hle⟩
 have hst:=Zze (fn:=fn) hn hAN hA hargs hself
 have hbase:Base g0 g0:=⟨.refl _,rfl,rfl,rfl,fun _ _ h=>⟨rfl,rfl,h⟩⟩
 refine Calls.mono (calls_of_wp hf hb (h _ g0 b hst hbase)) ?_
 rintro en w' ⟨g1,v,rfl,rfl,hBs,hqv,⟨s1,⟨b1,cs1,t1,e1,⟨m1,m2,m3,m4,m5,m6⟩,hb1⟩,hV1,ha1⟩⟩
 obtain rfl:=hb1 _ rfl
 have hS:Zrg (fun c=>c=b1 ∨ B c) g g1:=Zwx g.gl o3 hBs
 rcases ha1 with ⟨hn1,hn2⟩ | ⟨c,cap,cur,hv,l1,l2,l3,l4,l5,l6,l7⟩
 · exact ⟨g1,v,fun _=>False,rfl,rfl,hS,⟨s1,cs1,t1,m4,m6,m5,hV1,.inl ⟨hn1,hn2⟩⟩,fun c hc=>hc.elim,hqv⟩
 · refine ⟨g1,v,fun c'=>c'=c,rfl,rfl,hS,⟨s1,cs1,t1,m4,m6,m5,hV1,.inr ⟨c,cap,cur,hv,rfl,l3,l4,l5,l6,l7⟩⟩,fun c' hc=>?_,hqv⟩
   subst hc
   refine ⟨Classical.byContradiction fun hno=>?_,l1⟩
   have hlt:c' < g.w.heap.size:=Nat.lt_of_not_le fun h=>hno (.inr h)
   by_cases h0:own c'=0
   · have:=(hBs.same c' hlt h0).2.2
     rw [l2] at this;simp [AUX] at this
   · rcases o3 c' h0 with h | h
     · rw [h,m2] at l2;simp [AUX] at l2
     · exact hno (.inl h)
def Z9i (kV:Kd γ) (raw:α → SlV → γ) (lst:α → List β) (dk:Kd β) (e:TypeId) (x:α) (g0:G) (v:Value) (g1:G):Prop:=Base g0 g1 ∧ ∃ c j jl,j ≠ jl ∧ (Zo7 c kV raw (hpL (pRow dk e jl (lst x))) j x).p g1 v
theorem Z63 {x0 : α} {f : FuncId} {fn : Func} {c : Code} {A : List Pd} (hf : P.funcs[f]? = some fn) (hb : fn.body = some c) (hn : fn.ntmps = N) (hAN : A.length ≤ N) (hA : Free A)
   (h:∀ (a:Act) (g:G),(∀ b,g.own b=0) → St N (Zmd A 0) a g → Base g g → c.wp P (bodyPost P fn (FinP (Z9i kV raw lst dk e x0 g))) a g.w):Z20 P f A (obR kV raw lst dk e) x0:=by
 intro g args hargs
 let g0:G:=⟨g.w,g.pr,fun _=>0,g.hpr,g.gl⟩
 have hle:g.le g0:=⟨Nat.le_refl _,fun _ _ h=>h,fun _ _ _=>rfl,fun _ _=>rfl⟩
 have hst:St N (Zmd A 0) { tmps:=args.toArray ++ Array.replicate (fn.ntmps - args.toArray.size) undef,defers:=[] } g0:=by
   refine ⟨?_,rfl,?_⟩
   · have:=hargs.1
     simp [hn];omega
   · intro en he
     obtain ⟨i,h1,h2⟩:=Zot he
     have hi:i < args.length:=by rw [hargs.1];exact (List.getElem?_eq_some_iff.1 h2).1
     have hv:Act.at { tmps:=args.toArray ++ Array.replicate (fn.ntmps - args.toArray.size) undef,defers:=[] } en.1=args[i]:=by
       rw [h1,Nat.zero_add]
       simp only [Act.at,Array.getD_eq_getD_getElem?]
       rw [Array.getElem?_append,if_pos (by simpa using hi)]
       simp [hi]
     rw [hv]
     exact Pd.le (hA.at h2) hle rfl rfl rfl (hargs.2 i en.2 _ h2 (List.getElem?_eq_getElem hi))
 have hbase:Base g0 g0:=⟨.refl _,rfl,rfl,rfl,fun _ _ _=>⟨rfl,rfl,rfl⟩⟩
 refine Calls.mono (calls_of_wp hf hb (h _ g0 (fun _=>rfl) hst hbase)) ?_
 rintro en w' ⟨g1,v,rfl,rfl,hBs,cc,j,jl,hj,s1,⟨b,cs1,t1,rfl,⟨m1,m2,m3,m4,m5,m6⟩,_⟩,hV1,ha1⟩
 have hnew:∀ c,g1.own c ≠ 0 → c < g1.w.heap.size → g.w.heap.size ≤ c:=fun c h1 h2=>Nat.le_of_not_lt fun hlt=>h1 ((hBs.same c hlt rfl).2.2)
 have hS:Zrg (fun _=>False) g g1:=⟨⟨hBs.le.size,hBs.le.pr,hBs.le.cell,hBs.le.blk⟩,hBs.os,hBs.tape,hBs.output,fun c hc _=>⟨(hBs.same c hc rfl).1,(hBs.same c hc rfl).2.1⟩⟩
 have hb0:=hnew b (by rw [m2];omega) m1
 rcases ha1 with ⟨hn1,hn2⟩ | ⟨c,cap,cur,hv,l1,l2,l3,l4,l5,l6,l7⟩
 · exact ⟨g1,b,fun _=>False,rfl,rfl,hS,hb0,m1,⟨s1,cs1,t1,m4,m6,m5,hV1,.inl ⟨hn1,hn2⟩⟩,fun c hc=>hc.elim⟩
 · refine ⟨g1,b,fun c'=>c'=c,rfl,rfl,hS,hb0,m1,⟨s1,cs1,t1,m4,m6,m5,hV1,.inr ⟨c,cap,cur,hv,rfl,l3,l4,l5,l6,l7⟩⟩,fun c' hc=>?_⟩
   subst hc
   exact ⟨hnew c' (by rw [l2];omega) l1,l1,fun h=>by rw [h,m2] at l2;omega⟩
end
theorem Zbcg {k a b:Nat} (h:k=a) (h':k=b) (hn:a ≠ b):False:=hn (h.symm.trans h')
def ptrB (b off:Nat):Value:=.pointer (some ⟨b,off,none⟩)
section
variable {P:Program} {N:Nat} {o:Oper} {uses outs:Zbm} {S:List Nat} {d:Nat} {q q2:Pd} {x y z:Operand} {α β γ δ ε σ:Type} {kV:Kd γ} {raw:α → σ → γ} {R R2:Hp σ} {dk:Kd β} {di:Kd δ} {t e j b off m:Nat} {xv:α}
def pSJ (kV:Kd γ) (raw:α → σ → γ) (R:Hp σ) (j b:Nat) (x:α):Pd:=pAt (.pointer (some ⟨b,0,none⟩)) (Zo7 (some b) kV raw R j x)
theorem sj_T {g:G} {v:Value} (h:(pSJ kV raw R j b xv).p g v):(pSJ kV raw hpT j b xv).p g v:=Zbez h
theorem Zts {g:G} {v:Value} (h:(pSJ kV raw R j b xv).p g v):∃ s cs t,Mine kV (j + 1) (raw xv s) g b cs t ∧ R.p g s:=by
 obtain ⟨s,⟨b',cs,t,_,hm,hc⟩,hR⟩:=h
 obtain rfl:=hc _ rfl
 exact ⟨s,cs,t,hm,hR⟩
theorem Zw1 {g:G} {v:Value} {s:σ} {cs:List Value} {t:TypeId} (hm:Mine kV (j + 1) (raw xv s) g b cs t) (hR:R.p g s):(pSJ kV raw R j b xv).p g v:=⟨s,⟨b,cs,t,rfl,hm,fun b' h=>Option.some.inj h⟩,hR⟩
abbrev PF (P:Program) (s i off:Nat):Prop:=(match P.underlying s with | some (.struct F)=>(F[i]?).bind fun f=>(P.info? f.type).map fun y=>(f.offset,y.size == 0) | _=>none)=some (off,false)
theorem Zcg {s i off2:Nat} (hF:PF P s i off2) (hop:o.op=.fieldAddr s x i) (hd:o.dst=some d) (hx:Opd uses x (pEq (ptrB b off))):OB P N o uses [(d,pEq (ptrB b (off + off2)))] [] :=
 Zck hd fun a g hh=>by
   have hv:a.eval x=.pointer (some ⟨b,off,none⟩):=hx a g hh
   unfold PF at hF
   cases hu:P.underlying s with
   | none=>rw [hu] at hF;cases hF
   | some u =>
     rw [hu] at hF
     cases u with
     | struct F =>
       obtain ⟨f,hi,h2⟩:=Option.bind_eq_some_iff.1 hF
       obtain ⟨y,hy,h3⟩:=Option.map_eq_some_iff.1 h2
       simp only [Prod.mk.injEq,beq_eq_false_iff_ne] at h3
       obtain ⟨h4,h5⟩:=h3
       subst h4
       have hs:(P.info? f.type).map (·.size)=some y.size:=by rw [hy];rfl
       exact ⟨ptrB b (off + f.offset),by simp [execOp,hop,hv,Instr.fieldAt,Instr.sureAddr,run_underlying hu,hi,Zmv hs h5,ptrB],rfl⟩
     | _=>cases hF
theorem Zga {u:δ} (hT:Ty P t di) (hk:∀ (g:G) (s:σ) (cs:List Value),kV.K g (raw xv s) cs → R.p g s → di.K g u (seg cs off di.sz)) (hop:o.op=.load t x) (hd:o.dst=some d) (hs:Opd uses (.tmp m) (pSJ kV raw R j b xv)) (hx:Opd uses x (pEq (ptrB b off))):OB P N o uses [(d,di.pd u)] [] :=
 Zck hd fun a g hh=>by
   obtain ⟨s,cs,t',hm,hR⟩:=Zts (hs a g hh)
   have hv:a.eval x=.pointer (some ⟨b,off,none⟩):=hx a g hh
   have hu:=hk g s cs hm.2.2.2.2.1 hR
   refine ⟨mkV di.ag (seg cs off di.sz),?_,_,hu,rfl⟩
   have:=Zjx (b:=b) (of:=off) hT hu (fun i u hu=>by
     refine Zn1 hm (off + i) u ?_
     simp only [seg,List.getElem?_take,List.getElem?_drop] at hu
     split at hu
     · exact hu
     · cases hu)
   simp [execOp,hop,hv,Instr.loadAt,Instr.sureAddr,this]
theorem Zv4 {raw:α → SlV → γ} (hT:Ty P t Kd.raw) (hk:∀ (g:G) (s:SlV) (cs:List Value),kV.K g (raw xv s) cs → Kd.raw.K g s (seg cs off 1)) (hop:o.op=.load t x) (hd:o.dst=some d) (hs:Opd uses (.tmp m) (pSJ kV raw (hpL q) j b xv)) (hx:Opd uses x (pEq (ptrB b off))):OB P N o uses [(d,q)] [] :=
 Zck hd fun a g hh=>by
   obtain ⟨s,cs,t',hm,hR⟩:=Zts (hs a g hh)
   have hv:a.eval x=.pointer (some ⟨b,off,none⟩):=hx a g hh
   have hu:=hk g s cs hm.2.2.2.2.1
   have:=Zjx (b:=b) (of:=off) hT hu (fun i u hu=>by
     refine Zn1 hm (off + i) u ?_
     simp only [seg,List.getElem?_take,List.getElem?_drop] at hu
     split at hu
     · exact hu
     · cases hu)
   have hl:seg cs off 1=[slv s]:=hu
   refine ⟨slv s,?_,hR⟩
   rw [hl] at this
   have this:(loadVar t ⟨b,off,none⟩).run P g.w=.ok (slv s) g.w:=this
   simp [execOp,hop,hv,Instr.loadAt,Instr.sureAddr,this]
theorem Zl4 {x' : α} {u' : δ} (hT : Ty P t di) (hop : o.op = .store t x z) (hd : o.dst = none) (hj : ∀ k ∈ R.fp, k ≠ j + 1) (hs : Opd uses (.tmp m) (pSJ kV raw R j b xv)) (hx : Opd uses x (pEq (ptrB b off))) (hz : Opd uses z (di.pd u'))
   (hw:∀ (g g':G) (cs:List Value) (s0:σ) (ys:List Value),kV.K g (raw xv s0) cs → R.p g' s0 → di.K g u' ys → ∃ s1,(off + ys.length ≤ cs.length ∧ kV.K g (raw x' s1) (Zba cs off ys)) ∧ R2.p g' s1):OB P N o uses [(m,pSJ kV raw R2 j b x')] [j + 1] :=
 Zqd hd fun a g hh=>by
   obtain ⟨s,cs,t',hm,hR⟩:=Zts (hs a g hh)
   have hv:a.eval x=.pointer (some ⟨b,off,none⟩):=hx a g hh
   obtain ⟨ys,hk,hwv⟩:=hz a g hh
   obtain ⟨s0,⟨hfit,_⟩,_⟩:=hw g g cs s ys hm.2.2.2.2.1 hR hk
   have hst:=Zh8 (off:=off) hT hm.2.2.2.1 hk (by simpa using hfit)
   have hstep:Step [j + 1] g (g.wr b (cs.toArray.toList.take off ++ ys ++ cs.toArray.toList.drop (off + ys.length)).toArray hm.1 hm.2.2.2.2.2 (fun _=>False) (j + 1)):=Znp hm.2.1 (.inr rfl) hm.2.2.2.2.2
   refine ⟨g.wr b (cs.toArray.toList.take off ++ ys ++ cs.toArray.toList.drop (off + ys.length)).toArray hm.1 hm.2.2.2.2.2 (fun _=>False) (j + 1),?_,hstep,?_⟩
   · simp [execOp,hop,hv,hwv,Instr.storeAt,Instr.sureAddr,hst,wr_w]
   · intro e he
     rw [List.mem_singleton.1 he]
     obtain ⟨s1,⟨h1,h2⟩,h3⟩:=hw _ _ cs s ys (kV.mono hstep.le hm.2.2.2.2.1) (R.st hstep (fun k hk hS=>hj k hk (List.mem_singleton.1 hS)) hR) (di.mono hstep.le hk)
     refine Zw1 (s:=s1) (cs:=Zba cs off ys) (t:=t') ⟨by rw [wr_w,Zea];exact hm.1,by simp [G.wr],fun b' hb' ho=>?_,?_,h2,fun o=>by simp [G.wr]⟩ h3
     · rw [wr_w,Zea] at hb'
       simp only [G.wr] at ho
       split at ho
       · assumption
       · exact hm.2.2.1 b' hb' ho
     · rw [wr_w]
       refine (setRow_heap _ _ _ _ _ _ hm.2.2.2.1).trans ?_
       simp [Zba]
theorem Z07 {raw : α → SlV → γ} {R : Hp SlV} {x' : α} (hT : Ty P t Kd.raw) (hop : o.op = .store t x z) (hd : o.dst = none) (hsl : ∀ g v, q.p g v → ∃ s2 : SlV, v = slv s2) (hj : ∀ k ∈ R.fp, k ≠ j + 1) (hq : ∀ k ∈ q.fp, k ≠ j + 1) (hs : Opd uses (.tmp m) (pSJ kV raw R j b xv)) (hx : Opd uses x (pEq (ptrB b off))) (hz : Opd uses z q)
   (hw:∀ (g:G) (cs:List Value) (s0 s1:SlV) (ys:List Value),kV.K g (raw xv s0) cs → Kd.raw.K g s1 ys → off + ys.length ≤ cs.length ∧ kV.K g (raw x' s1) (Zba cs off ys)):OB P N o uses [(m,pSJ kV raw (hpL q) j b x')] [j + 1] :=
 OB.at fun a g hh=>by
   have hq0:=hz a g hh
   obtain ⟨s2,hv2⟩:=hsl _ _ hq0
   let R':Hp SlV:=⟨fun g s=>R.p g s ∧ q.p g (slv s2),R.fp ++ q.fp,fun st hd h=>⟨R.st st (fun k hk=>hd k (List.mem_append_left _ hk)) h.1,q.st st (fun k hk=>hd k (List.mem_append_right _ hk)) h.2⟩⟩
   obtain ⟨s,cs,t',hm,hR⟩:=Zts (hs a g hh)
   refine ⟨(m,pSJ kV raw R' j b xv) :: uses,fun en he=>?_,?_⟩
   · rcases List.mem_cons.1 he with rfl | he
     · exact Zw1 (R:=R') hm ⟨hR,by rw [← hv2];exact hq0⟩
     · exact hh en he
   · intro a' g' K Q hN hdN hu' hK
     refine Zqd (outs:=[(m,pSJ kV raw (hpL q) j b x')]) (S:=[j + 1]) (o:=o) (uses:=uses ++ [(m,pSJ kV raw R' j b xv)]) hd (fun a2 g2 hh2=>?_) a' g' K Q hN hdN (fun en he=>?_) hK
     · have hh3:Zfk uses a2 g2:=fun en he=>hh2 en (List.mem_append_left _ he)
       have hst:=hh2 (m,pSJ kV raw R' j b xv) (by simp)
       obtain ⟨s3,cs3,t3,hm3,hR3,hq3⟩:=Zts hst
       have hv:a2.eval x=.pointer (some ⟨b,off,none⟩):=hx a2 g2 hh3
       have hz2:=hz a2 g2 hh3
       obtain ⟨s4,hv4⟩:=hsl _ _ hz2
       have hk:Kd.raw.K g2 s4 [slv s4]:=rfl
       obtain ⟨hfit,_⟩:=hw g2 cs3 s3 s4 [slv s4] hm3.2.2.2.2.1 hk
       have hst:=Zh8 (off:=off) hT hm3.2.2.2.1 hk (by simpa using hfit)
       have hstep:Step [j + 1] g2 (g2.wr b (cs3.toArray.toList.take off ++ [slv s4] ++ cs3.toArray.toList.drop (off + [slv s4].length)).toArray hm3.1 hm3.2.2.2.2.2 (fun _=>False) (j + 1)):=Znp hm3.2.1 (.inr rfl) hm3.2.2.2.2.2
       refine ⟨_,?_,hstep,?_⟩
       · have hmk:mkV Kd.raw.ag [slv s4]=slv s4:=rfl
         rw [hmk] at hst
         simp [execOp,hop,hv,hv4,Instr.storeAt,Instr.sureAddr,hst,wr_w]
       · intro e he
         rw [List.mem_singleton.1 he]
         obtain ⟨h1,h2⟩:=hw _ cs3 s3 s4 [slv s4] (kV.mono hstep.le hm3.2.2.2.2.1) hk
         refine Zw1 (s:=s4) (cs:=Zba cs3 off [slv s4]) (t:=t3) ⟨by rw [wr_w,Zea];exact hm3.1,by simp [G.wr],fun b' hb' ho=>?_,?_,h2,fun o=>by simp [G.wr]⟩ ?_
         · rw [wr_w,Zea] at hb'
           simp only [G.wr] at ho
           split at ho
           · assumption
           · exact hm3.2.2.1 b' hb' ho
         · rw [wr_w]
           refine (setRow_heap _ _ _ _ _ _ hm3.2.2.2.1).trans ?_
           simp [Zba]
         · have hz3:q.p g2 (slv s4):=by rw [← hv4];exact hz2
           exact q.st hstep (fun k hk hS=>hq k hk (List.mem_singleton.1 hS)) hz3
     · rcases List.mem_append.1 he with he | he
       · exact hu' en (List.mem_cons_of_mem _ he)
       · rw [List.mem_singleton.1 he];exact hu' _ (List.mem_cons_self ..)
theorem Zs2 {a:Act} {g:G} {L:Zbm} (h:St N ((0,Zo7 (some b) kV raw R j xv) :: L) a g):St N ((0,pEq (ptrB b 0)) :: (L ++ [(1002,pSJ kV raw R j b xv)])) a g:=⟨h.size,h.df,fun en he=>by
 have h0:=h.h (0,Zo7 (some b) kV raw R j xv) (List.mem_cons_self ..)
 obtain ⟨s,⟨b',cs,t,e1,hm,hc⟩,hR⟩:=h0
 obtain rfl:=hc _ rfl
 rcases List.mem_cons.1 he with rfl | he
 · exact e1
 · rcases List.mem_append.1 he with he | he
   · exact h.h en (List.mem_cons_of_mem _ he)
   · rw [List.mem_singleton.1 he];exact Zw1 hm hR⟩
theorem Z6k {a:Act} {g:G} {L:Zbm} {i s m:Nat} {c:Option Nat} (hi:L[i]?=some (s,Zo7 c kV raw R j xv)) (h:St N L a g):∃ b,St N (L.set i (s,pEq (ptrB b 0)) ++ [(m,pSJ kV raw R j b xv)]) a g:=by
 have h0:=h.h _ (List.mem_of_getElem? hi)
 obtain ⟨sv,⟨b,cs,t,e1,hm,hc⟩,hR⟩:=h0
 refine ⟨b,h.size,h.df,fun en he=>?_⟩
 rcases List.mem_append.1 he with he | he
 · rcases List.mem_or_eq_of_mem_set he with he | rfl
   · exact h.h en he
   · exact e1
 · rw [List.mem_singleton.1 he];exact Zw1 hm hR
theorem Zbao {s0:σ} (hR:∀ g,R.p g s0) (hop:o.op=.box t x) (hd:o.dst=some d) (hx:Opd uses x (kV.pd (raw xv s0))):OB P N o uses [(d,pBxS kV raw R j xv)] [j + 1] :=
 (Zkb hop hd hx).weak fun g a h en he=>by
   rw [List.mem_singleton.1 he]
   exact ⟨s0,h (d,pBox kV j (raw xv s0)) (List.mem_singleton.2 rfl),hR g⟩
theorem Zbfm {fn:Func} {Φ:Value → G → Prop} {r1 r2:ResultVar} {v1 v2:Value} {a:Act} {g:G} {L:Zbm} (hr:fn.results=#[r1,r2]) (h:St N L a g) (h1:Zhr P a g r1 v1) (h2:Zhr P a g r2 v2) (hq:Φ (.tuple #[v1,v2]) g):bodyPost P fn (FinP Φ) .ret a g.w :=
 ⟨h.df,_,by
   have h1':(Zjf a.tmps r1).run P g.w=.ok v1 g.w:=h1
   have h2':(Zjf a.tmps r2).run P g.w=.ok v2 g.w:=h2
   simp [Zlt,hr,h1',h2'],g,_,rfl,rfl,hq⟩
end
section
variable {P:Program} {N:Nat} {q:Pd} {α β γ:Type} {kV:Kd γ} {raw:α → SlV → γ} {lst:α → List β} {dk:Kd β} {e b:Nat} {k:ObR α}
theorem Z0x {fn:Func} {r:ResultVar} {v w:Value} {a:Act} {g g0:G} {L:Zbm} {x1:α} (hr:fn.results=#[r]) (h:St N L a g) (hb:Base g0 g) (h1:Zhr P a g r v) (hq:q.p g v) (hs:(pSJ kV raw (hpL (pRow dk e AUX (lst x1))) 0 b x1).p g w):bodyPost P fn (FinP (Z5p kV raw lst dk e b x1 g0 q)) .ret a g.w:=endP hr h h1 ⟨hb,hq,hs⟩
theorem Zwy {fn:Func} {r1 r2:ResultVar} {v1 v2 w:Value} {a:Act} {g g0:G} {L:Zbm} {x1:α} (hr:fn.results=#[r1,r2]) (h:St N L a g) (hb:Base g0 g) (h1:Zhr P a g r1 v1) (h2:Zhr P a g r2 v2) (hq:q.p g (.tuple #[v1,v2])) (hs:(pSJ kV raw (hpL (pRow dk e AUX (lst x1))) 0 b x1).p g w):bodyPost P fn (FinP (Z5p kV raw lst dk e b x1 g0 q)) .ret a g.w:=Zbfm hr h h1 h2 ⟨hb,hq,hs⟩
theorem Zbfa {fn:Func} {r:ResultVar} {v w:Value} {a:Act} {g g0:G} {L:Zbm} {x1:α} {j jl:Nat} (hr:fn.results=#[r]) (h:St N L a g) (hb:Base g0 g) (h1:Zhr P a g r v) (hq:(pEq (ptrB b 0)).p g v) (hj:j ≠ jl) (hs:(pSJ kV raw (hpL (pRow dk e jl (lst x1))) j b x1).p g w):bodyPost P fn (FinP (Z9i kV raw lst dk e x1 g0)) .ret a g.w:=endP hr h h1 ⟨hb,some b,j,jl,hj,by rw [show v=.pointer (some ⟨b,0,none⟩) from hq];exact hs⟩
theorem Zbfl {fn:Func} {r:ResultVar} {v w:Value} {a:Act} {g g0:G} {L:Zbm} {x1:α} (hr:fn.results=#[r]) (h:St N L a g) (hb:Base g0 g) (h1:Zhr P a g r v) (hq:q.p g v) (hs:(Zcc (some b) k 0 x1).p g w):bodyPost P fn (FinP (Z9y k x1 b g0 q)) .ret a g.w:=endP hr h h1 ⟨hb,hq,by
 obtain ⟨b',B,⟨e1,hc⟩,h2⟩:=hs
 obtain rfl:=hc _ rfl
 exact ⟨_,B,⟨rfl,hc⟩,h2⟩⟩
end
section
variable {P:Program} {N:Nat} {o:Oper} {uses outs:Zbm} {S:List Nat} {d:Nat} {x y z:Operand} {α β γ:Type} {kS:Kd α} {kV:Kd γ} {raw:α → SlV → γ} {lst:α → List β} {dk:Kd β} {t e j jl off:Nat} {xv:α}
def Z43 (kS:Kd α) (kV:Kd γ) (raw:α → SlV → γ):Prop:=∀ (g:G) (x:α) (cs:List Value),kS.K g x cs → ∃ s,kV.K g (raw x s) cs
def Z40 (kS:Kd α) (kV:Kd γ) (raw:α → SlV → γ) (lst:α → List β) (dk:Kd β):Prop:=∀ (g:G) (x:α) (s:SlV) (cs:List Value),kV.K g (raw x s) cs → dk.sl.V g (lst x) (slv s) → kS.K g x cs
theorem Zy7 {s pt zt : Nat} {zl : List β} (hO : Z43 kS kV raw) (hT : Ty P t Kd.raw) (hop : o.op = .store t (.tmp pt) (.tmp zt)) (hd : o.dst = none) (hj : jl ≠ j) (hs : Opd uses (.tmp s) (pBox kS j xv)) (hx : Opd uses (.tmp pt) (Zju kS j xv off dk.sl zl)) (hz : Opd uses (.tmp zt) (pArr dk e jl (lst xv)))
   (hw:∀ g cs s0 s1 ys,kV.K g (raw xv s0) cs → Kd.raw.K g s1 ys → off + ys.length ≤ cs.length ∧ kV.K g (raw xv s1) (Zba cs off ys)):OB P N o uses [(s,pBxO kV raw lst dk e j jl xv)] [j + 1] :=
 OB.at fun a g hh=>by
   obtain ⟨b,cs,t1,h1,⟨m1,m2,m3,m4,m5,m6⟩,h3⟩:=hs a g hh
   obtain ⟨b2,cs2,t2,h4,⟨n1,n2,n3,n4,n5,n6⟩,h5⟩:=hx a g hh
   obtain ⟨s0,k0⟩:=hO g xv cs m5
   obtain ⟨s2,k2⟩:=hO g xv cs2 n5
   have hraw:∃ s1:SlV,seg cs2 off 1=[slv s1]:=by
     obtain ⟨A,c,e1,_⟩:=h5
     exact ⟨(A,zl.length,c),e1⟩
   obtain ⟨s1,hs1⟩:=hraw
   refine ⟨[(s,pBxN kV raw j xv),(pt,pPX kV j off Kd.raw s1),(zt,pArr dk e jl (lst xv))],fun en he=>?_,?_⟩
   · rcases List.mem_cons.1 he with rfl | he
     · exact ⟨s0,b,cs,t1,h1,⟨m1,m2,m3,m4,k0,m6⟩,h3⟩
     · rcases List.mem_cons.1 he with rfl | he
       · exact ⟨raw xv s2,b2,cs2,t2,h4,⟨n1,n2,n3,n4,k2,n6⟩,hs1⟩
       · rw [List.mem_singleton.1 he];exact hz a g hh
   · exact Z6x (l0 := fun _ => True) (w0 := s1) hT hop hd hj .t0 (fun a' g' hu => by
       obtain ⟨w,hp⟩:=hu (pt,pPX kV j off Kd.raw s1) (by simp)
       exact ⟨w,s1,hp⟩) (.tl (.tl .t0)) hw
theorem Zvy (hS:Z40 kS kV raw lst dk) (hag:kV.ag=kS.ag) (hT:Ty P t kV) (hop:o.op=.load t x) (hd:o.dst=some d) (hx:Opd uses x (pBxO kV raw lst dk e j jl xv)):OB P N o uses [(d,kS.pd xv)] [jl + 1] :=
 Zis hd fun a g hh=>by
   obtain ⟨s,⟨b,cs,t',hv,hm,_⟩,harr⟩:=hx a g hh
   have hr:(execOp a.eval o).run P g.w=.ok (.value (mkV kV.ag cs)) g.w:=by simp [execOp,hop,hv,Instr.loadAt,Instr.sureAddr,Zjx hT hm.2.2.2.2.1 (fun i u hu=>by rw [Nat.zero_add];exact Zn1 hm i u hu)]
   rcases harr with ⟨h1,A,h2⟩ | ⟨b2,cap,cur,hv2,hO⟩
   · refine ⟨_,g,hr,.sub (.refl [] g) (fun _ h=>by cases h),cs,hS g xv s cs hm.2.2.2.2.1 ?_,by rw [hag]⟩
     rw [h1,h2]
     exact Kd.sl_V.2 ⟨A,0,rfl,Nat.le_refl _,by simp,.inl rfl⟩
   · have hst:=Zy2 hO.lt hO.own
     refine ⟨_,g.give b2 hO.lt,hr,hst,cs,hS _ xv s cs (kV.mono hst.le hm.2.2.2.2.1) ?_,by rw [hag]⟩
     rw [hv2];exact Z74 hO
end
end Go.CL
