/- A part of the proof of ShareSome. -/
import Derived.Test.YtbiobpmabomjfaaDoorShareSomeC1
import Derived.Laws.CopyRow
import Derived.Laws.Externs
import GoSem.Extern.SlicesOverlaps
import Derived.MapKept
set_option linter.unusedVariables false
set_option linter.unusedSimpArgs false
set_option maxRecDepth 100000
namespace Go.CL
open Go Go.RowKit
section
variable {P:Program} {N:Nat} {o:Oper} {uses:Z4} {d:Nat} {q:Pd} {x y z:Operand} {α:Type} {dk:Kd α} {t e:TypeId} {bytes j:Nat} {c:Option Nat}
structure OwnAt (dk:Kd α) (e:TypeId) (j:Nat) (fs:List (Option α)) (g:G) (b cap:Nat) (cur:Array Value):Prop where
 lt:b < g.w.heap.size
 own:g.own b=j
 uniq:∀ b',b' < g.w.heap.size → g.own b'=j → b'=b
 heap:g.w.heap[b]?=some (.cells cur e (0,0))
 len:fs.length ≤ cap
 max:cap ≤ maxLen
 sz:cur.size=cap * dk.sz
 known:∀ i x,fs[i]?=some (some x) → dk.K g x (seg cur.toList (i * dk.sz) dk.sz)
 npr:∀ o,¬ g.pr b o
theorem Z1g {g g':G} {S:List Nat} {b:Nat} (hs:Step S g g') (hj:j ∉ S) (hj0:j ≠ 0) (h:∀ b',b' < g.w.heap.size → g.own b'=j → b'=b):∀ b',b' < g'.w.heap.size → g'.own b'=j → b'=b:=fun b' hb' ho=>by
 rcases Nat.lt_or_ge b' g.w.heap.size with hlt | hge
 · by_cases hS:g.own b' ∈ S
   · rcases hs.old b' hlt hS with h | h
     · rw [ho] at h;exact absurd h hj0
     · rw [ho] at h;exact absurd h hj
   · exact h b' hlt ((hs.same b' hlt hS).2.2.symm.trans ho)
 · rcases hs.new b' hge hb' with h | h
   · rw [ho] at h;exact absurd h hj0
   · rw [ho] at h;exact absurd h hj
theorem OwnAt.st {fs:List (Option α)} {g g':G} {S:List Nat} {b cap:Nat} {cur:Array Value} (hs:Step S g g') (hj:j ∉ S) (hj0:j ≠ 0) (h:OwnAt dk e j fs g b cap cur):OwnAt dk e j fs g' b cap cur:=by
 obtain ⟨k1,k2,k3⟩:=hs.same b h.lt (by rw [h.own];exact hj)
 exact ⟨Nat.lt_of_lt_of_le h.lt hs.le.size,k3.trans h.own,Z1g hs hj hj0 h.uniq,k1.trans h.heap,h.len,h.max,h.sz,fun i x hx=>dk.mono hs.le (h.known i x hx),fun o=>by rw [k2];exact h.npr o⟩
def pOwn (dk:Kd α) (e:TypeId) (j:Nat) (c:Option Nat) (fs:List (Option α)):Pd:=⟨fun g u=>∃ b cap cur,u=.slice (some ⟨b,0,none⟩) fs.length cap ∧ OwnAt dk e (j + 1) fs g b cap cur ∧ ∀ k,c=some k → cap=k,[j + 1],fun s hd ⟨b,cap,cur,e,h,hc⟩=>⟨b,cap,cur,e,h.st s (hd _ (by simp)) (by omega),hc⟩⟩
def Zke (dk:Kd α) (e:TypeId) (j off len:Nat):Pd:=⟨fun g u=>∃ b cap cur,u=.slice (some (if cap=off then ⟨b,0,none⟩ else ⟨b,off * dk.sz,none⟩)) len (cap - off) ∧ OwnAt dk e (j + 1) [] g b cap cur ∧ off + len ≤ cap,[j + 1],fun s hd ⟨b,cap,cur,e,h,hc⟩=>⟨b,cap,cur,e,h.st s (hd _ (by simp)) (by omega),hc⟩⟩
theorem OwnAt.nil {fs:List (Option α)} {g:G} {b cap:Nat} {cur:Array Value} (h:OwnAt dk e j fs g b cap cur):OwnAt dk e j [] g b cap cur:=⟨h.lt,h.own,h.uniq,h.heap,Nat.zero_le _,h.max,h.sz,fun i x hx=>by simp at hx,h.npr⟩
theorem OwnAt.same {fs:List (Option α)} {fs':List (Option α)} {g:G} {b b' cap cap':Nat} {cur cur':Array Value} (h:OwnAt dk e j fs g b cap cur) (k:OwnAt dk e j fs' g b' cap' cur') (h0:0 < dk.sz):b'=b ∧ cur'=cur ∧ cap'=cap:=by
 obtain rfl:=h.uniq b' k.lt k.own
 have:=k.heap
 rw [h.heap] at this
 injection this with this
 injection this with this
 subst this
 exact ⟨rfl,rfl,Nat.eq_of_mul_eq_mul_right h0 (k.sz.symm.trans h.sz)⟩
theorem Zpr {fs:List (Option α)} {t:TypeId} (ht:P.underlying t=some (.slice e)) (hop:o.op=.call { callee:=.builtin .len,args:=#[x],argTypes:=#[t] }) (hd:o.dst=some d) (hx:Opd uses x (pOwn dk e j c fs)):OB P N o uses [(d,pInt .i64 (fs.length:Int))] [] :=
 Zb1 hd fun a g hh=>by
   obtain ⟨b,cap,cur,hv,_⟩:=hx a g hh
   exact ⟨.int .i64 fs.length,by simp [execOp,hop,resolve,invoke,builtin,hv,Builtin.len_,run_underlying ht,goInt],Ze3 _ _ g⟩
theorem Z5c {fs:List (Option α)} {t:TypeId} {k:Nat} (ht:P.underlying t=some (.slice e)) (hop:o.op=.call { callee:=.builtin .cap,args:=#[x],argTypes:=#[t] }) (hd:o.dst=some d) (hx:Opd uses x (pOwn dk e j (some k) fs)):OB P N o uses [(d,pInt .i64 (k:Int))] [] :=
 Zb1 hd fun a g hh=>by
   obtain ⟨b,cap,cur,hv,_,hc⟩:=hx a g hh
   obtain rfl:=hc k rfl
   exact ⟨.int .i64 cap,by simp [execOp,hop,resolve,invoke,builtin,hv,Builtin.cap_,run_underlying ht,goInt],Ze3 _ _ g⟩
theorem Zhb {x:Value} {i n:Nat} {cd:BoundsCode} {w:World} (hx:x=.int .i64 i) (h:i ≤ n):(Instr.sliceBound x n cd).run P w=.ok i w:=by
 subst hx
 simp [Instr.sliceBound,asIntOf,h]
theorem Zfv {fs:List (Option α)} {l:Nat} (hT:TE P t e dk bytes) (hl:l ≤ fs.length) (hop:o.op=.slice t x (some y) none none) (hd:o.dst=some d) (hx:Opd uses x (pOwn dk e j c fs)) (hy:Opd uses y (pInt .i64 (l:Int))):OB P N o uses [(d,Zke dk e j l (fs.length - l))] [] :=
 Zb1 hd fun a g hh=>by
   obtain ⟨b,cap,cur,hv,hO,hc⟩:=hx a g hh
   have hy':=Zb3.1 (hy a g hh)
   obtain ⟨i,zz,hi,hz,hsz,hby,hzs⟩:=hT.info
   have hb:∀ w cd,(Instr.sliceBound (a.eval y) fs.length cd).run P w=.ok l w:=fun w cd=>Zhb hy' hl
   have hlen:=hO.len
   refine ⟨_,?_,b,cap,cur,rfl,hO.nil,by omega⟩
   simp [execOp,hop,hv,Instr.sliceAt,Instr.slice,Instr.sliceBounds,run_underlying hT.und,hb,sizeOf,typeInfo,hi,hsz,Zcu]
   try (split <;> simp_all [Zcu])
theorem Zpa {fs:List (Option α)} {h:Nat} (hT:TE P t e dk bytes) (hl:h ≤ fs.length) (hop:o.op=.slice t x none (some y) none) (hd:o.dst=some d) (hx:Opd uses x (pOwn dk e j c fs)) (hy:Opd uses y (pInt .i64 (h:Int))):OB P N o uses [(d,Zke dk e j 0 h)] [] :=
 Zb1 hd fun a g hh=>by
   obtain ⟨b,cap,cur,hv,hO,hc⟩:=hx a g hh
   have hy':=Zb3.1 (hy a g hh)
   obtain ⟨i,zz,hi,hz,hsz,hby,hzs⟩:=hT.info
   have hlen:=hO.len
   have hb:∀ w cd,(Instr.sliceBound (a.eval y) cap cd).run P w=.ok h w:=fun w cd=>Zhb hy' (by omega)
   refine ⟨_,?_,b,cap,cur,rfl,hO.nil,by omega⟩
   simp [execOp,hop,hv,Instr.sliceAt,Instr.slice,Instr.sliceBounds,run_underlying hT.und,hb,sizeOf,typeInfo,hi,hsz,Zcu]
   try (split <;> simp_all [Zcu])
theorem Zwj {fs:List (Option α)} {h k:Nat} (hT:TE P t e dk bytes) (hl:fs.length ≤ h) (hk:h ≤ k) (hop:o.op=.slice t x none (some y) none) (hd:o.dst=some d) (hx:Opd uses x (pOwn dk e j (some k) fs)) (hy:Opd uses y (pInt .i64 (h:Int))):OB P N o uses [(d,pOwn dk e j (some k) (fs ++ List.replicate (h - fs.length) none))] [] :=
 Zb1 hd fun a g hh=>by
   obtain ⟨b,cap,cur,hv,hO,hc⟩:=hx a g hh
   obtain rfl:=hc k rfl
   have hy':=Zb3.1 (hy a g hh)
   obtain ⟨i,zz,hi,hz,hsz,hby,hzs⟩:=hT.info
   have hb:∀ w cd,(Instr.sliceBound (a.eval y) cap cd).run P w=.ok h w:=fun w cd=>Zhb hy' hk
   have hlen:(fs ++ List.replicate (h - fs.length) none).length=h:=by simp;omega
   refine ⟨_,?_,b,cap,cur,rfl,⟨hO.lt,hO.own,hO.uniq,hO.heap,by rw [hlen];exact hk,hO.max,hO.sz,fun i x hx=>?_,hO.npr⟩,hc⟩
   · rw [hlen]
     simp [execOp,hop,hv,Instr.sliceAt,Instr.slice,Instr.sliceBounds,run_underlying hT.und,hb,sizeOf,typeInfo,hi,hsz,Zcu]
     try (split <;> simp_all [Zcu])
   · rw [List.getElem?_append] at hx
     split at hx
     · exact hO.known i x hx
     · rw [List.getElem?_replicate] at hx
       split at hx <;> simp at hx
theorem Zy3 {fs:List (Option α)} {l h m:Nat} {y1 y2 y3:Operand} (hT:TE P t e dk bytes) (h1:l ≤ h) (h2:h ≤ m) (h3:m ≤ fs.length) (hop:o.op=.slice t x (some y1) (some y2) (some y3)) (hx:Opd uses x (pOwn dk e j c fs)) (hy1:Opd uses y1 (pInt .i64 (l:Int))) (hy2:Opd uses y2 (pInt .i64 (h:Int))) (hy3:Opd uses y3 (pInt .i64 (m:Int))):OB P N o uses [] []:=by
 intro a g K Q hN hdN hu hK
 obtain ⟨b,cap,cur,hv,hO,hc⟩:=hx a g hu
 obtain ⟨i,zz,hi,hz,hsz,hby,hzs⟩:=hT.info
 have hlen:=hO.len
 have hb1:∀ w cd,(Instr.sliceBound (a.eval y1) h cd).run P w=.ok l w:=fun w cd=>Zhb (Zb3.1 (hy1 a g hu)) h1
 have hb2:∀ w cd,(Instr.sliceBound (a.eval y2) m cd).run P w=.ok h w:=fun w cd=>Zhb (Zb3.1 (hy2 a g hu)) h2
 have hb3:∀ w cd,(Instr.sliceBound (a.eval y3) cap cd).run P w=.ok m w:=fun w cd=>Zhb (Zb3.1 (hy3 a g hu)) (by omega)
 have hr:∃ v,(execOp a.eval o).run P g.w=.ok (.value v) g.w:=by
   simp [execOp,hop,hv,Instr.sliceAt,Instr.slice,Instr.sliceBounds,run_underlying hT.und,hb1,hb2,hb3,sizeOf,typeInfo,hi]
 obtain ⟨v,hr⟩:=hr
 unfold Oper.wp
 rw [hr]
 exact hK v g (.refl _ _) (fun e he=>by cases he)
theorem Zyv {fs:List (Option α)} {l h k:Nat} {y1 y2:Operand} (hT:TE P t e dk bytes) (h1:l ≤ h) (h2:h ≤ k) (hop:o.op=.slice t x (some y1) (some y2) none) (hd:o.dst=some d) (hx:Opd uses x (pOwn dk e j (some k) fs)) (hy1:Opd uses y1 (pInt .i64 (l:Int))) (hy2:Opd uses y2 (pInt .i64 (h:Int))):OB P N o uses [(d,Zke dk e j l (h - l))] [] :=
 Zb1 hd fun a g hh=>by
   obtain ⟨b,cap,cur,hv,hO,hc⟩:=hx a g hh
   obtain rfl:=hc k rfl
   obtain ⟨i,zz,hi,hz,hsz,hby,hzs⟩:=hT.info
   have hb1:∀ w cd,(Instr.sliceBound (a.eval y1) h cd).run P w=.ok l w:=fun w cd=>Zhb (Zb3.1 (hy1 a g hh)) h1
   have hb2:∀ w cd,(Instr.sliceBound (a.eval y2) cap cd).run P w=.ok h w:=fun w cd=>Zhb (Zb3.1 (hy2 a g hh)) h2
   refine ⟨_,?_,b,cap,cur,rfl,hO.nil,by omega⟩
   simp [execOp,hop,hv,Instr.sliceAt,Instr.slice,Instr.sliceBounds,run_underlying hT.und,hb1,hb2,sizeOf,typeInfo,hi,hsz,Zcu]
   try (split <;> simp_all [Zcu])
theorem Zhg {i n sz:Nat} (h:i < n):i * sz + sz ≤ n * sz:=by
 have:(i + 1) * sz ≤ n * sz:=Nat.mul_le_mul_right _ h
 rw [Nat.add_mul] at this;omega
def over (fs:List (Option α)) (off:Nat) (ws:List α):List (Option α):=fs.take off ++ ws.map some ++ fs.drop (off + ws.length)
theorem Zj3 {fs:List (Option α)} {off:Nat} {ws:List α} (h:off + ws.length ≤ fs.length):(over fs off ws).length=fs.length:=by simp [over];omega
theorem Zi1 {fs:List (Option α)} {off:Nat} {ws:List α} (h:off + ws.length ≤ fs.length) (i:Nat):(over fs off ws)[i]?=if i < off then fs[i]? else if i < off + ws.length then (ws[i - off]?).map some else fs[i]?:=by
 unfold over
 rw [List.append_assoc,List.getElem?_append]
 have h1:(fs.take off).length=off:=by simp;omega
 rw [h1]
 by_cases hi:i < off
 · rw [if_pos hi,if_pos hi,List.getElem?_take,if_pos hi]
 · rw [if_neg hi,if_neg hi,List.getElem?_append,List.length_map]
   by_cases h2:i < off + ws.length
   · rw [if_pos h2,if_pos (by omega),List.getElem?_map]
   · rw [if_neg h2,if_neg (by omega),List.getElem?_drop]
     congr 1;omega
theorem Zxw {g g' : G} (hle : g.le g') {fs : List (Option α)} {off cap : Nat} {ws : List α} {cur news : List Value} (hl : news.length = ws.length * dk.sz) (hc : cur.length = cap * dk.sz) (hfit : off + ws.length ≤ fs.length) (hcap : fs.length ≤ cap)
   (hk:∀ i x,fs[i]?=some (some x) → dk.K g x (seg cur (i * dk.sz) dk.sz)) (hn:∀ i x,ws[i]?=some x → dk.K g x (seg news (i * dk.sz) dk.sz)) :
   ∀ i x,(over fs off ws)[i]?=some (some x) → dk.K g' x (seg (Zz cur (off * dk.sz) news) (i * dk.sz) dk.sz):=by
 intro i x hx
 have hfit':off * dk.sz + news.length ≤ cur.length:=by rw [hl,hc,← Nat.add_mul];exact Nat.mul_le_mul_right _ (by omega)
 rw [Zi1 hfit] at hx
 split at hx
 · rename_i h1
   rw [Zy hfit' (.inl (Zhg h1))]
   exact dk.mono hle (hk i x hx)
 · rename_i h1
   split at hx
   · rename_i h2
     obtain ⟨y,hy,hxy⟩:=Option.map_eq_some_iff.1 hx
     obtain rfl:=Option.some.inj hxy
     have e:seg (Zz cur (off * dk.sz) news) (i * dk.sz) dk.sz=seg news ((i - off) * dk.sz) dk.sz:=by
       have hto:(cur.take (off * dk.sz)).length=off * dk.sz:=by simp;omega
       unfold Zz
       rw [List.append_assoc,show i * dk.sz=(cur.take (off * dk.sz)).length + (i - off) * dk.sz by rw [hto,← Nat.add_mul];congr 1;omega,Zfs,Zd0 (by rw [hl];exact Zhg (by omega))]
     rw [e];exact dk.mono hle (hn _ _ hy)
   · rename_i h2
     rw [Zy hfit' (.inr (by rw [hl,← Nat.add_mul];exact Nat.mul_le_mul_right _ (by omega)))]
     exact dk.mono hle (hk i x hx)
theorem Zoq {fs : List (Option α)} {g : G} {b cap : Nat} {cur : Array Value} (h : OwnAt dk e j fs g b cap cur) {off : Nat} {ws : List α} {news : List Value} (hl : news.length = ws.length * dk.sz) (hfit : off + ws.length ≤ fs.length) (hn : ∀ i x, ws[i]? = some x → dk.K g x (seg news (i * dk.sz) dk.sz)) :
   ∃ g':G,g'.w=g.w.setRow b (Zz cur.toList (off * dk.sz) news).toArray ∧ Step [j] g g' ∧ OwnAt dk e j (over fs off ws) g' b cap (Zz cur.toList (off * dk.sz) news).toArray:=by
 have hst:Step [j] g (g.wr b (Zz cur.toList (off * dk.sz) news).toArray h.lt h.npr (fun _=>False) j):=Zlo h.own (.inr rfl) h.npr
 have hcl:cur.toList.length=cap * dk.sz:=by simpa using h.sz
 have hlen:=h.len
 refine ⟨_,rfl,hst,⟨by rw [wr_w,Zea];exact h.lt,by simp [G.wr],fun b' hb' ho=>?_,by rw [wr_w];exact setRow_heap _ _ _ _ _ _ h.heap,by rw [Zj3 hfit];exact h.len,h.max,?_,?_,fun o=>by simp [G.wr]⟩⟩
 · rw [wr_w,Zea] at hb'
   simp only [G.wr] at ho
   split at ho
   · assumption
   · exact h.uniq b' hb' ho
 · rw [List.size_toArray,Zc9 (by rw [hl,hcl,← Nat.add_mul];exact Nat.mul_le_mul_right _ (by omega))];exact hcl
 · exact Zxw hst.le hl hcl hfit h.len h.known hn
theorem Zos {g : G} {b off len cap : Nat} {fs : List (Option α)} {cur : Array Value} (hT : TE P t e dk bytes) (h : OwnAt dk e j fs g b cap cur) (hoff : off + len ≤ fs.length) {A : Option Addr} {n c2 : Nat} {ws : List α} {news : List Value} (hn : ws.length = Nat.min n len) (hA : ws = [] ∨ ∃ b2 o2, A = some ⟨b2, o2, none⟩ ∧ ∀ k u, news[k]? = some u → g.w.cell? ⟨b2, o2 + k, none⟩ = some u) (hl : news.length = ws.length * dk.sz) (hone : ∀ u ∈ news, u.oneCell' = true) (ty : TypeId) :
   (Builtin.copy_ #[t,t] ty #[.slice (some (if cap=off then ⟨b,0,none⟩ else ⟨b,off * dk.sz,none⟩)) len (cap - off),.slice A n c2]).run P g.w=.ok (.int .i64 (ws.length:Int)) (g.w.setRow b (Zz cur.toList (off * dk.sz) news).toArray):=by
 obtain ⟨i,zz,hi,hz,hsz,hby,hzs⟩:=hT.info
 have hcl:cur.toList.length=cap * dk.sz:=by simpa using h.sz
 have hlen:=h.len
 rcases hA with rfl | ⟨b2,o2,rfl,hcell⟩
 · have hn0:news=[]:=List.eq_nil_of_length_eq_zero (by simpa using hl)
   subst hn0
   have hs:(Zz cur.toList (off * dk.sz) []).toArray=cur:=by simp [Zz]
   have hself:g.w.setRow b cur=g.w:=setRow_self g.w b cur e (0,0) h.heap
   rw [hs,hself]
   have hm:Nat.min n len=0:=by simpa using hn.symm
   cases A <;> simp [Builtin.copy_,run_underlying hT.und,Builtin.lenOf,Builtin.firstCells,sizeOf,typeInfo,hi,hm,loadCells,loadCellsFrom,storeCells,goInt]
 · have hld:=run_loadCells_list (P:=P) g.w ⟨b2,o2,none⟩ news (fun k u hu=>by rw [Zcu];exact hcell k u hu)
   rw [hl,hn] at hld
   by_cases he:cap=off
   · have hlen0:len=0:=by omega
     have hw0:ws=[]:=List.eq_nil_of_length_eq_zero (by rw [hn,hlen0];simp)
     subst hw0
     have hn0:news=[]:=List.eq_nil_of_length_eq_zero (by simpa using hl)
     subst hn0
     have hs:(Zz cur.toList (off * dk.sz) []).toArray=cur:=by simp [Zz]
     have hself:g.w.setRow b cur=g.w:=setRow_self g.w b cur e (0,0) h.heap
     rw [hs,hself]
     have hm:Nat.min n len=0:=by simpa using hn.symm
     simp [Builtin.copy_,run_underlying hT.und,Builtin.lenOf,Builtin.firstCells,sizeOf,typeInfo,hi,hm,loadCells,loadCellsFrom,storeCells,goInt]
   · rw [if_neg he]
     have hst:=run_storeCells_at P b (off * dk.sz) e news 0 cur g.w h.heap (by rw [hl,Nat.add_zero,← Nat.add_mul];rw [h.sz];exact Nat.mul_le_mul_right _ (by rw [hn];have:Nat.min n len ≤ len:=Nat.min_le_right n len;omega)) hone
     rw [Nat.add_zero] at hst
     simp only [Builtin.copy_,run_underlying hT.und,Builtin.lenOf,Builtin.firstCells,sizeOf,typeInfo,Sem.run_bind,run_program,Result.andThen_ok,hi,Sem.run_pure,hsz,List.getElem?_toArray,List.getElem?_cons_zero,List.getElem?_cons_succ,hld,goInt,hn]
     rw [hst]
     rfl
theorem Zvy {fs : List (Option α)} {off len s : Nat} {vs : List α} (hT : TE P t e dk bytes) (hfit : off + len ≤ fs.length) (hv : vs.length ≤ len) (hop : o.op = .call { callee := .builtin .copy, args := #[x, y], argTypes := #[t, t] }) (hd : o.dst = some d) (hsd : s ≠ d)
   (hx:Opd uses x (Zke dk e j off len)) (hy:Opd uses y (dk.sl.pd vs)) (hs:Opd uses (.tmp s) (pOwn dk e j c fs)):OB P N o uses [(d,pInt .i64 (vs.length:Int)),(s,pOwn dk e j c (over fs off vs))] [j + 1]:=by
 intro a g K Q hN hdN hu hK
 obtain ⟨b,cap,cur,hxv,hO1,_⟩:=hx a g hu
 obtain ⟨b',cap',cur',hsv,hO,hc⟩:=hs a g hu
 obtain ⟨rfl,rfl,rfl⟩:=hO.same hO1 hT.sz
 obtain ⟨A,c2,hy1,hy2,hy3,hyr⟩:=Zmd (hy a g hu)
 obtain ⟨news,hl,hcl,hk⟩:∃ news:List Value,news.length=vs.length * dk.sz ∧ (vs=[] ∨ ∃ b2 o2,A=some ⟨b2,o2,none⟩ ∧ ∀ k u,news[k]?=some u → g.w.cell? ⟨b2,o2 + k,none⟩=some u) ∧ ∀ i x,vs[i]?=some x → dk.K g x (seg news (i * dk.sz) dk.sz):=by
   rcases hyr with rfl | ⟨b2,o2,news,rfl,h1,h2,h3⟩
   · exact ⟨[],by simp,.inl rfl,fun i x hx=>by simp at hx⟩
   · exact ⟨news,h1,.inr ⟨b2,o2,rfl,fun k u hu=>(h2 k u hu).2⟩,h3⟩
 obtain ⟨g',hw,hst,hO'⟩:=Zoq hO (off:=off) hl (by omega) hk
 have hr:=Zos hT hO (off:=off) (len:=len) hfit (A:=A) (n:=vs.length) (c2:=c2) (ws:=vs) (by simp [Nat.min_eq_left hv]) hcl hl (Zk9 hl hk hT.sz) o.type
 have hr':(execOp a.eval o).run P g.w=.ok (.value (.int .i64 (vs.length:Int))) g'.w:=by
   simp [execOp,hop,resolve,invoke,builtin,hxv,hy1,hr,hw]
 unfold Oper.wp
 rw [hr']
 refine hK _ g' hst fun e he=>?_
 simp only [List.mem_cons,List.not_mem_nil,or_false] at he
 rcases he with rfl | rfl
 · rw [hd,Zdp _ (by rw [hN];exact hdN d hd)];exact Ze3 _ _ g'
 · rw [Zha _ (by rw [hd];intro h;exact hsd (Option.some.inj h).symm)]
   exact ⟨b,cap,_,by rw [Zj3 (by omega)];exact hsv,hO',hc⟩
theorem Zvm {fs fs2 : List (Option α)} {off len off2 len2 s s2 j2 : Nat} {c2 : Option Nat} {ws : List α} (hT : TE P t e dk bytes) (hfit : off + len ≤ fs.length) (hfit2 : off2 + len2 ≤ fs2.length) (hw : ws.length = Nat.min len2 len) (hws : ∀ i x, ws[i]? = some x → fs2[off2 + i]? = some (some x))
   (hop:o.op=.call { callee:=.builtin .copy,args:=#[x,y],argTypes:=#[t,t] }) (hd:o.dst=some d) (hsd:s ≠ d) (hx:Opd uses x (Zke dk e j off len)) (hy:Opd uses y (Zke dk e j2 off2 len2)) (hs:Opd uses (.tmp s) (pOwn dk e j c fs)) (hs2:Opd uses (.tmp s2) (pOwn dk e j2 c2 fs2)) :
   OB P N o uses [(d,pInt .i64 (ws.length:Int)),(s,pOwn dk e j c (over fs off ws))] [j + 1]:=by
 intro a g K Q hN hdN hu hK
 obtain ⟨b,cap,cur,hxv,hO1,_⟩:=hx a g hu
 obtain ⟨b',cap',cur',hsv,hO,hc⟩:=hs a g hu
 obtain ⟨rfl,rfl,rfl⟩:=hO.same hO1 hT.sz
 obtain ⟨b3,cap3,cur3,hyv,hO3,hcap3⟩:=hy a g hu
 obtain ⟨b2,cap2,cur2,hsv2,hO2,hc2⟩:=hs2 a g hu
 obtain ⟨rfl,rfl,rfl⟩:=hO2.same hO3 hT.sz
 have hwl2:ws.length ≤ len2:=by rw [hw];exact Nat.min_le_left _ _
 have hwl:ws.length ≤ len:=by rw [hw];exact Nat.min_le_right _ _
 have hl2:=hO2.len
 have hcl2:cur3.toList.length=cap3 * dk.sz:=by simpa using hO2.sz
 let news:=seg cur3.toList (off2 * dk.sz) (ws.length * dk.sz)
 have hnl:news.length=ws.length * dk.sz:=by
   show ((cur3.toList.drop (off2 * dk.sz)).take (ws.length * dk.sz)).length=_
   rw [List.length_take,List.length_drop,hcl2]
   have:(off2 + ws.length) * dk.sz ≤ cap3 * dk.sz:=Nat.mul_le_mul_right _ (by omega)
   rw [Nat.add_mul] at this;omega
 have hk:∀ i x,ws[i]?=some x → dk.K g x (seg news (i * dk.sz) dk.sz):=fun i x hx=>by
   have hi:=(List.getElem?_eq_some_iff.1 hx).1
   have h1:=hO2.known _ _ (hws i x hx)
   have e:seg news (i * dk.sz) dk.sz=seg cur3.toList ((off2 + i) * dk.sz) dk.sz:=by
     show (((cur3.toList.drop (off2 * dk.sz)).take (ws.length * dk.sz)).drop (i * dk.sz)).take dk.sz=_
     have:=Zhg (sz:=dk.sz) hi
     rw [List.drop_take,List.take_take,List.drop_drop,Nat.min_eq_left (by omega),Nat.add_mul];rfl
   rw [e];exact h1
 obtain ⟨g',hgw,hst,hO'⟩:=Zoq hO (off:=off) hnl (by omega) hk
 have hcell:∀ k u,news[k]?=some u → g.w.cell? ⟨b3,off2 * dk.sz + k,none⟩=some u:=fun k u hu=>by
   simp only [World.cell?,hO2.heap]
   have hu':((cur3.toList.drop (off2 * dk.sz)).take (ws.length * dk.sz))[k]?=some u:=hu
   rw [List.getElem?_take] at hu'
   split at hu'
   · rw [List.getElem?_drop] at hu'
     simpa using hu'
   · cases hu'
 have hr:=Zos hT hO (off:=off) (len:=len) hfit (A:=some (if cap3=off2 then ⟨b3,0,none⟩ else ⟨b3,off2 * dk.sz,none⟩)) (n:=len2) (c2:=cap3 - off2) (ws:=ws) (news:=news) hw (by
   by_cases he:cap3=off2
   · left;apply List.eq_nil_of_length_eq_zero;omega
   · right;exact ⟨b3,off2 * dk.sz,by rw [if_neg he],hcell⟩) hnl (Zk9 hnl hk hT.sz) o.type
 have hr':(execOp a.eval o).run P g.w=.ok (.value (.int .i64 (ws.length:Int))) g'.w:=by
   simp only [execOp,hop,resolve,invoke,builtin,Sem.run_bind,Sem.run_pure,Result.andThen_ok,List.map_toArray,List.map_cons,List.map_nil,hxv,hyv,hr,hgw]
 unfold Oper.wp
 rw [hr']
 refine hK _ g' hst fun e he=>?_
 simp only [List.mem_cons,List.not_mem_nil,or_false] at he
 rcases he with rfl | rfl
 · rw [hd,Zdp _ (by rw [hN];exact hdN d hd)];exact Ze3 _ _ g'
 · rw [Zha _ (by rw [hd];intro h;exact hsd (Option.some.inj h).symm)]
   exact ⟨b,cap,_,by rw [Zj3 (by omega)];exact hsv,hO',hc⟩
end
section
variable {P:Program} {N:Nat} {o:Oper} {uses:Z4} {d:Nat} {q:Pd} {x y z:Operand} {α:Type} {dk:Kd α} {t e:TypeId} {bytes j:Nat} {c:Option Nat}
theorem OwnAt.ext {fs:List (Option α)} {g:G} {b cap h:Nat} {cur:Array Value} (hO:OwnAt dk e j fs g b cap cur) (h1:fs.length ≤ h) (h2:h ≤ cap):OwnAt dk e j (fs ++ List.replicate (h - fs.length) none) g b cap cur :=
 ⟨hO.lt,hO.own,hO.uniq,hO.heap,by simp;omega,hO.max,hO.sz,fun i x hx=>by
   rw [List.getElem?_append] at hx
   split at hx
   · exact hO.known i x hx
   · rw [List.getElem?_replicate] at hx
     split at hx <;> simp at hx,hO.npr⟩
theorem OwnAt.sub {fs fs':List (Option α)} {g:G} {b cap:Nat} {cur:Array Value} (hO:OwnAt dk e j fs g b cap cur) (hl:fs'.length ≤ cap) (hk:∀ (i:Nat) (x:α),fs'[i]?=some (some x) → fs[i]?=some (some x)):OwnAt dk e j fs' g b cap cur :=
 ⟨hO.lt,hO.own,hO.uniq,hO.heap,hl,hO.max,hO.sz,fun i x hx=>hO.known i x (hk i x hx),hO.npr⟩
theorem Zjm (z:Array Value) (n:Nat):(Builtin.zeroCells z n).size=n * z.size:=by simp [Builtin.zeroCells]
theorem Zqq {g : G} {cur : Array Value} {cap : Nat} {fs : List (Option α)} (hj : j ≠ 0) (hl : fs.length ≤ cap) (hm : cap ≤ maxLen) (hs : cur.size = cap * dk.sz) (hk : ∀ (i : Nat) (x : α), fs[i]? = some (some x) → dk.K g x (seg cur.toList (i * dk.sz) dk.sz)) :
   ∃ g':G,g'.w=g.w.drew.alloc (.cells cur e) ∧ Step [j] g g' ∧ OwnAt dk e j fs g' g.w.heap.size cap cur:=by
 have hs1:=Step.drew g
 have hs2:=Zjh g.drew cur e (fun _=>False) j
 have hst:Step [j] g (g.drew.push cur e (fun _=>False) j):=(hs1.sub (by simp)).trans hs2
 have hsz:g.drew.w.heap.size=g.w.heap.size:=rfl
 refine ⟨g.drew.push cur e (fun _=>False) j,rfl,hst,⟨by rw [Zel,Zgn];omega,by simp [G.push,hsz],fun b' hb' ho=>?_,by rw [Zel,← hsz];exact Zjd ..,hl,hm,hs,fun i x hx=>dk.mono hst.le (hk i x hx),fun o=>by simp [G.push,hsz]⟩⟩
 by_cases h:b'=g.drew.w.heap.size
 · rw [h,hsz]
 · simp only [G.push,if_neg h] at ho
   split at ho
   · exact absurd ho.symm hj
   · rename_i h2;exact absurd ho h2
theorem Zs6 {j:Nat} {ty:TypeId} (hT:TE P t e dk bytes) (hop:o.op=.buildSlice t 0 #[]) (hd:o.dst=some d):OB P N o uses [(d,pOwn dk e j (some 0) ([]:List (Option α)))] [j + 1] :=
 Zfo hd fun a g hh=>by
   have hs2:=Zjh g #[] e (fun _=>False) (j + 1)
   refine ⟨.slice (some ⟨g.w.heap.size,0,none⟩) 0 0,g.push #[] e (fun _=>False) (j + 1),?_,hs2,g.w.heap.size,0,#[],rfl,⟨by rw [Zel,Zgn];omega,by simp [G.push],fun b' hb' ho=>?_,by rw [Zel];exact Zjd ..,Nat.le_refl _,Nat.zero_le _,by simp,fun i x hx=>by simp at hx,fun o=>by simp [G.push]⟩,fun k hk=>Option.some.inj hk⟩
   · obtain ⟨cells,hl,_,hr⟩:=Zsc (ys:=[]) (xs:=[]) hT .nil (by simp) hh
     have hc:cells=[]:=List.eq_nil_of_length_eq_zero (by simpa using hl)
     subst hc
     rw [Zel]
     have hr':(Instr.buildSlice t 0 #[]).run P g.w=.ok (.slice (some ⟨g.w.heap.size,0,none⟩) 0 0) (g.w.alloc (.cells #[] e)):=by simpa [idxL] using hr
     simp [execOp,hop]
     rw [hr'];rfl
   · by_cases h:b'=g.w.heap.size
     · exact h
     · simp only [G.push,if_neg h] at ho
       split at ho
       · omega
       · rename_i h2;exact absurd ho h2
theorem Zlh {xs vs : List α} (hT : TE P t e dk bytes) (hop : o.op = .call { callee := .builtin .append, args := #[x, y], argTypes := #[t, t] }) (hd : o.dst = some d) (hx : Opd uses x (pOwn dk e j c (xs.map some))) (hy : Opd uses y (dk.sl.pd vs)) (hl : (xs.length + vs.length) * bytes ≤ 140737488355328) :
   OB P N o uses [(d,pOwn dk e j none ((xs ++ vs).map some))] [j + 1] :=
 Zfo hd fun a g hh=>by
   obtain ⟨b,cap,cur,hv,hO,_⟩:=hx a g hh
   obtain ⟨A,c2,hy1,hy2,hy3,hyr⟩:=Zmd (hy a g hh)
   obtain ⟨i,zz,hi,hz,hsz,hby,hzs⟩:=hT.info
   have hb0:=hT.by0
   have hexec:∀ v w',(Builtin.append_ #[t,t] o.type #[a.eval x,a.eval y]).run P g.w=.ok v w' → (execOp a.eval o).run P g.w=.ok (.value v) w':=fun v w' h=>by
     simp [execOp,hop,resolve,invoke,builtin,h]
   have hlen:xs.length + vs.length ≤ 140737488355328:=Nat.le_trans (Nat.le_mul_of_pos_right _ hb0) hl
   have hOl:=hO.len
   rw [List.length_map] at hOl hv
   rcases Nat.eq_zero_or_pos vs.length with h0 | hpos
   · obtain rfl:=List.eq_nil_of_length_eq_zero h0
     refine ⟨a.eval x,g,hexec _ _ ?_,.refl _ _,b,cap,cur,by rw [hv];simp,by rw [List.append_nil];exact hO,fun k hk=>by cases hk⟩
     rw [hv,hy1]
     cases A <;> simp [Builtin.append_,run_underlying hT.und,sizeOf,typeInfo,hi,Builtin.lenOf,Builtin.firstCells,loadCells,loadCellsFrom,hOl,storeCells]
   · obtain ⟨b2,o2,news,rfl,hnl,hnc,hnk⟩:=hyr.resolve_left (fun h=>by rw [h] at hpos;simp at hpos)
     have hn1:=Zk9 hnl hnk hT.sz
     have hnl':news.length=vs.length * i.size:=by rw [hsz];exact hnl
     have hnews:∀ k u,news[k]?=some u → g.w.cell? ((⟨b2,o2,none⟩:Addr).add k)=some u:=fun k u hu=>by rw [Zcu];exact (hnc k u hu).2
     by_cases hroom:xs.length + vs.length ≤ cap
     · have hO2:=hO.ext (h:=xs.length + vs.length) (by simp) hroom
       obtain ⟨g',hw,hst,hO3⟩:=Zoq hO2 (off:=xs.length) (ws:=vs) hnl (by simp) hnk
       have hr:=run_append_room (P:=P) g.w t o.type e i hT.und hi b xs.length cap cur hO.heap ⟨b2,o2,none⟩ vs.length c2 news hnl' hnews hn1 hroom (by rw [hnl',← Nat.add_mul,hO.sz,hsz];exact Nat.mul_le_mul_right _ hroom)
       rw [hsz] at hr
       refine ⟨_,g',hexec _ _ (by rw [hv,hy1];rw [hw];exact hr),hst,b,cap,(Zz cur.toList (xs.length * dk.sz) news).toArray,by simp,?_,fun k hk=>by cases hk⟩
       refine hO3.sub (by simp;omega) fun k u hk=>?_
       rw [Zi1 (by simp)]
       rw [List.getElem?_map] at hk
       by_cases h1:k < xs.length
       · rw [if_pos h1,List.getElem?_append_left (by simpa using h1),List.getElem?_map]
         rwa [List.getElem?_append_left h1] at hk
       · rw [if_neg h1]
         have h2:=(List.getElem?_eq_some_iff.1 (show (xs ++ vs)[k]?=some u by
           obtain ⟨y,hy,he⟩:=Option.map_eq_some_iff.1 hk
           rw [hy,Option.some.inj he])).1
         rw [List.length_append] at h2
         rw [if_pos h2]
         rwa [List.getElem?_append_right (by omega)] at hk
     · have hcl:cur.toList.length=cap * dk.sz:=by simpa using hO.sz
       have hol:(cur.toList.take (xs.length * dk.sz)).length=xs.length * i.size:=by rw [hsz,List.length_take,hcl];exact Nat.min_eq_left (Nat.mul_le_mul_right _ hOl)
       have holds:∀ k u,(cur.toList.take (xs.length * dk.sz))[k]?=some u → g.w.cell? ((⟨b,0,none⟩:Addr).add k)=some u:=fun k u hu=>by
         rw [Zcu]
         simp only [World.cell?,hO.heap,Nat.zero_add]
         rw [List.getElem?_take] at hu
         split at hu
         · simpa using hu
         · cases hu
       have hr:=run_append_grow (P:=P) g.w t o.type e i zz hT.und hi hz ⟨b,0,none⟩ xs.length cap (cur.toList.take (xs.length * dk.sz)) hol holds ⟨b2,o2,none⟩ vs.length c2 news hnl' hnews (by omega) (by omega) (growslice_fits (by omega) (by rw [hby];exact hl))
       have hge:=grownCap_ge g.w (xs.length + vs.length) cap e
       have hmx:=grownCap_le_maxLen g.w (xs.length + vs.length) cap e (by simp only [maxLen];omega)
       rw [hsz] at hol
       obtain ⟨g', hw, hst, hO3⟩ := Zqq (dk := dk) (e := e) (g := g) (j := j + 1) (cur := (cur.toList.take (xs.length * dk.sz)).toArray ++ news.toArray ++ Builtin.zeroCells zz.cells (grownCap g.w (xs.length + vs.length) cap e - (xs.length + vs.length))) (cap := grownCap g.w (xs.length + vs.length) cap e) (fs := (xs ++ vs).map some) (by omega) (by simpa using hge) hmx (by
           simp only [Array.size_append,List.size_toArray,Zjm,hzs,hol,hnl,← Nat.add_mul]
           congr 1;omega) (fun k u hk=>by
           rw [List.getElem?_map] at hk
           obtain ⟨u',hu',he'⟩:=Option.map_eq_some_iff.1 hk
           obtain rfl:=Option.some.inj he'
           simp only [Array.toList_append,List.append_assoc]
           rw [List.getElem?_append] at hu'
           split at hu'
           · rename_i h1
             rw [Zd0 (by rw [hol];exact Zhg h1)]
             have e2:seg (cur.toList.take (xs.length * dk.sz)) (k * dk.sz) dk.sz=seg cur.toList (k * dk.sz) dk.sz:=by
               have:=Zhg (sz:=dk.sz) h1
               simp only [seg,List.drop_take,List.take_take]
               congr 1;omega
             rw [e2]
             exact hO.known k u' (by rw [List.getElem?_map,hu'];rfl)
           · rename_i h1
             have h2:=(List.getElem?_eq_some_iff.1 hu').1
             rw [show k * dk.sz=(cur.toList.take (xs.length * dk.sz)).length + (k - xs.length) * dk.sz by rw [hol,← Nat.add_mul];congr 1;omega,Zfs,Zd0 (by rw [hnl];exact Zhg h2)]
             exact hnk _ _ hu')
       refine ⟨_,g',hexec _ _ (by rw [hv,hy1];rw [hw];exact hr),hst,_,_,_,by simp,hO3,fun k hk=>by cases hk⟩
theorem Zx4 {fs : List (Option α)} {n off len s k : Nat} {xs ws : List α} (hT : TE P t e dk bytes) (hn : n = xs.length) (hn2 : n + len ≤ k) (hfs : off + len ≤ fs.length) (hw : ws.length = len) (hxs : ∀ (i : Nat) (x : α), xs[i]? = some x → fs[i]? = some (some x)) (hws : ∀ (i : Nat) (x : α), ws[i]? = some x → fs[off + i]? = some (some x))
   (hop:o.op=.call { callee:=.builtin .append,args:=#[x,y],argTypes:=#[t,t] }) (hd:o.dst=some d) (hx:Opd uses x (Zke dk e j 0 n)) (hy:Opd uses y (Zke dk e j off len)) (hs:Opd uses (.tmp s) (pOwn dk e j (some k) fs)) :
   OB P N o uses [(d,pOwn dk e j (some k) ((xs ++ ws).map some))] [j + 1] :=
 Zfo hd fun a g hh=>by
   obtain ⟨b,cap,cur,hxv,hO1,_⟩:=hx a g hh
   obtain ⟨b',cap',cur',hsv,hO,hc⟩:=hs a g hh
   obtain rfl:=hc k rfl
   obtain ⟨rfl,rfl,rfl⟩:=hO.same hO1 hT.sz
   obtain ⟨b3,cap3,cur3,hyv,hO3,hcap3⟩:=hy a g hh
   obtain ⟨rfl,rfl,rfl⟩:=hO.same hO3 hT.sz
   obtain ⟨i,zz,hi,hz,hsz,hby,hzs⟩:=hT.info
   have hl2:=hO.len
   have hcl:cur3.toList.length=cap3 * dk.sz:=by simpa using hO.sz
   let news:=seg cur3.toList (off * dk.sz) (len * dk.sz)
   have hnl:news.length=ws.length * dk.sz:=by
     show ((cur3.toList.drop (off * dk.sz)).take (len * dk.sz)).length=_
     rw [List.length_take,List.length_drop,hcl,hw]
     have:(off + len) * dk.sz ≤ cap3 * dk.sz:=Nat.mul_le_mul_right _ (by omega)
     rw [Nat.add_mul] at this;omega
   have hk:∀ (i:Nat) (x:α),ws[i]?=some x → dk.K g x (seg news (i * dk.sz) dk.sz):=fun i x hx=>by
     have hi:=(List.getElem?_eq_some_iff.1 hx).1
     have h1:=hO.known _ _ (hws i x hx)
     have e:seg news (i * dk.sz) dk.sz=seg cur3.toList ((off + i) * dk.sz) dk.sz:=by
       show (((cur3.toList.drop (off * dk.sz)).take (len * dk.sz)).drop (i * dk.sz)).take dk.sz=_
       have:=Zhg (sz:=dk.sz) (show i < len by omega)
       rw [List.drop_take,List.take_take,List.drop_drop,Nat.min_eq_left (by omega),Nat.add_mul];rfl
     rw [e];exact h1
   have hcell:∀ k u,news[k]?=some u → g.w.cell? ((⟨b3,off * dk.sz,none⟩:Addr).add k)=some u:=fun k u hu=>by
     rw [Zcu]
     simp only [World.cell?,hO.heap]
     have hu':((cur3.toList.drop (off * dk.sz)).take (len * dk.sz))[k]?=some u:=hu
     rw [List.getElem?_take] at hu'
     split at hu'
     · rw [List.getElem?_drop] at hu'
       simpa using hu'
     · cases hu'
   have hO4:=(hO.sub (fs':=xs.map some) (by rw [List.length_map];omega) (fun i x hx=>by
     rw [List.getElem?_map] at hx
     obtain ⟨y,hy,he⟩:=Option.map_eq_some_iff.1 hx
     rw [hxs i y hy,he])).ext (h:=n + len) (by rw [List.length_map];omega) (by omega)
   obtain ⟨g',hgw,hst,hO5⟩:=Zoq hO4 (off:=n) (ws:=ws) hnl (by simp;omega) hk
   have hb0:(if cap3=0 then (⟨b3,0,none⟩:Addr) else ⟨b3,0 * dk.sz,none⟩)=⟨b3,0,none⟩:=by split <;> simp
   have hr:(Builtin.append_ #[t,t] o.type #[a.eval x,a.eval y]).run P g.w=.ok (.slice (some ⟨b3,0,none⟩) (n + len) cap3) g'.w:=by
     rw [hxv,hyv,hb0,hgw,Nat.sub_zero]
     by_cases h0:cap3=off
     · have hl0:len=0:=by omega
       have hn0:news=[]:=List.eq_nil_of_length_eq_zero (by rw [hnl,hw,hl0];simp)
       rw [if_pos h0]
       have:=run_append_room (P:=P) g.w t o.type e i hT.und hi b3 n cap3 cur3 hO.heap ⟨b3,0,none⟩ len (cap3 - off) news (by rw [hn0,hl0];simp) (fun j u hu=>by rw [hn0] at hu;simp at hu) (fun u hu=>by rw [hn0] at hu;cases hu) (by omega) (by rw [hn0,hO.sz,hsz];simp;exact Nat.mul_le_mul_right _ (by omega))
       rw [hsz] at this
       exact this
     · rw [if_neg h0]
       have:=run_append_room (P:=P) g.w t o.type e i hT.und hi b3 n cap3 cur3 hO.heap ⟨b3,off * dk.sz,none⟩ len (cap3 - off) news (by rw [hnl,hw,hsz]) hcell (Zk9 hnl hk hT.sz) (by omega) (by rw [hnl,hw,hsz,← Nat.add_mul,hO.sz];exact Nat.mul_le_mul_right _ (by omega))
       rw [hsz] at this
       exact this
   refine ⟨_,g',?_,hst,b3,cap3,(Zz cur3.toList (n * dk.sz) news).toArray,rfl,?_,hc⟩
   · rw [show ((xs ++ ws).map some).length=n + len by simp;omega]
     simp [execOp,hop,resolve,invoke,builtin,hr]
   · refine hO5.sub (by simp;omega) fun k u hk=>?_
     rw [Zi1 (by simp;omega)]
     rw [List.getElem?_map] at hk
     by_cases h1:k < n
     · rw [if_pos h1,List.getElem?_append_left (by simp;omega),List.getElem?_map]
       rwa [List.getElem?_append_left (by omega)] at hk
     · rw [if_neg h1]
       have h2:=(List.getElem?_eq_some_iff.1 (show (xs ++ ws)[k]?=some u by
         obtain ⟨y,hy,he⟩:=Option.map_eq_some_iff.1 hk
         rw [hy,Option.some.inj he])).1
       rw [List.length_append] at h2
       rw [if_pos (by omega)]
       rw [List.getElem?_append_right (by omega)] at hk
       rw [hn];exact hk
theorem Znj (w : World) (t tn ty e : TypeId) (i : TypeInfo) (z : Value) (k kn : IntKind) (ht : P.underlying t = some (.slice e)) (htn : P.underlying tn = some (.int kn)) (hi : P.info? e = some i) (hz : i.zero = some z)
   (b:Addr) (sLen sCap:Nat) (olds:List Value) (hlo:olds.length=sLen * i.size) (holds:∀ j v,olds[j]?=some v → w.cell? (b.add j)=some v)
   (n:Nat) (h0:0 < n) (hs:0 < i.size) (hg:sCap < sLen + n) (h63:((sLen + n:Nat):Int) ≤ 9223372036854775807) (h48:n * i.bytes ≤ 281474976710656) (hfit:Builtin.nextslicecap (sLen + n) sCap * i.bytes ≤ 281474976710656) :
   (Builtin.append_ #[t,tn] ty #[.slice (some b) sLen sCap,.int k n]).run P w =
     .ok (.slice (some ⟨w.heap.size,0,none⟩) (sLen + n) (grownCap w (sLen + n) sCap e))
       (w.drew.alloc (.cells (olds.toArray ++ Builtin.zeroCells z.cells n ++ Builtin.zeroCells z.cells (grownCap w (sLen + n) sCap e - (sLen + n))) e)):=by
 have hw:IntKind.i64.wrap (n:Int)=n:=by rw [IntKind.wrap_i64];omega
 have hn:¬ (sLen + n ≤ sCap):=by omega
 have h63':¬ (9223372036854775807 < ((sLen:Int) + (n:Int))):=by omega
 have h48':¬ (281474976710656 < Builtin.nextslicecap (sLen + n) sCap * i.bytes):=by omega
 have h48i:¬ (281474976710656 < (n:Int) * (i.bytes:Int)):=by
   rw [← Int.natCast_mul]
   omega
 have hneg:¬ ((n:Int) < 0):=by omega
 have hns:¬ (n * i.size=0):=Nat.mul_ne_zero (by omega) (by omega)
 have hfo:=run_firstCells_some (P:=P) w.drew i.size sLen b sLen sCap olds hlo (by simpa using holds)
 simp [Builtin.append_,run_underlying ht,run_underlying htn,sizeOf,typeInfo,zeroValue,hi,hz,asInt,asIntOf,hw,hn,hneg,hns,h63',h48',h48i,Question.forced,hfo,newRow,grownCap]
theorem Zxz {fs : List (Option α)} {n m s k d2 tn : Nat} {kn : IntKind} {xs : List α} (hT : TE P t e dk bytes) (htn : P.underlying tn = some (.int kn)) (hn : n = xs.length) (hfs : n ≤ fs.length) (hm : 0 < m) (hk : k < n + m) (hb : (n + m) * bytes ≤ 140737488355328) (hxs : ∀ (i : Nat) (x : α), xs[i]? = some x → fs[i]? = some (some x))
   (hop:o.op=.call { callee:=.builtin .append,args:=#[x,y],argTypes:=#[t,tn] }) (hd:o.dst=some d) (hx:Opd uses x (Zke dk e j 0 n)) (hy:Opd uses y (pInt .i64 (m:Int))) (hs:Opd uses (.tmp s) (pOwn dk e j (some k) fs)) :
   OB P N o uses [(d,pOwn dk e d2 none (xs.map some ++ List.replicate m none))] [d2 + 1] :=
 Zfo hd fun a g hh=>by
   obtain ⟨b,cap,cur,hxv,hO1,_⟩:=hx a g hh
   obtain ⟨b',cap',cur',hsv,hO,hc⟩:=hs a g hh
   obtain rfl:=hc k rfl
   obtain ⟨rfl,rfl,rfl⟩:=hO.same hO1 hT.sz
   obtain ⟨i,zz,hi,hz,hsz,hby,hzs⟩:=hT.info
   have hyv:=Zb3.1 (hy a g hh)
   have hb0:(if cap=0 then (⟨b,0,none⟩:Addr) else ⟨b,0 * dk.sz,none⟩)=⟨b,0,none⟩:=by split <;> simp
   have hOl:=hO.len
   have hcl:cur.toList.length=cap * dk.sz:=by simpa using hO.sz
   have hlen:n + m ≤ 140737488355328:=Nat.le_trans (Nat.le_mul_of_pos_right _ hT.by0) hb
   have hol:(cur.toList.take (n * dk.sz)).length=n * dk.sz:=by rw [List.length_take,hcl];exact Nat.min_eq_left (Nat.mul_le_mul_right _ (by omega))
   have holds:∀ k u,(cur.toList.take (n * dk.sz))[k]?=some u → g.w.cell? ((⟨b,0,none⟩:Addr).add k)=some u:=fun k u hu=>by
     rw [Zcu]
     simp only [World.cell?,hO.heap,Nat.zero_add]
     rw [List.getElem?_take] at hu
     split at hu
     · simpa using hu
     · cases hu
   have hmb:m * bytes ≤ (n + m) * bytes:=Nat.mul_le_mul_right _ (by omega)
   have hr:=Znj (P:=P) g.w t tn o.type e i zz .i64 kn hT.und htn hi hz ⟨b,0,none⟩ n cap (cur.toList.take (n * dk.sz)) (by rw [hol,hsz]) holds m hm (by rw [hsz];exact hT.sz) hk (by omega) (by rw [hby];omega) (growslice_fits hk (by rw [hby];exact hb))
   have hge:=grownCap_ge g.w (n + m) cap e
   have hmx:=grownCap_le_maxLen g.w (n + m) cap e (by simp only [maxLen];omega)
   obtain ⟨g', hw, hst, hO3⟩ := Zqq (dk := dk) (e := e) (g := g) (j := d2 + 1) (cur := (cur.toList.take (n * dk.sz)).toArray ++ Builtin.zeroCells zz.cells m ++ Builtin.zeroCells zz.cells (grownCap g.w (n + m) cap e - (n + m))) (cap := grownCap g.w (n + m) cap e) (fs := xs.map some ++ List.replicate m none) (by omega) (by simp; omega) hmx (by
       simp only [Array.size_append,List.size_toArray,Zjm,hzs,hol,← Nat.add_mul]
       congr 1;omega) (fun k u hk=>by
       rw [List.getElem?_append] at hk
       split at hk
       · rename_i h1
         rw [List.length_map] at h1
         rw [List.getElem?_map] at hk
         obtain ⟨u',hu',he'⟩:=Option.map_eq_some_iff.1 hk
         obtain rfl:=Option.some.inj he'
         simp only [Array.toList_append,List.append_assoc]
         rw [Zd0 (by rw [hol];exact Zhg (by omega))]
         have e2:seg (cur.toList.take (n * dk.sz)) (k * dk.sz) dk.sz=seg cur.toList (k * dk.sz) dk.sz:=by
           have:=Zhg (sz:=dk.sz) (show k < n by omega)
           simp only [seg,List.drop_take,List.take_take]
           congr 1;omega
         rw [e2]
         exact hO.known k u' (hxs k u' hu')
       · rw [List.getElem?_replicate] at hk
         split at hk <;> simp at hk)
   refine ⟨_,g',?_,hst,_,_,_,rfl,hO3,fun k hk=>by cases hk⟩
   rw [show (xs.map some ++ List.replicate m (none:Option α)).length=n + m by simp;omega]
   rw [hb0,Nat.sub_zero] at hxv
   simp [execOp,hop,resolve,invoke,builtin,hxv,hyv,hr,hw]
theorem Zza {fs : List (Option α)} {off len s k : Nat} (hT : TE P t e dk bytes) (hz1 : ((P.info? e).bind (·.zero)).map (fun z => z.cells.all (·.oneCell')) = some true) (hfs : fs.length ≤ off) (hk : off + len ≤ k)
   (hop:o.op=.call { callee:=.builtin .clear,args:=#[x],argTypes:=#[t] }) (hd:o.dst=none) (hx:Opd uses x (Zke dk e j off len)) (hs:Opd uses (.tmp s) (pOwn dk e j (some k) fs)):OB P N o uses [(s,pOwn dk e j (some k) fs)] [j + 1]:=by
 intro a g K Q hN hdN hu hK
 obtain ⟨b,cap,cur,hxv,hO1,_⟩:=hx a g hu
 obtain ⟨b',cap',cur',hsv,hO,hc⟩:=hs a g hu
 obtain rfl:=hc k rfl
 obtain ⟨rfl,rfl,rfl⟩:=hO.same hO1 hT.sz
 obtain ⟨i,zz,hi,hz,hsz,hby,hzs⟩:=hT.info
 have hcl:cur.toList.length=cap * dk.sz:=by simpa using hO.sz
 have hone:∀ u ∈ (Builtin.zeroCells zz.cells len).toList,u.oneCell'=true:=by
   simp only [hi,hz,Option.bind_some,Option.map_some,Option.some.injEq] at hz1
   intro u hu
   simp only [Builtin.zeroCells,Array.toList_map,List.mem_map] at hu
   obtain ⟨m,hm,rfl⟩:=hu
   have h0:0 < zz.cells.size:=by rw [hzs];exact hT.sz
   have hlt:m % zz.cells.size < zz.cells.size:=Nat.mod_lt _ h0
   rw [getElem!_pos zz.cells _ hlt]
   exact Array.all_eq_true.1 hz1 _ hlt
 have hcl2:(cur.toList.take (off * dk.sz) ++ (Builtin.zeroCells zz.cells len).toList ++ cur.toList.drop (off * dk.sz + (Builtin.zeroCells zz.cells len).toList.length)).toArray=(Zz cur.toList (off * dk.sz) (Builtin.zeroCells zz.cells len).toList).toArray:=rfl
 have hzl:(Builtin.zeroCells zz.cells len).toList.length=len * dk.sz:=by rw [Array.length_toList,Zjm,hzs]
 have hfit:off * dk.sz + (Builtin.zeroCells zz.cells len).toList.length ≤ cur.toList.length:=by rw [hzl,hcl,← Nat.add_mul];exact Nat.mul_le_mul_right _ hk
 let cs:=(Zz cur.toList (off * dk.sz) (Builtin.zeroCells zz.cells len).toList).toArray
 have hr:(Builtin.clear_ #[t] o.type #[a.eval x]).run P g.w=.ok (.tuple #[]) (g.w.setRow b cs):=by
   rw [hxv]
   rcases Nat.eq_zero_or_pos len with rfl | hpos
   · have hs0 : cs = cur := by
       show (Zz cur.toList (off * dk.sz) (Builtin.zeroCells zz.cells 0).toList).toArray=cur
       have:(Builtin.zeroCells zz.cells 0).toList=[]:=by simp [Builtin.zeroCells]
       rw [this];simp [Zz]
     rw [hs0,setRow_self g.w b cur e (0,0) hO.heap]
     by_cases he:cap=off <;> simp [Builtin.clear_,run_underlying hT.und]
   · have he:¬ cap=off:=by omega
     rw [if_neg he]
     have hst:=run_storeCells_at P b (off * dk.sz) e (Builtin.zeroCells zz.cells len).toList 0 cur g.w hO.heap (by rw [Nat.add_zero];simpa using hfit) hone
     rw [Nat.add_zero] at hst
     obtain ⟨len,rfl⟩:∃ m,len=m + 1:=⟨len - 1,by omega⟩
     simp [Builtin.clear_,run_underlying hT.und,zeroValue,typeInfo,hi,hz]
     rw [hst];rfl
 have hr':(execOp a.eval o).run P g.w=.ok (.value (.tuple #[])) (g.w.setRow b cs):=by
   simp [execOp,hop,resolve,invoke,builtin,hr]
 unfold Oper.wp
 rw [hr']
 have hst:Step [j + 1] g (g.wr b cs hO.lt hO.npr (fun _=>False) (j + 1)):=Zlo hO.own (.inr rfl) hO.npr
 refine hK _ (g.wr b cs hO.lt hO.npr (fun _=>False) (j + 1)) hst fun e he=>?_
 rw [List.mem_singleton.1 he]
 have hat:Act.at (a.put o.dst (.tuple #[])) s=Act.at a s:=by rw [hd];rfl
 rw [hat]
 refine ⟨b,cap,cs,hsv,⟨by rw [wr_w,Zea];exact hO.lt,by simp [G.wr],fun b' hb' ho=>?_,by rw [wr_w];exact setRow_heap _ _ _ _ _ _ hO.heap,hO.len,hO.max,?_,fun i x hx=>?_,fun o=>by simp [G.wr]⟩,hc⟩
 · rw [wr_w,Zea] at hb'
   simp only [G.wr] at ho
   split at ho
   · assumption
   · exact hO.uniq b' hb' ho
 · show (Zz cur.toList (off * dk.sz) (Builtin.zeroCells zz.cells len).toList).toArray.size=_
   rw [List.size_toArray,Zc9 hfit,hcl]
 · have hi:=(List.getElem?_eq_some_iff.1 hx).1
   have e2:seg cs.toList (i * dk.sz) dk.sz=seg cur.toList (i * dk.sz) dk.sz:=by
     show seg (Zz cur.toList (off * dk.sz) (Builtin.zeroCells zz.cells len).toList) (i * dk.sz) dk.sz=_
     exact Zy hfit (.inl (Zhg (by omega)))
   rw [e2]
   exact dk.mono hst.le (hO.known i x hx)
end
section
variable {P:Program} {N:Nat} {o:Oper} {uses:Z4} {d:Nat} {q:Pd} {x y z:Operand} {α:Type} {dk:Kd α} {t e:TypeId} {bytes j:Nat} {c:Option Nat}
theorem Zu4 {w : World} {ps rs : Array TypeId} {A : Option Addr} {la ca lb cb : Nat} {B : Addr} {cur : Array Value} {i : TypeInfo} (hp : ps[0]? = some t) (ht : P.underlying t = some (.slice e)) (hi : P.info? e = some i)
   (hA:la=0 ∨ ∃ a c2 t2 fr,A=some a ∧ a.block ≠ B.block ∧ w.heap[a.block]?=some (.cells c2 t2 fr) ∧ c2.size ≠ 0) (hB:w.heap[B.block]?=some (.cells cur e (0,0))) (hc:cur.size ≠ 0) :
   (Extern.SlicesOverlaps.overlaps ps rs #[.slice A la ca,.slice (some B) lb cb]).run P w=.ok (.bool false) w:=by
 have hfb:∀ n,w.frozen? { block:=B.block,off:=n }=false:=fun n=>by simp [World.frozen?,hB]
 have hfb':w.frozen? B=false:=by simp [World.frozen?,hB]
 have hsb:w.shape? B.block=some (e,cur.size):=by simp [World.shape?,hB]
 obtain ⟨n,hn⟩:∃ n,cur.size=n + 1:=⟨cur.size - 1,by omega⟩
 rw [hn] at hsb
 change Sem.run P (α:=Value) (do
   let some t := ps[0]? | stuck "slices.overlaps: no parameter types"
   let .slice elem ← underlying t | stuck "slices.overlaps: slice type expected"
   let size ← sizeOf elem
   match A,(some B:Option Addr) with
   | some a,some b =>
     if la=0 ∨ lb=0 ∨ size=0 then pure (Value.bool false)
     else if a.block != b.block && (← frozen a) && (← frozen b) then unsupported .addressObserved
     else do
       if a.block != b.block then do
         noView a;noView b
         if ← mayBeOne a b then return Value.bool ((← choose (.extern "sameAddr.stringBytes" 2)) == 1)
       pure (Value.bool (a.block == b.block && a.off < b.off + lb * size && b.off < a.off + la * size))
   | _,_=>pure (Value.bool false)) w=_
 rcases hA with rfl | ⟨a,c2,t2,fr,rfl,hne,ha,hc2⟩
 · cases A <;> simp [hp,run_underlying ht,sizeOf,typeInfo,hi]
 · have hnb:(a.block != B.block)=true:=by simpa using hne
   have hnb':(a.block == B.block)=false:=by simpa using hne
   obtain ⟨n2,hn2⟩:∃ n,c2.size=n + 1:=⟨c2.size - 1,by omega⟩
   have hsa:w.shape? a.block=some (t2,n2 + 1):=by simp [World.shape?,ha,hn2]
   by_cases h0:la=0 ∨ lb=0 ∨ i.size=0
   · simp [hp,run_underlying ht,sizeOf,typeInfo,hi,h0]
   · cases hfa : w.frozen? a <;> cases hfe : w.frozen? { block := a.block, off := n2 + 1 } <;>
       simp [hp,run_underlying ht,sizeOf,typeInfo,hi,h0,hnb,hnb',frozen,noView,viewAt,mayBeOne,stringish,shape,Sem.run,hsa,hsb,hfa,hfe,hfb,hfb']
theorem Zv1 {f : FuncId} {fs : List (Option α)} {off len s : Nat} {vs : List α} {ps rs : Array TypeId} {ty : Array TypeId} (hT : TE P t e dk bytes) (hp : ps[0]? = some t) (he : Ext P f (Extern.SlicesOverlaps.overlaps ps rs)) (hfs : 0 < fs.length) (hop : o.op = .call { callee := .value (.func f), args := #[x, y], argTypes := ty }) (hd : o.dst = some d)
   (hx:Opd uses x (dk.sl.pd vs)) (hy:Opd uses y (Zke dk e j off len)) (hs:Opd uses (.tmp s) (pOwn dk e j c fs)):OB P N o uses [(d,Z7 false)] [] :=
 Zb1 hd fun a g hh=>by
   obtain ⟨A,c2,hx1,hx2,hx3,hxr⟩:=Zmd (hx a g hh)
   obtain ⟨b,cap,cur,hyv,hO,hcap⟩:=hy a g hh
   obtain ⟨b',cap',cur',hsv,hO',_⟩:=hs a g hh
   obtain ⟨rfl,rfl,rfl⟩:=hO.same hO' hT.sz
   obtain ⟨i,zz,hi,hz,hsz,hby,hzs⟩:=hT.info
   have hl:=hO'.len
   have hcs:cur'.size ≠ 0:=by rw [hO'.sz];exact Nat.mul_ne_zero (by omega) (Nat.ne_of_gt hT.sz)
   have hr:(Extern.SlicesOverlaps.overlaps ps rs #[a.eval x,a.eval y]).run P g.w=.ok (.bool false) g.w:=by
     rw [hx1,hyv]
     have hblk:(if cap'=off then (⟨b',0,none⟩:Addr) else ⟨b',off * dk.sz,none⟩).block=b':=by split <;> rfl
     refine Zu4 hp hT.und hi ?_ (by rw [hblk];exact hO'.heap) hcs
     rw [hblk]
     rcases hxr with rfl | ⟨b2,o2,news,rfl,hnl,hnc,hnk⟩
     · exact .inl rfl
     · rcases Nat.eq_zero_or_pos vs.length with h0 | hpos
       · exact .inl h0
       · right
         have h1:0 < news.length:=by rw [hnl];exact Nat.mul_pos hpos hT.sz
         obtain ⟨hpr,hcell⟩:=hnc 0 _ (List.getElem?_eq_getElem h1)
         have hne:b2 ≠ b':=fun h=>hO'.npr _ (by rw [← h];exact hpr)
         obtain ⟨cc,tt,fr,hh2,hcs2⟩:∃ cc tt fr,g.w.heap[b2]?=some (.cells cc tt fr) ∧ cc.size ≠ 0:=by
           cases hob:g.w.heap[b2]? with
           | none=>simp [World.cell?,hob] at hcell
           | some ob=>cases ob with
             | cells cc tt fr =>
               refine ⟨cc,tt,fr,rfl,fun h0=>?_⟩
               have:cc=#[]:=Array.eq_empty_of_size_eq_zero h0
               subst this
               simp [World.cell?,hob] at hcell
             | _=>simp [World.cell?,hob] at hcell
         exact ⟨⟨b2,o2,none⟩,cc,tt,fr,rfl,hne,hh2,hcs2⟩
   exact ⟨.bool false,by simp [execOp,hop,resolve,Zm7,Deferred.ofValue,invoke,Zxh he,hr],Zev _ g⟩
def Zt5 (dk:Kd α) (e:TypeId) (xs:List α) (g:G) (v:Value) (D:Nat → Prop):Prop :=
 (xs=[] ∧ ∃ A,v=.slice A 0 0) ∨ ∃ b cap cur,v=.slice (some ⟨b,0,none⟩) xs.length cap ∧ D b ∧ b < g.w.heap.size ∧ g.w.heap[b]?=some (.cells cur e (0,0)) ∧ xs.length ≤ cap ∧ cap ≤ maxLen ∧ cur.size=cap * dk.sz ∧ (∀ (i:Nat) (x:α),xs[i]?=some x → dk.K g x (seg cur.toList (i * dk.sz) dk.sz)) ∧ ∀ o,¬ g.pr b o
def pArr (dk:Kd α) (e:TypeId) (j:Nat) (xs:List α):Pd:=⟨fun g u=>(xs=[] ∧ ∃ A,u=.slice A 0 0) ∨ ∃ b cap cur,u=.slice (some ⟨b,0,none⟩) xs.length cap ∧ OwnAt dk e (j + 1) (xs.map some) g b cap cur,[j + 1],fun s hd h=>h.imp id fun ⟨b,cap,cur,e,h⟩=>⟨b,cap,cur,e,h.st s (hd _ (by simp)) (by omega)⟩⟩
def Zsl (P:Program) (f:FuncId) (A:List Pd) (dk:Kd α) (e:TypeId) (xs:List α):Prop:=∀ (g:G) (args:List Value),ArgsOk A g args →
 Calls P f args.toArray g.w (fun en w'=>∃ g' v,en=.returned v ∧ w'=g'.w ∧ Znz (fun _=>False) g g' ∧ Zt5 dk e xs g' v (fun b=>g.w.heap.size ≤ b))
def Ztz (P:Program) (f:FuncId) (dk:Kd α) (e:TypeId) (xs:List α) (A:List Pd) (q:Pd):Prop:=∀ (g:G) (v:Value) (D:Nat → Prop) (args:List Value),Zt5 dk e xs g v D → ArgsOk A g args →
 Calls P f (v :: args).toArray g.w (fun en w'=>∃ g' u,en=.returned u ∧ w'=g'.w ∧ Znz D g g' ∧ q.p g' u)
open Classical in
theorem Zlx {f:FuncId} {xs:List α} {xo:List Operand} {A:List Pd} {ty:Array TypeId} (he:Zl P f) (hok:Zsl P f A dk e xs) (hop:o.op=.call { callee:=.value (.func f),args:=xo.toArray,argTypes:=ty }) (hd:o.dst=some d) (hargs:OpdL uses xo A):OB P N o uses [(d,pArr dk e j xs)] [j + 1]:=by
 intro a g K Q hN hdN hu hK
 have hr:(execOp a.eval o).run P g.w=.ok (.enter f (xo.map a.eval).toArray) g.w:=by
   simp [execOp,hop,resolve,Act.eval,Deferred.ofValue,invoke,Zhh he]
 unfold Oper.wp
 rw [hr]
 show Calls P f _ g.w _
 refine Calls.mono (hok g _ (hargs.ok hu)) ?_
 rintro en w' ⟨g',v,rfl,rfl,hS,hA⟩
 have fin:∀ (o1:Nat → Nat),(∀ b,b < g.w.heap.size → o1 b=if g.own b=j + 1 then 0 else g.own b) → (∀ b,g.w.heap.size ≤ b → o1 b=0 ∨ o1 b=j + 1) → Step [j + 1] g ⟨g'.w,g'.pr,o1,g'.hpr,g'.gl⟩:=fun o1 h1 h2 =>
   ⟨⟨hS.le.size,hS.le.pr,hS.le.cell,hS.le.blk⟩,hS.os,hS.tape,hS.output,fun b hb hn=>⟨(hS.same b hb id).1,(hS.same b hb id).2,by show o1 b=_;rw [h1 b hb,if_neg (by simpa using hn)]⟩,
     fun b k1 k2=>(h2 b k1).imp id (fun h=>by show o1 b ∈ _;rw [h];simp),fun b hb hn=>.inl (by show o1 b=0;rw [h1 b hb,if_pos (by simpa using hn)])⟩
 rcases hA with ⟨rfl,A0,rfl⟩ | ⟨b,cap,cur,rfl,hD,h1,h2,h3,h4,h5,h6,h7⟩
 · refine hK _ ⟨g'.w,g'.pr,fun b=>if b < g.w.heap.size then (if g.own b=j + 1 then 0 else g.own b) else 0,g'.hpr,g'.gl⟩ (fin (fun b=>if b < g.w.heap.size then (if g.own b=j + 1 then 0 else g.own b) else 0) (fun b hb=>if_pos hb) (fun b hb=>.inl (if_neg (by omega)))) fun e' he'=>?_
   rw [List.mem_singleton.1 he',hd,Zdp _ (by rw [hN];exact hdN d hd)]
   exact .inl ⟨rfl,A0,rfl⟩
 · refine hK _ ⟨g'.w, g'.pr, fun c => if c < g.w.heap.size then (if g.own c = j + 1 then 0 else g.own c) else if c = b then j + 1 else 0, g'.hpr, g'.gl⟩ (fin _ (fun b hb => if_pos hb) (fun c hc => by
     show (if c < g.w.heap.size then _ else _)=0 ∨ _=j + 1
     rw [if_neg (by omega)];split <;> simp)) fun e' he'=>?_
   rw [List.mem_singleton.1 he',hd,Zdp _ (by rw [hN];exact hdN d hd)]
   refine .inr ⟨b,cap,cur,rfl,⟨h1,?_,fun b' hb' ho=>?_,h2,by simpa using h3,h4,h5,fun i x hx=>?_,h7⟩⟩
   · show (if b < g.w.heap.size then _ else _)=_
     rw [if_neg (by omega),if_pos rfl]
   · have ho':(if b' < g.w.heap.size then (if g.own b'=j + 1 then 0 else g.own b') else if b'=b then j + 1 else 0)=j + 1:=ho
     split at ho'
     · split at ho'
       · omega
       · rename_i hne;exact absurd ho' hne
     · split at ho'
       · assumption
       · omega
   · rw [List.getElem?_map] at hx
     obtain ⟨y,hy,he''⟩:=Option.map_eq_some_iff.1 hx
     obtain rfl:=Option.some.inj he''
     exact dk.mono (g:=g') ⟨Nat.le_refl _,fun _ _ h=>h,fun _ _ _=>rfl,fun _ _=>rfl⟩ (h6 i y hy)
theorem Znm {f:FuncId} {xs:List α} {xo:List Operand} {A:List Pd} {ty:Array TypeId} (he:Zl P f) (hok:Ztz P f dk e xs A q) (hq:q.fp=[]) (hop:o.op=.call { callee:=.value (.func f),args:=(x :: xo).toArray,argTypes:=ty }) (hd:o.dst=some d) (hx:Opd uses x (pArr dk e j xs)) (hargs:OpdL uses xo A):OB P N o uses [(d,q)] [j + 1]:=by
 intro a g K Q hN hdN hu hK
 have hr:(execOp a.eval o).run P g.w=.ok (.enter f (a.eval x :: xo.map a.eval).toArray) g.w:=by
   simp [execOp,hop,resolve,Zm7,Deferred.ofValue,invoke,Zhh he]
 unfold Oper.wp
 rw [hr]
 show Calls P f _ g.w _
 have hA:Zt5 dk e xs g (a.eval x) (fun b=>g.own b=j + 1):=by
   rcases hx a g hu with h | ⟨b,cap,cur,h1,h2⟩
   · exact .inl h
   · exact .inr ⟨b,cap,cur,h1,h2.own,h2.lt,h2.heap,by simpa using h2.len,h2.max,h2.sz,fun i x hx=>h2.known i x (by rw [List.getElem?_map,hx];rfl),h2.npr⟩
 refine Calls.mono (hok g _ _ _ hA (hargs.ok hu)) ?_
 rintro en w' ⟨g',v,rfl,rfl,hS,hqv⟩
 let g2:G:=⟨g'.w,g'.pr,fun c=>if c < g.w.heap.size then g.own c else 0,g'.hpr,g'.gl⟩
 have hle:g'.le g2:=⟨Nat.le_refl _,fun _ _ h=>h,fun _ _ _=>rfl,fun _ _=>rfl⟩
 have hown:∀ c,g2.own c=if c < g.w.heap.size then g.own c else 0:=fun _=>rfl
 refine hK v g2 ⟨⟨hS.le.size,hS.le.pr,hS.le.cell,hS.le.blk⟩,hS.os,hS.tape,hS.output,fun c hc hn=>?_,fun c k1 k2=>.inl ?_,fun c hc hn=>.inr ?_⟩ fun e' he'=>?_
 · obtain ⟨k1,k2⟩:=hS.same c hc (by simpa using hn)
   exact ⟨k1,k2,by rw [hown,if_pos hc]⟩
 · rw [hown,if_neg (by omega)]
 · rw [hown,if_pos hc];exact hn
 · rw [List.mem_singleton.1 he',hd,Zdp _ (by rw [hN];exact hdN d hd)]
   exact Pd.le hq hle rfl rfl rfl hqv
def Zqv (dk:Kd α) (e:TypeId) (xs:List α) (g0:G) (v:Value) (g1:G):Prop:=Base g0 g1 ∧ Zt5 dk e xs g1 v (fun b=>g0.w.heap.size ≤ b)
theorem Zx5 {f : FuncId} {fn : Func} {cd : Code} {A : List Pd} {xs : List α} (hf : P.funcs[f]? = some fn) (hb : fn.body = some cd) (hn : fn.ntmps = N) (hAN : A.length ≤ N) (hA : Free A)
   (h:∀ (a:Act) (g:G),(∀ b,g.own b=0) → St N (Zjp A 0) a g → Base g g → cd.wp P (bodyPost P fn (FinP (Zqv dk e xs g))) a g.w):Zsl P f A dk e xs:=by
 intro g args hargs
 let g0:G:=⟨g.w,g.pr,fun _=>0,g.hpr,g.gl⟩
 have hle:g.le g0:=⟨Nat.le_refl _,fun _ _ h=>h,fun _ _ _=>rfl,fun _ _=>rfl⟩
 have hst:St N (Zjp A 0) { tmps:=args.toArray ++ Array.replicate (fn.ntmps - args.toArray.size) undef,defers:=[] } g0:=by
   refine ⟨?_,rfl,?_⟩
   · have:=hargs.1
     simp [hn];omega
   · intro e he
     obtain ⟨i,h1,h2⟩:=Zkq he
     have hi:i < args.length:=by rw [hargs.1];exact (List.getElem?_eq_some_iff.1 h2).1
     have hv:Act.at { tmps:=args.toArray ++ Array.replicate (fn.ntmps - args.toArray.size) undef,defers:=[] } e.1=args[i]:=by
       rw [h1,Nat.zero_add]
       simp only [Act.at,Array.getD_eq_getD_getElem?]
       rw [Array.getElem?_append,if_pos (by simpa using hi)]
       simp [hi]
     rw [hv]
     exact Pd.le (hA.at h2) hle rfl rfl rfl (hargs.2 i e.2 _ h2 (List.getElem?_eq_getElem hi))
 have hbase:Base g0 g0:=⟨.refl _,rfl,rfl,rfl,fun _ _ _=>⟨rfl,rfl,rfl⟩⟩
 refine Calls.mono (calls_of_wp hf hb (h _ g0 (fun _=>rfl) hst hbase)) ?_
 rintro en w' ⟨g1,v,rfl,rfl,hB,hv⟩
 exact ⟨g1,v,rfl,rfl,⟨⟨hB.le.size,hB.le.pr,hB.le.cell,hB.le.blk⟩,hB.os,hB.tape,hB.output,fun b hb _=>⟨(hB.same b hb rfl).1,(hB.same b hb rfl).2.1⟩⟩,hv⟩
theorem Z1c {fn:Func} {r:ResultVar} {v:Value} {xs:List α} {a:Act} {g g0:G} {L:Z4} (hr:fn.results=#[r]) (h0:∀ b,g0.own b=0) (h:St N L a g) (hb:Base g0 g) (h1:Zf8 P a g r v) (hq:(pOwn dk e j c (xs.map some)).p g v):bodyPost P fn (FinP (Zqv dk e xs g0)) .ret a g.w:=by
 refine endP hr h h1 ⟨hb,?_⟩
 obtain ⟨b,cap,cur,e1,hO,_⟩:=hq
 refine .inr ⟨b,cap,cur,by rw [e1];simp,Nat.le_of_not_lt fun hlt=>?_,hO.lt,hO.heap,by simpa using hO.len,hO.max,hO.sz,fun i x hx=>hO.known i x (by rw [List.getElem?_map,hx];rfl),hO.npr⟩
 have:=(hb.same b hlt (h0 b)).2.2
 rw [hO.own] at this;omega
theorem Zwi {fn:Func} {r:ResultVar} {v:Value} {a:Act} {g g0:G} {L:Z4} (hr:fn.results=#[r]) (h:St N L a g) (hb:Base g0 g) (h1:Zf8 P a g r v) (hq:∃ A,v=.slice A 0 0):bodyPost P fn (FinP (Zqv dk e [] g0)) .ret a g.w:=endP hr h h1 ⟨hb,.inl ⟨rfl,hq⟩⟩
theorem Z6k {xs:List α} {g g0:G} {b cap:Nat} {cur:Array Value} (hb:Base g0 g) (hO:OwnAt dk e (j + 1) (xs.map some) g b cap cur):∃ g',g'.w=g.w ∧ Base g0 g' ∧ (dk.sl.pd xs).p g' (.slice (some ⟨b,0,none⟩) xs.length cap):=by
 let g':G:=⟨g.w,fun b' o=>g.pr b' o ∨ b'=b,g.own,fun b' o h=>h.elim (g.hpr b' o) (fun h=>by rw [h];exact hO.lt),g.gl.le (fun _ _ h=>.inl h) (fun _ _ _=>rfl)⟩
 have hle:g.le g':=⟨Nat.le_refl _,fun _ _ h=>.inl h,fun _ _ _=>rfl,fun _ _=>rfl⟩
 have hl:=hO.len
 rw [List.length_map] at hl
 have hm:=hO.max
 refine ⟨g',rfl,⟨hb.le.trans hle,hb.os,hb.tape,hb.output,fun c hc h0=>?_⟩,Kd.sl_V.2 ⟨_,cap,rfl,hl,by simp only [maxLen] at hm;omega,.inr ⟨b,0,rfl,fun i x hx=>?_⟩⟩⟩
 · obtain ⟨k1,k2,k3⟩:=hb.same c hc h0
   refine ⟨k1,?_,k3⟩
   have hcb:c ≠ b:=fun h=>by rw [h,hO.own] at k3;omega
   funext o
   show (g.pr c o ∨ c=b)=_
   rw [← k2];simp [hcb]
 · refine ⟨_,dk.mono hle (hO.known i x (by rw [List.getElem?_map,hx];rfl)),fun k u hk=>⟨.inr rfl,?_⟩⟩
   simp only [seg,List.getElem?_take,List.getElem?_drop] at hk
   split at hk
   · show g.w.cell? _=_
     simp only [World.cell?,hO.heap]
     simpa using hk
   · cases hk
def Zui (g0:G) (q:Pd) (v:Value) (g1:G):Prop:=Base g0 g1 ∧ q.p g1 v
theorem Zuf {f : FuncId} {fn : Func} {cd : Code} {A : List Pd} {xs : List α} (hf : P.funcs[f]? = some fn) (hb : fn.body = some cd) (hn : fn.ntmps = N) (hAN : A.length + 1 ≤ N) (hA : Free A)
   (h0:xs=[] → ∀ (a:Act) (g:G) (A0:Option Addr),St N ((0,pEq (.slice A0 0 0)) :: Zjp A 1) a g → Base g g → cd.wp P (bodyPost P fn (FinP (Zui g q))) a g.w)
   (h:∀ (a:Act) (g:G) (cap:Nat),xs.length ≤ cap → cap ≤ maxLen → St N ((0,pOwn dk e 0 (some cap) (xs.map some)) :: Zjp A 1) a g → Base g g → cd.wp P (bodyPost P fn (FinP (Zui g q))) a g.w):Ztz P f dk e xs A q:=by
 intro g v D args hv hargs
 have hlen:=hargs.1
 have hat:∀ (i:Nat) (u:Value),(v :: args)[i]?=some u → Act.at { tmps:=(v :: args).toArray ++ Array.replicate (fn.ntmps - (v :: args).toArray.size) undef,defers:=[] } i=u:=fun i u hi=>by
   have hlt:=(List.getElem?_eq_some_iff.1 hi).1
   simp only [Act.at,Array.getD_eq_getD_getElem?]
   rw [Array.getElem?_append,if_pos (by simpa using hlt)]
   have hi':((v :: args).toArray)[i]?=some u:=by rw [List.getElem?_toArray];exact hi
   rw [hi'];rfl
 have hrest:∀ (g0:G),g.le g0 → g0.w=g.w → Zdj (Zjp A 1) { tmps:=(v :: args).toArray ++ Array.replicate (fn.ntmps - (v :: args).toArray.size) undef,defers:=[] } g0:=fun g0 hle hw e' he'=>by
   obtain ⟨i,e1,e2⟩:=Zkq he'
   have hi:i < args.length:=by rw [hlen];exact (List.getElem?_eq_some_iff.1 e2).1
   rw [hat e'.1 args[i] (by rw [e1,Nat.add_comm];exact List.getElem?_eq_getElem hi)]
   exact Pd.le (hA.at e2) hle (by rw [hw]) (by rw [hw]) (by rw [hw]) (hargs.2 i e'.2 _ e2 (List.getElem?_eq_getElem hi))
 rcases hv with ⟨hx0,A0,rfl⟩ | ⟨b,cap,cur,rfl,hD,h1,h2,h3,h4,h5,h6,h7⟩
 · let g0:G:=⟨g.w,g.pr,fun _=>0,g.hpr,g.gl⟩
   have hle:g.le g0:=⟨Nat.le_refl _,fun _ _ h=>h,fun _ _ _=>rfl,fun _ _=>rfl⟩
   refine Calls.mono (calls_of_wp hf hb (h0 hx0 _ g0 A0 ⟨by simp [hn];omega,rfl,fun e' he'=>?_⟩ ⟨.refl _,rfl,rfl,rfl,fun _ _ _=>⟨rfl,rfl,rfl⟩⟩)) ?_
   · rcases List.mem_cons.1 he' with rfl | he'
     · exact hat 0 _ rfl
     · exact hrest g0 hle rfl e' he'
   · rintro en w' ⟨g1,u,rfl,rfl,hB,hq⟩
     exact ⟨g1,u,rfl,rfl,⟨⟨hB.le.size,hB.le.pr,hB.le.cell,hB.le.blk⟩,hB.os,hB.tape,hB.output,fun b hb _=>⟨(hB.same b hb rfl).1,(hB.same b hb rfl).2.1⟩⟩,hq⟩
 · let g0:G:=⟨g.w,g.pr,fun c=>if c=b then 1 else 0,g.hpr,g.gl⟩
   have hle:g.le g0:=⟨Nat.le_refl _,fun _ _ h=>h,fun _ _ _=>rfl,fun _ _=>rfl⟩
   refine Calls.mono (calls_of_wp hf hb (h _ g0 cap h3 h4 ⟨by simp [hn];omega,rfl,fun e' he'=>?_⟩ ⟨.refl _,rfl,rfl,rfl,fun _ _ h=>⟨rfl,rfl,h⟩⟩)) ?_
   · rcases List.mem_cons.1 he' with rfl | he'
     · show (pOwn dk e 0 (some cap) (xs.map some)).p g0 _
       rw [hat 0 _ rfl]
       refine ⟨b,cap,cur,by simp,⟨h1,if_pos rfl,fun b' _ ho=>?_,h2,by simpa using h3,h4,h5,fun i x hx=>?_,h7⟩,fun k hk=>Option.some.inj hk⟩
       · have:(if b'=b then 1 else 0)=1:=ho
         split at this
         · assumption
         · omega
       · rw [List.getElem?_map] at hx
         obtain ⟨y,hy,he''⟩:=Option.map_eq_some_iff.1 hx
         obtain rfl:=Option.some.inj he''
         exact dk.mono hle (h6 i y hy)
     · exact hrest g0 hle rfl e' he'
   · rintro en w' ⟨g1,u,rfl,rfl,hB,hq⟩
     refine ⟨g1,u,rfl,rfl,⟨⟨hB.le.size,hB.le.pr,hB.le.cell,hB.le.blk⟩,hB.os,hB.tape,hB.output,fun c hc hn'=>?_⟩,hq⟩
     have:=hB.same c hc (by show (if c=b then 1 else 0)=0;rw [if_neg (fun h=>hn' (by rw [h];exact hD))])
     exact ⟨this.1,this.2.1⟩
theorem Zm3 {fn:Func} {r:ResultVar} {v:Value} {xs:List α} {a:Act} {g g0:G} {L:Z4} (hr:fn.results=#[r]) (h:St N L a g) (hb:Base g0 g) (h1:Zf8 P a g r v) (hq:(pOwn dk e j c (xs.map some)).p g v):bodyPost P fn (FinP (Zui g0 (dk.sl.pd xs))) .ret a g.w:=by
 obtain ⟨b,cap,cur,e1,hO,_⟩:=hq
 obtain ⟨g',hw,hB,hp⟩:=Z6k hb hO
 refine ⟨h.df,v,?_,g',v,rfl,hw.symm,hB,by rw [e1,List.length_map];exact hp⟩
 have h1':(Zgl a.tmps r).run P g.w=.ok v g.w:=h1
 simp [Zie,hr,h1']
theorem Zys {A:Option Addr} (hT:TE P t e dk bytes) (hop:o.op=.slice t x (some y) none none) (hx:Opd uses x (pEq (.slice A 0 0))) (hy:Opd uses y (pInt .i64 0)):OB P N o uses [] []:=by
 intro a g K Q hN hdN hu hK
 have hv:a.eval x=.slice A 0 0:=hx a g hu
 obtain ⟨i,zz,hi,hz,hsz,hby,hzs⟩:=hT.info
 have hb:∀ w cd,(Instr.sliceBound (a.eval y) 0 cd).run P w=.ok 0 w:=fun w cd=>Zhb (Zb3.1 (hy a g hu)) (Nat.le_refl _)
 have hr:∃ v,(execOp a.eval o).run P g.w=.ok (.value v) g.w:=by
   simp [execOp,hop,hv,Instr.sliceAt,Instr.slice,Instr.sliceBounds,run_underlying hT.und,hb,sizeOf,typeInfo,hi]
 obtain ⟨v,hr⟩:=hr
 unfold Oper.wp
 rw [hr]
 exact hK v g (.refl _ _) (fun e he=>by cases he)
theorem Z3n {A:Option Addr} {t:TypeId} (ht:P.underlying t=some (.slice e)) (hop:o.op=.call { callee:=.builtin .len,args:=#[x],argTypes:=#[t] }) (hd:o.dst=some d) (hx:Opd uses x (pEq (.slice A 0 0))):OB P N o uses [(d,pInt .i64 0)] [] :=
 Zb1 hd fun a g hh=>by
   have hv:a.eval x=.slice A 0 0:=hx a g hh
   exact ⟨.int .i64 0,by simp [execOp,hop,resolve,invoke,builtin,hv,Builtin.len_,run_underlying ht,goInt],Ze3 _ _ g⟩
theorem Zrb {A : Option Addr} {vs : List α} (hT : TE P t e dk bytes) (hop : o.op = .call { callee := .builtin .append, args := #[x, y], argTypes := #[t, t] }) (hd : o.dst = some d) (hx : Opd uses x (pEq (.slice A 0 0))) (hy : Opd uses y (dk.sl.pd vs)) (hpos : 0 < vs.length) (hl : vs.length * bytes ≤ 140737488355328) :
   OB P N o uses [(d,pOwn dk e j none (vs.map some))] [j + 1] :=
 Zfo hd fun a g hh=>by
   have hv:a.eval x=.slice A 0 0:=hx a g hh
   obtain ⟨A2,c2,hy1,hy2,hy3,hyr⟩:=Zmd (hy a g hh)
   obtain ⟨i,zz,hi,hz,hsz,hby,hzs⟩:=hT.info
   have hlen:vs.length ≤ 140737488355328:=Nat.le_trans (Nat.le_mul_of_pos_right _ hT.by0) hl
   obtain ⟨b2,o2,news,rfl,hnl,hnc,hnk⟩:=hyr.resolve_left (fun h=>by rw [h] at hpos;simp at hpos)
   have hnl':news.length=vs.length * i.size:=by rw [hsz];exact hnl
   have hnews:∀ k u,news[k]?=some u → g.w.cell? ((⟨b2,o2,none⟩:Addr).add k)=some u:=fun k u hu=>by rw [Zcu];exact (hnc k u hu).2
   have hge:=grownCap_ge g.w vs.length 0 e
   have hmx:=grownCap_le_maxLen g.w vs.length 0 e (by simp only [maxLen];omega)
   have hr:(Builtin.append_ #[t,t] o.type #[.slice A 0 0,.slice (some ⟨b2,o2,none⟩) vs.length c2]).run P g.w=.ok (.slice (some ⟨g.w.heap.size,0,none⟩) vs.length (grownCap g.w vs.length 0 e)) (g.w.drew.alloc (.cells (news.toArray ++ Builtin.zeroCells zz.cells (grownCap g.w vs.length 0 e - vs.length)) e)):=by
     cases A with
     | none=>exact run_append_nil (P:=P) g.w t o.type e i zz hT.und hi hz ⟨b2,o2,none⟩ vs.length c2 news hnl' hnews hpos (by omega) (by rw [hby];omega)
     | some A =>
       have:=run_append_grow (P:=P) g.w t o.type e i zz hT.und hi hz A 0 0 [] (by simp) (fun j u hu=>by simp at hu) ⟨b2,o2,none⟩ vs.length c2 news hnl' hnews (by omega) (by omega) (growslice_fits (by omega) (by rw [hby,Nat.zero_add];exact hl))
       simpa using this
   obtain ⟨g', hw, hst, hO3⟩ := Zqq (dk := dk) (e := e) (g := g) (j := j + 1) (cur := news.toArray ++ Builtin.zeroCells zz.cells (grownCap g.w vs.length 0 e - vs.length)) (cap := grownCap g.w vs.length 0 e) (fs := vs.map some) (by omega) (by simpa using hge) hmx (by
       simp only [Array.size_append,List.size_toArray,Zjm,hzs,hnl,← Nat.add_mul]
       congr 1;omega) (fun k u hk=>by
       rw [List.getElem?_map] at hk
       obtain ⟨u',hu',he'⟩:=Option.map_eq_some_iff.1 hk
       obtain rfl:=Option.some.inj he'
       simp only [Array.toList_append]
       rw [Zd0 (by rw [hnl];exact Zhg (List.getElem?_eq_some_iff.1 hu').1)]
       exact hnk _ _ hu')
   refine ⟨_,g',?_,hst,_,_,_,rfl,hO3,fun k hk=>by cases hk⟩
   rw [List.length_map]
   simp [execOp,hop,resolve,invoke,builtin,hv,hy1,hr,hw]
theorem Zwx (xs vs:List α) (k i:Nat) (hk:k ≤ xs.length):((xs.take k ++ vs ++ xs.drop k).map some)[i]?=if i < k then (xs[i]?).map some else if i < k + vs.length then (vs[i - k]?).map some else (xs[i - vs.length]?).map some:=by
 have h1:(xs.take k).length=k:=by simp;omega
 rw [List.getElem?_map,List.append_assoc,List.getElem?_append,h1]
 by_cases a:i < k
 · rw [if_pos a,if_pos a,List.getElem?_take,if_pos a]
 · rw [if_neg a,if_neg a,List.getElem?_append]
   by_cases b:i < k + vs.length
   · rw [if_pos b,if_pos (by omega)]
   · rw [if_neg b,if_neg (by omega),List.getElem?_drop]
     congr 2;omega
theorem ins1 {xs vs:List α} {k:Nat} (hk:k ≤ xs.length):over (over ((xs.take k).map some ++ List.replicate (xs.length + vs.length - k) none) k vs) (k + vs.length) (xs.drop k)=(xs.take k ++ vs ++ xs.drop k).map some:=by
 have hl:((xs.take k).map some ++ List.replicate (xs.length + vs.length - k) (none:Option α)).length=xs.length + vs.length:=by simp;omega
 apply List.ext_getElem?
 intro i
 rw [Zi1 (by rw [Zj3 (by rw [hl];omega),hl];simp;omega),Zi1 (by rw [hl];omega),Zwx xs vs k i hk]
 have hd:(xs.drop k).length=xs.length - k:=by simp
 by_cases a:i < k
 · rw [if_pos (by omega),if_pos a,if_pos a,List.getElem?_append_left (by simp;omega),List.getElem?_map,List.getElem?_take,if_pos a]
 · by_cases b:i < k + vs.length
   · rw [if_pos b,if_neg a,if_pos b,if_neg a,if_pos b]
   · rw [if_neg b,if_neg a,if_neg b]
     by_cases c:i < xs.length + vs.length
     · rw [if_pos (by rw [hd];omega),List.getElem?_drop]
       rw [show k + (i - (k + vs.length))=i - vs.length by omega,if_neg a,if_neg b]
     · rw [if_neg (by rw [hd];omega),if_neg a,if_neg b,List.getElem?_eq_none (by rw [hl];omega),List.getElem?_eq_none (by omega)];rfl
theorem ins2 {xs vs:List α} {k:Nat} (hk:k ≤ xs.length):over (over (xs.map some ++ List.replicate (xs.length + vs.length - (xs.map some).length) none) (k + vs.length) (xs.drop k)) k vs=(xs.take k ++ vs ++ xs.drop k).map some:=by
 have hl:(xs.map some ++ List.replicate (xs.length + vs.length - (xs.map some).length) (none:Option α)).length=xs.length + vs.length:=by simp
 have hd:(xs.drop k).length=xs.length - k:=by simp
 apply List.ext_getElem?
 intro i
 rw [Zi1 (by rw [Zj3 (by rw [hl,hd];omega),hl];omega),Zi1 (by rw [hl,hd];omega),Zwx xs vs k i hk]
 by_cases a:i < k
 · rw [if_pos a,if_pos (by omega),if_pos a,List.getElem?_append_left (by simp;omega),List.getElem?_map]
 · by_cases b:i < k + vs.length
   · rw [if_neg a,if_pos b,if_neg a,if_pos b]
   · rw [if_neg a,if_neg b,if_neg b,if_neg a,if_neg b]
     by_cases c:i < xs.length + vs.length
     · rw [if_pos (by rw [hd];omega),List.getElem?_drop]
       rw [show k + (i - (k + vs.length))=i - vs.length by omega]
     · rw [if_neg (by rw [hd];omega),List.getElem?_eq_none (by rw [hl];omega),List.getElem?_eq_none (by omega)];rfl
theorem Zpm {a b:Nat} (h:a + b ≤ 9223372036854775807):IntKind.i64.wrap ((a:Int) + (b:Int))=((a + b:Nat):Int):=by rw [Zwu (by omega) (by omega)];omega
theorem Z5l {x:Nat} {n k:Nat} (hx:x=n) (h:k ≤ n) (hn:n ≤ 9223372036854775807):IntKind.i64.wrap ((x:Int) - (k:Int))=((n - k:Nat):Int):=by rw [Zwu (by omega) (by omega)];omega
theorem Zrs (xs:List α) (k:Nat):∀ (i:Nat) (x:α),(xs.take k)[i]?=some x → (xs.map some)[i]?=some (some x):=fun i x hx=>by
 rw [List.getElem?_take] at hx
 split at hx
 · rw [List.getElem?_map,hx];rfl
 · cases hx
theorem Zxv (xs:List α) (k:Nat):∀ (i:Nat) (x:α),(xs.drop k)[i]?=some x → (xs.map some)[k + i]?=some (some x):=fun i x hx=>by
 rw [List.getElem?_drop] at hx
 rw [List.getElem?_map,hx];rfl
theorem Zkl {f : FuncId} {C : List Pd} {Ps Qs : List Par} {xs : List Operand} {hs ks : List Home} {ty : Array TypeId} {outs : Z4} {S : List Nat} (he : Zl P f) (hok : FnB P f (Ps ++ Qs) q) (hop : o.op = .call { callee := .value x, args := xs.toArray, argTypes := ty }) (hd : o.dst = some d) (hq : q.fp = []) (hf : Opd uses x (Zt2 f C)) (hx : OpB uses Ps xs hs) (hc : CapB uses C Qs ks)
   (hne:((hs ++ ks).all fun h=>h.1 != d)=true) (hj:(hs.all fun h=>ks.all fun k=>k.2.2 != h.2.2)=true) (ho:outs=(d,q) :: Zih (Ps ++ Qs) (hs ++ ks)) (hS:S=SB (hs ++ ks)):OB P N o uses outs S:=by
 subst ho;subst hS;exact Zyz he hok hop hd hq hne hj hf hx hc
def pFun (P:Program) (Φ:FuncId → List Pd → Prop):Pd:=⟨fun g v=>∃ (f:FuncId) (C:List Pd) (caps:List Value),v=.func (.func f) #[] caps.toArray ∧ Zl P f ∧ Free C ∧ Φ f C ∧ ArgsOk C g caps ∧ (∀ q ∈ C,∀ (g g':G) (u:Value),g.le g' → q.p g u → q.p g' u),[],fun s _ ⟨f,C,caps,h1,h2,h3,h4,h5,h6⟩=>⟨f,C,caps,h1,h2,h3,h4,⟨h5.1,fun i qi u hq hu=>qi.st s (by rw [h3.at hq];intro j hj;cases hj) (h5.2 i qi u hq hu)⟩,h6⟩⟩
theorem Zya {Φ : FuncId → List Pd → Prop} {Ps : List Par} {xs : List Operand} {hs : List Home} {ty : Array TypeId} {outs : Z4} {S : List Nat} (hΦ : ∀ f C, Φ f C → FnB P f (Ps ++ C.map .val) q) (hop : o.op = .call { callee := .value x, args := xs.toArray, argTypes := ty }) (hd : o.dst = some d) (hq : q.fp = []) (hf : Opd uses x (pFun P Φ)) (hx : OpB uses Ps xs hs) (hne : (hs.all fun h => h.1 != d) = true)
   (ho:outs=(d,q) :: Zih Ps hs) (hS:S=SB hs):OB P N o uses outs S:=by
 subst ho;subst hS
 refine Zqg hq hd (fun h hh=>by simpa using List.all_eq_true.1 hne h hh) fun a g hu=>?_
 obtain ⟨f,C,caps,h1,h2,h3,h4,h5,_⟩:=hf a g hu
 refine ⟨f,Ps ++ C.map .val,xs.map a.eval ++ caps,hΦ f C h4,Zml.symm,?_,?_⟩
 · simp [execOp,hop,resolve,h1,Deferred.ofValue,invoke,Zhh h2]
 · have:=Znu (hx.ok hu) (Ztb (a:=a) h5) (fun h _ k hk=>by cases hk)
   rwa [List.append_nil] at this
def pTab (P:Program) (n:Nat) (Φ:Nat → Option (FuncId → List Pd → Prop)):Pd:=⟨fun g v=>∃ cs:List Value,v=.agg cs.toArray ∧ cs.length=n ∧ ∀ (k:Nat) (F:FuncId → List Pd → Prop) (u:Value),Φ k=some F → cs[k]?=some u → (pFun P F).p g u,[],fun s hd ⟨cs,h1,h2,h3⟩=>⟨cs,h1,h2,fun k F u hF hu=>(pFun P F).st s (fun j hj=>by cases hj) (h3 k F u hF hu)⟩⟩
theorem Zv5 {t e : TypeId} {n : Nat} {i : Int} {Φ : Nat → Option (FuncId → List Pd → Prop)} {F : FuncId → List Pd → Prop} (ht : P.underlying t = some (.array n e)) (hs : (P.info? e).map (·.size) = some 1) (hu : ∃ u, P.underlying e = some u ∧ (match u with | .struct _ | .array _ _ => true | _ => false) = false) (h0 : 0 ≤ i) (hF : Φ i.toNat = some F) (hn : i.toNat < n)
   (hop:o.op=.index t x y) (hd:o.dst=some d) (hx:Opd uses x (pTab P n Φ)) (hy:Opd uses y (pInt .i64 i)):OB P N o uses [(d,pFun P F)] [] :=
 Zb1 hd fun a g hh=>by
   obtain ⟨cs,hv,hl,h3⟩:=hx a g hh
   have hyv:=Zb3.1 (hy a g hh)
   have hlt:i.toNat < cs.length:=by omega
   obtain ⟨u,hu1,hu2⟩:=hu
   have hag:(isAgg e).run P g.w=.ok false g.w:=by
     unfold isAgg
     simp only [Sem.run_bind,run_underlying hu1,Result.andThen_ok]
     cases u <;> first | rfl | simp at hu2
   refine ⟨cs[i.toNat],?_,h3 i.toNat F _ hF (List.getElem?_eq_getElem hlt)⟩
   have h1:i < (n:Int):=by omega
   simp [execOp,hop,hv,hyv,Instr.index,asIntOf,run_underlying ht,h0,h1,Zfu hs,part,hag,hlt]
def Kd.fnc:Kd Nat:=Kd.scalar (fun f=>.func (.func f) #[] #[]) fun _=>rfl
theorem Opd.fncv {f:Nat}:Opd uses (.func f) (Kd.fnc.pd f):=fun _ _ _=>Kd.scalar_V.2 rfl
theorem Z4g {f:Nat} {g:G} {v:Value} (h:(Kd.fnc.pd f).p g v):(pClo f [] rfl).p g v:=by
 obtain ⟨cs,rfl,rfl⟩:=h
 exact ⟨[],rfl,Zdk⟩
theorem Zi3 {f:Nat}:∀ q ∈ [Kd.fnc.ptr f],∀ (g g':G) (u:Value),g.le g' → q.p g u → q.p g' u:=fun q hq g g' u hle h=>by
 rw [List.mem_singleton.1 hq] at h ⊢
 obtain ⟨b,o,cs,e,hk,hc⟩:=h
 exact ⟨b,o,cs,e,Kd.fnc.mono hle hk,hc.mono hle⟩
theorem Z29 {Φ:FuncId → List Pd → Prop} {g g':G} {v:Value} (h:g.le g') (hv:(pFun P Φ).p g v):(pFun P Φ).p g' v:=by
 obtain ⟨f,C,caps,h1,h2,h3,h4,h5,h6⟩:=hv
 exact ⟨f,C,caps,h1,h2,h3,h4,⟨h5.1,fun i qi u hq hu=>h6 qi (List.mem_of_getElem? hq) _ _ _ h (h5.2 i qi u hq hu)⟩,h6⟩
abbrev TabT:=Nat → Option (FuncId → List Pd → Prop)
def Kd.tab (P:Program) (n:Nat) (hn:n ≠ 1):Kd TabT where
 sz:=n
 ag:=true
 K:=fun g Φ cs=>cs.length=n ∧ (∀ u ∈ cs,u.oneCell'=true) ∧ ∀ (k:Nat) (F:FuncId → List Pd → Prop) (u:Value),Φ k=some F → cs[k]?=some u → (pFun P F).p g u
 len:=fun h=>h.1
 one:=fun h=>h.2.1
 mono:=fun hle h=>⟨h.1,h.2.1,fun k F u hF hu=>Z29 hle (h.2.2 k F u hF hu)⟩
 nag:=fun h=>by cases h
theorem Z1d {n:Nat} {hn:n ≠ 1} {Φ:TabT} {g:G} {v:Value} (h:((Kd.tab P n hn).pd Φ).p g v):(pTab P n Φ).p g v:=by
 obtain ⟨cs,⟨h1,h2,h3⟩,rfl⟩:=h
 exact ⟨cs,rfl,h1,h3⟩
theorem Zur {t e : TypeId} {n : Nat} {zero : Value} (hu : P.underlying t = some (.array n e)) (hz : (P.info? t).bind (·.zero) = some zero) (hs : (P.info? e).map (·.size) = some 1) {parts : Array (Nat × Value)} {cells : Array Value}
   (hf:Instr.fill (fun i=>some (i * 1,1)) zero.cells parts.toList=some cells) (w:World):(Instr.build t parts).run P w=.ok (.agg cells) w:=by
 obtain ⟨i,hi,hz⟩:=Option.bind_eq_some_iff.1 hz
 have hf':Instr.fill (fun i=>some (i,1)) zero.cells parts.toList=some cells:=by simpa using hf
 simp [Instr.build,zeroValue,typeInfo,hi,hz,run_underlying hu,Zfu hs,hf']
end
section
variable {P:Program} {N:Nat} {o:Oper} {uses:Z4} {d:Nat} {q:Pd} {x y z:Operand} {α β γ:Type} {dk:Kd α} {di:Kd β} {dj:Kd γ} {t e:TypeId} {bytes j:Nat}
theorem Z06 {cs:List Value} {a n b m:Nat} (h:b + m ≤ n):seg (seg cs a n) b m=seg cs (a + b) m:=by
 simp only [seg,List.drop_take,List.drop_drop,List.take_take]
 congr 1
 omega
theorem Zz7 {cs ys:List Value} {a n b:Nat} (h:b + ys.length ≤ n) (hn:a + n ≤ cs.length):Zz cs a (Zz (seg cs a n) b ys)=Zz cs (a + b) ys:=by
 have hl:(seg cs a n).length=n:=by simp [seg];omega
 have hs:(Zz (seg cs a n) b ys).length=n:=by simp [Zz,hl];omega
 apply List.ext_getElem?
 intro i
 simp only [Zz,seg,List.append_assoc,List.getElem?_append,List.length_take,List.length_drop,List.length_append,List.getElem?_take,List.getElem?_drop]
 repeat' split
 all_goals (try omega)
 all_goals (first | rfl | (congr 1;omega))
def pEl (dk:Kd α) (e:TypeId) (j:Nat) (xs:List α) (i off:Nat) (di:Kd β) (u:β):Pd:=⟨fun g v=>∃ b cap cur,v=.pointer (some ⟨b,i * dk.sz + off,none⟩) ∧ OwnAt dk e (j + 1) (xs.map some) g b cap cur ∧ i < xs.length ∧ off + di.sz ≤ dk.sz ∧ di.K g u (seg cur.toList (i * dk.sz + off) di.sz),[j + 1],
 fun s hd ⟨b,cap,cur,e,h,h1,h2,h3⟩=>⟨b,cap,cur,e,h.st s (hd _ (by simp)) (by omega),h1,h2,di.mono s.le h3⟩⟩
theorem Zka {k:IntKind} {xs:List α} {n:Int} {u:α} {ix:Operand} (ht:P.underlying t=some (.slice e)) (hs:(P.info? e).map (·.size)=some dk.sz) (hop:o.op=.indexAddr t x ix) (hd:o.dst=some d) (hx:Opd uses x (pArr dk e j xs)) (hi:Opd uses ix (pInt k n)) (h:idx xs n=some u):OB P N o uses [(d,pEl dk e j xs n.toNat 0 dk u)] [] :=
 Zb1 hd fun a g hh=>by
   have hn:=Zb3.1 (hi a g hh)
   unfold idx at h
   split at h
   · rename_i h0
     have hlt:=(List.getElem?_eq_some_iff.1 h).1
     rcases hx a g hh with ⟨rfl,_⟩ | ⟨b,cap,cur,hv,hO⟩
     · simp at h
     · have hb:0 ≤ n ∧ n < (xs.length:Int):=⟨h0,by omega⟩
       refine ⟨.pointer (some ⟨b,n.toNat * dk.sz,none⟩),by simp [execOp,hop,hv,hn,Instr.indexAt,asIntOf,run_underlying ht,hb,Zfu hs,Zcu],b,cap,cur,rfl,hO,hlt,by omega,hO.known _ _ (by simp [h])⟩
   · cases h
theorem Z00 {fs:List (Option α)} {g:G} {b cap:Nat} {cur:Array Value} (h:OwnAt dk e j fs g b cap cur) (i:Nat) (u:Value) (hu:cur.toList[i]?=some u):g.w.cell? ⟨b,i,none⟩=some u:=by
 simp only [World.cell?,h.heap]
 simpa using hu
theorem Ztk {i off:Nat} {xs:List α} {u:β} (hT:Ty P t di) (hop:o.op=.load t x) (hd:o.dst=some d) (hx:Opd uses x (pEl dk e j xs i off di u)):OB P N o uses [(d,di.pd u)] [] :=
 Zb1 hd fun a g hh=>by
   obtain ⟨b,cap,cur,hv,hO,h1,h2,hk⟩:=hx a g hh
   refine ⟨mkV di.ag (seg cur.toList (i * dk.sz + off) di.sz),?_,_,hk,rfl⟩
   have:=Zjv (b:=b) (of:=i * dk.sz + off) hT hk (fun k u hu=>by
     refine Z00 hO (i * dk.sz + off + k) u ?_
     simp only [seg,List.getElem?_take,List.getElem?_drop] at hu
     split at hu
     · exact hu
     · cases hu)
   simp [execOp,hop,hv,Instr.loadAt,Instr.sureAddr,this]
theorem Z4z {g : G} {b cap i off : Nat} {xs : List α} {cur : Array Value} {u u' : α} {ys : List Value} (hO : OwnAt dk e (j + 1) (xs.map some) g b cap cur) (hi : xs[i]? = some u) (hfit : off + ys.length ≤ dk.sz) (hk : dk.K g u' (Zz (seg cur.toList (i * dk.sz) dk.sz) off ys)) :
   ∃ g':G,g'.w=g.w.setRow b (Zz cur.toList (i * dk.sz + off) ys).toArray ∧ Step [j + 1] g g' ∧ OwnAt dk e (j + 1) ((xs.set i u').map some) g' b cap (Zz cur.toList (i * dk.sz + off) ys).toArray:=by
 have hlt:=(List.getElem?_eq_some_iff.1 hi).1
 have hcl:cur.toList.length=cap * dk.sz:=by simpa using hO.sz
 have hlen:xs.length ≤ cap:=by simpa using hO.len
 have hin:i * dk.sz + dk.sz ≤ cap * dk.sz:=Zhg (by omega)
 have hl:=dk.len hk
 obtain ⟨g',e1,e2,e3⟩:=Zoq (ws:=[u']) (off:=i) (news:=Zz (seg cur.toList (i * dk.sz) dk.sz) off ys) hO (by rw [hl];simp) (by simp;omega) (fun k x hx=>by
   cases k with
   | zero =>
     simp at hx;subst hx
     rw [Nat.zero_mul]
     have:seg (Zz (seg cur.toList (i * dk.sz) dk.sz) off ys) 0 dk.sz=Zz (seg cur.toList (i * dk.sz) dk.sz) off ys:=by
       simp only [seg,List.drop_zero]
       rw [List.take_of_length_le]
       simp only [seg] at hl
       omega
     rw [this];exact hk
   | succ k=>simp at hx)
 rw [Zz7 hfit (by omega)] at e1 e3
 refine ⟨g',e1,e2,⟨e3.lt,e3.own,e3.uniq,e3.heap,by simpa using hO.len,e3.max,e3.sz,fun k x hx=>e3.known k x ?_,e3.npr⟩⟩
 rw [Zi1 (by simp;omega)]
 simp only [List.getElem?_map,List.getElem?_set,List.length_singleton] at hx ⊢
 by_cases h1:k < i
 · rw [if_pos h1]
   rw [if_neg (by omega)] at hx
   exact hx
 · rw [if_neg h1]
   by_cases h2:k < i + 1
   · have:k=i:=by omega
     subst this
     rw [if_pos h2]
     simp only [if_pos hlt,if_true] at hx
     simpa using hx
   · rw [if_neg h2]
     rw [if_neg (by omega)] at hx
     exact hx
theorem Zqc {i off : Nat} {xs : List α} {u : α} {v1 v2 : β} {u' : α} {g : G} {pv w : Value} (hT : Ty P t di) (hx : (pEl dk e j xs i off di v1).p g pv) (hz : (di.pd v2).p g w) (hi : xs[i]? = some u) (hw : ∀ g cs ys, dk.K g u cs → di.K g v2 ys → off + ys.length ≤ cs.length → dk.K g u' (Zz cs off ys)) :
   ∃ (b cap:Nat) (cur cur':Array Value) (g':G),pv=.pointer (some ⟨b,i * dk.sz + off,none⟩) ∧ OwnAt dk e (j + 1) (xs.map some) g b cap cur ∧ (storeVar t ⟨b,i * dk.sz + off,none⟩ w).run P g.w=.ok () g'.w ∧ Step [j + 1] g g' ∧ OwnAt dk e (j + 1) ((xs.set i u').map some) g' b cap cur':=by
 obtain ⟨b,cap,cur,rfl,hO,h1,h2,h3⟩:=hx
 obtain ⟨ys,hk,rfl⟩:=hz
 have hyl:=di.len hk
 have hcl:cur.toList.length=cap * dk.sz:=by simpa using hO.sz
 have hlen:xs.length ≤ cap:=by simpa using hO.len
 have hin:i * dk.sz + dk.sz ≤ cap * dk.sz:=Zhg (by omega)
 have hku:=hO.known i u (by simp [hi])
 obtain ⟨g',e1,e2,e3⟩:=Z4z (u':=u') (ys:=ys) (off:=off) hO hi (by omega) (hw g _ _ hku hk (by rw [dk.len hku];omega))
 have hst:=Zh1 (off:=i * dk.sz + off) hT hO.heap hk (by rw [hO.sz];omega)
 exact ⟨b,cap,cur,_,g',rfl,hO,by rw [e1];simpa [Zz] using hst,e2,e3⟩
theorem Zye {s i off : Nat} {xs : List α} {u : α} {v1 v2 : β} {u' : α} (hT : Ty P t di) (hop : o.op = .store t x z) (hd : o.dst = none) (hs : Opd uses (.tmp s) (pArr dk e j xs)) (hx : Opd uses x (pEl dk e j xs i off di v1)) (hz : Opd uses z (di.pd v2)) (hi : xs[i]? = some u) (h0 : 0 < dk.sz)
   (hw:∀ g cs ys,dk.K g u cs → di.K g v2 ys → off + ys.length ≤ cs.length → dk.K g u' (Zz cs off ys)):OB P N o uses [(s,pArr dk e j (xs.set i u'))] [j + 1] :=
 Znb hd fun a g hh=>by
   obtain ⟨b,cap,cur,cur',g',hv,hO,hr,hst,hO'⟩:=Zqc hT (hx a g hh) (hz a g hh) hi hw
   refine ⟨g',by simp [execOp,hop,hv,Instr.storeAt,Instr.sureAddr,hr],hst,fun e he=>?_⟩
   rw [List.mem_singleton.1 he]
   rcases hs a g hh with ⟨rfl,_⟩ | ⟨b2,cap2,cur2,hv2,hO2⟩
   · simp at hi
   · obtain ⟨rfl,rfl,rfl⟩:=hO.same hO2 h0
     exact .inr ⟨b2,cap2,cur',by rw [List.length_set];exact hv2,hO'⟩
end
section
variable {P:Program} {N:Nat} {o:Oper} {uses outs:Z4} {S:List Nat} {d:Nat} {q:Pd} {x y z:Operand}
theorem OB.at (h:∀ (a:Act) g,Zdj uses a g → ∃ uses':Z4,Zdj uses' a g ∧ OB P N o uses' outs S):OB P N o uses outs S :=
 fun a g K Q hN hdN hu hK=>let ⟨_,h1,h2⟩:=h a g hu;h2 a g K Q hN hdN h1 hK
theorem OB.frame {n:Nat} (h:OB P N o uses outs S) (hq:∀ j ∈ q.fp,j ∉ S) (hn:o.dst ≠ some n):OB P N o ((n,q) :: uses) ((n,q) :: outs) S:=by
 intro a g K Q hN hdN hu hK
 refine h a g K Q hN hdN (fun e he=>hu e (List.mem_cons_of_mem _ he)) fun v g' hs ho=>hK v g' hs fun e he=>?_
 rcases List.mem_cons.1 he with rfl | he
 · have:=hu (n,q) (List.mem_cons_self ..)
   have h2:=q.st hs hq this
   show q.p g' (Act.at (a.put o.dst v) n)
   rw [Zha v hn];exact h2
 · exact ho e he
def pAt (v:Value) (q:Pd):Pd:=⟨fun g _=>q.p g v,q.fp,fun s hd h=>q.st s hd h⟩
abbrev SlV:=Option Addr × Nat × Nat
def slv (s:SlV):Value:=.slice s.1 s.2.1 s.2.2
def Kd.raw:Kd SlV:=Kd.scalar slv fun _=>rfl
theorem Zzj {s:SlV} {g:G} {v:Value}:(Kd.raw.pd s).p g v ↔ v=slv s:=Kd.scalar_V
variable {α β γ δ ε:Type} {kV:Kd γ} {raw:α → SlV → γ} {lst:α → List β} {dk:Kd β} {di:Kd δ} {dj:Kd ε} {t e j jl:Nat} {xv:α}
def pPX (kV:Kd γ) (j off:Nat) (di:Kd δ) (u:δ):Pd:=⟨fun g v=>∃ w,(Zep kV j w off di u).p g v,[j + 1],fun st hd ⟨w,h⟩=>⟨w,(Zep kV j w off di u).st st hd h⟩⟩
theorem Z09 {g:G}:(pArr dk e jl []).p g (slv (none,0,0)):=.inl ⟨rfl,none,rfl⟩
theorem Z01 {off pt:Nat} {u:δ} (hT:Ty P t di) (hop:o.op=.load t (.tmp pt)) (hd:o.dst=some d) (hx:Opd uses (.tmp pt) (pPX kV j off di u)):OB P N o uses [(d,di.pd u)] [] :=
 OB.at fun a g hh=>by
   obtain ⟨w,h0⟩:=hx a g hh
   exact ⟨[(pt,Zep kV j w off di u)],fun en he=>by rw [List.mem_singleton.1 he];exact h0,Zj6 hT hop hd .t0⟩
theorem Zyp {s k off off2:Nat} {u:δ} {proj:δ → ε} (hF:Fld P s k di dj proj) (ho:(match P.underlying s with | some (.struct F)=>(F[k]?).map (·.offset) | _=>none)=some off2) (hfit:off2 + dj.sz ≤ di.sz) (hop:o.op=.fieldAddr s x k) (hd:o.dst=some d) (hx:Opd uses x (pPX kV j off di u)):OB P N o uses [(d,pPX kV j (off + off2) dj (proj u))] [] :=
 Zb1 hd fun a g hh=>by
   obtain ⟨w,b,cs,t',hv,hm,h3⟩:=hx a g hh
   obtain ⟨fs,f,hu,hi,hsz,hag,h0,hK,_⟩:=hF.look
   have:f.offset=off2:=by simpa [hu,hi] using ho
   subst this
   refine ⟨.pointer (some ⟨b,off + f.offset,none⟩),by simp [execOp,hop,hv,Instr.fieldAt,Instr.sureAddr,run_underlying hu,hi,Zkv hsz h0],w,b,cs,t',rfl,hm,?_⟩
   have:=hK g u _ h3
   rwa [Z06 hfit] at this
end
section
variable {P:Program} {N:Nat} {o:Oper} {uses outs:Z4} {S:List Nat} {d:Nat} {q:Pd} {x y z:Operand}
variable {α β γ δ ε:Type} {kV:Kd γ} {raw:α → SlV → γ} {lst:α → List β} {dk:Kd β} {di:Kd δ} {t e j jl:Nat} {xv:α}
theorem Zsf {xs:List β} (ht:P.underlying t=some (.slice e)) (hop:o.op=.call { callee:=.builtin .len,args:=#[x],argTypes:=#[t] }) (hd:o.dst=some d) (hx:Opd uses x (pArr dk e jl xs)):OB P N o uses [(d,pInt .i64 (xs.length:Int))] [] :=
 Zb1 hd fun a g hh=>by
   rcases hx a g hh with ⟨rfl,A,hv⟩ | ⟨b,cap,cur,hv,_⟩
   · exact ⟨.int .i64 0,by simp [execOp,hop,resolve,invoke,builtin,hv,Builtin.len_,run_underlying ht,goInt],Ze3 _ _ g⟩
   · exact ⟨.int .i64 xs.length,by simp [execOp,hop,resolve,invoke,builtin,hv,Builtin.len_,run_underlying ht,goInt],Ze3 _ _ g⟩
theorem Zpx {xs:List β} {n:Int} {u:β} (h:idx xs n=some u):xs[n.toNat]?=some u:=by
 unfold idx at h
 split at h
 · exact h
 · cases h
end
end Go.CL
namespace Go.CL
open Go
def INF:Nat:=9218868437227405312
def TOP:Nat:=9223372036854775808
def BIN:Nat:=4503599627370496
def rg (b:Nat):Nat:=b % TOP
def isn (b:Nat):Prop:=INF < rg b
instance (b:Nat):Decidable (isn b):=inferInstanceAs (Decidable (INF < rg b))
def sg (b:Nat):Int:=if TOP ≤ b then -((b - TOP:Nat):Int) else (b:Int)
def ngb (b:Nat):Bool:=b / TOP % 2 == 1
def Ziy:Int:=Ieee.double.leastPlace
theorem Zso (b:Nat):Ieee.double.read b=if rg b < BIN then .number (ngb b) (rg b) Ziy else if rg b < INF then .number (ngb b) (BIN + rg b % BIN) (Ziy + (rg b / BIN - 1:Nat)) else if rg b=INF then .infinity (ngb b) else .nan (ngb b) (rg b - INF):=rfl
def mg (r:Nat):Nat:=if r < BIN then r else (BIN + r % BIN) * 2 ^ (r / BIN - 1)
theorem Zua {r s:Nat} (h:r < s):mg r < mg s:=by
 unfold mg
 have hB:0 < BIN:=by decide
 by_cases hr:r < BIN
 ·rw [if_pos hr]
  by_cases hs:s < BIN
  ·rw [if_pos hs];exact h
  ·rw [if_neg hs]
   have:1 ≤ 2 ^ (s / BIN - 1):=Nat.one_le_two_pow
   calc r < BIN:=hr
    _ ≤ BIN + s % BIN:=Nat.le_add_right _ _
    _ ≤ (BIN + s % BIN) * 2 ^ (s / BIN - 1):=Nat.le_mul_of_pos_right _ this
 ·have hs:¬ s < BIN:=by omega
  rw [if_neg hr,if_neg hs]
  have h1:1 ≤ r / BIN:=(Nat.le_div_iff_mul_le hB).2 (by omega)
  have hq:r / BIN ≤ s / BIN:=Nat.div_le_div_right (Nat.le_of_lt h)
  have er:=Nat.div_add_mod r BIN
  have es:=Nat.div_add_mod s BIN
  have hm:r % BIN < BIN:=Nat.mod_lt _ hB
  rcases Nat.lt_or_eq_of_le hq with hlt | heq
  ·have h2:2 ^ (r / BIN - 1) * 2 ≤ 2 ^ (s / BIN - 1):=by
    rw [← Nat.pow_succ]
    exact Nat.pow_le_pow_right (by decide) (by omega)
   have hp:0 < 2 ^ (r / BIN - 1):=Nat.two_pow_pos _
   calc (BIN + r % BIN) * 2 ^ (r / BIN - 1) < (BIN + BIN) * 2 ^ (r / BIN - 1):=Nat.mul_lt_mul_of_pos_right (by omega) hp
    _=BIN * (2 ^ (r / BIN - 1) * 2):=by rw [← Nat.two_mul,Nat.mul_comm (2 ^ (r / BIN - 1)) 2,← Nat.mul_assoc,Nat.mul_comm BIN 2]
    _ ≤ BIN * 2 ^ (s / BIN - 1):=Nat.mul_le_mul_left _ h2
    _ ≤ (BIN + s % BIN) * 2 ^ (s / BIN - 1):=Nat.mul_le_mul_right _ (Nat.le_add_right _ _)
  ·rw [heq]
   rw [heq] at er
   exact Nat.mul_lt_mul_of_pos_right (by omega) (Nat.two_pow_pos _)
theorem Zyr {r s:Nat}:mg r=mg s ↔ r=s:=by
 constructor
 ·intro h
  rcases Nat.lt_trichotomy r s with hlt | heq | hgt
  ·have:=Zua hlt;omega
  ·exact heq
  ·have:=Zua hgt;omega
 ·intro h;rw [h]
theorem Zsr {r s:Nat}:mg r < mg s ↔ r < s:=by
 constructor
 ·intro h
  rcases Nat.lt_trichotomy r s with hlt | heq | hgt
  ·exact hlt
  ·rw [heq] at h;omega
  ·have:=Zua hgt;omega
 ·exact Zua
def sgn (s:Bool) (n:Nat):Int:=if s then -(n:Int) else n
theorem Z5u {s t:Bool} {m n r q:Nat} (h:m < n ↔ r < q) (h':n < m ↔ q < r) (h0:m=0 ↔ r=0) (h0':n=0 ↔ q=0):sgn s m < sgn t n ↔ sgn s r < sgn t q:=by
 cases s <;> cases t <;> simp [sgn] <;> omega
theorem Z6r {s t:Bool} {m n r q:Nat} (h:m < n ↔ r < q) (h':n < m ↔ q < r) (h0:m=0 ↔ r=0) (h0':n=0 ↔ q=0):sgn s m=sgn t n ↔ sgn s r=sgn t q:=by
 cases s <;> cases t <;> simp [sgn] <;> omega
theorem Z6c (a b:Int):compare a b=.lt ↔ a < b:=by
 simp only [compare,compareOfLessAndEq]
 split
 ·simp [*]
 ·split <;> simp [*]
theorem Z5q (a b:Int):compare a b=.eq ↔ a=b:=by
 simp only [compare,compareOfLessAndEq]
 split
 ·rename_i h;simp;omega
 ·split <;> simp [*]
theorem Z1x {b:Nat} (h:b < 18446744073709551616):sg b=sgn (ngb b) (rg b):=by
 unfold sg sgn ngb rg TOP
 split
 ·rename_i h1
  have e1:b / 9223372036854775808=1:=by omega
  have e2:b % 9223372036854775808=b - 9223372036854775808:=by omega
  simp [e1,e2]
 ·have e1:b / 9223372036854775808=0:=by omega
  have e2:b % 9223372036854775808=b:=by omega
  simp [e1,e2]
def nm (r:Nat):Nat:=if r < BIN then r else BIN + r % BIN
def np (r:Nat):Nat:=if r < BIN then 0 else r / BIN - 1
theorem Z2q (r:Nat):mg r=nm r * 2 ^ np r:=by
 unfold mg nm np
 split <;> simp
theorem Zoe {b:Nat} (h:rg b < INF):Ieee.double.read b=.number (ngb b) (nm (rg b)) (Ziy + (np (rg b):Nat)):=by
 rw [Zso]
 unfold nm np
 split
 ·simp
 ·simp [h]
theorem Zy9 (s t:Bool) (r q:Nat):∃ o,Ieee.Datum.order (.number s (nm r) (Ziy + (np r:Nat))) (.number t (nm q) (Ziy + (np q:Nat)))=some o ∧ (o=.lt ↔ sgn s r < sgn t q) ∧ (o=.eq ↔ sgn s r=sgn t q):=by
 refine ⟨_,rfl,?_⟩
 have hmin:min (Ziy + (np r:Nat)) (Ziy + (np q:Nat))=Ziy + (min (np r) (np q):Nat):=by omega
 have e1:(Ziy + (np r:Nat) - min (Ziy + (np r:Nat)) (Ziy + (np q:Nat))).toNat=np r - min (np r) (np q):=by rw [hmin];omega
 have e2:(Ziy + (np q:Nat) - min (Ziy + (np r:Nat)) (Ziy + (np q:Nat))).toNat=np q - min (np r) (np q):=by rw [hmin];omega
 have hs:∀ (s:Bool) (m u:Nat),Ieee.signed s m u=sgn s (m * 2 ^ u):=by
  intro s m u
  simp [Ieee.signed,sgn,Nat.shiftLeft_eq]
 rw [e1,e2,hs,hs,Z6c,Z5q]
 have hc:0 < 2 ^ min (np r) (np q):=Nat.two_pow_pos _
 have m1:nm r * 2 ^ (np r - min (np r) (np q)) * 2 ^ min (np r) (np q)=mg r:=by
  rw [Nat.mul_assoc,← Nat.pow_add,Nat.sub_add_cancel (Nat.min_le_left _ _),Z2q]
 have m2:nm q * 2 ^ (np q - min (np r) (np q)) * 2 ^ min (np r) (np q)=mg q:=by
  rw [Nat.mul_assoc,← Nat.pow_add,Nat.sub_add_cancel (Nat.min_le_right _ _),Z2q]
 have k1:nm r * 2 ^ (np r - min (np r) (np q)) < nm q * 2 ^ (np q - min (np r) (np q)) ↔ r < q:=by
  rw [← Zsr (r:=r) (s:=q),← m1,← m2]
  exact (Nat.mul_lt_mul_right hc).symm
 have k2:nm q * 2 ^ (np q - min (np r) (np q)) < nm r * 2 ^ (np r - min (np r) (np q)) ↔ q < r:=by
  rw [← Zsr (r:=q) (s:=r),← m1,← m2]
  exact (Nat.mul_lt_mul_right hc).symm
 have z0:mg 0=0:=rfl
 have k3:nm r * 2 ^ (np r - min (np r) (np q))=0 ↔ r=0:=by
  have hz:r=0 ↔ mg r=0:=(Zyr (r:=r) (s:=0)).symm
  rw [hz,← m1]
  constructor
  ·intro h;rw [h,Nat.zero_mul]
  ·intro h;exact (Nat.mul_eq_zero.1 h).resolve_right (by omega)
 have k4:nm q * 2 ^ (np q - min (np r) (np q))=0 ↔ q=0:=by
  have hz:q=0 ↔ mg q=0:=(Zyr (r:=q) (s:=0)).symm
  rw [hz,← m2]
  constructor
  ·intro h;rw [h,Nat.zero_mul]
  ·intro h;exact (Nat.mul_eq_zero.1 h).resolve_right (by omega)
 exact ⟨Z5u k1 k2 k3 k4,Z6r k1 k2 k3 k4⟩
theorem Zoc {a b:Nat} (ha:a < 18446744073709551616) (hb:b < 18446744073709551616) (na:¬ isn a) (nb:¬ isn b):∃ o,Ieee.double.order a b=some o ∧ (o=.lt ↔ sg a < sg b) ∧ (o=.eq ↔ sg a=sg b):=by
 rw [Z1x ha,Z1x hb]
 unfold isn at na nb
 have hI:INF=9218868437227405312:=rfl
 have rd:∀ x,¬ INF < rg x → rg x < INF ∨ rg x=INF:=fun x h=>by omega
 have ri:∀ x,rg x=INF → Ieee.double.read x=.infinity (ngb x):=fun x h=>by
  rw [Zso,if_neg (by rw [h];decide),if_neg (by rw [h];decide),if_pos h]
 unfold Ieee.Format.order
 rcases rd a na with h1 | h1 <;> rcases rd b nb with h2 | h2
 ·rw [Zoe h1,Zoe h2];exact Zy9 _ _ _ _
 ·rw [Zoe h1,ri b h2]
  refine ⟨_,rfl,?_⟩
  rw [h2]
  cases ngb a <;> cases ngb b <;> simp [sgn] <;> omega
 ·rw [ri a h1,Zoe h2]
  refine ⟨_,rfl,?_⟩
  rw [h1]
  cases ngb a <;> cases ngb b <;> simp [sgn] <;> omega
 ·rw [ri a h1,ri b h2]
  refine ⟨_,rfl,?_⟩
  rw [h1,h2]
  cases ngb a <;> cases ngb b <;> simp [sgn] <;> first | decide | omega
theorem Zst {a b:Nat} (h:isn a ∨ isn b):Ieee.double.order a b=none:=by
 have rn:∀ x,isn x → ∃ s f,Ieee.double.read x=.nan s f:=fun x h=>by
  refine ⟨ngb x,rg x - INF,?_⟩
  unfold isn at h
  have hI:INF=9218868437227405312:=rfl
  have hB:BIN=4503599627370496:=rfl
  rw [Zso,if_neg (by omega),if_neg (by omega),if_neg (by omega)]
 unfold Ieee.Format.order
 rcases h with h | h
 ·obtain ⟨s,f,e⟩:=rn a h
  rw [e];rfl
 ·obtain ⟨s,f,e⟩:=rn b h
  rw [e]
  cases Ieee.double.read a <;> rfl
end Go.CL
namespace Go.CL
open Go Go.RowKit
def fadd (m n:Nat):Nat:=(Ieee.double.add m n).getD 9221120237041090561
def fmul (m n:Nat):Nat:=(Ieee.double.mul m n).getD 9221120237041090561
theorem Z02 {b:Nat} (h:isn b):fneq b b=true:=by
 unfold fneq
 show (Ieee.double.order b b != some .eq)=true
 rw [Zst (.inl h)];rfl
section
variable {P:Program} {N:Nat} {o:Oper} {uses:Z4} {d:Nat} {q:Pd} {x y z:Operand}
def Zt0 (z:Nat):Pd:=⟨fun g v=>∃ r,v=.float .f64 r ∧ (r=z ∨ (fneq r r=true ∧ fneq z z=true)),[],fun _ _ h=>h⟩
theorem Zu7 {op : BinOp} {f : Nat → Nat → Option Nat} {t ty : TypeId} {m n : Nat} (hop : o.op = .binOp op t x y ty) (hd : o.dst = some d) (hx : Opd uses x (pFlt m)) (hy : Opd uses y (pFlt n))
   (h:∀ w,(binOp op t (.float .f64 m) (.float .f64 n)).run P w=(match f m n with | some r=>.ok (.float .f64 r) w | none=>((choose (.nanBits .f64 m n)).run P w).andThen fun r w'=>.ok (.float .f64 r) w')):OB P N o uses [(d,Zt0 ((f m n).getD 9221120237041090561))] [] :=
 Zfo hd fun a g hh=>by
   have h1:=Zhq.1 (hx a g hh)
   have h2:=Zhq.1 (hy a g hh)
   have hg:(eqGuard op t x y (.float .f64 m) (.float .f64 n)).run P g.w=.ok () g.w:=by
     unfold eqGuard
     split <;> rfl
   cases hf:f m n with
   | some r =>
     refine ⟨.float .f64 r,g,?_,.refl _ _,r,rfl,.inl (by simp)⟩
     have:=h g.w
     rw [hf] at this
     simp [execOp,hop,h1,h2,hg,this]
   | none =>
     have:=h g.w
     rw [hf] at this
     have hc:(choose (.nanBits .f64 m n)).run P g.w=.ok ((Question.nanBits .f64 m n).cut (g.w.tape g.w.drawn (Question.nanBits .f64 m n))) g.w.drew:=by
       simp [Question.forced]
     refine ⟨.float .f64 ((Question.nanBits .f64 m n).cut (g.w.tape g.w.drawn (Question.nanBits .f64 m n))),g.drew,?_,Step.drew g,_,rfl,.inr ⟨Z02 ?_,by decide +kernel⟩⟩
     · simp only [hc,Result.andThen_ok] at this
       simp [execOp,hop,h1,h2,hg,this];rfl
     · unfold isn rg INF TOP
       generalize g.w.tape g.w.drawn (Question.nanBits .f64 m n)=u
       simp only [Question.cut]
       have hv:=Nat.mod_lt (u / 2) (show 0 < 2 ^ 52 - 1 by decide)
       generalize u / 2 % (2 ^ 52 - 1)=v at hv
       rcases Nat.mod_two_eq_zero_or_one u with h | h <;> rw [h] <;> omega
theorem Z1o {t ty:TypeId} {m n:Nat} (hop:o.op=.binOp .add t x y ty) (hd:o.dst=some d) (hx:Opd uses x (pFlt m)) (hy:Opd uses y (pFlt n)):OB P N o uses [(d,Zt0 (fadd m n))] [] :=
 Zu7 hop hd hx hy fun w=>by
   cases h:Ieee.double.add m n <;> simp [binOp,Op.floatArith,FloatKind.format,h]
theorem Z1v {t ty:TypeId} {m n:Nat} (hop:o.op=.binOp .mul t x y ty) (hd:o.dst=some d) (hx:Opd uses x (pFlt m)) (hy:Opd uses y (pFlt n)):OB P N o uses [(d,Zt0 (fmul m n))] [] :=
 Zu7 hop hd hx hy fun w=>by
   cases h:Ieee.double.mul m n <;> simp [binOp,Op.floatArith,FloatKind.format,h]
theorem Zvp {β:Type} {f:FuncId} {F:Nat → Option β} {q:β → Pd} (hF:∀ r z,fneq r r=true → fneq z z=true → F r=F z) (hok:∀ z r,F z=some r → FnOk P f [pFlt z] (q r)) {z:Nat} {r:β} (h:F z=some r):FnOk P f [Zt0 z] (q r):=by
 intro g args hargs
 obtain ⟨r',hv,hr⟩:=hargs.2 0 _ _ rfl (List.getElem?_eq_getElem (by rw [hargs.1];exact Nat.zero_lt_one))
 have h':F r'=some r:=by
   rcases hr with rfl | ⟨h1,h2⟩
   · exact h
   · rw [hF r' z h1 h2];exact h
 refine hok r' r h' g args ⟨hargs.1,fun i qi u h1 h2=>?_⟩
 match i,h1 with
 | 0,h1 =>
   simp at h1;subst h1
   have hl:0 < args.length:=by rw [hargs.1];exact Nat.zero_lt_one
   rw [List.getElem?_eq_getElem hl] at h2
   have:=Option.some.inj h2
   exact Zhq.2 (by rw [← this];exact hv)
end
end Go.CL
namespace Go.CL
section
variable {P:Program} {N:Nat} {o:Oper} {uses outs:Z4} {S:List Nat} {d:Nat} {q:Pd} {x y z:Operand} {α β:Type} {dk:Kd α} {t e j:Nat}
def G.give (g:G) (b:Nat) (hb:b < g.w.heap.size):G:=⟨g.w,fun b' o=>g.pr b' o ∨ b'=b,fun c=>if c=b then 0 else g.own c,fun b' o h=>h.elim (g.hpr b' o) (fun h=>by rw [h];exact hb),g.gl.le (fun _ _ h=>.inl h) (fun _ _ _=>rfl)⟩
theorem Zw0 (g:G) (b:Nat) (hb:b < g.w.heap.size):g.le (g.give b hb):=⟨Nat.le_refl _,fun _ _ h=>.inl h,fun _ _ _=>rfl,fun _ _=>rfl⟩
theorem Zs5 {g:G} {b j:Nat} (hb:b < g.w.heap.size) (ho:g.own b=j):Step [j] g (g.give b hb) :=
 ⟨Zw0 g b hb,rfl,rfl,rfl,fun c hc hn=>by
   have hcb:c ≠ b:=fun h=>hn (by rw [h,ho];exact List.mem_singleton.2 rfl)
   refine ⟨rfl,?_,if_neg hcb⟩
   funext o
   show (g.pr c o ∨ c=b)=_
   simp [hcb],
  fun c h1 h2=>absurd (Nat.lt_of_lt_of_le h2 h1) (Nat.lt_irrefl _),
  fun c hc hn=>by
   show (if c=b then 0 else g.own c)=0 ∨ (if c=b then 0 else g.own c) ∈ _
   split
   · exact .inl rfl
   · exact .inr hn⟩
theorem Zuh {xs:List α} {g:G} {b cap:Nat} {cur:Array Value} (hO:OwnAt dk e j (xs.map some) g b cap cur):(dk.sl.pd xs).p (g.give b hO.lt) (.slice (some ⟨b,0,none⟩) xs.length cap):=by
 have hle:=Zw0 g b hO.lt
 have hl:=hO.len
 rw [List.length_map] at hl
 have hm:=hO.max
 refine Kd.sl_V.2 ⟨_,cap,rfl,hl,by simp only [maxLen] at hm;omega,.inr ⟨b,0,rfl,fun i x hx=>?_⟩⟩
 refine ⟨_,dk.mono hle (hO.known i x (by rw [List.getElem?_map,hx];rfl)),fun k u hk=>⟨.inr rfl,?_⟩⟩
 simp only [seg,List.getElem?_take,List.getElem?_drop] at hk
 split at hk
 · show g.w.cell? _=_
   simp only [World.cell?,hO.heap]
   simpa using hk
 · cases hk
theorem Z0r {xs:List α} (hop:o.op=.move x ∨ o.op=.assign x) (hd:o.dst=some d) (hx:Opd uses x (pArr dk e j xs)):OB P N o uses [(d,dk.sl.pd xs)] [j + 1] :=
 Zfo hd fun a g hh=>by
   have hr:(execOp a.eval o).run P g.w=.ok (.value (a.eval x)) g.w:=by rcases hop with h | h <;> simp [execOp,h]
   rcases hx a g hh with ⟨rfl,A,hv⟩ | ⟨b,cap,cur,hv,hO⟩
   · exact ⟨a.eval x,g,hr,.sub (.refl [] g) (fun _ h=>by cases h),by rw [hv];exact Kd.sl_V.2 ⟨A,0,rfl,Nat.le_refl _,by simp,.inl rfl⟩⟩
   · refine ⟨a.eval x,g.give b hO.lt,hr,Zs5 hO.lt hO.own,?_⟩
     rw [hv];exact Zuh hO
theorem Zto {zc:Array Value} {n i:Nat} (hi:i < n) (hz:0 < zc.size):seg (madeCells zc (n * zc.size)).toList (i * zc.size) zc.size=zc.toList:=by
 have hin:i * zc.size + zc.size ≤ n * zc.size:=Zhg hi
 apply List.ext_getElem?
 intro k
 simp only [seg,List.getElem?_take,List.getElem?_drop,Array.getElem?_toList,madeCells,Array.getElem?_map,Array.getElem?_range]
 split
 · rename_i hk
   rw [if_pos (by omega)]
   simp only [Option.map_some]
   rw [show (i * zc.size + k) % zc.size=k by rw [Nat.mul_comm,Nat.mul_add_mod];exact Nat.mod_eq_of_lt hk]
   rw [getElem!_pos zc k hk,Array.getElem?_eq_getElem hk]
 · rename_i hk
   rw [Array.getElem?_eq_none (by omega)]
theorem Z3s {bytes n : Nat} {zs : List Value} {zv : α} {k1 k2 : IntKind} (hT : TE P t e dk bytes) (hz : (P.info? e).bind (fun i => i.zero.map (fun z => (z.cells, i.size, i.bytes))) = some (zs.toArray, zs.length, bytes)) (hk : ∀ g, dk.K g zv zs) (h0 : 0 < zs.length) (hop : o.op = .makeSlice t x y) (hd : o.dst = some d)
   (hx:Opd uses x (pInt k1 (n:Int))) (hy:Opd uses y (pInt k2 (n:Int))) (hn:n * bytes ≤ 140737488355328) (hn2:n ≤ 140737488355328):OB P N o uses [(d,pArr dk e j (List.replicate n zv))] [j + 1] :=
 Zfo hd fun a g hh=>by
   obtain ⟨i,hi,hzz⟩:=Option.bind_eq_some_iff.1 hz
   obtain ⟨zz,hz1,hz2⟩:=Option.map_eq_some_iff.1 hzz
   simp only [Prod.mk.injEq] at hz2
   obtain ⟨z1,z2,z3⟩:=hz2
   have hsz:dk.sz=zs.length:=(dk.len (hk g)).symm
   have hb:(i.bytes:Int) * (n:Int) ≤ 281474976710656:=by
     have h:((i.bytes * n:Nat):Int) ≤ 281474976710656:=by rw [z3,Nat.mul_comm];omega
     rwa [Int.natCast_mul] at h
   have hr:=run_make (P:=P) g.w t e i zz hT.und hi hz1 k1 k2 n n (by omega) (Int.le_refl _) hb (by omega)
   simp only [Int.toNat_natCast,z1,z2] at hr
   have hs2:=Zjh g (madeCells zs.toArray (n * zs.length)) e (fun _=>False) (j + 1)
   refine ⟨.slice (some ⟨g.w.heap.size,0,none⟩) n n,g.push (madeCells zs.toArray (n * zs.length)) e (fun _=>False) (j + 1),?_,hs2,.inr ⟨g.w.heap.size,n,madeCells zs.toArray (n * zs.length),by simp,⟨by rw [Zel,Zgn];omega,by simp [G.push],fun b' hb' ho=>?_,by rw [Zel];exact Zjd ..,by simp,by simp only [maxLen];omega,by rw [size_madeCells,hsz],fun i x hx=>?_,fun o=>by simp [G.push]⟩⟩⟩
   · rw [Zel]
     have h1:=Zb3.1 (hx a g hh)
     have h2:=Zb3.1 (hy a g hh)
     simp [execOp,hop,h1,h2,hr]
   · by_cases h:b'=g.w.heap.size
     · exact h
     · simp only [G.push,if_neg h] at ho
       split at ho
       · omega
       · rename_i h2;exact absurd ho h2
   · rw [List.getElem?_map] at hx
     obtain ⟨u,hu,hux⟩:=Option.map_eq_some_iff.1 hx
     obtain rfl:=Option.some.inj hux
     rw [List.getElem?_replicate] at hu
     split at hu
     · rename_i hin
       obtain rfl:=Option.some.inj hu
       rw [hsz,show zs.length=zs.toArray.size by simp,Zto hin (by simpa using h0)]
       exact dk.mono hs2.le (hk g)
     · cases hu
theorem Zmt {s i:Nat} {xs:List α} {u v1 v2:α} (hT:Ty P t dk) (hop:o.op=.store t x z) (hd:o.dst=none) (hs:Opd uses (.tmp s) (pArr dk e j xs)) (hx:Opd uses x (pEl dk e j xs i 0 dk v1)) (hz:Opd uses z (dk.pd v2)) (hi:xs[i]?=some u) (h0:0 < dk.sz):OB P N o uses [(s,pArr dk e j (xs.set i v2))] [j + 1] :=
 Zye hT hop hd hs hx hz hi h0 fun g cs ys h1 h2 h3=>by
   have a1:=dk.len h1
   have a2:=dk.len h2
   have:Zz cs 0 ys=ys:=by simp [Zz,a1,a2]
   rw [this];exact h2
end
section
variable {P:Program} {N:Nat} {o:Oper} {uses outs:Z4} {S:List Nat} {d:Nat} {q:Pd} {x y z:Operand}
theorem OB.frameU {n:Nat} (h:OB P N o uses outs S) (hs:Opd uses (.tmp n) q) (hq:∀ j ∈ q.fp,j ∉ S) (hn:o.dst ≠ some n):OB P N o uses ((n,q) :: outs) S:=by
 intro a g K Q hN hdN hu hK
 refine h a g K Q hN hdN hu fun v g' hst ho=>hK v g' hst fun e he=>?_
 rcases List.mem_cons.1 he with rfl | he
 · have h2:=q.st hst hq (hs a g hu)
   show q.p g' (Act.at (a.put o.dst v) n)
   rw [Zha v hn];exact h2
 · exact ho e he
structure Hp (σ:Type) where
 p:G → σ → Prop
 fp:List Nat
 st:∀ {S:List Nat} {g g':G} {s:σ},Step S g g' → (∀ j ∈ fp,j ∉ S) → p g s → p g' s
def hpT {σ:Type}:Hp σ:=⟨fun _ _=>True,[],fun _ _ _=>trivial⟩
def hpL (q:Pd):Hp SlV:=⟨fun g s=>q.p g (slv s),q.fp,fun st hd h=>q.st st hd h⟩
variable {c:Option Nat} {α β γ δ ε σ:Type} {kV:Kd γ} {raw:α → σ → γ} {R R' R2:Hp σ} {dk:Kd β} {di:Kd δ} {dj:Kd ε} {t e j:Nat} {xv:α}
def Zho (c:Option Nat) (kV:Kd γ) (raw:α → σ → γ) (R:Hp σ) (j:Nat) (x:α):Pd:=⟨fun g v=>∃ s,(Zbl c kV j (raw x s)).p g v ∧ R.p g s,(j + 1) :: R.fp,fun st hd ⟨s,h1,h2⟩=>⟨s,(Zbl c kV j (raw x s)).st st (fun k hk=>hd k (List.mem_cons.2 (.inl (List.mem_singleton.1 hk)))) h1,R.st st (fun k hk=>hd k (List.mem_cons_of_mem _ hk)) h2⟩⟩
abbrev pBxS (kV:Kd γ) (raw:α → σ → γ) (R:Hp σ) (j:Nat) (x:α):Pd:=Zho none kV raw R j x
theorem Z2p {g:G} {v:Value} (hv:(Zho c kV raw R j xv).p g v):(Zho c kV raw hpT j xv).p g v:=let ⟨s,h1,_⟩:=hv;⟨s,h1,trivial⟩
def pPQ (kV:Kd γ) (j off:Nat) (q:Pd):Pd:=⟨fun g v=>∃ w s,(Zep kV j w off Kd.raw s).p g v ∧ q.p g (slv s),(j + 1) :: q.fp,fun st hd ⟨w,s,h1,h2⟩=>⟨w,s,(Zep kV j w off Kd.raw s).st st (fun k hk=>hd k (List.mem_cons.2 (.inl (List.mem_singleton.1 hk)))) h1,q.st st (fun k hk=>hd k (List.mem_cons_of_mem _ hk)) h2⟩⟩
theorem Z4o {off:Nat} {g:G} {v:Value} (h:(pPQ kV j off q).p g v):∃ w s1,(Zep kV j w off Kd.raw s1).p g v:=let ⟨w,s,h1,_⟩:=h;⟨w,s,h1⟩
theorem Zla {s i off:Nat} {pt:Nat} {proj:γ → SlV} {pr:σ → SlV} (hF:Fld P s i kV Kd.raw proj) (ho:(match P.underlying s with | some (.struct F)=>(F[i]?).map (·.offset) | _=>none)=some off) (hu:∀ sv,proj (raw xv sv)=pr sv) (hq:∀ g s,R.p g s → q.p g (slv (pr s))) (hop:o.op=.fieldAddr s (.tmp pt) i) (hd:o.dst=some d) (hx:Opd uses (.tmp pt) (Zho c kV raw R j xv)):OB P N o uses [(d,pPQ kV j off q)] [] :=
 OB.at fun a g hh=>by
   obtain ⟨s0,h0,h2⟩:=hx a g hh
   refine ⟨[(N,pAt (slv (pr s0)) q),(pt,Zbl c kV j (raw xv s0))],fun en he=>?_,?_⟩
   · rcases List.mem_cons.1 he with rfl | he
     · exact hq g s0 h2
     · rw [List.mem_singleton.1 he];exact h0
   · intro a' g' K Q hN hdN hu' hK
     have hdl:=hdN d hd
     refine (OB.frame (n:=N) (q:=pAt (slv (pr s0)) q) (Zt (c:=c) hF ho hop hd .t0) (fun _ _ h=>by cases h) (by rw [hd];intro h;exact absurd (Option.some.inj h) (Nat.ne_of_lt hdl))).weak (fun g2 a2 h en he=>?_) a' g' K Q hN hdN hu' hK
     rw [List.mem_singleton.1 he]
     have:=h (d,Zep kV j (raw xv s0) off Kd.raw (proj (raw xv s0))) (by simp)
     rw [hu] at this
     exact ⟨_,pr s0,this,h (N,pAt (slv (pr s0)) q) (by simp)⟩
theorem Znv {off pt:Nat} (hT:Ty P t Kd.raw) (hop:o.op=.load t (.tmp pt)) (hd:o.dst=some d) (hx:Opd uses (.tmp pt) (pPQ kV j off q)):OB P N o uses [(d,q)] [] :=
 OB.at fun a g hh=>by
   obtain ⟨w,s0,h0,h2⟩:=hx a g hh
   refine ⟨[(N,pAt (slv s0) q),(pt,Zep kV j w off Kd.raw s0)],fun en he=>?_,?_⟩
   · rcases List.mem_cons.1 he with rfl | he
     · exact h2
     · rw [List.mem_singleton.1 he];exact h0
   · intro a' g' K Q hN hdN hu' hK
     have hdl:=hdN d hd
     refine (OB.frame (n:=N) (q:=pAt (slv s0) q) (Zj6 hT hop hd .t0) (fun _ _ h=>by cases h) (by rw [hd];intro h;exact absurd (Option.some.inj h) (Nat.ne_of_lt hdl))).weak (fun g2 a2 h en he=>?_) a' g' K Q hN hdN hu' hK
     rw [List.mem_singleton.1 he]
     have h3:=Zzj.1 (h (d,Kd.raw.pd s0) (by simp))
     show q.p g2 (Act.at a2 d)
     rw [h3]
     exact h (N,pAt (slv s0) q) (by simp)
theorem Zzr {off s pt zt : Nat} {x' : α} {upd : σ → SlV → σ} (hT : Ty P t Kd.raw) (hop : o.op = .store t (.tmp pt) (.tmp zt)) (hd : o.dst = none) (hsl : ∀ g v, q.p g v → ∃ s2 : SlV, v = slv s2) (hj : ∀ k ∈ q.fp, k ≠ j + 1) (hj2 : ∀ k ∈ R.fp, k ≠ j + 1) (hs : Opd uses (.tmp s) (Zho c kV raw R j xv)) (hx : ∀ (a : Act) g, Zdj uses a g → ∃ w s1, (Zep kV j w off Kd.raw s1).p g (Act.at a pt)) (hz : Opd uses (.tmp zt) q)
   (hR:∀ g s s2,R.p g s → q.p g (slv s2) → R2.p g (upd s s2)) (hw:∀ g cs s0 s1 ys,kV.K g (raw xv s0) cs → Kd.raw.K g s1 ys → off + ys.length ≤ cs.length ∧ kV.K g (raw x' (upd s0 s1)) (Zz cs off ys)):OB P N o uses [(s,Zho c kV raw R2 j x')] [j + 1] :=
 OB.at fun a g hh=>by
   obtain ⟨s0,h0,hR0⟩:=hs a g hh
   obtain ⟨w,s1,h1⟩:=hx a g hh
   have h2:=hz a g hh
   obtain ⟨s2,hv2⟩:=hsl _ _ h2
   refine ⟨[(N,pAt (slv s2) q),(N,⟨fun g _=>R.p g s0,R.fp,fun st hd h=>R.st st hd h⟩),(s,Zbl c kV j (raw xv s0)),(pt,Zep kV j w off Kd.raw s1),(zt,Kd.raw.pd s2)],fun en he=>?_,?_⟩
   · rcases List.mem_cons.1 he with rfl | he
     · show q.p g (slv s2)
       rw [← hv2];exact h2
     · rcases List.mem_cons.1 he with rfl | he
       · exact hR0
       · rcases List.mem_cons.1 he with rfl | he
         · exact h0
         · rcases List.mem_cons.1 he with rfl | he
           · exact h1
           · rw [List.mem_singleton.1 he];exact Zzj.2 hv2
   · refine (OB.frame (n:=N) (q:=pAt (slv s2) q) (OB.frame (n:=N) (q:=⟨fun g _=>R.p g s0,R.fp,fun st hd h=>R.st st hd h⟩) (Zf4 (c:=c) (v':=raw x' (upd s0 s2)) hT hop hd .t0 (.tl .t0) (.tl (.tl .t0)) (fun g cs ys h k=>hw g cs s0 s2 ys h k)) (fun k hk hS=>hj2 k hk (List.mem_singleton.1 hS)) (by rw [hd];simp)) (fun k hk hS=>hj k hk (List.mem_singleton.1 hS)) (by rw [hd];simp)).weak (fun g2 a2 h en he=>?_)
     rw [List.mem_singleton.1 he]
     have k1:R.p g2 s0:=h (N,⟨fun g _=>R.p g s0,R.fp,fun st hd h=>R.st st hd h⟩) (by simp)
     have k2:q.p g2 (slv s2):=h (N,pAt (slv s2) q) (by simp)
     exact ⟨upd s0 s2,h (s,Zbl c kV j (raw x' (upd s0 s2))) (by simp),hR g2 s0 s2 k1 k2⟩
theorem Zx2 {s i off:Nat} {pt:Nat} {proj:γ → δ} {u:δ} (hF:Fld P s i kV di proj) (ho:(match P.underlying s with | some (.struct F)=>(F[i]?).map (·.offset) | _=>none)=some off) (hu:∀ sv,proj (raw xv sv)=u) (hop:o.op=.fieldAddr s (.tmp pt) i) (hd:o.dst=some d) (hx:Opd uses (.tmp pt) (Zho c kV raw R j xv)):OB P N o uses [(d,pPX kV j off di u)] [] :=
 OB.at fun a g hh=>by
   obtain ⟨s0,h0,_⟩:=hx a g hh
   refine ⟨[(pt,Zbl c kV j (raw xv s0))],fun en he=>by rw [List.mem_singleton.1 he];exact h0,(Zt (c:=c) hF ho hop hd .t0).weak fun g2 a2 h en he=>?_⟩
   rw [List.mem_singleton.1 he]
   have:=h (d,Zep kV j (raw xv s0) off di (proj (raw xv s0))) (List.mem_singleton.2 rfl)
   rw [hu] at this
   exact ⟨_,this⟩
theorem Z5p {α:Type} {dk:Kd α} {xs:List α} {g:G} {s:SlV} {cs:List Value} (h:Kd.raw.K g s cs) (hv:dk.sl.V g xs (slv s)):dk.sl.K g xs cs:=by
 have h1:cs=[slv s]:=h
 obtain ⟨cs',h2,h3⟩:=hv
 have hl:=dk.sl.len h2
 obtain ⟨u,rfl⟩:=List.length_eq_one_iff.1 hl
 have:slv s=u:=h3
 rw [h1,this];exact h2
end
section
variable {P:Program} {N:Nat} {o:Oper} {uses outs:Z4} {d:Nat} {q:Pd} {x y z:Operand} {α β γ:Type} {kV:Kd γ} {raw:α → SlV → γ} {lst:α → List β} {dk:Kd β} {e:TypeId}
def ArrB (dk:Kd β) (e:TypeId) (xs:List β) (g:G) (v:Value) (B:Nat → Prop):Prop :=
 (xs=[] ∧ ∃ A,v=.slice A 0 0) ∨ ∃ b cap cur,v=.slice (some ⟨b,0,none⟩) xs.length cap ∧ B b ∧ g.w.heap[b]?=some (.cells cur e (0,0)) ∧ xs.length ≤ cap ∧ cap ≤ maxLen ∧ cur.size=cap * dk.sz ∧ ∀ (i:Nat) (x:β),xs[i]?=some x → dk.K g x (seg cur.toList (i * dk.sz) dk.sz)
def obS (kV:Kd γ) (raw:α → SlV → γ) (lst:α → List β) (dk:Kd β) (e:TypeId):Ob α where
 R:=fun g b B x=>∃ s cs t,g.w.heap[b]?=some (.cells (List.toArray cs) t (0,0)) ∧ kV.K g (raw x s) cs ∧ ArrB dk e (lst x) g (slv s) B
 st:=by
   rintro g g' b B x ⟨s,cs,t,h1,h2,h3⟩ hle hh
   refine ⟨s,cs,t,(hh b (.inl rfl)).trans h1,kV.mono hle h2,?_⟩
   rcases h3 with h3 | ⟨c,cap,cur,k1,k2,k3,k4,k5,k6,k7⟩
   · exact .inl h3
   · exact .inr ⟨c,cap,cur,k1,k2,(hh c (.inr k2)).trans k3,k4,k5,k6,fun i x hx=>dk.mono hle (k7 i x hx)⟩
abbrev Zjz (kV:Kd γ) (raw:α → SlV → γ) (lst:α → List β) (dk:Kd β) (e:TypeId) (b:Nat) (x:α):Pd:=Zho (some b) kV raw (hpL (pArr dk e AUX (lst x))) 0 x
def Z11 (kV:Kd γ) (raw:α → SlV → γ) (lst:α → List β) (dk:Kd β) (e:TypeId) (b:Nat) (x:α) (g0:G) (q:Pd) (v:Value) (g1:G):Prop:=Base g0 g1 ∧ q.p g1 v ∧ (Zjz kV raw lst dk e b x).p g1 (.pointer (some ⟨b,0,none⟩))
open Classical in
theorem Z34 {x0 x1 : α} {f : FuncId} {fn : Func} {c : Code} {A : List Pd} (hf : P.funcs[f]? = some fn) (hb : fn.body = some c) (hn : fn.ntmps = N) (hAN : A.length + 1 ≤ N) (hA : Free A) (hq : q.fp = [])
   (h:∀ (a:Act) (g:G) (b:Nat),St N ((0,Zjz kV raw lst dk e b x0) :: Zjp A 1) a g → Base g g → c.wp P (bodyPost P fn (FinP (Z11 kV raw lst dk e b x1 g q))) a g.w):FnM P f (obS kV raw lst dk e) x0 x1 A q:=by
 intro g b B args hR hbl hbp hB hargs
 obtain ⟨s,cs,t,hh,hk,hl⟩:=hR
 obtain ⟨own,o1,o2,o3,harr⟩:∃ own:Nat → Nat,own b=1 ∧ (∀ c,own c=1 → c=b) ∧ (∀ c,own c ≠ 0 → c=b ∨ B c) ∧ ∀ g0:G,g0.w=g.w → g0.pr=g.pr → g0.own=own → g.le g0 → (pArr dk e AUX (lst x0)).p g0 (slv s):=by
   rcases hl with ⟨h1,h2⟩ | ⟨c,cap,cur,k1,k2,k3,k4,k5,k6,k7⟩
   · refine ⟨fun c=>if c=b then 1 else 0,if_pos rfl,fun c hc=>?_,fun c hc=>?_,fun g0 _ _ _ _=>.inl ⟨h1,h2⟩⟩
     · dsimp only at hc
       split at hc
       · assumption
       · omega
     · dsimp only at hc
       split at hc
       · left;assumption
       · exact absurd rfl hc
   · obtain ⟨l1,l2,l3⟩:=hB c k2
     refine ⟨fun c'=>if c'=b then 1 else if c'=c then AUX + 1 else 0,if_pos rfl,fun c' hc=>?_,fun c' hc=>?_,fun g0 e1 e2 e3 hle=>.inr ⟨c,cap,cur,k1,by rw [e1];exact l1,by rw [e3];show (if c=b then 1 else if c=c then AUX + 1 else 0)=AUX + 1;rw [if_neg l2,if_pos rfl],fun c' _ hc=>?_,by rw [e1];exact k3,by simpa using k4,k5,k6,fun i x hx=>?_,fun o=>by rw [e2];exact l3 o⟩⟩
     · dsimp only at hc
       split at hc
       · assumption
       · split at hc <;> simp [AUX] at hc
     · dsimp only at hc
       split at hc
       · left;assumption
       · split at hc
         · rename_i h;right;rw [h];exact k2
         · exact absurd rfl hc
     · rw [e3] at hc
       have hc:(if c'=b then 1 else if c'=c then AUX + 1 else 0)=AUX + 1:=hc
       split at hc
       · simp [AUX] at hc
       · split at hc
         · assumption
         · simp [AUX] at hc
     · rw [List.getElem?_map] at hx
       obtain ⟨u,hu,hux⟩:=Option.map_eq_some_iff.1 hx
       obtain rfl:=Option.some.inj hux
       exact dk.mono hle (k7 i u hu)
 let g0:G:=⟨g.w,g.pr,own,g.hpr,g.gl⟩
 have hle:g.le g0:=⟨Nat.le_refl _,fun _ _ h=>h,fun _ _ _=>rfl,fun _ _=>rfl⟩
 have hst:St N ((0,Zjz kV raw lst dk e b x0) :: Zjp A 1) { tmps:=(Value.pointer (some ⟨b,0,none⟩) :: args).toArray ++ Array.replicate (fn.ntmps - (Value.pointer (some ⟨b,0,none⟩) :: args).toArray.size) undef,defers:=[] } g0:=by
   refine ⟨?_,rfl,?_⟩
   · have:=hargs.1
     simp [hn];omega
   · intro en he
     rcases List.mem_cons.1 he with rfl | he
     · have hv : Act.at { tmps := (Value.pointer (some ⟨b, 0, none⟩) :: args).toArray ++ Array.replicate (fn.ntmps - (Value.pointer (some ⟨b, 0, none⟩) :: args).toArray.size) undef, defers := [] } 0 = .pointer (some ⟨b, 0, none⟩) := by
         simp only [Act.at,Array.getD_eq_getD_getElem?]
         rw [Array.getElem?_append,if_pos (by simp)]
         simp
       show (Zjz kV raw lst dk e b x0).p g0 (Act.at _ 0)
       rw [hv]
       exact ⟨s,⟨b,cs,t,rfl,⟨hbl,o1,fun c _ hc=>o2 c hc,hh,kV.mono hle hk,hbp⟩,fun b' h=>Option.some.inj h⟩,harr g0 rfl rfl rfl hle⟩
     · obtain ⟨i,h1,h2⟩:=Zkq he
       have hi:i < args.length:=by rw [hargs.1];exact (List.getElem?_eq_some_iff.1 h2).1
       have hv:Act.at { tmps:=(Value.pointer (some ⟨b,0,none⟩) :: args).toArray ++ Array.replicate (fn.ntmps - (Value.pointer (some ⟨b,0,none⟩) :: args).toArray.size) undef,defers:=[] } en.1=args[i]:=by
         rw [h1,Nat.add_comm]
         simp only [Act.at,Array.getD_eq_getD_getElem?]
         rw [Array.getElem?_append,if_pos (by simpa using hi)]
         simp [hi]
       rw [hv]
       exact Pd.le (hA.at h2) hle rfl rfl rfl (hargs.2 i en.2 _ h2 (List.getElem?_eq_getElem hi))
 have hbase:Base g0 g0:=⟨.refl _,rfl,rfl,rfl,fun _ _ h=>⟨rfl,rfl,h⟩⟩
 refine Calls.mono (calls_of_wp hf hb (h _ g0 b hst hbase)) ?_
 rintro en w' ⟨g1,v,rfl,rfl,hBs,hqv,⟨s1,⟨b1,cs1,t1,e1,⟨m1,m2,m3,m4,m5,m6⟩,hb1⟩,ha1⟩⟩
 obtain rfl:=hb1 _ rfl
 have hS:Znz (fun c=>c=b1 ∨ B c) g g1:=⟨⟨hBs.le.size,hBs.le.pr,hBs.le.cell,hBs.le.blk⟩,hBs.os,hBs.tape,hBs.output,fun c hc hn=>by
   have h0:g0.own c=0:=Classical.byContradiction fun h=>hn (o3 c h)
   exact ⟨(hBs.same c hc h0).1,(hBs.same c hc h0).2.1⟩⟩
 rcases ha1 with ⟨hn,hA1⟩ | ⟨c,cap,cur,hv,hO⟩
 · exact ⟨g1,v,fun _=>False,rfl,rfl,hS,⟨s1,cs1,t1,m4,m5,.inl ⟨hn,hA1⟩⟩,m6,fun c hc=>hc.elim,hqv⟩
 · refine ⟨g1,v,fun c'=>c'=c,rfl,rfl,hS,⟨s1,cs1,t1,m4,m5,.inr ⟨c,cap,cur,hv,rfl,hO.heap,by simpa using hO.len,hO.max,hO.sz,fun i x hx=>hO.known i x (by rw [List.getElem?_map,hx];rfl)⟩⟩,m6,fun c' hc=>?_,hqv⟩
   subst hc
   refine ⟨Classical.byContradiction fun hno=>?_,hO.lt,hO.npr⟩
   have hlt:c' < g0.w.heap.size:=Nat.lt_of_not_le fun h=>hno (.inr h)
   by_cases h0:g0.own c'=0
   · have:=(hBs.same c' hlt h0).2.2
     rw [hO.own] at this;simp [AUX] at this
   · rcases o3 c' h0 with h | h
     · have:=hO.own
       rw [h,m2] at this;simp [AUX] at this
     · exact hno (.inl h)
theorem Zn4 {fn:Func} {r:ResultVar} {v:Value} {a:Act} {g g0:G} {L:Z4} {b:Nat} {x1:α} (hr:fn.results=#[r]) (h:St N L a g) (hb:Base g0 g) (h1:Zf8 P a g r v) (hq:q.p g v) (hs:(Zjz kV raw lst dk e b x1).p g (Act.at a 0)):bodyPost P fn (FinP (Z11 kV raw lst dk e b x1 g0 q)) .ret a g.w:=by
 refine endP hr h h1 ⟨hb,hq,?_⟩
 obtain ⟨s,⟨b',cs,t,e1,hm,hc⟩,hR⟩:=hs
 obtain rfl:=hc _ rfl
 exact ⟨s,⟨b',cs,t,rfl,hm,hc⟩,hR⟩
end
section
variable {P:Program} {N:Nat} {o:Oper} {uses outs:Z4} {S:List Nat} {d:Nat} {q:Pd} {x y z:Operand} {β:Type} {dk:Kd β} {mt kt et:TypeId}
def MRel (dk:Kd β) (g:G):List (Int × β) → List MapEntry → Prop
 | [],[]=>True
 | e :: m,x :: es=>(x.key=.int .i64 e.1 ∧ dk.V g e.2 x.val) ∧ MRel dk g m es
 | _,_=>False
theorem Zzy {g g':G} (hle:g.le g') {v:β} {u:Value} (h:dk.V g v u):dk.V g' v u:=h.imp fun _ h=>⟨dk.mono hle h.1,h.2⟩
theorem MRel.mono {g g':G} (hle:g.le g'):∀ {m:List (Int × β)} {es:List MapEntry},MRel dk g m es → MRel dk g' m es
 | [],[],_=>trivial
 | _ :: _,_ :: _,h=>⟨⟨h.1.1,Zzy hle h.1.2⟩,MRel.mono hle h.2⟩
def World.put (w:World) (b:Nat) (ob:Obj):World:={ w with heap:=w.heap.setIfInBounds b ob }
structure MapB (β:Type) where
 old:List (Int × List β)
 last:Option (Int × List β)
def MapB.all (s:MapB β):List (Int × List β):=s.old ++ s.last.toList
def MapB.put (s:MapB β) (n:Int) (v:List β):MapB β:=match s.last with
 | none=>⟨s.old,some (n,v)⟩
 | some e=>if e.1=n then ⟨s.old,some (n,v)⟩ else ⟨s.old ++ [e],some (n,v)⟩
variable {ee j jr:Nat}
end
section
variable {P:Program} {N:Nat} {o:Oper} {uses outs:Z4} {S:List Nat} {d:Nat} {q:Pd} {x y z:Operand} {α β γ:Type} {dk:Kd β} {t e j:Nat} {bytes:Nat}
theorem Z4k {xs:List β} {g:G} {v:Value} (h:(pArr dk e j xs).p g v):∃ s:SlV,v=slv s:=by
 rcases h with ⟨rfl,A,rfl⟩ | ⟨b,cap,cur,rfl,_⟩
 · exact ⟨(A,0,0),rfl⟩
 · exact ⟨(some ⟨b,0,none⟩,xs.length,cap),rfl⟩
end
section
variable {P:Program} {N:Nat} {o:Oper} {uses outs:Z4} {S:List Nat} {d:Nat} {q:Pd} {x y z:Operand} {α β γ:Type} {kV:Kd γ} {raw:α → SlV → γ} {lst:α → List β} {k:Kd α} {dk:Kd β} {t e j:Nat} {bytes:Nat}
def G.lend (g:G) (D:Nat → Prop) (hD:∀ c,D c → c < g.w.heap.size):G:=⟨g.w,fun b o=>g.pr b o ∨ D b,g.own,fun b o h=>h.elim (g.hpr b o) (hD b),g.gl.le (fun _ _ h=>.inl h) (fun _ _ _=>rfl)⟩
theorem Zr5 (g:G) (D:Nat → Prop) (hD:∀ c,D c → c < g.w.heap.size):g.le (g.lend D hD):=⟨Nat.le_refl _,fun _ _ h=>.inl h,fun _ _ _=>rfl,fun _ _=>rfl⟩
theorem Ztj {g g':G} {D:Nat → Prop} {hD:∀ c,D c → c < g.w.heap.size} (hn:∀ c,D c → ∀ o,¬ g.pr c o) (hs:Step [] (g.lend D hD) g'):∃ g2:G,g2.w=g'.w ∧ (∀ b o,g2.pr b o ↔ g'.pr b o ∧ ¬ D b) ∧ Step [] g g2:=by
 let g2:G:=⟨g'.w,fun b o=>g'.pr b o ∧ ¬ D b,g'.own,fun b o h=>g'.hpr b o h.1,fun en hen i v hv=>by
   obtain ⟨k1,k2⟩:=g'.gl en hen i v hv
   exact ⟨⟨k1,fun h=>hn _ h i (g.gl en hen i v hv).1⟩,k2⟩⟩
 refine ⟨g2,rfl,fun _ _=>Iff.rfl,⟨⟨hs.le.size,fun b o h=>⟨hs.le.pr b o (.inl h),fun h'=>hn b h' o h⟩,fun b o h=>hs.le.cell b o (.inl h),fun b h=>hs.le.blk b (fun o=>.inl (h o))⟩,hs.os,hs.tape,hs.output,fun b hb hn'=>?_,hs.new,hs.old⟩⟩
 obtain ⟨k1,k2,k3⟩:=hs.same b hb hn'
 refine ⟨k1,?_,k3⟩
 funext o
 show (g'.pr b o ∧ ¬ D b)=g.pr b o
 rw [k2]
 show ((g.pr b o ∨ D b) ∧ ¬ D b)=g.pr b o
 have:=fun h=>hn b h o
 by_cases h:D b <;> simp [h,this]
def FnL (P:Program) (f:FuncId) (A:List Pd) (q:Pd):Prop:=∀ (g:G) (args:List Value),ArgsOk A g args →
 Calls P f args.toArray g.w (fun en w'=>∃ g' v,en=.returned v ∧ w'=g'.w ∧ Step [] g g' ∧ ∀ g2:G,g2.w=g'.w → (∀ b o,g.w.heap.size ≤ b → g'.pr b o → g2.pr b o) → q.p g2 v)
theorem FnL.ok {f:FuncId} {A:List Pd} (h:FnL P f A q):FnOk P f A q:=fun g args ha=>Calls.mono (h g args ha) fun en w' ⟨g',v,h1,h2,h3,h4⟩=>⟨g',v,h1,h2,h3,h4 g' rfl (fun _ _ _ h=>h)⟩
theorem FnL.of {f:FuncId} {A:List Pd} (h:FnOk P f A q) (hq:∀ (g g':G) (v:Value),q.p g v → q.p g' v):FnL P f A q:=fun g args ha=>Calls.mono (h g args ha) fun en w' ⟨g',v,h1,h2,h3,h4⟩=>⟨g',v,h1,h2,h3,fun g2 _ _=>hq _ _ _ h4⟩
def Zud (kV:Kd γ) (raw:α → SlV → γ) (lst:α → List β) (dk:Kd β) (k:Kd α):Prop:=∀ (g:G) (x:α) (s:SlV) (cs:List Value),kV.K g (raw x s) cs → dk.sl.V g (lst x) (slv s) → k.K g x cs
theorem Zux (hc:Zud kV raw lst dk k) {g:G} {b:Nat} {B:Nat → Prop} {x:α} (hR:(obS kV raw lst dk e).R g b B x) (hD:∀ c,(c=b ∨ B c) → c < g.w.heap.size):(k.ptr x).p (g.lend (fun c=>c=b ∨ B c) hD) (.pointer (some ⟨b,0,none⟩)):=by
 obtain ⟨s,cs,t,hh,hk,hl⟩:=hR
 have hle:=Zr5 g _ hD
 refine ⟨b,0,cs,rfl,hc _ _ s _ (kV.mono hle hk) ?_,fun i v hv=>⟨.inr (.inl rfl),?_⟩⟩
 · rcases hl with ⟨h1,A,h2⟩ | ⟨c,cap,cur,k1,k2,k3,k4,k5,k6,k7⟩
   · rw [h1,h2];exact Kd.sl_V.2 ⟨A,0,rfl,Nat.le_refl _,by simp,.inl rfl⟩
   · rw [k1]
     refine Kd.sl_V.2 ⟨_,cap,rfl,k4,by simp only [maxLen] at k5;omega,.inr ⟨c,0,rfl,fun i x hx=>⟨_,dk.mono hle (k7 i x hx),fun n u hn=>⟨.inr (.inr k2),?_⟩⟩⟩⟩
     simp only [seg,List.getElem?_take,List.getElem?_drop] at hn
     split at hn
     · show g.w.cell? _=_
       simp only [World.cell?,k3]
       simpa using hn
     · cases hn
 · show g.w.cell? _=_
   simp only [World.cell?,hh,Nat.zero_add]
   simpa using hv
theorem Z1w {x0:α} {f:FuncId} {A:List Pd} (hc:Zud kV raw lst dk k) (hok:FnL P f (k.ptr x0 :: A) q) (hA:Free A):FnM P f (obS kV raw lst dk e) x0 x0 A q:=by
 intro g b B args hR hbl hbp hB hargs
 have hD:∀ c,(c=b ∨ B c) → c < g.w.heap.size:=fun c h=>h.elim (fun h=>h ▸ hbl) (fun h=>(hB c h).1)
 have hn:∀ c,(c=b ∨ B c) → ∀ o,¬ g.pr c o:=fun c h=>h.elim (fun h=>h ▸ hbp) (fun h=>(hB c h).2.2)
 refine Calls.mono (hok (g.lend _ hD) _ (Zis (Zux hc hR hD) ⟨hargs.1,fun i qi u h1 h2=>Pd.le (hA.at h1) (Zr5 g _ hD) rfl rfl rfl (hargs.2 i qi u h1 h2)⟩)) ?_
 rintro en w' ⟨g',v,rfl,rfl,hs,hq⟩
 obtain ⟨g2,e1,e2,hs2⟩:=Ztj hn hs
 refine ⟨g2,v,B,rfl,e1.symm,⟨hs2.le,hs2.os,hs2.tape,hs2.output,fun c hc' _=>⟨(hs2.same c hc' (fun h=>by cases h)).1,(hs2.same c hc' (fun h=>by cases h)).2.1⟩⟩,(obS kV raw lst dk e).st hR hs2.le (fun c h=>(hs2.same c (hD c h) (fun h=>by cases h)).1),fun o=>by rw [(hs2.same b hbl (fun h=>by cases h)).2.1];exact hbp o,fun c h=>⟨.inl h,Nat.lt_of_lt_of_le (hB c h).1 hs2.le.size,fun o=>by rw [(hs2.same c (hB c h).1 (fun h=>by cases h)).2.1];exact (hB c h).2.2 o⟩,hq g2 e1 (fun b' o hb' hp=>(e2 b' o).2 ⟨hp,fun h=>by have:=hD b' h;have hb':g.w.heap.size ≤ b':=hb';omega⟩)⟩
theorem Zuu {f : FuncId} {x0 : α} {b0 : Nat} {xs : List Operand} {A : List Pd} {ty : Array TypeId} (hc : Zud kV raw lst dk k) (he : Zl P f) (hok : FnL P f (k.ptr x0 :: A) q) (hop : o.op = .call { callee := .value (.func f), args := (x :: xs).toArray, argTypes := ty }) (hd : o.dst = some d)
   (hx:Opd uses x (Zjz kV raw lst dk e b0 x0)) (hA:Free A) (hargs:OpdL uses xs A):OB P N o uses [(d,q)] []:=by
 intro a g K Q hN hdN hu hK
 have hr:(execOp a.eval o).run P g.w=.ok (.enter f (a.eval x :: xs.map a.eval).toArray) g.w:=by
   simp [execOp,hop,resolve,Zm7,Deferred.ofValue,invoke,Zhh he]
 unfold Oper.wp
 rw [hr]
 show Calls P f _ g.w _
 obtain ⟨s,⟨b,cs,t,hv,⟨m1,m2,m3,m4,m5,m6⟩,_⟩,hl⟩:=hx a g hu
 obtain ⟨B,hR,hB⟩:∃ B:Nat → Prop,(obS kV raw lst dk e).R g b B x0 ∧ ∀ c,B c → c < g.w.heap.size ∧ ∀ o,¬ g.pr c o:=by
   rcases hl with h | ⟨c,cap,cur,h1,hO⟩
   · exact ⟨fun _=>False,⟨s,cs,t,m4,m5,.inl h⟩,fun c h=>h.elim⟩
   · refine ⟨fun c'=>c'=c,⟨s,cs,t,m4,m5,.inr ⟨c,cap,cur,h1,rfl,hO.heap,by simpa using hO.len,hO.max,hO.sz,fun i x hx=>hO.known i x (by rw [List.getElem?_map,hx];rfl)⟩⟩,fun c' h=>?_⟩
     subst h
     exact ⟨hO.lt,hO.npr⟩
 have hD:∀ c,(c=b ∨ B c) → c < g.w.heap.size:=fun c h=>h.elim (fun h=>h ▸ m1) (fun h=>(hB c h).1)
 have hn:∀ c,(c=b ∨ B c) → ∀ o,¬ g.pr c o:=fun c h=>h.elim (fun h=>h ▸ m6) (fun h=>(hB c h).2)
 refine Calls.mono (hok (g.lend _ hD) _ (Zis (by rw [hv];exact Zux hc hR hD) ((hargs.ok hu).le hA (Zr5 g _ hD) rfl rfl rfl))) ?_
 rintro en w' ⟨g',v,rfl,rfl,hs,hq⟩
 obtain ⟨g2,e1,e2,hs2⟩:=Ztj hn hs
 rw [← e1]
 refine hK v g2 hs2 fun e he=>?_
 rw [List.mem_singleton.1 he,hd,Zdp v (by rw [hN];exact hdN d hd)]
 exact hq g2 e1 (fun b' o hb' hp=>(e2 b' o).2 ⟨hp,fun h=>by have:=hD b' h;have hb':g.w.heap.size ≤ b':=hb';omega⟩)
def pST (kV:Kd γ) (raw:α → SlV → γ) (lst:α → List β) (dk:Kd β) (e:TypeId) (b:Nat) (x:α):Pd:=pAt (.pointer (some ⟨b,0,none⟩)) (Zjz kV raw lst dk e b x)
abbrev pSU (kV:Kd γ) (raw:α → SlV → γ) (b:Nat) (x:α):Pd:=Zho (some b) kV raw hpT 0 x
theorem Zic {b:Nat} {xv:α} {g:G} {v w:Value} (h:(pSU kV raw b xv).p g v) (h2:(pST kV raw lst dk e b xv).p g w):(Zjz kV raw lst dk e b xv).p g v:=by
 obtain ⟨s,⟨b',cs,t,e1,hm,hc⟩,_⟩:=h
 obtain rfl:=hc _ rfl
 rw [e1];exact h2
theorem Opd.joinS {b:Nat} {xv:α} (h:Opd uses x (pSU kV raw b xv)) (h2:Opd uses y (pST kV raw lst dk e b xv)):Opd uses x (Zjz kV raw lst dk e b xv):=fun a g hh=>Zic (h a g hh) (h2 a g hh)
theorem Z0t {b:Nat} {xv:α} {g:G} {v w:Value} (h:(Zjz kV raw lst dk e b xv).p g v):(pST kV raw lst dk e b xv).p g w:=by
 have h0:=h
 obtain ⟨s,⟨b',cs,t,e1,hm,hc⟩,_⟩:=h
 obtain rfl:=hc _ rfl
 rw [e1] at h0;exact h0
theorem Zyb {b:Nat} {xv:α} {a:Act} {g:G} {L:Z4} (h:St N ((0,Zjz kV raw lst dk e b xv) :: L) a g):St N ((0,pSU kV raw b xv) :: (L ++ [(1002,pST kV raw lst dk e b xv)])) a g:=⟨h.size,h.df,fun en he=>by
 have h0:=h.h (0,Zjz kV raw lst dk e b xv) (List.mem_cons_self ..)
 rcases List.mem_cons.1 he with rfl | he
 · exact Z2p h0
 · rcases List.mem_append.1 he with he | he
   · exact h.h en (List.mem_cons_of_mem _ he)
   · rw [List.mem_singleton.1 he];exact Z0t h0⟩
end
section
variable {P:Program} {N:Nat} {o:Oper} {uses outs:Z4} {S:List Nat} {d:Nat} {q:Pd} {x y z:Operand} {α β γ δ:Type} {kV:Kd γ} {raw:α → SlV → γ} {lst:α → List β} {k:Kd α} {dk:Kd β} {t e j jl:Nat} {bytes:Nat} {xv:α}
theorem Zx1 {xt:Nat} {xs vs:List β} (hT:TE P t e dk bytes) (hop:o.op=.call { callee:=.builtin .append,args:=#[.tmp xt,y],argTypes:=#[t,t] }) (hd:o.dst=some d) (hx:Opd uses (.tmp xt) (pArr dk e j xs)) (hy:Opd uses y (dk.sl.pd vs)) (hpos:0 < vs.length) (hl:(xs.length + vs.length) * bytes ≤ 140737488355328):OB P N o uses [(d,pArr dk e j (xs ++ vs))] [j + 1] :=
 OB.at fun a g hh=>by
   have hA:∀ (ys:List β) g (a:Act),Zdj [(d,pOwn dk e j none (ys.map some))] a g → Zdj [(d,pArr dk e j ys)] a g:=fun ys g a h en he=>by
     rw [List.mem_singleton.1 he]
     obtain ⟨b,cap,cur,hv,hO,_⟩:=h (d,pOwn dk e j none (ys.map some)) (List.mem_singleton.2 rfl)
     exact .inr ⟨b,cap,cur,by simpa using hv,hO⟩
   rcases hx a g hh with ⟨rfl,A,hv⟩ | ⟨b,cap,cur,hv,hO⟩
   · refine ⟨(xt,pEq (.slice A 0 0)) :: uses,fun en he=>?_,(Zrb (j:=j) (A:=A) (vs:=vs) hT hop hd .t0 (.tl hy) hpos (by simpa using hl)).weak (hA vs)⟩
     rcases List.mem_cons.1 he with rfl | he
     · exact hv
     · exact hh en he
   · refine ⟨(xt,pOwn dk e j none (xs.map some)) :: uses,fun en he=>?_,(Zlh (c:=none) (j:=j) (xs:=xs) (vs:=vs) hT hop hd .t0 (.tl hy) hl).weak (hA (xs ++ vs))⟩
     rcases List.mem_cons.1 he with rfl | he
     · have hv:Act.at a xt=.slice (some ⟨b,0,none⟩) xs.length cap:=hv
       exact ⟨b,cap,cur,by simpa using hv,hO,fun k hk=>by cases hk⟩
     · exact hh en he
def pBT (kV:Kd γ) (raw:α → SlV → γ) (lst:α → List β) (dk:Kd β) (e j jl:Nat) (x:α):Pd:=⟨fun g _=>∃ u,(pBxS kV raw (hpL (pArr dk e jl (lst x))) j x).p g u,[j + 1,jl + 1],fun st hd ⟨u,h⟩=>⟨u,(pBxS kV raw (hpL (pArr dk e jl (lst x))) j x).st st hd h⟩⟩
theorem Zw7 {g:G} {v w:Value} (h:(pBxS kV raw hpT j xv).p g v) (h2:(pBT kV raw lst dk e j jl xv).p g w):(pBxS kV raw (hpL (pArr dk e jl (lst xv))) j xv).p g v:=by
 obtain ⟨s1,⟨b1,cs1,t1,e1,⟨l1,o1,_⟩,_⟩,_⟩:=h
 obtain ⟨u,hu⟩:=h2
 have hu0:=hu
 obtain ⟨s2,⟨b2,cs2,t2,e2,⟨l2,o2,u2,_⟩,_⟩,_⟩:=hu
 rw [e1,u2 b1 l1 o1,← e2];exact hu0
theorem Opd.joinT (h:Opd uses x (pBxS kV raw hpT j xv)) (h2:Opd uses y (pBT kV raw lst dk e j jl xv)):Opd uses x (pBxS kV raw (hpL (pArr dk e jl (lst xv))) j xv):=fun a g hh=>Zw7 (h a g hh) (h2 a g hh)
theorem OB.bxT {s m:Nat} (h:OB P N o uses [(s,pBxS kV raw (hpL (pArr dk e jl (lst xv))) j xv)] S):OB P N o uses [(s,pBxS kV raw hpT j xv),(m,pBT kV raw lst dk e j jl xv)] S:=h.weak fun g a h en he=>by
 have h0:=h (s,pBxS kV raw (hpL (pArr dk e jl (lst xv))) j xv) (List.mem_singleton.2 rfl)
 rcases List.mem_cons.1 he with rfl | he
 · exact Z2p h0
 · rw [List.mem_singleton.1 he];exact ⟨_,h0⟩
theorem Z46 {m:Nat} (hl:lst xv=[]) (hop:o.op=.box t x) (hd:o.dst=some d) (hx:Opd uses x (kV.pd (raw xv (none,0,0)))):OB P N o uses [(d,pBxS kV raw hpT j xv),(m,pBT kV raw lst dk e j jl xv)] [j + 1] :=
 OB.bxT ((Znd hop hd hx).weak fun g a h en he=>by
   rw [List.mem_singleton.1 he]
   exact ⟨(none,0,0),h (d,pBox kV j (raw xv (none,0,0))) (List.mem_singleton.2 rfl),by show (pArr dk e jl (lst xv)).p g _;rw [hl];exact Z09⟩)
def Zjl (k : Ob α) (j : Nat) (r : Option α) : Pd := ⟨fun g v => match r with
   | none=>v=.pointer none
   | some x=>(pObj k j x).p g v,[j + 1,j + 1 + AUX],fun {S g g' v} s hd h=>by
   cases r with
   | none=>exact h
   | some x=>exact (pObj k j x).st s hd h⟩
theorem Zfz {k:Ob α} {r:Option α} {x:α} (hr:r=some x) {g:G} {v:Value} (h:(Zjl k j r).p g v):(pObj k j x).p g v:=by subst hr;exact h
theorem Zvd {k:Ob α} {r:Option α} (g:G) (v:Value) (h:(Zjl k j r).p g v):∃ p,v=.pointer p ∧ p.isNone=r.isNone:=by
 cases r with
 | none=>exact ⟨none,h,rfl⟩
 | some x =>
   obtain ⟨b,_,hv,_⟩:=h
   exact ⟨_,hv,rfl⟩
def Z6j (k:Ob α) (r:Option α) (g g':G) (pv:Value):Prop:=match r with
 | none=>pv=.pointer none
 | some x=>∃ b B,pv=.pointer (some ⟨b,0,none⟩) ∧ g.w.heap.size ≤ b ∧ b < g'.w.heap.size ∧ (∀ o,¬ g'.pr b o) ∧ k.R g' b B x ∧ ∀ c,B c → g.w.heap.size ≤ c ∧ c < g'.w.heap.size ∧ c ≠ b ∧ ∀ o,¬ g'.pr c o
def Zvz (P:Program) (f:FuncId) (A:List Pd) (k:Ob α) (r:Option α) (q:Pd):Prop :=
 ∀ (g:G) (args:List Value),ArgsOk A g args → Calls P f args.toArray g.w (fun en w'=>∃ g' pv ev,en=.returned (.tuple #[pv,ev]) ∧ w'=g'.w ∧ Znz (fun _=>False) g g' ∧ q.p g' ev ∧ Z6j k r g g' pv)
open Classical in
theorem Zqi {k : Ob α} {r : Option α} {f : FuncId} {xs : List Operand} {A : List Pd} {ty : Array TypeId} (he : Zl P f) (hok : Zvz P f A k r q) (hq : q.fp = []) (hop : o.op = .call { callee := .value (.func f), args := xs.toArray, argTypes := ty }) (hd : o.dst = some d)
   (hargs:OpdL uses xs A):OB P N o uses [(d,pTup [Zjl k j r,q])] [j + 1,j + 1 + AUX]:=by
 intro a g K Q hN hdN hu hK
 have hr:(execOp a.eval o).run P g.w=.ok (.enter f (xs.map a.eval).toArray) g.w:=by
   simp [execOp,hop,resolve,Act.eval,Deferred.ofValue,invoke,Zhh he]
 unfold Oper.wp
 rw [hr]
 show Calls P f _ g.w _
 refine Calls.mono (hok g _ (hargs.ok hu)) ?_
 rintro en w' ⟨g',pv,ev,rfl,rfl,hS,hqv,hres⟩
 have go:∀ (b:Nat) (B:Nat → Prop),(∀ c,(c=b ∨ B c) → g.w.heap.size ≤ c) → (∀ g2:G,g2.w=g'.w → g2.pr=g'.pr → g'.le g2 → (∀ c,g2.own c=if c < g.w.heap.size then (if g.own c=j + 1 ∨ g.own c=j + 1 + AUX then 0 else g.own c) else if c=b then j + 1 else if B c then j + 1 + AUX else 0) → (Zjl k j r).p g2 pv) → K (a.put o.dst (.tuple #[pv,ev])) g'.w:=fun b B hnew hp=>by
   let g2:G:=⟨g'.w,g'.pr,fun c=>if c < g.w.heap.size then (if g.own c=j + 1 ∨ g.own c=j + 1 + AUX then 0 else g.own c) else if c=b then j + 1 else if B c then j + 1 + AUX else 0,g'.hpr,g'.gl⟩
   have hle:g'.le g2:=⟨Nat.le_refl _,fun _ _ h=>h,fun _ _ _=>rfl,fun _ _=>rfl⟩
   have hown2:∀ c,g2.own c=if c < g.w.heap.size then (if g.own c=j + 1 ∨ g.own c=j + 1 + AUX then 0 else g.own c) else if c=b then j + 1 else if B c then j + 1 + AUX else 0:=fun _=>rfl
   refine hK _ g2 ⟨⟨hS.le.size,hS.le.pr,hS.le.cell,hS.le.blk⟩,hS.os,hS.tape,hS.output,fun c hc hn=>?_,fun c h1 h2=>?_,fun c hc hn=>?_⟩ fun e he=>?_
   · obtain ⟨k1,k2⟩:=hS.same c hc id
     refine ⟨k1,k2,?_⟩
     rw [hown2,if_pos hc,if_neg]
     simpa using hn
   · rw [hown2,if_neg (by omega)]
     split
     · simp
     · split <;> simp
   · rw [hown2,if_pos hc,if_pos (by simpa using hn)];exact .inl rfl
   · rw [List.mem_singleton.1 he,hd,Zdp _ (by rw [hN];exact hdN d hd)]
     exact Zfi (hp g2 rfl rfl hle hown2) (Pd.le hq hle rfl rfl rfl hqv)
 cases r with
 | none=>exact go g.w.heap.size (fun _=>False) (fun c h=>by rcases h with rfl | h;exact Nat.le_refl _;exact h.elim) (fun g2 _ _ _ _=>hres)
 | some x =>
   obtain ⟨b,B,hpv,hb1,hb2,hpb,hR,hB⟩:=hres
   refine go b B (fun c h=>by rcases h with rfl | h;exact hb1;exact (hB c h).1) (fun g2 e1 e2 hle hown2=>?_)
   show (pObj k j x).p g2 pv
   refine ⟨b,B,hpv,k.st hR hle (fun _ _=>by rw [e1]),by rw [e1];exact hb2,?_,fun c hc hoc=>?_,fun o=>by rw [e2];exact hpb o,fun c hc=>⟨by rw [e1];exact (hB c hc).2.1,?_,fun o=>by rw [e2];exact (hB c hc).2.2.2 o⟩⟩
   · rw [hown2,if_neg (by omega),if_pos rfl]
   · rw [hown2] at hoc
     split at hoc
     · split at hoc
       · omega
       · rename_i h;exact absurd hoc (fun h'=>h (.inl h'))
     · split at hoc
       · assumption
       · split at hoc
         · simp [AUX] at hoc
         · omega
   · rw [hown2,if_neg (by have:=(hB c hc).1;omega),if_neg (hB c hc).2.2.1,if_pos hc]
def Z16 (kV:Kd γ) (raw:α → SlV → γ) (lst:α → List β) (dk:Kd β) (e:TypeId) (r:Option α) (q:Pd) (g0:G) (v:Value) (g1:G):Prop:=Base g0 g1 ∧ ∃ pv ev,v=.tuple #[pv,ev] ∧ q.p g1 ev ∧ match r with
 | none=>pv=.pointer none
 | some x=>∃ j jl,j ≠ jl ∧ (pBxS kV raw (hpL (pArr dk e jl (lst x))) j x).p g1 pv
theorem Z0b {r : Option α} {f : FuncId} {fn : Func} {c : Code} {A : List Pd} (hf : P.funcs[f]? = some fn) (hb : fn.body = some c) (hn : fn.ntmps = N) (hAN : A.length ≤ N) (hA : Free A)
   (h:∀ (a:Act) (g:G),(∀ b,g.own b=0) → St N (Zjp A 0) a g → Base g g → c.wp P (bodyPost P fn (FinP (Z16 kV raw lst dk e r q g))) a g.w):Zvz P f A (obS kV raw lst dk e) r q:=by
 intro g args hargs
 let g0:G:=⟨g.w,g.pr,fun _=>0,g.hpr,g.gl⟩
 have hle:g.le g0:=⟨Nat.le_refl _,fun _ _ h=>h,fun _ _ _=>rfl,fun _ _=>rfl⟩
 have hst:St N (Zjp A 0) { tmps:=args.toArray ++ Array.replicate (fn.ntmps - args.toArray.size) undef,defers:=[] } g0:=by
   refine ⟨?_,rfl,?_⟩
   · have:=hargs.1
     simp [hn];omega
   · intro en he
     obtain ⟨i,h1,h2⟩:=Zkq he
     have hi:i < args.length:=by rw [hargs.1];exact (List.getElem?_eq_some_iff.1 h2).1
     have hv:Act.at { tmps:=args.toArray ++ Array.replicate (fn.ntmps - args.toArray.size) undef,defers:=[] } en.1=args[i]:=by
       rw [h1,Nat.zero_add]
       simp only [Act.at,Array.getD_eq_getD_getElem?]
       rw [Array.getElem?_append,if_pos (by simpa using hi)]
       simp [hi]
     rw [hv]
     exact Pd.le (hA.at h2) hle rfl rfl rfl (hargs.2 i en.2 _ h2 (List.getElem?_eq_getElem hi))
 have hbase:Base g0 g0:=⟨.refl _,rfl,rfl,rfl,fun _ _ _=>⟨rfl,rfl,rfl⟩⟩
 refine Calls.mono (calls_of_wp hf hb (h _ g0 (fun _=>rfl) hst hbase)) ?_
 rintro en w' ⟨g1,v,rfl,rfl,hBs,pv,ev,rfl,hqv,hres⟩
 have hnew:∀ c,g1.own c ≠ 0 → c < g1.w.heap.size → g.w.heap.size ≤ c:=fun c h1 h2=>Nat.le_of_not_lt fun hlt=>h1 ((hBs.same c hlt rfl).2.2)
 have hS:Znz (fun _=>False) g g1:=⟨⟨hBs.le.size,hBs.le.pr,hBs.le.cell,hBs.le.blk⟩,hBs.os,hBs.tape,hBs.output,fun c hc _=>⟨(hBs.same c hc rfl).1,(hBs.same c hc rfl).2.1⟩⟩
 refine ⟨g1,pv,ev,rfl,rfl,hS,hqv,?_⟩
 cases r with
 | none=>exact hres
 | some x0 =>
   obtain ⟨j,jl,hj,s1,⟨b,cs1,t1,rfl,⟨m1,m2,m3,m4,m5,m6⟩,_⟩,ha1⟩:=hres
   have hb0:=hnew b (by rw [m2];omega) m1
   rcases ha1 with ⟨hn,hA1⟩ | ⟨c,cap,cur,hv,hO⟩
   · exact ⟨b,fun _=>False,rfl,hb0,m1,m6,⟨s1,cs1,t1,m4,m5,.inl ⟨hn,hA1⟩⟩,fun c hc=>hc.elim⟩
   · refine ⟨b,fun c'=>c'=c,rfl,hb0,m1,m6,⟨s1,cs1,t1,m4,m5,.inr ⟨c,cap,cur,hv,rfl,hO.heap,by simpa using hO.len,hO.max,hO.sz,fun i x hx=>hO.known i x (by rw [List.getElem?_map,hx];rfl)⟩⟩,fun c' hc=>?_⟩
     subst hc
     exact ⟨hnew c' (by rw [hO.own];omega) hO.lt,hO.lt,fun h=>by have:=hO.own;rw [h,m2] at this;omega,hO.npr⟩
theorem Zt9 {fn:Func} {r1 r2:ResultVar} {v1 v2:Value} {r:Option α} {a:Act} {g g0:G} {L:Z4} (hr:fn.results=#[r1,r2]) (h:St N L a g) (hb:Base g0 g) (h1:Zf8 P a g r1 v1) (h2:Zf8 P a g r2 v2) (hq:q.p g v2) (ho:match r with
 | none=>v1=.pointer none
 | some x=>∃ j jl,j ≠ jl ∧ (pBxS kV raw (hpL (pArr dk e jl (lst x))) j x).p g v1):bodyPost P fn (FinP (Z16 kV raw lst dk e r q g0)) .ret a g.w :=
 ⟨h.df,.tuple #[v1,v2],by
   have h1':(Zgl a.tmps r1).run P g.w=.ok v1 g.w:=h1
   have h2':(Zgl a.tmps r2).run P g.w=.ok v2 g.w:=h2
   simp [Zie,hr,h1',h2'],g,_,rfl,rfl,hb,v1,v2,rfl,hq,ho⟩
theorem Zvn {m i b0:Nat} {xs:List β} {u v1 v2:β} {x':α} (hraw:∀ s,raw x' s=raw xv s) (hl:lst xv=xs) (hl':lst x'=xs.set i v2) (hT:Ty P t dk) (hop:o.op=.store t x z) (hd:o.dst=none) (hs:Opd uses (.tmp m) (pST kV raw lst dk e b0 xv)) (hx:Opd uses x (pEl dk e AUX xs i 0 dk v1)) (hz:Opd uses z (dk.pd v2)) (hi:xs[i]?=some u) (h0:0 < dk.sz):OB P N o uses [(m,pST kV raw lst dk e b0 x')] [AUX + 1] :=
 Znb hd fun a g hh=>by
   obtain ⟨s,hbox,harr⟩:=hs a g hh
   obtain ⟨b,cap,cur,cur',g',hv,hO,hr,hst,hO'⟩:=Zqc (u':=v2) hT (hx a g hh) (hz a g hh) hi (fun g cs ys h1 h2 h3=>by
     have l1:=dk.len h1
     have l2:=dk.len h2
     have:Zz cs 0 ys=ys:=by
       simp only [Zz,List.take_zero,List.nil_append,Nat.zero_add]
       rw [List.drop_of_length_le (by omega),List.append_nil]
     rw [this];exact h2)
   simp only [Nat.add_zero] at hv hr
   refine ⟨g',by simp [execOp,hop,hv,Instr.storeAt,Instr.sureAddr,hr],hst,fun en he=>?_⟩
   rw [List.mem_singleton.1 he]
   refine ⟨s,?_,?_⟩
   · rw [hraw s]
     exact (Zbl (some b0) kV 0 (raw xv s)).st hst (fun k hk hS=>by
       have h1:=List.mem_singleton.1 hk
       have h2:=List.mem_singleton.1 hS
       simp [AUX] at h2;omega) hbox
   · show (pArr dk e AUX (lst x')).p g' (slv s)
     rw [hl']
     have harr:(pArr dk e AUX (lst xv)).p g (slv s):=harr
     rw [hl] at harr
     rcases harr with ⟨rfl,_⟩ | ⟨b2,cap2,cur2,hv2,hO2⟩
     · simp at hi
     · obtain ⟨rfl,rfl,rfl⟩:=hO.same hO2 h0
       exact .inr ⟨b2,cap2,cur',by rw [List.length_set];exact hv2,hO'⟩
theorem Ztp {m i b0 s0:Nat} {xs:List β} {u v1 v2:β} {x':α} (hraw:∀ s,raw x' s=raw xv s) (hl:lst xv=xs) (hl':lst x'=xs.set i v2) (hT:Ty P t dk) (hop:o.op=.store t x z) (hd:o.dst=none) (h0s:Opd uses (.tmp s0) (pSU kV raw b0 xv)) (hs:Opd uses (.tmp m) (pST kV raw lst dk e b0 xv)) (hx:Opd uses x (pEl dk e AUX xs i 0 dk v1)) (hz:Opd uses z (dk.pd v2)) (hi:xs[i]?=some u) (h0:0 < dk.sz):OB P N o uses [(m,pST kV raw lst dk e b0 x'),(s0,pSU kV raw b0 x')] [AUX + 1] :=
 (OB.frameU (Zvn hraw hl hl' hT hop hd hs hx hz hi h0) h0s (fun k hk hS=>by
   have h1:=List.mem_singleton.1 hk
   have h2:=List.mem_singleton.1 hS
   simp [AUX] at h2;omega) (by rw [hd];simp)).weak fun g a h en he=>by
   rcases List.mem_cons.1 he with rfl | he
   · exact h (m,pST kV raw lst dk e b0 x') (by simp)
   · rw [List.mem_singleton.1 he]
     obtain ⟨s,h1,h2⟩:=h (s0,pSU kV raw b0 xv) (by simp)
     refine ⟨s,?_,h2⟩
     rw [hraw s];exact h1
theorem Zzd {k1 k2:IntKind} {n m:Int}:∀ (g g':G) (v:Value),(pTup [pInt k1 n,pInt k2 m]).p g v → (pTup [pInt k1 n,pInt k2 m]).p g' v:=fun g g' v ⟨vs,h1,h2,h3⟩=>⟨vs,h1,h2,fun i q u hq hu=>by
 have:=h3 i q u hq hu
 match i,hq with
 | 0,hq=>simp at hq;subst hq;exact Zb3.2 (Zb3.1 this)
 | 1,hq=>simp at hq;subst hq;exact Zb3.2 (Zb3.1 this)
 | i + 2,hq=>simp at hq⟩
theorem Zrx (g:G):(pEq (.pointer none)).p g (.pointer none):=rfl
theorem Z3c (h:∀ (g g':G) (x:β) (cs:List Value),dk.K g x cs → dk.K g' x cs) {x:β}:∀ (g g':G) (v:Value),(dk.pd x).p g v → (dk.pd x).p g' v:=fun g g' v ⟨cs,k,e⟩=>⟨cs,h g g' x cs k,e⟩
theorem OB.objO {k:Ob α} {s:Nat} {x1:α} (h:OB P N o uses [(d,q),(s,pObj k j x1)] S):OB P N o uses [(d,q),(s,Zjl k j (some x1))] S:=h.weak fun g a h en he=>by
 rcases List.mem_cons.1 he with rfl | he
 · exact h (d,q) (by simp)
 · rw [List.mem_singleton.1 he]
   exact h (s,pObj k j x1) (by simp)
end
section
variable {P:Program} {N:Nat} {o:Oper} {uses outs:Z4} {S:List Nat} {d:Nat} {q:Pd} {x y z:Operand} {α β γ:Type} {kV:Kd γ} {raw:α → SlV × SlV → γ} {l1 l2:α → List β} {k:Kd α} {dk:Kd β} {t e j:Nat} {xv:α}
theorem ArrB.st {xs:List β} {g g':G} {v:Value} {B:Nat → Prop} (h:ArrB dk e xs g v B) (hle:g.le g') (hh:∀ c,B c → g'.w.heap[c]?=g.w.heap[c]?):ArrB dk e xs g' v B:=by
 rcases h with h | ⟨c,cap,cur,k1,k2,k3,k4,k5,k6,k7⟩
 · exact .inl h
 · exact .inr ⟨c,cap,cur,k1,k2,(hh c k2).trans k3,k4,k5,k6,fun i x hx=>dk.mono hle (k7 i x hx)⟩
end
section
variable {P:Program} {N:Nat} {o:Oper} {uses outs:Z4} {S:List Nat} {d:Nat} {q:Pd} {x y z:Operand} {α β γ:Type} {kV:Kd γ} {raw:α → SlV × SlV → γ} {l1 l2:α → List β} {dk:Kd β} {t e j:Nat}
structure OAt (kV:Kd γ) (raw:α → SlV × SlV → γ) (l1 l2:α → List β) (dk:Kd β) (e j:Nat) (x:α) (g:G) (b:Nat) (B:Nat → Prop) (s:SlV × SlV):Prop where
 heap:∃ cs t,g.w.heap[b]?=some (.cells (List.toArray cs) t (0,0)) ∧ kV.K g (raw x s) cs
 a1:ArrB dk e (l1 x) g (slv s.1) B
 a2:ArrB dk e (l2 x) g (slv s.2) B
 lt:b < g.w.heap.size
 own:g.own b=j + 1
 bown:∀ c,B c → c < g.w.heap.size ∧ g.own c=j + 1 + AUX
variable {xv:α}
theorem OAt.st {g g':G} {b:Nat} {B:Nat → Prop} {s:SlV × SlV} (h:OAt kV raw l1 l2 dk e j xv g b B s) (st:Step S g g') (h1:j + 1 ∉ S) (h2:j + 1 + AUX ∉ S):OAt kV raw l1 l2 dk e j xv g' b B s:=by
 obtain ⟨cs,t,e1,e2⟩:=h.heap
 obtain ⟨k1,_,k3⟩:=st.same b h.lt (by rw [h.own];exact h1)
 have hB:∀ c,B c → g'.w.heap[c]?=g.w.heap[c]?:=fun c hc=>(st.same c (h.bown c hc).1 (by rw [(h.bown c hc).2];exact h2)).1
 exact ⟨⟨cs,t,k1.trans e1,kV.mono st.le e2⟩,h.a1.st st.le hB,h.a2.st st.le hB,Nat.lt_of_lt_of_le h.lt st.le.size,k3.trans h.own,fun c hc=>by
   obtain ⟨m1,m2⟩:=h.bown c hc
   exact ⟨Nat.lt_of_lt_of_le m1 st.le.size,(st.same c m1 (by rw [m2];exact h2)).2.2.trans m2⟩⟩
theorem OB.ownA {xs:List β} {c:Option Nat} (h:OB P N o uses [(d,pOwn dk e j c (xs.map some))] S):OB P N o uses [(d,pArr dk e j xs)] S:=h.weak fun g a h en he=>by
 rw [List.mem_singleton.1 he]
 obtain ⟨b,cap,cur,hv,hO,_⟩:=h (d,pOwn dk e j c (xs.map some)) (List.mem_singleton.2 rfl)
 exact .inr ⟨b,cap,cur,by simpa using hv,hO⟩
end
structure Zbu where
 text:Bool
 num:Bool
 bounds:Bool
 real:Bool
 list:Bool
 deriving Inhabited
structure Zd where
 Score:Nat
 Name:ByteArray
 deriving Inhabited
structure Za where
 Kind:Int
 Num:Int
 Low:Int
 High:Int
 Real:Nat
 Cap:Int
 Text:ByteArray
 List:List Zd
 deriving Inhabited
structure Zcn where
 word:ByteArray
 on:Int
 has:ByteArray
 deriving Inhabited
structure Zg where
 Kind:Int
 Key:ByteArray
 N:Int
 X:Nat
 S:ByteArray
 Make:Za
 Must:Bool
 deriving Inhabited
structure Zi where
 Code:Int
 Num:Int
 Rec:Za
 deriving Inhabited
structure Zs where
 up:Int
 down:Int
 deriving Inhabited
structure Zu where
 r:Za
 by_:List Zs
 deriving Inhabited
structure Zv where
 Worker:Int
 Act:Zg
 deriving Inhabited
def g_1:List Zcn:=[{ word:=⟨#[]⟩,on:=(0),has:=⟨#[]⟩ },
 { word:=⟨#[110,101,119]⟩,on:=(0),has:=⟨#[109]⟩ },
 { word:=⟨#[100,114,111,112]⟩,on:=(0),has:=⟨#[]⟩ },
 { word:=⟨#[105,115]⟩,on:=(0),has:=⟨#[]⟩ },
 { word:=⟨#[108,111,111,107]⟩,on:=(0),has:=⟨#[]⟩ },
 { word:=⟨#[112,117,116]⟩,on:=(1),has:=⟨#[115]⟩ },
 { word:=⟨#[115,119,97,112]⟩,on:=(1),has:=⟨#[115]⟩ },
 { word:=⟨#[97,100,100]⟩,on:=(2),has:=⟨#[110]⟩ },
 { word:=⟨#[112,108,117,115]⟩,on:=(3),has:=⟨#[110]⟩ },
 { word:=⟨#[114,101,97,99,104]⟩,on:=(3),has:=⟨#[110]⟩ },
 { word:=⟨#[105,110]⟩,on:=(4),has:=⟨#[110]⟩ },
 { word:=⟨#[111,117,116]⟩,on:=(4),has:=⟨#[110]⟩ },
 { word:=⟨#[101,110,111,117,103,104]⟩,on:=(4),has:=⟨#[110]⟩ },
 { word:=⟨#[114,97,105,115,101]⟩,on:=(5),has:=⟨#[120]⟩ },
 { word:=⟨#[108,111,119,101,114]⟩,on:=(6),has:=⟨#[120]⟩ },
 { word:=⟨#[115,104,105,102,116]⟩,on:=(7),has:=⟨#[120]⟩ },
 { word:=⟨#[115,99,97,108,101]⟩,on:=(7),has:=⟨#[120]⟩ },
 { word:=⟨#[102,105,120]⟩,on:=(7),has:=⟨#[120]⟩ },
 { word:=⟨#[106,111,105,110]⟩,on:=(8),has:=⟨#[115]⟩ },
 { word:=⟨#[108,101,97,118,101]⟩,on:=(8),has:=⟨#[115]⟩ },
 { word:=⟨#[104,97,115]⟩,on:=(8),has:=⟨#[115]⟩ },
 { word:=⟨#[111,102,102,101,114]⟩,on:=(9),has:=⟨#[120,115]⟩ }]
def Zik (j11:Bool):Option (Zbu):=(if j11 then (some ({ text:=false,num:=false,bounds:=false,real:=false,list:=true }:Zbu)) else (some ({ text:=false,num:=false,bounds:=false,real:=false,list:=false }:Zbu)))
def Zg5 (a0:Int) (j8:Bool):Option (Zbu):=(if j8 then (some ({ text:=false,num:=false,bounds:=false,real:=true,list:=false }:Zbu)) else (if (a0 == (8:Int)) then (Zik (a0 == (8:Int))) else (Zik (a0 == (9:Int)))))
def Zio (a0:Int) (j3:Bool):Option (Zbu):=(if j3 then (some ({ text:=false,num:=true,bounds:=false,real:=false,list:=false }:Zbu)) else (if (a0 == (4:Int)) then (some ({ text:=false,num:=true,bounds:=true,real:=false,list:=false }:Zbu)) else (if (a0 == (5:Int)) then (Zg5 a0 (a0 == (5:Int))) else (if (a0 == (6:Int)) then (Zg5 a0 (a0 == (6:Int))) else (Zg5 a0 (a0 == (7:Int)))))))
def Zdl (a0:Int):Option (Zbu):=(if (a0 == (1:Int)) then (some ({ text:=true,num:=false,bounds:=false,real:=false,list:=false }:Zbu)) else (if (a0 == (2:Int)) then (Zio a0 (a0 == (2:Int))) else (Zio a0 (a0 == (3:Int)))))
def Zj2:Option (Nat):=(some (Int.toNat (9221120237041090561:Int)))
def Zej (a0:Nat):Option (Nat):=(if (fneq a0 a0) then ((Zj2).bind fun r2=>(some r2)) else (some a0))
def Zj8 (a0:Nat):Option (Int):=((Zej a0).bind fun r1=>(if ((bAnd .u64 (r1:Int) (9223372036854775808:Int)) != (0:Int)) then (some (bXor .u64 IntKind.u64.max (r1:Int))) else (some (bOr .u64 (r1:Int) (9223372036854775808:Int)))))
def Zhv (a0:Nat) (a1:Nat):Option (Bool):=((Zj8 a0).bind fun r1=>((Zj8 a1).bind fun r3=>(some (r1 == r3))))
def Zma (a0:Za) (a1:Zbu):Option (Bool):=((gd ((((a1.text || (sEq a0.Text (⟨#[]⟩:ByteArray))) && (a1.num || (a0.Num == (0:Int)))) && (a1.bounds || ((a0.Low == (0:Int)) && (a0.High == (0:Int))))) && (!a1.real)) (Zhv a0.Real (0:Nat))).bind fun r1=>(some (((((a1.text || (sEq a0.Text (⟨#[]⟩:ByteArray))) && (a1.num || (a0.Num == (0:Int)))) && (a1.bounds || ((a0.Low == (0:Int)) && (a0.High == (0:Int))))) && (a1.real || r1)) && (a1.list || ((a0.Cap == (0:Int)) && ((a0.List.length:Int) == (0:Int)))))))
def Zid (a0:Nat):Option (Bool):=((Zej a0).bind fun r1=>(some ((a0:Int) == (r1:Int))))
def Zj7 (a0:Nat) (a1:Nat):Option (Bool):=((Zj8 a0).bind fun r1=>((Zj8 a1).bind fun r3=>(some (decide (r1 < r3)))))
def Zij (a0:Zd) (a1:Zd):Option (Bool):=((Zhv a0.Score a1.Score).bind fun r1=>(if (!r1) then ((Zj7 a1.Score a0.Score).bind fun r4=>(some r4)) else (some (sLt a0.Name a1.Name))))
def Zem (a0:Int) (a1:List Zd):Nat → (Int) → Option ((Int) ⊕ (Unit))
 | 0,_=>none
 | n + 1,x1=>(if (decide (x1 < (a1.length:Int))) then ((idx a1 x1).bind fun e3=>(if (decide ((16:Int) < (e3.Name.size:Int))) then (some (.inl (3:Int))) else ((gd (a0 == (8:Int)) (Zhv e3.Score (0:Nat))).bind fun r6=>((gd (!((a0 == (8:Int)) && (!r6))) (Zid e3.Score)).bind fun r8=>(if (((a0 == (8:Int)) && (!r6)) || (!r8)) then (some (.inl (4:Int))) else ((gd ((decide ((0:Int) < x1)) && (a0 == (8:Int))) (idx a1 (IntKind.i64.wrap (x1 - (1:Int))))).bind fun e11=>(if (((decide ((0:Int) < x1)) && (a0 == (8:Int))) && (!sLt e11.Name e3.Name)) then (some (.inl (4:Int))) else ((gd ((decide ((0:Int) < x1)) && (a0 == (9:Int))) (idx a1 (IntKind.i64.wrap (x1 - (1:Int))))).bind fun e14=>((gd ((decide ((0:Int) < x1)) && (a0 == (9:Int))) (Zij e14 e3)).bind fun r16=>(if (((decide ((0:Int) < x1)) && (a0 == (9:Int))) && (!r16)) then (some (.inl (4:Int))) else ((Zem a0 a1 n) (IntKind.i64.wrap (x1 + (1:Int)))))))))))))) else (some (.inr ())))
def Zk7 (a0:Int) (a1:List Zd):Option (Int):=((Zem a0 a1 (Int.toNat ((a1.length:Int) - (0:Int)) + 1) (0:Int)).bind fun z19=>match z19 with | .inl r=>some r | .inr ()=>(some (0:Int)))
def Zdg (a0:Za):Option (Int):=((Zdl a0.Kind).bind fun r1=>(if ((decide (a0.Kind ≤ (0:Int))) || (decide ((10:Int) ≤ a0.Kind))) then (some (5:Int)) else ((Zma a0 r1).bind fun r4=>(if (!r4) then (some (4:Int)) else (if (decide ((64:Int) < (a0.Text.size:Int))) then (some (3:Int)) else (if (r1.bounds && ((((decide (a0.Low < (-2305843009213693952:Int))) || (decide ((2305843009213693952:Int) < a0.High))) || (decide (a0.Num < a0.Low))) || (decide (a0.High < a0.Num)))) then (some (1:Int)) else ((Zid a0.Real).bind fun r9=>(if (!r9) then (some (4:Int)) else (if (!r1.list) then (some (0:Int)) else (if ((decide (a0.Cap < (1:Int))) || (decide ((32:Int) < a0.Cap))) then (some (1:Int)) else (if (decide (a0.Cap < (a0.List.length:Int))) then (some (8:Int)) else ((Zk7 a0.Kind a0.List).bind fun r15=>(some r15)))))))))))))
def Zk1 (j2:Int):Option (Nat):=(some (Int.toNat j2))
def Zn3 (a0:Int):Option (Nat):=(if (decide ((0:Int) ≤ a0)) then (Zk1 (9218868437227405312:Int)) else (Zk1 (18442240474082181120:Int)))
def Zfr (a0:Za) (j6:Bool):Option (Za × Bool):=(if j6 then (some (({ Kind:=(2:Int),Num:=(0:Int),Low:=(0:Int),High:=(0:Int),Real:=(0:Nat),Cap:=(0:Int),Text:=ByteArray.empty,List:=([]:List Zd) }:Za),true)) else (if (a0.Kind == (5:Int)) then ((Zn3 (-1:Int)).bind fun r9=>(some (({ Kind:=(5:Int),Num:=(0:Int),Low:=(0:Int),High:=(0:Int),Real:=r9,Cap:=(0:Int),Text:=ByteArray.empty,List:=([]:List Zd) }:Za),true))) else (if (a0.Kind == (6:Int)) then ((Zj2).bind fun r12=>(some (({ Kind:=(6:Int),Num:=(0:Int),Low:=(0:Int),High:=(0:Int),Real:=r12,Cap:=(0:Int),Text:=ByteArray.empty,List:=([]:List Zd) }:Za),true))) else (if (a0.Kind == (8:Int)) then (some (({ Kind:=(8:Int),Num:=(0:Int),Low:=(0:Int),High:=(0:Int),Real:=(0:Nat),Cap:=(32:Int),Text:=ByteArray.empty,List:=([]:List Zd) }:Za),true)) else (if (a0.Kind == (9:Int)) then (some (({ Kind:=(9:Int),Num:=(0:Int),Low:=(0:Int),High:=(0:Int),Real:=(0:Nat),Cap:=a0.Cap,Text:=ByteArray.empty,List:=([]:List Zd) }:Za),true)) else (some (({ Kind:=(0:Int),Num:=(0:Int),Low:=(0:Int),High:=(0:Int),Real:=(0:Nat),Cap:=(0:Int),Text:=ByteArray.empty,List:=([]:List Zd) }:Za),false)))))))
def Zek (a0:Za):Option (Za × Bool):=((Zdg a0).bind fun r1=>(if (r1 != (0:Int)) then (some (({ Kind:=(0:Int),Num:=(0:Int),Low:=(0:Int),High:=(0:Int),Real:=(0:Nat),Cap:=(0:Int),Text:=ByteArray.empty,List:=([]:List Zd) }:Za),false)) else (if (a0.Kind == (2:Int)) then (Zfr a0 (a0.Kind == (2:Int))) else (if (a0.Kind == (3:Int)) then (Zfr a0 (a0.Kind == (3:Int))) else (Zfr a0 (a0.Kind == (4:Int)))))))
def Zmb (a0:Int):Option (Zcn):=(if ((decide (a0 ≤ (0:Int))) || (decide ((22:Int) ≤ a0))) then (some ({ word:=ByteArray.empty,on:=(0:Int),has:=ByteArray.empty }:Zcn)) else ((idx g_1 a0).bind fun e2=>(some e2)))
def Zd5 (a0:Int):Option (Int):=((Zmb a0).bind fun r1=>(some r1.on))
def Zck (a0:Int) (a1:Int) (j8:Bool):Option (Bool):=(if j8 then ((Zd5 a1).bind fun r10=>(some (r10 == a0))) else (some false))
def Zen (a0:Int) (a1:Int):Option (Bool):=(if (a1 == (7:Int)) then (Zck a0 a1 (a1 == (7:Int))) else (if (a1 == (8:Int)) then (Zck a0 a1 (a1 == (8:Int))) else (if (a1 == (10:Int)) then (Zck a0 a1 (a1 == (10:Int))) else (if (a1 == (11:Int)) then (Zck a0 a1 (a1 == (11:Int))) else (if (a1 == (13:Int)) then (Zck a0 a1 (a1 == (13:Int))) else (if (a1 == (14:Int)) then (Zck a0 a1 (a1 == (14:Int))) else (if (a1 == (18:Int)) then (Zck a0 a1 (a1 == (18:Int))) else (Zck a0 a1 (a1 == (21:Int))))))))))
def Zbr (a0:List Zd):Option (List Zd):=if a0.length * 24 ≤ 140737488355328 then some a0 else none
def Zf1 (a0:Za):Option (Za):=((Zbr a0.List).bind fun r1=>(some ({ a0 with List:=r1 })))
def Zge (a0:Nat) (a1:Nat):Option (Nat):=((Zj7 a0 a1).bind fun r1=>(if r1 then ((Zej a1).bind fun r4=>(some r4)) else ((Zej a0).bind fun r6=>(some r6))))
def Zgh (a0:Nat) (a1:Nat):Option (Nat):=((Zj7 a1 a0).bind fun r1=>(if r1 then ((Zej a1).bind fun r4=>(some r4)) else ((Zej a0).bind fun r6=>(some r6))))
def Zgj (a0:Zcn) (a1:Int):Nat → (Int) → Option ((Bool) ⊕ (Unit))
 | 0,_=>none
 | n + 1,x1=>(if (decide (x1 < (a0.has.size:Int))) then ((sidx a0.has x1).bind fun b3=>(if (b3 == a1) then (some (.inl true)) else ((Zgj a0 a1 n) (IntKind.i64.wrap (x1 + (1:Int)))))) else (some (.inr ())))
def Zcr (a0:Zcn) (a1:Int):Option (Bool):=((Zgj a0 a1 (Int.toNat ((a0.has.size:Int) - (0:Int)) + 1) (0:Int)).bind fun z6=>match z6 with | .inl r=>some r | .inr ()=>(some false))
def Zbd (a0:List Zd) (a1:List Zd) (φ2:Zd → Zd → Option Bool):Nat → (Int) → Option ((Bool) ⊕ (Unit))
 | 0,_=>none
 | n + 1,x2=>(if (decide (x2 < (a0.length:Int))) then ((idx a0 x2).bind fun e4=>((idx a1 x2).bind fun e6=>((φ2 e4 e6).bind fun r8=>(if (!r8) then (some (.inl false)) else ((Zbd a0 a1 φ2 n) (IntKind.i64.wrap (x2 + (1:Int)))))))) else (some (.inr ())))
def Zbx (a0:List Zd) (a1:List Zd) (φ2:Zd → Zd → Option Bool):Option (Bool):=(if ((a0.length:Int) != (a1.length:Int)) then (some false) else ((Zbd a0 a1 φ2 (Int.toNat ((a0.length:Int) - (0:Int)) + 1) (0:Int)).bind fun z11=>match z11 with | .inl r=>some r | .inr ()=>(some true)))
def Zhm (a0:Zd) (a1:Zd):Option (Bool):=((gd (sEq a0.Name a1.Name) (Zhv a0.Score a1.Score)).bind fun r1=>(some ((sEq a0.Name a1.Name) && r1)))
def Zlv (a0:Za) (a1:Za):Option (Bool):=((gd ((((a0.Kind == a1.Kind) && (a0.Num == a1.Num)) && (a0.Low == a1.Low)) && (a0.High == a1.High)) (Zhv a0.Real a1.Real)).bind fun r1=>((gd (((((((a0.Kind == a1.Kind) && (a0.Num == a1.Num)) && (a0.Low == a1.Low)) && (a0.High == a1.High)) && r1) && (a0.Cap == a1.Cap)) && (sEq a0.Text a1.Text)) (Zbx a0.List a1.List (fun y0 y1=>Zhm y0 y1))).bind fun r3=>(some ((((((((a0.Kind == a1.Kind) && (a0.Num == a1.Num)) && (a0.Low == a1.Low)) && (a0.High == a1.High)) && r1) && (a0.Cap == a1.Cap)) && (sEq a0.Text a1.Text)) && r3))))
def Znp (a0:Zg) (a1:Zcn):Option (Bool):=((Zcr a1 (110:Int)).bind fun r1=>((gd (r1 || (a0.N == (0:Int))) (Zcr a1 (120:Int))).bind fun r3=>((gd ((r1 || (a0.N == (0:Int))) && (!r3)) (Zhv a0.X (0:Nat))).bind fun r5=>((gd ((r1 || (a0.N == (0:Int))) && (r3 || r5)) (Zcr a1 (115:Int))).bind fun r7=>((gd (((r1 || (a0.N == (0:Int))) && (r3 || r5)) && (r7 || (sEq a0.S (⟨#[]⟩:ByteArray)))) (Zcr a1 (109:Int))).bind fun r9=>((gd ((((r1 || (a0.N == (0:Int))) && (r3 || r5)) && (r7 || (sEq a0.S (⟨#[]⟩:ByteArray)))) && (!r9)) (Zlv a0.Make ({ Kind:=(0:Int),Num:=(0:Int),Low:=(0:Int),High:=(0:Int),Real:=(0:Nat),Cap:=(0:Int),Text:=ByteArray.empty,List:=([]:List Zd) }:Za))).bind fun r11=>(some ((((r1 || (a0.N == (0:Int))) && (r3 || r5)) && (r7 || (sEq a0.S (⟨#[]⟩:ByteArray)))) && (r9 || r11)))))))))
def Znr (a0:Zcn):Option (Int):=(if (a0.on == (1:Int)) then (some (64:Int)) else (some (16:Int)))
def Zeg (a0:Zg):Option (Int):=((Zmb a0.Kind).bind fun r1=>(if (sEq r1.word (⟨#[]⟩:ByteArray)) then (some (5:Int)) else (if ((sEq a0.Key (⟨#[]⟩:ByteArray)) || (decide ((24:Int) < (a0.Key.size:Int)))) then (some (1:Int)) else ((Znp a0 r1).bind fun r5=>(if (!r5) then (some (4:Int)) else ((Znr r1).bind fun r8=>(if (decide (r8 < (a0.S.size:Int))) then (some (3:Int)) else (if (((a0.Kind == (10:Int)) || (a0.Kind == (11:Int))) && ((decide (a0.N < (0:Int))) || (decide ((2305843009213693952:Int) < a0.N)))) then (some (1:Int)) else ((Zid a0.X).bind fun r12=>(if (!r12) then (some (4:Int)) else (if (a0.Kind == (1:Int)) then ((Zdg a0.Make).bind fun r16=>(some r16)) else (some (0:Int)))))))))))))
def Zh2 (a0:Za) (a1:Zg) (a2:Zi):Option (Int × Za × Zi):=(some ((0:Int),({ a0 with Text:=a1.S }),a2))
def Zfp (a0:Za) (a1:Zg) (a2:Zi):Option (Int × Za × Zi):=((Zf1 a0).bind fun r1=>(some ((0:Int),({ a0 with Text:=a1.S }),({ a2 with Rec:=r1 }))))
def Zh9 (a0:Za) (a1:Zg) (a2:Zi):Option (Int × Za × Zi):=(some ((0:Int),({ a0 with Num:=(IntKind.i64.wrap (a0.Num + a1.N)) }),a2))
def Zjg (a0:Za) (a1:Zg) (a2:Zi):Option (Int × Za × Zi):=(if (((decide ((0:Int) < a1.N)) && (decide ((IntKind.i64.wrap ((9223372036854775807:Int) - a1.N)) < a0.Num))) || ((decide (a1.N < (0:Int))) && (decide (a0.Num < (IntKind.i64.wrap ((-9223372036854775808:Int) - a1.N)))))) then (some ((9:Int),a0,a2)) else (some ((0:Int),({ a0 with Num:=(IntKind.i64.wrap (a0.Num + a1.N)) }),a2)))
def Zeo (a0:Za) (a1:Zg) (a2:Zi):Option (Int × Za × Zi):=(if (decide (a0.Num < a1.N)) then (some ((11:Int),a0,a2)) else (some ((0:Int),a0,a2)))
def Zfl (a0:Za) (a1:Zg) (a2:Zi):Option (Int × Za × Zi):=(if (decide ((IntKind.i64.wrap (a0.High - a0.Num)) < a1.N)) then (some ((9:Int),a0,a2)) else (some ((0:Int),({ a0 with Num:=(IntKind.i64.wrap (a0.Num + a1.N)) }),a2)))
def Zft (a0:Za) (a1:Zg) (a2:Zi):Option (Int × Za × Zi):=(if (decide ((IntKind.i64.wrap (a0.Num - a0.Low)) < a1.N)) then (some ((10:Int),a0,a2)) else (some ((0:Int),({ a0 with Num:=(IntKind.i64.wrap (a0.Num - a1.N)) }),a2)))
def Zdo (ψ:Nat → Nat → Option Nat) (a0:Za) (a1:Zg) (a2:Zi):Option (Int × Za × Zi):=(ψ a0.Real a1.X).bind fun z=>some ((0:Int),{ a0 with Real:=z },a2)
def Zgy (a0:Nat) (a1:Nat):Option (Nat):=((Zej (fadd a0 a1)).bind fun r1=>(some r1))
def Zfx (a0:Nat) (a1:Nat):Option (Nat):=((Zej (fmul a0 a1)).bind fun r1=>(some r1))
def Zfq (a0:Nat) (a1:Nat):Option (Nat):=(some a1)
def Zbz (kk:(Int) → (Int) → Option (Int)) (j9:Int) (j10:Int):Option (Int):=(kk j9 j10)
def Zbb (a0:List Zd) (a1:ByteArray) (φ2:Zd → ByteArray → Option Int):Nat → (Int) → (Int) → Option (Int)
 | 0,_,_=>none
 | n + 1,x1,x2=>(if (decide (x1 < x2)) then ((idx a0 (IntKind.i64.wrap (Int.fdiv (IntKind.u64.wrap (IntKind.i64.wrap (x1 + x2))) (2 ^ 1)))).bind fun e4=>((φ2 e4 a1).bind fun r6=>(if (decide (r6 < (0:Int))) then (Zbz (Zbb a0 a1 φ2 n) (IntKind.i64.wrap ((IntKind.i64.wrap (Int.fdiv (IntKind.u64.wrap (IntKind.i64.wrap (x1 + x2))) (2 ^ 1))) + (1:Int))) x2) else (Zbz (Zbb a0 a1 φ2 n) x1 (IntKind.i64.wrap (Int.fdiv (IntKind.u64.wrap (IntKind.i64.wrap (x1 + x2))) (2 ^ 1))))))) else (some x1))
def Zcd (a0:List Zd) (a1:ByteArray) (φ2:Zd → ByteArray → Option Int):Option (Int × Bool):=((Zbb a0 a1 φ2 (Int.toNat ((a0.length:Int) - (0:Int)) + 1) (0:Int) (a0.length:Int)).bind fun z12=>match z12 with | y11=>((gd (decide (y11 < (a0.length:Int))) (idx a0 y11)).bind fun e13=>((gd (decide (y11 < (a0.length:Int))) (φ2 e13 a1)).bind fun r15=>(some (y11,((decide (y11 < (a0.length:Int))) && (r15 == (0:Int))))))))
def Zhs (a0:Zd) (a1:ByteArray):Option (Int):=(if (sLt a0.Name a1) then (some (-1:Int)) else (if (!(sLt a0.Name a1 || sEq a0.Name a1)) then (some (1:Int)) else (some (0:Int))))
def Zjc (a0:List Zd) (a1:ByteArray):Option (Int × Bool):=((Zcd a0 a1 (fun y0 y1=>Zhs y0 y1)).bind fun r1=>(some (r1.1,r1.2)))
def Zby (a0:List Zd) (a1:Int) (a2:List Zd):Option (List Zd):=if 0 ≤ a1 ∧ a1 ≤ a0.length ∧ 0 < a2.length ∧ (a0.length + a2.length) * 24 ≤ 140737488355328 then some (a0.take a1.toNat ++ a2 ++ a0.drop a1.toNat) else none
def Zi9 (a0:Za) (a1:Zg) (a2:Zi):Option (Int × Za × Zi):=((Zjc a0.List a1.S).bind fun r1=>(if r1.2 then (some ((0:Int),a0,a2)) else (if (decide (a0.Cap ≤ (a0.List.length:Int))) then (some ((8:Int),a0,a2)) else ((Zbr a0.List).bind fun r5=>((Zby r5 r1.1 ([({ Score:=(0:Nat),Name:=a1.S }:Zd)]:List Zd)).bind fun r7=>(some ((0:Int),({ a0 with List:=r7 }),a2)))))))
def Zdv (a0:List Zd) (a1 a2:Int):Option (List Zd):=if 0 < a0.length ∧ 0 ≤ a1 ∧ a1 ≤ a2 ∧ a2 ≤ a0.length ∧ a0.length ≤ 140737488355328 then some (a0.take a1.toNat ++ a0.drop a2.toNat) else none
def Zhz (a2:Zi) (j8:Za):Option (Int × Za × Zi):=(some ((0:Int),j8,a2))
def Zh6 (a0:Za) (a1:Zg) (a2:Zi):Option (Int × Za × Zi):=((Zjc a0.List a1.S).bind fun r1=>(if r1.2 then ((Zbr a0.List).bind fun r4=>((Zdv r4 r1.1 (IntKind.i64.wrap (r1.1 + (1:Int)))).bind fun r6=>(Zhz a2 ({ a0 with List:=r6 })))) else (Zhz a2 a0)))
def Zfm (a0:Za) (a1:Zg) (a2:Zi):Option (Int × Za × Zi):=((Zjc a0.List a1.S).bind fun r1=>(if (!r1.2) then (some ((11:Int),a0,a2)) else (some ((0:Int),a0,a2))))
def Zeq (a0:Za) (a1:Zg):Nat → (Int) → Option (Int)
 | 0,_=>none
 | n + 1,x1=>((gd (decide (x1 < (a0.List.length:Int))) (idx a0.List x1)).bind fun e2=>((gd (decide (x1 < (a0.List.length:Int))) (Zij e2 ({ Score:=a1.X,Name:=a1.S }:Zd))).bind fun r4=>(if ((decide (x1 < (a0.List.length:Int))) && r4) then ((Zeq a0 a1 n) (IntKind.i64.wrap (x1 + (1:Int)))) else (some x1))))
def Zii (a0:Za) (a1:Zg) (a2:Zi):Option (Int × Za × Zi):=((Zeq a0 a1 (Int.toNat ((a0.List.length:Int) - (0:Int)) + 1) (0:Int)).bind fun z8=>match z8 with | y7=>((gd (decide (y7 < (a0.List.length:Int))) (idx a0.List y7)).bind fun e9=>((gd (decide (y7 < (a0.List.length:Int))) (Zij ({ Score:=a1.X,Name:=a1.S }:Zd) e9)).bind fun r11=>(if ((decide (y7 < (a0.List.length:Int))) && (!r11)) then (some ((0:Int),a0,a2)) else ((Zbr a0.List).bind fun r14=>((Zby r14 y7 ([({ Score:=a1.X,Name:=a1.S }:Zd)]:List Zd)).bind fun r16=>((cut r16 (0:Int) (min (r16.length:Int) a0.Cap)).bind fun c18=>(some ((0:Int),({ a0 with List:=c18 }),a2)))))))))
def Z6 (k:Int) (a0:Za) (a1:Zg) (a2:Zi):Option (Int × Za × Zi):=if k=5 then Zh2 a0 a1 a2 else if k=6 then Zfp a0 a1 a2 else if k=7 then Zh9 a0 a1 a2 else if k=8 then Zjg a0 a1 a2 else if k=9 then Zeo a0 a1 a2 else if k=10 then Zfl a0 a1 a2 else if k=11 then Zft a0 a1 a2 else if k=12 then Zeo a0 a1 a2 else if k=13 then Zdo (fun x y=>Zge x y) a0 a1 a2 else if k=14 then Zdo (fun x y=>Zgh x y) a0 a1 a2 else if k=15 then Zdo (fun x y=>Zgy x y) a0 a1 a2 else if k=16 then Zdo (fun x y=>Zfx x y) a0 a1 a2 else if k=17 then Zdo (fun x y=>Zfq x y) a0 a1 a2 else if k=18 then Zi9 a0 a1 a2 else if k=19 then Zh6 a0 a1 a2 else if k=20 then Zfm a0 a1 a2 else if k=21 then Zii a0 a1 a2 else none
def Ze7 (a0:Int) (a1:Za) (a2:Bool):Option (Za × Bool × Zi × Za):=(some (a1,a2,({ Code:=a0,Num:=(0:Int),Rec:=(default:Za) }:Zi),a1))
def Zff (a1:Bool) (a2:Zg) (r3:Za):Option (Za × Bool × Zi):=(if ((a2.Kind == (1:Int)) && a1) then ((Ze7 (7:Int) r3 a1).bind fun r17=>(some (r17.1,r17.2.1,r17.2.2.1))) else (if (a2.Kind == (1:Int)) then ((Zf1 a2.Make).bind fun r20=>(some (r20,true,({ Code:=(0:Int),Num:=(0:Int),Rec:=(default:Za) }:Zi)))) else (if (a2.Kind == (3:Int)) then (some (r3,a1,({ Code:=(0:Int),Num:=r3.Kind,Rec:=(default:Za) }:Zi))) else (if (!a1) then ((Ze7 (6:Int) r3 a1).bind fun r24=>(some (r24.1,r24.2.1,r24.2.2.1))) else (if (a2.Kind == (2:Int)) then (some (({ Kind:=(0:Int),Num:=(0:Int),Low:=(0:Int),High:=(0:Int),Real:=(0:Nat),Cap:=(0:Int),Text:=ByteArray.empty,List:=([]:List Zd) }:Za),false,({ Code:=(0:Int),Num:=(0:Int),Rec:=(default:Za) }:Zi))) else (if (a2.Kind == (4:Int)) then ((Zf1 r3).bind fun r28=>(some (r3,a1,({ Code:=(0:Int),Num:=(0:Int),Rec:=r28 }:Zi)))) else ((Zd5 a2.Kind).bind fun r30=>(if (r30 != r3.Kind) then ((Ze7 (5:Int) r3 a1).bind fun r33=>(some (r33.1,r33.2.1,r33.2.2.1))) else ((Zf1 r3).bind fun r35=>(if (5 ≤ a2.Kind ∧ a2.Kind ≤ 21) then ((Z6 a2.Kind r3 a2 (default:Zi)).bind fun r38=>(if (r38.1 != (0:Int)) then (some (r35,a1,({ Code:=r38.1,Num:=(0:Int),Rec:=(default:Za) }:Zi))) else (some (r38.2.1,a1,r38.2.2)))) else none))))))))))
def Zd9 (a1:Bool) (a2:Zg) (j2:Za):Option (Za × Bool × Zi):=((Zf1 j2).bind fun r3=>((Zeg a2).bind fun r5=>(if (r5 != (0:Int)) then ((Ze7 r5 r3 a1).bind fun r8=>(some (r8.1,r8.2.1,r8.2.2.1))) else (if a1 then ((Zdg r3).bind fun r11=>(if (r11 != (0:Int)) then ((Ze7 r11 r3 a1).bind fun r14=>(some (r14.1,r14.2.1,r14.2.2.1))) else (Zff a1 a2 r3))) else (Zff a1 a2 r3)))))
def Zc3 (a0:Za) (a1:Bool) (a2:Zg):Option (Za × Bool × Zi):=(if (!a1) then (Zd9 a1 a2 ({ Kind:=(0:Int),Num:=(0:Int),Low:=(0:Int),High:=(0:Int),Real:=(0:Nat),Cap:=(0:Int),Text:=ByteArray.empty,List:=([]:List Zd) }:Za)) else (Zd9 a1 a2 a0))
def Zdw (x4:Int) (kk:(Za) → (Int) → Option (Za)) (j32:Za):Option (Za):=(kk j32 (IntKind.i64.wrap (x4 + (1:Int))))
def Zh4 (x21:Za) (x22:Int) (kk:(Za) → (Int) → Option (Za)) (j27:Zg):Option (Za):=((Zc3 x21 true j27).bind fun r28=>(kk r28.1 (IntKind.i64.wrap (x22 + (1:Int)))))
def Zdx (e6:Za):Nat → (Za) → (Int) → Option (Za)
 | 0,_,_=>none
 | n + 1,x21,x22=>(if (decide (x22 < (e6.List.length:Int))) then ((idx e6.List x22).bind fun e24=>(if (x21.Kind == (9:Int)) then (Zh4 x21 x22 (Zdx e6 n) ({ ({ ({ Kind:=(18:Int),Key:=(⟨#[107]⟩:ByteArray),N:=(0:Int),X:=(0:Nat),S:=e24.Name,Make:=(default:Za),Must:=false }:Zg) with Kind:=(21:Int) }) with X:=e24.Score })) else (Zh4 x21 x22 (Zdx e6 n) ({ Kind:=(18:Int),Key:=(⟨#[107]⟩:ByteArray),N:=(0:Int),X:=(0:Nat),S:=e24.Name,Make:=(default:Za),Must:=false }:Zg)))) else (some x21))
def Zh3 (x3:Za) (x4:Int) (e6:Za) (kk:(Za) → (Int) → Option (Za)) (j19:Bool):Option (Za):=(if j19 then ((Zdx e6 (Int.toNat ((e6.List.length:Int) - (0:Int)) + 1) x3 (0:Int)).bind fun z31=>match z31 with | y30=>(Zdw x4 kk y30)) else (Zdw x4 kk x3))
def Zgt (x3:Za) (x4:Int) (e6:Za) (kk:(Za) → (Int) → Option (Za)) (j10:Bool):Option (Za):=(if j10 then (Zdw x4 kk ({ x3 with Num:=(IntKind.i64.wrap (x3.Num + e6.Num)) })) else (if (x3.Kind == (5:Int)) then ((Zge x3.Real e6.Real).bind fun r13=>(Zdw x4 kk ({ x3 with Real:=r13 }))) else (if (x3.Kind == (6:Int)) then ((Zgh x3.Real e6.Real).bind fun r16=>(Zdw x4 kk ({ x3 with Real:=r16 }))) else (if (x3.Kind == (8:Int)) then (Zh3 x3 x4 e6 kk (x3.Kind == (8:Int))) else (Zh3 x3 x4 e6 kk (x3.Kind == (9:Int)))))))
def Zcz (a1:List Za):Nat → (Za) → (Int) → Option (Za)
 | 0,_,_=>none
 | n + 1,x3,x4=>(if (decide (x4 < (a1.length:Int))) then ((idx a1 x4).bind fun e6=>(if (x3.Kind == (2:Int)) then (Zgt x3 x4 e6 (Zcz a1 n) (x3.Kind == (2:Int))) else (if (x3.Kind == (3:Int)) then (Zgt x3 x4 e6 (Zcz a1 n) (x3.Kind == (3:Int))) else (Zgt x3 x4 e6 (Zcz a1 n) (x3.Kind == (4:Int)))))) else (some x3))
def Zgs (a0:Za) (a1:List Za):Option (Za):=((Zf1 a0).bind fun r1=>((Zcz a1 (Int.toNat ((a1.length:Int) - (0:Int)) + 1) r1 (0:Int)).bind fun z34=>match z34 with | y33=>(some y33)))
def Zht (a0:Za) (j5:Zg):Option (Za):=((Zc3 a0 true j5).bind fun r6=>(some r6.1))
def Zju (a0:Za) (a1:Zg) (j2:Bool):Option (Za):=(if j2 then (Zht a0 ({ a1 with Kind:=(7:Int) })) else (if (a1.Kind == (11:Int)) then (Zht a0 ({ ({ a1 with Kind:=(7:Int) }) with N:=(IntKind.i64.wrap (0 - a1.N)) })) else (Zht a0 a1)))
def Ziz (a0:Za) (a1:Zg):Option (Za):=(if (a1.Kind == (8:Int)) then (Zju a0 a1 (a1.Kind == (8:Int))) else (Zju a0 a1 (a1.Kind == (10:Int))))
def Zkg (a0:Za):Option (Zs × Bool):=(if (a0.Kind == (3:Int)) then (some (({ up:=(IntKind.u64.wrap ((9223372036854775807:Int) - (IntKind.u64.wrap a0.Num))),down:=(IntKind.u64.wrap ((IntKind.u64.wrap a0.Num) - (9223372036854775808:Int))) }:Zs),true)) else (if (a0.Kind == (4:Int)) then (some (({ up:=(IntKind.u64.wrap (IntKind.i64.wrap (a0.High - a0.Num))),down:=(IntKind.u64.wrap (IntKind.i64.wrap (a0.Num - a0.Low))) }:Zs),true)) else (if (a0.Kind == (8:Int)) then (some (({ up:=(IntKind.u64.wrap (IntKind.i64.wrap (a0.Cap - (a0.List.length:Int)))),down:=(0:Int) }:Zs),true)) else (some (({ up:=(0:Int),down:=(0:Int) }:Zs),false)))))
def Ziq (j4:Int):Option (Int):=(some j4)
def Zjn (a0:Int) (a1:Int) (a2:Int):Option (Int):=(if (IntKind.u64.wrap a2) ≠ (0:Int) then (if (IntKind.u64.wrap a2) ≠ (0:Int) then (if (decide ((IntKind.u64.wrap a1) < (Int.tmod a0 (IntKind.u64.wrap a2)))) then (Ziq (IntKind.u64.wrap ((IntKind.u64.wrap (Int.tdiv a0 (IntKind.u64.wrap a2))) + (1:Int)))) else (Ziq (IntKind.u64.wrap (Int.tdiv a0 (IntKind.u64.wrap a2))))) else none) else none)
def Zf0 (a1:Int) (r10:Zs × Bool):Nat → (Zu) → (Int) → Option (Zu)
 | 0,_,_=>none
 | n + 1,x12,x13=>(if (decide (x13 < a1)) then ((Zjn r10.1.up x13 a1).bind fun r15=>((Zjn r10.1.down x13 a1).bind fun r17=>(if (x12.by_.length + ([({ up:=r15,down:=r17 }:Zs)]:List Zs).length) * 16 ≤ 140737488355328 then ((Zf0 a1 r10 n) ({ x12 with by_:=(x12.by_ ++ ([({ up:=r15,down:=r17 }:Zs)]:List Zs)) }:Zu) (IntKind.i64.wrap (x13 + (1:Int)))) else none))) else (some x12))
def Zi0 (a0:Za) (a1:Int):Option ((Option Zu) × Int):=(if ((decide (a1 < (1:Int))) || (decide ((8:Int) < a1))) then (some ((none:Option Zu),(1:Int))) else ((Zdg a0).bind fun r2=>(if (r2 != (0:Int)) then (some ((none:Option Zu),r2)) else ((Zek a0).bind fun r5=>(if (!r5.2) then (some ((none:Option Zu),(5:Int))) else ((Zf1 a0).bind fun r8=>((Zkg a0).bind fun r10=>((Zf0 a1 r10 (Int.toNat (a1 - (0:Int)) + 1) ({ r:=r8,by_:=([]:List Zs) }:Zu) (0:Int)).bind fun z21=>match z21 with | y20=>(some ((some y20),(0:Int)))))))))))
def Ze8 (a0:Zu) (a1:Int):Option (Int × Int):=(if ((decide (a1 < (0:Int))) || (decide ((a0.by_.length:Int) ≤ a1))) then (some ((0:Int),(0:Int))) else ((idx a0.by_ a1).bind fun e2=>((idx a0.by_ a1).bind fun e4=>(some (e2.up,e4.down)))))
def Zcx (a0:Zu) (a1:Zg):Nat → (Zs) → (Int) → Option ((Zs) ⊕ (Zs))
 | 0,_,_=>none
 | n + 1,x6,x7=>(if (decide (x7 < (a0.r.List.length:Int))) then ((idx a0.r.List x7).bind fun e9=>(if (sEq e9.Name a1.S) then (some (.inl ({ up:=(0:Int),down:=(0:Int) }:Zs))) else ((Zcx a0 a1 n) x6 (IntKind.i64.wrap (x7 + (1:Int)))))) else (some (.inr x6)))
def Zfa (a0:Zu) (a1:Zg):Option (Zs):=(if (a1.Kind == (8:Int)) then (if (decide (a1.N < (0:Int))) then (some ({ up:=(0:Int),down:=(IntKind.u64.wrap (0 - (IntKind.u64.wrap a1.N))) }:Zs)) else (some ({ up:=(IntKind.u64.wrap a1.N),down:=(0:Int) }:Zs))) else (if (a1.Kind == (10:Int)) then (some ({ up:=(IntKind.u64.wrap a1.N),down:=(0:Int) }:Zs)) else (if (a1.Kind == (11:Int)) then (some ({ up:=(0:Int),down:=(IntKind.u64.wrap a1.N) }:Zs)) else (if (a1.Kind == (18:Int)) then ((Zcx a0 a1 (Int.toNat ((a0.r.List.length:Int) - (0:Int)) + 1) (default:Zs) (0:Int)).bind fun z13=>match z13 with | .inl r=>some r | .inr y12=>(some ({ up:=(1:Int),down:=(0:Int) }:Zs))) else (some ({ up:=(0:Int),down:=(0:Int) }:Zs))))))
def Zdd (a2:List Zg):Nat → (Zu) → (Zs) → (Int) → Option ((Int × Zu) ⊕ (Zu × Zs))
 | 0,_,_,_=>none
 | n + 1,x4,x5,x6=>(if (decide (x6 < (a2.length:Int))) then ((idx a2 x6).bind fun e8=>((Zeg e8).bind fun r10=>(if (r10 != (0:Int)) then (some (.inl (r10,x4))) else ((Zen x4.r.Kind e8.Kind).bind fun r13=>(if (!r13) then (some (.inl ((5:Int),x4))) else ((Zfa x4 e8).bind fun r16=>(if ((decide (x5.up < r16.up)) && (e8.Kind == (18:Int))) then (some (.inl ((8:Int),x4))) else (if (decide (x5.up < r16.up)) then (some (.inl ((9:Int),x4))) else (if (decide (x5.down < r16.down)) then (some (.inl ((10:Int),x4))) else ((Zdd a2 n) x4 ({ ({ x5 with up:=(IntKind.u64.wrap (x5.up - r16.up)) }) with down:=(IntKind.u64.wrap (({ x5 with up:=(IntKind.u64.wrap (x5.up - r16.up)) }).down - r16.down)) }) (IntKind.i64.wrap (x6 + (1:Int))))))))))))) else (some (.inr (x4,x5))))
def Zg1 (a0:Zu) (a1:Int) (a2:List Zg):Option (Int × Zu):=(if ((decide (a1 < (0:Int))) || (decide ((a0.by_.length:Int) ≤ a1))) then (some ((1:Int),a0)) else ((idx a0.by_ a1).bind fun e2=>((Zdd a2 (Int.toNat ((a2.length:Int) - (0:Int)) + 1) a0 e2 (0:Int)).bind fun z23=>match z23 with | .inl r=>some r | .inr (y21,y22)=>((idx y21.by_ a1).bind fun e24=>(some ((0:Int),({ y21 with by_:=y21.by_.set (Int.toNat a1) y22 }:Zu)))))))
def Ze9 (a0:Zu) (a1:Int) (a2:List Zg):Option (Zu × Int):=(Zg1 a0 a1 a2).bind fun r=>some (r.2,r.1)
def Zhj:Option (Bool):=((Zi0 ({ Kind:=(4:Int),Num:=(5:Int),Low:=(0:Int),High:=(10:Int),Real:=(0:Nat),Cap:=(0:Int),Text:=ByteArray.empty,List:=([]:List Zd) }:Za) (2:Int)).bind fun r1=>(if ((r1.2 != (0:Int)) || r1.1.isNone) then (some false) else ((r1.1).bind fun n4=>((Ze8 n4 (0:Int)).bind fun r6=>((Ze8 n4 (1:Int)).bind fun r8=>(if ((((r6.1 != (3:Int)) || (r6.2 != (3:Int))) || (r8.1 != (2:Int))) || (r8.2 != (2:Int))) then (some false) else ((Zek ({ Kind:=(4:Int),Num:=(5:Int),Low:=(0:Int),High:=(10:Int),Real:=(0:Nat),Cap:=(0:Int),Text:=ByteArray.empty,List:=([]:List Zd) }:Za)).bind fun r11=>((Ze9 n4 (1:Int) ([({ Kind:=(10:Int),Key:=(⟨#[97]⟩:ByteArray),N:=(3:Int),X:=(0:Nat),S:=ByteArray.empty,Make:=(default:Za),Must:=false }:Zg)]:List Zg)).bind fun r13=>((gd (r13.2 == (9:Int)) (Ze9 r13.1 (0:Int) ([({ Kind:=(10:Int),Key:=(⟨#[97]⟩:ByteArray),N:=(3:Int),X:=(0:Nat),S:=ByteArray.empty,Make:=(default:Za),Must:=false }:Zg)]:List Zg))).bind fun r15=>((gd (((r13.2 == (9:Int)) && (r15.2 == (0:Int))) && r11.2) (Ziz r11.1 ({ Kind:=(10:Int),Key:=(⟨#[97]⟩:ByteArray),N:=(3:Int),X:=(0:Nat),S:=ByteArray.empty,Make:=(default:Za),Must:=false }:Zg))).bind fun r17=>((gd (((r13.2 == (9:Int)) && (r15.2 == (0:Int))) && r11.2) (Zgs ({ Kind:=(4:Int),Num:=(5:Int),Low:=(0:Int),High:=(10:Int),Real:=(0:Nat),Cap:=(0:Int),Text:=ByteArray.empty,List:=([]:List Zd) }:Za) ([r17]:List Za))).bind fun r19=>((gd ((((r13.2 == (9:Int)) && (r15.2 == (0:Int))) && r11.2) && (r19.Num == (8:Int))) (Zen (4:Int) (10:Int))).bind fun r21=>(some (((((r13.2 == (9:Int)) && (r15.2 == (0:Int))) && r11.2) && (r19.Num == (8:Int))) && r21))))))))))))))
def Zdq (a0:Za):Nat → (Int) → Option ((Int) ⊕ (Unit))
 | 0,_=>none
 | n + 1,x2=>(if (decide (x2 < (a0.List.length:Int))) then ((idx a0.List x2).bind fun e4=>(if (decide ((100:Int) < (e4.Name.size:Int))) then (some (.inl (1:Int))) else ((Zdq a0 n) (IntKind.i64.wrap (x2 + (1:Int)))))) else (some (.inr ())))
def Zf9 (a0:Za):Option (Int):=(if ((decide ((100:Int) < (a0.List.length:Int))) || (decide ((1000:Int) < (a0.Text.size:Int)))) then (some (1:Int)) else ((Zdq a0 (Int.toNat ((a0.List.length:Int) - (0:Int)) + 1) (0:Int)).bind fun z7=>match z7 with | .inl r=>some r | .inr ()=>(some (0:Int))))
def Zhl (a0:Zg):Option (Int):=((gd (!((decide ((200:Int) < (a0.Key.size:Int))) || (decide ((1000:Int) < (a0.S.size:Int))))) (Zf9 a0.Make)).bind fun r1=>(if (((decide ((200:Int) < (a0.Key.size:Int))) || (decide ((1000:Int) < (a0.S.size:Int)))) || (decide ((0:Int) < r1))) then (some (1:Int)) else (some (0:Int))))
def Zda (a1:List Zv):Nat → (Int) → Option ((Bool) ⊕ (Unit))
 | 0,_=>none
 | n + 1,x4=>(if (decide (x4 < (a1.length:Int))) then ((idx a1 x4).bind fun e6=>((Zhl e6.Act).bind fun r8=>(if (decide ((0:Int) < r8)) then (some (.inl true)) else ((Zda a1 n) (IntKind.i64.wrap (x4 + (1:Int))))))) else (some (.inr ())))
def Zgd (a0:Za) (a1:List Zv):Option (Bool):=((Zf9 a0).bind fun r1=>(if ((decide ((0:Int) < r1)) || (decide ((40:Int) < (a1.length:Int)))) then (some true) else ((Zda a1 (Int.toNat ((a1.length:Int) - (0:Int)) + 1) (0:Int)).bind fun z11=>match z11 with | .inl r=>some r | .inr ()=>(some false))))
def Zd4 (a0:Nat):Option (Bool):=(some (fneq a0 a0))
def Zfe (a0:Nat):Option (Bool):=(if (feql a0 (0:Nat)) then ((Ieee.double.div (4607182418800017408:Nat) a0).bind fun f2=>(some (flss f2 (0:Nat)))) else (some (flss a0 (0:Nat))))
def Zds (a0:Nat) (a1:Nat):Option (Bool):=((Zd4 a0).bind fun r1=>(if r1 then (some false) else ((Zd4 a1).bind fun r4=>(if r4 then (some true) else (if ((feql a0 (0:Nat)) && (feql a1 (0:Nat))) then ((Zfe a0).bind fun r8=>((gd r8 (Zfe a1)).bind fun r10=>(some (r8 && (!r10))))) else (some (flss a0 a1)))))))
def Zc2 (a0:Nat) (a1:Nat):Option (Bool):=((Zds a0 a1).bind fun r1=>((gd (!r1) (Zds a1 a0)).bind fun r3=>(some ((!r1) && (!r3)))))
def Zfk (a0:Nat):Option (Bool):=((Zc2 a0 (0:Nat)).bind fun r1=>(some r1))
def Zb9 (a1:ByteArray):Nat → (Bool) → (Bool) → (Bool) → (Bool) → (Bool) → (Int) → Option (Bool × Bool × Bool × Bool × Bool)
 | 0,_,_,_,_,_,_=>none
 | n + 1,x1,x2,x3,x4,x5,x6=>(if (decide (x6 < (a1.size:Int))) then ((gd (!x1) (sidx a1 x6)).bind fun b8=>((gd (!x2) (sidx a1 x6)).bind fun b10=>((gd (!x3) (sidx a1 x6)).bind fun b12=>((gd (!x4) (sidx a1 x6)).bind fun b14=>((gd (!x5) (sidx a1 x6)).bind fun b16=>((Zb9 a1 n) (x1 || (b8 == (116:Int))) (x2 || (b10 == (110:Int))) (x3 || (b12 == (98:Int))) (x4 || (b14 == (114:Int))) (x5 || (b16 == (108:Int))) (IntKind.i64.wrap (x6 + (1:Int))))))))) else (some (x1,x2,x3,x4,x5)))
def Zgw (a0:Za) (a1:ByteArray):Option (Bool):=((Zb9 a1 (Int.toNat ((a1.size:Int) - (0:Int)) + 1) false false false false false (0:Int)).bind fun z23=>match z23 with | (y18,y19,y20,y21,y22)=>(if (((((!y18) && (!sEq a0.Text (⟨#[]⟩:ByteArray))) || ((!y19) && (a0.Num != (0:Int)))) || ((!y20) && (a0.Low != (0:Int)))) || ((!y20) && (a0.High != (0:Int)))) then (some false) else ((gd (!y21) (Zfk a0.Real)).bind fun r25=>(some ((y21 || r25) && (y22 || ((a0.Cap == (0:Int)) && ((a0.List.length:Int) == (0:Int)))))))))
def Zhd (a0:Int):Option (ByteArray):=(if ((decide (a0 < (1:Int))) || (decide ((9:Int) < a0))) then (some (⟨#[]⟩:ByteArray)) else ((idx ([(⟨#[]⟩:ByteArray),(⟨#[116]⟩:ByteArray),(⟨#[110]⟩:ByteArray),(⟨#[110]⟩:ByteArray),(⟨#[110,98]⟩:ByteArray),(⟨#[114]⟩:ByteArray),(⟨#[114]⟩:ByteArray),(⟨#[114]⟩:ByteArray),(⟨#[108]⟩:ByteArray),(⟨#[108]⟩:ByteArray)]:List ByteArray) a0).bind fun e2=>(some e2)))
def Zd6 (a0:Nat):Option (Bool):=((Zd4 a0).bind fun r1=>(some ((!r1) || ((a0:Int) == (9221120237041090561:Int)))))
def Zee (a0:Zd) (a1:Zd):Option (Bool):=((Zds a1.Score a0.Score).bind fun r1=>(if r1 then (some true) else ((Zc2 a0.Score a1.Score).bind fun r4=>(some (r4 && (sLt a0.Name a1.Name))))))
def Zgv (a0:Int) (a1:List Zd) (a2:Int):Option (Int):=((idx a1 a2).bind fun e1=>(if (decide ((16:Int) < (e1.Name.size:Int))) then (some (3:Int)) else ((gd (a0 == (8:Int)) (Zfk e1.Score)).bind fun r4=>((gd (!((a0 == (8:Int)) && (!r4))) (Zd6 e1.Score)).bind fun r6=>(if (((a0 == (8:Int)) && (!r4)) || (!r6)) then (some (4:Int)) else ((gd ((decide ((0:Int) < a2)) && (a0 == (8:Int))) (idx a1 (IntKind.i64.wrap (a2 - (1:Int))))).bind fun e9=>(if (((decide ((0:Int) < a2)) && (a0 == (8:Int))) && (!(sLt e9.Name e1.Name))) then (some (4:Int)) else ((gd ((decide ((0:Int) < a2)) && (a0 == (9:Int))) (idx a1 (IntKind.i64.wrap (a2 - (1:Int))))).bind fun e12=>((gd ((decide ((0:Int) < a2)) && (a0 == (9:Int))) (Zee e12 e1)).bind fun r14=>(if (((decide ((0:Int) < a2)) && (a0 == (9:Int))) && (!r14)) then (some (4:Int)) else (some (0:Int))))))))))))
def Zdc (a0:Za):Nat → (Int) → Option ((Int) ⊕ (Unit))
 | 0,_=>none
 | n + 1,x15=>(if (decide (x15 < (a0.List.length:Int))) then ((Zgv a0.Kind a0.List x15).bind fun r17=>(if (r17 != (0:Int)) then (some (.inl r17)) else ((Zdc a0 n) (IntKind.i64.wrap (x15 + (1:Int)))))) else (some (.inr ())))
def Zcw (a0:Za):Option (Int):=(if ((decide (a0.Kind < (1:Int))) || (decide ((9:Int) < a0.Kind))) then (some (5:Int)) else ((Zhd a0.Kind).bind fun r2=>((Zgw a0 r2).bind fun r4=>(if (!r4) then (some (4:Int)) else (if ((a0.Kind == (1:Int)) && (decide ((64:Int) < (a0.Text.size:Int)))) then (some (3:Int)) else (if ((a0.Kind == (4:Int)) && ((((decide (a0.Low < (IntKind.i64.wrap (0 - (2305843009213693952:Int))))) || (decide ((2305843009213693952:Int) < a0.High))) || (decide (a0.Num < a0.Low))) || (decide (a0.High < a0.Num)))) then (some (1:Int)) else ((Zd6 a0.Real).bind fun r9=>(if (!r9) then (some (4:Int)) else (if (decide (a0.Kind < (8:Int))) then (some (0:Int)) else (if ((decide (a0.Cap < (1:Int))) || (decide ((32:Int) < a0.Cap))) then (some (1:Int)) else (if (decide (a0.Cap < (a0.List.length:Int))) then (some (8:Int)) else ((Zdc a0 (Int.toNat ((a0.List.length:Int) - (0:Int)) + 1) (0:Int)).bind fun z20=>match z20 with | .inl r=>some r | .inr ()=>(some (0:Int))))))))))))))
def Zc8 (a0:Int):Option (Int):=(if ((decide (a0 < (0:Int))) || (decide ((21:Int) < a0))) then (some (0:Int)) else ((idx ([(0:Int),(0:Int),(0:Int),(0:Int),(0:Int),(1:Int),(1:Int),(2:Int),(3:Int),(3:Int),(4:Int),(4:Int),(4:Int),(5:Int),(6:Int),(7:Int),(7:Int),(7:Int),(8:Int),(8:Int),(8:Int),(9:Int)]:List Int) a0).bind fun e2=>(some e2)))
def Zi8 (a0:Int) (a1:Int):Option (Bool):=(if ((((((((a1 != (7:Int)) && (a1 != (8:Int))) && (a1 != (10:Int))) && (a1 != (11:Int))) && (a1 != (13:Int))) && (a1 != (14:Int))) && (a1 != (18:Int))) && (a1 != (21:Int))) then (some false) else ((Zc8 a1).bind fun r2=>(some (r2 == a0))))
def Zdh (a0:Za) (a1:Za):Nat → (Int) → Option ((Bool) ⊕ (Unit))
 | 0,_=>none
 | n + 1,x5=>(if (decide (x5 < (a0.List.length:Int))) then ((idx a0.List x5).bind fun e7=>((idx a1.List x5).bind fun e9=>((gd (!(!sEq e7.Name e9.Name)) (idx a0.List x5)).bind fun e11=>((gd (!(!sEq e7.Name e9.Name)) (idx a1.List x5)).bind fun e13=>((gd (!(!sEq e7.Name e9.Name)) (Zc2 e11.Score e13.Score)).bind fun r15=>(if ((!sEq e7.Name e9.Name) || (!r15)) then (some (.inl false)) else ((Zdh a0 a1 n) (IntKind.i64.wrap (x5 + (1:Int)))))))))) else (some (.inr ())))
def Zes (a0:Za) (a1:Za):Option (Bool):=(if ((((((a0.Kind != a1.Kind) || (a0.Num != a1.Num)) || (a0.Low != a1.Low)) || (a0.High != a1.High)) || (a0.Cap != a1.Cap)) || (!sEq a0.Text a1.Text)) then (some false) else ((Zc2 a0.Real a1.Real).bind fun r2=>(if ((!r2) || ((a0.List.length:Int) != (a1.List.length:Int))) then (some false) else ((Zdh a0 a1 (Int.toNat ((a0.List.length:Int) - (0:Int)) + 1) (0:Int)).bind fun z18=>match z18 with | .inl r=>some r | .inr ()=>(some true)))))
def Zi4 (a0:Int):Option (ByteArray):=(if ((decide (a0 < (0:Int))) || (decide ((21:Int) < a0))) then (some (⟨#[]⟩:ByteArray)) else ((idx ([(⟨#[]⟩:ByteArray),(⟨#[109]⟩:ByteArray),(⟨#[]⟩:ByteArray),(⟨#[]⟩:ByteArray),(⟨#[]⟩:ByteArray),(⟨#[115]⟩:ByteArray),(⟨#[115]⟩:ByteArray),(⟨#[110]⟩:ByteArray),(⟨#[110]⟩:ByteArray),(⟨#[110]⟩:ByteArray),(⟨#[110]⟩:ByteArray),(⟨#[110]⟩:ByteArray),(⟨#[110]⟩:ByteArray),(⟨#[120]⟩:ByteArray),(⟨#[120]⟩:ByteArray),(⟨#[120]⟩:ByteArray),(⟨#[120]⟩:ByteArray),(⟨#[120]⟩:ByteArray),(⟨#[115]⟩:ByteArray),(⟨#[115]⟩:ByteArray),(⟨#[115]⟩:ByteArray),(⟨#[120,115]⟩:ByteArray)]:List ByteArray) a0).bind fun e2=>(some e2)))
def Zf3 (a1:Int) (r1:ByteArray):Nat → (Int) → Option ((Bool) ⊕ (Unit))
 | 0,_=>none
 | n + 1,x3=>(if (decide (x3 < (r1.size:Int))) then ((sidx r1 x3).bind fun b5=>(if (b5 == a1) then (some (.inl true)) else ((Zf3 a1 r1 n) (IntKind.i64.wrap (x3 + (1:Int)))))) else (some (.inr ())))
def Zdb (a0:Int) (a1:Int):Option (Bool):=((Zi4 a0).bind fun r1=>((Zf3 a1 r1 (Int.toNat ((r1.size:Int) - (0:Int)) + 1) (0:Int)).bind fun z8=>match z8 with | .inl r=>some r | .inr ()=>(some false)))
def Zc6 (a0:Zg):Option (Int):=(if ((decide (a0.Kind < (1:Int))) || (decide ((21:Int) < a0.Kind))) then (some (5:Int)) else (if ((decide ((a0.Key.size:Int) < (1:Int))) || (decide ((24:Int) < (a0.Key.size:Int)))) then (some (1:Int)) else ((Zdb a0.Kind (110:Int)).bind fun r3=>((gd (!((!r3) && (a0.N != (0:Int)))) (Zdb a0.Kind (120:Int))).bind fun r5=>((gd ((!((!r3) && (a0.N != (0:Int)))) && (!r5)) (Zc2 a0.X (0:Nat))).bind fun r7=>((gd (!(((!r3) && (a0.N != (0:Int))) || ((!r5) && (!r7)))) (Zdb a0.Kind (115:Int))).bind fun r9=>(if ((((!r3) && (a0.N != (0:Int))) || ((!r5) && (!r7))) || ((!r9) && (!sEq a0.S (⟨#[]⟩:ByteArray)))) then (some (4:Int)) else ((gd (a0.Kind != (1:Int)) (Zes a0.Make ({ Kind:=(0:Int),Num:=(0:Int),Low:=(0:Int),High:=(0:Int),Real:=(0:Nat),Cap:=(0:Int),Text:=ByteArray.empty,List:=([]:List Zd) }:Za))).bind fun r12=>(if ((a0.Kind != (1:Int)) && (!r12)) then (some (4:Int)) else ((Zc8 a0.Kind).bind fun r15=>((gd (!((r15 == (1:Int)) && (decide ((64:Int) < (a0.S.size:Int))))) (Zc8 a0.Kind)).bind fun r17=>(if (((r15 == (1:Int)) && (decide ((64:Int) < (a0.S.size:Int)))) || ((r17 != (1:Int)) && (decide ((16:Int) < (a0.S.size:Int))))) then (some (3:Int)) else (if (((a0.Kind == (10:Int)) || (a0.Kind == (11:Int))) && ((decide (a0.N < (0:Int))) || (decide ((2305843009213693952:Int) < a0.N)))) then (some (1:Int)) else ((Zd6 a0.X).bind fun r21=>(if (!r21) then (some (4:Int)) else (if (a0.Kind == (1:Int)) then ((Zcw a0.Make).bind fun r25=>(some r25)) else (some (0:Int))))))))))))))))))
def Zeu (a0:Za):Option (Za):=(if (([]:List Zd).length + a0.List.length) * 24 ≤ 140737488355328 then (some ({ a0 with List:=(([]:List Zd) ++ a0.List) })) else none)
def Zhn (a0:Nat) (a1:Nat):Option (Nat):=((Zds a0 a1).bind fun r1=>(if r1 then (some a1) else (some a0)))
def Zhp (a0:Nat) (a1:Nat):Option (Nat):=((Zds a1 a0).bind fun r1=>(if r1 then (some a1) else (some a0)))
def Zg0 (a0:Int) (a1:Int):Option (Bool):=(some ((((decide ((0:Int) < a0)) && (decide ((0:Int) < a1))) && (decide ((IntKind.i64.wrap (a0 + a1)) < (0:Int)))) || (((decide (a0 < (0:Int))) && (decide (a1 < (0:Int)))) && (decide ((0:Int) ≤ (IntKind.i64.wrap (a0 + a1)))))))
def Zew (a0:Int):Option (Nat):=(if (decide ((9223372036854775808:Int) ≤ a0)) then (some (Int.toNat (IntKind.u64.wrap (a0 - (9223372036854775808:Int))))) else (some (Int.toNat (IntKind.u64.wrap ((9223372036854775808:Int) + (IntKind.u64.wrap ((IntKind.u64.wrap ((9223372036854775808:Int) - (1:Int))) - a0)))))))
def Zhx (a0:Nat):Option (Int):=((Zd4 a0).bind fun r1=>(if r1 then (some (IntKind.u64.wrap ((9223372036854775808:Int) + (9221120237041090561:Int)))) else (if (decide ((9223372036854775808:Int) ≤ (a0:Int))) then (some (IntKind.u64.wrap ((IntKind.u64.wrap ((9223372036854775808:Int) - (1:Int))) - (IntKind.u64.wrap ((a0:Int) - (9223372036854775808:Int)))))) else (some (IntKind.u64.wrap ((9223372036854775808:Int) + (a0:Int)))))))
def Zf5 (a0:List Zd) (a1:ByteArray):Nat → (Int) → Option ((Bool) ⊕ (Unit))
 | 0,_=>none
 | n + 1,x1=>(if (decide (x1 < (a0.length:Int))) then ((idx a0 x1).bind fun e3=>(if (sEq e3.Name a1) then (some (.inl true)) else ((Zf5 a0 a1 n) (IntKind.i64.wrap (x1 + (1:Int)))))) else (some (.inr ())))
def Ze0 (a0:List Zd) (a1:ByteArray):Option (Bool):=((Zf5 a0 a1 (Int.toNat ((a0.length:Int) - (0:Int)) + 1) (0:Int)).bind fun z6=>match z6 with | .inl r=>some r | .inr ()=>(some false))
def Zg4 (j30:List Zd):Option (List Zd):=(some j30)
def Zdz (a0:List Zd) (x3:Int) (kk:(List Zd) → (Bool) → (Int) → Option ((List Zd) × Bool)) (j20:List Zd) (j21:Bool):Option ((List Zd) × Bool):=((idx a0 x3).bind fun e22=>(if (j20.length + ([e22]:List Zd).length) * 24 ≤ 140737488355328 then (kk (j20 ++ ([e22]:List Zd)) j21 (IntKind.i64.wrap (x3 + (1:Int)))) else none))
def Zcj (a0:List Zd) (a1:Zd) (a2:Bool):Nat → (List Zd) → (Bool) → (Int) → Option ((List Zd) × Bool)
 | 0,_,_,_=>none
 | n + 1,x1,x2,x3=>(if (decide (x3 < (a0.length:Int))) then ((gd (!a2) (idx a0 x3)).bind fun e5=>((gd (!a2) (Zee e5 a1)).bind fun r7=>((gd ((!((!a2) && r7)) && a2) (idx a0 x3)).bind fun e9=>((idx a0 x3).bind fun e11=>((gd ((sEq e11.Name a1.Name) && (!a2)) (idx a0 x3)).bind fun e13=>((gd ((sEq e11.Name a1.Name) && (!a2)) (Zc2 e13.Score a1.Score)).bind fun r15=>(if ((!x2) && (!(((!a2) && r7) || (a2 && (sLt e9.Name a1.Name))))) then (if (!((sEq e11.Name a1.Name) && (a2 || r15))) then (if (x1.length + ([a1]:List Zd).length) * 24 ≤ 140737488355328 then (Zdz a0 x3 (Zcj a0 a1 a2 n) (x1 ++ ([a1]:List Zd)) true) else none) else (Zdz a0 x3 (Zcj a0 a1 a2 n) x1 true)) else (Zdz a0 x3 (Zcj a0 a1 a2 n) x1 x2)))))))) else (some (x1,x2)))
def Zd7 (a0:List Zd) (a1:Zd) (a2:Bool):Option (List Zd):=((Zcj a0 a1 a2 (Int.toNat ((a0.length:Int) - (0:Int)) + 1) ([]:List Zd) false (0:Int)).bind fun z27=>match z27 with | (y25,y26)=>(if (!y26) then (if (y25.length + ([a1]:List Zd).length) * 24 ≤ 140737488355328 then (Zg4 (y25 ++ ([a1]:List Zd))) else none) else (Zg4 y25)))
def Zk (j65:Za) (j66:Zi):Option (Za × Zi):=(some (j65,j66))
def Zjq (x43:Int) (kk:(List Zd) → (Int) → Option (List Zd)) (j51:List Zd):Option (List Zd):=(kk j51 (IntKind.i64.wrap (x43 + (1:Int))))
def Zdi (a0:Za) (a1:Zg):Nat → (List Zd) → (Int) → Option (List Zd)
 | 0,_,_=>none
 | n + 1,x42,x43=>(if (decide (x43 < (a0.List.length:Int))) then ((idx a0.List x43).bind fun e45=>(if (!sEq e45.Name a1.S) then ((idx a0.List x43).bind fun e48=>(if (x42.length + ([e48]:List Zd).length) * 24 ≤ 140737488355328 then (Zjq x43 (Zdi a0 a1 n) (x42 ++ ([e48]:List Zd))) else none)) else (Zjq x43 (Zdi a0 a1 n) x42))) else (some x42))
def Zc7 (a0:Za) (j64:List Zd):Option (Za × Zi):=(Zk ({ a0 with List:=j64 }) ({ Code:=(0:Int),Num:=(0:Int),Rec:=(default:Za) }:Zi))
def Zbm (a0:Za) (a1:Zg) (j11:Bool):Option (Za × Zi):=(if j11 then (if (decide (a0.Num < a1.N)) then (Zk a0 ({ ({ Code:=(0:Int),Num:=(0:Int),Rec:=(default:Za) }:Zi) with Code:=(11:Int) })) else (Zk a0 ({ Code:=(0:Int),Num:=(0:Int),Rec:=(default:Za) }:Zi))) else (if (a1.Kind == (10:Int)) then (if (decide (a0.High < (IntKind.i64.wrap (a0.Num + a1.N)))) then (Zk a0 ({ ({ Code:=(0:Int),Num:=(0:Int),Rec:=(default:Za) }:Zi) with Code:=(9:Int) })) else (Zk ({ a0 with Num:=(IntKind.i64.wrap (a0.Num + a1.N)) }) ({ Code:=(0:Int),Num:=(0:Int),Rec:=(default:Za) }:Zi))) else (if (a1.Kind == (11:Int)) then (if (decide ((IntKind.i64.wrap (a0.Num - a1.N)) < a0.Low)) then (Zk a0 ({ ({ Code:=(0:Int),Num:=(0:Int),Rec:=(default:Za) }:Zi) with Code:=(10:Int) })) else (Zk ({ a0 with Num:=(IntKind.i64.wrap (a0.Num - a1.N)) }) ({ Code:=(0:Int),Num:=(0:Int),Rec:=(default:Za) }:Zi))) else (if (a1.Kind == (13:Int)) then ((Zhn a0.Real a1.X).bind fun r19=>(Zk ({ a0 with Real:=r19 }) ({ Code:=(0:Int),Num:=(0:Int),Rec:=(default:Za) }:Zi))) else (if (a1.Kind == (14:Int)) then ((Zhp a0.Real a1.X).bind fun r22=>(Zk ({ a0 with Real:=r22 }) ({ Code:=(0:Int),Num:=(0:Int),Rec:=(default:Za) }:Zi))) else (if (a1.Kind == (15:Int)) then ((Zhx (fadd a0.Real a1.X)).bind fun r25=>((Zew r25).bind fun r27=>(Zk ({ a0 with Real:=r27 }) ({ Code:=(0:Int),Num:=(0:Int),Rec:=(default:Za) }:Zi)))) else (if (a1.Kind == (16:Int)) then ((Zhx (fmul a0.Real a1.X)).bind fun r30=>((Zew r30).bind fun r32=>(Zk ({ a0 with Real:=r32 }) ({ Code:=(0:Int),Num:=(0:Int),Rec:=(default:Za) }:Zi)))) else (if (a1.Kind == (17:Int)) then (Zk ({ a0 with Real:=a1.X }) ({ Code:=(0:Int),Num:=(0:Int),Rec:=(default:Za) }:Zi)) else (if (a1.Kind == (18:Int)) then ((Ze0 a0.List a1.S).bind fun r36=>(if ((!r36) && (decide (a0.Cap ≤ (a0.List.length:Int)))) then (Zk a0 ({ ({ Code:=(0:Int),Num:=(0:Int),Rec:=(default:Za) }:Zi) with Code:=(8:Int) })) else ((Zd7 a0.List ({ Score:=(0:Nat),Name:=a1.S }:Zd) true).bind fun r39=>(Zk ({ a0 with List:=r39 }) ({ Code:=(0:Int),Num:=(0:Int),Rec:=(default:Za) }:Zi))))) else (if (a1.Kind == (19:Int)) then ((Zdi a0 a1 (Int.toNat ((a0.List.length:Int) - (0:Int)) + 1) ([]:List Zd) (0:Int)).bind fun z53=>match z53 with | y52=>(Zk ({ a0 with List:=y52 }) ({ Code:=(0:Int),Num:=(0:Int),Rec:=(default:Za) }:Zi))) else (if (a1.Kind == (20:Int)) then ((Ze0 a0.List a1.S).bind fun r55=>(if (!r55) then (Zk a0 ({ ({ Code:=(0:Int),Num:=(0:Int),Rec:=(default:Za) }:Zi) with Code:=(11:Int) })) else (Zk a0 ({ Code:=(0:Int),Num:=(0:Int),Rec:=(default:Za) }:Zi)))) else (if (a1.Kind == (21:Int)) then ((Zd7 a0.List ({ Score:=a1.X,Name:=a1.S }:Zd) false).bind fun r59=>(if (decide (a0.Cap < (r59.length:Int))) then ((cut r59 (0:Int) a0.Cap).bind fun c62=>(Zc7 a0 c62)) else (Zc7 a0 r59))) else (Zk a0 ({ Code:=(0:Int),Num:=(0:Int),Rec:=(default:Za) }:Zi))))))))))))))
def Z3 (a0:Za) (a1:Zg):Option (Za × Zi):=(if (a1.Kind == (5:Int)) then (Zk ({ a0 with Text:=a1.S }) ({ Code:=(0:Int),Num:=(0:Int),Rec:=(default:Za) }:Zi)) else (if (a1.Kind == (6:Int)) then ((Zeu a0).bind fun r3=>(Zk ({ a0 with Text:=a1.S }) ({ ({ Code:=(0:Int),Num:=(0:Int),Rec:=(default:Za) }:Zi) with Rec:=r3 }))) else (if (a1.Kind == (7:Int)) then (Zk ({ a0 with Num:=(IntKind.i64.wrap (a0.Num + a1.N)) }) ({ Code:=(0:Int),Num:=(0:Int),Rec:=(default:Za) }:Zi)) else (if (a1.Kind == (8:Int)) then ((Zg0 a0.Num a1.N).bind fun r7=>(if r7 then (Zk a0 ({ ({ Code:=(0:Int),Num:=(0:Int),Rec:=(default:Za) }:Zi) with Code:=(9:Int) })) else (Zk ({ a0 with Num:=(IntKind.i64.wrap (a0.Num + a1.N)) }) ({ Code:=(0:Int),Num:=(0:Int),Rec:=(default:Za) }:Zi)))) else (if (a1.Kind == (9:Int)) then (Zbm a0 a1 (a1.Kind == (9:Int))) else (Zbm a0 a1 (a1.Kind == (12:Int))))))))
def Zgq (a1:Bool) (a2:Zg) (r3:Za) (j18:Int):Option (Za × Bool × Zi):=(if (j18 != (0:Int)) then (some (r3,a1,({ Code:=j18,Num:=(0:Int),Rec:=(default:Za) }:Zi))) else (if (a2.Kind == (1:Int)) then ((Zeu a2.Make).bind fun r21=>(some (r21,true,({ Code:=(0:Int),Num:=(0:Int),Rec:=(default:Za) }:Zi)))) else (if (a2.Kind == (2:Int)) then (some (({ Kind:=(0:Int),Num:=(0:Int),Low:=(0:Int),High:=(0:Int),Real:=(0:Nat),Cap:=(0:Int),Text:=ByteArray.empty,List:=([]:List Zd) }:Za),false,({ Code:=(0:Int),Num:=(0:Int),Rec:=(default:Za) }:Zi))) else (if (a2.Kind == (3:Int)) then (some (r3,a1,({ Code:=(0:Int),Num:=r3.Kind,Rec:=(default:Za) }:Zi))) else (if (a2.Kind == (4:Int)) then ((Zeu r3).bind fun r26=>(some (r3,a1,({ Code:=(0:Int),Num:=(0:Int),Rec:=r26 }:Zi)))) else ((Z3 r3 a2).bind fun r28=>(some (r28.1,a1,r28.2))))))))
def Zgp (a1:Bool) (a2:Zg) (r3:Za) (j14:Int):Option (Za × Bool × Zi):=((Zc8 a2.Kind).bind fun r15=>(if (((j14 == (0:Int)) && (r15 != (0:Int))) && (r15 != r3.Kind)) then (Zgq a1 a2 r3 (5:Int)) else (Zgq a1 a2 r3 j14)))
def Zgm (a1:Bool) (a2:Zg) (r3:Za) (j12:Int):Option (Za × Bool × Zi):=(if ((((j12 == (0:Int)) && (!a1)) && (a2.Kind != (1:Int))) && (a2.Kind != (3:Int))) then (Zgp a1 a2 r3 (6:Int)) else (Zgp a1 a2 r3 j12))
def Zec (a1:Bool) (a2:Zg) (r3:Za) (j10:Int):Option (Za × Bool × Zi):=(if (((j10 == (0:Int)) && (a2.Kind == (1:Int))) && a1) then (Zgm a1 a2 r3 (7:Int)) else (Zgm a1 a2 r3 j10))
def Zgo (a1:Bool) (a2:Zg) (j2:Za):Option (Za × Bool × Zi):=((Zeu j2).bind fun r3=>((Zc6 a2).bind fun r5=>(if ((r5 == (0:Int)) && a1) then ((Zcw r3).bind fun r8=>(Zec a1 a2 r3 r8)) else (Zec a1 a2 r3 r5))))
def Zjs (a0:Za) (a1:Bool) (a2:Zg):Option (Za × Bool × Zi):=(if (!a1) then (Zgo a1 a2 ({ Kind:=(0:Int),Num:=(0:Int),Low:=(0:Int),High:=(0:Int),Real:=(0:Nat),Cap:=(0:Int),Text:=ByteArray.empty,List:=([]:List Zd) }:Za)) else (Zgo a1 a2 a0))
def Ze2 (x6:Int) (kk:(Option Zu) → (List Zv) → (Int) → Option (List Zv)) (j16:Option Zu) (j17:List Zv):Option (List Zv):=(kk j16 j17 (IntKind.i64.wrap (x6 + (1:Int))))
def Zcm (a2:List Zv):Nat → (Option Zu) → (List Zv) → (Int) → Option (List Zv)
 | 0,_,_,_=>none
 | n + 1,x4,x5,x6=>(if (decide (x6 < (a2.length:Int))) then ((idx a2 x6).bind fun e8=>((x4).bind fun n10=>((Ze9 n10 e8.Worker ([e8.Act]:List Zg)).bind fun r12=>(if (r12.2 == (0:Int)) then (if (x5.length + ([e8]:List Zv).length) * 160 ≤ 140737488355328 then (Ze2 x6 (Zcm a2 n) (some r12.1) (x5 ++ ([e8]:List Zv))) else none) else (Ze2 x6 (Zcm a2 n) (some r12.1) x5))))) else (some x5))
def Zfc (a0:Za) (a1:Int) (a2:List Zv):Option ((List Zv) × Bool):=((Zi0 a0 a1).bind fun r1=>(if ((r1.2 != (0:Int)) || r1.1.isNone) then (some (([]:List Zv),false)) else ((Zcm a2 (Int.toNat ((a2.length:Int) - (0:Int)) + 1) r1.1 ([]:List Zv) (0:Int)).bind fun z19=>match z19 with | y18=>(some (y18,true)))))
def Zco (y40:List Za):Nat → (List Za) → (Int) → Option (List Za)
 | 0,_,_=>none
 | n + 1,x45,x46=>(if (decide (x46 < ((([]:List Za) ++ y40).length:Int))) then ((idx y40 (IntKind.i64.wrap ((IntKind.i64.wrap ((y40.length:Int) - (1:Int))) - x46))).bind fun e48=>((idx x45 x46).bind fun e50=>((Zco y40 n) (x45.set (Int.toNat x46) e48) (IntKind.i64.wrap (x46 + (1:Int)))))) else (some x45))
def Zdn (x23:Int) (kk:(List Za) → (Int) → Option ((Bool) ⊕ (List Za))) (j39:List Za):Option ((Bool) ⊕ (List Za)):=(kk j39 (IntKind.i64.wrap (x23 + (1:Int))))
def Zb6 (a2:List Bool) (r9:(List Zv) × Bool):Nat → (List Za) → (Int) → Option ((Bool) ⊕ (List Za))
 | 0,_,_=>none
 | n + 1,x22,x23=>(if (decide (x23 < (r9.1.length:Int))) then ((idx r9.1 x23).bind fun e25=>((Zc6 e25.Act).bind fun r27=>(if (((r27 != (0:Int)) || (decide (e25.Worker < (0:Int)))) || (decide ((IntKind.i64.wrap ((1:Int) + (Int.tmod (a2.length:Int) (8:Int)))) ≤ e25.Worker))) then (some (.inl false)) else ((gd (decide (x23 < (a2.length:Int))) (idx a2 x23)).bind fun e30=>(if ((decide (x23 < (a2.length:Int))) && e30) then ((idx x22 e25.Worker).bind fun e33=>((Ziz e33 e25.Act).bind fun r35=>((idx x22 e25.Worker).bind fun e37=>(Zdn x23 (Zb6 a2 r9 n) (x22.set (Int.toNat e25.Worker) r35))))) else (Zdn x23 (Zb6 a2 r9 n) x22)))))) else (some (.inr x22)))
def Zc1 (a0:Za) (a2:List Bool):Nat → (List Za) → (Int) → Option (List Za)
 | 0,_,_=>none
 | n + 1,x13,x14=>(if (decide (x14 < ((List.replicate (Int.toNat (IntKind.i64.wrap ((1:Int) + (Int.tmod (a2.length:Int) (8:Int))))) (default:Za)).length:Int))) then ((Zek a0).bind fun r16=>((idx x13 x14).bind fun e18=>((Zc1 a0 a2 n) (x13.set (Int.toNat x14) r16.1) (IntKind.i64.wrap (x14 + (1:Int)))))) else (some x13))
def Zgg (a0:Za) (a1:List Zv) (a2:List Bool):Option (Bool):=((Zhj).bind fun r1=>(if (!r1) then (some false) else ((Zgd a0 a1).bind fun r4=>((gd (!r4) (Zcw a0)).bind fun r6=>(if (r4 || (r6 != (0:Int))) then (some true) else ((Zfc a0 (IntKind.i64.wrap ((1:Int) + (Int.tmod (a2.length:Int) (8:Int)))) a1).bind fun r9=>(if (!r9.2) then (some true) else (if 0 ≤ (IntKind.i64.wrap ((1:Int) + (Int.tmod (a2.length:Int) (8:Int)))) ∧ Int.toNat (IntKind.i64.wrap ((1:Int) + (Int.tmod (a2.length:Int) (8:Int)))) * 88 ≤ 140737488355328 then ((Zc1 a0 a2 (Int.toNat (((List.replicate (Int.toNat (IntKind.i64.wrap ((1:Int) + (Int.tmod (a2.length:Int) (8:Int))))) (default:Za)).length:Int) - (0:Int)) + 1) (List.replicate (Int.toNat (IntKind.i64.wrap ((1:Int) + (Int.tmod (a2.length:Int) (8:Int))))) (default:Za)) (0:Int)).bind fun z21=>match z21 with | y20=>((Zb6 a2 r9 (Int.toNat ((r9.1.length:Int) - (0:Int)) + 1) y20 (0:Int)).bind fun z41=>match z41 with | .inl r=>some r | .inr y40=>((Zgs a0 y40).bind fun r42=>(if (([]:List Za).length + y40.length) * 88 ≤ 140737488355328 then ((Zco y40 (Int.toNat (((([]:List Za) ++ y40).length:Int) - (0:Int)) + 1) (([]:List Za) ++ y40) (0:Int)).bind fun z53=>match z53 with | y52=>((Zdg r42).bind fun r54=>((gd (r54 == (0:Int)) (Zgs a0 y52)).bind fun r56=>((gd (r54 == (0:Int)) (Zes r42 r56)).bind fun r58=>(some ((r54 == (0:Int)) && r58)))))) else none)))) else none))))))))
def Zmv (x:Zd):Prop:=(x.Score < 2 ^ 64) ∧ (x.Name.size ≤ maxLen)
def Zg7 (x:Za):Prop:=((IntKind.i64).min ≤ x.Kind ∧ x.Kind ≤ (IntKind.i64).max) ∧ ((IntKind.i64).min ≤ x.Num ∧ x.Num ≤ (IntKind.i64).max) ∧ ((IntKind.i64).min ≤ x.Low ∧ x.Low ≤ (IntKind.i64).max) ∧ ((IntKind.i64).min ≤ x.High ∧ x.High ≤ (IntKind.i64).max) ∧ (x.Real < 2 ^ 64) ∧ ((IntKind.i64).min ≤ x.Cap ∧ x.Cap ≤ (IntKind.i64).max) ∧ (x.Text.size ≤ maxLen) ∧ (x.List.length ≤ maxLen ∧ ∀ e0 ∈ x.List,(Zmv e0))
def Zll (x:Zg):Prop:=((IntKind.i64).min ≤ x.Kind ∧ x.Kind ≤ (IntKind.i64).max) ∧ (x.Key.size ≤ maxLen) ∧ ((IntKind.i64).min ≤ x.N ∧ x.N ≤ (IntKind.i64).max) ∧ (x.X < 2 ^ 64) ∧ (x.S.size ≤ maxLen) ∧ (Zg7 x.Make) ∧ True
def Zfh (x:Zv):Prop:=((IntKind.i64).min ≤ x.Worker ∧ x.Worker ≤ (IntKind.i64).max) ∧ (Zll x.Act)
end Go.CL
