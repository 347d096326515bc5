/- A part of the proof of WholeLots. -/
import Derived.Test.YtblhcbpleiohaaaGreatDoorWholeLotsC1
import Derived.Laws.CopyRow
import Derived.Laws.Externs
import GoSem.Extern.SlicesOverlaps
import Derived.Lib.AppendStr
import Derived.Laws.BytesString
import Derived.Defers
import Derived.Recover
set_option linter.unusedVariables false
set_option linter.unusedSimpArgs false
set_option maxRecDepth 100000
namespace Go.CL
open Go Go.RowKit
section
variable {P:Program} {N:Nat} {o:Oper} {uses:Zbd} {d:Nat} {q:Pd} {x y z:Operand} {α:Type} {dk:Kd α} {t e:TypeId} {bytes j:Nat} {c:Option Nat}
structure OwnAt (dk:Kd α) (e:TypeId) (j:Nat) (fs:List (Option α)) (g:G) (b cap:Nat) (cur:Array Value):Prop where
 lt:b < g.w.heap.size
 own:g.own b=j
 uniq:∀ b',b' < g.w.heap.size → g.own b'=j → b'=b
 heap:g.w.heap[b]?=some (.cells cur e (0,0))
 len:fs.length ≤ cap
 max:cap ≤ maxLen
 sz:cur.size=cap * dk.sz
 known:∀ i x,fs[i]?=some (some x) → dk.K g x (seg cur.toList (i * dk.sz) dk.sz)
 npr:∀ o,¬ g.pr b o
theorem Zbcc {g g':G} {S:List Nat} {b:Nat} (hs:Step S g g') (hj:j ∉ S) (hj0:j ≠ 0) (h:∀ b',b' < g.w.heap.size → g.own b'=j → b'=b):∀ b',b' < g'.w.heap.size → g'.own b'=j → b'=b:=fun b' hb' ho=>by
 rcases Nat.lt_or_ge b' g.w.heap.size with hlt | hge
 · by_cases hS:g.own b' ∈ S
   · rcases hs.old b' hlt hS with h | h
     · rw [ho] at h;exact absurd h hj0
     · rw [ho] at h;exact absurd h hj
   · exact h b' hlt ((hs.same b' hlt hS).2.2.symm.trans ho)
 · rcases hs.new b' hge hb' with h | h
   · rw [ho] at h;exact absurd h hj0
   · rw [ho] at h;exact absurd h hj
theorem OwnAt.st {fs:List (Option α)} {g g':G} {S:List Nat} {b cap:Nat} {cur:Array Value} (hs:Step S g g') (hj:j ∉ S) (hj0:j ≠ 0) (h:OwnAt dk e j fs g b cap cur):OwnAt dk e j fs g' b cap cur:=by
 obtain ⟨k1,k2,k3⟩:=hs.same b h.lt (by rw [h.own];exact hj)
 exact ⟨Nat.lt_of_lt_of_le h.lt hs.le.size,k3.trans h.own,Zbcc hs hj hj0 h.uniq,k1.trans h.heap,h.len,h.max,h.sz,fun i x hx=>dk.mono hs.le (h.known i x hx),fun o=>by rw [k2];exact h.npr o⟩
def pOwn (dk:Kd α) (e:TypeId) (j:Nat) (c:Option Nat) (fs:List (Option α)):Pd:=⟨fun g u=>∃ b cap cur,u=.slice (some ⟨b,0,none⟩) fs.length cap ∧ OwnAt dk e (j + 1) fs g b cap cur ∧ ∀ k,c=some k → cap=k,[j + 1],fun s hd ⟨b,cap,cur,e,h,hc⟩=>⟨b,cap,cur,e,h.st s (hd _ (by simp)) (by omega),hc⟩⟩
def Zpj (dk:Kd α) (e:TypeId) (j off len:Nat):Pd:=⟨fun g u=>∃ b cap cur,u=.slice (some (if cap=off then ⟨b,0,none⟩ else ⟨b,off * dk.sz,none⟩)) len (cap - off) ∧ OwnAt dk e (j + 1) [] g b cap cur ∧ off + len ≤ cap,[j + 1],fun s hd ⟨b,cap,cur,e,h,hc⟩=>⟨b,cap,cur,e,h.st s (hd _ (by simp)) (by omega),hc⟩⟩
theorem OwnAt.nil {fs:List (Option α)} {g:G} {b cap:Nat} {cur:Array Value} (h:OwnAt dk e j fs g b cap cur):OwnAt dk e j [] g b cap cur:=⟨h.lt,h.own,h.uniq,h.heap,Nat.zero_le _,h.max,h.sz,fun i x hx=>by simp at hx,h.npr⟩
theorem OwnAt.same {fs:List (Option α)} {fs':List (Option α)} {g:G} {b b' cap cap':Nat} {cur cur':Array Value} (h:OwnAt dk e j fs g b cap cur) (k:OwnAt dk e j fs' g b' cap' cur') (h0:0 < dk.sz):b'=b ∧ cur'=cur ∧ cap'=cap:=by
 obtain rfl:=h.uniq b' k.lt k.own
 have:=k.heap
 rw [h.heap] at this
 injection this with this
 injection this with this
 subst this
 exact ⟨rfl,rfl,Nat.eq_of_mul_eq_mul_right h0 (k.sz.symm.trans h.sz)⟩
theorem Zwp {fs:List (Option α)} {t:TypeId} (ht:P.underlying t=some (.slice e)) (hop:o.op=.call { callee:=.builtin .len,args:=#[x],argTypes:=#[t] }) (hd:o.dst=some d) (hx:Opd uses x (pOwn dk e j c fs)):OB P N o uses [(d,pInt .i64 (fs.length:Int))] [] :=
 Zcg hd fun a g hh=>by
   obtain ⟨b,cap,cur,hv,_⟩:=hx a g hh
   exact ⟨.int .i64 fs.length,by simp [execOp,hop,resolve,invoke,builtin,hv,Builtin.len_,run_underlying ht,goInt],Zgz _ _ g⟩
theorem Zbgs {fs:List (Option α)} {t:TypeId} {k:Nat} (ht:P.underlying t=some (.slice e)) (hop:o.op=.call { callee:=.builtin .cap,args:=#[x],argTypes:=#[t] }) (hd:o.dst=some d) (hx:Opd uses x (pOwn dk e j (some k) fs)):OB P N o uses [(d,pInt .i64 (k:Int))] [] :=
 Zcg hd fun a g hh=>by
   obtain ⟨b,cap,cur,hv,_,hc⟩:=hx a g hh
   obtain rfl:=hc k rfl
   exact ⟨.int .i64 cap,by simp [execOp,hop,resolve,invoke,builtin,hv,Builtin.cap_,run_underlying ht,goInt],Zgz _ _ g⟩
theorem Zi4 {x:Value} {i n:Nat} {cd:BoundsCode} {w:World} (hx:x=.int .i64 i) (h:i ≤ n):(Instr.sliceBound x n cd).run P w=.ok i w:=by
 subst hx
 simp [Instr.sliceBound,asIntOf,h]
theorem Ziw {fs:List (Option α)} {l:Nat} (hT:TE P t e dk bytes) (hl:l ≤ fs.length) (hop:o.op=.slice t x (some y) none none) (hd:o.dst=some d) (hx:Opd uses x (pOwn dk e j c fs)) (hy:Opd uses y (pInt .i64 (l:Int))):OB P N o uses [(d,Zpj dk e j l (fs.length - l))] [] :=
 Zcg hd fun a g hh=>by
   obtain ⟨b,cap,cur,hv,hO,hc⟩:=hx a g hh
   have hy':=Zct.1 (hy a g hh)
   obtain ⟨i,zz,hi,hz,hsz,hby,hzs⟩:=hT.info
   have hb:∀ w cd,(Instr.sliceBound (a.eval y) fs.length cd).run P w=.ok l w:=fun w cd=>Zi4 hy' hl
   have hlen:=hO.len
   refine ⟨_,?_,b,cap,cur,rfl,hO.nil,by omega⟩
   simp [execOp,hop,hv,Instr.sliceAt,Instr.slice,Instr.sliceBounds,run_underlying hT.und,hb,sizeOf,typeInfo,hi,hsz,Zdf]
   try (split <;> simp_all [Zdf])
theorem Zu7 {fs:List (Option α)} {h:Nat} (hT:TE P t e dk bytes) (hl:h ≤ fs.length) (hop:o.op=.slice t x none (some y) none) (hd:o.dst=some d) (hx:Opd uses x (pOwn dk e j c fs)) (hy:Opd uses y (pInt .i64 (h:Int))):OB P N o uses [(d,Zpj dk e j 0 h)] [] :=
 Zcg hd fun a g hh=>by
   obtain ⟨b,cap,cur,hv,hO,hc⟩:=hx a g hh
   have hy':=Zct.1 (hy a g hh)
   obtain ⟨i,zz,hi,hz,hsz,hby,hzs⟩:=hT.info
   have hlen:=hO.len
   have hb:∀ w cd,(Instr.sliceBound (a.eval y) cap cd).run P w=.ok h w:=fun w cd=>Zi4 hy' (by omega)
   refine ⟨_,?_,b,cap,cur,rfl,hO.nil,by omega⟩
   simp [execOp,hop,hv,Instr.sliceAt,Instr.slice,Instr.sliceBounds,run_underlying hT.und,hb,sizeOf,typeInfo,hi,hsz,Zdf]
   try (split <;> simp_all [Zdf])
theorem Z6h {fs:List (Option α)} {h k:Nat} (hT:TE P t e dk bytes) (hl:fs.length ≤ h) (hk:h ≤ k) (hop:o.op=.slice t x none (some y) none) (hd:o.dst=some d) (hx:Opd uses x (pOwn dk e j (some k) fs)) (hy:Opd uses y (pInt .i64 (h:Int))):OB P N o uses [(d,pOwn dk e j (some k) (fs ++ List.replicate (h - fs.length) none))] [] :=
 Zcg hd fun a g hh=>by
   obtain ⟨b,cap,cur,hv,hO,hc⟩:=hx a g hh
   obtain rfl:=hc k rfl
   have hy':=Zct.1 (hy a g hh)
   obtain ⟨i,zz,hi,hz,hsz,hby,hzs⟩:=hT.info
   have hb:∀ w cd,(Instr.sliceBound (a.eval y) cap cd).run P w=.ok h w:=fun w cd=>Zi4 hy' hk
   have hlen:(fs ++ List.replicate (h - fs.length) none).length=h:=by simp;omega
   refine ⟨_,?_,b,cap,cur,rfl,⟨hO.lt,hO.own,hO.uniq,hO.heap,by rw [hlen];exact hk,hO.max,hO.sz,fun i x hx=>?_,hO.npr⟩,hc⟩
   · rw [hlen]
     simp [execOp,hop,hv,Instr.sliceAt,Instr.slice,Instr.sliceBounds,run_underlying hT.und,hb,sizeOf,typeInfo,hi,hsz,Zdf]
     try (split <;> simp_all [Zdf])
   · rw [List.getElem?_append] at hx
     split at hx
     · exact hO.known i x hx
     · rw [List.getElem?_replicate] at hx
       split at hx <;> simp at hx
theorem Zbbo {fs:List (Option α)} {l h m:Nat} {y1 y2 y3:Operand} (hT:TE P t e dk bytes) (h1:l ≤ h) (h2:h ≤ m) (h3:m ≤ fs.length) (hop:o.op=.slice t x (some y1) (some y2) (some y3)) (hx:Opd uses x (pOwn dk e j c fs)) (hy1:Opd uses y1 (pInt .i64 (l:Int))) (hy2:Opd uses y2 (pInt .i64 (h:Int))) (hy3:Opd uses y3 (pInt .i64 (m:Int))):OB P N o uses [] []:=by
 intro a g K Q hN hdN hu hK
 obtain ⟨b,cap,cur,hv,hO,hc⟩:=hx a g hu
 obtain ⟨i,zz,hi,hz,hsz,hby,hzs⟩:=hT.info
 have hlen:=hO.len
 have hb1:∀ w cd,(Instr.sliceBound (a.eval y1) h cd).run P w=.ok l w:=fun w cd=>Zi4 (Zct.1 (hy1 a g hu)) h1
 have hb2:∀ w cd,(Instr.sliceBound (a.eval y2) m cd).run P w=.ok h w:=fun w cd=>Zi4 (Zct.1 (hy2 a g hu)) h2
 have hb3:∀ w cd,(Instr.sliceBound (a.eval y3) cap cd).run P w=.ok m w:=fun w cd=>Zi4 (Zct.1 (hy3 a g hu)) (by omega)
 have hr:∃ v,(execOp a.eval o).run P g.w=.ok (.value v) g.w:=by
   simp [execOp,hop,hv,Instr.sliceAt,Instr.slice,Instr.sliceBounds,run_underlying hT.und,hb1,hb2,hb3,sizeOf,typeInfo,hi]
 obtain ⟨v,hr⟩:=hr
 unfold Oper.wp
 rw [hr]
 exact hK v g (.refl _ _) (fun e he=>by cases he)
theorem Z9n {fs:List (Option α)} {l h k:Nat} {y1 y2:Operand} (hT:TE P t e dk bytes) (h1:l ≤ h) (h2:h ≤ k) (hop:o.op=.slice t x (some y1) (some y2) none) (hd:o.dst=some d) (hx:Opd uses x (pOwn dk e j (some k) fs)) (hy1:Opd uses y1 (pInt .i64 (l:Int))) (hy2:Opd uses y2 (pInt .i64 (h:Int))):OB P N o uses [(d,Zpj dk e j l (h - l))] [] :=
 Zcg hd fun a g hh=>by
   obtain ⟨b,cap,cur,hv,hO,hc⟩:=hx a g hh
   obtain rfl:=hc k rfl
   obtain ⟨i,zz,hi,hz,hsz,hby,hzs⟩:=hT.info
   have hb1:∀ w cd,(Instr.sliceBound (a.eval y1) h cd).run P w=.ok l w:=fun w cd=>Zi4 (Zct.1 (hy1 a g hh)) h1
   have hb2:∀ w cd,(Instr.sliceBound (a.eval y2) cap cd).run P w=.ok h w:=fun w cd=>Zi4 (Zct.1 (hy2 a g hh)) h2
   refine ⟨_,?_,b,cap,cur,rfl,hO.nil,by omega⟩
   simp [execOp,hop,hv,Instr.sliceAt,Instr.slice,Instr.sliceBounds,run_underlying hT.und,hb1,hb2,sizeOf,typeInfo,hi,hsz,Zdf]
   try (split <;> simp_all [Zdf])
theorem Zke {i n sz:Nat} (h:i < n):i * sz + sz ≤ n * sz:=by
 have:(i + 1) * sz ≤ n * sz:=Nat.mul_le_mul_right _ h
 rw [Nat.add_mul] at this;omega
def over (fs:List (Option α)) (off:Nat) (ws:List α):List (Option α):=fs.take off ++ ws.map some ++ fs.drop (off + ws.length)
theorem Zoz {fs:List (Option α)} {off:Nat} {ws:List α} (h:off + ws.length ≤ fs.length):(over fs off ws).length=fs.length:=by simp [over];omega
theorem Znm {fs:List (Option α)} {off:Nat} {ws:List α} (h:off + ws.length ≤ fs.length) (i:Nat):(over fs off ws)[i]?=if i < off then fs[i]? else if i < off + ws.length then (ws[i - off]?).map some else fs[i]?:=by
 unfold over
 rw [List.append_assoc,List.getElem?_append]
 have h1:(fs.take off).length=off:=by simp;omega
 rw [h1]
 by_cases hi:i < off
 · rw [if_pos hi,if_pos hi,List.getElem?_take,if_pos hi]
 · rw [if_neg hi,if_neg hi,List.getElem?_append,List.length_map]
   by_cases h2:i < off + ws.length
   · rw [if_pos h2,if_pos (by omega),List.getElem?_map]
   · rw [if_neg h2,if_neg (by omega),List.getElem?_drop]
     congr 1;omega
theorem Z8y {g g' : G} (hle : g.le g') {fs : List (Option α)} {off cap : Nat} {ws : List α} {cur news : List Value} (hl : news.length = ws.length * dk.sz) (hc : cur.length = cap * dk.sz) (hfit : off + ws.length ≤ fs.length) (hcap : fs.length ≤ cap)
   (hk:∀ i x,fs[i]?=some (some x) → dk.K g x (seg cur (i * dk.sz) dk.sz)) (hn:∀ i x,ws[i]?=some x → dk.K g x (seg news (i * dk.sz) dk.sz)) :
   ∀ i x,(over fs off ws)[i]?=some (some x) → dk.K g' x (seg (Zq cur (off * dk.sz) news) (i * dk.sz) dk.sz):=by
 intro i x hx
 have hfit':off * dk.sz + news.length ≤ cur.length:=by rw [hl,hc,← Nat.add_mul];exact Nat.mul_le_mul_right _ (by omega)
 rw [Znm hfit] at hx
 split at hx
 · rename_i h1
   rw [Zg hfit' (.inl (Zke h1))]
   exact dk.mono hle (hk i x hx)
 · rename_i h1
   split at hx
   · rename_i h2
     obtain ⟨y,hy,hxy⟩:=Option.map_eq_some_iff.1 hx
     obtain rfl:=Option.some.inj hxy
     have e:seg (Zq cur (off * dk.sz) news) (i * dk.sz) dk.sz=seg news ((i - off) * dk.sz) dk.sz:=by
       have hto:(cur.take (off * dk.sz)).length=off * dk.sz:=by simp;omega
       unfold Zq
       rw [List.append_assoc,show i * dk.sz=(cur.take (off * dk.sz)).length + (i - off) * dk.sz by rw [hto,← Nat.add_mul];congr 1;omega,Zha,Zew (by rw [hl];exact Zke (by omega))]
     rw [e];exact dk.mono hle (hn _ _ hy)
   · rename_i h2
     rw [Zg hfit' (.inr (by rw [hl,← Nat.add_mul];exact Nat.mul_le_mul_right _ (by omega)))]
     exact dk.mono hle (hk i x hx)
theorem Zv3 {fs : List (Option α)} {g : G} {b cap : Nat} {cur : Array Value} (h : OwnAt dk e j fs g b cap cur) {off : Nat} {ws : List α} {news : List Value} (hl : news.length = ws.length * dk.sz) (hfit : off + ws.length ≤ fs.length) (hn : ∀ i x, ws[i]? = some x → dk.K g x (seg news (i * dk.sz) dk.sz)) :
   ∃ g':G,g'.w=g.w.setRow b (Zq cur.toList (off * dk.sz) news).toArray ∧ Step [j] g g' ∧ OwnAt dk e j (over fs off ws) g' b cap (Zq cur.toList (off * dk.sz) news).toArray:=by
 have hst:Step [j] g (g.wr b (Zq cur.toList (off * dk.sz) news).toArray h.lt h.npr (fun _=>False) j):=Zns h.own (.inr rfl) h.npr
 have hcl:cur.toList.length=cap * dk.sz:=by simpa using h.sz
 have hlen:=h.len
 refine ⟨_,rfl,hst,⟨by rw [wr_w,Zdi];exact h.lt,by simp [G.wr],fun b' hb' ho=>?_,by rw [wr_w];exact setRow_heap _ _ _ _ _ _ h.heap,by rw [Zoz hfit];exact h.len,h.max,?_,?_,fun o=>by simp [G.wr]⟩⟩
 · rw [wr_w,Zdi] at hb'
   simp only [G.wr] at ho
   split at ho
   · assumption
   · exact h.uniq b' hb' ho
 · rw [List.size_toArray,Zca (by rw [hl,hcl,← Nat.add_mul];exact Nat.mul_le_mul_right _ (by omega))];exact hcl
 · exact Z8y hst.le hl hcl hfit h.len h.known hn
theorem Zu9 {g : G} {b off len cap : Nat} {fs : List (Option α)} {cur : Array Value} (hT : TE P t e dk bytes) (h : OwnAt dk e j fs g b cap cur) (hoff : off + len ≤ fs.length) {A : Option Addr} {n c2 : Nat} {ws : List α} {news : List Value} (hn : ws.length = Nat.min n len) (hA : ws = [] ∨ ∃ b2 o2, A = some ⟨b2, o2, none⟩ ∧ ∀ k u, news[k]? = some u → g.w.cell? ⟨b2, o2 + k, none⟩ = some u) (hl : news.length = ws.length * dk.sz) (hone : ∀ u ∈ news, u.oneCell' = true) (ty : TypeId) :
   (Builtin.copy_ #[t,t] ty #[.slice (some (if cap=off then ⟨b,0,none⟩ else ⟨b,off * dk.sz,none⟩)) len (cap - off),.slice A n c2]).run P g.w=.ok (.int .i64 (ws.length:Int)) (g.w.setRow b (Zq cur.toList (off * dk.sz) news).toArray):=by
 obtain ⟨i,zz,hi,hz,hsz,hby,hzs⟩:=hT.info
 have hcl:cur.toList.length=cap * dk.sz:=by simpa using h.sz
 have hlen:=h.len
 rcases hA with rfl | ⟨b2,o2,rfl,hcell⟩
 · have hn0:news=[]:=List.eq_nil_of_length_eq_zero (by simpa using hl)
   subst hn0
   have hs:(Zq cur.toList (off * dk.sz) []).toArray=cur:=by simp [Zq]
   have hself:g.w.setRow b cur=g.w:=setRow_self g.w b cur e (0,0) h.heap
   rw [hs,hself]
   have hm:Nat.min n len=0:=by simpa using hn.symm
   cases A <;> simp [Builtin.copy_,run_underlying hT.und,Builtin.lenOf,Builtin.firstCells,sizeOf,typeInfo,hi,hm,loadCells,loadCellsFrom,storeCells,goInt]
 · have hld:=run_loadCells_list (P:=P) g.w ⟨b2,o2,none⟩ news (fun k u hu=>by rw [Zdf];exact hcell k u hu)
   rw [hl,hn] at hld
   by_cases he:cap=off
   · have hlen0:len=0:=by omega
     have hw0:ws=[]:=List.eq_nil_of_length_eq_zero (by rw [hn,hlen0];simp)
     subst hw0
     have hn0:news=[]:=List.eq_nil_of_length_eq_zero (by simpa using hl)
     subst hn0
     have hs:(Zq cur.toList (off * dk.sz) []).toArray=cur:=by simp [Zq]
     have hself:g.w.setRow b cur=g.w:=setRow_self g.w b cur e (0,0) h.heap
     rw [hs,hself]
     have hm:Nat.min n len=0:=by simpa using hn.symm
     simp [Builtin.copy_,run_underlying hT.und,Builtin.lenOf,Builtin.firstCells,sizeOf,typeInfo,hi,hm,loadCells,loadCellsFrom,storeCells,goInt]
   · rw [if_neg he]
     have hst:=run_storeCells_at P b (off * dk.sz) e news 0 cur g.w h.heap (by rw [hl,Nat.add_zero,← Nat.add_mul];rw [h.sz];exact Nat.mul_le_mul_right _ (by rw [hn];have:Nat.min n len ≤ len:=Nat.min_le_right n len;omega)) hone
     rw [Nat.add_zero] at hst
     simp only [Builtin.copy_,run_underlying hT.und,Builtin.lenOf,Builtin.firstCells,sizeOf,typeInfo,Sem.run_bind,run_program,Result.andThen_ok,hi,Sem.run_pure,hsz,List.getElem?_toArray,List.getElem?_cons_zero,List.getElem?_cons_succ,hld,goInt,hn]
     rw [hst]
     rfl
theorem Z3j {fs : List (Option α)} {off len s : Nat} {vs : List α} (hT : TE P t e dk bytes) (hfit : off + len ≤ fs.length) (hv : vs.length ≤ len) (hop : o.op = .call { callee := .builtin .copy, args := #[x, y], argTypes := #[t, t] }) (hd : o.dst = some d) (hsd : s ≠ d)
   (hx:Opd uses x (Zpj dk e j off len)) (hy:Opd uses y (dk.sl.pd vs)) (hs:Opd uses (.tmp s) (pOwn dk e j c fs)):OB P N o uses [(d,pInt .i64 (vs.length:Int)),(s,pOwn dk e j c (over fs off vs))] [j + 1]:=by
 intro a g K Q hN hdN hu hK
 obtain ⟨b,cap,cur,hxv,hO1,_⟩:=hx a g hu
 obtain ⟨b',cap',cur',hsv,hO,hc⟩:=hs a g hu
 obtain ⟨rfl,rfl,rfl⟩:=hO.same hO1 hT.sz
 obtain ⟨A,c2,hy1,hy2,hy3,hyr⟩:=Zow (hy a g hu)
 obtain ⟨news,hl,hcl,hk⟩:∃ news:List Value,news.length=vs.length * dk.sz ∧ (vs=[] ∨ ∃ b2 o2,A=some ⟨b2,o2,none⟩ ∧ ∀ k u,news[k]?=some u → g.w.cell? ⟨b2,o2 + k,none⟩=some u) ∧ ∀ i x,vs[i]?=some x → dk.K g x (seg news (i * dk.sz) dk.sz):=by
   rcases hyr with rfl | ⟨b2,o2,news,rfl,h1,h2,h3⟩
   · exact ⟨[],by simp,.inl rfl,fun i x hx=>by simp at hx⟩
   · exact ⟨news,h1,.inr ⟨b2,o2,rfl,fun k u hu=>(h2 k u hu).2⟩,h3⟩
 obtain ⟨g',hw,hst,hO'⟩:=Zv3 hO (off:=off) hl (by omega) hk
 have hr:=Zu9 hT hO (off:=off) (len:=len) hfit (A:=A) (n:=vs.length) (c2:=c2) (ws:=vs) (by simp [Nat.min_eq_left hv]) hcl hl (Zqn hl hk hT.sz) o.type
 have hr':(execOp a.eval o).run P g.w=.ok (.value (.int .i64 (vs.length:Int))) g'.w:=by
   simp [execOp,hop,resolve,invoke,builtin,hxv,hy1,hr,hw]
 unfold Oper.wp
 rw [hr']
 refine hK _ g' hst fun e he=>?_
 simp only [List.mem_cons,List.not_mem_nil,or_false] at he
 rcases he with rfl | rfl
 · rw [hd,Zed _ (by rw [hN];exact hdN d hd)];exact Zgz _ _ g'
 · rw [Zk4 _ (by rw [hd];intro h;exact hsd (Option.some.inj h).symm)]
   exact ⟨b,cap,_,by rw [Zoz (by omega)];exact hsv,hO',hc⟩
theorem Z5p {fs fs2 : List (Option α)} {off len off2 len2 s s2 j2 : Nat} {c2 : Option Nat} {ws : List α} (hT : TE P t e dk bytes) (hfit : off + len ≤ fs.length) (hfit2 : off2 + len2 ≤ fs2.length) (hw : ws.length = Nat.min len2 len) (hws : ∀ i x, ws[i]? = some x → fs2[off2 + i]? = some (some x))
   (hop:o.op=.call { callee:=.builtin .copy,args:=#[x,y],argTypes:=#[t,t] }) (hd:o.dst=some d) (hsd:s ≠ d) (hx:Opd uses x (Zpj dk e j off len)) (hy:Opd uses y (Zpj dk e j2 off2 len2)) (hs:Opd uses (.tmp s) (pOwn dk e j c fs)) (hs2:Opd uses (.tmp s2) (pOwn dk e j2 c2 fs2)) :
   OB P N o uses [(d,pInt .i64 (ws.length:Int)),(s,pOwn dk e j c (over fs off ws))] [j + 1]:=by
 intro a g K Q hN hdN hu hK
 obtain ⟨b,cap,cur,hxv,hO1,_⟩:=hx a g hu
 obtain ⟨b',cap',cur',hsv,hO,hc⟩:=hs a g hu
 obtain ⟨rfl,rfl,rfl⟩:=hO.same hO1 hT.sz
 obtain ⟨b3,cap3,cur3,hyv,hO3,hcap3⟩:=hy a g hu
 obtain ⟨b2,cap2,cur2,hsv2,hO2,hc2⟩:=hs2 a g hu
 obtain ⟨rfl,rfl,rfl⟩:=hO2.same hO3 hT.sz
 have hwl2:ws.length ≤ len2:=by rw [hw];exact Nat.min_le_left _ _
 have hwl:ws.length ≤ len:=by rw [hw];exact Nat.min_le_right _ _
 have hl2:=hO2.len
 have hcl2:cur3.toList.length=cap3 * dk.sz:=by simpa using hO2.sz
 let news:=seg cur3.toList (off2 * dk.sz) (ws.length * dk.sz)
 have hnl:news.length=ws.length * dk.sz:=by
   show ((cur3.toList.drop (off2 * dk.sz)).take (ws.length * dk.sz)).length=_
   rw [List.length_take,List.length_drop,hcl2]
   have:(off2 + ws.length) * dk.sz ≤ cap3 * dk.sz:=Nat.mul_le_mul_right _ (by omega)
   rw [Nat.add_mul] at this;omega
 have hk:∀ i x,ws[i]?=some x → dk.K g x (seg news (i * dk.sz) dk.sz):=fun i x hx=>by
   have hi:=(List.getElem?_eq_some_iff.1 hx).1
   have h1:=hO2.known _ _ (hws i x hx)
   have e:seg news (i * dk.sz) dk.sz=seg cur3.toList ((off2 + i) * dk.sz) dk.sz:=by
     show (((cur3.toList.drop (off2 * dk.sz)).take (ws.length * dk.sz)).drop (i * dk.sz)).take dk.sz=_
     have:=Zke (sz:=dk.sz) hi
     rw [List.drop_take,List.take_take,List.drop_drop,Nat.min_eq_left (by omega),Nat.add_mul];rfl
   rw [e];exact h1
 obtain ⟨g',hgw,hst,hO'⟩:=Zv3 hO (off:=off) hnl (by omega) hk
 have hcell:∀ k u,news[k]?=some u → g.w.cell? ⟨b3,off2 * dk.sz + k,none⟩=some u:=fun k u hu=>by
   simp only [World.cell?,hO2.heap]
   have hu':((cur3.toList.drop (off2 * dk.sz)).take (ws.length * dk.sz))[k]?=some u:=hu
   rw [List.getElem?_take] at hu'
   split at hu'
   · rw [List.getElem?_drop] at hu'
     simpa using hu'
   · cases hu'
 have hr:=Zu9 hT hO (off:=off) (len:=len) hfit (A:=some (if cap3=off2 then ⟨b3,0,none⟩ else ⟨b3,off2 * dk.sz,none⟩)) (n:=len2) (c2:=cap3 - off2) (ws:=ws) (news:=news) hw (by
   by_cases he:cap3=off2
   · left;apply List.eq_nil_of_length_eq_zero;omega
   · right;exact ⟨b3,off2 * dk.sz,by rw [if_neg he],hcell⟩) hnl (Zqn hnl hk hT.sz) o.type
 have hr':(execOp a.eval o).run P g.w=.ok (.value (.int .i64 (ws.length:Int))) g'.w:=by
   simp only [execOp,hop,resolve,invoke,builtin,Sem.run_bind,Sem.run_pure,Result.andThen_ok,List.map_toArray,List.map_cons,List.map_nil,hxv,hyv,hr,hgw]
 unfold Oper.wp
 rw [hr']
 refine hK _ g' hst fun e he=>?_
 simp only [List.mem_cons,List.not_mem_nil,or_false] at he
 rcases he with rfl | rfl
 · rw [hd,Zed _ (by rw [hN];exact hdN d hd)];exact Zgz _ _ g'
 · rw [Zk4 _ (by rw [hd];intro h;exact hsd (Option.some.inj h).symm)]
   exact ⟨b,cap,_,by rw [Zoz (by omega)];exact hsv,hO',hc⟩
end
section
variable {P:Program} {N:Nat} {o:Oper} {uses:Zbd} {d:Nat} {q:Pd} {x y z:Operand} {α:Type} {dk:Kd α} {t e:TypeId} {bytes j:Nat} {c:Option Nat}
theorem OwnAt.ext {fs:List (Option α)} {g:G} {b cap h:Nat} {cur:Array Value} (hO:OwnAt dk e j fs g b cap cur) (h1:fs.length ≤ h) (h2:h ≤ cap):OwnAt dk e j (fs ++ List.replicate (h - fs.length) none) g b cap cur :=
 ⟨hO.lt,hO.own,hO.uniq,hO.heap,by simp;omega,hO.max,hO.sz,fun i x hx=>by
   rw [List.getElem?_append] at hx
   split at hx
   · exact hO.known i x hx
   · rw [List.getElem?_replicate] at hx
     split at hx <;> simp at hx,hO.npr⟩
theorem OwnAt.sub {fs fs':List (Option α)} {g:G} {b cap:Nat} {cur:Array Value} (hO:OwnAt dk e j fs g b cap cur) (hl:fs'.length ≤ cap) (hk:∀ (i:Nat) (x:α),fs'[i]?=some (some x) → fs[i]?=some (some x)):OwnAt dk e j fs' g b cap cur :=
 ⟨hO.lt,hO.own,hO.uniq,hO.heap,hl,hO.max,hO.sz,fun i x hx=>hO.known i x (hk i x hx),hO.npr⟩
theorem Zn9 (z:Array Value) (n:Nat):(Builtin.zeroCells z n).size=n * z.size:=by simp [Builtin.zeroCells]
theorem Zxy {g : G} {cur : Array Value} {cap : Nat} {fs : List (Option α)} (hj : j ≠ 0) (hl : fs.length ≤ cap) (hm : cap ≤ maxLen) (hs : cur.size = cap * dk.sz) (hk : ∀ (i : Nat) (x : α), fs[i]? = some (some x) → dk.K g x (seg cur.toList (i * dk.sz) dk.sz)) :
   ∃ g':G,g'.w=g.w.drew.alloc (.cells cur e) ∧ Step [j] g g' ∧ OwnAt dk e j fs g' g.w.heap.size cap cur:=by
 have hs1:=Step.drew g
 have hs2:=Znp g.drew cur e (fun _=>False) j
 have hst:Step [j] g (g.drew.push cur e (fun _=>False) j):=(hs1.sub (by simp)).trans hs2
 have hsz:g.drew.w.heap.size=g.w.heap.size:=rfl
 refine ⟨g.drew.push cur e (fun _=>False) j,rfl,hst,⟨by rw [Zhm,Zjj];omega,by simp [G.push,hsz],fun b' hb' ho=>?_,by rw [Zhm,← hsz];exact Zno ..,hl,hm,hs,fun i x hx=>dk.mono hst.le (hk i x hx),fun o=>by simp [G.push,hsz]⟩⟩
 by_cases h:b'=g.drew.w.heap.size
 · rw [h,hsz]
 · simp only [G.push,if_neg h] at ho
   split at ho
   · exact absurd ho.symm hj
   · rename_i h2;exact absurd ho h2
theorem Z1u {j:Nat} {ty:TypeId} (hT:TE P t e dk bytes) (hop:o.op=.buildSlice t 0 #[]) (hd:o.dst=some d):OB P N o uses [(d,pOwn dk e j (some 0) ([]:List (Option α)))] [j + 1] :=
 Zhb hd fun a g hh=>by
   have hs2:=Znp g #[] e (fun _=>False) (j + 1)
   refine ⟨.slice (some ⟨g.w.heap.size,0,none⟩) 0 0,g.push #[] e (fun _=>False) (j + 1),?_,hs2,g.w.heap.size,0,#[],rfl,⟨by rw [Zhm,Zjj];omega,by simp [G.push],fun b' hb' ho=>?_,by rw [Zhm];exact Zno ..,Nat.le_refl _,Nat.zero_le _,by simp,fun i x hx=>by simp at hx,fun o=>by simp [G.push]⟩,fun k hk=>Option.some.inj hk⟩
   · obtain ⟨cells,hl,_,hr⟩:=Z0u (ys:=[]) (xs:=[]) hT .nil (by simp) hh
     have hc:cells=[]:=List.eq_nil_of_length_eq_zero (by simpa using hl)
     subst hc
     rw [Zhm]
     have hr':(Instr.buildSlice t 0 #[]).run P g.w=.ok (.slice (some ⟨g.w.heap.size,0,none⟩) 0 0) (g.w.alloc (.cells #[] e)):=by simpa [idxL] using hr
     simp [execOp,hop]
     rw [hr'];rfl
   · by_cases h:b'=g.w.heap.size
     · exact h
     · simp only [G.push,if_neg h] at ho
       split at ho
       · omega
       · rename_i h2;exact absurd ho h2
theorem Zty {xs vs : List α} (hT : TE P t e dk bytes) (hop : o.op = .call { callee := .builtin .append, args := #[x, y], argTypes := #[t, t] }) (hd : o.dst = some d) (hx : Opd uses x (pOwn dk e j c (xs.map some))) (hy : Opd uses y (dk.sl.pd vs)) (hl : (xs.length + vs.length) * bytes ≤ 140737488355328) :
   OB P N o uses [(d,pOwn dk e j none ((xs ++ vs).map some))] [j + 1] :=
 Zhb hd fun a g hh=>by
   obtain ⟨b,cap,cur,hv,hO,_⟩:=hx a g hh
   obtain ⟨A,c2,hy1,hy2,hy3,hyr⟩:=Zow (hy a g hh)
   obtain ⟨i,zz,hi,hz,hsz,hby,hzs⟩:=hT.info
   have hb0:=hT.by0
   have hexec:∀ v w',(Builtin.append_ #[t,t] o.type #[a.eval x,a.eval y]).run P g.w=.ok v w' → (execOp a.eval o).run P g.w=.ok (.value v) w':=fun v w' h=>by
     simp [execOp,hop,resolve,invoke,builtin,h]
   have hlen:xs.length + vs.length ≤ 140737488355328:=Nat.le_trans (Nat.le_mul_of_pos_right _ hb0) hl
   have hOl:=hO.len
   rw [List.length_map] at hOl hv
   rcases Nat.eq_zero_or_pos vs.length with h0 | hpos
   · obtain rfl:=List.eq_nil_of_length_eq_zero h0
     refine ⟨a.eval x,g,hexec _ _ ?_,.refl _ _,b,cap,cur,by rw [hv];simp,by rw [List.append_nil];exact hO,fun k hk=>by cases hk⟩
     rw [hv,hy1]
     cases A <;> simp [Builtin.append_,run_underlying hT.und,sizeOf,typeInfo,hi,Builtin.lenOf,Builtin.firstCells,loadCells,loadCellsFrom,hOl,storeCells]
   · obtain ⟨b2,o2,news,rfl,hnl,hnc,hnk⟩:=hyr.resolve_left (fun h=>by rw [h] at hpos;simp at hpos)
     have hn1:=Zqn hnl hnk hT.sz
     have hnl':news.length=vs.length * i.size:=by rw [hsz];exact hnl
     have hnews:∀ k u,news[k]?=some u → g.w.cell? ((⟨b2,o2,none⟩:Addr).add k)=some u:=fun k u hu=>by rw [Zdf];exact (hnc k u hu).2
     by_cases hroom:xs.length + vs.length ≤ cap
     · have hO2:=hO.ext (h:=xs.length + vs.length) (by simp) hroom
       obtain ⟨g',hw,hst,hO3⟩:=Zv3 hO2 (off:=xs.length) (ws:=vs) hnl (by simp) hnk
       have hr:=run_append_room (P:=P) g.w t o.type e i hT.und hi b xs.length cap cur hO.heap ⟨b2,o2,none⟩ vs.length c2 news hnl' hnews hn1 hroom (by rw [hnl',← Nat.add_mul,hO.sz,hsz];exact Nat.mul_le_mul_right _ hroom)
       rw [hsz] at hr
       refine ⟨_,g',hexec _ _ (by rw [hv,hy1];rw [hw];exact hr),hst,b,cap,(Zq cur.toList (xs.length * dk.sz) news).toArray,by simp,?_,fun k hk=>by cases hk⟩
       refine hO3.sub (by simp;omega) fun k u hk=>?_
       rw [Znm (by simp)]
       rw [List.getElem?_map] at hk
       by_cases h1:k < xs.length
       · rw [if_pos h1,List.getElem?_append_left (by simpa using h1),List.getElem?_map]
         rwa [List.getElem?_append_left h1] at hk
       · rw [if_neg h1]
         have h2:=(List.getElem?_eq_some_iff.1 (show (xs ++ vs)[k]?=some u by
           obtain ⟨y,hy,he⟩:=Option.map_eq_some_iff.1 hk
           rw [hy,Option.some.inj he])).1
         rw [List.length_append] at h2
         rw [if_pos h2]
         rwa [List.getElem?_append_right (by omega)] at hk
     · have hcl:cur.toList.length=cap * dk.sz:=by simpa using hO.sz
       have hol:(cur.toList.take (xs.length * dk.sz)).length=xs.length * i.size:=by rw [hsz,List.length_take,hcl];exact Nat.min_eq_left (Nat.mul_le_mul_right _ hOl)
       have holds:∀ k u,(cur.toList.take (xs.length * dk.sz))[k]?=some u → g.w.cell? ((⟨b,0,none⟩:Addr).add k)=some u:=fun k u hu=>by
         rw [Zdf]
         simp only [World.cell?,hO.heap,Nat.zero_add]
         rw [List.getElem?_take] at hu
         split at hu
         · simpa using hu
         · cases hu
       have hr:=run_append_grow (P:=P) g.w t o.type e i zz hT.und hi hz ⟨b,0,none⟩ xs.length cap (cur.toList.take (xs.length * dk.sz)) hol holds ⟨b2,o2,none⟩ vs.length c2 news hnl' hnews (by omega) (by omega) (growslice_fits (by omega) (by rw [hby];exact hl))
       have hge:=grownCap_ge g.w (xs.length + vs.length) cap e
       have hmx:=grownCap_le_maxLen g.w (xs.length + vs.length) cap e (by simp only [maxLen];omega)
       rw [hsz] at hol
       obtain ⟨g', hw, hst, hO3⟩ := Zxy (dk := dk) (e := e) (g := g) (j := j + 1) (cur := (cur.toList.take (xs.length * dk.sz)).toArray ++ news.toArray ++ Builtin.zeroCells zz.cells (grownCap g.w (xs.length + vs.length) cap e - (xs.length + vs.length))) (cap := grownCap g.w (xs.length + vs.length) cap e) (fs := (xs ++ vs).map some) (by omega) (by simpa using hge) hmx (by
           simp only [Array.size_append,List.size_toArray,Zn9,hzs,hol,hnl,← Nat.add_mul]
           congr 1;omega) (fun k u hk=>by
           rw [List.getElem?_map] at hk
           obtain ⟨u',hu',he'⟩:=Option.map_eq_some_iff.1 hk
           obtain rfl:=Option.some.inj he'
           simp only [Array.toList_append,List.append_assoc]
           rw [List.getElem?_append] at hu'
           split at hu'
           · rename_i h1
             rw [Zew (by rw [hol];exact Zke h1)]
             have e2:seg (cur.toList.take (xs.length * dk.sz)) (k * dk.sz) dk.sz=seg cur.toList (k * dk.sz) dk.sz:=by
               have:=Zke (sz:=dk.sz) h1
               simp only [seg,List.drop_take,List.take_take]
               congr 1;omega
             rw [e2]
             exact hO.known k u' (by rw [List.getElem?_map,hu'];rfl)
           · rename_i h1
             have h2:=(List.getElem?_eq_some_iff.1 hu').1
             rw [show k * dk.sz=(cur.toList.take (xs.length * dk.sz)).length + (k - xs.length) * dk.sz by rw [hol,← Nat.add_mul];congr 1;omega,Zha,Zew (by rw [hnl];exact Zke h2)]
             exact hnk _ _ hu')
       refine ⟨_,g',hexec _ _ (by rw [hv,hy1];rw [hw];exact hr),hst,_,_,_,by simp,hO3,fun k hk=>by cases hk⟩
theorem Z89 {fs : List (Option α)} {n off len s k : Nat} {xs ws : List α} (hT : TE P t e dk bytes) (hn : n = xs.length) (hn2 : n + len ≤ k) (hfs : off + len ≤ fs.length) (hw : ws.length = len) (hxs : ∀ (i : Nat) (x : α), xs[i]? = some x → fs[i]? = some (some x)) (hws : ∀ (i : Nat) (x : α), ws[i]? = some x → fs[off + i]? = some (some x))
   (hop:o.op=.call { callee:=.builtin .append,args:=#[x,y],argTypes:=#[t,t] }) (hd:o.dst=some d) (hx:Opd uses x (Zpj dk e j 0 n)) (hy:Opd uses y (Zpj dk e j off len)) (hs:Opd uses (.tmp s) (pOwn dk e j (some k) fs)) :
   OB P N o uses [(d,pOwn dk e j (some k) ((xs ++ ws).map some))] [j + 1] :=
 Zhb hd fun a g hh=>by
   obtain ⟨b,cap,cur,hxv,hO1,_⟩:=hx a g hh
   obtain ⟨b',cap',cur',hsv,hO,hc⟩:=hs a g hh
   obtain rfl:=hc k rfl
   obtain ⟨rfl,rfl,rfl⟩:=hO.same hO1 hT.sz
   obtain ⟨b3,cap3,cur3,hyv,hO3,hcap3⟩:=hy a g hh
   obtain ⟨rfl,rfl,rfl⟩:=hO.same hO3 hT.sz
   obtain ⟨i,zz,hi,hz,hsz,hby,hzs⟩:=hT.info
   have hl2:=hO.len
   have hcl:cur3.toList.length=cap3 * dk.sz:=by simpa using hO.sz
   let news:=seg cur3.toList (off * dk.sz) (len * dk.sz)
   have hnl:news.length=ws.length * dk.sz:=by
     show ((cur3.toList.drop (off * dk.sz)).take (len * dk.sz)).length=_
     rw [List.length_take,List.length_drop,hcl,hw]
     have:(off + len) * dk.sz ≤ cap3 * dk.sz:=Nat.mul_le_mul_right _ (by omega)
     rw [Nat.add_mul] at this;omega
   have hk:∀ (i:Nat) (x:α),ws[i]?=some x → dk.K g x (seg news (i * dk.sz) dk.sz):=fun i x hx=>by
     have hi:=(List.getElem?_eq_some_iff.1 hx).1
     have h1:=hO.known _ _ (hws i x hx)
     have e:seg news (i * dk.sz) dk.sz=seg cur3.toList ((off + i) * dk.sz) dk.sz:=by
       show (((cur3.toList.drop (off * dk.sz)).take (len * dk.sz)).drop (i * dk.sz)).take dk.sz=_
       have:=Zke (sz:=dk.sz) (show i < len by omega)
       rw [List.drop_take,List.take_take,List.drop_drop,Nat.min_eq_left (by omega),Nat.add_mul];rfl
     rw [e];exact h1
   have hcell:∀ k u,news[k]?=some u → g.w.cell? ((⟨b3,off * dk.sz,none⟩:Addr).add k)=some u:=fun k u hu=>by
     rw [Zdf]
     simp only [World.cell?,hO.heap]
     have hu':((cur3.toList.drop (off * dk.sz)).take (len * dk.sz))[k]?=some u:=hu
     rw [List.getElem?_take] at hu'
     split at hu'
     · rw [List.getElem?_drop] at hu'
       simpa using hu'
     · cases hu'
   have hO4:=(hO.sub (fs':=xs.map some) (by rw [List.length_map];omega) (fun i x hx=>by
     rw [List.getElem?_map] at hx
     obtain ⟨y,hy,he⟩:=Option.map_eq_some_iff.1 hx
     rw [hxs i y hy,he])).ext (h:=n + len) (by rw [List.length_map];omega) (by omega)
   obtain ⟨g',hgw,hst,hO5⟩:=Zv3 hO4 (off:=n) (ws:=ws) hnl (by simp;omega) hk
   have hb0:(if cap3=0 then (⟨b3,0,none⟩:Addr) else ⟨b3,0 * dk.sz,none⟩)=⟨b3,0,none⟩:=by split <;> simp
   have hr:(Builtin.append_ #[t,t] o.type #[a.eval x,a.eval y]).run P g.w=.ok (.slice (some ⟨b3,0,none⟩) (n + len) cap3) g'.w:=by
     rw [hxv,hyv,hb0,hgw,Nat.sub_zero]
     by_cases h0:cap3=off
     · have hl0:len=0:=by omega
       have hn0:news=[]:=List.eq_nil_of_length_eq_zero (by rw [hnl,hw,hl0];simp)
       rw [if_pos h0]
       have:=run_append_room (P:=P) g.w t o.type e i hT.und hi b3 n cap3 cur3 hO.heap ⟨b3,0,none⟩ len (cap3 - off) news (by rw [hn0,hl0];simp) (fun j u hu=>by rw [hn0] at hu;simp at hu) (fun u hu=>by rw [hn0] at hu;cases hu) (by omega) (by rw [hn0,hO.sz,hsz];simp;exact Nat.mul_le_mul_right _ (by omega))
       rw [hsz] at this
       exact this
     · rw [if_neg h0]
       have:=run_append_room (P:=P) g.w t o.type e i hT.und hi b3 n cap3 cur3 hO.heap ⟨b3,off * dk.sz,none⟩ len (cap3 - off) news (by rw [hnl,hw,hsz]) hcell (Zqn hnl hk hT.sz) (by omega) (by rw [hnl,hw,hsz,← Nat.add_mul,hO.sz];exact Nat.mul_le_mul_right _ (by omega))
       rw [hsz] at this
       exact this
   refine ⟨_,g',?_,hst,b3,cap3,(Zq cur3.toList (n * dk.sz) news).toArray,rfl,?_,hc⟩
   · rw [show ((xs ++ ws).map some).length=n + len by simp;omega]
     simp [execOp,hop,resolve,invoke,builtin,hr]
   · refine hO5.sub (by simp;omega) fun k u hk=>?_
     rw [Znm (by simp;omega)]
     rw [List.getElem?_map] at hk
     by_cases h1:k < n
     · rw [if_pos h1,List.getElem?_append_left (by simp;omega),List.getElem?_map]
       rwa [List.getElem?_append_left (by omega)] at hk
     · rw [if_neg h1]
       have h2:=(List.getElem?_eq_some_iff.1 (show (xs ++ ws)[k]?=some u by
         obtain ⟨y,hy,he⟩:=Option.map_eq_some_iff.1 hk
         rw [hy,Option.some.inj he])).1
       rw [List.length_append] at h2
       rw [if_pos (by omega)]
       rw [List.getElem?_append_right (by omega)] at hk
       rw [hn];exact hk
theorem Ztc (w : World) (t tn ty e : TypeId) (i : TypeInfo) (z : Value) (k kn : IntKind) (ht : P.underlying t = some (.slice e)) (htn : P.underlying tn = some (.int kn)) (hi : P.info? e = some i) (hz : i.zero = some z)
   (b:Addr) (sLen sCap:Nat) (olds:List Value) (hlo:olds.length=sLen * i.size) (holds:∀ j v,olds[j]?=some v → w.cell? (b.add j)=some v)
   (n:Nat) (h0:0 < n) (hs:0 < i.size) (hg:sCap < sLen + n) (h63:((sLen + n:Nat):Int) ≤ 9223372036854775807) (h48:n * i.bytes ≤ 281474976710656) (hfit:Builtin.nextslicecap (sLen + n) sCap * i.bytes ≤ 281474976710656) :
   (Builtin.append_ #[t,tn] ty #[.slice (some b) sLen sCap,.int k n]).run P w =
     .ok (.slice (some ⟨w.heap.size,0,none⟩) (sLen + n) (grownCap w (sLen + n) sCap e))
       (w.drew.alloc (.cells (olds.toArray ++ Builtin.zeroCells z.cells n ++ Builtin.zeroCells z.cells (grownCap w (sLen + n) sCap e - (sLen + n))) e)):=by
 have hw:IntKind.i64.wrap (n:Int)=n:=by rw [IntKind.wrap_i64];omega
 have hn:¬ (sLen + n ≤ sCap):=by omega
 have h63':¬ (9223372036854775807 < ((sLen:Int) + (n:Int))):=by omega
 have h48':¬ (281474976710656 < Builtin.nextslicecap (sLen + n) sCap * i.bytes):=by omega
 have h48i:¬ (281474976710656 < (n:Int) * (i.bytes:Int)):=by
   rw [← Int.natCast_mul]
   omega
 have hneg:¬ ((n:Int) < 0):=by omega
 have hns:¬ (n * i.size=0):=Nat.mul_ne_zero (by omega) (by omega)
 have hfo:=run_firstCells_some (P:=P) w.drew i.size sLen b sLen sCap olds hlo (by simpa using holds)
 simp [Builtin.append_,run_underlying ht,run_underlying htn,sizeOf,typeInfo,zeroValue,hi,hz,asInt,asIntOf,hw,hn,hneg,hns,h63',h48',h48i,Question.forced,hfo,newRow,grownCap]
theorem Z8t {fs : List (Option α)} {n m s k d2 tn : Nat} {kn : IntKind} {xs : List α} (hT : TE P t e dk bytes) (htn : P.underlying tn = some (.int kn)) (hn : n = xs.length) (hfs : n ≤ fs.length) (hm : 0 < m) (hk : k < n + m) (hb : (n + m) * bytes ≤ 140737488355328) (hxs : ∀ (i : Nat) (x : α), xs[i]? = some x → fs[i]? = some (some x))
   (hop:o.op=.call { callee:=.builtin .append,args:=#[x,y],argTypes:=#[t,tn] }) (hd:o.dst=some d) (hx:Opd uses x (Zpj dk e j 0 n)) (hy:Opd uses y (pInt .i64 (m:Int))) (hs:Opd uses (.tmp s) (pOwn dk e j (some k) fs)) :
   OB P N o uses [(d,pOwn dk e d2 none (xs.map some ++ List.replicate m none))] [d2 + 1] :=
 Zhb hd fun a g hh=>by
   obtain ⟨b,cap,cur,hxv,hO1,_⟩:=hx a g hh
   obtain ⟨b',cap',cur',hsv,hO,hc⟩:=hs a g hh
   obtain rfl:=hc k rfl
   obtain ⟨rfl,rfl,rfl⟩:=hO.same hO1 hT.sz
   obtain ⟨i,zz,hi,hz,hsz,hby,hzs⟩:=hT.info
   have hyv:=Zct.1 (hy a g hh)
   have hb0:(if cap=0 then (⟨b,0,none⟩:Addr) else ⟨b,0 * dk.sz,none⟩)=⟨b,0,none⟩:=by split <;> simp
   have hOl:=hO.len
   have hcl:cur.toList.length=cap * dk.sz:=by simpa using hO.sz
   have hlen:n + m ≤ 140737488355328:=Nat.le_trans (Nat.le_mul_of_pos_right _ hT.by0) hb
   have hol:(cur.toList.take (n * dk.sz)).length=n * dk.sz:=by rw [List.length_take,hcl];exact Nat.min_eq_left (Nat.mul_le_mul_right _ (by omega))
   have holds:∀ k u,(cur.toList.take (n * dk.sz))[k]?=some u → g.w.cell? ((⟨b,0,none⟩:Addr).add k)=some u:=fun k u hu=>by
     rw [Zdf]
     simp only [World.cell?,hO.heap,Nat.zero_add]
     rw [List.getElem?_take] at hu
     split at hu
     · simpa using hu
     · cases hu
   have hmb:m * bytes ≤ (n + m) * bytes:=Nat.mul_le_mul_right _ (by omega)
   have hr:=Ztc (P:=P) g.w t tn o.type e i zz .i64 kn hT.und htn hi hz ⟨b,0,none⟩ n cap (cur.toList.take (n * dk.sz)) (by rw [hol,hsz]) holds m hm (by rw [hsz];exact hT.sz) hk (by omega) (by rw [hby];omega) (growslice_fits hk (by rw [hby];exact hb))
   have hge:=grownCap_ge g.w (n + m) cap e
   have hmx:=grownCap_le_maxLen g.w (n + m) cap e (by simp only [maxLen];omega)
   obtain ⟨g', hw, hst, hO3⟩ := Zxy (dk := dk) (e := e) (g := g) (j := d2 + 1) (cur := (cur.toList.take (n * dk.sz)).toArray ++ Builtin.zeroCells zz.cells m ++ Builtin.zeroCells zz.cells (grownCap g.w (n + m) cap e - (n + m))) (cap := grownCap g.w (n + m) cap e) (fs := xs.map some ++ List.replicate m none) (by omega) (by simp; omega) hmx (by
       simp only [Array.size_append,List.size_toArray,Zn9,hzs,hol,← Nat.add_mul]
       congr 1;omega) (fun k u hk=>by
       rw [List.getElem?_append] at hk
       split at hk
       · rename_i h1
         rw [List.length_map] at h1
         rw [List.getElem?_map] at hk
         obtain ⟨u',hu',he'⟩:=Option.map_eq_some_iff.1 hk
         obtain rfl:=Option.some.inj he'
         simp only [Array.toList_append,List.append_assoc]
         rw [Zew (by rw [hol];exact Zke (by omega))]
         have e2:seg (cur.toList.take (n * dk.sz)) (k * dk.sz) dk.sz=seg cur.toList (k * dk.sz) dk.sz:=by
           have:=Zke (sz:=dk.sz) (show k < n by omega)
           simp only [seg,List.drop_take,List.take_take]
           congr 1;omega
         rw [e2]
         exact hO.known k u' (hxs k u' hu')
       · rw [List.getElem?_replicate] at hk
         split at hk <;> simp at hk)
   refine ⟨_,g',?_,hst,_,_,_,rfl,hO3,fun k hk=>by cases hk⟩
   rw [show (xs.map some ++ List.replicate m (none:Option α)).length=n + m by simp;omega]
   rw [hb0,Nat.sub_zero] at hxv
   simp [execOp,hop,resolve,invoke,builtin,hxv,hyv,hr,hw]
theorem Z95 {fs : List (Option α)} {off len s k : Nat} (hT : TE P t e dk bytes) (hz1 : ((P.info? e).bind (·.zero)).map (fun z => z.cells.all (·.oneCell')) = some true) (hfs : fs.length ≤ off) (hk : off + len ≤ k)
   (hop:o.op=.call { callee:=.builtin .clear,args:=#[x],argTypes:=#[t] }) (hd:o.dst=none) (hx:Opd uses x (Zpj dk e j off len)) (hs:Opd uses (.tmp s) (pOwn dk e j (some k) fs)):OB P N o uses [(s,pOwn dk e j (some k) fs)] [j + 1]:=by
 intro a g K Q hN hdN hu hK
 obtain ⟨b,cap,cur,hxv,hO1,_⟩:=hx a g hu
 obtain ⟨b',cap',cur',hsv,hO,hc⟩:=hs a g hu
 obtain rfl:=hc k rfl
 obtain ⟨rfl,rfl,rfl⟩:=hO.same hO1 hT.sz
 obtain ⟨i,zz,hi,hz,hsz,hby,hzs⟩:=hT.info
 have hcl:cur.toList.length=cap * dk.sz:=by simpa using hO.sz
 have hone:∀ u ∈ (Builtin.zeroCells zz.cells len).toList,u.oneCell'=true:=by
   simp only [hi,hz,Option.bind_some,Option.map_some,Option.some.injEq] at hz1
   intro u hu
   simp only [Builtin.zeroCells,Array.toList_map,List.mem_map] at hu
   obtain ⟨m,hm,rfl⟩:=hu
   have h0:0 < zz.cells.size:=by rw [hzs];exact hT.sz
   have hlt:m % zz.cells.size < zz.cells.size:=Nat.mod_lt _ h0
   rw [getElem!_pos zz.cells _ hlt]
   exact Array.all_eq_true.1 hz1 _ hlt
 have hcl2:(cur.toList.take (off * dk.sz) ++ (Builtin.zeroCells zz.cells len).toList ++ cur.toList.drop (off * dk.sz + (Builtin.zeroCells zz.cells len).toList.length)).toArray=(Zq cur.toList (off * dk.sz) (Builtin.zeroCells zz.cells len).toList).toArray:=rfl
 have hzl:(Builtin.zeroCells zz.cells len).toList.length=len * dk.sz:=by rw [Array.length_toList,Zn9,hzs]
 have hfit:off * dk.sz + (Builtin.zeroCells zz.cells len).toList.length ≤ cur.toList.length:=by rw [hzl,hcl,← Nat.add_mul];exact Nat.mul_le_mul_right _ hk
 let cs:=(Zq cur.toList (off * dk.sz) (Builtin.zeroCells zz.cells len).toList).toArray
 have hr:(Builtin.clear_ #[t] o.type #[a.eval x]).run P g.w=.ok (.tuple #[]) (g.w.setRow b cs):=by
   rw [hxv]
   rcases Nat.eq_zero_or_pos len with rfl | hpos
   · have hs0 : cs = cur := by
       show (Zq cur.toList (off * dk.sz) (Builtin.zeroCells zz.cells 0).toList).toArray=cur
       have:(Builtin.zeroCells zz.cells 0).toList=[]:=by simp [Builtin.zeroCells]
       rw [this];simp [Zq]
     rw [hs0,setRow_self g.w b cur e (0,0) hO.heap]
     by_cases he:cap=off <;> simp [Builtin.clear_,run_underlying hT.und]
   · have he:¬ cap=off:=by omega
     rw [if_neg he]
     have hst:=run_storeCells_at P b (off * dk.sz) e (Builtin.zeroCells zz.cells len).toList 0 cur g.w hO.heap (by rw [Nat.add_zero];simpa using hfit) hone
     rw [Nat.add_zero] at hst
     obtain ⟨len,rfl⟩:∃ m,len=m + 1:=⟨len - 1,by omega⟩
     simp [Builtin.clear_,run_underlying hT.und,zeroValue,typeInfo,hi,hz]
     rw [hst];rfl
 have hr':(execOp a.eval o).run P g.w=.ok (.value (.tuple #[])) (g.w.setRow b cs):=by
   simp [execOp,hop,resolve,invoke,builtin,hr]
 unfold Oper.wp
 rw [hr']
 have hst:Step [j + 1] g (g.wr b cs hO.lt hO.npr (fun _=>False) (j + 1)):=Zns hO.own (.inr rfl) hO.npr
 refine hK _ (g.wr b cs hO.lt hO.npr (fun _=>False) (j + 1)) hst fun e he=>?_
 rw [List.mem_singleton.1 he]
 have hat:Act.at (a.put o.dst (.tuple #[])) s=Act.at a s:=by rw [hd];rfl
 rw [hat]
 refine ⟨b,cap,cs,hsv,⟨by rw [wr_w,Zdi];exact hO.lt,by simp [G.wr],fun b' hb' ho=>?_,by rw [wr_w];exact setRow_heap _ _ _ _ _ _ hO.heap,hO.len,hO.max,?_,fun i x hx=>?_,fun o=>by simp [G.wr]⟩,hc⟩
 · rw [wr_w,Zdi] at hb'
   simp only [G.wr] at ho
   split at ho
   · assumption
   · exact hO.uniq b' hb' ho
 · show (Zq cur.toList (off * dk.sz) (Builtin.zeroCells zz.cells len).toList).toArray.size=_
   rw [List.size_toArray,Zca hfit,hcl]
 · have hi:=(List.getElem?_eq_some_iff.1 hx).1
   have e2:seg cs.toList (i * dk.sz) dk.sz=seg cur.toList (i * dk.sz) dk.sz:=by
     show seg (Zq cur.toList (off * dk.sz) (Builtin.zeroCells zz.cells len).toList) (i * dk.sz) dk.sz=_
     exact Zg hfit (.inl (Zke (by omega)))
   rw [e2]
   exact dk.mono hst.le (hO.known i x hx)
end
section
variable {P:Program} {N:Nat} {o:Oper} {uses:Zbd} {d:Nat} {q:Pd} {x y z:Operand} {α:Type} {dk:Kd α} {t e:TypeId} {bytes j:Nat} {c:Option Nat}
theorem Z46 {w : World} {ps rs : Array TypeId} {A : Option Addr} {la ca lb cb : Nat} {B : Addr} {cur : Array Value} {i : TypeInfo} (hp : ps[0]? = some t) (ht : P.underlying t = some (.slice e)) (hi : P.info? e = some i)
   (hA:la=0 ∨ ∃ a c2 t2 fr,A=some a ∧ a.block ≠ B.block ∧ w.heap[a.block]?=some (.cells c2 t2 fr) ∧ c2.size ≠ 0) (hB:w.heap[B.block]?=some (.cells cur e (0,0))) (hc:cur.size ≠ 0) :
   (Extern.SlicesOverlaps.overlaps ps rs #[.slice A la ca,.slice (some B) lb cb]).run P w=.ok (.bool false) w:=by
 have hfb:∀ n,w.frozen? { block:=B.block,off:=n }=false:=fun n=>by simp [World.frozen?,hB]
 have hfb':w.frozen? B=false:=by simp [World.frozen?,hB]
 have hsb:w.shape? B.block=some (e,cur.size):=by simp [World.shape?,hB]
 obtain ⟨n,hn⟩:∃ n,cur.size=n + 1:=⟨cur.size - 1,by omega⟩
 rw [hn] at hsb
 change Sem.run P (α:=Value) (do
   let some t := ps[0]? | stuck "slices.overlaps: no parameter types"
   let .slice elem ← underlying t | stuck "slices.overlaps: slice type expected"
   let size ← sizeOf elem
   match A,(some B:Option Addr) with
   | some a,some b =>
     if la=0 ∨ lb=0 ∨ size=0 then pure (Value.bool false)
     else if a.block != b.block && (← frozen a) && (← frozen b) then unsupported .addressObserved
     else do
       if a.block != b.block then do
         noView a;noView b
         if ← mayBeOne a b then return Value.bool ((← choose (.extern "sameAddr.stringBytes" 2)) == 1)
       pure (Value.bool (a.block == b.block && a.off < b.off + lb * size && b.off < a.off + la * size))
   | _,_=>pure (Value.bool false)) w=_
 rcases hA with rfl | ⟨a,c2,t2,fr,rfl,hne,ha,hc2⟩
 · cases A <;> simp [hp,run_underlying ht,sizeOf,typeInfo,hi]
 · have hnb:(a.block != B.block)=true:=by simpa using hne
   have hnb':(a.block == B.block)=false:=by simpa using hne
   obtain ⟨n2,hn2⟩:∃ n,c2.size=n + 1:=⟨c2.size - 1,by omega⟩
   have hsa:w.shape? a.block=some (t2,n2 + 1):=by simp [World.shape?,ha,hn2]
   by_cases h0:la=0 ∨ lb=0 ∨ i.size=0
   · simp [hp,run_underlying ht,sizeOf,typeInfo,hi,h0]
   · cases hfa : w.frozen? a <;> cases hfe : w.frozen? { block := a.block, off := n2 + 1 } <;>
       simp [hp,run_underlying ht,sizeOf,typeInfo,hi,h0,hnb,hnb',frozen,noView,viewAt,mayBeOne,stringish,shape,Sem.run,hsa,hsb,hfa,hfe,hfb,hfb']
theorem Z6m {f : FuncId} {fs : List (Option α)} {off len s : Nat} {vs : List α} {ps rs : Array TypeId} {ty : Array TypeId} (hT : TE P t e dk bytes) (hp : ps[0]? = some t) (he : Ext P f (Extern.SlicesOverlaps.overlaps ps rs)) (hfs : 0 < fs.length) (hop : o.op = .call { callee := .value (.func f), args := #[x, y], argTypes := ty }) (hd : o.dst = some d)
   (hx:Opd uses x (dk.sl.pd vs)) (hy:Opd uses y (Zpj dk e j off len)) (hs:Opd uses (.tmp s) (pOwn dk e j c fs)):OB P N o uses [(d,Zbm false)] [] :=
 Zcg hd fun a g hh=>by
   obtain ⟨A,c2,hx1,hx2,hx3,hxr⟩:=Zow (hx a g hh)
   obtain ⟨b,cap,cur,hyv,hO,hcap⟩:=hy a g hh
   obtain ⟨b',cap',cur',hsv,hO',_⟩:=hs a g hh
   obtain ⟨rfl,rfl,rfl⟩:=hO.same hO' hT.sz
   obtain ⟨i,zz,hi,hz,hsz,hby,hzs⟩:=hT.info
   have hl:=hO'.len
   have hcs:cur'.size ≠ 0:=by rw [hO'.sz];exact Nat.mul_ne_zero (by omega) (Nat.ne_of_gt hT.sz)
   have hr:(Extern.SlicesOverlaps.overlaps ps rs #[a.eval x,a.eval y]).run P g.w=.ok (.bool false) g.w:=by
     rw [hx1,hyv]
     have hblk:(if cap'=off then (⟨b',0,none⟩:Addr) else ⟨b',off * dk.sz,none⟩).block=b':=by split <;> rfl
     refine Z46 hp hT.und hi ?_ (by rw [hblk];exact hO'.heap) hcs
     rw [hblk]
     rcases hxr with rfl | ⟨b2,o2,news,rfl,hnl,hnc,hnk⟩
     · exact .inl rfl
     · rcases Nat.eq_zero_or_pos vs.length with h0 | hpos
       · exact .inl h0
       · right
         have h1:0 < news.length:=by rw [hnl];exact Nat.mul_pos hpos hT.sz
         obtain ⟨hpr,hcell⟩:=hnc 0 _ (List.getElem?_eq_getElem h1)
         have hne:b2 ≠ b':=fun h=>hO'.npr _ (by rw [← h];exact hpr)
         obtain ⟨cc,tt,fr,hh2,hcs2⟩:∃ cc tt fr,g.w.heap[b2]?=some (.cells cc tt fr) ∧ cc.size ≠ 0:=by
           cases hob:g.w.heap[b2]? with
           | none=>simp [World.cell?,hob] at hcell
           | some ob=>cases ob with
             | cells cc tt fr =>
               refine ⟨cc,tt,fr,rfl,fun h0=>?_⟩
               have:cc=#[]:=Array.eq_empty_of_size_eq_zero h0
               subst this
               simp [World.cell?,hob] at hcell
             | _=>simp [World.cell?,hob] at hcell
         exact ⟨⟨b2,o2,none⟩,cc,tt,fr,rfl,hne,hh2,hcs2⟩
   exact ⟨.bool false,by simp [execOp,hop,resolve,Zqg,Deferred.ofValue,invoke,Z7d he,hr],Zft _ g⟩
def Z2y (dk:Kd α) (e:TypeId) (xs:List α) (g:G) (v:Value) (D:Nat → Prop):Prop :=
 (xs=[] ∧ ∃ A,v=.slice A 0 0) ∨ ∃ b cap cur,v=.slice (some ⟨b,0,none⟩) xs.length cap ∧ D b ∧ b < g.w.heap.size ∧ g.w.heap[b]?=some (.cells cur e (0,0)) ∧ xs.length ≤ cap ∧ cap ≤ maxLen ∧ cur.size=cap * dk.sz ∧ (∀ (i:Nat) (x:α),xs[i]?=some x → dk.K g x (seg cur.toList (i * dk.sz) dk.sz)) ∧ ∀ o,¬ g.pr b o
def pArr (dk:Kd α) (e:TypeId) (j:Nat) (xs:List α):Pd:=⟨fun g u=>(xs=[] ∧ ∃ A,u=.slice A 0 0) ∨ ∃ b cap cur,u=.slice (some ⟨b,0,none⟩) xs.length cap ∧ OwnAt dk e (j + 1) (xs.map some) g b cap cur,[j + 1],fun s hd h=>h.imp id fun ⟨b,cap,cur,e,h⟩=>⟨b,cap,cur,e,h.st s (hd _ (by simp)) (by omega)⟩⟩
def Zwh (P:Program) (f:FuncId) (A:List Pd) (dk:Kd α) (e:TypeId) (xs:List α):Prop:=∀ (g:G) (args:List Value),ArgsOk A g args →
 Calls P f args.toArray g.w (fun en w'=>∃ g' v,en=.returned v ∧ w'=g'.w ∧ Zt8 (fun _=>False) g g' ∧ Z2y dk e xs g' v (fun b=>g.w.heap.size ≤ b))
def Z3c (P:Program) (f:FuncId) (dk:Kd α) (e:TypeId) (xs:List α) (A:List Pd) (q:Pd):Prop:=∀ (g:G) (v:Value) (D:Nat → Prop) (args:List Value),Z2y dk e xs g v D → ArgsOk A g args →
 Calls P f (v :: args).toArray g.w (fun en w'=>∃ g' u,en=.returned u ∧ w'=g'.w ∧ Zt8 D g g' ∧ q.p g' u)
open Classical in
theorem Zpr {f:FuncId} {xs:List α} {xo:List Operand} {A:List Pd} {ty:Array TypeId} (he:Zk P f) (hok:Zwh P f A dk e xs) (hop:o.op=.call { callee:=.value (.func f),args:=xo.toArray,argTypes:=ty }) (hd:o.dst=some d) (hargs:OpdL uses xo A):OB P N o uses [(d,pArr dk e j xs)] [j + 1]:=by
 intro a g K Q hN hdN hu hK
 have hr:(execOp a.eval o).run P g.w=.ok (.enter f (xo.map a.eval).toArray) g.w:=by
   simp [execOp,hop,resolve,Act.eval,Deferred.ofValue,invoke,Zh1 he]
 unfold Oper.wp
 rw [hr]
 show Calls P f _ g.w _
 refine Calls.mono (hok g _ (hargs.ok hu)) ?_
 rintro en w' ⟨g',v,rfl,rfl,hS,hA⟩
 have fin:∀ (o1:Nat → Nat),(∀ b,b < g.w.heap.size → o1 b=if g.own b=j + 1 then 0 else g.own b) → (∀ b,g.w.heap.size ≤ b → o1 b=0 ∨ o1 b=j + 1) → Step [j + 1] g ⟨g'.w,g'.pr,o1,g'.hpr,g'.gl⟩:=fun o1 h1 h2 =>
   ⟨⟨hS.le.size,hS.le.pr,hS.le.cell,hS.le.blk,hS.le.dr⟩,hS.os,hS.tape,hS.output,fun b hb hn=>⟨(hS.same b hb id).1,(hS.same b hb id).2,by show o1 b=_;rw [h1 b hb,if_neg (by simpa using hn)]⟩,
     fun b k1 k2=>(h2 b k1).imp id (fun h=>by show o1 b ∈ _;rw [h];simp),fun b hb hn=>.inl (by show o1 b=0;rw [h1 b hb,if_pos (by simpa using hn)])⟩
 rcases hA with ⟨rfl,A0,rfl⟩ | ⟨b,cap,cur,rfl,hD,h1,h2,h3,h4,h5,h6,h7⟩
 · refine hK _ ⟨g'.w,g'.pr,fun b=>if b < g.w.heap.size then (if g.own b=j + 1 then 0 else g.own b) else 0,g'.hpr,g'.gl⟩ (fin (fun b=>if b < g.w.heap.size then (if g.own b=j + 1 then 0 else g.own b) else 0) (fun b hb=>if_pos hb) (fun b hb=>.inl (if_neg (by omega)))) fun e' he'=>?_
   rw [List.mem_singleton.1 he',hd,Zed _ (by rw [hN];exact hdN d hd)]
   exact .inl ⟨rfl,A0,rfl⟩
 · refine hK _ ⟨g'.w, g'.pr, fun c => if c < g.w.heap.size then (if g.own c = j + 1 then 0 else g.own c) else if c = b then j + 1 else 0, g'.hpr, g'.gl⟩ (fin _ (fun b hb => if_pos hb) (fun c hc => by
     show (if c < g.w.heap.size then _ else _)=0 ∨ _=j + 1
     rw [if_neg (by omega)];split <;> simp)) fun e' he'=>?_
   rw [List.mem_singleton.1 he',hd,Zed _ (by rw [hN];exact hdN d hd)]
   refine .inr ⟨b,cap,cur,rfl,⟨h1,?_,fun b' hb' ho=>?_,h2,by simpa using h3,h4,h5,fun i x hx=>?_,h7⟩⟩
   · show (if b < g.w.heap.size then _ else _)=_
     rw [if_neg (by omega),if_pos rfl]
   · have ho':(if b' < g.w.heap.size then (if g.own b'=j + 1 then 0 else g.own b') else if b'=b then j + 1 else 0)=j + 1:=ho
     split at ho'
     · split at ho'
       · omega
       · rename_i hne;exact absurd ho' hne
     · split at ho'
       · assumption
       · omega
   · rw [List.getElem?_map] at hx
     obtain ⟨y,hy,he''⟩:=Option.map_eq_some_iff.1 hx
     obtain rfl:=Option.some.inj he''
     exact dk.mono (g:=g') ⟨Nat.le_refl _,fun _ _ h=>h,fun _ _ _=>rfl,fun _ _=>rfl,Nat.le_refl _⟩ (h6 i y hy)
theorem Zto {f:FuncId} {xs:List α} {xo:List Operand} {A:List Pd} {ty:Array TypeId} (he:Zk P f) (hok:Z3c P f dk e xs A q) (hq:q.fp=[]) (hop:o.op=.call { callee:=.value (.func f),args:=(x :: xo).toArray,argTypes:=ty }) (hd:o.dst=some d) (hx:Opd uses x (pArr dk e j xs)) (hargs:OpdL uses xo A):OB P N o uses [(d,q)] [j + 1]:=by
 intro a g K Q hN hdN hu hK
 have hr:(execOp a.eval o).run P g.w=.ok (.enter f (a.eval x :: xo.map a.eval).toArray) g.w:=by
   simp [execOp,hop,resolve,Zqg,Deferred.ofValue,invoke,Zh1 he]
 unfold Oper.wp
 rw [hr]
 show Calls P f _ g.w _
 have hA:Z2y dk e xs g (a.eval x) (fun b=>g.own b=j + 1):=by
   rcases hx a g hu with h | ⟨b,cap,cur,h1,h2⟩
   · exact .inl h
   · exact .inr ⟨b,cap,cur,h1,h2.own,h2.lt,h2.heap,by simpa using h2.len,h2.max,h2.sz,fun i x hx=>h2.known i x (by rw [List.getElem?_map,hx];rfl),h2.npr⟩
 refine Calls.mono (hok g _ _ _ hA (hargs.ok hu)) ?_
 rintro en w' ⟨g',v,rfl,rfl,hS,hqv⟩
 let g2:G:=⟨g'.w,g'.pr,fun c=>if c < g.w.heap.size then g.own c else 0,g'.hpr,g'.gl⟩
 have hle:g'.le g2:=⟨Nat.le_refl _,fun _ _ h=>h,fun _ _ _=>rfl,fun _ _=>rfl,Nat.le_refl _⟩
 have hown:∀ c,g2.own c=if c < g.w.heap.size then g.own c else 0:=fun _=>rfl
 refine hK v g2 ⟨⟨hS.le.size,hS.le.pr,hS.le.cell,hS.le.blk,hS.le.dr⟩,hS.os,hS.tape,hS.output,fun c hc hn=>?_,fun c k1 k2=>.inl ?_,fun c hc hn=>.inr ?_⟩ fun e' he'=>?_
 · obtain ⟨k1,k2⟩:=hS.same c hc (by simpa using hn)
   exact ⟨k1,k2,by rw [hown,if_pos hc]⟩
 · rw [hown,if_neg (by omega)]
 · rw [hown,if_pos hc];exact hn
 · rw [List.mem_singleton.1 he',hd,Zed _ (by rw [hN];exact hdN d hd)]
   exact Pd.le hq hle rfl rfl rfl hqv
def Zx5 (dk:Kd α) (e:TypeId) (xs:List α) (g0:G) (v:Value) (g1:G):Prop:=Base g0 g1 ∧ Z2y dk e xs g1 v (fun b=>g0.w.heap.size ≤ b)
theorem Zzo {f : FuncId} {fn : Func} {cd : Code} {A : List Pd} {xs : List α} (hf : P.funcs[f]? = some fn) (hb : fn.body = some cd) (hn : fn.ntmps = N) (hAN : A.length ≤ N) (hA : Free A)
   (h:∀ (a:Act) (g:G),(∀ b,g.own b=0) → St N (Zme A 0) a g → Base g g → cd.wp P (bodyPost P fn (FinP (Zx5 dk e xs g))) a g.w):Zwh P f A dk e xs:=by
 intro g args hargs
 let g0:G:=⟨g.w,g.pr,fun _=>0,g.hpr,g.gl⟩
 have hle:g.le g0:=⟨Nat.le_refl _,fun _ _ h=>h,fun _ _ _=>rfl,fun _ _=>rfl,Nat.le_refl _⟩
 have hst:St N (Zme A 0) { tmps:=args.toArray ++ Array.replicate (fn.ntmps - args.toArray.size) undef,defers:=[] } g0:=by
   refine ⟨?_,rfl,?_⟩
   · have:=hargs.1
     simp [hn];omega
   · intro e he
     obtain ⟨i,h1,h2⟩:=Zp3 he
     have hi:i < args.length:=by rw [hargs.1];exact (List.getElem?_eq_some_iff.1 h2).1
     have hv:Act.at { tmps:=args.toArray ++ Array.replicate (fn.ntmps - args.toArray.size) undef,defers:=[] } e.1=args[i]:=by
       rw [h1,Nat.zero_add]
       simp only [Act.at,Array.getD_eq_getD_getElem?]
       rw [Array.getElem?_append,if_pos (by simpa using hi)]
       simp [hi]
     rw [hv]
     exact Pd.le (hA.at h2) hle rfl rfl rfl (hargs.2 i e.2 _ h2 (List.getElem?_eq_getElem hi))
 have hbase:Base g0 g0:=⟨.refl _,rfl,rfl,rfl,fun _ _ _=>⟨rfl,rfl,rfl⟩⟩
 refine Calls.mono (calls_of_wp hf hb (h _ g0 (fun _=>rfl) hst hbase)) ?_
 rintro en w' ⟨g1,v,rfl,rfl,hB,hv⟩
 exact ⟨g1,v,rfl,rfl,⟨⟨hB.le.size,hB.le.pr,hB.le.cell,hB.le.blk,hB.le.dr⟩,hB.os,hB.tape,hB.output,fun b hb _=>⟨(hB.same b hb rfl).1,(hB.same b hb rfl).2.1⟩⟩,hv⟩
theorem Z5v {fn:Func} {r:ResultVar} {v:Value} {xs:List α} {a:Act} {g g0:G} {L:Zbd} (hr:fn.results=#[r]) (h0:∀ b,g0.own b=0) (h:St N L a g) (hb:Base g0 g) (h1:Ziu P a g r v) (hq:(pOwn dk e j c (xs.map some)).p g v):bodyPost P fn (FinP (Zx5 dk e xs g0)) .ret a g.w:=by
 refine endP hr h h1 ⟨hb,?_⟩
 obtain ⟨b,cap,cur,e1,hO,_⟩:=hq
 refine .inr ⟨b,cap,cur,by rw [e1];simp,Nat.le_of_not_lt fun hlt=>?_,hO.lt,hO.heap,by simpa using hO.len,hO.max,hO.sz,fun i x hx=>hO.known i x (by rw [List.getElem?_map,hx];rfl),hO.npr⟩
 have:=(hb.same b hlt (h0 b)).2.2
 rw [hO.own] at this;omega
theorem Zxh {fn:Func} {r:ResultVar} {v:Value} {a:Act} {g g0:G} {L:Zbd} (hr:fn.results=#[r]) (h:St N L a g) (hb:Base g0 g) (h1:Ziu P a g r v) (hq:∃ A,v=.slice A 0 0):bodyPost P fn (FinP (Zx5 dk e [] g0)) .ret a g.w:=endP hr h h1 ⟨hb,.inl ⟨rfl,hq⟩⟩
theorem Zbio {xs:List α} {g g0:G} {b cap:Nat} {cur:Array Value} (hb:Base g0 g) (hO:OwnAt dk e (j + 1) (xs.map some) g b cap cur):∃ g',g'.w=g.w ∧ Base g0 g' ∧ (dk.sl.pd xs).p g' (.slice (some ⟨b,0,none⟩) xs.length cap):=by
 let g':G:=⟨g.w,fun b' o=>g.pr b' o ∨ b'=b,g.own,fun b' o h=>h.elim (g.hpr b' o) (fun h=>by rw [h];exact hO.lt),g.gl.le (fun _ _ h=>.inl h) (fun _ _ _=>rfl)⟩
 have hle:g.le g':=⟨Nat.le_refl _,fun _ _ h=>.inl h,fun _ _ _=>rfl,fun _ _=>rfl,Nat.le_refl _⟩
 have hl:=hO.len
 rw [List.length_map] at hl
 have hm:=hO.max
 refine ⟨g',rfl,⟨hb.le.trans hle,hb.os,hb.tape,hb.output,fun c hc h0=>?_⟩,Kd.sl_V.2 ⟨_,cap,rfl,hl,by simp only [maxLen] at hm;omega,.inr ⟨b,0,rfl,fun i x hx=>?_⟩⟩⟩
 · obtain ⟨k1,k2,k3⟩:=hb.same c hc h0
   refine ⟨k1,?_,k3⟩
   have hcb:c ≠ b:=fun h=>by rw [h,hO.own] at k3;omega
   funext o
   show (g.pr c o ∨ c=b)=_
   rw [← k2];simp [hcb]
 · refine ⟨_,dk.mono hle (hO.known i x (by rw [List.getElem?_map,hx];rfl)),fun k u hk=>⟨.inr rfl,?_⟩⟩
   simp only [seg,List.getElem?_take,List.getElem?_drop] at hk
   split at hk
   · show g.w.cell? _=_
     simp only [World.cell?,hO.heap]
     simpa using hk
   · cases hk
def Z3z (g0:G) (q:Pd) (v:Value) (g1:G):Prop:=Base g0 g1 ∧ q.p g1 v
theorem Z5m {f : FuncId} {fn : Func} {cd : Code} {A : List Pd} {xs : List α} (hf : P.funcs[f]? = some fn) (hb : fn.body = some cd) (hn : fn.ntmps = N) (hAN : A.length + 1 ≤ N) (hA : Free A)
   (h0:xs=[] → ∀ (a:Act) (g:G) (A0:Option Addr),St N ((0,pEq (.slice A0 0 0)) :: Zme A 1) a g → Base g g → cd.wp P (bodyPost P fn (FinP (Z3z g q))) a g.w)
   (h:∀ (a:Act) (g:G) (cap:Nat),xs.length ≤ cap → cap ≤ maxLen → St N ((0,pOwn dk e 0 (some cap) (xs.map some)) :: Zme A 1) a g → Base g g → cd.wp P (bodyPost P fn (FinP (Z3z g q))) a g.w):Z3c P f dk e xs A q:=by
 intro g v D args hv hargs
 have hlen:=hargs.1
 have hat:∀ (i:Nat) (u:Value),(v :: args)[i]?=some u → Act.at { tmps:=(v :: args).toArray ++ Array.replicate (fn.ntmps - (v :: args).toArray.size) undef,defers:=[] } i=u:=fun i u hi=>by
   have hlt:=(List.getElem?_eq_some_iff.1 hi).1
   simp only [Act.at,Array.getD_eq_getD_getElem?]
   rw [Array.getElem?_append,if_pos (by simpa using hlt)]
   have hi':((v :: args).toArray)[i]?=some u:=by rw [List.getElem?_toArray];exact hi
   rw [hi'];rfl
 have hrest:∀ (g0:G),g.le g0 → g0.w=g.w → Zeh (Zme A 1) { tmps:=(v :: args).toArray ++ Array.replicate (fn.ntmps - (v :: args).toArray.size) undef,defers:=[] } g0:=fun g0 hle hw e' he'=>by
   obtain ⟨i,e1,e2⟩:=Zp3 he'
   have hi:i < args.length:=by rw [hlen];exact (List.getElem?_eq_some_iff.1 e2).1
   rw [hat e'.1 args[i] (by rw [e1,Nat.add_comm];exact List.getElem?_eq_getElem hi)]
   exact Pd.le (hA.at e2) hle (by rw [hw]) (by rw [hw]) (by rw [hw]) (hargs.2 i e'.2 _ e2 (List.getElem?_eq_getElem hi))
 rcases hv with ⟨hx0,A0,rfl⟩ | ⟨b,cap,cur,rfl,hD,h1,h2,h3,h4,h5,h6,h7⟩
 · let g0:G:=⟨g.w,g.pr,fun _=>0,g.hpr,g.gl⟩
   have hle:g.le g0:=⟨Nat.le_refl _,fun _ _ h=>h,fun _ _ _=>rfl,fun _ _=>rfl,Nat.le_refl _⟩
   refine Calls.mono (calls_of_wp hf hb (h0 hx0 _ g0 A0 ⟨by simp [hn];omega,rfl,fun e' he'=>?_⟩ ⟨.refl _,rfl,rfl,rfl,fun _ _ _=>⟨rfl,rfl,rfl⟩⟩)) ?_
   · rcases List.mem_cons.1 he' with rfl | he'
     · exact hat 0 _ rfl
     · exact hrest g0 hle rfl e' he'
   · rintro en w' ⟨g1,u,rfl,rfl,hB,hq⟩
     exact ⟨g1,u,rfl,rfl,⟨⟨hB.le.size,hB.le.pr,hB.le.cell,hB.le.blk,hB.le.dr⟩,hB.os,hB.tape,hB.output,fun b hb _=>⟨(hB.same b hb rfl).1,(hB.same b hb rfl).2.1⟩⟩,hq⟩
 · let g0:G:=⟨g.w,g.pr,fun c=>if c=b then 1 else 0,g.hpr,g.gl⟩
   have hle:g.le g0:=⟨Nat.le_refl _,fun _ _ h=>h,fun _ _ _=>rfl,fun _ _=>rfl,Nat.le_refl _⟩
   refine Calls.mono (calls_of_wp hf hb (h _ g0 cap h3 h4 ⟨by simp [hn];omega,rfl,fun e' he'=>?_⟩ ⟨.refl _,rfl,rfl,rfl,fun _ _ h=>⟨rfl,rfl,h⟩⟩)) ?_
   · rcases List.mem_cons.1 he' with rfl | he'
     · show (pOwn dk e 0 (some cap) (xs.map some)).p g0 _
       rw [hat 0 _ rfl]
       refine ⟨b,cap,cur,by simp,⟨h1,if_pos rfl,fun b' _ ho=>?_,h2,by simpa using h3,h4,h5,fun i x hx=>?_,h7⟩,fun k hk=>Option.some.inj hk⟩
       · have:(if b'=b then 1 else 0)=1:=ho
         split at this
         · assumption
         · omega
       · rw [List.getElem?_map] at hx
         obtain ⟨y,hy,he''⟩:=Option.map_eq_some_iff.1 hx
         obtain rfl:=Option.some.inj he''
         exact dk.mono hle (h6 i y hy)
     · exact hrest g0 hle rfl e' he'
   · rintro en w' ⟨g1,u,rfl,rfl,hB,hq⟩
     refine ⟨g1,u,rfl,rfl,⟨⟨hB.le.size,hB.le.pr,hB.le.cell,hB.le.blk,hB.le.dr⟩,hB.os,hB.tape,hB.output,fun c hc hn'=>?_⟩,hq⟩
     have:=hB.same c hc (by show (if c=b then 1 else 0)=0;rw [if_neg (fun h=>hn' (by rw [h];exact hD))])
     exact ⟨this.1,this.2.1⟩
theorem Zsw {fn:Func} {r:ResultVar} {v:Value} {xs:List α} {a:Act} {g g0:G} {L:Zbd} (hr:fn.results=#[r]) (h:St N L a g) (hb:Base g0 g) (h1:Ziu P a g r v) (hq:(pOwn dk e j c (xs.map some)).p g v):bodyPost P fn (FinP (Z3z g0 (dk.sl.pd xs))) .ret a g.w:=by
 obtain ⟨b,cap,cur,e1,hO,_⟩:=hq
 obtain ⟨g',hw,hB,hp⟩:=Zbio hb hO
 refine ⟨h.df,v,?_,g',v,rfl,hw.symm,hB,by rw [e1,List.length_map];exact hp⟩
 have h1':(Zgq a.tmps r).run P g.w=.ok v g.w:=h1
 simp [Zgl,hr,h1']
theorem Z9p {A:Option Addr} (hT:TE P t e dk bytes) (hop:o.op=.slice t x (some y) none none) (hx:Opd uses x (pEq (.slice A 0 0))) (hy:Opd uses y (pInt .i64 0)):OB P N o uses [] []:=by
 intro a g K Q hN hdN hu hK
 have hv:a.eval x=.slice A 0 0:=hx a g hu
 obtain ⟨i,zz,hi,hz,hsz,hby,hzs⟩:=hT.info
 have hb:∀ w cd,(Instr.sliceBound (a.eval y) 0 cd).run P w=.ok 0 w:=fun w cd=>Zi4 (Zct.1 (hy a g hu)) (Nat.le_refl _)
 have hr:∃ v,(execOp a.eval o).run P g.w=.ok (.value v) g.w:=by
   simp [execOp,hop,hv,Instr.sliceAt,Instr.slice,Instr.sliceBounds,run_underlying hT.und,hb,sizeOf,typeInfo,hi]
 obtain ⟨v,hr⟩:=hr
 unfold Oper.wp
 rw [hr]
 exact hK v g (.refl _ _) (fun e he=>by cases he)
theorem Zbe7 {A:Option Addr} {t:TypeId} (ht:P.underlying t=some (.slice e)) (hop:o.op=.call { callee:=.builtin .len,args:=#[x],argTypes:=#[t] }) (hd:o.dst=some d) (hx:Opd uses x (pEq (.slice A 0 0))):OB P N o uses [(d,pInt .i64 0)] [] :=
 Zcg hd fun a g hh=>by
   have hv:a.eval x=.slice A 0 0:=hx a g hh
   exact ⟨.int .i64 0,by simp [execOp,hop,resolve,invoke,builtin,hv,Builtin.len_,run_underlying ht,goInt],Zgz _ _ g⟩
theorem Z8g {A : Option Addr} {vs : List α} (hT : TE P t e dk bytes) (hop : o.op = .call { callee := .builtin .append, args := #[x, y], argTypes := #[t, t] }) (hd : o.dst = some d) (hx : Opd uses x (pEq (.slice A 0 0))) (hy : Opd uses y (dk.sl.pd vs)) (hpos : 0 < vs.length) (hl : vs.length * bytes ≤ 140737488355328) :
   OB P N o uses [(d,pOwn dk e j none (vs.map some))] [j + 1] :=
 Zhb hd fun a g hh=>by
   have hv:a.eval x=.slice A 0 0:=hx a g hh
   obtain ⟨A2,c2,hy1,hy2,hy3,hyr⟩:=Zow (hy a g hh)
   obtain ⟨i,zz,hi,hz,hsz,hby,hzs⟩:=hT.info
   have hlen:vs.length ≤ 140737488355328:=Nat.le_trans (Nat.le_mul_of_pos_right _ hT.by0) hl
   obtain ⟨b2,o2,news,rfl,hnl,hnc,hnk⟩:=hyr.resolve_left (fun h=>by rw [h] at hpos;simp at hpos)
   have hnl':news.length=vs.length * i.size:=by rw [hsz];exact hnl
   have hnews:∀ k u,news[k]?=some u → g.w.cell? ((⟨b2,o2,none⟩:Addr).add k)=some u:=fun k u hu=>by rw [Zdf];exact (hnc k u hu).2
   have hge:=grownCap_ge g.w vs.length 0 e
   have hmx:=grownCap_le_maxLen g.w vs.length 0 e (by simp only [maxLen];omega)
   have hr:(Builtin.append_ #[t,t] o.type #[.slice A 0 0,.slice (some ⟨b2,o2,none⟩) vs.length c2]).run P g.w=.ok (.slice (some ⟨g.w.heap.size,0,none⟩) vs.length (grownCap g.w vs.length 0 e)) (g.w.drew.alloc (.cells (news.toArray ++ Builtin.zeroCells zz.cells (grownCap g.w vs.length 0 e - vs.length)) e)):=by
     cases A with
     | none=>exact run_append_nil (P:=P) g.w t o.type e i zz hT.und hi hz ⟨b2,o2,none⟩ vs.length c2 news hnl' hnews hpos (by omega) (by rw [hby];omega)
     | some A =>
       have:=run_append_grow (P:=P) g.w t o.type e i zz hT.und hi hz A 0 0 [] (by simp) (fun j u hu=>by simp at hu) ⟨b2,o2,none⟩ vs.length c2 news hnl' hnews (by omega) (by omega) (growslice_fits (by omega) (by rw [hby,Nat.zero_add];exact hl))
       simpa using this
   obtain ⟨g', hw, hst, hO3⟩ := Zxy (dk := dk) (e := e) (g := g) (j := j + 1) (cur := news.toArray ++ Builtin.zeroCells zz.cells (grownCap g.w vs.length 0 e - vs.length)) (cap := grownCap g.w vs.length 0 e) (fs := vs.map some) (by omega) (by simpa using hge) hmx (by
       simp only [Array.size_append,List.size_toArray,Zn9,hzs,hnl,← Nat.add_mul]
       congr 1;omega) (fun k u hk=>by
       rw [List.getElem?_map] at hk
       obtain ⟨u',hu',he'⟩:=Option.map_eq_some_iff.1 hk
       obtain rfl:=Option.some.inj he'
       simp only [Array.toList_append]
       rw [Zew (by rw [hnl];exact Zke (List.getElem?_eq_some_iff.1 hu').1)]
       exact hnk _ _ hu')
   refine ⟨_,g',?_,hst,_,_,_,rfl,hO3,fun k hk=>by cases hk⟩
   rw [List.length_map]
   simp [execOp,hop,resolve,invoke,builtin,hv,hy1,hr,hw]
theorem Z7r (xs vs:List α) (k i:Nat) (hk:k ≤ xs.length):((xs.take k ++ vs ++ xs.drop k).map some)[i]?=if i < k then (xs[i]?).map some else if i < k + vs.length then (vs[i - k]?).map some else (xs[i - vs.length]?).map some:=by
 have h1:(xs.take k).length=k:=by simp;omega
 rw [List.getElem?_map,List.append_assoc,List.getElem?_append,h1]
 by_cases a:i < k
 · rw [if_pos a,if_pos a,List.getElem?_take,if_pos a]
 · rw [if_neg a,if_neg a,List.getElem?_append]
   by_cases b:i < k + vs.length
   · rw [if_pos b,if_pos (by omega)]
   · rw [if_neg b,if_neg (by omega),List.getElem?_drop]
     congr 2;omega
theorem ins1 {xs vs:List α} {k:Nat} (hk:k ≤ xs.length):over (over ((xs.take k).map some ++ List.replicate (xs.length + vs.length - k) none) k vs) (k + vs.length) (xs.drop k)=(xs.take k ++ vs ++ xs.drop k).map some:=by
 have hl:((xs.take k).map some ++ List.replicate (xs.length + vs.length - k) (none:Option α)).length=xs.length + vs.length:=by simp;omega
 apply List.ext_getElem?
 intro i
 rw [Znm (by rw [Zoz (by rw [hl];omega),hl];simp;omega),Znm (by rw [hl];omega),Z7r xs vs k i hk]
 have hd:(xs.drop k).length=xs.length - k:=by simp
 by_cases a:i < k
 · rw [if_pos (by omega),if_pos a,if_pos a,List.getElem?_append_left (by simp;omega),List.getElem?_map,List.getElem?_take,if_pos a]
 · by_cases b:i < k + vs.length
   · rw [if_pos b,if_neg a,if_pos b,if_neg a,if_pos b]
   · rw [if_neg b,if_neg a,if_neg b]
     by_cases c:i < xs.length + vs.length
     · rw [if_pos (by rw [hd];omega),List.getElem?_drop]
       rw [show k + (i - (k + vs.length))=i - vs.length by omega,if_neg a,if_neg b]
     · rw [if_neg (by rw [hd];omega),if_neg a,if_neg b,List.getElem?_eq_none (by rw [hl];omega),List.getElem?_eq_none (by omega)];rfl
theorem ins2 {xs vs:List α} {k:Nat} (hk:k ≤ xs.length):over (over (xs.map some ++ List.replicate (xs.length + vs.length - (xs.map some).length) none) (k + vs.length) (xs.drop k)) k vs=(xs.take k ++ vs ++ xs.drop k).map some:=by
 have hl:(xs.map some ++ List.replicate (xs.length + vs.length - (xs.map some).length) (none:Option α)).length=xs.length + vs.length:=by simp
 have hd:(xs.drop k).length=xs.length - k:=by simp
 apply List.ext_getElem?
 intro i
 rw [Znm (by rw [Zoz (by rw [hl,hd];omega),hl];omega),Znm (by rw [hl,hd];omega),Z7r xs vs k i hk]
 by_cases a:i < k
 · rw [if_pos a,if_pos (by omega),if_pos a,List.getElem?_append_left (by simp;omega),List.getElem?_map]
 · by_cases b:i < k + vs.length
   · rw [if_neg a,if_pos b,if_neg a,if_pos b]
   · rw [if_neg a,if_neg b,if_neg b,if_neg a,if_neg b]
     by_cases c:i < xs.length + vs.length
     · rw [if_pos (by rw [hd];omega),List.getElem?_drop]
       rw [show k + (i - (k + vs.length))=i - vs.length by omega]
     · rw [if_neg (by rw [hd];omega),List.getElem?_eq_none (by rw [hl];omega),List.getElem?_eq_none (by omega)];rfl
theorem Zwg {a b:Nat} (h:a + b ≤ 9223372036854775807):IntKind.i64.wrap ((a:Int) + (b:Int))=((a + b:Nat):Int):=by rw [Z0d (by omega) (by omega)];omega
theorem Zbiq {x:Nat} {n k:Nat} (hx:x=n) (h:k ≤ n) (hn:n ≤ 9223372036854775807):IntKind.i64.wrap ((x:Int) - (k:Int))=((n - k:Nat):Int):=by rw [Z0d (by omega) (by omega)];omega
theorem Zyx (xs:List α) (k:Nat):∀ (i:Nat) (x:α),(xs.take k)[i]?=some x → (xs.map some)[i]?=some (some x):=fun i x hx=>by
 rw [List.getElem?_take] at hx
 split at hx
 · rw [List.getElem?_map,hx];rfl
 · cases hx
theorem Z8u (xs:List α) (k:Nat):∀ (i:Nat) (x:α),(xs.drop k)[i]?=some x → (xs.map some)[k + i]?=some (some x):=fun i x hx=>by
 rw [List.getElem?_drop] at hx
 rw [List.getElem?_map,hx];rfl
theorem Zpb {f : FuncId} {Ps : List Par} {xs : List Operand} {hs : List Home} {ty : Array TypeId} {outs : Zbd} {S : List Nat} (he : Zk P f) (hok : FnB P f Ps q) (hop : o.op = .call { callee := .value (.func f), args := xs.toArray, argTypes := ty }) (hd : o.dst = some d) (hq : q.fp = []) (hx : OpB uses Ps xs hs) (hne : (hs.all fun h => h.1 != d) = true)
   (ho:outs=(d,q) :: Zk3 Ps hs) (hS:S=SB hs):OB P N o uses outs S:=by subst ho;subst hS;exact Zbdh he hok hop hd hq hne hx
theorem Zpq {f : FuncId} {C : List Pd} {Ps Qs : List Par} {xs : List Operand} {hs ks : List Home} {ty : Array TypeId} {outs : Zbd} {S : List Nat} (he : Zk P f) (hok : FnB P f (Ps ++ Qs) q) (hop : o.op = .call { callee := .value x, args := xs.toArray, argTypes := ty }) (hd : o.dst = some d) (hq : q.fp = []) (hf : Opd uses x (Z23 f C)) (hx : OpB uses Ps xs hs) (hc : CapB uses C Qs ks)
   (hne:((hs ++ ks).all fun h=>h.1 != d)=true) (hj:(hs.all fun h=>ks.all fun k=>k.2.2 != h.2.2)=true) (ho:outs=(d,q) :: Zk3 (Ps ++ Qs) (hs ++ ks)) (hS:S=SB (hs ++ ks)):OB P N o uses outs S:=by
 subst ho;subst hS;exact Zbai he hok hop hd hq hne hj hf hx hc
def pFun (P:Program) (Φ:FuncId → List Pd → Prop):Pd:=⟨fun g v=>∃ (f:FuncId) (C:List Pd) (caps:List Value),v=.func (.func f) #[] caps.toArray ∧ Zk P f ∧ Free C ∧ Φ f C ∧ ArgsOk C g caps ∧ (∀ q ∈ C,∀ (g g':G) (u:Value),g.le g' → q.p g u → q.p g' u),[],fun s _ ⟨f,C,caps,h1,h2,h3,h4,h5,h6⟩=>⟨f,C,caps,h1,h2,h3,h4,⟨h5.1,fun i qi u hq hu=>qi.st s (by rw [h3.at hq];intro j hj;cases hj) (h5.2 i qi u hq hu)⟩,h6⟩⟩
theorem Z8v {Φ : FuncId → List Pd → Prop} {Ps : List Par} {xs : List Operand} {hs : List Home} {ty : Array TypeId} {outs : Zbd} {S : List Nat} (hΦ : ∀ f C, Φ f C → FnB P f (Ps ++ C.map .val) q) (hop : o.op = .call { callee := .value x, args := xs.toArray, argTypes := ty }) (hd : o.dst = some d) (hq : q.fp = []) (hf : Opd uses x (pFun P Φ)) (hx : OpB uses Ps xs hs) (hne : (hs.all fun h => h.1 != d) = true)
   (ho:outs=(d,q) :: Zk3 Ps hs) (hS:S=SB hs):OB P N o uses outs S:=by
 subst ho;subst hS
 refine Zxd hq hd (fun h hh=>by simpa using List.all_eq_true.1 hne h hh) fun a g hu=>?_
 obtain ⟨f,C,caps,h1,h2,h3,h4,h5,_⟩:=hf a g hu
 refine ⟨f,Ps ++ C.map .val,xs.map a.eval ++ caps,hΦ f C h4,Zr9.symm,?_,?_⟩
 · simp [execOp,hop,resolve,h1,Deferred.ofValue,invoke,Zh1 h2]
 · have:=Ztq (hx.ok hu) (Z1n (a:=a) h5) (fun h _ k hk=>by cases hk)
   rwa [List.append_nil] at this
def pTab (P:Program) (n:Nat) (Φ:Nat → Option (FuncId → List Pd → Prop)):Pd:=⟨fun g v=>∃ cs:List Value,v=.agg cs.toArray ∧ cs.length=n ∧ ∀ (k:Nat) (F:FuncId → List Pd → Prop) (u:Value),Φ k=some F → cs[k]?=some u → (pFun P F).p g u,[],fun s hd ⟨cs,h1,h2,h3⟩=>⟨cs,h1,h2,fun k F u hF hu=>(pFun P F).st s (fun j hj=>by cases hj) (h3 k F u hF hu)⟩⟩
theorem Z6o {t e : TypeId} {n : Nat} {i : Int} {Φ : Nat → Option (FuncId → List Pd → Prop)} {F : FuncId → List Pd → Prop} (ht : P.underlying t = some (.array n e)) (hs : (P.info? e).map (·.size) = some 1) (hu : ∃ u, P.underlying e = some u ∧ (match u with | .struct _ | .array _ _ => true | _ => false) = false) (h0 : 0 ≤ i) (hF : Φ i.toNat = some F) (hn : i.toNat < n)
   (hop:o.op=.index t x y) (hd:o.dst=some d) (hx:Opd uses x (pTab P n Φ)) (hy:Opd uses y (pInt .i64 i)):OB P N o uses [(d,pFun P F)] [] :=
 Zcg hd fun a g hh=>by
   obtain ⟨cs,hv,hl,h3⟩:=hx a g hh
   have hyv:=Zct.1 (hy a g hh)
   have hlt:i.toNat < cs.length:=by omega
   obtain ⟨u,hu1,hu2⟩:=hu
   have hag:(isAgg e).run P g.w=.ok false g.w:=by
     unfold isAgg
     simp only [Sem.run_bind,run_underlying hu1,Result.andThen_ok]
     cases u <;> first | rfl | simp at hu2
   refine ⟨cs[i.toNat],?_,h3 i.toNat F _ hF (List.getElem?_eq_getElem hlt)⟩
   have h1:i < (n:Int):=by omega
   simp [execOp,hop,hv,hyv,Instr.index,asIntOf,run_underlying ht,h0,h1,Zg5 hs,part,hag,hlt]
def Kd.fnc:Kd Nat:=Kd.scalar (fun f=>.func (.func f) #[] #[]) fun _=>rfl
theorem Opd.fncv {f:Nat}:Opd uses (.func f) (Kd.fnc.pd f):=fun _ _ _=>Kd.scalar_V.2 rfl
theorem Zbgw {f:Nat} {g:G} {v:Value} (h:(Kd.fnc.pd f).p g v):(pClo f [] rfl).p g v:=by
 obtain ⟨cs,rfl,rfl⟩:=h
 exact ⟨[],rfl,Ze7⟩
theorem Znk {f:Nat}:∀ q ∈ [Kd.fnc.ptr f],∀ (g g':G) (u:Value),g.le g' → q.p g u → q.p g' u:=fun q hq g g' u hle h=>by
 rw [List.mem_singleton.1 hq] at h ⊢
 obtain ⟨b,o,cs,e,hk,hc⟩:=h
 exact ⟨b,o,cs,e,Kd.fnc.mono hle hk,hc.mono hle⟩
theorem Zbgb {Φ:FuncId → List Pd → Prop} {g g':G} {v:Value} (h:g.le g') (hv:(pFun P Φ).p g v):(pFun P Φ).p g' v:=by
 obtain ⟨f,C,caps,h1,h2,h3,h4,h5,h6⟩:=hv
 exact ⟨f,C,caps,h1,h2,h3,h4,⟨h5.1,fun i qi u hq hu=>h6 qi (List.mem_of_getElem? hq) _ _ _ h (h5.2 i qi u hq hu)⟩,h6⟩
abbrev TabT:=Nat → Option (FuncId → List Pd → Prop)
def Kd.tab (P:Program) (n:Nat) (hn:n ≠ 1):Kd TabT where
 sz:=n
 ag:=true
 K:=fun g Φ cs=>cs.length=n ∧ (∀ u ∈ cs,u.oneCell'=true) ∧ ∀ (k:Nat) (F:FuncId → List Pd → Prop) (u:Value),Φ k=some F → cs[k]?=some u → (pFun P F).p g u
 len:=fun h=>h.1
 one:=fun h=>h.2.1
 mono:=fun hle h=>⟨h.1,h.2.1,fun k F u hF hu=>Zbgb hle (h.2.2 k F u hF hu)⟩
 nag:=fun h=>by cases h
theorem Zbcb {n:Nat} {hn:n ≠ 1} {Φ:TabT} {g:G} {v:Value} (h:((Kd.tab P n hn).pd Φ).p g v):(pTab P n Φ).p g v:=by
 obtain ⟨cs,⟨h1,h2,h3⟩,rfl⟩:=h
 exact ⟨cs,rfl,h1,h3⟩
theorem Z5y {t e : TypeId} {n : Nat} {zero : Value} (hu : P.underlying t = some (.array n e)) (hz : (P.info? t).bind (·.zero) = some zero) (hs : (P.info? e).map (·.size) = some 1) {parts : Array (Nat × Value)} {cells : Array Value}
   (hf:Instr.fill (fun i=>some (i * 1,1)) zero.cells parts.toList=some cells) (w:World):(Instr.build t parts).run P w=.ok (.agg cells) w:=by
 obtain ⟨i,hi,hz⟩:=Option.bind_eq_some_iff.1 hz
 have hf':Instr.fill (fun i=>some (i,1)) zero.cells parts.toList=some cells:=by simpa using hf
 simp [Instr.build,zeroValue,typeInfo,hi,hz,run_underlying hu,Zg5 hs,hf']
end
section
variable {P:Program} {N:Nat} {o:Oper} {uses:Zbd} {d:Nat} {q:Pd} {x y z:Operand} {α β γ:Type} {dk:Kd α} {di:Kd β} {dj:Kd γ} {t e:TypeId} {bytes j:Nat}
theorem Zbdd {cs:List Value} {a n b m:Nat} (h:b + m ≤ n):seg (seg cs a n) b m=seg cs (a + b) m:=by
 simp only [seg,List.drop_take,List.drop_drop,List.take_take]
 congr 1
 omega
theorem Zbbb {cs ys:List Value} {a n b:Nat} (h:b + ys.length ≤ n) (hn:a + n ≤ cs.length):Zq cs a (Zq (seg cs a n) b ys)=Zq cs (a + b) ys:=by
 have hl:(seg cs a n).length=n:=by simp [seg];omega
 have hs:(Zq (seg cs a n) b ys).length=n:=by simp [Zq,hl];omega
 apply List.ext_getElem?
 intro i
 simp only [Zq,seg,List.append_assoc,List.getElem?_append,List.length_take,List.length_drop,List.length_append,List.getElem?_take,List.getElem?_drop]
 repeat' split
 all_goals (try omega)
 all_goals (first | rfl | (congr 1;omega))
def pEl (dk:Kd α) (e:TypeId) (j:Nat) (xs:List α) (i off:Nat) (di:Kd β) (u:β):Pd:=⟨fun g v=>∃ b cap cur,v=.pointer (some ⟨b,i * dk.sz + off,none⟩) ∧ OwnAt dk e (j + 1) (xs.map some) g b cap cur ∧ i < xs.length ∧ off + di.sz ≤ dk.sz ∧ di.K g u (seg cur.toList (i * dk.sz + off) di.sz),[j + 1],
 fun s hd ⟨b,cap,cur,e,h,h1,h2,h3⟩=>⟨b,cap,cur,e,h.st s (hd _ (by simp)) (by omega),h1,h2,di.mono s.le h3⟩⟩
theorem Z1o {k:IntKind} {xs:List α} {n:Int} {u:α} {ix:Operand} (ht:P.underlying t=some (.slice e)) (hs:(P.info? e).map (·.size)=some dk.sz) (hop:o.op=.indexAddr t x ix) (hd:o.dst=some d) (hx:Opd uses x (pArr dk e j xs)) (hi:Opd uses ix (pInt k n)) (h:idx xs n=some u):OB P N o uses [(d,pEl dk e j xs n.toNat 0 dk u)] [] :=
 Zcg hd fun a g hh=>by
   have hn:=Zct.1 (hi a g hh)
   unfold idx at h
   split at h
   · rename_i h0
     have hlt:=(List.getElem?_eq_some_iff.1 h).1
     rcases hx a g hh with ⟨rfl,_⟩ | ⟨b,cap,cur,hv,hO⟩
     · simp at h
     · have hb:0 ≤ n ∧ n < (xs.length:Int):=⟨h0,by omega⟩
       refine ⟨.pointer (some ⟨b,n.toNat * dk.sz,none⟩),by simp [execOp,hop,hv,hn,Instr.indexAt,asIntOf,run_underlying ht,hb,Zg5 hs,Zdf],b,cap,cur,rfl,hO,hlt,by omega,hO.known _ _ (by simp [h])⟩
   · cases h
theorem Zy4 {s i k off off2:Nat} {xs:List α} {u:β} {proj:β → γ} (hF:Fld P s k di dj proj) (ho:(match P.underlying s with | some (.struct F)=>(F[k]?).map (·.offset) | _=>none)=some off2) (hfit:off2 + dj.sz ≤ di.sz) (hop:o.op=.fieldAddr s x k) (hd:o.dst=some d) (hx:Opd uses x (pEl dk e j xs i off di u)):OB P N o uses [(d,pEl dk e j xs i (off + off2) dj (proj u))] [] :=
 Zcg hd fun a g hh=>by
   obtain ⟨b,cap,cur,hv,hO,h1,h2,h3⟩:=hx a g hh
   obtain ⟨fs,f,hu,hi,hsz,hag,h0,hK,_⟩:=hF.look
   have:f.offset=off2:=by simpa [hu,hi] using ho
   subst this
   refine ⟨.pointer (some ⟨b,i * dk.sz + off + f.offset,none⟩),by simp [execOp,hop,hv,Instr.fieldAt,Instr.sureAddr,run_underlying hu,hi,Zny hsz h0],b,cap,cur,by rw [Nat.add_assoc],hO,h1,by omega,?_⟩
   have:=hK g u _ h3
   rw [Zbdd hfit] at this
   rw [← Nat.add_assoc];exact this
theorem Zbdu {fs:List (Option α)} {g:G} {b cap:Nat} {cur:Array Value} (h:OwnAt dk e j fs g b cap cur) (i:Nat) (u:Value) (hu:cur.toList[i]?=some u):g.w.cell? ⟨b,i,none⟩=some u:=by
 simp only [World.cell?,h.heap]
 simpa using hu
theorem Zba6 {i off:Nat} {xs:List α} {u:β} (hT:Ty P t di) (hop:o.op=.load t x) (hd:o.dst=some d) (hx:Opd uses x (pEl dk e j xs i off di u)):OB P N o uses [(d,di.pd u)] [] :=
 Zcg hd fun a g hh=>by
   obtain ⟨b,cap,cur,hv,hO,h1,h2,hk⟩:=hx a g hh
   refine ⟨mkV di.ag (seg cur.toList (i * dk.sz + off) di.sz),?_,_,hk,rfl⟩
   have:=Zjr (b:=b) (of:=i * dk.sz + off) hT hk (fun k u hu=>by
     refine Zbdu hO (i * dk.sz + off + k) u ?_
     simp only [seg,List.getElem?_take,List.getElem?_drop] at hu
     split at hu
     · exact hu
     · cases hu)
   simp [execOp,hop,hv,Instr.loadAt,Instr.sureAddr,this]
theorem Zbf4 {g : G} {b cap i off : Nat} {xs : List α} {cur : Array Value} {u u' : α} {ys : List Value} (hO : OwnAt dk e (j + 1) (xs.map some) g b cap cur) (hi : xs[i]? = some u) (hfit : off + ys.length ≤ dk.sz) (hk : dk.K g u' (Zq (seg cur.toList (i * dk.sz) dk.sz) off ys)) :
   ∃ g':G,g'.w=g.w.setRow b (Zq cur.toList (i * dk.sz + off) ys).toArray ∧ Step [j + 1] g g' ∧ OwnAt dk e (j + 1) ((xs.set i u').map some) g' b cap (Zq cur.toList (i * dk.sz + off) ys).toArray:=by
 have hlt:=(List.getElem?_eq_some_iff.1 hi).1
 have hcl:cur.toList.length=cap * dk.sz:=by simpa using hO.sz
 have hlen:xs.length ≤ cap:=by simpa using hO.len
 have hin:i * dk.sz + dk.sz ≤ cap * dk.sz:=Zke (by omega)
 have hl:=dk.len hk
 obtain ⟨g',e1,e2,e3⟩:=Zv3 (ws:=[u']) (off:=i) (news:=Zq (seg cur.toList (i * dk.sz) dk.sz) off ys) hO (by rw [hl];simp) (by simp;omega) (fun k x hx=>by
   cases k with
   | zero =>
     simp at hx;subst hx
     rw [Nat.zero_mul]
     have:seg (Zq (seg cur.toList (i * dk.sz) dk.sz) off ys) 0 dk.sz=Zq (seg cur.toList (i * dk.sz) dk.sz) off ys:=by
       simp only [seg,List.drop_zero]
       rw [List.take_of_length_le]
       simp only [seg] at hl
       omega
     rw [this];exact hk
   | succ k=>simp at hx)
 rw [Zbbb hfit (by omega)] at e1 e3
 refine ⟨g',e1,e2,⟨e3.lt,e3.own,e3.uniq,e3.heap,by simpa using hO.len,e3.max,e3.sz,fun k x hx=>e3.known k x ?_,e3.npr⟩⟩
 rw [Znm (by simp;omega)]
 simp only [List.getElem?_map,List.getElem?_set,List.length_singleton] at hx ⊢
 by_cases h1:k < i
 · rw [if_pos h1]
   rw [if_neg (by omega)] at hx
   exact hx
 · rw [if_neg h1]
   by_cases h2:k < i + 1
   · have:k=i:=by omega
     subst this
     rw [if_pos h2]
     simp only [if_pos hlt,if_true] at hx
     simpa using hx
   · rw [if_neg h2]
     rw [if_neg (by omega)] at hx
     exact hx
theorem Z6r {i off : Nat} {xs : List α} {u : α} {v1 v2 : β} {u' : α} {g : G} {pv w : Value} (hT : Ty P t di) (hx : (pEl dk e j xs i off di v1).p g pv) (hz : (di.pd v2).p g w) (hi : xs[i]? = some u) (hw : ∀ g cs ys, dk.K g u cs → di.K g v2 ys → off + ys.length ≤ cs.length → dk.K g u' (Zq cs off ys)) :
   ∃ (b cap:Nat) (cur cur':Array Value) (g':G),pv=.pointer (some ⟨b,i * dk.sz + off,none⟩) ∧ OwnAt dk e (j + 1) (xs.map some) g b cap cur ∧ (storeVar t ⟨b,i * dk.sz + off,none⟩ w).run P g.w=.ok () g'.w ∧ Step [j + 1] g g' ∧ OwnAt dk e (j + 1) ((xs.set i u').map some) g' b cap cur':=by
 obtain ⟨b,cap,cur,rfl,hO,h1,h2,h3⟩:=hx
 obtain ⟨ys,hk,rfl⟩:=hz
 have hyl:=di.len hk
 have hcl:cur.toList.length=cap * dk.sz:=by simpa using hO.sz
 have hlen:xs.length ≤ cap:=by simpa using hO.len
 have hin:i * dk.sz + dk.sz ≤ cap * dk.sz:=Zke (by omega)
 have hku:=hO.known i u (by simp [hi])
 obtain ⟨g',e1,e2,e3⟩:=Zbf4 (u':=u') (ys:=ys) (off:=off) hO hi (by omega) (hw g _ _ hku hk (by rw [dk.len hku];omega))
 have hst:=Zgt (off:=i * dk.sz + off) hT hO.heap hk (by rw [hO.sz];omega)
 exact ⟨b,cap,cur,_,g',rfl,hO,by rw [e1];simpa [Zq] using hst,e2,e3⟩
end
section
variable {P:Program} {N:Nat} {o:Oper} {uses outs:Zbd} {S:List Nat} {d:Nat} {q:Pd} {x y z:Operand}
theorem OB.at (h:∀ (a:Act) g,Zeh uses a g → ∃ uses':Zbd,Zeh uses' a g ∧ OB P N o uses' outs S):OB P N o uses outs S :=
 fun a g K Q hN hdN hu hK=>let ⟨_,h1,h2⟩:=h a g hu;h2 a g K Q hN hdN h1 hK
theorem OB.frame {n:Nat} (h:OB P N o uses outs S) (hq:∀ j ∈ q.fp,j ∉ S) (hn:o.dst ≠ some n):OB P N o ((n,q) :: uses) ((n,q) :: outs) S:=by
 intro a g K Q hN hdN hu hK
 refine h a g K Q hN hdN (fun e he=>hu e (List.mem_cons_of_mem _ he)) fun v g' hs ho=>hK v g' hs fun e he=>?_
 rcases List.mem_cons.1 he with rfl | he
 · have:=hu (n,q) (List.mem_cons_self ..)
   have h2:=q.st hs hq this
   show q.p g' (Act.at (a.put o.dst v) n)
   rw [Zk4 v hn];exact h2
 · exact ho e he
def pAt (v:Value) (q:Pd):Pd:=⟨fun g _=>q.p g v,q.fp,fun s hd h=>q.st s hd h⟩
abbrev SlV:=Option Addr × Nat × Nat
def slv (s:SlV):Value:=.slice s.1 s.2.1 s.2.2
def Kd.raw:Kd SlV:=Kd.scalar slv fun _=>rfl
theorem Zzc {s:SlV} {g:G} {v:Value}:(Kd.raw.pd s).p g v ↔ v=slv s:=Kd.scalar_V
variable {α β γ δ ε:Type} {kV:Kd γ} {raw:α → SlV → γ} {lst:α → List β} {dk:Kd β} {di:Kd δ} {dj:Kd ε} {t e j jl:Nat} {xv:α}
def pBxO (kV:Kd γ) (raw:α → SlV → γ) (lst:α → List β) (dk:Kd β) (e j jl:Nat) (x:α):Pd:=⟨fun g v=>∃ s,(pBox kV j (raw x s)).p g v ∧ (pArr dk e jl (lst x)).p g (slv s),[j + 1,jl + 1],fun st hd ⟨s,h1,h2⟩=>⟨s,(pBox kV j (raw x s)).st st (fun k hk=>hd k (List.mem_cons.2 (.inl (List.mem_singleton.1 hk)))) h1,(pArr dk e jl (lst x)).st st (fun k hk=>hd k (List.mem_cons_of_mem _ hk)) h2⟩⟩
def pBxN (kV:Kd γ) (raw:α → SlV → γ) (j:Nat) (x:α):Pd:=⟨fun g v=>∃ s,(pBox kV j (raw x s)).p g v,[j + 1],fun st hd ⟨s,h1⟩=>⟨s,(pBox kV j (raw x s)).st st hd h1⟩⟩
def pPX (kV:Kd γ) (j off:Nat) (di:Kd δ) (u:δ):Pd:=⟨fun g v=>∃ w,(Zds kV j w off di u).p g v,[j + 1],fun st hd ⟨w,h⟩=>⟨w,(Zds kV j w off di u).st st hd h⟩⟩
def pPL (kV:Kd γ) (dk:Kd β) (e j jl off:Nat) (l:List β):Pd:=⟨fun g v=>∃ w s,(Zds kV j w off Kd.raw s).p g v ∧ (pArr dk e jl l).p g (slv s),[j + 1,jl + 1],fun st hd ⟨w,s,h1,h2⟩=>⟨w,s,(Zds kV j w off Kd.raw s).st st (fun k hk=>hd k (List.mem_cons.2 (.inl (List.mem_singleton.1 hk)))) h1,(pArr dk e jl l).st st (fun k hk=>hd k (List.mem_cons_of_mem _ hk)) h2⟩⟩
theorem Zt6 {off pt:Nat} {u:δ} (hT:Ty P t di) (hop:o.op=.load t (.tmp pt)) (hd:o.dst=some d) (hx:Opd uses (.tmp pt) (pPX kV j off di u)):OB P N o uses [(d,di.pd u)] [] :=
 OB.at fun a g hh=>by
   obtain ⟨w,h0⟩:=hx a g hh
   exact ⟨[(pt,Zds kV j w off di u)],fun en he=>by rw [List.mem_singleton.1 he];exact h0,Zmb hT hop hd .t0⟩
theorem Zu8 {s i off:Nat} {pt:Nat} {proj:γ → SlV} (hF:Fld P s i kV Kd.raw proj) (ho:(match P.underlying s with | some (.struct F)=>(F[i]?).map (·.offset) | _=>none)=some off) (hu:∀ sv,proj (raw xv sv)=sv) (hop:o.op=.fieldAddr s (.tmp pt) i) (hd:o.dst=some d) (hx:Opd uses (.tmp pt) (pBxO kV raw lst dk e j jl xv)):OB P N o uses [(d,pPL kV dk e j jl off (lst xv))] [] :=
 OB.at fun a g hh=>by
   obtain ⟨s0,h0,h2⟩:=hx a g hh
   refine ⟨[(N,pAt (slv s0) (pArr dk e jl (lst xv))),(pt,pBox kV j (raw xv s0))],fun en he=>?_,?_⟩
   · rcases List.mem_cons.1 he with rfl | he
     · exact h2
     · rw [List.mem_singleton.1 he];exact h0
   · intro a' g' K Q hN hdN hu' hK
     have hdl:=hdN d hd
     refine (OB.frame (n:=N) (q:=pAt (slv s0) (pArr dk e jl (lst xv))) (Zbf (c:=none) hF ho hop hd .t0) (fun _ _ h=>by cases h) (by rw [hd];intro h;exact absurd (Option.some.inj h) (Nat.ne_of_lt hdl))).weak (fun g2 a2 h en he=>?_) a' g' K Q hN hdN hu' hK
     rw [List.mem_singleton.1 he]
     have:=h (d,Zds kV j (raw xv s0) off Kd.raw (proj (raw xv s0))) (by simp)
     rw [hu] at this
     exact ⟨_,s0,this,h (N,pAt (slv s0) (pArr dk e jl (lst xv))) (by simp)⟩
theorem Zxs {off pt:Nat} {l:List β} (hT:Ty P t Kd.raw) (hop:o.op=.load t (.tmp pt)) (hd:o.dst=some d) (hx:Opd uses (.tmp pt) (pPL kV dk e j jl off l)):OB P N o uses [(d,pArr dk e jl l)] [] :=
 OB.at fun a g hh=>by
   obtain ⟨w,s0,h0,h2⟩:=hx a g hh
   refine ⟨[(N,pAt (slv s0) (pArr dk e jl l)),(pt,Zds kV j w off Kd.raw s0)],fun en he=>?_,?_⟩
   · rcases List.mem_cons.1 he with rfl | he
     · exact h2
     · rw [List.mem_singleton.1 he];exact h0
   · intro a' g' K Q hN hdN hu' hK
     have hdl:=hdN d hd
     refine (OB.frame (n:=N) (q:=pAt (slv s0) (pArr dk e jl l)) (Zmb hT hop hd .t0) (fun _ _ h=>by cases h) (by rw [hd];intro h;exact absurd (Option.some.inj h) (Nat.ne_of_lt hdl))).weak (fun g2 a2 h en he=>?_) a' g' K Q hN hdN hu' hK
     rw [List.mem_singleton.1 he]
     have h3:=Zzc.1 (h (d,Kd.raw.pd s0) (by simp))
     show (pArr dk e jl l).p g2 (Act.at a2 d)
     rw [h3]
     exact h (N,pAt (slv s0) (pArr dk e jl l)) (by simp)
theorem Zbbn {off s pt zt : Nat} {x' : α} {w0 : SlV} {l0 : SlV → Prop} (hT : Ty P t Kd.raw) (hop : o.op = .store t (.tmp pt) (.tmp zt)) (hd : o.dst = none) (hj : jl ≠ j) (hs : Opd uses (.tmp s) (pBxN kV raw j xv)) (hx : ∀ (a : Act) g, Zeh uses a g → ∃ w s1, (Zds kV j w off Kd.raw s1).p g (Act.at a pt)) (hz : Opd uses (.tmp zt) (pArr dk e jl (lst x')))
   (hw:∀ g cs s0 s1 ys,kV.K g (raw xv s0) cs → Kd.raw.K g s1 ys → off + ys.length ≤ cs.length ∧ kV.K g (raw x' s1) (Zq cs off ys)):OB P N o uses [(s,pBxO kV raw lst dk e j jl x')] [j + 1] :=
 OB.at fun a g hh=>by
   obtain ⟨s0,h0⟩:=hs a g hh
   obtain ⟨w,s1,h1⟩:=hx a g hh
   have h2:=hz a g hh
   have hsl:∃ s2:SlV,Act.at a zt=slv s2:=by
     rcases h2 with ⟨_,A,hv⟩ | ⟨b,cap,cur,hv,_⟩
     · exact ⟨(A,0,0),hv⟩
     · exact ⟨(_,_,_),hv⟩
   obtain ⟨s2,hv2⟩:=hsl
   refine ⟨[(N,pAt (slv s2) (pArr dk e jl (lst x'))),(s,pBox kV j (raw xv s0)),(pt,Zds kV j w off Kd.raw s1),(zt,Kd.raw.pd s2)],fun en he=>?_,?_⟩
   · rcases List.mem_cons.1 he with rfl | he
     · show (pArr dk e jl (lst x')).p g (slv s2)
       rw [← hv2];exact h2
     · rcases List.mem_cons.1 he with rfl | he
       · exact h0
       · rcases List.mem_cons.1 he with rfl | he
         · exact h1
         · rw [List.mem_singleton.1 he];exact Zzc.2 hv2
   · refine (OB.frame (n:=N) (q:=pAt (slv s2) (pArr dk e jl (lst x'))) (Zfd (c:=none) (v':=raw x' s2) hT hop hd .t0 (.tl .t0) (.tl (.tl .t0)) (fun g cs ys h k=>hw g cs s0 s2 ys h k)) (fun k hk hS=>?_) (by rw [hd];simp)).weak (fun g2 a2 h en he=>?_)
     · have a1:k=jl + 1:=List.mem_singleton.1 hk
       have a2:k=j + 1:=List.mem_singleton.1 hS
       omega
     · rw [List.mem_singleton.1 he]
       exact ⟨s2,h (s,pBox kV j (raw x' s2)) (by simp),h (N,pAt (slv s2) (pArr dk e jl (lst x'))) (by simp)⟩
end
section
variable {P:Program} {N:Nat} {o:Oper} {uses outs:Zbd} {S:List Nat} {d:Nat} {q:Pd} {x y z:Operand}
variable {α β γ δ ε:Type} {kV:Kd γ} {raw:α → SlV → γ} {lst:α → List β} {dk:Kd β} {di:Kd δ} {t e j jl:Nat} {xv:α}
theorem Zbgk {xs:List β} (ht:P.underlying t=some (.slice e)) (hop:o.op=.call { callee:=.builtin .len,args:=#[x],argTypes:=#[t] }) (hd:o.dst=some d) (hx:Opd uses x (pArr dk e jl xs)):OB P N o uses [(d,pInt .i64 (xs.length:Int))] [] :=
 Zcg hd fun a g hh=>by
   rcases hx a g hh with ⟨rfl,A,hv⟩ | ⟨b,cap,cur,hv,_⟩
   · exact ⟨.int .i64 0,by simp [execOp,hop,resolve,invoke,builtin,hv,Builtin.len_,run_underlying ht,goInt],Zgz _ _ g⟩
   · exact ⟨.int .i64 xs.length,by simp [execOp,hop,resolve,invoke,builtin,hv,Builtin.len_,run_underlying ht,goInt],Zgz _ _ g⟩
theorem Zbfy {xs:List β} {n:Int} {u:β} (h:idx xs n=some u):xs[n.toNat]?=some u:=by
 unfold idx at h
 split at h
 · exact h
 · cases h
theorem Z6l {s i off : Nat} {u u' : β} {v1 v2 : δ} {x' : α} (hT : Ty P t di) (hop : o.op = .store t x z) (hd : o.dst = none) (hj : j ≠ jl) (hs : Opd uses (.tmp s) (pBxO kV raw lst dk e j jl xv)) (hx : Opd uses x (pEl dk e jl (lst xv) i off di v1)) (hz : Opd uses z (di.pd v2)) (hi : (lst xv)[i]? = some u) (h0 : 0 < dk.sz)
   (hl:lst x'=(lst xv).set i u') (hr:∀ s,raw x' s=raw xv s) (hw:∀ g cs ys,dk.K g u cs → di.K g v2 ys → off + ys.length ≤ cs.length → dk.K g u' (Zq cs off ys)):OB P N o uses [(s,pBxO kV raw lst dk e j jl x')] [jl + 1] :=
 Zqe hd fun a g hh=>by
   obtain ⟨b,cap,cur,cur',g',hv,hO,hrun,hst,hO'⟩:=Z6r hT (hx a g hh) (hz a g hh) hi hw
   refine ⟨g',by simp [execOp,hop,hv,Instr.storeAt,Instr.sureAddr,hrun],hst,fun en he=>?_⟩
   rw [List.mem_singleton.1 he]
   obtain ⟨sv,hb,ha⟩:=hs a g hh
   refine ⟨sv,?_,?_⟩
   · rw [hr]
     refine (pBox kV j (raw xv sv)).st hst (fun k hk hS=>?_) hb
     have a1:k=j + 1:=List.mem_singleton.1 hk
     have a2:k=jl + 1:=List.mem_singleton.1 hS
     omega
   · rcases ha with ⟨hn,_⟩ | ⟨b2,cap2,cur2,hv2,hO2⟩
     · rw [hn] at hi;simp at hi
     · obtain ⟨rfl,rfl,rfl⟩:=hO.same hO2 h0
       rw [hl]
       exact .inr ⟨b2,cap2,cur',by rw [List.length_set];exact hv2,hO'⟩
end
end Go.CL
namespace Go.CL
open Go
def INF:Nat:=9218868437227405312
def TOP:Nat:=9223372036854775808
def BIN:Nat:=4503599627370496
def rg (b:Nat):Nat:=b % TOP
def isn (b:Nat):Prop:=INF < rg b
instance (b:Nat):Decidable (isn b):=inferInstanceAs (Decidable (INF < rg b))
def sg (b:Nat):Int:=if TOP ≤ b then -((b - TOP:Nat):Int) else (b:Int)
def ngb (b:Nat):Bool:=b / TOP % 2 == 1
def Znc:Int:=Ieee.double.leastPlace
theorem Z0g (b:Nat):Ieee.double.read b=if rg b < BIN then .number (ngb b) (rg b) Znc else if rg b < INF then .number (ngb b) (BIN + rg b % BIN) (Znc + (rg b / BIN - 1:Nat)) else if rg b=INF then .infinity (ngb b) else .nan (ngb b) (rg b - INF):=rfl
def mg (r:Nat):Nat:=if r < BIN then r else (BIN + r % BIN) * 2 ^ (r / BIN - 1)
theorem Z2v {r s:Nat} (h:r < s):mg r < mg s:=by
 unfold mg
 have hB:0 < BIN:=by decide
 by_cases hr:r < BIN
 ·rw [if_pos hr]
  by_cases hs:s < BIN
  ·rw [if_pos hs];exact h
  ·rw [if_neg hs]
   have:1 ≤ 2 ^ (s / BIN - 1):=Nat.one_le_two_pow
   calc r < BIN:=hr
    _ ≤ BIN + s % BIN:=Nat.le_add_right _ _
    _ ≤ (BIN + s % BIN) * 2 ^ (s / BIN - 1):=Nat.le_mul_of_pos_right _ this
 ·have hs:¬ s < BIN:=by omega
  rw [if_neg hr,if_neg hs]
  have h1:1 ≤ r / BIN:=(Nat.le_div_iff_mul_le hB).2 (by omega)
  have hq:r / BIN ≤ s / BIN:=Nat.div_le_div_right (Nat.le_of_lt h)
  have er:=Nat.div_add_mod r BIN
  have es:=Nat.div_add_mod s BIN
  have hm:r % BIN < BIN:=Nat.mod_lt _ hB
  rcases Nat.lt_or_eq_of_le hq with hlt | heq
  ·have h2:2 ^ (r / BIN - 1) * 2 ≤ 2 ^ (s / BIN - 1):=by
    rw [← Nat.pow_succ]
    exact Nat.pow_le_pow_right (by decide) (by omega)
   have hp:0 < 2 ^ (r / BIN - 1):=Nat.two_pow_pos _
   calc (BIN + r % BIN) * 2 ^ (r / BIN - 1) < (BIN + BIN) * 2 ^ (r / BIN - 1):=Nat.mul_lt_mul_of_pos_right (by omega) hp
    _=BIN * (2 ^ (r / BIN - 1) * 2):=by rw [← Nat.two_mul,Nat.mul_comm (2 ^ (r / BIN - 1)) 2,← Nat.mul_assoc,Nat.mul_comm BIN 2]
    _ ≤ BIN * 2 ^ (s / BIN - 1):=Nat.mul_le_mul_left _ h2
    _ ≤ (BIN + s % BIN) * 2 ^ (s / BIN - 1):=Nat.mul_le_mul_right _ (Nat.le_add_right _ _)
  ·rw [heq]
   rw [heq] at er
   exact Nat.mul_lt_mul_of_pos_right (by omega) (Nat.two_pow_pos _)
theorem Z90 {r s:Nat}:mg r=mg s ↔ r=s:=by
 constructor
 ·intro h
  rcases Nat.lt_trichotomy r s with hlt | heq | hgt
  ·have:=Z2v hlt;omega
  ·exact heq
  ·have:=Z2v hgt;omega
 ·intro h;rw [h]
theorem Z11 {r s:Nat}:mg r < mg s ↔ r < s:=by
 constructor
 ·intro h
  rcases Nat.lt_trichotomy r s with hlt | heq | hgt
  ·exact hlt
  ·rw [heq] at h;omega
  ·have:=Z2v hgt;omega
 ·exact Z2v
def sgn (s:Bool) (n:Nat):Int:=if s then -(n:Int) else n
theorem Zbhe {s t:Bool} {m n r q:Nat} (h:m < n ↔ r < q) (h':n < m ↔ q < r) (h0:m=0 ↔ r=0) (h0':n=0 ↔ q=0):sgn s m < sgn t n ↔ sgn s r < sgn t q:=by
 cases s <;> cases t <;> simp [sgn] <;> omega
theorem Zbhh {s t:Bool} {m n r q:Nat} (h:m < n ↔ r < q) (h':n < m ↔ q < r) (h0:m=0 ↔ r=0) (h0':n=0 ↔ q=0):sgn s m=sgn t n ↔ sgn s r=sgn t q:=by
 cases s <;> cases t <;> simp [sgn] <;> omega
theorem Zbg0 (a b:Int):compare a b=.lt ↔ a < b:=by
 simp only [compare,compareOfLessAndEq]
 split
 ·simp [*]
 ·split <;> simp [*]
theorem Zbhf (a b:Int):compare a b=.eq ↔ a=b:=by
 simp only [compare,compareOfLessAndEq]
 split
 ·rename_i h;simp;omega
 ·split <;> simp [*]
theorem Zbeh {b:Nat} (h:b < 18446744073709551616):sg b=sgn (ngb b) (rg b):=by
 unfold sg sgn ngb rg TOP
 split
 ·rename_i h1
  have e1:b / 9223372036854775808=1:=by omega
  have e2:b % 9223372036854775808=b - 9223372036854775808:=by omega
  simp [e1,e2]
 ·have e1:b / 9223372036854775808=0:=by omega
  have e2:b % 9223372036854775808=b:=by omega
  simp [e1,e2]
def nm (r:Nat):Nat:=if r < BIN then r else BIN + r % BIN
def np (r:Nat):Nat:=if r < BIN then 0 else r / BIN - 1
theorem Zbeo (r:Nat):mg r=nm r * 2 ^ np r:=by
 unfold mg nm np
 split <;> simp
theorem Zt0 {b:Nat} (h:rg b < INF):Ieee.double.read b=.number (ngb b) (nm (rg b)) (Znc + (np (rg b):Nat)):=by
 rw [Z0g]
 unfold nm np
 split
 ·simp
 ·simp [h]
theorem Zbav (s t:Bool) (r q:Nat):∃ o,Ieee.Datum.order (.number s (nm r) (Znc + (np r:Nat))) (.number t (nm q) (Znc + (np q:Nat)))=some o ∧ (o=.lt ↔ sgn s r < sgn t q) ∧ (o=.eq ↔ sgn s r=sgn t q):=by
 refine ⟨_,rfl,?_⟩
 have hmin:min (Znc + (np r:Nat)) (Znc + (np q:Nat))=Znc + (min (np r) (np q):Nat):=by omega
 have e1:(Znc + (np r:Nat) - min (Znc + (np r:Nat)) (Znc + (np q:Nat))).toNat=np r - min (np r) (np q):=by rw [hmin];omega
 have e2:(Znc + (np q:Nat) - min (Znc + (np r:Nat)) (Znc + (np q:Nat))).toNat=np q - min (np r) (np q):=by rw [hmin];omega
 have hs:∀ (s:Bool) (m u:Nat),Ieee.signed s m u=sgn s (m * 2 ^ u):=by
  intro s m u
  simp [Ieee.signed,sgn,Nat.shiftLeft_eq]
 rw [e1,e2,hs,hs,Zbg0,Zbhf]
 have hc:0 < 2 ^ min (np r) (np q):=Nat.two_pow_pos _
 have m1:nm r * 2 ^ (np r - min (np r) (np q)) * 2 ^ min (np r) (np q)=mg r:=by
  rw [Nat.mul_assoc,← Nat.pow_add,Nat.sub_add_cancel (Nat.min_le_left _ _),Zbeo]
 have m2:nm q * 2 ^ (np q - min (np r) (np q)) * 2 ^ min (np r) (np q)=mg q:=by
  rw [Nat.mul_assoc,← Nat.pow_add,Nat.sub_add_cancel (Nat.min_le_right _ _),Zbeo]
 have k1:nm r * 2 ^ (np r - min (np r) (np q)) < nm q * 2 ^ (np q - min (np r) (np q)) ↔ r < q:=by
  rw [← Z11 (r:=r) (s:=q),← m1,← m2]
  exact (Nat.mul_lt_mul_right hc).symm
 have k2:nm q * 2 ^ (np q - min (np r) (np q)) < nm r * 2 ^ (np r - min (np r) (np q)) ↔ q < r:=by
  rw [← Z11 (r:=q) (s:=r),← m1,← m2]
  exact (Nat.mul_lt_mul_right hc).symm
 have z0:mg 0=0:=rfl
 have k3:nm r * 2 ^ (np r - min (np r) (np q))=0 ↔ r=0:=by
  have hz:r=0 ↔ mg r=0:=(Z90 (r:=r) (s:=0)).symm
  rw [hz,← m1]
  constructor
  ·intro h;rw [h,Nat.zero_mul]
  ·intro h;exact (Nat.mul_eq_zero.1 h).resolve_right (by omega)
 have k4:nm q * 2 ^ (np q - min (np r) (np q))=0 ↔ q=0:=by
  have hz:q=0 ↔ mg q=0:=(Z90 (r:=q) (s:=0)).symm
  rw [hz,← m2]
  constructor
  ·intro h;rw [h,Nat.zero_mul]
  ·intro h;exact (Nat.mul_eq_zero.1 h).resolve_right (by omega)
 exact ⟨Zbhe k1 k2 k3 k4,Zbhh k1 k2 k3 k4⟩
theorem Zts {a b:Nat} (ha:a < 18446744073709551616) (hb:b < 18446744073709551616) (na:¬ isn a) (nb:¬ isn b):∃ o,Ieee.double.order a b=some o ∧ (o=.lt ↔ sg a < sg b) ∧ (o=.eq ↔ sg a=sg b):=by
 rw [Zbeh ha,Zbeh hb]
 unfold isn at na nb
 have hI:INF=9218868437227405312:=rfl
 have rd:∀ x,¬ INF < rg x → rg x < INF ∨ rg x=INF:=fun x h=>by omega
 have ri:∀ x,rg x=INF → Ieee.double.read x=.infinity (ngb x):=fun x h=>by
  rw [Z0g,if_neg (by rw [h];decide),if_neg (by rw [h];decide),if_pos h]
 unfold Ieee.Format.order
 rcases rd a na with h1 | h1 <;> rcases rd b nb with h2 | h2
 ·rw [Zt0 h1,Zt0 h2];exact Zbav _ _ _ _
 ·rw [Zt0 h1,ri b h2]
  refine ⟨_,rfl,?_⟩
  rw [h2]
  cases ngb a <;> cases ngb b <;> simp [sgn] <;> omega
 ·rw [ri a h1,Zt0 h2]
  refine ⟨_,rfl,?_⟩
  rw [h1]
  cases ngb a <;> cases ngb b <;> simp [sgn] <;> omega
 ·rw [ri a h1,ri b h2]
  refine ⟨_,rfl,?_⟩
  rw [h1,h2]
  cases ngb a <;> cases ngb b <;> simp [sgn] <;> first | decide | omega
theorem Z1e {a b:Nat} (h:isn a ∨ isn b):Ieee.double.order a b=none:=by
 have rn:∀ x,isn x → ∃ s f,Ieee.double.read x=.nan s f:=fun x h=>by
  refine ⟨ngb x,rg x - INF,?_⟩
  unfold isn at h
  have hI:INF=9218868437227405312:=rfl
  have hB:BIN=4503599627370496:=rfl
  rw [Z0g,if_neg (by omega),if_neg (by omega),if_neg (by omega)]
 unfold Ieee.Format.order
 rcases h with h | h
 ·obtain ⟨s,f,e⟩:=rn a h
  rw [e];rfl
 ·obtain ⟨s,f,e⟩:=rn b h
  rw [e]
  cases Ieee.double.read a <;> rfl
end Go.CL
namespace Go.CL
open Go Go.RowKit
def fadd (m n:Nat):Nat:=(Ieee.double.add m n).getD 9221120237041090561
def fmul (m n:Nat):Nat:=(Ieee.double.mul m n).getD 9221120237041090561
theorem Zbb4 {b:Nat} (h:isn b):fneq b b=true:=by
 unfold fneq
 show (Ieee.double.order b b != some .eq)=true
 rw [Z1e (.inl h)];rfl
section
variable {P:Program} {N:Nat} {o:Oper} {uses:Zbd} {d:Nat} {q:Pd} {x y z:Operand}
def Z3b (z:Nat):Pd:=⟨fun g v=>∃ r,v=.float .f64 r ∧ (r=z ∨ (fneq r r=true ∧ fneq z z=true)),[],fun _ _ h=>h⟩
theorem Z4o {op : BinOp} {f : Nat → Nat → Option Nat} {t ty : TypeId} {m n : Nat} (hop : o.op = .binOp op t x y ty) (hd : o.dst = some d) (hx : Opd uses x (pFlt m)) (hy : Opd uses y (pFlt n))
   (h:∀ w,(binOp op t (.float .f64 m) (.float .f64 n)).run P w=(match f m n with | some r=>.ok (.float .f64 r) w | none=>((choose (.nanBits .f64 m n)).run P w).andThen fun r w'=>.ok (.float .f64 r) w')):OB P N o uses [(d,Z3b ((f m n).getD 9221120237041090561))] [] :=
 Zhb hd fun a g hh=>by
   have h1:=Zk9.1 (hx a g hh)
   have h2:=Zk9.1 (hy a g hh)
   have hg:(eqGuard op t x y (.float .f64 m) (.float .f64 n)).run P g.w=.ok () g.w:=by
     unfold eqGuard
     split <;> rfl
   cases hf:f m n with
   | some r =>
     refine ⟨.float .f64 r,g,?_,.refl _ _,r,rfl,.inl (by simp)⟩
     have:=h g.w
     rw [hf] at this
     simp [execOp,hop,h1,h2,hg,this]
   | none =>
     have:=h g.w
     rw [hf] at this
     have hc:(choose (.nanBits .f64 m n)).run P g.w=.ok ((Question.nanBits .f64 m n).cut (g.w.tape g.w.drawn (Question.nanBits .f64 m n))) g.w.drew:=by
       simp [Question.forced]
     refine ⟨.float .f64 ((Question.nanBits .f64 m n).cut (g.w.tape g.w.drawn (Question.nanBits .f64 m n))),g.drew,?_,Step.drew g,_,rfl,.inr ⟨Zbb4 ?_,by decide +kernel⟩⟩
     · simp only [hc,Result.andThen_ok] at this
       simp [execOp,hop,h1,h2,hg,this];rfl
     · unfold isn rg INF TOP
       generalize g.w.tape g.w.drawn (Question.nanBits .f64 m n)=u
       simp only [Question.cut]
       have hv:=Nat.mod_lt (u / 2) (show 0 < 2 ^ 52 - 1 by decide)
       generalize u / 2 % (2 ^ 52 - 1)=v at hv
       rcases Nat.mod_two_eq_zero_or_one u with h | h <;> rw [h] <;> omega
theorem Zbca {t ty:TypeId} {m n:Nat} (hop:o.op=.binOp .add t x y ty) (hd:o.dst=some d) (hx:Opd uses x (pFlt m)) (hy:Opd uses y (pFlt n)):OB P N o uses [(d,Z3b (fadd m n))] [] :=
 Z4o hop hd hx hy fun w=>by
   cases h:Ieee.double.add m n <;> simp [binOp,Op.floatArith,FloatKind.format,h]
theorem Zbdm {t ty:TypeId} {m n:Nat} (hop:o.op=.binOp .mul t x y ty) (hd:o.dst=some d) (hx:Opd uses x (pFlt m)) (hy:Opd uses y (pFlt n)):OB P N o uses [(d,Z3b (fmul m n))] [] :=
 Z4o hop hd hx hy fun w=>by
   cases h:Ieee.double.mul m n <;> simp [binOp,Op.floatArith,FloatKind.format,h]
theorem Z4i {β:Type} {f:FuncId} {F:Nat → Option β} {q:β → Pd} (hF:∀ r z,fneq r r=true → fneq z z=true → F r=F z) (hok:∀ z r,F z=some r → FnOk P f [pFlt z] (q r)) {z:Nat} {r:β} (h:F z=some r):FnOk P f [Z3b z] (q r):=by
 intro g args hargs
 obtain ⟨r',hv,hr⟩:=hargs.2 0 _ _ rfl (List.getElem?_eq_getElem (by rw [hargs.1];exact Nat.zero_lt_one))
 have h':F r'=some r:=by
   rcases hr with rfl | ⟨h1,h2⟩
   · exact h
   · rw [hF r' z h1 h2];exact h
 refine hok r' r h' g args ⟨hargs.1,fun i qi u h1 h2=>?_⟩
 match i,h1 with
 | 0,h1 =>
   simp at h1;subst h1
   have hl:0 < args.length:=by rw [hargs.1];exact Nat.zero_lt_one
   rw [List.getElem?_eq_getElem hl] at h2
   have:=Option.some.inj h2
   exact Zk9.2 (by rw [← this];exact hv)
end
end Go.CL
namespace Go.CL
def Z4g {ε β:Type} (o:Option ε) (f:ε → Option β) (g:Option β):Option β:=match o with | some e=>f e | none=>g
theorem Zbb0 {ε β:Type} {o:Option ε} {f:ε → Option β} {g:Option β} {r:β} (h:Z4g o f g=some r):(∃ e,o=some e ∧ f e=some r) ∨ (o=none ∧ g=some r):=by
 cases o with
 | none=>exact .inr ⟨rfl,h⟩
 | some e=>exact .inl ⟨e,rfl,h⟩
section
variable {P:Program} {N:Nat} {o:Oper} {uses outs:Zbd} {S:List Nat} {d:Nat} {q:Pd} {x y z:Operand} {α β:Type} {dk:Kd α} {t e j:Nat}
def Kd.opt (d:Kd α):Kd (Option α) where
 sz:=1
 ag:=false
 K:=fun g x cs=>(x=none ∧ cs=[.pointer none]) ∨ ∃ v b o cs',x=some v ∧ cs=[.pointer (some ⟨b,o,none⟩)] ∧ d.K g v cs' ∧ CellsAt g b o cs'
 len:=by
   rintro g x cs (⟨_,rfl⟩ | ⟨_,_,_,_,_,rfl,_⟩) <;> rfl
 one:=by
   rintro g x cs (⟨_,rfl⟩ | ⟨_,_,_,_,_,rfl,_⟩) u hu <;> (rw [List.mem_singleton.1 hu];rfl)
 mono:=by
   rintro g g' x cs h (k | ⟨v,b,o,cs',h1,h2,h3,h4⟩)
   · exact .inl k
   · exact .inr ⟨v,b,o,cs',h1,h2,d.mono h h3,h4.mono h⟩
 nag:=fun _=>rfl
theorem Zvh (g:G):(dk.opt.pd none).p g (.pointer none):=⟨_,.inl ⟨rfl,rfl⟩,rfl⟩
theorem Zbha {v:α} {g:G} {u:Value} (h:(dk.ptr v).p g u):(dk.opt.pd (some v)).p g u:=by
 obtain ⟨b,o,cs,rfl,h1,h2⟩:=h
 exact ⟨_,.inr ⟨v,b,o,cs,rfl,rfl,h1,h2⟩,rfl⟩
theorem Zba4 {x:Option α} (g:G) (u:Value) (h:(dk.opt.pd x).p g u):∃ p,u=.pointer p ∧ p.isNone=x.isNone:=by
 obtain ⟨cs,(⟨rfl,rfl⟩ | ⟨v',b,o,cs',rfl,rfl,h2,h3⟩),rfl⟩:=h
 · exact ⟨none,rfl,rfl⟩
 · exact ⟨some _,rfl,rfl⟩
def G.give (g:G) (b:Nat) (hb:b < g.w.heap.size):G:=⟨g.w,fun b' o=>g.pr b' o ∨ b'=b,fun c=>if c=b then 0 else g.own c,fun b' o h=>h.elim (g.hpr b' o) (fun h=>by rw [h];exact hb),g.gl.le (fun _ _ h=>.inl h) (fun _ _ _=>rfl)⟩
theorem Z04 (g:G) (b:Nat) (hb:b < g.w.heap.size):g.le (g.give b hb):=⟨Nat.le_refl _,fun _ _ h=>.inl h,fun _ _ _=>rfl,fun _ _=>rfl,Nat.le_refl _⟩
theorem Z10 {g:G} {b j:Nat} (hb:b < g.w.heap.size) (ho:g.own b=j):Step [j] g (g.give b hb) :=
 ⟨Z04 g b hb,rfl,rfl,rfl,fun c hc hn=>by
   have hcb:c ≠ b:=fun h=>hn (by rw [h,ho];exact List.mem_singleton.2 rfl)
   refine ⟨rfl,?_,if_neg hcb⟩
   funext o
   show (g.pr c o ∨ c=b)=_
   simp [hcb],
  fun c h1 h2=>absurd (Nat.lt_of_lt_of_le h2 h1) (Nat.lt_irrefl _),
  fun c hc hn=>by
   show (if c=b then 0 else g.own c)=0 ∨ (if c=b then 0 else g.own c) ∈ _
   split
   · exact .inl rfl
   · exact .inr hn⟩
theorem Zbb7 {xs:List α} {g:G} {b cap:Nat} {cur:Array Value} (hO:OwnAt dk e j (xs.map some) g b cap cur):(dk.sl.pd xs).p (g.give b hO.lt) (.slice (some ⟨b,0,none⟩) xs.length cap):=by
 have hle:=Z04 g b hO.lt
 have hl:=hO.len
 rw [List.length_map] at hl
 have hm:=hO.max
 refine Kd.sl_V.2 ⟨_,cap,rfl,hl,by simp only [maxLen] at hm;omega,.inr ⟨b,0,rfl,fun i x hx=>?_⟩⟩
 refine ⟨_,dk.mono hle (hO.known i x (by rw [List.getElem?_map,hx];rfl)),fun k u hk=>⟨.inr rfl,?_⟩⟩
 simp only [seg,List.getElem?_take,List.getElem?_drop] at hk
 split at hk
 · show g.w.cell? _=_
   simp only [World.cell?,hO.heap]
   simpa using hk
 · cases hk
theorem Zbco {c:Option Nat} {v:α} (hop:o.op=.move x ∨ o.op=.assign x) (hd:o.dst=some d) (hx:Opd uses x (Zbi c dk j v)):OB P N o uses [(d,dk.opt.pd (some v))] [j + 1] :=
 Zhb hd fun a g hh=>by
   have hr:(execOp a.eval o).run P g.w=.ok (.value (a.eval x)) g.w:=by rcases hop with h | h <;> simp [execOp,h]
   obtain ⟨b,cs,t',hv,⟨h1,h2,h3,h4,h5,h6⟩,_⟩:=hx a g hh
   refine ⟨a.eval x,g.give b h1,hr,Z10 h1 h2,?_⟩
   rw [hv]
   refine Zbha ⟨b,0,cs,rfl,dk.mono (Z04 g b h1) h5,fun k u hk=>⟨.inr rfl,?_⟩⟩
   show g.w.cell? _=_
   simp only [World.cell?,h4,Nat.zero_add]
   simpa using hk
end
section
variable {P:Program} {N:Nat} {o:Oper} {uses outs:Zbd} {S:List Nat} {d:Nat} {q:Pd} {x y z:Operand}
theorem OB.frameU {n:Nat} (h:OB P N o uses outs S) (hs:Opd uses (.tmp n) q) (hq:∀ j ∈ q.fp,j ∉ S) (hn:o.dst ≠ some n):OB P N o uses ((n,q) :: outs) S:=by
 intro a g K Q hN hdN hu hK
 refine h a g K Q hN hdN hu fun v g' hst ho=>hK v g' hst fun e he=>?_
 rcases List.mem_cons.1 he with rfl | he
 · have h2:=q.st hst hq (hs a g hu)
   show q.p g' (Act.at (a.put o.dst v) n)
   rw [Zk4 v hn];exact h2
 · exact ho e he
structure Hp (σ:Type) where
 p:G → σ → Prop
 fp:List Nat
 st:∀ {S:List Nat} {g g':G} {s:σ},Step S g g' → (∀ j ∈ fp,j ∉ S) → p g s → p g' s
def hpT {σ:Type}:Hp σ:=⟨fun _ _=>True,[],fun _ _ _=>trivial⟩
def hpL (q:Pd):Hp SlV:=⟨fun g s=>q.p g (slv s),q.fp,fun st hd h=>q.st st hd h⟩
variable {c:Option Nat} {α β γ δ ε σ:Type} {kV:Kd γ} {raw:α → σ → γ} {R R' R2:Hp σ} {dk:Kd β} {di:Kd δ} {dj:Kd ε} {t e j:Nat} {xv:α}
def Zc5 (c:Option Nat) (kV:Kd γ) (raw:α → σ → γ) (R:Hp σ) (j:Nat) (x:α):Pd:=⟨fun g v=>∃ s,(Zbi c kV j (raw x s)).p g v ∧ R.p g s,(j + 1) :: R.fp,fun st hd ⟨s,h1,h2⟩=>⟨s,(Zbi c kV j (raw x s)).st st (fun k hk=>hd k (List.mem_cons.2 (.inl (List.mem_singleton.1 hk)))) h1,R.st st (fun k hk=>hd k (List.mem_cons_of_mem _ hk)) h2⟩⟩
abbrev pBxS (kV:Kd γ) (raw:α → σ → γ) (R:Hp σ) (j:Nat) (x:α):Pd:=Zc5 none kV raw R j x
theorem Zzq {g:G} {v:Value} (hv:(Zc5 c kV raw R j xv).p g v):(Zc5 c kV raw hpT j xv).p g v:=let ⟨s,h1,_⟩:=hv;⟨s,h1,trivial⟩
theorem Zbf5 {k:Kd α} (hc:∀ g s cs,kV.K g (raw xv s) cs → R.p g s → k.K g xv cs) {g:G} {v:Value} (hv:(Zc5 c kV raw R j xv).p g v):(Zbi c k j xv).p g v:=by
 obtain ⟨s,⟨b,cs,t',e,⟨h1,h2,h3,h4,h5,h6⟩,h7⟩,hR⟩:=hv
 exact ⟨b,cs,t',e,⟨h1,h2,h3,h4,hc g s cs h5 hR,h6⟩,h7⟩
def pPQ (kV:Kd γ) (j off:Nat) (q:Pd):Pd:=⟨fun g v=>∃ w s,(Zds kV j w off Kd.raw s).p g v ∧ q.p g (slv s),(j + 1) :: q.fp,fun st hd ⟨w,s,h1,h2⟩=>⟨w,s,(Zds kV j w off Kd.raw s).st st (fun k hk=>hd k (List.mem_cons.2 (.inl (List.mem_singleton.1 hk)))) h1,q.st st (fun k hk=>hd k (List.mem_cons_of_mem _ hk)) h2⟩⟩
theorem Zv9 {off:Nat} {g:G} {v:Value} (h:(pPQ kV j off q).p g v):∃ w s1,(Zds kV j w off Kd.raw s1).p g v:=let ⟨w,s,h1,_⟩:=h;⟨w,s,h1⟩
theorem Zqx {zs:List Value} (s0:σ) (hz:(P.info? t).bind (·.zero)=some (mkV kV.ag zs)) (hk:∀ g,kV.K g (raw xv s0) zs) (hR:∀ g,R.p g s0) (hop:o.op=.alloc t) (hd:o.dst=some d):OB P N o uses [(d,pBxS kV raw R j xv)] [j + 1] :=
 (Zbl hz hk hop hd).weak fun g a h en he=>by
   rw [List.mem_singleton.1 he]
   exact ⟨_,h (d,pBox kV j (raw xv s0)) (List.mem_singleton.2 rfl),hR g⟩
theorem Zk0 {s i off:Nat} {pt:Nat} {proj:γ → SlV} {pr:σ → SlV} (hF:Fld P s i kV Kd.raw proj) (ho:(match P.underlying s with | some (.struct F)=>(F[i]?).map (·.offset) | _=>none)=some off) (hu:∀ sv,proj (raw xv sv)=pr sv) (hq:∀ g s,R.p g s → q.p g (slv (pr s))) (hop:o.op=.fieldAddr s (.tmp pt) i) (hd:o.dst=some d) (hx:Opd uses (.tmp pt) (Zc5 c kV raw R j xv)):OB P N o uses [(d,pPQ kV j off q)] [] :=
 OB.at fun a g hh=>by
   obtain ⟨s0,h0,h2⟩:=hx a g hh
   refine ⟨[(N,pAt (slv (pr s0)) q),(pt,Zbi c kV j (raw xv s0))],fun en he=>?_,?_⟩
   · rcases List.mem_cons.1 he with rfl | he
     · exact hq g s0 h2
     · rw [List.mem_singleton.1 he];exact h0
   · intro a' g' K Q hN hdN hu' hK
     have hdl:=hdN d hd
     refine (OB.frame (n:=N) (q:=pAt (slv (pr s0)) q) (Zbf (c:=c) hF ho hop hd .t0) (fun _ _ h=>by cases h) (by rw [hd];intro h;exact absurd (Option.some.inj h) (Nat.ne_of_lt hdl))).weak (fun g2 a2 h en he=>?_) a' g' K Q hN hdN hu' hK
     rw [List.mem_singleton.1 he]
     have:=h (d,Zds kV j (raw xv s0) off Kd.raw (proj (raw xv s0))) (by simp)
     rw [hu] at this
     exact ⟨_,pr s0,this,h (N,pAt (slv (pr s0)) q) (by simp)⟩
theorem Zrq {off pt:Nat} (hT:Ty P t Kd.raw) (hop:o.op=.load t (.tmp pt)) (hd:o.dst=some d) (hx:Opd uses (.tmp pt) (pPQ kV j off q)):OB P N o uses [(d,q)] [] :=
 OB.at fun a g hh=>by
   obtain ⟨w,s0,h0,h2⟩:=hx a g hh
   refine ⟨[(N,pAt (slv s0) q),(pt,Zds kV j w off Kd.raw s0)],fun en he=>?_,?_⟩
   · rcases List.mem_cons.1 he with rfl | he
     · exact h2
     · rw [List.mem_singleton.1 he];exact h0
   · intro a' g' K Q hN hdN hu' hK
     have hdl:=hdN d hd
     refine (OB.frame (n:=N) (q:=pAt (slv s0) q) (Zmb hT hop hd .t0) (fun _ _ h=>by cases h) (by rw [hd];intro h;exact absurd (Option.some.inj h) (Nat.ne_of_lt hdl))).weak (fun g2 a2 h en he=>?_) a' g' K Q hN hdN hu' hK
     rw [List.mem_singleton.1 he]
     have h3:=Zzc.1 (h (d,Kd.raw.pd s0) (by simp))
     show q.p g2 (Act.at a2 d)
     rw [h3]
     exact h (N,pAt (slv s0) q) (by simp)
theorem Zsq {off s pt zt : Nat} {x' : α} {upd : σ → SlV → σ} (hT : Ty P t Kd.raw) (hop : o.op = .store t (.tmp pt) (.tmp zt)) (hd : o.dst = none) (hsl : ∀ g v, q.p g v → ∃ s2 : SlV, v = slv s2) (hj : ∀ k ∈ q.fp, k ≠ j + 1) (hj2 : ∀ k ∈ R.fp, k ≠ j + 1) (hs : Opd uses (.tmp s) (Zc5 c kV raw R j xv)) (hx : ∀ (a : Act) g, Zeh uses a g → ∃ w s1, (Zds kV j w off Kd.raw s1).p g (Act.at a pt)) (hz : Opd uses (.tmp zt) q)
   (hR:∀ g s s2,R.p g s → q.p g (slv s2) → R2.p g (upd s s2)) (hw:∀ g cs s0 s1 ys,kV.K g (raw xv s0) cs → Kd.raw.K g s1 ys → off + ys.length ≤ cs.length ∧ kV.K g (raw x' (upd s0 s1)) (Zq cs off ys)):OB P N o uses [(s,Zc5 c kV raw R2 j x')] [j + 1] :=
 OB.at fun a g hh=>by
   obtain ⟨s0,h0,hR0⟩:=hs a g hh
   obtain ⟨w,s1,h1⟩:=hx a g hh
   have h2:=hz a g hh
   obtain ⟨s2,hv2⟩:=hsl _ _ h2
   refine ⟨[(N,pAt (slv s2) q),(N,⟨fun g _=>R.p g s0,R.fp,fun st hd h=>R.st st hd h⟩),(s,Zbi c kV j (raw xv s0)),(pt,Zds kV j w off Kd.raw s1),(zt,Kd.raw.pd s2)],fun en he=>?_,?_⟩
   · rcases List.mem_cons.1 he with rfl | he
     · show q.p g (slv s2)
       rw [← hv2];exact h2
     · rcases List.mem_cons.1 he with rfl | he
       · exact hR0
       · rcases List.mem_cons.1 he with rfl | he
         · exact h0
         · rcases List.mem_cons.1 he with rfl | he
           · exact h1
           · rw [List.mem_singleton.1 he];exact Zzc.2 hv2
   · refine (OB.frame (n:=N) (q:=pAt (slv s2) q) (OB.frame (n:=N) (q:=⟨fun g _=>R.p g s0,R.fp,fun st hd h=>R.st st hd h⟩) (Zfd (c:=c) (v':=raw x' (upd s0 s2)) hT hop hd .t0 (.tl .t0) (.tl (.tl .t0)) (fun g cs ys h k=>hw g cs s0 s2 ys h k)) (fun k hk hS=>hj2 k hk (List.mem_singleton.1 hS)) (by rw [hd];simp)) (fun k hk hS=>hj k hk (List.mem_singleton.1 hS)) (by rw [hd];simp)).weak (fun g2 a2 h en he=>?_)
     rw [List.mem_singleton.1 he]
     have k1:R.p g2 s0:=h (N,⟨fun g _=>R.p g s0,R.fp,fun st hd h=>R.st st hd h⟩) (by simp)
     have k2:q.p g2 (slv s2):=h (N,pAt (slv s2) q) (by simp)
     exact ⟨upd s0 s2,h (s,Zbi c kV j (raw x' (upd s0 s2))) (by simp),hR g2 s0 s2 k1 k2⟩
theorem Zg6 {s i off:Nat} {pt:Nat} {proj:γ → δ} {u:δ} (hF:Fld P s i kV di proj) (ho:(match P.underlying s with | some (.struct F)=>(F[i]?).map (·.offset) | _=>none)=some off) (hu:∀ sv,proj (raw xv sv)=u) (hop:o.op=.fieldAddr s (.tmp pt) i) (hd:o.dst=some d) (hx:Opd uses (.tmp pt) (Zc5 c kV raw R j xv)):OB P N o uses [(d,pPX kV j off di u)] [] :=
 OB.at fun a g hh=>by
   obtain ⟨s0,h0,_⟩:=hx a g hh
   refine ⟨[(pt,Zbi c kV j (raw xv s0))],fun en he=>by rw [List.mem_singleton.1 he];exact h0,(Zbf (c:=c) hF ho hop hd .t0).weak fun g2 a2 h en he=>?_⟩
   rw [List.mem_singleton.1 he]
   have:=h (d,Zds kV j (raw xv s0) off di (proj (raw xv s0))) (List.mem_singleton.2 rfl)
   rw [hu] at this
   exact ⟨_,this⟩
theorem Zl2 {off s pt : Nat} {x' : α} {u u' : δ} (hT : Ty P t di) (hop : o.op = .store t (.tmp pt) z) (hd : o.dst = none) (hj2 : ∀ k ∈ R.fp, k ≠ j + 1) (hs : Opd uses (.tmp s) (Zc5 c kV raw R j xv)) (hx : Opd uses (.tmp pt) (pPX kV j off di u)) (hz : Opd uses z (di.pd u'))
   (hw:∀ g cs s0 ys,kV.K g (raw xv s0) cs → di.K g u' ys → off + ys.length ≤ cs.length ∧ kV.K g (raw x' s0) (Zq cs off ys)):OB P N o uses [(s,Zc5 c kV raw R j x')] [j + 1] :=
 OB.at fun a g hh=>by
   obtain ⟨s0,h0,hR0⟩:=hs a g hh
   obtain ⟨w,h1⟩:=hx a g hh
   have h2:=hz a g hh
   refine ⟨[(N,⟨fun g _=>R.p g s0,R.fp,fun st hd h=>R.st st hd h⟩),(s,Zbi c kV j (raw xv s0)),(pt,Zds kV j w off di u)] ++ uses,fun en he=>?_,?_⟩
   · rcases List.mem_append.1 he with he | he
     · rcases List.mem_cons.1 he with rfl | he
       · exact hR0
       · rcases List.mem_cons.1 he with rfl | he
         · exact h0
         · rw [List.mem_singleton.1 he];exact h1
     · exact hh en he
   · refine (OB.frame (n:=N) (q:=⟨fun g _=>R.p g s0,R.fp,fun st hd h=>R.st st hd h⟩) (Zfd (c:=c) (v':=raw x' s0) hT hop hd .t0 (.tl .t0) (.tl (.tl hz)) (fun g cs ys h k=>hw g cs s0 ys h k)) (fun k hk hS=>hj2 k hk (List.mem_singleton.1 hS)) (by rw [hd];simp)).weak (fun g2 a2 h en he=>?_)
     rw [List.mem_singleton.1 he]
     exact ⟨s0,h (s,Zbi c kV j (raw x' s0)) (by simp),h (N,⟨fun g _=>R.p g s0,R.fp,fun st hd h=>R.st st hd h⟩) (by simp)⟩
theorem Zp6 {k:Kd α} (hc:∀ g s cs,kV.K g (raw xv s) cs → R.p g s → k.K g xv cs) (hT:Ty P t k) (hop:o.op=.load t x) (hd:o.dst=some d) (hx:Opd uses x (Zc5 c kV raw R j xv)):OB P N o uses [(d,k.pd xv)] [] :=
 Ztk (c:=c) hT hop hd (hx.imp fun _ _ h=>Zbf5 hc h)
theorem Zrk {k:Kd α} {s:Nat} {x':α} (hkz:k.sz=kV.sz) (hT:Ty P t k) (hop:o.op=.store t (.tmp s) z) (hd:o.dst=none) (hx:Opd uses (.tmp s) (Zc5 c kV raw R j xv)) (hz:Opd uses z (k.pd x')):OB P N o uses [(s,Zbi c k j x')] [j + 1] :=
 Zqe hd fun a g hh=>by
   obtain ⟨s0,⟨b,cs,t',hv,hm,hcb⟩,_⟩:=hx a g hh
   obtain ⟨ys,hk,hw⟩:=hz a g hh
   have hl:ys.length=cs.length:=(k.len hk).trans (hkz.trans (kV.len hm.2.2.2.2.1).symm)
   have hst:=Zgt (off:=0) hT hm.2.2.2.1 hk (by simp [hl])
   have hv':Act.at a s=.pointer (some ⟨b,0,none⟩):=hv
   have hs:Step [j + 1] g (g.wr b ys.toArray hm.1 hm.2.2.2.2.2 (fun _=>False) (j + 1)):=Zns hm.2.1 (.inr rfl) hm.2.2.2.2.2
   refine ⟨g.wr b ys.toArray hm.1 hm.2.2.2.2.2 (fun _=>False) (j + 1),?_,hs,?_⟩
   · simp only [Nat.zero_add,List.take_zero,List.nil_append] at hst
     rw [List.drop_of_length_le (by simp [hl]),List.append_nil] at hst
     simp [execOp,hop,hv,hw,Instr.storeAt,Instr.sureAddr,hst,wr_w]
   · intro e he
     rw [List.mem_singleton.1 he]
     refine ⟨b,ys,t',hv',⟨by rw [wr_w,Zdi];exact hm.1,by simp [G.wr],fun b' hb' ho=>?_,by rw [wr_w];exact setRow_heap _ _ _ _ _ _ hm.2.2.2.1,k.mono hs.le hk,fun o=>by simp [G.wr]⟩,hcb⟩
     rw [wr_w,Zdi] at hb'
     simp only [G.wr] at ho
     split at ho
     · assumption
     · exact hm.2.2.1 b' hb' ho
theorem Zmv {α:Type} {dk:Kd α} {e j:Nat} {xs:List α} {g:G} {v:Value} (h:(pRow dk e j xs).p g v):∃ s:SlV,v=slv s:=by
 obtain ⟨A,c,hv,_⟩:=Kd.sl_V.1 h.1
 exact ⟨(A,xs.length,c),hv⟩
theorem Zvj {α:Type} {dk:Kd α} {xs:List α} {g:G} {s:SlV} {cs:List Value} (h:Kd.raw.K g s cs) (hv:dk.sl.V g xs (slv s)):dk.sl.K g xs cs:=by
 have h1:cs=[slv s]:=h
 obtain ⟨cs',h2,h3⟩:=hv
 have hl:=dk.sl.len h2
 obtain ⟨u,rfl⟩:=List.length_eq_one_iff.1 hl
 have:slv s=u:=h3
 rw [h1,this];exact h2
end
structure ObR (α:Type) where
 R:G → Nat → (Nat → Prop) → α → Prop
 st:∀ {g g':G} {b:Nat} {B:Nat → Prop} {x:α},R g b B x → g.le g' → (∀ c,c=b ∨ B c → g'.w.heap[c]?=g.w.heap[c]? ∧ g'.pr c=g.pr c) → R g' b B x
def FnMR {α:Type} (P:Program) (f:FuncId) (k:ObR α) (x0 x1:α) (A:List Pd) (q:Pd):Prop :=
 ∀ (g:G) (b:Nat) (B:Nat → Prop) (args:List Value),k.R g b B x0 → b < g.w.heap.size → (∀ c,B c → c < g.w.heap.size ∧ c ≠ b) → ArgsOk A g args →
   Calls P f (Value.pointer (some ⟨b,0,none⟩) :: args).toArray g.w (fun e w'=>∃ g' v B',e=.returned v ∧ w'=g'.w ∧ Zt8 (fun c=>c=b ∨ B c) g g' ∧ k.R g' b B' x1 ∧ (∀ c,B' c → (B c ∨ g.w.heap.size ≤ c) ∧ c < g'.w.heap.size) ∧ q.p g' v)
section
variable {P:Program} {N:Nat} {o:Oper} {uses outs:Zbd} {S:List Nat} {d:Nat} {q:Pd} {x y z:Operand} {α β γ:Type} {k:ObR α}
open Classical in
theorem Zbbs {g : G} {b : Nat} {own : Nat → Nat} {args : List Value} {A : List Pd} {qs : Pd} {fn : Func} (hn : fn.ntmps = N) (hAN : A.length + 1 ≤ N) (hA : Free A) (hargs : ArgsOk A g args) (hq : qs.p ⟨g.w, g.pr, own, g.hpr, g.gl⟩ (.pointer (some ⟨b, 0, none⟩))) :
   St N ((0,qs) :: Zme A 1) { tmps:=(Value.pointer (some ⟨b,0,none⟩) :: args).toArray ++ Array.replicate (fn.ntmps - (Value.pointer (some ⟨b,0,none⟩) :: args).toArray.size) undef,defers:=[] } ⟨g.w,g.pr,own,g.hpr,g.gl⟩:=by
 have hle:g.le ⟨g.w,g.pr,own,g.hpr,g.gl⟩:=⟨Nat.le_refl _,fun _ _ h=>h,fun _ _ _=>rfl,fun _ _=>rfl,Nat.le_refl _⟩
 refine ⟨?_,rfl,?_⟩
 · have:=hargs.1
   simp [hn];omega
 · intro en he
   rcases List.mem_cons.1 he with rfl | he
   · have hv : Act.at { tmps := (Value.pointer (some ⟨b, 0, none⟩) :: args).toArray ++ Array.replicate (fn.ntmps - (Value.pointer (some ⟨b, 0, none⟩) :: args).toArray.size) undef, defers := [] } 0 = .pointer (some ⟨b, 0, none⟩) := by
       simp only [Act.at,Array.getD_eq_getD_getElem?]
       rw [Array.getElem?_append,if_pos (by simp)]
       simp
     show qs.p _ (Act.at _ 0)
     rw [hv];exact hq
   · obtain ⟨i,h1,h2⟩:=Zp3 he
     have hi:i < args.length:=by rw [hargs.1];exact (List.getElem?_eq_some_iff.1 h2).1
     have hv:Act.at { tmps:=(Value.pointer (some ⟨b,0,none⟩) :: args).toArray ++ Array.replicate (fn.ntmps - (Value.pointer (some ⟨b,0,none⟩) :: args).toArray.size) undef,defers:=[] } en.1=args[i]:=by
       rw [h1,Nat.add_comm]
       simp only [Act.at,Array.getD_eq_getD_getElem?]
       rw [Array.getElem?_append,if_pos (by simpa using hi)]
       simp [hi]
     rw [hv]
     exact Pd.le (hA.at h2) hle rfl rfl rfl (hargs.2 i en.2 _ h2 (List.getElem?_eq_getElem hi))
theorem Z9j {g g1 : G} {own : Nat → Nat} {D : Nat → Prop} (hpr : GLok g.w g.pr) (ho : ∀ c, own c ≠ 0 → D c) (hBs : Base ⟨g.w, g.pr, own, g.hpr, g.gl⟩ g1) : Zt8 D g g1 := ⟨⟨hBs.le.size, hBs.le.pr, hBs.le.cell, hBs.le.blk, hBs.le.dr⟩, hBs.os, hBs.tape, hBs.output, fun c hc hn => by
   have h0:own c=0:=Classical.byContradiction fun h=>hn (ho c h)
   exact ⟨(hBs.same c hc h0).1,(hBs.same c hc h0).2.1⟩⟩
variable {kV:Kd γ} {raw:α → SlV → γ} {lst:α → List β} {dk:Kd β} {e:TypeId}
def RowB (dk:Kd β) (e:TypeId) (xs:List β) (g:G) (v:Value) (B:Nat → Prop):Prop :=
 dk.sl.V g xs v ∧ ((v=.slice none 0 0 ∧ xs.length=0) ∨ ∃ b cap cur,v=.slice (some ⟨b,0,none⟩) xs.length cap ∧ B b ∧ g.w.heap[b]?=some (.cells cur e (0,0)) ∧ xs.length ≤ cap ∧ cap ≤ maxLen ∧ cur.size=cap * dk.sz ∧ ∀ i,xs.length * dk.sz ≤ i → ¬ g.pr b i)
def obR (kV:Kd γ) (raw:α → SlV → γ) (lst:α → List β) (dk:Kd β) (e:TypeId):ObR α where
 R:=fun g b B x=>∃ s cs t,g.w.heap[b]?=some (.cells (List.toArray cs) t (0,0)) ∧ (∀ o,¬ g.pr b o) ∧ kV.K g (raw x s) cs ∧ RowB dk e (lst x) g (slv s) B
 st:=by
   rintro g g' b B x ⟨s,cs,t,h1,h0,h2,h3,h4⟩ hle hh
   obtain ⟨k1,k2⟩:=hh b (.inl rfl)
   refine ⟨s,cs,t,k1.trans h1,fun o=>by rw [k2];exact h0 o,kV.mono hle h2,h3.imp fun _ h=>⟨dk.sl.mono hle h.1,h.2⟩,?_⟩
   rcases h4 with h4 | ⟨c,cap,cur,m1,m2,m3,m4,m5,m6,m7⟩
   · exact .inl h4
   · obtain ⟨k3,k4⟩:=hh c (.inr m2)
     exact .inr ⟨c,cap,cur,m1,m2,k3.trans m3,m4,m5,m6,fun i hi=>by rw [k4];exact m7 i hi⟩
abbrev Z3h (kV:Kd γ) (raw:α → SlV → γ) (lst:α → List β) (dk:Kd β) (e:TypeId) (b:Nat) (x:α):Pd:=Zc5 (some b) kV raw (hpL (pRow dk e AUX (lst x))) 0 x
def Z25 (kV:Kd γ) (raw:α → SlV → γ) (lst:α → List β) (dk:Kd β) (e:TypeId) (b:Nat) (x:α) (g0:G) (q:Pd) (v:Value) (g1:G):Prop:=Base g0 g1 ∧ q.p g1 v ∧ (Z3h kV raw lst dk e b x).p g1 (.pointer (some ⟨b,0,none⟩))
open Classical in
theorem Zn2 {x0 x1 : α} {f : FuncId} {fn : Func} {c : Code} {A : List Pd} (hf : P.funcs[f]? = some fn) (hb : fn.body = some c) (hn : fn.ntmps = N) (hAN : A.length + 1 ≤ N) (hA : Free A) (hq : q.fp = [])
   (h:∀ (a:Act) (g:G) (b:Nat),St N ((0,Z3h kV raw lst dk e b x0) :: Zme A 1) a g → Base g g → c.wp P (bodyPost P fn (FinP (Z25 kV raw lst dk e b x1 g q))) a g.w):FnMR P f (obR kV raw lst dk e) x0 x1 A q:=by
 intro g b B args hR hbl hB hargs
 obtain ⟨s,cs,t,hh,hnp,hk,hV,hl⟩:=hR
 obtain ⟨own,o1,o2,o3,hrow⟩:∃ own:Nat → Nat,own b=1 ∧ (∀ c,own c=1 → c=b) ∧ (∀ c,own c ≠ 0 → c=b ∨ B c) ∧ ∀ g0:G,g0.w=g.w → g0.pr=g.pr → g0.own=own → g.le g0 → (pRow dk e AUX (lst x0)).p g0 (slv s):=by
   rcases hl with ⟨h1,h2⟩ | ⟨c,cap,cur,k1,k2,k3,k4,k5,k6,k7⟩
   · refine ⟨fun c=>if c=b then 1 else 0,if_pos rfl,fun c hc=>?_,fun c hc=>?_,fun g0 _ _ _ hle=>⟨hV.imp fun _ h=>⟨dk.sl.mono hle h.1,h.2⟩,.inl ⟨h1,h2⟩⟩⟩
     · dsimp only at hc
       split at hc
       · assumption
       · omega
     · dsimp only at hc
       split at hc
       · left;assumption
       · exact absurd rfl hc
   · obtain ⟨l1,l2⟩:=hB c k2
     refine ⟨fun c'=>if c'=b then 1 else if c'=c then AUX + 1 else 0,if_pos rfl,fun c' hc=>?_,fun c' hc=>?_,fun g0 e1 e2 e3 hle=>⟨hV.imp fun _ h=>⟨dk.sl.mono hle h.1,h.2⟩,.inr ⟨c,cap,cur,k1,by rw [e1];exact l1,by rw [e3];show (if c=b then 1 else if c=c then AUX + 1 else 0)=AUX + 1;rw [if_neg l2,if_pos rfl],by rw [e1];exact k3,k4,k5,k6,fun i hi=>by rw [e2];exact k7 i hi⟩⟩⟩
     · dsimp only at hc
       split at hc
       · assumption
       · split at hc <;> simp [AUX] at hc
     · dsimp only at hc
       split at hc
       · left;assumption
       · split at hc
         · rename_i h;right;rw [h];exact k2
         · exact absurd rfl hc
 let g0:G:=⟨g.w,g.pr,own,g.hpr,g.gl⟩
 have hle:g.le g0:=⟨Nat.le_refl _,fun _ _ h=>h,fun _ _ _=>rfl,fun _ _=>rfl,Nat.le_refl _⟩
 have hself:(Z3h kV raw lst dk e b x0).p g0 (.pointer (some ⟨b,0,none⟩)):=⟨s,⟨b,cs,t,rfl,⟨hbl,o1,fun c _ hc=>o2 c hc,hh,kV.mono hle hk,hnp⟩,fun b' h=>Option.some.inj h⟩,hrow g0 rfl rfl rfl hle⟩
 have hst:=Zbbs (fn:=fn) hn hAN hA hargs hself
 have hbase:Base g0 g0:=⟨.refl _,rfl,rfl,rfl,fun _ _ h=>⟨rfl,rfl,h⟩⟩
 refine Calls.mono (calls_of_wp hf hb (h _ g0 b hst hbase)) ?_
 rintro en w' ⟨g1,v,rfl,rfl,hBs,hqv,⟨s1,⟨b1,cs1,t1,e1,⟨m1,m2,m3,m4,m5,m6⟩,hb1⟩,hV1,ha1⟩⟩
 obtain rfl:=hb1 _ rfl
 have hS:Zt8 (fun c=>c=b1 ∨ B c) g g1:=Z9j g.gl o3 hBs
 rcases ha1 with ⟨hn1,hn2⟩ | ⟨c,cap,cur,hv,l1,l2,l3,l4,l5,l6,l7⟩
 · exact ⟨g1,v,fun _=>False,rfl,rfl,hS,⟨s1,cs1,t1,m4,m6,m5,hV1,.inl ⟨hn1,hn2⟩⟩,fun c hc=>hc.elim,hqv⟩
 · refine ⟨g1,v,fun c'=>c'=c,rfl,rfl,hS,⟨s1,cs1,t1,m4,m6,m5,hV1,.inr ⟨c,cap,cur,hv,rfl,l3,l4,l5,l6,l7⟩⟩,fun c' hc=>?_,hqv⟩
   subst hc
   refine ⟨Classical.byContradiction fun hno=>?_,l1⟩
   have hlt:c' < g.w.heap.size:=Nat.lt_of_not_le fun h=>hno (.inr h)
   by_cases h0:own c'=0
   · have:=(hBs.same c' hlt h0).2.2
     rw [l2] at this;simp [AUX] at this
   · rcases o3 c' h0 with h | h
     · rw [h,m2] at l2;simp [AUX] at l2
     · exact hno (.inl h)
end
theorem Zs1 {k a b:Nat} (h:k=a) (h':k=b) (hn:a ≠ b):False:=hn (h.symm.trans h')
def ptrB (b off:Nat):Value:=.pointer (some ⟨b,off,none⟩)
section
variable {P:Program} {N:Nat} {o:Oper} {uses outs:Zbd} {S:List Nat} {d:Nat} {q q2:Pd} {x y z:Operand} {α β γ δ ε σ:Type} {kV:Kd γ} {raw:α → σ → γ} {R R2:Hp σ} {dk:Kd β} {di:Kd δ} {t e j b off m:Nat} {xv:α}
def pSJ (kV:Kd γ) (raw:α → σ → γ) (R:Hp σ) (j b:Nat) (x:α):Pd:=pAt (.pointer (some ⟨b,0,none⟩)) (Zc5 (some b) kV raw R j x)
theorem sj_T {g:G} {v:Value} (h:(pSJ kV raw R j b xv).p g v):(pSJ kV raw hpT j b xv).p g v:=Zzq h
theorem Zz0 {g:G} {v:Value} (h:(pSJ kV raw R j b xv).p g v):∃ s cs t,Mine kV (j + 1) (raw xv s) g b cs t ∧ R.p g s:=by
 obtain ⟨s,⟨b',cs,t,_,hm,hc⟩,hR⟩:=h
 obtain rfl:=hc _ rfl
 exact ⟨s,cs,t,hm,hR⟩
theorem Zzt {g:G} {v:Value} {s:σ} {cs:List Value} {t:TypeId} (hm:Mine kV (j + 1) (raw xv s) g b cs t) (hR:R.p g s):(pSJ kV raw R j b xv).p g v:=⟨s,⟨b,cs,t,rfl,hm,fun b' h=>Option.some.inj h⟩,hR⟩
abbrev PF (P:Program) (s i off:Nat):Prop:=(match P.underlying s with | some (.struct F)=>(F[i]?).bind fun f=>(P.info? f.type).map fun y=>(f.offset,y.size == 0) | _=>none)=some (off,false)
theorem Zcr {s i off2:Nat} (hF:PF P s i off2) (hop:o.op=.fieldAddr s x i) (hd:o.dst=some d) (hx:Opd uses x (pEq (ptrB b off))):OB P N o uses [(d,pEq (ptrB b (off + off2)))] [] :=
 Zcg hd fun a g hh=>by
   have hv:a.eval x=.pointer (some ⟨b,off,none⟩):=hx a g hh
   unfold PF at hF
   cases hu:P.underlying s with
   | none=>rw [hu] at hF;cases hF
   | some u =>
     rw [hu] at hF
     cases u with
     | struct F =>
       obtain ⟨f,hi,h2⟩:=Option.bind_eq_some_iff.1 hF
       obtain ⟨y,hy,h3⟩:=Option.map_eq_some_iff.1 h2
       simp only [Prod.mk.injEq,beq_eq_false_iff_ne] at h3
       obtain ⟨h4,h5⟩:=h3
       subst h4
       have hs:(P.info? f.type).map (·.size)=some y.size:=by rw [hy];rfl
       exact ⟨ptrB b (off + f.offset),by simp [execOp,hop,hv,Instr.fieldAt,Instr.sureAddr,run_underlying hu,hi,Zny hs h5,ptrB],rfl⟩
     | _=>cases hF
theorem Zlb {raw:α → SlV → γ} (hT:Ty P t Kd.raw) (hk:∀ (g:G) (s:SlV) (cs:List Value),kV.K g (raw xv s) cs → Kd.raw.K g s (seg cs off 1)) (hop:o.op=.load t x) (hd:o.dst=some d) (hs:Opd uses (.tmp m) (pSJ kV raw (hpL q) j b xv)) (hx:Opd uses x (pEq (ptrB b off))):OB P N o uses [(d,q)] [] :=
 Zcg hd fun a g hh=>by
   obtain ⟨s,cs,t',hm,hR⟩:=Zz0 (hs a g hh)
   have hv:a.eval x=.pointer (some ⟨b,off,none⟩):=hx a g hh
   have hu:=hk g s cs hm.2.2.2.2.1
   have:=Zjr (b:=b) (of:=off) hT hu (fun i u hu=>by
     refine Zpd hm (off + i) u ?_
     simp only [seg,List.getElem?_take,List.getElem?_drop] at hu
     split at hu
     · exact hu
     · cases hu)
   have hl:seg cs off 1=[slv s]:=hu
   refine ⟨slv s,?_,hR⟩
   rw [hl] at this
   have this:(loadVar t ⟨b,off,none⟩).run P g.w=.ok (slv s) g.w:=this
   simp [execOp,hop,hv,Instr.loadAt,Instr.sureAddr,this]
theorem Zlo {raw : α → SlV → γ} {R : Hp SlV} {x' : α} (hT : Ty P t Kd.raw) (hop : o.op = .store t x z) (hd : o.dst = none) (hsl : ∀ g v, q.p g v → ∃ s2 : SlV, v = slv s2) (hj : ∀ k ∈ R.fp, k ≠ j + 1) (hq : ∀ k ∈ q.fp, k ≠ j + 1) (hs : Opd uses (.tmp m) (pSJ kV raw R j b xv)) (hx : Opd uses x (pEq (ptrB b off))) (hz : Opd uses z q)
   (hw:∀ (g:G) (cs:List Value) (s0 s1:SlV) (ys:List Value),kV.K g (raw xv s0) cs → Kd.raw.K g s1 ys → off + ys.length ≤ cs.length ∧ kV.K g (raw x' s1) (Zq cs off ys)):OB P N o uses [(m,pSJ kV raw (hpL q) j b x')] [j + 1] :=
 OB.at fun a g hh=>by
   have hq0:=hz a g hh
   obtain ⟨s2,hv2⟩:=hsl _ _ hq0
   let R':Hp SlV:=⟨fun g s=>R.p g s ∧ q.p g (slv s2),R.fp ++ q.fp,fun st hd h=>⟨R.st st (fun k hk=>hd k (List.mem_append_left _ hk)) h.1,q.st st (fun k hk=>hd k (List.mem_append_right _ hk)) h.2⟩⟩
   obtain ⟨s,cs,t',hm,hR⟩:=Zz0 (hs a g hh)
   refine ⟨(m,pSJ kV raw R' j b xv) :: uses,fun en he=>?_,?_⟩
   · rcases List.mem_cons.1 he with rfl | he
     · exact Zzt (R:=R') hm ⟨hR,by rw [← hv2];exact hq0⟩
     · exact hh en he
   · intro a' g' K Q hN hdN hu' hK
     refine Zqe (outs:=[(m,pSJ kV raw (hpL q) j b x')]) (S:=[j + 1]) (o:=o) (uses:=uses ++ [(m,pSJ kV raw R' j b xv)]) hd (fun a2 g2 hh2=>?_) a' g' K Q hN hdN (fun en he=>?_) hK
     · have hh3:Zeh uses a2 g2:=fun en he=>hh2 en (List.mem_append_left _ he)
       have hst:=hh2 (m,pSJ kV raw R' j b xv) (by simp)
       obtain ⟨s3,cs3,t3,hm3,hR3,hq3⟩:=Zz0 hst
       have hv:a2.eval x=.pointer (some ⟨b,off,none⟩):=hx a2 g2 hh3
       have hz2:=hz a2 g2 hh3
       obtain ⟨s4,hv4⟩:=hsl _ _ hz2
       have hk:Kd.raw.K g2 s4 [slv s4]:=rfl
       obtain ⟨hfit,_⟩:=hw g2 cs3 s3 s4 [slv s4] hm3.2.2.2.2.1 hk
       have hst:=Zgt (off:=off) hT hm3.2.2.2.1 hk (by simpa using hfit)
       have hstep:Step [j + 1] g2 (g2.wr b (cs3.toArray.toList.take off ++ [slv s4] ++ cs3.toArray.toList.drop (off + [slv s4].length)).toArray hm3.1 hm3.2.2.2.2.2 (fun _=>False) (j + 1)):=Zns hm3.2.1 (.inr rfl) hm3.2.2.2.2.2
       refine ⟨_,?_,hstep,?_⟩
       · have hmk:mkV Kd.raw.ag [slv s4]=slv s4:=rfl
         rw [hmk] at hst
         simp [execOp,hop,hv,hv4,Instr.storeAt,Instr.sureAddr,hst,wr_w]
       · intro e he
         rw [List.mem_singleton.1 he]
         obtain ⟨h1,h2⟩:=hw _ cs3 s3 s4 [slv s4] (kV.mono hstep.le hm3.2.2.2.2.1) hk
         refine Zzt (s:=s4) (cs:=Zq cs3 off [slv s4]) (t:=t3) ⟨by rw [wr_w,Zdi];exact hm3.1,by simp [G.wr],fun b' hb' ho=>?_,?_,h2,fun o=>by simp [G.wr]⟩ ?_
         · rw [wr_w,Zdi] at hb'
           simp only [G.wr] at ho
           split at ho
           · assumption
           · exact hm3.2.2.1 b' hb' ho
         · rw [wr_w]
           refine (setRow_heap _ _ _ _ _ _ hm3.2.2.2.1).trans ?_
           simp [Zq]
         · have hz3:q.p g2 (slv s4):=by rw [← hv4];exact hz2
           exact q.st hstep (fun k hk hS=>hq k hk (List.mem_singleton.1 hS)) hz3
     · rcases List.mem_append.1 he with he | he
       · exact hu' en (List.mem_cons_of_mem _ he)
       · rw [List.mem_singleton.1 he];exact hu' _ (List.mem_cons_self ..)
theorem Zl6 {a:Act} {g:G} {L:Zbd} (h:St N ((0,Zc5 (some b) kV raw R j xv) :: L) a g):St N ((0,pEq (ptrB b 0)) :: (L ++ [(1002,pSJ kV raw R j b xv)])) a g:=⟨h.size,h.df,fun en he=>by
 have h0:=h.h (0,Zc5 (some b) kV raw R j xv) (List.mem_cons_self ..)
 obtain ⟨s,⟨b',cs,t,e1,hm,hc⟩,hR⟩:=h0
 obtain rfl:=hc _ rfl
 rcases List.mem_cons.1 he with rfl | he
 · exact e1
 · rcases List.mem_append.1 he with he | he
   · exact h.h en (List.mem_cons_of_mem _ he)
   · rw [List.mem_singleton.1 he];exact Zzt hm hR⟩
theorem Z9x {a:Act} {g:G} {L:Zbd} {i s m:Nat} {c:Option Nat} (hi:L[i]?=some (s,Zc5 c kV raw R j xv)) (h:St N L a g):∃ b,St N (L.set i (s,pEq (ptrB b 0)) ++ [(m,pSJ kV raw R j b xv)]) a g:=by
 have h0:=h.h _ (List.mem_of_getElem? hi)
 obtain ⟨sv,⟨b,cs,t,e1,hm,hc⟩,hR⟩:=h0
 refine ⟨b,h.size,h.df,fun en he=>?_⟩
 rcases List.mem_append.1 he with he | he
 · rcases List.mem_or_eq_of_mem_set he with he | rfl
   · exact h.h en he
   · exact e1
 · rw [List.mem_singleton.1 he];exact Zzt hm hR
end
section
variable {P:Program} {N:Nat} {q:Pd} {α β γ:Type} {kV:Kd γ} {raw:α → SlV → γ} {lst:α → List β} {dk:Kd β} {e b:Nat} {k:ObR α}
theorem Zbj4 {fn:Func} {r:ResultVar} {v w:Value} {a:Act} {g g0:G} {L:Zbd} {x1:α} (hr:fn.results=#[r]) (h:St N L a g) (hb:Base g0 g) (h1:Ziu P a g r v) (hq:q.p g v) (hs:(pSJ kV raw (hpL (pRow dk e AUX (lst x1))) 0 b x1).p g w):bodyPost P fn (FinP (Z25 kV raw lst dk e b x1 g0 q)) .ret a g.w:=endP hr h h1 ⟨hb,hq,hs⟩
end
end Go.CL
namespace Go.CL
open Go Go.RowKit Go.Lib
section
variable {P:Program} {N:Nat} {o:Oper} {uses:Zbd} {d:Nat} {q:Pd} {x y z:Operand} {α β γ:Type} {kV:Kd γ} {raw:α → SlV → γ} {lst:α → List β} {dk:Kd β} {e b j m:Nat} {x0 x1:α}
open Classical in
theorem Zcy {f : FuncId} {xs : List Operand} {A : List Pd} {ty : Array TypeId} (he : Zk P f) (hok : FnMR P f (obR kV raw lst dk e) x0 x1 A q) (hop : o.op = .call { callee := .value (.func f), args := (x :: xs).toArray, argTypes := ty }) (hd : o.dst = some d) (hq : q.fp = []) (hmd : m ≠ d)
   (hs:Opd uses (.tmp m) (pSJ kV raw (hpL (pRow dk e (j + AUX) (lst x0))) j b x0)) (hx:Opd uses x (pEq (ptrB b 0))) (hargs:OpdL uses xs A):OB P N o uses [(d,q),(m,pSJ kV raw (hpL (pRow dk e (j + AUX) (lst x1))) j b x1)] [j + 1,j + AUX + 1]:=by
 intro a g K Q hN hdN hu hK
 obtain ⟨s,cs,t,hm,hrow⟩:=Zz0 (hs a g hu)
 have hv:a.eval x=.pointer (some ⟨b,0,none⟩):=hx a g hu
 have hr:(execOp a.eval o).run P g.w=.ok (.enter f (Value.pointer (some ⟨b,0,none⟩) :: xs.map a.eval).toArray) g.w:=by
   simp [execOp,hop,resolve,Zqg,Deferred.ofValue,invoke,Zh1 he,hv]
 obtain ⟨hV,hT⟩:(pRow dk e (j + AUX) (lst x0)).p g (slv s):=hrow
 obtain ⟨B,hR,hB⟩:∃ B:Nat → Prop,(obR kV raw lst dk e).R g b B x0 ∧ ∀ c,B c → c < g.w.heap.size ∧ g.own c=j + AUX + 1:=by
   rcases hT with ⟨h1,h2⟩ | ⟨c,cap,cur,h1,h2,h3,h4,h5,h6,h7,h8⟩
   · exact ⟨fun _=>False,⟨s,cs,t,hm.2.2.2.1,hm.2.2.2.2.2,hm.2.2.2.2.1,hV,.inl ⟨h1,h2⟩⟩,fun c h=>h.elim⟩
   · exact ⟨fun c'=>c'=c,⟨s,cs,t,hm.2.2.2.1,hm.2.2.2.2.2,hm.2.2.2.2.1,hV,.inr ⟨c,cap,cur,h1,rfl,h4,h5,h6,h7,h8⟩⟩,fun c' h=>by rw [h];exact ⟨h2,h3⟩⟩
 unfold Oper.wp
 rw [hr]
 show Calls P f _ g.w _
 have ho:=hm.2.1
 have hne:∀ c,B c → c ≠ b:=fun c hc h=>by
   have:=(hB c hc).2
   rw [h,ho] at this;simp [AUX] at this
 refine Calls.mono (hok g b B _ hR hm.1 (fun c hc=>⟨(hB c hc).1,hne c hc⟩) (hargs.ok hu)) ?_
 rintro en w' ⟨g',v,B',rfl,rfl,hS,⟨s',cs',t',r1,r2,r3,r4,r5⟩,hB',hqv⟩
 let g2:G:=⟨g'.w,g'.pr,fun c=>if c < g.w.heap.size then (if g.own c=j + AUX + 1 ∧ ¬ B' c then 0 else g.own c) else if B' c then j + AUX + 1 else 0,g'.hpr,g'.gl⟩
 have hle:g'.le g2:=⟨Nat.le_refl _,fun _ _ h=>h,fun _ _ _=>rfl,fun _ _=>rfl,Nat.le_refl _⟩
 have hsz:=hS.le.size
 have hown2:∀ c,g2.own c=if c < g.w.heap.size then (if g.own c=j + AUX + 1 ∧ ¬ B' c then 0 else g.own c) else if B' c then j + AUX + 1 else 0:=fun _=>rfl
 have hob:g2.own b=j + 1:=by
   rw [hown2,if_pos hm.1,if_neg,ho]
   rw [ho];simp [AUX]
 refine hK v g2 ⟨⟨hS.le.size,hS.le.pr,hS.le.cell,hS.le.blk,hS.le.dr⟩,hS.os,hS.tape,hS.output,fun c hc hn=>?_,fun c h1 h2=>?_,fun c hc hn=>?_⟩ fun en he'=>?_
 · have hc1:c ≠ b:=fun h=>hn (by rw [h,ho];simp)
   have hc2:¬ B c:=fun h=>hn (by rw [(hB c h).2];simp)
   obtain ⟨k1,k2⟩:=hS.same c hc (by simp [hc1,hc2])
   refine ⟨k1,k2,?_⟩
   rw [hown2,if_pos hc,if_neg]
   intro h;exact hn (by rw [h.1];simp)
 · rw [hown2,if_neg (by omega)]
   split <;> simp
 · rw [hown2,if_pos hc]
   split
   · exact .inl rfl
   · exact .inr hn
 · rcases List.mem_cons.1 he' with rfl | he'
   · rw [hd,Zed v (by rw [hN];exact hdN d hd)]
     exact Pd.le hq hle rfl rfl rfl hqv
   · rw [List.mem_singleton.1 he']
     refine Zzt (s:=s') (cs:=cs') (t:=t') ⟨Nat.lt_of_lt_of_le hm.1 hsz,hob,fun c hc hoc=>?_,r1,kV.mono hle r3,r2⟩ ?_
     · rw [hown2] at hoc
       split at hoc
       · rename_i hlt
         split at hoc
         · omega
         · exact hm.2.2.1 c hlt hoc
       · split at hoc
         · simp [AUX] at hoc
         · omega
     · refine ⟨r4.imp fun _ h=>⟨dk.sl.mono hle h.1,h.2⟩,?_⟩
       rcases r5 with ⟨h1,h2⟩ | ⟨c,cap,cur,h1,h2,h4,h5,h6,h7,h8⟩
       · exact .inl ⟨h1,h2⟩
       · obtain ⟨k1,k2⟩:=hB' c h2
         refine .inr ⟨c,cap,cur,h1,k2,?_,h4,h5,h6,h7,h8⟩
         rw [hown2]
         rcases k1 with k1 | k1
         · rw [if_pos (hB c k1).1,if_neg (by simp [h2])];exact (hB c k1).2
         · rw [if_neg (by omega),if_pos h2]
section
variable {k:Kd α} {di:Kd β} {v v':α} {u u':β} {t off:Nat}
abbrev pRB (k:Kd α) (j b:Nat) (v:α):Pd:=pAt (ptrB b 0) (Zbi (some b) k j v)
theorem Z5q {g:G} {w:Value} (h:(pRB k j b v).p g w):∃ cs t,Mine k (j + 1) v g b cs t:=by
 obtain ⟨b',cs,t,_,hm,hc⟩:=h
 obtain rfl:=hc b rfl
 exact ⟨cs,t,hm⟩
theorem Z77 {g:G} {w:Value} {cs:List Value} {t:TypeId} (hm:Mine k (j + 1) v g b cs t):(pRB k j b v).p g w:=⟨b,cs,t,rfl,hm,fun _ h=>Option.some.inj h⟩
theorem Zjy {g:G} {w:Value} (h:(pRB k j b v).p g w):Zwf k v g b:=Zc7 (show (Zbi (some b) k j v).p g (ptrB b 0) from h)
theorem Zgy {a:Act} {g:G} {L:Zbd} (h:St N ((0,Zbi (some b) k j v) :: L) a g):St N ((0,pEq (ptrB b 0)) :: (L ++ [(1002,pRB k j b v)])) a g:=⟨h.size,h.df,fun en he=>by
 obtain ⟨b',cs,t,e1,hm,hc⟩:=h.h (0,Zbi (some b) k j v) (List.mem_cons_self ..)
 obtain rfl:=hc b rfl
 rcases List.mem_cons.1 he with rfl | he
 · exact e1
 · rcases List.mem_append.1 he with he | he
   · exact h.h en (List.mem_cons_of_mem _ he)
   · rw [List.mem_singleton.1 he];exact Z77 hm⟩
theorem Zg2 (hT:Ty P t di) (hk:∀ (g:G) (cs:List Value),k.K g v cs → di.K g u (seg cs off di.sz)) (hop:o.op=.load t x) (hd:o.dst=some d) (hs:Opd uses (.tmp m) (pRB k j b v)) (hx:Opd uses x (pEq (ptrB b off))):OB P N o uses [(d,di.pd u)] [] :=
 Zcg hd fun a g hh=>by
   obtain ⟨cs,t',hm⟩:=Z5q (hs a g hh)
   have hv:a.eval x=.pointer (some ⟨b,off,none⟩):=hx a g hh
   have hu:=hk g cs hm.2.2.2.2.1
   refine ⟨mkV di.ag (seg cs off di.sz),?_,_,hu,rfl⟩
   have:=Zjr (b:=b) (of:=off) hT hu (fun i u hu=>by
     refine Zpd hm (off + i) u ?_
     simp only [seg,List.getElem?_take,List.getElem?_drop] at hu
     split at hu
     · exact hu
     · cases hu)
   simp [execOp,hop,hv,Instr.loadAt,Instr.sureAddr,this]
theorem Zu4 (hT : Ty P t di) (hop : o.op = .store t x z) (hd : o.dst = none) (hs : Opd uses (.tmp m) (pRB k j b v)) (hx : Opd uses x (pEq (ptrB b off))) (hz : Opd uses z (di.pd u'))
   (hw:∀ (g:G) (cs ys:List Value),k.K g v cs → di.K g u' ys → off + ys.length ≤ cs.length ∧ k.K g v' (Zq cs off ys)):OB P N o uses [(m,pRB k j b v')] [j + 1] :=
 Zqe hd fun a g hh=>by
   obtain ⟨cs,t',hm⟩:=Z5q (hs a g hh)
   have hv:a.eval x=.pointer (some ⟨b,off,none⟩):=hx a g hh
   obtain ⟨ys,hk,hwv⟩:=hz a g hh
   obtain ⟨hfit,hK⟩:=hw g cs ys hm.2.2.2.2.1 hk
   have hst:=Zgt (off:=off) hT hm.2.2.2.1 hk (by simpa using hfit)
   refine ⟨g.wr b (Zq cs off ys).toArray hm.1 hm.2.2.2.2.2 (fun _=>False) (j + 1),?_,Zns hm.2.1 (.inr rfl) hm.2.2.2.2.2,fun e he=>?_⟩
   · simp [execOp,hop,hv,hwv,Instr.storeAt,Instr.sureAddr,hst,wr_w,Zq]
   · rw [List.mem_singleton.1 he]
     exact Z77 (Zz9 hm hK)
theorem Zb1 {f : FuncId} {xs : List Operand} {A : List Pd} {ty : Array TypeId} (he : Zk P f) (hok : FnB P f (.box k v v' :: A.map .val) q) (hop : o.op = .call { callee := .value (.func f), args := (x :: xs).toArray, argTypes := ty }) (hd : o.dst = some d) (hq : q.fp = []) (hmd : m ≠ d)
   (hs:Opd uses (.tmp m) (pRB k j b v)) (hx:Opd uses x (pEq (ptrB b 0))) (hargs:OpdL uses xs A):OB P N o uses [(d,q),(m,pRB k j b v')] [j + 1]:=by
 intro a g K Q hN hdN hu hK
 obtain ⟨cs,t',hm⟩:=Z5q (hs a g hu)
 have hv:a.eval x=.pointer (some ⟨b,0,none⟩):=hx a g hu
 have hr:(execOp a.eval o).run P g.w=.ok (.enter f (Value.pointer (some ⟨b,0,none⟩) :: xs.map a.eval).toArray) g.w:=by
   simp [execOp,hop,resolve,Zqg,Deferred.ofValue,invoke,Zh1 he,hv]
 have vals:∀ {A:List Pd} {vs:List Value},ArgsOk A g vs → ParsOk g (A.map .val) vs []:=by
   intro A
   induction A with
   | nil=>intro vs h;cases vs with
     | nil=>trivial
     | cons v vs=>simpa using h.1
   | cons q A ih=>intro vs h;cases vs with
     | nil=>simpa using h.1
     | cons v vs=>exact ⟨h.2 0 q v rfl rfl,ih ⟨by simpa using h.1,fun i qi u h1 h2=>h.2 (i + 1) qi u (by simpa using h1) (by simpa using h2)⟩⟩
 unfold Oper.wp
 rw [hr]
 show Calls P f _ g.w _
 refine Calls.mono (hok g (Value.pointer (some ⟨b,0,none⟩) :: xs.map a.eval) [b] ⟨rfl,⟨hm.1,⟨cs,t',hm.2.2.2.1,hm.2.2.2.2.1⟩,hm.2.2.2.2.2⟩,by simp,vals (hargs.ok hu)⟩) ?_
 rintro en w' ⟨g',r,rfl,rfl,hS,⟨⟨m1,⟨cs',t2,m2,m3⟩,m4⟩,_⟩,hqv⟩
 let g2:G:=⟨g'.w,g'.pr,fun c=>if c < g.w.heap.size then g.own c else 0,g'.hpr,g'.gl⟩
 have hle:g'.le g2:=⟨Nat.le_refl _,fun _ _ h=>h,fun _ _ _=>rfl,fun _ _=>rfl,Nat.le_refl _⟩
 have hown:∀ c,g2.own c=if c < g.w.heap.size then g.own c else 0:=fun _=>rfl
 refine hK r g2 ⟨⟨hS.le.size,hS.le.pr,hS.le.cell,hS.le.blk,hS.le.dr⟩,hS.os,hS.tape,hS.output,fun c hc hn=>?_,fun c k1 k2=>.inl (by rw [hown,if_neg (by omega)]),fun c hc hn=>.inr (by rw [hown,if_pos hc];exact hn)⟩ fun en he'=>?_
 · have hc1:c ∉ [b]:=fun h=>hn (by rw [List.mem_singleton.1 h,hm.2.1];simp)
   obtain ⟨k1,k2⟩:=hS.same c hc hc1
   exact ⟨k1,k2,by rw [hown,if_pos hc]⟩
 · rcases List.mem_cons.1 he' with rfl | he'
   · rw [hd,Zed r (by rw [hN];exact hdN d hd)]
     exact Pd.le hq hle rfl rfl rfl hqv
   · rw [List.mem_singleton.1 he']
     refine Z77 (cs:=cs') (t:=t2) ⟨m1,by rw [hown,if_pos hm.1];exact hm.2.1,fun c hc ho=>?_,m2,k.mono hle m3,m4⟩
     rw [hown] at ho
     split at ho
     · rename_i hlt;exact hm.2.2.1 c hlt ho
     · omega
end
theorem tup0 {g:G}:(pTup []).p g (.tuple #[]):=⟨[],rfl,rfl,fun i q u h=>by simp at h⟩
theorem Zbbk {fn:Func} {w:Value} {a:Act} {g g0:G} {L:Zbd} (hr:fn.results=#[]) (h:St N L a g) (hb:Base g0 g) (hs:(pSJ kV raw (hpL (pRow dk e AUX (lst x1))) 0 b x1).p g w):bodyPost P fn (FinP (Z25 kV raw lst dk e b x1 g0 (pTup []))) .ret a g.w :=
 ⟨h.df,_,by simp [Zgl,hr],g,_,rfl,rfl,hb,tup0,hs⟩
theorem Zpc {fn:Func} {w:Value} {a:Act} {g g0:G} {L:Zbd} (hr:fn.results=#[]) (h:St N L a g) (hb:Base g0 g) (hs:(pSJ kV raw (hpL (pRow dk e AUX (lst x1))) 0 b x1).p g w):bodyPost P fn (FinP (Z25 kV raw lst dk e b x1 g0 (pTup []))) .normal a g.w :=
 ⟨h.df,_,by simp [Zgl,hr],g,_,rfl,rfl,hb,tup0,hs⟩
theorem Zbay {fn:Func} {a:Act} {g g0:G} {L:Zbd} {Ps:List Par} {bs:List Nat} (hr:fn.results=#[]) (h:St N L a g) (hb:Base g0 g) (hp:Zkg g Ps bs):bodyPost P fn (FinP (BEnd Ps bs g0 (pTup []))) .normal a g.w :=
 ⟨h.df,_,by simp [Zgl,hr],g,_,rfl,rfl,hb,tup0,hp⟩
end
section
variable {P:Program} {N:Nat} {o:Oper} {uses:Zbd} {d:Nat} {q:Pd} {x y z:Operand} {t e j:Nat}
def bts (s:ByteArray):List Int:=s.data.toList.map fun b=>(b.toNat:Int)
theorem Zmz (s:ByteArray):(bts s).length=s.size:=by rw [bts,List.length_map,Array.length_toList];rfl
theorem Zvi (s:ByteArray):strCells s=(bts s).map (Value.int .u8):=by simp [strCells,bts]
abbrev kU8:Kd Int:=Kd.int .u8
theorem Zbd7 {g:G} {xs:List Int} {ws:List Value} (h:ws.take xs.length=xs.map (Value.int .u8)):∀ i x,xs[i]?=some x → kU8.K g x (seg ws (i * kU8.sz) kU8.sz):=by
 intro i x hx
 have hlt:=(List.getElem?_eq_some_iff.1 hx).1
 have h1:ws[i]?=some (.int .u8 x):=by
   have:(ws.take xs.length)[i]?=(xs.map (Value.int .u8))[i]?:=by rw [h]
   rw [List.getElem?_take,if_pos hlt,List.getElem?_map,hx] at this
   exact this
 show seg ws (i * 1) 1=[Value.int .u8 x]
 have hl:=(List.getElem?_eq_some_iff.1 h1).1
 rw [Nat.mul_one]
 unfold seg
 rw [List.drop_eq_getElem_cons hl]
 simp [(List.getElem?_eq_some_iff.1 h1).2]
theorem Zbfx {g:G} {xs:List Int} {b cap:Nat} {cur:Array Value} (hV:kU8.sl.V g xs (.slice (some ⟨b,0,none⟩) xs.length cap)) (hg:g.w.heap[b]?=some (.cells cur e (0,0))) (hc:xs.length ≤ cur.size):cur.toList.take xs.length=xs.map (Value.int .u8):=by
 obtain ⟨A',c',hv',_,_,hr'⟩:=Kd.sl_V.1 hV
 injection hv' with hA _ _
 apply List.ext_getElem?
 intro i
 rw [List.getElem?_take,List.getElem?_map]
 by_cases hi:i < xs.length
 · rw [if_pos hi]
   rcases hr' with hr' | ⟨b',of',hA',hr'⟩
   · rw [hr'] at hi;simp at hi
   · rw [hA'] at hA
     injection hA with hA
     injection hA with hA1 hA2
     subst hA1;subst hA2
     obtain ⟨cs,hk,hcs⟩:=hr' i xs[i] (List.getElem?_eq_getElem hi)
     have hk':cs=[Value.int .u8 xs[i]]:=hk
     subst hk'
     have:=(hcs 0 _ rfl).2
     simp only [World.cell?,hg] at this
     have h0:0 + i * kU8.sz + 0=i:=by show 0 + i * 1 + 0=i;omega
     rw [h0] at this
     rw [List.getElem?_eq_getElem hi]
     simpa using this
 · rw [if_neg hi,List.getElem?_eq_none (by omega)];rfl
theorem Z54 {tx : TypeId} {xs : List Int} {s : ByteArray} (hT : TE P t e kU8 1) (hu : P.underlying tx = some .string) (hop : o.op = .call { callee := .builtin .append, args := #[x, y], argTypes := #[t, tx] }) (hd : o.dst = some d) (hx : Opd uses x (pRow kU8 e j xs)) (hy : Opd uses y (pStr s))
   (hl:xs.length + s.size ≤ 140737488355328):OB P N o uses [(d,pRow kU8 e j (xs ++ bts s))] [j + 1] :=
 Zhb hd fun a g hh=>by
   obtain ⟨hV,hTl⟩:=hx a g hh
   have hyv:=Zl5.1 (hy a g hh)
   obtain ⟨i,z,hi,hz,hsz,hby,hzs⟩:=hT.info
   have hs1:i.size=1:=hsz
   have hz1:z.cells.size=1:=hzs
   have hexec:∀ v w',(Builtin.append_ #[t,tx] o.type #[a.eval x,a.eval y]).run P g.w=.ok v w' → (execOp a.eval o).run P g.w=.ok (.value v) w':=fun v w' h=>by
     simp [execOp,hop,resolve,invoke,builtin,h]
   have hlen2:(xs ++ bts s).length=xs.length + s.size:=by simp [Zmz]
   by_cases h0:s.size=0
   · have hb0:bts s=[]:=List.eq_nil_of_length_eq_zero (by rw [Zmz];exact h0)
     have hf:=run_firstCells_string (P:=P) g.w 1 s
     have hsc:strCells s=[]:=List.eq_nil_of_length_eq_zero (by rw [strCells_length];exact h0)
     refine ⟨a.eval x,g,hexec _ _ ?_,.refl _ _,by rw [hb0,List.append_nil];exact hV,by rw [hb0,List.append_nil];exact hTl⟩
     rw [hyv]
     rw [h0,hsc] at hf
     rcases hTl with ⟨hv,hn⟩ | ⟨b,cap,cur,hv,_,_,hg,hnc,_⟩
     · rw [hv]
       simp [Builtin.append_,run_underlying hT.und,run_underlying hu,sizeOf,typeInfo,hi,hs1,Builtin.lenOf,h0,hf]
     · rw [hv]
       simp [Builtin.append_,run_underlying hT.und,run_underlying hu,sizeOf,typeInfo,hi,hs1,Builtin.lenOf,h0,hnc,hf,storeCells]
   · have hpos:0 < s.size:=by omega
     have fresh : ∀ (cap : Nat), xs.length + s.size ≤ cap → cap ≤ maxLen → (∀ (g' : G), g.le g' → True) →
         ∃ g':G,g'.w=g.w.drew.alloc (.cells ((xs.map (Value.int .u8)).toArray ++ (strCells s).toArray ++ Builtin.zeroCells z.cells (cap - (xs.length + s.size))) e) ∧ Step [j + 1] g g' ∧ (pRow kU8 e j (xs ++ bts s)).p g' (.slice (some ⟨g.w.heap.size,0,none⟩) (xs.length + s.size) cap):=by
       intro cap hcap hmax _
       have hs1':=Step.drew g
       have hs2:=Znp g.drew ((xs.map (Value.int .u8)).toArray ++ (strCells s).toArray ++ Builtin.zeroCells z.cells (cap - (xs.length + s.size))) e (fun i=>i < (xs ++ bts s).length * kU8.sz) (j + 1)
       have hs:Step [j + 1] g (g.drew.push ((xs.map (Value.int .u8)).toArray ++ (strCells s).toArray ++ Builtin.zeroCells z.cells (cap - (xs.length + s.size))) e (fun i=>i < (xs ++ bts s).length * kU8.sz) (j + 1)):=(hs1'.sub (by simp)).trans hs2
       refine ⟨_,rfl,hs,?_⟩
       refine Znn hlen2 (by rw [Zhm,Zjj];exact Nat.lt_succ_self _) (by simp [G.push,G.drew]) (Zno g.drew.w _) (by rw [hlen2];exact hcap) hmax ?_ ?_ (fun i=>by simp [G.push,G.drew]) hT.sz (by rw [hlen2];omega)
       · simp only [Array.size_append,List.size_toArray,size_zeroCells,hz1,List.length_map,strCells_length]
         show _=cap * 1
         omega
       · refine Zbd7 ?_
         have e1:((xs.map (Value.int .u8)).toArray ++ (strCells s).toArray ++ Builtin.zeroCells z.cells (cap - (xs.length + s.size))).toList=(xs ++ bts s).map (Value.int .u8) ++ (Builtin.zeroCells z.cells (cap - (xs.length + s.size))).toList:=by simp [Zvi]
         rw [e1,List.take_append_of_le_length (by simp),List.take_of_length_le (by simp)]
     rcases hTl with ⟨hv,hn⟩ | ⟨b,cap,cur,hv,hblt,hown,hg,hncap,hmaxc,hcsz,hunpr⟩
     · have hx0:xs=[]:=List.eq_nil_of_length_eq_zero hn
       subst hx0
       have hr:=run_append_nil_string (P:=P) g.w t tx o.type e i z hT.und hu hi hz s hpos (by simp at hl;omega) (by rw [hby];simp at hl;omega)
       have hge:=grownCap_ge g.w s.size 0 e
       have hmx:=grownCap_le_maxLen g.w s.size 0 e (by simp only [maxLen];simp at hl;omega)
       obtain ⟨g',hw,hs,hp⟩:=fresh (grownCap g.w s.size 0 e) (by simpa using hge) hmx (fun _ _=>trivial)
       simp only [List.length_nil,Nat.zero_add] at hw hp
       refine ⟨_,g',hexec _ _ ?_,hs,hp⟩
       rw [hv,hyv,hr,hw]
       have e2:s.data.map (fun b=>Value.int .u8 b.toNat)=(strCells s).toArray:=by
         apply Array.ext'
         simp [strCells]
       rw [e2];simp
     · have hcs:cur.size=cap:=by have:cur.size=cap * 1:=hcsz;omega
       have hxs:=Zbfx (by rw [← hv];exact hV) hg (by omega)
       by_cases hroom:xs.length + s.size ≤ cap
       · have hr:=run_append_room_string (P:=P) g.w t tx o.type e i hT.und hu hi hs1 b xs.length cap cur hg s hroom (by omega)
         have hp1:∀ b' i,g.pr b' i → (if b'=b then i < (xs ++ bts s).length * kU8.sz else g.pr b' i):=fun b' i h=>by
           split
           · rename_i he;subst he
             have h1:i < xs.length * kU8.sz:=Nat.lt_of_not_le fun h2=>hunpr i h2 h
             have h2:xs.length * kU8.sz ≤ (xs ++ bts s).length * kU8.sz:=Nat.mul_le_mul_right _ (by rw [hlen2];omega)
             omega
           · exact h
         have hp2:∀ b' i,g.pr b' i → (g.w.setRow b (cur.toList.take xs.length ++ strCells s ++ cur.toList.drop (xs.length + s.size)).toArray).cell? ⟨b',i,none⟩=g.w.cell? ⟨b',i,none⟩:=fun b' i h=>by
           by_cases he:b'=b
           · subst he
             have h1:i < xs.length * kU8.sz:=Nat.lt_of_not_le fun h2=>hunpr i h2 h
             have h1':i < xs.length:=by have:i < xs.length * 1:=h1;omega
             simp only [World.cell?,setRow_heap _ _ _ _ _ _ hg,hg]
             simp only [Option.isSome_none,Bool.false_eq_true,if_false,List.getElem?_toArray]
             rw [List.append_assoc,List.getElem?_append,if_pos (by simp;omega),List.getElem?_take,if_pos h1']
             simp
           · exact Zn6 (setRow_other _ _ _ _ he)
         let g' : G := ⟨g.w.setRow b (cur.toList.take xs.length ++ strCells s ++ cur.toList.drop (xs.length + s.size)).toArray, (fun b' i => if b' = b then i < (xs ++ bts s).length * kU8.sz else g.pr b' i), g.own, fun b' i h => by
             rw [Zdi]
             split at h
             · rename_i he;rw [he];exact hblt
             · exact g.hpr b' i h,g.gl.le hp1 hp2⟩
         have hs:Step [j + 1] g g' :=
           { le := {
               size:=by show _ ≤ (g.w.setRow b _).heap.size;rw [Zdi];exact Nat.le_refl _
               pr:=hp1
               cell:=hp2
               blk:=fun b' h=>setRow_other _ _ _ _ (fun he=>hunpr _ (Nat.le_refl _) (by rw [← he];exact h _))
               dr:=Nat.le_refl _ }
             os:=rfl
             tape:=rfl
             output:=rfl
             same:=fun b' _ hn=>by
               have:b' ≠ b:=fun he=>by subst he;exact hn (by simp [hown])
               exact ⟨setRow_other _ _ _ _ this,by funext i;show (if b'=b then _ else _)=_;rw [if_neg this],rfl⟩
             new:=fun b' h1 h2=>by
               have:(g.w.setRow b (cur.toList.take xs.length ++ strCells s ++ cur.toList.drop (xs.length + s.size)).toArray).heap.size=g.w.heap.size:=Zdi ..
               have h2':b' < (g.w.setRow b (cur.toList.take xs.length ++ strCells s ++ cur.toList.drop (xs.length + s.size)).toArray).heap.size:=h2
               omega
             old:=fun b' _ h=>.inr h }
         refine ⟨_,g',hexec _ _ (by rw [hv,hyv];exact hr),hs,?_⟩
         refine Znn hlen2 (by show b < (g.w.setRow b _).heap.size;rw [Zdi];exact hblt) hown (setRow_heap _ _ _ _ _ _ hg) (by rw [hlen2];exact hroom) hmaxc ?_ ?_ (fun i=>by simp [g']) hT.sz (by rw [hlen2];omega)
         · simp only [List.size_toArray,List.length_append,List.length_take,List.length_drop,Array.length_toList,strCells_length]
           show _=cap * 1
           omega
         · refine Zbd7 ?_
           rw [hxs,List.append_assoc,← List.append_assoc,Zvi,← List.map_append]
           show List.take _ (List.map _ (xs ++ bts s) ++ _)=_
           rw [List.take_append_of_le_length (by simp),List.take_of_length_le (by simp)]
       · have hr := run_append_grow_string (P := P) g.w t tx o.type e i z hT.und hu hi hz ⟨b, 0, none⟩ xs.length cap (xs.map (Value.int .u8)) (by rw [hs1]; simp) (fun k u hu => by
           rw [Zdf]
           simp only [World.cell?,hg,Nat.zero_add]
           rw [← hxs,List.getElem?_take] at hu
           split at hu
           · simpa using hu
           · cases hu) s (by omega) (by omega) (growslice_fits (by omega) (by rw [hby];omega))
         have hge:=grownCap_ge g.w (xs.length + s.size) cap e
         have hmx:=grownCap_le_maxLen g.w (xs.length + s.size) cap e (by simp only [maxLen];omega)
         obtain ⟨g',hw,hs,hp⟩:=fresh (grownCap g.w (xs.length + s.size) cap e) hge hmx (fun _ _=>trivial)
         refine ⟨_,g',hexec _ _ ?_,hs,hp⟩
         rw [hv,hyv,hr,hw]
end
end Go.CL
namespace Go.CL
open Go Go.RowKit
inductive RB where
 | o (p:Nat)
 | b (i k:Nat)
instance (n:Nat):OfNat RB n:=⟨cond (Nat.beq (n % 10) 5) (.o (n / 10)) (.b (n / 10) (n % 10))⟩
structure Sp where
 refs:List RB
 outs:Zbd
 S:List Nat
def kth (X:Option Sp) (k:Nat):Nat × Pd:=((X.map (·.outs)).getD []).getD k (0,pAny)
def refA (L:Zbd) (acc:List Sp):RB → Nat × Pd
 | .o p=>L.getD p (0,pAny)
 | .b i k=>kth acc[i]? k
def refE (L:Zbd) (T:List Sp):RB → Nat × Pd
 | .o p=>L.getD p (0,pAny)
 | .b j k=>kth T[j]? k
def absR (L:Zbd) (x:Nat):RB → Ref
 | .o p=>.old p
 | .b i k=>bif decide (i < x) then .op (x - 1 - i) k else .old L.length
def absE:RB → Ref
 | .o p=>.old p
 | .b j k=>.op j k
def Zbao (ms:List Nat) (o:Oper):Nat:=(Zqs o).foldl (fun m j=>m ||| ((1 <<< j) ||| ms.getD j 0)) 0
def Zua (L all:Zbd):List Oper → List Nat → List Sp → List Spec
 | o :: os,ms,X :: Xs=>⟨X.refs.map (absR L ms.length),X.outs,X.S,(List.range ms.length).filter (fun j=>(Zbao ms o).testBit j),o.dst.toList ++ X.outs.map (·.1) ++ (bif X.S.isEmpty then [] else (all.filter fun e=>e.2.fp.any X.S.contains).map (·.1))⟩ :: Zua L all os (ms ++ [Zbao ms o]) Xs
 | _,_,_=>[]
section
variable {P:Program} {N:Nat} {ops:Array Oper} {L:Zbd} {T:List Sp} {F:List RB} {o:Oper} {os:List Oper} {X:Sp} {Xs acc:List Sp} {uses outs:Zbd} {S:List Nat} {d j s:Nat} {q:Pd} {D:List Deferred}
def AllA (P:Program) (ops:Array Oper) (N:Nat) (L:Zbd):List Sp → List Oper → List Sp → Prop
 | acc,o :: os,X :: Xs=>OT P ops N o (X.refs.map (refA L acc)) X.outs X.S ∧ AllA P ops N L (X :: acc) os Xs
 | _,[],[]=>True
 | _,_,_=>False
theorem Z3o:∀ {os:List Oper} {Xs acc:List Sp},AllA P ops N L acc os Xs → Xs.length=os.length
 | _ :: _,_ :: _,_,h=>by simp [Z3o h.2]
 | [],[],_,_=>rfl
 | [],_ :: _,_,h=>h.elim
 | _ :: _,[],_,h=>h.elim
theorem Zy0 {all:Zbd}:∀ {os:List Oper} {Xs:List Sp} {ms:List Nat} (j:Nat),Xs.length=os.length → ((Zua L all os ms Xs)[j]?).map (·.outs)=(Xs[j]?).map (·.outs)
 | _ :: _,X :: Xs,ms,0,_=>rfl
 | _ :: _,X :: Xs,ms,j + 1,h=>by
   simp only [List.length_cons] at h
   simp only [Zua,List.getElem?_cons_succ]
   exact Zy0 j (Nat.succ.inj h)
 | [],[],_,j,_=>by simp [Zua]
 | [],_ :: _,_,_,h=>by simp at h
 | _ :: _,[],_,_,h=>by simp at h
theorem Z7p {T':List Spec} {Y:Option Sp} {j k:Nat} (h:(T'[j]?).map (·.outs)=Y.map (·.outs)):Zri T' j k=kth Y k:=by unfold Zri kth;rw [h]
theorem Zbf0 {T':List Spec} (hT:∀ j:Nat,(T'[j]?).map (·.outs)=(T[j]?).map (·.outs)) (hacc:∀ i:Nat,i < acc.length → acc[i]?=T[acc.length - 1 - i]?) (r:RB):Zf8 L T' (absR L acc.length r)=refA L acc r:=by
 cases r with
 | o p=>rfl
 | b i k =>
   by_cases h:i < acc.length
   · have e:absR L acc.length (.b i k)=.op (acc.length - 1 - i) k:=by simp [absR,h]
     rw [e]
     show Zri T' _ k=kth acc[i]? k
     rw [Z7p (hT _),hacc i h]
   · have e:absR L acc.length (.b i k)=.old L.length:=by simp [absR,h]
     rw [e]
     show L.getD L.length (0,pAny)=kth acc[i]? k
     rw [List.getElem?_eq_none (by omega)]
     simp [kth]
theorem Zbfp {T':List Spec} (hT:∀ j:Nat,(T'[j]?).map (·.outs)=(T[j]?).map (·.outs)) (r:RB):Zf8 L T' (absE r)=refE L T r:=by
 cases r with
 | o p=>rfl
 | b j k=>exact Z7p (hT j)
theorem Z5z {all:Zbd} {T':List Spec} (hT:∀ j:Nat,(T'[j]?).map (·.outs)=(T[j]?).map (·.outs)):∀ {os:List Oper} {Xs acc:List Sp} {ms:List Nat},ms.length=acc.length → T=acc.reverse ++ Xs → AllA P ops N L acc os Xs → AllOT P ops N L T' os (Zua L all os ms Xs)
 | o :: os,X :: Xs,acc,ms,hm,he,h=>by
   refine ⟨?_,Z5z hT (by simp [hm]) (by rw [he];simp) h.2⟩
   have hacc:∀ i:Nat,i < acc.length → acc[i]?=T[acc.length - 1 - i]?:=fun i hi=>by
     rw [he,List.getElem?_append_left (by simp;omega),List.getElem?_reverse (by omega)]
     congr 1;omega
   show OT P ops N o ((X.refs.map (absR L ms.length)).map (Zf8 L T')) X.outs X.S
   rw [List.map_map,hm,show (Zf8 L T' ∘ absR L acc.length)=refA L acc from funext fun r=>Zbf0 hT hacc r]
   exact h.1
 | [],[],_,_,_,_,_=>trivial
 | [],_ :: _,_,_,_,_,h=>h.elim
 | _ :: _,[],_,_,_,_,h=>h.elim
def chkA (N:Nat) (ops:Array Oper) (L:Zbd) (T:List Sp) (F:List RB):Bool:=chk N ops L (Zua L (L ++ T.flatMap (·.outs)) ops.toList [] T) (F.map absE)
theorem r_b (F : List RB) {id : Nat} {draw : Bool} {g0 : G} {a : Act} {g : G} {Q : Exit → Act → World → Prop} (h : StD D N L a g) (hb : Base g0 g) (hm : P.follows .mixedOrders = true) (hT : AllA P ops N L [] ops.toList T)
   (hQ:∀ a g,StD D N (F.map (refE L T)) a g → Base g0 g → Q .normal a g.w) (hc:chkA N ops L T F=true:=by kernel_rfl):(Code.region id ops draw).wp P Q a g.w:=by
 have hl:=Z3o hT
 have hT':=fun j=>Zy0 (L:=L) (all:=L ++ T.flatMap (·.outs)) (ms:=[]) (Xs:=T) (os:=ops.toList) j hl
 refine Zrt hm hc (Z5z hT' rfl rfl hT) h hb fun a g hst hb=>hQ a g ?_ hb
 rw [List.map_map,show (Zf8 L (Zua L (L ++ T.flatMap (·.outs)) ops.toList [] T) ∘ absE)=refE L T from funext fun r=>Zbfp hT' r] at hst
 exact hst
theorem r_a (F : List RB) {id : Nat} {draw : Bool} {g0 : G} {a : Act} {g : G} {Q : Exit → Act → World → Prop} {y : Code} (h : StD D N L a g) (hb : Base g0 g) (hm : P.follows .mixedOrders = true) (hT : AllA P ops N L [] ops.toList T)
   (hQ:∀ a g,StD D N (F.map (refE L T)) a g → Base g0 g → y.wp P Q a g.w) (hc:chkA N ops L T F=true:=by kernel_rfl):(Code.seq (Code.region id ops draw) y).wp P Q a g.w:=wp_seq (r_b F h hb hm hT hQ hc)
theorem a_p (r:List RB) (hg:o.guard=none) (h:OB P N o (r.map (refA L acc)) outs S) (hs:AllA P ops N L (⟨r,outs,S⟩ :: acc) os Xs):AllA P ops N L acc (o :: os) (⟨r,outs,S⟩ :: Xs):=⟨.plain hg h,hs⟩
theorem a_g (r:List RB) (h:OT P ops N o (r.map (refA L acc)) outs S) (hs:AllA P ops N L (⟨r,outs,S⟩ :: acc) os Xs):AllA P ops N L acc (o :: os) (⟨r,outs,S⟩ :: Xs):=⟨h,hs⟩
theorem a_n:AllA P ops N L acc [] []:=trivial
theorem Am (r:RB) (h:(o.guard,o.op,o.dst,refA L acc r)=(none,.move (.tmp s),some d,(s,q))) (hs:AllA P ops N L (⟨[r],[(d,q)],[]⟩ :: acc) os Xs):AllA P ops N L acc (o :: os) (⟨[r],[(d,q)],[]⟩ :: Xs):=by
 simp only [Prod.mk.injEq] at h
 exact a_p [r] h.1 (Z6 h.2.1 h.2.2.1 (by rw [List.map_cons,show refA L acc r=(s,q) from h.2.2.2];exact u_0)) hs
theorem Aa (r:RB) (h:(o.guard,o.op,o.dst,refA L acc r)=(none,.assign (.tmp s),some d,(s,q))) (hs:AllA P ops N L (⟨[r],[(d,q)],[]⟩ :: acc) os Xs):AllA P ops N L acc (o :: os) (⟨[r],[(d,q)],[]⟩ :: Xs):=by
 simp only [Prod.mk.injEq] at h
 exact a_p [r] h.1 (Zd h.2.1 h.2.2.1 (by rw [List.map_cons,show refA L acc r=(s,q) from h.2.2.2];exact u_0)) hs
variable {α β:Type} {dk:Kd α} {di:Kd β} {t i jj off:Nat} {v:α} {z:β} {pj:α → β} {c:Option Nat}
theorem Al (hT:Ty P t dk) (r:RB) (h:(o.guard,o.op,o.dst,refA L acc r)=(none,.load t (.tmp s),some d,(s,dk.ptr v))) (hs:AllA P ops N L (⟨[r],[(d,dk.pd v)],[]⟩ :: acc) os Xs):AllA P ops N L acc (o :: os) (⟨[r],[(d,dk.pd v)],[]⟩ :: Xs):=by
 simp only [Prod.mk.injEq] at h
 exact a_p [r] h.1 (Z2 hT h.2.1 h.2.2.1 (by rw [List.map_cons,show refA L acc r=(s,dk.ptr v) from h.2.2.2];exact u_0)) hs
theorem Af (hF:Fld P t i dk di pj) (r:RB) (h:(o.guard,o.op,o.dst,refA L acc r)=(none,.fieldAddr t (.tmp s) i,some d,(s,dk.ptr v))) (hs:AllA P ops N L (⟨[r],[(d,di.ptr (pj v))],[]⟩ :: acc) os Xs):AllA P ops N L acc (o :: os) (⟨[r],[(d,di.ptr (pj v))],[]⟩ :: Xs):=by
 simp only [Prod.mk.injEq] at h
 exact a_p [r] h.1 (Zl hF h.2.1 h.2.2.1 (by rw [List.map_cons,show refA L acc r=(s,dk.ptr v) from h.2.2.2];exact u_0)) hs
theorem AM (hT:Ty P t dk) (r:RB) (h:(o.guard,o.op,o.dst,refA L acc r)=(none,.load t (.tmp s),some d,(s,Zbi c dk jj v))) (hs:AllA P ops N L (⟨[r],[(d,dk.pd v)],[]⟩ :: acc) os Xs):AllA P ops N L acc (o :: os) (⟨[r],[(d,dk.pd v)],[]⟩ :: Xs):=by
 simp only [Prod.mk.injEq] at h
 exact a_p [r] h.1 (Ztk (c:=c) hT h.2.1 h.2.2.1 (by rw [List.map_cons,show refA L acc r=(s,Zbi c dk jj v) from h.2.2.2];exact u_0)) hs
theorem AP (hT:Ty P t di) (r:RB) (h:(o.guard,o.op,o.dst,refA L acc r)=(none,.load t (.tmp s),some d,(s,Zds dk jj v off di z))) (hs:AllA P ops N L (⟨[r],[(d,di.pd z)],[]⟩ :: acc) os Xs):AllA P ops N L acc (o :: os) (⟨[r],[(d,di.pd z)],[]⟩ :: Xs):=by
 simp only [Prod.mk.injEq] at h
 exact a_p [r] h.1 (Zmb hT h.2.1 h.2.2.1 (by rw [List.map_cons,show refA L acc r=(s,Zds dk jj v off di z) from h.2.2.2];exact u_0)) hs
end
section
variable {P:Program} {N:Nat} {o:Oper} {uses outs:Zbd} {S:List Nat} {d:Nat} {q:Pd} {x y z:Operand}
def bstr (xs:List Int):ByteArray:=xs.foldl (fun r n=>r.push (UInt8.ofNat n.toNat)) ByteArray.empty
theorem Zbfg {src dst e:TypeId} {xs:List Int} (hs:P.underlying src=some (.slice e)) (he:P.underlying e=some (.int .u8)) (hd':P.underlying dst=some .string) (hop:o.op=.convert src dst x) (hd:o.dst=some d) (hx:Opd uses x ((Kd.int .u8).sl.pd xs)):OB P N o uses [(d,pStr (bstr xs))] [] :=
 Zcg hd fun a g hh=>by
   obtain ⟨A,c,hv,h1,h2,hR⟩:=Kd.sl_V.1 (hx a g hh)
   have main:∀ b of,A=some ⟨b,of,none⟩ → (loadCells ⟨b,of,none⟩ xs.length).run P g.w=.ok (xs.map (Value.int .u8)).toArray g.w → ∃ v,(execOp a.eval o).run P g.w=.ok (.value v) g.w ∧ (pStr (bstr xs)).p g v:=by
     rintro b of rfl hl
     exact ⟨.string (bstr xs),by simp [execOp,hop,hv,run_convert_bytes_string g.w src dst e (some ⟨b,of,none⟩) xs.length c hs he hd',run_bytesToString g.w ⟨b,of,none⟩ xs.length c xs hl,bstr],Zl5.2 rfl⟩
   rcases hR with rfl | ⟨b,of,rfl,hR⟩
   · cases A with
     | none=>exact ⟨.string ByteArray.empty,by simp [execOp,hop,hv,run_convert_bytes_string g.w src dst e none 0 c hs he hd',Conv.bytesToString],Zl5.2 rfl⟩
     | some A =>
       have hl:(loadCells A ([]:List Int).length).run P g.w=.ok (([]:List Int).map (Value.int .u8)).toArray g.w:=by simp [loadCells,loadCellsFrom]
       exact ⟨.string (bstr []),by simp [execOp,hop,hv,run_convert_bytes_string g.w src dst e (some A) 0 c hs he hd',run_bytesToString g.w A 0 c [] hl,bstr],Zl5.2 rfl⟩
   · refine main b of rfl ?_
     have hl:(loadCells ⟨b,of,none⟩ (xs.map (Value.int .u8)).length).run P g.w=.ok (xs.map (Value.int .u8)).toArray g.w:=by
       refine run_loadCells_list g.w ⟨b,of,none⟩ (xs.map (Value.int .u8)) fun i u hu=>?_
       rw [List.getElem?_map] at hu
       obtain ⟨n,hn,rfl⟩:=Option.map_eq_some_iff.1 hu
       obtain ⟨cs,k1,k2⟩:=hR i n hn
       obtain rfl:=k1
       have:=(k2 0 (.int .u8 n) rfl).2
       have hsz:(Kd.int .u8).sz=1:=rfl
       rw [hsz,Nat.mul_one,Nat.add_zero] at this
       rw [Zdf];exact this
     rwa [List.length_map] at hl
end
section
variable {P:Program} {N:Nat} {o:Oper} {uses outs:Zbd} {S:List Nat} {d:Nat} {q:Pd} {x y z:Operand} {Q:Exit → Act → World → Prop} {a:Act} {w:World} {K:Act → World → Prop} {D:List Deferred} {g0:G} {ops:Array Oper} {L:Zbd} {T:List Spec} {F:List Ref} {os:List Oper} {X:Spec} {Xs:List Spec}
theorem Zs6 {ch:List PanicEntry} (h:Q (.panic ch) a w):Exit.then K Q (.panic ch) a w:=h
theorem Z1t {id:Nat} {ch:List PanicEntry} (h:Q (.panic ch) a w):Exit.inBlock id Q (.panic ch) a w:=h
theorem r_gQ {id : Nat} {draw : Bool} {a : Act} {g : G} {Q : Exit → Act → World → Prop} (h : StD D N L a g) (hb : Base g0 g) (hm : P.follows .mixedOrders = true) (hT : Zlp P ops N L T D g0 Q ops.toList T) (hc : chk N ops L T F = true)
   (hQ:∀ a g,StD D N (F.map (Zf8 L T)) a g → Base g0 g → Q .normal a g.w):(Code.region id ops draw).wp P Q a g.w:=Z7s hm hc hT h hb hQ
theorem q_p (hg:o.guard=none) (h:OB P N o (X.refs.map (Zf8 L T)) X.outs X.S) (hs:Zlp P ops N L T D g0 Q os Xs):Zlp P ops N L T D g0 Q (o :: os) (X :: Xs):=⟨(OT.plain hg h).q,hs⟩
theorem q_q (h:OTQ P ops N o (X.refs.map (Zf8 L T)) X.outs X.S D g0 Q) (hs:Zlp P ops N L T D g0 Q os Xs):Zlp P ops N L T D g0 Q (o :: os) (X :: Xs):=⟨h,hs⟩
theorem q_n:Zlp P ops N L T D g0 Q [] []:=trivial
def pNo:Pd:=⟨fun _ _=>False,[],fun _ _ h=>h⟩
theorem Zzb (hx:Opd uses x pNo):OB P N o uses outs S:=fun a g K Q hN hdN hu hK=>(hx a g hu).elim
def Zok (t:TypeId) (q:Pd):Pd:=⟨fun g v=>∃ u,v=.iface t u ∧ q.p g u,q.fp,fun st hd ⟨u,e,h⟩=>⟨u,e,q.st st hd h⟩⟩
theorem Zbdk {t:TypeId} (ht:(P.underlying t).map (fun u=>match u with | .interface _=>true | _=>false)=some false) (hop:o.op=.makeInterface t x) (hd:o.dst=some d) (hx:Opd uses x q):OB P N o uses [(d,Zok t q)] [] :=
 Zcg hd fun a g hh=>by
   refine ⟨.iface t (a.eval x),?_,_,rfl,hx a g hh⟩
   cases hu:P.underlying t with
   | none=>rw [hu] at ht;cases ht
   | some u =>
     rw [hu] at ht
     cases u <;> first | (simp at ht;done) | simp [execOp,hop,Instr.makeInterface,run_underlying hu]
theorem Zbbt {t:TypeId} (hop:o.op=.panic x) (hg:o.guard=none) (hx:Opd uses x (Zok t q)) (hQ:∀ (a:Act) g v,a.tmps.size=N → a.defers=D → Base g0 g → Zeh uses a g → (Zok t q).p g v → Q (.panic [{ v:=v,recovered:=false }]) a g.w):OTQ P ops N o uses outs S D g0 Q:=by
 intro a g K hN hD hb hdN hu hK
 have:Region.wanted o (yielded ops a.tmps)=true:=by simp [Region.wanted,hg]
 rw [if_pos this]
 obtain ⟨u,hv,hq⟩:=hx a g hu
 have hr:(execOp a.eval o).run P g.w=.halt (.panic (.iface t u)) g.w:=by simp [execOp,hop,hv,Instr.panic,goPanic]
 unfold Oper.wp
 rw [hr]
 exact hQ a g _ hN hD hb hu ⟨u,rfl,hq⟩
def Z8o (P:Program) (f:FuncId) (A:List Pd) (q:Pd):Prop:=∀ (g:G) (args:List Value),ArgsOk A g args → Calls P f args.toArray g.w (fun e w'=>∃ g' v,e=.panicked [{ v:=v,recovered:=false }] ∧ w'=g'.w ∧ Step [] g g' ∧ q.p g' v)
def Zba7 (g0:G) (q:Pd):Ending → World → Prop:=fun e w'=>∃ g1 v,e=.panicked [{ v:=v,recovered:=false }] ∧ w'=g1.w ∧ Base g0 g1 ∧ q.p g1 v
theorem Z5j {g g0:G} {A:List Pd} {args:List Value} {n:Nat} (hle:g.le g0) (hw:g0.w=g.w) (hargs:ArgsOk A g args) (hA:A.all (fun q=>q.fp.isEmpty)=true) (hAN:A.length ≤ N) (hn:n=N):St N (Zme A 0) { tmps:=args.toArray ++ Array.replicate (n - args.toArray.size) undef,defers:=[] } g0:=by
 refine ⟨?_,rfl,?_⟩
 · have:=hargs.1
   simp [hn];omega
 · intro e he
   obtain ⟨i,h1,h2⟩:=Zp3 he
   have hi:i < args.length:=by rw [hargs.1];exact (List.getElem?_eq_some_iff.1 h2).1
   have hfp:e.2.fp=[]:=by
     have:=List.all_eq_true.1 hA e.2 (List.mem_of_getElem? h2)
     simpa using this
   have hv:Act.at { tmps:=args.toArray ++ Array.replicate (n - args.toArray.size) undef,defers:=[] } e.1=args[i]:=by
     rw [h1,Nat.zero_add]
     simp only [Act.at,Array.getD_eq_getD_getElem?]
     rw [Array.getElem?_append,if_pos (by simpa using hi)]
     simp [hi]
   rw [hv]
   exact Pd.le hfp hle (by rw [hw]) (by rw [hw]) (by rw [hw]) (hargs.2 i e.2 _ h2 (List.getElem?_eq_getElem hi))
def G.bare (g:G):G:=⟨g.w,g.pr,fun _=>0,g.hpr,g.gl⟩
theorem Zrm (g:G):g.le g.bare:=⟨Nat.le_refl _,fun _ _ h=>h,fun _ _ _=>rfl,fun _ _=>rfl,Nat.le_refl _⟩
theorem Zq0 (g:G):Base g.bare g.bare:=⟨.refl _,rfl,rfl,rfl,fun _ _ _=>⟨rfl,rfl,rfl⟩⟩
theorem Zsb {g g1:G} (hB:Base g.bare g1):∃ g2:G,g2.w=g1.w ∧ Step [] g g2 ∧ g1.le g2 :=
 ⟨⟨g1.w,g1.pr,fun b=>if b < g.w.heap.size then g.own b else 0,g1.hpr,g1.gl⟩,rfl,⟨⟨hB.le.size,hB.le.pr,hB.le.cell,hB.le.blk,hB.le.dr⟩,hB.os,hB.tape,hB.output,fun b hb _=>⟨(hB.same b hb rfl).1,(hB.same b hb rfl).2.1,if_pos hb⟩,fun b hb _=>.inl (if_neg (by omega)),fun _ _ h=>by cases h⟩,⟨Nat.le_refl _,fun _ _ h=>h,fun _ _ _=>rfl,fun _ _=>rfl,Nat.le_refl _⟩⟩
theorem Zbck {f : FuncId} {fn : Func} {c : Code} {A : List Pd} (hf : P.funcs[f]? = some fn) (hb : fn.body = some c) (hn : fn.ntmps = N) (hAN : A.length ≤ N) (hA : A.all (fun q => q.fp.isEmpty) = true) (hq : q.fp = [])
   (h:∀ (a:Act) (g:G),St N (Zme A 0) a g → Base g g → c.wp P (bodyPost P fn (Zba7 g q)) a g.w):Z8o P f A q:=by
 intro g args hargs
 refine Calls.mono (calls_of_wp hf hb (h _ g.bare (Z5j (Zrm g) rfl hargs hA hAN hn) (Zq0 g))) ?_
 rintro e w' ⟨g1,v,rfl,rfl,hB,hv⟩
 obtain ⟨g2,e2,hS,hle⟩:=Zsb hB
 exact ⟨g2,v,rfl,e2.symm,hS,Pd.le hq hle (by rw [e2]) (by rw [e2]) (by rw [e2]) hv⟩
theorem Zbhj {fn:Func} {a:Act} {g:G} {v:Value} (hd:a.defers=[]) (hb:Base g0 g) (hq:q.p g v):bodyPost P fn (Zba7 g0 q) (.panic [{ v:=v,recovered:=false }]) a g.w:=⟨hd,g,v,rfl,rfl,hb,hq⟩
theorem Z6w {f : FuncId} {xs : List Operand} {A : List Pd} {ty : Array TypeId} (he : Zk P f) (hok : Z8o P f A q) (hop : o.op = .call { callee := .value (.func f), args := xs.toArray, argTypes := ty }) (hg : o.guard = none) (hargs : OpdL uses xs A)
   (hQ:∀ (a:Act) g v,a.tmps.size=N → a.defers=D → Base g0 g → Zeh uses a g → q.p g v → Q (.panic [{ v:=v,recovered:=false }]) a g.w):OTQ P ops N o uses outs S D g0 Q:=by
 intro a g K hN hD hb hdN hu hK
 have:Region.wanted o (yielded ops a.tmps)=true:=by simp [Region.wanted,hg]
 rw [if_pos this]
 have hr:(execOp a.eval o).run P g.w=.ok (.enter f (xs.map a.eval).toArray) g.w:=by
   simp [execOp,hop,resolve,Zqg,Deferred.ofValue,invoke,Zh1 he]
 unfold Oper.wp
 rw [hr]
 show Calls P f _ g.w _
 refine Calls.mono (hok g _ (hargs.ok hu)) ?_
 rintro e w' ⟨g',v,rfl,rfl,hs,hq⟩
 exact hQ a g' v hN hD (hb.step hs (by simp)) (fun e he=>e.2.st hs (fun _ _ h=>by cases h) (hu e he)) hq
theorem Zba3 {f : FuncId} {fn : Func} {c : Code} {A : List Pd} (hf : P.funcs[f]? = some fn) (hb : fn.body = some c) (hn : fn.ntmps = N) (hAN : A.length ≤ N) (hA : A.all (fun q => q.fp.isEmpty) = true) (hq : q.fp = [])
   (h:∀ (a:Act) (g:G),(∀ b,g.own b=0) → St N (Zme A 0) a g → Base g g → c.wp P (bodyPostD P fn (Fin g q)) a g.w):FnOk P f A q:=by
 intro g args hargs
 refine Calls.mono (calls_of_wp_defers hf hb (h _ g.bare (fun _=>rfl) (Z5j (Zrm g) rfl hargs hA hAN hn) (Zq0 g))) ?_
 rintro e w' ⟨g1,v,rfl,rfl,hB,hv⟩
 obtain ⟨g2,e2,hS,hle⟩:=Zsb hB
 exact ⟨g2,v,rfl,e2.symm,hS,Pd.le hq hle (by rw [e2]) (by rw [e2]) (by rw [e2]) hv⟩
def dfr3 (f:FuncId) (v1:Value) (b2 b3:Nat):List Deferred:=[{ target:=.fn (.func f) #[v1,.pointer (some ⟨b2,0,none⟩),.pointer (some ⟨b3,0,none⟩)],args:=#[] }]
theorem Zbbi {id f x1 x2 x3 d1 : Nat} {o1 o2 : Oper} {a : Act} {w : World} (h1 : o1.op = .makeFunc (.func f) #[] #[.tmp x1, .tmp x2, .tmp x3]) (hg1 : o1.guard = none) (hd1 : o1.dst = some d1) (h2 : o2.op = .defer { callee := .value (.tmp d1), args := #[], argTypes := #[] }) (hg2 : o2.guard = none) (hd2 : o2.dst = none) (hlt : d1 < a.tmps.size)
   {b2 b3:Nat} {v1:Value} (e1:Act.at a x1=v1) (e2:Act.at a x2=.pointer (some ⟨b2,0,none⟩)) (e3:Act.at a x3=.pointer (some ⟨b3,0,none⟩)) (hD:a.defers=[])
   (hK:Q .normal { tmps:=(a.put (some d1) (.func (.func f) #[] #[v1,.pointer (some ⟨b2,0,none⟩),.pointer (some ⟨b3,0,none⟩)])).tmps,defers:=dfr3 f v1 b2 b3 } w):(Code.region id #[o1,o2] false).wp P Q a w:=by
 refine wp_region ?_
 have q1:a.eval (.tmp x1)=v1:=e1
 have q2:a.eval (.tmp x2)=_:=e2
 have q3:a.eval (.tmp x3)=_:=e3
 have hr1:(execOp a.eval o1).run P w=.ok (.value (.func (.func f) #[] #[v1,.pointer (some ⟨b2,0,none⟩),.pointer (some ⟨b3,0,none⟩)])) w:=by
   simp [execOp,h1,Instr.makeFunc,q1,q2,q3]
 have hev:(a.put (some d1) (.func (.func f) #[] #[v1,.pointer (some ⟨b2,0,none⟩),.pointer (some ⟨b3,0,none⟩)])).eval (.tmp d1)=.func (.func f) #[] #[v1,.pointer (some ⟨b2,0,none⟩),.pointer (some ⟨b3,0,none⟩)]:=Zed _ hlt
 have hr2:(execOp (a.put (some d1) (.func (.func f) #[] #[v1,.pointer (some ⟨b2,0,none⟩),.pointer (some ⟨b3,0,none⟩)])).eval o2).run P w=.ok (.defer { target:=.fn (.func f) #[v1,.pointer (some ⟨b2,0,none⟩),.pointer (some ⟨b3,0,none⟩)],args:=#[] }) w:=by
   simp [execOp,h2,resolve,hev,Deferred.ofValue]
 have w1:∀ m,Region.wanted o1 m=true:=fun m=>by simp [Region.wanted,hg1]
 have w2:∀ m,Region.wanted o2 m=true:=fun m=>by simp [Region.wanted,hg2]
 show wpOps P #[o1,o2] _ (Lr 2) a w
 simp only [show Lr 2=[0,1] from rfl,wpOps,List.getElem?_toArray,List.getElem?_cons_zero,List.getElem?_cons_succ,w1,if_true]
 refine .inl ?_
 unfold Oper.wp
 rw [hr1,Oper.upon_value,hd1]
 simp only [w2,if_true]
 refine .inl ?_
 rw [hr2,Oper.upon_defer,hd2]
 have:∀ (d:Deferred) (v:Value),({ (a.put (some d1) v) with defers:=d :: (a.put (some d1) v).defers }:Act)={ tmps:=(a.put (some d1) v).tmps,defers:=[d] }:=fun d v=>by
   rw [Zpn,hD]
 have h3:=this { target:=.fn (.func f) #[v1,.pointer (some ⟨b2,0,none⟩),.pointer (some ⟨b3,0,none⟩)],args:=#[] } (.func (.func f) #[] #[v1,.pointer (some ⟨b2,0,none⟩),.pointer (some ⟨b3,0,none⟩)])
 show Q .normal (Act.put { (a.put (some d1) (.func (.func f) #[] #[v1,.pointer (some ⟨b2,0,none⟩),.pointer (some ⟨b3,0,none⟩)])) with defers:=_ :: (a.put (some d1) _).defers } none undef) w
 rw [h3];exact hK
theorem Z0f {α:Type} {dk:Kd α} {j:Nat} {v:α} {g:G} {u:Value} (h:(pBox dk j v).p g u):∃ b,u=.pointer (some ⟨b,0,none⟩) ∧ (Zbi (some b) dk j v).p g u:=by
 obtain ⟨b,cs,t,e,hm,_⟩:=h
 exact ⟨b,e,b,cs,t,e,hm,fun b' hb=>Option.some.inj hb⟩
theorem Z7b {α γ σ:Type} {kV:Kd γ} {raw:α → σ → γ} {R:Hp σ} {j:Nat} {x:α} {g:G} {u:Value} (h:(pBxS kV raw R j x).p g u):∃ b,u=.pointer (some ⟨b,0,none⟩) ∧ (Zc5 (some b) kV raw R j x).p g u:=by
 obtain ⟨s,h1,h2⟩:=h
 obtain ⟨b,e,h3⟩:=Z0f h1
 exact ⟨b,e,s,h3,h2⟩
theorem Zba8 {α:Type} {dk:Kd α} {j b:Nat} {v:α} {g:G} {u:Value} (h:(Zbi (some b) dk j v).p g u):u=.pointer (some ⟨b,0,none⟩):=by
 obtain ⟨b',cs,t,e,hm,hb⟩:=h
 rw [e,hb b rfl]
section
variable {α β φ γ σ:Type} {kS:Kd α} {kR:Kd β} {kF:Kd φ} {kV:Kd γ} {raw:β → σ → γ} {R:Hp σ} {f:FuncId} {tf t4 t5 s4 s5 j4 j5 b4 b5:Nat} {v2 v:Value}
abbrev ptrV (b:Nat):Value:=.pointer (some ⟨b,0,none⟩)
def Z7y (P:Program) (f:FuncId):Prop:=∀ (g:G) (v2:Value) (b4 b5:Nat),CallsD P f #[v2,ptrV b4,ptrV b5] .returning g.w (fun e u' w'=>e=.returned (.tuple #[]) ∧ u'=.returning ∧ ∃ g',w'=g'.w ∧ Step [] g g')
def Z74 (P:Program) (f:FuncId) (kS:Kd α) (kV:Kd γ) (raw:β → σ → γ) (kR:Kd β) (tf:TypeId) (kF:Kd φ) (mk:φ → β):Prop:=∀ (g:G) (v2 v:Value) (b4 b5:Nat) (s z4:α) (x:β) (r:φ),(kS.ptr s).p g v2 → (Zbi (some b4) kS 0 z4).p g (ptrV b4) → (Zc5 (some b5) kV raw hpT 1 x).p g (ptrV b5) → (Zok tf (kF.pd r)).p g v →
 CallsD P f #[v2,ptrV b4,ptrV b5] (.panicking [{ v:=v,recovered:=false }]) g.w (fun e u' w'=>e=.returned (.tuple #[]) ∧ u'=.panicking [{ v:=v,recovered:=true }] ∧ ∃ g',w'=g'.w ∧ Base g g' ∧ (Zbi (some b4) kS 0 s).p g' (ptrV b4) ∧ (Zbi (some b5) kR 1 (mk r)).p g' (ptrV b5))
theorem Zbh7 {fn:Func} {r1 r2:ResultVar} {v1 v2:Value} {a:Act} {g g0:G} {L:Zbd} (hr:fn.results=#[r1,r2]) (h:St N L a g) (hb:Base g0 g) (h1:Ziu P a g r1 v1) (h2:Ziu P a g r2 v2) (hq:q.p g (.tuple #[v1,v2])):bodyPostD P fn (Fin g0 q) .ret a g.w:=by
 show Leaves P fn a.tmps _ a.defers .returning g.w
 rw [h.df]
 have h1':(Zgq a.tmps r1).run P g.w=.ok v1 g.w:=h1
 have h2':(Zgq a.tmps r2).run P g.w=.ok v2 g.w:=h2
 exact ⟨.tuple #[v1,v2],by simp [Zgl,hr,h1',h2'],g,_,rfl,rfl,hb,hq⟩
theorem Z3v (he:Zk P f) (caps:Array Value) (w:World):(invoke (.fn (.func f) caps) #[]).run P w=.ok (.enter f caps) w:=by
 simp [invoke,Zh1 he]
theorem Zbfq {fn : Func} {a : Act} {g g0 : G} {L : Zbd} {c4 c5 : Option Nat} {x : α} {y : β} (hc : Z7y P f) (he : Zk P f) (hr : fn.results = #[.cell s4 t4, .cell s5 t5]) (hT4 : Ty P t4 kS) (hT5 : Ty P t5 kR) (h : StD (dfr3 f v2 b4 b5) N L a g) (hb : Base g0 g)
   (h4:(Zbi c4 kS j4 x).p g (Act.at a s4)) (h5:(Zbi c5 kR j5 y).p g (Act.at a s5)):bodyPostD P fn (Fin g0 (pTup [kS.pd x,kR.pd y])) .ret a g.w:=by
 show Leaves P fn a.tmps _ a.defers .returning g.w
 rw [h.df]
 refine leaves_cons (f:=f) (args:=#[v2,ptrV b4,ptrV b5]) (by simp) (Z3v he _ _) ?_
 refine (hc g v2 b4 b5).mono ?_
 rintro e u' w' ⟨rfl,rfl,g',rfl,hs⟩
 obtain ⟨u4,r4,q4⟩:=Zbo (P:=P) hT4 ((Zbi c4 kS j4 x).st hs (fun _ _ h=>by cases h) h4)
 obtain ⟨u5,r5,q5⟩:=Zbo (P:=P) hT5 ((Zbi c5 kR j5 y).st hs (fun _ _ h=>by cases h) h5)
 have r4':(Zgq a.tmps (.cell s4 t4)).run P g'.w=.ok u4 g'.w:=r4
 have r5':(Zgq a.tmps (.cell s5 t5)).run P g'.w=.ok u5 g'.w:=r5
 exact ⟨.tuple #[u4,u5],by simp [Zgl,hr,r4',r5'],g',_,rfl,rfl,hb.step hs (by simp),Zdc q4 q5⟩
theorem Z98 {fn : Func} {a : Act} {g g0 : G} {z4 s : α} {x : β} {r : φ} {mk : φ → β} (hc : Z74 P f kS kV raw kR tf kF mk) (he : Zk P f) (hr : fn.results = #[.cell s4 t4, .cell s5 t5]) (hT4 : Ty P t4 kS) (hT5 : Ty P t5 kR) (h0 : ∀ b, g0.own b = 0) (hD : a.defers = dfr3 f v2 b4 b5) (hb : Base g0 g) (hj : j4 ≠ j5)
   (hs:(kS.ptr s).p g v2) (h4:(Zbi (some b4) kS j4 z4).p g (Act.at a s4)) (h5:(Zc5 (some b5) kV raw R j5 x).p g (Act.at a s5)) (hv:(Zok tf (kF.pd r)).p g v):bodyPostD P fn (Fin g0 (pTup [kS.pd s,kR.pd (mk r)])) (.panic [{ v:=v,recovered:=false }]) a g.w:=by
 show Leaves P fn a.tmps _ a.defers (.panicking _) g.w
 rw [hD]
 refine leaves_cons (f:=f) (args:=#[v2,ptrV b4,ptrV b5]) (by simp) (Z3v he _ _) ?_
 obtain ⟨bb,cs4,ty4,e4,⟨m1,m2,m3,m4,m5,m6⟩,hbb⟩:=h4
 obtain rfl:=hbb _ rfl
 obtain ⟨sg,⟨bb',cs5,ty5,e5,⟨n1,n2,n3,n4,n5,n6⟩,hbb'⟩,_⟩:=h5
 obtain rfl:=hbb' _ rfl
 have hne:bb ≠ bb':=fun h=>by rw [h,n2] at m2;omega
 let gc:G:=⟨g.w,g.pr,fun c=>if c=bb then 1 else if c=bb' then 2 else 0,g.hpr,g.gl⟩
 have hle:g.le gc:=⟨Nat.le_refl _,fun _ _ h=>h,fun _ _ _=>rfl,fun _ _=>rfl,Nat.le_refl _⟩
 have own:∀ c,gc.own c=if c=bb then 1 else if c=bb' then 2 else 0:=fun _=>rfl
 have k4:(Zbi (some bb) kS 0 z4).p gc (ptrV bb):=⟨bb,cs4,ty4,rfl,⟨m1,by rw [own,if_pos rfl],fun b' _ ho=>by
   rw [own] at ho
   split at ho
   · assumption
   · split at ho <;> omega,m4,kS.mono hle m5,m6⟩,hbb⟩
 have k5:(Zc5 (some bb') kV raw hpT 1 x).p gc (ptrV bb'):=⟨sg,⟨bb',cs5,ty5,rfl,⟨n1,by rw [own,if_neg (Ne.symm hne),if_pos rfl],fun b' _ ho=>by
   rw [own] at ho
   split at ho
   · omega
   · split at ho
     · assumption
     · omega,n4,kV.mono hle n5,n6⟩,hbb'⟩,trivial⟩
 refine (hc gc v2 v bb bb' s z4 x r (Pd.le (q:=kS.ptr s) rfl hle rfl rfl rfl hs) k4 k5 (Pd.le (q:=Zok tf (kF.pd r)) rfl hle rfl rfl rfl hv)).mono ?_
 rintro e u' w' ⟨rfl,rfl,g',rfl,hB,q4,q5⟩
 have a4:(Zbi (some bb) kS 0 s).p g' (Act.at a s4):=by rw [e4];exact q4
 have a5:(Zbi (some bb') kR 1 (mk r)).p g' (Act.at a s5):=by rw [e5];exact q5
 obtain ⟨u4,r4,p4⟩:=Zbo (P:=P) hT4 a4
 obtain ⟨u5,r5,p5⟩:=Zbo (P:=P) hT5 a5
 have r4':(Zgq a.tmps (.cell s4 t4)).run P g'.w=.ok u4 g'.w:=r4
 have r5':(Zgq a.tmps (.cell s5 t5)).run P g'.w=.ok u5 g'.w:=r5
 have hle':g.le g':=hle.trans hB.le
 show ∃ v,(results fn a.tmps).run P g'.w=.ok v g'.w ∧ _
 refine ⟨.tuple #[u4,u5],by simp [Zgl,hr,r4',r5'],g'.bare,_,rfl,rfl,⟨hb.le.trans (hle'.trans (Zrm g')),hB.os.trans hb.os,hB.tape.trans hb.tape,hB.output.trans hb.output,fun c hcl hc0=>?_⟩,Zdc (Pd.le (q:=kS.pd s) rfl (Zrm g') rfl rfl rfl p4) (Pd.le (q:=kR.pd (mk r)) rfl (Zrm g') rfl rfl rfl p5)⟩
 obtain ⟨k1,k2,k3⟩:=hb.same c hcl hc0
 have h1:c ≠ bb:=fun h=>by rw [h,m2] at k3;omega
 have h2:c ≠ bb':=fun h=>by rw [h,n2] at k3;omega
 obtain ⟨l1,l2,l3⟩:=hB.same c (Nat.lt_of_lt_of_le hcl hb.le.size) (by rw [own,if_neg h1,if_neg h2])
 exact ⟨l1.trans k1,l2.trans k2,rfl⟩
theorem Zxv {t:TypeId} {ms:_} (w:World) (k:Nat) (hu:P.underlying t=some (.interface ms)):(Op.equalIn (k + 1) t .nilIface .nilIface).run P w=.ok true w:=by simp [Op.equalIn,run_underlying hu]
theorem Zwz {t t2:TypeId} {u2:Value} {ms:_} (w:World) (k:Nat) (hu:P.underlying t=some (.interface ms)):(Op.equalIn (k + 1) t (.iface t2 u2) .nilIface).run P w=.ok false w:=by simp [Op.equalIn,run_underlying hu]
theorem Z7c {t ty:TypeId} (ht:(P.underlying t).map (fun u=>match u with | .interface _=>true | _=>false)=some true) (hop:o.op=.binOp .eql t x (.const .nilIface) ty) (hd:o.dst=some d) (hx:Opd uses x (pEq .nilIface)):OB P N o uses [(d,Zbm true)] [] :=
 Zcg hd fun a g hh=>by
   have hv:a.eval x=.nilIface:=hx a g hh
   refine ⟨.bool true,?_,Zft _ g⟩
   cases hu:P.underlying t with
   | none=>rw [hu] at ht;cases ht
   | some u =>
     rw [hu] at ht
     cases u <;> try (simp at ht;done)
     have hg:(eqGuard .eql t x (.const .nilIface) .nilIface .nilIface).run P g.w=.ok () g.w:=by
       unfold eqGuard
       cases x <;> rfl
     have hb:(binOp .eql t .nilIface .nilIface).run P g.w=.ok (.bool true) g.w:=by
       show (do pure (.bool (← Op.equal t .nilIface .nilIface)):Sem Value).run P g.w=_
       have:(Op.equal t .nilIface .nilIface).run P g.w=.ok true g.w:=by
         exact Zxv g.w 9999 hu
       simp only [Sem.run_bind,this,Result.andThen_ok,Sem.run_pure]
     have hc:a.eval (.const .nilIface)=.nilIface:=rfl
     simp [execOp,hop,hv,hc,hg,hb]
theorem Zbdt {t ty t2:TypeId} (ht:(P.underlying t).map (fun u=>match u with | .interface _=>true | _=>false)=some true) (hop:o.op=.binOp .eql t x (.const .nilIface) ty) (hd:o.dst=some d) (hx:Opd uses x (Zok t2 q)):OB P N o uses [(d,Zbm false)] [] :=
 Zcg hd fun a g hh=>by
   obtain ⟨u2,hv,_⟩:=hx a g hh
   refine ⟨.bool false,?_,Zft _ g⟩
   cases hu:P.underlying t with
   | none=>rw [hu] at ht;cases ht
   | some u =>
     rw [hu] at ht
     cases u <;> try (simp at ht;done)
     have hg:(eqGuard .eql t x (.const .nilIface) (.iface t2 u2) .nilIface).run P g.w=.ok () g.w:=by
       unfold eqGuard
       split <;> rfl
     have hb:(binOp .eql t (.iface t2 u2) .nilIface).run P g.w=.ok (.bool false) g.w:=by
       show (do pure (.bool (← Op.equal t (.iface t2 u2) .nilIface)):Sem Value).run P g.w=_
       have:(Op.equal t (.iface t2 u2) .nilIface).run P g.w=.ok false g.w:=by
         exact Zwz g.w 9999 hu
       simp only [Sem.run_bind,this,Result.andThen_ok,Sem.run_pure]
     have hc:a.eval (.const .nilIface)=.nilIface:=rfl
     simp [execOp,hop,hv,hc,hg,hb]
theorem Z9r {t t2:TypeId} (ht:(P.underlying t2).map (fun u=>match u with | .interface _=>true | _=>false)=some false) (hop:o.op=.typeAssert x t t2 true) (hd:o.dst=some d) (hx:Opd uses x (Zok t2 q)):OB P N o uses [(d,pTup [q,Zbm true])] [] :=
 Zcg hd fun a g hh=>by
   obtain ⟨u2,hv,hq⟩:=hx a g hh
   refine ⟨.tuple #[u2,.bool true],?_,Zdc hq (Zft _ g)⟩
   cases hu:P.underlying t2 with
   | none=>rw [hu] at ht;cases ht
   | some u =>
     rw [hu] at ht
     cases u <;> first | (simp at ht;done) | simp [execOp,hop,hv,Instr.typeAssert,run_underlying hu]
end
theorem Z40 {c:Code} {a:Act} {w:World} (J:Act → Prop) (hJ:J a) (h:∀ a,J a → c.wp P Q a w):c.wp P Q a w:=h a hJ
theorem Z21 {a:Act} {n:Nat} {g:G} {v:Value} (e:Act.at a n=v) (h:q.p g v):q.p g (Act.at a n):=e ▸ h
abbrev dact (a:Act) (d1:Nat) (v:Value) (D:List Deferred):Act:={ tmps:=(a.put (some d1) v).tmps,defers:=D }
theorem Zp4 {a:Act} {d1 n:Nat} {v:Value} {D:List Deferred} {g:G} (h:n ≠ d1) (hq:q.p g (Act.at a n)):q.p g (Act.at (dact a d1 v D) n):=by
 have:Act.at (dact a d1 v D) n=Act.at a n:=Zk4 (a:=a) v (fun e=>h (Option.some.inj e).symm)
 rw [this];exact hq
theorem Zbcj {a:Act} {g:G} {v u:Value} (h:q.p g u) (e:u=v):(pAt v q).p g (Act.at a 1000):=e ▸ h
theorem Z3a {k a b:Nat} (h:k=a) (h':k=b) (hn:a ≠ b):False:=hn (h.symm.trans h')
end
end Go.CL
