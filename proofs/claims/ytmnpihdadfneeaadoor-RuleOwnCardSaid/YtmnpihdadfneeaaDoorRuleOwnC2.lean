/- A part of the proof of RuleOwn. -/
import Derived.Test.YtmnpihdadfneeaaDoorRuleOwnC1
import GoSem.Extern.SlicesOverlaps
import Derived.Test.YtmnpihdadfneeaaDoorProg
set_option linter.unusedVariables false
set_option linter.unusedSimpArgs false
set_option maxRecDepth 100000
namespace Go.CL
open Go Go.RowKit
section
variable {P:Program} {N:Nat} {o:Oper} {uses:Zu} {d:Nat} {q:Pd} {x y z:Operand} {α:Type} {dk:Kd α} {t e:TypeId} {bytes j:Nat} {c:Option Nat}
theorem OwnAt.ext {fs:List (Option α)} {g:G} {b cap h:Nat} {cur:Array Value} (hO:OwnAt dk e j fs g b cap cur) (h1:fs.length ≤ h) (h2:h ≤ cap):OwnAt dk e j (fs ++ List.replicate (h - fs.length) none) g b cap cur :=
 ⟨hO.lt,hO.own,hO.uniq,hO.heap,by simp;omega,hO.max,hO.sz,fun i x hx=>by
   rw [List.getElem?_append] at hx
   split at hx
   · exact hO.known i x hx
   · rw [List.getElem?_replicate] at hx
     split at hx <;> simp at hx,hO.npr⟩
theorem OwnAt.sub {fs fs':List (Option α)} {g:G} {b cap:Nat} {cur:Array Value} (hO:OwnAt dk e j fs g b cap cur) (hl:fs'.length ≤ cap) (hk:∀ (i:Nat) (x:α),fs'[i]?=some (some x) → fs[i]?=some (some x)):OwnAt dk e j fs' g b cap cur :=
 ⟨hO.lt,hO.own,hO.uniq,hO.heap,hl,hO.max,hO.sz,fun i x hx=>hO.known i x (hk i x hx),hO.npr⟩
theorem Zgn (z:Array Value) (n:Nat):(Builtin.zeroCells z n).size=n * z.size:=by simp [Builtin.zeroCells]
theorem Zl2 {g : G} {cur : Array Value} {cap : Nat} {fs : List (Option α)} (hj : j ≠ 0) (hl : fs.length ≤ cap) (hm : cap ≤ maxLen) (hs : cur.size = cap * dk.sz) (hk : ∀ (i : Nat) (x : α), fs[i]? = some (some x) → dk.K g x (seg cur.toList (i * dk.sz) dk.sz)) :
   ∃ g':G,g'.w=g.w.drew.alloc (.cells cur e) ∧ Step [j] g g' ∧ OwnAt dk e j fs g' g.w.heap.size cap cur:=by
 have hs1:=Step.drew g
 have hs2:=Zh9 g.drew cur e (fun _=>False) j
 have hst:Step [j] g (g.drew.push cur e (fun _=>False) j):=(hs1.sub (by simp)).trans hs2
 have hsz:g.drew.w.heap.size=g.w.heap.size:=rfl
 refine ⟨g.drew.push cur e (fun _=>False) j,rfl,hst,⟨by rw [Zef,Zfu];omega,by simp [G.push,hsz],fun b' hb' ho=>?_,by rw [Zef,← hsz];exact Zib ..,hl,hm,hs,fun i x hx=>dk.mono hst.le (hk i x hx),fun o=>by simp [G.push,hsz]⟩⟩
 by_cases h:b'=g.drew.w.heap.size
 · rw [h,hsz]
 · simp only [G.push,if_neg h] at ho
   split at ho
   · exact absurd ho.symm hj
   · rename_i h2;exact absurd ho h2
theorem Zso {j:Nat} {ty:TypeId} (hT:TE P t e dk bytes) (hop:o.op=.buildSlice t 0 #[]) (hd:o.dst=some d):OB P N o uses [(d,pOwn dk e j (some 0) ([]:List (Option α)))] [j + 1] :=
 Zez hd fun a g hh=>by
   have hs2:=Zh9 g #[] e (fun _=>False) (j + 1)
   refine ⟨.slice (some ⟨g.w.heap.size,0,none⟩) 0 0,g.push #[] e (fun _=>False) (j + 1),?_,hs2,g.w.heap.size,0,#[],rfl,⟨by rw [Zef,Zfu];omega,by simp [G.push],fun b' hb' ho=>?_,by rw [Zef];exact Zib ..,Nat.le_refl _,Nat.zero_le _,by simp,fun i x hx=>by simp at hx,fun o=>by simp [G.push]⟩,fun k hk=>Option.some.inj hk⟩
   · obtain ⟨cells,hl,_,hr⟩:=Zq1 (ys:=[]) (xs:=[]) hT .nil (by simp) hh
     have hc:cells=[]:=List.eq_nil_of_length_eq_zero (by simpa using hl)
     subst hc
     rw [Zef]
     have hr':(Instr.buildSlice t 0 #[]).run P g.w=.ok (.slice (some ⟨g.w.heap.size,0,none⟩) 0 0) (g.w.alloc (.cells #[] e)):=by simpa [idxL] using hr
     simp [execOp,hop]
     rw [hr'];rfl
   · by_cases h:b'=g.w.heap.size
     · exact h
     · simp only [G.push,if_neg h] at ho
       split at ho
       · omega
       · rename_i h2;exact absurd ho h2
theorem Zmq {xs vs : List α} (hT : TE P t e dk bytes) (hop : o.op = .call { callee := .builtin .append, args := #[x, y], argTypes := #[t, t] }) (hd : o.dst = some d) (hx : Opd uses x (pOwn dk e j c (xs.map some))) (hy : Opd uses y (dk.sl.pd vs)) (hl : (xs.length + vs.length) * bytes ≤ 140737488355328) :
   OB P N o uses [(d,pOwn dk e j none ((xs ++ vs).map some))] [j + 1] :=
 Zez hd fun a g hh=>by
   obtain ⟨b,cap,cur,hv,hO,_⟩:=hx a g hh
   obtain ⟨A,c2,hy1,hy2,hy3,hyr⟩:=Ziy (hy a g hh)
   obtain ⟨i,zz,hi,hz,hsz,hby,hzs⟩:=hT.info
   have hb0:=hT.by0
   have hexec:∀ v w',(Builtin.append_ #[t,t] o.type #[a.eval x,a.eval y]).run P g.w=.ok v w' → (execOp a.eval o).run P g.w=.ok (.value v) w':=fun v w' h=>by
     simp [execOp,hop,resolve,invoke,builtin,h]
   have hlen:xs.length + vs.length ≤ 140737488355328:=Nat.le_trans (Nat.le_mul_of_pos_right _ hb0) hl
   have hOl:=hO.len
   rw [List.length_map] at hOl hv
   rcases Nat.eq_zero_or_pos vs.length with h0 | hpos
   · obtain rfl:=List.eq_nil_of_length_eq_zero h0
     refine ⟨a.eval x,g,hexec _ _ ?_,.refl _ _,b,cap,cur,by rw [hv];simp,by rw [List.append_nil];exact hO,fun k hk=>by cases hk⟩
     rw [hv,hy1]
     cases A <;> simp [Builtin.append_,run_underlying hT.und,sizeOf,typeInfo,hi,Builtin.lenOf,Builtin.firstCells,loadCells,loadCellsFrom,hOl,storeCells]
   · obtain ⟨b2,o2,news,rfl,hnl,hnc,hnk⟩:=hyr.resolve_left (fun h=>by rw [h] at hpos;simp at hpos)
     have hn1:=Zh8 hnl hnk hT.sz
     have hnl':news.length=vs.length * i.size:=by rw [hsz];exact hnl
     have hnews:∀ k u,news[k]?=some u → g.w.cell? ((⟨b2,o2,none⟩:Addr).add k)=some u:=fun k u hu=>by rw [Zbw];exact (hnc k u hu).2
     by_cases hroom:xs.length + vs.length ≤ cap
     · have hO2:=hO.ext (h:=xs.length + vs.length) (by simp) hroom
       obtain ⟨g',hw,hst,hO3⟩:=Zms hO2 (off:=xs.length) (ws:=vs) hnl (by simp) hnk
       have hr:=run_append_room (P:=P) g.w t o.type e i hT.und hi b xs.length cap cur hO.heap ⟨b2,o2,none⟩ vs.length c2 news hnl' hnews hn1 hroom (by rw [hnl',← Nat.add_mul,hO.sz,hsz];exact Nat.mul_le_mul_right _ hroom)
       rw [hsz] at hr
       refine ⟨_,g',hexec _ _ (by rw [hv,hy1];rw [hw];exact hr),hst,b,cap,(Z0 cur.toList (xs.length * dk.sz) news).toArray,by simp,?_,fun k hk=>by cases hk⟩
       refine hO3.sub (by simp;omega) fun k u hk=>?_
       rw [Zg6 (by simp)]
       rw [List.getElem?_map] at hk
       by_cases h1:k < xs.length
       · rw [if_pos h1,List.getElem?_append_left (by simpa using h1),List.getElem?_map]
         rwa [List.getElem?_append_left h1] at hk
       · rw [if_neg h1]
         have h2:=(List.getElem?_eq_some_iff.1 (show (xs ++ vs)[k]?=some u by
           obtain ⟨y,hy,he⟩:=Option.map_eq_some_iff.1 hk
           rw [hy,Option.some.inj he])).1
         rw [List.length_append] at h2
         rw [if_pos h2]
         rwa [List.getElem?_append_right (by omega)] at hk
     · have hcl:cur.toList.length=cap * dk.sz:=by simpa using hO.sz
       have hol:(cur.toList.take (xs.length * dk.sz)).length=xs.length * i.size:=by rw [hsz,List.length_take,hcl];exact Nat.min_eq_left (Nat.mul_le_mul_right _ hOl)
       have holds:∀ k u,(cur.toList.take (xs.length * dk.sz))[k]?=some u → g.w.cell? ((⟨b,0,none⟩:Addr).add k)=some u:=fun k u hu=>by
         rw [Zbw]
         simp only [World.cell?,hO.heap,Nat.zero_add]
         rw [List.getElem?_take] at hu
         split at hu
         · simpa using hu
         · cases hu
       have hr:=run_append_grow (P:=P) g.w t o.type e i zz hT.und hi hz ⟨b,0,none⟩ xs.length cap (cur.toList.take (xs.length * dk.sz)) hol holds ⟨b2,o2,none⟩ vs.length c2 news hnl' hnews (by omega) (by omega) (growslice_fits (by omega) (by rw [hby];exact hl))
       have hge:=grownCap_ge g.w (xs.length + vs.length) cap e
       have hmx:=grownCap_le_maxLen g.w (xs.length + vs.length) cap e (by simp only [maxLen];omega)
       rw [hsz] at hol
       obtain ⟨g', hw, hst, hO3⟩ := Zl2 (dk := dk) (e := e) (g := g) (j := j + 1) (cur := (cur.toList.take (xs.length * dk.sz)).toArray ++ news.toArray ++ Builtin.zeroCells zz.cells (grownCap g.w (xs.length + vs.length) cap e - (xs.length + vs.length))) (cap := grownCap g.w (xs.length + vs.length) cap e) (fs := (xs ++ vs).map some) (by omega) (by simpa using hge) hmx (by
           simp only [Array.size_append,List.size_toArray,Zgn,hzs,hol,hnl,← Nat.add_mul]
           congr 1;omega) (fun k u hk=>by
           rw [List.getElem?_map] at hk
           obtain ⟨u',hu',he'⟩:=Option.map_eq_some_iff.1 hk
           obtain rfl:=Option.some.inj he'
           simp only [Array.toList_append,List.append_assoc]
           rw [List.getElem?_append] at hu'
           split at hu'
           · rename_i h1
             rw [Zco (by rw [hol];exact Zgc h1)]
             have e2:seg (cur.toList.take (xs.length * dk.sz)) (k * dk.sz) dk.sz=seg cur.toList (k * dk.sz) dk.sz:=by
               have:=Zgc (sz:=dk.sz) h1
               simp only [seg,List.drop_take,List.take_take]
               congr 1;omega
             rw [e2]
             exact hO.known k u' (by rw [List.getElem?_map,hu'];rfl)
           · rename_i h1
             have h2:=(List.getElem?_eq_some_iff.1 hu').1
             rw [show k * dk.sz=(cur.toList.take (xs.length * dk.sz)).length + (k - xs.length) * dk.sz by rw [hol,← Nat.add_mul];congr 1;omega,Zdt,Zco (by rw [hnl];exact Zgc h2)]
             exact hnk _ _ hu')
       refine ⟨_,g',hexec _ _ (by rw [hv,hy1];rw [hw];exact hr),hst,_,_,_,by simp,hO3,fun k hk=>by cases hk⟩
theorem Zrq {fs : List (Option α)} {n off len s k : Nat} {xs ws : List α} (hT : TE P t e dk bytes) (hn : n = xs.length) (hn2 : n + len ≤ k) (hfs : off + len ≤ fs.length) (hw : ws.length = len) (hxs : ∀ (i : Nat) (x : α), xs[i]? = some x → fs[i]? = some (some x)) (hws : ∀ (i : Nat) (x : α), ws[i]? = some x → fs[off + i]? = some (some x))
   (hop:o.op=.call { callee:=.builtin .append,args:=#[x,y],argTypes:=#[t,t] }) (hd:o.dst=some d) (hx:Opd uses x (Zhn dk e j 0 n)) (hy:Opd uses y (Zhn dk e j off len)) (hs:Opd uses (.tmp s) (pOwn dk e j (some k) fs)) :
   OB P N o uses [(d,pOwn dk e j (some k) ((xs ++ ws).map some))] [j + 1] :=
 Zez hd fun a g hh=>by
   obtain ⟨b,cap,cur,hxv,hO1,_⟩:=hx a g hh
   obtain ⟨b',cap',cur',hsv,hO,hc⟩:=hs a g hh
   obtain rfl:=hc k rfl
   obtain ⟨rfl,rfl,rfl⟩:=hO.same hO1 hT.sz
   obtain ⟨b3,cap3,cur3,hyv,hO3,hcap3⟩:=hy a g hh
   obtain ⟨rfl,rfl,rfl⟩:=hO.same hO3 hT.sz
   obtain ⟨i,zz,hi,hz,hsz,hby,hzs⟩:=hT.info
   have hl2:=hO.len
   have hcl:cur3.toList.length=cap3 * dk.sz:=by simpa using hO.sz
   let news:=seg cur3.toList (off * dk.sz) (len * dk.sz)
   have hnl:news.length=ws.length * dk.sz:=by
     show ((cur3.toList.drop (off * dk.sz)).take (len * dk.sz)).length=_
     rw [List.length_take,List.length_drop,hcl,hw]
     have:(off + len) * dk.sz ≤ cap3 * dk.sz:=Nat.mul_le_mul_right _ (by omega)
     rw [Nat.add_mul] at this;omega
   have hk:∀ (i:Nat) (x:α),ws[i]?=some x → dk.K g x (seg news (i * dk.sz) dk.sz):=fun i x hx=>by
     have hi:=(List.getElem?_eq_some_iff.1 hx).1
     have h1:=hO.known _ _ (hws i x hx)
     have e:seg news (i * dk.sz) dk.sz=seg cur3.toList ((off + i) * dk.sz) dk.sz:=by
       show (((cur3.toList.drop (off * dk.sz)).take (len * dk.sz)).drop (i * dk.sz)).take dk.sz=_
       have:=Zgc (sz:=dk.sz) (show i < len by omega)
       rw [List.drop_take,List.take_take,List.drop_drop,Nat.min_eq_left (by omega),Nat.add_mul];rfl
     rw [e];exact h1
   have hcell:∀ k u,news[k]?=some u → g.w.cell? ((⟨b3,off * dk.sz,none⟩:Addr).add k)=some u:=fun k u hu=>by
     rw [Zbw]
     simp only [World.cell?,hO.heap]
     have hu':((cur3.toList.drop (off * dk.sz)).take (len * dk.sz))[k]?=some u:=hu
     rw [List.getElem?_take] at hu'
     split at hu'
     · rw [List.getElem?_drop] at hu'
       simpa using hu'
     · cases hu'
   have hO4:=(hO.sub (fs':=xs.map some) (by rw [List.length_map];omega) (fun i x hx=>by
     rw [List.getElem?_map] at hx
     obtain ⟨y,hy,he⟩:=Option.map_eq_some_iff.1 hx
     rw [hxs i y hy,he])).ext (h:=n + len) (by rw [List.length_map];omega) (by omega)
   obtain ⟨g',hgw,hst,hO5⟩:=Zms hO4 (off:=n) (ws:=ws) hnl (by simp;omega) hk
   have hb0:(if cap3=0 then (⟨b3,0,none⟩:Addr) else ⟨b3,0 * dk.sz,none⟩)=⟨b3,0,none⟩:=by split <;> simp
   have hr:(Builtin.append_ #[t,t] o.type #[a.eval x,a.eval y]).run P g.w=.ok (.slice (some ⟨b3,0,none⟩) (n + len) cap3) g'.w:=by
     rw [hxv,hyv,hb0,hgw,Nat.sub_zero]
     by_cases h0:cap3=off
     · have hl0:len=0:=by omega
       have hn0:news=[]:=List.eq_nil_of_length_eq_zero (by rw [hnl,hw,hl0];simp)
       rw [if_pos h0]
       have:=run_append_room (P:=P) g.w t o.type e i hT.und hi b3 n cap3 cur3 hO.heap ⟨b3,0,none⟩ len (cap3 - off) news (by rw [hn0,hl0];simp) (fun j u hu=>by rw [hn0] at hu;simp at hu) (fun u hu=>by rw [hn0] at hu;cases hu) (by omega) (by rw [hn0,hO.sz,hsz];simp;exact Nat.mul_le_mul_right _ (by omega))
       rw [hsz] at this
       exact this
     · rw [if_neg h0]
       have:=run_append_room (P:=P) g.w t o.type e i hT.und hi b3 n cap3 cur3 hO.heap ⟨b3,off * dk.sz,none⟩ len (cap3 - off) news (by rw [hnl,hw,hsz]) hcell (Zh8 hnl hk hT.sz) (by omega) (by rw [hnl,hw,hsz,← Nat.add_mul,hO.sz];exact Nat.mul_le_mul_right _ (by omega))
       rw [hsz] at this
       exact this
   refine ⟨_,g',?_,hst,b3,cap3,(Z0 cur3.toList (n * dk.sz) news).toArray,rfl,?_,hc⟩
   · rw [show ((xs ++ ws).map some).length=n + len by simp;omega]
     simp [execOp,hop,resolve,invoke,builtin,hr]
   · refine hO5.sub (by simp;omega) fun k u hk=>?_
     rw [Zg6 (by simp;omega)]
     rw [List.getElem?_map] at hk
     by_cases h1:k < n
     · rw [if_pos h1,List.getElem?_append_left (by simp;omega),List.getElem?_map]
       rwa [List.getElem?_append_left (by omega)] at hk
     · rw [if_neg h1]
       have h2:=(List.getElem?_eq_some_iff.1 (show (xs ++ ws)[k]?=some u by
         obtain ⟨y,hy,he⟩:=Option.map_eq_some_iff.1 hk
         rw [hy,Option.some.inj he])).1
       rw [List.length_append] at h2
       rw [if_pos (by omega)]
       rw [List.getElem?_append_right (by omega)] at hk
       rw [hn];exact hk
theorem Zjm (w : World) (t tn ty e : TypeId) (i : TypeInfo) (z : Value) (k kn : IntKind) (ht : P.underlying t = some (.slice e)) (htn : P.underlying tn = some (.int kn)) (hi : P.info? e = some i) (hz : i.zero = some z)
   (b:Addr) (sLen sCap:Nat) (olds:List Value) (hlo:olds.length=sLen * i.size) (holds:∀ j v,olds[j]?=some v → w.cell? (b.add j)=some v)
   (n:Nat) (h0:0 < n) (hs:0 < i.size) (hg:sCap < sLen + n) (h63:((sLen + n:Nat):Int) ≤ 9223372036854775807) (h48:n * i.bytes ≤ 281474976710656) (hfit:Builtin.nextslicecap (sLen + n) sCap * i.bytes ≤ 281474976710656) :
   (Builtin.append_ #[t,tn] ty #[.slice (some b) sLen sCap,.int k n]).run P w =
     .ok (.slice (some ⟨w.heap.size,0,none⟩) (sLen + n) (grownCap w (sLen + n) sCap e))
       (w.drew.alloc (.cells (olds.toArray ++ Builtin.zeroCells z.cells n ++ Builtin.zeroCells z.cells (grownCap w (sLen + n) sCap e - (sLen + n))) e)):=by
 have hw:IntKind.i64.wrap (n:Int)=n:=by rw [IntKind.wrap_i64];omega
 have hn:¬ (sLen + n ≤ sCap):=by omega
 have h63':¬ (9223372036854775807 < ((sLen:Int) + (n:Int))):=by omega
 have h48':¬ (281474976710656 < Builtin.nextslicecap (sLen + n) sCap * i.bytes):=by omega
 have h48i:¬ (281474976710656 < (n:Int) * (i.bytes:Int)):=by
   rw [← Int.natCast_mul]
   omega
 have hneg:¬ ((n:Int) < 0):=by omega
 have hns:¬ (n * i.size=0):=Nat.mul_ne_zero (by omega) (by omega)
 have hfo:=run_firstCells_some (P:=P) w.drew i.size sLen b sLen sCap olds hlo (by simpa using holds)
 simp [Builtin.append_,run_underlying ht,run_underlying htn,sizeOf,typeInfo,zeroValue,hi,hz,asInt,asIntOf,hw,hn,hneg,hns,h63',h48',h48i,Question.forced,hfo,newRow,grownCap]
theorem Zq9 {fs : List (Option α)} {n m s k d2 tn : Nat} {kn : IntKind} {xs : List α} (hT : TE P t e dk bytes) (htn : P.underlying tn = some (.int kn)) (hn : n = xs.length) (hfs : n ≤ fs.length) (hm : 0 < m) (hk : k < n + m) (hb : (n + m) * bytes ≤ 140737488355328) (hxs : ∀ (i : Nat) (x : α), xs[i]? = some x → fs[i]? = some (some x))
   (hop:o.op=.call { callee:=.builtin .append,args:=#[x,y],argTypes:=#[t,tn] }) (hd:o.dst=some d) (hx:Opd uses x (Zhn dk e j 0 n)) (hy:Opd uses y (pInt .i64 (m:Int))) (hs:Opd uses (.tmp s) (pOwn dk e j (some k) fs)) :
   OB P N o uses [(d,pOwn dk e d2 none (xs.map some ++ List.replicate m none))] [d2 + 1] :=
 Zez hd fun a g hh=>by
   obtain ⟨b,cap,cur,hxv,hO1,_⟩:=hx a g hh
   obtain ⟨b',cap',cur',hsv,hO,hc⟩:=hs a g hh
   obtain rfl:=hc k rfl
   obtain ⟨rfl,rfl,rfl⟩:=hO.same hO1 hT.sz
   obtain ⟨i,zz,hi,hz,hsz,hby,hzs⟩:=hT.info
   have hyv:=Zb1.1 (hy a g hh)
   have hb0:(if cap=0 then (⟨b,0,none⟩:Addr) else ⟨b,0 * dk.sz,none⟩)=⟨b,0,none⟩:=by split <;> simp
   have hOl:=hO.len
   have hcl:cur.toList.length=cap * dk.sz:=by simpa using hO.sz
   have hlen:n + m ≤ 140737488355328:=Nat.le_trans (Nat.le_mul_of_pos_right _ hT.by0) hb
   have hol:(cur.toList.take (n * dk.sz)).length=n * dk.sz:=by rw [List.length_take,hcl];exact Nat.min_eq_left (Nat.mul_le_mul_right _ (by omega))
   have holds:∀ k u,(cur.toList.take (n * dk.sz))[k]?=some u → g.w.cell? ((⟨b,0,none⟩:Addr).add k)=some u:=fun k u hu=>by
     rw [Zbw]
     simp only [World.cell?,hO.heap,Nat.zero_add]
     rw [List.getElem?_take] at hu
     split at hu
     · simpa using hu
     · cases hu
   have hmb:m * bytes ≤ (n + m) * bytes:=Nat.mul_le_mul_right _ (by omega)
   have hr:=Zjm (P:=P) g.w t tn o.type e i zz .i64 kn hT.und htn hi hz ⟨b,0,none⟩ n cap (cur.toList.take (n * dk.sz)) (by rw [hol,hsz]) holds m hm (by rw [hsz];exact hT.sz) hk (by omega) (by rw [hby];omega) (growslice_fits hk (by rw [hby];exact hb))
   have hge:=grownCap_ge g.w (n + m) cap e
   have hmx:=grownCap_le_maxLen g.w (n + m) cap e (by simp only [maxLen];omega)
   obtain ⟨g', hw, hst, hO3⟩ := Zl2 (dk := dk) (e := e) (g := g) (j := d2 + 1) (cur := (cur.toList.take (n * dk.sz)).toArray ++ Builtin.zeroCells zz.cells m ++ Builtin.zeroCells zz.cells (grownCap g.w (n + m) cap e - (n + m))) (cap := grownCap g.w (n + m) cap e) (fs := xs.map some ++ List.replicate m none) (by omega) (by simp; omega) hmx (by
       simp only [Array.size_append,List.size_toArray,Zgn,hzs,hol,← Nat.add_mul]
       congr 1;omega) (fun k u hk=>by
       rw [List.getElem?_append] at hk
       split at hk
       · rename_i h1
         rw [List.length_map] at h1
         rw [List.getElem?_map] at hk
         obtain ⟨u',hu',he'⟩:=Option.map_eq_some_iff.1 hk
         obtain rfl:=Option.some.inj he'
         simp only [Array.toList_append,List.append_assoc]
         rw [Zco (by rw [hol];exact Zgc (by omega))]
         have e2:seg (cur.toList.take (n * dk.sz)) (k * dk.sz) dk.sz=seg cur.toList (k * dk.sz) dk.sz:=by
           have:=Zgc (sz:=dk.sz) (show k < n by omega)
           simp only [seg,List.drop_take,List.take_take]
           congr 1;omega
         rw [e2]
         exact hO.known k u' (hxs k u' hu')
       · rw [List.getElem?_replicate] at hk
         split at hk <;> simp at hk)
   refine ⟨_,g',?_,hst,_,_,_,rfl,hO3,fun k hk=>by cases hk⟩
   rw [show (xs.map some ++ List.replicate m (none:Option α)).length=n + m by simp;omega]
   rw [hb0,Nat.sub_zero] at hxv
   simp [execOp,hop,resolve,invoke,builtin,hxv,hyv,hr,hw]
theorem Zs7 {fs : List (Option α)} {off len s k : Nat} (hT : TE P t e dk bytes) (hz1 : ((P.info? e).bind (·.zero)).map (fun z => z.cells.all (·.oneCell')) = some true) (hfs : fs.length ≤ off) (hk : off + len ≤ k)
   (hop:o.op=.call { callee:=.builtin .clear,args:=#[x],argTypes:=#[t] }) (hd:o.dst=none) (hx:Opd uses x (Zhn dk e j off len)) (hs:Opd uses (.tmp s) (pOwn dk e j (some k) fs)):OB P N o uses [(s,pOwn dk e j (some k) fs)] [j + 1]:=by
 intro a g K Q hN hdN hu hK
 obtain ⟨b,cap,cur,hxv,hO1,_⟩:=hx a g hu
 obtain ⟨b',cap',cur',hsv,hO,hc⟩:=hs a g hu
 obtain rfl:=hc k rfl
 obtain ⟨rfl,rfl,rfl⟩:=hO.same hO1 hT.sz
 obtain ⟨i,zz,hi,hz,hsz,hby,hzs⟩:=hT.info
 have hcl:cur.toList.length=cap * dk.sz:=by simpa using hO.sz
 have hone:∀ u ∈ (Builtin.zeroCells zz.cells len).toList,u.oneCell'=true:=by
   simp only [hi,hz,Option.bind_some,Option.map_some,Option.some.injEq] at hz1
   intro u hu
   simp only [Builtin.zeroCells,Array.toList_map,List.mem_map] at hu
   obtain ⟨m,hm,rfl⟩:=hu
   have h0:0 < zz.cells.size:=by rw [hzs];exact hT.sz
   have hlt:m % zz.cells.size < zz.cells.size:=Nat.mod_lt _ h0
   rw [getElem!_pos zz.cells _ hlt]
   exact Array.all_eq_true.1 hz1 _ hlt
 have hcl2:(cur.toList.take (off * dk.sz) ++ (Builtin.zeroCells zz.cells len).toList ++ cur.toList.drop (off * dk.sz + (Builtin.zeroCells zz.cells len).toList.length)).toArray=(Z0 cur.toList (off * dk.sz) (Builtin.zeroCells zz.cells len).toList).toArray:=rfl
 have hzl:(Builtin.zeroCells zz.cells len).toList.length=len * dk.sz:=by rw [Array.length_toList,Zgn,hzs]
 have hfit:off * dk.sz + (Builtin.zeroCells zz.cells len).toList.length ≤ cur.toList.length:=by rw [hzl,hcl,← Nat.add_mul];exact Nat.mul_le_mul_right _ hk
 let cs:=(Z0 cur.toList (off * dk.sz) (Builtin.zeroCells zz.cells len).toList).toArray
 have hr:(Builtin.clear_ #[t] o.type #[a.eval x]).run P g.w=.ok (.tuple #[]) (g.w.setRow b cs):=by
   rw [hxv]
   rcases Nat.eq_zero_or_pos len with rfl | hpos
   · have hs0 : cs = cur := by
       show (Z0 cur.toList (off * dk.sz) (Builtin.zeroCells zz.cells 0).toList).toArray=cur
       have:(Builtin.zeroCells zz.cells 0).toList=[]:=by simp [Builtin.zeroCells]
       rw [this];simp [Z0]
     rw [hs0,setRow_self g.w b cur e (0,0) hO.heap]
     by_cases he:cap=off <;> simp [Builtin.clear_,run_underlying hT.und]
   · have he:¬ cap=off:=by omega
     rw [if_neg he]
     have hst:=run_storeCells_at P b (off * dk.sz) e (Builtin.zeroCells zz.cells len).toList 0 cur g.w hO.heap (by rw [Nat.add_zero];simpa using hfit) hone
     rw [Nat.add_zero] at hst
     obtain ⟨len,rfl⟩:∃ m,len=m + 1:=⟨len - 1,by omega⟩
     simp [Builtin.clear_,run_underlying hT.und,zeroValue,typeInfo,hi,hz]
     rw [hst];rfl
 have hr':(execOp a.eval o).run P g.w=.ok (.value (.tuple #[])) (g.w.setRow b cs):=by
   simp [execOp,hop,resolve,invoke,builtin,hr]
 unfold Oper.wp
 rw [hr']
 have hst:Step [j + 1] g (g.wr b cs hO.lt hO.npr (fun _=>False) (j + 1)):=Zf6 hO.own (.inr rfl) hO.npr
 refine hK _ (g.wr b cs hO.lt hO.npr (fun _=>False) (j + 1)) hst fun e he=>?_
 rw [List.mem_singleton.1 he]
 have hat:Act.at (a.put o.dst (.tuple #[])) s=Act.at a s:=by rw [hd];rfl
 rw [hat]
 refine ⟨b,cap,cs,hsv,⟨by rw [wr_w,Zbs];exact hO.lt,by simp [G.wr],fun b' hb' ho=>?_,by rw [wr_w];exact setRow_heap _ _ _ _ _ _ hO.heap,hO.len,hO.max,?_,fun i x hx=>?_,fun o=>by simp [G.wr]⟩,hc⟩
 · rw [wr_w,Zbs] at hb'
   simp only [G.wr] at ho
   split at ho
   · assumption
   · exact hO.uniq b' hb' ho
 · show (Z0 cur.toList (off * dk.sz) (Builtin.zeroCells zz.cells len).toList).toArray.size=_
   rw [List.size_toArray,Zdn hfit,hcl]
 · have hi:=(List.getElem?_eq_some_iff.1 hx).1
   have e2:seg cs.toList (i * dk.sz) dk.sz=seg cur.toList (i * dk.sz) dk.sz:=by
     show seg (Z0 cur.toList (off * dk.sz) (Builtin.zeroCells zz.cells len).toList) (i * dk.sz) dk.sz=_
     exact Zt hfit (.inl (Zgc (by omega)))
   rw [e2]
   exact dk.mono hst.le (hO.known i x hx)
end
section
variable {P:Program} {N:Nat} {o:Oper} {uses:Zu} {d:Nat} {q:Pd} {x y z:Operand} {α:Type} {dk:Kd α} {t e:TypeId} {bytes j:Nat} {c:Option Nat}
theorem Zon {w : World} {ps rs : Array TypeId} {A : Option Addr} {la ca lb cb : Nat} {B : Addr} {cur : Array Value} {i : TypeInfo} (hp : ps[0]? = some t) (ht : P.underlying t = some (.slice e)) (hi : P.info? e = some i)
   (hA:la=0 ∨ ∃ a c2 t2 fr,A=some a ∧ a.block ≠ B.block ∧ w.heap[a.block]?=some (.cells c2 t2 fr) ∧ c2.size ≠ 0) (hB:w.heap[B.block]?=some (.cells cur e (0,0))) (hc:cur.size ≠ 0) :
   (Extern.SlicesOverlaps.overlaps ps rs #[.slice A la ca,.slice (some B) lb cb]).run P w=.ok (.bool false) w:=by
 have hfb:∀ n,w.frozen? { block:=B.block,off:=n }=false:=fun n=>by simp [World.frozen?,hB]
 have hfb':w.frozen? B=false:=by simp [World.frozen?,hB]
 have hsb:w.shape? B.block=some (e,cur.size):=by simp [World.shape?,hB]
 obtain ⟨n,hn⟩:∃ n,cur.size=n + 1:=⟨cur.size - 1,by omega⟩
 rw [hn] at hsb
 change Sem.run P (α:=Value) (do
   let some t := ps[0]? | stuck "slices.overlaps: no parameter types"
   let .slice elem ← underlying t | stuck "slices.overlaps: slice type expected"
   let size ← sizeOf elem
   match A,(some B:Option Addr) with
   | some a,some b =>
     if la=0 ∨ lb=0 ∨ size=0 then pure (Value.bool false)
     else if a.block != b.block && (← frozen a) && (← frozen b) then unsupported .addressObserved
     else do
       if a.block != b.block then do
         noView a;noView b
         if ← mayBeOne a b then return Value.bool ((← choose (.extern "sameAddr.stringBytes" 2)) == 1)
       pure (Value.bool (a.block == b.block && a.off < b.off + lb * size && b.off < a.off + la * size))
   | _,_=>pure (Value.bool false)) w=_
 rcases hA with rfl | ⟨a,c2,t2,fr,rfl,hne,ha,hc2⟩
 · cases A <;> simp [hp,run_underlying ht,sizeOf,typeInfo,hi]
 · have hnb:(a.block != B.block)=true:=by simpa using hne
   have hnb':(a.block == B.block)=false:=by simpa using hne
   obtain ⟨n2,hn2⟩:∃ n,c2.size=n + 1:=⟨c2.size - 1,by omega⟩
   have hsa:w.shape? a.block=some (t2,n2 + 1):=by simp [World.shape?,ha,hn2]
   by_cases h0:la=0 ∨ lb=0 ∨ i.size=0
   · simp [hp,run_underlying ht,sizeOf,typeInfo,hi,h0]
   · cases hfa : w.frozen? a <;> cases hfe : w.frozen? { block := a.block, off := n2 + 1 } <;>
       simp [hp,run_underlying ht,sizeOf,typeInfo,hi,h0,hnb,hnb',frozen,noView,viewAt,mayBeOne,stringish,shape,Sem.run,hsa,hsb,hfa,hfe,hfb,hfb']
theorem Zp7 {f : FuncId} {fs : List (Option α)} {off len s : Nat} {vs : List α} {ps rs : Array TypeId} {ty : Array TypeId} (hT : TE P t e dk bytes) (hp : ps[0]? = some t) (he : Ext P f (Extern.SlicesOverlaps.overlaps ps rs)) (hfs : 0 < fs.length) (hop : o.op = .call { callee := .value (.func f), args := #[x, y], argTypes := ty }) (hd : o.dst = some d)
   (hx:Opd uses x (dk.sl.pd vs)) (hy:Opd uses y (Zhn dk e j off len)) (hs:Opd uses (.tmp s) (pOwn dk e j c fs)):OB P N o uses [(d,Z1 false)] [] :=
 Zbg hd fun a g hh=>by
   obtain ⟨A,c2,hx1,hx2,hx3,hxr⟩:=Ziy (hx a g hh)
   obtain ⟨b,cap,cur,hyv,hO,hcap⟩:=hy a g hh
   obtain ⟨b',cap',cur',hsv,hO',_⟩:=hs a g hh
   obtain ⟨rfl,rfl,rfl⟩:=hO.same hO' hT.sz
   obtain ⟨i,zz,hi,hz,hsz,hby,hzs⟩:=hT.info
   have hl:=hO'.len
   have hcs:cur'.size ≠ 0:=by rw [hO'.sz];exact Nat.mul_ne_zero (by omega) (Nat.ne_of_gt hT.sz)
   have hr:(Extern.SlicesOverlaps.overlaps ps rs #[a.eval x,a.eval y]).run P g.w=.ok (.bool false) g.w:=by
     rw [hx1,hyv]
     have hblk:(if cap'=off then (⟨b',0,none⟩:Addr) else ⟨b',off * dk.sz,none⟩).block=b':=by split <;> rfl
     refine Zon hp hT.und hi ?_ (by rw [hblk];exact hO'.heap) hcs
     rw [hblk]
     rcases hxr with rfl | ⟨b2,o2,news,rfl,hnl,hnc,hnk⟩
     · exact .inl rfl
     · rcases Nat.eq_zero_or_pos vs.length with h0 | hpos
       · exact .inl h0
       · right
         have h1:0 < news.length:=by rw [hnl];exact Nat.mul_pos hpos hT.sz
         obtain ⟨hpr,hcell⟩:=hnc 0 _ (List.getElem?_eq_getElem h1)
         have hne:b2 ≠ b':=fun h=>hO'.npr _ (by rw [← h];exact hpr)
         obtain ⟨cc,tt,fr,hh2,hcs2⟩:∃ cc tt fr,g.w.heap[b2]?=some (.cells cc tt fr) ∧ cc.size ≠ 0:=by
           cases hob:g.w.heap[b2]? with
           | none=>simp [World.cell?,hob] at hcell
           | some ob=>cases ob with
             | cells cc tt fr =>
               refine ⟨cc,tt,fr,rfl,fun h0=>?_⟩
               have:cc=#[]:=Array.eq_empty_of_size_eq_zero h0
               subst this
               simp [World.cell?,hob] at hcell
             | _=>simp [World.cell?,hob] at hcell
         exact ⟨⟨b2,o2,none⟩,cc,tt,fr,rfl,hne,hh2,hcs2⟩
   exact ⟨.bool false,by simp [execOp,hop,resolve,Zmw,Deferred.ofValue,invoke,Zqx he,hr],Zde _ g⟩
def Zof (dk:Kd α) (e:TypeId) (xs:List α) (g:G) (v:Value) (D:Nat → Prop):Prop :=
 (xs=[] ∧ ∃ A,v=.slice A 0 0) ∨ ∃ b cap cur,v=.slice (some ⟨b,0,none⟩) xs.length cap ∧ D b ∧ b < g.w.heap.size ∧ g.w.heap[b]?=some (.cells cur e (0,0)) ∧ xs.length ≤ cap ∧ cap ≤ maxLen ∧ cur.size=cap * dk.sz ∧ (∀ (i:Nat) (x:α),xs[i]?=some x → dk.K g x (seg cur.toList (i * dk.sz) dk.sz)) ∧ ∀ o,¬ g.pr b o
def pArr (dk:Kd α) (e:TypeId) (j:Nat) (xs:List α):Pd:=⟨fun g u=>(xs=[] ∧ ∃ A,u=.slice A 0 0) ∨ ∃ b cap cur,u=.slice (some ⟨b,0,none⟩) xs.length cap ∧ OwnAt dk e (j + 1) (xs.map some) g b cap cur,[j + 1],fun s hd h=>h.imp id fun ⟨b,cap,cur,e,h⟩=>⟨b,cap,cur,e,h.st s (hd _ (by simp)) (by omega)⟩⟩
def Zk7 (P:Program) (f:FuncId) (A:List Pd) (dk:Kd α) (e:TypeId) (xs:List α):Prop:=∀ (g:G) (args:List Value),ArgsOk A g args →
 Calls P f args.toArray g.w (fun en w'=>∃ g' v,en=.returned v ∧ w'=g'.w ∧ Zru (fun _=>False) g g' ∧ Zof dk e xs g' v (fun b=>g.w.heap.size ≤ b))
def Zoa (P:Program) (f:FuncId) (dk:Kd α) (e:TypeId) (xs:List α) (A:List Pd) (q:Pd):Prop:=∀ (g:G) (v:Value) (D:Nat → Prop) (args:List Value),Zof dk e xs g v D → ArgsOk A g args →
 Calls P f (v :: args).toArray g.w (fun en w'=>∃ g' u,en=.returned u ∧ w'=g'.w ∧ Zru D g g' ∧ q.p g' u)
open Classical in
theorem Zi6 {f:FuncId} {xs:List α} {xo:List Operand} {A:List Pd} {ty:Array TypeId} (he:Zk P f) (hok:Zk7 P f A dk e xs) (hop:o.op=.call { callee:=.value (.func f),args:=xo.toArray,argTypes:=ty }) (hd:o.dst=some d) (hargs:OpdL uses xo A):OB P N o uses [(d,pArr dk e j xs)] [j + 1]:=by
 intro a g K Q hN hdN hu hK
 have hr:(execOp a.eval o).run P g.w=.ok (.enter f (xo.map a.eval).toArray) g.w:=by
   simp [execOp,hop,resolve,Act.eval,Deferred.ofValue,invoke,Zgb he]
 unfold Oper.wp
 rw [hr]
 show Calls P f _ g.w _
 refine Calls.mono (hok g _ (hargs.ok hu)) ?_
 rintro en w' ⟨g',v,rfl,rfl,hS,hA⟩
 have fin:∀ (o1:Nat → Nat),(∀ b,b < g.w.heap.size → o1 b=if g.own b=j + 1 then 0 else g.own b) → (∀ b,g.w.heap.size ≤ b → o1 b=0 ∨ o1 b=j + 1) → Step [j + 1] g ⟨g'.w,g'.pr,o1,g'.hpr,g'.gl⟩:=fun o1 h1 h2 =>
   ⟨⟨hS.le.size,hS.le.pr,hS.le.cell,hS.le.blk,hS.le.dr⟩,hS.os,hS.tape,hS.output,fun b hb hn=>⟨(hS.same b hb id).1,(hS.same b hb id).2,by show o1 b=_;rw [h1 b hb,if_neg (by simpa using hn)]⟩,
     fun b k1 k2=>(h2 b k1).imp id (fun h=>by show o1 b ∈ _;rw [h];simp),fun b hb hn=>.inl (by show o1 b=0;rw [h1 b hb,if_pos (by simpa using hn)])⟩
 rcases hA with ⟨rfl,A0,rfl⟩ | ⟨b,cap,cur,rfl,hD,h1,h2,h3,h4,h5,h6,h7⟩
 · refine hK _ ⟨g'.w,g'.pr,fun b=>if b < g.w.heap.size then (if g.own b=j + 1 then 0 else g.own b) else 0,g'.hpr,g'.gl⟩ (fin (fun b=>if b < g.w.heap.size then (if g.own b=j + 1 then 0 else g.own b) else 0) (fun b hb=>if_pos hb) (fun b hb=>.inl (if_neg (by omega)))) fun e' he'=>?_
   rw [List.mem_singleton.1 he',hd,Zc3 _ (by rw [hN];exact hdN d hd)]
   exact .inl ⟨rfl,A0,rfl⟩
 · refine hK _ ⟨g'.w, g'.pr, fun c => if c < g.w.heap.size then (if g.own c = j + 1 then 0 else g.own c) else if c = b then j + 1 else 0, g'.hpr, g'.gl⟩ (fin _ (fun b hb => if_pos hb) (fun c hc => by
     show (if c < g.w.heap.size then _ else _)=0 ∨ _=j + 1
     rw [if_neg (by omega)];split <;> simp)) fun e' he'=>?_
   rw [List.mem_singleton.1 he',hd,Zc3 _ (by rw [hN];exact hdN d hd)]
   refine .inr ⟨b,cap,cur,rfl,⟨h1,?_,fun b' hb' ho=>?_,h2,by simpa using h3,h4,h5,fun i x hx=>?_,h7⟩⟩
   · show (if b < g.w.heap.size then _ else _)=_
     rw [if_neg (by omega),if_pos rfl]
   · have ho':(if b' < g.w.heap.size then (if g.own b'=j + 1 then 0 else g.own b') else if b'=b then j + 1 else 0)=j + 1:=ho
     split at ho'
     · split at ho'
       · omega
       · rename_i hne;exact absurd ho' hne
     · split at ho'
       · assumption
       · omega
   · rw [List.getElem?_map] at hx
     obtain ⟨y,hy,he''⟩:=Option.map_eq_some_iff.1 hx
     obtain rfl:=Option.some.inj he''
     exact dk.mono (g:=g') ⟨Nat.le_refl _,fun _ _ h=>h,fun _ _ _=>rfl,fun _ _=>rfl,Nat.le_refl _⟩ (h6 i y hy)
theorem Zjx {f:FuncId} {xs:List α} {xo:List Operand} {A:List Pd} {ty:Array TypeId} (he:Zk P f) (hok:Zoa P f dk e xs A q) (hq:q.fp=[]) (hop:o.op=.call { callee:=.value (.func f),args:=(x :: xo).toArray,argTypes:=ty }) (hd:o.dst=some d) (hx:Opd uses x (pArr dk e j xs)) (hargs:OpdL uses xo A):OB P N o uses [(d,q)] [j + 1]:=by
 intro a g K Q hN hdN hu hK
 have hr:(execOp a.eval o).run P g.w=.ok (.enter f (a.eval x :: xo.map a.eval).toArray) g.w:=by
   simp [execOp,hop,resolve,Zmw,Deferred.ofValue,invoke,Zgb he]
 unfold Oper.wp
 rw [hr]
 show Calls P f _ g.w _
 have hA:Zof dk e xs g (a.eval x) (fun b=>g.own b=j + 1):=by
   rcases hx a g hu with h | ⟨b,cap,cur,h1,h2⟩
   · exact .inl h
   · exact .inr ⟨b,cap,cur,h1,h2.own,h2.lt,h2.heap,by simpa using h2.len,h2.max,h2.sz,fun i x hx=>h2.known i x (by rw [List.getElem?_map,hx];rfl),h2.npr⟩
 refine Calls.mono (hok g _ _ _ hA (hargs.ok hu)) ?_
 rintro en w' ⟨g',v,rfl,rfl,hS,hqv⟩
 let g2:G:=⟨g'.w,g'.pr,fun c=>if c < g.w.heap.size then g.own c else 0,g'.hpr,g'.gl⟩
 have hle:g'.le g2:=⟨Nat.le_refl _,fun _ _ h=>h,fun _ _ _=>rfl,fun _ _=>rfl,Nat.le_refl _⟩
 have hown:∀ c,g2.own c=if c < g.w.heap.size then g.own c else 0:=fun _=>rfl
 refine hK v g2 ⟨⟨hS.le.size,hS.le.pr,hS.le.cell,hS.le.blk,hS.le.dr⟩,hS.os,hS.tape,hS.output,fun c hc hn=>?_,fun c k1 k2=>.inl ?_,fun c hc hn=>.inr ?_⟩ fun e' he'=>?_
 · obtain ⟨k1,k2⟩:=hS.same c hc (by simpa using hn)
   exact ⟨k1,k2,by rw [hown,if_pos hc]⟩
 · rw [hown,if_neg (by omega)]
 · rw [hown,if_pos hc];exact hn
 · rw [List.mem_singleton.1 he',hd,Zc3 _ (by rw [hN];exact hdN d hd)]
   exact Pd.le hq hle rfl rfl rfl hqv
def Zly (dk:Kd α) (e:TypeId) (xs:List α) (g0:G) (v:Value) (g1:G):Prop:=Base g0 g1 ∧ Zof dk e xs g1 v (fun b=>g0.w.heap.size ≤ b)
theorem Zq5 {f : FuncId} {fn : Func} {cd : Code} {A : List Pd} {xs : List α} (hf : P.funcs[f]? = some fn) (hb : fn.body = some cd) (hn : fn.ntmps = N) (hAN : A.length ≤ N) (hA : Free A)
   (h:∀ (a:Act) (g:G),(∀ b,g.own b=0) → St N (Zim A 0) a g → Base g g → cd.wp P (bodyPost P fn (FinP (Zly dk e xs g))) a g.w):Zk7 P f A dk e xs:=by
 intro g args hargs
 let g0:G:=⟨g.w,g.pr,fun _=>0,g.hpr,g.gl⟩
 have hle:g.le g0:=⟨Nat.le_refl _,fun _ _ h=>h,fun _ _ _=>rfl,fun _ _=>rfl,Nat.le_refl _⟩
 have hst:St N (Zim A 0) { tmps:=args.toArray ++ Array.replicate (fn.ntmps - args.toArray.size) undef,defers:=[] } g0:=by
   refine ⟨?_,rfl,?_⟩
   · have:=hargs.1
     simp [hn];omega
   · intro e he
     obtain ⟨i,h1,h2⟩:=Zj6 he
     have hi:i < args.length:=by rw [hargs.1];exact (List.getElem?_eq_some_iff.1 h2).1
     have hv:Act.at { tmps:=args.toArray ++ Array.replicate (fn.ntmps - args.toArray.size) undef,defers:=[] } e.1=args[i]:=by
       rw [h1,Nat.zero_add]
       simp only [Act.at,Array.getD_eq_getD_getElem?]
       rw [Array.getElem?_append,if_pos (by simpa using hi)]
       simp [hi]
     rw [hv]
     exact Pd.le (hA.at h2) hle rfl rfl rfl (hargs.2 i e.2 _ h2 (List.getElem?_eq_getElem hi))
 have hbase:Base g0 g0:=⟨.refl _,rfl,rfl,rfl,fun _ _ _=>⟨rfl,rfl,rfl⟩⟩
 refine Calls.mono (calls_of_wp hf hb (h _ g0 (fun _=>rfl) hst hbase)) ?_
 rintro en w' ⟨g1,v,rfl,rfl,hB,hv⟩
 exact ⟨g1,v,rfl,rfl,⟨⟨hB.le.size,hB.le.pr,hB.le.cell,hB.le.blk,hB.le.dr⟩,hB.os,hB.tape,hB.output,fun b hb _=>⟨(hB.same b hb rfl).1,(hB.same b hb rfl).2.1⟩⟩,hv⟩
theorem Zto {fn:Func} {r:ResultVar} {v:Value} {xs:List α} {a:Act} {g g0:G} {L:Zu} (hr:fn.results=#[r]) (h0:∀ b,g0.own b=0) (h:St N L a g) (hb:Base g0 g) (h1:Zfb P a g r v) (hq:(pOwn dk e j c (xs.map some)).p g v):bodyPost P fn (FinP (Zly dk e xs g0)) .ret a g.w:=by
 refine endP hr h h1 ⟨hb,?_⟩
 obtain ⟨b,cap,cur,e1,hO,_⟩:=hq
 refine .inr ⟨b,cap,cur,by rw [e1];simp,Nat.le_of_not_lt fun hlt=>?_,hO.lt,hO.heap,by simpa using hO.len,hO.max,hO.sz,fun i x hx=>hO.known i x (by rw [List.getElem?_map,hx];rfl),hO.npr⟩
 have:=(hb.same b hlt (h0 b)).2.2
 rw [hO.own] at this;omega
theorem Zp6 {fn:Func} {r:ResultVar} {v:Value} {a:Act} {g g0:G} {L:Zu} (hr:fn.results=#[r]) (h:St N L a g) (hb:Base g0 g) (h1:Zfb P a g r v) (hq:∃ A,v=.slice A 0 0):bodyPost P fn (FinP (Zly dk e [] g0)) .ret a g.w:=endP hr h h1 ⟨hb,.inl ⟨rfl,hq⟩⟩
def Zo7 (g0:G) (q:Pd) (v:Value) (g1:G):Prop:=Base g0 g1 ∧ q.p g1 v
theorem Zo0 {f : FuncId} {fn : Func} {cd : Code} {A : List Pd} {xs : List α} (hf : P.funcs[f]? = some fn) (hb : fn.body = some cd) (hn : fn.ntmps = N) (hAN : A.length + 1 ≤ N) (hA : Free A)
   (h0:xs=[] → ∀ (a:Act) (g:G) (A0:Option Addr),St N ((0,pEq (.slice A0 0 0)) :: Zim A 1) a g → Base g g → cd.wp P (bodyPost P fn (FinP (Zo7 g q))) a g.w)
   (h:∀ (a:Act) (g:G) (cap:Nat),xs.length ≤ cap → cap ≤ maxLen → St N ((0,pOwn dk e 0 (some cap) (xs.map some)) :: Zim A 1) a g → Base g g → cd.wp P (bodyPost P fn (FinP (Zo7 g q))) a g.w):Zoa P f dk e xs A q:=by
 intro g v D args hv hargs
 have hlen:=hargs.1
 have hat:∀ (i:Nat) (u:Value),(v :: args)[i]?=some u → Act.at { tmps:=(v :: args).toArray ++ Array.replicate (fn.ntmps - (v :: args).toArray.size) undef,defers:=[] } i=u:=fun i u hi=>by
   have hlt:=(List.getElem?_eq_some_iff.1 hi).1
   simp only [Act.at,Array.getD_eq_getD_getElem?]
   rw [Array.getElem?_append,if_pos (by simpa using hlt)]
   have hi':((v :: args).toArray)[i]?=some u:=by rw [List.getElem?_toArray];exact hi
   rw [hi'];rfl
 have hrest:∀ (g0:G),g.le g0 → g0.w=g.w → Zcp (Zim A 1) { tmps:=(v :: args).toArray ++ Array.replicate (fn.ntmps - (v :: args).toArray.size) undef,defers:=[] } g0:=fun g0 hle hw e' he'=>by
   obtain ⟨i,e1,e2⟩:=Zj6 he'
   have hi:i < args.length:=by rw [hlen];exact (List.getElem?_eq_some_iff.1 e2).1
   rw [hat e'.1 args[i] (by rw [e1,Nat.add_comm];exact List.getElem?_eq_getElem hi)]
   exact Pd.le (hA.at e2) hle (by rw [hw]) (by rw [hw]) (by rw [hw]) (hargs.2 i e'.2 _ e2 (List.getElem?_eq_getElem hi))
 rcases hv with ⟨hx0,A0,rfl⟩ | ⟨b,cap,cur,rfl,hD,h1,h2,h3,h4,h5,h6,h7⟩
 · let g0:G:=⟨g.w,g.pr,fun _=>0,g.hpr,g.gl⟩
   have hle:g.le g0:=⟨Nat.le_refl _,fun _ _ h=>h,fun _ _ _=>rfl,fun _ _=>rfl,Nat.le_refl _⟩
   refine Calls.mono (calls_of_wp hf hb (h0 hx0 _ g0 A0 ⟨by simp [hn];omega,rfl,fun e' he'=>?_⟩ ⟨.refl _,rfl,rfl,rfl,fun _ _ _=>⟨rfl,rfl,rfl⟩⟩)) ?_
   · rcases List.mem_cons.1 he' with rfl | he'
     · exact hat 0 _ rfl
     · exact hrest g0 hle rfl e' he'
   · rintro en w' ⟨g1,u,rfl,rfl,hB,hq⟩
     exact ⟨g1,u,rfl,rfl,⟨⟨hB.le.size,hB.le.pr,hB.le.cell,hB.le.blk,hB.le.dr⟩,hB.os,hB.tape,hB.output,fun b hb _=>⟨(hB.same b hb rfl).1,(hB.same b hb rfl).2.1⟩⟩,hq⟩
 · let g0:G:=⟨g.w,g.pr,fun c=>if c=b then 1 else 0,g.hpr,g.gl⟩
   have hle:g.le g0:=⟨Nat.le_refl _,fun _ _ h=>h,fun _ _ _=>rfl,fun _ _=>rfl,Nat.le_refl _⟩
   refine Calls.mono (calls_of_wp hf hb (h _ g0 cap h3 h4 ⟨by simp [hn];omega,rfl,fun e' he'=>?_⟩ ⟨.refl _,rfl,rfl,rfl,fun _ _ h=>⟨rfl,rfl,h⟩⟩)) ?_
   · rcases List.mem_cons.1 he' with rfl | he'
     · show (pOwn dk e 0 (some cap) (xs.map some)).p g0 _
       rw [hat 0 _ rfl]
       refine ⟨b,cap,cur,by simp,⟨h1,if_pos rfl,fun b' _ ho=>?_,h2,by simpa using h3,h4,h5,fun i x hx=>?_,h7⟩,fun k hk=>Option.some.inj hk⟩
       · have:(if b'=b then 1 else 0)=1:=ho
         split at this
         · assumption
         · omega
       · rw [List.getElem?_map] at hx
         obtain ⟨y,hy,he''⟩:=Option.map_eq_some_iff.1 hx
         obtain rfl:=Option.some.inj he''
         exact dk.mono hle (h6 i y hy)
     · exact hrest g0 hle rfl e' he'
   · rintro en w' ⟨g1,u,rfl,rfl,hB,hq⟩
     refine ⟨g1,u,rfl,rfl,⟨⟨hB.le.size,hB.le.pr,hB.le.cell,hB.le.blk,hB.le.dr⟩,hB.os,hB.tape,hB.output,fun c hc hn'=>?_⟩,hq⟩
     have:=hB.same c hc (by show (if c=b then 1 else 0)=0;rw [if_neg (fun h=>hn' (by rw [h];exact hD))])
     exact ⟨this.1,this.2.1⟩
theorem Zta {A:Option Addr} (hT:TE P t e dk bytes) (hop:o.op=.slice t x (some y) none none) (hx:Opd uses x (pEq (.slice A 0 0))) (hy:Opd uses y (pInt .i64 0)):OB P N o uses [] []:=by
 intro a g K Q hN hdN hu hK
 have hv:a.eval x=.slice A 0 0:=hx a g hu
 obtain ⟨i,zz,hi,hz,hsz,hby,hzs⟩:=hT.info
 have hb:∀ w cd,(Instr.sliceBound (a.eval y) 0 cd).run P w=.ok 0 w:=fun w cd=>Ze7 (Zb1.1 (hy a g hu)) (Nat.le_refl _)
 have hr:∃ v,(execOp a.eval o).run P g.w=.ok (.value v) g.w:=by
   simp [execOp,hop,hv,Instr.sliceAt,Instr.slice,Instr.sliceBounds,run_underlying hT.und,hb,sizeOf,typeInfo,hi]
 obtain ⟨v,hr⟩:=hr
 unfold Oper.wp
 rw [hr]
 exact hK v g (.refl _ _) (fun e he=>by cases he)
theorem Zwe {A:Option Addr} {t:TypeId} (ht:P.underlying t=some (.slice e)) (hop:o.op=.call { callee:=.builtin .len,args:=#[x],argTypes:=#[t] }) (hd:o.dst=some d) (hx:Opd uses x (pEq (.slice A 0 0))):OB P N o uses [(d,pInt .i64 0)] [] :=
 Zbg hd fun a g hh=>by
   have hv:a.eval x=.slice A 0 0:=hx a g hh
   exact ⟨.int .i64 0,by simp [execOp,hop,resolve,invoke,builtin,hv,Builtin.len_,run_underlying ht,goInt],Zej _ _ g⟩
theorem Zrm {A : Option Addr} {vs : List α} (hT : TE P t e dk bytes) (hop : o.op = .call { callee := .builtin .append, args := #[x, y], argTypes := #[t, t] }) (hd : o.dst = some d) (hx : Opd uses x (pEq (.slice A 0 0))) (hy : Opd uses y (dk.sl.pd vs)) (hpos : 0 < vs.length) (hl : vs.length * bytes ≤ 140737488355328) :
   OB P N o uses [(d,pOwn dk e j none (vs.map some))] [j + 1] :=
 Zez hd fun a g hh=>by
   have hv:a.eval x=.slice A 0 0:=hx a g hh
   obtain ⟨A2,c2,hy1,hy2,hy3,hyr⟩:=Ziy (hy a g hh)
   obtain ⟨i,zz,hi,hz,hsz,hby,hzs⟩:=hT.info
   have hlen:vs.length ≤ 140737488355328:=Nat.le_trans (Nat.le_mul_of_pos_right _ hT.by0) hl
   obtain ⟨b2,o2,news,rfl,hnl,hnc,hnk⟩:=hyr.resolve_left (fun h=>by rw [h] at hpos;simp at hpos)
   have hnl':news.length=vs.length * i.size:=by rw [hsz];exact hnl
   have hnews:∀ k u,news[k]?=some u → g.w.cell? ((⟨b2,o2,none⟩:Addr).add k)=some u:=fun k u hu=>by rw [Zbw];exact (hnc k u hu).2
   have hge:=grownCap_ge g.w vs.length 0 e
   have hmx:=grownCap_le_maxLen g.w vs.length 0 e (by simp only [maxLen];omega)
   have hr:(Builtin.append_ #[t,t] o.type #[.slice A 0 0,.slice (some ⟨b2,o2,none⟩) vs.length c2]).run P g.w=.ok (.slice (some ⟨g.w.heap.size,0,none⟩) vs.length (grownCap g.w vs.length 0 e)) (g.w.drew.alloc (.cells (news.toArray ++ Builtin.zeroCells zz.cells (grownCap g.w vs.length 0 e - vs.length)) e)):=by
     cases A with
     | none=>exact run_append_nil (P:=P) g.w t o.type e i zz hT.und hi hz ⟨b2,o2,none⟩ vs.length c2 news hnl' hnews hpos (by omega) (by rw [hby];omega)
     | some A =>
       have:=run_append_grow (P:=P) g.w t o.type e i zz hT.und hi hz A 0 0 [] (by simp) (fun j u hu=>by simp at hu) ⟨b2,o2,none⟩ vs.length c2 news hnl' hnews (by omega) (by omega) (growslice_fits (by omega) (by rw [hby,Nat.zero_add];exact hl))
       simpa using this
   obtain ⟨g', hw, hst, hO3⟩ := Zl2 (dk := dk) (e := e) (g := g) (j := j + 1) (cur := news.toArray ++ Builtin.zeroCells zz.cells (grownCap g.w vs.length 0 e - vs.length)) (cap := grownCap g.w vs.length 0 e) (fs := vs.map some) (by omega) (by simpa using hge) hmx (by
       simp only [Array.size_append,List.size_toArray,Zgn,hzs,hnl,← Nat.add_mul]
       congr 1;omega) (fun k u hk=>by
       rw [List.getElem?_map] at hk
       obtain ⟨u',hu',he'⟩:=Option.map_eq_some_iff.1 hk
       obtain rfl:=Option.some.inj he'
       simp only [Array.toList_append]
       rw [Zco (by rw [hnl];exact Zgc (List.getElem?_eq_some_iff.1 hu').1)]
       exact hnk _ _ hu')
   refine ⟨_,g',?_,hst,_,_,_,rfl,hO3,fun k hk=>by cases hk⟩
   rw [List.length_map]
   simp [execOp,hop,resolve,invoke,builtin,hv,hy1,hr,hw]
theorem Zqv (xs vs:List α) (k i:Nat) (hk:k ≤ xs.length):((xs.take k ++ vs ++ xs.drop k).map some)[i]?=if i < k then (xs[i]?).map some else if i < k + vs.length then (vs[i - k]?).map some else (xs[i - vs.length]?).map some:=by
 have h1:(xs.take k).length=k:=by simp;omega
 rw [List.getElem?_map,List.append_assoc,List.getElem?_append,h1]
 by_cases a:i < k
 · rw [if_pos a,if_pos a,List.getElem?_take,if_pos a]
 · rw [if_neg a,if_neg a,List.getElem?_append]
   by_cases b:i < k + vs.length
   · rw [if_pos b,if_pos (by omega)]
   · rw [if_neg b,if_neg (by omega),List.getElem?_drop]
     congr 2;omega
theorem ins1 {xs vs:List α} {k:Nat} (hk:k ≤ xs.length):over (over ((xs.take k).map some ++ List.replicate (xs.length + vs.length - k) none) k vs) (k + vs.length) (xs.drop k)=(xs.take k ++ vs ++ xs.drop k).map some:=by
 have hl:((xs.take k).map some ++ List.replicate (xs.length + vs.length - k) (none:Option α)).length=xs.length + vs.length:=by simp;omega
 apply List.ext_getElem?
 intro i
 rw [Zg6 (by rw [Zg3 (by rw [hl];omega),hl];simp;omega),Zg6 (by rw [hl];omega),Zqv xs vs k i hk]
 have hd:(xs.drop k).length=xs.length - k:=by simp
 by_cases a:i < k
 · rw [if_pos (by omega),if_pos a,if_pos a,List.getElem?_append_left (by simp;omega),List.getElem?_map,List.getElem?_take,if_pos a]
 · by_cases b:i < k + vs.length
   · rw [if_pos b,if_neg a,if_pos b,if_neg a,if_pos b]
   · rw [if_neg b,if_neg a,if_neg b]
     by_cases c:i < xs.length + vs.length
     · rw [if_pos (by rw [hd];omega),List.getElem?_drop]
       rw [show k + (i - (k + vs.length))=i - vs.length by omega,if_neg a,if_neg b]
     · rw [if_neg (by rw [hd];omega),if_neg a,if_neg b,List.getElem?_eq_none (by rw [hl];omega),List.getElem?_eq_none (by omega)];rfl
theorem ins2 {xs vs:List α} {k:Nat} (hk:k ≤ xs.length):over (over (xs.map some ++ List.replicate (xs.length + vs.length - (xs.map some).length) none) (k + vs.length) (xs.drop k)) k vs=(xs.take k ++ vs ++ xs.drop k).map some:=by
 have hl:(xs.map some ++ List.replicate (xs.length + vs.length - (xs.map some).length) (none:Option α)).length=xs.length + vs.length:=by simp
 have hd:(xs.drop k).length=xs.length - k:=by simp
 apply List.ext_getElem?
 intro i
 rw [Zg6 (by rw [Zg3 (by rw [hl,hd];omega),hl];omega),Zg6 (by rw [hl,hd];omega),Zqv xs vs k i hk]
 by_cases a:i < k
 · rw [if_pos a,if_pos (by omega),if_pos a,List.getElem?_append_left (by simp;omega),List.getElem?_map]
 · by_cases b:i < k + vs.length
   · rw [if_neg a,if_pos b,if_neg a,if_pos b]
   · rw [if_neg a,if_neg b,if_neg b,if_neg a,if_neg b]
     by_cases c:i < xs.length + vs.length
     · rw [if_pos (by rw [hd];omega),List.getElem?_drop]
       rw [show k + (i - (k + vs.length))=i - vs.length by omega]
     · rw [if_neg (by rw [hd];omega),List.getElem?_eq_none (by rw [hl];omega),List.getElem?_eq_none (by omega)];rfl
theorem Zle {a b:Nat} (h:a + b ≤ 9223372036854775807):IntKind.i64.wrap ((a:Int) + (b:Int))=((a + b:Nat):Int):=by rw [Zld (by omega) (by omega)];omega
theorem Zw9 {x:Nat} {n k:Nat} (hx:x=n) (h:k ≤ n) (hn:n ≤ 9223372036854775807):IntKind.i64.wrap ((x:Int) - (k:Int))=((n - k:Nat):Int):=by rw [Zld (by omega) (by omega)];omega
theorem Zl6 (xs:List α) (k:Nat):∀ (i:Nat) (x:α),(xs.take k)[i]?=some x → (xs.map some)[i]?=some (some x):=fun i x hx=>by
 rw [List.getElem?_take] at hx
 split at hx
 · rw [List.getElem?_map,hx];rfl
 · cases hx
theorem Zq8 (xs:List α) (k:Nat):∀ (i:Nat) (x:α),(xs.drop k)[i]?=some x → (xs.map some)[k + i]?=some (some x):=fun i x hx=>by
 rw [List.getElem?_drop] at hx
 rw [List.getElem?_map,hx];rfl
theorem Zhm {f : FuncId} {C : List Pd} {Ps Qs : List Par} {xs : List Operand} {hs ks : List Home} {ty : Array TypeId} {outs : Zu} {S : List Nat} (he : Zk P f) (hok : FnB P f (Ps ++ Qs) q) (hop : o.op = .call { callee := .value x, args := xs.toArray, argTypes := ty }) (hd : o.dst = some d) (hq : q.fp = []) (hf : Opd uses x (Zoj f C)) (hx : OpB uses Ps xs hs) (hc : CapB uses C Qs ks)
   (hne:((hs ++ ks).all fun h=>h.1 != d)=true) (hj:(hs.all fun h=>ks.all fun k=>k.2.2 != h.2.2)=true) (ho:outs=(d,q) :: Zfw (Ps ++ Qs) (hs ++ ks)) (hS:S=SB (hs ++ ks)):OB P N o uses outs S:=by
 subst ho;subst hS;exact Zsz he hok hop hd hq hne hj hf hx hc
def pFun (P:Program) (Φ:FuncId → List Pd → Prop):Pd:=⟨fun g v=>∃ (f:FuncId) (C:List Pd) (caps:List Value),v=.func (.func f) #[] caps.toArray ∧ Zk P f ∧ Free C ∧ Φ f C ∧ ArgsOk C g caps ∧ (∀ q ∈ C,∀ (g g':G) (u:Value),g.le g' → q.p g u → q.p g' u),[],fun s _ ⟨f,C,caps,h1,h2,h3,h4,h5,h6⟩=>⟨f,C,caps,h1,h2,h3,h4,⟨h5.1,fun i qi u hq hu=>qi.st s (by rw [h3.at hq];intro j hj;cases hj) (h5.2 i qi u hq hu)⟩,h6⟩⟩
theorem Zrj {Φ : FuncId → List Pd → Prop} {Ps : List Par} {xs : List Operand} {hs : List Home} {ty : Array TypeId} {outs : Zu} {S : List Nat} (hΦ : ∀ f C, Φ f C → FnB P f (Ps ++ C.map .val) q) (hop : o.op = .call { callee := .value x, args := xs.toArray, argTypes := ty }) (hd : o.dst = some d) (hq : q.fp = []) (hf : Opd uses x (pFun P Φ)) (hx : OpB uses Ps xs hs) (hne : (hs.all fun h => h.1 != d) = true)
   (ho:outs=(d,q) :: Zfw Ps hs) (hS:S=SB hs):OB P N o uses outs S:=by
 subst ho;subst hS
 refine Zlq hq hd (fun h hh=>by simpa using List.all_eq_true.1 hne h hh) fun a g hu=>?_
 obtain ⟨f,C,caps,h1,h2,h3,h4,h5,_⟩:=hf a g hu
 refine ⟨f,Ps ++ C.map .val,xs.map a.eval ++ caps,hΦ f C h4,Zja.symm,?_,?_⟩
 · simp [execOp,hop,resolve,h1,Deferred.ofValue,invoke,Zgb h2]
 · have:=Zj8 (hx.ok hu) (Znj (a:=a) h5) (fun h _ k hk=>by cases hk)
   rwa [List.append_nil] at this
def pTab (P:Program) (n:Nat) (Φ:Nat → Option (FuncId → List Pd → Prop)):Pd:=⟨fun g v=>∃ cs:List Value,v=.agg cs.toArray ∧ cs.length=n ∧ ∀ (k:Nat) (F:FuncId → List Pd → Prop) (u:Value),Φ k=some F → cs[k]?=some u → (pFun P F).p g u,[],fun s hd ⟨cs,h1,h2,h3⟩=>⟨cs,h1,h2,fun k F u hF hu=>(pFun P F).st s (fun j hj=>by cases hj) (h3 k F u hF hu)⟩⟩
theorem Zpu {t e : TypeId} {n : Nat} {i : Int} {Φ : Nat → Option (FuncId → List Pd → Prop)} {F : FuncId → List Pd → Prop} (ht : P.underlying t = some (.array n e)) (hs : (P.info? e).map (·.size) = some 1) (hu : ∃ u, P.underlying e = some u ∧ (match u with | .struct _ | .array _ _ => true | _ => false) = false) (h0 : 0 ≤ i) (hF : Φ i.toNat = some F) (hn : i.toNat < n)
   (hop:o.op=.index t x y) (hd:o.dst=some d) (hx:Opd uses x (pTab P n Φ)) (hy:Opd uses y (pInt .i64 i)):OB P N o uses [(d,pFun P F)] [] :=
 Zbg hd fun a g hh=>by
   obtain ⟨cs,hv,hl,h3⟩:=hx a g hh
   have hyv:=Zb1.1 (hy a g hh)
   have hlt:i.toNat < cs.length:=by omega
   obtain ⟨u,hu1,hu2⟩:=hu
   have hag:(isAgg e).run P g.w=.ok false g.w:=by
     unfold isAgg
     simp only [Sem.run_bind,run_underlying hu1,Result.andThen_ok]
     cases u <;> first | rfl | simp at hu2
   refine ⟨cs[i.toNat],?_,h3 i.toNat F _ hF (List.getElem?_eq_getElem hlt)⟩
   have h1:i < (n:Int):=by omega
   simp [execOp,hop,hv,hyv,Instr.index,asIntOf,run_underlying ht,h0,h1,Zdk hs,part,hag,hlt]
def Kd.fnc:Kd Nat:=Kd.scalar (fun f=>.func (.func f) #[] #[]) fun _=>rfl
theorem Opd.fncv {f:Nat}:Opd uses (.func f) (Kd.fnc.pd f):=fun _ _ _=>Kd.scalar_V.2 rfl
theorem Zwa {f:Nat} {g:G} {v:Value} (h:(Kd.fnc.pd f).p g v):(pClo f [] rfl).p g v:=by
 obtain ⟨cs,rfl,rfl⟩:=h
 exact ⟨[],rfl,Zce⟩
theorem Zgd {f:Nat}:∀ q ∈ [Kd.fnc.ptr f],∀ (g g':G) (u:Value),g.le g' → q.p g u → q.p g' u:=fun q hq g g' u hle h=>by
 rw [List.mem_singleton.1 hq] at h ⊢
 obtain ⟨b,o,cs,e,hk,hc⟩:=h
 exact ⟨b,o,cs,e,Kd.fnc.mono hle hk,hc.mono hle⟩
theorem Zv2 {Φ:FuncId → List Pd → Prop} {g g':G} {v:Value} (h:g.le g') (hv:(pFun P Φ).p g v):(pFun P Φ).p g' v:=by
 obtain ⟨f,C,caps,h1,h2,h3,h4,h5,h6⟩:=hv
 exact ⟨f,C,caps,h1,h2,h3,h4,⟨h5.1,fun i qi u hq hu=>h6 qi (List.mem_of_getElem? hq) _ _ _ h (h5.2 i qi u hq hu)⟩,h6⟩
abbrev TabT:=Nat → Option (FuncId → List Pd → Prop)
def Kd.tab (P:Program) (n:Nat) (hn:n ≠ 1):Kd TabT where
 sz:=n
 ag:=true
 K:=fun g Φ cs=>cs.length=n ∧ (∀ u ∈ cs,u.oneCell'=true) ∧ ∀ (k:Nat) (F:FuncId → List Pd → Prop) (u:Value),Φ k=some F → cs[k]?=some u → (pFun P F).p g u
 len:=fun h=>h.1
 one:=fun h=>h.2.1
 mono:=fun hle h=>⟨h.1,h.2.1,fun k F u hF hu=>Zv2 hle (h.2.2 k F u hF hu)⟩
 nag:=fun h=>by cases h
theorem Zue {n:Nat} {hn:n ≠ 1} {Φ:TabT} {g:G} {v:Value} (h:((Kd.tab P n hn).pd Φ).p g v):(pTab P n Φ).p g v:=by
 obtain ⟨cs,⟨h1,h2,h3⟩,rfl⟩:=h
 exact ⟨cs,rfl,h1,h3⟩
theorem Zo2 {t e : TypeId} {n : Nat} {zero : Value} (hu : P.underlying t = some (.array n e)) (hz : (P.info? t).bind (·.zero) = some zero) (hs : (P.info? e).map (·.size) = some 1) {parts : Array (Nat × Value)} {cells : Array Value}
   (hf:Instr.fill (fun i=>some (i * 1,1)) zero.cells parts.toList=some cells) (w:World):(Instr.build t parts).run P w=.ok (.agg cells) w:=by
 obtain ⟨i,hi,hz⟩:=Option.bind_eq_some_iff.1 hz
 have hf':Instr.fill (fun i=>some (i,1)) zero.cells parts.toList=some cells:=by simpa using hf
 simp [Instr.build,zeroValue,typeInfo,hi,hz,run_underlying hu,Zdk hs,hf']
end
section
variable {P:Program} {N:Nat} {o:Oper} {uses outs:Zu} {S:List Nat} {d:Nat} {q:Pd} {x y z:Operand}
theorem OB.at (h:∀ (a:Act) g,Zcp uses a g → ∃ uses':Zu,Zcp uses' a g ∧ OB P N o uses' outs S):OB P N o uses outs S :=
 fun a g K Q hN hdN hu hK=>let ⟨_,h1,h2⟩:=h a g hu;h2 a g K Q hN hdN h1 hK
theorem OB.frame {n:Nat} (h:OB P N o uses outs S) (hq:∀ j ∈ q.fp,j ∉ S) (hn:o.dst ≠ some n):OB P N o ((n,q) :: uses) ((n,q) :: outs) S:=by
 intro a g K Q hN hdN hu hK
 refine h a g K Q hN hdN (fun e he=>hu e (List.mem_cons_of_mem _ he)) fun v g' hs ho=>hK v g' hs fun e he=>?_
 rcases List.mem_cons.1 he with rfl | he
 · have:=hu (n,q) (List.mem_cons_self ..)
   have h2:=q.st hs hq this
   show q.p g' (Act.at (a.put o.dst v) n)
   rw [Zhh v hn];exact h2
 · exact ho e he
abbrev SlV:=Option Addr × Nat × Nat
def slv (s:SlV):Value:=.slice s.1 s.2.1 s.2.2
def Kd.raw:Kd SlV:=Kd.scalar slv fun _=>rfl
variable {α β γ δ ε:Type} {kV:Kd γ} {raw:α → SlV → γ} {lst:α → List β} {dk:Kd β} {di:Kd δ} {dj:Kd ε} {t e j jl:Nat} {xv:α}
end
end Go.CL
namespace Go.CL
open Go
def INF:Nat:=9218868437227405312
def TOP:Nat:=9223372036854775808
def BIN:Nat:=4503599627370496
def rg (b:Nat):Nat:=b % TOP
def isn (b:Nat):Prop:=INF < rg b
instance (b:Nat):Decidable (isn b):=inferInstanceAs (Decidable (INF < rg b))
def sg (b:Nat):Int:=if TOP ≤ b then -((b - TOP:Nat):Int) else (b:Int)
def ngb (b:Nat):Bool:=b / TOP % 2 == 1
def Zf9:Int:=Ieee.double.leastPlace
theorem Zm8 (b:Nat):Ieee.double.read b=if rg b < BIN then .number (ngb b) (rg b) Zf9 else if rg b < INF then .number (ngb b) (BIN + rg b % BIN) (Zf9 + (rg b / BIN - 1:Nat)) else if rg b=INF then .infinity (ngb b) else .nan (ngb b) (rg b - INF):=rfl
def mg (r:Nat):Nat:=if r < BIN then r else (BIN + r % BIN) * 2 ^ (r / BIN - 1)
theorem Zob {r s:Nat} (h:r < s):mg r < mg s:=by
 unfold mg
 have hB:0 < BIN:=by decide
 by_cases hr:r < BIN
 ·rw [if_pos hr]
  by_cases hs:s < BIN
  ·rw [if_pos hs];exact h
  ·rw [if_neg hs]
   have:1 ≤ 2 ^ (s / BIN - 1):=Nat.one_le_two_pow
   calc r < BIN:=hr
    _ ≤ BIN + s % BIN:=Nat.le_add_right _ _
    _ ≤ (BIN + s % BIN) * 2 ^ (s / BIN - 1):=Nat.le_mul_of_pos_right _ this
 ·have hs:¬ s < BIN:=by omega
  rw [if_neg hr,if_neg hs]
  have h1:1 ≤ r / BIN:=(Nat.le_div_iff_mul_le hB).2 (by omega)
  have hq:r / BIN ≤ s / BIN:=Nat.div_le_div_right (Nat.le_of_lt h)
  have er:=Nat.div_add_mod r BIN
  have es:=Nat.div_add_mod s BIN
  have hm:r % BIN < BIN:=Nat.mod_lt _ hB
  rcases Nat.lt_or_eq_of_le hq with hlt | heq
  ·have h2:2 ^ (r / BIN - 1) * 2 ≤ 2 ^ (s / BIN - 1):=by
    rw [← Nat.pow_succ]
    exact Nat.pow_le_pow_right (by decide) (by omega)
   have hp:0 < 2 ^ (r / BIN - 1):=Nat.two_pow_pos _
   calc (BIN + r % BIN) * 2 ^ (r / BIN - 1) < (BIN + BIN) * 2 ^ (r / BIN - 1):=Nat.mul_lt_mul_of_pos_right (by omega) hp
    _=BIN * (2 ^ (r / BIN - 1) * 2):=by rw [← Nat.two_mul,Nat.mul_comm (2 ^ (r / BIN - 1)) 2,← Nat.mul_assoc,Nat.mul_comm BIN 2]
    _ ≤ BIN * 2 ^ (s / BIN - 1):=Nat.mul_le_mul_left _ h2
    _ ≤ (BIN + s % BIN) * 2 ^ (s / BIN - 1):=Nat.mul_le_mul_right _ (Nat.le_add_right _ _)
  ·rw [heq]
   rw [heq] at er
   exact Nat.mul_lt_mul_of_pos_right (by omega) (Nat.two_pow_pos _)
theorem Zs1 {r s:Nat}:mg r=mg s ↔ r=s:=by
 constructor
 ·intro h
  rcases Nat.lt_trichotomy r s with hlt | heq | hgt
  ·have:=Zob hlt;omega
  ·exact heq
  ·have:=Zob hgt;omega
 ·intro h;rw [h]
theorem Znk {r s:Nat}:mg r < mg s ↔ r < s:=by
 constructor
 ·intro h
  rcases Nat.lt_trichotomy r s with hlt | heq | hgt
  ·exact hlt
  ·rw [heq] at h;omega
  ·have:=Zob hgt;omega
 ·exact Zob
def sgn (s:Bool) (n:Nat):Int:=if s then -(n:Int) else n
theorem Zx4 {s t:Bool} {m n r q:Nat} (h:m < n ↔ r < q) (h':n < m ↔ q < r) (h0:m=0 ↔ r=0) (h0':n=0 ↔ q=0):sgn s m < sgn t n ↔ sgn s r < sgn t q:=by
 cases s <;> cases t <;> simp [sgn] <;> omega
theorem Zxj {s t:Bool} {m n r q:Nat} (h:m < n ↔ r < q) (h':n < m ↔ q < r) (h0:m=0 ↔ r=0) (h0':n=0 ↔ q=0):sgn s m=sgn t n ↔ sgn s r=sgn t q:=by
 cases s <;> cases t <;> simp [sgn] <;> omega
theorem Zxe (a b:Int):compare a b=.lt ↔ a < b:=by
 simp only [compare,compareOfLessAndEq]
 split
 ·simp [*]
 ·split <;> simp [*]
theorem Zx2 (a b:Int):compare a b=.eq ↔ a=b:=by
 simp only [compare,compareOfLessAndEq]
 split
 ·rename_i h;simp;omega
 ·split <;> simp [*]
theorem Zux {b:Nat} (h:b < 18446744073709551616):sg b=sgn (ngb b) (rg b):=by
 unfold sg sgn ngb rg TOP
 split
 ·rename_i h1
  have e1:b / 9223372036854775808=1:=by omega
  have e2:b % 9223372036854775808=b - 9223372036854775808:=by omega
  simp [e1,e2]
 ·have e1:b / 9223372036854775808=0:=by omega
  have e2:b % 9223372036854775808=b:=by omega
  simp [e1,e2]
def nm (r:Nat):Nat:=if r < BIN then r else BIN + r % BIN
def np (r:Nat):Nat:=if r < BIN then 0 else r / BIN - 1
theorem Zvj (r:Nat):mg r=nm r * 2 ^ np r:=by
 unfold mg nm np
 split <;> simp
theorem Zj3 {b:Nat} (h:rg b < INF):Ieee.double.read b=.number (ngb b) (nm (rg b)) (Zf9 + (np (rg b):Nat)):=by
 rw [Zm8]
 unfold nm np
 split
 ·simp
 ·simp [h]
theorem Zsw (s t:Bool) (r q:Nat):∃ o,Ieee.Datum.order (.number s (nm r) (Zf9 + (np r:Nat))) (.number t (nm q) (Zf9 + (np q:Nat)))=some o ∧ (o=.lt ↔ sgn s r < sgn t q) ∧ (o=.eq ↔ sgn s r=sgn t q):=by
 refine ⟨_,rfl,?_⟩
 have hmin:min (Zf9 + (np r:Nat)) (Zf9 + (np q:Nat))=Zf9 + (min (np r) (np q):Nat):=by omega
 have e1:(Zf9 + (np r:Nat) - min (Zf9 + (np r:Nat)) (Zf9 + (np q:Nat))).toNat=np r - min (np r) (np q):=by rw [hmin];omega
 have e2:(Zf9 + (np q:Nat) - min (Zf9 + (np r:Nat)) (Zf9 + (np q:Nat))).toNat=np q - min (np r) (np q):=by rw [hmin];omega
 have hs:∀ (s:Bool) (m u:Nat),Ieee.signed s m u=sgn s (m * 2 ^ u):=by
  intro s m u
  simp [Ieee.signed,sgn,Nat.shiftLeft_eq]
 rw [e1,e2,hs,hs,Zxe,Zx2]
 have hc:0 < 2 ^ min (np r) (np q):=Nat.two_pow_pos _
 have m1:nm r * 2 ^ (np r - min (np r) (np q)) * 2 ^ min (np r) (np q)=mg r:=by
  rw [Nat.mul_assoc,← Nat.pow_add,Nat.sub_add_cancel (Nat.min_le_left _ _),Zvj]
 have m2:nm q * 2 ^ (np q - min (np r) (np q)) * 2 ^ min (np r) (np q)=mg q:=by
  rw [Nat.mul_assoc,← Nat.pow_add,Nat.sub_add_cancel (Nat.min_le_right _ _),Zvj]
 have k1:nm r * 2 ^ (np r - min (np r) (np q)) < nm q * 2 ^ (np q - min (np r) (np q)) ↔ r < q:=by
  rw [← Znk (r:=r) (s:=q),← m1,← m2]
  exact (Nat.mul_lt_mul_right hc).symm
 have k2:nm q * 2 ^ (np q - min (np r) (np q)) < nm r * 2 ^ (np r - min (np r) (np q)) ↔ q < r:=by
  rw [← Znk (r:=q) (s:=r),← m1,← m2]
  exact (Nat.mul_lt_mul_right hc).symm
 have z0:mg 0=0:=rfl
 have k3:nm r * 2 ^ (np r - min (np r) (np q))=0 ↔ r=0:=by
  have hz:r=0 ↔ mg r=0:=(Zs1 (r:=r) (s:=0)).symm
  rw [hz,← m1]
  constructor
  ·intro h;rw [h,Nat.zero_mul]
  ·intro h;exact (Nat.mul_eq_zero.1 h).resolve_right (by omega)
 have k4:nm q * 2 ^ (np q - min (np r) (np q))=0 ↔ q=0:=by
  have hz:q=0 ↔ mg q=0:=(Zs1 (r:=q) (s:=0)).symm
  rw [hz,← m2]
  constructor
  ·intro h;rw [h,Nat.zero_mul]
  ·intro h;exact (Nat.mul_eq_zero.1 h).resolve_right (by omega)
 exact ⟨Zx4 k1 k2 k3 k4,Zxj k1 k2 k3 k4⟩
theorem Zj0 {a b:Nat} (ha:a < 18446744073709551616) (hb:b < 18446744073709551616) (na:¬ isn a) (nb:¬ isn b):∃ o,Ieee.double.order a b=some o ∧ (o=.lt ↔ sg a < sg b) ∧ (o=.eq ↔ sg a=sg b):=by
 rw [Zux ha,Zux hb]
 unfold isn at na nb
 have hI:INF=9218868437227405312:=rfl
 have rd:∀ x,¬ INF < rg x → rg x < INF ∨ rg x=INF:=fun x h=>by omega
 have ri:∀ x,rg x=INF → Ieee.double.read x=.infinity (ngb x):=fun x h=>by
  rw [Zm8,if_neg (by rw [h];decide),if_neg (by rw [h];decide),if_pos h]
 unfold Ieee.Format.order
 rcases rd a na with h1 | h1 <;> rcases rd b nb with h2 | h2
 ·rw [Zj3 h1,Zj3 h2];exact Zsw _ _ _ _
 ·rw [Zj3 h1,ri b h2]
  refine ⟨_,rfl,?_⟩
  rw [h2]
  cases ngb a <;> cases ngb b <;> simp [sgn] <;> omega
 ·rw [ri a h1,Zj3 h2]
  refine ⟨_,rfl,?_⟩
  rw [h1]
  cases ngb a <;> cases ngb b <;> simp [sgn] <;> omega
 ·rw [ri a h1,ri b h2]
  refine ⟨_,rfl,?_⟩
  rw [h1,h2]
  cases ngb a <;> cases ngb b <;> simp [sgn] <;> first | decide | omega
theorem Znr {a b:Nat} (h:isn a ∨ isn b):Ieee.double.order a b=none:=by
 have rn:∀ x,isn x → ∃ s f,Ieee.double.read x=.nan s f:=fun x h=>by
  refine ⟨ngb x,rg x - INF,?_⟩
  unfold isn at h
  have hI:INF=9218868437227405312:=rfl
  have hB:BIN=4503599627370496:=rfl
  rw [Zm8,if_neg (by omega),if_neg (by omega),if_neg (by omega)]
 unfold Ieee.Format.order
 rcases h with h | h
 ·obtain ⟨s,f,e⟩:=rn a h
  rw [e];rfl
 ·obtain ⟨s,f,e⟩:=rn b h
  rw [e]
  cases Ieee.double.read a <;> rfl
end Go.CL
namespace Go.CL
open Go Go.RowKit
def fadd (m n:Nat):Nat:=(Ieee.double.add m n).getD 9221120237041090561
def fmul (m n:Nat):Nat:=(Ieee.double.mul m n).getD 9221120237041090561
theorem Zt8 {b:Nat} (h:isn b):fneq b b=true:=by
 unfold fneq
 show (Ieee.double.order b b != some .eq)=true
 rw [Znr (.inl h)];rfl
section
variable {P:Program} {N:Nat} {o:Oper} {uses:Zu} {d:Nat} {q:Pd} {x y z:Operand}
def Zog (z:Nat):Pd:=⟨fun g v=>∃ r,v=.float .f64 r ∧ (r=z ∨ (fneq r r=true ∧ fneq z z=true)),[],fun _ _ h=>h⟩
theorem Zox {op : BinOp} {f : Nat → Nat → Option Nat} {t ty : TypeId} {m n : Nat} (hop : o.op = .binOp op t x y ty) (hd : o.dst = some d) (hx : Opd uses x (pFlt m)) (hy : Opd uses y (pFlt n))
   (h:∀ w,(binOp op t (.float .f64 m) (.float .f64 n)).run P w=(match f m n with | some r=>.ok (.float .f64 r) w | none=>((choose (.nanBits .f64 m n)).run P w).andThen fun r w'=>.ok (.float .f64 r) w')):OB P N o uses [(d,Zog ((f m n).getD 9221120237041090561))] [] :=
 Zez hd fun a g hh=>by
   have h1:=Zfg.1 (hx a g hh)
   have h2:=Zfg.1 (hy a g hh)
   have hg:(eqGuard op t x y (.float .f64 m) (.float .f64 n)).run P g.w=.ok () g.w:=by
     unfold eqGuard
     split <;> rfl
   cases hf:f m n with
   | some r =>
     refine ⟨.float .f64 r,g,?_,.refl _ _,r,rfl,.inl (by simp)⟩
     have:=h g.w
     rw [hf] at this
     simp [execOp,hop,h1,h2,hg,this]
   | none =>
     have:=h g.w
     rw [hf] at this
     have hc:(choose (.nanBits .f64 m n)).run P g.w=.ok ((Question.nanBits .f64 m n).cut (g.w.tape g.w.drawn (Question.nanBits .f64 m n))) g.w.drew:=by
       simp [Question.forced]
     refine ⟨.float .f64 ((Question.nanBits .f64 m n).cut (g.w.tape g.w.drawn (Question.nanBits .f64 m n))),g.drew,?_,Step.drew g,_,rfl,.inr ⟨Zt8 ?_,by decide +kernel⟩⟩
     · simp only [hc,Result.andThen_ok] at this
       simp [execOp,hop,h1,h2,hg,this];rfl
     · unfold isn rg INF TOP
       generalize g.w.tape g.w.drawn (Question.nanBits .f64 m n)=u
       simp only [Question.cut]
       have hv:=Nat.mod_lt (u / 2) (show 0 < 2 ^ 52 - 1 by decide)
       generalize u / 2 % (2 ^ 52 - 1)=v at hv
       rcases Nat.mod_two_eq_zero_or_one u with h | h <;> rw [h] <;> omega
theorem Ztq {t ty:TypeId} {m n:Nat} (hop:o.op=.binOp .add t x y ty) (hd:o.dst=some d) (hx:Opd uses x (pFlt m)) (hy:Opd uses y (pFlt n)):OB P N o uses [(d,Zog (fadd m n))] [] :=
 Zox hop hd hx hy fun w=>by
   cases h:Ieee.double.add m n <;> simp [binOp,Op.floatArith,FloatKind.format,h]
theorem Zuc {t ty:TypeId} {m n:Nat} (hop:o.op=.binOp .mul t x y ty) (hd:o.dst=some d) (hx:Opd uses x (pFlt m)) (hy:Opd uses y (pFlt n)):OB P N o uses [(d,Zog (fmul m n))] [] :=
 Zox hop hd hx hy fun w=>by
   cases h:Ieee.double.mul m n <;> simp [binOp,Op.floatArith,FloatKind.format,h]
theorem Zoo {β:Type} {f:FuncId} {F:Nat → Option β} {q:β → Pd} (hF:∀ r z,fneq r r=true → fneq z z=true → F r=F z) (hok:∀ z r,F z=some r → FnOk P f [pFlt z] (q r)) {z:Nat} {r:β} (h:F z=some r):FnOk P f [Zog z] (q r):=by
 intro g args hargs
 obtain ⟨r',hv,hr⟩:=hargs.2 0 _ _ rfl (List.getElem?_eq_getElem (by rw [hargs.1];exact Nat.zero_lt_one))
 have h':F r'=some r:=by
   rcases hr with rfl | ⟨h1,h2⟩
   · exact h
   · rw [hF r' z h1 h2];exact h
 refine hok r' r h' g args ⟨hargs.1,fun i qi u h1 h2=>?_⟩
 match i,h1 with
 | 0,h1 =>
   simp at h1;subst h1
   have hl:0 < args.length:=by rw [hargs.1];exact Nat.zero_lt_one
   rw [List.getElem?_eq_getElem hl] at h2
   have:=Option.some.inj h2
   exact Zfg.2 (by rw [← this];exact hv)
end
end Go.CL
namespace Go.CL
structure Zc where
 Score:Nat
 Name:ByteArray
 deriving Inhabited
structure Za where
 Kind:Int
 Num:Int
 Low:Int
 High:Int
 Real:Nat
 Cap:Int
 Text:ByteArray
 List:List Zc
 deriving Inhabited
structure Zbb where
 text:Bool
 num:Bool
 bounds:Bool
 real:Bool
 list:Bool
 deriving Inhabited
structure Zb0 where
 word:ByteArray
 on:Int
 has:ByteArray
 deriving Inhabited
structure Zm where
 Kind:Int
 Key:ByteArray
 N:Int
 X:Nat
 S:ByteArray
 Make:Za
 Must:Bool
 deriving Inhabited
structure Zd where
 Code:Int
 Num:Int
 Rec:Za
 deriving Inhabited
def g_0:List Zb0:=[{ word:=⟨#[]⟩,on:=(0),has:=⟨#[]⟩ },
 { word:=⟨#[110,101,119]⟩,on:=(0),has:=⟨#[109]⟩ },
 { word:=⟨#[100,114,111,112]⟩,on:=(0),has:=⟨#[]⟩ },
 { word:=⟨#[105,115]⟩,on:=(0),has:=⟨#[]⟩ },
 { word:=⟨#[108,111,111,107]⟩,on:=(0),has:=⟨#[]⟩ },
 { word:=⟨#[112,117,116]⟩,on:=(1),has:=⟨#[115]⟩ },
 { word:=⟨#[115,119,97,112]⟩,on:=(1),has:=⟨#[115]⟩ },
 { word:=⟨#[97,100,100]⟩,on:=(2),has:=⟨#[110]⟩ },
 { word:=⟨#[112,108,117,115]⟩,on:=(3),has:=⟨#[110]⟩ },
 { word:=⟨#[114,101,97,99,104]⟩,on:=(3),has:=⟨#[110]⟩ },
 { word:=⟨#[105,110]⟩,on:=(4),has:=⟨#[110]⟩ },
 { word:=⟨#[111,117,116]⟩,on:=(4),has:=⟨#[110]⟩ },
 { word:=⟨#[101,110,111,117,103,104]⟩,on:=(4),has:=⟨#[110]⟩ },
 { word:=⟨#[114,97,105,115,101]⟩,on:=(5),has:=⟨#[120]⟩ },
 { word:=⟨#[108,111,119,101,114]⟩,on:=(6),has:=⟨#[120]⟩ },
 { word:=⟨#[115,104,105,102,116]⟩,on:=(7),has:=⟨#[120]⟩ },
 { word:=⟨#[115,99,97,108,101]⟩,on:=(7),has:=⟨#[120]⟩ },
 { word:=⟨#[102,105,120]⟩,on:=(7),has:=⟨#[120]⟩ },
 { word:=⟨#[106,111,105,110]⟩,on:=(8),has:=⟨#[115]⟩ },
 { word:=⟨#[108,101,97,118,101]⟩,on:=(8),has:=⟨#[115]⟩ },
 { word:=⟨#[104,97,115]⟩,on:=(8),has:=⟨#[115]⟩ },
 { word:=⟨#[111,102,102,101,114]⟩,on:=(9),has:=⟨#[120,115]⟩ }]
def Z5 (a0:List Zc):Option (List Zc):=if a0.length * 24 ≤ 140737488355328 then some a0 else none
def Zc0 (a0:Za):Option (Za):=((Z5 a0.List).bind fun r1=>(some ({ a0 with List:=r1 })))
def Zka:Option (Nat):=(some (Int.toNat (9221120237041090561:Int)))
def Zc2 (a0:Nat):Option (Nat):=(if (fneq a0 a0) then ((Zka).bind fun r2=>(some r2)) else (some a0))
def Zfy (a0:Nat):Option (Bool):=((Zc2 a0).bind fun r1=>(some ((a0:Int) == (r1:Int))))
def Zf1 (j11:Bool):Option (Zbb):=(if j11 then (some ({ text:=false,num:=false,bounds:=false,real:=false,list:=true }:Zbb)) else (some ({ text:=false,num:=false,bounds:=false,real:=false,list:=false }:Zbb)))
def Zew (a0:Int) (j8:Bool):Option (Zbb):=(if j8 then (some ({ text:=false,num:=false,bounds:=false,real:=true,list:=false }:Zbb)) else (if (a0 == (8:Int)) then (Zf1 (a0 == (8:Int))) else (Zf1 (a0 == (9:Int)))))
def Zf0 (a0:Int) (j3:Bool):Option (Zbb):=(if j3 then (some ({ text:=false,num:=true,bounds:=false,real:=false,list:=false }:Zbb)) else (if (a0 == (4:Int)) then (some ({ text:=false,num:=true,bounds:=true,real:=false,list:=false }:Zbb)) else (if (a0 == (5:Int)) then (Zew a0 (a0 == (5:Int))) else (if (a0 == (6:Int)) then (Zew a0 (a0 == (6:Int))) else (Zew a0 (a0 == (7:Int)))))))
def Zcc (a0:Int):Option (Zbb):=(if (a0 == (1:Int)) then (some ({ text:=true,num:=false,bounds:=false,real:=false,list:=false }:Zbb)) else (if (a0 == (2:Int)) then (Zf0 a0 (a0 == (2:Int))) else (Zf0 a0 (a0 == (3:Int)))))
def Zhb (a0:Nat):Option (Int):=((Zc2 a0).bind fun r1=>(if ((bAnd .u64 (r1:Int) (9223372036854775808:Int)) != (0:Int)) then (some (bXor .u64 IntKind.u64.max (r1:Int))) else (some (bOr .u64 (r1:Int) (9223372036854775808:Int)))))
def Zfd (a0:Nat) (a1:Nat):Option (Bool):=((Zhb a0).bind fun r1=>((Zhb a1).bind fun r3=>(some (r1 == r3))))
def Ziz (a0:Za) (a1:Zbb):Option (Bool):=((gd ((((a1.text || (sEq a0.Text (⟨#[]⟩:ByteArray))) && (a1.num || (a0.Num == (0:Int)))) && (a1.bounds || ((a0.Low == (0:Int)) && (a0.High == (0:Int))))) && (!a1.real)) (Zfd a0.Real (0:Nat))).bind fun r1=>(some (((((a1.text || (sEq a0.Text (⟨#[]⟩:ByteArray))) && (a1.num || (a0.Num == (0:Int)))) && (a1.bounds || ((a0.Low == (0:Int)) && (a0.High == (0:Int))))) && (a1.real || r1)) && (a1.list || ((a0.Cap == (0:Int)) && ((a0.List.length:Int) == (0:Int)))))))
def Zg4 (a0:Nat) (a1:Nat):Option (Bool):=((Zhb a0).bind fun r1=>((Zhb a1).bind fun r3=>(some (decide (r1 < r3)))))
def Zfv (a0:Zc) (a1:Zc):Option (Bool):=((Zfd a0.Score a1.Score).bind fun r1=>(if (!r1) then ((Zg4 a1.Score a0.Score).bind fun r4=>(some r4)) else (some (sLt a0.Name a1.Name))))
def Zc4 (a0:Int) (a1:List Zc):Nat → (Int) → Option ((Int) ⊕ (Unit))
 | 0,_=>none
 | n + 1,x1=>(if (decide (x1 < (a1.length:Int))) then ((idx a1 x1).bind fun e3=>(if (decide ((16:Int) < (e3.Name.size:Int))) then (some (.inl (3:Int))) else ((gd (a0 == (8:Int)) (Zfd e3.Score (0:Nat))).bind fun r6=>((gd (!((a0 == (8:Int)) && (!r6))) (Zfy e3.Score)).bind fun r8=>(if (((a0 == (8:Int)) && (!r6)) || (!r8)) then (some (.inl (4:Int))) else ((gd ((decide ((0:Int) < x1)) && (a0 == (8:Int))) (idx a1 (IntKind.i64.wrap (x1 - (1:Int))))).bind fun e11=>(if (((decide ((0:Int) < x1)) && (a0 == (8:Int))) && (!sLt e11.Name e3.Name)) then (some (.inl (4:Int))) else ((gd ((decide ((0:Int) < x1)) && (a0 == (9:Int))) (idx a1 (IntKind.i64.wrap (x1 - (1:Int))))).bind fun e14=>((gd ((decide ((0:Int) < x1)) && (a0 == (9:Int))) (Zfv e14 e3)).bind fun r16=>(if (((decide ((0:Int) < x1)) && (a0 == (9:Int))) && (!r16)) then (some (.inl (4:Int))) else ((Zc4 a0 a1 n) (IntKind.i64.wrap (x1 + (1:Int)))))))))))))) else (some (.inr ())))
def Zif (a0:Int) (a1:List Zc):Option (Int):=((Zc4 a0 a1 (Int.toNat ((a1.length:Int) - (0:Int)) + 1) (0:Int)).bind fun z19=>match z19 with | .inl r=>some r | .inr ()=>(some (0:Int)))
def Zcs (a0:Za):Option (Int):=((Zcc a0.Kind).bind fun r1=>(if ((decide (a0.Kind ≤ (0:Int))) || (decide ((10:Int) ≤ a0.Kind))) then (some (5:Int)) else ((Ziz a0 r1).bind fun r4=>(if (!r4) then (some (4:Int)) else (if (decide ((64:Int) < (a0.Text.size:Int))) then (some (3:Int)) else (if (r1.bounds && ((((decide (a0.Low < (-2305843009213693952:Int))) || (decide ((2305843009213693952:Int) < a0.High))) || (decide (a0.Num < a0.Low))) || (decide (a0.High < a0.Num)))) then (some (1:Int)) else ((Zfy a0.Real).bind fun r9=>(if (!r9) then (some (4:Int)) else (if (!r1.list) then (some (0:Int)) else (if ((decide (a0.Cap < (1:Int))) || (decide ((32:Int) < a0.Cap))) then (some (1:Int)) else (if (decide (a0.Cap < (a0.List.length:Int))) then (some (8:Int)) else ((Zif a0.Kind a0.List).bind fun r15=>(some r15)))))))))))))
def Zi7 (a0:Int):Option (Zb0):=(if ((decide (a0 ≤ (0:Int))) || (decide ((22:Int) ≤ a0))) then (some ({ word:=ByteArray.empty,on:=(0:Int),has:=ByteArray.empty }:Zb0)) else ((idx g_0 a0).bind fun e2=>(some e2)))
def Zw (a0:List Zc) (a1:List Zc) (φ2:Zc → Zc → Option Bool):Nat → (Int) → Option ((Bool) ⊕ (Unit))
 | 0,_=>none
 | n + 1,x2=>(if (decide (x2 < (a0.length:Int))) then ((idx a0 x2).bind fun e4=>((idx a1 x2).bind fun e6=>((φ2 e4 e6).bind fun r8=>(if (!r8) then (some (.inl false)) else ((Zw a0 a1 φ2 n) (IntKind.i64.wrap (x2 + (1:Int)))))))) else (some (.inr ())))
def Zbd (a0:List Zc) (a1:List Zc) (φ2:Zc → Zc → Option Bool):Option (Bool):=(if ((a0.length:Int) != (a1.length:Int)) then (some false) else ((Zw a0 a1 φ2 (Int.toNat ((a0.length:Int) - (0:Int)) + 1) (0:Int)).bind fun z11=>match z11 with | .inl r=>some r | .inr ()=>(some true)))
def Ze3 (a0:Zc) (a1:Zc):Option (Bool):=((gd (sEq a0.Name a1.Name) (Zfd a0.Score a1.Score)).bind fun r1=>(some ((sEq a0.Name a1.Name) && r1)))
def Zhw (a0:Za) (a1:Za):Option (Bool):=((gd ((((a0.Kind == a1.Kind) && (a0.Num == a1.Num)) && (a0.Low == a1.Low)) && (a0.High == a1.High)) (Zfd a0.Real a1.Real)).bind fun r1=>((gd (((((((a0.Kind == a1.Kind) && (a0.Num == a1.Num)) && (a0.Low == a1.Low)) && (a0.High == a1.High)) && r1) && (a0.Cap == a1.Cap)) && (sEq a0.Text a1.Text)) (Zbd a0.List a1.List (fun y0 y1=>Ze3 y0 y1))).bind fun r3=>(some ((((((((a0.Kind == a1.Kind) && (a0.Num == a1.Num)) && (a0.Low == a1.Low)) && (a0.High == a1.High)) && r1) && (a0.Cap == a1.Cap)) && (sEq a0.Text a1.Text)) && r3))))
def Zeh (a0:Zb0) (a1:Int):Nat → (Int) → Option ((Bool) ⊕ (Unit))
 | 0,_=>none
 | n + 1,x1=>(if (decide (x1 < (a0.has.size:Int))) then ((sidx a0.has x1).bind fun b3=>(if (b3 == a1) then (some (.inl true)) else ((Zeh a0 a1 n) (IntKind.i64.wrap (x1 + (1:Int)))))) else (some (.inr ())))
def Zb2 (a0:Zb0) (a1:Int):Option (Bool):=((Zeh a0 a1 (Int.toNat ((a0.has.size:Int) - (0:Int)) + 1) (0:Int)).bind fun z6=>match z6 with | .inl r=>some r | .inr ()=>(some false))
def Zj4 (a0:Zm) (a1:Zb0):Option (Bool):=((Zb2 a1 (110:Int)).bind fun r1=>((gd (r1 || (a0.N == (0:Int))) (Zb2 a1 (120:Int))).bind fun r3=>((gd ((r1 || (a0.N == (0:Int))) && (!r3)) (Zfd a0.X (0:Nat))).bind fun r5=>((gd ((r1 || (a0.N == (0:Int))) && (r3 || r5)) (Zb2 a1 (115:Int))).bind fun r7=>((gd (((r1 || (a0.N == (0:Int))) && (r3 || r5)) && (r7 || (sEq a0.S (⟨#[]⟩:ByteArray)))) (Zb2 a1 (109:Int))).bind fun r9=>((gd ((((r1 || (a0.N == (0:Int))) && (r3 || r5)) && (r7 || (sEq a0.S (⟨#[]⟩:ByteArray)))) && (!r9)) (Zhw a0.Make ({ Kind:=(0:Int),Num:=(0:Int),Low:=(0:Int),High:=(0:Int),Real:=(0:Nat),Cap:=(0:Int),Text:=ByteArray.empty,List:=([]:List Zc) }:Za))).bind fun r11=>(some ((((r1 || (a0.N == (0:Int))) && (r3 || r5)) && (r7 || (sEq a0.S (⟨#[]⟩:ByteArray)))) && (r9 || r11)))))))))
def Zjy (a0:Zb0):Option (Int):=(if (a0.on == (1:Int)) then (some (64:Int)) else (some (16:Int)))
def Ze8 (a0:Zm):Option (Int):=((Zi7 a0.Kind).bind fun r1=>(if (sEq r1.word (⟨#[]⟩:ByteArray)) then (some (5:Int)) else (if ((sEq a0.Key (⟨#[]⟩:ByteArray)) || (decide ((24:Int) < (a0.Key.size:Int)))) then (some (1:Int)) else ((Zj4 a0 r1).bind fun r5=>(if (!r5) then (some (4:Int)) else ((Zjy r1).bind fun r8=>(if (decide (r8 < (a0.S.size:Int))) then (some (3:Int)) else (if (((a0.Kind == (10:Int)) || (a0.Kind == (11:Int))) && ((decide (a0.N < (0:Int))) || (decide ((2305843009213693952:Int) < a0.N)))) then (some (1:Int)) else ((Zfy a0.X).bind fun r12=>(if (!r12) then (some (4:Int)) else (if (a0.Kind == (1:Int)) then ((Zcs a0.Make).bind fun r16=>(some r16)) else (some (0:Int)))))))))))))
def Zjp (a0:Int):Option (Int):=((Zi7 a0).bind fun r1=>(some r1.on))
def Zgm (a0:Za) (a1:Zm) (a2:Zd):Option (Int × Za × Zd):=(some ((0:Int),({ a0 with Text:=a1.S }),a2))
def Zeq (a0:Za) (a1:Zm) (a2:Zd):Option (Int × Za × Zd):=((Zc0 a0).bind fun r1=>(some ((0:Int),({ a0 with Text:=a1.S }),({ a2 with Rec:=r1 }))))
def Zgr (a0:Za) (a1:Zm) (a2:Zd):Option (Int × Za × Zd):=(some ((0:Int),({ a0 with Num:=(IntKind.i64.wrap (a0.Num + a1.N)) }),a2))
def Zhg (a0:Za) (a1:Zm) (a2:Zd):Option (Int × Za × Zd):=(if (((decide ((0:Int) < a1.N)) && (decide ((IntKind.i64.wrap ((9223372036854775807:Int) - a1.N)) < a0.Num))) || ((decide (a1.N < (0:Int))) && (decide (a0.Num < (IntKind.i64.wrap ((-9223372036854775808:Int) - a1.N)))))) then (some ((9:Int),a0,a2)) else (some ((0:Int),({ a0 with Num:=(IntKind.i64.wrap (a0.Num + a1.N)) }),a2)))
def Zd2 (a0:Za) (a1:Zm) (a2:Zd):Option (Int × Za × Zd):=(if (decide (a0.Num < a1.N)) then (some ((11:Int),a0,a2)) else (some ((0:Int),a0,a2)))
def Zeo (a0:Za) (a1:Zm) (a2:Zd):Option (Int × Za × Zd):=(if (decide ((IntKind.i64.wrap (a0.High - a0.Num)) < a1.N)) then (some ((9:Int),a0,a2)) else (some ((0:Int),({ a0 with Num:=(IntKind.i64.wrap (a0.Num + a1.N)) }),a2)))
def Zem (a0:Za) (a1:Zm) (a2:Zd):Option (Int × Za × Zd):=(if (decide ((IntKind.i64.wrap (a0.Num - a0.Low)) < a1.N)) then (some ((10:Int),a0,a2)) else (some ((0:Int),({ a0 with Num:=(IntKind.i64.wrap (a0.Num - a1.N)) }),a2)))
def Zcg (ψ:Nat → Nat → Option Nat) (a0:Za) (a1:Zm) (a2:Zd):Option (Int × Za × Zd):=(ψ a0.Real a1.X).bind fun z=>some ((0:Int),{ a0 with Real:=z },a2)
def Zg9 (a0:Nat) (a1:Nat):Option (Nat):=((Zg4 a0 a1).bind fun r1=>(if r1 then ((Zc2 a1).bind fun r4=>(some r4)) else ((Zc2 a0).bind fun r6=>(some r6))))
def Zhd (a0:Nat) (a1:Nat):Option (Nat):=((Zg4 a1 a0).bind fun r1=>(if r1 then ((Zc2 a1).bind fun r4=>(some r4)) else ((Zc2 a0).bind fun r6=>(some r6))))
def Zge (a0:Nat) (a1:Nat):Option (Nat):=((Zc2 (fadd a0 a1)).bind fun r1=>(some r1))
def Zfq (a0:Nat) (a1:Nat):Option (Nat):=((Zc2 (fmul a0 a1)).bind fun r1=>(some r1))
def Zep (a0:Nat) (a1:Nat):Option (Nat):=(some a1)
def Zbf (kk:(Int) → (Int) → Option (Int)) (j9:Int) (j10:Int):Option (Int):=(kk j9 j10)
def Zv (a0:List Zc) (a1:ByteArray) (φ2:Zc → ByteArray → Option Int):Nat → (Int) → (Int) → Option (Int)
 | 0,_,_=>none
 | n + 1,x1,x2=>(if (decide (x1 < x2)) then ((idx a0 (IntKind.i64.wrap (Int.fdiv (IntKind.u64.wrap (IntKind.i64.wrap (x1 + x2))) (2 ^ 1)))).bind fun e4=>((φ2 e4 a1).bind fun r6=>(if (decide (r6 < (0:Int))) then (Zbf (Zv a0 a1 φ2 n) (IntKind.i64.wrap ((IntKind.i64.wrap (Int.fdiv (IntKind.u64.wrap (IntKind.i64.wrap (x1 + x2))) (2 ^ 1))) + (1:Int))) x2) else (Zbf (Zv a0 a1 φ2 n) x1 (IntKind.i64.wrap (Int.fdiv (IntKind.u64.wrap (IntKind.i64.wrap (x1 + x2))) (2 ^ 1))))))) else (some x1))
def Zbo (a0:List Zc) (a1:ByteArray) (φ2:Zc → ByteArray → Option Int):Option (Int × Bool):=((Zv a0 a1 φ2 (Int.toNat ((a0.length:Int) - (0:Int)) + 1) (0:Int) (a0.length:Int)).bind fun z12=>match z12 with | y11=>((gd (decide (y11 < (a0.length:Int))) (idx a0 y11)).bind fun e13=>((gd (decide (y11 < (a0.length:Int))) (φ2 e13 a1)).bind fun r15=>(some (y11,((decide (y11 < (a0.length:Int))) && (r15 == (0:Int))))))))
def Zff (a0:Zc) (a1:ByteArray):Option (Int):=(if (sLt a0.Name a1) then (some (-1:Int)) else (if (!(sLt a0.Name a1 || sEq a0.Name a1)) then (some (1:Int)) else (some (0:Int))))
def Zgj (a0:List Zc) (a1:ByteArray):Option (Int × Bool):=((Zbo a0 a1 (fun y0 y1=>Zff y0 y1)).bind fun r1=>(some (r1.1,r1.2)))
def Zbe (a0:List Zc) (a1:Int) (a2:List Zc):Option (List Zc):=if 0 ≤ a1 ∧ a1 ≤ a0.length ∧ 0 < a2.length ∧ (a0.length + a2.length) * 24 ≤ 140737488355328 then some (a0.take a1.toNat ++ a2 ++ a0.drop a1.toNat) else none
def Zgh (a0:Za) (a1:Zm) (a2:Zd):Option (Int × Za × Zd):=((Zgj a0.List a1.S).bind fun r1=>(if r1.2 then (some ((0:Int),a0,a2)) else (if (decide (a0.Cap ≤ (a0.List.length:Int))) then (some ((8:Int),a0,a2)) else ((Z5 a0.List).bind fun r5=>((Zbe r5 r1.1 ([({ Score:=(0:Nat),Name:=a1.S }:Zc)]:List Zc)).bind fun r7=>(some ((0:Int),({ a0 with List:=r7 }),a2)))))))
def Zbz (a0:List Zc) (a1 a2:Int):Option (List Zc):=if 0 < a0.length ∧ 0 ≤ a1 ∧ a1 ≤ a2 ∧ a2 ≤ a0.length ∧ a0.length ≤ 140737488355328 then some (a0.take a1.toNat ++ a0.drop a2.toNat) else none
def Zec (a2:Zd) (j8:Za):Option (Int × Za × Zd):=(some ((0:Int),j8,a2))
def Zds (a0:Za) (a1:Zm) (a2:Zd):Option (Int × Za × Zd):=((Zgj a0.List a1.S).bind fun r1=>(if r1.2 then ((Z5 a0.List).bind fun r4=>((Zbz r4 r1.1 (IntKind.i64.wrap (r1.1 + (1:Int)))).bind fun r6=>(Zec a2 ({ a0 with List:=r6 })))) else (Zec a2 a0)))
def Zen (a0:Za) (a1:Zm) (a2:Zd):Option (Int × Za × Zd):=((Zgj a0.List a1.S).bind fun r1=>(if (!r1.2) then (some ((11:Int),a0,a2)) else (some ((0:Int),a0,a2))))
def Zc7 (a0:Za) (a1:Zm):Nat → (Int) → Option (Int)
 | 0,_=>none
 | n + 1,x1=>((gd (decide (x1 < (a0.List.length:Int))) (idx a0.List x1)).bind fun e2=>((gd (decide (x1 < (a0.List.length:Int))) (Zfv e2 ({ Score:=a1.X,Name:=a1.S }:Zc))).bind fun r4=>(if ((decide (x1 < (a0.List.length:Int))) && r4) then ((Zc7 a0 a1 n) (IntKind.i64.wrap (x1 + (1:Int)))) else (some x1))))
def Zfz (a0:Za) (a1:Zm) (a2:Zd):Option (Int × Za × Zd):=((Zc7 a0 a1 (Int.toNat ((a0.List.length:Int) - (0:Int)) + 1) (0:Int)).bind fun z8=>match z8 with | y7=>((gd (decide (y7 < (a0.List.length:Int))) (idx a0.List y7)).bind fun e9=>((gd (decide (y7 < (a0.List.length:Int))) (Zfv ({ Score:=a1.X,Name:=a1.S }:Zc) e9)).bind fun r11=>(if ((decide (y7 < (a0.List.length:Int))) && (!r11)) then (some ((0:Int),a0,a2)) else ((Z5 a0.List).bind fun r14=>((Zbe r14 y7 ([({ Score:=a1.X,Name:=a1.S }:Zc)]:List Zc)).bind fun r16=>((cut r16 (0:Int) (min (r16.length:Int) a0.Cap)).bind fun c18=>(some ((0:Int),({ a0 with List:=c18 }),a2)))))))))
def Z7 (k:Int) (a0:Za) (a1:Zm) (a2:Zd):Option (Int × Za × Zd):=if k=5 then Zgm a0 a1 a2 else if k=6 then Zeq a0 a1 a2 else if k=7 then Zgr a0 a1 a2 else if k=8 then Zhg a0 a1 a2 else if k=9 then Zd2 a0 a1 a2 else if k=10 then Zeo a0 a1 a2 else if k=11 then Zem a0 a1 a2 else if k=12 then Zd2 a0 a1 a2 else if k=13 then Zcg (fun x y=>Zg9 x y) a0 a1 a2 else if k=14 then Zcg (fun x y=>Zhd x y) a0 a1 a2 else if k=15 then Zcg (fun x y=>Zge x y) a0 a1 a2 else if k=16 then Zcg (fun x y=>Zfq x y) a0 a1 a2 else if k=17 then Zcg (fun x y=>Zep x y) a0 a1 a2 else if k=18 then Zgh a0 a1 a2 else if k=19 then Zds a0 a1 a2 else if k=20 then Zen a0 a1 a2 else if k=21 then Zfz a0 a1 a2 else none
def Zd1 (a0:Int) (a1:Za) (a2:Bool):Option (Za × Bool × Zd × Za):=(some (a1,a2,({ Code:=a0,Num:=(0:Int),Rec:=(default:Za) }:Zd),a1))
def Zeu (a1:Bool) (a2:Zm) (r3:Za):Option (Za × Bool × Zd):=(if ((a2.Kind == (1:Int)) && a1) then ((Zd1 (7:Int) r3 a1).bind fun r17=>(some (r17.1,r17.2.1,r17.2.2.1))) else (if (a2.Kind == (1:Int)) then ((Zc0 a2.Make).bind fun r20=>(some (r20,true,({ Code:=(0:Int),Num:=(0:Int),Rec:=(default:Za) }:Zd)))) else (if (a2.Kind == (3:Int)) then (some (r3,a1,({ Code:=(0:Int),Num:=r3.Kind,Rec:=(default:Za) }:Zd))) else (if (!a1) then ((Zd1 (6:Int) r3 a1).bind fun r24=>(some (r24.1,r24.2.1,r24.2.2.1))) else (if (a2.Kind == (2:Int)) then (some (({ Kind:=(0:Int),Num:=(0:Int),Low:=(0:Int),High:=(0:Int),Real:=(0:Nat),Cap:=(0:Int),Text:=ByteArray.empty,List:=([]:List Zc) }:Za),false,({ Code:=(0:Int),Num:=(0:Int),Rec:=(default:Za) }:Zd))) else (if (a2.Kind == (4:Int)) then ((Zc0 r3).bind fun r28=>(some (r3,a1,({ Code:=(0:Int),Num:=(0:Int),Rec:=r28 }:Zd)))) else ((Zjp a2.Kind).bind fun r30=>(if (r30 != r3.Kind) then ((Zd1 (5:Int) r3 a1).bind fun r33=>(some (r33.1,r33.2.1,r33.2.2.1))) else ((Zc0 r3).bind fun r35=>(if (5 ≤ a2.Kind ∧ a2.Kind ≤ 21) then ((Z7 a2.Kind r3 a2 (default:Zd)).bind fun r38=>(if (r38.1 != (0:Int)) then (some (r35,a1,({ Code:=r38.1,Num:=(0:Int),Rec:=(default:Za) }:Zd))) else (some (r38.2.1,a1,r38.2.2)))) else none))))))))))
def Zev (a1:Bool) (a2:Zm) (j2:Za):Option (Za × Bool × Zd):=((Zc0 j2).bind fun r3=>((Ze8 a2).bind fun r5=>(if (r5 != (0:Int)) then ((Zd1 r5 r3 a1).bind fun r8=>(some (r8.1,r8.2.1,r8.2.2.1))) else (if a1 then ((Zcs r3).bind fun r11=>(if (r11 != (0:Int)) then ((Zd1 r11 r3 a1).bind fun r14=>(some (r14.1,r14.2.1,r14.2.2.1))) else (Zeu a1 a2 r3))) else (Zeu a1 a2 r3)))))
def Ze6 (a0:Za) (a1:Bool) (a2:Zm):Option (Za × Bool × Zd):=(if (!a1) then (Zev a1 a2 ({ Kind:=(0:Int),Num:=(0:Int),Low:=(0:Int),High:=(0:Int),Real:=(0:Nat),Cap:=(0:Int),Text:=ByteArray.empty,List:=([]:List Zc) }:Za)) else (Zev a1 a2 a0))
def Zgv (a2:List Zm):Nat → (Bool) → (Za) → (List Zd) → (Int) → Option (Bool × Za × (List Zd))
 | 0,_,_,_,_=>none
 | n + 1,x5,x6,x7,x8=>(if (decide (x8 < (a2.length:Int))) then ((idx a2 x8).bind fun e10=>((Ze6 x6 x5 e10).bind fun r12=>(if (x7.length + ([r12.2.2]:List Zd).length) * 104 ≤ 140737488355328 then ((Zgv a2 n) r12.2.1 r12.1 (x7 ++ ([r12.2.2]:List Zd)) (IntKind.i64.wrap (x8 + (1:Int)))) else none))) else (some (x5,x6,x7)))
def Zh4 (a1:Bool) (a2:List Zm) (j2:Za):Option (Za × Bool × (List Zd)):=((Zc0 j2).bind fun r3=>((Zgv a2 (Int.toNat ((a2.length:Int) - (0:Int)) + 1) a1 r3 ([]:List Zd) (0:Int)).bind fun z18=>match z18 with | (y15,y16,y17)=>(some (y16,y15,y17))))
def Zl1 (a0:Za) (a1:Bool) (a2:List Zm):Option (Za × Bool × (List Zd)):=(if (!a1) then (Zh4 a1 a2 ({ Kind:=(0:Int),Num:=(0:Int),Low:=(0:Int),High:=(0:Int),Real:=(0:Nat),Cap:=(0:Int),Text:=ByteArray.empty,List:=([]:List Zc) }:Za)) else (Zh4 a1 a2 a0))
def Zkr (a0:Zd) (a1:Zd):Option (Bool):=((gd ((a0.Code == a1.Code) && (a0.Num == a1.Num)) (Zhw a0.Rec a1.Rec)).bind fun r1=>(some (((a0.Code == a1.Code) && (a0.Num == a1.Num)) && r1)))
def Ze9:Option (Bool):=((Ze6 ({ Kind:=(4:Int),Num:=(2:Int),Low:=(0:Int),High:=(9:Int),Real:=(0:Nat),Cap:=(0:Int),Text:=ByteArray.empty,List:=([]:List Zc) }:Za) true ({ Kind:=(11:Int),Key:=(⟨#[97]⟩:ByteArray),N:=(3:Int),X:=(0:Nat),S:=ByteArray.empty,Make:=(default:Za),Must:=false }:Zm)).bind fun r1=>(if (((r1.1.Num != (2:Int)) || (!r1.2.1)) || (r1.2.2.Code != (10:Int))) then (some false) else ((Zl1 ({ Kind:=(0:Int),Num:=(0:Int),Low:=(0:Int),High:=(0:Int),Real:=(0:Nat),Cap:=(0:Int),Text:=ByteArray.empty,List:=([]:List Zc) }:Za) false ([({ Kind:=(1:Int),Key:=(⟨#[97]⟩:ByteArray),N:=(0:Int),X:=(0:Nat),S:=ByteArray.empty,Make:=({ Kind:=(2:Int),Num:=(5:Int),Low:=(0:Int),High:=(0:Int),Real:=(0:Nat),Cap:=(0:Int),Text:=ByteArray.empty,List:=([]:List Zc) }:Za),Must:=false }:Zm),({ Kind:=(7:Int),Key:=(⟨#[97]⟩:ByteArray),N:=(2:Int),X:=(0:Nat),S:=ByteArray.empty,Make:=(default:Za),Must:=false }:Zm)]:List Zm)).bind fun r4=>((gd (((r4.1.Num == (7:Int)) && r4.2.1) && ((r4.2.2.length:Int) == (2:Int))) (idx r4.2.2 (0:Int))).bind fun e6=>((gd (((r4.1.Num == (7:Int)) && r4.2.1) && ((r4.2.2.length:Int) == (2:Int))) (Zkr e6 ({ Code:=(0:Int),Num:=(0:Int),Rec:=(default:Za) }:Zd))).bind fun r8=>((gd ((((r4.1.Num == (7:Int)) && r4.2.1) && ((r4.2.2.length:Int) == (2:Int))) && r8) (idx r4.2.2 (1:Int))).bind fun e10=>(some (((((r4.1.Num == (7:Int)) && r4.2.1) && ((r4.2.2.length:Int) == (2:Int))) && r8) && (e10.Code == (0:Int))))))))))
def Zbm (a0:Za):Nat → (Int) → Option ((Int) ⊕ (Unit))
 | 0,_=>none
 | n + 1,x2=>(if (decide (x2 < (a0.List.length:Int))) then ((idx a0.List x2).bind fun e4=>(if (decide ((100:Int) < (e4.Name.size:Int))) then (some (.inl (1:Int))) else ((Zbm a0 n) (IntKind.i64.wrap (x2 + (1:Int)))))) else (some (.inr ())))
def Zdg (a0:Za):Option (Int):=(if ((decide ((100:Int) < (a0.List.length:Int))) || (decide ((1000:Int) < (a0.Text.size:Int)))) then (some (1:Int)) else ((Zbm a0 (Int.toNat ((a0.List.length:Int) - (0:Int)) + 1) (0:Int)).bind fun z7=>match z7 with | .inl r=>some r | .inr ()=>(some (0:Int))))
def Ze2 (a0:Zm):Option (Int):=((gd (!((decide ((200:Int) < (a0.Key.size:Int))) || (decide ((1000:Int) < (a0.S.size:Int))))) (Zdg a0.Make)).bind fun r1=>(if (((decide ((200:Int) < (a0.Key.size:Int))) || (decide ((1000:Int) < (a0.S.size:Int)))) || (decide ((0:Int) < r1))) then (some (1:Int)) else (some (0:Int))))
def Zb8 (a1:List Zm):Nat → (Int) → Option ((Bool) ⊕ (Unit))
 | 0,_=>none
 | n + 1,x4=>(if (decide (x4 < (a1.length:Int))) then ((idx a1 x4).bind fun e6=>((Ze2 e6).bind fun r8=>(if (decide ((0:Int) < r8)) then (some (.inl true)) else ((Zb8 a1 n) (IntKind.i64.wrap (x4 + (1:Int))))))) else (some (.inr ())))
def Zc1 (a0:Za) (a1:List Zm):Option (Bool):=((Zdg a0).bind fun r1=>(if ((decide ((0:Int) < r1)) || (decide ((30:Int) < (a1.length:Int)))) then (some true) else ((Zb8 a1 (Int.toNat ((a1.length:Int) - (0:Int)) + 1) (0:Int)).bind fun z11=>match z11 with | .inl r=>some r | .inr ()=>(some false))))
def Zcq (a0:Nat):Option (Bool):=(some (fneq a0 a0))
def Zdl (a0:Nat):Option (Bool):=(if (feql a0 (0:Nat)) then ((Ieee.double.div (4607182418800017408:Nat) a0).bind fun f2=>(some (flss f2 (0:Nat)))) else (some (flss a0 (0:Nat))))
def Zci (a0:Nat) (a1:Nat):Option (Bool):=((Zcq a0).bind fun r1=>(if r1 then (some false) else ((Zcq a1).bind fun r4=>(if r4 then (some true) else (if ((feql a0 (0:Nat)) && (feql a1 (0:Nat))) then ((Zdl a0).bind fun r8=>((gd r8 (Zdl a1)).bind fun r10=>(some (r8 && (!r10))))) else (some (flss a0 a1)))))))
def Zb4 (a0:Nat) (a1:Nat):Option (Bool):=((Zci a0 a1).bind fun r1=>((gd (!r1) (Zci a1 a0)).bind fun r3=>(some ((!r1) && (!r3)))))
def Zca (a0:Za) (a1:Za):Nat → (Int) → Option ((Bool) ⊕ (Unit))
 | 0,_=>none
 | n + 1,x5=>(if (decide (x5 < (a0.List.length:Int))) then ((idx a0.List x5).bind fun e7=>((idx a1.List x5).bind fun e9=>((gd (!(!sEq e7.Name e9.Name)) (idx a0.List x5)).bind fun e11=>((gd (!(!sEq e7.Name e9.Name)) (idx a1.List x5)).bind fun e13=>((gd (!(!sEq e7.Name e9.Name)) (Zb4 e11.Score e13.Score)).bind fun r15=>(if ((!sEq e7.Name e9.Name) || (!r15)) then (some (.inl false)) else ((Zca a0 a1 n) (IntKind.i64.wrap (x5 + (1:Int)))))))))) else (some (.inr ())))
def Zc8 (a0:Za) (a1:Za):Option (Bool):=(if ((((((a0.Kind != a1.Kind) || (a0.Num != a1.Num)) || (a0.Low != a1.Low)) || (a0.High != a1.High)) || (a0.Cap != a1.Cap)) || (!sEq a0.Text a1.Text)) then (some false) else ((Zb4 a0.Real a1.Real).bind fun r2=>(if ((!r2) || ((a0.List.length:Int) != (a1.List.length:Int))) then (some false) else ((Zca a0 a1 (Int.toNat ((a0.List.length:Int) - (0:Int)) + 1) (0:Int)).bind fun z18=>match z18 with | .inl r=>some r | .inr ()=>(some true)))))
def Ziv (l:List Zc):Bool:=decide (l.length ≤ 1099511627776) && l.all fun x=>decide (x.Name.size ≤ 1099511627776)
def Zes (a0:Za) (a1:Zm):Option Bool:=(Ze9).bind fun s=>if (!s)=true then some false else (Zc1 a0 [a1]).bind fun b=>if b=true then some true else (Zc0 a0).bind fun o=>(Zc0 a1.Make).bind fun m=>(Ze6 a0 true a1).bind fun x=>if (Ziv x.1.List && Ziv x.2.2.Rec.List)=true then (Zc8 o a0).bind fun c=>(gd c (Zc8 m a1.Make)).bind fun e=>some (c && e) else none
def Zje (x:Zc):Prop:=(x.Score < 2 ^ 64) ∧ (x.Name.size ≤ maxLen)
def Zex (x:Za):Prop:=((IntKind.i64).min ≤ x.Kind ∧ x.Kind ≤ (IntKind.i64).max) ∧ ((IntKind.i64).min ≤ x.Num ∧ x.Num ≤ (IntKind.i64).max) ∧ ((IntKind.i64).min ≤ x.Low ∧ x.Low ≤ (IntKind.i64).max) ∧ ((IntKind.i64).min ≤ x.High ∧ x.High ≤ (IntKind.i64).max) ∧ (x.Real < 2 ^ 64) ∧ ((IntKind.i64).min ≤ x.Cap ∧ x.Cap ≤ (IntKind.i64).max) ∧ (x.Text.size ≤ maxLen) ∧ (x.List.length ≤ maxLen ∧ ∀ e0 ∈ x.List,(Zje e0))
def Zgo (x:Zm):Prop:=((IntKind.i64).min ≤ x.Kind ∧ x.Kind ≤ (IntKind.i64).max) ∧ (x.Key.size ≤ maxLen) ∧ ((IntKind.i64).min ≤ x.N ∧ x.N ≤ (IntKind.i64).max) ∧ (x.X < 2 ^ 64) ∧ (x.S.size ≤ maxLen) ∧ (Zex x.Make) ∧ True
section
variable {P:Program} {N:Nat} {o:Oper} {uses outs:Zu} {S:List Nat} {d:Nat} {q:Pd} {x y z:Operand}
structure Hp (σ:Type) where
 p:G → σ → Prop
 fp:List Nat
 st:∀ {S:List Nat} {g g':G} {s:σ},Step S g g' → (∀ j ∈ fp,j ∉ S) → p g s → p g' s
variable {c:Option Nat} {α β γ δ ε σ:Type} {kV:Kd γ} {raw:α → σ → γ} {R R' R2:Hp σ} {dk:Kd β} {di:Kd δ} {dj:Kd ε} {t e j:Nat} {xv:α}
end
end Go.CL
namespace Go.CL
open Go Go.RowKit Go.Proofs
theorem Zb:Tryd.prog.follows .mixedOrders=true:=by kernel_rfl
theorem Zyd {α:Type} {l:List α} (h:l.length=1):∃ u0,l=[u0]:=by
 match l,h with
 | [u0],_=>exact ⟨u0,rfl⟩
theorem Zg0 {α:Type} {l:List α} (h:l.length=2):∃ u0 u1,l=[u0,u1]:=by
 match l,h with
 | [u0,u1],_=>exact ⟨u0,u1,rfl⟩
theorem Zvn {α:Type} {l:List α} (h:l.length=8):∃ u0 u1 u2 u3 u4 u5 u6 u7,l=[u0,u1,u2,u3,u4,u5,u6,u7]:=by
 match l,h with
 | [u0,u1,u2,u3,u4,u5,u6,u7],_=>exact ⟨u0,u1,u2,u3,u4,u5,u6,u7,rfl⟩
def Zpn:List (Kd.FK Zc):=[⟨_,Kd.flt,0,fun x:Zc=>x.Score⟩,
 ⟨_,Kd.str,1,fun x:Zc=>x.Name⟩]
def Zj:Kd Zc:=Kd.struct 2 Zpn (by rfl)
theorem Zgw:∀ g,Zj.K g (default:Zc) [.float .f64 0,.string ByteArray.empty]:=fun g=>⟨rfl,(Qc.2 ⟨(rfl),(Qc.2 ⟨(rfl),(fun _ h=>by cases h)⟩)⟩)⟩
def Zn2:List (Kd.FK Za):=[⟨_,(Kd.int .i64),0,fun x:Za=>x.Kind⟩,
 ⟨_,(Kd.int .i64),1,fun x:Za=>x.Num⟩,
 ⟨_,(Kd.int .i64),2,fun x:Za=>x.Low⟩,
 ⟨_,(Kd.int .i64),3,fun x:Za=>x.High⟩,
 ⟨_,Kd.flt,4,fun x:Za=>x.Real⟩,
 ⟨_,(Kd.int .i64),5,fun x:Za=>x.Cap⟩,
 ⟨_,Kd.str,6,fun x:Za=>x.Text⟩,
 ⟨_,Zj.sl,7,fun x:Za=>x.List⟩]
def Zf:Kd Za:=Kd.struct 8 Zn2 (by rfl)
theorem Zc5:∀ g,Zf.K g (default:Za) [.int .i64 0,.int .i64 0,.int .i64 0,.int .i64 0,.float .f64 0,.int .i64 0,.string ByteArray.empty,.slice none 0 0]:=fun g=>⟨rfl,(Qc.2 ⟨(rfl),(Qc.2 ⟨(rfl),(Qc.2 ⟨(rfl),(Qc.2 ⟨(rfl),(Qc.2 ⟨(rfl),(Qc.2 ⟨(rfl),(Qc.2 ⟨(rfl),(Qc.2 ⟨(⟨none,0,rfl,Nat.le_refl _,Nat.zero_le _,.inl rfl⟩),(fun _ h=>by cases h)⟩)⟩)⟩)⟩)⟩)⟩)⟩)⟩)⟩
def Zpd:List (Kd.FK Zbb):=[⟨_,Kd.bool,0,fun x:Zbb=>x.text⟩,
 ⟨_,Kd.bool,1,fun x:Zbb=>x.num⟩,
 ⟨_,Kd.bool,2,fun x:Zbb=>x.bounds⟩,
 ⟨_,Kd.bool,3,fun x:Zbb=>x.real⟩,
 ⟨_,Kd.bool,4,fun x:Zbb=>x.list⟩]
def Zbr:Kd Zbb:=Kd.struct 5 Zpd (by rfl)
theorem Zkk:∀ g,Zbr.K g (default:Zbb) [.bool false,.bool false,.bool false,.bool false,.bool false]:=fun g=>⟨rfl,(Qc.2 ⟨(rfl),(Qc.2 ⟨(rfl),(Qc.2 ⟨(rfl),(Qc.2 ⟨(rfl),(Qc.2 ⟨(rfl),(fun _ h=>by cases h)⟩)⟩)⟩)⟩)⟩)⟩
def Zp5:List (Kd.FK Zb0):=[⟨_,Kd.str,0,fun x:Zb0=>x.word⟩,
 ⟨_,(Kd.int .i64),1,fun x:Zb0=>x.on⟩,
 ⟨_,Kd.str,2,fun x:Zb0=>x.has⟩]
def Zcb:Kd Zb0:=Kd.struct 3 Zp5 (by rfl)
theorem Zlu:∀ g,Zcb.K g (default:Zb0) [.string ByteArray.empty,.int .i64 0,.string ByteArray.empty]:=fun g=>⟨rfl,(Qc.2 ⟨(rfl),(Qc.2 ⟨(rfl),(Qc.2 ⟨(rfl),(fun _ h=>by cases h)⟩)⟩)⟩)⟩
def Zrc:List (Kd.FK Zm):=[⟨_,(Kd.int .i64),0,fun x:Zm=>x.Kind⟩,
 ⟨_,Kd.str,1,fun x:Zm=>x.Key⟩,
 ⟨_,(Kd.int .i64),2,fun x:Zm=>x.N⟩,
 ⟨_,Kd.flt,3,fun x:Zm=>x.X⟩,
 ⟨_,Kd.str,4,fun x:Zm=>x.S⟩,
 ⟨_,Zf,5,fun x:Zm=>x.Make⟩,
 ⟨_,Kd.bool,13,fun x:Zm=>x.Must⟩]
def Zq:Kd Zm:=Kd.struct 14 Zrc (by rfl)
theorem Zmo:∀ g,Zq.K g (default:Zm) [.int .i64 0,.string ByteArray.empty,.int .i64 0,.float .f64 0,.string ByteArray.empty,.int .i64 0,.int .i64 0,.int .i64 0,.int .i64 0,.float .f64 0,.int .i64 0,.string ByteArray.empty,.slice none 0 0,.bool false]:=fun g=>⟨rfl,(Qc.2 ⟨(rfl),(Qc.2 ⟨(rfl),(Qc.2 ⟨(rfl),(Qc.2 ⟨(rfl),(Qc.2 ⟨(rfl),(Qc.2 ⟨(Zc5 _),(Qc.2 ⟨(rfl),(fun _ h=>by cases h)⟩)⟩)⟩)⟩)⟩)⟩)⟩)⟩
def Zn9:List (Kd.FK Zd):=[⟨_,(Kd.int .i64),0,fun x:Zd=>x.Code⟩,
 ⟨_,(Kd.int .i64),1,fun x:Zd=>x.Num⟩,
 ⟨_,Zf,2,fun x:Zd=>x.Rec⟩]
def Zbi:Kd Zd:=Kd.struct 10 Zn9 (by rfl)
theorem Zih:∀ g,Zbi.K g (default:Zd) [.int .i64 0,.int .i64 0,.int .i64 0,.int .i64 0,.int .i64 0,.int .i64 0,.float .f64 0,.int .i64 0,.string ByteArray.empty,.slice none 0 0]:=fun g=>⟨rfl,(Qc.2 ⟨(rfl),(Qc.2 ⟨(rfl),(Qc.2 ⟨(Zc5 _),(fun _ h=>by cases h)⟩)⟩)⟩)⟩
def Zo1:Zb0 → List Value:=fun x=>[.string x.word,.int .i64 x.on,.string x.has]
theorem gm_0:(0,g_0.flatMap Zo1) ∈ GL:=List.mem_of_getElem? (i:=0) rfl
theorem gk_0:∀ g,(Kd.arr 22 Zcb).K g g_0 (g_0.flatMap Zo1):=fun g=>Zym (dk:=Zcb) (enc:=Zo1) (fun g x=>⟨rfl,(Qc.2 ⟨rfl,(Qc.2 ⟨rfl,(Qc.2 ⟨rfl,(fun _ h=>by cases h)⟩)⟩)⟩)⟩) g g_0
theorem Zcn:TE Tryd.prog 23 37 Zj 24:=TE.of Tryd.underlying23 (by kernel_rfl) (by decide) (by decide)
theorem Zdm:Fld Tryd.prog 25 7 Zf Zj.sl (fun x:Za=>x.List):=Fld.of ⟨_,Zj.sl,7,fun x:Za=>x.List⟩ (List.mem_of_getElem? (i:=7) rfl) 7 rfl (by kernel_rfl) (by decide)
theorem Zfx:Ty Tryd.prog 23 Zj.sl:=⟨by kernel_rfl,by kernel_rfl⟩
theorem Zod:Zk Tryd.prog 13:=by
 unfold Zk
 kernel_rfl
theorem Zck:Ty Tryd.prog 25 Zf:=⟨by kernel_rfl,by kernel_rfl⟩
theorem Zyl:Ext Tryd.prog 66 Extern.MathFloatBits.float64frombits:=⟨_,Tryd.func66,rfl,rfl,by kernel_rfl,by kernel_rfl⟩
theorem Zy6:Zk Tryd.prog 63:=by
 unfold Zk
 kernel_rfl
theorem Zrp:Ext Tryd.prog 52 Extern.MathFloatBits.float64bits:=⟨_,Tryd.func52,rfl,rfl,by kernel_rfl,by kernel_rfl⟩
theorem Zjb:Zk Tryd.prog 53:=by
 unfold Zk
 kernel_rfl
theorem Zwu {N d:Nat} {o:Oper} {uses:Zu} {x0:Operand} {v0:Bool} (hop:o.op=.build 66 #[(0,x0)]) (hd:o.dst=some d) (h0:Opd uses x0 (Kd.bool.pd v0)):OB Tryd.prog N o uses [(d,Zbr.pd { text:=v0,num:=false,bounds:=false,real:=false,list:=false })] []:=by
 refine Zcf hop hd fun a g hh=>?_
 obtain ⟨c0,k0,e0⟩:=h0 a g hh
 obtain rfl:=k0
 refine ⟨.agg #[.bool v0,.bool false,.bool false,.bool false,.bool false],?_,[.bool v0,.bool false,.bool false,.bool false,.bool false],⟨rfl,(Qc.2 ⟨rfl,(Qc.2 ⟨(rfl),(Qc.2 ⟨(rfl),(Qc.2 ⟨(rfl),(Qc.2 ⟨(rfl),(fun _ h=>by cases h)⟩)⟩)⟩)⟩)⟩)⟩,rfl⟩
 simp only [List.map_toArray,List.map_cons,List.map_nil,e0]
 exact Zb6 Tryd.underlying66 (zero:=.agg #[.bool false,.bool false,.bool false,.bool false,.bool false]) (by kernel_rfl) (places:=[(0,1),(1,1),(2,1),(3,1),(4,1)]) (by kernel_rfl) (by kernel_rfl) g.w
theorem Zf8:Ty Tryd.prog 66 Zbr:=⟨by kernel_rfl,by kernel_rfl⟩
theorem Zvq {N d:Nat} {o:Oper} {uses:Zu} {x1:Operand} {v1:Bool} (hop:o.op=.build 66 #[(1,x1)]) (hd:o.dst=some d) (h1:Opd uses x1 (Kd.bool.pd v1)):OB Tryd.prog N o uses [(d,Zbr.pd { text:=false,num:=v1,bounds:=false,real:=false,list:=false })] []:=by
 refine Zcf hop hd fun a g hh=>?_
 obtain ⟨c1,k1,e1⟩:=h1 a g hh
 obtain rfl:=k1
 refine ⟨.agg #[.bool false,.bool v1,.bool false,.bool false,.bool false],?_,[.bool false,.bool v1,.bool false,.bool false,.bool false],⟨rfl,(Qc.2 ⟨(rfl),(Qc.2 ⟨rfl,(Qc.2 ⟨(rfl),(Qc.2 ⟨(rfl),(Qc.2 ⟨(rfl),(fun _ h=>by cases h)⟩)⟩)⟩)⟩)⟩)⟩,rfl⟩
 simp only [List.map_toArray,List.map_cons,List.map_nil,e1]
 exact Zb6 Tryd.underlying66 (zero:=.agg #[.bool false,.bool false,.bool false,.bool false,.bool false]) (by kernel_rfl) (places:=[(0,1),(1,1),(2,1),(3,1),(4,1)]) (by kernel_rfl) (by kernel_rfl) g.w
theorem Zsj {N d:Nat} {o:Oper} {uses:Zu} {x1:Operand} {x2:Operand} {v1:Bool} {v2:Bool} (hop:o.op=.build 66 #[(1,x1),(2,x2)]) (hd:o.dst=some d) (h1:Opd uses x1 (Kd.bool.pd v1)) (h2:Opd uses x2 (Kd.bool.pd v2)):OB Tryd.prog N o uses [(d,Zbr.pd { text:=false,num:=v1,bounds:=v2,real:=false,list:=false })] []:=by
 refine Zcf hop hd fun a g hh=>?_
 obtain ⟨c1,k1,e1⟩:=h1 a g hh
 obtain rfl:=k1
 obtain ⟨c2,k2,e2⟩:=h2 a g hh
 obtain rfl:=k2
 refine ⟨.agg #[.bool false,.bool v1,.bool v2,.bool false,.bool false],?_,[.bool false,.bool v1,.bool v2,.bool false,.bool false],⟨rfl,(Qc.2 ⟨(rfl),(Qc.2 ⟨rfl,(Qc.2 ⟨rfl,(Qc.2 ⟨(rfl),(Qc.2 ⟨(rfl),(fun _ h=>by cases h)⟩)⟩)⟩)⟩)⟩)⟩,rfl⟩
 simp only [List.map_toArray,List.map_cons,List.map_nil,e1,e2]
 exact Zb6 Tryd.underlying66 (zero:=.agg #[.bool false,.bool false,.bool false,.bool false,.bool false]) (by kernel_rfl) (places:=[(0,1),(1,1),(2,1),(3,1),(4,1)]) (by kernel_rfl) (by kernel_rfl) g.w
theorem Zw1 {N d:Nat} {o:Oper} {uses:Zu} {x3:Operand} {v3:Bool} (hop:o.op=.build 66 #[(3,x3)]) (hd:o.dst=some d) (h3:Opd uses x3 (Kd.bool.pd v3)):OB Tryd.prog N o uses [(d,Zbr.pd { text:=false,num:=false,bounds:=false,real:=v3,list:=false })] []:=by
 refine Zcf hop hd fun a g hh=>?_
 obtain ⟨c3,k3,e3⟩:=h3 a g hh
 obtain rfl:=k3
 refine ⟨.agg #[.bool false,.bool false,.bool false,.bool v3,.bool false],?_,[.bool false,.bool false,.bool false,.bool v3,.bool false],⟨rfl,(Qc.2 ⟨(rfl),(Qc.2 ⟨(rfl),(Qc.2 ⟨(rfl),(Qc.2 ⟨rfl,(Qc.2 ⟨(rfl),(fun _ h=>by cases h)⟩)⟩)⟩)⟩)⟩)⟩,rfl⟩
 simp only [List.map_toArray,List.map_cons,List.map_nil,e3]
 exact Zb6 Tryd.underlying66 (zero:=.agg #[.bool false,.bool false,.bool false,.bool false,.bool false]) (by kernel_rfl) (places:=[(0,1),(1,1),(2,1),(3,1),(4,1)]) (by kernel_rfl) (by kernel_rfl) g.w
theorem Zvu {N d:Nat} {o:Oper} {uses:Zu} {x4:Operand} {v4:Bool} (hop:o.op=.build 66 #[(4,x4)]) (hd:o.dst=some d) (h4:Opd uses x4 (Kd.bool.pd v4)):OB Tryd.prog N o uses [(d,Zbr.pd { text:=false,num:=false,bounds:=false,real:=false,list:=v4 })] []:=by
 refine Zcf hop hd fun a g hh=>?_
 obtain ⟨c4,k4,e4⟩:=h4 a g hh
 obtain rfl:=k4
 refine ⟨.agg #[.bool false,.bool false,.bool false,.bool false,.bool v4],?_,[.bool false,.bool false,.bool false,.bool false,.bool v4],⟨rfl,(Qc.2 ⟨(rfl),(Qc.2 ⟨(rfl),(Qc.2 ⟨(rfl),(Qc.2 ⟨(rfl),(Qc.2 ⟨rfl,(fun _ h=>by cases h)⟩)⟩)⟩)⟩)⟩)⟩,rfl⟩
 simp only [List.map_toArray,List.map_cons,List.map_nil,e4]
 exact Zb6 Tryd.underlying66 (zero:=.agg #[.bool false,.bool false,.bool false,.bool false,.bool false]) (by kernel_rfl) (places:=[(0,1),(1,1),(2,1),(3,1),(4,1)]) (by kernel_rfl) (by kernel_rfl) g.w
theorem Zxk {N d:Nat} {o:Oper} {uses:Zu}   (hop:o.op=.build 66 #[]) (hd:o.dst=some d) :OB Tryd.prog N o uses [(d,Zbr.pd { text:=false,num:=false,bounds:=false,real:=false,list:=false })] []:=by
 refine Zcf hop hd fun a g hh=>?_
 refine ⟨.agg #[.bool false,.bool false,.bool false,.bool false,.bool false],?_,[.bool false,.bool false,.bool false,.bool false,.bool false],⟨rfl,(Qc.2 ⟨(rfl),(Qc.2 ⟨(rfl),(Qc.2 ⟨(rfl),(Qc.2 ⟨(rfl),(Qc.2 ⟨(rfl),(fun _ h=>by cases h)⟩)⟩)⟩)⟩)⟩)⟩,rfl⟩
 simp only [List.map_toArray,List.map_cons,List.map_nil,List.map_nil]
 exact Zb6 Tryd.underlying66 (zero:=.agg #[.bool false,.bool false,.bool false,.bool false,.bool false]) (by kernel_rfl) (places:=[(0,1),(1,1),(2,1),(3,1),(4,1)]) (by kernel_rfl) (by kernel_rfl) g.w
theorem Zoc:Zk Tryd.prog 62:=by
 unfold Zk
 kernel_rfl
theorem Zwj:Fld Tryd.prog 66 0 Zbr Kd.bool (fun x:Zbb=>x.text):=Fld.of ⟨_,Kd.bool,0,fun x:Zbb=>x.text⟩ (List.mem_of_getElem? (i:=0) rfl) 0 rfl (by kernel_rfl) (by decide)
theorem ty_4:Ty Tryd.prog 4 Kd.bool:=⟨by kernel_rfl,by kernel_rfl⟩
theorem Zh0:Fld Tryd.prog 25 6 Zf Kd.str (fun x:Za=>x.Text):=Fld.of ⟨_,Kd.str,6,fun x:Za=>x.Text⟩ (List.mem_of_getElem? (i:=6) rfl) 6 rfl (by kernel_rfl) (by decide)
theorem ty_9:Ty Tryd.prog 9 Kd.str:=⟨by kernel_rfl,by kernel_rfl⟩
theorem Zw0:Fld Tryd.prog 66 1 Zbr Kd.bool (fun x:Zbb=>x.num):=Fld.of ⟨_,Kd.bool,1,fun x:Zbb=>x.num⟩ (List.mem_of_getElem? (i:=1) rfl) 1 rfl (by kernel_rfl) (by decide)
theorem Zgp:Fld Tryd.prog 25 1 Zf (Kd.int .i64) (fun x:Za=>x.Num):=Fld.of ⟨_,(Kd.int .i64),1,fun x:Za=>x.Num⟩ (List.mem_of_getElem? (i:=1) rfl) 1 rfl (by kernel_rfl) (by decide)
theorem ty_2:Ty Tryd.prog 2 (Kd.int .i64):=⟨by kernel_rfl,by kernel_rfl⟩
theorem Zqf:Fld Tryd.prog 66 2 Zbr Kd.bool (fun x:Zbb=>x.bounds):=Fld.of ⟨_,Kd.bool,2,fun x:Zbb=>x.bounds⟩ (List.mem_of_getElem? (i:=2) rfl) 2 rfl (by kernel_rfl) (by decide)
theorem Zh1:Fld Tryd.prog 25 2 Zf (Kd.int .i64) (fun x:Za=>x.Low):=Fld.of ⟨_,(Kd.int .i64),2,fun x:Za=>x.Low⟩ (List.mem_of_getElem? (i:=2) rfl) 2 rfl (by kernel_rfl) (by decide)
theorem Zhz:Fld Tryd.prog 25 3 Zf (Kd.int .i64) (fun x:Za=>x.High):=Fld.of ⟨_,(Kd.int .i64),3,fun x:Za=>x.High⟩ (List.mem_of_getElem? (i:=3) rfl) 3 rfl (by kernel_rfl) (by decide)
theorem Zv4:Fld Tryd.prog 66 3 Zbr Kd.bool (fun x:Zbb=>x.real):=Fld.of ⟨_,Kd.bool,3,fun x:Zbb=>x.real⟩ (List.mem_of_getElem? (i:=3) rfl) 3 rfl (by kernel_rfl) (by decide)
theorem Zin:Fld Tryd.prog 25 4 Zf Kd.flt (fun x:Za=>x.Real):=Fld.of ⟨_,Kd.flt,4,fun x:Za=>x.Real⟩ (List.mem_of_getElem? (i:=4) rfl) 4 rfl (by kernel_rfl) (by decide)
theorem Zdo:Ty Tryd.prog 22 Kd.flt:=⟨by kernel_rfl,by kernel_rfl⟩
theorem Zk6:Zk Tryd.prog 48:=by
 unfold Zk
 kernel_rfl
theorem Zqr:Fld Tryd.prog 66 4 Zbr Kd.bool (fun x:Zbb=>x.list):=Fld.of ⟨_,Kd.bool,4,fun x:Zbb=>x.list⟩ (List.mem_of_getElem? (i:=4) rfl) 4 rfl (by kernel_rfl) (by decide)
theorem Zhc:Fld Tryd.prog 25 5 Zf (Kd.int .i64) (fun x:Za=>x.Cap):=Fld.of ⟨_,(Kd.int .i64),5,fun x:Za=>x.Cap⟩ (List.mem_of_getElem? (i:=5) rfl) 5 rfl (by kernel_rfl) (by decide)
theorem ty_3:Ty Tryd.prog 3 (Kd.int .i64):=⟨by kernel_rfl,by kernel_rfl⟩
theorem Zf5:Fld Tryd.prog 37 0 Zj Kd.flt (fun x:Zc=>x.Score):=Fld.of ⟨_,Kd.flt,0,fun x:Zc=>x.Score⟩ (List.mem_of_getElem? (i:=0) rfl) 0 rfl (by kernel_rfl) (by decide)
theorem Zrg:Zk Tryd.prog 56:=by
 unfold Zk
 kernel_rfl
theorem Ze0:Fld Tryd.prog 37 1 Zj Kd.str (fun x:Zc=>x.Name):=Fld.of ⟨_,Kd.str,1,fun x:Zc=>x.Name⟩ (List.mem_of_getElem? (i:=1) rfl) 1 rfl (by kernel_rfl) (by decide)
theorem Zel:(Tryd.prog.info? 37).map (·.size)=some Zj.sz:=by kernel_rfl
theorem Zd8:Ty Tryd.prog 37 Zj:=⟨by kernel_rfl,by kernel_rfl⟩
theorem Zq4:Zk Tryd.prog 24:=by
 unfold Zk
 kernel_rfl
theorem Zq2:Zk Tryd.prog 54:=by
 unfold Zk
 kernel_rfl
theorem Zha:Fld Tryd.prog 25 0 Zf (Kd.int .i64) (fun x:Za=>x.Kind):=Fld.of ⟨_,(Kd.int .i64),0,fun x:Za=>x.Kind⟩ (List.mem_of_getElem? (i:=0) rfl) 0 rfl (by kernel_rfl) (by decide)
theorem Zyv:Zk Tryd.prog 25:=by
 unfold Zk
 kernel_rfl
theorem Zze:Zk Tryd.prog 26:=by
 unfold Zk
 kernel_rfl
theorem Zzk:Zk Tryd.prog 27:=by
 unfold Zk
 kernel_rfl
theorem Zx0 {N d:Nat} {o:Oper} {uses:Zu}   (hop:o.op=.build 60 #[]) (hd:o.dst=some d) :OB Tryd.prog N o uses [(d,Zcb.pd { word:=ByteArray.empty,on:=(0:Int),has:=ByteArray.empty })] []:=by
 refine Zcf hop hd fun a g hh=>?_
 refine ⟨.agg #[.string ByteArray.empty,.int .i64 0,.string ByteArray.empty],?_,[.string ByteArray.empty,.int .i64 0,.string ByteArray.empty],⟨rfl,(Qc.2 ⟨(rfl),(Qc.2 ⟨(rfl),(Qc.2 ⟨(rfl),(fun _ h=>by cases h)⟩)⟩)⟩)⟩,rfl⟩
 simp only [List.map_toArray,List.map_cons,List.map_nil,List.map_nil]
 exact Zb6 Tryd.underlying60 (zero:=.agg #[.string ByteArray.empty,.int .i64 0,.string ByteArray.empty]) (by kernel_rfl) (places:=[(0,1),(1,1),(2,1)]) (by kernel_rfl) (by kernel_rfl) g.w
theorem Zgz:Ty Tryd.prog 60 Zcb:=⟨by kernel_rfl,by kernel_rfl⟩
theorem Zyh:(Tryd.prog.info? 60).map (·.size)=some Zcb.sz:=by kernel_rfl
theorem Zy7:Zk Tryd.prog 50:=by
 unfold Zk
 kernel_rfl
theorem Zzn:Zk Tryd.prog 49:=by
 unfold Zk
 kernel_rfl
theorem Zql:Fld Tryd.prog 60 2 Zcb Kd.str (fun x:Zb0=>x.has):=Fld.of ⟨_,Kd.str,2,fun x:Zb0=>x.has⟩ (List.mem_of_getElem? (i:=2) rfl) 2 rfl (by kernel_rfl) (by decide)
theorem Zoh:Zk Tryd.prog 51:=by
 unfold Zk
 kernel_rfl
theorem Zd7:Fld Tryd.prog 27 2 Zq (Kd.int .i64) (fun x:Zm=>x.N):=Fld.of ⟨_,(Kd.int .i64),2,fun x:Zm=>x.N⟩ (List.mem_of_getElem? (i:=2) rfl) 2 rfl (by kernel_rfl) (by decide)
theorem Zla:Fld Tryd.prog 27 3 Zq Kd.flt (fun x:Zm=>x.X):=Fld.of ⟨_,Kd.flt,3,fun x:Zm=>x.X⟩ (List.mem_of_getElem? (i:=3) rfl) 3 rfl (by kernel_rfl) (by decide)
theorem Zf3:Fld Tryd.prog 27 4 Zq Kd.str (fun x:Zm=>x.S):=Fld.of ⟨_,Kd.str,4,fun x:Zm=>x.S⟩ (List.mem_of_getElem? (i:=4) rfl) 4 rfl (by kernel_rfl) (by decide)
theorem Zio:Fld Tryd.prog 27 5 Zq Zf (fun x:Zm=>x.Make):=Fld.of ⟨_,Zf,5,fun x:Zm=>x.Make⟩ (List.mem_of_getElem? (i:=5) rfl) 5 rfl (by kernel_rfl) (by decide)
theorem Zmi {N d:Nat} {o:Oper} {uses:Zu}   (hop:o.op=.build 25 #[]) (hd:o.dst=some d) :OB Tryd.prog N o uses [(d,Zf.pd { Kind:=(0:Int),Num:=(0:Int),Low:=(0:Int),High:=(0:Int),Real:=(0:Nat),Cap:=(0:Int),Text:=ByteArray.empty,List:=([]:List Zc) })] []:=by
 refine Zcf hop hd fun a g hh=>?_
 refine ⟨.agg #[.int .i64 0,.int .i64 0,.int .i64 0,.int .i64 0,.float .f64 0,.int .i64 0,.string ByteArray.empty,.slice none 0 0],?_,[.int .i64 0,.int .i64 0,.int .i64 0,.int .i64 0,.float .f64 0,.int .i64 0,.string ByteArray.empty,.slice none 0 0],⟨rfl,(Qc.2 ⟨(rfl),(Qc.2 ⟨(rfl),(Qc.2 ⟨(rfl),(Qc.2 ⟨(rfl),(Qc.2 ⟨(rfl),(Qc.2 ⟨(rfl),(Qc.2 ⟨(rfl),(Qc.2 ⟨(⟨none,0,rfl,Nat.le_refl _,Nat.zero_le _,.inl rfl⟩),(fun _ h=>by cases h)⟩)⟩)⟩)⟩)⟩)⟩)⟩)⟩)⟩,rfl⟩
 simp only [List.map_toArray,List.map_cons,List.map_nil,List.map_nil]
 exact Zb6 Tryd.underlying25 (zero:=.agg #[.int .i64 0,.int .i64 0,.int .i64 0,.int .i64 0,.float .f64 0,.int .i64 0,.string ByteArray.empty,.slice none 0 0]) (by kernel_rfl) (places:=[(0,1),(1,1),(2,1),(3,1),(4,1),(5,1),(6,1),(7,1)]) (by kernel_rfl) (by kernel_rfl) g.w
theorem Zva:Zk Tryd.prog 20:=by
 unfold Zk
 kernel_rfl
theorem Zqy:Fld Tryd.prog 60 1 Zcb (Kd.int .i64) (fun x:Zb0=>x.on):=Fld.of ⟨_,(Kd.int .i64),1,fun x:Zb0=>x.on⟩ (List.mem_of_getElem? (i:=1) rfl) 1 rfl (by kernel_rfl) (by decide)
theorem Zfp:Fld Tryd.prog 27 0 Zq (Kd.int .i64) (fun x:Zm=>x.Kind):=Fld.of ⟨_,(Kd.int .i64),0,fun x:Zm=>x.Kind⟩ (List.mem_of_getElem? (i:=0) rfl) 0 rfl (by kernel_rfl) (by decide)
theorem Zvl:Zk Tryd.prog 21:=by
 unfold Zk
 kernel_rfl
theorem Zvr:Fld Tryd.prog 60 0 Zcb Kd.str (fun x:Zb0=>x.word):=Fld.of ⟨_,Kd.str,0,fun x:Zb0=>x.word⟩ (List.mem_of_getElem? (i:=0) rfl) 0 rfl (by kernel_rfl) (by decide)
theorem Zm6:Fld Tryd.prog 27 1 Zq Kd.str (fun x:Zm=>x.Key):=Fld.of ⟨_,Kd.str,1,fun x:Zm=>x.Key⟩ (List.mem_of_getElem? (i:=1) rfl) 1 rfl (by kernel_rfl) (by decide)
theorem Zhj:Ty Tryd.prog 27 Zq:=⟨by kernel_rfl,by kernel_rfl⟩
theorem Zyz:Zk Tryd.prog 22:=by
 unfold Zk
 kernel_rfl
theorem Zzo:Zk Tryd.prog 23:=by
 unfold Zk
 kernel_rfl
theorem Zu6:Zk Tryd.prog 16:=by
 unfold Zk
 kernel_rfl
theorem en_6:Zk Tryd.prog 6:=by
 unfold Zk
 kernel_rfl
theorem Zqq:Fld Tryd.prog 33 2 Zbi Zf (fun x:Zd=>x.Rec):=Fld.of ⟨_,Zf,2,fun x:Zd=>x.Rec⟩ (List.mem_of_getElem? (i:=2) rfl) 2 rfl (by kernel_rfl) (by decide)
theorem Zmd:Zk Tryd.prog 55:=by
 unfold Zk
 kernel_rfl
theorem Zw5:Ty Tryd.prog 71 Kd.fnc:=⟨by kernel_rfl,by kernel_rfl⟩
theorem Zy0:Zk Tryd.prog 59:=by
 unfold Zk
 kernel_rfl
theorem Zyn:Zk Tryd.prog 58:=by
 unfold Zk
 kernel_rfl
theorem Zya:Ext Tryd.prog 64 (Extern.SlicesOverlaps.overlaps #[23,23] #[4]):=⟨_,Tryd.func64,rfl,rfl,by kernel_rfl,by kernel_rfl⟩
theorem Zq3:Zk Tryd.prog 43:=by
 unfold Zk
 kernel_rfl
theorem Zwc {N d:Nat} {o:Oper} {uses:Zu} {x1:Operand} {v1:ByteArray} (hop:o.op=.build 37 #[(1,x1)]) (hd:o.dst=some d) (h1:Opd uses x1 (Kd.str.pd v1)):OB Tryd.prog N o uses [(d,Zj.pd { Score:=(0:Nat),Name:=v1 })] []:=by
 refine Zcf hop hd fun a g hh=>?_
 obtain ⟨c1,k1,e1⟩:=h1 a g hh
 obtain rfl:=k1
 refine ⟨.agg #[.float .f64 0,.string v1],?_,[.float .f64 0,.string v1],⟨rfl,(Qc.2 ⟨(rfl),(Qc.2 ⟨rfl,(fun _ h=>by cases h)⟩)⟩)⟩,rfl⟩
 simp only [List.map_toArray,List.map_cons,List.map_nil,e1]
 exact Zb6 Tryd.underlying37 (zero:=.agg #[.float .f64 0,.string ByteArray.empty]) (by kernel_rfl) (places:=[(0,1),(1,1)]) (by kernel_rfl) (by kernel_rfl) g.w
theorem Zuv:Zk Tryd.prog 57:=by
 unfold Zk
 kernel_rfl
theorem Zzh:Zk Tryd.prog 44:=by
 unfold Zk
 kernel_rfl
theorem Zs9 {N d:Nat} {o:Oper} {uses:Zu} {x0:Operand} {x1:Operand} {v0:Nat} {v1:ByteArray} (hop:o.op=.build 37 #[(0,x0),(1,x1)]) (hd:o.dst=some d) (h0:Opd uses x0 (Kd.flt.pd v0)) (h1:Opd uses x1 (Kd.str.pd v1)):OB Tryd.prog N o uses [(d,Zj.pd { Score:=v0,Name:=v1 })] []:=by
 refine Zcf hop hd fun a g hh=>?_
 obtain ⟨c0,k0,e0⟩:=h0 a g hh
 obtain rfl:=k0
 obtain ⟨c1,k1,e1⟩:=h1 a g hh
 obtain rfl:=k1
 refine ⟨.agg #[.float .f64 v0,.string v1],?_,[.float .f64 v0,.string v1],⟨rfl,(Qc.2 ⟨rfl,(Qc.2 ⟨rfl,(fun _ h=>by cases h)⟩)⟩)⟩,rfl⟩
 simp only [List.map_toArray,List.map_cons,List.map_nil,e0,e1]
 exact Zb6 Tryd.underlying37 (zero:=.agg #[.float .f64 0,.string ByteArray.empty]) (by kernel_rfl) (places:=[(0,1),(1,1)]) (by kernel_rfl) (by kernel_rfl) g.w
theorem Zzd:Zk Tryd.prog 28:=by
 unfold Zk
 kernel_rfl
theorem Zy8:Zk Tryd.prog 29:=by
 unfold Zk
 kernel_rfl
theorem Zyr:Zk Tryd.prog 30:=by
 unfold Zk
 kernel_rfl
theorem Zzf:Zk Tryd.prog 31:=by
 unfold Zk
 kernel_rfl
theorem Zu2:Zk Tryd.prog 32:=by
 unfold Zk
 kernel_rfl
theorem Zyw:Zk Tryd.prog 33:=by
 unfold Zk
 kernel_rfl
theorem Zyc:Zk Tryd.prog 34:=by
 unfold Zk
 kernel_rfl
theorem Zyt:Zk Tryd.prog 36:=by
 unfold Zk
 kernel_rfl
theorem Zyg:Zk Tryd.prog 37:=by
 unfold Zk
 kernel_rfl
theorem Zyj:Zk Tryd.prog 38:=by
 unfold Zk
 kernel_rfl
theorem Zyx:Zk Tryd.prog 39:=by
 unfold Zk
 kernel_rfl
theorem Zye:Zk Tryd.prog 40:=by
 unfold Zk
 kernel_rfl
theorem Zyy:Zk Tryd.prog 41:=by
 unfold Zk
 kernel_rfl
theorem Zzj:Zk Tryd.prog 42:=by
 unfold Zk
 kernel_rfl
theorem Zyi:Zk Tryd.prog 45:=by
 unfold Zk
 kernel_rfl
theorem Zy4:Zk Tryd.prog 46:=by
 unfold Zk
 kernel_rfl
theorem Zmn:Zk Tryd.prog 35:=by
 unfold Zk
 kernel_rfl
theorem Zoe:Ty Tryd.prog 33 Zbi:=⟨by kernel_rfl,by kernel_rfl⟩
theorem Zzg:Zk Tryd.prog 15:=by
 unfold Zk
 kernel_rfl
theorem Zmj:Zk Tryd.prog 14:=by
 unfold Zk
 kernel_rfl
theorem Zw3 {N d:Nat} {o:Oper} {uses:Zu}   (hop:o.op=.build 33 #[]) (hd:o.dst=some d) :OB Tryd.prog N o uses [(d,Zbi.pd { Code:=(0:Int),Num:=(0:Int),Rec:=(default:Za) })] []:=by
 refine Zcf hop hd fun a g hh=>?_
 refine ⟨.agg #[.int .i64 0,.int .i64 0,.int .i64 0,.int .i64 0,.int .i64 0,.int .i64 0,.float .f64 0,.int .i64 0,.string ByteArray.empty,.slice none 0 0],?_,[.int .i64 0,.int .i64 0,.int .i64 0,.int .i64 0,.int .i64 0,.int .i64 0,.float .f64 0,.int .i64 0,.string ByteArray.empty,.slice none 0 0],⟨rfl,(Qc.2 ⟨(rfl),(Qc.2 ⟨(rfl),(Qc.2 ⟨(Zc5 _),(fun _ h=>by cases h)⟩)⟩)⟩)⟩,rfl⟩
 simp only [List.map_toArray,List.map_cons,List.map_nil,List.map_nil]
 exact Zb6 Tryd.underlying33 (zero:=.agg #[.int .i64 0,.int .i64 0,.int .i64 0,.int .i64 0,.int .i64 0,.int .i64 0,.float .f64 0,.int .i64 0,.string ByteArray.empty,.slice none 0 0]) (by kernel_rfl) (places:=[(0,1),(1,1),(2,8)]) (by kernel_rfl) (by kernel_rfl) g.w
theorem Zzm:Zk Tryd.prog 17:=by
 unfold Zk
 kernel_rfl
theorem Zys:Zk Tryd.prog 18:=by
 unfold Zk
 kernel_rfl
theorem Zu7:(Tryd.prog.info? 27).map (·.size)=some Zq.sz:=by kernel_rfl
theorem en_7:Zk Tryd.prog 7:=by
 unfold Zk
 kernel_rfl
theorem Zvm:TE Tryd.prog 40 33 Zbi 104:=TE.of Tryd.underlying40 (by kernel_rfl) (by decide) (by decide)
theorem Zlb:Fld Tryd.prog 33 0 Zbi (Kd.int .i64) (fun x:Zd=>x.Code):=Fld.of ⟨_,(Kd.int .i64),0,fun x:Zd=>x.Code⟩ (List.mem_of_getElem? (i:=0) rfl) 0 rfl (by kernel_rfl) (by decide)
theorem Zoi:Ty Tryd.prog 31 (Kd.int .i64):=⟨by kernel_rfl,by kernel_rfl⟩
theorem Zqt:Fld Tryd.prog 33 1 Zbi (Kd.int .i64) (fun x:Zd=>x.Num):=Fld.of ⟨_,(Kd.int .i64),1,fun x:Zd=>x.Num⟩ (List.mem_of_getElem? (i:=1) rfl) 1 rfl (by kernel_rfl) (by decide)
theorem Zpy {N d:Nat} {o:Oper} {uses:Zu} {x0:Operand} {x3:Operand} {x1:Operand} {v0:Int} {v3:Int} {v1:Int} (hop:o.op=.build 25 #[(0,x0),(3,x3),(1,x1)]) (hd:o.dst=some d) (h0:Opd uses x0 ((Kd.int .i64).pd v0)) (h3:Opd uses x3 ((Kd.int .i64).pd v3)) (h1:Opd uses x1 ((Kd.int .i64).pd v1)):OB Tryd.prog N o uses [(d,Zf.pd { Kind:=v0,Num:=v1,Low:=(0:Int),High:=v3,Real:=(0:Nat),Cap:=(0:Int),Text:=ByteArray.empty,List:=([]:List Zc) })] []:=by
 refine Zcf hop hd fun a g hh=>?_
 obtain ⟨c0,k0,e0⟩:=h0 a g hh
 obtain rfl:=k0
 obtain ⟨c1,k1,e1⟩:=h1 a g hh
 obtain rfl:=k1
 obtain ⟨c3,k3,e3⟩:=h3 a g hh
 obtain rfl:=k3
 refine ⟨.agg #[.int .i64 v0,.int .i64 v1,.int .i64 0,.int .i64 v3,.float .f64 0,.int .i64 0,.string ByteArray.empty,.slice none 0 0],?_,[.int .i64 v0,.int .i64 v1,.int .i64 0,.int .i64 v3,.float .f64 0,.int .i64 0,.string ByteArray.empty,.slice none 0 0],⟨rfl,(Qc.2 ⟨rfl,(Qc.2 ⟨rfl,(Qc.2 ⟨(rfl),(Qc.2 ⟨rfl,(Qc.2 ⟨(rfl),(Qc.2 ⟨(rfl),(Qc.2 ⟨(rfl),(Qc.2 ⟨(⟨none,0,rfl,Nat.le_refl _,Nat.zero_le _,.inl rfl⟩),(fun _ h=>by cases h)⟩)⟩)⟩)⟩)⟩)⟩)⟩)⟩)⟩,rfl⟩
 simp only [List.map_toArray,List.map_cons,List.map_nil,e0,e3,e1]
 exact Zb6 Tryd.underlying25 (zero:=.agg #[.int .i64 0,.int .i64 0,.int .i64 0,.int .i64 0,.float .f64 0,.int .i64 0,.string ByteArray.empty,.slice none 0 0]) (by kernel_rfl) (places:=[(0,1),(1,1),(2,1),(3,1),(4,1),(5,1),(6,1),(7,1)]) (by kernel_rfl) (by kernel_rfl) g.w
theorem Zlp {N d:Nat} {o:Oper} {uses:Zu} {x0:Operand} {x1:Operand} {x2:Operand} {v0:Int} {v1:ByteArray} {v2:Int} (hop:o.op=.build 27 #[(0,x0),(1,x1),(2,x2)]) (hd:o.dst=some d) (h0:Opd uses x0 ((Kd.int .i64).pd v0)) (h1:Opd uses x1 (Kd.str.pd v1)) (h2:Opd uses x2 ((Kd.int .i64).pd v2)):OB Tryd.prog N o uses [(d,Zq.pd { Kind:=v0,Key:=v1,N:=v2,X:=(0:Nat),S:=ByteArray.empty,Make:=(default:Za),Must:=false })] []:=by
 refine Zcf hop hd fun a g hh=>?_
 obtain ⟨c0,k0,e0⟩:=h0 a g hh
 obtain rfl:=k0
 obtain ⟨c1,k1,e1⟩:=h1 a g hh
 obtain rfl:=k1
 obtain ⟨c2,k2,e2⟩:=h2 a g hh
 obtain rfl:=k2
 refine ⟨.agg #[.int .i64 v0,.string v1,.int .i64 v2,.float .f64 0,.string ByteArray.empty,.int .i64 0,.int .i64 0,.int .i64 0,.int .i64 0,.float .f64 0,.int .i64 0,.string ByteArray.empty,.slice none 0 0,.bool false],?_,[.int .i64 v0,.string v1,.int .i64 v2,.float .f64 0,.string ByteArray.empty,.int .i64 0,.int .i64 0,.int .i64 0,.int .i64 0,.float .f64 0,.int .i64 0,.string ByteArray.empty,.slice none 0 0,.bool false],⟨rfl,(Qc.2 ⟨rfl,(Qc.2 ⟨rfl,(Qc.2 ⟨rfl,(Qc.2 ⟨(rfl),(Qc.2 ⟨(rfl),(Qc.2 ⟨(Zc5 _),(Qc.2 ⟨(rfl),(fun _ h=>by cases h)⟩)⟩)⟩)⟩)⟩)⟩)⟩)⟩,rfl⟩
 simp only [List.map_toArray,List.map_cons,List.map_nil,e0,e1,e2]
 exact Zb6 Tryd.underlying27 (zero:=.agg #[.int .i64 0,.string ByteArray.empty,.int .i64 0,.float .f64 0,.string ByteArray.empty,.int .i64 0,.int .i64 0,.int .i64 0,.int .i64 0,.float .f64 0,.int .i64 0,.string ByteArray.empty,.slice none 0 0,.bool false]) (by kernel_rfl) (places:=[(0,1),(1,1),(2,1),(3,1),(4,1),(5,8),(13,1)]) (by kernel_rfl) (by kernel_rfl) g.w
theorem Zth {N d:Nat} {o:Oper} {uses:Zu} {x0:Operand} {x1:Operand} {v0:Int} {v1:Int} (hop:o.op=.build 25 #[(0,x0),(1,x1)]) (hd:o.dst=some d) (h0:Opd uses x0 ((Kd.int .i64).pd v0)) (h1:Opd uses x1 ((Kd.int .i64).pd v1)):OB Tryd.prog N o uses [(d,Zf.pd { Kind:=v0,Num:=v1,Low:=(0:Int),High:=(0:Int),Real:=(0:Nat),Cap:=(0:Int),Text:=ByteArray.empty,List:=([]:List Zc) })] []:=by
 refine Zcf hop hd fun a g hh=>?_
 obtain ⟨c0,k0,e0⟩:=h0 a g hh
 obtain rfl:=k0
 obtain ⟨c1,k1,e1⟩:=h1 a g hh
 obtain rfl:=k1
 refine ⟨.agg #[.int .i64 v0,.int .i64 v1,.int .i64 0,.int .i64 0,.float .f64 0,.int .i64 0,.string ByteArray.empty,.slice none 0 0],?_,[.int .i64 v0,.int .i64 v1,.int .i64 0,.int .i64 0,.float .f64 0,.int .i64 0,.string ByteArray.empty,.slice none 0 0],⟨rfl,(Qc.2 ⟨rfl,(Qc.2 ⟨rfl,(Qc.2 ⟨(rfl),(Qc.2 ⟨(rfl),(Qc.2 ⟨(rfl),(Qc.2 ⟨(rfl),(Qc.2 ⟨(rfl),(Qc.2 ⟨(⟨none,0,rfl,Nat.le_refl _,Nat.zero_le _,.inl rfl⟩),(fun _ h=>by cases h)⟩)⟩)⟩)⟩)⟩)⟩)⟩)⟩)⟩,rfl⟩
 simp only [List.map_toArray,List.map_cons,List.map_nil,e0,e1]
 exact Zb6 Tryd.underlying25 (zero:=.agg #[.int .i64 0,.int .i64 0,.int .i64 0,.int .i64 0,.float .f64 0,.int .i64 0,.string ByteArray.empty,.slice none 0 0]) (by kernel_rfl) (places:=[(0,1),(1,1),(2,1),(3,1),(4,1),(5,1),(6,1),(7,1)]) (by kernel_rfl) (by kernel_rfl) g.w
theorem Zp1 {N d:Nat} {o:Oper} {uses:Zu} {x0:Operand} {x1:Operand} {x5:Operand} {v0:Int} {v1:ByteArray} {v5:Za} (hop:o.op=.build 27 #[(0,x0),(1,x1),(5,x5)]) (hd:o.dst=some d) (h0:Opd uses x0 ((Kd.int .i64).pd v0)) (h1:Opd uses x1 (Kd.str.pd v1)) (h5:Opd uses x5 (Zf.pd v5)):OB Tryd.prog N o uses [(d,Zq.pd { Kind:=v0,Key:=v1,N:=(0:Int),X:=(0:Nat),S:=ByteArray.empty,Make:=v5,Must:=false })] []:=by
 refine Zcf hop hd fun a g hh=>?_
 obtain ⟨c0,k0,e0⟩:=h0 a g hh
 obtain rfl:=k0
 obtain ⟨c1,k1,e1⟩:=h1 a g hh
 obtain rfl:=k1
 obtain ⟨c5,k5,e5⟩:=h5 a g hh
 obtain ⟨u5_0,u5_1,u5_2,u5_3,u5_4,u5_5,u5_6,u5_7,rfl⟩:=Zvn (Zf.len k5)
 refine ⟨.agg #[.int .i64 v0,.string v1,.int .i64 0,.float .f64 0,.string ByteArray.empty,u5_0,u5_1,u5_2,u5_3,u5_4,u5_5,u5_6,u5_7,.bool false],?_,[.int .i64 v0,.string v1,.int .i64 0,.float .f64 0,.string ByteArray.empty,u5_0,u5_1,u5_2,u5_3,u5_4,u5_5,u5_6,u5_7,.bool false],⟨rfl,(Qc.2 ⟨rfl,(Qc.2 ⟨rfl,(Qc.2 ⟨(rfl),(Qc.2 ⟨(rfl),(Qc.2 ⟨(rfl),(Qc.2 ⟨k5,(Qc.2 ⟨(rfl),(fun _ h=>by cases h)⟩)⟩)⟩)⟩)⟩)⟩)⟩)⟩,rfl⟩
 simp only [List.map_toArray,List.map_cons,List.map_nil,e0,e1,e5]
 exact Zb6 Tryd.underlying27 (zero:=.agg #[.int .i64 0,.string ByteArray.empty,.int .i64 0,.float .f64 0,.string ByteArray.empty,.int .i64 0,.int .i64 0,.int .i64 0,.int .i64 0,.float .f64 0,.int .i64 0,.string ByteArray.empty,.slice none 0 0,.bool false]) (by kernel_rfl) (places:=[(0,1),(1,1),(2,1),(3,1),(4,1),(5,8),(13,1)]) (by kernel_rfl) (by kernel_rfl) g.w
theorem Zvh:TE Tryd.prog 44 27 Zq 152:=TE.of Tryd.underlying44 (by kernel_rfl) (by decide) (by decide)
theorem en_9:Zk Tryd.prog 9:=by
 unfold Zk
 kernel_rfl
theorem Zvc:(Tryd.prog.info? 33).map (·.size)=some Zbi.sz:=by kernel_rfl
theorem Zyf:Zk Tryd.prog 10:=by
 unfold Zk
 kernel_rfl
theorem Zvk:Zk Tryd.prog 11:=by
 unfold Zk
 kernel_rfl
theorem Zyp:Zk Tryd.prog 12:=by
 unfold Zk
 kernel_rfl
theorem Zvg:Zk Tryd.prog 60:=by
 unfold Zk
 kernel_rfl
theorem Zu4:Zk Tryd.prog 61:=by
 unfold Zk
 kernel_rfl
theorem Zu9:Zk Tryd.prog 47:=by
 unfold Zk
 kernel_rfl
theorem Zvf:Zk Tryd.prog 19:=by
 unfold Zk
 kernel_rfl
theorem en_4:Zk Tryd.prog 4:=by
 unfold Zk
 kernel_rfl
theorem en_5:Zk Tryd.prog 5:=by
 unfold Zk
 kernel_rfl
theorem en_8:Zk Tryd.prog 8:=by
 unfold Zk
 kernel_rfl
end Go.CL
namespace Go.CL
open Go Go.RowKit
section
variable {P:Program} {N:Nat} {o:Oper} {uses:Zu} {d:Nat} {q q':Pd} {x y z:Operand} {α β:Type} {dk k k':Kd α} {t e:TypeId} {j:Nat} {c:Option Nat}
def Kd.slS (d:Kd α) (e:TypeId):Kd (List α) where
 sz:=1
 ag:=false
 K:=fun g xs cs=>(xs=[] ∧ ∃ A,cs=[.slice A 0 0]) ∨ ∃ b cap cur,cs=[.slice (some ⟨b,0,none⟩) xs.length cap] ∧ (∀ o,g.pr b o) ∧ g.w.heap[b]?=some (.cells cur e (0,0)) ∧ xs.length ≤ cap ∧ cap ≤ maxLen ∧ cur.size=cap * d.sz ∧ ∀ (i:Nat) (x:α),xs[i]?=some x → d.K g x (seg cur.toList (i * d.sz) d.sz)
 len:=by rintro _ _ _ (⟨_,A,rfl⟩ | ⟨b,cap,cur,rfl,_⟩) <;> rfl
 one:=by
   rintro _ _ _ (⟨_,A,rfl⟩ | ⟨b,cap,cur,rfl,_⟩) u hu
   · rw [List.mem_singleton.1 hu];rfl
   · rw [List.mem_singleton.1 hu];rfl
 mono:=fun h k=>k.imp id fun ⟨b,cap,cur,e1,h1,h2,h3,h4,h5,h6⟩=>⟨b,cap,cur,e1,fun o=>h.pr b o (h1 o),(h.blk b h1).trans h2,h3,h4,h5,fun i x hx=>d.mono h (h6 i x hx)⟩
 nag:=fun _=>rfl
theorem Zr2 {g:G} {xs:List α} {cs:List Value} (h:(dk.slS e).K g xs cs):dk.sl.K g xs cs:=by
 rcases h with ⟨rfl,A,rfl⟩ | ⟨b,cap,cur,rfl,h1,h2,h3,h4,h5,h6⟩
 · exact ⟨A,0,rfl,Nat.le_refl _,by simp,.inl rfl⟩
 · simp only [maxLen] at h4
   refine ⟨_,cap,rfl,h3,by omega,.inr ⟨b,0,rfl,fun i x hx=>⟨_,h6 i x hx,fun k u hk=>⟨h1 _,?_⟩⟩⟩⟩
   simp only [seg,List.getElem?_take,List.getElem?_drop] at hk
   split at hk
   · simp only [World.cell?,h2]
     simpa using hk
   · cases hk
structure Kd.Wk (k k':Kd α):Prop where
 ag:k.ag=k'.ag
 K:∀ g x cs,k.K g x cs → k'.K g x cs
theorem Zf2:(dk.slS e).Wk dk.sl:=⟨rfl,fun _ _ _ h=>Zr2 h⟩
theorem Kd.Wk.pd (w:k.Wk k') {x:α} {g:G} {v:Value} (h:(k.pd x).p g v):(k'.pd x).p g v:=by
 obtain ⟨cs,h1,h2⟩:=h
 exact ⟨cs,w.K _ _ _ h1,by rw [← w.ag];exact h2⟩
theorem Opd.wk (w:k.Wk k') {v:α} (h:Opd uses x (k.pd v)):Opd uses x (k'.pd v):=Opd.imp h fun _ _ h=>w.pd h
theorem FnOk.imp {f:FuncId} {A:List Pd} (h:FnOk P f A q) (hi:∀ g v,q.p g v → q'.p g v):FnOk P f A q':=fun g args ha=>Calls.mono (h g args ha) fun _ _ ⟨g',v,h1,h2,h3,h4⟩=>⟨g',v,h1,h2,h3,hi _ _ h4⟩
theorem Zus {p1 p2 p3 q1 q2 q3:Pd} (h1:∀ g v,p1.p g v → q1.p g v) (h2:∀ g v,p2.p g v → q2.p g v) (h3:∀ g v,p3.p g v → q3.p g v):∀ g v,(pTup [p1,p2,p3]).p g v → (pTup [q1,q2,q3]).p g v:=by
 rintro g v ⟨vs,rfl,hl,h⟩
 refine ⟨vs,rfl,hl,fun i qi u hq hu=>?_⟩
 match i,hq with
 | 0,hq=>obtain rfl:=Option.some.inj hq;exact h1 _ _ (h 0 _ u rfl hu)
 | 1,hq=>obtain rfl:=Option.some.inj hq;exact h2 _ _ (h 1 _ u rfl hu)
 | 2,hq=>obtain rfl:=Option.some.inj hq;exact h3 _ _ (h 2 _ u rfl hu)
 | n + 3,hq=>simp at hq
theorem Zwh {xs:List α} {g g0:G} {b cap:Nat} {cur:Array Value} (hb:Base g0 g) (hO:OwnAt dk e (j + 1) (xs.map some) g b cap cur):∃ g',g'.w=g.w ∧ Base g0 g' ∧ ((dk.slS e).pd xs).p g' (.slice (some ⟨b,0,none⟩) xs.length cap):=by
 let g':G:=⟨g.w,fun b' o=>g.pr b' o ∨ b'=b,g.own,fun b' o h=>h.elim (g.hpr b' o) (fun h=>by rw [h];exact hO.lt),g.gl.le (fun _ _ h=>.inl h) (fun _ _ _=>rfl)⟩
 have hle:g.le g':=⟨Nat.le_refl _,fun _ _ h=>.inl h,fun _ _ _=>rfl,fun _ _=>rfl,Nat.le_refl _⟩
 have hl:=hO.len
 rw [List.length_map] at hl
 refine ⟨g',rfl,⟨hb.le.trans hle,hb.os,hb.tape,hb.output,fun c hc h0=>?_⟩,[_],.inr ⟨b,cap,cur,rfl,fun _=>.inr rfl,hO.heap,hl,hO.max,hO.sz,fun i x hx=>dk.mono hle (hO.known i x (by rw [List.getElem?_map,hx];rfl))⟩,rfl⟩
 obtain ⟨k1,k2,k3⟩:=hb.same c hc h0
 refine ⟨k1,?_,k3⟩
 have hcb:c ≠ b:=fun h=>by rw [h,hO.own] at k3;omega
 funext o
 show (g.pr c o ∨ c=b)=_
 rw [← k2];simp [hcb]
theorem Ziq {fn:Func} {r:ResultVar} {v:Value} {xs:List α} {a:Act} {g g0:G} {L:Zu} (hr:fn.results=#[r]) (h:St N L a g) (hb:Base g0 g) (h1:Zfb P a g r v) (hq:(pOwn dk e j c (xs.map some)).p g v):bodyPost P fn (FinP (Zo7 g0 ((dk.slS e).pd xs))) .ret a g.w:=by
 obtain ⟨b,cap,cur,e1,hO,_⟩:=hq
 obtain ⟨g',hw,hB,hp⟩:=Zwh hb hO
 refine ⟨h.df,v,?_,g',v,rfl,hw.symm,hB,by rw [e1,List.length_map];exact hp⟩
 have h1':(Ze1 a.tmps r).run P g.w=.ok v g.w:=h1
 simp [Zgk,hr,h1']
theorem Ztg {f:FuncId} {A:List Pd} {xs:List α} (h:Zk7 P f A dk e xs):FnOk P f A ((dk.slS e).pd xs):=by
 intro g args ha
 refine Calls.mono (h g args ha) ?_
 rintro en w' ⟨g',v,rfl,rfl,hS,hA⟩
 rcases hA with ⟨rfl,A0,rfl⟩ | ⟨b,cap,cur,rfl,hD,h1,h2,h3,h4,h5,h6,h7⟩
 · let g2:G:=⟨g'.w,g'.pr,fun b=>if b < g.w.heap.size then g.own b else 0,g'.hpr,g'.gl⟩
   refine ⟨g2,_,rfl,rfl,⟨⟨hS.le.size,hS.le.pr,hS.le.cell,hS.le.blk,hS.le.dr⟩,hS.os,hS.tape,hS.output,fun c hc _=>⟨(hS.same c hc id).1,(hS.same c hc id).2,if_pos hc⟩,fun c hc _=>.inl (if_neg (by omega)),fun c _ h=>by cases h⟩,[_],.inl ⟨rfl,A0,rfl⟩,rfl⟩
 · let g2:G:=⟨g'.w,fun b' o=>g'.pr b' o ∨ b'=b,fun b=>if b < g.w.heap.size then g.own b else 0,fun b' o h=>h.elim (g'.hpr b' o) (fun h=>by rw [h];exact h1),g'.gl.le (fun _ _ h=>.inl h) (fun _ _ _=>rfl)⟩
   have hle:g'.le g2:=⟨Nat.le_refl _,fun _ _ h=>.inl h,fun _ _ _=>rfl,fun _ _=>rfl,Nat.le_refl _⟩
   have hlt:g.w.heap.size ≤ b:=hD
   refine ⟨g2,_,rfl,rfl,⟨⟨hS.le.size,fun b o h=>.inl (hS.le.pr b o h),hS.le.cell,hS.le.blk,hS.le.dr⟩,hS.os,hS.tape,hS.output,fun c hc _=>⟨(hS.same c hc id).1,?_,if_pos hc⟩,fun c hc _=>.inl (if_neg (by omega)),fun c _ h=>by cases h⟩,[_],.inr ⟨b,cap,cur,rfl,fun _=>.inr rfl,h2,h3,h4,h5,fun i x hx=>dk.mono hle (h6 i x hx)⟩,rfl⟩
   funext o
   show (g'.pr c o ∨ c=b)=_
   rw [← (hS.same c hc id).2]
   have:c ≠ b:=by omega
   simp [this]
theorem Zuf {xs r:List α} {h:Int} {kk:IntKind} (ht:P.underlying t=some (.slice e)) (hs:(P.info? e).map (·.size)=some dk.sz) (hop:o.op=.slice t x none (some z) none) (hd:o.dst=some d) (hx:Opd uses x ((dk.slS e).pd xs)) (hz:Opd uses z (pInt kk h)) (hc:cut xs 0 h=some r):OB P N o uses [(d,(dk.slS e).pd r)] [] :=
 Zbg hd fun a g hh=>by
   have hc':0 ≤ h ∧ h.toNat ≤ xs.length ∧ r=xs.take h.toNat:=by
     unfold cut at hc
     split at hc
     · rename_i hq
       refine ⟨by omega,by omega,?_⟩
       have:=(Option.some.inj hc).symm
       simpa using this
     · cases hc
   obtain ⟨h0,hle,rfl⟩:=hc'
   obtain ⟨n,rfl⟩:=Int.eq_ofNat_of_zero_le h0
   have hzv:=Zb1.1 (hz a g hh)
   have hn:n ≤ xs.length:=by simpa using hle
   obtain ⟨cs,hk,hv⟩:=hx a g hh
   rcases hk with ⟨rfl,A,rfl⟩ | ⟨b,cap,cur,rfl,h1,h2,h3,h4,h5,h6⟩
   · have hn0:n=0:=by simpa using hn
     subst hn0
     have hv':a.eval x=.slice A 0 0:=hv
     have hb:∀ w cd,(Instr.sliceBound (a.eval z) 0 cd).run P w=.ok 0 w:=fun w cd=>by rw [hzv];simp [Instr.sliceBound,asIntOf]
     refine ⟨.slice A 0 0,?_,[_],.inl ⟨by simp,A,rfl⟩,rfl⟩
     cases A <;> simp [execOp,hop,hv',Instr.sliceAt,Instr.slice,Instr.sliceBounds,run_underlying ht,hb,Zdk hs,Zbw]
   · have hv':a.eval x=.slice (some ⟨b,0,none⟩) xs.length cap:=hv
     have hb:∀ w cd,(Instr.sliceBound (a.eval z) cap cd).run P w=.ok n w:=fun w cd=>by
       have:n ≤ cap:=by omega
       rw [hzv];simp [Instr.sliceBound,asIntOf,this]
     refine ⟨.slice (some ⟨b,0,none⟩) n cap,?_,[_],.inr ⟨b,cap,cur,by simp [Nat.min_eq_left hn],h1,h2,by simp;omega,h4,h5,fun i u hu=>?_⟩,rfl⟩
     · simp [execOp,hop,hv',Instr.sliceAt,Instr.slice,Instr.sliceBounds,run_underlying ht,hb,Zdk hs,Zbw]
       try (split <;> simp_all [Zbw])
     · simp only [Int.toNat_natCast,List.getElem?_take] at hu
       split at hu
       · exact h6 i u hu
       · cases hu
theorem Zr9 {s:Nat} {v v':α} (hsz:k'.sz=k.sz) (hT:Ty P t k') (hop:o.op=.store t (.tmp s) y) (hd:o.dst=none) (hx:Opd uses (.tmp s) (Z9 c k j v)) (hy:Opd uses y (k'.pd v')):OB P N o uses [(s,Z9 c k' j v')] [j + 1] :=
 Zhx hd fun a g hh=>by
   obtain ⟨b,cs,t',hv,hm,hcb⟩:=hx a g hh
   obtain ⟨ys,hk,hw⟩:=hy a g hh
   have hl:ys.length=cs.length:=((k'.len hk).trans hsz).trans (k.len hm.2.2.2.2.1).symm
   have hst:=Zcx (off:=0) hT hm.2.2.2.1 hk (by simp [hl])
   have hv':Act.at a s=.pointer (some ⟨b,0,none⟩):=hv
   have hS:Step [j + 1] g (g.wr b ys.toArray hm.1 hm.2.2.2.2.2 (fun _=>False) (j + 1)):=Zf6 hm.2.1 (.inr rfl) hm.2.2.2.2.2
   refine ⟨g.wr b ys.toArray hm.1 hm.2.2.2.2.2 (fun _=>False) (j + 1),?_,hS,?_⟩
   · simp only [Nat.zero_add,List.take_zero,List.nil_append] at hst
     rw [List.drop_of_length_le (by simp [hl]),List.append_nil] at hst
     simp [execOp,hop,hv,hw,Instr.storeAt,Instr.sureAddr,hst,wr_w]
   · intro en he
     rw [List.mem_singleton.1 he]
     refine ⟨b,ys,t',hv',⟨by rw [wr_w,Zbs];exact hm.1,by simp [G.wr],fun b' hb' ho=>?_,by rw [wr_w];exact setRow_heap _ _ _ _ _ _ hm.2.2.2.1,k'.mono hS.le hk,fun o=>by simp [G.wr]⟩,hcb⟩
     rw [wr_w,Zbs] at hb'
     simp only [G.wr] at ho
     split at ho
     · assumption
     · exact hm.2.2.1 b' hb' ho
theorem Zrn {γ : Type} {di di' : Kd γ} {s off : Nat} {v v' v0 : α} {y0 y' : γ} (hsz : k'.sz = dk.sz) (hT : Ty P t di') (hop : o.op = .store t x z) (hd : o.dst = none) (hs : Opd uses (.tmp s) (Z9 c dk j v)) (hx : Opd uses x (Zhl dk j v0 off di y0)) (hz : Opd uses z (di'.pd y'))
   (hw:∀ g cs ys,dk.K g v cs → di'.K g y' ys → off + ys.length ≤ cs.length ∧ k'.K g v' (Z0 cs off ys)):OB P N o uses [(s,Z9 c k' j v')] [j + 1] :=
 Zhx hd fun a g hh=>by
   obtain ⟨b,cs,t1,hv,hm,hcb⟩:=hs a g hh
   obtain ⟨b2,cs2,t2,hv2,hm2,_⟩:=hx a g hh
   obtain ⟨ys,hk,hw2⟩:=hz a g hh
   have hb:b2=b:=hm.2.2.1 b2 hm2.1 hm2.2.1
   subst hb
   obtain ⟨hfit,hK⟩:=hw g cs ys hm.2.2.2.2.1 hk
   have hst:=Zcx (off:=off) hT hm.2.2.2.1 hk (by simpa using hfit)
   have hv':Act.at a s=.pointer (some ⟨b2,0,none⟩):=hv
   have hS:Step [j + 1] g (g.wr b2 (Z0 cs off ys).toArray hm.1 hm.2.2.2.2.2 (fun _=>False) (j + 1)):=Zf6 hm.2.1 (.inr rfl) hm.2.2.2.2.2
   refine ⟨g.wr b2 (Z0 cs off ys).toArray hm.1 hm.2.2.2.2.2 (fun _=>False) (j + 1),?_,hS,?_⟩
   · simp [execOp,hop,hv2,hw2,Instr.storeAt,Instr.sureAddr,hst,wr_w,Z0]
   · intro en he
     rw [List.mem_singleton.1 he]
     refine ⟨b2,_,t1,hv',⟨by rw [wr_w,Zbs];exact hm.1,by simp [G.wr],fun b' hb' ho=>?_,by rw [wr_w];exact setRow_heap _ _ _ _ _ _ hm.2.2.2.1,k'.mono hS.le hK,fun o=>by simp [G.wr]⟩,hcb⟩
     rw [wr_w,Zbs] at hb'
     simp only [G.wr] at ho
     split at ho
     · assumption
     · exact hm.2.2.1 b' hb' ho
end
end Go.CL
-- written by ownrule.py,a program of this session
namespace Go.CL
open Go Go.RowKit Go.Proofs
def Znb:List (Kd.FK Za):=[⟨_,(Kd.int .i64),0,fun x:Za=>x.Kind⟩,
 ⟨_,(Kd.int .i64),1,fun x:Za=>x.Num⟩,
 ⟨_,(Kd.int .i64),2,fun x:Za=>x.Low⟩,
 ⟨_,(Kd.int .i64),3,fun x:Za=>x.High⟩,
 ⟨_,Kd.flt,4,fun x:Za=>x.Real⟩,
 ⟨_,(Kd.int .i64),5,fun x:Za=>x.Cap⟩,
 ⟨_,Kd.str,6,fun x:Za=>x.Text⟩,
 ⟨_,(Zj.slS 37),7,fun x:Za=>x.List⟩]
def Ze:Kd Za:=Kd.struct 8 Znb (by rfl)
theorem Zdb:∀ g,Ze.K g (default:Za) [.int .i64 0,.int .i64 0,.int .i64 0,.int .i64 0,.float .f64 0,.int .i64 0,.string ByteArray.empty,.slice none 0 0]:=fun g=>⟨rfl,(Qc.2 ⟨(rfl),(Qc.2 ⟨(rfl),(Qc.2 ⟨(rfl),(Qc.2 ⟨(rfl),(Qc.2 ⟨(rfl),(Qc.2 ⟨(rfl),(Qc.2 ⟨(rfl),(Qc.2 ⟨(.inl ⟨rfl,none,rfl⟩),(fun _ h=>by cases h)⟩)⟩)⟩)⟩)⟩)⟩)⟩)⟩)⟩
def Znd:List (Kd.FK Zd):=[⟨_,(Kd.int .i64),0,fun x:Zd=>x.Code⟩,
 ⟨_,(Kd.int .i64),1,fun x:Zd=>x.Num⟩,
 ⟨_,Ze,2,fun x:Zd=>x.Rec⟩]
def Zn:Kd Zd:=Kd.struct 10 Znd (by rfl)
theorem Zhv:∀ g,Zn.K g (default:Zd) [.int .i64 0,.int .i64 0,.int .i64 0,.int .i64 0,.int .i64 0,.int .i64 0,.float .f64 0,.int .i64 0,.string ByteArray.empty,.slice none 0 0]:=fun g=>⟨rfl,(Qc.2 ⟨(rfl),(Qc.2 ⟨(rfl),(Qc.2 ⟨(Zdb _),(fun _ h=>by cases h)⟩)⟩)⟩)⟩
theorem Zdh:Fld Tryd.prog 25 7 Ze (Zj.slS 37) (fun x:Za=>x.List):=Fld.of ⟨_,(Zj.slS 37),7,fun x:Za=>x.List⟩ (List.mem_of_getElem? (i:=7) rfl) 7 rfl (by kernel_rfl) (by decide)
theorem Zer:Ty Tryd.prog 23 (Zj.slS 37):=⟨by kernel_rfl,by kernel_rfl⟩
theorem Zl0 {c:Option Nat} {N j s:Nat} {o:Oper} {uses:Zu} {x z:Operand} {v:Za} {y0 y:List Zc} {v0:Za} {t:Nat} (hT:Ty Tryd.prog t (Zj.slS 37)) (hop:o.op=.store t x z) (hd:o.dst=none) (hs:Opd uses (.tmp s) (Z9 c Ze j v)) (hx:Opd uses x (Zhl Ze j v0 7 (Zj.slS 37) y0)) (hz:Opd uses z ((Zj.slS 37).pd y)):OB Tryd.prog N o uses [(s,Z9 c Ze j { v with List:=y })] [j + 1] :=
 Zie hT hop hd hs hx hz fun g cs ys hk hy=>by
  have hc:cs.length=8:=hk.1
  have hl:ys.length=1:=(Zj.slS 37).len hy
  exact ⟨by omega,(Zdn (by omega)).trans hc,(Qc.2 ⟨(by show (Kd.int .i64).K g v.Kind (seg (Z0 cs 7 ys) 0 1);rw [Zt (by omega) (by omega)];exact hk.2 _ (List.mem_of_getElem? (i:=0) rfl)),(Qc.2 ⟨(by show (Kd.int .i64).K g v.Num (seg (Z0 cs 7 ys) 1 1);rw [Zt (by omega) (by omega)];exact hk.2 _ (List.mem_of_getElem? (i:=1) rfl)),(Qc.2 ⟨(by show (Kd.int .i64).K g v.Low (seg (Z0 cs 7 ys) 2 1);rw [Zt (by omega) (by omega)];exact hk.2 _ (List.mem_of_getElem? (i:=2) rfl)),(Qc.2 ⟨(by show (Kd.int .i64).K g v.High (seg (Z0 cs 7 ys) 3 1);rw [Zt (by omega) (by omega)];exact hk.2 _ (List.mem_of_getElem? (i:=3) rfl)),(Qc.2 ⟨(by show Kd.flt.K g v.Real (seg (Z0 cs 7 ys) 4 1);rw [Zt (by omega) (by omega)];exact hk.2 _ (List.mem_of_getElem? (i:=4) rfl)),(Qc.2 ⟨(by show (Kd.int .i64).K g v.Cap (seg (Z0 cs 7 ys) 5 1);rw [Zt (by omega) (by omega)];exact hk.2 _ (List.mem_of_getElem? (i:=5) rfl)),(Qc.2 ⟨(by show Kd.str.K g v.Text (seg (Z0 cs 7 ys) 6 1);rw [Zt (by omega) (by omega)];exact hk.2 _ (List.mem_of_getElem? (i:=6) rfl)),(Qc.2 ⟨(by show (Zj.slS 37).K g y (seg (Z0 cs 7 ys) 7 1);rw [Zd6 (by omega) hl];exact hy),(fun _ h=>by cases h)⟩)⟩)⟩)⟩)⟩)⟩)⟩)⟩)⟩
theorem Zbp:Ty Tryd.prog 25 Ze:=⟨by kernel_rfl,by kernel_rfl⟩
theorem Zo5:Fld Tryd.prog 25 6 Ze Kd.str (fun x:Za=>x.Text):=Fld.of ⟨_,Kd.str,6,fun x:Za=>x.Text⟩ (List.mem_of_getElem? (i:=6) rfl) 6 rfl (by kernel_rfl) (by decide)
theorem Zdr:Fld Tryd.prog 25 1 Ze (Kd.int .i64) (fun x:Za=>x.Num):=Fld.of ⟨_,(Kd.int .i64),1,fun x:Za=>x.Num⟩ (List.mem_of_getElem? (i:=1) rfl) 1 rfl (by kernel_rfl) (by decide)
theorem Zuj:Fld Tryd.prog 25 2 Ze (Kd.int .i64) (fun x:Za=>x.Low):=Fld.of ⟨_,(Kd.int .i64),2,fun x:Za=>x.Low⟩ (List.mem_of_getElem? (i:=2) rfl) 2 rfl (by kernel_rfl) (by decide)
theorem Zt4:Fld Tryd.prog 25 3 Ze (Kd.int .i64) (fun x:Za=>x.High):=Fld.of ⟨_,(Kd.int .i64),3,fun x:Za=>x.High⟩ (List.mem_of_getElem? (i:=3) rfl) 3 rfl (by kernel_rfl) (by decide)
theorem Zou:Fld Tryd.prog 25 4 Ze Kd.flt (fun x:Za=>x.Real):=Fld.of ⟨_,Kd.flt,4,fun x:Za=>x.Real⟩ (List.mem_of_getElem? (i:=4) rfl) 4 rfl (by kernel_rfl) (by decide)
theorem Zo8:Fld Tryd.prog 25 5 Ze (Kd.int .i64) (fun x:Za=>x.Cap):=Fld.of ⟨_,(Kd.int .i64),5,fun x:Za=>x.Cap⟩ (List.mem_of_getElem? (i:=5) rfl) 5 rfl (by kernel_rfl) (by decide)
theorem Zot:Fld Tryd.prog 25 0 Ze (Kd.int .i64) (fun x:Za=>x.Kind):=Fld.of ⟨_,(Kd.int .i64),0,fun x:Za=>x.Kind⟩ (List.mem_of_getElem? (i:=0) rfl) 0 rfl (by kernel_rfl) (by decide)
theorem Zv3 {N d:Nat} {o:Oper} {uses:Zu}   (hop:o.op=.build 25 #[]) (hd:o.dst=some d) :OB Tryd.prog N o uses [(d,Ze.pd { Kind:=(0:Int),Num:=(0:Int),Low:=(0:Int),High:=(0:Int),Real:=(0:Nat),Cap:=(0:Int),Text:=ByteArray.empty,List:=([]:List Zc) })] []:=by
 refine Zcf hop hd fun a g hh=>?_
 refine ⟨.agg #[.int .i64 0,.int .i64 0,.int .i64 0,.int .i64 0,.float .f64 0,.int .i64 0,.string ByteArray.empty,.slice none 0 0],?_,[.int .i64 0,.int .i64 0,.int .i64 0,.int .i64 0,.float .f64 0,.int .i64 0,.string ByteArray.empty,.slice none 0 0],⟨rfl,(Qc.2 ⟨(rfl),(Qc.2 ⟨(rfl),(Qc.2 ⟨(rfl),(Qc.2 ⟨(rfl),(Qc.2 ⟨(rfl),(Qc.2 ⟨(rfl),(Qc.2 ⟨(rfl),(Qc.2 ⟨(.inl ⟨rfl,none,rfl⟩),(fun _ h=>by cases h)⟩)⟩)⟩)⟩)⟩)⟩)⟩)⟩)⟩,rfl⟩
 simp only [List.map_toArray,List.map_cons,List.map_nil,List.map_nil]
 exact Zb6 Tryd.underlying25 (zero:=.agg #[.int .i64 0,.int .i64 0,.int .i64 0,.int .i64 0,.float .f64 0,.int .i64 0,.string ByteArray.empty,.slice none 0 0]) (by kernel_rfl) (places:=[(0,1),(1,1),(2,1),(3,1),(4,1),(5,1),(6,1),(7,1)]) (by kernel_rfl) (by kernel_rfl) g.w
theorem Zpb {c:Option Nat} {N j s:Nat} {o:Oper} {uses:Zu} {x z:Operand} {v:Za} {y0 y:ByteArray} {v0:Za} {t:Nat} (hT:Ty Tryd.prog t Kd.str) (hop:o.op=.store t x z) (hd:o.dst=none) (hs:Opd uses (.tmp s) (Z9 c Ze j v)) (hx:Opd uses x (Zhl Ze j v0 6 Kd.str y0)) (hz:Opd uses z (Kd.str.pd y)):OB Tryd.prog N o uses [(s,Z9 c Ze j { v with Text:=y })] [j + 1] :=
 Zie hT hop hd hs hx hz fun g cs ys hk hy=>by
  have hc:cs.length=8:=hk.1
  have hl:ys.length=1:=Kd.str.len hy
  exact ⟨by omega,(Zdn (by omega)).trans hc,(Qc.2 ⟨(by show (Kd.int .i64).K g v.Kind (seg (Z0 cs 6 ys) 0 1);rw [Zt (by omega) (by omega)];exact hk.2 _ (List.mem_of_getElem? (i:=0) rfl)),(Qc.2 ⟨(by show (Kd.int .i64).K g v.Num (seg (Z0 cs 6 ys) 1 1);rw [Zt (by omega) (by omega)];exact hk.2 _ (List.mem_of_getElem? (i:=1) rfl)),(Qc.2 ⟨(by show (Kd.int .i64).K g v.Low (seg (Z0 cs 6 ys) 2 1);rw [Zt (by omega) (by omega)];exact hk.2 _ (List.mem_of_getElem? (i:=2) rfl)),(Qc.2 ⟨(by show (Kd.int .i64).K g v.High (seg (Z0 cs 6 ys) 3 1);rw [Zt (by omega) (by omega)];exact hk.2 _ (List.mem_of_getElem? (i:=3) rfl)),(Qc.2 ⟨(by show Kd.flt.K g v.Real (seg (Z0 cs 6 ys) 4 1);rw [Zt (by omega) (by omega)];exact hk.2 _ (List.mem_of_getElem? (i:=4) rfl)),(Qc.2 ⟨(by show (Kd.int .i64).K g v.Cap (seg (Z0 cs 6 ys) 5 1);rw [Zt (by omega) (by omega)];exact hk.2 _ (List.mem_of_getElem? (i:=5) rfl)),(Qc.2 ⟨(by show Kd.str.K g y (seg (Z0 cs 6 ys) 6 1);rw [Zd6 (by omega) hl];exact hy),(Qc.2 ⟨(by show (Zj.slS 37).K g v.List (seg (Z0 cs 6 ys) 7 1);rw [Zt (by omega) (by omega)];exact hk.2 _ (List.mem_of_getElem? (i:=7) rfl)),(fun _ h=>by cases h)⟩)⟩)⟩)⟩)⟩)⟩)⟩)⟩)⟩
theorem Ztn:Fld Tryd.prog 33 2 Zn Ze (fun x:Zd=>x.Rec):=Fld.of ⟨_,Ze,2,fun x:Zd=>x.Rec⟩ (List.mem_of_getElem? (i:=2) rfl) 2 rfl (by kernel_rfl) (by decide)
theorem Ztl {c:Option Nat} {N j s:Nat} {o:Oper} {uses:Zu} {x z:Operand} {v:Zd} {y0 y:Za} {v0:Zd} {t:Nat} (hT:Ty Tryd.prog t Ze) (hop:o.op=.store t x z) (hd:o.dst=none) (hs:Opd uses (.tmp s) (Z9 c Zn j v)) (hx:Opd uses x (Zhl Zn j v0 2 Ze y0)) (hz:Opd uses z (Ze.pd y)):OB Tryd.prog N o uses [(s,Z9 c Zn j { v with Rec:=y })] [j + 1] :=
 Zie hT hop hd hs hx hz fun g cs ys hk hy=>by
  have hc:cs.length=10:=hk.1
  have hl:ys.length=8:=Ze.len hy
  exact ⟨by omega,(Zdn (by omega)).trans hc,(Qc.2 ⟨(by show (Kd.int .i64).K g v.Code (seg (Z0 cs 2 ys) 0 1);rw [Zt (by omega) (by omega)];exact hk.2 _ (List.mem_of_getElem? (i:=0) rfl)),(Qc.2 ⟨(by show (Kd.int .i64).K g v.Num (seg (Z0 cs 2 ys) 1 1);rw [Zt (by omega) (by omega)];exact hk.2 _ (List.mem_of_getElem? (i:=1) rfl)),(Qc.2 ⟨(by show Ze.K g y (seg (Z0 cs 2 ys) 2 8);rw [Zd6 (by omega) hl];exact hy),(fun _ h=>by cases h)⟩)⟩)⟩)⟩
theorem Zjz {c:Option Nat} {N j s:Nat} {o:Oper} {uses:Zu} {x z:Operand} {v:Za} {y0 y:Int} {v0:Za} {t:Nat} (hT:Ty Tryd.prog t (Kd.int .i64)) (hop:o.op=.store t x z) (hd:o.dst=none) (hs:Opd uses (.tmp s) (Z9 c Ze j v)) (hx:Opd uses x (Zhl Ze j v0 1 (Kd.int .i64) y0)) (hz:Opd uses z ((Kd.int .i64).pd y)):OB Tryd.prog N o uses [(s,Z9 c Ze j { v with Num:=y })] [j + 1] :=
 Zie hT hop hd hs hx hz fun g cs ys hk hy=>by
  have hc:cs.length=8:=hk.1
  have hl:ys.length=1:=(Kd.int .i64).len hy
  exact ⟨by omega,(Zdn (by omega)).trans hc,(Qc.2 ⟨(by show (Kd.int .i64).K g v.Kind (seg (Z0 cs 1 ys) 0 1);rw [Zt (by omega) (by omega)];exact hk.2 _ (List.mem_of_getElem? (i:=0) rfl)),(Qc.2 ⟨(by show (Kd.int .i64).K g y (seg (Z0 cs 1 ys) 1 1);rw [Zd6 (by omega) hl];exact hy),(Qc.2 ⟨(by show (Kd.int .i64).K g v.Low (seg (Z0 cs 1 ys) 2 1);rw [Zt (by omega) (by omega)];exact hk.2 _ (List.mem_of_getElem? (i:=2) rfl)),(Qc.2 ⟨(by show (Kd.int .i64).K g v.High (seg (Z0 cs 1 ys) 3 1);rw [Zt (by omega) (by omega)];exact hk.2 _ (List.mem_of_getElem? (i:=3) rfl)),(Qc.2 ⟨(by show Kd.flt.K g v.Real (seg (Z0 cs 1 ys) 4 1);rw [Zt (by omega) (by omega)];exact hk.2 _ (List.mem_of_getElem? (i:=4) rfl)),(Qc.2 ⟨(by show (Kd.int .i64).K g v.Cap (seg (Z0 cs 1 ys) 5 1);rw [Zt (by omega) (by omega)];exact hk.2 _ (List.mem_of_getElem? (i:=5) rfl)),(Qc.2 ⟨(by show Kd.str.K g v.Text (seg (Z0 cs 1 ys) 6 1);rw [Zt (by omega) (by omega)];exact hk.2 _ (List.mem_of_getElem? (i:=6) rfl)),(Qc.2 ⟨(by show (Zj.slS 37).K g v.List (seg (Z0 cs 1 ys) 7 1);rw [Zt (by omega) (by omega)];exact hk.2 _ (List.mem_of_getElem? (i:=7) rfl)),(fun _ h=>by cases h)⟩)⟩)⟩)⟩)⟩)⟩)⟩)⟩)⟩
theorem Zt9 {c:Option Nat} {N j s:Nat} {o:Oper} {uses:Zu} {x z:Operand} {v:Za} {y0 y:Nat} {v0:Za} {t:Nat} (hT:Ty Tryd.prog t Kd.flt) (hop:o.op=.store t x z) (hd:o.dst=none) (hs:Opd uses (.tmp s) (Z9 c Ze j v)) (hx:Opd uses x (Zhl Ze j v0 4 Kd.flt y0)) (hz:Opd uses z (Kd.flt.pd y)):OB Tryd.prog N o uses [(s,Z9 c Ze j { v with Real:=y })] [j + 1] :=
 Zie hT hop hd hs hx hz fun g cs ys hk hy=>by
  have hc:cs.length=8:=hk.1
  have hl:ys.length=1:=Kd.flt.len hy
  exact ⟨by omega,(Zdn (by omega)).trans hc,(Qc.2 ⟨(by show (Kd.int .i64).K g v.Kind (seg (Z0 cs 4 ys) 0 1);rw [Zt (by omega) (by omega)];exact hk.2 _ (List.mem_of_getElem? (i:=0) rfl)),(Qc.2 ⟨(by show (Kd.int .i64).K g v.Num (seg (Z0 cs 4 ys) 1 1);rw [Zt (by omega) (by omega)];exact hk.2 _ (List.mem_of_getElem? (i:=1) rfl)),(Qc.2 ⟨(by show (Kd.int .i64).K g v.Low (seg (Z0 cs 4 ys) 2 1);rw [Zt (by omega) (by omega)];exact hk.2 _ (List.mem_of_getElem? (i:=2) rfl)),(Qc.2 ⟨(by show (Kd.int .i64).K g v.High (seg (Z0 cs 4 ys) 3 1);rw [Zt (by omega) (by omega)];exact hk.2 _ (List.mem_of_getElem? (i:=3) rfl)),(Qc.2 ⟨(by show Kd.flt.K g y (seg (Z0 cs 4 ys) 4 1);rw [Zd6 (by omega) hl];exact hy),(Qc.2 ⟨(by show (Kd.int .i64).K g v.Cap (seg (Z0 cs 4 ys) 5 1);rw [Zt (by omega) (by omega)];exact hk.2 _ (List.mem_of_getElem? (i:=5) rfl)),(Qc.2 ⟨(by show Kd.str.K g v.Text (seg (Z0 cs 4 ys) 6 1);rw [Zt (by omega) (by omega)];exact hk.2 _ (List.mem_of_getElem? (i:=6) rfl)),(Qc.2 ⟨(by show (Zj.slS 37).K g v.List (seg (Z0 cs 4 ys) 7 1);rw [Zt (by omega) (by omega)];exact hk.2 _ (List.mem_of_getElem? (i:=7) rfl)),(fun _ h=>by cases h)⟩)⟩)⟩)⟩)⟩)⟩)⟩)⟩)⟩
theorem Zpk {N d:Nat} {o:Oper} {uses:Zu} {x0:Operand} {v0:Int} (hop:o.op=.build 33 #[(0,x0)]) (hd:o.dst=some d) (h0:Opd uses x0 ((Kd.int .i64).pd v0)):OB Tryd.prog N o uses [(d,Zn.pd { Code:=v0,Num:=(0:Int),Rec:=(default:Za) })] []:=by
 refine Zcf hop hd fun a g hh=>?_
 obtain ⟨c0,k0,e0⟩:=h0 a g hh
 obtain rfl:=k0
 refine ⟨.agg #[.int .i64 v0,.int .i64 0,.int .i64 0,.int .i64 0,.int .i64 0,.int .i64 0,.float .f64 0,.int .i64 0,.string ByteArray.empty,.slice none 0 0],?_,[.int .i64 v0,.int .i64 0,.int .i64 0,.int .i64 0,.int .i64 0,.int .i64 0,.float .f64 0,.int .i64 0,.string ByteArray.empty,.slice none 0 0],⟨rfl,(Qc.2 ⟨rfl,(Qc.2 ⟨(rfl),(Qc.2 ⟨(Zdb _),(fun _ h=>by cases h)⟩)⟩)⟩)⟩,rfl⟩
 simp only [List.map_toArray,List.map_cons,List.map_nil,e0]
 exact Zb6 Tryd.underlying33 (zero:=.agg #[.int .i64 0,.int .i64 0,.int .i64 0,.int .i64 0,.int .i64 0,.int .i64 0,.float .f64 0,.int .i64 0,.string ByteArray.empty,.slice none 0 0]) (by kernel_rfl) (places:=[(0,1),(1,1),(2,8)]) (by kernel_rfl) (by kernel_rfl) g.w
theorem Zcj:Ty Tryd.prog 33 Zn:=⟨by kernel_rfl,by kernel_rfl⟩
theorem Zqi {N d:Nat} {o:Oper} {uses:Zu}   (hop:o.op=.build 33 #[]) (hd:o.dst=some d) :OB Tryd.prog N o uses [(d,Zn.pd { Code:=(0:Int),Num:=(0:Int),Rec:=(default:Za) })] []:=by
 refine Zcf hop hd fun a g hh=>?_
 refine ⟨.agg #[.int .i64 0,.int .i64 0,.int .i64 0,.int .i64 0,.int .i64 0,.int .i64 0,.float .f64 0,.int .i64 0,.string ByteArray.empty,.slice none 0 0],?_,[.int .i64 0,.int .i64 0,.int .i64 0,.int .i64 0,.int .i64 0,.int .i64 0,.float .f64 0,.int .i64 0,.string ByteArray.empty,.slice none 0 0],⟨rfl,(Qc.2 ⟨(rfl),(Qc.2 ⟨(rfl),(Qc.2 ⟨(Zdb _),(fun _ h=>by cases h)⟩)⟩)⟩)⟩,rfl⟩
 simp only [List.map_toArray,List.map_cons,List.map_nil,List.map_nil]
 exact Zb6 Tryd.underlying33 (zero:=.agg #[.int .i64 0,.int .i64 0,.int .i64 0,.int .i64 0,.int .i64 0,.int .i64 0,.float .f64 0,.int .i64 0,.string ByteArray.empty,.slice none 0 0]) (by kernel_rfl) (places:=[(0,1),(1,1),(2,8)]) (by kernel_rfl) (by kernel_rfl) g.w
theorem Ztx {N d:Nat} {o:Oper} {uses:Zu} {x1:Operand} {v1:Int} (hop:o.op=.build 33 #[(1,x1)]) (hd:o.dst=some d) (h1:Opd uses x1 ((Kd.int .i64).pd v1)):OB Tryd.prog N o uses [(d,Zn.pd { Code:=(0:Int),Num:=v1,Rec:=(default:Za) })] []:=by
 refine Zcf hop hd fun a g hh=>?_
 obtain ⟨c1,k1,e1⟩:=h1 a g hh
 obtain rfl:=k1
 refine ⟨.agg #[.int .i64 0,.int .i64 v1,.int .i64 0,.int .i64 0,.int .i64 0,.int .i64 0,.float .f64 0,.int .i64 0,.string ByteArray.empty,.slice none 0 0],?_,[.int .i64 0,.int .i64 v1,.int .i64 0,.int .i64 0,.int .i64 0,.int .i64 0,.float .f64 0,.int .i64 0,.string ByteArray.empty,.slice none 0 0],⟨rfl,(Qc.2 ⟨(rfl),(Qc.2 ⟨rfl,(Qc.2 ⟨(Zdb _),(fun _ h=>by cases h)⟩)⟩)⟩)⟩,rfl⟩
 simp only [List.map_toArray,List.map_cons,List.map_nil,e1]
 exact Zb6 Tryd.underlying33 (zero:=.agg #[.int .i64 0,.int .i64 0,.int .i64 0,.int .i64 0,.int .i64 0,.int .i64 0,.float .f64 0,.int .i64 0,.string ByteArray.empty,.slice none 0 0]) (by kernel_rfl) (places:=[(0,1),(1,1),(2,8)]) (by kernel_rfl) (by kernel_rfl) g.w
theorem Zug {N d:Nat} {o:Oper} {uses:Zu} {x2:Operand} {v2:Za} (hop:o.op=.build 33 #[(2,x2)]) (hd:o.dst=some d) (h2:Opd uses x2 (Ze.pd v2)):OB Tryd.prog N o uses [(d,Zn.pd { Code:=(0:Int),Num:=(0:Int),Rec:=v2 })] []:=by
 refine Zcf hop hd fun a g hh=>?_
 obtain ⟨c2,k2,e2⟩:=h2 a g hh
 obtain ⟨u2_0,u2_1,u2_2,u2_3,u2_4,u2_5,u2_6,u2_7,rfl⟩:=Zvn (Ze.len k2)
 refine ⟨.agg #[.int .i64 0,.int .i64 0,u2_0,u2_1,u2_2,u2_3,u2_4,u2_5,u2_6,u2_7],?_,[.int .i64 0,.int .i64 0,u2_0,u2_1,u2_2,u2_3,u2_4,u2_5,u2_6,u2_7],⟨rfl,(Qc.2 ⟨(rfl),(Qc.2 ⟨(rfl),(Qc.2 ⟨k2,(fun _ h=>by cases h)⟩)⟩)⟩)⟩,rfl⟩
 simp only [List.map_toArray,List.map_cons,List.map_nil,e2]
 exact Zb6 Tryd.underlying33 (zero:=.agg #[.int .i64 0,.int .i64 0,.int .i64 0,.int .i64 0,.int .i64 0,.int .i64 0,.float .f64 0,.int .i64 0,.string ByteArray.empty,.slice none 0 0]) (by kernel_rfl) (places:=[(0,1),(1,1),(2,8)]) (by kernel_rfl) (by kernel_rfl) g.w
theorem Zeb:Ze.Wk Zf:=⟨rfl,fun g x cs h=>⟨h.1,(Qc.2 ⟨(h.2 _ (List.mem_of_getElem? (i:=0) rfl)),(Qc.2 ⟨(h.2 _ (List.mem_of_getElem? (i:=1) rfl)),(Qc.2 ⟨(h.2 _ (List.mem_of_getElem? (i:=2) rfl)),(Qc.2 ⟨(h.2 _ (List.mem_of_getElem? (i:=3) rfl)),(Qc.2 ⟨(h.2 _ (List.mem_of_getElem? (i:=4) rfl)),(Qc.2 ⟨(h.2 _ (List.mem_of_getElem? (i:=5) rfl)),(Qc.2 ⟨(h.2 _ (List.mem_of_getElem? (i:=6) rfl)),(Qc.2 ⟨(Zr2 (h.2 _ (List.mem_of_getElem? (i:=7) rfl))),(fun _ h=>by cases h)⟩)⟩)⟩)⟩)⟩)⟩)⟩)⟩)⟩⟩
theorem Zn6:Zn.Wk Zbi:=⟨rfl,fun g x cs h=>⟨h.1,(Qc.2 ⟨(h.2 _ (List.mem_of_getElem? (i:=0) rfl)),(Qc.2 ⟨(h.2 _ (List.mem_of_getElem? (i:=1) rfl)),(Qc.2 ⟨(Zeb.K _ _ _ (h.2 _ (List.mem_of_getElem? (i:=2) rfl))),(fun _ h=>by cases h)⟩)⟩)⟩)⟩⟩
theorem Zur {c:Option Nat} {N j s:Nat} {o:Oper} {uses:Zu} {x z:Operand} {v:Za} {y0 y:List Zc} {v0:Za} {t:Nat} (hT:Ty Tryd.prog t (Zj.slS 37)) (hop:o.op=.store t x z) (hd:o.dst=none) (hs:Opd uses (.tmp s) (Z9 c Zf j v)) (hx:Opd uses x (Zhl Zf j v0 7 Zj.sl y0)) (hz:Opd uses z ((Zj.slS 37).pd y)):OB Tryd.prog N o uses [(s,Z9 c Ze j { v with List:=y })] [j + 1] :=
 Zrn (dk:=Zf) (di:=(Zj.sl)) rfl hT hop hd hs hx hz fun g cs ys hk hy=>by
  have hc:cs.length=8:=hk.1
  have hl:ys.length=1:=(Zj.slS 37).len hy
  exact ⟨by omega,(Zdn (by omega)).trans hc,(Qc.2 ⟨(by show (Kd.int .i64).K g v.Kind (seg (Z0 cs 7 ys) 0 1);rw [Zt (by omega) (by omega)];exact hk.2 _ (List.mem_of_getElem? (i:=0) rfl)),(Qc.2 ⟨(by show (Kd.int .i64).K g v.Num (seg (Z0 cs 7 ys) 1 1);rw [Zt (by omega) (by omega)];exact hk.2 _ (List.mem_of_getElem? (i:=1) rfl)),(Qc.2 ⟨(by show (Kd.int .i64).K g v.Low (seg (Z0 cs 7 ys) 2 1);rw [Zt (by omega) (by omega)];exact hk.2 _ (List.mem_of_getElem? (i:=2) rfl)),(Qc.2 ⟨(by show (Kd.int .i64).K g v.High (seg (Z0 cs 7 ys) 3 1);rw [Zt (by omega) (by omega)];exact hk.2 _ (List.mem_of_getElem? (i:=3) rfl)),(Qc.2 ⟨(by show Kd.flt.K g v.Real (seg (Z0 cs 7 ys) 4 1);rw [Zt (by omega) (by omega)];exact hk.2 _ (List.mem_of_getElem? (i:=4) rfl)),(Qc.2 ⟨(by show (Kd.int .i64).K g v.Cap (seg (Z0 cs 7 ys) 5 1);rw [Zt (by omega) (by omega)];exact hk.2 _ (List.mem_of_getElem? (i:=5) rfl)),(Qc.2 ⟨(by show Kd.str.K g v.Text (seg (Z0 cs 7 ys) 6 1);rw [Zt (by omega) (by omega)];exact hk.2 _ (List.mem_of_getElem? (i:=6) rfl)),(Qc.2 ⟨(by show (Zj.slS 37).K g y (seg (Z0 cs 7 ys) 7 1);rw [Zd6 (by omega) hl];exact hy),(fun _ h=>by cases h)⟩)⟩)⟩)⟩)⟩)⟩)⟩)⟩)⟩
end Go.CL
namespace Go.CL
open Go Go.RowKit
section
variable {P:Program} {N:Nat} {o:Oper} {uses:Zu} {d:Nat} {q:Pd} {x y z:Operand} {α β:Type} {dk:Kd α} {t e:TypeId} {j jl B n sz k off:Nat}
def Kd.cells (n:Nat):Kd Unit where
 sz:=n
 ag:=true
 K:=fun g _ cs=>cs.length=n ∧ ∀ u ∈ cs,u.oneCell'=true
 len:=fun h=>h.1
 one:=fun h=>h.2
 mono:=fun _ h=>h
 nag:=fun h=>by cases h
def StrL (e:TypeId) (B n:Nat) (g:G) (u:Value):Prop:=∃ A c,u=.slice A n c ∧ (n=0 ∨ ∃ b cur,A=some ⟨b,0,none⟩ ∧ (∀ o,g.pr b o) ∧ g.w.heap[b]?=some (.cells cur e (0,0)) ∧ n * 2 ≤ cur.size ∧ ∀ i,i < n → ∃ s,cur[i * 2 + 1]?=some (.string s) ∧ s.size ≤ B)
def LW (e:TypeId) (jl B n:Nat) (g:G) (u:Value):Prop:=∃ A c,u=.slice A n c ∧ (n=0 ∨ ∃ b cur,A=some ⟨b,0,none⟩ ∧ b < g.w.heap.size ∧ g.own b=jl + 1 ∧ g.w.heap[b]?=some (.cells cur e (0,0)) ∧ (∀ o,¬ g.pr b o) ∧ n * 2 ≤ cur.size ∧ ∀ i,i < n → ∃ s,cur[i * 2 + 1]?=some (.string s) ∧ s.size ≤ B)
theorem LW.st {g g':G} {S:List Nat} {u:Value} (hs:Step S g g') (hj:jl + 1 ∉ S) (h:LW e jl B n g u):LW e jl B n g' u:=by
 obtain ⟨A,c,e1,h⟩:=h
 refine ⟨A,c,e1,h.imp id ?_⟩
 rintro ⟨b,cur,e2,h1,h2,h3,h4,h5,h6⟩
 obtain ⟨k1,k2,k3⟩:=hs.same b h1 (by rw [h2];exact hj)
 exact ⟨b,cur,e2,Nat.lt_of_lt_of_le h1 hs.le.size,k3.trans h2,k1.trans h3,fun o=>by rw [k2];exact h4 o,h5,h6⟩
theorem LW.one {g:G} {u:Value} (h:LW e jl B n g u):u.oneCell'=true:=by
 obtain ⟨A,c,rfl,_⟩:=h;rfl
def pWk (e:TypeId) (sz k jl B n:Nat):Pd:=⟨fun g v=>∃ cs u,(Kd.cells sz).K g () cs ∧ v=.agg cs.toArray ∧ cs[k]?=some u ∧ LW e jl B n g u,[jl + 1],fun s hd ⟨cs,u,h1,h2,h3,h4⟩=>⟨cs,u,h1,h2,h3,h4.st s (hd _ (by simp))⟩⟩
def pWP (e:TypeId) (sz k j jl B n off:Nat):Pd:=⟨fun g v=>∃ b cs t u,v=.pointer (some ⟨b,off,none⟩) ∧ Mine (Kd.cells sz) (j + 1) () g b cs t ∧ cs[k]?=some u ∧ LW e jl B n g u,[j + 1,jl + 1],fun s hd ⟨b,cs,t,u,e1,h1,h2,h3⟩=>⟨b,cs,t,u,e1,h1.st s (hd _ (by simp)) (by omega),h2,h3.st s (hd _ (by simp))⟩⟩
def pLW (e:TypeId) (jl B n:Nat):Pd:=⟨fun g v=>LW e jl B n g v,[jl + 1],fun s hd h=>h.st s (hd _ (by simp))⟩
def pEW (e:TypeId) (jl B i off:Nat):Pd:=⟨fun g v=>∃ b n c,v=.pointer (some ⟨b,i * 2 + off,none⟩) ∧ i < n ∧ LW e jl B n g (.slice (some ⟨b,0,none⟩) n c),[jl + 1],fun s hd ⟨b,n,c,e1,h1,h2⟩=>⟨b,n,c,e1,h1,h2.st s (hd _ (by simp))⟩⟩
def pSB (B:Nat):Pd:=⟨fun _ v=>∃ s,v=.string s ∧ s.size ≤ B,[],fun _ _ h=>h⟩
def G.cut (g:G):G where
 w:=g.w
 pr:=fun b o=>g.pr b o ∧ (g.w.cell? ⟨b,o,none⟩).isSome=true
 own:=g.own
 hpr:=fun b o h=>g.hpr b o h.1
 gl:=fun e he i v hv=>by
   obtain ⟨k1,k2⟩:=g.gl e he i v hv
   exact ⟨⟨k1,by rw [k2];rfl⟩,k2⟩
def Kd.RS (dk:Kd α):Prop:=∀ (g:G) x cs,dk.K g x cs → dk.K g.cut x cs
theorem Cell.rs {g:G} {b o:Nat} {v:Value} (h:Cell g b o v):Cell g.cut b o v:=⟨⟨h.1,by rw [h.2];rfl⟩,h.2⟩
theorem Zyb (h:dk.RS):dk.sl.RS:=by
 rintro g xs cs ⟨A,c,rfl,h1,h2,hr⟩
 refine ⟨A,c,rfl,h1,h2,hr.imp id ?_⟩
 rintro ⟨b,o,e,hr⟩
 exact ⟨b,o,e,fun i x hx=>by obtain ⟨cs,k1,k2⟩:=hr i x hx;exact ⟨cs,h _ _ _ k1,fun j v hv=>(k2 j v hv).rs⟩⟩
theorem Zkq {fs:List (Kd.FK α)} {hc:Kd.cover fs sz=true} (h:∀ f ∈ fs,f.d.RS):(Kd.struct sz fs hc).RS:=fun g x cs hk=>⟨hk.1,fun f hf=>h f hf _ _ _ (hk.2 f hf)⟩
theorem Kd.RS.pd (h:dk.RS) {x:α} {g:G} {v:Value} (hv:(dk.pd x).p g v):(dk.pd x).p g.cut v:=by
 obtain ⟨cs,h1,h2⟩:=hv
 exact ⟨cs,h _ _ _ h1,h2⟩
theorem Zuo {w:World} {b:Nat} {cur:Array Value} {e:TypeId} (h:w.heap[b]?=some (.cells cur e (0,0))):(w.cell? ⟨b,cur.size,none⟩).isSome=false:=by
 simp [World.cell?,h]
theorem Zp9 {f : FuncId} {A : List Pd} {q2 : Pd} {k1 : Kd α} {x1 : α} {k3 : Kd β} {x3 : β} {s1 s3 n1 n3 e1 e3 : Nat} {xo : List Operand} {ty : Array TypeId} (he : Zk P f) (hok : FnOk P f A (pTup [k1.pd x1, q2, k3.pd x3]))
   (hA:∀ (g:G) (vs:List Value),ArgsOk A g vs → ArgsOk A g.cut vs) (hag1:k1.ag=true) (hag3:k3.ag=true)
   (hw1:∀ (g:G) cs,k1.K g x1 cs → (Kd.cells s1).K g () cs ∧ ∃ u,cs[e1]?=some u ∧ StrL e B n1 g u) (hw3:∀ (g:G) cs,k3.K g x3 cs → (Kd.cells s3).K g () cs ∧ ∃ u,cs[e3]?=some u ∧ StrL e B n3 g u)
   (hop:o.op=.call { callee:=.value (.func f),args:=xo.toArray,argTypes:=ty }) (hd:o.dst=some d) (hargs:OpdL uses xo A):OB P N o uses [(d,pTup [pWk e s1 e1 j B n1,pAny,pWk e s3 e3 j B n3])] [j + 1]:=by
 intro a g K Q hN hdN hu hK
 have hr:(execOp a.eval o).run P g.w=.ok (.enter f (xo.map a.eval).toArray) g.w:=by
   simp [execOp,hop,resolve,Act.eval,Deferred.ofValue,invoke,Zgb he]
 unfold Oper.wp
 rw [hr]
 show Calls P f _ g.w _
 refine Calls.mono (hok g.cut _ (hA g _ (hargs.ok hu))) ?_
 rintro en w' ⟨g',v,rfl,rfl,hS,vs,rfl,hl,hv⟩
 have hsame:∀ b,b < g.w.heap.size → g'.w.heap[b]?=g.w.heap[b]? ∧ g'.pr b=g.cut.pr b:=fun b hb=>⟨(hS.same b hb (by simp)).1,(hS.same b hb (by simp)).2.1⟩
 have hsz:g.w.heap.size ≤ g'.w.heap.size:=hS.le.size
 let g2:G:=⟨g'.w,g.pr,fun c=>if c < g.w.heap.size then g.own c else j + 1,fun b o h=>Nat.lt_of_lt_of_le (g.hpr b o h) hsz,g.gl.le (fun _ _ h=>h) fun b o h=>Zfs (hsame b (g.hpr b o h)).1⟩
 have hst:Step [j + 1] g g2:=⟨⟨hsz,fun _ _ h=>h,fun b o h=>Zfs (hsame b (g.hpr b o h)).1,fun b h=>(hsame b (g.hpr b 0 (h 0))).1,hS.le.dr⟩,hS.os,hS.tape,hS.output,
   fun b hb _=>⟨(hsame b hb).1,rfl,if_pos hb⟩,fun b k1 k2=>.inr (by show (if b < _ then _ else _) ∈ _;rw [if_neg (by omega)];simp),fun b hb h=>.inr (by show (if b < _ then _ else _) ∈ _;rw [if_pos hb];exact h)⟩
 have new:∀ {n:Nat} {u:Value},StrL e B n g' u → LW e j B n g2 u:=by
   rintro n u ⟨A,c,e2,h⟩
   refine ⟨A,c,e2,h.imp id ?_⟩
   rintro ⟨b,cur,e3,h1,h2,h3,h4⟩
   have hb:g.w.heap.size ≤ b:=by
     rcases Nat.lt_or_ge b g.w.heap.size with hlt | hge
     · obtain ⟨k1,k2⟩:=hsame b hlt
       have h5:g.cut.pr b cur.size:=by rw [← k2];exact h1 _
       have h6:=h5.2
       rw [Zuo (k1.symm.trans h2)] at h6
       cases h6
     · exact hge
   exact ⟨b,cur,e3,g'.hpr b 0 (h1 0),if_neg (by omega),h2,fun o ho=>by have:=g.hpr b o ho;omega,h3,h4⟩
 refine hK _ g2 hst fun e' he'=>?_
 rw [List.mem_singleton.1 he',hd,Zc3 _ (by rw [hN];exact hdN d hd)]
 refine ⟨vs,rfl,by simpa using hl,fun i qi u hq hu'=>?_⟩
 match i,hq with
 | 0,hq =>
   obtain rfl:=Option.some.inj hq
   obtain ⟨cs,h1,h2⟩:=hv 0 _ u rfl hu'
   obtain ⟨h3,w,h4,h5⟩:=hw1 _ _ h1
   exact ⟨cs,w,h3,by rw [h2,mkV,if_pos hag1],h4,new h5⟩
 | 1,hq=>obtain rfl:=Option.some.inj hq;trivial
 | 2,hq =>
   obtain rfl:=Option.some.inj hq
   obtain ⟨cs,h1,h2⟩:=hv 2 _ u rfl hu'
   obtain ⟨h3,w,h4,h5⟩:=hw3 _ _ h1
   exact ⟨cs,w,h3,by rw [h2,mkV,if_pos hag3],h4,new h5⟩
 | n + 3,hq=>simp at hq
theorem Ztt {A:List Pd} (h:∀ q ∈ A,∀ (g:G) v,q.p g v → q.p g.cut v):∀ (g:G) (vs:List Value),ArgsOk A g vs → ArgsOk A g.cut vs:=fun g vs ⟨h1,h2⟩=>⟨h1,fun i qi u hq hu=>h qi (List.mem_of_getElem? hq) g u (h2 i qi u hq hu)⟩
theorem Zqs {xs:List α} {g:G} {cs:List Value} {m:Nat} (hsz:dk.sz=2) (hn:∀ x ∈ xs,∀ (g:G) cs,dk.K g x cs → ∃ s,cs[1]?=some (.string s) ∧ s.size ≤ B) (h:(dk.slS e).K g xs (seg cs m 1)):∃ u,cs[m]?=some u ∧ StrL e B xs.length g u:=by
 have hs:∀ v,seg cs m 1=[v] → cs[m]?=some v:=fun v hv=>by
   have:(seg cs m 1)[0]?=some v:=by rw [hv];rfl
   simpa [seg,List.getElem?_take,List.getElem?_drop] using this
 rcases h with ⟨rfl,A,he⟩ | ⟨b,cap,cur,he,h1,h2,h3,h4,h5,h6⟩
 · exact ⟨_,hs _ he,A,0,rfl,.inl rfl⟩
 · refine ⟨_,hs _ he,_,cap,rfl,.inr ⟨b,cur,rfl,h1,h2,by rw [h5,hsz];omega,fun i hi=>?_⟩⟩
   obtain ⟨s,k1,k2⟩:=hn xs[i] (List.getElem_mem hi) g _ (h6 i _ (List.getElem?_eq_getElem hi))
   refine ⟨s,?_,k2⟩
   rw [hsz] at k1
   simpa [seg,List.getElem?_take,List.getElem?_drop] using k1
theorem Zns {s:Nat} {v:α} (hT:Ty P t (Kd.cells dk.sz)) (hop:o.op=.store t (.tmp s) y) (hd:o.dst=none) (hx:Opd uses (.tmp s) (pBox dk j v)) (hy:Opd uses y (pWk e dk.sz k jl B n)) (hj:j ≠ jl):OB P N o uses [(s,pWP e dk.sz k j jl B n 0)] [j + 1] :=
 Zhx hd fun a g hh=>by
   obtain ⟨b,cs,t',hv,hm,_⟩:=hx a g hh
   obtain ⟨ys,u,hk,hw,hu,hL⟩:=hy a g hh
   have hl:ys.length=cs.length:=hk.1.trans (dk.len hm.2.2.2.2.1).symm
   have hst:(storeVar t ⟨b,0,none⟩ (.agg ys.toArray)).run P g.w=.ok () (g.w.setRow b ys.toArray):=by
     have h1:=Zcx (di:=Kd.cells dk.sz) (off:=0) (z:=()) hT hm.2.2.2.1 hk (by simp [hl])
     simp only [List.take_zero,List.nil_append,Nat.zero_add] at h1
     rw [List.drop_of_length_le (by simp [hl]),List.append_nil] at h1
     exact h1
   have hv':Act.at a s=.pointer (some ⟨b,0,none⟩):=hv
   have hS:Step [j + 1] g (g.wr b ys.toArray hm.1 hm.2.2.2.2.2 (fun _=>False) (j + 1)):=Zf6 hm.2.1 (.inr rfl) hm.2.2.2.2.2
   refine ⟨g.wr b ys.toArray hm.1 hm.2.2.2.2.2 (fun _=>False) (j + 1),?_,hS,?_⟩
   · simp [execOp,hop,hv,hw,Instr.storeAt,Instr.sureAddr,hst,wr_w]
   · intro en he
     rw [List.mem_singleton.1 he]
     refine ⟨b,ys,t',u,hv',⟨by rw [wr_w,Zbs];exact hm.1,by simp [G.wr],fun b' hb' ho=>?_,by rw [wr_w];exact setRow_heap _ _ _ _ _ _ hm.2.2.2.1,hk,fun o=>by simp [G.wr]⟩,hu,hL.st hS (by simp;omega)⟩
     rw [wr_w,Zbs] at hb'
     simp only [G.wr] at ho
     split at ho
     · assumption
     · exact hm.2.2.1 b' hb' ho
def PF2 (P:Program) (s i off:Nat):Prop:=(match P.underlying s with | some (.struct F)=>(F[i]?).bind fun f=>(P.info? f.type).map fun y=>(f.offset,y.size == 0) | _=>none)=some (off,false)
theorem Zls {s i off2:Nat} (hF:PF2 P s i off2):∃ F f n,P.underlying s=some (.struct F) ∧ F[i]?=some f ∧ (P.info? f.type).map (·.size)=some n ∧ n ≠ 0 ∧ f.offset=off2:=by
 unfold PF2 at hF
 cases hu:P.underlying s with
 | none=>rw [hu] at hF;cases hF
 | some u =>
   rw [hu] at hF
   cases u <;> try (cases hF;done)
   rename_i F
   cases hi:F[i]? with
   | none=>simp [hi] at hF
   | some f =>
     cases hy:P.info? f.type with
     | none=>simp [hi,hy] at hF
     | some y =>
       simp only [hi,hy,Option.bind_some,Option.map_some,Option.some.injEq,Prod.mk.injEq] at hF
       exact ⟨F,f,y.size,rfl,hi,by rw [hy];rfl,by simpa using hF.2,hF.1⟩
theorem Zhe {s i off2 m:Nat} (hF:PF2 P s i off2) (hm:off + off2=m) (hop:o.op=.fieldAddr s x i) (hd:o.dst=some d) (hx:Opd uses x (pWP e sz k j jl B n off)):OB P N o uses [(d,pWP e sz k j jl B n m)] [] :=
 Zbg hd fun a g hh=>by
   obtain ⟨b,cs,t',u,hv,h⟩:=hx a g hh
   obtain ⟨F,f,y,hu,hi,hs,h0,ho⟩:=Zls hF
   subst ho;subst hm
   exact ⟨.pointer (some ⟨b,off + f.offset,none⟩),by simp [execOp,hop,hv,Instr.fieldAt,Instr.sureAddr,run_underlying hu,hi,Zgl hs h0],b,cs,t',u,rfl,h⟩
theorem Zik {s i off2 m ii:Nat} (hF:PF2 P s i off2) (hm:off + off2=m) (hop:o.op=.fieldAddr s x i) (hd:o.dst=some d) (hx:Opd uses x (pEW e jl B ii off)):OB P N o uses [(d,pEW e jl B ii m)] [] :=
 Zbg hd fun a g hh=>by
   obtain ⟨b,n,c,hv,h⟩:=hx a g hh
   obtain ⟨F,f,y,hu,hi,hs,h0,ho⟩:=Zls hF
   subst ho;subst hm
   exact ⟨.pointer (some ⟨b,ii * 2 + off + f.offset,none⟩),by simp [execOp,hop,hv,Instr.fieldAt,Instr.sureAddr,run_underlying hu,hi,Zgl hs h0],b,n,c,by rw [Nat.add_assoc],h⟩
def Zhy (P:Program) (t:TypeId):Prop:=(P.underlying t).map (fun u=>match u with | .struct _ | .array _ _=>true | _=>false)=some false
theorem Znh {b of:Nat} {u:Value} {w:World} (hT:Zhy P t) (h:w.cell? ⟨b,of,none⟩=some u):(loadVar t ⟨b,of,none⟩).run P w=.ok u w:=by
 simp only [loadVar,Sem.run_bind,Zkm hT,Result.andThen_ok,Sem.run_ite]
 simp [h]
theorem Zju (hT:Zhy P t) (hop:o.op=.load t x) (hd:o.dst=some d) (hx:Opd uses x (pWP e sz k j jl B n k)):OB P N o uses [(d,pLW e jl B n)] [] :=
 Zbg hd fun a g hh=>by
   obtain ⟨b,cs,t',u,hv,hm,hu,hL⟩:=hx a g hh
   have:=Znh (b:=b) (of:=k) (w:=g.w) hT (Zjc hm k u hu)
   exact ⟨u,by simp [execOp,hop,hv,Instr.loadAt,Instr.sureAddr,this],hL⟩
theorem Zqc (ht:P.underlying t=some (.slice e)) (hop:o.op=.call { callee:=.builtin .len,args:=#[x],argTypes:=#[t] }) (hd:o.dst=some d) (hx:Opd uses x (pLW e jl B n)):OB P N o uses [(d,pInt .i64 (n:Int))] [] :=
 Zbg hd fun a g hh=>by
   obtain ⟨A,c,hv,_⟩:=hx a g hh
   exact ⟨.int .i64 n,by simp [execOp,hop,resolve,invoke,builtin,Builtin.len_,run_underlying ht,hv,goInt],Zej _ _ g⟩
theorem Zi8 {i:Int} {ix:Operand} (ht:P.underlying t=some (.slice e)) (hs:(P.info? e).map (·.size)=some 2) (h0:0 ≤ i) (hi:i < n) (hop:o.op=.indexAddr t x ix) (hd:o.dst=some d) (hx:Opd uses x (pLW e jl B n)) (hix:Opd uses ix (pInt .i64 i)):OB P N o uses [(d,pEW e jl B i.toNat 0)] [] :=
 Zbg hd fun a g hh=>by
   obtain ⟨A,c,hv,h⟩:=hx a g hh
   obtain ⟨m,rfl⟩:=Int.eq_ofNat_of_zero_le h0
   have hm:m < n:=by omega
   obtain ⟨b,cur,rfl,h7⟩:=h.resolve_left (by omega)
   have hiv:=Zb1.1 (hix a g hh)
   refine ⟨.pointer (some ⟨b,m * 2,none⟩),?_,b,n,c,rfl,by simpa using hm,_,c,rfl,.inr ⟨b,cur,rfl,h7⟩⟩
   simp [execOp,hop,hv,hiv,Instr.indexAt,Instr.sureAddr,asIntOf,run_underlying ht,Zdk hs,hm,Zbw]
theorem Zn0 {i:Nat} (hT:Zhy P t) (hop:o.op=.load t x) (hd:o.dst=some d) (hx:Opd uses x (pEW e jl B i 1)):OB P N o uses [(d,pSB B)] [] :=
 Zbg hd fun a g hh=>by
   obtain ⟨b,n,c,hv,hi,A,c',e1,h⟩:=hx a g hh
   obtain ⟨b',cur,e2,h1,h2,h3,h4,h5,h6⟩:=h.resolve_left (by omega)
   injection e1 with e1 _ _
   rw [← e1] at e2
   injection e2 with e2
   injection e2 with e2 _ _
   subst e2
   obtain ⟨s,h7,h8⟩:=h6 i hi
   have:=Znh (b:=b) (of:=i * 2 + 1) (w:=g.w) hT (u:=.string s) (by simp only [World.cell?,h3];simpa using h7)
   exact ⟨.string s,by simp [execOp,hop,hv,Instr.loadAt,Instr.sureAddr,this],s,rfl,h8⟩
theorem Zqp {t ty:TypeId} {c:ByteArray} (hc:c.size=1) (hB:B + 1 ≤ 9223372036854775807) (hop:o.op=.binOp .add t x y ty) (hd:o.dst=some d) (hx:Opd uses x (pSB B)) (hy:Opd uses y (pStr c)):OB P N o uses [(d,pSB (B + 1))] [] :=
 Zbg hd fun a g hh=>by
   obtain ⟨s,hs,hl⟩:=hx a g hh
   have hv:=Zhu.1 (hy a g hh)
   have h0:¬ (((s.size + c.size:Nat):Int) > IntKind.i64.max):=by
     have:IntKind.i64.max=9223372036854775807:=by decide
     omega
   exact ⟨.string (s ++ c),by
     have:(Op.stringOp .add s c).run P g.w=.ok (.string (s ++ c)) g.w:=by simp only [Op.stringOp,if_neg h0];rfl
     exact Zpl g.w a hop hs hv this,s ++ c,rfl,by rw [ByteArray.size_append];omega⟩
theorem Zl8 {i s1 s2 z1 k1 j1 n1 z2 k2 j2 n2 : Nat} (hT : Ty P t Kd.str) (hop : o.op = .store t x z) (hd : o.dst = none) (hj1 : j1 ≠ jl) (hj2 : j2 ≠ jl) (h1 : Opd uses (.tmp s1) (pWP e z1 k1 j1 jl B n1 0)) (h2 : Opd uses (.tmp s2) (pWP e z2 k2 j2 jl B n2 0)) (hx : Opd uses x (pEW e jl B i 1)) (hz : Opd uses z (pSB (B + 1))) :
   OB P N o uses [(s1,pWP e z1 k1 j1 jl (B + 1) n1 0),(s2,pWP e z2 k2 j2 jl (B + 1) n2 0)] [jl + 1] :=
 Zhx hd fun a g hh=>by
   obtain ⟨b,n,c,hv,hi,A,c',e1,h⟩:=hx a g hh
   obtain ⟨b',cur,e2,k1,k2,k3,k4,k5,k6⟩:=h.resolve_left (by omega)
   injection e1 with e1 _ _
   rw [← e1] at e2
   injection e2 with e2
   injection e2 with e2 _ _
   subst e2
   obtain ⟨s,hzv,hsl⟩:=hz a g hh
   have hlt:i * 2 + 1 < cur.size:=by omega
   have hst:(storeVar t ⟨b,i * 2 + 1,none⟩ (.string s)).run P g.w=.ok () (g.w.setRow b (cur.setIfInBounds (i * 2 + 1) (.string s))):=by
     have h1:=Zcx (di:=Kd.str) (off:=i * 2 + 1) (z:=s) (ys:=[.string s]) hT k3 rfl (by simp;omega)
     have h2:(cur.toList.take (i * 2 + 1) ++ [Value.string s] ++ cur.toList.drop (i * 2 + 1 + [Value.string s].length)).toArray=cur.setIfInBounds (i * 2 + 1) (.string s):=by
       apply Array.ext'
       rw [Array.toList_setIfInBounds,List.set_eq_take_append_cons_drop,if_pos (by simpa using hlt)]
       simp
     rw [h2] at h1
     exact h1
   have hS:Step [jl + 1] g (g.wr b (cur.setIfInBounds (i * 2 + 1) (.string s)) k1 k4 (fun _=>False) (jl + 1)):=Zf6 k2 (.inr rfl) k4
   have keep:∀ {m:Nat} {u:Value},LW e jl B m g u → LW e jl (B + 1) m (g.wr b (cur.setIfInBounds (i * 2 + 1) (.string s)) k1 k4 (fun _=>False) (jl + 1)) u:=by
     rintro m u ⟨A,c,e3,h⟩
     refine ⟨A,c,e3,h.imp id ?_⟩
     rintro ⟨b2,cur2,e4,h1,h2,h3,h4,h5,h6⟩
     by_cases hb:b2=b
     · subst hb
       rw [k3] at h3
       injection h3 with h3
       injection h3 with h3 _ _
       subst h3
       refine ⟨b2,_,e4,by rw [wr_w,Zbs];exact h1,by simp [G.wr],by rw [wr_w];exact setRow_heap _ _ _ _ _ _ k3,fun o=>by simp [G.wr],by simpa using h5,fun q hq=>?_⟩
       obtain ⟨s',h7,h8⟩:=h6 q hq
       by_cases hqi:q=i
       · subst hqi
         exact ⟨s,by simp [Array.getElem?_setIfInBounds,hlt],hsl⟩
       · refine ⟨s',?_,by omega⟩
         rw [Array.getElem?_setIfInBounds_ne (by omega)];exact h7
     · refine ⟨b2,cur2,e4,by rw [wr_w,Zbs];exact h1,by simp [G.wr,hb,h2],by rw [wr_w,setRow_other _ _ _ _ hb];exact h3,fun o=>by simp only [G.wr,if_neg hb];exact h4 o,h5,fun q hq=>?_⟩
       obtain ⟨s',h7,h8⟩:=h6 q hq
       exact ⟨s',h7,by omega⟩
   refine ⟨g.wr b (cur.setIfInBounds (i * 2 + 1) (.string s)) k1 k4 (fun _=>False) (jl + 1),by simp [execOp,hop,hv,hzv,Instr.storeAt,Instr.sureAddr,hst,wr_w],hS,fun en he=>?_⟩
   rcases List.mem_cons.1 he with rfl | he
   · obtain ⟨b3,cs,t3,u,q1,q2,q3,q4⟩:=h1 a g hh
     exact ⟨b3,cs,t3,u,q1,q2.st hS (by simp;omega) (by omega),q3,keep q4⟩
   · rw [List.mem_singleton.1 he]
     obtain ⟨b3,cs,t3,u,q1,q2,q3,q4⟩:=h2 a g hh
     exact ⟨b3,cs,t3,u,q1,q2.st hS (by simp;omega) (by omega),q3,keep q4⟩
end
end Go.CL
namespace Go.CL
open Go Go.RowKit Go.Proofs
theorem Zb9 (a0:(List Zc)) {r:(List Zc)} (h:Z5 a0=some r):Zk7 Tryd.prog 13 [(Zj.sl.pd a0)] Zj 37 r:=by
 unfold Z5 at h
 obtain ⟨hsz,H0⟩:=Zgx h
 obtain rfl:=Option.some.inj H0
 refine Zq5 (N:=8) Tryd.func13 rfl rfl (Qe rfl) rfl (fun a g0 h0 hst hb=>?_)
 refine r_s (T:=[⟨[],[(2,(Zj.sl.pd []))],[],[],[2]⟩]) (F:=[.o 0]) hst hb Zb
  (o_p rfl (Zfr rfl rfl (Opd.c (fun g=>Zi4 g)))<|o_n) (fun a g hst hb=>?_)
 refine wp_seq ?_
 refine r_s (T:=[⟨[.o 0],_,[],[],[3]⟩,⟨[.p 0 0],_,[],[0],[4]⟩]) (F:=[.o 0,.p 1 0]) hst hb Zb
  (Qm rfl u_0<|o_p rfl (Zvs Tryd.underlying23 rfl rfl u_0)<|o_n) (fun a g hst hb=>?_)
 obtain ⟨c,hc,hc'⟩:=hst.at 1 rfl
 refine wp_cond_split hc (fun ht=>?_) (fun hf=>?_)
 ·obtain rfl:=hc' ht
  refine r_s (L:=[]) (T:=[⟨[],[(2,(pEq (.slice none 0 0)))],[],[],[2]⟩]) (F:=[.p 0 0]) (hst.pick [] rfl) hb Zb
   (o_p rfl (Zfr rfl rfl (Opd.c (fun g=>rfl)))<|o_n) (fun a g hst hb=>?_)
  refine wp_ret ?_
  refine Zp ?_
  exact Zp6 rfl hst hb (Zi (s:=2)) ⟨none,hst.at 0 rfl⟩
 ·refine wp_skip ?_
  refine Zy ?_
  refine r_s (L:=[(0,_)]) (T:=[⟨[],[(5,(pOwn Zj 37 5 (some 0) (([]:(List Zc)).map some)))],[6],[],[5]⟩,⟨[.o 0],_,[],[],[6]⟩,⟨[.p 0 0,.p 1 0],_,[6],[0,1],[5,7]⟩,⟨[.p 2 0],_,[],[0,1,2],[2]⟩]) (F:=[.p 3 0]) (hst.pick [0] rfl) hb Zb
   (o_p rfl (Zso (ty:=0) Zcn rfl rfl)<|Qm rfl u_0<|o_p rfl (Zmq Zcn rfl rfl u_0 u_1 (by simpa using hsz))<|Qa rfl u_0<|o_n) (fun a g hst hb=>?_)
  refine wp_ret ?_
  exact Zto rfl h0 hst hb (Zi (s:=2)) (hst.at 0 rfl)
theorem Zgs (a0:(List Zc)) {r:(List Zc)} (h:Z5 a0=some r):FnOk Tryd.prog 13 [(Zj.sl.pd a0)] ((Zj.slS 37).pd r):=Ztg (Zb9 a0 h)
theorem Zey (a0:Za) {r:Za} (h:Zc0 a0=some r):FnOk Tryd.prog 6 [(Zf.pd a0)] (Ze.pd r):=by
 have H0:=h
 unfold Zc0 at H0
 clear h
 refine Zbv (N:=8) Tryd.func6 rfl rfl (Qe rfl) rfl rfl (fun a g0 hst hb=>?_)
 refine r_s (T:=[⟨[.o 0],_,[2],[],[1]⟩,⟨[],[(2,(pBox Ze 2 (default:Za)))],[3],[],[2]⟩]) (F:=[.p 0 0,.p 1 0]) hst hb Zb
  (o_p rfl (Zm5 rfl rfl u_0)<|o_p rfl (Zby (zs:=[.int .i64 0,.int .i64 0,.int .i64 0,.int .i64 0,.float .f64 0,.int .i64 0,.string ByteArray.empty,.slice none 0 0]) (by kernel_rfl) (fun g=>Zdb g) rfl rfl)<|o_n) (fun a g hst hb=>?_)
 obtain ⟨r1,h2,H0⟩:=Zg H0
 refine r_s (T:=[⟨[.o 0],_,[],[],[3]⟩,⟨[.p 0 0],_,[],[0],[4]⟩,⟨[.p 1 0],_,[],[0,1],[5]⟩,⟨[.o 0],_,[],[0,1,2],[6]⟩,⟨[.p 2 0,.p 3 0,.o 0],_,[2],Lr 4,[1,3,6]⟩]) (F:=[.p 4 0,.o 1]) hst hb Zb
  (o_p rfl (Zs Zdm (off:=7) (by kernel_rfl) rfl rfl u_0)<|QP rfl Zfx u_0<|o_p rfl (Zr Zod (Zgs _ h2) rfl rfl (.cons u_0 .nil))<|o_p rfl (Zs Zdm (off:=7) (by kernel_rfl) rfl rfl u_0)<|o_p rfl (Zur Zer rfl rfl u_2 u_1 u_0)<|o_n) (fun a g hst hb=>?_)
 refine r_s (T:=[⟨[.o 0],_,[],[],[7]⟩,⟨[.p 0 0,.o 1],_,[3],[0],[2]⟩]) (F:=[.p 1 0]) hst hb Zb
  (QM rfl Zbp u_0<|o_p rfl (Zba Zbp rfl rfl u_1 u_0)<|o_n) (fun a g hst hb=>?_)
 refine wp_ret ?_
 obtain rfl:=Option.some.inj H0
 obtain ⟨u0,hu0,hq0⟩:=Zbk (P:=Tryd.prog) Zbp (hst.at 0 rfl)
 exact Zz rfl hst hb hu0 hq0
theorem Zis (a0:Za) {r:Za} (h:Zc0 a0=some r):FnOk Tryd.prog 6 [(Zf.pd a0)] (Zf.pd r):=(Zey a0 h).imp fun _ _ h=>Zeb.pd h
theorem Ze4 (a0:Int) (a1:Za) (a2:Bool) {r:Za × Bool × Zd × Za} (h:Zd1 a0 a1 a2=some r):FnB Tryd.prog 14 [.val (pInt .i64 a0),.box Ze a1 r.2.2.2,.val (Kd.bool.ptr a2)] (pTup [(Ze.pd r.1),(Z1 r.2.1),(Zn.pd r.2.2.1)]):=by
 have H0:=h
 unfold Zd1 at H0
 clear h
 refine Zfn (N:=11) Tryd.func14 rfl rfl (Qe rfl) rfl rfl (fun a g0 bs hbs hst hb=>?_)
 obtain ⟨b1,rfl⟩:=Zyd hbs
 replace hst:St 11 [(0,(pInt .i64 a0)),(1,(Z9 (some b1) Ze 1 a1)),(2,(Kd.bool.ptr a2))] _ _:=hst
 refine r_s (T:=[⟨[],[(4,(pBox Ze 4 (default:Za)))],[5],[],[4]⟩,⟨[],_,[],[],[5]⟩,⟨[],[(6,(pBox Zn 6 (default:Zd)))],[7],[],[6]⟩]) (F:=[.o 0,.o 1,.o 2,.p 0 0,.p 2 0]) hst hb Zb
  (o_p rfl (Zby (zs:=[.int .i64 0,.int .i64 0,.int .i64 0,.int .i64 0,.float .f64 0,.int .i64 0,.string ByteArray.empty,.slice none 0 0]) (by kernel_rfl) (fun g=>Zdb g) rfl rfl)<|Qa rfl c_b<|o_p rfl (Zby (zs:=[.int .i64 0,.int .i64 0,.int .i64 0,.int .i64 0,.int .i64 0,.int .i64 0,.float .f64 0,.int .i64 0,.string ByteArray.empty,.slice none 0 0]) (by kernel_rfl) (fun g=>Zhv g) rfl rfl)<|o_n) (fun a g hst hb=>?_)
 refine r_s (T:=[⟨[.o 1],_,[],[],[7]⟩,⟨[.o 2],_,[],[],[8]⟩,⟨[.o 0],_,[],[],[9]⟩,⟨[.p 2 0],_,[],[2],[10]⟩,⟨[.p 0 0,.o 3],_,[5],[0],[4]⟩,⟨[.p 1 0],_,[],[0,1,4],[5]⟩,⟨[.p 3 0,.o 4],_,[7],Lr 6,[6]⟩]) (F:=[.o 1,.p 4 0,.p 5 0,.p 6 0]) hst hb Zb
  (QM rfl Zbp u_0<|Ql rfl ty_4 u_0<|Qm rfl u_0<|o_p rfl (Zpk rfl rfl u_0)<|o_p rfl (Zba Zbp rfl rfl u_1 u_0)<|Qa rfl u_0<|o_p rfl (Zba Zcj rfl rfl u_1 u_0)<|o_n) (fun a g hst hb=>?_)
 refine wp_ret ?_
 obtain rfl:=Option.some.inj H0
 obtain ⟨u0,hu0,hq0⟩:=Zbk (P:=Tryd.prog) Zbp (hst.at 1 rfl)
 obtain ⟨u2,hu2,hq2⟩:=Zbk (P:=Tryd.prog) Zcj (hst.at 3 rfl)
 exact Zx9 rfl hst hb hu0 (Zi (s:=5)) hu2 (Zfl hq0 (hst.at 2 rfl) hq2) ⟨Zbl (hst.at 0 rfl),trivial⟩
theorem Zpr {r:Nat} (h:Zka=some r):FnOk Tryd.prog 63 [] (pFlt r):=by
 have H0:=h
 unfold Zka at H0
 clear h
 refine Zbv (N:=2) Tryd.func63 rfl rfl (Qe rfl) rfl rfl (fun a g0 hst hb=>?_)
 refine r_s (T:=[⟨[],_,[],[],[0]⟩]) (F:=[]) hst hb Zb
  (Qa rfl c_f<|o_n) (fun a g hst hb=>?_)
 refine r_s (T:=[⟨[],_,[],[],[1]⟩,⟨[.p 0 0],_,[],[0],[0]⟩]) (F:=[.p 1 0]) hst hb Zb
  (o_p rfl (Zp8 Zyl rfl rfl c_i)<|Qa rfl u_0<|o_n) (fun a g hst hb=>?_)
 refine wp_ret ?_
 obtain rfl:=Option.some.inj H0
 exact Zz rfl hst hb (Zi (s:=0)) (hst.at 0 rfl)
theorem Zd4 (a0:Nat) {r:Nat} (h:Zc2 a0=some r):FnOk Tryd.prog 53 [(pFlt a0)] (pFlt r):=by
 have H0:=h
 unfold Zc2 at H0
 clear h
 refine Zbv (N:=8) Tryd.func53 rfl rfl (Qe rfl) rfl rfl (fun a g0 hst hb=>?_)
 refine r_s (T:=[⟨[],_,[],[],[2]⟩]) (F:=[.o 0]) hst hb Zb
  (Qa rfl c_f<|o_n) (fun a g hst hb=>?_)
 refine wp_seq ?_
 refine r_s (T:=[⟨[.o 0],_,[],[],[3]⟩,⟨[.o 0],_,[],[],[4]⟩,⟨[.p 0 0,.p 1 0],_,[],[0,1],[5]⟩]) (F:=[.o 0,.p 2 0]) hst hb Zb
  (Qm rfl u_0<|Qm rfl u_0<|o_p rfl (Zq0 rfl rfl u_0 u_1)<|o_n) (fun a g hst hb=>?_)
 refine wp_cond_split (hst.bool 1 rfl) (fun hc1=>?_) (fun hc1=>?_)
 ·replace H0:=Z2 hc1 H0
  obtain ⟨r2,h3,H0⟩:=Zg H0
  refine r_s (L:=[]) (T:=[⟨[],_,[],[],[6]⟩,⟨[.p 0 0],_,[],[0],[2]⟩]) (F:=[.p 1 0]) (hst.pick [] rfl) hb Zb
   (o_p rfl (Zr Zy6 (Zpr h3) rfl rfl .nil)<|Qa rfl u_0<|o_n) (fun a g hst hb=>?_)
  refine wp_ret ?_
  refine Zp ?_
  obtain rfl:=Option.some.inj H0
  exact Zz rfl hst hb (Zi (s:=2)) (hst.at 0 rfl)
 ·replace H0:=Z3 hc1 H0
  refine wp_skip ?_
  refine Zy ?_
  refine r_s (L:=[(0,_)]) (T:=[⟨[.o 0],_,[],[],[7]⟩,⟨[.p 0 0],_,[],[0],[2]⟩]) (F:=[.p 1 0]) (hst.pick [0] rfl) hb Zb
   (Qm rfl u_0<|Qa rfl u_0<|o_n) (fun a g hst hb=>?_)
  refine wp_ret ?_
  obtain rfl:=Option.some.inj H0
  exact Zz rfl hst hb (Zi (s:=2)) (hst.at 0 rfl)
theorem Zij (a0:Nat) {r:Bool} (h:Zfy a0=some r):FnOk Tryd.prog 24 [(pFlt a0)] (Z1 r):=by
 have H0:=h
 unfold Zfy at H0
 clear h
 refine Zbv (N:=9) Tryd.func24 rfl rfl (Qe rfl) rfl rfl (fun a g0 hst hb=>?_)
 refine r_s (T:=[⟨[],_,[],[],[2]⟩]) (F:=[.o 0]) hst hb Zb
  (Qa rfl c_b<|o_n) (fun a g hst hb=>?_)
 obtain ⟨r1,h2,H0⟩:=Zg H0
 refine r_s (T:=[⟨[.o 0],_,[],[],[3]⟩,⟨[.p 0 0],_,[],[0],[4]⟩,⟨[.o 0],_,[],[],[5]⟩,⟨[.p 2 0],_,[],[0,1,2],[6]⟩,⟨[.p 3 0],_,[],Lr 4,[7]⟩,⟨[.p 1 0,.p 4 0],_,[],Lr 5,[8]⟩,⟨[.p 5 0],_,[],Lr 6,[2]⟩]) (F:=[.p 6 0]) hst hb Zb
  (Qm rfl u_0<|o_p rfl (Zm4 Zrp rfl rfl u_0)<|Qm rfl u_0<|o_p rfl (Zr Zjb (Zd4 _ h2) rfl rfl (.cons u_0 .nil))<|o_p rfl (Zm4 Zrp rfl rfl u_0)<|o_p rfl (Zbq rfl rfl u_0 u_1)<|Qa rfl u_0<|o_n) (fun a g hst hb=>?_)
 refine wp_ret ?_
 obtain rfl:=Option.some.inj H0
 exact Zz rfl hst hb (Zi (s:=2)) (hst.at 0 rfl)
theorem Zn4 (a0:Int) {r:Zbb} (h:Zcc a0=some r):FnOk Tryd.prog 25 [(pInt .i64 a0)] (Zbr.pd r):=by
 have H0:=h
 unfold Zcc at H0
 clear h
 refine Zbv (N:=24) Tryd.func25 rfl rfl (Qe rfl) rfl rfl (fun a g0 hst hb=>?_)
 refine r_s (T:=[⟨[],[(2,(pBox Zbr 2 (default:Zbb)))],[3],[],[2]⟩]) (F:=[.o 0,.p 0 0]) hst hb Zb
  (o_p rfl (Zby (zs:=[.bool false,.bool false,.bool false,.bool false,.bool false]) (by kernel_rfl) (fun g=>Zkk g) rfl rfl)<|o_n) (fun a g hst hb=>?_)
 refine wp_seq ?_
 refine r_s (T:=[⟨[.o 0],_,[],[],[3]⟩]) (F:=[.o 1,.p 0 0]) hst hb Zb
  (Qm rfl u_0<|o_n) (fun a g hst hb=>?_)
 refine wp_block ?_
 refine r_s (T:=[⟨[.o 1],_,[],[],[5]⟩,⟨[.p 0 0],_,[],[0],[4]⟩]) (F:=[.o 0,.o 1,.p 1 0]) hst hb Zb
  (o_p rfl (Zbq rfl rfl u_0 c_i)<|Qa rfl u_0<|o_n) (fun a g hst hb=>?_)
 refine wp_cond_split (hst.bool 2 rfl) (fun hc1=>?_) (fun hc1=>?_)
 ·replace H0:=Z2 hc1 H0
  refine r_s (L:=[(2,_)]) (T:=[⟨[],_,[],[],[6]⟩,⟨[.p 0 0,.o 0],_,[3],[0],[2]⟩]) (F:=[.p 1 0]) (hst.pick [0] rfl) hb Zb
   (o_p rfl (Zwu rfl rfl c_b)<|o_p rfl (Zba Zf8 rfl rfl u_1 u_0)<|o_n) (fun a g hst hb=>?_)
  refine wp_ret ?_
  refine Zx ?_
  refine Zp ?_
  obtain rfl:=Option.some.inj H0
  obtain ⟨u0,hu0,hq0⟩:=Zbk (P:=Tryd.prog) Zf8 (hst.at 0 rfl)
  exact Zz rfl hst hb hu0 hq0
 ·replace H0:=Z3 hc1 H0
  refine wp_seq ?_
  refine r_s (L:=[(2,_),(3,_)]) (T:=[⟨[.o 1],_,[],[],[8]⟩,⟨[.p 0 0],_,[],[0],[7]⟩]) (F:=[.o 0,.o 1,.p 1 0]) (hst.pick [0,1] rfl) hb Zb
   (o_p rfl (Zbq rfl rfl u_0 c_i)<|Qa rfl u_0<|o_n) (fun a g hst hb=>?_)
  refine Zdj (fun a w=>∃ (j3:Bool) (g:G),w=g.w ∧ St 24 [(2,(pBox Zbr 2 (default:Zbb))),(3,(pInt .i64 a0)),(7,(Z1 j3))] a g ∧ Base g0 g ∧ Zf0 a0 j3=some r) ?_ ?_
  ·rintro a w ⟨j3,g,rfl,hst,hb,H0⟩
   unfold Zf0 at H0
   refine Zy ?_
   refine wp_cond_split (hst.bool 2 rfl) (fun hc4=>?_) (fun hc4=>?_)
   ·replace H0:=Z2 hc4 H0
    refine r_s (L:=[(2,_)]) (T:=[⟨[],_,[],[],[10]⟩,⟨[.p 0 0,.o 0],_,[3],[0],[2]⟩]) (F:=[.p 1 0]) (hst.pick [0] rfl) hb Zb
     (o_p rfl (Zvq rfl rfl c_b)<|o_p rfl (Zba Zf8 rfl rfl u_1 u_0)<|o_n) (fun a g hst hb=>?_)
    refine wp_ret ?_
    refine Zx ?_
    refine Zp ?_
    obtain rfl:=Option.some.inj H0
    obtain ⟨u0,hu0,hq0⟩:=Zbk (P:=Tryd.prog) Zf8 (hst.at 0 rfl)
    exact Zz rfl hst hb hu0 hq0
   ·replace H0:=Z3 hc4 H0
    refine r_s (L:=[(2,_),(3,_)]) (T:=[⟨[.o 1],_,[],[],[12]⟩,⟨[.p 0 0],_,[],[0],[11]⟩]) (F:=[.o 0,.o 1,.p 1 0]) (hst.pick [0,1] rfl) hb Zb
     (o_p rfl (Zbq rfl rfl u_0 c_i)<|Qa rfl u_0<|o_n) (fun a g hst hb=>?_)
    refine wp_cond_split (hst.bool 2 rfl) (fun hc5=>?_) (fun hc5=>?_)
    ·replace H0:=Z2 hc5 H0
     refine r_s (L:=[(2,_)]) (T:=[⟨[],_,[],[],[13]⟩,⟨[.p 0 0,.o 0],_,[3],[0],[2]⟩]) (F:=[.p 1 0]) (hst.pick [0] rfl) hb Zb
      (o_p rfl (Zsj rfl rfl c_b c_b)<|o_p rfl (Zba Zf8 rfl rfl u_1 u_0)<|o_n) (fun a g hst hb=>?_)
     refine wp_ret ?_
     refine Zx ?_
     refine Zp ?_
     obtain rfl:=Option.some.inj H0
     obtain ⟨u0,hu0,hq0⟩:=Zbk (P:=Tryd.prog) Zf8 (hst.at 0 rfl)
     exact Zz rfl hst hb hu0 hq0
    ·replace H0:=Z3 hc5 H0
     refine wp_seq ?_
     refine r_s (L:=[(2,_),(3,_)]) (T:=[⟨[.o 1],_,[],[],[15]⟩,⟨[.p 0 0],_,[],[0],[14]⟩]) (F:=[.o 0,.o 1,.p 1 0]) (hst.pick [0,1] rfl) hb Zb
      (o_p rfl (Zbq rfl rfl u_0 c_i)<|Qa rfl u_0<|o_n) (fun a g hst hb=>?_)
     refine Zdj (fun a w=>∃ (j8:Bool) (g:G),w=g.w ∧ St 24 [(2,(pBox Zbr 2 (default:Zbb))),(3,(pInt .i64 a0)),(14,(Z1 j8))] a g ∧ Base g0 g ∧ Zew a0 j8=some r) ?_ ?_
     ·rintro a w ⟨j8,g,rfl,hst,hb,H0⟩
      unfold Zew at H0
      refine Zy ?_
      refine wp_cond_split (hst.bool 2 rfl) (fun hc9=>?_) (fun hc9=>?_)
      ·replace H0:=Z2 hc9 H0
       refine r_s (L:=[(2,_)]) (T:=[⟨[],_,[],[],[18]⟩,⟨[.p 0 0,.o 0],_,[3],[0],[2]⟩]) (F:=[.p 1 0]) (hst.pick [0] rfl) hb Zb
        (o_p rfl (Zw1 rfl rfl c_b)<|o_p rfl (Zba Zf8 rfl rfl u_1 u_0)<|o_n) (fun a g hst hb=>?_)
       refine wp_ret ?_
       refine Zx ?_
       refine Zp ?_
       obtain rfl:=Option.some.inj H0
       obtain ⟨u0,hu0,hq0⟩:=Zbk (P:=Tryd.prog) Zf8 (hst.at 0 rfl)
       exact Zz rfl hst hb hu0 hq0
      ·replace H0:=Z3 hc9 H0
       refine wp_seq ?_
       refine r_s (L:=[(2,_),(3,_)]) (T:=[⟨[.o 1],_,[],[],[20]⟩,⟨[.p 0 0],_,[],[0],[19]⟩]) (F:=[.o 0,.o 1,.p 1 0]) (hst.pick [0,1] rfl) hb Zb
        (o_p rfl (Zbq rfl rfl u_0 c_i)<|Qa rfl u_0<|o_n) (fun a g hst hb=>?_)
       refine Zdj (fun a w=>∃ (j11:Bool) (g:G),w=g.w ∧ St 24 [(2,(pBox Zbr 2 (default:Zbb))),(19,(Z1 j11))] a g ∧ Base g0 g ∧ Zf1 j11=some r) ?_ ?_
       ·rintro a w ⟨j11,g,rfl,hst,hb,H0⟩
        unfold Zf1 at H0
        refine Zy ?_
        refine wp_cond_split (hst.bool 1 rfl) (fun hc12=>?_) (fun hc12=>?_)
        ·replace H0:=Z2 hc12 H0
         refine r_s (L:=[(2,_)]) (T:=[⟨[],_,[],[],[22]⟩,⟨[.p 0 0,.o 0],_,[3],[0],[2]⟩]) (F:=[.p 1 0]) (hst.pick [0] rfl) hb Zb
          (o_p rfl (Zvu rfl rfl c_b)<|o_p rfl (Zba Zf8 rfl rfl u_1 u_0)<|o_n) (fun a g hst hb=>?_)
         refine wp_ret ?_
         refine Zx ?_
         refine Zp ?_
         obtain rfl:=Option.some.inj H0
         obtain ⟨u0,hu0,hq0⟩:=Zbk (P:=Tryd.prog) Zf8 (hst.at 0 rfl)
         exact Zz rfl hst hb hu0 hq0
        ·replace H0:=Z3 hc12 H0
         refine wp_skip ?_
         refine Zb7 ?_
         refine Zy ?_
         refine r_s (L:=[(2,_)]) (T:=[⟨[],_,[],[],[23]⟩,⟨[.p 0 0,.o 0],_,[3],[0],[2]⟩]) (F:=[.p 1 0]) (hst.pick [0] rfl) hb Zb
          (o_p rfl (Zxk rfl rfl )<|o_p rfl (Zba Zf8 rfl rfl u_1 u_0)<|o_n) (fun a g hst hb=>?_)
         refine wp_ret ?_
         obtain rfl:=Option.some.inj H0
         obtain ⟨u0,hu0,hq0⟩:=Zbk (P:=Tryd.prog) Zf8 (hst.at 0 rfl)
         exact Zz rfl hst hb hu0 hq0
       ·refine wp_cond_split (hst.bool 2 rfl) (fun hc10=>?_) (fun hc10=>?_)
        ·replace H0:=Z2 hc10 H0
         refine wp_skip ?_
         exact ⟨(a0 == (8:Int)),g,rfl,(hst.pick [0,2] rfl),hb,H0⟩
        ·replace H0:=Z3 hc10 H0
         refine r_g (L:=[(2,_),(3,_)]) (T:=[⟨[.o 1],_,[],[],[21]⟩,⟨[.p 0 0],_,[],[0],[19]⟩]) (F:=[.o 0,.p 1 0]) (hst.pick [0,1] rfl) hb Zb
          (o_p rfl (Zbq rfl rfl u_0 c_i)<|Qa rfl u_0<|o_n) (fun a g hst hb=>?_)
         exact ⟨(a0 == (9:Int)),g,rfl,(hst.pick [0,1] rfl),hb,H0⟩
     ·refine wp_cond_split (hst.bool 2 rfl) (fun hc6=>?_) (fun hc6=>?_)
      ·replace H0:=Z2 hc6 H0
       refine wp_skip ?_
       exact ⟨(a0 == (5:Int)),g,rfl,(hst.pick [0,1,2] rfl),hb,H0⟩
      ·replace H0:=Z3 hc6 H0
       refine r_s (L:=[(2,_),(3,_)]) (T:=[⟨[.o 1],_,[],[],[16]⟩,⟨[.p 0 0],_,[],[0],[14]⟩]) (F:=[.o 0,.o 1,.p 1 0]) (hst.pick [0,1] rfl) hb Zb
        (o_p rfl (Zbq rfl rfl u_0 c_i)<|Qa rfl u_0<|o_n) (fun a g hst hb=>?_)
       refine wp_cond_split (hst.bool 2 rfl) (fun hc7=>?_) (fun hc7=>?_)
       ·replace H0:=Z2 hc7 H0
        refine wp_skip ?_
        exact ⟨(a0 == (6:Int)),g,rfl,(hst.pick [0,1,2] rfl),hb,H0⟩
       ·replace H0:=Z3 hc7 H0
        refine r_g (L:=[(2,_),(3,_)]) (T:=[⟨[.o 1],_,[],[],[17]⟩,⟨[.p 0 0],_,[],[0],[14]⟩]) (F:=[.o 0,.o 1,.p 1 0]) (hst.pick [0,1] rfl) hb Zb
         (o_p rfl (Zbq rfl rfl u_0 c_i)<|Qa rfl u_0<|o_n) (fun a g hst hb=>?_)
        exact ⟨(a0 == (7:Int)),g,rfl,(hst.pick [0,1,2] rfl),hb,H0⟩
  ·refine wp_cond_split (hst.bool 2 rfl) (fun hc2=>?_) (fun hc2=>?_)
   ·replace H0:=Z2 hc2 H0
    refine wp_skip ?_
    exact ⟨(a0 == (2:Int)),g,rfl,(hst.pick [0,1,2] rfl),hb,H0⟩
   ·replace H0:=Z3 hc2 H0
    refine r_g (L:=[(2,_),(3,_)]) (T:=[⟨[.o 1],_,[],[],[9]⟩,⟨[.p 0 0],_,[],[0],[7]⟩]) (F:=[.o 0,.o 1,.p 1 0]) (hst.pick [0,1] rfl) hb Zb
     (o_p rfl (Zbq rfl rfl u_0 c_i)<|Qa rfl u_0<|o_n) (fun a g hst hb=>?_)
    exact ⟨(a0 == (3:Int)),g,rfl,(hst.pick [0,1,2] rfl),hb,H0⟩
theorem Zil (a0:Nat) {r:Int} (h:Zhb a0=some r):FnOk Tryd.prog 62 [(pFlt a0)] (pInt .u64 r):=by
 have H0:=h
 unfold Zhb at H0
 clear h
 refine Zbv (N:=14) Tryd.func62 rfl rfl (Qe rfl) rfl rfl (fun a g0 hst hb=>?_)
 refine r_s (T:=[⟨[],_,[],[],[2]⟩]) (F:=[.o 0]) hst hb Zb
  (Qa rfl c_i<|o_n) (fun a g hst hb=>?_)
 obtain ⟨r1,h2,H0⟩:=Zg H0
 refine r_s (T:=[⟨[.o 0],_,[],[],[4]⟩,⟨[.p 0 0],_,[],[0],[5]⟩,⟨[.p 1 0],_,[],[0,1],[6]⟩,⟨[.p 2 0],_,[],[0,1,2],[3]⟩]) (F:=[.p 3 0]) hst hb Zb
  (Qm rfl u_0<|o_p rfl (Zr Zjb (Zd4 _ h2) rfl rfl (.cons u_0 .nil))<|o_p rfl (Zm4 Zrp rfl rfl u_0)<|Qa rfl u_0<|o_n) (fun a g hst hb=>?_)
 refine wp_seq ?_
 refine r_s (T:=[⟨[.o 0],_,[],[],[7]⟩,⟨[.p 0 0],_,[],[0],[8]⟩,⟨[.p 1 0],_,[],[0,1],[9]⟩]) (F:=[.o 0,.p 2 0]) hst hb Zb
  (Qm rfl u_0<|o_p rfl (Zxx rfl rfl u_0 c_i)<|o_p rfl (Zf7 rfl rfl u_0 c_i)<|o_n) (fun a g hst hb=>?_)
 refine wp_cond_split (hst.bool 1 rfl) (fun hc3=>?_) (fun hc3=>?_)
 ·replace H0:=Z2 hc3 H0
  refine r_s (L:=[(3,_)]) (T:=[⟨[.o 0],_,[],[],[10]⟩,⟨[.p 0 0],_,[],[0],[11]⟩,⟨[.p 1 0],_,[],[0,1],[2]⟩]) (F:=[.p 2 0]) (hst.pick [0] rfl) hb Zb
   (Qm rfl u_0<|o_p rfl (Zvp rfl rfl rfl u_0)<|Qa rfl u_0<|o_n) (fun a g hst hb=>?_)
  refine wp_ret ?_
  refine Zp ?_
  obtain rfl:=Option.some.inj H0
  exact Zz rfl hst hb (Zi (s:=2)) (hst.at 0 rfl)
 ·replace H0:=Z3 hc3 H0
  refine wp_skip ?_
  refine Zy ?_
  refine r_s (L:=[(3,_)]) (T:=[⟨[.o 0],_,[],[],[12]⟩,⟨[.p 0 0],_,[],[0],[13]⟩,⟨[.p 1 0],_,[],[0,1],[2]⟩]) (F:=[.p 2 0]) (hst.pick [0] rfl) hb Zb
   (Qm rfl u_0<|o_p rfl (Zy1 rfl rfl u_0 c_i)<|Qa rfl u_0<|o_n) (fun a g hst hb=>?_)
  refine wp_ret ?_
  obtain rfl:=Option.some.inj H0
  exact Zz rfl hst hb (Zi (s:=2)) (hst.at 0 rfl)
theorem Zf4 (a0:Nat) (a1:Nat) {r:Bool} (h:Zfd a0 a1=some r):FnOk Tryd.prog 48 [(pFlt a0),(pFlt a1)] (Z1 r):=by
 have H0:=h
 unfold Zfd at H0
 clear h
 refine Zbv (N:=10) Tryd.func48 rfl rfl (Qe rfl) rfl rfl (fun a g0 hst hb=>?_)
 refine r_s (T:=[⟨[],_,[],[],[4]⟩]) (F:=[.o 0,.o 1]) hst hb Zb
  (Qa rfl c_b<|o_n) (fun a g hst hb=>?_)
 obtain ⟨r1,h2,H0⟩:=Zg H0;obtain ⟨r3,h4,H0⟩:=Zg H0
 refine r_s (T:=[⟨[.o 0],_,[],[],[5]⟩,⟨[.p 0 0],_,[],[0],[6]⟩,⟨[.o 1],_,[],[],[7]⟩,⟨[.p 2 0],_,[],[0,1,2],[8]⟩,⟨[.p 1 0,.p 3 0],_,[],Lr 4,[9]⟩,⟨[.p 4 0],_,[],Lr 5,[4]⟩]) (F:=[.p 5 0]) hst hb Zb
  (Qm rfl u_0<|o_p rfl (Zr Zoc (Zil _ h2) rfl rfl (.cons u_0 .nil))<|Qm rfl u_0<|o_p rfl (Zr Zoc (Zil _ h4) rfl rfl (.cons u_0 .nil))<|o_p rfl (Zbq rfl rfl u_0 u_1)<|Qa rfl u_0<|o_n) (fun a g hst hb=>?_)
 refine wp_ret ?_
 obtain rfl:=Option.some.inj H0
 exact Zz rfl hst hb (Zi (s:=4)) (hst.at 0 rfl)
theorem Zpp (a0:Za) (a1:Zbb) {r:Bool} (h:Ziz a0 a1=some r):FnOk Tryd.prog 26 [(Zf.pd a0),(Zbr.pd a1)] (Z1 r):=by
 have H0:=h
 unfold Ziz at H0
 clear h
 refine Zbv (N:=59) Tryd.func26 rfl rfl (Qe rfl) rfl rfl (fun a g0 hst hb=>?_)
 refine r_s (T:=[⟨[.o 0],_,[],[],[2]⟩,⟨[.o 1],_,[],[],[3]⟩,⟨[],_,[],[],[4]⟩]) (F:=[.p 0 0,.p 1 0]) hst hb Zb
  (Qb rfl u_0<|Qb rfl u_0<|Qa rfl c_b<|o_n) (fun a g hst hb=>?_)
 obtain ⟨r1,h2,H0⟩:=Zg H0
 refine r_s (T:=⟨[.o 1],_,[],[],[5]⟩ :: ⟨[.p 0 0],_,[],[0],[6]⟩ :: ⟨[.p 1 0],_,[],[0,1],[7]⟩ :: ⟨[.p 2 0,.o 0],_,[],[0,1,2],[8]⟩ :: ⟨[.p 2 0,.p 3 0],_,[],Lr 4,[9]⟩ :: ⟨[.p 2 0,.p 4 0],_,[],Lr 5,[10]⟩ :: ⟨[.p 2 0,.p 5 0],_,[],Lr 6,[11]⟩ :: ⟨[.p 6 0],_,[],Lr 7,[12]⟩ :: ⟨[.p 7 0,.o 1],_,[],Lr 8,[13]⟩ :: ⟨[.p 7 0,.p 8 0],_,[],Lr 9,[14]⟩ :: ⟨[.p 7 0,.p 9 0],_,[],Lr 10,[15]⟩ :: ⟨[.p 10 0,.o 0],_,[],Lr 11,[16]⟩ :: ⟨[.p 10 0,.p 11 0],_,[],Lr 12,[17]⟩ :: ⟨[.p 10 0,.p 12 0],_,[],Lr 13,[18]⟩ :: ⟨[.p 7 0,.p 10 0,.p 13 0],_,[],Lr 14,[19]⟩ :: ⟨[.p 7 0,.p 14 0],_,[],Lr 15,[20]⟩ :: ⟨[.p 15 0],_,[],Lr 16,[21]⟩ :: ⟨[.p 16 0,.o 1],_,[],Lr 17,[22]⟩ :: ⟨[.p 16 0,.p 17 0],_,[],Lr 18,[23]⟩ :: ⟨[.p 16 0,.p 18 0],_,[],Lr 19,[24]⟩ :: ⟨[.p 19 0,.o 0],_,[],Lr 20,[25]⟩ :: ⟨[.p 19 0,.p 20 0],_,[],Lr 21,[26]⟩ :: ⟨[.p 19 0,.p 21 0],_,[],Lr 22,[27]⟩ :: ⟨[.p 19 0,.p 22 0],_,[],Lr 23,[28]⟩ :: ⟨[.p 23 0,.o 0],_,[],Lr 24,[29]⟩ :: ⟨[.p 23 0,.p 24 0],_,[],Lr 25,[30]⟩ :: ⟨[.p 23 0,.p 25 0],_,[],Lr 26,[31]⟩ :: ⟨[.p 19 0,.p 23 0,.p 26 0],_,[],Lr 27,[32]⟩ :: ⟨[.p 16 0,.p 19 0,.p 27 0],_,[],Lr 28,[33]⟩ :: ⟨[.p 16 0,.p 28 0],_,[],Lr 29,[34]⟩ :: ⟨[.p 29 0],_,[],Lr 30,[35]⟩ :: ⟨[.p 30 0,.o 1],_,[],Lr 31,[36]⟩ :: ⟨[.p 30 0,.p 31 0],_,[],Lr 32,[37]⟩ :: ⟨[.p 30 0,.p 32 0],_,[],Lr 33,[38]⟩ :: ⟨[.p 33 0,.o 0],_,[],Lr 34,[39]⟩ :: ⟨[.p 33 0,.p 34 0],_,[],Lr 35,[40]⟩ :: ⟨[.p 33 0,.p 35 0],_,[],Lr 36,[41]⟩ :: ⟨[.p 30 0,.p 33 0,.p 36 0],_,[],Lr 37,[42]⟩ :: ⟨[.p 30 0,.p 37 0],_,[],Lr 38,[43]⟩ :: ⟨[.p 38 0],_,[],Lr 39,[44]⟩ :: ⟨[.p 39 0,.o 1],_,[],Lr 40,[45]⟩ :: ⟨[.p 39 0,.p 40 0],_,[],Lr 41,[46]⟩ :: ⟨[.p 39 0,.p 41 0],_,[],Lr 42,[47]⟩ :: ⟨[.p 42 0,.o 0],_,[],Lr 43,[48]⟩ :: ⟨[.p 42 0,.p 43 0],_,[],Lr 44,[49]⟩ :: ⟨[.p 42 0,.p 44 0],_,[],Lr 45,[50]⟩ :: ⟨[.p 42 0,.p 45 0],_,[],Lr 46,[51]⟩ :: ⟨[.p 46 0,.o 0],_,[],Lr 47,[52]⟩ :: ⟨[.p 46 0,.p 47 0],_,[],Lr 48,[53]⟩ :: ⟨[.p 46 0,.p 48 0],_,[],Lr 49,[54]⟩ :: ⟨[.p 46 0,.p 49 0],_,[],Lr 50,[55]⟩ :: ⟨[.p 42 0,.p 46 0,.p 50 0],_,[],Lr 51,[56]⟩ :: ⟨[.p 39 0,.p 42 0,.p 51 0],_,[],Lr 52,[57]⟩ :: ⟨[.p 39 0,.p 52 0],_,[],Lr 53,[58]⟩ :: ⟨[.p 53 0],_,[],Lr 54,[4]⟩ :: []) (F:=[.p 54 0]) hst hb Zb
  (Qf rfl Zwj u_0<|Ql rfl ty_4 u_0<|Qm rfl u_0<|o_g (Qg_f rfl (fun hG=>Zh Zh0 rfl rfl u_0))<|o_g (Qg_f rfl (fun hG=>Zo ty_9 rfl rfl (Opd.gd hG u_0)))<|o_g (Qg_f rfl (fun hG=>Zjj rfl rfl (Opd.gd hG u_0) c_s))<|o_p rfl (Zb3 rfl rfl u_0 (fun hz=>(Opd.gd (bNF hz) u_1)))<|Qm rfl u_0<|o_g (Qg_t rfl (fun hG=>Zh Zw0 rfl rfl u_0))<|o_g (Qg_t rfl (fun hG=>Zo ty_4 rfl rfl (Opd.gd hG u_0)))<|o_g (Qg_t rfl (fun hG=>Zbc rfl rfl (Opd.gd hG u_0)))<|o_g (Qg_fi rfl (fun hG=>Zh Zgp rfl rfl u_0))<|o_g (Qg_fi rfl (fun hG=>Zo ty_2 rfl rfl (Opd.gd hG u_0)))<|o_g (Qg_fi rfl (fun hG=>Zbq rfl rfl (Opd.gd hG u_0) c_i))<|o_g (Qg_t rfl (fun hG=>Zb3 rfl rfl (Opd.gd hG u_0) (fun hz=>(Opd.gd (bA hG (bNF hz)) u_1))))<|o_p rfl (Zbh rfl rfl u_0 (fun hz=>(Opd.gd hz u_1)))<|Qm rfl u_0<|o_g (Qg_t rfl (fun hG=>Zh Zqf rfl rfl u_0))<|o_g (Qg_t rfl (fun hG=>Zo ty_4 rfl rfl (Opd.gd hG u_0)))<|o_g (Qg_t rfl (fun hG=>Zbc rfl rfl (Opd.gd hG u_0)))<|o_g (Qg_fi rfl (fun hG=>Zh Zh1 rfl rfl u_0))<|o_g (Qg_fi rfl (fun hG=>Zo ty_2 rfl rfl (Opd.gd hG u_0)))<|o_g (Qg_fi rfl (fun hG=>Zbq rfl rfl (Opd.gd hG u_0) c_i))<|o_g (Qg_fi rfl (fun hG=>Zbc rfl rfl (Opd.gd hG u_0)))<|o_g (Qg_ti rfl (fun hG=>Zh Zhz rfl rfl u_0))<|o_g (Qg_ti rfl (fun hG=>Zo ty_2 rfl rfl (Opd.gd hG u_0)))<|o_g (Qg_ti rfl (fun hG=>Zbq rfl rfl (Opd.gd hG u_0) c_i))<|o_g (Qg_fi rfl (fun hG=>Zbh rfl rfl (Opd.gd hG u_0) (fun hz=>(Opd.gd (bA hG hz) u_1))))<|o_g (Qg_t rfl (fun hG=>Zb3 rfl rfl (Opd.gd hG u_0) (fun hz=>(Opd.gd (bA hG (bNF hz)) u_1))))<|o_p rfl (Zbh rfl rfl u_0 (fun hz=>(Opd.gd hz u_1)))<|Qm rfl u_0<|o_g (Qg_t rfl (fun hG=>Zh Zv4 rfl rfl u_0))<|o_g (Qg_t rfl (fun hG=>Zo ty_4 rfl rfl (Opd.gd hG u_0)))<|o_g (Qg_t rfl (fun hG=>Zbc rfl rfl (Opd.gd hG u_0)))<|o_g (Qg_fi rfl (fun hG=>Zh Zin rfl rfl u_0))<|o_g (Qg_fi rfl (fun hG=>Zo Zdo rfl rfl (Opd.gd hG u_0)))<|o_g (Qg_fi rfl (fun hG=>Zr Zk6 (Zf4 _ _ (Zbx h2 hG)) rfl rfl (.cons (Opd.gd hG u_0) (.cons c_f .nil))))<|o_g (Qg_t rfl (fun hG=>Zb3 rfl rfl (Opd.gd hG u_0) (fun hz=>(Opd.gd (bA hG (bNF hz)) u_1))))<|o_p rfl (Zbh rfl rfl u_0 (fun hz=>(Opd.gd hz u_1)))<|Qm rfl u_0<|o_g (Qg_t rfl (fun hG=>Zh Zqr rfl rfl u_0))<|o_g (Qg_t rfl (fun hG=>Zo ty_4 rfl rfl (Opd.gd hG u_0)))<|o_g (Qg_t rfl (fun hG=>Zbc rfl rfl (Opd.gd hG u_0)))<|o_g (Qg_fi rfl (fun hG=>Zh Zhc rfl rfl u_0))<|o_g (Qg_fi rfl (fun hG=>Zo ty_3 rfl rfl (Opd.gd hG u_0)))<|o_g (Qg_fi rfl (fun hG=>Zbq rfl rfl (Opd.gd hG u_0) c_i))<|o_g (Qg_fi rfl (fun hG=>Zbc rfl rfl (Opd.gd hG u_0)))<|o_g (Qg_ti rfl (fun hG=>Zh Zdm rfl rfl u_0))<|o_g (Qg_ti rfl (fun hG=>Zo Zfx rfl rfl (Opd.gd hG u_0)))<|o_g (Qg_ti rfl (fun hG=>Zch Tryd.underlying23 rfl rfl (Opd.gd hG u_0)))<|o_g (Qg_ti rfl (fun hG=>Zbq rfl rfl (Opd.gd hG u_0) c_i))<|o_g (Qg_fi rfl (fun hG=>Zbh rfl rfl (Opd.gd hG u_0) (fun hz=>(Opd.gd (bA hG hz) u_1))))<|o_g (Qg_t rfl (fun hG=>Zb3 rfl rfl (Opd.gd hG u_0) (fun hz=>(Opd.gd (bA hG (bNF hz)) u_1))))<|o_p rfl (Zbh rfl rfl u_0 (fun hz=>(Opd.gd hz u_1)))<|Qa rfl u_0<|o_n) (fun a g hst hb=>?_)
 refine wp_ret ?_
 obtain rfl:=Option.some.inj H0
 exact Zz rfl hst hb (Zi (s:=4)) (hst.at 0 rfl)
theorem Zjh (a0:Nat) (a1:Nat) {r:Bool} (h:Zg4 a0 a1=some r):FnOk Tryd.prog 56 [(pFlt a0),(pFlt a1)] (Z1 r):=by
 have H0:=h
 unfold Zg4 at H0
 clear h
 refine Zbv (N:=10) Tryd.func56 rfl rfl (Qe rfl) rfl rfl (fun a g0 hst hb=>?_)
 refine r_s (T:=[⟨[],_,[],[],[4]⟩]) (F:=[.o 0,.o 1]) hst hb Zb
  (Qa rfl c_b<|o_n) (fun a g hst hb=>?_)
 obtain ⟨r1,h2,H0⟩:=Zg H0;obtain ⟨r3,h4,H0⟩:=Zg H0
 refine r_s (T:=[⟨[.o 0],_,[],[],[5]⟩,⟨[.p 0 0],_,[],[0],[6]⟩,⟨[.o 1],_,[],[],[7]⟩,⟨[.p 2 0],_,[],[0,1,2],[8]⟩,⟨[.p 1 0,.p 3 0],_,[],Lr 4,[9]⟩,⟨[.p 4 0],_,[],Lr 5,[4]⟩]) (F:=[.p 5 0]) hst hb Zb
  (Qm rfl u_0<|o_p rfl (Zr Zoc (Zil _ h2) rfl rfl (.cons u_0 .nil))<|Qm rfl u_0<|o_p rfl (Zr Zoc (Zil _ h4) rfl rfl (.cons u_0 .nil))<|o_p rfl (Zdp rfl rfl u_0 u_1)<|Qa rfl u_0<|o_n) (fun a g hst hb=>?_)
 refine wp_ret ?_
 obtain rfl:=Option.some.inj H0
 exact Zz rfl hst hb (Zi (s:=4)) (hst.at 0 rfl)
theorem Zii (a0:Zc) (a1:Zc) {r:Bool} (h:Zfv a0 a1=some r):FnOk Tryd.prog 54 [(Zj.pd a0),(Zj.pd a1)] (Z1 r):=by
 have H0:=h
 unfold Zfv at H0
 clear h
 refine Zbv (N:=21) Tryd.func54 rfl rfl (Qe rfl) rfl rfl (fun a g0 hst hb=>?_)
 refine r_s (T:=[⟨[.o 0],_,[],[],[2]⟩,⟨[.o 1],_,[],[],[3]⟩,⟨[],_,[],[],[4]⟩]) (F:=[.p 0 0,.p 1 0]) hst hb Zb
  (Qb rfl u_0<|Qb rfl u_0<|Qa rfl c_b<|o_n) (fun a g hst hb=>?_)
 refine wp_seq ?_
 obtain ⟨r1,h2,H0⟩:=Zg H0
 refine r_s (T:=[⟨[.o 0],_,[],[],[5]⟩,⟨[.p 0 0],_,[],[0],[6]⟩,⟨[.o 1],_,[],[],[7]⟩,⟨[.p 2 0],_,[],[2],[8]⟩,⟨[.p 1 0,.p 3 0],_,[],Lr 4,[9]⟩,⟨[.p 4 0],_,[],Lr 5,[10]⟩]) (F:=[.o 0,.o 1,.p 5 0]) hst hb Zb
  (Qf rfl Zf5 u_0<|Ql rfl Zdo u_0<|Qf rfl Zf5 u_0<|Ql rfl Zdo u_0<|o_p rfl (Zr Zk6 (Zf4 _ _ h2) rfl rfl (.cons u_0 (.cons u_1 .nil)))<|Qn rfl u_0<|o_n) (fun a g hst hb=>?_)
 refine wp_cond_split (hst.bool 2 rfl) (fun hc3=>?_) (fun hc3=>?_)
 ·replace H0:=Z2 hc3 H0
  obtain ⟨r4,h5,H0⟩:=Zg H0
  refine r_s (L:=[(2,_),(3,_)]) (T:=[⟨[.o 1],_,[],[],[11]⟩,⟨[.p 0 0],_,[],[0],[12]⟩,⟨[.o 0],_,[],[],[13]⟩,⟨[.p 2 0],_,[],[2],[14]⟩,⟨[.p 1 0,.p 3 0],_,[],Lr 4,[15]⟩,⟨[.p 4 0],_,[],Lr 5,[4]⟩]) (F:=[.p 5 0]) (hst.pick [0,1] rfl) hb Zb
   (Qf rfl Zf5 u_0<|Ql rfl Zdo u_0<|Qf rfl Zf5 u_0<|Ql rfl Zdo u_0<|o_p rfl (Zr Zrg (Zjh _ _ h5) rfl rfl (.cons u_0 (.cons u_1 .nil)))<|Qa rfl u_0<|o_n) (fun a g hst hb=>?_)
  refine wp_ret ?_
  refine Zp ?_
  obtain rfl:=Option.some.inj H0
  exact Zz rfl hst hb (Zi (s:=4)) (hst.at 0 rfl)
 ·replace H0:=Z3 hc3 H0
  refine wp_skip ?_
  refine Zy ?_
  refine r_s (L:=[(2,_),(3,_)]) (T:=[⟨[.o 0],_,[],[],[16]⟩,⟨[.p 0 0],_,[],[0],[17]⟩,⟨[.o 1],_,[],[],[18]⟩,⟨[.p 2 0],_,[],[2],[19]⟩,⟨[.p 1 0,.p 3 0],_,[],Lr 4,[20]⟩,⟨[.p 4 0],_,[],Lr 5,[4]⟩]) (F:=[.p 5 0]) (hst.pick [0,1] rfl) hb Zb
   (Qf rfl Ze0 u_0<|Ql rfl ty_9 u_0<|Qf rfl Ze0 u_0<|Ql rfl ty_9 u_0<|o_p rfl (Zr0 rfl rfl u_0 u_1)<|Qa rfl u_0<|o_n) (fun a g hst hb=>?_)
  refine wp_ret ?_
  obtain rfl:=Option.some.inj H0
  exact Zz rfl hst hb (Zi (s:=4)) (hst.at 0 rfl)
end Go.CL
