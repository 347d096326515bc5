/- A part of the proof of HeatMarks. -/
import Derived.Test.YtbbmlejgoepmfaaDoorHeatMarksC1
import Derived.Maps.RangeRun
import Derived.Shelf.SlSortCmp.NoneTotal
import Derived.Shelf.SlMaps.Clone
import Derived.Laws.StructEq
import Derived.Laws.BytesString
import Derived.Test.YtbbmlejgoepmfaaDoorProg
import Derived.Laws.Strings
import Derived.Defers
import Derived.Recover
set_option linter.unusedVariables false
set_option linter.unusedSimpArgs false
set_option maxRecDepth 100000
namespace Go.CL
open Go Go.RowKit
section
variable {P:Program} {N:Nat} {o:Oper} {uses outs:Zf} {S:List Nat} {d:Nat} {q:Pd} {x y z:Operand} {mt kt et:TypeId}
abbrev SEnt:=(ByteArray × Int) × Nat
def ent (e:SEnt):MapEntry:={ key:=.string e.1.1,val:=.int .i64 e.1.2,born:=e.2 }
structure SRel (m:List (ByteArray × Int)) (l:List SEnt) (clock:Nat):Prop where
 perm:(l.map (·.1)).Perm m
 born:(l.map (·.2)).Nodup
 ahead:∀ e ∈ l,e.2 < clock
 keys:(m.map (·.1)).Nodup
def getS:List (ByteArray × Int) → ByteArray → Option Int
 | [],_=>none
 | e :: m,k=>if e.1=k then some e.2 else getS m k
theorem Zge {k:ByteArray} {n:Int}:∀ {m:List (ByteArray × Int)},(m.map (·.1)).Nodup → (k,n) ∈ m → getS m k=some n
 | [],_,h=>by cases h
 | e :: m,hn,h=>by
   obtain ⟨h1,h2⟩:=List.nodup_cons.1 hn
   simp only [getS]
   rcases List.mem_cons.1 h with rfl | h
   · rw [if_pos rfl]
   · rw [if_neg (fun he=>h1 (List.mem_map.2 ⟨(k,n),h,he.symm⟩))]
     exact Zge h2 h
theorem Zdu {k:ByteArray}:∀ {m:List (ByteArray × Int)},(∀ e ∈ m,e.1 ≠ k) → getS m k=none
 | [],_=>rfl
 | e :: m,h=>by
   simp only [getS]
   rw [if_neg (h e (List.mem_cons_self ..))]
   exact Zdu fun e he=>h e (List.mem_cons_of_mem _ he)
theorem Zf9 (a b:ByteArray):Instr.sameNow .string (.string a) (.string b)=some (a == b):=by simp [Instr.sameNow]
theorem Zlt (a b:ByteArray):(a == b)=decide (a=b):=by
 by_cases h:a=b
 · rw [decide_eq_true h];exact (MapKept.bytes_beq a b).2 h
 · rw [decide_eq_false h,Bool.eq_false_iff]
   exact fun e=>h ((MapKept.bytes_beq a b).1 e)
theorem Zgr {k:ByteArray}:∀ (l:List SEnt) (i:Nat),(∃ j e,l[j]?=some e ∧ e.1.1=k ∧ Instr.findNow .string (.string k) (l.map ent) i=some (some (i + j,.int .i64 e.1.2))) ∨ (Instr.findNow .string (.string k) (l.map ent) i=some none ∧ ∀ e ∈ l,e.1.1 ≠ k)
 | [],i=>.inr ⟨rfl,fun e h=>by cases h⟩
 | e :: l,i=>by
   by_cases he:e.1.1=k
   · refine .inl ⟨0,e,rfl,he,?_⟩
     have hb:(k == e.1.1)=true:=by rw [Zlt];exact decide_eq_true he.symm
     simp [Instr.findNow,ent,Zf9,hb]
   · have hb:(k == e.1.1)=false:=by rw [Zlt];exact decide_eq_false fun h=>he h.symm
     have hf:Instr.findNow .string (.string k) ((e :: l).map ent) i=Instr.findNow .string (.string k) (l.map ent) (i + 1):=by
       simp [Instr.findNow,ent,Zf9,hb]
     rw [hf]
     rcases Zgr (k:=k) l (i + 1) with ⟨j,e2,h1,h2,h3⟩ | ⟨h1,h2⟩
     · exact .inl ⟨j + 1,e2,h1,h2,by rw [h3];congr 3;omega⟩
     · exact .inr ⟨h1,fun e' he'=>(List.mem_cons.1 he').elim (fun h=>by rw [h];exact he) (h2 e')⟩
theorem SRel.get {m:List (ByteArray × Int)} {l:List SEnt} {clock:Nat} (h:SRel m l clock) {e:SEnt} (he:e ∈ l):getS m e.1.1=some e.1.2:=Zge h.keys (h.perm.mem_iff.1 (List.mem_map.2 ⟨e,he,rfl⟩))
theorem SRel.miss {m:List (ByteArray × Int)} {l:List SEnt} {clock:Nat} (h:SRel m l clock) {k:ByteArray} (hk:∀ e ∈ l,e.1.1 ≠ k):getS m k=none:=Zdu fun e he=>by
 obtain ⟨e2,h1,rfl⟩:=List.mem_map.1 (h.perm.mem_iff.2 he)
 exact hk e2 h1
def Zeo (g:G) (b:Nat) (m:List (ByteArray × Int)) (l:List SEnt) (clock:Nat):Prop:=b < g.w.heap.size ∧ g.w.heap[b]?=some (.map (l.map ent).toArray clock) ∧ SRel m l clock
def Kd.mapS:Kd (List (ByteArray × Int)) where
 sz:=1
 ag:=false
 K:=fun g m cs=>(cs=[.map none] ∧ m=[]) ∨ ∃ b l clock,cs=[.map (some b)] ∧ (∀ o,g.pr b o) ∧ Zeo g b m l clock
 len:=by
   rintro _ _ _ (⟨rfl,_⟩ | ⟨_,_,_,rfl,_⟩) <;> rfl
 one:=by
   rintro _ _ _ (⟨rfl,_⟩ | ⟨_,_,_,rfl,_⟩) u hu <;> (rw [List.mem_singleton.1 hu];rfl)
 mono:=by
   rintro _ _ _ _ hle (h | ⟨b,l,clock,h,h1,h2,h3,h4⟩)
   · exact .inl h
   · exact .inr ⟨b,l,clock,h,fun o=>hle.pr _ _ (h1 o),Nat.lt_of_lt_of_le h2 hle.size,(hle.blk b h1).trans h3,h4⟩
 nag:=fun _=>rfl
theorem isKS (k:ByteArray):MapKept.IsKey .string (.string k):=by simp [MapKept.IsKey]
theorem Zj6 {m:List (ByteArray × Int)} {k:ByteArray} (hm:P.underlying mt=some (.map kt et)) (hk:P.underlying kt=some .string) (hz:(P.info? et).bind (·.zero)=some (.int .i64 0)) (hop:o.op=.lookup mt x y false) (hd:o.dst=some d) (hx:Opd uses x (Kd.mapS.pd m)) (hy:Opd uses y (pStr k)):OB P N o uses [(d,pInt .i64 ((getS m k).getD 0))] [] :=
 Z0 hd fun a g hh=>by
   have hn:=Zcu.1 (hy a g hh)
   obtain ⟨cs,hK,hv⟩:=hx a g hh
   rcases hK with ⟨rfl,rfl⟩ | ⟨b,l,clock,rfl,h1,h2,h3,h4⟩
   · have hv:a.eval x=.map none:=hv
     have hc:∀ e w,(Instr.checkKey e 10000 kt (.string k)).run P w=.ok () w:=fun e w=>MapKept.run_checkKey (k:=.string k) hk (isKS k) _ 9999
     refine ⟨.int .i64 0,?_,Zck _ _ g⟩
     simp [execOp,hop,hv,hn,Instr.lookup,run_underlying hm,hc,MapKept.run_findKey (l:=[]) (a:=none) hk rfl,Zga hz,Result.andThen]
   · have hv:a.eval x=.map (some b):=hv
     have hc:∀ e w,(Instr.checkKey e 10000 kt (.string k)).run P w=.ok () w:=fun e w=>MapKept.run_checkKey (k:=.string k) hk (isKS k) _ 9999
     rcases Zgr (k:=k) l 0 with ⟨j,e,k1,k2,k3⟩ | ⟨k1,k2⟩
     · have hg:getS m k=some e.1.2:=by rw [← k2];exact h4.get (List.mem_of_getElem? k1)
       refine ⟨.int .i64 e.1.2,?_,by rw [hg];exact Zck _ _ g⟩
       simp [execOp,hop,hv,hn,Instr.lookup,run_underlying hm,MapKept.run_getObj_map h3,hc,MapKept.run_findKey hk k3,Result.andThen]
     · have hg:getS m k=none:=h4.miss k2
       refine ⟨.int .i64 0,?_,by rw [hg];exact Zck _ _ g⟩
       simp [execOp,hop,hv,hn,Instr.lookup,run_underlying hm,MapKept.run_getObj_map h3,hc,MapKept.run_findKey hk k1,Zga hz,Result.andThen]
variable {j:Nat}
def Zbk (j:Nat) (m:List (ByteArray × Int)):Pd where
 p:=fun g u=>∃ b l clock,u=.map (some b) ∧ g.own b=j + 1 ∧ (∀ b',b' < g.w.heap.size → g.own b'=j + 1 → b'=b) ∧ (∀ o,¬ g.pr b o) ∧ Zeo g b m l clock
 fp:=[j + 1]
 st:=fun {S g g' v} st hd ⟨b,l,clock,e,h2,h3,h5,h1,h4,h6⟩=>by
   have hj:j + 1 ∉ S:=hd _ (by simp)
   obtain ⟨k1,k2,k3⟩:=st.same b h1 (by rw [h2];exact hj)
   exact ⟨b,l,clock,e,k3.trans h2,Zfa st hj (by omega) h3,fun o=>by rw [k2];exact h5 o,Nat.lt_of_lt_of_le h1 st.le.size,k1.trans h4,h6⟩
theorem Zme (clock:Nat):SRel [] [] clock:=⟨.refl _,List.nodup_nil,fun e h=>(by cases h),List.nodup_nil⟩
theorem Zi9 (hop:o.op=.makeMap mt none) (hd:o.dst=some d):OB P N o uses [(d,Zbk j [])] [j + 1] :=
 Zco hd fun a g hh=>by
   refine ⟨.map (some g.w.heap.size),g.pushO (.map #[] 0) (j + 1),?_,Zd5 ..,g.w.heap.size,[],0,rfl,?_,fun b' hb' ho=>?_,fun o h=>?_,?_,Zce _ _,Zme 0⟩
   · simp [execOp,hop,Instr.makeMap];rfl
   · simp [G.pushO]
   · simp only [G.pushO] at ho
     split at ho
     · assumption
     · split at ho
       · omega
       · rename_i hne;exact absurd ho hne
   · exact absurd (g.hpr _ _ h) (by omega)
   · show _ < (g.w.alloc _).heap.size;rw [Z7];omega
def setS (m:List (ByteArray × Int)) (k:ByteArray) (n:Int):List (ByteArray × Int):=(k,n) :: m.filter fun e=>decide (e.1 ≠ k)
def delS (m:List (ByteArray × Int)) (k:ByteArray):List (ByteArray × Int):=m.filter fun e=>decide (e.1 ≠ k)
theorem Zhp {m:List (ByteArray × Int)} (h:(m.map (·.1)).Nodup) (k:ByteArray):((delS m k).map (·.1)).Nodup:=List.Nodup.sublist (List.Sublist.map _ List.filter_sublist) h
theorem Zfo {m:List (ByteArray × Int)} (h:(m.map (·.1)).Nodup) (k:ByteArray) (n:Int):((setS m k n).map (·.1)).Nodup:=by
 unfold setS
 rw [List.map_cons]
 refine List.nodup_cons.2 ⟨fun hm=>?_,Zhp h k⟩
 obtain ⟨e,he,hk⟩:=List.mem_map.1 hm
 have:=(List.mem_filter.1 he).2
 simp at this
 exact this hk
theorem SRel.push {m:List (ByteArray × Int)} {l:List SEnt} {clock:Nat} (h:SRel m l clock) {k:ByteArray} (hk:∀ e ∈ l,e.1.1 ≠ k) (n:Int):SRel (setS m k n) (l ++ [((k,n),clock)]) (clock + 1):=by
 refine ⟨?_,?_,fun e he=>?_,Zfo h.keys k n⟩
 · have hf : m.filter (fun e => decide (e.1 ≠ k)) = m := List.filter_eq_self.2 fun e he => by
     obtain ⟨e2,h1,rfl⟩:=List.mem_map.1 (h.perm.mem_iff.2 he)
     simpa using hk e2 h1
   unfold setS
   rw [hf,List.map_append]
   refine (List.perm_append_comm (l₁:=l.map (·.1)) (l₂:=[(k,n)])).trans ?_
   exact List.Perm.cons (k,n) h.perm
 · rw [List.map_append]
   refine List.nodup_append.2 ⟨h.born,by simp,fun a ha b hb=>?_⟩
   obtain ⟨e,he,rfl⟩:=List.mem_map.1 ha
   have:=h.ahead e he
   simp at hb
   omega
 · rcases List.mem_append.1 he with he | he
   · have:=h.ahead e he;omega
   · rw [List.mem_singleton.1 he];show clock < clock + 1;omega
theorem Zgg {α:Type} {l:List α} {i:Nat} {e:α} (h:l[i]?=some e):l=l.take i ++ e :: l.drop (i + 1):=by
 obtain ⟨hl,he⟩:=List.getElem?_eq_some_iff.1 h
 rw [← he,← List.drop_eq_getElem_cons hl,List.take_append_drop]
theorem SRel.others {m:List (ByteArray × Int)} {l:List SEnt} {clock:Nat} (h:SRel m l clock) {i:Nat} {e:SEnt} (he:l[i]?=some e):((l.take i ++ l.drop (i + 1)).map (·.1)).Perm (delS m e.1.1):=by
 have hs:=Zgg he
 have hkn:((l.map (·.1)).map (·.1)).Nodup:=(h.perm.map (·.1)).nodup_iff.2 h.keys
 have hf:(l.map (·.1)).filter (fun x=>decide (x.1 ≠ e.1.1))=(l.take i ++ l.drop (i + 1)).map (·.1):=by
   rw [hs] at hkn
   conv=>lhs;rw [hs]
   rw [List.map_append,List.map_cons,List.filter_append,List.filter_cons_of_neg (by simp),List.map_append]
   rw [List.map_append,List.map_append,List.map_cons,List.map_cons] at hkn
   obtain ⟨n1,n2,n3⟩:=List.nodup_append.1 hkn
   obtain ⟨n4,n5⟩:=List.nodup_cons.1 n2
   have f1:((l.take i).map (·.1)).filter (fun x=>decide (x.1 ≠ e.1.1))=(l.take i).map (·.1):=List.filter_eq_self.2 fun x hx=>by
     have:=n3 x.1 (List.mem_map.2 ⟨x,hx,rfl⟩) e.1.1 (List.mem_cons_self ..)
     simpa using this
   have f2:((l.drop (i + 1)).map (·.1)).filter (fun x=>decide (x.1 ≠ e.1.1))=(l.drop (i + 1)).map (·.1):=List.filter_eq_self.2 fun x hx=>by
     have:x.1 ≠ e.1.1:=fun h=>n4 (by rw [← h];exact List.mem_map.2 ⟨x,hx,rfl⟩)
     simpa using this
   rw [f1,f2]
 rw [← hf]
 exact h.perm.filter _
theorem SRel.set {m:List (ByteArray × Int)} {l:List SEnt} {clock:Nat} (h:SRel m l clock) {i:Nat} {e:SEnt} (he:l[i]?=some e) (n:Int):SRel (setS m e.1.1 n) (l.set i ((e.1.1,n),e.2)) clock:=by
 have hil:=(List.getElem?_eq_some_iff.1 he).1
 have hset:l.set i ((e.1.1,n),e.2)=l.take i ++ ((e.1.1,n),e.2) :: l.drop (i + 1):=by
   rw [List.set_eq_take_append_cons_drop,if_pos hil]
 have hs:=Zgg he
 refine ⟨?_,?_,fun x hx=>?_,Zfo h.keys _ n⟩
 · rw [hset,List.map_append,List.map_cons]
   have:=h.others he
   rw [List.map_append] at this
   exact List.perm_middle.trans (List.Perm.cons _ this)
 · have:=h.born
   rw [hs,List.map_append,List.map_cons] at this
   rw [hset,List.map_append,List.map_cons]
   exact this
 · rcases List.mem_or_eq_of_mem_set hx with hx | rfl
   · exact h.ahead x hx
   · exact h.ahead e (List.mem_of_getElem? he)
theorem SRel.del {m:List (ByteArray × Int)} {l:List SEnt} {clock:Nat} (h:SRel m l clock) {i:Nat} {e:SEnt} (he:l[i]?=some e):SRel (delS m e.1.1) (l.eraseIdx i) clock:=by
 rw [List.eraseIdx_eq_take_drop_succ]
 refine ⟨h.others he,?_,fun x hx=>?_,Zhp h.keys _⟩
 · rw [List.map_append]
   have:=h.born
   rw [Zgg he,List.map_append,List.map_cons] at this
   exact List.Nodup.sublist (List.Sublist.append_left (List.sublist_cons_self _ _) _) this
 · rcases List.mem_append.1 hx with hx | hx
   · exact h.ahead x (List.mem_of_mem_take hx)
   · exact h.ahead x (List.mem_of_mem_drop hx)
theorem SRel.len {m:List (ByteArray × Int)} {l:List SEnt} {clock:Nat} (h:SRel m l clock):l.length=m.length:=by
 have:=h.perm.length_eq
 rwa [List.length_map] at this
theorem Zkv {l:List SEnt} {i:Nat} {e:SEnt} (he:l[i]?=some e) (n:Int):(l.map ent).toArray.modify i (fun x=>{ x with key:=.string e.1.1,val:=.int .i64 n })=((l.set i ((e.1.1,n),e.2)).map ent).toArray:=by
 apply Array.ext'
 rw [Array.toList_modify]
 apply List.ext_getElem?
 intro k
 simp only [List.getElem?_modify,List.getElem?_map,List.getElem?_set]
 obtain ⟨hil,he2⟩:=List.getElem?_eq_some_iff.1 he
 by_cases hk:i=k
 · subst hk
   simp [hil,ent,he2]
 · simp [hk]
theorem Zl7 {m : List (ByteArray × Int)} {k : ByteArray} {n : Int} {b clock : Nat} {l : List SEnt} {g : G} (hm : P.underlying mt = some (.map kt et)) (hk : P.underlying kt = some .string) (h : Zeo g b m l clock) :
   ∃ l' clock',(Instr.mapUpdate mt (.map (some b)) (.string k) (.int .i64 n)).run P g.w=.ok () (World.put g.w b (.map (l'.map ent).toArray clock')) ∧ SRel (setS m k n) l' clock':=by
 obtain ⟨h1,h2,h3⟩:=h
 have hc':(Instr.checkKey false 10000 kt (.string k)).run P g.w=.ok () g.w:=MapKept.run_checkKey (k:=.string k) hk (isKS k) _ 9999
 rcases Zgr (k:=k) l 0 with ⟨j,e,k1,k2,k3⟩ | ⟨k1,k2⟩
 · rw [Nat.zero_add] at k3
   subst k2
   refine ⟨_,clock,?_,h3.set k1 n⟩
   have hky:(((l.map ent).toArray[j]?).map (·.key)).getD (Value.string e.1.1)=.string e.1.1:=by
     simp [k1,ent]
   have hst:(Instr.keyThatStays (.string e.1.1) (.string e.1.1)).run P g.w=.ok (.string e.1.1) g.w:=MapKept.run_keyThatStays (isKS _)
   rw [← Zkv k1 n]
   simp only [Instr.mapUpdate,Sem.run_bind,run_underlying hm,Result.andThen_ok,MapKept.run_getObj_map h2,hc',List.toList_toArray,MapKept.run_findKey hk k3,hky,hst,MapKept.run_setObj_map _ h2]
   rfl
 · refine ⟨_,clock + 1,?_,h3.push k2 n⟩
   simp only [Instr.mapUpdate,Sem.run_bind,run_underlying hm,Result.andThen_ok,MapKept.run_getObj_map h2,hc',List.toList_toArray,MapKept.run_findKey hk k1,MapKept.run_setObj_map _ h2]
   simp [World.put,ent]
theorem Zgk {s:Nat} {m:List (ByteArray × Int)} {k:ByteArray} {n:Int} (hm:P.underlying mt=some (.map kt et)) (hk:P.underlying kt=some .string) (hop:o.op=.mapUpdate mt x y z) (hd:o.dst=none) (hs:Opd uses (.tmp s) (Zbk j m)) (hx:Opd uses x (Zbk j m)) (hy:Opd uses y (pStr k)) (hz:Opd uses z (pInt .i64 n)):OB P N o uses [(s,Zbk j (setS m k n))] [j + 1] :=
 Zeu hd fun a g hh=>by
   obtain ⟨b,l,clock,hv,h2,h3,h5,hat⟩:=hs a g hh
   obtain ⟨b2,l2,clock2,hv2,h22,h32,h52,hat2⟩:=hx a g hh
   obtain rfl:=h3 b2 hat2.1 h22
   have hky:=Zcu.1 (hy a g hh)
   have hn:=Zbl.1 (hz a g hh)
   obtain ⟨l',clock',hr,hrel⟩:=Zl7 (n:=n) (k:=k) hm hk hat
   have hst:Step [j + 1] g (g.putO b2 (.map (l'.map ent).toArray clock') h5):=by have:=Zfp (ob:=.map (l'.map ent).toArray clock') h5;rw [h2] at this;exact this
   refine ⟨g.putO b2 (.map (l'.map ent).toArray clock') h5,by simp [execOp,hop,hv2,hky,hn,hr];rfl,hst,fun e he=>?_⟩
   rw [List.mem_singleton.1 he]
   exact ⟨b2,l',clock',hv,h2,fun b' hb' ho=>h3 b' (by have hb':b' < (World.put _ _ _).heap.size:=hb';rw [Zbw] at hb';exact hb') ho,h5,by show b2 < (World.put _ _ _).heap.size;rw [Zbw];exact hat.1,Zh8 _ _ _ hat.1,hrel⟩
theorem Zk3 {m : List (ByteArray × Int)} {k : ByteArray} {b clock : Nat} {l : List SEnt} {g : G} (hm : P.underlying mt = some (.map kt et)) (hk : P.underlying kt = some .string) (hz : (P.info? et).bind (·.zero) = some (.int .i64 0)) (h : Zeo g b m l clock) :
   (Instr.lookup mt (.map (some b)) (.string k) false).run P g.w=.ok (.int .i64 ((getS m k).getD 0)) g.w:=by
 obtain ⟨h1,h3,h4⟩:=h
 have hc:∀ e w,(Instr.checkKey e 10000 kt (.string k)).run P w=.ok () w:=fun e w=>MapKept.run_checkKey (k:=.string k) hk (isKS k) _ 9999
 rcases Zgr (k:=k) l 0 with ⟨j,e,k1,k2,k3⟩ | ⟨k1,k2⟩
 · have hg:getS m k=some e.1.2:=by rw [← k2];exact h4.get (List.mem_of_getElem? k1)
   rw [hg]
   simp [Instr.lookup,run_underlying hm,MapKept.run_getObj_map h3,hc,MapKept.run_findKey hk k3,Result.andThen]
 · have hg:getS m k=none:=h4.miss k2
   rw [hg]
   simp [Instr.lookup,run_underlying hm,MapKept.run_getObj_map h3,hc,MapKept.run_findKey hk k1,Zga hz,Result.andThen]
theorem Zi7 {m:List (ByteArray × Int)} {k:ByteArray} (hm:P.underlying mt=some (.map kt et)) (hk:P.underlying kt=some .string) (hz:(P.info? et).bind (·.zero)=some (.int .i64 0)) (hop:o.op=.lookup mt x y false) (hd:o.dst=some d) (hx:Opd uses x (Zbk j m)) (hy:Opd uses y (pStr k)):OB P N o uses [(d,pInt .i64 ((getS m k).getD 0))] [] :=
 Z0 hd fun a g hh=>by
   have hn:=Zcu.1 (hy a g hh)
   obtain ⟨b,l,clock,hv,h2,h3,h5,hat⟩:=hx a g hh
   exact ⟨_,by simp [execOp,hop,hv,hn,Zk3 hm hk hz hat],Zck _ _ g⟩
theorem Zl3 {m:List (ByteArray × Int)} {k:ByteArray} (h:∀ e ∈ m,e.1 ≠ k):delS m k=m:=List.filter_eq_self.2 fun e he=>by simpa using h e he
theorem SRel.noDel {m:List (ByteArray × Int)} {l:List SEnt} {clock:Nat} (h:SRel m l clock) {k:ByteArray} (hk:∀ e ∈ l,e.1.1 ≠ k):delS m k=m:=Zl3 fun e he=>by
 obtain ⟨e2,h1,rfl⟩:=List.mem_map.1 (h.perm.mem_iff.2 he)
 exact hk e2 h1
theorem Zkx {l:List SEnt} {i:Nat} (hi:i < l.length):(l.map ent).toArray.eraseIdxIfInBounds i=((l.eraseIdx i).map ent).toArray:=by
 apply Array.ext'
 rw [Array.eraseIdxIfInBounds,dif_pos (by simpa using hi),Array.toList_eraseIdx]
 rw [List.toList_toArray,List.toList_toArray,List.eraseIdx_eq_take_drop_succ,List.eraseIdx_eq_take_drop_succ,List.map_append,List.map_take,List.map_drop]
theorem Zjf {m : List (ByteArray × Int)} {k : ByteArray} {b clock : Nat} {l : List SEnt} {g : G} {ty : TypeId} {tys : Array TypeId} (ht : tys[0]? = some mt) (hm : P.underlying mt = some (.map kt et)) (hk : P.underlying kt = some .string) (h : Zeo g b m l clock) :
   ∃ l',(Builtin.delete_ tys ty #[.map (some b),.string k]).run P g.w=.ok (.tuple #[]) (World.put g.w b (.map (l'.map ent).toArray clock)) ∧ SRel (delS m k) l' clock:=by
 obtain ⟨h1,h2,h3⟩:=h
 have hc:∀ e w,(Instr.checkKey e 10000 kt (.string k)).run P w=.ok () w:=fun e w=>MapKept.run_checkKey (k:=.string k) hk (isKS k) _ 9999
 rcases Zgr (k:=k) l 0 with ⟨j,e,k1,k2,k3⟩ | ⟨k1,k2⟩
 · rw [Nat.zero_add] at k3
   subst k2
   refine ⟨_,?_,h3.del k1⟩
   rw [← Zkx (List.getElem?_eq_some_iff.1 k1).1]
   simp [Builtin.delete_,ht,run_underlying hm,MapKept.run_getObj_map h2,hc,MapKept.run_findKey hk k3,MapKept.run_setObj_map _ h2,Result.andThen,World.put]
 · refine ⟨l,?_,by rw [h3.noDel k2];exact h3⟩
   simp [Builtin.delete_,ht,run_underlying hm,MapKept.run_getObj_map h2,hc,MapKept.run_findKey hk k1,MapKept.run_setObj_map _ h2,Result.andThen,World.put]
theorem Zmw {S:List Nat} {outs:Zf} (hd:o.dst=none) (h:∀ (a:Act) g,Zbd uses a g → ∃ v g',(execOp a.eval o).run P g.w=.ok (.value v) g'.w ∧ Step S g g' ∧ ∀ e ∈ outs,e.2.p g' (Act.at a e.1)):OB P N o uses outs S:=by
 intro a g K Q hN hdN hu hK
 obtain ⟨v,g',hr,hs,hq⟩:=h a g hu
 unfold Oper.wp
 rw [hr]
 refine hK v g' hs fun e he=>?_
 rw [hd]
 exact hq e he
theorem Zmb {m:List (ByteArray × Int)} (hm:P.underlying mt=some (.map kt et)) (hop:o.op=.call { callee:=.builtin .len,args:=#[x],argTypes:=#[mt] }) (hd:o.dst=some d) (hx:Opd uses x (Kd.mapS.pd m)):OB P N o uses [(d,pInt .i64 (m.length:Int))] [] :=
 Z0 hd fun a g hh=>by
   obtain ⟨cs,hK,hv⟩:=hx a g hh
   rcases hK with ⟨rfl,rfl⟩ | ⟨b,l,clock,rfl,h1,h2,h3,h4⟩
   · have hv:a.eval x=.map none:=hv
     exact ⟨.int .i64 0,by simp [execOp,hop,resolve,invoke,builtin,Builtin.len_,run_underlying hm,hv,goInt],Zck _ _ g⟩
   · have hv:a.eval x=.map (some b):=hv
     rw [← h4.len]
     exact ⟨.int .i64 (l.length:Int),by simp [execOp,hop,resolve,invoke,builtin,Builtin.len_,run_underlying hm,hv,goInt,MapKept.run_getObj_map h3,Result.andThen],Zck _ _ g⟩
structure IterAt (g:G) (j r:Nat) (seen:Array Nat) (l:List SEnt) (b clock:Nat):Prop where
 lt:r < g.w.heap.size
 own:g.own r=j + 1
 uniq:∀ b',b' < g.w.heap.size → g.own b'=j + 1 → b'=r
 npr:∀ o,¬ g.pr r o
 it:g.w.heap[r]?=some (.mapIter (some b) clock seen clock)
 pr:∀ o,g.pr b o
 blt:b < g.w.heap.size
 map:g.w.heap[b]?=some (.map (l.map ent).toArray clock)
 ahead:∀ e ∈ l,e.2 < clock
 born:(l.map (·.2)).Nodup
theorem IterAt.st {g g':G} {S:List Nat} {r:Nat} {seen:Array Nat} {l:List SEnt} {b clock:Nat} (h:IterAt g j r seen l b clock) (st:Step S g g') (hj:j + 1 ∉ S):IterAt g' j r seen l b clock:=by
 obtain ⟨k1,k2,k3⟩:=st.same r h.lt (by rw [h.own];exact hj)
 exact ⟨Nat.lt_of_lt_of_le h.lt st.le.size,k3.trans h.own,Zfa st hj (by omega) h.uniq,fun o=>by rw [k2];exact h.npr o,k1.trans h.it,fun o=>st.le.pr _ _ (h.pr o),Nat.lt_of_lt_of_le h.blt st.le.size,(st.le.blk b h.pr).trans h.map,h.ahead,h.born⟩
def Zc7 (seen:Array Nat) (l:List SEnt):List SEnt:=l.filter fun e=>!seen.contains e.2
def Zfc (j:Nat) (left:List (ByteArray × Int)):Pd where
 p:=fun g u=>∃ r,u=.pointer (some ⟨r,0,none⟩) ∧ ((left=[] ∧ r < g.w.heap.size ∧ g.own r=j + 1 ∧ g.w.heap[r]?=some (.mapIter none 0 #[] 0)) ∨ ∃ seen l b clock,IterAt g j r seen l b clock ∧ ((Zc7 seen l).map (·.1)).Perm left)
 fp:=[j + 1]
 st:=fun {S g g' v} st hd ⟨r,e,h⟩=>by
   have hj:j + 1 ∉ S:=hd _ (by simp)
   rcases h with ⟨hl,h1,h2,h3⟩ | ⟨seen,l,b,clock,h,hp⟩
   · obtain ⟨k1,k2,k3⟩:=st.same r h1 (by rw [h2];exact hj)
     exact ⟨r,e,.inl ⟨hl,Nat.lt_of_lt_of_le h1 st.le.size,k3.trans h2,k1.trans h3⟩⟩
   · exact ⟨r,e,.inr ⟨seen,l,b,clock,h.st st hj,hp⟩⟩
def Zci (j:Nat) (kn:ByteArray × Int) (left:List (ByteArray × Int)):Pd where
 p:=fun g u=>∃ (r:Nat) (seen:Array Nat) (l:List SEnt) (b clock:Nat) (e:SEnt),u=.pointer (some ⟨r,0,none⟩) ∧ IterAt g j r (seen.push e.2) l b clock ∧ e ∈ l ∧ e.1=kn ∧ ((Zc7 (seen.push e.2) l).map (·.1)).Perm left
 fp:=[j + 1]
 st:=fun {S g g' v} st hd ⟨r,seen,l,b,clock,e,h1,h2,h3,h4,h5⟩=>⟨r,seen,l,b,clock,e,h1,h2.st st (hd _ (by simp)),h3,h4,h5⟩
theorem Zfb {kn:ByteArray × Int} {left:List (ByteArray × Int)} {g:G} {v:Value} (h:(Zci j kn left).p g v):(Zfc j left).p g v:=by
 obtain ⟨r,seen,l,b,clock,e,h1,h2,h3,h4,h5⟩:=h
 exact ⟨r,h1,.inr ⟨_,l,b,clock,h2,h5⟩⟩
theorem Ziy {m:List (ByteArray × Int)} (hm:P.underlying mt=some (.map kt et)) (hop:o.op=.range mt x) (hd:o.dst=some d) (hx:Opd uses x (Kd.mapS.pd m)):OB P N o uses [(d,Zfc j m)] [j + 1] :=
 Zco hd fun a g hh=>by
   obtain ⟨cs,hK,hv⟩:=hx a g hh
   rcases hK with ⟨rfl,rfl⟩ | ⟨b,l,clock,rfl,h1,h2,h3,h4⟩
   · have hv:a.eval x=.map none:=hv
     refine ⟨.pointer (some ⟨g.w.heap.size,0,none⟩),g.pushO (.mapIter none 0 #[] 0) (j + 1),?_,Zd5 ..,g.w.heap.size,rfl,.inl ⟨rfl,?_,?_,Zce _ _⟩⟩
     · simp [execOp,hop,Instr.range,run_underlying hm,hv,newObj,Sem.run];rfl
     · show _ < (g.w.alloc _).heap.size;rw [Z7];omega
     · simp [G.pushO]
   · have hv:a.eval x=.map (some b):=hv
     refine ⟨.pointer (some ⟨g.w.heap.size,0,none⟩),g.pushO (.mapIter (some b) clock #[] clock) (j + 1),?_,Zd5 ..,g.w.heap.size,rfl,.inr ⟨#[],l,b,clock,⟨?_,?_,fun b' hb' ho=>?_,fun o h=>?_,Zce _ _,h1,?_,?_,h4.ahead,h4.born⟩,?_⟩⟩
     · simp [execOp,hop,Instr.range,run_underlying hm,hv,MapKept.run_getObj_map h3,Result.andThen,newObj,Sem.run];rfl
     · show _ < (g.w.alloc _).heap.size;rw [Z7];omega
     · simp [G.pushO]
     · simp only [G.pushO] at ho
       split at ho
       · assumption
       · split at ho
         · omega
         · rename_i hne;exact absurd ho hne
     · exact absurd (g.hpr _ _ h) (by omega)
     · show b < (g.w.alloc _).heap.size;rw [Z7];omega
     · exact (Zcd g.w _ h2).trans h3
     · have:Zc7 #[] l=l:=List.filter_eq_self.2 fun e _=>by simp
       rw [this];exact h4.perm
theorem Zm2 {L:List SEnt} (hn:(L.map (·.2)).Nodup) {e:SEnt} (he:e ∈ L):L.Perm (e :: L.filter fun x=>decide (x.2 ≠ e.2)):=by
 obtain ⟨A,B,rfl⟩:=List.append_of_mem he
 rw [List.map_append,List.map_cons] at hn
 obtain ⟨n1,n2,n3⟩:=List.nodup_append.1 hn
 obtain ⟨n4,n5⟩:=List.nodup_cons.1 n2
 have f1:A.filter (fun x=>decide (x.2 ≠ e.2))=A:=List.filter_eq_self.2 fun x hx=>by
   have:=n3 x.2 (List.mem_map.2 ⟨x,hx,rfl⟩) e.2 (List.mem_cons_self ..)
   simpa using this
 have f2:B.filter (fun x=>decide (x.2 ≠ e.2))=B:=List.filter_eq_self.2 fun x hx=>by
   have:x.2 ≠ e.2:=fun h=>n4 (by rw [← h];exact List.mem_map.2 ⟨x,hx,rfl⟩)
   simpa using this
 rw [List.filter_append,List.filter_cons_of_neg (by simp),f1,f2]
 exact List.perm_middle
theorem Zkn {seen:Array Nat} {l:List SEnt} (hn:(l.map (·.2)).Nodup) {e:SEnt} (he:e ∈ Zc7 seen l):(Zc7 seen l).Perm (e :: Zc7 (seen.push e.2) l):=by
 have h1:((Zc7 seen l).map (·.2)).Nodup:=List.Nodup.sublist (List.Sublist.map _ List.filter_sublist) hn
 have h2:Zc7 (seen.push e.2) l=(Zc7 seen l).filter fun x=>decide (x.2 ≠ e.2):=by
   unfold Zc7
   rw [List.filter_filter]
   congr 1
   funext x
   by_cases hx:x.2=e.2
   · simp [hx]
   · simp [hx]
 rw [h2]
 exact Zm2 h1 he
theorem Zgj (seen:Array Nat) (l:List SEnt):(leftOf (l.map ent).toArray seen).toList=(Zc7 seen l).map ent:=by
 unfold leftOf Zc7
 rw [Array.toList_filter,List.toList_toArray,List.filter_map]
 rfl
def pItP (j:Nat):Pd where
 p:=fun g u=>∃ r,u=.pointer (some ⟨r,0,none⟩) ∧ r < g.w.heap.size ∧ g.own r=j + 1
 fp:=[j + 1]
 st:=fun {S g g' v} st hd ⟨r,e,h1,h2⟩=>by
   obtain ⟨k1,k2,k3⟩:=st.same r h1 (by rw [h2];exact hd _ (by simp))
   exact ⟨r,e,Nat.lt_of_lt_of_le h1 st.le.size,k3.trans h2⟩
def Zfk (j:Nat) (left:List (ByteArray × Int)):Pd where
 p:=fun g u=>(u=.tuple #[.bool false] ∧ left=[]) ∨ ∃ kn left' w,u=.tuple #[.bool true,.string kn.1,.int .i64 kn.2] ∧ left.Perm (kn :: left') ∧ (Zci j kn left').p g w
 fp:=[j + 1]
 st:=fun {S g g' v} st hd h=>h.imp id fun ⟨kn,left',w,h1,h2,h3⟩=>⟨kn,left',w,h1,h2,(Zci j kn left').st st hd h3⟩
def Zl0 (j:Nat) (left:List (ByteArray × Int)):Pd where
 p:=fun g u=>(u=.bool false ∧ left=[]) ∨ ∃ kn left' w,u=.bool true ∧ left.Perm (kn :: left') ∧ (Zci j kn left').p g w
 fp:=[j + 1]
 st:=fun {S g g' v} st hd h=>h.imp id fun ⟨kn,left',w,h1,h2,h3⟩=>⟨kn,left',w,h1,h2,(Zci j kn left').st st hd h3⟩
theorem Zjh {s:Nat} {left:List (ByteArray × Int)} (hsd:s ≠ d) (hop:o.op=.next (.tmp s) false) (hd:o.dst=some d) (hx:Opd uses (.tmp s) (Zfc j left)):OB P N o uses [(d,Zfk j left),(s,pItP j)] [j + 1]:=by
 intro a g K Q hN hdN hu hK
 obtain ⟨r,hv,h⟩:=hx a g hu
 have fin:∀ (v:Value) (g':G),(execOp a.eval o).run P g.w=.ok (.value v) g'.w → Step [j + 1] g g' → (Zfk j left).p g' v → (r < g'.w.heap.size ∧ g'.own r=j + 1) → o.wp P a g.w K Q:=fun v g' hr hs hq hp=>by
   unfold Oper.wp
   rw [hr]
   refine hK v g' hs fun e he=>?_
   rcases List.mem_cons.1 he with rfl | he
   · rw [hd,Zbo v (by rw [hN];exact hdN d hd)]
     exact hq
   · rw [List.mem_singleton.1 he]
     show (pItP j).p g' (Act.at (a.put o.dst v) s)
     rw [Zcp v (by rw [hd];simp;exact fun h=>hsd h.symm)]
     exact ⟨r,hv,hp⟩
 rcases h with ⟨hl,h1,h2,h3⟩ | ⟨seen,l,b,clock,hI,hp⟩
 · refine fin (.tuple #[.bool false]) g ?_ (.refl _ _) (.inl ⟨rfl,hl⟩) ⟨h1,h2⟩
   simp [execOp,hop,hv,Instr.next,getObj,Sem.run,h3,Result.andThen]
 · have hold : ∀ x ∈ (l.map ent).toArray.toList, x.born < clock := fun x hx => by
     rw [List.toList_toArray] at hx
     obtain ⟨e,he,rfl⟩:=List.mem_map.1 hx
     exact hI.ahead e he
   rcases run_next_at (P:=P) g.w o.type r b clock clock seen (l.map ent).toArray clock hI.it hI.map hold (Nat.le_refl _) with ⟨h0,hr⟩ | ⟨e,he,w1,hw1,hr⟩
   · have hnil : Zc7 seen l = [] := by
       have:(leftOf (l.map ent).toArray seen).toList=[]:=by
         rw [← List.length_eq_zero_iff,Array.length_toList];exact h0
       rw [Zgj] at this
       exact List.map_eq_nil_iff.1 this
     rw [hnil] at hp
     refine fin (.tuple #[.bool false]) g ?_ (.refl _ _) (.inl ⟨rfl,List.nil_perm.1 hp⟩) ⟨hI.lt,hI.own⟩
     simp [execOp,hop,hv,hr]
   · rw [Zgj] at he
     obtain ⟨e0,he0,rfl⟩:=List.mem_map.1 he
     have hel:e0 ∈ l:=(List.mem_filter.1 he0).1
     have hperm:=Zkn hI.born he0
     have go:∀ g1:G,g1.w=w1 → Step [] g g1 → o.wp P a g.w K Q:=fun g1 hw hs1=>by
       have hI1:=hI.st hs1 (by simp)
       have hs2:=Zfp (ob:=.mapIter (some b) clock (seen.push e0.2) clock) hI1.npr
       rw [hI1.own] at hs2
       have hst:Step [j + 1] g (g1.putO r (.mapIter (some b) clock (seen.push e0.2) clock) hI1.npr):=(hs1.sub (by simp)).trans hs2
       have hbr:b ≠ r:=fun h=>hI1.npr 0 (h ▸ hI1.pr 0)
       refine fin (.tuple #[.bool true,.string e0.1.1,.int .i64 e0.1.2]) _ ?_ hst (.inr ⟨e0.1,_,.pointer (some ⟨r,0,none⟩),rfl,?_,r,seen,l,b,clock,e0,rfl,⟨?_,hI1.own,fun b' hb' ho=>hI1.uniq b' (by have hb':b' < (World.put _ _ _).heap.size:=hb';rw [Zbw] at hb';exact hb') ho,hI1.npr,Zh8 _ _ _ hI1.lt,hI1.pr,?_,(Zdy _ _ _ hbr).trans hI1.map,hI1.ahead,hI1.born⟩,hel,rfl,.refl _⟩) ⟨?_,hI1.own⟩
       · have : (execOp a.eval o).run P g.w = .ok (.value (.tuple #[.bool true, .string e0.1.1, .int .i64 e0.1.2])) (ChangeMaps.setBlock w1 r (.mapIter (some b) clock (seen.push e0.2) clock)) := by
           simp [execOp,hop,hv,hr,ent]
         rw [this,← hw]
         rfl
       · exact hp.symm.trans (by have:=hperm.map (·.1);rwa [List.map_cons] at this)
       · show r < (World.put _ _ _).heap.size;rw [Zbw];exact hI1.lt
       · show b < (World.put _ _ _).heap.size;rw [Zbw];exact hI1.blt
       · show r < (World.put _ _ _).heap.size;rw [Zbw];exact hI1.lt
     rcases hw1 with rfl | rfl
     · exact go g rfl (.refl _ _)
     · exact go g.drew rfl (Step.drew g)
theorem Zin {left:List (ByteArray × Int)} (hop:o.op=.extract x 0) (hd:o.dst=some d) (hx:Opd uses x (Zfk j left)):OB P N o uses [(d,Zl0 j left)] [] :=
 Z0 hd fun a g hh=>by
   rcases hx a g hh with ⟨hv,hl⟩ | ⟨kn,left',w,hv,h2,h3⟩
   · exact ⟨.bool false,by simp [execOp,hop,hv,Instr.extract],.inl ⟨rfl,hl⟩⟩
   · exact ⟨.bool true,by simp [execOp,hop,hv,Instr.extract],.inr ⟨kn,left',w,rfl,h2,h3⟩⟩
theorem Zk0 {kn:ByteArray × Int} {left:List (ByteArray × Int)} {g:G} {v w:Value} (h:(pItP j).p g v) (h2:(Zci j kn left).p g w):(Zci j kn left).p g v:=by
 obtain ⟨r,e,h1,h3⟩:=h
 obtain ⟨r2,seen,l,b,clock,e0,k1,k2,k3⟩:=h2
 obtain rfl:=k2.uniq r h1 h3
 exact ⟨r,seen,l,b,clock,e0,e,k2,k3⟩
theorem Zg4 {L:Zf} {i:Nat} {x e:Nat × Pd} (h:e ∈ L.set i x):e ∈ L ∨ e=x:=List.mem_or_eq_of_mem_set h
theorem Zgv {a : Act} {g : G} {L : Zf} {i1 i2 s1 s2 : Nat} {left : List (ByteArray × Int)} (h1 : L[i1]? = some (s1, Zl0 j left)) (h2 : L[i2]? = some (s2, pItP j)) (h : St N L a g) :
   (left=[] ∧ St N (L.set i1 (s1,Zo false)) a g) ∨ ∃ kn left',left.Perm (kn :: left') ∧ St N ((L.set i1 (s1,Zo true)).set i2 (s2,Zci j kn left')) a g:=by
 rcases h.h _ (List.mem_of_getElem? h1) with ⟨hv,hl⟩ | ⟨kn,left',w,hv,h3,h4⟩
 · refine .inl ⟨hl,h.size,h.df,fun e he=>?_⟩
   rcases Zg4 he with he | rfl
   · exact h.h e he
   · exact Zb2.2 hv
 · refine .inr ⟨kn,left',h3,h.size,h.df,fun e he=>?_⟩
   rcases Zg4 he with he | rfl
   · rcases Zg4 he with he | rfl
     · exact h.h e he
     · exact Zb2.2 hv
   · exact Zk0 (h.h _ (List.mem_of_getElem? h2)) h4
theorem Zie {kn:ByteArray × Int} {left:List (ByteArray × Int)} (hop:o.op=.entry x) (hd:o.dst=some d) (hx:Opd uses x (Zci j kn left)):OB P N o uses [(d,pTup [pStr kn.1,pInt .i64 kn.2])] [] :=
 Z0 hd fun a g hh=>by
   obtain ⟨r,seen,l,b,clock,e,hv,hI,he,rfl,hp⟩:=hx a g hh
   have hbn:(((l.map ent).toArray.toList).map (·.born)).Nodup:=by
     rw [List.toList_toArray,List.map_map]
     exact hI.born
   have hr:=run_entry_at (P:=P) g.w r b clock seen (l.map ent).toArray clock (ent e) hI.it hI.map (by rw [List.toList_toArray];exact List.mem_map.2 ⟨e,he,rfl⟩) hbn
   refine ⟨.tuple #[.string e.1.1,.int .i64 e.1.2],by simp [execOp,hop,hv,hr,ent],Zoy (Zcu.2 rfl) (Zck _ _ g)⟩
end
section
variable {P:Program} {N:Nat} {o:Oper} {uses outs:Zf} {S:List Nat} {d:Nat} {q:Pd} {x y z:Operand} {α β γ:Type} {kV:Kd γ} {raw:α → SlV → γ} {lst:α → List β} {k:Kd α} {dk:Kd β} {t e j:Nat} {bytes:Nat}
def G.lend (g:G) (D:Nat → Prop) (hD:∀ c,D c → c < g.w.heap.size):G:=⟨g.w,fun b o=>g.pr b o ∨ D b,g.own,fun b o h=>h.elim (g.hpr b o) (hD b),g.gl.le (fun _ _ h=>.inl h) (fun _ _ _=>rfl)⟩
theorem Zjp (g:G) (D:Nat → Prop) (hD:∀ c,D c → c < g.w.heap.size):g.le (g.lend D hD):=⟨Nat.le_refl _,fun _ _ h=>.inl h,fun _ _ _=>rfl,fun _ _=>rfl,Nat.le_refl _⟩
theorem Zht {g g':G} {D:Nat → Prop} {hD:∀ c,D c → c < g.w.heap.size} (hn:∀ c,D c → ∀ o,¬ g.pr c o) (hs:Step [] (g.lend D hD) g'):∃ g2:G,g2.w=g'.w ∧ (∀ b o,g2.pr b o ↔ g'.pr b o ∧ ¬ D b) ∧ Step [] g g2:=by
 let g2:G:=⟨g'.w,fun b o=>g'.pr b o ∧ ¬ D b,g'.own,fun b o h=>g'.hpr b o h.1,fun en hen i v hv=>by
   obtain ⟨k1,k2⟩:=g'.gl en hen i v hv
   exact ⟨⟨k1,fun h=>hn _ h i (g.gl en hen i v hv).1⟩,k2⟩⟩
 refine ⟨g2,rfl,fun _ _=>Iff.rfl,⟨⟨hs.le.size,fun b o h=>⟨hs.le.pr b o (.inl h),fun h'=>hn b h' o h⟩,fun b o h=>hs.le.cell b o (.inl h),fun b h=>hs.le.blk b (fun o=>.inl (h o)),hs.le.dr⟩,hs.os,hs.tape,hs.output,fun b hb hn'=>?_,hs.new,hs.old⟩⟩
 obtain ⟨k1,k2,k3⟩:=hs.same b hb hn'
 refine ⟨k1,?_,k3⟩
 funext o
 show (g'.pr b o ∧ ¬ D b)=g.pr b o
 rw [k2]
 show ((g.pr b o ∨ D b) ∧ ¬ D b)=g.pr b o
 have:=fun h=>hn b h o
 by_cases h:D b <;> simp [h,this]
def FnL (P:Program) (f:FuncId) (A:List Pd) (q:Pd):Prop:=∀ (g:G) (args:List Value),ArgsOk A g args →
 Calls P f args.toArray g.w (fun en w'=>∃ g' v,en=.returned v ∧ w'=g'.w ∧ Step [] g g' ∧ ∀ g2:G,g2.w=g'.w → (∀ b o,g.w.heap.size ≤ b → g'.pr b o → g2.pr b o) → q.p g2 v)
theorem FnL.ok {f:FuncId} {A:List Pd} (h:FnL P f A q):FnOk P f A q:=fun g args ha=>Calls.mono (h g args ha) fun en w' ⟨g',v,h1,h2,h3,h4⟩=>⟨g',v,h1,h2,h3,h4 g' rfl (fun _ _ _ h=>h)⟩
theorem FnL.of {f:FuncId} {A:List Pd} (h:FnOk P f A q) (hq:∀ (g g':G) (v:Value),q.p g v → q.p g' v):FnL P f A q:=fun g args ha=>Calls.mono (h g args ha) fun en w' ⟨g',v,h1,h2,h3,h4⟩=>⟨g',v,h1,h2,h3,fun g2 _ _=>hq _ _ _ h4⟩
end
section
variable {P:Program} {N:Nat} {o:Oper} {uses outs:Zf} {S:List Nat} {d:Nat} {q:Pd} {x y z:Operand} {α β γ δ:Type} {kV:Kd γ} {raw:α → SlV → γ} {lst:α → List β} {k:Kd α} {dk:Kd β} {t e j jl:Nat} {bytes:Nat} {xv:α}
theorem Zkl {xt:Nat} {xs vs:List β} (hT:TE P t e dk bytes) (hop:o.op=.call { callee:=.builtin .append,args:=#[.tmp xt,y],argTypes:=#[t,t] }) (hd:o.dst=some d) (hx:Opd uses (.tmp xt) (pArr dk e j xs)) (hy:Opd uses y (dk.sl.pd vs)) (hpos:0 < vs.length) (hl:(xs.length + vs.length) * bytes ≤ 140737488355328):OB P N o uses [(d,pArr dk e j (xs ++ vs))] [j + 1] :=
 OB.at fun a g hh=>by
   have hA:∀ (ys:List β) g (a:Act),Zbd [(d,pOwn dk e j none (ys.map some))] a g → Zbd [(d,pArr dk e j ys)] a g:=fun ys g a h en he=>by
     rw [List.mem_singleton.1 he]
     obtain ⟨b,cap,cur,hv,hO,_⟩:=h (d,pOwn dk e j none (ys.map some)) (List.mem_singleton.2 rfl)
     exact .inr ⟨b,cap,cur,by simpa using hv,hO⟩
   rcases hx a g hh with ⟨rfl,A,hv⟩ | ⟨b,cap,cur,hv,hO⟩
   · refine ⟨(xt,pEq (.slice A 0 0)) :: uses,fun en he=>?_,(Zkk (j:=j) (A:=A) (vs:=vs) hT hop hd .t0 (.tl hy) hpos (by simpa using hl)).weak (hA vs)⟩
     rcases List.mem_cons.1 he with rfl | he
     · exact hv
     · exact hh en he
   · refine ⟨(xt,pOwn dk e j none (xs.map some)) :: uses,fun en he=>?_,(Zj4 (c:=none) (j:=j) (xs:=xs) (vs:=vs) hT hop hd .t0 (.tl hy) hl).weak (hA (xs ++ vs))⟩
     rcases List.mem_cons.1 he with rfl | he
     · have hv:Act.at a xt=.slice (some ⟨b,0,none⟩) xs.length cap:=hv
       exact ⟨b,cap,cur,by simpa using hv,hO,fun k hk=>by cases hk⟩
     · exact hh en he
end
end Go.CL
namespace Go.CL
open Go Go.RowKit Go.Shelf
section
variable {P:Program} {N:Nat} {o:Oper} {uses outs:Zf} {S:List Nat} {d:Nat} {q:Pd} {x y z:Operand} {β:Type} {dk:Kd β} {t e j:Nat}
structure Enc (dk:Kd β) (enc:β → List Value):Prop where
 K:∀ g x cs,dk.K g x cs ↔ cs=enc x
 len:∀ x,(enc x).length=dk.sz
 one:∀ x,∀ v ∈ enc x,v.oneCell'=true
theorem Zn9 {W w':World} (h1:W.heap.size ≤ w'.heap.size) (h2:∀ b,b < W.heap.size → w'.heap[b]?=W.heap[b]?) (h3:w'.os=W.os) (h4:w'.tape=W.tape) (h5:w'.output=W.output) (h6:W.drawn ≤ w'.drawn):∃ q os',w'=Go.Sort.grow (W.drewN q) os':=by
 refine ⟨w'.drawn - W.drawn,w'.heap.extract W.heap.size w'.heap.size,?_⟩
 have hh:w'.heap=W.heap ++ w'.heap.extract W.heap.size w'.heap.size:=by
   apply Array.ext_getElem?
   intro k
   rw [Array.getElem?_append]
   split
   · rename_i hk;exact h2 k hk
   · rename_i hk
     rw [Array.getElem?_extract]
     split
     · congr 1;omega
     · rename_i h;exact Array.getElem?_eq_none (by omega)
 have hd:W.drawn + (w'.drawn - W.drawn)=w'.drawn:=by omega
 unfold Go.Sort.grow World.drewN
 rw [← hh,hd,← h3,← h4,← h5]
theorem Ze8 [Inhabited β] (enc:β → List Value) (k:Nat) (w:World) (blk off m:Nat) (d:Array β) (os:Array Obj):(Go.Proofs.sortWorldK enc k w blk off m d os).heap.size=w.heap.size + os.size:=by
 simp [Go.Proofs.sortWorldK,Go.Sort.putRowK,Go.Sort.ahead]
theorem Zdp [Inhabited β] (enc:β → List Value) (k:Nat) (w:World) (blk off m:Nat) (d:Array β) (os:Array Obj) {b:Nat} (hb:b < w.heap.size) (hne:b ≠ blk):(Go.Proofs.sortWorldK enc k w blk off m d os).heap[b]?=w.heap[b]?:=by
 show ((w.heap.modify blk _) ++ os)[b]?=_
 rw [Array.getElem?_append,if_pos (by simpa using hb),Array.getElem?_modify,if_neg (Ne.symm hne)]
theorem Zmr [Inhabited β] (enc:β → List Value) (k:Nat) (w:World) (blk m:Nat) (d:Array β) (os:Array Obj) {cur:Array Value} {e:TypeId} {fr:Nat × Nat} (hb:w.heap[blk]?=some (.cells cur e fr)):(Go.Proofs.sortWorldK enc k w blk 0 m d os).heap[blk]?=some (.cells (Go.Sort.putCells id 0 (Go.Sort.flatK enc k d) cur) e fr):=by
 have hlt:blk < w.heap.size:=(Array.getElem?_eq_some_iff.1 hb).1
 show ((w.heap.modify blk _) ++ os)[blk]?=_
 rw [Array.getElem?_append,if_pos (by simpa using hlt),Array.getElem?_modify,if_pos rfl,hb]
 rfl
theorem Zkg [Inhabited β] {enc:β → List Value} {cf:β → β → Int} {f:FuncId} {g:G} {blk size:Nat} (hag:dk.ag=true) (hE:Enc dk enc) (hok:∀ x y,FnOk P f [dk.pd x,dk.pd y] (pInt .i64 (cf x y))) (hnp:∀ o,¬ g.pr blk o):Go.Proofs.CmpLays P f #[] enc dk.sz cf blk 0 size g.w:=by
 intro m os dk' hsz x y
 have hcell:∀ b o,g.pr b o → (Go.Proofs.sortWorldK enc dk.sz g.w blk 0 m dk' os).cell? ⟨b,o,none⟩=g.w.cell? ⟨b,o,none⟩:=fun b o h=>by
   have hb:=g.hpr b o h
   have hne:b ≠ blk:=fun e=>hnp o (e ▸ h)
   exact Zbs (Zdp _ _ _ _ _ _ _ _ hb hne)
 let gW:G:=⟨Go.Proofs.sortWorldK enc dk.sz g.w blk 0 m dk' os,g.pr,fun _=>0,fun b o h=>by rw [Ze8];have:=g.hpr b o h;omega,g.gl.le (fun _ _ h=>h) hcell⟩
 have hv:∀ u,(dk.pd u).p gW (.agg (enc u).toArray):=fun u=>⟨enc u,(hE.K gW u _).2 rfl,by rw [hag];rfl⟩
 rw [Array.append_empty]
 refine Calls.mono (hok x y gW [.agg (enc x).toArray,.agg (enc y).toArray] (Zcc (hv x) (Zcc (hv y) Zdg))) ?_
 rintro en w' ⟨g',v,rfl,rfl,hs,hq⟩
 refine ⟨by rw [Zbl.1 hq],?_⟩
 exact Zn9 hs.le.size (fun b hb=>(hs.same b hb (fun h=>by cases h)).1) hs.os hs.tape hs.output hs.le.dr
theorem Ziz [Inhabited β] {enc:β → List Value} {k:Nat} (hk:∀ x,(enc x).length=k) {xs:List β} {i c:Nat} {x:β} (hi:xs[i]?=some x) (hc:c < k):(Go.Sort.flatK enc k xs.toArray)[i * k + c]! = (enc x)[c]!:=by
 have hil:i < xs.length:=(List.getElem?_eq_some_iff.1 hi).1
 have hlt:i * k + c < xs.toArray.size * k:=by
   have:=Nat.mul_le_mul_right k (show i + 1 ≤ xs.length from hil)
   rw [Nat.add_mul,Nat.one_mul] at this
   simp only [List.size_toArray];omega
 rw [Go.Sort.get_flatK _ _ _ _ hlt]
 have e1:(i * k + c) / k=i:=(Go.Sort.blk_iff k i _ (by omega)).1 ⟨by omega,by omega⟩
 have e2:(i * k + c) % k=c:=by rw [Nat.mod_eq_sub_div_mul,e1];omega
 rw [e1,e2]
 congr 2
 have:xs.toArray[i]?=some x:=by simpa using hi
 rw [getElem!_def,this]
theorem Zny [Inhabited β] {enc:β → List Value} {k:Nat} (hk:∀ x,(enc x).length=k) {xs:List β} {cur:Array Value} (hl:xs.length * k ≤ cur.size) {i:Nat} {x:β} (hi:xs[i]?=some x):seg (Go.Sort.putCells id 0 (Go.Sort.flatK enc k xs.toArray) cur).toList (i * k) k=enc x:=by
 have hil:i < xs.length:=(List.getElem?_eq_some_iff.1 hi).1
 have hle:=Nat.mul_le_mul_right k (show i + 1 ≤ xs.length from hil)
 rw [Nat.add_mul,Nat.one_mul] at hle
 apply List.ext_getElem?
 intro c
 simp only [seg,List.getElem?_take,List.getElem?_drop]
 split
 · rename_i hc
   rw [Array.getElem?_toList,Go.Sort.putCells,Array.getElem?_mapIdx,Array.getElem?_eq_getElem (show i * k + c < cur.size by omega),Option.map_some,if_pos ⟨Nat.zero_le _,by simp only [Go.Sort.size_flatK,List.size_toArray];omega⟩]
   rw [Nat.sub_zero,Ziz hk hi hc]
   have hcl:c < (enc x).length:=by rw [hk];exact hc
   rw [List.getElem?_eq_getElem hcl,getElem!_pos _ c hcl]
   rfl
 · rename_i hc
   rw [List.getElem?_eq_none (by rw [hk];omega)]
theorem Zlw [Inhabited β] {enc:β → List Value} (hE:Enc dk enc) {xs:List β} {g:G} {b cap:Nat} {cur:Array Value} (hO:OwnAt dk e j (xs.map some) g b cap cur):Go.Sort.HoldsK enc dk.sz g.w b 0 xs.toArray:=by
 intro t ht
 simp only [Go.Sort.size_flatK,List.size_toArray] at ht
 have k0:0 < dk.sz:=by
   rcases Nat.eq_zero_or_pos dk.sz with h | h
   · rw [h] at ht;simp at ht
   · exact h
 have hi:t / dk.sz < xs.length:=(Nat.div_lt_iff_lt_mul k0).2 ht
 have hc:t % dk.sz < dk.sz:=Nat.mod_lt _ k0
 have hx:xs[t / dk.sz]?=some xs[t / dk.sz]:=List.getElem?_eq_getElem hi
 have hseg:=(hE.K _ _ _).1 (hO.known (t / dk.sz) xs[t / dk.sz] (by rw [List.getElem?_map,hx];rfl))
 have htd:t=t / dk.sz * dk.sz + t % dk.sz:=by rw [Nat.mul_comm];exact (Nat.div_add_mod t dk.sz).symm
 have hf:=Ziz hE.len hx hc
 rw [← htd] at hf
 have hcl:t % dk.sz < (enc xs[t / dk.sz]).length:=by rw [hE.len];exact hc
 have hu:cur[t]?=some ((enc xs[t / dk.sz])[t % dk.sz]!):=by
   have:=congrArg (fun l:List Value=>l[t % dk.sz]?) hseg
   simp only [seg,List.getElem?_take,List.getElem?_drop,if_pos hc] at this
   rw [← htd] at this
   rw [← Array.getElem?_toList,this,List.getElem?_eq_getElem hcl,getElem!_pos (enc xs[t / dk.sz]) (t % dk.sz) hcl]
 refine ⟨?_,?_⟩
 · show g.w.cell? ⟨b,0 + t,none⟩=some _
   rw [Nat.zero_add,hf]
   simp only [World.cell?,hO.heap]
   exact hu
 · simp [World.frozen?,hO.heap]
open Classical in
theorem Zn4 [Inhabited β] {ρ : Ren} {enc : β → List Value} {cf : β → β → Int} {f fc : FuncId} {s : Nat} {xs : List β} {ty : Array TypeId} (L : Go.Proofs.SlLaysF0.n6 P ρ) (hf : ρ.f 6 = f) (aE : ∀ w, (isAgg (ρ.t 24)).run P w = .ok true w) (zE : ∀ w, (Go.sizeOf (ρ.t 24)).run P w = .ok dk.sz w) (hag : dk.ag = true) (hE : Enc dk enc)
   (hok:∀ x y,FnOk P fc [dk.pd x,dk.pd y] (pInt .i64 (cf x y))) (hef:Zp P f) (hec:Zp P fc) (hO':Go.Sort.SWO (Go.Proofs.ltOf cf)) (hT:∀ x y,Go.Proofs.ltOf cf x y=false → Go.Proofs.ltOf cf y x=false → x=y)
   (hop:o.op=.call { callee:=.value (.func f),args:=#[x,.func fc],argTypes:=ty }) (hd:o.dst=some d) (hsd:s ≠ d) (hs:Opd uses (.tmp s) (pArr dk e j xs)) (hx:Opd uses x (pArr dk e j xs)) (h0:0 < dk.sz) (hlt:xs.length < 4611686018427387904) :
   OB P N o uses [(d,pAny),(s,pArr dk e j (xs.mergeSort fun x y=>!(Go.Proofs.ltOf cf) y x))] [j + 1]:=by
 intro a g K Q hN hdN hu hK
 have hr:(execOp a.eval o).run P g.w=.ok (.enter f #[a.eval x,.func (.func fc) #[] #[]]) g.w:=by
   simp [execOp,hop,resolve,Zex,Deferred.ofValue,invoke,Zc3 hef]
 unfold Oper.wp
 rw [hr]
 show Calls P f _ g.w _
 subst hf
 have hat:∀ v,Act.at (a.put o.dst v) s=Act.at a s:=fun v=>Zcp v (by rw [hd];intro h;exact hsd (Option.some.inj h).symm)
 by_cases hx0:xs=[]
 · subst hx0
   obtain ⟨p,cap,hxv⟩:∃ p cap,a.eval x=.slice p 0 cap:=by
     rcases hx a g hu with ⟨_,A,h⟩ | ⟨b,cap,cur,h1,h2⟩
     · exact ⟨A,0,h⟩
     · exact ⟨_,cap,h1⟩
   rw [hxv]
   refine Calls.mono (Go.Proofs.AnyF.slices_SortFunc_none L p cap _ g.w) ?_
   rintro en w' ⟨rfl,rfl⟩
   refine hK _ g (.refl _ _) fun en he=>?_
   rcases List.mem_cons.1 he with rfl | he
   · trivial
   · rw [List.mem_singleton.1 he]
     show (pArr dk e j (List.mergeSort [] _)).p g (Act.at (a.put o.dst _) s)
     rw [hat,List.mergeSort_nil]
     exact hs a g hu
 · rcases hs a g hu with ⟨h,_⟩ | ⟨b,cap,cur,hv,hO1⟩
   · exact absurd h hx0
   rcases hx a g hu with ⟨h,_⟩ | ⟨b2,cap2,cur2,hxv,hO⟩
   · exact absurd h hx0
   obtain ⟨rfl,rfl,rfl⟩:=hO.same hO1 h0
   have hlen:xs.length ≤ cap:=by simpa using hO.len
   have hmax:=hO.max
   simp only [maxLen] at hmax
   let ys:=xs.mergeSort fun x y=>!(Go.Proofs.ltOf cf) y x
   have hyl:ys.length=xs.length:=List.length_mergeSort ..
   rw [hxv]
   have hcall:=Go.Proofs.AnyQ.slices_SortFunc_total L dk.sz aE zE enc hE.len hE.one cf hO' fc #[] b 0 cap xs.toArray g.w (fun args w=>Zc3 hec args w) (Zkg hag hE hok hO.npr) (Zlw hE hO) hO.lt (by simp only [List.size_toArray];exact hlt) hT
   refine Calls.mono hcall ?_
   rintro en w' ⟨rfl,n,os,rfl⟩
   have hys:(xs.toArray.toList.mergeSort fun x y=>!(Go.Proofs.ltOf cf) y x).toArray=ys.toArray:=rfl
   rw [hys]
   have hcell:∀ b' o,g.pr b' o → (Go.Proofs.sortWorldK enc dk.sz g.w b 0 n ys.toArray os).cell? ⟨b',o,none⟩=g.w.cell? ⟨b',o,none⟩:=fun b' o h=>by
     have hne:b' ≠ b:=fun e=>hO.npr o (e ▸ h)
     exact Zbs (Zdp _ _ _ _ _ _ _ _ (g.hpr b' o h) hne)
   let g2:G:=⟨Go.Proofs.sortWorldK enc dk.sz g.w b 0 n ys.toArray os,g.pr,fun c=>if c < g.w.heap.size then g.own c else 0,fun b' o h=>by rw [Ze8];have:=g.hpr b' o h;omega,g.gl.le (fun _ _ h=>h) hcell⟩
   have hsz2:g2.w.heap.size=g.w.heap.size + os.size:=Ze8 ..
   have hown:∀ c,g2.own c=if c < g.w.heap.size then g.own c else 0:=fun _=>rfl
   refine hK _ g2 ⟨⟨by omega,fun _ _ h=>h,hcell,fun c hc=>Zdp _ _ _ _ _ _ _ _ (g.hpr c 0 (hc 0)) (fun e=>hO.npr 0 (e ▸ hc 0)),Nat.le_add_right _ _⟩,rfl,rfl,rfl,fun c hc hn=>⟨Zdp _ _ _ _ _ _ _ _ hc (fun e=>hn (by rw [e,hO.own];simp)),rfl,by rw [hown,if_pos hc]⟩,fun c h1 h2=>.inl (by rw [hown,if_neg (by omega)]),fun c hc hn=>.inr (by rw [hown,if_pos hc];exact hn)⟩ fun en he=>?_
   rcases List.mem_cons.1 he with rfl | he
   · trivial
   · rw [List.mem_singleton.1 he]
     show (pArr dk e j ys).p g2 (Act.at (a.put o.dst _) s)
     rw [hat]
     have hh:=Zmr enc dk.sz g.w b n ys.toArray os hO.heap
     have hlk:ys.length * dk.sz ≤ cur.size:=by rw [hyl,hO.sz];exact Nat.mul_le_mul_right _ hlen
     refine .inr ⟨b,cap,_,by rw [hyl];exact hv,by rw [hsz2];have:=hO.lt;omega,by rw [hown,if_pos hO.lt];exact hO.own,fun c hc ho=>?_,hh,by rw [List.length_map,hyl];exact hlen,hO.max,by rw [← hO.sz];simp [Go.Sort.putCells],fun i u hi=>?_,hO.npr⟩
     · rw [hown] at ho
       split at ho
       · rename_i hl;exact hO.uniq c hl ho
       · omega
     · rw [List.getElem?_map] at hi
       obtain ⟨u',hi',e1⟩:=Option.map_eq_some_iff.1 hi
       obtain rfl:=Option.some.inj e1
       exact (hE.K _ _ _).2 (Zny hE.len hlk hi')
end
end Go.CL
namespace Go.CL
open Go Go.RowKit
structure ObR (α:Type) where
 R:G → Nat → (Nat → Prop) → α → Prop
 st:∀ {g g':G} {b:Nat} {B:Nat → Prop} {x:α},R g b B x → g.le g' → (∀ c,c=b ∨ B c → g'.w.heap[c]?=g.w.heap[c]? ∧ g'.pr c=g.pr c) → R g' b B x
def Z9 {α:Type} (cb:Option Nat) (k:ObR α) (j:Nat) (x:α):Pd where
 p:=fun g v=>∃ b B,(v=.pointer (some ⟨b,0,none⟩) ∧ ∀ b',cb=some b' → b'=b) ∧ k.R g b B x ∧ b < g.w.heap.size ∧ g.own b=j + 1 ∧ (∀ c,c < g.w.heap.size → g.own c=j + 1 → c=b) ∧ ∀ c,B c → c < g.w.heap.size ∧ g.own c=j + 1 + AUX
 fp:=[j + 1,j + 1 + AUX]
 st:=fun {S g g' v} s hd ⟨b,B,e,hR,hb,ho,hu,hB⟩=>by
   have h1:j + 1 ∉ S:=hd _ (by simp)
   have h2:j + 1 + AUX ∉ S:=hd _ (by simp)
   obtain ⟨k1,k2,k3⟩:=s.same b hb (by rw [ho];exact h1)
   refine ⟨b,B,e,k.st hR s.le ?_,Nat.lt_of_lt_of_le hb s.le.size,k3.trans ho,?_,fun c hc=>?_⟩
   · rintro c (rfl | hc)
     · exact ⟨k1,k2⟩
     · exact ⟨(s.same c (hB c hc).1 (by rw [(hB c hc).2];exact h2)).1,(s.same c (hB c hc).1 (by rw [(hB c hc).2];exact h2)).2.1⟩
   · intro c hc hoc
     rcases Nat.lt_or_ge c g.w.heap.size with hlt | hge
     · by_cases hS:g.own c ∈ S
       · rcases s.old c hlt hS with h | h
         · rw [hoc] at h;omega
         · rw [hoc] at h;exact absurd h h1
       · exact hu c hlt ((s.same c hlt hS).2.2.symm.trans hoc)
     · rcases s.new c hge hc with h | h
       · rw [hoc] at h;omega
       · rw [hoc] at h;exact absurd h h1
   · obtain ⟨hlt,hoc⟩:=hB c hc
     obtain ⟨m1,m2,m3⟩:=s.same c hlt (by rw [hoc];exact h2)
     exact ⟨Nat.lt_of_lt_of_le hlt s.le.size,m3.trans hoc⟩
def FnMR {α:Type} (P:Program) (f:FuncId) (k:ObR α) (x0 x1:α) (A:List Pd) (q:Pd):Prop :=
 ∀ (g:G) (b:Nat) (B:Nat → Prop) (args:List Value),k.R g b B x0 → b < g.w.heap.size → (∀ c,B c → c < g.w.heap.size ∧ c ≠ b) → ArgsOk A g args →
   Calls P f (Value.pointer (some ⟨b,0,none⟩) :: args).toArray g.w (fun e w'=>∃ g' v B',e=.returned v ∧ w'=g'.w ∧ Zkb (fun c=>c=b ∨ B c) g g' ∧ k.R g' b B' x1 ∧ (∀ c,B' c → (B c ∨ g.w.heap.size ≤ c) ∧ c < g'.w.heap.size) ∧ q.p g' v)
def Zii {α:Type} (P:Program) (f:FuncId) (A:List Pd) (k:ObR α) (x:α):Prop :=
 ∀ (g:G) (args:List Value),ArgsOk A g args →
   Calls P f args.toArray g.w (fun e w'=>∃ g' b B,e=.returned (.pointer (some ⟨b,0,none⟩)) ∧ w'=g'.w ∧ Zkb (fun _=>False) g g' ∧ g.w.heap.size ≤ b ∧ b < g'.w.heap.size ∧ k.R g' b B x ∧ ∀ c,B c → g.w.heap.size ≤ c ∧ c < g'.w.heap.size ∧ c ≠ b)
theorem Zmp {α:Type} {k:ObR α} {cb:Option Nat} {j:Nat} {x0:α} (g:G) (v:Value) (h:(Z9 cb k j x0).p g v):∃ p,v=.pointer p ∧ p.isNone=false:=by
 obtain ⟨b,B,⟨hv,_⟩,_⟩:=h
 exact ⟨_,hv,rfl⟩
section
variable {P:Program} {N:Nat} {o:Oper} {uses outs:Zf} {S:List Nat} {d:Nat} {q:Pd} {x y z:Operand} {α β γ:Type} {k:ObR α}
open Classical in
theorem Zb1 {x0 x1 : α} {f : FuncId} {xs : List Operand} {A : List Pd} {ty : Array TypeId} {s j : Nat} {cb cb' : Option Nat} (he : Zp P f) (hok : FnMR P f k x0 x1 A q) (hop : o.op = .call { callee := .value (.func f), args := (x :: xs).toArray, argTypes := ty }) (hd : o.dst = some d)
   (hq:q.fp=[]) (hsd:s ≠ d) (hs:Opd uses (.tmp s) (Z9 cb k j x0)) (hx:Opd uses x (Z9 cb' k j x0)) (hargs:OpdL uses xs A):OB P N o uses [(d,q),(s,Z9 cb k j x1)] [j + 1,j + 1 + AUX]:=by
 intro a g K Q hN hdN hu hK
 obtain ⟨b,B,⟨hv,_⟩,hR,hb,ho,huq,hB⟩:=hx a g hu
 obtain ⟨b2,_,⟨hv2,hcb⟩,_,hb2,ho2,_⟩:=hs a g hu
 have:b2=b:=huq b2 hb2 ho2
 subst this
 have hr:(execOp a.eval o).run P g.w=.ok (.enter f (Value.pointer (some ⟨b2,0,none⟩) :: xs.map a.eval).toArray) g.w:=by
   simp [execOp,hop,resolve,Zex,Deferred.ofValue,invoke,Zc3 he,hv]
 unfold Oper.wp
 rw [hr]
 show Calls P f _ g.w _
 have hne:∀ c,B c → c ≠ b2:=fun c hc h=>by
   have:=(hB c hc).2
   rw [h,ho] at this;simp [AUX] at this
 refine Calls.mono (hok g b2 B _ hR hb (fun c hc=>⟨(hB c hc).1,hne c hc⟩) (hargs.ok hu)) ?_
 rintro e w' ⟨g',v,B',rfl,rfl,hS,hR',hB',hqv⟩
 let g2:G:=⟨g'.w,g'.pr,fun c=>if c < g.w.heap.size then (if g.own c=j + 1 + AUX ∧ ¬ B' c then 0 else g.own c) else if B' c then j + 1 + AUX else 0,g'.hpr,g'.gl⟩
 have hle:g'.le g2:=⟨Nat.le_refl _,fun _ _ h=>h,fun _ _ _=>rfl,fun _ _=>rfl,Nat.le_refl _⟩
 have hsz:=hS.le.size
 have hown2:∀ c,g2.own c=if c < g.w.heap.size then (if g.own c=j + 1 + AUX ∧ ¬ B' c then 0 else g.own c) else if B' c then j + 1 + AUX else 0:=fun _=>rfl
 have hob:g2.own b2=j + 1:=by
   rw [hown2,if_pos hb,if_neg,ho]
   rw [ho];simp [AUX]
 refine hK v g2 ⟨⟨hS.le.size,hS.le.pr,hS.le.cell,hS.le.blk,hS.le.dr⟩,hS.os,hS.tape,hS.output,fun c hc hn=>?_,fun c h1 h2=>?_,fun c hc hn=>?_⟩ fun e he=>?_
 · have hc1:c ≠ b2:=fun h=>hn (by rw [h,ho];simp)
   have hc2:¬ B c:=fun h=>hn (by rw [(hB c h).2];simp)
   obtain ⟨k1,k2⟩:=hS.same c hc (by simp [hc1,hc2])
   refine ⟨k1,k2,?_⟩
   rw [hown2,if_pos hc,if_neg]
   intro h;exact hn (by rw [h.1];simp)
 · rw [hown2,if_neg (by omega)]
   split <;> simp
 · rw [hown2,if_pos hc]
   split
   · exact .inl rfl
   · exact .inr hn
 · simp only [List.mem_cons,List.not_mem_nil,or_false] at he
   rcases he with rfl | rfl
   · rw [hd,Zbo v (by rw [hN];exact hdN d hd)]
     exact Pd.le hq hle rfl rfl rfl hqv
   · have hat:Act.at (a.put o.dst v) s=Act.at a s:=Zcp v (by rw [hd];intro h;exact hsd (Option.some.inj h).symm)
     rw [hat]
     refine ⟨b2,B',⟨hv2,hcb⟩,k.st hR' hle (fun _ _=>⟨rfl,rfl⟩),Nat.lt_of_lt_of_le hb hsz,hob,fun c hc hoc=>?_,fun c hc=>?_⟩
     · rw [hown2] at hoc
       split at hoc
       · rename_i hlt
         split at hoc
         · omega
         · exact huq c hlt hoc
       · split at hoc
         · simp [AUX] at hoc
         · omega
     · obtain ⟨h1,h2⟩:=hB' c hc
       refine ⟨h2,?_⟩
       rw [hown2]
       rcases h1 with h1 | h1
       · rw [if_pos (hB c h1).1,if_neg (by simp [hc])];exact (hB c h1).2
       · rw [if_neg (by omega),if_pos hc]
theorem OT.guardMR {x0 x1 x2 : α} {ops : Array Oper} {i c s j : Nat} {cb : Option Nat} {want : Bool} (G : Bool) {q0 : Pd} (h1 : G = true → ∀ g v, q0.p g v → v = .bool want) (h2 : G = false → ∀ g v, q0.p g v → v ≠ .bool want) (hg : o.guard = some (i, want)) (hc : (ops[i]?).bind (·.dst) = some c)
   (hd:o.dst=some d) (hsd:s ≠ d) (hs:Opd uses (.tmp s) (Z9 cb k j x0)) (h:G=true → OB P N o uses [(d,q),(s,Z9 cb k j x1)] S) (hx2:x2=if G=true then x1 else x0):OT P ops N o ((c,q0) :: uses) [(d,pIf G q),(s,Z9 cb k j x2)] S:=by
 intro a g K Q hN ht hu hK
 subst hx2
 have hcv:=hu (c,q0) (by simp)
 have hu':Zbd uses a g:=fun e he=>hu e (List.mem_cons_of_mem _ he)
 cases hG:G with
 | true =>
   have:Region.wanted o (yielded ops a.tmps)=true:=by simp [Region.wanted,hg,(Zd6 hc).2 (h1 hG _ _ hcv)]
   rw [if_pos this]
   refine h hG a g K Q hN ht hu' fun v g' hst ho'=>hK v g' hst ?_
   intro e he
   simp only [List.mem_cons,List.not_mem_nil,or_false] at he
   rcases he with rfl | rfl
   · exact ⟨fun _=>ho' (d,q) (by simp),fun h0=>(by rw [hG] at h0;cases h0)⟩
   · rw [hG];exact ho' (s,Z9 cb k j x1) (by simp)
 | false =>
   have:Region.wanted o (yielded ops a.tmps)=false:=by
     simp only [Region.wanted,hg,beq_eq_false_iff_ne,ne_eq]
     exact fun h=>h2 hG _ _ hcv ((Zd6 hc).1 h)
   rw [this]
   refine hK undef g (.refl _ _) ?_
   intro e he
   simp only [List.mem_cons,List.not_mem_nil,or_false] at he
   rcases he with rfl | rfl
   · refine ⟨fun h0=>(by rw [hG] at h0;cases h0),fun _=>?_⟩
     rw [hd]
     exact Zbo _ (by rw [hN];exact ht _ hd)
   · rw [hG]
     have hat:Act.at (a.put o.dst undef) s=Act.at a s:=Zcp undef (by rw [hd];intro h;exact hsd (Option.some.inj h).symm)
     rw [hat]
     exact hs a g hu'
open Classical in
theorem Zlv {g : G} {b : Nat} {own : Nat → Nat} {args : List Value} {A : List Pd} {qs : Pd} {fn : Func} (hn : fn.ntmps = N) (hAN : A.length + 1 ≤ N) (hA : Free A) (hargs : ArgsOk A g args) (hq : qs.p ⟨g.w, g.pr, own, g.hpr, g.gl⟩ (.pointer (some ⟨b, 0, none⟩))) :
   St N ((0,qs) :: Zdn A 1) { tmps:=(Value.pointer (some ⟨b,0,none⟩) :: args).toArray ++ Array.replicate (fn.ntmps - (Value.pointer (some ⟨b,0,none⟩) :: args).toArray.size) undef,defers:=[] } ⟨g.w,g.pr,own,g.hpr,g.gl⟩:=by
 have hle:g.le ⟨g.w,g.pr,own,g.hpr,g.gl⟩:=⟨Nat.le_refl _,fun _ _ h=>h,fun _ _ _=>rfl,fun _ _=>rfl,Nat.le_refl _⟩
 refine ⟨?_,rfl,?_⟩
 · have:=hargs.1
   simp [hn];omega
 · intro en he
   rcases List.mem_cons.1 he with rfl | he
   · have hv : Act.at { tmps := (Value.pointer (some ⟨b, 0, none⟩) :: args).toArray ++ Array.replicate (fn.ntmps - (Value.pointer (some ⟨b, 0, none⟩) :: args).toArray.size) undef, defers := [] } 0 = .pointer (some ⟨b, 0, none⟩) := by
       simp only [Act.at,Array.getD_eq_getD_getElem?]
       rw [Array.getElem?_append,if_pos (by simp)]
       simp
     show qs.p _ (Act.at _ 0)
     rw [hv];exact hq
   · obtain ⟨i,h1,h2⟩:=Zej he
     have hi:i < args.length:=by rw [hargs.1];exact (List.getElem?_eq_some_iff.1 h2).1
     have hv:Act.at { tmps:=(Value.pointer (some ⟨b,0,none⟩) :: args).toArray ++ Array.replicate (fn.ntmps - (Value.pointer (some ⟨b,0,none⟩) :: args).toArray.size) undef,defers:=[] } en.1=args[i]:=by
       rw [h1,Nat.add_comm]
       simp only [Act.at,Array.getD_eq_getD_getElem?]
       rw [Array.getElem?_append,if_pos (by simpa using hi)]
       simp [hi]
     rw [hv]
     exact Pd.le (hA.at h2) hle rfl rfl rfl (hargs.2 i en.2 _ h2 (List.getElem?_eq_getElem hi))
variable {kV:Kd γ} {raw:α → SlV → γ} {lst:α → List β} {dk:Kd β} {e:TypeId}
end
def ptrB (b off:Nat):Value:=.pointer (some ⟨b,off,none⟩)
section
variable {P:Program} {N:Nat} {o:Oper} {uses outs:Zf} {S:List Nat} {d:Nat} {q q2:Pd} {x y z:Operand} {α β γ δ ε σ:Type} {kV:Kd γ} {raw:α → σ → γ} {R R2:Hp σ} {dk:Kd β} {di:Kd δ} {t e j b off m:Nat} {xv:α}
abbrev PF (P:Program) (s i off:Nat):Prop:=(match P.underlying s with | some (.struct F)=>(F[i]?).bind fun f=>(P.info? f.type).map fun y=>(f.offset,y.size == 0) | _=>none)=some (off,false)
theorem Zjb {s i off2:Nat} (hF:PF P s i off2) (hop:o.op=.fieldAddr s x i) (hd:o.dst=some d) (hx:Opd uses x (pEq (ptrB b off))):OB P N o uses [(d,pEq (ptrB b (off + off2)))] [] :=
 Z0 hd fun a g hh=>by
   have hv:a.eval x=.pointer (some ⟨b,off,none⟩):=hx a g hh
   unfold PF at hF
   cases hu:P.underlying s with
   | none=>rw [hu] at hF;cases hF
   | some u =>
     rw [hu] at hF
     cases u with
     | struct F =>
       obtain ⟨f,hi,h2⟩:=Option.bind_eq_some_iff.1 hF
       obtain ⟨y,hy,h3⟩:=Option.map_eq_some_iff.1 h2
       simp only [Prod.mk.injEq,beq_eq_false_iff_ne] at h3
       obtain ⟨h4,h5⟩:=h3
       subst h4
       have hs:(P.info? f.type).map (·.size)=some y.size:=by rw [hy];rfl
       exact ⟨ptrB b (off + f.offset),by simp [execOp,hop,hv,Instr.fieldAt,Instr.sureAddr,run_underlying hu,hi,Zdk hs h5,ptrB],rfl⟩
     | _=>cases hF
end
end Go.CL
namespace Go.CL
open Go Go.RowKit Go.Shelf
structure Zs where
 by_:List (ByteArray × Int)
 deriving Inhabited
def Zmh:List (Kd.FK Zs):=[⟨_,Kd.mapS,0,fun x:Zs=>x.by_⟩]
def Zu:Kd Zs:=Kd.struct 1 Zmh (by rfl)
theorem Zg6 {g:G} {m:Zs} {v:Value}:Zu.K g m [v] ↔ Kd.mapS.K g m.by_ [v]:=by
 constructor
 · intro h;exact h.2 ⟨_,Kd.mapS,0,fun x:Zs=>x.by_⟩ (List.mem_singleton.2 rfl)
 · intro h;exact ⟨rfl,fun f hf=>by rw [List.mem_singleton.1 hf];exact h⟩
section
variable {P:Program} {N:Nat} {o:Oper} {uses outs:Zf} {S:List Nat} {d:Nat} {q:Pd} {x y z:Operand} {mt kt et:TypeId} {j b:Nat}
def Zz:ObR Zs where
 R:=fun g b B m=>∃ mv t,g.w.heap[b]?=some (.cells #[.map mv] t (0,0)) ∧ (∀ o,¬ g.pr b o) ∧ ((mv=none ∧ m.by_=[]) ∨ ∃ c l clock,mv=some c ∧ B c ∧ (∀ o,¬ g.pr c o) ∧ Zeo g c m.by_ l clock)
 st:=by
   rintro g g' b B x ⟨mv,t,h1,h2,h3⟩ hle hh
   obtain ⟨k1,k2⟩:=hh b (.inl rfl)
   refine ⟨mv,t,k1.trans h1,fun o=>by rw [k2];exact h2 o,?_⟩
   rcases h3 with h3 | ⟨c,l,clock,e,hB,hp,hm1,hm2,hm3⟩
   · exact .inl h3
   · obtain ⟨k3,k4⟩:=hh c (.inr hB)
     exact .inr ⟨c,l,clock,e,hB,fun o=>by rw [k4];exact hp o,Nat.lt_of_lt_of_le hm1 hle.size,k3.trans hm2,hm3⟩
theorem Zkh {g:G} {c t:Nat} {v:Value} (h:g.w.heap[c]?=some (.cells #[v] t (0,0))) (hp:∀ o,g.pr c o):CellsAt g c 0 [v]:=fun i u hu=>by
 refine ⟨hp _,?_⟩
 simp only [World.cell?,h,Nat.zero_add]
 simpa using hu
theorem Zhm {g : G} {m : List (ByteArray × Int)} {b t : Nat} {mv : Option Nat} (hbl : b < g.w.heap.size) (h1 : g.w.heap[b]? = some (.cells #[.map mv] t (0, 0))) (h2 : ∀ o, ¬ g.pr b o) (h3 : (mv = none ∧ m = []) ∨ ∃ c l clock, mv = some c ∧ (∀ o, ¬ g.pr c o) ∧ Zeo g c m l clock) :
   ∃ (D:Nat → Prop) (hD:∀ c,D c → c < g.w.heap.size),(∀ c,D c → ∀ o,¬ g.pr c o) ∧ (∀ c,D c → c=b ∨ mv=some c) ∧ (Zu.ptr ⟨m⟩).p (g.lend D hD) (.pointer (some ⟨b,0,none⟩)):=by
 have hDl:∀ c,(c=b ∨ mv=some c) → c < g.w.heap.size:=fun c h=>by
   rcases h with rfl | h
   · exact hbl
   · rcases h3 with ⟨e,_⟩ | ⟨c',l,clock,e,hp,hm⟩
     · rw [h] at e;cases e
     · rw [h] at e;obtain rfl:=Option.some.inj e;exact hm.1
 refine ⟨fun c=>c=b ∨ mv=some c,hDl,fun c h=>?_,fun _ h=>h,b,0,[.map mv],rfl,Zg6.2 ?_,Zkh (v:=.map mv) h1 (fun o=>.inr (.inl rfl))⟩
 · rcases h with rfl | h
   · exact h2
   · rcases h3 with ⟨e,_⟩ | ⟨c',l,clock,e,hp,hm⟩
     · rw [h] at e;cases e
     · rw [h] at e;obtain rfl:=Option.some.inj e;exact hp
 · rcases h3 with ⟨e,hm⟩ | ⟨c',l,clock,e,hp,hm1,hm2,hm3⟩
   · exact .inl ⟨by rw [e],hm⟩
   · subst e
     exact .inr ⟨c',l,clock,rfl,fun o=>.inr (.inr rfl),hm1,hm2,hm3⟩
theorem Zhg {g:G} {B:Nat → Prop} {m:Zs} (hbl:b < g.w.heap.size) (hR:Zz.R g b B m):∃ (D:Nat → Prop) (hD:∀ c,D c → c < g.w.heap.size),(∀ c,D c → ∀ o,¬ g.pr c o) ∧ (∀ c,D c → c=b ∨ B c) ∧ (Zu.ptr m).p (g.lend D hD) (.pointer (some ⟨b,0,none⟩)):=by
 obtain ⟨mv,t,h1,h2,h3⟩:=hR
 obtain ⟨D,hD,k1,k2,k3⟩:=Zhm (m:=m.by_) hbl h1 h2 (h3.imp id fun ⟨c,l,clock,e,_,hp,hm⟩=>⟨c,l,clock,e,hp,hm⟩)
 refine ⟨D,hD,k1,fun c hc=>?_,k3⟩
 rcases k2 c hc with h | h
 · exact .inl h
 · rcases h3 with ⟨e,_⟩ | ⟨c',l,clock,e,hB,_⟩
   · rw [h] at e;cases e
   · rw [h] at e;obtain rfl:=Option.some.inj e;exact .inr hB
theorem Ze6 {f:FuncId} {m:Zs} {A:List Pd} (hok:FnL P f (Zu.ptr m :: A) q) (hA:Free A):FnMR P f Zz m m A q:=by
 intro g b B args hR hbl hB hargs
 obtain ⟨D,hD,hn,hDB,hp⟩:=Zhg hbl hR
 refine Calls.mono (hok (g.lend D hD) _ (Zcc hp ⟨hargs.1,fun i qi u h1 h2=>Pd.le (hA.at h1) (Zjp g _ hD) rfl rfl rfl (hargs.2 i qi u h1 h2)⟩)) ?_
 rintro en w' ⟨g',v,rfl,rfl,hs,hq⟩
 obtain ⟨g2,e1,e2,hs2⟩:=Zht hn hs
 refine ⟨g2,v,B,rfl,e1.symm,⟨hs2.le,hs2.os,hs2.tape,hs2.output,fun c hc' _=>⟨(hs2.same c hc' (fun h=>by cases h)).1,(hs2.same c hc' (fun h=>by cases h)).2.1⟩⟩,Zz.st hR hs2.le (fun c h=>?_),fun c h=>⟨.inl h,Nat.lt_of_lt_of_le (hB c h).1 hs2.le.size⟩,hq g2 e1 (fun b' o hb' hp=>(e2 b' o).2 ⟨hp,fun h=>by have:=hD b' h;have hb':g.w.heap.size ≤ b':=hb';omega⟩)⟩
 have hc:c < g.w.heap.size:=h.elim (fun h=>h ▸ hbl) (fun h=>(hB c h).1)
 exact ⟨(hs2.same c hc (fun h=>by cases h)).1,(hs2.same c hc (fun h=>by cases h)).2.1⟩
theorem Zhq {t:TypeId} (hz:(P.info? t).bind (·.zero)=some (.agg #[.map none])) (hop:o.op=.alloc t) (hd:o.dst=some d):OB P N o uses [(d,Z9 none Zz j ⟨[]⟩)] [j + 1,j + 1 + AUX] :=
 Zco hd fun a g hh=>by
   obtain ⟨i,hi,hz⟩:=Option.bind_eq_some_iff.1 hz
   have hcz:(Value.agg #[.map none]).cells=#[.map none]:=rfl
   have hst:Step [j + 1,j + 1 + AUX] g (g.push #[.map none] t (fun _=>False) (j + 1)):=(Zdz g #[.map none] t (fun _=>False) (j + 1)).sub (by simp)
   refine ⟨.pointer (some ⟨g.w.heap.size,0,none⟩),g.push #[.map none] t (fun _=>False) (j + 1),?_,hst,g.w.heap.size,fun _=>False,⟨rfl,fun _ h=>by cases h⟩,⟨none,t,by rw [Zbr];exact Zce _ _,fun o h=>?_,.inl ⟨rfl,rfl⟩⟩,?_,?_,fun c hc ho=>?_,fun c h=>h.elim⟩
   · simp [execOp,hop,Instr.alloc,zeroValue,typeInfo,hi,hz,newVar,newRow,hcz,Zbr]
   · simp [G.push] at h
   · rw [Zbr,Z7];omega
   · simp [G.push]
   · rw [Zbr,Z7] at hc
     simp only [G.push] at ho
     split at ho
     · assumption
     · split at ho
       · omega
       · rename_i h;exact absurd ho h
open Classical in
theorem Zlf {f:FuncId} {m:Zs} {cb:Option Nat} {jo:Nat} {ty:Array TypeId} (he:Zp P f) (hok:Zii P f [Zu.ptr m] Zz m) (hop:o.op=.call { callee:=.value (.func f),args:=#[x],argTypes:=ty }) (hd:o.dst=some d) (hx:Opd uses x (Z9 cb Zz jo m)):OB P N o uses [(d,Z9 none Zz j m)] [j + 1,j + 1 + AUX]:=by
 intro a g K Q hN hdN hu hK
 obtain ⟨b,B,⟨hv,_⟩,hR,hb,ho,huq,hB⟩:=hx a g hu
 have hr:(execOp a.eval o).run P g.w=.ok (.enter f #[.pointer (some ⟨b,0,none⟩)]) g.w:=by
   simp [execOp,hop,resolve,Zex,Deferred.ofValue,invoke,Zc3 he,hv]
 unfold Oper.wp
 rw [hr]
 show Calls P f _ g.w _
 obtain ⟨D,hD,hn,hDB,hp⟩:=Zhg hb hR
 refine Calls.mono (hok (g.lend D hD) [.pointer (some ⟨b,0,none⟩)] (Zcc hp Zdg)) ?_
 rintro e w' ⟨g',b2,B2,rfl,rfl,hS,hb1,hb2,hR2,hB2⟩
 have hb1:g.w.heap.size ≤ b2:=hb1
 have hB2:∀ c,B2 c → g.w.heap.size ≤ c ∧ c < g'.w.heap.size ∧ c ≠ b2:=hB2
 let g2:G:=⟨g'.w,fun c o=>g'.pr c o ∧ ¬ D c,fun c=>if c < g.w.heap.size then (if g.own c=j + 1 ∨ g.own c=j + 1 + AUX then 0 else g.own c) else if c=b2 then j + 1 else if B2 c then j + 1 + AUX else 0,fun c o h=>g'.hpr c o h.1,fun en hen i v hv=>by
   obtain ⟨k1,k2⟩:=g'.gl en hen i v hv
   exact ⟨⟨k1,fun h=>hn _ h i (g.gl en hen i v hv).1⟩,k2⟩⟩
 have hown2:∀ c,g2.own c=if c < g.w.heap.size then (if g.own c=j + 1 ∨ g.own c=j + 1 + AUX then 0 else g.own c) else if c=b2 then j + 1 else if B2 c then j + 1 + AUX else 0:=fun _=>rfl
 refine hK _ g2 ⟨⟨hS.le.size,fun c o h=>⟨hS.le.pr c o (.inl h),fun h'=>hn c h' o h⟩,fun c o h=>hS.le.cell c o (.inl h),fun c h=>hS.le.blk c (fun o=>.inl (h o)),hS.le.dr⟩,hS.os,hS.tape,hS.output,fun c hc hno=>?_,fun c h1 h2=>?_,fun c hc hno=>?_⟩ fun e he=>?_
 · obtain ⟨k1,k2⟩:=hS.same c hc id
   refine ⟨k1,?_,?_⟩
   · funext o
     show (g'.pr c o ∧ ¬ D c)=g.pr c o
     rw [k2]
     show ((g.pr c o ∨ D c) ∧ ¬ D c)=g.pr c o
     have:=fun h=>hn c h o
     by_cases h:D c <;> simp [h,this]
   · rw [hown2,if_pos hc,if_neg]
     simpa using hno
 · rw [hown2,if_neg (by omega)]
   split
   · simp
   · split <;> simp
 · rw [hown2,if_pos hc,if_pos (by simpa using hno)];exact .inl rfl
 · rw [List.mem_singleton.1 he,hd,Zbo _ (by rw [hN];exact hdN d hd)]
   obtain ⟨mv,t,r1,r2,r3⟩:=hR2
   refine ⟨b2,B2,⟨rfl,fun _ h=>by cases h⟩,⟨mv,t,r1,fun o h=>r2 o h.1,r3.imp id fun ⟨c,l,clock,e1,e2,e3,e4⟩=>⟨c,l,clock,e1,e2,fun o h=>e3 o h.1,e4⟩⟩,hb2,?_,fun c hc hoc=>?_,fun c hc=>⟨(hB2 c hc).2.1,?_⟩⟩
   · rw [hown2,if_neg (by omega),if_pos rfl]
   · rw [hown2] at hoc
     split at hoc
     · split at hoc
       · omega
       · rename_i h;exact absurd hoc (fun h'=>h (.inl h'))
     · split at hoc
       · assumption
       · split at hoc
         · simp [AUX] at hoc
         · omega
   · rw [hown2,if_neg (by have:=(hB2 c hc).1;omega),if_neg (hB2 c hc).2.2,if_pos hc]
def Zd2 (j:Nat) (m:List (ByteArray × Int)):Pd:=⟨fun g u=>(u=.map none ∧ m=[]) ∨ (Zbk j m).p g u,[j + 1],fun {S g g' v} st hd h=>h.imp id fun h=>(Zbk j m).st st hd h⟩
def Zm6 (j:Nat) (m:List (ByteArray × Int)):Pd:=⟨fun g u=>∃ p,u=.agg #[.map p] ∧ (Zd2 j m).p g (.map p),[j + 1],fun {S g g' v} st hd ⟨p,e,h⟩=>⟨p,e,(Zd2 j m).st st hd h⟩⟩
theorem Zky {j:Nat} {m:List (ByteArray × Int)} {g:G} {u:Value} (h:(Zd2 j m).p g u):∃ p,u=.map p:=by
 rcases h with ⟨h,_⟩ | ⟨b,l,clock,h,_⟩
 · exact ⟨none,h⟩
 · exact ⟨some b,h⟩
theorem Zh6 {ρ:Ren} {f:FuncId} {m:List (ByteArray × Int)} {ty:Array TypeId} (L:Go.Proofs.SlLaysW.n5 P ρ) (hf:ρ.f 5=f) (he:Zp P f) (hop:o.op=.call { callee:=.value (.func f),args:=#[x],argTypes:=ty }) (hd:o.dst=some d) (hx:Opd uses x (Kd.mapS.pd m)):OB P N o uses [(d,Zd2 j m)] [j + 1]:=by
 intro a g K Q hN hdN hu hK
 have hr:(execOp a.eval o).run P g.w=.ok (.enter f #[a.eval x]) g.w:=by
   simp [execOp,hop,resolve,Zex,Deferred.ofValue,invoke,Zc3 he]
 unfold Oper.wp
 rw [hr]
 show Calls P f _ g.w _
 subst hf
 obtain ⟨cs,hKm,hv⟩:=hx a g hu
 rcases hKm with ⟨rfl,rfl⟩ | ⟨b,l,clock,rfl,h1,h2,h3,h4⟩
 · have hv:a.eval x=.map none:=hv
   rw [hv]
   refine Calls.mono (Go.Proofs.AnyW.maps_Clone_nil L g.w) ?_
   rintro e w' ⟨rfl,rfl⟩
   refine hK _ g (.sub (.refl [] g) (fun _ h=>by cases h)) fun e he=>?_
   rw [List.mem_singleton.1 he,hd,Zbo _ (by rw [hN];exact hdN d hd)]
   exact .inl ⟨rfl,rfl⟩
 · have hv:a.eval x=.map (some b):=hv
   rw [hv]
   refine Calls.mono (Go.Proofs.AnyW.maps_Clone L b _ _ g.w h3) ?_
   rintro e w' ⟨rfl,rfl⟩
   refine hK _ (g.pushO (.map (l.map ent).toArray clock) (j + 1)) (Zd5 ..) fun e he=>?_
   rw [List.mem_singleton.1 he,hd,Zbo _ (by rw [hN];exact hdN d hd)]
   refine .inr ⟨g.w.heap.size,l,clock,rfl,?_,fun b' hb' ho=>?_,fun o h=>?_,?_,Zce _ _,h4⟩
   · simp [G.pushO]
   · simp only [G.pushO] at ho
     split at ho
     · assumption
     · split at ho
       · omega
       · rename_i hne;exact absurd ho hne
   · exact absurd (g.hpr _ _ h) (by omega)
   · show _ < (g.w.alloc _).heap.size;rw [Z7];omega
theorem Zl1 {t:TypeId} {m:List (ByteArray × Int)} {F:Array Field} (hu:P.underlying t=some (.struct F)) (hz:(P.info? t).bind (·.zero)=some (.agg #[.map none])) (hp:F.toList.map (fun f=>(P.info? f.type).map fun i=>(f.offset,i.size))=[(0,1)].map some) (hop:o.op=.build t #[(0,x)]) (hd:o.dst=some d) (hx:Opd uses x (Zd2 j m)):OB P N o uses [(d,Zm6 j m)] []:=by
 refine Zc5 hop hd fun a g hh=>?_
 have h:=hx a g hh
 obtain ⟨p,hp'⟩:=Zky h
 refine ⟨.agg #[.map p],?_,p,rfl,by rw [← hp'];exact h⟩
 simp only [List.map_toArray,List.map_cons,List.map_nil,hp']
 exact Zcr hu (zero:=.agg #[.map none]) hz (places:=[(0,1)]) hp (by rfl) g.w
def Zgl (jb j:Nat) (m:List (ByteArray × Int)):Pd where
 p:=fun g u=>∃ b p t,u=.pointer (some ⟨b,0,none⟩) ∧ b < g.w.heap.size ∧ g.own b=jb + 1 ∧ g.w.heap[b]?=some (.cells #[.map p] t (0,0)) ∧ (∀ o,¬ g.pr b o) ∧ (Zd2 j m).p g (.map p)
 fp:=[jb + 1,j + 1]
 st:=fun {S g g' v} st hd ⟨b,p,t,e,h1,h2,h3,h4,h5⟩=>by
   obtain ⟨k1,k2,k3⟩:=st.same b h1 (by rw [h2];exact hd _ (by simp))
   exact ⟨b,p,t,e,Nat.lt_of_lt_of_le h1 st.le.size,k3.trans h2,k1.trans h3,fun o=>by rw [k2];exact h4 o,(Zd2 j m).st st (fun k hk=>hd k (by rw [List.mem_singleton.1 hk];simp)) h5⟩
theorem Zns {t:TypeId} {jb:Nat} {m:List (ByteArray × Int)} (hj:jb ≠ j) (hop:o.op=.box t x) (hd:o.dst=some d) (hx:Opd uses x (Zm6 j m)):OB P N o uses [(d,Zgl jb j m)] [jb + 1] :=
 Zco hd fun a g hh=>by
   obtain ⟨p,hv,hm⟩:=hx a g hh
   have hst:=Zdz g #[.map p] t (fun _=>False) (jb + 1)
   refine ⟨.pointer (some ⟨g.w.heap.size,0,none⟩),g.push #[.map p] t (fun _=>False) (jb + 1),?_,hst,g.w.heap.size,p,t,rfl,?_,?_,?_,fun o h=>?_,(Zd2 j m).st hst (fun k hk hS=>?_) hm⟩
   · have:(Value.agg #[.map p]).cells=#[.map p]:=rfl
     simp [execOp,hop,Instr.box,newVar,newRow,hv,this,Zbr]
   · rw [Zbr,Z7];omega
   · simp [G.push]
   · rw [Zbr];exact Zce _ _
   · simp [G.push] at h
   · have h1:=List.mem_singleton.1 hk
     have h2:=List.mem_singleton.1 hS
     omega
def Znd (m:Zs) (g0:G) (v:Value) (g1:G):Prop:=Base g0 g1 ∧ ∃ jb j,jb ≠ j ∧ (Zgl jb j m.by_).p g1 v
theorem Zli {m : Zs} {f : FuncId} {fn : Func} {c : Code} {A : List Pd} (hf : P.funcs[f]? = some fn) (hb : fn.body = some c) (hn : fn.ntmps = N) (hAN : A.length ≤ N) (hA : Free A)
   (h:∀ (a:Act) (g:G),(∀ b,g.own b=0) → St N (Zdn A 0) a g → Base g g → c.wp P (bodyPost P fn (FinP (Znd m g))) a g.w):Zii P f A Zz m:=by
 intro g args hargs
 let g0:G:=⟨g.w,g.pr,fun _=>0,g.hpr,g.gl⟩
 have hle:g.le g0:=⟨Nat.le_refl _,fun _ _ h=>h,fun _ _ _=>rfl,fun _ _=>rfl,Nat.le_refl _⟩
 have hst:St N (Zdn A 0) { tmps:=args.toArray ++ Array.replicate (fn.ntmps - args.toArray.size) undef,defers:=[] } g0:=by
   refine ⟨?_,rfl,?_⟩
   · have:=hargs.1
     simp [hn];omega
   · intro en he
     obtain ⟨i,h1,h2⟩:=Zej he
     have hi:i < args.length:=by rw [hargs.1];exact (List.getElem?_eq_some_iff.1 h2).1
     have hv:Act.at { tmps:=args.toArray ++ Array.replicate (fn.ntmps - args.toArray.size) undef,defers:=[] } en.1=args[i]:=by
       rw [h1,Nat.zero_add]
       simp only [Act.at,Array.getD_eq_getD_getElem?]
       rw [Array.getElem?_append,if_pos (by simpa using hi)]
       simp [hi]
     rw [hv]
     exact Pd.le (hA.at h2) hle rfl rfl rfl (hargs.2 i en.2 _ h2 (List.getElem?_eq_getElem hi))
 have hbase:Base g0 g0:=⟨.refl _,rfl,rfl,rfl,fun _ _ _=>⟨rfl,rfl,rfl⟩⟩
 refine Calls.mono (calls_of_wp hf hb (h _ g0 (fun _=>rfl) hst hbase)) ?_
 rintro en w' ⟨g1,v,rfl,rfl,hBs,jb,j,hj,b,p,t,rfl,m1,m2,m3,m4,m5⟩
 have hnew:∀ c,g1.own c ≠ 0 → c < g1.w.heap.size → g.w.heap.size ≤ c:=fun c h1 h2=>Nat.le_of_not_lt fun hlt=>h1 ((hBs.same c hlt rfl).2.2)
 have hS:Zkb (fun _=>False) g g1:=⟨⟨hBs.le.size,hBs.le.pr,hBs.le.cell,hBs.le.blk,hBs.le.dr⟩,hBs.os,hBs.tape,hBs.output,fun c hc _=>⟨(hBs.same c hc rfl).1,(hBs.same c hc rfl).2.1⟩⟩
 have hb0:=hnew b (by rw [m2];omega) m1
 rcases m5 with ⟨e,hm⟩ | ⟨c,l,clock,e,l1,l2,l3,l4⟩
 · exact ⟨g1,b,fun _=>False,rfl,rfl,hS,hb0,m1,⟨p,t,m3,m4,.inl ⟨by injection e,hm⟩⟩,fun c hc=>hc.elim⟩
 · refine ⟨g1,b,fun c'=>c'=c,rfl,rfl,hS,hb0,m1,⟨p,t,m3,m4,.inr ⟨c,l,clock,by injection e,rfl,l3,l4⟩⟩,fun c' hc=>?_⟩
   subst hc
   exact ⟨hnew c' (by rw [l1];omega) l4.1,l4.1,fun h=>by rw [h,m2] at l1;omega⟩
theorem Zo8 {fn:Func} {r:ResultVar} {v:Value} {a:Act} {g g0:G} {L:Zf} {jb:Nat} {m:Zs} (hr:fn.results=#[r]) (h:St N L a g) (hb:Base g0 g) (h1:Ze4 P a g r v) (hj:jb ≠ j) (hq:(Zgl jb j m.by_).p g v):bodyPost P fn (FinP (Znd m g0)) .ret a g.w:=endP hr h h1 ⟨hb,jb,j,hj,hq⟩
variable {β:Type} {dk:Kd β} {e:TypeId}
def Zk1 (dk:Kd β) (e:TypeId) (xs:List β) (g0:G) (v:Value) (g1:G):Prop:=Base g0 g1 ∧ ∃ j,(pArr dk e j xs).p g1 v
theorem Zn2 {f : FuncId} {fn : Func} {c : Code} {A : List Pd} {xs : List β} {enc : β → List Value} (hE : Enc dk enc) (hf : P.funcs[f]? = some fn) (hb : fn.body = some c) (hn : fn.ntmps = N) (hAN : A.length ≤ N) (hA : Free A)
   (h:∀ (a:Act) (g:G),(∀ b,g.own b=0) → St N (Zdn A 0) a g → Base g g → c.wp P (bodyPost P fn (FinP (Zk1 dk e xs g))) a g.w):FnL P f A (dk.sl.pd xs):=by
 intro g args hargs
 let g0:G:=⟨g.w,g.pr,fun _=>0,g.hpr,g.gl⟩
 have hle:g.le g0:=⟨Nat.le_refl _,fun _ _ h=>h,fun _ _ _=>rfl,fun _ _=>rfl,Nat.le_refl _⟩
 have hst:St N (Zdn A 0) { tmps:=args.toArray ++ Array.replicate (fn.ntmps - args.toArray.size) undef,defers:=[] } g0:=by
   refine ⟨?_,rfl,?_⟩
   · have:=hargs.1
     simp [hn];omega
   · intro en he
     obtain ⟨i,h1,h2⟩:=Zej he
     have hi:i < args.length:=by rw [hargs.1];exact (List.getElem?_eq_some_iff.1 h2).1
     have hv:Act.at { tmps:=args.toArray ++ Array.replicate (fn.ntmps - args.toArray.size) undef,defers:=[] } en.1=args[i]:=by
       rw [h1,Nat.zero_add]
       simp only [Act.at,Array.getD_eq_getD_getElem?]
       rw [Array.getElem?_append,if_pos (by simpa using hi)]
       simp [hi]
     rw [hv]
     exact Pd.le (hA.at h2) hle rfl rfl rfl (hargs.2 i en.2 _ h2 (List.getElem?_eq_getElem hi))
 have hbase:Base g0 g0:=⟨.refl _,rfl,rfl,rfl,fun _ _ _=>⟨rfl,rfl,rfl⟩⟩
 refine Calls.mono (calls_of_wp hf hb (h _ g0 (fun _=>rfl) hst hbase)) ?_
 rintro en w' ⟨g1,v,rfl,rfl,hBs,j,hq⟩
 have fin:∀ (pr':Nat → Nat → Prop) (hpr:∀ b o,pr' b o → b < g1.w.heap.size) (hp1:∀ b o,g1.pr b o → pr' b o) (hp2:∀ b,b < g.w.heap.size → pr' b=g1.pr b) (hf:∀ g2:G,g2.w=g1.w → (∀ b o,g.w.heap.size ≤ b → pr' b o → g2.pr b o) → (dk.sl.pd xs).p g2 v),∃ g' u,Ending.returned v=.returned u ∧ g1.w=g'.w ∧ Step [] g g' ∧ ∀ g2:G,g2.w=g'.w → (∀ b o,g.w.heap.size ≤ b → g'.pr b o → g2.pr b o) → (dk.sl.pd xs).p g2 u:=fun pr' hpr hp1 hp2 hf=>by
   refine ⟨⟨g1.w,pr',fun c=>if c < g.w.heap.size then g.own c else 0,hpr,g1.gl.le hp1 (fun _ _ _=>rfl)⟩,v,rfl,rfl,⟨⟨hBs.le.size,fun b o h=>hp1 b o (hBs.le.pr b o h),hBs.le.cell,hBs.le.blk,hBs.le.dr⟩,hBs.os,hBs.tape,hBs.output,fun c hc _=>⟨(hBs.same c hc rfl).1,(hp2 c hc).trans (hBs.same c hc rfl).2.1,if_pos hc⟩,fun c h1 h2=>.inl (if_neg (by omega)),fun c hc hn=>by cases hn⟩,hf⟩
 rcases hq with ⟨rfl,A0,rfl⟩ | ⟨b,cap,cur,rfl,hO⟩
 · exact fin g1.pr g1.hpr (fun _ _ h=>h) (fun _ _=>rfl) fun g2 _ _=>Kd.sl_V.2 ⟨A0,0,rfl,Nat.le_refl _,by simp,.inl rfl⟩
 · have hbn : g.w.heap.size ≤ b := Nat.le_of_not_lt fun hlt => by
     have:=(hBs.same b hlt rfl).2.2
     rw [hO.own] at this;omega
   refine fin (fun b' o=>g1.pr b' o ∨ b'=b) (fun b' o h=>h.elim (g1.hpr b' o) (fun h=>h ▸ hO.lt)) (fun _ _ h=>.inl h) (fun b' hb'=>?_) fun g2 hw hp=>?_
   · funext o
     have:b' ≠ b:=by omega
     simp [this]
   · have hl:=hO.len
     rw [List.length_map] at hl
     have hm:=hO.max
     refine Kd.sl_V.2 ⟨_,cap,rfl,hl,by simp only [maxLen] at hm;omega,.inr ⟨b,0,rfl,fun i x hx=>?_⟩⟩
     refine ⟨_,(hE.K _ _ _).2 ((hE.K _ _ _).1 (hO.known i x (by rw [List.getElem?_map,hx];rfl))),fun k u hk=>⟨hp _ _ hbn (.inr rfl),?_⟩⟩
     simp only [seg,List.getElem?_take,List.getElem?_drop] at hk
     split at hk
     · rw [hw]
       simp only [World.cell?,hO.heap]
       simpa using hk
     · cases hk
theorem Zo0 {fn:Func} {r:ResultVar} {v:Value} {xs:List β} {a:Act} {g g0:G} {L:Zf} (hr:fn.results=#[r]) (h:St N L a g) (hb:Base g0 g) (h1:Ze4 P a g r v) (hq:(pArr dk e j xs).p g v):bodyPost P fn (FinP (Zk1 dk e xs g0)) .ret a g.w:=endP hr h h1 ⟨hb,j,hq⟩
end
section
variable {P:Program} {N:Nat} {o:Oper} {uses outs:Zf} {S:List Nat} {d:Nat} {q:Pd} {x y z:Operand} {mt kt et:TypeId} {j b:Nat} {m:List (ByteArray × Int)}
theorem Zlq {j:Nat} {m m':List (ByteArray × Int)} (hp:m.Perm m') {g:G} {v:Value} (h:(Zbk j m).p g v):(Zbk j m').p g v:=by
 obtain ⟨b,l,clock,e,h2,h3,h5,h1,h4,h6⟩:=h
 exact ⟨b,l,clock,e,h2,h3,h5,h1,h4,h6.perm.trans hp,h6.born,h6.ahead,((hp.map (·.1)).nodup_iff).1 h6.keys⟩
structure MapM (g:G) (j c:Nat) (m:List (ByteArray × Int)) (l:List SEnt) (clock:Nat):Prop where
 own:g.own c=j + 1
 uniq:∀ b',b' < g.w.heap.size → g.own b'=j + 1 → b'=c
 npr:∀ o,¬ g.pr c o
 map:Zeo g c m l clock
theorem MapM.st {g g':G} {c:Nat} {l:List SEnt} {clock:Nat} {S:List Nat} (h:MapM g j c m l clock) (st:Step S g g') (hj:j + 1 ∉ S):MapM g' j c m l clock:=by
 obtain ⟨k1,k2,k3⟩:=st.same c h.map.1 (by rw [h.own];exact hj)
 exact ⟨k3.trans h.own,Zfa st hj (by omega) h.uniq,fun o=>by rw [k2];exact h.npr o,Nat.lt_of_lt_of_le h.map.1 st.le.size,k1.trans h.map.2.1,h.map.2.2⟩
structure VarM (g:G) (b:Nat) (v:Value):Prop where
 lt:b < g.w.heap.size
 own:g.own b=1
 npr:∀ o,¬ g.pr b o
 cell:∃ t,g.w.heap[b]?=some (.cells #[v] t (0,0))
theorem VarM.st {g g':G} {v:Value} {S:List Nat} (h:VarM g b v) (st:Step S g g') (hj:1 ∉ S):VarM g' b v:=by
 obtain ⟨k1,k2,k3⟩:=st.same b h.lt (by rw [h.own];exact hj)
 obtain ⟨t,ht⟩:=h.cell
 exact ⟨Nat.lt_of_lt_of_le h.lt st.le.size,k3.trans h.own,fun o=>by rw [k2];exact h.npr o,t,k1.trans ht⟩
def pNH0 (b j:Nat) (m:List (ByteArray × Int)):Pd where
 p:=fun g _=>(∃ v,VarM g b v) ∧ ∃ c l clock,MapM g j c m l clock
 fp:=[1,j + 1]
 st:=fun {S g g' v} st hd ⟨⟨u,h1⟩,c,l,clock,h2⟩=>⟨⟨u,h1.st st (hd _ (by simp))⟩,c,l,clock,h2.st st (hd _ (by simp))⟩
def pNH (b j:Nat) (m:List (ByteArray × Int)):Pd where
 p:=fun g _=>∃ c l clock,VarM g b (.map (some c)) ∧ MapM g j c m l clock
 fp:=[1,j + 1]
 st:=fun {S g g' v} st hd ⟨c,l,clock,h1,h2⟩=>⟨c,l,clock,h1.st st (hd _ (by simp)),h2.st st (hd _ (by simp))⟩
def Zdo (j:Nat):Pd where
 p:=fun g u=>∃ c,u=.map (some c) ∧ c < g.w.heap.size ∧ g.own c=j + 1
 fp:=[j + 1]
 st:=fun {S g g' v} st hd ⟨c,e,h1,h2⟩=>by
   obtain ⟨k1,k2,k3⟩:=st.same c h1 (by rw [h2];exact hd _ (by simp))
   exact ⟨c,e,Nat.lt_of_lt_of_le h1 st.le.size,k3.trans h2⟩
theorem Zke {k:Zs} {a:Act} {g:G} {L:Zf} {s:Nat} (h:St N ((0,Z3 (some b) Zu 0 k) :: (s,Zbk j m) :: L) a g):St N ((0,pEq (ptrB b 0)) :: (s,Zdo j) :: (1002,pNH0 b j m) :: L) a g:=by
 obtain ⟨b',cs,t,hv,⟨m1,m2,m3,m4,m5,m6⟩,hb'⟩:=h.h _ (List.mem_cons_self ..)
 obtain rfl:=hb' _ rfl
 obtain ⟨c,l,clock,hc,c1,c2,c3,c4⟩:=h.h (s,Zbk j m) (by simp)
 have hl:=Zu.len m5
 obtain ⟨u,rfl⟩:=List.length_eq_one_iff.1 hl
 refine ⟨h.size,h.df,fun en he=>?_⟩
 rcases List.mem_cons.1 he with rfl | he
 · exact hv
 rcases List.mem_cons.1 he with rfl | he
 · exact ⟨c,hc,c4.1,c1⟩
 rcases List.mem_cons.1 he with rfl | he
 · exact ⟨⟨u,m1,m2,m6,t,m4⟩,c,l,clock,c1,c2,c3,c4⟩
 · exact h.h en (by simp [he])
theorem Zkr {t s:Nat} (hT:Ty P t Kd.mapS) (hop:o.op=.store t x y) (hd:o.dst=none) (hs:Opd uses (.tmp s) (pNH0 b j m)) (hx:Opd uses x (pEq (ptrB b 0))) (hy:Opd uses y (Zdo j)):OB P N o uses [(s,pNH b j m)] [1] :=
 Zeu hd fun a g hh=>by
   obtain ⟨⟨v0,hV⟩,c,l,clock,hM⟩:=hs a g hh
   have hxv:a.eval x=.pointer (some ⟨b,0,none⟩):=hx a g hh
   obtain ⟨c',hyv,hlt,ho⟩:=hy a g hh
   obtain rfl:=hM.uniq c' hlt ho
   obtain ⟨t0,ht⟩:=hV.cell
   let gl:G:=g.lend (fun k=>k=c') (fun k h=>h ▸ hM.map.1)
   have hk:Kd.mapS.K gl m [.map (some c')]:=.inr ⟨c',l,clock,rfl,fun o=>.inr rfl,hM.map⟩
   have hst:=Zcl (P:=P) (g:=gl) (off:=0) hT ht hk (by simp)
   have hstep:Step [1] g (g.wr b #[.map (some c')] hV.lt hV.npr (fun _=>False) 1):=Zeb hV.own (.inr rfl) hV.npr
   have hcb:c' ≠ b:=fun h=>by
     have h1:=hM.map.2.1
     rw [h,ht] at h1
     cases h1
   refine ⟨g.wr b #[.map (some c')] hV.lt hV.npr (fun _=>False) 1,?_,hstep,fun en he=>?_⟩
   · have hst:(storeVar t ⟨b,0,none⟩ (mkV Kd.mapS.ag [.map (some c')])).run P g.w=_:=hst
     have hmk:mkV Kd.mapS.ag [.map (some c')]=.map (some c'):=rfl
     rw [hmk] at hst
     simp [execOp,hop,hxv,hyv,Instr.storeAt,Instr.sureAddr,hst,wr_w]
     rfl
   · rw [List.mem_singleton.1 he]
     refine ⟨c',l,clock,⟨by rw [wr_w,Zba];exact hV.lt,by simp [G.wr],fun o=>by simp [G.wr],t0,by rw [wr_w];exact setRow_heap _ _ _ _ _ _ ht⟩,?_⟩
     refine ⟨by simp [G.wr,hcb,hM.own],fun b' hb' ho'=>?_,fun o=>by simp only [G.wr];rw [if_neg hcb];exact hM.npr o,by rw [wr_w,Zba];exact hM.map.1,by rw [wr_w];exact (setRow_other _ _ _ _ hcb).trans hM.map.2.1,hM.map.2.2⟩
     rw [wr_w,Zba] at hb'
     simp only [G.wr] at ho'
     split at ho'
     · rename_i h
       have:j=0:=by omega
       subst this
       have:=hM.uniq b hV.lt hV.own
       exact absurd this.symm hcb
     · exact hM.uniq b' hb' ho'
theorem Zlj {f:FuncId} {s:Nat} {ty:Array TypeId} (he:Zp P f) (hok:FnL P f [Zu.ptr ⟨m⟩] q) (hop:o.op=.call { callee:=.value (.func f),args:=#[x],argTypes:=ty }) (hd:o.dst=some d) (hs:Opd uses (.tmp s) (pNH b j m)) (hx:Opd uses x (pEq (ptrB b 0))):OB P N o uses [(d,q)] []:=by
 intro a g K Q hN hdN hu hK
 obtain ⟨c,l,clock,hV,hM⟩:=hs a g hu
 have hv:a.eval x=.pointer (some ⟨b,0,none⟩):=hx a g hu
 obtain ⟨t,ht⟩:=hV.cell
 have hr:(execOp a.eval o).run P g.w=.ok (.enter f #[.pointer (some ⟨b,0,none⟩)]) g.w:=by
   simp [execOp,hop,resolve,Zex,Deferred.ofValue,invoke,Zc3 he,hv]
 unfold Oper.wp
 rw [hr]
 show Calls P f _ g.w _
 obtain ⟨D,hD,hn,hDB,hp⟩:=Zhm (m:=m) hV.lt ht hV.npr (.inr ⟨c,l,clock,rfl,hM.npr,hM.map⟩)
 refine Calls.mono (hok (g.lend D hD) [.pointer (some ⟨b,0,none⟩)] (Zcc hp Zdg)) ?_
 rintro en w' ⟨g',v,rfl,rfl,hs',hq⟩
 obtain ⟨g2,e1,e2,hs2⟩:=Zht hn hs'
 rw [← e1]
 refine hK v g2 hs2 fun e he=>?_
 rw [List.mem_singleton.1 he,hd,Zbo v (by rw [hN];exact hdN d hd)]
 exact hq g2 e1 (fun b' o hb' hp=>(e2 b' o).2 ⟨hp,fun h=>by have:=hD b' h;have hb':g.w.heap.size ≤ b':=hb';omega⟩)
theorem Zmq {s:Nat} (hm:P.underlying mt=some (.map kt et)) (hop:o.op=.call { callee:=.builtin .len,args:=#[x],argTypes:=#[mt] }) (hd:o.dst=some d) (hs:Opd uses (.tmp s) (pNH b j m)) (hx:Opd uses x (Zdo j)):OB P N o uses [(d,pInt .i64 (m.length:Int))] [] :=
 Z0 hd fun a g hh=>by
   obtain ⟨c,l,clock,hV,hM⟩:=hs a g hh
   obtain ⟨c',hv,hlt,ho⟩:=hx a g hh
   obtain rfl:=hM.uniq c' hlt ho
   rw [← hM.map.2.2.len]
   exact ⟨.int .i64 (l.length:Int),by simp [execOp,hop,resolve,invoke,builtin,Builtin.len_,run_underlying hm,hv,goInt,MapKept.run_getObj_map hM.map.2.1,Result.andThen],Zck _ _ g⟩
theorem Zmm {s s4 : Nat} {k : ByteArray} {tys : Array TypeId} (hj : j ≠ 0) (ht : tys[0]? = some mt) (hm : P.underlying mt = some (.map kt et)) (hk : P.underlying kt = some .string) (hop : o.op = .call { callee := .builtin .delete, args := #[x, y], argTypes := tys }) (hd : o.dst = none)
   (hs:Opd uses (.tmp s) (pNH b j m)) (h4:Opd uses (.tmp s4) (Zdo j)) (hx:Opd uses x (Zdo j)) (hy:Opd uses y (pStr k)):OB P N o uses [(s,pNH b j (delS m k)),(s4,Zdo j)] [j + 1] :=
 Zmw hd fun a g hh=>by
   obtain ⟨c,l,clock,hV,hM⟩:=hs a g hh
   obtain ⟨c',hv,hlt,ho⟩:=hx a g hh
   obtain rfl:=hM.uniq c' hlt ho
   obtain ⟨c4,hv4,hlt4,ho4⟩:=h4 a g hh
   have hky:=Zcu.1 (hy a g hh)
   obtain ⟨l',hr,hrel⟩:=Zjf (k:=k) (ty:=o.type) ht hm hk hM.map
   have hst:Step [j + 1] g (g.putO c' (.map (l'.map ent).toArray clock) hM.npr):=by have:=Zfp (ob:=.map (l'.map ent).toArray clock) hM.npr;rw [hM.own] at this;exact this
   refine ⟨.tuple #[],g.putO c' (.map (l'.map ent).toArray clock) hM.npr,by simp [execOp,hop,resolve,invoke,builtin,hv,hky,hr];rfl,hst,fun e he=>?_⟩
   rcases List.mem_cons.1 he with rfl | he
   · refine ⟨c',l',clock,hV.st hst (by simp;omega),hM.own,fun b' hb' ho=>hM.uniq b' (by have hb':b' < (World.put _ _ _).heap.size:=hb';rw [Zbw] at hb';exact hb') ho,hM.npr,by show c' < (World.put _ _ _).heap.size;rw [Zbw];exact hM.map.1,Zh8 _ _ _ hM.map.1,hrel⟩
   · rw [List.mem_singleton.1 he]
     exact ⟨c4,hv4,by show c4 < (World.put _ _ _).heap.size;rw [Zbw];exact hlt4,ho4⟩
def Zjz (b:Nat) (m1:Zs) (g0:G) (q:Pd) (v:Value) (g1:G):Prop:=Base g0 g1 ∧ q.p g1 v ∧ ∃ j m2 u,j ≠ 0 ∧ m2.Perm m1.by_ ∧ (pNH b j m2).p g1 u
open Classical in
theorem Zoi {x0 x1 : Zs} {f : FuncId} {fn : Func} {cd : Code} {A : List Pd} (hf : P.funcs[f]? = some fn) (hb : fn.body = some cd) (hn : fn.ntmps = N) (hAN : A.length + 1 ≤ N) (hA : Free A) (hq : q.fp = [])
   (h:∀ (a:Act) (g:G) (b:Nat),St N ((0,Z3 (some b) Zu 0 x0) :: Zdn A 1) a g → Base g g → cd.wp P (bodyPost P fn (FinP (Zjz b x1 g q))) a g.w):FnMR P f Zz x0 x1 A q:=by
 intro g b B args hR hbl hB hargs
 obtain ⟨mv,t,hh,hnp,hm⟩:=hR
 have hmv:∀ c,mv=some c → c < g.w.heap.size ∧ c ≠ b ∧ B c:=fun c e=>by
   rcases hm with ⟨e',_⟩ | ⟨c',l,clock,e',hBc,hp,h1,h2,h3⟩
   · rw [e] at e';cases e'
   · rw [e] at e';obtain rfl:=Option.some.inj e'
     exact ⟨h1,(hB c hBc).2,hBc⟩
 let gp:G:=g.lend (fun c=>mv=some c) (fun c e=>(hmv c e).1)
 have hlp:g.le gp:=Zjp ..
 let own:Nat → Nat:=fun c=>if c=b then 1 else 0
 let g0:G:=⟨gp.w,gp.pr,own,gp.hpr,gp.gl⟩
 have hargs':ArgsOk A gp args:=hargs.le hA hlp rfl rfl rfl
 have hbox:(Z3 (some b) Zu 0 x0).p g0 (.pointer (some ⟨b,0,none⟩)):=by
   refine ⟨b,[.map mv],t,rfl,⟨hbl,if_pos rfl,fun b' _ e=>?_,hh,Zg6.2 ?_,fun o h=>?_⟩,fun b' e=>Option.some.inj e⟩
   · have e:(if b'=b then 1 else 0)=1:=e
     split at e
     · assumption
     · omega
   · rcases hm with ⟨e',h⟩ | ⟨c',l,clock,e',hBc,hp,h1⟩
     · exact .inl ⟨by rw [e'],h⟩
     · subst e';exact .inr ⟨c',l,clock,rfl,fun o=>.inr rfl,h1⟩
   · rcases h with h | h
     · exact hnp o h
     · exact (hmv b h).2.1 rfl
 have hst:=Zlv (fn:=fn) (own:=own) hn hAN hA hargs' hbox
 have hbase:Base g0 g0:=⟨.refl _,rfl,rfl,rfl,fun _ _ h=>⟨rfl,rfl,h⟩⟩
 refine Calls.mono (calls_of_wp hf hb (h _ g0 b hst hbase)) ?_
 rintro en w' ⟨g1,v,rfl,rfl,hBs,hqv,j,m2,u,hj,hpm,c,l,clock,hV,hM⟩
 obtain ⟨t1,ht1⟩:=hV.cell
 have hcb:c ≠ b:=fun h=>by have:=hM.own;rw [h,hV.own] at this;omega
 have hcn:g.w.heap.size ≤ c:=Nat.le_of_not_lt fun hlt=>by
   have h0:own c=0:=if_neg hcb
   have:=(hBs.same c hlt h0).2.2
   rw [hM.own] at this;omega
 refine ⟨g1,v,fun c'=>c'=c,rfl,rfl,⟨hlp.trans ⟨hBs.le.size,hBs.le.pr,hBs.le.cell,hBs.le.blk,hBs.le.dr⟩,hBs.os,hBs.tape,hBs.output,fun c' hc' hn'=>?_⟩,⟨some c,t1,ht1,hV.npr,.inr ⟨c,l,clock,rfl,rfl,hM.npr,hM.map.1,hM.map.2.1,hM.map.2.2.perm.trans hpm,hM.map.2.2.born,hM.map.2.2.ahead,((hpm.map (·.1)).nodup_iff).1 hM.map.2.2.keys⟩⟩,fun c' hc'=>?_,hqv⟩
 · have hne:c' ≠ b:=fun e=>hn' (.inl e)
   have h0:own c'=0:=if_neg hne
   obtain ⟨k1,k2,_⟩:=hBs.same c' hc' h0
   refine ⟨k1,k2.trans ?_⟩
   funext o
   show (g.pr c' o ∨ mv=some c')=g.pr c' o
   have:mv ≠ some c':=fun e=>hn' (.inr (hmv c' e).2.2)
   simp [this]
 · subst hc'
   exact ⟨.inr hcn,hM.map.1⟩
theorem Zml {fn:Func} {a:Act} {g g0:G} {L:Zf} {m1:Zs} {u:Value} (hr:fn.results=#[]) (h:St N L a g) (hb:Base g0 g) (hj:j ≠ 0) (hp:m.Perm m1.by_) (hq:(pNH b j m).p g u):bodyPost P fn (FinP (Zjz b m1 g0 (pTup []))) .normal a g.w :=
 ⟨h.df,_,by simp [Zfd,hr],g,_,rfl,rfl,hb,⟨[],rfl,rfl,fun i q u h=>by simp at h⟩,j,m,u,hj,hp,hq⟩
theorem Zms {k:Zs} {c:Option Nat} {g:G} {v:Value} (h:(Z3 c Zu j k).p g v):(k.by_.map (·.1)).Nodup:=by
 obtain ⟨b',cs,t,hv,⟨m1,m2,m3,m4,m5,m6⟩,hb'⟩:=h
 obtain ⟨u,rfl⟩:=List.length_eq_one_iff.1 (Zu.len m5)
 rcases Zg6.1 m5 with ⟨_,h⟩ | ⟨_,l,clock,_,_,_,_,h⟩
 · rw [h];exact List.nodup_nil
 · exact h.keys
theorem Znx {g:G} {v:Value} (h:(pNH b j m).p g v):(m.map (·.1)).Nodup:=by
 obtain ⟨c,l,clock,_,h⟩:=h
 exact h.map.2.2.keys
theorem Zk5 {a:Act} {g:G} {s:Nat} {L:Zf} {m':List (ByteArray × Int)} (hp:m.Perm m') (h:St N ((s,Zbk j m) :: L) a g):St N ((s,Zbk j m') :: L) a g:=⟨h.size,h.df,fun en he=>by
 rcases List.mem_cons.1 he with rfl | he
 · exact Zlq hp (h.h _ (List.mem_cons_self ..))
 · exact h.h en (List.mem_cons_of_mem _ he)⟩
end
section
variable {P:Program} {N:Nat} {o:Oper} {uses outs:Zf} {S:List Nat} {d:Nat} {q:Pd} {x y z:Operand}
def bstr (xs:List Int):ByteArray:=xs.foldl (fun r n=>r.push (UInt8.ofNat n.toNat)) ByteArray.empty
theorem Zog {src dst e:TypeId} {xs:List Int} (hs:P.underlying src=some (.slice e)) (he:P.underlying e=some (.int .u8)) (hd':P.underlying dst=some .string) (hne:xs ≠ []) (hop:o.op=.convert src dst x) (hd:o.dst=some d) (hx:Opd uses x ((Kd.int .u8).sl.pd xs)):OB P N o uses [(d,pStr (bstr xs))] [] :=
 Z0 hd fun a g hh=>by
   obtain ⟨A,c,hv,h1,h2,hR⟩:=Kd.sl_V.1 (hx a g hh)
   rcases hR with h | ⟨b,of,rfl,hR⟩
   · exact absurd h hne
   have hl:(loadCells ⟨b,of,none⟩ (xs.map (Value.int .u8)).length).run P g.w=.ok (xs.map (Value.int .u8)).toArray g.w:=by
     refine run_loadCells_list g.w ⟨b,of,none⟩ (xs.map (Value.int .u8)) fun i u hu=>?_
     rw [List.getElem?_map] at hu
     obtain ⟨n,hn,rfl⟩:=Option.map_eq_some_iff.1 hu
     obtain ⟨cs,k1,k2⟩:=hR i n hn
     obtain rfl:=k1
     have:=(k2 0 (.int .u8 n) rfl).2
     have hsz:(Kd.int .u8).sz=1:=rfl
     rw [hsz,Nat.mul_one,Nat.add_zero] at this
     rw [Zbq];exact this
   rw [List.length_map] at hl
   exact ⟨.string (bstr xs),by simp [execOp,hop,hv,run_convert_bytes_string g.w src dst e (some ⟨b,of,none⟩) xs.length c hs he hd',run_bytesToString g.w ⟨b,of,none⟩ xs.length c xs hl,bstr],Zcu.2 rfl⟩
theorem Zoc {t ty : TypeId} {α : Type} {dk : Kd α} {u v : α} {f1 : α → ByteArray} {f2 : α → Int} (hag : dk.ag = true) (hK : ∀ g x cs, dk.K g x cs → cs = [.string (f1 x), .int .i64 (f2 x)]) (hu : P.underlying t = some (.struct (P.fieldsOf t))) (hp : P.stoodInHeld t = false) (hm : P.eqGuardType P.depth t = false)
   (heq:∀ (w:World) (a1 a2:ByteArray) (n1 n2:Int),(Op.eqFields 9999 #[.string a1,.int .i64 n1] #[.string a2,.int .i64 n2] (P.fieldsOf t).toList).run P w=.ok (a1.toList == a2.toList && n1 == n2) w)
   (hop:o.op=.binOp .eql t x y ty) (hd:o.dst=some d) (hx:Opd uses x (dk.pd u)) (hy:Opd uses y (dk.pd v)):OB P N o uses [(d,Zo (sEq (f1 u) (f1 v) && f2 u == f2 v))] [] :=
 Z0 hd fun a g hh=>by
   obtain ⟨cs,k1,e1⟩:=hx a g hh
   obtain ⟨cs',k2,e2⟩:=hy a g hh
   obtain rfl:=hK g u cs k1
   obtain rfl:=hK g v cs' k2
   rw [hag] at e1 e2
   have e1:a.eval x=.agg #[.string (f1 u),.int .i64 (f2 u)]:=e1
   have e2:a.eval y=.agg #[.string (f1 v),.int .i64 (f2 v)]:=e2
   refine ⟨.bool (sEq (f1 u) (f1 v) && f2 u == f2 v),?_,Zb8 _ g⟩
   have hb:(binOp .eql t (.agg #[.string (f1 u),.int .i64 (f2 u)]) (.agg #[.string (f1 v),.int .i64 (f2 v)])).run P g.w=.ok (.bool (sEq (f1 u) (f1 v) && f2 u == f2 v)) g.w:=by
     rw [run_eql_struct,run_equalIn_agg g.w 9999 t _ _ hu hp,heq]
     rfl
   have hg:=run_eqGuard_agg (P:=P) g.w .eql t x y #[.string (f1 u),.int .i64 (f2 u)] #[.string (f1 v),.int .i64 (f2 v)] hm
   simp [execOp,hop,e1,e2,hg,hb]
end
end Go.CL
namespace Go.CL
open Go Go.RowKit
structure Zb where
 Key:ByteArray
 Score:Int
 deriving Inhabited
structure Zbu where
 word:ByteArray
 on:Int
 has:ByteArray
 deriving Inhabited
structure Zed where
 Score:Nat
 Name:ByteArray
 deriving Inhabited
structure Zg where
 Kind:Int
 Num:Int
 Low:Int
 High:Int
 Real:Nat
 Cap:Int
 Text:ByteArray
 List:List Zed
 deriving Inhabited
structure Zd where
 Kind:Int
 Key:ByteArray
 N:Int
 X:Nat
 S:ByteArray
 Make:Zg
 Must:Bool
 deriving Inhabited
structure Zc where
 Acts:List Zd
 deriving Inhabited
structure Ze where
 Number:Int
 Deals:List Zc
 deriving Inhabited
structure Zgc where
 Key:ByteArray
 Score:Int
 deriving Inhabited
def g_0:List Zbu:=[{ word:=⟨#[]⟩,on:=(0),has:=⟨#[]⟩ },
 { word:=⟨#[110,101,119]⟩,on:=(0),has:=⟨#[109]⟩ },
 { word:=⟨#[100,114,111,112]⟩,on:=(0),has:=⟨#[]⟩ },
 { word:=⟨#[105,115]⟩,on:=(0),has:=⟨#[]⟩ },
 { word:=⟨#[108,111,111,107]⟩,on:=(0),has:=⟨#[]⟩ },
 { word:=⟨#[112,117,116]⟩,on:=(1),has:=⟨#[115]⟩ },
 { word:=⟨#[115,119,97,112]⟩,on:=(1),has:=⟨#[115]⟩ },
 { word:=⟨#[97,100,100]⟩,on:=(2),has:=⟨#[110]⟩ },
 { word:=⟨#[112,108,117,115]⟩,on:=(3),has:=⟨#[110]⟩ },
 { word:=⟨#[114,101,97,99,104]⟩,on:=(3),has:=⟨#[110]⟩ },
 { word:=⟨#[105,110]⟩,on:=(4),has:=⟨#[110]⟩ },
 { word:=⟨#[111,117,116]⟩,on:=(4),has:=⟨#[110]⟩ },
 { word:=⟨#[101,110,111,117,103,104]⟩,on:=(4),has:=⟨#[110]⟩ },
 { word:=⟨#[114,97,105,115,101]⟩,on:=(5),has:=⟨#[120]⟩ },
 { word:=⟨#[108,111,119,101,114]⟩,on:=(6),has:=⟨#[120]⟩ },
 { word:=⟨#[115,104,105,102,116]⟩,on:=(7),has:=⟨#[120]⟩ },
 { word:=⟨#[115,99,97,108,101]⟩,on:=(7),has:=⟨#[120]⟩ },
 { word:=⟨#[102,105,120]⟩,on:=(7),has:=⟨#[120]⟩ },
 { word:=⟨#[106,111,105,110]⟩,on:=(8),has:=⟨#[115]⟩ },
 { word:=⟨#[108,101,97,118,101]⟩,on:=(8),has:=⟨#[115]⟩ },
 { word:=⟨#[104,97,115]⟩,on:=(8),has:=⟨#[115]⟩ },
 { word:=⟨#[111,102,102,101,114]⟩,on:=(9),has:=⟨#[120,115]⟩ }]
def Zb7 (a0:List Int):Nat → (Int) → Option ((Int) ⊕ (Unit))
 | 0,_=>none
 | n + 1,x1=>(if (decide (x1 < (a0.length:Int))) then ((idx a0 x1).bind fun e3=>(if (e3 != (0:Int)) then (some (.inl e3)) else ((Zb7 a0 n) (IntKind.i64.wrap (x1 + (1:Int)))))) else (some (.inr ())))
def Zdd (a0:List Int):Option (Int):=((Zb7 a0 (Int.toNat ((a0.length:Int) - (0:Int)) + 1) (0:Int)).bind fun z6=>match z6 with | .inl r=>some r | .inr ()=>(some (0:Int)))
def Zcv (a0:Int):Option (Bool):=(some (a0 != a0))
def Zcj (a0:Int) (a1:Int):Option (Int):=((Zcv a0).bind fun r1=>((Zcv a1).bind fun r3=>(if r1 then (if r3 then (some (0:Int)) else (some (-1:Int))) else (if r3 then (some (1:Int)) else (if (decide (a0 < a1)) then (some (-1:Int)) else (if (decide (a1 < a0)) then (some (1:Int)) else (some (0:Int))))))))
def Zcf (a0:ByteArray):Option (Bool):=(some (!sEq a0 a0))
def Zb0 (a0:ByteArray) (a1:ByteArray):Option (Int):=((Zcf a0).bind fun r1=>((Zcf a1).bind fun r3=>(if r1 then (if r3 then (some (0:Int)) else (some (-1:Int))) else (if r3 then (some (1:Int)) else (if (sLt a0 a1) then (some (-1:Int)) else (if (!(sLt a0 a1 || sEq a0 a1)) then (some (1:Int)) else (some (0:Int))))))))
def Zh (a0:Zb) (a1:Zb):Option (Int):=((Zcj a1.Score a0.Score).bind fun r1=>((Zb0 a0.Key a1.Key).bind fun r3=>((Zdd ([r1,r3]:List Int)).bind fun r5=>(some r5))))
def Zi (e:ByteArray × Int):Zb:=⟨e.1,e.2⟩
def Zq (l:List Zb):List Zb:=l.mergeSort fun x y=>!decide ((Zh y x).getD 0 < 0)
def Zv (a0:Zs):Option (List Zb):=if a0.by_.length * 24 ≤ 140737488355328 then some (Zq (a0.by_.map Zi)) else none
def Zg0 (a0:Int):Option (Zbu):=(if ((decide (a0 ≤ (0:Int))) || (decide ((22:Int) ≤ a0))) then (some ({ word:=ByteArray.empty,on:=(0:Int),has:=ByteArray.empty }:Zbu)) else ((idx g_0 a0).bind fun e2=>(some e2)))
def Zdv (a0:Int):Option (Int):=((Zg0 a0).bind fun r1=>(some r1.on))
def Z5 (a0:Int) (a1:Int) (j8:Bool):Option (Bool):=(if j8 then ((Zdv a1).bind fun r10=>(some (r10 == a0))) else (some false))
def Zc6 (a0:Int) (a1:Int):Option (Bool):=(if (a1 == (7:Int)) then (Z5 a0 a1 (a1 == (7:Int))) else (if (a1 == (8:Int)) then (Z5 a0 a1 (a1 == (8:Int))) else (if (a1 == (10:Int)) then (Z5 a0 a1 (a1 == (10:Int))) else (if (a1 == (11:Int)) then (Z5 a0 a1 (a1 == (11:Int))) else (if (a1 == (13:Int)) then (Z5 a0 a1 (a1 == (13:Int))) else (if (a1 == (14:Int)) then (Z5 a0 a1 (a1 == (14:Int))) else (if (a1 == (18:Int)) then (Z5 a0 a1 (a1 == (18:Int))) else (Z5 a0 a1 (a1 == (21:Int))))))))))
def Z4 (m:List (ByteArray × Int)):List (ByteArray × Int):=(m.filter fun e=>decide (1 < e.2)).map fun e=>(e.1,IntKind.i64.wrap (Int.tdiv e.2 2))
def Zel (nx:List (ByteArray × Int)) (a:Zd):Option (List (ByteArray × Int)):=(Zdv a.Kind).bind fun o=>(Zc6 o a.Kind).bind fun b=>some (if b then setS nx a.Key (IntKind.i64.wrap ((getS nx a.Key).getD 0 + 1)) else nx)
def Zc1:List Zd → List (ByteArray × Int) → Option (List (ByteArray × Int))
 | [],nx=>some nx
 | a :: l,nx=>(Zel nx a).bind fun y=>Zc1 l y
def Zc9:List Zc → List (ByteArray × Int) → Option (List (ByteArray × Int))
 | [],nx=>some nx
 | d :: l,nx=>(Zc1 d.Acts nx).bind fun y=>Zc9 l y
def Zca (c:List Zb) (m:List (ByteArray × Int)):List (ByteArray × Int):=c.foldl (fun z x=>delS z x.Key) m
def Zl (nx:List (ByteArray × Int)):List (ByteArray × Int):=((Zq (nx.map Zi)).take 256).map fun x=>(x.Key,x.Score)
def Z1 (a0:Zs) (a1:Ze):Option (Zs × Unit):=(Zc9 a1.Deals (Z4 a0.by_)).bind fun nx=>(Zv ⟨nx⟩).bind fun _=>some (⟨Zl nx⟩,())
def Zbt (a0:Zs) (a1:ByteArray):Option Int:=some ((getS a0.by_ a1).getD 0)
def Zbv (a0:Zs):Option Int:=some (a0.by_.length:Int)
def Zb4:Option (Bool):=((Z1 (⟨[]⟩:Zs) ({ Number:=(0:Int),Deals:=([({ Acts:=([({ Kind:=(7:Int),Key:=(⟨#[97]⟩:ByteArray),N:=(1:Int),X:=(0:Nat),S:=ByteArray.empty,Make:=(default:Zg),Must:=false }:Zd),({ Kind:=(7:Int),Key:=(⟨#[97]⟩:ByteArray),N:=(1:Int),X:=(0:Nat),S:=ByteArray.empty,Make:=(default:Zg),Must:=false }:Zd)]:List Zd) }:Zc),({ Acts:=([({ Kind:=(7:Int),Key:=(⟨#[97]⟩:ByteArray),N:=(1:Int),X:=(0:Nat),S:=ByteArray.empty,Make:=(default:Zg),Must:=false }:Zd)]:List Zd) }:Zc)]:List Zc) }:Ze)).bind fun r1=>((Z1 r1.1 ({ Number:=(0:Int),Deals:=([]:List Zc) }:Ze)).bind fun r3=>((Zv r3.1).bind fun r5=>((gd (!false) (Zbt r1.1 (⟨#[97]⟩:ByteArray))).bind fun r7=>((gd ((!false) && (r7 == (3:Int))) (Zbt r3.1 (⟨#[97]⟩:ByteArray))).bind fun r9=>((gd (((!false) && (r7 == (3:Int))) && (r9 == (1:Int))) (Zbv r3.1)).bind fun r11=>((gd (((((!false) && (r7 == (3:Int))) && (r9 == (1:Int))) && (r11 == (1:Int))) && ((r5.length:Int) == (1:Int))) (idx r5 (0:Int))).bind fun e13=>(some ((((((!false) && (r7 == (3:Int))) && (r9 == (1:Int))) && (r11 == (1:Int))) && ((r5.length:Int) == (1:Int))) && (sEq e13.Key ({ Key:=(⟨#[97]⟩:ByteArray),Score:=(1:Int) }:Zb).Key && e13.Score == ({ Key:=(⟨#[97]⟩:ByteArray),Score:=(1:Int) }:Zb).Score))))))))))
def Zbx (a0:Int):Option (ByteArray):=(if ([(IntKind.u8.wrap (IntKind.i64.wrap ((97:Int) + (IntKind.i64.wrap (Int.tdiv a0 (100:Int)))))),(IntKind.u8.wrap (IntKind.i64.wrap ((97:Int) + (Int.tmod (IntKind.i64.wrap (Int.tdiv a0 (10:Int))) (10:Int))))),(IntKind.u8.wrap (IntKind.i64.wrap ((97:Int) + (Int.tmod a0 (10:Int)))))]:List Int) ≠ [] then (some (bstr ([(IntKind.u8.wrap (IntKind.i64.wrap ((97:Int) + (IntKind.i64.wrap (Int.tdiv a0 (100:Int)))))),(IntKind.u8.wrap (IntKind.i64.wrap ((97:Int) + (Int.tmod (IntKind.i64.wrap (Int.tdiv a0 (10:Int))) (10:Int))))),(IntKind.u8.wrap (IntKind.i64.wrap ((97:Int) + (Int.tmod a0 (10:Int)))))]:List Int))) else none)
def Zt (y35:List ByteArray):Nat → (Zs) → (Int) → Option ((Bool) ⊕ (Zs))
 | 0,_,_=>none
 | n + 1,x39,x40=>(if (decide (x40 < (y35.length:Int))) then ((idx y35 x40).bind fun e42=>((Zbt x39 e42).bind fun r44=>(if (decide (r44 < (1:Int))) then (some (.inl false)) else ((Zt y35 n) x39 (IntKind.i64.wrap (x40 + (1:Int))))))) else (some (.inr x39)))
def Zbg (x15:Int) (kk:(Ze) → (List ByteArray) → (Int) → Option (Ze × (List ByteArray))) (j32:Ze) (j33:List ByteArray):Option (Ze × (List ByteArray)):=(kk j32 j33 (IntKind.i64.wrap (x15 + (1:Int))))
def Zy (x14:List ByteArray) (r20:ByteArray):Nat → (Bool) → (Int) → Option (Bool)
 | 0,_,_=>none
 | n + 1,x23,x24=>(if (decide (x24 < (x14.length:Int))) then ((idx x14 x24).bind fun e26=>((Zy x14 r20 n) (x23 || (sEq e26 r20)) (IntKind.i64.wrap (x24 + (1:Int))))) else (some x23))
def Zm (a0:Int) (a1:List Int):Nat → (Ze) → (List ByteArray) → (Int) → Option (Ze × (List ByteArray))
 | 0,_,_,_=>none
 | n + 1,x13,x14,x15=>(if (decide (x15 < (a1.length:Int))) then ((idx a1 x15).bind fun e17=>(if (max (Int.tmod (IntKind.i64.wrap a0) (400:Int)) (1:Int)) ≠ (0:Int) then ((Zbx (Int.tmod (IntKind.i64.wrap e17) (max (Int.tmod (IntKind.i64.wrap a0) (400:Int)) (1:Int)))).bind fun r20=>(if (x13.Deals.length + ([({ Acts:=([({ Kind:=(18:Int),Key:=r20,N:=(0:Int),X:=(0:Nat),S:=(⟨#[97]⟩:ByteArray),Make:=(default:Zg),Must:=false }:Zd)]:List Zd) }:Zc)]:List Zc).length) * 24 ≤ 140737488355328 then ((Zy x14 r20 (Int.toNat ((x14.length:Int) - (0:Int)) + 1) false (0:Int)).bind fun z29=>match z29 with | y28=>(if (!y28) then (if (x14.length + ([r20]:List ByteArray).length) * 16 ≤ 140737488355328 then (Zbg x15 (Zm a0 a1 n) ({ x13 with Deals:=(x13.Deals ++ ([({ Acts:=([({ Kind:=(18:Int),Key:=r20,N:=(0:Int),X:=(0:Nat),S:=(⟨#[97]⟩:ByteArray),Make:=(default:Zg),Must:=false }:Zd)]:List Zd) }:Zc)]:List Zc)) }:Ze) (x14 ++ ([r20]:List ByteArray))) else none) else (Zbg x15 (Zm a0 a1 n) ({ x13 with Deals:=(x13.Deals ++ ([({ Acts:=([({ Kind:=(18:Int),Key:=r20,N:=(0:Int),X:=(0:Nat),S:=(⟨#[97]⟩:ByteArray),Make:=(default:Zg),Must:=false }:Zd)]:List Zd) }:Zc)]:List Zc)) }:Ze) x14))) else none)) else none)) else (some (x13,x14)))
def Zx (a0:Int):Nat → (Ze) → (Int) → Option (Ze)
 | 0,_,_=>none
 | n + 1,x5,x6=>(if (decide (x6 < (Int.tmod (IntKind.i64.wrap a0) (400:Int)))) then ((Zbx x6).bind fun r8=>(if (x5.Deals.length + ([({ Acts:=([({ Kind:=(8:Int),Key:=r8,N:=(1:Int),X:=(0:Nat),S:=ByteArray.empty,Make:=(default:Zg),Must:=false }:Zd)]:List Zd) }:Zc)]:List Zc).length) * 24 ≤ 140737488355328 then ((Zx a0 n) ({ x5 with Deals:=(x5.Deals ++ ([({ Acts:=([({ Kind:=(8:Int),Key:=r8,N:=(1:Int),X:=(0:Nat),S:=ByteArray.empty,Make:=(default:Zg),Must:=false }:Zd)]:List Zd) }:Zc)]:List Zc)) }:Ze) (IntKind.i64.wrap (x6 + (1:Int)))) else none)) else (some x5))
def Zb5 (a0:Int) (a1:List Int):Option (Bool):=((Zb4).bind fun r1=>(if (!r1) then (some false) else (if (decide ((40:Int) < (a1.length:Int))) then (some true) else ((Zx a0 (Int.toNat ((Int.tmod (IntKind.i64.wrap a0) (400:Int)) - (0:Int)) + 1) (default:Ze) (0:Int)).bind fun z12=>match z12 with | y11=>((Zm a0 a1 (Int.toNat ((a1.length:Int) - (0:Int)) + 1) y11 ([]:List ByteArray) (0:Int)).bind fun z36=>match z36 with | (y34,y35)=>((Z1 (⟨[]⟩:Zs) y34).bind fun r37=>((Zt y35 (Int.toNat ((y35.length:Int) - (0:Int)) + 1) r37.1 (0:Int)).bind fun z48=>match z48 with | .inl r=>some r | .inr y47=>((Zbv y47).bind fun r49=>((gd (r49 == (min (max (Int.tmod (IntKind.i64.wrap a0) (400:Int)) (y35.length:Int)) (256:Int))) (Zv y47)).bind fun r51=>((gd (r49 == (min (max (Int.tmod (IntKind.i64.wrap a0) (400:Int)) (y35.length:Int)) (256:Int))) (Zbv y47)).bind fun r53=>(some ((r49 == (min (max (Int.tmod (IntKind.i64.wrap a0) (400:Int)) (y35.length:Int)) (256:Int))) && ((r51.length:Int) == r53)))))))))))))
end Go.CL
namespace Go.CL
open Go Go.RowKit Go.Proofs
theorem Za:Tryd.prog.follows .mixedOrders=true:=by kernel_rfl
theorem Zpl {α:Type} {l:List α} (h:l.length=2):∃ u0 u1,l=[u0,u1]:=by
 match l,h with
 | [u0,u1],_=>exact ⟨u0,u1,rfl⟩
def Zir:List (Kd.FK Zb):=[⟨_,Kd.str,0,fun x:Zb=>x.Key⟩,
 ⟨_,(Kd.int .i64),1,fun x:Zb=>x.Score⟩]
def Zj:Kd Zb:=Kd.struct 2 Zir (by rfl)
theorem Zh5:∀ g,Zj.K g (default:Zb) [.string ByteArray.empty,.int .i64 0]:=fun g=>⟨rfl,(Qc.2 ⟨(rfl),(Qc.2 ⟨(rfl),(fun _ h=>by cases h)⟩)⟩)⟩
def Zja:List (Kd.FK Zbu):=[⟨_,Kd.str,0,fun x:Zbu=>x.word⟩,
 ⟨_,(Kd.int .i64),1,fun x:Zbu=>x.on⟩,
 ⟨_,Kd.str,2,fun x:Zbu=>x.has⟩]
def Zb9:Kd Zbu:=Kd.struct 3 Zja (by rfl)
theorem Zi5:∀ g,Zb9.K g (default:Zbu) [.string ByteArray.empty,.int .i64 0,.string ByteArray.empty]:=fun g=>⟨rfl,(Qc.2 ⟨(rfl),(Qc.2 ⟨(rfl),(Qc.2 ⟨(rfl),(fun _ h=>by cases h)⟩)⟩)⟩)⟩
def Zje:List (Kd.FK Zed):=[⟨_,Kd.flt,0,fun x:Zed=>x.Score⟩,
 ⟨_,Kd.str,1,fun x:Zed=>x.Name⟩]
def Zkm:Kd Zed:=Kd.struct 2 Zje (by rfl)
def Zh0:List (Kd.FK Zg):=[⟨_,(Kd.int .i64),0,fun x:Zg=>x.Kind⟩,
 ⟨_,(Kd.int .i64),1,fun x:Zg=>x.Num⟩,
 ⟨_,(Kd.int .i64),2,fun x:Zg=>x.Low⟩,
 ⟨_,(Kd.int .i64),3,fun x:Zg=>x.High⟩,
 ⟨_,Kd.flt,4,fun x:Zg=>x.Real⟩,
 ⟨_,(Kd.int .i64),5,fun x:Zg=>x.Cap⟩,
 ⟨_,Kd.str,6,fun x:Zg=>x.Text⟩,
 ⟨_,Zkm.sl,7,fun x:Zg=>x.List⟩]
def Zfu:Kd Zg:=Kd.struct 8 Zh0 (by rfl)
theorem Zd1:∀ g,Zfu.K g (default:Zg) [.int .i64 0,.int .i64 0,.int .i64 0,.int .i64 0,.float .f64 0,.int .i64 0,.string ByteArray.empty,.slice none 0 0]:=fun g=>⟨rfl,(Qc.2 ⟨(rfl),(Qc.2 ⟨(rfl),(Qc.2 ⟨(rfl),(Qc.2 ⟨(rfl),(Qc.2 ⟨(rfl),(Qc.2 ⟨(rfl),(Qc.2 ⟨(rfl),(Qc.2 ⟨(⟨none,0,rfl,Nat.le_refl _,Nat.zero_le _,.inl rfl⟩),(fun _ h=>by cases h)⟩)⟩)⟩)⟩)⟩)⟩)⟩)⟩)⟩
def Zku:List (Kd.FK Zd):=[⟨_,(Kd.int .i64),0,fun x:Zd=>x.Kind⟩,
 ⟨_,Kd.str,1,fun x:Zd=>x.Key⟩,
 ⟨_,(Kd.int .i64),2,fun x:Zd=>x.N⟩,
 ⟨_,Kd.flt,3,fun x:Zd=>x.X⟩,
 ⟨_,Kd.str,4,fun x:Zd=>x.S⟩,
 ⟨_,Zfu,5,fun x:Zd=>x.Make⟩,
 ⟨_,Kd.bool,13,fun x:Zd=>x.Must⟩]
def Zbb:Kd Zd:=Kd.struct 14 Zku (by rfl)
theorem Zgp:∀ g,Zbb.K g (default:Zd) [.int .i64 0,.string ByteArray.empty,.int .i64 0,.float .f64 0,.string ByteArray.empty,.int .i64 0,.int .i64 0,.int .i64 0,.int .i64 0,.float .f64 0,.int .i64 0,.string ByteArray.empty,.slice none 0 0,.bool false]:=fun g=>⟨rfl,(Qc.2 ⟨(rfl),(Qc.2 ⟨(rfl),(Qc.2 ⟨(rfl),(Qc.2 ⟨(rfl),(Qc.2 ⟨(rfl),(Qc.2 ⟨(Zd1 _),(Qc.2 ⟨(rfl),(fun _ h=>by cases h)⟩)⟩)⟩)⟩)⟩)⟩)⟩)⟩
def Zi4:List (Kd.FK Zc):=[⟨_,Zbb.sl,0,fun x:Zc=>x.Acts⟩]
def Zk:Kd Zc:=Kd.struct 1 Zi4 (by rfl)
theorem Zi6:∀ g,Zk.K g (default:Zc) [.slice none 0 0]:=fun g=>⟨rfl,(Qc.2 ⟨(⟨none,0,rfl,Nat.le_refl _,Nat.zero_le _,.inl rfl⟩),(fun _ h=>by cases h)⟩)⟩
def Zka:List (Kd.FK Ze):=[⟨_,(Kd.int .i64),0,fun x:Ze=>x.Number⟩,
 ⟨_,Zk.sl,1,fun x:Ze=>x.Deals⟩]
def Zbj:Kd Ze:=Kd.struct 2 Zka (by rfl)
def Zik:Zbu → List Value:=fun x=>[.string x.word,.int .i64 x.on,.string x.has]
theorem gm_0:(0,g_0.flatMap Zik) ∈ GL:=List.mem_of_getElem? (i:=0) rfl
theorem gk_0:∀ g,(Kd.arr 22 Zb9).K g g_0 (g_0.flatMap Zik):=fun g=>Zpi (dk:=Zb9) (enc:=Zik) (fun g x=>⟨rfl,(Qc.2 ⟨rfl,(Qc.2 ⟨rfl,(Qc.2 ⟨rfl,(fun _ h=>by cases h)⟩)⟩)⟩)⟩) g g_0
theorem Znh:∀ (g:G) (x:Zb) (cs:List Value),Zj.K g x cs → cs=[.string x.Key,.int .i64 x.Score]:=fun g x cs h=>by
 obtain ⟨u0,u1,rfl⟩:=Zpl h.1
 have h0:[u0]=[Value.string x.Key]:=(h.2 _ (List.mem_of_getElem? (i:=0) rfl))
 have h1:[u1]=[Value.int .i64 x.Score]:=(h.2 _ (List.mem_of_getElem? (i:=1) rfl))
 rw [List.singleton_inj.1 h0,List.singleton_inj.1 h1]
theorem sz_3:(Tryd.prog.info? 3).map (·.size)=some (Kd.int .i64).sz:=by kernel_rfl
theorem ty_3:Ty Tryd.prog 3 (Kd.int .i64):=⟨by kernel_rfl,by kernel_rfl⟩
theorem Zm9:Zp Tryd.prog 35:=by
 unfold Zp
 kernel_rfl
theorem Znj:Zp Tryd.prog 36:=by
 unfold Zp
 kernel_rfl
theorem Zj1:Fld Tryd.prog 58 1 Zj (Kd.int .i64) (fun x:Zb=>x.Score):=Fld.of ⟨_,(Kd.int .i64),1,fun x:Zb=>x.Score⟩ (List.mem_of_getElem? (i:=1) rfl) 1 rfl (by kernel_rfl) (by decide)
theorem Zpj:Zp Tryd.prog 27:=by
 unfold Zp
 kernel_rfl
theorem Zg3:Fld Tryd.prog 58 0 Zj Kd.str (fun x:Zb=>x.Key):=Fld.of ⟨_,Kd.str,0,fun x:Zb=>x.Key⟩ (List.mem_of_getElem? (i:=0) rfl) 0 rfl (by kernel_rfl) (by decide)
theorem ty_9:Ty Tryd.prog 9 Kd.str:=⟨by kernel_rfl,by kernel_rfl⟩
theorem Zpo:Zp Tryd.prog 28:=by
 unfold Zp
 kernel_rfl
theorem Zpb:TE Tryd.prog 81 3 (Kd.int .i64) 8:=TE.of Tryd.underlying81 (by kernel_rfl) (by decide) (by decide)
theorem Zo9:Zp Tryd.prog 26:=by
 unfold Zp
 kernel_rfl
theorem Zpd:Zp Tryd.prog 24:=by
 unfold Zp
 kernel_rfl
theorem Zpk:Zp Tryd.prog 25:=by
 unfold Zp
 kernel_rfl
theorem Zez:Fld Tryd.prog 27 0 Zu Kd.mapS (fun x:Zs=>x.by_):=Fld.of ⟨_,Kd.mapS,0,fun x:Zs=>x.by_⟩ (List.mem_of_getElem? (i:=0) rfl) 0 rfl (by kernel_rfl) (by decide)
theorem Zf3:Ty Tryd.prog 25 Kd.mapS:=⟨by kernel_rfl,by kernel_rfl⟩
theorem Zhf {N d:Nat} {o:Oper} {uses:Zf} {x0:Operand} {x1:Operand} {v0:ByteArray} {v1:Int} (hop:o.op=.build 58 #[(0,x0),(1,x1)]) (hd:o.dst=some d) (h0:Opd uses x0 (Kd.str.pd v0)) (h1:Opd uses x1 ((Kd.int .i64).pd v1)):OB Tryd.prog N o uses [(d,Zj.pd { Key:=v0,Score:=v1 })] []:=by
 refine Zc5 hop hd fun a g hh=>?_
 obtain ⟨c0,k0,e0⟩:=h0 a g hh
 obtain rfl:=k0
 obtain ⟨c1,k1,e1⟩:=h1 a g hh
 obtain rfl:=k1
 refine ⟨.agg #[.string v0,.int .i64 v1],?_,[.string v0,.int .i64 v1],⟨rfl,(Qc.2 ⟨rfl,(Qc.2 ⟨rfl,(fun _ h=>by cases h)⟩)⟩)⟩,rfl⟩
 simp only [List.map_toArray,List.map_cons,List.map_nil,e0,e1]
 exact Zcr Tryd.underlying58 (zero:=.agg #[.string ByteArray.empty,.int .i64 0]) (by kernel_rfl) (places:=[(0,1),(1,1)]) (by kernel_rfl) (by kernel_rfl) g.w
theorem Zm5:TE Tryd.prog 41 58 Zj 24:=TE.of Tryd.underlying41 (by kernel_rfl) (by decide) (by decide)
theorem Zol {N d:Nat} {o:Oper} {uses:Zf}   (hop:o.op=.build 74 #[]) (hd:o.dst=some d) :OB Tryd.prog N o uses [(d,Zb9.pd { word:=ByteArray.empty,on:=(0:Int),has:=ByteArray.empty })] []:=by
 refine Zc5 hop hd fun a g hh=>?_
 refine ⟨.agg #[.string ByteArray.empty,.int .i64 0,.string ByteArray.empty],?_,[.string ByteArray.empty,.int .i64 0,.string ByteArray.empty],⟨rfl,(Qc.2 ⟨(rfl),(Qc.2 ⟨(rfl),(Qc.2 ⟨(rfl),(fun _ h=>by cases h)⟩)⟩)⟩)⟩,rfl⟩
 simp only [List.map_toArray,List.map_cons,List.map_nil,List.map_nil]
 exact Zcr Tryd.underlying74 (zero:=.agg #[.string ByteArray.empty,.int .i64 0,.string ByteArray.empty]) (by kernel_rfl) (places:=[(0,1),(1,1),(2,1)]) (by kernel_rfl) (by kernel_rfl) g.w
theorem Zgn:Ty Tryd.prog 74 Zb9:=⟨by kernel_rfl,by kernel_rfl⟩
theorem Zpt:(Tryd.prog.info? 74).map (·.size)=some Zb9.sz:=by kernel_rfl
theorem Zpg:Zp Tryd.prog 30:=by
 unfold Zp
 kernel_rfl
theorem Znm:Fld Tryd.prog 74 1 Zb9 (Kd.int .i64) (fun x:Zbu=>x.on):=Fld.of ⟨_,(Kd.int .i64),1,fun x:Zbu=>x.on⟩ (List.mem_of_getElem? (i:=1) rfl) 1 rfl (by kernel_rfl) (by decide)
theorem Zne:Zp Tryd.prog 20:=by
 unfold Zp
 kernel_rfl
theorem Zob:PF Tryd.prog 27 0 0:=by
 unfold PF
 kernel_rfl
theorem Zkt:Zp Tryd.prog 16:=by
 unfold Zp
 kernel_rfl
theorem Zkf:(Tryd.prog.info? 58).map (·.size)=some Zj.sz:=by kernel_rfl
theorem Zj8:Ty Tryd.prog 58 Zj:=⟨by kernel_rfl,by kernel_rfl⟩
theorem Zn0:Fld Tryd.prog 31 1 Zbj Zk.sl (fun x:Ze=>x.Deals):=Fld.of ⟨_,Zk.sl,1,fun x:Ze=>x.Deals⟩ (List.mem_of_getElem? (i:=1) rfl) 1 rfl (by kernel_rfl) (by decide)
theorem Zpf:Ty Tryd.prog 29 Zk.sl:=⟨by kernel_rfl,by kernel_rfl⟩
theorem Zpm:(Tryd.prog.info? 54).map (·.size)=some Zk.sz:=by kernel_rfl
theorem Znb:Ty Tryd.prog 54 Zk:=⟨by kernel_rfl,by kernel_rfl⟩
theorem Znv:Fld Tryd.prog 54 0 Zk Zbb.sl (fun x:Zc=>x.Acts):=Fld.of ⟨_,Zbb.sl,0,fun x:Zc=>x.Acts⟩ (List.mem_of_getElem? (i:=0) rfl) 0 rfl (by kernel_rfl) (by decide)
theorem Zpe:Ty Tryd.prog 52 Zbb.sl:=⟨by kernel_rfl,by kernel_rfl⟩
theorem Zpy:(Tryd.prog.info? 51).map (·.size)=some Zbb.sz:=by kernel_rfl
theorem Zf6:Ty Tryd.prog 51 Zbb:=⟨by kernel_rfl,by kernel_rfl⟩
theorem Zjm:Fld Tryd.prog 51 0 Zbb (Kd.int .i64) (fun x:Zd=>x.Kind):=Fld.of ⟨_,(Kd.int .i64),0,fun x:Zd=>x.Kind⟩ (List.mem_of_getElem? (i:=0) rfl) 0 rfl (by kernel_rfl) (by decide)
theorem Zo6:Zp Tryd.prog 19:=by
 unfold Zp
 kernel_rfl
theorem Znl:Fld Tryd.prog 51 1 Zbb Kd.str (fun x:Zd=>x.Key):=Fld.of ⟨_,Kd.str,1,fun x:Zd=>x.Key⟩ (List.mem_of_getElem? (i:=1) rfl) 1 rfl (by kernel_rfl) (by decide)
theorem Zpp:Zp Tryd.prog 23:=by
 unfold Zp
 kernel_rfl
theorem Zf7 {N d:Nat} {o:Oper} {uses:Zf} {x0:Operand} {x1:Operand} {x2:Operand} {v0:Int} {v1:ByteArray} {v2:Int} (hop:o.op=.build 51 #[(0,x0),(1,x1),(2,x2)]) (hd:o.dst=some d) (h0:Opd uses x0 ((Kd.int .i64).pd v0)) (h1:Opd uses x1 (Kd.str.pd v1)) (h2:Opd uses x2 ((Kd.int .i64).pd v2)):OB Tryd.prog N o uses [(d,Zbb.pd { Kind:=v0,Key:=v1,N:=v2,X:=(0:Nat),S:=ByteArray.empty,Make:=(default:Zg),Must:=false })] []:=by
 refine Zc5 hop hd fun a g hh=>?_
 obtain ⟨c0,k0,e0⟩:=h0 a g hh
 obtain rfl:=k0
 obtain ⟨c1,k1,e1⟩:=h1 a g hh
 obtain rfl:=k1
 obtain ⟨c2,k2,e2⟩:=h2 a g hh
 obtain rfl:=k2
 refine ⟨.agg #[.int .i64 v0,.string v1,.int .i64 v2,.float .f64 0,.string ByteArray.empty,.int .i64 0,.int .i64 0,.int .i64 0,.int .i64 0,.float .f64 0,.int .i64 0,.string ByteArray.empty,.slice none 0 0,.bool false],?_,[.int .i64 v0,.string v1,.int .i64 v2,.float .f64 0,.string ByteArray.empty,.int .i64 0,.int .i64 0,.int .i64 0,.int .i64 0,.float .f64 0,.int .i64 0,.string ByteArray.empty,.slice none 0 0,.bool false],⟨rfl,(Qc.2 ⟨rfl,(Qc.2 ⟨rfl,(Qc.2 ⟨rfl,(Qc.2 ⟨(rfl),(Qc.2 ⟨(rfl),(Qc.2 ⟨(Zd1 _),(Qc.2 ⟨(rfl),(fun _ h=>by cases h)⟩)⟩)⟩)⟩)⟩)⟩)⟩)⟩,rfl⟩
 simp only [List.map_toArray,List.map_cons,List.map_nil,e0,e1,e2]
 exact Zcr Tryd.underlying51 (zero:=.agg #[.int .i64 0,.string ByteArray.empty,.int .i64 0,.float .f64 0,.string ByteArray.empty,.int .i64 0,.int .i64 0,.int .i64 0,.int .i64 0,.float .f64 0,.int .i64 0,.string ByteArray.empty,.slice none 0 0,.bool false]) (by kernel_rfl) (places:=[(0,1),(1,1),(2,1),(3,1),(4,1),(5,8),(13,1)]) (by kernel_rfl) (by kernel_rfl) g.w
theorem Zh1:TE Tryd.prog 52 51 Zbb 152:=TE.of Tryd.underlying52 (by kernel_rfl) (by decide) (by decide)
theorem Zf2 {N d:Nat} {o:Oper} {uses:Zf} {x0:Operand} {v0:List Zd} (hop:o.op=.build 54 #[(0,x0)]) (hd:o.dst=some d) (h0:Opd uses x0 (Zbb.sl.pd v0)):OB Tryd.prog N o uses [(d,Zk.pd { Acts:=v0 })] []:=by
 refine Zc5 hop hd fun a g hh=>?_
 obtain ⟨c0,k0,e0⟩:=h0 a g hh
 obtain ⟨A0,n0,rfl,l0⟩:=k0
 refine ⟨.agg #[.slice A0 v0.length n0],?_,[.slice A0 v0.length n0],⟨rfl,(Qc.2 ⟨⟨A0,n0,rfl,l0⟩,(fun _ h=>by cases h)⟩)⟩,rfl⟩
 simp only [List.map_toArray,List.map_cons,List.map_nil,e0]
 exact Zcr Tryd.underlying54 (zero:=.agg #[.slice none 0 0]) (by kernel_rfl) (places:=[(0,1)]) (by kernel_rfl) (by kernel_rfl) g.w
theorem Zgt:TE Tryd.prog 29 54 Zk 24:=TE.of Tryd.underlying29 (by kernel_rfl) (by decide) (by decide)
theorem Znn {N d:Nat} {o:Oper} {uses:Zf} {x1:Operand} {v1:List Zc} (hop:o.op=.build 31 #[(1,x1)]) (hd:o.dst=some d) (h1:Opd uses x1 (Zk.sl.pd v1)):OB Tryd.prog N o uses [(d,Zbj.pd { Number:=(0:Int),Deals:=v1 })] []:=by
 refine Zc5 hop hd fun a g hh=>?_
 obtain ⟨c1,k1,e1⟩:=h1 a g hh
 obtain ⟨A1,n1,rfl,l1⟩:=k1
 refine ⟨.agg #[.int .i64 0,.slice A1 v1.length n1],?_,[.int .i64 0,.slice A1 v1.length n1],⟨rfl,(Qc.2 ⟨(rfl),(Qc.2 ⟨⟨A1,n1,rfl,l1⟩,(fun _ h=>by cases h)⟩)⟩)⟩,rfl⟩
 simp only [List.map_toArray,List.map_cons,List.map_nil,e1]
 exact Zcr Tryd.underlying31 (zero:=.agg #[.int .i64 0,.slice none 0 0]) (by kernel_rfl) (places:=[(0,1),(1,1)]) (by kernel_rfl) (by kernel_rfl) g.w
theorem en_9:Zp Tryd.prog 9:=by
 unfold Zp
 kernel_rfl
theorem Zpz:Zp Tryd.prog 15:=by
 unfold Zp
 kernel_rfl
theorem Zo4 {N d:Nat} {o:Oper} {uses:Zf}   (hop:o.op=.build 31 #[]) (hd:o.dst=some d) :OB Tryd.prog N o uses [(d,Zbj.pd { Number:=(0:Int),Deals:=([]:List Zc) })] []:=by
 refine Zc5 hop hd fun a g hh=>?_
 refine ⟨.agg #[.int .i64 0,.slice none 0 0],?_,[.int .i64 0,.slice none 0 0],⟨rfl,(Qc.2 ⟨(rfl),(Qc.2 ⟨(⟨none,0,rfl,Nat.le_refl _,Nat.zero_le _,.inl rfl⟩),(fun _ h=>by cases h)⟩)⟩)⟩,rfl⟩
 simp only [List.map_toArray,List.map_cons,List.map_nil,List.map_nil]
 exact Zcr Tryd.underlying31 (zero:=.agg #[.int .i64 0,.slice none 0 0]) (by kernel_rfl) (places:=[(0,1),(1,1)]) (by kernel_rfl) (by kernel_rfl) g.w
theorem Zj3:Zp Tryd.prog 12:=by
 unfold Zp
 kernel_rfl
theorem Zkp:Zp Tryd.prog 14:=by
 unfold Zp
 kernel_rfl
theorem Zot:∀ (w:World) (a1 a2:ByteArray) (n1 n2:Int),(Op.eqFields 9999 #[.string a1,.int .i64 n1] #[.string a2,.int .i64 n2] (Tryd.prog.fieldsOf 58).toList).run Tryd.prog w=.ok (a1.toList == a2.toList && n1 == n2) w:=by
 intro w a1 a2 n1 n2
 have hs:=run_equalIn_string (P:=Tryd.prog) w 9998 9 a1 a2 Tryd.underlying9
 have hi:=run_equalIn_int (P:=Tryd.prog) w 9998 3 .i64 .i64 n1 n2 Tryd.underlying3
 simp only [Program.fieldsOf,Tryd.underlying58,Op.eqFields,part,Sem.run_bind,Tryd.isAgg9,Tryd.isAgg3,Result.andThen_ok,Bool.false_eq_true,if_false,List.getElem?_toArray,List.getElem?_cons_zero,List.getElem?_cons_succ,Sem.run_pure,hs,hi,Sem.run_ite]
 cases h1:(a1.toList == a2.toList) <;> cases h2:(n1 == n2) <;> simp [h1,h2,Sem.run_pure,Result.andThen]
theorem Zpq:Ty Tryd.prog 31 Zbj:=⟨by kernel_rfl,by kernel_rfl⟩
theorem en_7:Zp Tryd.prog 7:=by
 unfold Zp
 kernel_rfl
theorem Zpv:TE Tryd.prog 71 5 (Kd.int .u8) 1:=TE.of Tryd.underlying71 (by kernel_rfl) (by decide) (by decide)
structure Zc0 where
 Number:Int
 Deals:SlV
def Zil:List (Kd.FK Zc0):=[⟨_,(Kd.int .i64),0,fun x:Zc0=>x.Number⟩,
 ⟨_,Kd.raw,1,fun x:Zc0=>x.Deals⟩]
def Z6:Kd Zc0:=Kd.struct 2 Zil (by rfl)
def Z2 (x:Ze) (s:SlV):Zc0:=⟨x.Number,s⟩
theorem Zim:∀ g,Z6.K g (Z2 ((default:Ze)) (none,0,0)) [.int .i64 0,.slice none 0 0]:=fun g=>⟨rfl,(Qc.2 ⟨(rfl),(Qc.2 ⟨rfl,(fun _ h=>by cases h)⟩)⟩)⟩
theorem Zif {x:Ze} {e j:Nat}:∀ (g:G) (s:SlV) (cs:List Value),Z6.K g (Z2 x s) cs → (hpL (pRow Zk e j x.Deals)).p g s → Zbj.K g x cs:=fun g s cs h hr=>⟨h.1,(Qc.2 ⟨(h.2 _ (List.mem_of_getElem? (i:=0) rfl)),(Qc.2 ⟨(Zor (h.2 _ (List.mem_of_getElem? (i:=1) rfl)) hr.1),(fun _ h=>by cases h)⟩)⟩)⟩
theorem Zfl {x:Ze} {g:G} {cs ys:List Value} {s0 s1:SlV} (hk:Z6.K g (Z2 x s0) cs) (hy:Kd.raw.K g s1 ys):1 + ys.length ≤ cs.length ∧ Z6.K g (Z2 x s1) (Zbn cs 1 ys):=by
 have hc:cs.length=2:=hk.1
 have hl:ys.length=1:=Kd.raw.len hy
 exact ⟨by omega,(Zfj (by omega)).trans hc,(Qc.2 ⟨(by show (Kd.int .i64).K g x.Number (seg (Zbn cs 1 ys) 0 1);rw [Zd0 (by omega) (by omega)];exact hk.2 _ (List.mem_of_getElem? (i:=0) rfl)),(Qc.2 ⟨(by show Kd.raw.K g s1 (seg (Zbn cs 1 ys) 1 1);rw [Zgz (by omega) hl];exact hy),(fun _ h=>by cases h)⟩)⟩)⟩
theorem Ze9:Fld Tryd.prog 31 1 Z6 Kd.raw (fun x:Zc0=>x.Deals):=Fld.of ⟨_,Kd.raw,1,fun x:Zc0=>x.Deals⟩ (List.mem_of_getElem? (i:=1) rfl) 1 rfl (by kernel_rfl) (by decide)
theorem Zgq:Ty Tryd.prog 29 Kd.raw:=⟨by kernel_rfl,by kernel_rfl⟩
theorem Znc:Zp Tryd.prog 17:=by
 unfold Zp
 kernel_rfl
theorem Zps:(Tryd.prog.info? 43).map (·.size)=some (Kd.int .u16).sz:=by kernel_rfl
theorem Zo7:Ty Tryd.prog 43 (Kd.int .u16):=⟨by kernel_rfl,by kernel_rfl⟩
theorem Zi8 {N d:Nat} {o:Oper} {uses:Zf} {x0:Operand} {x1:Operand} {x4:Operand} {v0:Int} {v1:ByteArray} {v4:ByteArray} (hop:o.op=.build 51 #[(0,x0),(1,x1),(4,x4)]) (hd:o.dst=some d) (h0:Opd uses x0 ((Kd.int .i64).pd v0)) (h1:Opd uses x1 (Kd.str.pd v1)) (h4:Opd uses x4 (Kd.str.pd v4)):OB Tryd.prog N o uses [(d,Zbb.pd { Kind:=v0,Key:=v1,N:=(0:Int),X:=(0:Nat),S:=v4,Make:=(default:Zg),Must:=false })] []:=by
 refine Zc5 hop hd fun a g hh=>?_
 obtain ⟨c0,k0,e0⟩:=h0 a g hh
 obtain rfl:=k0
 obtain ⟨c1,k1,e1⟩:=h1 a g hh
 obtain rfl:=k1
 obtain ⟨c4,k4,e4⟩:=h4 a g hh
 obtain rfl:=k4
 refine ⟨.agg #[.int .i64 v0,.string v1,.int .i64 0,.float .f64 0,.string v4,.int .i64 0,.int .i64 0,.int .i64 0,.int .i64 0,.float .f64 0,.int .i64 0,.string ByteArray.empty,.slice none 0 0,.bool false],?_,[.int .i64 v0,.string v1,.int .i64 0,.float .f64 0,.string v4,.int .i64 0,.int .i64 0,.int .i64 0,.int .i64 0,.float .f64 0,.int .i64 0,.string ByteArray.empty,.slice none 0 0,.bool false],⟨rfl,(Qc.2 ⟨rfl,(Qc.2 ⟨rfl,(Qc.2 ⟨(rfl),(Qc.2 ⟨(rfl),(Qc.2 ⟨rfl,(Qc.2 ⟨(Zd1 _),(Qc.2 ⟨(rfl),(fun _ h=>by cases h)⟩)⟩)⟩)⟩)⟩)⟩)⟩)⟩,rfl⟩
 simp only [List.map_toArray,List.map_cons,List.map_nil,e0,e1,e4]
 exact Zcr Tryd.underlying51 (zero:=.agg #[.int .i64 0,.string ByteArray.empty,.int .i64 0,.float .f64 0,.string ByteArray.empty,.int .i64 0,.int .i64 0,.int .i64 0,.int .i64 0,.float .f64 0,.int .i64 0,.string ByteArray.empty,.slice none 0 0,.bool false]) (by kernel_rfl) (places:=[(0,1),(1,1),(2,1),(3,1),(4,1),(5,8),(13,1)]) (by kernel_rfl) (by kernel_rfl) g.w
theorem sz_9:(Tryd.prog.info? 9).map (·.size)=some Kd.str.sz:=by kernel_rfl
theorem Zni:TE Tryd.prog 55 9 Kd.str 16:=TE.of Tryd.underlying55 (by kernel_rfl) (by decide) (by decide)
theorem Zhx (a0:List Int) {r:Int} (h:Zdd a0=some r):FnOk Tryd.prog 26 [((Kd.int .i64).sl.pd a0)] (pInt .i64 r):=by
 have H0:=h
 unfold Zdd at H0
 clear h
 refine Zcx (N:=18) Tryd.func26 rfl rfl (Qe rfl) rfl rfl (fun a g0 hst hb=>?_)
 refine r_s (T:=[⟨[],_,[],[],[2]⟩]) (F:=[.o 0]) hst hb Za
  (Qa rfl c_i<|o_n) (fun a g hst hb=>?_)
 refine r_s (T:=[⟨[],_,[],[],[3]⟩]) (F:=[.o 0,.p 0 0]) hst hb Za
  (Qa rfl c_i<|o_n) (fun a g hst hb=>?_)
 refine wp_seq ?_
 refine r_s (T:=[⟨[.o 0],_,[],[],[6]⟩,⟨[.p 0 0],_,[],[0],[7]⟩,⟨[],_,[],[],[8]⟩]) (F:=[.o 1,.p 0 0,.p 1 0,.p 2 0]) hst hb Za
  (Qm rfl u_0<|o_p rfl (Zcm Tryd.underlying81 rfl rfl u_0)<|Qm rfl c_i<|o_n) (fun a g hst hb=>?_)
 obtain ⟨z6,hz1,H0⟩:=Zn H0
 refine Zc2 (fun a w=>∃ (g:G),w=g.w ∧ St 18 [(3,(pInt .i64 (0:Int)))] a g ∧ Base g0 g ∧ (.inr ())=z6) ?_ ?_
 ·rintro a w ⟨g,rfl,hst,hb,rfl⟩
  refine Zr ?_
  refine r_s (T:=[⟨[.o 0],_,[],[],[17]⟩,⟨[.p 0 0],_,[],[0],[2]⟩]) (F:=[.p 1 0]) hst hb Za
   (Qm rfl u_0<|Qa rfl u_0<|o_n) (fun a g hst hb=>?_)
  refine wp_ret ?_
  obtain rfl:=Option.some.inj H0
  exact Z8 rfl hst hb (Zw (s:=2)) (hst.at 0 rfl)
 ·refine wp_block ?_
  refine wp_loop_ghost (fun n a w=>∃ (x1:Int) (g:G),w=g.w ∧ St 18 [(3,(pInt .i64 (0:Int))),(6,((Kd.int .i64).sl.pd a0)),(7,(pInt .i64 (a0.length:Int))),(8,(pInt .i64 x1))] a g ∧ Base g0 g ∧ Zb7 a0 n x1=some z6) (Int.toNat ((a0.length:Int) - (0:Int)) + 1) ⟨(0:Int),g,rfl,(hst.pick [0,1,2,3] rfl),hb,hz1⟩ (fun n a w hI=>?_)
  obtain ⟨x1,g,rfl,hst,hb,H1⟩:=hI
  cases n with
  | zero=>exact absurd H1 (by simp [Zb7])
  | succ n =>
   rw [Zb7] at H1
   refine r_s (T:=[⟨[.o 3,.o 2],_,[],[],[9]⟩]) (F:=[.o 0,.o 1,.o 2,.o 3,.p 0 0]) hst hb Za
    (o_p rfl (Zdr rfl rfl u_0 u_1)<|o_n) (fun a g hst hb=>?_)
   refine wp_seq ?_
   refine wp_cond_split (hst.bool 4 rfl) (fun hc2=>?_) (fun hc2=>?_)
   ·replace H1:=Zbf hc2 H1
    refine wp_skip ?_
    refine Zr ?_
    refine wp_seq ?_
    refine wp_block ?_
    obtain ⟨e3,h4,H1⟩:=Zn H1
    refine r_s (L:=[(3,_),(6,_),(7,_),(8,_)]) (T:=[⟨[.o 1,.o 3],_,[],[],[10]⟩,⟨[.p 0 0],_,[],[0],[11]⟩,⟨[.p 1 0],_,[],[0,1],[5]⟩]) (F:=[.o 0,.p 2 0,.o 1,.o 2,.o 3]) (hst.pick [0,1,2,3] rfl) hb Za
     (o_p rfl (Zb3 Tryd.underlying81 sz_3 rfl rfl u_0 u_1 h4)<|Ql rfl ty_3 u_0<|Qa rfl u_0<|o_n) (fun a g hst hb=>?_)
    refine r_s (T:=[⟨[.o 1],_,[],[],[12]⟩,⟨[.o 0],_,[],[],[13]⟩,⟨[.p 0 0,.p 1 0],_,[],[0,1],[14]⟩]) (F:=[.o 0,.o 1,.o 2,.o 3,.o 4,.p 2 0]) hst hb Za
     (Qm rfl u_0<|Qm rfl u_0<|o_p rfl (Zng rfl rfl u_0 u_1)<|o_n) (fun a g hst hb=>?_)
    refine wp_cond_split (hst.bool 5 rfl) (fun hc5=>?_) (fun hc5=>?_)
    ·replace H1:=Zbf hc5 H1
     refine r_s (L:=[(5,_)]) (T:=[⟨[.o 0],_,[],[],[15]⟩,⟨[.p 0 0],_,[],[0],[2]⟩]) (F:=[.p 1 0]) (hst.pick [1] rfl) hb Za
      (Qm rfl u_0<|Qa rfl u_0<|o_n) (fun a g hst hb=>?_)
     refine wp_ret ?_
     refine Zdx ?_
     refine Zbc ?_
     refine Zbc ?_
     refine Zdx ?_
     refine Zbc ?_
     refine Zbc ?_
     obtain rfl:=Option.some.inj H1
     obtain rfl:=Option.some.inj H0
     exact Z8 rfl hst hb (Zw (s:=2)) (hst.at 0 rfl)
    ·replace H1:=Zbe hc5 H1
     refine wp_skip ?_
     refine Zbh ?_
     refine Zr ?_
     refine r_g (L:=[(3,_),(6,_),(7,_),(8,_)]) (T:=[⟨[.o 3],_,[],[],[16]⟩,⟨[.p 0 0],_,[],[0],[8]⟩]) (F:=[.o 0,.o 1,.o 2,.p 1 0]) (hst.pick [0,2,3,4] rfl) hb Za
      (o_p rfl (Zcn rfl rfl u_0 c_i rfl)<|Qm rfl u_0<|o_n) (fun a g hst hb=>?_)
     exact ⟨n,Nat.lt_succ_self _,(IntKind.i64.wrap (x1 + (1:Int))),g,rfl,(hst.pick [0,1,2,3] rfl),hb,H1⟩
   ·replace H1:=Zbe hc2 H1
    refine wp_exit ?_
    refine Zbm ?_
    refine Zbm ?_
    refine Zcb ?_
    exact ⟨g,rfl,(hst.pick [0] rfl),hb,Option.some.inj H1⟩
theorem Zen (a0:Int) {r:Bool} (h:Zcv a0=some r):FnOk Tryd.prog 35 [(pInt .i64 a0)] (Zo r):=by
 have H0:=h
 unfold Zcv at H0
 clear h
 refine Zcx (N:=6) Tryd.func35 rfl rfl (Qe rfl) rfl rfl (fun a g0 hst hb=>?_)
 refine r_s (T:=[⟨[],_,[],[],[2]⟩]) (F:=[.o 0]) hst hb Za
  (Qa rfl c_b<|o_n) (fun a g hst hb=>?_)
 refine r_s (T:=[⟨[.o 0],_,[],[],[3]⟩,⟨[.o 0],_,[],[],[4]⟩,⟨[.p 0 0,.p 1 0],_,[],[0,1],[5]⟩,⟨[.p 2 0],_,[],[0,1,2],[2]⟩]) (F:=[.p 3 0]) hst hb Za
  (Qm rfl u_0<|Qm rfl u_0<|o_p rfl (Zng rfl rfl u_0 u_1)<|Qa rfl u_0<|o_n) (fun a g hst hb=>?_)
 refine wp_ret ?_
 obtain rfl:=Option.some.inj H0
 exact Z8 rfl hst hb (Zw (s:=2)) (hst.at 0 rfl)
theorem Zfr (a0:Int) (a1:Int) {r:Int} (h:Zcj a0 a1=some r):FnOk Tryd.prog 27 [(pInt .i64 a0),(pInt .i64 a1)] (pInt .i64 r):=by
 have H0:=h
 unfold Zcj at H0
 clear h
 refine Zcx (N:=20) Tryd.func27 rfl rfl (Qe rfl) rfl rfl (fun a g0 hst hb=>?_)
 refine r_s (T:=[⟨[],_,[],[],[4]⟩]) (F:=[.o 0,.o 1]) hst hb Za
  (Qa rfl c_i<|o_n) (fun a g hst hb=>?_)
 obtain ⟨r1,h2,H0⟩:=Zn H0
 refine r_s (T:=[⟨[.o 0],_,[],[],[7]⟩,⟨[.p 0 0],_,[],[0],[8]⟩,⟨[.p 1 0],_,[],[0,1],[5]⟩]) (F:=[.o 0,.o 1,.p 2 0]) hst hb Za
  (Qm rfl u_0<|o_p rfl (Zb6 Zm9 (Zen _ h2) rfl rfl (.cons u_0 .nil))<|Qa rfl u_0<|o_n) (fun a g hst hb=>?_)
 obtain ⟨r3,h4,H0⟩:=Zn H0
 refine r_s (T:=[⟨[.o 1],_,[],[],[9]⟩,⟨[.p 0 0],_,[],[0],[10]⟩,⟨[.p 1 0],_,[],[0,1],[6]⟩]) (F:=[.o 0,.o 1,.o 2,.p 2 0]) hst hb Za
  (Qm rfl u_0<|o_p rfl (Zb6 Zm9 (Zen _ h4) rfl rfl (.cons u_0 .nil))<|Qa rfl u_0<|o_n) (fun a g hst hb=>?_)
 refine wp_seq ?_
 refine r_s (T:=[⟨[.o 2],_,[],[],[11]⟩]) (F:=[.o 0,.o 1,.o 3,.p 0 0]) hst hb Za
  (Qm rfl u_0<|o_n) (fun a g hst hb=>?_)
 refine wp_cond_split (hst.bool 3 rfl) (fun hc5=>?_) (fun hc5=>?_)
 ·replace H0:=Zbf hc5 H0
  refine wp_seq ?_
  refine r_s (L:=[(6,_)]) (T:=[⟨[.o 0],_,[],[],[12]⟩]) (F:=[.p 0 0]) (hst.pick [2] rfl) hb Za
   (Qm rfl u_0<|o_n) (fun a g hst hb=>?_)
  refine wp_cond_split (hst.bool 0 rfl) (fun hc6=>?_) (fun hc6=>?_)
  ·replace H0:=Zbf hc6 H0
   refine r_s (L:=[]) (T:=[⟨[],_,[],[],[4]⟩]) (F:=[.p 0 0]) (hst.pick [] rfl) hb Za
    (Qa rfl c_i<|o_n) (fun a g hst hb=>?_)
   refine wp_ret ?_
   refine Zbc ?_
   refine Zbc ?_
   obtain rfl:=Option.some.inj H0
   exact Z8 rfl hst hb (Zw (s:=4)) (hst.at 0 rfl)
  ·replace H0:=Zbe hc6 H0
   refine wp_skip ?_
   refine Zr ?_
   refine r_s (L:=[]) (T:=[⟨[],_,[],[],[4]⟩]) (F:=[.p 0 0]) (hst.pick [] rfl) hb Za
    (Qa rfl c_i<|o_n) (fun a g hst hb=>?_)
   refine wp_ret ?_
   refine Zbc ?_
   obtain rfl:=Option.some.inj H0
   exact Z8 rfl hst hb (Zw (s:=4)) (hst.at 0 rfl)
 ·replace H0:=Zbe hc5 H0
  refine wp_skip ?_
  refine Zr ?_
  refine wp_seq ?_
  refine r_s (L:=[(0,_),(1,_),(6,_)]) (T:=[⟨[.o 2],_,[],[],[13]⟩]) (F:=[.o 0,.o 1,.p 0 0]) (hst.pick [0,1,2] rfl) hb Za
   (Qm rfl u_0<|o_n) (fun a g hst hb=>?_)
  refine wp_cond_split (hst.bool 2 rfl) (fun hc7=>?_) (fun hc7=>?_)
  ·replace H0:=Zbf hc7 H0
   refine r_s (L:=[]) (T:=[⟨[],_,[],[],[4]⟩]) (F:=[.p 0 0]) (hst.pick [] rfl) hb Za
    (Qa rfl c_i<|o_n) (fun a g hst hb=>?_)
   refine wp_ret ?_
   refine Zbc ?_
   obtain rfl:=Option.some.inj H0
   exact Z8 rfl hst hb (Zw (s:=4)) (hst.at 0 rfl)
  ·replace H0:=Zbe hc7 H0
   refine wp_skip ?_
   refine Zr ?_
   refine wp_seq ?_
   refine r_s (L:=[(0,_),(1,_)]) (T:=[⟨[.o 0],_,[],[],[14]⟩,⟨[.o 1],_,[],[],[15]⟩,⟨[.p 0 0,.p 1 0],_,[],[0,1],[16]⟩]) (F:=[.o 0,.o 1,.p 2 0]) (hst.pick [0,1] rfl) hb Za
    (Qm rfl u_0<|Qm rfl u_0<|o_p rfl (Zdr rfl rfl u_0 u_1)<|o_n) (fun a g hst hb=>?_)
   refine wp_cond_split (hst.bool 2 rfl) (fun hc8=>?_) (fun hc8=>?_)
   ·replace H0:=Zbf hc8 H0
    refine r_s (L:=[]) (T:=[⟨[],_,[],[],[4]⟩]) (F:=[.p 0 0]) (hst.pick [] rfl) hb Za
     (Qa rfl c_i<|o_n) (fun a g hst hb=>?_)
    refine wp_ret ?_
    refine Zbc ?_
    obtain rfl:=Option.some.inj H0
    exact Z8 rfl hst hb (Zw (s:=4)) (hst.at 0 rfl)
   ·replace H0:=Zbe hc8 H0
    refine wp_skip ?_
    refine Zr ?_
    refine wp_seq ?_
    refine r_s (L:=[(0,_),(1,_)]) (T:=[⟨[.o 0],_,[],[],[17]⟩,⟨[.o 1],_,[],[],[18]⟩,⟨[.p 0 0,.p 1 0],_,[],[0,1],[19]⟩]) (F:=[.p 2 0]) (hst.pick [0,1] rfl) hb Za
     (Qm rfl u_0<|Qm rfl u_0<|o_p rfl (Zj2 rfl rfl u_0 u_1)<|o_n) (fun a g hst hb=>?_)
    refine wp_cond_split (hst.bool 0 rfl) (fun hc9=>?_) (fun hc9=>?_)
    ·replace H0:=Zbf hc9 H0
     refine r_s (L:=[]) (T:=[⟨[],_,[],[],[4]⟩]) (F:=[.p 0 0]) (hst.pick [] rfl) hb Za
      (Qa rfl c_i<|o_n) (fun a g hst hb=>?_)
     refine wp_ret ?_
     refine Zbc ?_
     obtain rfl:=Option.some.inj H0
     exact Z8 rfl hst hb (Zw (s:=4)) (hst.at 0 rfl)
    ·replace H0:=Zbe hc9 H0
     refine wp_skip ?_
     refine Zr ?_
     refine r_s (L:=[]) (T:=[⟨[],_,[],[],[4]⟩]) (F:=[.p 0 0]) (hst.pick [] rfl) hb Za
      (Qa rfl c_i<|o_n) (fun a g hst hb=>?_)
     refine wp_ret ?_
     obtain rfl:=Option.some.inj H0
     exact Z8 rfl hst hb (Zw (s:=4)) (hst.at 0 rfl)
theorem Zdj (a0:ByteArray) {r:Bool} (h:Zcf a0=some r):FnOk Tryd.prog 36 [(pStr a0)] (Zo r):=by
 have H0:=h
 unfold Zcf at H0
 clear h
 refine Zcx (N:=6) Tryd.func36 rfl rfl (Qe rfl) rfl rfl (fun a g0 hst hb=>?_)
 refine r_s (T:=[⟨[],_,[],[],[2]⟩]) (F:=[.o 0]) hst hb Za
  (Qa rfl c_b<|o_n) (fun a g hst hb=>?_)
 refine r_s (T:=[⟨[.o 0],_,[],[],[3]⟩,⟨[.o 0],_,[],[],[4]⟩,⟨[.p 0 0,.p 1 0],_,[],[0,1],[5]⟩,⟨[.p 2 0],_,[],[0,1,2],[2]⟩]) (F:=[.p 3 0]) hst hb Za
  (Qm rfl u_0<|Qm rfl u_0<|o_p rfl (Zoo rfl rfl u_0 u_1)<|Qa rfl u_0<|o_n) (fun a g hst hb=>?_)
 refine wp_ret ?_
 obtain rfl:=Option.some.inj H0
 exact Z8 rfl hst hb (Zw (s:=2)) (hst.at 0 rfl)
theorem Zew (a0:ByteArray) (a1:ByteArray) {r:Int} (h:Zb0 a0 a1=some r):FnOk Tryd.prog 28 [(pStr a0),(pStr a1)] (pInt .i64 r):=by
 have H0:=h
 unfold Zb0 at H0
 clear h
 refine Zcx (N:=20) Tryd.func28 rfl rfl (Qe rfl) rfl rfl (fun a g0 hst hb=>?_)
 refine r_s (T:=[⟨[],_,[],[],[4]⟩]) (F:=[.o 0,.o 1]) hst hb Za
  (Qa rfl c_i<|o_n) (fun a g hst hb=>?_)
 obtain ⟨r1,h2,H0⟩:=Zn H0
 refine r_s (T:=[⟨[.o 0],_,[],[],[7]⟩,⟨[.p 0 0],_,[],[0],[8]⟩,⟨[.p 1 0],_,[],[0,1],[5]⟩]) (F:=[.o 0,.o 1,.p 2 0]) hst hb Za
  (Qm rfl u_0<|o_p rfl (Zb6 Znj (Zdj _ h2) rfl rfl (.cons u_0 .nil))<|Qa rfl u_0<|o_n) (fun a g hst hb=>?_)
 obtain ⟨r3,h4,H0⟩:=Zn H0
 refine r_s (T:=[⟨[.o 1],_,[],[],[9]⟩,⟨[.p 0 0],_,[],[0],[10]⟩,⟨[.p 1 0],_,[],[0,1],[6]⟩]) (F:=[.o 0,.o 1,.o 2,.p 2 0]) hst hb Za
  (Qm rfl u_0<|o_p rfl (Zb6 Znj (Zdj _ h4) rfl rfl (.cons u_0 .nil))<|Qa rfl u_0<|o_n) (fun a g hst hb=>?_)
 refine wp_seq ?_
 refine r_s (T:=[⟨[.o 2],_,[],[],[11]⟩]) (F:=[.o 0,.o 1,.o 3,.p 0 0]) hst hb Za
  (Qm rfl u_0<|o_n) (fun a g hst hb=>?_)
 refine wp_cond_split (hst.bool 3 rfl) (fun hc5=>?_) (fun hc5=>?_)
 ·replace H0:=Zbf hc5 H0
  refine wp_seq ?_
  refine r_s (L:=[(6,_)]) (T:=[⟨[.o 0],_,[],[],[12]⟩]) (F:=[.p 0 0]) (hst.pick [2] rfl) hb Za
   (Qm rfl u_0<|o_n) (fun a g hst hb=>?_)
  refine wp_cond_split (hst.bool 0 rfl) (fun hc6=>?_) (fun hc6=>?_)
  ·replace H0:=Zbf hc6 H0
   refine r_s (L:=[]) (T:=[⟨[],_,[],[],[4]⟩]) (F:=[.p 0 0]) (hst.pick [] rfl) hb Za
    (Qa rfl c_i<|o_n) (fun a g hst hb=>?_)
   refine wp_ret ?_
   refine Zbc ?_
   refine Zbc ?_
   obtain rfl:=Option.some.inj H0
   exact Z8 rfl hst hb (Zw (s:=4)) (hst.at 0 rfl)
  ·replace H0:=Zbe hc6 H0
   refine wp_skip ?_
   refine Zr ?_
   refine r_s (L:=[]) (T:=[⟨[],_,[],[],[4]⟩]) (F:=[.p 0 0]) (hst.pick [] rfl) hb Za
    (Qa rfl c_i<|o_n) (fun a g hst hb=>?_)
   refine wp_ret ?_
   refine Zbc ?_
   obtain rfl:=Option.some.inj H0
   exact Z8 rfl hst hb (Zw (s:=4)) (hst.at 0 rfl)
 ·replace H0:=Zbe hc5 H0
  refine wp_skip ?_
  refine Zr ?_
  refine wp_seq ?_
  refine r_s (L:=[(0,_),(1,_),(6,_)]) (T:=[⟨[.o 2],_,[],[],[13]⟩]) (F:=[.o 0,.o 1,.p 0 0]) (hst.pick [0,1,2] rfl) hb Za
   (Qm rfl u_0<|o_n) (fun a g hst hb=>?_)
  refine wp_cond_split (hst.bool 2 rfl) (fun hc7=>?_) (fun hc7=>?_)
  ·replace H0:=Zbf hc7 H0
   refine r_s (L:=[]) (T:=[⟨[],_,[],[],[4]⟩]) (F:=[.p 0 0]) (hst.pick [] rfl) hb Za
    (Qa rfl c_i<|o_n) (fun a g hst hb=>?_)
   refine wp_ret ?_
   refine Zbc ?_
   obtain rfl:=Option.some.inj H0
   exact Z8 rfl hst hb (Zw (s:=4)) (hst.at 0 rfl)
  ·replace H0:=Zbe hc7 H0
   refine wp_skip ?_
   refine Zr ?_
   refine wp_seq ?_
   refine r_s (L:=[(0,_),(1,_)]) (T:=[⟨[.o 0],_,[],[],[14]⟩,⟨[.o 1],_,[],[],[15]⟩,⟨[.p 0 0,.p 1 0],_,[],[0,1],[16]⟩]) (F:=[.o 0,.o 1,.p 2 0]) (hst.pick [0,1] rfl) hb Za
    (Qm rfl u_0<|Qm rfl u_0<|o_p rfl (Zom rfl rfl u_0 u_1)<|o_n) (fun a g hst hb=>?_)
   refine wp_cond_split (hst.bool 2 rfl) (fun hc8=>?_) (fun hc8=>?_)
   ·replace H0:=Zbf hc8 H0
    refine r_s (L:=[]) (T:=[⟨[],_,[],[],[4]⟩]) (F:=[.p 0 0]) (hst.pick [] rfl) hb Za
     (Qa rfl c_i<|o_n) (fun a g hst hb=>?_)
    refine wp_ret ?_
    refine Zbc ?_
    obtain rfl:=Option.some.inj H0
    exact Z8 rfl hst hb (Zw (s:=4)) (hst.at 0 rfl)
   ·replace H0:=Zbe hc8 H0
    refine wp_skip ?_
    refine Zr ?_
    refine wp_seq ?_
    refine r_s (L:=[(0,_),(1,_)]) (T:=[⟨[.o 0],_,[],[],[17]⟩,⟨[.o 1],_,[],[],[18]⟩,⟨[.p 0 0,.p 1 0],_,[],[0,1],[19]⟩]) (F:=[.p 2 0]) (hst.pick [0,1] rfl) hb Za
     (Qm rfl u_0<|Qm rfl u_0<|o_p rfl (Zop rfl rfl u_0 u_1)<|o_n) (fun a g hst hb=>?_)
    refine wp_cond_split (hst.bool 0 rfl) (fun hc9=>?_) (fun hc9=>?_)
    ·replace H0:=Zbf hc9 H0
     refine r_s (L:=[]) (T:=[⟨[],_,[],[],[4]⟩]) (F:=[.p 0 0]) (hst.pick [] rfl) hb Za
      (Qa rfl c_i<|o_n) (fun a g hst hb=>?_)
     refine wp_ret ?_
     refine Zbc ?_
     obtain rfl:=Option.some.inj H0
     exact Z8 rfl hst hb (Zw (s:=4)) (hst.at 0 rfl)
    ·replace H0:=Zbe hc9 H0
     refine wp_skip ?_
     refine Zr ?_
     refine r_s (L:=[]) (T:=[⟨[],_,[],[],[4]⟩]) (F:=[.p 0 0]) (hst.pick [] rfl) hb Za
      (Qa rfl c_i<|o_n) (fun a g hst hb=>?_)
     refine wp_ret ?_
     obtain rfl:=Option.some.inj H0
     exact Z8 rfl hst hb (Zw (s:=4)) (hst.at 0 rfl)
theorem Zfs (a0:Zb) (a1:Zb) {r:Int} (h:Zh a0 a1=some r):FnOk Tryd.prog 25 [(Zj.pd a0),(Zj.pd a1)] (pInt .i64 r):=by
 have H0:=h
 unfold Zh at H0
 clear h
 refine Zcx (N:=17) Tryd.func25 rfl rfl (Qe rfl) rfl rfl (fun a g0 hst hb=>?_)
 refine r_s (T:=[⟨[.o 0],_,[],[],[2]⟩,⟨[.o 1],_,[],[],[3]⟩,⟨[],_,[],[],[4]⟩]) (F:=[.p 0 0,.p 1 0]) hst hb Za
  (Qb rfl u_0<|Qb rfl u_0<|Qa rfl c_i<|o_n) (fun a g hst hb=>?_)
 obtain ⟨r1,h2,H0⟩:=Zn H0;obtain ⟨r3,h4,H0⟩:=Zn H0;obtain ⟨r5,h6,H0⟩:=Zn H0
 refine r_s (T:=⟨[.o 1],_,[],[],[5]⟩ :: ⟨[.p 0 0],_,[],[0],[6]⟩ :: ⟨[.o 0],_,[],[],[7]⟩ :: ⟨[.p 2 0],_,[],[2],[8]⟩ :: ⟨[.p 1 0,.p 3 0],_,[],Lr 4,[9]⟩ :: ⟨[.o 0],_,[],[],[10]⟩ :: ⟨[.p 5 0],_,[],[5],[11]⟩ :: ⟨[.o 1],_,[],[],[12]⟩ :: ⟨[.p 7 0],_,[],[7],[13]⟩ :: ⟨[.p 6 0,.p 8 0],_,[],Lr 9,[14]⟩ :: ⟨[.p 4 0,.p 9 0],_,[],Lr 10,[15]⟩ :: ⟨[.p 10 0],_,[],Lr 11,[16]⟩ :: ⟨[.p 11 0],_,[],Lr 12,[4]⟩ :: []) (F:=[.p 12 0]) hst hb Za
  (Qf rfl Zj1 u_0<|Ql rfl ty_3 u_0<|Qf rfl Zj1 u_0<|Ql rfl ty_3 u_0<|o_p rfl (Zb6 Zpj (Zfr _ _ h2) rfl rfl (.cons u_0 (.cons u_1 .nil)))<|Qf rfl Zg3 u_0<|Ql rfl ty_9 u_0<|Qf rfl Zg3 u_0<|Ql rfl ty_9 u_0<|o_p rfl (Zb6 Zpo (Zew _ _ h4) rfl rfl (.cons u_0 (.cons u_1 .nil)))<|o_p rfl (Zc4 Zpb (xs:=[.tmp 9,.tmp 14]) (.cons u_0 (.cons u_1 .nil)) (by decide) rfl rfl)<|o_p rfl (Zb6 Zo9 (Zhx _ h6) rfl rfl (.cons u_0 .nil))<|Qa rfl u_0<|o_n) (fun a g hst hb=>?_)
 refine wp_ret ?_
 obtain rfl:=Option.some.inj H0
 exact Z8 rfl hst hb (Zw (s:=4)) (hst.at 0 rfl)
end Go.CL
-- the kit's shelf laid at this program's slices.SortFunc and maps.Clone;written by a tool
namespace Go.CL
open Go Go.RowKit Go.Proofs Go.Shelf
def Zij:Go.Shelf.Ren:=⟨fun | 6=>24 | 15=>34 | 14=>33 | 28=>46 | 29=>47 | 20=>38 | 21=>39 | 22=>40 | 23=>41 | 24=>42 | 25=>43 | 26=>44 | 27=>45 | 46=>49 | 47=>50 | 48=>51 | 49=>52 | 50=>53 | 57=>54 | n=>n,fun | 22=>41 | 24=>58 | 25=>70 | 3=>3 | 39=>80 | 0=>0 | 53=>94 | 55=>96 | 4=>4 | 46=>87 | 45=>86 | 50=>91 | 5=>5 | 9=>9 | 66=>98 | 70=>102 | 76=>106 | 77=>107 | n=>n,fun | n=>n⟩
theorem Zmf:Go.Proofs.SlLaysF0.n6 Tryd.prog Zij where
 mixed:=by kernel_rfl
 f6:=⟨Tryd.f24.name,by decide,Tryd.func24.trans (congrArg some (by kernel_rfl))⟩
 f14:=⟨Tryd.f33.name,by decide,Tryd.func33.trans (congrArg some (by kernel_rfl))⟩
 f15:=Tryd.func34.trans (congrArg some (by kernel_rfl))
 f20:=⟨Tryd.f38.name,by decide,Tryd.func38.trans (congrArg some (by kernel_rfl))⟩
 f21:=⟨Tryd.f39.name,by decide,Tryd.func39.trans (congrArg some (by kernel_rfl))⟩
 f22:=⟨Tryd.f40.name,by decide,Tryd.func40.trans (congrArg some (by kernel_rfl))⟩
 f23:=⟨Tryd.f41.name,by decide,Tryd.func41.trans (congrArg some (by kernel_rfl))⟩
 f24:=⟨Tryd.f42.name,by decide,Tryd.func42.trans (congrArg some (by kernel_rfl))⟩
 f25:=⟨Tryd.f43.name,by decide,Tryd.func43.trans (congrArg some (by kernel_rfl))⟩
 f26:=⟨Tryd.f44.name,by decide,Tryd.func44.trans (congrArg some (by kernel_rfl))⟩
 f27:=⟨Tryd.f45.name,by decide,Tryd.func45.trans (congrArg some (by kernel_rfl))⟩
 f28:=Tryd.func46.trans (congrArg some (by kernel_rfl))
 f29:=Tryd.func47.trans (congrArg some (by kernel_rfl))
 f46:=⟨Tryd.f49.name,by decide,Tryd.func49.trans (congrArg some (by kernel_rfl))⟩
 f47:=Tryd.func50.trans (congrArg some (by kernel_rfl))
 f48:=Tryd.func51.trans (congrArg some (by kernel_rfl))
 f49:=⟨Tryd.f52.name,by decide,Tryd.func52.trans (congrArg some (by kernel_rfl))⟩
 f50:=⟨Tryd.f53.name,by decide,Tryd.func53.trans (congrArg some (by kernel_rfl))⟩
 f57:=⟨Tryd.f54.name,by decide,Tryd.func54.trans (congrArg some (by kernel_rfl))⟩
 t0:=Tryd.underlying0
 a0:=Tryd.isAgg0
 z0:=Tryd.sizeOf0
 v0:=Tryd.zeroValue0
 t3:=Tryd.underlying3
 a3:=Tryd.isAgg3
 z3:=Tryd.sizeOf3
 v3:=Tryd.zeroValue3
 t4:=Tryd.underlying4
 a4:=Tryd.isAgg4
 z4:=Tryd.sizeOf4
 v4:=Tryd.zeroValue4
 t5:=Tryd.underlying5
 a5:=Tryd.isAgg5
 z5:=Tryd.sizeOf5
 v5:=Tryd.zeroValue5
 t9:=Tryd.underlying9
 a9:=Tryd.isAgg9
 z9:=Tryd.sizeOf9
 v9:=Tryd.zeroValue9
 t22:=Tryd.underlying41
 a22:=Tryd.isAgg41
 z22:=Tryd.sizeOf41
 v22:=Tryd.zeroValue41
 t25:=Tryd.underlying70
 a25:=Tryd.isAgg70
 z25:=Tryd.sizeOf70
 v25:=Tryd.zeroValue70
 t39:=Tryd.underlying80
 a39:=Tryd.isAgg80
 z39:=Tryd.sizeOf80
 v39:=Tryd.zeroValue80
 t45:=Tryd.underlying86
 a45:=Tryd.isAgg86
 z45:=Tryd.sizeOf86
 v45:=Tryd.zeroValue86
 t46:=Tryd.underlying87
 a46:=Tryd.isAgg87
 z46:=Tryd.sizeOf87
 v46:=Tryd.zeroValue87
 t50:=Tryd.underlying91
 a50:=Tryd.isAgg91
 z50:=Tryd.sizeOf91
 v50:=Tryd.zeroValue91
 t53:=Tryd.underlying94
 a53:=Tryd.isAgg94
 z53:=Tryd.sizeOf94
 v53:=Tryd.zeroValue94
 t55:=Tryd.underlying96
 a55:=Tryd.isAgg96
 z55:=Tryd.sizeOf96
 v55:=Tryd.zeroValue96
 t66:=Tryd.underlying98
 a66:=Tryd.isAgg98
 z66:=Tryd.sizeOf98
 v66:=Tryd.zeroValue98
 t70:=Tryd.underlying102
 a70:=Tryd.isAgg102
 z70:=Tryd.sizeOf102
 v70:=Tryd.zeroValue102
 t76:=Tryd.underlying106
 a76:=Tryd.isAgg106
 z76:=Tryd.sizeOf106
 v76:=Tryd.zeroValue106
 t77:=Tryd.underlying107
 a77:=Tryd.isAgg107
 z77:=Tryd.sizeOf107
 v77:=Tryd.zeroValue107
def Zhz:Go.Shelf.Ren:=⟨fun | 5=>23 | 7=>32 | n=>n,fun | 23=>25 | 25=>9 | 3=>3 | 4=>4 | 20=>20 | n=>n,fun | n=>n⟩
theorem Zll:Go.Proofs.SlLaysW.n5 Tryd.prog Zhz where
 mixed:=by kernel_rfl
 f5:=⟨Tryd.f23.name,by decide,Tryd.func23.trans (congrArg some (by kernel_rfl))⟩
 f7:=Tryd.func32.trans (congrArg some (by kernel_rfl))
 t4:=Tryd.underlying4
 a4:=Tryd.isAgg4
 z4:=Tryd.sizeOf4
 v4:=Tryd.zeroValue4
 t20:=Tryd.underlying20
 a20:=Tryd.isAgg20
 z20:=Tryd.sizeOf20
 v20:=Tryd.zeroValue20
 t23:=Tryd.underlying25
 a23:=Tryd.isAgg25
 z23:=Tryd.sizeOf25
 v23:=Tryd.zeroValue25
end Go.CL
namespace Go.CL
open Go
theorem wr {x:Int} (h1:-9223372036854775808 ≤ x) (h2:x ≤ 9223372036854775807):IntKind.i64.wrap x=x:=by
 rw [IntKind.wrap_i64];omega
theorem wr1 {i:Nat} (h:i < 9223372036854775807):IntKind.i64.wrap ((i:Int) + 1)=((i + 1:Nat):Int):=by
 rw [wr (by omega) (by omega)];omega
theorem idxn {α:Type} (xs:List α) (i:Nat):idx xs (i:Int)=xs[i]?:=by
 unfold idx
 rw [if_pos (by omega)]
 simp
theorem Zgu {α:Type} {xs:List α} {i:Nat} (h:i < xs.length):idx xs (i:Int)=some xs[i]:=by
 rw [idxn,List.getElem?_eq_getElem h]
theorem gd_t {β:Type} [Inhabited β] (x:Option β):gd true x=x:=rfl
theorem Zgx {a b:ByteArray} (h:a.toList=b.toList):a=b:=by
 rw [_root_.Go.ByteArray.toList_eq,_root_.Go.ByteArray.toList_eq] at h
 exact ByteArray.ext (Array.toList_inj.1 h)
theorem Ze0 {a b:ByteArray}:sEq a b=true ↔ a=b:=by
 unfold sEq
 constructor
 ·intro h;exact Zgx (by simpa using h)
 ·rintro rfl;simp
theorem Zid (a:ByteArray):sEq a a=true:=Ze0.2 rfl
theorem Zow {a b:ByteArray}:sEq a b=false ↔ a ≠ b:=by
 cases h:sEq a b
 ·simp;intro e;rw [Ze0.2 e] at h;cases h
 ·simp;exact Ze0.1 h
theorem Zlu:∀ l:List UInt8,Op.bytesLess l l=false
 | []=>rfl
 | x :: l=>by simp [Op.bytesLess,Zlu l]
theorem Zih:∀ {a b c:List UInt8},Op.bytesLess a b=true → Op.bytesLess b c=true → Op.bytesLess a c=true
 | [],[],c,h,_=>by simp [Op.bytesLess] at h
 | [],y :: b,[],_,k=>by simp [Op.bytesLess] at k
 | [],y :: b,z :: c,_,_=>rfl
 | x :: a,[],c,h,_=>by simp [Op.bytesLess] at h
 | x :: a,y :: b,[],_,k=>by simp [Op.bytesLess] at k
 | x :: a,y :: b,z :: c,h,k=>by
  simp only [Op.bytesLess,Bool.or_eq_true,Bool.and_eq_true,decide_eq_true_eq,beq_iff_eq] at h k ⊢
  rcases h with h | ⟨h1,h2⟩ <;> rcases k with k | ⟨k1,k2⟩
  ·exact .inl (UInt8.lt_trans h k)
  ·subst k1;exact .inl h
  ·subst h1;exact .inl k
  ·subst h1;subst k1;exact .inr ⟨rfl,Zih h2 k2⟩
theorem Zlc:∀ (a b:List UInt8),Op.bytesLess a b=false → a ≠ b → Op.bytesLess b a=true
 | [],[],_,h=>absurd rfl h
 | [],y :: b,h,_=>by simp [Op.bytesLess] at h
 | x :: a,[],_,_=>rfl
 | x :: a,y :: b,h,hn=>by
  simp only [Op.bytesLess,Bool.or_eq_false_iff,decide_eq_false_iff_not,Bool.and_eq_false_iff] at h
  simp only [Op.bytesLess,Bool.or_eq_true,Bool.and_eq_true,decide_eq_true_eq,beq_iff_eq]
  by_cases e:x=y
  ·subst e
   right
   refine ⟨rfl,Zlc a b ?_ (fun h'=>hn (by rw [h']))⟩
   rcases h.2 with h | h
   ·simp at h
   ·exact h
  ·left
   rcases UInt8.lt_or_lt_of_ne e with h' | h'
   ·exact absurd h' h.1
   ·exact h'
theorem Zjv (a:ByteArray):sLt a a=false:=Zlu _
theorem Zlo {a b c:ByteArray} (h:sLt a b=true) (k:sLt b c=true):sLt a c=true:=Zih h k
theorem Zjo {a b:ByteArray} (h:sLt a b=false) (hn:a ≠ b):sLt b a=true:=Zlc _ _ h (fun e=>hn (Zgx e))
def cmpI (a b:Int):Int:=if a < b then -1 else if b < a then 1 else 0
def cmpS (a b:ByteArray):Int:=if sLt a b then -1 else if sLt b a then 1 else 0
theorem Zkq (a b:Int):Zcj a b=some (cmpI a b):=by
 unfold Zcj Zcv cmpI
 simp only [Option.bind_some,bne_self_eq_false,Bool.false_eq_true,if_false]
 by_cases h:a < b
 ·simp [h]
 ·by_cases h2:b < a <;> simp [h,h2]
theorem Zko (a b:ByteArray):Zb0 a b=some (cmpS a b):=by
 unfold Zb0 Zcf cmpS
 simp only [Option.bind_some,Zid,Bool.not_true,Bool.false_eq_true,if_false]
 by_cases h:sLt a b=true
 ·simp [h]
 ·simp only [h,Bool.false_or,if_false]
  by_cases e:a=b
  ·subst e;simp [Zid,Zjv]
  ·have h1:=Zjo (by simpa using h) e
   simp [Zow.2 e,h1]
theorem Zlr (a b:Int):Zdd [a,b]=some (if a ≠ 0 then a else b):=by
 have e1:(0:Int) + 1=1:=rfl
 unfold Zdd
 have hn:Int.toNat ((([a,b]:List Int).length:Int) - 0) + 1=3:=rfl
 rw [hn]
 by_cases ha:a=0
 ·subst ha
  by_cases hb:b=0
  ·subst hb;decide
  ·have hw:IntKind.i64.wrap 1=1:=by decide
   have i0:idx [(0:Int),b] 0=some 0:=rfl
   have i1:idx [(0:Int),b] 1=some b:=rfl
   simp [Zb7,i0,i1,hw,hb]
 ·have i0:idx [a,b] 0=some a:=rfl
  simp [Zb7,i0,ha]
def cmpM (x y:Zb):Int:=if cmpI y.Score x.Score ≠ 0 then cmpI y.Score x.Score else cmpS x.Key y.Key
theorem Zf8 (x y:Zb):Zh x y=some (cmpM x y):=by
 unfold Zh
 rw [Zkq,Option.bind_some,Zko,Option.bind_some,Zlr,Option.bind_some]
 rfl
theorem Zhy (x y:Zb):∃ r,Zh x y=some r:=⟨_,Zf8 x y⟩
def Hot (x y:Zb):Prop:=y.Score < x.Score ∨ (x.Score=y.Score ∧ sLt x.Key y.Key=true)
theorem Zf4 (x y:Zb):decide ((Zh x y).getD 0 < 0)=true ↔ Hot x y:=by
 rw [Zf8,Option.getD_some,decide_eq_true_iff]
 unfold cmpM cmpI cmpS Hot
 by_cases h1:y.Score < x.Score
 ·simp [h1]
 ·by_cases h2:x.Score < y.Score
  ·simp [h1,h2];omega
  ·have e:x.Score=y.Score:=by omega
   rw [if_neg h1,if_neg h2]
   simp only [ne_eq,not_true_eq_false,if_false,e,Int.lt_irrefl,false_or,true_and]
   by_cases h3:sLt x.Key y.Key=true
   ·simp [h3]
   ·simp only [h3,if_false]
    by_cases h4:sLt y.Key x.Key=true <;> simp [h4]
theorem Zdf (x y:Zb):decide ((Zh x y).getD 0 < 0)=false ↔ ¬ Hot x y:=by
 rw [← Zf4];simp
theorem Hot.irr (x:Zb):¬ Hot x x:=by
 rintro (h | ⟨_,h⟩)
 ·omega
 ·rw [Zjv] at h;cases h
theorem Hot.trans {x y z:Zb} (h:Hot x y) (k:Hot y z):Hot x z:=by
 rcases h with h | ⟨h1,h2⟩ <;> rcases k with k | ⟨k1,k2⟩
 ·left;omega
 ·left;omega
 ·left;omega
 ·exact .inr ⟨h1.trans k1,Zlo h2 k2⟩
theorem Hot.tot {x y:Zb} (h:¬ Hot x y) (k:¬ Hot y x):x=y:=by
 have e:x.Score=y.Score:=by
  have h1:¬ y.Score < x.Score:=fun e=>h (.inl e)
  have h2:¬ x.Score < y.Score:=fun e=>k (.inl e)
  omega
 have e2:x.Key=y.Key:=Classical.byContradiction fun hn=>by
  by_cases h3:sLt x.Key y.Key=true
  ·exact h (.inr ⟨e,h3⟩)
  ·exact k (.inr ⟨e.symm,Zjo (by simpa using h3) hn⟩)
 cases x;cases y;simp at e e2;rw [e,e2]
theorem Hot.ntr {x y z:Zb} (h:¬ Hot x y) (k:¬ Hot y z):¬ Hot x z:=fun hz=>by
 by_cases h1:Hot y x
 ·exact k (h1.trans hz)
 ·have:=Hot.tot h h1
  subst this;exact k hz
theorem Znk (x:Zb):decide ((Zh x x).getD 0 < 0)=false:=(Zdf _ _).2 (Hot.irr x)
theorem Zkw {x y z:Zb} (h:decide ((Zh x y).getD 0 < 0)=true) (k:decide ((Zh y z).getD 0 < 0)=true):decide ((Zh x z).getD 0 < 0)=true:=(Zf4 _ _).2 (((Zf4 _ _).1 h).trans ((Zf4 _ _).1 k))
theorem Zjw {x y z:Zb} (h:decide ((Zh x y).getD 0 < 0)=false) (k:decide ((Zh y z).getD 0 < 0)=false):decide ((Zh x z).getD 0 < 0)=false:=(Zdf _ _).2 (Hot.ntr ((Zdf _ _).1 h) ((Zdf _ _).1 k))
theorem Znp {x y:Zb} (h:decide ((Zh x y).getD 0 < 0)=false) (k:decide ((Zh y x).getD 0 < 0)=false):x=y:=Hot.tot ((Zdf _ _).1 h) ((Zdf _ _).1 k)
theorem Zbp (l:List Zb):(Zq l).Perm l:=List.mergeSort_perm ..
theorem Zds (l:List Zb):(Zq l).Pairwise (fun x y=>¬ Hot y x):=by
 have h:=List.pairwise_mergeSort (le:=fun x y:Zb=>!decide ((Zh y x).getD 0 < 0)) (fun a b c h k=>by
  simp only [Bool.not_eq_true'] at h k ⊢
  exact Zjw k h) (fun a b=>by
  simp only [Bool.or_eq_true,Bool.not_eq_true']
  by_cases hb:Hot b a
  ·right;rw [Zdf];exact fun k=>Hot.irr a (k.trans hb)
  ·left;exact (Zdf _ _).2 hb) l
 refine List.Pairwise.imp (fun {a b} hab=>?_) h
 simp only [Bool.not_eq_true'] at hab
 exact (Zdf _ _).1 hab
theorem Zfi:∀ {l m:List Zb},l.Perm m → l.Pairwise (fun x y=>¬ Hot y x) → m.Pairwise (fun x y=>¬ Hot y x) → l=m:=fun {l m} hp hl hm =>
 hp.eq_of_pairwise (fun a b _ _ h1 h2=>Hot.tot h2 h1) hl hm
theorem Zha {l m:List Zb} (hp:l.Perm m):Zq l=Zq m :=
 Zfi ((Zbp l).trans (hp.trans (Zbp m).symm)) (Zds l) (Zds m)
end Go.CL
namespace Go.CL
open Go Go.RowKit Go.Proofs
theorem Zfg:Enc Zj (fun x=>[.string x.Key,.int .i64 x.Score]):=⟨fun g x cs=>⟨Znh g x cs,fun h=>by subst h;exact ⟨rfl,Qc.2 ⟨rfl,Qc.2 ⟨rfl,fun _ h=>by cases h⟩⟩⟩⟩,fun _=>rfl,fun x v hv=>by
 rcases List.mem_cons.1 hv with rfl | hv
 ·rfl
 ·rw [List.mem_singleton.1 hv];rfl⟩
theorem Zoh (x y:Zb):FnOk Tryd.prog 25 [Zj.pd x,Zj.pd y] (pInt .i64 ((Zh x y).getD 0)):=by
 obtain ⟨r,h⟩:=Zhy x y
 rw [h]
 exact Zfs x y h
theorem Zmo:Go.Sort.SWO (ltOf fun x y:Zb=>(Zh x y).getD 0):=⟨Znk,fun x y z=>Zkw,fun x y z=>Zjw⟩
theorem Zmt:∀ x y:Zb,ltOf (fun x y:Zb=>(Zh x y).getD 0) x y=false → ltOf (fun x y:Zb=>(Zh x y).getD 0) y x=false → x=y:=fun x y=>Znp
theorem Zee (a0:Zs) {r:List Zb} (h:Zv a0=some r):FnL Tryd.prog 16 [(Zu.ptr a0)] (Zj.sl.pd r):=by
 unfold Zv at h
 obtain ⟨hsz,h⟩:=Zek h
 obtain rfl:=Option.some.inj h
 refine Zn2 (e:=58) (N:=25) Zfg Tryd.func16 rfl rfl (Qe rfl) rfl (fun a g0 h0 hst hb=>?_)
 replace hst:St 25 [(0,(Zu.ptr a0))] a g0:=hst
 refine r_s (T:=[⟨[],[(2,(pArr Zj 58 2 ([]:List Zb)))],[],[],[2]⟩]) (F:=[.o 0]) hst hb Za
  (o_p rfl (Zer rfl rfl (Opd.c (fun g=>Zis)))<|o_n) (fun a g hst hb=>?_)
 refine r_s (T:=[⟨[],[(3,(pArr Zj 58 3 ([]:List Zb)))],[],[],[3]⟩]) (F:=[.o 0,.p 0 0]) hst hb Za
  (o_p rfl (Zer rfl rfl (Opd.c (fun g=>Zis)))<|o_n) (fun a g hst hb=>?_)
 refine wp_seq ?_
 refine Zc2 (fun a w=>∃ (g:G) (xs:List Zb),w=g.w ∧ St 25 [(3,(pArr Zj 58 3 xs))] a g ∧ Base g0 g ∧ xs.Perm (a0.by_.map Zi)) ?_ ?_
 ·rintro a w ⟨g,xs,rfl,hst,hb,hp⟩
  refine Zr ?_
  have hxl:xs.length=a0.by_.length:=by rw [hp.length_eq,List.length_map]
  have h1:xs.length < 4611686018427387904:=by omega
  refine r_s (T:=[⟨[.o 0],_,[],[],[22]⟩,⟨[.p 0 0,.o 0],[(23,pAny),(3,(pArr Zj 58 3 (Zq xs)))],[4],[0],[3,22,23]⟩]) (F:=[.p 1 1]) hst hb Za
   (Qm rfl u_0<|o_p rfl (Zn4 (cf:=fun x y=>(Zh x y).getD 0) Zmf rfl Tryd.isAgg58 Tryd.sizeOf58 rfl Zfg Zoh Zpd Zpk Zmo Zmt rfl rfl (by decide) u_1 u_0 (by decide) h1)<|o_n) (fun a g hst hb=>?_)
  refine r_s (T:=[⟨[.o 0],_,[],[],[24]⟩,⟨[.p 0 0],_,[],[0],[2]⟩]) (F:=[.p 1 0]) hst hb Za
   (Qm rfl u_0<|Qa rfl u_0<|o_n) (fun a g hst hb=>?_)
  refine wp_ret ?_
  have hq:=hst.at 0 rfl
  rw [Zha hp] at hq
  exact Zo0 rfl hst hb (Zw (s:=2)) hq
 ·skip
  refine r_s (T:=[⟨[.o 0],_,[],[],[6]⟩,⟨[.p 0 0],_,[],[0],[7]⟩,⟨[.p 1 0],_,[],[0,1],[8]⟩,⟨[.p 2 0],_,[],[0,1,2],[9]⟩,⟨[.p 3 0],[(10,(Zfc 10 a0.by_))],[11],Lr 4,[10]⟩]) (F:=[.o 1,.p 4 0]) hst hb Za
   (Qm rfl u_0<|o_p rfl (Zcw rfl rfl u_0 (fun _ _ ⟨_,_,_,e,_⟩=>⟨_,e⟩))<|Qf rfl Zez u_0<|Ql rfl Zf3 u_0<|o_p rfl (Ziy Tryd.underlying25 rfl rfl u_0)<|o_n) (fun a g hst hb=>?_)
  refine wp_block ?_
  refine wp_loop_ghost (fun n a w=>∃ (left came:List (ByteArray × Int)) (g:G),w=g.w ∧ St 25 [(3,(pArr Zj 58 3 (came.map Zi))),(10,(Zfc 10 left))] a g ∧ Base g0 g ∧ a0.by_.Perm (came ++ left) ∧ n=left.length) a0.by_.length ⟨a0.by_,[],g,rfl,hst.pick [0,1] rfl,hb,.refl _,rfl⟩ (fun n a w hI=>?_)
  obtain ⟨left,came,g,rfl,hst,hb,hp,rfl⟩:=hI
  refine r_s (T:=[⟨[.o 1],[(11,(Zfk 10 left)),(10,(pItP 10))],[11],[],[10,11]⟩,⟨[.p 0 0],_,[],[0],[12]⟩]) (F:=[.o 0,.p 0 1,.p 1 0]) hst hb Za
   (o_p rfl (Zjh (by decide) rfl rfl u_0)<|o_p rfl (Zin rfl rfl u_0)<|o_n) (fun a g hst hb=>?_)
  refine wp_seq ?_
  rcases Zgv (i1:=2) (i2:=1) rfl rfl hst with ⟨hl,hst⟩ | ⟨kn,left',hl,hst⟩
  ·skip
   replace hst:St 25 [(3,(pArr Zj 58 3 (came.map Zi))),(10,(pItP 10)),(12,(Zo false))] a g:=hst
   refine wp_cond_split (hst.bool 2 rfl) (fun hc=>by cases hc) (fun _=>?_)
   refine wp_exit ?_
   refine Zbm ?_
   refine Zbm ?_
   refine Zcb ?_
   subst hl
   rw [List.append_nil] at hp
   exact ⟨g,_,rfl,hst.pick [0] rfl,hb,(hp.map Zi).symm⟩
  ·skip
   replace hst:St 25 [(3,(pArr Zj 58 3 (came.map Zi))),(10,(Zci 10 kn left')),(12,(Zo true))] a g:=hst
   refine wp_cond_split (hst.bool 2 rfl) (fun _=>?_) (fun hc=>by cases hc)
   refine wp_skip ?_
   refine Zr ?_
   refine wp_block ?_
   have hlen:left.length=left'.length + 1:=by rw [hl.length_eq,List.length_cons]
   have hcl:a0.by_.length=came.length + left.length:=by rw [hp.length_eq,List.length_append]
   refine r_s (L:=[(3,_),(10,_)]) (T:=[⟨[.o 1],_,[],[],[13]⟩,⟨[.p 0 0],_,[],[0],[14]⟩,⟨[.p 0 0],_,[],[0],[15]⟩,⟨[.p 1 0],_,[],[0,1],[4]⟩,⟨[.p 2 0],_,[],Lr 4,[5]⟩]) (F:=[.o 0,.p 3 0,.p 4 0,.o 1]) (hst.pick [0,1] rfl) hb Za
    (o_p rfl (Zie rfl rfl u_0)<|o_p rfl (Zd4 rfl rfl u_0 rfl)<|o_p rfl (Zd4 rfl rfl u_0 rfl)<|Qa rfl u_0<|Qa rfl u_0<|o_n) (fun a g hst hb=>?_)
   have h2:((came.map Zi).length + ([({ Key:=kn.1,Score:=kn.2 }:Zb)]:List Zb).length) * 24 ≤ 140737488355328:=by simp only [List.length_map,List.length_cons,List.length_nil];omega
   refine r_g (T:=[⟨[.o 0],_,[],[],[16]⟩,⟨[.o 1],_,[],[],[17]⟩,⟨[.o 2],_,[],[],[18]⟩,⟨[.p 1 0,.p 2 0],_,[],[1,2],[19]⟩,⟨[.p 3 0],_,[],[1,2,3],[20]⟩,⟨[.p 0 0,.p 4 0],_,[4],Lr 5,[3,16,21]⟩,⟨[.p 5 0],_,[],Lr 6,[3]⟩]) (F:=[.p 6 0,.o 3]) hst hb Za
    (Qm rfl u_0<|Qm rfl u_0<|Qm rfl u_0<|o_p rfl (Zhf rfl rfl u_0 u_1)<|o_p rfl (Zc4 Zm5 (xs:=[.tmp 19]) (.cons u_0 .nil) (by decide) rfl rfl)<|o_p rfl (Zkl Zm5 rfl rfl u_0 u_1 (by simp) h2)<|Qa rfl u_0<|o_n) (fun a g hst hb=>?_)
   refine Zbh ?_
   refine ⟨left'.length,by omega,left',came ++ [kn],g,rfl,?_,hb,?_,rfl⟩
   ·have hst2:=hst.pick [0,1] rfl (L':=[(3,(pArr Zj 58 3 ((came.map Zi) ++ ([({ Key:=kn.1,Score:=kn.2 }:Zb)]:List Zb)))),(10,(Zci 10 kn left'))])
    refine ⟨hst2.size,hst2.df,fun en he=>?_⟩
    rcases List.mem_cons.1 he with rfl | he
    ·rw [List.map_append];exact hst2.h _ (List.mem_cons_self ..)
    ·rw [List.mem_singleton.1 he];exact Zfb (hst2.h _ (List.mem_cons_of_mem _ (List.mem_cons_self ..)))
   ·rw [List.append_assoc];exact hp.trans (hl.append_left came)
theorem Zeh (a0:Zs) {r:List Zb} (h:Zv a0=some r):FnMR Tryd.prog 16 Zz a0 a0 [] (Zj.sl.pd r):=Ze6 (Zee a0 h) rfl
theorem Zk9 (a0:Int) {r:Zbu} (h:Zg0 a0=some r):FnOk Tryd.prog 30 [(pInt .i64 a0)] (Zb9.pd r):=by
 have H0:=h
 unfold Zg0 at H0
 clear h
 refine Zcx (N:=13) Tryd.func30 rfl rfl (Qe rfl) rfl rfl (fun a g0 hst hb=>?_)
 refine r_s (T:=[⟨[],[(2,(pBox Zb9 2 (default:Zbu)))],[3],[],[2]⟩]) (F:=[.o 0,.p 0 0]) hst hb Za
  (o_p rfl (Zdl (zs:=[.string ByteArray.empty,.int .i64 0,.string ByteArray.empty]) (by kernel_rfl) (fun g=>Zi5 g) rfl rfl)<|o_n) (fun a g hst hb=>?_)
 refine wp_seq ?_
 refine r_s (T:=[⟨[.o 0],_,[],[],[3]⟩,⟨[.p 0 0],_,[],[0],[4]⟩,⟨[.p 1 0],_,[],[0,1],[5]⟩,⟨[.p 2 0,.o 0],_,[],[0,1,2],[6]⟩,⟨[.p 2 0,.p 3 0],_,[],Lr 4,[7]⟩,⟨[.p 2 0,.p 4 0],_,[],Lr 5,[8]⟩]) (F:=[.o 0,.o 1,.p 5 0]) hst hb Za
  (Qm rfl u_0<|o_p rfl (Zph rfl rfl u_0 c_i)<|Qm rfl u_0<|o_g (Qg_f rfl (fun hG=>Zdm rfl rfl u_0))<|o_g (Qg_f rfl (fun hG=>Zpr rfl rfl (Opd.gd hG u_0) c_i))<|o_p rfl (Zls rfl rfl u_0 (fun hz=>(Opd.gd (bNF hz) u_1)))<|o_n) (fun a g hst hb=>?_)
 refine wp_cond_split (hst.bool 2 rfl) (fun hc1=>?_) (fun hc1=>?_)
 ·replace H0:=Zbf hc1 H0
  refine r_s (L:=[(2,_)]) (T:=[⟨[],_,[],[],[9]⟩,⟨[.p 0 0,.o 0],_,[3],[0],[2]⟩]) (F:=[.p 1 0]) (hst.pick [1] rfl) hb Za
   (o_p rfl (Zol rfl rfl )<|o_p rfl (Zh7 Zgn rfl rfl u_1 u_0)<|o_n) (fun a g hst hb=>?_)
  refine wp_ret ?_
  refine Zbc ?_
  obtain rfl:=Option.some.inj H0
  obtain ⟨u0,hu0,hq0⟩:=Zjt (P:=Tryd.prog) Zgn (hst.at 0 rfl)
  exact Z8 rfl hst hb hu0 hq0
 ·replace H0:=Zbe hc1 H0
  refine wp_skip ?_
  refine Zr ?_
  obtain ⟨e2,h3,H0⟩:=Zn H0
  refine r_s (L:=[(0,_),(2,_)]) (T:=[⟨[.o 0],_,[],[],[10]⟩,⟨[.p 0 0],_,[],[0],[11]⟩,⟨[.p 1 0],_,[],[0,1],[12]⟩,⟨[.p 2 0,.o 1],_,[3],[0,1,2],[2]⟩]) (F:=[.p 3 0]) (hst.pick [0,1] rfl) hb Za
   (Qm rfl u_0<|o_p rfl (Zi3 Tryd.underlying84 Zpt rfl rfl (Opd.glob gm_0 gk_0) u_0 h3)<|Ql rfl Zgn u_0<|o_p rfl (Zh7 Zgn rfl rfl u_1 u_0)<|o_n) (fun a g hst hb=>?_)
  refine wp_ret ?_
  obtain rfl:=Option.some.inj H0
  obtain ⟨u0,hu0,hq0⟩:=Zjt (P:=Tryd.prog) Zgn (hst.at 0 rfl)
  exact Z8 rfl hst hb hu0 hq0
theorem Zhs (a0:Int) {r:Int} (h:Zdv a0=some r):FnOk Tryd.prog 20 [(pInt .i64 a0)] (pInt .i64 r):=by
 have H0:=h
 unfold Zdv at H0
 clear h
 refine Zcx (N:=6) Tryd.func20 rfl rfl (Qe rfl) rfl rfl (fun a g0 hst hb=>?_)
 refine r_s (T:=[⟨[],_,[],[],[2]⟩]) (F:=[.o 0]) hst hb Za
  (Qa rfl c_i<|o_n) (fun a g hst hb=>?_)
 obtain ⟨r1,h2,H0⟩:=Zn H0
 refine r_s (T:=[⟨[.o 0],_,[],[],[3]⟩,⟨[.p 0 0],_,[],[0],[4]⟩,⟨[.p 1 0],_,[],[0,1],[5]⟩,⟨[.p 2 0],_,[],[0,1,2],[2]⟩]) (F:=[.p 3 0]) hst hb Za
  (Qm rfl u_0<|o_p rfl (Zb6 Zpg (Zk9 _ h2) rfl rfl (.cons u_0 .nil))<|o_p rfl (Zmu Znm rfl rfl u_0)<|Qa rfl u_0<|o_n) (fun a g hst hb=>?_)
 refine wp_ret ?_
 obtain rfl:=Option.some.inj H0
 exact Z8 rfl hst hb (Zw (s:=2)) (hst.at 0 rfl)
theorem Zgm (a0:Int) (a1:Int) {r:Bool} (h:Zc6 a0 a1=some r):FnOk Tryd.prog 19 [(pInt .i64 a0),(pInt .i64 a1)] (Zo r):=by
 have H0:=h
 unfold Zc6 at H0
 clear h
 refine Zcx (N:=19) Tryd.func19 rfl rfl (Qe rfl) rfl rfl (fun a g0 hst hb=>?_)
 refine r_s (T:=[⟨[],_,[],[],[4]⟩]) (F:=[.o 0,.o 1]) hst hb Za
  (Qa rfl c_b<|o_n) (fun a g hst hb=>?_)
 refine wp_seq ?_
 refine r_s (T:=[⟨[.o 1],_,[],[],[5]⟩]) (F:=[.o 0,.o 1,.p 0 0]) hst hb Za
  (Qm rfl u_0<|o_n) (fun a g hst hb=>?_)
 refine wp_block ?_
 refine wp_seq ?_
 refine r_s (T:=[⟨[.o 2],_,[],[],[7]⟩,⟨[.p 0 0],_,[],[0],[6]⟩]) (F:=[.o 0,.o 1,.o 2,.p 1 0]) hst hb Za
  (o_p rfl (Zct rfl rfl u_0 c_i)<|Qa rfl u_0<|o_n) (fun a g hst hb=>?_)
 refine Zc2 (fun a w=>∃ (j8:Bool) (g:G),w=g.w ∧ St 19 [(0,(pInt .i64 a0)),(1,(pInt .i64 a1)),(6,(Zo j8))] a g ∧ Base g0 g ∧ Z5 a0 a1 j8=some r) ?_ ?_
 ·rintro a w ⟨j8,g,rfl,hst,hb,H0⟩
  unfold Z5 at H0
  refine Zr ?_
  refine wp_cond_split (hst.bool 2 rfl) (fun hc9=>?_) (fun hc9=>?_)
  ·replace H0:=Zbf hc9 H0
   obtain ⟨r10,h11,H0⟩:=Zn H0
   refine r_s (L:=[(0,_),(1,_)]) (T:=[⟨[.o 1],_,[],[],[15]⟩,⟨[.p 0 0],_,[],[0],[16]⟩,⟨[.o 0],_,[],[],[17]⟩,⟨[.p 1 0,.p 2 0],_,[],[0,1,2],[18]⟩,⟨[.p 3 0],_,[],Lr 4,[4]⟩]) (F:=[.p 4 0]) (hst.pick [0,1] rfl) hb Za
    (Qm rfl u_0<|o_p rfl (Zb6 Zne (Zhs _ h11) rfl rfl (.cons u_0 .nil))<|Qm rfl u_0<|o_p rfl (Zct rfl rfl u_0 u_1)<|Qa rfl u_0<|o_n) (fun a g hst hb=>?_)
   refine wp_ret ?_
   refine Zdx ?_
   refine Zbc ?_
   obtain rfl:=Option.some.inj H0
   exact Z8 rfl hst hb (Zw (s:=4)) (hst.at 0 rfl)
  ·replace H0:=Zbe hc9 H0
   refine wp_skip ?_
   refine Zbh ?_
   refine Zr ?_
   refine r_s (L:=[]) (T:=[⟨[],_,[],[],[4]⟩]) (F:=[.p 0 0]) (hst.pick [] rfl) hb Za
    (Qa rfl c_b<|o_n) (fun a g hst hb=>?_)
   refine wp_ret ?_
   obtain rfl:=Option.some.inj H0
   exact Z8 rfl hst hb (Zw (s:=4)) (hst.at 0 rfl)
 ·refine wp_cond_split (hst.bool 3 rfl) (fun hc1=>?_) (fun hc1=>?_)
  ·replace H0:=Zbf hc1 H0
   refine wp_skip ?_
   exact ⟨(a1 == (7:Int)),g,rfl,(hst.pick [0,1,3] rfl),hb,H0⟩
  ·replace H0:=Zbe hc1 H0
   refine r_s (L:=[(0,_),(1,_),(5,_)]) (T:=[⟨[.o 2],_,[],[],[8]⟩,⟨[.p 0 0],_,[],[0],[6]⟩]) (F:=[.o 0,.o 1,.o 2,.p 1 0]) (hst.pick [0,1,2] rfl) hb Za
    (o_p rfl (Zct rfl rfl u_0 c_i)<|Qa rfl u_0<|o_n) (fun a g hst hb=>?_)
   refine wp_cond_split (hst.bool 3 rfl) (fun hc2=>?_) (fun hc2=>?_)
   ·replace H0:=Zbf hc2 H0
    refine wp_skip ?_
    exact ⟨(a1 == (8:Int)),g,rfl,(hst.pick [0,1,3] rfl),hb,H0⟩
   ·replace H0:=Zbe hc2 H0
    refine r_s (L:=[(0,_),(1,_),(5,_)]) (T:=[⟨[.o 2],_,[],[],[9]⟩,⟨[.p 0 0],_,[],[0],[6]⟩]) (F:=[.o 0,.o 1,.o 2,.p 1 0]) (hst.pick [0,1,2] rfl) hb Za
     (o_p rfl (Zct rfl rfl u_0 c_i)<|Qa rfl u_0<|o_n) (fun a g hst hb=>?_)
    refine wp_cond_split (hst.bool 3 rfl) (fun hc3=>?_) (fun hc3=>?_)
    ·replace H0:=Zbf hc3 H0
     refine wp_skip ?_
     exact ⟨(a1 == (10:Int)),g,rfl,(hst.pick [0,1,3] rfl),hb,H0⟩
    ·replace H0:=Zbe hc3 H0
     refine r_s (L:=[(0,_),(1,_),(5,_)]) (T:=[⟨[.o 2],_,[],[],[10]⟩,⟨[.p 0 0],_,[],[0],[6]⟩]) (F:=[.o 0,.o 1,.o 2,.p 1 0]) (hst.pick [0,1,2] rfl) hb Za
      (o_p rfl (Zct rfl rfl u_0 c_i)<|Qa rfl u_0<|o_n) (fun a g hst hb=>?_)
     refine wp_cond_split (hst.bool 3 rfl) (fun hc4=>?_) (fun hc4=>?_)
     ·replace H0:=Zbf hc4 H0
      refine wp_skip ?_
      exact ⟨(a1 == (11:Int)),g,rfl,(hst.pick [0,1,3] rfl),hb,H0⟩
     ·replace H0:=Zbe hc4 H0
      refine r_s (L:=[(0,_),(1,_),(5,_)]) (T:=[⟨[.o 2],_,[],[],[11]⟩,⟨[.p 0 0],_,[],[0],[6]⟩]) (F:=[.o 0,.o 1,.o 2,.p 1 0]) (hst.pick [0,1,2] rfl) hb Za
       (o_p rfl (Zct rfl rfl u_0 c_i)<|Qa rfl u_0<|o_n) (fun a g hst hb=>?_)
      refine wp_cond_split (hst.bool 3 rfl) (fun hc5=>?_) (fun hc5=>?_)
      ·replace H0:=Zbf hc5 H0
       refine wp_skip ?_
       exact ⟨(a1 == (13:Int)),g,rfl,(hst.pick [0,1,3] rfl),hb,H0⟩
      ·replace H0:=Zbe hc5 H0
       refine r_s (L:=[(0,_),(1,_),(5,_)]) (T:=[⟨[.o 2],_,[],[],[12]⟩,⟨[.p 0 0],_,[],[0],[6]⟩]) (F:=[.o 0,.o 1,.o 2,.p 1 0]) (hst.pick [0,1,2] rfl) hb Za
        (o_p rfl (Zct rfl rfl u_0 c_i)<|Qa rfl u_0<|o_n) (fun a g hst hb=>?_)
       refine wp_cond_split (hst.bool 3 rfl) (fun hc6=>?_) (fun hc6=>?_)
       ·replace H0:=Zbf hc6 H0
        refine wp_skip ?_
        exact ⟨(a1 == (14:Int)),g,rfl,(hst.pick [0,1,3] rfl),hb,H0⟩
       ·replace H0:=Zbe hc6 H0
        refine r_s (L:=[(0,_),(1,_),(5,_)]) (T:=[⟨[.o 2],_,[],[],[13]⟩,⟨[.p 0 0],_,[],[0],[6]⟩]) (F:=[.o 0,.o 1,.o 2,.p 1 0]) (hst.pick [0,1,2] rfl) hb Za
         (o_p rfl (Zct rfl rfl u_0 c_i)<|Qa rfl u_0<|o_n) (fun a g hst hb=>?_)
        refine wp_cond_split (hst.bool 3 rfl) (fun hc7=>?_) (fun hc7=>?_)
        ·replace H0:=Zbf hc7 H0
         refine wp_skip ?_
         exact ⟨(a1 == (18:Int)),g,rfl,(hst.pick [0,1,3] rfl),hb,H0⟩
        ·replace H0:=Zbe hc7 H0
         refine r_g (L:=[(0,_),(1,_),(5,_)]) (T:=[⟨[.o 2],_,[],[],[14]⟩,⟨[.p 0 0],_,[],[0],[6]⟩]) (F:=[.o 0,.o 1,.p 1 0]) (hst.pick [0,1,2] rfl) hb Za
          (o_p rfl (Zct rfl rfl u_0 c_i)<|Qa rfl u_0<|o_n) (fun a g hst hb=>?_)
         exact ⟨(a1 == (21:Int)),g,rfl,(hst.pick [0,1,2] rfl),hb,H0⟩
end Go.CL
namespace Go.CL
open Go
theorem Zjy {α:Type} {l:List α} {i:Nat} {e:α} (h:l[i]?=some e):l.drop i=e :: l.drop (i + 1):=by
 obtain ⟨hl,he⟩:=List.getElem?_eq_some_iff.1 h
 rw [← he];exact List.drop_eq_getElem_cons hl
theorem Zic (a b:List (ByteArray × Int)):Z4 (a ++ b)=Z4 a ++ Z4 b:=by simp [Z4]
theorem Zk6 {a b:List (ByteArray × Int)} (h:a.Perm b):(Z4 a).Perm (Z4 b):=(h.filter _).map _
theorem Zla {k:ByteArray} {m:List (ByteArray × Int)} (h:∃ e ∈ Z4 m,e.1=k):∃ e ∈ m,e.1=k:=by
 obtain ⟨e,he,rfl⟩:=h
 obtain ⟨e2,h2,rfl⟩:=List.mem_map.1 he
 exact ⟨e2,(List.mem_filter.1 h2).1,rfl⟩
theorem Zmv {m:List (ByteArray × Int)} {k:ByteArray} {n:Int} (h:∀ e ∈ m,e.1 ≠ k):setS m k n=(k,n) :: m:=by
 unfold setS
 rw [List.filter_eq_self.2 fun e he=>by simpa using h e he]
theorem Zlp {m came left nx:List (ByteArray × Int)} {kn:ByteArray × Int} (hk:(m.map (·.1)).Nodup) (hp:m.Perm ((came ++ [kn]) ++ left)) (hn:nx.Perm (Z4 came)) (h1:1 < kn.2):(setS nx kn.1 (IntKind.i64.wrap (Int.tdiv kn.2 2))).Perm (Z4 (came ++ [kn])):=by
 have hk2:=((hp.map (·.1)).nodup_iff).1 hk
 rw [List.map_append,List.map_append] at hk2
 have hk3:=(List.nodup_append.1 hk2).1
 have hno:∀ e ∈ came,e.1 ≠ kn.1:=fun e he heq=>(List.nodup_append.1 hk3).2.2 e.1 (List.mem_map.2 ⟨e,he,rfl⟩) kn.1 (by simp) heq
 rw [Zmv fun e he heq=>by
  obtain ⟨e2,h2,h3⟩:=Zla ⟨e,hn.mem_iff.1 he,heq⟩
  exact hno e2 h2 h3]
 rw [Zic]
 have:Z4 [kn]=[(kn.1,IntKind.i64.wrap (Int.tdiv kn.2 2))]:=by simp [Z4,h1]
 rw [this]
 exact (List.Perm.cons _ hn).trans (List.perm_append_comm (l₁:=[_]))
theorem Zk2 {came nx:List (ByteArray × Int)} {kn:ByteArray × Int} (hn:nx.Perm (Z4 came)) (h1:¬ 1 < kn.2):nx.Perm (Z4 (came ++ [kn])):=by
 rw [Zic]
 have:Z4 [kn]=[]:=by simp [Z4,h1]
 rw [this,List.append_nil];exact hn
theorem Zmc {m:List (ByteArray × Int)} {x:List Zb} (hr:x=Zq (m.map Zi)):∃ c,cut x (min (m.length:Int) 256) (x.length:Int)=some c ∧ c=(Zq (m.map Zi)).drop 256:=by
 have hl:x.length=m.length:=by rw [hr,(Zbp _).length_eq,List.length_map]
 refine ⟨(x.drop (min (m.length:Int) 256).toNat).take ((x.length:Int).toNat - (min (m.length:Int) 256).toNat),?_,?_⟩
 ·unfold cut
  rw [if_pos ⟨by omega,by omega,by omega⟩]
 ·rw [List.take_of_length_le (by rw [List.length_drop];omega),← hr]
  by_cases h:m.length ≤ 256
  ·rw [List.drop_of_length_le (by omega),List.drop_of_length_le (by omega)]
  ·congr 1;omega
theorem Zld (c:List Zb):∀ m:List (ByteArray × Int),Zca c m=m.filter fun e=>decide (∀ x ∈ c,e.1 ≠ x.Key):=by
 induction c with
 | nil=>intro m;exact (List.filter_eq_self.2 (by simp)).symm
 | cons x c ih =>
  intro m
  have hd:Zca (x :: c) m=Zca c (delS m x.Key):=rfl
  rw [hd,ih,delS,List.filter_filter]
  congr 1
  funext e
  simp [Bool.and_comm]
theorem Zmg {m:List (ByteArray × Int)} {c:List Zb} (hk:(m.map (·.1)).Nodup) (hc:c=(Zq (m.map Zi)).drop 256):(Zca c m).Perm (Zl m):=by
 rw [Zld]
 let un:Zb → ByteArray × Int:=fun x=>(x.Key,x.Score)
 have hs:m.Perm ((Zq (m.map Zi)).map un):=by
  have:=((Zbp (m.map Zi)).map un).symm
  rw [List.map_map] at this
  have e:(un ∘ Zi)=id:=rfl
  rw [e,List.map_id] at this
  exact this
 have hk2:=((hs.map (·.1)).nodup_iff).1 hk
 refine (hs.filter _).trans ?_
 subst hc
 conv=>lhs;rw [← List.take_append_drop 256 (Zq (m.map Zi))]
 rw [← List.take_append_drop 256 (Zq (m.map Zi)),List.map_append,List.map_append] at hk2
 have hdis:=(List.nodup_append.1 hk2).2.2
 rw [List.map_append,List.filter_append]
 have h1:(((Zq (m.map Zi)).take 256).map un).filter (fun e=>decide (∀ x ∈ (Zq (m.map Zi)).drop 256,e.1 ≠ x.Key))=((Zq (m.map Zi)).take 256).map un:=List.filter_eq_self.2 fun e he=>by
  refine decide_eq_true fun x hx heq=>hdis e.1 (List.mem_map.2 ⟨e,he,rfl⟩) x.Key (List.mem_map.2 ⟨un x,List.mem_map.2 ⟨x,hx,rfl⟩,rfl⟩) heq
 have h2:(((Zq (m.map Zi)).drop 256).map un).filter (fun e=>decide (∀ x ∈ (Zq (m.map Zi)).drop 256,e.1 ≠ x.Key))=[]:=List.filter_eq_nil_iff.2 fun e he=>by
  obtain ⟨x,hx,rfl⟩:=List.mem_map.1 he
  simp only [decide_eq_true_eq]
  exact fun h=>h x hx rfl
 rw [List.take_append_drop] at *
 rw [h1,h2,List.append_nil]
 exact .refl _
end Go.CL
namespace Go.CL
open Go Go.RowKit Go.Proofs
theorem Zda (a0:Zs) (a1:Ze) {r:Zs × Unit} (h:Z1 a0 a1=some r):FnMR Tryd.prog 9 Zz a0 r.1 [(Zbj.pd a1)] (pTup []):=by
 unfold Z1 at h
 obtain ⟨fin,hfin,h⟩:=Zn h
 obtain ⟨al,hal,h⟩:=Zn h
 obtain rfl:=Option.some.inj h
 refine Zoi (N:=76) Tryd.func9 rfl rfl (Qe rfl) rfl rfl (fun a g0 b0 hst hb=>?_)
 replace hst:St 76 [(0,(Z3 (some b0) Zu 0 a0)),(1,(Zbj.pd a1))] a g0:=hst
 have hkeys:=Zms (hst.at 0 rfl)
 refine r_s (T:=[⟨[.o 1],_,[],[],[3]⟩]) (F:=[.o 0,.p 0 0]) hst hb Za
  (Qb rfl u_0<|o_n) (fun a g hst hb=>?_)
 refine r_s (T:=[⟨[],[(13,(Zbk 13 ([]:List (ByteArray × Int))))],[14],[],[13]⟩,⟨[.p 0 0],_,[],[0],[4]⟩]) (F:=[.o 0,.o 1,.p 1 0]) hst hb Za
  (o_p rfl (Zi9 rfl rfl)<|Qa rfl u_0<|o_n) (fun a g hst hb=>?_)
 refine wp_seq ?_
 refine Zc2 (fun a w=>∃ (g:G),w=g.w ∧ St 76 [(0,(Z3 (some b0) Zu 0 a0)),(3,(Zbj.ptr a1)),(4,(Zbk 13 (Z4 a0.by_)))] a g ∧ Base g0 g) ?_ ?_
 ·rintro a w ⟨g,rfl,hst,hb⟩
  refine Zr ?_
  refine wp_seq ?_
  refine Zc2 (fun a w=>∃ (g:G),w=g.w ∧ St 76 [(0,(Z3 (some b0) Zu 0 a0)),(4,(Zbk 13 fin))] a g ∧ Base g0 g) ?_ ?_
  ·rintro a w ⟨g,rfl,hst,hb⟩
   refine Zr ?_
   replace hst:=Zke (L:=[]) hst
   replace hst:St 76 [(0,(pEq (ptrB b0 0))),(4,(Zdo 13)),(1002,(pNH0 b0 13 fin))] a g:=hst
   refine r_s (T:=[⟨[.o 0],_,[],[],[57]⟩,⟨[.o 1],_,[],[],[58]⟩,⟨[.p 0 0],_,[],[0,1],[59]⟩,⟨[.p 2 0],_,[],[0,1,2],[60]⟩,⟨[.p 3 0,.p 1 0,.o 2],[(1002,(pNH b0 13 fin))],[1],Lr 4,[1002]⟩]) (F:=[.o 0,.o 1,.p 4 0]) hst hb Za
    (Qm rfl u_0<|Qm rfl u_0<|o_p rfl (Zcw rfl rfl u_0 (fun _ _ h=>⟨_,h⟩))<|o_p rfl (Zjb Zob rfl rfl u_0)<|o_p rfl (Zkr Zf3 rfl rfl u_2 u_0 u_1)<|o_n) (fun a g hst hb=>?_)
   obtain ⟨r1,h2,hr⟩:∃ x,Zv ⟨fin⟩=some x ∧ x=Zq (fin.map Zi):=⟨al,hal,(Option.some.inj (Zek hal).2).symm⟩
   obtain ⟨c3,h4,hc⟩:∃ x,cut r1 (min (fin.length:Int) (256:Int)) (r1.length:Int)=some x ∧ x=(Zq (fin.map Zi)).drop 256:=Zmc hr
   refine r_s (T:=[⟨[.o 0],_,[],[],[61]⟩,⟨[.p 0 0,.o 2],[(62,(Zj.sl.pd r1))],[],[0],[62]⟩,⟨[.o 1],_,[],[],[63]⟩,⟨[.p 2 0,.o 2],_,[],[0,1,2],[64]⟩,⟨[.p 3 0],_,[],Lr 4,[65]⟩,⟨[.p 1 0,.p 4 0],_,[],Lr 5,[66]⟩,⟨[.p 5 0],_,[],Lr 6,[67]⟩,⟨[],_,[],[],[68]⟩]) (F:=[.o 0,.o 1,.p 5 0,.p 6 0,.p 7 0,.o 2]) hst hb Za
    (Qm rfl u_0<|o_p rfl (Zlj Zkt (Zee _ h2) rfl rfl u_1 u_0)<|Qm rfl u_0<|o_p rfl (Zmq Tryd.underlying25 rfl rfl u_1 u_0)<|o_p rfl (Zlg rfl rfl u_0 c_i)<|o_p rfl (Znt Tryd.underlying41 Zkf rfl rfl u_0 u_1 h4)<|o_p rfl (Zcm Tryd.underlying41 rfl rfl u_0)<|Qm rfl c_i<|o_n) (fun a g hst hb=>?_)
   refine wp_block ?_
   have hkf:=Znx (hst.at 5 rfl)
   have hcl:c3.length ≤ 9223372036854775807:=by
    have h1:=hst.at 2 rfl
    obtain ⟨_,_,_,_,hl,_⟩:=Kd.sl_V.1 h1
    exact hl
   refine wp_loop_ghost (fun n a w=>∃ (i:Nat) (g:G),w=g.w ∧ St 76 [(4,(Zdo 13)),(66,(Zj.sl.pd c3)),(67,(pInt .i64 (c3.length:Int))),(68,(pInt .i64 (i:Int))),(1002,(pNH b0 13 (Zca (c3.take i) fin)))] a g ∧ Base g0 g ∧ i ≤ c3.length ∧ n=c3.length - i) c3.length ⟨0,g,rfl,(hst.pick [1,2,3,4,5] rfl),hb,Nat.zero_le _,rfl⟩ (fun n a w hI=>?_)
   obtain ⟨i,g,rfl,hst,hb,hi,rfl⟩:=hI
   refine r_s (T:=[⟨[.o 3,.o 2],_,[],[],[69]⟩]) (F:=[.o 0,.o 1,.o 2,.o 3,.p 0 0,.o 4]) hst hb Za
    (o_p rfl (Zdr rfl rfl u_0 u_1)<|o_n) (fun a g hst hb=>?_)
   refine wp_seq ?_
   refine wp_cond_split (hst.bool 4 rfl) (fun hc2=>?_) (fun hc2=>?_)
   ·have hlt:i < c3.length:=by have:=of_decide_eq_true hc2;omega
    refine wp_skip ?_
    refine Zr ?_
    refine wp_seq ?_
    refine wp_block ?_
    obtain ⟨e5,hee5⟩:∃ x,c3[i]?=some x:=⟨_,List.getElem?_eq_getElem hlt⟩
    have h6:idx c3 (i:Int)=some e5:=Zg5 hee5
    refine r_s (L:=[(4,_),(66,_),(67,_),(68,_),(1002,_)]) (T:=[⟨[.o 1,.o 3],_,[],[],[70]⟩,⟨[.p 0 0],_,[],[0],[71]⟩,⟨[],[(12,(pBox Zj 12 (default:Zb)))],[13],[],[12]⟩,⟨[.p 1 0,.p 2 0],_,[13],[0,1,2],[12]⟩]) (F:=[.o 0,.p 3 0,.o 1,.o 2,.o 3,.o 4]) (hst.pick [0,1,2,3,5] rfl) hb Za
     (o_p rfl (Zb3 Tryd.underlying41 Zkf rfl rfl u_0 u_1 h6)<|Ql rfl Zj8 u_0<|o_p rfl (Zdl (zs:=[.string ByteArray.empty,.int .i64 0]) (by kernel_rfl) (fun g=>Zh5 g) rfl rfl)<|o_p rfl (Zeq Zj8 rfl rfl u_1 u_0)<|o_n) (fun a g hst hb=>?_)
    refine r_g (T:=[⟨[.o 0],_,[],[],[72]⟩,⟨[.o 1],_,[],[],[73]⟩,⟨[.p 1 0],_,[],[1],[74]⟩,⟨[.p 0 0,.p 2 0,.o 5,.o 0],[(1002,(pNH b0 13 (delS (Zca (c3.take i) fin) e5.Key))),(4,(Zdo 13))],[14],[0,1,2],[4,72,1002]⟩]) (F:=[.p 3 1,.o 2,.o 3,.o 4,.p 3 0]) hst hb Za
     (Qm rfl u_0<|Qf rfl Zg3 u_0<|Ql rfl ty_9 u_0<|o_p rfl (Zmm (by decide) rfl Tryd.underlying25 Tryd.underlying9 rfl rfl u_2 u_3 u_0 u_1)<|o_n) (fun a g hst hb=>?_)
    refine Zbh ?_
    refine Zr ?_
    refine r_g (T:=[⟨[.o 3],_,[],[],[75]⟩,⟨[.p 0 0],_,[],[0],[68]⟩]) (F:=[.o 0,.o 1,.o 2,.p 1 0,.o 4]) hst hb Za
     (o_p rfl (Zcn rfl rfl u_0 c_i (Zes hlt hcl))<|Qm rfl u_0<|o_n) (fun a g hst hb=>?_)
    have hfo:delS (Zca (c3.take i) fin) e5.Key=Zca (c3.take (i + 1)) fin:=by unfold Zca;rw [List.take_add_one,hee5];simp
    have hst:=hst.pick [0,1,2,3,4] rfl (L':=[(4,(Zdo 13)),(66,(Zj.sl.pd c3)),(67,(pInt .i64 (c3.length:Int))),(68,(pInt .i64 (((i + 1):Nat):Int))),(1002,(pNH b0 13 (delS (Zca (c3.take i) fin) e5.Key)))])
    rw [hfo] at hst
    exact ⟨c3.length - (i + 1),by omega,i + 1,g,rfl,hst,hb,by omega,rfl⟩
   ·refine wp_exit ?_
    refine Zbm ?_
    refine Zbm ?_
    refine Zcb ?_
    have hge:c3.length ≤ i:=by have:=of_decide_eq_false hc2;omega
    have hq:=hst.at 5 rfl
    rw [List.take_of_length_le hge] at hq
    exact Zml rfl hst hb (by decide) (Zmg hkf hc) hq
  ·skip
   refine r_s (T:=[⟨[.o 1],_,[],[],[30]⟩,⟨[.p 0 0],_,[],[0],[31]⟩,⟨[.p 1 0],_,[],[0,1],[32]⟩,⟨[],_,[],[],[33]⟩]) (F:=[.o 0,.o 2,.p 1 0,.p 2 0,.p 3 0]) hst hb Za
    (Qf rfl Zn0 u_0<|Ql rfl Zpf u_0<|o_p rfl (Zcm Tryd.underlying29 rfl rfl u_0)<|Qm rfl c_i<|o_n) (fun a g hst hb=>?_)
   refine wp_block ?_
   have hdl:a1.Deals.length ≤ 9223372036854775807:=by
    have h1:=hst.at 2 rfl
    obtain ⟨_,_,_,_,hl,_⟩:=Kd.sl_V.1 h1
    exact hl
   refine wp_loop_ghost (fun n a w=>∃ (i:Nat) (nx:List (ByteArray × Int)) (g:G),w=g.w ∧ St 76 [(0,(Z3 (some b0) Zu 0 a0)),(4,(Zbk 13 nx)),(31,(Zk.sl.pd a1.Deals)),(32,(pInt .i64 (a1.Deals.length:Int))),(33,(pInt .i64 (i:Int)))] a g ∧ Base g0 g ∧ i ≤ a1.Deals.length ∧ Zc9 (a1.Deals.drop i) nx=some fin ∧ n=a1.Deals.length - i) a1.Deals.length ⟨0,_,g,rfl,(hst.pick [0,1,2,3,4] rfl),hb,Nat.zero_le _,hfin,rfl⟩ (fun n a w hI=>?_)
   obtain ⟨i,nx,g,rfl,hst,hb,hi,hrun,rfl⟩:=hI
   refine r_s (T:=[⟨[.o 4,.o 3],_,[],[],[34]⟩]) (F:=[.o 0,.o 1,.o 2,.o 3,.o 4,.p 0 0]) hst hb Za
    (o_p rfl (Zdr rfl rfl u_0 u_1)<|o_n) (fun a g hst hb=>?_)
   refine wp_seq ?_
   refine wp_cond_split (hst.bool 5 rfl) (fun hc=>?_) (fun hc=>?_)
   ·have hlt:i < a1.Deals.length:=by have:=of_decide_eq_true hc;omega
    refine wp_skip ?_
    refine Zr ?_
    refine wp_seq ?_
    refine wp_block ?_
    obtain ⟨e7,hee7⟩:∃ x,a1.Deals[i]?=some x:=⟨_,List.getElem?_eq_getElem hlt⟩
    have h8:idx a1.Deals (i:Int)=some e7:=Zg5 hee7
    refine r_s (L:=[(0,_),(4,_),(31,_),(32,_),(33,_)]) (T:=[⟨[.o 2,.o 4],_,[],[],[35]⟩,⟨[.p 0 0],_,[],[0],[36]⟩,⟨[],[(8,(pBox Zk 8 (default:Zc)))],[9],[],[8]⟩,⟨[.p 1 0,.p 2 0],_,[9],[0,1,2],[8]⟩]) (F:=[.o 0,.o 1,.p 3 0,.o 2,.o 3,.o 4]) (hst.pick [0,1,2,3,4] rfl) hb Za
     (o_p rfl (Zb3 Tryd.underlying29 Zpm rfl rfl u_0 u_1 h8)<|Ql rfl Znb u_0<|o_p rfl (Zdl (zs:=[.slice none 0 0]) (by kernel_rfl) (fun g=>Zi6 g) rfl rfl)<|o_p rfl (Zeq Znb rfl rfl u_1 u_0)<|o_n) (fun a g hst hb=>?_)
    obtain ⟨fy,hac,hrun⟩:=Zn (show (Zc1 e7.Acts nx).bind (fun y=>Zc9 (a1.Deals.drop (i + 1)) y)=some fin by rw [Zjy hee7] at hrun;exact hrun)
    refine r_s (T:=[⟨[.o 2],_,[],[],[37]⟩,⟨[.p 0 0],_,[],[0],[38]⟩,⟨[.p 1 0],_,[],[0,1],[39]⟩,⟨[],_,[],[],[40]⟩]) (F:=[.o 0,.o 1,.o 3,.o 4,.o 5,.p 1 0,.p 2 0,.p 3 0]) hst hb Za
     (Qf rfl Znv u_0<|Ql rfl Zpe u_0<|o_p rfl (Zcm Tryd.underlying52 rfl rfl u_0)<|Qm rfl c_i<|o_n) (fun a g hst hb=>?_)
    refine Zc2 (fun a w=>∃ (g:G),w=g.w ∧ St 76 [(0,(Z3 (some b0) Zu 0 a0)),(4,(Zbk 13 fy)),(31,(Zk.sl.pd a1.Deals)),(32,(pInt .i64 (a1.Deals.length:Int))),(33,(pInt .i64 (i:Int)))] a g ∧ Base g0 g) ?_ ?_
    ·rintro a w ⟨g,rfl,hst,hb⟩
     refine Zbh ?_
     refine Zr ?_
     refine r_g (T:=[⟨[.o 4],_,[],[],[56]⟩,⟨[.p 0 0],_,[],[0],[33]⟩]) (F:=[.o 0,.o 1,.o 2,.o 3,.p 1 0]) hst hb Za
      (o_p rfl (Zcn rfl rfl u_0 c_i (Zes hlt hdl))<|Qm rfl u_0<|o_n) (fun a g hst hb=>?_)
     exact ⟨a1.Deals.length - (i + 1),by omega,i + 1,fy,g,rfl,(hst.pick [0,1,2,3,4] rfl),hb,by omega,hrun,rfl⟩
    ·refine wp_block ?_
     have hall:e7.Acts.length ≤ 9223372036854775807:=by
      have h1:=hst.at 5 rfl
      obtain ⟨_,_,_,_,hl,_⟩:=Kd.sl_V.1 h1
      exact hl
     refine wp_loop_ghost (fun n a w=>∃ (k:Nat) (ny:List (ByteArray × Int)) (g:G),w=g.w ∧ St 76 [(0,(Z3 (some b0) Zu 0 a0)),(4,(Zbk 13 ny)),(31,(Zk.sl.pd a1.Deals)),(32,(pInt .i64 (a1.Deals.length:Int))),(33,(pInt .i64 (i:Int))),(38,(Zbb.sl.pd e7.Acts)),(39,(pInt .i64 (e7.Acts.length:Int))),(40,(pInt .i64 (k:Int)))] a g ∧ Base g0 g ∧ k ≤ e7.Acts.length ∧ Zc1 (e7.Acts.drop k) ny=some fy ∧ n=e7.Acts.length - k) e7.Acts.length ⟨0,_,g,rfl,(hst.pick [0,1,2,3,4,5,6,7] rfl),hb,Nat.zero_le _,hac,rfl⟩ (fun n a w hI=>?_)
     obtain ⟨k,ny,g,rfl,hst,hb,hk,hac,rfl⟩:=hI
     refine r_s (T:=[⟨[.o 7,.o 6],_,[],[],[41]⟩]) (F:=[.o 0,.o 1,.o 2,.o 3,.o 4,.o 5,.o 6,.o 7,.p 0 0]) hst hb Za
      (o_p rfl (Zdr rfl rfl u_0 u_1)<|o_n) (fun a g hst hb=>?_)
     refine wp_seq ?_
     refine wp_cond_split (hst.bool 8 rfl) (fun hc2=>?_) (fun hc2=>?_)
     ·have hkt:k < e7.Acts.length:=by have:=of_decide_eq_true hc2;omega
      refine wp_skip ?_
      refine Zr ?_
      refine wp_seq ?_
      refine wp_block ?_
      obtain ⟨e9,hee9⟩:∃ x,e7.Acts[k]?=some x:=⟨_,List.getElem?_eq_getElem hkt⟩
      have h10:idx e7.Acts (k:Int)=some e9:=Zg5 hee9
      refine r_s (L:=[(0,_),(4,_),(31,_),(32,_),(33,_),(38,_),(39,_),(40,_)]) (T:=[⟨[.o 5,.o 7],_,[],[],[42]⟩,⟨[.p 0 0],_,[],[0],[43]⟩,⟨[],[(10,(pBox Zbb 10 (default:Zd)))],[11],[],[10]⟩,⟨[.p 1 0,.p 2 0],_,[11],[0,1,2],[10]⟩]) (F:=[.o 0,.o 1,.p 3 0,.o 2,.o 3,.o 4,.o 5,.o 6,.o 7]) (hst.pick [0,1,2,3,4,5,6,7] rfl) hb Za
       (o_p rfl (Zb3 Tryd.underlying52 Zpy rfl rfl u_0 u_1 h10)<|Ql rfl Zf6 u_0<|o_p rfl (Zdl (zs:=[.int .i64 0,.string ByteArray.empty,.int .i64 0,.float .f64 0,.string ByteArray.empty,.int .i64 0,.int .i64 0,.int .i64 0,.int .i64 0,.float .f64 0,.int .i64 0,.string ByteArray.empty,.slice none 0 0,.bool false]) (by kernel_rfl) (fun g=>Zgp g) rfl rfl)<|o_p rfl (Zeq Zf6 rfl rfl u_1 u_0)<|o_n) (fun a g hst hb=>?_)
      obtain ⟨y,hy,hac⟩:=Zn (show (Zel ny e9).bind (fun y=>Zc1 (e7.Acts.drop (k + 1)) y)=some fy by rw [Zjy hee9] at hac;exact hac)
      unfold Zel at hy
      obtain ⟨r11,h12,hy⟩:=Zn hy
      obtain ⟨r13,h14,hy⟩:=Zn hy
      refine r_s (T:=[⟨[.o 2],_,[],[],[44]⟩,⟨[.p 0 0],_,[],[0],[45]⟩,⟨[.p 1 0],_,[],[0,1],[46]⟩,⟨[.o 2],_,[],[],[47]⟩,⟨[.p 3 0],_,[],[3],[48]⟩,⟨[.p 2 0,.p 4 0],_,[],Lr 5,[49]⟩]) (F:=[.o 0,.o 1,.o 2,.o 3,.o 4,.o 5,.o 6,.o 7,.o 8,.p 5 0]) hst hb Za
       (Qf rfl Zjm u_0<|Ql rfl ty_3 u_0<|o_p rfl (Zb6 Zne (Zhs _ h12) rfl rfl (.cons u_0 .nil))<|Qf rfl Zjm u_0<|Ql rfl ty_3 u_0<|o_p rfl (Zb6 Zo6 (Zgm _ _ h14) rfl rfl (.cons u_0 (.cons u_1 .nil)))<|o_n) (fun a g hst hb=>?_)
      refine wp_cond_split (hst.bool 9 rfl) (fun hsp=>?_) (fun hsp=>?_)
      ·have hyy:=Option.some.inj hy
       rw [hsp] at hyy
       replace hyy:setS ny e9.Key (IntKind.i64.wrap ((getS ny e9.Key).getD 0 + 1))=y:=hyy
       refine r_g (L:=[(0,_),(4,_),(10,_),(31,_),(32,_),(33,_),(38,_),(39,_),(40,_)]) (T:=[⟨[.o 1],_,[],[],[50]⟩,⟨[.o 2],_,[],[],[51]⟩,⟨[.p 1 0],_,[],[1],[52]⟩,⟨[.p 0 0,.p 2 0],_,[],[0,1,2],[53]⟩,⟨[.p 3 0],_,[],Lr 4,[54]⟩,⟨[.p 0 0,.p 2 0,.p 4 0,.o 1],[(4,(Zbk 13 (setS ny e9.Key (IntKind.i64.wrap (((getS ny e9.Key).getD 0) + (1:Int))))))],[14],Lr 5,[4,50]⟩]) (F:=[.o 0,.p 5 0,.o 3,.o 4,.o 5,.o 6,.o 7,.o 8]) (hst.pick [0,1,2,3,4,5,6,7,8] rfl) hb Za
        (Qm rfl u_0<|Qf rfl Znl u_0<|Ql rfl ty_9 u_0<|o_p rfl (Zi7 Tryd.underlying25 Tryd.underlying9 (by kernel_rfl) rfl rfl u_0 u_1)<|o_p rfl (Zcn rfl rfl u_0 c_i rfl)<|o_p rfl (Zgk Tryd.underlying25 Tryd.underlying9 rfl rfl u_3 u_0 u_1 u_2)<|o_n) (fun a g hst hb=>?_)
       refine Zbh ?_
       refine Zr ?_
       refine r_g (T:=[⟨[.o 7],_,[],[],[55]⟩,⟨[.p 0 0],_,[],[0],[40]⟩]) (F:=[.o 0,.o 1,.o 2,.o 3,.o 4,.o 5,.o 6,.p 1 0]) hst hb Za
        (o_p rfl (Zcn rfl rfl u_0 c_i (Zes hkt hall))<|Qm rfl u_0<|o_n) (fun a g hst hb=>?_)
       exact ⟨e7.Acts.length - (k + 1),by omega,k + 1,_,g,rfl,(hst.pick [0,1,2,3,4,5,6,7] rfl),hb,by omega,by rw [hyy];exact hac,rfl⟩
      ·have hyy:=Option.some.inj hy
       rw [hsp] at hyy
       refine wp_skip ?_
       replace hyy:ny=y:=hyy
       refine Zbh ?_
       refine Zr ?_
       refine r_g (L:=[(0,_),(4,_),(31,_),(32,_),(33,_),(38,_),(39,_),(40,_)]) (T:=[⟨[.o 7],_,[],[],[55]⟩,⟨[.p 0 0],_,[],[0],[40]⟩]) (F:=[.o 0,.o 1,.o 2,.o 3,.o 4,.o 5,.o 6,.p 1 0]) (hst.pick [0,1,3,4,5,6,7,8] rfl) hb Za
        (o_p rfl (Zcn rfl rfl u_0 c_i (Zes hkt hall))<|Qm rfl u_0<|o_n) (fun a g hst hb=>?_)
       exact ⟨e7.Acts.length - (k + 1),by omega,k + 1,_,g,rfl,(hst.pick [0,1,2,3,4,5,6,7] rfl),hb,by omega,by rw [hyy];exact hac,rfl⟩
     ·refine wp_exit ?_
      refine Zbm ?_
      refine Zbm ?_
      refine Zcb ?_
      have hge:e7.Acts.length ≤ k:=by have:=of_decide_eq_false hc2;omega
      rw [List.drop_of_length_le hge] at hac
      obtain rfl:ny=fy:=Option.some.inj hac
      exact ⟨g,rfl,(hst.pick [0,1,2,3,4] rfl),hb⟩
   ·refine wp_exit ?_
    refine Zbm ?_
    refine Zbm ?_
    refine Zcb ?_
    have hge:a1.Deals.length ≤ i:=by have:=of_decide_eq_false hc;omega
    rw [List.drop_of_length_le hge] at hrun
    obtain rfl:nx=fin:=Option.some.inj hrun
    exact ⟨g,rfl,(hst.pick [0,1] rfl),hb⟩
 ·skip
  refine r_s (T:=[⟨[.o 0],_,[],[],[14]⟩,⟨[.p 0 0],_,[],[0],[15]⟩,⟨[.p 1 0],_,[],[0,1],[16]⟩,⟨[.p 2 0],_,[],[0,1,2],[17]⟩,⟨[.p 3 0],[(18,(Zfc 18 a0.by_))],[19],Lr 4,[18]⟩]) (F:=[.o 0,.o 1,.o 2,.p 4 0]) hst hb Za
   (Qm rfl u_0<|o_p rfl (Zcw rfl rfl u_0 (fun _ _ ⟨_,_,_,e,_⟩=>⟨_,e⟩))<|o_p rfl (Zff Zez (off:=0) (by kernel_rfl) rfl rfl u_0)<|QP rfl Zf3 u_0<|o_p rfl (Ziy Tryd.underlying25 rfl rfl u_0)<|o_n) (fun a g hst hb=>?_)
  refine wp_block ?_
  refine wp_loop_ghost (fun n a w=>∃ (left came nx:List (ByteArray × Int)) (g:G),w=g.w ∧ St 76 [(0,(Z3 (some b0) Zu 0 a0)),(3,(Zbj.ptr a1)),(4,(Zbk 13 nx)),(18,(Zfc 18 left))] a g ∧ Base g0 g ∧ a0.by_.Perm (came ++ left) ∧ nx.Perm (Z4 came) ∧ n=left.length) a0.by_.length ⟨a0.by_,[],[],g,rfl,(hst.pick [0,1,2,3] rfl),hb,.refl _,.refl _,rfl⟩ (fun n a w hI=>?_)
  obtain ⟨left,came,nx,g,rfl,hst,hb,hp,hnx,rfl⟩:=hI
  refine r_s (T:=[⟨[.o 3],[(19,(Zfk 18 left)),(18,(pItP 18))],[19],[],[18,19]⟩,⟨[.p 0 0],_,[],[0],[20]⟩]) (F:=[.o 0,.o 1,.o 2,.p 0 1,.p 1 0]) hst hb Za
   (o_p rfl (Zjh (by decide) rfl rfl u_0)<|o_p rfl (Zin rfl rfl u_0)<|o_n) (fun a g hst hb=>?_)
  refine wp_seq ?_
  rcases Zgv (i1:=4) (i2:=3) rfl rfl hst with ⟨hl,hst⟩ | ⟨kn,left',hl,hst⟩
  ·skip
   replace hst:St 76 [(0,(Z3 (some b0) Zu 0 a0)),(3,(Zbj.ptr a1)),(4,(Zbk 13 nx)),(18,(pItP 18)),(20,(Zo false))] a g:=hst
   refine wp_cond_split (hst.bool 4 rfl) (fun hc=>by cases hc) (fun _=>?_)
   refine wp_exit ?_
   refine Zbm ?_
   refine Zbm ?_
   refine Zcb ?_
   subst hl
   rw [List.append_nil] at hp
   have hst2:=Zk5 (s:=4) (j:=13) (L:=[(0,(Z3 (some b0) Zu 0 a0)),(3,(Zbj.ptr a1))]) (hnx.trans (Zk6 hp.symm)) (hst.pick [2,0,1] rfl)
   exact ⟨g,rfl,hst2.pick [1,2,0] rfl,hb⟩
  ·skip
   replace hst:St 76 [(0,(Z3 (some b0) Zu 0 a0)),(3,(Zbj.ptr a1)),(4,(Zbk 13 nx)),(18,(Zci 18 kn left')),(20,(Zo true))] a g:=hst
   refine wp_cond_split (hst.bool 4 rfl) (fun _=>?_) (fun hc=>by cases hc)
   refine wp_skip ?_
   refine Zr ?_
   refine wp_block ?_
   have hlen:left.length=left'.length + 1:=by rw [hl.length_eq,List.length_cons]
   refine r_s (L:=[(0,_),(3,_),(4,_),(18,_)]) (T:=[⟨[.o 3],_,[],[],[21]⟩,⟨[.p 0 0],_,[],[0],[22]⟩,⟨[.p 0 0],_,[],[0],[23]⟩,⟨[.p 1 0],_,[],[0,1],[5]⟩,⟨[.p 2 0],_,[],Lr 4,[6]⟩]) (F:=[.o 0,.o 1,.o 2,.p 3 0,.p 4 0,.o 3]) (hst.pick [0,1,2,3] rfl) hb Za
    (o_p rfl (Zie rfl rfl u_0)<|o_p rfl (Zd4 rfl rfl u_0 rfl)<|o_p rfl (Zd4 rfl rfl u_0 rfl)<|Qa rfl u_0<|Qa rfl u_0<|o_n) (fun a g hst hb=>?_)
   refine r_s (T:=[⟨[.o 4],_,[],[],[24]⟩,⟨[.p 0 0],_,[],[0],[25]⟩]) (F:=[.o 0,.o 1,.o 2,.o 3,.o 4,.o 5,.p 1 0]) hst hb Za
    (Qm rfl u_0<|o_p rfl (Zj2 rfl rfl u_0 c_i)<|o_n) (fun a g hst hb=>?_)
   have hp2:a0.by_.Perm ((came ++ [kn]) ++ left'):=by rw [List.append_assoc];exact hp.trans (hl.append_left came)
   refine wp_cond_split (hst.bool 6 rfl) (fun hc=>?_) (fun hc=>?_)
   ·skip
    refine r_g (L:=[(0,_),(3,_),(4,_),(5,_),(6,_),(18,_)]) (T:=[⟨[.o 2],_,[],[],[26]⟩,⟨[.o 3],_,[],[],[27]⟩,⟨[.o 4],_,[],[],[28]⟩,⟨[.p 2 0],_,[],[2],[29]⟩,⟨[.p 0 0,.p 1 0,.p 3 0,.o 2],[(4,(Zbk 13 (setS nx kn.1 (IntKind.i64.wrap (Int.tdiv kn.2 (2:Int))))))],[14],Lr 4,[4,26]⟩]) (F:=[.o 0,.o 1,.p 4 0,.o 5]) (hst.pick [0,1,2,3,4,5] rfl) hb Za
     (Qm rfl u_0<|Qm rfl u_0<|Qm rfl u_0<|o_p rfl (Zip rfl rfl u_0 c_i (by decide))<|o_p rfl (Zgk Tryd.underlying25 Tryd.underlying9 rfl rfl u_3 u_0 u_1 u_2)<|o_n) (fun a g hst hb=>?_)
    refine Zbh ?_
    have hst2:=hst.pick [0,1,2,3] rfl (L':=[(0,(Z3 (some b0) Zu 0 a0)),(3,(Zbj.ptr a1)),(4,(Zbk 13 (setS nx kn.1 (IntKind.i64.wrap (Int.tdiv kn.2 (2:Int)))))),(18,(Zci 18 kn left'))])
    refine ⟨left'.length,by omega,left',came ++ [kn],_,g,rfl,⟨hst2.size,hst2.df,Zch (hst2.at 0 rfl) (Zch (hst2.at 1 rfl) (Zch (hst2.at 2 rfl) (Zch (Zfb (hst2.at 3 rfl)) Zhe)))⟩,hb,hp2,Zlp hkeys hp2 hnx (of_decide_eq_true hc),rfl⟩
   ·refine wp_skip ?_
    refine Zbh ?_
    have hst2:=hst.pick [0,1,2,5] rfl (L':=[(0,(Z3 (some b0) Zu 0 a0)),(3,(Zbj.ptr a1)),(4,(Zbk 13 nx)),(18,(Zci 18 kn left'))])
    refine ⟨left'.length,by omega,left',came ++ [kn],_,g,rfl,⟨hst2.size,hst2.df,Zch (hst2.at 0 rfl) (Zch (hst2.at 1 rfl) (Zch (hst2.at 2 rfl) (Zch (Zfb (hst2.at 3 rfl)) Zhe)))⟩,hb,hp2,Zk2 hnx (of_decide_eq_false hc),rfl⟩
theorem Zfn (a0:Zs) (a1:ByteArray) {r:Int} (h:Zbt a0 a1=some r):FnL Tryd.prog 12 [(Zu.ptr a0),(pStr a1)] (pInt .i64 r):=by
 unfold Zbt at h
 obtain rfl:=Option.some.inj h
 refine FnL.of (Zcx (N:=11) Tryd.func12 rfl rfl (Qe rfl) rfl rfl (fun a g0 hst hb=>?_)) Zi1
 replace hst:St 11 [(0,(Zu.ptr a0)),(1,(pStr a1))] a g0:=hst
 refine r_s (T:=[⟨[],_,[],[],[4]⟩]) (F:=[.o 0,.o 1]) hst hb Za
  (Qa rfl c_i<|o_n) (fun a g hst hb=>?_)
 refine r_s (T:=[⟨[.o 0],_,[],[],[5]⟩,⟨[.p 0 0],_,[],[0],[6]⟩,⟨[.p 1 0],_,[],[0,1],[7]⟩,⟨[.p 2 0],_,[],[0,1,2],[8]⟩,⟨[.o 1],_,[],[],[9]⟩,⟨[.p 3 0,.p 4 0],_,[],Lr 5,[10]⟩,⟨[.p 5 0],_,[],Lr 6,[4]⟩]) (F:=[.p 6 0]) hst hb Za
  (Qm rfl u_0<|o_p rfl (Zcw rfl rfl u_0 (fun _ _ ⟨_,_,_,e,_⟩=>⟨_,e⟩))<|Qf rfl Zez u_0<|Ql rfl Zf3 u_0<|Qm rfl u_0<|o_p rfl (Zj6 Tryd.underlying25 Tryd.underlying9 (by kernel_rfl) rfl rfl u_0 u_1)<|Qa rfl u_0<|o_n) (fun a g hst hb=>?_)
 refine wp_ret ?_
 exact Z8 rfl hst hb (Zw (s:=4)) (hst.at 0 rfl)
theorem Zcz (a0:Zs) (a1:ByteArray) {r:Int} (h:Zbt a0 a1=some r):FnMR Tryd.prog 12 Zz a0 a0 [(pStr a1)] (pInt .i64 r):=Ze6 (Zfn a0 a1 h) rfl
theorem Zgi (a0:Zs) {r:Int} (h:Zbv a0=some r):FnL Tryd.prog 14 [(Zu.ptr a0)] (pInt .i64 r):=by
 unfold Zbv at h
 obtain rfl:=Option.some.inj h
 refine FnL.of (Zcx (N:=8) Tryd.func14 rfl rfl (Qe rfl) rfl rfl (fun a g0 hst hb=>?_)) Zi1
 replace hst:St 8 [(0,(Zu.ptr a0))] a g0:=hst
 refine r_s (T:=[⟨[],_,[],[],[2]⟩]) (F:=[.o 0]) hst hb Za
  (Qa rfl c_i<|o_n) (fun a g hst hb=>?_)
 refine r_s (T:=[⟨[.o 0],_,[],[],[3]⟩,⟨[.p 0 0],_,[],[0],[4]⟩,⟨[.p 1 0],_,[],[0,1],[5]⟩,⟨[.p 2 0],_,[],[0,1,2],[6]⟩,⟨[.p 3 0],_,[],Lr 4,[7]⟩,⟨[.p 4 0],_,[],Lr 5,[2]⟩]) (F:=[.p 5 0]) hst hb Za
  (Qm rfl u_0<|o_p rfl (Zcw rfl rfl u_0 (fun _ _ ⟨_,_,_,e,_⟩=>⟨_,e⟩))<|Qf rfl Zez u_0<|Ql rfl Zf3 u_0<|o_p rfl (Zmb Tryd.underlying25 rfl rfl u_0)<|Qa rfl u_0<|o_n) (fun a g hst hb=>?_)
 refine wp_ret ?_
 exact Z8 rfl hst hb (Zw (s:=2)) (hst.at 0 rfl)
theorem Zdc (a0:Zs) {r:Int} (h:Zbv a0=some r):FnMR Tryd.prog 14 Zz a0 a0 [] (pInt .i64 r):=Ze6 (Zgi a0 h) rfl
theorem Zft (a0:Zs):Zii Tryd.prog 15 [(Zu.ptr a0)] Zz a0:=by
 refine Zli (N:=10) Tryd.func15 rfl rfl (Qe rfl) rfl (fun a g0 h0 hst hb=>?_)
 replace hst:St 10 [(0,(Zu.ptr a0))] a g0:=hst
 refine r_s (T:=[⟨[],_,[],[],[2]⟩]) (F:=[.o 0]) hst hb Za
  (o_p rfl (Zl9 (.inr rfl))<|o_n) (fun a g hst hb=>?_)
 refine r_s (T:=[⟨[.o 0],_,[],[],[3]⟩,⟨[.p 0 0],_,[],[0],[4]⟩,⟨[.p 1 0],_,[],[0,1],[5]⟩,⟨[.p 2 0],_,[],[0,1,2],[6]⟩,⟨[.p 3 0],[(7,(Zd2 7 a0.by_))],[8],Lr 4,[7]⟩,⟨[.p 4 0],_,[],Lr 5,[8]⟩,⟨[.p 5 0],[(9,(Zgl 9 7 a0.by_))],[10],Lr 6,[9]⟩,⟨[.p 6 0],_,[],Lr 7,[2]⟩]) (F:=[.p 7 0]) hst hb Za
  (Qm rfl u_0<|o_p rfl (Zcw rfl rfl u_0 (fun _ _ ⟨_,_,_,e,_⟩=>⟨_,e⟩))<|Qf rfl Zez u_0<|Ql rfl Zf3 u_0<|o_p rfl (Zh6 Zll rfl Zpp rfl rfl u_0)<|o_p rfl (Zl1 Tryd.underlying27 (by kernel_rfl) (by kernel_rfl) rfl rfl u_0)<|o_p rfl (Zns (by decide) rfl rfl u_0)<|Qa rfl u_0<|o_n) (fun a g hst hb=>?_)
 refine wp_ret ?_
 exact Zo8 rfl hst hb (Zw (s:=2)) (by decide) (hst.at 0 rfl)
theorem Zev {r:Bool} (h:Zb4=some r):FnOk Tryd.prog 7 [] (Zo r):=by
 have H0:=h
 unfold Zb4 at H0
 clear h
 refine Zcx (N:=47) Tryd.func7 rfl rfl (Qe rfl) rfl rfl (fun a g0 hst hb=>?_)
 refine r_s (T:=[⟨[],_,[],[],[0]⟩]) (F:=[]) hst hb Za
  (Qa rfl c_b<|o_n) (fun a g hst hb=>?_)
 refine r_s (T:=[⟨[],_,[],[],[5]⟩,⟨[],[(1,(pBox Zbb 1 (default:Zd)))],[2],[],[1]⟩,⟨[.p 0 0,.p 1 0],_,[2],[0,1],[1]⟩]) (F:=[.p 2 0]) hst hb Za
  (o_p rfl (Zf7 rfl rfl c_i c_s c_i)<|o_p rfl (Zdl (zs:=[.int .i64 0,.string ByteArray.empty,.int .i64 0,.float .f64 0,.string ByteArray.empty,.int .i64 0,.int .i64 0,.int .i64 0,.int .i64 0,.float .f64 0,.int .i64 0,.string ByteArray.empty,.slice none 0 0,.bool false]) (by kernel_rfl) (fun g=>Zgp g) rfl rfl)<|o_p rfl (Zeq Zf6 rfl rfl u_1 u_0)<|o_n) (fun a g hst hb=>?_)
 refine r_s (T:=[⟨[],[(2,(Z9 none Zz 2 (⟨[]⟩:Zs)))],[3,1000003],[],[2]⟩]) (F:=[.o 0,.p 0 0]) hst hb Za
  (o_p rfl (Zhq (by kernel_rfl) rfl rfl)<|o_n) (fun a g hst hb=>?_)
 obtain ⟨r1,h2,H0⟩:=Zn H0
 refine r_s (T:=[⟨[.o 0],_,[],[],[6]⟩,⟨[.o 0],_,[],[],[7]⟩,⟨[.p 0 0,.p 1 0],_,[],[0,1],[8]⟩,⟨[.p 2 0],_,[],[0,1,2],[9]⟩,⟨[.o 0],_,[],[],[10]⟩,⟨[.p 4 0],_,[],[4],[11]⟩,⟨[.p 5 0],_,[],[4,5],[12]⟩,⟨[.p 3 0,.p 6 0],_,[],Lr 7,[13]⟩,⟨[.p 7 0],_,[],Lr 8,[14]⟩,⟨[.o 1,.p 8 0],[(15,(pTup [])),(2,(Z9 none Zz 2 r1.1))],[3,1000003],Lr 9,[2,15]⟩]) (F:=[.p 9 1]) hst hb Za
  (Ql rfl Zf6 u_0<|Ql rfl Zf6 u_0<|o_p rfl (Zc4 Zh1 (xs:=[.tmp 6,.tmp 7]) (.cons u_0 (.cons u_1 .nil)) (by decide) rfl rfl)<|o_p rfl (Zf2 rfl rfl u_0)<|Ql rfl Zf6 u_0<|o_p rfl (Zc4 Zh1 (xs:=[.tmp 10]) (.cons u_0 .nil) (by decide) rfl rfl)<|o_p rfl (Zf2 rfl rfl u_0)<|o_p rfl (Zc4 Zgt (xs:=[.tmp 9,.tmp 12]) (.cons u_0 (.cons u_1 .nil)) (by decide) rfl rfl)<|o_p rfl (Znn rfl rfl u_0)<|o_p rfl (Zb1 en_9 (Zda _ _ h2) rfl rfl rfl (by decide) u_0 u_0 (.cons u_1 .nil))<|o_n) (fun a g hst hb=>?_)
 refine r_s (T:=[⟨[.o 0],[(16,(Z9 none Zz 16 r1.1))],[17,1000017],[],[16]⟩,⟨[.p 0 0],[(3,(Z9 none Zz 16 r1.1))],[],[0],[3]⟩]) (F:=[.o 0,.p 1 0]) hst hb Za
  (o_p rfl (Zlf Zpz (Zft _) rfl rfl u_0)<|Qa rfl u_0<|o_n) (fun a g hst hb=>?_)
 obtain ⟨r3,h4,H0⟩:=Zn H0
 refine r_s (T:=[⟨[],_,[],[],[17]⟩,⟨[.o 0,.p 0 0],[(18,(pTup [])),(2,(Z9 none Zz 2 r3.1))],[3,1000003],[0],[2,18]⟩]) (F:=[.p 1 1,.o 1]) hst hb Za
  (o_p rfl (Zo4 rfl rfl )<|o_p rfl (Zb1 en_9 (Zda _ _ h4) rfl rfl rfl (by decide) u_0 u_0 (.cons u_1 .nil))<|o_n) (fun a g hst hb=>?_)
 obtain ⟨r5,h6,H0⟩:=Zn H0
 refine r_s (T:=[⟨[.o 0],[(19,(Zj.sl.pd r5)),(2,(Z9 none Zz 2 r3.1))],[3,1000003],[],[2,19]⟩,⟨[.p 0 0],_,[],[0],[4]⟩]) (F:=[.p 0 1,.o 1,.p 1 0]) hst hb Za
  (o_p rfl (Zb1 Zkt (Zeh _ h6) rfl rfl rfl (by decide) u_0 u_0 .nil)<|Qa rfl u_0<|o_n) (fun a g hst hb=>?_)
 obtain ⟨r7,h8,H0⟩:=Zn H0;obtain ⟨r9,h10,H0⟩:=Zn H0;obtain ⟨r11,h12,H0⟩:=Zn H0;obtain ⟨e13,h14,H0⟩:=Zn H0
 refine r_s (T:=⟨[.o 1],[(20,(Z9 none Zz 16 r1.1))],[],[],[20]⟩ :: ⟨[.p 0 0],_,[],[0],[21]⟩ :: ⟨[.p 1 0],_,[],[0,1],[22]⟩ :: ⟨[.p 2 0,.o 1],[(23,(pIf (!false) (Z9 none Zz 16 r1.1)))],[],[0,1,2],[23]⟩ :: ⟨[.p 2 0,.p 3 0,.o 1],[(24,(pIf (!false) (pInt .i64 r7))),(3,(Z9 none Zz 16 r1.1))],[17,1000017],Lr 4,[3,20,23,24]⟩ :: ⟨[.p 2 0,.p 4 0],_,[],Lr 5,[25]⟩ :: ⟨[.p 2 0,.p 5 0],_,[],Lr 6,[26]⟩ :: ⟨[.p 6 0],_,[],Lr 7,[27]⟩ :: ⟨[.p 7 0,.o 0],[(28,(pIf ((!false) && (r7 == (3:Int))) (pInt .i64 r9))),(2,(Z9 none Zz 2 r3.1))],[3,1000003],Lr 8,[2,28]⟩ :: ⟨[.p 7 0,.p 8 0],_,[],Lr 9,[29]⟩ :: ⟨[.p 7 0,.p 9 0],_,[],Lr 10,[30]⟩ :: ⟨[.p 10 0],_,[],Lr 11,[31]⟩ :: ⟨[.p 11 0,.p 8 1],[(32,(pIf (((!false) && (r7 == (3:Int))) && (r9 == (1:Int))) (pInt .i64 r11))),(2,(Z9 none Zz 2 r3.1))],[3,1000003],Lr 12,[2,32]⟩ :: ⟨[.p 11 0,.p 12 0],_,[],Lr 13,[33]⟩ :: ⟨[.p 11 0,.p 13 0],_,[],Lr 14,[34]⟩ :: ⟨[.p 14 0],_,[],Lr 15,[35]⟩ :: ⟨[.p 15 0,.o 2],_,[],Lr 16,[36]⟩ :: ⟨[.p 15 0,.p 16 0],_,[],Lr 17,[37]⟩ :: ⟨[.p 15 0,.p 17 0],_,[],Lr 18,[38]⟩ :: ⟨[.p 15 0,.p 18 0],_,[],Lr 19,[39]⟩ :: ⟨[.p 19 0],_,[],Lr 20,[40]⟩ :: ⟨[.p 20 0,.o 2],_,[],Lr 21,[41]⟩ :: ⟨[.p 20 0,.p 21 0],_,[],Lr 22,[42]⟩ :: ⟨[.p 20 0,.p 22 0],_,[],Lr 23,[43]⟩ :: ⟨[.p 20 0],_,[],Lr 21,[44]⟩ :: ⟨[.p 20 0,.p 23 0,.p 24 0],_,[],Lr 25,[45]⟩ :: ⟨[.p 20 0,.p 25 0],_,[],Lr 26,[46]⟩ :: ⟨[.p 26 0],_,[],Lr 27,[0]⟩ :: []) (F:=[.p 27 0]) hst hb Za
  (Qm rfl u_0<|o_p rfl (Zou Tryd.underlying35 rfl rfl u_0 Zmp)<|Qm rfl u_0<|o_g (Qg_t rfl (fun hG=>Zdm rfl rfl u_0))<|o_g (OT.guardMR (!false) (gT (!false)).1 (gT (!false)).2 rfl rfl rfl (by decide) u_1 (fun hG=>Zb1 Zj3 (Zcz _ _ (Zd8 h8 hG)) rfl rfl rfl (by decide) u_1 (Opd.gd hG u_0) (.cons c_s .nil)) (ite_self _).symm)<|o_g (Qg_t rfl (fun hG=>Zct rfl rfl (Opd.gd hG u_0) c_i))<|o_p rfl (Zd9 rfl rfl u_0 (fun hz=>(Opd.gd hz u_1)))<|Qm rfl u_0<|o_g (OT.guardMR ((!false) && (r7 == (3:Int))) (gT ((!false) && (r7 == (3:Int)))).1 (gT ((!false) && (r7 == (3:Int)))).2 rfl rfl rfl (by decide) u_0 (fun hG=>Zb1 Zj3 (Zcz _ _ (Zd8 h10 hG)) rfl rfl rfl (by decide) u_0 u_0 (.cons c_s .nil)) (ite_self _).symm)<|o_g (Qg_t rfl (fun hG=>Zct rfl rfl (Opd.gd hG u_0) c_i))<|o_p rfl (Zd9 rfl rfl u_0 (fun hz=>(Opd.gd hz u_1)))<|Qm rfl u_0<|o_g (OT.guardMR (((!false) && (r7 == (3:Int))) && (r9 == (1:Int))) (gT (((!false) && (r7 == (3:Int))) && (r9 == (1:Int)))).1 (gT (((!false) && (r7 == (3:Int))) && (r9 == (1:Int)))).2 rfl rfl rfl (by decide) u_0 (fun hG=>Zb1 Zkp (Zdc _ (Zd8 h12 hG)) rfl rfl rfl (by decide) u_0 u_0 .nil) (ite_self _).symm)<|o_g (Qg_t rfl (fun hG=>Zct rfl rfl (Opd.gd hG u_0) c_i))<|o_p rfl (Zd9 rfl rfl u_0 (fun hz=>(Opd.gd hz u_1)))<|Qm rfl u_0<|o_g (Qg_t rfl (fun hG=>Zdm rfl rfl u_0))<|o_g (Qg_t rfl (fun hG=>Zcm Tryd.underlying41 rfl rfl (Opd.gd hG u_0)))<|o_g (Qg_t rfl (fun hG=>Zct rfl rfl (Opd.gd hG u_0) c_i))<|o_p rfl (Zd9 rfl rfl u_0 (fun hz=>(Opd.gd hz u_1)))<|Qm rfl u_0<|o_g (Qg_t rfl (fun hG=>Zdm rfl rfl u_0))<|o_g (Qg_t rfl (fun hG=>Zb3 Tryd.underlying41 Zkf rfl rfl (Opd.gd hG u_0) c_i (Zd8 h14 hG)))<|o_g (Qg_t rfl (fun hG=>Zjk Zj8 rfl rfl (Opd.gd hG u_0)))<|o_g (Qg_t rfl (fun hG=>Zhf rfl rfl c_s c_i))<|o_g (Qg_t rfl (fun hG=>Zoc rfl Znh Tryd.underlying58 (by kernel_rfl) (by kernel_rfl) Zot rfl rfl (Opd.gd hG u_0) (Opd.gd hG u_1)))<|o_p rfl (Zd9 rfl rfl u_0 (fun hz=>(Opd.gd hz u_1)))<|Qa rfl u_0<|o_n) (fun a g hst hb=>?_)
 refine wp_ret ?_
 obtain rfl:=Option.some.inj H0
 exact Z8 rfl hst hb (Zw (s:=0)) (hst.at 0 rfl)
theorem Zdi (a0:Int) {r:ByteArray} (h:Zbx a0=some r):FnOk Tryd.prog 17 [(pInt .i64 a0)] (pStr r):=by
 have H0:=h
 unfold Zbx at H0
 clear h
 refine Zcx (N:=18) Tryd.func17 rfl rfl (Qe rfl) rfl rfl (fun a g0 hst hb=>?_)
 refine r_s (T:=[⟨[],_,[],[],[2]⟩]) (F:=[.o 0]) hst hb Za
  (Qa rfl c_s<|o_n) (fun a g hst hb=>?_)
 obtain ⟨h1,H0⟩:=Zek H0
 refine r_s (T:=⟨[.o 0],_,[],[],[3]⟩ :: ⟨[.p 0 0],_,[],[0],[4]⟩ :: ⟨[.p 1 0],_,[],[0,1],[5]⟩ :: ⟨[.p 2 0],_,[],[0,1,2],[6]⟩ :: ⟨[.o 0],_,[],[],[7]⟩ :: ⟨[.p 4 0],_,[],[4],[8]⟩ :: ⟨[.p 5 0],_,[],[4,5],[9]⟩ :: ⟨[.p 6 0],_,[],[4,5,6],[10]⟩ :: ⟨[.p 7 0],_,[],List.range' 4 4,[11]⟩ :: ⟨[.o 0],_,[],[],[12]⟩ :: ⟨[.p 9 0],_,[],[9],[13]⟩ :: ⟨[.p 10 0],_,[],[9,10],[14]⟩ :: ⟨[.p 11 0],_,[],[9,10,11],[15]⟩ :: ⟨[.p 3 0,.p 8 0,.p 12 0],_,[],Lr 13,[16]⟩ :: ⟨[.p 13 0],_,[],Lr 14,[17]⟩ :: ⟨[.p 14 0],_,[],Lr 15,[2]⟩ :: []) (F:=[.p 15 0]) hst hb Za
  (Qm rfl u_0<|o_p rfl (Zip rfl rfl u_0 c_i (by decide))<|o_p rfl (Zcn rfl rfl c_i u_0 rfl)<|o_p rfl (Zey Tryd.underlying3 Tryd.underlying5 rfl rfl u_0 rfl)<|Qm rfl u_0<|o_p rfl (Zip rfl rfl u_0 c_i (by decide))<|o_p rfl (Zg2 rfl rfl u_0 c_i (by decide))<|o_p rfl (Zcn rfl rfl c_i u_0 rfl)<|o_p rfl (Zey Tryd.underlying3 Tryd.underlying5 rfl rfl u_0 rfl)<|Qm rfl u_0<|o_p rfl (Zg2 rfl rfl u_0 c_i (by decide))<|o_p rfl (Zcn rfl rfl c_i u_0 rfl)<|o_p rfl (Zey Tryd.underlying3 Tryd.underlying5 rfl rfl u_0 rfl)<|o_p rfl (Zc4 Zpv (xs:=[.tmp 6,.tmp 11,.tmp 15]) (.cons u_0 (.cons u_1 (.cons u_2 .nil))) (by decide) rfl rfl)<|o_p rfl (Zog Tryd.underlying71 Tryd.underlying5 Tryd.underlying9 h1 rfl rfl u_0)<|Qa rfl u_0<|o_n) (fun a g hst hb=>?_)
 refine wp_ret ?_
 obtain rfl:=Option.some.inj H0
 exact Z8 rfl hst hb (Zw (s:=2)) (hst.at 0 rfl)
end Go.CL
namespace Go.CL
open Go Go.RowKit
section
variable {P:Program} {N:Nat} {o:Oper} {uses outs:Zf} {S:List Nat} {d:Nat} {q:Pd} {x y z:Operand} {Q:Exit → Act → World → Prop} {a:Act} {w:World} {K:Act → World → Prop} {D:List Deferred} {g0:G} {ops:Array Oper} {L:Zf} {T:List Spec} {F:List Ref} {os:List Oper} {X:Spec} {Xs:List Spec}
theorem Znf {k a b:Nat} (h:k=a) (h':k=b) (hn:a ≠ b):False:=hn (h.symm.trans h')
end
end Go.CL
