/- A part of the proof of HeatFades. -/
import Derived.Test.YtbbmlejgoepmfaaDoorHeatFadesC1
import Derived.Maps.RangeRun
import Derived.Shelf.SlSortCmp.NoneTotal
import Derived.Shelf.SlMaps.Clone
import Derived.Laws.StructEq
import Derived.Laws.BytesString
import Derived.Test.YtbbmlejgoepmfaaDoorProg
import Derived.Laws.Strings
set_option linter.unusedVariables false
set_option linter.unusedSimpArgs false
set_option maxRecDepth 100000
namespace Go.CL
open Go Go.RowKit
section
variable {P:Program} {N:Nat} {o:Oper} {uses outs:Zf} {S:List Nat} {d:Nat} {q:Pd} {x y z:Operand} {mt kt et:TypeId}
abbrev SEnt:=(ByteArray × Int) × Nat
def ent (e:SEnt):MapEntry:={ key:=.string e.1.1,val:=.int .i64 e.1.2,born:=e.2 }
structure SRel (m:List (ByteArray × Int)) (l:List SEnt) (clock:Nat):Prop where
 perm:(l.map (·.1)).Perm m
 born:(l.map (·.2)).Nodup
 ahead:∀ e ∈ l,e.2 < clock
 keys:(m.map (·.1)).Nodup
def getS:List (ByteArray × Int) → ByteArray → Option Int
 | [],_=>none
 | e :: m,k=>if e.1=k then some e.2 else getS m k
theorem Zej {k:ByteArray} {n:Int}:∀ {m:List (ByteArray × Int)},(m.map (·.1)).Nodup → (k,n) ∈ m → getS m k=some n
 | [],_,h=>by cases h
 | e :: m,hn,h=>by
   obtain ⟨h1,h2⟩:=List.nodup_cons.1 hn
   simp only [getS]
   rcases List.mem_cons.1 h with rfl | h
   · rw [if_pos rfl]
   · rw [if_neg (fun he=>h1 (List.mem_map.2 ⟨(k,n),h,he.symm⟩))]
     exact Zej h2 h
theorem Zdw {k:ByteArray}:∀ {m:List (ByteArray × Int)},(∀ e ∈ m,e.1 ≠ k) → getS m k=none
 | [],_=>rfl
 | e :: m,h=>by
   simp only [getS]
   rw [if_neg (h e (List.mem_cons_self ..))]
   exact Zdw fun e he=>h e (List.mem_cons_of_mem _ he)
theorem Zhy (a b:ByteArray):Instr.sameNow .string (.string a) (.string b)=some (a == b):=by simp [Instr.sameNow]
theorem Zm8 (a b:ByteArray):(a == b)=decide (a=b):=by
 by_cases h:a=b
 · rw [decide_eq_true h];exact (MapKept.bytes_beq a b).2 h
 · rw [decide_eq_false h,Bool.eq_false_iff]
   exact fun e=>h ((MapKept.bytes_beq a b).1 e)
theorem Zif {k:ByteArray}:∀ (l:List SEnt) (i:Nat),(∃ j e,l[j]?=some e ∧ e.1.1=k ∧ Instr.findNow .string (.string k) (l.map ent) i=some (some (i + j,.int .i64 e.1.2))) ∨ (Instr.findNow .string (.string k) (l.map ent) i=some none ∧ ∀ e ∈ l,e.1.1 ≠ k)
 | [],i=>.inr ⟨rfl,fun e h=>by cases h⟩
 | e :: l,i=>by
   by_cases he:e.1.1=k
   · refine .inl ⟨0,e,rfl,he,?_⟩
     have hb:(k == e.1.1)=true:=by rw [Zm8];exact decide_eq_true he.symm
     simp [Instr.findNow,ent,Zhy,hb]
   · have hb:(k == e.1.1)=false:=by rw [Zm8];exact decide_eq_false fun h=>he h.symm
     have hf:Instr.findNow .string (.string k) ((e :: l).map ent) i=Instr.findNow .string (.string k) (l.map ent) (i + 1):=by
       simp [Instr.findNow,ent,Zhy,hb]
     rw [hf]
     rcases Zif (k:=k) l (i + 1) with ⟨j,e2,h1,h2,h3⟩ | ⟨h1,h2⟩
     · exact .inl ⟨j + 1,e2,h1,h2,by rw [h3];congr 3;omega⟩
     · exact .inr ⟨h1,fun e' he'=>(List.mem_cons.1 he').elim (fun h=>by rw [h];exact he) (h2 e')⟩
theorem SRel.get {m:List (ByteArray × Int)} {l:List SEnt} {clock:Nat} (h:SRel m l clock) {e:SEnt} (he:e ∈ l):getS m e.1.1=some e.1.2:=Zej h.keys (h.perm.mem_iff.1 (List.mem_map.2 ⟨e,he,rfl⟩))
theorem SRel.miss {m:List (ByteArray × Int)} {l:List SEnt} {clock:Nat} (h:SRel m l clock) {k:ByteArray} (hk:∀ e ∈ l,e.1.1 ≠ k):getS m k=none:=Zdw fun e he=>by
 obtain ⟨e2,h1,rfl⟩:=List.mem_map.1 (h.perm.mem_iff.2 he)
 exact hk e2 h1
def Zft (g:G) (b:Nat) (m:List (ByteArray × Int)) (l:List SEnt) (clock:Nat):Prop:=b < g.w.heap.size ∧ g.w.heap[b]?=some (.map (l.map ent).toArray clock) ∧ SRel m l clock
def Kd.mapS:Kd (List (ByteArray × Int)) where
 sz:=1
 ag:=false
 K:=fun g m cs=>(cs=[.map none] ∧ m=[]) ∨ ∃ b l clock,cs=[.map (some b)] ∧ (∀ o,g.pr b o) ∧ Zft g b m l clock
 len:=by
   rintro _ _ _ (⟨rfl,_⟩ | ⟨_,_,_,rfl,_⟩) <;> rfl
 one:=by
   rintro _ _ _ (⟨rfl,_⟩ | ⟨_,_,_,rfl,_⟩) u hu <;> (rw [List.mem_singleton.1 hu];rfl)
 mono:=by
   rintro _ _ _ _ hle (h | ⟨b,l,clock,h,h1,h2,h3,h4⟩)
   · exact .inl h
   · exact .inr ⟨b,l,clock,h,fun o=>hle.pr _ _ (h1 o),Nat.lt_of_lt_of_le h2 hle.size,(hle.blk b h1).trans h3,h4⟩
 nag:=fun _=>rfl
theorem isKS (k:ByteArray):MapKept.IsKey .string (.string k):=by simp [MapKept.IsKey]
theorem Zmk {m:List (ByteArray × Int)} {k:ByteArray} (hm:P.underlying mt=some (.map kt et)) (hk:P.underlying kt=some .string) (hz:(P.info? et).bind (·.zero)=some (.int .i64 0)) (hop:o.op=.lookup mt x y false) (hd:o.dst=some d) (hx:Opd uses x (Kd.mapS.pd m)) (hy:Opd uses y (pStr k)):OB P N o uses [(d,pInt .i64 ((getS m k).getD 0))] [] :=
 Zbd hd fun a g hh=>by
   have hn:=Zdz.1 (hy a g hh)
   obtain ⟨cs,hK,hv⟩:=hx a g hh
   rcases hK with ⟨rfl,rfl⟩ | ⟨b,l,clock,rfl,h1,h2,h3,h4⟩
   · have hv:a.eval x=.map none:=hv
     have hc:∀ e w,(Instr.checkKey e 10000 kt (.string k)).run P w=.ok () w:=fun e w=>MapKept.run_checkKey (k:=.string k) hk (isKS k) _ 9999
     refine ⟨.int .i64 0,?_,Zds _ _ g⟩
     simp [execOp,hop,hv,hn,Instr.lookup,run_underlying hm,hc,MapKept.run_findKey (l:=[]) (a:=none) hk rfl,Zh3 hz,Result.andThen]
   · have hv:a.eval x=.map (some b):=hv
     have hc:∀ e w,(Instr.checkKey e 10000 kt (.string k)).run P w=.ok () w:=fun e w=>MapKept.run_checkKey (k:=.string k) hk (isKS k) _ 9999
     rcases Zif (k:=k) l 0 with ⟨j,e,k1,k2,k3⟩ | ⟨k1,k2⟩
     · have hg:getS m k=some e.1.2:=by rw [← k2];exact h4.get (List.mem_of_getElem? k1)
       refine ⟨.int .i64 e.1.2,?_,by rw [hg];exact Zds _ _ g⟩
       simp [execOp,hop,hv,hn,Instr.lookup,run_underlying hm,MapKept.run_getObj_map h3,hc,MapKept.run_findKey hk k3,Result.andThen]
     · have hg:getS m k=none:=h4.miss k2
       refine ⟨.int .i64 0,?_,by rw [hg];exact Zds _ _ g⟩
       simp [execOp,hop,hv,hn,Instr.lookup,run_underlying hm,MapKept.run_getObj_map h3,hc,MapKept.run_findKey hk k1,Zh3 hz,Result.andThen]
variable {j:Nat}
def Zb4 (j:Nat) (m:List (ByteArray × Int)):Pd where
 p:=fun g u=>∃ b l clock,u=.map (some b) ∧ g.own b=j + 1 ∧ (∀ b',b' < g.w.heap.size → g.own b'=j + 1 → b'=b) ∧ (∀ o,¬ g.pr b o) ∧ Zft g b m l clock
 fp:=[j + 1]
 st:=fun {S g g' v} st hd ⟨b,l,clock,e,h2,h3,h5,h1,h4,h6⟩=>by
   have hj:j + 1 ∉ S:=hd _ (by simp)
   obtain ⟨k1,k2,k3⟩:=st.same b h1 (by rw [h2];exact hj)
   exact ⟨b,l,clock,e,k3.trans h2,Zgo st hj (by omega) h3,fun o=>by rw [k2];exact h5 o,Nat.lt_of_lt_of_le h1 st.le.size,k1.trans h4,h6⟩
theorem Zpl (clock:Nat):SRel [] [] clock:=⟨.refl _,List.nodup_nil,fun e h=>(by cases h),List.nodup_nil⟩
theorem Zle (hop:o.op=.makeMap mt none) (hd:o.dst=some d):OB P N o uses [(d,Zb4 j [])] [j + 1] :=
 Zdc hd fun a g hh=>by
   refine ⟨.map (some g.w.heap.size),g.pushO (.map #[] 0) (j + 1),?_,Zfb ..,g.w.heap.size,[],0,rfl,?_,fun b' hb' ho=>?_,fun o h=>?_,?_,Zcn _ _,Zpl 0⟩
   · simp [execOp,hop,Instr.makeMap];rfl
   · simp [G.pushO]
   · simp only [G.pushO] at ho
     split at ho
     · assumption
     · split at ho
       · omega
       · rename_i hne;exact absurd ho hne
   · exact absurd (g.hpr _ _ h) (by omega)
   · show _ < (g.w.alloc _).heap.size;rw [Zbh];omega
def setS (m:List (ByteArray × Int)) (k:ByteArray) (n:Int):List (ByteArray × Int):=(k,n) :: m.filter fun e=>decide (e.1 ≠ k)
def delS (m:List (ByteArray × Int)) (k:ByteArray):List (ByteArray × Int):=m.filter fun e=>decide (e.1 ≠ k)
theorem Zjm {m:List (ByteArray × Int)} (h:(m.map (·.1)).Nodup) (k:ByteArray):((delS m k).map (·.1)).Nodup:=List.Nodup.sublist (List.Sublist.map _ List.filter_sublist) h
theorem Zg9 {m:List (ByteArray × Int)} (h:(m.map (·.1)).Nodup) (k:ByteArray) (n:Int):((setS m k n).map (·.1)).Nodup:=by
 unfold setS
 rw [List.map_cons]
 refine List.nodup_cons.2 ⟨fun hm=>?_,Zjm h k⟩
 obtain ⟨e,he,hk⟩:=List.mem_map.1 hm
 have:=(List.mem_filter.1 he).2
 simp at this
 exact this hk
theorem SRel.push {m:List (ByteArray × Int)} {l:List SEnt} {clock:Nat} (h:SRel m l clock) {k:ByteArray} (hk:∀ e ∈ l,e.1.1 ≠ k) (n:Int):SRel (setS m k n) (l ++ [((k,n),clock)]) (clock + 1):=by
 refine ⟨?_,?_,fun e he=>?_,Zg9 h.keys k n⟩
 · have hf : m.filter (fun e => decide (e.1 ≠ k)) = m := List.filter_eq_self.2 fun e he => by
     obtain ⟨e2,h1,rfl⟩:=List.mem_map.1 (h.perm.mem_iff.2 he)
     simpa using hk e2 h1
   unfold setS
   rw [hf,List.map_append]
   refine (List.perm_append_comm (l₁:=l.map (·.1)) (l₂:=[(k,n)])).trans ?_
   exact List.Perm.cons (k,n) h.perm
 · rw [List.map_append]
   refine List.nodup_append.2 ⟨h.born,by simp,fun a ha b hb=>?_⟩
   obtain ⟨e,he,rfl⟩:=List.mem_map.1 ha
   have:=h.ahead e he
   simp at hb
   omega
 · rcases List.mem_append.1 he with he | he
   · have:=h.ahead e he;omega
   · rw [List.mem_singleton.1 he];show clock < clock + 1;omega
theorem Zh8 {α:Type} {l:List α} {i:Nat} {e:α} (h:l[i]?=some e):l=l.take i ++ e :: l.drop (i + 1):=by
 obtain ⟨hl,he⟩:=List.getElem?_eq_some_iff.1 h
 rw [← he,← List.drop_eq_getElem_cons hl,List.take_append_drop]
theorem SRel.others {m:List (ByteArray × Int)} {l:List SEnt} {clock:Nat} (h:SRel m l clock) {i:Nat} {e:SEnt} (he:l[i]?=some e):((l.take i ++ l.drop (i + 1)).map (·.1)).Perm (delS m e.1.1):=by
 have hs:=Zh8 he
 have hkn:((l.map (·.1)).map (·.1)).Nodup:=(h.perm.map (·.1)).nodup_iff.2 h.keys
 have hf:(l.map (·.1)).filter (fun x=>decide (x.1 ≠ e.1.1))=(l.take i ++ l.drop (i + 1)).map (·.1):=by
   rw [hs] at hkn
   conv=>lhs;rw [hs]
   rw [List.map_append,List.map_cons,List.filter_append,List.filter_cons_of_neg (by simp),List.map_append]
   rw [List.map_append,List.map_append,List.map_cons,List.map_cons] at hkn
   obtain ⟨n1,n2,n3⟩:=List.nodup_append.1 hkn
   obtain ⟨n4,n5⟩:=List.nodup_cons.1 n2
   have f1:((l.take i).map (·.1)).filter (fun x=>decide (x.1 ≠ e.1.1))=(l.take i).map (·.1):=List.filter_eq_self.2 fun x hx=>by
     have:=n3 x.1 (List.mem_map.2 ⟨x,hx,rfl⟩) e.1.1 (List.mem_cons_self ..)
     simpa using this
   have f2:((l.drop (i + 1)).map (·.1)).filter (fun x=>decide (x.1 ≠ e.1.1))=(l.drop (i + 1)).map (·.1):=List.filter_eq_self.2 fun x hx=>by
     have:x.1 ≠ e.1.1:=fun h=>n4 (by rw [← h];exact List.mem_map.2 ⟨x,hx,rfl⟩)
     simpa using this
   rw [f1,f2]
 rw [← hf]
 exact h.perm.filter _
theorem SRel.set {m:List (ByteArray × Int)} {l:List SEnt} {clock:Nat} (h:SRel m l clock) {i:Nat} {e:SEnt} (he:l[i]?=some e) (n:Int):SRel (setS m e.1.1 n) (l.set i ((e.1.1,n),e.2)) clock:=by
 have hil:=(List.getElem?_eq_some_iff.1 he).1
 have hset:l.set i ((e.1.1,n),e.2)=l.take i ++ ((e.1.1,n),e.2) :: l.drop (i + 1):=by
   rw [List.set_eq_take_append_cons_drop,if_pos hil]
 have hs:=Zh8 he
 refine ⟨?_,?_,fun x hx=>?_,Zg9 h.keys _ n⟩
 · rw [hset,List.map_append,List.map_cons]
   have:=h.others he
   rw [List.map_append] at this
   exact List.perm_middle.trans (List.Perm.cons _ this)
 · have:=h.born
   rw [hs,List.map_append,List.map_cons] at this
   rw [hset,List.map_append,List.map_cons]
   exact this
 · rcases List.mem_or_eq_of_mem_set hx with hx | rfl
   · exact h.ahead x hx
   · exact h.ahead e (List.mem_of_getElem? he)
theorem SRel.del {m:List (ByteArray × Int)} {l:List SEnt} {clock:Nat} (h:SRel m l clock) {i:Nat} {e:SEnt} (he:l[i]?=some e):SRel (delS m e.1.1) (l.eraseIdx i) clock:=by
 rw [List.eraseIdx_eq_take_drop_succ]
 refine ⟨h.others he,?_,fun x hx=>?_,Zjm h.keys _⟩
 · rw [List.map_append]
   have:=h.born
   rw [Zh8 he,List.map_append,List.map_cons] at this
   exact List.Nodup.sublist (List.Sublist.append_left (List.sublist_cons_self _ _) _) this
 · rcases List.mem_append.1 hx with hx | hx
   · exact h.ahead x (List.mem_of_mem_take hx)
   · exact h.ahead x (List.mem_of_mem_drop hx)
theorem SRel.len {m:List (ByteArray × Int)} {l:List SEnt} {clock:Nat} (h:SRel m l clock):l.length=m.length:=by
 have:=h.perm.length_eq
 rwa [List.length_map] at this
theorem Zmt {l:List SEnt} {i:Nat} {e:SEnt} (he:l[i]?=some e) (n:Int):(l.map ent).toArray.modify i (fun x=>{ x with key:=.string e.1.1,val:=.int .i64 n })=((l.set i ((e.1.1,n),e.2)).map ent).toArray:=by
 apply Array.ext'
 rw [Array.toList_modify]
 apply List.ext_getElem?
 intro k
 simp only [List.getElem?_modify,List.getElem?_map,List.getElem?_set]
 obtain ⟨hil,he2⟩:=List.getElem?_eq_some_iff.1 he
 by_cases hk:i=k
 · subst hk
   simp [hil,ent,he2]
 · simp [hk]
theorem Zo1 {m : List (ByteArray × Int)} {k : ByteArray} {n : Int} {b clock : Nat} {l : List SEnt} {g : G} (hm : P.underlying mt = some (.map kt et)) (hk : P.underlying kt = some .string) (h : Zft g b m l clock) :
   ∃ l' clock',(Instr.mapUpdate mt (.map (some b)) (.string k) (.int .i64 n)).run P g.w=.ok () (World.put g.w b (.map (l'.map ent).toArray clock')) ∧ SRel (setS m k n) l' clock':=by
 obtain ⟨h1,h2,h3⟩:=h
 have hc':(Instr.checkKey false 10000 kt (.string k)).run P g.w=.ok () g.w:=MapKept.run_checkKey (k:=.string k) hk (isKS k) _ 9999
 rcases Zif (k:=k) l 0 with ⟨j,e,k1,k2,k3⟩ | ⟨k1,k2⟩
 · rw [Nat.zero_add] at k3
   subst k2
   refine ⟨_,clock,?_,h3.set k1 n⟩
   have hky:(((l.map ent).toArray[j]?).map (·.key)).getD (Value.string e.1.1)=.string e.1.1:=by
     simp [k1,ent]
   have hst:(Instr.keyThatStays (.string e.1.1) (.string e.1.1)).run P g.w=.ok (.string e.1.1) g.w:=MapKept.run_keyThatStays (isKS _)
   rw [← Zmt k1 n]
   simp only [Instr.mapUpdate,Sem.run_bind,run_underlying hm,Result.andThen_ok,MapKept.run_getObj_map h2,hc',List.toList_toArray,MapKept.run_findKey hk k3,hky,hst,MapKept.run_setObj_map _ h2]
   rfl
 · refine ⟨_,clock + 1,?_,h3.push k2 n⟩
   simp only [Instr.mapUpdate,Sem.run_bind,run_underlying hm,Result.andThen_ok,MapKept.run_getObj_map h2,hc',List.toList_toArray,MapKept.run_findKey hk k1,MapKept.run_setObj_map _ h2]
   simp [World.put,ent]
theorem Ziw {s:Nat} {m:List (ByteArray × Int)} {k:ByteArray} {n:Int} (hm:P.underlying mt=some (.map kt et)) (hk:P.underlying kt=some .string) (hop:o.op=.mapUpdate mt x y z) (hd:o.dst=none) (hs:Opd uses (.tmp s) (Zb4 j m)) (hx:Opd uses x (Zb4 j m)) (hy:Opd uses y (pStr k)) (hz:Opd uses z (pInt .i64 n)):OB P N o uses [(s,Zb4 j (setS m k n))] [j + 1] :=
 Zf0 hd fun a g hh=>by
   obtain ⟨b,l,clock,hv,h2,h3,h5,hat⟩:=hs a g hh
   obtain ⟨b2,l2,clock2,hv2,h22,h32,h52,hat2⟩:=hx a g hh
   obtain rfl:=h3 b2 hat2.1 h22
   have hky:=Zdz.1 (hy a g hh)
   have hn:=Zci.1 (hz a g hh)
   obtain ⟨l',clock',hr,hrel⟩:=Zo1 (n:=n) (k:=k) hm hk hat
   have hst:Step [j + 1] g (g.putO b2 (.map (l'.map ent).toArray clock') h5):=by have:=Zhl (ob:=.map (l'.map ent).toArray clock') h5;rw [h2] at this;exact this
   refine ⟨g.putO b2 (.map (l'.map ent).toArray clock') h5,by simp [execOp,hop,hv2,hky,hn,hr];rfl,hst,fun e he=>?_⟩
   rw [List.mem_singleton.1 he]
   exact ⟨b2,l',clock',hv,h2,fun b' hb' ho=>h3 b' (by have hb':b' < (World.put _ _ _).heap.size:=hb';rw [Zcm] at hb';exact hb') ho,h5,by show b2 < (World.put _ _ _).heap.size;rw [Zcm];exact hat.1,Zkw _ _ _ hat.1,hrel⟩
theorem Zoc {m : List (ByteArray × Int)} {k : ByteArray} {b clock : Nat} {l : List SEnt} {g : G} (hm : P.underlying mt = some (.map kt et)) (hk : P.underlying kt = some .string) (hz : (P.info? et).bind (·.zero) = some (.int .i64 0)) (h : Zft g b m l clock) :
   (Instr.lookup mt (.map (some b)) (.string k) false).run P g.w=.ok (.int .i64 ((getS m k).getD 0)) g.w:=by
 obtain ⟨h1,h3,h4⟩:=h
 have hc:∀ e w,(Instr.checkKey e 10000 kt (.string k)).run P w=.ok () w:=fun e w=>MapKept.run_checkKey (k:=.string k) hk (isKS k) _ 9999
 rcases Zif (k:=k) l 0 with ⟨j,e,k1,k2,k3⟩ | ⟨k1,k2⟩
 · have hg:getS m k=some e.1.2:=by rw [← k2];exact h4.get (List.mem_of_getElem? k1)
   rw [hg]
   simp [Instr.lookup,run_underlying hm,MapKept.run_getObj_map h3,hc,MapKept.run_findKey hk k3,Result.andThen]
 · have hg:getS m k=none:=h4.miss k2
   rw [hg]
   simp [Instr.lookup,run_underlying hm,MapKept.run_getObj_map h3,hc,MapKept.run_findKey hk k1,Zh3 hz,Result.andThen]
theorem Zk9 {m:List (ByteArray × Int)} {k:ByteArray} (hm:P.underlying mt=some (.map kt et)) (hk:P.underlying kt=some .string) (hz:(P.info? et).bind (·.zero)=some (.int .i64 0)) (hop:o.op=.lookup mt x y false) (hd:o.dst=some d) (hx:Opd uses x (Zb4 j m)) (hy:Opd uses y (pStr k)):OB P N o uses [(d,pInt .i64 ((getS m k).getD 0))] [] :=
 Zbd hd fun a g hh=>by
   have hn:=Zdz.1 (hy a g hh)
   obtain ⟨b,l,clock,hv,h2,h3,h5,hat⟩:=hx a g hh
   exact ⟨_,by simp [execOp,hop,hv,hn,Zoc hm hk hz hat],Zds _ _ g⟩
theorem Zn0 {m:List (ByteArray × Int)} {k:ByteArray} (h:∀ e ∈ m,e.1 ≠ k):delS m k=m:=List.filter_eq_self.2 fun e he=>by simpa using h e he
theorem SRel.noDel {m:List (ByteArray × Int)} {l:List SEnt} {clock:Nat} (h:SRel m l clock) {k:ByteArray} (hk:∀ e ∈ l,e.1.1 ≠ k):delS m k=m:=Zn0 fun e he=>by
 obtain ⟨e2,h1,rfl⟩:=List.mem_map.1 (h.perm.mem_iff.2 he)
 exact hk e2 h1
theorem Zn3 {l:List SEnt} {i:Nat} (hi:i < l.length):(l.map ent).toArray.eraseIdxIfInBounds i=((l.eraseIdx i).map ent).toArray:=by
 apply Array.ext'
 rw [Array.eraseIdxIfInBounds,dif_pos (by simpa using hi),Array.toList_eraseIdx]
 rw [List.toList_toArray,List.toList_toArray,List.eraseIdx_eq_take_drop_succ,List.eraseIdx_eq_take_drop_succ,List.map_append,List.map_take,List.map_drop]
theorem Zk4 {m : List (ByteArray × Int)} {k : ByteArray} {b clock : Nat} {l : List SEnt} {g : G} {ty : TypeId} {tys : Array TypeId} (ht : tys[0]? = some mt) (hm : P.underlying mt = some (.map kt et)) (hk : P.underlying kt = some .string) (h : Zft g b m l clock) :
   ∃ l',(Builtin.delete_ tys ty #[.map (some b),.string k]).run P g.w=.ok (.tuple #[]) (World.put g.w b (.map (l'.map ent).toArray clock)) ∧ SRel (delS m k) l' clock:=by
 obtain ⟨h1,h2,h3⟩:=h
 have hc:∀ e w,(Instr.checkKey e 10000 kt (.string k)).run P w=.ok () w:=fun e w=>MapKept.run_checkKey (k:=.string k) hk (isKS k) _ 9999
 rcases Zif (k:=k) l 0 with ⟨j,e,k1,k2,k3⟩ | ⟨k1,k2⟩
 · rw [Nat.zero_add] at k3
   subst k2
   refine ⟨_,?_,h3.del k1⟩
   rw [← Zn3 (List.getElem?_eq_some_iff.1 k1).1]
   simp [Builtin.delete_,ht,run_underlying hm,MapKept.run_getObj_map h2,hc,MapKept.run_findKey hk k3,MapKept.run_setObj_map _ h2,Result.andThen,World.put]
 · refine ⟨l,?_,by rw [h3.noDel k2];exact h3⟩
   simp [Builtin.delete_,ht,run_underlying hm,MapKept.run_getObj_map h2,hc,MapKept.run_findKey hk k1,MapKept.run_setObj_map _ h2,Result.andThen,World.put]
theorem Zpf {S:List Nat} {outs:Zf} (hd:o.dst=none) (h:∀ (a:Act) g,Zby uses a g → ∃ v g',(execOp a.eval o).run P g.w=.ok (.value v) g'.w ∧ Step S g g' ∧ ∀ e ∈ outs,e.2.p g' (Act.at a e.1)):OB P N o uses outs S:=by
 intro a g K Q hN hdN hu hK
 obtain ⟨v,g',hr,hs,hq⟩:=h a g hu
 unfold Oper.wp
 rw [hr]
 refine hK v g' hs fun e he=>?_
 rw [hd]
 exact hq e he
theorem Zo5 {m:List (ByteArray × Int)} (hm:P.underlying mt=some (.map kt et)) (hop:o.op=.call { callee:=.builtin .len,args:=#[x],argTypes:=#[mt] }) (hd:o.dst=some d) (hx:Opd uses x (Kd.mapS.pd m)):OB P N o uses [(d,pInt .i64 (m.length:Int))] [] :=
 Zbd hd fun a g hh=>by
   obtain ⟨cs,hK,hv⟩:=hx a g hh
   rcases hK with ⟨rfl,rfl⟩ | ⟨b,l,clock,rfl,h1,h2,h3,h4⟩
   · have hv:a.eval x=.map none:=hv
     exact ⟨.int .i64 0,by simp [execOp,hop,resolve,invoke,builtin,Builtin.len_,run_underlying hm,hv,goInt],Zds _ _ g⟩
   · have hv:a.eval x=.map (some b):=hv
     rw [← h4.len]
     exact ⟨.int .i64 (l.length:Int),by simp [execOp,hop,resolve,invoke,builtin,Builtin.len_,run_underlying hm,hv,goInt,MapKept.run_getObj_map h3,Result.andThen],Zds _ _ g⟩
structure IterAt (g:G) (j r:Nat) (seen:Array Nat) (l:List SEnt) (b clock:Nat):Prop where
 lt:r < g.w.heap.size
 own:g.own r=j + 1
 uniq:∀ b',b' < g.w.heap.size → g.own b'=j + 1 → b'=r
 npr:∀ o,¬ g.pr r o
 it:g.w.heap[r]?=some (.mapIter (some b) clock seen clock)
 pr:∀ o,g.pr b o
 blt:b < g.w.heap.size
 map:g.w.heap[b]?=some (.map (l.map ent).toArray clock)
 ahead:∀ e ∈ l,e.2 < clock
 born:(l.map (·.2)).Nodup
theorem IterAt.st {g g':G} {S:List Nat} {r:Nat} {seen:Array Nat} {l:List SEnt} {b clock:Nat} (h:IterAt g j r seen l b clock) (st:Step S g g') (hj:j + 1 ∉ S):IterAt g' j r seen l b clock:=by
 obtain ⟨k1,k2,k3⟩:=st.same r h.lt (by rw [h.own];exact hj)
 exact ⟨Nat.lt_of_lt_of_le h.lt st.le.size,k3.trans h.own,Zgo st hj (by omega) h.uniq,fun o=>by rw [k2];exact h.npr o,k1.trans h.it,fun o=>st.le.pr _ _ (h.pr o),Nat.lt_of_lt_of_le h.blt st.le.size,(st.le.blk b h.pr).trans h.map,h.ahead,h.born⟩
def Zed (seen:Array Nat) (l:List SEnt):List SEnt:=l.filter fun e=>!seen.contains e.2
def Zgl (j:Nat) (left:List (ByteArray × Int)):Pd where
 p:=fun g u=>∃ r,u=.pointer (some ⟨r,0,none⟩) ∧ ((left=[] ∧ r < g.w.heap.size ∧ g.own r=j + 1 ∧ g.w.heap[r]?=some (.mapIter none 0 #[] 0)) ∨ ∃ seen l b clock,IterAt g j r seen l b clock ∧ ((Zed seen l).map (·.1)).Perm left)
 fp:=[j + 1]
 st:=fun {S g g' v} st hd ⟨r,e,h⟩=>by
   have hj:j + 1 ∉ S:=hd _ (by simp)
   rcases h with ⟨hl,h1,h2,h3⟩ | ⟨seen,l,b,clock,h,hp⟩
   · obtain ⟨k1,k2,k3⟩:=st.same r h1 (by rw [h2];exact hj)
     exact ⟨r,e,.inl ⟨hl,Nat.lt_of_lt_of_le h1 st.le.size,k3.trans h2,k1.trans h3⟩⟩
   · exact ⟨r,e,.inr ⟨seen,l,b,clock,h.st st hj,hp⟩⟩
def Zdi (j:Nat) (kn:ByteArray × Int) (left:List (ByteArray × Int)):Pd where
 p:=fun g u=>∃ (r:Nat) (seen:Array Nat) (l:List SEnt) (b clock:Nat) (e:SEnt),u=.pointer (some ⟨r,0,none⟩) ∧ IterAt g j r (seen.push e.2) l b clock ∧ e ∈ l ∧ e.1=kn ∧ ((Zed (seen.push e.2) l).map (·.1)).Perm left
 fp:=[j + 1]
 st:=fun {S g g' v} st hd ⟨r,seen,l,b,clock,e,h1,h2,h3,h4,h5⟩=>⟨r,seen,l,b,clock,e,h1,h2.st st (hd _ (by simp)),h3,h4,h5⟩
theorem Zgj {kn:ByteArray × Int} {left:List (ByteArray × Int)} {g:G} {v:Value} (h:(Zdi j kn left).p g v):(Zgl j left).p g v:=by
 obtain ⟨r,seen,l,b,clock,e,h1,h2,h3,h4,h5⟩:=h
 exact ⟨r,h1,.inr ⟨_,l,b,clock,h2,h5⟩⟩
theorem Zk0 {m:List (ByteArray × Int)} (hm:P.underlying mt=some (.map kt et)) (hop:o.op=.range mt x) (hd:o.dst=some d) (hx:Opd uses x (Kd.mapS.pd m)):OB P N o uses [(d,Zgl j m)] [j + 1] :=
 Zdc hd fun a g hh=>by
   obtain ⟨cs,hK,hv⟩:=hx a g hh
   rcases hK with ⟨rfl,rfl⟩ | ⟨b,l,clock,rfl,h1,h2,h3,h4⟩
   · have hv:a.eval x=.map none:=hv
     refine ⟨.pointer (some ⟨g.w.heap.size,0,none⟩),g.pushO (.mapIter none 0 #[] 0) (j + 1),?_,Zfb ..,g.w.heap.size,rfl,.inl ⟨rfl,?_,?_,Zcn _ _⟩⟩
     · simp [execOp,hop,Instr.range,run_underlying hm,hv,newObj,Sem.run];rfl
     · show _ < (g.w.alloc _).heap.size;rw [Zbh];omega
     · simp [G.pushO]
   · have hv:a.eval x=.map (some b):=hv
     refine ⟨.pointer (some ⟨g.w.heap.size,0,none⟩),g.pushO (.mapIter (some b) clock #[] clock) (j + 1),?_,Zfb ..,g.w.heap.size,rfl,.inr ⟨#[],l,b,clock,⟨?_,?_,fun b' hb' ho=>?_,fun o h=>?_,Zcn _ _,h1,?_,?_,h4.ahead,h4.born⟩,?_⟩⟩
     · simp [execOp,hop,Instr.range,run_underlying hm,hv,MapKept.run_getObj_map h3,Result.andThen,newObj,Sem.run];rfl
     · show _ < (g.w.alloc _).heap.size;rw [Zbh];omega
     · simp [G.pushO]
     · simp only [G.pushO] at ho
       split at ho
       · assumption
       · split at ho
         · omega
         · rename_i hne;exact absurd ho hne
     · exact absurd (g.hpr _ _ h) (by omega)
     · show b < (g.w.alloc _).heap.size;rw [Zbh];omega
     · exact (Zc9 g.w _ h2).trans h3
     · have:Zed #[] l=l:=List.filter_eq_self.2 fun e _=>by simp
       rw [this];exact h4.perm
theorem Zoz {L:List SEnt} (hn:(L.map (·.2)).Nodup) {e:SEnt} (he:e ∈ L):L.Perm (e :: L.filter fun x=>decide (x.2 ≠ e.2)):=by
 obtain ⟨A,B,rfl⟩:=List.append_of_mem he
 rw [List.map_append,List.map_cons] at hn
 obtain ⟨n1,n2,n3⟩:=List.nodup_append.1 hn
 obtain ⟨n4,n5⟩:=List.nodup_cons.1 n2
 have f1:A.filter (fun x=>decide (x.2 ≠ e.2))=A:=List.filter_eq_self.2 fun x hx=>by
   have:=n3 x.2 (List.mem_map.2 ⟨x,hx,rfl⟩) e.2 (List.mem_cons_self ..)
   simpa using this
 have f2:B.filter (fun x=>decide (x.2 ≠ e.2))=B:=List.filter_eq_self.2 fun x hx=>by
   have:x.2 ≠ e.2:=fun h=>n4 (by rw [← h];exact List.mem_map.2 ⟨x,hx,rfl⟩)
   simpa using this
 rw [List.filter_append,List.filter_cons_of_neg (by simp),f1,f2]
 exact List.perm_middle
theorem Zme {seen:Array Nat} {l:List SEnt} (hn:(l.map (·.2)).Nodup) {e:SEnt} (he:e ∈ Zed seen l):(Zed seen l).Perm (e :: Zed (seen.push e.2) l):=by
 have h1:((Zed seen l).map (·.2)).Nodup:=List.Nodup.sublist (List.Sublist.map _ List.filter_sublist) hn
 have h2:Zed (seen.push e.2) l=(Zed seen l).filter fun x=>decide (x.2 ≠ e.2):=by
   unfold Zed
   rw [List.filter_filter]
   congr 1
   funext x
   by_cases hx:x.2=e.2
   · simp [hx]
   · simp [hx]
 rw [h2]
 exact Zoz h1 he
theorem Ziu (seen:Array Nat) (l:List SEnt):(leftOf (l.map ent).toArray seen).toList=(Zed seen l).map ent:=by
 unfold leftOf Zed
 rw [Array.toList_filter,List.toList_toArray,List.filter_map]
 rfl
def pItP (j:Nat):Pd where
 p:=fun g u=>∃ r,u=.pointer (some ⟨r,0,none⟩) ∧ r < g.w.heap.size ∧ g.own r=j + 1
 fp:=[j + 1]
 st:=fun {S g g' v} st hd ⟨r,e,h1,h2⟩=>by
   obtain ⟨k1,k2,k3⟩:=st.same r h1 (by rw [h2];exact hd _ (by simp))
   exact ⟨r,e,Nat.lt_of_lt_of_le h1 st.le.size,k3.trans h2⟩
def Zhh (j:Nat) (left:List (ByteArray × Int)):Pd where
 p:=fun g u=>(u=.tuple #[.bool false] ∧ left=[]) ∨ ∃ kn left' w,u=.tuple #[.bool true,.string kn.1,.int .i64 kn.2] ∧ left.Perm (kn :: left') ∧ (Zdi j kn left').p g w
 fp:=[j + 1]
 st:=fun {S g g' v} st hd h=>h.imp id fun ⟨kn,left',w,h1,h2,h3⟩=>⟨kn,left',w,h1,h2,(Zdi j kn left').st st hd h3⟩
def Znm (j:Nat) (left:List (ByteArray × Int)):Pd where
 p:=fun g u=>(u=.bool false ∧ left=[]) ∨ ∃ kn left' w,u=.bool true ∧ left.Perm (kn :: left') ∧ (Zdi j kn left').p g w
 fp:=[j + 1]
 st:=fun {S g g' v} st hd h=>h.imp id fun ⟨kn,left',w,h1,h2,h3⟩=>⟨kn,left',w,h1,h2,(Zdi j kn left').st st hd h3⟩
theorem Zl1 {s:Nat} {left:List (ByteArray × Int)} (hsd:s ≠ d) (hop:o.op=.next (.tmp s) false) (hd:o.dst=some d) (hx:Opd uses (.tmp s) (Zgl j left)):OB P N o uses [(d,Zhh j left),(s,pItP j)] [j + 1]:=by
 intro a g K Q hN hdN hu hK
 obtain ⟨r,hv,h⟩:=hx a g hu
 have fin:∀ (v:Value) (g':G),(execOp a.eval o).run P g.w=.ok (.value v) g'.w → Step [j + 1] g g' → (Zhh j left).p g' v → (r < g'.w.heap.size ∧ g'.own r=j + 1) → o.wp P a g.w K Q:=fun v g' hr hs hq hp=>by
   unfold Oper.wp
   rw [hr]
   refine hK v g' hs fun e he=>?_
   rcases List.mem_cons.1 he with rfl | he
   · rw [hd,Zcf v (by rw [hN];exact hdN d hd)]
     exact hq
   · rw [List.mem_singleton.1 he]
     show (pItP j).p g' (Act.at (a.put o.dst v) s)
     rw [Zea v (by rw [hd];simp;exact fun h=>hsd h.symm)]
     exact ⟨r,hv,hp⟩
 rcases h with ⟨hl,h1,h2,h3⟩ | ⟨seen,l,b,clock,hI,hp⟩
 · refine fin (.tuple #[.bool false]) g ?_ (.refl _ _) (.inl ⟨rfl,hl⟩) ⟨h1,h2⟩
   simp [execOp,hop,hv,Instr.next,getObj,Sem.run,h3,Result.andThen]
 · have hold : ∀ x ∈ (l.map ent).toArray.toList, x.born < clock := fun x hx => by
     rw [List.toList_toArray] at hx
     obtain ⟨e,he,rfl⟩:=List.mem_map.1 hx
     exact hI.ahead e he
   rcases run_next_at (P:=P) g.w o.type r b clock clock seen (l.map ent).toArray clock hI.it hI.map hold (Nat.le_refl _) with ⟨h0,hr⟩ | ⟨e,he,w1,hw1,hr⟩
   · have hnil : Zed seen l = [] := by
       have:(leftOf (l.map ent).toArray seen).toList=[]:=by
         rw [← List.length_eq_zero_iff,Array.length_toList];exact h0
       rw [Ziu] at this
       exact List.map_eq_nil_iff.1 this
     rw [hnil] at hp
     refine fin (.tuple #[.bool false]) g ?_ (.refl _ _) (.inl ⟨rfl,List.nil_perm.1 hp⟩) ⟨hI.lt,hI.own⟩
     simp [execOp,hop,hv,hr]
   · rw [Ziu] at he
     obtain ⟨e0,he0,rfl⟩:=List.mem_map.1 he
     have hel:e0 ∈ l:=(List.mem_filter.1 he0).1
     have hperm:=Zme hI.born he0
     have go:∀ g1:G,g1.w=w1 → Step [] g g1 → o.wp P a g.w K Q:=fun g1 hw hs1=>by
       have hI1:=hI.st hs1 (by simp)
       have hs2:=Zhl (ob:=.mapIter (some b) clock (seen.push e0.2) clock) hI1.npr
       rw [hI1.own] at hs2
       have hst:Step [j + 1] g (g1.putO r (.mapIter (some b) clock (seen.push e0.2) clock) hI1.npr):=(hs1.sub (by simp)).trans hs2
       have hbr:b ≠ r:=fun h=>hI1.npr 0 (h ▸ hI1.pr 0)
       refine fin (.tuple #[.bool true,.string e0.1.1,.int .i64 e0.1.2]) _ ?_ hst (.inr ⟨e0.1,_,.pointer (some ⟨r,0,none⟩),rfl,?_,r,seen,l,b,clock,e0,rfl,⟨?_,hI1.own,fun b' hb' ho=>hI1.uniq b' (by have hb':b' < (World.put _ _ _).heap.size:=hb';rw [Zcm] at hb';exact hb') ho,hI1.npr,Zkw _ _ _ hI1.lt,hI1.pr,?_,(Ze4 _ _ _ hbr).trans hI1.map,hI1.ahead,hI1.born⟩,hel,rfl,.refl _⟩) ⟨?_,hI1.own⟩
       · have : (execOp a.eval o).run P g.w = .ok (.value (.tuple #[.bool true, .string e0.1.1, .int .i64 e0.1.2])) (ChangeMaps.setBlock w1 r (.mapIter (some b) clock (seen.push e0.2) clock)) := by
           simp [execOp,hop,hv,hr,ent]
         rw [this,← hw]
         rfl
       · exact hp.symm.trans (by have:=hperm.map (·.1);rwa [List.map_cons] at this)
       · show r < (World.put _ _ _).heap.size;rw [Zcm];exact hI1.lt
       · show b < (World.put _ _ _).heap.size;rw [Zcm];exact hI1.blt
       · show r < (World.put _ _ _).heap.size;rw [Zcm];exact hI1.lt
     rcases hw1 with rfl | rfl
     · exact go g rfl (.refl _ _)
     · exact go g.drew rfl (Step.drew g)
theorem Zkb {left:List (ByteArray × Int)} (hop:o.op=.extract x 0) (hd:o.dst=some d) (hx:Opd uses x (Zhh j left)):OB P N o uses [(d,Znm j left)] [] :=
 Zbd hd fun a g hh=>by
   rcases hx a g hh with ⟨hv,hl⟩ | ⟨kn,left',w,hv,h2,h3⟩
   · exact ⟨.bool false,by simp [execOp,hop,hv,Instr.extract],.inl ⟨rfl,hl⟩⟩
   · exact ⟨.bool true,by simp [execOp,hop,hv,Instr.extract],.inr ⟨kn,left',w,rfl,h2,h3⟩⟩
theorem Znb {kn:ByteArray × Int} {left:List (ByteArray × Int)} {g:G} {v w:Value} (h:(pItP j).p g v) (h2:(Zdi j kn left).p g w):(Zdi j kn left).p g v:=by
 obtain ⟨r,e,h1,h3⟩:=h
 obtain ⟨r2,seen,l,b,clock,e0,k1,k2,k3⟩:=h2
 obtain rfl:=k2.uniq r h1 h3
 exact ⟨r,seen,l,b,clock,e0,e,k2,k3⟩
theorem Zi5 {L:Zf} {i:Nat} {x e:Nat × Pd} (h:e ∈ L.set i x):e ∈ L ∨ e=x:=List.mem_or_eq_of_mem_set h
theorem Zic {a : Act} {g : G} {L : Zf} {i1 i2 s1 s2 : Nat} {left : List (ByteArray × Int)} (h1 : L[i1]? = some (s1, Znm j left)) (h2 : L[i2]? = some (s2, pItP j)) (h : St N L a g) :
   (left=[] ∧ St N (L.set i1 (s1,Zn false)) a g) ∨ ∃ kn left',left.Perm (kn :: left') ∧ St N ((L.set i1 (s1,Zn true)).set i2 (s2,Zdi j kn left')) a g:=by
 rcases h.h _ (List.mem_of_getElem? h1) with ⟨hv,hl⟩ | ⟨kn,left',w,hv,h3,h4⟩
 · refine .inl ⟨hl,h.size,h.df,fun e he=>?_⟩
   rcases Zi5 he with he | rfl
   · exact h.h e he
   · exact Zcw.2 hv
 · refine .inr ⟨kn,left',h3,h.size,h.df,fun e he=>?_⟩
   rcases Zi5 he with he | rfl
   · rcases Zi5 he with he | rfl
     · exact h.h e he
     · exact Zcw.2 hv
   · exact Znb (h.h _ (List.mem_of_getElem? h2)) h4
theorem Zkz {kn:ByteArray × Int} {left:List (ByteArray × Int)} (hop:o.op=.entry x) (hd:o.dst=some d) (hx:Opd uses x (Zdi j kn left)):OB P N o uses [(d,pTup [pStr kn.1,pInt .i64 kn.2])] [] :=
 Zbd hd fun a g hh=>by
   obtain ⟨r,seen,l,b,clock,e,hv,hI,he,rfl,hp⟩:=hx a g hh
   have hbn:(((l.map ent).toArray.toList).map (·.born)).Nodup:=by
     rw [List.toList_toArray,List.map_map]
     exact hI.born
   have hr:=run_entry_at (P:=P) g.w r b clock seen (l.map ent).toArray clock (ent e) hI.it hI.map (by rw [List.toList_toArray];exact List.mem_map.2 ⟨e,he,rfl⟩) hbn
   refine ⟨.tuple #[.string e.1.1,.int .i64 e.1.2],by simp [execOp,hop,hv,hr,ent],Zrg (Zdz.2 rfl) (Zds _ _ g)⟩
end
section
variable {P:Program} {N:Nat} {o:Oper} {uses outs:Zf} {S:List Nat} {d:Nat} {q:Pd} {x y z:Operand} {α β γ:Type} {kV:Kd γ} {raw:α → SlV → γ} {lst:α → List β} {k:Kd α} {dk:Kd β} {t e j:Nat} {bytes:Nat}
def G.lend (g:G) (D:Nat → Prop) (hD:∀ c,D c → c < g.w.heap.size):G:=⟨g.w,fun b o=>g.pr b o ∨ D b,g.own,fun b o h=>h.elim (g.hpr b o) (hD b),g.gl.le (fun _ _ h=>.inl h) (fun _ _ _=>rfl)⟩
theorem Zll (g:G) (D:Nat → Prop) (hD:∀ c,D c → c < g.w.heap.size):g.le (g.lend D hD):=⟨Nat.le_refl _,fun _ _ h=>.inl h,fun _ _ _=>rfl,fun _ _=>rfl,Nat.le_refl _⟩
theorem Zjy {g g':G} {D:Nat → Prop} {hD:∀ c,D c → c < g.w.heap.size} (hn:∀ c,D c → ∀ o,¬ g.pr c o) (hs:Step [] (g.lend D hD) g'):∃ g2:G,g2.w=g'.w ∧ (∀ b o,g2.pr b o ↔ g'.pr b o ∧ ¬ D b) ∧ Step [] g g2:=by
 let g2:G:=⟨g'.w,fun b o=>g'.pr b o ∧ ¬ D b,g'.own,fun b o h=>g'.hpr b o h.1,fun en hen i v hv=>by
   obtain ⟨k1,k2⟩:=g'.gl en hen i v hv
   exact ⟨⟨k1,fun h=>hn _ h i (g.gl en hen i v hv).1⟩,k2⟩⟩
 refine ⟨g2,rfl,fun _ _=>Iff.rfl,⟨⟨hs.le.size,fun b o h=>⟨hs.le.pr b o (.inl h),fun h'=>hn b h' o h⟩,fun b o h=>hs.le.cell b o (.inl h),fun b h=>hs.le.blk b (fun o=>.inl (h o)),hs.le.dr⟩,hs.os,hs.tape,hs.output,fun b hb hn'=>?_,hs.new,hs.old⟩⟩
 obtain ⟨k1,k2,k3⟩:=hs.same b hb hn'
 refine ⟨k1,?_,k3⟩
 funext o
 show (g'.pr b o ∧ ¬ D b)=g.pr b o
 rw [k2]
 show ((g.pr b o ∨ D b) ∧ ¬ D b)=g.pr b o
 have:=fun h=>hn b h o
 by_cases h:D b <;> simp [h,this]
def FnL (P:Program) (f:FuncId) (A:List Pd) (q:Pd):Prop:=∀ (g:G) (args:List Value),ArgsOk A g args →
 Calls P f args.toArray g.w (fun en w'=>∃ g' v,en=.returned v ∧ w'=g'.w ∧ Step [] g g' ∧ ∀ g2:G,g2.w=g'.w → (∀ b o,g.w.heap.size ≤ b → g'.pr b o → g2.pr b o) → q.p g2 v)
theorem FnL.ok {f:FuncId} {A:List Pd} (h:FnL P f A q):FnOk P f A q:=fun g args ha=>Calls.mono (h g args ha) fun en w' ⟨g',v,h1,h2,h3,h4⟩=>⟨g',v,h1,h2,h3,h4 g' rfl (fun _ _ _ h=>h)⟩
theorem FnL.of {f:FuncId} {A:List Pd} (h:FnOk P f A q) (hq:∀ (g g':G) (v:Value),q.p g v → q.p g' v):FnL P f A q:=fun g args ha=>Calls.mono (h g args ha) fun en w' ⟨g',v,h1,h2,h3,h4⟩=>⟨g',v,h1,h2,h3,fun g2 _ _=>hq _ _ _ h4⟩
end
section
variable {P:Program} {N:Nat} {o:Oper} {uses outs:Zf} {S:List Nat} {d:Nat} {q:Pd} {x y z:Operand} {α β γ δ:Type} {kV:Kd γ} {raw:α → SlV → γ} {lst:α → List β} {k:Kd α} {dk:Kd β} {t e j jl:Nat} {bytes:Nat} {xv:α}
theorem Zgd {xt:Nat} {xs vs:List β} (hT:TE P t e dk bytes) (hop:o.op=.call { callee:=.builtin .append,args:=#[.tmp xt,y],argTypes:=#[t,t] }) (hd:o.dst=some d) (hx:Opd uses (.tmp xt) (pArr dk e j xs)) (hy:Opd uses y (dk.sl.pd vs)) (hpos:0 < vs.length) (hl:(xs.length + vs.length) * bytes ≤ 140737488355328):OB P N o uses [(d,pArr dk e j (xs ++ vs))] [j + 1] :=
 OB.at fun a g hh=>by
   have hA:∀ (ys:List β) g (a:Act),Zby [(d,pOwn dk e j none (ys.map some))] a g → Zby [(d,pArr dk e j ys)] a g:=fun ys g a h en he=>by
     rw [List.mem_singleton.1 he]
     obtain ⟨b,cap,cur,hv,hO,_⟩:=h (d,pOwn dk e j none (ys.map some)) (List.mem_singleton.2 rfl)
     exact .inr ⟨b,cap,cur,by simpa using hv,hO⟩
   rcases hx a g hh with ⟨rfl,A,hv⟩ | ⟨b,cap,cur,hv,hO⟩
   · refine ⟨(xt,pEq (.slice A 0 0)) :: uses,fun en he=>?_,(Zmf (j:=j) (A:=A) (vs:=vs) hT hop hd .t0 (.tl hy) hpos (by simpa using hl)).weak (hA vs)⟩
     rcases List.mem_cons.1 he with rfl | he
     · exact hv
     · exact hh en he
   · refine ⟨(xt,pOwn dk e j none (xs.map some)) :: uses,fun en he=>?_,(Zmn (c:=none) (j:=j) (xs:=xs) (vs:=vs) hT hop hd .t0 (.tl hy) hl).weak (hA (xs ++ vs))⟩
     rcases List.mem_cons.1 he with rfl | he
     · have hv:Act.at a xt=.slice (some ⟨b,0,none⟩) xs.length cap:=hv
       exact ⟨b,cap,cur,by simpa using hv,hO,fun k hk=>by cases hk⟩
     · exact hh en he
end
end Go.CL
namespace Go.CL
open Go Go.RowKit Go.Shelf
section
variable {P:Program} {N:Nat} {o:Oper} {uses outs:Zf} {S:List Nat} {d:Nat} {q:Pd} {x y z:Operand} {β:Type} {dk:Kd β} {t e j:Nat}
structure Enc (dk:Kd β) (enc:β → List Value):Prop where
 K:∀ g x cs,dk.K g x cs ↔ cs=enc x
 len:∀ x,(enc x).length=dk.sz
 one:∀ x,∀ v ∈ enc x,v.oneCell'=true
theorem Zq5 {W w':World} (h1:W.heap.size ≤ w'.heap.size) (h2:∀ b,b < W.heap.size → w'.heap[b]?=W.heap[b]?) (h3:w'.os=W.os) (h4:w'.tape=W.tape) (h5:w'.output=W.output) (h6:W.drawn ≤ w'.drawn):∃ q os',w'=Go.Sort.grow (W.drewN q) os':=by
 refine ⟨w'.drawn - W.drawn,w'.heap.extract W.heap.size w'.heap.size,?_⟩
 have hh:w'.heap=W.heap ++ w'.heap.extract W.heap.size w'.heap.size:=by
   apply Array.ext_getElem?
   intro k
   rw [Array.getElem?_append]
   split
   · rename_i hk;exact h2 k hk
   · rename_i hk
     rw [Array.getElem?_extract]
     split
     · congr 1;omega
     · rename_i h;exact Array.getElem?_eq_none (by omega)
 have hd:W.drawn + (w'.drawn - W.drawn)=w'.drawn:=by omega
 unfold Go.Sort.grow World.drewN
 rw [← hh,hd,← h3,← h4,← h5]
theorem Zgk [Inhabited β] (enc:β → List Value) (k:Nat) (w:World) (blk off m:Nat) (d:Array β) (os:Array Obj):(Go.Proofs.sortWorldK enc k w blk off m d os).heap.size=w.heap.size + os.size:=by
 simp [Go.Proofs.sortWorldK,Go.Sort.putRowK,Go.Sort.ahead]
theorem Ze1 [Inhabited β] (enc:β → List Value) (k:Nat) (w:World) (blk off m:Nat) (d:Array β) (os:Array Obj) {b:Nat} (hb:b < w.heap.size) (hne:b ≠ blk):(Go.Proofs.sortWorldK enc k w blk off m d os).heap[b]?=w.heap[b]?:=by
 show ((w.heap.modify blk _) ++ os)[b]?=_
 rw [Array.getElem?_append,if_pos (by simpa using hb),Array.getElem?_modify,if_neg (Ne.symm hne)]
theorem Zpp [Inhabited β] (enc:β → List Value) (k:Nat) (w:World) (blk m:Nat) (d:Array β) (os:Array Obj) {cur:Array Value} {e:TypeId} {fr:Nat × Nat} (hb:w.heap[blk]?=some (.cells cur e fr)):(Go.Proofs.sortWorldK enc k w blk 0 m d os).heap[blk]?=some (.cells (Go.Sort.putCells id 0 (Go.Sort.flatK enc k d) cur) e fr):=by
 have hlt:blk < w.heap.size:=(Array.getElem?_eq_some_iff.1 hb).1
 show ((w.heap.modify blk _) ++ os)[blk]?=_
 rw [Array.getElem?_append,if_pos (by simpa using hlt),Array.getElem?_modify,if_pos rfl,hb]
 rfl
theorem Zl6 [Inhabited β] {enc:β → List Value} {cf:β → β → Int} {f:FuncId} {g:G} {blk size:Nat} (hag:dk.ag=true) (hE:Enc dk enc) (hok:∀ x y,FnOk P f [dk.pd x,dk.pd y] (pInt .i64 (cf x y))) (hnp:∀ o,¬ g.pr blk o):Go.Proofs.CmpLays P f #[] enc dk.sz cf blk 0 size g.w:=by
 intro m os dk' hsz x y
 have hcell:∀ b o,g.pr b o → (Go.Proofs.sortWorldK enc dk.sz g.w blk 0 m dk' os).cell? ⟨b,o,none⟩=g.w.cell? ⟨b,o,none⟩:=fun b o h=>by
   have hb:=g.hpr b o h
   have hne:b ≠ blk:=fun e=>hnp o (e ▸ h)
   exact Zcj (Ze1 _ _ _ _ _ _ _ _ hb hne)
 let gW:G:=⟨Go.Proofs.sortWorldK enc dk.sz g.w blk 0 m dk' os,g.pr,fun _=>0,fun b o h=>by rw [Zgk];have:=g.hpr b o h;omega,g.gl.le (fun _ _ h=>h) hcell⟩
 have hv:∀ u,(dk.pd u).p gW (.agg (enc u).toArray):=fun u=>⟨enc u,(hE.K gW u _).2 rfl,by rw [hag];rfl⟩
 rw [Array.append_empty]
 refine Calls.mono (hok x y gW [.agg (enc x).toArray,.agg (enc y).toArray] (Zdp (hv x) (Zdp (hv y) Zeu))) ?_
 rintro en w' ⟨g',v,rfl,rfl,hs,hq⟩
 refine ⟨by rw [Zci.1 hq],?_⟩
 exact Zq5 hs.le.size (fun b hb=>(hs.same b hb (fun h=>by cases h)).1) hs.os hs.tape hs.output hs.le.dr
theorem Zkf [Inhabited β] {enc:β → List Value} {k:Nat} (hk:∀ x,(enc x).length=k) {xs:List β} {i c:Nat} {x:β} (hi:xs[i]?=some x) (hc:c < k):(Go.Sort.flatK enc k xs.toArray)[i * k + c]! = (enc x)[c]!:=by
 have hil:i < xs.length:=(List.getElem?_eq_some_iff.1 hi).1
 have hlt:i * k + c < xs.toArray.size * k:=by
   have:=Nat.mul_le_mul_right k (show i + 1 ≤ xs.length from hil)
   rw [Nat.add_mul,Nat.one_mul] at this
   simp only [List.size_toArray];omega
 rw [Go.Sort.get_flatK _ _ _ _ hlt]
 have e1:(i * k + c) / k=i:=(Go.Sort.blk_iff k i _ (by omega)).1 ⟨by omega,by omega⟩
 have e2:(i * k + c) % k=c:=by rw [Nat.mod_eq_sub_div_mul,e1];omega
 rw [e1,e2]
 congr 2
 have:xs.toArray[i]?=some x:=by simpa using hi
 rw [getElem!_def,this]
theorem Zp9 [Inhabited β] {enc:β → List Value} {k:Nat} (hk:∀ x,(enc x).length=k) {xs:List β} {cur:Array Value} (hl:xs.length * k ≤ cur.size) {i:Nat} {x:β} (hi:xs[i]?=some x):seg (Go.Sort.putCells id 0 (Go.Sort.flatK enc k xs.toArray) cur).toList (i * k) k=enc x:=by
 have hil:i < xs.length:=(List.getElem?_eq_some_iff.1 hi).1
 have hle:=Nat.mul_le_mul_right k (show i + 1 ≤ xs.length from hil)
 rw [Nat.add_mul,Nat.one_mul] at hle
 apply List.ext_getElem?
 intro c
 simp only [seg,List.getElem?_take,List.getElem?_drop]
 split
 · rename_i hc
   rw [Array.getElem?_toList,Go.Sort.putCells,Array.getElem?_mapIdx,Array.getElem?_eq_getElem (show i * k + c < cur.size by omega),Option.map_some,if_pos ⟨Nat.zero_le _,by simp only [Go.Sort.size_flatK,List.size_toArray];omega⟩]
   rw [Nat.sub_zero,Zkf hk hi hc]
   have hcl:c < (enc x).length:=by rw [hk];exact hc
   rw [List.getElem?_eq_getElem hcl,getElem!_pos _ c hcl]
   rfl
 · rename_i hc
   rw [List.getElem?_eq_none (by rw [hk];omega)]
theorem Zna [Inhabited β] {enc:β → List Value} (hE:Enc dk enc) {xs:List β} {g:G} {b cap:Nat} {cur:Array Value} (hO:OwnAt dk e j (xs.map some) g b cap cur):Go.Sort.HoldsK enc dk.sz g.w b 0 xs.toArray:=by
 intro t ht
 simp only [Go.Sort.size_flatK,List.size_toArray] at ht
 have k0:0 < dk.sz:=by
   rcases Nat.eq_zero_or_pos dk.sz with h | h
   · rw [h] at ht;simp at ht
   · exact h
 have hi:t / dk.sz < xs.length:=(Nat.div_lt_iff_lt_mul k0).2 ht
 have hc:t % dk.sz < dk.sz:=Nat.mod_lt _ k0
 have hx:xs[t / dk.sz]?=some xs[t / dk.sz]:=List.getElem?_eq_getElem hi
 have hseg:=(hE.K _ _ _).1 (hO.known (t / dk.sz) xs[t / dk.sz] (by rw [List.getElem?_map,hx];rfl))
 have htd:t=t / dk.sz * dk.sz + t % dk.sz:=by rw [Nat.mul_comm];exact (Nat.div_add_mod t dk.sz).symm
 have hf:=Zkf hE.len hx hc
 rw [← htd] at hf
 have hcl:t % dk.sz < (enc xs[t / dk.sz]).length:=by rw [hE.len];exact hc
 have hu:cur[t]?=some ((enc xs[t / dk.sz])[t % dk.sz]!):=by
   have:=congrArg (fun l:List Value=>l[t % dk.sz]?) hseg
   simp only [seg,List.getElem?_take,List.getElem?_drop,if_pos hc] at this
   rw [← htd] at this
   rw [← Array.getElem?_toList,this,List.getElem?_eq_getElem hcl,getElem!_pos (enc xs[t / dk.sz]) (t % dk.sz) hcl]
 refine ⟨?_,?_⟩
 · show g.w.cell? ⟨b,0 + t,none⟩=some _
   rw [Nat.zero_add,hf]
   simp only [World.cell?,hO.heap]
   exact hu
 · simp [World.frozen?,hO.heap]
open Classical in
theorem Zq1 [Inhabited β] {ρ : Ren} {enc : β → List Value} {cf : β → β → Int} {f fc : FuncId} {s : Nat} {xs : List β} {ty : Array TypeId} (L : Go.Proofs.SlLaysF0.n6 P ρ) (hf : ρ.f 6 = f) (aE : ∀ w, (isAgg (ρ.t 24)).run P w = .ok true w) (zE : ∀ w, (Go.sizeOf (ρ.t 24)).run P w = .ok dk.sz w) (hag : dk.ag = true) (hE : Enc dk enc)
   (hok:∀ x y,FnOk P fc [dk.pd x,dk.pd y] (pInt .i64 (cf x y))) (hef:Zj P f) (hec:Zj P fc) (hO':Go.Sort.SWO (Go.Proofs.ltOf cf)) (hT:∀ x y,Go.Proofs.ltOf cf x y=false → Go.Proofs.ltOf cf y x=false → x=y)
   (hop:o.op=.call { callee:=.value (.func f),args:=#[x,.func fc],argTypes:=ty }) (hd:o.dst=some d) (hsd:s ≠ d) (hs:Opd uses (.tmp s) (pArr dk e j xs)) (hx:Opd uses x (pArr dk e j xs)) (h0:0 < dk.sz) (hlt:xs.length < 4611686018427387904) :
   OB P N o uses [(d,pAny),(s,pArr dk e j (xs.mergeSort fun x y=>!(Go.Proofs.ltOf cf) y x))] [j + 1]:=by
 intro a g K Q hN hdN hu hK
 have hr:(execOp a.eval o).run P g.w=.ok (.enter f #[a.eval x,.func (.func fc) #[] #[]]) g.w:=by
   simp [execOp,hop,resolve,Zf5,Deferred.ofValue,invoke,Zd6 hef]
 unfold Oper.wp
 rw [hr]
 show Calls P f _ g.w _
 subst hf
 have hat:∀ v,Act.at (a.put o.dst v) s=Act.at a s:=fun v=>Zea v (by rw [hd];intro h;exact hsd (Option.some.inj h).symm)
 by_cases hx0:xs=[]
 · subst hx0
   obtain ⟨p,cap,hxv⟩:∃ p cap,a.eval x=.slice p 0 cap:=by
     rcases hx a g hu with ⟨_,A,h⟩ | ⟨b,cap,cur,h1,h2⟩
     · exact ⟨A,0,h⟩
     · exact ⟨_,cap,h1⟩
   rw [hxv]
   refine Calls.mono (Go.Proofs.AnyF.slices_SortFunc_none L p cap _ g.w) ?_
   rintro en w' ⟨rfl,rfl⟩
   refine hK _ g (.refl _ _) fun en he=>?_
   rcases List.mem_cons.1 he with rfl | he
   · trivial
   · rw [List.mem_singleton.1 he]
     show (pArr dk e j (List.mergeSort [] _)).p g (Act.at (a.put o.dst _) s)
     rw [hat,List.mergeSort_nil]
     exact hs a g hu
 · rcases hs a g hu with ⟨h,_⟩ | ⟨b,cap,cur,hv,hO1⟩
   · exact absurd h hx0
   rcases hx a g hu with ⟨h,_⟩ | ⟨b2,cap2,cur2,hxv,hO⟩
   · exact absurd h hx0
   obtain ⟨rfl,rfl,rfl⟩:=hO.same hO1 h0
   have hlen:xs.length ≤ cap:=by simpa using hO.len
   have hmax:=hO.max
   simp only [maxLen] at hmax
   let ys:=xs.mergeSort fun x y=>!(Go.Proofs.ltOf cf) y x
   have hyl:ys.length=xs.length:=List.length_mergeSort ..
   rw [hxv]
   have hcall:=Go.Proofs.AnyQ.slices_SortFunc_total L dk.sz aE zE enc hE.len hE.one cf hO' fc #[] b 0 cap xs.toArray g.w (fun args w=>Zd6 hec args w) (Zl6 hag hE hok hO.npr) (Zna hE hO) hO.lt (by simp only [List.size_toArray];exact hlt) hT
   refine Calls.mono hcall ?_
   rintro en w' ⟨rfl,n,os,rfl⟩
   have hys:(xs.toArray.toList.mergeSort fun x y=>!(Go.Proofs.ltOf cf) y x).toArray=ys.toArray:=rfl
   rw [hys]
   have hcell:∀ b' o,g.pr b' o → (Go.Proofs.sortWorldK enc dk.sz g.w b 0 n ys.toArray os).cell? ⟨b',o,none⟩=g.w.cell? ⟨b',o,none⟩:=fun b' o h=>by
     have hne:b' ≠ b:=fun e=>hO.npr o (e ▸ h)
     exact Zcj (Ze1 _ _ _ _ _ _ _ _ (g.hpr b' o h) hne)
   let g2:G:=⟨Go.Proofs.sortWorldK enc dk.sz g.w b 0 n ys.toArray os,g.pr,fun c=>if c < g.w.heap.size then g.own c else 0,fun b' o h=>by rw [Zgk];have:=g.hpr b' o h;omega,g.gl.le (fun _ _ h=>h) hcell⟩
   have hsz2:g2.w.heap.size=g.w.heap.size + os.size:=Zgk ..
   have hown:∀ c,g2.own c=if c < g.w.heap.size then g.own c else 0:=fun _=>rfl
   refine hK _ g2 ⟨⟨by omega,fun _ _ h=>h,hcell,fun c hc=>Ze1 _ _ _ _ _ _ _ _ (g.hpr c 0 (hc 0)) (fun e=>hO.npr 0 (e ▸ hc 0)),Nat.le_add_right _ _⟩,rfl,rfl,rfl,fun c hc hn=>⟨Ze1 _ _ _ _ _ _ _ _ hc (fun e=>hn (by rw [e,hO.own];simp)),rfl,by rw [hown,if_pos hc]⟩,fun c h1 h2=>.inl (by rw [hown,if_neg (by omega)]),fun c hc hn=>.inr (by rw [hown,if_pos hc];exact hn)⟩ fun en he=>?_
   rcases List.mem_cons.1 he with rfl | he
   · trivial
   · rw [List.mem_singleton.1 he]
     show (pArr dk e j ys).p g2 (Act.at (a.put o.dst _) s)
     rw [hat]
     have hh:=Zpp enc dk.sz g.w b n ys.toArray os hO.heap
     have hlk:ys.length * dk.sz ≤ cur.size:=by rw [hyl,hO.sz];exact Nat.mul_le_mul_right _ hlen
     refine .inr ⟨b,cap,_,by rw [hyl];exact hv,by rw [hsz2];have:=hO.lt;omega,by rw [hown,if_pos hO.lt];exact hO.own,fun c hc ho=>?_,hh,by rw [List.length_map,hyl];exact hlen,hO.max,by rw [← hO.sz];simp [Go.Sort.putCells],fun i u hi=>?_,hO.npr⟩
     · rw [hown] at ho
       split at ho
       · rename_i hl;exact hO.uniq c hl ho
       · omega
     · rw [List.getElem?_map] at hi
       obtain ⟨u',hi',e1⟩:=Option.map_eq_some_iff.1 hi
       obtain rfl:=Option.some.inj e1
       exact (hE.K _ _ _).2 (Zp9 hE.len hlk hi')
end
end Go.CL
namespace Go.CL
open Go Go.RowKit
structure ObR (α:Type) where
 R:G → Nat → (Nat → Prop) → α → Prop
 st:∀ {g g':G} {b:Nat} {B:Nat → Prop} {x:α},R g b B x → g.le g' → (∀ c,c=b ∨ B c → g'.w.heap[c]?=g.w.heap[c]? ∧ g'.pr c=g.pr c) → R g' b B x
def Zy {α:Type} (cb:Option Nat) (k:ObR α) (j:Nat) (x:α):Pd where
 p:=fun g v=>∃ b B,(v=.pointer (some ⟨b,0,none⟩) ∧ ∀ b',cb=some b' → b'=b) ∧ k.R g b B x ∧ b < g.w.heap.size ∧ g.own b=j + 1 ∧ (∀ c,c < g.w.heap.size → g.own c=j + 1 → c=b) ∧ ∀ c,B c → c < g.w.heap.size ∧ g.own c=j + 1 + AUX
 fp:=[j + 1,j + 1 + AUX]
 st:=fun {S g g' v} s hd ⟨b,B,e,hR,hb,ho,hu,hB⟩=>by
   have h1:j + 1 ∉ S:=hd _ (by simp)
   have h2:j + 1 + AUX ∉ S:=hd _ (by simp)
   obtain ⟨k1,k2,k3⟩:=s.same b hb (by rw [ho];exact h1)
   refine ⟨b,B,e,k.st hR s.le ?_,Nat.lt_of_lt_of_le hb s.le.size,k3.trans ho,?_,fun c hc=>?_⟩
   · rintro c (rfl | hc)
     · exact ⟨k1,k2⟩
     · exact ⟨(s.same c (hB c hc).1 (by rw [(hB c hc).2];exact h2)).1,(s.same c (hB c hc).1 (by rw [(hB c hc).2];exact h2)).2.1⟩
   · intro c hc hoc
     rcases Nat.lt_or_ge c g.w.heap.size with hlt | hge
     · by_cases hS:g.own c ∈ S
       · rcases s.old c hlt hS with h | h
         · rw [hoc] at h;omega
         · rw [hoc] at h;exact absurd h h1
       · exact hu c hlt ((s.same c hlt hS).2.2.symm.trans hoc)
     · rcases s.new c hge hc with h | h
       · rw [hoc] at h;omega
       · rw [hoc] at h;exact absurd h h1
   · obtain ⟨hlt,hoc⟩:=hB c hc
     obtain ⟨m1,m2,m3⟩:=s.same c hlt (by rw [hoc];exact h2)
     exact ⟨Nat.lt_of_lt_of_le hlt s.le.size,m3.trans hoc⟩
def FnMR {α:Type} (P:Program) (f:FuncId) (k:ObR α) (x0 x1:α) (A:List Pd) (q:Pd):Prop :=
 ∀ (g:G) (b:Nat) (B:Nat → Prop) (args:List Value),k.R g b B x0 → b < g.w.heap.size → (∀ c,B c → c < g.w.heap.size ∧ c ≠ b) → ArgsOk A g args →
   Calls P f (Value.pointer (some ⟨b,0,none⟩) :: args).toArray g.w (fun e w'=>∃ g' v B',e=.returned v ∧ w'=g'.w ∧ Zj8 (fun c=>c=b ∨ B c) g g' ∧ k.R g' b B' x1 ∧ (∀ c,B' c → (B c ∨ g.w.heap.size ≤ c) ∧ c < g'.w.heap.size) ∧ q.p g' v)
def Zkp {α:Type} (P:Program) (f:FuncId) (A:List Pd) (k:ObR α) (x:α):Prop :=
 ∀ (g:G) (args:List Value),ArgsOk A g args →
   Calls P f args.toArray g.w (fun e w'=>∃ g' b B,e=.returned (.pointer (some ⟨b,0,none⟩)) ∧ w'=g'.w ∧ Zj8 (fun _=>False) g g' ∧ g.w.heap.size ≤ b ∧ b < g'.w.heap.size ∧ k.R g' b B x ∧ ∀ c,B c → g.w.heap.size ≤ c ∧ c < g'.w.heap.size ∧ c ≠ b)
theorem Zot {α:Type} {k:ObR α} {cb:Option Nat} {j:Nat} {x0:α} (g:G) (v:Value) (h:(Zy cb k j x0).p g v):∃ p,v=.pointer p ∧ p.isNone=false:=by
 obtain ⟨b,B,⟨hv,_⟩,_⟩:=h
 exact ⟨_,hv,rfl⟩
section
variable {P:Program} {N:Nat} {o:Oper} {uses outs:Zf} {S:List Nat} {d:Nat} {q:Pd} {x y z:Operand} {α β γ:Type} {k:ObR α}
open Classical in
theorem Zb1 {x0 x1 : α} {f : FuncId} {xs : List Operand} {A : List Pd} {ty : Array TypeId} {s j : Nat} {cb cb' : Option Nat} (he : Zj P f) (hok : FnMR P f k x0 x1 A q) (hop : o.op = .call { callee := .value (.func f), args := (x :: xs).toArray, argTypes := ty }) (hd : o.dst = some d)
   (hq:q.fp=[]) (hsd:s ≠ d) (hs:Opd uses (.tmp s) (Zy cb k j x0)) (hx:Opd uses x (Zy cb' k j x0)) (hargs:OpdL uses xs A):OB P N o uses [(d,q),(s,Zy cb k j x1)] [j + 1,j + 1 + AUX]:=by
 intro a g K Q hN hdN hu hK
 obtain ⟨b,B,⟨hv,_⟩,hR,hb,ho,huq,hB⟩:=hx a g hu
 obtain ⟨b2,_,⟨hv2,hcb⟩,_,hb2,ho2,_⟩:=hs a g hu
 have:b2=b:=huq b2 hb2 ho2
 subst this
 have hr:(execOp a.eval o).run P g.w=.ok (.enter f (Value.pointer (some ⟨b2,0,none⟩) :: xs.map a.eval).toArray) g.w:=by
   simp [execOp,hop,resolve,Zf5,Deferred.ofValue,invoke,Zd6 he,hv]
 unfold Oper.wp
 rw [hr]
 show Calls P f _ g.w _
 have hne:∀ c,B c → c ≠ b2:=fun c hc h=>by
   have:=(hB c hc).2
   rw [h,ho] at this;simp [AUX] at this
 refine Calls.mono (hok g b2 B _ hR hb (fun c hc=>⟨(hB c hc).1,hne c hc⟩) (hargs.ok hu)) ?_
 rintro e w' ⟨g',v,B',rfl,rfl,hS,hR',hB',hqv⟩
 let g2:G:=⟨g'.w,g'.pr,fun c=>if c < g.w.heap.size then (if g.own c=j + 1 + AUX ∧ ¬ B' c then 0 else g.own c) else if B' c then j + 1 + AUX else 0,g'.hpr,g'.gl⟩
 have hle:g'.le g2:=⟨Nat.le_refl _,fun _ _ h=>h,fun _ _ _=>rfl,fun _ _=>rfl,Nat.le_refl _⟩
 have hsz:=hS.le.size
 have hown2:∀ c,g2.own c=if c < g.w.heap.size then (if g.own c=j + 1 + AUX ∧ ¬ B' c then 0 else g.own c) else if B' c then j + 1 + AUX else 0:=fun _=>rfl
 have hob:g2.own b2=j + 1:=by
   rw [hown2,if_pos hb,if_neg,ho]
   rw [ho];simp [AUX]
 refine hK v g2 ⟨⟨hS.le.size,hS.le.pr,hS.le.cell,hS.le.blk,hS.le.dr⟩,hS.os,hS.tape,hS.output,fun c hc hn=>?_,fun c h1 h2=>?_,fun c hc hn=>?_⟩ fun e he=>?_
 · have hc1:c ≠ b2:=fun h=>hn (by rw [h,ho];simp)
   have hc2:¬ B c:=fun h=>hn (by rw [(hB c h).2];simp)
   obtain ⟨k1,k2⟩:=hS.same c hc (by simp [hc1,hc2])
   refine ⟨k1,k2,?_⟩
   rw [hown2,if_pos hc,if_neg]
   intro h;exact hn (by rw [h.1];simp)
 · rw [hown2,if_neg (by omega)]
   split <;> simp
 · rw [hown2,if_pos hc]
   split
   · exact .inl rfl
   · exact .inr hn
 · simp only [List.mem_cons,List.not_mem_nil,or_false] at he
   rcases he with rfl | rfl
   · rw [hd,Zcf v (by rw [hN];exact hdN d hd)]
     exact Pd.le hq hle rfl rfl rfl hqv
   · have hat:Act.at (a.put o.dst v) s=Act.at a s:=Zea v (by rw [hd];intro h;exact hsd (Option.some.inj h).symm)
     rw [hat]
     refine ⟨b2,B',⟨hv2,hcb⟩,k.st hR' hle (fun _ _=>⟨rfl,rfl⟩),Nat.lt_of_lt_of_le hb hsz,hob,fun c hc hoc=>?_,fun c hc=>?_⟩
     · rw [hown2] at hoc
       split at hoc
       · rename_i hlt
         split at hoc
         · omega
         · exact huq c hlt hoc
       · split at hoc
         · simp [AUX] at hoc
         · omega
     · obtain ⟨h1,h2⟩:=hB' c hc
       refine ⟨h2,?_⟩
       rw [hown2]
       rcases h1 with h1 | h1
       · rw [if_pos (hB c h1).1,if_neg (by simp [hc])];exact (hB c h1).2
       · rw [if_neg (by omega),if_pos hc]
theorem OT.guardMR {x0 x1 x2 : α} {ops : Array Oper} {i c s j : Nat} {cb : Option Nat} {want : Bool} (G : Bool) {q0 : Pd} (h1 : G = true → ∀ g v, q0.p g v → v = .bool want) (h2 : G = false → ∀ g v, q0.p g v → v ≠ .bool want) (hg : o.guard = some (i, want)) (hc : (ops[i]?).bind (·.dst) = some c)
   (hd:o.dst=some d) (hsd:s ≠ d) (hs:Opd uses (.tmp s) (Zy cb k j x0)) (h:G=true → OB P N o uses [(d,q),(s,Zy cb k j x1)] S) (hx2:x2=if G=true then x1 else x0):OT P ops N o ((c,q0) :: uses) [(d,pIf G q),(s,Zy cb k j x2)] S:=by
 intro a g K Q hN ht hu hK
 subst hx2
 have hcv:=hu (c,q0) (by simp)
 have hu':Zby uses a g:=fun e he=>hu e (List.mem_cons_of_mem _ he)
 cases hG:G with
 | true =>
   have:Region.wanted o (yielded ops a.tmps)=true:=by simp [Region.wanted,hg,(Zff hc).2 (h1 hG _ _ hcv)]
   rw [if_pos this]
   refine h hG a g K Q hN ht hu' fun v g' hst ho'=>hK v g' hst ?_
   intro e he
   simp only [List.mem_cons,List.not_mem_nil,or_false] at he
   rcases he with rfl | rfl
   · exact ⟨fun _=>ho' (d,q) (by simp),fun h0=>(by rw [hG] at h0;cases h0)⟩
   · rw [hG];exact ho' (s,Zy cb k j x1) (by simp)
 | false =>
   have:Region.wanted o (yielded ops a.tmps)=false:=by
     simp only [Region.wanted,hg,beq_eq_false_iff_ne,ne_eq]
     exact fun h=>h2 hG _ _ hcv ((Zff hc).1 h)
   rw [this]
   refine hK undef g (.refl _ _) ?_
   intro e he
   simp only [List.mem_cons,List.not_mem_nil,or_false] at he
   rcases he with rfl | rfl
   · refine ⟨fun h0=>(by rw [hG] at h0;cases h0),fun _=>?_⟩
     rw [hd]
     exact Zcf _ (by rw [hN];exact ht _ hd)
   · rw [hG]
     have hat:Act.at (a.put o.dst undef) s=Act.at a s:=Zea undef (by rw [hd];intro h;exact hsd (Option.some.inj h).symm)
     rw [hat]
     exact hs a g hu'
open Classical in
theorem Zjt {g : G} {b : Nat} {own : Nat → Nat} {args : List Value} {A : List Pd} {qs : Pd} {fn : Func} (hn : fn.ntmps = N) (hAN : A.length + 1 ≤ N) (hA : Free A) (hargs : ArgsOk A g args) (hq : qs.p ⟨g.w, g.pr, own, g.hpr, g.gl⟩ (.pointer (some ⟨b, 0, none⟩))) :
   St N ((0,qs) :: Zeq A 1) { tmps:=(Value.pointer (some ⟨b,0,none⟩) :: args).toArray ++ Array.replicate (fn.ntmps - (Value.pointer (some ⟨b,0,none⟩) :: args).toArray.size) undef,defers:=[] } ⟨g.w,g.pr,own,g.hpr,g.gl⟩:=by
 have hle:g.le ⟨g.w,g.pr,own,g.hpr,g.gl⟩:=⟨Nat.le_refl _,fun _ _ h=>h,fun _ _ _=>rfl,fun _ _=>rfl,Nat.le_refl _⟩
 refine ⟨?_,rfl,?_⟩
 · have:=hargs.1
   simp [hn];omega
 · intro en he
   rcases List.mem_cons.1 he with rfl | he
   · have hv : Act.at { tmps := (Value.pointer (some ⟨b, 0, none⟩) :: args).toArray ++ Array.replicate (fn.ntmps - (Value.pointer (some ⟨b, 0, none⟩) :: args).toArray.size) undef, defers := [] } 0 = .pointer (some ⟨b, 0, none⟩) := by
       simp only [Act.at,Array.getD_eq_getD_getElem?]
       rw [Array.getElem?_append,if_pos (by simp)]
       simp
     show qs.p _ (Act.at _ 0)
     rw [hv];exact hq
   · obtain ⟨i,h1,h2⟩:=Zfq he
     have hi:i < args.length:=by rw [hargs.1];exact (List.getElem?_eq_some_iff.1 h2).1
     have hv:Act.at { tmps:=(Value.pointer (some ⟨b,0,none⟩) :: args).toArray ++ Array.replicate (fn.ntmps - (Value.pointer (some ⟨b,0,none⟩) :: args).toArray.size) undef,defers:=[] } en.1=args[i]:=by
       rw [h1,Nat.add_comm]
       simp only [Act.at,Array.getD_eq_getD_getElem?]
       rw [Array.getElem?_append,if_pos (by simpa using hi)]
       simp [hi]
     rw [hv]
     exact Pd.le (hA.at h2) hle rfl rfl rfl (hargs.2 i en.2 _ h2 (List.getElem?_eq_getElem hi))
def Zps (k:ObR α) (x1:α) (b:Nat) (g0:G) (q:Pd) (v:Value) (g1:G):Prop:=Base g0 g1 ∧ q.p g1 v ∧ (Zy (some b) k 0 x1).p g1 (.pointer (some ⟨b,0,none⟩))
theorem Zmg {g g1 : G} {own : Nat → Nat} {D : Nat → Prop} (hpr : GLok g.w g.pr) (ho : ∀ c, own c ≠ 0 → D c) (hBs : Base ⟨g.w, g.pr, own, g.hpr, g.gl⟩ g1) : Zj8 D g g1 := ⟨⟨hBs.le.size, hBs.le.pr, hBs.le.cell, hBs.le.blk, hBs.le.dr⟩, hBs.os, hBs.tape, hBs.output, fun c hc hn => by
   have h0:own c=0:=Classical.byContradiction fun h=>hn (ho c h)
   exact ⟨(hBs.same c hc h0).1,(hBs.same c hc h0).2.1⟩⟩
open Classical in
theorem Zql {x0 x1 : α} {f : FuncId} {fn : Func} {c : Code} {A : List Pd} (hf : P.funcs[f]? = some fn) (hb : fn.body = some c) (hn : fn.ntmps = N) (hAN : A.length + 1 ≤ N) (hA : Free A) (hq : q.fp = [])
   (h:∀ (a:Act) (g:G) (b:Nat),St N ((0,Zy (some b) k 0 x0) :: Zeq A 1) a g → Base g g → c.wp P (bodyPost P fn (FinP (Zps k x1 b g q))) a g.w):FnMR P f k x0 x1 A q:=by
 intro g b B args hR hbl hB hargs
 let own:Nat → Nat:=fun c=>if c=b then 1 else if B c then 1 + AUX else 0
 let g0:G:=⟨g.w,g.pr,own,g.hpr,g.gl⟩
 have hle:g.le g0:=⟨Nat.le_refl _,fun _ _ h=>h,fun _ _ _=>rfl,fun _ _=>rfl,Nat.le_refl _⟩
 have o1:own b=1:=if_pos rfl
 have o2:∀ c,own c=1 → c=b:=fun c hc=>by
   have hc:(if c=b then 1 else if B c then 1 + AUX else 0)=1:=hc
   split at hc
   · assumption
   · split at hc <;> simp [AUX] at hc
 have o3:∀ c,own c ≠ 0 → c=b ∨ B c:=fun c hc=>by
   have hc:(if c=b then 1 else if B c then 1 + AUX else 0) ≠ 0:=hc
   split at hc
   · left;assumption
   · split at hc
     · right;assumption
     · exact absurd rfl hc
 have hobj:(Zy (some b) k 0 x0).p g0 (.pointer (some ⟨b,0,none⟩)):=⟨b,B,⟨rfl,fun _ h=>(Option.some.inj h).symm⟩,k.st hR hle (fun _ _=>⟨rfl,rfl⟩),hbl,o1,fun c _ hc=>o2 c hc,fun c hc=>⟨(hB c hc).1,by show (if c=b then 1 else if B c then 1 + AUX else 0)=0 + 1 + AUX;rw [if_neg (hB c hc).2,if_pos hc]⟩⟩
 have hst:=Zjt (fn:=fn) hn hAN hA hargs hobj
 have hbase:Base g0 g0:=⟨.refl _,rfl,rfl,rfl,fun _ _ h=>⟨rfl,rfl,h⟩⟩
 refine Calls.mono (calls_of_wp hf hb (h _ g0 b hst hbase)) ?_
 rintro en w' ⟨g1,v,rfl,rfl,hBs,hqv,b1,B1,⟨e1,hc1⟩,hR1,hb1,ho1,hu1,hB1⟩
 obtain rfl:=hc1 _ rfl
 refine ⟨g1,v,B1,rfl,rfl,Zmg g.gl o3 hBs,hR1,fun c hc=>⟨?_,(hB1 c hc).1⟩,hqv⟩
 refine Classical.byContradiction fun hno=>?_
 have hlt:c < g.w.heap.size:=Nat.lt_of_not_le fun h=>hno (.inr h)
 have hoc:=(hB1 c hc).2
 by_cases h0:own c=0
 · have:=(hBs.same c hlt h0).2.2
   rw [hoc] at this;simp [AUX] at this
 · rcases o3 c h0 with h | h
   · rw [h,ho1] at hoc;simp [AUX] at hoc
   · exact hno (.inl h)
variable {kV:Kd γ} {raw:α → SlV → γ} {lst:α → List β} {dk:Kd β} {e:TypeId}
end
def ptrB (b off:Nat):Value:=.pointer (some ⟨b,off,none⟩)
section
variable {P:Program} {N:Nat} {o:Oper} {uses outs:Zf} {S:List Nat} {d:Nat} {q q2:Pd} {x y z:Operand} {α β γ δ ε σ:Type} {kV:Kd γ} {raw:α → σ → γ} {R R2:Hp σ} {dk:Kd β} {di:Kd δ} {t e j b off m:Nat} {xv:α}
abbrev PF (P:Program) (s i off:Nat):Prop:=(match P.underlying s with | some (.struct F)=>(F[i]?).bind fun f=>(P.info? f.type).map fun y=>(f.offset,y.size == 0) | _=>none)=some (off,false)
theorem Zk3 {s i off2:Nat} (hF:PF P s i off2) (hop:o.op=.fieldAddr s x i) (hd:o.dst=some d) (hx:Opd uses x (pEq (ptrB b off))):OB P N o uses [(d,pEq (ptrB b (off + off2)))] [] :=
 Zbd hd fun a g hh=>by
   have hv:a.eval x=.pointer (some ⟨b,off,none⟩):=hx a g hh
   unfold PF at hF
   cases hu:P.underlying s with
   | none=>rw [hu] at hF;cases hF
   | some u =>
     rw [hu] at hF
     cases u with
     | struct F =>
       obtain ⟨f,hi,h2⟩:=Option.bind_eq_some_iff.1 hF
       obtain ⟨y,hy,h3⟩:=Option.map_eq_some_iff.1 h2
       simp only [Prod.mk.injEq,beq_eq_false_iff_ne] at h3
       obtain ⟨h4,h5⟩:=h3
       subst h4
       have hs:(P.info? f.type).map (·.size)=some y.size:=by rw [hy];rfl
       exact ⟨ptrB b (off + f.offset),by simp [execOp,hop,hv,Instr.fieldAt,Instr.sureAddr,run_underlying hu,hi,Zee hs h5,ptrB],rfl⟩
     | _=>cases hF
end
section
variable {P:Program} {N:Nat} {q:Pd} {α β γ:Type} {kV:Kd γ} {raw:α → SlV → γ} {lst:α → List β} {dk:Kd β} {e b:Nat} {k:ObR α}
theorem Zml {fn:Func} {r:ResultVar} {v w:Value} {a:Act} {g g0:G} {L:Zf} {x1:α} (hr:fn.results=#[r]) (h:St N L a g) (hb:Base g0 g) (h1:Zfs P a g r v) (hq:q.p g v) (hs:(Zy (some b) k 0 x1).p g w):bodyPost P fn (FinP (Zps k x1 b g0 q)) .ret a g.w:=endP hr h h1 ⟨hb,hq,by
 obtain ⟨b',B,⟨e1,hc⟩,h2⟩:=hs
 obtain rfl:=hc _ rfl
 exact ⟨_,B,⟨rfl,hc⟩,h2⟩⟩
end
end Go.CL
namespace Go.CL
open Go Go.RowKit Go.Shelf
structure Zi where
 by_:List (ByteArray × Int)
 deriving Inhabited
def Zoy:List (Kd.FK Zi):=[⟨_,Kd.mapS,0,fun x:Zi=>x.by_⟩]
def Z4:Kd Zi:=Kd.struct 1 Zoy (by rfl)
theorem Zi3 {g:G} {m:Zi} {v:Value}:Z4.K g m [v] ↔ Kd.mapS.K g m.by_ [v]:=by
 constructor
 · intro h;exact h.2 ⟨_,Kd.mapS,0,fun x:Zi=>x.by_⟩ (List.mem_singleton.2 rfl)
 · intro h;exact ⟨rfl,fun f hf=>by rw [List.mem_singleton.1 hf];exact h⟩
section
variable {P:Program} {N:Nat} {o:Oper} {uses outs:Zf} {S:List Nat} {d:Nat} {q:Pd} {x y z:Operand} {mt kt et:TypeId} {j b:Nat}
def Zq:ObR Zi where
 R:=fun g b B m=>∃ mv t,g.w.heap[b]?=some (.cells #[.map mv] t (0,0)) ∧ (∀ o,¬ g.pr b o) ∧ ((mv=none ∧ m.by_=[]) ∨ ∃ c l clock,mv=some c ∧ B c ∧ (∀ o,¬ g.pr c o) ∧ Zft g c m.by_ l clock)
 st:=by
   rintro g g' b B x ⟨mv,t,h1,h2,h3⟩ hle hh
   obtain ⟨k1,k2⟩:=hh b (.inl rfl)
   refine ⟨mv,t,k1.trans h1,fun o=>by rw [k2];exact h2 o,?_⟩
   rcases h3 with h3 | ⟨c,l,clock,e,hB,hp,hm1,hm2,hm3⟩
   · exact .inl h3
   · obtain ⟨k3,k4⟩:=hh c (.inr hB)
     exact .inr ⟨c,l,clock,e,hB,fun o=>by rw [k4];exact hp o,Nat.lt_of_lt_of_le hm1 hle.size,k3.trans hm2,hm3⟩
theorem Zl7 {g:G} {c t:Nat} {v:Value} (h:g.w.heap[c]?=some (.cells #[v] t (0,0))) (hp:∀ o,g.pr c o):CellsAt g c 0 [v]:=fun i u hu=>by
 refine ⟨hp _,?_⟩
 simp only [World.cell?,h,Nat.zero_add]
 simpa using hu
theorem Zju {g : G} {m : List (ByteArray × Int)} {b t : Nat} {mv : Option Nat} (hbl : b < g.w.heap.size) (h1 : g.w.heap[b]? = some (.cells #[.map mv] t (0, 0))) (h2 : ∀ o, ¬ g.pr b o) (h3 : (mv = none ∧ m = []) ∨ ∃ c l clock, mv = some c ∧ (∀ o, ¬ g.pr c o) ∧ Zft g c m l clock) :
   ∃ (D:Nat → Prop) (hD:∀ c,D c → c < g.w.heap.size),(∀ c,D c → ∀ o,¬ g.pr c o) ∧ (∀ c,D c → c=b ∨ mv=some c) ∧ (Z4.ptr ⟨m⟩).p (g.lend D hD) (.pointer (some ⟨b,0,none⟩)):=by
 have hDl:∀ c,(c=b ∨ mv=some c) → c < g.w.heap.size:=fun c h=>by
   rcases h with rfl | h
   · exact hbl
   · rcases h3 with ⟨e,_⟩ | ⟨c',l,clock,e,hp,hm⟩
     · rw [h] at e;cases e
     · rw [h] at e;obtain rfl:=Option.some.inj e;exact hm.1
 refine ⟨fun c=>c=b ∨ mv=some c,hDl,fun c h=>?_,fun _ h=>h,b,0,[.map mv],rfl,Zi3.2 ?_,Zl7 (v:=.map mv) h1 (fun o=>.inr (.inl rfl))⟩
 · rcases h with rfl | h
   · exact h2
   · rcases h3 with ⟨e,_⟩ | ⟨c',l,clock,e,hp,hm⟩
     · rw [h] at e;cases e
     · rw [h] at e;obtain rfl:=Option.some.inj e;exact hp
 · rcases h3 with ⟨e,hm⟩ | ⟨c',l,clock,e,hp,hm1,hm2,hm3⟩
   · exact .inl ⟨by rw [e],hm⟩
   · subst e
     exact .inr ⟨c',l,clock,rfl,fun o=>.inr (.inr rfl),hm1,hm2,hm3⟩
theorem Zjw {g:G} {B:Nat → Prop} {m:Zi} (hbl:b < g.w.heap.size) (hR:Zq.R g b B m):∃ (D:Nat → Prop) (hD:∀ c,D c → c < g.w.heap.size),(∀ c,D c → ∀ o,¬ g.pr c o) ∧ (∀ c,D c → c=b ∨ B c) ∧ (Z4.ptr m).p (g.lend D hD) (.pointer (some ⟨b,0,none⟩)):=by
 obtain ⟨mv,t,h1,h2,h3⟩:=hR
 obtain ⟨D,hD,k1,k2,k3⟩:=Zju (m:=m.by_) hbl h1 h2 (h3.imp id fun ⟨c,l,clock,e,_,hp,hm⟩=>⟨c,l,clock,e,hp,hm⟩)
 refine ⟨D,hD,k1,fun c hc=>?_,k3⟩
 rcases k2 c hc with h | h
 · exact .inl h
 · rcases h3 with ⟨e,_⟩ | ⟨c',l,clock,e,hB,_⟩
   · rw [h] at e;cases e
   · rw [h] at e;obtain rfl:=Option.some.inj e;exact .inr hB
theorem Zgb {f:FuncId} {m:Zi} {A:List Pd} (hok:FnL P f (Z4.ptr m :: A) q) (hA:Free A):FnMR P f Zq m m A q:=by
 intro g b B args hR hbl hB hargs
 obtain ⟨D,hD,hn,hDB,hp⟩:=Zjw hbl hR
 refine Calls.mono (hok (g.lend D hD) _ (Zdp hp ⟨hargs.1,fun i qi u h1 h2=>Pd.le (hA.at h1) (Zll g _ hD) rfl rfl rfl (hargs.2 i qi u h1 h2)⟩)) ?_
 rintro en w' ⟨g',v,rfl,rfl,hs,hq⟩
 obtain ⟨g2,e1,e2,hs2⟩:=Zjy hn hs
 refine ⟨g2,v,B,rfl,e1.symm,⟨hs2.le,hs2.os,hs2.tape,hs2.output,fun c hc' _=>⟨(hs2.same c hc' (fun h=>by cases h)).1,(hs2.same c hc' (fun h=>by cases h)).2.1⟩⟩,Zq.st hR hs2.le (fun c h=>?_),fun c h=>⟨.inl h,Nat.lt_of_lt_of_le (hB c h).1 hs2.le.size⟩,hq g2 e1 (fun b' o hb' hp=>(e2 b' o).2 ⟨hp,fun h=>by have:=hD b' h;have hb':g.w.heap.size ≤ b':=hb';omega⟩)⟩
 have hc:c < g.w.heap.size:=h.elim (fun h=>h ▸ hbl) (fun h=>(hB c h).1)
 exact ⟨(hs2.same c hc (fun h=>by cases h)).1,(hs2.same c hc (fun h=>by cases h)).2.1⟩
theorem Zi8 {t:TypeId} (hz:(P.info? t).bind (·.zero)=some (.agg #[.map none])) (hop:o.op=.alloc t) (hd:o.dst=some d):OB P N o uses [(d,Zy none Zq j ⟨[]⟩)] [j + 1,j + 1 + AUX] :=
 Zdc hd fun a g hh=>by
   obtain ⟨i,hi,hz⟩:=Option.bind_eq_some_iff.1 hz
   have hcz:(Value.agg #[.map none]).cells=#[.map none]:=rfl
   have hst:Step [j + 1,j + 1 + AUX] g (g.push #[.map none] t (fun _=>False) (j + 1)):=(Zd8 g #[.map none] t (fun _=>False) (j + 1)).sub (by simp)
   refine ⟨.pointer (some ⟨g.w.heap.size,0,none⟩),g.push #[.map none] t (fun _=>False) (j + 1),?_,hst,g.w.heap.size,fun _=>False,⟨rfl,fun _ h=>by cases h⟩,⟨none,t,by rw [Zbx];exact Zcn _ _,fun o h=>?_,.inl ⟨rfl,rfl⟩⟩,?_,?_,fun c hc ho=>?_,fun c h=>h.elim⟩
   · simp [execOp,hop,Instr.alloc,zeroValue,typeInfo,hi,hz,newVar,newRow,hcz,Zbx]
   · simp [G.push] at h
   · rw [Zbx,Zbh];omega
   · simp [G.push]
   · rw [Zbx,Zbh] at hc
     simp only [G.push] at ho
     split at ho
     · assumption
     · split at ho
       · omega
       · rename_i h;exact absurd ho h
open Classical in
theorem Zi9 {f:FuncId} {m:Zi} {cb:Option Nat} {jo:Nat} {ty:Array TypeId} (he:Zj P f) (hok:Zkp P f [Z4.ptr m] Zq m) (hop:o.op=.call { callee:=.value (.func f),args:=#[x],argTypes:=ty }) (hd:o.dst=some d) (hx:Opd uses x (Zy cb Zq jo m)):OB P N o uses [(d,Zy none Zq j m)] [j + 1,j + 1 + AUX]:=by
 intro a g K Q hN hdN hu hK
 obtain ⟨b,B,⟨hv,_⟩,hR,hb,ho,huq,hB⟩:=hx a g hu
 have hr:(execOp a.eval o).run P g.w=.ok (.enter f #[.pointer (some ⟨b,0,none⟩)]) g.w:=by
   simp [execOp,hop,resolve,Zf5,Deferred.ofValue,invoke,Zd6 he,hv]
 unfold Oper.wp
 rw [hr]
 show Calls P f _ g.w _
 obtain ⟨D,hD,hn,hDB,hp⟩:=Zjw hb hR
 refine Calls.mono (hok (g.lend D hD) [.pointer (some ⟨b,0,none⟩)] (Zdp hp Zeu)) ?_
 rintro e w' ⟨g',b2,B2,rfl,rfl,hS,hb1,hb2,hR2,hB2⟩
 have hb1:g.w.heap.size ≤ b2:=hb1
 have hB2:∀ c,B2 c → g.w.heap.size ≤ c ∧ c < g'.w.heap.size ∧ c ≠ b2:=hB2
 let g2:G:=⟨g'.w,fun c o=>g'.pr c o ∧ ¬ D c,fun c=>if c < g.w.heap.size then (if g.own c=j + 1 ∨ g.own c=j + 1 + AUX then 0 else g.own c) else if c=b2 then j + 1 else if B2 c then j + 1 + AUX else 0,fun c o h=>g'.hpr c o h.1,fun en hen i v hv=>by
   obtain ⟨k1,k2⟩:=g'.gl en hen i v hv
   exact ⟨⟨k1,fun h=>hn _ h i (g.gl en hen i v hv).1⟩,k2⟩⟩
 have hown2:∀ c,g2.own c=if c < g.w.heap.size then (if g.own c=j + 1 ∨ g.own c=j + 1 + AUX then 0 else g.own c) else if c=b2 then j + 1 else if B2 c then j + 1 + AUX else 0:=fun _=>rfl
 refine hK _ g2 ⟨⟨hS.le.size,fun c o h=>⟨hS.le.pr c o (.inl h),fun h'=>hn c h' o h⟩,fun c o h=>hS.le.cell c o (.inl h),fun c h=>hS.le.blk c (fun o=>.inl (h o)),hS.le.dr⟩,hS.os,hS.tape,hS.output,fun c hc hno=>?_,fun c h1 h2=>?_,fun c hc hno=>?_⟩ fun e he=>?_
 · obtain ⟨k1,k2⟩:=hS.same c hc id
   refine ⟨k1,?_,?_⟩
   · funext o
     show (g'.pr c o ∧ ¬ D c)=g.pr c o
     rw [k2]
     show ((g.pr c o ∨ D c) ∧ ¬ D c)=g.pr c o
     have:=fun h=>hn c h o
     by_cases h:D c <;> simp [h,this]
   · rw [hown2,if_pos hc,if_neg]
     simpa using hno
 · rw [hown2,if_neg (by omega)]
   split
   · simp
   · split <;> simp
 · rw [hown2,if_pos hc,if_pos (by simpa using hno)];exact .inl rfl
 · rw [List.mem_singleton.1 he,hd,Zcf _ (by rw [hN];exact hdN d hd)]
   obtain ⟨mv,t,r1,r2,r3⟩:=hR2
   refine ⟨b2,B2,⟨rfl,fun _ h=>by cases h⟩,⟨mv,t,r1,fun o h=>r2 o h.1,r3.imp id fun ⟨c,l,clock,e1,e2,e3,e4⟩=>⟨c,l,clock,e1,e2,fun o h=>e3 o h.1,e4⟩⟩,hb2,?_,fun c hc hoc=>?_,fun c hc=>⟨(hB2 c hc).2.1,?_⟩⟩
   · rw [hown2,if_neg (by omega),if_pos rfl]
   · rw [hown2] at hoc
     split at hoc
     · split at hoc
       · omega
       · rename_i h;exact absurd hoc (fun h'=>h (.inl h'))
     · split at hoc
       · assumption
       · split at hoc
         · simp [AUX] at hoc
         · omega
   · rw [hown2,if_neg (by have:=(hB2 c hc).1;omega),if_neg (hB2 c hc).2.2,if_pos hc]
def Zfd (j:Nat) (m:List (ByteArray × Int)):Pd:=⟨fun g u=>(u=.map none ∧ m=[]) ∨ (Zb4 j m).p g u,[j + 1],fun {S g g' v} st hd h=>h.imp id fun h=>(Zb4 j m).st st hd h⟩
def Zpr (j:Nat) (m:List (ByteArray × Int)):Pd:=⟨fun g u=>∃ p,u=.agg #[.map p] ∧ (Zfd j m).p g (.map p),[j + 1],fun {S g g' v} st hd ⟨p,e,h⟩=>⟨p,e,(Zfd j m).st st hd h⟩⟩
theorem Zm2 {j:Nat} {m:List (ByteArray × Int)} {g:G} {u:Value} (h:(Zfd j m).p g u):∃ p,u=.map p:=by
 rcases h with ⟨h,_⟩ | ⟨b,l,clock,h,_⟩
 · exact ⟨none,h⟩
 · exact ⟨some b,h⟩
theorem Zkn {ρ:Ren} {f:FuncId} {m:List (ByteArray × Int)} {ty:Array TypeId} (L:Go.Proofs.SlLaysW.n5 P ρ) (hf:ρ.f 5=f) (he:Zj P f) (hop:o.op=.call { callee:=.value (.func f),args:=#[x],argTypes:=ty }) (hd:o.dst=some d) (hx:Opd uses x (Kd.mapS.pd m)):OB P N o uses [(d,Zfd j m)] [j + 1]:=by
 intro a g K Q hN hdN hu hK
 have hr:(execOp a.eval o).run P g.w=.ok (.enter f #[a.eval x]) g.w:=by
   simp [execOp,hop,resolve,Zf5,Deferred.ofValue,invoke,Zd6 he]
 unfold Oper.wp
 rw [hr]
 show Calls P f _ g.w _
 subst hf
 obtain ⟨cs,hKm,hv⟩:=hx a g hu
 rcases hKm with ⟨rfl,rfl⟩ | ⟨b,l,clock,rfl,h1,h2,h3,h4⟩
 · have hv:a.eval x=.map none:=hv
   rw [hv]
   refine Calls.mono (Go.Proofs.AnyW.maps_Clone_nil L g.w) ?_
   rintro e w' ⟨rfl,rfl⟩
   refine hK _ g (.sub (.refl [] g) (fun _ h=>by cases h)) fun e he=>?_
   rw [List.mem_singleton.1 he,hd,Zcf _ (by rw [hN];exact hdN d hd)]
   exact .inl ⟨rfl,rfl⟩
 · have hv:a.eval x=.map (some b):=hv
   rw [hv]
   refine Calls.mono (Go.Proofs.AnyW.maps_Clone L b _ _ g.w h3) ?_
   rintro e w' ⟨rfl,rfl⟩
   refine hK _ (g.pushO (.map (l.map ent).toArray clock) (j + 1)) (Zfb ..) fun e he=>?_
   rw [List.mem_singleton.1 he,hd,Zcf _ (by rw [hN];exact hdN d hd)]
   refine .inr ⟨g.w.heap.size,l,clock,rfl,?_,fun b' hb' ho=>?_,fun o h=>?_,?_,Zcn _ _,h4⟩
   · simp [G.pushO]
   · simp only [G.pushO] at ho
     split at ho
     · assumption
     · split at ho
       · omega
       · rename_i hne;exact absurd ho hne
   · exact absurd (g.hpr _ _ h) (by omega)
   · show _ < (g.w.alloc _).heap.size;rw [Zbh];omega
theorem Zn7 {t:TypeId} {m:List (ByteArray × Int)} {F:Array Field} (hu:P.underlying t=some (.struct F)) (hz:(P.info? t).bind (·.zero)=some (.agg #[.map none])) (hp:F.toList.map (fun f=>(P.info? f.type).map fun i=>(f.offset,i.size))=[(0,1)].map some) (hop:o.op=.build t #[(0,x)]) (hd:o.dst=some d) (hx:Opd uses x (Zfd j m)):OB P N o uses [(d,Zpr j m)] []:=by
 refine Zec hop hd fun a g hh=>?_
 have h:=hx a g hh
 obtain ⟨p,hp'⟩:=Zm2 h
 refine ⟨.agg #[.map p],?_,p,rfl,by rw [← hp'];exact h⟩
 simp only [List.map_toArray,List.map_cons,List.map_nil,hp']
 exact Zdv hu (zero:=.agg #[.map none]) hz (places:=[(0,1)]) hp (by rfl) g.w
def Zid (jb j:Nat) (m:List (ByteArray × Int)):Pd where
 p:=fun g u=>∃ b p t,u=.pointer (some ⟨b,0,none⟩) ∧ b < g.w.heap.size ∧ g.own b=jb + 1 ∧ g.w.heap[b]?=some (.cells #[.map p] t (0,0)) ∧ (∀ o,¬ g.pr b o) ∧ (Zfd j m).p g (.map p)
 fp:=[jb + 1,j + 1]
 st:=fun {S g g' v} st hd ⟨b,p,t,e,h1,h2,h3,h4,h5⟩=>by
   obtain ⟨k1,k2,k3⟩:=st.same b h1 (by rw [h2];exact hd _ (by simp))
   exact ⟨b,p,t,e,Nat.lt_of_lt_of_le h1 st.le.size,k3.trans h2,k1.trans h3,fun o=>by rw [k2];exact h4 o,(Zfd j m).st st (fun k hk=>hd k (by rw [List.mem_singleton.1 hk];simp)) h5⟩
theorem Zqt {t:TypeId} {jb:Nat} {m:List (ByteArray × Int)} (hj:jb ≠ j) (hop:o.op=.box t x) (hd:o.dst=some d) (hx:Opd uses x (Zpr j m)):OB P N o uses [(d,Zid jb j m)] [jb + 1] :=
 Zdc hd fun a g hh=>by
   obtain ⟨p,hv,hm⟩:=hx a g hh
   have hst:=Zd8 g #[.map p] t (fun _=>False) (jb + 1)
   refine ⟨.pointer (some ⟨g.w.heap.size,0,none⟩),g.push #[.map p] t (fun _=>False) (jb + 1),?_,hst,g.w.heap.size,p,t,rfl,?_,?_,?_,fun o h=>?_,(Zfd j m).st hst (fun k hk hS=>?_) hm⟩
   · have:(Value.agg #[.map p]).cells=#[.map p]:=rfl
     simp [execOp,hop,Instr.box,newVar,newRow,hv,this,Zbx]
   · rw [Zbx,Zbh];omega
   · simp [G.push]
   · rw [Zbx];exact Zcn _ _
   · simp [G.push] at h
   · have h1:=List.mem_singleton.1 hk
     have h2:=List.mem_singleton.1 hS
     omega
def Zp2 (m:Zi) (g0:G) (v:Value) (g1:G):Prop:=Base g0 g1 ∧ ∃ jb j,jb ≠ j ∧ (Zid jb j m.by_).p g1 v
theorem Znc {m : Zi} {f : FuncId} {fn : Func} {c : Code} {A : List Pd} (hf : P.funcs[f]? = some fn) (hb : fn.body = some c) (hn : fn.ntmps = N) (hAN : A.length ≤ N) (hA : Free A)
   (h:∀ (a:Act) (g:G),(∀ b,g.own b=0) → St N (Zeq A 0) a g → Base g g → c.wp P (bodyPost P fn (FinP (Zp2 m g))) a g.w):Zkp P f A Zq m:=by
 intro g args hargs
 let g0:G:=⟨g.w,g.pr,fun _=>0,g.hpr,g.gl⟩
 have hle:g.le g0:=⟨Nat.le_refl _,fun _ _ h=>h,fun _ _ _=>rfl,fun _ _=>rfl,Nat.le_refl _⟩
 have hst:St N (Zeq A 0) { tmps:=args.toArray ++ Array.replicate (fn.ntmps - args.toArray.size) undef,defers:=[] } g0:=by
   refine ⟨?_,rfl,?_⟩
   · have:=hargs.1
     simp [hn];omega
   · intro en he
     obtain ⟨i,h1,h2⟩:=Zfq he
     have hi:i < args.length:=by rw [hargs.1];exact (List.getElem?_eq_some_iff.1 h2).1
     have hv:Act.at { tmps:=args.toArray ++ Array.replicate (fn.ntmps - args.toArray.size) undef,defers:=[] } en.1=args[i]:=by
       rw [h1,Nat.zero_add]
       simp only [Act.at,Array.getD_eq_getD_getElem?]
       rw [Array.getElem?_append,if_pos (by simpa using hi)]
       simp [hi]
     rw [hv]
     exact Pd.le (hA.at h2) hle rfl rfl rfl (hargs.2 i en.2 _ h2 (List.getElem?_eq_getElem hi))
 have hbase:Base g0 g0:=⟨.refl _,rfl,rfl,rfl,fun _ _ _=>⟨rfl,rfl,rfl⟩⟩
 refine Calls.mono (calls_of_wp hf hb (h _ g0 (fun _=>rfl) hst hbase)) ?_
 rintro en w' ⟨g1,v,rfl,rfl,hBs,jb,j,hj,b,p,t,rfl,m1,m2,m3,m4,m5⟩
 have hnew:∀ c,g1.own c ≠ 0 → c < g1.w.heap.size → g.w.heap.size ≤ c:=fun c h1 h2=>Nat.le_of_not_lt fun hlt=>h1 ((hBs.same c hlt rfl).2.2)
 have hS:Zj8 (fun _=>False) g g1:=⟨⟨hBs.le.size,hBs.le.pr,hBs.le.cell,hBs.le.blk,hBs.le.dr⟩,hBs.os,hBs.tape,hBs.output,fun c hc _=>⟨(hBs.same c hc rfl).1,(hBs.same c hc rfl).2.1⟩⟩
 have hb0:=hnew b (by rw [m2];omega) m1
 rcases m5 with ⟨e,hm⟩ | ⟨c,l,clock,e,l1,l2,l3,l4⟩
 · exact ⟨g1,b,fun _=>False,rfl,rfl,hS,hb0,m1,⟨p,t,m3,m4,.inl ⟨by injection e,hm⟩⟩,fun c hc=>hc.elim⟩
 · refine ⟨g1,b,fun c'=>c'=c,rfl,rfl,hS,hb0,m1,⟨p,t,m3,m4,.inr ⟨c,l,clock,by injection e,rfl,l3,l4⟩⟩,fun c' hc=>?_⟩
   subst hc
   exact ⟨hnew c' (by rw [l1];omega) l4.1,l4.1,fun h=>by rw [h,m2] at l1;omega⟩
theorem Zsf {fn:Func} {r:ResultVar} {v:Value} {a:Act} {g g0:G} {L:Zf} {jb:Nat} {m:Zi} (hr:fn.results=#[r]) (h:St N L a g) (hb:Base g0 g) (h1:Zfs P a g r v) (hj:jb ≠ j) (hq:(Zid jb j m.by_).p g v):bodyPost P fn (FinP (Zp2 m g0)) .ret a g.w:=endP hr h h1 ⟨hb,jb,j,hj,hq⟩
variable {β:Type} {dk:Kd β} {e:TypeId}
def Zny (dk:Kd β) (e:TypeId) (xs:List β) (g0:G) (v:Value) (g1:G):Prop:=Base g0 g1 ∧ ∃ j,(pArr dk e j xs).p g1 v
theorem Zqr {f : FuncId} {fn : Func} {c : Code} {A : List Pd} {xs : List β} {enc : β → List Value} (hE : Enc dk enc) (hf : P.funcs[f]? = some fn) (hb : fn.body = some c) (hn : fn.ntmps = N) (hAN : A.length ≤ N) (hA : Free A)
   (h:∀ (a:Act) (g:G),(∀ b,g.own b=0) → St N (Zeq A 0) a g → Base g g → c.wp P (bodyPost P fn (FinP (Zny dk e xs g))) a g.w):FnL P f A (dk.sl.pd xs):=by
 intro g args hargs
 let g0:G:=⟨g.w,g.pr,fun _=>0,g.hpr,g.gl⟩
 have hle:g.le g0:=⟨Nat.le_refl _,fun _ _ h=>h,fun _ _ _=>rfl,fun _ _=>rfl,Nat.le_refl _⟩
 have hst:St N (Zeq A 0) { tmps:=args.toArray ++ Array.replicate (fn.ntmps - args.toArray.size) undef,defers:=[] } g0:=by
   refine ⟨?_,rfl,?_⟩
   · have:=hargs.1
     simp [hn];omega
   · intro en he
     obtain ⟨i,h1,h2⟩:=Zfq he
     have hi:i < args.length:=by rw [hargs.1];exact (List.getElem?_eq_some_iff.1 h2).1
     have hv:Act.at { tmps:=args.toArray ++ Array.replicate (fn.ntmps - args.toArray.size) undef,defers:=[] } en.1=args[i]:=by
       rw [h1,Nat.zero_add]
       simp only [Act.at,Array.getD_eq_getD_getElem?]
       rw [Array.getElem?_append,if_pos (by simpa using hi)]
       simp [hi]
     rw [hv]
     exact Pd.le (hA.at h2) hle rfl rfl rfl (hargs.2 i en.2 _ h2 (List.getElem?_eq_getElem hi))
 have hbase:Base g0 g0:=⟨.refl _,rfl,rfl,rfl,fun _ _ _=>⟨rfl,rfl,rfl⟩⟩
 refine Calls.mono (calls_of_wp hf hb (h _ g0 (fun _=>rfl) hst hbase)) ?_
 rintro en w' ⟨g1,v,rfl,rfl,hBs,j,hq⟩
 have fin:∀ (pr':Nat → Nat → Prop) (hpr:∀ b o,pr' b o → b < g1.w.heap.size) (hp1:∀ b o,g1.pr b o → pr' b o) (hp2:∀ b,b < g.w.heap.size → pr' b=g1.pr b) (hf:∀ g2:G,g2.w=g1.w → (∀ b o,g.w.heap.size ≤ b → pr' b o → g2.pr b o) → (dk.sl.pd xs).p g2 v),∃ g' u,Ending.returned v=.returned u ∧ g1.w=g'.w ∧ Step [] g g' ∧ ∀ g2:G,g2.w=g'.w → (∀ b o,g.w.heap.size ≤ b → g'.pr b o → g2.pr b o) → (dk.sl.pd xs).p g2 u:=fun pr' hpr hp1 hp2 hf=>by
   refine ⟨⟨g1.w,pr',fun c=>if c < g.w.heap.size then g.own c else 0,hpr,g1.gl.le hp1 (fun _ _ _=>rfl)⟩,v,rfl,rfl,⟨⟨hBs.le.size,fun b o h=>hp1 b o (hBs.le.pr b o h),hBs.le.cell,hBs.le.blk,hBs.le.dr⟩,hBs.os,hBs.tape,hBs.output,fun c hc _=>⟨(hBs.same c hc rfl).1,(hp2 c hc).trans (hBs.same c hc rfl).2.1,if_pos hc⟩,fun c h1 h2=>.inl (if_neg (by omega)),fun c hc hn=>by cases hn⟩,hf⟩
 rcases hq with ⟨rfl,A0,rfl⟩ | ⟨b,cap,cur,rfl,hO⟩
 · exact fin g1.pr g1.hpr (fun _ _ h=>h) (fun _ _=>rfl) fun g2 _ _=>Kd.sl_V.2 ⟨A0,0,rfl,Nat.le_refl _,by simp,.inl rfl⟩
 · have hbn : g.w.heap.size ≤ b := Nat.le_of_not_lt fun hlt => by
     have:=(hBs.same b hlt rfl).2.2
     rw [hO.own] at this;omega
   refine fin (fun b' o=>g1.pr b' o ∨ b'=b) (fun b' o h=>h.elim (g1.hpr b' o) (fun h=>h ▸ hO.lt)) (fun _ _ h=>.inl h) (fun b' hb'=>?_) fun g2 hw hp=>?_
   · funext o
     have:b' ≠ b:=by omega
     simp [this]
   · have hl:=hO.len
     rw [List.length_map] at hl
     have hm:=hO.max
     refine Kd.sl_V.2 ⟨_,cap,rfl,hl,by simp only [maxLen] at hm;omega,.inr ⟨b,0,rfl,fun i x hx=>?_⟩⟩
     refine ⟨_,(hE.K _ _ _).2 ((hE.K _ _ _).1 (hO.known i x (by rw [List.getElem?_map,hx];rfl))),fun k u hk=>⟨hp _ _ hbn (.inr rfl),?_⟩⟩
     simp only [seg,List.getElem?_take,List.getElem?_drop] at hk
     split at hk
     · rw [hw]
       simp only [World.cell?,hO.heap]
       simpa using hk
     · cases hk
theorem Zrc {fn:Func} {r:ResultVar} {v:Value} {xs:List β} {a:Act} {g g0:G} {L:Zf} (hr:fn.results=#[r]) (h:St N L a g) (hb:Base g0 g) (h1:Zfs P a g r v) (hq:(pArr dk e j xs).p g v):bodyPost P fn (FinP (Zny dk e xs g0)) .ret a g.w:=endP hr h h1 ⟨hb,j,hq⟩
end
section
variable {P:Program} {N:Nat} {o:Oper} {uses outs:Zf} {S:List Nat} {d:Nat} {q:Pd} {x y z:Operand} {mt kt et:TypeId} {j b:Nat} {m:List (ByteArray × Int)}
theorem Znw {j:Nat} {m m':List (ByteArray × Int)} (hp:m.Perm m') {g:G} {v:Value} (h:(Zb4 j m).p g v):(Zb4 j m').p g v:=by
 obtain ⟨b,l,clock,e,h2,h3,h5,h1,h4,h6⟩:=h
 exact ⟨b,l,clock,e,h2,h3,h5,h1,h4,h6.perm.trans hp,h6.born,h6.ahead,((hp.map (·.1)).nodup_iff).1 h6.keys⟩
structure MapM (g:G) (j c:Nat) (m:List (ByteArray × Int)) (l:List SEnt) (clock:Nat):Prop where
 own:g.own c=j + 1
 uniq:∀ b',b' < g.w.heap.size → g.own b'=j + 1 → b'=c
 npr:∀ o,¬ g.pr c o
 map:Zft g c m l clock
theorem MapM.st {g g':G} {c:Nat} {l:List SEnt} {clock:Nat} {S:List Nat} (h:MapM g j c m l clock) (st:Step S g g') (hj:j + 1 ∉ S):MapM g' j c m l clock:=by
 obtain ⟨k1,k2,k3⟩:=st.same c h.map.1 (by rw [h.own];exact hj)
 exact ⟨k3.trans h.own,Zgo st hj (by omega) h.uniq,fun o=>by rw [k2];exact h.npr o,Nat.lt_of_lt_of_le h.map.1 st.le.size,k1.trans h.map.2.1,h.map.2.2⟩
structure VarM (g:G) (b:Nat) (v:Value):Prop where
 lt:b < g.w.heap.size
 own:g.own b=1
 npr:∀ o,¬ g.pr b o
 cell:∃ t,g.w.heap[b]?=some (.cells #[v] t (0,0))
theorem VarM.st {g g':G} {v:Value} {S:List Nat} (h:VarM g b v) (st:Step S g g') (hj:1 ∉ S):VarM g' b v:=by
 obtain ⟨k1,k2,k3⟩:=st.same b h.lt (by rw [h.own];exact hj)
 obtain ⟨t,ht⟩:=h.cell
 exact ⟨Nat.lt_of_lt_of_le h.lt st.le.size,k3.trans h.own,fun o=>by rw [k2];exact h.npr o,t,k1.trans ht⟩
def pNH0 (b j:Nat) (m:List (ByteArray × Int)):Pd where
 p:=fun g _=>(∃ v,VarM g b v) ∧ ∃ c l clock,MapM g j c m l clock
 fp:=[1,j + 1]
 st:=fun {S g g' v} st hd ⟨⟨u,h1⟩,c,l,clock,h2⟩=>⟨⟨u,h1.st st (hd _ (by simp))⟩,c,l,clock,h2.st st (hd _ (by simp))⟩
def pNH (b j:Nat) (m:List (ByteArray × Int)):Pd where
 p:=fun g _=>∃ c l clock,VarM g b (.map (some c)) ∧ MapM g j c m l clock
 fp:=[1,j + 1]
 st:=fun {S g g' v} st hd ⟨c,l,clock,h1,h2⟩=>⟨c,l,clock,h1.st st (hd _ (by simp)),h2.st st (hd _ (by simp))⟩
def Zez (j:Nat):Pd where
 p:=fun g u=>∃ c,u=.map (some c) ∧ c < g.w.heap.size ∧ g.own c=j + 1
 fp:=[j + 1]
 st:=fun {S g g' v} st hd ⟨c,e,h1,h2⟩=>by
   obtain ⟨k1,k2,k3⟩:=st.same c h1 (by rw [h2];exact hd _ (by simp))
   exact ⟨c,e,Nat.lt_of_lt_of_le h1 st.le.size,k3.trans h2⟩
theorem Zmo {k:Zi} {a:Act} {g:G} {L:Zf} {s:Nat} (h:St N ((0,Zbz (some b) Z4 0 k) :: (s,Zb4 j m) :: L) a g):St N ((0,pEq (ptrB b 0)) :: (s,Zez j) :: (1002,pNH0 b j m) :: L) a g:=by
 obtain ⟨b',cs,t,hv,⟨m1,m2,m3,m4,m5,m6⟩,hb'⟩:=h.h _ (List.mem_cons_self ..)
 obtain rfl:=hb' _ rfl
 obtain ⟨c,l,clock,hc,c1,c2,c3,c4⟩:=h.h (s,Zb4 j m) (by simp)
 have hl:=Z4.len m5
 obtain ⟨u,rfl⟩:=List.length_eq_one_iff.1 hl
 refine ⟨h.size,h.df,fun en he=>?_⟩
 rcases List.mem_cons.1 he with rfl | he
 · exact hv
 rcases List.mem_cons.1 he with rfl | he
 · exact ⟨c,hc,c4.1,c1⟩
 rcases List.mem_cons.1 he with rfl | he
 · exact ⟨⟨u,m1,m2,m6,t,m4⟩,c,l,clock,c1,c2,c3,c4⟩
 · exact h.h en (by simp [he])
theorem Zmi {t s:Nat} (hT:Ty P t Kd.mapS) (hop:o.op=.store t x y) (hd:o.dst=none) (hs:Opd uses (.tmp s) (pNH0 b j m)) (hx:Opd uses x (pEq (ptrB b 0))) (hy:Opd uses y (Zez j)):OB P N o uses [(s,pNH b j m)] [1] :=
 Zf0 hd fun a g hh=>by
   obtain ⟨⟨v0,hV⟩,c,l,clock,hM⟩:=hs a g hh
   have hxv:a.eval x=.pointer (some ⟨b,0,none⟩):=hx a g hh
   obtain ⟨c',hyv,hlt,ho⟩:=hy a g hh
   obtain rfl:=hM.uniq c' hlt ho
   obtain ⟨t0,ht⟩:=hV.cell
   let gl:G:=g.lend (fun k=>k=c') (fun k h=>h ▸ hM.map.1)
   have hk:Kd.mapS.K gl m [.map (some c')]:=.inr ⟨c',l,clock,rfl,fun o=>.inr rfl,hM.map⟩
   have hst:=Zdr (P:=P) (g:=gl) (off:=0) hT ht hk (by simp)
   have hstep:Step [1] g (g.wr b #[.map (some c')] hV.lt hV.npr (fun _=>False) 1):=Zf1 hV.own (.inr rfl) hV.npr
   have hcb:c' ≠ b:=fun h=>by
     have h1:=hM.map.2.1
     rw [h,ht] at h1
     cases h1
   refine ⟨g.wr b #[.map (some c')] hV.lt hV.npr (fun _=>False) 1,?_,hstep,fun en he=>?_⟩
   · have hst:(storeVar t ⟨b,0,none⟩ (mkV Kd.mapS.ag [.map (some c')])).run P g.w=_:=hst
     have hmk:mkV Kd.mapS.ag [.map (some c')]=.map (some c'):=rfl
     rw [hmk] at hst
     simp [execOp,hop,hxv,hyv,Instr.storeAt,Instr.sureAddr,hst,wr_w]
     rfl
   · rw [List.mem_singleton.1 he]
     refine ⟨c',l,clock,⟨by rw [wr_w,Zbv];exact hV.lt,by simp [G.wr],fun o=>by simp [G.wr],t0,by rw [wr_w];exact setRow_heap _ _ _ _ _ _ ht⟩,?_⟩
     refine ⟨by simp [G.wr,hcb,hM.own],fun b' hb' ho'=>?_,fun o=>by simp only [G.wr];rw [if_neg hcb];exact hM.npr o,by rw [wr_w,Zbv];exact hM.map.1,by rw [wr_w];exact (setRow_other _ _ _ _ hcb).trans hM.map.2.1,hM.map.2.2⟩
     rw [wr_w,Zbv] at hb'
     simp only [G.wr] at ho'
     split at ho'
     · rename_i h
       have:j=0:=by omega
       subst this
       have:=hM.uniq b hV.lt hV.own
       exact absurd this.symm hcb
     · exact hM.uniq b' hb' ho'
theorem Zm4 {f:FuncId} {s:Nat} {ty:Array TypeId} (he:Zj P f) (hok:FnL P f [Z4.ptr ⟨m⟩] q) (hop:o.op=.call { callee:=.value (.func f),args:=#[x],argTypes:=ty }) (hd:o.dst=some d) (hs:Opd uses (.tmp s) (pNH b j m)) (hx:Opd uses x (pEq (ptrB b 0))):OB P N o uses [(d,q)] []:=by
 intro a g K Q hN hdN hu hK
 obtain ⟨c,l,clock,hV,hM⟩:=hs a g hu
 have hv:a.eval x=.pointer (some ⟨b,0,none⟩):=hx a g hu
 obtain ⟨t,ht⟩:=hV.cell
 have hr:(execOp a.eval o).run P g.w=.ok (.enter f #[.pointer (some ⟨b,0,none⟩)]) g.w:=by
   simp [execOp,hop,resolve,Zf5,Deferred.ofValue,invoke,Zd6 he,hv]
 unfold Oper.wp
 rw [hr]
 show Calls P f _ g.w _
 obtain ⟨D,hD,hn,hDB,hp⟩:=Zju (m:=m) hV.lt ht hV.npr (.inr ⟨c,l,clock,rfl,hM.npr,hM.map⟩)
 refine Calls.mono (hok (g.lend D hD) [.pointer (some ⟨b,0,none⟩)] (Zdp hp Zeu)) ?_
 rintro en w' ⟨g',v,rfl,rfl,hs',hq⟩
 obtain ⟨g2,e1,e2,hs2⟩:=Zjy hn hs'
 rw [← e1]
 refine hK v g2 hs2 fun e he=>?_
 rw [List.mem_singleton.1 he,hd,Zcf v (by rw [hN];exact hdN d hd)]
 exact hq g2 e1 (fun b' o hb' hp=>(e2 b' o).2 ⟨hp,fun h=>by have:=hD b' h;have hb':g.w.heap.size ≤ b':=hb';omega⟩)
theorem Zox {s:Nat} (hm:P.underlying mt=some (.map kt et)) (hop:o.op=.call { callee:=.builtin .len,args:=#[x],argTypes:=#[mt] }) (hd:o.dst=some d) (hs:Opd uses (.tmp s) (pNH b j m)) (hx:Opd uses x (Zez j)):OB P N o uses [(d,pInt .i64 (m.length:Int))] [] :=
 Zbd hd fun a g hh=>by
   obtain ⟨c,l,clock,hV,hM⟩:=hs a g hh
   obtain ⟨c',hv,hlt,ho⟩:=hx a g hh
   obtain rfl:=hM.uniq c' hlt ho
   rw [← hM.map.2.2.len]
   exact ⟨.int .i64 (l.length:Int),by simp [execOp,hop,resolve,invoke,builtin,Builtin.len_,run_underlying hm,hv,goInt,MapKept.run_getObj_map hM.map.2.1,Result.andThen],Zds _ _ g⟩
theorem Zpc {s s4 : Nat} {k : ByteArray} {tys : Array TypeId} (hj : j ≠ 0) (ht : tys[0]? = some mt) (hm : P.underlying mt = some (.map kt et)) (hk : P.underlying kt = some .string) (hop : o.op = .call { callee := .builtin .delete, args := #[x, y], argTypes := tys }) (hd : o.dst = none)
   (hs:Opd uses (.tmp s) (pNH b j m)) (h4:Opd uses (.tmp s4) (Zez j)) (hx:Opd uses x (Zez j)) (hy:Opd uses y (pStr k)):OB P N o uses [(s,pNH b j (delS m k)),(s4,Zez j)] [j + 1] :=
 Zpf hd fun a g hh=>by
   obtain ⟨c,l,clock,hV,hM⟩:=hs a g hh
   obtain ⟨c',hv,hlt,ho⟩:=hx a g hh
   obtain rfl:=hM.uniq c' hlt ho
   obtain ⟨c4,hv4,hlt4,ho4⟩:=h4 a g hh
   have hky:=Zdz.1 (hy a g hh)
   obtain ⟨l',hr,hrel⟩:=Zk4 (k:=k) (ty:=o.type) ht hm hk hM.map
   have hst:Step [j + 1] g (g.putO c' (.map (l'.map ent).toArray clock) hM.npr):=by have:=Zhl (ob:=.map (l'.map ent).toArray clock) hM.npr;rw [hM.own] at this;exact this
   refine ⟨.tuple #[],g.putO c' (.map (l'.map ent).toArray clock) hM.npr,by simp [execOp,hop,resolve,invoke,builtin,hv,hky,hr];rfl,hst,fun e he=>?_⟩
   rcases List.mem_cons.1 he with rfl | he
   · refine ⟨c',l',clock,hV.st hst (by simp;omega),hM.own,fun b' hb' ho=>hM.uniq b' (by have hb':b' < (World.put _ _ _).heap.size:=hb';rw [Zcm] at hb';exact hb') ho,hM.npr,by show c' < (World.put _ _ _).heap.size;rw [Zcm];exact hM.map.1,Zkw _ _ _ hM.map.1,hrel⟩
   · rw [List.mem_singleton.1 he]
     exact ⟨c4,hv4,by show c4 < (World.put _ _ _).heap.size;rw [Zcm];exact hlt4,ho4⟩
def Zlh (b:Nat) (m1:Zi) (g0:G) (q:Pd) (v:Value) (g1:G):Prop:=Base g0 g1 ∧ q.p g1 v ∧ ∃ j m2 u,j ≠ 0 ∧ m2.Perm m1.by_ ∧ (pNH b j m2).p g1 u
open Classical in
theorem Zp5 {x0 x1 : Zi} {f : FuncId} {fn : Func} {cd : Code} {A : List Pd} (hf : P.funcs[f]? = some fn) (hb : fn.body = some cd) (hn : fn.ntmps = N) (hAN : A.length + 1 ≤ N) (hA : Free A) (hq : q.fp = [])
   (h:∀ (a:Act) (g:G) (b:Nat),St N ((0,Zbz (some b) Z4 0 x0) :: Zeq A 1) a g → Base g g → cd.wp P (bodyPost P fn (FinP (Zlh b x1 g q))) a g.w):FnMR P f Zq x0 x1 A q:=by
 intro g b B args hR hbl hB hargs
 obtain ⟨mv,t,hh,hnp,hm⟩:=hR
 have hmv:∀ c,mv=some c → c < g.w.heap.size ∧ c ≠ b ∧ B c:=fun c e=>by
   rcases hm with ⟨e',_⟩ | ⟨c',l,clock,e',hBc,hp,h1,h2,h3⟩
   · rw [e] at e';cases e'
   · rw [e] at e';obtain rfl:=Option.some.inj e'
     exact ⟨h1,(hB c hBc).2,hBc⟩
 let gp:G:=g.lend (fun c=>mv=some c) (fun c e=>(hmv c e).1)
 have hlp:g.le gp:=Zll ..
 let own:Nat → Nat:=fun c=>if c=b then 1 else 0
 let g0:G:=⟨gp.w,gp.pr,own,gp.hpr,gp.gl⟩
 have hargs':ArgsOk A gp args:=hargs.le hA hlp rfl rfl rfl
 have hbox:(Zbz (some b) Z4 0 x0).p g0 (.pointer (some ⟨b,0,none⟩)):=by
   refine ⟨b,[.map mv],t,rfl,⟨hbl,if_pos rfl,fun b' _ e=>?_,hh,Zi3.2 ?_,fun o h=>?_⟩,fun b' e=>Option.some.inj e⟩
   · have e:(if b'=b then 1 else 0)=1:=e
     split at e
     · assumption
     · omega
   · rcases hm with ⟨e',h⟩ | ⟨c',l,clock,e',hBc,hp,h1⟩
     · exact .inl ⟨by rw [e'],h⟩
     · subst e';exact .inr ⟨c',l,clock,rfl,fun o=>.inr rfl,h1⟩
   · rcases h with h | h
     · exact hnp o h
     · exact (hmv b h).2.1 rfl
 have hst:=Zjt (fn:=fn) (own:=own) hn hAN hA hargs' hbox
 have hbase:Base g0 g0:=⟨.refl _,rfl,rfl,rfl,fun _ _ h=>⟨rfl,rfl,h⟩⟩
 refine Calls.mono (calls_of_wp hf hb (h _ g0 b hst hbase)) ?_
 rintro en w' ⟨g1,v,rfl,rfl,hBs,hqv,j,m2,u,hj,hpm,c,l,clock,hV,hM⟩
 obtain ⟨t1,ht1⟩:=hV.cell
 have hcb:c ≠ b:=fun h=>by have:=hM.own;rw [h,hV.own] at this;omega
 have hcn:g.w.heap.size ≤ c:=Nat.le_of_not_lt fun hlt=>by
   have h0:own c=0:=if_neg hcb
   have:=(hBs.same c hlt h0).2.2
   rw [hM.own] at this;omega
 refine ⟨g1,v,fun c'=>c'=c,rfl,rfl,⟨hlp.trans ⟨hBs.le.size,hBs.le.pr,hBs.le.cell,hBs.le.blk,hBs.le.dr⟩,hBs.os,hBs.tape,hBs.output,fun c' hc' hn'=>?_⟩,⟨some c,t1,ht1,hV.npr,.inr ⟨c,l,clock,rfl,rfl,hM.npr,hM.map.1,hM.map.2.1,hM.map.2.2.perm.trans hpm,hM.map.2.2.born,hM.map.2.2.ahead,((hpm.map (·.1)).nodup_iff).1 hM.map.2.2.keys⟩⟩,fun c' hc'=>?_,hqv⟩
 · have hne:c' ≠ b:=fun e=>hn' (.inl e)
   have h0:own c'=0:=if_neg hne
   obtain ⟨k1,k2,_⟩:=hBs.same c' hc' h0
   refine ⟨k1,k2.trans ?_⟩
   funext o
   show (g.pr c' o ∨ mv=some c')=g.pr c' o
   have:mv ≠ some c':=fun e=>hn' (.inr (hmv c' e).2.2)
   simp [this]
 · subst hc'
   exact ⟨.inr hcn,hM.map.1⟩
theorem Zos {fn:Func} {a:Act} {g g0:G} {L:Zf} {m1:Zi} {u:Value} (hr:fn.results=#[]) (h:St N L a g) (hb:Base g0 g) (hj:j ≠ 0) (hp:m.Perm m1.by_) (hq:(pNH b j m).p g u):bodyPost P fn (FinP (Zlh b m1 g0 (pTup []))) .normal a g.w :=
 ⟨h.df,_,by simp [Zgg,hr],g,_,rfl,rfl,hb,⟨[],rfl,rfl,fun i q u h=>by simp at h⟩,j,m,u,hj,hp,hq⟩
theorem Zom {k:Zi} {c:Option Nat} {g:G} {v:Value} (h:(Zbz c Z4 j k).p g v):(k.by_.map (·.1)).Nodup:=by
 obtain ⟨b',cs,t,hv,⟨m1,m2,m3,m4,m5,m6⟩,hb'⟩:=h
 obtain ⟨u,rfl⟩:=List.length_eq_one_iff.1 (Z4.len m5)
 rcases Zi3.1 m5 with ⟨_,h⟩ | ⟨_,l,clock,_,_,_,_,h⟩
 · rw [h];exact List.nodup_nil
 · exact h.keys
theorem Zq2 {g:G} {v:Value} (h:(pNH b j m).p g v):(m.map (·.1)).Nodup:=by
 obtain ⟨c,l,clock,_,h⟩:=h
 exact h.map.2.2.keys
theorem Znk {a:Act} {g:G} {s:Nat} {L:Zf} {m':List (ByteArray × Int)} (hp:m.Perm m') (h:St N ((s,Zb4 j m) :: L) a g):St N ((s,Zb4 j m') :: L) a g:=⟨h.size,h.df,fun en he=>by
 rcases List.mem_cons.1 he with rfl | he
 · exact Znw hp (h.h _ (List.mem_cons_self ..))
 · exact h.h en (List.mem_cons_of_mem _ he)⟩
end
section
variable {P:Program} {N:Nat} {o:Oper} {uses outs:Zf} {S:List Nat} {d:Nat} {q:Pd} {x y z:Operand}
theorem Zqo {t ty : TypeId} {α : Type} {dk : Kd α} {u v : α} {f1 : α → ByteArray} {f2 : α → Int} (hag : dk.ag = true) (hK : ∀ g x cs, dk.K g x cs → cs = [.string (f1 x), .int .i64 (f2 x)]) (hu : P.underlying t = some (.struct (P.fieldsOf t))) (hp : P.stoodInHeld t = false) (hm : P.eqGuardType P.depth t = false)
   (heq:∀ (w:World) (a1 a2:ByteArray) (n1 n2:Int),(Op.eqFields 9999 #[.string a1,.int .i64 n1] #[.string a2,.int .i64 n2] (P.fieldsOf t).toList).run P w=.ok (a1.toList == a2.toList && n1 == n2) w)
   (hop:o.op=.binOp .eql t x y ty) (hd:o.dst=some d) (hx:Opd uses x (dk.pd u)) (hy:Opd uses y (dk.pd v)):OB P N o uses [(d,Zn (sEq (f1 u) (f1 v) && f2 u == f2 v))] [] :=
 Zbd hd fun a g hh=>by
   obtain ⟨cs,k1,e1⟩:=hx a g hh
   obtain ⟨cs',k2,e2⟩:=hy a g hh
   obtain rfl:=hK g u cs k1
   obtain rfl:=hK g v cs' k2
   rw [hag] at e1 e2
   have e1:a.eval x=.agg #[.string (f1 u),.int .i64 (f2 u)]:=e1
   have e2:a.eval y=.agg #[.string (f1 v),.int .i64 (f2 v)]:=e2
   refine ⟨.bool (sEq (f1 u) (f1 v) && f2 u == f2 v),?_,Zc6 _ g⟩
   have hb:(binOp .eql t (.agg #[.string (f1 u),.int .i64 (f2 u)]) (.agg #[.string (f1 v),.int .i64 (f2 v)])).run P g.w=.ok (.bool (sEq (f1 u) (f1 v) && f2 u == f2 v)) g.w:=by
     rw [run_eql_struct,run_equalIn_agg g.w 9999 t _ _ hu hp,heq]
     rfl
   have hg:=run_eqGuard_agg (P:=P) g.w .eql t x y #[.string (f1 u),.int .i64 (f2 u)] #[.string (f1 v),.int .i64 (f2 v)] hm
   simp [execOp,hop,e1,e2,hg,hb]
end
end Go.CL
namespace Go.CL
open Go Go.RowKit
structure Ze where
 Key:ByteArray
 Score:Int
 deriving Inhabited
structure Zck where
 word:ByteArray
 on:Int
 has:ByteArray
 deriving Inhabited
structure Zdo where
 Score:Nat
 Name:ByteArray
 deriving Inhabited
structure Zv where
 Kind:Int
 Num:Int
 Low:Int
 High:Int
 Real:Nat
 Cap:Int
 Text:ByteArray
 List:List Zdo
 deriving Inhabited
structure Zo where
 Kind:Int
 Key:ByteArray
 N:Int
 X:Nat
 S:ByteArray
 Make:Zv
 Must:Bool
 deriving Inhabited
structure Zz where
 Acts:List Zo
 deriving Inhabited
structure Zr where
 Number:Int
 Deals:List Zz
 deriving Inhabited
structure Za where
 Key:ByteArray
 Score:Int
 deriving Inhabited
def g_0:List Zck:=[{ word:=⟨#[]⟩,on:=(0),has:=⟨#[]⟩ },
 { word:=⟨#[110,101,119]⟩,on:=(0),has:=⟨#[109]⟩ },
 { word:=⟨#[100,114,111,112]⟩,on:=(0),has:=⟨#[]⟩ },
 { word:=⟨#[105,115]⟩,on:=(0),has:=⟨#[]⟩ },
 { word:=⟨#[108,111,111,107]⟩,on:=(0),has:=⟨#[]⟩ },
 { word:=⟨#[112,117,116]⟩,on:=(1),has:=⟨#[115]⟩ },
 { word:=⟨#[115,119,97,112]⟩,on:=(1),has:=⟨#[115]⟩ },
 { word:=⟨#[97,100,100]⟩,on:=(2),has:=⟨#[110]⟩ },
 { word:=⟨#[112,108,117,115]⟩,on:=(3),has:=⟨#[110]⟩ },
 { word:=⟨#[114,101,97,99,104]⟩,on:=(3),has:=⟨#[110]⟩ },
 { word:=⟨#[105,110]⟩,on:=(4),has:=⟨#[110]⟩ },
 { word:=⟨#[111,117,116]⟩,on:=(4),has:=⟨#[110]⟩ },
 { word:=⟨#[101,110,111,117,103,104]⟩,on:=(4),has:=⟨#[110]⟩ },
 { word:=⟨#[114,97,105,115,101]⟩,on:=(5),has:=⟨#[120]⟩ },
 { word:=⟨#[108,111,119,101,114]⟩,on:=(6),has:=⟨#[120]⟩ },
 { word:=⟨#[115,104,105,102,116]⟩,on:=(7),has:=⟨#[120]⟩ },
 { word:=⟨#[115,99,97,108,101]⟩,on:=(7),has:=⟨#[120]⟩ },
 { word:=⟨#[102,105,120]⟩,on:=(7),has:=⟨#[120]⟩ },
 { word:=⟨#[106,111,105,110]⟩,on:=(8),has:=⟨#[115]⟩ },
 { word:=⟨#[108,101,97,118,101]⟩,on:=(8),has:=⟨#[115]⟩ },
 { word:=⟨#[104,97,115]⟩,on:=(8),has:=⟨#[115]⟩ },
 { word:=⟨#[111,102,102,101,114]⟩,on:=(9),has:=⟨#[120,115]⟩ }]
def Zc4 (a0:List Int):Nat → (Int) → Option ((Int) ⊕ (Unit))
 | 0,_=>none
 | n + 1,x1=>(if (decide (x1 < (a0.length:Int))) then ((idx a0 x1).bind fun e3=>(if (e3 != (0:Int)) then (some (.inl e3)) else ((Zc4 a0 n) (IntKind.i64.wrap (x1 + (1:Int)))))) else (some (.inr ())))
def Zep (a0:List Int):Option (Int):=((Zc4 a0 (Int.toNat ((a0.length:Int) - (0:Int)) + 1) (0:Int)).bind fun z6=>match z6 with | .inl r=>some r | .inr ()=>(some (0:Int)))
def Zd0 (a0:Int):Option (Bool):=(some (a0 != a0))
def Zdl (a0:Int) (a1:Int):Option (Int):=((Zd0 a0).bind fun r1=>((Zd0 a1).bind fun r3=>(if r1 then (if r3 then (some (0:Int)) else (some (-1:Int))) else (if r3 then (some (1:Int)) else (if (decide (a0 < a1)) then (some (-1:Int)) else (if (decide (a1 < a0)) then (some (1:Int)) else (some (0:Int))))))))
def Zdd (a0:ByteArray):Option (Bool):=(some (!sEq a0 a0))
def Zcx (a0:ByteArray) (a1:ByteArray):Option (Int):=((Zdd a0).bind fun r1=>((Zdd a1).bind fun r3=>(if r1 then (if r3 then (some (0:Int)) else (some (-1:Int))) else (if r3 then (some (1:Int)) else (if (sLt a0 a1) then (some (-1:Int)) else (if (!(sLt a0 a1 || sEq a0 a1)) then (some (1:Int)) else (some (0:Int))))))))
def Zk (a0:Ze) (a1:Ze):Option (Int):=((Zdl a1.Score a0.Score).bind fun r1=>((Zcx a0.Key a1.Key).bind fun r3=>((Zep ([r1,r3]:List Int)).bind fun r5=>(some r5))))
def Zs (e:ByteArray × Int):Ze:=⟨e.1,e.2⟩
def Z8 (l:List Ze):List Ze:=l.mergeSort fun x y=>!decide ((Zk y x).getD 0 < 0)
def Z0 (a0:Zi):Option (List Ze):=if a0.by_.length * 24 ≤ 140737488355328 then some (Z8 (a0.by_.map Zs)) else none
def Ziv (a0:Int):Option (Zck):=(if ((decide (a0 ≤ (0:Int))) || (decide ((22:Int) ≤ a0))) then (some ({ word:=ByteArray.empty,on:=(0:Int),has:=ByteArray.empty }:Zck)) else ((idx g_0 a0).bind fun e2=>(some e2)))
def Ze3 (a0:Int):Option (Int):=((Ziv a0).bind fun r1=>(some r1.on))
def Zbm (a0:Int) (a1:Int) (j8:Bool):Option (Bool):=(if j8 then ((Ze3 a1).bind fun r10=>(some (r10 == a0))) else (some false))
def Zd9 (a0:Int) (a1:Int):Option (Bool):=(if (a1 == (7:Int)) then (Zbm a0 a1 (a1 == (7:Int))) else (if (a1 == (8:Int)) then (Zbm a0 a1 (a1 == (8:Int))) else (if (a1 == (10:Int)) then (Zbm a0 a1 (a1 == (10:Int))) else (if (a1 == (11:Int)) then (Zbm a0 a1 (a1 == (11:Int))) else (if (a1 == (13:Int)) then (Zbm a0 a1 (a1 == (13:Int))) else (if (a1 == (14:Int)) then (Zbm a0 a1 (a1 == (14:Int))) else (if (a1 == (18:Int)) then (Zbm a0 a1 (a1 == (18:Int))) else (Zbm a0 a1 (a1 == (21:Int))))))))))
def Zh (m:List (ByteArray × Int)):List (ByteArray × Int):=(m.filter fun e=>decide (1 < e.2)).map fun e=>(e.1,IntKind.i64.wrap (Int.tdiv e.2 2))
def Zfn (nx:List (ByteArray × Int)) (a:Zo):Option (List (ByteArray × Int)):=(Ze3 a.Kind).bind fun o=>(Zd9 o a.Kind).bind fun b=>some (if b then setS nx a.Key (IntKind.i64.wrap ((getS nx a.Key).getD 0 + 1)) else nx)
def Zd7:List Zo → List (ByteArray × Int) → Option (List (ByteArray × Int))
 | [],nx=>some nx
 | a :: l,nx=>(Zfn nx a).bind fun y=>Zd7 l y
def Zef:List Zz → List (ByteArray × Int) → Option (List (ByteArray × Int))
 | [],nx=>some nx
 | d :: l,nx=>(Zd7 d.Acts nx).bind fun y=>Zef l y
def Zda (c:List Ze) (m:List (ByteArray × Int)):List (ByteArray × Int):=c.foldl (fun z x=>delS z x.Key) m
def Zbf (nx:List (ByteArray × Int)):List (ByteArray × Int):=((Z8 (nx.map Zs)).take 256).map fun x=>(x.Key,x.Score)
def Z5 (a0:Zi) (a1:Zr):Option (Zi × Unit):=(Zef a1.Deals (Zh a0.by_)).bind fun nx=>(Z0 ⟨nx⟩).bind fun _=>some (⟨Zbf nx⟩,())
def Zb3 (a0:Zi) (a1:ByteArray):Option Int:=some ((getS a0.by_ a1).getD 0)
def Zb6 (a0:Zi):Option Int:=some (a0.by_.length:Int)
def Zcv:Option (Bool):=((Z5 (⟨[]⟩:Zi) ({ Number:=(0:Int),Deals:=([({ Acts:=([({ Kind:=(7:Int),Key:=(⟨#[97]⟩:ByteArray),N:=(1:Int),X:=(0:Nat),S:=ByteArray.empty,Make:=(default:Zv),Must:=false }:Zo),({ Kind:=(7:Int),Key:=(⟨#[97]⟩:ByteArray),N:=(1:Int),X:=(0:Nat),S:=ByteArray.empty,Make:=(default:Zv),Must:=false }:Zo)]:List Zo) }:Zz),({ Acts:=([({ Kind:=(7:Int),Key:=(⟨#[97]⟩:ByteArray),N:=(1:Int),X:=(0:Nat),S:=ByteArray.empty,Make:=(default:Zv),Must:=false }:Zo)]:List Zo) }:Zz)]:List Zz) }:Zr)).bind fun r1=>((Z5 r1.1 ({ Number:=(0:Int),Deals:=([]:List Zz) }:Zr)).bind fun r3=>((Z0 r3.1).bind fun r5=>((gd (!false) (Zb3 r1.1 (⟨#[97]⟩:ByteArray))).bind fun r7=>((gd ((!false) && (r7 == (3:Int))) (Zb3 r3.1 (⟨#[97]⟩:ByteArray))).bind fun r9=>((gd (((!false) && (r7 == (3:Int))) && (r9 == (1:Int))) (Zb6 r3.1)).bind fun r11=>((gd (((((!false) && (r7 == (3:Int))) && (r9 == (1:Int))) && (r11 == (1:Int))) && ((r5.length:Int) == (1:Int))) (idx r5 (0:Int))).bind fun e13=>(some ((((((!false) && (r7 == (3:Int))) && (r9 == (1:Int))) && (r11 == (1:Int))) && ((r5.length:Int) == (1:Int))) && (sEq e13.Key ({ Key:=(⟨#[97]⟩:ByteArray),Score:=(1:Int) }:Ze).Key && e13.Score == ({ Key:=(⟨#[97]⟩:ByteArray),Score:=(1:Int) }:Ze).Score))))))))))
def Zbq (a0:Zv):Nat → (Int) → Option ((Int) ⊕ (Unit))
 | 0,_=>none
 | n + 1,x2=>(if (decide (x2 < (a0.List.length:Int))) then ((idx a0.List x2).bind fun e4=>(if (decide ((100:Int) < (e4.Name.size:Int))) then (some (.inl (1:Int))) else ((Zbq a0 n) (IntKind.i64.wrap (x2 + (1:Int)))))) else (some (.inr ())))
def Zc0 (a0:Zv):Option (Int):=(if ((decide ((100:Int) < (a0.List.length:Int))) || (decide ((1000:Int) < (a0.Text.size:Int)))) then (some (1:Int)) else ((Zbq a0 (Int.toNat ((a0.List.length:Int) - (0:Int)) + 1) (0:Int)).bind fun z7=>match z7 with | .inl r=>some r | .inr ()=>(some (0:Int))))
def Zdg (a0:Zo):Option (Int):=((gd (!((decide ((200:Int) < (a0.Key.size:Int))) || (decide ((1000:Int) < (a0.S.size:Int))))) (Zc0 a0.Make)).bind fun r1=>(if (((decide ((200:Int) < (a0.Key.size:Int))) || (decide ((1000:Int) < (a0.S.size:Int)))) || (decide ((0:Int) < r1))) then (some (1:Int)) else (some (0:Int))))
def Zbs (a0:Zz):Nat → (Int) → Option ((Int) ⊕ (Unit))
 | 0,_=>none
 | n + 1,x2=>(if (decide (x2 < (a0.Acts.length:Int))) then ((idx a0.Acts x2).bind fun e4=>((Zdg e4).bind fun r6=>(if (decide ((0:Int) < r6)) then (some (.inl (1:Int))) else ((Zbs a0 n) (IntKind.i64.wrap (x2 + (1:Int))))))) else (some (.inr ())))
def Zdn (a0:Zz):Option (Int):=(if (decide ((40:Int) < (a0.Acts.length:Int))) then (some (1:Int)) else ((Zbs a0 (Int.toNat ((a0.Acts.length:Int) - (0:Int)) + 1) (0:Int)).bind fun z9=>match z9 with | .inl r=>some r | .inr ()=>(some (0:Int))))
def Zbr (a0:List Zz):Nat → (Int) → Option ((Int) ⊕ (Unit))
 | 0,_=>none
 | n + 1,x2=>(if (decide (x2 < (a0.length:Int))) then ((idx a0 x2).bind fun e4=>((Zdn e4).bind fun r6=>(if (decide ((0:Int) < r6)) then (some (.inl (1:Int))) else ((Zbr a0 n) (IntKind.i64.wrap (x2 + (1:Int))))))) else (some (.inr ())))
def Zdk (a0:List Zz):Option (Int):=(if (decide ((40:Int) < (a0.length:Int))) then (some (1:Int)) else ((Zbr a0 (Int.toNat ((a0.length:Int) - (0:Int)) + 1) (0:Int)).bind fun z9=>match z9 with | .inl r=>some r | .inr ()=>(some (0:Int))))
def Zbn (a0:List Zr):Nat → (Int) → Option ((Bool) ⊕ (Unit))
 | 0,_=>none
 | n + 1,x2=>(if (decide (x2 < (a0.length:Int))) then ((idx a0 x2).bind fun e4=>((Zdk e4.Deals).bind fun r6=>(if (decide ((0:Int) < r6)) then (some (.inl true)) else ((Zbn a0 n) (IntKind.i64.wrap (x2 + (1:Int))))))) else (some (.inr ())))
def Zc3 (a0:List Zr):Option (Bool):=(if (decide ((12:Int) < (a0.length:Int))) then (some true) else ((Zbn a0 (Int.toNat ((a0.length:Int) - (0:Int)) + 1) (0:Int)).bind fun z9=>match z9 with | .inl r=>some r | .inr ()=>(some false)))
def Zdh (a0:Int):Option (Bool):=(some ((((((((a0 == (7:Int)) || (a0 == (8:Int))) || (a0 == (10:Int))) || (a0 == (11:Int))) || (a0 == (13:Int))) || (a0 == (14:Int))) || (a0 == (18:Int))) || (a0 == (21:Int))))
def Zdm (a0:Za) (a1:Za):Option (Bool):=(some ((decide (a1.Score < a0.Score)) || ((a0.Score == a1.Score) && (sLt a0.Key a1.Key))))
def Zbj (a0:List Za) (x1:List Za) (x2:Int):Nat → (Int) → Option (Int)
 | 0,_=>none
 | n + 1,x4=>((gd (decide (x4 < (x1.length:Int))) (idx x1 x4)).bind fun e5=>((gd (decide (x4 < (x1.length:Int))) (idx a0 x2)).bind fun e7=>((gd (decide (x4 < (x1.length:Int))) (Zdm e5 e7)).bind fun r9=>(if ((decide (x4 < (x1.length:Int))) && r9) then ((Zbj a0 x1 x2 n) (IntKind.i64.wrap (x4 + (1:Int)))) else (some x4)))))
def Zbi (a0:List Za):Nat → (List Za) → (Int) → Option (List Za)
 | 0,_,_=>none
 | n + 1,x1,x2=>(if (decide (x2 < (a0.length:Int))) then ((Zbj a0 x1 x2 (Int.toNat ((x1.length:Int) - (0:Int)) + 1) (0:Int)).bind fun z13=>match z13 with | y12=>((cut x1 (0:Int) y12).bind fun c14=>(if (([]:List Za).length + c14.length) * 24 ≤ 140737488355328 then ((idx a0 x2).bind fun e17=>(if ((([]:List Za) ++ c14).length + ([e17]:List Za).length) * 24 ≤ 140737488355328 then ((cut x1 y12 (x1.length:Int)).bind fun c20=>(if (((([]:List Za) ++ c14) ++ ([e17]:List Za)).length + c20.length) * 24 ≤ 140737488355328 then ((Zbi a0 n) (((([]:List Za) ++ c14) ++ ([e17]:List Za)) ++ c20) (IntKind.i64.wrap (x2 + (1:Int)))) else none)) else none)) else none))) else (some x1))
def Zcy (a0:List Za):Option (List Za):=((Zbi a0 (Int.toNat ((a0.length:Int) - (0:Int)) + 1) ([]:List Za) (0:Int)).bind fun z24=>match z24 with | y23=>(some y23))
def Zcp (j58:List Za):Option (List Za):=(some j58)
def Zb5 (x19:Int) (kk:(List Za) → (Int) → Option (List Za)) (j48:List Za):Option (List Za):=(kk j48 (IntKind.i64.wrap (x19 + (1:Int))))
def Zcr (x32:Int) (kk:(List Za) → (Bool) → (Int) → Option ((List Za) × Bool)) (j41:List Za) (j42:Bool):Option ((List Za) × Bool):=(kk j41 j42 (IntKind.i64.wrap (x32 + (1:Int))))
def Z9 (e25:Zo):Nat → (List Za) → (Bool) → (Int) → Option ((List Za) × Bool)
 | 0,_,_,_=>none
 | n + 1,x30,x31,x32=>(if (decide (x32 < (x30.length:Int))) then ((idx x30 x32).bind fun e34=>(if (sEq e34.Key e25.Key) then ((idx x30 x32).bind fun e37=>((idx x30 x32).bind fun e39=>(Zcr x32 (Z9 e25 n) (x30.set (Int.toNat x32) { e39 with Score:=(IntKind.i64.wrap (e37.Score + (1:Int))) }) true))) else (Zcr x32 (Z9 e25 n) x30 x31))) else (some (x30,x31)))
def Zba (a1:Zr) (x16:Int):Nat → (List Za) → (Int) → Option (List Za)
 | 0,_,_=>none
 | n + 1,x18,x19=>((idx a1.Deals x16).bind fun e20=>(if (decide (x19 < (e20.Acts.length:Int))) then ((idx a1.Deals x16).bind fun e23=>((idx e23.Acts x19).bind fun e25=>((Zdh e25.Kind).bind fun r27=>(if (!r27) then (Zb5 x19 (Zba a1 x16 n) x18) else ((Z9 e25 (Int.toNat ((x18.length:Int) - (0:Int)) + 1) x18 false (0:Int)).bind fun z45=>match z45 with | (y43,y44)=>(if (!y44) then (if (y43.length + ([({ Key:=e25.Key,Score:=(1:Int) }:Za)]:List Za).length) * 24 ≤ 140737488355328 then (Zb5 x19 (Zba a1 x16 n) (y43 ++ ([({ Key:=e25.Key,Score:=(1:Int) }:Za)]:List Za))) else none) else (Zb5 x19 (Zba a1 x16 n) y43))))))) else (some x18)))
def Zbp (a1:Zr):Nat → (List Za) → (Int) → Option (List Za)
 | 0,_,_=>none
 | n + 1,x15,x16=>(if (decide (x16 < (a1.Deals.length:Int))) then ((Zba a1 x16 ((idx a1.Deals x16).elim 0 fun e20=>(Int.toNat ((e20.Acts.length:Int) - (0:Int)) + 1)) x15 (0:Int)).bind fun z50=>match z50 with | y49=>((Zbp a1 n) y49 (IntKind.i64.wrap (x16 + (1:Int))))) else (some x15))
def Zcq (x2:Int) (kk:(List Za) → (Int) → Option (List Za)) (j12:List Za):Option (List Za):=(kk j12 (IntKind.i64.wrap (x2 + (1:Int))))
def Zbe (a0:List Za):Nat → (List Za) → (Int) → Option (List Za)
 | 0,_,_=>none
 | n + 1,x1,x2=>(if (decide (x2 < (a0.length:Int))) then ((idx a0 x2).bind fun e4=>(if (decide ((2:Int) ≤ e4.Score)) then ((idx a0 x2).bind fun e7=>((idx a0 x2).bind fun e9=>(if (x1.length + ([({ Key:=e7.Key,Score:=(IntKind.i64.wrap (Int.tdiv e9.Score (2:Int))) }:Za)]:List Za).length) * 24 ≤ 140737488355328 then (Zcq x2 (Zbe a0 n) (x1 ++ ([({ Key:=e7.Key,Score:=(IntKind.i64.wrap (Int.tdiv e9.Score (2:Int))) }:Za)]:List Za))) else none))) else (Zcq x2 (Zbe a0 n) x1))) else (some x1))
def Zb9 (a0:List Za) (a1:Zr):Option (List Za):=((Zbe a0 (Int.toNat ((a0.length:Int) - (0:Int)) + 1) ([]:List Za) (0:Int)).bind fun z14=>match z14 with | y13=>((Zbp a1 (Int.toNat ((a1.Deals.length:Int) - (0:Int)) + 1) y13 (0:Int)).bind fun z52=>match z52 with | y51=>((Zcy y51).bind fun r53=>(if (decide ((256:Int) < (r53.length:Int))) then ((cut r53 (0:Int) (256:Int)).bind fun c56=>(Zcp c56)) else (Zcp r53)))))
def Zbw (a1:List Za) (r1:List Ze):Nat → (Zi) → (Int) → Option ((Bool × Zi) ⊕ (Zi))
 | 0,_,_=>none
 | n + 1,x6,x7=>(if (decide (x7 < (a1.length:Int))) then ((idx a1 x7).bind fun e9=>((idx r1 x7).bind fun e11=>((gd (!(!sEq e11.Key e9.Key)) (idx r1 x7)).bind fun e13=>((gd (!((!sEq e11.Key e9.Key) || (e13.Score != e9.Score))) (Zb3 x6 e9.Key)).bind fun r15=>(if (((!sEq e11.Key e9.Key) || (e13.Score != e9.Score)) || (r15 != e9.Score)) then (some (.inl (false,x6))) else ((Zbw a1 r1 n) x6 (IntKind.i64.wrap (x7 + (1:Int))))))))) else (some (.inr x6)))
def Zdy (a0:Zi) (a1:List Za):Option (Bool × Zi):=((Z0 a0).bind fun r1=>((gd (!((r1.length:Int) != (a1.length:Int))) (Zb6 a0)).bind fun r3=>(if (((r1.length:Int) != (a1.length:Int)) || (r3 != (a1.length:Int))) then (some (false,a0)) else ((Zbw a1 r1 (Int.toNat ((a1.length:Int) - (0:Int)) + 1) a0 (0:Int)).bind fun z19=>match z19 with | .inl r=>some r | .inr y18=>(some (true,y18))))))
def Zdu (a0:Zi) (a1:List Za):Option (Zi × Bool):=(Zdy a0 a1).bind fun r=>some (r.2,r.1)
def Z3:Nat → (Zi) → (Zi) → (Int) → Option (Zi × Zi)
 | 0,_,_,_=>none
 | n + 1,x20,x21,x22=>(if (decide (x22 < (20:Int))) then ((Z5 x20 ({ Number:=(0:Int),Deals:=([]:List Zz) }:Zr)).bind fun r24=>((Z3 n) r24.1 x21 (IntKind.i64.wrap (x22 + (1:Int))))) else (some (x20,x21)))
def Zbc (a0:List Zr):Nat → (Zi) → (List Za) → (Int) → Option (Zi × (List Za))
 | 0,_,_,_=>none
 | n + 1,x7,x8,x9=>(if (decide (x9 < (a0.length:Int))) then ((idx a0 x9).bind fun e11=>((Z5 x7 e11).bind fun r13=>((Zb9 x8 e11).bind fun r15=>((Zbc a0 n) r13.1 r15 (IntKind.i64.wrap (x9 + (1:Int))))))) else (some (x7,x8)))
def Zc2 (a0:List Zr):Option (Bool):=((Zcv).bind fun r1=>(if (!r1) then (some false) else ((Zc3 a0).bind fun r4=>(if r4 then (some true) else ((Zbc a0 (Int.toNat ((a0.length:Int) - (0:Int)) + 1) (⟨[]⟩:Zi) ([]:List Za) (0:Int)).bind fun z19=>match z19 with | (y17,y18)=>((Z3 (Int.toNat ((20:Int) - (0:Int)) + 1) y17 y17 (0:Int)).bind fun z28=>match z28 with | (y26,y27)=>((Zb6 y26).bind fun r29=>((gd (r29 == (0:Int)) (Z0 y26)).bind fun r31=>((gd ((r29 == (0:Int)) && ((r31.length:Int) == (0:Int))) (Zdu y27 y18)).bind fun r33=>(some (((r29 == (0:Int)) && ((r31.length:Int) == (0:Int))) && r33.2)))))))))))
def Zfw (x:Zdo):Prop:=(x.Score < 2 ^ 64) ∧ (x.Name.size ≤ maxLen)
def Zgv (x:Zv):Prop:=((IntKind.i64).min ≤ x.Kind ∧ x.Kind ≤ (IntKind.i64).max) ∧ ((IntKind.i64).min ≤ x.Num ∧ x.Num ≤ (IntKind.i64).max) ∧ ((IntKind.i64).min ≤ x.Low ∧ x.Low ≤ (IntKind.i64).max) ∧ ((IntKind.i64).min ≤ x.High ∧ x.High ≤ (IntKind.i64).max) ∧ (x.Real < 2 ^ 64) ∧ ((IntKind.i64).min ≤ x.Cap ∧ x.Cap ≤ (IntKind.i64).max) ∧ (x.Text.size ≤ maxLen) ∧ (x.List.length ≤ maxLen ∧ ∀ e0 ∈ x.List,(Zfw e0))
def Zgn (x:Zo):Prop:=((IntKind.i64).min ≤ x.Kind ∧ x.Kind ≤ (IntKind.i64).max) ∧ (x.Key.size ≤ maxLen) ∧ ((IntKind.i64).min ≤ x.N ∧ x.N ≤ (IntKind.i64).max) ∧ (x.X < 2 ^ 64) ∧ (x.S.size ≤ maxLen) ∧ (Zgv x.Make) ∧ True
def Zfv (x:Zz):Prop:=(x.Acts.length ≤ maxLen ∧ ∀ e0 ∈ x.Acts,(Zgn e0))
def Zgp (x:Zr):Prop:=((IntKind.i64).min ≤ x.Number ∧ x.Number ≤ (IntKind.i64).max) ∧ (x.Deals.length ≤ maxLen ∧ ∀ e0 ∈ x.Deals,(Zfv e0))
end Go.CL
namespace Go.CL
open Go Go.RowKit Go.Proofs
theorem Zb:Tryd.prog.follows .mixedOrders=true:=by kernel_rfl
theorem Zsh {α:Type} {l:List α} (h:l.length=2):∃ u0 u1,l=[u0,u1]:=by
 match l,h with
 | [u0,u1],_=>exact ⟨u0,u1,rfl⟩
def Zkl:List (Kd.FK Ze):=[⟨_,Kd.str,0,fun x:Ze=>x.Key⟩,
 ⟨_,(Kd.int .i64),1,fun x:Ze=>x.Score⟩]
def Zl:Kd Ze:=Kd.struct 2 Zkl (by rfl)
theorem Zkg:∀ g,Zl.K g (default:Ze) [.string ByteArray.empty,.int .i64 0]:=fun g=>⟨rfl,(Qc.2 ⟨(rfl),(Qc.2 ⟨(rfl),(fun _ h=>by cases h)⟩)⟩)⟩
def Zlb:List (Kd.FK Zck):=[⟨_,Kd.str,0,fun x:Zck=>x.word⟩,
 ⟨_,(Kd.int .i64),1,fun x:Zck=>x.on⟩,
 ⟨_,Kd.str,2,fun x:Zck=>x.has⟩]
def Zc7:Kd Zck:=Kd.struct 3 Zlb (by rfl)
theorem Zk1:∀ g,Zc7.K g (default:Zck) [.string ByteArray.empty,.int .i64 0,.string ByteArray.empty]:=fun g=>⟨rfl,(Qc.2 ⟨(rfl),(Qc.2 ⟨(rfl),(Qc.2 ⟨(rfl),(fun _ h=>by cases h)⟩)⟩)⟩)⟩
def Zk6:List (Kd.FK Zdo):=[⟨_,Kd.flt,0,fun x:Zdo=>x.Score⟩,
 ⟨_,Kd.str,1,fun x:Zdo=>x.Name⟩]
def Zb8:Kd Zdo:=Kd.struct 2 Zk6 (by rfl)
theorem Zk5:∀ g,Zb8.K g (default:Zdo) [.float .f64 0,.string ByteArray.empty]:=fun g=>⟨rfl,(Qc.2 ⟨(rfl),(Qc.2 ⟨(rfl),(fun _ h=>by cases h)⟩)⟩)⟩
def Zj0:List (Kd.FK Zv):=[⟨_,(Kd.int .i64),0,fun x:Zv=>x.Kind⟩,
 ⟨_,(Kd.int .i64),1,fun x:Zv=>x.Num⟩,
 ⟨_,(Kd.int .i64),2,fun x:Zv=>x.Low⟩,
 ⟨_,(Kd.int .i64),3,fun x:Zv=>x.High⟩,
 ⟨_,Kd.flt,4,fun x:Zv=>x.Real⟩,
 ⟨_,(Kd.int .i64),5,fun x:Zv=>x.Cap⟩,
 ⟨_,Kd.str,6,fun x:Zv=>x.Text⟩,
 ⟨_,Zb8.sl,7,fun x:Zv=>x.List⟩]
def Zcl:Kd Zv:=Kd.struct 8 Zj0 (by rfl)
theorem Zgq:∀ g,Zcl.K g (default:Zv) [.int .i64 0,.int .i64 0,.int .i64 0,.int .i64 0,.float .f64 0,.int .i64 0,.string ByteArray.empty,.slice none 0 0]:=fun g=>⟨rfl,(Qc.2 ⟨(rfl),(Qc.2 ⟨(rfl),(Qc.2 ⟨(rfl),(Qc.2 ⟨(rfl),(Qc.2 ⟨(rfl),(Qc.2 ⟨(rfl),(Qc.2 ⟨(rfl),(Qc.2 ⟨(⟨none,0,rfl,Nat.le_refl _,Nat.zero_le _,.inl rfl⟩),(fun _ h=>by cases h)⟩)⟩)⟩)⟩)⟩)⟩)⟩)⟩)⟩
def Zmb:List (Kd.FK Zo):=[⟨_,(Kd.int .i64),0,fun x:Zo=>x.Kind⟩,
 ⟨_,Kd.str,1,fun x:Zo=>x.Key⟩,
 ⟨_,(Kd.int .i64),2,fun x:Zo=>x.N⟩,
 ⟨_,Kd.flt,3,fun x:Zo=>x.X⟩,
 ⟨_,Kd.str,4,fun x:Zo=>x.S⟩,
 ⟨_,Zcl,5,fun x:Zo=>x.Make⟩,
 ⟨_,Kd.bool,13,fun x:Zo=>x.Must⟩]
def Z1:Kd Zo:=Kd.struct 14 Zmb (by rfl)
theorem Zfc:∀ g,Z1.K g (default:Zo) [.int .i64 0,.string ByteArray.empty,.int .i64 0,.float .f64 0,.string ByteArray.empty,.int .i64 0,.int .i64 0,.int .i64 0,.int .i64 0,.float .f64 0,.int .i64 0,.string ByteArray.empty,.slice none 0 0,.bool false]:=fun g=>⟨rfl,(Qc.2 ⟨(rfl),(Qc.2 ⟨(rfl),(Qc.2 ⟨(rfl),(Qc.2 ⟨(rfl),(Qc.2 ⟨(rfl),(Qc.2 ⟨(Zgq _),(Qc.2 ⟨(rfl),(fun _ h=>by cases h)⟩)⟩)⟩)⟩)⟩)⟩)⟩)⟩
def Zld:List (Kd.FK Zz):=[⟨_,Z1.sl,0,fun x:Zz=>x.Acts⟩]
def Zbb:Kd Zz:=Kd.struct 1 Zld (by rfl)
theorem Zhz:∀ g,Zbb.K g (default:Zz) [.slice none 0 0]:=fun g=>⟨rfl,(Qc.2 ⟨(⟨none,0,rfl,Nat.le_refl _,Nat.zero_le _,.inl rfl⟩),(fun _ h=>by cases h)⟩)⟩
def Zl9:List (Kd.FK Zr):=[⟨_,(Kd.int .i64),0,fun x:Zr=>x.Number⟩,
 ⟨_,Zbb.sl,1,fun x:Zr=>x.Deals⟩]
def Zp:Kd Zr:=Kd.struct 2 Zl9 (by rfl)
theorem Zih:∀ g,Zp.K g (default:Zr) [.int .i64 0,.slice none 0 0]:=fun g=>⟨rfl,(Qc.2 ⟨(rfl),(Qc.2 ⟨(⟨none,0,rfl,Nat.le_refl _,Nat.zero_le _,.inl rfl⟩),(fun _ h=>by cases h)⟩)⟩)⟩
def Zgy:List (Kd.FK Za):=[⟨_,Kd.str,0,fun x:Za=>x.Key⟩,
 ⟨_,(Kd.int .i64),1,fun x:Za=>x.Score⟩]
def Zc:Kd Za:=Kd.struct 2 Zgy (by rfl)
theorem Zgx:∀ g,Zc.K g (default:Za) [.string ByteArray.empty,.int .i64 0]:=fun g=>⟨rfl,(Qc.2 ⟨(rfl),(Qc.2 ⟨(rfl),(fun _ h=>by cases h)⟩)⟩)⟩
def Zkr:Zck → List Value:=fun x=>[.string x.word,.int .i64 x.on,.string x.has]
theorem gm_0:(0,g_0.flatMap Zkr) ∈ GL:=List.mem_of_getElem? (i:=0) rfl
theorem gk_0:∀ g,(Kd.arr 22 Zc7).K g g_0 (g_0.flatMap Zkr):=fun g=>Zrx (dk:=Zc7) (enc:=Zkr) (fun g x=>⟨rfl,(Qc.2 ⟨rfl,(Qc.2 ⟨rfl,(Qc.2 ⟨rfl,(fun _ h=>by cases h)⟩)⟩)⟩)⟩) g g_0
theorem Zpx:∀ (g:G) (x:Ze) (cs:List Value),Zl.K g x cs → cs=[.string x.Key,.int .i64 x.Score]:=fun g x cs h=>by
 obtain ⟨u0,u1,rfl⟩:=Zsh h.1
 have h0:[u0]=[Value.string x.Key]:=(h.2 _ (List.mem_of_getElem? (i:=0) rfl))
 have h1:[u1]=[Value.int .i64 x.Score]:=(h.2 _ (List.mem_of_getElem? (i:=1) rfl))
 rw [List.singleton_inj.1 h0,List.singleton_inj.1 h1]
theorem sz_3:(Tryd.prog.info? 3).map (·.size)=some (Kd.int .i64).sz:=by kernel_rfl
theorem ty_3:Ty Tryd.prog 3 (Kd.int .i64):=⟨by kernel_rfl,by kernel_rfl⟩
theorem Zpt:Zj Tryd.prog 35:=by
 unfold Zj
 kernel_rfl
theorem Zp1:Zj Tryd.prog 36:=by
 unfold Zj
 kernel_rfl
theorem Zi2:Fld Tryd.prog 58 1 Zl (Kd.int .i64) (fun x:Ze=>x.Score):=Fld.of ⟨_,(Kd.int .i64),1,fun x:Ze=>x.Score⟩ (List.mem_of_getElem? (i:=1) rfl) 1 rfl (by kernel_rfl) (by decide)
theorem Zsq:Zj Tryd.prog 27:=by
 unfold Zj
 kernel_rfl
theorem Zhs:Fld Tryd.prog 58 0 Zl Kd.str (fun x:Ze=>x.Key):=Fld.of ⟨_,Kd.str,0,fun x:Ze=>x.Key⟩ (List.mem_of_getElem? (i:=0) rfl) 0 rfl (by kernel_rfl) (by decide)
theorem ty_9:Ty Tryd.prog 9 Kd.str:=⟨by kernel_rfl,by kernel_rfl⟩
theorem Zr1:Zj Tryd.prog 28:=by
 unfold Zj
 kernel_rfl
theorem Zr9:TE Tryd.prog 81 3 (Kd.int .i64) 8:=TE.of Tryd.underlying81 (by kernel_rfl) (by decide) (by decide)
theorem Zr7:Zj Tryd.prog 26:=by
 unfold Zj
 kernel_rfl
theorem Zse:Zj Tryd.prog 24:=by
 unfold Zj
 kernel_rfl
theorem Zry:Zj Tryd.prog 25:=by
 unfold Zj
 kernel_rfl
theorem Zfz:Fld Tryd.prog 27 0 Z4 Kd.mapS (fun x:Zi=>x.by_):=Fld.of ⟨_,Kd.mapS,0,fun x:Zi=>x.by_⟩ (List.mem_of_getElem? (i:=0) rfl) 0 rfl (by kernel_rfl) (by decide)
theorem Zhu:Ty Tryd.prog 25 Kd.mapS:=⟨by kernel_rfl,by kernel_rfl⟩
theorem Zjh {N d:Nat} {o:Oper} {uses:Zf} {x0:Operand} {x1:Operand} {v0:ByteArray} {v1:Int} (hop:o.op=.build 58 #[(0,x0),(1,x1)]) (hd:o.dst=some d) (h0:Opd uses x0 (Kd.str.pd v0)) (h1:Opd uses x1 ((Kd.int .i64).pd v1)):OB Tryd.prog N o uses [(d,Zl.pd { Key:=v0,Score:=v1 })] []:=by
 refine Zec hop hd fun a g hh=>?_
 obtain ⟨c0,k0,e0⟩:=h0 a g hh
 obtain rfl:=k0
 obtain ⟨c1,k1,e1⟩:=h1 a g hh
 obtain rfl:=k1
 refine ⟨.agg #[.string v0,.int .i64 v1],?_,[.string v0,.int .i64 v1],⟨rfl,(Qc.2 ⟨rfl,(Qc.2 ⟨rfl,(fun _ h=>by cases h)⟩)⟩)⟩,rfl⟩
 simp only [List.map_toArray,List.map_cons,List.map_nil,e0,e1]
 exact Zdv Tryd.underlying58 (zero:=.agg #[.string ByteArray.empty,.int .i64 0]) (by kernel_rfl) (places:=[(0,1),(1,1)]) (by kernel_rfl) (by kernel_rfl) g.w
theorem Zp4:TE Tryd.prog 41 58 Zl 24:=TE.of Tryd.underlying41 (by kernel_rfl) (by decide) (by decide)
theorem Zrd {N d:Nat} {o:Oper} {uses:Zf}   (hop:o.op=.build 74 #[]) (hd:o.dst=some d) :OB Tryd.prog N o uses [(d,Zc7.pd { word:=ByteArray.empty,on:=(0:Int),has:=ByteArray.empty })] []:=by
 refine Zec hop hd fun a g hh=>?_
 refine ⟨.agg #[.string ByteArray.empty,.int .i64 0,.string ByteArray.empty],?_,[.string ByteArray.empty,.int .i64 0,.string ByteArray.empty],⟨rfl,(Qc.2 ⟨(rfl),(Qc.2 ⟨(rfl),(Qc.2 ⟨(rfl),(fun _ h=>by cases h)⟩)⟩)⟩)⟩,rfl⟩
 simp only [List.map_toArray,List.map_cons,List.map_nil,List.map_nil]
 exact Zdv Tryd.underlying74 (zero:=.agg #[.string ByteArray.empty,.int .i64 0,.string ByteArray.empty]) (by kernel_rfl) (places:=[(0,1),(1,1),(2,1)]) (by kernel_rfl) (by kernel_rfl) g.w
theorem Zis:Ty Tryd.prog 74 Zc7:=⟨by kernel_rfl,by kernel_rfl⟩
theorem Zsk:(Tryd.prog.info? 74).map (·.size)=some Zc7.sz:=by kernel_rfl
theorem Zr5:Zj Tryd.prog 30:=by
 unfold Zj
 kernel_rfl
theorem Zq4:Fld Tryd.prog 74 1 Zc7 (Kd.int .i64) (fun x:Zck=>x.on):=Fld.of ⟨_,(Kd.int .i64),1,fun x:Zck=>x.on⟩ (List.mem_of_getElem? (i:=1) rfl) 1 rfl (by kernel_rfl) (by decide)
theorem Zpw:Zj Tryd.prog 20:=by
 unfold Zj
 kernel_rfl
theorem Zqq:PF Tryd.prog 27 0 0:=by
 unfold PF
 kernel_rfl
theorem Zj6:Zj Tryd.prog 16:=by
 unfold Zj
 kernel_rfl
theorem Zix:(Tryd.prog.info? 58).map (·.size)=some Zl.sz:=by kernel_rfl
theorem Zmh:Ty Tryd.prog 58 Zl:=⟨by kernel_rfl,by kernel_rfl⟩
theorem Zf7:Fld Tryd.prog 31 1 Zp Zbb.sl (fun x:Zr=>x.Deals):=Fld.of ⟨_,Zbb.sl,1,fun x:Zr=>x.Deals⟩ (List.mem_of_getElem? (i:=1) rfl) 1 rfl (by kernel_rfl) (by decide)
theorem Zie:Ty Tryd.prog 29 Zbb.sl:=⟨by kernel_rfl,by kernel_rfl⟩
theorem Zj7:(Tryd.prog.info? 54).map (·.size)=some Zbb.sz:=by kernel_rfl
theorem Zib:Ty Tryd.prog 54 Zbb:=⟨by kernel_rfl,by kernel_rfl⟩
theorem Zfx:Fld Tryd.prog 54 0 Zbb Z1.sl (fun x:Zz=>x.Acts):=Fld.of ⟨_,Z1.sl,0,fun x:Zz=>x.Acts⟩ (List.mem_of_getElem? (i:=0) rfl) 0 rfl (by kernel_rfl) (by decide)
theorem Zik:Ty Tryd.prog 52 Z1.sl:=⟨by kernel_rfl,by kernel_rfl⟩
theorem Zmr:(Tryd.prog.info? 51).map (·.size)=some Z1.sz:=by kernel_rfl
theorem Zen:Ty Tryd.prog 51 Z1:=⟨by kernel_rfl,by kernel_rfl⟩
theorem Zi7:Fld Tryd.prog 51 0 Z1 (Kd.int .i64) (fun x:Zo=>x.Kind):=Fld.of ⟨_,(Kd.int .i64),0,fun x:Zo=>x.Kind⟩ (List.mem_of_getElem? (i:=0) rfl) 0 rfl (by kernel_rfl) (by decide)
theorem Zsj:Zj Tryd.prog 19:=by
 unfold Zj
 kernel_rfl
theorem Zhr:Fld Tryd.prog 51 1 Z1 Kd.str (fun x:Zo=>x.Key):=Fld.of ⟨_,Kd.str,1,fun x:Zo=>x.Key⟩ (List.mem_of_getElem? (i:=1) rfl) 1 rfl (by kernel_rfl) (by decide)
theorem Zrw:Zj Tryd.prog 23:=by
 unfold Zj
 kernel_rfl
theorem Zk2 {N d:Nat} {o:Oper} {uses:Zf} {x0:Operand} {x1:Operand} {x2:Operand} {v0:Int} {v1:ByteArray} {v2:Int} (hop:o.op=.build 51 #[(0,x0),(1,x1),(2,x2)]) (hd:o.dst=some d) (h0:Opd uses x0 ((Kd.int .i64).pd v0)) (h1:Opd uses x1 (Kd.str.pd v1)) (h2:Opd uses x2 ((Kd.int .i64).pd v2)):OB Tryd.prog N o uses [(d,Z1.pd { Kind:=v0,Key:=v1,N:=v2,X:=(0:Nat),S:=ByteArray.empty,Make:=(default:Zv),Must:=false })] []:=by
 refine Zec hop hd fun a g hh=>?_
 obtain ⟨c0,k0,e0⟩:=h0 a g hh
 obtain rfl:=k0
 obtain ⟨c1,k1,e1⟩:=h1 a g hh
 obtain rfl:=k1
 obtain ⟨c2,k2,e2⟩:=h2 a g hh
 obtain rfl:=k2
 refine ⟨.agg #[.int .i64 v0,.string v1,.int .i64 v2,.float .f64 0,.string ByteArray.empty,.int .i64 0,.int .i64 0,.int .i64 0,.int .i64 0,.float .f64 0,.int .i64 0,.string ByteArray.empty,.slice none 0 0,.bool false],?_,[.int .i64 v0,.string v1,.int .i64 v2,.float .f64 0,.string ByteArray.empty,.int .i64 0,.int .i64 0,.int .i64 0,.int .i64 0,.float .f64 0,.int .i64 0,.string ByteArray.empty,.slice none 0 0,.bool false],⟨rfl,(Qc.2 ⟨rfl,(Qc.2 ⟨rfl,(Qc.2 ⟨rfl,(Qc.2 ⟨(rfl),(Qc.2 ⟨(rfl),(Qc.2 ⟨(Zgq _),(Qc.2 ⟨(rfl),(fun _ h=>by cases h)⟩)⟩)⟩)⟩)⟩)⟩)⟩)⟩,rfl⟩
 simp only [List.map_toArray,List.map_cons,List.map_nil,e0,e1,e2]
 exact Zdv Tryd.underlying51 (zero:=.agg #[.int .i64 0,.string ByteArray.empty,.int .i64 0,.float .f64 0,.string ByteArray.empty,.int .i64 0,.int .i64 0,.int .i64 0,.int .i64 0,.float .f64 0,.int .i64 0,.string ByteArray.empty,.slice none 0 0,.bool false]) (by kernel_rfl) (places:=[(0,1),(1,1),(2,1),(3,1),(4,1),(5,8),(13,1)]) (by kernel_rfl) (by kernel_rfl) g.w
theorem Zpu:TE Tryd.prog 52 51 Z1 152:=TE.of Tryd.underlying52 (by kernel_rfl) (by decide) (by decide)
theorem Zlt {N d:Nat} {o:Oper} {uses:Zf} {x0:Operand} {v0:List Zo} (hop:o.op=.build 54 #[(0,x0)]) (hd:o.dst=some d) (h0:Opd uses x0 (Z1.sl.pd v0)):OB Tryd.prog N o uses [(d,Zbb.pd { Acts:=v0 })] []:=by
 refine Zec hop hd fun a g hh=>?_
 obtain ⟨c0,k0,e0⟩:=h0 a g hh
 obtain ⟨A0,n0,rfl,l0⟩:=k0
 refine ⟨.agg #[.slice A0 v0.length n0],?_,[.slice A0 v0.length n0],⟨rfl,(Qc.2 ⟨⟨A0,n0,rfl,l0⟩,(fun _ h=>by cases h)⟩)⟩,rfl⟩
 simp only [List.map_toArray,List.map_cons,List.map_nil,e0]
 exact Zdv Tryd.underlying54 (zero:=.agg #[.slice none 0 0]) (by kernel_rfl) (places:=[(0,1)]) (by kernel_rfl) (by kernel_rfl) g.w
theorem Zsm:TE Tryd.prog 29 54 Zbb 24:=TE.of Tryd.underlying29 (by kernel_rfl) (by decide) (by decide)
theorem Zqd {N d:Nat} {o:Oper} {uses:Zf} {x1:Operand} {v1:List Zz} (hop:o.op=.build 31 #[(1,x1)]) (hd:o.dst=some d) (h1:Opd uses x1 (Zbb.sl.pd v1)):OB Tryd.prog N o uses [(d,Zp.pd { Number:=(0:Int),Deals:=v1 })] []:=by
 refine Zec hop hd fun a g hh=>?_
 obtain ⟨c1,k1,e1⟩:=h1 a g hh
 obtain ⟨A1,n1,rfl,l1⟩:=k1
 refine ⟨.agg #[.int .i64 0,.slice A1 v1.length n1],?_,[.int .i64 0,.slice A1 v1.length n1],⟨rfl,(Qc.2 ⟨(rfl),(Qc.2 ⟨⟨A1,n1,rfl,l1⟩,(fun _ h=>by cases h)⟩)⟩)⟩,rfl⟩
 simp only [List.map_toArray,List.map_cons,List.map_nil,e1]
 exact Zdv Tryd.underlying31 (zero:=.agg #[.int .i64 0,.slice none 0 0]) (by kernel_rfl) (places:=[(0,1),(1,1)]) (by kernel_rfl) (by kernel_rfl) g.w
theorem en_9:Zj Tryd.prog 9:=by
 unfold Zj
 kernel_rfl
theorem Zp3:Zj Tryd.prog 15:=by
 unfold Zj
 kernel_rfl
theorem Zns {N d:Nat} {o:Oper} {uses:Zf}   (hop:o.op=.build 31 #[]) (hd:o.dst=some d) :OB Tryd.prog N o uses [(d,Zp.pd { Number:=(0:Int),Deals:=([]:List Zz) })] []:=by
 refine Zec hop hd fun a g hh=>?_
 refine ⟨.agg #[.int .i64 0,.slice none 0 0],?_,[.int .i64 0,.slice none 0 0],⟨rfl,(Qc.2 ⟨(rfl),(Qc.2 ⟨(⟨none,0,rfl,Nat.le_refl _,Nat.zero_le _,.inl rfl⟩),(fun _ h=>by cases h)⟩)⟩)⟩,rfl⟩
 simp only [List.map_toArray,List.map_cons,List.map_nil,List.map_nil]
 exact Zdv Tryd.underlying31 (zero:=.agg #[.int .i64 0,.slice none 0 0]) (by kernel_rfl) (places:=[(0,1),(1,1)]) (by kernel_rfl) (by kernel_rfl) g.w
theorem Zmx:Zj Tryd.prog 12:=by
 unfold Zj
 kernel_rfl
theorem Zma:Zj Tryd.prog 14:=by
 unfold Zj
 kernel_rfl
theorem Zrj:∀ (w:World) (a1 a2:ByteArray) (n1 n2:Int),(Op.eqFields 9999 #[.string a1,.int .i64 n1] #[.string a2,.int .i64 n2] (Tryd.prog.fieldsOf 58).toList).run Tryd.prog w=.ok (a1.toList == a2.toList && n1 == n2) w:=by
 intro w a1 a2 n1 n2
 have hs:=run_equalIn_string (P:=Tryd.prog) w 9998 9 a1 a2 Tryd.underlying9
 have hi:=run_equalIn_int (P:=Tryd.prog) w 9998 3 .i64 .i64 n1 n2 Tryd.underlying3
 simp only [Program.fieldsOf,Tryd.underlying58,Op.eqFields,part,Sem.run_bind,Tryd.isAgg9,Tryd.isAgg3,Result.andThen_ok,Bool.false_eq_true,if_false,List.getElem?_toArray,List.getElem?_cons_zero,List.getElem?_cons_succ,Sem.run_pure,hs,hi,Sem.run_ite]
 cases h1:(a1.toList == a2.toList) <;> cases h2:(n1 == n2) <;> simp [h1,h2,Sem.run_pure,Result.andThen]
theorem Zlq:Fld Tryd.prog 49 7 Zcl Zb8.sl (fun x:Zv=>x.List):=Fld.of ⟨_,Zb8.sl,7,fun x:Zv=>x.List⟩ (List.mem_of_getElem? (i:=7) rfl) 7 rfl (by kernel_rfl) (by decide)
theorem Zpz:Ty Tryd.prog 47 Zb8.sl:=⟨by kernel_rfl,by kernel_rfl⟩
theorem Zqw:Fld Tryd.prog 49 6 Zcl Kd.str (fun x:Zv=>x.Text):=Fld.of ⟨_,Kd.str,6,fun x:Zv=>x.Text⟩ (List.mem_of_getElem? (i:=6) rfl) 6 rfl (by kernel_rfl) (by decide)
theorem Zra:(Tryd.prog.info? 105).map (·.size)=some Zb8.sz:=by kernel_rfl
theorem Znd:Ty Tryd.prog 105 Zb8:=⟨by kernel_rfl,by kernel_rfl⟩
theorem Zow:Fld Tryd.prog 105 1 Zb8 Kd.str (fun x:Zdo=>x.Name):=Fld.of ⟨_,Kd.str,1,fun x:Zdo=>x.Name⟩ (List.mem_of_getElem? (i:=1) rfl) 1 rfl (by kernel_rfl) (by decide)
theorem Zqb:Fld Tryd.prog 51 4 Z1 Kd.str (fun x:Zo=>x.S):=Fld.of ⟨_,Kd.str,4,fun x:Zo=>x.S⟩ (List.mem_of_getElem? (i:=4) rfl) 4 rfl (by kernel_rfl) (by decide)
theorem Zq9:Fld Tryd.prog 51 5 Z1 Zcl (fun x:Zo=>x.Make):=Fld.of ⟨_,Zcl,5,fun x:Zo=>x.Make⟩ (List.mem_of_getElem? (i:=5) rfl) 5 rfl (by kernel_rfl) (by decide)
theorem Zr2:Ty Tryd.prog 49 Zcl:=⟨by kernel_rfl,by kernel_rfl⟩
theorem Zru:Zj Tryd.prog 48:=by
 unfold Zj
 kernel_rfl
theorem Zrs:Zj Tryd.prog 37:=by
 unfold Zj
 kernel_rfl
theorem Zrz:Zj Tryd.prog 29:=by
 unfold Zj
 kernel_rfl
theorem Zpy:(Tryd.prog.info? 31).map (·.size)=some Zp.sz:=by kernel_rfl
theorem Zhq:Ty Tryd.prog 31 Zp:=⟨by kernel_rfl,by kernel_rfl⟩
theorem Zrt:Zj Tryd.prog 18:=by
 unfold Zj
 kernel_rfl
theorem Zd1:Fld Tryd.prog 62 1 Zc (Kd.int .i64) (fun x:Za=>x.Score):=Fld.of ⟨_,(Kd.int .i64),1,fun x:Za=>x.Score⟩ (List.mem_of_getElem? (i:=1) rfl) 1 rfl (by kernel_rfl) (by decide)
theorem Zfh:Fld Tryd.prog 62 0 Zc Kd.str (fun x:Za=>x.Key):=Fld.of ⟨_,Kd.str,0,fun x:Za=>x.Key⟩ (List.mem_of_getElem? (i:=0) rfl) 0 rfl (by kernel_rfl) (by decide)
theorem Zet:TE Tryd.prog 28 62 Zc 24:=TE.of Tryd.underlying28 (by kernel_rfl) (by decide) (by decide)
theorem Zeh:(Tryd.prog.info? 62).map (·.size)=some Zc.sz:=by kernel_rfl
theorem Zil:Ty Tryd.prog 62 Zc:=⟨by kernel_rfl,by kernel_rfl⟩
theorem Zr3:Zj Tryd.prog 31:=by
 unfold Zj
 kernel_rfl
theorem Zjg {N d:Nat} {o:Oper} {uses:Zf} {x0:Operand} {x1:Operand} {v0:ByteArray} {v1:Int} (hop:o.op=.build 62 #[(0,x0),(1,x1)]) (hd:o.dst=some d) (h0:Opd uses x0 (Kd.str.pd v0)) (h1:Opd uses x1 ((Kd.int .i64).pd v1)):OB Tryd.prog N o uses [(d,Zc.pd { Key:=v0,Score:=v1 })] []:=by
 refine Zec hop hd fun a g hh=>?_
 obtain ⟨c0,k0,e0⟩:=h0 a g hh
 obtain rfl:=k0
 obtain ⟨c1,k1,e1⟩:=h1 a g hh
 obtain rfl:=k1
 refine ⟨.agg #[.string v0,.int .i64 v1],?_,[.string v0,.int .i64 v1],⟨rfl,(Qc.2 ⟨rfl,(Qc.2 ⟨rfl,(fun _ h=>by cases h)⟩)⟩)⟩,rfl⟩
 simp only [List.map_toArray,List.map_cons,List.map_nil,e0,e1]
 exact Zdv Tryd.underlying62 (zero:=.agg #[.string ByteArray.empty,.int .i64 0]) (by kernel_rfl) (places:=[(0,1),(1,1)]) (by kernel_rfl) (by kernel_rfl) g.w
theorem Zsg:Zj Tryd.prog 21:=by
 unfold Zj
 kernel_rfl
theorem Zq0 (u:Za) (v:Int):∀ (g:G) (cs ys:List Value),Zc.K g u cs → (Kd.int .i64).K g v ys → 0 + 1 + ys.length ≤ cs.length → Zc.K g { u with Score:=v } (Zbg cs (0 + 1) ys):=fun g cs ys hk hy _=>by
 have hc:cs.length=2:=hk.1
 have hl:ys.length=1:=(Kd.int .i64).len hy
 exact ⟨(Zgu (by omega)).trans hc,(Qc.2 ⟨(by show Kd.str.K g u.Key (seg (Zbg cs (0 + 1) ys) 0 1);rw [Nat.zero_add,Zfa (by omega) (by omega)];exact hk.2 _ (List.mem_of_getElem? (i:=0) rfl)),(Qc.2 ⟨(by show (Kd.int .i64).K g v (seg (Zbg cs (0 + 1) ys) 1 1);rw [Nat.zero_add,Zit (by omega) hl];exact hy),(fun _ h=>by cases h)⟩)⟩)⟩
theorem Zsp:Zj Tryd.prog 22:=by
 unfold Zj
 kernel_rfl
theorem en_7:Zj Tryd.prog 7:=by
 unfold Zj
 kernel_rfl
theorem en_8:Zj Tryd.prog 8:=by
 unfold Zj
 kernel_rfl
theorem Zsd:Zj Tryd.prog 10:=by
 unfold Zj
 kernel_rfl
theorem Zsi:Zj Tryd.prog 11:=by
 unfold Zj
 kernel_rfl
theorem Zj4 (a0:List Int) {r:Int} (h:Zep a0=some r):FnOk Tryd.prog 26 [((Kd.int .i64).sl.pd a0)] (pInt .i64 r):=by
 have H0:=h
 unfold Zep at H0
 clear h
 refine Zco (N:=18) Tryd.func26 rfl rfl (Qe rfl) rfl rfl (fun a g0 hst hb=>?_)
 refine r_s (T:=[⟨[],_,[],[],[2]⟩]) (F:=[.o 0]) hst hb Zb
  (Qa rfl c_i<|o_n) (fun a g hst hb=>?_)
 refine r_s (T:=[⟨[],_,[],[],[3]⟩]) (F:=[.o 0,.p 0 0]) hst hb Zb
  (Qa rfl c_i<|o_n) (fun a g hst hb=>?_)
 refine wp_seq ?_
 refine r_s (T:=[⟨[.o 0],_,[],[],[6]⟩,⟨[.p 0 0],_,[],[0],[7]⟩,⟨[],_,[],[],[8]⟩]) (F:=[.o 1,.p 0 0,.p 1 0,.p 2 0]) hst hb Zb
  (Qm rfl u_0<|o_p rfl (Zbl Tryd.underlying81 rfl rfl u_0)<|Qm rfl c_i<|o_n) (fun a g hst hb=>?_)
 obtain ⟨z6,hz1,H0⟩:=Zd H0
 refine Zb0 (fun a w=>∃ (g:G),w=g.w ∧ St 18 [(3,(pInt .i64 (0:Int)))] a g ∧ Base g0 g ∧ (.inr ())=z6) ?_ ?_
 ·rintro a w ⟨g,rfl,hst,hb,rfl⟩
  refine Zg ?_
  refine r_s (T:=[⟨[.o 0],_,[],[],[17]⟩,⟨[.p 0 0],_,[],[0],[2]⟩]) (F:=[.p 1 0]) hst hb Zb
   (Qm rfl u_0<|Qa rfl u_0<|o_n) (fun a g hst hb=>?_)
  refine wp_ret ?_
  obtain rfl:=Option.some.inj H0
  exact Z6 rfl hst hb (Zm (s:=2)) (hst.at 0 rfl)
 ·refine wp_block ?_
  refine wp_loop_ghost (fun n a w=>∃ (x1:Int) (g:G),w=g.w ∧ St 18 [(3,(pInt .i64 (0:Int))),(6,((Kd.int .i64).sl.pd a0)),(7,(pInt .i64 (a0.length:Int))),(8,(pInt .i64 x1))] a g ∧ Base g0 g ∧ Zc4 a0 n x1=some z6) (Int.toNat ((a0.length:Int) - (0:Int)) + 1) ⟨(0:Int),g,rfl,(hst.pick [0,1,2,3] rfl),hb,hz1⟩ (fun n a w hI=>?_)
  obtain ⟨x1,g,rfl,hst,hb,H1⟩:=hI
  cases n with
  | zero=>exact absurd H1 (by simp [Zc4])
  | succ n =>
   rw [Zc4] at H1
   refine r_s (T:=[⟨[.o 3,.o 2],_,[],[],[9]⟩]) (F:=[.o 0,.o 1,.o 2,.o 3,.p 0 0]) hst hb Zb
    (o_p rfl (Zdf rfl rfl u_0 u_1)<|o_n) (fun a g hst hb=>?_)
   refine wp_seq ?_
   refine wp_cond_split (hst.bool 4 rfl) (fun hc2=>?_) (fun hc2=>?_)
   ·replace H1:=Zx hc2 H1
    refine wp_skip ?_
    refine Zg ?_
    refine wp_seq ?_
    refine wp_block ?_
    obtain ⟨e3,h4,H1⟩:=Zd H1
    refine r_s (L:=[(3,_),(6,_),(7,_),(8,_)]) (T:=[⟨[.o 1,.o 3],_,[],[],[10]⟩,⟨[.p 0 0],_,[],[0],[11]⟩,⟨[.p 1 0],_,[],[0,1],[5]⟩]) (F:=[.o 0,.p 2 0,.o 1,.o 2,.o 3]) (hst.pick [0,1,2,3] rfl) hb Zb
     (o_p rfl (Zu Tryd.underlying81 sz_3 rfl rfl u_0 u_1 h4)<|Ql rfl ty_3 u_0<|Qa rfl u_0<|o_n) (fun a g hst hb=>?_)
    refine r_s (T:=[⟨[.o 1],_,[],[],[12]⟩,⟨[.o 0],_,[],[],[13]⟩,⟨[.p 0 0,.p 1 0],_,[],[0,1],[14]⟩]) (F:=[.o 0,.o 1,.o 2,.o 3,.o 4,.p 2 0]) hst hb Zb
     (Qm rfl u_0<|Qm rfl u_0<|o_p rfl (Zho rfl rfl u_0 u_1)<|o_n) (fun a g hst hb=>?_)
    refine wp_cond_split (hst.bool 5 rfl) (fun hc5=>?_) (fun hc5=>?_)
    ·replace H1:=Zx hc5 H1
     refine r_s (L:=[(5,_)]) (T:=[⟨[.o 0],_,[],[],[15]⟩,⟨[.p 0 0],_,[],[0],[2]⟩]) (F:=[.p 1 0]) (hst.pick [1] rfl) hb Zb
      (Qm rfl u_0<|Qa rfl u_0<|o_n) (fun a g hst hb=>?_)
     refine wp_ret ?_
     refine Zcb ?_
     refine Zt ?_
     refine Zt ?_
     refine Zcb ?_
     refine Zt ?_
     refine Zt ?_
     obtain rfl:=Option.some.inj H1
     obtain rfl:=Option.some.inj H0
     exact Z6 rfl hst hb (Zm (s:=2)) (hst.at 0 rfl)
    ·replace H1:=Zw hc5 H1
     refine wp_skip ?_
     refine Z7 ?_
     refine Zg ?_
     refine r_g (L:=[(3,_),(6,_),(7,_),(8,_)]) (T:=[⟨[.o 3],_,[],[],[16]⟩,⟨[.p 0 0],_,[],[0],[8]⟩]) (F:=[.o 0,.o 1,.o 2,.p 1 0]) (hst.pick [0,2,3,4] rfl) hb Zb
      (o_p rfl (Zca rfl rfl u_0 c_i rfl)<|Qm rfl u_0<|o_n) (fun a g hst hb=>?_)
     exact ⟨n,Nat.lt_succ_self _,(IntKind.i64.wrap (x1 + (1:Int))),g,rfl,(hst.pick [0,1,2,3] rfl),hb,H1⟩
   ·replace H1:=Zw hc2 H1
    refine wp_exit ?_
    refine Z2 ?_
    refine Z2 ?_
    refine Zbk ?_
    exact ⟨g,rfl,(hst.pick [0] rfl),hb,Option.some.inj H1⟩
theorem Zfi (a0:Int) {r:Bool} (h:Zd0 a0=some r):FnOk Tryd.prog 35 [(pInt .i64 a0)] (Zn r):=by
 have H0:=h
 unfold Zd0 at H0
 clear h
 refine Zco (N:=6) Tryd.func35 rfl rfl (Qe rfl) rfl rfl (fun a g0 hst hb=>?_)
 refine r_s (T:=[⟨[],_,[],[],[2]⟩]) (F:=[.o 0]) hst hb Zb
  (Qa rfl c_b<|o_n) (fun a g hst hb=>?_)
 refine r_s (T:=[⟨[.o 0],_,[],[],[3]⟩,⟨[.o 0],_,[],[],[4]⟩,⟨[.p 0 0,.p 1 0],_,[],[0,1],[5]⟩,⟨[.p 2 0],_,[],[0,1,2],[2]⟩]) (F:=[.p 3 0]) hst hb Zb
  (Qm rfl u_0<|Qm rfl u_0<|o_p rfl (Zho rfl rfl u_0 u_1)<|Qa rfl u_0<|o_n) (fun a g hst hb=>?_)
 refine wp_ret ?_
 obtain rfl:=Option.some.inj H0
 exact Z6 rfl hst hb (Zm (s:=2)) (hst.at 0 rfl)
theorem Zhj (a0:Int) (a1:Int) {r:Int} (h:Zdl a0 a1=some r):FnOk Tryd.prog 27 [(pInt .i64 a0),(pInt .i64 a1)] (pInt .i64 r):=by
 have H0:=h
 unfold Zdl at H0
 clear h
 refine Zco (N:=20) Tryd.func27 rfl rfl (Qe rfl) rfl rfl (fun a g0 hst hb=>?_)
 refine r_s (T:=[⟨[],_,[],[],[4]⟩]) (F:=[.o 0,.o 1]) hst hb Zb
  (Qa rfl c_i<|o_n) (fun a g hst hb=>?_)
 obtain ⟨r1,h2,H0⟩:=Zd H0
 refine r_s (T:=[⟨[.o 0],_,[],[],[7]⟩,⟨[.p 0 0],_,[],[0],[8]⟩,⟨[.p 1 0],_,[],[0,1],[5]⟩]) (F:=[.o 0,.o 1,.p 2 0]) hst hb Zb
  (Qm rfl u_0<|o_p rfl (Zbu Zpt (Zfi _ h2) rfl rfl (.cons u_0 .nil))<|Qa rfl u_0<|o_n) (fun a g hst hb=>?_)
 obtain ⟨r3,h4,H0⟩:=Zd H0
 refine r_s (T:=[⟨[.o 1],_,[],[],[9]⟩,⟨[.p 0 0],_,[],[0],[10]⟩,⟨[.p 1 0],_,[],[0,1],[6]⟩]) (F:=[.o 0,.o 1,.o 2,.p 2 0]) hst hb Zb
  (Qm rfl u_0<|o_p rfl (Zbu Zpt (Zfi _ h4) rfl rfl (.cons u_0 .nil))<|Qa rfl u_0<|o_n) (fun a g hst hb=>?_)
 refine wp_seq ?_
 refine r_s (T:=[⟨[.o 2],_,[],[],[11]⟩]) (F:=[.o 0,.o 1,.o 3,.p 0 0]) hst hb Zb
  (Qm rfl u_0<|o_n) (fun a g hst hb=>?_)
 refine wp_cond_split (hst.bool 3 rfl) (fun hc5=>?_) (fun hc5=>?_)
 ·replace H0:=Zx hc5 H0
  refine wp_seq ?_
  refine r_s (L:=[(6,_)]) (T:=[⟨[.o 0],_,[],[],[12]⟩]) (F:=[.p 0 0]) (hst.pick [2] rfl) hb Zb
   (Qm rfl u_0<|o_n) (fun a g hst hb=>?_)
  refine wp_cond_split (hst.bool 0 rfl) (fun hc6=>?_) (fun hc6=>?_)
  ·replace H0:=Zx hc6 H0
   refine r_s (L:=[]) (T:=[⟨[],_,[],[],[4]⟩]) (F:=[.p 0 0]) (hst.pick [] rfl) hb Zb
    (Qa rfl c_i<|o_n) (fun a g hst hb=>?_)
   refine wp_ret ?_
   refine Zt ?_
   refine Zt ?_
   obtain rfl:=Option.some.inj H0
   exact Z6 rfl hst hb (Zm (s:=4)) (hst.at 0 rfl)
  ·replace H0:=Zw hc6 H0
   refine wp_skip ?_
   refine Zg ?_
   refine r_s (L:=[]) (T:=[⟨[],_,[],[],[4]⟩]) (F:=[.p 0 0]) (hst.pick [] rfl) hb Zb
    (Qa rfl c_i<|o_n) (fun a g hst hb=>?_)
   refine wp_ret ?_
   refine Zt ?_
   obtain rfl:=Option.some.inj H0
   exact Z6 rfl hst hb (Zm (s:=4)) (hst.at 0 rfl)
 ·replace H0:=Zw hc5 H0
  refine wp_skip ?_
  refine Zg ?_
  refine wp_seq ?_
  refine r_s (L:=[(0,_),(1,_),(6,_)]) (T:=[⟨[.o 2],_,[],[],[13]⟩]) (F:=[.o 0,.o 1,.p 0 0]) (hst.pick [0,1,2] rfl) hb Zb
   (Qm rfl u_0<|o_n) (fun a g hst hb=>?_)
  refine wp_cond_split (hst.bool 2 rfl) (fun hc7=>?_) (fun hc7=>?_)
  ·replace H0:=Zx hc7 H0
   refine r_s (L:=[]) (T:=[⟨[],_,[],[],[4]⟩]) (F:=[.p 0 0]) (hst.pick [] rfl) hb Zb
    (Qa rfl c_i<|o_n) (fun a g hst hb=>?_)
   refine wp_ret ?_
   refine Zt ?_
   obtain rfl:=Option.some.inj H0
   exact Z6 rfl hst hb (Zm (s:=4)) (hst.at 0 rfl)
  ·replace H0:=Zw hc7 H0
   refine wp_skip ?_
   refine Zg ?_
   refine wp_seq ?_
   refine r_s (L:=[(0,_),(1,_)]) (T:=[⟨[.o 0],_,[],[],[14]⟩,⟨[.o 1],_,[],[],[15]⟩,⟨[.p 0 0,.p 1 0],_,[],[0,1],[16]⟩]) (F:=[.o 0,.o 1,.p 2 0]) (hst.pick [0,1] rfl) hb Zb
    (Qm rfl u_0<|Qm rfl u_0<|o_p rfl (Zdf rfl rfl u_0 u_1)<|o_n) (fun a g hst hb=>?_)
   refine wp_cond_split (hst.bool 2 rfl) (fun hc8=>?_) (fun hc8=>?_)
   ·replace H0:=Zx hc8 H0
    refine r_s (L:=[]) (T:=[⟨[],_,[],[],[4]⟩]) (F:=[.p 0 0]) (hst.pick [] rfl) hb Zb
     (Qa rfl c_i<|o_n) (fun a g hst hb=>?_)
    refine wp_ret ?_
    refine Zt ?_
    obtain rfl:=Option.some.inj H0
    exact Z6 rfl hst hb (Zm (s:=4)) (hst.at 0 rfl)
   ·replace H0:=Zw hc8 H0
    refine wp_skip ?_
    refine Zg ?_
    refine wp_seq ?_
    refine r_s (L:=[(0,_),(1,_)]) (T:=[⟨[.o 0],_,[],[],[17]⟩,⟨[.o 1],_,[],[],[18]⟩,⟨[.p 0 0,.p 1 0],_,[],[0,1],[19]⟩]) (F:=[.p 2 0]) (hst.pick [0,1] rfl) hb Zb
     (Qm rfl u_0<|Qm rfl u_0<|o_p rfl (Zdq rfl rfl u_0 u_1)<|o_n) (fun a g hst hb=>?_)
    refine wp_cond_split (hst.bool 0 rfl) (fun hc9=>?_) (fun hc9=>?_)
    ·replace H0:=Zx hc9 H0
     refine r_s (L:=[]) (T:=[⟨[],_,[],[],[4]⟩]) (F:=[.p 0 0]) (hst.pick [] rfl) hb Zb
      (Qa rfl c_i<|o_n) (fun a g hst hb=>?_)
     refine wp_ret ?_
     refine Zt ?_
     obtain rfl:=Option.some.inj H0
     exact Z6 rfl hst hb (Zm (s:=4)) (hst.at 0 rfl)
    ·replace H0:=Zw hc9 H0
     refine wp_skip ?_
     refine Zg ?_
     refine r_s (L:=[]) (T:=[⟨[],_,[],[],[4]⟩]) (F:=[.p 0 0]) (hst.pick [] rfl) hb Zb
      (Qa rfl c_i<|o_n) (fun a g hst hb=>?_)
     refine wp_ret ?_
     obtain rfl:=Option.some.inj H0
     exact Z6 rfl hst hb (Zm (s:=4)) (hst.at 0 rfl)
theorem Zew (a0:ByteArray) {r:Bool} (h:Zdd a0=some r):FnOk Tryd.prog 36 [(pStr a0)] (Zn r):=by
 have H0:=h
 unfold Zdd at H0
 clear h
 refine Zco (N:=6) Tryd.func36 rfl rfl (Qe rfl) rfl rfl (fun a g0 hst hb=>?_)
 refine r_s (T:=[⟨[],_,[],[],[2]⟩]) (F:=[.o 0]) hst hb Zb
  (Qa rfl c_b<|o_n) (fun a g hst hb=>?_)
 refine r_s (T:=[⟨[.o 0],_,[],[],[3]⟩,⟨[.o 0],_,[],[],[4]⟩,⟨[.p 0 0,.p 1 0],_,[],[0,1],[5]⟩,⟨[.p 2 0],_,[],[0,1,2],[2]⟩]) (F:=[.p 3 0]) hst hb Zb
  (Qm rfl u_0<|Qm rfl u_0<|o_p rfl (Zm3 rfl rfl u_0 u_1)<|Qa rfl u_0<|o_n) (fun a g hst hb=>?_)
 refine wp_ret ?_
 obtain rfl:=Option.some.inj H0
 exact Z6 rfl hst hb (Zm (s:=2)) (hst.at 0 rfl)
theorem Zf8 (a0:ByteArray) (a1:ByteArray) {r:Int} (h:Zcx a0 a1=some r):FnOk Tryd.prog 28 [(pStr a0),(pStr a1)] (pInt .i64 r):=by
 have H0:=h
 unfold Zcx at H0
 clear h
 refine Zco (N:=20) Tryd.func28 rfl rfl (Qe rfl) rfl rfl (fun a g0 hst hb=>?_)
 refine r_s (T:=[⟨[],_,[],[],[4]⟩]) (F:=[.o 0,.o 1]) hst hb Zb
  (Qa rfl c_i<|o_n) (fun a g hst hb=>?_)
 obtain ⟨r1,h2,H0⟩:=Zd H0
 refine r_s (T:=[⟨[.o 0],_,[],[],[7]⟩,⟨[.p 0 0],_,[],[0],[8]⟩,⟨[.p 1 0],_,[],[0,1],[5]⟩]) (F:=[.o 0,.o 1,.p 2 0]) hst hb Zb
  (Qm rfl u_0<|o_p rfl (Zbu Zp1 (Zew _ h2) rfl rfl (.cons u_0 .nil))<|Qa rfl u_0<|o_n) (fun a g hst hb=>?_)
 obtain ⟨r3,h4,H0⟩:=Zd H0
 refine r_s (T:=[⟨[.o 1],_,[],[],[9]⟩,⟨[.p 0 0],_,[],[0],[10]⟩,⟨[.p 1 0],_,[],[0,1],[6]⟩]) (F:=[.o 0,.o 1,.o 2,.p 2 0]) hst hb Zb
  (Qm rfl u_0<|o_p rfl (Zbu Zp1 (Zew _ h4) rfl rfl (.cons u_0 .nil))<|Qa rfl u_0<|o_n) (fun a g hst hb=>?_)
 refine wp_seq ?_
 refine r_s (T:=[⟨[.o 2],_,[],[],[11]⟩]) (F:=[.o 0,.o 1,.o 3,.p 0 0]) hst hb Zb
  (Qm rfl u_0<|o_n) (fun a g hst hb=>?_)
 refine wp_cond_split (hst.bool 3 rfl) (fun hc5=>?_) (fun hc5=>?_)
 ·replace H0:=Zx hc5 H0
  refine wp_seq ?_
  refine r_s (L:=[(6,_)]) (T:=[⟨[.o 0],_,[],[],[12]⟩]) (F:=[.p 0 0]) (hst.pick [2] rfl) hb Zb
   (Qm rfl u_0<|o_n) (fun a g hst hb=>?_)
  refine wp_cond_split (hst.bool 0 rfl) (fun hc6=>?_) (fun hc6=>?_)
  ·replace H0:=Zx hc6 H0
   refine r_s (L:=[]) (T:=[⟨[],_,[],[],[4]⟩]) (F:=[.p 0 0]) (hst.pick [] rfl) hb Zb
    (Qa rfl c_i<|o_n) (fun a g hst hb=>?_)
   refine wp_ret ?_
   refine Zt ?_
   refine Zt ?_
   obtain rfl:=Option.some.inj H0
   exact Z6 rfl hst hb (Zm (s:=4)) (hst.at 0 rfl)
  ·replace H0:=Zw hc6 H0
   refine wp_skip ?_
   refine Zg ?_
   refine r_s (L:=[]) (T:=[⟨[],_,[],[],[4]⟩]) (F:=[.p 0 0]) (hst.pick [] rfl) hb Zb
    (Qa rfl c_i<|o_n) (fun a g hst hb=>?_)
   refine wp_ret ?_
   refine Zt ?_
   obtain rfl:=Option.some.inj H0
   exact Z6 rfl hst hb (Zm (s:=4)) (hst.at 0 rfl)
 ·replace H0:=Zw hc5 H0
  refine wp_skip ?_
  refine Zg ?_
  refine wp_seq ?_
  refine r_s (L:=[(0,_),(1,_),(6,_)]) (T:=[⟨[.o 2],_,[],[],[13]⟩]) (F:=[.o 0,.o 1,.p 0 0]) (hst.pick [0,1,2] rfl) hb Zb
   (Qm rfl u_0<|o_n) (fun a g hst hb=>?_)
  refine wp_cond_split (hst.bool 2 rfl) (fun hc7=>?_) (fun hc7=>?_)
  ·replace H0:=Zx hc7 H0
   refine r_s (L:=[]) (T:=[⟨[],_,[],[],[4]⟩]) (F:=[.p 0 0]) (hst.pick [] rfl) hb Zb
    (Qa rfl c_i<|o_n) (fun a g hst hb=>?_)
   refine wp_ret ?_
   refine Zt ?_
   obtain rfl:=Option.some.inj H0
   exact Z6 rfl hst hb (Zm (s:=4)) (hst.at 0 rfl)
  ·replace H0:=Zw hc7 H0
   refine wp_skip ?_
   refine Zg ?_
   refine wp_seq ?_
   refine r_s (L:=[(0,_),(1,_)]) (T:=[⟨[.o 0],_,[],[],[14]⟩,⟨[.o 1],_,[],[],[15]⟩,⟨[.p 0 0,.p 1 0],_,[],[0,1],[16]⟩]) (F:=[.o 0,.o 1,.p 2 0]) (hst.pick [0,1] rfl) hb Zb
    (Qm rfl u_0<|Qm rfl u_0<|o_p rfl (Zn8 rfl rfl u_0 u_1)<|o_n) (fun a g hst hb=>?_)
   refine wp_cond_split (hst.bool 2 rfl) (fun hc8=>?_) (fun hc8=>?_)
   ·replace H0:=Zx hc8 H0
    refine r_s (L:=[]) (T:=[⟨[],_,[],[],[4]⟩]) (F:=[.p 0 0]) (hst.pick [] rfl) hb Zb
     (Qa rfl c_i<|o_n) (fun a g hst hb=>?_)
    refine wp_ret ?_
    refine Zt ?_
    obtain rfl:=Option.some.inj H0
    exact Z6 rfl hst hb (Zm (s:=4)) (hst.at 0 rfl)
   ·replace H0:=Zw hc8 H0
    refine wp_skip ?_
    refine Zg ?_
    refine wp_seq ?_
    refine r_s (L:=[(0,_),(1,_)]) (T:=[⟨[.o 0],_,[],[],[17]⟩,⟨[.o 1],_,[],[],[18]⟩,⟨[.p 0 0,.p 1 0],_,[],[0,1],[19]⟩]) (F:=[.p 2 0]) (hst.pick [0,1] rfl) hb Zb
     (Qm rfl u_0<|Qm rfl u_0<|o_p rfl (Zrb rfl rfl u_0 u_1)<|o_n) (fun a g hst hb=>?_)
    refine wp_cond_split (hst.bool 0 rfl) (fun hc9=>?_) (fun hc9=>?_)
    ·replace H0:=Zx hc9 H0
     refine r_s (L:=[]) (T:=[⟨[],_,[],[],[4]⟩]) (F:=[.p 0 0]) (hst.pick [] rfl) hb Zb
      (Qa rfl c_i<|o_n) (fun a g hst hb=>?_)
     refine wp_ret ?_
     refine Zt ?_
     obtain rfl:=Option.some.inj H0
     exact Z6 rfl hst hb (Zm (s:=4)) (hst.at 0 rfl)
    ·replace H0:=Zw hc9 H0
     refine wp_skip ?_
     refine Zg ?_
     refine r_s (L:=[]) (T:=[⟨[],_,[],[],[4]⟩]) (F:=[.p 0 0]) (hst.pick [] rfl) hb Zb
      (Qa rfl c_i<|o_n) (fun a g hst hb=>?_)
     refine wp_ret ?_
     obtain rfl:=Option.some.inj H0
     exact Z6 rfl hst hb (Zm (s:=4)) (hst.at 0 rfl)
theorem Zg8 (a0:Ze) (a1:Ze) {r:Int} (h:Zk a0 a1=some r):FnOk Tryd.prog 25 [(Zl.pd a0),(Zl.pd a1)] (pInt .i64 r):=by
 have H0:=h
 unfold Zk at H0
 clear h
 refine Zco (N:=17) Tryd.func25 rfl rfl (Qe rfl) rfl rfl (fun a g0 hst hb=>?_)
 refine r_s (T:=[⟨[.o 0],_,[],[],[2]⟩,⟨[.o 1],_,[],[],[3]⟩,⟨[],_,[],[],[4]⟩]) (F:=[.p 0 0,.p 1 0]) hst hb Zb
  (Qb rfl u_0<|Qb rfl u_0<|Qa rfl c_i<|o_n) (fun a g hst hb=>?_)
 obtain ⟨r1,h2,H0⟩:=Zd H0;obtain ⟨r3,h4,H0⟩:=Zd H0;obtain ⟨r5,h6,H0⟩:=Zd H0
 refine r_s (T:=⟨[.o 1],_,[],[],[5]⟩ :: ⟨[.p 0 0],_,[],[0],[6]⟩ :: ⟨[.o 0],_,[],[],[7]⟩ :: ⟨[.p 2 0],_,[],[2],[8]⟩ :: ⟨[.p 1 0,.p 3 0],_,[],Lr 4,[9]⟩ :: ⟨[.o 0],_,[],[],[10]⟩ :: ⟨[.p 5 0],_,[],[5],[11]⟩ :: ⟨[.o 1],_,[],[],[12]⟩ :: ⟨[.p 7 0],_,[],[7],[13]⟩ :: ⟨[.p 6 0,.p 8 0],_,[],Lr 9,[14]⟩ :: ⟨[.p 4 0,.p 9 0],_,[],Lr 10,[15]⟩ :: ⟨[.p 10 0],_,[],Lr 11,[16]⟩ :: ⟨[.p 11 0],_,[],Lr 12,[4]⟩ :: []) (F:=[.p 12 0]) hst hb Zb
  (Qf rfl Zi2 u_0<|Ql rfl ty_3 u_0<|Qf rfl Zi2 u_0<|Ql rfl ty_3 u_0<|o_p rfl (Zbu Zsq (Zhj _ _ h2) rfl rfl (.cons u_0 (.cons u_1 .nil)))<|Qf rfl Zhs u_0<|Ql rfl ty_9 u_0<|Qf rfl Zhs u_0<|Ql rfl ty_9 u_0<|o_p rfl (Zbu Zr1 (Zf8 _ _ h4) rfl rfl (.cons u_0 (.cons u_1 .nil)))<|o_p rfl (Zeo Zr9 (xs:=[.tmp 9,.tmp 14]) (.cons u_0 (.cons u_1 .nil)) (by decide) rfl rfl)<|o_p rfl (Zbu Zr7 (Zj4 _ h6) rfl rfl (.cons u_0 .nil))<|Qa rfl u_0<|o_n) (fun a g hst hb=>?_)
 refine wp_ret ?_
 obtain rfl:=Option.some.inj H0
 exact Z6 rfl hst hb (Zm (s:=4)) (hst.at 0 rfl)
end Go.CL
-- the kit's shelf laid at this program's slices.SortFunc and maps.Clone;written by a tool
namespace Go.CL
open Go Go.RowKit Go.Proofs Go.Shelf
def Zku:Go.Shelf.Ren:=⟨fun | 6=>24 | 15=>34 | 14=>33 | 28=>46 | 29=>47 | 20=>38 | 21=>39 | 22=>40 | 23=>41 | 24=>42 | 25=>43 | 26=>44 | 27=>45 | 46=>49 | 47=>50 | 48=>51 | 49=>52 | 50=>53 | 57=>54 | n=>n,fun | 22=>41 | 24=>58 | 25=>70 | 3=>3 | 39=>80 | 0=>0 | 53=>94 | 55=>96 | 4=>4 | 46=>87 | 45=>86 | 50=>91 | 5=>5 | 9=>9 | 66=>98 | 70=>102 | 76=>106 | 77=>107 | n=>n,fun | n=>n⟩
theorem Zop:Go.Proofs.SlLaysF0.n6 Tryd.prog Zku where
 mixed:=by kernel_rfl
 f6:=⟨Tryd.f24.name,by decide,Tryd.func24.trans (congrArg some (by kernel_rfl))⟩
 f14:=⟨Tryd.f33.name,by decide,Tryd.func33.trans (congrArg some (by kernel_rfl))⟩
 f15:=Tryd.func34.trans (congrArg some (by kernel_rfl))
 f20:=⟨Tryd.f38.name,by decide,Tryd.func38.trans (congrArg some (by kernel_rfl))⟩
 f21:=⟨Tryd.f39.name,by decide,Tryd.func39.trans (congrArg some (by kernel_rfl))⟩
 f22:=⟨Tryd.f40.name,by decide,Tryd.func40.trans (congrArg some (by kernel_rfl))⟩
 f23:=⟨Tryd.f41.name,by decide,Tryd.func41.trans (congrArg some (by kernel_rfl))⟩
 f24:=⟨Tryd.f42.name,by decide,Tryd.func42.trans (congrArg some (by kernel_rfl))⟩
 f25:=⟨Tryd.f43.name,by decide,Tryd.func43.trans (congrArg some (by kernel_rfl))⟩
 f26:=⟨Tryd.f44.name,by decide,Tryd.func44.trans (congrArg some (by kernel_rfl))⟩
 f27:=⟨Tryd.f45.name,by decide,Tryd.func45.trans (congrArg some (by kernel_rfl))⟩
 f28:=Tryd.func46.trans (congrArg some (by kernel_rfl))
 f29:=Tryd.func47.trans (congrArg some (by kernel_rfl))
 f46:=⟨Tryd.f49.name,by decide,Tryd.func49.trans (congrArg some (by kernel_rfl))⟩
 f47:=Tryd.func50.trans (congrArg some (by kernel_rfl))
 f48:=Tryd.func51.trans (congrArg some (by kernel_rfl))
 f49:=⟨Tryd.f52.name,by decide,Tryd.func52.trans (congrArg some (by kernel_rfl))⟩
 f50:=⟨Tryd.f53.name,by decide,Tryd.func53.trans (congrArg some (by kernel_rfl))⟩
 f57:=⟨Tryd.f54.name,by decide,Tryd.func54.trans (congrArg some (by kernel_rfl))⟩
 t0:=Tryd.underlying0
 a0:=Tryd.isAgg0
 z0:=Tryd.sizeOf0
 v0:=Tryd.zeroValue0
 t3:=Tryd.underlying3
 a3:=Tryd.isAgg3
 z3:=Tryd.sizeOf3
 v3:=Tryd.zeroValue3
 t4:=Tryd.underlying4
 a4:=Tryd.isAgg4
 z4:=Tryd.sizeOf4
 v4:=Tryd.zeroValue4
 t5:=Tryd.underlying5
 a5:=Tryd.isAgg5
 z5:=Tryd.sizeOf5
 v5:=Tryd.zeroValue5
 t9:=Tryd.underlying9
 a9:=Tryd.isAgg9
 z9:=Tryd.sizeOf9
 v9:=Tryd.zeroValue9
 t22:=Tryd.underlying41
 a22:=Tryd.isAgg41
 z22:=Tryd.sizeOf41
 v22:=Tryd.zeroValue41
 t25:=Tryd.underlying70
 a25:=Tryd.isAgg70
 z25:=Tryd.sizeOf70
 v25:=Tryd.zeroValue70
 t39:=Tryd.underlying80
 a39:=Tryd.isAgg80
 z39:=Tryd.sizeOf80
 v39:=Tryd.zeroValue80
 t45:=Tryd.underlying86
 a45:=Tryd.isAgg86
 z45:=Tryd.sizeOf86
 v45:=Tryd.zeroValue86
 t46:=Tryd.underlying87
 a46:=Tryd.isAgg87
 z46:=Tryd.sizeOf87
 v46:=Tryd.zeroValue87
 t50:=Tryd.underlying91
 a50:=Tryd.isAgg91
 z50:=Tryd.sizeOf91
 v50:=Tryd.zeroValue91
 t53:=Tryd.underlying94
 a53:=Tryd.isAgg94
 z53:=Tryd.sizeOf94
 v53:=Tryd.zeroValue94
 t55:=Tryd.underlying96
 a55:=Tryd.isAgg96
 z55:=Tryd.sizeOf96
 v55:=Tryd.zeroValue96
 t66:=Tryd.underlying98
 a66:=Tryd.isAgg98
 z66:=Tryd.sizeOf98
 v66:=Tryd.zeroValue98
 t70:=Tryd.underlying102
 a70:=Tryd.isAgg102
 z70:=Tryd.sizeOf102
 v70:=Tryd.zeroValue102
 t76:=Tryd.underlying106
 a76:=Tryd.isAgg106
 z76:=Tryd.sizeOf106
 v76:=Tryd.zeroValue106
 t77:=Tryd.underlying107
 a77:=Tryd.isAgg107
 z77:=Tryd.sizeOf107
 v77:=Tryd.zeroValue107
def Zj5:Go.Shelf.Ren:=⟨fun | 5=>23 | 7=>32 | n=>n,fun | 23=>25 | 25=>9 | 3=>3 | 4=>4 | 20=>20 | n=>n,fun | n=>n⟩
theorem Zm7:Go.Proofs.SlLaysW.n5 Tryd.prog Zj5 where
 mixed:=by kernel_rfl
 f5:=⟨Tryd.f23.name,by decide,Tryd.func23.trans (congrArg some (by kernel_rfl))⟩
 f7:=Tryd.func32.trans (congrArg some (by kernel_rfl))
 t4:=Tryd.underlying4
 a4:=Tryd.isAgg4
 z4:=Tryd.sizeOf4
 v4:=Tryd.zeroValue4
 t20:=Tryd.underlying20
 a20:=Tryd.isAgg20
 z20:=Tryd.sizeOf20
 v20:=Tryd.zeroValue20
 t23:=Tryd.underlying25
 a23:=Tryd.isAgg25
 z23:=Tryd.sizeOf25
 v23:=Tryd.zeroValue25
end Go.CL
namespace Go.CL
open Go
theorem wr {x:Int} (h1:-9223372036854775808 ≤ x) (h2:x ≤ 9223372036854775807):IntKind.i64.wrap x=x:=by
 rw [IntKind.wrap_i64];omega
theorem wr1 {i:Nat} (h:i < 9223372036854775807):IntKind.i64.wrap ((i:Int) + 1)=((i + 1:Nat):Int):=by
 rw [wr (by omega) (by omega)];omega
theorem idxn {α:Type} (xs:List α) (i:Nat):idx xs (i:Int)=xs[i]?:=by
 unfold idx
 rw [if_pos (by omega)]
 simp
theorem Zeb {α:Type} {xs:List α} {i:Nat} (h:i < xs.length):idx xs (i:Int)=some xs[i]:=by
 rw [idxn,List.getElem?_eq_getElem h]
theorem gd_t {β:Type} [Inhabited β] (x:Option β):gd true x=x:=rfl
theorem gd_f {β:Type} [Inhabited β] (x:Option β):gd false x=some default:=rfl
theorem Zh0 {α:Type} {xs:List α} {l h:Nat} (h1:l ≤ h) (h2:h ≤ xs.length):cut xs (l:Int) (h:Int)=some ((xs.drop l).take (h - l)):=by
 unfold cut
 rw [if_pos (by omega)]
 simp
theorem Zig {a b:ByteArray} (h:a.toList=b.toList):a=b:=by
 rw [_root_.Go.ByteArray.toList_eq,_root_.Go.ByteArray.toList_eq] at h
 exact ByteArray.ext (Array.toList_inj.1 h)
theorem Zex {a b:ByteArray}:sEq a b=true ↔ a=b:=by
 unfold sEq
 constructor
 ·intro h;exact Zig (by simpa using h)
 ·rintro rfl;simp
theorem Zgh (a:ByteArray):sEq a a=true:=Zex.2 rfl
theorem Zrp {a b:ByteArray}:sEq a b=false ↔ a ≠ b:=by
 cases h:sEq a b
 ·simp;intro e;rw [Zex.2 e] at h;cases h
 ·simp;exact Zex.1 h
theorem Zn2:∀ l:List UInt8,Op.bytesLess l l=false
 | []=>rfl
 | x :: l=>by simp [Op.bytesLess,Zn2 l]
theorem Zkx:∀ {a b c:List UInt8},Op.bytesLess a b=true → Op.bytesLess b c=true → Op.bytesLess a c=true
 | [],[],c,h,_=>by simp [Op.bytesLess] at h
 | [],y :: b,[],_,k=>by simp [Op.bytesLess] at k
 | [],y :: b,z :: c,_,_=>rfl
 | x :: a,[],c,h,_=>by simp [Op.bytesLess] at h
 | x :: a,y :: b,[],_,k=>by simp [Op.bytesLess] at k
 | x :: a,y :: b,z :: c,h,k=>by
  simp only [Op.bytesLess,Bool.or_eq_true,Bool.and_eq_true,decide_eq_true_eq,beq_iff_eq] at h k ⊢
  rcases h with h | ⟨h1,h2⟩ <;> rcases k with k | ⟨k1,k2⟩
  ·exact .inl (UInt8.lt_trans h k)
  ·subst k1;exact .inl h
  ·subst h1;exact .inl k
  ·subst h1;subst k1;exact .inr ⟨rfl,Zkx h2 k2⟩
theorem Znv:∀ (a b:List UInt8),Op.bytesLess a b=false → a ≠ b → Op.bytesLess b a=true
 | [],[],_,h=>absurd rfl h
 | [],y :: b,h,_=>by simp [Op.bytesLess] at h
 | x :: a,[],_,_=>rfl
 | x :: a,y :: b,h,hn=>by
  simp only [Op.bytesLess,Bool.or_eq_false_iff,decide_eq_false_iff_not,Bool.and_eq_false_iff] at h
  simp only [Op.bytesLess,Bool.or_eq_true,Bool.and_eq_true,decide_eq_true_eq,beq_iff_eq]
  by_cases e:x=y
  ·subst e
   right
   refine ⟨rfl,Znv a b ?_ (fun h'=>hn (by rw [h']))⟩
   rcases h.2 with h | h
   ·simp at h
   ·exact h
  ·left
   rcases UInt8.lt_or_lt_of_ne e with h' | h'
   ·exact absurd h' h.1
   ·exact h'
theorem Zlx (a:ByteArray):sLt a a=false:=Zn2 _
theorem Znh {a b c:ByteArray} (h:sLt a b=true) (k:sLt b c=true):sLt a c=true:=Zkx h k
theorem Zlu {a b:ByteArray} (h:sLt a b=false) (hn:a ≠ b):sLt b a=true:=Znv _ _ h (fun e=>hn (Zig e))
def cmpI (a b:Int):Int:=if a < b then -1 else if b < a then 1 else 0
def cmpS (a b:ByteArray):Int:=if sLt a b then -1 else if sLt b a then 1 else 0
theorem Zl5 (a b:Int):Zdl a b=some (cmpI a b):=by
 unfold Zdl Zd0 cmpI
 simp only [Option.bind_some,bne_self_eq_false,Bool.false_eq_true,if_false]
 by_cases h:a < b
 ·simp [h]
 ·by_cases h2:b < a <;> simp [h,h2]
theorem Zmm (a b:ByteArray):Zcx a b=some (cmpS a b):=by
 unfold Zcx Zdd cmpS
 simp only [Option.bind_some,Zgh,Bool.not_true,Bool.false_eq_true,if_false]
 by_cases h:sLt a b=true
 ·simp [h]
 ·simp only [h,Bool.false_or,if_false]
  by_cases e:a=b
  ·subst e;simp [Zgh,Zlx]
  ·have h1:=Zlu (by simpa using h) e
   simp [Zrp.2 e,h1]
theorem Zn1 (a b:Int):Zep [a,b]=some (if a ≠ 0 then a else b):=by
 have e1:(0:Int) + 1=1:=rfl
 unfold Zep
 have hn:Int.toNat ((([a,b]:List Int).length:Int) - 0) + 1=3:=rfl
 rw [hn]
 by_cases ha:a=0
 ·subst ha
  by_cases hb:b=0
  ·subst hb;decide
  ·have hw:IntKind.i64.wrap 1=1:=by decide
   have i0:idx [(0:Int),b] 0=some 0:=rfl
   have i1:idx [(0:Int),b] 1=some b:=rfl
   simp [Zc4,i0,i1,hw,hb]
 ·have i0:idx [a,b] 0=some a:=rfl
  simp [Zc4,i0,ha]
def cmpM (x y:Ze):Int:=if cmpI y.Score x.Score ≠ 0 then cmpI y.Score x.Score else cmpS x.Key y.Key
theorem Zhx (x y:Ze):Zk x y=some (cmpM x y):=by
 unfold Zk
 rw [Zl5,Option.bind_some,Zmm,Option.bind_some,Zn1,Option.bind_some]
 rfl
theorem Zj2 (x y:Ze):∃ r,Zk x y=some r:=⟨_,Zhx x y⟩
def Hot (x y:Ze):Prop:=y.Score < x.Score ∨ (x.Score=y.Score ∧ sLt x.Key y.Key=true)
theorem Zht (x y:Ze):decide ((Zk x y).getD 0 < 0)=true ↔ Hot x y:=by
 rw [Zhx,Option.getD_some,decide_eq_true_iff]
 unfold cmpM cmpI cmpS Hot
 by_cases h1:y.Score < x.Score
 ·simp [h1]
 ·by_cases h2:x.Score < y.Score
  ·simp [h1,h2];omega
  ·have e:x.Score=y.Score:=by omega
   rw [if_neg h1,if_neg h2]
   simp only [ne_eq,not_true_eq_false,if_false,e,Int.lt_irrefl,false_or,true_and]
   by_cases h3:sLt x.Key y.Key=true
   ·simp [h3]
   ·simp only [h3,if_false]
    by_cases h4:sLt y.Key x.Key=true <;> simp [h4]
theorem Zes (x y:Ze):decide ((Zk x y).getD 0 < 0)=false ↔ ¬ Hot x y:=by
 rw [← Zht];simp
theorem Hot.irr (x:Ze):¬ Hot x x:=by
 rintro (h | ⟨_,h⟩)
 ·omega
 ·rw [Zlx] at h;cases h
theorem Hot.trans {x y z:Ze} (h:Hot x y) (k:Hot y z):Hot x z:=by
 rcases h with h | ⟨h1,h2⟩ <;> rcases k with k | ⟨k1,k2⟩
 ·left;omega
 ·left;omega
 ·left;omega
 ·exact .inr ⟨h1.trans k1,Znh h2 k2⟩
theorem Hot.tot {x y:Ze} (h:¬ Hot x y) (k:¬ Hot y x):x=y:=by
 have e:x.Score=y.Score:=by
  have h1:¬ y.Score < x.Score:=fun e=>h (.inl e)
  have h2:¬ x.Score < y.Score:=fun e=>k (.inl e)
  omega
 have e2:x.Key=y.Key:=Classical.byContradiction fun hn=>by
  by_cases h3:sLt x.Key y.Key=true
  ·exact h (.inr ⟨e,h3⟩)
  ·exact k (.inr ⟨e.symm,Zlu (by simpa using h3) hn⟩)
 cases x;cases y;simp at e e2;rw [e,e2]
theorem Hot.ntr {x y z:Ze} (h:¬ Hot x y) (k:¬ Hot y z):¬ Hot x z:=fun hz=>by
 by_cases h1:Hot y x
 ·exact k (h1.trans hz)
 ·have:=Hot.tot h h1
  subst this;exact k hz
theorem Zp8 (x:Ze):decide ((Zk x x).getD 0 < 0)=false:=(Zes _ _).2 (Hot.irr x)
theorem Zob {x y z:Ze} (h:decide ((Zk x y).getD 0 < 0)=true) (k:decide ((Zk y z).getD 0 < 0)=true):decide ((Zk x z).getD 0 < 0)=true:=(Zht _ _).2 (((Zht _ _).1 h).trans ((Zht _ _).1 k))
theorem Zl0 {x y z:Ze} (h:decide ((Zk x y).getD 0 < 0)=false) (k:decide ((Zk y z).getD 0 < 0)=false):decide ((Zk x z).getD 0 < 0)=false:=(Zes _ _).2 (Hot.ntr ((Zes _ _).1 h) ((Zes _ _).1 k))
theorem Zqh {x y:Ze} (h:decide ((Zk x y).getD 0 < 0)=false) (k:decide ((Zk y x).getD 0 < 0)=false):x=y:=Hot.tot ((Zes _ _).1 h) ((Zes _ _).1 k)
theorem Zcu (l:List Ze):(Z8 l).Perm l:=List.mergeSort_perm ..
theorem Ze0 (l:List Ze):(Z8 l).Pairwise (fun x y=>¬ Hot y x):=by
 have h:=List.pairwise_mergeSort (le:=fun x y:Ze=>!decide ((Zk y x).getD 0 < 0)) (fun a b c h k=>by
  simp only [Bool.not_eq_true'] at h k ⊢
  exact Zl0 k h) (fun a b=>by
  simp only [Bool.or_eq_true,Bool.not_eq_true']
  by_cases hb:Hot b a
  ·right;rw [Zes];exact fun k=>Hot.irr a (k.trans hb)
  ·left;exact (Zes _ _).2 hb) l
 refine List.Pairwise.imp (fun {a b} hab=>?_) h
 simp only [Bool.not_eq_true'] at hab
 exact (Zes _ _).1 hab
theorem Ze9:∀ {l m:List Ze},l.Perm m → l.Pairwise (fun x y=>¬ Hot y x) → m.Pairwise (fun x y=>¬ Hot y x) → l=m:=fun {l m} hp hl hm =>
 hp.eq_of_pairwise (fun a b _ _ h1 h2=>Hot.tot h2 h1) hl hm
theorem Zf6 {l m:List Ze} (hp:l.Perm m):Z8 l=Z8 m :=
 Ze9 ((Zcu l).trans (hp.trans (Zcu m).symm)) (Ze0 l) (Ze0 m)
end Go.CL
namespace Go.CL
open Go Go.RowKit Go.Proofs
theorem Zgw:Enc Zl (fun x=>[.string x.Key,.int .i64 x.Score]):=⟨fun g x cs=>⟨Zpx g x cs,fun h=>by subst h;exact ⟨rfl,Qc.2 ⟨rfl,Qc.2 ⟨rfl,fun _ h=>by cases h⟩⟩⟩⟩,fun _=>rfl,fun x v hv=>by
 rcases List.mem_cons.1 hv with rfl | hv
 ·rfl
 ·rw [List.mem_singleton.1 hv];rfl⟩
theorem Zqx (x y:Ze):FnOk Tryd.prog 25 [Zl.pd x,Zl.pd y] (pInt .i64 ((Zk x y).getD 0)):=by
 obtain ⟨r,h⟩:=Zj2 x y
 rw [h]
 exact Zg8 x y h
theorem Zoo:Go.Sort.SWO (ltOf fun x y:Ze=>(Zk x y).getD 0):=⟨Zp8,fun x y z=>Zob,fun x y z=>Zl0⟩
theorem Zou:∀ x y:Ze,ltOf (fun x y:Ze=>(Zk x y).getD 0) x y=false → ltOf (fun x y:Ze=>(Zk x y).getD 0) y x=false → x=y:=fun x y=>Zqh
theorem Zfp (a0:Zi) {r:List Ze} (h:Z0 a0=some r):FnL Tryd.prog 16 [(Z4.ptr a0)] (Zl.sl.pd r):=by
 unfold Z0 at h
 obtain ⟨hsz,h⟩:=Zfj h
 obtain rfl:=Option.some.inj h
 refine Zqr (e:=58) (N:=25) Zgw Tryd.func16 rfl rfl (Qe rfl) rfl (fun a g0 h0 hst hb=>?_)
 replace hst:St 25 [(0,(Z4.ptr a0))] a g0:=hst
 refine r_s (T:=[⟨[],[(2,(pArr Zl 58 2 ([]:List Ze)))],[],[],[2]⟩]) (F:=[.o 0]) hst hb Zb
  (o_p rfl (Zem rfl rfl (Opd.c (fun g=>Zke)))<|o_n) (fun a g hst hb=>?_)
 refine r_s (T:=[⟨[],[(3,(pArr Zl 58 3 ([]:List Ze)))],[],[],[3]⟩]) (F:=[.o 0,.p 0 0]) hst hb Zb
  (o_p rfl (Zem rfl rfl (Opd.c (fun g=>Zke)))<|o_n) (fun a g hst hb=>?_)
 refine wp_seq ?_
 refine Zb0 (fun a w=>∃ (g:G) (xs:List Ze),w=g.w ∧ St 25 [(3,(pArr Zl 58 3 xs))] a g ∧ Base g0 g ∧ xs.Perm (a0.by_.map Zs)) ?_ ?_
 ·rintro a w ⟨g,xs,rfl,hst,hb,hp⟩
  refine Zg ?_
  have hxl:xs.length=a0.by_.length:=by rw [hp.length_eq,List.length_map]
  have h1:xs.length < 4611686018427387904:=by omega
  refine r_s (T:=[⟨[.o 0],_,[],[],[22]⟩,⟨[.p 0 0,.o 0],[(23,pAny),(3,(pArr Zl 58 3 (Z8 xs)))],[4],[0],[3,22,23]⟩]) (F:=[.p 1 1]) hst hb Zb
   (Qm rfl u_0<|o_p rfl (Zq1 (cf:=fun x y=>(Zk x y).getD 0) Zop rfl Tryd.isAgg58 Tryd.sizeOf58 rfl Zgw Zqx Zse Zry Zoo Zou rfl rfl (by decide) u_1 u_0 (by decide) h1)<|o_n) (fun a g hst hb=>?_)
  refine r_s (T:=[⟨[.o 0],_,[],[],[24]⟩,⟨[.p 0 0],_,[],[0],[2]⟩]) (F:=[.p 1 0]) hst hb Zb
   (Qm rfl u_0<|Qa rfl u_0<|o_n) (fun a g hst hb=>?_)
  refine wp_ret ?_
  have hq:=hst.at 0 rfl
  rw [Zf6 hp] at hq
  exact Zrc rfl hst hb (Zm (s:=2)) hq
 ·skip
  refine r_s (T:=[⟨[.o 0],_,[],[],[6]⟩,⟨[.p 0 0],_,[],[0],[7]⟩,⟨[.p 1 0],_,[],[0,1],[8]⟩,⟨[.p 2 0],_,[],[0,1,2],[9]⟩,⟨[.p 3 0],[(10,(Zgl 10 a0.by_))],[11],Lr 4,[10]⟩]) (F:=[.o 1,.p 4 0]) hst hb Zb
   (Qm rfl u_0<|o_p rfl (Zd2 rfl rfl u_0 (fun _ _ ⟨_,_,_,e,_⟩=>⟨_,e⟩))<|Qf rfl Zfz u_0<|Ql rfl Zhu u_0<|o_p rfl (Zk0 Tryd.underlying25 rfl rfl u_0)<|o_n) (fun a g hst hb=>?_)
  refine wp_block ?_
  refine wp_loop_ghost (fun n a w=>∃ (left came:List (ByteArray × Int)) (g:G),w=g.w ∧ St 25 [(3,(pArr Zl 58 3 (came.map Zs))),(10,(Zgl 10 left))] a g ∧ Base g0 g ∧ a0.by_.Perm (came ++ left) ∧ n=left.length) a0.by_.length ⟨a0.by_,[],g,rfl,hst.pick [0,1] rfl,hb,.refl _,rfl⟩ (fun n a w hI=>?_)
  obtain ⟨left,came,g,rfl,hst,hb,hp,rfl⟩:=hI
  refine r_s (T:=[⟨[.o 1],[(11,(Zhh 10 left)),(10,(pItP 10))],[11],[],[10,11]⟩,⟨[.p 0 0],_,[],[0],[12]⟩]) (F:=[.o 0,.p 0 1,.p 1 0]) hst hb Zb
   (o_p rfl (Zl1 (by decide) rfl rfl u_0)<|o_p rfl (Zkb rfl rfl u_0)<|o_n) (fun a g hst hb=>?_)
  refine wp_seq ?_
  rcases Zic (i1:=2) (i2:=1) rfl rfl hst with ⟨hl,hst⟩ | ⟨kn,left',hl,hst⟩
  ·skip
   replace hst:St 25 [(3,(pArr Zl 58 3 (came.map Zs))),(10,(pItP 10)),(12,(Zn false))] a g:=hst
   refine wp_cond_split (hst.bool 2 rfl) (fun hc=>by cases hc) (fun _=>?_)
   refine wp_exit ?_
   refine Z2 ?_
   refine Z2 ?_
   refine Zbk ?_
   subst hl
   rw [List.append_nil] at hp
   exact ⟨g,_,rfl,hst.pick [0] rfl,hb,(hp.map Zs).symm⟩
  ·skip
   replace hst:St 25 [(3,(pArr Zl 58 3 (came.map Zs))),(10,(Zdi 10 kn left')),(12,(Zn true))] a g:=hst
   refine wp_cond_split (hst.bool 2 rfl) (fun _=>?_) (fun hc=>by cases hc)
   refine wp_skip ?_
   refine Zg ?_
   refine wp_block ?_
   have hlen:left.length=left'.length + 1:=by rw [hl.length_eq,List.length_cons]
   have hcl:a0.by_.length=came.length + left.length:=by rw [hp.length_eq,List.length_append]
   refine r_s (L:=[(3,_),(10,_)]) (T:=[⟨[.o 1],_,[],[],[13]⟩,⟨[.p 0 0],_,[],[0],[14]⟩,⟨[.p 0 0],_,[],[0],[15]⟩,⟨[.p 1 0],_,[],[0,1],[4]⟩,⟨[.p 2 0],_,[],Lr 4,[5]⟩]) (F:=[.o 0,.p 3 0,.p 4 0,.o 1]) (hst.pick [0,1] rfl) hb Zb
    (o_p rfl (Zkz rfl rfl u_0)<|o_p rfl (Zfg rfl rfl u_0 rfl)<|o_p rfl (Zfg rfl rfl u_0 rfl)<|Qa rfl u_0<|Qa rfl u_0<|o_n) (fun a g hst hb=>?_)
   have h2:((came.map Zs).length + ([({ Key:=kn.1,Score:=kn.2 }:Ze)]:List Ze).length) * 24 ≤ 140737488355328:=by simp only [List.length_map,List.length_cons,List.length_nil];omega
   refine r_g (T:=[⟨[.o 0],_,[],[],[16]⟩,⟨[.o 1],_,[],[],[17]⟩,⟨[.o 2],_,[],[],[18]⟩,⟨[.p 1 0,.p 2 0],_,[],[1,2],[19]⟩,⟨[.p 3 0],_,[],[1,2,3],[20]⟩,⟨[.p 0 0,.p 4 0],_,[4],Lr 5,[3,16,21]⟩,⟨[.p 5 0],_,[],Lr 6,[3]⟩]) (F:=[.p 6 0,.o 3]) hst hb Zb
    (Qm rfl u_0<|Qm rfl u_0<|Qm rfl u_0<|o_p rfl (Zjh rfl rfl u_0 u_1)<|o_p rfl (Zeo Zp4 (xs:=[.tmp 19]) (.cons u_0 .nil) (by decide) rfl rfl)<|o_p rfl (Zgd Zp4 rfl rfl u_0 u_1 (by simp) h2)<|Qa rfl u_0<|o_n) (fun a g hst hb=>?_)
   refine Z7 ?_
   refine ⟨left'.length,by omega,left',came ++ [kn],g,rfl,?_,hb,?_,rfl⟩
   ·have hst2:=hst.pick [0,1] rfl (L':=[(3,(pArr Zl 58 3 ((came.map Zs) ++ ([({ Key:=kn.1,Score:=kn.2 }:Ze)]:List Ze)))),(10,(Zdi 10 kn left'))])
    refine ⟨hst2.size,hst2.df,fun en he=>?_⟩
    rcases List.mem_cons.1 he with rfl | he
    ·rw [List.map_append];exact hst2.h _ (List.mem_cons_self ..)
    ·rw [List.mem_singleton.1 he];exact Zgj (hst2.h _ (List.mem_cons_of_mem _ (List.mem_cons_self ..)))
   ·rw [List.append_assoc];exact hp.trans (hl.append_left came)
theorem Zek (a0:Zi) {r:List Ze} (h:Z0 a0=some r):FnMR Tryd.prog 16 Zq a0 a0 [] (Zl.sl.pd r):=Zgb (Zfp a0 h) rfl
theorem Znj (a0:Int) {r:Zck} (h:Ziv a0=some r):FnOk Tryd.prog 30 [(pInt .i64 a0)] (Zc7.pd r):=by
 have H0:=h
 unfold Ziv at H0
 clear h
 refine Zco (N:=13) Tryd.func30 rfl rfl (Qe rfl) rfl rfl (fun a g0 hst hb=>?_)
 refine r_s (T:=[⟨[],[(2,(pBox Zc7 2 (default:Zck)))],[3],[],[2]⟩]) (F:=[.o 0,.p 0 0]) hst hb Zb
  (o_p rfl (Zc5 (zs:=[.string ByteArray.empty,.int .i64 0,.string ByteArray.empty]) (by kernel_rfl) (fun g=>Zk1 g) rfl rfl)<|o_n) (fun a g hst hb=>?_)
 refine wp_seq ?_
 refine r_s (T:=[⟨[.o 0],_,[],[],[3]⟩,⟨[.p 0 0],_,[],[0],[4]⟩,⟨[.p 1 0],_,[],[0,1],[5]⟩,⟨[.p 2 0,.o 0],_,[],[0,1,2],[6]⟩,⟨[.p 2 0,.p 3 0],_,[],Lr 4,[7]⟩,⟨[.p 2 0,.p 4 0],_,[],Lr 5,[8]⟩]) (F:=[.o 0,.o 1,.p 5 0]) hst hb Zb
  (Qm rfl u_0<|o_p rfl (Zst rfl rfl u_0 c_i)<|Qm rfl u_0<|o_g (Qg_f rfl (fun hG=>Zbo rfl rfl u_0))<|o_g (Qg_f rfl (fun hG=>Zp0 rfl rfl (Opd.gd hG u_0) c_i))<|o_p rfl (Zde rfl rfl u_0 (fun hz=>(Opd.gd (bNF hz) u_1)))<|o_n) (fun a g hst hb=>?_)
 refine wp_cond_split (hst.bool 2 rfl) (fun hc1=>?_) (fun hc1=>?_)
 ·replace H0:=Zx hc1 H0
  refine r_s (L:=[(2,_)]) (T:=[⟨[],_,[],[],[9]⟩,⟨[.p 0 0,.o 0],_,[3],[0],[2]⟩]) (F:=[.p 1 0]) (hst.pick [1] rfl) hb Zb
   (o_p rfl (Zrd rfl rfl )<|o_p rfl (Zkt Zis rfl rfl u_1 u_0)<|o_n) (fun a g hst hb=>?_)
  refine wp_ret ?_
  refine Zt ?_
  obtain rfl:=Option.some.inj H0
  obtain ⟨u0,hu0,hq0⟩:=Zlo (P:=Tryd.prog) Zis (hst.at 0 rfl)
  exact Z6 rfl hst hb hu0 hq0
 ·replace H0:=Zw hc1 H0
  refine wp_skip ?_
  refine Zg ?_
  obtain ⟨e2,h3,H0⟩:=Zd H0
  refine r_s (L:=[(0,_),(2,_)]) (T:=[⟨[.o 0],_,[],[],[10]⟩,⟨[.p 0 0],_,[],[0],[11]⟩,⟨[.p 1 0],_,[],[0,1],[12]⟩,⟨[.p 2 0,.o 1],_,[3],[0,1,2],[2]⟩]) (F:=[.p 3 0]) (hst.pick [0,1] rfl) hb Zb
   (Qm rfl u_0<|o_p rfl (Zlf Tryd.underlying84 Zsk rfl rfl (Opd.glob gm_0 gk_0) u_0 h3)<|Ql rfl Zis u_0<|o_p rfl (Zkt Zis rfl rfl u_1 u_0)<|o_n) (fun a g hst hb=>?_)
  refine wp_ret ?_
  obtain rfl:=Option.some.inj H0
  obtain ⟨u0,hu0,hq0⟩:=Zlo (P:=Tryd.prog) Zis (hst.at 0 rfl)
  exact Z6 rfl hst hb hu0 hq0
theorem Zjn (a0:Int) {r:Int} (h:Ze3 a0=some r):FnOk Tryd.prog 20 [(pInt .i64 a0)] (pInt .i64 r):=by
 have H0:=h
 unfold Ze3 at H0
 clear h
 refine Zco (N:=6) Tryd.func20 rfl rfl (Qe rfl) rfl rfl (fun a g0 hst hb=>?_)
 refine r_s (T:=[⟨[],_,[],[],[2]⟩]) (F:=[.o 0]) hst hb Zb
  (Qa rfl c_i<|o_n) (fun a g hst hb=>?_)
 obtain ⟨r1,h2,H0⟩:=Zd H0
 refine r_s (T:=[⟨[.o 0],_,[],[],[3]⟩,⟨[.p 0 0],_,[],[0],[4]⟩,⟨[.p 1 0],_,[],[0,1],[5]⟩,⟨[.p 2 0],_,[],[0,1,2],[2]⟩]) (F:=[.p 3 0]) hst hb Zb
  (Qm rfl u_0<|o_p rfl (Zbu Zr5 (Znj _ h2) rfl rfl (.cons u_0 .nil))<|o_p rfl (Zo6 Zq4 rfl rfl u_0)<|Qa rfl u_0<|o_n) (fun a g hst hb=>?_)
 refine wp_ret ?_
 obtain rfl:=Option.some.inj H0
 exact Z6 rfl hst hb (Zm (s:=2)) (hst.at 0 rfl)
theorem Zii (a0:Int) (a1:Int) {r:Bool} (h:Zd9 a0 a1=some r):FnOk Tryd.prog 19 [(pInt .i64 a0),(pInt .i64 a1)] (Zn r):=by
 have H0:=h
 unfold Zd9 at H0
 clear h
 refine Zco (N:=19) Tryd.func19 rfl rfl (Qe rfl) rfl rfl (fun a g0 hst hb=>?_)
 refine r_s (T:=[⟨[],_,[],[],[4]⟩]) (F:=[.o 0,.o 1]) hst hb Zb
  (Qa rfl c_b<|o_n) (fun a g hst hb=>?_)
 refine wp_seq ?_
 refine r_s (T:=[⟨[.o 1],_,[],[],[5]⟩]) (F:=[.o 0,.o 1,.p 0 0]) hst hb Zb
  (Qm rfl u_0<|o_n) (fun a g hst hb=>?_)
 refine wp_block ?_
 refine wp_seq ?_
 refine r_s (T:=[⟨[.o 2],_,[],[],[7]⟩,⟨[.p 0 0],_,[],[0],[6]⟩]) (F:=[.o 0,.o 1,.o 2,.p 1 0]) hst hb Zb
  (o_p rfl (Zcd rfl rfl u_0 c_i)<|Qa rfl u_0<|o_n) (fun a g hst hb=>?_)
 refine Zb0 (fun a w=>∃ (j8:Bool) (g:G),w=g.w ∧ St 19 [(0,(pInt .i64 a0)),(1,(pInt .i64 a1)),(6,(Zn j8))] a g ∧ Base g0 g ∧ Zbm a0 a1 j8=some r) ?_ ?_
 ·rintro a w ⟨j8,g,rfl,hst,hb,H0⟩
  unfold Zbm at H0
  refine Zg ?_
  refine wp_cond_split (hst.bool 2 rfl) (fun hc9=>?_) (fun hc9=>?_)
  ·replace H0:=Zx hc9 H0
   obtain ⟨r10,h11,H0⟩:=Zd H0
   refine r_s (L:=[(0,_),(1,_)]) (T:=[⟨[.o 1],_,[],[],[15]⟩,⟨[.p 0 0],_,[],[0],[16]⟩,⟨[.o 0],_,[],[],[17]⟩,⟨[.p 1 0,.p 2 0],_,[],[0,1,2],[18]⟩,⟨[.p 3 0],_,[],Lr 4,[4]⟩]) (F:=[.p 4 0]) (hst.pick [0,1] rfl) hb Zb
    (Qm rfl u_0<|o_p rfl (Zbu Zpw (Zjn _ h11) rfl rfl (.cons u_0 .nil))<|Qm rfl u_0<|o_p rfl (Zcd rfl rfl u_0 u_1)<|Qa rfl u_0<|o_n) (fun a g hst hb=>?_)
   refine wp_ret ?_
   refine Zcb ?_
   refine Zt ?_
   obtain rfl:=Option.some.inj H0
   exact Z6 rfl hst hb (Zm (s:=4)) (hst.at 0 rfl)
  ·replace H0:=Zw hc9 H0
   refine wp_skip ?_
   refine Z7 ?_
   refine Zg ?_
   refine r_s (L:=[]) (T:=[⟨[],_,[],[],[4]⟩]) (F:=[.p 0 0]) (hst.pick [] rfl) hb Zb
    (Qa rfl c_b<|o_n) (fun a g hst hb=>?_)
   refine wp_ret ?_
   obtain rfl:=Option.some.inj H0
   exact Z6 rfl hst hb (Zm (s:=4)) (hst.at 0 rfl)
 ·refine wp_cond_split (hst.bool 3 rfl) (fun hc1=>?_) (fun hc1=>?_)
  ·replace H0:=Zx hc1 H0
   refine wp_skip ?_
   exact ⟨(a1 == (7:Int)),g,rfl,(hst.pick [0,1,3] rfl),hb,H0⟩
  ·replace H0:=Zw hc1 H0
   refine r_s (L:=[(0,_),(1,_),(5,_)]) (T:=[⟨[.o 2],_,[],[],[8]⟩,⟨[.p 0 0],_,[],[0],[6]⟩]) (F:=[.o 0,.o 1,.o 2,.p 1 0]) (hst.pick [0,1,2] rfl) hb Zb
    (o_p rfl (Zcd rfl rfl u_0 c_i)<|Qa rfl u_0<|o_n) (fun a g hst hb=>?_)
   refine wp_cond_split (hst.bool 3 rfl) (fun hc2=>?_) (fun hc2=>?_)
   ·replace H0:=Zx hc2 H0
    refine wp_skip ?_
    exact ⟨(a1 == (8:Int)),g,rfl,(hst.pick [0,1,3] rfl),hb,H0⟩
   ·replace H0:=Zw hc2 H0
    refine r_s (L:=[(0,_),(1,_),(5,_)]) (T:=[⟨[.o 2],_,[],[],[9]⟩,⟨[.p 0 0],_,[],[0],[6]⟩]) (F:=[.o 0,.o 1,.o 2,.p 1 0]) (hst.pick [0,1,2] rfl) hb Zb
     (o_p rfl (Zcd rfl rfl u_0 c_i)<|Qa rfl u_0<|o_n) (fun a g hst hb=>?_)
    refine wp_cond_split (hst.bool 3 rfl) (fun hc3=>?_) (fun hc3=>?_)
    ·replace H0:=Zx hc3 H0
     refine wp_skip ?_
     exact ⟨(a1 == (10:Int)),g,rfl,(hst.pick [0,1,3] rfl),hb,H0⟩
    ·replace H0:=Zw hc3 H0
     refine r_s (L:=[(0,_),(1,_),(5,_)]) (T:=[⟨[.o 2],_,[],[],[10]⟩,⟨[.p 0 0],_,[],[0],[6]⟩]) (F:=[.o 0,.o 1,.o 2,.p 1 0]) (hst.pick [0,1,2] rfl) hb Zb
      (o_p rfl (Zcd rfl rfl u_0 c_i)<|Qa rfl u_0<|o_n) (fun a g hst hb=>?_)
     refine wp_cond_split (hst.bool 3 rfl) (fun hc4=>?_) (fun hc4=>?_)
     ·replace H0:=Zx hc4 H0
      refine wp_skip ?_
      exact ⟨(a1 == (11:Int)),g,rfl,(hst.pick [0,1,3] rfl),hb,H0⟩
     ·replace H0:=Zw hc4 H0
      refine r_s (L:=[(0,_),(1,_),(5,_)]) (T:=[⟨[.o 2],_,[],[],[11]⟩,⟨[.p 0 0],_,[],[0],[6]⟩]) (F:=[.o 0,.o 1,.o 2,.p 1 0]) (hst.pick [0,1,2] rfl) hb Zb
       (o_p rfl (Zcd rfl rfl u_0 c_i)<|Qa rfl u_0<|o_n) (fun a g hst hb=>?_)
      refine wp_cond_split (hst.bool 3 rfl) (fun hc5=>?_) (fun hc5=>?_)
      ·replace H0:=Zx hc5 H0
       refine wp_skip ?_
       exact ⟨(a1 == (13:Int)),g,rfl,(hst.pick [0,1,3] rfl),hb,H0⟩
      ·replace H0:=Zw hc5 H0
       refine r_s (L:=[(0,_),(1,_),(5,_)]) (T:=[⟨[.o 2],_,[],[],[12]⟩,⟨[.p 0 0],_,[],[0],[6]⟩]) (F:=[.o 0,.o 1,.o 2,.p 1 0]) (hst.pick [0,1,2] rfl) hb Zb
        (o_p rfl (Zcd rfl rfl u_0 c_i)<|Qa rfl u_0<|o_n) (fun a g hst hb=>?_)
       refine wp_cond_split (hst.bool 3 rfl) (fun hc6=>?_) (fun hc6=>?_)
       ·replace H0:=Zx hc6 H0
        refine wp_skip ?_
        exact ⟨(a1 == (14:Int)),g,rfl,(hst.pick [0,1,3] rfl),hb,H0⟩
       ·replace H0:=Zw hc6 H0
        refine r_s (L:=[(0,_),(1,_),(5,_)]) (T:=[⟨[.o 2],_,[],[],[13]⟩,⟨[.p 0 0],_,[],[0],[6]⟩]) (F:=[.o 0,.o 1,.o 2,.p 1 0]) (hst.pick [0,1,2] rfl) hb Zb
         (o_p rfl (Zcd rfl rfl u_0 c_i)<|Qa rfl u_0<|o_n) (fun a g hst hb=>?_)
        refine wp_cond_split (hst.bool 3 rfl) (fun hc7=>?_) (fun hc7=>?_)
        ·replace H0:=Zx hc7 H0
         refine wp_skip ?_
         exact ⟨(a1 == (18:Int)),g,rfl,(hst.pick [0,1,3] rfl),hb,H0⟩
        ·replace H0:=Zw hc7 H0
         refine r_g (L:=[(0,_),(1,_),(5,_)]) (T:=[⟨[.o 2],_,[],[],[14]⟩,⟨[.p 0 0],_,[],[0],[6]⟩]) (F:=[.o 0,.o 1,.p 1 0]) (hst.pick [0,1,2] rfl) hb Zb
          (o_p rfl (Zcd rfl rfl u_0 c_i)<|Qa rfl u_0<|o_n) (fun a g hst hb=>?_)
         exact ⟨(a1 == (21:Int)),g,rfl,(hst.pick [0,1,2] rfl),hb,H0⟩
end Go.CL
namespace Go.CL
open Go
theorem Zlj {α:Type} {l:List α} {i:Nat} {e:α} (h:l[i]?=some e):l.drop i=e :: l.drop (i + 1):=by
 obtain ⟨hl,he⟩:=List.getElem?_eq_some_iff.1 h
 rw [← he];exact List.drop_eq_getElem_cons hl
theorem Zj9 (a b:List (ByteArray × Int)):Zh (a ++ b)=Zh a ++ Zh b:=by simp [Zh]
theorem Znu {a b:List (ByteArray × Int)} (h:a.Perm b):(Zh a).Perm (Zh b):=(h.filter _).map _
theorem Zja {k:ByteArray} {m:List (ByteArray × Int)} (h:∃ e ∈ Zh m,e.1=k):∃ e ∈ m,e.1=k:=by
 obtain ⟨e,he,rfl⟩:=h
 obtain ⟨e2,h2,rfl⟩:=List.mem_map.1 he
 exact ⟨e2,(List.mem_filter.1 h2).1,rfl⟩
theorem Zkh {m:List (ByteArray × Int)} {k:ByteArray} {n:Int} (h:∀ e ∈ m,e.1 ≠ k):setS m k n=(k,n) :: m:=by
 unfold setS
 rw [List.filter_eq_self.2 fun e he=>by simpa using h e he]
theorem Zno {m came left nx:List (ByteArray × Int)} {kn:ByteArray × Int} (hk:(m.map (·.1)).Nodup) (hp:m.Perm ((came ++ [kn]) ++ left)) (hn:nx.Perm (Zh came)) (h1:1 < kn.2):(setS nx kn.1 (IntKind.i64.wrap (Int.tdiv kn.2 2))).Perm (Zh (came ++ [kn])):=by
 have hk2:=((hp.map (·.1)).nodup_iff).1 hk
 rw [List.map_append,List.map_append] at hk2
 have hk3:=(List.nodup_append.1 hk2).1
 have hno:∀ e ∈ came,e.1 ≠ kn.1:=fun e he heq=>(List.nodup_append.1 hk3).2.2 e.1 (List.mem_map.2 ⟨e,he,rfl⟩) kn.1 (by simp) heq
 rw [Zkh fun e he heq=>by
  obtain ⟨e2,h2,h3⟩:=Zja ⟨e,hn.mem_iff.1 he,heq⟩
  exact hno e2 h2 h3]
 rw [Zj9]
 have:Zh [kn]=[(kn.1,IntKind.i64.wrap (Int.tdiv kn.2 2))]:=by simp [Zh,h1]
 rw [this]
 exact (List.Perm.cons _ hn).trans (List.perm_append_comm (l₁:=[_]))
theorem Zoa {came nx:List (ByteArray × Int)} {kn:ByteArray × Int} (hn:nx.Perm (Zh came)) (h1:¬ 1 < kn.2):nx.Perm (Zh (came ++ [kn])):=by
 rw [Zj9]
 have:Zh [kn]=[]:=by simp [Zh,h1]
 rw [this,List.append_nil];exact hn
theorem Zpk {m:List (ByteArray × Int)} {x:List Ze} (hr:x=Z8 (m.map Zs)):∃ c,cut x (min (m.length:Int) 256) (x.length:Int)=some c ∧ c=(Z8 (m.map Zs)).drop 256:=by
 have hl:x.length=m.length:=by rw [hr,(Zcu _).length_eq,List.length_map]
 refine ⟨(x.drop (min (m.length:Int) 256).toNat).take ((x.length:Int).toNat - (min (m.length:Int) 256).toNat),?_,?_⟩
 ·unfold cut
  rw [if_pos ⟨by omega,by omega,by omega⟩]
 ·rw [List.take_of_length_le (by rw [List.length_drop];omega),← hr]
  by_cases h:m.length ≤ 256
  ·rw [List.drop_of_length_le (by omega),List.drop_of_length_le (by omega)]
  ·congr 1;omega
theorem Znq (c:List Ze):∀ m:List (ByteArray × Int),Zda c m=m.filter fun e=>decide (∀ x ∈ c,e.1 ≠ x.Key):=by
 induction c with
 | nil=>intro m;exact (List.filter_eq_self.2 (by simp)).symm
 | cons x c ih =>
  intro m
  have hd:Zda (x :: c) m=Zda c (delS m x.Key):=rfl
  rw [hd,ih,delS,List.filter_filter]
  congr 1
  funext e
  simp [Bool.and_comm]
theorem Zph {m:List (ByteArray × Int)} {c:List Ze} (hk:(m.map (·.1)).Nodup) (hc:c=(Z8 (m.map Zs)).drop 256):(Zda c m).Perm (Zbf m):=by
 rw [Znq]
 let un:Ze → ByteArray × Int:=fun x=>(x.Key,x.Score)
 have hs:m.Perm ((Z8 (m.map Zs)).map un):=by
  have:=((Zcu (m.map Zs)).map un).symm
  rw [List.map_map] at this
  have e:(un ∘ Zs)=id:=rfl
  rw [e,List.map_id] at this
  exact this
 have hk2:=((hs.map (·.1)).nodup_iff).1 hk
 refine (hs.filter _).trans ?_
 subst hc
 conv=>lhs;rw [← List.take_append_drop 256 (Z8 (m.map Zs))]
 rw [← List.take_append_drop 256 (Z8 (m.map Zs)),List.map_append,List.map_append] at hk2
 have hdis:=(List.nodup_append.1 hk2).2.2
 rw [List.map_append,List.filter_append]
 have h1:(((Z8 (m.map Zs)).take 256).map un).filter (fun e=>decide (∀ x ∈ (Z8 (m.map Zs)).drop 256,e.1 ≠ x.Key))=((Z8 (m.map Zs)).take 256).map un:=List.filter_eq_self.2 fun e he=>by
  refine decide_eq_true fun x hx heq=>hdis e.1 (List.mem_map.2 ⟨e,he,rfl⟩) x.Key (List.mem_map.2 ⟨un x,List.mem_map.2 ⟨x,hx,rfl⟩,rfl⟩) heq
 have h2:(((Z8 (m.map Zs)).drop 256).map un).filter (fun e=>decide (∀ x ∈ (Z8 (m.map Zs)).drop 256,e.1 ≠ x.Key))=[]:=List.filter_eq_nil_iff.2 fun e he=>by
  obtain ⟨x,hx,rfl⟩:=List.mem_map.1 he
  simp only [decide_eq_true_eq]
  exact fun h=>h x hx rfl
 rw [List.take_append_drop] at *
 rw [h1,h2,List.append_nil]
 exact .refl _
end Go.CL
namespace Go.CL
open Go Go.RowKit Go.Proofs
theorem Zdt (a0:Zi) (a1:Zr) {r:Zi × Unit} (h:Z5 a0 a1=some r):FnMR Tryd.prog 9 Zq a0 r.1 [(Zp.pd a1)] (pTup []):=by
 unfold Z5 at h
 obtain ⟨fin,hfin,h⟩:=Zd h
 obtain ⟨al,hal,h⟩:=Zd h
 obtain rfl:=Option.some.inj h
 refine Zp5 (N:=76) Tryd.func9 rfl rfl (Qe rfl) rfl rfl (fun a g0 b0 hst hb=>?_)
 replace hst:St 76 [(0,(Zbz (some b0) Z4 0 a0)),(1,(Zp.pd a1))] a g0:=hst
 have hkeys:=Zom (hst.at 0 rfl)
 refine r_s (T:=[⟨[.o 1],_,[],[],[3]⟩]) (F:=[.o 0,.p 0 0]) hst hb Zb
  (Qb rfl u_0<|o_n) (fun a g hst hb=>?_)
 refine r_s (T:=[⟨[],[(13,(Zb4 13 ([]:List (ByteArray × Int))))],[14],[],[13]⟩,⟨[.p 0 0],_,[],[0],[4]⟩]) (F:=[.o 0,.o 1,.p 1 0]) hst hb Zb
  (o_p rfl (Zle rfl rfl)<|Qa rfl u_0<|o_n) (fun a g hst hb=>?_)
 refine wp_seq ?_
 refine Zb0 (fun a w=>∃ (g:G),w=g.w ∧ St 76 [(0,(Zbz (some b0) Z4 0 a0)),(3,(Zp.ptr a1)),(4,(Zb4 13 (Zh a0.by_)))] a g ∧ Base g0 g) ?_ ?_
 ·rintro a w ⟨g,rfl,hst,hb⟩
  refine Zg ?_
  refine wp_seq ?_
  refine Zb0 (fun a w=>∃ (g:G),w=g.w ∧ St 76 [(0,(Zbz (some b0) Z4 0 a0)),(4,(Zb4 13 fin))] a g ∧ Base g0 g) ?_ ?_
  ·rintro a w ⟨g,rfl,hst,hb⟩
   refine Zg ?_
   replace hst:=Zmo (L:=[]) hst
   replace hst:St 76 [(0,(pEq (ptrB b0 0))),(4,(Zez 13)),(1002,(pNH0 b0 13 fin))] a g:=hst
   refine r_s (T:=[⟨[.o 0],_,[],[],[57]⟩,⟨[.o 1],_,[],[],[58]⟩,⟨[.p 0 0],_,[],[0,1],[59]⟩,⟨[.p 2 0],_,[],[0,1,2],[60]⟩,⟨[.p 3 0,.p 1 0,.o 2],[(1002,(pNH b0 13 fin))],[1],Lr 4,[1002]⟩]) (F:=[.o 0,.o 1,.p 4 0]) hst hb Zb
    (Qm rfl u_0<|Qm rfl u_0<|o_p rfl (Zd2 rfl rfl u_0 (fun _ _ h=>⟨_,h⟩))<|o_p rfl (Zk3 Zqq rfl rfl u_0)<|o_p rfl (Zmi Zhu rfl rfl u_2 u_0 u_1)<|o_n) (fun a g hst hb=>?_)
   obtain ⟨r1,h2,hr⟩:∃ x,Z0 ⟨fin⟩=some x ∧ x=Z8 (fin.map Zs):=⟨al,hal,(Option.some.inj (Zfj hal).2).symm⟩
   obtain ⟨c3,h4,hc⟩:∃ x,cut r1 (min (fin.length:Int) (256:Int)) (r1.length:Int)=some x ∧ x=(Z8 (fin.map Zs)).drop 256:=Zpk hr
   refine r_s (T:=[⟨[.o 0],_,[],[],[61]⟩,⟨[.p 0 0,.o 2],[(62,(Zl.sl.pd r1))],[],[0],[62]⟩,⟨[.o 1],_,[],[],[63]⟩,⟨[.p 2 0,.o 2],_,[],[0,1,2],[64]⟩,⟨[.p 3 0],_,[],Lr 4,[65]⟩,⟨[.p 1 0,.p 4 0],_,[],Lr 5,[66]⟩,⟨[.p 5 0],_,[],Lr 6,[67]⟩,⟨[],_,[],[],[68]⟩]) (F:=[.o 0,.o 1,.p 5 0,.p 6 0,.p 7 0,.o 2]) hst hb Zb
    (Qm rfl u_0<|o_p rfl (Zm4 Zj6 (Zfp _ h2) rfl rfl u_1 u_0)<|Qm rfl u_0<|o_p rfl (Zox Tryd.underlying25 rfl rfl u_1 u_0)<|o_p rfl (Zrh rfl rfl u_0 c_i)<|o_p rfl (Zlp Tryd.underlying41 Zix rfl rfl u_0 u_1 h4)<|o_p rfl (Zbl Tryd.underlying41 rfl rfl u_0)<|Qm rfl c_i<|o_n) (fun a g hst hb=>?_)
   refine wp_block ?_
   have hkf:=Zq2 (hst.at 5 rfl)
   have hcl:c3.length ≤ 9223372036854775807:=by
    have h1:=hst.at 2 rfl
    obtain ⟨_,_,_,_,hl,_⟩:=Kd.sl_V.1 h1
    exact hl
   refine wp_loop_ghost (fun n a w=>∃ (i:Nat) (g:G),w=g.w ∧ St 76 [(4,(Zez 13)),(66,(Zl.sl.pd c3)),(67,(pInt .i64 (c3.length:Int))),(68,(pInt .i64 (i:Int))),(1002,(pNH b0 13 (Zda (c3.take i) fin)))] a g ∧ Base g0 g ∧ i ≤ c3.length ∧ n=c3.length - i) c3.length ⟨0,g,rfl,(hst.pick [1,2,3,4,5] rfl),hb,Nat.zero_le _,rfl⟩ (fun n a w hI=>?_)
   obtain ⟨i,g,rfl,hst,hb,hi,rfl⟩:=hI
   refine r_s (T:=[⟨[.o 3,.o 2],_,[],[],[69]⟩]) (F:=[.o 0,.o 1,.o 2,.o 3,.p 0 0,.o 4]) hst hb Zb
    (o_p rfl (Zdf rfl rfl u_0 u_1)<|o_n) (fun a g hst hb=>?_)
   refine wp_seq ?_
   refine wp_cond_split (hst.bool 4 rfl) (fun hc2=>?_) (fun hc2=>?_)
   ·have hlt:i < c3.length:=by have:=of_decide_eq_true hc2;omega
    refine wp_skip ?_
    refine Zg ?_
    refine wp_seq ?_
    refine wp_block ?_
    obtain ⟨e5,hee5⟩:∃ x,c3[i]?=some x:=⟨_,List.getElem?_eq_getElem hlt⟩
    have h6:idx c3 (i:Int)=some e5:=Ziy hee5
    refine r_s (L:=[(4,_),(66,_),(67,_),(68,_),(1002,_)]) (T:=[⟨[.o 1,.o 3],_,[],[],[70]⟩,⟨[.p 0 0],_,[],[0],[71]⟩,⟨[],[(12,(pBox Zl 12 (default:Ze)))],[13],[],[12]⟩,⟨[.p 1 0,.p 2 0],_,[13],[0,1,2],[12]⟩]) (F:=[.o 0,.p 3 0,.o 1,.o 2,.o 3,.o 4]) (hst.pick [0,1,2,3,5] rfl) hb Zb
     (o_p rfl (Zu Tryd.underlying41 Zix rfl rfl u_0 u_1 h6)<|Ql rfl Zmh u_0<|o_p rfl (Zc5 (zs:=[.string ByteArray.empty,.int .i64 0]) (by kernel_rfl) (fun g=>Zkg g) rfl rfl)<|o_p rfl (Zcz Zmh rfl rfl u_1 u_0)<|o_n) (fun a g hst hb=>?_)
    refine r_g (T:=[⟨[.o 0],_,[],[],[72]⟩,⟨[.o 1],_,[],[],[73]⟩,⟨[.p 1 0],_,[],[1],[74]⟩,⟨[.p 0 0,.p 2 0,.o 5,.o 0],[(1002,(pNH b0 13 (delS (Zda (c3.take i) fin) e5.Key))),(4,(Zez 13))],[14],[0,1,2],[4,72,1002]⟩]) (F:=[.p 3 1,.o 2,.o 3,.o 4,.p 3 0]) hst hb Zb
     (Qm rfl u_0<|Qf rfl Zhs u_0<|Ql rfl ty_9 u_0<|o_p rfl (Zpc (by decide) rfl Tryd.underlying25 Tryd.underlying9 rfl rfl u_2 u_3 u_0 u_1)<|o_n) (fun a g hst hb=>?_)
    refine Z7 ?_
    refine Zg ?_
    refine r_g (T:=[⟨[.o 3],_,[],[],[75]⟩,⟨[.p 0 0],_,[],[0],[68]⟩]) (F:=[.o 0,.o 1,.o 2,.p 1 0,.o 4]) hst hb Zb
     (o_p rfl (Zca rfl rfl u_0 c_i (Zfu hlt hcl))<|Qm rfl u_0<|o_n) (fun a g hst hb=>?_)
    have hfo:delS (Zda (c3.take i) fin) e5.Key=Zda (c3.take (i + 1)) fin:=by unfold Zda;rw [List.take_add_one,hee5];simp
    have hst:=hst.pick [0,1,2,3,4] rfl (L':=[(4,(Zez 13)),(66,(Zl.sl.pd c3)),(67,(pInt .i64 (c3.length:Int))),(68,(pInt .i64 (((i + 1):Nat):Int))),(1002,(pNH b0 13 (delS (Zda (c3.take i) fin) e5.Key)))])
    rw [hfo] at hst
    exact ⟨c3.length - (i + 1),by omega,i + 1,g,rfl,hst,hb,by omega,rfl⟩
   ·refine wp_exit ?_
    refine Z2 ?_
    refine Z2 ?_
    refine Zbk ?_
    have hge:c3.length ≤ i:=by have:=of_decide_eq_false hc2;omega
    have hq:=hst.at 5 rfl
    rw [List.take_of_length_le hge] at hq
    exact Zos rfl hst hb (by decide) (Zph hkf hc) hq
  ·skip
   refine r_s (T:=[⟨[.o 1],_,[],[],[30]⟩,⟨[.p 0 0],_,[],[0],[31]⟩,⟨[.p 1 0],_,[],[0,1],[32]⟩,⟨[],_,[],[],[33]⟩]) (F:=[.o 0,.o 2,.p 1 0,.p 2 0,.p 3 0]) hst hb Zb
    (Qf rfl Zf7 u_0<|Ql rfl Zie u_0<|o_p rfl (Zbl Tryd.underlying29 rfl rfl u_0)<|Qm rfl c_i<|o_n) (fun a g hst hb=>?_)
   refine wp_block ?_
   have hdl:a1.Deals.length ≤ 9223372036854775807:=by
    have h1:=hst.at 2 rfl
    obtain ⟨_,_,_,_,hl,_⟩:=Kd.sl_V.1 h1
    exact hl
   refine wp_loop_ghost (fun n a w=>∃ (i:Nat) (nx:List (ByteArray × Int)) (g:G),w=g.w ∧ St 76 [(0,(Zbz (some b0) Z4 0 a0)),(4,(Zb4 13 nx)),(31,(Zbb.sl.pd a1.Deals)),(32,(pInt .i64 (a1.Deals.length:Int))),(33,(pInt .i64 (i:Int)))] a g ∧ Base g0 g ∧ i ≤ a1.Deals.length ∧ Zef (a1.Deals.drop i) nx=some fin ∧ n=a1.Deals.length - i) a1.Deals.length ⟨0,_,g,rfl,(hst.pick [0,1,2,3,4] rfl),hb,Nat.zero_le _,hfin,rfl⟩ (fun n a w hI=>?_)
   obtain ⟨i,nx,g,rfl,hst,hb,hi,hrun,rfl⟩:=hI
   refine r_s (T:=[⟨[.o 4,.o 3],_,[],[],[34]⟩]) (F:=[.o 0,.o 1,.o 2,.o 3,.o 4,.p 0 0]) hst hb Zb
    (o_p rfl (Zdf rfl rfl u_0 u_1)<|o_n) (fun a g hst hb=>?_)
   refine wp_seq ?_
   refine wp_cond_split (hst.bool 5 rfl) (fun hc=>?_) (fun hc=>?_)
   ·have hlt:i < a1.Deals.length:=by have:=of_decide_eq_true hc;omega
    refine wp_skip ?_
    refine Zg ?_
    refine wp_seq ?_
    refine wp_block ?_
    obtain ⟨e7,hee7⟩:∃ x,a1.Deals[i]?=some x:=⟨_,List.getElem?_eq_getElem hlt⟩
    have h8:idx a1.Deals (i:Int)=some e7:=Ziy hee7
    refine r_s (L:=[(0,_),(4,_),(31,_),(32,_),(33,_)]) (T:=[⟨[.o 2,.o 4],_,[],[],[35]⟩,⟨[.p 0 0],_,[],[0],[36]⟩,⟨[],[(8,(pBox Zbb 8 (default:Zz)))],[9],[],[8]⟩,⟨[.p 1 0,.p 2 0],_,[9],[0,1,2],[8]⟩]) (F:=[.o 0,.o 1,.p 3 0,.o 2,.o 3,.o 4]) (hst.pick [0,1,2,3,4] rfl) hb Zb
     (o_p rfl (Zu Tryd.underlying29 Zj7 rfl rfl u_0 u_1 h8)<|Ql rfl Zib u_0<|o_p rfl (Zc5 (zs:=[.slice none 0 0]) (by kernel_rfl) (fun g=>Zhz g) rfl rfl)<|o_p rfl (Zcz Zib rfl rfl u_1 u_0)<|o_n) (fun a g hst hb=>?_)
    obtain ⟨fy,hac,hrun⟩:=Zd (show (Zd7 e7.Acts nx).bind (fun y=>Zef (a1.Deals.drop (i + 1)) y)=some fin by rw [Zlj hee7] at hrun;exact hrun)
    refine r_s (T:=[⟨[.o 2],_,[],[],[37]⟩,⟨[.p 0 0],_,[],[0],[38]⟩,⟨[.p 1 0],_,[],[0,1],[39]⟩,⟨[],_,[],[],[40]⟩]) (F:=[.o 0,.o 1,.o 3,.o 4,.o 5,.p 1 0,.p 2 0,.p 3 0]) hst hb Zb
     (Qf rfl Zfx u_0<|Ql rfl Zik u_0<|o_p rfl (Zbl Tryd.underlying52 rfl rfl u_0)<|Qm rfl c_i<|o_n) (fun a g hst hb=>?_)
    refine Zb0 (fun a w=>∃ (g:G),w=g.w ∧ St 76 [(0,(Zbz (some b0) Z4 0 a0)),(4,(Zb4 13 fy)),(31,(Zbb.sl.pd a1.Deals)),(32,(pInt .i64 (a1.Deals.length:Int))),(33,(pInt .i64 (i:Int)))] a g ∧ Base g0 g) ?_ ?_
    ·rintro a w ⟨g,rfl,hst,hb⟩
     refine Z7 ?_
     refine Zg ?_
     refine r_g (T:=[⟨[.o 4],_,[],[],[56]⟩,⟨[.p 0 0],_,[],[0],[33]⟩]) (F:=[.o 0,.o 1,.o 2,.o 3,.p 1 0]) hst hb Zb
      (o_p rfl (Zca rfl rfl u_0 c_i (Zfu hlt hdl))<|Qm rfl u_0<|o_n) (fun a g hst hb=>?_)
     exact ⟨a1.Deals.length - (i + 1),by omega,i + 1,fy,g,rfl,(hst.pick [0,1,2,3,4] rfl),hb,by omega,hrun,rfl⟩
    ·refine wp_block ?_
     have hall:e7.Acts.length ≤ 9223372036854775807:=by
      have h1:=hst.at 5 rfl
      obtain ⟨_,_,_,_,hl,_⟩:=Kd.sl_V.1 h1
      exact hl
     refine wp_loop_ghost (fun n a w=>∃ (k:Nat) (ny:List (ByteArray × Int)) (g:G),w=g.w ∧ St 76 [(0,(Zbz (some b0) Z4 0 a0)),(4,(Zb4 13 ny)),(31,(Zbb.sl.pd a1.Deals)),(32,(pInt .i64 (a1.Deals.length:Int))),(33,(pInt .i64 (i:Int))),(38,(Z1.sl.pd e7.Acts)),(39,(pInt .i64 (e7.Acts.length:Int))),(40,(pInt .i64 (k:Int)))] a g ∧ Base g0 g ∧ k ≤ e7.Acts.length ∧ Zd7 (e7.Acts.drop k) ny=some fy ∧ n=e7.Acts.length - k) e7.Acts.length ⟨0,_,g,rfl,(hst.pick [0,1,2,3,4,5,6,7] rfl),hb,Nat.zero_le _,hac,rfl⟩ (fun n a w hI=>?_)
     obtain ⟨k,ny,g,rfl,hst,hb,hk,hac,rfl⟩:=hI
     refine r_s (T:=[⟨[.o 7,.o 6],_,[],[],[41]⟩]) (F:=[.o 0,.o 1,.o 2,.o 3,.o 4,.o 5,.o 6,.o 7,.p 0 0]) hst hb Zb
      (o_p rfl (Zdf rfl rfl u_0 u_1)<|o_n) (fun a g hst hb=>?_)
     refine wp_seq ?_
     refine wp_cond_split (hst.bool 8 rfl) (fun hc2=>?_) (fun hc2=>?_)
     ·have hkt:k < e7.Acts.length:=by have:=of_decide_eq_true hc2;omega
      refine wp_skip ?_
      refine Zg ?_
      refine wp_seq ?_
      refine wp_block ?_
      obtain ⟨e9,hee9⟩:∃ x,e7.Acts[k]?=some x:=⟨_,List.getElem?_eq_getElem hkt⟩
      have h10:idx e7.Acts (k:Int)=some e9:=Ziy hee9
      refine r_s (L:=[(0,_),(4,_),(31,_),(32,_),(33,_),(38,_),(39,_),(40,_)]) (T:=[⟨[.o 5,.o 7],_,[],[],[42]⟩,⟨[.p 0 0],_,[],[0],[43]⟩,⟨[],[(10,(pBox Z1 10 (default:Zo)))],[11],[],[10]⟩,⟨[.p 1 0,.p 2 0],_,[11],[0,1,2],[10]⟩]) (F:=[.o 0,.o 1,.p 3 0,.o 2,.o 3,.o 4,.o 5,.o 6,.o 7]) (hst.pick [0,1,2,3,4,5,6,7] rfl) hb Zb
       (o_p rfl (Zu Tryd.underlying52 Zmr rfl rfl u_0 u_1 h10)<|Ql rfl Zen u_0<|o_p rfl (Zc5 (zs:=[.int .i64 0,.string ByteArray.empty,.int .i64 0,.float .f64 0,.string ByteArray.empty,.int .i64 0,.int .i64 0,.int .i64 0,.int .i64 0,.float .f64 0,.int .i64 0,.string ByteArray.empty,.slice none 0 0,.bool false]) (by kernel_rfl) (fun g=>Zfc g) rfl rfl)<|o_p rfl (Zcz Zen rfl rfl u_1 u_0)<|o_n) (fun a g hst hb=>?_)
      obtain ⟨y,hy,hac⟩:=Zd (show (Zfn ny e9).bind (fun y=>Zd7 (e7.Acts.drop (k + 1)) y)=some fy by rw [Zlj hee9] at hac;exact hac)
      unfold Zfn at hy
      obtain ⟨r11,h12,hy⟩:=Zd hy
      obtain ⟨r13,h14,hy⟩:=Zd hy
      refine r_s (T:=[⟨[.o 2],_,[],[],[44]⟩,⟨[.p 0 0],_,[],[0],[45]⟩,⟨[.p 1 0],_,[],[0,1],[46]⟩,⟨[.o 2],_,[],[],[47]⟩,⟨[.p 3 0],_,[],[3],[48]⟩,⟨[.p 2 0,.p 4 0],_,[],Lr 5,[49]⟩]) (F:=[.o 0,.o 1,.o 2,.o 3,.o 4,.o 5,.o 6,.o 7,.o 8,.p 5 0]) hst hb Zb
       (Qf rfl Zi7 u_0<|Ql rfl ty_3 u_0<|o_p rfl (Zbu Zpw (Zjn _ h12) rfl rfl (.cons u_0 .nil))<|Qf rfl Zi7 u_0<|Ql rfl ty_3 u_0<|o_p rfl (Zbu Zsj (Zii _ _ h14) rfl rfl (.cons u_0 (.cons u_1 .nil)))<|o_n) (fun a g hst hb=>?_)
      refine wp_cond_split (hst.bool 9 rfl) (fun hsp=>?_) (fun hsp=>?_)
      ·have hyy:=Option.some.inj hy
       rw [hsp] at hyy
       replace hyy:setS ny e9.Key (IntKind.i64.wrap ((getS ny e9.Key).getD 0 + 1))=y:=hyy
       refine r_g (L:=[(0,_),(4,_),(10,_),(31,_),(32,_),(33,_),(38,_),(39,_),(40,_)]) (T:=[⟨[.o 1],_,[],[],[50]⟩,⟨[.o 2],_,[],[],[51]⟩,⟨[.p 1 0],_,[],[1],[52]⟩,⟨[.p 0 0,.p 2 0],_,[],[0,1,2],[53]⟩,⟨[.p 3 0],_,[],Lr 4,[54]⟩,⟨[.p 0 0,.p 2 0,.p 4 0,.o 1],[(4,(Zb4 13 (setS ny e9.Key (IntKind.i64.wrap (((getS ny e9.Key).getD 0) + (1:Int))))))],[14],Lr 5,[4,50]⟩]) (F:=[.o 0,.p 5 0,.o 3,.o 4,.o 5,.o 6,.o 7,.o 8]) (hst.pick [0,1,2,3,4,5,6,7,8] rfl) hb Zb
        (Qm rfl u_0<|Qf rfl Zhr u_0<|Ql rfl ty_9 u_0<|o_p rfl (Zk9 Tryd.underlying25 Tryd.underlying9 (by kernel_rfl) rfl rfl u_0 u_1)<|o_p rfl (Zca rfl rfl u_0 c_i rfl)<|o_p rfl (Ziw Tryd.underlying25 Tryd.underlying9 rfl rfl u_3 u_0 u_1 u_2)<|o_n) (fun a g hst hb=>?_)
       refine Z7 ?_
       refine Zg ?_
       refine r_g (T:=[⟨[.o 7],_,[],[],[55]⟩,⟨[.p 0 0],_,[],[0],[40]⟩]) (F:=[.o 0,.o 1,.o 2,.o 3,.o 4,.o 5,.o 6,.p 1 0]) hst hb Zb
        (o_p rfl (Zca rfl rfl u_0 c_i (Zfu hkt hall))<|Qm rfl u_0<|o_n) (fun a g hst hb=>?_)
       exact ⟨e7.Acts.length - (k + 1),by omega,k + 1,_,g,rfl,(hst.pick [0,1,2,3,4,5,6,7] rfl),hb,by omega,by rw [hyy];exact hac,rfl⟩
      ·have hyy:=Option.some.inj hy
       rw [hsp] at hyy
       refine wp_skip ?_
       replace hyy:ny=y:=hyy
       refine Z7 ?_
       refine Zg ?_
       refine r_g (L:=[(0,_),(4,_),(31,_),(32,_),(33,_),(38,_),(39,_),(40,_)]) (T:=[⟨[.o 7],_,[],[],[55]⟩,⟨[.p 0 0],_,[],[0],[40]⟩]) (F:=[.o 0,.o 1,.o 2,.o 3,.o 4,.o 5,.o 6,.p 1 0]) (hst.pick [0,1,3,4,5,6,7,8] rfl) hb Zb
        (o_p rfl (Zca rfl rfl u_0 c_i (Zfu hkt hall))<|Qm rfl u_0<|o_n) (fun a g hst hb=>?_)
       exact ⟨e7.Acts.length - (k + 1),by omega,k + 1,_,g,rfl,(hst.pick [0,1,2,3,4,5,6,7] rfl),hb,by omega,by rw [hyy];exact hac,rfl⟩
     ·refine wp_exit ?_
      refine Z2 ?_
      refine Z2 ?_
      refine Zbk ?_
      have hge:e7.Acts.length ≤ k:=by have:=of_decide_eq_false hc2;omega
      rw [List.drop_of_length_le hge] at hac
      obtain rfl:ny=fy:=Option.some.inj hac
      exact ⟨g,rfl,(hst.pick [0,1,2,3,4] rfl),hb⟩
   ·refine wp_exit ?_
    refine Z2 ?_
    refine Z2 ?_
    refine Zbk ?_
    have hge:a1.Deals.length ≤ i:=by have:=of_decide_eq_false hc;omega
    rw [List.drop_of_length_le hge] at hrun
    obtain rfl:nx=fin:=Option.some.inj hrun
    exact ⟨g,rfl,(hst.pick [0,1] rfl),hb⟩
 ·skip
  refine r_s (T:=[⟨[.o 0],_,[],[],[14]⟩,⟨[.p 0 0],_,[],[0],[15]⟩,⟨[.p 1 0],_,[],[0,1],[16]⟩,⟨[.p 2 0],_,[],[0,1,2],[17]⟩,⟨[.p 3 0],[(18,(Zgl 18 a0.by_))],[19],Lr 4,[18]⟩]) (F:=[.o 0,.o 1,.o 2,.p 4 0]) hst hb Zb
   (Qm rfl u_0<|o_p rfl (Zd2 rfl rfl u_0 (fun _ _ ⟨_,_,_,e,_⟩=>⟨_,e⟩))<|o_p rfl (Zj1 Zfz (off:=0) (by kernel_rfl) rfl rfl u_0)<|QP rfl Zhu u_0<|o_p rfl (Zk0 Tryd.underlying25 rfl rfl u_0)<|o_n) (fun a g hst hb=>?_)
  refine wp_block ?_
  refine wp_loop_ghost (fun n a w=>∃ (left came nx:List (ByteArray × Int)) (g:G),w=g.w ∧ St 76 [(0,(Zbz (some b0) Z4 0 a0)),(3,(Zp.ptr a1)),(4,(Zb4 13 nx)),(18,(Zgl 18 left))] a g ∧ Base g0 g ∧ a0.by_.Perm (came ++ left) ∧ nx.Perm (Zh came) ∧ n=left.length) a0.by_.length ⟨a0.by_,[],[],g,rfl,(hst.pick [0,1,2,3] rfl),hb,.refl _,.refl _,rfl⟩ (fun n a w hI=>?_)
  obtain ⟨left,came,nx,g,rfl,hst,hb,hp,hnx,rfl⟩:=hI
  refine r_s (T:=[⟨[.o 3],[(19,(Zhh 18 left)),(18,(pItP 18))],[19],[],[18,19]⟩,⟨[.p 0 0],_,[],[0],[20]⟩]) (F:=[.o 0,.o 1,.o 2,.p 0 1,.p 1 0]) hst hb Zb
   (o_p rfl (Zl1 (by decide) rfl rfl u_0)<|o_p rfl (Zkb rfl rfl u_0)<|o_n) (fun a g hst hb=>?_)
  refine wp_seq ?_
  rcases Zic (i1:=4) (i2:=3) rfl rfl hst with ⟨hl,hst⟩ | ⟨kn,left',hl,hst⟩
  ·skip
   replace hst:St 76 [(0,(Zbz (some b0) Z4 0 a0)),(3,(Zp.ptr a1)),(4,(Zb4 13 nx)),(18,(pItP 18)),(20,(Zn false))] a g:=hst
   refine wp_cond_split (hst.bool 4 rfl) (fun hc=>by cases hc) (fun _=>?_)
   refine wp_exit ?_
   refine Z2 ?_
   refine Z2 ?_
   refine Zbk ?_
   subst hl
   rw [List.append_nil] at hp
   have hst2:=Znk (s:=4) (j:=13) (L:=[(0,(Zbz (some b0) Z4 0 a0)),(3,(Zp.ptr a1))]) (hnx.trans (Znu hp.symm)) (hst.pick [2,0,1] rfl)
   exact ⟨g,rfl,hst2.pick [1,2,0] rfl,hb⟩
  ·skip
   replace hst:St 76 [(0,(Zbz (some b0) Z4 0 a0)),(3,(Zp.ptr a1)),(4,(Zb4 13 nx)),(18,(Zdi 18 kn left')),(20,(Zn true))] a g:=hst
   refine wp_cond_split (hst.bool 4 rfl) (fun _=>?_) (fun hc=>by cases hc)
   refine wp_skip ?_
   refine Zg ?_
   refine wp_block ?_
   have hlen:left.length=left'.length + 1:=by rw [hl.length_eq,List.length_cons]
   refine r_s (L:=[(0,_),(3,_),(4,_),(18,_)]) (T:=[⟨[.o 3],_,[],[],[21]⟩,⟨[.p 0 0],_,[],[0],[22]⟩,⟨[.p 0 0],_,[],[0],[23]⟩,⟨[.p 1 0],_,[],[0,1],[5]⟩,⟨[.p 2 0],_,[],Lr 4,[6]⟩]) (F:=[.o 0,.o 1,.o 2,.p 3 0,.p 4 0,.o 3]) (hst.pick [0,1,2,3] rfl) hb Zb
    (o_p rfl (Zkz rfl rfl u_0)<|o_p rfl (Zfg rfl rfl u_0 rfl)<|o_p rfl (Zfg rfl rfl u_0 rfl)<|Qa rfl u_0<|Qa rfl u_0<|o_n) (fun a g hst hb=>?_)
   refine r_s (T:=[⟨[.o 4],_,[],[],[24]⟩,⟨[.p 0 0],_,[],[0],[25]⟩]) (F:=[.o 0,.o 1,.o 2,.o 3,.o 4,.o 5,.p 1 0]) hst hb Zb
    (Qm rfl u_0<|o_p rfl (Zdq rfl rfl u_0 c_i)<|o_n) (fun a g hst hb=>?_)
   have hp2:a0.by_.Perm ((came ++ [kn]) ++ left'):=by rw [List.append_assoc];exact hp.trans (hl.append_left came)
   refine wp_cond_split (hst.bool 6 rfl) (fun hc=>?_) (fun hc=>?_)
   ·skip
    refine r_g (L:=[(0,_),(3,_),(4,_),(5,_),(6,_),(18,_)]) (T:=[⟨[.o 2],_,[],[],[26]⟩,⟨[.o 3],_,[],[],[27]⟩,⟨[.o 4],_,[],[],[28]⟩,⟨[.p 2 0],_,[],[2],[29]⟩,⟨[.p 0 0,.p 1 0,.p 3 0,.o 2],[(4,(Zb4 13 (setS nx kn.1 (IntKind.i64.wrap (Int.tdiv kn.2 (2:Int))))))],[14],Lr 4,[4,26]⟩]) (F:=[.o 0,.o 1,.p 4 0,.o 5]) (hst.pick [0,1,2,3,4,5] rfl) hb Zb
     (Qm rfl u_0<|Qm rfl u_0<|Qm rfl u_0<|o_p rfl (Zoe rfl rfl u_0 c_i (by decide))<|o_p rfl (Ziw Tryd.underlying25 Tryd.underlying9 rfl rfl u_3 u_0 u_1 u_2)<|o_n) (fun a g hst hb=>?_)
    refine Z7 ?_
    have hst2:=hst.pick [0,1,2,3] rfl (L':=[(0,(Zbz (some b0) Z4 0 a0)),(3,(Zp.ptr a1)),(4,(Zb4 13 (setS nx kn.1 (IntKind.i64.wrap (Int.tdiv kn.2 (2:Int)))))),(18,(Zdi 18 kn left'))])
    refine ⟨left'.length,by omega,left',came ++ [kn],_,g,rfl,⟨hst2.size,hst2.df,Zch (hst2.at 0 rfl) (Zch (hst2.at 1 rfl) (Zch (hst2.at 2 rfl) (Zch (Zgj (hst2.at 3 rfl)) Zg3)))⟩,hb,hp2,Zno hkeys hp2 hnx (of_decide_eq_true hc),rfl⟩
   ·refine wp_skip ?_
    refine Z7 ?_
    have hst2:=hst.pick [0,1,2,5] rfl (L':=[(0,(Zbz (some b0) Z4 0 a0)),(3,(Zp.ptr a1)),(4,(Zb4 13 nx)),(18,(Zdi 18 kn left'))])
    refine ⟨left'.length,by omega,left',came ++ [kn],_,g,rfl,⟨hst2.size,hst2.df,Zch (hst2.at 0 rfl) (Zch (hst2.at 1 rfl) (Zch (hst2.at 2 rfl) (Zch (Zgj (hst2.at 3 rfl)) Zg3)))⟩,hb,hp2,Zoa hnx (of_decide_eq_false hc),rfl⟩
theorem Zhc (a0:Zi) (a1:ByteArray) {r:Int} (h:Zb3 a0 a1=some r):FnL Tryd.prog 12 [(Z4.ptr a0),(pStr a1)] (pInt .i64 r):=by
 unfold Zb3 at h
 obtain rfl:=Option.some.inj h
 refine FnL.of (Zco (N:=11) Tryd.func12 rfl rfl (Qe rfl) rfl rfl (fun a g0 hst hb=>?_)) Zkj
 replace hst:St 11 [(0,(Z4.ptr a0)),(1,(pStr a1))] a g0:=hst
 refine r_s (T:=[⟨[],_,[],[],[4]⟩]) (F:=[.o 0,.o 1]) hst hb Zb
  (Qa rfl c_i<|o_n) (fun a g hst hb=>?_)
 refine r_s (T:=[⟨[.o 0],_,[],[],[5]⟩,⟨[.p 0 0],_,[],[0],[6]⟩,⟨[.p 1 0],_,[],[0,1],[7]⟩,⟨[.p 2 0],_,[],[0,1,2],[8]⟩,⟨[.o 1],_,[],[],[9]⟩,⟨[.p 3 0,.p 4 0],_,[],Lr 5,[10]⟩,⟨[.p 5 0],_,[],Lr 6,[4]⟩]) (F:=[.p 6 0]) hst hb Zb
  (Qm rfl u_0<|o_p rfl (Zd2 rfl rfl u_0 (fun _ _ ⟨_,_,_,e,_⟩=>⟨_,e⟩))<|Qf rfl Zfz u_0<|Ql rfl Zhu u_0<|Qm rfl u_0<|o_p rfl (Zmk Tryd.underlying25 Tryd.underlying9 (by kernel_rfl) rfl rfl u_0 u_1)<|Qa rfl u_0<|o_n) (fun a g hst hb=>?_)
 refine wp_ret ?_
 exact Z6 rfl hst hb (Zm (s:=4)) (hst.at 0 rfl)
theorem Zd5 (a0:Zi) (a1:ByteArray) {r:Int} (h:Zb3 a0 a1=some r):FnMR Tryd.prog 12 Zq a0 a0 [(pStr a1)] (pInt .i64 r):=Zgb (Zhc a0 a1 h) rfl
theorem Zh2 (a0:Zi) {r:Int} (h:Zb6 a0=some r):FnL Tryd.prog 14 [(Z4.ptr a0)] (pInt .i64 r):=by
 unfold Zb6 at h
 obtain rfl:=Option.some.inj h
 refine FnL.of (Zco (N:=8) Tryd.func14 rfl rfl (Qe rfl) rfl rfl (fun a g0 hst hb=>?_)) Zkj
 replace hst:St 8 [(0,(Z4.ptr a0))] a g0:=hst
 refine r_s (T:=[⟨[],_,[],[],[2]⟩]) (F:=[.o 0]) hst hb Zb
  (Qa rfl c_i<|o_n) (fun a g hst hb=>?_)
 refine r_s (T:=[⟨[.o 0],_,[],[],[3]⟩,⟨[.p 0 0],_,[],[0],[4]⟩,⟨[.p 1 0],_,[],[0,1],[5]⟩,⟨[.p 2 0],_,[],[0,1,2],[6]⟩,⟨[.p 3 0],_,[],Lr 4,[7]⟩,⟨[.p 4 0],_,[],Lr 5,[2]⟩]) (F:=[.p 5 0]) hst hb Zb
  (Qm rfl u_0<|o_p rfl (Zd2 rfl rfl u_0 (fun _ _ ⟨_,_,_,e,_⟩=>⟨_,e⟩))<|Qf rfl Zfz u_0<|Ql rfl Zhu u_0<|o_p rfl (Zo5 Tryd.underlying25 rfl rfl u_0)<|Qa rfl u_0<|o_n) (fun a g hst hb=>?_)
 refine wp_ret ?_
 exact Z6 rfl hst hb (Zm (s:=2)) (hst.at 0 rfl)
theorem Zel (a0:Zi) {r:Int} (h:Zb6 a0=some r):FnMR Tryd.prog 14 Zq a0 a0 [] (pInt .i64 r):=Zgb (Zh2 a0 h) rfl
theorem Ze5 (a0:Zi):Zkp Tryd.prog 15 [(Z4.ptr a0)] Zq a0:=by
 refine Znc (N:=10) Tryd.func15 rfl rfl (Qe rfl) rfl (fun a g0 h0 hst hb=>?_)
 replace hst:St 10 [(0,(Z4.ptr a0))] a g0:=hst
 refine r_s (T:=[⟨[],_,[],[],[2]⟩]) (F:=[.o 0]) hst hb Zb
  (o_p rfl (Zpa (.inr rfl))<|o_n) (fun a g hst hb=>?_)
 refine r_s (T:=[⟨[.o 0],_,[],[],[3]⟩,⟨[.p 0 0],_,[],[0],[4]⟩,⟨[.p 1 0],_,[],[0,1],[5]⟩,⟨[.p 2 0],_,[],[0,1,2],[6]⟩,⟨[.p 3 0],[(7,(Zfd 7 a0.by_))],[8],Lr 4,[7]⟩,⟨[.p 4 0],_,[],Lr 5,[8]⟩,⟨[.p 5 0],[(9,(Zid 9 7 a0.by_))],[10],Lr 6,[9]⟩,⟨[.p 6 0],_,[],Lr 7,[2]⟩]) (F:=[.p 7 0]) hst hb Zb
  (Qm rfl u_0<|o_p rfl (Zd2 rfl rfl u_0 (fun _ _ ⟨_,_,_,e,_⟩=>⟨_,e⟩))<|Qf rfl Zfz u_0<|Ql rfl Zhu u_0<|o_p rfl (Zkn Zm7 rfl Zrw rfl rfl u_0)<|o_p rfl (Zn7 Tryd.underlying27 (by kernel_rfl) (by kernel_rfl) rfl rfl u_0)<|o_p rfl (Zqt (by decide) rfl rfl u_0)<|Qa rfl u_0<|o_n) (fun a g hst hb=>?_)
 refine wp_ret ?_
 exact Zsf rfl hst hb (Zm (s:=2)) (by decide) (hst.at 0 rfl)
end Go.CL
