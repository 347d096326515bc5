/- A part of the proof of FoldPlaces. -/
import Derived.Test.YtlhmmgcmbeegjaaGreatDoorFoldPlacesC1
import Derived.Laws.CopyRow
import Derived.Laws.Externs
import GoSem.Extern.SlicesOverlaps
set_option linter.unusedVariables false
set_option linter.unusedSimpArgs false
set_option maxRecDepth 100000
namespace Go.CL
open Go Go.RowKit
section
variable {P : Program} {N : Nat} {o : Oper} {uses : Zbc} {d : Nat} {q : Pd} {x y z : Operand} {α : Type} {dk : Kd α} {t e : TypeId} {bytes j : Nat} {c : Option Nat}
structure OwnAt (dk : Kd α) (e : TypeId) (j : Nat) (fs : List (Option α)) (g : G) (b cap : Nat) (cur : Array Value) : Prop where
 lt : b < g.w.heap.size
 own : g.own b = j
 uniq : ∀ b', b' < g.w.heap.size → g.own b' = j → b' = b
 heap : g.w.heap[b]? = some (.cells cur e (0, 0))
 len : fs.length ≤ cap
 max : cap ≤ maxLen
 sz : cur.size = cap * dk.sz
 known : ∀ i x, fs[i]? = some (some x) → dk.K g x (seg cur.toList (i * dk.sz) dk.sz)
 npr : ∀ o, ¬ g.pr b o
theorem Z5g {g g' : G} {S : List Nat} {b : Nat} (hs : Step S g g') (hj : j ∉ S) (hj0 : j ≠ 0) (h : ∀ b', b' < g.w.heap.size → g.own b' = j → b' = b) : ∀ b', b' < g'.w.heap.size → g'.own b' = j → b' = b := fun b' hb' ho => by
 rcases Nat.lt_or_ge b' g.w.heap.size with hlt | hge
 · by_cases hS : g.own b' ∈ S
   · rcases hs.old b' hlt hS with h | h
     · rw [ho] at h; exact absurd h hj0
     · rw [ho] at h; exact absurd h hj
   · exact h b' hlt ((hs.same b' hlt hS).2.2.symm.trans ho)
 · rcases hs.new b' hge hb' with h | h
   · rw [ho] at h; exact absurd h hj0
   · rw [ho] at h; exact absurd h hj
theorem OwnAt.st {fs : List (Option α)} {g g' : G} {S : List Nat} {b cap : Nat} {cur : Array Value} (hs : Step S g g') (hj : j ∉ S) (hj0 : j ≠ 0) (h : OwnAt dk e j fs g b cap cur) : OwnAt dk e j fs g' b cap cur := by
 obtain ⟨k1, k2, k3⟩ := hs.same b h.lt (by rw [h.own]; exact hj)
 exact ⟨Nat.lt_of_lt_of_le h.lt hs.le.size, k3.trans h.own, Z5g hs hj hj0 h.uniq, k1.trans h.heap, h.len, h.max, h.sz, fun i x hx => dk.mono hs.le (h.known i x hx), fun o => by rw [k2]; exact h.npr o⟩
def pOwn (dk : Kd α) (e : TypeId) (j : Nat) (c : Option Nat) (fs : List (Option α)) : Pd := ⟨fun g u => ∃ b cap cur, u = .slice (some ⟨b, 0, none⟩) fs.length cap ∧ OwnAt dk e (j + 1) fs g b cap cur ∧ ∀ k, c = some k → cap = k, [j + 1], fun s hd ⟨b, cap, cur, e, h, hc⟩ => ⟨b, cap, cur, e, h.st s (hd _ (by simp)) (by omega), hc⟩⟩
def Zl2 (dk : Kd α) (e : TypeId) (j off len : Nat) : Pd := ⟨fun g u => ∃ b cap cur, u = .slice (some (if cap = off then ⟨b, 0, none⟩ else ⟨b, off * dk.sz, none⟩)) len (cap - off) ∧ OwnAt dk e (j + 1) [] g b cap cur ∧ off + len ≤ cap, [j + 1], fun s hd ⟨b, cap, cur, e, h, hc⟩ => ⟨b, cap, cur, e, h.st s (hd _ (by simp)) (by omega), hc⟩⟩
theorem OwnAt.nil {fs : List (Option α)} {g : G} {b cap : Nat} {cur : Array Value} (h : OwnAt dk e j fs g b cap cur) : OwnAt dk e j [] g b cap cur := ⟨h.lt, h.own, h.uniq, h.heap, Nat.zero_le _, h.max, h.sz, fun i x hx => by simp at hx, h.npr⟩
theorem OwnAt.same {fs : List (Option α)} {fs' : List (Option α)} {g : G} {b b' cap cap' : Nat} {cur cur' : Array Value} (h : OwnAt dk e j fs g b cap cur) (k : OwnAt dk e j fs' g b' cap' cur') (h0 : 0 < dk.sz) : b' = b ∧ cur' = cur ∧ cap' = cap := by
 obtain rfl := h.uniq b' k.lt k.own
 have := k.heap
 rw [h.heap] at this
 injection this with this
 injection this with this
 subst this
 exact ⟨rfl, rfl, Nat.eq_of_mul_eq_mul_right h0 (k.sz.symm.trans h.sz)⟩
theorem Zrh {fs : List (Option α)} {t : TypeId} (ht : P.underlying t = some (.slice e)) (hop : o.op = .call { callee := .builtin .len, args := #[x], argTypes := #[t] }) (hd : o.dst = some d) (hx : Opd uses x (pOwn dk e j c fs)) : OB P N o uses [(d, pInt .i64 (fs.length : Int))] [] :=
 Zb8 hd fun a g hh => by
   obtain ⟨b, cap, cur, hv, _⟩ := hx a g hh
   exact ⟨.int .i64 fs.length, by simp [execOp, hop, resolve, invoke, builtin, hv, Builtin.len_, run_underlying ht, goInt], Zg7 _ _ g⟩
theorem Z7x {fs : List (Option α)} {t : TypeId} {k : Nat} (ht : P.underlying t = some (.slice e)) (hop : o.op = .call { callee := .builtin .cap, args := #[x], argTypes := #[t] }) (hd : o.dst = some d) (hx : Opd uses x (pOwn dk e j (some k) fs)) : OB P N o uses [(d, pInt .i64 (k : Int))] [] :=
 Zb8 hd fun a g hh => by
   obtain ⟨b, cap, cur, hv, _, hc⟩ := hx a g hh
   obtain rfl := hc k rfl
   exact ⟨.int .i64 cap, by simp [execOp, hop, resolve, invoke, builtin, hv, Builtin.cap_, run_underlying ht, goInt], Zg7 _ _ g⟩
theorem Zin {x : Value} {i n : Nat} {cd : BoundsCode} {w : World} (hx : x = .int .i64 i) (h : i ≤ n) : (Instr.sliceBound x n cd).run P w = .ok i w := by
 subst hx
 simp [Instr.sliceBound, asIntOf, h]
theorem Zgt {fs : List (Option α)} {l : Nat} (hT : TE P t e dk bytes) (hl : l ≤ fs.length) (hop : o.op = .slice t x (some y) none none) (hd : o.dst = some d) (hx : Opd uses x (pOwn dk e j c fs)) (hy : Opd uses y (pInt .i64 (l : Int))) : OB P N o uses [(d, Zl2 dk e j l (fs.length - l))] [] :=
 Zb8 hd fun a g hh => by
   obtain ⟨b, cap, cur, hv, hO, hc⟩ := hx a g hh
   have hy' := Zc2.1 (hy a g hh)
   obtain ⟨i, zz, hi, hz, hsz, hby, hzs⟩ := hT.info
   have hb : ∀ w cd, (Instr.sliceBound (a.eval y) fs.length cd).run P w = .ok l w := fun w cd => Zin hy' hl
   have hlen := hO.len
   refine ⟨_, ?_, b, cap, cur, rfl, hO.nil, by omega⟩
   simp [execOp, hop, hv, Instr.sliceAt, Instr.slice, Instr.sliceBounds, run_underlying hT.und, hb, sizeOf, typeInfo, hi, hsz, Zdc]
   try (split <;> simp_all [Zdc])
theorem Zq6 {fs : List (Option α)} {h : Nat} (hT : TE P t e dk bytes) (hl : h ≤ fs.length) (hop : o.op = .slice t x none (some y) none) (hd : o.dst = some d) (hx : Opd uses x (pOwn dk e j c fs)) (hy : Opd uses y (pInt .i64 (h : Int))) : OB P N o uses [(d, Zl2 dk e j 0 h)] [] :=
 Zb8 hd fun a g hh => by
   obtain ⟨b, cap, cur, hv, hO, hc⟩ := hx a g hh
   have hy' := Zc2.1 (hy a g hh)
   obtain ⟨i, zz, hi, hz, hsz, hby, hzs⟩ := hT.info
   have hlen := hO.len
   have hb : ∀ w cd, (Instr.sliceBound (a.eval y) cap cd).run P w = .ok h w := fun w cd => Zin hy' (by omega)
   refine ⟨_, ?_, b, cap, cur, rfl, hO.nil, by omega⟩
   simp [execOp, hop, hv, Instr.sliceAt, Instr.slice, Instr.sliceBounds, run_underlying hT.und, hb, sizeOf, typeInfo, hi, hsz, Zdc]
   try (split <;> simp_all [Zdc])
theorem Zzf {fs : List (Option α)} {h k : Nat} (hT : TE P t e dk bytes) (hl : fs.length ≤ h) (hk : h ≤ k) (hop : o.op = .slice t x none (some y) none) (hd : o.dst = some d) (hx : Opd uses x (pOwn dk e j (some k) fs)) (hy : Opd uses y (pInt .i64 (h : Int))) : OB P N o uses [(d, pOwn dk e j (some k) (fs ++ List.replicate (h - fs.length) none))] [] :=
 Zb8 hd fun a g hh => by
   obtain ⟨b, cap, cur, hv, hO, hc⟩ := hx a g hh
   obtain rfl := hc k rfl
   have hy' := Zc2.1 (hy a g hh)
   obtain ⟨i, zz, hi, hz, hsz, hby, hzs⟩ := hT.info
   have hb : ∀ w cd, (Instr.sliceBound (a.eval y) cap cd).run P w = .ok h w := fun w cd => Zin hy' hk
   have hlen : (fs ++ List.replicate (h - fs.length) none).length = h := by simp; omega
   refine ⟨_, ?_, b, cap, cur, rfl, ⟨hO.lt, hO.own, hO.uniq, hO.heap, by rw [hlen]; exact hk, hO.max, hO.sz, fun i x hx => ?_, hO.npr⟩, hc⟩
   · rw [hlen]
     simp [execOp, hop, hv, Instr.sliceAt, Instr.slice, Instr.sliceBounds, run_underlying hT.und, hb, sizeOf, typeInfo, hi, hsz, Zdc]
     try (split <;> simp_all [Zdc])
   · rw [List.getElem?_append] at hx
     split at hx
     · exact hO.known i x hx
     · rw [List.getElem?_replicate] at hx
       split at hx <;> simp at hx
theorem Z3x {fs : List (Option α)} {l h m : Nat} {y1 y2 y3 : Operand} (hT : TE P t e dk bytes) (h1 : l ≤ h) (h2 : h ≤ m) (h3 : m ≤ fs.length) (hop : o.op = .slice t x (some y1) (some y2) (some y3)) (hx : Opd uses x (pOwn dk e j c fs)) (hy1 : Opd uses y1 (pInt .i64 (l : Int))) (hy2 : Opd uses y2 (pInt .i64 (h : Int))) (hy3 : Opd uses y3 (pInt .i64 (m : Int))) : OB P N o uses [] [] := by
 intro a g K Q hN hdN hu hK
 obtain ⟨b, cap, cur, hv, hO, hc⟩ := hx a g hu
 obtain ⟨i, zz, hi, hz, hsz, hby, hzs⟩ := hT.info
 have hlen := hO.len
 have hb1 : ∀ w cd, (Instr.sliceBound (a.eval y1) h cd).run P w = .ok l w := fun w cd => Zin (Zc2.1 (hy1 a g hu)) h1
 have hb2 : ∀ w cd, (Instr.sliceBound (a.eval y2) m cd).run P w = .ok h w := fun w cd => Zin (Zc2.1 (hy2 a g hu)) h2
 have hb3 : ∀ w cd, (Instr.sliceBound (a.eval y3) cap cd).run P w = .ok m w := fun w cd => Zin (Zc2.1 (hy3 a g hu)) (by omega)
 have hr : ∃ v, (execOp a.eval o).run P g.w = .ok (.value v) g.w := by
   simp [execOp, hop, hv, Instr.sliceAt, Instr.slice, Instr.sliceBounds, run_underlying hT.und, hb1, hb2, hb3, sizeOf, typeInfo, hi]
 obtain ⟨v, hr⟩ := hr
 unfold Oper.wp
 rw [hr]
 exact hK v g (.refl _ _) (fun e he => by cases he)
theorem Z30 {fs : List (Option α)} {l h k : Nat} {y1 y2 : Operand} (hT : TE P t e dk bytes) (h1 : l ≤ h) (h2 : h ≤ k) (hop : o.op = .slice t x (some y1) (some y2) none) (hd : o.dst = some d) (hx : Opd uses x (pOwn dk e j (some k) fs)) (hy1 : Opd uses y1 (pInt .i64 (l : Int))) (hy2 : Opd uses y2 (pInt .i64 (h : Int))) : OB P N o uses [(d, Zl2 dk e j l (h - l))] [] :=
 Zb8 hd fun a g hh => by
   obtain ⟨b, cap, cur, hv, hO, hc⟩ := hx a g hh
   obtain rfl := hc k rfl
   obtain ⟨i, zz, hi, hz, hsz, hby, hzs⟩ := hT.info
   have hb1 : ∀ w cd, (Instr.sliceBound (a.eval y1) h cd).run P w = .ok l w := fun w cd => Zin (Zc2.1 (hy1 a g hh)) h1
   have hb2 : ∀ w cd, (Instr.sliceBound (a.eval y2) cap cd).run P w = .ok h w := fun w cd => Zin (Zc2.1 (hy2 a g hh)) h2
   refine ⟨_, ?_, b, cap, cur, rfl, hO.nil, by omega⟩
   simp [execOp, hop, hv, Instr.sliceAt, Instr.slice, Instr.sliceBounds, run_underlying hT.und, hb1, hb2, sizeOf, typeInfo, hi, hsz, Zdc]
   try (split <;> simp_all [Zdc])
theorem Zj6 {i n sz : Nat} (h : i < n) : i * sz + sz ≤ n * sz := by
 have : (i + 1) * sz ≤ n * sz := Nat.mul_le_mul_right _ h
 rw [Nat.add_mul] at this; omega
def over (fs : List (Option α)) (off : Nat) (ws : List α) : List (Option α) := fs.take off ++ ws.map some ++ fs.drop (off + ws.length)
theorem Zli {fs : List (Option α)} {off : Nat} {ws : List α} (h : off + ws.length ≤ fs.length) : (over fs off ws).length = fs.length := by simp [over]; omega
theorem Zlh {fs : List (Option α)} {off : Nat} {ws : List α} (h : off + ws.length ≤ fs.length) (i : Nat) : (over fs off ws)[i]? = if i < off then fs[i]? else if i < off + ws.length then (ws[i - off]?).map some else fs[i]? := by
 unfold over
 rw [List.append_assoc, List.getElem?_append]
 have h1 : (fs.take off).length = off := by simp; omega
 rw [h1]
 by_cases hi : i < off
 · rw [if_pos hi, if_pos hi, List.getElem?_take, if_pos hi]
 · rw [if_neg hi, if_neg hi, List.getElem?_append, List.length_map]
   by_cases h2 : i < off + ws.length
   · rw [if_pos h2, if_pos (by omega), List.getElem?_map]
   · rw [if_neg h2, if_neg (by omega), List.getElem?_drop]
     congr 1; omega
theorem Z1c {g g' : G} (hle : g.le g') {fs : List (Option α)} {off cap : Nat} {ws : List α} {cur news : List Value} (hl : news.length = ws.length * dk.sz) (hc : cur.length = cap * dk.sz) (hfit : off + ws.length ≤ fs.length) (hcap : fs.length ≤ cap)
   (hk : ∀ i x, fs[i]? = some (some x) → dk.K g x (seg cur (i * dk.sz) dk.sz)) (hn : ∀ i x, ws[i]? = some x → dk.K g x (seg news (i * dk.sz) dk.sz)) :
   ∀ i x, (over fs off ws)[i]? = some (some x) → dk.K g' x (seg (Zbv cur (off * dk.sz) news) (i * dk.sz) dk.sz) := by
 intro i x hx
 have hfit' : off * dk.sz + news.length ≤ cur.length := by rw [hl, hc, ← Nat.add_mul]; exact Nat.mul_le_mul_right _ (by omega)
 rw [Zlh hfit] at hx
 split at hx
 · rename_i h1
   rw [Zbq hfit' (.inl (Zj6 h1))]
   exact dk.mono hle (hk i x hx)
 · rename_i h1
   split at hx
   · rename_i h2
     obtain ⟨y, hy, hxy⟩ := Option.map_eq_some_iff.1 hx
     obtain rfl := Option.some.inj hxy
     have e : seg (Zbv cur (off * dk.sz) news) (i * dk.sz) dk.sz = seg news ((i - off) * dk.sz) dk.sz := by
       have hto : (cur.take (off * dk.sz)).length = off * dk.sz := by simp; omega
       unfold Zbv
       rw [List.append_assoc, show i * dk.sz = (cur.take (off * dk.sz)).length + (i - off) * dk.sz by rw [hto, ← Nat.add_mul]; congr 1; omega, Zgm, Zes (by rw [hl]; exact Zj6 (by omega))]
     rw [e]; exact dk.mono hle (hn _ _ hy)
   · rename_i h2
     rw [Zbq hfit' (.inr (by rw [hl, ← Nat.add_mul]; exact Nat.mul_le_mul_right _ (by omega)))]
     exact dk.mono hle (hk i x hx)
theorem Zuh {fs : List (Option α)} {g : G} {b cap : Nat} {cur : Array Value} (h : OwnAt dk e j fs g b cap cur) {off : Nat} {ws : List α} {news : List Value} (hl : news.length = ws.length * dk.sz) (hfit : off + ws.length ≤ fs.length) (hn : ∀ i x, ws[i]? = some x → dk.K g x (seg news (i * dk.sz) dk.sz)) :
   ∃ g' : G, g'.w = g.w.setRow b (Zbv cur.toList (off * dk.sz) news).toArray ∧ Step [j] g g' ∧ OwnAt dk e j (over fs off ws) g' b cap (Zbv cur.toList (off * dk.sz) news).toArray := by
 have hst : Step [j] g (g.wr b (Zbv cur.toList (off * dk.sz) news).toArray h.lt h.npr (fun _ => False) j) := Zmf h.own (.inr rfl) h.npr
 have hcl : cur.toList.length = cap * dk.sz := by simpa using h.sz
 have hlen := h.len
 refine ⟨_, rfl, hst, ⟨by rw [wr_w, Zeb]; exact h.lt, by simp [G.wr], fun b' hb' ho => ?_, by rw [wr_w]; exact setRow_heap _ _ _ _ _ _ h.heap, by rw [Zli hfit]; exact h.len, h.max, ?_, ?_, fun o => by simp [G.wr]⟩⟩
 · rw [wr_w, Zeb] at hb'
   simp only [G.wr] at ho
   split at ho
   · assumption
   · exact h.uniq b' hb' ho
 · rw [List.size_toArray, Zgd (by rw [hl, hcl, ← Nat.add_mul]; exact Nat.mul_le_mul_right _ (by omega))]; exact hcl
 · exact Z1c hst.le hl hcl hfit h.len h.known hn
theorem Zqc {g : G} {b off len cap : Nat} {fs : List (Option α)} {cur : Array Value} (hT : TE P t e dk bytes) (h : OwnAt dk e j fs g b cap cur) (hoff : off + len ≤ fs.length) {A : Option Addr} {n c2 : Nat} {ws : List α} {news : List Value} (hn : ws.length = Nat.min n len) (hA : ws = [] ∨ ∃ b2 o2, A = some ⟨b2, o2, none⟩ ∧ ∀ k u, news[k]? = some u → g.w.cell? ⟨b2, o2 + k, none⟩ = some u) (hl : news.length = ws.length * dk.sz) (hone : ∀ u ∈ news, u.oneCell' = true) (ty : TypeId) :
   (Builtin.copy_ #[t, t] ty #[.slice (some (if cap = off then ⟨b, 0, none⟩ else ⟨b, off * dk.sz, none⟩)) len (cap - off), .slice A n c2]).run P g.w = .ok (.int .i64 (ws.length : Int)) (g.w.setRow b (Zbv cur.toList (off * dk.sz) news).toArray) := by
 obtain ⟨i, zz, hi, hz, hsz, hby, hzs⟩ := hT.info
 have hcl : cur.toList.length = cap * dk.sz := by simpa using h.sz
 have hlen := h.len
 rcases hA with rfl | ⟨b2, o2, rfl, hcell⟩
 · have hn0 : news = [] := List.eq_nil_of_length_eq_zero (by simpa using hl)
   subst hn0
   have hs : (Zbv cur.toList (off * dk.sz) []).toArray = cur := by simp [Zbv]
   have hself : g.w.setRow b cur = g.w := setRow_self g.w b cur e (0, 0) h.heap
   rw [hs, hself]
   have hm : Nat.min n len = 0 := by simpa using hn.symm
   cases A <;> simp [Builtin.copy_, run_underlying hT.und, Builtin.lenOf, Builtin.firstCells, sizeOf, typeInfo, hi, hm, loadCells, loadCellsFrom, storeCells, goInt]
 · have hld := run_loadCells_list (P := P) g.w ⟨b2, o2, none⟩ news (fun k u hu => by rw [Zdc]; exact hcell k u hu)
   rw [hl, hn] at hld
   by_cases he : cap = off
   · have hlen0 : len = 0 := by omega
     have hw0 : ws = [] := List.eq_nil_of_length_eq_zero (by rw [hn, hlen0]; simp)
     subst hw0
     have hn0 : news = [] := List.eq_nil_of_length_eq_zero (by simpa using hl)
     subst hn0
     have hs : (Zbv cur.toList (off * dk.sz) []).toArray = cur := by simp [Zbv]
     have hself : g.w.setRow b cur = g.w := setRow_self g.w b cur e (0, 0) h.heap
     rw [hs, hself]
     have hm : Nat.min n len = 0 := by simpa using hn.symm
     simp [Builtin.copy_, run_underlying hT.und, Builtin.lenOf, Builtin.firstCells, sizeOf, typeInfo, hi, hm, loadCells, loadCellsFrom, storeCells, goInt]
   · rw [if_neg he]
     have hst := run_storeCells_at P b (off * dk.sz) e news 0 cur g.w h.heap (by rw [hl, Nat.add_zero, ← Nat.add_mul]; rw [h.sz]; exact Nat.mul_le_mul_right _ (by rw [hn]; have : Nat.min n len ≤ len := Nat.min_le_right n len; omega)) hone
     rw [Nat.add_zero] at hst
     simp only [Builtin.copy_, run_underlying hT.und, Builtin.lenOf, Builtin.firstCells, sizeOf, typeInfo, Sem.run_bind, run_program, Result.andThen_ok, hi, Sem.run_pure, hsz, List.getElem?_toArray, List.getElem?_cons_zero, List.getElem?_cons_succ, hld, goInt, hn]
     rw [hst]
     rfl
theorem Zyx {fs : List (Option α)} {off len s : Nat} {vs : List α} (hT : TE P t e dk bytes) (hfit : off + len ≤ fs.length) (hv : vs.length ≤ len) (hop : o.op = .call { callee := .builtin .copy, args := #[x, y], argTypes := #[t, t] }) (hd : o.dst = some d) (hsd : s ≠ d)
   (hx : Opd uses x (Zl2 dk e j off len)) (hy : Opd uses y (dk.sl.pd vs)) (hs : Opd uses (.tmp s) (pOwn dk e j c fs)) : OB P N o uses [(d, pInt .i64 (vs.length : Int)), (s, pOwn dk e j c (over fs off vs))] [j + 1] := by
 intro a g K Q hN hdN hu hK
 obtain ⟨b, cap, cur, hxv, hO1, _⟩ := hx a g hu
 obtain ⟨b', cap', cur', hsv, hO, hc⟩ := hs a g hu
 obtain ⟨rfl, rfl, rfl⟩ := hO.same hO1 hT.sz
 obtain ⟨A, c2, hy1, hy2, hy3, hyr⟩ := Zn1 (hy a g hu)
 obtain ⟨news, hl, hcl, hk⟩ : ∃ news : List Value, news.length = vs.length * dk.sz ∧ (vs = [] ∨ ∃ b2 o2, A = some ⟨b2, o2, none⟩ ∧ ∀ k u, news[k]? = some u → g.w.cell? ⟨b2, o2 + k, none⟩ = some u) ∧ ∀ i x, vs[i]? = some x → dk.K g x (seg news (i * dk.sz) dk.sz) := by
   rcases hyr with rfl | ⟨b2, o2, news, rfl, h1, h2, h3⟩
   · exact ⟨[], by simp, .inl rfl, fun i x hx => by simp at hx⟩
   · exact ⟨news, h1, .inr ⟨b2, o2, rfl, fun k u hu => (h2 k u hu).2⟩, h3⟩
 obtain ⟨g', hw, hst, hO'⟩ := Zuh hO (off := off) hl (by omega) hk
 have hr := Zqc hT hO (off := off) (len := len) hfit (A := A) (n := vs.length) (c2 := c2) (ws := vs) (by simp [Nat.min_eq_left hv]) hcl hl (Zlu hl hk hT.sz) o.type
 have hr' : (execOp a.eval o).run P g.w = .ok (.value (.int .i64 (vs.length : Int))) g'.w := by
   simp [execOp, hop, resolve, invoke, builtin, hxv, hy1, hr, hw]
 unfold Oper.wp
 rw [hr']
 refine hK _ g' hst fun e he => ?_
 simp only [List.mem_cons, List.not_mem_nil, or_false] at he
 rcases he with rfl | rfl
 · rw [hd, Zfe _ (by rw [hN]; exact hdN d hd)]; exact Zg7 _ _ g'
 · rw [Zi6 _ (by rw [hd]; intro h; exact hsd (Option.some.inj h).symm)]
   exact ⟨b, cap, _, by rw [Zli (by omega)]; exact hsv, hO', hc⟩
theorem Zxe {fs fs2 : List (Option α)} {off len off2 len2 s s2 j2 : Nat} {c2 : Option Nat} {ws : List α} (hT : TE P t e dk bytes) (hfit : off + len ≤ fs.length) (hfit2 : off2 + len2 ≤ fs2.length) (hw : ws.length = Nat.min len2 len) (hws : ∀ i x, ws[i]? = some x → fs2[off2 + i]? = some (some x))
   (hop : o.op = .call { callee := .builtin .copy, args := #[x, y], argTypes := #[t, t] }) (hd : o.dst = some d) (hsd : s ≠ d) (hx : Opd uses x (Zl2 dk e j off len)) (hy : Opd uses y (Zl2 dk e j2 off2 len2)) (hs : Opd uses (.tmp s) (pOwn dk e j c fs)) (hs2 : Opd uses (.tmp s2) (pOwn dk e j2 c2 fs2)) :
   OB P N o uses [(d, pInt .i64 (ws.length : Int)), (s, pOwn dk e j c (over fs off ws))] [j + 1] := by
 intro a g K Q hN hdN hu hK
 obtain ⟨b, cap, cur, hxv, hO1, _⟩ := hx a g hu
 obtain ⟨b', cap', cur', hsv, hO, hc⟩ := hs a g hu
 obtain ⟨rfl, rfl, rfl⟩ := hO.same hO1 hT.sz
 obtain ⟨b3, cap3, cur3, hyv, hO3, hcap3⟩ := hy a g hu
 obtain ⟨b2, cap2, cur2, hsv2, hO2, hc2⟩ := hs2 a g hu
 obtain ⟨rfl, rfl, rfl⟩ := hO2.same hO3 hT.sz
 have hwl2 : ws.length ≤ len2 := by rw [hw]; exact Nat.min_le_left _ _
 have hwl : ws.length ≤ len := by rw [hw]; exact Nat.min_le_right _ _
 have hl2 := hO2.len
 have hcl2 : cur3.toList.length = cap3 * dk.sz := by simpa using hO2.sz
 let news := seg cur3.toList (off2 * dk.sz) (ws.length * dk.sz)
 have hnl : news.length = ws.length * dk.sz := by
   show ((cur3.toList.drop (off2 * dk.sz)).take (ws.length * dk.sz)).length = _
   rw [List.length_take, List.length_drop, hcl2]
   have : (off2 + ws.length) * dk.sz ≤ cap3 * dk.sz := Nat.mul_le_mul_right _ (by omega)
   rw [Nat.add_mul] at this; omega
 have hk : ∀ i x, ws[i]? = some x → dk.K g x (seg news (i * dk.sz) dk.sz) := fun i x hx => by
   have hi := (List.getElem?_eq_some_iff.1 hx).1
   have h1 := hO2.known _ _ (hws i x hx)
   have e : seg news (i * dk.sz) dk.sz = seg cur3.toList ((off2 + i) * dk.sz) dk.sz := by
     show (((cur3.toList.drop (off2 * dk.sz)).take (ws.length * dk.sz)).drop (i * dk.sz)).take dk.sz = _
     have := Zj6 (sz := dk.sz) hi
     rw [List.drop_take, List.take_take, List.drop_drop, Nat.min_eq_left (by omega), Nat.add_mul]; rfl
   rw [e]; exact h1
 obtain ⟨g', hgw, hst, hO'⟩ := Zuh hO (off := off) hnl (by omega) hk
 have hcell : ∀ k u, news[k]? = some u → g.w.cell? ⟨b3, off2 * dk.sz + k, none⟩ = some u := fun k u hu => by
   simp only [World.cell?, hO2.heap]
   have hu' : ((cur3.toList.drop (off2 * dk.sz)).take (ws.length * dk.sz))[k]? = some u := hu
   rw [List.getElem?_take] at hu'
   split at hu'
   · rw [List.getElem?_drop] at hu'
     simpa using hu'
   · cases hu'
 have hr := Zqc hT hO (off := off) (len := len) hfit (A := some (if cap3 = off2 then ⟨b3, 0, none⟩ else ⟨b3, off2 * dk.sz, none⟩)) (n := len2) (c2 := cap3 - off2) (ws := ws) (news := news) hw (by
   by_cases he : cap3 = off2
   · left; apply List.eq_nil_of_length_eq_zero; omega
   · right; exact ⟨b3, off2 * dk.sz, by rw [if_neg he], hcell⟩) hnl (Zlu hnl hk hT.sz) o.type
 have hr' : (execOp a.eval o).run P g.w = .ok (.value (.int .i64 (ws.length : Int))) g'.w := by
   simp only [execOp, hop, resolve, invoke, builtin, Sem.run_bind, Sem.run_pure, Result.andThen_ok, List.map_toArray, List.map_cons, List.map_nil, hxv, hyv, hr, hgw]
 unfold Oper.wp
 rw [hr']
 refine hK _ g' hst fun e he => ?_
 simp only [List.mem_cons, List.not_mem_nil, or_false] at he
 rcases he with rfl | rfl
 · rw [hd, Zfe _ (by rw [hN]; exact hdN d hd)]; exact Zg7 _ _ g'
 · rw [Zi6 _ (by rw [hd]; intro h; exact hsd (Option.some.inj h).symm)]
   exact ⟨b, cap, _, by rw [Zli (by omega)]; exact hsv, hO', hc⟩
end
section
variable {P : Program} {N : Nat} {o : Oper} {uses : Zbc} {d : Nat} {q : Pd} {x y z : Operand} {α : Type} {dk : Kd α} {t e : TypeId} {bytes j : Nat} {c : Option Nat}
theorem OwnAt.ext {fs : List (Option α)} {g : G} {b cap h : Nat} {cur : Array Value} (hO : OwnAt dk e j fs g b cap cur) (h1 : fs.length ≤ h) (h2 : h ≤ cap) : OwnAt dk e j (fs ++ List.replicate (h - fs.length) none) g b cap cur :=
 ⟨hO.lt, hO.own, hO.uniq, hO.heap, by simp; omega, hO.max, hO.sz, fun i x hx => by
   rw [List.getElem?_append] at hx
   split at hx
   · exact hO.known i x hx
   · rw [List.getElem?_replicate] at hx
     split at hx <;> simp at hx, hO.npr⟩
theorem OwnAt.sub {fs fs' : List (Option α)} {g : G} {b cap : Nat} {cur : Array Value} (hO : OwnAt dk e j fs g b cap cur) (hl : fs'.length ≤ cap) (hk : ∀ (i : Nat) (x : α), fs'[i]? = some (some x) → fs[i]? = some (some x)) : OwnAt dk e j fs' g b cap cur :=
 ⟨hO.lt, hO.own, hO.uniq, hO.heap, hl, hO.max, hO.sz, fun i x hx => hO.known i x (hk i x hx), hO.npr⟩
theorem Zks (z : Array Value) (n : Nat) : (Builtin.zeroCells z n).size = n * z.size := by simp [Builtin.zeroCells]
theorem Zsr {g : G} {cur : Array Value} {cap : Nat} {fs : List (Option α)} (hj : j ≠ 0) (hl : fs.length ≤ cap) (hm : cap ≤ maxLen) (hs : cur.size = cap * dk.sz) (hk : ∀ (i : Nat) (x : α), fs[i]? = some (some x) → dk.K g x (seg cur.toList (i * dk.sz) dk.sz)) :
   ∃ g' : G, g'.w = g.w.drew.alloc (.cells cur e) ∧ Step [j] g g' ∧ OwnAt dk e j fs g' g.w.heap.size cap cur := by
 have hs1 := Step.drew g
 have hs2 := Zlq g.drew cur e (fun _ => False) j
 have hst : Step [j] g (g.drew.push cur e (fun _ => False) j) := (hs1.sub (by simp)).trans hs2
 have hsz : g.drew.w.heap.size = g.w.heap.size := rfl
 refine ⟨g.drew.push cur e (fun _ => False) j, rfl, hst, ⟨by rw [Zgh, Zih]; omega, by simp [G.push, hsz], fun b' hb' ho => ?_, by rw [Zgh, ← hsz]; exact Zlo .., hl, hm, hs, fun i x hx => dk.mono hst.le (hk i x hx), fun o => by simp [G.push, hsz]⟩⟩
 by_cases h : b' = g.drew.w.heap.size
 · rw [h, hsz]
 · simp only [G.push, if_neg h] at ho
   split at ho
   · exact absurd ho.symm hj
   · rename_i h2; exact absurd ho h2
theorem Z3d {j : Nat} {ty : TypeId} (hT : TE P t e dk bytes) (hop : o.op = .buildSlice t 0 #[]) (hd : o.dst = some d) : OB P N o uses [(d, pOwn dk e j (some 0) ([] : List (Option α)))] [j + 1] :=
 Zhb hd fun a g hh => by
   have hs2 := Zlq g #[] e (fun _ => False) (j + 1)
   refine ⟨.slice (some ⟨g.w.heap.size, 0, none⟩) 0 0, g.push #[] e (fun _ => False) (j + 1), ?_, hs2, g.w.heap.size, 0, #[], rfl, ⟨by rw [Zgh, Zih]; omega, by simp [G.push], fun b' hb' ho => ?_, by rw [Zgh]; exact Zlo .., Nat.le_refl _, Nat.zero_le _, by simp, fun i x hx => by simp at hx, fun o => by simp [G.push]⟩, fun k hk => Option.some.inj hk⟩
   · obtain ⟨cells, hl, _, hr⟩ := Zvj (ys := []) (xs := []) hT .nil (by simp) hh
     have hc : cells = [] := List.eq_nil_of_length_eq_zero (by simpa using hl)
     subst hc
     rw [Zgh]
     have hr' : (Instr.buildSlice t 0 #[]).run P g.w = .ok (.slice (some ⟨g.w.heap.size, 0, none⟩) 0 0) (g.w.alloc (.cells #[] e)) := by simpa [idxL] using hr
     simp [execOp, hop]
     rw [hr']; rfl
   · by_cases h : b' = g.w.heap.size
     · exact h
     · simp only [G.push, if_neg h] at ho
       split at ho
       · omega
       · rename_i h2; exact absurd ho h2
theorem Ztu {xs vs : List α} (hT : TE P t e dk bytes) (hop : o.op = .call { callee := .builtin .append, args := #[x, y], argTypes := #[t, t] }) (hd : o.dst = some d) (hx : Opd uses x (pOwn dk e j c (xs.map some))) (hy : Opd uses y (dk.sl.pd vs)) (hl : (xs.length + vs.length) * bytes ≤ 140737488355328) :
   OB P N o uses [(d, pOwn dk e j none ((xs ++ vs).map some))] [j + 1] :=
 Zhb hd fun a g hh => by
   obtain ⟨b, cap, cur, hv, hO, _⟩ := hx a g hh
   obtain ⟨A, c2, hy1, hy2, hy3, hyr⟩ := Zn1 (hy a g hh)
   obtain ⟨i, zz, hi, hz, hsz, hby, hzs⟩ := hT.info
   have hb0 := hT.by0
   have hexec : ∀ v w', (Builtin.append_ #[t, t] o.type #[a.eval x, a.eval y]).run P g.w = .ok v w' → (execOp a.eval o).run P g.w = .ok (.value v) w' := fun v w' h => by
     simp [execOp, hop, resolve, invoke, builtin, h]
   have hlen : xs.length + vs.length ≤ 140737488355328 := Nat.le_trans (Nat.le_mul_of_pos_right _ hb0) hl
   have hOl := hO.len
   rw [List.length_map] at hOl hv
   rcases Nat.eq_zero_or_pos vs.length with h0 | hpos
   · obtain rfl := List.eq_nil_of_length_eq_zero h0
     refine ⟨a.eval x, g, hexec _ _ ?_, .refl _ _, b, cap, cur, by rw [hv]; simp, by rw [List.append_nil]; exact hO, fun k hk => by cases hk⟩
     rw [hv, hy1]
     cases A <;> simp [Builtin.append_, run_underlying hT.und, sizeOf, typeInfo, hi, Builtin.lenOf, Builtin.firstCells, loadCells, loadCellsFrom, hOl, storeCells]
   · obtain ⟨b2, o2, news, rfl, hnl, hnc, hnk⟩ := hyr.resolve_left (fun h => by rw [h] at hpos; simp at hpos)
     have hn1 := Zlu hnl hnk hT.sz
     have hnl' : news.length = vs.length * i.size := by rw [hsz]; exact hnl
     have hnews : ∀ k u, news[k]? = some u → g.w.cell? ((⟨b2, o2, none⟩ : Addr).add k) = some u := fun k u hu => by rw [Zdc]; exact (hnc k u hu).2
     by_cases hroom : xs.length + vs.length ≤ cap
     · have hO2 := hO.ext (h := xs.length + vs.length) (by simp) hroom
       obtain ⟨g', hw, hst, hO3⟩ := Zuh hO2 (off := xs.length) (ws := vs) hnl (by simp) hnk
       have hr := run_append_room (P := P) g.w t o.type e i hT.und hi b xs.length cap cur hO.heap ⟨b2, o2, none⟩ vs.length c2 news hnl' hnews hn1 hroom (by rw [hnl', ← Nat.add_mul, hO.sz, hsz]; exact Nat.mul_le_mul_right _ hroom)
       rw [hsz] at hr
       refine ⟨_, g', hexec _ _ (by rw [hv, hy1]; rw [hw]; exact hr), hst, b, cap, (Zbv cur.toList (xs.length * dk.sz) news).toArray, by simp, ?_, fun k hk => by cases hk⟩
       refine hO3.sub (by simp; omega) fun k u hk => ?_
       rw [Zlh (by simp)]
       rw [List.getElem?_map] at hk
       by_cases h1 : k < xs.length
       · rw [if_pos h1, List.getElem?_append_left (by simpa using h1), List.getElem?_map]
         rwa [List.getElem?_append_left h1] at hk
       · rw [if_neg h1]
         have h2 := (List.getElem?_eq_some_iff.1 (show (xs ++ vs)[k]? = some u by
           obtain ⟨y, hy, he⟩ := Option.map_eq_some_iff.1 hk
           rw [hy, Option.some.inj he])).1
         rw [List.length_append] at h2
         rw [if_pos h2]
         rwa [List.getElem?_append_right (by omega)] at hk
     · have hcl : cur.toList.length = cap * dk.sz := by simpa using hO.sz
       have hol : (cur.toList.take (xs.length * dk.sz)).length = xs.length * i.size := by rw [hsz, List.length_take, hcl]; exact Nat.min_eq_left (Nat.mul_le_mul_right _ hOl)
       have holds : ∀ k u, (cur.toList.take (xs.length * dk.sz))[k]? = some u → g.w.cell? ((⟨b, 0, none⟩ : Addr).add k) = some u := fun k u hu => by
         rw [Zdc]
         simp only [World.cell?, hO.heap, Nat.zero_add]
         rw [List.getElem?_take] at hu
         split at hu
         · simpa using hu
         · cases hu
       have hr := run_append_grow (P := P) g.w t o.type e i zz hT.und hi hz ⟨b, 0, none⟩ xs.length cap (cur.toList.take (xs.length * dk.sz)) hol holds ⟨b2, o2, none⟩ vs.length c2 news hnl' hnews (by omega) (by omega) (growslice_fits (by omega) (by rw [hby]; exact hl))
       have hge := grownCap_ge g.w (xs.length + vs.length) cap e
       have hmx := grownCap_le_maxLen g.w (xs.length + vs.length) cap e (by simp only [maxLen]; omega)
       rw [hsz] at hol
       obtain ⟨g', hw, hst, hO3⟩ := Zsr (dk := dk) (e := e) (g := g) (j := j + 1) (cur := (cur.toList.take (xs.length * dk.sz)).toArray ++ news.toArray ++ Builtin.zeroCells zz.cells (grownCap g.w (xs.length + vs.length) cap e - (xs.length + vs.length))) (cap := grownCap g.w (xs.length + vs.length) cap e) (fs := (xs ++ vs).map some) (by omega) (by simpa using hge) hmx (by
           simp only [Array.size_append, List.size_toArray, Zks, hzs, hol, hnl, ← Nat.add_mul]
           congr 1; omega) (fun k u hk => by
           rw [List.getElem?_map] at hk
           obtain ⟨u', hu', he'⟩ := Option.map_eq_some_iff.1 hk
           obtain rfl := Option.some.inj he'
           simp only [Array.toList_append, List.append_assoc]
           rw [List.getElem?_append] at hu'
           split at hu'
           · rename_i h1
             rw [Zes (by rw [hol]; exact Zj6 h1)]
             have e2 : seg (cur.toList.take (xs.length * dk.sz)) (k * dk.sz) dk.sz = seg cur.toList (k * dk.sz) dk.sz := by
               have := Zj6 (sz := dk.sz) h1
               simp only [seg, List.drop_take, List.take_take]
               congr 1; omega
             rw [e2]
             exact hO.known k u' (by rw [List.getElem?_map, hu']; rfl)
           · rename_i h1
             have h2 := (List.getElem?_eq_some_iff.1 hu').1
             rw [show k * dk.sz = (cur.toList.take (xs.length * dk.sz)).length + (k - xs.length) * dk.sz by rw [hol, ← Nat.add_mul]; congr 1; omega, Zgm, Zes (by rw [hnl]; exact Zj6 h2)]
             exact hnk _ _ hu')
       refine ⟨_, g', hexec _ _ (by rw [hv, hy1]; rw [hw]; exact hr), hst, _, _, _, by simp, hO3, fun k hk => by cases hk⟩
theorem Z1t {fs : List (Option α)} {n off len s k : Nat} {xs ws : List α} (hT : TE P t e dk bytes) (hn : n = xs.length) (hn2 : n + len ≤ k) (hfs : off + len ≤ fs.length) (hw : ws.length = len) (hxs : ∀ (i : Nat) (x : α), xs[i]? = some x → fs[i]? = some (some x)) (hws : ∀ (i : Nat) (x : α), ws[i]? = some x → fs[off + i]? = some (some x))
   (hop : o.op = .call { callee := .builtin .append, args := #[x, y], argTypes := #[t, t] }) (hd : o.dst = some d) (hx : Opd uses x (Zl2 dk e j 0 n)) (hy : Opd uses y (Zl2 dk e j off len)) (hs : Opd uses (.tmp s) (pOwn dk e j (some k) fs)) :
   OB P N o uses [(d, pOwn dk e j (some k) ((xs ++ ws).map some))] [j + 1] :=
 Zhb hd fun a g hh => by
   obtain ⟨b, cap, cur, hxv, hO1, _⟩ := hx a g hh
   obtain ⟨b', cap', cur', hsv, hO, hc⟩ := hs a g hh
   obtain rfl := hc k rfl
   obtain ⟨rfl, rfl, rfl⟩ := hO.same hO1 hT.sz
   obtain ⟨b3, cap3, cur3, hyv, hO3, hcap3⟩ := hy a g hh
   obtain ⟨rfl, rfl, rfl⟩ := hO.same hO3 hT.sz
   obtain ⟨i, zz, hi, hz, hsz, hby, hzs⟩ := hT.info
   have hl2 := hO.len
   have hcl : cur3.toList.length = cap3 * dk.sz := by simpa using hO.sz
   let news := seg cur3.toList (off * dk.sz) (len * dk.sz)
   have hnl : news.length = ws.length * dk.sz := by
     show ((cur3.toList.drop (off * dk.sz)).take (len * dk.sz)).length = _
     rw [List.length_take, List.length_drop, hcl, hw]
     have : (off + len) * dk.sz ≤ cap3 * dk.sz := Nat.mul_le_mul_right _ (by omega)
     rw [Nat.add_mul] at this; omega
   have hk : ∀ (i : Nat) (x : α), ws[i]? = some x → dk.K g x (seg news (i * dk.sz) dk.sz) := fun i x hx => by
     have hi := (List.getElem?_eq_some_iff.1 hx).1
     have h1 := hO.known _ _ (hws i x hx)
     have e : seg news (i * dk.sz) dk.sz = seg cur3.toList ((off + i) * dk.sz) dk.sz := by
       show (((cur3.toList.drop (off * dk.sz)).take (len * dk.sz)).drop (i * dk.sz)).take dk.sz = _
       have := Zj6 (sz := dk.sz) (show i < len by omega)
       rw [List.drop_take, List.take_take, List.drop_drop, Nat.min_eq_left (by omega), Nat.add_mul]; rfl
     rw [e]; exact h1
   have hcell : ∀ k u, news[k]? = some u → g.w.cell? ((⟨b3, off * dk.sz, none⟩ : Addr).add k) = some u := fun k u hu => by
     rw [Zdc]
     simp only [World.cell?, hO.heap]
     have hu' : ((cur3.toList.drop (off * dk.sz)).take (len * dk.sz))[k]? = some u := hu
     rw [List.getElem?_take] at hu'
     split at hu'
     · rw [List.getElem?_drop] at hu'
       simpa using hu'
     · cases hu'
   have hO4 := (hO.sub (fs' := xs.map some) (by rw [List.length_map]; omega) (fun i x hx => by
     rw [List.getElem?_map] at hx
     obtain ⟨y, hy, he⟩ := Option.map_eq_some_iff.1 hx
     rw [hxs i y hy, he])).ext (h := n + len) (by rw [List.length_map]; omega) (by omega)
   obtain ⟨g', hgw, hst, hO5⟩ := Zuh hO4 (off := n) (ws := ws) hnl (by simp; omega) hk
   have hb0 : (if cap3 = 0 then (⟨b3, 0, none⟩ : Addr) else ⟨b3, 0 * dk.sz, none⟩) = ⟨b3, 0, none⟩ := by split <;> simp
   have hr : (Builtin.append_ #[t, t] o.type #[a.eval x, a.eval y]).run P g.w = .ok (.slice (some ⟨b3, 0, none⟩) (n + len) cap3) g'.w := by
     rw [hxv, hyv, hb0, hgw, Nat.sub_zero]
     by_cases h0 : cap3 = off
     · have hl0 : len = 0 := by omega
       have hn0 : news = [] := List.eq_nil_of_length_eq_zero (by rw [hnl, hw, hl0]; simp)
       rw [if_pos h0]
       have := run_append_room (P := P) g.w t o.type e i hT.und hi b3 n cap3 cur3 hO.heap ⟨b3, 0, none⟩ len (cap3 - off) news (by rw [hn0, hl0]; simp) (fun j u hu => by rw [hn0] at hu; simp at hu) (fun u hu => by rw [hn0] at hu; cases hu) (by omega) (by rw [hn0, hO.sz, hsz]; simp; exact Nat.mul_le_mul_right _ (by omega))
       rw [hsz] at this
       exact this
     · rw [if_neg h0]
       have := run_append_room (P := P) g.w t o.type e i hT.und hi b3 n cap3 cur3 hO.heap ⟨b3, off * dk.sz, none⟩ len (cap3 - off) news (by rw [hnl, hw, hsz]) hcell (Zlu hnl hk hT.sz) (by omega) (by rw [hnl, hw, hsz, ← Nat.add_mul, hO.sz]; exact Nat.mul_le_mul_right _ (by omega))
       rw [hsz] at this
       exact this
   refine ⟨_, g', ?_, hst, b3, cap3, (Zbv cur3.toList (n * dk.sz) news).toArray, rfl, ?_, hc⟩
   · rw [show ((xs ++ ws).map some).length = n + len by simp; omega]
     simp [execOp, hop, resolve, invoke, builtin, hr]
   · refine hO5.sub (by simp; omega) fun k u hk => ?_
     rw [Zlh (by simp; omega)]
     rw [List.getElem?_map] at hk
     by_cases h1 : k < n
     · rw [if_pos h1, List.getElem?_append_left (by simp; omega), List.getElem?_map]
       rwa [List.getElem?_append_left (by omega)] at hk
     · rw [if_neg h1]
       have h2 := (List.getElem?_eq_some_iff.1 (show (xs ++ ws)[k]? = some u by
         obtain ⟨y, hy, he⟩ := Option.map_eq_some_iff.1 hk
         rw [hy, Option.some.inj he])).1
       rw [List.length_append] at h2
       rw [if_pos (by omega)]
       rw [List.getElem?_append_right (by omega)] at hk
       rw [hn]; exact hk
theorem Zoz (w : World) (t tn ty e : TypeId) (i : TypeInfo) (z : Value) (k kn : IntKind) (ht : P.underlying t = some (.slice e)) (htn : P.underlying tn = some (.int kn)) (hi : P.info? e = some i) (hz : i.zero = some z)
   (b : Addr) (sLen sCap : Nat) (olds : List Value) (hlo : olds.length = sLen * i.size) (holds : ∀ j v, olds[j]? = some v → w.cell? (b.add j) = some v)
   (n : Nat) (h0 : 0 < n) (hs : 0 < i.size) (hg : sCap < sLen + n) (h63 : ((sLen + n : Nat) : Int) ≤ 9223372036854775807) (h48 : n * i.bytes ≤ 281474976710656) (hfit : Builtin.nextslicecap (sLen + n) sCap * i.bytes ≤ 281474976710656) :
   (Builtin.append_ #[t, tn] ty #[.slice (some b) sLen sCap, .int k n]).run P w =
     .ok (.slice (some ⟨w.heap.size, 0, none⟩) (sLen + n) (grownCap w (sLen + n) sCap e))
       (w.drew.alloc (.cells (olds.toArray ++ Builtin.zeroCells z.cells n ++ Builtin.zeroCells z.cells (grownCap w (sLen + n) sCap e - (sLen + n))) e)) := by
 have hw : IntKind.i64.wrap (n : Int) = n := by rw [IntKind.wrap_i64]; omega
 have hn : ¬ (sLen + n ≤ sCap) := by omega
 have h63' : ¬ (9223372036854775807 < ((sLen : Int) + (n : Int))) := by omega
 have h48' : ¬ (281474976710656 < Builtin.nextslicecap (sLen + n) sCap * i.bytes) := by omega
 have h48i : ¬ (281474976710656 < (n : Int) * (i.bytes : Int)) := by
   rw [← Int.natCast_mul]
   omega
 have hneg : ¬ ((n : Int) < 0) := by omega
 have hns : ¬ (n * i.size = 0) := Nat.mul_ne_zero (by omega) (by omega)
 have hfo := run_firstCells_some (P := P) w.drew i.size sLen b sLen sCap olds hlo (by simpa using holds)
 simp [Builtin.append_, run_underlying ht, run_underlying htn, sizeOf, typeInfo, zeroValue, hi, hz, asInt, asIntOf, hw, hn, hneg, hns, h63', h48', h48i, Question.forced, hfo, newRow, grownCap]
theorem Z0v {fs : List (Option α)} {n m s k d2 tn : Nat} {kn : IntKind} {xs : List α} (hT : TE P t e dk bytes) (htn : P.underlying tn = some (.int kn)) (hn : n = xs.length) (hfs : n ≤ fs.length) (hm : 0 < m) (hk : k < n + m) (hb : (n + m) * bytes ≤ 140737488355328) (hxs : ∀ (i : Nat) (x : α), xs[i]? = some x → fs[i]? = some (some x))
   (hop : o.op = .call { callee := .builtin .append, args := #[x, y], argTypes := #[t, tn] }) (hd : o.dst = some d) (hx : Opd uses x (Zl2 dk e j 0 n)) (hy : Opd uses y (pInt .i64 (m : Int))) (hs : Opd uses (.tmp s) (pOwn dk e j (some k) fs)) :
   OB P N o uses [(d, pOwn dk e d2 none (xs.map some ++ List.replicate m none))] [d2 + 1] :=
 Zhb hd fun a g hh => by
   obtain ⟨b, cap, cur, hxv, hO1, _⟩ := hx a g hh
   obtain ⟨b', cap', cur', hsv, hO, hc⟩ := hs a g hh
   obtain rfl := hc k rfl
   obtain ⟨rfl, rfl, rfl⟩ := hO.same hO1 hT.sz
   obtain ⟨i, zz, hi, hz, hsz, hby, hzs⟩ := hT.info
   have hyv := Zc2.1 (hy a g hh)
   have hb0 : (if cap = 0 then (⟨b, 0, none⟩ : Addr) else ⟨b, 0 * dk.sz, none⟩) = ⟨b, 0, none⟩ := by split <;> simp
   have hOl := hO.len
   have hcl : cur.toList.length = cap * dk.sz := by simpa using hO.sz
   have hlen : n + m ≤ 140737488355328 := Nat.le_trans (Nat.le_mul_of_pos_right _ hT.by0) hb
   have hol : (cur.toList.take (n * dk.sz)).length = n * dk.sz := by rw [List.length_take, hcl]; exact Nat.min_eq_left (Nat.mul_le_mul_right _ (by omega))
   have holds : ∀ k u, (cur.toList.take (n * dk.sz))[k]? = some u → g.w.cell? ((⟨b, 0, none⟩ : Addr).add k) = some u := fun k u hu => by
     rw [Zdc]
     simp only [World.cell?, hO.heap, Nat.zero_add]
     rw [List.getElem?_take] at hu
     split at hu
     · simpa using hu
     · cases hu
   have hmb : m * bytes ≤ (n + m) * bytes := Nat.mul_le_mul_right _ (by omega)
   have hr := Zoz (P := P) g.w t tn o.type e i zz .i64 kn hT.und htn hi hz ⟨b, 0, none⟩ n cap (cur.toList.take (n * dk.sz)) (by rw [hol, hsz]) holds m hm (by rw [hsz]; exact hT.sz) hk (by omega) (by rw [hby]; omega) (growslice_fits hk (by rw [hby]; exact hb))
   have hge := grownCap_ge g.w (n + m) cap e
   have hmx := grownCap_le_maxLen g.w (n + m) cap e (by simp only [maxLen]; omega)
   obtain ⟨g', hw, hst, hO3⟩ := Zsr (dk := dk) (e := e) (g := g) (j := d2 + 1) (cur := (cur.toList.take (n * dk.sz)).toArray ++ Builtin.zeroCells zz.cells m ++ Builtin.zeroCells zz.cells (grownCap g.w (n + m) cap e - (n + m))) (cap := grownCap g.w (n + m) cap e) (fs := xs.map some ++ List.replicate m none) (by omega) (by simp; omega) hmx (by
       simp only [Array.size_append, List.size_toArray, Zks, hzs, hol, ← Nat.add_mul]
       congr 1; omega) (fun k u hk => by
       rw [List.getElem?_append] at hk
       split at hk
       · rename_i h1
         rw [List.length_map] at h1
         rw [List.getElem?_map] at hk
         obtain ⟨u', hu', he'⟩ := Option.map_eq_some_iff.1 hk
         obtain rfl := Option.some.inj he'
         simp only [Array.toList_append, List.append_assoc]
         rw [Zes (by rw [hol]; exact Zj6 (by omega))]
         have e2 : seg (cur.toList.take (n * dk.sz)) (k * dk.sz) dk.sz = seg cur.toList (k * dk.sz) dk.sz := by
           have := Zj6 (sz := dk.sz) (show k < n by omega)
           simp only [seg, List.drop_take, List.take_take]
           congr 1; omega
         rw [e2]
         exact hO.known k u' (hxs k u' hu')
       · rw [List.getElem?_replicate] at hk
         split at hk <;> simp at hk)
   refine ⟨_, g', ?_, hst, _, _, _, rfl, hO3, fun k hk => by cases hk⟩
   rw [show (xs.map some ++ List.replicate m (none : Option α)).length = n + m by simp; omega]
   rw [hb0, Nat.sub_zero] at hxv
   simp [execOp, hop, resolve, invoke, builtin, hxv, hyv, hr, hw]
theorem Z3i {fs : List (Option α)} {off len s k : Nat} (hT : TE P t e dk bytes) (hz1 : ((P.info? e).bind (·.zero)).map (fun z => z.cells.all (·.oneCell')) = some true) (hfs : fs.length ≤ off) (hk : off + len ≤ k)
   (hop : o.op = .call { callee := .builtin .clear, args := #[x], argTypes := #[t] }) (hd : o.dst = none) (hx : Opd uses x (Zl2 dk e j off len)) (hs : Opd uses (.tmp s) (pOwn dk e j (some k) fs)) : OB P N o uses [(s, pOwn dk e j (some k) fs)] [j + 1] := by
 intro a g K Q hN hdN hu hK
 obtain ⟨b, cap, cur, hxv, hO1, _⟩ := hx a g hu
 obtain ⟨b', cap', cur', hsv, hO, hc⟩ := hs a g hu
 obtain rfl := hc k rfl
 obtain ⟨rfl, rfl, rfl⟩ := hO.same hO1 hT.sz
 obtain ⟨i, zz, hi, hz, hsz, hby, hzs⟩ := hT.info
 have hcl : cur.toList.length = cap * dk.sz := by simpa using hO.sz
 have hone : ∀ u ∈ (Builtin.zeroCells zz.cells len).toList, u.oneCell' = true := by
   simp only [hi, hz, Option.bind_some, Option.map_some, Option.some.injEq] at hz1
   intro u hu
   simp only [Builtin.zeroCells, Array.toList_map, List.mem_map] at hu
   obtain ⟨m, hm, rfl⟩ := hu
   have h0 : 0 < zz.cells.size := by rw [hzs]; exact hT.sz
   have hlt : m % zz.cells.size < zz.cells.size := Nat.mod_lt _ h0
   rw [getElem!_pos zz.cells _ hlt]
   exact Array.all_eq_true.1 hz1 _ hlt
 have hcl2 : (cur.toList.take (off * dk.sz) ++ (Builtin.zeroCells zz.cells len).toList ++ cur.toList.drop (off * dk.sz + (Builtin.zeroCells zz.cells len).toList.length)).toArray = (Zbv cur.toList (off * dk.sz) (Builtin.zeroCells zz.cells len).toList).toArray := rfl
 have hzl : (Builtin.zeroCells zz.cells len).toList.length = len * dk.sz := by rw [Array.length_toList, Zks, hzs]
 have hfit : off * dk.sz + (Builtin.zeroCells zz.cells len).toList.length ≤ cur.toList.length := by rw [hzl, hcl, ← Nat.add_mul]; exact Nat.mul_le_mul_right _ hk
 let cs := (Zbv cur.toList (off * dk.sz) (Builtin.zeroCells zz.cells len).toList).toArray
 have hr : (Builtin.clear_ #[t] o.type #[a.eval x]).run P g.w = .ok (.tuple #[]) (g.w.setRow b cs) := by
   rw [hxv]
   rcases Nat.eq_zero_or_pos len with rfl | hpos
   · have hs0 : cs = cur := by
       show (Zbv cur.toList (off * dk.sz) (Builtin.zeroCells zz.cells 0).toList).toArray = cur
       have : (Builtin.zeroCells zz.cells 0).toList = [] := by simp [Builtin.zeroCells]
       rw [this]; simp [Zbv]
     rw [hs0, setRow_self g.w b cur e (0, 0) hO.heap]
     by_cases he : cap = off <;> simp [Builtin.clear_, run_underlying hT.und]
   · have he : ¬ cap = off := by omega
     rw [if_neg he]
     have hst := run_storeCells_at P b (off * dk.sz) e (Builtin.zeroCells zz.cells len).toList 0 cur g.w hO.heap (by rw [Nat.add_zero]; simpa using hfit) hone
     rw [Nat.add_zero] at hst
     obtain ⟨len, rfl⟩ : ∃ m, len = m + 1 := ⟨len - 1, by omega⟩
     simp [Builtin.clear_, run_underlying hT.und, zeroValue, typeInfo, hi, hz]
     rw [hst]; rfl
 have hr' : (execOp a.eval o).run P g.w = .ok (.value (.tuple #[])) (g.w.setRow b cs) := by
   simp [execOp, hop, resolve, invoke, builtin, hr]
 unfold Oper.wp
 rw [hr']
 have hst : Step [j + 1] g (g.wr b cs hO.lt hO.npr (fun _ => False) (j + 1)) := Zmf hO.own (.inr rfl) hO.npr
 refine hK _ (g.wr b cs hO.lt hO.npr (fun _ => False) (j + 1)) hst fun e he => ?_
 rw [List.mem_singleton.1 he]
 have hat : Act.at (a.put o.dst (.tuple #[])) s = Act.at a s := by rw [hd]; rfl
 rw [hat]
 refine ⟨b, cap, cs, hsv, ⟨by rw [wr_w, Zeb]; exact hO.lt, by simp [G.wr], fun b' hb' ho => ?_, by rw [wr_w]; exact setRow_heap _ _ _ _ _ _ hO.heap, hO.len, hO.max, ?_, fun i x hx => ?_, fun o => by simp [G.wr]⟩, hc⟩
 · rw [wr_w, Zeb] at hb'
   simp only [G.wr] at ho
   split at ho
   · assumption
   · exact hO.uniq b' hb' ho
 · show (Zbv cur.toList (off * dk.sz) (Builtin.zeroCells zz.cells len).toList).toArray.size = _
   rw [List.size_toArray, Zgd hfit, hcl]
 · have hi := (List.getElem?_eq_some_iff.1 hx).1
   have e2 : seg cs.toList (i * dk.sz) dk.sz = seg cur.toList (i * dk.sz) dk.sz := by
     show seg (Zbv cur.toList (off * dk.sz) (Builtin.zeroCells zz.cells len).toList) (i * dk.sz) dk.sz = _
     exact Zbq hfit (.inl (Zj6 (by omega)))
   rw [e2]
   exact dk.mono hst.le (hO.known i x hx)
end
section
variable {P : Program} {N : Nat} {o : Oper} {uses : Zbc} {d : Nat} {q : Pd} {x y z : Operand} {α : Type} {dk : Kd α} {t e : TypeId} {bytes j : Nat} {c : Option Nat}
theorem Zyf {w : World} {ps rs : Array TypeId} {A : Option Addr} {la ca lb cb : Nat} {B : Addr} {cur : Array Value} {i : TypeInfo} (hp : ps[0]? = some t) (ht : P.underlying t = some (.slice e)) (hi : P.info? e = some i)
   (hA : la = 0 ∨ ∃ a c2 t2 fr, A = some a ∧ a.block ≠ B.block ∧ w.heap[a.block]? = some (.cells c2 t2 fr) ∧ c2.size ≠ 0) (hB : w.heap[B.block]? = some (.cells cur e (0, 0))) (hc : cur.size ≠ 0) :
   (Extern.SlicesOverlaps.overlaps ps rs #[.slice A la ca, .slice (some B) lb cb]).run P w = .ok (.bool false) w := by
 have hfb : ∀ n, w.frozen? { block := B.block, off := n } = false := fun n => by simp [World.frozen?, hB]
 have hfb' : w.frozen? B = false := by simp [World.frozen?, hB]
 have hsb : w.shape? B.block = some (e, cur.size) := by simp [World.shape?, hB]
 obtain ⟨n, hn⟩ : ∃ n, cur.size = n + 1 := ⟨cur.size - 1, by omega⟩
 rw [hn] at hsb
 change Sem.run P (α := Value) (do
   let some t := ps[0]? | stuck "slices.overlaps: no parameter types"
   let .slice elem ← underlying t | stuck "slices.overlaps: slice type expected"
   let size ← sizeOf elem
   match A, (some B : Option Addr) with
   | some a, some b =>
     if la = 0 ∨ lb = 0 ∨ size = 0 then pure (Value.bool false)
     else if a.block != b.block && (← frozen a) && (← frozen b) then unsupported .addressObserved
     else do
       if a.block != b.block then do
         noView a; noView b
         if ← mayBeOne a b then return Value.bool ((← choose (.extern "sameAddr.stringBytes" 2)) == 1)
       pure (Value.bool (a.block == b.block && a.off < b.off + lb * size && b.off < a.off + la * size))
   | _, _ => pure (Value.bool false)) w = _
 rcases hA with rfl | ⟨a, c2, t2, fr, rfl, hne, ha, hc2⟩
 · cases A <;> simp [hp, run_underlying ht, sizeOf, typeInfo, hi]
 · have hnb : (a.block != B.block) = true := by simpa using hne
   have hnb' : (a.block == B.block) = false := by simpa using hne
   obtain ⟨n2, hn2⟩ : ∃ n, c2.size = n + 1 := ⟨c2.size - 1, by omega⟩
   have hsa : w.shape? a.block = some (t2, n2 + 1) := by simp [World.shape?, ha, hn2]
   by_cases h0 : la = 0 ∨ lb = 0 ∨ i.size = 0
   · simp [hp, run_underlying ht, sizeOf, typeInfo, hi, h0]
   · cases hfa : w.frozen? a <;> cases hfe : w.frozen? { block := a.block, off := n2 + 1 } <;>
       simp [hp, run_underlying ht, sizeOf, typeInfo, hi, h0, hnb, hnb', frozen, noView, viewAt, mayBeOne, stringish, shape, Sem.run, hsa, hsb, hfa, hfe, hfb, hfb']
theorem Zzd {f : FuncId} {fs : List (Option α)} {off len s : Nat} {vs : List α} {ps rs : Array TypeId} {ty : Array TypeId} (hT : TE P t e dk bytes) (hp : ps[0]? = some t) (he : Ext P f (Extern.SlicesOverlaps.overlaps ps rs)) (hfs : 0 < fs.length) (hop : o.op = .call { callee := .value (.func f), args := #[x, y], argTypes := ty }) (hd : o.dst = some d)
   (hx : Opd uses x (dk.sl.pd vs)) (hy : Opd uses y (Zl2 dk e j off len)) (hs : Opd uses (.tmp s) (pOwn dk e j c fs)) : OB P N o uses [(d, Zba false)] [] :=
 Zb8 hd fun a g hh => by
   obtain ⟨A, c2, hx1, hx2, hx3, hxr⟩ := Zn1 (hx a g hh)
   obtain ⟨b, cap, cur, hyv, hO, hcap⟩ := hy a g hh
   obtain ⟨b', cap', cur', hsv, hO', _⟩ := hs a g hh
   obtain ⟨rfl, rfl, rfl⟩ := hO.same hO' hT.sz
   obtain ⟨i, zz, hi, hz, hsz, hby, hzs⟩ := hT.info
   have hl := hO'.len
   have hcs : cur'.size ≠ 0 := by rw [hO'.sz]; exact Nat.mul_ne_zero (by omega) (Nat.ne_of_gt hT.sz)
   have hr : (Extern.SlicesOverlaps.overlaps ps rs #[a.eval x, a.eval y]).run P g.w = .ok (.bool false) g.w := by
     rw [hx1, hyv]
     have hblk : (if cap' = off then (⟨b', 0, none⟩ : Addr) else ⟨b', off * dk.sz, none⟩).block = b' := by split <;> rfl
     refine Zyf hp hT.und hi ?_ (by rw [hblk]; exact hO'.heap) hcs
     rw [hblk]
     rcases hxr with rfl | ⟨b2, o2, news, rfl, hnl, hnc, hnk⟩
     · exact .inl rfl
     · rcases Nat.eq_zero_or_pos vs.length with h0 | hpos
       · exact .inl h0
       · right
         have h1 : 0 < news.length := by rw [hnl]; exact Nat.mul_pos hpos hT.sz
         obtain ⟨hpr, hcell⟩ := hnc 0 _ (List.getElem?_eq_getElem h1)
         have hne : b2 ≠ b' := fun h => hO'.npr _ (by rw [← h]; exact hpr)
         obtain ⟨cc, tt, fr, hh2, hcs2⟩ : ∃ cc tt fr, g.w.heap[b2]? = some (.cells cc tt fr) ∧ cc.size ≠ 0 := by
           cases hob : g.w.heap[b2]? with
           | none => simp [World.cell?, hob] at hcell
           | some ob => cases ob with
             | cells cc tt fr =>
               refine ⟨cc, tt, fr, rfl, fun h0 => ?_⟩
               have : cc = #[] := Array.eq_empty_of_size_eq_zero h0
               subst this
               simp [World.cell?, hob] at hcell
             | _ => simp [World.cell?, hob] at hcell
         exact ⟨⟨b2, o2, none⟩, cc, tt, fr, rfl, hne, hh2, hcs2⟩
   exact ⟨.bool false, by simp [execOp, hop, resolve, Zrl, Deferred.ofValue, invoke, Z0k he, hr], Zer _ g⟩
def Zwz (dk : Kd α) (e : TypeId) (xs : List α) (g : G) (v : Value) (D : Nat → Prop) : Prop :=
 (xs = [] ∧ ∃ A, v = .slice A 0 0) ∨ ∃ b cap cur, v = .slice (some ⟨b, 0, none⟩) xs.length cap ∧ D b ∧ b < g.w.heap.size ∧ g.w.heap[b]? = some (.cells cur e (0, 0)) ∧ xs.length ≤ cap ∧ cap ≤ maxLen ∧ cur.size = cap * dk.sz ∧ (∀ (i : Nat) (x : α), xs[i]? = some x → dk.K g x (seg cur.toList (i * dk.sz) dk.sz)) ∧ ∀ o, ¬ g.pr b o
def pArr (dk : Kd α) (e : TypeId) (j : Nat) (xs : List α) : Pd := ⟨fun g u => (xs = [] ∧ ∃ A, u = .slice A 0 0) ∨ ∃ b cap cur, u = .slice (some ⟨b, 0, none⟩) xs.length cap ∧ OwnAt dk e (j + 1) (xs.map some) g b cap cur, [j + 1], fun s hd h => h.imp id fun ⟨b, cap, cur, e, h⟩ => ⟨b, cap, cur, e, h.st s (hd _ (by simp)) (by omega)⟩⟩
def Zuo (P : Program) (f : FuncId) (A : List Pd) (dk : Kd α) (e : TypeId) (xs : List α) : Prop := ∀ (g : G) (args : List Value), ArgsOk A g args →
 Calls P f args.toArray g.w (fun en w' => ∃ g' v, en = .returned v ∧ w' = g'.w ∧ Z0x (fun _ => False) g g' ∧ Zwz dk e xs g' v (fun b => g.w.heap.size ≤ b))
def Zw1 (P : Program) (f : FuncId) (dk : Kd α) (e : TypeId) (xs : List α) (A : List Pd) (q : Pd) : Prop := ∀ (g : G) (v : Value) (D : Nat → Prop) (args : List Value), Zwz dk e xs g v D → ArgsOk A g args →
 Calls P f (v :: args).toArray g.w (fun en w' => ∃ g' u, en = .returned u ∧ w' = g'.w ∧ Z0x D g g' ∧ q.p g' u)
open Classical in
theorem Znn {f : FuncId} {xs : List α} {xo : List Operand} {A : List Pd} {ty : Array TypeId} (he : Zl P f) (hok : Zuo P f A dk e xs) (hop : o.op = .call { callee := .value (.func f), args := xo.toArray, argTypes := ty }) (hd : o.dst = some d) (hargs : OpdL uses xo A) : OB P N o uses [(d, pArr dk e j xs)] [j + 1] := by
 intro a g K Q hN hdN hu hK
 have hr : (execOp a.eval o).run P g.w = .ok (.enter f (xo.map a.eval).toArray) g.w := by
   simp [execOp, hop, resolve, Act.eval, Deferred.ofValue, invoke, Zi5 he]
 unfold Oper.wp
 rw [hr]
 show Calls P f _ g.w _
 refine Calls.mono (hok g _ (hargs.ok hu)) ?_
 rintro en w' ⟨g', v, rfl, rfl, hS, hA⟩
 have fin : ∀ (o1 : Nat → Nat), (∀ b, b < g.w.heap.size → o1 b = if g.own b = j + 1 then 0 else g.own b) → (∀ b, g.w.heap.size ≤ b → o1 b = 0 ∨ o1 b = j + 1) → Step [j + 1] g ⟨g'.w, g'.pr, o1, g'.hpr, g'.gl⟩ := fun o1 h1 h2 =>
   ⟨⟨hS.le.size, hS.le.pr, hS.le.cell, hS.le.blk⟩, hS.os, hS.tape, hS.output, fun b hb hn => ⟨(hS.same b hb id).1, (hS.same b hb id).2, by show o1 b = _; rw [h1 b hb, if_neg (by simpa using hn)]⟩,
     fun b k1 k2 => (h2 b k1).imp id (fun h => by show o1 b ∈ _; rw [h]; simp), fun b hb hn => .inl (by show o1 b = 0; rw [h1 b hb, if_pos (by simpa using hn)])⟩
 rcases hA with ⟨rfl, A0, rfl⟩ | ⟨b, cap, cur, rfl, hD, h1, h2, h3, h4, h5, h6, h7⟩
 · refine hK _ ⟨g'.w, g'.pr, fun b => if b < g.w.heap.size then (if g.own b = j + 1 then 0 else g.own b) else 0, g'.hpr, g'.gl⟩ (fin (fun b => if b < g.w.heap.size then (if g.own b = j + 1 then 0 else g.own b) else 0) (fun b hb => if_pos hb) (fun b hb => .inl (if_neg (by omega)))) fun e' he' => ?_
   rw [List.mem_singleton.1 he', hd, Zfe _ (by rw [hN]; exact hdN d hd)]
   exact .inl ⟨rfl, A0, rfl⟩
 · refine hK _ ⟨g'.w, g'.pr, fun c => if c < g.w.heap.size then (if g.own c = j + 1 then 0 else g.own c) else if c = b then j + 1 else 0, g'.hpr, g'.gl⟩ (fin _ (fun b hb => if_pos hb) (fun c hc => by
     show (if c < g.w.heap.size then _ else _) = 0 ∨ _ = j + 1
     rw [if_neg (by omega)]; split <;> simp)) fun e' he' => ?_
   rw [List.mem_singleton.1 he', hd, Zfe _ (by rw [hN]; exact hdN d hd)]
   refine .inr ⟨b, cap, cur, rfl, ⟨h1, ?_, fun b' hb' ho => ?_, h2, by simpa using h3, h4, h5, fun i x hx => ?_, h7⟩⟩
   · show (if b < g.w.heap.size then _ else _) = _
     rw [if_neg (by omega), if_pos rfl]
   · have ho' : (if b' < g.w.heap.size then (if g.own b' = j + 1 then 0 else g.own b') else if b' = b then j + 1 else 0) = j + 1 := ho
     split at ho'
     · split at ho'
       · omega
       · rename_i hne; exact absurd ho' hne
     · split at ho'
       · assumption
       · omega
   · rw [List.getElem?_map] at hx
     obtain ⟨y, hy, he''⟩ := Option.map_eq_some_iff.1 hx
     obtain rfl := Option.some.inj he''
     exact dk.mono (g := g') ⟨Nat.le_refl _, fun _ _ h => h, fun _ _ _ => rfl, fun _ _ => rfl⟩ (h6 i y hy)
theorem Zpd {f : FuncId} {xs : List α} {xo : List Operand} {A : List Pd} {ty : Array TypeId} (he : Zl P f) (hok : Zw1 P f dk e xs A q) (hq : q.fp = []) (hop : o.op = .call { callee := .value (.func f), args := (x :: xo).toArray, argTypes := ty }) (hd : o.dst = some d) (hx : Opd uses x (pArr dk e j xs)) (hargs : OpdL uses xo A) : OB P N o uses [(d, q)] [j + 1] := by
 intro a g K Q hN hdN hu hK
 have hr : (execOp a.eval o).run P g.w = .ok (.enter f (a.eval x :: xo.map a.eval).toArray) g.w := by
   simp [execOp, hop, resolve, Zrl, Deferred.ofValue, invoke, Zi5 he]
 unfold Oper.wp
 rw [hr]
 show Calls P f _ g.w _
 have hA : Zwz dk e xs g (a.eval x) (fun b => g.own b = j + 1) := by
   rcases hx a g hu with h | ⟨b, cap, cur, h1, h2⟩
   · exact .inl h
   · exact .inr ⟨b, cap, cur, h1, h2.own, h2.lt, h2.heap, by simpa using h2.len, h2.max, h2.sz, fun i x hx => h2.known i x (by rw [List.getElem?_map, hx]; rfl), h2.npr⟩
 refine Calls.mono (hok g _ _ _ hA (hargs.ok hu)) ?_
 rintro en w' ⟨g', v, rfl, rfl, hS, hqv⟩
 let g2 : G := ⟨g'.w, g'.pr, fun c => if c < g.w.heap.size then g.own c else 0, g'.hpr, g'.gl⟩
 have hle : g'.le g2 := ⟨Nat.le_refl _, fun _ _ h => h, fun _ _ _ => rfl, fun _ _ => rfl⟩
 have hown : ∀ c, g2.own c = if c < g.w.heap.size then g.own c else 0 := fun _ => rfl
 refine hK v g2 ⟨⟨hS.le.size, hS.le.pr, hS.le.cell, hS.le.blk⟩, hS.os, hS.tape, hS.output, fun c hc hn => ?_, fun c k1 k2 => .inl ?_, fun c hc hn => .inr ?_⟩ fun e' he' => ?_
 · obtain ⟨k1, k2⟩ := hS.same c hc (by simpa using hn)
   exact ⟨k1, k2, by rw [hown, if_pos hc]⟩
 · rw [hown, if_neg (by omega)]
 · rw [hown, if_pos hc]; exact hn
 · rw [List.mem_singleton.1 he', hd, Zfe _ (by rw [hN]; exact hdN d hd)]
   exact Pd.le hq hle rfl rfl rfl hqv
def Zsz (dk : Kd α) (e : TypeId) (xs : List α) (g0 : G) (v : Value) (g1 : G) : Prop := Base g0 g1 ∧ Zwz dk e xs g1 v (fun b => g0.w.heap.size ≤ b)
theorem Z05 {f : FuncId} {fn : Func} {cd : Code} {A : List Pd} {xs : List α} (hf : P.funcs[f]? = some fn) (hb : fn.body = some cd) (hn : fn.ntmps = N) (hAN : A.length ≤ N) (hA : Free A)
   (h : ∀ (a : Act) (g : G), (∀ b, g.own b = 0) → St N (Zlb A 0) a g → Base g g → cd.wp P (bodyPost P fn (FinP (Zsz dk e xs g))) a g.w) : Zuo P f A dk e xs := by
 intro g args hargs
 let g0 : G := ⟨g.w, g.pr, fun _ => 0, g.hpr, g.gl⟩
 have hle : g.le g0 := ⟨Nat.le_refl _, fun _ _ h => h, fun _ _ _ => rfl, fun _ _ => rfl⟩
 have hst : St N (Zlb A 0) { tmps := args.toArray ++ Array.replicate (fn.ntmps - args.toArray.size) undef, defers := [] } g0 := by
   refine ⟨?_, rfl, ?_⟩
   · have := hargs.1
     simp [hn]; omega
   · intro e he
     obtain ⟨i, h1, h2⟩ := Zny he
     have hi : i < args.length := by rw [hargs.1]; exact (List.getElem?_eq_some_iff.1 h2).1
     have hv : Act.at { tmps := args.toArray ++ Array.replicate (fn.ntmps - args.toArray.size) undef, defers := [] } e.1 = args[i] := by
       rw [h1, Nat.zero_add]
       simp only [Act.at, Array.getD_eq_getD_getElem?]
       rw [Array.getElem?_append, if_pos (by simpa using hi)]
       simp [hi]
     rw [hv]
     exact Pd.le (hA.at h2) hle rfl rfl rfl (hargs.2 i e.2 _ h2 (List.getElem?_eq_getElem hi))
 have hbase : Base g0 g0 := ⟨.refl _, rfl, rfl, rfl, fun _ _ _ => ⟨rfl, rfl, rfl⟩⟩
 refine Calls.mono (calls_of_wp hf hb (h _ g0 (fun _ => rfl) hst hbase)) ?_
 rintro en w' ⟨g1, v, rfl, rfl, hB, hv⟩
 exact ⟨g1, v, rfl, rfl, ⟨⟨hB.le.size, hB.le.pr, hB.le.cell, hB.le.blk⟩, hB.os, hB.tape, hB.output, fun b hb _ => ⟨(hB.same b hb rfl).1, (hB.same b hb rfl).2.1⟩⟩, hv⟩
theorem Z45 {fn : Func} {r : ResultVar} {v : Value} {xs : List α} {a : Act} {g g0 : G} {L : Zbc} (hr : fn.results = #[r]) (h0 : ∀ b, g0.own b = 0) (h : St N L a g) (hb : Base g0 g) (h1 : Zhv P a g r v) (hq : (pOwn dk e j c (xs.map some)).p g v) : bodyPost P fn (FinP (Zsz dk e xs g0)) .ret a g.w := by
 refine endP hr h h1 ⟨hb, ?_⟩
 obtain ⟨b, cap, cur, e1, hO, _⟩ := hq
 refine .inr ⟨b, cap, cur, by rw [e1]; simp, Nat.le_of_not_lt fun hlt => ?_, hO.lt, hO.heap, by simpa using hO.len, hO.max, hO.sz, fun i x hx => hO.known i x (by rw [List.getElem?_map, hx]; rfl), hO.npr⟩
 have := (hb.same b hlt (h0 b)).2.2
 rw [hO.own] at this; omega
theorem Zy4 {fn : Func} {r : ResultVar} {v : Value} {a : Act} {g g0 : G} {L : Zbc} (hr : fn.results = #[r]) (h : St N L a g) (hb : Base g0 g) (h1 : Zhv P a g r v) (hq : ∃ A, v = .slice A 0 0) : bodyPost P fn (FinP (Zsz dk e [] g0)) .ret a g.w := endP hr h h1 ⟨hb, .inl ⟨rfl, hq⟩⟩
theorem Z79 {xs : List α} {g g0 : G} {b cap : Nat} {cur : Array Value} (hb : Base g0 g) (hO : OwnAt dk e (j + 1) (xs.map some) g b cap cur) : ∃ g', g'.w = g.w ∧ Base g0 g' ∧ (dk.sl.pd xs).p g' (.slice (some ⟨b, 0, none⟩) xs.length cap) := by
 let g' : G := ⟨g.w, fun b' o => g.pr b' o ∨ b' = b, g.own, fun b' o h => h.elim (g.hpr b' o) (fun h => by rw [h]; exact hO.lt), g.gl.le (fun _ _ h => .inl h) (fun _ _ _ => rfl)⟩
 have hle : g.le g' := ⟨Nat.le_refl _, fun _ _ h => .inl h, fun _ _ _ => rfl, fun _ _ => rfl⟩
 have hl := hO.len
 rw [List.length_map] at hl
 have hm := hO.max
 refine ⟨g', rfl, ⟨hb.le.trans hle, hb.os, hb.tape, hb.output, fun c hc h0 => ?_⟩, Kd.sl_V.2 ⟨_, cap, rfl, hl, by simp only [maxLen] at hm; omega, .inr ⟨b, 0, rfl, fun i x hx => ?_⟩⟩⟩
 · obtain ⟨k1, k2, k3⟩ := hb.same c hc h0
   refine ⟨k1, ?_, k3⟩
   have hcb : c ≠ b := fun h => by rw [h, hO.own] at k3; omega
   funext o
   show (g.pr c o ∨ c = b) = _
   rw [← k2]; simp [hcb]
 · refine ⟨_, dk.mono hle (hO.known i x (by rw [List.getElem?_map, hx]; rfl)), fun k u hk => ⟨.inr rfl, ?_⟩⟩
   simp only [seg, List.getElem?_take, List.getElem?_drop] at hk
   split at hk
   · show g.w.cell? _ = _
     simp only [World.cell?, hO.heap]
     simpa using hk
   · cases hk
def Zyv (g0 : G) (q : Pd) (v : Value) (g1 : G) : Prop := Base g0 g1 ∧ q.p g1 v
theorem Zyp {f : FuncId} {fn : Func} {cd : Code} {A : List Pd} {xs : List α} (hf : P.funcs[f]? = some fn) (hb : fn.body = some cd) (hn : fn.ntmps = N) (hAN : A.length + 1 ≤ N) (hA : Free A)
   (h0 : xs = [] → ∀ (a : Act) (g : G) (A0 : Option Addr), St N ((0, pEq (.slice A0 0 0)) :: Zlb A 1) a g → Base g g → cd.wp P (bodyPost P fn (FinP (Zyv g q))) a g.w)
   (h : ∀ (a : Act) (g : G) (cap : Nat), xs.length ≤ cap → cap ≤ maxLen → St N ((0, pOwn dk e 0 (some cap) (xs.map some)) :: Zlb A 1) a g → Base g g → cd.wp P (bodyPost P fn (FinP (Zyv g q))) a g.w) : Zw1 P f dk e xs A q := by
 intro g v D args hv hargs
 have hlen := hargs.1
 have hat : ∀ (i : Nat) (u : Value), (v :: args)[i]? = some u → Act.at { tmps := (v :: args).toArray ++ Array.replicate (fn.ntmps - (v :: args).toArray.size) undef, defers := [] } i = u := fun i u hi => by
   have hlt := (List.getElem?_eq_some_iff.1 hi).1
   simp only [Act.at, Array.getD_eq_getD_getElem?]
   rw [Array.getElem?_append, if_pos (by simpa using hlt)]
   have hi' : ((v :: args).toArray)[i]? = some u := by rw [List.getElem?_toArray]; exact hi
   rw [hi']; rfl
 have hrest : ∀ (g0 : G), g.le g0 → g0.w = g.w → Zea (Zlb A 1) { tmps := (v :: args).toArray ++ Array.replicate (fn.ntmps - (v :: args).toArray.size) undef, defers := [] } g0 := fun g0 hle hw e' he' => by
   obtain ⟨i, e1, e2⟩ := Zny he'
   have hi : i < args.length := by rw [hlen]; exact (List.getElem?_eq_some_iff.1 e2).1
   rw [hat e'.1 args[i] (by rw [e1, Nat.add_comm]; exact List.getElem?_eq_getElem hi)]
   exact Pd.le (hA.at e2) hle (by rw [hw]) (by rw [hw]) (by rw [hw]) (hargs.2 i e'.2 _ e2 (List.getElem?_eq_getElem hi))
 rcases hv with ⟨hx0, A0, rfl⟩ | ⟨b, cap, cur, rfl, hD, h1, h2, h3, h4, h5, h6, h7⟩
 · let g0 : G := ⟨g.w, g.pr, fun _ => 0, g.hpr, g.gl⟩
   have hle : g.le g0 := ⟨Nat.le_refl _, fun _ _ h => h, fun _ _ _ => rfl, fun _ _ => rfl⟩
   refine Calls.mono (calls_of_wp hf hb (h0 hx0 _ g0 A0 ⟨by simp [hn]; omega, rfl, fun e' he' => ?_⟩ ⟨.refl _, rfl, rfl, rfl, fun _ _ _ => ⟨rfl, rfl, rfl⟩⟩)) ?_
   · rcases List.mem_cons.1 he' with rfl | he'
     · exact hat 0 _ rfl
     · exact hrest g0 hle rfl e' he'
   · rintro en w' ⟨g1, u, rfl, rfl, hB, hq⟩
     exact ⟨g1, u, rfl, rfl, ⟨⟨hB.le.size, hB.le.pr, hB.le.cell, hB.le.blk⟩, hB.os, hB.tape, hB.output, fun b hb _ => ⟨(hB.same b hb rfl).1, (hB.same b hb rfl).2.1⟩⟩, hq⟩
 · let g0 : G := ⟨g.w, g.pr, fun c => if c = b then 1 else 0, g.hpr, g.gl⟩
   have hle : g.le g0 := ⟨Nat.le_refl _, fun _ _ h => h, fun _ _ _ => rfl, fun _ _ => rfl⟩
   refine Calls.mono (calls_of_wp hf hb (h _ g0 cap h3 h4 ⟨by simp [hn]; omega, rfl, fun e' he' => ?_⟩ ⟨.refl _, rfl, rfl, rfl, fun _ _ h => ⟨rfl, rfl, h⟩⟩)) ?_
   · rcases List.mem_cons.1 he' with rfl | he'
     · show (pOwn dk e 0 (some cap) (xs.map some)).p g0 _
       rw [hat 0 _ rfl]
       refine ⟨b, cap, cur, by simp, ⟨h1, if_pos rfl, fun b' _ ho => ?_, h2, by simpa using h3, h4, h5, fun i x hx => ?_, h7⟩, fun k hk => Option.some.inj hk⟩
       · have : (if b' = b then 1 else 0) = 1 := ho
         split at this
         · assumption
         · omega
       · rw [List.getElem?_map] at hx
         obtain ⟨y, hy, he''⟩ := Option.map_eq_some_iff.1 hx
         obtain rfl := Option.some.inj he''
         exact dk.mono hle (h6 i y hy)
     · exact hrest g0 hle rfl e' he'
   · rintro en w' ⟨g1, u, rfl, rfl, hB, hq⟩
     refine ⟨g1, u, rfl, rfl, ⟨⟨hB.le.size, hB.le.pr, hB.le.cell, hB.le.blk⟩, hB.os, hB.tape, hB.output, fun c hc hn' => ?_⟩, hq⟩
     have := hB.same c hc (by show (if c = b then 1 else 0) = 0; rw [if_neg (fun h => hn' (by rw [h]; exact hD))])
     exact ⟨this.1, this.2.1⟩
theorem Zo2 {fn : Func} {r : ResultVar} {v : Value} {xs : List α} {a : Act} {g g0 : G} {L : Zbc} (hr : fn.results = #[r]) (h : St N L a g) (hb : Base g0 g) (h1 : Zhv P a g r v) (hq : (pOwn dk e j c (xs.map some)).p g v) : bodyPost P fn (FinP (Zyv g0 (dk.sl.pd xs))) .ret a g.w := by
 obtain ⟨b, cap, cur, e1, hO, _⟩ := hq
 obtain ⟨g', hw, hB, hp⟩ := Z79 hb hO
 refine ⟨h.df, v, ?_, g', v, rfl, hw.symm, hB, by rw [e1, List.length_map]; exact hp⟩
 have h1' : (Zfl a.tmps r).run P g.w = .ok v g.w := h1
 simp [Zhu, hr, h1']
theorem Z3k {A : Option Addr} (hT : TE P t e dk bytes) (hop : o.op = .slice t x (some y) none none) (hx : Opd uses x (pEq (.slice A 0 0))) (hy : Opd uses y (pInt .i64 0)) : OB P N o uses [] [] := by
 intro a g K Q hN hdN hu hK
 have hv : a.eval x = .slice A 0 0 := hx a g hu
 obtain ⟨i, zz, hi, hz, hsz, hby, hzs⟩ := hT.info
 have hb : ∀ w cd, (Instr.sliceBound (a.eval y) 0 cd).run P w = .ok 0 w := fun w cd => Zin (Zc2.1 (hy a g hu)) (Nat.le_refl _)
 have hr : ∃ v, (execOp a.eval o).run P g.w = .ok (.value v) g.w := by
   simp [execOp, hop, hv, Instr.sliceAt, Instr.slice, Instr.sliceBounds, run_underlying hT.und, hb, sizeOf, typeInfo, hi]
 obtain ⟨v, hr⟩ := hr
 unfold Oper.wp
 rw [hr]
 exact hK v g (.refl _ _) (fun e he => by cases he)
theorem Z6g {A : Option Addr} {t : TypeId} (ht : P.underlying t = some (.slice e)) (hop : o.op = .call { callee := .builtin .len, args := #[x], argTypes := #[t] }) (hd : o.dst = some d) (hx : Opd uses x (pEq (.slice A 0 0))) : OB P N o uses [(d, pInt .i64 0)] [] :=
 Zb8 hd fun a g hh => by
   have hv : a.eval x = .slice A 0 0 := hx a g hh
   exact ⟨.int .i64 0, by simp [execOp, hop, resolve, invoke, builtin, hv, Builtin.len_, run_underlying ht, goInt], Zg7 _ _ g⟩
theorem Z1m {A : Option Addr} {vs : List α} (hT : TE P t e dk bytes) (hop : o.op = .call { callee := .builtin .append, args := #[x, y], argTypes := #[t, t] }) (hd : o.dst = some d) (hx : Opd uses x (pEq (.slice A 0 0))) (hy : Opd uses y (dk.sl.pd vs)) (hpos : 0 < vs.length) (hl : vs.length * bytes ≤ 140737488355328) :
   OB P N o uses [(d, pOwn dk e j none (vs.map some))] [j + 1] :=
 Zhb hd fun a g hh => by
   have hv : a.eval x = .slice A 0 0 := hx a g hh
   obtain ⟨A2, c2, hy1, hy2, hy3, hyr⟩ := Zn1 (hy a g hh)
   obtain ⟨i, zz, hi, hz, hsz, hby, hzs⟩ := hT.info
   have hlen : vs.length ≤ 140737488355328 := Nat.le_trans (Nat.le_mul_of_pos_right _ hT.by0) hl
   obtain ⟨b2, o2, news, rfl, hnl, hnc, hnk⟩ := hyr.resolve_left (fun h => by rw [h] at hpos; simp at hpos)
   have hnl' : news.length = vs.length * i.size := by rw [hsz]; exact hnl
   have hnews : ∀ k u, news[k]? = some u → g.w.cell? ((⟨b2, o2, none⟩ : Addr).add k) = some u := fun k u hu => by rw [Zdc]; exact (hnc k u hu).2
   have hge := grownCap_ge g.w vs.length 0 e
   have hmx := grownCap_le_maxLen g.w vs.length 0 e (by simp only [maxLen]; omega)
   have hr : (Builtin.append_ #[t, t] o.type #[.slice A 0 0, .slice (some ⟨b2, o2, none⟩) vs.length c2]).run P g.w = .ok (.slice (some ⟨g.w.heap.size, 0, none⟩) vs.length (grownCap g.w vs.length 0 e)) (g.w.drew.alloc (.cells (news.toArray ++ Builtin.zeroCells zz.cells (grownCap g.w vs.length 0 e - vs.length)) e)) := by
     cases A with
     | none => exact run_append_nil (P := P) g.w t o.type e i zz hT.und hi hz ⟨b2, o2, none⟩ vs.length c2 news hnl' hnews hpos (by omega) (by rw [hby]; omega)
     | some A =>
       have := run_append_grow (P := P) g.w t o.type e i zz hT.und hi hz A 0 0 [] (by simp) (fun j u hu => by simp at hu) ⟨b2, o2, none⟩ vs.length c2 news hnl' hnews (by omega) (by omega) (growslice_fits (by omega) (by rw [hby, Nat.zero_add]; exact hl))
       simpa using this
   obtain ⟨g', hw, hst, hO3⟩ := Zsr (dk := dk) (e := e) (g := g) (j := j + 1) (cur := news.toArray ++ Builtin.zeroCells zz.cells (grownCap g.w vs.length 0 e - vs.length)) (cap := grownCap g.w vs.length 0 e) (fs := vs.map some) (by omega) (by simpa using hge) hmx (by
       simp only [Array.size_append, List.size_toArray, Zks, hzs, hnl, ← Nat.add_mul]
       congr 1; omega) (fun k u hk => by
       rw [List.getElem?_map] at hk
       obtain ⟨u', hu', he'⟩ := Option.map_eq_some_iff.1 hk
       obtain rfl := Option.some.inj he'
       simp only [Array.toList_append]
       rw [Zes (by rw [hnl]; exact Zj6 (List.getElem?_eq_some_iff.1 hu').1)]
       exact hnk _ _ hu')
   refine ⟨_, g', ?_, hst, _, _, _, rfl, hO3, fun k hk => by cases hk⟩
   rw [List.length_map]
   simp [execOp, hop, resolve, invoke, builtin, hv, hy1, hr, hw]
theorem Z0j (xs vs : List α) (k i : Nat) (hk : k ≤ xs.length) : ((xs.take k ++ vs ++ xs.drop k).map some)[i]? = if i < k then (xs[i]?).map some else if i < k + vs.length then (vs[i - k]?).map some else (xs[i - vs.length]?).map some := by
 have h1 : (xs.take k).length = k := by simp; omega
 rw [List.getElem?_map, List.append_assoc, List.getElem?_append, h1]
 by_cases a : i < k
 · rw [if_pos a, if_pos a, List.getElem?_take, if_pos a]
 · rw [if_neg a, if_neg a, List.getElem?_append]
   by_cases b : i < k + vs.length
   · rw [if_pos b, if_pos (by omega)]
   · rw [if_neg b, if_neg (by omega), List.getElem?_drop]
     congr 2; omega
theorem ins1 {xs vs : List α} {k : Nat} (hk : k ≤ xs.length) : over (over ((xs.take k).map some ++ List.replicate (xs.length + vs.length - k) none) k vs) (k + vs.length) (xs.drop k) = (xs.take k ++ vs ++ xs.drop k).map some := by
 have hl : ((xs.take k).map some ++ List.replicate (xs.length + vs.length - k) (none : Option α)).length = xs.length + vs.length := by simp; omega
 apply List.ext_getElem?
 intro i
 rw [Zlh (by rw [Zli (by rw [hl]; omega), hl]; simp; omega), Zlh (by rw [hl]; omega), Z0j xs vs k i hk]
 have hd : (xs.drop k).length = xs.length - k := by simp
 by_cases a : i < k
 · rw [if_pos (by omega), if_pos a, if_pos a, List.getElem?_append_left (by simp; omega), List.getElem?_map, List.getElem?_take, if_pos a]
 · by_cases b : i < k + vs.length
   · rw [if_pos b, if_neg a, if_pos b, if_neg a, if_pos b]
   · rw [if_neg b, if_neg a, if_neg b]
     by_cases c : i < xs.length + vs.length
     · rw [if_pos (by rw [hd]; omega), List.getElem?_drop]
       rw [show k + (i - (k + vs.length)) = i - vs.length by omega, if_neg a, if_neg b]
     · rw [if_neg (by rw [hd]; omega), if_neg a, if_neg b, List.getElem?_eq_none (by rw [hl]; omega), List.getElem?_eq_none (by omega)]; rfl
theorem ins2 {xs vs : List α} {k : Nat} (hk : k ≤ xs.length) : over (over (xs.map some ++ List.replicate (xs.length + vs.length - (xs.map some).length) none) (k + vs.length) (xs.drop k)) k vs = (xs.take k ++ vs ++ xs.drop k).map some := by
 have hl : (xs.map some ++ List.replicate (xs.length + vs.length - (xs.map some).length) (none : Option α)).length = xs.length + vs.length := by simp
 have hd : (xs.drop k).length = xs.length - k := by simp
 apply List.ext_getElem?
 intro i
 rw [Zlh (by rw [Zli (by rw [hl, hd]; omega), hl]; omega), Zlh (by rw [hl, hd]; omega), Z0j xs vs k i hk]
 by_cases a : i < k
 · rw [if_pos a, if_pos (by omega), if_pos a, List.getElem?_append_left (by simp; omega), List.getElem?_map]
 · by_cases b : i < k + vs.length
   · rw [if_neg a, if_pos b, if_neg a, if_pos b]
   · rw [if_neg a, if_neg b, if_neg b, if_neg a, if_neg b]
     by_cases c : i < xs.length + vs.length
     · rw [if_pos (by rw [hd]; omega), List.getElem?_drop]
       rw [show k + (i - (k + vs.length)) = i - vs.length by omega]
     · rw [if_neg (by rw [hd]; omega), List.getElem?_eq_none (by rw [hl]; omega), List.getElem?_eq_none (by omega)]; rfl
theorem Zrg {a b : Nat} (h : a + b ≤ 9223372036854775807) : IntKind.i64.wrap ((a : Int) + (b : Int)) = ((a + b : Nat) : Int) := by rw [Zzs (by omega) (by omega)]; omega
theorem Z8a {x : Nat} {n k : Nat} (hx : x = n) (h : k ≤ n) (hn : n ≤ 9223372036854775807) : IntKind.i64.wrap ((x : Int) - (k : Int)) = ((n - k : Nat) : Int) := by rw [Zzs (by omega) (by omega)]; omega
theorem Ztz (xs : List α) (k : Nat) : ∀ (i : Nat) (x : α), (xs.take k)[i]? = some x → (xs.map some)[i]? = some (some x) := fun i x hx => by
 rw [List.getElem?_take] at hx
 split at hx
 · rw [List.getElem?_map, hx]; rfl
 · cases hx
theorem Z1u (xs : List α) (k : Nat) : ∀ (i : Nat) (x : α), (xs.drop k)[i]? = some x → (xs.map some)[k + i]? = some (some x) := fun i x hx => by
 rw [List.getElem?_drop] at hx
 rw [List.getElem?_map, hx]; rfl
theorem Zl0 {f : FuncId} {C : List Pd} {Ps Qs : List Par} {xs : List Operand} {hs ks : List Home} {ty : Array TypeId} {outs : Zbc} {S : List Nat} (he : Zl P f) (hok : FnB P f (Ps ++ Qs) q) (hop : o.op = .call { callee := .value x, args := xs.toArray, argTypes := ty }) (hd : o.dst = some d) (hq : q.fp = []) (hf : Opd uses x (Zwt f C)) (hx : OpB uses Ps xs hs) (hc : CapB uses C Qs ks)
   (hne : ((hs ++ ks).all fun h => h.1 != d) = true) (hj : (hs.all fun h => ks.all fun k => k.2.2 != h.2.2) = true) (ho : outs = (d, q) :: Zjh (Ps ++ Qs) (hs ++ ks)) (hS : S = SB (hs ++ ks)) : OB P N o uses outs S := by
 subst ho; subst hS; exact Z2r he hok hop hd hq hne hj hf hx hc
def pFun (P : Program) (Φ : FuncId → List Pd → Prop) : Pd := ⟨fun g v => ∃ (f : FuncId) (C : List Pd) (caps : List Value), v = .func (.func f) #[] caps.toArray ∧ Zl P f ∧ Free C ∧ Φ f C ∧ ArgsOk C g caps ∧ (∀ q ∈ C, ∀ (g g' : G) (u : Value), g.le g' → q.p g u → q.p g' u), [], fun s _ ⟨f, C, caps, h1, h2, h3, h4, h5, h6⟩ => ⟨f, C, caps, h1, h2, h3, h4, ⟨h5.1, fun i qi u hq hu => qi.st s (by rw [h3.at hq]; intro j hj; cases hj) (h5.2 i qi u hq hu)⟩, h6⟩⟩
theorem Z01 {Φ : FuncId → List Pd → Prop} {Ps : List Par} {xs : List Operand} {hs : List Home} {ty : Array TypeId} {outs : Zbc} {S : List Nat} (hΦ : ∀ f C, Φ f C → FnB P f (Ps ++ C.map .val) q) (hop : o.op = .call { callee := .value x, args := xs.toArray, argTypes := ty }) (hd : o.dst = some d) (hq : q.fp = []) (hf : Opd uses x (pFun P Φ)) (hx : OpB uses Ps xs hs) (hne : (hs.all fun h => h.1 != d) = true)
   (ho : outs = (d, q) :: Zjh Ps hs) (hS : S = SB hs) : OB P N o uses outs S := by
 subst ho; subst hS
 refine Zsd hq hd (fun h hh => by simpa using List.all_eq_true.1 hne h hh) fun a g hu => ?_
 obtain ⟨f, C, caps, h1, h2, h3, h4, h5, _⟩ := hf a g hu
 refine ⟨f, Ps ++ C.map .val, xs.map a.eval ++ caps, hΦ f C h4, Zog.symm, ?_, ?_⟩
 · simp [execOp, hop, resolve, h1, Deferred.ofValue, invoke, Zi5 h2]
 · have := Zpe (hx.ok hu) (Zvq (a := a) h5) (fun h _ k hk => by cases hk)
   rwa [List.append_nil] at this
def pTab (P : Program) (n : Nat) (Φ : Nat → Option (FuncId → List Pd → Prop)) : Pd := ⟨fun g v => ∃ cs : List Value, v = .agg cs.toArray ∧ cs.length = n ∧ ∀ (k : Nat) (F : FuncId → List Pd → Prop) (u : Value), Φ k = some F → cs[k]? = some u → (pFun P F).p g u, [], fun s hd ⟨cs, h1, h2, h3⟩ => ⟨cs, h1, h2, fun k F u hF hu => (pFun P F).st s (fun j hj => by cases hj) (h3 k F u hF hu)⟩⟩
theorem Zy3 {t e : TypeId} {n : Nat} {i : Int} {Φ : Nat → Option (FuncId → List Pd → Prop)} {F : FuncId → List Pd → Prop} (ht : P.underlying t = some (.array n e)) (hs : (P.info? e).map (·.size) = some 1) (hu : ∃ u, P.underlying e = some u ∧ (match u with | .struct _ | .array _ _ => true | _ => false) = false) (h0 : 0 ≤ i) (hF : Φ i.toNat = some F) (hn : i.toNat < n)
   (hop : o.op = .index t x y) (hd : o.dst = some d) (hx : Opd uses x (pTab P n Φ)) (hy : Opd uses y (pInt .i64 i)) : OB P N o uses [(d, pFun P F)] [] :=
 Zb8 hd fun a g hh => by
   obtain ⟨cs, hv, hl, h3⟩ := hx a g hh
   have hyv := Zc2.1 (hy a g hh)
   have hlt : i.toNat < cs.length := by omega
   obtain ⟨u, hu1, hu2⟩ := hu
   have hag : (isAgg e).run P g.w = .ok false g.w := by
     unfold isAgg
     simp only [Sem.run_bind, run_underlying hu1, Result.andThen_ok]
     cases u <;> first | rfl | simp at hu2
   refine ⟨cs[i.toNat], ?_, h3 i.toNat F _ hF (List.getElem?_eq_getElem hlt)⟩
   have h1 : i < (n : Int) := by omega
   simp [execOp, hop, hv, hyv, Instr.index, asIntOf, run_underlying ht, h0, h1, Zgy hs, part, hag, hlt]
def Kd.fnc : Kd Nat := Kd.scalar (fun f => .func (.func f) #[] #[]) fun _ => rfl
theorem Opd.fncv {f : Nat} : Opd uses (.func f) (Kd.fnc.pd f) := fun _ _ _ => Kd.scalar_V.2 rfl
theorem Z6p {f : Nat} {g : G} {v : Value} (h : (Kd.fnc.pd f).p g v) : (pClo f [] rfl).p g v := by
 obtain ⟨cs, rfl, rfl⟩ := h
 exact ⟨[], rfl, Zd7⟩
theorem Zki {f : Nat} : ∀ q ∈ [Kd.fnc.ptr f], ∀ (g g' : G) (u : Value), g.le g' → q.p g u → q.p g' u := fun q hq g g' u hle h => by
 rw [List.mem_singleton.1 hq] at h ⊢
 obtain ⟨b, o, cs, e, hk, hc⟩ := h
 exact ⟨b, o, cs, e, Kd.fnc.mono hle hk, hc.mono hle⟩
theorem Z7h {Φ : FuncId → List Pd → Prop} {g g' : G} {v : Value} (h : g.le g') (hv : (pFun P Φ).p g v) : (pFun P Φ).p g' v := by
 obtain ⟨f, C, caps, h1, h2, h3, h4, h5, h6⟩ := hv
 exact ⟨f, C, caps, h1, h2, h3, h4, ⟨h5.1, fun i qi u hq hu => h6 qi (List.mem_of_getElem? hq) _ _ _ h (h5.2 i qi u hq hu)⟩, h6⟩
abbrev TabT := Nat → Option (FuncId → List Pd → Prop)
def Kd.tab (P : Program) (n : Nat) (hn : n ≠ 1) : Kd TabT where
 sz := n
 ag := true
 K := fun g Φ cs => cs.length = n ∧ (∀ u ∈ cs, u.oneCell' = true) ∧ ∀ (k : Nat) (F : FuncId → List Pd → Prop) (u : Value), Φ k = some F → cs[k]? = some u → (pFun P F).p g u
 len := fun h => h.1
 one := fun h => h.2.1
 mono := fun hle h => ⟨h.1, h.2.1, fun k F u hF hu => Z7h hle (h.2.2 k F u hF hu)⟩
 nag := fun h => by cases h
theorem Z4w {n : Nat} {hn : n ≠ 1} {Φ : TabT} {g : G} {v : Value} (h : ((Kd.tab P n hn).pd Φ).p g v) : (pTab P n Φ).p g v := by
 obtain ⟨cs, ⟨h1, h2, h3⟩, rfl⟩ := h
 exact ⟨cs, rfl, h1, h3⟩
theorem Zxc {t e : TypeId} {n : Nat} {zero : Value} (hu : P.underlying t = some (.array n e)) (hz : (P.info? t).bind (·.zero) = some zero) (hs : (P.info? e).map (·.size) = some 1) {parts : Array (Nat × Value)} {cells : Array Value}
   (hf : Instr.fill (fun i => some (i * 1, 1)) zero.cells parts.toList = some cells) (w : World) : (Instr.build t parts).run P w = .ok (.agg cells) w := by
 obtain ⟨i, hi, hz⟩ := Option.bind_eq_some_iff.1 hz
 have hf' : Instr.fill (fun i => some (i, 1)) zero.cells parts.toList = some cells := by simpa using hf
 simp [Instr.build, zeroValue, typeInfo, hi, hz, run_underlying hu, Zgy hs, hf']
end
section
variable {P : Program} {N : Nat} {o : Oper} {uses outs : Zbc} {S : List Nat} {d : Nat} {q : Pd} {x y z : Operand}
theorem OB.at (h : ∀ (a : Act) g, Zea uses a g → ∃ uses' : Zbc, Zea uses' a g ∧ OB P N o uses' outs S) : OB P N o uses outs S :=
 fun a g K Q hN hdN hu hK => let ⟨_, h1, h2⟩ := h a g hu; h2 a g K Q hN hdN h1 hK
theorem OB.frame {n : Nat} (h : OB P N o uses outs S) (hq : ∀ j ∈ q.fp, j ∉ S) (hn : o.dst ≠ some n) : OB P N o ((n, q) :: uses) ((n, q) :: outs) S := by
 intro a g K Q hN hdN hu hK
 refine h a g K Q hN hdN (fun e he => hu e (List.mem_cons_of_mem _ he)) fun v g' hs ho => hK v g' hs fun e he => ?_
 rcases List.mem_cons.1 he with rfl | he
 · have := hu (n, q) (List.mem_cons_self ..)
   have h2 := q.st hs hq this
   show q.p g' (Act.at (a.put o.dst v) n)
   rw [Zi6 v hn]; exact h2
 · exact ho e he
def pAt (v : Value) (q : Pd) : Pd := ⟨fun g _ => q.p g v, q.fp, fun s hd h => q.st s hd h⟩
abbrev SlV := Option Addr × Nat × Nat
def slv (s : SlV) : Value := .slice s.1 s.2.1 s.2.2
def Kd.raw : Kd SlV := Kd.scalar slv fun _ => rfl
theorem Z12 {s : SlV} {g : G} {v : Value} : (Kd.raw.pd s).p g v ↔ v = slv s := Kd.scalar_V
variable {α β γ δ ε : Type} {kV : Kd γ} {raw : α → SlV → γ} {lst : α → List β} {dk : Kd β} {di : Kd δ} {dj : Kd ε} {t e j jl : Nat} {xv : α}
end
end Go.CL
namespace Go.CL
open Go
def INF : Nat := 9218868437227405312
def TOP : Nat := 9223372036854775808
def BIN : Nat := 4503599627370496
def rg (b : Nat) : Nat := b % TOP
def isn (b : Nat) : Prop := INF < rg b
instance (b : Nat) : Decidable (isn b) := inferInstanceAs (Decidable (INF < rg b))
def sg (b : Nat) : Int := if TOP ≤ b then -((b - TOP : Nat) : Int) else (b : Int)
def ngb (b : Nat) : Bool := b / TOP % 2 == 1
def Zj2 : Int := Ieee.double.leastPlace
theorem Zu2 (b : Nat) : Ieee.double.read b = if rg b < BIN then .number (ngb b) (rg b) Zj2 else if rg b < INF then .number (ngb b) (BIN + rg b % BIN) (Zj2 + (rg b / BIN - 1 : Nat)) else if rg b = INF then .infinity (ngb b) else .nan (ngb b) (rg b - INF) := rfl
def mg (r : Nat) : Nat := if r < BIN then r else (BIN + r % BIN) * 2 ^ (r / BIN - 1)
theorem Zw4 {r s : Nat} (h : r < s) : mg r < mg s := by
 unfold mg
 have hB : 0 < BIN := by decide
 by_cases hr : r < BIN
 · rw [if_pos hr]
   by_cases hs : s < BIN
   · rw [if_pos hs]; exact h
   · rw [if_neg hs]
     have : 1 ≤ 2 ^ (s / BIN - 1) := Nat.one_le_two_pow
     calc r < BIN := hr
       _ ≤ BIN + s % BIN := Nat.le_add_right _ _
       _ ≤ (BIN + s % BIN) * 2 ^ (s / BIN - 1) := Nat.le_mul_of_pos_right _ this
 · have hs : ¬ s < BIN := by omega
   rw [if_neg hr, if_neg hs]
   have h1 : 1 ≤ r / BIN := (Nat.le_div_iff_mul_le hB).2 (by omega)
   have hq : r / BIN ≤ s / BIN := Nat.div_le_div_right (Nat.le_of_lt h)
   have er := Nat.div_add_mod r BIN
   have es := Nat.div_add_mod s BIN
   have hm : r % BIN < BIN := Nat.mod_lt _ hB
   rcases Nat.lt_or_eq_of_le hq with hlt | heq
   · have h2 : 2 ^ (r / BIN - 1) * 2 ≤ 2 ^ (s / BIN - 1) := by
       rw [← Nat.pow_succ]
       exact Nat.pow_le_pow_right (by decide) (by omega)
     have hp : 0 < 2 ^ (r / BIN - 1) := Nat.two_pow_pos _
     calc (BIN + r % BIN) * 2 ^ (r / BIN - 1) < (BIN + BIN) * 2 ^ (r / BIN - 1) := Nat.mul_lt_mul_of_pos_right (by omega) hp
       _ = BIN * (2 ^ (r / BIN - 1) * 2) := by rw [← Nat.two_mul, Nat.mul_comm (2 ^ (r / BIN - 1)) 2, ← Nat.mul_assoc, Nat.mul_comm BIN 2]
       _ ≤ BIN * 2 ^ (s / BIN - 1) := Nat.mul_le_mul_left _ h2
       _ ≤ (BIN + s % BIN) * 2 ^ (s / BIN - 1) := Nat.mul_le_mul_right _ (Nat.le_add_right _ _)
   · rw [heq]
     rw [heq] at er
     exact Nat.mul_lt_mul_of_pos_right (by omega) (Nat.two_pow_pos _)
theorem Z3j {r s : Nat} : mg r = mg s ↔ r = s := by
 constructor
 · intro h
   rcases Nat.lt_trichotomy r s with hlt | heq | hgt
   · have := Zw4 hlt; omega
   · exact heq
   · have := Zw4 hgt; omega
 · intro h; rw [h]
theorem Zwa {r s : Nat} : mg r < mg s ↔ r < s := by
 constructor
 · intro h
   rcases Nat.lt_trichotomy r s with hlt | heq | hgt
   · exact hlt
   · rw [heq] at h; omega
   · have := Zw4 hgt; omega
 · exact Zw4
def sgn (s : Bool) (n : Nat) : Int := if s then -(n : Int) else n
theorem Z8e {s t : Bool} {m n r q : Nat} (h : m < n ↔ r < q) (h' : n < m ↔ q < r) (h0 : m = 0 ↔ r = 0) (h0' : n = 0 ↔ q = 0) : sgn s m < sgn t n ↔ sgn s r < sgn t q := by
 cases s <;> cases t <;> simp [sgn] <;> omega
theorem Z8q {s t : Bool} {m n r q : Nat} (h : m < n ↔ r < q) (h' : n < m ↔ q < r) (h0 : m = 0 ↔ r = 0) (h0' : n = 0 ↔ q = 0) : sgn s m = sgn t n ↔ sgn s r = sgn t q := by
 cases s <;> cases t <;> simp [sgn] <;> omega
theorem Z8n (a b : Int) : compare a b = .lt ↔ a < b := by
 simp only [compare, compareOfLessAndEq]
 split
 · simp [*]
 · split <;> simp [*]
theorem Z86 (a b : Int) : compare a b = .eq ↔ a = b := by
 simp only [compare, compareOfLessAndEq]
 split
 · rename_i h; simp; omega
 · split <;> simp [*]
theorem Z5r {b : Nat} (h : b < 18446744073709551616) : sg b = sgn (ngb b) (rg b) := by
 unfold sg sgn ngb rg TOP
 split
 · rename_i h1
   have e1 : b / 9223372036854775808 = 1 := by omega
   have e2 : b % 9223372036854775808 = b - 9223372036854775808 := by omega
   simp [e1, e2]
 · have e1 : b / 9223372036854775808 = 0 := by omega
   have e2 : b % 9223372036854775808 = b := by omega
   simp [e1, e2]
def nm (r : Nat) : Nat := if r < BIN then r else BIN + r % BIN
def np (r : Nat) : Nat := if r < BIN then 0 else r / BIN - 1
theorem Z6c (r : Nat) : mg r = nm r * 2 ^ np r := by
 unfold mg nm np
 split <;> simp
theorem Zo8 {b : Nat} (h : rg b < INF) : Ieee.double.read b = .number (ngb b) (nm (rg b)) (Zj2 + (np (rg b) : Nat)) := by
 rw [Zu2]
 unfold nm np
 split
 · simp
 · simp [h]
theorem Z19 (s t : Bool) (r q : Nat) : ∃ o, Ieee.Datum.order (.number s (nm r) (Zj2 + (np r : Nat))) (.number t (nm q) (Zj2 + (np q : Nat))) = some o ∧ (o = .lt ↔ sgn s r < sgn t q) ∧ (o = .eq ↔ sgn s r = sgn t q) := by
 refine ⟨_, rfl, ?_⟩
 have hmin : min (Zj2 + (np r : Nat)) (Zj2 + (np q : Nat)) = Zj2 + (min (np r) (np q) : Nat) := by omega
 have e1 : (Zj2 + (np r : Nat) - min (Zj2 + (np r : Nat)) (Zj2 + (np q : Nat))).toNat = np r - min (np r) (np q) := by rw [hmin]; omega
 have e2 : (Zj2 + (np q : Nat) - min (Zj2 + (np r : Nat)) (Zj2 + (np q : Nat))).toNat = np q - min (np r) (np q) := by rw [hmin]; omega
 have hs : ∀ (s : Bool) (m u : Nat), Ieee.signed s m u = sgn s (m * 2 ^ u) := by
   intro s m u
   simp [Ieee.signed, sgn, Nat.shiftLeft_eq]
 rw [e1, e2, hs, hs, Z8n, Z86]
 have hc : 0 < 2 ^ min (np r) (np q) := Nat.two_pow_pos _
 have m1 : nm r * 2 ^ (np r - min (np r) (np q)) * 2 ^ min (np r) (np q) = mg r := by
   rw [Nat.mul_assoc, ← Nat.pow_add, Nat.sub_add_cancel (Nat.min_le_left _ _), Z6c]
 have m2 : nm q * 2 ^ (np q - min (np r) (np q)) * 2 ^ min (np r) (np q) = mg q := by
   rw [Nat.mul_assoc, ← Nat.pow_add, Nat.sub_add_cancel (Nat.min_le_right _ _), Z6c]
 have k1 : nm r * 2 ^ (np r - min (np r) (np q)) < nm q * 2 ^ (np q - min (np r) (np q)) ↔ r < q := by
   rw [← Zwa (r := r) (s := q), ← m1, ← m2]
   exact (Nat.mul_lt_mul_right hc).symm
 have k2 : nm q * 2 ^ (np q - min (np r) (np q)) < nm r * 2 ^ (np r - min (np r) (np q)) ↔ q < r := by
   rw [← Zwa (r := q) (s := r), ← m1, ← m2]
   exact (Nat.mul_lt_mul_right hc).symm
 have z0 : mg 0 = 0 := rfl
 have k3 : nm r * 2 ^ (np r - min (np r) (np q)) = 0 ↔ r = 0 := by
   have hz : r = 0 ↔ mg r = 0 := (Z3j (r := r) (s := 0)).symm
   rw [hz, ← m1]
   constructor
   · intro h; rw [h, Nat.zero_mul]
   · intro h; exact (Nat.mul_eq_zero.1 h).resolve_right (by omega)
 have k4 : nm q * 2 ^ (np q - min (np r) (np q)) = 0 ↔ q = 0 := by
   have hz : q = 0 ↔ mg q = 0 := (Z3j (r := q) (s := 0)).symm
   rw [hz, ← m2]
   constructor
   · intro h; rw [h, Nat.zero_mul]
   · intro h; exact (Nat.mul_eq_zero.1 h).resolve_right (by omega)
 exact ⟨Z8e k1 k2 k3 k4, Z8q k1 k2 k3 k4⟩
theorem Zpp {a b : Nat} (ha : a < 18446744073709551616) (hb : b < 18446744073709551616) (na : ¬ isn a) (nb : ¬ isn b) : ∃ o, Ieee.double.order a b = some o ∧ (o = .lt ↔ sg a < sg b) ∧ (o = .eq ↔ sg a = sg b) := by
 rw [Z5r ha, Z5r hb]
 unfold isn at na nb
 have hI : INF = 9218868437227405312 := rfl
 have rd : ∀ x, ¬ INF < rg x → rg x < INF ∨ rg x = INF := fun x h => by omega
 have ri : ∀ x, rg x = INF → Ieee.double.read x = .infinity (ngb x) := fun x h => by
   rw [Zu2, if_neg (by rw [h]; decide), if_neg (by rw [h]; decide), if_pos h]
 unfold Ieee.Format.order
 rcases rd a na with h1 | h1 <;> rcases rd b nb with h2 | h2
 · rw [Zo8 h1, Zo8 h2]; exact Z19 _ _ _ _
 · rw [Zo8 h1, ri b h2]
   refine ⟨_, rfl, ?_⟩
   rw [h2]
   cases ngb a <;> cases ngb b <;> simp [sgn] <;> omega
 · rw [ri a h1, Zo8 h2]
   refine ⟨_, rfl, ?_⟩
   rw [h1]
   cases ngb a <;> cases ngb b <;> simp [sgn] <;> omega
 · rw [ri a h1, ri b h2]
   refine ⟨_, rfl, ?_⟩
   rw [h1, h2]
   cases ngb a <;> cases ngb b <;> simp [sgn] <;> first | decide | omega
theorem Zvk {a b : Nat} (h : isn a ∨ isn b) : Ieee.double.order a b = none := by
 have rn : ∀ x, isn x → ∃ s f, Ieee.double.read x = .nan s f := fun x h => by
   refine ⟨ngb x, rg x - INF, ?_⟩
   unfold isn at h
   have hI : INF = 9218868437227405312 := rfl
   have hB : BIN = 4503599627370496 := rfl
   rw [Zu2, if_neg (by omega), if_neg (by omega), if_neg (by omega)]
 unfold Ieee.Format.order
 rcases h with h | h
 · obtain ⟨s, f, e⟩ := rn a h
   rw [e]; rfl
 · obtain ⟨s, f, e⟩ := rn b h
   rw [e]
   cases Ieee.double.read a <;> rfl
end Go.CL
namespace Go.CL
open Go Go.RowKit
def fadd (m n : Nat) : Nat := (Ieee.double.add m n).getD 9221120237041090561
def fmul (m n : Nat) : Nat := (Ieee.double.mul m n).getD 9221120237041090561
theorem Z38 {b : Nat} (h : isn b) : fneq b b = true := by
 unfold fneq
 show (Ieee.double.order b b != some .eq) = true
 rw [Zvk (.inl h)]; rfl
section
variable {P : Program} {N : Nat} {o : Oper} {uses : Zbc} {d : Nat} {q : Pd} {x y z : Operand}
def Zw5 (z : Nat) : Pd := ⟨fun g v => ∃ r, v = .float .f64 r ∧ (r = z ∨ (fneq r r = true ∧ fneq z z = true)), [], fun _ _ h => h⟩
theorem Zyl {op : BinOp} {f : Nat → Nat → Option Nat} {t ty : TypeId} {m n : Nat} (hop : o.op = .binOp op t x y ty) (hd : o.dst = some d) (hx : Opd uses x (pFlt m)) (hy : Opd uses y (pFlt n))
   (h : ∀ w, (binOp op t (.float .f64 m) (.float .f64 n)).run P w = (match f m n with | some r => .ok (.float .f64 r) w | none => ((choose (.nanBits .f64 m n)).run P w).andThen fun r w' => .ok (.float .f64 r) w')) : OB P N o uses [(d, Zw5 ((f m n).getD 9221120237041090561))] [] :=
 Zhb hd fun a g hh => by
   have h1 := Zix.1 (hx a g hh)
   have h2 := Zix.1 (hy a g hh)
   have hg : (eqGuard op t x y (.float .f64 m) (.float .f64 n)).run P g.w = .ok () g.w := by
     unfold eqGuard
     split <;> rfl
   cases hf : f m n with
   | some r =>
     refine ⟨.float .f64 r, g, ?_, .refl _ _, r, rfl, .inl (by simp)⟩
     have := h g.w
     rw [hf] at this
     simp [execOp, hop, h1, h2, hg, this]
   | none =>
     have := h g.w
     rw [hf] at this
     have hc : (choose (.nanBits .f64 m n)).run P g.w = .ok ((Question.nanBits .f64 m n).cut (g.w.tape g.w.drawn (Question.nanBits .f64 m n))) g.w.drew := by
       simp [Question.forced]
     refine ⟨.float .f64 ((Question.nanBits .f64 m n).cut (g.w.tape g.w.drawn (Question.nanBits .f64 m n))), g.drew, ?_, Step.drew g, _, rfl, .inr ⟨Z38 ?_, by decide +kernel⟩⟩
     · simp only [hc, Result.andThen_ok] at this
       simp [execOp, hop, h1, h2, hg, this]; rfl
     · unfold isn rg INF TOP
       generalize g.w.tape g.w.drawn (Question.nanBits .f64 m n) = u
       simp only [Question.cut]
       have hv := Nat.mod_lt (u / 2) (show 0 < 2 ^ 52 - 1 by decide)
       generalize u / 2 % (2 ^ 52 - 1) = v at hv
       rcases Nat.mod_two_eq_zero_or_one u with h | h <;> rw [h] <;> omega
theorem Z4z {t ty : TypeId} {m n : Nat} (hop : o.op = .binOp .add t x y ty) (hd : o.dst = some d) (hx : Opd uses x (pFlt m)) (hy : Opd uses y (pFlt n)) : OB P N o uses [(d, Zw5 (fadd m n))] [] :=
 Zyl hop hd hx hy fun w => by
   cases h : Ieee.double.add m n <;> simp [binOp, Op.floatArith, FloatKind.format, h]
theorem Z4q {t ty : TypeId} {m n : Nat} (hop : o.op = .binOp .mul t x y ty) (hd : o.dst = some d) (hx : Opd uses x (pFlt m)) (hy : Opd uses y (pFlt n)) : OB P N o uses [(d, Zw5 (fmul m n))] [] :=
 Zyl hop hd hx hy fun w => by
   cases h : Ieee.double.mul m n <;> simp [binOp, Op.floatArith, FloatKind.format, h]
theorem Zx7 {β : Type} {f : FuncId} {F : Nat → Option β} {q : β → Pd} (hF : ∀ r z, fneq r r = true → fneq z z = true → F r = F z) (hok : ∀ z r, F z = some r → FnOk P f [pFlt z] (q r)) {z : Nat} {r : β} (h : F z = some r) : FnOk P f [Zw5 z] (q r) := by
 intro g args hargs
 obtain ⟨r', hv, hr⟩ := hargs.2 0 _ _ rfl (List.getElem?_eq_getElem (by rw [hargs.1]; exact Nat.zero_lt_one))
 have h' : F r' = some r := by
   rcases hr with rfl | ⟨h1, h2⟩
   · exact h
   · rw [hF r' z h1 h2]; exact h
 refine hok r' r h' g args ⟨hargs.1, fun i qi u h1 h2 => ?_⟩
 match i, h1 with
 | 0, h1 =>
   simp at h1; subst h1
   have hl : 0 < args.length := by rw [hargs.1]; exact Nat.zero_lt_one
   rw [List.getElem?_eq_getElem hl] at h2
   have := Option.some.inj h2
   exact Zix.2 (by rw [← this]; exact hv)
end
end Go.CL
namespace Go.CL
def Zya {ε β : Type} (o : Option ε) (f : ε → Option β) (g : Option β) : Option β := match o with | some e => f e | none => g
theorem Z47 {ε β : Type} {o : Option ε} {f : ε → Option β} {g : Option β} {r : β} (h : Zya o f g = some r) : (∃ e, o = some e ∧ f e = some r) ∨ (o = none ∧ g = some r) := by
 cases o with
 | none => exact .inr ⟨rfl, h⟩
 | some e => exact .inl ⟨e, rfl, h⟩
structure Zi where
 Score : Nat
 Name : ByteArray
 deriving Inhabited
structure Zd where
 Kind : Int
 Num : Int
 Low : Int
 High : Int
 Real : Nat
 Cap : Int
 Text : ByteArray
 List : List Zi
 deriving Inhabited
inductive shelf_nodeT where
 | nil
 | node (key : ByteArray) (rec_ : Zd) (left : shelf_nodeT) (right : shelf_nodeT) (size : Int)
 deriving Inhabited
structure shelf_node where
 key : ByteArray
 rec_ : Zd
 left : shelf_nodeT
 right : shelf_nodeT
 size : Int
 deriving Inhabited
def shelf_nodeT.un : shelf_nodeT → Option shelf_node
 | .nil => none
 | .node x0 x1 x2 x3 x4 => some ⟨x0, x1, x2, x3, x4⟩
def shelf_node.up (x : shelf_node) : shelf_nodeT := .node x.key x.rec_ x.left x.right x.size
def shelf_nodeT.isNil : shelf_nodeT → Bool
 | .nil => true
 | .node .. => false
def shelf_nodeT.hh : shelf_nodeT → Nat
 | .nil => 0
 | .node x0 x1 x2 x3 x4 => max x2.hh x3.hh + 1
structure Zn where
 top : shelf_nodeT
 room : Int
 deriving Inhabited
structure Zb3 where
 text : Bool
 num : Bool
 bounds : Bool
 real : Bool
 list : Bool
 deriving Inhabited
structure Zc5 where
 word : ByteArray
 on : Int
 has : ByteArray
 deriving Inhabited
structure Zm where
 Kind : Int
 Key : ByteArray
 N : Int
 X : Nat
 S : ByteArray
 Make : Zd
 Must : Bool
 deriving Inhabited
structure Zh where
 Code : Int
 Num : Int
 Rec : Zd
 deriving Inhabited
structure Zbk where
 Acts : List Zm
 deriving Inhabited
structure Zdk where
 code : Int
 at_ : Int
 deriving Inhabited
structure Z7 where
 Code : Int
 At : Int
 Answers : List Zh
 deriving Inhabited
structure Z6 where
 Key : ByteArray
 Rec : Zd
 deriving Inhabited
structure Zs where
 L : List Z6
 Room : Int
 deriving Inhabited
def g_0 : List Zc5 := [{ word := ⟨#[]⟩, on := (0), has := ⟨#[]⟩ },
 { word := ⟨#[110, 101, 119]⟩, on := (0), has := ⟨#[109]⟩ },
 { word := ⟨#[100, 114, 111, 112]⟩, on := (0), has := ⟨#[]⟩ },
 { word := ⟨#[105, 115]⟩, on := (0), has := ⟨#[]⟩ },
 { word := ⟨#[108, 111, 111, 107]⟩, on := (0), has := ⟨#[]⟩ },
 { word := ⟨#[112, 117, 116]⟩, on := (1), has := ⟨#[115]⟩ },
 { word := ⟨#[115, 119, 97, 112]⟩, on := (1), has := ⟨#[115]⟩ },
 { word := ⟨#[97, 100, 100]⟩, on := (2), has := ⟨#[110]⟩ },
 { word := ⟨#[112, 108, 117, 115]⟩, on := (3), has := ⟨#[110]⟩ },
 { word := ⟨#[114, 101, 97, 99, 104]⟩, on := (3), has := ⟨#[110]⟩ },
 { word := ⟨#[105, 110]⟩, on := (4), has := ⟨#[110]⟩ },
 { word := ⟨#[111, 117, 116]⟩, on := (4), has := ⟨#[110]⟩ },
 { word := ⟨#[101, 110, 111, 117, 103, 104]⟩, on := (4), has := ⟨#[110]⟩ },
 { word := ⟨#[114, 97, 105, 115, 101]⟩, on := (5), has := ⟨#[120]⟩ },
 { word := ⟨#[108, 111, 119, 101, 114]⟩, on := (6), has := ⟨#[120]⟩ },
 { word := ⟨#[115, 104, 105, 102, 116]⟩, on := (7), has := ⟨#[120]⟩ },
 { word := ⟨#[115, 99, 97, 108, 101]⟩, on := (7), has := ⟨#[120]⟩ },
 { word := ⟨#[102, 105, 120]⟩, on := (7), has := ⟨#[120]⟩ },
 { word := ⟨#[106, 111, 105, 110]⟩, on := (8), has := ⟨#[115]⟩ },
 { word := ⟨#[108, 101, 97, 118, 101]⟩, on := (8), has := ⟨#[115]⟩ },
 { word := ⟨#[104, 97, 115]⟩, on := (8), has := ⟨#[115]⟩ },
 { word := ⟨#[111, 102, 102, 101, 114]⟩, on := (9), has := ⟨#[120, 115]⟩ }]
def Zce (a0 : shelf_nodeT) : Option (Int) := (if a0.isNil then (some (0 : Int)) else ((a0.un).bind fun n2 => (some n2.size)))
def Zdt (a0 : Zn) : Option (Int) := ((Zce a0.top).bind fun r1 => (some r1))
def Zby (a0 : List Zi) : Option (List Zi) := if a0.length * 24 ≤ 140737488355328 then some a0 else none
def Zfc (a0 : Zd) : Option (Zd) := ((Zby a0.List).bind fun r1 => (some ({ a0 with List := r1 })))
def Zg0 (x1 : Zd) (kk : (Zd) → (shelf_nodeT) → Option ((Zd × Bool) ⊕ (Zd))) (j10 : shelf_nodeT) : Option ((Zd × Bool) ⊕ (Zd)) := (kk x1 j10)
def Zdu (a1 : ByteArray) : Nat → (Zd) → (shelf_nodeT) → Option ((Zd × Bool) ⊕ (Zd))
 | 0, _, _ => none
 | n + 1, x1, x2 => (if (!x2.isNil) then ((x2.un).bind fun n4 => (if (sLt a1 n4.key) then (Zg0 x1 (Zdu a1 n) n4.left) else (if (!(sLt a1 n4.key || sEq a1 n4.key)) then (Zg0 x1 (Zdu a1 n) n4.right) else ((Zfc n4.rec_).bind fun r8 => (some (.inl (r8, true))))))) else (some (.inr x1)))
def Zfa (a0 : Zn) (a1 : ByteArray) : Option (Zd × Bool) := ((Zdu a1 (a0.top.hh + 1) (default : Zd) a0.top).bind fun z12 => match z12 with | .inl r => some r | .inr y11 => (some (({ Kind := (0 : Int), Num := (0 : Int), Low := (0 : Int), High := (0 : Int), Real := (0 : Nat), Cap := (0 : Int), Text := ByteArray.empty, List := ([] : List Zi) } : Zd), false)))
def Zjl (j11 : Bool) : Option (Zb3) := (if j11 then (some ({ text := false, num := false, bounds := false, real := false, list := true } : Zb3)) else (some ({ text := false, num := false, bounds := false, real := false, list := false } : Zb3)))
def Zh7 (a0 : Int) (j8 : Bool) : Option (Zb3) := (if j8 then (some ({ text := false, num := false, bounds := false, real := true, list := false } : Zb3)) else (if (a0 == (8 : Int)) then (Zjl (a0 == (8 : Int))) else (Zjl (a0 == (9 : Int)))))
def Zjm (a0 : Int) (j3 : Bool) : Option (Zb3) := (if j3 then (some ({ text := false, num := true, bounds := false, real := false, list := false } : Zb3)) else (if (a0 == (4 : Int)) then (some ({ text := false, num := true, bounds := true, real := false, list := false } : Zb3)) else (if (a0 == (5 : Int)) then (Zh7 a0 (a0 == (5 : Int))) else (if (a0 == (6 : Int)) then (Zh7 a0 (a0 == (6 : Int))) else (Zh7 a0 (a0 == (7 : Int)))))))
def Zd6 (a0 : Int) : Option (Zb3) := (if (a0 == (1 : Int)) then (some ({ text := true, num := false, bounds := false, real := false, list := false } : Zb3)) else (if (a0 == (2 : Int)) then (Zjm a0 (a0 == (2 : Int))) else (Zjm a0 (a0 == (3 : Int)))))
def Zpk : Option (Nat) := (some (Int.toNat (9221120237041090561 : Int)))
def Ze8 (a0 : Nat) : Option (Nat) := (if (fneq a0 a0) then ((Zpk).bind fun r2 => (some r2)) else (some a0))
def Zlr (a0 : Nat) : Option (Int) := ((Ze8 a0).bind fun r1 => (if ((bAnd .u64 (r1 : Int) (9223372036854775808 : Int)) != (0 : Int)) then (some (bXor .u64 IntKind.u64.max (r1 : Int))) else (some (bOr .u64 (r1 : Int) (9223372036854775808 : Int)))))
def Ziw (a0 : Nat) (a1 : Nat) : Option (Bool) := ((Zlr a0).bind fun r1 => ((Zlr a1).bind fun r3 => (some (r1 == r3))))
def Znq (a0 : Zd) (a1 : Zb3) : Option (Bool) := ((gd ((((a1.text || (sEq a0.Text (⟨#[]⟩ : ByteArray))) && (a1.num || (a0.Num == (0 : Int)))) && (a1.bounds || ((a0.Low == (0 : Int)) && (a0.High == (0 : Int))))) && (!a1.real)) (Ziw a0.Real (0 : Nat))).bind fun r1 => (some (((((a1.text || (sEq a0.Text (⟨#[]⟩ : ByteArray))) && (a1.num || (a0.Num == (0 : Int)))) && (a1.bounds || ((a0.Low == (0 : Int)) && (a0.High == (0 : Int))))) && (a1.real || r1)) && (a1.list || ((a0.Cap == (0 : Int)) && ((a0.List.length : Int) == (0 : Int)))))))
def Zjg (a0 : Nat) : Option (Bool) := ((Ze8 a0).bind fun r1 => (some ((a0 : Int) == (r1 : Int))))
def Zlg (a0 : Nat) (a1 : Nat) : Option (Bool) := ((Zlr a0).bind fun r1 => ((Zlr a1).bind fun r3 => (some (decide (r1 < r3)))))
def Zi9 (a0 : Zi) (a1 : Zi) : Option (Bool) := ((Ziw a0.Score a1.Score).bind fun r1 => (if (!r1) then ((Zlg a1.Score a0.Score).bind fun r4 => (some r4)) else (some (sLt a0.Name a1.Name))))
def Zfd (a0 : Int) (a1 : List Zi) : Nat → (Int) → Option ((Int) ⊕ (Unit))
 | 0, _ => none
 | n + 1, x1 => (if (decide (x1 < (a1.length : Int))) then ((idx a1 x1).bind fun e3 => (if (decide ((16 : Int) < (e3.Name.size : Int))) then (some (.inl (3 : Int))) else ((gd (a0 == (8 : Int)) (Ziw e3.Score (0 : Nat))).bind fun r6 => ((gd (!((a0 == (8 : Int)) && (!r6))) (Zjg e3.Score)).bind fun r8 => (if (((a0 == (8 : Int)) && (!r6)) || (!r8)) then (some (.inl (4 : Int))) else ((gd ((decide ((0 : Int) < x1)) && (a0 == (8 : Int))) (idx a1 (IntKind.i64.wrap (x1 - (1 : Int))))).bind fun e11 => (if (((decide ((0 : Int) < x1)) && (a0 == (8 : Int))) && (!sLt e11.Name e3.Name)) then (some (.inl (4 : Int))) else ((gd ((decide ((0 : Int) < x1)) && (a0 == (9 : Int))) (idx a1 (IntKind.i64.wrap (x1 - (1 : Int))))).bind fun e14 => ((gd ((decide ((0 : Int) < x1)) && (a0 == (9 : Int))) (Zi9 e14 e3)).bind fun r16 => (if (((decide ((0 : Int) < x1)) && (a0 == (9 : Int))) && (!r16)) then (some (.inl (4 : Int))) else ((Zfd a0 a1 n) (IntKind.i64.wrap (x1 + (1 : Int)))))))))))))) else (some (.inr ())))
def Zm3 (a0 : Int) (a1 : List Zi) : Option (Int) := ((Zfd a0 a1 (Int.toNat ((a1.length : Int) - (0 : Int)) + 1) (0 : Int)).bind fun z19 => match z19 with | .inl r => some r | .inr () => (some (0 : Int)))
def Zd2 (a0 : Zd) : Option (Int) := ((Zd6 a0.Kind).bind fun r1 => (if ((decide (a0.Kind ≤ (0 : Int))) || (decide ((10 : Int) ≤ a0.Kind))) then (some (5 : Int)) else ((Znq a0 r1).bind fun r4 => (if (!r4) then (some (4 : Int)) else (if (decide ((64 : Int) < (a0.Text.size : Int))) then (some (3 : Int)) else (if (r1.bounds && ((((decide (a0.Low < (-2305843009213693952 : Int))) || (decide ((2305843009213693952 : Int) < a0.High))) || (decide (a0.Num < a0.Low))) || (decide (a0.High < a0.Num)))) then (some (1 : Int)) else ((Zjg a0.Real).bind fun r9 => (if (!r9) then (some (4 : Int)) else (if (!r1.list) then (some (0 : Int)) else (if ((decide (a0.Cap < (1 : Int))) || (decide ((32 : Int) < a0.Cap))) then (some (1 : Int)) else (if (decide (a0.Cap < (a0.List.length : Int))) then (some (8 : Int)) else ((Zm3 a0.Kind a0.List).bind fun r15 => (some r15)))))))))))))
def Zdl (a0 : ByteArray) (a1 : Zd) (a2 : shelf_nodeT) (a3 : shelf_nodeT) : Option (shelf_nodeT) := ((Zce a2).bind fun r1 => ((Zce a3).bind fun r3 => (some ({ key := a0, rec_ := a1, left := a2, right := a3, size := (IntKind.i64.wrap ((IntKind.i64.wrap (r1 + r3)) + (1 : Int))) } : shelf_node).up)))
def Zhw (a0 : shelf_nodeT) (a1 : shelf_nodeT) : Option (Bool) := ((Zce a0).bind fun r1 => ((Zce a1).bind fun r3 => (some (decide ((IntKind.i64.wrap ((3 : Int) * (IntKind.i64.wrap (r3 + (1 : Int))))) < (IntKind.i64.wrap (r1 + (1 : Int))))))))
def Zhq (a0 : ByteArray) (a1 : Zd) (a2 : shelf_nodeT) (a3 : shelf_nodeT) : Option (shelf_nodeT) := ((Zhw a3 a2).bind fun r1 => ((gd r1 (a3.un)).bind fun n3 => ((gd r1 (Zce n3.left)).bind fun r5 => ((gd r1 (a3.un)).bind fun n7 => ((gd r1 (Zce n7.right)).bind fun r9 => (if (r1 && (decide ((IntKind.i64.wrap (r5 + (1 : Int))) < (IntKind.i64.wrap ((2 : Int) * (IntKind.i64.wrap (r9 + (1 : Int)))))))) then ((a3.un).bind fun n12 => ((Zdl a0 a1 a2 n12.left).bind fun r14 => ((Zdl n12.key n12.rec_ r14 n12.right).bind fun r16 => (some r16)))) else ((Zhw a3 a2).bind fun r18 => (if r18 then ((a3.un).bind fun n21 => ((n21.left.un).bind fun n23 => ((Zdl a0 a1 a2 n23.left).bind fun r25 => ((Zdl n21.key n21.rec_ n23.right n21.right).bind fun r27 => ((Zdl n23.key n23.rec_ r25 r27).bind fun r29 => (some r29)))))) else ((Zhw a2 a3).bind fun r31 => ((gd r31 (a2.un)).bind fun n33 => ((gd r31 (Zce n33.right)).bind fun r35 => ((gd r31 (a2.un)).bind fun n37 => ((gd r31 (Zce n37.left)).bind fun r39 => (if (r31 && (decide ((IntKind.i64.wrap (r35 + (1 : Int))) < (IntKind.i64.wrap ((2 : Int) * (IntKind.i64.wrap (r39 + (1 : Int)))))))) then ((a2.un).bind fun n42 => ((Zdl a0 a1 n42.right a3).bind fun r44 => ((Zdl n42.key n42.rec_ n42.left r44).bind fun r46 => (some r46)))) else ((Zhw a2 a3).bind fun r48 => (if r48 then ((a2.un).bind fun n51 => ((n51.right.un).bind fun n53 => ((Zdl n51.key n51.rec_ n51.left n53.left).bind fun r55 => ((Zdl a0 a1 n53.right a3).bind fun r57 => ((Zdl n53.key n53.rec_ r55 r57).bind fun r59 => (some r59)))))) else ((Zdl a0 a1 a2 a3).bind fun r61 => (some r61))))))))))))))))))
def Zh1 (self : shelf_nodeT → ByteArray → Zd → Option (shelf_nodeT)) (a0 : shelf_nodeT) (a1 : ByteArray) (a2 : Zd) : Option (shelf_nodeT) := (if a0.isNil then ((Zdl a1 a2 shelf_nodeT.nil shelf_nodeT.nil).bind fun r2 => (some r2)) else ((a0.un).bind fun n4 => (if (sLt a1 n4.key) then ((self n4.left a1 a2).bind fun r7 => ((Zhq n4.key n4.rec_ r7 n4.right).bind fun r9 => (some r9))) else (if (!(sLt a1 n4.key || sEq a1 n4.key)) then ((self n4.right a1 a2).bind fun r12 => ((Zhq n4.key n4.rec_ n4.left r12).bind fun r14 => (some r14))) else ((Zdl a1 a2 n4.left n4.right).bind fun r16 => (some r16))))))
def Zev : Nat → shelf_nodeT → ByteArray → Zd → Option (shelf_nodeT)
 | 0 => fun _ _ _ => none
 | n + 1 => Zh1 (Zev n)
def Zmb (a0 : shelf_nodeT) (a1 : ByteArray) (a2 : Zd) : Option (shelf_nodeT) := Zev (a0.hh + 1) a0 a1 a2
def Zdw (a0 : Zn) (a1 : ByteArray) (a2 : Zd) : Option (Zn × Int) := (if ((sEq a1 (⟨#[]⟩ : ByteArray)) || (decide ((24 : Int) < (a1.size : Int)))) then (some (a0, (1 : Int))) else ((Zd2 a2).bind fun r2 => (if (r2 != (0 : Int)) then (some (a0, r2)) else ((Zfa a0 a1).bind fun r5 => ((gd (!r5.2) (Zdt a0)).bind fun r7 => (if ((!r5.2) && (decide (a0.room ≤ r7))) then (some (a0, (8 : Int))) else ((Zfc a2).bind fun r10 => ((Zmb a0.top a1 r10).bind fun r12 => (some (({ top := r12, room := a0.room } : Zn), (0 : Int)))))))))))
def Zlz (a0 : Int) : Option (Zc5) := (if ((decide (a0 ≤ (0 : Int))) || (decide ((22 : Int) ≤ a0))) then (some ({ word := ByteArray.empty, on := (0 : Int), has := ByteArray.empty } : Zc5)) else ((idx g_0 a0).bind fun e2 => (some e2)))
def Zbm (a0 : List Zi) (a1 : List Zi) (φ2 : Zi → Zi → Option Bool) : Nat → (Int) → Option ((Bool) ⊕ (Unit))
 | 0, _ => none
 | n + 1, x2 => (if (decide (x2 < (a0.length : Int))) then ((idx a0 x2).bind fun e4 => ((idx a1 x2).bind fun e6 => ((φ2 e4 e6).bind fun r8 => (if (!r8) then (some (.inl false)) else ((Zbm a0 a1 φ2 n) (IntKind.i64.wrap (x2 + (1 : Int)))))))) else (some (.inr ())))
def Zb6 (a0 : List Zi) (a1 : List Zi) (φ2 : Zi → Zi → Option Bool) : Option (Bool) := (if ((a0.length : Int) != (a1.length : Int)) then (some false) else ((Zbm a0 a1 φ2 (Int.toNat ((a0.length : Int) - (0 : Int)) + 1) (0 : Int)).bind fun z11 => match z11 with | .inl r => some r | .inr () => (some true)))
def Zii (a0 : Zi) (a1 : Zi) : Option (Bool) := ((gd (sEq a0.Name a1.Name) (Ziw a0.Score a1.Score)).bind fun r1 => (some ((sEq a0.Name a1.Name) && r1)))
def Zll (a0 : Zd) (a1 : Zd) : Option (Bool) := ((gd ((((a0.Kind == a1.Kind) && (a0.Num == a1.Num)) && (a0.Low == a1.Low)) && (a0.High == a1.High)) (Ziw a0.Real a1.Real)).bind fun r1 => ((gd (((((((a0.Kind == a1.Kind) && (a0.Num == a1.Num)) && (a0.Low == a1.Low)) && (a0.High == a1.High)) && r1) && (a0.Cap == a1.Cap)) && (sEq a0.Text a1.Text)) (Zb6 a0.List a1.List (fun y0 y1 => Zii y0 y1))).bind fun r3 => (some ((((((((a0.Kind == a1.Kind) && (a0.Num == a1.Num)) && (a0.Low == a1.Low)) && (a0.High == a1.High)) && r1) && (a0.Cap == a1.Cap)) && (sEq a0.Text a1.Text)) && r3))))
def Zhp (a0 : Zc5) (a1 : Int) : Nat → (Int) → Option ((Bool) ⊕ (Unit))
 | 0, _ => none
 | n + 1, x1 => (if (decide (x1 < (a0.has.size : Int))) then ((sidx a0.has x1).bind fun b3 => (if (b3 == a1) then (some (.inl true)) else ((Zhp a0 a1 n) (IntKind.i64.wrap (x1 + (1 : Int)))))) else (some (.inr ())))
def Zc9 (a0 : Zc5) (a1 : Int) : Option (Bool) := ((Zhp a0 a1 (Int.toNat ((a0.has.size : Int) - (0 : Int)) + 1) (0 : Int)).bind fun z6 => match z6 with | .inl r => some r | .inr () => (some false))
def Zpl (a0 : Zm) (a1 : Zc5) : Option (Bool) := ((Zc9 a1 (110 : Int)).bind fun r1 => ((gd (r1 || (a0.N == (0 : Int))) (Zc9 a1 (120 : Int))).bind fun r3 => ((gd ((r1 || (a0.N == (0 : Int))) && (!r3)) (Ziw a0.X (0 : Nat))).bind fun r5 => ((gd ((r1 || (a0.N == (0 : Int))) && (r3 || r5)) (Zc9 a1 (115 : Int))).bind fun r7 => ((gd (((r1 || (a0.N == (0 : Int))) && (r3 || r5)) && (r7 || (sEq a0.S (⟨#[]⟩ : ByteArray)))) (Zc9 a1 (109 : Int))).bind fun r9 => ((gd ((((r1 || (a0.N == (0 : Int))) && (r3 || r5)) && (r7 || (sEq a0.S (⟨#[]⟩ : ByteArray)))) && (!r9)) (Zll a0.Make ({ Kind := (0 : Int), Num := (0 : Int), Low := (0 : Int), High := (0 : Int), Real := (0 : Nat), Cap := (0 : Int), Text := ByteArray.empty, List := ([] : List Zi) } : Zd))).bind fun r11 => (some ((((r1 || (a0.N == (0 : Int))) && (r3 || r5)) && (r7 || (sEq a0.S (⟨#[]⟩ : ByteArray)))) && (r9 || r11)))))))))
def Zpt (a0 : Zc5) : Option (Int) := (if (a0.on == (1 : Int)) then (some (64 : Int)) else (some (16 : Int)))
def Ze9 (a0 : Zm) : Option (Int) := ((Zlz a0.Kind).bind fun r1 => (if (sEq r1.word (⟨#[]⟩ : ByteArray)) then (some (5 : Int)) else (if ((sEq a0.Key (⟨#[]⟩ : ByteArray)) || (decide ((24 : Int) < (a0.Key.size : Int)))) then (some (1 : Int)) else ((Zpl a0 r1).bind fun r5 => (if (!r5) then (some (4 : Int)) else ((Zpt r1).bind fun r8 => (if (decide (r8 < (a0.S.size : Int))) then (some (3 : Int)) else (if (((a0.Kind == (10 : Int)) || (a0.Kind == (11 : Int))) && ((decide (a0.N < (0 : Int))) || (decide ((2305843009213693952 : Int) < a0.N)))) then (some (1 : Int)) else ((Zjg a0.X).bind fun r12 => (if (!r12) then (some (4 : Int)) else (if (a0.Kind == (1 : Int)) then ((Zd2 a0.Make).bind fun r16 => (some r16)) else (some (0 : Int)))))))))))))
def Zfq (a0 : Int) : Option (Int) := ((Zlz a0).bind fun r1 => (some r1.on))
def Zgn (a0 : Zd) (a1 : Zm) (a2 : Zh) : Option (Int × Zd × Zh) := (some ((0 : Int), ({ a0 with Text := a1.S }), a2))
def Ze4 (a0 : Zd) (a1 : Zm) (a2 : Zh) : Option (Int × Zd × Zh) := ((Zfc a0).bind fun r1 => (some ((0 : Int), ({ a0 with Text := a1.S }), ({ a2 with Rec := r1 }))))
def Zgq (a0 : Zd) (a1 : Zm) (a2 : Zh) : Option (Int × Zd × Zh) := (some ((0 : Int), ({ a0 with Num := (IntKind.i64.wrap (a0.Num + a1.N)) }), a2))
def Zi7 (a0 : Zd) (a1 : Zm) (a2 : Zh) : Option (Int × Zd × Zh) := (if (((decide ((0 : Int) < a1.N)) && (decide ((IntKind.i64.wrap ((9223372036854775807 : Int) - a1.N)) < a0.Num))) || ((decide (a1.N < (0 : Int))) && (decide (a0.Num < (IntKind.i64.wrap ((-9223372036854775808 : Int) - a1.N)))))) then (some ((9 : Int), a0, a2)) else (some ((0 : Int), ({ a0 with Num := (IntKind.i64.wrap (a0.Num + a1.N)) }), a2)))
def Zde (a0 : Zd) (a1 : Zm) (a2 : Zh) : Option (Int × Zd × Zh) := (if (decide (a0.Num < a1.N)) then (some ((11 : Int), a0, a2)) else (some ((0 : Int), a0, a2)))
def Zfr (a0 : Zd) (a1 : Zm) (a2 : Zh) : Option (Int × Zd × Zh) := (if (decide ((IntKind.i64.wrap (a0.High - a0.Num)) < a1.N)) then (some ((9 : Int), a0, a2)) else (some ((0 : Int), ({ a0 with Num := (IntKind.i64.wrap (a0.Num + a1.N)) }), a2)))
def Zfp (a0 : Zd) (a1 : Zm) (a2 : Zh) : Option (Int × Zd × Zh) := (if (decide ((IntKind.i64.wrap (a0.Num - a0.Low)) < a1.N)) then (some ((10 : Int), a0, a2)) else (some ((0 : Int), ({ a0 with Num := (IntKind.i64.wrap (a0.Num - a1.N)) }), a2)))
def Zcu (ψ : Nat → Nat → Option Nat) (a0 : Zd) (a1 : Zm) (a2 : Zh) : Option (Int × Zd × Zh) := (ψ a0.Real a1.X).bind fun z => some ((0 : Int), { a0 with Real := z }, a2)
def Zju (a0 : Nat) (a1 : Nat) : Option (Nat) := ((Zlg a0 a1).bind fun r1 => (if r1 then ((Ze8 a1).bind fun r4 => (some r4)) else ((Ze8 a0).bind fun r6 => (some r6))))
def Zjv (a0 : Nat) (a1 : Nat) : Option (Nat) := ((Zlg a1 a0).bind fun r1 => (if r1 then ((Ze8 a1).bind fun r4 => (some r4)) else ((Ze8 a0).bind fun r6 => (some r6))))
def Zhg (a0 : Nat) (a1 : Nat) : Option (Nat) := ((Ze8 (fadd a0 a1)).bind fun r1 => (some r1))
def Zgc (a0 : Nat) (a1 : Nat) : Option (Nat) := ((Ze8 (fmul a0 a1)).bind fun r1 => (some r1))
def Zfj (a0 : Nat) (a1 : Nat) : Option (Nat) := (some a1)
def Zb9 (kk : (Int) → (Int) → Option (Int)) (j9 : Int) (j10 : Int) : Option (Int) := (kk j9 j10)
def Zbl (a0 : List Zi) (a1 : ByteArray) (φ2 : Zi → ByteArray → Option Int) : Nat → (Int) → (Int) → Option (Int)
 | 0, _, _ => none
 | n + 1, x1, x2 => (if (decide (x1 < x2)) then ((idx a0 (IntKind.i64.wrap (Int.fdiv (IntKind.u64.wrap (IntKind.i64.wrap (x1 + x2))) (2 ^ 1)))).bind fun e4 => ((φ2 e4 a1).bind fun r6 => (if (decide (r6 < (0 : Int))) then (Zb9 (Zbl a0 a1 φ2 n) (IntKind.i64.wrap ((IntKind.i64.wrap (Int.fdiv (IntKind.u64.wrap (IntKind.i64.wrap (x1 + x2))) (2 ^ 1))) + (1 : Int))) x2) else (Zb9 (Zbl a0 a1 φ2 n) x1 (IntKind.i64.wrap (Int.fdiv (IntKind.u64.wrap (IntKind.i64.wrap (x1 + x2))) (2 ^ 1))))))) else (some x1))
def Zcv (a0 : List Zi) (a1 : ByteArray) (φ2 : Zi → ByteArray → Option Int) : Option (Int × Bool) := ((Zbl a0 a1 φ2 (Int.toNat ((a0.length : Int) - (0 : Int)) + 1) (0 : Int) (a0.length : Int)).bind fun z12 => match z12 with | y11 => ((gd (decide (y11 < (a0.length : Int))) (idx a0 y11)).bind fun e13 => ((gd (decide (y11 < (a0.length : Int))) (φ2 e13 a1)).bind fun r15 => (some (y11, ((decide (y11 < (a0.length : Int))) && (r15 == (0 : Int))))))))
def Ziv (a0 : Zi) (a1 : ByteArray) : Option (Int) := (if (sLt a0.Name a1) then (some (-1 : Int)) else (if (!(sLt a0.Name a1 || sEq a0.Name a1)) then (some (1 : Int)) else (some (0 : Int))))
def Zke (a0 : List Zi) (a1 : ByteArray) : Option (Int × Bool) := ((Zcv a0 a1 (fun y0 y1 => Ziv y0 y1)).bind fun r1 => (some (r1.1, r1.2)))
def Zb7 (a0 : List Zi) (a1 : Int) (a2 : List Zi) : Option (List Zi) := if 0 ≤ a1 ∧ a1 ≤ a0.length ∧ 0 < a2.length ∧ (a0.length + a2.length) * 24 ≤ 140737488355328 then some (a0.take a1.toNat ++ a2 ++ a0.drop a1.toNat) else none
def Zif (a0 : Zd) (a1 : Zm) (a2 : Zh) : Option (Int × Zd × Zh) := ((Zke a0.List a1.S).bind fun r1 => (if r1.2 then (some ((0 : Int), a0, a2)) else (if (decide (a0.Cap ≤ (a0.List.length : Int))) then (some ((8 : Int), a0, a2)) else ((Zby a0.List).bind fun r5 => ((Zb7 r5 r1.1 ([({ Score := (0 : Nat), Name := a1.S } : Zi)] : List Zi)).bind fun r7 => (some ((0 : Int), ({ a0 with List := r7 }), a2)))))))
def Zek (a0 : List Zi) (a1 a2 : Int) : Option (List Zi) := if 0 < a0.length ∧ 0 ≤ a1 ∧ a1 ≤ a2 ∧ a2 ≤ a0.length ∧ a0.length ≤ 140737488355328 then some (a0.take a1.toNat ++ a0.drop a2.toNat) else none
def Zhl (a2 : Zh) (j8 : Zd) : Option (Int × Zd × Zh) := (some ((0 : Int), j8, a2))
def Zgj (a0 : Zd) (a1 : Zm) (a2 : Zh) : Option (Int × Zd × Zh) := ((Zke a0.List a1.S).bind fun r1 => (if r1.2 then ((Zby a0.List).bind fun r4 => ((Zek r4 r1.1 (IntKind.i64.wrap (r1.1 + (1 : Int)))).bind fun r6 => (Zhl a2 ({ a0 with List := r6 })))) else (Zhl a2 a0)))
def Zd9 (a0 : Zd) (a1 : Zm) (a2 : Zh) : Option (Int × Zd × Zh) := ((Zke a0.List a1.S).bind fun r1 => (if (!r1.2) then (some ((11 : Int), a0, a2)) else (some ((0 : Int), a0, a2))))
def Zff (a0 : Zd) (a1 : Zm) : Nat → (Int) → Option (Int)
 | 0, _ => none
 | n + 1, x1 => ((gd (decide (x1 < (a0.List.length : Int))) (idx a0.List x1)).bind fun e2 => ((gd (decide (x1 < (a0.List.length : Int))) (Zi9 e2 ({ Score := a1.X, Name := a1.S } : Zi))).bind fun r4 => (if ((decide (x1 < (a0.List.length : Int))) && r4) then ((Zff a0 a1 n) (IntKind.i64.wrap (x1 + (1 : Int)))) else (some x1))))
def Zhr (a0 : Zd) (a1 : Zm) (a2 : Zh) : Option (Int × Zd × Zh) := ((Zff a0 a1 (Int.toNat ((a0.List.length : Int) - (0 : Int)) + 1) (0 : Int)).bind fun z8 => match z8 with | y7 => ((gd (decide (y7 < (a0.List.length : Int))) (idx a0.List y7)).bind fun e9 => ((gd (decide (y7 < (a0.List.length : Int))) (Zi9 ({ Score := a1.X, Name := a1.S } : Zi) e9)).bind fun r11 => (if ((decide (y7 < (a0.List.length : Int))) && (!r11)) then (some ((0 : Int), a0, a2)) else ((Zby a0.List).bind fun r14 => ((Zb7 r14 y7 ([({ Score := a1.X, Name := a1.S } : Zi)] : List Zi)).bind fun r16 => ((cut r16 (0 : Int) (min (r16.length : Int) a0.Cap)).bind fun c18 => (some ((0 : Int), ({ a0 with List := c18 }), a2)))))))))
def Z3 (k : Int) (a0 : Zd) (a1 : Zm) (a2 : Zh) : Option (Int × Zd × Zh) := if k = 5 then Zgn a0 a1 a2 else if k = 6 then Ze4 a0 a1 a2 else if k = 7 then Zgq a0 a1 a2 else if k = 8 then Zi7 a0 a1 a2 else if k = 9 then Zde a0 a1 a2 else if k = 10 then Zfr a0 a1 a2 else if k = 11 then Zfp a0 a1 a2 else if k = 12 then Zde a0 a1 a2 else if k = 13 then Zcu (fun x y => Zju x y) a0 a1 a2 else if k = 14 then Zcu (fun x y => Zjv x y) a0 a1 a2 else if k = 15 then Zcu (fun x y => Zhg x y) a0 a1 a2 else if k = 16 then Zcu (fun x y => Zgc x y) a0 a1 a2 else if k = 17 then Zcu (fun x y => Zfj x y) a0 a1 a2 else if k = 18 then Zif a0 a1 a2 else if k = 19 then Zgj a0 a1 a2 else if k = 20 then Zd9 a0 a1 a2 else if k = 21 then Zhr a0 a1 a2 else none
def Zf3 (a0 : Int) (a1 : Zd) (a2 : Bool) : Option (Zd × Bool × Zh × Zd) := (some (a1, a2, ({ Code := a0, Num := (0 : Int), Rec := (default : Zd) } : Zh), a1))
def Zge (a1 : Bool) (a2 : Zm) (r3 : Zd) : Option (Zd × Bool × Zh) := (if ((a2.Kind == (1 : Int)) && a1) then ((Zf3 (7 : Int) r3 a1).bind fun r17 => (some (r17.1, r17.2.1, r17.2.2.1))) else (if (a2.Kind == (1 : Int)) then ((Zfc a2.Make).bind fun r20 => (some (r20, true, ({ Code := (0 : Int), Num := (0 : Int), Rec := (default : Zd) } : Zh)))) else (if (a2.Kind == (3 : Int)) then (some (r3, a1, ({ Code := (0 : Int), Num := r3.Kind, Rec := (default : Zd) } : Zh))) else (if (!a1) then ((Zf3 (6 : Int) r3 a1).bind fun r24 => (some (r24.1, r24.2.1, r24.2.2.1))) else (if (a2.Kind == (2 : Int)) then (some (({ Kind := (0 : Int), Num := (0 : Int), Low := (0 : Int), High := (0 : Int), Real := (0 : Nat), Cap := (0 : Int), Text := ByteArray.empty, List := ([] : List Zi) } : Zd), false, ({ Code := (0 : Int), Num := (0 : Int), Rec := (default : Zd) } : Zh))) else (if (a2.Kind == (4 : Int)) then ((Zfc r3).bind fun r28 => (some (r3, a1, ({ Code := (0 : Int), Num := (0 : Int), Rec := r28 } : Zh)))) else ((Zfq a2.Kind).bind fun r30 => (if (r30 != r3.Kind) then ((Zf3 (5 : Int) r3 a1).bind fun r33 => (some (r33.1, r33.2.1, r33.2.2.1))) else ((Zfc r3).bind fun r35 => (if (5 ≤ a2.Kind ∧ a2.Kind ≤ 21) then ((Z3 a2.Kind r3 a2 (default : Zh)).bind fun r38 => (if (r38.1 != (0 : Int)) then (some (r35, a1, ({ Code := r38.1, Num := (0 : Int), Rec := (default : Zd) } : Zh))) else (some (r38.2.1, a1, r38.2.2)))) else none))))))))))
def Ze1 (a1 : Bool) (a2 : Zm) (j2 : Zd) : Option (Zd × Bool × Zh) := ((Zfc j2).bind fun r3 => ((Ze9 a2).bind fun r5 => (if (r5 != (0 : Int)) then ((Zf3 r5 r3 a1).bind fun r8 => (some (r8.1, r8.2.1, r8.2.2.1))) else (if a1 then ((Zd2 r3).bind fun r11 => (if (r11 != (0 : Int)) then ((Zf3 r11 r3 a1).bind fun r14 => (some (r14.1, r14.2.1, r14.2.2.1))) else (Zge a1 a2 r3))) else (Zge a1 a2 r3)))))
def Zcn (a0 : Zd) (a1 : Bool) (a2 : Zm) : Option (Zd × Bool × Zh) := (if (!a1) then (Ze1 a1 a2 ({ Kind := (0 : Int), Num := (0 : Int), Low := (0 : Int), High := (0 : Int), Real := (0 : Nat), Cap := (0 : Int), Text := ByteArray.empty, List := ([] : List Zi) } : Zd)) else (Ze1 a1 a2 a0))
def Zkf (a0 : Int) : Option (Bool) := (some (((((a0 == (3 : Int)) || (a0 == (4 : Int))) || (a0 == (9 : Int))) || (a0 == (12 : Int))) || (a0 == (20 : Int))))
def Zep : Nat → (shelf_nodeT) → Option (shelf_nodeT)
 | 0, _ => none
 | n + 1, x1 => ((x1.un).bind fun n2 => (if (!n2.left.isNil) then ((Zep n) n2.left) else (some x1)))
def Zh3 (a0 : shelf_nodeT) : Option (shelf_nodeT) := ((Zep (a0.hh + 1) a0).bind fun z6 => match z6 with | y5 => (some y5))
def Zjf (self : shelf_nodeT → ByteArray → Option (shelf_nodeT)) (a0 : shelf_nodeT) (a1 : ByteArray) : Option (shelf_nodeT) := (if a0.isNil then (some shelf_nodeT.nil) else ((a0.un).bind fun n2 => (if (sLt a1 n2.key) then ((self n2.left a1).bind fun r5 => ((Zhq n2.key n2.rec_ r5 n2.right).bind fun r7 => (some r7))) else (if (!(sLt a1 n2.key || sEq a1 n2.key)) then ((self n2.right a1).bind fun r10 => ((Zhq n2.key n2.rec_ n2.left r10).bind fun r12 => (some r12))) else (if n2.left.isNil then (some n2.right) else (if n2.right.isNil then (some n2.left) else ((Zh3 n2.right).bind fun r16 => ((r16.un).bind fun n18 => ((self n2.right n18.key).bind fun r20 => ((Zhq n18.key n18.rec_ n2.left r20).bind fun r22 => (some r22)))))))))))
def Zfi : Nat → shelf_nodeT → ByteArray → Option (shelf_nodeT)
 | 0 => fun _ _ => none
 | n + 1 => Zjf (Zfi n)
def Zmi (a0 : shelf_nodeT) (a1 : ByteArray) : Option (shelf_nodeT) := Zfi (a0.hh + 1) a0 a1
def Zeq (a0 : Zn) (a1 : ByteArray) : Option (Zn × Bool) := ((Zfa a0 a1).bind fun r1 => (if (!r1.2) then (some (a0, false)) else ((Zmi a0.top a1).bind fun r4 => (some (({ top := r4, room := a0.room } : Zn), true)))))
def Zma (a0 : Zn) (a1 : Zm) : Option (Zn × Zh) := ((Zfa a0 a1.Key).bind fun r1 => ((Zcn r1.1 r1.2 a1).bind fun r3 => ((gd (!(r3.2.2.Code != (0 : Int))) (Zkf a1.Kind)).bind fun r5 => (if ((r3.2.2.Code != (0 : Int)) || r5) then (some (a0, r3.2.2)) else (if (!r3.2.1) then ((Zeq a0 a1.Key).bind fun r9 => (some (r9.1, r3.2.2))) else ((Zdw a0 a1.Key r3.1).bind fun r11 => (if (r11.2 != (0 : Int)) then (some (a0, ({ Code := r11.2, Num := (0 : Int), Rec := (default : Zd) } : Zh))) else (some (r11.1, r3.2.2)))))))))
def Zga (a0 : Zbk) : Nat → (Int) → Option ((Int × Int) ⊕ (Unit))
 | 0, _ => none
 | n + 1, x2 => (if (decide (x2 < (a0.Acts.length : Int))) then ((idx a0.Acts x2).bind fun e4 => ((Ze9 e4).bind fun r6 => (if (r6 != (0 : Int)) then (some (.inl (r6, (IntKind.i64.wrap (x2 + (1 : Int)))))) else ((Zga a0 n) (IntKind.i64.wrap (x2 + (1 : Int))))))) else (some (.inr ())))
def Zkp (a0 : Zbk) : Option (Int × Int) := (if (((a0.Acts.length : Int) == (0 : Int)) || (decide ((12 : Int) < (a0.Acts.length : Int)))) then (some ((1 : Int), (0 : Int))) else ((Zga a0 (Int.toNat ((a0.Acts.length : Int) - (0 : Int)) + 1) (0 : Int)).bind fun z9 => match z9 with | .inl r => some r | .inr () => (some ((0 : Int), (0 : Int)))))
def Znx (a1 : Zh) : Option (Zh) := (some a1)
def Zmo (a0 : Zm) (a1 : Zh) (a2 : Int) : Option (Zh) := (if (a0.Must && (a1.Code != (0 : Int))) then none else (Znx a1))
def Zmg : Option (Zdk) := none
def Zk7 (a0 : Zm) (a1 : Zh) (a2 : Int) : Option (Zdk) := (if (a0.Must && (a1.Code != (0 : Int))) then (some ({ code := a1.Code, at_ := a2 } : Zdk)) else (Zmg))
def Zgw (a0 : Zn) (a1 : Zbk) : Nat → (Z7) → (Zn) → (Int) → Option ((Zn × Z7) ⊕ (Z7 × Zn))
 | 0, _, _, _ => none
 | n + 1, x4, x5, x6 => (if (decide (x6 < (a1.Acts.length : Int))) then ((idx a1.Acts x6).bind fun e8 => ((Zma x5 e8).bind fun r10 => (Zya (Zk7 e8 r10.2 (IntKind.i64.wrap (x6 + (1 : Int)))) (fun p12 => (some (.inl (a0, ({ Code := p12.code, At := p12.at_, Answers := ([] : List Zh) } : Z7))))) ((Zmo e8 r10.2 (IntKind.i64.wrap (x6 + (1 : Int)))).bind fun r14 => (if (x4.Answers.length + ([r14] : List Zh).length) * 104 ≤ 140737488355328 then ((Zgw a0 a1 n) ({ x4 with Answers := (x4.Answers ++ ([r14] : List Zh)) } : Z7) r10.1 (IntKind.i64.wrap (x6 + (1 : Int)))) else none))))) else (some (.inr (x4, x5))))
def Zkh (a0 : Zn) (a1 : Zbk) : Option (Zn × Z7) := ((Zkp a1).bind fun r1 => (if (r1.1 != (0 : Int)) then (some (a0, ({ Code := r1.1, At := r1.2, Answers := ([] : List Zh) } : Z7))) else ((Zgw a0 a1 (Int.toNat ((a1.Acts.length : Int) - (0 : Int)) + 1) (default : Z7) a0 (0 : Int)).bind fun z19 => match z19 with | .inl r => some r | .inr (y17, y18) => (some (y18, y17)))))
def Zgx (a1 : List Zbk) : Nat → (Zn) → (List Z7) → (Int) → Option (Zn × (List Z7))
 | 0, _, _, _ => none
 | n + 1, x1, x2, x3 => (if (decide (x3 < (a1.length : Int))) then ((idx a1 x3).bind fun e5 => ((Zkh x1 e5).bind fun r7 => (if (x2.length + ([r7.2] : List Z7).length) * 40 ≤ 140737488355328 then ((Zgx a1 n) r7.1 (x2 ++ ([r7.2] : List Z7)) (IntKind.i64.wrap (x3 + (1 : Int)))) else none))) else (some (x1, x2)))
def Zlf (a0 : Zn) (a1 : List Zbk) : Option (Zn × (List Z7)) := ((Zgx a1 (Int.toNat ((a1.length : Int) - (0 : Int)) + 1) a0 ([] : List Z7) (0 : Int)).bind fun z12 => match z12 with | (y10, y11) => (some (y10, y11)))
def Zbd (a0 : List Zh) (a1 : List Zh) (φ2 : Zh → Zh → Option Bool) : Nat → (Int) → Option ((Bool) ⊕ (Unit))
 | 0, _ => none
 | n + 1, x2 => (if (decide (x2 < (a0.length : Int))) then ((idx a0 x2).bind fun e4 => ((idx a1 x2).bind fun e6 => ((φ2 e4 e6).bind fun r8 => (if (!r8) then (some (.inl false)) else ((Zbd a0 a1 φ2 n) (IntKind.i64.wrap (x2 + (1 : Int)))))))) else (some (.inr ())))
def Zcb (a0 : List Zh) (a1 : List Zh) (φ2 : Zh → Zh → Option Bool) : Option (Bool) := (if ((a0.length : Int) != (a1.length : Int)) then (some false) else ((Zbd a0 a1 φ2 (Int.toNat ((a0.length : Int) - (0 : Int)) + 1) (0 : Int)).bind fun z11 => match z11 with | .inl r => some r | .inr () => (some true)))
def Zj9 (a0 : Zh) (a1 : Zh) : Option (Bool) := ((gd ((a0.Code == a1.Code) && (a0.Num == a1.Num)) (Zll a0.Rec a1.Rec)).bind fun r1 => (some (((a0.Code == a1.Code) && (a0.Num == a1.Num)) && r1)))
def Zi8 (a0 : Z7) (a1 : Z7) : Option (Bool) := ((gd ((a0.Code == a1.Code) && (a0.At == a1.At)) (Zcb a0.Answers a1.Answers (fun y0 y1 => Zj9 y0 y1))).bind fun r1 => (some (((a0.Code == a1.Code) && (a0.At == a1.At)) && r1)))
def Zmq (a0 : Int) : Option (Zn × Int) := (if ((decide (a0 < (1 : Int))) || (decide ((4096 : Int) < a0))) then (some (({ top := shelf_nodeT.nil, room := (0 : Int) } : Zn), (1 : Int))) else (some (({ top := shelf_nodeT.nil, room := a0 } : Zn), (0 : Int))))
def Zil : Option (Bool) := ((Zmq (2 : Int)).bind fun r1 => ((Zkh r1.1 ({ Acts := ([({ Kind := (1 : Int), Key := (⟨#[97]⟩ : ByteArray), N := (0 : Int), X := (0 : Nat), S := ByteArray.empty, Make := ({ Kind := (4 : Int), Num := (0 : Int), Low := (0 : Int), High := (2 : Int), Real := (0 : Nat), Cap := (0 : Int), Text := ByteArray.empty, List := ([] : List Zi) } : Zd), Must := false } : Zm), ({ Kind := (11 : Int), Key := (⟨#[97]⟩ : ByteArray), N := (1 : Int), X := (0 : Nat), S := ByteArray.empty, Make := (default : Zd), Must := true } : Zm)] : List Zm) } : Zbk)).bind fun r3 => ((Zlf r1.1 ([({ Acts := ([({ Kind := (1 : Int), Key := (⟨#[97]⟩ : ByteArray), N := (0 : Int), X := (0 : Nat), S := ByteArray.empty, Make := ({ Kind := (4 : Int), Num := (0 : Int), Low := (0 : Int), High := (2 : Int), Real := (0 : Nat), Cap := (0 : Int), Text := ByteArray.empty, List := ([] : List Zi) } : Zd), Must := false } : Zm)] : List Zm) } : Zbk), ({ Acts := ([({ Kind := (11 : Int), Key := (⟨#[97]⟩ : ByteArray), N := (1 : Int), X := (0 : Nat), S := ByteArray.empty, Make := (default : Zd), Must := true } : Zm)] : List Zm) } : Zbk)] : List Zbk)).bind fun r5 => ((Zma r5.1 ({ Kind := (1 : Int), Key := (⟨#[97]⟩ : ByteArray), N := (0 : Int), X := (0 : Nat), S := ByteArray.empty, Make := ({ Kind := (4 : Int), Num := (0 : Int), Low := (0 : Int), High := (2 : Int), Real := (0 : Nat), Cap := (0 : Int), Text := ByteArray.empty, List := ([] : List Zi) } : Zd), Must := false } : Zm)).bind fun r7 => ((gd (r1.2 == (0 : Int)) (Zdt r3.1)).bind fun r9 => ((gd ((r1.2 == (0 : Int)) && (r9 == (0 : Int))) (Zi8 r3.2 ({ Code := (10 : Int), At := (2 : Int), Answers := ([] : List Zh) } : Z7))).bind fun r11 => ((gd (((r1.2 == (0 : Int)) && (r9 == (0 : Int))) && r11) (Zdt r5.1)).bind fun r13 => ((gd (((((r1.2 == (0 : Int)) && (r9 == (0 : Int))) && r11) && (r13 == (1 : Int))) && ((r5.2.length : Int) == (2 : Int))) (idx r5.2 (0 : Int))).bind fun e15 => ((gd ((((((r1.2 == (0 : Int)) && (r9 == (0 : Int))) && r11) && (r13 == (1 : Int))) && ((r5.2.length : Int) == (2 : Int))) && ((e15.Answers.length : Int) == (1 : Int))) (idx r5.2 (1 : Int))).bind fun e17 => ((gd (((((((r1.2 == (0 : Int)) && (r9 == (0 : Int))) && r11) && (r13 == (1 : Int))) && ((r5.2.length : Int) == (2 : Int))) && ((e15.Answers.length : Int) == (1 : Int))) && (e17.Code == (10 : Int))) (idx r5.2 (1 : Int))).bind fun e19 => (some (((((((((r1.2 == (0 : Int)) && (r9 == (0 : Int))) && r11) && (r13 == (1 : Int))) && ((r5.2.length : Int) == (2 : Int))) && ((e15.Answers.length : Int) == (1 : Int))) && (e17.Code == (10 : Int))) && (e19.At == (1 : Int))) && (r7.2.Code == (7 : Int))))))))))))))
def Zec (a0 : Zd) : Nat → (Int) → Option ((Int) ⊕ (Unit))
 | 0, _ => none
 | n + 1, x2 => (if (decide (x2 < (a0.List.length : Int))) then ((idx a0.List x2).bind fun e4 => (if (decide ((100 : Int) < (e4.Name.size : Int))) then (some (.inl (1 : Int))) else ((Zec a0 n) (IntKind.i64.wrap (x2 + (1 : Int)))))) else (some (.inr ())))
def Zg9 (a0 : Zd) : Option (Int) := (if ((decide ((100 : Int) < (a0.List.length : Int))) || (decide ((1000 : Int) < (a0.Text.size : Int)))) then (some (1 : Int)) else ((Zec a0 (Int.toNat ((a0.List.length : Int) - (0 : Int)) + 1) (0 : Int)).bind fun z7 => match z7 with | .inl r => some r | .inr () => (some (0 : Int))))
def Zez (a0 : Nat) : Option (Bool) := (some (fneq a0 a0))
def Zf7 (a0 : Nat) : Option (Bool) := (if (feql a0 (0 : Nat)) then ((Ieee.double.div (4607182418800017408 : Nat) a0).bind fun f2 => (some (flss f2 (0 : Nat)))) else (some (flss a0 (0 : Nat))))
def Zeh (a0 : Nat) (a1 : Nat) : Option (Bool) := ((Zez a0).bind fun r1 => (if r1 then (some false) else ((Zez a1).bind fun r4 => (if r4 then (some true) else (if ((feql a0 (0 : Nat)) && (feql a1 (0 : Nat))) then ((Zf7 a0).bind fun r8 => ((gd r8 (Zf7 a1)).bind fun r10 => (some (r8 && (!r10))))) else (some (flss a0 a1)))))))
def Zdi (a0 : Nat) (a1 : Nat) : Option (Bool) := ((Zeh a0 a1).bind fun r1 => ((gd (!r1) (Zeh a1 a0)).bind fun r3 => (some ((!r1) && (!r3)))))
def Zgo (a0 : Nat) : Option (Bool) := ((Zdi a0 (0 : Nat)).bind fun r1 => (some r1))
def Zcq (a1 : ByteArray) : Nat → (Bool) → (Bool) → (Bool) → (Bool) → (Bool) → (Int) → Option (Bool × Bool × Bool × Bool × Bool)
 | 0, _, _, _, _, _, _ => none
 | n + 1, x1, x2, x3, x4, x5, x6 => (if (decide (x6 < (a1.size : Int))) then ((gd (!x1) (sidx a1 x6)).bind fun b8 => ((gd (!x2) (sidx a1 x6)).bind fun b10 => ((gd (!x3) (sidx a1 x6)).bind fun b12 => ((gd (!x4) (sidx a1 x6)).bind fun b14 => ((gd (!x5) (sidx a1 x6)).bind fun b16 => ((Zcq a1 n) (x1 || (b8 == (116 : Int))) (x2 || (b10 == (110 : Int))) (x3 || (b12 == (98 : Int))) (x4 || (b14 == (114 : Int))) (x5 || (b16 == (108 : Int))) (IntKind.i64.wrap (x6 + (1 : Int))))))))) else (some (x1, x2, x3, x4, x5)))
def Zh0 (a0 : Zd) (a1 : ByteArray) : Option (Bool) := ((Zcq a1 (Int.toNat ((a1.size : Int) - (0 : Int)) + 1) false false false false false (0 : Int)).bind fun z23 => match z23 with | (y18, y19, y20, y21, y22) => (if (((((!y18) && (!sEq a0.Text (⟨#[]⟩ : ByteArray))) || ((!y19) && (a0.Num != (0 : Int)))) || ((!y20) && (a0.Low != (0 : Int)))) || ((!y20) && (a0.High != (0 : Int)))) then (some false) else ((gd (!y21) (Zgo a0.Real)).bind fun r25 => (some ((y21 || r25) && (y22 || ((a0.Cap == (0 : Int)) && ((a0.List.length : Int) == (0 : Int)))))))))
def Zid (a0 : Int) : Option (ByteArray) := (if ((decide (a0 < (1 : Int))) || (decide ((9 : Int) < a0))) then (some (⟨#[]⟩ : ByteArray)) else ((idx ([(⟨#[]⟩ : ByteArray), (⟨#[116]⟩ : ByteArray), (⟨#[110]⟩ : ByteArray), (⟨#[110]⟩ : ByteArray), (⟨#[110, 98]⟩ : ByteArray), (⟨#[114]⟩ : ByteArray), (⟨#[114]⟩ : ByteArray), (⟨#[114]⟩ : ByteArray), (⟨#[108]⟩ : ByteArray), (⟨#[108]⟩ : ByteArray)] : List ByteArray) a0).bind fun e2 => (some e2)))
def Zey (a0 : Nat) : Option (Bool) := ((Zez a0).bind fun r1 => (some ((!r1) || ((a0 : Int) == (9221120237041090561 : Int)))))
def Ze7 (a0 : Zi) (a1 : Zi) : Option (Bool) := ((Zeh a1.Score a0.Score).bind fun r1 => (if r1 then (some true) else ((Zdi a0.Score a1.Score).bind fun r4 => (some (r4 && (sLt a0.Name a1.Name))))))
def Zh4 (a0 : Int) (a1 : List Zi) (a2 : Int) : Option (Int) := ((idx a1 a2).bind fun e1 => (if (decide ((16 : Int) < (e1.Name.size : Int))) then (some (3 : Int)) else ((gd (a0 == (8 : Int)) (Zgo e1.Score)).bind fun r4 => ((gd (!((a0 == (8 : Int)) && (!r4))) (Zey e1.Score)).bind fun r6 => (if (((a0 == (8 : Int)) && (!r4)) || (!r6)) then (some (4 : Int)) else ((gd ((decide ((0 : Int) < a2)) && (a0 == (8 : Int))) (idx a1 (IntKind.i64.wrap (a2 - (1 : Int))))).bind fun e9 => (if (((decide ((0 : Int) < a2)) && (a0 == (8 : Int))) && (!(sLt e9.Name e1.Name))) then (some (4 : Int)) else ((gd ((decide ((0 : Int) < a2)) && (a0 == (9 : Int))) (idx a1 (IntKind.i64.wrap (a2 - (1 : Int))))).bind fun e12 => ((gd ((decide ((0 : Int) < a2)) && (a0 == (9 : Int))) (Ze7 e12 e1)).bind fun r14 => (if (((decide ((0 : Int) < a2)) && (a0 == (9 : Int))) && (!r14)) then (some (4 : Int)) else (some (0 : Int))))))))))))
def Zdv (a0 : Zd) : Nat → (Int) → Option ((Int) ⊕ (Unit))
 | 0, _ => none
 | n + 1, x15 => (if (decide (x15 < (a0.List.length : Int))) then ((Zh4 a0.Kind a0.List x15).bind fun r17 => (if (r17 != (0 : Int)) then (some (.inl r17)) else ((Zdv a0 n) (IntKind.i64.wrap (x15 + (1 : Int)))))) else (some (.inr ())))
def Zdo (a0 : Zd) : Option (Int) := (if ((decide (a0.Kind < (1 : Int))) || (decide ((9 : Int) < a0.Kind))) then (some (5 : Int)) else ((Zid a0.Kind).bind fun r2 => ((Zh0 a0 r2).bind fun r4 => (if (!r4) then (some (4 : Int)) else (if ((a0.Kind == (1 : Int)) && (decide ((64 : Int) < (a0.Text.size : Int)))) then (some (3 : Int)) else (if ((a0.Kind == (4 : Int)) && ((((decide (a0.Low < (IntKind.i64.wrap (0 - (2305843009213693952 : Int))))) || (decide ((2305843009213693952 : Int) < a0.High))) || (decide (a0.Num < a0.Low))) || (decide (a0.High < a0.Num)))) then (some (1 : Int)) else ((Zey a0.Real).bind fun r9 => (if (!r9) then (some (4 : Int)) else (if (decide (a0.Kind < (8 : Int))) then (some (0 : Int)) else (if ((decide (a0.Cap < (1 : Int))) || (decide ((32 : Int) < a0.Cap))) then (some (1 : Int)) else (if (decide (a0.Cap < (a0.List.length : Int))) then (some (8 : Int)) else ((Zdv a0 (Int.toNat ((a0.List.length : Int) - (0 : Int)) + 1) (0 : Int)).bind fun z20 => match z20 with | .inl r => some r | .inr () => (some (0 : Int))))))))))))))
def Zc1 (a0 : Zs) (a1 : ByteArray) : Nat → (Int) → Option (Int)
 | 0, _ => none
 | n + 1, x1 => ((gd (decide (x1 < (a0.L.length : Int))) (idx a0.L x1)).bind fun e2 => (if ((decide (x1 < (a0.L.length : Int))) && (sLt e2.Key a1)) then ((Zc1 a0 a1 n) (IntKind.i64.wrap (x1 + (1 : Int)))) else (some x1)))
def Zel (a0 : Zs) (a1 : ByteArray) : Option (Int) := ((Zc1 a0 a1 (Int.toNat ((a0.L.length : Int) - (0 : Int)) + 1) (0 : Int)).bind fun z6 => match z6 with | y5 => (some y5))
def Zd8 (a0 : Zs) (a1 : ByteArray) (a2 : Zd) (c10 : List Z6) (j15 : Int) : Option (Zs × Int) := ((cut a0.L j15 (a0.L.length : Int)).bind fun c16 => (if (((([] : List Z6) ++ c10) ++ ([({ Key := a1, Rec := a2 } : Z6)] : List Z6)).length + c16.length) * 104 ≤ 140737488355328 then (some (({ L := (((([] : List Z6) ++ c10) ++ ([({ Key := a1, Rec := a2 } : Z6)] : List Z6)) ++ c16), Room := a0.Room } : Zs), (0 : Int))) else none))
def Zfm (a0 : Zs) (a1 : ByteArray) (a2 : Zd) : Option (Zs × Int) := (if ((decide ((a1.size : Int) < (1 : Int))) || (decide ((24 : Int) < (a1.size : Int)))) then (some (a0, (1 : Int))) else ((Zdo a2).bind fun r2 => (if (r2 != (0 : Int)) then (some (a0, r2)) else ((Zel a0 a1).bind fun r5 => ((gd (decide (r5 < (a0.L.length : Int))) (idx a0.L r5)).bind fun e7 => (if ((!((decide (r5 < (a0.L.length : Int))) && (sEq e7.Key a1))) && (decide (a0.Room ≤ (a0.L.length : Int)))) then (some (a0, (8 : Int))) else ((cut a0.L (0 : Int) r5).bind fun c10 => (if (([] : List Z6).length + c10.length) * 104 ≤ 140737488355328 then (if ((([] : List Z6) ++ c10).length + ([({ Key := a1, Rec := a2 } : Z6)] : List Z6).length) * 104 ≤ 140737488355328 then (if ((decide (r5 < (a0.L.length : Int))) && (sEq e7.Key a1)) then (Zd8 a0 a1 a2 c10 (IntKind.i64.wrap (r5 + (1 : Int)))) else (Zd8 a0 a1 a2 c10 r5)) else none) else none))))))))
def Zdf (a1 : List Z6) : Nat → (Zn) → (Zn) → (Zs) → (Int) → Option ((Zn × (Option Zs)) ⊕ (Zn × Zn × Zs))
 | 0, _, _, _, _ => none
 | n + 1, x4, x5, x6, x7 => (if (decide (x7 < (a1.length : Int))) then ((idx a1 x7).bind fun e9 => ((gd (!(decide ((100 : Int) < (e9.Key.size : Int)))) (Zg9 e9.Rec)).bind fun r11 => (if ((decide ((100 : Int) < (e9.Key.size : Int))) || (decide ((0 : Int) < r11))) then (some (.inl (x5, (none : Option Zs)))) else ((Zdw x5 e9.Key e9.Rec).bind fun r14 => ((Zfm x6 e9.Key e9.Rec).bind fun r16 => ((Zdf a1 n) x4 r14.1 r16.1 (IntKind.i64.wrap (x7 + (1 : Int))))))))) else (some (.inr (x4, x5, x6))))
def Zf6 (a0 : Int) (a1 : List Z6) : Option (Zn × (Option Zs)) := ((Zmq a0).bind fun r1 => (if ((r1.2 != (0 : Int)) || (decide ((60 : Int) < (a1.length : Int)))) then (some (r1.1, (none : Option Zs))) else ((Zdf a1 (Int.toNat ((a1.length : Int) - (0 : Int)) + 1) (default : Zn) r1.1 ({ L := ([] : List Z6), Room := a0 } : Zs) (0 : Int)).bind fun z21 => match z21 with | .inl r => some r | .inr (y18, y19, y20) => (some (y19, (some y20))))))
def Zij (a0 : Zm) : Option (Int) := ((gd (!((decide ((200 : Int) < (a0.Key.size : Int))) || (decide ((1000 : Int) < (a0.S.size : Int))))) (Zg9 a0.Make)).bind fun r1 => (if (((decide ((200 : Int) < (a0.Key.size : Int))) || (decide ((1000 : Int) < (a0.S.size : Int)))) || (decide ((0 : Int) < r1))) then (some (1 : Int)) else (some (0 : Int))))
def Zds (a0 : Zbk) : Nat → (Int) → Option ((Int) ⊕ (Unit))
 | 0, _ => none
 | n + 1, x2 => (if (decide (x2 < (a0.Acts.length : Int))) then ((idx a0.Acts x2).bind fun e4 => ((Zij e4).bind fun r6 => (if (decide ((0 : Int) < r6)) then (some (.inl (1 : Int))) else ((Zds a0 n) (IntKind.i64.wrap (x2 + (1 : Int))))))) else (some (.inr ())))
def Zis (a0 : Zbk) : Option (Int) := (if (decide ((40 : Int) < (a0.Acts.length : Int))) then (some (1 : Int)) else ((Zds a0 (Int.toNat ((a0.Acts.length : Int) - (0 : Int)) + 1) (0 : Int)).bind fun z9 => match z9 with | .inl r => some r | .inr () => (some (0 : Int))))
def Zdr (a0 : List Zbk) : Nat → (Int) → Option ((Int) ⊕ (Unit))
 | 0, _ => none
 | n + 1, x2 => (if (decide (x2 < (a0.length : Int))) then ((idx a0 x2).bind fun e4 => ((Zis e4).bind fun r6 => (if (decide ((0 : Int) < r6)) then (some (.inl (1 : Int))) else ((Zdr a0 n) (IntKind.i64.wrap (x2 + (1 : Int))))))) else (some (.inr ())))
def Zhc (a0 : List Zbk) : Option (Int) := (if (decide ((40 : Int) < (a0.length : Int))) then (some (1 : Int)) else ((Zdr a0 (Int.toNat ((a0.length : Int) - (0 : Int)) + 1) (0 : Int)).bind fun z9 => match z9 with | .inl r => some r | .inr () => (some (0 : Int))))
def Zlc (a0 : Int) : Option (ByteArray) := ((Zlz a0).bind fun r1 => (some r1.word))
def Zku (a0 : Int) (a1 : Int) : Option (Bool) := ((Zlc a0).bind fun r1 => ((gd (!(sEq r1 (⟨#[]⟩ : ByteArray))) (Zlc a1)).bind fun r3 => (if ((sEq r1 (⟨#[]⟩ : ByteArray)) || (sEq r3 (⟨#[]⟩ : ByteArray))) then (some false) else (if ((decide (a0 ≤ (2 : Int))) || (decide (a1 ≤ (2 : Int)))) then (some false) else ((Zkf a0).bind fun r7 => ((gd r7 (Zkf a1)).bind fun r9 => (if (((r7 && r9) || (a0 == (3 : Int))) || (a1 == (3 : Int))) then (some true) else (if ((a0 == (4 : Int)) || (a1 == (4 : Int))) then (some false) else ((Zfq a0).bind fun r13 => ((Zfq a1).bind fun r15 => (if (r13 != r15) then (some true) else (some ((a0 == a1) && (((((a0 == (7 : Int)) || (a0 == (13 : Int))) || (a0 == (14 : Int))) || (a0 == (19 : Int))) || (a0 == (21 : Int))))))))))))))))
def Zj5 (a0 : Zm) (a1 : Zm) : Option (Bool) := ((gd (!(!sEq a0.Key a1.Key)) (Zku a0.Kind a1.Kind)).bind fun r1 => (some ((!sEq a0.Key a1.Key) || r1)))
def Zg3 (a1 : List Zm) (e3 : Zm) : Nat → (Int) → Option ((Bool) ⊕ (Unit))
 | 0, _ => none
 | n + 1, x5 => (if (decide (x5 < (a1.length : Int))) then ((idx a1 x5).bind fun e7 => ((Zj5 e3 e7).bind fun r9 => (if (!r9) then (some (.inl false)) else ((Zg3 a1 e3 n) (IntKind.i64.wrap (x5 + (1 : Int))))))) else (some (.inr ())))
def Zg2 (a0 : List Zm) (a1 : List Zm) : Nat → (Int) → Option ((Bool) ⊕ (Unit))
 | 0, _ => none
 | n + 1, x1 => (if (decide (x1 < (a0.length : Int))) then ((idx a0 x1).bind fun e3 => ((Zg3 a1 e3 (Int.toNat ((a1.length : Int) - (0 : Int)) + 1) (0 : Int)).bind fun z12 => match z12 with | .inl r => some (.inl r) | .inr () => ((Zg2 a0 a1 n) (IntKind.i64.wrap (x1 + (1 : Int)))))) else (some (.inr ())))
def Zm0 (a0 : List Zm) (a1 : List Zm) : Option (Bool) := ((Zg2 a0 a1 (Int.toNat ((a0.length : Int) - (0 : Int)) + 1) (0 : Int)).bind fun z13 => match z13 with | .inl r => some r | .inr () => (some true))
def Zb2 (a0 : List Zm) (φ1 : Zm → Option Bool) : Nat → (Int) → Option ((Int) ⊕ (Unit))
 | 0, _ => none
 | n + 1, x1 => (if (decide (x1 < (a0.length : Int))) then ((idx a0 x1).bind fun e3 => ((φ1 e3).bind fun r5 => (if r5 then (some (.inl x1)) else ((Zb2 a0 φ1 n) (IntKind.i64.wrap (x1 + (1 : Int))))))) else (some (.inr ())))
def Zee (a0 : List Zm) (φ1 : Zm → Option Bool) : Option (Int) := ((Zb2 a0 φ1 (Int.toNat ((a0.length : Int) - (0 : Int)) + 1) (0 : Int)).bind fun z8 => match z8 with | .inl r => some r | .inr () => (some (-1 : Int)))
def Zdz (a0 : List Zm) (φ1 : Zm → Option Bool) : Option (Bool) := ((Zee a0 φ1).bind fun r1 => (some (decide ((0 : Int) ≤ r1))))
def Zhi (a0 : Zm) : Option (Bool) := (some ((a0.Kind == (1 : Int)) || (a0.Kind == (2 : Int))))
def Zjt (a0 : Zbk) : Option (Bool) := ((Zdz a0.Acts (fun y0 => Zhi y0)).bind fun r1 => (some r1))
def Zjo (a0 : Zbk) (a1 : Zbk) : Option (Bool) := ((Zm0 a0.Acts a1.Acts).bind fun r1 => ((gd (!(!r1)) (Zjt a0)).bind fun r3 => ((gd ((!(!r1)) && r3) (Zjt a1)).bind fun r5 => (some ((!r1) || (r3 && r5))))))
def Zhk (a0 : Int) : Option (Bool) := (some (((((a0 == (3 : Int)) || (a0 == (4 : Int))) || (a0 == (9 : Int))) || (a0 == (12 : Int))) || (a0 == (20 : Int))))
def Ze6 (a0 : Int) : Option (Int) := (if ((decide (a0 < (0 : Int))) || (decide ((21 : Int) < a0))) then (some (0 : Int)) else ((idx ([(0 : Int), (0 : Int), (0 : Int), (0 : Int), (0 : Int), (1 : Int), (1 : Int), (2 : Int), (3 : Int), (3 : Int), (4 : Int), (4 : Int), (4 : Int), (5 : Int), (6 : Int), (7 : Int), (7 : Int), (7 : Int), (8 : Int), (8 : Int), (8 : Int), (9 : Int)] : List Int) a0).bind fun e2 => (some e2)))
def Zf5 (a0 : Int) (a1 : Int) : Option (Bool) := (if ((((decide (a0 < (3 : Int))) || (decide ((21 : Int) < a0))) || (decide (a1 < (3 : Int)))) || (decide ((21 : Int) < a1))) then (some false) else ((Zhk a0).bind fun r2 => ((gd r2 (Zhk a1)).bind fun r4 => (if (r2 && r4) then (some true) else (if ((a0 == (3 : Int)) || (a1 == (3 : Int))) then (some true) else (if ((a0 == (4 : Int)) || (a1 == (4 : Int))) then (some false) else ((Ze6 a0).bind fun r9 => ((Ze6 a1).bind fun r11 => (if (r9 != r11) then (some true) else (some ((a0 == a1) && (((((a0 == (7 : Int)) || (a0 == (13 : Int))) || (a0 == (14 : Int))) || (a0 == (19 : Int))) || (a0 == (21 : Int))))))))))))))
def Zgg (a0 : Zm) (a1 : Zm) : Option (Bool) := ((gd (!(!sEq a0.Key a1.Key)) (Zf5 a0.Kind a1.Kind)).bind fun r1 => (some ((!sEq a0.Key a1.Key) || r1)))
def Zd0 (a0 : List Zm) (a1 : List Zm) (x1 : Int) : Nat → (Int) → Option ((Bool) ⊕ (Unit))
 | 0, _ => none
 | n + 1, x3 => (if (decide (x3 < (a1.length : Int))) then ((idx a0 x1).bind fun e5 => ((idx a1 x3).bind fun e7 => ((Zgg e5 e7).bind fun r9 => (if (!r9) then (some (.inl false)) else ((Zd0 a0 a1 x1 n) (IntKind.i64.wrap (x3 + (1 : Int)))))))) else (some (.inr ())))
def Zd3 (a0 : List Zm) (a1 : List Zm) : Nat → (Int) → Option ((Bool) ⊕ (Unit))
 | 0, _ => none
 | n + 1, x1 => (if (decide (x1 < (a0.length : Int))) then ((Zd0 a0 a1 x1 (Int.toNat ((a1.length : Int) - (0 : Int)) + 1) (0 : Int)).bind fun z12 => match z12 with | .inl r => some (.inl r) | .inr () => ((Zd3 a0 a1 n) (IntKind.i64.wrap (x1 + (1 : Int))))) else (some (.inr ())))
def Zhz (a0 : List Zm) (a1 : List Zm) : Option (Bool) := ((Zd3 a0 a1 (Int.toNat ((a0.length : Int) - (0 : Int)) + 1) (0 : Int)).bind fun z13 => match z13 with | .inl r => some r | .inr () => (some true))
def Zc7 (a0 : Zbk) : Nat → (Int) → Option ((Bool) ⊕ (Unit))
 | 0, _ => none
 | n + 1, x1 => (if (decide (x1 < (a0.Acts.length : Int))) then ((idx a0.Acts x1).bind fun e3 => ((gd (!(e3.Kind == (1 : Int))) (idx a0.Acts x1)).bind fun e5 => (if ((e3.Kind == (1 : Int)) || (e5.Kind == (2 : Int))) then (some (.inl true)) else ((Zc7 a0 n) (IntKind.i64.wrap (x1 + (1 : Int))))))) else (some (.inr ())))
def Zfn (a0 : Zbk) : Option (Bool) := ((Zc7 a0 (Int.toNat ((a0.Acts.length : Int) - (0 : Int)) + 1) (0 : Int)).bind fun z8 => match z8 with | .inl r => some r | .inr () => (some false))
def Zf0 (a0 : Zbk) (a1 : Zbk) : Option (Bool) := ((Zhz a0.Acts a1.Acts).bind fun r1 => ((gd (!(!r1)) (Zfn a0)).bind fun r3 => ((gd ((!(!r1)) && r3) (Zfn a1)).bind fun r5 => (some ((!r1) || (r3 && r5))))))
def Zho (x2 : Zd) (kk : (Int) → (Zd) → (shelf_nodeT) → Option ((ByteArray × Zd × Bool) ⊕ (Zd))) (j13 : Int) (j14 : shelf_nodeT) : Option ((ByteArray × Zd × Bool) ⊕ (Zd)) := (kk j13 x2 j14)
def Zdn : Nat → (Int) → (Zd) → (shelf_nodeT) → Option ((ByteArray × Zd × Bool) ⊕ (Zd))
 | 0, _, _, _ => none
 | n + 1, x1, x2, x3 => (if (!x3.isNil) then ((x3.un).bind fun n5 => ((Zce n5.left).bind fun r7 => (if (decide (x1 < r7)) then (Zho x2 (Zdn n) x1 n5.left) else (if (decide (r7 < x1)) then (Zho x2 (Zdn n) (IntKind.i64.wrap (x1 - (IntKind.i64.wrap (r7 + (1 : Int))))) n5.right) else ((Zfc n5.rec_).bind fun r11 => (some (.inl (n5.key, r11, true)))))))) else (some (.inr x2)))
def Zhx (a0 : Zn) (a1 : Int) : Option (ByteArray × Zd × Bool) := ((Zdn (a0.top.hh + 1) a1 (default : Zd) a0.top).bind fun z16 => match z16 with | .inl r => some r | .inr y15 => (some ((⟨#[]⟩ : ByteArray), ({ Kind := (0 : Int), Num := (0 : Int), Low := (0 : Int), High := (0 : Int), Real := (0 : Nat), Cap := (0 : Int), Text := ByteArray.empty, List := ([] : List Zi) } : Zd), false)))
def Zgb (a0 : Zn) (a1 : Zn) (r6 : Int) : Nat → (Int) → Option ((Bool) ⊕ (Unit))
 | 0, _ => none
 | n + 1, x8 => (if (decide (x8 < r6)) then ((Zhx a0 x8).bind fun r10 => ((Zhx a1 x8).bind fun r12 => ((gd (!(!sEq r10.1 r12.1)) (Zll r10.2.1 r12.2.1)).bind fun r14 => (if ((!sEq r10.1 r12.1) || (!r14)) then (some (.inl false)) else ((Zgb a0 a1 r6 n) (IntKind.i64.wrap (x8 + (1 : Int)))))))) else (some (.inr ())))
def Zkv (a0 : Zn) (a1 : Zn) : Option (Bool) := ((Zdt a0).bind fun r1 => ((Zdt a1).bind fun r3 => (if (r1 != r3) then (some false) else ((Zdt a0).bind fun r6 => ((Zgb a0 a1 r6 (Int.toNat (r6 - (0 : Int)) + 1) (0 : Int)).bind fun z17 => match z17 with | .inl r => some r | .inr () => (some true))))))
def Zgu (a0 : Int) (a1 : List Z6) (a2 : List Zbk) : Option (Bool) := ((Zil).bind fun r1 => (if (!r1) then (some false) else ((Zf6 a0 a1).bind fun r4 => ((gd (!r4.2.isNone) (Zhc a2)).bind fun r6 => ((gd (!(r4.2.isNone || (decide ((0 : Int) < r6)))) (idx a2 (0 : Int))).bind fun e8 => ((gd (!(r4.2.isNone || (decide ((0 : Int) < r6)))) (idx a2 (1 : Int))).bind fun e10 => ((gd (!(r4.2.isNone || (decide ((0 : Int) < r6)))) (Zjo e8 e10)).bind fun r12 => (if ((r4.2.isNone || (decide ((0 : Int) < r6))) || r12) then ((gd (!r4.2.isNone) (Zhc a2)).bind fun r15 => ((gd (!(r4.2.isNone || (decide ((0 : Int) < r15)))) (idx a2 (0 : Int))).bind fun e17 => ((gd (!(r4.2.isNone || (decide ((0 : Int) < r15)))) (idx a2 (1 : Int))).bind fun e19 => ((gd (!(r4.2.isNone || (decide ((0 : Int) < r15)))) (Zf0 e17 e19)).bind fun r21 => (some ((r4.2.isNone || (decide ((0 : Int) < r15))) || r21)))))) else ((idx a2 (0 : Int)).bind fun e23 => ((idx a2 (1 : Int)).bind fun e25 => ((Zlf r4.1 ([e23, e25] : List Zbk)).bind fun r27 => ((idx a2 (1 : Int)).bind fun e29 => ((idx a2 (0 : Int)).bind fun e31 => ((Zlf r4.1 ([e29, e31] : List Zbk)).bind fun r33 => ((gd (((r27.2.length : Int) == (2 : Int)) && ((r33.2.length : Int) == (2 : Int))) (Zkv r27.1 r33.1)).bind fun r35 => ((gd ((((r27.2.length : Int) == (2 : Int)) && ((r33.2.length : Int) == (2 : Int))) && r35) (idx r27.2 (0 : Int))).bind fun e37 => ((gd ((((r27.2.length : Int) == (2 : Int)) && ((r33.2.length : Int) == (2 : Int))) && r35) (idx r33.2 (1 : Int))).bind fun e39 => ((gd ((((r27.2.length : Int) == (2 : Int)) && ((r33.2.length : Int) == (2 : Int))) && r35) (Zi8 e37 e39)).bind fun r41 => ((gd (((((r27.2.length : Int) == (2 : Int)) && ((r33.2.length : Int) == (2 : Int))) && r35) && r41) (idx r27.2 (1 : Int))).bind fun e43 => ((gd (((((r27.2.length : Int) == (2 : Int)) && ((r33.2.length : Int) == (2 : Int))) && r35) && r41) (idx r33.2 (0 : Int))).bind fun e45 => ((gd (((((r27.2.length : Int) == (2 : Int)) && ((r33.2.length : Int) == (2 : Int))) && r35) && r41) (Zi8 e43 e45)).bind fun r47 => (some ((((((r27.2.length : Int) == (2 : Int)) && ((r33.2.length : Int) == (2 : Int))) && r35) && r41) && r47)))))))))))))))))))))))
def Zon (x : Zi) : Prop := (x.Score < 2 ^ 64) ∧ (x.Name.size ≤ maxLen)
def Zjn (x : Zd) : Prop := ((IntKind.i64).min ≤ x.Kind ∧ x.Kind ≤ (IntKind.i64).max) ∧ ((IntKind.i64).min ≤ x.Num ∧ x.Num ≤ (IntKind.i64).max) ∧ ((IntKind.i64).min ≤ x.Low ∧ x.Low ≤ (IntKind.i64).max) ∧ ((IntKind.i64).min ≤ x.High ∧ x.High ≤ (IntKind.i64).max) ∧ (x.Real < 2 ^ 64) ∧ ((IntKind.i64).min ≤ x.Cap ∧ x.Cap ≤ (IntKind.i64).max) ∧ (x.Text.size ≤ maxLen) ∧ (x.List.length ≤ maxLen ∧ ∀ e0 ∈ x.List, (Zon e0))
def Zkm (x : Zm) : Prop := ((IntKind.i64).min ≤ x.Kind ∧ x.Kind ≤ (IntKind.i64).max) ∧ (x.Key.size ≤ maxLen) ∧ ((IntKind.i64).min ≤ x.N ∧ x.N ≤ (IntKind.i64).max) ∧ (x.X < 2 ^ 64) ∧ (x.S.size ≤ maxLen) ∧ (Zjn x.Make) ∧ True
def Zjr (x : Zbk) : Prop := (x.Acts.length ≤ maxLen ∧ ∀ e0 ∈ x.Acts, (Zkm e0))
def Zgi (x : Z6) : Prop := (x.Key.size ≤ maxLen) ∧ (Zjn x.Rec)
section
variable {P : Program} {N : Nat} {o : Oper} {uses outs : Zbc} {S : List Nat} {d : Nat} {q : Pd} {x y z : Operand} {α β : Type} {dk : Kd α} {t e j : Nat}
def Kd.opt (d : Kd α) : Kd (Option α) where
 sz := 1
 ag := false
 K := fun g x cs => (x = none ∧ cs = [.pointer none]) ∨ ∃ v b o cs', x = some v ∧ cs = [.pointer (some ⟨b, o, none⟩)] ∧ d.K g v cs' ∧ CellsAt g b o cs'
 len := by
   rintro g x cs (⟨_, rfl⟩ | ⟨_, _, _, _, _, rfl, _⟩) <;> rfl
 one := by
   rintro g x cs (⟨_, rfl⟩ | ⟨_, _, _, _, _, rfl, _⟩) u hu <;> (rw [List.mem_singleton.1 hu]; rfl)
 mono := by
   rintro g g' x cs h (k | ⟨v, b, o, cs', h1, h2, h3, h4⟩)
   · exact .inl k
   · exact .inr ⟨v, b, o, cs', h1, h2, d.mono h h3, h4.mono h⟩
 nag := fun _ => rfl
theorem Zql (g : G) : (dk.opt.pd none).p g (.pointer none) := ⟨_, .inl ⟨rfl, rfl⟩, rfl⟩
theorem Z8h {v : α} {g : G} {u : Value} (h : (dk.ptr v).p g u) : (dk.opt.pd (some v)).p g u := by
 obtain ⟨b, o, cs, rfl, h1, h2⟩ := h
 exact ⟨_, .inr ⟨v, b, o, cs, rfl, rfl, h1, h2⟩, rfl⟩
theorem Zv2 {x : Option α} (g : G) (u : Value) (h : (dk.opt.pd x).p g u) : ∃ p, u = .pointer p ∧ p.isNone = x.isNone := by
 obtain ⟨cs, (⟨rfl, rfl⟩ | ⟨v', b, o, cs', rfl, rfl, h2, h3⟩), rfl⟩ := h
 · exact ⟨none, rfl, rfl⟩
 · exact ⟨some _, rfl, rfl⟩
def G.give (g : G) (b : Nat) (hb : b < g.w.heap.size) : G := ⟨g.w, fun b' o => g.pr b' o ∨ b' = b, fun c => if c = b then 0 else g.own c, fun b' o h => h.elim (g.hpr b' o) (fun h => by rw [h]; exact hb), g.gl.le (fun _ _ h => .inl h) (fun _ _ _ => rfl)⟩
theorem Zz0 (g : G) (b : Nat) (hb : b < g.w.heap.size) : g.le (g.give b hb) := ⟨Nat.le_refl _, fun _ _ h => .inl h, fun _ _ _ => rfl, fun _ _ => rfl⟩
theorem Z31 {g : G} {b j : Nat} (hb : b < g.w.heap.size) (ho : g.own b = j) : Step [j] g (g.give b hb) :=
 ⟨Zz0 g b hb, rfl, rfl, rfl, fun c hc hn => by
   have hcb : c ≠ b := fun h => hn (by rw [h, ho]; exact List.mem_singleton.2 rfl)
   refine ⟨rfl, ?_, if_neg hcb⟩
   funext o
   show (g.pr c o ∨ c = b) = _
   simp [hcb],
  fun c h1 h2 => absurd (Nat.lt_of_lt_of_le h2 h1) (Nat.lt_irrefl _),
  fun c hc hn => by
   show (if c = b then 0 else g.own c) = 0 ∨ (if c = b then 0 else g.own c) ∈ _
   split
   · exact .inl rfl
   · exact .inr hn⟩
theorem Z5f {c : Option Nat} {v : α} (hop : o.op = .move x ∨ o.op = .assign x) (hd : o.dst = some d) (hx : Opd uses x (Zbt c dk j v)) : OB P N o uses [(d, dk.opt.pd (some v))] [j + 1] :=
 Zhb hd fun a g hh => by
   have hr : (execOp a.eval o).run P g.w = .ok (.value (a.eval x)) g.w := by rcases hop with h | h <;> simp [execOp, h]
   obtain ⟨b, cs, t', hv, ⟨h1, h2, h3, h4, h5, h6⟩, _⟩ := hx a g hh
   refine ⟨a.eval x, g.give b h1, hr, Z31 h1 h2, ?_⟩
   rw [hv]
   refine Z8h ⟨b, 0, cs, rfl, dk.mono (Zz0 g b h1) h5, fun k u hk => ⟨.inr rfl, ?_⟩⟩
   show g.w.cell? _ = _
   simp only [World.cell?, h4, Nat.zero_add]
   simpa using hk
end
section
variable {P : Program} {N : Nat} {o : Oper} {uses outs : Zbc} {S : List Nat} {d : Nat} {q : Pd} {x y z : Operand}
theorem OB.frameU {n : Nat} (h : OB P N o uses outs S) (hs : Opd uses (.tmp n) q) (hq : ∀ j ∈ q.fp, j ∉ S) (hn : o.dst ≠ some n) : OB P N o uses ((n, q) :: outs) S := by
 intro a g K Q hN hdN hu hK
 refine h a g K Q hN hdN hu fun v g' hst ho => hK v g' hst fun e he => ?_
 rcases List.mem_cons.1 he with rfl | he
 · have h2 := q.st hst hq (hs a g hu)
   show q.p g' (Act.at (a.put o.dst v) n)
   rw [Zi6 v hn]; exact h2
 · exact ho e he
structure Hp (σ : Type) where
 p : G → σ → Prop
 fp : List Nat
 st : ∀ {S : List Nat} {g g' : G} {s : σ}, Step S g g' → (∀ j ∈ fp, j ∉ S) → p g s → p g' s
def hpT {σ : Type} : Hp σ := ⟨fun _ _ => True, [], fun _ _ _ => trivial⟩
def hpL (q : Pd) : Hp SlV := ⟨fun g s => q.p g (slv s), q.fp, fun st hd h => q.st st hd h⟩
variable {c : Option Nat} {α β γ δ ε σ : Type} {kV : Kd γ} {raw : α → σ → γ} {R R' R2 : Hp σ} {dk : Kd β} {di : Kd δ} {dj : Kd ε} {t e j : Nat} {xv : α}
def Zh6 (c : Option Nat) (kV : Kd γ) (raw : α → σ → γ) (R : Hp σ) (j : Nat) (x : α) : Pd := ⟨fun g v => ∃ s, (Zbt c kV j (raw x s)).p g v ∧ R.p g s, (j + 1) :: R.fp, fun st hd ⟨s, h1, h2⟩ => ⟨s, (Zbt c kV j (raw x s)).st st (fun k hk => hd k (List.mem_cons.2 (.inl (List.mem_singleton.1 hk)))) h1, R.st st (fun k hk => hd k (List.mem_cons_of_mem _ hk)) h2⟩⟩
abbrev pBxS (kV : Kd γ) (raw : α → σ → γ) (R : Hp σ) (j : Nat) (x : α) : Pd := Zh6 none kV raw R j x
theorem Zbbc {g : G} {v : Value} (hv : (Zh6 c kV raw R j xv).p g v) : (Zh6 c kV raw hpT j xv).p g v := let ⟨s, h1, _⟩ := hv; ⟨s, h1, trivial⟩
theorem Z64 {k : Kd α} (hc : ∀ g s cs, kV.K g (raw xv s) cs → R.p g s → k.K g xv cs) {g : G} {v : Value} (hv : (Zh6 c kV raw R j xv).p g v) : (Zbt c k j xv).p g v := by
 obtain ⟨s, ⟨b, cs, t', e, ⟨h1, h2, h3, h4, h5, h6⟩, h7⟩, hR⟩ := hv
 exact ⟨b, cs, t', e, ⟨h1, h2, h3, h4, hc g s cs h5 hR, h6⟩, h7⟩
def pPQ (kV : Kd γ) (j off : Nat) (q : Pd) : Pd := ⟨fun g v => ∃ w s, (Zjb kV j w off Kd.raw s).p g v ∧ q.p g (slv s), (j + 1) :: q.fp, fun st hd ⟨w, s, h1, h2⟩ => ⟨w, s, (Zjb kV j w off Kd.raw s).st st (fun k hk => hd k (List.mem_cons.2 (.inl (List.mem_singleton.1 hk)))) h1, q.st st (fun k hk => hd k (List.mem_cons_of_mem _ hk)) h2⟩⟩
theorem Z7y {off : Nat} {g : G} {v : Value} (h : (pPQ kV j off q).p g v) : ∃ w s1, (Zjb kV j w off Kd.raw s1).p g v := let ⟨w, s, h1, _⟩ := h; ⟨w, s, h1⟩
theorem Z29 {zs : List Value} (s0 : σ) (hz : (P.info? t).bind (·.zero) = some (mkV kV.ag zs)) (hk : ∀ g, kV.K g (raw xv s0) zs) (hR : ∀ g, R.p g s0) (hop : o.op = .alloc t) (hd : o.dst = some d) : OB P N o uses [(d, pBxS kV raw R j xv)] [j + 1] :=
 (Zbg hz hk hop hd).weak fun g a h en he => by
   rw [List.mem_singleton.1 he]
   exact ⟨_, h (d, pBox kV j (raw xv s0)) (List.mem_singleton.2 rfl), hR g⟩
theorem Zq4 {s i off : Nat} {pt : Nat} {proj : γ → SlV} {pr : σ → SlV} (hF : Fld P s i kV Kd.raw proj) (ho : (match P.underlying s with | some (.struct F) => (F[i]?).map (·.offset) | _ => none) = some off) (hu : ∀ sv, proj (raw xv sv) = pr sv) (hq : ∀ g s, R.p g s → q.p g (slv (pr s))) (hop : o.op = .fieldAddr s (.tmp pt) i) (hd : o.dst = some d) (hx : Opd uses (.tmp pt) (Zh6 c kV raw R j xv)) : OB P N o uses [(d, pPQ kV j off q)] [] :=
 OB.at fun a g hh => by
   obtain ⟨s0, h0, h2⟩ := hx a g hh
   refine ⟨[(N, pAt (slv (pr s0)) q), (pt, Zbt c kV j (raw xv s0))], fun en he => ?_, ?_⟩
   · rcases List.mem_cons.1 he with rfl | he
     · exact hq g s0 h2
     · rw [List.mem_singleton.1 he]; exact h0
   · intro a' g' K Q hN hdN hu' hK
     have hdl := hdN d hd
     refine (OB.frame (n := N) (q := pAt (slv (pr s0)) q) (Zbe (c := c) hF ho hop hd .t0) (fun _ _ h => by cases h) (by rw [hd]; intro h; exact absurd (Option.some.inj h) (Nat.ne_of_lt hdl))).weak (fun g2 a2 h en he => ?_) a' g' K Q hN hdN hu' hK
     rw [List.mem_singleton.1 he]
     have := h (d, Zjb kV j (raw xv s0) off Kd.raw (proj (raw xv s0))) (by simp)
     rw [hu] at this
     exact ⟨_, pr s0, this, h (N, pAt (slv (pr s0)) q) (by simp)⟩
theorem Zw6 {off pt : Nat} (hT : Ty P t Kd.raw) (hop : o.op = .load t (.tmp pt)) (hd : o.dst = some d) (hx : Opd uses (.tmp pt) (pPQ kV j off q)) : OB P N o uses [(d, q)] [] :=
 OB.at fun a g hh => by
   obtain ⟨w, s0, h0, h2⟩ := hx a g hh
   refine ⟨[(N, pAt (slv s0) q), (pt, Zjb kV j w off Kd.raw s0)], fun en he => ?_, ?_⟩
   · rcases List.mem_cons.1 he with rfl | he
     · exact h2
     · rw [List.mem_singleton.1 he]; exact h0
   · intro a' g' K Q hN hdN hu' hK
     have hdl := hdN d hd
     refine (OB.frame (n := N) (q := pAt (slv s0) q) (Zcw hT hop hd .t0) (fun _ _ h => by cases h) (by rw [hd]; intro h; exact absurd (Option.some.inj h) (Nat.ne_of_lt hdl))).weak (fun g2 a2 h en he => ?_) a' g' K Q hN hdN hu' hK
     rw [List.mem_singleton.1 he]
     have h3 := Z12.1 (h (d, Kd.raw.pd s0) (by simp))
     show q.p g2 (Act.at a2 d)
     rw [h3]
     exact h (N, pAt (slv s0) q) (by simp)
theorem Z3f {off s pt zt : Nat} {x' : α} {upd : σ → SlV → σ} (hT : Ty P t Kd.raw) (hop : o.op = .store t (.tmp pt) (.tmp zt)) (hd : o.dst = none) (hsl : ∀ g v, q.p g v → ∃ s2 : SlV, v = slv s2) (hj : ∀ k ∈ q.fp, k ≠ j + 1) (hj2 : ∀ k ∈ R.fp, k ≠ j + 1) (hs : Opd uses (.tmp s) (Zh6 c kV raw R j xv)) (hx : ∀ (a : Act) g, Zea uses a g → ∃ w s1, (Zjb kV j w off Kd.raw s1).p g (Act.at a pt)) (hz : Opd uses (.tmp zt) q)
   (hR : ∀ g s s2, R.p g s → q.p g (slv s2) → R2.p g (upd s s2)) (hw : ∀ g cs s0 s1 ys, kV.K g (raw xv s0) cs → Kd.raw.K g s1 ys → off + ys.length ≤ cs.length ∧ kV.K g (raw x' (upd s0 s1)) (Zbv cs off ys)) : OB P N o uses [(s, Zh6 c kV raw R2 j x')] [j + 1] :=
 OB.at fun a g hh => by
   obtain ⟨s0, h0, hR0⟩ := hs a g hh
   obtain ⟨w, s1, h1⟩ := hx a g hh
   have h2 := hz a g hh
   obtain ⟨s2, hv2⟩ := hsl _ _ h2
   refine ⟨[(N, pAt (slv s2) q), (N, ⟨fun g _ => R.p g s0, R.fp, fun st hd h => R.st st hd h⟩), (s, Zbt c kV j (raw xv s0)), (pt, Zjb kV j w off Kd.raw s1), (zt, Kd.raw.pd s2)], fun en he => ?_, ?_⟩
   · rcases List.mem_cons.1 he with rfl | he
     · show q.p g (slv s2)
       rw [← hv2]; exact h2
     · rcases List.mem_cons.1 he with rfl | he
       · exact hR0
       · rcases List.mem_cons.1 he with rfl | he
         · exact h0
         · rcases List.mem_cons.1 he with rfl | he
           · exact h1
           · rw [List.mem_singleton.1 he]; exact Z12.2 hv2
   · refine (OB.frame (n := N) (q := pAt (slv s2) q) (OB.frame (n := N) (q := ⟨fun g _ => R.p g s0, R.fp, fun st hd h => R.st st hd h⟩) (Zlv (c := c) (v' := raw x' (upd s0 s2)) hT hop hd .t0 (.tl .t0) (.tl (.tl .t0)) (fun g cs ys h k => hw g cs s0 s2 ys h k)) (fun k hk hS => hj2 k hk (List.mem_singleton.1 hS)) (by rw [hd]; simp)) (fun k hk hS => hj k hk (List.mem_singleton.1 hS)) (by rw [hd]; simp)).weak (fun g2 a2 h en he => ?_)
     rw [List.mem_singleton.1 he]
     have k1 : R.p g2 s0 := h (N, ⟨fun g _ => R.p g s0, R.fp, fun st hd h => R.st st hd h⟩) (by simp)
     have k2 : q.p g2 (slv s2) := h (N, pAt (slv s2) q) (by simp)
     exact ⟨upd s0 s2, h (s, Zbt c kV j (raw x' (upd s0 s2))) (by simp), hR g2 s0 s2 k1 k2⟩
theorem Z5d {k : Kd α} (hc : ∀ g s cs, kV.K g (raw xv s) cs → R.p g s → k.K g xv cs) (hT : Ty P t k) (hop : o.op = .load t x) (hd : o.dst = some d) (hx : Opd uses x (Zh6 c kV raw R j xv)) : OB P N o uses [(d, k.pd xv)] [] :=
 Zcp (c := c) hT hop hd (hx.imp fun _ _ h => Z64 hc h)
theorem Zpy {k : Kd α} {s : Nat} {x' : α} (hkz : k.sz = kV.sz) (hT : Ty P t k) (hop : o.op = .store t (.tmp s) z) (hd : o.dst = none) (hx : Opd uses (.tmp s) (Zh6 c kV raw R j xv)) (hz : Opd uses z (k.pd x')) : OB P N o uses [(s, Zbt c k j x')] [j + 1] :=
 Zrf hd fun a g hh => by
   obtain ⟨s0, ⟨b, cs, t', hv, hm, hcb⟩, _⟩ := hx a g hh
   obtain ⟨ys, hk, hw⟩ := hz a g hh
   have hl : ys.length = cs.length := (k.len hk).trans (hkz.trans (kV.len hm.2.2.2.2.1).symm)
   have hst := Ziz (off := 0) hT hm.2.2.2.1 hk (by simp [hl])
   have hv' : Act.at a s = .pointer (some ⟨b, 0, none⟩) := hv
   have hs : Step [j + 1] g (g.wr b ys.toArray hm.1 hm.2.2.2.2.2 (fun _ => False) (j + 1)) := Zmf hm.2.1 (.inr rfl) hm.2.2.2.2.2
   refine ⟨g.wr b ys.toArray hm.1 hm.2.2.2.2.2 (fun _ => False) (j + 1), ?_, hs, ?_⟩
   · simp only [Nat.zero_add, List.take_zero, List.nil_append] at hst
     rw [List.drop_of_length_le (by simp [hl]), List.append_nil] at hst
     simp [execOp, hop, hv, hw, Instr.storeAt, Instr.sureAddr, hst, wr_w]
   · intro e he
     rw [List.mem_singleton.1 he]
     refine ⟨b, ys, t', hv', ⟨by rw [wr_w, Zeb]; exact hm.1, by simp [G.wr], fun b' hb' ho => ?_, by rw [wr_w]; exact setRow_heap _ _ _ _ _ _ hm.2.2.2.1, k.mono hs.le hk, fun o => by simp [G.wr]⟩, hcb⟩
     rw [wr_w, Zeb] at hb'
     simp only [G.wr] at ho
     split at ho
     · assumption
     · exact hm.2.2.1 b' hb' ho
theorem Z6n {α : Type} {dk : Kd α} {e j : Nat} {xs : List α} {g : G} {v : Value} (h : (pRow dk e j xs).p g v) : ∃ s : SlV, v = slv s := by
 obtain ⟨A, c, hv, _⟩ := Kd.sl_V.1 h.1
 exact ⟨(A, xs.length, c), hv⟩
theorem Z8c {α : Type} {dk : Kd α} {xs : List α} {g : G} {s : SlV} {cs : List Value} (h : Kd.raw.K g s cs) (hv : dk.sl.V g xs (slv s)) : dk.sl.K g xs cs := by
 have h1 : cs = [slv s] := h
 obtain ⟨cs', h2, h3⟩ := hv
 have hl := dk.sl.len h2
 obtain ⟨u, rfl⟩ := List.length_eq_one_iff.1 hl
 have : slv s = u := h3
 rw [h1, this]; exact h2
end
end Go.CL
