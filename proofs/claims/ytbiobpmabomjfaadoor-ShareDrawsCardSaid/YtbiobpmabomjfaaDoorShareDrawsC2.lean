/- A part of the proof of ShareDraws. -/
import Derived.Test.YtbiobpmabomjfaaDoorShareDrawsC1
import Derived.Laws.CopyRow
import Derived.Laws.Externs
import GoSem.Extern.SlicesOverlaps
import Derived.MapKept
set_option linter.unusedVariables false
set_option linter.unusedSimpArgs false
set_option maxRecDepth 100000
namespace Go.CL
open Go Go.RowKit
section
variable {P : Program} {N : Nat} {o : Oper} {uses : Z3} {d : Nat} {q : Pd} {x y z : Operand} {α : Type} {dk : Kd α} {t e : TypeId} {bytes j : Nat} {c : Option Nat}
structure OwnAt (dk : Kd α) (e : TypeId) (j : Nat) (fs : List (Option α)) (g : G) (b cap : Nat) (cur : Array Value) : Prop where
 lt : b < g.w.heap.size
 own : g.own b = j
 uniq : ∀ b', b' < g.w.heap.size → g.own b' = j → b' = b
 heap : g.w.heap[b]? = some (.cells cur e (0, 0))
 len : fs.length ≤ cap
 max : cap ≤ maxLen
 sz : cur.size = cap * dk.sz
 known : ∀ i x, fs[i]? = some (some x) → dk.K g x (seg cur.toList (i * dk.sz) dk.sz)
 npr : ∀ o, ¬ g.pr b o
theorem Zxt {g g' : G} {S : List Nat} {b : Nat} (hs : Step S g g') (hj : j ∉ S) (hj0 : j ≠ 0) (h : ∀ b', b' < g.w.heap.size → g.own b' = j → b' = b) : ∀ b', b' < g'.w.heap.size → g'.own b' = j → b' = b := fun b' hb' ho => by
 rcases Nat.lt_or_ge b' g.w.heap.size with hlt | hge
 · by_cases hS : g.own b' ∈ S
   · rcases hs.old b' hlt hS with h | h
     · rw [ho] at h; exact absurd h hj0
     · rw [ho] at h; exact absurd h hj
   · exact h b' hlt ((hs.same b' hlt hS).2.2.symm.trans ho)
 · rcases hs.new b' hge hb' with h | h
   · rw [ho] at h; exact absurd h hj0
   · rw [ho] at h; exact absurd h hj
theorem OwnAt.st {fs : List (Option α)} {g g' : G} {S : List Nat} {b cap : Nat} {cur : Array Value} (hs : Step S g g') (hj : j ∉ S) (hj0 : j ≠ 0) (h : OwnAt dk e j fs g b cap cur) : OwnAt dk e j fs g' b cap cur := by
 obtain ⟨k1, k2, k3⟩ := hs.same b h.lt (by rw [h.own]; exact hj)
 exact ⟨Nat.lt_of_lt_of_le h.lt hs.le.size, k3.trans h.own, Zxt hs hj hj0 h.uniq, k1.trans h.heap, h.len, h.max, h.sz, fun i x hx => dk.mono hs.le (h.known i x hx), fun o => by rw [k2]; exact h.npr o⟩
def pOwn (dk : Kd α) (e : TypeId) (j : Nat) (c : Option Nat) (fs : List (Option α)) : Pd := ⟨fun g u => ∃ b cap cur, u = .slice (some ⟨b, 0, none⟩) fs.length cap ∧ OwnAt dk e (j + 1) fs g b cap cur ∧ ∀ k, c = some k → cap = k, [j + 1], fun s hd ⟨b, cap, cur, e, h, hc⟩ => ⟨b, cap, cur, e, h.st s (hd _ (by simp)) (by omega), hc⟩⟩
def Zi5 (dk : Kd α) (e : TypeId) (j off len : Nat) : Pd := ⟨fun g u => ∃ b cap cur, u = .slice (some (if cap = off then ⟨b, 0, none⟩ else ⟨b, off * dk.sz, none⟩)) len (cap - off) ∧ OwnAt dk e (j + 1) [] g b cap cur ∧ off + len ≤ cap, [j + 1], fun s hd ⟨b, cap, cur, e, h, hc⟩ => ⟨b, cap, cur, e, h.st s (hd _ (by simp)) (by omega), hc⟩⟩
theorem OwnAt.nil {fs : List (Option α)} {g : G} {b cap : Nat} {cur : Array Value} (h : OwnAt dk e j fs g b cap cur) : OwnAt dk e j [] g b cap cur := ⟨h.lt, h.own, h.uniq, h.heap, Nat.zero_le _, h.max, h.sz, fun i x hx => by simp at hx, h.npr⟩
theorem OwnAt.same {fs : List (Option α)} {fs' : List (Option α)} {g : G} {b b' cap cap' : Nat} {cur cur' : Array Value} (h : OwnAt dk e j fs g b cap cur) (k : OwnAt dk e j fs' g b' cap' cur') (h0 : 0 < dk.sz) : b' = b ∧ cur' = cur ∧ cap' = cap := by
 obtain rfl := h.uniq b' k.lt k.own
 have := k.heap
 rw [h.heap] at this
 injection this with this
 injection this with this
 subst this
 exact ⟨rfl, rfl, Nat.eq_of_mul_eq_mul_right h0 (k.sz.symm.trans h.sz)⟩
theorem Zob {fs : List (Option α)} {t : TypeId} (ht : P.underlying t = some (.slice e)) (hop : o.op = .call { callee := .builtin .len, args := #[x], argTypes := #[t] }) (hd : o.dst = some d) (hx : Opd uses x (pOwn dk e j c fs)) : OB P N o uses [(d, pInt .i64 (fs.length : Int))] [] :=
 Zbx hd fun a g hh => by
   obtain ⟨b, cap, cur, hv, _⟩ := hx a g hh
   exact ⟨.int .i64 fs.length, by simp [execOp, hop, resolve, invoke, builtin, hv, Builtin.len_, run_underlying ht, goInt], Zex _ _ g⟩
theorem Zza {fs : List (Option α)} {t : TypeId} {k : Nat} (ht : P.underlying t = some (.slice e)) (hop : o.op = .call { callee := .builtin .cap, args := #[x], argTypes := #[t] }) (hd : o.dst = some d) (hx : Opd uses x (pOwn dk e j (some k) fs)) : OB P N o uses [(d, pInt .i64 (k : Int))] [] :=
 Zbx hd fun a g hh => by
   obtain ⟨b, cap, cur, hv, _, hc⟩ := hx a g hh
   obtain rfl := hc k rfl
   exact ⟨.int .i64 cap, by simp [execOp, hop, resolve, invoke, builtin, hv, Builtin.cap_, run_underlying ht, goInt], Zex _ _ g⟩
theorem Zgj {x : Value} {i n : Nat} {cd : BoundsCode} {w : World} (hx : x = .int .i64 i) (h : i ≤ n) : (Instr.sliceBound x n cd).run P w = .ok i w := by
 subst hx
 simp [Instr.sliceBound, asIntOf, h]
theorem Zfh {fs : List (Option α)} {l : Nat} (hT : TE P t e dk bytes) (hl : l ≤ fs.length) (hop : o.op = .slice t x (some y) none none) (hd : o.dst = some d) (hx : Opd uses x (pOwn dk e j c fs)) (hy : Opd uses y (pInt .i64 (l : Int))) : OB P N o uses [(d, Zi5 dk e j l (fs.length - l))] [] :=
 Zbx hd fun a g hh => by
   obtain ⟨b, cap, cur, hv, hO, hc⟩ := hx a g hh
   have hy' := Zca.1 (hy a g hh)
   obtain ⟨i, zz, hi, hz, hsz, hby, hzs⟩ := hT.info
   have hb : ∀ w cd, (Instr.sliceBound (a.eval y) fs.length cd).run P w = .ok l w := fun w cd => Zgj hy' hl
   have hlen := hO.len
   refine ⟨_, ?_, b, cap, cur, rfl, hO.nil, by omega⟩
   simp [execOp, hop, hv, Instr.sliceAt, Instr.slice, Instr.sliceBounds, run_underlying hT.und, hb, sizeOf, typeInfo, hi, hsz, Zcw]
   try (split <;> simp_all [Zcw])
theorem Znu {fs : List (Option α)} {h : Nat} (hT : TE P t e dk bytes) (hl : h ≤ fs.length) (hop : o.op = .slice t x none (some y) none) (hd : o.dst = some d) (hx : Opd uses x (pOwn dk e j c fs)) (hy : Opd uses y (pInt .i64 (h : Int))) : OB P N o uses [(d, Zi5 dk e j 0 h)] [] :=
 Zbx hd fun a g hh => by
   obtain ⟨b, cap, cur, hv, hO, hc⟩ := hx a g hh
   have hy' := Zca.1 (hy a g hh)
   obtain ⟨i, zz, hi, hz, hsz, hby, hzs⟩ := hT.info
   have hlen := hO.len
   have hb : ∀ w cd, (Instr.sliceBound (a.eval y) cap cd).run P w = .ok h w := fun w cd => Zgj hy' (by omega)
   refine ⟨_, ?_, b, cap, cur, rfl, hO.nil, by omega⟩
   simp [execOp, hop, hv, Instr.sliceAt, Instr.slice, Instr.sliceBounds, run_underlying hT.und, hb, sizeOf, typeInfo, hi, hsz, Zcw]
   try (split <;> simp_all [Zcw])
theorem Zs8 {fs : List (Option α)} {h k : Nat} (hT : TE P t e dk bytes) (hl : fs.length ≤ h) (hk : h ≤ k) (hop : o.op = .slice t x none (some y) none) (hd : o.dst = some d) (hx : Opd uses x (pOwn dk e j (some k) fs)) (hy : Opd uses y (pInt .i64 (h : Int))) : OB P N o uses [(d, pOwn dk e j (some k) (fs ++ List.replicate (h - fs.length) none))] [] :=
 Zbx hd fun a g hh => by
   obtain ⟨b, cap, cur, hv, hO, hc⟩ := hx a g hh
   obtain rfl := hc k rfl
   have hy' := Zca.1 (hy a g hh)
   obtain ⟨i, zz, hi, hz, hsz, hby, hzs⟩ := hT.info
   have hb : ∀ w cd, (Instr.sliceBound (a.eval y) cap cd).run P w = .ok h w := fun w cd => Zgj hy' hk
   have hlen : (fs ++ List.replicate (h - fs.length) none).length = h := by simp; omega
   refine ⟨_, ?_, b, cap, cur, rfl, ⟨hO.lt, hO.own, hO.uniq, hO.heap, by rw [hlen]; exact hk, hO.max, hO.sz, fun i x hx => ?_, hO.npr⟩, hc⟩
   · rw [hlen]
     simp [execOp, hop, hv, Instr.sliceAt, Instr.slice, Instr.sliceBounds, run_underlying hT.und, hb, sizeOf, typeInfo, hi, hsz, Zcw]
     try (split <;> simp_all [Zcw])
   · rw [List.getElem?_append] at hx
     split at hx
     · exact hO.known i x hx
     · rw [List.getElem?_replicate] at hx
       split at hx <;> simp at hx
theorem Zwg {fs : List (Option α)} {l h m : Nat} {y1 y2 y3 : Operand} (hT : TE P t e dk bytes) (h1 : l ≤ h) (h2 : h ≤ m) (h3 : m ≤ fs.length) (hop : o.op = .slice t x (some y1) (some y2) (some y3)) (hx : Opd uses x (pOwn dk e j c fs)) (hy1 : Opd uses y1 (pInt .i64 (l : Int))) (hy2 : Opd uses y2 (pInt .i64 (h : Int))) (hy3 : Opd uses y3 (pInt .i64 (m : Int))) : OB P N o uses [] [] := by
 intro a g K Q hN hdN hu hK
 obtain ⟨b, cap, cur, hv, hO, hc⟩ := hx a g hu
 obtain ⟨i, zz, hi, hz, hsz, hby, hzs⟩ := hT.info
 have hlen := hO.len
 have hb1 : ∀ w cd, (Instr.sliceBound (a.eval y1) h cd).run P w = .ok l w := fun w cd => Zgj (Zca.1 (hy1 a g hu)) h1
 have hb2 : ∀ w cd, (Instr.sliceBound (a.eval y2) m cd).run P w = .ok h w := fun w cd => Zgj (Zca.1 (hy2 a g hu)) h2
 have hb3 : ∀ w cd, (Instr.sliceBound (a.eval y3) cap cd).run P w = .ok m w := fun w cd => Zgj (Zca.1 (hy3 a g hu)) (by omega)
 have hr : ∃ v, (execOp a.eval o).run P g.w = .ok (.value v) g.w := by
   simp [execOp, hop, hv, Instr.sliceAt, Instr.slice, Instr.sliceBounds, run_underlying hT.und, hb1, hb2, hb3, sizeOf, typeInfo, hi]
 obtain ⟨v, hr⟩ := hr
 unfold Oper.wp
 rw [hr]
 exact hK v g (.refl _ _) (fun e he => by cases he)
theorem Zv1 {fs : List (Option α)} {l h k : Nat} {y1 y2 : Operand} (hT : TE P t e dk bytes) (h1 : l ≤ h) (h2 : h ≤ k) (hop : o.op = .slice t x (some y1) (some y2) none) (hd : o.dst = some d) (hx : Opd uses x (pOwn dk e j (some k) fs)) (hy1 : Opd uses y1 (pInt .i64 (l : Int))) (hy2 : Opd uses y2 (pInt .i64 (h : Int))) : OB P N o uses [(d, Zi5 dk e j l (h - l))] [] :=
 Zbx hd fun a g hh => by
   obtain ⟨b, cap, cur, hv, hO, hc⟩ := hx a g hh
   obtain rfl := hc k rfl
   obtain ⟨i, zz, hi, hz, hsz, hby, hzs⟩ := hT.info
   have hb1 : ∀ w cd, (Instr.sliceBound (a.eval y1) h cd).run P w = .ok l w := fun w cd => Zgj (Zca.1 (hy1 a g hh)) h1
   have hb2 : ∀ w cd, (Instr.sliceBound (a.eval y2) cap cd).run P w = .ok h w := fun w cd => Zgj (Zca.1 (hy2 a g hh)) h2
   refine ⟨_, ?_, b, cap, cur, rfl, hO.nil, by omega⟩
   simp [execOp, hop, hv, Instr.sliceAt, Instr.slice, Instr.sliceBounds, run_underlying hT.und, hb1, hb2, sizeOf, typeInfo, hi, hsz, Zcw]
   try (split <;> simp_all [Zcw])
theorem Zhc {i n sz : Nat} (h : i < n) : i * sz + sz ≤ n * sz := by
 have : (i + 1) * sz ≤ n * sz := Nat.mul_le_mul_right _ h
 rw [Nat.add_mul] at this; omega
def over (fs : List (Option α)) (off : Nat) (ws : List α) : List (Option α) := fs.take off ++ ws.map some ++ fs.drop (off + ws.length)
theorem Zix {fs : List (Option α)} {off : Nat} {ws : List α} (h : off + ws.length ≤ fs.length) : (over fs off ws).length = fs.length := by simp [over]; omega
theorem Zid {fs : List (Option α)} {off : Nat} {ws : List α} (h : off + ws.length ≤ fs.length) (i : Nat) : (over fs off ws)[i]? = if i < off then fs[i]? else if i < off + ws.length then (ws[i - off]?).map some else fs[i]? := by
 unfold over
 rw [List.append_assoc, List.getElem?_append]
 have h1 : (fs.take off).length = off := by simp; omega
 rw [h1]
 by_cases hi : i < off
 · rw [if_pos hi, if_pos hi, List.getElem?_take, if_pos hi]
 · rw [if_neg hi, if_neg hi, List.getElem?_append, List.length_map]
   by_cases h2 : i < off + ws.length
   · rw [if_pos h2, if_pos (by omega), List.getElem?_map]
   · rw [if_neg h2, if_neg (by omega), List.getElem?_drop]
     congr 1; omega
theorem Zu3 {g g' : G} (hle : g.le g') {fs : List (Option α)} {off cap : Nat} {ws : List α} {cur news : List Value} (hl : news.length = ws.length * dk.sz) (hc : cur.length = cap * dk.sz) (hfit : off + ws.length ≤ fs.length) (hcap : fs.length ≤ cap)
   (hk : ∀ i x, fs[i]? = some (some x) → dk.K g x (seg cur (i * dk.sz) dk.sz)) (hn : ∀ i x, ws[i]? = some x → dk.K g x (seg news (i * dk.sz) dk.sz)) :
   ∀ i x, (over fs off ws)[i]? = some (some x) → dk.K g' x (seg (Z2 cur (off * dk.sz) news) (i * dk.sz) dk.sz) := by
 intro i x hx
 have hfit' : off * dk.sz + news.length ≤ cur.length := by rw [hl, hc, ← Nat.add_mul]; exact Nat.mul_le_mul_right _ (by omega)
 rw [Zid hfit] at hx
 split at hx
 · rename_i h1
   rw [Z0 hfit' (.inl (Zhc h1))]
   exact dk.mono hle (hk i x hx)
 · rename_i h1
   split at hx
   · rename_i h2
     obtain ⟨y, hy, hxy⟩ := Option.map_eq_some_iff.1 hx
     obtain rfl := Option.some.inj hxy
     have e : seg (Z2 cur (off * dk.sz) news) (i * dk.sz) dk.sz = seg news ((i - off) * dk.sz) dk.sz := by
       have hto : (cur.take (off * dk.sz)).length = off * dk.sz := by simp; omega
       unfold Z2
       rw [List.append_assoc, show i * dk.sz = (cur.take (off * dk.sz)).length + (i - off) * dk.sz by rw [hto, ← Nat.add_mul]; congr 1; omega, Zfb, Zd2 (by rw [hl]; exact Zhc (by omega))]
     rw [e]; exact dk.mono hle (hn _ _ hy)
   · rename_i h2
     rw [Z0 hfit' (.inr (by rw [hl, ← Nat.add_mul]; exact Nat.mul_le_mul_right _ (by omega)))]
     exact dk.mono hle (hk i x hx)
theorem Znj {fs : List (Option α)} {g : G} {b cap : Nat} {cur : Array Value} (h : OwnAt dk e j fs g b cap cur) {off : Nat} {ws : List α} {news : List Value} (hl : news.length = ws.length * dk.sz) (hfit : off + ws.length ≤ fs.length) (hn : ∀ i x, ws[i]? = some x → dk.K g x (seg news (i * dk.sz) dk.sz)) :
   ∃ g' : G, g'.w = g.w.setRow b (Z2 cur.toList (off * dk.sz) news).toArray ∧ Step [j] g g' ∧ OwnAt dk e j (over fs off ws) g' b cap (Z2 cur.toList (off * dk.sz) news).toArray := by
 have hst : Step [j] g (g.wr b (Z2 cur.toList (off * dk.sz) news).toArray h.lt h.npr (fun _ => False) j) := Zkj h.own (.inr rfl) h.npr
 have hcl : cur.toList.length = cap * dk.sz := by simpa using h.sz
 have hlen := h.len
 refine ⟨_, rfl, hst, ⟨by rw [wr_w, Zd9]; exact h.lt, by simp [G.wr], fun b' hb' ho => ?_, by rw [wr_w]; exact setRow_heap _ _ _ _ _ _ h.heap, by rw [Zix hfit]; exact h.len, h.max, ?_, ?_, fun o => by simp [G.wr]⟩⟩
 · rw [wr_w, Zd9] at hb'
   simp only [G.wr] at ho
   split at ho
   · assumption
   · exact h.uniq b' hb' ho
 · rw [List.size_toArray, Zdd (by rw [hl, hcl, ← Nat.add_mul]; exact Nat.mul_le_mul_right _ (by omega))]; exact hcl
 · exact Zu3 hst.le hl hcl hfit h.len h.known hn
theorem Zns {g : G} {b off len cap : Nat} {fs : List (Option α)} {cur : Array Value} (hT : TE P t e dk bytes) (h : OwnAt dk e j fs g b cap cur) (hoff : off + len ≤ fs.length) {A : Option Addr} {n c2 : Nat} {ws : List α} {news : List Value} (hn : ws.length = Nat.min n len) (hA : ws = [] ∨ ∃ b2 o2, A = some ⟨b2, o2, none⟩ ∧ ∀ k u, news[k]? = some u → g.w.cell? ⟨b2, o2 + k, none⟩ = some u) (hl : news.length = ws.length * dk.sz) (hone : ∀ u ∈ news, u.oneCell' = true) (ty : TypeId) :
   (Builtin.copy_ #[t, t] ty #[.slice (some (if cap = off then ⟨b, 0, none⟩ else ⟨b, off * dk.sz, none⟩)) len (cap - off), .slice A n c2]).run P g.w = .ok (.int .i64 (ws.length : Int)) (g.w.setRow b (Z2 cur.toList (off * dk.sz) news).toArray) := by
 obtain ⟨i, zz, hi, hz, hsz, hby, hzs⟩ := hT.info
 have hcl : cur.toList.length = cap * dk.sz := by simpa using h.sz
 have hlen := h.len
 rcases hA with rfl | ⟨b2, o2, rfl, hcell⟩
 · have hn0 : news = [] := List.eq_nil_of_length_eq_zero (by simpa using hl)
   subst hn0
   have hs : (Z2 cur.toList (off * dk.sz) []).toArray = cur := by simp [Z2]
   have hself : g.w.setRow b cur = g.w := setRow_self g.w b cur e (0, 0) h.heap
   rw [hs, hself]
   have hm : Nat.min n len = 0 := by simpa using hn.symm
   cases A <;> simp [Builtin.copy_, run_underlying hT.und, Builtin.lenOf, Builtin.firstCells, sizeOf, typeInfo, hi, hm, loadCells, loadCellsFrom, storeCells, goInt]
 · have hld := run_loadCells_list (P := P) g.w ⟨b2, o2, none⟩ news (fun k u hu => by rw [Zcw]; exact hcell k u hu)
   rw [hl, hn] at hld
   by_cases he : cap = off
   · have hlen0 : len = 0 := by omega
     have hw0 : ws = [] := List.eq_nil_of_length_eq_zero (by rw [hn, hlen0]; simp)
     subst hw0
     have hn0 : news = [] := List.eq_nil_of_length_eq_zero (by simpa using hl)
     subst hn0
     have hs : (Z2 cur.toList (off * dk.sz) []).toArray = cur := by simp [Z2]
     have hself : g.w.setRow b cur = g.w := setRow_self g.w b cur e (0, 0) h.heap
     rw [hs, hself]
     have hm : Nat.min n len = 0 := by simpa using hn.symm
     simp [Builtin.copy_, run_underlying hT.und, Builtin.lenOf, Builtin.firstCells, sizeOf, typeInfo, hi, hm, loadCells, loadCellsFrom, storeCells, goInt]
   · rw [if_neg he]
     have hst := run_storeCells_at P b (off * dk.sz) e news 0 cur g.w h.heap (by rw [hl, Nat.add_zero, ← Nat.add_mul]; rw [h.sz]; exact Nat.mul_le_mul_right _ (by rw [hn]; have : Nat.min n len ≤ len := Nat.min_le_right n len; omega)) hone
     rw [Nat.add_zero] at hst
     simp only [Builtin.copy_, run_underlying hT.und, Builtin.lenOf, Builtin.firstCells, sizeOf, typeInfo, Sem.run_bind, run_program, Result.andThen_ok, hi, Sem.run_pure, hsz, List.getElem?_toArray, List.getElem?_cons_zero, List.getElem?_cons_succ, hld, goInt, hn]
     rw [hst]
     rfl
theorem Zs3 {fs : List (Option α)} {off len s : Nat} {vs : List α} (hT : TE P t e dk bytes) (hfit : off + len ≤ fs.length) (hv : vs.length ≤ len) (hop : o.op = .call { callee := .builtin .copy, args := #[x, y], argTypes := #[t, t] }) (hd : o.dst = some d) (hsd : s ≠ d)
   (hx : Opd uses x (Zi5 dk e j off len)) (hy : Opd uses y (dk.sl.pd vs)) (hs : Opd uses (.tmp s) (pOwn dk e j c fs)) : OB P N o uses [(d, pInt .i64 (vs.length : Int)), (s, pOwn dk e j c (over fs off vs))] [j + 1] := by
 intro a g K Q hN hdN hu hK
 obtain ⟨b, cap, cur, hxv, hO1, _⟩ := hx a g hu
 obtain ⟨b', cap', cur', hsv, hO, hc⟩ := hs a g hu
 obtain ⟨rfl, rfl, rfl⟩ := hO.same hO1 hT.sz
 obtain ⟨A, c2, hy1, hy2, hy3, hyr⟩ := Zk0 (hy a g hu)
 obtain ⟨news, hl, hcl, hk⟩ : ∃ news : List Value, news.length = vs.length * dk.sz ∧ (vs = [] ∨ ∃ b2 o2, A = some ⟨b2, o2, none⟩ ∧ ∀ k u, news[k]? = some u → g.w.cell? ⟨b2, o2 + k, none⟩ = some u) ∧ ∀ i x, vs[i]? = some x → dk.K g x (seg news (i * dk.sz) dk.sz) := by
   rcases hyr with rfl | ⟨b2, o2, news, rfl, h1, h2, h3⟩
   · exact ⟨[], by simp, .inl rfl, fun i x hx => by simp at hx⟩
   · exact ⟨news, h1, .inr ⟨b2, o2, rfl, fun k u hu => (h2 k u hu).2⟩, h3⟩
 obtain ⟨g', hw, hst, hO'⟩ := Znj hO (off := off) hl (by omega) hk
 have hr := Zns hT hO (off := off) (len := len) hfit (A := A) (n := vs.length) (c2 := c2) (ws := vs) (by simp [Nat.min_eq_left hv]) hcl hl (Zj1 hl hk hT.sz) o.type
 have hr' : (execOp a.eval o).run P g.w = .ok (.value (.int .i64 (vs.length : Int))) g'.w := by
   simp [execOp, hop, resolve, invoke, builtin, hxv, hy1, hr, hw]
 unfold Oper.wp
 rw [hr']
 refine hK _ g' hst fun e he => ?_
 simp only [List.mem_cons, List.not_mem_nil, or_false] at he
 rcases he with rfl | rfl
 · rw [hd, Zc8 _ (by rw [hN]; exact hdN d hd)]; exact Zex _ _ g'
 · rw [Zgt _ (by rw [hd]; intro h; exact hsd (Option.some.inj h).symm)]
   exact ⟨b, cap, _, by rw [Zix (by omega)]; exact hsv, hO', hc⟩
theorem Zsq {fs fs2 : List (Option α)} {off len off2 len2 s s2 j2 : Nat} {c2 : Option Nat} {ws : List α} (hT : TE P t e dk bytes) (hfit : off + len ≤ fs.length) (hfit2 : off2 + len2 ≤ fs2.length) (hw : ws.length = Nat.min len2 len) (hws : ∀ i x, ws[i]? = some x → fs2[off2 + i]? = some (some x))
   (hop : o.op = .call { callee := .builtin .copy, args := #[x, y], argTypes := #[t, t] }) (hd : o.dst = some d) (hsd : s ≠ d) (hx : Opd uses x (Zi5 dk e j off len)) (hy : Opd uses y (Zi5 dk e j2 off2 len2)) (hs : Opd uses (.tmp s) (pOwn dk e j c fs)) (hs2 : Opd uses (.tmp s2) (pOwn dk e j2 c2 fs2)) :
   OB P N o uses [(d, pInt .i64 (ws.length : Int)), (s, pOwn dk e j c (over fs off ws))] [j + 1] := by
 intro a g K Q hN hdN hu hK
 obtain ⟨b, cap, cur, hxv, hO1, _⟩ := hx a g hu
 obtain ⟨b', cap', cur', hsv, hO, hc⟩ := hs a g hu
 obtain ⟨rfl, rfl, rfl⟩ := hO.same hO1 hT.sz
 obtain ⟨b3, cap3, cur3, hyv, hO3, hcap3⟩ := hy a g hu
 obtain ⟨b2, cap2, cur2, hsv2, hO2, hc2⟩ := hs2 a g hu
 obtain ⟨rfl, rfl, rfl⟩ := hO2.same hO3 hT.sz
 have hwl2 : ws.length ≤ len2 := by rw [hw]; exact Nat.min_le_left _ _
 have hwl : ws.length ≤ len := by rw [hw]; exact Nat.min_le_right _ _
 have hl2 := hO2.len
 have hcl2 : cur3.toList.length = cap3 * dk.sz := by simpa using hO2.sz
 let news := seg cur3.toList (off2 * dk.sz) (ws.length * dk.sz)
 have hnl : news.length = ws.length * dk.sz := by
   show ((cur3.toList.drop (off2 * dk.sz)).take (ws.length * dk.sz)).length = _
   rw [List.length_take, List.length_drop, hcl2]
   have : (off2 + ws.length) * dk.sz ≤ cap3 * dk.sz := Nat.mul_le_mul_right _ (by omega)
   rw [Nat.add_mul] at this; omega
 have hk : ∀ i x, ws[i]? = some x → dk.K g x (seg news (i * dk.sz) dk.sz) := fun i x hx => by
   have hi := (List.getElem?_eq_some_iff.1 hx).1
   have h1 := hO2.known _ _ (hws i x hx)
   have e : seg news (i * dk.sz) dk.sz = seg cur3.toList ((off2 + i) * dk.sz) dk.sz := by
     show (((cur3.toList.drop (off2 * dk.sz)).take (ws.length * dk.sz)).drop (i * dk.sz)).take dk.sz = _
     have := Zhc (sz := dk.sz) hi
     rw [List.drop_take, List.take_take, List.drop_drop, Nat.min_eq_left (by omega), Nat.add_mul]; rfl
   rw [e]; exact h1
 obtain ⟨g', hgw, hst, hO'⟩ := Znj hO (off := off) hnl (by omega) hk
 have hcell : ∀ k u, news[k]? = some u → g.w.cell? ⟨b3, off2 * dk.sz + k, none⟩ = some u := fun k u hu => by
   simp only [World.cell?, hO2.heap]
   have hu' : ((cur3.toList.drop (off2 * dk.sz)).take (ws.length * dk.sz))[k]? = some u := hu
   rw [List.getElem?_take] at hu'
   split at hu'
   · rw [List.getElem?_drop] at hu'
     simpa using hu'
   · cases hu'
 have hr := Zns hT hO (off := off) (len := len) hfit (A := some (if cap3 = off2 then ⟨b3, 0, none⟩ else ⟨b3, off2 * dk.sz, none⟩)) (n := len2) (c2 := cap3 - off2) (ws := ws) (news := news) hw (by
   by_cases he : cap3 = off2
   · left; apply List.eq_nil_of_length_eq_zero; omega
   · right; exact ⟨b3, off2 * dk.sz, by rw [if_neg he], hcell⟩) hnl (Zj1 hnl hk hT.sz) o.type
 have hr' : (execOp a.eval o).run P g.w = .ok (.value (.int .i64 (ws.length : Int))) g'.w := by
   simp only [execOp, hop, resolve, invoke, builtin, Sem.run_bind, Sem.run_pure, Result.andThen_ok, List.map_toArray, List.map_cons, List.map_nil, hxv, hyv, hr, hgw]
 unfold Oper.wp
 rw [hr']
 refine hK _ g' hst fun e he => ?_
 simp only [List.mem_cons, List.not_mem_nil, or_false] at he
 rcases he with rfl | rfl
 · rw [hd, Zc8 _ (by rw [hN]; exact hdN d hd)]; exact Zex _ _ g'
 · rw [Zgt _ (by rw [hd]; intro h; exact hsd (Option.some.inj h).symm)]
   exact ⟨b, cap, _, by rw [Zix (by omega)]; exact hsv, hO', hc⟩
end
section
variable {P : Program} {N : Nat} {o : Oper} {uses : Z3} {d : Nat} {q : Pd} {x y z : Operand} {α : Type} {dk : Kd α} {t e : TypeId} {bytes j : Nat} {c : Option Nat}
theorem OwnAt.ext {fs : List (Option α)} {g : G} {b cap h : Nat} {cur : Array Value} (hO : OwnAt dk e j fs g b cap cur) (h1 : fs.length ≤ h) (h2 : h ≤ cap) : OwnAt dk e j (fs ++ List.replicate (h - fs.length) none) g b cap cur :=
 ⟨hO.lt, hO.own, hO.uniq, hO.heap, by simp; omega, hO.max, hO.sz, fun i x hx => by
   rw [List.getElem?_append] at hx
   split at hx
   · exact hO.known i x hx
   · rw [List.getElem?_replicate] at hx
     split at hx <;> simp at hx, hO.npr⟩
theorem OwnAt.sub {fs fs' : List (Option α)} {g : G} {b cap : Nat} {cur : Array Value} (hO : OwnAt dk e j fs g b cap cur) (hl : fs'.length ≤ cap) (hk : ∀ (i : Nat) (x : α), fs'[i]? = some (some x) → fs[i]? = some (some x)) : OwnAt dk e j fs' g b cap cur :=
 ⟨hO.lt, hO.own, hO.uniq, hO.heap, hl, hO.max, hO.sz, fun i x hx => hO.known i x (hk i x hx), hO.npr⟩
theorem Zik (z : Array Value) (n : Nat) : (Builtin.zeroCells z n).size = n * z.size := by simp [Builtin.zeroCells]
theorem Zo3 {g : G} {cur : Array Value} {cap : Nat} {fs : List (Option α)} (hj : j ≠ 0) (hl : fs.length ≤ cap) (hm : cap ≤ maxLen) (hs : cur.size = cap * dk.sz) (hk : ∀ (i : Nat) (x : α), fs[i]? = some (some x) → dk.K g x (seg cur.toList (i * dk.sz) dk.sz)) :
   ∃ g' : G, g'.w = g.w.drew.alloc (.cells cur e) ∧ Step [j] g g' ∧ OwnAt dk e j fs g' g.w.heap.size cap cur := by
 have hs1 := Step.drew g
 have hs2 := Zgw g.drew cur e (fun _ => False) j
 have hst : Step [j] g (g.drew.push cur e (fun _ => False) j) := (hs1.sub (by simp)).trans hs2
 have hsz : g.drew.w.heap.size = g.w.heap.size := rfl
 refine ⟨g.drew.push cur e (fun _ => False) j, rfl, hst, ⟨by rw [Zeu, Zgu]; omega, by simp [G.push, hsz], fun b' hb' ho => ?_, by rw [Zeu, ← hsz]; exact Zi0 .., hl, hm, hs, fun i x hx => dk.mono hst.le (hk i x hx), fun o => by simp [G.push, hsz]⟩⟩
 by_cases h : b' = g.drew.w.heap.size
 · rw [h, hsz]
 · simp only [G.push, if_neg h] at ho
   split at ho
   · exact absurd ho.symm hj
   · rename_i h2; exact absurd ho h2
theorem Zny {j : Nat} {ty : TypeId} (hT : TE P t e dk bytes) (hop : o.op = .buildSlice t 0 #[]) (hd : o.dst = some d) : OB P N o uses [(d, pOwn dk e j (some 0) ([] : List (Option α)))] [j + 1] :=
 Zfw hd fun a g hh => by
   have hs2 := Zgw g #[] e (fun _ => False) (j + 1)
   refine ⟨.slice (some ⟨g.w.heap.size, 0, none⟩) 0 0, g.push #[] e (fun _ => False) (j + 1), ?_, hs2, g.w.heap.size, 0, #[], rfl, ⟨by rw [Zeu, Zgu]; omega, by simp [G.push], fun b' hb' ho => ?_, by rw [Zeu]; exact Zi0 .., Nat.le_refl _, Nat.zero_le _, by simp, fun i x hx => by simp at hx, fun o => by simp [G.push]⟩, fun k hk => Option.some.inj hk⟩
   · obtain ⟨cells, hl, _, hr⟩ := Zqg (ys := []) (xs := []) hT .nil (by simp) hh
     have hc : cells = [] := List.eq_nil_of_length_eq_zero (by simpa using hl)
     subst hc
     rw [Zeu]
     have hr' : (Instr.buildSlice t 0 #[]).run P g.w = .ok (.slice (some ⟨g.w.heap.size, 0, none⟩) 0 0) (g.w.alloc (.cells #[] e)) := by simpa [idxL] using hr
     simp [execOp, hop]
     rw [hr']; rfl
   · by_cases h : b' = g.w.heap.size
     · exact h
     · simp only [G.push, if_neg h] at ho
       split at ho
       · omega
       · rename_i h2; exact absurd ho h2
theorem Zj9 {xs vs : List α} (hT : TE P t e dk bytes) (hop : o.op = .call { callee := .builtin .append, args := #[x, y], argTypes := #[t, t] }) (hd : o.dst = some d) (hx : Opd uses x (pOwn dk e j c (xs.map some))) (hy : Opd uses y (dk.sl.pd vs)) (hl : (xs.length + vs.length) * bytes ≤ 140737488355328) :
   OB P N o uses [(d, pOwn dk e j none ((xs ++ vs).map some))] [j + 1] :=
 Zfw hd fun a g hh => by
   obtain ⟨b, cap, cur, hv, hO, _⟩ := hx a g hh
   obtain ⟨A, c2, hy1, hy2, hy3, hyr⟩ := Zk0 (hy a g hh)
   obtain ⟨i, zz, hi, hz, hsz, hby, hzs⟩ := hT.info
   have hb0 := hT.by0
   have hexec : ∀ v w', (Builtin.append_ #[t, t] o.type #[a.eval x, a.eval y]).run P g.w = .ok v w' → (execOp a.eval o).run P g.w = .ok (.value v) w' := fun v w' h => by
     simp [execOp, hop, resolve, invoke, builtin, h]
   have hlen : xs.length + vs.length ≤ 140737488355328 := Nat.le_trans (Nat.le_mul_of_pos_right _ hb0) hl
   have hOl := hO.len
   rw [List.length_map] at hOl hv
   rcases Nat.eq_zero_or_pos vs.length with h0 | hpos
   · obtain rfl := List.eq_nil_of_length_eq_zero h0
     refine ⟨a.eval x, g, hexec _ _ ?_, .refl _ _, b, cap, cur, by rw [hv]; simp, by rw [List.append_nil]; exact hO, fun k hk => by cases hk⟩
     rw [hv, hy1]
     cases A <;> simp [Builtin.append_, run_underlying hT.und, sizeOf, typeInfo, hi, Builtin.lenOf, Builtin.firstCells, loadCells, loadCellsFrom, hOl, storeCells]
   · obtain ⟨b2, o2, news, rfl, hnl, hnc, hnk⟩ := hyr.resolve_left (fun h => by rw [h] at hpos; simp at hpos)
     have hn1 := Zj1 hnl hnk hT.sz
     have hnl' : news.length = vs.length * i.size := by rw [hsz]; exact hnl
     have hnews : ∀ k u, news[k]? = some u → g.w.cell? ((⟨b2, o2, none⟩ : Addr).add k) = some u := fun k u hu => by rw [Zcw]; exact (hnc k u hu).2
     by_cases hroom : xs.length + vs.length ≤ cap
     · have hO2 := hO.ext (h := xs.length + vs.length) (by simp) hroom
       obtain ⟨g', hw, hst, hO3⟩ := Znj hO2 (off := xs.length) (ws := vs) hnl (by simp) hnk
       have hr := run_append_room (P := P) g.w t o.type e i hT.und hi b xs.length cap cur hO.heap ⟨b2, o2, none⟩ vs.length c2 news hnl' hnews hn1 hroom (by rw [hnl', ← Nat.add_mul, hO.sz, hsz]; exact Nat.mul_le_mul_right _ hroom)
       rw [hsz] at hr
       refine ⟨_, g', hexec _ _ (by rw [hv, hy1]; rw [hw]; exact hr), hst, b, cap, (Z2 cur.toList (xs.length * dk.sz) news).toArray, by simp, ?_, fun k hk => by cases hk⟩
       refine hO3.sub (by simp; omega) fun k u hk => ?_
       rw [Zid (by simp)]
       rw [List.getElem?_map] at hk
       by_cases h1 : k < xs.length
       · rw [if_pos h1, List.getElem?_append_left (by simpa using h1), List.getElem?_map]
         rwa [List.getElem?_append_left h1] at hk
       · rw [if_neg h1]
         have h2 := (List.getElem?_eq_some_iff.1 (show (xs ++ vs)[k]? = some u by
           obtain ⟨y, hy, he⟩ := Option.map_eq_some_iff.1 hk
           rw [hy, Option.some.inj he])).1
         rw [List.length_append] at h2
         rw [if_pos h2]
         rwa [List.getElem?_append_right (by omega)] at hk
     · have hcl : cur.toList.length = cap * dk.sz := by simpa using hO.sz
       have hol : (cur.toList.take (xs.length * dk.sz)).length = xs.length * i.size := by rw [hsz, List.length_take, hcl]; exact Nat.min_eq_left (Nat.mul_le_mul_right _ hOl)
       have holds : ∀ k u, (cur.toList.take (xs.length * dk.sz))[k]? = some u → g.w.cell? ((⟨b, 0, none⟩ : Addr).add k) = some u := fun k u hu => by
         rw [Zcw]
         simp only [World.cell?, hO.heap, Nat.zero_add]
         rw [List.getElem?_take] at hu
         split at hu
         · simpa using hu
         · cases hu
       have hr := run_append_grow (P := P) g.w t o.type e i zz hT.und hi hz ⟨b, 0, none⟩ xs.length cap (cur.toList.take (xs.length * dk.sz)) hol holds ⟨b2, o2, none⟩ vs.length c2 news hnl' hnews (by omega) (by omega) (growslice_fits (by omega) (by rw [hby]; exact hl))
       have hge := grownCap_ge g.w (xs.length + vs.length) cap e
       have hmx := grownCap_le_maxLen g.w (xs.length + vs.length) cap e (by simp only [maxLen]; omega)
       rw [hsz] at hol
       obtain ⟨g', hw, hst, hO3⟩ := Zo3 (dk := dk) (e := e) (g := g) (j := j + 1) (cur := (cur.toList.take (xs.length * dk.sz)).toArray ++ news.toArray ++ Builtin.zeroCells zz.cells (grownCap g.w (xs.length + vs.length) cap e - (xs.length + vs.length))) (cap := grownCap g.w (xs.length + vs.length) cap e) (fs := (xs ++ vs).map some) (by omega) (by simpa using hge) hmx (by
           simp only [Array.size_append, List.size_toArray, Zik, hzs, hol, hnl, ← Nat.add_mul]
           congr 1; omega) (fun k u hk => by
           rw [List.getElem?_map] at hk
           obtain ⟨u', hu', he'⟩ := Option.map_eq_some_iff.1 hk
           obtain rfl := Option.some.inj he'
           simp only [Array.toList_append, List.append_assoc]
           rw [List.getElem?_append] at hu'
           split at hu'
           · rename_i h1
             rw [Zd2 (by rw [hol]; exact Zhc h1)]
             have e2 : seg (cur.toList.take (xs.length * dk.sz)) (k * dk.sz) dk.sz = seg cur.toList (k * dk.sz) dk.sz := by
               have := Zhc (sz := dk.sz) h1
               simp only [seg, List.drop_take, List.take_take]
               congr 1; omega
             rw [e2]
             exact hO.known k u' (by rw [List.getElem?_map, hu']; rfl)
           · rename_i h1
             have h2 := (List.getElem?_eq_some_iff.1 hu').1
             rw [show k * dk.sz = (cur.toList.take (xs.length * dk.sz)).length + (k - xs.length) * dk.sz by rw [hol, ← Nat.add_mul]; congr 1; omega, Zfb, Zd2 (by rw [hnl]; exact Zhc h2)]
             exact hnk _ _ hu')
       refine ⟨_, g', hexec _ _ (by rw [hv, hy1]; rw [hw]; exact hr), hst, _, _, _, by simp, hO3, fun k hk => by cases hk⟩
theorem Zuw {fs : List (Option α)} {n off len s k : Nat} {xs ws : List α} (hT : TE P t e dk bytes) (hn : n = xs.length) (hn2 : n + len ≤ k) (hfs : off + len ≤ fs.length) (hw : ws.length = len) (hxs : ∀ (i : Nat) (x : α), xs[i]? = some x → fs[i]? = some (some x)) (hws : ∀ (i : Nat) (x : α), ws[i]? = some x → fs[off + i]? = some (some x))
   (hop : o.op = .call { callee := .builtin .append, args := #[x, y], argTypes := #[t, t] }) (hd : o.dst = some d) (hx : Opd uses x (Zi5 dk e j 0 n)) (hy : Opd uses y (Zi5 dk e j off len)) (hs : Opd uses (.tmp s) (pOwn dk e j (some k) fs)) :
   OB P N o uses [(d, pOwn dk e j (some k) ((xs ++ ws).map some))] [j + 1] :=
 Zfw hd fun a g hh => by
   obtain ⟨b, cap, cur, hxv, hO1, _⟩ := hx a g hh
   obtain ⟨b', cap', cur', hsv, hO, hc⟩ := hs a g hh
   obtain rfl := hc k rfl
   obtain ⟨rfl, rfl, rfl⟩ := hO.same hO1 hT.sz
   obtain ⟨b3, cap3, cur3, hyv, hO3, hcap3⟩ := hy a g hh
   obtain ⟨rfl, rfl, rfl⟩ := hO.same hO3 hT.sz
   obtain ⟨i, zz, hi, hz, hsz, hby, hzs⟩ := hT.info
   have hl2 := hO.len
   have hcl : cur3.toList.length = cap3 * dk.sz := by simpa using hO.sz
   let news := seg cur3.toList (off * dk.sz) (len * dk.sz)
   have hnl : news.length = ws.length * dk.sz := by
     show ((cur3.toList.drop (off * dk.sz)).take (len * dk.sz)).length = _
     rw [List.length_take, List.length_drop, hcl, hw]
     have : (off + len) * dk.sz ≤ cap3 * dk.sz := Nat.mul_le_mul_right _ (by omega)
     rw [Nat.add_mul] at this; omega
   have hk : ∀ (i : Nat) (x : α), ws[i]? = some x → dk.K g x (seg news (i * dk.sz) dk.sz) := fun i x hx => by
     have hi := (List.getElem?_eq_some_iff.1 hx).1
     have h1 := hO.known _ _ (hws i x hx)
     have e : seg news (i * dk.sz) dk.sz = seg cur3.toList ((off + i) * dk.sz) dk.sz := by
       show (((cur3.toList.drop (off * dk.sz)).take (len * dk.sz)).drop (i * dk.sz)).take dk.sz = _
       have := Zhc (sz := dk.sz) (show i < len by omega)
       rw [List.drop_take, List.take_take, List.drop_drop, Nat.min_eq_left (by omega), Nat.add_mul]; rfl
     rw [e]; exact h1
   have hcell : ∀ k u, news[k]? = some u → g.w.cell? ((⟨b3, off * dk.sz, none⟩ : Addr).add k) = some u := fun k u hu => by
     rw [Zcw]
     simp only [World.cell?, hO.heap]
     have hu' : ((cur3.toList.drop (off * dk.sz)).take (len * dk.sz))[k]? = some u := hu
     rw [List.getElem?_take] at hu'
     split at hu'
     · rw [List.getElem?_drop] at hu'
       simpa using hu'
     · cases hu'
   have hO4 := (hO.sub (fs' := xs.map some) (by rw [List.length_map]; omega) (fun i x hx => by
     rw [List.getElem?_map] at hx
     obtain ⟨y, hy, he⟩ := Option.map_eq_some_iff.1 hx
     rw [hxs i y hy, he])).ext (h := n + len) (by rw [List.length_map]; omega) (by omega)
   obtain ⟨g', hgw, hst, hO5⟩ := Znj hO4 (off := n) (ws := ws) hnl (by simp; omega) hk
   have hb0 : (if cap3 = 0 then (⟨b3, 0, none⟩ : Addr) else ⟨b3, 0 * dk.sz, none⟩) = ⟨b3, 0, none⟩ := by split <;> simp
   have hr : (Builtin.append_ #[t, t] o.type #[a.eval x, a.eval y]).run P g.w = .ok (.slice (some ⟨b3, 0, none⟩) (n + len) cap3) g'.w := by
     rw [hxv, hyv, hb0, hgw, Nat.sub_zero]
     by_cases h0 : cap3 = off
     · have hl0 : len = 0 := by omega
       have hn0 : news = [] := List.eq_nil_of_length_eq_zero (by rw [hnl, hw, hl0]; simp)
       rw [if_pos h0]
       have := run_append_room (P := P) g.w t o.type e i hT.und hi b3 n cap3 cur3 hO.heap ⟨b3, 0, none⟩ len (cap3 - off) news (by rw [hn0, hl0]; simp) (fun j u hu => by rw [hn0] at hu; simp at hu) (fun u hu => by rw [hn0] at hu; cases hu) (by omega) (by rw [hn0, hO.sz, hsz]; simp; exact Nat.mul_le_mul_right _ (by omega))
       rw [hsz] at this
       exact this
     · rw [if_neg h0]
       have := run_append_room (P := P) g.w t o.type e i hT.und hi b3 n cap3 cur3 hO.heap ⟨b3, off * dk.sz, none⟩ len (cap3 - off) news (by rw [hnl, hw, hsz]) hcell (Zj1 hnl hk hT.sz) (by omega) (by rw [hnl, hw, hsz, ← Nat.add_mul, hO.sz]; exact Nat.mul_le_mul_right _ (by omega))
       rw [hsz] at this
       exact this
   refine ⟨_, g', ?_, hst, b3, cap3, (Z2 cur3.toList (n * dk.sz) news).toArray, rfl, ?_, hc⟩
   · rw [show ((xs ++ ws).map some).length = n + len by simp; omega]
     simp [execOp, hop, resolve, invoke, builtin, hr]
   · refine hO5.sub (by simp; omega) fun k u hk => ?_
     rw [Zid (by simp; omega)]
     rw [List.getElem?_map] at hk
     by_cases h1 : k < n
     · rw [if_pos h1, List.getElem?_append_left (by simp; omega), List.getElem?_map]
       rwa [List.getElem?_append_left (by omega)] at hk
     · rw [if_neg h1]
       have h2 := (List.getElem?_eq_some_iff.1 (show (xs ++ ws)[k]? = some u by
         obtain ⟨y, hy, he⟩ := Option.map_eq_some_iff.1 hk
         rw [hy, Option.some.inj he])).1
       rw [List.length_append] at h2
       rw [if_pos (by omega)]
       rw [List.getElem?_append_right (by omega)] at hk
       rw [hn]; exact hk
theorem Zlz (w : World) (t tn ty e : TypeId) (i : TypeInfo) (z : Value) (k kn : IntKind) (ht : P.underlying t = some (.slice e)) (htn : P.underlying tn = some (.int kn)) (hi : P.info? e = some i) (hz : i.zero = some z)
   (b : Addr) (sLen sCap : Nat) (olds : List Value) (hlo : olds.length = sLen * i.size) (holds : ∀ j v, olds[j]? = some v → w.cell? (b.add j) = some v)
   (n : Nat) (h0 : 0 < n) (hs : 0 < i.size) (hg : sCap < sLen + n) (h63 : ((sLen + n : Nat) : Int) ≤ 9223372036854775807) (h48 : n * i.bytes ≤ 281474976710656) (hfit : Builtin.nextslicecap (sLen + n) sCap * i.bytes ≤ 281474976710656) :
   (Builtin.append_ #[t, tn] ty #[.slice (some b) sLen sCap, .int k n]).run P w =
     .ok (.slice (some ⟨w.heap.size, 0, none⟩) (sLen + n) (grownCap w (sLen + n) sCap e))
       (w.drew.alloc (.cells (olds.toArray ++ Builtin.zeroCells z.cells n ++ Builtin.zeroCells z.cells (grownCap w (sLen + n) sCap e - (sLen + n))) e)) := by
 have hw : IntKind.i64.wrap (n : Int) = n := by rw [IntKind.wrap_i64]; omega
 have hn : ¬ (sLen + n ≤ sCap) := by omega
 have h63' : ¬ (9223372036854775807 < ((sLen : Int) + (n : Int))) := by omega
 have h48' : ¬ (281474976710656 < Builtin.nextslicecap (sLen + n) sCap * i.bytes) := by omega
 have h48i : ¬ (281474976710656 < (n : Int) * (i.bytes : Int)) := by
   rw [← Int.natCast_mul]
   omega
 have hneg : ¬ ((n : Int) < 0) := by omega
 have hns : ¬ (n * i.size = 0) := Nat.mul_ne_zero (by omega) (by omega)
 have hfo := run_firstCells_some (P := P) w.drew i.size sLen b sLen sCap olds hlo (by simpa using holds)
 simp [Builtin.append_, run_underlying ht, run_underlying htn, sizeOf, typeInfo, zeroValue, hi, hz, asInt, asIntOf, hw, hn, hneg, hns, h63', h48', h48i, Question.forced, hfo, newRow, grownCap]
theorem Zu8 {fs : List (Option α)} {n m s k d2 tn : Nat} {kn : IntKind} {xs : List α} (hT : TE P t e dk bytes) (htn : P.underlying tn = some (.int kn)) (hn : n = xs.length) (hfs : n ≤ fs.length) (hm : 0 < m) (hk : k < n + m) (hb : (n + m) * bytes ≤ 140737488355328) (hxs : ∀ (i : Nat) (x : α), xs[i]? = some x → fs[i]? = some (some x))
   (hop : o.op = .call { callee := .builtin .append, args := #[x, y], argTypes := #[t, tn] }) (hd : o.dst = some d) (hx : Opd uses x (Zi5 dk e j 0 n)) (hy : Opd uses y (pInt .i64 (m : Int))) (hs : Opd uses (.tmp s) (pOwn dk e j (some k) fs)) :
   OB P N o uses [(d, pOwn dk e d2 none (xs.map some ++ List.replicate m none))] [d2 + 1] :=
 Zfw hd fun a g hh => by
   obtain ⟨b, cap, cur, hxv, hO1, _⟩ := hx a g hh
   obtain ⟨b', cap', cur', hsv, hO, hc⟩ := hs a g hh
   obtain rfl := hc k rfl
   obtain ⟨rfl, rfl, rfl⟩ := hO.same hO1 hT.sz
   obtain ⟨i, zz, hi, hz, hsz, hby, hzs⟩ := hT.info
   have hyv := Zca.1 (hy a g hh)
   have hb0 : (if cap = 0 then (⟨b, 0, none⟩ : Addr) else ⟨b, 0 * dk.sz, none⟩) = ⟨b, 0, none⟩ := by split <;> simp
   have hOl := hO.len
   have hcl : cur.toList.length = cap * dk.sz := by simpa using hO.sz
   have hlen : n + m ≤ 140737488355328 := Nat.le_trans (Nat.le_mul_of_pos_right _ hT.by0) hb
   have hol : (cur.toList.take (n * dk.sz)).length = n * dk.sz := by rw [List.length_take, hcl]; exact Nat.min_eq_left (Nat.mul_le_mul_right _ (by omega))
   have holds : ∀ k u, (cur.toList.take (n * dk.sz))[k]? = some u → g.w.cell? ((⟨b, 0, none⟩ : Addr).add k) = some u := fun k u hu => by
     rw [Zcw]
     simp only [World.cell?, hO.heap, Nat.zero_add]
     rw [List.getElem?_take] at hu
     split at hu
     · simpa using hu
     · cases hu
   have hmb : m * bytes ≤ (n + m) * bytes := Nat.mul_le_mul_right _ (by omega)
   have hr := Zlz (P := P) g.w t tn o.type e i zz .i64 kn hT.und htn hi hz ⟨b, 0, none⟩ n cap (cur.toList.take (n * dk.sz)) (by rw [hol, hsz]) holds m hm (by rw [hsz]; exact hT.sz) hk (by omega) (by rw [hby]; omega) (growslice_fits hk (by rw [hby]; exact hb))
   have hge := grownCap_ge g.w (n + m) cap e
   have hmx := grownCap_le_maxLen g.w (n + m) cap e (by simp only [maxLen]; omega)
   obtain ⟨g', hw, hst, hO3⟩ := Zo3 (dk := dk) (e := e) (g := g) (j := d2 + 1) (cur := (cur.toList.take (n * dk.sz)).toArray ++ Builtin.zeroCells zz.cells m ++ Builtin.zeroCells zz.cells (grownCap g.w (n + m) cap e - (n + m))) (cap := grownCap g.w (n + m) cap e) (fs := xs.map some ++ List.replicate m none) (by omega) (by simp; omega) hmx (by
       simp only [Array.size_append, List.size_toArray, Zik, hzs, hol, ← Nat.add_mul]
       congr 1; omega) (fun k u hk => by
       rw [List.getElem?_append] at hk
       split at hk
       · rename_i h1
         rw [List.length_map] at h1
         rw [List.getElem?_map] at hk
         obtain ⟨u', hu', he'⟩ := Option.map_eq_some_iff.1 hk
         obtain rfl := Option.some.inj he'
         simp only [Array.toList_append, List.append_assoc]
         rw [Zd2 (by rw [hol]; exact Zhc (by omega))]
         have e2 : seg (cur.toList.take (n * dk.sz)) (k * dk.sz) dk.sz = seg cur.toList (k * dk.sz) dk.sz := by
           have := Zhc (sz := dk.sz) (show k < n by omega)
           simp only [seg, List.drop_take, List.take_take]
           congr 1; omega
         rw [e2]
         exact hO.known k u' (hxs k u' hu')
       · rw [List.getElem?_replicate] at hk
         split at hk <;> simp at hk)
   refine ⟨_, g', ?_, hst, _, _, _, rfl, hO3, fun k hk => by cases hk⟩
   rw [show (xs.map some ++ List.replicate m (none : Option α)).length = n + m by simp; omega]
   rw [hb0, Nat.sub_zero] at hxv
   simp [execOp, hop, resolve, invoke, builtin, hxv, hyv, hr, hw]
theorem Zvy {fs : List (Option α)} {off len s k : Nat} (hT : TE P t e dk bytes) (hz1 : ((P.info? e).bind (·.zero)).map (fun z => z.cells.all (·.oneCell')) = some true) (hfs : fs.length ≤ off) (hk : off + len ≤ k)
   (hop : o.op = .call { callee := .builtin .clear, args := #[x], argTypes := #[t] }) (hd : o.dst = none) (hx : Opd uses x (Zi5 dk e j off len)) (hs : Opd uses (.tmp s) (pOwn dk e j (some k) fs)) : OB P N o uses [(s, pOwn dk e j (some k) fs)] [j + 1] := by
 intro a g K Q hN hdN hu hK
 obtain ⟨b, cap, cur, hxv, hO1, _⟩ := hx a g hu
 obtain ⟨b', cap', cur', hsv, hO, hc⟩ := hs a g hu
 obtain rfl := hc k rfl
 obtain ⟨rfl, rfl, rfl⟩ := hO.same hO1 hT.sz
 obtain ⟨i, zz, hi, hz, hsz, hby, hzs⟩ := hT.info
 have hcl : cur.toList.length = cap * dk.sz := by simpa using hO.sz
 have hone : ∀ u ∈ (Builtin.zeroCells zz.cells len).toList, u.oneCell' = true := by
   simp only [hi, hz, Option.bind_some, Option.map_some, Option.some.injEq] at hz1
   intro u hu
   simp only [Builtin.zeroCells, Array.toList_map, List.mem_map] at hu
   obtain ⟨m, hm, rfl⟩ := hu
   have h0 : 0 < zz.cells.size := by rw [hzs]; exact hT.sz
   have hlt : m % zz.cells.size < zz.cells.size := Nat.mod_lt _ h0
   rw [getElem!_pos zz.cells _ hlt]
   exact Array.all_eq_true.1 hz1 _ hlt
 have hcl2 : (cur.toList.take (off * dk.sz) ++ (Builtin.zeroCells zz.cells len).toList ++ cur.toList.drop (off * dk.sz + (Builtin.zeroCells zz.cells len).toList.length)).toArray = (Z2 cur.toList (off * dk.sz) (Builtin.zeroCells zz.cells len).toList).toArray := rfl
 have hzl : (Builtin.zeroCells zz.cells len).toList.length = len * dk.sz := by rw [Array.length_toList, Zik, hzs]
 have hfit : off * dk.sz + (Builtin.zeroCells zz.cells len).toList.length ≤ cur.toList.length := by rw [hzl, hcl, ← Nat.add_mul]; exact Nat.mul_le_mul_right _ hk
 let cs := (Z2 cur.toList (off * dk.sz) (Builtin.zeroCells zz.cells len).toList).toArray
 have hr : (Builtin.clear_ #[t] o.type #[a.eval x]).run P g.w = .ok (.tuple #[]) (g.w.setRow b cs) := by
   rw [hxv]
   rcases Nat.eq_zero_or_pos len with rfl | hpos
   · have hs0 : cs = cur := by
       show (Z2 cur.toList (off * dk.sz) (Builtin.zeroCells zz.cells 0).toList).toArray = cur
       have : (Builtin.zeroCells zz.cells 0).toList = [] := by simp [Builtin.zeroCells]
       rw [this]; simp [Z2]
     rw [hs0, setRow_self g.w b cur e (0, 0) hO.heap]
     by_cases he : cap = off <;> simp [Builtin.clear_, run_underlying hT.und]
   · have he : ¬ cap = off := by omega
     rw [if_neg he]
     have hst := run_storeCells_at P b (off * dk.sz) e (Builtin.zeroCells zz.cells len).toList 0 cur g.w hO.heap (by rw [Nat.add_zero]; simpa using hfit) hone
     rw [Nat.add_zero] at hst
     obtain ⟨len, rfl⟩ : ∃ m, len = m + 1 := ⟨len - 1, by omega⟩
     simp [Builtin.clear_, run_underlying hT.und, zeroValue, typeInfo, hi, hz]
     rw [hst]; rfl
 have hr' : (execOp a.eval o).run P g.w = .ok (.value (.tuple #[])) (g.w.setRow b cs) := by
   simp [execOp, hop, resolve, invoke, builtin, hr]
 unfold Oper.wp
 rw [hr']
 have hst : Step [j + 1] g (g.wr b cs hO.lt hO.npr (fun _ => False) (j + 1)) := Zkj hO.own (.inr rfl) hO.npr
 refine hK _ (g.wr b cs hO.lt hO.npr (fun _ => False) (j + 1)) hst fun e he => ?_
 rw [List.mem_singleton.1 he]
 have hat : Act.at (a.put o.dst (.tuple #[])) s = Act.at a s := by rw [hd]; rfl
 rw [hat]
 refine ⟨b, cap, cs, hsv, ⟨by rw [wr_w, Zd9]; exact hO.lt, by simp [G.wr], fun b' hb' ho => ?_, by rw [wr_w]; exact setRow_heap _ _ _ _ _ _ hO.heap, hO.len, hO.max, ?_, fun i x hx => ?_, fun o => by simp [G.wr]⟩, hc⟩
 · rw [wr_w, Zd9] at hb'
   simp only [G.wr] at ho
   split at ho
   · assumption
   · exact hO.uniq b' hb' ho
 · show (Z2 cur.toList (off * dk.sz) (Builtin.zeroCells zz.cells len).toList).toArray.size = _
   rw [List.size_toArray, Zdd hfit, hcl]
 · have hi := (List.getElem?_eq_some_iff.1 hx).1
   have e2 : seg cs.toList (i * dk.sz) dk.sz = seg cur.toList (i * dk.sz) dk.sz := by
     show seg (Z2 cur.toList (off * dk.sz) (Builtin.zeroCells zz.cells len).toList) (i * dk.sz) dk.sz = _
     exact Z0 hfit (.inl (Zhc (by omega)))
   rw [e2]
   exact dk.mono hst.le (hO.known i x hx)
end
section
variable {P : Program} {N : Nat} {o : Oper} {uses : Z3} {d : Nat} {q : Pd} {x y z : Operand} {α : Type} {dk : Kd α} {t e : TypeId} {bytes j : Nat} {c : Option Nat}
theorem Zsp {w : World} {ps rs : Array TypeId} {A : Option Addr} {la ca lb cb : Nat} {B : Addr} {cur : Array Value} {i : TypeInfo} (hp : ps[0]? = some t) (ht : P.underlying t = some (.slice e)) (hi : P.info? e = some i)
   (hA : la = 0 ∨ ∃ a c2 t2 fr, A = some a ∧ a.block ≠ B.block ∧ w.heap[a.block]? = some (.cells c2 t2 fr) ∧ c2.size ≠ 0) (hB : w.heap[B.block]? = some (.cells cur e (0, 0))) (hc : cur.size ≠ 0) :
   (Extern.SlicesOverlaps.overlaps ps rs #[.slice A la ca, .slice (some B) lb cb]).run P w = .ok (.bool false) w := by
 have hfb : ∀ n, w.frozen? { block := B.block, off := n } = false := fun n => by simp [World.frozen?, hB]
 have hfb' : w.frozen? B = false := by simp [World.frozen?, hB]
 have hsb : w.shape? B.block = some (e, cur.size) := by simp [World.shape?, hB]
 obtain ⟨n, hn⟩ : ∃ n, cur.size = n + 1 := ⟨cur.size - 1, by omega⟩
 rw [hn] at hsb
 change Sem.run P (α := Value) (do
   let some t := ps[0]? | stuck "slices.overlaps: no parameter types"
   let .slice elem ← underlying t | stuck "slices.overlaps: slice type expected"
   let size ← sizeOf elem
   match A, (some B : Option Addr) with
   | some a, some b =>
     if la = 0 ∨ lb = 0 ∨ size = 0 then pure (Value.bool false)
     else if a.block != b.block && (← frozen a) && (← frozen b) then unsupported .addressObserved
     else do
       if a.block != b.block then do
         noView a; noView b
         if ← mayBeOne a b then return Value.bool ((← choose (.extern "sameAddr.stringBytes" 2)) == 1)
       pure (Value.bool (a.block == b.block && a.off < b.off + lb * size && b.off < a.off + la * size))
   | _, _ => pure (Value.bool false)) w = _
 rcases hA with rfl | ⟨a, c2, t2, fr, rfl, hne, ha, hc2⟩
 · cases A <;> simp [hp, run_underlying ht, sizeOf, typeInfo, hi]
 · have hnb : (a.block != B.block) = true := by simpa using hne
   have hnb' : (a.block == B.block) = false := by simpa using hne
   obtain ⟨n2, hn2⟩ : ∃ n, c2.size = n + 1 := ⟨c2.size - 1, by omega⟩
   have hsa : w.shape? a.block = some (t2, n2 + 1) := by simp [World.shape?, ha, hn2]
   by_cases h0 : la = 0 ∨ lb = 0 ∨ i.size = 0
   · simp [hp, run_underlying ht, sizeOf, typeInfo, hi, h0]
   · cases hfa : w.frozen? a <;> cases hfe : w.frozen? { block := a.block, off := n2 + 1 } <;>
       simp [hp, run_underlying ht, sizeOf, typeInfo, hi, h0, hnb, hnb', frozen, noView, viewAt, mayBeOne, stringish, shape, Sem.run, hsa, hsb, hfa, hfe, hfb, hfb']
theorem Zth {f : FuncId} {fs : List (Option α)} {off len s : Nat} {vs : List α} {ps rs : Array TypeId} {ty : Array TypeId} (hT : TE P t e dk bytes) (hp : ps[0]? = some t) (he : Ext P f (Extern.SlicesOverlaps.overlaps ps rs)) (hfs : 0 < fs.length) (hop : o.op = .call { callee := .value (.func f), args := #[x, y], argTypes := ty }) (hd : o.dst = some d)
   (hx : Opd uses x (dk.sl.pd vs)) (hy : Opd uses y (Zi5 dk e j off len)) (hs : Opd uses (.tmp s) (pOwn dk e j c fs)) : OB P N o uses [(d, Z9 false)] [] :=
 Zbx hd fun a g hh => by
   obtain ⟨A, c2, hx1, hx2, hx3, hxr⟩ := Zk0 (hx a g hh)
   obtain ⟨b, cap, cur, hyv, hO, hcap⟩ := hy a g hh
   obtain ⟨b', cap', cur', hsv, hO', _⟩ := hs a g hh
   obtain ⟨rfl, rfl, rfl⟩ := hO.same hO' hT.sz
   obtain ⟨i, zz, hi, hz, hsz, hby, hzs⟩ := hT.info
   have hl := hO'.len
   have hcs : cur'.size ≠ 0 := by rw [hO'.sz]; exact Nat.mul_ne_zero (by omega) (Nat.ne_of_gt hT.sz)
   have hr : (Extern.SlicesOverlaps.overlaps ps rs #[a.eval x, a.eval y]).run P g.w = .ok (.bool false) g.w := by
     rw [hx1, hyv]
     have hblk : (if cap' = off then (⟨b', 0, none⟩ : Addr) else ⟨b', off * dk.sz, none⟩).block = b' := by split <;> rfl
     refine Zsp hp hT.und hi ?_ (by rw [hblk]; exact hO'.heap) hcs
     rw [hblk]
     rcases hxr with rfl | ⟨b2, o2, news, rfl, hnl, hnc, hnk⟩
     · exact .inl rfl
     · rcases Nat.eq_zero_or_pos vs.length with h0 | hpos
       · exact .inl h0
       · right
         have h1 : 0 < news.length := by rw [hnl]; exact Nat.mul_pos hpos hT.sz
         obtain ⟨hpr, hcell⟩ := hnc 0 _ (List.getElem?_eq_getElem h1)
         have hne : b2 ≠ b' := fun h => hO'.npr _ (by rw [← h]; exact hpr)
         obtain ⟨cc, tt, fr, hh2, hcs2⟩ : ∃ cc tt fr, g.w.heap[b2]? = some (.cells cc tt fr) ∧ cc.size ≠ 0 := by
           cases hob : g.w.heap[b2]? with
           | none => simp [World.cell?, hob] at hcell
           | some ob => cases ob with
             | cells cc tt fr =>
               refine ⟨cc, tt, fr, rfl, fun h0 => ?_⟩
               have : cc = #[] := Array.eq_empty_of_size_eq_zero h0
               subst this
               simp [World.cell?, hob] at hcell
             | _ => simp [World.cell?, hob] at hcell
         exact ⟨⟨b2, o2, none⟩, cc, tt, fr, rfl, hne, hh2, hcs2⟩
   exact ⟨.bool false, by simp [execOp, hop, resolve, Zjd, Deferred.ofValue, invoke, Zt3 he, hr], Zeg _ g⟩
def Zry (dk : Kd α) (e : TypeId) (xs : List α) (g : G) (v : Value) (D : Nat → Prop) : Prop :=
 (xs = [] ∧ ∃ A, v = .slice A 0 0) ∨ ∃ b cap cur, v = .slice (some ⟨b, 0, none⟩) xs.length cap ∧ D b ∧ b < g.w.heap.size ∧ g.w.heap[b]? = some (.cells cur e (0, 0)) ∧ xs.length ≤ cap ∧ cap ≤ maxLen ∧ cur.size = cap * dk.sz ∧ (∀ (i : Nat) (x : α), xs[i]? = some x → dk.K g x (seg cur.toList (i * dk.sz) dk.sz)) ∧ ∀ o, ¬ g.pr b o
def pArr (dk : Kd α) (e : TypeId) (j : Nat) (xs : List α) : Pd := ⟨fun g u => (xs = [] ∧ ∃ A, u = .slice A 0 0) ∨ ∃ b cap cur, u = .slice (some ⟨b, 0, none⟩) xs.length cap ∧ OwnAt dk e (j + 1) (xs.map some) g b cap cur, [j + 1], fun s hd h => h.imp id fun ⟨b, cap, cur, e, h⟩ => ⟨b, cap, cur, e, h.st s (hd _ (by simp)) (by omega)⟩⟩
def Zki (P : Program) (f : FuncId) (A : List Pd) (dk : Kd α) (e : TypeId) (xs : List α) : Prop := ∀ (g : G) (args : List Value), ArgsOk A g args →
 Calls P f args.toArray g.w (fun en w' => ∃ g' v, en = .returned v ∧ w' = g'.w ∧ Zke (fun _ => False) g g' ∧ Zry dk e xs g' v (fun b => g.w.heap.size ≤ b))
def Zrz (P : Program) (f : FuncId) (dk : Kd α) (e : TypeId) (xs : List α) (A : List Pd) (q : Pd) : Prop := ∀ (g : G) (v : Value) (D : Nat → Prop) (args : List Value), Zry dk e xs g v D → ArgsOk A g args →
 Calls P f (v :: args).toArray g.w (fun en w' => ∃ g' u, en = .returned u ∧ w' = g'.w ∧ Zke D g g' ∧ q.p g' u)
open Classical in
theorem Zh7 {f : FuncId} {xs : List α} {xo : List Operand} {A : List Pd} {ty : Array TypeId} (he : Zl P f) (hok : Zki P f A dk e xs) (hop : o.op = .call { callee := .value (.func f), args := xo.toArray, argTypes := ty }) (hd : o.dst = some d) (hargs : OpdL uses xo A) : OB P N o uses [(d, pArr dk e j xs)] [j + 1] := by
 intro a g K Q hN hdN hu hK
 have hr : (execOp a.eval o).run P g.w = .ok (.enter f (xo.map a.eval).toArray) g.w := by
   simp [execOp, hop, resolve, Act.eval, Deferred.ofValue, invoke, Zfl he]
 unfold Oper.wp
 rw [hr]
 show Calls P f _ g.w _
 refine Calls.mono (hok g _ (hargs.ok hu)) ?_
 rintro en w' ⟨g', v, rfl, rfl, hS, hA⟩
 have fin : ∀ (o1 : Nat → Nat), (∀ b, b < g.w.heap.size → o1 b = if g.own b = j + 1 then 0 else g.own b) → (∀ b, g.w.heap.size ≤ b → o1 b = 0 ∨ o1 b = j + 1) → Step [j + 1] g ⟨g'.w, g'.pr, o1, g'.hpr, g'.gl⟩ := fun o1 h1 h2 =>
   ⟨⟨hS.le.size, hS.le.pr, hS.le.cell, hS.le.blk⟩, hS.os, hS.tape, hS.output, fun b hb hn => ⟨(hS.same b hb id).1, (hS.same b hb id).2, by show o1 b = _; rw [h1 b hb, if_neg (by simpa using hn)]⟩,
     fun b k1 k2 => (h2 b k1).imp id (fun h => by show o1 b ∈ _; rw [h]; simp), fun b hb hn => .inl (by show o1 b = 0; rw [h1 b hb, if_pos (by simpa using hn)])⟩
 rcases hA with ⟨rfl, A0, rfl⟩ | ⟨b, cap, cur, rfl, hD, h1, h2, h3, h4, h5, h6, h7⟩
 · refine hK _ ⟨g'.w, g'.pr, fun b => if b < g.w.heap.size then (if g.own b = j + 1 then 0 else g.own b) else 0, g'.hpr, g'.gl⟩ (fin (fun b => if b < g.w.heap.size then (if g.own b = j + 1 then 0 else g.own b) else 0) (fun b hb => if_pos hb) (fun b hb => .inl (if_neg (by omega)))) fun e' he' => ?_
   rw [List.mem_singleton.1 he', hd, Zc8 _ (by rw [hN]; exact hdN d hd)]
   exact .inl ⟨rfl, A0, rfl⟩
 · refine hK _ ⟨g'.w, g'.pr, fun c => if c < g.w.heap.size then (if g.own c = j + 1 then 0 else g.own c) else if c = b then j + 1 else 0, g'.hpr, g'.gl⟩ (fin _ (fun b hb => if_pos hb) (fun c hc => by
     show (if c < g.w.heap.size then _ else _) = 0 ∨ _ = j + 1
     rw [if_neg (by omega)]; split <;> simp)) fun e' he' => ?_
   rw [List.mem_singleton.1 he', hd, Zc8 _ (by rw [hN]; exact hdN d hd)]
   refine .inr ⟨b, cap, cur, rfl, ⟨h1, ?_, fun b' hb' ho => ?_, h2, by simpa using h3, h4, h5, fun i x hx => ?_, h7⟩⟩
   · show (if b < g.w.heap.size then _ else _) = _
     rw [if_neg (by omega), if_pos rfl]
   · have ho' : (if b' < g.w.heap.size then (if g.own b' = j + 1 then 0 else g.own b') else if b' = b then j + 1 else 0) = j + 1 := ho
     split at ho'
     · split at ho'
       · omega
       · rename_i hne; exact absurd ho' hne
     · split at ho'
       · assumption
       · omega
   · rw [List.getElem?_map] at hx
     obtain ⟨y, hy, he''⟩ := Option.map_eq_some_iff.1 hx
     obtain rfl := Option.some.inj he''
     exact dk.mono (g := g') ⟨Nat.le_refl _, fun _ _ h => h, fun _ _ _ => rfl, fun _ _ => rfl⟩ (h6 i y hy)
theorem Zmc {f : FuncId} {xs : List α} {xo : List Operand} {A : List Pd} {ty : Array TypeId} (he : Zl P f) (hok : Zrz P f dk e xs A q) (hq : q.fp = []) (hop : o.op = .call { callee := .value (.func f), args := (x :: xo).toArray, argTypes := ty }) (hd : o.dst = some d) (hx : Opd uses x (pArr dk e j xs)) (hargs : OpdL uses xo A) : OB P N o uses [(d, q)] [j + 1] := by
 intro a g K Q hN hdN hu hK
 have hr : (execOp a.eval o).run P g.w = .ok (.enter f (a.eval x :: xo.map a.eval).toArray) g.w := by
   simp [execOp, hop, resolve, Zjd, Deferred.ofValue, invoke, Zfl he]
 unfold Oper.wp
 rw [hr]
 show Calls P f _ g.w _
 have hA : Zry dk e xs g (a.eval x) (fun b => g.own b = j + 1) := by
   rcases hx a g hu with h | ⟨b, cap, cur, h1, h2⟩
   · exact .inl h
   · exact .inr ⟨b, cap, cur, h1, h2.own, h2.lt, h2.heap, by simpa using h2.len, h2.max, h2.sz, fun i x hx => h2.known i x (by rw [List.getElem?_map, hx]; rfl), h2.npr⟩
 refine Calls.mono (hok g _ _ _ hA (hargs.ok hu)) ?_
 rintro en w' ⟨g', v, rfl, rfl, hS, hqv⟩
 let g2 : G := ⟨g'.w, g'.pr, fun c => if c < g.w.heap.size then g.own c else 0, g'.hpr, g'.gl⟩
 have hle : g'.le g2 := ⟨Nat.le_refl _, fun _ _ h => h, fun _ _ _ => rfl, fun _ _ => rfl⟩
 have hown : ∀ c, g2.own c = if c < g.w.heap.size then g.own c else 0 := fun _ => rfl
 refine hK v g2 ⟨⟨hS.le.size, hS.le.pr, hS.le.cell, hS.le.blk⟩, hS.os, hS.tape, hS.output, fun c hc hn => ?_, fun c k1 k2 => .inl ?_, fun c hc hn => .inr ?_⟩ fun e' he' => ?_
 · obtain ⟨k1, k2⟩ := hS.same c hc (by simpa using hn)
   exact ⟨k1, k2, by rw [hown, if_pos hc]⟩
 · rw [hown, if_neg (by omega)]
 · rw [hown, if_pos hc]; exact hn
 · rw [List.mem_singleton.1 he', hd, Zc8 _ (by rw [hN]; exact hdN d hd)]
   exact Pd.le hq hle rfl rfl rfl hqv
def Zmo (dk : Kd α) (e : TypeId) (xs : List α) (g0 : G) (v : Value) (g1 : G) : Prop := Base g0 g1 ∧ Zry dk e xs g1 v (fun b => g0.w.heap.size ≤ b)
theorem Zmq {f : FuncId} {fn : Func} {cd : Code} {A : List Pd} {xs : List α} (hf : P.funcs[f]? = some fn) (hb : fn.body = some cd) (hn : fn.ntmps = N) (hAN : A.length ≤ N) (hA : Free A)
   (h : ∀ (a : Act) (g : G), (∀ b, g.own b = 0) → St N (Zgs A 0) a g → Base g g → cd.wp P (bodyPost P fn (FinP (Zmo dk e xs g))) a g.w) : Zki P f A dk e xs := by
 intro g args hargs
 let g0 : G := ⟨g.w, g.pr, fun _ => 0, g.hpr, g.gl⟩
 have hle : g.le g0 := ⟨Nat.le_refl _, fun _ _ h => h, fun _ _ _ => rfl, fun _ _ => rfl⟩
 have hst : St N (Zgs A 0) { tmps := args.toArray ++ Array.replicate (fn.ntmps - args.toArray.size) undef, defers := [] } g0 := by
   refine ⟨?_, rfl, ?_⟩
   · have := hargs.1
     simp [hn]; omega
   · intro e he
     obtain ⟨i, h1, h2⟩ := Zh9 he
     have hi : i < args.length := by rw [hargs.1]; exact (List.getElem?_eq_some_iff.1 h2).1
     have hv : Act.at { tmps := args.toArray ++ Array.replicate (fn.ntmps - args.toArray.size) undef, defers := [] } e.1 = args[i] := by
       rw [h1, Nat.zero_add]
       simp only [Act.at, Array.getD_eq_getD_getElem?]
       rw [Array.getElem?_append, if_pos (by simpa using hi)]
       simp [hi]
     rw [hv]
     exact Pd.le (hA.at h2) hle rfl rfl rfl (hargs.2 i e.2 _ h2 (List.getElem?_eq_getElem hi))
 have hbase : Base g0 g0 := ⟨.refl _, rfl, rfl, rfl, fun _ _ _ => ⟨rfl, rfl, rfl⟩⟩
 refine Calls.mono (calls_of_wp hf hb (h _ g0 (fun _ => rfl) hst hbase)) ?_
 rintro en w' ⟨g1, v, rfl, rfl, hB, hv⟩
 exact ⟨g1, v, rfl, rfl, ⟨⟨hB.le.size, hB.le.pr, hB.le.cell, hB.le.blk⟩, hB.os, hB.tape, hB.output, fun b hb _ => ⟨(hB.same b hb rfl).1, (hB.same b hb rfl).2.1⟩⟩, hv⟩
theorem Zsw {fn : Func} {r : ResultVar} {v : Value} {xs : List α} {a : Act} {g g0 : G} {L : Z3} (hr : fn.results = #[r]) (h0 : ∀ b, g0.own b = 0) (h : St N L a g) (hb : Base g0 g) (h1 : Zep P a g r v) (hq : (pOwn dk e j c (xs.map some)).p g v) : bodyPost P fn (FinP (Zmo dk e xs g0)) .ret a g.w := by
 refine endP hr h h1 ⟨hb, ?_⟩
 obtain ⟨b, cap, cur, e1, hO, _⟩ := hq
 refine .inr ⟨b, cap, cur, by rw [e1]; simp, Nat.le_of_not_lt fun hlt => ?_, hO.lt, hO.heap, by simpa using hO.len, hO.max, hO.sz, fun i x hx => hO.known i x (by rw [List.getElem?_map, hx]; rfl), hO.npr⟩
 have := (hb.same b hlt (h0 b)).2.2
 rw [hO.own] at this; omega
theorem Zot {fn : Func} {r : ResultVar} {v : Value} {a : Act} {g g0 : G} {L : Z3} (hr : fn.results = #[r]) (h : St N L a g) (hb : Base g0 g) (h1 : Zep P a g r v) (hq : ∃ A, v = .slice A 0 0) : bodyPost P fn (FinP (Zmo dk e [] g0)) .ret a g.w := endP hr h h1 ⟨hb, .inl ⟨rfl, hq⟩⟩
theorem Z01 {xs : List α} {g g0 : G} {b cap : Nat} {cur : Array Value} (hb : Base g0 g) (hO : OwnAt dk e (j + 1) (xs.map some) g b cap cur) : ∃ g', g'.w = g.w ∧ Base g0 g' ∧ (dk.sl.pd xs).p g' (.slice (some ⟨b, 0, none⟩) xs.length cap) := by
 let g' : G := ⟨g.w, fun b' o => g.pr b' o ∨ b' = b, g.own, fun b' o h => h.elim (g.hpr b' o) (fun h => by rw [h]; exact hO.lt), g.gl.le (fun _ _ h => .inl h) (fun _ _ _ => rfl)⟩
 have hle : g.le g' := ⟨Nat.le_refl _, fun _ _ h => .inl h, fun _ _ _ => rfl, fun _ _ => rfl⟩
 have hl := hO.len
 rw [List.length_map] at hl
 have hm := hO.max
 refine ⟨g', rfl, ⟨hb.le.trans hle, hb.os, hb.tape, hb.output, fun c hc h0 => ?_⟩, Kd.sl_V.2 ⟨_, cap, rfl, hl, by simp only [maxLen] at hm; omega, .inr ⟨b, 0, rfl, fun i x hx => ?_⟩⟩⟩
 · obtain ⟨k1, k2, k3⟩ := hb.same c hc h0
   refine ⟨k1, ?_, k3⟩
   have hcb : c ≠ b := fun h => by rw [h, hO.own] at k3; omega
   funext o
   show (g.pr c o ∨ c = b) = _
   rw [← k2]; simp [hcb]
 · refine ⟨_, dk.mono hle (hO.known i x (by rw [List.getElem?_map, hx]; rfl)), fun k u hk => ⟨.inr rfl, ?_⟩⟩
   simp only [seg, List.getElem?_take, List.getElem?_drop] at hk
   split at hk
   · show g.w.cell? _ = _
     simp only [World.cell?, hO.heap]
     simpa using hk
   · cases hk
def Zs1 (g0 : G) (q : Pd) (v : Value) (g1 : G) : Prop := Base g0 g1 ∧ q.p g1 v
theorem Zss {f : FuncId} {fn : Func} {cd : Code} {A : List Pd} {xs : List α} (hf : P.funcs[f]? = some fn) (hb : fn.body = some cd) (hn : fn.ntmps = N) (hAN : A.length + 1 ≤ N) (hA : Free A)
   (h0 : xs = [] → ∀ (a : Act) (g : G) (A0 : Option Addr), St N ((0, pEq (.slice A0 0 0)) :: Zgs A 1) a g → Base g g → cd.wp P (bodyPost P fn (FinP (Zs1 g q))) a g.w)
   (h : ∀ (a : Act) (g : G) (cap : Nat), xs.length ≤ cap → cap ≤ maxLen → St N ((0, pOwn dk e 0 (some cap) (xs.map some)) :: Zgs A 1) a g → Base g g → cd.wp P (bodyPost P fn (FinP (Zs1 g q))) a g.w) : Zrz P f dk e xs A q := by
 intro g v D args hv hargs
 have hlen := hargs.1
 have hat : ∀ (i : Nat) (u : Value), (v :: args)[i]? = some u → Act.at { tmps := (v :: args).toArray ++ Array.replicate (fn.ntmps - (v :: args).toArray.size) undef, defers := [] } i = u := fun i u hi => by
   have hlt := (List.getElem?_eq_some_iff.1 hi).1
   simp only [Act.at, Array.getD_eq_getD_getElem?]
   rw [Array.getElem?_append, if_pos (by simpa using hlt)]
   have hi' : ((v :: args).toArray)[i]? = some u := by rw [List.getElem?_toArray]; exact hi
   rw [hi']; rfl
 have hrest : ∀ (g0 : G), g.le g0 → g0.w = g.w → Zdn (Zgs A 1) { tmps := (v :: args).toArray ++ Array.replicate (fn.ntmps - (v :: args).toArray.size) undef, defers := [] } g0 := fun g0 hle hw e' he' => by
   obtain ⟨i, e1, e2⟩ := Zh9 he'
   have hi : i < args.length := by rw [hlen]; exact (List.getElem?_eq_some_iff.1 e2).1
   rw [hat e'.1 args[i] (by rw [e1, Nat.add_comm]; exact List.getElem?_eq_getElem hi)]
   exact Pd.le (hA.at e2) hle (by rw [hw]) (by rw [hw]) (by rw [hw]) (hargs.2 i e'.2 _ e2 (List.getElem?_eq_getElem hi))
 rcases hv with ⟨hx0, A0, rfl⟩ | ⟨b, cap, cur, rfl, hD, h1, h2, h3, h4, h5, h6, h7⟩
 · let g0 : G := ⟨g.w, g.pr, fun _ => 0, g.hpr, g.gl⟩
   have hle : g.le g0 := ⟨Nat.le_refl _, fun _ _ h => h, fun _ _ _ => rfl, fun _ _ => rfl⟩
   refine Calls.mono (calls_of_wp hf hb (h0 hx0 _ g0 A0 ⟨by simp [hn]; omega, rfl, fun e' he' => ?_⟩ ⟨.refl _, rfl, rfl, rfl, fun _ _ _ => ⟨rfl, rfl, rfl⟩⟩)) ?_
   · rcases List.mem_cons.1 he' with rfl | he'
     · exact hat 0 _ rfl
     · exact hrest g0 hle rfl e' he'
   · rintro en w' ⟨g1, u, rfl, rfl, hB, hq⟩
     exact ⟨g1, u, rfl, rfl, ⟨⟨hB.le.size, hB.le.pr, hB.le.cell, hB.le.blk⟩, hB.os, hB.tape, hB.output, fun b hb _ => ⟨(hB.same b hb rfl).1, (hB.same b hb rfl).2.1⟩⟩, hq⟩
 · let g0 : G := ⟨g.w, g.pr, fun c => if c = b then 1 else 0, g.hpr, g.gl⟩
   have hle : g.le g0 := ⟨Nat.le_refl _, fun _ _ h => h, fun _ _ _ => rfl, fun _ _ => rfl⟩
   refine Calls.mono (calls_of_wp hf hb (h _ g0 cap h3 h4 ⟨by simp [hn]; omega, rfl, fun e' he' => ?_⟩ ⟨.refl _, rfl, rfl, rfl, fun _ _ h => ⟨rfl, rfl, h⟩⟩)) ?_
   · rcases List.mem_cons.1 he' with rfl | he'
     · show (pOwn dk e 0 (some cap) (xs.map some)).p g0 _
       rw [hat 0 _ rfl]
       refine ⟨b, cap, cur, by simp, ⟨h1, if_pos rfl, fun b' _ ho => ?_, h2, by simpa using h3, h4, h5, fun i x hx => ?_, h7⟩, fun k hk => Option.some.inj hk⟩
       · have : (if b' = b then 1 else 0) = 1 := ho
         split at this
         · assumption
         · omega
       · rw [List.getElem?_map] at hx
         obtain ⟨y, hy, he''⟩ := Option.map_eq_some_iff.1 hx
         obtain rfl := Option.some.inj he''
         exact dk.mono hle (h6 i y hy)
     · exact hrest g0 hle rfl e' he'
   · rintro en w' ⟨g1, u, rfl, rfl, hB, hq⟩
     refine ⟨g1, u, rfl, rfl, ⟨⟨hB.le.size, hB.le.pr, hB.le.cell, hB.le.blk⟩, hB.os, hB.tape, hB.output, fun c hc hn' => ?_⟩, hq⟩
     have := hB.same c hc (by show (if c = b then 1 else 0) = 0; rw [if_neg (fun h => hn' (by rw [h]; exact hD))])
     exact ⟨this.1, this.2.1⟩
theorem Zma {fn : Func} {r : ResultVar} {v : Value} {xs : List α} {a : Act} {g g0 : G} {L : Z3} (hr : fn.results = #[r]) (h : St N L a g) (hb : Base g0 g) (h1 : Zep P a g r v) (hq : (pOwn dk e j c (xs.map some)).p g v) : bodyPost P fn (FinP (Zs1 g0 (dk.sl.pd xs))) .ret a g.w := by
 obtain ⟨b, cap, cur, e1, hO, _⟩ := hq
 obtain ⟨g', hw, hB, hp⟩ := Z01 hb hO
 refine ⟨h.df, v, ?_, g', v, rfl, hw.symm, hB, by rw [e1, List.length_map]; exact hp⟩
 have h1' : (Ze9 a.tmps r).run P g.w = .ok v g.w := h1
 simp [Zgp, hr, h1']
theorem Zwy {A : Option Addr} (hT : TE P t e dk bytes) (hop : o.op = .slice t x (some y) none none) (hx : Opd uses x (pEq (.slice A 0 0))) (hy : Opd uses y (pInt .i64 0)) : OB P N o uses [] [] := by
 intro a g K Q hN hdN hu hK
 have hv : a.eval x = .slice A 0 0 := hx a g hu
 obtain ⟨i, zz, hi, hz, hsz, hby, hzs⟩ := hT.info
 have hb : ∀ w cd, (Instr.sliceBound (a.eval y) 0 cd).run P w = .ok 0 w := fun w cd => Zgj (Zca.1 (hy a g hu)) (Nat.le_refl _)
 have hr : ∃ v, (execOp a.eval o).run P g.w = .ok (.value v) g.w := by
   simp [execOp, hop, hv, Instr.sliceAt, Instr.slice, Instr.sliceBounds, run_underlying hT.und, hb, sizeOf, typeInfo, hi]
 obtain ⟨v, hr⟩ := hr
 unfold Oper.wp
 rw [hr]
 exact hK v g (.refl _ _) (fun e he => by cases he)
theorem Zyv {A : Option Addr} {t : TypeId} (ht : P.underlying t = some (.slice e)) (hop : o.op = .call { callee := .builtin .len, args := #[x], argTypes := #[t] }) (hd : o.dst = some d) (hx : Opd uses x (pEq (.slice A 0 0))) : OB P N o uses [(d, pInt .i64 0)] [] :=
 Zbx hd fun a g hh => by
   have hv : a.eval x = .slice A 0 0 := hx a g hh
   exact ⟨.int .i64 0, by simp [execOp, hop, resolve, invoke, builtin, hv, Builtin.len_, run_underlying ht, goInt], Zex _ _ g⟩
theorem Zp6 {A : Option Addr} {vs : List α} (hT : TE P t e dk bytes) (hop : o.op = .call { callee := .builtin .append, args := #[x, y], argTypes := #[t, t] }) (hd : o.dst = some d) (hx : Opd uses x (pEq (.slice A 0 0))) (hy : Opd uses y (dk.sl.pd vs)) (hpos : 0 < vs.length) (hl : vs.length * bytes ≤ 140737488355328) :
   OB P N o uses [(d, pOwn dk e j none (vs.map some))] [j + 1] :=
 Zfw hd fun a g hh => by
   have hv : a.eval x = .slice A 0 0 := hx a g hh
   obtain ⟨A2, c2, hy1, hy2, hy3, hyr⟩ := Zk0 (hy a g hh)
   obtain ⟨i, zz, hi, hz, hsz, hby, hzs⟩ := hT.info
   have hlen : vs.length ≤ 140737488355328 := Nat.le_trans (Nat.le_mul_of_pos_right _ hT.by0) hl
   obtain ⟨b2, o2, news, rfl, hnl, hnc, hnk⟩ := hyr.resolve_left (fun h => by rw [h] at hpos; simp at hpos)
   have hnl' : news.length = vs.length * i.size := by rw [hsz]; exact hnl
   have hnews : ∀ k u, news[k]? = some u → g.w.cell? ((⟨b2, o2, none⟩ : Addr).add k) = some u := fun k u hu => by rw [Zcw]; exact (hnc k u hu).2
   have hge := grownCap_ge g.w vs.length 0 e
   have hmx := grownCap_le_maxLen g.w vs.length 0 e (by simp only [maxLen]; omega)
   have hr : (Builtin.append_ #[t, t] o.type #[.slice A 0 0, .slice (some ⟨b2, o2, none⟩) vs.length c2]).run P g.w = .ok (.slice (some ⟨g.w.heap.size, 0, none⟩) vs.length (grownCap g.w vs.length 0 e)) (g.w.drew.alloc (.cells (news.toArray ++ Builtin.zeroCells zz.cells (grownCap g.w vs.length 0 e - vs.length)) e)) := by
     cases A with
     | none => exact run_append_nil (P := P) g.w t o.type e i zz hT.und hi hz ⟨b2, o2, none⟩ vs.length c2 news hnl' hnews hpos (by omega) (by rw [hby]; omega)
     | some A =>
       have := run_append_grow (P := P) g.w t o.type e i zz hT.und hi hz A 0 0 [] (by simp) (fun j u hu => by simp at hu) ⟨b2, o2, none⟩ vs.length c2 news hnl' hnews (by omega) (by omega) (growslice_fits (by omega) (by rw [hby, Nat.zero_add]; exact hl))
       simpa using this
   obtain ⟨g', hw, hst, hO3⟩ := Zo3 (dk := dk) (e := e) (g := g) (j := j + 1) (cur := news.toArray ++ Builtin.zeroCells zz.cells (grownCap g.w vs.length 0 e - vs.length)) (cap := grownCap g.w vs.length 0 e) (fs := vs.map some) (by omega) (by simpa using hge) hmx (by
       simp only [Array.size_append, List.size_toArray, Zik, hzs, hnl, ← Nat.add_mul]
       congr 1; omega) (fun k u hk => by
       rw [List.getElem?_map] at hk
       obtain ⟨u', hu', he'⟩ := Option.map_eq_some_iff.1 hk
       obtain rfl := Option.some.inj he'
       simp only [Array.toList_append]
       rw [Zd2 (by rw [hnl]; exact Zhc (List.getElem?_eq_some_iff.1 hu').1)]
       exact hnk _ _ hu')
   refine ⟨_, g', ?_, hst, _, _, _, rfl, hO3, fun k hk => by cases hk⟩
   rw [List.length_map]
   simp [execOp, hop, resolve, invoke, builtin, hv, hy1, hr, hw]
theorem Zt6 (xs vs : List α) (k i : Nat) (hk : k ≤ xs.length) : ((xs.take k ++ vs ++ xs.drop k).map some)[i]? = if i < k then (xs[i]?).map some else if i < k + vs.length then (vs[i - k]?).map some else (xs[i - vs.length]?).map some := by
 have h1 : (xs.take k).length = k := by simp; omega
 rw [List.getElem?_map, List.append_assoc, List.getElem?_append, h1]
 by_cases a : i < k
 · rw [if_pos a, if_pos a, List.getElem?_take, if_pos a]
 · rw [if_neg a, if_neg a, List.getElem?_append]
   by_cases b : i < k + vs.length
   · rw [if_pos b, if_pos (by omega)]
   · rw [if_neg b, if_neg (by omega), List.getElem?_drop]
     congr 2; omega
theorem ins1 {xs vs : List α} {k : Nat} (hk : k ≤ xs.length) : over (over ((xs.take k).map some ++ List.replicate (xs.length + vs.length - k) none) k vs) (k + vs.length) (xs.drop k) = (xs.take k ++ vs ++ xs.drop k).map some := by
 have hl : ((xs.take k).map some ++ List.replicate (xs.length + vs.length - k) (none : Option α)).length = xs.length + vs.length := by simp; omega
 apply List.ext_getElem?
 intro i
 rw [Zid (by rw [Zix (by rw [hl]; omega), hl]; simp; omega), Zid (by rw [hl]; omega), Zt6 xs vs k i hk]
 have hd : (xs.drop k).length = xs.length - k := by simp
 by_cases a : i < k
 · rw [if_pos (by omega), if_pos a, if_pos a, List.getElem?_append_left (by simp; omega), List.getElem?_map, List.getElem?_take, if_pos a]
 · by_cases b : i < k + vs.length
   · rw [if_pos b, if_neg a, if_pos b, if_neg a, if_pos b]
   · rw [if_neg b, if_neg a, if_neg b]
     by_cases c : i < xs.length + vs.length
     · rw [if_pos (by rw [hd]; omega), List.getElem?_drop]
       rw [show k + (i - (k + vs.length)) = i - vs.length by omega, if_neg a, if_neg b]
     · rw [if_neg (by rw [hd]; omega), if_neg a, if_neg b, List.getElem?_eq_none (by rw [hl]; omega), List.getElem?_eq_none (by omega)]; rfl
theorem ins2 {xs vs : List α} {k : Nat} (hk : k ≤ xs.length) : over (over (xs.map some ++ List.replicate (xs.length + vs.length - (xs.map some).length) none) (k + vs.length) (xs.drop k)) k vs = (xs.take k ++ vs ++ xs.drop k).map some := by
 have hl : (xs.map some ++ List.replicate (xs.length + vs.length - (xs.map some).length) (none : Option α)).length = xs.length + vs.length := by simp
 have hd : (xs.drop k).length = xs.length - k := by simp
 apply List.ext_getElem?
 intro i
 rw [Zid (by rw [Zix (by rw [hl, hd]; omega), hl]; omega), Zid (by rw [hl, hd]; omega), Zt6 xs vs k i hk]
 by_cases a : i < k
 · rw [if_pos a, if_pos (by omega), if_pos a, List.getElem?_append_left (by simp; omega), List.getElem?_map]
 · by_cases b : i < k + vs.length
   · rw [if_neg a, if_pos b, if_neg a, if_pos b]
   · rw [if_neg a, if_neg b, if_neg b, if_neg a, if_neg b]
     by_cases c : i < xs.length + vs.length
     · rw [if_pos (by rw [hd]; omega), List.getElem?_drop]
       rw [show k + (i - (k + vs.length)) = i - vs.length by omega]
     · rw [if_neg (by rw [hd]; omega), List.getElem?_eq_none (by rw [hl]; omega), List.getElem?_eq_none (by omega)]; rfl
theorem Zn6 {a b : Nat} (h : a + b ≤ 9223372036854775807) : IntKind.i64.wrap ((a : Int) + (b : Int)) = ((a + b : Nat) : Int) := by rw [Ztw (by omega) (by omega)]; omega
theorem Z1e {x : Nat} {n k : Nat} (hx : x = n) (h : k ≤ n) (hn : n ≤ 9223372036854775807) : IntKind.i64.wrap ((x : Int) - (k : Int)) = ((n - k : Nat) : Int) := by rw [Ztw (by omega) (by omega)]; omega
theorem Zp8 (xs : List α) (k : Nat) : ∀ (i : Nat) (x : α), (xs.take k)[i]? = some x → (xs.map some)[i]? = some (some x) := fun i x hx => by
 rw [List.getElem?_take] at hx
 split at hx
 · rw [List.getElem?_map, hx]; rfl
 · cases hx
theorem Zvb (xs : List α) (k : Nat) : ∀ (i : Nat) (x : α), (xs.drop k)[i]? = some x → (xs.map some)[k + i]? = some (some x) := fun i x hx => by
 rw [List.getElem?_drop] at hx
 rw [List.getElem?_map, hx]; rfl
theorem Zi8 {f : FuncId} {C : List Pd} {Ps Qs : List Par} {xs : List Operand} {hs ks : List Home} {ty : Array TypeId} {outs : Z3} {S : List Nat} (he : Zl P f) (hok : FnB P f (Ps ++ Qs) q) (hop : o.op = .call { callee := .value x, args := xs.toArray, argTypes := ty }) (hd : o.dst = some d) (hq : q.fp = []) (hf : Opd uses x (Zrx f C)) (hx : OpB uses Ps xs hs) (hc : CapB uses C Qs ks)
   (hne : ((hs ++ ks).all fun h => h.1 != d) = true) (hj : (hs.all fun h => ks.all fun k => k.2.2 != h.2.2) = true) (ho : outs = (d, q) :: Zho (Ps ++ Qs) (hs ++ ks)) (hS : S = SB (hs ++ ks)) : OB P N o uses outs S := by
 subst ho; subst hS; exact Zwo he hok hop hd hq hne hj hf hx hc
def pFun (P : Program) (Φ : FuncId → List Pd → Prop) : Pd := ⟨fun g v => ∃ (f : FuncId) (C : List Pd) (caps : List Value), v = .func (.func f) #[] caps.toArray ∧ Zl P f ∧ Free C ∧ Φ f C ∧ ArgsOk C g caps ∧ (∀ q ∈ C, ∀ (g g' : G) (u : Value), g.le g' → q.p g u → q.p g' u), [], fun s _ ⟨f, C, caps, h1, h2, h3, h4, h5, h6⟩ => ⟨f, C, caps, h1, h2, h3, h4, ⟨h5.1, fun i qi u hq hu => qi.st s (by rw [h3.at hq]; intro j hj; cases hj) (h5.2 i qi u hq hu)⟩, h6⟩⟩
theorem Zvc {Φ : FuncId → List Pd → Prop} {Ps : List Par} {xs : List Operand} {hs : List Home} {ty : Array TypeId} {outs : Z3} {S : List Nat} (hΦ : ∀ f C, Φ f C → FnB P f (Ps ++ C.map .val) q) (hop : o.op = .call { callee := .value x, args := xs.toArray, argTypes := ty }) (hd : o.dst = some d) (hq : q.fp = []) (hf : Opd uses x (pFun P Φ)) (hx : OpB uses Ps xs hs) (hne : (hs.all fun h => h.1 != d) = true)
   (ho : outs = (d, q) :: Zho Ps hs) (hS : S = SB hs) : OB P N o uses outs S := by
 subst ho; subst hS
 refine Zoq hq hd (fun h hh => by simpa using List.all_eq_true.1 hne h hh) fun a g hu => ?_
 obtain ⟨f, C, caps, h1, h2, h3, h4, h5, _⟩ := hf a g hu
 refine ⟨f, Ps ++ C.map .val, xs.map a.eval ++ caps, hΦ f C h4, Zlf.symm, ?_, ?_⟩
 · simp [execOp, hop, resolve, h1, Deferred.ofValue, invoke, Zfl h2]
 · have := Zmh (hx.ok hu) (Zq5 (a := a) h5) (fun h _ k hk => by cases hk)
   rwa [List.append_nil] at this
def pTab (P : Program) (n : Nat) (Φ : Nat → Option (FuncId → List Pd → Prop)) : Pd := ⟨fun g v => ∃ cs : List Value, v = .agg cs.toArray ∧ cs.length = n ∧ ∀ (k : Nat) (F : FuncId → List Pd → Prop) (u : Value), Φ k = some F → cs[k]? = some u → (pFun P F).p g u, [], fun s hd ⟨cs, h1, h2, h3⟩ => ⟨cs, h1, h2, fun k F u hF hu => (pFun P F).st s (fun j hj => by cases hj) (h3 k F u hF hu)⟩⟩
theorem Zti {t e : TypeId} {n : Nat} {i : Int} {Φ : Nat → Option (FuncId → List Pd → Prop)} {F : FuncId → List Pd → Prop} (ht : P.underlying t = some (.array n e)) (hs : (P.info? e).map (·.size) = some 1) (hu : ∃ u, P.underlying e = some u ∧ (match u with | .struct _ | .array _ _ => true | _ => false) = false) (h0 : 0 ≤ i) (hF : Φ i.toNat = some F) (hn : i.toNat < n)
   (hop : o.op = .index t x y) (hd : o.dst = some d) (hx : Opd uses x (pTab P n Φ)) (hy : Opd uses y (pInt .i64 i)) : OB P N o uses [(d, pFun P F)] [] :=
 Zbx hd fun a g hh => by
   obtain ⟨cs, hv, hl, h3⟩ := hx a g hh
   have hyv := Zca.1 (hy a g hh)
   have hlt : i.toNat < cs.length := by omega
   obtain ⟨u, hu1, hu2⟩ := hu
   have hag : (isAgg e).run P g.w = .ok false g.w := by
     unfold isAgg
     simp only [Sem.run_bind, run_underlying hu1, Result.andThen_ok]
     cases u <;> first | rfl | simp at hu2
   refine ⟨cs[i.toNat], ?_, h3 i.toNat F _ hF (List.getElem?_eq_getElem hlt)⟩
   have h1 : i < (n : Int) := by omega
   simp [execOp, hop, hv, hyv, Instr.index, asIntOf, run_underlying ht, h0, h1, Zew hs, part, hag, hlt]
def Kd.fnc : Kd Nat := Kd.scalar (fun f => .func (.func f) #[] #[]) fun _ => rfl
theorem Opd.fncv {f : Nat} : Opd uses (.func f) (Kd.fnc.pd f) := fun _ _ _ => Kd.scalar_V.2 rfl
theorem Zz5 {f : Nat} {g : G} {v : Value} (h : (Kd.fnc.pd f).p g v) : (pClo f [] rfl).p g v := by
 obtain ⟨cs, rfl, rfl⟩ := h
 exact ⟨[], rfl, Zdl⟩
theorem Zib {f : Nat} : ∀ q ∈ [Kd.fnc.ptr f], ∀ (g g' : G) (u : Value), g.le g' → q.p g u → q.p g' u := fun q hq g g' u hle h => by
 rw [List.mem_singleton.1 hq] at h ⊢
 obtain ⟨b, o, cs, e, hk, hc⟩ := h
 exact ⟨b, o, cs, e, Kd.fnc.mono hle hk, hc.mono hle⟩
theorem Zzr {Φ : FuncId → List Pd → Prop} {g g' : G} {v : Value} (h : g.le g') (hv : (pFun P Φ).p g v) : (pFun P Φ).p g' v := by
 obtain ⟨f, C, caps, h1, h2, h3, h4, h5, h6⟩ := hv
 exact ⟨f, C, caps, h1, h2, h3, h4, ⟨h5.1, fun i qi u hq hu => h6 qi (List.mem_of_getElem? hq) _ _ _ h (h5.2 i qi u hq hu)⟩, h6⟩
abbrev TabT := Nat → Option (FuncId → List Pd → Prop)
def Kd.tab (P : Program) (n : Nat) (hn : n ≠ 1) : Kd TabT where
 sz := n
 ag := true
 K := fun g Φ cs => cs.length = n ∧ (∀ u ∈ cs, u.oneCell' = true) ∧ ∀ (k : Nat) (F : FuncId → List Pd → Prop) (u : Value), Φ k = some F → cs[k]? = some u → (pFun P F).p g u
 len := fun h => h.1
 one := fun h => h.2.1
 mono := fun hle h => ⟨h.1, h.2.1, fun k F u hF hu => Zzr hle (h.2.2 k F u hF hu)⟩
 nag := fun h => by cases h
theorem Zxe {n : Nat} {hn : n ≠ 1} {Φ : TabT} {g : G} {v : Value} (h : ((Kd.tab P n hn).pd Φ).p g v) : (pTab P n Φ).p g v := by
 obtain ⟨cs, ⟨h1, h2, h3⟩, rfl⟩ := h
 exact ⟨cs, rfl, h1, h3⟩
theorem Zs5 {t e : TypeId} {n : Nat} {zero : Value} (hu : P.underlying t = some (.array n e)) (hz : (P.info? t).bind (·.zero) = some zero) (hs : (P.info? e).map (·.size) = some 1) {parts : Array (Nat × Value)} {cells : Array Value}
   (hf : Instr.fill (fun i => some (i * 1, 1)) zero.cells parts.toList = some cells) (w : World) : (Instr.build t parts).run P w = .ok (.agg cells) w := by
 obtain ⟨i, hi, hz⟩ := Option.bind_eq_some_iff.1 hz
 have hf' : Instr.fill (fun i => some (i, 1)) zero.cells parts.toList = some cells := by simpa using hf
 simp [Instr.build, zeroValue, typeInfo, hi, hz, run_underlying hu, Zew hs, hf']
end
section
variable {P : Program} {N : Nat} {o : Oper} {uses : Z3} {d : Nat} {q : Pd} {x y z : Operand} {α β γ : Type} {dk : Kd α} {di : Kd β} {dj : Kd γ} {t e : TypeId} {bytes j : Nat}
theorem Zw4 {cs : List Value} {a n b m : Nat} (h : b + m ≤ n) : seg (seg cs a n) b m = seg cs (a + b) m := by
 simp only [seg, List.drop_take, List.drop_drop, List.take_take]
 congr 1
 omega
theorem Zvs {cs ys : List Value} {a n b : Nat} (h : b + ys.length ≤ n) (hn : a + n ≤ cs.length) : Z2 cs a (Z2 (seg cs a n) b ys) = Z2 cs (a + b) ys := by
 have hl : (seg cs a n).length = n := by simp [seg]; omega
 have hs : (Z2 (seg cs a n) b ys).length = n := by simp [Z2, hl]; omega
 apply List.ext_getElem?
 intro i
 simp only [Z2, seg, List.append_assoc, List.getElem?_append, List.length_take, List.length_drop, List.length_append, List.getElem?_take, List.getElem?_drop]
 repeat' split
 all_goals (try omega)
 all_goals (first | rfl | (congr 1; omega))
def pEl (dk : Kd α) (e : TypeId) (j : Nat) (xs : List α) (i off : Nat) (di : Kd β) (u : β) : Pd := ⟨fun g v => ∃ b cap cur, v = .pointer (some ⟨b, i * dk.sz + off, none⟩) ∧ OwnAt dk e (j + 1) (xs.map some) g b cap cur ∧ i < xs.length ∧ off + di.sz ≤ dk.sz ∧ di.K g u (seg cur.toList (i * dk.sz + off) di.sz), [j + 1],
 fun s hd ⟨b, cap, cur, e, h, h1, h2, h3⟩ => ⟨b, cap, cur, e, h.st s (hd _ (by simp)) (by omega), h1, h2, di.mono s.le h3⟩⟩
theorem Ziy {k : IntKind} {xs : List α} {n : Int} {u : α} {ix : Operand} (ht : P.underlying t = some (.slice e)) (hs : (P.info? e).map (·.size) = some dk.sz) (hop : o.op = .indexAddr t x ix) (hd : o.dst = some d) (hx : Opd uses x (pArr dk e j xs)) (hi : Opd uses ix (pInt k n)) (h : idx xs n = some u) : OB P N o uses [(d, pEl dk e j xs n.toNat 0 dk u)] [] :=
 Zbx hd fun a g hh => by
   have hn := Zca.1 (hi a g hh)
   unfold idx at h
   split at h
   · rename_i h0
     have hlt := (List.getElem?_eq_some_iff.1 h).1
     rcases hx a g hh with ⟨rfl, _⟩ | ⟨b, cap, cur, hv, hO⟩
     · simp at h
     · have hb : 0 ≤ n ∧ n < (xs.length : Int) := ⟨h0, by omega⟩
       refine ⟨.pointer (some ⟨b, n.toNat * dk.sz, none⟩), by simp [execOp, hop, hv, hn, Instr.indexAt, asIntOf, run_underlying ht, hb, Zew hs, Zcw], b, cap, cur, rfl, hO, hlt, by omega, hO.known _ _ (by simp [h])⟩
   · cases h
theorem Zxb {fs : List (Option α)} {g : G} {b cap : Nat} {cur : Array Value} (h : OwnAt dk e j fs g b cap cur) (i : Nat) (u : Value) (hu : cur.toList[i]? = some u) : g.w.cell? ⟨b, i, none⟩ = some u := by
 simp only [World.cell?, h.heap]
 simpa using hu
theorem Zn1 {i off : Nat} {xs : List α} {u : β} (hT : Ty P t di) (hop : o.op = .load t x) (hd : o.dst = some d) (hx : Opd uses x (pEl dk e j xs i off di u)) : OB P N o uses [(d, di.pd u)] [] :=
 Zbx hd fun a g hh => by
   obtain ⟨b, cap, cur, hv, hO, h1, h2, hk⟩ := hx a g hh
   refine ⟨mkV di.ag (seg cur.toList (i * dk.sz + off) di.sz), ?_, _, hk, rfl⟩
   have := Zg0 (b := b) (of := i * dk.sz + off) hT hk (fun k u hu => by
     refine Zxb hO (i * dk.sz + off + k) u ?_
     simp only [seg, List.getElem?_take, List.getElem?_drop] at hu
     split at hu
     · exact hu
     · cases hu)
   simp [execOp, hop, hv, Instr.loadAt, Instr.sureAddr, this]
theorem Zzj {g : G} {b cap i off : Nat} {xs : List α} {cur : Array Value} {u u' : α} {ys : List Value} (hO : OwnAt dk e (j + 1) (xs.map some) g b cap cur) (hi : xs[i]? = some u) (hfit : off + ys.length ≤ dk.sz) (hk : dk.K g u' (Z2 (seg cur.toList (i * dk.sz) dk.sz) off ys)) :
   ∃ g' : G, g'.w = g.w.setRow b (Z2 cur.toList (i * dk.sz + off) ys).toArray ∧ Step [j + 1] g g' ∧ OwnAt dk e (j + 1) ((xs.set i u').map some) g' b cap (Z2 cur.toList (i * dk.sz + off) ys).toArray := by
 have hlt := (List.getElem?_eq_some_iff.1 hi).1
 have hcl : cur.toList.length = cap * dk.sz := by simpa using hO.sz
 have hlen : xs.length ≤ cap := by simpa using hO.len
 have hin : i * dk.sz + dk.sz ≤ cap * dk.sz := Zhc (by omega)
 have hl := dk.len hk
 obtain ⟨g', e1, e2, e3⟩ := Znj (ws := [u']) (off := i) (news := Z2 (seg cur.toList (i * dk.sz) dk.sz) off ys) hO (by rw [hl]; simp) (by simp; omega) (fun k x hx => by
   cases k with
   | zero =>
     simp at hx; subst hx
     rw [Nat.zero_mul]
     have : seg (Z2 (seg cur.toList (i * dk.sz) dk.sz) off ys) 0 dk.sz = Z2 (seg cur.toList (i * dk.sz) dk.sz) off ys := by
       simp only [seg, List.drop_zero]
       rw [List.take_of_length_le]
       simp only [seg] at hl
       omega
     rw [this]; exact hk
   | succ k => simp at hx)
 rw [Zvs hfit (by omega)] at e1 e3
 refine ⟨g', e1, e2, ⟨e3.lt, e3.own, e3.uniq, e3.heap, by simpa using hO.len, e3.max, e3.sz, fun k x hx => e3.known k x ?_, e3.npr⟩⟩
 rw [Zid (by simp; omega)]
 simp only [List.getElem?_map, List.getElem?_set, List.length_singleton] at hx ⊢
 by_cases h1 : k < i
 · rw [if_pos h1]
   rw [if_neg (by omega)] at hx
   exact hx
 · rw [if_neg h1]
   by_cases h2 : k < i + 1
   · have : k = i := by omega
     subst this
     rw [if_pos h2]
     simp only [if_pos hlt, if_true] at hx
     simpa using hx
   · rw [if_neg h2]
     rw [if_neg (by omega)] at hx
     exact hx
theorem Zop {i off : Nat} {xs : List α} {u : α} {v1 v2 : β} {u' : α} {g : G} {pv w : Value} (hT : Ty P t di) (hx : (pEl dk e j xs i off di v1).p g pv) (hz : (di.pd v2).p g w) (hi : xs[i]? = some u) (hw : ∀ g cs ys, dk.K g u cs → di.K g v2 ys → off + ys.length ≤ cs.length → dk.K g u' (Z2 cs off ys)) :
   ∃ (b cap : Nat) (cur cur' : Array Value) (g' : G), pv = .pointer (some ⟨b, i * dk.sz + off, none⟩) ∧ OwnAt dk e (j + 1) (xs.map some) g b cap cur ∧ (storeVar t ⟨b, i * dk.sz + off, none⟩ w).run P g.w = .ok () g'.w ∧ Step [j + 1] g g' ∧ OwnAt dk e (j + 1) ((xs.set i u').map some) g' b cap cur' := by
 obtain ⟨b, cap, cur, rfl, hO, h1, h2, h3⟩ := hx
 obtain ⟨ys, hk, rfl⟩ := hz
 have hyl := di.len hk
 have hcl : cur.toList.length = cap * dk.sz := by simpa using hO.sz
 have hlen : xs.length ≤ cap := by simpa using hO.len
 have hin : i * dk.sz + dk.sz ≤ cap * dk.sz := Zhc (by omega)
 have hku := hO.known i u (by simp [hi])
 obtain ⟨g', e1, e2, e3⟩ := Zzj (u' := u') (ys := ys) (off := off) hO hi (by omega) (hw g _ _ hku hk (by rw [dk.len hku]; omega))
 have hst := Zg4 (off := i * dk.sz + off) hT hO.heap hk (by rw [hO.sz]; omega)
 exact ⟨b, cap, cur, _, g', rfl, hO, by rw [e1]; simpa [Z2] using hst, e2, e3⟩
end
section
variable {P : Program} {N : Nat} {o : Oper} {uses outs : Z3} {S : List Nat} {d : Nat} {q : Pd} {x y z : Operand}
theorem OB.at (h : ∀ (a : Act) g, Zdn uses a g → ∃ uses' : Z3, Zdn uses' a g ∧ OB P N o uses' outs S) : OB P N o uses outs S :=
 fun a g K Q hN hdN hu hK => let ⟨_, h1, h2⟩ := h a g hu; h2 a g K Q hN hdN h1 hK
theorem OB.frame {n : Nat} (h : OB P N o uses outs S) (hq : ∀ j ∈ q.fp, j ∉ S) (hn : o.dst ≠ some n) : OB P N o ((n, q) :: uses) ((n, q) :: outs) S := by
 intro a g K Q hN hdN hu hK
 refine h a g K Q hN hdN (fun e he => hu e (List.mem_cons_of_mem _ he)) fun v g' hs ho => hK v g' hs fun e he => ?_
 rcases List.mem_cons.1 he with rfl | he
 · have := hu (n, q) (List.mem_cons_self ..)
   have h2 := q.st hs hq this
   show q.p g' (Act.at (a.put o.dst v) n)
   rw [Zgt v hn]; exact h2
 · exact ho e he
def pAt (v : Value) (q : Pd) : Pd := ⟨fun g _ => q.p g v, q.fp, fun s hd h => q.st s hd h⟩
abbrev SlV := Option Addr × Nat × Nat
def slv (s : SlV) : Value := .slice s.1 s.2.1 s.2.2
def Kd.raw : Kd SlV := Kd.scalar slv fun _ => rfl
theorem Zpt {s : SlV} {g : G} {v : Value} : (Kd.raw.pd s).p g v ↔ v = slv s := Kd.scalar_V
variable {α β γ δ ε : Type} {kV : Kd γ} {raw : α → SlV → γ} {lst : α → List β} {dk : Kd β} {di : Kd δ} {dj : Kd ε} {t e j jl : Nat} {xv : α}
def pPX (kV : Kd γ) (j off : Nat) (di : Kd δ) (u : δ) : Pd := ⟨fun g v => ∃ w, (Zeq kV j w off di u).p g v, [j + 1], fun st hd ⟨w, h⟩ => ⟨w, (Zeq kV j w off di u).st st hd h⟩⟩
theorem Zw8 {g : G} : (pArr dk e jl []).p g (slv (none, 0, 0)) := .inl ⟨rfl, none, rfl⟩
theorem Zo4 {off pt : Nat} {u : δ} (hT : Ty P t di) (hop : o.op = .load t (.tmp pt)) (hd : o.dst = some d) (hx : Opd uses (.tmp pt) (pPX kV j off di u)) : OB P N o uses [(d, di.pd u)] [] :=
 OB.at fun a g hh => by
   obtain ⟨w, h0⟩ := hx a g hh
   exact ⟨[(pt, Zeq kV j w off di u)], fun en he => by rw [List.mem_singleton.1 he]; exact h0, Zbr hT hop hd .t0⟩
theorem Zp0 {s k off off2 : Nat} {u : δ} {proj : δ → ε} (hF : Fld P s k di dj proj) (ho : (match P.underlying s with | some (.struct F) => (F[k]?).map (·.offset) | _ => none) = some off2) (hfit : off2 + dj.sz ≤ di.sz) (hop : o.op = .fieldAddr s x k) (hd : o.dst = some d) (hx : Opd uses x (pPX kV j off di u)) : OB P N o uses [(d, pPX kV j (off + off2) dj (proj u))] [] :=
 Zbx hd fun a g hh => by
   obtain ⟨w, b, cs, t', hv, hm, h3⟩ := hx a g hh
   obtain ⟨fs, f, hu, hi, hsz, hag, h0, hK, _⟩ := hF.look
   have : f.offset = off2 := by simpa [hu, hi] using ho
   subst this
   refine ⟨.pointer (some ⟨b, off + f.offset, none⟩), by simp [execOp, hop, hv, Instr.fieldAt, Instr.sureAddr, run_underlying hu, hi, Zif hsz h0], w, b, cs, t', rfl, hm, ?_⟩
   have := hK g u _ h3
   rwa [Zw4 hfit] at this
end
section
variable {P : Program} {N : Nat} {o : Oper} {uses outs : Z3} {S : List Nat} {d : Nat} {q : Pd} {x y z : Operand}
variable {α β γ δ ε : Type} {kV : Kd γ} {raw : α → SlV → γ} {lst : α → List β} {dk : Kd β} {di : Kd δ} {t e j jl : Nat} {xv : α}
theorem Ztx {xs : List β} (ht : P.underlying t = some (.slice e)) (hop : o.op = .call { callee := .builtin .len, args := #[x], argTypes := #[t] }) (hd : o.dst = some d) (hx : Opd uses x (pArr dk e jl xs)) : OB P N o uses [(d, pInt .i64 (xs.length : Int))] [] :=
 Zbx hd fun a g hh => by
   rcases hx a g hh with ⟨rfl, A, hv⟩ | ⟨b, cap, cur, hv, _⟩
   · exact ⟨.int .i64 0, by simp [execOp, hop, resolve, invoke, builtin, hv, Builtin.len_, run_underlying ht, goInt], Zex _ _ g⟩
   · exact ⟨.int .i64 xs.length, by simp [execOp, hop, resolve, invoke, builtin, hv, Builtin.len_, run_underlying ht, goInt], Zex _ _ g⟩
theorem Zp9 {xs : List β} {n : Int} {u : β} (h : idx xs n = some u) : xs[n.toNat]? = some u := by
 unfold idx at h
 split at h
 · exact h
 · cases h
end
end Go.CL
namespace Go.CL
open Go
def INF : Nat := 9218868437227405312
def TOP : Nat := 9223372036854775808
def BIN : Nat := 4503599627370496
def rg (b : Nat) : Nat := b % TOP
def isn (b : Nat) : Prop := INF < rg b
instance (b : Nat) : Decidable (isn b) := inferInstanceAs (Decidable (INF < rg b))
def sg (b : Nat) : Int := if TOP ≤ b then -((b - TOP : Nat) : Int) else (b : Int)
def ngb (b : Nat) : Bool := b / TOP % 2 == 1
def Zh4 : Int := Ieee.double.leastPlace
theorem Zqp (b : Nat) : Ieee.double.read b = if rg b < BIN then .number (ngb b) (rg b) Zh4 else if rg b < INF then .number (ngb b) (BIN + rg b % BIN) (Zh4 + (rg b / BIN - 1 : Nat)) else if rg b = INF then .infinity (ngb b) else .nan (ngb b) (rg b - INF) := rfl
def mg (r : Nat) : Nat := if r < BIN then r else (BIN + r % BIN) * 2 ^ (r / BIN - 1)
theorem Zrw {r s : Nat} (h : r < s) : mg r < mg s := by
 unfold mg
 have hB : 0 < BIN := by decide
 by_cases hr : r < BIN
 · rw [if_pos hr]
   by_cases hs : s < BIN
   · rw [if_pos hs]; exact h
   · rw [if_neg hs]
     have : 1 ≤ 2 ^ (s / BIN - 1) := Nat.one_le_two_pow
     calc r < BIN := hr
       _ ≤ BIN + s % BIN := Nat.le_add_right _ _
       _ ≤ (BIN + s % BIN) * 2 ^ (s / BIN - 1) := Nat.le_mul_of_pos_right _ this
 · have hs : ¬ s < BIN := by omega
   rw [if_neg hr, if_neg hs]
   have h1 : 1 ≤ r / BIN := (Nat.le_div_iff_mul_le hB).2 (by omega)
   have hq : r / BIN ≤ s / BIN := Nat.div_le_div_right (Nat.le_of_lt h)
   have er := Nat.div_add_mod r BIN
   have es := Nat.div_add_mod s BIN
   have hm : r % BIN < BIN := Nat.mod_lt _ hB
   rcases Nat.lt_or_eq_of_le hq with hlt | heq
   · have h2 : 2 ^ (r / BIN - 1) * 2 ≤ 2 ^ (s / BIN - 1) := by
       rw [← Nat.pow_succ]
       exact Nat.pow_le_pow_right (by decide) (by omega)
     have hp : 0 < 2 ^ (r / BIN - 1) := Nat.two_pow_pos _
     calc (BIN + r % BIN) * 2 ^ (r / BIN - 1) < (BIN + BIN) * 2 ^ (r / BIN - 1) := Nat.mul_lt_mul_of_pos_right (by omega) hp
       _ = BIN * (2 ^ (r / BIN - 1) * 2) := by rw [← Nat.two_mul, Nat.mul_comm (2 ^ (r / BIN - 1)) 2, ← Nat.mul_assoc, Nat.mul_comm BIN 2]
       _ ≤ BIN * 2 ^ (s / BIN - 1) := Nat.mul_le_mul_left _ h2
       _ ≤ (BIN + s % BIN) * 2 ^ (s / BIN - 1) := Nat.mul_le_mul_right _ (Nat.le_add_right _ _)
   · rw [heq]
     rw [heq] at er
     exact Nat.mul_lt_mul_of_pos_right (by omega) (Nat.two_pow_pos _)
theorem Zwz {r s : Nat} : mg r = mg s ↔ r = s := by
 constructor
 · intro h
   rcases Nat.lt_trichotomy r s with hlt | heq | hgt
   · have := Zrw hlt; omega
   · exact heq
   · have := Zrw hgt; omega
 · intro h; rw [h]
theorem Zq3 {r s : Nat} : mg r < mg s ↔ r < s := by
 constructor
 · intro h
   rcases Nat.lt_trichotomy r s with hlt | heq | hgt
   · exact hlt
   · rw [heq] at h; omega
   · have := Zrw hgt; omega
 · exact Zrw
def sgn (s : Bool) (n : Nat) : Int := if s then -(n : Int) else n
theorem Z1b {s t : Bool} {m n r q : Nat} (h : m < n ↔ r < q) (h' : n < m ↔ q < r) (h0 : m = 0 ↔ r = 0) (h0' : n = 0 ↔ q = 0) : sgn s m < sgn t n ↔ sgn s r < sgn t q := by
 cases s <;> cases t <;> simp [sgn] <;> omega
theorem Z0k {s t : Bool} {m n r q : Nat} (h : m < n ↔ r < q) (h' : n < m ↔ q < r) (h0 : m = 0 ↔ r = 0) (h0' : n = 0 ↔ q = 0) : sgn s m = sgn t n ↔ sgn s r = sgn t q := by
 cases s <;> cases t <;> simp [sgn] <;> omega
theorem Z0h (a b : Int) : compare a b = .lt ↔ a < b := by
 simp only [compare, compareOfLessAndEq]
 split
 · simp [*]
 · split <;> simp [*]
theorem Z0e (a b : Int) : compare a b = .eq ↔ a = b := by
 simp only [compare, compareOfLessAndEq]
 split
 · rename_i h; simp; omega
 · split <;> simp [*]
theorem Zyp {b : Nat} (h : b < 18446744073709551616) : sg b = sgn (ngb b) (rg b) := by
 unfold sg sgn ngb rg TOP
 split
 · rename_i h1
   have e1 : b / 9223372036854775808 = 1 := by omega
   have e2 : b % 9223372036854775808 = b - 9223372036854775808 := by omega
   simp [e1, e2]
 · have e1 : b / 9223372036854775808 = 0 := by omega
   have e2 : b % 9223372036854775808 = b := by omega
   simp [e1, e2]
def nm (r : Nat) : Nat := if r < BIN then r else BIN + r % BIN
def np (r : Nat) : Nat := if r < BIN then 0 else r / BIN - 1
theorem Zys (r : Nat) : mg r = nm r * 2 ^ np r := by
 unfold mg nm np
 split <;> simp
theorem Zmd {b : Nat} (h : rg b < INF) : Ieee.double.read b = .number (ngb b) (nm (rg b)) (Zh4 + (np (rg b) : Nat)) := by
 rw [Zqp]
 unfold nm np
 split
 · simp
 · simp [h]
theorem Zv7 (s t : Bool) (r q : Nat) : ∃ o, Ieee.Datum.order (.number s (nm r) (Zh4 + (np r : Nat))) (.number t (nm q) (Zh4 + (np q : Nat))) = some o ∧ (o = .lt ↔ sgn s r < sgn t q) ∧ (o = .eq ↔ sgn s r = sgn t q) := by
 refine ⟨_, rfl, ?_⟩
 have hmin : min (Zh4 + (np r : Nat)) (Zh4 + (np q : Nat)) = Zh4 + (min (np r) (np q) : Nat) := by omega
 have e1 : (Zh4 + (np r : Nat) - min (Zh4 + (np r : Nat)) (Zh4 + (np q : Nat))).toNat = np r - min (np r) (np q) := by rw [hmin]; omega
 have e2 : (Zh4 + (np q : Nat) - min (Zh4 + (np r : Nat)) (Zh4 + (np q : Nat))).toNat = np q - min (np r) (np q) := by rw [hmin]; omega
 have hs : ∀ (s : Bool) (m u : Nat), Ieee.signed s m u = sgn s (m * 2 ^ u) := by
   intro s m u
   simp [Ieee.signed, sgn, Nat.shiftLeft_eq]
 rw [e1, e2, hs, hs, Z0h, Z0e]
 have hc : 0 < 2 ^ min (np r) (np q) := Nat.two_pow_pos _
 have m1 : nm r * 2 ^ (np r - min (np r) (np q)) * 2 ^ min (np r) (np q) = mg r := by
   rw [Nat.mul_assoc, ← Nat.pow_add, Nat.sub_add_cancel (Nat.min_le_left _ _), Zys]
 have m2 : nm q * 2 ^ (np q - min (np r) (np q)) * 2 ^ min (np r) (np q) = mg q := by
   rw [Nat.mul_assoc, ← Nat.pow_add, Nat.sub_add_cancel (Nat.min_le_right _ _), Zys]
 have k1 : nm r * 2 ^ (np r - min (np r) (np q)) < nm q * 2 ^ (np q - min (np r) (np q)) ↔ r < q := by
   rw [← Zq3 (r := r) (s := q), ← m1, ← m2]
   exact (Nat.mul_lt_mul_right hc).symm
 have k2 : nm q * 2 ^ (np q - min (np r) (np q)) < nm r * 2 ^ (np r - min (np r) (np q)) ↔ q < r := by
   rw [← Zq3 (r := q) (s := r), ← m1, ← m2]
   exact (Nat.mul_lt_mul_right hc).symm
 have z0 : mg 0 = 0 := rfl
 have k3 : nm r * 2 ^ (np r - min (np r) (np q)) = 0 ↔ r = 0 := by
   have hz : r = 0 ↔ mg r = 0 := (Zwz (r := r) (s := 0)).symm
   rw [hz, ← m1]
   constructor
   · intro h; rw [h, Nat.zero_mul]
   · intro h; exact (Nat.mul_eq_zero.1 h).resolve_right (by omega)
 have k4 : nm q * 2 ^ (np q - min (np r) (np q)) = 0 ↔ q = 0 := by
   have hz : q = 0 ↔ mg q = 0 := (Zwz (r := q) (s := 0)).symm
   rw [hz, ← m2]
   constructor
   · intro h; rw [h, Nat.zero_mul]
   · intro h; exact (Nat.mul_eq_zero.1 h).resolve_right (by omega)
 exact ⟨Z1b k1 k2 k3 k4, Z0k k1 k2 k3 k4⟩
theorem Zmg {a b : Nat} (ha : a < 18446744073709551616) (hb : b < 18446744073709551616) (na : ¬ isn a) (nb : ¬ isn b) : ∃ o, Ieee.double.order a b = some o ∧ (o = .lt ↔ sg a < sg b) ∧ (o = .eq ↔ sg a = sg b) := by
 rw [Zyp ha, Zyp hb]
 unfold isn at na nb
 have hI : INF = 9218868437227405312 := rfl
 have rd : ∀ x, ¬ INF < rg x → rg x < INF ∨ rg x = INF := fun x h => by omega
 have ri : ∀ x, rg x = INF → Ieee.double.read x = .infinity (ngb x) := fun x h => by
   rw [Zqp, if_neg (by rw [h]; decide), if_neg (by rw [h]; decide), if_pos h]
 unfold Ieee.Format.order
 rcases rd a na with h1 | h1 <;> rcases rd b nb with h2 | h2
 · rw [Zmd h1, Zmd h2]; exact Zv7 _ _ _ _
 · rw [Zmd h1, ri b h2]
   refine ⟨_, rfl, ?_⟩
   rw [h2]
   cases ngb a <;> cases ngb b <;> simp [sgn] <;> omega
 · rw [ri a h1, Zmd h2]
   refine ⟨_, rfl, ?_⟩
   rw [h1]
   cases ngb a <;> cases ngb b <;> simp [sgn] <;> omega
 · rw [ri a h1, ri b h2]
   refine ⟨_, rfl, ?_⟩
   rw [h1, h2]
   cases ngb a <;> cases ngb b <;> simp [sgn] <;> first | decide | omega
theorem Zq0 {a b : Nat} (h : isn a ∨ isn b) : Ieee.double.order a b = none := by
 have rn : ∀ x, isn x → ∃ s f, Ieee.double.read x = .nan s f := fun x h => by
   refine ⟨ngb x, rg x - INF, ?_⟩
   unfold isn at h
   have hI : INF = 9218868437227405312 := rfl
   have hB : BIN = 4503599627370496 := rfl
   rw [Zqp, if_neg (by omega), if_neg (by omega), if_neg (by omega)]
 unfold Ieee.Format.order
 rcases h with h | h
 · obtain ⟨s, f, e⟩ := rn a h
   rw [e]; rfl
 · obtain ⟨s, f, e⟩ := rn b h
   rw [e]
   cases Ieee.double.read a <;> rfl
end Go.CL
namespace Go.CL
open Go Go.RowKit
def fadd (m n : Nat) : Nat := (Ieee.double.add m n).getD 9221120237041090561
def fmul (m n : Nat) : Nat := (Ieee.double.mul m n).getD 9221120237041090561
theorem Zw7 {b : Nat} (h : isn b) : fneq b b = true := by
 unfold fneq
 show (Ieee.double.order b b != some .eq) = true
 rw [Zq0 (.inl h)]; rfl
section
variable {P : Program} {N : Nat} {o : Oper} {uses : Z3} {d : Nat} {q : Pd} {x y z : Operand}
def Zro (z : Nat) : Pd := ⟨fun g v => ∃ r, v = .float .f64 r ∧ (r = z ∨ (fneq r r = true ∧ fneq z z = true)), [], fun _ _ h => h⟩
theorem Zsg {op : BinOp} {f : Nat → Nat → Option Nat} {t ty : TypeId} {m n : Nat} (hop : o.op = .binOp op t x y ty) (hd : o.dst = some d) (hx : Opd uses x (pFlt m)) (hy : Opd uses y (pFlt n))
   (h : ∀ w, (binOp op t (.float .f64 m) (.float .f64 n)).run P w = (match f m n with | some r => .ok (.float .f64 r) w | none => ((choose (.nanBits .f64 m n)).run P w).andThen fun r w' => .ok (.float .f64 r) w')) : OB P N o uses [(d, Zro ((f m n).getD 9221120237041090561))] [] :=
 Zfw hd fun a g hh => by
   have h1 := Zgz.1 (hx a g hh)
   have h2 := Zgz.1 (hy a g hh)
   have hg : (eqGuard op t x y (.float .f64 m) (.float .f64 n)).run P g.w = .ok () g.w := by
     unfold eqGuard
     split <;> rfl
   cases hf : f m n with
   | some r =>
     refine ⟨.float .f64 r, g, ?_, .refl _ _, r, rfl, .inl (by simp)⟩
     have := h g.w
     rw [hf] at this
     simp [execOp, hop, h1, h2, hg, this]
   | none =>
     have := h g.w
     rw [hf] at this
     have hc : (choose (.nanBits .f64 m n)).run P g.w = .ok ((Question.nanBits .f64 m n).cut (g.w.tape g.w.drawn (Question.nanBits .f64 m n))) g.w.drew := by
       simp [Question.forced]
     refine ⟨.float .f64 ((Question.nanBits .f64 m n).cut (g.w.tape g.w.drawn (Question.nanBits .f64 m n))), g.drew, ?_, Step.drew g, _, rfl, .inr ⟨Zw7 ?_, by decide +kernel⟩⟩
     · simp only [hc, Result.andThen_ok] at this
       simp [execOp, hop, h1, h2, hg, this]; rfl
     · unfold isn rg INF TOP
       generalize g.w.tape g.w.drawn (Question.nanBits .f64 m n) = u
       simp only [Question.cut]
       have hv := Nat.mod_lt (u / 2) (show 0 < 2 ^ 52 - 1 by decide)
       generalize u / 2 % (2 ^ 52 - 1) = v at hv
       rcases Nat.mod_two_eq_zero_or_one u with h | h <;> rw [h] <;> omega
theorem Zxl {t ty : TypeId} {m n : Nat} (hop : o.op = .binOp .add t x y ty) (hd : o.dst = some d) (hx : Opd uses x (pFlt m)) (hy : Opd uses y (pFlt n)) : OB P N o uses [(d, Zro (fadd m n))] [] :=
 Zsg hop hd hx hy fun w => by
   cases h : Ieee.double.add m n <;> simp [binOp, Op.floatArith, FloatKind.format, h]
theorem Zxr {t ty : TypeId} {m n : Nat} (hop : o.op = .binOp .mul t x y ty) (hd : o.dst = some d) (hx : Opd uses x (pFlt m)) (hy : Opd uses y (pFlt n)) : OB P N o uses [(d, Zro (fmul m n))] [] :=
 Zsg hop hd hx hy fun w => by
   cases h : Ieee.double.mul m n <;> simp [binOp, Op.floatArith, FloatKind.format, h]
theorem Zs4 {β : Type} {f : FuncId} {F : Nat → Option β} {q : β → Pd} (hF : ∀ r z, fneq r r = true → fneq z z = true → F r = F z) (hok : ∀ z r, F z = some r → FnOk P f [pFlt z] (q r)) {z : Nat} {r : β} (h : F z = some r) : FnOk P f [Zro z] (q r) := by
 intro g args hargs
 obtain ⟨r', hv, hr⟩ := hargs.2 0 _ _ rfl (List.getElem?_eq_getElem (by rw [hargs.1]; exact Nat.zero_lt_one))
 have h' : F r' = some r := by
   rcases hr with rfl | ⟨h1, h2⟩
   · exact h
   · rw [hF r' z h1 h2]; exact h
 refine hok r' r h' g args ⟨hargs.1, fun i qi u h1 h2 => ?_⟩
 match i, h1 with
 | 0, h1 =>
   simp at h1; subst h1
   have hl : 0 < args.length := by rw [hargs.1]; exact Nat.zero_lt_one
   rw [List.getElem?_eq_getElem hl] at h2
   have := Option.some.inj h2
   exact Zgz.2 (by rw [← this]; exact hv)
end
end Go.CL
namespace Go.CL
section
variable {P : Program} {N : Nat} {o : Oper} {uses outs : Z3} {S : List Nat} {d : Nat} {q : Pd} {x y z : Operand} {α β : Type} {dk : Kd α} {t e j : Nat}
def G.give (g : G) (b : Nat) (hb : b < g.w.heap.size) : G := ⟨g.w, fun b' o => g.pr b' o ∨ b' = b, fun c => if c = b then 0 else g.own c, fun b' o h => h.elim (g.hpr b' o) (fun h => by rw [h]; exact hb), g.gl.le (fun _ _ h => .inl h) (fun _ _ _ => rfl)⟩
theorem Zt1 (g : G) (b : Nat) (hb : b < g.w.heap.size) : g.le (g.give b hb) := ⟨Nat.le_refl _, fun _ _ h => .inl h, fun _ _ _ => rfl, fun _ _ => rfl⟩
theorem Zvq {g : G} {b j : Nat} (hb : b < g.w.heap.size) (ho : g.own b = j) : Step [j] g (g.give b hb) :=
 ⟨Zt1 g b hb, rfl, rfl, rfl, fun c hc hn => by
   have hcb : c ≠ b := fun h => hn (by rw [h, ho]; exact List.mem_singleton.2 rfl)
   refine ⟨rfl, ?_, if_neg hcb⟩
   funext o
   show (g.pr c o ∨ c = b) = _
   simp [hcb],
  fun c h1 h2 => absurd (Nat.lt_of_lt_of_le h2 h1) (Nat.lt_irrefl _),
  fun c hc hn => by
   show (if c = b then 0 else g.own c) = 0 ∨ (if c = b then 0 else g.own c) ∈ _
   split
   · exact .inl rfl
   · exact .inr hn⟩
theorem Zxk {xs : List α} {g : G} {b cap : Nat} {cur : Array Value} (hO : OwnAt dk e j (xs.map some) g b cap cur) : (dk.sl.pd xs).p (g.give b hO.lt) (.slice (some ⟨b, 0, none⟩) xs.length cap) := by
 have hle := Zt1 g b hO.lt
 have hl := hO.len
 rw [List.length_map] at hl
 have hm := hO.max
 refine Kd.sl_V.2 ⟨_, cap, rfl, hl, by simp only [maxLen] at hm; omega, .inr ⟨b, 0, rfl, fun i x hx => ?_⟩⟩
 refine ⟨_, dk.mono hle (hO.known i x (by rw [List.getElem?_map, hx]; rfl)), fun k u hk => ⟨.inr rfl, ?_⟩⟩
 simp only [seg, List.getElem?_take, List.getElem?_drop] at hk
 split at hk
 · show g.w.cell? _ = _
   simp only [World.cell?, hO.heap]
   simpa using hk
 · cases hk
end
section
variable {P : Program} {N : Nat} {o : Oper} {uses outs : Z3} {S : List Nat} {d : Nat} {q : Pd} {x y z : Operand}
theorem OB.frameU {n : Nat} (h : OB P N o uses outs S) (hs : Opd uses (.tmp n) q) (hq : ∀ j ∈ q.fp, j ∉ S) (hn : o.dst ≠ some n) : OB P N o uses ((n, q) :: outs) S := by
 intro a g K Q hN hdN hu hK
 refine h a g K Q hN hdN hu fun v g' hst ho => hK v g' hst fun e he => ?_
 rcases List.mem_cons.1 he with rfl | he
 · have h2 := q.st hst hq (hs a g hu)
   show q.p g' (Act.at (a.put o.dst v) n)
   rw [Zgt v hn]; exact h2
 · exact ho e he
structure Hp (σ : Type) where
 p : G → σ → Prop
 fp : List Nat
 st : ∀ {S : List Nat} {g g' : G} {s : σ}, Step S g g' → (∀ j ∈ fp, j ∉ S) → p g s → p g' s
def hpT {σ : Type} : Hp σ := ⟨fun _ _ => True, [], fun _ _ _ => trivial⟩
def hpL (q : Pd) : Hp SlV := ⟨fun g s => q.p g (slv s), q.fp, fun st hd h => q.st st hd h⟩
def hpL2 (q1 q2 : Pd) : Hp (SlV × SlV) := ⟨fun g s => q1.p g (slv s.1) ∧ q2.p g (slv s.2), q1.fp ++ q2.fp, fun st hd h => ⟨q1.st st (fun j hj => hd j (List.mem_append_left _ hj)) h.1, q2.st st (fun j hj => hd j (List.mem_append_right _ hj)) h.2⟩⟩
variable {c : Option Nat} {α β γ δ ε σ : Type} {kV : Kd γ} {raw : α → σ → γ} {R R' R2 : Hp σ} {dk : Kd β} {di : Kd δ} {dj : Kd ε} {t e j : Nat} {xv : α}
def Zdq (c : Option Nat) (kV : Kd γ) (raw : α → σ → γ) (R : Hp σ) (j : Nat) (x : α) : Pd := ⟨fun g v => ∃ s, (Zbn c kV j (raw x s)).p g v ∧ R.p g s, (j + 1) :: R.fp, fun st hd ⟨s, h1, h2⟩ => ⟨s, (Zbn c kV j (raw x s)).st st (fun k hk => hd k (List.mem_cons.2 (.inl (List.mem_singleton.1 hk)))) h1, R.st st (fun k hk => hd k (List.mem_cons_of_mem _ hk)) h2⟩⟩
abbrev pBxS (kV : Kd γ) (raw : α → σ → γ) (R : Hp σ) (j : Nat) (x : α) : Pd := Zdq none kV raw R j x
theorem Zum {g : G} {v : Value} (hv : (Zdq c kV raw R j xv).p g v) : (Zdq c kV raw hpT j xv).p g v := let ⟨s, h1, _⟩ := hv; ⟨s, h1, trivial⟩
def pPQ (kV : Kd γ) (j off : Nat) (q : Pd) : Pd := ⟨fun g v => ∃ w s, (Zeq kV j w off Kd.raw s).p g v ∧ q.p g (slv s), (j + 1) :: q.fp, fun st hd ⟨w, s, h1, h2⟩ => ⟨w, s, (Zeq kV j w off Kd.raw s).st st (fun k hk => hd k (List.mem_cons.2 (.inl (List.mem_singleton.1 hk)))) h1, q.st st (fun k hk => hd k (List.mem_cons_of_mem _ hk)) h2⟩⟩
theorem Zz3 {off : Nat} {g : G} {v : Value} (h : (pPQ kV j off q).p g v) : ∃ w s1, (Zeq kV j w off Kd.raw s1).p g v := let ⟨w, s, h1, _⟩ := h; ⟨w, s, h1⟩
theorem Zfn {s i off : Nat} {pt : Nat} {proj : γ → SlV} {pr : σ → SlV} (hF : Fld P s i kV Kd.raw proj) (ho : (match P.underlying s with | some (.struct F) => (F[i]?).map (·.offset) | _ => none) = some off) (hu : ∀ sv, proj (raw xv sv) = pr sv) (hq : ∀ g s, R.p g s → q.p g (slv (pr s))) (hop : o.op = .fieldAddr s (.tmp pt) i) (hd : o.dst = some d) (hx : Opd uses (.tmp pt) (Zdq c kV raw R j xv)) : OB P N o uses [(d, pPQ kV j off q)] [] :=
 OB.at fun a g hh => by
   obtain ⟨s0, h0, h2⟩ := hx a g hh
   refine ⟨[(N, pAt (slv (pr s0)) q), (pt, Zbn c kV j (raw xv s0))], fun en he => ?_, ?_⟩
   · rcases List.mem_cons.1 he with rfl | he
     · exact hq g s0 h2
     · rw [List.mem_singleton.1 he]; exact h0
   · intro a' g' K Q hN hdN hu' hK
     have hdl := hdN d hd
     refine (OB.frame (n := N) (q := pAt (slv (pr s0)) q) (Zv (c := c) hF ho hop hd .t0) (fun _ _ h => by cases h) (by rw [hd]; intro h; exact absurd (Option.some.inj h) (Nat.ne_of_lt hdl))).weak (fun g2 a2 h en he => ?_) a' g' K Q hN hdN hu' hK
     rw [List.mem_singleton.1 he]
     have := h (d, Zeq kV j (raw xv s0) off Kd.raw (proj (raw xv s0))) (by simp)
     rw [hu] at this
     exact ⟨_, pr s0, this, h (N, pAt (slv (pr s0)) q) (by simp)⟩
theorem Zg3 {off pt : Nat} (hT : Ty P t Kd.raw) (hop : o.op = .load t (.tmp pt)) (hd : o.dst = some d) (hx : Opd uses (.tmp pt) (pPQ kV j off q)) : OB P N o uses [(d, q)] [] :=
 OB.at fun a g hh => by
   obtain ⟨w, s0, h0, h2⟩ := hx a g hh
   refine ⟨[(N, pAt (slv s0) q), (pt, Zeq kV j w off Kd.raw s0)], fun en he => ?_, ?_⟩
   · rcases List.mem_cons.1 he with rfl | he
     · exact h2
     · rw [List.mem_singleton.1 he]; exact h0
   · intro a' g' K Q hN hdN hu' hK
     have hdl := hdN d hd
     refine (OB.frame (n := N) (q := pAt (slv s0) q) (Zbr hT hop hd .t0) (fun _ _ h => by cases h) (by rw [hd]; intro h; exact absurd (Option.some.inj h) (Nat.ne_of_lt hdl))).weak (fun g2 a2 h en he => ?_) a' g' K Q hN hdN hu' hK
     rw [List.mem_singleton.1 he]
     have h3 := Zpt.1 (h (d, Kd.raw.pd s0) (by simp))
     show q.p g2 (Act.at a2 d)
     rw [h3]
     exact h (N, pAt (slv s0) q) (by simp)
theorem Zw1 {off s pt zt : Nat} {x' : α} {upd : σ → SlV → σ} (hT : Ty P t Kd.raw) (hop : o.op = .store t (.tmp pt) (.tmp zt)) (hd : o.dst = none) (hsl : ∀ g v, q.p g v → ∃ s2 : SlV, v = slv s2) (hj : ∀ k ∈ q.fp, k ≠ j + 1) (hj2 : ∀ k ∈ R.fp, k ≠ j + 1) (hs : Opd uses (.tmp s) (Zdq c kV raw R j xv)) (hx : ∀ (a : Act) g, Zdn uses a g → ∃ w s1, (Zeq kV j w off Kd.raw s1).p g (Act.at a pt)) (hz : Opd uses (.tmp zt) q)
   (hR : ∀ g s s2, R.p g s → q.p g (slv s2) → R2.p g (upd s s2)) (hw : ∀ g cs s0 s1 ys, kV.K g (raw xv s0) cs → Kd.raw.K g s1 ys → off + ys.length ≤ cs.length ∧ kV.K g (raw x' (upd s0 s1)) (Z2 cs off ys)) : OB P N o uses [(s, Zdq c kV raw R2 j x')] [j + 1] :=
 OB.at fun a g hh => by
   obtain ⟨s0, h0, hR0⟩ := hs a g hh
   obtain ⟨w, s1, h1⟩ := hx a g hh
   have h2 := hz a g hh
   obtain ⟨s2, hv2⟩ := hsl _ _ h2
   refine ⟨[(N, pAt (slv s2) q), (N, ⟨fun g _ => R.p g s0, R.fp, fun st hd h => R.st st hd h⟩), (s, Zbn c kV j (raw xv s0)), (pt, Zeq kV j w off Kd.raw s1), (zt, Kd.raw.pd s2)], fun en he => ?_, ?_⟩
   · rcases List.mem_cons.1 he with rfl | he
     · show q.p g (slv s2)
       rw [← hv2]; exact h2
     · rcases List.mem_cons.1 he with rfl | he
       · exact hR0
       · rcases List.mem_cons.1 he with rfl | he
         · exact h0
         · rcases List.mem_cons.1 he with rfl | he
           · exact h1
           · rw [List.mem_singleton.1 he]; exact Zpt.2 hv2
   · refine (OB.frame (n := N) (q := pAt (slv s2) q) (OB.frame (n := N) (q := ⟨fun g _ => R.p g s0, R.fp, fun st hd h => R.st st hd h⟩) (Zfp (c := c) (v' := raw x' (upd s0 s2)) hT hop hd .t0 (.tl .t0) (.tl (.tl .t0)) (fun g cs ys h k => hw g cs s0 s2 ys h k)) (fun k hk hS => hj2 k hk (List.mem_singleton.1 hS)) (by rw [hd]; simp)) (fun k hk hS => hj k hk (List.mem_singleton.1 hS)) (by rw [hd]; simp)).weak (fun g2 a2 h en he => ?_)
     rw [List.mem_singleton.1 he]
     have k1 : R.p g2 s0 := h (N, ⟨fun g _ => R.p g s0, R.fp, fun st hd h => R.st st hd h⟩) (by simp)
     have k2 : q.p g2 (slv s2) := h (N, pAt (slv s2) q) (by simp)
     exact ⟨upd s0 s2, h (s, Zbn c kV j (raw x' (upd s0 s2))) (by simp), hR g2 s0 s2 k1 k2⟩
theorem Zmk {s i off : Nat} {pt : Nat} {proj : γ → δ} {u : δ} (hF : Fld P s i kV di proj) (ho : (match P.underlying s with | some (.struct F) => (F[i]?).map (·.offset) | _ => none) = some off) (hu : ∀ sv, proj (raw xv sv) = u) (hop : o.op = .fieldAddr s (.tmp pt) i) (hd : o.dst = some d) (hx : Opd uses (.tmp pt) (Zdq c kV raw R j xv)) : OB P N o uses [(d, pPX kV j off di u)] [] :=
 OB.at fun a g hh => by
   obtain ⟨s0, h0, _⟩ := hx a g hh
   refine ⟨[(pt, Zbn c kV j (raw xv s0))], fun en he => by rw [List.mem_singleton.1 he]; exact h0, (Zv (c := c) hF ho hop hd .t0).weak fun g2 a2 h en he => ?_⟩
   rw [List.mem_singleton.1 he]
   have := h (d, Zeq kV j (raw xv s0) off di (proj (raw xv s0))) (List.mem_singleton.2 rfl)
   rw [hu] at this
   exact ⟨_, this⟩
theorem Zs2 {α : Type} {dk : Kd α} {xs : List α} {g : G} {s : SlV} {cs : List Value} (h : Kd.raw.K g s cs) (hv : dk.sl.V g xs (slv s)) : dk.sl.K g xs cs := by
 have h1 : cs = [slv s] := h
 obtain ⟨cs', h2, h3⟩ := hv
 have hl := dk.sl.len h2
 obtain ⟨u, rfl⟩ := List.length_eq_one_iff.1 hl
 have : slv s = u := h3
 rw [h1, this]; exact h2
end
section
variable {P : Program} {N : Nat} {o : Oper} {uses outs : Z3} {d : Nat} {q : Pd} {x y z : Operand} {α β γ : Type} {kV : Kd γ} {raw : α → SlV → γ} {lst : α → List β} {dk : Kd β} {e : TypeId}
def ArrB (dk : Kd β) (e : TypeId) (xs : List β) (g : G) (v : Value) (B : Nat → Prop) : Prop :=
 (xs = [] ∧ ∃ A, v = .slice A 0 0) ∨ ∃ b cap cur, v = .slice (some ⟨b, 0, none⟩) xs.length cap ∧ B b ∧ g.w.heap[b]? = some (.cells cur e (0, 0)) ∧ xs.length ≤ cap ∧ cap ≤ maxLen ∧ cur.size = cap * dk.sz ∧ ∀ (i : Nat) (x : β), xs[i]? = some x → dk.K g x (seg cur.toList (i * dk.sz) dk.sz)
def obS (kV : Kd γ) (raw : α → SlV → γ) (lst : α → List β) (dk : Kd β) (e : TypeId) : Ob α where
 R := fun g b B x => ∃ s cs t, g.w.heap[b]? = some (.cells (List.toArray cs) t (0, 0)) ∧ kV.K g (raw x s) cs ∧ ArrB dk e (lst x) g (slv s) B
 st := by
   rintro g g' b B x ⟨s, cs, t, h1, h2, h3⟩ hle hh
   refine ⟨s, cs, t, (hh b (.inl rfl)).trans h1, kV.mono hle h2, ?_⟩
   rcases h3 with h3 | ⟨c, cap, cur, k1, k2, k3, k4, k5, k6, k7⟩
   · exact .inl h3
   · exact .inr ⟨c, cap, cur, k1, k2, (hh c (.inr k2)).trans k3, k4, k5, k6, fun i x hx => dk.mono hle (k7 i x hx)⟩
abbrev Zit (kV : Kd γ) (raw : α → SlV → γ) (lst : α → List β) (dk : Kd β) (e : TypeId) (b : Nat) (x : α) : Pd := Zdq (some b) kV raw (hpL (pArr dk e AUX (lst x))) 0 x
def Zyu (kV : Kd γ) (raw : α → SlV → γ) (lst : α → List β) (dk : Kd β) (e : TypeId) (b : Nat) (x : α) (g0 : G) (q : Pd) (v : Value) (g1 : G) : Prop := Base g0 g1 ∧ q.p g1 v ∧ (Zit kV raw lst dk e b x).p g1 (.pointer (some ⟨b, 0, none⟩))
open Classical in
theorem Zt7 {x0 x1 : α} {f : FuncId} {fn : Func} {c : Code} {A : List Pd} (hf : P.funcs[f]? = some fn) (hb : fn.body = some c) (hn : fn.ntmps = N) (hAN : A.length + 1 ≤ N) (hA : Free A) (hq : q.fp = [])
   (h : ∀ (a : Act) (g : G) (b : Nat), St N ((0, Zit kV raw lst dk e b x0) :: Zgs A 1) a g → Base g g → c.wp P (bodyPost P fn (FinP (Zyu kV raw lst dk e b x1 g q))) a g.w) : FnM P f (obS kV raw lst dk e) x0 x1 A q := by
 intro g b B args hR hbl hbp hB hargs
 obtain ⟨s, cs, t, hh, hk, hl⟩ := hR
 obtain ⟨own, o1, o2, o3, harr⟩ : ∃ own : Nat → Nat, own b = 1 ∧ (∀ c, own c = 1 → c = b) ∧ (∀ c, own c ≠ 0 → c = b ∨ B c) ∧ ∀ g0 : G, g0.w = g.w → g0.pr = g.pr → g0.own = own → g.le g0 → (pArr dk e AUX (lst x0)).p g0 (slv s) := by
   rcases hl with ⟨h1, h2⟩ | ⟨c, cap, cur, k1, k2, k3, k4, k5, k6, k7⟩
   · refine ⟨fun c => if c = b then 1 else 0, if_pos rfl, fun c hc => ?_, fun c hc => ?_, fun g0 _ _ _ _ => .inl ⟨h1, h2⟩⟩
     · dsimp only at hc
       split at hc
       · assumption
       · omega
     · dsimp only at hc
       split at hc
       · left; assumption
       · exact absurd rfl hc
   · obtain ⟨l1, l2, l3⟩ := hB c k2
     refine ⟨fun c' => if c' = b then 1 else if c' = c then AUX + 1 else 0, if_pos rfl, fun c' hc => ?_, fun c' hc => ?_, fun g0 e1 e2 e3 hle => .inr ⟨c, cap, cur, k1, by rw [e1]; exact l1, by rw [e3]; show (if c = b then 1 else if c = c then AUX + 1 else 0) = AUX + 1; rw [if_neg l2, if_pos rfl], fun c' _ hc => ?_, by rw [e1]; exact k3, by simpa using k4, k5, k6, fun i x hx => ?_, fun o => by rw [e2]; exact l3 o⟩⟩
     · dsimp only at hc
       split at hc
       · assumption
       · split at hc <;> simp [AUX] at hc
     · dsimp only at hc
       split at hc
       · left; assumption
       · split at hc
         · rename_i h; right; rw [h]; exact k2
         · exact absurd rfl hc
     · rw [e3] at hc
       have hc : (if c' = b then 1 else if c' = c then AUX + 1 else 0) = AUX + 1 := hc
       split at hc
       · simp [AUX] at hc
       · split at hc
         · assumption
         · simp [AUX] at hc
     · rw [List.getElem?_map] at hx
       obtain ⟨u, hu, hux⟩ := Option.map_eq_some_iff.1 hx
       obtain rfl := Option.some.inj hux
       exact dk.mono hle (k7 i u hu)
 let g0 : G := ⟨g.w, g.pr, own, g.hpr, g.gl⟩
 have hle : g.le g0 := ⟨Nat.le_refl _, fun _ _ h => h, fun _ _ _ => rfl, fun _ _ => rfl⟩
 have hst : St N ((0, Zit kV raw lst dk e b x0) :: Zgs A 1) { tmps := (Value.pointer (some ⟨b, 0, none⟩) :: args).toArray ++ Array.replicate (fn.ntmps - (Value.pointer (some ⟨b, 0, none⟩) :: args).toArray.size) undef, defers := [] } g0 := by
   refine ⟨?_, rfl, ?_⟩
   · have := hargs.1
     simp [hn]; omega
   · intro en he
     rcases List.mem_cons.1 he with rfl | he
     · have hv : Act.at { tmps := (Value.pointer (some ⟨b, 0, none⟩) :: args).toArray ++ Array.replicate (fn.ntmps - (Value.pointer (some ⟨b, 0, none⟩) :: args).toArray.size) undef, defers := [] } 0 = .pointer (some ⟨b, 0, none⟩) := by
         simp only [Act.at, Array.getD_eq_getD_getElem?]
         rw [Array.getElem?_append, if_pos (by simp)]
         simp
       show (Zit kV raw lst dk e b x0).p g0 (Act.at _ 0)
       rw [hv]
       exact ⟨s, ⟨b, cs, t, rfl, ⟨hbl, o1, fun c _ hc => o2 c hc, hh, kV.mono hle hk, hbp⟩, fun b' h => Option.some.inj h⟩, harr g0 rfl rfl rfl hle⟩
     · obtain ⟨i, h1, h2⟩ := Zh9 he
       have hi : i < args.length := by rw [hargs.1]; exact (List.getElem?_eq_some_iff.1 h2).1
       have hv : Act.at { tmps := (Value.pointer (some ⟨b, 0, none⟩) :: args).toArray ++ Array.replicate (fn.ntmps - (Value.pointer (some ⟨b, 0, none⟩) :: args).toArray.size) undef, defers := [] } en.1 = args[i] := by
         rw [h1, Nat.add_comm]
         simp only [Act.at, Array.getD_eq_getD_getElem?]
         rw [Array.getElem?_append, if_pos (by simpa using hi)]
         simp [hi]
       rw [hv]
       exact Pd.le (hA.at h2) hle rfl rfl rfl (hargs.2 i en.2 _ h2 (List.getElem?_eq_getElem hi))
 have hbase : Base g0 g0 := ⟨.refl _, rfl, rfl, rfl, fun _ _ h => ⟨rfl, rfl, h⟩⟩
 refine Calls.mono (calls_of_wp hf hb (h _ g0 b hst hbase)) ?_
 rintro en w' ⟨g1, v, rfl, rfl, hBs, hqv, ⟨s1, ⟨b1, cs1, t1, e1, ⟨m1, m2, m3, m4, m5, m6⟩, hb1⟩, ha1⟩⟩
 obtain rfl := hb1 _ rfl
 have hS : Zke (fun c => c = b1 ∨ B c) g g1 := ⟨⟨hBs.le.size, hBs.le.pr, hBs.le.cell, hBs.le.blk⟩, hBs.os, hBs.tape, hBs.output, fun c hc hn => by
   have h0 : g0.own c = 0 := Classical.byContradiction fun h => hn (o3 c h)
   exact ⟨(hBs.same c hc h0).1, (hBs.same c hc h0).2.1⟩⟩
 rcases ha1 with ⟨hn, hA1⟩ | ⟨c, cap, cur, hv, hO⟩
 · exact ⟨g1, v, fun _ => False, rfl, rfl, hS, ⟨s1, cs1, t1, m4, m5, .inl ⟨hn, hA1⟩⟩, m6, fun c hc => hc.elim, hqv⟩
 · refine ⟨g1, v, fun c' => c' = c, rfl, rfl, hS, ⟨s1, cs1, t1, m4, m5, .inr ⟨c, cap, cur, hv, rfl, hO.heap, by simpa using hO.len, hO.max, hO.sz, fun i x hx => hO.known i x (by rw [List.getElem?_map, hx]; rfl)⟩⟩, m6, fun c' hc => ?_, hqv⟩
   subst hc
   refine ⟨Classical.byContradiction fun hno => ?_, hO.lt, hO.npr⟩
   have hlt : c' < g0.w.heap.size := Nat.lt_of_not_le fun h => hno (.inr h)
   by_cases h0 : g0.own c' = 0
   · have := (hBs.same c' hlt h0).2.2
     rw [hO.own] at this; simp [AUX] at this
   · rcases o3 c' h0 with h | h
     · have := hO.own
       rw [h, m2] at this; simp [AUX] at this
     · exact hno (.inl h)
theorem Zlg {fn : Func} {r : ResultVar} {v : Value} {a : Act} {g g0 : G} {L : Z3} {b : Nat} {x1 : α} (hr : fn.results = #[r]) (h : St N L a g) (hb : Base g0 g) (h1 : Zep P a g r v) (hq : q.p g v) (hs : (Zit kV raw lst dk e b x1).p g (Act.at a 0)) : bodyPost P fn (FinP (Zyu kV raw lst dk e b x1 g0 q)) .ret a g.w := by
 refine endP hr h h1 ⟨hb, hq, ?_⟩
 obtain ⟨s, ⟨b', cs, t, e1, hm, hc⟩, hR⟩ := hs
 obtain rfl := hc _ rfl
 exact ⟨s, ⟨b', cs, t, rfl, hm, hc⟩, hR⟩
end
section
variable {P : Program} {N : Nat} {o : Oper} {uses outs : Z3} {S : List Nat} {d : Nat} {q : Pd} {x y z : Operand} {β : Type} {dk : Kd β} {mt kt et : TypeId}
def MRel (dk : Kd β) (g : G) : List (Int × β) → List MapEntry → Prop
 | [], [] => True
 | e :: m, x :: es => (x.key = .int .i64 e.1 ∧ dk.V g e.2 x.val) ∧ MRel dk g m es
 | _, _ => False
theorem Zwf {g g' : G} (hle : g.le g') {v : β} {u : Value} (h : dk.V g v u) : dk.V g' v u := h.imp fun _ h => ⟨dk.mono hle h.1, h.2⟩
theorem MRel.mono {g g' : G} (hle : g.le g') : ∀ {m : List (Int × β)} {es : List MapEntry}, MRel dk g m es → MRel dk g' m es
 | [], [], _ => trivial
 | _ :: _, _ :: _, h => ⟨⟨h.1.1, Zwf hle h.1.2⟩, MRel.mono hle h.2⟩
def World.put (w : World) (b : Nat) (ob : Obj) : World := { w with heap := w.heap.setIfInBounds b ob }
structure MapB (β : Type) where
 old : List (Int × List β)
 last : Option (Int × List β)
def MapB.all (s : MapB β) : List (Int × List β) := s.old ++ s.last.toList
def MapB.put (s : MapB β) (n : Int) (v : List β) : MapB β := match s.last with
 | none => ⟨s.old, some (n, v)⟩
 | some e => if e.1 = n then ⟨s.old, some (n, v)⟩ else ⟨s.old ++ [e], some (n, v)⟩
variable {ee j jr : Nat}
end
section
variable {P : Program} {N : Nat} {o : Oper} {uses outs : Z3} {S : List Nat} {d : Nat} {q : Pd} {x y z : Operand} {α β γ : Type} {dk : Kd β} {t e j : Nat} {bytes : Nat}
theorem Zqn {xs : List β} {g : G} {v : Value} (h : (pArr dk e j xs).p g v) : ∃ s : SlV, v = slv s := by
 rcases h with ⟨rfl, A, rfl⟩ | ⟨b, cap, cur, rfl, _⟩
 · exact ⟨(A, 0, 0), rfl⟩
 · exact ⟨(some ⟨b, 0, none⟩, xs.length, cap), rfl⟩
end
section
variable {P : Program} {N : Nat} {o : Oper} {uses outs : Z3} {S : List Nat} {d : Nat} {q : Pd} {x y z : Operand} {α β γ : Type} {kV : Kd γ} {raw : α → SlV → γ} {lst : α → List β} {k : Kd α} {dk : Kd β} {t e j : Nat} {bytes : Nat}
def G.lend (g : G) (D : Nat → Prop) (hD : ∀ c, D c → c < g.w.heap.size) : G := ⟨g.w, fun b o => g.pr b o ∨ D b, g.own, fun b o h => h.elim (g.hpr b o) (hD b), g.gl.le (fun _ _ h => .inl h) (fun _ _ _ => rfl)⟩
theorem Zko (g : G) (D : Nat → Prop) (hD : ∀ c, D c → c < g.w.heap.size) : g.le (g.lend D hD) := ⟨Nat.le_refl _, fun _ _ h => .inl h, fun _ _ _ => rfl, fun _ _ => rfl⟩
theorem Zn0 {g g' : G} {D : Nat → Prop} {hD : ∀ c, D c → c < g.w.heap.size} (hn : ∀ c, D c → ∀ o, ¬ g.pr c o) (hs : Step [] (g.lend D hD) g') : ∃ g2 : G, g2.w = g'.w ∧ (∀ b o, g2.pr b o ↔ g'.pr b o ∧ ¬ D b) ∧ Step [] g g2 := by
 let g2 : G := ⟨g'.w, fun b o => g'.pr b o ∧ ¬ D b, g'.own, fun b o h => g'.hpr b o h.1, fun en hen i v hv => by
   obtain ⟨k1, k2⟩ := g'.gl en hen i v hv
   exact ⟨⟨k1, fun h => hn _ h i (g.gl en hen i v hv).1⟩, k2⟩⟩
 refine ⟨g2, rfl, fun _ _ => Iff.rfl, ⟨⟨hs.le.size, fun b o h => ⟨hs.le.pr b o (.inl h), fun h' => hn b h' o h⟩, fun b o h => hs.le.cell b o (.inl h), fun b h => hs.le.blk b (fun o => .inl (h o))⟩, hs.os, hs.tape, hs.output, fun b hb hn' => ?_, hs.new, hs.old⟩⟩
 obtain ⟨k1, k2, k3⟩ := hs.same b hb hn'
 refine ⟨k1, ?_, k3⟩
 funext o
 show (g'.pr b o ∧ ¬ D b) = g.pr b o
 rw [k2]
 show ((g.pr b o ∨ D b) ∧ ¬ D b) = g.pr b o
 have := fun h => hn b h o
 by_cases h : D b <;> simp [h, this]
def FnL (P : Program) (f : FuncId) (A : List Pd) (q : Pd) : Prop := ∀ (g : G) (args : List Value), ArgsOk A g args →
 Calls P f args.toArray g.w (fun en w' => ∃ g' v, en = .returned v ∧ w' = g'.w ∧ Step [] g g' ∧ ∀ g2 : G, g2.w = g'.w → (∀ b o, g.w.heap.size ≤ b → g'.pr b o → g2.pr b o) → q.p g2 v)
theorem FnL.ok {f : FuncId} {A : List Pd} (h : FnL P f A q) : FnOk P f A q := fun g args ha => Calls.mono (h g args ha) fun en w' ⟨g', v, h1, h2, h3, h4⟩ => ⟨g', v, h1, h2, h3, h4 g' rfl (fun _ _ _ h => h)⟩
theorem FnL.of {f : FuncId} {A : List Pd} (h : FnOk P f A q) (hq : ∀ (g g' : G) (v : Value), q.p g v → q.p g' v) : FnL P f A q := fun g args ha => Calls.mono (h g args ha) fun en w' ⟨g', v, h1, h2, h3, h4⟩ => ⟨g', v, h1, h2, h3, fun g2 _ _ => hq _ _ _ h4⟩
def Zrl (kV : Kd γ) (raw : α → SlV → γ) (lst : α → List β) (dk : Kd β) (k : Kd α) : Prop := ∀ (g : G) (x : α) (s : SlV) (cs : List Value), kV.K g (raw x s) cs → dk.sl.V g (lst x) (slv s) → k.K g x cs
theorem Zsj (hc : Zrl kV raw lst dk k) {g : G} {b : Nat} {B : Nat → Prop} {x : α} (hR : (obS kV raw lst dk e).R g b B x) (hD : ∀ c, (c = b ∨ B c) → c < g.w.heap.size) : (k.ptr x).p (g.lend (fun c => c = b ∨ B c) hD) (.pointer (some ⟨b, 0, none⟩)) := by
 obtain ⟨s, cs, t, hh, hk, hl⟩ := hR
 have hle := Zko g _ hD
 refine ⟨b, 0, cs, rfl, hc _ _ s _ (kV.mono hle hk) ?_, fun i v hv => ⟨.inr (.inl rfl), ?_⟩⟩
 · rcases hl with ⟨h1, A, h2⟩ | ⟨c, cap, cur, k1, k2, k3, k4, k5, k6, k7⟩
   · rw [h1, h2]; exact Kd.sl_V.2 ⟨A, 0, rfl, Nat.le_refl _, by simp, .inl rfl⟩
   · rw [k1]
     refine Kd.sl_V.2 ⟨_, cap, rfl, k4, by simp only [maxLen] at k5; omega, .inr ⟨c, 0, rfl, fun i x hx => ⟨_, dk.mono hle (k7 i x hx), fun n u hn => ⟨.inr (.inr k2), ?_⟩⟩⟩⟩
     simp only [seg, List.getElem?_take, List.getElem?_drop] at hn
     split at hn
     · show g.w.cell? _ = _
       simp only [World.cell?, k3]
       simpa using hn
     · cases hn
 · show g.w.cell? _ = _
   simp only [World.cell?, hh, Nat.zero_add]
   simpa using hv
theorem Zw9 {x0 : α} {f : FuncId} {A : List Pd} (hc : Zrl kV raw lst dk k) (hok : FnL P f (k.ptr x0 :: A) q) (hA : Free A) : FnM P f (obS kV raw lst dk e) x0 x0 A q := by
 intro g b B args hR hbl hbp hB hargs
 have hD : ∀ c, (c = b ∨ B c) → c < g.w.heap.size := fun c h => h.elim (fun h => h ▸ hbl) (fun h => (hB c h).1)
 have hn : ∀ c, (c = b ∨ B c) → ∀ o, ¬ g.pr c o := fun c h => h.elim (fun h => h ▸ hbp) (fun h => (hB c h).2.2)
 refine Calls.mono (hok (g.lend _ hD) _ (Zf4 (Zsj hc hR hD) ⟨hargs.1, fun i qi u h1 h2 => Pd.le (hA.at h1) (Zko g _ hD) rfl rfl rfl (hargs.2 i qi u h1 h2)⟩)) ?_
 rintro en w' ⟨g', v, rfl, rfl, hs, hq⟩
 obtain ⟨g2, e1, e2, hs2⟩ := Zn0 hn hs
 refine ⟨g2, v, B, rfl, e1.symm, ⟨hs2.le, hs2.os, hs2.tape, hs2.output, fun c hc' _ => ⟨(hs2.same c hc' (fun h => by cases h)).1, (hs2.same c hc' (fun h => by cases h)).2.1⟩⟩, (obS kV raw lst dk e).st hR hs2.le (fun c h => (hs2.same c (hD c h) (fun h => by cases h)).1), fun o => by rw [(hs2.same b hbl (fun h => by cases h)).2.1]; exact hbp o, fun c h => ⟨.inl h, Nat.lt_of_lt_of_le (hB c h).1 hs2.le.size, fun o => by rw [(hs2.same c (hB c h).1 (fun h => by cases h)).2.1]; exact (hB c h).2.2 o⟩, hq g2 e1 (fun b' o hb' hp => (e2 b' o).2 ⟨hp, fun h => by have := hD b' h; have hb' : g.w.heap.size ≤ b' := hb'; omega⟩)⟩
theorem Zs0 {f : FuncId} {x0 : α} {b0 : Nat} {xs : List Operand} {A : List Pd} {ty : Array TypeId} (hc : Zrl kV raw lst dk k) (he : Zl P f) (hok : FnL P f (k.ptr x0 :: A) q) (hop : o.op = .call { callee := .value (.func f), args := (x :: xs).toArray, argTypes := ty }) (hd : o.dst = some d)
   (hx : Opd uses x (Zit kV raw lst dk e b0 x0)) (hA : Free A) (hargs : OpdL uses xs A) : OB P N o uses [(d, q)] [] := by
 intro a g K Q hN hdN hu hK
 have hr : (execOp a.eval o).run P g.w = .ok (.enter f (a.eval x :: xs.map a.eval).toArray) g.w := by
   simp [execOp, hop, resolve, Zjd, Deferred.ofValue, invoke, Zfl he]
 unfold Oper.wp
 rw [hr]
 show Calls P f _ g.w _
 obtain ⟨s, ⟨b, cs, t, hv, ⟨m1, m2, m3, m4, m5, m6⟩, _⟩, hl⟩ := hx a g hu
 obtain ⟨B, hR, hB⟩ : ∃ B : Nat → Prop, (obS kV raw lst dk e).R g b B x0 ∧ ∀ c, B c → c < g.w.heap.size ∧ ∀ o, ¬ g.pr c o := by
   rcases hl with h | ⟨c, cap, cur, h1, hO⟩
   · exact ⟨fun _ => False, ⟨s, cs, t, m4, m5, .inl h⟩, fun c h => h.elim⟩
   · refine ⟨fun c' => c' = c, ⟨s, cs, t, m4, m5, .inr ⟨c, cap, cur, h1, rfl, hO.heap, by simpa using hO.len, hO.max, hO.sz, fun i x hx => hO.known i x (by rw [List.getElem?_map, hx]; rfl)⟩⟩, fun c' h => ?_⟩
     subst h
     exact ⟨hO.lt, hO.npr⟩
 have hD : ∀ c, (c = b ∨ B c) → c < g.w.heap.size := fun c h => h.elim (fun h => h ▸ m1) (fun h => (hB c h).1)
 have hn : ∀ c, (c = b ∨ B c) → ∀ o, ¬ g.pr c o := fun c h => h.elim (fun h => h ▸ m6) (fun h => (hB c h).2)
 refine Calls.mono (hok (g.lend _ hD) _ (Zf4 (by rw [hv]; exact Zsj hc hR hD) ((hargs.ok hu).le hA (Zko g _ hD) rfl rfl rfl))) ?_
 rintro en w' ⟨g', v, rfl, rfl, hs, hq⟩
 obtain ⟨g2, e1, e2, hs2⟩ := Zn0 hn hs
 rw [← e1]
 refine hK v g2 hs2 fun e he => ?_
 rw [List.mem_singleton.1 he, hd, Zc8 v (by rw [hN]; exact hdN d hd)]
 exact hq g2 e1 (fun b' o hb' hp => (e2 b' o).2 ⟨hp, fun h => by have := hD b' h; have hb' : g.w.heap.size ≤ b' := hb'; omega⟩)
def pST (kV : Kd γ) (raw : α → SlV → γ) (lst : α → List β) (dk : Kd β) (e : TypeId) (b : Nat) (x : α) : Pd := pAt (.pointer (some ⟨b, 0, none⟩)) (Zit kV raw lst dk e b x)
abbrev pSU (kV : Kd γ) (raw : α → SlV → γ) (b : Nat) (x : α) : Pd := Zdq (some b) kV raw hpT 0 x
theorem Zgm {b : Nat} {xv : α} {g : G} {v w : Value} (h : (pSU kV raw b xv).p g v) (h2 : (pST kV raw lst dk e b xv).p g w) : (Zit kV raw lst dk e b xv).p g v := by
 obtain ⟨s, ⟨b', cs, t, e1, hm, hc⟩, _⟩ := h
 obtain rfl := hc _ rfl
 rw [e1]; exact h2
theorem Opd.joinS {b : Nat} {xv : α} (h : Opd uses x (pSU kV raw b xv)) (h2 : Opd uses y (pST kV raw lst dk e b xv)) : Opd uses x (Zit kV raw lst dk e b xv) := fun a g hh => Zgm (h a g hh) (h2 a g hh)
theorem Zxm {b : Nat} {xv : α} {g : G} {v w : Value} (h : (Zit kV raw lst dk e b xv).p g v) : (pST kV raw lst dk e b xv).p g w := by
 have h0 := h
 obtain ⟨s, ⟨b', cs, t, e1, hm, hc⟩, _⟩ := h
 obtain rfl := hc _ rfl
 rw [e1] at h0; exact h0
theorem Zpe {b : Nat} {xv : α} {a : Act} {g : G} {L : Z3} (h : St N ((0, Zit kV raw lst dk e b xv) :: L) a g) : St N ((0, pSU kV raw b xv) :: (L ++ [(1002, pST kV raw lst dk e b xv)])) a g := ⟨h.size, h.df, fun en he => by
 have h0 := h.h (0, Zit kV raw lst dk e b xv) (List.mem_cons_self ..)
 rcases List.mem_cons.1 he with rfl | he
 · exact Zum h0
 · rcases List.mem_append.1 he with he | he
   · exact h.h en (List.mem_cons_of_mem _ he)
   · rw [List.mem_singleton.1 he]; exact Zxm h0⟩
end
section
variable {P : Program} {N : Nat} {o : Oper} {uses outs : Z3} {S : List Nat} {d : Nat} {q : Pd} {x y z : Operand} {α β γ δ : Type} {kV : Kd γ} {raw : α → SlV → γ} {lst : α → List β} {k : Kd α} {dk : Kd β} {t e j jl : Nat} {bytes : Nat} {xv : α}
theorem Zpx {xt : Nat} {xs vs : List β} (hT : TE P t e dk bytes) (hop : o.op = .call { callee := .builtin .append, args := #[.tmp xt, y], argTypes := #[t, t] }) (hd : o.dst = some d) (hx : Opd uses (.tmp xt) (pArr dk e j xs)) (hy : Opd uses y (dk.sl.pd vs)) (hpos : 0 < vs.length) (hl : (xs.length + vs.length) * bytes ≤ 140737488355328) : OB P N o uses [(d, pArr dk e j (xs ++ vs))] [j + 1] :=
 OB.at fun a g hh => by
   have hA : ∀ (ys : List β) g (a : Act), Zdn [(d, pOwn dk e j none (ys.map some))] a g → Zdn [(d, pArr dk e j ys)] a g := fun ys g a h en he => by
     rw [List.mem_singleton.1 he]
     obtain ⟨b, cap, cur, hv, hO, _⟩ := h (d, pOwn dk e j none (ys.map some)) (List.mem_singleton.2 rfl)
     exact .inr ⟨b, cap, cur, by simpa using hv, hO⟩
   rcases hx a g hh with ⟨rfl, A, hv⟩ | ⟨b, cap, cur, hv, hO⟩
   · refine ⟨(xt, pEq (.slice A 0 0)) :: uses, fun en he => ?_, (Zp6 (j := j) (A := A) (vs := vs) hT hop hd .t0 (.tl hy) hpos (by simpa using hl)).weak (hA vs)⟩
     rcases List.mem_cons.1 he with rfl | he
     · exact hv
     · exact hh en he
   · refine ⟨(xt, pOwn dk e j none (xs.map some)) :: uses, fun en he => ?_, (Zj9 (c := none) (j := j) (xs := xs) (vs := vs) hT hop hd .t0 (.tl hy) hl).weak (hA (xs ++ vs))⟩
     rcases List.mem_cons.1 he with rfl | he
     · have hv : Act.at a xt = .slice (some ⟨b, 0, none⟩) xs.length cap := hv
       exact ⟨b, cap, cur, by simpa using hv, hO, fun k hk => by cases hk⟩
     · exact hh en he
def pBT (kV : Kd γ) (raw : α → SlV → γ) (lst : α → List β) (dk : Kd β) (e j jl : Nat) (x : α) : Pd := ⟨fun g _ => ∃ u, (pBxS kV raw (hpL (pArr dk e jl (lst x))) j x).p g u, [j + 1, jl + 1], fun st hd ⟨u, h⟩ => ⟨u, (pBxS kV raw (hpL (pArr dk e jl (lst x))) j x).st st hd h⟩⟩
theorem Ztu {g : G} {v w : Value} (h : (pBxS kV raw hpT j xv).p g v) (h2 : (pBT kV raw lst dk e j jl xv).p g w) : (pBxS kV raw (hpL (pArr dk e jl (lst xv))) j xv).p g v := by
 obtain ⟨s1, ⟨b1, cs1, t1, e1, ⟨l1, o1, _⟩, _⟩, _⟩ := h
 obtain ⟨u, hu⟩ := h2
 have hu0 := hu
 obtain ⟨s2, ⟨b2, cs2, t2, e2, ⟨l2, o2, u2, _⟩, _⟩, _⟩ := hu
 rw [e1, u2 b1 l1 o1, ← e2]; exact hu0
theorem Opd.joinT (h : Opd uses x (pBxS kV raw hpT j xv)) (h2 : Opd uses y (pBT kV raw lst dk e j jl xv)) : Opd uses x (pBxS kV raw (hpL (pArr dk e jl (lst xv))) j xv) := fun a g hh => Ztu (h a g hh) (h2 a g hh)
theorem OB.bxT {s m : Nat} (h : OB P N o uses [(s, pBxS kV raw (hpL (pArr dk e jl (lst xv))) j xv)] S) : OB P N o uses [(s, pBxS kV raw hpT j xv), (m, pBT kV raw lst dk e j jl xv)] S := h.weak fun g a h en he => by
 have h0 := h (s, pBxS kV raw (hpL (pArr dk e jl (lst xv))) j xv) (List.mem_singleton.2 rfl)
 rcases List.mem_cons.1 he with rfl | he
 · exact Zum h0
 · rw [List.mem_singleton.1 he]; exact ⟨_, h0⟩
theorem Zy3 {m : Nat} (hl : lst xv = []) (hop : o.op = .box t x) (hd : o.dst = some d) (hx : Opd uses x (kV.pd (raw xv (none, 0, 0)))) : OB P N o uses [(d, pBxS kV raw hpT j xv), (m, pBT kV raw lst dk e j jl xv)] [j + 1] :=
 OB.bxT ((Zls hop hd hx).weak fun g a h en he => by
   rw [List.mem_singleton.1 he]
   exact ⟨(none, 0, 0), h (d, pBox kV j (raw xv (none, 0, 0))) (List.mem_singleton.2 rfl), by show (pArr dk e jl (lst xv)).p g _; rw [hl]; exact Zw8⟩)
def Zed (k : Ob α) (j : Nat) (r : Option α) : Pd := ⟨fun g v => match r with
   | none => v = .pointer none
   | some x => (pObj k j x).p g v, [j + 1, j + 1 + AUX], fun {S g g' v} s hd h => by
   cases r with
   | none => exact h
   | some x => exact (pObj k j x).st s hd h⟩
theorem Zc7 {k : Ob α} {r : Option α} {x : α} (hr : r = some x) {g : G} {v : Value} (h : (Zed k j r).p g v) : (pObj k j x).p g v := by subst hr; exact h
theorem Zsx {k : Ob α} {r : Option α} (g : G) (v : Value) (h : (Zed k j r).p g v) : ∃ p, v = .pointer p ∧ p.isNone = r.isNone := by
 cases r with
 | none => exact ⟨none, h, rfl⟩
 | some x =>
   obtain ⟨b, _, hv, _⟩ := h
   exact ⟨_, hv, rfl⟩
def Z0u (k : Ob α) (r : Option α) (g g' : G) (pv : Value) : Prop := match r with
 | none => pv = .pointer none
 | some x => ∃ b B, pv = .pointer (some ⟨b, 0, none⟩) ∧ g.w.heap.size ≤ b ∧ b < g'.w.heap.size ∧ (∀ o, ¬ g'.pr b o) ∧ k.R g' b B x ∧ ∀ c, B c → g.w.heap.size ≤ c ∧ c < g'.w.heap.size ∧ c ≠ b ∧ ∀ o, ¬ g'.pr c o
def Znt (P : Program) (f : FuncId) (A : List Pd) (k : Ob α) (r : Option α) (q : Pd) : Prop :=
 ∀ (g : G) (args : List Value), ArgsOk A g args → Calls P f args.toArray g.w (fun en w' => ∃ g' pv ev, en = .returned (.tuple #[pv, ev]) ∧ w' = g'.w ∧ Zke (fun _ => False) g g' ∧ q.p g' ev ∧ Z0u k r g g' pv)
open Classical in
theorem Zlp {k : Ob α} {r : Option α} {f : FuncId} {xs : List Operand} {A : List Pd} {ty : Array TypeId} (he : Zl P f) (hok : Znt P f A k r q) (hq : q.fp = []) (hop : o.op = .call { callee := .value (.func f), args := xs.toArray, argTypes := ty }) (hd : o.dst = some d)
   (hargs : OpdL uses xs A) : OB P N o uses [(d, pTup [Zed k j r, q])] [j + 1, j + 1 + AUX] := by
 intro a g K Q hN hdN hu hK
 have hr : (execOp a.eval o).run P g.w = .ok (.enter f (xs.map a.eval).toArray) g.w := by
   simp [execOp, hop, resolve, Act.eval, Deferred.ofValue, invoke, Zfl he]
 unfold Oper.wp
 rw [hr]
 show Calls P f _ g.w _
 refine Calls.mono (hok g _ (hargs.ok hu)) ?_
 rintro en w' ⟨g', pv, ev, rfl, rfl, hS, hqv, hres⟩
 have go : ∀ (b : Nat) (B : Nat → Prop), (∀ c, (c = b ∨ B c) → g.w.heap.size ≤ c) → (∀ g2 : G, g2.w = g'.w → g2.pr = g'.pr → g'.le g2 → (∀ c, g2.own c = if c < g.w.heap.size then (if g.own c = j + 1 ∨ g.own c = j + 1 + AUX then 0 else g.own c) else if c = b then j + 1 else if B c then j + 1 + AUX else 0) → (Zed k j r).p g2 pv) → K (a.put o.dst (.tuple #[pv, ev])) g'.w := fun b B hnew hp => by
   let g2 : G := ⟨g'.w, g'.pr, fun c => if c < g.w.heap.size then (if g.own c = j + 1 ∨ g.own c = j + 1 + AUX then 0 else g.own c) else if c = b then j + 1 else if B c then j + 1 + AUX else 0, g'.hpr, g'.gl⟩
   have hle : g'.le g2 := ⟨Nat.le_refl _, fun _ _ h => h, fun _ _ _ => rfl, fun _ _ => rfl⟩
   have hown2 : ∀ c, g2.own c = if c < g.w.heap.size then (if g.own c = j + 1 ∨ g.own c = j + 1 + AUX then 0 else g.own c) else if c = b then j + 1 else if B c then j + 1 + AUX else 0 := fun _ => rfl
   refine hK _ g2 ⟨⟨hS.le.size, hS.le.pr, hS.le.cell, hS.le.blk⟩, hS.os, hS.tape, hS.output, fun c hc hn => ?_, fun c h1 h2 => ?_, fun c hc hn => ?_⟩ fun e he => ?_
   · obtain ⟨k1, k2⟩ := hS.same c hc id
     refine ⟨k1, k2, ?_⟩
     rw [hown2, if_pos hc, if_neg]
     simpa using hn
   · rw [hown2, if_neg (by omega)]
     split
     · simp
     · split <;> simp
   · rw [hown2, if_pos hc, if_pos (by simpa using hn)]; exact .inl rfl
   · rw [List.mem_singleton.1 he, hd, Zc8 _ (by rw [hN]; exact hdN d hd)]
     exact Zc1 (hp g2 rfl rfl hle hown2) (Pd.le hq hle rfl rfl rfl hqv)
 cases r with
 | none => exact go g.w.heap.size (fun _ => False) (fun c h => by rcases h with rfl | h; exact Nat.le_refl _; exact h.elim) (fun g2 _ _ _ _ => hres)
 | some x =>
   obtain ⟨b, B, hpv, hb1, hb2, hpb, hR, hB⟩ := hres
   refine go b B (fun c h => by rcases h with rfl | h; exact hb1; exact (hB c h).1) (fun g2 e1 e2 hle hown2 => ?_)
   show (pObj k j x).p g2 pv
   refine ⟨b, B, hpv, k.st hR hle (fun _ _ => by rw [e1]), by rw [e1]; exact hb2, ?_, fun c hc hoc => ?_, fun o => by rw [e2]; exact hpb o, fun c hc => ⟨by rw [e1]; exact (hB c hc).2.1, ?_, fun o => by rw [e2]; exact (hB c hc).2.2.2 o⟩⟩
   · rw [hown2, if_neg (by omega), if_pos rfl]
   · rw [hown2] at hoc
     split at hoc
     · split at hoc
       · omega
       · rename_i h; exact absurd hoc (fun h' => h (.inl h'))
     · split at hoc
       · assumption
       · split at hoc
         · simp [AUX] at hoc
         · omega
   · rw [hown2, if_neg (by have := (hB c hc).1; omega), if_neg (hB c hc).2.2.1, if_pos hc]
def Zym (kV : Kd γ) (raw : α → SlV → γ) (lst : α → List β) (dk : Kd β) (e : TypeId) (r : Option α) (q : Pd) (g0 : G) (v : Value) (g1 : G) : Prop := Base g0 g1 ∧ ∃ pv ev, v = .tuple #[pv, ev] ∧ q.p g1 ev ∧ match r with
 | none => pv = .pointer none
 | some x => ∃ j jl, j ≠ jl ∧ (pBxS kV raw (hpL (pArr dk e jl (lst x))) j x).p g1 pv
theorem Zvo {r : Option α} {f : FuncId} {fn : Func} {c : Code} {A : List Pd} (hf : P.funcs[f]? = some fn) (hb : fn.body = some c) (hn : fn.ntmps = N) (hAN : A.length ≤ N) (hA : Free A)
   (h : ∀ (a : Act) (g : G), (∀ b, g.own b = 0) → St N (Zgs A 0) a g → Base g g → c.wp P (bodyPost P fn (FinP (Zym kV raw lst dk e r q g))) a g.w) : Znt P f A (obS kV raw lst dk e) r q := by
 intro g args hargs
 let g0 : G := ⟨g.w, g.pr, fun _ => 0, g.hpr, g.gl⟩
 have hle : g.le g0 := ⟨Nat.le_refl _, fun _ _ h => h, fun _ _ _ => rfl, fun _ _ => rfl⟩
 have hst : St N (Zgs A 0) { tmps := args.toArray ++ Array.replicate (fn.ntmps - args.toArray.size) undef, defers := [] } g0 := by
   refine ⟨?_, rfl, ?_⟩
   · have := hargs.1
     simp [hn]; omega
   · intro en he
     obtain ⟨i, h1, h2⟩ := Zh9 he
     have hi : i < args.length := by rw [hargs.1]; exact (List.getElem?_eq_some_iff.1 h2).1
     have hv : Act.at { tmps := args.toArray ++ Array.replicate (fn.ntmps - args.toArray.size) undef, defers := [] } en.1 = args[i] := by
       rw [h1, Nat.zero_add]
       simp only [Act.at, Array.getD_eq_getD_getElem?]
       rw [Array.getElem?_append, if_pos (by simpa using hi)]
       simp [hi]
     rw [hv]
     exact Pd.le (hA.at h2) hle rfl rfl rfl (hargs.2 i en.2 _ h2 (List.getElem?_eq_getElem hi))
 have hbase : Base g0 g0 := ⟨.refl _, rfl, rfl, rfl, fun _ _ _ => ⟨rfl, rfl, rfl⟩⟩
 refine Calls.mono (calls_of_wp hf hb (h _ g0 (fun _ => rfl) hst hbase)) ?_
 rintro en w' ⟨g1, v, rfl, rfl, hBs, pv, ev, rfl, hqv, hres⟩
 have hnew : ∀ c, g1.own c ≠ 0 → c < g1.w.heap.size → g.w.heap.size ≤ c := fun c h1 h2 => Nat.le_of_not_lt fun hlt => h1 ((hBs.same c hlt rfl).2.2)
 have hS : Zke (fun _ => False) g g1 := ⟨⟨hBs.le.size, hBs.le.pr, hBs.le.cell, hBs.le.blk⟩, hBs.os, hBs.tape, hBs.output, fun c hc _ => ⟨(hBs.same c hc rfl).1, (hBs.same c hc rfl).2.1⟩⟩
 refine ⟨g1, pv, ev, rfl, rfl, hS, hqv, ?_⟩
 cases r with
 | none => exact hres
 | some x0 =>
   obtain ⟨j, jl, hj, s1, ⟨b, cs1, t1, rfl, ⟨m1, m2, m3, m4, m5, m6⟩, _⟩, ha1⟩ := hres
   have hb0 := hnew b (by rw [m2]; omega) m1
   rcases ha1 with ⟨hn, hA1⟩ | ⟨c, cap, cur, hv, hO⟩
   · exact ⟨b, fun _ => False, rfl, hb0, m1, m6, ⟨s1, cs1, t1, m4, m5, .inl ⟨hn, hA1⟩⟩, fun c hc => hc.elim⟩
   · refine ⟨b, fun c' => c' = c, rfl, hb0, m1, m6, ⟨s1, cs1, t1, m4, m5, .inr ⟨c, cap, cur, hv, rfl, hO.heap, by simpa using hO.len, hO.max, hO.sz, fun i x hx => hO.known i x (by rw [List.getElem?_map, hx]; rfl)⟩⟩, fun c' hc => ?_⟩
     subst hc
     exact ⟨hnew c' (by rw [hO.own]; omega) hO.lt, hO.lt, fun h => by have := hO.own; rw [h, m2] at this; omega, hO.npr⟩
theorem Zrm {fn : Func} {r1 r2 : ResultVar} {v1 v2 : Value} {r : Option α} {a : Act} {g g0 : G} {L : Z3} (hr : fn.results = #[r1, r2]) (h : St N L a g) (hb : Base g0 g) (h1 : Zep P a g r1 v1) (h2 : Zep P a g r2 v2) (hq : q.p g v2) (ho : match r with
 | none => v1 = .pointer none
 | some x => ∃ j jl, j ≠ jl ∧ (pBxS kV raw (hpL (pArr dk e jl (lst x))) j x).p g v1) : bodyPost P fn (FinP (Zym kV raw lst dk e r q g0)) .ret a g.w :=
 ⟨h.df, .tuple #[v1, v2], by
   have h1' : (Ze9 a.tmps r1).run P g.w = .ok v1 g.w := h1
   have h2' : (Ze9 a.tmps r2).run P g.w = .ok v2 g.w := h2
   simp [Zgp, hr, h1', h2'], g, _, rfl, rfl, hb, v1, v2, rfl, hq, ho⟩
theorem Zr5 {m i b0 : Nat} {xs : List β} {u v1 v2 : β} {x' : α} (hraw : ∀ s, raw x' s = raw xv s) (hl : lst xv = xs) (hl' : lst x' = xs.set i v2) (hT : Ty P t dk) (hop : o.op = .store t x z) (hd : o.dst = none) (hs : Opd uses (.tmp m) (pST kV raw lst dk e b0 xv)) (hx : Opd uses x (pEl dk e AUX xs i 0 dk v1)) (hz : Opd uses z (dk.pd v2)) (hi : xs[i]? = some u) (h0 : 0 < dk.sz) : OB P N o uses [(m, pST kV raw lst dk e b0 x')] [AUX + 1] :=
 Zmb hd fun a g hh => by
   obtain ⟨s, hbox, harr⟩ := hs a g hh
   obtain ⟨b, cap, cur, cur', g', hv, hO, hr, hst, hO'⟩ := Zop (u' := v2) hT (hx a g hh) (hz a g hh) hi (fun g cs ys h1 h2 h3 => by
     have l1 := dk.len h1
     have l2 := dk.len h2
     have : Z2 cs 0 ys = ys := by
       simp only [Z2, List.take_zero, List.nil_append, Nat.zero_add]
       rw [List.drop_of_length_le (by omega), List.append_nil]
     rw [this]; exact h2)
   simp only [Nat.add_zero] at hv hr
   refine ⟨g', by simp [execOp, hop, hv, Instr.storeAt, Instr.sureAddr, hr], hst, fun en he => ?_⟩
   rw [List.mem_singleton.1 he]
   refine ⟨s, ?_, ?_⟩
   · rw [hraw s]
     exact (Zbn (some b0) kV 0 (raw xv s)).st hst (fun k hk hS => by
       have h1 := List.mem_singleton.1 hk
       have h2 := List.mem_singleton.1 hS
       simp [AUX] at h2; omega) hbox
   · show (pArr dk e AUX (lst x')).p g' (slv s)
     rw [hl']
     have harr : (pArr dk e AUX (lst xv)).p g (slv s) := harr
     rw [hl] at harr
     rcases harr with ⟨rfl, _⟩ | ⟨b2, cap2, cur2, hv2, hO2⟩
     · simp at hi
     · obtain ⟨rfl, rfl, rfl⟩ := hO.same hO2 h0
       exact .inr ⟨b2, cap2, cur', by rw [List.length_set]; exact hv2, hO'⟩
theorem Zri {m i b0 s0 : Nat} {xs : List β} {u v1 v2 : β} {x' : α} (hraw : ∀ s, raw x' s = raw xv s) (hl : lst xv = xs) (hl' : lst x' = xs.set i v2) (hT : Ty P t dk) (hop : o.op = .store t x z) (hd : o.dst = none) (h0s : Opd uses (.tmp s0) (pSU kV raw b0 xv)) (hs : Opd uses (.tmp m) (pST kV raw lst dk e b0 xv)) (hx : Opd uses x (pEl dk e AUX xs i 0 dk v1)) (hz : Opd uses z (dk.pd v2)) (hi : xs[i]? = some u) (h0 : 0 < dk.sz) : OB P N o uses [(m, pST kV raw lst dk e b0 x'), (s0, pSU kV raw b0 x')] [AUX + 1] :=
 (OB.frameU (Zr5 hraw hl hl' hT hop hd hs hx hz hi h0) h0s (fun k hk hS => by
   have h1 := List.mem_singleton.1 hk
   have h2 := List.mem_singleton.1 hS
   simp [AUX] at h2; omega) (by rw [hd]; simp)).weak fun g a h en he => by
   rcases List.mem_cons.1 he with rfl | he
   · exact h (m, pST kV raw lst dk e b0 x') (by simp)
   · rw [List.mem_singleton.1 he]
     obtain ⟨s, h1, h2⟩ := h (s0, pSU kV raw b0 xv) (by simp)
     refine ⟨s, ?_, h2⟩
     rw [hraw s]; exact h1
theorem Zq8 {k1 k2 : IntKind} {n m : Int} : ∀ (g g' : G) (v : Value), (pTup [pInt k1 n, pInt k2 m]).p g v → (pTup [pInt k1 n, pInt k2 m]).p g' v := fun g g' v ⟨vs, h1, h2, h3⟩ => ⟨vs, h1, h2, fun i q u hq hu => by
 have := h3 i q u hq hu
 match i, hq with
 | 0, hq => simp at hq; subst hq; exact Zca.2 (Zca.1 this)
 | 1, hq => simp at hq; subst hq; exact Zca.2 (Zca.1 this)
 | i + 2, hq => simp at hq⟩
theorem Zjz (g : G) : (pEq (.pointer none)).p g (.pointer none) := rfl
theorem Zzt (h : ∀ (g g' : G) (x : β) (cs : List Value), dk.K g x cs → dk.K g' x cs) {x : β} : ∀ (g g' : G) (v : Value), (dk.pd x).p g v → (dk.pd x).p g' v := fun g g' v ⟨cs, k, e⟩ => ⟨cs, h g g' x cs k, e⟩
theorem OB.objO {k : Ob α} {s : Nat} {x1 : α} (h : OB P N o uses [(d, q), (s, pObj k j x1)] S) : OB P N o uses [(d, q), (s, Zed k j (some x1))] S := h.weak fun g a h en he => by
 rcases List.mem_cons.1 he with rfl | he
 · exact h (d, q) (by simp)
 · rw [List.mem_singleton.1 he]
   exact h (s, pObj k j x1) (by simp)
end
section
variable {P : Program} {N : Nat} {o : Oper} {uses outs : Z3} {S : List Nat} {d : Nat} {q : Pd} {x y z : Operand} {α β γ : Type} {kV : Kd γ} {raw : α → SlV × SlV → γ} {l1 l2 : α → List β} {k : Kd α} {dk : Kd β} {t e j : Nat} {xv : α}
theorem ArrB.st {xs : List β} {g g' : G} {v : Value} {B : Nat → Prop} (h : ArrB dk e xs g v B) (hle : g.le g') (hh : ∀ c, B c → g'.w.heap[c]? = g.w.heap[c]?) : ArrB dk e xs g' v B := by
 rcases h with h | ⟨c, cap, cur, k1, k2, k3, k4, k5, k6, k7⟩
 · exact .inl h
 · exact .inr ⟨c, cap, cur, k1, k2, (hh c k2).trans k3, k4, k5, k6, fun i x hx => dk.mono hle (k7 i x hx)⟩
theorem Zv5 {xs : List β} {g : G} {v : Value} {B : Nat → Prop} (h : ArrB dk e xs g v B) (hB : ∀ c, B c → c < g.w.heap.size ∧ ∀ o, ¬ g.pr c o) : ∃ T : Nat → Prop, (∀ c, T c → B c) ∧ (∀ c c', T c → T c' → c = c') ∧ ∀ (g0 : G) (j : Nat), g0.w = g.w → g0.pr = g.pr → g.le g0 → (∀ c, g0.own c = j + 1 ↔ T c) → (pArr dk e j xs).p g0 v := by
 rcases h with ⟨h1, h2⟩ | ⟨c, cap, cur, k1, k2, k3, k4, k5, k6, k7⟩
 · exact ⟨fun _ => False, fun _ h => h.elim, fun _ _ h => h.elim, fun g0 j _ _ _ _ => .inl ⟨h1, h2⟩⟩
 · refine ⟨fun c' => c' = c, fun c' h => h ▸ k2, fun a b h1 h2 => h1.trans h2.symm, fun g0 j e1 e2 hle hown => .inr ⟨c, cap, cur, k1, by rw [e1]; exact (hB c k2).1, (hown c).2 rfl, fun c' _ h => (hown c').1 h, by rw [e1]; exact k3, by simpa using k4, k5, k6, fun i x hx => ?_, fun o => by rw [e2]; exact (hB c k2).2 o⟩⟩
   rw [List.getElem?_map] at hx
   obtain ⟨u, hu, hux⟩ := Option.map_eq_some_iff.1 hx
   obtain rfl := Option.some.inj hux
   exact dk.mono hle (k7 i u hu)
theorem Zmm {xs : List β} {g : G} {v : Value} (h : (pArr dk e j xs).p g v) : ∃ B, ArrB dk e xs g v B ∧ ∀ c, B c → c < g.w.heap.size ∧ g.own c = j + 1 ∧ ∀ o, ¬ g.pr c o := by
 rcases h with h | ⟨c, cap, cur, hv, hO⟩
 · exact ⟨fun _ => False, .inl h, fun _ h => h.elim⟩
 · refine ⟨fun c' => c' = c, .inr ⟨c, cap, cur, hv, rfl, hO.heap, by simpa using hO.len, hO.max, hO.sz, fun i x hx => hO.known i x (by rw [List.getElem?_map, hx]; rfl)⟩, fun c' h => ?_⟩
   subst h
   exact ⟨hO.lt, hO.own, hO.npr⟩
def obS2 (kV : Kd γ) (raw : α → SlV × SlV → γ) (l1 l2 : α → List β) (dk : Kd β) (e : TypeId) : Ob α where
 R := fun g b B x => ∃ s cs t B1 B2, g.w.heap[b]? = some (.cells (List.toArray cs) t (0, 0)) ∧ kV.K g (raw x s) cs ∧ ArrB dk e (l1 x) g (slv s.1) B1 ∧ ArrB dk e (l2 x) g (slv s.2) B2 ∧ (∀ c, B1 c → B c) ∧ (∀ c, B2 c → B c) ∧ (∀ c, B1 c → ¬ B2 c)
 st := by
   rintro g g' b B x ⟨s, cs, t, B1, B2, h1, h2, h3, h4, h5, h6, h7⟩ hle hh
   exact ⟨s, cs, t, B1, B2, (hh b (.inl rfl)).trans h1, kV.mono hle h2, h3.st hle (fun c hc => hh c (.inr (h5 c hc))), h4.st hle (fun c hc => hh c (.inr (h6 c hc))), h5, h6, h7⟩
abbrev AUX2 : Nat := AUX + 1
abbrev Znc (kV : Kd γ) (raw : α → SlV × SlV → γ) (l1 l2 : α → List β) (dk : Kd β) (e : TypeId) (b : Nat) (x : α) : Pd := Zdq (some b) kV raw (hpL2 (pArr dk e AUX (l1 x)) (pArr dk e AUX2 (l2 x))) 0 x
def Zwx (kV : Kd γ) (raw : α → SlV × SlV → γ) (l1 l2 : α → List β) (dk : Kd β) (e : TypeId) (b : Nat) (x : α) (g0 : G) (q : Pd) (v : Value) (g1 : G) : Prop := Base g0 g1 ∧ q.p g1 v ∧ (Znc kV raw l1 l2 dk e b x).p g1 (.pointer (some ⟨b, 0, none⟩))
open Classical in
theorem Zxg {x0 x1 : α} {f : FuncId} {fn : Func} {c : Code} {A : List Pd} (hf : P.funcs[f]? = some fn) (hb : fn.body = some c) (hn : fn.ntmps = N) (hAN : A.length + 1 ≤ N) (hA : Free A) (hq : q.fp = [])
   (h : ∀ (a : Act) (g : G) (b : Nat), St N ((0, Znc kV raw l1 l2 dk e b x0) :: Zgs A 1) a g → Base g g → c.wp P (bodyPost P fn (FinP (Zwx kV raw l1 l2 dk e b x1 g q)))  a g.w) : FnM P f (obS2 kV raw l1 l2 dk e) x0 x1 A q := by
 intro g b B args hR hbl hbp hB hargs
 obtain ⟨s, cs, t, B1, B2, hh, hk, ha1, ha2, hb1, hb2, hb12⟩ := hR
 obtain ⟨T1, t1, t2, t3⟩ := Zv5 ha1 (fun c hc => ⟨(hB c (hb1 c hc)).1, (hB c (hb1 c hc)).2.2⟩)
 obtain ⟨T2, u1, u2, u3⟩ := Zv5 ha2 (fun c hc => ⟨(hB c (hb2 c hc)).1, (hB c (hb2 c hc)).2.2⟩)
 have nb1 : ∀ c, T1 c → c ≠ b := fun c h => (hB c (hb1 c (t1 c h))).2.1
 have nb2 : ∀ c, T2 c → c ≠ b := fun c h => (hB c (hb2 c (u1 c h))).2.1
 have n12 : ∀ c, T1 c → ¬ T2 c := fun c h h' => hb12 c (t1 c h) (u1 c h')
 let own : Nat → Nat := fun c => if c = b then 1 else if T1 c then AUX + 1 else if T2 c then AUX2 + 1 else 0
 have own_def : ∀ c, own c = if c = b then 1 else if T1 c then AUX + 1 else if T2 c then AUX2 + 1 else 0 := fun _ => rfl
 have o1 : own b = 1 := if_pos rfl
 have o2 : ∀ c, own c = 1 → c = b := fun c hc => by
   rw [own_def] at hc
   split at hc
   · assumption
   · split at hc
     · simp [AUX] at hc
     · split at hc <;> simp [AUX2, AUX] at hc
 have o3 : ∀ c, own c ≠ 0 → c = b ∨ B c := fun c hc => by
   rw [own_def] at hc
   split at hc
   · left; assumption
   · split at hc
     · right; exact hb1 c (t1 c (by assumption))
     · split at hc
       · right; exact hb2 c (u1 c (by assumption))
       · exact absurd rfl hc
 have oA : ∀ c, own c = AUX + 1 ↔ T1 c := fun c => by
   rw [own_def]
   constructor
   · intro hc
     split at hc
     · simp [AUX] at hc
     · split at hc
       · assumption
       · split at hc <;> simp [AUX2, AUX] at hc
   · intro hc
     rw [if_neg (nb1 c hc), if_pos hc]
 have oB : ∀ c, own c = AUX2 + 1 ↔ T2 c := fun c => by
   rw [own_def]
   constructor
   · intro hc
     split at hc
     · simp [AUX2, AUX] at hc
     · split at hc
       · simp [AUX2] at hc
       · split at hc
         · assumption
         · cases hc
   · intro hc
     rw [if_neg (nb2 c hc), if_neg (fun h => n12 c h hc), if_pos hc]
 let g0 : G := ⟨g.w, g.pr, own, g.hpr, g.gl⟩
 have hle : g.le g0 := ⟨Nat.le_refl _, fun _ _ h => h, fun _ _ _ => rfl, fun _ _ => rfl⟩
 have hst : St N ((0, Znc kV raw l1 l2 dk e b x0) :: Zgs A 1) { tmps := (Value.pointer (some ⟨b, 0, none⟩) :: args).toArray ++ Array.replicate (fn.ntmps - (Value.pointer (some ⟨b, 0, none⟩) :: args).toArray.size) undef, defers := [] } g0 := by
   refine ⟨?_, rfl, ?_⟩
   · have := hargs.1
     simp [hn]; omega
   · intro en he
     rcases List.mem_cons.1 he with rfl | he
     · have hv : Act.at { tmps := (Value.pointer (some ⟨b, 0, none⟩) :: args).toArray ++ Array.replicate (fn.ntmps - (Value.pointer (some ⟨b, 0, none⟩) :: args).toArray.size) undef, defers := [] } 0 = .pointer (some ⟨b, 0, none⟩) := by
         simp only [Act.at, Array.getD_eq_getD_getElem?]
         rw [Array.getElem?_append, if_pos (by simp)]
         simp
       show (Znc kV raw l1 l2 dk e b x0).p g0 (Act.at _ 0)
       rw [hv]
       exact ⟨s, ⟨b, cs, t, rfl, ⟨hbl, o1, fun c _ hc => o2 c hc, hh, kV.mono hle hk, hbp⟩, fun b' h => Option.some.inj h⟩, t3 g0 AUX rfl rfl hle oA, u3 g0 AUX2 rfl rfl hle oB⟩
     · obtain ⟨i, h1, h2⟩ := Zh9 he
       have hi : i < args.length := by rw [hargs.1]; exact (List.getElem?_eq_some_iff.1 h2).1
       have hv : Act.at { tmps := (Value.pointer (some ⟨b, 0, none⟩) :: args).toArray ++ Array.replicate (fn.ntmps - (Value.pointer (some ⟨b, 0, none⟩) :: args).toArray.size) undef, defers := [] } en.1 = args[i] := by
         rw [h1, Nat.add_comm]
         simp only [Act.at, Array.getD_eq_getD_getElem?]
         rw [Array.getElem?_append, if_pos (by simpa using hi)]
         simp [hi]
       rw [hv]
       exact Pd.le (hA.at h2) hle rfl rfl rfl (hargs.2 i en.2 _ h2 (List.getElem?_eq_getElem hi))
 have hbase : Base g0 g0 := ⟨.refl _, rfl, rfl, rfl, fun _ _ h => ⟨rfl, rfl, h⟩⟩
 refine Calls.mono (calls_of_wp hf hb (h _ g0 b hst hbase)) ?_
 rintro en w' ⟨g1, v, rfl, rfl, hBs, hqv, ⟨s1, ⟨b1, cs1, t1', e1, ⟨m1, m2, m3, m4, m5, m6⟩, hb1'⟩, hc1, hc2⟩⟩
 obtain rfl := hb1' _ rfl
 have hS : Zke (fun c => c = b1 ∨ B c) g g1 := ⟨⟨hBs.le.size, hBs.le.pr, hBs.le.cell, hBs.le.blk⟩, hBs.os, hBs.tape, hBs.output, fun c hc hn => by
   have h0 : g0.own c = 0 := Classical.byContradiction fun h => hn (o3 c h)
   exact ⟨(hBs.same c hc h0).1, (hBs.same c hc h0).2.1⟩⟩
 obtain ⟨C1, d1, d2⟩ := Zmm hc1
 obtain ⟨C2, d3, d4⟩ := Zmm hc2
 refine ⟨g1, v, fun c => C1 c ∨ C2 c, rfl, rfl, hS, ⟨s1, cs1, t1', C1, C2, m4, m5, d1, d3, fun _ => .inl, fun _ => .inr, fun c h1 h2 => ?_⟩, m6, fun c hc => ?_, hqv⟩
 · have := (d2 c h1).2.1
   have := (d4 c h2).2.1
   simp [AUX2] at *
   omega
 · obtain ⟨f1, f2, f3⟩ : c < g1.w.heap.size ∧ (g1.own c = AUX + 1 ∨ g1.own c = AUX2 + 1) ∧ ∀ o, ¬ g1.pr c o := by
     rcases hc with hc | hc
     · exact ⟨(d2 c hc).1, .inl (d2 c hc).2.1, (d2 c hc).2.2⟩
     · exact ⟨(d4 c hc).1, .inr (d4 c hc).2.1, (d4 c hc).2.2⟩
   refine ⟨Classical.byContradiction fun hno => ?_, f1, f3⟩
   have hlt : c < g0.w.heap.size := Nat.lt_of_not_le fun h => hno (.inr h)
   by_cases h0 : g0.own c = 0
   · have := (hBs.same c hlt h0).2.2
     rcases f2 with h | h <;> (rw [h] at this; simp [AUX2, AUX] at this)
   · rcases o3 c h0 with h | h
     · rw [h, m2] at f2; simp [AUX2, AUX] at f2
     · exact hno (.inl h)
def Zr4 (kV : Kd γ) (raw : α → SlV × SlV → γ) (l1 l2 : α → List β) (dk : Kd β) (k : Kd α) : Prop := ∀ (g : G) (x : α) (s : SlV × SlV) (cs : List Value), kV.K g (raw x s) cs → dk.sl.V g (l1 x) (slv s.1) → dk.sl.V g (l2 x) (slv s.2) → k.K g x cs
theorem Zng {xs : List β} {g gL : G} {v : Value} {B : Nat → Prop} (h : ArrB dk e xs g v B) (hle : g.le gL) (hw : gL.w = g.w) (hp : ∀ c, B c → ∀ o, gL.pr c o) : dk.sl.V gL xs v := by
 rcases h with ⟨rfl, A, rfl⟩ | ⟨c, cap, cur, rfl, k2, k3, k4, k5, k6, k7⟩
 · exact Kd.sl_V.2 ⟨A, 0, rfl, Nat.le_refl _, by simp, .inl rfl⟩
 · refine Kd.sl_V.2 ⟨_, cap, rfl, k4, by simp only [maxLen] at k5; omega, .inr ⟨c, 0, rfl, fun i x hx => ⟨_, dk.mono hle (k7 i x hx), fun n u hn => ⟨hp c k2 _, ?_⟩⟩⟩⟩
   simp only [seg, List.getElem?_take, List.getElem?_drop] at hn
   split at hn
   · rw [hw]
     simp only [World.cell?, k3]
     simpa using hn
   · cases hn
theorem Zvm (hc : Zr4 kV raw l1 l2 dk k) {g : G} {b : Nat} {B : Nat → Prop} {x : α} (hR : (obS2 kV raw l1 l2 dk e).R g b B x) (hD : ∀ c, (c = b ∨ B c) → c < g.w.heap.size) : (k.ptr x).p (g.lend (fun c => c = b ∨ B c) hD) (.pointer (some ⟨b, 0, none⟩)) := by
 obtain ⟨s, cs, t, B1, B2, hh, hk, h1, h2, h3, h4, _⟩ := hR
 have hle := Zko g _ hD
 refine ⟨b, 0, cs, rfl, hc _ _ s _ (kV.mono hle hk) (Zng h1 hle rfl (fun c hc o => .inr (.inr (h3 c hc)))) (Zng h2 hle rfl (fun c hc o => .inr (.inr (h4 c hc)))), fun i v hv => ⟨.inr (.inl rfl), ?_⟩⟩
 show g.w.cell? _ = _
 simp only [World.cell?, hh, Nat.zero_add]
 simpa using hv
end
section
variable {P : Program} {N : Nat} {o : Oper} {uses outs : Z3} {S : List Nat} {d : Nat} {q : Pd} {x y z : Operand} {α β γ σ : Type} {kV : Kd γ} {raw : α → σ → γ} {R R' : Hp σ} {k : Kd α} {ob : Ob α} {dk : Kd β} {t e j : Nat} {xv : α}
def pSTR (kV : Kd γ) (raw : α → σ → γ) (R : Hp σ) (b : Nat) (x : α) : Pd := pAt (.pointer (some ⟨b, 0, none⟩)) (Zdq (some b) kV raw R 0 x)
abbrev pSUR (kV : Kd γ) (raw : α → σ → γ) (b : Nat) (x : α) : Pd := Zdq (some b) kV raw hpT 0 x
theorem Zgv {b : Nat} {g : G} {v w : Value} (h : (pSUR kV raw b xv).p g v) (h2 : (pSTR kV raw R b xv).p g w) : (Zdq (some b) kV raw R 0 xv).p g v := by
 obtain ⟨s, ⟨b', cs, t, e1, hm, hc⟩, _⟩ := h
 obtain rfl := hc _ rfl
 rw [e1]; exact h2
theorem Opd.joinR {b : Nat} (h : Opd uses x (pSUR kV raw b xv)) (h2 : Opd uses y (pSTR kV raw R b xv)) : Opd uses x (Zdq (some b) kV raw R 0 xv) := fun a g hh => Zgv (h a g hh) (h2 a g hh)
theorem Zwc {b : Nat} {g : G} {v w : Value} (h : (Zdq (some b) kV raw R 0 xv).p g v) : (pSTR kV raw R b xv).p g w := by
 have h0 := h
 obtain ⟨s, ⟨b', cs, t, e1, hm, hc⟩, _⟩ := h
 obtain rfl := hc _ rfl
 rw [e1] at h0; exact h0
theorem Ztl {b : Nat} {a : Act} {g : G} {L : Z3} (h : St N ((0, Zdq (some b) kV raw R 0 xv) :: L) a g) : St N ((0, pSUR kV raw b xv) :: (L ++ [(1002, pSTR kV raw R b xv)])) a g := ⟨h.size, h.df, fun en he => by
 have h0 := h.h (0, Zdq (some b) kV raw R 0 xv) (List.mem_cons_self ..)
 rcases List.mem_cons.1 he with rfl | he
 · exact Zum h0
 · rcases List.mem_append.1 he with he | he
   · exact h.h en (List.mem_cons_of_mem _ he)
   · rw [List.mem_singleton.1 he]; exact Zwc h0⟩
theorem Zov {m i b0 s0 jt : Nat} {xs : List β} {u v1 v2 : β} {x' : α} {pr : σ → SlV} (hjt : jt ≠ 0) (hraw : ∀ s, raw x' s = raw xv s) (hR : ∀ g s, R.p g s → (pArr dk e jt xs).p g (slv (pr s))) (hR' : ∀ g g' s, Step [jt + 1] g g' → R.p g s → (pArr dk e jt (xs.set i v2)).p g' (slv (pr s)) → R'.p g' s) (hT : Ty P t dk) (hop : o.op = .store t x z) (hd : o.dst = none) (h0s : Opd uses (.tmp s0) (pSUR kV raw b0 xv)) (hs : Opd uses (.tmp m) (pSTR kV raw R b0 xv)) (hx : Opd uses x (pEl dk e jt xs i 0 dk v1)) (hz : Opd uses z (dk.pd v2)) (hi : xs[i]? = some u) (h0 : 0 < dk.sz) : OB P N o uses [(m, pSTR kV raw R' b0 x'), (s0, pSUR kV raw b0 x')] [jt + 1] :=
 Zmb hd fun a g hh => by
   obtain ⟨s, hbox, hRs⟩ := hs a g hh
   obtain ⟨s2, hbox2, _⟩ := h0s a g hh
   have harr := hR g s hRs
   obtain ⟨b, cap, cur, cur', g', hv, hO, hr, hst, hO'⟩ := Zop (u' := v2) hT (hx a g hh) (hz a g hh) hi (fun g cs ys h1 h2 h3 => by
     have l1 := dk.len h1
     have l2 := dk.len h2
     have : Z2 cs 0 ys = ys := by
       simp only [Z2, List.take_zero, List.nil_append, Nat.zero_add]
       rw [List.drop_of_length_le (by omega), List.append_nil]
     rw [this]; exact h2)
   simp only [Nat.add_zero] at hv hr
   have hk : ∀ k ∈ [0 + 1], k ∉ [jt + 1] := fun k hk hS => by
     have h1 := List.mem_singleton.1 hk
     have h2 := List.mem_singleton.1 hS
     omega
   refine ⟨g', by simp [execOp, hop, hv, Instr.storeAt, Instr.sureAddr, hr], hst, fun en he => ?_⟩
   rcases List.mem_cons.1 he with rfl | he
   · refine ⟨s, ?_, hR' g g' s hst hRs ?_⟩
     · rw [hraw s]
       exact (Zbn (some b0) kV 0 (raw xv s)).st hst hk hbox
     · rcases harr with ⟨rfl, _⟩ | ⟨b2, cap2, cur2, hv2, hO2⟩
       · simp at hi
       · obtain ⟨rfl, rfl, rfl⟩ := hO.same hO2 h0
         exact .inr ⟨b2, cap2, cur', by rw [List.length_set]; exact hv2, hO'⟩
   · rw [List.mem_singleton.1 he]
     refine ⟨s2, ?_, trivial⟩
     rw [hraw s2]
     exact (Zbn (some b0) kV 0 (raw xv s2)).st hst hk hbox2
def Zyg (ob : Ob α) (k : Kd α) : Prop := ∀ (g : G) (b : Nat) (B : Nat → Prop) (x : α) (hD : ∀ c, (c = b ∨ B c) → c < g.w.heap.size), ob.R g b B x → (k.ptr x).p (g.lend (fun c => c = b ∨ B c) hD) (.pointer (some ⟨b, 0, none⟩))
theorem Z1a {raw2 : α → SlV × SlV → γ} {l1 l2 : α → List β} (hc : Zr4 kV raw2 l1 l2 dk k) : Zyg (obS2 kV raw2 l1 l2 dk e) k := fun g b B x hD hR => Zvm hc hR hD
def IsOb (kV : Kd γ) (raw : α → σ → γ) (R : Hp σ) (ob : Ob α) (x : α) : Prop := ∀ (g : G) (b b0 : Nat) (s : σ) (cs : List Value) (t : TypeId), Mine kV 1 (raw x s) g b cs t → R.p g s → ∃ B : Nat → Prop, ob.R g b B x ∧ ∀ c, B c → c < g.w.heap.size ∧ ∀ o, ¬ g.pr c o
theorem Z14 {raw2 : α → SlV × SlV → γ} {l1 l2 : α → List β} {x0 : α} : IsOb kV raw2 (hpL2 (pArr dk e AUX (l1 x0)) (pArr dk e AUX2 (l2 x0))) (obS2 kV raw2 l1 l2 dk e) x0 := fun g b b0 s cs t ⟨m1, m2, m3, m4, m5, m6⟩ ⟨h1, h2⟩ => by
 obtain ⟨C1, d1, d2⟩ := Zmm h1
 obtain ⟨C2, d3, d4⟩ := Zmm h2
 refine ⟨fun c => C1 c ∨ C2 c, ⟨s, cs, t, C1, C2, m4, m5, d1, d3, fun _ => .inl, fun _ => .inr, fun c h1 h2 => ?_⟩, fun c h => ?_⟩
 · have := (d2 c h1).2.1
   have := (d4 c h2).2.1
   simp [AUX2] at *
   omega
 · rcases h with h | h
   · exact ⟨(d2 c h).1, (d2 c h).2.2⟩
   · exact ⟨(d4 c h).1, (d4 c h).2.2⟩
theorem Zsk {f : FuncId} {x0 : α} {b0 : Nat} {xs : List Operand} {A : List Pd} {ty : Array TypeId} (hc : Zyg ob k) (hi : IsOb kV raw R ob x0) (he : Zl P f) (hok : FnL P f (k.ptr x0 :: A) q) (hop : o.op = .call { callee := .value (.func f), args := (x :: xs).toArray, argTypes := ty }) (hd : o.dst = some d)
   (hx : Opd uses x (Zdq (some b0) kV raw R 0 x0)) (hA : Free A) (hargs : OpdL uses xs A) : OB P N o uses [(d, q)] [] := by
 intro a g K Q hN hdN hu hK
 have hr : (execOp a.eval o).run P g.w = .ok (.enter f (a.eval x :: xs.map a.eval).toArray) g.w := by
   simp [execOp, hop, resolve, Zjd, Deferred.ofValue, invoke, Zfl he]
 unfold Oper.wp
 rw [hr]
 show Calls P f _ g.w _
 obtain ⟨s, ⟨b, cs, t, hv, hm, _⟩, hl⟩ := hx a g hu
 obtain ⟨B, hR, hB⟩ := hi g b b0 s cs t hm hl
 obtain ⟨m1, m2, m3, m4, m5, m6⟩ := hm
 have hD : ∀ c, (c = b ∨ B c) → c < g.w.heap.size := fun c h => h.elim (fun h => h ▸ m1) (fun h => (hB c h).1)
 have hn : ∀ c, (c = b ∨ B c) → ∀ o, ¬ g.pr c o := fun c h => h.elim (fun h => h ▸ m6) (fun h => (hB c h).2)
 refine Calls.mono (hok (g.lend _ hD) _ (Zf4 (by rw [hv]; exact hc g b B x0 hD hR) ((hargs.ok hu).le hA (Zko g _ hD) rfl rfl rfl))) ?_
 rintro en w' ⟨g', v, rfl, rfl, hs, hq⟩
 obtain ⟨g2, e1, e2, hs2⟩ := Zn0 hn hs
 rw [← e1]
 refine hK v g2 hs2 fun e he => ?_
 rw [List.mem_singleton.1 he, hd, Zc8 v (by rw [hN]; exact hdN d hd)]
 exact hq g2 e1 (fun b' o hb' hp => (e2 b' o).2 ⟨hp, fun h => by have := hD b' h; have hb' : g.w.heap.size ≤ b' := hb'; omega⟩)
theorem Zku {l1 l2 : α → List β} {raw2 : α → SlV × SlV → γ} {fn : Func} {r : ResultVar} {v : Value} {a : Act} {g g0 : G} {L : Z3} {b : Nat} {x1 : α} (hr : fn.results = #[r]) (h : St N L a g) (hb : Base g0 g) (h1 : Zep P a g r v) (hq : q.p g v) (hs : (Znc kV raw2 l1 l2 dk e b x1).p g (Act.at a 0)) : bodyPost P fn (FinP (Zwx kV raw2 l1 l2 dk e b x1 g0 q)) .ret a g.w := by
 refine endP hr h h1 ⟨hb, hq, ?_⟩
 obtain ⟨s, ⟨b', cs, t, e1, hm, hc⟩, hR⟩ := hs
 obtain rfl := hc _ rfl
 exact ⟨s, ⟨b', cs, t, rfl, hm, hc⟩, hR⟩
end
section
variable {P : Program} {N : Nat} {o : Oper} {uses outs : Z3} {S : List Nat} {d : Nat} {q : Pd} {x y z : Operand} {α β γ : Type} {kV : Kd γ} {raw : α → SlV × SlV → γ} {l1 l2 : α → List β} {dk : Kd β} {t e j : Nat}
def Zwr (kV : Kd γ) (raw : α → SlV × SlV → γ) (l1 l2 : α → List β) (dk : Kd β) (e : TypeId) (r : Option α) (q : Pd) (g0 : G) (v : Value) (g1 : G) : Prop := Base g0 g1 ∧ ∃ pv ev, v = .tuple #[pv, ev] ∧ q.p g1 ev ∧ match r with
 | none => pv = .pointer none
 | some x => ∃ j j1 j2, j ≠ j1 ∧ j ≠ j2 ∧ j1 ≠ j2 ∧ (pBxS kV raw (hpL2 (pArr dk e j1 (l1 x)) (pArr dk e j2 (l2 x))) j x).p g1 pv
theorem Zuy {r : Option α} {f : FuncId} {fn : Func} {c : Code} {A : List Pd} (hf : P.funcs[f]? = some fn) (hb : fn.body = some c) (hn : fn.ntmps = N) (hAN : A.length ≤ N) (hA : Free A)
   (h : ∀ (a : Act) (g : G), (∀ b, g.own b = 0) → St N (Zgs A 0) a g → Base g g → c.wp P (bodyPost P fn (FinP (Zwr kV raw l1 l2 dk e r q g))) a g.w) : Znt P f A (obS2 kV raw l1 l2 dk e) r q := by
 intro g args hargs
 let g0 : G := ⟨g.w, g.pr, fun _ => 0, g.hpr, g.gl⟩
 have hle : g.le g0 := ⟨Nat.le_refl _, fun _ _ h => h, fun _ _ _ => rfl, fun _ _ => rfl⟩
 have hst : St N (Zgs A 0) { tmps := args.toArray ++ Array.replicate (fn.ntmps - args.toArray.size) undef, defers := [] } g0 := by
   refine ⟨?_, rfl, ?_⟩
   · have := hargs.1
     simp [hn]; omega
   · intro en he
     obtain ⟨i, h1, h2⟩ := Zh9 he
     have hi : i < args.length := by rw [hargs.1]; exact (List.getElem?_eq_some_iff.1 h2).1
     have hv : Act.at { tmps := args.toArray ++ Array.replicate (fn.ntmps - args.toArray.size) undef, defers := [] } en.1 = args[i] := by
       rw [h1, Nat.zero_add]
       simp only [Act.at, Array.getD_eq_getD_getElem?]
       rw [Array.getElem?_append, if_pos (by simpa using hi)]
       simp [hi]
     rw [hv]
     exact Pd.le (hA.at h2) hle rfl rfl rfl (hargs.2 i en.2 _ h2 (List.getElem?_eq_getElem hi))
 have hbase : Base g0 g0 := ⟨.refl _, rfl, rfl, rfl, fun _ _ _ => ⟨rfl, rfl, rfl⟩⟩
 refine Calls.mono (calls_of_wp hf hb (h _ g0 (fun _ => rfl) hst hbase)) ?_
 rintro en w' ⟨g1, v, rfl, rfl, hBs, pv, ev, rfl, hqv, hres⟩
 have hnew : ∀ c, g1.own c ≠ 0 → c < g1.w.heap.size → g.w.heap.size ≤ c := fun c h1 h2 => Nat.le_of_not_lt fun hlt => h1 ((hBs.same c hlt rfl).2.2)
 have hS : Zke (fun _ => False) g g1 := ⟨⟨hBs.le.size, hBs.le.pr, hBs.le.cell, hBs.le.blk⟩, hBs.os, hBs.tape, hBs.output, fun c hc _ => ⟨(hBs.same c hc rfl).1, (hBs.same c hc rfl).2.1⟩⟩
 refine ⟨g1, pv, ev, rfl, rfl, hS, hqv, ?_⟩
 cases r with
 | none => exact hres
 | some x0 =>
   obtain ⟨j, j1, j2, n1, n2, n12, s1, ⟨b, cs1, t1, rfl, ⟨m1, m2, m3, m4, m5, m6⟩, _⟩, ha1, ha2⟩ := hres
   obtain ⟨C1, d1, d2⟩ := Zmm ha1
   obtain ⟨C2, d3, d4⟩ := Zmm ha2
   refine ⟨b, fun c => C1 c ∨ C2 c, rfl, hnew b (by rw [m2]; omega) m1, m1, m6, ⟨s1, cs1, t1, C1, C2, m4, m5, d1, d3, fun _ => .inl, fun _ => .inr, fun c h1 h2 => ?_⟩, fun c hc => ?_⟩
   · have := (d2 c h1).2.1
     have := (d4 c h2).2.1
     omega
   · rcases hc with hc | hc
     · obtain ⟨k1, k2, k3⟩ := d2 c hc
       exact ⟨hnew c (by rw [k2]; omega) k1, k1, fun h => by rw [h, m2] at k2; omega, k3⟩
     · obtain ⟨k1, k2, k3⟩ := d4 c hc
       exact ⟨hnew c (by rw [k2]; omega) k1, k1, fun h => by rw [h, m2] at k2; omega, k3⟩
theorem Zpn {fn : Func} {r1 r2 : ResultVar} {v1 v2 : Value} {r : Option α} {a : Act} {g g0 : G} {L : Z3} (hr : fn.results = #[r1, r2]) (h : St N L a g) (hb : Base g0 g) (h1 : Zep P a g r1 v1) (h2 : Zep P a g r2 v2) (hq : q.p g v2) (ho : match r with
 | none => v1 = .pointer none
 | some x => ∃ j j1 j2, j ≠ j1 ∧ j ≠ j2 ∧ j1 ≠ j2 ∧ (pBxS kV raw (hpL2 (pArr dk e j1 (l1 x)) (pArr dk e j2 (l2 x))) j x).p g v1) : bodyPost P fn (FinP (Zwr kV raw l1 l2 dk e r q g0)) .ret a g.w :=
 ⟨h.df, .tuple #[v1, v2], by
   have h1' : (Ze9 a.tmps r1).run P g.w = .ok v1 g.w := h1
   have h2' : (Ze9 a.tmps r2).run P g.w = .ok v2 g.w := h2
   simp [Zgp, hr, h1', h2'], g, _, rfl, rfl, hb, v1, v2, rfl, hq, ho⟩
structure OAt (kV : Kd γ) (raw : α → SlV × SlV → γ) (l1 l2 : α → List β) (dk : Kd β) (e j : Nat) (x : α) (g : G) (b : Nat) (B : Nat → Prop) (s : SlV × SlV) : Prop where
 heap : ∃ cs t, g.w.heap[b]? = some (.cells (List.toArray cs) t (0, 0)) ∧ kV.K g (raw x s) cs
 a1 : ArrB dk e (l1 x) g (slv s.1) B
 a2 : ArrB dk e (l2 x) g (slv s.2) B
 lt : b < g.w.heap.size
 own : g.own b = j + 1
 bown : ∀ c, B c → c < g.w.heap.size ∧ g.own c = j + 1 + AUX
variable {xv : α}
theorem OAt.st {g g' : G} {b : Nat} {B : Nat → Prop} {s : SlV × SlV} (h : OAt kV raw l1 l2 dk e j xv g b B s) (st : Step S g g') (h1 : j + 1 ∉ S) (h2 : j + 1 + AUX ∉ S) : OAt kV raw l1 l2 dk e j xv g' b B s := by
 obtain ⟨cs, t, e1, e2⟩ := h.heap
 obtain ⟨k1, _, k3⟩ := st.same b h.lt (by rw [h.own]; exact h1)
 have hB : ∀ c, B c → g'.w.heap[c]? = g.w.heap[c]? := fun c hc => (st.same c (h.bown c hc).1 (by rw [(h.bown c hc).2]; exact h2)).1
 exact ⟨⟨cs, t, k1.trans e1, kV.mono st.le e2⟩, h.a1.st st.le hB, h.a2.st st.le hB, Nat.lt_of_lt_of_le h.lt st.le.size, k3.trans h.own, fun c hc => by
   obtain ⟨m1, m2⟩ := h.bown c hc
   exact ⟨Nat.lt_of_lt_of_le m1 st.le.size, (st.same c m1 (by rw [m2]; exact h2)).2.2.trans m2⟩⟩
theorem Z1j {g : G} {v : Value} (h : (pObj (obS2 kV raw l1 l2 dk e) j xv).p g v) : ∃ b B s, v = .pointer (some ⟨b, 0, none⟩) ∧ OAt kV raw l1 l2 dk e j xv g b B s := by
 obtain ⟨b, B, hv, ⟨s, cs, t, B1, B2, h1, h2, h3, h4, h5, h6, _⟩, k1, k2, _, _, k5⟩ := h
 have up : ∀ (xs : List β) (v : Value) (B1 : Nat → Prop), (∀ c, B1 c → B c) → ArrB dk e xs g v B1 → ArrB dk e xs g v B := fun xs v B1 hs h => h.imp id fun ⟨c, cap, cur, m1, m2, m3⟩ => ⟨c, cap, cur, m1, hs c m2, m3⟩
 exact ⟨b, B, s, hv, ⟨cs, t, h1, h2⟩, up _ _ _ h5 h3, up _ _ _ h6 h4, k1, k2, fun c hc => ⟨(k5 c hc).1, (k5 c hc).2.1⟩⟩
def pOF (kV : Kd γ) (raw : α → SlV × SlV → γ) (l1 l2 : α → List β) (dk : Kd β) (e j off : Nat) (x : α) : Pd := ⟨fun g v => ∃ b B s, v = .pointer (some ⟨b, off, none⟩) ∧ OAt kV raw l1 l2 dk e j x g b B s, [j + 1, j + 1 + AUX], fun st hd ⟨b, B, s, e1, h⟩ => ⟨b, B, s, e1, h.st st (hd _ (by simp)) (hd _ (by simp))⟩⟩
def pOL (kV : Kd γ) (raw : α → SlV × SlV → γ) (l1 l2 : α → List β) (dk : Kd β) (e j : Nat) (sel : SlV × SlV → SlV) (x : α) : Pd := ⟨fun g v => ∃ b B s, v = slv (sel s) ∧ OAt kV raw l1 l2 dk e j x g b B s, [j + 1, j + 1 + AUX], fun st hd ⟨b, B, s, e1, h⟩ => ⟨b, B, s, e1, h.st st (hd _ (by simp)) (hd _ (by simp))⟩⟩
def pOE (dk : Kd β) (e j : Nat) (u : β) : Pd := ⟨fun g v => ∃ c i cap cur, v = .pointer (some ⟨c, i * dk.sz, none⟩) ∧ c < g.w.heap.size ∧ g.own c = j + 1 + AUX ∧ g.w.heap[c]? = some (.cells cur e (0, 0)) ∧ i < cap ∧ cur.size = cap * dk.sz ∧ dk.K g u (seg cur.toList (i * dk.sz) dk.sz), [j + 1 + AUX], fun {S g g' v} st hd ⟨c, i, cap, cur, e1, h1, h2, h3, h4, h5, h6⟩ => by
 obtain ⟨k1, _, k3⟩ := st.same c h1 (by rw [h2]; exact hd _ (by simp))
 exact ⟨c, i, cap, cur, e1, Nat.lt_of_lt_of_le h1 st.le.size, k3.trans h2, k1.trans h3, h4, h5, dk.mono st.le h6⟩⟩
theorem Zps {s i off : Nat} {δ : Type} {di : Kd δ} {proj : γ → δ} (hF : Fld P s i kV di proj) (ho : (match P.underlying s with | some (.struct F) => (F[i]?).map (·.offset) | _ => none) = some off) (hop : o.op = .fieldAddr s x i) (hd : o.dst = some d) (hx : Opd uses x (pObj (obS2 kV raw l1 l2 dk e) j xv)) : OB P N o uses [(d, pOF kV raw l1 l2 dk e j off xv)] [] :=
 Zbx hd fun a g hh => by
   obtain ⟨b, B, sv, hv, hO⟩ := Z1j (hx a g hh)
   obtain ⟨fs, f, hu, hi, hsz, hag, h0, hK, _⟩ := hF.look
   have : f.offset = off := by simpa [hu, hi] using ho
   subst this
   exact ⟨.pointer (some ⟨b, f.offset, none⟩), by simp [execOp, hop, hv, Instr.fieldAt, Instr.sureAddr, run_underlying hu, hi, Zif hsz h0], b, B, sv, rfl, hO⟩
theorem Zqv {off : Nat} {sel : SlV × SlV → SlV} (hsel : ∀ g cs s, kV.K g (raw xv s) cs → seg cs off 1 = [slv (sel s)]) (hT : Ty P t Kd.raw) (hop : o.op = .load t x) (hd : o.dst = some d) (hx : Opd uses x (pOF kV raw l1 l2 dk e j off xv)) : OB P N o uses [(d, pOL kV raw l1 l2 dk e j sel xv)] [] :=
 Zbx hd fun a g hh => by
   obtain ⟨b, B, s, hv, hO⟩ := hx a g hh
   obtain ⟨cs, tt, e1, e2⟩ := hO.heap
   have hs := hsel g cs s e2
   refine ⟨slv (sel s), ?_, b, B, s, rfl, hO⟩
   have := Zg0 (b := b) (of := off) (g := g) (v := sel s) (cs := [slv (sel s)]) hT rfl (fun k u hu => by
     have hk : k = 0 := by
       have := (List.getElem?_eq_some_iff.1 hu).1
       simp at this; exact this
     subst hk
     simp at hu
     simp only [World.cell?, e1]
     have h2 : (seg cs off 1)[0]? = some (slv (sel s)) := by rw [hs]; rfl
     simp only [seg, List.getElem?_take, List.getElem?_drop] at h2
     simp at h2
     simpa [hu] using h2)
   simp [execOp, hop, hv, Instr.loadAt, Instr.sureAddr, this, mkV, Kd.raw, Kd.scalar]
theorem Zpf {k : IntKind} {sel : SlV × SlV → SlV} {l : List β} {n : Int} {u : β} {ix : Operand} (hl : ∀ g b B s, OAt kV raw l1 l2 dk e j xv g b B s → ArrB dk e l g (slv (sel s)) B) (ht : P.underlying t = some (.slice e)) (hs : (P.info? e).map (·.size) = some dk.sz) (hop : o.op = .indexAddr t x ix) (hd : o.dst = some d) (hx : Opd uses x (pOL kV raw l1 l2 dk e j sel xv)) (hi : Opd uses ix (pInt k n)) (h : idx l n = some u) : OB P N o uses [(d, pOE dk e j u)] [] :=
 Zbx hd fun a g hh => by
   have hn := Zca.1 (hi a g hh)
   obtain ⟨b, B, s, hv, hO⟩ := hx a g hh
   unfold idx at h
   split at h
   · rename_i h0
     have hlt := (List.getElem?_eq_some_iff.1 h).1
     rcases hl g b B s hO with ⟨rfl, _⟩ | ⟨c, cap, cur, k1, k2, k3, k4, k5, k6, k7⟩
     · simp at h
     · rw [k1] at hv
       have hb : 0 ≤ n ∧ n < (l.length : Int) := ⟨h0, by omega⟩
       refine ⟨.pointer (some ⟨c, n.toNat * dk.sz, none⟩), by simp [execOp, hop, hv, hn, Instr.indexAt, asIntOf, run_underlying ht, hb, Zew hs, Zcw], c, n.toNat, cap, cur, rfl, (hO.bown c k2).1, (hO.bown c k2).2, k3, by omega, k6, k7 _ _ h⟩
   · cases h
theorem Zq9 {u : β} (hT : Ty P t dk) (hop : o.op = .load t x) (hd : o.dst = some d) (hx : Opd uses x (pOE dk e j u)) : OB P N o uses [(d, dk.pd u)] [] :=
 Zbx hd fun a g hh => by
   obtain ⟨c, i, cap, cur, hv, h1, h2, h3, h4, h5, hk⟩ := hx a g hh
   refine ⟨mkV dk.ag (seg cur.toList (i * dk.sz) dk.sz), ?_, _, hk, rfl⟩
   have := Zg0 (b := c) (of := i * dk.sz) hT hk (fun k u hu => by
     simp only [World.cell?, h3]
     simp only [seg, List.getElem?_take, List.getElem?_drop] at hu
     split at hu
     · simpa using hu
     · cases hu)
   simp [execOp, hop, hv, Instr.loadAt, Instr.sureAddr, this]
theorem Zwu {fn : Func} {r : ResultVar} {v : Value} {xs : List β} {a : Act} {g g0 : G} {L : Z3} (hr : fn.results = #[r]) (h0 : ∀ b, g0.own b = 0) (h : St N L a g) (hb : Base g0 g) (h1 : Zep P a g r v) (hq : (pArr dk e j xs).p g v) : bodyPost P fn (FinP (Zmo dk e xs g0)) .ret a g.w := by
 refine endP hr h h1 ⟨hb, ?_⟩
 rcases hq with h | ⟨b, cap, cur, e1, hO⟩
 · exact .inl h
 · refine .inr ⟨b, cap, cur, e1, Nat.le_of_not_lt fun hlt => ?_, hO.lt, hO.heap, by simpa using hO.len, hO.max, hO.sz, fun i x hx => hO.known i x (by rw [List.getElem?_map, hx]; rfl), hO.npr⟩
   have := (hb.same b hlt (h0 b)).2.2
   rw [hO.own] at this; omega
theorem Zoz {δ : Type} {dl : Kd δ} {el j0 : Nat} {f : FuncId} {l : List δ} {xs : List β} {xo : List Operand} {A : List Pd} {ty : Array TypeId} (hind : ∀ (g g' : G) (x : β) (cs : List Value), dk.K g x cs → dk.K g' x cs) (hjj : j0 ≠ j) (he : Zl P f) (hok : Zki P f (dl.sl.pd l :: A) dk e xs) (hop : o.op = .call { callee := .value (.func f), args := (x :: xo).toArray, argTypes := ty }) (hd : o.dst = some d) (hx : Opd uses x (pArr dl el j0 l)) (hA : Free A) (hargs : OpdL uses xo A) : OB P N o uses [(d, pArr dk e j xs)] [j + 1] := by
 intro a g K Q hN hdN hu hK
 have hr : (execOp a.eval o).run P g.w = .ok (.enter f (a.eval x :: xo.map a.eval).toArray) g.w := by
   simp [execOp, hop, resolve, Zjd, Deferred.ofValue, invoke, Zfl he]
 unfold Oper.wp
 rw [hr]
 show Calls P f _ g.w _
 obtain ⟨B, hB, hB2⟩ := Zmm (hx a g hu)
 let hD : ∀ c, B c → c < g.w.heap.size := fun c h => (hB2 c h).1
 have hle := Zko g B hD
 have hlst : (dl.sl.pd l).p (g.lend B hD) (a.eval x) := Zng hB hle rfl (fun c hc o => .inr hc)
 refine Calls.mono (hok (g.lend B hD) _ (Zf4 hlst ((hargs.ok hu).le hA hle rfl rfl rfl))) ?_
 rintro en w' ⟨g', v, rfl, rfl, hS, hAr⟩
 let gb : G := ⟨g'.w, fun b o => g'.pr b o ∧ ¬ B b, g'.own, fun b o h => g'.hpr b o h.1, fun en hen i v hv => by
   obtain ⟨k1, k2⟩ := g'.gl en hen i v hv
   exact ⟨⟨k1, fun h => (hB2 _ h).2.2 i (g.gl en hen i v hv).1⟩, k2⟩⟩
 have hle2 : g.le gb := ⟨hS.le.size, fun b o h => ⟨hS.le.pr b o (.inl h), fun h' => (hB2 b h').2.2 o h⟩, fun b o h => hS.le.cell b o (.inl h), fun b h => hS.le.blk b (fun o => .inl (h o))⟩
 have hsame : ∀ b, b < g.w.heap.size → gb.w.heap[b]? = g.w.heap[b]? ∧ gb.pr b = g.pr b := fun b hb => by
   obtain ⟨k1, k2⟩ := hS.same b hb id
   refine ⟨k1, ?_⟩
   funext o
   show (g'.pr b o ∧ ¬ B b) = g.pr b o
   rw [k2]
   show ((g.pr b o ∨ B b) ∧ ¬ B b) = g.pr b o
   have := fun h => (hB2 b h).2.2 o
   by_cases h : B b <;> simp [h, this]
 have fin : ∀ (o1 : Nat → Nat), (∀ b, b < g.w.heap.size → o1 b = if g.own b = j + 1 then 0 else g.own b) → (∀ b, g.w.heap.size ≤ b → o1 b = 0 ∨ o1 b = j + 1) → Step [j + 1] g ⟨gb.w, gb.pr, o1, gb.hpr, gb.gl⟩ := fun o1 h1 h2 =>
   ⟨⟨hle2.size, hle2.pr, hle2.cell, hle2.blk⟩, hS.os, hS.tape, hS.output, fun b hb hn => ⟨(hsame b hb).1, (hsame b hb).2, by show o1 b = _; rw [h1 b hb, if_neg (by simpa using hn)]⟩,
     fun b k1 k2 => (h2 b k1).imp id (fun h => by show o1 b ∈ _; rw [h]; simp), fun b hb hn => .inl (by show o1 b = 0; rw [h1 b hb, if_pos (by simpa using hn)])⟩
 rcases hAr with ⟨rfl, A0, rfl⟩ | ⟨b, cap, cur, rfl, hDb, h1, h2, h3, h4, h5, h6, h7⟩
 · refine hK _ ⟨gb.w, gb.pr, fun b => if b < g.w.heap.size then (if g.own b = j + 1 then 0 else g.own b) else 0, gb.hpr, gb.gl⟩ (fin (fun b => if b < g.w.heap.size then (if g.own b = j + 1 then 0 else g.own b) else 0) (fun b hb => if_pos hb) (fun b hb => .inl (if_neg (by omega)))) fun e' he' => ?_
   rw [List.mem_singleton.1 he', hd, Zc8 _ (by rw [hN]; exact hdN d hd)]
   exact .inl ⟨rfl, A0, rfl⟩
 · have hDb : g.w.heap.size ≤ b := hDb
   refine hK _ ⟨gb.w, gb.pr, fun c => if c < g.w.heap.size then (if g.own c = j + 1 then 0 else g.own c) else if c = b then j + 1 else 0, gb.hpr, gb.gl⟩ (fin _ (fun b hb => if_pos hb) (fun c hc => by
     show (if c < g.w.heap.size then _ else _) = 0 ∨ _ = j + 1
     rw [if_neg (by omega)]; split <;> simp)) fun e' he' => ?_
   rw [List.mem_singleton.1 he', hd, Zc8 _ (by rw [hN]; exact hdN d hd)]
   refine .inr ⟨b, cap, cur, rfl, ⟨h1, ?_, fun b' hb' ho => ?_, h2, by simpa using h3, h4, h5, fun i x hx => ?_, fun o h => h7 o h.1⟩⟩
   · show (if b < g.w.heap.size then _ else _) = _
     rw [if_neg (by omega), if_pos rfl]
   · have ho' : (if b' < g.w.heap.size then (if g.own b' = j + 1 then 0 else g.own b') else if b' = b then j + 1 else 0) = j + 1 := ho
     split at ho'
     · split at ho'
       · omega
       · rename_i hne; exact absurd ho' hne
     · split at ho'
       · assumption
       · omega
   · rw [List.getElem?_map] at hx
     obtain ⟨y, hy, he''⟩ := Option.map_eq_some_iff.1 hx
     obtain rfl := Option.some.inj he''
     exact hind _ _ _ _ (h6 i y hy)
theorem OB.giveA {xs : List β} (h : OB P N o uses [(d, pArr dk e j xs)] [j + 1]) : OB P N o uses [(d, dk.sl.pd xs)] [j + 1] := by
 intro a g K Q hN hdN hu hK
 refine h a g K Q hN hdN hu fun v g' hs ho => ?_
 rcases ho (d, pArr dk e j xs) (List.mem_singleton.2 rfl) with ⟨rfl, A, hv⟩ | ⟨b, cap, cur, hv, hO⟩
 · refine hK v g' hs fun en he => ?_
   rw [List.mem_singleton.1 he]
   show (dk.sl.pd []).p g' (Act.at (a.put o.dst v) d)
   rw [hv]
   exact Kd.sl_V.2 ⟨A, 0, rfl, Nat.le_refl _, by simp, .inl rfl⟩
 · refine hK v (g'.give b hO.lt) (hs.trans (Zvq hO.lt hO.own)) fun en he => ?_
   rw [List.mem_singleton.1 he]
   show (dk.sl.pd xs).p _ (Act.at (a.put o.dst v) d)
   rw [hv]
   exact Zxk hO
theorem fpne {k a b : Nat} (h : k = a) (h' : k = b) (hn : a ≠ b) : False := hn (h.symm.trans h')
theorem OB.ownA {xs : List β} {c : Option Nat} (h : OB P N o uses [(d, pOwn dk e j c (xs.map some))] S) : OB P N o uses [(d, pArr dk e j xs)] S := h.weak fun g a h en he => by
 rw [List.mem_singleton.1 he]
 obtain ⟨b, cap, cur, hv, hO, _⟩ := h (d, pOwn dk e j c (xs.map some)) (List.mem_singleton.2 rfl)
 exact .inr ⟨b, cap, cur, by simpa using hv, hO⟩
def pSt2 (kV : Kd γ) (raw : α → SlV × SlV → γ) (l1 l2 : α → List β) (dk : Kd β) (e j1 j2 : Nat) (x : α) : Pd := ⟨fun g v => ∃ s, (kV.pd (raw x s)).p g v ∧ (pArr dk e j1 (l1 x)).p g (slv s.1) ∧ (pArr dk e j2 (l2 x)).p g (slv s.2), [j1 + 1, j2 + 1], fun st hd ⟨s, h1, h2, h3⟩ => ⟨s, (kV.pd (raw x s)).st st (fun _ h => by cases h) h1, (pArr dk e j1 (l1 x)).st st (fun k hk => hd k (by simp [pArr] at hk; simp [hk])) h2, (pArr dk e j2 (l2 x)).st st (fun k hk => hd k (by simp [pArr] at hk; simp [hk])) h3⟩⟩
theorem Ztf {t1 t2 j1 j2 : Nat} {q0 : Pd} {x0 : Operand} (hb : ∀ (s1 s2 : SlV) (uses' : Z3), Opd uses' x0 q0 → Opd uses' (.tmp t1) (Kd.raw.pd s1) → Opd uses' (.tmp t2) (Kd.raw.pd s2) → OB P N o uses' [(d, kV.pd (raw xv (s1, s2)))] []) (hd : o.dst = some d) (h0 : Opd uses x0 q0) (h1 : Opd uses (.tmp t1) (pArr dk e j1 (l1 xv))) (h2 : Opd uses (.tmp t2) (pArr dk e j2 (l2 xv))) : OB P N o uses [(d, pSt2 kV raw l1 l2 dk e j1 j2 xv)] [] :=
 OB.at fun a g hh => by
   have k1 := h1 a g hh
   have k2 := h2 a g hh
   obtain ⟨s1, e1⟩ := Zqn k1
   obtain ⟨s2, e2⟩ := Zqn k2
   refine ⟨(N, pAt (slv s1) (pArr dk e j1 (l1 xv))) :: (N, pAt (slv s2) (pArr dk e j2 (l2 xv))) :: (t1, Kd.raw.pd s1) :: (t2, Kd.raw.pd s2) :: uses, fun en he => ?_, ?_⟩
   · rcases List.mem_cons.1 he with rfl | he
     · show (pArr dk e j1 (l1 xv)).p g (slv s1); rw [← e1]; exact k1
     · rcases List.mem_cons.1 he with rfl | he
       · show (pArr dk e j2 (l2 xv)).p g (slv s2); rw [← e2]; exact k2
       · rcases List.mem_cons.1 he with rfl | he
         · exact Zpt.2 e1
         · rcases List.mem_cons.1 he with rfl | he
           · exact Zpt.2 e2
           · exact hh en he
   · intro a' g' K Q hN hdN hu' hK
     have hdl := hdN d hd
     have hne : o.dst ≠ some N := by rw [hd]; intro h; exact absurd (Option.some.inj h) (Nat.ne_of_lt hdl)
     refine (OB.frame (n := N) (q := pAt (slv s1) (pArr dk e j1 (l1 xv))) (OB.frame (n := N) (q := pAt (slv s2) (pArr dk e j2 (l2 xv))) (hb s1 s2 _ (.tl (.tl h0)) .t0 (.tl .t0)) (fun _ _ h => by cases h) hne) (fun _ _ h => by cases h) hne).weak (fun g2 a2 h en he => ?_) a' g' K Q hN hdN hu' hK
     rw [List.mem_singleton.1 he]
     exact ⟨(s1, s2), h (d, kV.pd (raw xv (s1, s2))) (by simp), h (N, pAt (slv s1) (pArr dk e j1 (l1 xv))) (by simp), h (N, pAt (slv s2) (pArr dk e j2 (l2 xv))) (by simp)⟩
theorem Zwb {j1 j2 : Nat} (hj : j1 ≠ j ∧ j2 ≠ j) (hop : o.op = .box t x) (hd : o.dst = some d) (hx : Opd uses x (pSt2 kV raw l1 l2 dk e j1 j2 xv)) : OB P N o uses [(d, pBxS kV raw (hpL2 (pArr dk e j1 (l1 xv)) (pArr dk e j2 (l2 xv))) j xv)] [j + 1] :=
 Zfw hd fun a g hh => by
   obtain ⟨s0, ⟨cs, hk, hv⟩, h1, h2⟩ := hx a g hh
   refine ⟨.pointer (some ⟨g.w.heap.size, 0, none⟩), g.push cs.toArray t (fun _ => False) (j + 1), ?_, Zgw .., s0, ⟨g.w.heap.size, cs, t, rfl, Znf (by omega) hk, fun _ h => by cases h⟩, (pArr dk e j1 (l1 xv)).st (Zgw ..) (fun k hk hS => ?_) h1, (pArr dk e j2 (l2 xv)).st (Zgw ..) (fun k hk hS => ?_) h2⟩
   · have : (a.eval x).cells = cs.toArray := by rw [hv]; exact Kd.cells_mkV hk
     simp [execOp, hop, Instr.box, newVar, newRow, this, Zeu]
   · have a1 := List.mem_singleton.1 hk
     have a2 := List.mem_singleton.1 hS
     omega
   · have a1 := List.mem_singleton.1 hk
     have a2 := List.mem_singleton.1 hS
     omega
end
end Go.CL
