/- A part of the proof of ShelfStays. -/
import Derived.Test.YtlphnpmegolfmaaShelfStaysC1
import Derived.Laws.CopyRow
import Derived.Laws.Externs
import GoSem.Extern.SlicesOverlaps
/- Functions that write through pointers of their caller's. -/
set_option linter.unusedVariables false
set_option linter.unusedSimpArgs false
namespace Go.CL
open Go Go.RowKit

section
variable {P : Program} {N : Nat} {o : Oper} {uses : Slots} {d : Nat} {q q1 : Pd} {x y z : Operand} {α β : Type} {k1 : Kd α} {k2 : Kd β} {x0 x1 : α} {y0 y1 : β}
def ptrTo (b : Nat) : Value := .pointer (some ⟨b, 0, none⟩)
def BoxAt (dk : Kd α) (v : α) (g : G) (b : Nat) : Prop := b < g.w.heap.size ∧ (∃ cs t, g.w.heap[b]? = some (.cells cs.toArray t (0, 0)) ∧ dk.K g v cs) ∧ ∀ o, ¬ g.pr b o
theorem box_of {b j : Nat} {v : α} {g : G} {u : Value} (h : (pBoxC (some b) k1 j v).p g u) : BoxAt k1 v g b := by
  obtain ⟨b', cs, t, e, hm, hc⟩ := h
  obtain rfl := hc b rfl
  exact ⟨hm.1, ⟨cs, t, hm.2.2.2.1, hm.2.2.2.2.1⟩, hm.2.2.2.2.2⟩
/-- A parameter: a value, or a pointer to what is x0, and x1 behind the call. -/
inductive Par : Type 1
  | val (q : Pd)
  | box {α : Type} (k : Kd α) (x0 x1 : α)
def ParsOk (g : G) : List Par → List Value → List Nat → Prop
  | [], [], [] => True
  | .val q :: Ps, v :: vs, bs => q.p g v ∧ ParsOk g Ps vs bs
  | .box k x0 _ :: Ps, v :: vs, b :: bs => v = ptrTo b ∧ BoxAt k x0 g b ∧ b ∉ bs ∧ ParsOk g Ps vs bs
  | _, _, _ => False
def ParsPost (g : G) : List Par → List Nat → Prop
  | .val _ :: Ps, bs => ParsPost g Ps bs
  | .box k _ x1 :: Ps, b :: bs => BoxAt k x1 g b ∧ ParsPost g Ps bs
  | _, _ => True
def ownB : List Par → List Nat → Nat → Nat → Nat
  | .val _ :: Ps, bs, i, c => ownB Ps bs (i + 1) c
  | .box _ _ _ :: Ps, b :: bs, i, c => if c = b then i + 1 else ownB Ps bs (i + 1) c
  | _, _, _, _ => 0
def slotsB : List Par → List Nat → Nat → Slots
  | .val q :: Ps, bs, i => (i, q) :: slotsB Ps bs (i + 1)
  | .box k x0 _ :: Ps, b :: bs, i => (i, pBoxC (some b) k i x0) :: slotsB Ps bs (i + 1)
  | _, _, _ => []
def FreeB : List Par → Bool
  | .val q :: Ps => q.fp.isEmpty && FreeB Ps
  | .box _ _ _ :: Ps => FreeB Ps
  | [] => true
def nbox : List Par → Nat
  | .val _ :: Ps => nbox Ps
  | .box _ _ _ :: Ps => nbox Ps + 1
  | [] => 0
/-- **A contract with boxes.** -/
def FnB (P : Program) (f : FuncId) (Ps : List Par) (q : Pd) : Prop := ∀ (g : G) (args : List Value) (bs : List Nat), ParsOk g Ps args bs →
  Calls P f args.toArray g.w (fun e w' => ∃ g' u, e = .returned u ∧ w' = g'.w ∧ StepB (· ∈ bs) g g' ∧ ParsPost g' Ps bs ∧ q.p g' u)
theorem ParsOk.len {g : G} : ∀ {Ps : List Par} {vs : List Value} {bs : List Nat}, ParsOk g Ps vs bs → vs.length = Ps.length ∧ bs.length = nbox Ps
  | [], [], [], _ => ⟨rfl, rfl⟩
  | .val q :: Ps, v :: vs, bs, h => ⟨by simp [(ParsOk.len h.2).1], (ParsOk.len h.2).2⟩
  | .box k x0 x1 :: Ps, v :: vs, b :: bs, h => ⟨by simp [(ParsOk.len h.2.2.2).1], by simp [nbox, (ParsOk.len h.2.2.2).2]⟩
  | [], v :: vs, _, h => by cases h
  | [], [], b :: bs, h => by cases h
  | .val q :: Ps, [], _, h => by cases h
  | .box k x0 x1 :: Ps, [], _, h => by cases h
  | .box k x0 x1 :: Ps, v :: vs, [], h => by cases h
theorem ownB_ge : ∀ {Ps : List Par} {bs : List Nat} {i c : Nat}, ownB Ps bs i c ≠ 0 → i < ownB Ps bs i c
  | .val _ :: Ps, bs, i, c, h => by have := ownB_ge (Ps := Ps) (bs := bs) (i := i + 1) (c := c) h; exact Nat.lt_trans (Nat.lt_succ_self _) this
  | .box _ _ _ :: Ps, b :: bs, i, c, h => by
    simp only [ownB] at h ⊢
    split
    · omega
    · rename_i hc; rw [if_neg hc] at h; have := ownB_ge (Ps := Ps) (bs := bs) (i := i + 1) (c := c) h; omega
  | .box _ _ _ :: Ps, [], i, c, h => by simp [ownB] at h
  | [], _, i, c, h => by simp [ownB] at h
theorem ownB_out : ∀ {Ps : List Par} {bs : List Nat} {i c : Nat}, c ∉ bs → ownB Ps bs i c = 0
  | .val _ :: Ps, bs, i, c, h => ownB_out (Ps := Ps) h
  | .box _ _ _ :: Ps, b :: bs, i, c, h => by
    simp only [ownB]
    rw [if_neg (fun e => h (by simp [e])), ownB_out (fun e => h (by simp [e]))]
  | .box _ _ _ :: Ps, [], i, c, h => rfl
  | [], _, i, c, h => rfl
theorem slotsB_ok {g g0 : G} (hw : g0.w = g.w) (hp : g0.pr = g.pr) (h : ∀ (q : Pd) v, q.fp = [] → q.p g v → q.p g0 v) (hk : ∀ {α : Type} (k : Kd α) x cs, k.K g x cs → k.K g0 x cs) {a : Act} :
    ∀ {Ps : List Par} {vs : List Value} {bs : List Nat} {i : Nat}, FreeB Ps = true → ParsOk g Ps vs bs → (∀ n u, vs[n]? = some u → Act.at a (i + n) = u) → (∀ c, ownB Ps bs i c ≠ 0 → g0.own c = ownB Ps bs i c) → (∀ c, i < g0.own c → g0.own c = ownB Ps bs i c) → Holds (slotsB Ps bs i) a g0
  | [], [], [], i, _, _, _, _, _ => holds_nil
  | .val q :: Ps, v :: vs, bs, i, hf, ho, ha, h1, h2 => by
    simp only [FreeB, Bool.and_eq_true, List.isEmpty_iff] at hf
    refine holds_cons (by rw [show Act.at a i = v from ha 0 v rfl]; exact h q v hf.1 ho.1) (slotsB_ok hw hp h hk hf.2 ho.2 (fun n u hu => ?_) h1 (fun c hc => h2 c (by omega)))
    rw [show i + 1 + n = i + (n + 1) by omega]; exact ha (n + 1) u (by simpa using hu)
  | .box k x0 x1 :: Ps, v :: vs, b :: bs, i, hf, ⟨hv, ⟨hb1, ⟨cs, t, hb2, hb3⟩, hb4⟩, hn, ho⟩, ha, h1, h2 => by
    have hown : ownB (.box k x0 x1 :: Ps) (b :: bs) i b = i + 1 := by simp [ownB]
    have hob : g0.own b = i + 1 := by rw [h1 b (by rw [hown]; omega), hown]
    have hu : ∀ b', g0.own b' = i + 1 → b' = b := fun b' e => by
      have := h2 b' (by omega)
      simp only [ownB] at this
      split at this
      · assumption
      · rename_i hc
        have h3 := ownB_ge (Ps := Ps) (bs := bs) (i := i + 1) (c := b') (by omega)
        omega
    refine holds_cons (show (pBoxC (some b) k i x0).p g0 _ from ?_) (slotsB_ok hw hp h hk hf ho (fun n u hu => ?_) (fun c hc => ?_) (fun c hc => ?_))
    · rw [show Act.at a i = v from ha 0 v rfl]
      exact ⟨b, cs, t, hv, ⟨by rw [hw]; exact hb1, hob, fun b' _ e => hu b' e, by rw [hw]; exact hb2, hk k _ _ hb3, fun o => by rw [hp]; exact hb4 o⟩, fun b' e => Option.some.inj e⟩
    · rw [show i + 1 + n = i + (n + 1) by omega]; exact ha (n + 1) u (by simpa using hu)
    · have hcb : c ≠ b := fun e => hc (by rw [e]; exact ownB_out hn)
      have e : ownB (.box k x0 x1 :: Ps) (b :: bs) i c = ownB Ps bs (i + 1) c := by simp [ownB, hcb]
      rw [h1 c (by rw [e]; exact hc), e]
    · have hcb : c ≠ b := fun e => by rw [e, hob] at hc; omega
      have e : ownB (.box k x0 x1 :: Ps) (b :: bs) i c = ownB Ps bs (i + 1) c := by simp [ownB, hcb]
      rw [h2 c (by omega), e]
  | [], v :: vs, _, _, _, h, _, _, _ => by cases h
  | [], [], b :: bs, _, _, h, _, _, _ => by cases h
  | .val q :: Ps, [], _, _, _, h, _, _, _ => by cases h
  | .box k x0 x1 :: Ps, [], _, _, _, h, _, _, _ => by cases h
  | .box k x0 x1 :: Ps, v :: vs, [], _, _, h, _, _, _ => by cases h
def BEnd (Ps : List Par) (bs : List Nat) (g0 : G) (q : Pd) (v : Value) (g1 : G) : Prop := Base g0 g1 ∧ q.p g1 v ∧ ParsPost g1 Ps bs
theorem fnB_ok {f : FuncId} {fn : Func} {c : Code} {Ps : List Par} (hf : P.funcs[f]? = some fn) (hb : fn.body = some c) (hn : fn.ntmps = N) (hAN : Ps.length ≤ N) (hA : FreeB Ps = true) (hq : q.fp = [])
    (h : ∀ (a : Act) (g : G) (bs : List Nat), bs.length = nbox Ps → St N (slotsB Ps bs 0) a g → Base g g → c.wp P (bodyPost P fn (FinP (BEnd Ps bs g q))) a g.w) : FnB P f Ps q := by
  intro g args bs hargs
  obtain ⟨hl1, hl2⟩ := hargs.len
  let g0 : G := ⟨g.w, g.pr, fun c => ownB Ps bs 0 c, g.hpr, g.gl⟩
  have hle : g.le g0 := ⟨Nat.le_refl _, fun _ _ h => h, fun _ _ _ => rfl⟩
  have hst : St N (slotsB Ps bs 0) { tmps := args.toArray ++ Array.replicate (fn.ntmps - args.toArray.size) undef, defers := [] } g0 := by
    refine ⟨by simp [hn]; omega, rfl, slotsB_ok (g := g) (g0 := g0) rfl rfl (fun q v hq hv => Pd.le hq hle rfl rfl rfl hv) (fun k x cs hk => k.mono hle hk) hA hargs (fun n u hu => ?_) (fun _ _ => rfl) (fun _ _ => rfl)⟩
    have hlt := (List.getElem?_eq_some_iff.1 hu).1
    rw [Nat.zero_add]
    simp only [Act.at, Array.getD_eq_getD_getElem?]
    rw [Array.getElem?_append, if_pos (by simpa using hlt)]
    have hi' : (args.toArray)[n]? = some u := by rw [List.getElem?_toArray]; exact hu
    rw [hi']; rfl
  have hbase : Base g0 g0 := ⟨.refl _, rfl, rfl, rfl, fun _ _ h => ⟨rfl, rfl, h⟩⟩
  refine Calls.mono (calls_of_wp hf hb (h _ g0 bs hl2 hst hbase)) ?_
  rintro e w' ⟨g1, u, rfl, rfl, hB, hqu, hpost⟩
  exact ⟨g1, u, rfl, rfl, ⟨⟨hB.le.size, hB.le.pr, hB.le.cell⟩, hB.os, hB.tape, hB.output, fun c hc hn' => ⟨(hB.same c hc (ownB_out hn')).1, (hB.same c hc (ownB_out hn')).2.1⟩⟩, hpost, hqu⟩
theorem endB1 {fn : Func} {r : ResultVar} {v : Value} {a : Act} {g g0 : G} {L : Slots} {Ps : List Par} {bs : List Nat} (hr : fn.results = #[r]) (h : St N L a g) (hb : Base g0 g) (h1 : ResOk P a g r v) (hq : q.p g v) (hp : ParsPost g Ps bs) : bodyPost P fn (FinP (BEnd Ps bs g0 q)) .ret a g.w :=
  endP hr h h1 ⟨hb, hq, hp⟩
theorem endB2 {fn : Func} {r1 r2 : ResultVar} {v1 v2 : Value} {a : Act} {g g0 : G} {L : Slots} {Ps : List Par} {bs : List Nat} (hr : fn.results = #[r1, r2]) (h : St N L a g) (hb : Base g0 g) (h1 : ResOk P a g r1 v1) (h2 : ResOk P a g r2 v2) (hq : q.p g (.tuple #[v1, v2])) (hp : ParsPost g Ps bs) : bodyPost P fn (FinP (BEnd Ps bs g0 q)) .ret a g.w :=
  ⟨h.df, _, by
    have h1' : (resSem a.tmps r1).run P g.w = .ok v1 g.w := h1
    have h2' : (resSem a.tmps r2).run P g.w = .ok v2 g.w := h2
    simp [results_eq, hr, h1', h2'], g, _, rfl, rfl, hb, hq, hp⟩
theorem endB3 {fn : Func} {r1 r2 r3 : ResultVar} {v1 v2 v3 : Value} {a : Act} {g g0 : G} {L : Slots} {Ps : List Par} {bs : List Nat} (hr : fn.results = #[r1, r2, r3]) (h : St N L a g) (hb : Base g0 g) (h1 : ResOk P a g r1 v1) (h2 : ResOk P a g r2 v2) (h3 : ResOk P a g r3 v3) (hq : q.p g (.tuple #[v1, v2, v3])) (hp : ParsPost g Ps bs) : bodyPost P fn (FinP (BEnd Ps bs g0 q)) .ret a g.w :=
  ⟨h.df, _, by
    have h1' : (resSem a.tmps r1).run P g.w = .ok v1 g.w := h1
    have h2' : (resSem a.tmps r2).run P g.w = .ok v2 g.w := h2
    have h3' : (resSem a.tmps r3).run P g.w = .ok v3 g.w := h3
    simp [results_eq, hr, h1', h2', h3'], g, _, rfl, rfl, hb, hq, hp⟩
theorem endB0 {fn : Func} {a : Act} {g g0 : G} {L : Slots} {Ps : List Par} {bs : List Nat} (hr : fn.results = #[]) (h : St N L a g) (hb : Base g0 g) (hq : q.p g (.tuple #[])) (hp : ParsPost g Ps bs) : bodyPost P fn (FinP (BEnd Ps bs g0 q)) .ret a g.w :=
  ⟨h.df, _, by simp [results_eq, hr], g, _, rfl, rfl, hb, hq, hp⟩

/-! ### calls -/
/-- The homes of boxes: a slot, whether its block is known, its owner. -/
abbrev Home := Nat × Option Nat × Nat
def ValB (a : Act) (g : G) : List Par → List Value → List Home → Prop
  | [], [], [] => True
  | .val q :: Ps, v :: vs, hs => q.p g v ∧ ValB a g Ps vs hs
  | .box k x0 _ :: Ps, v :: vs, h :: hs => (pBoxC h.2.1 k h.2.2 x0).p g (Act.at a h.1) ∧ (∃ c, (pBoxC c k h.2.2 x0).p g v) ∧ (∀ e ∈ hs, e.2.2 ≠ h.2.2) ∧ ValB a g Ps vs hs
  | _, _, _ => False
def outsB : List Par → List Home → Slots
  | .val _ :: Ps, hs => outsB Ps hs
  | .box k _ x1 :: Ps, h :: hs => (h.1, pBoxC h.2.1 k h.2.2 x1) :: outsB Ps hs
  | _, _ => []
def SB (hs : List Home) : List Nat := hs.map fun h => h.2.2 + 1
theorem valB_pars {a : Act} {g : G} : ∀ {Ps : List Par} {vs : List Value} {hs : List Home}, ValB a g Ps vs hs → ∃ bs : List Nat, ParsOk g Ps vs bs ∧ (∀ b ∈ bs, ∃ h ∈ hs, g.own b = h.2.2 + 1)
  | [], [], [], _ => ⟨[], trivial, fun b h => by cases h⟩
  | .val q :: Ps, v :: vs, hs, ⟨h1, h2⟩ => by
    obtain ⟨bs, e1, e2⟩ := valB_pars h2
    exact ⟨bs, ⟨h1, e1⟩, e2⟩
  | .box k x0 x1 :: Ps, v :: vs, h :: hs, ⟨h1, ⟨c, b, cs, t, hv, hm, _⟩, h3, h4⟩ => by
    obtain ⟨bs, e1, e2⟩ := valB_pars h4
    refine ⟨b :: bs, ⟨hv, ⟨hm.1, ⟨cs, t, hm.2.2.2.1, hm.2.2.2.2.1⟩, hm.2.2.2.2.2⟩, fun hb => ?_, e1⟩, fun b' hb' => ?_⟩
    · obtain ⟨h', hh', ho⟩ := e2 b hb
      have := h3 h' hh'
      rw [hm.2.1] at ho; omega
    · rcases List.mem_cons.1 hb' with rfl | hb'
      · exact ⟨h, by simp, hm.2.1⟩
      · obtain ⟨h', hh', ho⟩ := e2 b' hb'
        exact ⟨h', by simp [hh'], ho⟩
  | [], v :: vs, _, h => by cases h
  | [], [], b :: bs, h => by cases h
  | .val q :: Ps, [], _, h => by cases h
  | .box k x0 x1 :: Ps, [], _, h => by cases h
  | .box k x0 x1 :: Ps, v :: vs, [], h => by cases h
theorem valB_post {a a' : Act} {g g2 : G} (hown : ∀ c, c < g.w.heap.size → g2.own c = g.own c) (hnew : ∀ c, g.w.heap.size ≤ c → g2.own c = 0) (hsz : g.w.heap.size ≤ g2.w.heap.size) :
    ∀ {Ps : List Par} {vs : List Value} {hs : List Home} {bs : List Nat}, (∀ h ∈ hs, Act.at a' h.1 = Act.at a h.1) → ValB a g Ps vs hs → ParsOk g Ps vs bs → ParsPost g2 Ps bs → ∀ e ∈ outsB Ps hs, e.2.p g2 (Act.at a' e.1)
  | [], [], [], [], _, _, _, _, e, he => by cases he
  | .val q :: Ps, v :: vs, hs, bs, ha, h, ho, hp, e, he => valB_post hown hnew hsz ha h.2 ho.2 hp e he
  | .box k x0 x1 :: Ps, v :: vs, h :: hs, b :: bs, ha, ⟨h1, ⟨c, b2, cs, t, hv, hm, _⟩, h3, h4⟩, ⟨hv2, _, _, ho⟩, ⟨⟨p1, ⟨cs', t', p2, p3⟩, p4⟩, hp⟩, e, he => by
    rcases List.mem_cons.1 he with rfl | he
    · obtain ⟨b3, cs3, t3, hv3, hm3, hc3⟩ := h1
      obtain rfl : b2 = b3 := hm3.2.2.1 b2 hm.1 hm.2.1
      have hbb : b2 = b := by
        rw [hv] at hv2
        simp only [ptrTo, Value.pointer.injEq, Option.some.injEq, Addr.mk.injEq] at hv2
        exact hv2.1
      subst hbb
      show (pBoxC h.2.1 k h.2.2 x1).p g2 (Act.at a' h.1)
      rw [ha h (by simp)]
      refine ⟨b2, cs', t', hv3, ⟨p1, by rw [hown b2 hm.1]; exact hm.2.1, fun b' hb' ho' => ?_, p2, p3, p4⟩, hc3⟩
      rcases Nat.lt_or_ge b' g.w.heap.size with hl | hl
      · rw [hown b' hl] at ho'; exact hm.2.2.1 b' hl ho'
      · rw [hnew b' hl] at ho'; omega
    · exact valB_post hown hnew hsz (fun h' hh' => ha h' (by simp [hh'])) h4 ho hp e he
  | [], v :: vs, _, _, _, h, _, _, _, _ => by cases h
  | [], [], b :: bs, _, _, h, _, _, _, _ => by cases h
  | [], [], [], b :: bs, _, _, h, _, _, _ => by cases h
  | .val q :: Ps, [], _, _, _, h, _, _, _, _ => by cases h
  | .box k x0 x1 :: Ps, [], _, _, _, h, _, _, _, _ => by cases h
  | .box k x0 x1 :: Ps, v :: vs, [], _, _, h, _, _, _, _ => by cases h
  | .box k x0 x1 :: Ps, v :: vs, h :: hs, [], _, _, h', _, _, _ => by cases h'
theorem callB_core2 {hs : List Home} {outs : Slots} (hq : q.fp = []) (hd : o.dst = some d) (hne : ∀ h ∈ hs, h.1 ≠ d)
    (hr : ∀ (a : Act) g, Holds uses a g → ∃ (f : FuncId) (Ps : List Par) (vs : List Value), FnB P f Ps q ∧ outs = outsB Ps hs ∧ (execOp a.eval o).run P g.w = .ok (.enter f vs.toArray) g.w ∧ ValB a g Ps vs hs) : OB P N o uses ((d, q) :: outs) (SB hs) := by
  intro a g K Q hN hdN hu hK
  obtain ⟨f, Ps, vs, hok, rfl, hr, hv⟩ := hr a g hu
  obtain ⟨bs, ho, hbs⟩ := valB_pars hv
  unfold Oper.wp
  rw [hr]
  show Calls P f _ g.w _
  refine Calls.mono (hok g vs bs ho) ?_
  rintro e w' ⟨g', u, rfl, rfl, hS, hpost, hqu⟩
  let g2 : G := ⟨g'.w, g'.pr, fun c => if c < g.w.heap.size then g.own c else 0, g'.hpr, g'.gl⟩
  have hle : g'.le g2 := ⟨Nat.le_refl _, fun _ _ h => h, fun _ _ _ => rfl⟩
  have hown : ∀ c, g2.own c = if c < g.w.heap.size then g.own c else 0 := fun _ => rfl
  have hpost2 : ∀ {Ps : List Par} {bs : List Nat}, ParsPost g' Ps bs → ParsPost g2 Ps bs := by
    intro Ps
    induction Ps with
    | nil => intro bs _; cases bs <;> trivial
    | cons p Ps ih =>
      intro bs h
      cases p with
      | val q => exact ih (show ParsPost g' Ps bs from h)
      | box k x0 x1 => cases bs with
        | nil => trivial
        | cons b bs =>
          obtain ⟨⟨p1, ⟨cs, t, p2, p3⟩, p4⟩, h⟩ := h
          exact ⟨⟨p1, ⟨cs, t, p2, k.mono hle p3⟩, p4⟩, ih h⟩
  refine hK u g2 ⟨⟨hS.le.size, hS.le.pr, hS.le.cell⟩, hS.os, hS.tape, hS.output, fun c hc hn => ?_, fun c k1 k2 => .inl ?_, fun c hc hn => .inr ?_⟩ fun e he => ?_
  · have hc1 : c ∉ bs := fun hb => by
      obtain ⟨h, hh, ho'⟩ := hbs c hb
      exact hn (by rw [ho']; exact List.mem_map.2 ⟨h, hh, rfl⟩)
    obtain ⟨k1, k2⟩ := hS.same c hc hc1
    exact ⟨k1, k2, by rw [hown, if_pos hc]⟩
  · rw [hown, if_neg (by omega)]
  · rw [hown, if_pos hc]; exact hn
  · rcases List.mem_cons.1 he with rfl | he
    · rw [hd, at_put_same u (by rw [hN]; exact hdN d hd)]
      exact Pd.le hq hle rfl rfl rfl hqu
    · exact valB_post (g := g) (g2 := g2) (fun c hc => by rw [hown, if_pos hc]) (fun c hc => by rw [hown, if_neg (by omega)]) hS.le.size (fun h hh => at_put_ne u (by rw [hd]; intro e; exact hne h hh (Option.some.inj e).symm)) hv ho (hpost2 hpost) e he
theorem callB_core {f : FuncId} {Ps : List Par} {hs : List Home} (hok : FnB P f Ps q) (hq : q.fp = []) (hd : o.dst = some d) (hne : ∀ h ∈ hs, h.1 ≠ d)
    (hr : ∀ (a : Act) g, Holds uses a g → ∃ vs : List Value, (execOp a.eval o).run P g.w = .ok (.enter f vs.toArray) g.w ∧ ValB a g Ps vs hs) : OB P N o uses ((d, q) :: outsB Ps hs) (SB hs) :=
  callB_core2 hq hd hne fun a g hu => let ⟨vs, h1, h2⟩ := hr a g hu; ⟨f, Ps, vs, hok, rfl, h1, h2⟩
/-- Operands for parameters. -/
inductive OpB (uses : Slots) : List Par → List Operand → List Home → Prop
  | nil : OpB uses [] [] []
  | val {q : Pd} {Ps : List Par} {x : Operand} {xs : List Operand} {hs : List Home} : Opd uses x q → OpB uses Ps xs hs → OpB uses (.val q :: Ps) (x :: xs) hs
  | box {α : Type} {k : Kd α} {x0 x1 : α} {Ps : List Par} {x : Operand} {xs : List Operand} {s j : Nat} {c c' : Option Nat} {hs : List Home} : Opd uses (.tmp s) (pBoxC c k j x0) → Opd uses x (pBoxC c' k j x0) → (hs.all fun e => e.2.2 != j) = true → OpB uses Ps xs hs → OpB uses (.box k x0 x1 :: Ps) (x :: xs) ((s, c, j) :: hs)
theorem OpB.ok {Ps : List Par} {xs : List Operand} {hs : List Home} (h : OpB uses Ps xs hs) {a : Act} {g : G} (hu : Holds uses a g) : ValB a g Ps (xs.map a.eval) hs := by
  induction h with
  | nil => trivial
  | val h _ ih => exact ⟨h a g hu, ih⟩
  | box h1 h2 h3 _ ih => exact ⟨h1 a g hu, ⟨_, h2 a g hu⟩, fun e he => by simpa using List.all_eq_true.1 h3 e he, ih⟩
theorem ob_callB {f : FuncId} {Ps : List Par} {xs : List Operand} {hs : List Home} {ty : Array TypeId} (he : Enters P f) (hok : FnB P f Ps q) (hop : o.op = .call { callee := .value (.func f), args := xs.toArray, argTypes := ty }) (hd : o.dst = some d) (hq : q.fp = []) (hne : (hs.all fun h => h.1 != d) = true) (hx : OpB uses Ps xs hs) :
    OB P N o uses ((d, q) :: outsB Ps hs) (SB hs) :=
  callB_core hok hq hd (fun h hh => by simpa using List.all_eq_true.1 hne h hh) fun a g hu => ⟨xs.map a.eval, by simp [execOp, hop, resolve, eval_fn, Deferred.ofValue, invoke, enter_run he], hx.ok hu⟩

/-! ### function values with boxes -/
theorem valB_app {a : Act} {g : G} : ∀ {Ps Qs : List Par} {vs us : List Value} {hs ks : List Home}, ValB a g Ps vs hs → ValB a g Qs us ks → (∀ h ∈ hs, ∀ k ∈ ks, k.2.2 ≠ h.2.2) → ValB a g (Ps ++ Qs) (vs ++ us) (hs ++ ks)
  | [], Qs, [], us, [], ks, _, h, _ => h
  | .val q :: Ps, Qs, v :: vs, us, hs, ks, h1, h2, h3 => ⟨h1.1, valB_app h1.2 h2 h3⟩
  | .box k x0 x1 :: Ps, Qs, v :: vs, us, h :: hs, ks, ⟨a1, a2, a3, a4⟩, h2, h3 => ⟨a1, a2, fun e he => by
      rcases List.mem_append.1 he with he | he
      · exact a3 e he
      · exact h3 h (by simp) e he, valB_app a4 h2 (fun h' hh' => h3 h' (by simp [hh']))⟩
  | [], _, v :: vs, _, _, _, h, _, _ => by cases h
  | [], _, [], _, b :: bs, _, h, _, _ => by cases h
  | .val q :: Ps, _, [], _, _, _, h, _, _ => by cases h
  | .box k x0 x1 :: Ps, _, [], _, _, _, h, _, _ => by cases h
  | .box k x0 x1 :: Ps, _, v :: vs, _, [], _, h, _, _ => by cases h
theorem valB_vals {a : Act} {g : G} : ∀ {C : List Pd} {vs : List Value}, ArgsOk C g vs → ValB a g (C.map .val) vs []
  | [], [], _ => trivial
  | q :: C, v :: vs, h => ⟨h.2 0 q v rfl rfl, valB_vals ⟨by simpa using h.1, fun i qi u h1 h2 => h.2 (i + 1) qi u (by simpa using h1) (by simpa using h2)⟩⟩
  | [], v :: vs, h => by simpa using h.1
  | q :: C, [], h => by simpa using h.1
/-- A function's value that writes so, whatever it has caught being fixed. -/
def FnBV (P : Program) (fv : Value) (Ps : List Par) (q : Pd) : Prop := ∃ (f : FuncId) (C : List Pd) (caps : List Value), fv = .func (.func f) #[] caps.toArray ∧ Enters P f ∧ FnB P f (Ps ++ C.map .val) q ∧ ∀ g, ArgsOk C g caps
theorem outsB_app : ∀ {Ps : List Par} {C : List Pd} {hs : List Home}, outsB (Ps ++ C.map .val) hs = outsB Ps hs
  | [], [], hs => rfl
  | [], q :: C, hs => by show outsB (C.map .val) hs = _; rw [show C.map Par.val = [] ++ C.map .val from rfl, outsB_app]
  | .val q :: Ps, C, hs => by show outsB (Ps ++ C.map .val) hs = outsB Ps hs; exact outsB_app
  | .box k x0 x1 :: Ps, C, [] => rfl
  | .box k x0 x1 :: Ps, C, h :: hs => by show _ :: outsB (Ps ++ C.map .val) hs = _ :: outsB Ps hs; rw [outsB_app]
theorem ob_callBV {fv : Value} {Ps : List Par} {xs : List Operand} {hs : List Home} {ty : Array TypeId} (hok : FnBV P fv Ps q) (hop : o.op = .call { callee := .value x, args := xs.toArray, argTypes := ty }) (hd : o.dst = some d) (hq : q.fp = []) (hne : (hs.all fun h => h.1 != d) = true) (hf : Opd uses x (pEq fv)) (hx : OpB uses Ps xs hs) :
    OB P N o uses ((d, q) :: outsB Ps hs) (SB hs) := by
  obtain ⟨f, C, caps, rfl, he, hok, hcaps⟩ := hok
  rw [← outsB_app (C := C)]
  refine callB_core hok hq hd (fun h hh => by simpa using List.all_eq_true.1 hne h hh) fun a g hu => ⟨xs.map a.eval ++ caps, ?_, ?_⟩
  · have hv : a.eval x = .func (.func f) #[] caps.toArray := hf a g hu
    simp [execOp, hop, resolve, hv, Deferred.ofValue, invoke, enter_run he]
  · have := valB_app (hx.ok hu) (valB_vals (a := a) (hcaps g)) (fun h _ k hk => by cases hk)
    rwa [List.append_nil] at this
/-- A function's value that has caught boxes. -/
def pCloB (f : FuncId) (C : List Pd) : Pd := ⟨fun g v => ∃ caps : List Value, v = .func (.func f) #[] caps.toArray ∧ ArgsOk C g caps, C.flatMap (·.fp), fun s hd ⟨caps, e, h⟩ => ⟨caps, e, h.1, fun i qi u hq hu => qi.st s (fun j hj => hd j (List.mem_flatMap.2 ⟨qi, List.mem_of_getElem? hq, hj⟩)) (h.2 i qi u hq hu)⟩⟩
theorem ob_makeFuncB {f : FuncId} {C : List Pd} {xs : List Operand} (hop : o.op = .makeFunc (.func f) #[] xs.toArray) (hd : o.dst = some d) (hx : OpdL uses xs C) : OB P N o uses [(d, pCloB f C)] [] :=
  ob_val hd fun a g hh => ⟨.func (.func f) #[] (xs.map a.eval).toArray, by simp [execOp, hop, Instr.makeFunc], xs.map a.eval, rfl, hx.ok hh⟩
/-- What was caught, for parameters. -/
inductive CapB (uses : Slots) : List Pd → List Par → List Home → Prop
  | nil : CapB uses [] [] []
  | val {q : Pd} {C : List Pd} {Ps : List Par} {hs : List Home} : CapB uses C Ps hs → CapB uses (q :: C) (.val q :: Ps) hs
  | box {α : Type} {k : Kd α} {x0 x1 : α} {C : List Pd} {Ps : List Par} {s j : Nat} {c c' : Option Nat} {hs : List Home} : Opd uses (.tmp s) (pBoxC c k j x0) → (hs.all fun e => e.2.2 != j) = true → CapB uses C Ps hs → CapB uses (pBoxC c' k j x0 :: C) (.box k x0 x1 :: Ps) ((s, c, j) :: hs)
theorem CapB.ok {C : List Pd} {Ps : List Par} {hs : List Home} (h : CapB uses C Ps hs) {a : Act} {g : G} (hu : Holds uses a g) : ∀ {vs : List Value}, ArgsOk C g vs → ValB a g Ps vs hs := by
  induction h with
  | nil => intro vs h; cases vs with
    | nil => trivial
    | cons v vs => simpa using h.1
  | @val q C Ps hs _ ih => intro vs h; cases vs with
    | nil => simpa using h.1
    | cons v vs => exact ⟨h.2 0 q v rfl rfl, ih ⟨by simpa using h.1, fun i qi u h1 h2 => h.2 (i + 1) qi u (by simpa using h1) (by simpa using h2)⟩⟩
  | @box α k x0 x1 C Ps s j c c' hs h1 h2 _ ih => intro vs h; cases vs with
    | nil => simpa using h.1
    | cons v vs => exact ⟨h1 a g hu, ⟨c', h.2 0 _ v rfl rfl⟩, fun e he => by simpa using List.all_eq_true.1 h2 e he, ih ⟨by simpa using h.1, fun i qi u h1 h2 => h.2 (i + 1) qi u (by simpa using h1) (by simpa using h2)⟩⟩
theorem ob_callCB {f : FuncId} {C : List Pd} {Ps Qs : List Par} {xs : List Operand} {hs ks : List Home} {ty : Array TypeId} (he : Enters P f) (hok : FnB P f (Ps ++ Qs) q) (hop : o.op = .call { callee := .value x, args := xs.toArray, argTypes := ty }) (hd : o.dst = some d) (hq : q.fp = []) (hne : ((hs ++ ks).all fun h => h.1 != d) = true)
    (hj : (hs.all fun h => ks.all fun k => k.2.2 != h.2.2) = true) (hf : Opd uses x (pCloB f C)) (hx : OpB uses Ps xs hs) (hc : CapB uses C Qs ks) : OB P N o uses ((d, q) :: outsB (Ps ++ Qs) (hs ++ ks)) (SB (hs ++ ks)) := by
  refine callB_core hok hq hd (fun h hh => by simpa using List.all_eq_true.1 hne h hh) fun a g hu => ?_
  obtain ⟨caps, hv, hcap⟩ := hf a g hu
  refine ⟨xs.map a.eval ++ caps, by simp [execOp, hop, resolve, hv, Deferred.ofValue, invoke, enter_run he], valB_app (hx.ok hu) (hc.ok hu hcap) fun h hh k hk => ?_⟩
  simpa using List.all_eq_true.1 (List.all_eq_true.1 hj h hh) k hk
end
end Go.CL

/- Slices of the call's own, that are written into. -/
set_option linter.unusedVariables false
set_option linter.unusedSimpArgs false
namespace Go.CL
open Go Go.RowKit

section
variable {P : Program} {N : Nat} {o : Oper} {uses : Slots} {d : Nat} {q : Pd} {x y z : Operand} {α : Type} {dk : Kd α} {t e : TypeId} {bytes j : Nat} {c : Option Nat}

/-- A block of mine, whose first entries are told (none: anything). -/
structure OwnAt (dk : Kd α) (e : TypeId) (j : Nat) (fs : List (Option α)) (g : G) (b cap : Nat) (cur : Array Value) : Prop where
  lt : b < g.w.heap.size
  own : g.own b = j
  uniq : ∀ b', b' < g.w.heap.size → g.own b' = j → b' = b
  heap : g.w.heap[b]? = some (.cells cur e (0, 0))
  len : fs.length ≤ cap
  max : cap ≤ maxLen
  sz : cur.size = cap * dk.sz
  known : ∀ i x, fs[i]? = some (some x) → dk.K g x (seg cur.toList (i * dk.sz) dk.sz)
  npr : ∀ o, ¬ g.pr b o
theorem own_uniq {g g' : G} {S : List Nat} {b : Nat} (hs : Step S g g') (hj : j ∉ S) (hj0 : j ≠ 0) (h : ∀ b', b' < g.w.heap.size → g.own b' = j → b' = b) : ∀ b', b' < g'.w.heap.size → g'.own b' = j → b' = b := fun b' hb' ho => by
  rcases Nat.lt_or_ge b' g.w.heap.size with hlt | hge
  · by_cases hS : g.own b' ∈ S
    · rcases hs.old b' hlt hS with h | h
      · rw [ho] at h; exact absurd h hj0
      · rw [ho] at h; exact absurd h hj
    · exact h b' hlt ((hs.same b' hlt hS).2.2.symm.trans ho)
  · rcases hs.new b' hge hb' with h | h
    · rw [ho] at h; exact absurd h hj0
    · rw [ho] at h; exact absurd h hj
theorem OwnAt.st {fs : List (Option α)} {g g' : G} {S : List Nat} {b cap : Nat} {cur : Array Value} (hs : Step S g g') (hj : j ∉ S) (hj0 : j ≠ 0) (h : OwnAt dk e j fs g b cap cur) : OwnAt dk e j fs g' b cap cur := by
  obtain ⟨k1, k2, k3⟩ := hs.same b h.lt (by rw [h.own]; exact hj)
  exact ⟨Nat.lt_of_lt_of_le h.lt hs.le.size, k3.trans h.own, own_uniq hs hj hj0 h.uniq, k1.trans h.heap, h.len, h.max, h.sz, fun i x hx => dk.mono hs.le (h.known i x hx), fun o => by rw [k2]; exact h.npr o⟩
/-- A slice of it: all of it. -/
def pOwn (dk : Kd α) (e : TypeId) (j : Nat) (c : Option Nat) (fs : List (Option α)) : Pd := ⟨fun g u => ∃ b cap cur, u = .slice (some ⟨b, 0, none⟩) fs.length cap ∧ OwnAt dk e (j + 1) fs g b cap cur ∧ ∀ k, c = some k → cap = k, [j + 1], fun s hd ⟨b, cap, cur, e, h, hc⟩ => ⟨b, cap, cur, e, h.st s (hd _ (by simp)) (by omega), hc⟩⟩
/-- .. a part of it: 'len' entries from 'off' on. -/
def pView (dk : Kd α) (e : TypeId) (j off len : Nat) : Pd := ⟨fun g u => ∃ b cap cur, u = .slice (some (if cap = off then ⟨b, 0, none⟩ else ⟨b, off * dk.sz, none⟩)) len (cap - off) ∧ OwnAt dk e (j + 1) [] g b cap cur ∧ off + len ≤ cap, [j + 1], fun s hd ⟨b, cap, cur, e, h, hc⟩ => ⟨b, cap, cur, e, h.st s (hd _ (by simp)) (by omega), hc⟩⟩
theorem OwnAt.nil {fs : List (Option α)} {g : G} {b cap : Nat} {cur : Array Value} (h : OwnAt dk e j fs g b cap cur) : OwnAt dk e j [] g b cap cur := ⟨h.lt, h.own, h.uniq, h.heap, Nat.zero_le _, h.max, h.sz, fun i x hx => by simp at hx, h.npr⟩
theorem OwnAt.same {fs : List (Option α)} {fs' : List (Option α)} {g : G} {b b' cap cap' : Nat} {cur cur' : Array Value} (h : OwnAt dk e j fs g b cap cur) (k : OwnAt dk e j fs' g b' cap' cur') (h0 : 0 < dk.sz) : b' = b ∧ cur' = cur ∧ cap' = cap := by
  obtain rfl := h.uniq b' k.lt k.own
  have := k.heap
  rw [h.heap] at this
  injection this with this
  injection this with this
  subst this
  exact ⟨rfl, rfl, Nat.eq_of_mul_eq_mul_right h0 (k.sz.symm.trans h.sz)⟩
theorem ob_lenO {fs : List (Option α)} {t : TypeId} (ht : P.underlying t = some (.slice e)) (hop : o.op = .call { callee := .builtin .len, args := #[x], argTypes := #[t] }) (hd : o.dst = some d) (hx : Opd uses x (pOwn dk e j c fs)) : OB P N o uses [(d, pInt .i64 (fs.length : Int))] [] :=
  ob_val hd fun a g hh => by
    obtain ⟨b, cap, cur, hv, _⟩ := hx a g hh
    exact ⟨.int .i64 fs.length, by simp [execOp, hop, resolve, invoke, builtin, hv, Builtin.len_, run_underlying ht, goInt], int_q _ _ g⟩
theorem ob_capO {fs : List (Option α)} {t : TypeId} {k : Nat} (ht : P.underlying t = some (.slice e)) (hop : o.op = .call { callee := .builtin .cap, args := #[x], argTypes := #[t] }) (hd : o.dst = some d) (hx : Opd uses x (pOwn dk e j (some k) fs)) : OB P N o uses [(d, pInt .i64 (k : Int))] [] :=
  ob_val hd fun a g hh => by
    obtain ⟨b, cap, cur, hv, _, hc⟩ := hx a g hh
    obtain rfl := hc k rfl
    exact ⟨.int .i64 cap, by simp [execOp, hop, resolve, invoke, builtin, hv, Builtin.cap_, run_underlying ht, goInt], int_q _ _ g⟩
theorem run_bound {x : Value} {i n : Nat} {cd : BoundsCode} {w : World} (hx : x = .int .i64 i) (h : i ≤ n) : (Instr.sliceBound x n cd).run P w = .ok i w := by
  subst hx
  simp [Instr.sliceBound, asIntOf, h]
theorem ob_sliceLow {fs : List (Option α)} {l : Nat} (hT : TE P t e dk bytes) (hl : l ≤ fs.length) (hop : o.op = .slice t x (some y) none none) (hd : o.dst = some d) (hx : Opd uses x (pOwn dk e j c fs)) (hy : Opd uses y (pInt .i64 (l : Int))) : OB P N o uses [(d, pView dk e j l (fs.length - l))] [] :=
  ob_val hd fun a g hh => by
    obtain ⟨b, cap, cur, hv, hO, hc⟩ := hx a g hh
    have hy' := pInt_iff.1 (hy a g hh)
    obtain ⟨i, zz, hi, hz, hsz, hby, hzs⟩ := hT.info
    have hb : ∀ w cd, (Instr.sliceBound (a.eval y) fs.length cd).run P w = .ok l w := fun w cd => run_bound hy' hl
    have hlen := hO.len
    refine ⟨_, ?_, b, cap, cur, rfl, hO.nil, by omega⟩
    simp [execOp, hop, hv, Instr.sliceAt, Instr.slice, Instr.sliceBounds, run_underlying hT.und, hb, sizeOf, typeInfo, hi, hsz, add_none]
    try (split <;> simp_all [add_none])
theorem ob_sliceHigh {fs : List (Option α)} {h : Nat} (hT : TE P t e dk bytes) (hl : h ≤ fs.length) (hop : o.op = .slice t x none (some y) none) (hd : o.dst = some d) (hx : Opd uses x (pOwn dk e j c fs)) (hy : Opd uses y (pInt .i64 (h : Int))) : OB P N o uses [(d, pView dk e j 0 h)] [] :=
  ob_val hd fun a g hh => by
    obtain ⟨b, cap, cur, hv, hO, hc⟩ := hx a g hh
    have hy' := pInt_iff.1 (hy a g hh)
    obtain ⟨i, zz, hi, hz, hsz, hby, hzs⟩ := hT.info
    have hlen := hO.len
    have hb : ∀ w cd, (Instr.sliceBound (a.eval y) cap cd).run P w = .ok h w := fun w cd => run_bound hy' (by omega)
    refine ⟨_, ?_, b, cap, cur, rfl, hO.nil, by omega⟩
    simp [execOp, hop, hv, Instr.sliceAt, Instr.slice, Instr.sliceBounds, run_underlying hT.und, hb, sizeOf, typeInfo, hi, hsz, add_none]
    try (split <;> simp_all [add_none])
/-- .. longer. -/
theorem ob_sliceExt {fs : List (Option α)} {h k : Nat} (hT : TE P t e dk bytes) (hl : fs.length ≤ h) (hk : h ≤ k) (hop : o.op = .slice t x none (some y) none) (hd : o.dst = some d) (hx : Opd uses x (pOwn dk e j (some k) fs)) (hy : Opd uses y (pInt .i64 (h : Int))) : OB P N o uses [(d, pOwn dk e j (some k) (fs ++ List.replicate (h - fs.length) none))] [] :=
  ob_val hd fun a g hh => by
    obtain ⟨b, cap, cur, hv, hO, hc⟩ := hx a g hh
    obtain rfl := hc k rfl
    have hy' := pInt_iff.1 (hy a g hh)
    obtain ⟨i, zz, hi, hz, hsz, hby, hzs⟩ := hT.info
    have hb : ∀ w cd, (Instr.sliceBound (a.eval y) cap cd).run P w = .ok h w := fun w cd => run_bound hy' hk
    have hlen : (fs ++ List.replicate (h - fs.length) none).length = h := by simp; omega
    refine ⟨_, ?_, b, cap, cur, rfl, ⟨hO.lt, hO.own, hO.uniq, hO.heap, by rw [hlen]; exact hk, hO.max, hO.sz, fun i x hx => ?_, hO.npr⟩, hc⟩
    · rw [hlen]
      simp [execOp, hop, hv, Instr.sliceAt, Instr.slice, Instr.sliceBounds, run_underlying hT.und, hb, sizeOf, typeInfo, hi, hsz, add_none]
      try (split <;> simp_all [add_none])
    · rw [List.getElem?_append] at hx
      split at hx
      · exact hO.known i x hx
      · rw [List.getElem?_replicate] at hx
        split at hx <;> simp at hx
/-- Of three bounds, only looked at. -/
theorem ob_slice3 {fs : List (Option α)} {l h m : Nat} {y1 y2 y3 : Operand} (hT : TE P t e dk bytes) (h1 : l ≤ h) (h2 : h ≤ m) (h3 : m ≤ fs.length) (hop : o.op = .slice t x (some y1) (some y2) (some y3)) (hx : Opd uses x (pOwn dk e j c fs)) (hy1 : Opd uses y1 (pInt .i64 (l : Int))) (hy2 : Opd uses y2 (pInt .i64 (h : Int))) (hy3 : Opd uses y3 (pInt .i64 (m : Int))) : OB P N o uses [] [] := by
  intro a g K Q hN hdN hu hK
  obtain ⟨b, cap, cur, hv, hO, hc⟩ := hx a g hu
  obtain ⟨i, zz, hi, hz, hsz, hby, hzs⟩ := hT.info
  have hlen := hO.len
  have hb1 : ∀ w cd, (Instr.sliceBound (a.eval y1) h cd).run P w = .ok l w := fun w cd => run_bound (pInt_iff.1 (hy1 a g hu)) h1
  have hb2 : ∀ w cd, (Instr.sliceBound (a.eval y2) m cd).run P w = .ok h w := fun w cd => run_bound (pInt_iff.1 (hy2 a g hu)) h2
  have hb3 : ∀ w cd, (Instr.sliceBound (a.eval y3) cap cd).run P w = .ok m w := fun w cd => run_bound (pInt_iff.1 (hy3 a g hu)) (by omega)
  have hr : ∃ v, (execOp a.eval o).run P g.w = .ok (.value v) g.w := by
    simp [execOp, hop, hv, Instr.sliceAt, Instr.slice, Instr.sliceBounds, run_underlying hT.und, hb1, hb2, hb3, sizeOf, typeInfo, hi]
  obtain ⟨v, hr⟩ := hr
  unfold Oper.wp
  rw [hr]
  exact hK v g (.refl _ _) (fun e he => by cases he)
/-- From l to h, beyond what is told, too. -/
theorem ob_slice2 {fs : List (Option α)} {l h k : Nat} {y1 y2 : Operand} (hT : TE P t e dk bytes) (h1 : l ≤ h) (h2 : h ≤ k) (hop : o.op = .slice t x (some y1) (some y2) none) (hd : o.dst = some d) (hx : Opd uses x (pOwn dk e j (some k) fs)) (hy1 : Opd uses y1 (pInt .i64 (l : Int))) (hy2 : Opd uses y2 (pInt .i64 (h : Int))) : OB P N o uses [(d, pView dk e j l (h - l))] [] :=
  ob_val hd fun a g hh => by
    obtain ⟨b, cap, cur, hv, hO, hc⟩ := hx a g hh
    obtain rfl := hc k rfl
    obtain ⟨i, zz, hi, hz, hsz, hby, hzs⟩ := hT.info
    have hb1 : ∀ w cd, (Instr.sliceBound (a.eval y1) h cd).run P w = .ok l w := fun w cd => run_bound (pInt_iff.1 (hy1 a g hh)) h1
    have hb2 : ∀ w cd, (Instr.sliceBound (a.eval y2) cap cd).run P w = .ok h w := fun w cd => run_bound (pInt_iff.1 (hy2 a g hh)) h2
    refine ⟨_, ?_, b, cap, cur, rfl, hO.nil, by omega⟩
    simp [execOp, hop, hv, Instr.sliceAt, Instr.slice, Instr.sliceBounds, run_underlying hT.und, hb1, hb2, sizeOf, typeInfo, hi, hsz, add_none]
    try (split <;> simp_all [add_none])

/-! ### writing -/
theorem seg_in {i n sz : Nat} (h : i < n) : i * sz + sz ≤ n * sz := by
  have : (i + 1) * sz ≤ n * sz := Nat.mul_le_mul_right _ h
  rw [Nat.add_mul] at this; omega
/-- Entries written over others. -/
def over (fs : List (Option α)) (off : Nat) (ws : List α) : List (Option α) := fs.take off ++ ws.map some ++ fs.drop (off + ws.length)
theorem over_len {fs : List (Option α)} {off : Nat} {ws : List α} (h : off + ws.length ≤ fs.length) : (over fs off ws).length = fs.length := by simp [over]; omega
theorem over_get {fs : List (Option α)} {off : Nat} {ws : List α} (h : off + ws.length ≤ fs.length) (i : Nat) : (over fs off ws)[i]? = if i < off then fs[i]? else if i < off + ws.length then (ws[i - off]?).map some else fs[i]? := by
  unfold over
  rw [List.append_assoc, List.getElem?_append]
  have h1 : (fs.take off).length = off := by simp; omega
  rw [h1]
  by_cases hi : i < off
  · rw [if_pos hi, if_pos hi, List.getElem?_take, if_pos hi]
  · rw [if_neg hi, if_neg hi, List.getElem?_append, List.length_map]
    by_cases h2 : i < off + ws.length
    · rw [if_pos h2, if_pos (by omega), List.getElem?_map]
    · rw [if_neg h2, if_neg (by omega), List.getElem?_drop]
      congr 1; omega
theorem over_known {g g' : G} (hle : g.le g') {fs : List (Option α)} {off cap : Nat} {ws : List α} {cur news : List Value} (hl : news.length = ws.length * dk.sz) (hc : cur.length = cap * dk.sz) (hfit : off + ws.length ≤ fs.length) (hcap : fs.length ≤ cap)
    (hk : ∀ i x, fs[i]? = some (some x) → dk.K g x (seg cur (i * dk.sz) dk.sz)) (hn : ∀ i x, ws[i]? = some x → dk.K g x (seg news (i * dk.sz) dk.sz)) :
    ∀ i x, (over fs off ws)[i]? = some (some x) → dk.K g' x (seg (splice cur (off * dk.sz) news) (i * dk.sz) dk.sz) := by
  intro i x hx
  have hfit' : off * dk.sz + news.length ≤ cur.length := by rw [hl, hc, ← Nat.add_mul]; exact Nat.mul_le_mul_right _ (by omega)
  rw [over_get hfit] at hx
  split at hx
  · rename_i h1
    rw [seg_splice_ne hfit' (.inl (seg_in h1))]
    exact dk.mono hle (hk i x hx)
  · rename_i h1
    split at hx
    · rename_i h2
      obtain ⟨y, hy, hxy⟩ := Option.map_eq_some_iff.1 hx
      obtain rfl := Option.some.inj hxy
      have e : seg (splice cur (off * dk.sz) news) (i * dk.sz) dk.sz = seg news ((i - off) * dk.sz) dk.sz := by
        have hto : (cur.take (off * dk.sz)).length = off * dk.sz := by simp; omega
        unfold splice
        rw [List.append_assoc, show i * dk.sz = (cur.take (off * dk.sz)).length + (i - off) * dk.sz by rw [hto, ← Nat.add_mul]; congr 1; omega, seg_append_right, seg_append_left (by rw [hl]; exact seg_in (by omega))]
      rw [e]; exact dk.mono hle (hn _ _ hy)
    · rename_i h2
      rw [seg_splice_ne hfit' (.inr (by rw [hl, ← Nat.add_mul]; exact Nat.mul_le_mul_right _ (by omega)))]
      exact dk.mono hle (hk i x hx)
/-- The ghost world behind what is written into a block of mine. -/
theorem own_wr {fs : List (Option α)} {g : G} {b cap : Nat} {cur : Array Value} (h : OwnAt dk e j fs g b cap cur) {off : Nat} {ws : List α} {news : List Value} (hl : news.length = ws.length * dk.sz) (hfit : off + ws.length ≤ fs.length) (hn : ∀ i x, ws[i]? = some x → dk.K g x (seg news (i * dk.sz) dk.sz)) :
    ∃ g' : G, g'.w = g.w.setRow b (splice cur.toList (off * dk.sz) news).toArray ∧ Step [j] g g' ∧ OwnAt dk e j (over fs off ws) g' b cap (splice cur.toList (off * dk.sz) news).toArray := by
  have hst : Step [j] g (g.wr b (splice cur.toList (off * dk.sz) news).toArray h.lt h.npr (fun _ => False) j) := wr_step h.own (.inr rfl) h.npr
  have hcl : cur.toList.length = cap * dk.sz := by simpa using h.sz
  have hlen := h.len
  refine ⟨_, rfl, hst, ⟨by rw [wr_w, setRow_size]; exact h.lt, by simp [G.wr], fun b' hb' ho => ?_, by rw [wr_w]; exact setRow_heap _ _ _ _ _ _ h.heap, by rw [over_len hfit]; exact h.len, h.max, ?_, ?_, fun o => by simp [G.wr]⟩⟩
  · rw [wr_w, setRow_size] at hb'
    simp only [G.wr] at ho
    split at ho
    · assumption
    · exact h.uniq b' hb' ho
  · rw [List.size_toArray, splice_length (by rw [hl, hcl, ← Nat.add_mul]; exact Nat.mul_le_mul_right _ (by omega))]; exact hcl
  · exact over_known hst.le hl hcl hfit h.len h.known hn
/-- 'copy' into a part of mine. -/
theorem run_copy_own {g : G} {b off len cap : Nat} {fs : List (Option α)} {cur : Array Value} (hT : TE P t e dk bytes) (h : OwnAt dk e j fs g b cap cur) (hoff : off + len ≤ fs.length) {A : Option Addr} {n c2 : Nat} {ws : List α} {news : List Value} (hn : ws.length = Nat.min n len) (hA : ws = [] ∨ ∃ b2 o2, A = some ⟨b2, o2, none⟩ ∧ ∀ k u, news[k]? = some u → g.w.cell? ⟨b2, o2 + k, none⟩ = some u) (hl : news.length = ws.length * dk.sz) (hone : ∀ u ∈ news, u.oneCell' = true) (ty : TypeId) :
    (Builtin.copy_ #[t, t] ty #[.slice (some (if cap = off then ⟨b, 0, none⟩ else ⟨b, off * dk.sz, none⟩)) len (cap - off), .slice A n c2]).run P g.w = .ok (.int .i64 (ws.length : Int)) (g.w.setRow b (splice cur.toList (off * dk.sz) news).toArray) := by
  obtain ⟨i, zz, hi, hz, hsz, hby, hzs⟩ := hT.info
  have hcl : cur.toList.length = cap * dk.sz := by simpa using h.sz
  have hlen := h.len
  rcases hA with rfl | ⟨b2, o2, rfl, hcell⟩
  · have hn0 : news = [] := List.eq_nil_of_length_eq_zero (by simpa using hl)
    subst hn0
    have hs : (splice cur.toList (off * dk.sz) []).toArray = cur := by simp [splice]
    have hself : g.w.setRow b cur = g.w := setRow_self g.w b cur e (0, 0) h.heap
    rw [hs, hself]
    have hm : Nat.min n len = 0 := by simpa using hn.symm
    cases A <;> simp [Builtin.copy_, run_underlying hT.und, Builtin.lenOf, Builtin.firstCells, sizeOf, typeInfo, hi, hm, loadCells, loadCellsFrom, storeCells, goInt]
  · have hld := run_loadCells_list (P := P) g.w ⟨b2, o2, none⟩ news (fun k u hu => by rw [add_none]; exact hcell k u hu)
    rw [hl, hn] at hld
    by_cases he : cap = off
    · have hlen0 : len = 0 := by omega
      have hw0 : ws = [] := List.eq_nil_of_length_eq_zero (by rw [hn, hlen0]; simp)
      subst hw0
      have hn0 : news = [] := List.eq_nil_of_length_eq_zero (by simpa using hl)
      subst hn0
      have hs : (splice cur.toList (off * dk.sz) []).toArray = cur := by simp [splice]
      have hself : g.w.setRow b cur = g.w := setRow_self g.w b cur e (0, 0) h.heap
      rw [hs, hself]
      have hm : Nat.min n len = 0 := by simpa using hn.symm
      simp [Builtin.copy_, run_underlying hT.und, Builtin.lenOf, Builtin.firstCells, sizeOf, typeInfo, hi, hm, loadCells, loadCellsFrom, storeCells, goInt]
    · rw [if_neg he]
      have hst := run_storeCells_at P b (off * dk.sz) e news 0 cur g.w h.heap (by rw [hl, Nat.add_zero, ← Nat.add_mul]; rw [h.sz]; exact Nat.mul_le_mul_right _ (by rw [hn]; have : Nat.min n len ≤ len := Nat.min_le_right n len; omega)) hone
      rw [Nat.add_zero] at hst
      simp only [Builtin.copy_, run_underlying hT.und, Builtin.lenOf, Builtin.firstCells, sizeOf, typeInfo, Sem.run_bind, run_program, Result.andThen_ok, hi, Sem.run_pure, hsz, List.getElem?_toArray, List.getElem?_cons_zero, List.getElem?_cons_succ, hld, goInt, hn]
      rw [hst]
      rfl
theorem ob_copyV {fs : List (Option α)} {off len s : Nat} {vs : List α} (hT : TE P t e dk bytes) (hfit : off + len ≤ fs.length) (hv : vs.length ≤ len) (hop : o.op = .call { callee := .builtin .copy, args := #[x, y], argTypes := #[t, t] }) (hd : o.dst = some d) (hsd : s ≠ d)
    (hx : Opd uses x (pView dk e j off len)) (hy : Opd uses y (dk.sl.pd vs)) (hs : Opd uses (.tmp s) (pOwn dk e j c fs)) : OB P N o uses [(d, pInt .i64 (vs.length : Int)), (s, pOwn dk e j c (over fs off vs))] [j + 1] := by
  intro a g K Q hN hdN hu hK
  obtain ⟨b, cap, cur, hxv, hO1, _⟩ := hx a g hu
  obtain ⟨b', cap', cur', hsv, hO, hc⟩ := hs a g hu
  obtain ⟨rfl, rfl, rfl⟩ := hO.same hO1 hT.sz
  obtain ⟨A, c2, hy1, hy2, hy3, hyr⟩ := sl_cells (hy a g hu)
  obtain ⟨news, hl, hcl, hk⟩ : ∃ news : List Value, news.length = vs.length * dk.sz ∧ (vs = [] ∨ ∃ b2 o2, A = some ⟨b2, o2, none⟩ ∧ ∀ k u, news[k]? = some u → g.w.cell? ⟨b2, o2 + k, none⟩ = some u) ∧ ∀ i x, vs[i]? = some x → dk.K g x (seg news (i * dk.sz) dk.sz) := by
    rcases hyr with rfl | ⟨b2, o2, news, rfl, h1, h2, h3⟩
    · exact ⟨[], by simp, .inl rfl, fun i x hx => by simp at hx⟩
    · exact ⟨news, h1, .inr ⟨b2, o2, rfl, fun k u hu => (h2 k u hu).2⟩, h3⟩
  obtain ⟨g', hw, hst, hO'⟩ := own_wr hO (off := off) hl (by omega) hk
  have hr := run_copy_own hT hO (off := off) (len := len) hfit (A := A) (n := vs.length) (c2 := c2) (ws := vs) (by simp [Nat.min_eq_left hv]) hcl hl (cells_one hl hk hT.sz) o.type
  have hr' : (execOp a.eval o).run P g.w = .ok (.value (.int .i64 (vs.length : Int))) g'.w := by
    simp [execOp, hop, resolve, invoke, builtin, hxv, hy1, hr, hw]
  unfold Oper.wp
  rw [hr']
  refine hK _ g' hst fun e he => ?_
  simp only [List.mem_cons, List.not_mem_nil, or_false] at he
  rcases he with rfl | rfl
  · rw [hd, at_put_same _ (by rw [hN]; exact hdN d hd)]; exact int_q _ _ g'
  · rw [at_put_ne _ (by rw [hd]; intro h; exact hsd (Option.some.inj h).symm)]
    exact ⟨b, cap, _, by rw [over_len (by omega)]; exact hsv, hO', hc⟩
/-- .. from a part of mine, of the same block or of another one. -/
theorem ob_copyW {fs fs2 : List (Option α)} {off len off2 len2 s s2 j2 : Nat} {c2 : Option Nat} {ws : List α} (hT : TE P t e dk bytes) (hfit : off + len ≤ fs.length) (hfit2 : off2 + len2 ≤ fs2.length) (hw : ws.length = Nat.min len2 len) (hws : ∀ i x, ws[i]? = some x → fs2[off2 + i]? = some (some x))
    (hop : o.op = .call { callee := .builtin .copy, args := #[x, y], argTypes := #[t, t] }) (hd : o.dst = some d) (hsd : s ≠ d) (hx : Opd uses x (pView dk e j off len)) (hy : Opd uses y (pView dk e j2 off2 len2)) (hs : Opd uses (.tmp s) (pOwn dk e j c fs)) (hs2 : Opd uses (.tmp s2) (pOwn dk e j2 c2 fs2)) :
    OB P N o uses [(d, pInt .i64 (ws.length : Int)), (s, pOwn dk e j c (over fs off ws))] [j + 1] := by
  intro a g K Q hN hdN hu hK
  obtain ⟨b, cap, cur, hxv, hO1, _⟩ := hx a g hu
  obtain ⟨b', cap', cur', hsv, hO, hc⟩ := hs a g hu
  obtain ⟨rfl, rfl, rfl⟩ := hO.same hO1 hT.sz
  obtain ⟨b3, cap3, cur3, hyv, hO3, hcap3⟩ := hy a g hu
  obtain ⟨b2, cap2, cur2, hsv2, hO2, hc2⟩ := hs2 a g hu
  obtain ⟨rfl, rfl, rfl⟩ := hO2.same hO3 hT.sz
  have hwl2 : ws.length ≤ len2 := by rw [hw]; exact Nat.min_le_left _ _
  have hwl : ws.length ≤ len := by rw [hw]; exact Nat.min_le_right _ _
  have hl2 := hO2.len
  have hcl2 : cur3.toList.length = cap3 * dk.sz := by simpa using hO2.sz
  let news := seg cur3.toList (off2 * dk.sz) (ws.length * dk.sz)
  have hnl : news.length = ws.length * dk.sz := by
    show ((cur3.toList.drop (off2 * dk.sz)).take (ws.length * dk.sz)).length = _
    rw [List.length_take, List.length_drop, hcl2]
    have : (off2 + ws.length) * dk.sz ≤ cap3 * dk.sz := Nat.mul_le_mul_right _ (by omega)
    rw [Nat.add_mul] at this; omega
  have hk : ∀ i x, ws[i]? = some x → dk.K g x (seg news (i * dk.sz) dk.sz) := fun i x hx => by
    have hi := (List.getElem?_eq_some_iff.1 hx).1
    have h1 := hO2.known _ _ (hws i x hx)
    have e : seg news (i * dk.sz) dk.sz = seg cur3.toList ((off2 + i) * dk.sz) dk.sz := by
      show (((cur3.toList.drop (off2 * dk.sz)).take (ws.length * dk.sz)).drop (i * dk.sz)).take dk.sz = _
      have := seg_in (sz := dk.sz) hi
      rw [List.drop_take, List.take_take, List.drop_drop, Nat.min_eq_left (by omega), Nat.add_mul]; rfl
    rw [e]; exact h1
  obtain ⟨g', hgw, hst, hO'⟩ := own_wr hO (off := off) hnl (by omega) hk
  have hcell : ∀ k u, news[k]? = some u → g.w.cell? ⟨b3, off2 * dk.sz + k, none⟩ = some u := fun k u hu => by
    simp only [World.cell?, hO2.heap]
    have hu' : ((cur3.toList.drop (off2 * dk.sz)).take (ws.length * dk.sz))[k]? = some u := hu
    rw [List.getElem?_take] at hu'
    split at hu'
    · rw [List.getElem?_drop] at hu'
      simpa using hu'
    · cases hu'
  have hr := run_copy_own hT hO (off := off) (len := len) hfit (A := some (if cap3 = off2 then ⟨b3, 0, none⟩ else ⟨b3, off2 * dk.sz, none⟩)) (n := len2) (c2 := cap3 - off2) (ws := ws) (news := news) hw (by
    by_cases he : cap3 = off2
    · left; apply List.eq_nil_of_length_eq_zero; omega
    · right; exact ⟨b3, off2 * dk.sz, by rw [if_neg he], hcell⟩) hnl (cells_one hnl hk hT.sz) o.type
  have hr' : (execOp a.eval o).run P g.w = .ok (.value (.int .i64 (ws.length : Int))) g'.w := by
    simp only [execOp, hop, resolve, invoke, builtin, Sem.run_bind, Sem.run_pure, Result.andThen_ok, List.map_toArray, List.map_cons, List.map_nil, hxv, hyv, hr, hgw]
  unfold Oper.wp
  rw [hr']
  refine hK _ g' hst fun e he => ?_
  simp only [List.mem_cons, List.not_mem_nil, or_false] at he
  rcases he with rfl | rfl
  · rw [hd, at_put_same _ (by rw [hN]; exact hdN d hd)]; exact int_q _ _ g'
  · rw [at_put_ne _ (by rw [hd]; intro h; exact hsd (Option.some.inj h).symm)]
    exact ⟨b, cap, _, by rw [over_len (by omega)]; exact hsv, hO', hc⟩
end
end Go.CL

/- Slices of the call's own: append, clear, overlaps; contracts that hand them on. -/
set_option linter.unusedVariables false
set_option linter.unusedSimpArgs false
namespace Go.CL
open Go Go.RowKit

section
variable {P : Program} {N : Nat} {o : Oper} {uses : Slots} {d : Nat} {q : Pd} {x y z : Operand} {α : Type} {dk : Kd α} {t e : TypeId} {bytes j : Nat} {c : Option Nat}

theorem OwnAt.ext {fs : List (Option α)} {g : G} {b cap h : Nat} {cur : Array Value} (hO : OwnAt dk e j fs g b cap cur) (h1 : fs.length ≤ h) (h2 : h ≤ cap) : OwnAt dk e j (fs ++ List.replicate (h - fs.length) none) g b cap cur :=
  ⟨hO.lt, hO.own, hO.uniq, hO.heap, by simp; omega, hO.max, hO.sz, fun i x hx => by
    rw [List.getElem?_append] at hx
    split at hx
    · exact hO.known i x hx
    · rw [List.getElem?_replicate] at hx
      split at hx <;> simp at hx, hO.npr⟩
theorem OwnAt.sub {fs fs' : List (Option α)} {g : G} {b cap : Nat} {cur : Array Value} (hO : OwnAt dk e j fs g b cap cur) (hl : fs'.length ≤ cap) (hk : ∀ (i : Nat) (x : α), fs'[i]? = some (some x) → fs[i]? = some (some x)) : OwnAt dk e j fs' g b cap cur :=
  ⟨hO.lt, hO.own, hO.uniq, hO.heap, hl, hO.max, hO.sz, fun i x hx => hO.known i x (hk i x hx), hO.npr⟩
theorem zeroCells_size (z : Array Value) (n : Nat) : (Builtin.zeroCells z n).size = n * z.size := by simp [Builtin.zeroCells]
/-- A new block of mine. -/
theorem own_push {g : G} {cur : Array Value} {cap : Nat} {fs : List (Option α)} (hj : j ≠ 0) (hl : fs.length ≤ cap) (hm : cap ≤ maxLen) (hs : cur.size = cap * dk.sz) (hk : ∀ (i : Nat) (x : α), fs[i]? = some (some x) → dk.K g x (seg cur.toList (i * dk.sz) dk.sz)) :
    ∃ g' : G, g'.w = g.w.drew.alloc (.cells cur e) ∧ Step [j] g g' ∧ OwnAt dk e j fs g' g.w.heap.size cap cur := by
  have hs1 := Step.drew g
  have hs2 := push_step g.drew cur e (fun _ => False) j
  have hst : Step [j] g (g.drew.push cur e (fun _ => False) j) := (hs1.sub (by simp)).trans hs2
  have hsz : g.drew.w.heap.size = g.w.heap.size := rfl
  refine ⟨g.drew.push cur e (fun _ => False) j, rfl, hst, ⟨by rw [push_w, alloc_size]; omega, by simp [G.push, hsz], fun b' hb' ho => ?_, by rw [push_w, ← hsz]; exact alloc_new .., hl, hm, hs, fun i x hx => dk.mono hst.le (hk i x hx), fun o => by simp [G.push, hsz]⟩⟩
  by_cases h : b' = g.drew.w.heap.size
  · rw [h, hsz]
  · simp only [G.push, if_neg h] at ho
    split at ho
    · exact absurd ho.symm hj
    · rename_i h2; exact absurd ho h2
theorem ob_litOwn {j : Nat} {ty : TypeId} (hT : TE P t e dk bytes) (hop : o.op = .buildSlice t 0 #[]) (hd : o.dst = some d) : OB P N o uses [(d, pOwn dk e j (some 0) ([] : List (Option α)))] [j + 1] :=
  ob_step hd fun a g hh => by
    have hs2 := push_step g #[] e (fun _ => False) (j + 1)
    refine ⟨.slice (some ⟨g.w.heap.size, 0, none⟩) 0 0, g.push #[] e (fun _ => False) (j + 1), ?_, hs2, g.w.heap.size, 0, #[], rfl, ⟨by rw [push_w, alloc_size]; omega, by simp [G.push], fun b' hb' ho => ?_, by rw [push_w]; exact alloc_new .., Nat.le_refl _, Nat.zero_le _, by simp, fun i x hx => by simp at hx, fun o => by simp [G.push]⟩, fun k hk => Option.some.inj hk⟩
    · obtain ⟨cells, hl, _, hr⟩ := run_lit (ys := []) (xs := []) hT .nil (by simp) hh
      have hc : cells = [] := List.eq_nil_of_length_eq_zero (by simpa using hl)
      subst hc
      rw [push_w]
      have hr' : (Instr.buildSlice t 0 #[]).run P g.w = .ok (.slice (some ⟨g.w.heap.size, 0, none⟩) 0 0) (g.w.alloc (.cells #[] e)) := by simpa [idxL] using hr
      simp [execOp, hop]
      rw [hr']; rfl
    · by_cases h : b' = g.w.heap.size
      · exact h
      · simp only [G.push, if_neg h] at ho
        split at ho
        · omega
        · rename_i h2; exact absurd ho h2
theorem ob_appendO {xs vs : List α} (hT : TE P t e dk bytes) (hop : o.op = .call { callee := .builtin .append, args := #[x, y], argTypes := #[t, t] }) (hd : o.dst = some d) (hx : Opd uses x (pOwn dk e j c (xs.map some))) (hy : Opd uses y (dk.sl.pd vs)) (hl : (xs.length + vs.length) * bytes ≤ 140737488355328) :
    OB P N o uses [(d, pOwn dk e j none ((xs ++ vs).map some))] [j + 1] :=
  ob_step hd fun a g hh => by
    obtain ⟨b, cap, cur, hv, hO, _⟩ := hx a g hh
    obtain ⟨A, c2, hy1, hy2, hy3, hyr⟩ := sl_cells (hy a g hh)
    obtain ⟨i, zz, hi, hz, hsz, hby, hzs⟩ := hT.info
    have hb0 := hT.by0
    have hexec : ∀ v w', (Builtin.append_ #[t, t] o.type #[a.eval x, a.eval y]).run P g.w = .ok v w' → (execOp a.eval o).run P g.w = .ok (.value v) w' := fun v w' h => by
      simp [execOp, hop, resolve, invoke, builtin, h]
    have hlen : xs.length + vs.length ≤ 140737488355328 := Nat.le_trans (Nat.le_mul_of_pos_right _ hb0) hl
    have hOl := hO.len
    rw [List.length_map] at hOl hv
    rcases Nat.eq_zero_or_pos vs.length with h0 | hpos
    · obtain rfl := List.eq_nil_of_length_eq_zero h0
      refine ⟨a.eval x, g, hexec _ _ ?_, .refl _ _, b, cap, cur, by rw [hv]; simp, by rw [List.append_nil]; exact hO, fun k hk => by cases hk⟩
      rw [hv, hy1]
      cases A <;> simp [Builtin.append_, run_underlying hT.und, sizeOf, typeInfo, hi, Builtin.lenOf, Builtin.firstCells, loadCells, loadCellsFrom, hOl, storeCells]
    · obtain ⟨b2, o2, news, rfl, hnl, hnc, hnk⟩ := hyr.resolve_left (fun h => by rw [h] at hpos; simp at hpos)
      have hn1 := cells_one hnl hnk hT.sz
      have hnl' : news.length = vs.length * i.size := by rw [hsz]; exact hnl
      have hnews : ∀ k u, news[k]? = some u → g.w.cell? ((⟨b2, o2, none⟩ : Addr).add k) = some u := fun k u hu => by rw [add_none]; exact (hnc k u hu).2
      by_cases hroom : xs.length + vs.length ≤ cap
      · have hO2 := hO.ext (h := xs.length + vs.length) (by simp) hroom
        obtain ⟨g', hw, hst, hO3⟩ := own_wr hO2 (off := xs.length) (ws := vs) hnl (by simp) hnk
        have hr := run_append_room (P := P) g.w t o.type e i hT.und hi b xs.length cap cur hO.heap ⟨b2, o2, none⟩ vs.length c2 news hnl' hnews hn1 hroom (by rw [hnl', ← Nat.add_mul, hO.sz, hsz]; exact Nat.mul_le_mul_right _ hroom)
        rw [hsz] at hr
        refine ⟨_, g', hexec _ _ (by rw [hv, hy1]; rw [hw]; exact hr), hst, b, cap, (splice cur.toList (xs.length * dk.sz) news).toArray, by simp, ?_, fun k hk => by cases hk⟩
        refine hO3.sub (by simp; omega) fun k u hk => ?_
        rw [over_get (by simp)]
        rw [List.getElem?_map] at hk
        by_cases h1 : k < xs.length
        · rw [if_pos h1, List.getElem?_append_left (by simpa using h1), List.getElem?_map]
          rwa [List.getElem?_append_left h1] at hk
        · rw [if_neg h1]
          have h2 := (List.getElem?_eq_some_iff.1 (show (xs ++ vs)[k]? = some u by
            obtain ⟨y, hy, he⟩ := Option.map_eq_some_iff.1 hk
            rw [hy, Option.some.inj he])).1
          rw [List.length_append] at h2
          rw [if_pos h2]
          rwa [List.getElem?_append_right (by omega)] at hk
      · have hcl : cur.toList.length = cap * dk.sz := by simpa using hO.sz
        have hol : (cur.toList.take (xs.length * dk.sz)).length = xs.length * i.size := by rw [hsz, List.length_take, hcl]; exact Nat.min_eq_left (Nat.mul_le_mul_right _ hOl)
        have holds : ∀ k u, (cur.toList.take (xs.length * dk.sz))[k]? = some u → g.w.cell? ((⟨b, 0, none⟩ : Addr).add k) = some u := fun k u hu => by
          rw [add_none]
          simp only [World.cell?, hO.heap, Nat.zero_add]
          rw [List.getElem?_take] at hu
          split at hu
          · simpa using hu
          · cases hu
        have hr := run_append_grow (P := P) g.w t o.type e i zz hT.und hi hz ⟨b, 0, none⟩ xs.length cap (cur.toList.take (xs.length * dk.sz)) hol holds ⟨b2, o2, none⟩ vs.length c2 news hnl' hnews (by omega) (by omega) (growslice_fits (by omega) (by rw [hby]; exact hl))
        have hge := grownCap_ge g.w (xs.length + vs.length) cap e
        have hmx := grownCap_le_maxLen g.w (xs.length + vs.length) cap e (by simp only [maxLen]; omega)
        rw [hsz] at hol
        obtain ⟨g', hw, hst, hO3⟩ := own_push (dk := dk) (e := e) (g := g) (j := j + 1) (cur := (cur.toList.take (xs.length * dk.sz)).toArray ++ news.toArray ++ Builtin.zeroCells zz.cells (grownCap g.w (xs.length + vs.length) cap e - (xs.length + vs.length))) (cap := grownCap g.w (xs.length + vs.length) cap e) (fs := (xs ++ vs).map some) (by omega) (by simpa using hge) hmx (by
            simp only [Array.size_append, List.size_toArray, zeroCells_size, hzs, hol, hnl, ← Nat.add_mul]
            congr 1; omega) (fun k u hk => by
            rw [List.getElem?_map] at hk
            obtain ⟨u', hu', he'⟩ := Option.map_eq_some_iff.1 hk
            obtain rfl := Option.some.inj he'
            simp only [Array.toList_append, List.append_assoc]
            rw [List.getElem?_append] at hu'
            split at hu'
            · rename_i h1
              rw [seg_append_left (by rw [hol]; exact seg_in h1)]
              have e2 : seg (cur.toList.take (xs.length * dk.sz)) (k * dk.sz) dk.sz = seg cur.toList (k * dk.sz) dk.sz := by
                have := seg_in (sz := dk.sz) h1
                simp only [seg, List.drop_take, List.take_take]
                congr 1; omega
              rw [e2]
              exact hO.known k u' (by rw [List.getElem?_map, hu']; rfl)
            · rename_i h1
              have h2 := (List.getElem?_eq_some_iff.1 hu').1
              rw [show k * dk.sz = (cur.toList.take (xs.length * dk.sz)).length + (k - xs.length) * dk.sz by rw [hol, ← Nat.add_mul]; congr 1; omega, seg_append_right, seg_append_left (by rw [hnl]; exact seg_in h2)]
              exact hnk _ _ hu')
        refine ⟨_, g', hexec _ _ (by rw [hv, hy1]; rw [hw]; exact hr), hst, _, _, _, by simp, hO3, fun k hk => by cases hk⟩
/-- append of a part of mine to its own head: in place. -/
theorem ob_appendW {fs : List (Option α)} {n off len s k : Nat} {xs ws : List α} (hT : TE P t e dk bytes) (hn : n = xs.length) (hn2 : n + len ≤ k) (hfs : off + len ≤ fs.length) (hw : ws.length = len) (hxs : ∀ (i : Nat) (x : α), xs[i]? = some x → fs[i]? = some (some x)) (hws : ∀ (i : Nat) (x : α), ws[i]? = some x → fs[off + i]? = some (some x))
    (hop : o.op = .call { callee := .builtin .append, args := #[x, y], argTypes := #[t, t] }) (hd : o.dst = some d) (hx : Opd uses x (pView dk e j 0 n)) (hy : Opd uses y (pView dk e j off len)) (hs : Opd uses (.tmp s) (pOwn dk e j (some k) fs)) :
    OB P N o uses [(d, pOwn dk e j (some k) ((xs ++ ws).map some))] [j + 1] :=
  ob_step hd fun a g hh => by
    obtain ⟨b, cap, cur, hxv, hO1, _⟩ := hx a g hh
    obtain ⟨b', cap', cur', hsv, hO, hc⟩ := hs a g hh
    obtain rfl := hc k rfl
    obtain ⟨rfl, rfl, rfl⟩ := hO.same hO1 hT.sz
    obtain ⟨b3, cap3, cur3, hyv, hO3, hcap3⟩ := hy a g hh
    obtain ⟨rfl, rfl, rfl⟩ := hO.same hO3 hT.sz
    obtain ⟨i, zz, hi, hz, hsz, hby, hzs⟩ := hT.info
    have hl2 := hO.len
    have hcl : cur3.toList.length = cap3 * dk.sz := by simpa using hO.sz
    let news := seg cur3.toList (off * dk.sz) (len * dk.sz)
    have hnl : news.length = ws.length * dk.sz := by
      show ((cur3.toList.drop (off * dk.sz)).take (len * dk.sz)).length = _
      rw [List.length_take, List.length_drop, hcl, hw]
      have : (off + len) * dk.sz ≤ cap3 * dk.sz := Nat.mul_le_mul_right _ (by omega)
      rw [Nat.add_mul] at this; omega
    have hk : ∀ (i : Nat) (x : α), ws[i]? = some x → dk.K g x (seg news (i * dk.sz) dk.sz) := fun i x hx => by
      have hi := (List.getElem?_eq_some_iff.1 hx).1
      have h1 := hO.known _ _ (hws i x hx)
      have e : seg news (i * dk.sz) dk.sz = seg cur3.toList ((off + i) * dk.sz) dk.sz := by
        show (((cur3.toList.drop (off * dk.sz)).take (len * dk.sz)).drop (i * dk.sz)).take dk.sz = _
        have := seg_in (sz := dk.sz) (show i < len by omega)
        rw [List.drop_take, List.take_take, List.drop_drop, Nat.min_eq_left (by omega), Nat.add_mul]; rfl
      rw [e]; exact h1
    have hcell : ∀ k u, news[k]? = some u → g.w.cell? ((⟨b3, off * dk.sz, none⟩ : Addr).add k) = some u := fun k u hu => by
      rw [add_none]
      simp only [World.cell?, hO.heap]
      have hu' : ((cur3.toList.drop (off * dk.sz)).take (len * dk.sz))[k]? = some u := hu
      rw [List.getElem?_take] at hu'
      split at hu'
      · rw [List.getElem?_drop] at hu'
        simpa using hu'
      · cases hu'
    have hO4 := (hO.sub (fs' := xs.map some) (by rw [List.length_map]; omega) (fun i x hx => by
      rw [List.getElem?_map] at hx
      obtain ⟨y, hy, he⟩ := Option.map_eq_some_iff.1 hx
      rw [hxs i y hy, he])).ext (h := n + len) (by rw [List.length_map]; omega) (by omega)
    obtain ⟨g', hgw, hst, hO5⟩ := own_wr hO4 (off := n) (ws := ws) hnl (by simp; omega) hk
    have hb0 : (if cap3 = 0 then (⟨b3, 0, none⟩ : Addr) else ⟨b3, 0 * dk.sz, none⟩) = ⟨b3, 0, none⟩ := by split <;> simp
    have hr : (Builtin.append_ #[t, t] o.type #[a.eval x, a.eval y]).run P g.w = .ok (.slice (some ⟨b3, 0, none⟩) (n + len) cap3) g'.w := by
      rw [hxv, hyv, hb0, hgw, Nat.sub_zero]
      by_cases h0 : cap3 = off
      · have hl0 : len = 0 := by omega
        have hn0 : news = [] := List.eq_nil_of_length_eq_zero (by rw [hnl, hw, hl0]; simp)
        rw [if_pos h0]
        have := run_append_room (P := P) g.w t o.type e i hT.und hi b3 n cap3 cur3 hO.heap ⟨b3, 0, none⟩ len (cap3 - off) news (by rw [hn0, hl0]; simp) (fun j u hu => by rw [hn0] at hu; simp at hu) (fun u hu => by rw [hn0] at hu; cases hu) (by omega) (by rw [hn0, hO.sz, hsz]; simp; exact Nat.mul_le_mul_right _ (by omega))
        rw [hsz] at this
        exact this
      · rw [if_neg h0]
        have := run_append_room (P := P) g.w t o.type e i hT.und hi b3 n cap3 cur3 hO.heap ⟨b3, off * dk.sz, none⟩ len (cap3 - off) news (by rw [hnl, hw, hsz]) hcell (cells_one hnl hk hT.sz) (by omega) (by rw [hnl, hw, hsz, ← Nat.add_mul, hO.sz]; exact Nat.mul_le_mul_right _ (by omega))
        rw [hsz] at this
        exact this
    refine ⟨_, g', ?_, hst, b3, cap3, (splice cur3.toList (n * dk.sz) news).toArray, rfl, ?_, hc⟩
    · rw [show ((xs ++ ws).map some).length = n + len by simp; omega]
      simp [execOp, hop, resolve, invoke, builtin, hr]
    · refine hO5.sub (by simp; omega) fun k u hk => ?_
      rw [over_get (by simp; omega)]
      rw [List.getElem?_map] at hk
      by_cases h1 : k < n
      · rw [if_pos h1, List.getElem?_append_left (by simp; omega), List.getElem?_map]
        rwa [List.getElem?_append_left (by omega)] at hk
      · rw [if_neg h1]
        have h2 := (List.getElem?_eq_some_iff.1 (show (xs ++ ws)[k]? = some u by
          obtain ⟨y, hy, he⟩ := Option.map_eq_some_iff.1 hk
          rw [hy, Option.some.inj he])).1
        rw [List.length_append] at h2
        rw [if_pos (by omega)]
        rw [List.getElem?_append_right (by omega)] at hk
        rw [hn]; exact hk
theorem run_append_grow_zeros (w : World) (t tn ty e : TypeId) (i : TypeInfo) (z : Value) (k kn : IntKind) (ht : P.underlying t = some (.slice e)) (htn : P.underlying tn = some (.int kn)) (hi : P.info? e = some i) (hz : i.zero = some z)
    (b : Addr) (sLen sCap : Nat) (olds : List Value) (hlo : olds.length = sLen * i.size) (holds : ∀ j v, olds[j]? = some v → w.cell? (b.add j) = some v)
    (n : Nat) (h0 : 0 < n) (hs : 0 < i.size) (hg : sCap < sLen + n) (h63 : ((sLen + n : Nat) : Int) ≤ 9223372036854775807) (h48 : n * i.bytes ≤ 281474976710656) (hfit : Builtin.nextslicecap (sLen + n) sCap * i.bytes ≤ 281474976710656) :
    (Builtin.append_ #[t, tn] ty #[.slice (some b) sLen sCap, .int k n]).run P w =
      .ok (.slice (some ⟨w.heap.size, 0, none⟩) (sLen + n) (grownCap w (sLen + n) sCap e))
        (w.drew.alloc (.cells (olds.toArray ++ Builtin.zeroCells z.cells n ++ Builtin.zeroCells z.cells (grownCap w (sLen + n) sCap e - (sLen + n))) e)) := by
  have hw : IntKind.i64.wrap (n : Int) = n := by rw [IntKind.wrap_i64]; omega
  have hn : ¬ (sLen + n ≤ sCap) := by omega
  have h63' : ¬ (9223372036854775807 < ((sLen : Int) + (n : Int))) := by omega
  have h48' : ¬ (281474976710656 < Builtin.nextslicecap (sLen + n) sCap * i.bytes) := by omega
  have h48i : ¬ (281474976710656 < (n : Int) * (i.bytes : Int)) := by
    rw [← Int.natCast_mul]
    omega
  have hneg : ¬ ((n : Int) < 0) := by omega
  have hns : ¬ (n * i.size = 0) := Nat.mul_ne_zero (by omega) (by omega)
  have hfo := run_firstCells_some (P := P) w.drew i.size sLen b sLen sCap olds hlo (by simpa using holds)
  simp [Builtin.append_, run_underlying ht, run_underlying htn, sizeOf, typeInfo, zeroValue, hi, hz, asInt, asIntOf, hw, hn, hneg, hns, h63', h48', h48i, Question.forced, hfo, newRow, grownCap]
/-- append(s[:n], make(.., m)...) where there is no room: a new block. -/
theorem ob_appendZ {fs : List (Option α)} {n m s k d2 tn : Nat} {kn : IntKind} {xs : List α} (hT : TE P t e dk bytes) (htn : P.underlying tn = some (.int kn)) (hn : n = xs.length) (hfs : n ≤ fs.length) (hm : 0 < m) (hk : k < n + m) (hb : (n + m) * bytes ≤ 140737488355328) (hxs : ∀ (i : Nat) (x : α), xs[i]? = some x → fs[i]? = some (some x))
    (hop : o.op = .call { callee := .builtin .append, args := #[x, y], argTypes := #[t, tn] }) (hd : o.dst = some d) (hx : Opd uses x (pView dk e j 0 n)) (hy : Opd uses y (pInt .i64 (m : Int))) (hs : Opd uses (.tmp s) (pOwn dk e j (some k) fs)) :
    OB P N o uses [(d, pOwn dk e d2 none (xs.map some ++ List.replicate m none))] [d2 + 1] :=
  ob_step hd fun a g hh => by
    obtain ⟨b, cap, cur, hxv, hO1, _⟩ := hx a g hh
    obtain ⟨b', cap', cur', hsv, hO, hc⟩ := hs a g hh
    obtain rfl := hc k rfl
    obtain ⟨rfl, rfl, rfl⟩ := hO.same hO1 hT.sz
    obtain ⟨i, zz, hi, hz, hsz, hby, hzs⟩ := hT.info
    have hyv := pInt_iff.1 (hy a g hh)
    have hb0 : (if cap = 0 then (⟨b, 0, none⟩ : Addr) else ⟨b, 0 * dk.sz, none⟩) = ⟨b, 0, none⟩ := by split <;> simp
    have hOl := hO.len
    have hcl : cur.toList.length = cap * dk.sz := by simpa using hO.sz
    have hlen : n + m ≤ 140737488355328 := Nat.le_trans (Nat.le_mul_of_pos_right _ hT.by0) hb
    have hol : (cur.toList.take (n * dk.sz)).length = n * dk.sz := by rw [List.length_take, hcl]; exact Nat.min_eq_left (Nat.mul_le_mul_right _ (by omega))
    have holds : ∀ k u, (cur.toList.take (n * dk.sz))[k]? = some u → g.w.cell? ((⟨b, 0, none⟩ : Addr).add k) = some u := fun k u hu => by
      rw [add_none]
      simp only [World.cell?, hO.heap, Nat.zero_add]
      rw [List.getElem?_take] at hu
      split at hu
      · simpa using hu
      · cases hu
    have hmb : m * bytes ≤ (n + m) * bytes := Nat.mul_le_mul_right _ (by omega)
    have hr := run_append_grow_zeros (P := P) g.w t tn o.type e i zz .i64 kn hT.und htn hi hz ⟨b, 0, none⟩ n cap (cur.toList.take (n * dk.sz)) (by rw [hol, hsz]) holds m hm (by rw [hsz]; exact hT.sz) hk (by omega) (by rw [hby]; omega) (growslice_fits hk (by rw [hby]; exact hb))
    have hge := grownCap_ge g.w (n + m) cap e
    have hmx := grownCap_le_maxLen g.w (n + m) cap e (by simp only [maxLen]; omega)
    obtain ⟨g', hw, hst, hO3⟩ := own_push (dk := dk) (e := e) (g := g) (j := d2 + 1) (cur := (cur.toList.take (n * dk.sz)).toArray ++ Builtin.zeroCells zz.cells m ++ Builtin.zeroCells zz.cells (grownCap g.w (n + m) cap e - (n + m))) (cap := grownCap g.w (n + m) cap e) (fs := xs.map some ++ List.replicate m none) (by omega) (by simp; omega) hmx (by
        simp only [Array.size_append, List.size_toArray, zeroCells_size, hzs, hol, ← Nat.add_mul]
        congr 1; omega) (fun k u hk => by
        rw [List.getElem?_append] at hk
        split at hk
        · rename_i h1
          rw [List.length_map] at h1
          rw [List.getElem?_map] at hk
          obtain ⟨u', hu', he'⟩ := Option.map_eq_some_iff.1 hk
          obtain rfl := Option.some.inj he'
          simp only [Array.toList_append, List.append_assoc]
          rw [seg_append_left (by rw [hol]; exact seg_in (by omega))]
          have e2 : seg (cur.toList.take (n * dk.sz)) (k * dk.sz) dk.sz = seg cur.toList (k * dk.sz) dk.sz := by
            have := seg_in (sz := dk.sz) (show k < n by omega)
            simp only [seg, List.drop_take, List.take_take]
            congr 1; omega
          rw [e2]
          exact hO.known k u' (hxs k u' hu')
        · rw [List.getElem?_replicate] at hk
          split at hk <;> simp at hk)
    refine ⟨_, g', ?_, hst, _, _, _, rfl, hO3, fun k hk => by cases hk⟩
    rw [show (xs.map some ++ List.replicate m (none : Option α)).length = n + m by simp; omega]
    rw [hb0, Nat.sub_zero] at hxv
    simp [execOp, hop, resolve, invoke, builtin, hxv, hyv, hr, hw]
theorem ob_clearW {fs : List (Option α)} {off len s k : Nat} (hT : TE P t e dk bytes) (hz1 : ((P.info? e).bind (·.zero)).map (fun z => z.cells.all (·.oneCell')) = some true) (hfs : fs.length ≤ off) (hk : off + len ≤ k)
    (hop : o.op = .call { callee := .builtin .clear, args := #[x], argTypes := #[t] }) (hd : o.dst = none) (hx : Opd uses x (pView dk e j off len)) (hs : Opd uses (.tmp s) (pOwn dk e j (some k) fs)) : OB P N o uses [(s, pOwn dk e j (some k) fs)] [j + 1] := by
  intro a g K Q hN hdN hu hK
  obtain ⟨b, cap, cur, hxv, hO1, _⟩ := hx a g hu
  obtain ⟨b', cap', cur', hsv, hO, hc⟩ := hs a g hu
  obtain rfl := hc k rfl
  obtain ⟨rfl, rfl, rfl⟩ := hO.same hO1 hT.sz
  obtain ⟨i, zz, hi, hz, hsz, hby, hzs⟩ := hT.info
  have hcl : cur.toList.length = cap * dk.sz := by simpa using hO.sz
  have hone : ∀ u ∈ (Builtin.zeroCells zz.cells len).toList, u.oneCell' = true := by
    simp only [hi, hz, Option.bind_some, Option.map_some, Option.some.injEq] at hz1
    intro u hu
    simp only [Builtin.zeroCells, Array.toList_map, List.mem_map] at hu
    obtain ⟨m, hm, rfl⟩ := hu
    have h0 : 0 < zz.cells.size := by rw [hzs]; exact hT.sz
    have hlt : m % zz.cells.size < zz.cells.size := Nat.mod_lt _ h0
    rw [getElem!_pos zz.cells _ hlt]
    exact Array.all_eq_true.1 hz1 _ hlt
  have hcl2 : (cur.toList.take (off * dk.sz) ++ (Builtin.zeroCells zz.cells len).toList ++ cur.toList.drop (off * dk.sz + (Builtin.zeroCells zz.cells len).toList.length)).toArray = (splice cur.toList (off * dk.sz) (Builtin.zeroCells zz.cells len).toList).toArray := rfl
  have hzl : (Builtin.zeroCells zz.cells len).toList.length = len * dk.sz := by rw [Array.length_toList, zeroCells_size, hzs]
  have hfit : off * dk.sz + (Builtin.zeroCells zz.cells len).toList.length ≤ cur.toList.length := by rw [hzl, hcl, ← Nat.add_mul]; exact Nat.mul_le_mul_right _ hk
  let cs := (splice cur.toList (off * dk.sz) (Builtin.zeroCells zz.cells len).toList).toArray
  have hr : (Builtin.clear_ #[t] o.type #[a.eval x]).run P g.w = .ok (.tuple #[]) (g.w.setRow b cs) := by
    rw [hxv]
    rcases Nat.eq_zero_or_pos len with rfl | hpos
    · have hs0 : cs = cur := by
        show (splice cur.toList (off * dk.sz) (Builtin.zeroCells zz.cells 0).toList).toArray = cur
        have : (Builtin.zeroCells zz.cells 0).toList = [] := by simp [Builtin.zeroCells]
        rw [this]; simp [splice]
      rw [hs0, setRow_self g.w b cur e (0, 0) hO.heap]
      by_cases he : cap = off <;> simp [Builtin.clear_, run_underlying hT.und]
    · have he : ¬ cap = off := by omega
      rw [if_neg he]
      have hst := run_storeCells_at P b (off * dk.sz) e (Builtin.zeroCells zz.cells len).toList 0 cur g.w hO.heap (by rw [Nat.add_zero]; simpa using hfit) hone
      rw [Nat.add_zero] at hst
      obtain ⟨len, rfl⟩ : ∃ m, len = m + 1 := ⟨len - 1, by omega⟩
      simp [Builtin.clear_, run_underlying hT.und, zeroValue, typeInfo, hi, hz]
      rw [hst]; rfl
  have hr' : (execOp a.eval o).run P g.w = .ok (.value (.tuple #[])) (g.w.setRow b cs) := by
    simp [execOp, hop, resolve, invoke, builtin, hr]
  unfold Oper.wp
  rw [hr']
  have hst : Step [j + 1] g (g.wr b cs hO.lt hO.npr (fun _ => False) (j + 1)) := wr_step hO.own (.inr rfl) hO.npr
  refine hK _ (g.wr b cs hO.lt hO.npr (fun _ => False) (j + 1)) hst fun e he => ?_
  rw [List.mem_singleton.1 he]
  have hat : Act.at (a.put o.dst (.tuple #[])) s = Act.at a s := by rw [hd]; rfl
  rw [hat]
  refine ⟨b, cap, cs, hsv, ⟨by rw [wr_w, setRow_size]; exact hO.lt, by simp [G.wr], fun b' hb' ho => ?_, by rw [wr_w]; exact setRow_heap _ _ _ _ _ _ hO.heap, hO.len, hO.max, ?_, fun i x hx => ?_, fun o => by simp [G.wr]⟩, hc⟩
  · rw [wr_w, setRow_size] at hb'
    simp only [G.wr] at ho
    split at ho
    · assumption
    · exact hO.uniq b' hb' ho
  · show (splice cur.toList (off * dk.sz) (Builtin.zeroCells zz.cells len).toList).toArray.size = _
    rw [List.size_toArray, splice_length hfit, hcl]
  · have hi := (List.getElem?_eq_some_iff.1 hx).1
    have e2 : seg cs.toList (i * dk.sz) dk.sz = seg cur.toList (i * dk.sz) dk.sz := by
      show seg (splice cur.toList (off * dk.sz) (Builtin.zeroCells zz.cells len).toList) (i * dk.sz) dk.sz = _
      exact seg_splice_ne hfit (.inl (seg_in (by omega)))
    rw [e2]
    exact dk.mono hst.le (hO.known i x hx)
end
end Go.CL

/- Slices of the call's own: overlaps; contracts that hand them on. -/
set_option linter.unusedVariables false
set_option linter.unusedSimpArgs false
namespace Go.CL
open Go Go.RowKit

section
variable {P : Program} {N : Nat} {o : Oper} {uses : Slots} {d : Nat} {q : Pd} {x y z : Operand} {α : Type} {dk : Kd α} {t e : TypeId} {bytes j : Nat} {c : Option Nat}

theorem run_overlaps {w : World} {ps rs : Array TypeId} {A : Option Addr} {la ca lb cb : Nat} {B : Addr} {cur : Array Value} {i : TypeInfo} (hp : ps[0]? = some t) (ht : P.underlying t = some (.slice e)) (hi : P.info? e = some i)
    (hA : la = 0 ∨ ∃ a c2 t2 fr, A = some a ∧ a.block ≠ B.block ∧ w.heap[a.block]? = some (.cells c2 t2 fr) ∧ c2.size ≠ 0) (hB : w.heap[B.block]? = some (.cells cur e (0, 0))) (hc : cur.size ≠ 0) :
    (Extern.SlicesOverlaps.overlaps ps rs #[.slice A la ca, .slice (some B) lb cb]).run P w = .ok (.bool false) w := by
  have hfb : ∀ n, w.frozen? { block := B.block, off := n } = false := fun n => by simp [World.frozen?, hB]
  have hfb' : w.frozen? B = false := by simp [World.frozen?, hB]
  have hsb : w.shape? B.block = some (e, cur.size) := by simp [World.shape?, hB]
  obtain ⟨n, hn⟩ : ∃ n, cur.size = n + 1 := ⟨cur.size - 1, by omega⟩
  rw [hn] at hsb
  change Sem.run P (α := Value) (do
    let some t := ps[0]? | stuck "slices.overlaps: no parameter types"
    let .slice elem ← underlying t | stuck "slices.overlaps: slice type expected"
    let size ← sizeOf elem
    match A, (some B : Option Addr) with
    | some a, some b =>
      if la = 0 ∨ lb = 0 ∨ size = 0 then pure (Value.bool false)
      else if a.block != b.block && (← frozen a) && (← frozen b) then unsupported .addressObserved
      else do
        if a.block != b.block then do
          noView a; noView b
          if ← mayBeOne a b then return Value.bool ((← choose (.extern "sameAddr.stringBytes" 2)) == 1)
        pure (Value.bool (a.block == b.block && a.off < b.off + lb * size && b.off < a.off + la * size))
    | _, _ => pure (Value.bool false)) w = _
  rcases hA with rfl | ⟨a, c2, t2, fr, rfl, hne, ha, hc2⟩
  · cases A <;> simp [hp, run_underlying ht, sizeOf, typeInfo, hi]
  · have hnb : (a.block != B.block) = true := by simpa using hne
    have hnb' : (a.block == B.block) = false := by simpa using hne
    obtain ⟨n2, hn2⟩ : ∃ n, c2.size = n + 1 := ⟨c2.size - 1, by omega⟩
    have hsa : w.shape? a.block = some (t2, n2 + 1) := by simp [World.shape?, ha, hn2]
    by_cases h0 : la = 0 ∨ lb = 0 ∨ i.size = 0
    · simp [hp, run_underlying ht, sizeOf, typeInfo, hi, h0]
    · cases hfa : w.frozen? a <;> cases hfe : w.frozen? { block := a.block, off := n2 + 1 } <;>
        simp [hp, run_underlying ht, sizeOf, typeInfo, hi, h0, hnb, hnb', frozen, noView, viewAt, mayBeOne, stringish, shape, Sem.run, hsa, hsb, hfa, hfe, hfb, hfb']
theorem ob_overlaps {f : FuncId} {fs : List (Option α)} {off len s : Nat} {vs : List α} {ps rs : Array TypeId} {ty : Array TypeId} (hT : TE P t e dk bytes) (hp : ps[0]? = some t) (he : Ext P f (Extern.SlicesOverlaps.overlaps ps rs)) (hfs : 0 < fs.length) (hop : o.op = .call { callee := .value (.func f), args := #[x, y], argTypes := ty }) (hd : o.dst = some d)
    (hx : Opd uses x (dk.sl.pd vs)) (hy : Opd uses y (pView dk e j off len)) (hs : Opd uses (.tmp s) (pOwn dk e j c fs)) : OB P N o uses [(d, pBool false)] [] :=
  ob_val hd fun a g hh => by
    obtain ⟨A, c2, hx1, hx2, hx3, hxr⟩ := sl_cells (hx a g hh)
    obtain ⟨b, cap, cur, hyv, hO, hcap⟩ := hy a g hh
    obtain ⟨b', cap', cur', hsv, hO', _⟩ := hs a g hh
    obtain ⟨rfl, rfl, rfl⟩ := hO.same hO' hT.sz
    obtain ⟨i, zz, hi, hz, hsz, hby, hzs⟩ := hT.info
    have hl := hO'.len
    have hcs : cur'.size ≠ 0 := by rw [hO'.sz]; exact Nat.mul_ne_zero (by omega) (Nat.ne_of_gt hT.sz)
    have hr : (Extern.SlicesOverlaps.overlaps ps rs #[a.eval x, a.eval y]).run P g.w = .ok (.bool false) g.w := by
      rw [hx1, hyv]
      have hblk : (if cap' = off then (⟨b', 0, none⟩ : Addr) else ⟨b', off * dk.sz, none⟩).block = b' := by split <;> rfl
      refine run_overlaps hp hT.und hi ?_ (by rw [hblk]; exact hO'.heap) hcs
      rw [hblk]
      rcases hxr with rfl | ⟨b2, o2, news, rfl, hnl, hnc, hnk⟩
      · exact .inl rfl
      · rcases Nat.eq_zero_or_pos vs.length with h0 | hpos
        · exact .inl h0
        · right
          have h1 : 0 < news.length := by rw [hnl]; exact Nat.mul_pos hpos hT.sz
          obtain ⟨hpr, hcell⟩ := hnc 0 _ (List.getElem?_eq_getElem h1)
          have hne : b2 ≠ b' := fun h => hO'.npr _ (by rw [← h]; exact hpr)
          obtain ⟨cc, tt, fr, hh2, hcs2⟩ : ∃ cc tt fr, g.w.heap[b2]? = some (.cells cc tt fr) ∧ cc.size ≠ 0 := by
            cases hob : g.w.heap[b2]? with
            | none => simp [World.cell?, hob] at hcell
            | some ob => cases ob with
              | cells cc tt fr =>
                refine ⟨cc, tt, fr, rfl, fun h0 => ?_⟩
                have : cc = #[] := Array.eq_empty_of_size_eq_zero h0
                subst this
                simp [World.cell?, hob] at hcell
              | _ => simp [World.cell?, hob] at hcell
          exact ⟨⟨b2, o2, none⟩, cc, tt, fr, rfl, hne, hh2, hcs2⟩
    exact ⟨.bool false, by simp [execOp, hop, resolve, eval_fn, Deferred.ofValue, invoke, ext_run he, hr], bool_q _ g⟩

/-! ### handed on -/
/-- A slice in a block of its own (D), or an empty one. -/
def ArrIn (dk : Kd α) (e : TypeId) (xs : List α) (g : G) (v : Value) (D : Nat → Prop) : Prop :=
  (xs = [] ∧ ∃ A, v = .slice A 0 0) ∨ ∃ b cap cur, v = .slice (some ⟨b, 0, none⟩) xs.length cap ∧ D b ∧ b < g.w.heap.size ∧ g.w.heap[b]? = some (.cells cur e (0, 0)) ∧ xs.length ≤ cap ∧ cap ≤ maxLen ∧ cur.size = cap * dk.sz ∧ (∀ (i : Nat) (x : α), xs[i]? = some x → dk.K g x (seg cur.toList (i * dk.sz) dk.sz)) ∧ ∀ o, ¬ g.pr b o
def pArr (dk : Kd α) (e : TypeId) (j : Nat) (xs : List α) : Pd := ⟨fun g u => (xs = [] ∧ ∃ A, u = .slice A 0 0) ∨ ∃ b cap cur, u = .slice (some ⟨b, 0, none⟩) xs.length cap ∧ OwnAt dk e (j + 1) (xs.map some) g b cap cur, [j + 1], fun s hd h => h.imp id fun ⟨b, cap, cur, e, h⟩ => ⟨b, cap, cur, e, h.st s (hd _ (by simp)) (by omega)⟩⟩
def FnFresh (P : Program) (f : FuncId) (A : List Pd) (dk : Kd α) (e : TypeId) (xs : List α) : Prop := ∀ (g : G) (args : List Value), ArgsOk A g args →
  Calls P f args.toArray g.w (fun en w' => ∃ g' v, en = .returned v ∧ w' = g'.w ∧ StepB (fun _ => False) g g' ∧ ArrIn dk e xs g' v (fun b => g.w.heap.size ≤ b))
def FnEat (P : Program) (f : FuncId) (dk : Kd α) (e : TypeId) (xs : List α) (A : List Pd) (q : Pd) : Prop := ∀ (g : G) (v : Value) (D : Nat → Prop) (args : List Value), ArrIn dk e xs g v D → ArgsOk A g args →
  Calls P f (v :: args).toArray g.w (fun en w' => ∃ g' u, en = .returned u ∧ w' = g'.w ∧ StepB D g g' ∧ q.p g' u)
open Classical in
theorem ob_callFresh {f : FuncId} {xs : List α} {xo : List Operand} {A : List Pd} {ty : Array TypeId} (he : Enters P f) (hok : FnFresh P f A dk e xs) (hop : o.op = .call { callee := .value (.func f), args := xo.toArray, argTypes := ty }) (hd : o.dst = some d) (hargs : OpdL uses xo A) : OB P N o uses [(d, pArr dk e j xs)] [j + 1] := by
  intro a g K Q hN hdN hu hK
  have hr : (execOp a.eval o).run P g.w = .ok (.enter f (xo.map a.eval).toArray) g.w := by
    simp [execOp, hop, resolve, Act.eval, Deferred.ofValue, invoke, enter_run he]
  unfold Oper.wp
  rw [hr]
  show Calls P f _ g.w _
  refine Calls.mono (hok g _ (hargs.ok hu)) ?_
  rintro en w' ⟨g', v, rfl, rfl, hS, hA⟩
  have fin : ∀ (o1 : Nat → Nat), (∀ b, b < g.w.heap.size → o1 b = if g.own b = j + 1 then 0 else g.own b) → (∀ b, g.w.heap.size ≤ b → o1 b = 0 ∨ o1 b = j + 1) → Step [j + 1] g ⟨g'.w, g'.pr, o1, g'.hpr, g'.gl⟩ := fun o1 h1 h2 =>
    ⟨⟨hS.le.size, hS.le.pr, hS.le.cell⟩, hS.os, hS.tape, hS.output, fun b hb hn => ⟨(hS.same b hb id).1, (hS.same b hb id).2, by show o1 b = _; rw [h1 b hb, if_neg (by simpa using hn)]⟩,
      fun b k1 k2 => (h2 b k1).imp id (fun h => by show o1 b ∈ _; rw [h]; simp), fun b hb hn => .inl (by show o1 b = 0; rw [h1 b hb, if_pos (by simpa using hn)])⟩
  rcases hA with ⟨rfl, A0, rfl⟩ | ⟨b, cap, cur, rfl, hD, h1, h2, h3, h4, h5, h6, h7⟩
  · refine hK _ ⟨g'.w, g'.pr, fun b => if b < g.w.heap.size then (if g.own b = j + 1 then 0 else g.own b) else 0, g'.hpr, g'.gl⟩ (fin (fun b => if b < g.w.heap.size then (if g.own b = j + 1 then 0 else g.own b) else 0) (fun b hb => if_pos hb) (fun b hb => .inl (if_neg (by omega)))) fun e' he' => ?_
    rw [List.mem_singleton.1 he', hd, at_put_same _ (by rw [hN]; exact hdN d hd)]
    exact .inl ⟨rfl, A0, rfl⟩
  · refine hK _ ⟨g'.w, g'.pr, fun c => if c < g.w.heap.size then (if g.own c = j + 1 then 0 else g.own c) else if c = b then j + 1 else 0, g'.hpr, g'.gl⟩ (fin _ (fun b hb => if_pos hb) (fun c hc => by
      show (if c < g.w.heap.size then _ else _) = 0 ∨ _ = j + 1
      rw [if_neg (by omega)]; split <;> simp)) fun e' he' => ?_
    rw [List.mem_singleton.1 he', hd, at_put_same _ (by rw [hN]; exact hdN d hd)]
    refine .inr ⟨b, cap, cur, rfl, ⟨h1, ?_, fun b' hb' ho => ?_, h2, by simpa using h3, h4, h5, fun i x hx => ?_, h7⟩⟩
    · show (if b < g.w.heap.size then _ else _) = _
      rw [if_neg (by omega), if_pos rfl]
    · have ho' : (if b' < g.w.heap.size then (if g.own b' = j + 1 then 0 else g.own b') else if b' = b then j + 1 else 0) = j + 1 := ho
      split at ho'
      · split at ho'
        · omega
        · rename_i hne; exact absurd ho' hne
      · split at ho'
        · assumption
        · omega
    · rw [List.getElem?_map] at hx
      obtain ⟨y, hy, he''⟩ := Option.map_eq_some_iff.1 hx
      obtain rfl := Option.some.inj he''
      exact dk.mono (g := g') ⟨Nat.le_refl _, fun _ _ h => h, fun _ _ _ => rfl⟩ (h6 i y hy)
theorem ob_callEat {f : FuncId} {xs : List α} {xo : List Operand} {A : List Pd} {ty : Array TypeId} (he : Enters P f) (hok : FnEat P f dk e xs A q) (hq : q.fp = []) (hop : o.op = .call { callee := .value (.func f), args := (x :: xo).toArray, argTypes := ty }) (hd : o.dst = some d) (hx : Opd uses x (pArr dk e j xs)) (hargs : OpdL uses xo A) : OB P N o uses [(d, q)] [j + 1] := by
  intro a g K Q hN hdN hu hK
  have hr : (execOp a.eval o).run P g.w = .ok (.enter f (a.eval x :: xo.map a.eval).toArray) g.w := by
    simp [execOp, hop, resolve, eval_fn, Deferred.ofValue, invoke, enter_run he]
  unfold Oper.wp
  rw [hr]
  show Calls P f _ g.w _
  have hA : ArrIn dk e xs g (a.eval x) (fun b => g.own b = j + 1) := by
    rcases hx a g hu with h | ⟨b, cap, cur, h1, h2⟩
    · exact .inl h
    · exact .inr ⟨b, cap, cur, h1, h2.own, h2.lt, h2.heap, by simpa using h2.len, h2.max, h2.sz, fun i x hx => h2.known i x (by rw [List.getElem?_map, hx]; rfl), h2.npr⟩
  refine Calls.mono (hok g _ _ _ hA (hargs.ok hu)) ?_
  rintro en w' ⟨g', v, rfl, rfl, hS, hqv⟩
  let g2 : G := ⟨g'.w, g'.pr, fun c => if c < g.w.heap.size then g.own c else 0, g'.hpr, g'.gl⟩
  have hle : g'.le g2 := ⟨Nat.le_refl _, fun _ _ h => h, fun _ _ _ => rfl⟩
  have hown : ∀ c, g2.own c = if c < g.w.heap.size then g.own c else 0 := fun _ => rfl
  refine hK v g2 ⟨⟨hS.le.size, hS.le.pr, hS.le.cell⟩, hS.os, hS.tape, hS.output, fun c hc hn => ?_, fun c k1 k2 => .inl ?_, fun c hc hn => .inr ?_⟩ fun e' he' => ?_
  · obtain ⟨k1, k2⟩ := hS.same c hc (by simpa using hn)
    exact ⟨k1, k2, by rw [hown, if_pos hc]⟩
  · rw [hown, if_neg (by omega)]
  · rw [hown, if_pos hc]; exact hn
  · rw [List.mem_singleton.1 he', hd, at_put_same _ (by rw [hN]; exact hdN d hd)]
    exact Pd.le hq hle rfl rfl rfl hqv
/-! ### their bodies -/
def FreshEnd (dk : Kd α) (e : TypeId) (xs : List α) (g0 : G) (v : Value) (g1 : G) : Prop := Base g0 g1 ∧ ArrIn dk e xs g1 v (fun b => g0.w.heap.size ≤ b)
theorem fnFresh_ok {f : FuncId} {fn : Func} {cd : Code} {A : List Pd} {xs : List α} (hf : P.funcs[f]? = some fn) (hb : fn.body = some cd) (hn : fn.ntmps = N) (hAN : A.length ≤ N) (hA : Free A)
    (h : ∀ (a : Act) (g : G), (∀ b, g.own b = 0) → St N (args0 A 0) a g → Base g g → cd.wp P (bodyPost P fn (FinP (FreshEnd dk e xs g))) a g.w) : FnFresh P f A dk e xs := by
  intro g args hargs
  let g0 : G := ⟨g.w, g.pr, fun _ => 0, g.hpr, g.gl⟩
  have hle : g.le g0 := ⟨Nat.le_refl _, fun _ _ h => h, fun _ _ _ => rfl⟩
  have hst : St N (args0 A 0) { tmps := args.toArray ++ Array.replicate (fn.ntmps - args.toArray.size) undef, defers := [] } g0 := by
    refine ⟨?_, rfl, ?_⟩
    · have := hargs.1
      simp [hn]; omega
    · intro e he
      obtain ⟨i, h1, h2⟩ := args0_at he
      have hi : i < args.length := by rw [hargs.1]; exact (List.getElem?_eq_some_iff.1 h2).1
      have hv : Act.at { tmps := args.toArray ++ Array.replicate (fn.ntmps - args.toArray.size) undef, defers := [] } e.1 = args[i] := by
        rw [h1, Nat.zero_add]
        simp only [Act.at, Array.getD_eq_getD_getElem?]
        rw [Array.getElem?_append, if_pos (by simpa using hi)]
        simp [hi]
      rw [hv]
      exact Pd.le (hA.at h2) hle rfl rfl rfl (hargs.2 i e.2 _ h2 (List.getElem?_eq_getElem hi))
  have hbase : Base g0 g0 := ⟨.refl _, rfl, rfl, rfl, fun _ _ _ => ⟨rfl, rfl, rfl⟩⟩
  refine Calls.mono (calls_of_wp hf hb (h _ g0 (fun _ => rfl) hst hbase)) ?_
  rintro en w' ⟨g1, v, rfl, rfl, hB, hv⟩
  exact ⟨g1, v, rfl, rfl, ⟨⟨hB.le.size, hB.le.pr, hB.le.cell⟩, hB.os, hB.tape, hB.output, fun b hb _ => ⟨(hB.same b hb rfl).1, (hB.same b hb rfl).2.1⟩⟩, hv⟩
theorem endFresh {fn : Func} {r : ResultVar} {v : Value} {xs : List α} {a : Act} {g g0 : G} {L : Slots} (hr : fn.results = #[r]) (h0 : ∀ b, g0.own b = 0) (h : St N L a g) (hb : Base g0 g) (h1 : ResOk P a g r v) (hq : (pOwn dk e j c (xs.map some)).p g v) : bodyPost P fn (FinP (FreshEnd dk e xs g0)) .ret a g.w := by
  refine endP hr h h1 ⟨hb, ?_⟩
  obtain ⟨b, cap, cur, e1, hO, _⟩ := hq
  refine .inr ⟨b, cap, cur, by rw [e1]; simp, Nat.le_of_not_lt fun hlt => ?_, hO.lt, hO.heap, by simpa using hO.len, hO.max, hO.sz, fun i x hx => hO.known i x (by rw [List.getElem?_map, hx]; rfl), hO.npr⟩
  have := (hb.same b hlt (h0 b)).2.2
  rw [hO.own] at this; omega
theorem endFreshNil {fn : Func} {r : ResultVar} {v : Value} {a : Act} {g g0 : G} {L : Slots} (hr : fn.results = #[r]) (h : St N L a g) (hb : Base g0 g) (h1 : ResOk P a g r v) (hq : ∃ A, v = .slice A 0 0) : bodyPost P fn (FinP (FreshEnd dk e [] g0)) .ret a g.w := endP hr h h1 ⟨hb, .inl ⟨rfl, hq⟩⟩
/-- From here on it is only read. -/
theorem freeze {xs : List α} {g g0 : G} {b cap : Nat} {cur : Array Value} (hb : Base g0 g) (hO : OwnAt dk e (j + 1) (xs.map some) g b cap cur) : ∃ g', g'.w = g.w ∧ Base g0 g' ∧ (dk.sl.pd xs).p g' (.slice (some ⟨b, 0, none⟩) xs.length cap) := by
  let g' : G := ⟨g.w, fun b' o => g.pr b' o ∨ b' = b, g.own, fun b' o h => h.elim (g.hpr b' o) (fun h => by rw [h]; exact hO.lt), g.gl.le (fun _ _ h => .inl h) (fun _ _ _ => rfl)⟩
  have hle : g.le g' := ⟨Nat.le_refl _, fun _ _ h => .inl h, fun _ _ _ => rfl⟩
  have hl := hO.len
  rw [List.length_map] at hl
  have hm := hO.max
  refine ⟨g', rfl, ⟨hb.le.trans hle, hb.os, hb.tape, hb.output, fun c hc h0 => ?_⟩, Kd.sl_V.2 ⟨_, cap, rfl, hl, by simp only [maxLen] at hm; omega, .inr ⟨b, 0, rfl, fun i x hx => ?_⟩⟩⟩
  · obtain ⟨k1, k2, k3⟩ := hb.same c hc h0
    refine ⟨k1, ?_, k3⟩
    have hcb : c ≠ b := fun h => by rw [h, hO.own] at k3; omega
    funext o
    show (g.pr c o ∨ c = b) = _
    rw [← k2]; simp [hcb]
  · refine ⟨_, dk.mono hle (hO.known i x (by rw [List.getElem?_map, hx]; rfl)), fun k u hk => ⟨.inr rfl, ?_⟩⟩
    simp only [seg, List.getElem?_take, List.getElem?_drop] at hk
    split at hk
    · show g.w.cell? _ = _
      simp only [World.cell?, hO.heap]
      simpa using hk
    · cases hk
def EatEnd (g0 : G) (q : Pd) (v : Value) (g1 : G) : Prop := Base g0 g1 ∧ q.p g1 v
theorem fnEat_ok {f : FuncId} {fn : Func} {cd : Code} {A : List Pd} {xs : List α} (hf : P.funcs[f]? = some fn) (hb : fn.body = some cd) (hn : fn.ntmps = N) (hAN : A.length + 1 ≤ N) (hA : Free A)
    (h0 : xs = [] → ∀ (a : Act) (g : G) (A0 : Option Addr), St N ((0, pEq (.slice A0 0 0)) :: args0 A 1) a g → Base g g → cd.wp P (bodyPost P fn (FinP (EatEnd g q))) a g.w)
    (h : ∀ (a : Act) (g : G) (cap : Nat), xs.length ≤ cap → cap ≤ maxLen → St N ((0, pOwn dk e 0 (some cap) (xs.map some)) :: args0 A 1) a g → Base g g → cd.wp P (bodyPost P fn (FinP (EatEnd g q))) a g.w) : FnEat P f dk e xs A q := by
  intro g v D args hv hargs
  have hlen := hargs.1
  have hat : ∀ (i : Nat) (u : Value), (v :: args)[i]? = some u → Act.at { tmps := (v :: args).toArray ++ Array.replicate (fn.ntmps - (v :: args).toArray.size) undef, defers := [] } i = u := fun i u hi => by
    have hlt := (List.getElem?_eq_some_iff.1 hi).1
    simp only [Act.at, Array.getD_eq_getD_getElem?]
    rw [Array.getElem?_append, if_pos (by simpa using hlt)]
    have hi' : ((v :: args).toArray)[i]? = some u := by rw [List.getElem?_toArray]; exact hi
    rw [hi']; rfl
  have hrest : ∀ (g0 : G), g.le g0 → g0.w = g.w → Holds (args0 A 1) { tmps := (v :: args).toArray ++ Array.replicate (fn.ntmps - (v :: args).toArray.size) undef, defers := [] } g0 := fun g0 hle hw e' he' => by
    obtain ⟨i, e1, e2⟩ := args0_at he'
    have hi : i < args.length := by rw [hlen]; exact (List.getElem?_eq_some_iff.1 e2).1
    rw [hat e'.1 args[i] (by rw [e1, Nat.add_comm]; exact List.getElem?_eq_getElem hi)]
    exact Pd.le (hA.at e2) hle (by rw [hw]) (by rw [hw]) (by rw [hw]) (hargs.2 i e'.2 _ e2 (List.getElem?_eq_getElem hi))
  rcases hv with ⟨hx0, A0, rfl⟩ | ⟨b, cap, cur, rfl, hD, h1, h2, h3, h4, h5, h6, h7⟩
  · let g0 : G := ⟨g.w, g.pr, fun _ => 0, g.hpr, g.gl⟩
    have hle : g.le g0 := ⟨Nat.le_refl _, fun _ _ h => h, fun _ _ _ => rfl⟩
    refine Calls.mono (calls_of_wp hf hb (h0 hx0 _ g0 A0 ⟨by simp [hn]; omega, rfl, fun e' he' => ?_⟩ ⟨.refl _, rfl, rfl, rfl, fun _ _ _ => ⟨rfl, rfl, rfl⟩⟩)) ?_
    · rcases List.mem_cons.1 he' with rfl | he'
      · exact hat 0 _ rfl
      · exact hrest g0 hle rfl e' he'
    · rintro en w' ⟨g1, u, rfl, rfl, hB, hq⟩
      exact ⟨g1, u, rfl, rfl, ⟨⟨hB.le.size, hB.le.pr, hB.le.cell⟩, hB.os, hB.tape, hB.output, fun b hb _ => ⟨(hB.same b hb rfl).1, (hB.same b hb rfl).2.1⟩⟩, hq⟩
  · let g0 : G := ⟨g.w, g.pr, fun c => if c = b then 1 else 0, g.hpr, g.gl⟩
    have hle : g.le g0 := ⟨Nat.le_refl _, fun _ _ h => h, fun _ _ _ => rfl⟩
    refine Calls.mono (calls_of_wp hf hb (h _ g0 cap h3 h4 ⟨by simp [hn]; omega, rfl, fun e' he' => ?_⟩ ⟨.refl _, rfl, rfl, rfl, fun _ _ h => ⟨rfl, rfl, h⟩⟩)) ?_
    · rcases List.mem_cons.1 he' with rfl | he'
      · show (pOwn dk e 0 (some cap) (xs.map some)).p g0 _
        rw [hat 0 _ rfl]
        refine ⟨b, cap, cur, by simp, ⟨h1, if_pos rfl, fun b' _ ho => ?_, h2, by simpa using h3, h4, h5, fun i x hx => ?_, h7⟩, fun k hk => Option.some.inj hk⟩
        · have : (if b' = b then 1 else 0) = 1 := ho
          split at this
          · assumption
          · omega
        · rw [List.getElem?_map] at hx
          obtain ⟨y, hy, he''⟩ := Option.map_eq_some_iff.1 hx
          obtain rfl := Option.some.inj he''
          exact dk.mono hle (h6 i y hy)
      · exact hrest g0 hle rfl e' he'
    · rintro en w' ⟨g1, u, rfl, rfl, hB, hq⟩
      refine ⟨g1, u, rfl, rfl, ⟨⟨hB.le.size, hB.le.pr, hB.le.cell⟩, hB.os, hB.tape, hB.output, fun c hc hn' => ?_⟩, hq⟩
      have := hB.same c hc (by show (if c = b then 1 else 0) = 0; rw [if_neg (fun h => hn' (by rw [h]; exact hD))])
      exact ⟨this.1, this.2.1⟩
theorem endEat {fn : Func} {r : ResultVar} {v : Value} {xs : List α} {a : Act} {g g0 : G} {L : Slots} (hr : fn.results = #[r]) (h : St N L a g) (hb : Base g0 g) (h1 : ResOk P a g r v) (hq : (pOwn dk e j c (xs.map some)).p g v) : bodyPost P fn (FinP (EatEnd g0 (dk.sl.pd xs))) .ret a g.w := by
  obtain ⟨b, cap, cur, e1, hO, _⟩ := hq
  obtain ⟨g', hw, hB, hp⟩ := freeze hb hO
  refine ⟨h.df, v, ?_, g', v, rfl, hw.symm, hB, by rw [e1, List.length_map]; exact hp⟩
  have h1' : (resSem a.tmps r).run P g.w = .ok v g.w := h1
  simp [results_eq, hr, h1']
/-! ### empty ones; what Insert and Delete leave -/
theorem ob_sliceE {A : Option Addr} (hT : TE P t e dk bytes) (hop : o.op = .slice t x (some y) none none) (hx : Opd uses x (pEq (.slice A 0 0))) (hy : Opd uses y (pInt .i64 0)) : OB P N o uses [] [] := by
  intro a g K Q hN hdN hu hK
  have hv : a.eval x = .slice A 0 0 := hx a g hu
  obtain ⟨i, zz, hi, hz, hsz, hby, hzs⟩ := hT.info
  have hb : ∀ w cd, (Instr.sliceBound (a.eval y) 0 cd).run P w = .ok 0 w := fun w cd => run_bound (pInt_iff.1 (hy a g hu)) (Nat.le_refl _)
  have hr : ∃ v, (execOp a.eval o).run P g.w = .ok (.value v) g.w := by
    simp [execOp, hop, hv, Instr.sliceAt, Instr.slice, Instr.sliceBounds, run_underlying hT.und, hb, sizeOf, typeInfo, hi]
  obtain ⟨v, hr⟩ := hr
  unfold Oper.wp
  rw [hr]
  exact hK v g (.refl _ _) (fun e he => by cases he)
theorem ob_lenE {A : Option Addr} {t : TypeId} (ht : P.underlying t = some (.slice e)) (hop : o.op = .call { callee := .builtin .len, args := #[x], argTypes := #[t] }) (hd : o.dst = some d) (hx : Opd uses x (pEq (.slice A 0 0))) : OB P N o uses [(d, pInt .i64 0)] [] :=
  ob_val hd fun a g hh => by
    have hv : a.eval x = .slice A 0 0 := hx a g hh
    exact ⟨.int .i64 0, by simp [execOp, hop, resolve, invoke, builtin, hv, Builtin.len_, run_underlying ht, goInt], int_q _ _ g⟩
theorem ob_appendE {A : Option Addr} {vs : List α} (hT : TE P t e dk bytes) (hop : o.op = .call { callee := .builtin .append, args := #[x, y], argTypes := #[t, t] }) (hd : o.dst = some d) (hx : Opd uses x (pEq (.slice A 0 0))) (hy : Opd uses y (dk.sl.pd vs)) (hpos : 0 < vs.length) (hl : vs.length * bytes ≤ 140737488355328) :
    OB P N o uses [(d, pOwn dk e j none (vs.map some))] [j + 1] :=
  ob_step hd fun a g hh => by
    have hv : a.eval x = .slice A 0 0 := hx a g hh
    obtain ⟨A2, c2, hy1, hy2, hy3, hyr⟩ := sl_cells (hy a g hh)
    obtain ⟨i, zz, hi, hz, hsz, hby, hzs⟩ := hT.info
    have hlen : vs.length ≤ 140737488355328 := Nat.le_trans (Nat.le_mul_of_pos_right _ hT.by0) hl
    obtain ⟨b2, o2, news, rfl, hnl, hnc, hnk⟩ := hyr.resolve_left (fun h => by rw [h] at hpos; simp at hpos)
    have hnl' : news.length = vs.length * i.size := by rw [hsz]; exact hnl
    have hnews : ∀ k u, news[k]? = some u → g.w.cell? ((⟨b2, o2, none⟩ : Addr).add k) = some u := fun k u hu => by rw [add_none]; exact (hnc k u hu).2
    have hge := grownCap_ge g.w vs.length 0 e
    have hmx := grownCap_le_maxLen g.w vs.length 0 e (by simp only [maxLen]; omega)
    have hr : (Builtin.append_ #[t, t] o.type #[.slice A 0 0, .slice (some ⟨b2, o2, none⟩) vs.length c2]).run P g.w = .ok (.slice (some ⟨g.w.heap.size, 0, none⟩) vs.length (grownCap g.w vs.length 0 e)) (g.w.drew.alloc (.cells (news.toArray ++ Builtin.zeroCells zz.cells (grownCap g.w vs.length 0 e - vs.length)) e)) := by
      cases A with
      | none => exact run_append_nil (P := P) g.w t o.type e i zz hT.und hi hz ⟨b2, o2, none⟩ vs.length c2 news hnl' hnews hpos (by omega) (by rw [hby]; omega)
      | some A =>
        have := run_append_grow (P := P) g.w t o.type e i zz hT.und hi hz A 0 0 [] (by simp) (fun j u hu => by simp at hu) ⟨b2, o2, none⟩ vs.length c2 news hnl' hnews (by omega) (by omega) (growslice_fits (by omega) (by rw [hby, Nat.zero_add]; exact hl))
        simpa using this
    obtain ⟨g', hw, hst, hO3⟩ := own_push (dk := dk) (e := e) (g := g) (j := j + 1) (cur := news.toArray ++ Builtin.zeroCells zz.cells (grownCap g.w vs.length 0 e - vs.length)) (cap := grownCap g.w vs.length 0 e) (fs := vs.map some) (by omega) (by simpa using hge) hmx (by
        simp only [Array.size_append, List.size_toArray, zeroCells_size, hzs, hnl, ← Nat.add_mul]
        congr 1; omega) (fun k u hk => by
        rw [List.getElem?_map] at hk
        obtain ⟨u', hu', he'⟩ := Option.map_eq_some_iff.1 hk
        obtain rfl := Option.some.inj he'
        simp only [Array.toList_append]
        rw [seg_append_left (by rw [hnl]; exact seg_in (List.getElem?_eq_some_iff.1 hu').1)]
        exact hnk _ _ hu')
    refine ⟨_, g', ?_, hst, _, _, _, rfl, hO3, fun k hk => by cases hk⟩
    rw [List.length_map]
    simp [execOp, hop, resolve, invoke, builtin, hv, hy1, hr, hw]
theorem over_ext {fs : List (Option α)} {off : Nat} {ws : List α} (h : off + ws.length ≤ fs.length) : ∀ i, (over fs off ws)[i]? = if i < off then fs[i]? else if i < off + ws.length then (ws[i - off]?).map some else fs[i]? := over_get h
theorem ins_get (xs vs : List α) (k i : Nat) (hk : k ≤ xs.length) : ((xs.take k ++ vs ++ xs.drop k).map some)[i]? = if i < k then (xs[i]?).map some else if i < k + vs.length then (vs[i - k]?).map some else (xs[i - vs.length]?).map some := by
  have h1 : (xs.take k).length = k := by simp; omega
  rw [List.getElem?_map, List.append_assoc, List.getElem?_append, h1]
  by_cases a : i < k
  · rw [if_pos a, if_pos a, List.getElem?_take, if_pos a]
  · rw [if_neg a, if_neg a, List.getElem?_append]
    by_cases b : i < k + vs.length
    · rw [if_pos b, if_pos (by omega)]
    · rw [if_neg b, if_neg (by omega), List.getElem?_drop]
      congr 2; omega
theorem ins1 {xs vs : List α} {k : Nat} (hk : k ≤ xs.length) : over (over ((xs.take k).map some ++ List.replicate (xs.length + vs.length - k) none) k vs) (k + vs.length) (xs.drop k) = (xs.take k ++ vs ++ xs.drop k).map some := by
  have hl : ((xs.take k).map some ++ List.replicate (xs.length + vs.length - k) (none : Option α)).length = xs.length + vs.length := by simp; omega
  apply List.ext_getElem?
  intro i
  rw [over_get (by rw [over_len (by rw [hl]; omega), hl]; simp; omega), over_get (by rw [hl]; omega), ins_get xs vs k i hk]
  have hd : (xs.drop k).length = xs.length - k := by simp
  by_cases a : i < k
  · rw [if_pos (by omega), if_pos a, if_pos a, List.getElem?_append_left (by simp; omega), List.getElem?_map, List.getElem?_take, if_pos a]
  · by_cases b : i < k + vs.length
    · rw [if_pos b, if_neg a, if_pos b, if_neg a, if_pos b]
    · rw [if_neg b, if_neg a, if_neg b]
      by_cases c : i < xs.length + vs.length
      · rw [if_pos (by rw [hd]; omega), List.getElem?_drop]
        rw [show k + (i - (k + vs.length)) = i - vs.length by omega, if_neg a, if_neg b]
      · rw [if_neg (by rw [hd]; omega), if_neg a, if_neg b, List.getElem?_eq_none (by rw [hl]; omega), List.getElem?_eq_none (by omega)]; rfl
theorem ins2 {xs vs : List α} {k : Nat} (hk : k ≤ xs.length) : over (over (xs.map some ++ List.replicate (xs.length + vs.length - (xs.map some).length) none) (k + vs.length) (xs.drop k)) k vs = (xs.take k ++ vs ++ xs.drop k).map some := by
  have hl : (xs.map some ++ List.replicate (xs.length + vs.length - (xs.map some).length) (none : Option α)).length = xs.length + vs.length := by simp
  have hd : (xs.drop k).length = xs.length - k := by simp
  apply List.ext_getElem?
  intro i
  rw [over_get (by rw [over_len (by rw [hl, hd]; omega), hl]; omega), over_get (by rw [hl, hd]; omega), ins_get xs vs k i hk]
  by_cases a : i < k
  · rw [if_pos a, if_pos (by omega), if_pos a, List.getElem?_append_left (by simp; omega), List.getElem?_map]
  · by_cases b : i < k + vs.length
    · rw [if_neg a, if_pos b, if_neg a, if_pos b]
    · rw [if_neg a, if_neg b, if_neg b, if_neg a, if_neg b]
      by_cases c : i < xs.length + vs.length
      · rw [if_pos (by rw [hd]; omega), List.getElem?_drop]
        rw [show k + (i - (k + vs.length)) = i - vs.length by omega]
      · rw [if_neg (by rw [hd]; omega), List.getElem?_eq_none (by rw [hl]; omega), List.getElem?_eq_none (by omega)]; rfl
theorem wr_nn {a b : Nat} (h : a + b ≤ 9223372036854775807) : IntKind.i64.wrap ((a : Int) + (b : Int)) = ((a + b : Nat) : Int) := by rw [wrap_in (by omega) (by omega)]; omega
theorem wr_sub {x : Nat} {n k : Nat} (hx : x = n) (h : k ≤ n) (hn : n ≤ 9223372036854775807) : IntKind.i64.wrap ((x : Int) - (k : Int)) = ((n - k : Nat) : Int) := by rw [wrap_in (by omega) (by omega)]; omega
theorem take_known (xs : List α) (k : Nat) : ∀ (i : Nat) (x : α), (xs.take k)[i]? = some x → (xs.map some)[i]? = some (some x) := fun i x hx => by
  rw [List.getElem?_take] at hx
  split at hx
  · rw [List.getElem?_map, hx]; rfl
  · cases hx
theorem drop_known (xs : List α) (k : Nat) : ∀ (i : Nat) (x : α), (xs.drop k)[i]? = some x → (xs.map some)[k + i]? = some (some x) := fun i x hx => by
  rw [List.getElem?_drop] at hx
  rw [List.getElem?_map, hx]; rfl
theorem ob_callB2 {f : FuncId} {Ps : List Par} {xs : List Operand} {hs : List Home} {ty : Array TypeId} {outs : Slots} {S : List Nat} (he : Enters P f) (hok : FnB P f Ps q) (hop : o.op = .call { callee := .value (.func f), args := xs.toArray, argTypes := ty }) (hd : o.dst = some d) (hq : q.fp = []) (hx : OpB uses Ps xs hs) (hne : (hs.all fun h => h.1 != d) = true)
    (ho : outs = (d, q) :: outsB Ps hs) (hS : S = SB hs) : OB P N o uses outs S := by subst ho; subst hS; exact ob_callB he hok hop hd hq hne hx
theorem ob_callCB2 {f : FuncId} {C : List Pd} {Ps Qs : List Par} {xs : List Operand} {hs ks : List Home} {ty : Array TypeId} {outs : Slots} {S : List Nat} (he : Enters P f) (hok : FnB P f (Ps ++ Qs) q) (hop : o.op = .call { callee := .value x, args := xs.toArray, argTypes := ty }) (hd : o.dst = some d) (hq : q.fp = []) (hf : Opd uses x (pCloB f C)) (hx : OpB uses Ps xs hs) (hc : CapB uses C Qs ks)
    (hne : ((hs ++ ks).all fun h => h.1 != d) = true) (hj : (hs.all fun h => ks.all fun k => k.2.2 != h.2.2) = true) (ho : outs = (d, q) :: outsB (Ps ++ Qs) (hs ++ ks)) (hS : S = SB (hs ++ ks)) : OB P N o uses outs S := by
  subst ho; subst hS; exact ob_callCB he hok hop hd hq hne hj hf hx hc
/-! ### functions' values of a table -/
/-- A function's value that does what Φ tells, with what it has caught. -/
def pFun (P : Program) (Φ : FuncId → List Pd → Prop) : Pd := ⟨fun g v => ∃ (f : FuncId) (C : List Pd) (caps : List Value), v = .func (.func f) #[] caps.toArray ∧ Enters P f ∧ Free C ∧ Φ f C ∧ ArgsOk C g caps ∧ (∀ q ∈ C, ∀ (g g' : G) (u : Value), g.le g' → q.p g u → q.p g' u), [], fun s _ ⟨f, C, caps, h1, h2, h3, h4, h5, h6⟩ => ⟨f, C, caps, h1, h2, h3, h4, ⟨h5.1, fun i qi u hq hu => qi.st s (by rw [h3.at hq]; intro j hj; cases hj) (h5.2 i qi u hq hu)⟩, h6⟩⟩
theorem ob_callFun {Φ : FuncId → List Pd → Prop} {Ps : List Par} {xs : List Operand} {hs : List Home} {ty : Array TypeId} {outs : Slots} {S : List Nat} (hΦ : ∀ f C, Φ f C → FnB P f (Ps ++ C.map .val) q) (hop : o.op = .call { callee := .value x, args := xs.toArray, argTypes := ty }) (hd : o.dst = some d) (hq : q.fp = []) (hf : Opd uses x (pFun P Φ)) (hx : OpB uses Ps xs hs) (hne : (hs.all fun h => h.1 != d) = true)
    (ho : outs = (d, q) :: outsB Ps hs) (hS : S = SB hs) : OB P N o uses outs S := by
  subst ho; subst hS
  refine callB_core2 hq hd (fun h hh => by simpa using List.all_eq_true.1 hne h hh) fun a g hu => ?_
  obtain ⟨f, C, caps, h1, h2, h3, h4, h5, _⟩ := hf a g hu
  refine ⟨f, Ps ++ C.map .val, xs.map a.eval ++ caps, hΦ f C h4, outsB_app.symm, ?_, ?_⟩
  · simp [execOp, hop, resolve, h1, Deferred.ofValue, invoke, enter_run h2]
  · have := valB_app (hx.ok hu) (valB_vals (a := a) h5) (fun h _ k hk => by cases hk)
    rwa [List.append_nil] at this
/-- A table of functions' values: some of its places are told. -/
def pTab (P : Program) (n : Nat) (Φ : Nat → Option (FuncId → List Pd → Prop)) : Pd := ⟨fun g v => ∃ cs : List Value, v = .agg cs.toArray ∧ cs.length = n ∧ ∀ (k : Nat) (F : FuncId → List Pd → Prop) (u : Value), Φ k = some F → cs[k]? = some u → (pFun P F).p g u, [], fun s hd ⟨cs, h1, h2, h3⟩ => ⟨cs, h1, h2, fun k F u hF hu => (pFun P F).st s (fun j hj => by cases hj) (h3 k F u hF hu)⟩⟩
theorem ob_tabIndex {t e : TypeId} {n : Nat} {i : Int} {Φ : Nat → Option (FuncId → List Pd → Prop)} {F : FuncId → List Pd → Prop} (ht : P.underlying t = some (.array n e)) (hs : (P.info? e).map (·.size) = some 1) (hu : ∃ u, P.underlying e = some u ∧ (match u with | .struct _ | .array _ _ => true | _ => false) = false) (h0 : 0 ≤ i) (hF : Φ i.toNat = some F) (hn : i.toNat < n)
    (hop : o.op = .index t x y) (hd : o.dst = some d) (hx : Opd uses x (pTab P n Φ)) (hy : Opd uses y (pInt .i64 i)) : OB P N o uses [(d, pFun P F)] [] :=
  ob_val hd fun a g hh => by
    obtain ⟨cs, hv, hl, h3⟩ := hx a g hh
    have hyv := pInt_iff.1 (hy a g hh)
    have hlt : i.toNat < cs.length := by omega
    obtain ⟨u, hu1, hu2⟩ := hu
    have hag : (isAgg e).run P g.w = .ok false g.w := by
      unfold isAgg
      simp only [Sem.run_bind, run_underlying hu1, Result.andThen_ok]
      cases u <;> first | rfl | simp at hu2
    refine ⟨cs[i.toNat], ?_, h3 i.toNat F _ hF (List.getElem?_eq_getElem hlt)⟩
    have h1 : i < (n : Int) := by omega
    simp [execOp, hop, hv, hyv, Instr.index, asIntOf, run_underlying ht, h0, h1, sizeOf_run hs, part, hag, hlt]
/-- A function's value that has caught nothing, as a datum. -/
def Kd.fnc : Kd Nat := Kd.scalar (fun f => .func (.func f) #[] #[]) fun _ => rfl
theorem Opd.fncv {f : Nat} : Opd uses (.func f) (Kd.fnc.pd f) := fun _ _ _ => Kd.scalar_V.2 rfl
theorem fnc_clo {f : Nat} {g : G} {v : Value} (h : (Kd.fnc.pd f).p g v) : (pClo f [] rfl).p g v := by
  obtain ⟨cs, rfl, rfl⟩ := h
  exact ⟨[], rfl, argsOk_nil⟩
theorem fnc_ptr_mono {f : Nat} : ∀ q ∈ [Kd.fnc.ptr f], ∀ (g g' : G) (u : Value), g.le g' → q.p g u → q.p g' u := fun q hq g g' u hle h => by
  rw [List.mem_singleton.1 hq] at h ⊢
  obtain ⟨b, o, cs, e, hk, hc⟩ := h
  exact ⟨b, o, cs, e, Kd.fnc.mono hle hk, hc.mono hle⟩
theorem pFun_le {Φ : FuncId → List Pd → Prop} {g g' : G} {v : Value} (h : g.le g') (hv : (pFun P Φ).p g v) : (pFun P Φ).p g' v := by
  obtain ⟨f, C, caps, h1, h2, h3, h4, h5, h6⟩ := hv
  exact ⟨f, C, caps, h1, h2, h3, h4, ⟨h5.1, fun i qi u hq hu => h6 qi (List.mem_of_getElem? hq) _ _ _ h (h5.2 i qi u hq hu)⟩, h6⟩
abbrev TabT := Nat → Option (FuncId → List Pd → Prop)
/-- A table as a datum. -/
def Kd.tab (P : Program) (n : Nat) (hn : n ≠ 1) : Kd TabT where
  sz := n
  ag := true
  K := fun g Φ cs => cs.length = n ∧ (∀ u ∈ cs, u.oneCell' = true) ∧ ∀ (k : Nat) (F : FuncId → List Pd → Prop) (u : Value), Φ k = some F → cs[k]? = some u → (pFun P F).p g u
  len := fun h => h.1
  one := fun h => h.2.1
  mono := fun hle h => ⟨h.1, h.2.1, fun k F u hF hu => pFun_le hle (h.2.2 k F u hF hu)⟩
  nag := fun h => by cases h
theorem tab_pTab {n : Nat} {hn : n ≠ 1} {Φ : TabT} {g : G} {v : Value} (h : ((Kd.tab P n hn).pd Φ).p g v) : (pTab P n Φ).p g v := by
  obtain ⟨cs, ⟨h1, h2, h3⟩, rfl⟩ := h
  exact ⟨cs, rfl, h1, h3⟩
theorem run_buildArr {t e : TypeId} {n : Nat} {zero : Value} (hu : P.underlying t = some (.array n e)) (hz : (P.info? t).bind (·.zero) = some zero) (hs : (P.info? e).map (·.size) = some 1) {parts : Array (Nat × Value)} {cells : Array Value}
    (hf : Instr.fill (fun i => some (i * 1, 1)) zero.cells parts.toList = some cells) (w : World) : (Instr.build t parts).run P w = .ok (.agg cells) w := by
  obtain ⟨i, hi, hz⟩ := Option.bind_eq_some_iff.1 hz
  have hf' : Instr.fill (fun i => some (i, 1)) zero.cells parts.toList = some cells := by simpa using hf
  simp [Instr.build, zeroValue, typeInfo, hi, hz, run_underlying hu, sizeOf_run hs, hf']
end
end Go.CL

/- Floats by their bits: how two stand to each other. No program in sight. -/
set_option linter.unusedVariables false
set_option linter.unusedSimpArgs false
namespace Go.CL
open Go

def INF : Nat := 9218868437227405312
def TOP : Nat := 9223372036854775808
def BIN : Nat := 4503599627370496
def rg (b : Nat) : Nat := b % TOP
def isn (b : Nat) : Prop := INF < rg b
instance (b : Nat) : Decidable (isn b) := inferInstanceAs (Decidable (INF < rg b))
def sg (b : Nat) : Int := if TOP ≤ b then -((b - TOP : Nat) : Int) else (b : Int)
def ngb (b : Nat) : Bool := b / TOP % 2 == 1
def least : Int := Ieee.double.leastPlace
theorem read_eq (b : Nat) : Ieee.double.read b = if rg b < BIN then .number (ngb b) (rg b) least else if rg b < INF then .number (ngb b) (BIN + rg b % BIN) (least + (rg b / BIN - 1 : Nat)) else if rg b = INF then .infinity (ngb b) else .nan (ngb b) (rg b - INF) := rfl
def mg (r : Nat) : Nat := if r < BIN then r else (BIN + r % BIN) * 2 ^ (r / BIN - 1)
theorem mg_lt {r s : Nat} (h : r < s) : mg r < mg s := by
  unfold mg
  have hB : 0 < BIN := by decide
  by_cases hr : r < BIN
  · rw [if_pos hr]
    by_cases hs : s < BIN
    · rw [if_pos hs]; exact h
    · rw [if_neg hs]
      have : 1 ≤ 2 ^ (s / BIN - 1) := Nat.one_le_two_pow
      calc r < BIN := hr
        _ ≤ BIN + s % BIN := Nat.le_add_right _ _
        _ ≤ (BIN + s % BIN) * 2 ^ (s / BIN - 1) := Nat.le_mul_of_pos_right _ this
  · have hs : ¬ s < BIN := by omega
    rw [if_neg hr, if_neg hs]
    have h1 : 1 ≤ r / BIN := (Nat.le_div_iff_mul_le hB).2 (by omega)
    have hq : r / BIN ≤ s / BIN := Nat.div_le_div_right (Nat.le_of_lt h)
    have er := Nat.div_add_mod r BIN
    have es := Nat.div_add_mod s BIN
    have hm : r % BIN < BIN := Nat.mod_lt _ hB
    rcases Nat.lt_or_eq_of_le hq with hlt | heq
    · have h2 : 2 ^ (r / BIN - 1) * 2 ≤ 2 ^ (s / BIN - 1) := by
        rw [← Nat.pow_succ]
        exact Nat.pow_le_pow_right (by decide) (by omega)
      have hp : 0 < 2 ^ (r / BIN - 1) := Nat.two_pow_pos _
      calc (BIN + r % BIN) * 2 ^ (r / BIN - 1) < (BIN + BIN) * 2 ^ (r / BIN - 1) := Nat.mul_lt_mul_of_pos_right (by omega) hp
        _ = BIN * (2 ^ (r / BIN - 1) * 2) := by rw [← Nat.two_mul, Nat.mul_comm (2 ^ (r / BIN - 1)) 2, ← Nat.mul_assoc, Nat.mul_comm BIN 2]
        _ ≤ BIN * 2 ^ (s / BIN - 1) := Nat.mul_le_mul_left _ h2
        _ ≤ (BIN + s % BIN) * 2 ^ (s / BIN - 1) := Nat.mul_le_mul_right _ (Nat.le_add_right _ _)
    · rw [heq]
      rw [heq] at er
      exact Nat.mul_lt_mul_of_pos_right (by omega) (Nat.two_pow_pos _)
theorem mg_inj {r s : Nat} : mg r = mg s ↔ r = s := by
  constructor
  · intro h
    rcases Nat.lt_trichotomy r s with hlt | heq | hgt
    · have := mg_lt hlt; omega
    · exact heq
    · have := mg_lt hgt; omega
  · intro h; rw [h]
theorem mg_lt_iff {r s : Nat} : mg r < mg s ↔ r < s := by
  constructor
  · intro h
    rcases Nat.lt_trichotomy r s with hlt | heq | hgt
    · exact hlt
    · rw [heq] at h; omega
    · have := mg_lt hgt; omega
  · exact mg_lt
def sgn (s : Bool) (n : Nat) : Int := if s then -(n : Int) else n
theorem sgn_lt {s t : Bool} {m n r q : Nat} (h : m < n ↔ r < q) (h' : n < m ↔ q < r) (h0 : m = 0 ↔ r = 0) (h0' : n = 0 ↔ q = 0) : sgn s m < sgn t n ↔ sgn s r < sgn t q := by
  cases s <;> cases t <;> simp [sgn] <;> omega
theorem sgn_eq {s t : Bool} {m n r q : Nat} (h : m < n ↔ r < q) (h' : n < m ↔ q < r) (h0 : m = 0 ↔ r = 0) (h0' : n = 0 ↔ q = 0) : sgn s m = sgn t n ↔ sgn s r = sgn t q := by
  cases s <;> cases t <;> simp [sgn] <;> omega
theorem cmp_lt (a b : Int) : compare a b = .lt ↔ a < b := by
  simp only [compare, compareOfLessAndEq]
  split
  · simp [*]
  · split <;> simp [*]
theorem cmp_eq (a b : Int) : compare a b = .eq ↔ a = b := by
  simp only [compare, compareOfLessAndEq]
  split
  · rename_i h; simp; omega
  · split <;> simp [*]
theorem sg_eq {b : Nat} (h : b < 18446744073709551616) : sg b = sgn (ngb b) (rg b) := by
  unfold sg sgn ngb rg TOP
  split
  · rename_i h1
    have e1 : b / 9223372036854775808 = 1 := by omega
    have e2 : b % 9223372036854775808 = b - 9223372036854775808 := by omega
    simp [e1, e2]
  · have e1 : b / 9223372036854775808 = 0 := by omega
    have e2 : b % 9223372036854775808 = b := by omega
    simp [e1, e2]
/-- A number's magnitude and place, by its rung. -/
def nm (r : Nat) : Nat := if r < BIN then r else BIN + r % BIN
def np (r : Nat) : Nat := if r < BIN then 0 else r / BIN - 1
theorem mg_np (r : Nat) : mg r = nm r * 2 ^ np r := by
  unfold mg nm np
  split <;> simp
theorem read_num {b : Nat} (h : rg b < INF) : Ieee.double.read b = .number (ngb b) (nm (rg b)) (least + (np (rg b) : Nat)) := by
  rw [read_eq]
  unfold nm np
  split
  · simp
  · simp [h]
theorem order_num (s t : Bool) (r q : Nat) : ∃ o, Ieee.Datum.order (.number s (nm r) (least + (np r : Nat))) (.number t (nm q) (least + (np q : Nat))) = some o ∧ (o = .lt ↔ sgn s r < sgn t q) ∧ (o = .eq ↔ sgn s r = sgn t q) := by
  refine ⟨_, rfl, ?_⟩
  have hmin : min (least + (np r : Nat)) (least + (np q : Nat)) = least + (min (np r) (np q) : Nat) := by omega
  have e1 : (least + (np r : Nat) - min (least + (np r : Nat)) (least + (np q : Nat))).toNat = np r - min (np r) (np q) := by rw [hmin]; omega
  have e2 : (least + (np q : Nat) - min (least + (np r : Nat)) (least + (np q : Nat))).toNat = np q - min (np r) (np q) := by rw [hmin]; omega
  have hs : ∀ (s : Bool) (m u : Nat), Ieee.signed s m u = sgn s (m * 2 ^ u) := by
    intro s m u
    simp [Ieee.signed, sgn, Nat.shiftLeft_eq]
  rw [e1, e2, hs, hs, cmp_lt, cmp_eq]
  have hc : 0 < 2 ^ min (np r) (np q) := Nat.two_pow_pos _
  have m1 : nm r * 2 ^ (np r - min (np r) (np q)) * 2 ^ min (np r) (np q) = mg r := by
    rw [Nat.mul_assoc, ← Nat.pow_add, Nat.sub_add_cancel (Nat.min_le_left _ _), mg_np]
  have m2 : nm q * 2 ^ (np q - min (np r) (np q)) * 2 ^ min (np r) (np q) = mg q := by
    rw [Nat.mul_assoc, ← Nat.pow_add, Nat.sub_add_cancel (Nat.min_le_right _ _), mg_np]
  have k1 : nm r * 2 ^ (np r - min (np r) (np q)) < nm q * 2 ^ (np q - min (np r) (np q)) ↔ r < q := by
    rw [← mg_lt_iff (r := r) (s := q), ← m1, ← m2]
    exact (Nat.mul_lt_mul_right hc).symm
  have k2 : nm q * 2 ^ (np q - min (np r) (np q)) < nm r * 2 ^ (np r - min (np r) (np q)) ↔ q < r := by
    rw [← mg_lt_iff (r := q) (s := r), ← m1, ← m2]
    exact (Nat.mul_lt_mul_right hc).symm
  have z0 : mg 0 = 0 := rfl
  have k3 : nm r * 2 ^ (np r - min (np r) (np q)) = 0 ↔ r = 0 := by
    have hz : r = 0 ↔ mg r = 0 := (mg_inj (r := r) (s := 0)).symm
    rw [hz, ← m1]
    constructor
    · intro h; rw [h, Nat.zero_mul]
    · intro h; exact (Nat.mul_eq_zero.1 h).resolve_right (by omega)
  have k4 : nm q * 2 ^ (np q - min (np r) (np q)) = 0 ↔ q = 0 := by
    have hz : q = 0 ↔ mg q = 0 := (mg_inj (r := q) (s := 0)).symm
    rw [hz, ← m2]
    constructor
    · intro h; rw [h, Nat.zero_mul]
    · intro h; exact (Nat.mul_eq_zero.1 h).resolve_right (by omega)
  exact ⟨sgn_lt k1 k2 k3 k4, sgn_eq k1 k2 k3 k4⟩
theorem order_spec {a b : Nat} (ha : a < 18446744073709551616) (hb : b < 18446744073709551616) (na : ¬ isn a) (nb : ¬ isn b) : ∃ o, Ieee.double.order a b = some o ∧ (o = .lt ↔ sg a < sg b) ∧ (o = .eq ↔ sg a = sg b) := by
  rw [sg_eq ha, sg_eq hb]
  unfold isn at na nb
  have hI : INF = 9218868437227405312 := rfl
  have rd : ∀ x, ¬ INF < rg x → rg x < INF ∨ rg x = INF := fun x h => by omega
  have ri : ∀ x, rg x = INF → Ieee.double.read x = .infinity (ngb x) := fun x h => by
    rw [read_eq, if_neg (by rw [h]; decide), if_neg (by rw [h]; decide), if_pos h]
  unfold Ieee.Format.order
  rcases rd a na with h1 | h1 <;> rcases rd b nb with h2 | h2
  · rw [read_num h1, read_num h2]; exact order_num _ _ _ _
  · rw [read_num h1, ri b h2]
    refine ⟨_, rfl, ?_⟩
    rw [h2]
    cases ngb a <;> cases ngb b <;> simp [sgn] <;> omega
  · rw [ri a h1, read_num h2]
    refine ⟨_, rfl, ?_⟩
    rw [h1]
    cases ngb a <;> cases ngb b <;> simp [sgn] <;> omega
  · rw [ri a h1, ri b h2]
    refine ⟨_, rfl, ?_⟩
    rw [h1, h2]
    cases ngb a <;> cases ngb b <;> simp [sgn] <;> first | decide | omega
theorem order_nan {a b : Nat} (h : isn a ∨ isn b) : Ieee.double.order a b = none := by
  have rn : ∀ x, isn x → ∃ s f, Ieee.double.read x = .nan s f := fun x h => by
    refine ⟨ngb x, rg x - INF, ?_⟩
    unfold isn at h
    have hI : INF = 9218868437227405312 := rfl
    have hB : BIN = 4503599627370496 := rfl
    rw [read_eq, if_neg (by omega), if_neg (by omega), if_neg (by omega)]
  unfold Ieee.Format.order
  rcases h with h | h
  · obtain ⟨s, f, e⟩ := rn a h
    rw [e]; rfl
  · obtain ⟨s, f, e⟩ := rn b h
    rw [e]
    cases Ieee.double.read a <;> rfl
end Go.CL

/- Sums and products of floats, but for the bits of what is no number. -/
set_option linter.unusedVariables false
set_option linter.unusedSimpArgs false
namespace Go.CL
open Go Go.RowKit

def fadd (m n : Nat) : Nat := (Ieee.double.add m n).getD 9221120237041090561
def fmul (m n : Nat) : Nat := (Ieee.double.mul m n).getD 9221120237041090561
theorem fneq_nan {b : Nat} (h : isn b) : fneq b b = true := by
  unfold fneq
  show (Ieee.double.order b b != some .eq) = true
  rw [order_nan (.inl h)]; rfl
section
variable {P : Program} {N : Nat} {o : Oper} {uses : Slots} {d : Nat} {q : Pd} {x y z : Operand}
/-- A float; if it is none, whichever. -/
def pFltA (z : Nat) : Pd := ⟨fun g v => ∃ r, v = .float .f64 r ∧ (r = z ∨ (fneq r r = true ∧ fneq z z = true)), [], fun _ _ h => h⟩
theorem ob_fadd' {op : BinOp} {f : Nat → Nat → Option Nat} {t ty : TypeId} {m n : Nat} (hop : o.op = .binOp op t x y ty) (hd : o.dst = some d) (hx : Opd uses x (pFlt m)) (hy : Opd uses y (pFlt n))
    (h : ∀ w, (binOp op t (.float .f64 m) (.float .f64 n)).run P w = (match f m n with | some r => .ok (.float .f64 r) w | none => ((choose (.nanBits .f64 m n)).run P w).andThen fun r w' => .ok (.float .f64 r) w')) : OB P N o uses [(d, pFltA ((f m n).getD 9221120237041090561))] [] :=
  ob_step hd fun a g hh => by
    have h1 := pFlt_iff.1 (hx a g hh)
    have h2 := pFlt_iff.1 (hy a g hh)
    have hg : (eqGuard op t x y (.float .f64 m) (.float .f64 n)).run P g.w = .ok () g.w := by
      unfold eqGuard
      split <;> rfl
    cases hf : f m n with
    | some r =>
      refine ⟨.float .f64 r, g, ?_, .refl _ _, r, rfl, .inl (by simp)⟩
      have := h g.w
      rw [hf] at this
      simp [execOp, hop, h1, h2, hg, this]
    | none =>
      have := h g.w
      rw [hf] at this
      have hc : (choose (.nanBits .f64 m n)).run P g.w = .ok ((Question.nanBits .f64 m n).cut (g.w.tape g.w.drawn (Question.nanBits .f64 m n))) g.w.drew := by
        simp [Question.forced]
      refine ⟨.float .f64 ((Question.nanBits .f64 m n).cut (g.w.tape g.w.drawn (Question.nanBits .f64 m n))), g.drew, ?_, Step.drew g, _, rfl, .inr ⟨fneq_nan ?_, by decide +kernel⟩⟩
      · simp only [hc, Result.andThen_ok] at this
        simp [execOp, hop, h1, h2, hg, this]; rfl
      · unfold isn rg INF TOP
        generalize g.w.tape g.w.drawn (Question.nanBits .f64 m n) = u
        simp only [Question.cut]
        have hv := Nat.mod_lt (u / 2) (show 0 < 2 ^ 52 - 1 by decide)
        generalize u / 2 % (2 ^ 52 - 1) = v at hv
        rcases Nat.mod_two_eq_zero_or_one u with h | h <;> rw [h] <;> omega
theorem ob_faddA {t ty : TypeId} {m n : Nat} (hop : o.op = .binOp .add t x y ty) (hd : o.dst = some d) (hx : Opd uses x (pFlt m)) (hy : Opd uses y (pFlt n)) : OB P N o uses [(d, pFltA (fadd m n))] [] :=
  ob_fadd' hop hd hx hy fun w => by
    cases h : Ieee.double.add m n <;> simp [binOp, Op.floatArith, FloatKind.format, h]
theorem ob_fmulA {t ty : TypeId} {m n : Nat} (hop : o.op = .binOp .mul t x y ty) (hd : o.dst = some d) (hx : Opd uses x (pFlt m)) (hy : Opd uses y (pFlt n)) : OB P N o uses [(d, pFltA (fmul m n))] [] :=
  ob_fadd' hop hd hx hy fun w => by
    cases h : Ieee.double.mul m n <;> simp [binOp, Op.floatArith, FloatKind.format, h]
theorem fnOk_nan {β : Type} {f : FuncId} {F : Nat → Option β} {q : β → Pd} (hF : ∀ r z, fneq r r = true → fneq z z = true → F r = F z) (hok : ∀ z r, F z = some r → FnOk P f [pFlt z] (q r)) {z : Nat} {r : β} (h : F z = some r) : FnOk P f [pFltA z] (q r) := by
  intro g args hargs
  obtain ⟨r', hv, hr⟩ := hargs.2 0 _ _ rfl (List.getElem?_eq_getElem (by rw [hargs.1]; exact Nat.zero_lt_one))
  have h' : F r' = some r := by
    rcases hr with rfl | ⟨h1, h2⟩
    · exact h
    · rw [hF r' z h1 h2]; exact h
  refine hok r' r h' g args ⟨hargs.1, fun i qi u h1 h2 => ?_⟩
  match i, h1 with
  | 0, h1 =>
    simp at h1; subst h1
    have hl : 0 < args.length := by rw [hargs.1]; exact Nat.zero_lt_one
    rw [List.getElem?_eq_getElem hl] at h2
    have := Option.some.inj h2
    exact pFlt_iff.2 (by rw [← this]; exact hv)
end
end Go.CL

set_option linter.unusedVariables false
set_option linter.unusedSimpArgs false
set_option maxRecDepth 100000
namespace Go.CL
open Go Go.RowKit
structure api_Item where
  Score : Nat
  Name : ByteArray
  deriving Inhabited
structure api_Record where
  Kind : Int
  Num : Int
  Low : Int
  High : Int
  Real : Nat
  Cap : Int
  Text : ByteArray
  List : List api_Item
  deriving Inhabited
inductive shelf_nodeT where
  | nil
  | node (key : ByteArray) (rec_ : api_Record) (left : shelf_nodeT) (right : shelf_nodeT) (size : Int)
  deriving Inhabited
structure shelf_node where
  key : ByteArray
  rec_ : api_Record
  left : shelf_nodeT
  right : shelf_nodeT
  size : Int
  deriving Inhabited
def shelf_nodeT.un : shelf_nodeT → Option shelf_node
  | .nil => none
  | .node x0 x1 x2 x3 x4 => some ⟨x0, x1, x2, x3, x4⟩
def shelf_node.up (x : shelf_node) : shelf_nodeT := .node x.key x.rec_ x.left x.right x.size
def shelf_nodeT.isNil : shelf_nodeT → Bool
  | .nil => true
  | .node .. => false
def shelf_nodeT.hh : shelf_nodeT → Nat
  | .nil => 0
  | .node x0 x1 x2 x3 x4 => max x2.hh x3.hh + 1
structure shelf_Shelf where
  top : shelf_nodeT
  room : Int
  deriving Inhabited
structure rec_shape where
  text : Bool
  num : Bool
  bounds : Bool
  real : Bool
  list : Bool
  deriving Inhabited
structure moietylaw09_Op where
  Cut : Bool
  Key : ByteArray
  Rec : api_Record
  deriving Inhabited
structure moietyref09_Pair where
  Key : ByteArray
  Rec : api_Record
  deriving Inhabited
structure moietyref09_Shelf where
  L : List moietyref09_Pair
  Room : Int
  deriving Inhabited
def shelf_New (a0 : Int) : Option (shelf_Shelf × Int) := (if ((decide (a0 < (1 : Int))) || (decide ((4096 : Int) < a0))) then (some (({ top := shelf_nodeT.nil, room := (0 : Int) } : shelf_Shelf), (1 : Int))) else (some (({ top := shelf_nodeT.nil, room := a0 } : shelf_Shelf), (0 : Int))))
def shelf_node_count (a0 : shelf_nodeT) : Option (Int) := (if a0.isNil then (some (0 : Int)) else ((a0.un).bind fun n2 => (some n2.size)))
def shelf_Shelf_Rank_j1 (kk : (Int) → (shelf_nodeT) → Option (Int)) (j9 : Int) (j10 : shelf_nodeT) : Option (Int) := (kk j9 j10)
def shelf_Shelf_Rank_l1 (a1 : ByteArray) : Nat → (Int) → (shelf_nodeT) → Option (Int)
  | 0, _, _ => none
  | n + 1, x1, x2 => (if (!x2.isNil) then ((x2.un).bind fun n4 => (if (sLt a1 n4.key || sEq a1 n4.key) then (shelf_Shelf_Rank_j1 (shelf_Shelf_Rank_l1 a1 n) x1 n4.left) else ((shelf_node_count n4.left).bind fun r7 => (shelf_Shelf_Rank_j1 (shelf_Shelf_Rank_l1 a1 n) (IntKind.i64.wrap (x1 + (IntKind.i64.wrap (r7 + (1 : Int))))) n4.right)))) else (some x1))
def shelf_Shelf_Rank (a0 : shelf_Shelf) (a1 : ByteArray) : Option (Int) := ((shelf_Shelf_Rank_l1 a1 (a0.top.hh + 1) (0 : Int) a0.top).bind fun z12 => match z12 with | y11 => (some y11))
def slices_Clone_api_Item_api_Item (a0 : List api_Item) : Option (List api_Item) := if a0.length * 24 ≤ 140737488355328 then some a0 else none
def rec_Clone (a0 : api_Record) : Option (api_Record) := ((slices_Clone_api_Item_api_Item a0.List).bind fun r1 => (some ({ a0 with List := r1 })))
def shelf_Shelf_At_j1 (x2 : api_Record) (kk : (Int) → (api_Record) → (shelf_nodeT) → Option ((ByteArray × api_Record × Bool) ⊕ (api_Record))) (j13 : Int) (j14 : shelf_nodeT) : Option ((ByteArray × api_Record × Bool) ⊕ (api_Record)) := (kk j13 x2 j14)
def shelf_Shelf_At_l1 : Nat → (Int) → (api_Record) → (shelf_nodeT) → Option ((ByteArray × api_Record × Bool) ⊕ (api_Record))
  | 0, _, _, _ => none
  | n + 1, x1, x2, x3 => (if (!x3.isNil) then ((x3.un).bind fun n5 => ((shelf_node_count n5.left).bind fun r7 => (if (decide (x1 < r7)) then (shelf_Shelf_At_j1 x2 (shelf_Shelf_At_l1 n) x1 n5.left) else (if (decide (r7 < x1)) then (shelf_Shelf_At_j1 x2 (shelf_Shelf_At_l1 n) (IntKind.i64.wrap (x1 - (IntKind.i64.wrap (r7 + (1 : Int))))) n5.right) else ((rec_Clone n5.rec_).bind fun r11 => (some (.inl (n5.key, r11, true)))))))) else (some (.inr x2)))
def shelf_Shelf_At (a0 : shelf_Shelf) (a1 : Int) : Option (ByteArray × api_Record × Bool) := ((shelf_Shelf_At_l1 (a0.top.hh + 1) a1 (default : api_Record) a0.top).bind fun z16 => match z16 with | .inl r => some r | .inr y15 => (some ((⟨#[]⟩ : ByteArray), ({ Kind := (0 : Int), Num := (0 : Int), Low := (0 : Int), High := (0 : Int), Real := (0 : Nat), Cap := (0 : Int), Text := ByteArray.empty, List := ([] : List api_Item) } : api_Record), false)))
def shelf_Shelf_Keys_l1 (a0 : shelf_Shelf) (a2 : ByteArray) (a3 : Int) : Nat → (List ByteArray) → (Int) → Option (List ByteArray)
  | 0, _, _ => none
  | n + 1, x3, x4 => (if (decide ((x3.length : Int) < a3)) then ((shelf_Shelf_At a0 x4).bind fun r6 => (if ((!r6.2.2) || (!sLt r6.1 a2)) then (some x3) else (if (x3.length + ([r6.1] : List ByteArray).length) * 16 ≤ 140737488355328 then ((shelf_Shelf_Keys_l1 a0 a2 a3 n) (x3 ++ ([r6.1] : List ByteArray)) (IntKind.i64.wrap (x4 + (1 : Int)))) else none))) else (some x3))
def shelf_Shelf_Keys (a0 : shelf_Shelf) (a1 : ByteArray) (a2 : ByteArray) (a3 : Int) : Option (List ByteArray) := ((shelf_Shelf_Rank a0 a1).bind fun r1 => ((shelf_Shelf_Keys_l1 a0 a2 a3 (Int.toNat (a3 - (([] : List ByteArray).length : Int)) + 1) ([] : List ByteArray) r1).bind fun z11 => match z11 with | y10 => (some y10)))
def shelf_Shelf_Len (a0 : shelf_Shelf) : Option (Int) := ((shelf_node_count a0.top).bind fun r1 => (some r1))
def math_NaN : Option (Nat) := (some (Int.toNat (9221120237041090561 : Int)))
def flo_Canon (a0 : Nat) : Option (Nat) := (if (fneq a0 a0) then ((math_NaN).bind fun r2 => (some r2)) else (some a0))
def flo_Key (a0 : Nat) : Option (Int) := ((flo_Canon a0).bind fun r1 => (if ((bAnd .u64 (r1 : Int) (9223372036854775808 : Int)) != (0 : Int)) then (some (bXor .u64 IntKind.u64.max (r1 : Int))) else (some (bOr .u64 (r1 : Int) (9223372036854775808 : Int)))))
def flo_Same (a0 : Nat) (a1 : Nat) : Option (Bool) := ((flo_Key a0).bind fun r1 => ((flo_Key a1).bind fun r3 => (some (r1 == r3))))
def slices_EqualFunc_api_Item_api_Item_api_Item_api_Item_l1 (a0 : List api_Item) (a1 : List api_Item) (φ2 : api_Item → api_Item → Option Bool) : Nat → (Int) → Option ((Bool) ⊕ (Unit))
  | 0, _ => none
  | n + 1, x2 => (if (decide (x2 < (a0.length : Int))) then ((idx a0 x2).bind fun e4 => ((idx a1 x2).bind fun e6 => ((φ2 e4 e6).bind fun r8 => (if (!r8) then (some (.inl false)) else ((slices_EqualFunc_api_Item_api_Item_api_Item_api_Item_l1 a0 a1 φ2 n) (IntKind.i64.wrap (x2 + (1 : Int)))))))) else (some (.inr ())))
def slices_EqualFunc_api_Item_api_Item_api_Item_api_Item (a0 : List api_Item) (a1 : List api_Item) (φ2 : api_Item → api_Item → Option Bool) : Option (Bool) := (if ((a0.length : Int) != (a1.length : Int)) then (some false) else ((slices_EqualFunc_api_Item_api_Item_api_Item_api_Item_l1 a0 a1 φ2 (Int.toNat ((a0.length : Int) - (0 : Int)) + 1) (0 : Int)).bind fun z11 => match z11 with | .inl r => some r | .inr () => (some true)))
def rec_Same_1 (a0 : api_Item) (a1 : api_Item) : Option (Bool) := ((gd (sEq a0.Name a1.Name) (flo_Same a0.Score a1.Score)).bind fun r1 => (some ((sEq a0.Name a1.Name) && r1)))
def rec_Same (a0 : api_Record) (a1 : api_Record) : Option (Bool) := ((gd ((((a0.Kind == a1.Kind) && (a0.Num == a1.Num)) && (a0.Low == a1.Low)) && (a0.High == a1.High)) (flo_Same a0.Real a1.Real)).bind fun r1 => ((gd (((((((a0.Kind == a1.Kind) && (a0.Num == a1.Num)) && (a0.Low == a1.Low)) && (a0.High == a1.High)) && r1) && (a0.Cap == a1.Cap)) && (sEq a0.Text a1.Text)) (slices_EqualFunc_api_Item_api_Item_api_Item_api_Item a0.List a1.List (fun y0 y1 => rec_Same_1 y0 y1))).bind fun r3 => (some ((((((((a0.Kind == a1.Kind) && (a0.Num == a1.Num)) && (a0.Low == a1.Low)) && (a0.High == a1.High)) && r1) && (a0.Cap == a1.Cap)) && (sEq a0.Text a1.Text)) && r3))))
def shelf_Same_l1 (a0 : shelf_Shelf) (a1 : shelf_Shelf) (r6 : Int) : Nat → (Int) → Option ((Bool) ⊕ (Unit))
  | 0, _ => none
  | n + 1, x8 => (if (decide (x8 < r6)) then ((shelf_Shelf_At a0 x8).bind fun r10 => ((shelf_Shelf_At a1 x8).bind fun r12 => ((gd (!(!sEq r10.1 r12.1)) (rec_Same r10.2.1 r12.2.1)).bind fun r14 => (if ((!sEq r10.1 r12.1) || (!r14)) then (some (.inl false)) else ((shelf_Same_l1 a0 a1 r6 n) (IntKind.i64.wrap (x8 + (1 : Int)))))))) else (some (.inr ())))
def shelf_Same (a0 : shelf_Shelf) (a1 : shelf_Shelf) : Option (Bool) := ((shelf_Shelf_Len a0).bind fun r1 => ((shelf_Shelf_Len a1).bind fun r3 => (if (r1 != r3) then (some false) else ((shelf_Shelf_Len a0).bind fun r6 => ((shelf_Same_l1 a0 a1 r6 (Int.toNat (r6 - (0 : Int)) + 1) (0 : Int)).bind fun z17 => match z17 with | .inl r => some r | .inr () => (some true))))))
def shelf_Shelf_Get_j1 (x1 : api_Record) (kk : (api_Record) → (shelf_nodeT) → Option ((api_Record × Bool) ⊕ (api_Record))) (j10 : shelf_nodeT) : Option ((api_Record × Bool) ⊕ (api_Record)) := (kk x1 j10)
def shelf_Shelf_Get_l1 (a1 : ByteArray) : Nat → (api_Record) → (shelf_nodeT) → Option ((api_Record × Bool) ⊕ (api_Record))
  | 0, _, _ => none
  | n + 1, x1, x2 => (if (!x2.isNil) then ((x2.un).bind fun n4 => (if (sLt a1 n4.key) then (shelf_Shelf_Get_j1 x1 (shelf_Shelf_Get_l1 a1 n) n4.left) else (if (!(sLt a1 n4.key || sEq a1 n4.key)) then (shelf_Shelf_Get_j1 x1 (shelf_Shelf_Get_l1 a1 n) n4.right) else ((rec_Clone n4.rec_).bind fun r8 => (some (.inl (r8, true))))))) else (some (.inr x1)))
def shelf_Shelf_Get (a0 : shelf_Shelf) (a1 : ByteArray) : Option (api_Record × Bool) := ((shelf_Shelf_Get_l1 a1 (a0.top.hh + 1) (default : api_Record) a0.top).bind fun z12 => match z12 with | .inl r => some r | .inr y11 => (some (({ Kind := (0 : Int), Num := (0 : Int), Low := (0 : Int), High := (0 : Int), Real := (0 : Nat), Cap := (0 : Int), Text := ByteArray.empty, List := ([] : List api_Item) } : api_Record), false)))
def rec_shaped_j3 (j11 : Bool) : Option (rec_shape) := (if j11 then (some ({ text := false, num := false, bounds := false, real := false, list := true } : rec_shape)) else (some ({ text := false, num := false, bounds := false, real := false, list := false } : rec_shape)))
def rec_shaped_j2 (a0 : Int) (j8 : Bool) : Option (rec_shape) := (if j8 then (some ({ text := false, num := false, bounds := false, real := true, list := false } : rec_shape)) else (if (a0 == (8 : Int)) then (rec_shaped_j3 (a0 == (8 : Int))) else (rec_shaped_j3 (a0 == (9 : Int)))))
def rec_shaped_j1 (a0 : Int) (j3 : Bool) : Option (rec_shape) := (if j3 then (some ({ text := false, num := true, bounds := false, real := false, list := false } : rec_shape)) else (if (a0 == (4 : Int)) then (some ({ text := false, num := true, bounds := true, real := false, list := false } : rec_shape)) else (if (a0 == (5 : Int)) then (rec_shaped_j2 a0 (a0 == (5 : Int))) else (if (a0 == (6 : Int)) then (rec_shaped_j2 a0 (a0 == (6 : Int))) else (rec_shaped_j2 a0 (a0 == (7 : Int)))))))
def rec_shaped (a0 : Int) : Option (rec_shape) := (if (a0 == (1 : Int)) then (some ({ text := true, num := false, bounds := false, real := false, list := false } : rec_shape)) else (if (a0 == (2 : Int)) then (rec_shaped_j1 a0 (a0 == (2 : Int))) else (rec_shaped_j1 a0 (a0 == (3 : Int)))))
def rec_bare (a0 : api_Record) (a1 : rec_shape) : Option (Bool) := ((gd ((((a1.text || (sEq a0.Text (⟨#[]⟩ : ByteArray))) && (a1.num || (a0.Num == (0 : Int)))) && (a1.bounds || ((a0.Low == (0 : Int)) && (a0.High == (0 : Int))))) && (!a1.real)) (flo_Same a0.Real (0 : Nat))).bind fun r1 => (some (((((a1.text || (sEq a0.Text (⟨#[]⟩ : ByteArray))) && (a1.num || (a0.Num == (0 : Int)))) && (a1.bounds || ((a0.Low == (0 : Int)) && (a0.High == (0 : Int))))) && (a1.real || r1)) && (a1.list || ((a0.Cap == (0 : Int)) && ((a0.List.length : Int) == (0 : Int)))))))
def flo_Proper (a0 : Nat) : Option (Bool) := ((flo_Canon a0).bind fun r1 => (some ((a0 : Int) == (r1 : Int))))
def flo_Less (a0 : Nat) (a1 : Nat) : Option (Bool) := ((flo_Key a0).bind fun r1 => ((flo_Key a1).bind fun r3 => (some (decide (r1 < r3)))))
def rec_Better (a0 : api_Item) (a1 : api_Item) : Option (Bool) := ((flo_Same a0.Score a1.Score).bind fun r1 => (if (!r1) then ((flo_Less a1.Score a0.Score).bind fun r4 => (some r4)) else (some (sLt a0.Name a1.Name))))
def rec_items_l1 (a0 : Int) (a1 : List api_Item) : Nat → (Int) → Option ((Int) ⊕ (Unit))
  | 0, _ => none
  | n + 1, x1 => (if (decide (x1 < (a1.length : Int))) then ((idx a1 x1).bind fun e3 => (if (decide ((16 : Int) < (e3.Name.size : Int))) then (some (.inl (3 : Int))) else ((gd (a0 == (8 : Int)) (flo_Same e3.Score (0 : Nat))).bind fun r6 => ((gd (!((a0 == (8 : Int)) && (!r6))) (flo_Proper e3.Score)).bind fun r8 => (if (((a0 == (8 : Int)) && (!r6)) || (!r8)) then (some (.inl (4 : Int))) else ((gd ((decide ((0 : Int) < x1)) && (a0 == (8 : Int))) (idx a1 (IntKind.i64.wrap (x1 - (1 : Int))))).bind fun e11 => (if (((decide ((0 : Int) < x1)) && (a0 == (8 : Int))) && (!sLt e11.Name e3.Name)) then (some (.inl (4 : Int))) else ((gd ((decide ((0 : Int) < x1)) && (a0 == (9 : Int))) (idx a1 (IntKind.i64.wrap (x1 - (1 : Int))))).bind fun e14 => ((gd ((decide ((0 : Int) < x1)) && (a0 == (9 : Int))) (rec_Better e14 e3)).bind fun r16 => (if (((decide ((0 : Int) < x1)) && (a0 == (9 : Int))) && (!r16)) then (some (.inl (4 : Int))) else ((rec_items_l1 a0 a1 n) (IntKind.i64.wrap (x1 + (1 : Int)))))))))))))) else (some (.inr ())))
def rec_items (a0 : Int) (a1 : List api_Item) : Option (Int) := ((rec_items_l1 a0 a1 (Int.toNat ((a1.length : Int) - (0 : Int)) + 1) (0 : Int)).bind fun z19 => match z19 with | .inl r => some r | .inr () => (some (0 : Int)))
def rec_Check (a0 : api_Record) : Option (Int) := ((rec_shaped a0.Kind).bind fun r1 => (if ((decide (a0.Kind ≤ (0 : Int))) || (decide ((10 : Int) ≤ a0.Kind))) then (some (5 : Int)) else ((rec_bare a0 r1).bind fun r4 => (if (!r4) then (some (4 : Int)) else (if (decide ((64 : Int) < (a0.Text.size : Int))) then (some (3 : Int)) else (if (r1.bounds && ((((decide (a0.Low < (-2305843009213693952 : Int))) || (decide ((2305843009213693952 : Int) < a0.High))) || (decide (a0.Num < a0.Low))) || (decide (a0.High < a0.Num)))) then (some (1 : Int)) else ((flo_Proper a0.Real).bind fun r9 => (if (!r9) then (some (4 : Int)) else (if (!r1.list) then (some (0 : Int)) else (if ((decide (a0.Cap < (1 : Int))) || (decide ((32 : Int) < a0.Cap))) then (some (1 : Int)) else (if (decide (a0.Cap < (a0.List.length : Int))) then (some (8 : Int)) else ((rec_items a0.Kind a0.List).bind fun r15 => (some r15)))))))))))))
def shelf_made (a0 : ByteArray) (a1 : api_Record) (a2 : shelf_nodeT) (a3 : shelf_nodeT) : Option (shelf_nodeT) := ((shelf_node_count a2).bind fun r1 => ((shelf_node_count a3).bind fun r3 => (some ({ key := a0, rec_ := a1, left := a2, right := a3, size := (IntKind.i64.wrap ((IntKind.i64.wrap (r1 + r3)) + (1 : Int))) } : shelf_node).up)))
def shelf_heavy (a0 : shelf_nodeT) (a1 : shelf_nodeT) : Option (Bool) := ((shelf_node_count a0).bind fun r1 => ((shelf_node_count a1).bind fun r3 => (some (decide ((IntKind.i64.wrap ((3 : Int) * (IntKind.i64.wrap (r3 + (1 : Int))))) < (IntKind.i64.wrap (r1 + (1 : Int))))))))
def shelf_even (a0 : ByteArray) (a1 : api_Record) (a2 : shelf_nodeT) (a3 : shelf_nodeT) : Option (shelf_nodeT) := ((shelf_heavy a3 a2).bind fun r1 => ((gd r1 (a3.un)).bind fun n3 => ((gd r1 (shelf_node_count n3.left)).bind fun r5 => ((gd r1 (a3.un)).bind fun n7 => ((gd r1 (shelf_node_count n7.right)).bind fun r9 => (if (r1 && (decide ((IntKind.i64.wrap (r5 + (1 : Int))) < (IntKind.i64.wrap ((2 : Int) * (IntKind.i64.wrap (r9 + (1 : Int)))))))) then ((a3.un).bind fun n12 => ((shelf_made a0 a1 a2 n12.left).bind fun r14 => ((shelf_made n12.key n12.rec_ r14 n12.right).bind fun r16 => (some r16)))) else ((shelf_heavy a3 a2).bind fun r18 => (if r18 then ((a3.un).bind fun n21 => ((n21.left.un).bind fun n23 => ((shelf_made a0 a1 a2 n23.left).bind fun r25 => ((shelf_made n21.key n21.rec_ n23.right n21.right).bind fun r27 => ((shelf_made n23.key n23.rec_ r25 r27).bind fun r29 => (some r29)))))) else ((shelf_heavy a2 a3).bind fun r31 => ((gd r31 (a2.un)).bind fun n33 => ((gd r31 (shelf_node_count n33.right)).bind fun r35 => ((gd r31 (a2.un)).bind fun n37 => ((gd r31 (shelf_node_count n37.left)).bind fun r39 => (if (r31 && (decide ((IntKind.i64.wrap (r35 + (1 : Int))) < (IntKind.i64.wrap ((2 : Int) * (IntKind.i64.wrap (r39 + (1 : Int)))))))) then ((a2.un).bind fun n42 => ((shelf_made a0 a1 n42.right a3).bind fun r44 => ((shelf_made n42.key n42.rec_ n42.left r44).bind fun r46 => (some r46)))) else ((shelf_heavy a2 a3).bind fun r48 => (if r48 then ((a2.un).bind fun n51 => ((n51.right.un).bind fun n53 => ((shelf_made n51.key n51.rec_ n51.left n53.left).bind fun r55 => ((shelf_made a0 a1 n53.right a3).bind fun r57 => ((shelf_made n53.key n53.rec_ r55 r57).bind fun r59 => (some r59)))))) else ((shelf_made a0 a1 a2 a3).bind fun r61 => (some r61))))))))))))))))))
def shelf_node_set_b (self : shelf_nodeT → ByteArray → api_Record → Option (shelf_nodeT)) (a0 : shelf_nodeT) (a1 : ByteArray) (a2 : api_Record) : Option (shelf_nodeT) := (if a0.isNil then ((shelf_made a1 a2 shelf_nodeT.nil shelf_nodeT.nil).bind fun r2 => (some r2)) else ((a0.un).bind fun n4 => (if (sLt a1 n4.key) then ((self n4.left a1 a2).bind fun r7 => ((shelf_even n4.key n4.rec_ r7 n4.right).bind fun r9 => (some r9))) else (if (!(sLt a1 n4.key || sEq a1 n4.key)) then ((self n4.right a1 a2).bind fun r12 => ((shelf_even n4.key n4.rec_ n4.left r12).bind fun r14 => (some r14))) else ((shelf_made a1 a2 n4.left n4.right).bind fun r16 => (some r16))))))
def shelf_node_set_r : Nat → shelf_nodeT → ByteArray → api_Record → Option (shelf_nodeT)
  | 0 => fun _ _ _ => none
  | n + 1 => shelf_node_set_b (shelf_node_set_r n)
def shelf_node_set (a0 : shelf_nodeT) (a1 : ByteArray) (a2 : api_Record) : Option (shelf_nodeT) := shelf_node_set_r (a0.hh + 1) a0 a1 a2
def shelf_Shelf_Set (a0 : shelf_Shelf) (a1 : ByteArray) (a2 : api_Record) : Option (shelf_Shelf × Int) := (if ((sEq a1 (⟨#[]⟩ : ByteArray)) || (decide ((24 : Int) < (a1.size : Int)))) then (some (a0, (1 : Int))) else ((rec_Check a2).bind fun r2 => (if (r2 != (0 : Int)) then (some (a0, r2)) else ((shelf_Shelf_Get a0 a1).bind fun r5 => ((gd (!r5.2) (shelf_Shelf_Len a0)).bind fun r7 => (if ((!r5.2) && (decide (a0.room ≤ r7))) then (some (a0, (8 : Int))) else ((rec_Clone a2).bind fun r10 => ((shelf_node_set a0.top a1 r10).bind fun r12 => (some (({ top := r12, room := a0.room } : shelf_Shelf), (0 : Int)))))))))))
def moietylaw09_speaks : Option (Bool) := ((shelf_New (1 : Int)).bind fun r1 => ((shelf_Shelf_Set r1.1 (⟨#[97]⟩ : ByteArray) ({ Kind := (2 : Int), Num := (4 : Int), Low := (0 : Int), High := (0 : Int), Real := (0 : Nat), Cap := (0 : Int), Text := ByteArray.empty, List := ([] : List api_Item) } : api_Record)).bind fun r3 => ((shelf_Shelf_Set r3.1 (⟨#[98]⟩ : ByteArray) ({ Kind := (2 : Int), Num := (4 : Int), Low := (0 : Int), High := (0 : Int), Real := (0 : Nat), Cap := (0 : Int), Text := ByteArray.empty, List := ([] : List api_Item) } : api_Record)).bind fun r5 => ((shelf_Shelf_At r5.1 (0 : Int)).bind fun r7 => ((gd (((r1.2 == (0 : Int)) && (r3.2 == (0 : Int))) && (r5.2 == (8 : Int))) (shelf_Shelf_Len r1.1)).bind fun r9 => ((gd ((((r1.2 == (0 : Int)) && (r3.2 == (0 : Int))) && (r5.2 == (8 : Int))) && (r9 == (0 : Int))) (shelf_Shelf_Len r3.1)).bind fun r11 => ((gd ((((((r1.2 == (0 : Int)) && (r3.2 == (0 : Int))) && (r5.2 == (8 : Int))) && (r9 == (0 : Int))) && (r11 == (1 : Int))) && (sEq r7.1 (⟨#[97]⟩ : ByteArray))) (rec_Same r7.2.1 ({ Kind := (2 : Int), Num := (4 : Int), Low := (0 : Int), High := (0 : Int), Real := (0 : Nat), Cap := (0 : Int), Text := ByteArray.empty, List := ([] : List api_Item) } : api_Record))).bind fun r13 => ((gd ((((((((r1.2 == (0 : Int)) && (r3.2 == (0 : Int))) && (r5.2 == (8 : Int))) && (r9 == (0 : Int))) && (r11 == (1 : Int))) && (sEq r7.1 (⟨#[97]⟩ : ByteArray))) && r13) && r7.2.2) (shelf_Shelf_Rank r3.1 (⟨#[98]⟩ : ByteArray))).bind fun r15 => ((gd (((((((((r1.2 == (0 : Int)) && (r3.2 == (0 : Int))) && (r5.2 == (8 : Int))) && (r9 == (0 : Int))) && (r11 == (1 : Int))) && (sEq r7.1 (⟨#[97]⟩ : ByteArray))) && r13) && r7.2.2) && (r15 == (1 : Int))) (shelf_Shelf_Keys r3.1 (⟨#[]⟩ : ByteArray) (⟨#[122]⟩ : ByteArray) (9 : Int))).bind fun r17 => ((gd ((((((((((r1.2 == (0 : Int)) && (r3.2 == (0 : Int))) && (r5.2 == (8 : Int))) && (r9 == (0 : Int))) && (r11 == (1 : Int))) && (sEq r7.1 (⟨#[97]⟩ : ByteArray))) && r13) && r7.2.2) && (r15 == (1 : Int))) && ((r17.length : Int) == (1 : Int))) (shelf_Same r3.1 r5.1)).bind fun r19 => ((gd (((((((((((r1.2 == (0 : Int)) && (r3.2 == (0 : Int))) && (r5.2 == (8 : Int))) && (r9 == (0 : Int))) && (r11 == (1 : Int))) && (sEq r7.1 (⟨#[97]⟩ : ByteArray))) && r13) && r7.2.2) && (r15 == (1 : Int))) && ((r17.length : Int) == (1 : Int))) && r19) (shelf_Same r1.1 r3.1)).bind fun r21 => (some ((((((((((((r1.2 == (0 : Int)) && (r3.2 == (0 : Int))) && (r5.2 == (8 : Int))) && (r9 == (0 : Int))) && (r11 == (1 : Int))) && (sEq r7.1 (⟨#[97]⟩ : ByteArray))) && r13) && r7.2.2) && (r15 == (1 : Int))) && ((r17.length : Int) == (1 : Int))) && r19) && (!r21))))))))))))))
def moietylaw03_Big_l1 (a0 : api_Record) : Nat → (Int) → Option ((Int) ⊕ (Unit))
  | 0, _ => none
  | n + 1, x2 => (if (decide (x2 < (a0.List.length : Int))) then ((idx a0.List x2).bind fun e4 => (if (decide ((100 : Int) < (e4.Name.size : Int))) then (some (.inl (1 : Int))) else ((moietylaw03_Big_l1 a0 n) (IntKind.i64.wrap (x2 + (1 : Int)))))) else (some (.inr ())))
def moietylaw03_Big (a0 : api_Record) : Option (Int) := (if ((decide ((100 : Int) < (a0.List.length : Int))) || (decide ((1000 : Int) < (a0.Text.size : Int)))) then (some (1 : Int)) else ((moietylaw03_Big_l1 a0 (Int.toNat ((a0.List.length : Int) - (0 : Int)) + 1) (0 : Int)).bind fun z7 => match z7 with | .inl r => some r | .inr () => (some (0 : Int))))
def moietylaw09_big_l1 (a0 : List moietylaw09_Op) : Nat → (Int) → Option ((Bool) ⊕ (Unit))
  | 0, _ => none
  | n + 1, x2 => (if (decide (x2 < (a0.length : Int))) then ((idx a0 x2).bind fun e4 => ((gd (!(decide ((100 : Int) < (e4.Key.size : Int)))) (moietylaw03_Big e4.Rec)).bind fun r6 => (if ((decide ((100 : Int) < (e4.Key.size : Int))) || (decide ((0 : Int) < r6))) then (some (.inl true)) else ((moietylaw09_big_l1 a0 n) (IntKind.i64.wrap (x2 + (1 : Int))))))) else (some (.inr ())))
def moietylaw09_big (a0 : List moietylaw09_Op) : Option (Bool) := (if (decide ((300 : Int) < (a0.length : Int))) then (some true) else ((moietylaw09_big_l1 a0 (Int.toNat ((a0.length : Int) - (0 : Int)) + 1) (0 : Int)).bind fun z9 => match z9 with | .inl r => some r | .inr () => (some false)))
def shelf_node_first_l1 : Nat → (shelf_nodeT) → Option (shelf_nodeT)
  | 0, _ => none
  | n + 1, x1 => ((x1.un).bind fun n2 => (if (!n2.left.isNil) then ((shelf_node_first_l1 n) n2.left) else (some x1)))
def shelf_node_first (a0 : shelf_nodeT) : Option (shelf_nodeT) := ((shelf_node_first_l1 (a0.hh + 1) a0).bind fun z6 => match z6 with | y5 => (some y5))
def shelf_node_cut_b (self : shelf_nodeT → ByteArray → Option (shelf_nodeT)) (a0 : shelf_nodeT) (a1 : ByteArray) : Option (shelf_nodeT) := (if a0.isNil then (some shelf_nodeT.nil) else ((a0.un).bind fun n2 => (if (sLt a1 n2.key) then ((self n2.left a1).bind fun r5 => ((shelf_even n2.key n2.rec_ r5 n2.right).bind fun r7 => (some r7))) else (if (!(sLt a1 n2.key || sEq a1 n2.key)) then ((self n2.right a1).bind fun r10 => ((shelf_even n2.key n2.rec_ n2.left r10).bind fun r12 => (some r12))) else (if n2.left.isNil then (some n2.right) else (if n2.right.isNil then (some n2.left) else ((shelf_node_first n2.right).bind fun r16 => ((r16.un).bind fun n18 => ((self n2.right n18.key).bind fun r20 => ((shelf_even n18.key n18.rec_ n2.left r20).bind fun r22 => (some r22)))))))))))
def shelf_node_cut_r : Nat → shelf_nodeT → ByteArray → Option (shelf_nodeT)
  | 0 => fun _ _ => none
  | n + 1 => shelf_node_cut_b (shelf_node_cut_r n)
def shelf_node_cut (a0 : shelf_nodeT) (a1 : ByteArray) : Option (shelf_nodeT) := shelf_node_cut_r (a0.hh + 1) a0 a1
def shelf_Shelf_Cut (a0 : shelf_Shelf) (a1 : ByteArray) : Option (shelf_Shelf × Bool) := ((shelf_Shelf_Get a0 a1).bind fun r1 => (if (!r1.2) then (some (a0, false)) else ((shelf_node_cut a0.top a1).bind fun r4 => (some (({ top := r4, room := a0.room } : shelf_Shelf), true)))))
def moietyref09_Shelf_Find_l1 (a0 : moietyref09_Shelf) (a1 : ByteArray) : Nat → (Int) → Option (Int)
  | 0, _ => none
  | n + 1, x1 => ((gd (decide (x1 < (a0.L.length : Int))) (idx a0.L x1)).bind fun e2 => (if ((decide (x1 < (a0.L.length : Int))) && (sLt e2.Key a1)) then ((moietyref09_Shelf_Find_l1 a0 a1 n) (IntKind.i64.wrap (x1 + (1 : Int)))) else (some x1)))
def moietyref09_Shelf_Find (a0 : moietyref09_Shelf) (a1 : ByteArray) : Option (Int) := ((moietyref09_Shelf_Find_l1 a0 a1 (Int.toNat ((a0.L.length : Int) - (0 : Int)) + 1) (0 : Int)).bind fun z6 => match z6 with | y5 => (some y5))
def moietyref09_Shelf_Cut (a0 : moietyref09_Shelf) (a1 : ByteArray) : Option (moietyref09_Shelf × Bool) := ((moietyref09_Shelf_Find a0 a1).bind fun r1 => ((gd (!(decide ((a0.L.length : Int) ≤ r1))) (idx a0.L r1)).bind fun e3 => (if ((decide ((a0.L.length : Int) ≤ r1)) || (!sEq e3.Key a1)) then (some (a0, false)) else ((cut a0.L (0 : Int) r1).bind fun c6 => (if (([] : List moietyref09_Pair).length + c6.length) * 104 ≤ 140737488355328 then ((cut a0.L (IntKind.i64.wrap (r1 + (1 : Int))) (a0.L.length : Int)).bind fun c9 => (if ((([] : List moietyref09_Pair) ++ c6).length + c9.length) * 104 ≤ 140737488355328 then (some (({ L := ((([] : List moietyref09_Pair) ++ c6) ++ c9), Room := a0.Room } : moietyref09_Shelf), true)) else none)) else none)))))
def moietyref01_none (a0 : Nat) : Option (Bool) := (some (fneq a0 a0))
def moietyref01_below (a0 : Nat) : Option (Bool) := (if (feql a0 (0 : Nat)) then ((Ieee.double.div (4607182418800017408 : Nat) a0).bind fun f2 => (some (flss f2 (0 : Nat)))) else (some (flss a0 (0 : Nat))))
def moietyref01_Less (a0 : Nat) (a1 : Nat) : Option (Bool) := ((moietyref01_none a0).bind fun r1 => (if r1 then (some false) else ((moietyref01_none a1).bind fun r4 => (if r4 then (some true) else (if ((feql a0 (0 : Nat)) && (feql a1 (0 : Nat))) then ((moietyref01_below a0).bind fun r8 => ((gd r8 (moietyref01_below a1)).bind fun r10 => (some (r8 && (!r10))))) else (some (flss a0 a1)))))))
def moietyref01_Same (a0 : Nat) (a1 : Nat) : Option (Bool) := ((moietyref01_Less a0 a1).bind fun r1 => ((gd (!r1) (moietyref01_Less a1 a0)).bind fun r3 => (some ((!r1) && (!r3)))))
def moietyref03_zero (a0 : Nat) : Option (Bool) := ((moietyref01_Same a0 (0 : Nat)).bind fun r1 => (some r1))
def moietyref03_only_l1 (a1 : ByteArray) : Nat → (Bool) → (Bool) → (Bool) → (Bool) → (Bool) → (Int) → Option (Bool × Bool × Bool × Bool × Bool)
  | 0, _, _, _, _, _, _ => none
  | n + 1, x1, x2, x3, x4, x5, x6 => (if (decide (x6 < (a1.size : Int))) then ((gd (!x1) (sidx a1 x6)).bind fun b8 => ((gd (!x2) (sidx a1 x6)).bind fun b10 => ((gd (!x3) (sidx a1 x6)).bind fun b12 => ((gd (!x4) (sidx a1 x6)).bind fun b14 => ((gd (!x5) (sidx a1 x6)).bind fun b16 => ((moietyref03_only_l1 a1 n) (x1 || (b8 == (116 : Int))) (x2 || (b10 == (110 : Int))) (x3 || (b12 == (98 : Int))) (x4 || (b14 == (114 : Int))) (x5 || (b16 == (108 : Int))) (IntKind.i64.wrap (x6 + (1 : Int))))))))) else (some (x1, x2, x3, x4, x5)))
def moietyref03_only (a0 : api_Record) (a1 : ByteArray) : Option (Bool) := ((moietyref03_only_l1 a1 (Int.toNat ((a1.size : Int) - (0 : Int)) + 1) false false false false false (0 : Int)).bind fun z23 => match z23 with | (y18, y19, y20, y21, y22) => (if (((((!y18) && (!sEq a0.Text (⟨#[]⟩ : ByteArray))) || ((!y19) && (a0.Num != (0 : Int)))) || ((!y20) && (a0.Low != (0 : Int)))) || ((!y20) && (a0.High != (0 : Int)))) then (some false) else ((gd (!y21) (moietyref03_zero a0.Real)).bind fun r25 => (some ((y21 || r25) && (y22 || ((a0.Cap == (0 : Int)) && ((a0.List.length : Int) == (0 : Int)))))))))
def moietyref03_Fields (a0 : Int) : Option (ByteArray) := (if ((decide (a0 < (1 : Int))) || (decide ((9 : Int) < a0))) then (some (⟨#[]⟩ : ByteArray)) else ((idx ([(⟨#[]⟩ : ByteArray), (⟨#[116]⟩ : ByteArray), (⟨#[110]⟩ : ByteArray), (⟨#[110]⟩ : ByteArray), (⟨#[110, 98]⟩ : ByteArray), (⟨#[114]⟩ : ByteArray), (⟨#[114]⟩ : ByteArray), (⟨#[114]⟩ : ByteArray), (⟨#[108]⟩ : ByteArray), (⟨#[108]⟩ : ByteArray)] : List ByteArray) a0).bind fun e2 => (some e2)))
def moietyref01_Proper (a0 : Nat) : Option (Bool) := ((moietyref01_none a0).bind fun r1 => (some ((!r1) || ((a0 : Int) == (9221120237041090561 : Int)))))
def moietyref03_Ahead (a0 : api_Item) (a1 : api_Item) : Option (Bool) := ((moietyref01_Less a1.Score a0.Score).bind fun r1 => (if r1 then (some true) else ((moietyref01_Same a0.Score a1.Score).bind fun r4 => (some (r4 && (sLt a0.Name a1.Name))))))
def moietyref03_item (a0 : Int) (a1 : List api_Item) (a2 : Int) : Option (Int) := ((idx a1 a2).bind fun e1 => (if (decide ((16 : Int) < (e1.Name.size : Int))) then (some (3 : Int)) else ((gd (a0 == (8 : Int)) (moietyref03_zero e1.Score)).bind fun r4 => ((gd (!((a0 == (8 : Int)) && (!r4))) (moietyref01_Proper e1.Score)).bind fun r6 => (if (((a0 == (8 : Int)) && (!r4)) || (!r6)) then (some (4 : Int)) else ((gd ((decide ((0 : Int) < a2)) && (a0 == (8 : Int))) (idx a1 (IntKind.i64.wrap (a2 - (1 : Int))))).bind fun e9 => (if (((decide ((0 : Int) < a2)) && (a0 == (8 : Int))) && (!(sLt e9.Name e1.Name))) then (some (4 : Int)) else ((gd ((decide ((0 : Int) < a2)) && (a0 == (9 : Int))) (idx a1 (IntKind.i64.wrap (a2 - (1 : Int))))).bind fun e12 => ((gd ((decide ((0 : Int) < a2)) && (a0 == (9 : Int))) (moietyref03_Ahead e12 e1)).bind fun r14 => (if (((decide ((0 : Int) < a2)) && (a0 == (9 : Int))) && (!r14)) then (some (4 : Int)) else (some (0 : Int))))))))))))
def moietyref03_Check_l1 (a0 : api_Record) : Nat → (Int) → Option ((Int) ⊕ (Unit))
  | 0, _ => none
  | n + 1, x15 => (if (decide (x15 < (a0.List.length : Int))) then ((moietyref03_item a0.Kind a0.List x15).bind fun r17 => (if (r17 != (0 : Int)) then (some (.inl r17)) else ((moietyref03_Check_l1 a0 n) (IntKind.i64.wrap (x15 + (1 : Int)))))) else (some (.inr ())))
def moietyref03_Check (a0 : api_Record) : Option (Int) := (if ((decide (a0.Kind < (1 : Int))) || (decide ((9 : Int) < a0.Kind))) then (some (5 : Int)) else ((moietyref03_Fields a0.Kind).bind fun r2 => ((moietyref03_only a0 r2).bind fun r4 => (if (!r4) then (some (4 : Int)) else (if ((a0.Kind == (1 : Int)) && (decide ((64 : Int) < (a0.Text.size : Int)))) then (some (3 : Int)) else (if ((a0.Kind == (4 : Int)) && ((((decide (a0.Low < (IntKind.i64.wrap (0 - (2305843009213693952 : Int))))) || (decide ((2305843009213693952 : Int) < a0.High))) || (decide (a0.Num < a0.Low))) || (decide (a0.High < a0.Num)))) then (some (1 : Int)) else ((moietyref01_Proper a0.Real).bind fun r9 => (if (!r9) then (some (4 : Int)) else (if (decide (a0.Kind < (8 : Int))) then (some (0 : Int)) else (if ((decide (a0.Cap < (1 : Int))) || (decide ((32 : Int) < a0.Cap))) then (some (1 : Int)) else (if (decide (a0.Cap < (a0.List.length : Int))) then (some (8 : Int)) else ((moietyref03_Check_l1 a0 (Int.toNat ((a0.List.length : Int) - (0 : Int)) + 1) (0 : Int)).bind fun z20 => match z20 with | .inl r => some r | .inr () => (some (0 : Int))))))))))))))
def moietyref09_Shelf_Set_j1 (a0 : moietyref09_Shelf) (a1 : ByteArray) (a2 : api_Record) (c10 : List moietyref09_Pair) (j15 : Int) : Option (moietyref09_Shelf × Int) := ((cut a0.L j15 (a0.L.length : Int)).bind fun c16 => (if (((([] : List moietyref09_Pair) ++ c10) ++ ([({ Key := a1, Rec := a2 } : moietyref09_Pair)] : List moietyref09_Pair)).length + c16.length) * 104 ≤ 140737488355328 then (some (({ L := (((([] : List moietyref09_Pair) ++ c10) ++ ([({ Key := a1, Rec := a2 } : moietyref09_Pair)] : List moietyref09_Pair)) ++ c16), Room := a0.Room } : moietyref09_Shelf), (0 : Int))) else none))
def moietyref09_Shelf_Set (a0 : moietyref09_Shelf) (a1 : ByteArray) (a2 : api_Record) : Option (moietyref09_Shelf × Int) := (if ((decide ((a1.size : Int) < (1 : Int))) || (decide ((24 : Int) < (a1.size : Int)))) then (some (a0, (1 : Int))) else ((moietyref03_Check a2).bind fun r2 => (if (r2 != (0 : Int)) then (some (a0, r2)) else ((moietyref09_Shelf_Find a0 a1).bind fun r5 => ((gd (decide (r5 < (a0.L.length : Int))) (idx a0.L r5)).bind fun e7 => (if ((!((decide (r5 < (a0.L.length : Int))) && (sEq e7.Key a1))) && (decide (a0.Room ≤ (a0.L.length : Int)))) then (some (a0, (8 : Int))) else ((cut a0.L (0 : Int) r5).bind fun c10 => (if (([] : List moietyref09_Pair).length + c10.length) * 104 ≤ 140737488355328 then (if ((([] : List moietyref09_Pair) ++ c10).length + ([({ Key := a1, Rec := a2 } : moietyref09_Pair)] : List moietyref09_Pair).length) * 104 ≤ 140737488355328 then (if ((decide (r5 < (a0.L.length : Int))) && (sEq e7.Key a1)) then (moietyref09_Shelf_Set_j1 a0 a1 a2 c10 (IntKind.i64.wrap (r5 + (1 : Int)))) else (moietyref09_Shelf_Set_j1 a0 a1 a2 c10 r5)) else none) else none))))))))
def moietylaw09_do (a0 : shelf_Shelf) (a1 : moietyref09_Shelf) (a2 : moietylaw09_Op) : Option (shelf_Shelf × moietyref09_Shelf × Bool) := (if a2.Cut then ((shelf_Shelf_Cut a0 a2.Key).bind fun r2 => ((moietyref09_Shelf_Cut a1 a2.Key).bind fun r4 => (some (r2.1, r4.1, (r2.2 == r4.2))))) else ((shelf_Shelf_Set a0 a2.Key a2.Rec).bind fun r6 => ((moietyref09_Shelf_Set a1 a2.Key a2.Rec).bind fun r8 => (some (r6.1, r8.1, (r6.2 == r8.2))))))
def moietyref09_Shelf_Keys_j1 (x2 : Int) (kk : (List ByteArray) → (Int) → Option (List ByteArray)) (j12 : List ByteArray) : Option (List ByteArray) := (kk j12 (IntKind.i64.wrap (x2 + (1 : Int))))
def moietyref09_Shelf_Keys_l1 (a0 : moietyref09_Shelf) (a1 : ByteArray) (a2 : ByteArray) (a3 : Int) : Nat → (List ByteArray) → (Int) → Option (List ByteArray)
  | 0, _, _ => none
  | n + 1, x1, x2 => (if (decide (x2 < (a0.L.length : Int))) then ((idx a0.L x2).bind fun e4 => ((gd (!sLt e4.Key a1) (idx a0.L x2)).bind fun e6 => (if (((!sLt e4.Key a1) && (sLt e6.Key a2)) && (decide ((x1.length : Int) < a3))) then ((idx a0.L x2).bind fun e9 => (if (x1.length + ([e9.Key] : List ByteArray).length) * 16 ≤ 140737488355328 then (moietyref09_Shelf_Keys_j1 x2 (moietyref09_Shelf_Keys_l1 a0 a1 a2 a3 n) (x1 ++ ([e9.Key] : List ByteArray))) else none)) else (moietyref09_Shelf_Keys_j1 x2 (moietyref09_Shelf_Keys_l1 a0 a1 a2 a3 n) x1)))) else (some x1))
def moietyref09_Shelf_Keys (a0 : moietyref09_Shelf) (a1 : ByteArray) (a2 : ByteArray) (a3 : Int) : Option (List ByteArray) := ((moietyref09_Shelf_Keys_l1 a0 a1 a2 a3 (Int.toNat ((a0.L.length : Int) - (0 : Int)) + 1) ([] : List ByteArray) (0 : Int)).bind fun z14 => match z14 with | y13 => (some y13))
def moietylaw09_ShelfOrders_l2 (r24 : List ByteArray) (r26 : List ByteArray) : Nat → (Int) → Option ((Bool) ⊕ (Unit))
  | 0, _ => none
  | n + 1, x33 => (if (decide (x33 < (r24.length : Int))) then ((idx r24 x33).bind fun e35 => ((idx r26 x33).bind fun e37 => (if (!sEq e35 e37) then (some (.inl false)) else ((moietylaw09_ShelfOrders_l2 r24 r26 n) (IntKind.i64.wrap (x33 + (1 : Int))))))) else (some (.inr ())))
def moietylaw09_ShelfOrders_l1 (a0 : List moietylaw09_Op) : Nat → (shelf_Shelf) → (moietyref09_Shelf) → (Int) → Option (shelf_Shelf × moietyref09_Shelf)
  | 0, _, _, _ => none
  | n + 1, x9, x10, x11 => (if (decide (x11 < (a0.length : Int))) then ((idx a0 x11).bind fun e13 => ((moietylaw09_do x9 x10 e13).bind fun r15 => ((moietylaw09_ShelfOrders_l1 a0 n) r15.1 r15.2.1 (IntKind.i64.wrap (x11 + (1 : Int)))))) else (some (x9, x10)))
def moietylaw09_ShelfOrders (a0 : List moietylaw09_Op) (a1 : List ByteArray) (a2 : Int) : Option (Bool) := ((moietylaw09_speaks).bind fun r1 => (if (!r1) then (some false) else ((moietylaw09_big a0).bind fun r4 => (if r4 then (some true) else ((shelf_New (4096 : Int)).bind fun r7 => ((moietylaw09_ShelfOrders_l1 a0 (Int.toNat ((a0.length : Int) - (0 : Int)) + 1) r7.1 ({ L := ([] : List moietyref09_Pair), Room := (4096 : Int) } : moietyref09_Shelf) (0 : Int)).bind fun z19 => match z19 with | (y17, y18) => ((idx a1 (0 : Int)).bind fun e20 => ((idx a1 (1 : Int)).bind fun e22 => ((shelf_Shelf_Keys y17 e20 e22 a2).bind fun r24 => ((moietyref09_Shelf_Keys y18 e20 e22 a2).bind fun r26 => ((gd (!((r24.length : Int) != (r26.length : Int))) (shelf_Shelf_Rank y17 e20)).bind fun r28 => ((gd (!((r24.length : Int) != (r26.length : Int))) (moietyref09_Shelf_Find y18 e20)).bind fun r30 => (if (((r24.length : Int) != (r26.length : Int)) || (r28 != r30)) then (some false) else ((moietylaw09_ShelfOrders_l2 r24 r26 (Int.toNat ((r24.length : Int) - (0 : Int)) + 1) (0 : Int)).bind fun z40 => match z40 with | .inl r => some r | .inr () => ((shelf_Shelf_At y17 (-1 : Int)).bind fun r41 => ((shelf_Shelf_Len y17).bind fun r43 => ((shelf_Shelf_At y17 r43).bind fun r45 => (some ((!r41.2.2) && (!r45.2.2))))))))))))))))))))
def moietyref03_Same_l1 (a0 : api_Record) (a1 : api_Record) : Nat → (Int) → Option ((Bool) ⊕ (Unit))
  | 0, _ => none
  | n + 1, x5 => (if (decide (x5 < (a0.List.length : Int))) then ((idx a0.List x5).bind fun e7 => ((idx a1.List x5).bind fun e9 => ((gd (!(!sEq e7.Name e9.Name)) (idx a0.List x5)).bind fun e11 => ((gd (!(!sEq e7.Name e9.Name)) (idx a1.List x5)).bind fun e13 => ((gd (!(!sEq e7.Name e9.Name)) (moietyref01_Same e11.Score e13.Score)).bind fun r15 => (if ((!sEq e7.Name e9.Name) || (!r15)) then (some (.inl false)) else ((moietyref03_Same_l1 a0 a1 n) (IntKind.i64.wrap (x5 + (1 : Int)))))))))) else (some (.inr ())))
def moietyref03_Same (a0 : api_Record) (a1 : api_Record) : Option (Bool) := (if ((((((a0.Kind != a1.Kind) || (a0.Num != a1.Num)) || (a0.Low != a1.Low)) || (a0.High != a1.High)) || (a0.Cap != a1.Cap)) || (!sEq a0.Text a1.Text)) then (some false) else ((moietyref01_Same a0.Real a1.Real).bind fun r2 => (if ((!r2) || ((a0.List.length : Int) != (a1.List.length : Int))) then (some false) else ((moietyref03_Same_l1 a0 a1 (Int.toNat ((a0.List.length : Int) - (0 : Int)) + 1) (0 : Int)).bind fun z18 => match z18 with | .inl r => some r | .inr () => (some true)))))
def moietyref09_Same_l1 (a0 : moietyref09_Shelf) (a1 : moietyref09_Shelf) : Nat → (Int) → Option ((Bool) ⊕ (Unit))
  | 0, _ => none
  | n + 1, x2 => (if (decide (x2 < (a0.L.length : Int))) then ((idx a0.L x2).bind fun e4 => ((idx a1.L x2).bind fun e6 => ((gd (!(!sEq e4.Key e6.Key)) (idx a0.L x2)).bind fun e8 => ((gd (!(!sEq e4.Key e6.Key)) (idx a1.L x2)).bind fun e10 => ((gd (!(!sEq e4.Key e6.Key)) (moietyref03_Same e8.Rec e10.Rec)).bind fun r12 => (if ((!sEq e4.Key e6.Key) || (!r12)) then (some (.inl false)) else ((moietyref09_Same_l1 a0 a1 n) (IntKind.i64.wrap (x2 + (1 : Int)))))))))) else (some (.inr ())))
def moietyref09_Same (a0 : moietyref09_Shelf) (a1 : moietyref09_Shelf) : Option (Bool) := (if ((a0.L.length : Int) != (a1.L.length : Int)) then (some false) else ((moietyref09_Same_l1 a0 a1 (Int.toNat ((a0.L.length : Int) - (0 : Int)) + 1) (0 : Int)).bind fun z15 => match z15 with | .inl r => some r | .inr () => (some true)))
def moietylaw09_ShelfSame_l3 (y22 : moietyref09_Shelf) : Nat → (shelf_Shelf) → (Int) → Option (shelf_Shelf)
  | 0, _, _ => none
  | n + 1, x44, x45 => (if (decide (x45 < (y22.L.length : Int))) then ((idx y22.L (IntKind.i64.wrap ((IntKind.i64.wrap ((y22.L.length : Int) - (1 : Int))) - x45))).bind fun e47 => ((idx y22.L (IntKind.i64.wrap ((IntKind.i64.wrap ((y22.L.length : Int) - (1 : Int))) - x45))).bind fun e49 => ((shelf_Shelf_Set x44 e47.Key e49.Rec).bind fun r51 => ((moietylaw09_ShelfSame_l3 y22 n) r51.1 (IntKind.i64.wrap (x45 + (1 : Int))))))) else (some x44))
def moietylaw09_ShelfSame_l2 (a1 : List moietylaw09_Op) : Nat → (shelf_Shelf) → (moietyref09_Shelf) → (Int) → Option (shelf_Shelf × moietyref09_Shelf)
  | 0, _, _, _ => none
  | n + 1, x24, x25, x26 => (if (decide (x26 < (a1.length : Int))) then ((idx a1 x26).bind fun e28 => ((moietylaw09_do x24 x25 e28).bind fun r30 => ((moietylaw09_ShelfSame_l2 a1 n) r30.1 r30.2.1 (IntKind.i64.wrap (x26 + (1 : Int)))))) else (some (x24, x25)))
def moietylaw09_ShelfSame_l1 (a0 : List moietylaw09_Op) : Nat → (shelf_Shelf) → (moietyref09_Shelf) → (Int) → Option (shelf_Shelf × moietyref09_Shelf)
  | 0, _, _, _ => none
  | n + 1, x13, x14, x15 => (if (decide (x15 < (a0.length : Int))) then ((idx a0 x15).bind fun e17 => ((moietylaw09_do x13 x14 e17).bind fun r19 => ((moietylaw09_ShelfSame_l1 a0 n) r19.1 r19.2.1 (IntKind.i64.wrap (x15 + (1 : Int)))))) else (some (x13, x14)))
def moietylaw09_ShelfSame (a0 : List moietylaw09_Op) (a1 : List moietylaw09_Op) : Option (Bool) := ((moietylaw09_speaks).bind fun r1 => (if (!r1) then (some false) else ((moietylaw09_big a0).bind fun r4 => ((gd (!r4) (moietylaw09_big a1)).bind fun r6 => (if (r4 || r6) then (some true) else ((shelf_New (400 : Int)).bind fun r9 => ((shelf_New (500 : Int)).bind fun r11 => ((moietylaw09_ShelfSame_l1 a0 (Int.toNat ((a0.length : Int) - (0 : Int)) + 1) r9.1 ({ L := ([] : List moietyref09_Pair), Room := (400 : Int) } : moietyref09_Shelf) (0 : Int)).bind fun z23 => match z23 with | (y21, y22) => ((moietylaw09_ShelfSame_l2 a1 (Int.toNat ((a1.length : Int) - (0 : Int)) + 1) r11.1 ({ L := ([] : List moietyref09_Pair), Room := (500 : Int) } : moietyref09_Shelf) (0 : Int)).bind fun z34 => match z34 with | (y32, y33) => ((shelf_Same y21 y32).bind fun r35 => ((moietyref09_Same y22 y33).bind fun r37 => ((gd (!(r35 != r37)) (shelf_Same y21 y21)).bind fun r39 => (if ((r35 != r37) || (!r39)) then (some false) else ((shelf_New (500 : Int)).bind fun r42 => ((moietylaw09_ShelfSame_l3 y22 (Int.toNat ((y22.L.length : Int) - (0 : Int)) + 1) r42.1 (0 : Int)).bind fun z54 => match z54 with | y53 => ((shelf_Same y21 y53).bind fun r55 => (some r55)))))))))))))))))
def shelf_Shelf_Room (a0 : shelf_Shelf) : Option (Int) := (some a0.room)
def moietyref09_Shelf_Get (a0 : moietyref09_Shelf) (a1 : ByteArray) : Option (api_Record × Bool) := ((moietyref09_Shelf_Find a0 a1).bind fun r1 => ((gd (decide (r1 < (a0.L.length : Int))) (idx a0.L r1)).bind fun e3 => (if ((decide (r1 < (a0.L.length : Int))) && (sEq e3.Key a1)) then ((idx a0.L r1).bind fun e6 => (some (e6.Rec, true))) else (some (({ Kind := (0 : Int), Num := (0 : Int), Low := (0 : Int), High := (0 : Int), Real := (0 : Nat), Cap := (0 : Int), Text := ByteArray.empty, List := ([] : List api_Item) } : api_Record), false)))))
def moietylaw09_Is_l1 (a0 : shelf_Shelf) (a1 : moietyref09_Shelf) : Nat → (Int) → Option ((Int) ⊕ (Unit))
  | 0, _ => none
  | n + 1, x6 => (if (decide (x6 < (a1.L.length : Int))) then ((idx a1.L x6).bind fun e8 => ((shelf_Shelf_At a0 x6).bind fun r10 => ((gd (!((!r10.2.2) || (!sEq r10.1 e8.Key))) (moietyref03_Same r10.2.1 e8.Rec)).bind fun r12 => (if (((!r10.2.2) || (!sEq r10.1 e8.Key)) || (!r12)) then (some (.inl (0 : Int))) else ((moietylaw09_Is_l1 a0 a1 n) (IntKind.i64.wrap (x6 + (1 : Int)))))))) else (some (.inr ())))
def moietylaw09_Is (a0 : shelf_Shelf) (a1 : moietyref09_Shelf) : Option (Int) := ((shelf_Shelf_Len a0).bind fun r1 => ((gd (!(r1 != (a1.L.length : Int))) (shelf_Shelf_Room a0)).bind fun r3 => (if ((r1 != (a1.L.length : Int)) || (r3 != a1.Room)) then (some (0 : Int)) else ((moietylaw09_Is_l1 a0 a1 (Int.toNat ((a1.L.length : Int) - (0 : Int)) + 1) (0 : Int)).bind fun z15 => match z15 with | .inl r => some r | .inr () => (some (1 : Int))))))
def moietylaw09_ShelfDoes_l1 (a1 : List moietylaw09_Op) : Nat → (shelf_Shelf) → (moietyref09_Shelf) → (Int) → Option ((Bool) ⊕ (Unit))
  | 0, _, _, _ => none
  | n + 1, x14, x15, x16 => (if (decide (x16 < (a1.length : Int))) then ((idx a1 x16).bind fun e18 => ((moietylaw09_do x14 x15 e18).bind fun r20 => ((shelf_Shelf_Get r20.1 e18.Key).bind fun r22 => ((moietyref09_Shelf_Get r20.2.1 e18.Key).bind fun r24 => ((gd (!(!r20.2.2)) (moietylaw09_Is r20.1 r20.2.1)).bind fun r26 => ((gd (!(((!r20.2.2) || (r26 == (0 : Int))) || (r22.2 != r24.2))) (moietyref03_Same r22.1 r24.1)).bind fun r28 => (if ((((!r20.2.2) || (r26 == (0 : Int))) || (r22.2 != r24.2)) || (!r28)) then (some (.inl false)) else ((moietylaw09_ShelfDoes_l1 a1 n) r20.1 r20.2.1 (IntKind.i64.wrap (x16 + (1 : Int))))))))))) else (some (.inr ())))
def moietylaw09_ShelfDoes (a0 : Int) (a1 : List moietylaw09_Op) : Option (Bool) := ((moietylaw09_speaks).bind fun r1 => (if (!r1) then (some false) else ((moietylaw09_big a1).bind fun r4 => (if r4 then (some true) else ((shelf_New a0).bind fun r7 => ((gd (((!((r7.2 == (0 : Int)) != ((decide ((1 : Int) ≤ a0)) && (decide (a0 ≤ (4096 : Int)))))) && (r7.2 != (0 : Int))) && (!(r7.2 != (1 : Int)))) (shelf_Shelf_Room r7.1)).bind fun r9 => (if (((r7.2 == (0 : Int)) != ((decide ((1 : Int) ≤ a0)) && (decide (a0 ≤ (4096 : Int))))) || ((r7.2 != (0 : Int)) && ((r7.2 != (1 : Int)) || (r9 != (0 : Int))))) then (some false) else ((shelf_Shelf_Room r7.1).bind fun r12 => ((moietylaw09_ShelfDoes_l1 a1 (Int.toNat ((a1.length : Int) - (0 : Int)) + 1) r7.1 ({ L := ([] : List moietyref09_Pair), Room := r12 } : moietyref09_Shelf) (0 : Int)).bind fun z31 => match z31 with | .inl r => some r | .inr () => (some true))))))))))
def moietylaw09_ShelfStays_l3 (y35 : List shelf_Shelf) (y36 : List moietyref09_Shelf) : Nat → (Int) → Option ((Bool) ⊕ (Unit))
  | 0, _ => none
  | n + 1, x38 => (if (decide (x38 < (y35.length : Int))) then ((idx y35 x38).bind fun e40 => ((idx y36 x38).bind fun e42 => ((moietylaw09_Is e40 e42).bind fun r44 => (if (r44 == (0 : Int)) then (some (.inl false)) else ((moietylaw09_ShelfStays_l3 y35 y36 n) (IntKind.i64.wrap (x38 + (1 : Int)))))))) else (some (.inr ())))
def moietylaw09_ShelfStays_l2 (r23 : ByteArray × api_Record × Bool) : Nat → (api_Record) → (Int) → Option (api_Record)
  | 0, _, _ => none
  | n + 1, x25, x26 => (if (decide (x26 < (r23.2.1.List.length : Int))) then ((idx x25.List x26).bind fun e28 => ((moietylaw09_ShelfStays_l2 r23 n) ({ x25 with List := x25.List.set (Int.toNat x26) { e28 with Name := (⟨#[115, 112, 111, 105, 108, 116]⟩ : ByteArray) } }) (IntKind.i64.wrap (x26 + (1 : Int))))) else (some x25))
def moietylaw09_ShelfStays_l1 (a1 : List moietylaw09_Op) : Nat → (shelf_Shelf) → (moietyref09_Shelf) → (List shelf_Shelf) → (List moietyref09_Shelf) → (Int) → Option ((Bool) ⊕ ((List shelf_Shelf) × (List moietyref09_Shelf)))
  | 0, _, _, _, _, _ => none
  | n + 1, x11, x12, x13, x14, x15 => (if (decide (x15 < (a1.length : Int))) then ((idx a1 x15).bind fun e17 => (if (x13.length + ([x11] : List shelf_Shelf).length) * 16 ≤ 140737488355328 then (if (x14.length + ([x12] : List moietyref09_Shelf).length) * 32 ≤ 140737488355328 then ((moietylaw09_do x11 x12 e17).bind fun r21 => ((shelf_Shelf_At r21.1 (0 : Int)).bind fun r23 => ((moietylaw09_ShelfStays_l2 r23 (Int.toNat ((r23.2.1.List.length : Int) - (0 : Int)) + 1) r23.2.1 (0 : Int)).bind fun z31 => match z31 with | y30 => ((gd (r23.2.2 && (decide ((0 : Int) < (y30.List.length : Int)))) (moietylaw09_Is r21.1 r21.2.1)).bind fun r32 => (if ((r23.2.2 && (decide ((0 : Int) < (y30.List.length : Int)))) && (r32 == (0 : Int))) then (some (.inl false)) else ((moietylaw09_ShelfStays_l1 a1 n) r21.1 r21.2.1 (x13 ++ ([x11] : List shelf_Shelf)) (x14 ++ ([x12] : List moietyref09_Shelf)) (IntKind.i64.wrap (x15 + (1 : Int))))))))) else none) else none)) else (some (.inr (x13, x14))))
def moietylaw09_ShelfStays (a0 : Int) (a1 : List moietylaw09_Op) : Option (Bool) := ((moietylaw09_speaks).bind fun r1 => (if (!r1) then (some false) else ((moietylaw09_big a1).bind fun r4 => (if (r4 || (decide ((40 : Int) < (a1.length : Int)))) then (some true) else ((shelf_New a0).bind fun r7 => ((shelf_Shelf_Room r7.1).bind fun r9 => ((moietylaw09_ShelfStays_l1 a1 (Int.toNat ((a1.length : Int) - (0 : Int)) + 1) r7.1 ({ L := ([] : List moietyref09_Pair), Room := r9 } : moietyref09_Shelf) ([] : List shelf_Shelf) ([] : List moietyref09_Shelf) (0 : Int)).bind fun z37 => match z37 with | .inl r => some r | .inr (y35, y36) => ((moietylaw09_ShelfStays_l3 y35 y36 (Int.toNat ((y35.length : Int) - (0 : Int)) + 1) (0 : Int)).bind fun z47 => match z47 with | .inl r => some r | .inr () => (some true)))))))))
def shelf_node_high_b (self : shelf_nodeT → Option (Int)) (a0 : shelf_nodeT) : Option (Int) := (if a0.isNil then (some (0 : Int)) else ((a0.un).bind fun n2 => ((self n2.left).bind fun r4 => ((self n2.right).bind fun r6 => (some (IntKind.i64.wrap ((1 : Int) + (max r4 r6))))))))
def shelf_node_high_r : Nat → shelf_nodeT → Option (Int)
  | 0 => fun _ => none
  | n + 1 => shelf_node_high_b (shelf_node_high_r n)
def shelf_node_high (a0 : shelf_nodeT) : Option (Int) := shelf_node_high_r (a0.hh + 1) a0
def shelf_Shelf_High (a0 : shelf_Shelf) : Option (Int) := ((shelf_node_high a0.top).bind fun r1 => (some r1))
def bits_Len32_j2 (j5 : Int) (j6 : Int) : Option (Int) := ((sidx (⟨#[0, 1, 2, 2, 3, 3, 3, 3, 4, 4, 4, 4, 4, 4, 4, 4, 5, 5, 5, 5, 5, 5, 5, 5, 5, 5, 5, 5, 5, 5, 5, 5, 6, 6, 6, 6, 6, 6, 6, 6, 6, 6, 6, 6, 6, 6, 6, 6, 6, 6, 6, 6, 6, 6, 6, 6, 6, 6, 6, 6, 6, 6, 6, 6, 7, 7, 7, 7, 7, 7, 7, 7, 7, 7, 7, 7, 7, 7, 7, 7, 7, 7, 7, 7, 7, 7, 7, 7, 7, 7, 7, 7, 7, 7, 7, 7, 7, 7, 7, 7, 7, 7, 7, 7, 7, 7, 7, 7, 7, 7, 7, 7, 7, 7, 7, 7, 7, 7, 7, 7, 7, 7, 7, 7, 7, 7, 7, 7, 8, 8, 8, 8, 8, 8, 8, 8, 8, 8, 8, 8, 8, 8, 8, 8, 8, 8, 8, 8, 8, 8, 8, 8, 8, 8, 8, 8, 8, 8, 8, 8, 8, 8, 8, 8, 8, 8, 8, 8, 8, 8, 8, 8, 8, 8, 8, 8, 8, 8, 8, 8, 8, 8, 8, 8, 8, 8, 8, 8, 8, 8, 8, 8, 8, 8, 8, 8, 8, 8, 8, 8, 8, 8, 8, 8, 8, 8, 8, 8, 8, 8, 8, 8, 8, 8, 8, 8, 8, 8, 8, 8, 8, 8, 8, 8, 8, 8, 8, 8, 8, 8, 8, 8, 8, 8, 8, 8, 8, 8, 8, 8, 8, 8, 8, 8, 8, 8, 8, 8, 8, 8, 8, 8, 8, 8, 8, 8]⟩ : ByteArray) (IntKind.u8.wrap j5)).bind fun b7 => (some (IntKind.i64.wrap (j6 + (IntKind.i64.wrap b7)))))
def bits_Len32_j1 (j2 : Int) (j3 : Int) : Option (Int) := (if (decide ((256 : Int) ≤ j2)) then (bits_Len32_j2 (Int.fdiv j2 (2 ^ 8)) (IntKind.i64.wrap (j3 + (8 : Int)))) else (bits_Len32_j2 j2 j3))
def bits_Len32 (a0 : Int) : Option (Int) := (if (decide ((65536 : Int) ≤ a0)) then (bits_Len32_j1 (Int.fdiv a0 (2 ^ 16)) (16 : Int)) else (bits_Len32_j1 a0 (0 : Int)))
def bits_Len64_j3 (j8 : Int) (j9 : Int) : Option (Int) := ((sidx (⟨#[0, 1, 2, 2, 3, 3, 3, 3, 4, 4, 4, 4, 4, 4, 4, 4, 5, 5, 5, 5, 5, 5, 5, 5, 5, 5, 5, 5, 5, 5, 5, 5, 6, 6, 6, 6, 6, 6, 6, 6, 6, 6, 6, 6, 6, 6, 6, 6, 6, 6, 6, 6, 6, 6, 6, 6, 6, 6, 6, 6, 6, 6, 6, 6, 7, 7, 7, 7, 7, 7, 7, 7, 7, 7, 7, 7, 7, 7, 7, 7, 7, 7, 7, 7, 7, 7, 7, 7, 7, 7, 7, 7, 7, 7, 7, 7, 7, 7, 7, 7, 7, 7, 7, 7, 7, 7, 7, 7, 7, 7, 7, 7, 7, 7, 7, 7, 7, 7, 7, 7, 7, 7, 7, 7, 7, 7, 7, 7, 8, 8, 8, 8, 8, 8, 8, 8, 8, 8, 8, 8, 8, 8, 8, 8, 8, 8, 8, 8, 8, 8, 8, 8, 8, 8, 8, 8, 8, 8, 8, 8, 8, 8, 8, 8, 8, 8, 8, 8, 8, 8, 8, 8, 8, 8, 8, 8, 8, 8, 8, 8, 8, 8, 8, 8, 8, 8, 8, 8, 8, 8, 8, 8, 8, 8, 8, 8, 8, 8, 8, 8, 8, 8, 8, 8, 8, 8, 8, 8, 8, 8, 8, 8, 8, 8, 8, 8, 8, 8, 8, 8, 8, 8, 8, 8, 8, 8, 8, 8, 8, 8, 8, 8, 8, 8, 8, 8, 8, 8, 8, 8, 8, 8, 8, 8, 8, 8, 8, 8, 8, 8, 8, 8, 8, 8, 8, 8]⟩ : ByteArray) (IntKind.u8.wrap j8)).bind fun b10 => (some (IntKind.i64.wrap (j9 + (IntKind.i64.wrap b10)))))
def bits_Len64_j2 (j5 : Int) (j6 : Int) : Option (Int) := (if (decide ((256 : Int) ≤ j5)) then (bits_Len64_j3 (Int.fdiv j5 (2 ^ 8)) (IntKind.i64.wrap (j6 + (8 : Int)))) else (bits_Len64_j3 j5 j6))
def bits_Len64_j1 (j2 : Int) (j3 : Int) : Option (Int) := (if (decide ((65536 : Int) ≤ j2)) then (bits_Len64_j2 (Int.fdiv j2 (2 ^ 16)) (IntKind.i64.wrap (j3 + (16 : Int)))) else (bits_Len64_j2 j2 j3))
def bits_Len64 (a0 : Int) : Option (Int) := (if (decide ((4294967296 : Int) ≤ a0)) then (bits_Len64_j1 (Int.fdiv a0 (2 ^ 32)) (32 : Int)) else (bits_Len64_j1 a0 (0 : Int)))
def bits_Len (a0 : Int) : Option (Int) := ((bits_Len64 a0).bind fun r1 => (some r1))
def moietylaw09_ShelfHigh_j1 (x10 : Int) (kk : (shelf_Shelf) → (Int) → Option ((Bool) ⊕ (Unit))) (j19 : shelf_Shelf) : Option ((Bool) ⊕ (Unit)) := ((shelf_Shelf_High j19).bind fun r20 => ((gd (!(decide (r20 < (0 : Int)))) (shelf_Shelf_High j19)).bind fun r22 => ((gd (!(decide (r20 < (0 : Int)))) (shelf_Shelf_Len j19)).bind fun r24 => ((gd (!(decide (r20 < (0 : Int)))) (bits_Len (IntKind.u64.wrap r24))).bind fun r26 => (if ((decide (r20 < (0 : Int))) || (decide ((IntKind.i64.wrap ((3 : Int) * r26)) < r22))) then (some (.inl false)) else (kk j19 (IntKind.i64.wrap (x10 + (1 : Int)))))))))
def moietylaw09_ShelfHigh_l1 (a0 : List moietylaw09_Op) : Nat → (shelf_Shelf) → (Int) → Option ((Bool) ⊕ (Unit))
  | 0, _, _ => none
  | n + 1, x9, x10 => (if (decide (x10 < (a0.length : Int))) then ((idx a0 x10).bind fun e12 => (if e12.Cut then ((shelf_Shelf_Cut x9 e12.Key).bind fun r15 => (moietylaw09_ShelfHigh_j1 x10 (moietylaw09_ShelfHigh_l1 a0 n) r15.1)) else ((shelf_Shelf_Set x9 e12.Key e12.Rec).bind fun r17 => (moietylaw09_ShelfHigh_j1 x10 (moietylaw09_ShelfHigh_l1 a0 n) r17.1)))) else (some (.inr ())))
def moietylaw09_ShelfHigh (a0 : List moietylaw09_Op) : Option (Bool) := ((moietylaw09_speaks).bind fun r1 => (if (!r1) then (some false) else ((moietylaw09_big a0).bind fun r4 => (if r4 then (some true) else ((shelf_New (4096 : Int)).bind fun r7 => ((moietylaw09_ShelfHigh_l1 a0 (Int.toNat ((a0.length : Int) - (0 : Int)) + 1) r7.1 (0 : Int)).bind fun z29 => match z29 with | .inl r => some r | .inr () => (some true)))))))
end Go.CL

set_option linter.unusedVariables false
set_option linter.unusedSimpArgs false
set_option maxRecDepth 100000
namespace Go.CL
open Go Go.RowKit
def wf_api_Item (x : api_Item) : Prop := (x.Score < 2 ^ 64) ∧ (x.Name.size ≤ maxLen)
def wf_api_Record (x : api_Record) : Prop := ((IntKind.i64).min ≤ x.Kind ∧ x.Kind ≤ (IntKind.i64).max) ∧ ((IntKind.i64).min ≤ x.Num ∧ x.Num ≤ (IntKind.i64).max) ∧ ((IntKind.i64).min ≤ x.Low ∧ x.Low ≤ (IntKind.i64).max) ∧ ((IntKind.i64).min ≤ x.High ∧ x.High ≤ (IntKind.i64).max) ∧ (x.Real < 2 ^ 64) ∧ ((IntKind.i64).min ≤ x.Cap ∧ x.Cap ≤ (IntKind.i64).max) ∧ (x.Text.size ≤ maxLen) ∧ (x.List.length ≤ maxLen ∧ ∀ e0 ∈ x.List, (wf_api_Item e0))
def wf_rec_shape (x : rec_shape) : Prop := True ∧ True ∧ True ∧ True ∧ True
def wf_moietylaw09_Op (x : moietylaw09_Op) : Prop := True ∧ (x.Key.size ≤ maxLen) ∧ (wf_api_Record x.Rec)
def wf_moietyref09_Pair (x : moietyref09_Pair) : Prop := (x.Key.size ≤ maxLen) ∧ (wf_api_Record x.Rec)
def wf_moietyref09_Shelf (x : moietyref09_Shelf) : Prop := (x.L.length ≤ maxLen ∧ ∀ e0 ∈ x.L, (wf_moietyref09_Pair e0)) ∧ ((IntKind.i64).min ≤ x.Room ∧ x.Room ≤ (IntKind.i64).max)
end Go.CL
