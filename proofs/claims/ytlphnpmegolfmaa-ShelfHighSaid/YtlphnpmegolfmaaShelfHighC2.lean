/- A part of the proof of ShelfHigh. -/
import Derived.Test.YtlphnpmegolfmaaShelfHighC1
import Derived.Test.YtlphnpmegolfmaaProg
/- Functions that write through pointers of their caller's. -/
set_option linter.unusedVariables false
set_option linter.unusedSimpArgs false
namespace Go.CL
open Go Go.RowKit

section
variable {P : Program} {N : Nat} {o : Oper} {uses : Slots} {d : Nat} {q q1 : Pd} {x y z : Operand} {α β : Type} {k1 : Kd α} {k2 : Kd β} {x0 x1 : α} {y0 y1 : β}
def ptrTo (b : Nat) : Value := .pointer (some ⟨b, 0, none⟩)
def BoxAt (dk : Kd α) (v : α) (g : G) (b : Nat) : Prop := b < g.w.heap.size ∧ (∃ cs t, g.w.heap[b]? = some (.cells cs.toArray t (0, 0)) ∧ dk.K g v cs) ∧ ∀ o, ¬ g.pr b o
theorem box_of {b j : Nat} {v : α} {g : G} {u : Value} (h : (pBoxC (some b) k1 j v).p g u) : BoxAt k1 v g b := by
  obtain ⟨b', cs, t, e, hm, hc⟩ := h
  obtain rfl := hc b rfl
  exact ⟨hm.1, ⟨cs, t, hm.2.2.2.1, hm.2.2.2.2.1⟩, hm.2.2.2.2.2⟩
/-- A parameter: a value, or a pointer to what is x0, and x1 behind the call. -/
inductive Par : Type 1
  | val (q : Pd)
  | box {α : Type} (k : Kd α) (x0 x1 : α)
def ParsOk (g : G) : List Par → List Value → List Nat → Prop
  | [], [], [] => True
  | .val q :: Ps, v :: vs, bs => q.p g v ∧ ParsOk g Ps vs bs
  | .box k x0 _ :: Ps, v :: vs, b :: bs => v = ptrTo b ∧ BoxAt k x0 g b ∧ b ∉ bs ∧ ParsOk g Ps vs bs
  | _, _, _ => False
def ParsPost (g : G) : List Par → List Nat → Prop
  | .val _ :: Ps, bs => ParsPost g Ps bs
  | .box k _ x1 :: Ps, b :: bs => BoxAt k x1 g b ∧ ParsPost g Ps bs
  | _, _ => True
def ownB : List Par → List Nat → Nat → Nat → Nat
  | .val _ :: Ps, bs, i, c => ownB Ps bs (i + 1) c
  | .box _ _ _ :: Ps, b :: bs, i, c => if c = b then i + 1 else ownB Ps bs (i + 1) c
  | _, _, _, _ => 0
def slotsB : List Par → List Nat → Nat → Slots
  | .val q :: Ps, bs, i => (i, q) :: slotsB Ps bs (i + 1)
  | .box k x0 _ :: Ps, b :: bs, i => (i, pBoxC (some b) k i x0) :: slotsB Ps bs (i + 1)
  | _, _, _ => []
def FreeB : List Par → Bool
  | .val q :: Ps => q.fp.isEmpty && FreeB Ps
  | .box _ _ _ :: Ps => FreeB Ps
  | [] => true
def nbox : List Par → Nat
  | .val _ :: Ps => nbox Ps
  | .box _ _ _ :: Ps => nbox Ps + 1
  | [] => 0
/-- **A contract with boxes.** -/
def FnB (P : Program) (f : FuncId) (Ps : List Par) (q : Pd) : Prop := ∀ (g : G) (args : List Value) (bs : List Nat), ParsOk g Ps args bs →
  Calls P f args.toArray g.w (fun e w' => ∃ g' u, e = .returned u ∧ w' = g'.w ∧ StepB (· ∈ bs) g g' ∧ ParsPost g' Ps bs ∧ q.p g' u)
theorem ParsOk.len {g : G} : ∀ {Ps : List Par} {vs : List Value} {bs : List Nat}, ParsOk g Ps vs bs → vs.length = Ps.length ∧ bs.length = nbox Ps
  | [], [], [], _ => ⟨rfl, rfl⟩
  | .val q :: Ps, v :: vs, bs, h => ⟨by simp [(ParsOk.len h.2).1], (ParsOk.len h.2).2⟩
  | .box k x0 x1 :: Ps, v :: vs, b :: bs, h => ⟨by simp [(ParsOk.len h.2.2.2).1], by simp [nbox, (ParsOk.len h.2.2.2).2]⟩
  | [], v :: vs, _, h => by cases h
  | [], [], b :: bs, h => by cases h
  | .val q :: Ps, [], _, h => by cases h
  | .box k x0 x1 :: Ps, [], _, h => by cases h
  | .box k x0 x1 :: Ps, v :: vs, [], h => by cases h
theorem ownB_ge : ∀ {Ps : List Par} {bs : List Nat} {i c : Nat}, ownB Ps bs i c ≠ 0 → i < ownB Ps bs i c
  | .val _ :: Ps, bs, i, c, h => by have := ownB_ge (Ps := Ps) (bs := bs) (i := i + 1) (c := c) h; exact Nat.lt_trans (Nat.lt_succ_self _) this
  | .box _ _ _ :: Ps, b :: bs, i, c, h => by
    simp only [ownB] at h ⊢
    split
    · omega
    · rename_i hc; rw [if_neg hc] at h; have := ownB_ge (Ps := Ps) (bs := bs) (i := i + 1) (c := c) h; omega
  | .box _ _ _ :: Ps, [], i, c, h => by simp [ownB] at h
  | [], _, i, c, h => by simp [ownB] at h
theorem ownB_out : ∀ {Ps : List Par} {bs : List Nat} {i c : Nat}, c ∉ bs → ownB Ps bs i c = 0
  | .val _ :: Ps, bs, i, c, h => ownB_out (Ps := Ps) h
  | .box _ _ _ :: Ps, b :: bs, i, c, h => by
    simp only [ownB]
    rw [if_neg (fun e => h (by simp [e])), ownB_out (fun e => h (by simp [e]))]
  | .box _ _ _ :: Ps, [], i, c, h => rfl
  | [], _, i, c, h => rfl
theorem slotsB_ok {g g0 : G} (hw : g0.w = g.w) (hp : g0.pr = g.pr) (h : ∀ (q : Pd) v, q.fp = [] → q.p g v → q.p g0 v) (hk : ∀ {α : Type} (k : Kd α) x cs, k.K g x cs → k.K g0 x cs) {a : Act} :
    ∀ {Ps : List Par} {vs : List Value} {bs : List Nat} {i : Nat}, FreeB Ps = true → ParsOk g Ps vs bs → (∀ n u, vs[n]? = some u → Act.at a (i + n) = u) → (∀ c, ownB Ps bs i c ≠ 0 → g0.own c = ownB Ps bs i c) → (∀ c, i < g0.own c → g0.own c = ownB Ps bs i c) → Holds (slotsB Ps bs i) a g0
  | [], [], [], i, _, _, _, _, _ => holds_nil
  | .val q :: Ps, v :: vs, bs, i, hf, ho, ha, h1, h2 => by
    simp only [FreeB, Bool.and_eq_true, List.isEmpty_iff] at hf
    refine holds_cons (by rw [show Act.at a i = v from ha 0 v rfl]; exact h q v hf.1 ho.1) (slotsB_ok hw hp h hk hf.2 ho.2 (fun n u hu => ?_) h1 (fun c hc => h2 c (by omega)))
    rw [show i + 1 + n = i + (n + 1) by omega]; exact ha (n + 1) u (by simpa using hu)
  | .box k x0 x1 :: Ps, v :: vs, b :: bs, i, hf, ⟨hv, ⟨hb1, ⟨cs, t, hb2, hb3⟩, hb4⟩, hn, ho⟩, ha, h1, h2 => by
    have hown : ownB (.box k x0 x1 :: Ps) (b :: bs) i b = i + 1 := by simp [ownB]
    have hob : g0.own b = i + 1 := by rw [h1 b (by rw [hown]; omega), hown]
    have hu : ∀ b', g0.own b' = i + 1 → b' = b := fun b' e => by
      have := h2 b' (by omega)
      simp only [ownB] at this
      split at this
      · assumption
      · rename_i hc
        have h3 := ownB_ge (Ps := Ps) (bs := bs) (i := i + 1) (c := b') (by omega)
        omega
    refine holds_cons (show (pBoxC (some b) k i x0).p g0 _ from ?_) (slotsB_ok hw hp h hk hf ho (fun n u hu => ?_) (fun c hc => ?_) (fun c hc => ?_))
    · rw [show Act.at a i = v from ha 0 v rfl]
      exact ⟨b, cs, t, hv, ⟨by rw [hw]; exact hb1, hob, fun b' _ e => hu b' e, by rw [hw]; exact hb2, hk k _ _ hb3, fun o => by rw [hp]; exact hb4 o⟩, fun b' e => Option.some.inj e⟩
    · rw [show i + 1 + n = i + (n + 1) by omega]; exact ha (n + 1) u (by simpa using hu)
    · have hcb : c ≠ b := fun e => hc (by rw [e]; exact ownB_out hn)
      have e : ownB (.box k x0 x1 :: Ps) (b :: bs) i c = ownB Ps bs (i + 1) c := by simp [ownB, hcb]
      rw [h1 c (by rw [e]; exact hc), e]
    · have hcb : c ≠ b := fun e => by rw [e, hob] at hc; omega
      have e : ownB (.box k x0 x1 :: Ps) (b :: bs) i c = ownB Ps bs (i + 1) c := by simp [ownB, hcb]
      rw [h2 c (by omega), e]
  | [], v :: vs, _, _, _, h, _, _, _ => by cases h
  | [], [], b :: bs, _, _, h, _, _, _ => by cases h
  | .val q :: Ps, [], _, _, _, h, _, _, _ => by cases h
  | .box k x0 x1 :: Ps, [], _, _, _, h, _, _, _ => by cases h
  | .box k x0 x1 :: Ps, v :: vs, [], _, _, h, _, _, _ => by cases h
def BEnd (Ps : List Par) (bs : List Nat) (g0 : G) (q : Pd) (v : Value) (g1 : G) : Prop := Base g0 g1 ∧ q.p g1 v ∧ ParsPost g1 Ps bs
theorem fnB_ok {f : FuncId} {fn : Func} {c : Code} {Ps : List Par} (hf : P.funcs[f]? = some fn) (hb : fn.body = some c) (hn : fn.ntmps = N) (hAN : Ps.length ≤ N) (hA : FreeB Ps = true) (hq : q.fp = [])
    (h : ∀ (a : Act) (g : G) (bs : List Nat), bs.length = nbox Ps → St N (slotsB Ps bs 0) a g → Base g g → c.wp P (bodyPost P fn (FinP (BEnd Ps bs g q))) a g.w) : FnB P f Ps q := by
  intro g args bs hargs
  obtain ⟨hl1, hl2⟩ := hargs.len
  let g0 : G := ⟨g.w, g.pr, fun c => ownB Ps bs 0 c, g.hpr, g.gl⟩
  have hle : g.le g0 := ⟨Nat.le_refl _, fun _ _ h => h, fun _ _ _ => rfl⟩
  have hst : St N (slotsB Ps bs 0) { tmps := args.toArray ++ Array.replicate (fn.ntmps - args.toArray.size) undef, defers := [] } g0 := by
    refine ⟨by simp [hn]; omega, rfl, slotsB_ok (g := g) (g0 := g0) rfl rfl (fun q v hq hv => Pd.le hq hle rfl rfl rfl hv) (fun k x cs hk => k.mono hle hk) hA hargs (fun n u hu => ?_) (fun _ _ => rfl) (fun _ _ => rfl)⟩
    have hlt := (List.getElem?_eq_some_iff.1 hu).1
    rw [Nat.zero_add]
    simp only [Act.at, Array.getD_eq_getD_getElem?]
    rw [Array.getElem?_append, if_pos (by simpa using hlt)]
    have hi' : (args.toArray)[n]? = some u := by rw [List.getElem?_toArray]; exact hu
    rw [hi']; rfl
  have hbase : Base g0 g0 := ⟨.refl _, rfl, rfl, rfl, fun _ _ h => ⟨rfl, rfl, h⟩⟩
  refine Calls.mono (calls_of_wp hf hb (h _ g0 bs hl2 hst hbase)) ?_
  rintro e w' ⟨g1, u, rfl, rfl, hB, hqu, hpost⟩
  exact ⟨g1, u, rfl, rfl, ⟨⟨hB.le.size, hB.le.pr, hB.le.cell⟩, hB.os, hB.tape, hB.output, fun c hc hn' => ⟨(hB.same c hc (ownB_out hn')).1, (hB.same c hc (ownB_out hn')).2.1⟩⟩, hpost, hqu⟩
theorem endB1 {fn : Func} {r : ResultVar} {v : Value} {a : Act} {g g0 : G} {L : Slots} {Ps : List Par} {bs : List Nat} (hr : fn.results = #[r]) (h : St N L a g) (hb : Base g0 g) (h1 : ResOk P a g r v) (hq : q.p g v) (hp : ParsPost g Ps bs) : bodyPost P fn (FinP (BEnd Ps bs g0 q)) .ret a g.w :=
  endP hr h h1 ⟨hb, hq, hp⟩
theorem endB2 {fn : Func} {r1 r2 : ResultVar} {v1 v2 : Value} {a : Act} {g g0 : G} {L : Slots} {Ps : List Par} {bs : List Nat} (hr : fn.results = #[r1, r2]) (h : St N L a g) (hb : Base g0 g) (h1 : ResOk P a g r1 v1) (h2 : ResOk P a g r2 v2) (hq : q.p g (.tuple #[v1, v2])) (hp : ParsPost g Ps bs) : bodyPost P fn (FinP (BEnd Ps bs g0 q)) .ret a g.w :=
  ⟨h.df, _, by
    have h1' : (resSem a.tmps r1).run P g.w = .ok v1 g.w := h1
    have h2' : (resSem a.tmps r2).run P g.w = .ok v2 g.w := h2
    simp [results_eq, hr, h1', h2'], g, _, rfl, rfl, hb, hq, hp⟩
theorem endB3 {fn : Func} {r1 r2 r3 : ResultVar} {v1 v2 v3 : Value} {a : Act} {g g0 : G} {L : Slots} {Ps : List Par} {bs : List Nat} (hr : fn.results = #[r1, r2, r3]) (h : St N L a g) (hb : Base g0 g) (h1 : ResOk P a g r1 v1) (h2 : ResOk P a g r2 v2) (h3 : ResOk P a g r3 v3) (hq : q.p g (.tuple #[v1, v2, v3])) (hp : ParsPost g Ps bs) : bodyPost P fn (FinP (BEnd Ps bs g0 q)) .ret a g.w :=
  ⟨h.df, _, by
    have h1' : (resSem a.tmps r1).run P g.w = .ok v1 g.w := h1
    have h2' : (resSem a.tmps r2).run P g.w = .ok v2 g.w := h2
    have h3' : (resSem a.tmps r3).run P g.w = .ok v3 g.w := h3
    simp [results_eq, hr, h1', h2', h3'], g, _, rfl, rfl, hb, hq, hp⟩
theorem endB0 {fn : Func} {a : Act} {g g0 : G} {L : Slots} {Ps : List Par} {bs : List Nat} (hr : fn.results = #[]) (h : St N L a g) (hb : Base g0 g) (hq : q.p g (.tuple #[])) (hp : ParsPost g Ps bs) : bodyPost P fn (FinP (BEnd Ps bs g0 q)) .ret a g.w :=
  ⟨h.df, _, by simp [results_eq, hr], g, _, rfl, rfl, hb, hq, hp⟩

/-! ### calls -/
/-- The homes of boxes: a slot, whether its block is known, its owner. -/
abbrev Home := Nat × Option Nat × Nat
def ValB (a : Act) (g : G) : List Par → List Value → List Home → Prop
  | [], [], [] => True
  | .val q :: Ps, v :: vs, hs => q.p g v ∧ ValB a g Ps vs hs
  | .box k x0 _ :: Ps, v :: vs, h :: hs => (pBoxC h.2.1 k h.2.2 x0).p g (Act.at a h.1) ∧ (∃ c, (pBoxC c k h.2.2 x0).p g v) ∧ (∀ e ∈ hs, e.2.2 ≠ h.2.2) ∧ ValB a g Ps vs hs
  | _, _, _ => False
def outsB : List Par → List Home → Slots
  | .val _ :: Ps, hs => outsB Ps hs
  | .box k _ x1 :: Ps, h :: hs => (h.1, pBoxC h.2.1 k h.2.2 x1) :: outsB Ps hs
  | _, _ => []
def SB (hs : List Home) : List Nat := hs.map fun h => h.2.2 + 1
theorem valB_pars {a : Act} {g : G} : ∀ {Ps : List Par} {vs : List Value} {hs : List Home}, ValB a g Ps vs hs → ∃ bs : List Nat, ParsOk g Ps vs bs ∧ (∀ b ∈ bs, ∃ h ∈ hs, g.own b = h.2.2 + 1)
  | [], [], [], _ => ⟨[], trivial, fun b h => by cases h⟩
  | .val q :: Ps, v :: vs, hs, ⟨h1, h2⟩ => by
    obtain ⟨bs, e1, e2⟩ := valB_pars h2
    exact ⟨bs, ⟨h1, e1⟩, e2⟩
  | .box k x0 x1 :: Ps, v :: vs, h :: hs, ⟨h1, ⟨c, b, cs, t, hv, hm, _⟩, h3, h4⟩ => by
    obtain ⟨bs, e1, e2⟩ := valB_pars h4
    refine ⟨b :: bs, ⟨hv, ⟨hm.1, ⟨cs, t, hm.2.2.2.1, hm.2.2.2.2.1⟩, hm.2.2.2.2.2⟩, fun hb => ?_, e1⟩, fun b' hb' => ?_⟩
    · obtain ⟨h', hh', ho⟩ := e2 b hb
      have := h3 h' hh'
      rw [hm.2.1] at ho; omega
    · rcases List.mem_cons.1 hb' with rfl | hb'
      · exact ⟨h, by simp, hm.2.1⟩
      · obtain ⟨h', hh', ho⟩ := e2 b' hb'
        exact ⟨h', by simp [hh'], ho⟩
  | [], v :: vs, _, h => by cases h
  | [], [], b :: bs, h => by cases h
  | .val q :: Ps, [], _, h => by cases h
  | .box k x0 x1 :: Ps, [], _, h => by cases h
  | .box k x0 x1 :: Ps, v :: vs, [], h => by cases h
theorem valB_post {a a' : Act} {g g2 : G} (hown : ∀ c, c < g.w.heap.size → g2.own c = g.own c) (hnew : ∀ c, g.w.heap.size ≤ c → g2.own c = 0) (hsz : g.w.heap.size ≤ g2.w.heap.size) :
    ∀ {Ps : List Par} {vs : List Value} {hs : List Home} {bs : List Nat}, (∀ h ∈ hs, Act.at a' h.1 = Act.at a h.1) → ValB a g Ps vs hs → ParsOk g Ps vs bs → ParsPost g2 Ps bs → ∀ e ∈ outsB Ps hs, e.2.p g2 (Act.at a' e.1)
  | [], [], [], [], _, _, _, _, e, he => by cases he
  | .val q :: Ps, v :: vs, hs, bs, ha, h, ho, hp, e, he => valB_post hown hnew hsz ha h.2 ho.2 hp e he
  | .box k x0 x1 :: Ps, v :: vs, h :: hs, b :: bs, ha, ⟨h1, ⟨c, b2, cs, t, hv, hm, _⟩, h3, h4⟩, ⟨hv2, _, _, ho⟩, ⟨⟨p1, ⟨cs', t', p2, p3⟩, p4⟩, hp⟩, e, he => by
    rcases List.mem_cons.1 he with rfl | he
    · obtain ⟨b3, cs3, t3, hv3, hm3, hc3⟩ := h1
      obtain rfl : b2 = b3 := hm3.2.2.1 b2 hm.1 hm.2.1
      have hbb : b2 = b := by
        rw [hv] at hv2
        simp only [ptrTo, Value.pointer.injEq, Option.some.injEq, Addr.mk.injEq] at hv2
        exact hv2.1
      subst hbb
      show (pBoxC h.2.1 k h.2.2 x1).p g2 (Act.at a' h.1)
      rw [ha h (by simp)]
      refine ⟨b2, cs', t', hv3, ⟨p1, by rw [hown b2 hm.1]; exact hm.2.1, fun b' hb' ho' => ?_, p2, p3, p4⟩, hc3⟩
      rcases Nat.lt_or_ge b' g.w.heap.size with hl | hl
      · rw [hown b' hl] at ho'; exact hm.2.2.1 b' hl ho'
      · rw [hnew b' hl] at ho'; omega
    · exact valB_post hown hnew hsz (fun h' hh' => ha h' (by simp [hh'])) h4 ho hp e he
  | [], v :: vs, _, _, _, h, _, _, _, _ => by cases h
  | [], [], b :: bs, _, _, h, _, _, _, _ => by cases h
  | [], [], [], b :: bs, _, _, h, _, _, _ => by cases h
  | .val q :: Ps, [], _, _, _, h, _, _, _, _ => by cases h
  | .box k x0 x1 :: Ps, [], _, _, _, h, _, _, _, _ => by cases h
  | .box k x0 x1 :: Ps, v :: vs, [], _, _, h, _, _, _, _ => by cases h
  | .box k x0 x1 :: Ps, v :: vs, h :: hs, [], _, _, h', _, _, _ => by cases h'
theorem callB_core {f : FuncId} {Ps : List Par} {hs : List Home} (hok : FnB P f Ps q) (hq : q.fp = []) (hd : o.dst = some d) (hne : ∀ h ∈ hs, h.1 ≠ d)
    (hr : ∀ (a : Act) g, Holds uses a g → ∃ vs : List Value, (execOp a.eval o).run P g.w = .ok (.enter f vs.toArray) g.w ∧ ValB a g Ps vs hs) : OB P N o uses ((d, q) :: outsB Ps hs) (SB hs) := by
  intro a g K Q hN hdN hu hK
  obtain ⟨vs, hr, hv⟩ := hr a g hu
  obtain ⟨bs, ho, hbs⟩ := valB_pars hv
  unfold Oper.wp
  rw [hr]
  show Calls P f _ g.w _
  refine Calls.mono (hok g vs bs ho) ?_
  rintro e w' ⟨g', u, rfl, rfl, hS, hpost, hqu⟩
  let g2 : G := ⟨g'.w, g'.pr, fun c => if c < g.w.heap.size then g.own c else 0, g'.hpr, g'.gl⟩
  have hle : g'.le g2 := ⟨Nat.le_refl _, fun _ _ h => h, fun _ _ _ => rfl⟩
  have hown : ∀ c, g2.own c = if c < g.w.heap.size then g.own c else 0 := fun _ => rfl
  have hpost2 : ∀ {Ps : List Par} {bs : List Nat}, ParsPost g' Ps bs → ParsPost g2 Ps bs := by
    intro Ps
    induction Ps with
    | nil => intro bs _; cases bs <;> trivial
    | cons p Ps ih =>
      intro bs h
      cases p with
      | val q => exact ih (show ParsPost g' Ps bs from h)
      | box k x0 x1 => cases bs with
        | nil => trivial
        | cons b bs =>
          obtain ⟨⟨p1, ⟨cs, t, p2, p3⟩, p4⟩, h⟩ := h
          exact ⟨⟨p1, ⟨cs, t, p2, k.mono hle p3⟩, p4⟩, ih h⟩
  refine hK u g2 ⟨⟨hS.le.size, hS.le.pr, hS.le.cell⟩, hS.os, hS.tape, hS.output, fun c hc hn => ?_, fun c k1 k2 => .inl ?_, fun c hc hn => .inr ?_⟩ fun e he => ?_
  · have hc1 : c ∉ bs := fun hb => by
      obtain ⟨h, hh, ho'⟩ := hbs c hb
      exact hn (by rw [ho']; exact List.mem_map.2 ⟨h, hh, rfl⟩)
    obtain ⟨k1, k2⟩ := hS.same c hc hc1
    exact ⟨k1, k2, by rw [hown, if_pos hc]⟩
  · rw [hown, if_neg (by omega)]
  · rw [hown, if_pos hc]; exact hn
  · rcases List.mem_cons.1 he with rfl | he
    · rw [hd, at_put_same u (by rw [hN]; exact hdN d hd)]
      exact Pd.le hq hle rfl rfl rfl hqu
    · exact valB_post (g := g) (g2 := g2) (fun c hc => by rw [hown, if_pos hc]) (fun c hc => by rw [hown, if_neg (by omega)]) hS.le.size (fun h hh => at_put_ne u (by rw [hd]; intro e; exact hne h hh (Option.some.inj e).symm)) hv ho (hpost2 hpost) e he
/-- Operands for parameters. -/
inductive OpB (uses : Slots) : List Par → List Operand → List Home → Prop
  | nil : OpB uses [] [] []
  | val {q : Pd} {Ps : List Par} {x : Operand} {xs : List Operand} {hs : List Home} : Opd uses x q → OpB uses Ps xs hs → OpB uses (.val q :: Ps) (x :: xs) hs
  | box {α : Type} {k : Kd α} {x0 x1 : α} {Ps : List Par} {x : Operand} {xs : List Operand} {s j : Nat} {c c' : Option Nat} {hs : List Home} : Opd uses (.tmp s) (pBoxC c k j x0) → Opd uses x (pBoxC c' k j x0) → (hs.all fun e => e.2.2 != j) = true → OpB uses Ps xs hs → OpB uses (.box k x0 x1 :: Ps) (x :: xs) ((s, c, j) :: hs)
theorem OpB.ok {Ps : List Par} {xs : List Operand} {hs : List Home} (h : OpB uses Ps xs hs) {a : Act} {g : G} (hu : Holds uses a g) : ValB a g Ps (xs.map a.eval) hs := by
  induction h with
  | nil => trivial
  | val h _ ih => exact ⟨h a g hu, ih⟩
  | box h1 h2 h3 _ ih => exact ⟨h1 a g hu, ⟨_, h2 a g hu⟩, fun e he => by simpa using List.all_eq_true.1 h3 e he, ih⟩
theorem ob_callB {f : FuncId} {Ps : List Par} {xs : List Operand} {hs : List Home} {ty : Array TypeId} (he : Enters P f) (hok : FnB P f Ps q) (hop : o.op = .call { callee := .value (.func f), args := xs.toArray, argTypes := ty }) (hd : o.dst = some d) (hq : q.fp = []) (hne : (hs.all fun h => h.1 != d) = true) (hx : OpB uses Ps xs hs) :
    OB P N o uses ((d, q) :: outsB Ps hs) (SB hs) :=
  callB_core hok hq hd (fun h hh => by simpa using List.all_eq_true.1 hne h hh) fun a g hu => ⟨xs.map a.eval, by simp [execOp, hop, resolve, eval_fn, Deferred.ofValue, invoke, enter_run he], hx.ok hu⟩

/-! ### function values with boxes -/
theorem valB_app {a : Act} {g : G} : ∀ {Ps Qs : List Par} {vs us : List Value} {hs ks : List Home}, ValB a g Ps vs hs → ValB a g Qs us ks → (∀ h ∈ hs, ∀ k ∈ ks, k.2.2 ≠ h.2.2) → ValB a g (Ps ++ Qs) (vs ++ us) (hs ++ ks)
  | [], Qs, [], us, [], ks, _, h, _ => h
  | .val q :: Ps, Qs, v :: vs, us, hs, ks, h1, h2, h3 => ⟨h1.1, valB_app h1.2 h2 h3⟩
  | .box k x0 x1 :: Ps, Qs, v :: vs, us, h :: hs, ks, ⟨a1, a2, a3, a4⟩, h2, h3 => ⟨a1, a2, fun e he => by
      rcases List.mem_append.1 he with he | he
      · exact a3 e he
      · exact h3 h (by simp) e he, valB_app a4 h2 (fun h' hh' => h3 h' (by simp [hh']))⟩
  | [], _, v :: vs, _, _, _, h, _, _ => by cases h
  | [], _, [], _, b :: bs, _, h, _, _ => by cases h
  | .val q :: Ps, _, [], _, _, _, h, _, _ => by cases h
  | .box k x0 x1 :: Ps, _, [], _, _, _, h, _, _ => by cases h
  | .box k x0 x1 :: Ps, _, v :: vs, _, [], _, h, _, _ => by cases h
theorem valB_vals {a : Act} {g : G} : ∀ {C : List Pd} {vs : List Value}, ArgsOk C g vs → ValB a g (C.map .val) vs []
  | [], [], _ => trivial
  | q :: C, v :: vs, h => ⟨h.2 0 q v rfl rfl, valB_vals ⟨by simpa using h.1, fun i qi u h1 h2 => h.2 (i + 1) qi u (by simpa using h1) (by simpa using h2)⟩⟩
  | [], v :: vs, h => by simpa using h.1
  | q :: C, [], h => by simpa using h.1
/-- A function's value that writes so, whatever it has caught being fixed. -/
def FnBV (P : Program) (fv : Value) (Ps : List Par) (q : Pd) : Prop := ∃ (f : FuncId) (C : List Pd) (caps : List Value), fv = .func (.func f) #[] caps.toArray ∧ Enters P f ∧ FnB P f (Ps ++ C.map .val) q ∧ ∀ g, ArgsOk C g caps
theorem outsB_app : ∀ {Ps : List Par} {C : List Pd} {hs : List Home}, outsB (Ps ++ C.map .val) hs = outsB Ps hs
  | [], [], hs => rfl
  | [], q :: C, hs => by show outsB (C.map .val) hs = _; rw [show C.map Par.val = [] ++ C.map .val from rfl, outsB_app]
  | .val q :: Ps, C, hs => by show outsB (Ps ++ C.map .val) hs = outsB Ps hs; exact outsB_app
  | .box k x0 x1 :: Ps, C, [] => rfl
  | .box k x0 x1 :: Ps, C, h :: hs => by show _ :: outsB (Ps ++ C.map .val) hs = _ :: outsB Ps hs; rw [outsB_app]
theorem ob_callBV {fv : Value} {Ps : List Par} {xs : List Operand} {hs : List Home} {ty : Array TypeId} (hok : FnBV P fv Ps q) (hop : o.op = .call { callee := .value x, args := xs.toArray, argTypes := ty }) (hd : o.dst = some d) (hq : q.fp = []) (hne : (hs.all fun h => h.1 != d) = true) (hf : Opd uses x (pEq fv)) (hx : OpB uses Ps xs hs) :
    OB P N o uses ((d, q) :: outsB Ps hs) (SB hs) := by
  obtain ⟨f, C, caps, rfl, he, hok, hcaps⟩ := hok
  rw [← outsB_app (C := C)]
  refine callB_core hok hq hd (fun h hh => by simpa using List.all_eq_true.1 hne h hh) fun a g hu => ⟨xs.map a.eval ++ caps, ?_, ?_⟩
  · have hv : a.eval x = .func (.func f) #[] caps.toArray := hf a g hu
    simp [execOp, hop, resolve, hv, Deferred.ofValue, invoke, enter_run he]
  · have := valB_app (hx.ok hu) (valB_vals (a := a) (hcaps g)) (fun h _ k hk => by cases hk)
    rwa [List.append_nil] at this
/-- A function's value that has caught boxes. -/
def pCloB (f : FuncId) (C : List Pd) : Pd := ⟨fun g v => ∃ caps : List Value, v = .func (.func f) #[] caps.toArray ∧ ArgsOk C g caps, C.flatMap (·.fp), fun s hd ⟨caps, e, h⟩ => ⟨caps, e, h.1, fun i qi u hq hu => qi.st s (fun j hj => hd j (List.mem_flatMap.2 ⟨qi, List.mem_of_getElem? hq, hj⟩)) (h.2 i qi u hq hu)⟩⟩
theorem ob_makeFuncB {f : FuncId} {C : List Pd} {xs : List Operand} (hop : o.op = .makeFunc (.func f) #[] xs.toArray) (hd : o.dst = some d) (hx : OpdL uses xs C) : OB P N o uses [(d, pCloB f C)] [] :=
  ob_val hd fun a g hh => ⟨.func (.func f) #[] (xs.map a.eval).toArray, by simp [execOp, hop, Instr.makeFunc], xs.map a.eval, rfl, hx.ok hh⟩
/-- What was caught, for parameters. -/
inductive CapB (uses : Slots) : List Pd → List Par → List Home → Prop
  | nil : CapB uses [] [] []
  | val {q : Pd} {C : List Pd} {Ps : List Par} {hs : List Home} : CapB uses C Ps hs → CapB uses (q :: C) (.val q :: Ps) hs
  | box {α : Type} {k : Kd α} {x0 x1 : α} {C : List Pd} {Ps : List Par} {s j : Nat} {c c' : Option Nat} {hs : List Home} : Opd uses (.tmp s) (pBoxC c k j x0) → (hs.all fun e => e.2.2 != j) = true → CapB uses C Ps hs → CapB uses (pBoxC c' k j x0 :: C) (.box k x0 x1 :: Ps) ((s, c, j) :: hs)
theorem CapB.ok {C : List Pd} {Ps : List Par} {hs : List Home} (h : CapB uses C Ps hs) {a : Act} {g : G} (hu : Holds uses a g) : ∀ {vs : List Value}, ArgsOk C g vs → ValB a g Ps vs hs := by
  induction h with
  | nil => intro vs h; cases vs with
    | nil => trivial
    | cons v vs => simpa using h.1
  | @val q C Ps hs _ ih => intro vs h; cases vs with
    | nil => simpa using h.1
    | cons v vs => exact ⟨h.2 0 q v rfl rfl, ih ⟨by simpa using h.1, fun i qi u h1 h2 => h.2 (i + 1) qi u (by simpa using h1) (by simpa using h2)⟩⟩
  | @box α k x0 x1 C Ps s j c c' hs h1 h2 _ ih => intro vs h; cases vs with
    | nil => simpa using h.1
    | cons v vs => exact ⟨h1 a g hu, ⟨c', h.2 0 _ v rfl rfl⟩, fun e he => by simpa using List.all_eq_true.1 h2 e he, ih ⟨by simpa using h.1, fun i qi u h1 h2 => h.2 (i + 1) qi u (by simpa using h1) (by simpa using h2)⟩⟩
theorem ob_callCB {f : FuncId} {C : List Pd} {Ps Qs : List Par} {xs : List Operand} {hs ks : List Home} {ty : Array TypeId} (he : Enters P f) (hok : FnB P f (Ps ++ Qs) q) (hop : o.op = .call { callee := .value x, args := xs.toArray, argTypes := ty }) (hd : o.dst = some d) (hq : q.fp = []) (hne : ((hs ++ ks).all fun h => h.1 != d) = true)
    (hj : (hs.all fun h => ks.all fun k => k.2.2 != h.2.2) = true) (hf : Opd uses x (pCloB f C)) (hx : OpB uses Ps xs hs) (hc : CapB uses C Qs ks) : OB P N o uses ((d, q) :: outsB (Ps ++ Qs) (hs ++ ks)) (SB (hs ++ ks)) := by
  refine callB_core hok hq hd (fun h hh => by simpa using List.all_eq_true.1 hne h hh) fun a g hu => ?_
  obtain ⟨caps, hv, hcap⟩ := hf a g hu
  refine ⟨xs.map a.eval ++ caps, by simp [execOp, hop, resolve, hv, Deferred.ofValue, invoke, enter_run he], valB_app (hx.ok hu) (hc.ok hu hcap) fun h hh k hk => ?_⟩
  simpa using List.all_eq_true.1 (List.all_eq_true.1 hj h hh) k hk
end
end Go.CL

set_option linter.unusedVariables false
set_option linter.unusedSimpArgs false
set_option maxRecDepth 100000
namespace Go.CL
open Go Go.RowKit
structure api_Item where
  Score : Nat
  Name : ByteArray
  deriving Inhabited
structure api_Record where
  Kind : Int
  Num : Int
  Low : Int
  High : Int
  Real : Nat
  Cap : Int
  Text : ByteArray
  List : List api_Item
  deriving Inhabited
inductive shelf_nodeT where
  | nil
  | node (key : ByteArray) (rec_ : api_Record) (left : shelf_nodeT) (right : shelf_nodeT) (size : Int)
  deriving Inhabited
structure shelf_node where
  key : ByteArray
  rec_ : api_Record
  left : shelf_nodeT
  right : shelf_nodeT
  size : Int
  deriving Inhabited
def shelf_nodeT.un : shelf_nodeT → Option shelf_node
  | .nil => none
  | .node x0 x1 x2 x3 x4 => some ⟨x0, x1, x2, x3, x4⟩
def shelf_node.up (x : shelf_node) : shelf_nodeT := .node x.key x.rec_ x.left x.right x.size
def shelf_nodeT.isNil : shelf_nodeT → Bool
  | .nil => true
  | .node .. => false
def shelf_nodeT.hh : shelf_nodeT → Nat
  | .nil => 0
  | .node x0 x1 x2 x3 x4 => max x2.hh x3.hh + 1
structure shelf_Shelf where
  top : shelf_nodeT
  room : Int
  deriving Inhabited
structure rec_shape where
  text : Bool
  num : Bool
  bounds : Bool
  real : Bool
  list : Bool
  deriving Inhabited
structure moietylaw09_Op where
  Cut : Bool
  Key : ByteArray
  Rec : api_Record
  deriving Inhabited
structure moietyref09_Pair where
  Key : ByteArray
  Rec : api_Record
  deriving Inhabited
structure moietyref09_Shelf where
  L : List moietyref09_Pair
  Room : Int
  deriving Inhabited
def shelf_New (a0 : Int) : Option (shelf_Shelf × Int) := (if ((decide (a0 < (1 : Int))) || (decide ((4096 : Int) < a0))) then (some (({ top := shelf_nodeT.nil, room := (0 : Int) } : shelf_Shelf), (1 : Int))) else (some (({ top := shelf_nodeT.nil, room := a0 } : shelf_Shelf), (0 : Int))))
def shelf_node_count (a0 : shelf_nodeT) : Option (Int) := (if a0.isNil then (some (0 : Int)) else ((a0.un).bind fun n2 => (some n2.size)))
def shelf_Shelf_Rank_j1 (kk : (Int) → (shelf_nodeT) → Option (Int)) (j9 : Int) (j10 : shelf_nodeT) : Option (Int) := (kk j9 j10)
def shelf_Shelf_Rank_l1 (a1 : ByteArray) : Nat → (Int) → (shelf_nodeT) → Option (Int)
  | 0, _, _ => none
  | n + 1, x1, x2 => (if (!x2.isNil) then ((x2.un).bind fun n4 => (if (sLt a1 n4.key || sEq a1 n4.key) then (shelf_Shelf_Rank_j1 (shelf_Shelf_Rank_l1 a1 n) x1 n4.left) else ((shelf_node_count n4.left).bind fun r7 => (shelf_Shelf_Rank_j1 (shelf_Shelf_Rank_l1 a1 n) (IntKind.i64.wrap (x1 + (IntKind.i64.wrap (r7 + (1 : Int))))) n4.right)))) else (some x1))
def shelf_Shelf_Rank (a0 : shelf_Shelf) (a1 : ByteArray) : Option (Int) := ((shelf_Shelf_Rank_l1 a1 (a0.top.hh + 1) (0 : Int) a0.top).bind fun z12 => match z12 with | y11 => (some y11))
def slices_Clone_api_Item_api_Item (a0 : List api_Item) : Option (List api_Item) := if a0.length * 24 ≤ 140737488355328 then some a0 else none
def rec_Clone (a0 : api_Record) : Option (api_Record) := ((slices_Clone_api_Item_api_Item a0.List).bind fun r1 => (some ({ a0 with List := r1 })))
def shelf_Shelf_At_j1 (x2 : api_Record) (kk : (Int) → (api_Record) → (shelf_nodeT) → Option ((ByteArray × api_Record × Bool) ⊕ (api_Record))) (j13 : Int) (j14 : shelf_nodeT) : Option ((ByteArray × api_Record × Bool) ⊕ (api_Record)) := (kk j13 x2 j14)
def shelf_Shelf_At_l1 : Nat → (Int) → (api_Record) → (shelf_nodeT) → Option ((ByteArray × api_Record × Bool) ⊕ (api_Record))
  | 0, _, _, _ => none
  | n + 1, x1, x2, x3 => (if (!x3.isNil) then ((x3.un).bind fun n5 => ((shelf_node_count n5.left).bind fun r7 => (if (decide (x1 < r7)) then (shelf_Shelf_At_j1 x2 (shelf_Shelf_At_l1 n) x1 n5.left) else (if (decide (r7 < x1)) then (shelf_Shelf_At_j1 x2 (shelf_Shelf_At_l1 n) (IntKind.i64.wrap (x1 - (IntKind.i64.wrap (r7 + (1 : Int))))) n5.right) else ((rec_Clone n5.rec_).bind fun r11 => (some (.inl (n5.key, r11, true)))))))) else (some (.inr x2)))
def shelf_Shelf_At (a0 : shelf_Shelf) (a1 : Int) : Option (ByteArray × api_Record × Bool) := ((shelf_Shelf_At_l1 (a0.top.hh + 1) a1 (default : api_Record) a0.top).bind fun z16 => match z16 with | .inl r => some r | .inr y15 => (some ((⟨#[]⟩ : ByteArray), ({ Kind := (0 : Int), Num := (0 : Int), Low := (0 : Int), High := (0 : Int), Real := (0 : Nat), Cap := (0 : Int), Text := ByteArray.empty, List := ([] : List api_Item) } : api_Record), false)))
def shelf_Shelf_Keys_l1 (a0 : shelf_Shelf) (a2 : ByteArray) (a3 : Int) : Nat → (List ByteArray) → (Int) → Option (List ByteArray)
  | 0, _, _ => none
  | n + 1, x3, x4 => (if (decide ((x3.length : Int) < a3)) then ((shelf_Shelf_At a0 x4).bind fun r6 => (if ((!r6.2.2) || (!sLt r6.1 a2)) then (some x3) else (if (x3.length + ([r6.1] : List ByteArray).length) * 16 ≤ 140737488355328 then ((shelf_Shelf_Keys_l1 a0 a2 a3 n) (x3 ++ ([r6.1] : List ByteArray)) (IntKind.i64.wrap (x4 + (1 : Int)))) else none))) else (some x3))
def shelf_Shelf_Keys (a0 : shelf_Shelf) (a1 : ByteArray) (a2 : ByteArray) (a3 : Int) : Option (List ByteArray) := ((shelf_Shelf_Rank a0 a1).bind fun r1 => ((shelf_Shelf_Keys_l1 a0 a2 a3 (Int.toNat (a3 - (([] : List ByteArray).length : Int)) + 1) ([] : List ByteArray) r1).bind fun z11 => match z11 with | y10 => (some y10)))
def shelf_Shelf_Len (a0 : shelf_Shelf) : Option (Int) := ((shelf_node_count a0.top).bind fun r1 => (some r1))
def math_NaN : Option (Nat) := (some (Int.toNat (9221120237041090561 : Int)))
def flo_Canon (a0 : Nat) : Option (Nat) := (if (fneq a0 a0) then ((math_NaN).bind fun r2 => (some r2)) else (some a0))
def flo_Key (a0 : Nat) : Option (Int) := ((flo_Canon a0).bind fun r1 => (if ((bAnd .u64 (r1 : Int) (9223372036854775808 : Int)) != (0 : Int)) then (some (bXor .u64 IntKind.u64.max (r1 : Int))) else (some (bOr .u64 (r1 : Int) (9223372036854775808 : Int)))))
def flo_Same (a0 : Nat) (a1 : Nat) : Option (Bool) := ((flo_Key a0).bind fun r1 => ((flo_Key a1).bind fun r3 => (some (r1 == r3))))
def slices_EqualFunc_api_Item_api_Item_api_Item_api_Item_l1 (a0 : List api_Item) (a1 : List api_Item) (φ2 : api_Item → api_Item → Option Bool) : Nat → (Int) → Option ((Bool) ⊕ (Unit))
  | 0, _ => none
  | n + 1, x2 => (if (decide (x2 < (a0.length : Int))) then ((idx a0 x2).bind fun e4 => ((idx a1 x2).bind fun e6 => ((φ2 e4 e6).bind fun r8 => (if (!r8) then (some (.inl false)) else ((slices_EqualFunc_api_Item_api_Item_api_Item_api_Item_l1 a0 a1 φ2 n) (IntKind.i64.wrap (x2 + (1 : Int)))))))) else (some (.inr ())))
def slices_EqualFunc_api_Item_api_Item_api_Item_api_Item (a0 : List api_Item) (a1 : List api_Item) (φ2 : api_Item → api_Item → Option Bool) : Option (Bool) := (if ((a0.length : Int) != (a1.length : Int)) then (some false) else ((slices_EqualFunc_api_Item_api_Item_api_Item_api_Item_l1 a0 a1 φ2 (Int.toNat ((a0.length : Int) - (0 : Int)) + 1) (0 : Int)).bind fun z11 => match z11 with | .inl r => some r | .inr () => (some true)))
def rec_Same_1 (a0 : api_Item) (a1 : api_Item) : Option (Bool) := ((gd (sEq a0.Name a1.Name) (flo_Same a0.Score a1.Score)).bind fun r1 => (some ((sEq a0.Name a1.Name) && r1)))
def rec_Same (a0 : api_Record) (a1 : api_Record) : Option (Bool) := ((gd ((((a0.Kind == a1.Kind) && (a0.Num == a1.Num)) && (a0.Low == a1.Low)) && (a0.High == a1.High)) (flo_Same a0.Real a1.Real)).bind fun r1 => ((gd (((((((a0.Kind == a1.Kind) && (a0.Num == a1.Num)) && (a0.Low == a1.Low)) && (a0.High == a1.High)) && r1) && (a0.Cap == a1.Cap)) && (sEq a0.Text a1.Text)) (slices_EqualFunc_api_Item_api_Item_api_Item_api_Item a0.List a1.List (fun y0 y1 => rec_Same_1 y0 y1))).bind fun r3 => (some ((((((((a0.Kind == a1.Kind) && (a0.Num == a1.Num)) && (a0.Low == a1.Low)) && (a0.High == a1.High)) && r1) && (a0.Cap == a1.Cap)) && (sEq a0.Text a1.Text)) && r3))))
def shelf_Same_l1 (a0 : shelf_Shelf) (a1 : shelf_Shelf) (r6 : Int) : Nat → (Int) → Option ((Bool) ⊕ (Unit))
  | 0, _ => none
  | n + 1, x8 => (if (decide (x8 < r6)) then ((shelf_Shelf_At a0 x8).bind fun r10 => ((shelf_Shelf_At a1 x8).bind fun r12 => ((gd (!(!sEq r10.1 r12.1)) (rec_Same r10.2.1 r12.2.1)).bind fun r14 => (if ((!sEq r10.1 r12.1) || (!r14)) then (some (.inl false)) else ((shelf_Same_l1 a0 a1 r6 n) (IntKind.i64.wrap (x8 + (1 : Int)))))))) else (some (.inr ())))
def shelf_Same (a0 : shelf_Shelf) (a1 : shelf_Shelf) : Option (Bool) := ((shelf_Shelf_Len a0).bind fun r1 => ((shelf_Shelf_Len a1).bind fun r3 => (if (r1 != r3) then (some false) else ((shelf_Shelf_Len a0).bind fun r6 => ((shelf_Same_l1 a0 a1 r6 (Int.toNat (r6 - (0 : Int)) + 1) (0 : Int)).bind fun z17 => match z17 with | .inl r => some r | .inr () => (some true))))))
def shelf_Shelf_Get_j1 (x1 : api_Record) (kk : (api_Record) → (shelf_nodeT) → Option ((api_Record × Bool) ⊕ (api_Record))) (j10 : shelf_nodeT) : Option ((api_Record × Bool) ⊕ (api_Record)) := (kk x1 j10)
def shelf_Shelf_Get_l1 (a1 : ByteArray) : Nat → (api_Record) → (shelf_nodeT) → Option ((api_Record × Bool) ⊕ (api_Record))
  | 0, _, _ => none
  | n + 1, x1, x2 => (if (!x2.isNil) then ((x2.un).bind fun n4 => (if (sLt a1 n4.key) then (shelf_Shelf_Get_j1 x1 (shelf_Shelf_Get_l1 a1 n) n4.left) else (if (!(sLt a1 n4.key || sEq a1 n4.key)) then (shelf_Shelf_Get_j1 x1 (shelf_Shelf_Get_l1 a1 n) n4.right) else ((rec_Clone n4.rec_).bind fun r8 => (some (.inl (r8, true))))))) else (some (.inr x1)))
def shelf_Shelf_Get (a0 : shelf_Shelf) (a1 : ByteArray) : Option (api_Record × Bool) := ((shelf_Shelf_Get_l1 a1 (a0.top.hh + 1) (default : api_Record) a0.top).bind fun z12 => match z12 with | .inl r => some r | .inr y11 => (some (({ Kind := (0 : Int), Num := (0 : Int), Low := (0 : Int), High := (0 : Int), Real := (0 : Nat), Cap := (0 : Int), Text := ByteArray.empty, List := ([] : List api_Item) } : api_Record), false)))
def rec_shaped_j3 (j11 : Bool) : Option (rec_shape) := (if j11 then (some ({ text := false, num := false, bounds := false, real := false, list := true } : rec_shape)) else (some ({ text := false, num := false, bounds := false, real := false, list := false } : rec_shape)))
def rec_shaped_j2 (a0 : Int) (j8 : Bool) : Option (rec_shape) := (if j8 then (some ({ text := false, num := false, bounds := false, real := true, list := false } : rec_shape)) else (if (a0 == (8 : Int)) then (rec_shaped_j3 (a0 == (8 : Int))) else (rec_shaped_j3 (a0 == (9 : Int)))))
def rec_shaped_j1 (a0 : Int) (j3 : Bool) : Option (rec_shape) := (if j3 then (some ({ text := false, num := true, bounds := false, real := false, list := false } : rec_shape)) else (if (a0 == (4 : Int)) then (some ({ text := false, num := true, bounds := true, real := false, list := false } : rec_shape)) else (if (a0 == (5 : Int)) then (rec_shaped_j2 a0 (a0 == (5 : Int))) else (if (a0 == (6 : Int)) then (rec_shaped_j2 a0 (a0 == (6 : Int))) else (rec_shaped_j2 a0 (a0 == (7 : Int)))))))
def rec_shaped (a0 : Int) : Option (rec_shape) := (if (a0 == (1 : Int)) then (some ({ text := true, num := false, bounds := false, real := false, list := false } : rec_shape)) else (if (a0 == (2 : Int)) then (rec_shaped_j1 a0 (a0 == (2 : Int))) else (rec_shaped_j1 a0 (a0 == (3 : Int)))))
def rec_bare (a0 : api_Record) (a1 : rec_shape) : Option (Bool) := ((gd ((((a1.text || (sEq a0.Text (⟨#[]⟩ : ByteArray))) && (a1.num || (a0.Num == (0 : Int)))) && (a1.bounds || ((a0.Low == (0 : Int)) && (a0.High == (0 : Int))))) && (!a1.real)) (flo_Same a0.Real (0 : Nat))).bind fun r1 => (some (((((a1.text || (sEq a0.Text (⟨#[]⟩ : ByteArray))) && (a1.num || (a0.Num == (0 : Int)))) && (a1.bounds || ((a0.Low == (0 : Int)) && (a0.High == (0 : Int))))) && (a1.real || r1)) && (a1.list || ((a0.Cap == (0 : Int)) && ((a0.List.length : Int) == (0 : Int)))))))
def flo_Proper (a0 : Nat) : Option (Bool) := ((flo_Canon a0).bind fun r1 => (some ((a0 : Int) == (r1 : Int))))
def flo_Less (a0 : Nat) (a1 : Nat) : Option (Bool) := ((flo_Key a0).bind fun r1 => ((flo_Key a1).bind fun r3 => (some (decide (r1 < r3)))))
def rec_Better (a0 : api_Item) (a1 : api_Item) : Option (Bool) := ((flo_Same a0.Score a1.Score).bind fun r1 => (if (!r1) then ((flo_Less a1.Score a0.Score).bind fun r4 => (some r4)) else (some (sLt a0.Name a1.Name))))
def rec_items_l1 (a0 : Int) (a1 : List api_Item) : Nat → (Int) → Option ((Int) ⊕ (Unit))
  | 0, _ => none
  | n + 1, x1 => (if (decide (x1 < (a1.length : Int))) then ((idx a1 x1).bind fun e3 => (if (decide ((16 : Int) < (e3.Name.size : Int))) then (some (.inl (3 : Int))) else ((gd (a0 == (8 : Int)) (flo_Same e3.Score (0 : Nat))).bind fun r6 => ((gd (!((a0 == (8 : Int)) && (!r6))) (flo_Proper e3.Score)).bind fun r8 => (if (((a0 == (8 : Int)) && (!r6)) || (!r8)) then (some (.inl (4 : Int))) else ((gd ((decide ((0 : Int) < x1)) && (a0 == (8 : Int))) (idx a1 (IntKind.i64.wrap (x1 - (1 : Int))))).bind fun e11 => (if (((decide ((0 : Int) < x1)) && (a0 == (8 : Int))) && (!sLt e11.Name e3.Name)) then (some (.inl (4 : Int))) else ((gd ((decide ((0 : Int) < x1)) && (a0 == (9 : Int))) (idx a1 (IntKind.i64.wrap (x1 - (1 : Int))))).bind fun e14 => ((gd ((decide ((0 : Int) < x1)) && (a0 == (9 : Int))) (rec_Better e14 e3)).bind fun r16 => (if (((decide ((0 : Int) < x1)) && (a0 == (9 : Int))) && (!r16)) then (some (.inl (4 : Int))) else ((rec_items_l1 a0 a1 n) (IntKind.i64.wrap (x1 + (1 : Int)))))))))))))) else (some (.inr ())))
def rec_items (a0 : Int) (a1 : List api_Item) : Option (Int) := ((rec_items_l1 a0 a1 (Int.toNat ((a1.length : Int) - (0 : Int)) + 1) (0 : Int)).bind fun z19 => match z19 with | .inl r => some r | .inr () => (some (0 : Int)))
def rec_Check (a0 : api_Record) : Option (Int) := ((rec_shaped a0.Kind).bind fun r1 => (if ((decide (a0.Kind ≤ (0 : Int))) || (decide ((10 : Int) ≤ a0.Kind))) then (some (5 : Int)) else ((rec_bare a0 r1).bind fun r4 => (if (!r4) then (some (4 : Int)) else (if (decide ((64 : Int) < (a0.Text.size : Int))) then (some (3 : Int)) else (if (r1.bounds && ((((decide (a0.Low < (-2305843009213693952 : Int))) || (decide ((2305843009213693952 : Int) < a0.High))) || (decide (a0.Num < a0.Low))) || (decide (a0.High < a0.Num)))) then (some (1 : Int)) else ((flo_Proper a0.Real).bind fun r9 => (if (!r9) then (some (4 : Int)) else (if (!r1.list) then (some (0 : Int)) else (if ((decide (a0.Cap < (1 : Int))) || (decide ((32 : Int) < a0.Cap))) then (some (1 : Int)) else (if (decide (a0.Cap < (a0.List.length : Int))) then (some (8 : Int)) else ((rec_items a0.Kind a0.List).bind fun r15 => (some r15)))))))))))))
def shelf_made (a0 : ByteArray) (a1 : api_Record) (a2 : shelf_nodeT) (a3 : shelf_nodeT) : Option (shelf_nodeT) := ((shelf_node_count a2).bind fun r1 => ((shelf_node_count a3).bind fun r3 => (some ({ key := a0, rec_ := a1, left := a2, right := a3, size := (IntKind.i64.wrap ((IntKind.i64.wrap (r1 + r3)) + (1 : Int))) } : shelf_node).up)))
def shelf_heavy (a0 : shelf_nodeT) (a1 : shelf_nodeT) : Option (Bool) := ((shelf_node_count a0).bind fun r1 => ((shelf_node_count a1).bind fun r3 => (some (decide ((IntKind.i64.wrap ((3 : Int) * (IntKind.i64.wrap (r3 + (1 : Int))))) < (IntKind.i64.wrap (r1 + (1 : Int))))))))
def shelf_even (a0 : ByteArray) (a1 : api_Record) (a2 : shelf_nodeT) (a3 : shelf_nodeT) : Option (shelf_nodeT) := ((shelf_heavy a3 a2).bind fun r1 => ((gd r1 (a3.un)).bind fun n3 => ((gd r1 (shelf_node_count n3.left)).bind fun r5 => ((gd r1 (a3.un)).bind fun n7 => ((gd r1 (shelf_node_count n7.right)).bind fun r9 => (if (r1 && (decide ((IntKind.i64.wrap (r5 + (1 : Int))) < (IntKind.i64.wrap ((2 : Int) * (IntKind.i64.wrap (r9 + (1 : Int)))))))) then ((a3.un).bind fun n12 => ((shelf_made a0 a1 a2 n12.left).bind fun r14 => ((shelf_made n12.key n12.rec_ r14 n12.right).bind fun r16 => (some r16)))) else ((shelf_heavy a3 a2).bind fun r18 => (if r18 then ((a3.un).bind fun n21 => ((n21.left.un).bind fun n23 => ((shelf_made a0 a1 a2 n23.left).bind fun r25 => ((shelf_made n21.key n21.rec_ n23.right n21.right).bind fun r27 => ((shelf_made n23.key n23.rec_ r25 r27).bind fun r29 => (some r29)))))) else ((shelf_heavy a2 a3).bind fun r31 => ((gd r31 (a2.un)).bind fun n33 => ((gd r31 (shelf_node_count n33.right)).bind fun r35 => ((gd r31 (a2.un)).bind fun n37 => ((gd r31 (shelf_node_count n37.left)).bind fun r39 => (if (r31 && (decide ((IntKind.i64.wrap (r35 + (1 : Int))) < (IntKind.i64.wrap ((2 : Int) * (IntKind.i64.wrap (r39 + (1 : Int)))))))) then ((a2.un).bind fun n42 => ((shelf_made a0 a1 n42.right a3).bind fun r44 => ((shelf_made n42.key n42.rec_ n42.left r44).bind fun r46 => (some r46)))) else ((shelf_heavy a2 a3).bind fun r48 => (if r48 then ((a2.un).bind fun n51 => ((n51.right.un).bind fun n53 => ((shelf_made n51.key n51.rec_ n51.left n53.left).bind fun r55 => ((shelf_made a0 a1 n53.right a3).bind fun r57 => ((shelf_made n53.key n53.rec_ r55 r57).bind fun r59 => (some r59)))))) else ((shelf_made a0 a1 a2 a3).bind fun r61 => (some r61))))))))))))))))))
def shelf_node_set_b (self : shelf_nodeT → ByteArray → api_Record → Option (shelf_nodeT)) (a0 : shelf_nodeT) (a1 : ByteArray) (a2 : api_Record) : Option (shelf_nodeT) := (if a0.isNil then ((shelf_made a1 a2 shelf_nodeT.nil shelf_nodeT.nil).bind fun r2 => (some r2)) else ((a0.un).bind fun n4 => (if (sLt a1 n4.key) then ((self n4.left a1 a2).bind fun r7 => ((shelf_even n4.key n4.rec_ r7 n4.right).bind fun r9 => (some r9))) else (if (!(sLt a1 n4.key || sEq a1 n4.key)) then ((self n4.right a1 a2).bind fun r12 => ((shelf_even n4.key n4.rec_ n4.left r12).bind fun r14 => (some r14))) else ((shelf_made a1 a2 n4.left n4.right).bind fun r16 => (some r16))))))
def shelf_node_set_r : Nat → shelf_nodeT → ByteArray → api_Record → Option (shelf_nodeT)
  | 0 => fun _ _ _ => none
  | n + 1 => shelf_node_set_b (shelf_node_set_r n)
def shelf_node_set (a0 : shelf_nodeT) (a1 : ByteArray) (a2 : api_Record) : Option (shelf_nodeT) := shelf_node_set_r (a0.hh + 1) a0 a1 a2
def shelf_Shelf_Set (a0 : shelf_Shelf) (a1 : ByteArray) (a2 : api_Record) : Option (shelf_Shelf × Int) := (if ((sEq a1 (⟨#[]⟩ : ByteArray)) || (decide ((24 : Int) < (a1.size : Int)))) then (some (a0, (1 : Int))) else ((rec_Check a2).bind fun r2 => (if (r2 != (0 : Int)) then (some (a0, r2)) else ((shelf_Shelf_Get a0 a1).bind fun r5 => ((gd (!r5.2) (shelf_Shelf_Len a0)).bind fun r7 => (if ((!r5.2) && (decide (a0.room ≤ r7))) then (some (a0, (8 : Int))) else ((rec_Clone a2).bind fun r10 => ((shelf_node_set a0.top a1 r10).bind fun r12 => (some (({ top := r12, room := a0.room } : shelf_Shelf), (0 : Int)))))))))))
def moietylaw09_speaks : Option (Bool) := ((shelf_New (1 : Int)).bind fun r1 => ((shelf_Shelf_Set r1.1 (⟨#[97]⟩ : ByteArray) ({ Kind := (2 : Int), Num := (4 : Int), Low := (0 : Int), High := (0 : Int), Real := (0 : Nat), Cap := (0 : Int), Text := ByteArray.empty, List := ([] : List api_Item) } : api_Record)).bind fun r3 => ((shelf_Shelf_Set r3.1 (⟨#[98]⟩ : ByteArray) ({ Kind := (2 : Int), Num := (4 : Int), Low := (0 : Int), High := (0 : Int), Real := (0 : Nat), Cap := (0 : Int), Text := ByteArray.empty, List := ([] : List api_Item) } : api_Record)).bind fun r5 => ((shelf_Shelf_At r5.1 (0 : Int)).bind fun r7 => ((gd (((r1.2 == (0 : Int)) && (r3.2 == (0 : Int))) && (r5.2 == (8 : Int))) (shelf_Shelf_Len r1.1)).bind fun r9 => ((gd ((((r1.2 == (0 : Int)) && (r3.2 == (0 : Int))) && (r5.2 == (8 : Int))) && (r9 == (0 : Int))) (shelf_Shelf_Len r3.1)).bind fun r11 => ((gd ((((((r1.2 == (0 : Int)) && (r3.2 == (0 : Int))) && (r5.2 == (8 : Int))) && (r9 == (0 : Int))) && (r11 == (1 : Int))) && (sEq r7.1 (⟨#[97]⟩ : ByteArray))) (rec_Same r7.2.1 ({ Kind := (2 : Int), Num := (4 : Int), Low := (0 : Int), High := (0 : Int), Real := (0 : Nat), Cap := (0 : Int), Text := ByteArray.empty, List := ([] : List api_Item) } : api_Record))).bind fun r13 => ((gd ((((((((r1.2 == (0 : Int)) && (r3.2 == (0 : Int))) && (r5.2 == (8 : Int))) && (r9 == (0 : Int))) && (r11 == (1 : Int))) && (sEq r7.1 (⟨#[97]⟩ : ByteArray))) && r13) && r7.2.2) (shelf_Shelf_Rank r3.1 (⟨#[98]⟩ : ByteArray))).bind fun r15 => ((gd (((((((((r1.2 == (0 : Int)) && (r3.2 == (0 : Int))) && (r5.2 == (8 : Int))) && (r9 == (0 : Int))) && (r11 == (1 : Int))) && (sEq r7.1 (⟨#[97]⟩ : ByteArray))) && r13) && r7.2.2) && (r15 == (1 : Int))) (shelf_Shelf_Keys r3.1 (⟨#[]⟩ : ByteArray) (⟨#[122]⟩ : ByteArray) (9 : Int))).bind fun r17 => ((gd ((((((((((r1.2 == (0 : Int)) && (r3.2 == (0 : Int))) && (r5.2 == (8 : Int))) && (r9 == (0 : Int))) && (r11 == (1 : Int))) && (sEq r7.1 (⟨#[97]⟩ : ByteArray))) && r13) && r7.2.2) && (r15 == (1 : Int))) && ((r17.length : Int) == (1 : Int))) (shelf_Same r3.1 r5.1)).bind fun r19 => ((gd (((((((((((r1.2 == (0 : Int)) && (r3.2 == (0 : Int))) && (r5.2 == (8 : Int))) && (r9 == (0 : Int))) && (r11 == (1 : Int))) && (sEq r7.1 (⟨#[97]⟩ : ByteArray))) && r13) && r7.2.2) && (r15 == (1 : Int))) && ((r17.length : Int) == (1 : Int))) && r19) (shelf_Same r1.1 r3.1)).bind fun r21 => (some ((((((((((((r1.2 == (0 : Int)) && (r3.2 == (0 : Int))) && (r5.2 == (8 : Int))) && (r9 == (0 : Int))) && (r11 == (1 : Int))) && (sEq r7.1 (⟨#[97]⟩ : ByteArray))) && r13) && r7.2.2) && (r15 == (1 : Int))) && ((r17.length : Int) == (1 : Int))) && r19) && (!r21))))))))))))))
def moietylaw03_Big_l1 (a0 : api_Record) : Nat → (Int) → Option ((Int) ⊕ (Unit))
  | 0, _ => none
  | n + 1, x2 => (if (decide (x2 < (a0.List.length : Int))) then ((idx a0.List x2).bind fun e4 => (if (decide ((100 : Int) < (e4.Name.size : Int))) then (some (.inl (1 : Int))) else ((moietylaw03_Big_l1 a0 n) (IntKind.i64.wrap (x2 + (1 : Int)))))) else (some (.inr ())))
def moietylaw03_Big (a0 : api_Record) : Option (Int) := (if ((decide ((100 : Int) < (a0.List.length : Int))) || (decide ((1000 : Int) < (a0.Text.size : Int)))) then (some (1 : Int)) else ((moietylaw03_Big_l1 a0 (Int.toNat ((a0.List.length : Int) - (0 : Int)) + 1) (0 : Int)).bind fun z7 => match z7 with | .inl r => some r | .inr () => (some (0 : Int))))
def moietylaw09_big_l1 (a0 : List moietylaw09_Op) : Nat → (Int) → Option ((Bool) ⊕ (Unit))
  | 0, _ => none
  | n + 1, x2 => (if (decide (x2 < (a0.length : Int))) then ((idx a0 x2).bind fun e4 => ((gd (!(decide ((100 : Int) < (e4.Key.size : Int)))) (moietylaw03_Big e4.Rec)).bind fun r6 => (if ((decide ((100 : Int) < (e4.Key.size : Int))) || (decide ((0 : Int) < r6))) then (some (.inl true)) else ((moietylaw09_big_l1 a0 n) (IntKind.i64.wrap (x2 + (1 : Int))))))) else (some (.inr ())))
def moietylaw09_big (a0 : List moietylaw09_Op) : Option (Bool) := (if (decide ((300 : Int) < (a0.length : Int))) then (some true) else ((moietylaw09_big_l1 a0 (Int.toNat ((a0.length : Int) - (0 : Int)) + 1) (0 : Int)).bind fun z9 => match z9 with | .inl r => some r | .inr () => (some false)))
def shelf_node_first_l1 : Nat → (shelf_nodeT) → Option (shelf_nodeT)
  | 0, _ => none
  | n + 1, x1 => ((x1.un).bind fun n2 => (if (!n2.left.isNil) then ((shelf_node_first_l1 n) n2.left) else (some x1)))
def shelf_node_first (a0 : shelf_nodeT) : Option (shelf_nodeT) := ((shelf_node_first_l1 (a0.hh + 1) a0).bind fun z6 => match z6 with | y5 => (some y5))
def shelf_node_cut_b (self : shelf_nodeT → ByteArray → Option (shelf_nodeT)) (a0 : shelf_nodeT) (a1 : ByteArray) : Option (shelf_nodeT) := (if a0.isNil then (some shelf_nodeT.nil) else ((a0.un).bind fun n2 => (if (sLt a1 n2.key) then ((self n2.left a1).bind fun r5 => ((shelf_even n2.key n2.rec_ r5 n2.right).bind fun r7 => (some r7))) else (if (!(sLt a1 n2.key || sEq a1 n2.key)) then ((self n2.right a1).bind fun r10 => ((shelf_even n2.key n2.rec_ n2.left r10).bind fun r12 => (some r12))) else (if n2.left.isNil then (some n2.right) else (if n2.right.isNil then (some n2.left) else ((shelf_node_first n2.right).bind fun r16 => ((r16.un).bind fun n18 => ((self n2.right n18.key).bind fun r20 => ((shelf_even n18.key n18.rec_ n2.left r20).bind fun r22 => (some r22)))))))))))
def shelf_node_cut_r : Nat → shelf_nodeT → ByteArray → Option (shelf_nodeT)
  | 0 => fun _ _ => none
  | n + 1 => shelf_node_cut_b (shelf_node_cut_r n)
def shelf_node_cut (a0 : shelf_nodeT) (a1 : ByteArray) : Option (shelf_nodeT) := shelf_node_cut_r (a0.hh + 1) a0 a1
def shelf_Shelf_Cut (a0 : shelf_Shelf) (a1 : ByteArray) : Option (shelf_Shelf × Bool) := ((shelf_Shelf_Get a0 a1).bind fun r1 => (if (!r1.2) then (some (a0, false)) else ((shelf_node_cut a0.top a1).bind fun r4 => (some (({ top := r4, room := a0.room } : shelf_Shelf), true)))))
def moietyref09_Shelf_Find_l1 (a0 : moietyref09_Shelf) (a1 : ByteArray) : Nat → (Int) → Option (Int)
  | 0, _ => none
  | n + 1, x1 => ((gd (decide (x1 < (a0.L.length : Int))) (idx a0.L x1)).bind fun e2 => (if ((decide (x1 < (a0.L.length : Int))) && (sLt e2.Key a1)) then ((moietyref09_Shelf_Find_l1 a0 a1 n) (IntKind.i64.wrap (x1 + (1 : Int)))) else (some x1)))
def moietyref09_Shelf_Find (a0 : moietyref09_Shelf) (a1 : ByteArray) : Option (Int) := ((moietyref09_Shelf_Find_l1 a0 a1 (Int.toNat ((a0.L.length : Int) - (0 : Int)) + 1) (0 : Int)).bind fun z6 => match z6 with | y5 => (some y5))
def moietyref09_Shelf_Cut (a0 : moietyref09_Shelf) (a1 : ByteArray) : Option (moietyref09_Shelf × Bool) := ((moietyref09_Shelf_Find a0 a1).bind fun r1 => ((gd (!(decide ((a0.L.length : Int) ≤ r1))) (idx a0.L r1)).bind fun e3 => (if ((decide ((a0.L.length : Int) ≤ r1)) || (!sEq e3.Key a1)) then (some (a0, false)) else ((cut a0.L (0 : Int) r1).bind fun c6 => (if (([] : List moietyref09_Pair).length + c6.length) * 104 ≤ 140737488355328 then ((cut a0.L (IntKind.i64.wrap (r1 + (1 : Int))) (a0.L.length : Int)).bind fun c9 => (if ((([] : List moietyref09_Pair) ++ c6).length + c9.length) * 104 ≤ 140737488355328 then (some (({ L := ((([] : List moietyref09_Pair) ++ c6) ++ c9), Room := a0.Room } : moietyref09_Shelf), true)) else none)) else none)))))
def moietyref01_none (a0 : Nat) : Option (Bool) := (some (fneq a0 a0))
def moietyref01_below (a0 : Nat) : Option (Bool) := (if (feql a0 (0 : Nat)) then ((Ieee.double.div (4607182418800017408 : Nat) a0).bind fun f2 => (some (flss f2 (0 : Nat)))) else (some (flss a0 (0 : Nat))))
def moietyref01_Less (a0 : Nat) (a1 : Nat) : Option (Bool) := ((moietyref01_none a0).bind fun r1 => (if r1 then (some false) else ((moietyref01_none a1).bind fun r4 => (if r4 then (some true) else (if ((feql a0 (0 : Nat)) && (feql a1 (0 : Nat))) then ((moietyref01_below a0).bind fun r8 => ((gd r8 (moietyref01_below a1)).bind fun r10 => (some (r8 && (!r10))))) else (some (flss a0 a1)))))))
def moietyref01_Same (a0 : Nat) (a1 : Nat) : Option (Bool) := ((moietyref01_Less a0 a1).bind fun r1 => ((gd (!r1) (moietyref01_Less a1 a0)).bind fun r3 => (some ((!r1) && (!r3)))))
def moietyref03_zero (a0 : Nat) : Option (Bool) := ((moietyref01_Same a0 (0 : Nat)).bind fun r1 => (some r1))
def moietyref03_only_l1 (a1 : ByteArray) : Nat → (Bool) → (Bool) → (Bool) → (Bool) → (Bool) → (Int) → Option (Bool × Bool × Bool × Bool × Bool)
  | 0, _, _, _, _, _, _ => none
  | n + 1, x1, x2, x3, x4, x5, x6 => (if (decide (x6 < (a1.size : Int))) then ((gd (!x1) (sidx a1 x6)).bind fun b8 => ((gd (!x2) (sidx a1 x6)).bind fun b10 => ((gd (!x3) (sidx a1 x6)).bind fun b12 => ((gd (!x4) (sidx a1 x6)).bind fun b14 => ((gd (!x5) (sidx a1 x6)).bind fun b16 => ((moietyref03_only_l1 a1 n) (x1 || (b8 == (116 : Int))) (x2 || (b10 == (110 : Int))) (x3 || (b12 == (98 : Int))) (x4 || (b14 == (114 : Int))) (x5 || (b16 == (108 : Int))) (IntKind.i64.wrap (x6 + (1 : Int))))))))) else (some (x1, x2, x3, x4, x5)))
def moietyref03_only (a0 : api_Record) (a1 : ByteArray) : Option (Bool) := ((moietyref03_only_l1 a1 (Int.toNat ((a1.size : Int) - (0 : Int)) + 1) false false false false false (0 : Int)).bind fun z23 => match z23 with | (y18, y19, y20, y21, y22) => (if (((((!y18) && (!sEq a0.Text (⟨#[]⟩ : ByteArray))) || ((!y19) && (a0.Num != (0 : Int)))) || ((!y20) && (a0.Low != (0 : Int)))) || ((!y20) && (a0.High != (0 : Int)))) then (some false) else ((gd (!y21) (moietyref03_zero a0.Real)).bind fun r25 => (some ((y21 || r25) && (y22 || ((a0.Cap == (0 : Int)) && ((a0.List.length : Int) == (0 : Int)))))))))
def moietyref03_Fields (a0 : Int) : Option (ByteArray) := (if ((decide (a0 < (1 : Int))) || (decide ((9 : Int) < a0))) then (some (⟨#[]⟩ : ByteArray)) else ((idx ([(⟨#[]⟩ : ByteArray), (⟨#[116]⟩ : ByteArray), (⟨#[110]⟩ : ByteArray), (⟨#[110]⟩ : ByteArray), (⟨#[110, 98]⟩ : ByteArray), (⟨#[114]⟩ : ByteArray), (⟨#[114]⟩ : ByteArray), (⟨#[114]⟩ : ByteArray), (⟨#[108]⟩ : ByteArray), (⟨#[108]⟩ : ByteArray)] : List ByteArray) a0).bind fun e2 => (some e2)))
def moietyref01_Proper (a0 : Nat) : Option (Bool) := ((moietyref01_none a0).bind fun r1 => (some ((!r1) || ((a0 : Int) == (9221120237041090561 : Int)))))
def moietyref03_Ahead (a0 : api_Item) (a1 : api_Item) : Option (Bool) := ((moietyref01_Less a1.Score a0.Score).bind fun r1 => (if r1 then (some true) else ((moietyref01_Same a0.Score a1.Score).bind fun r4 => (some (r4 && (sLt a0.Name a1.Name))))))
def moietyref03_item (a0 : Int) (a1 : List api_Item) (a2 : Int) : Option (Int) := ((idx a1 a2).bind fun e1 => (if (decide ((16 : Int) < (e1.Name.size : Int))) then (some (3 : Int)) else ((gd (a0 == (8 : Int)) (moietyref03_zero e1.Score)).bind fun r4 => ((gd (!((a0 == (8 : Int)) && (!r4))) (moietyref01_Proper e1.Score)).bind fun r6 => (if (((a0 == (8 : Int)) && (!r4)) || (!r6)) then (some (4 : Int)) else ((gd ((decide ((0 : Int) < a2)) && (a0 == (8 : Int))) (idx a1 (IntKind.i64.wrap (a2 - (1 : Int))))).bind fun e9 => (if (((decide ((0 : Int) < a2)) && (a0 == (8 : Int))) && (!(sLt e9.Name e1.Name))) then (some (4 : Int)) else ((gd ((decide ((0 : Int) < a2)) && (a0 == (9 : Int))) (idx a1 (IntKind.i64.wrap (a2 - (1 : Int))))).bind fun e12 => ((gd ((decide ((0 : Int) < a2)) && (a0 == (9 : Int))) (moietyref03_Ahead e12 e1)).bind fun r14 => (if (((decide ((0 : Int) < a2)) && (a0 == (9 : Int))) && (!r14)) then (some (4 : Int)) else (some (0 : Int))))))))))))
def moietyref03_Check_l1 (a0 : api_Record) : Nat → (Int) → Option ((Int) ⊕ (Unit))
  | 0, _ => none
  | n + 1, x15 => (if (decide (x15 < (a0.List.length : Int))) then ((moietyref03_item a0.Kind a0.List x15).bind fun r17 => (if (r17 != (0 : Int)) then (some (.inl r17)) else ((moietyref03_Check_l1 a0 n) (IntKind.i64.wrap (x15 + (1 : Int)))))) else (some (.inr ())))
def moietyref03_Check (a0 : api_Record) : Option (Int) := (if ((decide (a0.Kind < (1 : Int))) || (decide ((9 : Int) < a0.Kind))) then (some (5 : Int)) else ((moietyref03_Fields a0.Kind).bind fun r2 => ((moietyref03_only a0 r2).bind fun r4 => (if (!r4) then (some (4 : Int)) else (if ((a0.Kind == (1 : Int)) && (decide ((64 : Int) < (a0.Text.size : Int)))) then (some (3 : Int)) else (if ((a0.Kind == (4 : Int)) && ((((decide (a0.Low < (IntKind.i64.wrap (0 - (2305843009213693952 : Int))))) || (decide ((2305843009213693952 : Int) < a0.High))) || (decide (a0.Num < a0.Low))) || (decide (a0.High < a0.Num)))) then (some (1 : Int)) else ((moietyref01_Proper a0.Real).bind fun r9 => (if (!r9) then (some (4 : Int)) else (if (decide (a0.Kind < (8 : Int))) then (some (0 : Int)) else (if ((decide (a0.Cap < (1 : Int))) || (decide ((32 : Int) < a0.Cap))) then (some (1 : Int)) else (if (decide (a0.Cap < (a0.List.length : Int))) then (some (8 : Int)) else ((moietyref03_Check_l1 a0 (Int.toNat ((a0.List.length : Int) - (0 : Int)) + 1) (0 : Int)).bind fun z20 => match z20 with | .inl r => some r | .inr () => (some (0 : Int))))))))))))))
def moietyref09_Shelf_Set_j1 (a0 : moietyref09_Shelf) (a1 : ByteArray) (a2 : api_Record) (c10 : List moietyref09_Pair) (j15 : Int) : Option (moietyref09_Shelf × Int) := ((cut a0.L j15 (a0.L.length : Int)).bind fun c16 => (if (((([] : List moietyref09_Pair) ++ c10) ++ ([({ Key := a1, Rec := a2 } : moietyref09_Pair)] : List moietyref09_Pair)).length + c16.length) * 104 ≤ 140737488355328 then (some (({ L := (((([] : List moietyref09_Pair) ++ c10) ++ ([({ Key := a1, Rec := a2 } : moietyref09_Pair)] : List moietyref09_Pair)) ++ c16), Room := a0.Room } : moietyref09_Shelf), (0 : Int))) else none))
def moietyref09_Shelf_Set (a0 : moietyref09_Shelf) (a1 : ByteArray) (a2 : api_Record) : Option (moietyref09_Shelf × Int) := (if ((decide ((a1.size : Int) < (1 : Int))) || (decide ((24 : Int) < (a1.size : Int)))) then (some (a0, (1 : Int))) else ((moietyref03_Check a2).bind fun r2 => (if (r2 != (0 : Int)) then (some (a0, r2)) else ((moietyref09_Shelf_Find a0 a1).bind fun r5 => ((gd (decide (r5 < (a0.L.length : Int))) (idx a0.L r5)).bind fun e7 => (if ((!((decide (r5 < (a0.L.length : Int))) && (sEq e7.Key a1))) && (decide (a0.Room ≤ (a0.L.length : Int)))) then (some (a0, (8 : Int))) else ((cut a0.L (0 : Int) r5).bind fun c10 => (if (([] : List moietyref09_Pair).length + c10.length) * 104 ≤ 140737488355328 then (if ((([] : List moietyref09_Pair) ++ c10).length + ([({ Key := a1, Rec := a2 } : moietyref09_Pair)] : List moietyref09_Pair).length) * 104 ≤ 140737488355328 then (if ((decide (r5 < (a0.L.length : Int))) && (sEq e7.Key a1)) then (moietyref09_Shelf_Set_j1 a0 a1 a2 c10 (IntKind.i64.wrap (r5 + (1 : Int)))) else (moietyref09_Shelf_Set_j1 a0 a1 a2 c10 r5)) else none) else none))))))))
def moietylaw09_do (a0 : shelf_Shelf) (a1 : moietyref09_Shelf) (a2 : moietylaw09_Op) : Option (shelf_Shelf × moietyref09_Shelf × Bool) := (if a2.Cut then ((shelf_Shelf_Cut a0 a2.Key).bind fun r2 => ((moietyref09_Shelf_Cut a1 a2.Key).bind fun r4 => (some (r2.1, r4.1, (r2.2 == r4.2))))) else ((shelf_Shelf_Set a0 a2.Key a2.Rec).bind fun r6 => ((moietyref09_Shelf_Set a1 a2.Key a2.Rec).bind fun r8 => (some (r6.1, r8.1, (r6.2 == r8.2))))))
def moietyref09_Shelf_Keys_j1 (x2 : Int) (kk : (List ByteArray) → (Int) → Option (List ByteArray)) (j12 : List ByteArray) : Option (List ByteArray) := (kk j12 (IntKind.i64.wrap (x2 + (1 : Int))))
def moietyref09_Shelf_Keys_l1 (a0 : moietyref09_Shelf) (a1 : ByteArray) (a2 : ByteArray) (a3 : Int) : Nat → (List ByteArray) → (Int) → Option (List ByteArray)
  | 0, _, _ => none
  | n + 1, x1, x2 => (if (decide (x2 < (a0.L.length : Int))) then ((idx a0.L x2).bind fun e4 => ((gd (!sLt e4.Key a1) (idx a0.L x2)).bind fun e6 => (if (((!sLt e4.Key a1) && (sLt e6.Key a2)) && (decide ((x1.length : Int) < a3))) then ((idx a0.L x2).bind fun e9 => (if (x1.length + ([e9.Key] : List ByteArray).length) * 16 ≤ 140737488355328 then (moietyref09_Shelf_Keys_j1 x2 (moietyref09_Shelf_Keys_l1 a0 a1 a2 a3 n) (x1 ++ ([e9.Key] : List ByteArray))) else none)) else (moietyref09_Shelf_Keys_j1 x2 (moietyref09_Shelf_Keys_l1 a0 a1 a2 a3 n) x1)))) else (some x1))
def moietyref09_Shelf_Keys (a0 : moietyref09_Shelf) (a1 : ByteArray) (a2 : ByteArray) (a3 : Int) : Option (List ByteArray) := ((moietyref09_Shelf_Keys_l1 a0 a1 a2 a3 (Int.toNat ((a0.L.length : Int) - (0 : Int)) + 1) ([] : List ByteArray) (0 : Int)).bind fun z14 => match z14 with | y13 => (some y13))
def moietylaw09_ShelfOrders_l2 (r24 : List ByteArray) (r26 : List ByteArray) : Nat → (Int) → Option ((Bool) ⊕ (Unit))
  | 0, _ => none
  | n + 1, x33 => (if (decide (x33 < (r24.length : Int))) then ((idx r24 x33).bind fun e35 => ((idx r26 x33).bind fun e37 => (if (!sEq e35 e37) then (some (.inl false)) else ((moietylaw09_ShelfOrders_l2 r24 r26 n) (IntKind.i64.wrap (x33 + (1 : Int))))))) else (some (.inr ())))
def moietylaw09_ShelfOrders_l1 (a0 : List moietylaw09_Op) : Nat → (shelf_Shelf) → (moietyref09_Shelf) → (Int) → Option (shelf_Shelf × moietyref09_Shelf)
  | 0, _, _, _ => none
  | n + 1, x9, x10, x11 => (if (decide (x11 < (a0.length : Int))) then ((idx a0 x11).bind fun e13 => ((moietylaw09_do x9 x10 e13).bind fun r15 => ((moietylaw09_ShelfOrders_l1 a0 n) r15.1 r15.2.1 (IntKind.i64.wrap (x11 + (1 : Int)))))) else (some (x9, x10)))
def moietylaw09_ShelfOrders (a0 : List moietylaw09_Op) (a1 : List ByteArray) (a2 : Int) : Option (Bool) := ((moietylaw09_speaks).bind fun r1 => (if (!r1) then (some false) else ((moietylaw09_big a0).bind fun r4 => (if r4 then (some true) else ((shelf_New (4096 : Int)).bind fun r7 => ((moietylaw09_ShelfOrders_l1 a0 (Int.toNat ((a0.length : Int) - (0 : Int)) + 1) r7.1 ({ L := ([] : List moietyref09_Pair), Room := (4096 : Int) } : moietyref09_Shelf) (0 : Int)).bind fun z19 => match z19 with | (y17, y18) => ((idx a1 (0 : Int)).bind fun e20 => ((idx a1 (1 : Int)).bind fun e22 => ((shelf_Shelf_Keys y17 e20 e22 a2).bind fun r24 => ((moietyref09_Shelf_Keys y18 e20 e22 a2).bind fun r26 => ((gd (!((r24.length : Int) != (r26.length : Int))) (shelf_Shelf_Rank y17 e20)).bind fun r28 => ((gd (!((r24.length : Int) != (r26.length : Int))) (moietyref09_Shelf_Find y18 e20)).bind fun r30 => (if (((r24.length : Int) != (r26.length : Int)) || (r28 != r30)) then (some false) else ((moietylaw09_ShelfOrders_l2 r24 r26 (Int.toNat ((r24.length : Int) - (0 : Int)) + 1) (0 : Int)).bind fun z40 => match z40 with | .inl r => some r | .inr () => ((shelf_Shelf_At y17 (-1 : Int)).bind fun r41 => ((shelf_Shelf_Len y17).bind fun r43 => ((shelf_Shelf_At y17 r43).bind fun r45 => (some ((!r41.2.2) && (!r45.2.2))))))))))))))))))))
def moietyref03_Same_l1 (a0 : api_Record) (a1 : api_Record) : Nat → (Int) → Option ((Bool) ⊕ (Unit))
  | 0, _ => none
  | n + 1, x5 => (if (decide (x5 < (a0.List.length : Int))) then ((idx a0.List x5).bind fun e7 => ((idx a1.List x5).bind fun e9 => ((gd (!(!sEq e7.Name e9.Name)) (idx a0.List x5)).bind fun e11 => ((gd (!(!sEq e7.Name e9.Name)) (idx a1.List x5)).bind fun e13 => ((gd (!(!sEq e7.Name e9.Name)) (moietyref01_Same e11.Score e13.Score)).bind fun r15 => (if ((!sEq e7.Name e9.Name) || (!r15)) then (some (.inl false)) else ((moietyref03_Same_l1 a0 a1 n) (IntKind.i64.wrap (x5 + (1 : Int)))))))))) else (some (.inr ())))
def moietyref03_Same (a0 : api_Record) (a1 : api_Record) : Option (Bool) := (if ((((((a0.Kind != a1.Kind) || (a0.Num != a1.Num)) || (a0.Low != a1.Low)) || (a0.High != a1.High)) || (a0.Cap != a1.Cap)) || (!sEq a0.Text a1.Text)) then (some false) else ((moietyref01_Same a0.Real a1.Real).bind fun r2 => (if ((!r2) || ((a0.List.length : Int) != (a1.List.length : Int))) then (some false) else ((moietyref03_Same_l1 a0 a1 (Int.toNat ((a0.List.length : Int) - (0 : Int)) + 1) (0 : Int)).bind fun z18 => match z18 with | .inl r => some r | .inr () => (some true)))))
def moietyref09_Same_l1 (a0 : moietyref09_Shelf) (a1 : moietyref09_Shelf) : Nat → (Int) → Option ((Bool) ⊕ (Unit))
  | 0, _ => none
  | n + 1, x2 => (if (decide (x2 < (a0.L.length : Int))) then ((idx a0.L x2).bind fun e4 => ((idx a1.L x2).bind fun e6 => ((gd (!(!sEq e4.Key e6.Key)) (idx a0.L x2)).bind fun e8 => ((gd (!(!sEq e4.Key e6.Key)) (idx a1.L x2)).bind fun e10 => ((gd (!(!sEq e4.Key e6.Key)) (moietyref03_Same e8.Rec e10.Rec)).bind fun r12 => (if ((!sEq e4.Key e6.Key) || (!r12)) then (some (.inl false)) else ((moietyref09_Same_l1 a0 a1 n) (IntKind.i64.wrap (x2 + (1 : Int)))))))))) else (some (.inr ())))
def moietyref09_Same (a0 : moietyref09_Shelf) (a1 : moietyref09_Shelf) : Option (Bool) := (if ((a0.L.length : Int) != (a1.L.length : Int)) then (some false) else ((moietyref09_Same_l1 a0 a1 (Int.toNat ((a0.L.length : Int) - (0 : Int)) + 1) (0 : Int)).bind fun z15 => match z15 with | .inl r => some r | .inr () => (some true)))
def moietylaw09_ShelfSame_l3 (y22 : moietyref09_Shelf) : Nat → (shelf_Shelf) → (Int) → Option (shelf_Shelf)
  | 0, _, _ => none
  | n + 1, x44, x45 => (if (decide (x45 < (y22.L.length : Int))) then ((idx y22.L (IntKind.i64.wrap ((IntKind.i64.wrap ((y22.L.length : Int) - (1 : Int))) - x45))).bind fun e47 => ((idx y22.L (IntKind.i64.wrap ((IntKind.i64.wrap ((y22.L.length : Int) - (1 : Int))) - x45))).bind fun e49 => ((shelf_Shelf_Set x44 e47.Key e49.Rec).bind fun r51 => ((moietylaw09_ShelfSame_l3 y22 n) r51.1 (IntKind.i64.wrap (x45 + (1 : Int))))))) else (some x44))
def moietylaw09_ShelfSame_l2 (a1 : List moietylaw09_Op) : Nat → (shelf_Shelf) → (moietyref09_Shelf) → (Int) → Option (shelf_Shelf × moietyref09_Shelf)
  | 0, _, _, _ => none
  | n + 1, x24, x25, x26 => (if (decide (x26 < (a1.length : Int))) then ((idx a1 x26).bind fun e28 => ((moietylaw09_do x24 x25 e28).bind fun r30 => ((moietylaw09_ShelfSame_l2 a1 n) r30.1 r30.2.1 (IntKind.i64.wrap (x26 + (1 : Int)))))) else (some (x24, x25)))
def moietylaw09_ShelfSame_l1 (a0 : List moietylaw09_Op) : Nat → (shelf_Shelf) → (moietyref09_Shelf) → (Int) → Option (shelf_Shelf × moietyref09_Shelf)
  | 0, _, _, _ => none
  | n + 1, x13, x14, x15 => (if (decide (x15 < (a0.length : Int))) then ((idx a0 x15).bind fun e17 => ((moietylaw09_do x13 x14 e17).bind fun r19 => ((moietylaw09_ShelfSame_l1 a0 n) r19.1 r19.2.1 (IntKind.i64.wrap (x15 + (1 : Int)))))) else (some (x13, x14)))
def moietylaw09_ShelfSame (a0 : List moietylaw09_Op) (a1 : List moietylaw09_Op) : Option (Bool) := ((moietylaw09_speaks).bind fun r1 => (if (!r1) then (some false) else ((moietylaw09_big a0).bind fun r4 => ((gd (!r4) (moietylaw09_big a1)).bind fun r6 => (if (r4 || r6) then (some true) else ((shelf_New (400 : Int)).bind fun r9 => ((shelf_New (500 : Int)).bind fun r11 => ((moietylaw09_ShelfSame_l1 a0 (Int.toNat ((a0.length : Int) - (0 : Int)) + 1) r9.1 ({ L := ([] : List moietyref09_Pair), Room := (400 : Int) } : moietyref09_Shelf) (0 : Int)).bind fun z23 => match z23 with | (y21, y22) => ((moietylaw09_ShelfSame_l2 a1 (Int.toNat ((a1.length : Int) - (0 : Int)) + 1) r11.1 ({ L := ([] : List moietyref09_Pair), Room := (500 : Int) } : moietyref09_Shelf) (0 : Int)).bind fun z34 => match z34 with | (y32, y33) => ((shelf_Same y21 y32).bind fun r35 => ((moietyref09_Same y22 y33).bind fun r37 => ((gd (!(r35 != r37)) (shelf_Same y21 y21)).bind fun r39 => (if ((r35 != r37) || (!r39)) then (some false) else ((shelf_New (500 : Int)).bind fun r42 => ((moietylaw09_ShelfSame_l3 y22 (Int.toNat ((y22.L.length : Int) - (0 : Int)) + 1) r42.1 (0 : Int)).bind fun z54 => match z54 with | y53 => ((shelf_Same y21 y53).bind fun r55 => (some r55)))))))))))))))))
def shelf_Shelf_Room (a0 : shelf_Shelf) : Option (Int) := (some a0.room)
def moietyref09_Shelf_Get (a0 : moietyref09_Shelf) (a1 : ByteArray) : Option (api_Record × Bool) := ((moietyref09_Shelf_Find a0 a1).bind fun r1 => ((gd (decide (r1 < (a0.L.length : Int))) (idx a0.L r1)).bind fun e3 => (if ((decide (r1 < (a0.L.length : Int))) && (sEq e3.Key a1)) then ((idx a0.L r1).bind fun e6 => (some (e6.Rec, true))) else (some (({ Kind := (0 : Int), Num := (0 : Int), Low := (0 : Int), High := (0 : Int), Real := (0 : Nat), Cap := (0 : Int), Text := ByteArray.empty, List := ([] : List api_Item) } : api_Record), false)))))
def moietylaw09_Is_l1 (a0 : shelf_Shelf) (a1 : moietyref09_Shelf) : Nat → (Int) → Option ((Int) ⊕ (Unit))
  | 0, _ => none
  | n + 1, x6 => (if (decide (x6 < (a1.L.length : Int))) then ((idx a1.L x6).bind fun e8 => ((shelf_Shelf_At a0 x6).bind fun r10 => ((gd (!((!r10.2.2) || (!sEq r10.1 e8.Key))) (moietyref03_Same r10.2.1 e8.Rec)).bind fun r12 => (if (((!r10.2.2) || (!sEq r10.1 e8.Key)) || (!r12)) then (some (.inl (0 : Int))) else ((moietylaw09_Is_l1 a0 a1 n) (IntKind.i64.wrap (x6 + (1 : Int)))))))) else (some (.inr ())))
def moietylaw09_Is (a0 : shelf_Shelf) (a1 : moietyref09_Shelf) : Option (Int) := ((shelf_Shelf_Len a0).bind fun r1 => ((gd (!(r1 != (a1.L.length : Int))) (shelf_Shelf_Room a0)).bind fun r3 => (if ((r1 != (a1.L.length : Int)) || (r3 != a1.Room)) then (some (0 : Int)) else ((moietylaw09_Is_l1 a0 a1 (Int.toNat ((a1.L.length : Int) - (0 : Int)) + 1) (0 : Int)).bind fun z15 => match z15 with | .inl r => some r | .inr () => (some (1 : Int))))))
def moietylaw09_ShelfDoes_l1 (a1 : List moietylaw09_Op) : Nat → (shelf_Shelf) → (moietyref09_Shelf) → (Int) → Option ((Bool) ⊕ (Unit))
  | 0, _, _, _ => none
  | n + 1, x14, x15, x16 => (if (decide (x16 < (a1.length : Int))) then ((idx a1 x16).bind fun e18 => ((moietylaw09_do x14 x15 e18).bind fun r20 => ((shelf_Shelf_Get r20.1 e18.Key).bind fun r22 => ((moietyref09_Shelf_Get r20.2.1 e18.Key).bind fun r24 => ((gd (!(!r20.2.2)) (moietylaw09_Is r20.1 r20.2.1)).bind fun r26 => ((gd (!(((!r20.2.2) || (r26 == (0 : Int))) || (r22.2 != r24.2))) (moietyref03_Same r22.1 r24.1)).bind fun r28 => (if ((((!r20.2.2) || (r26 == (0 : Int))) || (r22.2 != r24.2)) || (!r28)) then (some (.inl false)) else ((moietylaw09_ShelfDoes_l1 a1 n) r20.1 r20.2.1 (IntKind.i64.wrap (x16 + (1 : Int))))))))))) else (some (.inr ())))
def moietylaw09_ShelfDoes (a0 : Int) (a1 : List moietylaw09_Op) : Option (Bool) := ((moietylaw09_speaks).bind fun r1 => (if (!r1) then (some false) else ((moietylaw09_big a1).bind fun r4 => (if r4 then (some true) else ((shelf_New a0).bind fun r7 => ((gd (((!((r7.2 == (0 : Int)) != ((decide ((1 : Int) ≤ a0)) && (decide (a0 ≤ (4096 : Int)))))) && (r7.2 != (0 : Int))) && (!(r7.2 != (1 : Int)))) (shelf_Shelf_Room r7.1)).bind fun r9 => (if (((r7.2 == (0 : Int)) != ((decide ((1 : Int) ≤ a0)) && (decide (a0 ≤ (4096 : Int))))) || ((r7.2 != (0 : Int)) && ((r7.2 != (1 : Int)) || (r9 != (0 : Int))))) then (some false) else ((shelf_Shelf_Room r7.1).bind fun r12 => ((moietylaw09_ShelfDoes_l1 a1 (Int.toNat ((a1.length : Int) - (0 : Int)) + 1) r7.1 ({ L := ([] : List moietyref09_Pair), Room := r12 } : moietyref09_Shelf) (0 : Int)).bind fun z31 => match z31 with | .inl r => some r | .inr () => (some true))))))))))
def shelf_node_high_b (self : shelf_nodeT → Option (Int)) (a0 : shelf_nodeT) : Option (Int) := (if a0.isNil then (some (0 : Int)) else ((a0.un).bind fun n2 => ((self n2.left).bind fun r4 => ((self n2.right).bind fun r6 => (some (IntKind.i64.wrap ((1 : Int) + (max r4 r6))))))))
def shelf_node_high_r : Nat → shelf_nodeT → Option (Int)
  | 0 => fun _ => none
  | n + 1 => shelf_node_high_b (shelf_node_high_r n)
def shelf_node_high (a0 : shelf_nodeT) : Option (Int) := shelf_node_high_r (a0.hh + 1) a0
def shelf_Shelf_High (a0 : shelf_Shelf) : Option (Int) := ((shelf_node_high a0.top).bind fun r1 => (some r1))
def bits_Len32_j2 (j5 : Int) (j6 : Int) : Option (Int) := ((sidx (⟨#[0, 1, 2, 2, 3, 3, 3, 3, 4, 4, 4, 4, 4, 4, 4, 4, 5, 5, 5, 5, 5, 5, 5, 5, 5, 5, 5, 5, 5, 5, 5, 5, 6, 6, 6, 6, 6, 6, 6, 6, 6, 6, 6, 6, 6, 6, 6, 6, 6, 6, 6, 6, 6, 6, 6, 6, 6, 6, 6, 6, 6, 6, 6, 6, 7, 7, 7, 7, 7, 7, 7, 7, 7, 7, 7, 7, 7, 7, 7, 7, 7, 7, 7, 7, 7, 7, 7, 7, 7, 7, 7, 7, 7, 7, 7, 7, 7, 7, 7, 7, 7, 7, 7, 7, 7, 7, 7, 7, 7, 7, 7, 7, 7, 7, 7, 7, 7, 7, 7, 7, 7, 7, 7, 7, 7, 7, 7, 7, 8, 8, 8, 8, 8, 8, 8, 8, 8, 8, 8, 8, 8, 8, 8, 8, 8, 8, 8, 8, 8, 8, 8, 8, 8, 8, 8, 8, 8, 8, 8, 8, 8, 8, 8, 8, 8, 8, 8, 8, 8, 8, 8, 8, 8, 8, 8, 8, 8, 8, 8, 8, 8, 8, 8, 8, 8, 8, 8, 8, 8, 8, 8, 8, 8, 8, 8, 8, 8, 8, 8, 8, 8, 8, 8, 8, 8, 8, 8, 8, 8, 8, 8, 8, 8, 8, 8, 8, 8, 8, 8, 8, 8, 8, 8, 8, 8, 8, 8, 8, 8, 8, 8, 8, 8, 8, 8, 8, 8, 8, 8, 8, 8, 8, 8, 8, 8, 8, 8, 8, 8, 8, 8, 8, 8, 8, 8, 8]⟩ : ByteArray) (IntKind.u8.wrap j5)).bind fun b7 => (some (IntKind.i64.wrap (j6 + (IntKind.i64.wrap b7)))))
def bits_Len32_j1 (j2 : Int) (j3 : Int) : Option (Int) := (if (decide ((256 : Int) ≤ j2)) then (bits_Len32_j2 (Int.fdiv j2 (2 ^ 8)) (IntKind.i64.wrap (j3 + (8 : Int)))) else (bits_Len32_j2 j2 j3))
def bits_Len32 (a0 : Int) : Option (Int) := (if (decide ((65536 : Int) ≤ a0)) then (bits_Len32_j1 (Int.fdiv a0 (2 ^ 16)) (16 : Int)) else (bits_Len32_j1 a0 (0 : Int)))
def bits_Len64_j3 (j8 : Int) (j9 : Int) : Option (Int) := ((sidx (⟨#[0, 1, 2, 2, 3, 3, 3, 3, 4, 4, 4, 4, 4, 4, 4, 4, 5, 5, 5, 5, 5, 5, 5, 5, 5, 5, 5, 5, 5, 5, 5, 5, 6, 6, 6, 6, 6, 6, 6, 6, 6, 6, 6, 6, 6, 6, 6, 6, 6, 6, 6, 6, 6, 6, 6, 6, 6, 6, 6, 6, 6, 6, 6, 6, 7, 7, 7, 7, 7, 7, 7, 7, 7, 7, 7, 7, 7, 7, 7, 7, 7, 7, 7, 7, 7, 7, 7, 7, 7, 7, 7, 7, 7, 7, 7, 7, 7, 7, 7, 7, 7, 7, 7, 7, 7, 7, 7, 7, 7, 7, 7, 7, 7, 7, 7, 7, 7, 7, 7, 7, 7, 7, 7, 7, 7, 7, 7, 7, 8, 8, 8, 8, 8, 8, 8, 8, 8, 8, 8, 8, 8, 8, 8, 8, 8, 8, 8, 8, 8, 8, 8, 8, 8, 8, 8, 8, 8, 8, 8, 8, 8, 8, 8, 8, 8, 8, 8, 8, 8, 8, 8, 8, 8, 8, 8, 8, 8, 8, 8, 8, 8, 8, 8, 8, 8, 8, 8, 8, 8, 8, 8, 8, 8, 8, 8, 8, 8, 8, 8, 8, 8, 8, 8, 8, 8, 8, 8, 8, 8, 8, 8, 8, 8, 8, 8, 8, 8, 8, 8, 8, 8, 8, 8, 8, 8, 8, 8, 8, 8, 8, 8, 8, 8, 8, 8, 8, 8, 8, 8, 8, 8, 8, 8, 8, 8, 8, 8, 8, 8, 8, 8, 8, 8, 8, 8, 8]⟩ : ByteArray) (IntKind.u8.wrap j8)).bind fun b10 => (some (IntKind.i64.wrap (j9 + (IntKind.i64.wrap b10)))))
def bits_Len64_j2 (j5 : Int) (j6 : Int) : Option (Int) := (if (decide ((256 : Int) ≤ j5)) then (bits_Len64_j3 (Int.fdiv j5 (2 ^ 8)) (IntKind.i64.wrap (j6 + (8 : Int)))) else (bits_Len64_j3 j5 j6))
def bits_Len64_j1 (j2 : Int) (j3 : Int) : Option (Int) := (if (decide ((65536 : Int) ≤ j2)) then (bits_Len64_j2 (Int.fdiv j2 (2 ^ 16)) (IntKind.i64.wrap (j3 + (16 : Int)))) else (bits_Len64_j2 j2 j3))
def bits_Len64 (a0 : Int) : Option (Int) := (if (decide ((4294967296 : Int) ≤ a0)) then (bits_Len64_j1 (Int.fdiv a0 (2 ^ 32)) (32 : Int)) else (bits_Len64_j1 a0 (0 : Int)))
def bits_Len (a0 : Int) : Option (Int) := ((bits_Len64 a0).bind fun r1 => (some r1))
def moietylaw09_ShelfHigh_j1 (x10 : Int) (kk : (shelf_Shelf) → (Int) → Option ((Bool) ⊕ (Unit))) (j19 : shelf_Shelf) : Option ((Bool) ⊕ (Unit)) := ((shelf_Shelf_High j19).bind fun r20 => ((gd (!(decide (r20 < (0 : Int)))) (shelf_Shelf_High j19)).bind fun r22 => ((gd (!(decide (r20 < (0 : Int)))) (shelf_Shelf_Len j19)).bind fun r24 => ((gd (!(decide (r20 < (0 : Int)))) (bits_Len (IntKind.u64.wrap r24))).bind fun r26 => (if ((decide (r20 < (0 : Int))) || (decide ((IntKind.i64.wrap ((3 : Int) * r26)) < r22))) then (some (.inl false)) else (kk j19 (IntKind.i64.wrap (x10 + (1 : Int)))))))))
def moietylaw09_ShelfHigh_l1 (a0 : List moietylaw09_Op) : Nat → (shelf_Shelf) → (Int) → Option ((Bool) ⊕ (Unit))
  | 0, _, _ => none
  | n + 1, x9, x10 => (if (decide (x10 < (a0.length : Int))) then ((idx a0 x10).bind fun e12 => (if e12.Cut then ((shelf_Shelf_Cut x9 e12.Key).bind fun r15 => (moietylaw09_ShelfHigh_j1 x10 (moietylaw09_ShelfHigh_l1 a0 n) r15.1)) else ((shelf_Shelf_Set x9 e12.Key e12.Rec).bind fun r17 => (moietylaw09_ShelfHigh_j1 x10 (moietylaw09_ShelfHigh_l1 a0 n) r17.1)))) else (some (.inr ())))
def moietylaw09_ShelfHigh (a0 : List moietylaw09_Op) : Option (Bool) := ((moietylaw09_speaks).bind fun r1 => (if (!r1) then (some false) else ((moietylaw09_big a0).bind fun r4 => (if r4 then (some true) else ((shelf_New (4096 : Int)).bind fun r7 => ((moietylaw09_ShelfHigh_l1 a0 (Int.toNat ((a0.length : Int) - (0 : Int)) + 1) r7.1 (0 : Int)).bind fun z29 => match z29 with | .inl r => some r | .inr () => (some true)))))))
end Go.CL

set_option linter.unusedVariables false
set_option linter.unusedSimpArgs false
set_option maxRecDepth 100000
namespace Go.CL
open Go Go.RowKit
def wf_api_Item (x : api_Item) : Prop := (x.Score < 2 ^ 64) ∧ (x.Name.size ≤ maxLen)
def wf_api_Record (x : api_Record) : Prop := ((IntKind.i64).min ≤ x.Kind ∧ x.Kind ≤ (IntKind.i64).max) ∧ ((IntKind.i64).min ≤ x.Num ∧ x.Num ≤ (IntKind.i64).max) ∧ ((IntKind.i64).min ≤ x.Low ∧ x.Low ≤ (IntKind.i64).max) ∧ ((IntKind.i64).min ≤ x.High ∧ x.High ≤ (IntKind.i64).max) ∧ (x.Real < 2 ^ 64) ∧ ((IntKind.i64).min ≤ x.Cap ∧ x.Cap ≤ (IntKind.i64).max) ∧ (x.Text.size ≤ maxLen) ∧ (x.List.length ≤ maxLen ∧ ∀ e0 ∈ x.List, (wf_api_Item e0))
def wf_rec_shape (x : rec_shape) : Prop := True ∧ True ∧ True ∧ True ∧ True
def wf_moietylaw09_Op (x : moietylaw09_Op) : Prop := True ∧ (x.Key.size ≤ maxLen) ∧ (wf_api_Record x.Rec)
def wf_moietyref09_Pair (x : moietyref09_Pair) : Prop := (x.Key.size ≤ maxLen) ∧ (wf_api_Record x.Rec)
def wf_moietyref09_Shelf (x : moietyref09_Shelf) : Prop := (x.L.length ≤ maxLen ∧ ∀ e0 ∈ x.L, (wf_moietyref09_Pair e0)) ∧ ((IntKind.i64).min ≤ x.Room ∧ x.Room ≤ (IntKind.i64).max)
end Go.CL

set_option linter.unusedVariables false
set_option linter.unusedSimpArgs false
set_option maxRecDepth 100000
namespace Go.CL
open Go Go.RowKit Go.Proofs
theorem follows : Try.prog.follows .mixedOrders = true := by kernel_rfl
theorem len_8 {α : Type} {l : List α} (h : l.length = 8) : ∃ u0 u1 u2 u3 u4 u5 u6 u7, l = [u0, u1, u2, u3, u4, u5, u6, u7] := by
  match l, h with
  | [u0, u1, u2, u3, u4, u5, u6, u7], _ => exact ⟨u0, u1, u2, u3, u4, u5, u6, u7, rfl⟩
def fs_api_Item : List (Kd.FK api_Item) := [⟨_, Kd.flt, 0, fun x : api_Item => x.Score⟩,
  ⟨_, Kd.str, 1, fun x : api_Item => x.Name⟩]
def k_api_Item : Kd api_Item := Kd.struct 2 fs_api_Item (by rfl)
theorem zk_api_Item : ∀ g, k_api_Item.K g (default : api_Item) [.float .f64 0, .string ByteArray.empty] := fun g => ⟨rfl, (List.forall_mem_cons.2 ⟨(rfl), (List.forall_mem_cons.2 ⟨(rfl), (fun _ h => by cases h)⟩)⟩)⟩
def fs_api_Record : List (Kd.FK api_Record) := [⟨_, (Kd.int .i64), 0, fun x : api_Record => x.Kind⟩,
  ⟨_, (Kd.int .i64), 1, fun x : api_Record => x.Num⟩,
  ⟨_, (Kd.int .i64), 2, fun x : api_Record => x.Low⟩,
  ⟨_, (Kd.int .i64), 3, fun x : api_Record => x.High⟩,
  ⟨_, Kd.flt, 4, fun x : api_Record => x.Real⟩,
  ⟨_, (Kd.int .i64), 5, fun x : api_Record => x.Cap⟩,
  ⟨_, Kd.str, 6, fun x : api_Record => x.Text⟩,
  ⟨_, k_api_Item.sl, 7, fun x : api_Record => x.List⟩]
def k_api_Record : Kd api_Record := Kd.struct 8 fs_api_Record (by rfl)
theorem zk_api_Record : ∀ g, k_api_Record.K g (default : api_Record) [.int .i64 0, .int .i64 0, .int .i64 0, .int .i64 0, .float .f64 0, .int .i64 0, .string ByteArray.empty, .slice none 0 0] := fun g => ⟨rfl, (List.forall_mem_cons.2 ⟨(rfl), (List.forall_mem_cons.2 ⟨(rfl), (List.forall_mem_cons.2 ⟨(rfl), (List.forall_mem_cons.2 ⟨(rfl), (List.forall_mem_cons.2 ⟨(rfl), (List.forall_mem_cons.2 ⟨(rfl), (List.forall_mem_cons.2 ⟨(rfl), (List.forall_mem_cons.2 ⟨(⟨none, 0, rfl, Nat.le_refl _, Nat.zero_le _, .inl rfl⟩), (fun _ h => by cases h)⟩)⟩)⟩)⟩)⟩)⟩)⟩)⟩)⟩
def shelf_nodeT.V (g : G) : shelf_nodeT → Value → Prop
  | .nil, v => v = .pointer none
  | .node x0 x1 x2 x3 x4, v => ∃ b o cs, v = .pointer (some ⟨b, o, none⟩) ∧ CellsAt g b o cs ∧ cs.length = 12 ∧ (∀ u ∈ cs, u.oneCell' = true) ∧ Kd.str.K g x0 (seg cs 0 1) ∧ k_api_Record.K g x1 (seg cs 1 8) ∧ (∃ v, seg cs 9 1 = [v] ∧ shelf_nodeT.V g x2 v) ∧ (∃ v, seg cs 10 1 = [v] ∧ shelf_nodeT.V g x3 v) ∧ (Kd.int .i64).K g x4 (seg cs 11 1)
theorem shelf_nodeT.mono {g g' : G} (h : g.le g') (t : shelf_nodeT) : ∀ v, shelf_nodeT.V g t v → shelf_nodeT.V g' t v := by
  induction t with
  | nil => exact fun v h => h
  | node x0 x1 x2 x3 x4 ih2 ih3 =>
    rintro v ⟨b, o, cs, rfl, hc, hl, hz, h0, h1, ⟨w2, e2, k2⟩, ⟨w3, e3, k3⟩, h4⟩
    exact ⟨b, o, cs, rfl, hc.mono h, hl, hz, Kd.str.mono h h0, k_api_Record.mono h h1, ⟨w2, e2, ih2 w2 k2⟩, ⟨w3, e3, ih3 w3 k3⟩, (Kd.int .i64).mono h h4⟩
theorem shelf_nodeT.ptr {g : G} {t : shelf_nodeT} {v : Value} (h : shelf_nodeT.V g t v) : ∃ p, v = .pointer p ∧ p.isNone = t.isNil := by
  cases t with
  | nil => exact ⟨_, h, rfl⟩
  | node =>
    obtain ⟨b, o, cs, e, _⟩ := h
    exact ⟨_, e, rfl⟩
def k_shelf_nodeT : Kd shelf_nodeT where
  sz := 1
  ag := false
  K := fun g t cs => ∃ v, cs = [v] ∧ shelf_nodeT.V g t v
  len := by rintro _ _ _ ⟨v, rfl, _⟩; rfl
  one := by
    rintro _ _ _ ⟨v, rfl, h⟩ u hu
    obtain ⟨p, e, _⟩ := shelf_nodeT.ptr h
    rw [List.mem_singleton.1 hu, e]; rfl
  mono := fun h ⟨v, e, k⟩ => ⟨v, e, shelf_nodeT.mono h _ _ k⟩
  nag := fun _ => rfl
def fs_shelf_node : List (Kd.FK shelf_node) := [⟨_, Kd.str, 0, fun x : shelf_node => x.key⟩,
  ⟨_, k_api_Record, 1, fun x : shelf_node => x.rec_⟩,
  ⟨_, k_shelf_nodeT, 9, fun x : shelf_node => x.left⟩,
  ⟨_, k_shelf_nodeT, 10, fun x : shelf_node => x.right⟩,
  ⟨_, (Kd.int .i64), 11, fun x : shelf_node => x.size⟩]
def k_shelf_node : Kd shelf_node := Kd.struct 12 fs_shelf_node (by rfl)
theorem shelf_nodeT.V_iff {g : G} {t : shelf_nodeT} {v : Value} : (k_shelf_nodeT.pd t).p g v ↔ shelf_nodeT.V g t v := by
  constructor
  · rintro ⟨_, ⟨u, rfl, h⟩, rfl⟩; exact h
  · exact fun h => ⟨_, ⟨v, rfl, h⟩, rfl⟩
theorem k_shelf_nodeT_nil (g : G) : k_shelf_nodeT.K g shelf_nodeT.nil [.pointer none] := ⟨_, rfl, rfl⟩
theorem k_shelf_nodeT_nil_q (g : G) : (k_shelf_nodeT.pd shelf_nodeT.nil).p g (.pointer none) := shelf_nodeT.V_iff.2 rfl
theorem shelf_nodeT_isptr (t : shelf_nodeT) (g : G) (v : Value) (h : (k_shelf_nodeT.pd t).p g v) : ∃ p, v = .pointer p ∧ p.isNone = t.isNil := shelf_nodeT.ptr (shelf_nodeT.V_iff.1 h)
theorem shelf_nodeT_node {g : G} {t : shelf_nodeT} {x : shelf_node} {v : Value} (h : t.un = some x) (hv : (k_shelf_nodeT.pd t).p g v) : (k_shelf_node.ptr x).p g v := by
  cases t with
  | nil => cases h
  | node x0 x1 x2 x3 x4 =>
    obtain rfl := Option.some.inj h
    obtain ⟨b, o, cs, rfl, hc, hl, _, h0, h1, h2, h3, h4⟩ := shelf_nodeT.V_iff.1 hv
    exact ⟨b, o, cs, rfl, ⟨hl, (List.forall_mem_cons.2 ⟨h0, (List.forall_mem_cons.2 ⟨h1, (List.forall_mem_cons.2 ⟨h2, (List.forall_mem_cons.2 ⟨h3, (List.forall_mem_cons.2 ⟨h4, (fun _ h => by cases h)⟩)⟩)⟩)⟩)⟩)⟩, hc⟩
theorem shelf_nodeT_up {g : G} {x : shelf_node} {v : Value} (h : (k_shelf_node.ptr x).p g v) : (k_shelf_nodeT.pd x.up).p g v := by
  obtain ⟨b, o, cs, rfl, hk, hc⟩ := h
  exact shelf_nodeT.V_iff.2 ⟨b, o, cs, rfl, hc, hk.1, k_shelf_node.one hk, hk.2 _ (List.mem_of_getElem? (i := 0) rfl), hk.2 _ (List.mem_of_getElem? (i := 1) rfl), hk.2 _ (List.mem_of_getElem? (i := 2) rfl), hk.2 _ (List.mem_of_getElem? (i := 3) rfl), hk.2 _ (List.mem_of_getElem? (i := 4) rfl)⟩
def fs_shelf_Shelf : List (Kd.FK shelf_Shelf) := [⟨_, k_shelf_nodeT, 0, fun x : shelf_Shelf => x.top⟩,
  ⟨_, (Kd.int .i64), 1, fun x : shelf_Shelf => x.room⟩]
def k_shelf_Shelf : Kd shelf_Shelf := Kd.struct 2 fs_shelf_Shelf (by rfl)
theorem zk_shelf_Shelf : ∀ g, k_shelf_Shelf.K g (default : shelf_Shelf) [.pointer none, .int .i64 0] := fun g => ⟨rfl, (List.forall_mem_cons.2 ⟨(k_shelf_nodeT_nil _), (List.forall_mem_cons.2 ⟨(rfl), (fun _ h => by cases h)⟩)⟩)⟩
def fs_rec_shape : List (Kd.FK rec_shape) := [⟨_, Kd.bool, 0, fun x : rec_shape => x.text⟩,
  ⟨_, Kd.bool, 1, fun x : rec_shape => x.num⟩,
  ⟨_, Kd.bool, 2, fun x : rec_shape => x.bounds⟩,
  ⟨_, Kd.bool, 3, fun x : rec_shape => x.real⟩,
  ⟨_, Kd.bool, 4, fun x : rec_shape => x.list⟩]
def k_rec_shape : Kd rec_shape := Kd.struct 5 fs_rec_shape (by rfl)
theorem zk_rec_shape : ∀ g, k_rec_shape.K g (default : rec_shape) [.bool false, .bool false, .bool false, .bool false, .bool false] := fun g => ⟨rfl, (List.forall_mem_cons.2 ⟨(rfl), (List.forall_mem_cons.2 ⟨(rfl), (List.forall_mem_cons.2 ⟨(rfl), (List.forall_mem_cons.2 ⟨(rfl), (List.forall_mem_cons.2 ⟨(rfl), (fun _ h => by cases h)⟩)⟩)⟩)⟩)⟩)⟩
def fs_moietylaw09_Op : List (Kd.FK moietylaw09_Op) := [⟨_, Kd.bool, 0, fun x : moietylaw09_Op => x.Cut⟩,
  ⟨_, Kd.str, 1, fun x : moietylaw09_Op => x.Key⟩,
  ⟨_, k_api_Record, 2, fun x : moietylaw09_Op => x.Rec⟩]
def k_moietylaw09_Op : Kd moietylaw09_Op := Kd.struct 10 fs_moietylaw09_Op (by rfl)
theorem zk_moietylaw09_Op : ∀ g, k_moietylaw09_Op.K g (default : moietylaw09_Op) [.bool false, .string ByteArray.empty, .int .i64 0, .int .i64 0, .int .i64 0, .int .i64 0, .float .f64 0, .int .i64 0, .string ByteArray.empty, .slice none 0 0] := fun g => ⟨rfl, (List.forall_mem_cons.2 ⟨(rfl), (List.forall_mem_cons.2 ⟨(rfl), (List.forall_mem_cons.2 ⟨(zk_api_Record _), (fun _ h => by cases h)⟩)⟩)⟩)⟩
def fs_moietyref09_Pair : List (Kd.FK moietyref09_Pair) := [⟨_, Kd.str, 0, fun x : moietyref09_Pair => x.Key⟩,
  ⟨_, k_api_Record, 1, fun x : moietyref09_Pair => x.Rec⟩]
def k_moietyref09_Pair : Kd moietyref09_Pair := Kd.struct 9 fs_moietyref09_Pair (by rfl)
theorem zk_moietyref09_Pair : ∀ g, k_moietyref09_Pair.K g (default : moietyref09_Pair) [.string ByteArray.empty, .int .i64 0, .int .i64 0, .int .i64 0, .int .i64 0, .float .f64 0, .int .i64 0, .string ByteArray.empty, .slice none 0 0] := fun g => ⟨rfl, (List.forall_mem_cons.2 ⟨(rfl), (List.forall_mem_cons.2 ⟨(zk_api_Record _), (fun _ h => by cases h)⟩)⟩)⟩
def fs_moietyref09_Shelf : List (Kd.FK moietyref09_Shelf) := [⟨_, k_moietyref09_Pair.sl, 0, fun x : moietyref09_Shelf => x.L⟩,
  ⟨_, (Kd.int .i64), 1, fun x : moietyref09_Shelf => x.Room⟩]
def k_moietyref09_Shelf : Kd moietyref09_Shelf := Kd.struct 2 fs_moietyref09_Shelf (by rfl)
theorem zk_moietyref09_Shelf : ∀ g, k_moietyref09_Shelf.K g (default : moietyref09_Shelf) [.slice none 0 0, .int .i64 0] := fun g => ⟨rfl, (List.forall_mem_cons.2 ⟨(⟨none, 0, rfl, Nat.le_refl _, Nat.zero_le _, .inl rfl⟩), (List.forall_mem_cons.2 ⟨(rfl), (fun _ h => by cases h)⟩)⟩)⟩

theorem bd_28_ {N d : Nat} {o : Oper} {uses : Slots}   (hop : o.op = .build 28 #[]) (hd : o.dst = some d)  : OB Try.prog N o uses [(d, k_shelf_Shelf.pd { top := shelf_nodeT.nil, room := (0 : Int) })] [] := by
  refine ob_build hop hd fun a g hh => ?_

  refine ⟨.agg #[.pointer none, .int .i64 0], ?_, [.pointer none, .int .i64 0], ⟨rfl, (List.forall_mem_cons.2 ⟨(k_shelf_nodeT_nil _), (List.forall_mem_cons.2 ⟨(rfl), (fun _ h => by cases h)⟩)⟩)⟩, rfl⟩
  simp only [List.map_toArray, List.map_cons, List.map_nil, List.map_nil]
  exact run_build Try.underlying28 (zero := .agg #[.pointer none, .int .i64 0]) (by kernel_rfl) (places := [(0, 1), (1, 1)]) (by kernel_rfl) (by kernel_rfl) g.w
theorem ty_28 : Ty Try.prog 28 k_shelf_Shelf := ⟨by kernel_rfl, by kernel_rfl⟩
theorem bd_28_1 {N d : Nat} {o : Oper} {uses : Slots} {x1 : Operand} {v1 : Int} (hop : o.op = .build 28 #[(1, x1)]) (hd : o.dst = some d) (h1 : Opd uses x1 ((Kd.int .i64).pd v1)) : OB Try.prog N o uses [(d, k_shelf_Shelf.pd { top := shelf_nodeT.nil, room := v1 })] [] := by
  refine ob_build hop hd fun a g hh => ?_
  obtain ⟨c1, k1, e1⟩ := h1 a g hh
  obtain rfl := k1
  refine ⟨.agg #[.pointer none, .int .i64 v1], ?_, [.pointer none, .int .i64 v1], ⟨rfl, (List.forall_mem_cons.2 ⟨(k_shelf_nodeT_nil _), (List.forall_mem_cons.2 ⟨rfl, (fun _ h => by cases h)⟩)⟩)⟩, rfl⟩
  simp only [List.map_toArray, List.map_cons, List.map_nil, e1]
  exact run_build Try.underlying28 (zero := .agg #[.pointer none, .int .i64 0]) (by kernel_rfl) (places := [(0, 1), (1, 1)]) (by kernel_rfl) (by kernel_rfl) g.w
theorem fl_75_4 : Fld Try.prog 75 4 k_shelf_node (Kd.int .i64) (fun x : shelf_node => x.size) := Fld.of ⟨_, (Kd.int .i64), 11, fun x : shelf_node => x.size⟩ (List.mem_of_getElem? (i := 4) rfl) 11 rfl (by kernel_rfl) (by decide)
theorem ty_3 : Ty Try.prog 3 (Kd.int .i64) := ⟨by kernel_rfl, by kernel_rfl⟩
theorem fl_28_0 : Fld Try.prog 28 0 k_shelf_Shelf k_shelf_nodeT (fun x : shelf_Shelf => x.top) := Fld.of ⟨_, k_shelf_nodeT, 0, fun x : shelf_Shelf => x.top⟩ (List.mem_of_getElem? (i := 0) rfl) 0 rfl (by kernel_rfl) (by decide)
theorem ty_26 : Ty Try.prog 26 k_shelf_nodeT := ⟨by kernel_rfl, by kernel_rfl⟩
theorem fl_75_0 : Fld Try.prog 75 0 k_shelf_node Kd.str (fun x : shelf_node => x.key) := Fld.of ⟨_, Kd.str, 0, fun x : shelf_node => x.key⟩ (List.mem_of_getElem? (i := 0) rfl) 0 rfl (by kernel_rfl) (by decide)
theorem ty_9 : Ty Try.prog 9 Kd.str := ⟨by kernel_rfl, by kernel_rfl⟩
theorem fl_75_2 : Fld Try.prog 75 2 k_shelf_node k_shelf_nodeT (fun x : shelf_node => x.left) := Fld.of ⟨_, k_shelf_nodeT, 9, fun x : shelf_node => x.left⟩ (List.mem_of_getElem? (i := 2) rfl) 9 rfl (by kernel_rfl) (by decide)
theorem en_33 : Enters Try.prog 33 := by
  unfold Enters
  kernel_rfl
theorem fl_75_3 : Fld Try.prog 75 3 k_shelf_node k_shelf_nodeT (fun x : shelf_node => x.right) := Fld.of ⟨_, k_shelf_nodeT, 10, fun x : shelf_node => x.right⟩ (List.mem_of_getElem? (i := 3) rfl) 10 rfl (by kernel_rfl) (by decide)
theorem te_36 : TE Try.prog 36 64 k_api_Item 24 := TE.of Try.underlying36 (by kernel_rfl) (by decide) (by decide)
theorem fl_38_7 : Fld Try.prog 38 7 k_api_Record k_api_Item.sl (fun x : api_Record => x.List) := Fld.of ⟨_, k_api_Item.sl, 7, fun x : api_Record => x.List⟩ (List.mem_of_getElem? (i := 7) rfl) 7 rfl (by kernel_rfl) (by decide)
theorem ty_36 : Ty Try.prog 36 k_api_Item.sl := ⟨by kernel_rfl, by kernel_rfl⟩
theorem en_46 : Enters Try.prog 46 := by
  unfold Enters
  kernel_rfl
theorem wi_38_7 {c : Option Nat} {N j s : Nat} {o : Oper} {uses : Slots} {x z : Operand} {v : api_Record} {y0 y : List api_Item} {v0 : api_Record} {t : Nat} (hT : Ty Try.prog t k_api_Item.sl) (hop : o.op = .store t x z) (hd : o.dst = none) (hs : Opd uses (.tmp s) (pBoxC c k_api_Record j v)) (hx : Opd uses x (pPart k_api_Record j v0 7 k_api_Item.sl y0)) (hz : Opd uses z (k_api_Item.sl.pd y)) : OB Try.prog N o uses [(s, pBoxC c k_api_Record j { v with List := y })] [j + 1] :=
  ob_storeP hT hop hd hs hx hz fun g cs ys hk hy => by
    have hc : cs.length = 8 := hk.1
    have hl : ys.length = 1 := k_api_Item.sl.len hy
    exact ⟨by omega, (splice_length (by omega)).trans hc, (List.forall_mem_cons.2 ⟨(by show (Kd.int .i64).K g v.Kind (seg (splice cs 7 ys) 0 1); rw [seg_splice_ne (by omega) (by omega)]; exact hk.2 _ (List.mem_of_getElem? (i := 0) rfl)), (List.forall_mem_cons.2 ⟨(by show (Kd.int .i64).K g v.Num (seg (splice cs 7 ys) 1 1); rw [seg_splice_ne (by omega) (by omega)]; exact hk.2 _ (List.mem_of_getElem? (i := 1) rfl)), (List.forall_mem_cons.2 ⟨(by show (Kd.int .i64).K g v.Low (seg (splice cs 7 ys) 2 1); rw [seg_splice_ne (by omega) (by omega)]; exact hk.2 _ (List.mem_of_getElem? (i := 2) rfl)), (List.forall_mem_cons.2 ⟨(by show (Kd.int .i64).K g v.High (seg (splice cs 7 ys) 3 1); rw [seg_splice_ne (by omega) (by omega)]; exact hk.2 _ (List.mem_of_getElem? (i := 3) rfl)), (List.forall_mem_cons.2 ⟨(by show Kd.flt.K g v.Real (seg (splice cs 7 ys) 4 1); rw [seg_splice_ne (by omega) (by omega)]; exact hk.2 _ (List.mem_of_getElem? (i := 4) rfl)), (List.forall_mem_cons.2 ⟨(by show (Kd.int .i64).K g v.Cap (seg (splice cs 7 ys) 5 1); rw [seg_splice_ne (by omega) (by omega)]; exact hk.2 _ (List.mem_of_getElem? (i := 5) rfl)), (List.forall_mem_cons.2 ⟨(by show Kd.str.K g v.Text (seg (splice cs 7 ys) 6 1); rw [seg_splice_ne (by omega) (by omega)]; exact hk.2 _ (List.mem_of_getElem? (i := 6) rfl)), (List.forall_mem_cons.2 ⟨(by show k_api_Item.sl.K g y (seg (splice cs 7 ys) 7 1); rw [seg_splice_same (by omega) hl]; exact hy), (fun _ h => by cases h)⟩)⟩)⟩)⟩)⟩)⟩)⟩)⟩)⟩
theorem ty_38 : Ty Try.prog 38 k_api_Record := ⟨by kernel_rfl, by kernel_rfl⟩
theorem fl_75_1 : Fld Try.prog 75 1 k_shelf_node k_api_Record (fun x : shelf_node => x.rec_) := Fld.of ⟨_, k_api_Record, 1, fun x : shelf_node => x.rec_⟩ (List.mem_of_getElem? (i := 1) rfl) 1 rfl (by kernel_rfl) (by decide)
theorem en_34 : Enters Try.prog 34 := by
  unfold Enters
  kernel_rfl
theorem bd_38_ {N d : Nat} {o : Oper} {uses : Slots}   (hop : o.op = .build 38 #[]) (hd : o.dst = some d)  : OB Try.prog N o uses [(d, k_api_Record.pd { Kind := (0 : Int), Num := (0 : Int), Low := (0 : Int), High := (0 : Int), Real := (0 : Nat), Cap := (0 : Int), Text := ByteArray.empty, List := ([] : List api_Item) })] [] := by
  refine ob_build hop hd fun a g hh => ?_

  refine ⟨.agg #[.int .i64 0, .int .i64 0, .int .i64 0, .int .i64 0, .float .f64 0, .int .i64 0, .string ByteArray.empty, .slice none 0 0], ?_, [.int .i64 0, .int .i64 0, .int .i64 0, .int .i64 0, .float .f64 0, .int .i64 0, .string ByteArray.empty, .slice none 0 0], ⟨rfl, (List.forall_mem_cons.2 ⟨(rfl), (List.forall_mem_cons.2 ⟨(rfl), (List.forall_mem_cons.2 ⟨(rfl), (List.forall_mem_cons.2 ⟨(rfl), (List.forall_mem_cons.2 ⟨(rfl), (List.forall_mem_cons.2 ⟨(rfl), (List.forall_mem_cons.2 ⟨(rfl), (List.forall_mem_cons.2 ⟨(⟨none, 0, rfl, Nat.le_refl _, Nat.zero_le _, .inl rfl⟩), (fun _ h => by cases h)⟩)⟩)⟩)⟩)⟩)⟩)⟩)⟩)⟩, rfl⟩
  simp only [List.map_toArray, List.map_cons, List.map_nil, List.map_nil]
  exact run_build Try.underlying38 (zero := .agg #[.int .i64 0, .int .i64 0, .int .i64 0, .int .i64 0, .float .f64 0, .int .i64 0, .string ByteArray.empty, .slice none 0 0]) (by kernel_rfl) (places := [(0, 1), (1, 1), (2, 1), (3, 1), (4, 1), (5, 1), (6, 1), (7, 1)]) (by kernel_rfl) (by kernel_rfl) g.w
theorem en_14 : Enters Try.prog 14 := by
  unfold Enters
  kernel_rfl
theorem en_16 : Enters Try.prog 16 := by
  unfold Enters
  kernel_rfl
theorem te_43 : TE Try.prog 43 9 Kd.str 16 := TE.of Try.underlying43 (by kernel_rfl) (by decide) (by decide)
theorem ex_70 : Ext Try.prog 70 Extern.MathFloatBits.float64frombits := ⟨_, Try.func70, rfl, rfl, by kernel_rfl, by kernel_rfl⟩
theorem en_68 : Enters Try.prog 68 := by
  unfold Enters
  kernel_rfl
theorem en_61 : Enters Try.prog 61 := by
  unfold Enters
  kernel_rfl
theorem ex_60 : Ext Try.prog 60 Extern.MathFloatBits.float64bits := ⟨_, Try.func60, rfl, rfl, by kernel_rfl, by kernel_rfl⟩
theorem en_55 : Enters Try.prog 55 := by
  unfold Enters
  kernel_rfl
theorem sz_64 : (Try.prog.info? 64).map (·.size) = some k_api_Item.sz := by kernel_rfl
theorem ty_64 : Ty Try.prog 64 k_api_Item := ⟨by kernel_rfl, by kernel_rfl⟩
theorem fl_64_1 : Fld Try.prog 64 1 k_api_Item Kd.str (fun x : api_Item => x.Name) := Fld.of ⟨_, Kd.str, 1, fun x : api_Item => x.Name⟩ (List.mem_of_getElem? (i := 1) rfl) 1 rfl (by kernel_rfl) (by decide)
theorem fl_64_0 : Fld Try.prog 64 0 k_api_Item Kd.flt (fun x : api_Item => x.Score) := Fld.of ⟨_, Kd.flt, 0, fun x : api_Item => x.Score⟩ (List.mem_of_getElem? (i := 0) rfl) 0 rfl (by kernel_rfl) (by decide)
theorem ty_35 : Ty Try.prog 35 Kd.flt := ⟨by kernel_rfl, by kernel_rfl⟩
theorem en_42 : Enters Try.prog 42 := by
  unfold Enters
  kernel_rfl
theorem fl_38_0 : Fld Try.prog 38 0 k_api_Record (Kd.int .i64) (fun x : api_Record => x.Kind) := Fld.of ⟨_, (Kd.int .i64), 0, fun x : api_Record => x.Kind⟩ (List.mem_of_getElem? (i := 0) rfl) 0 rfl (by kernel_rfl) (by decide)
theorem fl_38_1 : Fld Try.prog 38 1 k_api_Record (Kd.int .i64) (fun x : api_Record => x.Num) := Fld.of ⟨_, (Kd.int .i64), 1, fun x : api_Record => x.Num⟩ (List.mem_of_getElem? (i := 1) rfl) 1 rfl (by kernel_rfl) (by decide)
theorem ty_2 : Ty Try.prog 2 (Kd.int .i64) := ⟨by kernel_rfl, by kernel_rfl⟩
theorem fl_38_2 : Fld Try.prog 38 2 k_api_Record (Kd.int .i64) (fun x : api_Record => x.Low) := Fld.of ⟨_, (Kd.int .i64), 2, fun x : api_Record => x.Low⟩ (List.mem_of_getElem? (i := 2) rfl) 2 rfl (by kernel_rfl) (by decide)
theorem fl_38_3 : Fld Try.prog 38 3 k_api_Record (Kd.int .i64) (fun x : api_Record => x.High) := Fld.of ⟨_, (Kd.int .i64), 3, fun x : api_Record => x.High⟩ (List.mem_of_getElem? (i := 3) rfl) 3 rfl (by kernel_rfl) (by decide)
theorem fl_38_4 : Fld Try.prog 38 4 k_api_Record Kd.flt (fun x : api_Record => x.Real) := Fld.of ⟨_, Kd.flt, 4, fun x : api_Record => x.Real⟩ (List.mem_of_getElem? (i := 4) rfl) 4 rfl (by kernel_rfl) (by decide)
theorem fl_38_5 : Fld Try.prog 38 5 k_api_Record (Kd.int .i64) (fun x : api_Record => x.Cap) := Fld.of ⟨_, (Kd.int .i64), 5, fun x : api_Record => x.Cap⟩ (List.mem_of_getElem? (i := 5) rfl) 5 rfl (by kernel_rfl) (by decide)
theorem fl_38_6 : Fld Try.prog 38 6 k_api_Record Kd.str (fun x : api_Record => x.Text) := Fld.of ⟨_, Kd.str, 6, fun x : api_Record => x.Text⟩ (List.mem_of_getElem? (i := 6) rfl) 6 rfl (by kernel_rfl) (by decide)
theorem en_44 : Enters Try.prog 44 := by
  unfold Enters
  kernel_rfl
theorem en_43 : Enters Try.prog 43 := by
  unfold Enters
  kernel_rfl
theorem en_17 : Enters Try.prog 17 := by
  unfold Enters
  kernel_rfl
theorem en_29 : Enters Try.prog 29 := by
  unfold Enters
  kernel_rfl
theorem bd_89_0 {N d : Nat} {o : Oper} {uses : Slots} {x0 : Operand} {v0 : Bool} (hop : o.op = .build 89 #[(0, x0)]) (hd : o.dst = some d) (h0 : Opd uses x0 (Kd.bool.pd v0)) : OB Try.prog N o uses [(d, k_rec_shape.pd { text := v0, num := false, bounds := false, real := false, list := false })] [] := by
  refine ob_build hop hd fun a g hh => ?_
  obtain ⟨c0, k0, e0⟩ := h0 a g hh
  obtain rfl := k0
  refine ⟨.agg #[.bool v0, .bool false, .bool false, .bool false, .bool false], ?_, [.bool v0, .bool false, .bool false, .bool false, .bool false], ⟨rfl, (List.forall_mem_cons.2 ⟨rfl, (List.forall_mem_cons.2 ⟨(rfl), (List.forall_mem_cons.2 ⟨(rfl), (List.forall_mem_cons.2 ⟨(rfl), (List.forall_mem_cons.2 ⟨(rfl), (fun _ h => by cases h)⟩)⟩)⟩)⟩)⟩)⟩, rfl⟩
  simp only [List.map_toArray, List.map_cons, List.map_nil, e0]
  exact run_build Try.underlying89 (zero := .agg #[.bool false, .bool false, .bool false, .bool false, .bool false]) (by kernel_rfl) (places := [(0, 1), (1, 1), (2, 1), (3, 1), (4, 1)]) (by kernel_rfl) (by kernel_rfl) g.w
theorem ty_89 : Ty Try.prog 89 k_rec_shape := ⟨by kernel_rfl, by kernel_rfl⟩
theorem bd_89_1 {N d : Nat} {o : Oper} {uses : Slots} {x1 : Operand} {v1 : Bool} (hop : o.op = .build 89 #[(1, x1)]) (hd : o.dst = some d) (h1 : Opd uses x1 (Kd.bool.pd v1)) : OB Try.prog N o uses [(d, k_rec_shape.pd { text := false, num := v1, bounds := false, real := false, list := false })] [] := by
  refine ob_build hop hd fun a g hh => ?_
  obtain ⟨c1, k1, e1⟩ := h1 a g hh
  obtain rfl := k1
  refine ⟨.agg #[.bool false, .bool v1, .bool false, .bool false, .bool false], ?_, [.bool false, .bool v1, .bool false, .bool false, .bool false], ⟨rfl, (List.forall_mem_cons.2 ⟨(rfl), (List.forall_mem_cons.2 ⟨rfl, (List.forall_mem_cons.2 ⟨(rfl), (List.forall_mem_cons.2 ⟨(rfl), (List.forall_mem_cons.2 ⟨(rfl), (fun _ h => by cases h)⟩)⟩)⟩)⟩)⟩)⟩, rfl⟩
  simp only [List.map_toArray, List.map_cons, List.map_nil, e1]
  exact run_build Try.underlying89 (zero := .agg #[.bool false, .bool false, .bool false, .bool false, .bool false]) (by kernel_rfl) (places := [(0, 1), (1, 1), (2, 1), (3, 1), (4, 1)]) (by kernel_rfl) (by kernel_rfl) g.w
theorem bd_89_1_2 {N d : Nat} {o : Oper} {uses : Slots} {x1 : Operand} {x2 : Operand} {v1 : Bool} {v2 : Bool} (hop : o.op = .build 89 #[(1, x1), (2, x2)]) (hd : o.dst = some d) (h1 : Opd uses x1 (Kd.bool.pd v1)) (h2 : Opd uses x2 (Kd.bool.pd v2)) : OB Try.prog N o uses [(d, k_rec_shape.pd { text := false, num := v1, bounds := v2, real := false, list := false })] [] := by
  refine ob_build hop hd fun a g hh => ?_
  obtain ⟨c1, k1, e1⟩ := h1 a g hh
  obtain rfl := k1
  obtain ⟨c2, k2, e2⟩ := h2 a g hh
  obtain rfl := k2
  refine ⟨.agg #[.bool false, .bool v1, .bool v2, .bool false, .bool false], ?_, [.bool false, .bool v1, .bool v2, .bool false, .bool false], ⟨rfl, (List.forall_mem_cons.2 ⟨(rfl), (List.forall_mem_cons.2 ⟨rfl, (List.forall_mem_cons.2 ⟨rfl, (List.forall_mem_cons.2 ⟨(rfl), (List.forall_mem_cons.2 ⟨(rfl), (fun _ h => by cases h)⟩)⟩)⟩)⟩)⟩)⟩, rfl⟩
  simp only [List.map_toArray, List.map_cons, List.map_nil, e1, e2]
  exact run_build Try.underlying89 (zero := .agg #[.bool false, .bool false, .bool false, .bool false, .bool false]) (by kernel_rfl) (places := [(0, 1), (1, 1), (2, 1), (3, 1), (4, 1)]) (by kernel_rfl) (by kernel_rfl) g.w
theorem bd_89_3 {N d : Nat} {o : Oper} {uses : Slots} {x3 : Operand} {v3 : Bool} (hop : o.op = .build 89 #[(3, x3)]) (hd : o.dst = some d) (h3 : Opd uses x3 (Kd.bool.pd v3)) : OB Try.prog N o uses [(d, k_rec_shape.pd { text := false, num := false, bounds := false, real := v3, list := false })] [] := by
  refine ob_build hop hd fun a g hh => ?_
  obtain ⟨c3, k3, e3⟩ := h3 a g hh
  obtain rfl := k3
  refine ⟨.agg #[.bool false, .bool false, .bool false, .bool v3, .bool false], ?_, [.bool false, .bool false, .bool false, .bool v3, .bool false], ⟨rfl, (List.forall_mem_cons.2 ⟨(rfl), (List.forall_mem_cons.2 ⟨(rfl), (List.forall_mem_cons.2 ⟨(rfl), (List.forall_mem_cons.2 ⟨rfl, (List.forall_mem_cons.2 ⟨(rfl), (fun _ h => by cases h)⟩)⟩)⟩)⟩)⟩)⟩, rfl⟩
  simp only [List.map_toArray, List.map_cons, List.map_nil, e3]
  exact run_build Try.underlying89 (zero := .agg #[.bool false, .bool false, .bool false, .bool false, .bool false]) (by kernel_rfl) (places := [(0, 1), (1, 1), (2, 1), (3, 1), (4, 1)]) (by kernel_rfl) (by kernel_rfl) g.w
theorem bd_89_4 {N d : Nat} {o : Oper} {uses : Slots} {x4 : Operand} {v4 : Bool} (hop : o.op = .build 89 #[(4, x4)]) (hd : o.dst = some d) (h4 : Opd uses x4 (Kd.bool.pd v4)) : OB Try.prog N o uses [(d, k_rec_shape.pd { text := false, num := false, bounds := false, real := false, list := v4 })] [] := by
  refine ob_build hop hd fun a g hh => ?_
  obtain ⟨c4, k4, e4⟩ := h4 a g hh
  obtain rfl := k4
  refine ⟨.agg #[.bool false, .bool false, .bool false, .bool false, .bool v4], ?_, [.bool false, .bool false, .bool false, .bool false, .bool v4], ⟨rfl, (List.forall_mem_cons.2 ⟨(rfl), (List.forall_mem_cons.2 ⟨(rfl), (List.forall_mem_cons.2 ⟨(rfl), (List.forall_mem_cons.2 ⟨(rfl), (List.forall_mem_cons.2 ⟨rfl, (fun _ h => by cases h)⟩)⟩)⟩)⟩)⟩)⟩, rfl⟩
  simp only [List.map_toArray, List.map_cons, List.map_nil, e4]
  exact run_build Try.underlying89 (zero := .agg #[.bool false, .bool false, .bool false, .bool false, .bool false]) (by kernel_rfl) (places := [(0, 1), (1, 1), (2, 1), (3, 1), (4, 1)]) (by kernel_rfl) (by kernel_rfl) g.w
theorem bd_89_ {N d : Nat} {o : Oper} {uses : Slots}   (hop : o.op = .build 89 #[]) (hd : o.dst = some d)  : OB Try.prog N o uses [(d, k_rec_shape.pd { text := false, num := false, bounds := false, real := false, list := false })] [] := by
  refine ob_build hop hd fun a g hh => ?_

  refine ⟨.agg #[.bool false, .bool false, .bool false, .bool false, .bool false], ?_, [.bool false, .bool false, .bool false, .bool false, .bool false], ⟨rfl, (List.forall_mem_cons.2 ⟨(rfl), (List.forall_mem_cons.2 ⟨(rfl), (List.forall_mem_cons.2 ⟨(rfl), (List.forall_mem_cons.2 ⟨(rfl), (List.forall_mem_cons.2 ⟨(rfl), (fun _ h => by cases h)⟩)⟩)⟩)⟩)⟩)⟩, rfl⟩
  simp only [List.map_toArray, List.map_cons, List.map_nil, List.map_nil]
  exact run_build Try.underlying89 (zero := .agg #[.bool false, .bool false, .bool false, .bool false, .bool false]) (by kernel_rfl) (places := [(0, 1), (1, 1), (2, 1), (3, 1), (4, 1)]) (by kernel_rfl) (by kernel_rfl) g.w
theorem fl_89_0 : Fld Try.prog 89 0 k_rec_shape Kd.bool (fun x : rec_shape => x.text) := Fld.of ⟨_, Kd.bool, 0, fun x : rec_shape => x.text⟩ (List.mem_of_getElem? (i := 0) rfl) 0 rfl (by kernel_rfl) (by decide)
theorem ty_4 : Ty Try.prog 4 Kd.bool := ⟨by kernel_rfl, by kernel_rfl⟩
theorem fl_89_1 : Fld Try.prog 89 1 k_rec_shape Kd.bool (fun x : rec_shape => x.num) := Fld.of ⟨_, Kd.bool, 1, fun x : rec_shape => x.num⟩ (List.mem_of_getElem? (i := 1) rfl) 1 rfl (by kernel_rfl) (by decide)
theorem fl_89_2 : Fld Try.prog 89 2 k_rec_shape Kd.bool (fun x : rec_shape => x.bounds) := Fld.of ⟨_, Kd.bool, 2, fun x : rec_shape => x.bounds⟩ (List.mem_of_getElem? (i := 2) rfl) 2 rfl (by kernel_rfl) (by decide)
theorem fl_89_3 : Fld Try.prog 89 3 k_rec_shape Kd.bool (fun x : rec_shape => x.real) := Fld.of ⟨_, Kd.bool, 3, fun x : rec_shape => x.real⟩ (List.mem_of_getElem? (i := 3) rfl) 3 rfl (by kernel_rfl) (by decide)
theorem fl_89_4 : Fld Try.prog 89 4 k_rec_shape Kd.bool (fun x : rec_shape => x.list) := Fld.of ⟨_, Kd.bool, 4, fun x : rec_shape => x.list⟩ (List.mem_of_getElem? (i := 4) rfl) 4 rfl (by kernel_rfl) (by decide)
theorem en_69 : Enters Try.prog 69 := by
  unfold Enters
  kernel_rfl
theorem en_49 : Enters Try.prog 49 := by
  unfold Enters
  kernel_rfl
theorem en_62 : Enters Try.prog 62 := by
  unfold Enters
  kernel_rfl
theorem en_47 : Enters Try.prog 47 := by
  unfold Enters
  kernel_rfl
theorem en_48 : Enters Try.prog 48 := by
  unfold Enters
  kernel_rfl
theorem en_50 : Enters Try.prog 50 := by
  unfold Enters
  kernel_rfl
theorem bd_75_0_1_2_3_4 {N d : Nat} {o : Oper} {uses : Slots} {x0 : Operand} {x1 : Operand} {x2 : Operand} {x3 : Operand} {x4 : Operand} {v0 : ByteArray} {v1 : api_Record} {v2 : shelf_nodeT} {v3 : shelf_nodeT} {v4 : Int} (hop : o.op = .build 75 #[(0, x0), (1, x1), (2, x2), (3, x3), (4, x4)]) (hd : o.dst = some d) (h0 : Opd uses x0 (Kd.str.pd v0)) (h1 : Opd uses x1 (k_api_Record.pd v1)) (h2 : Opd uses x2 (k_shelf_nodeT.pd v2)) (h3 : Opd uses x3 (k_shelf_nodeT.pd v3)) (h4 : Opd uses x4 ((Kd.int .i64).pd v4)) : OB Try.prog N o uses [(d, k_shelf_node.pd { key := v0, rec_ := v1, left := v2, right := v3, size := v4 })] [] := by
  refine ob_build hop hd fun a g hh => ?_
  obtain ⟨c0, k0, e0⟩ := h0 a g hh
  obtain rfl := k0
  obtain ⟨c1, k1, e1⟩ := h1 a g hh
  obtain ⟨u1_0, u1_1, u1_2, u1_3, u1_4, u1_5, u1_6, u1_7, rfl⟩ := len_8 (k_api_Record.len k1)
  obtain ⟨c2, k2, e2⟩ := h2 a g hh
  obtain ⟨p2, rfl, l2⟩ := k2
  obtain ⟨q2, rfl, _⟩ := shelf_nodeT.ptr l2
  obtain ⟨c3, k3, e3⟩ := h3 a g hh
  obtain ⟨p3, rfl, l3⟩ := k3
  obtain ⟨q3, rfl, _⟩ := shelf_nodeT.ptr l3
  obtain ⟨c4, k4, e4⟩ := h4 a g hh
  obtain rfl := k4
  refine ⟨.agg #[.string v0, u1_0, u1_1, u1_2, u1_3, u1_4, u1_5, u1_6, u1_7, .pointer q2, .pointer q3, .int .i64 v4], ?_, [.string v0, u1_0, u1_1, u1_2, u1_3, u1_4, u1_5, u1_6, u1_7, .pointer q2, .pointer q3, .int .i64 v4], ⟨rfl, (List.forall_mem_cons.2 ⟨rfl, (List.forall_mem_cons.2 ⟨k1, (List.forall_mem_cons.2 ⟨⟨.pointer q2, rfl, l2⟩, (List.forall_mem_cons.2 ⟨⟨.pointer q3, rfl, l3⟩, (List.forall_mem_cons.2 ⟨rfl, (fun _ h => by cases h)⟩)⟩)⟩)⟩)⟩)⟩, rfl⟩
  simp only [List.map_toArray, List.map_cons, List.map_nil, e0, e1, e2, e3, e4]
  exact run_build Try.underlying75 (zero := .agg #[.string ByteArray.empty, .int .i64 0, .int .i64 0, .int .i64 0, .int .i64 0, .float .f64 0, .int .i64 0, .string ByteArray.empty, .slice none 0 0, .pointer none, .pointer none, .int .i64 0]) (by kernel_rfl) (places := [(0, 1), (1, 8), (9, 1), (10, 1), (11, 1)]) (by kernel_rfl) (by kernel_rfl) g.w
theorem en_63 : Enters Try.prog 63 := by
  unfold Enters
  kernel_rfl
theorem en_51 : Enters Try.prog 51 := by
  unfold Enters
  kernel_rfl
theorem en_36 : Enters Try.prog 36 := by
  unfold Enters
  kernel_rfl
theorem en_52 : Enters Try.prog 52 := by
  unfold Enters
  kernel_rfl
theorem en_35 : Enters Try.prog 35 := by
  unfold Enters
  kernel_rfl
theorem en_22 : Enters Try.prog 22 := by
  unfold Enters
  kernel_rfl
theorem fl_28_1 : Fld Try.prog 28 1 k_shelf_Shelf (Kd.int .i64) (fun x : shelf_Shelf => x.room) := Fld.of ⟨_, (Kd.int .i64), 1, fun x : shelf_Shelf => x.room⟩ (List.mem_of_getElem? (i := 1) rfl) 1 rfl (by kernel_rfl) (by decide)
theorem bd_28_0_1 {N d : Nat} {o : Oper} {uses : Slots} {x0 : Operand} {x1 : Operand} {v0 : shelf_nodeT} {v1 : Int} (hop : o.op = .build 28 #[(0, x0), (1, x1)]) (hd : o.dst = some d) (h0 : Opd uses x0 (k_shelf_nodeT.pd v0)) (h1 : Opd uses x1 ((Kd.int .i64).pd v1)) : OB Try.prog N o uses [(d, k_shelf_Shelf.pd { top := v0, room := v1 })] [] := by
  refine ob_build hop hd fun a g hh => ?_
  obtain ⟨c0, k0, e0⟩ := h0 a g hh
  obtain ⟨p0, rfl, l0⟩ := k0
  obtain ⟨q0, rfl, _⟩ := shelf_nodeT.ptr l0
  obtain ⟨c1, k1, e1⟩ := h1 a g hh
  obtain rfl := k1
  refine ⟨.agg #[.pointer q0, .int .i64 v1], ?_, [.pointer q0, .int .i64 v1], ⟨rfl, (List.forall_mem_cons.2 ⟨⟨.pointer q0, rfl, l0⟩, (List.forall_mem_cons.2 ⟨rfl, (fun _ h => by cases h)⟩)⟩)⟩, rfl⟩
  simp only [List.map_toArray, List.map_cons, List.map_nil, e0, e1]
  exact run_build Try.underlying28 (zero := .agg #[.pointer none, .int .i64 0]) (by kernel_rfl) (places := [(0, 1), (1, 1)]) (by kernel_rfl) (by kernel_rfl) g.w
theorem en_10 : Enters Try.prog 10 := by
  unfold Enters
  kernel_rfl
theorem bd_38_0_1 {N d : Nat} {o : Oper} {uses : Slots} {x0 : Operand} {x1 : Operand} {v0 : Int} {v1 : Int} (hop : o.op = .build 38 #[(0, x0), (1, x1)]) (hd : o.dst = some d) (h0 : Opd uses x0 ((Kd.int .i64).pd v0)) (h1 : Opd uses x1 ((Kd.int .i64).pd v1)) : OB Try.prog N o uses [(d, k_api_Record.pd { Kind := v0, Num := v1, Low := (0 : Int), High := (0 : Int), Real := (0 : Nat), Cap := (0 : Int), Text := ByteArray.empty, List := ([] : List api_Item) })] [] := by
  refine ob_build hop hd fun a g hh => ?_
  obtain ⟨c0, k0, e0⟩ := h0 a g hh
  obtain rfl := k0
  obtain ⟨c1, k1, e1⟩ := h1 a g hh
  obtain rfl := k1
  refine ⟨.agg #[.int .i64 v0, .int .i64 v1, .int .i64 0, .int .i64 0, .float .f64 0, .int .i64 0, .string ByteArray.empty, .slice none 0 0], ?_, [.int .i64 v0, .int .i64 v1, .int .i64 0, .int .i64 0, .float .f64 0, .int .i64 0, .string ByteArray.empty, .slice none 0 0], ⟨rfl, (List.forall_mem_cons.2 ⟨rfl, (List.forall_mem_cons.2 ⟨rfl, (List.forall_mem_cons.2 ⟨(rfl), (List.forall_mem_cons.2 ⟨(rfl), (List.forall_mem_cons.2 ⟨(rfl), (List.forall_mem_cons.2 ⟨(rfl), (List.forall_mem_cons.2 ⟨(rfl), (List.forall_mem_cons.2 ⟨(⟨none, 0, rfl, Nat.le_refl _, Nat.zero_le _, .inl rfl⟩), (fun _ h => by cases h)⟩)⟩)⟩)⟩)⟩)⟩)⟩)⟩)⟩, rfl⟩
  simp only [List.map_toArray, List.map_cons, List.map_nil, e0, e1]
  exact run_build Try.underlying38 (zero := .agg #[.int .i64 0, .int .i64 0, .int .i64 0, .int .i64 0, .float .f64 0, .int .i64 0, .string ByteArray.empty, .slice none 0 0]) (by kernel_rfl) (places := [(0, 1), (1, 1), (2, 1), (3, 1), (4, 1), (5, 1), (6, 1), (7, 1)]) (by kernel_rfl) (by kernel_rfl) g.w
theorem en_20 : Enters Try.prog 20 := by
  unfold Enters
  kernel_rfl
theorem en_12 : Enters Try.prog 12 := by
  unfold Enters
  kernel_rfl
theorem en_18 : Enters Try.prog 18 := by
  unfold Enters
  kernel_rfl
theorem sz_40 : (Try.prog.info? 40).map (·.size) = some k_moietylaw09_Op.sz := by kernel_rfl
theorem ty_40 : Ty Try.prog 40 k_moietylaw09_Op := ⟨by kernel_rfl, by kernel_rfl⟩
theorem fl_40_1 : Fld Try.prog 40 1 k_moietylaw09_Op Kd.str (fun x : moietylaw09_Op => x.Key) := Fld.of ⟨_, Kd.str, 1, fun x : moietylaw09_Op => x.Key⟩ (List.mem_of_getElem? (i := 1) rfl) 1 rfl (by kernel_rfl) (by decide)
theorem fl_40_2 : Fld Try.prog 40 2 k_moietylaw09_Op k_api_Record (fun x : moietylaw09_Op => x.Rec) := Fld.of ⟨_, k_api_Record, 2, fun x : moietylaw09_Op => x.Rec⟩ (List.mem_of_getElem? (i := 2) rfl) 2 rfl (by kernel_rfl) (by decide)
theorem en_30 : Enters Try.prog 30 := by
  unfold Enters
  kernel_rfl
theorem en_38 : Enters Try.prog 38 := by
  unfold Enters
  kernel_rfl
theorem en_54 : Enters Try.prog 54 := by
  unfold Enters
  kernel_rfl
theorem fl_34_0 : Fld Try.prog 34 0 k_moietyref09_Shelf k_moietyref09_Pair.sl (fun x : moietyref09_Shelf => x.L) := Fld.of ⟨_, k_moietyref09_Pair.sl, 0, fun x : moietyref09_Shelf => x.L⟩ (List.mem_of_getElem? (i := 0) rfl) 0 rfl (by kernel_rfl) (by decide)
theorem ty_32 : Ty Try.prog 32 k_moietyref09_Pair.sl := ⟨by kernel_rfl, by kernel_rfl⟩
theorem sz_54 : (Try.prog.info? 54).map (·.size) = some k_moietyref09_Pair.sz := by kernel_rfl
theorem fl_54_0 : Fld Try.prog 54 0 k_moietyref09_Pair Kd.str (fun x : moietyref09_Pair => x.Key) := Fld.of ⟨_, Kd.str, 0, fun x : moietyref09_Pair => x.Key⟩ (List.mem_of_getElem? (i := 0) rfl) 0 rfl (by kernel_rfl) (by decide)
theorem ty_34 : Ty Try.prog 34 k_moietyref09_Shelf := ⟨by kernel_rfl, by kernel_rfl⟩
theorem en_15 : Enters Try.prog 15 := by
  unfold Enters
  kernel_rfl
theorem te_32 : TE Try.prog 32 54 k_moietyref09_Pair 104 := TE.of Try.underlying32 (by kernel_rfl) (by decide) (by decide)
theorem fl_34_1 : Fld Try.prog 34 1 k_moietyref09_Shelf (Kd.int .i64) (fun x : moietyref09_Shelf => x.Room) := Fld.of ⟨_, (Kd.int .i64), 1, fun x : moietyref09_Shelf => x.Room⟩ (List.mem_of_getElem? (i := 1) rfl) 1 rfl (by kernel_rfl) (by decide)
theorem bd_34_0_1 {N d : Nat} {o : Oper} {uses : Slots} {x0 : Operand} {x1 : Operand} {v0 : List moietyref09_Pair} {v1 : Int} (hop : o.op = .build 34 #[(0, x0), (1, x1)]) (hd : o.dst = some d) (h0 : Opd uses x0 (k_moietyref09_Pair.sl.pd v0)) (h1 : Opd uses x1 ((Kd.int .i64).pd v1)) : OB Try.prog N o uses [(d, k_moietyref09_Shelf.pd { L := v0, Room := v1 })] [] := by
  refine ob_build hop hd fun a g hh => ?_
  obtain ⟨c0, k0, e0⟩ := h0 a g hh
  obtain ⟨A0, n0, rfl, l0⟩ := k0
  obtain ⟨c1, k1, e1⟩ := h1 a g hh
  obtain rfl := k1
  refine ⟨.agg #[.slice A0 v0.length n0, .int .i64 v1], ?_, [.slice A0 v0.length n0, .int .i64 v1], ⟨rfl, (List.forall_mem_cons.2 ⟨⟨A0, n0, rfl, l0⟩, (List.forall_mem_cons.2 ⟨rfl, (fun _ h => by cases h)⟩)⟩)⟩, rfl⟩
  simp only [List.map_toArray, List.map_cons, List.map_nil, e0, e1]
  exact run_build Try.underlying34 (zero := .agg #[.slice none 0 0, .int .i64 0]) (by kernel_rfl) (places := [(0, 1), (1, 1)]) (by kernel_rfl) (by kernel_rfl) g.w
theorem en_64 : Enters Try.prog 64 := by
  unfold Enters
  kernel_rfl
theorem en_65 : Enters Try.prog 65 := by
  unfold Enters
  kernel_rfl
theorem en_53 : Enters Try.prog 53 := by
  unfold Enters
  kernel_rfl
theorem en_37 : Enters Try.prog 37 := by
  unfold Enters
  kernel_rfl
theorem en_66 : Enters Try.prog 66 := by
  unfold Enters
  kernel_rfl
theorem sz_9 : (Try.prog.info? 9).map (·.size) = some Kd.str.sz := by kernel_rfl
theorem en_58 : Enters Try.prog 58 := by
  unfold Enters
  kernel_rfl
theorem en_67 : Enters Try.prog 67 := by
  unfold Enters
  kernel_rfl
theorem en_57 : Enters Try.prog 57 := by
  unfold Enters
  kernel_rfl
theorem en_56 : Enters Try.prog 56 := by
  unfold Enters
  kernel_rfl
theorem en_59 : Enters Try.prog 59 := by
  unfold Enters
  kernel_rfl
theorem en_45 : Enters Try.prog 45 := by
  unfold Enters
  kernel_rfl
theorem bd_54_0_1 {N d : Nat} {o : Oper} {uses : Slots} {x0 : Operand} {x1 : Operand} {v0 : ByteArray} {v1 : api_Record} (hop : o.op = .build 54 #[(0, x0), (1, x1)]) (hd : o.dst = some d) (h0 : Opd uses x0 (Kd.str.pd v0)) (h1 : Opd uses x1 (k_api_Record.pd v1)) : OB Try.prog N o uses [(d, k_moietyref09_Pair.pd { Key := v0, Rec := v1 })] [] := by
  refine ob_build hop hd fun a g hh => ?_
  obtain ⟨c0, k0, e0⟩ := h0 a g hh
  obtain rfl := k0
  obtain ⟨c1, k1, e1⟩ := h1 a g hh
  obtain ⟨u1_0, u1_1, u1_2, u1_3, u1_4, u1_5, u1_6, u1_7, rfl⟩ := len_8 (k_api_Record.len k1)
  refine ⟨.agg #[.string v0, u1_0, u1_1, u1_2, u1_3, u1_4, u1_5, u1_6, u1_7], ?_, [.string v0, u1_0, u1_1, u1_2, u1_3, u1_4, u1_5, u1_6, u1_7], ⟨rfl, (List.forall_mem_cons.2 ⟨rfl, (List.forall_mem_cons.2 ⟨k1, (fun _ h => by cases h)⟩)⟩)⟩, rfl⟩
  simp only [List.map_toArray, List.map_cons, List.map_nil, e0, e1]
  exact run_build Try.underlying54 (zero := .agg #[.string ByteArray.empty, .int .i64 0, .int .i64 0, .int .i64 0, .int .i64 0, .float .f64 0, .int .i64 0, .string ByteArray.empty, .slice none 0 0]) (by kernel_rfl) (places := [(0, 1), (1, 8)]) (by kernel_rfl) (by kernel_rfl) g.w
theorem fl_40_0 : Fld Try.prog 40 0 k_moietylaw09_Op Kd.bool (fun x : moietylaw09_Op => x.Cut) := Fld.of ⟨_, Kd.bool, 0, fun x : moietylaw09_Op => x.Cut⟩ (List.mem_of_getElem? (i := 0) rfl) 0 rfl (by kernel_rfl) (by decide)
theorem en_26 : Enters Try.prog 26 := by
  unfold Enters
  kernel_rfl
theorem en_31 : Enters Try.prog 31 := by
  unfold Enters
  kernel_rfl
theorem en_32 : Enters Try.prog 32 := by
  unfold Enters
  kernel_rfl
theorem en_8 : Enters Try.prog 8 := by
  unfold Enters
  kernel_rfl
theorem en_9 : Enters Try.prog 9 := by
  unfold Enters
  kernel_rfl
theorem bd_34_1 {N d : Nat} {o : Oper} {uses : Slots} {x1 : Operand} {v1 : Int} (hop : o.op = .build 34 #[(1, x1)]) (hd : o.dst = some d) (h1 : Opd uses x1 ((Kd.int .i64).pd v1)) : OB Try.prog N o uses [(d, k_moietyref09_Shelf.pd { L := ([] : List moietyref09_Pair), Room := v1 })] [] := by
  refine ob_build hop hd fun a g hh => ?_
  obtain ⟨c1, k1, e1⟩ := h1 a g hh
  obtain rfl := k1
  refine ⟨.agg #[.slice none 0 0, .int .i64 v1], ?_, [.slice none 0 0, .int .i64 v1], ⟨rfl, (List.forall_mem_cons.2 ⟨(⟨none, 0, rfl, Nat.le_refl _, Nat.zero_le _, .inl rfl⟩), (List.forall_mem_cons.2 ⟨rfl, (fun _ h => by cases h)⟩)⟩)⟩, rfl⟩
  simp only [List.map_toArray, List.map_cons, List.map_nil, e1]
  exact run_build Try.underlying34 (zero := .agg #[.slice none 0 0, .int .i64 0]) (by kernel_rfl) (places := [(0, 1), (1, 1)]) (by kernel_rfl) (by kernel_rfl) g.w
theorem en_11 : Enters Try.prog 11 := by
  unfold Enters
  kernel_rfl
theorem en_13 : Enters Try.prog 13 := by
  unfold Enters
  kernel_rfl
theorem fl_54_1 : Fld Try.prog 54 1 k_moietyref09_Pair k_api_Record (fun x : moietyref09_Pair => x.Rec) := Fld.of ⟨_, k_api_Record, 1, fun x : moietyref09_Pair => x.Rec⟩ (List.mem_of_getElem? (i := 1) rfl) 1 rfl (by kernel_rfl) (by decide)
theorem en_25 : Enters Try.prog 25 := by
  unfold Enters
  kernel_rfl
theorem en_19 : Enters Try.prog 19 := by
  unfold Enters
  kernel_rfl
theorem en_21 : Enters Try.prog 21 := by
  unfold Enters
  kernel_rfl
theorem ty_54 : Ty Try.prog 54 k_moietyref09_Pair := ⟨by kernel_rfl, by kernel_rfl⟩
theorem en_23 : Enters Try.prog 23 := by
  unfold Enters
  kernel_rfl
theorem en_24 : Enters Try.prog 24 := by
  unfold Enters
  kernel_rfl
theorem en_39 : Enters Try.prog 39 := by
  unfold Enters
  kernel_rfl
theorem en_41 : Enters Try.prog 41 := by
  unfold Enters
  kernel_rfl
theorem en_27 : Enters Try.prog 27 := by
  unfold Enters
  kernel_rfl
theorem en_28 : Enters Try.prog 28 := by
  unfold Enters
  kernel_rfl
end Go.CL

set_option linter.unusedVariables false
set_option linter.unusedSimpArgs false
set_option maxRecDepth 100000
namespace Go.CL
open Go Go.RowKit Go.Proofs
theorem shelf_New_ok (a0 : Int) {r : shelf_Shelf × Int} (h : shelf_New a0 = some r) : FnOk Try.prog 10 [(pInt .i64 a0)] (pTup [(k_shelf_Shelf.pd r.1), (pInt .i64 r.2)]) := by
  have H0 := h
  unfold shelf_New at H0
  clear h
  refine fn_ok (N := 13) Try.func10 rfl rfl (Nat.le_of_ble_eq_true rfl) rfl rfl (fun a g0 hst hb => ?_)
  refine r_s (L := [(0, _)]) (T := [⟨[], [(2, (pBox k_shelf_Shelf 2 (default : shelf_Shelf)))], [3], [], [2]⟩, ⟨[], _, [], [], [3]⟩]) (F := [.old 0, .op 0 0]) hst hb follows
    (o_p rfl (ob_alloc (zs := [.pointer none, .int .i64 0]) (by kernel_rfl) (fun g => zk_shelf_Shelf g) rfl rfl) <|
     o_p rfl (ob_assign rfl rfl c_i) <|
     o_n) (by kernel_rfl) (fun a g hst hb => ?_)
  refine wp_seq ?_
  refine r_s (L := [(0, _), (2, _)]) (T := [⟨[.old 0], _, [], [], [4]⟩, ⟨[.op 0 0], _, [], [0], [5]⟩, ⟨[.op 1 0], _, [], [0, 1], [6]⟩, ⟨[.op 2 0, .old 0], _, [], [0, 1, 2], [7]⟩, ⟨[.op 2 0, .op 3 0], _, [], List.range 4, [8]⟩, ⟨[.op 2 0, .op 4 0], _, [], List.range 5, [9]⟩]) (F := [.old 0, .old 1, .op 5 0]) hst hb follows
    (o_p rfl (ob_move rfl rfl u_0) <|
     o_p rfl (ob_lt rfl rfl u_0 c_i) <|
     o_p rfl (ob_move rfl rfl u_0) <|
     o_g (g_f rfl rfl rfl (fun hG => ob_move rfl rfl u_0)) <|
     o_g (g_f rfl rfl rfl (fun hG => ob_gt rfl rfl (Opd.gd hG u_0) c_i)) <|
     o_p rfl (ob_por rfl rfl u_0 (fun hz => (Opd.gd (bNF hz) u_1))) <|
     o_n) (by kernel_rfl) (fun a g hst hb => ?_)
  refine wp_cond_split (hst.bool 2 rfl) (fun hc1 => ?_) (fun hc1 => ?_)
  · replace H0 := ite_t hc1 H0
    refine r_s (L := [(2, _)]) (T := [⟨[], _, [], [], [10]⟩, ⟨[.op 0 0, .old 0], _, [3], [0], [2]⟩, ⟨[], _, [], [0, 1], [3]⟩]) (F := [.op 1 0, .op 2 0]) (hst.pick [1] rfl) hb follows
      (o_p rfl (bd_28_ rfl rfl ) <|
       o_p rfl (ob_store ty_28 rfl rfl u_1 u_0) <|
       o_p rfl (ob_assign rfl rfl c_i) <|
       o_n) (by kernel_rfl) (fun a g hst hb => ?_)
    refine wp_ret ?_
    refine then_r ?_
    obtain rfl := Option.some.inj H0
    obtain ⟨u0, hu0, hq0⟩ := res_box (P := Try.prog) ty_28 (hst.at 0 rfl)
    exact endR2 rfl hst hb hu0 (res_tmp (s := 3)) (pTup_2 hq0 (hst.at 1 rfl))
  · replace H0 := ite_f hc1 H0
    refine wp_skip ?_
    refine then_n ?_
    refine r_s (L := [(0, _), (2, _)]) (T := [⟨[.old 0], _, [], [], [11]⟩, ⟨[.op 0 0], _, [], [0], [12]⟩, ⟨[.op 1 0, .old 1], _, [3], [0, 1], [2]⟩, ⟨[], _, [], [0, 1, 2], [3]⟩]) (F := [.op 2 0, .op 3 0]) (hst.pick [0, 1] rfl) hb follows
      (o_p rfl (ob_move rfl rfl u_0) <|
       o_p rfl (bd_28_1 rfl rfl u_0) <|
       o_p rfl (ob_store ty_28 rfl rfl u_1 u_0) <|
       o_p rfl (ob_assign rfl rfl c_i) <|
       o_n) (by kernel_rfl) (fun a g hst hb => ?_)
    refine wp_ret ?_
    obtain rfl := Option.some.inj H0
    obtain ⟨u0, hu0, hq0⟩ := res_box (P := Try.prog) ty_28 (hst.at 0 rfl)
    exact endR2 rfl hst hb hu0 (res_tmp (s := 3)) (pTup_2 hq0 (hst.at 1 rfl))
end Go.CL

set_option linter.unusedVariables false
set_option linter.unusedSimpArgs false
set_option maxRecDepth 100000
namespace Go.CL
open Go Go.RowKit Go.Proofs
theorem shelf_node_count_ok (a0 : shelf_nodeT) {r : Int} (h : shelf_node_count a0 = some r) : FnOk Try.prog 33 [(k_shelf_nodeT.pd a0)] (pInt .i64 r) := by
  have H0 := h
  unfold shelf_node_count at H0
  clear h
  refine fn_ok (N := 9) Try.func33 rfl rfl (Nat.le_of_ble_eq_true rfl) rfl rfl (fun a g0 hst hb => ?_)
  refine r_s (L := [(0, _)]) (T := [⟨[], _, [], [], [2]⟩]) (F := [.old 0]) hst hb follows
    (o_p rfl (ob_assign rfl rfl c_i) <|
     o_n) (by kernel_rfl) (fun a g hst hb => ?_)
  refine wp_seq ?_
  refine r_s (L := [(0, _)]) (T := [⟨[.old 0], _, [], [], [3]⟩, ⟨[.op 0 0], _, [], [0], [4]⟩]) (F := [.old 0, .op 1 0]) hst hb follows
    (o_p rfl (ob_move rfl rfl u_0) <|
     o_p rfl (ob_peq Try.underlying26 rfl rfl u_0 (shelf_nodeT_isptr _)) <|
     o_n) (by kernel_rfl) (fun a g hst hb => ?_)
  refine wp_cond_split (hst.bool 1 rfl) (fun hc1 => ?_) (fun hc1 => ?_)
  · replace H0 := ite_t hc1 H0
    refine r_s (L := []) (T := [⟨[], _, [], [], [2]⟩]) (F := [.op 0 0]) (hst.pick [] rfl) hb follows
      (o_p rfl (ob_assign rfl rfl c_i) <|
       o_n) (by kernel_rfl) (fun a g hst hb => ?_)
    refine wp_ret ?_
    refine then_r ?_
    obtain rfl := Option.some.inj H0
    exact endR1 rfl hst hb (res_tmp (s := 2)) (hst.at 0 rfl)
  · replace H0 := ite_f hc1 H0
    refine wp_skip ?_
    refine then_n ?_
    obtain ⟨n2, h3, H0⟩ := of_bind H0
    refine r_s (L := [(0, _)]) (T := [⟨[.old 0], _, [], [], [5]⟩, ⟨[.op 0 0], _, [], [0], [6]⟩, ⟨[.op 1 0], _, [], [0, 1], [7]⟩, ⟨[.op 2 0], _, [], [0, 1, 2], [8]⟩, ⟨[.op 3 0], _, [], List.range 4, [2]⟩]) (F := [.op 4 0]) (hst.pick [0] rfl) hb follows
      (o_p rfl (ob_move rfl rfl u_0) <|
       o_p rfl (ob_nilCheck rfl rfl (Opd.imp u_0 (fun _ _ h => shelf_nodeT_node h3 h)) (fun _ _ ⟨_, _, _, e, _⟩ => ⟨_, e⟩)) <|
       o_p rfl (ob_fieldAddr fl_75_4 rfl rfl u_0) <|
       o_p rfl (ob_load ty_3 rfl rfl u_0) <|
       o_p rfl (ob_assign rfl rfl u_0) <|
       o_n) (by kernel_rfl) (fun a g hst hb => ?_)
    refine wp_ret ?_
    obtain rfl := Option.some.inj H0
    exact endR1 rfl hst hb (res_tmp (s := 2)) (hst.at 0 rfl)
end Go.CL

set_option linter.unusedVariables false
set_option linter.unusedSimpArgs false
set_option maxRecDepth 100000
namespace Go.CL
open Go Go.RowKit Go.Proofs
theorem shelf_Shelf_Rank_ok (a0 : shelf_Shelf) (a1 : ByteArray) {r : Int} (h : shelf_Shelf_Rank a0 a1 = some r) : FnOk Try.prog 14 [(k_shelf_Shelf.pd a0), (pStr a1)] (pInt .i64 r) := by
  have H0 := h
  unfold shelf_Shelf_Rank at H0
  clear h
  refine fn_ok (N := 34) Try.func14 rfl rfl (Nat.le_of_ble_eq_true rfl) rfl rfl (fun a g0 hst hb => ?_)
  refine r_s (L := [(0, _), (1, _)]) (T := [⟨[.old 0], _, [], [], [2]⟩, ⟨[], _, [], [], [4]⟩]) (F := [.old 1, .op 0 0]) hst hb follows
    (o_p rfl (ob_box1 rfl rfl u_0) <|
     o_p rfl (ob_assign rfl rfl c_i) <|
     o_n) (by kernel_rfl) (fun a g hst hb => ?_)
  refine r_s (L := [(1, _), (2, _)]) (T := [⟨[], _, [], [], [5]⟩]) (F := [.old 0, .old 1, .op 0 0]) hst hb follows
    (o_p rfl (ob_assign rfl rfl c_i) <|
     o_n) (by kernel_rfl) (fun a g hst hb => ?_)
  refine wp_seq ?_
  refine r_s (L := [(1, _), (2, _), (5, _)]) (T := [⟨[.old 1], _, [], [], [7]⟩, ⟨[.op 0 0], _, [], [0], [8]⟩, ⟨[.op 1 0], _, [], [0, 1], [6]⟩]) (F := [.old 0, .old 2, .op 2 0]) hst hb follows
    (o_p rfl (ob_fieldAddr fl_28_0 rfl rfl u_0) <|
     o_p rfl (ob_load ty_26 rfl rfl u_0) <|
     o_p rfl (ob_assign rfl rfl u_0) <|
     o_n) (by kernel_rfl) (fun a g hst hb => ?_)
  obtain ⟨z12, hz1, H0⟩ := of_bind H0
  refine wp_cut (fun a w => ∃ (y11 : Int) (g : G), w = g.w ∧ St 34 [(5, (pInt .i64 y11))] a g ∧ Base g0 g ∧ y11 = z12) ?_ ?_
  · rintro a w ⟨y11, g, rfl, hst, hb, rfl⟩
    refine then_n ?_
    refine r_s (L := [(5, _)]) (T := [⟨[.old 0], _, [], [], [33]⟩, ⟨[.op 0 0], _, [], [0], [4]⟩]) (F := [.op 1 0]) hst hb follows
      (o_p rfl (ob_move rfl rfl u_0) <|
       o_p rfl (ob_assign rfl rfl u_0) <|
       o_n) (by kernel_rfl) (fun a g hst hb => ?_)
    refine wp_ret ?_
    obtain rfl := Option.some.inj H0
    exact endR1 rfl hst hb (res_tmp (s := 4)) (hst.at 0 rfl)
  · refine wp_block ?_
    refine wp_loop_ghost (fun n a w => ∃ (x1 : Int) (x2 : shelf_nodeT) (g : G), w = g.w ∧ St 34 [(1, (pStr a1)), (5, (pInt .i64 x1)), (6, (k_shelf_nodeT.pd x2))] a g ∧ Base g0 g ∧ shelf_Shelf_Rank_l1 a1 n x1 x2 = some z12) (a0.top.hh + 1) ⟨(0 : Int), a0.top, g, rfl, (hst.pick [0, 1, 2] rfl), hb, hz1⟩ (fun n a w hI => ?_)
    obtain ⟨x1, x2, g, rfl, hst, hb, H1⟩ := hI
    cases n with
    | zero => exact absurd H1 (by simp [shelf_Shelf_Rank_l1])
    | succ n =>
      rw [shelf_Shelf_Rank_l1] at H1
      refine wp_seq ?_
      refine r_s (L := [(1, _), (5, _), (6, _)]) (T := [⟨[.old 2], _, [], [], [9]⟩, ⟨[.op 0 0], _, [], [0], [10]⟩]) (F := [.old 0, .old 1, .old 2, .op 1 0]) hst hb follows
        (o_p rfl (ob_move rfl rfl u_0) <|
         o_p rfl (ob_pne Try.underlying26 rfl rfl u_0 (shelf_nodeT_isptr _)) <|
         o_n) (by kernel_rfl) (fun a g hst hb => ?_)
      refine wp_cond_split (hst.bool 3 rfl) (fun hc3 => ?_) (fun hc3 => ?_)
      · replace H1 := ite_t hc3 H1
        refine wp_skip ?_
        refine then_n ?_
        refine wp_cut (fun a w => ∃ (j9 : Int) (j10 : shelf_nodeT) (g : G), w = g.w ∧ St 34 [(1, (pStr a1)), (5, (pInt .i64 j9)), (6, (k_shelf_nodeT.pd j10))] a g ∧ Base g0 g ∧ shelf_Shelf_Rank_j1 (shelf_Shelf_Rank_l1 a1 n) j9 j10 = some z12) ?_ ?_
        · rintro a w ⟨j9, j10, g, rfl, hst, hb, H1⟩
          unfold shelf_Shelf_Rank_j1 at H1
          exact ⟨n, Nat.lt_succ_self _, j9, j10, g, rfl, (hst.pick [0, 1, 2] rfl), hb, H1⟩
        · refine wp_block ?_
          refine wp_seq ?_
          obtain ⟨n4, h5, H1⟩ := of_bind H1
          refine r_s (L := [(1, _), (5, _), (6, _)]) (T := [⟨[.old 0], _, [], [], [11]⟩, ⟨[.old 2], _, [], [], [12]⟩, ⟨[.op 1 0], _, [], [1], [13]⟩, ⟨[.op 2 0], _, [], [1, 2], [14]⟩, ⟨[.op 3 0], _, [], [1, 2, 3], [15]⟩, ⟨[.op 0 0, .op 4 0], _, [], List.range 5, [16]⟩]) (F := [.old 0, .old 1, .old 2, .op 5 0]) (hst.pick [0, 1, 2] rfl) hb follows
            (o_p rfl (ob_move rfl rfl u_0) <|
             o_p rfl (ob_move rfl rfl u_0) <|
             o_p rfl (ob_nilCheck rfl rfl (Opd.imp u_0 (fun _ _ h => shelf_nodeT_node h5 h)) (fun _ _ ⟨_, _, _, e, _⟩ => ⟨_, e⟩)) <|
             o_p rfl (ob_fieldAddr fl_75_0 rfl rfl u_0) <|
             o_p rfl (ob_load ty_9 rfl rfl u_0) <|
             o_p rfl (ob_sle rfl rfl u_0 u_1) <|
             o_n) (by kernel_rfl) (fun a g hst hb => ?_)
          refine wp_cond_split (hst.bool 3 rfl) (fun hc6 => ?_) (fun hc6 => ?_)
          · replace H1 := ite_t hc6 H1
            refine r_s (L := [(1, _), (5, _), (6, _)]) (T := [⟨[.old 2], _, [], [], [17]⟩, ⟨[.op 0 0], _, [], [0], [18]⟩, ⟨[.op 1 0], _, [], [0, 1], [19]⟩, ⟨[.op 2 0], _, [], [0, 1, 2], [20]⟩, ⟨[.op 3 0], _, [], List.range 4, [6]⟩]) (F := [.old 0, .old 1, .op 4 0]) (hst.pick [0, 1, 2] rfl) hb follows
              (o_p rfl (ob_move rfl rfl u_0) <|
               o_p rfl (ob_nilCheck rfl rfl (Opd.imp u_0 (fun _ _ h => shelf_nodeT_node h5 h)) (fun _ _ ⟨_, _, _, e, _⟩ => ⟨_, e⟩)) <|
               o_p rfl (ob_fieldAddr fl_75_2 rfl rfl u_0) <|
               o_p rfl (ob_load ty_26 rfl rfl u_0) <|
               o_p rfl (ob_assign rfl rfl u_0) <|
               o_n) (by kernel_rfl) (fun a g hst hb => ?_)
            refine wp_exit ?_
            refine then_e ?_
            refine inBlock_e ?_
            exact ⟨x1, n4.left, g, rfl, (hst.pick [0, 1, 2] rfl), hb, H1⟩
          · replace H1 := ite_f hc6 H1
            refine wp_skip ?_
            refine then_n ?_
            obtain ⟨r7, h8, H1⟩ := of_bind H1
            refine r_s (L := [(1, _), (5, _), (6, _)]) (T := [⟨[.old 1], _, [], [], [21]⟩, ⟨[.old 2], _, [], [], [22]⟩, ⟨[.op 1 0], _, [], [1], [23]⟩, ⟨[.op 2 0], _, [], [1, 2], [24]⟩, ⟨[.op 3 0], _, [], [1, 2, 3], [25]⟩, ⟨[.op 4 0], _, [], List.range' 1 4, [26]⟩, ⟨[.op 5 0], _, [], List.range' 1 5, [27]⟩, ⟨[.op 0 0, .op 6 0], _, [], List.range 7, [28]⟩, ⟨[.op 7 0], _, [], List.range 8, [5]⟩]) (F := [.old 0, .op 8 0, .old 2]) (hst.pick [0, 1, 2] rfl) hb follows
              (o_p rfl (ob_move rfl rfl u_0) <|
               o_p rfl (ob_move rfl rfl u_0) <|
               o_p rfl (ob_nilCheck rfl rfl (Opd.imp u_0 (fun _ _ h => shelf_nodeT_node h5 h)) (fun _ _ ⟨_, _, _, e, _⟩ => ⟨_, e⟩)) <|
               o_p rfl (ob_fieldAddr fl_75_2 rfl rfl u_0) <|
               o_p rfl (ob_load ty_26 rfl rfl u_0) <|
               o_p rfl (ob_call en_33 (shelf_node_count_ok _ h8) rfl rfl (.cons u_0 .nil)) <|
               o_p rfl (ob_add rfl rfl u_0 c_i rfl) <|
               o_p rfl (ob_add rfl rfl u_0 u_1 rfl) <|
               o_p rfl (ob_assign rfl rfl u_0) <|
               o_n) (by kernel_rfl) (fun a g hst hb => ?_)
            refine r_g (L := [(1, _), (5, _), (6, _)]) (T := [⟨[.old 2], _, [], [], [29]⟩, ⟨[.op 0 0], _, [], [0], [30]⟩, ⟨[.op 1 0], _, [], [0, 1], [31]⟩, ⟨[.op 2 0], _, [], [0, 1, 2], [32]⟩, ⟨[.op 3 0], _, [], List.range 4, [6]⟩]) (F := [.old 0, .old 1, .op 4 0]) hst hb follows
              (o_p rfl (ob_move rfl rfl u_0) <|
               o_p rfl (ob_nilCheck rfl rfl (Opd.imp u_0 (fun _ _ h => shelf_nodeT_node h5 h)) (fun _ _ ⟨_, _, _, e, _⟩ => ⟨_, e⟩)) <|
               o_p rfl (ob_fieldAddr fl_75_3 rfl rfl u_0) <|
               o_p rfl (ob_load ty_26 rfl rfl u_0) <|
               o_p rfl (ob_assign rfl rfl u_0) <|
               o_n) (by kernel_rfl) (fun a g hst hb => ?_)
            refine inBlock_n ?_
            exact ⟨(IntKind.i64.wrap (x1 + (IntKind.i64.wrap (r7 + (1 : Int))))), n4.right, g, rfl, (hst.pick [0, 1, 2] rfl), hb, H1⟩
      · replace H1 := ite_f hc3 H1
        refine wp_exit ?_
        refine then_e ?_
        refine then_e ?_
        refine inBlock_e ?_
        exact ⟨x1, g, rfl, (hst.pick [1] rfl), hb, Option.some.inj H1⟩
end Go.CL

set_option linter.unusedVariables false
set_option linter.unusedSimpArgs false
set_option maxRecDepth 100000
namespace Go.CL
open Go Go.RowKit Go.Proofs
theorem slices_Clone_api_Item_api_Item_ok (a0 : (List api_Item)) {r : (List api_Item)} (h : slices_Clone_api_Item_api_Item a0 = some r) : FnOk Try.prog 46 [(k_api_Item.sl.pd a0)] (k_api_Item.sl.pd r) := by
  unfold slices_Clone_api_Item_api_Item at h
  obtain ⟨hsz, H0⟩ := of_ite h
  obtain rfl := Option.some.inj H0
  refine fn_ok (N := 8) Try.func46 rfl rfl (Nat.le_of_ble_eq_true rfl) rfl rfl (fun a g0 hst hb => ?_)
  refine wp_seq ?_
  refine wp_reg follows (N := 8) (L := [(0, (k_api_Item.sl.pd a0))]) (T := [⟨[], [(2, (k_api_Item.sl.pd []))], [], [], [2]⟩]) (F := [.old 0]) (by kernel_rfl)
    (allOT_cons (OT.plain rfl (ob_assign rfl rfl (Opd.c (fun g => sl_nil_q g)))) allOT_nil) hst hb (fun a g hst hb => ?_)
  refine then_n ?_
  refine wp_seq ?_
  refine wp_seq ?_
  refine wp_reg follows (N := 8) (L := [(0, (k_api_Item.sl.pd a0))]) (T := [⟨[.old 0], [(3, (k_api_Item.sl.pd a0))], [], [], [3]⟩, ⟨[.op 0 0], [(4, pNilB a0)], [], [0], [4]⟩]) (F := [.old 0, .op 1 0]) (by kernel_rfl)
    (allOT_cons (OT.plain rfl (ob_move rfl rfl Opd.t0)) (allOT_cons (OT.plain rfl (ob_snil Try.underlying36 rfl rfl Opd.t0)) allOT_nil)) hst hb (fun a g hst hb => ?_)
  refine then_n ?_
  obtain ⟨c, hc, hc'⟩ := hst.at 1 rfl
  refine wp_cond_split hc (fun ht => ?_) (fun hf => ?_)
  · obtain rfl := hc' ht
    refine wp_seq ?_
    refine wp_reg follows (N := 8) (L := []) (T := [⟨[], [(2, (k_api_Item.sl.pd []))], [], [], [2]⟩]) (F := [.op 0 0]) (by kernel_rfl)
      (allOT_cons (OT.plain rfl (ob_assign rfl rfl (Opd.c (fun g => sl_nil_q g)))) allOT_nil) (hst.pick [] rfl) hb (fun a g hst hb => ?_)
    refine then_n ?_
    refine wp_ret ?_
    refine then_r ?_
    exact endR1 rfl hst hb (res_tmp (s := 2)) (hst.at 0 rfl)
  · refine wp_skip ?_
    refine then_n ?_
    refine wp_seq ?_
    have hsz' : (([] : (List api_Item)).length + a0.length) * 24 ≤ 140737488355328 := by simpa using hsz
    refine wp_reg follows (N := 8) (L := [(0, (k_api_Item.sl.pd a0))]) (T := [⟨[], [(5, (pRow k_api_Item 64 5 []))], [6], [], [5]⟩, ⟨[.old 0], [(6, (k_api_Item.sl.pd a0))], [], [], [6]⟩, ⟨[.op 0 0, .op 1 0], [(7, (pRow k_api_Item 64 5 ([] ++ a0)))], [6], [0, 1], [5, 7]⟩, ⟨[.op 2 0], [(2, (pRow k_api_Item 64 5 ([] ++ a0)))], [], [0, 1, 2], [2]⟩]) (F := [.op 3 0]) (by kernel_rfl)
      (allOT_cons (OT.plain rfl (ob_litRow 5 te_36 (xs := []) .nil (by decide) rfl rfl)) (allOT_cons (OT.plain rfl (ob_move rfl rfl Opd.t0)) (allOT_cons (OT.plain rfl (ob_append te_36 rfl rfl Opd.t0 (Opd.tl Opd.t0) hsz')) (allOT_cons (OT.plain rfl (ob_assign rfl rfl Opd.t0)) allOT_nil)))) (hst.pick [0] rfl) hb (fun a g hst hb => ?_)
    refine then_n ?_
    refine wp_ret ?_
    exact endR1 rfl hst hb (res_tmp (s := 2)) (pRow_read (hst.at 0 rfl))
end Go.CL

set_option linter.unusedVariables false
set_option linter.unusedSimpArgs false
set_option maxRecDepth 100000
namespace Go.CL
open Go Go.RowKit Go.Proofs
theorem rec_Clone_ok (a0 : api_Record) {r : api_Record} (h : rec_Clone a0 = some r) : FnOk Try.prog 34 [(k_api_Record.pd a0)] (k_api_Record.pd r) := by
  have H0 := h
  unfold rec_Clone at H0
  clear h
  refine fn_ok (N := 8) Try.func34 rfl rfl (Nat.le_of_ble_eq_true rfl) rfl rfl (fun a g0 hst hb => ?_)
  refine r_s (L := [(0, _)]) (T := [⟨[.old 0], _, [2], [], [1]⟩, ⟨[], [(2, (pBox k_api_Record 2 (default : api_Record)))], [3], [], [2]⟩]) (F := [.op 0 0, .op 1 0]) hst hb follows
    (o_p rfl (ob_boxM rfl rfl u_0) <|
     o_p rfl (ob_alloc (zs := [.int .i64 0, .int .i64 0, .int .i64 0, .int .i64 0, .float .f64 0, .int .i64 0, .string ByteArray.empty, .slice none 0 0]) (by kernel_rfl) (fun g => zk_api_Record g) rfl rfl) <|
     o_n) (by kernel_rfl) (fun a g hst hb => ?_)
  obtain ⟨r1, h2, H0⟩ := of_bind H0
  refine r_s (L := [(1, _), (2, _)]) (T := [⟨[.old 0], _, [], [], [3]⟩, ⟨[.op 0 0], _, [], [0], [4]⟩, ⟨[.op 1 0], _, [], [0, 1], [5]⟩, ⟨[.old 0], _, [], [0, 1, 2], [6]⟩, ⟨[.op 2 0, .op 3 0, .old 0], _, [2], List.range 4, [1, 3, 6]⟩]) (F := [.op 4 0, .old 1]) hst hb follows
    (o_p rfl (ob_fieldAddrM fl_38_7 (off := 7) (by kernel_rfl) rfl rfl u_0) <|
     o_p rfl (ob_loadP ty_36 rfl rfl u_0) <|
     o_p rfl (ob_call en_46 (slices_Clone_api_Item_api_Item_ok _ h2) rfl rfl (.cons u_0 .nil)) <|
     o_p rfl (ob_fieldAddrM fl_38_7 (off := 7) (by kernel_rfl) rfl rfl u_0) <|
     o_p rfl (wi_38_7 ty_36 rfl rfl u_2 u_1 u_0) <|
     o_n) (by kernel_rfl) (fun a g hst hb => ?_)
  refine r_s (L := [(1, _), (2, _)]) (T := [⟨[.old 0], _, [], [], [7]⟩, ⟨[.op 0 0, .old 1], _, [3], [0], [2]⟩]) (F := [.op 1 0]) hst hb follows
    (o_p rfl (ob_loadM ty_38 rfl rfl u_0) <|
     o_p rfl (ob_store ty_38 rfl rfl u_1 u_0) <|
     o_n) (by kernel_rfl) (fun a g hst hb => ?_)
  refine wp_ret ?_
  obtain rfl := Option.some.inj H0
  obtain ⟨u0, hu0, hq0⟩ := res_box (P := Try.prog) ty_38 (hst.at 0 rfl)
  exact endR1 rfl hst hb hu0 hq0
end Go.CL

set_option linter.unusedVariables false
set_option linter.unusedSimpArgs false
set_option maxRecDepth 100000
namespace Go.CL
open Go Go.RowKit Go.Proofs
theorem shelf_Shelf_At_ok (a0 : shelf_Shelf) (a1 : Int) {r : ByteArray × api_Record × Bool} (h : shelf_Shelf_At a0 a1 = some r) : FnOk Try.prog 16 [(k_shelf_Shelf.pd a0), (pInt .i64 a1)] (pTup [(pStr r.1), (k_api_Record.pd r.2.1), (pBool r.2.2)]) := by
  have H0 := h
  unfold shelf_Shelf_At at H0
  clear h
  refine fn_ok (N := 48) Try.func16 rfl rfl (Nat.le_of_ble_eq_true rfl) rfl rfl (fun a g0 hst hb => ?_)
  refine r_s (L := [(0, _), (1, _)]) (T := [⟨[.old 0], _, [], [], [2]⟩, ⟨[], _, [], [], [4]⟩, ⟨[], [(5, (pBox k_api_Record 5 (default : api_Record)))], [6], [], [5]⟩, ⟨[], _, [], [1], [6]⟩]) (F := [.old 1, .op 0 0, .op 2 0]) hst hb follows
    (o_p rfl (ob_box1 rfl rfl u_0) <|
     o_p rfl (ob_assign rfl rfl c_s) <|
     o_p rfl (ob_alloc (zs := [.int .i64 0, .int .i64 0, .int .i64 0, .int .i64 0, .float .f64 0, .int .i64 0, .string ByteArray.empty, .slice none 0 0]) (by kernel_rfl) (fun g => zk_api_Record g) rfl rfl) <|
     o_p rfl (ob_assign rfl rfl c_b) <|
     o_n) (by kernel_rfl) (fun a g hst hb => ?_)
  refine wp_seq ?_
  refine r_s (L := [(1, _), (2, _), (5, _)]) (T := [⟨[.old 1], _, [], [], [9]⟩, ⟨[.op 0 0], _, [], [0], [10]⟩, ⟨[.op 1 0], _, [], [0, 1], [7]⟩]) (F := [.old 0, .old 2, .op 2 0]) hst hb follows
    (o_p rfl (ob_fieldAddr fl_28_0 rfl rfl u_0) <|
     o_p rfl (ob_load ty_26 rfl rfl u_0) <|
     o_p rfl (ob_assign rfl rfl u_0) <|
     o_n) (by kernel_rfl) (fun a g hst hb => ?_)
  obtain ⟨z16, hz1, H0⟩ := of_bind H0
  refine wp_cut (fun a w => ∃ (y15 : api_Record) (g : G), w = g.w ∧ St 48 [(5, (pBox k_api_Record 5 y15))] a g ∧ Base g0 g ∧ (.inr y15) = z16) ?_ ?_
  · rintro a w ⟨y15, g, rfl, hst, hb, rfl⟩
    refine then_n ?_
    refine r_s (L := [(5, _)]) (T := [⟨[], _, [], [], [47]⟩, ⟨[], _, [], [], [4]⟩, ⟨[.op 0 0, .old 0], _, [6], [0, 1], [5]⟩, ⟨[], _, [], [0, 1, 2], [6]⟩]) (F := [.op 1 0, .op 2 0, .op 3 0]) hst hb follows
      (o_p rfl (bd_38_ rfl rfl ) <|
       o_p rfl (ob_assign rfl rfl c_s) <|
       o_p rfl (ob_store ty_38 rfl rfl u_1 u_0) <|
       o_p rfl (ob_assign rfl rfl c_b) <|
       o_n) (by kernel_rfl) (fun a g hst hb => ?_)
    refine wp_ret ?_
    obtain rfl := Option.some.inj H0
    obtain ⟨u1, hu1, hq1⟩ := res_box (P := Try.prog) ty_38 (hst.at 1 rfl)
    exact endR3 rfl hst hb (res_tmp (s := 4)) hu1 (res_tmp (s := 6)) (pTup_3 (hst.at 0 rfl) hq1 (hst.at 2 rfl))
  · refine wp_block ?_
    refine wp_loop_ghost (fun n a w => ∃ (x1 : Int) (x2 : api_Record) (x3 : shelf_nodeT) (g : G), w = g.w ∧ St 48 [(1, (pInt .i64 x1)), (5, (pBox k_api_Record 5 x2)), (7, (k_shelf_nodeT.pd x3))] a g ∧ Base g0 g ∧ shelf_Shelf_At_l1 n x1 x2 x3 = some z16) (a0.top.hh + 1) ⟨a1, (default : api_Record), a0.top, g, rfl, (hst.pick [0, 1, 2] rfl), hb, hz1⟩ (fun n a w hI => ?_)
    obtain ⟨x1, x2, x3, g, rfl, hst, hb, H1⟩ := hI
    cases n with
    | zero => exact absurd H1 (by simp [shelf_Shelf_At_l1])
    | succ n =>
      rw [shelf_Shelf_At_l1] at H1
      refine wp_seq ?_
      refine r_s (L := [(1, _), (5, _), (7, _)]) (T := [⟨[.old 2], _, [], [], [11]⟩, ⟨[.op 0 0], _, [], [0], [12]⟩]) (F := [.old 0, .old 1, .old 2, .op 1 0]) hst hb follows
        (o_p rfl (ob_move rfl rfl u_0) <|
         o_p rfl (ob_pne Try.underlying26 rfl rfl u_0 (shelf_nodeT_isptr _)) <|
         o_n) (by kernel_rfl) (fun a g hst hb => ?_)
      refine wp_cond_split (hst.bool 3 rfl) (fun hc4 => ?_) (fun hc4 => ?_)
      · replace H1 := ite_t hc4 H1
        refine wp_skip ?_
        refine then_n ?_
        refine wp_cut (fun a w => ∃ (j13 : Int) (j14 : shelf_nodeT) (g : G), w = g.w ∧ St 48 [(1, (pInt .i64 j13)), (5, (pBox k_api_Record 5 x2)), (7, (k_shelf_nodeT.pd j14))] a g ∧ Base g0 g ∧ shelf_Shelf_At_j1 x2 (shelf_Shelf_At_l1 n) j13 j14 = some z16) ?_ ?_
        · rintro a w ⟨j13, j14, g, rfl, hst, hb, H1⟩
          unfold shelf_Shelf_At_j1 at H1
          exact ⟨n, Nat.lt_succ_self _, j13, x2, j14, g, rfl, (hst.pick [0, 1, 2] rfl), hb, H1⟩
        · refine wp_block ?_
          obtain ⟨n5, h6, H1⟩ := of_bind H1; obtain ⟨r7, h8, H1⟩ := of_bind H1
          refine r_s (L := [(1, _), (5, _), (7, _)]) (T := [⟨[.old 2], _, [], [], [13]⟩, ⟨[.op 0 0], _, [], [0], [14]⟩, ⟨[.op 1 0], _, [], [0, 1], [15]⟩, ⟨[.op 2 0], _, [], [0, 1, 2], [16]⟩, ⟨[.op 3 0], _, [], List.range 4, [17]⟩, ⟨[.op 4 0], _, [], List.range 5, [8]⟩]) (F := [.old 0, .old 1, .old 2, .op 5 0]) (hst.pick [0, 1, 2] rfl) hb follows
            (o_p rfl (ob_move rfl rfl u_0) <|
             o_p rfl (ob_nilCheck rfl rfl (Opd.imp u_0 (fun _ _ h => shelf_nodeT_node h6 h)) (fun _ _ ⟨_, _, _, e, _⟩ => ⟨_, e⟩)) <|
             o_p rfl (ob_fieldAddr fl_75_2 rfl rfl u_0) <|
             o_p rfl (ob_load ty_26 rfl rfl u_0) <|
             o_p rfl (ob_call en_33 (shelf_node_count_ok _ h8) rfl rfl (.cons u_0 .nil)) <|
             o_p rfl (ob_assign rfl rfl u_0) <|
             o_n) (by kernel_rfl) (fun a g hst hb => ?_)
          refine wp_block ?_
          refine r_s (L := [(1, _), (5, _), (7, _), (8, _)]) (T := [⟨[.old 0], _, [], [], [28]⟩, ⟨[.old 3], _, [], [], [29]⟩, ⟨[.op 0 0, .op 1 0], _, [], [0, 1], [30]⟩, ⟨[.op 2 0], _, [], [0, 1, 2], [27]⟩]) (F := [.old 0, .old 1, .old 2, .old 3, .op 3 0]) hst hb follows
            (o_p rfl (ob_move rfl rfl u_0) <|
             o_p rfl (ob_move rfl rfl u_0) <|
             o_p rfl (ob_lt rfl rfl u_0 u_1) <|
             o_p rfl (ob_assign rfl rfl u_0) <|
             o_n) (by kernel_rfl) (fun a g hst hb => ?_)
          refine wp_cond_split (hst.bool 4 rfl) (fun hc9 => ?_) (fun hc9 => ?_)
          · replace H1 := ite_t hc9 H1
            refine r_g (L := [(1, _), (5, _), (7, _)]) (T := [⟨[.old 2], _, [], [], [31]⟩, ⟨[.op 0 0], _, [], [0], [32]⟩, ⟨[.op 1 0], _, [], [0, 1], [33]⟩, ⟨[.op 2 0], _, [], [0, 1, 2], [34]⟩, ⟨[.op 3 0], _, [], List.range 4, [7]⟩]) (F := [.old 0, .old 1, .op 4 0]) (hst.pick [0, 1, 2] rfl) hb follows
              (o_p rfl (ob_move rfl rfl u_0) <|
               o_p rfl (ob_nilCheck rfl rfl (Opd.imp u_0 (fun _ _ h => shelf_nodeT_node h6 h)) (fun _ _ ⟨_, _, _, e, _⟩ => ⟨_, e⟩)) <|
               o_p rfl (ob_fieldAddr fl_75_2 rfl rfl u_0) <|
               o_p rfl (ob_load ty_26 rfl rfl u_0) <|
               o_p rfl (ob_assign rfl rfl u_0) <|
               o_n) (by kernel_rfl) (fun a g hst hb => ?_)
            refine inBlock_n ?_
            refine inBlock_n ?_
            exact ⟨x1, n5.left, g, rfl, (hst.pick [0, 1, 2] rfl), hb, H1⟩
          · replace H1 := ite_f hc9 H1
            refine r_s (L := [(1, _), (5, _), (7, _), (8, _)]) (T := [⟨[.old 0], _, [], [], [36]⟩, ⟨[.old 3], _, [], [], [37]⟩, ⟨[.op 0 0, .op 1 0], _, [], [0, 1], [38]⟩, ⟨[.op 2 0], _, [], [0, 1, 2], [35]⟩]) (F := [.old 0, .old 1, .old 2, .old 3, .op 3 0]) (hst.pick [0, 1, 2, 3] rfl) hb follows
              (o_p rfl (ob_move rfl rfl u_0) <|
               o_p rfl (ob_move rfl rfl u_0) <|
               o_p rfl (ob_gt rfl rfl u_0 u_1) <|
               o_p rfl (ob_assign rfl rfl u_0) <|
               o_n) (by kernel_rfl) (fun a g hst hb => ?_)
            refine wp_cond_split (hst.bool 4 rfl) (fun hc10 => ?_) (fun hc10 => ?_)
            · replace H1 := ite_t hc10 H1
              refine r_s (L := [(1, _), (5, _), (7, _), (8, _)]) (T := [⟨[.old 0], _, [], [], [39]⟩, ⟨[.old 3], _, [], [], [40]⟩, ⟨[.op 1 0], _, [], [1], [41]⟩, ⟨[.op 0 0, .op 2 0], _, [], [0, 1, 2], [42]⟩, ⟨[.op 3 0], _, [], List.range 4, [1]⟩]) (F := [.op 4 0, .old 1, .old 2]) (hst.pick [0, 1, 2, 3] rfl) hb follows
                (o_p rfl (ob_move rfl rfl u_0) <|
                 o_p rfl (ob_move rfl rfl u_0) <|
                 o_p rfl (ob_add rfl rfl u_0 c_i rfl) <|
                 o_p rfl (ob_sub rfl rfl u_0 u_1 rfl) <|
                 o_p rfl (ob_assign rfl rfl u_0) <|
                 o_n) (by kernel_rfl) (fun a g hst hb => ?_)
              refine r_g (L := [(1, _), (5, _), (7, _)]) (T := [⟨[.old 2], _, [], [], [43]⟩, ⟨[.op 0 0], _, [], [0], [44]⟩, ⟨[.op 1 0], _, [], [0, 1], [45]⟩, ⟨[.op 2 0], _, [], [0, 1, 2], [46]⟩, ⟨[.op 3 0], _, [], List.range 4, [7]⟩]) (F := [.old 0, .old 1, .op 4 0]) hst hb follows
                (o_p rfl (ob_move rfl rfl u_0) <|
                 o_p rfl (ob_nilCheck rfl rfl (Opd.imp u_0 (fun _ _ h => shelf_nodeT_node h6 h)) (fun _ _ ⟨_, _, _, e, _⟩ => ⟨_, e⟩)) <|
                 o_p rfl (ob_fieldAddr fl_75_3 rfl rfl u_0) <|
                 o_p rfl (ob_load ty_26 rfl rfl u_0) <|
                 o_p rfl (ob_assign rfl rfl u_0) <|
                 o_n) (by kernel_rfl) (fun a g hst hb => ?_)
              refine inBlock_n ?_
              refine inBlock_n ?_
              exact ⟨(IntKind.i64.wrap (x1 - (IntKind.i64.wrap (r7 + (1 : Int))))), n5.right, g, rfl, (hst.pick [0, 1, 2] rfl), hb, H1⟩
            · replace H1 := ite_f hc10 H1
              obtain ⟨r11, h12, H1⟩ := of_bind H1
              refine r_s (L := [(5, _), (7, _)]) (T := ⟨[.old 1], _, [], [], [18]⟩ :: ⟨[.op 0 0], _, [], [0], [19]⟩ :: ⟨[.op 1 0], _, [], [0, 1], [20]⟩ :: ⟨[.op 2 0], _, [], [0, 1, 2], [21]⟩ :: ⟨[.old 1], _, [], [], [22]⟩ :: ⟨[.op 4 0], _, [], [4], [23]⟩ :: ⟨[.op 5 0], _, [], [4, 5], [24]⟩ :: ⟨[.op 6 0], _, [], [4, 5, 6], [25]⟩ :: ⟨[.op 7 0], _, [], List.range' 4 4, [26]⟩ :: ⟨[.op 3 0], _, [], List.range 9, [4]⟩ :: ⟨[.op 8 0, .old 0], _, [6], List.range 10, [5]⟩ :: ⟨[], _, [], List.range 11, [6]⟩ :: []) (F := [.op 9 0, .op 10 0, .op 11 0]) (hst.pick [1, 2] rfl) hb follows
                (o_p rfl (ob_move rfl rfl u_0) <|
                 o_p rfl (ob_nilCheck rfl rfl (Opd.imp u_0 (fun _ _ h => shelf_nodeT_node h6 h)) (fun _ _ ⟨_, _, _, e, _⟩ => ⟨_, e⟩)) <|
                 o_p rfl (ob_fieldAddr fl_75_0 rfl rfl u_0) <|
                 o_p rfl (ob_load ty_9 rfl rfl u_0) <|
                 o_p rfl (ob_move rfl rfl u_0) <|
                 o_p rfl (ob_nilCheck rfl rfl (Opd.imp u_0 (fun _ _ h => shelf_nodeT_node h6 h)) (fun _ _ ⟨_, _, _, e, _⟩ => ⟨_, e⟩)) <|
                 o_p rfl (ob_fieldAddr fl_75_1 rfl rfl u_0) <|
                 o_p rfl (ob_load ty_38 rfl rfl u_0) <|
                 o_p rfl (ob_call en_34 (rec_Clone_ok _ h12) rfl rfl (.cons u_0 .nil)) <|
                 o_p rfl (ob_assign rfl rfl u_0) <|
                 o_p rfl (ob_store ty_38 rfl rfl u_1 u_0) <|
                 o_p rfl (ob_assign rfl rfl c_b) <|
                 o_n) (by kernel_rfl) (fun a g hst hb => ?_)
              refine wp_ret ?_
              refine inBlock_r ?_
              refine inBlock_r ?_
              refine then_r ?_
              refine then_r ?_
              refine inBlock_r ?_
              refine then_r ?_
              refine then_r ?_
              obtain rfl := Option.some.inj H1
              obtain rfl := Option.some.inj H0
              obtain ⟨u1, hu1, hq1⟩ := res_box (P := Try.prog) ty_38 (hst.at 1 rfl)
              exact endR3 rfl hst hb (res_tmp (s := 4)) hu1 (res_tmp (s := 6)) (pTup_3 (hst.at 0 rfl) hq1 (hst.at 2 rfl))
      · replace H1 := ite_f hc4 H1
        refine wp_exit ?_
        refine then_e ?_
        refine then_e ?_
        refine inBlock_e ?_
        exact ⟨x2, g, rfl, (hst.pick [1] rfl), hb, Option.some.inj H1⟩
end Go.CL

set_option linter.unusedVariables false
set_option linter.unusedSimpArgs false
set_option maxRecDepth 100000
namespace Go.CL
open Go Go.RowKit Go.Proofs
theorem shelf_Shelf_Keys_ok (a0 : shelf_Shelf) (a1 : ByteArray) (a2 : ByteArray) (a3 : Int) {r : List ByteArray} (h : shelf_Shelf_Keys a0 a1 a2 a3 = some r) : FnOk Try.prog 12 [(k_shelf_Shelf.pd a0), (pStr a1), (pStr a2), (pInt .i64 a3)] (Kd.str.sl.pd r) := by
  have H0 := h
  unfold shelf_Shelf_Keys at H0
  clear h
  refine fn_ok (N := 42) Try.func12 rfl rfl (Nat.le_of_ble_eq_true rfl) rfl rfl (fun a g0 hst hb => ?_)
  refine r_s (L := [(0, _), (1, _), (2, _), (3, _)]) (T := [⟨[.old 0], _, [], [], [4]⟩, ⟨[], [(8, (Kd.str.sl.pd ([] : List ByteArray)))], [], [], [8]⟩]) (F := [.old 1, .old 2, .old 3, .op 0 0]) hst hb follows
    (o_p rfl (ob_box1 rfl rfl u_0) <|
     o_p rfl (ob_assign rfl rfl (Opd.c (fun g => sl_nil_q g))) <|
     o_n) (by kernel_rfl) (fun a g hst hb => ?_)
  refine r_s (L := [(1, _), (2, _), (3, _), (4, _)]) (T := [⟨[], [(9, (pRow Kd.str 9 9 ([] : List ByteArray)))], [], [], [9]⟩]) (F := [.old 0, .old 1, .old 2, .old 3, .op 0 0]) hst hb follows
    (o_p rfl (ob_assign rfl rfl (Opd.c (fun g => pRow_nil 9 g))) <|
     o_n) (by kernel_rfl) (fun a g hst hb => ?_)
  refine wp_seq ?_
  obtain ⟨r1, h2, H0⟩ := of_bind H0
  refine r_s (L := [(1, _), (2, _), (3, _), (4, _), (9, _)]) (T := [⟨[.old 3], _, [], [], [14]⟩, ⟨[.old 0], _, [], [], [15]⟩, ⟨[.op 0 0, .op 1 0], _, [], [0, 1], [16]⟩, ⟨[.op 2 0], _, [], [0, 1, 2], [10]⟩]) (F := [.old 1, .old 2, .old 3, .old 4, .op 3 0]) hst hb follows
    (o_p rfl (ob_load ty_28 rfl rfl u_0) <|
     o_p rfl (ob_move rfl rfl u_0) <|
     o_p rfl (ob_call en_14 (shelf_Shelf_Rank_ok _ _ h2) rfl rfl (.cons u_0 (.cons u_1 .nil))) <|
     o_p rfl (ob_assign rfl rfl u_0) <|
     o_n) (by kernel_rfl) (fun a g hst hb => ?_)
  obtain ⟨z11, hz1, H0⟩ := of_bind H0
  refine wp_cut (fun a w => ∃ (y10 : List ByteArray) (g : G), w = g.w ∧ St 42 [(9, (pRow Kd.str 9 9 y10))] a g ∧ Base g0 g ∧ y10 = z11) ?_ ?_
  · rintro a w ⟨y10, g, rfl, hst, hb, rfl⟩
    refine then_n ?_
    refine r_s (L := [(9, _)]) (T := [⟨[.old 0], _, [], [], [41]⟩, ⟨[.op 0 0], _, [], [0], [8]⟩]) (F := [.op 1 0]) hst hb follows
      (o_p rfl (ob_move rfl rfl u_0) <|
       o_p rfl (ob_assign rfl rfl u_0) <|
       o_n) (by kernel_rfl) (fun a g hst hb => ?_)
    refine wp_ret ?_
    obtain rfl := Option.some.inj H0
    exact endR1 rfl hst hb (res_tmp (s := 8)) (pRow_read (hst.at 0 rfl))
  · refine wp_block ?_
    refine wp_loop_ghost (fun n a w => ∃ (x3 : List ByteArray) (x4 : Int) (g : G), w = g.w ∧ St 42 [(2, (pStr a2)), (3, (pInt .i64 a3)), (4, (k_shelf_Shelf.ptr a0)), (9, (pRow Kd.str 9 9 x3)), (10, (pInt .i64 x4))] a g ∧ Base g0 g ∧ shelf_Shelf_Keys_l1 a0 a2 a3 n x3 x4 = some z11) (Int.toNat (a3 - (([] : List ByteArray).length : Int)) + 1) ⟨([] : List ByteArray), r1, g, rfl, (hst.pick [0, 1, 2, 3, 4] rfl), hb, hz1⟩ (fun n a w hI => ?_)
    obtain ⟨x3, x4, g, rfl, hst, hb, H1⟩ := hI
    cases n with
    | zero => exact absurd H1 (by simp [shelf_Shelf_Keys_l1])
    | succ n =>
      rw [shelf_Shelf_Keys_l1] at H1
      refine wp_seq ?_
      refine r_s (L := [(2, _), (3, _), (4, _), (9, _), (10, _)]) (T := [⟨[.old 3], _, [], [], [17]⟩, ⟨[.op 0 0], _, [], [0], [18]⟩, ⟨[.old 1], _, [], [], [19]⟩, ⟨[.op 1 0, .op 2 0], _, [], [0, 1, 2], [20]⟩]) (F := [.old 0, .old 1, .old 2, .old 3, .old 4, .op 3 0]) hst hb follows
        (o_p rfl (ob_move rfl rfl u_0) <|
         o_p rfl (ob_lenL Try.underlying43 rfl rfl (Opd.imp u_0 (fun _ _ h => pRow_read h))) <|
         o_p rfl (ob_move rfl rfl u_0) <|
         o_p rfl (ob_lt rfl rfl u_0 u_1) <|
         o_n) (by kernel_rfl) (fun a g hst hb => ?_)
      refine wp_cond_split (hst.bool 5 rfl) (fun hc5 => ?_) (fun hc5 => ?_)
      · replace H1 := ite_t hc5 H1
        refine wp_skip ?_
        refine then_n ?_
        refine wp_seq ?_
        refine wp_block ?_
        obtain ⟨r6, h7, H1⟩ := of_bind H1
        refine r_s (L := [(2, _), (3, _), (4, _), (9, _), (10, _)]) (T := [⟨[.old 2], _, [], [], [24]⟩, ⟨[.old 4], _, [], [], [25]⟩, ⟨[.op 0 0, .op 1 0], _, [], [0, 1], [26]⟩, ⟨[.op 2 0], _, [], [0, 1, 2], [23]⟩, ⟨[.op 3 0], _, [], List.range 4, [27]⟩, ⟨[.op 3 0], _, [], List.range 4, [28]⟩, ⟨[.op 3 0], _, [], List.range 4, [29]⟩, ⟨[], [(12, (pBox k_api_Record 12 (default : api_Record)))], [13], [], [12]⟩, ⟨[.op 4 0], _, [], [0, 1, 2, 3, 4, 7], [11]⟩, ⟨[.op 5 0, .op 7 0], _, [13], [0, 1, 2, 3, 4, 5, 7, 8], [12]⟩, ⟨[.op 6 0], _, [], List.range 10, [13]⟩]) (F := [.old 0, .old 1, .old 2, .old 3, .old 4, .op 8 0, .op 10 0]) (hst.pick [0, 1, 2, 3, 4] rfl) hb follows
          (o_p rfl (ob_load ty_28 rfl rfl u_0) <|
           o_p rfl (ob_move rfl rfl u_0) <|
           o_p rfl (ob_call en_16 (shelf_Shelf_At_ok _ _ h7) rfl rfl (.cons u_0 (.cons u_1 .nil))) <|
           o_p rfl (ob_move rfl rfl u_0) <|
           o_p rfl (ob_extract rfl rfl u_0 rfl) <|
           o_p rfl (ob_extract rfl rfl u_0 rfl) <|
           o_p rfl (ob_extract rfl rfl u_0 rfl) <|
           o_p rfl (ob_alloc (zs := [.int .i64 0, .int .i64 0, .int .i64 0, .int .i64 0, .float .f64 0, .int .i64 0, .string ByteArray.empty, .slice none 0 0]) (by kernel_rfl) (fun g => zk_api_Record g) rfl rfl) <|
           o_p rfl (ob_assign rfl rfl u_0) <|
           o_p rfl (ob_storeF ty_38 rfl rfl u_1 u_0) <|
           o_p rfl (ob_assign rfl rfl u_0) <|
           o_n) (by kernel_rfl) (fun a g hst hb => ?_)
        refine wp_seq ?_
        refine r_s (L := [(2, _), (3, _), (4, _), (9, _), (10, _), (11, _), (13, _)]) (T := [⟨[.old 6], _, [], [], [30]⟩, ⟨[.op 0 0], _, [], [0], [31]⟩, ⟨[.op 1 0], _, [], [0, 1], [32]⟩, ⟨[.op 2 0, .old 5], _, [], [0, 1, 2], [33]⟩, ⟨[.op 2 0, .old 0], _, [], [0, 1, 2], [34]⟩, ⟨[.op 2 0, .op 3 0, .op 4 0], _, [], List.range 5, [35]⟩, ⟨[.op 2 0, .op 5 0], _, [], List.range 6, [36]⟩]) (F := [.old 0, .old 1, .old 2, .old 3, .old 4, .old 5, .op 6 0]) hst hb follows
          (o_p rfl (ob_move rfl rfl u_0) <|
           o_p rfl (ob_not rfl rfl u_0) <|
           o_p rfl (ob_move rfl rfl u_0) <|
           o_g (g_f rfl rfl rfl (fun hG => ob_move rfl rfl u_0)) <|
           o_g (g_f rfl rfl rfl (fun hG => ob_move rfl rfl u_0)) <|
           o_g (g_f rfl rfl rfl (fun hG => ob_sge rfl rfl (Opd.gd hG u_0) (Opd.gd hG u_1))) <|
           o_p rfl (ob_por rfl rfl u_0 (fun hz => (Opd.gd (bNF hz) u_1))) <|
           o_n) (by kernel_rfl) (fun a g hst hb => ?_)
        refine wp_cond_split (hst.bool 6 rfl) (fun hc8 => ?_) (fun hc8 => ?_)
        · replace H1 := ite_t hc8 H1
          refine wp_exit ?_
          refine then_e ?_
          refine inBlock_o (by decide) ?_
          refine then_e ?_
          refine then_e ?_
          refine inBlock_e ?_
          exact ⟨x3, g, rfl, (hst.pick [3] rfl), hb, Option.some.inj H1⟩
        · replace H1 := ite_f hc8 H1
          refine wp_skip ?_
          refine then_n ?_
          obtain ⟨h9, H1⟩ := of_ite H1
          refine r_g (L := [(2, _), (3, _), (4, _), (9, _), (10, _), (11, _)]) (T := [⟨[.old 3], _, [], [], [37]⟩, ⟨[.old 5], _, [], [], [38]⟩, ⟨[.op 1 0], _, [], [1], [39]⟩, ⟨[.op 0 0, .op 2 0], _, [10], [0, 1, 2], [9, 37, 40]⟩, ⟨[.op 3 0], _, [], List.range 4, [9]⟩]) (F := [.old 0, .old 1, .old 2, .op 4 0, .old 4]) (hst.pick [0, 1, 2, 3, 4, 5] rfl) hb follows
            (o_p rfl (ob_move rfl rfl u_0) <|
             o_p rfl (ob_move rfl rfl u_0) <|
             o_p rfl (ob_lit te_43 (xs := [.tmp 38]) (.cons u_0 .nil) (by decide) rfl rfl) <|
             o_p rfl (ob_append te_43 rfl rfl u_0 u_1 h9) <|
             o_p rfl (ob_assign rfl rfl u_0) <|
             o_n) (by kernel_rfl) (fun a g hst hb => ?_)
          refine inBlock_n ?_
          refine then_n ?_
          refine r_g (L := [(2, _), (3, _), (4, _), (9, _), (10, _)]) (T := [⟨[.old 4], _, [], [], [21]⟩, ⟨[.op 0 0], _, [], [0], [22]⟩, ⟨[.op 1 0], _, [], [0, 1], [10]⟩]) (F := [.old 0, .old 1, .old 2, .old 3, .op 2 0]) hst hb follows
            (o_p rfl (ob_move rfl rfl u_0) <|
             o_p rfl (ob_add rfl rfl u_0 c_i rfl) <|
             o_p rfl (ob_assign rfl rfl u_0) <|
             o_n) (by kernel_rfl) (fun a g hst hb => ?_)
          exact ⟨n, Nat.lt_succ_self _, (x3 ++ ([r6.1] : List ByteArray)), (IntKind.i64.wrap (x4 + (1 : Int))), g, rfl, (hst.pick [0, 1, 2, 3, 4] rfl), hb, H1⟩
      · replace H1 := ite_f hc5 H1
        refine wp_exit ?_
        refine then_e ?_
        refine then_e ?_
        refine inBlock_e ?_
        exact ⟨x3, g, rfl, (hst.pick [3] rfl), hb, Option.some.inj H1⟩
end Go.CL

set_option linter.unusedVariables false
set_option linter.unusedSimpArgs false
set_option maxRecDepth 100000
namespace Go.CL
open Go Go.RowKit Go.Proofs
theorem shelf_Shelf_Len_ok (a0 : shelf_Shelf) {r : Int} (h : shelf_Shelf_Len a0 = some r) : FnOk Try.prog 17 [(k_shelf_Shelf.pd a0)] (pInt .i64 r) := by
  have H0 := h
  unfold shelf_Shelf_Len at H0
  clear h
  refine fn_ok (N := 6) Try.func17 rfl rfl (Nat.le_of_ble_eq_true rfl) rfl rfl (fun a g0 hst hb => ?_)
  refine r_s (L := [(0, _)]) (T := [⟨[.old 0], _, [], [], [1]⟩, ⟨[], _, [], [], [2]⟩]) (F := [.op 0 0]) hst hb follows
    (o_p rfl (ob_box1 rfl rfl u_0) <|
     o_p rfl (ob_assign rfl rfl c_i) <|
     o_n) (by kernel_rfl) (fun a g hst hb => ?_)
  obtain ⟨r1, h2, H0⟩ := of_bind H0
  refine r_s (L := [(1, _)]) (T := [⟨[.old 0], _, [], [], [3]⟩, ⟨[.op 0 0], _, [], [0], [4]⟩, ⟨[.op 1 0], _, [], [0, 1], [5]⟩, ⟨[.op 2 0], _, [], [0, 1, 2], [2]⟩]) (F := [.op 3 0]) hst hb follows
    (o_p rfl (ob_fieldAddr fl_28_0 rfl rfl u_0) <|
     o_p rfl (ob_load ty_26 rfl rfl u_0) <|
     o_p rfl (ob_call en_33 (shelf_node_count_ok _ h2) rfl rfl (.cons u_0 .nil)) <|
     o_p rfl (ob_assign rfl rfl u_0) <|
     o_n) (by kernel_rfl) (fun a g hst hb => ?_)
  refine wp_ret ?_
  obtain rfl := Option.some.inj H0
  exact endR1 rfl hst hb (res_tmp (s := 2)) (hst.at 0 rfl)
end Go.CL

set_option linter.unusedVariables false
set_option linter.unusedSimpArgs false
set_option maxRecDepth 100000
namespace Go.CL
open Go Go.RowKit Go.Proofs
theorem math_NaN_ok {r : Nat} (h : math_NaN = some r) : FnOk Try.prog 68 [] (pFlt r) := by
  have H0 := h
  unfold math_NaN at H0
  clear h
  refine fn_ok (N := 2) Try.func68 rfl rfl (Nat.le_of_ble_eq_true rfl) rfl rfl (fun a g0 hst hb => ?_)
  refine r_s (L := []) (T := [⟨[], _, [], [], [0]⟩]) (F := []) hst hb follows
    (o_p rfl (ob_assign rfl rfl c_f) <|
     o_n) (by kernel_rfl) (fun a g hst hb => ?_)
  refine r_s (L := []) (T := [⟨[], _, [], [], [1]⟩, ⟨[.op 0 0], _, [], [0], [0]⟩]) (F := [.op 1 0]) hst hb follows
    (o_p rfl (ob_frombits ex_70 rfl rfl c_i) <|
     o_p rfl (ob_assign rfl rfl u_0) <|
     o_n) (by kernel_rfl) (fun a g hst hb => ?_)
  refine wp_ret ?_
  obtain rfl := Option.some.inj H0
  exact endR1 rfl hst hb (res_tmp (s := 0)) (hst.at 0 rfl)
end Go.CL

set_option linter.unusedVariables false
set_option linter.unusedSimpArgs false
set_option maxRecDepth 100000
namespace Go.CL
open Go Go.RowKit Go.Proofs
theorem flo_Canon_ok (a0 : Nat) {r : Nat} (h : flo_Canon a0 = some r) : FnOk Try.prog 61 [(pFlt a0)] (pFlt r) := by
  have H0 := h
  unfold flo_Canon at H0
  clear h
  refine fn_ok (N := 8) Try.func61 rfl rfl (Nat.le_of_ble_eq_true rfl) rfl rfl (fun a g0 hst hb => ?_)
  refine r_s (L := [(0, _)]) (T := [⟨[], _, [], [], [2]⟩]) (F := [.old 0]) hst hb follows
    (o_p rfl (ob_assign rfl rfl c_f) <|
     o_n) (by kernel_rfl) (fun a g hst hb => ?_)
  refine wp_seq ?_
  refine r_s (L := [(0, _)]) (T := [⟨[.old 0], _, [], [], [3]⟩, ⟨[.old 0], _, [], [], [4]⟩, ⟨[.op 0 0, .op 1 0], _, [], [0, 1], [5]⟩]) (F := [.old 0, .op 2 0]) hst hb follows
    (o_p rfl (ob_move rfl rfl u_0) <|
     o_p rfl (ob_move rfl rfl u_0) <|
     o_p rfl (ob_fneq rfl rfl u_0 u_1) <|
     o_n) (by kernel_rfl) (fun a g hst hb => ?_)
  refine wp_cond_split (hst.bool 1 rfl) (fun hc1 => ?_) (fun hc1 => ?_)
  · replace H0 := ite_t hc1 H0
    obtain ⟨r2, h3, H0⟩ := of_bind H0
    refine r_s (L := []) (T := [⟨[], _, [], [], [6]⟩, ⟨[.op 0 0], _, [], [0], [2]⟩]) (F := [.op 1 0]) (hst.pick [] rfl) hb follows
      (o_p rfl (ob_call en_68 (math_NaN_ok h3) rfl rfl .nil) <|
       o_p rfl (ob_assign rfl rfl u_0) <|
       o_n) (by kernel_rfl) (fun a g hst hb => ?_)
    refine wp_ret ?_
    refine then_r ?_
    obtain rfl := Option.some.inj H0
    exact endR1 rfl hst hb (res_tmp (s := 2)) (hst.at 0 rfl)
  · replace H0 := ite_f hc1 H0
    refine wp_skip ?_
    refine then_n ?_
    refine r_s (L := [(0, _)]) (T := [⟨[.old 0], _, [], [], [7]⟩, ⟨[.op 0 0], _, [], [0], [2]⟩]) (F := [.op 1 0]) (hst.pick [0] rfl) hb follows
      (o_p rfl (ob_move rfl rfl u_0) <|
       o_p rfl (ob_assign rfl rfl u_0) <|
       o_n) (by kernel_rfl) (fun a g hst hb => ?_)
    refine wp_ret ?_
    obtain rfl := Option.some.inj H0
    exact endR1 rfl hst hb (res_tmp (s := 2)) (hst.at 0 rfl)
end Go.CL

set_option linter.unusedVariables false
set_option linter.unusedSimpArgs false
set_option maxRecDepth 100000
namespace Go.CL
open Go Go.RowKit Go.Proofs
theorem flo_Key_ok (a0 : Nat) {r : Int} (h : flo_Key a0 = some r) : FnOk Try.prog 55 [(pFlt a0)] (pInt .u64 r) := by
  have H0 := h
  unfold flo_Key at H0
  clear h
  refine fn_ok (N := 14) Try.func55 rfl rfl (Nat.le_of_ble_eq_true rfl) rfl rfl (fun a g0 hst hb => ?_)
  refine r_s (L := [(0, _)]) (T := [⟨[], _, [], [], [2]⟩]) (F := [.old 0]) hst hb follows
    (o_p rfl (ob_assign rfl rfl c_i) <|
     o_n) (by kernel_rfl) (fun a g hst hb => ?_)
  obtain ⟨r1, h2, H0⟩ := of_bind H0
  refine r_s (L := [(0, _)]) (T := [⟨[.old 0], _, [], [], [4]⟩, ⟨[.op 0 0], _, [], [0], [5]⟩, ⟨[.op 1 0], _, [], [0, 1], [6]⟩, ⟨[.op 2 0], _, [], [0, 1, 2], [3]⟩]) (F := [.op 3 0]) hst hb follows
    (o_p rfl (ob_move rfl rfl u_0) <|
     o_p rfl (ob_call en_61 (flo_Canon_ok _ h2) rfl rfl (.cons u_0 .nil)) <|
     o_p rfl (ob_bits ex_60 rfl rfl u_0) <|
     o_p rfl (ob_assign rfl rfl u_0) <|
     o_n) (by kernel_rfl) (fun a g hst hb => ?_)
  refine wp_seq ?_
  refine r_s (L := [(3, _)]) (T := [⟨[.old 0], _, [], [], [7]⟩, ⟨[.op 0 0], _, [], [0], [8]⟩, ⟨[.op 1 0], _, [], [0, 1], [9]⟩]) (F := [.old 0, .op 2 0]) hst hb follows
    (o_p rfl (ob_move rfl rfl u_0) <|
     o_p rfl (ob_and rfl rfl u_0 c_i) <|
     o_p rfl (ob_ne rfl rfl u_0 c_i) <|
     o_n) (by kernel_rfl) (fun a g hst hb => ?_)
  refine wp_cond_split (hst.bool 1 rfl) (fun hc3 => ?_) (fun hc3 => ?_)
  · replace H0 := ite_t hc3 H0
    refine r_s (L := [(3, _)]) (T := [⟨[.old 0], _, [], [], [10]⟩, ⟨[.op 0 0], _, [], [0], [11]⟩, ⟨[.op 1 0], _, [], [0, 1], [2]⟩]) (F := [.op 2 0]) (hst.pick [0] rfl) hb follows
      (o_p rfl (ob_move rfl rfl u_0) <|
       o_p rfl (ob_not1 rfl rfl rfl u_0) <|
       o_p rfl (ob_assign rfl rfl u_0) <|
       o_n) (by kernel_rfl) (fun a g hst hb => ?_)
    refine wp_ret ?_
    refine then_r ?_
    obtain rfl := Option.some.inj H0
    exact endR1 rfl hst hb (res_tmp (s := 2)) (hst.at 0 rfl)
  · replace H0 := ite_f hc3 H0
    refine wp_skip ?_
    refine then_n ?_
    refine r_s (L := [(3, _)]) (T := [⟨[.old 0], _, [], [], [12]⟩, ⟨[.op 0 0], _, [], [0], [13]⟩, ⟨[.op 1 0], _, [], [0, 1], [2]⟩]) (F := [.op 2 0]) (hst.pick [0] rfl) hb follows
      (o_p rfl (ob_move rfl rfl u_0) <|
       o_p rfl (ob_or rfl rfl u_0 c_i) <|
       o_p rfl (ob_assign rfl rfl u_0) <|
       o_n) (by kernel_rfl) (fun a g hst hb => ?_)
    refine wp_ret ?_
    obtain rfl := Option.some.inj H0
    exact endR1 rfl hst hb (res_tmp (s := 2)) (hst.at 0 rfl)
end Go.CL

set_option linter.unusedVariables false
set_option linter.unusedSimpArgs false
set_option maxRecDepth 100000
namespace Go.CL
open Go Go.RowKit Go.Proofs
theorem flo_Same_ok (a0 : Nat) (a1 : Nat) {r : Bool} (h : flo_Same a0 a1 = some r) : FnOk Try.prog 42 [(pFlt a0), (pFlt a1)] (pBool r) := by
  have H0 := h
  unfold flo_Same at H0
  clear h
  refine fn_ok (N := 10) Try.func42 rfl rfl (Nat.le_of_ble_eq_true rfl) rfl rfl (fun a g0 hst hb => ?_)
  refine r_s (L := [(0, _), (1, _)]) (T := [⟨[], _, [], [], [4]⟩]) (F := [.old 0, .old 1]) hst hb follows
    (o_p rfl (ob_assign rfl rfl c_b) <|
     o_n) (by kernel_rfl) (fun a g hst hb => ?_)
  obtain ⟨r1, h2, H0⟩ := of_bind H0; obtain ⟨r3, h4, H0⟩ := of_bind H0
  refine r_s (L := [(0, _), (1, _)]) (T := [⟨[.old 0], _, [], [], [5]⟩, ⟨[.op 0 0], _, [], [0], [6]⟩, ⟨[.old 1], _, [], [], [7]⟩, ⟨[.op 2 0], _, [], [0, 1, 2], [8]⟩, ⟨[.op 1 0, .op 3 0], _, [], List.range 4, [9]⟩, ⟨[.op 4 0], _, [], List.range 5, [4]⟩]) (F := [.op 5 0]) hst hb follows
    (o_p rfl (ob_move rfl rfl u_0) <|
     o_p rfl (ob_call en_55 (flo_Key_ok _ h2) rfl rfl (.cons u_0 .nil)) <|
     o_p rfl (ob_move rfl rfl u_0) <|
     o_p rfl (ob_call en_55 (flo_Key_ok _ h4) rfl rfl (.cons u_0 .nil)) <|
     o_p rfl (ob_eq rfl rfl u_0 u_1) <|
     o_p rfl (ob_assign rfl rfl u_0) <|
     o_n) (by kernel_rfl) (fun a g hst hb => ?_)
  refine wp_ret ?_
  obtain rfl := Option.some.inj H0
  exact endR1 rfl hst hb (res_tmp (s := 4)) (hst.at 0 rfl)
end Go.CL

set_option linter.unusedVariables false
set_option linter.unusedSimpArgs false
set_option maxRecDepth 100000
namespace Go.CL
open Go Go.RowKit Go.Proofs
theorem slices_EqualFunc_api_Item_api_Item_api_Item_api_Item_ok (f2 : Nat) (C2 : List Pd) (hC2 : Free C2) (e2_ : Enters Try.prog f2) (φ2 : api_Item → api_Item → Option Bool) (hφ2 : ∀ (y0 : api_Item) (y1 : api_Item) (r : Bool), φ2 y0 y1 = some r → FnOk Try.prog f2 ([(k_api_Item.pd y0), (k_api_Item.pd y1)] ++ C2) (pBool r)) (a0 : List api_Item) (a1 : List api_Item) {r : Bool} (h : slices_EqualFunc_api_Item_api_Item_api_Item_api_Item a0 a1 φ2 = some r) : FnOk Try.prog 43 [(k_api_Item.sl.pd a0), (k_api_Item.sl.pd a1), (pClo f2 C2 hC2)] (pBool r) := by
  have H0 := h
  unfold slices_EqualFunc_api_Item_api_Item_api_Item_api_Item at H0
  clear h
  refine fn_ok (N := 32) Try.func43 rfl rfl (Nat.le_of_ble_eq_true rfl) rfl rfl (fun a g0 hst hb => ?_)
  refine r_s (L := [(0, _), (1, _), (2, _)]) (T := [⟨[], _, [], [], [6]⟩]) (F := [.old 0, .old 1, .old 2]) hst hb follows
    (o_p rfl (ob_assign rfl rfl c_b) <|
     o_n) (by kernel_rfl) (fun a g hst hb => ?_)
  refine wp_seq ?_
  refine r_s (L := [(0, _), (1, _), (2, _)]) (T := [⟨[.old 0], _, [], [], [10]⟩, ⟨[.op 0 0], _, [], [0], [11]⟩, ⟨[.old 1], _, [], [], [12]⟩, ⟨[.op 2 0], _, [], [2], [13]⟩, ⟨[.op 1 0, .op 3 0], _, [], List.range 4, [14]⟩]) (F := [.old 0, .old 1, .old 2, .op 4 0]) hst hb follows
    (o_p rfl (ob_move rfl rfl u_0) <|
     o_p rfl (ob_lenL Try.underlying36 rfl rfl u_0) <|
     o_p rfl (ob_move rfl rfl u_0) <|
     o_p rfl (ob_lenL Try.underlying36 rfl rfl u_0) <|
     o_p rfl (ob_ne rfl rfl u_0 u_1) <|
     o_n) (by kernel_rfl) (fun a g hst hb => ?_)
  refine wp_cond_split (hst.bool 3 rfl) (fun hc1 => ?_) (fun hc1 => ?_)
  · replace H0 := ite_t hc1 H0
    refine r_s (L := []) (T := [⟨[], _, [], [], [6]⟩]) (F := [.op 0 0]) (hst.pick [] rfl) hb follows
      (o_p rfl (ob_assign rfl rfl c_b) <|
       o_n) (by kernel_rfl) (fun a g hst hb => ?_)
    refine wp_ret ?_
    refine then_r ?_
    obtain rfl := Option.some.inj H0
    exact endR1 rfl hst hb (res_tmp (s := 6)) (hst.at 0 rfl)
  · replace H0 := ite_f hc1 H0
    refine wp_skip ?_
    refine then_n ?_
    refine wp_seq ?_
    refine r_s (L := [(0, _), (1, _), (2, _)]) (T := [⟨[.old 0], _, [], [], [15]⟩, ⟨[.op 0 0], _, [], [0], [16]⟩, ⟨[], _, [], [], [17]⟩]) (F := [.old 1, .old 2, .op 0 0, .op 1 0, .op 2 0]) (hst.pick [0, 1, 2] rfl) hb follows
      (o_p rfl (ob_move rfl rfl u_0) <|
       o_p rfl (ob_lenL Try.underlying36 rfl rfl u_0) <|
       o_p rfl (ob_move rfl rfl c_i) <|
       o_n) (by kernel_rfl) (fun a g hst hb => ?_)
    obtain ⟨z11, hz1, H0⟩ := of_bind H0
    refine wp_cut (fun a w => ∃ (g : G), w = g.w ∧ St 32 [] a g ∧ Base g0 g ∧ (.inr ()) = z11) ?_ ?_
    · rintro a w ⟨g, rfl, hst, hb, rfl⟩
      refine then_n ?_
      refine r_s (L := []) (T := [⟨[], _, [], [], [6]⟩]) (F := [.op 0 0]) hst hb follows
        (o_p rfl (ob_assign rfl rfl c_b) <|
         o_n) (by kernel_rfl) (fun a g hst hb => ?_)
      refine wp_ret ?_
      obtain rfl := Option.some.inj H0
      exact endR1 rfl hst hb (res_tmp (s := 6)) (hst.at 0 rfl)
    · refine wp_block ?_
      refine wp_loop_ghost (fun n a w => ∃ (x2 : Int) (g : G), w = g.w ∧ St 32 [(1, (k_api_Item.sl.pd a1)), (2, (pClo f2 C2 hC2)), (15, (k_api_Item.sl.pd a0)), (16, (pInt .i64 (a0.length : Int))), (17, (pInt .i64 x2))] a g ∧ Base g0 g ∧ slices_EqualFunc_api_Item_api_Item_api_Item_api_Item_l1 a0 a1 φ2 n x2 = some z11) (Int.toNat ((a0.length : Int) - (0 : Int)) + 1) ⟨(0 : Int), g, rfl, (hst.pick [0, 1, 2, 3, 4] rfl), hb, hz1⟩ (fun n a w hI => ?_)
      obtain ⟨x2, g, rfl, hst, hb, H1⟩ := hI
      cases n with
      | zero => exact absurd H1 (by simp [slices_EqualFunc_api_Item_api_Item_api_Item_api_Item_l1])
      | succ n =>
        rw [slices_EqualFunc_api_Item_api_Item_api_Item_api_Item_l1] at H1
        refine r_s (L := [(1, _), (2, _), (15, _), (16, _), (17, _)]) (T := [⟨[.old 4, .old 3], _, [], [], [18]⟩]) (F := [.old 0, .old 1, .old 2, .old 3, .old 4, .op 0 0]) hst hb follows
          (o_p rfl (ob_lt rfl rfl u_0 u_1) <|
           o_n) (by kernel_rfl) (fun a g hst hb => ?_)
        refine wp_seq ?_
        refine wp_cond_split (hst.bool 5 rfl) (fun hc3 => ?_) (fun hc3 => ?_)
        · replace H1 := ite_t hc3 H1
          refine wp_skip ?_
          refine then_n ?_
          refine wp_seq ?_
          refine wp_block ?_
          obtain ⟨e4, h5, H1⟩ := of_bind H1
          refine r_s (L := [(1, _), (2, _), (15, _), (16, _), (17, _)]) (T := [⟨[.old 4], _, [], [], [19]⟩, ⟨[.old 2, .old 4], _, [], [], [20]⟩, ⟨[.op 1 0], _, [], [1], [21]⟩, ⟨[], [(8, (pBox k_api_Item 8 (default : api_Item)))], [9], [], [8]⟩, ⟨[.op 0 0], _, [], List.range 4, [7]⟩, ⟨[.op 2 0, .op 3 0], _, [9], List.range 5, [8]⟩]) (F := [.old 0, .old 1, .op 4 0, .op 5 0, .old 2, .old 3, .old 4]) (hst.pick [0, 1, 2, 3, 4] rfl) hb follows
            (o_p rfl (ob_move rfl rfl u_0) <|
             o_p rfl (ob_indexAddr Try.underlying36 sz_64 rfl rfl u_0 u_1 h5) <|
             o_p rfl (ob_load ty_64 rfl rfl u_0) <|
             o_p rfl (ob_alloc (zs := [.float .f64 0, .string ByteArray.empty]) (by kernel_rfl) (fun g => zk_api_Item g) rfl rfl) <|
             o_p rfl (ob_assign rfl rfl u_0) <|
             o_p rfl (ob_storeF ty_64 rfl rfl u_1 u_0) <|
             o_n) (by kernel_rfl) (fun a g hst hb => ?_)
          obtain ⟨e6, h7, H1⟩ := of_bind H1
          refine r_s (L := [(1, _), (2, _), (7, _), (8, _), (15, _), (16, _), (17, _)]) (T := [⟨[.old 0], _, [], [], [22]⟩, ⟨[.old 2], _, [], [], [23]⟩, ⟨[.op 0 0, .op 1 0], _, [], [0, 1], [24]⟩, ⟨[.op 2 0], _, [], [0, 1, 2], [25]⟩, ⟨[], [(9, (pBox k_api_Item 9 (default : api_Item)))], [10], [], [9]⟩, ⟨[.op 3 0, .op 4 0], _, [10], List.range 5, [9]⟩]) (F := [.old 0, .old 1, .old 3, .op 5 0, .old 4, .old 5, .old 6]) hst hb follows
            (o_p rfl (ob_move rfl rfl u_0) <|
             o_p rfl (ob_move rfl rfl u_0) <|
             o_p rfl (ob_indexAddr Try.underlying36 sz_64 rfl rfl u_0 u_1 h7) <|
             o_p rfl (ob_load ty_64 rfl rfl u_0) <|
             o_p rfl (ob_alloc (zs := [.float .f64 0, .string ByteArray.empty]) (by kernel_rfl) (fun g => zk_api_Item g) rfl rfl) <|
             o_p rfl (ob_storeF ty_64 rfl rfl u_1 u_0) <|
             o_n) (by kernel_rfl) (fun a g hst hb => ?_)
          obtain ⟨r8, h9, H1⟩ := of_bind H1
          refine r_s (L := [(1, _), (2, _), (8, _), (9, _), (15, _), (16, _), (17, _)]) (T := [⟨[.old 1], _, [], [], [26]⟩, ⟨[.old 2], _, [], [], [27]⟩, ⟨[.old 3], _, [], [], [28]⟩, ⟨[.op 0 0, .op 1 0, .op 2 0], _, [], [0, 1, 2], [29]⟩, ⟨[.op 3 0], _, [], List.range 4, [30]⟩]) (F := [.old 0, .old 1, .old 4, .old 5, .old 6, .op 4 0]) hst hb follows
            (o_p rfl (ob_move rfl rfl u_0) <|
             o_p rfl (ob_load ty_64 rfl rfl u_0) <|
             o_p rfl (ob_load ty_64 rfl rfl u_0) <|
             o_p rfl (ob_callV e2_ (hφ2 _ _ _ h9) rfl rfl u_0 (.cons u_1 (.cons u_2 .nil))) <|
             o_p rfl (ob_not rfl rfl u_0) <|
             o_n) (by kernel_rfl) (fun a g hst hb => ?_)
          refine wp_cond_split (hst.bool 5 rfl) (fun hc10 => ?_) (fun hc10 => ?_)
          · replace H1 := ite_t hc10 H1
            refine r_s (L := []) (T := [⟨[], _, [], [], [6]⟩]) (F := [.op 0 0]) (hst.pick [] rfl) hb follows
              (o_p rfl (ob_assign rfl rfl c_b) <|
               o_n) (by kernel_rfl) (fun a g hst hb => ?_)
            refine wp_ret ?_
            refine inBlock_r ?_
            refine then_r ?_
            refine then_r ?_
            refine inBlock_r ?_
            refine then_r ?_
            refine then_r ?_
            obtain rfl := Option.some.inj H1
            obtain rfl := Option.some.inj H0
            exact endR1 rfl hst hb (res_tmp (s := 6)) (hst.at 0 rfl)
          · replace H1 := ite_f hc10 H1
            refine wp_skip ?_
            refine inBlock_n ?_
            refine then_n ?_
            refine r_g (L := [(1, _), (2, _), (15, _), (16, _), (17, _)]) (T := [⟨[.old 4], _, [], [], [31]⟩, ⟨[.op 0 0], _, [], [0], [17]⟩]) (F := [.old 0, .old 1, .old 2, .old 3, .op 1 0]) (hst.pick [0, 1, 2, 3, 4] rfl) hb follows
              (o_p rfl (ob_add rfl rfl u_0 c_i rfl) <|
               o_p rfl (ob_move rfl rfl u_0) <|
               o_n) (by kernel_rfl) (fun a g hst hb => ?_)
            exact ⟨n, Nat.lt_succ_self _, (IntKind.i64.wrap (x2 + (1 : Int))), g, rfl, (hst.pick [0, 1, 2, 3, 4] rfl), hb, H1⟩
        · replace H1 := ite_f hc3 H1
          refine wp_exit ?_
          refine then_e ?_
          refine then_e ?_
          refine inBlock_e ?_
          exact ⟨g, rfl, (hst.pick [] rfl), hb, Option.some.inj H1⟩
end Go.CL

set_option linter.unusedVariables false
set_option linter.unusedSimpArgs false
set_option maxRecDepth 100000
namespace Go.CL
open Go Go.RowKit Go.Proofs
theorem rec_Same_1_ok (a0 : api_Item) (a1 : api_Item) {r : Bool} (h : rec_Same_1 a0 a1 = some r) : FnOk Try.prog 44 [(k_api_Item.pd a0), (k_api_Item.pd a1)] (pBool r) := by
  have H0 := h
  unfold rec_Same_1 at H0
  clear h
  refine fn_ok (N := 17) Try.func44 rfl rfl (Nat.le_of_ble_eq_true rfl) rfl rfl (fun a g0 hst hb => ?_)
  refine r_s (L := [(0, _), (1, _)]) (T := [⟨[.old 0], _, [], [], [2]⟩, ⟨[.old 1], _, [], [], [3]⟩, ⟨[], _, [], [], [4]⟩]) (F := [.op 0 0, .op 1 0]) hst hb follows
    (o_p rfl (ob_box1 rfl rfl u_0) <|
     o_p rfl (ob_box1 rfl rfl u_0) <|
     o_p rfl (ob_assign rfl rfl c_b) <|
     o_n) (by kernel_rfl) (fun a g hst hb => ?_)
  obtain ⟨r1, h2, H0⟩ := of_bind H0
  refine r_s (L := [(2, _), (3, _)]) (T := ⟨[.old 0], _, [], [], [5]⟩ :: ⟨[.op 0 0], _, [], [0], [6]⟩ :: ⟨[.old 1], _, [], [], [7]⟩ :: ⟨[.op 2 0], _, [], [2], [8]⟩ :: ⟨[.op 1 0, .op 3 0], _, [], List.range 4, [9]⟩ :: ⟨[.op 4 0], _, [], List.range 5, [10]⟩ :: ⟨[.op 5 0, .old 0], _, [], List.range 6, [11]⟩ :: ⟨[.op 5 0, .op 6 0], _, [], List.range 7, [12]⟩ :: ⟨[.op 5 0, .old 1], _, [], List.range 6, [13]⟩ :: ⟨[.op 5 0, .op 8 0], _, [], [0, 1, 2, 3, 4, 5, 8], [14]⟩ :: ⟨[.op 5 0, .op 7 0, .op 9 0], _, [], List.range 10, [15]⟩ :: ⟨[.op 5 0, .op 10 0], _, [], List.range 11, [16]⟩ :: ⟨[.op 11 0], _, [], List.range 12, [4]⟩ :: []) (F := [.op 12 0]) hst hb follows
    (o_p rfl (ob_fieldAddr fl_64_1 rfl rfl u_0) <|
     o_p rfl (ob_load ty_9 rfl rfl u_0) <|
     o_p rfl (ob_fieldAddr fl_64_1 rfl rfl u_0) <|
     o_p rfl (ob_load ty_9 rfl rfl u_0) <|
     o_p rfl (ob_seq rfl rfl u_0 u_1) <|
     o_p rfl (ob_move rfl rfl u_0) <|
     o_g (g_t rfl rfl rfl (fun hG => ob_fieldAddr fl_64_0 rfl rfl u_0)) <|
     o_g (g_t rfl rfl rfl (fun hG => ob_load ty_35 rfl rfl (Opd.gd hG u_0))) <|
     o_g (g_t rfl rfl rfl (fun hG => ob_fieldAddr fl_64_0 rfl rfl u_0)) <|
     o_g (g_t rfl rfl rfl (fun hG => ob_load ty_35 rfl rfl (Opd.gd hG u_0))) <|
     o_g (g_t rfl rfl rfl (fun hG => ob_call en_42 (flo_Same_ok _ _ (gd_true h2 hG)) rfl rfl (.cons (Opd.gd hG u_0) (.cons (Opd.gd hG u_1) .nil)))) <|
     o_p rfl (ob_pand rfl rfl u_0 (fun hz => (Opd.gd hz u_1))) <|
     o_p rfl (ob_assign rfl rfl u_0) <|
     o_n) (by kernel_rfl) (fun a g hst hb => ?_)
  refine wp_ret ?_
  obtain rfl := Option.some.inj H0
  exact endR1 rfl hst hb (res_tmp (s := 4)) (hst.at 0 rfl)
end Go.CL

set_option linter.unusedVariables false
set_option linter.unusedSimpArgs false
set_option maxRecDepth 100000
namespace Go.CL
open Go Go.RowKit Go.Proofs
theorem rec_Same_ok (a0 : api_Record) (a1 : api_Record) {r : Bool} (h : rec_Same a0 a1 = some r) : FnOk Try.prog 29 [(k_api_Record.pd a0), (k_api_Record.pd a1)] (pBool r) := by
  have H0 := h
  unfold rec_Same at H0
  clear h
  refine fn_ok (N := 59) Try.func29 rfl rfl (Nat.le_of_ble_eq_true rfl) rfl rfl (fun a g0 hst hb => ?_)
  refine r_s (L := [(0, _), (1, _)]) (T := [⟨[.old 0], _, [], [], [2]⟩, ⟨[.old 1], _, [], [], [3]⟩, ⟨[], _, [], [], [4]⟩]) (F := [.op 0 0, .op 1 0]) hst hb follows
    (o_p rfl (ob_box1 rfl rfl u_0) <|
     o_p rfl (ob_box1 rfl rfl u_0) <|
     o_p rfl (ob_assign rfl rfl c_b) <|
     o_n) (by kernel_rfl) (fun a g hst hb => ?_)
  obtain ⟨r1, h2, H0⟩ := of_bind H0; obtain ⟨r3, h4, H0⟩ := of_bind H0
  refine r_s (L := [(2, _), (3, _)]) (T := ⟨[.old 0], _, [], [], [5]⟩ :: ⟨[.op 0 0], _, [], [0], [6]⟩ :: ⟨[.old 1], _, [], [], [7]⟩ :: ⟨[.op 2 0], _, [], [2], [8]⟩ :: ⟨[.op 1 0, .op 3 0], _, [], List.range 4, [9]⟩ :: ⟨[.op 4 0], _, [], List.range 5, [10]⟩ :: ⟨[.op 5 0, .old 0], _, [], List.range 6, [11]⟩ :: ⟨[.op 5 0, .op 6 0], _, [], List.range 7, [12]⟩ :: ⟨[.op 5 0, .old 1], _, [], List.range 6, [13]⟩ :: ⟨[.op 5 0, .op 8 0], _, [], [0, 1, 2, 3, 4, 5, 8], [14]⟩ :: ⟨[.op 5 0, .op 7 0, .op 9 0], _, [], List.range 10, [15]⟩ :: ⟨[.op 5 0, .op 10 0], _, [], List.range 11, [16]⟩ :: ⟨[.op 11 0], _, [], List.range 12, [17]⟩ :: ⟨[.op 12 0, .old 0], _, [], List.range 13, [18]⟩ :: ⟨[.op 12 0, .op 13 0], _, [], List.range 14, [19]⟩ :: ⟨[.op 12 0, .old 1], _, [], List.range 13, [20]⟩ :: ⟨[.op 12 0, .op 15 0], _, [], 0 :: 1 :: 2 :: 3 :: 4 :: 5 :: 6 :: 7 :: 8 :: 9 :: 10 :: 11 :: 12 :: 15 :: [], [21]⟩ :: ⟨[.op 12 0, .op 14 0, .op 16 0], _, [], List.range 17, [22]⟩ :: ⟨[.op 12 0, .op 17 0], _, [], List.range 18, [23]⟩ :: ⟨[.op 18 0], _, [], List.range 19, [24]⟩ :: ⟨[.op 19 0, .old 0], _, [], List.range 20, [25]⟩ :: ⟨[.op 19 0, .op 20 0], _, [], List.range 21, [26]⟩ :: ⟨[.op 19 0, .old 1], _, [], List.range 20, [27]⟩ :: ⟨[.op 19 0, .op 22 0], _, [], 0 :: 1 :: 2 :: 3 :: 4 :: 5 :: 6 :: 7 :: 8 :: 9 :: 10 :: 11 :: 12 :: 13 :: 14 :: 15 :: 16 :: 17 :: 18 :: 19 :: 22 :: [], [28]⟩ :: ⟨[.op 19 0, .op 21 0, .op 23 0], _, [], List.range 24, [29]⟩ :: ⟨[.op 19 0, .op 24 0], _, [], List.range 25, [30]⟩ :: ⟨[.op 25 0], _, [], List.range 26, [31]⟩ :: ⟨[.op 26 0, .old 0], _, [], List.range 27, [32]⟩ :: ⟨[.op 26 0, .op 27 0], _, [], List.range 28, [33]⟩ :: ⟨[.op 26 0, .old 1], _, [], List.range 27, [34]⟩ :: ⟨[.op 26 0, .op 29 0], _, [], 0 :: 1 :: 2 :: 3 :: 4 :: 5 :: 6 :: 7 :: 8 :: 9 :: 10 :: 11 :: 12 :: 13 :: 14 :: 15 :: 16 :: 17 :: 18 :: 19 :: 20 :: 21 :: 22 :: 23 :: 24 :: 25 :: 26 :: 29 :: [], [35]⟩ :: ⟨[.op 26 0, .op 28 0, .op 30 0], _, [], List.range 31, [36]⟩ :: ⟨[.op 26 0, .op 31 0], _, [], List.range 32, [37]⟩ :: ⟨[.op 32 0], _, [], List.range 33, [38]⟩ :: ⟨[.op 33 0, .old 0], _, [], List.range 34, [39]⟩ :: ⟨[.op 33 0, .op 34 0], _, [], List.range 35, [40]⟩ :: ⟨[.op 33 0, .old 1], _, [], List.range 34, [41]⟩ :: ⟨[.op 33 0, .op 36 0], _, [], 0 :: 1 :: 2 :: 3 :: 4 :: 5 :: 6 :: 7 :: 8 :: 9 :: 10 :: 11 :: 12 :: 13 :: 14 :: 15 :: 16 :: 17 :: 18 :: 19 :: 20 :: 21 :: 22 :: 23 :: 24 :: 25 :: 26 :: 27 :: 28 :: 29 :: 30 :: 31 :: 32 :: 33 :: 36 :: [], [42]⟩ :: ⟨[.op 33 0, .op 35 0, .op 37 0], _, [], List.range 38, [43]⟩ :: ⟨[.op 33 0, .op 38 0], _, [], List.range 39, [44]⟩ :: ⟨[.op 39 0], _, [], List.range 40, [45]⟩ :: ⟨[.op 40 0, .old 0], _, [], List.range 41, [46]⟩ :: ⟨[.op 40 0, .op 41 0], _, [], List.range 42, [47]⟩ :: ⟨[.op 40 0, .old 1], _, [], List.range 41, [48]⟩ :: ⟨[.op 40 0, .op 43 0], _, [], 0 :: 1 :: 2 :: 3 :: 4 :: 5 :: 6 :: 7 :: 8 :: 9 :: 10 :: 11 :: 12 :: 13 :: 14 :: 15 :: 16 :: 17 :: 18 :: 19 :: 20 :: 21 :: 22 :: 23 :: 24 :: 25 :: 26 :: 27 :: 28 :: 29 :: 30 :: 31 :: 32 :: 33 :: 34 :: 35 :: 36 :: 37 :: 38 :: 39 :: 40 :: 43 :: [], [49]⟩ :: ⟨[.op 40 0, .op 42 0, .op 44 0], _, [], List.range 45, [50]⟩ :: ⟨[.op 40 0, .op 45 0], _, [], List.range 46, [51]⟩ :: ⟨[.op 46 0], _, [], List.range 47, [52]⟩ :: ⟨[.op 47 0, .old 0], _, [], List.range 48, [53]⟩ :: ⟨[.op 47 0, .op 48 0], _, [], List.range 49, [54]⟩ :: ⟨[.op 47 0, .old 1], _, [], List.range 48, [55]⟩ :: ⟨[.op 47 0, .op 50 0], _, [], 0 :: 1 :: 2 :: 3 :: 4 :: 5 :: 6 :: 7 :: 8 :: 9 :: 10 :: 11 :: 12 :: 13 :: 14 :: 15 :: 16 :: 17 :: 18 :: 19 :: 20 :: 21 :: 22 :: 23 :: 24 :: 25 :: 26 :: 27 :: 28 :: 29 :: 30 :: 31 :: 32 :: 33 :: 34 :: 35 :: 36 :: 37 :: 38 :: 39 :: 40 :: 41 :: 42 :: 43 :: 44 :: 45 :: 46 :: 47 :: 50 :: [], [56]⟩ :: ⟨[.op 47 0, .op 49 0, .op 51 0], _, [], List.range 52, [57]⟩ :: ⟨[.op 47 0, .op 52 0], _, [], List.range 53, [58]⟩ :: ⟨[.op 53 0], _, [], List.range 54, [4]⟩ :: []) (F := [.op 54 0]) hst hb follows
    (o_p rfl (ob_fieldAddr fl_38_0 rfl rfl u_0) <|
     o_p rfl (ob_load ty_3 rfl rfl u_0) <|
     o_p rfl (ob_fieldAddr fl_38_0 rfl rfl u_0) <|
     o_p rfl (ob_load ty_3 rfl rfl u_0) <|
     o_p rfl (ob_eq rfl rfl u_0 u_1) <|
     o_p rfl (ob_move rfl rfl u_0) <|
     o_g (g_t rfl rfl rfl (fun hG => ob_fieldAddr fl_38_1 rfl rfl u_0)) <|
     o_g (g_t rfl rfl rfl (fun hG => ob_load ty_2 rfl rfl (Opd.gd hG u_0))) <|
     o_g (g_t rfl rfl rfl (fun hG => ob_fieldAddr fl_38_1 rfl rfl u_0)) <|
     o_g (g_t rfl rfl rfl (fun hG => ob_load ty_2 rfl rfl (Opd.gd hG u_0))) <|
     o_g (g_t rfl rfl rfl (fun hG => ob_eq rfl rfl (Opd.gd hG u_0) (Opd.gd hG u_1))) <|
     o_p rfl (ob_pand rfl rfl u_0 (fun hz => (Opd.gd hz u_1))) <|
     o_p rfl (ob_move rfl rfl u_0) <|
     o_g (g_t rfl rfl rfl (fun hG => ob_fieldAddr fl_38_2 rfl rfl u_0)) <|
     o_g (g_t rfl rfl rfl (fun hG => ob_load ty_2 rfl rfl (Opd.gd hG u_0))) <|
     o_g (g_t rfl rfl rfl (fun hG => ob_fieldAddr fl_38_2 rfl rfl u_0)) <|
     o_g (g_t rfl rfl rfl (fun hG => ob_load ty_2 rfl rfl (Opd.gd hG u_0))) <|
     o_g (g_t rfl rfl rfl (fun hG => ob_eq rfl rfl (Opd.gd hG u_0) (Opd.gd hG u_1))) <|
     o_p rfl (ob_pand rfl rfl u_0 (fun hz => (Opd.gd hz u_1))) <|
     o_p rfl (ob_move rfl rfl u_0) <|
     o_g (g_t rfl rfl rfl (fun hG => ob_fieldAddr fl_38_3 rfl rfl u_0)) <|
     o_g (g_t rfl rfl rfl (fun hG => ob_load ty_2 rfl rfl (Opd.gd hG u_0))) <|
     o_g (g_t rfl rfl rfl (fun hG => ob_fieldAddr fl_38_3 rfl rfl u_0)) <|
     o_g (g_t rfl rfl rfl (fun hG => ob_load ty_2 rfl rfl (Opd.gd hG u_0))) <|
     o_g (g_t rfl rfl rfl (fun hG => ob_eq rfl rfl (Opd.gd hG u_0) (Opd.gd hG u_1))) <|
     o_p rfl (ob_pand rfl rfl u_0 (fun hz => (Opd.gd hz u_1))) <|
     o_p rfl (ob_move rfl rfl u_0) <|
     o_g (g_t rfl rfl rfl (fun hG => ob_fieldAddr fl_38_4 rfl rfl u_0)) <|
     o_g (g_t rfl rfl rfl (fun hG => ob_load ty_35 rfl rfl (Opd.gd hG u_0))) <|
     o_g (g_t rfl rfl rfl (fun hG => ob_fieldAddr fl_38_4 rfl rfl u_0)) <|
     o_g (g_t rfl rfl rfl (fun hG => ob_load ty_35 rfl rfl (Opd.gd hG u_0))) <|
     o_g (g_t rfl rfl rfl (fun hG => ob_call en_42 (flo_Same_ok _ _ (gd_true h2 hG)) rfl rfl (.cons (Opd.gd hG u_0) (.cons (Opd.gd hG u_1) .nil)))) <|
     o_p rfl (ob_pand rfl rfl u_0 (fun hz => (Opd.gd hz u_1))) <|
     o_p rfl (ob_move rfl rfl u_0) <|
     o_g (g_t rfl rfl rfl (fun hG => ob_fieldAddr fl_38_5 rfl rfl u_0)) <|
     o_g (g_t rfl rfl rfl (fun hG => ob_load ty_3 rfl rfl (Opd.gd hG u_0))) <|
     o_g (g_t rfl rfl rfl (fun hG => ob_fieldAddr fl_38_5 rfl rfl u_0)) <|
     o_g (g_t rfl rfl rfl (fun hG => ob_load ty_3 rfl rfl (Opd.gd hG u_0))) <|
     o_g (g_t rfl rfl rfl (fun hG => ob_eq rfl rfl (Opd.gd hG u_0) (Opd.gd hG u_1))) <|
     o_p rfl (ob_pand rfl rfl u_0 (fun hz => (Opd.gd hz u_1))) <|
     o_p rfl (ob_move rfl rfl u_0) <|
     o_g (g_t rfl rfl rfl (fun hG => ob_fieldAddr fl_38_6 rfl rfl u_0)) <|
     o_g (g_t rfl rfl rfl (fun hG => ob_load ty_9 rfl rfl (Opd.gd hG u_0))) <|
     o_g (g_t rfl rfl rfl (fun hG => ob_fieldAddr fl_38_6 rfl rfl u_0)) <|
     o_g (g_t rfl rfl rfl (fun hG => ob_load ty_9 rfl rfl (Opd.gd hG u_0))) <|
     o_g (g_t rfl rfl rfl (fun hG => ob_seq rfl rfl (Opd.gd hG u_0) (Opd.gd hG u_1))) <|
     o_p rfl (ob_pand rfl rfl u_0 (fun hz => (Opd.gd hz u_1))) <|
     o_p rfl (ob_move rfl rfl u_0) <|
     o_g (g_t rfl rfl rfl (fun hG => ob_fieldAddr fl_38_7 rfl rfl u_0)) <|
     o_g (g_t rfl rfl rfl (fun hG => ob_load ty_36 rfl rfl (Opd.gd hG u_0))) <|
     o_g (g_t rfl rfl rfl (fun hG => ob_fieldAddr fl_38_7 rfl rfl u_0)) <|
     o_g (g_t rfl rfl rfl (fun hG => ob_load ty_36 rfl rfl (Opd.gd hG u_0))) <|
     o_g (g_t rfl rfl rfl (fun hG => ob_call en_43 (slices_EqualFunc_api_Item_api_Item_api_Item_api_Item_ok 44 [] rfl en_44 (fun y0 y1 => rec_Same_1 y0 y1) (fun y0 y1 r h => rec_Same_1_ok y0 y1 h) _ _ (gd_true h4 hG)) rfl rfl (.cons (Opd.gd hG u_0) (.cons (Opd.gd hG u_1) (.cons Opd.fnc .nil))))) <|
     o_p rfl (ob_pand rfl rfl u_0 (fun hz => (Opd.gd hz u_1))) <|
     o_p rfl (ob_assign rfl rfl u_0) <|
     o_n) (by kernel_rfl) (fun a g hst hb => ?_)
  refine wp_ret ?_
  obtain rfl := Option.some.inj H0
  exact endR1 rfl hst hb (res_tmp (s := 4)) (hst.at 0 rfl)
end Go.CL

set_option linter.unusedVariables false
set_option linter.unusedSimpArgs false
set_option maxRecDepth 100000
namespace Go.CL
open Go Go.RowKit Go.Proofs
theorem shelf_Same_ok (a0 : shelf_Shelf) (a1 : shelf_Shelf) {r : Bool} (h : shelf_Same a0 a1 = some r) : FnOk Try.prog 18 [(k_shelf_Shelf.pd a0), (k_shelf_Shelf.pd a1)] (pBool r) := by
  have H0 := h
  unfold shelf_Same at H0
  clear h
  refine fn_ok (N := 46) Try.func18 rfl rfl (Nat.le_of_ble_eq_true rfl) rfl rfl (fun a g0 hst hb => ?_)
  refine r_s (L := [(0, _), (1, _)]) (T := [⟨[.old 0], _, [], [], [2]⟩, ⟨[.old 1], _, [], [], [3]⟩, ⟨[], _, [], [], [4]⟩]) (F := [.op 0 0, .op 1 0]) hst hb follows
    (o_p rfl (ob_box1 rfl rfl u_0) <|
     o_p rfl (ob_box1 rfl rfl u_0) <|
     o_p rfl (ob_assign rfl rfl c_b) <|
     o_n) (by kernel_rfl) (fun a g hst hb => ?_)
  refine wp_seq ?_
  obtain ⟨r1, h2, H0⟩ := of_bind H0; obtain ⟨r3, h4, H0⟩ := of_bind H0
  refine r_s (L := [(2, _), (3, _)]) (T := [⟨[.old 0], _, [], [], [12]⟩, ⟨[.op 0 0], _, [], [0], [13]⟩, ⟨[.old 1], _, [], [], [14]⟩, ⟨[.op 2 0], _, [], [0, 1, 2], [15]⟩, ⟨[.op 1 0, .op 3 0], _, [], List.range 4, [16]⟩]) (F := [.old 0, .old 1, .op 4 0]) hst hb follows
    (o_p rfl (ob_load ty_28 rfl rfl u_0) <|
     o_p rfl (ob_call en_17 (shelf_Shelf_Len_ok _ h2) rfl rfl (.cons u_0 .nil)) <|
     o_p rfl (ob_load ty_28 rfl rfl u_0) <|
     o_p rfl (ob_call en_17 (shelf_Shelf_Len_ok _ h4) rfl rfl (.cons u_0 .nil)) <|
     o_p rfl (ob_ne rfl rfl u_0 u_1) <|
     o_n) (by kernel_rfl) (fun a g hst hb => ?_)
  refine wp_cond_split (hst.bool 2 rfl) (fun hc5 => ?_) (fun hc5 => ?_)
  · replace H0 := ite_t hc5 H0
    refine r_s (L := []) (T := [⟨[], _, [], [], [4]⟩]) (F := [.op 0 0]) (hst.pick [] rfl) hb follows
      (o_p rfl (ob_assign rfl rfl c_b) <|
       o_n) (by kernel_rfl) (fun a g hst hb => ?_)
    refine wp_ret ?_
    refine then_r ?_
    obtain rfl := Option.some.inj H0
    exact endR1 rfl hst hb (res_tmp (s := 4)) (hst.at 0 rfl)
  · replace H0 := ite_f hc5 H0
    refine wp_skip ?_
    refine then_n ?_
    refine wp_seq ?_
    obtain ⟨r6, h7, H0⟩ := of_bind H0
    refine r_s (L := [(2, _), (3, _)]) (T := [⟨[.old 0], _, [], [], [17]⟩, ⟨[.op 0 0], _, [], [0], [18]⟩, ⟨[], _, [], [], [19]⟩]) (F := [.old 0, .old 1, .op 1 0, .op 2 0]) (hst.pick [0, 1] rfl) hb follows
      (o_p rfl (ob_load ty_28 rfl rfl u_0) <|
       o_p rfl (ob_call en_17 (shelf_Shelf_Len_ok _ h7) rfl rfl (.cons u_0 .nil)) <|
       o_p rfl (ob_move rfl rfl c_i) <|
       o_n) (by kernel_rfl) (fun a g hst hb => ?_)
    obtain ⟨z17, hz1, H0⟩ := of_bind H0
    refine wp_cut (fun a w => ∃ (g : G), w = g.w ∧ St 46 [] a g ∧ Base g0 g ∧ (.inr ()) = z17) ?_ ?_
    · rintro a w ⟨g, rfl, hst, hb, rfl⟩
      refine then_n ?_
      refine r_s (L := []) (T := [⟨[], _, [], [], [4]⟩]) (F := [.op 0 0]) hst hb follows
        (o_p rfl (ob_assign rfl rfl c_b) <|
         o_n) (by kernel_rfl) (fun a g hst hb => ?_)
      refine wp_ret ?_
      obtain rfl := Option.some.inj H0
      exact endR1 rfl hst hb (res_tmp (s := 4)) (hst.at 0 rfl)
    · refine wp_block ?_
      refine wp_loop_ghost (fun n a w => ∃ (x8 : Int) (g : G), w = g.w ∧ St 46 [(2, (k_shelf_Shelf.ptr a0)), (3, (k_shelf_Shelf.ptr a1)), (18, (pInt .i64 r6)), (19, (pInt .i64 x8))] a g ∧ Base g0 g ∧ shelf_Same_l1 a0 a1 r6 n x8 = some z17) (Int.toNat (r6 - (0 : Int)) + 1) ⟨(0 : Int), g, rfl, (hst.pick [0, 1, 2, 3] rfl), hb, hz1⟩ (fun n a w hI => ?_)
      obtain ⟨x8, g, rfl, hst, hb, H1⟩ := hI
      cases n with
      | zero => exact absurd H1 (by simp [shelf_Same_l1])
      | succ n =>
        rw [shelf_Same_l1] at H1
        refine r_s (L := [(2, _), (3, _), (18, _), (19, _)]) (T := [⟨[.old 3, .old 2], _, [], [], [20]⟩]) (F := [.old 0, .old 1, .old 2, .old 3, .op 0 0]) hst hb follows
          (o_p rfl (ob_lt rfl rfl u_0 u_1) <|
           o_n) (by kernel_rfl) (fun a g hst hb => ?_)
        refine wp_seq ?_
        refine wp_cond_split (hst.bool 4 rfl) (fun hc9 => ?_) (fun hc9 => ?_)
        · replace H1 := ite_t hc9 H1
          refine wp_skip ?_
          refine then_n ?_
          refine wp_seq ?_
          refine wp_block ?_
          refine r_s (L := [(2, _), (3, _), (18, _), (19, _)]) (T := [⟨[.old 3], _, [], [], [21]⟩, ⟨[.op 0 0], _, [], [0], [5]⟩]) (F := [.old 0, .old 1, .op 1 0, .old 2, .old 3]) (hst.pick [0, 1, 2, 3] rfl) hb follows
            (o_p rfl (ob_move rfl rfl u_0) <|
             o_p rfl (ob_assign rfl rfl u_0) <|
             o_n) (by kernel_rfl) (fun a g hst hb => ?_)
          obtain ⟨r10, h11, H1⟩ := of_bind H1
          refine r_s (L := [(2, _), (3, _), (5, _), (18, _), (19, _)]) (T := [⟨[.old 0], _, [], [], [23]⟩, ⟨[.old 2], _, [], [], [24]⟩, ⟨[.op 0 0, .op 1 0], _, [], [0, 1], [25]⟩, ⟨[.op 2 0], _, [], [0, 1, 2], [22]⟩, ⟨[.op 3 0], _, [], List.range 4, [26]⟩, ⟨[.op 3 0], _, [], List.range 4, [27]⟩, ⟨[.op 3 0], _, [], List.range 4, [28]⟩, ⟨[], [(7, (pBox k_api_Record 7 (default : api_Record)))], [8], [], [7]⟩, ⟨[.op 4 0], _, [], [0, 1, 2, 3, 4, 7], [6]⟩, ⟨[.op 5 0, .op 7 0], _, [8], [0, 1, 2, 3, 4, 5, 7, 8], [7]⟩, ⟨[.op 6 0], _, [], List.range 10, [8]⟩]) (F := [.old 0, .old 1, .old 2, .op 8 0, .op 9 0, .old 3, .old 4]) hst hb follows
            (o_p rfl (ob_load ty_28 rfl rfl u_0) <|
             o_p rfl (ob_move rfl rfl u_0) <|
             o_p rfl (ob_call en_16 (shelf_Shelf_At_ok _ _ h11) rfl rfl (.cons u_0 (.cons u_1 .nil))) <|
             o_p rfl (ob_move rfl rfl u_0) <|
             o_p rfl (ob_extract rfl rfl u_0 rfl) <|
             o_p rfl (ob_extract rfl rfl u_0 rfl) <|
             o_p rfl (ob_extract rfl rfl u_0 rfl) <|
             o_p rfl (ob_alloc (zs := [.int .i64 0, .int .i64 0, .int .i64 0, .int .i64 0, .float .f64 0, .int .i64 0, .string ByteArray.empty, .slice none 0 0]) (by kernel_rfl) (fun g => zk_api_Record g) rfl rfl) <|
             o_p rfl (ob_assign rfl rfl u_0) <|
             o_p rfl (ob_storeF ty_38 rfl rfl u_1 u_0) <|
             o_p rfl (ob_assign rfl rfl u_0) <|
             o_n) (by kernel_rfl) (fun a g hst hb => ?_)
          obtain ⟨r12, h13, H1⟩ := of_bind H1
          refine r_s (L := [(2, _), (3, _), (5, _), (6, _), (7, _), (18, _), (19, _)]) (T := [⟨[.old 1], _, [], [], [30]⟩, ⟨[.old 2], _, [], [], [31]⟩, ⟨[.op 0 0, .op 1 0], _, [], [0, 1], [32]⟩, ⟨[.op 2 0], _, [], [0, 1, 2], [29]⟩, ⟨[.op 3 0], _, [], List.range 4, [33]⟩, ⟨[.op 3 0], _, [], List.range 4, [34]⟩, ⟨[.op 3 0], _, [], List.range 4, [35]⟩, ⟨[], [(10, (pBox k_api_Record 10 (default : api_Record)))], [11], [], [10]⟩, ⟨[.op 4 0], _, [], [0, 1, 2, 3, 4, 7], [9]⟩, ⟨[.op 5 0, .op 7 0], _, [11], [0, 1, 2, 3, 4, 5, 7, 8], [10]⟩, ⟨[.op 6 0], _, [], List.range 10, [11]⟩]) (F := [.old 0, .old 1, .old 3, .old 4, .op 8 0, .op 9 0, .old 5, .old 6]) hst hb follows
            (o_p rfl (ob_load ty_28 rfl rfl u_0) <|
             o_p rfl (ob_move rfl rfl u_0) <|
             o_p rfl (ob_call en_16 (shelf_Shelf_At_ok _ _ h13) rfl rfl (.cons u_0 (.cons u_1 .nil))) <|
             o_p rfl (ob_move rfl rfl u_0) <|
             o_p rfl (ob_extract rfl rfl u_0 rfl) <|
             o_p rfl (ob_extract rfl rfl u_0 rfl) <|
             o_p rfl (ob_extract rfl rfl u_0 rfl) <|
             o_p rfl (ob_alloc (zs := [.int .i64 0, .int .i64 0, .int .i64 0, .int .i64 0, .float .f64 0, .int .i64 0, .string ByteArray.empty, .slice none 0 0]) (by kernel_rfl) (fun g => zk_api_Record g) rfl rfl) <|
             o_p rfl (ob_assign rfl rfl u_0) <|
             o_p rfl (ob_storeF ty_38 rfl rfl u_1 u_0) <|
             o_p rfl (ob_assign rfl rfl u_0) <|
             o_n) (by kernel_rfl) (fun a g hst hb => ?_)
          obtain ⟨r14, h15, H1⟩ := of_bind H1
          refine r_s (L := [(2, _), (3, _), (6, _), (7, _), (9, _), (10, _), (18, _), (19, _)]) (T := [⟨[.old 2], _, [], [], [36]⟩, ⟨[.old 4], _, [], [], [37]⟩, ⟨[.op 0 0, .op 1 0], _, [], [0, 1], [38]⟩, ⟨[.op 2 0], _, [], [0, 1, 2], [39]⟩, ⟨[.op 3 0, .old 3], _, [], List.range 4, [40]⟩, ⟨[.op 3 0, .old 5], _, [], List.range 4, [41]⟩, ⟨[.op 3 0, .op 4 0, .op 5 0], _, [], List.range 6, [42]⟩, ⟨[.op 3 0, .op 6 0], _, [], List.range 7, [43]⟩, ⟨[.op 3 0, .op 7 0], _, [], List.range 8, [44]⟩]) (F := [.old 0, .old 1, .old 6, .old 7, .op 8 0]) hst hb follows
            (o_p rfl (ob_move rfl rfl u_0) <|
             o_p rfl (ob_move rfl rfl u_0) <|
             o_p rfl (ob_sne rfl rfl u_0 u_1) <|
             o_p rfl (ob_move rfl rfl u_0) <|
             o_g (g_f rfl rfl rfl (fun hG => ob_load ty_38 rfl rfl u_0)) <|
             o_g (g_f rfl rfl rfl (fun hG => ob_load ty_38 rfl rfl u_0)) <|
             o_g (g_f rfl rfl rfl (fun hG => ob_call en_29 (rec_Same_ok _ _ (gd_true h15 hG)) rfl rfl (.cons (Opd.gd hG u_0) (.cons (Opd.gd hG u_1) .nil)))) <|
             o_g (g_f rfl rfl rfl (fun hG => ob_not rfl rfl (Opd.gd hG u_0))) <|
             o_p rfl (ob_por rfl rfl u_0 (fun hz => (Opd.gd (bNF hz) u_1))) <|
             o_n) (by kernel_rfl) (fun a g hst hb => ?_)
          refine wp_cond_split (hst.bool 4 rfl) (fun hc16 => ?_) (fun hc16 => ?_)
          · replace H1 := ite_t hc16 H1
            refine r_s (L := []) (T := [⟨[], _, [], [], [4]⟩]) (F := [.op 0 0]) (hst.pick [] rfl) hb follows
              (o_p rfl (ob_assign rfl rfl c_b) <|
               o_n) (by kernel_rfl) (fun a g hst hb => ?_)
            refine wp_ret ?_
            refine inBlock_r ?_
            refine then_r ?_
            refine then_r ?_
            refine inBlock_r ?_
            refine then_r ?_
            refine then_r ?_
            obtain rfl := Option.some.inj H1
            obtain rfl := Option.some.inj H0
            exact endR1 rfl hst hb (res_tmp (s := 4)) (hst.at 0 rfl)
          · replace H1 := ite_f hc16 H1
            refine wp_skip ?_
            refine inBlock_n ?_
            refine then_n ?_
            refine r_g (L := [(2, _), (3, _), (18, _), (19, _)]) (T := [⟨[.old 3], _, [], [], [45]⟩, ⟨[.op 0 0], _, [], [0], [19]⟩]) (F := [.old 0, .old 1, .old 2, .op 1 0]) (hst.pick [0, 1, 2, 3] rfl) hb follows
              (o_p rfl (ob_add rfl rfl u_0 c_i rfl) <|
               o_p rfl (ob_move rfl rfl u_0) <|
               o_n) (by kernel_rfl) (fun a g hst hb => ?_)
            exact ⟨n, Nat.lt_succ_self _, (IntKind.i64.wrap (x8 + (1 : Int))), g, rfl, (hst.pick [0, 1, 2, 3] rfl), hb, H1⟩
        · replace H1 := ite_f hc9 H1
          refine wp_exit ?_
          refine then_e ?_
          refine then_e ?_
          refine inBlock_e ?_
          exact ⟨g, rfl, (hst.pick [] rfl), hb, Option.some.inj H1⟩
end Go.CL
