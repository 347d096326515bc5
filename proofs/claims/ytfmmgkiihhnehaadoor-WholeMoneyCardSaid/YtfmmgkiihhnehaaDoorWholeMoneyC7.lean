/- A part of the proof of WholeMoney. -/
import Derived.Test.YtfmmgkiihhnehaaDoorWholeMoneyC6
import Derived.Test.YtfmmgkiihhnehaaDoorRows
import Derived.Test.YtfmmgkiihhnehaaDoorCards
import Derived.Test.YtfmmgkiihhnehaaDoorTie
import Derived.SevenTiedAt
set_option linter.unusedVariables false
set_option linter.unusedSimpArgs false
set_option maxRecDepth 100000
namespace Go.CL
open Go
theorem Znx {r : Zd} {m : Int} (hg : Zcf r) (hk : 2 ≤ r.Kind ∧ r.Kind ≤ 4) (hb : r.Kind = 4 → r.Low ≤ m ∧ m ≤ r.High) : Zcf { r with Num := m } := by
 obtain ⟨g1, g2, g3, g4, g5, g6, g7⟩ := hg
 refine ⟨g1, g2, ?_, g4, fun h => ⟨(g5 h).1, (g5 h).2.1, (hb h).1, (hb h).2⟩, g6, g7⟩
 unfold Zga at *
 have : decide (2 ≤ r.Kind ∧ r.Kind ≤ 4) = true := decide_eq_true hk
 simp only [this, Bool.true_or] at *
 exact g3
theorem Zmo {a b c : Zj} (h : Zcv a b = true) (k : Zcv b c = true) : Zcv a c = true := by
 unfold Zcv at *
 by_cases h1 : keyf a.Score = keyf b.Score
 · rw [if_pos h1] at h
   by_cases h2 : keyf b.Score = keyf c.Score
   · rw [if_pos h2] at k
     rw [if_pos (h1.trans h2)]; exact Ze9 h k
   · rw [if_neg h2] at k
     rw [if_neg (by rw [h1]; exact h2), h1]; exact k
 · rw [if_neg h1] at h
   have h' := of_decide_eq_true h
   by_cases h2 : keyf b.Score = keyf c.Score
   · rw [if_neg (by rw [← h2]; exact h1), ← h2]; exact h
   · rw [if_neg h2] at k
     have k' := of_decide_eq_true k
     rw [if_neg (by omega)]; exact decide_eq_true (by omega)
def BS (l : Zcz) : Prop := l.Pairwise fun p q => Zcv p q = true
def Zpk (k : Int) (e : Zj) : Prop := e.Name.size ≤ 16 ∧ (k = 8 → keyf e.Score = keyf 0) ∧ e.Score = Zbz e.Score
theorem Zl1 {k : Int} {l : Zcz} {i : Nat} {x : Zj} (h : l[i]? = some x) : Zgr k l i = 0 ↔ Zpk k x ∧ (0 < i → k = 8 → sLt ((l[i - 1]?).getD default).Name x.Name = true) ∧ (0 < i → k = 9 → Zcv ((l[i - 1]?).getD default) x = true) := by
 unfold Zgr Zpk
 rw [h]
 simp only []
 by_cases h1 : (16 : Int) < x.Name.size
 · rw [if_pos h1]; exact ⟨fun h => (by cases h), fun h => by omega⟩
 · rw [if_neg h1]
   by_cases h2 : (k = 8 ∧ keyf x.Score ≠ keyf 0) ∨ x.Score ≠ Zbz x.Score
   · rw [if_pos h2]
     refine ⟨fun h => (by cases h), fun h => ?_⟩
     rcases h2 with ⟨a, b⟩ | b
     · exact absurd (h.1.2.1 a) b
     · exact absurd h.1.2.2 b
   · rw [if_neg h2]
     have e1 : k = 8 → keyf x.Score = keyf 0 := fun hk => Classical.byContradiction fun hn => h2 (.inl ⟨hk, hn⟩)
     have e2 : x.Score = Zbz x.Score := Classical.byContradiction fun hn => h2 (.inr hn)
     by_cases h3 : 0 < i ∧ k = 8 ∧ sLt ((l[i - 1]?).getD default).Name x.Name = false
     · rw [if_pos h3]
       refine ⟨fun h => (by cases h), fun h => ?_⟩
       have := h.2.1 h3.1 h3.2.1
       rw [h3.2.2] at this; cases this
     · rw [if_neg h3]
       have e3 : 0 < i → k = 8 → sLt ((l[i - 1]?).getD default).Name x.Name = true := fun a b => by
         cases hq : sLt ((l[i - 1]?).getD default).Name x.Name
         · exact absurd ⟨a, b, hq⟩ h3
         · rfl
       by_cases h4 : 0 < i ∧ k = 9 ∧ Zcv ((l[i - 1]?).getD default) x = false
       · rw [if_pos h4]
         refine ⟨fun h => (by cases h), fun h => ?_⟩
         have := h.2.2 h4.1 h4.2.1
         rw [h4.2.2] at this; cases this
       · rw [if_neg h4]
         refine ⟨fun _ => ⟨⟨by omega, e1, e2⟩, e3, fun a b => ?_⟩, fun _ => rfl⟩
         cases hq : Zcv ((l[i - 1]?).getD default) x
         · exact absurd ⟨a, b, hq⟩ h4
         · rfl
theorem Zwm {R : Zj → Zj → Prop} (ht : ∀ {a b c}, R a b → R b c → R a c) {l : Zcz} (step : ∀ i, i + 1 < l.length → R ((l[i]?).getD default) ((l[i + 1]?).getD default)) : l.Pairwise R := by
 have far : ∀ d i, i + d + 1 < l.length → R ((l[i]?).getD default) ((l[i + d + 1]?).getD default) := by
   intro d
   induction d with
   | zero => intro i h; exact step i h
   | succ d ih => intro i h; exact ht (ih i (by omega)) (step (i + d + 1) (by omega))
 refine List.pairwise_iff_getElem.2 fun i j hi hj hij => ?_
 have := far (j - i - 1) i (by omega)
 rw [show i + (j - i - 1) + 1 = j by omega, List.getElem?_eq_getElem hi, List.getElem?_eq_getElem hj] at this
 exact this
theorem Zvm {R : Zj → Zj → Prop} {l : Zcz} (h : l.Pairwise R) {i : Nat} {x : Zj} (hx : l[i]? = some x) (hi : 0 < i) : R ((l[i - 1]?).getD default) x := by
 obtain ⟨h1, rfl⟩ := List.getElem?_eq_some_iff.1 hx
 rw [List.getElem?_eq_getElem (by omega)]
 exact List.pairwise_iff_getElem.1 h _ _ (by omega) h1 (by omega)
theorem Ztr {k : Int} {l : Zcz} : (∀ i, i < l.length → Zgr k l i = 0) ↔ (∀ e ∈ l, Zpk k e) ∧ (k = 8 → NS l) ∧ (k = 9 → BS l) := by
 constructor
 · intro h
   refine ⟨fun e he => ?_, fun hk => ?_, fun hk => ?_⟩
   · obtain ⟨i, hi, rfl⟩ := List.getElem_of_mem he
     exact ((Zl1 (List.getElem?_eq_getElem hi)).1 (h i hi)).1
   · refine Zwm (R := fun p q => sLt p.Name q.Name = true) (fun a b => Ze9 a b) fun i hi => ?_
     have := ((Zl1 (List.getElem?_eq_getElem hi)).1 (h (i + 1) hi)).2.1 (by omega) hk
     rw [List.getElem?_eq_getElem hi]; exact this
   · refine Zwm (R := fun p q => Zcv p q = true) (fun a b => Zmo a b) fun i hi => ?_
     have := ((Zl1 (List.getElem?_eq_getElem hi)).1 (h (i + 1) hi)).2.2 (by omega) hk
     rw [List.getElem?_eq_getElem hi]; exact this
 · intro ⟨h1, h2, h3⟩ i hi
   have hx := List.getElem?_eq_getElem hi
   exact (Zl1 hx).2 ⟨h1 _ (List.getElem_mem hi), fun a b => Zvm (R := fun p q => sLt p.Name q.Name = true) (h2 b) hx a, fun a b => Zvm (R := fun p q => Zcv p q = true) (h3 b) hx a⟩
theorem Zwg {r : Zd} (h : Zcf r) (hk : 8 ≤ r.Kind) : 1 ≤ r.Cap ∧ r.Cap ≤ 32 ∧ (r.List.length : Int) ≤ r.Cap ∧ (∀ e ∈ r.List, Zpk r.Kind e) ∧ (r.Kind = 8 → NS r.List) ∧ (r.Kind = 9 → BS r.List) := by
 obtain ⟨a, b, c, d⟩ := h.2.2.2.2.2.2 hk
 exact ⟨a, b, c, Ztr.1 d⟩
theorem Zlx {r : Zd} {l : Zcz} (h : Zcf r) (hk : 8 ≤ r.Kind) (h1 : (l.length : Int) ≤ r.Cap) (h2 : ∀ e ∈ l, Zpk r.Kind e) (h3 : r.Kind = 8 → NS l) (h4 : r.Kind = 9 → BS l) : Zcf { r with List := l } := by
 obtain ⟨g1, g2, g3, g4, g5, g6, g7⟩ := h
 refine ⟨g1, g2, ?_, g4, g5, g6, fun hk => ⟨(g7 hk).1, (g7 hk).2.1, h1, Ztr.2 ⟨h2, h3, h4⟩⟩⟩
 unfold Zga at *
 have : decide (8 ≤ r.Kind) = true := decide_eq_true hk
 simp only [this, Bool.true_or] at *
 exact g3
theorem Zon {r : Zd} {t : ByteArray} (h : Zcf r) (hk : r.Kind = 1) (h1 : t.size ≤ 64) : Zcf { r with Text := t } := by
 obtain ⟨g1, g2, g3, g4, g5, g6, g7⟩ := h
 refine ⟨g1, g2, ?_, h1, g5, g6, g7⟩
 unfold Zga at *
 have : decide (r.Kind = 1) = true := decide_eq_true hk
 simp only [this, Bool.true_or, Bool.true_and] at *
 exact g3
theorem Zua {r : Zd} {x : Nat} (h : Zcf r) (hk : 5 ≤ r.Kind ∧ r.Kind ≤ 7) (h1 : x = Zbz x) : Zcf { r with Real := x } := by
 obtain ⟨g1, g2, g3, g4, g5, g6, g7⟩ := h
 refine ⟨g1, g2, ?_, g4, g5, h1, g7⟩
 unfold Zga at *
 have : decide (5 ≤ r.Kind ∧ r.Kind ≤ 7) = true := decide_eq_true hk
 simp only [this, Bool.true_or] at *
 exact g3
variable {r r' : Zd} {a : Zv} {o : Zg}
theorem Zlj {ψ : Nat → Nat → Option Nat} (hg : Zcf r) (hk : 5 ≤ r.Kind ∧ r.Kind ≤ 7) (hψ : ∀ m, ψ r.Real a.X = some m → m = Zbz m) (e : Z5 a.Kind r a default = Zdz ψ r a default) (h1 : Z5 a.Kind r a default = some (0, r', o)) : Zcf r' := by
 rw [e] at h1
 unfold Zdz at h1
 obtain ⟨m, m1, m2⟩ := Option.bind_eq_some_iff.1 h1
 simp only [Option.some.injEq, Prod.mk.injEq] at m2
 obtain ⟨_, rfl, _⟩ := m2
 exact Zua hg hk (hψ m m1)
theorem Zz0 (h : a.Kind = 18) (hr : RecW r) (hg : Zcf r) (hk : r.Kind = 8) (ha : ActW a) (h1 : Z5 a.Kind r a default = some (0, r', o)) : Zcf r' := by
 have e : Z5 a.Kind r a default = Zjh r a default := by rw [h]; rfl
 obtain ⟨c1, c2, c3, c4, c5, _⟩ := Zwg hg (by omega)
 have hs := c5 hk
 have hl := hr.len
 have hple := Zmi (fun e => sLt e.Name a.S) r.List
 rw [e] at h1
 unfold Zjh at h1
 rw [Zl6 hs (by omega), Znv (by omega)] at h1
 simp only [Option.bind_some] at h1
 by_cases hat : isAt a.S r.List = true
 · rw [if_pos hat] at h1
   simp only [Option.some.injEq, Prod.mk.injEq, true_and] at h1
   rw [← h1.1]; exact hg
 · rw [if_neg hat] at h1
   by_cases hc : decide (r.Cap ≤ (r.List.length : Int)) = true
   · rw [if_pos hc] at h1; cases h1
   · rw [if_neg hc] at h1
     have hc' : ¬ r.Cap ≤ (r.List.length : Int) := by simpa using hc
     unfold Zb1 at h1
     rw [if_pos ⟨by omega, by omega, by simp, by simp; omega⟩] at h1
     simp only [Option.bind_some, Option.some.injEq, Prod.mk.injEq, true_and, Int.toNat_natCast] at h1
     obtain ⟨rfl, _⟩ := h1
     have hbehind : ∀ y ∈ r.List.drop (pre (fun e => sLt e.Name a.S) r.List), sLt a.S y.Name = true := fun y hy => by
       obtain ⟨k, hk, rfl⟩ := List.getElem_of_mem hy
       rw [List.length_drop] at hk
       rw [List.getElem_drop]
       have hm := Zrh (s := a.S) hs (k := pre (fun e => sLt e.Name a.S) r.List + k) (by omega)
       rw [show decide (pre (fun e => sLt e.Name a.S) r.List + k < pre (fun e => sLt e.Name a.S) r.List) = false by simp] at hm
       refine Zla hm fun hn => ?_
       have hany := Zq4 (s := a.S) hs
       rw [show isAt a.S r.List = false by simpa using hat, List.any_eq_false] at hany
       exact hany _ (List.getElem_mem _) (Zhd.2 hn)
     refine Zlx hg (by omega) (by simp; omega) (fun e he => ?_) (fun _ => ?_) (fun h => by omega)
     · simp only [List.mem_append, List.mem_singleton] at he
       rcases he with (he | rfl) | he
       · exact c4 e (List.mem_of_mem_take he)
       · exact ⟨ha.s16 (by omega), fun _ => rfl, by kernel_rfl⟩
       · exact c4 e (List.mem_of_mem_drop he)
     · unfold NS at *
       rw [List.append_assoc, List.pairwise_append]
       refine ⟨hs.sublist (List.take_sublist _ _), ?_, fun x hx y hy => ?_⟩
       · rw [List.singleton_append, List.pairwise_cons]
         exact ⟨hbehind, hs.sublist (List.drop_sublist _ _)⟩
       · have hxa : sLt x.Name a.S = true := Zu5 (f := fun e => sLt e.Name a.S) x hx
         rcases List.mem_append.1 hy with hy | hy
         · rw [List.mem_singleton.1 hy]; exact hxa
         · exact Ze9 hxa (hbehind y hy)
theorem Zym (h : a.Kind = 19) (hr : RecW r) (hg : Zcf r) (hk : r.Kind = 8) (h1 : Z5 a.Kind r a default = some (0, r', o)) : Zcf r' := by
 obtain ⟨c1, c2, c3, c4, c5, _⟩ := Zwg hg (by omega)
 have hl := hr.len
 obtain ⟨c, x, y, d1, d2, _⟩ := Ztz h hr hg hk
 rw [h1] at d1
 simp only [Option.some.injEq, Prod.mk.injEq] at d1
 obtain ⟨rfl, rfl, rfl⟩ := d1
 have e2 : Zbn r a = (Zd9 r a (Int.toNat ((r.List.length : Int) - (0 : Int)) + 1) ([] : List Zj) (0 : Int)).bind fun z57 => match z57 with | y56 => (Zw ({ r with List := y56 }) (ans 0)) := by unfold Zbn Zb7; rw [h]; rfl
 have hf := Zm7 (a := a) (a0 := r) (by omega) r.List.length 0 [] (by omega) (by simp)
 rw [show ((0 : Nat) : Int) = 0 from rfl] at hf
 rw [e2, show (Int.toNat ((r.List.length : Int) - (0 : Int)) + 1) = r.List.length + 1 by omega, hf, List.drop_zero, List.nil_append] at d2
 simp only [Option.bind_some, Zw, if_true, Option.some.injEq, Prod.mk.injEq] at d2
 obtain ⟨rfl, _⟩ := d2
 have hle := List.length_filter_le (fun e : Zj => !sEq e.Name a.S) r.List
 exact Zlx hg (by omega) (by omega) (fun e he => c4 e (List.mem_filter.1 he).1) (fun _ => List.Pairwise.sublist List.filter_sublist (c5 hk)) (fun h => by omega)
theorem Zyl (h : a.Kind = 21) (hr : RecW r) (hg : Zcf r) (hk : r.Kind = 9) (ha : ActW a) (h1 : Z5 a.Kind r a default = some (0, r', o)) : Zcf r' := by
 have e : Z5 a.Kind r a default = Zit r a default := by rw [h]; rfl
 obtain ⟨c1, c2, c3, c4, _, c6⟩ := Zwg hg (by omega)
 have hs := c6 hk
 have hl := hr.len
 have hple := Zmi (Zdf { Score := a.X, Name := a.S } false) r.List
 rw [e] at h1
 unfold Zit at h1
 rw [Ztv ha.ok.2 hr.ok.sc (by omega), Znv (by omega)] at h1
 simp only [Option.bind_some] at h1
 obtain ⟨e9, g9, h1⟩ := Option.bind_eq_some_iff.1 h1
 obtain ⟨r11, g11, h1⟩ := Option.bind_eq_some_iff.1 h1
 split at h1
 · simp only [Option.some.injEq, Prod.mk.injEq, true_and] at h1
   rw [← h1.1]; exact hg
 · rename_i hcond
   unfold Zb1 at h1
   rw [if_pos ⟨by omega, by omega, by simp, by simp; omega⟩] at h1
   simp only [Option.bind_some] at h1
   rw [Zv4 c1 c2] at h1
   simp only [Option.bind_some, Option.some.injEq, Prod.mk.injEq, true_and, Int.toNat_natCast] at h1
   obtain ⟨rfl, _⟩ := h1
   have hbehind : ∀ y ∈ r.List.drop (pre (Zdf { Score := a.X, Name := a.S } false) r.List), Zcv { Score := a.X, Name := a.S } y = true := fun y hy => by
     have hp : pre (Zdf { Score := a.X, Name := a.S } false) r.List < r.List.length := by
       have := List.length_pos_of_mem hy
       rw [List.length_drop] at this; omega
     have hd : decide (((pre (Zdf { Score := a.X, Name := a.S } false) r.List : Nat) : Int) < (r.List.length : Int)) = true := by simpa using hp
     rw [hd, Zc7 hp] at g9
     simp only [gd_t, Option.some.injEq] at g9
     subst g9
     rw [hd] at g11 hcond
     simp only [gd_t] at g11
     rw [Zmy ha.ok.2 (hr.ok.sc _ (List.getElem_mem hp))] at g11
     have hb : Zcv { Score := a.X, Name := a.S } r.List[pre (Zdf { Score := a.X, Name := a.S } false) r.List] = true := by
       have := Option.some.inj g11
       rw [← this] at hcond
       simpa using hcond
     rw [List.drop_eq_getElem_cons hp] at hy
     rcases List.mem_cons.1 hy with rfl | hy
     · exact hb
     · refine Zmo hb ?_
       have hpw : (r.List.drop (pre (Zdf { Score := a.X, Name := a.S } false) r.List)).Pairwise fun p q => Zcv p q = true := List.Pairwise.sublist (List.drop_sublist _ _) hs
       rw [List.drop_eq_getElem_cons hp, List.pairwise_cons] at hpw
       exact hpw.1 y hy
   refine Zlx hg (by omega) (by rw [List.length_take]; omega) (fun e he => ?_) (fun h => by omega) (fun _ => ?_)
   · have he := List.mem_of_mem_take he
     simp only [List.mem_append, List.mem_singleton] at he
     rcases he with (he | rfl) | he
     · exact c4 e (List.mem_of_mem_take he)
     · exact ⟨ha.s16 (by omega), fun h => by omega, ha.xc⟩
     · exact c4 e (List.mem_of_mem_drop he)
   · refine List.Pairwise.sublist (List.take_sublist _ _) ?_
     rw [List.append_assoc, List.pairwise_append]
     refine ⟨List.Pairwise.sublist (List.take_sublist _ _) hs, ?_, fun x hx y hy => ?_⟩
     · rw [List.singleton_append, List.pairwise_cons]
       exact ⟨hbehind, List.Pairwise.sublist (List.drop_sublist _ _) hs⟩
     · have hxa : Zcv x { Score := a.X, Name := a.S } = true := Zu5 (f := Zdf { Score := a.X, Name := a.S } false) x hx
       rcases List.mem_append.1 hy with hy | hy
       · rw [List.mem_singleton.1 hy]; exact hxa
       · exact Zmo hxa (hbehind y hy)
theorem Zgu {k on : Int} {c : Int} (h : Zid k = some on) (e : Zid k = some c) : on = c := Option.some.inj (h.symm.trans e)
theorem Zwe (h5 : 5 ≤ a.Kind) (h21 : a.Kind ≤ 21) (hon : Zid a.Kind = some r.Kind) (hr : RecW r) (hg : Zcf r) (ha : ActW a) (h1 : Z5 a.Kind r a default = some (0, r', o)) : Zcf r' := by
 have real : ∀ {m : Nat}, m = r.Real ∨ m = a.X → m = Zbz m := fun {m} h => by
   rcases h with rfl | rfl
   · exact Zlk hg
   · exact ha.xc
 have hk' : a.Kind = 5 ∨ a.Kind = 6 ∨ a.Kind = 7 ∨ a.Kind = 8 ∨ a.Kind = 9 ∨ a.Kind = 10 ∨ a.Kind = 11 ∨ a.Kind = 12 ∨ a.Kind = 13 ∨ a.Kind = 14 ∨ a.Kind = 15 ∨ a.Kind = 16 ∨ a.Kind = 17 ∨ a.Kind = 18 ∨ a.Kind = 19 ∨ a.Kind = 20 ∨ a.Kind = 21 := by omega
 rcases hk' with h | h | h | h | h | h | h | h | h | h | h | h | h | h | h | h | h
 · have e : Z5 a.Kind r a default = Zif r a default := by rw [h]; rfl
   rw [e] at h1
   simp only [Zif, Option.some.injEq, Prod.mk.injEq, true_and] at h1
   rw [← h1.1]
   exact Zon hg (Zgu hon (by rw [h]; kernel_rfl)) ha.s64
 · have e : Z5 a.Kind r a default = Zf5 r a default := by rw [h]; rfl
   rw [e] at h1
   simp only [Zf5, Zim hr.len, Option.bind_some, Option.some.injEq, Prod.mk.injEq, true_and] at h1
   rw [← h1.1]
   exact Zon hg (Zgu hon (by rw [h]; kernel_rfl)) ha.s64
 · have e : Z5 a.Kind r a default = Zih r a default := by rw [h]; rfl
   rw [e] at h1
   simp only [Zih, Option.some.injEq, Prod.mk.injEq, true_and] at h1
   rw [← h1.1]
   have hk : r.Kind = 2 := Zgu hon (by rw [h]; kernel_rfl)
   exact Znx hg (by omega) (fun h => by omega)
 · have e : Z5 a.Kind r a default = Zjg r a default := by rw [h]; rfl
   rw [e] at h1
   unfold Zjg at h1
   split at h1
   · cases h1
   · simp only [Option.some.injEq, Prod.mk.injEq, true_and] at h1
     rw [← h1.1]
     have hk : r.Kind = 3 := Zgu hon (by rw [h]; kernel_rfl)
     exact Znx hg (by omega) (fun h => by omega)
 · have e : Z5 a.Kind r a default = Zdi r a default := by rw [h]; rfl
   rw [e] at h1
   unfold Zdi at h1
   split at h1
   · cases h1
   · simp only [Option.some.injEq, Prod.mk.injEq, true_and] at h1
     rw [← h1.1]; exact hg
 · have e : Z5 a.Kind r a default = Zeu r a default := by rw [h]; rfl
   have hk : r.Kind = 4 := Zgu hon (by rw [h]; kernel_rfl)
   obtain ⟨p1, p2, p3, p4⟩ := Zp9 hg hk
   obtain ⟨q1, q2⟩ := ha.inout (.inl h)
   rw [e] at h1
   unfold Zeu at h1
   rw [wr (x := r.High - r.Num) (by omega) (by omega), wr (x := r.Num + a.N) (by omega) (by omega)] at h1
   split at h1
   · cases h1
   · rename_i hcond
     have hcond' : ¬ (r.High - r.Num < a.N) := by simpa using hcond
     simp only [Option.some.injEq, Prod.mk.injEq, true_and] at h1
     rw [← h1.1]
     exact Znx hg (by omega) (fun _ => by omega)
 · have e : Z5 a.Kind r a default = Zem r a default := by rw [h]; rfl
   have hk : r.Kind = 4 := Zgu hon (by rw [h]; kernel_rfl)
   obtain ⟨p1, p2, p3, p4⟩ := Zp9 hg hk
   obtain ⟨q1, q2⟩ := ha.inout (.inr h)
   rw [e] at h1
   unfold Zem at h1
   rw [wr (x := r.Num - r.Low) (by omega) (by omega), wr (x := r.Num - a.N) (by omega) (by omega)] at h1
   split at h1
   · cases h1
   · rename_i hcond
     have hcond' : ¬ (r.Num - r.Low < a.N) := by simpa using hcond
     simp only [Option.some.injEq, Prod.mk.injEq, true_and] at h1
     rw [← h1.1]
     exact Znx hg (by omega) (fun _ => by omega)
 · have e : Z5 a.Kind r a default = Zdi r a default := by rw [h]; rfl
   rw [e] at h1
   unfold Zdi at h1
   split at h1
   · cases h1
   · simp only [Option.some.injEq, Prod.mk.injEq, true_and] at h1
     rw [← h1.1]; exact hg
 · have hk : r.Kind = 5 := Zgu hon (by rw [h]; kernel_rfl)
   refine Zlj (ψ := fun x y => Zjo x y) hg (by omega) (fun m hm => ?_) (by rw [h]; rfl) h1
   obtain ⟨m', e1, _, e2⟩ := Zwd hr.ok.real ha.ok.2 (Zlk hg) ha.xc
   have : m = m' := Option.some.inj (hm.symm.trans e1)
   exact real (this ▸ e2)
 · have hk : r.Kind = 6 := Zgu hon (by rw [h]; kernel_rfl)
   refine Zlj (ψ := fun x y => Zjq x y) hg (by omega) (fun m hm => ?_) (by rw [h]; rfl) h1
   obtain ⟨m', e1, _, e2⟩ := Zv9 hr.ok.real ha.ok.2 (Zlk hg) ha.xc
   have : m = m' := Option.some.inj (hm.symm.trans e1)
   exact real (this ▸ e2)
 · have hk : r.Kind = 7 := Zgu hon (by rw [h]; kernel_rfl)
   refine Zlj (ψ := fun x y => Zhg x y) hg (by omega) (fun m hm => ?_) (by rw [h]; rfl) h1
   have hz := Zyb r.Real a.X
   have : Zhg r.Real a.X = some (Zbz (fadd r.Real a.X)) := by unfold Zhg; rw [Zh6 hz]; rfl
   have : m = Zbz (fadd r.Real a.X) := Option.some.inj (hm.symm.trans this)
   rw [this, Zq2]
 · have hk : r.Kind = 7 := Zgu hon (by rw [h]; kernel_rfl)
   refine Zlj (ψ := fun x y => Zgi x y) hg (by omega) (fun m hm => ?_) (by rw [h]; rfl) h1
   have hz := Zx1 r.Real a.X
   have : Zgi r.Real a.X = some (Zbz (fmul r.Real a.X)) := by unfold Zgi; rw [Zh6 hz]; rfl
   have : m = Zbz (fmul r.Real a.X) := Option.some.inj (hm.symm.trans this)
   rw [this, Zq2]
 · have hk : r.Kind = 7 := Zgu hon (by rw [h]; kernel_rfl)
   refine Zlj (ψ := fun x y => Zf7 x y) hg (by omega) (fun m hm => ?_) (by rw [h]; rfl) h1
   exact real (.inr (Option.some.inj hm).symm)
 · exact Zz0 h hr hg (Zgu hon (by rw [h]; kernel_rfl)) ha h1
 · exact Zym h hr hg (Zgu hon (by rw [h]; kernel_rfl)) h1
 · have hk : r.Kind = 8 := Zgu hon (by rw [h]; kernel_rfl)
   have e : Z5 a.Kind r a default = Zep r a default := by rw [h]; rfl
   have hl := hr.len
   rw [e] at h1
   unfold Zep at h1
   rw [Zl6 (Zkt hg hk) (by omega)] at h1
   simp only [Option.bind_some] at h1
   split at h1
   · cases h1
   · simp only [Option.some.injEq, Prod.mk.injEq, true_and] at h1
     rw [← h1.1]; exact hg
 · exact Zyl h hr hg (Zgu hon (by rw [h]; kernel_rfl)) ha h1
theorem Zyp (hk : a.Kind = 9 ∨ a.Kind = 12 ∨ a.Kind = 20) (hr : RecW r) (hg : Zcf r) (hon : Zid a.Kind = some r.Kind) (h1 : Z5 a.Kind r a default = some (0, r', o)) : r' = r := by
 rcases hk with h | h | h
 · have e : Z5 a.Kind r a default = Zdi r a default := by rw [h]; rfl
   rw [e] at h1
   unfold Zdi at h1
   split at h1
   · cases h1
   · simp only [Option.some.injEq, Prod.mk.injEq, true_and] at h1
     exact h1.1.symm
 · have e : Z5 a.Kind r a default = Zdi r a default := by rw [h]; rfl
   rw [e] at h1
   unfold Zdi at h1
   split at h1
   · cases h1
   · simp only [Option.some.injEq, Prod.mk.injEq, true_and] at h1
     exact h1.1.symm
 · have hk : r.Kind = 8 := Zgu hon (by rw [h]; kernel_rfl)
   have e : Z5 a.Kind r a default = Zep r a default := by rw [h]; rfl
   have hl := hr.len
   rw [e] at h1
   unfold Zep at h1
   rw [Zl6 (Zkt hg hk) (by omega)] at h1
   simp only [Option.bind_some] at h1
   split at h1
   · cases h1
   · simp only [Option.some.injEq, Prod.mk.injEq, true_and] at h1
     exact h1.1.symm
structure Z27 (t : Bool) (r : Zd) : Prop where
 w : RecW r
 good : t = true → Zcf r
 zero : t = false → r = zrc
theorem Zpi {k : ByteArray} {r : Zd} {l : List KV} (hs : Srt l) (h : lk k l = some r) : insL k r l = l := by
 rcases Zj4 r hs with ⟨p, a1, a2, a3, a4, _⟩ | ⟨_, a2, _⟩
 · rw [a4]
   rw [h] at a3
   obtain rfl := Option.some.inj a3
   have e : (k, p.2) = p := by rw [← a2]
   rw [e]
   obtain ⟨hlt, hp⟩ := List.getElem?_eq_some_iff.1 a1
   have := List.take_append_drop (rk k l) l
   rw [List.drop_eq_getElem_cons hlt, hp] at this
   exact this
 · rw [h] at a2; cases a2
theorem Zu4 {k : ByteArray} {r : Zd} : ∀ {l : List KV}, lk k l = some r → (k, r) ∈ l
 | [], h => by cases h
 | p :: l, h => by
   simp only [lk] at h
   split at h
   · rename_i he
     obtain rfl := Option.some.inj h
     have := Zhd.1 he
     subst this
     exact List.mem_cons_self ..
   · exact List.mem_cons_of_mem _ (Zu4 h)
theorem Zn3 {r : Zd} (h : Zcf r) : r.List.length ≤ 32 := by
 by_cases hk : 8 ≤ r.Kind
 · have := h.2.2.2.2.2.2 hk
   omega
 · have h1 := h.2.2.1
   have h8 : decide (8 ≤ r.Kind) = false := by simpa using hk
   rw [h8] at h1
   simp only [Zga, Bool.false_or, Bool.and_eq_true, beq_iff_eq] at h1
   have := h1.2.2
   omega
theorem Zge {s s' : Zm} {k : ByteArray} {x : Zd} {c : Int} (h : Zdl s k x = some (s', c)) : s'.room = s.room := by
 unfold Zdl at h
 split at h
 · cases h; rfl
 · obtain ⟨_, _, h⟩ := Option.bind_eq_some_iff.1 h
   split at h
   · cases h; rfl
   · obtain ⟨_, _, h⟩ := Option.bind_eq_some_iff.1 h
     obtain ⟨_, _, h⟩ := Option.bind_eq_some_iff.1 h
     split at h
     · cases h; rfl
     · obtain ⟨_, _, h⟩ := Option.bind_eq_some_iff.1 h
       obtain ⟨_, _, h⟩ := Option.bind_eq_some_iff.1 h
       cases h; rfl
theorem Zpq {s s' : Zm} {k : ByteArray} {b : Bool} (h : Zfi s k = some (s', b)) : s'.room = s.room := by
 unfold Zfi at h
 obtain ⟨_, _, h⟩ := Option.bind_eq_some_iff.1 h
 split at h
 · cases h; rfl
 · obtain ⟨_, _, h⟩ := Option.bind_eq_some_iff.1 h
   cases h; rfl
theorem Zny {s s' : Zm} {t : Zk} {n : Nat} (h : Rel s t n) (hn : n < 1000000) {k : ByteArray} {x : Zd} {c : Int} (e : Zdl s k x = some (s', c)) (hc : Zdq x = some 0) (hx : x.List.length ≤ 100) (hk : sEq k ⟨#[]⟩ = false) (hk2 : k.size ≤ 24) :
   (((lk k (pl t)).isSome = true ∨ (t.L.length : Int) < t.Room) → c = 0 ∧ toL s'.top = insL k x (pl t)) ∧ ((lk k (pl t)).isNone = true → t.Room ≤ (t.L.length : Int) → c = 8 ∧ s' = s) := by
 have hb := h.len
 obtain ⟨t1, q1, _, q3⟩ := Zxg (k := k) (x := x) h.sz (by rw [h.top]; exact h.srt) (by rw [h.tl]; omega)
 unfold Zdl at e
 rw [hk, hc, Zne h, Zp0 h, Zn7 (by unfold Cl; omega)] at e
 have hd : decide ((24 : Int) < (k.size : Int)) = false := by simp; omega
 rw [hd] at e
 simp only [Bool.or_self, Bool.false_eq_true, if_false, Option.bind_some, bne_self_eq_false] at e
 cases hl : lk k (pl t) with
 | none =>
   rw [hl] at e
   simp only [getR, Bool.not_false, gd_t, Option.bind_some, Bool.true_and, h.room] at e
   by_cases hr : t.Room ≤ (t.L.length : Int)
   · rw [if_pos (by simpa using hr)] at e
     cases e
     refine ⟨fun h => ?_, fun _ _ => ⟨rfl, rfl⟩⟩
     rcases h with h | h
     · cases h
     · omega
   · rw [if_neg (by simpa using hr), q1] at e
     cases e
     exact ⟨fun _ => ⟨rfl, by rw [← h.top]; exact q3⟩, fun _ h => absurd h hr⟩
 | some r =>
   rw [hl] at e
   simp only [getR, Bool.not_true, gd_f, Option.bind_some, Bool.false_and, Bool.false_eq_true, if_false] at e
   rw [q1] at e
   cases e
   exact ⟨fun _ => ⟨rfl, by rw [← h.top]; exact q3⟩, fun h => by cases h⟩
structure FR (s : Zm) (t : Zk) (n : Nat) : Prop where
 rel : Rel s t n
 good : ∀ q ∈ pl t, RecW q.2 ∧ Zcf q.2
 fit : (t.L.length : Int) ≤ t.Room
theorem Zwl {k : ByteArray} {x r : Zd} {l : List KV} (hs : Srt l) (h : lk k l = some r) : (insL k x l).length = l.length := by
 rcases Zj4 x hs with ⟨p, a1, a2, a3, a4, _⟩ | ⟨_, a2, _⟩
 · rw [a4]
   have := (List.getElem?_eq_some_iff.1 a1).1
   simp; omega
 · rw [h] at a2; cases a2
theorem FR.mono {s : Zm} {t : Zk} {n m : Nat} (h : FR s t n) (hm : n ≤ m) : FR s t m := ⟨h.rel.mono hm, h.good, h.fit⟩
theorem Z52 {s : Zm} {t t' : Zk} {n : Nat} (h : Rel s t n) (hp : pl t' = pl t) (hr : t'.Room = t.Room) : Rel s t' n :=
 ⟨h.top.trans hp.symm, h.sz, by rw [hp]; exact h.srt, by rw [← Zeh, hp, Zeh]; exact h.len, h.room.trans hr.symm, by rw [hp]; exact h.ok⟩
theorem Znj {s : Zm} {t t' : Zk} {n : Nat} (h : FR s t n) (hp : pl t' = pl t) (hr : t'.Room = t.Room) : FR s t' n :=
 ⟨Z52 h.rel hp hr, by rw [hp]; exact h.good, by rw [hr, ← Zeh, hp, Zeh]; exact h.fit⟩
theorem Zwk {s s' : Zm} {t t' : Zk} {n m : Nat} {k : ByteArray} {x : Zd} (h : FR s t n) (hr : Rel s' t' m) (hw : RecW x) (hg : Zcf x) (ho : (lk k (pl t)).isSome = true ∨ (t.L.length : Int) < t.Room) (hp : pl t' = insL k x (pl t)) (hro : t'.Room = t.Room) : FR s' t' m := ⟨hr, fun q hq => by
 rw [hp] at hq
 rcases Zpz hq with rfl | hq
 · exact ⟨hw, hg⟩
 · exact h.good q hq, by
 have hf := h.fit
 rw [hro, ← Zeh, hp]
 have hl := Zmh k x (pl t)
 rw [Zeh] at hl
 rcases ho with ho | ho
 · obtain ⟨r, hr⟩ := Option.isSome_iff_exists.1 ho
   rw [Zwl h.rel.srt hr, Zeh]; exact hf
 · omega⟩
theorem Z0k {a : Zv} (ha : ActIn a) (h : Zgf a = some 0) : sEq a.Key ⟨#[]⟩ = false ∧ a.Key.size ≤ 24 := by
 obtain ⟨c, h1, _, h3⟩ := Zm0 ha.ok
 rw [h] at h1
 obtain rfl := Option.some.inj h1
 exact ⟨(h3 rfl).2.2.2.2.2.2.2.1, (h3 rfl).2.2.2.2.2.2.2.2⟩
theorem Zpr {s : Zm} {t : Zk} {n : Nat} (h : FR s t n) (hn : n < 1000000) {a : Zv} (ha : ActIn a) :
   ∃ s' t' out, Zh3 s a = some (s', out) ∧ Zks t a = some (t', out) ∧ FR s' t' (n + 1) ∧ RecW out.Rec ∧ t'.Room = t.Room := by
 obtain ⟨r, there, hg, hi, hl1, hl2⟩ : ∃ r there, getR (lk a.Key (pl t)) = (r, there) ∧ Z27 there r ∧ (there = true → lk a.Key (pl t) = some r) ∧ (there = false → lk a.Key (pl t) = none) := by
   cases hl : lk a.Key (pl t) with
   | none => exact ⟨_, _, rfl, ⟨Zcg, fun h => (by cases h), fun _ => rfl⟩, fun h => (by cases h), fun _ => rfl⟩
   | some r =>
     obtain ⟨g1, g2⟩ := h.good _ (Zu4 hl)
     exact ⟨_, _, rfl, ⟨g1, fun _ => g2, fun h => (by cases h)⟩, fun _ => rfl, fun h => (by cases h)⟩
 obtain ⟨x, is, out, e1, e2, w1, w2⟩ := Zy2 (there := there) hi.w ha
 obtain ⟨z, e3, hs⟩ := Znb (there := there) hi.w ha
 have hr0 : (if there = true then r else zrc) = r := by
   cases there
   · exact (hi.zero rfl).symm
   · rfl
 rw [hr0] at hs
 rw [e1] at e3
 obtain rfl := Option.some.inj e3
 unfold Zh3 Zks
 rw [Zne h.rel, Z34 h.rel hn, hg]
 simp only [Option.bind_some]
 rw [e1, e2]
 simp only [Option.bind_some, Zli]
 rcases hs with ⟨c, hc, hz⟩ | ⟨h1, h2, h3, hs⟩
 · obtain ⟨rfl, rfl, rfl⟩ : x = r ∧ is = there ∧ out = ans c := by simpa using hz
   have hc' : (c != 0) = true := by simpa using hc
   simp only [hc', Bool.not_true, gd_f, Option.bind_some, Bool.true_or, if_true]
   exact ⟨s, t, _, rfl, rfl, h.mono (by omega), w2, rfl⟩
 obtain ⟨k1, k2⟩ := Z0k ha h1
 have hset : ∀ {y : Zd}, RecW y → Zcf y → ((lk a.Key (pl t)).isSome = true ∨ (t.L.length : Int) < t.Room) → ∃ s' t', Zdl s a.Key y = some (s', 0) ∧ Zdw t a.Key y = some (t', 0) ∧ FR s' t' (n + 1) ∧ pl t' = insL a.Key y (pl t) := fun {y} hw hgy ho => by
   have hsh := Zn3 hgy
   obtain ⟨s', t', c, f1, f2, f3, _⟩ := Zn1 h.rel hn a.Key hw.ok (by omega)
   obtain ⟨rfl, hp⟩ := (Zny h.rel hn f1 ((Ziq hw.ok).2 hgy) (by omega) k1 k2).1 ho
   rw [f3.top] at hp
   exact ⟨s', t', f1, f2, Zwk h f3 hw hgy ho hp (by rw [← f3.room, Zge f1, h.rel.room]), hp⟩
 rcases hs with ⟨hk, rfl, hmk, hz⟩ | ⟨hk, rfl, hz⟩ | ⟨hk, hz⟩ | ⟨hk, rfl, hz⟩ | ⟨k5, k21, rfl, kon, r', o, q1, q2, q3, q4, q5, hz⟩
 · -- New
   obtain ⟨rfl, rfl, rfl⟩ : x = a.Make ∧ is = true ∧ out = ans 0 := by simpa using hz
   have hl := hl2 rfl
   rw [hk]
   simp only [bne_self_eq_false, Bool.not_false, gd_t, Option.bind_some, show ((((((1 : Int) == 3) || ((1 : Int) == 4)) || ((1 : Int) == 9)) || ((1 : Int) == 12)) || ((1 : Int) == 20)) = false from rfl, Bool.or_self, Bool.false_eq_true, if_false, Bool.not_true, beq_self_eq_true, Bool.true_and]
   by_cases hr : t.Room ≤ (t.L.length : Int)
   · rw [if_pos (by simpa using hr)]
     have hsh := Zn3 hmk
     obtain ⟨s', t', c, f1, f2, f3, _⟩ := Zn1 h.rel hn a.Key ha.mkr.ok (by omega)
     obtain ⟨rfl, rfl⟩ := (Zny h.rel hn f1 ((Ziq ha.mkr.ok).2 hmk) (by omega) k1 k2).2 (by rw [hl]; rfl) hr
     rw [f1]
     exact ⟨s', t, _, rfl, rfl, h.mono (by omega), Zcg, rfl⟩
   · rw [if_neg (by simpa using hr)]
     obtain ⟨s', t', f1, f2, f3, _⟩ := hset ha.mkr hmk (.inr (by omega))
     rw [f1, f2]
     exact ⟨s', t', _, rfl, rfl, f3, Zcg, by rw [← f3.rel.room, Zge f1, h.rel.room]⟩
 · -- Drop
   obtain ⟨rfl, rfl, rfl⟩ : x = zrc ∧ is = false ∧ out = ans 0 := by simpa using hz
   rw [hk]
   obtain ⟨s', t', b, f1, f2, f3, f4⟩ := Zvt h.rel hn a.Key
   rw [f1, f2]
   have hro : t'.Room = t.Room := by rw [← f3.room, Zpq f1, h.rel.room]
   have hf := h.fit
   refine ⟨s', t', ans 0, rfl, rfl, ⟨f3.mono (by omega), fun q hq => ?_, ?_⟩, Zcg, hro⟩
   · rcases f4 with f4 | f4
     · rw [f4] at hq; exact h.good q hq
     · rw [f4] at hq; exact h.good q (Zp7 hq)
   · rw [hro, ← Zeh]
     rcases f4 with f4 | f4
     · rw [f4, Zeh]; exact hf
     · have := Zod a.Key (pl t)
       rw [Zeh] at this
       rw [f4]; omega
 · -- Is
   obtain ⟨rfl, rfl, rfl⟩ : x = r ∧ is = there ∧ out = { ans 0 with Num := r.Kind } := by simpa using hz
   rw [hk]
   cases is with
   | true =>
     have hl := hl1 rfl
     obtain ⟨s', t', f1, f2, f3, f4⟩ := hset hi.w (hi.good rfl) (.inl (by rw [hl]; rfl))
     rw [f2]
     rw [Zpi h.rel.srt hl] at f4
     exact ⟨s, t', _, rfl, rfl, (Znj h f4 (by rw [← f3.rel.room, Zge f1, h.rel.room])).mono (by omega), Zcg, by rw [← f3.rel.room, Zge f1, h.rel.room]⟩
   | false =>
     have hl := hl2 rfl
     obtain ⟨s', t', b, f1, f2, f3, f4⟩ := Zvt h.rel hn a.Key
     rw [f2]
     have hp : pl t' = pl t := by
       rcases f4 with f4 | f4
       · exact f4
       · rcases Zj4 x h.rel.srt with ⟨_, _, _, a3, _⟩ | ⟨_, _, _, a4⟩
         · rw [hl] at a3; cases a3
         · rw [f4, a4]
     exact ⟨s, t', _, rfl, rfl, (Znj h hp (by rw [← f3.room, Zpq f1, h.rel.room])).mono (by omega), Zcg, by rw [← f3.room, Zpq f1, h.rel.room]⟩
 · -- Look
   obtain ⟨rfl, rfl, rfl⟩ : x = r ∧ is = true ∧ out = { ans 0 with Rec := r } := by simpa using hz
   rw [hk]
   have hl := hl1 rfl
   obtain ⟨s', t', f1, f2, f3, f4⟩ := hset hi.w (hi.good rfl) (.inl (by rw [hl]; rfl))
   rw [f2]
   rw [Zpi h.rel.srt hl] at f4
   exact ⟨s, t', _, rfl, rfl, (Znj h f4 (by rw [← f3.rel.room, Zge f1, h.rel.room])).mono (by omega), hi.w, by rw [← f3.rel.room, Zge f1, h.rel.room]⟩
 · -- what changes a record
   obtain ⟨rfl, rfl, rfl⟩ : x = r' ∧ is = true ∧ out = o := by simpa using hz
   have hl := hl1 rfl
   have hgx : Zcf x := Zwe k5 k21 kon hi.w (hi.good rfl) h2 q1
   obtain ⟨s', t', f1, f2, f3, f4⟩ := hset q4 hgx (.inl (by rw [hl]; rfl))
   have hk1 : (a.Kind == 1) = false := by simp; omega
   rw [q2, hk1]
   simp only [bne_self_eq_false, Bool.not_false, gd_t, Option.bind_some, Bool.false_or, Bool.false_eq_true, if_false, Bool.not_true, Bool.false_and]
   rw [f1, f2]
   by_cases hrd : (((((a.Kind == (3 : Int)) || (a.Kind == (4 : Int))) || (a.Kind == (9 : Int))) || (a.Kind == (12 : Int))) || (a.Kind == (20 : Int))) = true
   · rw [if_pos hrd]
     have hx : x = r := by
       refine Zyp ?_ hi.w (hi.good rfl) kon q1
       simp only [Bool.or_eq_true, beq_iff_eq] at hrd
       omega
     subst hx
     rw [Zpi h.rel.srt hl] at f4
     exact ⟨s, t', _, rfl, rfl, (Znj h f4 (by rw [← f3.rel.room, Zge f1, h.rel.room])).mono (by omega), q5, by rw [← f3.rel.room, Zge f1, h.rel.room]⟩
   · rw [if_neg hrd]
     exact ⟨s', t', _, rfl, rfl, f3, q5, by rw [← f3.rel.room, Zge f1, h.rel.room]⟩
theorem Zqz {d : Zbu} (hd : ∀ a ∈ d.Acts, ActIn a) (hl : d.Acts.length ≤ 12) : ∀ (n i : Nat), i + n = d.Acts.length →
   ∃ z, Zft d (n + 1) (i : Int) = some z ∧ Zfj d (n + 1) (i : Int) = some z ∧ (z = .inr () ∨ ∃ c at_, z = .inl (c, at_) ∧ c ≠ 0)
 | 0, i, h => by
   rw [Zft, Zfj, if_neg (by simp; omega), if_neg (by simp; omega)]
   exact ⟨_, rfl, rfl, .inl rfl⟩
 | n + 1, i, h => by
   have h1 : i < d.Acts.length := by omega
   obtain ⟨c, e1, e2, _⟩ := Zm0 (hd _ (List.getElem_mem h1)).ok
   rw [Zft, Zfj, if_pos (by simp; omega), if_pos (by simp; omega), Zc7 h1, wr1 (by omega)]
   simp only [Option.bind_some]
   rw [e1, e2]
   simp only [Option.bind_some]
   by_cases hc : (c != 0) = true
   · rw [if_pos hc, if_pos hc]
     exact ⟨_, rfl, rfl, .inr ⟨_, _, rfl, by simpa using hc⟩⟩
   · rw [if_neg hc, if_neg hc]
     exact Zqz hd hl n (i + 1) (by omega)
theorem Zqw {d : Zbu} (hd : ∀ a ∈ d.Acts, ActIn a) : ∃ c at_, Zkz d = some (c, at_) ∧ Zjv d = some (c, at_) ∧ (c = 0 → 1 ≤ d.Acts.length ∧ d.Acts.length ≤ 12) := by
 unfold Zkz Zjv
 by_cases h : d.Acts.length < 1 ∨ 12 < d.Acts.length
 · rw [if_pos (by rw [Bool.or_eq_true, beq_iff_eq, decide_eq_true_eq]; omega), if_pos (by rw [Bool.or_eq_true, decide_eq_true_eq, decide_eq_true_eq]; omega)]
   exact ⟨_, _, rfl, rfl, fun h => by cases h⟩
 · rw [if_neg (by rw [Bool.or_eq_true, beq_iff_eq, decide_eq_true_eq]; omega), if_neg (by rw [Bool.or_eq_true, decide_eq_true_eq, decide_eq_true_eq]; omega)]
   obtain ⟨z, e1, e2, hz⟩ := Zqz hd (by omega) d.Acts.length 0 (by omega)
   rw [show ((0 : Nat) : Int) = 0 from rfl] at e1 e2
   rw [show (Int.toNat ((d.Acts.length : Int) - (0 : Int)) + 1) = d.Acts.length + 1 by omega, e1, e2]
   rcases hz with rfl | ⟨c, at_, rfl, hc⟩
   · exact ⟨_, _, rfl, rfl, fun _ => by omega⟩
   · exact ⟨_, _, rfl, rfl, fun h => absurd h hc⟩
def Zsn (L : List Zg) : Prop := ∀ a ∈ L, RecW a.Rec
theorem Zyw {L : List Zg} {a : Zg} (h : Zsn L) (ha : RecW a.Rec) : Zsn (L ++ [a]) := fun b hb => by
 rcases List.mem_append.1 hb with hb | hb
 · exact h b hb
 · rw [List.mem_singleton.1 hb]; exact ha
theorem Zr7 {ε β : Type} (e : Zv) (out : Zg) (i : Int) (F : Zda → Option β) (R : Zg → Option β) :
   Zv1 (Zj2 e out i) F ((Zlp e out i).bind R) = if (e.Must && (out.Code != 0)) = true then F { code := out.Code, at_ := i } else R out := by
 unfold Zj2 Zlp
 by_cases h : (e.Must && (out.Code != 0)) = true
 · rw [if_pos h, if_pos h, if_pos h]; rfl
 · rw [if_neg h, if_neg h, if_neg h]; rfl
theorem Zu6 {d : Zbu} (hd : ∀ a ∈ d.Acts, ActIn a) (hl : d.Acts.length ≤ 12) {s0 : Zm} {t0 : Zk} : ∀ (n i : Nat) {s : Zm} {t : Zk} {m : Nat} {L : List Zg}, i + n = d.Acts.length → FR s t m → m + n < 1000000 → L.length = i → Zsn L →
   (∃ R : Zba, R.Code ≠ 0 ∧ R.Answers = [] ∧ Zd8 s0 d (n + 1) { Code := 0, At := 0, Answers := L } s (i : Int) = some (.inl (s0, R)) ∧ Zfa t0 d (n + 1) default default t L (i : Int) = some (.inl (t0, R))) ∨
   (∃ s' t' L', Zd8 s0 d (n + 1) { Code := 0, At := 0, Answers := L } s (i : Int) = some (.inr ({ Code := 0, At := 0, Answers := L' }, s')) ∧ Zfa t0 d (n + 1) default default t L (i : Int) = some (.inr (default, default, t', L')) ∧ FR s' t' (m + n) ∧ Zsn L' ∧ L'.length = d.Acts.length ∧ t'.Room = t.Room)
 | 0, i, s, t, m, L, h, hf, hm, hL, hA => by
   right
   rw [Zd8, Zfa, if_neg (by simp; omega), if_neg (by simp; omega)]
   exact ⟨s, t, L, rfl, rfl, hf, hA, by omega, rfl⟩
 | n + 1, i, s, t, m, L, h, hf, hm, hL, hA => by
   have h1 : i < d.Acts.length := by omega
   obtain ⟨s', t', out, e1, e2, hf', hw, hro⟩ := Zpr hf (by omega) (hd _ (List.getElem_mem h1))
   rw [Zd8, Zfa, if_pos (by simp; omega), if_pos (by simp; omega), Zc7 h1, wr1 (by omega)]
   simp only [Option.bind_some]
   rw [e1, e2]
   simp only [Option.bind_some, Zr7 (ε := Unit)]
   have hg : (gd (out.Code != 0) (some d.Acts[i])) = some (if (out.Code != 0) = true then d.Acts[i] else default) := Znt _ _
   rw [hg]
   simp only [Option.bind_some]
   have hb : ((out.Code != 0) && (if (out.Code != 0) = true then d.Acts[i] else default).Must) = ((d.Acts[i]).Must && (out.Code != 0)) := by
     cases hz : (out.Code != 0)
     · simp
     · simp
   rw [hb]
   by_cases hc : ((d.Acts[i]).Must && (out.Code != 0)) = true
   · rw [if_pos hc, if_pos hc]
     left
     have hne : out.Code ≠ 0 := by
       have := (Bool.and_eq_true _ _ ▸ hc : _ ∧ _).2
       simpa using this
     exact ⟨_, hne, rfl, rfl, rfl⟩
   · rw [if_neg hc, if_neg hc]
     have hlen : (L.length + [out].length) * 104 ≤ 140737488355328 := by simp; omega
     rw [if_pos hlen, if_pos hlen]
     have := Zu6 hd hl (s0 := s0) (t0 := t0) n (i + 1) (L := L ++ [out]) (by omega) hf' (by omega) (by simp; omega) (Zyw hA hw)
     rcases this with ⟨R, h0, h1, h2, h3⟩ | ⟨s2, t2, L2, h1, h2, h3, h4, h5, h6⟩
     · exact .inl ⟨R, h0, h1, h2, h3⟩
     · exact .inr ⟨s2, t2, L2, h1, h2, h3.mono (by omega), h4, h5, h6.trans hro⟩
def Z5v (R : Zba) : Prop := R.Answers.length ≤ 12 ∧ Zsn R.Answers
theorem Zv7 {s : Zm} {t : Zk} {n : Nat} (h : FR s t n) (hn : n + 12 < 1000000) {d : Zbu} (hd : ∀ a ∈ d.Acts, ActIn a) :
   ∃ s' t' R, Zji s d = some (s', R) ∧ Zm5 t d = some (t', R) ∧ FR s' t' (n + 12) ∧ Z5v R ∧ (R.Code ≠ 0 → s' = s ∧ t' = t ∧ R.Answers = []) ∧ (R.Code = 0 → R.At = 0 ∧ R.Answers.length = d.Acts.length) ∧ t'.Room = t.Room := by
 obtain ⟨c, at_, e1, e2, hc⟩ := Zqw hd
 unfold Zji Zm5
 rw [e1, e2]
 simp only [Option.bind_some]
 by_cases h0 : (c != 0) = true
 · rw [if_pos h0, if_pos h0]
   exact ⟨s, t, _, rfl, rfl, h.mono (by omega), ⟨by simp, fun a ha => by cases ha⟩, fun _ => ⟨rfl, rfl, rfl⟩, fun hz => absurd hz (by simpa using h0), rfl⟩
 · rw [if_neg h0, if_neg h0]
   have hl := hc (by simpa using h0)
   have := Zu6 hd hl.2 (s0 := s) (t0 := t) d.Acts.length 0 (L := []) (by omega) h (by omega) rfl (fun a ha => by cases ha)
   rw [show ((0 : Nat) : Int) = 0 from rfl] at this
   rw [show (Int.toNat ((d.Acts.length : Int) - (0 : Int)) + 1) = d.Acts.length + 1 by omega]
   have hdef : (default : Zba) = { Code := 0, At := 0, Answers := [] } := rfl
   rcases this with ⟨R, h0, h1, h2, h3⟩ | ⟨s2, t2, L2, h1, h2, h3, h4, h5, h6⟩
   · rw [h3]
     rw [hdef, h2]
     exact ⟨s, t, R, rfl, rfl, h.mono (by omega), ⟨by rw [h1]; simp, by rw [h1]; intro a ha; cases ha⟩, fun _ => ⟨rfl, rfl, h1⟩, fun hz => absurd hz h0, rfl⟩
   · rw [h2]
     rw [hdef, h1]
     exact ⟨s2, t2, _, rfl, rfl, h3.mono (by omega), ⟨by show L2.length ≤ 12; omega, h4⟩, fun hz => absurd rfl hz, fun _ => ⟨rfl, h5⟩, h6⟩
theorem Zsh {l : List Z2} (hl : l.length ≤ 60) (hw : ∀ p ∈ l, Zf0 p) {z : Zm} {r : Int} : ∀ (n i : Nat) {s : Zm} {t : Zk}, i + n = l.length → FR s t i → t.Room = r →
   (∃ s', Zc4 l (n + 1) z s t (i : Int) = some (.inl (s', none))) ∨ (∃ s' t', Zc4 l (n + 1) z s t (i : Int) = some (.inr (z, s', t')) ∧ FR s' t' 60 ∧ t'.Room = r)
 | 0, i, s, t, h, hf, hr => by
   right
   rw [Zc4, if_neg (by simp; omega)]
   exact ⟨s, t, rfl, hf.mono (by omega), hr⟩
 | n + 1, i, s, t, h, hf, hr => by
   have h1 : i < l.length := by omega
   have hm := hw _ (List.getElem_mem h1)
   obtain ⟨c, e1, e2, e3⟩ := Z7d (Z4u hm.2)
   rw [Zc4, if_pos (by simp; omega), Zc7 h1, wr1 (by omega)]
   simp only [Option.bind_some]
   rw [e1]
   by_cases hk : decide ((100 : Int) < ((l[i]).Key.size : Int)) = true
   · rw [hk]; left; exact ⟨s, rfl⟩
   · rw [Bool.eq_false_iff.2 hk]
     simp only [Bool.not_false, gd_t, Option.bind_some, Bool.false_or]
     rcases e2 with rfl | rfl
     · simp only [Int.lt_irrefl, decide_false, Bool.false_eq_true, if_false]
       have hx : RecW (l[i]).Rec := Z4a hm.2 (e3 rfl)
       obtain ⟨s', t', c, f1, f2, f3, f4⟩ := Zn1 hf.rel (by omega) (l[i]).Key hx.ok (e3 rfl)
       rw [f1, f2]
       simp only [Option.bind_some]
       have hro : t'.Room = t.Room := by rw [← f3.room, Zge f1, hf.rel.room]
       refine Zsh hl hw n (i + 1) (by omega) ?_ (by rw [hro, hr])
       rcases f4 with f4 | ⟨f4, f5, f6, f7⟩
       · have := Znj hf f4 hro
         exact ⟨f3, this.good, this.fit⟩
       · refine Zwk hf f3 hx ((Ziq hx.ok).1 f5) ?_ f4 hro
         refine Classical.byContradiction fun hno => ?_
         have h1 : (lk (l[i]).Key (pl t)).isNone = true := by
           cases hz : lk (l[i]).Key (pl t) with
           | none => rfl
           | some r => exact absurd (.inl (by rw [hz]; rfl)) hno
         have h2 : t.Room ≤ (t.L.length : Int) := Int.not_lt.1 fun h => hno (.inr h)
         have hk1 : sEq (l[i]).Key ⟨#[]⟩ = false := by
           rw [Zt0]; simpa using f6
         obtain ⟨_, hs⟩ := (Zny hf.rel (by omega) f1 f5 (e3 rfl) hk1 (by omega)).2 h1 h2
         subst hs
         have ht := f3.top
         rw [hf.rel.top, f4] at ht
         rcases Zj4 (k := (l[i]).Key) (l[i]).Rec hf.rel.srt with ⟨p, _, _, a3, _⟩ | ⟨_, _, a3, _⟩
         · rw [a3] at h1; cases h1
         · have hle := congrArg List.length ht
           rw [a3] at hle
           have hrk := Zrp (l[i]).Key (pl t)
           simp at hle
           omega
     · left; exact ⟨s, rfl⟩
theorem Z1p {r : Int} {l : List Z2} (hw : ∀ p ∈ l, Zf0 p) : (∃ s, Zfo r l = some (s, none)) ∨ (∃ s t, Zfo r l = some (s, some t) ∧ FR s t 60 ∧ t.Room = r ∧ 1 ≤ r ∧ r ≤ 4096) := by
 unfold Zfo Zkl
 by_cases hr : r < 1 ∨ 4096 < r
 · rw [if_pos (by simpa using hr)]
   left; exact ⟨_, rfl⟩
 · rw [if_neg (by simpa using hr)]
   simp only [Option.bind_some, bne_self_eq_false, Bool.false_or]
   by_cases hl : 60 < l.length
   · rw [if_pos (by simp; omega)]; left; exact ⟨_, rfl⟩
   · rw [if_neg (by simp; omega), show (Int.toNat ((l.length : Int) - (0 : Int)) + 1) = l.length + 1 by omega]
     have := Zsh (l := l) (by omega) hw (z := default) (r := r) l.length 0 (by omega) ⟨Z38 r, fun q hq => by simp [pl] at hq, by simp; omega⟩ rfl
     rw [show ((0 : Nat) : Int) = 0 from rfl] at this
     rcases this with ⟨s', e⟩ | ⟨s', t', e, e2, e3⟩
     · rw [e]; left; exact ⟨_, rfl⟩
     · rw [e]; right; exact ⟨s', t', rfl, e2, e3, by omega, by omega⟩
def eqS : List KV → List KV → Bool
 | [], [] => true
 | p :: l, q :: m => sEq p.1 q.1 && Zkb p.2 q.2 && eqS l m
 | _, _ => false
theorem Zyd : ∀ {a b : List KV}, eqS a b = true → a.length = b.length
 | [], [], _ => rfl
 | x :: xs, y :: ys, h => by
   simp only [eqS, Bool.and_eq_true] at h
   simp [Zyd h.2]
 | [], _ :: _, h => by simp [eqS] at h
 | _ :: _, [], h => by simp [eqS] at h
theorem Zvb : ∀ l : List KV, eqS l l = true
 | [] => rfl
 | p :: l => by simp [eqS, Zex, Zzd, Zvb l]
structure SOk (s : Zm) : Prop where
 sz : Szd s.top
 srt : Srt (toL s.top)
 len : (toL s.top).length < 1000000
 ok : ∀ q ∈ toL s.top, Zg6 q.2 ∧ q.2.List.length ≤ 100
theorem SOk.cl {s : Zm} (h : SOk s) : ∀ q ∈ toL s.top, Cl q.2 := fun q hq => by
 have := (h.ok q hq).2
 unfold Cl; omega
theorem Rel.sok {s : Zm} {t : Zk} {n : Nat} (h : Rel s t n) (hn : n < 1000000) : SOk s :=
 ⟨h.sz, by rw [h.top]; exact h.srt, by rw [h.tl]; have := h.len; omega, by rw [h.top]; exact h.ok⟩
theorem Zto {a b : Zm} (ha : SOk a) (hb : SOk b) (he : (toL a.top).length = (toL b.top).length) : ∀ (n i : Nat), i + n = (toL a.top).length →
   Zfv a b ((toL a.top).length : Int) (n + 1) (i : Int) = some (endB (eqS ((toL a.top).drop i) ((toL b.top).drop i)))
 | 0, i, h => by
   rw [Zfv, if_neg (by simp; omega), List.drop_of_length_le (by omega), List.drop_of_length_le (by omega)]
   rfl
 | n + 1, i, h => by
   have la := ha.len
   have h1 : i < (toL a.top).length := by omega
   have h2 : i < (toL b.top).length := by omega
   rw [Zfv, if_pos (by simp; omega), Zyj ha.sz (by omega) (by omega) (by omega) ha.cl, Zyj hb.sz (by omega) (by omega) (by omega) hb.cl, idxn, idxn, List.getElem?_eq_getElem h1, List.getElem?_eq_getElem h2, wr1 (by omega), List.drop_eq_getElem_cons h1, List.drop_eq_getElem_cons h2]
   have r1 := (ha.ok _ (List.getElem_mem h1)).1
   have r2 := (hb.ok _ (List.getElem_mem h2)).1
   simp only [atR, Option.bind_some, eqS]
   cases hk : sEq (toL a.top)[i].1 (toL b.top)[i].1
   · simp [gd, endB]
   · simp only [Bool.not_true, Bool.not_false, gd_t]
     rw [Zwn r1 r2]
     simp only [Option.bind_some, Bool.false_or, Bool.true_and]
     cases hs : Zkb (toL a.top)[i].2 (toL b.top)[i].2
     · simp [endB]
     · simp only [Bool.not_true, Bool.false_eq_true, if_false, Bool.true_and]
       exact Zto ha hb he n (i + 1) (by omega)
theorem Z1s {a b : Zm} (ha : SOk a) (hb : SOk b) : Zjt a b = some (eqS (toL a.top) (toL b.top)) := by
 have la := ha.len
 have lb := hb.len
 unfold Zjt Zdk
 rw [Zgt ha.sz, Zgt hb.sz]
 simp only [Option.bind_some]
 by_cases he : (toL a.top).length = (toL b.top).length
 · rw [if_neg (by simp; omega)]
   have := Zto ha hb he (toL a.top).length 0 (by omega)
   rw [show ((0 : Nat) : Int) = 0 from rfl] at this
   rw [show (Int.toNat (((toL a.top).length : Int) - (0 : Int)) + 1) = (toL a.top).length + 1 by omega, this]
   simp only [List.drop_zero]
   cases eqS (toL a.top) (toL b.top) <;> rfl
 · rw [if_pos (by simp; omega)]
   cases h : eqS (toL a.top) (toL b.top)
   · rfl
   · exact absurd (Zyd h) he
theorem Z5b {s : Zm} {t : Zk} {n : Nat} (h : FR s t n) (hn : n < 1000000) : Zjt s s = some true := by
 rw [Z1s (h.rel.sok hn) (h.rel.sok hn), Zvb]
theorem Zvi {s s' : Zm} {t : Zk} {n : Nat} (h : FR s t n) (hn : n < 1000000) {a : Zv} (ha : ActIn a) {out : Zg} (e : Zh3 s a = some (s', out)) (h0 : out.Code = 0) (h5 : 5 ≤ a.Kind)
   (hnr : (((((a.Kind == (3 : Int)) || (a.Kind == (4 : Int))) || (a.Kind == (9 : Int))) || (a.Kind == (12 : Int))) || (a.Kind == (20 : Int))) = false) :
   ∃ t' r x o, FR s' t' (n + 1) ∧ lk a.Key (pl t) = some r ∧ Zcf r ∧ Zid a.Kind = some r.Kind ∧ ActW a ∧ Z5 a.Kind r a default = some (0, x, o) ∧ pl t' = insL a.Key x (pl t) := by
 unfold Zh3 at e
 rw [Zne h.rel] at e
 have herr : ∀ {r : Zd} {there : Bool} {c : Int}, c ≠ 0 → Zhq r there a = some (r, there, ans c) → getR (lk a.Key (pl t)) = (r, there) → False := fun {r there c} hc hr hg => by
   rw [hg] at e
   simp only [Option.bind_some] at e
   rw [hr] at e
   have hc' : (c != 0) = true := by simpa using hc
   simp only [Option.bind_some, hc', Bool.not_true, gd_f, Bool.true_or, if_true, Option.some.injEq, Prod.mk.injEq] at e
   exact hc (by rw [← h0, ← e.2])
 cases hl : lk a.Key (pl t) with
 | none =>
   obtain ⟨z, e3, hs⟩ := Znb (r := zrc) (there := false) Zcg ha
   rcases hs with ⟨c, hc, hz⟩ | ⟨h1, h2, h3, hs⟩
   · exact (herr hc (by rw [e3, hz]; rfl) (by rw [hl]; rfl)).elim
   · rcases hs with ⟨hk, _⟩ | ⟨hk, _⟩ | ⟨hk, _⟩ | ⟨hk, _⟩ | ⟨_, _, ht, _⟩
     · omega
     · omega
     · omega
     · omega
     · cases ht
 | some r =>
   obtain ⟨g1, g2⟩ := h.good _ (Zu4 hl)
   obtain ⟨z, e3, hs⟩ := Znb (r := r) (there := true) g1 ha
   rcases hs with ⟨c, hc, hz⟩ | ⟨h1, h2, h3, hs⟩
   · exact (herr hc (by rw [e3, hz]; rfl) (by rw [hl]; rfl)).elim
   · rcases hs with ⟨hk, _⟩ | ⟨hk, _⟩ | ⟨hk, _⟩ | ⟨hk, _⟩ | ⟨k5, k21, _, kon, r', o, q1, q2, q3, q4, q5, hz⟩
     · omega
     · omega
     · omega
     · omega
     · simp only [if_true] at kon q1
       rw [hl] at e
       simp only [getR, Option.bind_some] at e
       rw [e3, hz] at e
       simp only [Option.bind_some, Zli, q2, bne_self_eq_false, Bool.not_false, gd_t, hnr, Bool.or_self, Bool.false_eq_true, if_false, Bool.not_true] at e
       have hgx : Zcf r' := Zwe k5 k21 kon g1 g2 h2 q1
       have hsh := Zn3 hgx
       obtain ⟨k1, k2⟩ := Z0k ha h1
       obtain ⟨s2, t2, c, f1, f2, f3, _⟩ := Zn1 h.rel hn a.Key q4.ok (by omega)
       have ho : (lk a.Key (pl t)).isSome = true := by rw [hl]; rfl
       obtain ⟨rfl, hp⟩ := (Zny h.rel hn f1 ((Ziq q4.ok).2 hgx) (by omega) k1 k2).1 (.inl ho)
       rw [f3.top] at hp
       rw [f1] at e
       simp only [Option.bind_some, bne_self_eq_false, Bool.false_eq_true, if_false, Option.some.injEq, Prod.mk.injEq] at e
       obtain ⟨rfl, _⟩ := e
       exact ⟨t2, r, r', o, Zwk h f3 q4 hgx (.inl ho) hp (by rw [← f3.room, Zge f1, h.rel.room]), rfl, g2, kon, h2, q1, hp⟩
theorem Zqt {d : Zbu} {s0 s s1 : Zm} {n i : Nat} {L : List Zg} {out : Zg} (h1 : i < d.Acts.length) (hl : d.Acts.length ≤ 12) (hL : L.length = i) (e : Zh3 s d.Acts[i] = some (s1, out)) :
   Zd8 s0 d (n + 1) { Code := 0, At := 0, Answers := L } s (i : Int) = if ((d.Acts[i]).Must && (out.Code != 0)) = true then some (.inl (s0, { Code := out.Code, At := ((i + 1 : Nat) : Int), Answers := [] })) else Zd8 s0 d n { Code := 0, At := 0, Answers := L ++ [out] } s1 ((i + 1 : Nat) : Int) := by
 rw [Zd8, if_pos (by simp; omega), Zc7 h1, wr1 (by omega)]
 simp only [Option.bind_some]
 rw [e]
 simp only [Option.bind_some, Zr7 (ε := Unit)]
 have hlen : (L.length + [out].length) * 104 ≤ 140737488355328 := by simp; omega
 rw [if_pos hlen]
theorem Z4h {s s1 : Zm} {t : Zk} {n : Nat} (h : FR s t n) (hn : n + 12 < 1000000) {a b : Zv} (ha : ActIn a) (hb : ActIn b) (ma : a.Must = true) (mb : b.Must = true) {R : Zba} (e : Zji s { Acts := [a, b] } = some (s1, R)) (h0 : R.Code = 0) :
   ∃ sA o0 o1, Zh3 s a = some (sA, o0) ∧ o0.Code = 0 ∧ Zh3 sA b = some (s1, o1) ∧ o1.Code = 0 := by
 have hd : ∀ x ∈ ({ Acts := [a, b] } : Zbu).Acts, ActIn x := fun x hx => by
   rcases List.mem_cons.1 hx with rfl | hx
   · exact ha
   · rw [List.mem_singleton.1 hx]; exact hb
 obtain ⟨c, at_, e1, _, hc⟩ := Zqw hd
 obtain ⟨sA, tA, o0, f1, _, hfA, _⟩ := Zpr h (by omega) ha
 obtain ⟨sB, tB, o1, f2, _⟩ := Zpr hfA (by omega) hb
 unfold Zji at e
 rw [e1] at e
 simp only [Option.bind_some] at e
 by_cases hz : (c != 0) = true
 · rw [if_pos hz] at e
   cases e
   exact absurd h0 (by simpa using hz)
 · rw [if_neg hz] at e
   have hdef : (default : Zba) = { Code := 0, At := 0, Answers := [] } := rfl
   have s1' := Zqt (d := { Acts := [a, b] }) (s0 := s) (n := 2) (i := 0) (L := []) (by simp) (by simp) rfl f1
   have s2' := Zqt (d := { Acts := [a, b] }) (s0 := s) (n := 1) (i := 1) (L := [o0]) (by simp) (by simp) rfl f2
   rw [show ((0 : Nat) : Int) = 0 from rfl] at s1'
   have hlen : Int.toNat ((({ Acts := [a, b] } : Zbu).Acts.length : Int) - (0 : Int)) + 1 = 2 + 1 := rfl
   rw [hlen, hdef, s1'] at e
   simp only [List.getElem_cons_zero, List.getElem_cons_succ, ma, mb, Bool.true_and, List.nil_append] at e s2'
   by_cases h1 : (o0.Code != 0) = true
   · rw [if_pos h1] at e
     cases e
     exact absurd h0 (by simpa using h1)
   · rw [if_neg h1, s2'] at e
     by_cases h2 : (o1.Code != 0) = true
     · rw [if_pos h2] at e
       cases e
       exact absurd h0 (by simpa using h2)
     · rw [if_neg h2, Zd8, if_neg (by simp)] at e
       cases e
       exact ⟨sA, o0, o1, f1, by simpa using h1, f2, by simpa using h2⟩
def Zi9 (p : KV) : Int := if (p.2.Kind == 4) = true then p.2.Num else 0
def tot (l : List KV) : Int := (l.map Zi9).sum
theorem Z3r {k : ByteArray} {x r : Zd} {l : List KV} (hs : Srt l) (h : lk k l = some r) : tot (insL k x l) = tot l - Zi9 (k, r) + Zi9 (k, x) := by
 rcases Zj4 x hs with ⟨p, a1, a2, a3, a4, _⟩ | ⟨_, a2, _⟩
 · rw [h] at a3
   obtain rfl := Option.some.inj a3
   obtain ⟨hlt, hp⟩ := List.getElem?_eq_some_iff.1 a1
   have h1 := List.take_append_drop (rk k l) l
   rw [List.drop_eq_getElem_cons hlt, hp] at h1
   have h2 : tot l = tot (List.take (rk k l) l) + (Zi9 p + tot (List.drop (rk k l + 1) l)) := by
     conv => lhs; rw [← h1]
     simp [tot, List.sum_append]
   have h3 : tot (insL k x l) = tot (List.take (rk k l) l) + (Zi9 (k, x) + tot (List.drop (rk k l + 1) l)) := by
     rw [a4]; simp [tot, List.sum_append]
   have h4 : Zi9 (k, p.2) = Zi9 p := by rw [← a2]
   rw [h2, h3, h4]; omega
 · rw [h] at a2; cases a2
theorem Zn0 {s : Zm} {t : Zk} {m : Nat} (h : FR s t m) (hm : m < 1000000) : ∀ (n i : Nat) (A : Int), i + n = t.L.length → Zc6 s (t.L.length : Int) (n + 1) (IntKind.u64.wrap A) (i : Int) = some (IntKind.u64.wrap (A + tot ((pl t).drop i)))
 | 0, i, A, hi => by
   rw [Zc6, if_neg (by simp; omega), List.drop_of_length_le (by rw [Zeh]; omega)]
   simp [tot]
 | n + 1, i, A, hi => by
   have hb := h.rel.len
   have h1 : i < t.L.length := by omega
   have h2 : i < (pl t).length := by rw [Zeh]; exact h1
   rw [Zc6, if_pos (by simp; omega), Zyj h.rel.sz (by rw [h.rel.tl]; omega) (by omega) (by omega) h.rel.cl, h.rel.top, idxn, List.getElem?_eq_getElem h2, List.drop_eq_getElem_cons h2]
   simp only [atR, Option.bind_some, Zgc]
   rw [wr1 (by omega)]
   have ht : tot ((pl t)[i] :: List.drop (i + 1) (pl t)) = Zi9 (pl t)[i] + tot (List.drop (i + 1) (pl t)) := by unfold tot; rw [List.map_cons, List.sum_cons]
   by_cases hk : ((pl t)[i].2.Kind == 4) = true
   · rw [if_pos hk, show IntKind.u64.wrap (IntKind.u64.wrap A + IntKind.u64.wrap (pl t)[i].2.Num) = IntKind.u64.wrap (A + (pl t)[i].2.Num) by simp only [Zzi]; omega, Zn0 h hm n (i + 1) _ (by omega), ht, Zi9, if_pos hk, Int.add_assoc]
   · rw [if_neg hk, Zn0 h hm n (i + 1) _ (by omega), ht, Zi9, if_neg hk, Int.zero_add]
theorem Zvj {s : Zm} {t : Zk} {m : Nat} (h : FR s t m) (hm : m < 1000000) : Zgo s = some (IntKind.u64.wrap (tot (pl t))) := by
 unfold Zgo
 rw [Zp0 h.rel]
 simp only [Option.bind_some]
 have := Zn0 h hm t.L.length 0 0 (by omega)
 rw [show ((0 : Nat) : Int) = 0 from rfl, show IntKind.u64.wrap 0 = 0 by rw [Zzi]; rfl, Int.zero_add, List.drop_zero] at this
 rw [show (Int.toNat ((t.L.length : Int) - (0 : Int)) + 1) = t.L.length + 1 by omega, this]
 rfl
abbrev outA (m : Zbg) : Zv := { Kind := 11, Key := m.From, N := m.N, X := 0, S := ByteArray.empty, Make := default, Must := true }
abbrev inA (m : Zbg) : Zv := { Kind := 10, Key := m.To, N := m.N, X := 0, S := ByteArray.empty, Make := default, Must := true }
abbrev Zl4 (m : Zbg) : Zbu := { Acts := [outA m, inA m] }
theorem on10 : Zid 10 = some 4 := by kernel_rfl
theorem on11 : Zid 11 = some 4 := by kernel_rfl
theorem Ztn {s' : Zm} {t t' : Zk} {k : ByteArray} {r x : Zd} (hs : Srt (pl t)) (hl : lk k (pl t) = some r) (hp : pl t' = insL k x (pl t)) (hr : r.Kind = 4) (hx : x.Kind = 4) : tot (pl t') = tot (pl t) - r.Num + x.Num ∧ t'.L.length = t.L.length := by
 refine ⟨?_, ?_⟩
 · rw [hp, Z3r hs hl]
   simp [Zi9, hr, hx]
 · rw [← Zeh, hp, Zwl hs hl, Zeh]
theorem Z4d {s s' : Zm} {t : Zk} {n : Nat} (h : FR s t n) (hn : n + 12 < 1000000) {m : Zbg} (hm : Zgz m) {R : Zba} (e : Zji s (Zl4 m) = some (s', R)) :
   ∃ t', FR s' t' (n + 12) ∧ tot (pl t') = tot (pl t) ∧ t'.L.length = t.L.length := by
 have hz : RecW (default : Zd) := Zcg
 have hN : I64 m.N := hm.2.2
 have ha : ActIn (outA m) := ⟨⟨Znp, (by show (0 : Nat) < W64; decide)⟩, hN, Zcg⟩
 have hb : ActIn (inA m) := ⟨⟨Znp, (by show (0 : Nat) < W64; decide)⟩, hN, Zcg⟩
 have hd : ∀ x ∈ (Zl4 m).Acts, ActIn x := fun x hx => by
   rcases List.mem_cons.1 hx with rfl | hx
   · exact ha
   · rw [List.mem_singleton.1 hx]; exact hb
 obtain ⟨s2, t2, R2, e1, e2, hf', hR, hn0, h00, _⟩ := Zv7 h hn hd
 rw [e1] at e
 obtain ⟨rfl, rfl⟩ : s2 = s' ∧ R2 = R := by simpa using e
 by_cases hc : R2.Code = 0
 · obtain ⟨sA, o0, o1, f1, c0, f2, c1⟩ := Z4h h hn ha hb rfl rfl e1 hc
   obtain ⟨tA, r, x, o, hfA, hl, hg, hon, haw, hch, hp⟩ := Zvi h (by omega) ha f1 c0 (by show (5 : Int) ≤ 11; decide) rfl
   obtain ⟨tB, r2, x2, o2, hfB, hl2, hg2, hon2, haw2, hch2, hp2⟩ := Zvi hfA (by omega) hb f2 c1 (by show (5 : Int) ≤ 10; decide) rfl
   have hk : r.Kind = 4 := Option.some.inj (hon.symm.trans on11)
   have hk2 : r2.Kind = 4 := Option.some.inj (hon2.symm.trans on10)
   have x1 : x.Kind = 4 ∧ x.Num = r.Num - m.N := by
     have e3 : Z5 11 r (outA m) default = Zem r (outA m) default := rfl
     have hch' : Z5 11 r (outA m) default = some (0, x, o) := hch
     rw [e3] at hch'
     unfold Zem at hch'
     obtain ⟨p1, p2, p3, p4⟩ := Zp9 hg hk
     obtain ⟨n1, n2⟩ := haw.inout (.inr rfl)
     have n1' : 0 ≤ m.N := n1
     have n2' : m.N ≤ 2305843009213693952 := n2
     split at hch'
     · cases hch'
     · cases hch'
       exact ⟨hk, wr (by show _ ≤ r.Num - m.N; omega) (by show r.Num - m.N ≤ _; omega)⟩
   have x3 : x2.Kind = 4 ∧ x2.Num = r2.Num + m.N := by
     have e3 : Z5 10 r2 (inA m) default = Zeu r2 (inA m) default := rfl
     have hch' : Z5 10 r2 (inA m) default = some (0, x2, o2) := hch2
     rw [e3] at hch'
     unfold Zeu at hch'
     obtain ⟨p1, p2, p3, p4⟩ := Zp9 hg2 hk2
     obtain ⟨n1, n2⟩ := haw2.inout (.inl rfl)
     have n1' : 0 ≤ m.N := n1
     have n2' : m.N ≤ 2305843009213693952 := n2
     split at hch'
     · cases hch'
     · cases hch'
       exact ⟨hk2, wr (by show _ ≤ r2.Num + m.N; omega) (by show r2.Num + m.N ≤ _; omega)⟩
   obtain ⟨u1, u2⟩ := Ztn (s' := s) h.rel.srt hl hp hk x1.1
   obtain ⟨u3, u4⟩ := Ztn (s' := s) hfA.rel.srt hl2 hp2 hk2 x3.1
   refine ⟨tB, hfB.mono (by omega), ?_, by omega⟩
   rw [u3, u1, x1.2, x3.2]; omega
 · obtain ⟨rfl, rfl, _⟩ := hn0 hc
   exact ⟨_, h.mono (by omega), rfl, rfl⟩
theorem Zts {l : List Zbg} (hl : l.length ≤ 60) : ∀ (n i : Nat), i + n = l.length → ∃ z, Zeb l (n + 1) (i : Int) = some z ∧ (z = .inl true ∨ z = .inr ())
 | 0, i, h => by rw [Zeb, if_neg (by simp; omega)]; exact ⟨_, rfl, .inr rfl⟩
 | n + 1, i, h => by
   have h1 : i < l.length := by omega
   rw [Zeb, if_pos (by simp; omega), Zc7 h1, wr1 (by omega)]
   simp only [Option.bind_some]
   split
   · exact ⟨_, rfl, .inl rfl⟩
   · exact Zts hl n (i + 1) (by omega)
theorem Z4r (l : List Zbg) : ∃ b, Zic l = some b ∧ (b = false → l.length ≤ 60) := by
 unfold Zic
 by_cases h : 60 < l.length
 · rw [if_pos (by simp; omega)]; exact ⟨_, rfl, fun h => by cases h⟩
 · rw [if_neg (by simp; omega), show (Int.toNat ((l.length : Int) - (0 : Int)) + 1) = l.length + 1 by omega]
   obtain ⟨z, e, hz⟩ := Zts (l := l) (by omega) l.length 0 (by omega)
   rw [show ((0 : Nat) : Int) = 0 from rfl] at e
   rw [e]
   rcases hz with rfl | rfl
   · exact ⟨_, rfl, fun h => by cases h⟩
   · exact ⟨_, rfl, fun _ => by omega⟩
theorem Zr2 {l : List Zbg} (hl : l.length ≤ 60) : ∀ (n i : Nat) (D : List Zbu), i + n = l.length → D = (l.take i).map Zl4 → Zd2 l (n + 1) D (i : Int) = some (l.map Zl4)
 | 0, i, D, h, hD => by
   rw [Zd2, if_neg (by simp; omega), hD, List.take_of_length_le (by omega)]
 | n + 1, i, D, h, hD => by
   have h1 : i < l.length := by omega
   have hlen : D.length ≤ 60 := by rw [hD]; simp; omega
   rw [Zd2, if_pos (by simp; omega), Zc7 h1, wr1 (by omega)]
   simp only [Option.bind_some]
   rw [if_pos (by simp; omega)]
   exact Zr2 hl n (i + 1) _ (by omega) (by rw [hD, ← List.take_append_getElem h1, List.map_append]; rfl)
theorem Z1v {l : List Zbg} (hl : l.length ≤ 60) : Zh0 l = some (l.map Zl4) := by
 unfold Zh0
 have := Zr2 hl l.length 0 [] (by omega) rfl
 rw [show ((0 : Nat) : Int) = 0 from rfl] at this
 rw [show (Int.toNat ((l.length : Int) - (0 : Int)) + 1) = l.length + 1 by omega, this]
 rfl
theorem Zrx {l : List Zbg} (hl : l.length ≤ 60) (hw : ∀ m ∈ l, Zgz m) {T : Int} {N : Nat} : ∀ (n i : Nat) {s : Zm} {t : Zk} {m : Nat}, i + n = l.length → FR s t m → m + 12 * n < 900000 → tot (pl t) = T → t.L.length = N →
   ∃ s' t', Zcy (IntKind.u64.wrap T) (l.map Zl4) (n + 1) s (i : Int) = some (.inr s') ∧ FR s' t' 900000 ∧ t'.L.length = N
 | 0, i, s, t, m, h, hf, hm, hT, hN => by
   rw [Zcy, if_neg (by simp; omega)]
   exact ⟨s, t, rfl, hf.mono (by omega), hN⟩
 | n + 1, i, s, t, m, h, hf, hm, hT, hN => by
   have h1 : i < l.length := by omega
   have h2 : i < (l.map Zl4).length := by simpa using h1
   have hmv := hw _ (List.getElem_mem h1)
   have hd : ∀ x ∈ (Zl4 l[i]).Acts, ActIn x := fun x hx => by
     rcases List.mem_cons.1 hx with rfl | hx
     · exact ⟨⟨Znp, (by show (0 : Nat) < W64; decide)⟩, hmv.2.2, Zcg⟩
     · rw [List.mem_singleton.1 hx]; exact ⟨⟨Znp, (by show (0 : Nat) < W64; decide)⟩, hmv.2.2, Zcg⟩
   obtain ⟨s', t2, R, e1, e2, hf2, hR, hn0, h00, _⟩ := Zv7 hf (by omega) hd
   obtain ⟨t', hf', k1, k2⟩ := Z4d hf (by omega) hmv e1
   rw [Zcy, if_pos (by simp; omega), Zc7 h2, wr1 (by omega), List.getElem_map]
   simp only [Option.bind_some]
   rw [e1]
   simp only [Option.bind_some]
   rw [Zvj hf' (by omega), k1, hT]
   simp only [Option.bind_some, bne_self_eq_false, Bool.false_or]
   have hgo := Zrx hl hw n (i + 1) (by omega) hf' (by omega) (k1.trans hT) (k2.trans hN)
   by_cases hc : R.Code = 0
   · have hlen : R.Answers.length = 2 := (h00 hc).2
     simp only [hc, hlen, beq_self_eq_true, bne_self_eq_false, Bool.true_and, show (((2 : Nat) : Int) != 2) = false from rfl, Bool.not_false, Bool.and_false, gd_f, Option.bind_some, Bool.false_and, Bool.or_self, Bool.false_eq_true, if_false]
     exact hgo
   · obtain ⟨rfl, _, _⟩ := hn0 hc
     have hc1 : (R.Code == 0) = false := by simpa using hc
     have hc2 : (R.Code != 0) = true := by simpa using hc
     simp only [hc1, hc2, Bool.false_and, Bool.not_false, Bool.and_self, gd_t]
     rw [Z5b hf' (by omega)]
     simp only [Option.bind_some, Bool.not_true, Bool.and_false, Bool.or_self, Bool.false_eq_true, if_false]
     exact hgo
theorem WholeMoney_true (a0 : List Z2) (a1 : List Zbg) (w0 : a0.length ≤ maxLen ∧ ∀ e0 ∈ a0, Zf0 e0) (w1 : a1.length ≤ maxLen ∧ ∀ e0 ∈ a1, Zgz e0) : Zg9 a0 a1 = some true := by
 unfold Zg9 Zkl
 rw [if_neg (by decide)]
 simp only [Option.bind_some, Zio, bne_self_eq_false, Bool.false_eq_true, if_false]
 rcases Z1p (r := 60) w0.2 with ⟨s, e⟩ | ⟨s, t, e, hf, hr, _⟩
 · rw [e]; rfl
 · rw [e]
   obtain ⟨b, e1, e2⟩ := Z4r a1
   simp only [Option.bind_some, Option.isNone_some, Bool.not_false, gd_t, Bool.false_or]
   rw [e1]
   cases b with
   | true => rfl
   | false =>
     have hl := e2 rfl
     simp only [Option.bind_some, Bool.false_eq_true, if_false]
     rw [Zvj hf (by omega), Z1v hl]
     simp only [Option.bind_some]
     obtain ⟨s', t', g1, g2, g3⟩ := Zrx hl w1.2 a1.length 0 (by omega) hf (by omega) rfl rfl
     rw [show ((0 : Nat) : Int) = 0 from rfl] at g1
     rw [show (Int.toNat (((a1.map Zl4).length : Int) - (0 : Int)) + 1) = a1.length + 1 by simp, g1]
     simp only [Option.bind_some]
     rw [Zp0 g2.rel, g3]
     simp
end Go.CL
namespace Go.CL
open Go Go.RowKit Go.Proofs Go.ChangeShapes Go.WideShapes Go.ChangeAt
theorem Z1m : ownKnob Tryd.prog.godebug = none := by kernel_rfl
theorem Zt5 : laidOutB Tryd.prog = true := by kernel_rfl
theorem op_9 : Opn Tryd.prog 9 Kd.str (fun x => (x.size ≤ maxLen)) := Z26 Tryd.underlying9 (by kernel_rfl)
theorem op_3 : Opn Tryd.prog 3 (Kd.int .i64) (fun x => ((IntKind.i64).min ≤ x ∧ x ≤ (IntKind.i64).max)) := Zx3 Tryd.underlying3 (by kernel_rfl)
theorem op_2 : Opn Tryd.prog 2 (Kd.int .i64) (fun x => ((IntKind.i64).min ≤ x ∧ x ≤ (IntKind.i64).max)) := Zx3 Tryd.underlying2 (by kernel_rfl)
theorem Z2w : Opn Tryd.prog 51 Kd.flt (fun x => (x < 2 ^ 64)) := Z3y Tryd.underlying51 (by kernel_rfl)
theorem Z67 : Opn Tryd.prog 78 Zt Zna := ⟨by kernel_rfl, fun hg h => by
 obtain ⟨hl, n, hf⟩ := Zl2 Tryd.underlying78 h
 obtain ⟨y0, h0⟩ := hf 0 _ rfl
 obtain ⟨v0, k0, w0⟩ := Z2w.op hg h0
 obtain ⟨y1, h1⟩ := hf 1 _ rfl
 obtain ⟨v1, k1, w1⟩ := op_9.op hg h1
 refine ⟨⟨v0, v1⟩, ⟨hl.trans (by kernel_rfl), (List.forall_mem_cons.2 ⟨k0, (List.forall_mem_cons.2 ⟨k1, (fun _ h => by cases h)⟩)⟩)⟩, w0, w1⟩, fun h => Zmx Tryd.underlying78 h⟩
theorem Z79 : Opn Tryd.prog 52 Zt.sl (fun x => (x.length ≤ maxLen ∧ ∀ e0 ∈ x, (Zna e0))) := Zwi Tryd.underlying52 (by kernel_rfl) Z67 (by decide)
theorem Z6y : Opn Tryd.prog 54 Zi Zka := ⟨by kernel_rfl, fun hg h => by
 obtain ⟨hl, n, hf⟩ := Zl2 Tryd.underlying54 h
 obtain ⟨y0, h0⟩ := hf 0 _ rfl
 obtain ⟨v0, k0, w0⟩ := op_3.op hg h0
 obtain ⟨y1, h1⟩ := hf 1 _ rfl
 obtain ⟨v1, k1, w1⟩ := op_2.op hg h1
 obtain ⟨y2, h2⟩ := hf 2 _ rfl
 obtain ⟨v2, k2, w2⟩ := op_2.op hg h2
 obtain ⟨y3, h3⟩ := hf 3 _ rfl
 obtain ⟨v3, k3, w3⟩ := op_2.op hg h3
 obtain ⟨y4, h4⟩ := hf 4 _ rfl
 obtain ⟨v4, k4, w4⟩ := Z2w.op hg h4
 obtain ⟨y5, h5⟩ := hf 5 _ rfl
 obtain ⟨v5, k5, w5⟩ := op_3.op hg h5
 obtain ⟨y6, h6⟩ := hf 6 _ rfl
 obtain ⟨v6, k6, w6⟩ := op_9.op hg h6
 obtain ⟨y7, h7⟩ := hf 7 _ rfl
 obtain ⟨v7, k7, w7⟩ := Z79.op hg h7
 refine ⟨⟨v0, v1, v2, v3, v4, v5, v6, v7⟩, ⟨hl.trans (by kernel_rfl), (List.forall_mem_cons.2 ⟨k0, (List.forall_mem_cons.2 ⟨k1, (List.forall_mem_cons.2 ⟨k2, (List.forall_mem_cons.2 ⟨k3, (List.forall_mem_cons.2 ⟨k4, (List.forall_mem_cons.2 ⟨k5, (List.forall_mem_cons.2 ⟨k6, (List.forall_mem_cons.2 ⟨k7, (fun _ h => by cases h)⟩)⟩)⟩)⟩)⟩)⟩)⟩)⟩)⟩, w0, w1, w2, w3, w4, w5, w6, w7⟩, fun h => Zmx Tryd.underlying54 h⟩
theorem Z8e : Opn Tryd.prog 56 Zbt Zf0 := ⟨by kernel_rfl, fun hg h => by
 obtain ⟨hl, n, hf⟩ := Zl2 Tryd.underlying56 h
 obtain ⟨y0, h0⟩ := hf 0 _ rfl
 obtain ⟨v0, k0, w0⟩ := op_9.op hg h0
 obtain ⟨y1, h1⟩ := hf 1 _ rfl
 obtain ⟨v1, k1, w1⟩ := Z6y.op hg h1
 refine ⟨⟨v0, v1⟩, ⟨hl.trans (by kernel_rfl), (List.forall_mem_cons.2 ⟨k0, (List.forall_mem_cons.2 ⟨k1, (fun _ h => by cases h)⟩)⟩)⟩, w0, w1⟩, fun h => Zmx Tryd.underlying56 h⟩
theorem Z8a : Opn Tryd.prog 22 Zbt.sl (fun x => (x.length ≤ maxLen ∧ ∀ e0 ∈ x, (Zf0 e0))) := Zwi Tryd.underlying22 (by kernel_rfl) Z8e (by decide)
theorem Z63 : Opn Tryd.prog 62 Zcb Zgz := ⟨by kernel_rfl, fun hg h => by
 obtain ⟨hl, n, hf⟩ := Zl2 Tryd.underlying62 h
 obtain ⟨y0, h0⟩ := hf 0 _ rfl
 obtain ⟨v0, k0, w0⟩ := op_9.op hg h0
 obtain ⟨y1, h1⟩ := hf 1 _ rfl
 obtain ⟨v1, k1, w1⟩ := op_9.op hg h1
 obtain ⟨y2, h2⟩ := hf 2 _ rfl
 obtain ⟨v2, k2, w2⟩ := op_2.op hg h2
 refine ⟨⟨v0, v1, v2⟩, ⟨hl.trans (by kernel_rfl), (List.forall_mem_cons.2 ⟨k0, (List.forall_mem_cons.2 ⟨k1, (List.forall_mem_cons.2 ⟨k2, (fun _ h => by cases h)⟩)⟩)⟩)⟩, w0, w1, w2⟩, fun h => Zmx Tryd.underlying62 h⟩
theorem Z8c : Opn Tryd.prog 23 Zcb.sl (fun x => (x.length ≤ maxLen ∧ ∀ e0 ∈ x, (Zgz e0))) := Zwi Tryd.underlying23 (by kernel_rfl) Z63 (by decide)
theorem Z2r : Det Tryd.prog 9 := Z3c Tryd.underlying9
theorem Z7a : Det Tryd.prog 3 := Z39 Tryd.underlying3
theorem Z4g : Det Tryd.prog 108 := Zzh Tryd.underlying108 (fun i f h => match i, f, h with
 | 0, _, h => by obtain rfl := Option.some.inj h; exact Z2r
 | 1, _, h => by obtain rfl := Option.some.inj h; exact Z7a
 | 2, _, h => by obtain rfl := Option.some.inj h; exact Z2r
 | _ + 3, _, h => by cases h) (by kernel_rfl)
theorem Z44 : Det Tryd.prog 125 := Z3n Tryd.underlying125 Z4g (by kernel_rfl)
theorem WholeMoney_met (os : Os) (args : Array Value) : laidMetH Tryd.prog [("moiety/act.kinds", Go.Proofs.YtfmmgkiihhnehaaDoor.Rows.laid_moiety_act_kinds)] ((World.doorLaid Tryd.prog 400 os).forCall (fun _ _ => 0) ⟨#[], args, []⟩).memory :=
 laidMetH_of_parts3 (fuel := 8) (laidMet_of_run' 8 (by kernel_rfl) (by kernel_rfl)) (by kernel_rfl) (by kernel_rfl)
theorem WholeMoney_gl {W : World} (h : laidMetH Tryd.prog [("moiety/act.kinds", Go.Proofs.YtfmmgkiihhnehaaDoor.Rows.laid_moiety_act_kinds)] W) : GLok W (fun b _ => b < W.heap.size) := by
 have g0 := Z1u (P := Tryd.prog) (nm := "moiety/act.kinds") (d := Go.Proofs.YtfmmgkiihhnehaaDoor.Rows.laid_moiety_act_kinds) (g := 0) (t := 125) (W := W) (w0 := W) (cells := [.string ⟨#[]⟩, .int .i64 (0), .string ⟨#[]⟩, .string ⟨#[110, 101, 119]⟩, .int .i64 (0), .string ⟨#[109]⟩, .string ⟨#[100, 114, 111, 112]⟩, .int .i64 (0), .string ⟨#[]⟩, .string ⟨#[105, 115]⟩, .int .i64 (0), .string ⟨#[]⟩, .string ⟨#[108, 111, 111, 107]⟩, .int .i64 (0), .string ⟨#[]⟩, .string ⟨#[112, 117, 116]⟩, .int .i64 (1), .string ⟨#[115]⟩, .string ⟨#[115, 119, 97, 112]⟩, .int .i64 (1), .string ⟨#[115]⟩, .string ⟨#[97, 100, 100]⟩, .int .i64 (2), .string ⟨#[110]⟩, .string ⟨#[112, 108, 117, 115]⟩, .int .i64 (3), .string ⟨#[110]⟩, .string ⟨#[114, 101, 97, 99, 104]⟩, .int .i64 (3), .string ⟨#[110]⟩, .string ⟨#[105, 110]⟩, .int .i64 (4), .string ⟨#[110]⟩, .string ⟨#[111, 117, 116]⟩, .int .i64 (4), .string ⟨#[110]⟩, .string ⟨#[101, 110, 111, 117, 103, 104]⟩, .int .i64 (4), .string ⟨#[110]⟩, .string ⟨#[114, 97, 105, 115, 101]⟩, .int .i64 (5), .string ⟨#[120]⟩, .string ⟨#[108, 111, 119, 101, 114]⟩, .int .i64 (6), .string ⟨#[120]⟩, .string ⟨#[115, 104, 105, 102, 116]⟩, .int .i64 (7), .string ⟨#[120]⟩, .string ⟨#[115, 99, 97, 108, 101]⟩, .int .i64 (7), .string ⟨#[120]⟩, .string ⟨#[102, 105, 120]⟩, .int .i64 (7), .string ⟨#[120]⟩, .string ⟨#[106, 111, 105, 110]⟩, .int .i64 (8), .string ⟨#[115]⟩, .string ⟨#[108, 101, 97, 118, 101]⟩, .int .i64 (8), .string ⟨#[115]⟩, .string ⟨#[104, 97, 115]⟩, .int .i64 (8), .string ⟨#[115]⟩, .string ⟨#[111, 102, 102, 101, 114]⟩, .int .i64 (9), .string ⟨#[120, 115]⟩]) (fu := 8) (by kernel_rfl) (by kernel_rfl) Z44 (by kernel_rfl) (by kernel_rfl) h
 intro e he i v hv
 rcases List.mem_cons.1 he with rfl | he
 · exact ⟨(Zpj (g0 i v hv)).2, g0 i v hv⟩
 cases he
theorem WholeMoney_ret (os : Os) (started : os.Started) (H : Type) (enc : TypeId × Value → H) :
   ReturnsInHanded {} Tryd.checked os 3 .any (fun w args => (Go.Proofs.YtfmmgkiihhnehaaDoor.Rows.wholeMoneySpec.pre enc Tryd.prog Tryd.f3 [] false w args ∧ laidMetH Tryd.prog [("moiety/act.kinds", Go.Proofs.YtfmmgkiihhnehaaDoor.Rows.laid_moiety_act_kinds)] w) ∧ sizedMet enc Tryd.prog Tryd.f3 (OpenSpec.ofChange Go.Proofs.YtfmmgkiihhnehaaDoor.Rows.wholeMoneySpec) false w args) (Go.Proofs.YtfmmgkiihhnehaaDoor.Rows.wholeMoneySpec.post enc Tryd.prog Tryd.f3 false true false false) := by
 refine returnsInHanded_of_change_and (C := Tryd.checked) (X := fun w _ => laidMetH Tryd.prog [("moiety/act.kinds", Go.Proofs.YtfmmgkiihhnehaaDoor.Rows.laid_moiety_act_kinds)] w) (fun _ _ _ hh h => h.of_heap hh) Z1m started (by kernel_rfl) Tryd.func3
   (ChangeSpec.witness_shaped (enc := enc) (C := Tryd.checked) (os := os) (X := fun w _ => laidMetH Tryd.prog [("moiety/act.kinds", Go.Proofs.YtfmmgkiihhnehaaDoor.Rows.laid_moiety_act_kinds)] w) false (World.doorLaid Tryd.prog 400 os) #[.slice none 0 0, .slice none 0 0] 8 rfl (World.shaped_of_RefB (by kernel_rfl) (by kernel_rfl)) (by kernel_rfl) (by kernel_rfl) (by kernel_rfl) (WholeMoney_met os _)) ?_
 intro W base args ds gs before hval0 hW hcnd _ hL _
 have hval : ∀ (j : Nat) t v, Tryd.f3.params[j]? = some t → args[j]? = some v → Value.okWide Tryd.prog W .any base t v := hval0
 have hW' := hW
 obtain ⟨p, q, hA0, hV, rfl, hfz, hnd⟩ := hW
 have hA : DataW.TrodAll enc Tryd.prog W 0 (fun _ => true) true Tryd.f3.params.toList args.toList ds p := hA0
 rw [Tryd.params3] at hA hval
 obtain ⟨v0, v1, d0, d1, p0, p1, rfl, rfl, rfl, h0, h1⟩ := trodAll_two hA
 obtain ⟨rfl, rfl⟩ := trodVars_none hV
 simp only [List.append_nil] at hW'
 have hg : GLok W (fun b _ => b < W.heap.size) := (WholeMoney_gl hL)
 have hk0 := h0
 obtain ⟨a0, q0, w0⟩ := Zzt Z8a hg h0 (hval 0 22 v0 rfl rfl)
 have hk1 := h1
 obtain ⟨a1, q1, w1⟩ := Zzt Z8c hg h1 (hval 1 23 v1 rfl rfl)
 refine (Zms a0 a1 (WholeMoney_true a0 a1 w0 w1) (GW W hg) [v0, v1] (Zm9 q0 (Zm9 q1 Zdr))).mono fun e W' ⟨g', v, he, hw, hs, hq⟩ => ?_
 subst he; subst hw
 rw [Zhr.1 hq]
 have hbel := Z13 hs
 have hlt : ∀ x ∈ (p0 ++ p1), x.block < W.heap.size := fun x hx => by simpa using hW'.lt x hx
 exact ⟨_, rfl, Zui (pv := []) hW' hbel (trodAll_mk1 (shut_bool Tryd.underlying4 true)) (trodAll_mk2 (Below.trod Zt5 (by kernel_rfl) (of_decide_eq_true (by kernel_rfl)) hk0 hbel (fun x hx => hlt x (by simp [hx]))) (Below.trod Zt5 (by kernel_rfl) (of_decide_eq_true (by kernel_rfl)) hk1 hbel (fun x hx => hlt x (by simp [hx])))) rfl⟩
theorem WholeMoney_holds : Go.Proofs.YtfmmgkiihhnehaaDoor.Rows.WholeMoneySaid :=
 OpenClaim.holds_of_wide 3 Tryd.f3 rfl rfl rfl rfl rfl rfl rfl ⟨rfl, rfl, rfl, rfl, rfl⟩ rfl rfl rfl rfl rfl (by kernel_rfl) Tryd.func3 (by kernel_rfl)
   (of_decide_eq_true (by kernel_rfl)) (by unfold Func.isWrapper; first | (rw [if_pos (by decide +kernel)]; kernel_rfl) | (rw [if_neg (by decide +kernel)]; exact ⟨rfl, rfl⟩))
   (fun os started H enc _ => WholeMoney_ret os started H enc)
theorem WholeMoney_card : Go.Proofs.YtfmmgkiihhnehaaDoor.Rows.WholeMoneyCardSaid :=
 Claim7.holds_tied_plain_at .later [] [.data] true (true, "7d904c1ab9ff0ed3284e966902da9e31d5957f2f7be9895fa53055927edb55f6") true
   WholeMoney_holds (fun _ h => by cases h) (by kernel_rfl) (fun _ h => by cases h) Go.Proofs.YtfmmgkiihhnehaaDoor.wholeMoney_row_tie rfl ⟨rfl, rfl⟩ (by kernel_rfl) rfl
   (fun f fn hf hfn => by
     obtain rfl : f = 3 := Option.some.inj ((show Tryd.prog.funcNamed "moiety/moietytop.WholeMoney" = some 3 by kernel_rfl).symm.trans hf) |>.symm
     obtain rfl : fn = Tryd.f3 := (Option.some.inj (Tryd.func3.symm.trans hfn)).symm
     exact ⟨by kernel_rfl, fun j t ht => by
       rw [Tryd.params3] at ht
       have hm : t ∈ [22, 23] := by simpa using Array.mem_of_getElem? ht
       have hall : (([22, 23] : List TypeId).all fun u => !Tryd.prog.wantsStandIn u) = true := by kernel_rfl
       exact (show Tryd.prog.wantsStandIn t = false by simpa using List.all_eq_true.1 hall t hm)⟩)
   (by kernel_rfl)
end Go.CL
