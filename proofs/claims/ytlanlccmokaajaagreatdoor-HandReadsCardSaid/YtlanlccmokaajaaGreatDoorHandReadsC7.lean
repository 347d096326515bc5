/- A part of the proof of HandReads. -/
import Derived.Test.YtlanlccmokaajaaGreatDoorHandReadsC6
set_option linter.unusedVariables false
set_option linter.unusedSimpArgs false
set_option maxRecDepth 100000
namespace Go.CL
open Go
def Zir (k : Int) (l : List Zj) : Nat → Nat → Int
 | _, 0 => 0
 | i, n + 1 => if Zha k l i = 0 then Zir k l (i + 1) n else Zha k l i
def endC (c : Int) : Int ⊕ Unit := if c = 0 then .inr () else .inl c
theorem Zs6 {k : Int} {l : List Zj} {i n : Nat} (h : Zha k l i = 0) : Zir k l i (n + 1) = Zir k l (i + 1) n := by simp [Zir, h]
theorem Zsz {k : Int} {l : List Zj} {i n : Nat} (h : ¬ Zha k l i = 0) : Zir k l i (n + 1) = Zha k l i := by simp [Zir, h]
theorem Z2m {c : Int} (h : ¬ c = 0) : endC c = .inl c := if_neg h
theorem Zty {k : Int} {l : List Zj} (hl : l.length < 4611686018427387904) (hs : ∀ e ∈ l, e.Score < W64) : ∀ (n i : Nat), i + n = l.length →
   Zfk k l (n + 1) (i : Int) = some (endC (Zir k l i n))
 | 0, i, h => by
   rw [Zfk, if_neg (by simp; omega)]
   rfl
 | n + 1, i, h => by
   rw [Z2h (by omega) hl hs]
   by_cases hc : Zha k l i = 0
   · rw [if_pos hc, Zs6 hc, Zty hl hs n (i + 1) (by omega)]
   · rw [if_neg hc, Zsz hc, Z2m hc]
theorem Z4f {k : Int} {l : List Zj} (hl : l.length < 4611686018427387904) (hs : ∀ e ∈ l, e.Score < W64) : Zmu k l = some (Zir k l 0 l.length) := by
 unfold Zmu
 rw [show (Int.toNat ((l.length : Int) - (0 : Int)) + 1) = l.length + 1 by omega, show (0 : Int) = ((0 : Nat) : Int) from rfl, Zty hl hs l.length 0 (by omega)]
 unfold endC
 by_cases h : Zir k l 0 l.length = 0 <;> simp [h]
theorem Zsl {a : Zd} (ha : Zhp a) : ∀ (n i : Nat), i + n = a.List.length →
   Zd3 a (n + 1) (i : Int) = some (endC (Zir a.Kind a.List i n))
 | 0, i, h => by
   rw [Zd3, if_neg (by simp; omega)]
   rfl
 | n + 1, i, h => by
   have hl := ha.len
   rw [Zd3, if_pos (by simp; omega), Z4a (by omega) hl ha.sc, wr1 (by omega)]
   simp only [Option.bind_some]
   by_cases hc : Zha a.Kind a.List i = 0
   · rw [if_neg (by simp [hc]), Zs6 hc, Zsl ha n (i + 1) (by omega)]
   · rw [if_pos (by simp [hc]), Zsz hc, Z2m hc]
def Zgy (t n b r l : Bool) (a : Zd) : Bool := (t || sEq a.Text ⟨#[]⟩) && (n || a.Num == 0) && (b || (a.Low == 0 && a.High == 0)) && (r || decide (keyf a.Real = keyf 0)) && (l || (a.Cap == 0 && (a.List.length : Int) == 0))
theorem Z7i {a : Zd} (ha : Zhp a) (t n b r l : Bool) : Zn4 a ⟨t, n, b, r, l⟩ = some (Zgy t n b r l a) := by
 unfold Zn4 Zgy
 rw [Znt ha.real (by decide)]
 simp only
 generalize sEq a.Text ⟨#[]⟩ = x1
 generalize (a.Num == 0) = x2
 generalize (a.Low == 0) = x3
 generalize (a.High == 0) = x4
 generalize decide (keyf a.Real = keyf 0) = x5
 generalize (a.Cap == 0) = x6
 generalize ((a.List.length : Int) == 0) = x7
 revert t n b r l x1 x2 x3 x4 x5 x6 x7
 decide
theorem Z6l {a : Zd} (ha : Zhp a) {s : ByteArray} {t n b r l : Bool} (h : Zcr s (Int.toNat ((s.size : Int) - (0 : Int)) + 1) false false false false false 0 = some (t, n, b, r, l)) : Zh1 a s = some (Zgy t n b r l a) := by
 unfold Zh1 Zgy
 rw [h, Zz9 ha.real]
 simp only [Option.bind_some, bne]
 generalize sEq a.Text ⟨#[]⟩ = x1
 generalize (a.Num == 0) = x2
 generalize (a.Low == 0) = x3
 generalize (a.High == 0) = x4
 generalize decide (keyf a.Real = keyf 0) = x5
 generalize (a.Cap == 0) = x6
 generalize ((a.List.length : Int) == 0) = x7
 clear h
 revert t n b r l x1 x2 x3 x4 x5 x6 x7
 decide
theorem Zbag : Zcr ⟨#[116]⟩ (Int.toNat (((⟨#[116]⟩ : ByteArray).size : Int) - (0 : Int)) + 1) false false false false false 0 = some (true, false, false, false, false) := by kernel_rfl
theorem Z5p : Zcr ⟨#[110]⟩ (Int.toNat (((⟨#[110]⟩ : ByteArray).size : Int) - (0 : Int)) + 1) false false false false false 0 = some (false, true, false, false, false) := by kernel_rfl
theorem Z9e : Zcr ⟨#[110, 98]⟩ (Int.toNat (((⟨#[110, 98]⟩ : ByteArray).size : Int) - (0 : Int)) + 1) false false false false false 0 = some (false, true, true, false, false) := by kernel_rfl
theorem Z1j : Zcr ⟨#[114]⟩ (Int.toNat (((⟨#[114]⟩ : ByteArray).size : Int) - (0 : Int)) + 1) false false false false false 0 = some (false, false, false, true, false) := by kernel_rfl
theorem Z50 : Zcr ⟨#[108]⟩ (Int.toNat (((⟨#[108]⟩ : ByteArray).size : Int) - (0 : Int)) + 1) false false false false false 0 = some (false, false, false, false, true) := by kernel_rfl
def Zo2 (t n b r l : Bool) (a : Zd) : Int :=
 if Zgy t n b r l a = false then 4
 else if (64 : Int) < a.Text.size then 3
 else if b = true ∧ (a.Low < -2305843009213693952 ∨ 2305843009213693952 < a.High ∨ a.Num < a.Low ∨ a.High < a.Num) then 1
 else if a.Real ≠ Zb6 a.Real then 4
 else if l = false then 0
 else if a.Cap < 1 ∨ 32 < a.Cap then 1
 else if a.Cap < a.List.length then 8
 else Zir a.Kind a.List 0 a.List.length
theorem Zf2 {a : Zd} (ha : Zhp a) {t n b r l : Bool} (hk : ¬ (a.Kind ≤ 0 ∨ 10 ≤ a.Kind)) (hs : Zee a.Kind = some ⟨t, n, b, r, l⟩) : Zd8 a = some (Zo2 t n b r l a) := by
 unfold Zd8 Zo2
 rw [hs]
 simp only [Option.bind_some]
 rw [Z7i ha, Zqx ha.real, Z4f ha.len ha.sc]
 simp only [Option.bind_some]
 rw [if_neg (by simpa using hk)]
 by_cases h1 : Zgy t n b r l a = false
 · rw [if_pos h1, if_pos (by simp [h1])]
 · rw [if_neg h1, if_neg (by simpa using h1)]
   by_cases h2 : (64 : Int) < a.Text.size
   · rw [if_pos h2, if_pos (by simpa using h2)]
   · rw [if_neg h2, if_neg (by simpa using h2)]
     by_cases h3 : b = true ∧ (a.Low < -2305843009213693952 ∨ 2305843009213693952 < a.High ∨ a.Num < a.Low ∨ a.High < a.Num)
     · rw [if_pos h3, if_pos (by simpa [or_assoc] using h3)]
     · rw [if_neg h3, if_neg (by simpa [or_assoc] using h3)]
       by_cases h4 : a.Real = Zb6 a.Real
       · rw [if_neg (show ¬ (a.Real ≠ Zb6 a.Real) from fun h => h h4), decide_eq_true h4]
         simp only [Bool.not_true, Bool.false_eq_true, if_false]
         cases l
         · simp
         · simp only [Bool.not_true, Bool.false_eq_true, if_false, Bool.true_eq_false]
           by_cases h5 : a.Cap < 1 ∨ 32 < a.Cap
           · rw [if_pos h5, if_pos (by simpa using h5)]
           · rw [if_neg h5, if_neg (by simpa using h5)]
             by_cases h6 : a.Cap < a.List.length
             · rw [if_pos h6, if_pos (by simpa using h6)]
             · rw [if_neg h6, if_neg (by simpa using h6)]
       · rw [if_pos (show a.Real ≠ Zb6 a.Real from h4), decide_eq_false h4]
         rfl
theorem Z3b : Zee 1 = some ⟨true, false, false, false, false⟩ := by kernel_rfl
theorem Z3o : Zee 2 = some ⟨false, true, false, false, false⟩ := by kernel_rfl
theorem Z2i : Zee 3 = some ⟨false, true, false, false, false⟩ := by kernel_rfl
theorem Z2z : Zee 4 = some ⟨false, true, true, false, false⟩ := by kernel_rfl
theorem Z19 : Zee 5 = some ⟨false, false, false, true, false⟩ := by kernel_rfl
theorem Z3l : Zee 6 = some ⟨false, false, false, true, false⟩ := by kernel_rfl
theorem Z12 : Zee 7 = some ⟨false, false, false, true, false⟩ := by kernel_rfl
theorem Z2x : Zee 8 = some ⟨false, false, false, false, true⟩ := by kernel_rfl
theorem Z24 : Zee 9 = some ⟨false, false, false, false, true⟩ := by kernel_rfl
def Zrp (t n b r l : Bool) (k : Int) (a : Zd) : Int :=
 if Zgy t n b r l a = false then 4
 else if k = 1 ∧ (64 : Int) < a.Text.size then 3
 else if k = 4 ∧ (a.Low < -2305843009213693952 ∨ 2305843009213693952 < a.High ∨ a.Num < a.Low ∨ a.High < a.Num) then 1
 else if a.Real ≠ Zb6 a.Real then 4
 else if k < 8 then 0
 else if a.Cap < 1 ∨ 32 < a.Cap then 1
 else if a.Cap < a.List.length then 8
 else Zir a.Kind a.List 0 a.List.length
theorem Zf5 {a : Zd} (ha : Zhp a) {t n b r l : Bool} {s : ByteArray} (hk : ¬ (a.Kind < 1 ∨ 9 < a.Kind)) (hf : Ziu a.Kind = some s)
   (ho : Zcr s (Int.toNat ((s.size : Int) - (0 : Int)) + 1) false false false false false 0 = some (t, n, b, r, l)) : Zdt a = some (Zrp t n b r l a.Kind a) := by
 unfold Zdt Zrp
 have hw : IntKind.i64.wrap (0 - (2305843009213693952 : Int)) = -2305843009213693952 := by decide
 rw [hf, Zpl ha.real, hw, show (Int.toNat ((a.List.length : Int) - (0 : Int)) + 1) = a.List.length + 1 by omega]
 have hloop := Zsl ha a.List.length 0 (by omega)
 rw [show ((0 : Nat) : Int) = 0 from rfl] at hloop
 rw [hloop]
 simp only [Option.bind_some]
 rw [if_neg (by simpa using hk), Z6l ha ho]
 simp only [Option.bind_some]
 by_cases h1 : Zgy t n b r l a = false
 · rw [if_pos h1, if_pos (by simp [h1])]
 · rw [if_neg h1, if_neg (by simpa using h1)]
   by_cases h2 : a.Kind = 1 ∧ (64 : Int) < a.Text.size
   · rw [if_pos h2, if_pos (by simpa using h2)]
   · rw [if_neg h2, if_neg (by simpa using h2)]
     by_cases h3 : a.Kind = 4 ∧ (a.Low < -2305843009213693952 ∨ 2305843009213693952 < a.High ∨ a.Num < a.Low ∨ a.High < a.Num)
     · rw [if_pos h3, if_pos (by simpa [or_assoc] using h3)]
     · rw [if_neg h3, if_neg (by simpa [or_assoc] using h3)]
       by_cases h4 : a.Real = Zb6 a.Real
       · rw [if_neg (show ¬ (a.Real ≠ Zb6 a.Real) from fun h => h h4), decide_eq_true h4]
         simp only [Bool.not_true, Bool.false_eq_true, if_false]
         by_cases h7 : a.Kind < 8
         · rw [if_pos h7, if_pos (by simpa using h7)]
         · rw [if_neg h7, if_neg (by simpa using h7)]
           by_cases h5 : a.Cap < 1 ∨ 32 < a.Cap
           · rw [if_pos h5, if_pos (by simpa using h5)]
           · rw [if_neg h5, if_neg (by simpa using h5)]
             by_cases h6 : a.Cap < a.List.length
             · rw [if_pos h6, if_pos (by simpa using h6)]
             · rw [if_neg h6, if_neg (by simpa using h6)]
               unfold endC
               by_cases h : Zir a.Kind a.List 0 a.List.length = 0 <;> simp [h]
       · rw [if_pos (show a.Real ≠ Zb6 a.Real from h4), decide_eq_false h4]
         rfl
theorem Z6f {t n b r l : Bool} {a : Zd} (h : ¬ Zgy t n b r l a = false) (ht : t = false) : a.Text.size = 0 := by
 subst ht
 have : Zgy false n b r l a = true := by simpa using h
 unfold Zgy at this
 simp only [Bool.false_or, Bool.and_eq_true] at this
 have := Zde.1 this.1.1.1.1
 rw [this]; rfl
theorem D_eq (t n b r l : Bool) (k : Int) (a : Zd) (ht : t = true ↔ k = 1) (hb : b = true ↔ k = 4) (hl : l = false ↔ k < 8) : Zrp t n b r l k a = Zo2 t n b r l a := by
 unfold Zrp Zo2
 by_cases h1 : Zgy t n b r l a = false
 · rw [if_pos h1, if_pos h1]
 · rw [if_neg h1, if_neg h1]
   have e2 : (k = 1 ∧ (64 : Int) < a.Text.size) ↔ (64 : Int) < a.Text.size := by
     constructor
     · exact fun h => h.2
     · intro h
       refine ⟨ht.1 ?_, h⟩
       cases t
       · have := Z6f h1 rfl; omega
       · rfl
   simp only [e2, hb, hl]
theorem Znm {a : Zd} (ha : Zhp a) : ∃ c, Zd8 a = some c ∧ Zdt a = some c := by
 by_cases hk : a.Kind ≤ 0 ∨ 10 ≤ a.Kind
 · refine ⟨5, ?_, ?_⟩
   · unfold Zd8
     have hs : ∃ s, Zee a.Kind = some s := by
       have h1 : ¬ a.Kind = 1 := by omega
       have h2 : ¬ a.Kind = 2 := by omega
       have h3 : ¬ a.Kind = 3 := by omega
       have h4 : ¬ a.Kind = 4 := by omega
       have h5 : ¬ a.Kind = 5 := by omega
       have h6 : ¬ a.Kind = 6 := by omega
       have h7 : ¬ a.Kind = 7 := by omega
       have h8 : ¬ a.Kind = 8 := by omega
       have h9 : ¬ a.Kind = 9 := by omega
       exact ⟨⟨false, false, false, false, false⟩, by simp [Zee, Zjq, Zh4, Zjt, h1, h2, h3, h4, h5, h6, h7, h8, h9]⟩
     obtain ⟨s, hs⟩ := hs
     rw [hs]
     simp only [Option.bind_some]
     rw [if_pos (by simpa using hk)]
   · unfold Zdt
     rw [if_pos (by simp; omega)]
 · have hk2 : ¬ (a.Kind < 1 ∨ 9 < a.Kind) := by omega
   have hk' : a.Kind = 1 ∨ a.Kind = 2 ∨ a.Kind = 3 ∨ a.Kind = 4 ∨ a.Kind = 5 ∨ a.Kind = 6 ∨ a.Kind = 7 ∨ a.Kind = 8 ∨ a.Kind = 9 := by omega
   rcases hk' with h | h | h | h | h | h | h | h | h
   · exact ⟨_, Zf2 ha hk (by rw [h]; exact Z3b), by rw [Zf5 ha hk2 (by rw [h]; kernel_rfl) Zbag, D_eq _ _ _ _ _ _ _ (by simp [h]) (by simp [h]) (by simp [h])]⟩
   · exact ⟨_, Zf2 ha hk (by rw [h]; exact Z3o), by rw [Zf5 ha hk2 (by rw [h]; kernel_rfl) Z5p, D_eq _ _ _ _ _ _ _ (by simp [h]) (by simp [h]) (by simp [h])]⟩
   · exact ⟨_, Zf2 ha hk (by rw [h]; exact Z2i), by rw [Zf5 ha hk2 (by rw [h]; kernel_rfl) Z5p, D_eq _ _ _ _ _ _ _ (by simp [h]) (by simp [h]) (by simp [h])]⟩
   · exact ⟨_, Zf2 ha hk (by rw [h]; exact Z2z), by rw [Zf5 ha hk2 (by rw [h]; kernel_rfl) Z9e, D_eq _ _ _ _ _ _ _ (by simp [h]) (by simp [h]) (by simp [h])]⟩
   · exact ⟨_, Zf2 ha hk (by rw [h]; exact Z19), by rw [Zf5 ha hk2 (by rw [h]; kernel_rfl) Z1j, D_eq _ _ _ _ _ _ _ (by simp [h]) (by simp [h]) (by simp [h])]⟩
   · exact ⟨_, Zf2 ha hk (by rw [h]; exact Z3l), by rw [Zf5 ha hk2 (by rw [h]; kernel_rfl) Z1j, D_eq _ _ _ _ _ _ _ (by simp [h]) (by simp [h]) (by simp [h])]⟩
   · exact ⟨_, Zf2 ha hk (by rw [h]; exact Z12), by rw [Zf5 ha hk2 (by rw [h]; kernel_rfl) Z1j, D_eq _ _ _ _ _ _ _ (by simp [h]) (by simp [h]) (by simp [h])]⟩
   · exact ⟨_, Zf2 ha hk (by rw [h]; exact Z2x), by rw [Zf5 ha hk2 (by rw [h]; kernel_rfl) Z50, D_eq _ _ _ _ _ _ _ (by simp [h]) (by simp [h]) (by simp [h])]⟩
   · exact ⟨_, Zf2 ha hk (by rw [h]; exact Z24), by rw [Zf5 ha hk2 (by rw [h]; kernel_rfl) Z50, D_eq _ _ _ _ _ _ _ (by simp [h]) (by simp [h]) (by simp [h])]⟩
def endB : Bool → Bool ⊕ Unit
 | true => .inr ()
 | false => .inl false
def eqI (x y : Zj) : Bool := sEq x.Name y.Name && decide (keyf x.Score = keyf y.Score)
def eqL : List Zj → List Zj → Bool
 | [], [] => true
 | x :: xs, y :: ys => eqI x y && eqL xs ys
 | _, _ => false
def Zla (a b : Zd) : Bool := (a.Kind == b.Kind) && (a.Num == b.Num) && (a.Low == b.Low) && (a.High == b.High) && decide (keyf a.Real = keyf b.Real) && (a.Cap == b.Cap) && sEq a.Text b.Text && eqL a.List b.List
theorem Zva : ∀ {a b : List Zj}, eqL a b = true → a.length = b.length
 | [], [], _ => rfl
 | x :: xs, y :: ys, h => by
   simp only [eqL, Bool.and_eq_true] at h
   simp [Zva h.2]
 | [], _ :: _, h => by simp [eqL] at h
 | _ :: _, [], h => by simp [eqL] at h
theorem Z35 {x y : Zj} (hx : x.Score < W64) (hy : y.Score < W64) : Zie x y = some (eqI x y) := by
 unfold Zie eqI
 rw [Znt hx hy]
 cases sEq x.Name y.Name <;> simp [gd]
theorem Zyo {a b : List Zj} (ha : ∀ e ∈ a, e.Score < W64) (hb : ∀ e ∈ b, e.Score < W64) (hl : a.length < 4611686018427387904) (he : a.length = b.length) : ∀ (n i : Nat), i + n = a.length →
   Zbj a b (fun y0 y1 => Zie y0 y1) (n + 1) (i : Int) = some (endB (eqL (a.drop i) (b.drop i)))
 | 0, i, h => by
   rw [Zbj, if_neg (by simp; omega), List.drop_of_length_le (by omega), List.drop_of_length_le (by omega)]
   rfl
 | n + 1, i, h => by
   have h1 : i < a.length := by omega
   have h2 : i < b.length := by omega
   rw [Zbj, if_pos (by simp; omega), Zdb h1, Zdb h2, wr1 (by omega)]
   simp only [Option.bind_some]
   rw [Z35 (ha _ (List.getElem_mem h1)) (hb _ (List.getElem_mem h2)), List.drop_eq_getElem_cons h1, List.drop_eq_getElem_cons h2]
   simp only [Option.bind_some, eqL]
   cases hq : eqI a[i] b[i]
   · simp [endB]
   · simp only [Bool.not_true, Bool.false_eq_true, if_false, Bool.true_and]
     exact Zyo ha hb hl he n (i + 1) (by omega)
theorem Z9r {a b : List Zj} (ha : ∀ e ∈ a, e.Score < W64) (hb : ∀ e ∈ b, e.Score < W64) (hl : a.length < 4611686018427387904) : Zb7 a b (fun y0 y1 => Zie y0 y1) = some (eqL a b) := by
 unfold Zb7
 by_cases he : a.length = b.length
 · rw [if_neg (by simp; omega), show (Int.toNat ((a.length : Int) - (0 : Int)) + 1) = a.length + 1 by omega]
   have := Zyo ha hb hl he a.length 0 (by omega)
   rw [show ((0 : Nat) : Int) = 0 from rfl] at this
   rw [this]
   simp only [List.drop_zero]
   cases eqL a b <;> simp [endB]
 · rw [if_pos (by simp; omega)]
   cases h : eqL a b
   · rfl
   · exact absurd (Zva h) he
theorem Zx3 {a b : Zd} (ha : Zhp a) (hb : Zhp b) : Zmc a b = some (Zla a b) := by
 unfold Zmc Zla
 rw [Znt ha.real hb.real, Z9r ha.sc hb.sc ha.len]
 generalize (a.Kind == b.Kind) = x1
 generalize (a.Num == b.Num) = x2
 generalize (a.Low == b.Low) = x3
 generalize (a.High == b.High) = x4
 generalize decide (keyf a.Real = keyf b.Real) = x5
 generalize (a.Cap == b.Cap) = x6
 generalize sEq a.Text b.Text = x7
 generalize eqL a.List b.List = x8
 revert x1 x2 x3 x4 x5 x6 x7 x8
 decide
theorem Ztj {a b : Zd} (ha : Zhp a) (hb : Zhp b) (he : a.List.length = b.List.length) : ∀ (n i : Nat), i + n = a.List.length →
   Zgh a b (n + 1) (i : Int) = some (endB (eqL (a.List.drop i) (b.List.drop i)))
 | 0, i, h => by
   rw [Zgh, if_neg (by simp; omega), List.drop_of_length_le (by omega), List.drop_of_length_le (by omega)]
   rfl
 | n + 1, i, h => by
   have h1 : i < a.List.length := by omega
   have h2 : i < b.List.length := by omega
   have hl := ha.len
   have hs1 := ha.sc _ (List.getElem_mem h1)
   have hs2 := hb.sc _ (List.getElem_mem h2)
   rw [Zgh, if_pos (by simp; omega), Zdb h1, Zdb h2, wr1 (by omega), List.drop_eq_getElem_cons h1, List.drop_eq_getElem_cons h2]
   simp only [Option.bind_some, eqL, eqI]
   cases hn : sEq a.List[i].Name b.List[i].Name
   · simp [gd, endB]
   · simp only [Bool.not_true, Bool.not_false, gd_t, Option.bind_some]
     rw [Zmf hs1 hs2]
     simp only [Option.bind_some, Bool.false_or, Bool.true_and]
     by_cases hk : keyf a.List[i].Score = keyf b.List[i].Score
     · simp only [hk, decide_true, Bool.not_true, Bool.false_eq_true, if_false, Bool.true_and]
       exact Ztj ha hb he n (i + 1) (by omega)
     · simp [hk, endB]
theorem Z22 {a b : Zd} (ha : Zhp a) (hb : Zhp b) : Zlf a b = some (Zla a b) := by
 unfold Zlf Zla
 rw [Zmf ha.real hb.real]
 by_cases he : a.List.length = b.List.length
 · have := Ztj ha hb he a.List.length 0 (by omega)
   rw [show ((0 : Nat) : Int) = 0 from rfl] at this
   rw [show (Int.toNat ((a.List.length : Int) - (0 : Int)) + 1) = a.List.length + 1 by omega, this]
   have hn : ((a.List.length : Int) != (b.List.length : Int)) = false := by simp; omega
   rw [hn]
   simp only [List.drop_zero, bne]
   generalize (a.Kind == b.Kind) = x1
   generalize (a.Num == b.Num) = x2
   generalize (a.Low == b.Low) = x3
   generalize (a.High == b.High) = x4
   generalize decide (keyf a.Real = keyf b.Real) = x5
   generalize (a.Cap == b.Cap) = x6
   generalize sEq a.Text b.Text = x7
   generalize eqL a.List b.List = x8
   clear this hn he
   revert x1 x2 x3 x4 x5 x6 x7 x8
   decide
 · have h8 : eqL a.List b.List = false := by
     cases h : eqL a.List b.List
     · rfl
     · exact absurd (Zva h) he
   have hn : ((a.List.length : Int) != (b.List.length : Int)) = true := by simp; omega
   rw [hn, h8]
   simp only [bne, Bool.or_true, Option.bind_some, if_true, Bool.and_false, ite_self]
theorem Zuh {a : Zd} (hl : a.List.length ≤ 9223372036854775807) : ∀ (n i : Nat), i + n = a.List.length → ∃ z, Zej a (n + 1) (i : Int) = some z ∧ (z = .inl 1 ∨ z = .inr ())
 | 0, i, h => by
   rw [Zej, if_neg (by simp; omega)]
   exact ⟨_, rfl, .inr rfl⟩
 | n + 1, i, h => by
   rw [Zej, if_pos (by simp; omega), Zdb (by omega), wr1 (by omega)]
   simp only [Option.bind_some]
   split
   · exact ⟨_, rfl, .inl rfl⟩
   · exact Zuh hl n (i + 1) (by omega)
theorem Z5j {a : Zd} (hl : a.List.length ≤ 9223372036854775807) : ∃ c, Zhf a = some c ∧ (c = 0 ∨ c = 1) ∧ (c = 0 → a.List.length ≤ 100) := by
 unfold Zhf
 by_cases h : (100 : Int) < a.List.length ∨ (1000 : Int) < a.Text.size
 · rw [if_pos (by simpa using h)]
   exact ⟨1, rfl, .inr rfl, fun h => by cases h⟩
 · rw [if_neg (by simpa using h), show (Int.toNat ((a.List.length : Int) - (0 : Int)) + 1) = a.List.length + 1 by omega]
   obtain ⟨z, hz, hc⟩ := Zuh hl a.List.length 0 (by omega)
   rw [show ((0 : Nat) : Int) = 0 from rfl] at hz
   rw [hz]
   rcases hc with rfl | rfl
   · exact ⟨1, rfl, .inr rfl, fun h => by cases h⟩
   · exact ⟨0, rfl, .inl rfl, fun _ => by omega⟩
theorem Znu {β : Type} [Inhabited β] (c : Bool) (v : β) : gd c (some v) = some (if c then v else default) := by cases c <;> rfl
def Zts (a : Zs) : Prop := Zhp a.Make ∧ a.X < W64
abbrev zrc : Zd := { Kind := 0, Num := 0, Low := 0, High := 0, Real := 0, Cap := 0, Text := ByteArray.empty, List := [] }
theorem Z3i : Zhp zrc := ⟨by decide, by decide, fun e he => by cases he⟩
def actD (n x s m o1 k1 k2 : Bool) (c : Int) (a : Zs) : Int :=
 if (sEq a.Key ⟨#[]⟩ || decide ((24 : Int) < a.Key.size)) = true then 1
 else if (!(((n || a.N == 0) && (x || decide (keyf a.X = keyf 0))) && (s || sEq a.S ⟨#[]⟩) && (m || Zla a.Make zrc))) = true then 4
 else if decide ((if o1 = true then (64 : Int) else 16) < a.S.size) = true then 3
 else if (k2 && (decide (a.N < 0) || decide (2305843009213693952 < a.N))) = true then 1
 else if (!decide (a.X = Zb6 a.X)) = true then 4
 else if k1 = true then c else 0
theorem Z62 (k : ByteArray) : (decide ((k.size : Int) < 1)) = sEq k ⟨#[]⟩ := by
 by_cases h : k = ⟨#[]⟩
 · subst h; rw [Zc8]; decide
 · rw [Zel.2 h]
   have : k.size ≠ 0 := fun e => h (by
     apply ByteArray.ext
     exact Array.size_eq_zero_iff.1 e)
   simp; omega
theorem Z29 {a : Zs} (ha : Zts a) {w has : ByteArray} {on c : Int} {n x s m : Bool} (hc : Zd8 a.Make = some c) (h1 : Zn9 a.Kind = some ⟨w, on, has⟩) (hw : sEq w ⟨#[]⟩ = false)
   (fn : Zdd ⟨w, on, has⟩ 110 = some n) (fx : Zdd ⟨w, on, has⟩ 120 = some x) (fs : Zdd ⟨w, on, has⟩ 115 = some s) (fm : Zdd ⟨w, on, has⟩ 109 = some m) :
   Zfz a = some (actD n x s m (on == 1) (a.Kind == 1) (a.Kind == 10 || a.Kind == 11) c a) := by
 have h0 : (0 : Nat) < W64 := by decide
 unfold Zfz Zpu Zp3
 rw [h1]
 simp only [Option.bind_some, hw, Bool.false_eq_true, if_false, fn, fx, fs, fm, Znu]
 rw [Znt ha.2 h0, Zx3 ha.1 Z3i, Zqx ha.2, hc]
 simp only [Option.bind_some, Znu]
 unfold actD
 generalize (sEq a.Key ⟨#[]⟩ || decide ((24 : Int) < a.Key.size)) = b1
 generalize (a.N == 0) = b2
 generalize decide (keyf a.X = keyf 0) = b3
 generalize sEq a.S ⟨#[]⟩ = b4
 generalize Zla a.Make zrc = b5
 generalize (a.Kind == 10 || a.Kind == 11) = b6
 generalize (a.Kind == 1) = b7
 generalize (decide (a.N < 0) || decide (2305843009213693952 < a.N)) = b8
 generalize decide (a.X = Zb6 a.X) = b9
 have e1 : decide ((64 : Int) < a.S.size) = decide ((if true = true then (64 : Int) else 16) < a.S.size) := rfl
 cases b1
 · have hm : ∀ (z : Bool), ((if z = true then some (64 : Int) else some 16).bind fun r8 => (if decide (r8 < (a.S.size : Int)) = true then some (3 : Int) else if (b6 && b8) = true then some 1 else if (!b9) = true then some 4 else if b7 = true then some c else some 0)) = some (if decide ((if z = true then (64 : Int) else 16) < a.S.size) = true then 3 else if (b6 && b8) = true then 1 else if (!b9) = true then 4 else if b7 = true then c else 0) := by
     intro z
     cases z <;> simp only [Bool.false_eq_true, if_false, if_true, Option.bind_some] <;> (repeat' split) <;> rfl
   rw [hm]
   cases n <;> cases x <;> cases s <;> cases m <;> cases b2 <;> cases b3 <;> cases b4 <;> cases b5 <;> rfl
 · rfl
theorem Z05 {a : Zs} (ha : Zts a) {on c : Int} {n x s m : Bool} (hc : Zdt a.Make = some c) (hk : ¬ (a.Kind < 1 ∨ 21 < a.Kind)) (ro : Zi9 a.Kind = some on)
   (fn : Ze2 a.Kind 110 = some n) (fx : Ze2 a.Kind 120 = some x) (fs : Ze2 a.Kind 115 = some s) (fm : m = (a.Kind == 1)) :
   Zgd a = some (actD n x s m (on == 1) (a.Kind == 1) (a.Kind == 10 || a.Kind == 11) c a) := by
 have h0 : (0 : Nat) < W64 := by decide
 unfold Zgd
 rw [if_neg (by simpa using hk), fn, fx, fs, ro]
 simp only [Option.bind_some, Znu, Z62]
 rw [Zmf ha.2 h0, Z22 ha.1 Z3i, Zpl ha.2, hc]
 simp only [Option.bind_some, Znu]
 unfold actD
 subst fm
 have hmid : ((on == 1 && decide ((64 : Int) < a.S.size)) || ((if (!(on == 1 && decide ((64 : Int) < a.S.size))) = true then on else default) != 1 && decide ((16 : Int) < a.S.size))) = decide ((if (on == 1) = true then (64 : Int) else 16) < a.S.size) := by
   by_cases ho : on = 1
   · subst ho
     by_cases h64 : (64 : Int) < a.S.size <;> simp [h64]
   · have hb1 : (on == 1) = false := by simpa using ho
     have hb2 : (on != 1) = true := by simpa using ho
     simp [hb1, hb2]
 rw [hmid, show (a.N != 0) = !(a.N == 0) from rfl, show (a.Kind != 1) = !(a.Kind == 1) from rfl]
 generalize decide ((if (on == 1) = true then (64 : Int) else 16) < a.S.size) = b10
 generalize (sEq a.Key ⟨#[]⟩ || decide ((24 : Int) < a.Key.size)) = b1
 generalize (a.N == 0) = b2
 generalize decide (keyf a.X = keyf 0) = b3
 generalize sEq a.S ⟨#[]⟩ = b4
 generalize Zla a.Make zrc = b5
 generalize (a.Kind == 10 || a.Kind == 11) = b6
 generalize (a.Kind == 1) = b7
 generalize (decide (a.N < 0) || decide (2305843009213693952 < a.N)) = b8
 generalize decide (a.X = Zb6 a.X) = b9
 have htail : (if b10 = true then some (3 : Int) else if (b6 && b8) = true then some 1 else if (!b9) = true then some 4 else if b7 = true then some c else some 0) = some (if b10 = true then 3 else if (b6 && b8) = true then 1 else if (!b9) = true then 4 else if b7 = true then c else 0) := by
   (repeat' split) <;> rfl
 rw [htail]
 cases b1
 · cases n <;> cases x <;> cases s <;> cases b7 <;> cases b2 <;> cases b3 <;> cases b4 <;> cases b5 <;> rfl
 · rfl
theorem Z2c {n x s m o1 k1 k2 : Bool} {c : Int} {a : Zs} (h : actD n x s m o1 k1 k2 c a = 0) : (sEq a.Key ⟨#[]⟩ || decide ((24 : Int) < a.Key.size)) = false ∧ decide ((if o1 = true then (64 : Int) else 16) < a.S.size) = false ∧ (k2 && (decide (a.N < 0) || decide (2305843009213693952 < a.N))) = false ∧ decide (a.X = Zb6 a.X) = true ∧ (k1 = true → c = 0) := by
 unfold actD at h
 revert h
 generalize (sEq a.Key ⟨#[]⟩ || decide ((24 : Int) < a.Key.size)) = b1
 generalize decide ((if o1 = true then (64 : Int) else 16) < a.S.size) = b3
 generalize (k2 && (decide (a.N < 0) || decide (2305843009213693952 < a.N))) = b4
 generalize decide (a.X = Zb6 a.X) = b5
 generalize (!(((n || a.N == 0) && (x || decide (keyf a.X = keyf 0))) && (s || sEq a.S ⟨#[]⟩) && (m || Zla a.Make zrc))) = b2
 cases b1 <;> cases b2 <;> cases b3 <;> cases b4 <;> cases b5 <;> cases k1 <;> simp
theorem Zre {a : Zs} (ha : Zts a) : ∃ c, Zfz a = some c ∧ Zgd a = some c ∧ (c = 0 → 1 ≤ a.Kind ∧ a.Kind ≤ 21 ∧ a.X = Zb6 a.X ∧ a.S.size ≤ 64 ∧ ((a.Kind = 10 ∨ a.Kind = 11) → 0 ≤ a.N ∧ a.N ≤ 2305843009213693952) ∧ (a.Kind = 1 → Zd8 a.Make = some 0) ∧ (¬ (5 ≤ a.Kind ∧ a.Kind ≤ 6) → a.S.size ≤ 16) ∧ sEq a.Key ⟨#[]⟩ = false ∧ a.Key.size ≤ 24) := by
 by_cases hk : a.Kind < 1 ∨ 21 < a.Kind
 · refine ⟨5, ?_, ?_, fun h => by cases h⟩
   · unfold Zfz Zn9
     rw [if_pos (by simp; omega)]
     simp only [Option.bind_some]
     rw [if_pos (show sEq ByteArray.empty ⟨#[]⟩ = true by kernel_rfl)]
   · unfold Zgd
     rw [if_pos (by simpa using hk)]
 · obtain ⟨c, hc1, hc2⟩ := Znm ha.1
   have fin : ∀ {w has : ByteArray} {on : Int} {n x s m : Bool}, Zn9 a.Kind = some ⟨w, on, has⟩ → sEq w ⟨#[]⟩ = false → Zdd ⟨w, on, has⟩ 110 = some n → Zdd ⟨w, on, has⟩ 120 = some x → Zdd ⟨w, on, has⟩ 115 = some s → Zdd ⟨w, on, has⟩ 109 = some m →
       Zi9 a.Kind = some on → Ze2 a.Kind 110 = some n → Ze2 a.Kind 120 = some x → Ze2 a.Kind 115 = some s → m = (a.Kind == 1) → ((on == 1) = true → 5 ≤ a.Kind ∧ a.Kind ≤ 6) →
       ∃ c, Zfz a = some c ∧ Zgd a = some c ∧ (c = 0 → 1 ≤ a.Kind ∧ a.Kind ≤ 21 ∧ a.X = Zb6 a.X ∧ a.S.size ≤ 64 ∧ ((a.Kind = 10 ∨ a.Kind = 11) → 0 ≤ a.N ∧ a.N ≤ 2305843009213693952) ∧ (a.Kind = 1 → Zd8 a.Make = some 0) ∧ (¬ (5 ≤ a.Kind ∧ a.Kind ≤ 6) → a.S.size ≤ 16) ∧ sEq a.Key ⟨#[]⟩ = false ∧ a.Key.size ≤ 24) := by
     intro w has on n x s m h1 hw fn fx fs fm ro rn rx rs hm hon
     refine ⟨_, Z29 ha hc1 h1 hw fn fx fs fm, by rw [hm]; exact Z05 ha hc2 hk ro rn rx rs rfl, fun h0 => ?_⟩
     obtain ⟨g1, g3, g4, g5, g6⟩ := Z2c h0
     simp only [Bool.or_eq_false_iff, decide_eq_false_iff_not] at g1
     have g3' : ¬ (if (on == 1) = true then (64 : Int) else 16) < a.S.size := of_decide_eq_false g3
     refine ⟨by omega, by omega, of_decide_eq_true g5, ?_, fun h => ?_, fun h => ?_, fun h => ?_, g1.1, by omega⟩
     · split at g3' <;> omega
     · have h11 : (a.Kind == 10 || a.Kind == 11) = true := by simpa using h
       rw [h11] at g4
       simp only [Bool.true_and, Bool.or_eq_false_iff, decide_eq_false_iff_not] at g4
       omega
     · rw [hc1, g6 (by simp [h])]
     · rw [if_neg (fun h2 => h (hon h2))] at g3'
       omega
   have hk' : a.Kind = 1 ∨ a.Kind = 2 ∨ a.Kind = 3 ∨ a.Kind = 4 ∨ a.Kind = 5 ∨ a.Kind = 6 ∨ a.Kind = 7 ∨ a.Kind = 8 ∨ a.Kind = 9 ∨ a.Kind = 10 ∨ a.Kind = 11 ∨ a.Kind = 12 ∨ a.Kind = 13 ∨ a.Kind = 14 ∨ a.Kind = 15 ∨ a.Kind = 16 ∨ a.Kind = 17 ∨ a.Kind = 18 ∨ a.Kind = 19 ∨ a.Kind = 20 ∨ a.Kind = 21 := by omega
   rcases hk' with h | h | h | h | h | h | h | h | h | h | h | h | h | h | h | h | h | h | h | h | h <;> rw [h] at fin ⊢
   · exact fin (w := ⟨#[110, 101, 119]⟩) (on := 0) (has := ⟨#[109]⟩) (n := false) (x := false) (s := false) (m := true) (by kernel_rfl) (by kernel_rfl) (by kernel_rfl) (by kernel_rfl) (by kernel_rfl) (by kernel_rfl) (by kernel_rfl) (by kernel_rfl) (by kernel_rfl) (by kernel_rfl) (by decide) (by decide)
   · exact fin (w := ⟨#[100, 114, 111, 112]⟩) (on := 0) (has := ⟨#[]⟩) (n := false) (x := false) (s := false) (m := false) (by kernel_rfl) (by kernel_rfl) (by kernel_rfl) (by kernel_rfl) (by kernel_rfl) (by kernel_rfl) (by kernel_rfl) (by kernel_rfl) (by kernel_rfl) (by kernel_rfl) (by decide) (by decide)
   · exact fin (w := ⟨#[105, 115]⟩) (on := 0) (has := ⟨#[]⟩) (n := false) (x := false) (s := false) (m := false) (by kernel_rfl) (by kernel_rfl) (by kernel_rfl) (by kernel_rfl) (by kernel_rfl) (by kernel_rfl) (by kernel_rfl) (by kernel_rfl) (by kernel_rfl) (by kernel_rfl) (by decide) (by decide)
   · exact fin (w := ⟨#[108, 111, 111, 107]⟩) (on := 0) (has := ⟨#[]⟩) (n := false) (x := false) (s := false) (m := false) (by kernel_rfl) (by kernel_rfl) (by kernel_rfl) (by kernel_rfl) (by kernel_rfl) (by kernel_rfl) (by kernel_rfl) (by kernel_rfl) (by kernel_rfl) (by kernel_rfl) (by decide) (by decide)
   · exact fin (w := ⟨#[112, 117, 116]⟩) (on := 1) (has := ⟨#[115]⟩) (n := false) (x := false) (s := true) (m := false) (by kernel_rfl) (by kernel_rfl) (by kernel_rfl) (by kernel_rfl) (by kernel_rfl) (by kernel_rfl) (by kernel_rfl) (by kernel_rfl) (by kernel_rfl) (by kernel_rfl) (by decide) (by decide)
   · exact fin (w := ⟨#[115, 119, 97, 112]⟩) (on := 1) (has := ⟨#[115]⟩) (n := false) (x := false) (s := true) (m := false) (by kernel_rfl) (by kernel_rfl) (by kernel_rfl) (by kernel_rfl) (by kernel_rfl) (by kernel_rfl) (by kernel_rfl) (by kernel_rfl) (by kernel_rfl) (by kernel_rfl) (by decide) (by decide)
   · exact fin (w := ⟨#[97, 100, 100]⟩) (on := 2) (has := ⟨#[110]⟩) (n := true) (x := false) (s := false) (m := false) (by kernel_rfl) (by kernel_rfl) (by kernel_rfl) (by kernel_rfl) (by kernel_rfl) (by kernel_rfl) (by kernel_rfl) (by kernel_rfl) (by kernel_rfl) (by kernel_rfl) (by decide) (by decide)
   · exact fin (w := ⟨#[112, 108, 117, 115]⟩) (on := 3) (has := ⟨#[110]⟩) (n := true) (x := false) (s := false) (m := false) (by kernel_rfl) (by kernel_rfl) (by kernel_rfl) (by kernel_rfl) (by kernel_rfl) (by kernel_rfl) (by kernel_rfl) (by kernel_rfl) (by kernel_rfl) (by kernel_rfl) (by decide) (by decide)
   · exact fin (w := ⟨#[114, 101, 97, 99, 104]⟩) (on := 3) (has := ⟨#[110]⟩) (n := true) (x := false) (s := false) (m := false) (by kernel_rfl) (by kernel_rfl) (by kernel_rfl) (by kernel_rfl) (by kernel_rfl) (by kernel_rfl) (by kernel_rfl) (by kernel_rfl) (by kernel_rfl) (by kernel_rfl) (by decide) (by decide)
   · exact fin (w := ⟨#[105, 110]⟩) (on := 4) (has := ⟨#[110]⟩) (n := true) (x := false) (s := false) (m := false) (by kernel_rfl) (by kernel_rfl) (by kernel_rfl) (by kernel_rfl) (by kernel_rfl) (by kernel_rfl) (by kernel_rfl) (by kernel_rfl) (by kernel_rfl) (by kernel_rfl) (by decide) (by decide)
   · exact fin (w := ⟨#[111, 117, 116]⟩) (on := 4) (has := ⟨#[110]⟩) (n := true) (x := false) (s := false) (m := false) (by kernel_rfl) (by kernel_rfl) (by kernel_rfl) (by kernel_rfl) (by kernel_rfl) (by kernel_rfl) (by kernel_rfl) (by kernel_rfl) (by kernel_rfl) (by kernel_rfl) (by decide) (by decide)
   · exact fin (w := ⟨#[101, 110, 111, 117, 103, 104]⟩) (on := 4) (has := ⟨#[110]⟩) (n := true) (x := false) (s := false) (m := false) (by kernel_rfl) (by kernel_rfl) (by kernel_rfl) (by kernel_rfl) (by kernel_rfl) (by kernel_rfl) (by kernel_rfl) (by kernel_rfl) (by kernel_rfl) (by kernel_rfl) (by decide) (by decide)
   · exact fin (w := ⟨#[114, 97, 105, 115, 101]⟩) (on := 5) (has := ⟨#[120]⟩) (n := false) (x := true) (s := false) (m := false) (by kernel_rfl) (by kernel_rfl) (by kernel_rfl) (by kernel_rfl) (by kernel_rfl) (by kernel_rfl) (by kernel_rfl) (by kernel_rfl) (by kernel_rfl) (by kernel_rfl) (by decide) (by decide)
   · exact fin (w := ⟨#[108, 111, 119, 101, 114]⟩) (on := 6) (has := ⟨#[120]⟩) (n := false) (x := true) (s := false) (m := false) (by kernel_rfl) (by kernel_rfl) (by kernel_rfl) (by kernel_rfl) (by kernel_rfl) (by kernel_rfl) (by kernel_rfl) (by kernel_rfl) (by kernel_rfl) (by kernel_rfl) (by decide) (by decide)
   · exact fin (w := ⟨#[115, 104, 105, 102, 116]⟩) (on := 7) (has := ⟨#[120]⟩) (n := false) (x := true) (s := false) (m := false) (by kernel_rfl) (by kernel_rfl) (by kernel_rfl) (by kernel_rfl) (by kernel_rfl) (by kernel_rfl) (by kernel_rfl) (by kernel_rfl) (by kernel_rfl) (by kernel_rfl) (by decide) (by decide)
   · exact fin (w := ⟨#[115, 99, 97, 108, 101]⟩) (on := 7) (has := ⟨#[120]⟩) (n := false) (x := true) (s := false) (m := false) (by kernel_rfl) (by kernel_rfl) (by kernel_rfl) (by kernel_rfl) (by kernel_rfl) (by kernel_rfl) (by kernel_rfl) (by kernel_rfl) (by kernel_rfl) (by kernel_rfl) (by decide) (by decide)
   · exact fin (w := ⟨#[102, 105, 120]⟩) (on := 7) (has := ⟨#[120]⟩) (n := false) (x := true) (s := false) (m := false) (by kernel_rfl) (by kernel_rfl) (by kernel_rfl) (by kernel_rfl) (by kernel_rfl) (by kernel_rfl) (by kernel_rfl) (by kernel_rfl) (by kernel_rfl) (by kernel_rfl) (by decide) (by decide)
   · exact fin (w := ⟨#[106, 111, 105, 110]⟩) (on := 8) (has := ⟨#[115]⟩) (n := false) (x := false) (s := true) (m := false) (by kernel_rfl) (by kernel_rfl) (by kernel_rfl) (by kernel_rfl) (by kernel_rfl) (by kernel_rfl) (by kernel_rfl) (by kernel_rfl) (by kernel_rfl) (by kernel_rfl) (by decide) (by decide)
   · exact fin (w := ⟨#[108, 101, 97, 118, 101]⟩) (on := 8) (has := ⟨#[115]⟩) (n := false) (x := false) (s := true) (m := false) (by kernel_rfl) (by kernel_rfl) (by kernel_rfl) (by kernel_rfl) (by kernel_rfl) (by kernel_rfl) (by kernel_rfl) (by kernel_rfl) (by kernel_rfl) (by kernel_rfl) (by decide) (by decide)
   · exact fin (w := ⟨#[104, 97, 115]⟩) (on := 8) (has := ⟨#[115]⟩) (n := false) (x := false) (s := true) (m := false) (by kernel_rfl) (by kernel_rfl) (by kernel_rfl) (by kernel_rfl) (by kernel_rfl) (by kernel_rfl) (by kernel_rfl) (by kernel_rfl) (by kernel_rfl) (by kernel_rfl) (by decide) (by decide)
   · exact fin (w := ⟨#[111, 102, 102, 101, 114]⟩) (on := 9) (has := ⟨#[120, 115]⟩) (n := false) (x := true) (s := true) (m := false) (by kernel_rfl) (by kernel_rfl) (by kernel_rfl) (by kernel_rfl) (by kernel_rfl) (by kernel_rfl) (by kernel_rfl) (by kernel_rfl) (by kernel_rfl) (by kernel_rfl) (by decide) (by decide)
abbrev Zdl := List Zj
def NS (l : Zdl) : Prop := l.Pairwise fun p q => sLt p.Name q.Name = true
def pre (f : Zj → Bool) : Zdl → Nat
 | [] => 0
 | e :: r => if f e then pre f r + 1 else 0
theorem Zn3 (f : Zj → Bool) : ∀ l : Zdl, pre f l ≤ l.length
 | [] => Nat.le_refl _
 | e :: r => by
   have := Zn3 f r
   simp only [pre]
   split <;> simp <;> omega
theorem Zx9 {f : Zj → Bool} : ∀ {l : Zdl} {k : Nat} (h : k < pre f l), ∃ e, l[k]? = some e ∧ f e = true
 | [], k, h => by simp [pre] at h
 | e :: r, k, h => by
   simp only [pre] at h
   split at h
   · rename_i hf
     cases k with
     | zero => exact ⟨e, rfl, hf⟩
     | succ k => exact Zx9 (l := r) (by omega)
   · omega
theorem Zua {f : Zj → Bool} : ∀ {l : Zdl} {e : Zj}, l[pre f l]? = some e → f e = false
 | [], e, h => by simp [pre] at h
 | x :: r, e, h => by
   simp only [pre] at h
   split at h
   · exact Zua (l := r) (by simpa using h)
   · rename_i hf
     simp at h; subst h; simpa using hf
theorem Zs3 {s : ByteArray} {l : Zdl} (hs : NS l) {k : Nat} (hk : k < l.length) : sLt (l[k]).Name s = decide (k < pre (fun e => sLt e.Name s) l) := by
 by_cases h : k < pre (fun e => sLt e.Name s) l
 · obtain ⟨e, he, hf⟩ := Zx9 h
   rw [List.getElem?_eq_getElem hk] at he
   obtain rfl := Option.some.inj he
   simp only [h, decide_true]; exact hf
 · simp only [h, decide_false]
   have hp : pre (fun e => sLt e.Name s) l < l.length := by omega
   have h1 := Zua (List.getElem?_eq_getElem hp)
   rcases Nat.lt_or_eq_of_le (Nat.le_of_not_lt h) with hlt | heq
   · have h2 := List.pairwise_iff_getElem.1 hs _ _ hp hk hlt
     cases h3 : sLt (l[k]).Name s
     · rfl
     · rw [Zfi h2 h3] at h1; cases h1
   · have : l[k] = l[pre (fun e => sLt e.Name s) l] := by congr 1; exact heq.symm
     rw [this]; exact h1
theorem half {i j : Nat} (h : i + j < 4611686018427387904) : IntKind.i64.wrap (Int.fdiv (IntKind.u64.wrap (IntKind.i64.wrap ((i : Int) + (j : Int)))) (2 ^ 1)) = (((i + j) / 2 : Nat) : Int) := by
 rw [wr (x := (i : Int) + j) (by omega) (by omega), wru (by omega) (by omega)]
 have : Int.fdiv ((i : Int) + j) (2 ^ 1) = (((i + j) / 2 : Nat) : Int) := by
   rw [Int.fdiv_eq_ediv_of_nonneg _ (by decide)]; omega
 rw [this, wr (by omega) (by omega)]
theorem Z5w (e : Zj) (s : ByteArray) : ∃ c : Int, Ziy e s = some c ∧ decide (c < 0) = sLt e.Name s ∧ (c == 0) = sEq e.Name s := by
 unfold Ziy
 by_cases h : sLt e.Name s = true
 · exact ⟨-1, by rw [if_pos h], by rw [h]; rfl, by rw [Zel.2 (Zlu h)]; rfl⟩
 · have h' : sLt e.Name s = false := by simpa using h
   by_cases h2 : e.Name = s
   · exact ⟨0, by rw [if_neg h, h', Zde.2 h2]; rfl, by rw [h']; rfl, by rw [Zde.2 h2]; rfl⟩
   · exact ⟨1, by rw [if_neg h, h', Zel.2 h2]; rfl, by rw [h']; rfl, by rw [Zel.2 h2]; rfl⟩
theorem Zup {l : Zdl} {s : ByteArray} (hs : NS l) (hl : l.length < 2305843009213693952) : ∀ (n i j : Nat), j - i < n → i ≤ pre (fun e => sLt e.Name s) l → pre (fun e => sLt e.Name s) l ≤ j → j ≤ l.length →
   Zbi l s (fun y0 y1 => Ziy y0 y1) n (i : Int) (j : Int) = some ((pre (fun e => sLt e.Name s) l : Nat) : Int)
 | 0, i, j, h, _, _, _ => by omega
 | n + 1, i, j, h, h1, h2, h3 => by
   rw [Zbi]
   by_cases hij : i < j
   · rw [if_pos (by simpa using hij), half (by omega)]
     have hm : (i + j) / 2 < l.length := by omega
     rw [Zdb hm]
     obtain ⟨c, hc, hc1, _⟩ := Z5w l[(i + j) / 2] s
     simp only [Option.bind_some, hc]
     rw [hc1, Zs3 hs hm]
     unfold Zcc
     by_cases hp : (i + j) / 2 < pre (fun e => sLt e.Name s) l
     · rw [if_pos (by simpa using hp), wr1 (by omega)]
       exact Zup hs hl n ((i + j) / 2 + 1) j (by omega) (by omega) h2 h3
     · rw [if_neg (by simpa using hp)]
       exact Zup hs hl n i ((i + j) / 2) (by omega) h1 (by omega) (by omega)
   · rw [if_neg (by simpa using hij)]
     congr 2; omega
def isAt (s : ByteArray) (l : Zdl) : Bool := match l[pre (fun e => sLt e.Name s) l]? with
 | some e => sEq e.Name s
 | none => false
theorem Znr {l : Zdl} {s : ByteArray} (hs : NS l) (hl : l.length < 2305843009213693952) : Zkc l s = some (((pre (fun e => sLt e.Name s) l : Nat) : Int), isAt s l) := by
 unfold Zkc Zcu
 have := Zup (s := s) hs hl (l.length + 1) 0 l.length (by omega) (Nat.zero_le _) (Zn3 _ _) (Nat.le_refl _)
 rw [show ((0 : Nat) : Int) = 0 from rfl] at this
 rw [show (Int.toNat ((l.length : Int) - (0 : Int)) + 1) = l.length + 1 by omega, this]
 simp only [Option.bind_some]
 unfold isAt
 by_cases hp : pre (fun e => sLt e.Name s) l < l.length
 · have hd : decide (((pre (fun e => sLt e.Name s) l : Nat) : Int) < (l.length : Int)) = true := by simpa using hp
   rw [hd, Zdb hp, List.getElem?_eq_getElem hp]
   obtain ⟨c, hc, _, hc2⟩ := Z5w l[pre (fun e => sLt e.Name s) l] s
   simp only [gd_t, Option.bind_some, hc, Bool.true_and, hc2]
 · have hd : decide (((pre (fun e => sLt e.Name s) l : Nat) : Int) < (l.length : Int)) = false := by simpa using hp
   rw [hd, List.getElem?_eq_none (by omega)]
   rfl
def goL (f g : Zj → Bool) (x : Zj) : Zdl → Bool → Zdl × Bool
 | [], d => ([], d)
 | e :: r, d => if (!d && !f e) = true then ((if g e then [] else [x]) ++ e :: (goL f g x r true).1, (goL f g x r true).2) else (e :: (goL f g x r d).1, (goL f g x r d).2)
theorem Z43 (f g : Zj → Bool) (x : Zj) : ∀ l : Zdl, goL f g x l true = (l, true)
 | [] => rfl
 | e :: r => by simp [goL, Z43 f g x r]
theorem Z5t (f g : Zj → Bool) (x : Zj) : ∀ l : Zdl, goL f g x l false = match l[pre f l]? with
   | some e => (l.take (pre f l) ++ (if g e then [] else [x]) ++ l.drop (pre f l), true)
   | none => (l, false)
 | [] => rfl
 | e :: r => by
   simp only [goL, pre]
   by_cases hf : f e = true
   · simp only [hf, Bool.not_true, Bool.and_false, Bool.false_eq_true, if_false, if_true]
     rw [Z5t f g x r]
     simp only [List.getElem?_cons_succ]
     cases r[pre f r]? <;> simp
   · have hf' : f e = false := by simpa using hf
     simp only [hf', Bool.not_false, Bool.and_self, if_true, Bool.false_eq_true, if_false, Z43, List.getElem?_cons_zero, List.take_zero, List.nil_append, List.drop_zero]
def Zdw (x : Zj) (nm : Bool) (e : Zj) : Bool := if nm then sLt e.Name x.Name else Zdf e x
def Zlc (x : Zj) (nm : Bool) (e : Zj) : Bool := sEq e.Name x.Name && (nm || decide (keyf e.Score = keyf x.Score))
theorem Z20 {l : Zdl} {x : Zj} {nm : Bool} (hx : x.Score < W64) (hsc : ∀ e ∈ l, e.Score < W64) {n i : Nat} {out : Zdl} {d : Bool} (h1 : i < l.length) :
   Zc2 l x nm (n + 1) out d (i : Int) = (if (!d && !Zdw x nm l[i]) = true then (if (!Zlc x nm l[i]) = true then (if (out.length + ([x] : List Zj).length) * 24 ≤ 140737488355328 then Zew l (i : Int) (Zc2 l x nm n) (out ++ [x]) true else none) else Zew l (i : Int) (Zc2 l x nm n) out true) else Zew l (i : Int) (Zc2 l x nm n) out d) := by
 have hm := hsc _ (List.getElem_mem h1)
 have ha : Zfe l[i] x = some (Zdf l[i] x) := Zxe hm hx
 have hs : Zdr l[i].Score x.Score = some (decide (keyf l[i].Score = keyf x.Score)) := Zmf hm hx
 rw [Zc2, if_pos (by simp; omega), Zdb h1]
 cases nm
 · simp only [Bool.not_false, gd_t, Option.bind_some, Bool.true_and, ha, Bool.and_false, gd_f, Bool.false_and, Bool.or_false, Bool.and_true, Bool.false_or, Zdw, Zlc, Bool.false_eq_true, if_false]
   cases hq : sEq l[i].Name x.Name
   · simp only [gd_f, Option.bind_some, Bool.false_and]
   · simp only [gd_t, Option.bind_some, Bool.true_and, hs]
 · simp only [Bool.not_true, gd_f, Option.bind_some, Bool.false_and, Bool.not_false, Bool.true_and, gd_t, Bool.false_or, Bool.true_or, Bool.and_false, Bool.and_true, Zdw, Zlc, if_true]
theorem Zor {l : Zdl} {x : Zj} {nm : Bool} (hx : x.Score < W64) (hsc : ∀ e ∈ l, e.Score < W64) (hl : l.length < 1000000) : ∀ (n i : Nat) (out : Zdl) (d : Bool), i + n = l.length → out.length + (if d = true then 0 else 1) ≤ i + 1 →
   Zc2 l x nm (n + 1) out d (i : Int) = some (out ++ (goL (Zdw x nm) (Zlc x nm) x (l.drop i) d).1, (goL (Zdw x nm) (Zlc x nm) x (l.drop i) d).2)
 | 0, i, out, d, h, _ => by
   rw [Zc2, if_neg (by simp; omega), List.drop_of_length_le (by omega)]
   simp [goL]
 | n + 1, i, out, d, h, ho => by
   have h1 : i < l.length := by omega
   rw [Z20 hx hsc h1, List.drop_eq_getElem_cons h1]
   simp only [Zew, Zdb h1, wr1 (show i < 9223372036854775807 by omega), Option.bind_some, goL]
   by_cases hc : (!d && !Zdw x nm l[i]) = true
   · rw [if_pos hc, if_pos hc]
     have hd : d = false := by cases d <;> simp_all
     subst hd
     simp only [Bool.false_eq_true, if_false] at ho
     by_cases hs : (!Zlc x nm l[i]) = true
     · rw [if_pos hs, if_pos (by simp; omega), if_pos (by simp; omega), Zor hx hsc hl n (i + 1) _ true (by omega) (by simp; omega)]
       have : Zlc x nm l[i] = false := by simpa using hs
       simp [this]
     · rw [if_neg hs, if_pos (by simp; omega), Zor hx hsc hl n (i + 1) _ true (by omega) (by simp; omega)]
       have : Zlc x nm l[i] = true := by simpa using hs
       simp [this]
   · rw [if_neg hc, if_neg hc, if_pos (by simp; omega), Zor hx hsc hl n (i + 1) _ d (by omega) (by simp; omega)]
     simp
def layL (x : Zj) (nm : Bool) (l : Zdl) : Zdl := match l[pre (Zdw x nm) l]? with
 | some e => l.take (pre (Zdw x nm) l) ++ (if Zlc x nm e then [] else [x]) ++ l.drop (pre (Zdw x nm) l)
 | none => l ++ [x]
theorem Z0r {l : Zdl} {x : Zj} {nm : Bool} (hx : x.Score < W64) (hsc : ∀ e ∈ l, e.Score < W64) (hl : l.length < 1000000) : Zgq l x nm = some (layL x nm l) := by
 unfold Zgq
 have := Zor (nm := nm) hx hsc hl l.length 0 [] false (by omega) (by simp)
 rw [show ((0 : Nat) : Int) = 0 from rfl] at this
 rw [show (Int.toNat ((l.length : Int) - (0 : Int)) + 1) = l.length + 1 by omega, this]
 simp only [Option.bind_some, List.nil_append, List.drop_zero]
 rw [Z5t]
 unfold layL
 cases h : l[pre (Zdw x nm) l]? with
 | none =>
   simp only [Bool.not_false, if_true, Zh3]
   rw [if_pos (by simp; omega)]
 | some e => simp only [Bool.not_true, Bool.false_eq_true, if_false, Zh3]
theorem Zx5 {l : Zdl} {s : ByteArray} (hl : l.length < 1000000) : ∀ (n i : Nat), i + n = l.length → Zg5 l s (n + 1) (i : Int) = some (cond ((l.drop i).any (fun e => sEq e.Name s)) (.inl true) (.inr ()))
 | 0, i, h => by
   rw [Zg5, if_neg (by simp; omega), List.drop_of_length_le (by omega)]; rfl
 | n + 1, i, h => by
   have h1 : i < l.length := by omega
   rw [Zg5, if_pos (by simp; omega), Zdb h1, List.drop_eq_getElem_cons h1, List.any_cons]
   simp only [Option.bind_some]
   by_cases hq : sEq l[i].Name s = true
   · rw [if_pos hq, hq]; rfl
   · have hq' : sEq l[i].Name s = false := by simpa using hq
     rw [if_neg hq, wr1 (by omega), Zx5 hl n (i + 1) (by omega), hq', Bool.false_or]
theorem Z2f {l : Zdl} {s : ByteArray} (hl : l.length < 1000000) : Zhe l s = some (l.any (fun e => sEq e.Name s)) := by
 unfold Zhe
 have := Zx5 (s := s) hl l.length 0 (by omega)
 rw [show ((0 : Nat) : Int) = 0 from rfl] at this
 rw [show (Int.toNat ((l.length : Int) - (0 : Int)) + 1) = l.length + 1 by omega, this]
 simp only [List.drop_zero]
 cases h : l.any (fun e => sEq e.Name s) <;> rfl
theorem Zos {a0 : Zd} {a : Zs} (hl : a0.List.length < 1000000) : ∀ (n i : Nat) (out : Zdl), i + n = a0.List.length → out.length ≤ i → Zeu a0 a (n + 1) out (i : Int) = some (out ++ (a0.List.drop i).filter (fun e => !sEq e.Name a.S))
 | 0, i, out, h, _ => by
   rw [Zeu, if_neg (by simp; omega), List.drop_of_length_le (by omega)]; simp
 | n + 1, i, out, h, ho => by
   have h1 : i < a0.List.length := by omega
   rw [Zeu, if_pos (by simp; omega), Zdb h1, List.drop_eq_getElem_cons h1]
   simp only [Option.bind_some, Zk1, wr1 (show i < 9223372036854775807 by omega)]
   rw [List.filter_cons]
   by_cases hq : (!sEq a0.List[i].Name a.S) = true
   · rw [if_pos hq, if_pos hq, if_pos (by simp; omega), Zos hl n (i + 1) _ (by omega) (by simp; omega), List.append_assoc]; rfl
   · rw [if_neg hq, if_neg hq, Zos hl n (i + 1) _ (by omega) (by omega)]
theorem Zsi {l : Zdl} {s : ByteArray} (hs : NS l) : (∀ e ∈ l.take (pre (fun e => sLt e.Name s) l), sEq e.Name s = false) ∧ (∀ e ∈ l.drop (pre (fun e => sLt e.Name s) l + 1), sEq e.Name s = false) := by
 constructor
 · intro e he
   obtain ⟨k, hk, rfl⟩ := List.getElem_of_mem he
   rw [List.length_take] at hk
   rw [List.getElem_take]
   have := Zs3 (s := s) hs (k := k) (by omega)
   rw [show decide (k < pre (fun e => sLt e.Name s) l) = true by simp; omega] at this
   exact Zel.2 (Zlu this)
 · intro e he
   obtain ⟨k, hk, rfl⟩ := List.getElem_of_mem he
   rw [List.length_drop] at hk
   rw [List.getElem_drop]
   refine Zel.2 fun h => ?_
   have hp : pre (fun e => sLt e.Name s) l < l.length := by omega
   have h1 := List.pairwise_iff_getElem.1 hs _ _ hp (show pre (fun e => sLt e.Name s) l + 1 + k < l.length by omega) (by omega)
   rw [h] at h1
   have := Zua (List.getElem?_eq_getElem hp)
   rw [h1] at this; cases this
theorem Zs0 (l : Zdl) (k : Nat) (h : k < l.length) : l = l.take k ++ l[k] :: l.drop (k + 1) := by
 rw [← List.drop_eq_getElem_cons h, List.take_append_drop]
theorem Zsw {l : Zdl} {s : ByteArray} (hs : NS l) : l.any (fun e => sEq e.Name s) = isAt s l := by
 obtain ⟨h1, h2⟩ := Zsi (s := s) hs
 unfold isAt
 by_cases hp : pre (fun e => sLt e.Name s) l < l.length
 · rw [List.getElem?_eq_getElem hp]
   conv => lhs; rw [Zs0 l _ hp]
   have a1 : (l.take (pre (fun e => sLt e.Name s) l)).any (fun e => sEq e.Name s) = false := by
     rw [List.any_eq_false]; intro e he; rw [h1 e he]; decide
   have a2 : (l.drop (pre (fun e => sLt e.Name s) l + 1)).any (fun e => sEq e.Name s) = false := by
     rw [List.any_eq_false]; intro e he; rw [h2 e he]; decide
   rw [List.any_append, List.any_cons, a1, a2]; simp
 · rw [List.getElem?_eq_none (by omega)]
   have : l.take (pre (fun e => sLt e.Name s) l) = l := List.take_of_length_le (by omega)
   rw [this] at h1
   rw [List.any_eq_false]; intro e he; rw [h1 e he]; decide
theorem Z13 {l : Zdl} {s : ByteArray} (hs : NS l) : l.filter (fun e => !sEq e.Name s) = if isAt s l = true then l.take (pre (fun e => sLt e.Name s) l) ++ l.drop (pre (fun e => sLt e.Name s) l + 1) else l := by
 obtain ⟨h1, h2⟩ := Zsi (s := s) hs
 unfold isAt
 by_cases hp : pre (fun e => sLt e.Name s) l < l.length
 · rw [List.getElem?_eq_getElem hp]
   conv => lhs; rw [Zs0 l _ hp]
   have a1 : (l.take (pre (fun e => sLt e.Name s) l)).filter (fun e => !sEq e.Name s) = l.take (pre (fun e => sLt e.Name s) l) := List.filter_eq_self.2 fun e he => by rw [h1 e he]; rfl
   have a2 : (l.drop (pre (fun e => sLt e.Name s) l + 1)).filter (fun e => !sEq e.Name s) = l.drop (pre (fun e => sLt e.Name s) l + 1) := List.filter_eq_self.2 fun e he => by rw [h2 e he]; rfl
   rw [List.filter_append, List.filter_cons, a1, a2]
   by_cases hq : sEq (l[pre (fun e => sLt e.Name s) l]).Name s = true
   · rw [if_pos hq, if_neg (by rw [hq]; decide)]
   · rw [if_neg hq, if_pos (by simpa using hq)]
     exact (Zs0 l _ hp).symm
 · rw [List.getElem?_eq_none (by omega)]
   have : l.take (pre (fun e => sLt e.Name s) l) = l := List.take_of_length_le (by omega)
   rw [this] at h1
   rw [if_neg (by simp)]
   exact List.filter_eq_self.2 fun e he => by rw [h1 e he]; rfl
theorem Z14 {l : Zdl} {s : ByteArray} : layL { Score := 0, Name := s } true l = if isAt s l = true then l else l.take (pre (fun e => sLt e.Name s) l) ++ [{ Score := 0, Name := s }] ++ l.drop (pre (fun e => sLt e.Name s) l) := by
 have hf : Zdw { Score := 0, Name := s } true = fun e => sLt e.Name s := rfl
 unfold layL isAt
 rw [hf]
 cases h : l[pre (fun e => sLt e.Name s) l]? with
 | none =>
   have hp := List.getElem?_eq_none_iff.1 h
   rw [if_neg (by simp), List.take_of_length_le hp, List.drop_of_length_le hp, List.append_nil]
 | some e =>
   simp only [Zlc, Bool.true_or, Bool.and_true]
   by_cases hq : sEq e.Name s = true
   · rw [if_pos hq, if_pos hq, List.append_nil, List.take_append_drop]
   · rw [if_neg hq, if_neg hq]
theorem Zpb {l : Zdl} (h : l.length < 1000000) : Zbo l = some l := by
 unfold Zbo
 rw [if_pos (by omega)]
theorem Zt2 {r : Zd} {a : Zs} (ha : a.X < W64) (hsc : ∀ e ∈ r.List, e.Score < W64) (hl : r.List.length < 1000000) : ∀ (n i : Nat), i + n = r.List.length →
   Zfq r a (n + 1) (i : Int) = some ((i + pre (Zdw { Score := a.X, Name := a.S } false) (r.List.drop i) : Nat) : Int)
 | 0, i, h => by
   have hd : decide ((i : Int) < (r.List.length : Int)) = false := by simp; omega
   rw [Zfq, hd, List.drop_of_length_le (by omega)]
   simp [gd, pre]
 | n + 1, i, h => by
   have h1 : i < r.List.length := by omega
   have hd : decide ((i : Int) < (r.List.length : Int)) = true := by simp; omega
   rw [Zfq, hd, Zdb h1, List.drop_eq_getElem_cons h1]
   simp only [gd_t, Option.bind_some, Bool.true_and]
   rw [Zop (hsc _ (List.getElem_mem h1)) ha]
   simp only [Option.bind_some, pre, Zdw, Bool.false_eq_true, if_false, wr1 (show i < 9223372036854775807 by omega)]
   by_cases hb : Zdf r.List[i] { Score := a.X, Name := a.S } = true
   · rw [if_pos hb, if_pos hb, Zt2 ha hsc hl n (i + 1) (by omega)]
     congr 2; omega
   · rw [if_neg hb, if_neg hb]; simp
theorem Zv8 {r : Zd} {a : Zs} (ha : a.X < W64) (hsc : ∀ e ∈ r.List, e.Score < W64) (hl : r.List.length < 1000000) : Zfq r a (Int.toNat ((r.List.length : Int) - (0 : Int)) + 1) (0 : Int) = some ((pre (Zdw { Score := a.X, Name := a.S } false) r.List : Nat) : Int) := by
 have := Zt2 (a := a) ha hsc hl r.List.length 0 (by omega)
 rw [show ((0 : Nat) : Int) = 0 from rfl] at this
 rw [show (Int.toNat ((r.List.length : Int) - (0 : Int)) + 1) = r.List.length + 1 by omega, this]
 simp
theorem Zy3 {e x : Zj} (h1 : Zdf e x = false) : (!Zdf x e) = Zlc x false e := by
 unfold Zdf Zlc at *
 by_cases hk : keyf e.Score = keyf x.Score
 · rw [if_pos hk] at h1
   rw [if_pos hk.symm, hk]
   simp only [Bool.false_or, decide_true, Bool.and_true]
   by_cases hn : e.Name = x.Name
   · rw [hn, Zhd, Zc8]; rfl
   · rw [Zlm h1 hn, Zel.2 hn]; rfl
 · rw [if_neg hk] at h1
   rw [if_neg (fun h => hk h.symm)]
   have := of_decide_eq_false h1
   have h3 : keyf e.Score < keyf x.Score := by omega
   simp [h3, hk]
theorem Zsg {k : Int} {l : Zdl} : ∀ (n i : Nat), Zir k l i n = 0 ↔ ∀ j, i ≤ j → j < i + n → Zha k l j = 0
 | 0, i => ⟨fun _ j h1 h2 => by omega, fun _ => rfl⟩
 | n + 1, i => by
   by_cases h : Zha k l i = 0
   · rw [Zs6 h, Zsg n (i + 1)]
     constructor
     · intro hh j h1 h2
       by_cases e : j = i
       · rw [e]; exact h
       · exact hh j (by omega) (by omega)
     · intro hh j h1 h2; exact hh j (by omega) (by omega)
   · rw [Zsz h]
     exact ⟨fun e => absurd e h, fun hh => absurd (hh i (Nat.le_refl _) (by omega)) h⟩
theorem Zsn {t n b r l : Bool} {a : Zd} : Zo2 t n b r l a = 0 ↔ Zgy t n b r l a = true ∧ a.Text.size ≤ 64 ∧ (b = true → -2305843009213693952 ≤ a.Low ∧ a.High ≤ 2305843009213693952 ∧ a.Low ≤ a.Num ∧ a.Num ≤ a.High) ∧ a.Real = Zb6 a.Real ∧ (l = true → 1 ≤ a.Cap ∧ a.Cap ≤ 32 ∧ (a.List.length : Int) ≤ a.Cap ∧ ∀ i, i < a.List.length → Zha a.Kind a.List i = 0) := by
 unfold Zo2
 by_cases h1 : Zgy t n b r l a = false
 · rw [if_pos h1, h1]; simp
 · have h1' : Zgy t n b r l a = true := by simpa using h1
   rw [if_neg h1, h1']
   by_cases h2 : (64 : Int) < a.Text.size
   · rw [if_pos h2]; exact ⟨fun h => absurd h (by decide), fun h => by omega⟩
   · rw [if_neg h2]
     by_cases h3 : b = true ∧ (a.Low < -2305843009213693952 ∨ 2305843009213693952 < a.High ∨ a.Num < a.Low ∨ a.High < a.Num)
     · rw [if_pos h3]; exact ⟨fun h => absurd h (by decide), fun h => by have := h.2.2.1 h3.1; omega⟩
     · rw [if_neg h3]
       by_cases h4 : a.Real = Zb6 a.Real
       · rw [if_neg (fun h => h h4)]
         cases l
         · rw [if_pos rfl]
           refine ⟨fun _ => ⟨rfl, by omega, fun hb => ?_, h4, fun h => absurd h (by decide)⟩, fun _ => rfl⟩
           have : ¬ (a.Low < -2305843009213693952 ∨ 2305843009213693952 < a.High ∨ a.Num < a.Low ∨ a.High < a.Num) := fun h => h3 ⟨hb, h⟩
           omega
         · rw [if_neg (by decide)]
           by_cases h5 : a.Cap < 1 ∨ 32 < a.Cap
           · rw [if_pos h5]; exact ⟨fun h => absurd h (by decide), fun h => by have := h.2.2.2.2 rfl; omega⟩
           · rw [if_neg h5]
             by_cases h6 : a.Cap < a.List.length
             · rw [if_pos h6]; exact ⟨fun h => absurd h (by decide), fun h => by have := h.2.2.2.2 rfl; omega⟩
             · rw [if_neg h6, Zsg]
               constructor
               · intro h
                 refine ⟨rfl, by omega, fun hb => ?_, h4, fun _ => ⟨by omega, by omega, by omega, fun i hi => h i (Nat.zero_le _) (by omega)⟩⟩
                 have : ¬ (a.Low < -2305843009213693952 ∨ 2305843009213693952 < a.High ∨ a.Num < a.Low ∨ a.High < a.Num) := fun h => h3 ⟨hb, h⟩
                 omega
               · intro h j _ hj
                 exact (h.2.2.2.2 rfl).2.2.2 j (by omega)
       · rw [if_pos h4]; exact ⟨fun h => absurd h (by decide), fun h => absurd h.2.2.2.1 h4⟩
def Zct (a : Zd) : Prop := 1 ≤ a.Kind ∧ a.Kind ≤ 9 ∧ Zgy (decide (a.Kind = 1)) (decide (2 ≤ a.Kind ∧ a.Kind ≤ 4)) (decide (a.Kind = 4)) (decide (5 ≤ a.Kind ∧ a.Kind ≤ 7)) (decide (8 ≤ a.Kind)) a = true ∧ a.Text.size ≤ 64 ∧ (a.Kind = 4 → -2305843009213693952 ≤ a.Low ∧ a.High ≤ 2305843009213693952 ∧ a.Low ≤ a.Num ∧ a.Num ≤ a.High) ∧ a.Real = Zb6 a.Real ∧
 (8 ≤ a.Kind → 1 ≤ a.Cap ∧ a.Cap ≤ 32 ∧ (a.List.length : Int) ≤ a.Cap ∧ ∀ i, i < a.List.length → Zha a.Kind a.List i = 0)
theorem Zkq {a : Zd} (ha : Zhp a) : Zd8 a = some 0 ↔ Zct a := by
 by_cases hk : a.Kind ≤ 0 ∨ 10 ≤ a.Kind
 · have : Zd8 a ≠ some 0 := by
     obtain ⟨c, hc, hc2⟩ := Znm ha
     unfold Zdt at hc2
     rw [if_pos (by simp; omega)] at hc2
     rw [hc, ← hc2]; decide
   exact ⟨fun h => absurd h this, fun h => by obtain ⟨h1, h2, _⟩ := h; omega⟩
 · have fin : ∀ {t n b r l : Bool}, Zee a.Kind = some ⟨t, n, b, r, l⟩ → t = decide (a.Kind = 1) → n = decide (2 ≤ a.Kind ∧ a.Kind ≤ 4) → b = decide (a.Kind = 4) → r = decide (5 ≤ a.Kind ∧ a.Kind ≤ 7) → l = decide (8 ≤ a.Kind) → (Zd8 a = some 0 ↔ Zct a) := by
     intro t n b r l hs h1 h2 h3 h4 h5
     rw [Zf2 ha hk hs]
     constructor
     · intro h
       obtain ⟨g1, g2, g3, g4, g5⟩ := Zsn.1 (Option.some.inj h)
       refine ⟨by omega, by omega, by rw [← h1, ← h2, ← h3, ← h4, ← h5]; exact g1, g2, fun hk4 => g3 (by rw [h3]; simpa using hk4), g4, fun hk8 => g5 (by rw [h5]; simpa using hk8)⟩
     · rintro ⟨_, _, g1, g2, g3, g4, g5⟩
       congr 1
       exact Zsn.2 ⟨by rw [h1, h2, h3, h4, h5]; exact g1, g2, fun hb => g3 (by rw [h3] at hb; simpa using hb), g4, fun hb => g5 (by rw [h5] at hb; simpa using hb)⟩
   have hk' : a.Kind = 1 ∨ a.Kind = 2 ∨ a.Kind = 3 ∨ a.Kind = 4 ∨ a.Kind = 5 ∨ a.Kind = 6 ∨ a.Kind = 7 ∨ a.Kind = 8 ∨ a.Kind = 9 := by omega
   rcases hk' with h | h | h | h | h | h | h | h | h <;> rw [h] at fin
   · exact fin Z3b rfl rfl rfl rfl rfl
   · exact fin Z3o rfl rfl rfl rfl rfl
   · exact fin Z2i rfl rfl rfl rfl rfl
   · exact fin Z2z rfl rfl rfl rfl rfl
   · exact fin Z19 rfl rfl rfl rfl rfl
   · exact fin Z3l rfl rfl rfl rfl rfl
   · exact fin Z12 rfl rfl rfl rfl rfl
   · exact fin Z2x rfl rfl rfl rfl rfl
   · exact fin Z24 rfl rfl rfl rfl rfl
theorem Zlt {a : Zd} (h : Zct a) (hk : a.Kind = 8) : NS a.List := by
 obtain ⟨_, _, _, _, _, _, h8⟩ := h
 obtain ⟨_, _, _, hi⟩ := h8 (by omega)
 have step : ∀ i, i + 1 < a.List.length → sLt ((a.List[i]?).getD default).Name ((a.List[i + 1]?).getD default).Name = true := by
   intro i hi1
   have := hi (i + 1) hi1
   unfold Zha at this
   rw [List.getElem?_eq_getElem hi1] at this
   simp only [Nat.add_sub_cancel] at this
   split at this
   · cases this
   · split at this
     · cases this
     · split at this
       · cases this
       · rename_i h3
         rw [List.getElem?_eq_getElem hi1]
         cases hq : sLt ((a.List[i]?).getD default).Name a.List[i + 1].Name
         · exact absurd ⟨by omega, hk, hq⟩ h3
         · exact hq
 have far : ∀ d i, i + d + 1 < a.List.length → sLt ((a.List[i]?).getD default).Name ((a.List[i + d + 1]?).getD default).Name = true := by
   intro d
   induction d with
   | zero => intro i h; exact step i h
   | succ d ih => intro i h; exact Zfi (ih i (by omega)) (step (i + d + 1) (by omega))
 refine List.pairwise_iff_getElem.2 fun i j hi hj hij => ?_
 have := far (j - i - 1) i (by omega)
 rw [show i + (j - i - 1) + 1 = j by omega, List.getElem?_eq_getElem hi, List.getElem?_eq_getElem hj] at this
 exact this
theorem Zuo {neg : Bool} {r : Nat} (h : r ≤ Ieee.double.infRung) : Ieee.double.word neg r < W64 := by
 have h1 : Ieee.double.infRung = 9218868437227405312 := by decide
 have h2 : Ieee.double.signWeight = 9223372036854775808 := by decide
 unfold Ieee.Format.word
 rw [h1] at h
 show _ < 18446744073709551616
 split
 · rw [h2]; omega
 · omega
theorem Z1s (neg : Bool) (mag : Nat) (place : Int) : Ieee.double.nearest neg mag place < W64 := by
 unfold Ieee.Format.nearest
 split
 · exact Zuo (Nat.zero_le _)
 · exact Zuo (Nat.min_le_right _ _)
theorem Zx1 {d : Ieee.Datum} (h : ∀ n f, d ≠ .nan n f) : Ieee.double.write d < W64 := by
 cases d with
 | number n m p => exact Z1s n m p
 | infinity n => exact Zuo (Nat.le_refl _)
 | nan n f => exact absurd rfl (h n f)
theorem Z6n {x y d : Ieee.Datum} (h : x.sum y = some d) : ∀ n f, d ≠ .nan n f := by
 intro n f e
 subst e
 cases x <;> cases y <;> simp [Ieee.Datum.sum] at h
theorem Zy7 {x y d : Ieee.Datum} (h : x.product y = some d) : ∀ n f, d ≠ .nan n f := by
 intro n f e
 subst e
 cases x <;> cases y <;> simp [Ieee.Datum.product] at h
theorem Z0m (m n : Nat) : fadd m n < W64 := by
 unfold fadd Ieee.Format.add
 cases h : (Ieee.double.read m).sum (Ieee.double.read n) with
 | none => exact (by decide : 9221120237041090561 < W64)
 | some d => simpa using Zx1 (Z6n h)
theorem Zz1 (m n : Nat) : fmul m n < W64 := by
 unfold fmul Ieee.Format.mul
 cases h : (Ieee.double.read m).product (Ieee.double.read n) with
 | none => exact (by decide : 9221120237041090561 < W64)
 | some d => simpa using Zx1 (Zy7 h)
theorem Zqs {z : Nat} (hz : z < W64) : ∃ p, Zi4 z = some p ∧ Zfw p = some (Zb6 z) := by
 have hz' : z < 18446744073709551616 := hz
 unfold Zi4 Zfw Zb6 NANB
 rw [Zpv hz]
 simp only [Option.bind_some]
 by_cases hn : isn z
 · refine ⟨18444492273895866369, by simp [hn]; decide, ?_⟩
   rw [if_pos (by decide), if_pos hn]; decide
 · simp only [hn, decide_false, Bool.false_eq_true, if_false]
   by_cases ht : (9223372036854775808 : Int) ≤ z
   · rw [if_pos (by simpa using ht)]
     refine ⟨_, rfl, ?_⟩
     rw [wru (x := (9223372036854775808 : Int) - 1) (by decide) (by decide), wru (x := (z : Int) - 9223372036854775808) (by omega) (by omega), wru (by omega) (by omega)]
     rw [if_neg (by simp; omega)]
     rw [wru (x := (9223372036854775808 : Int) - 1 - _) (by omega) (by omega), wru (by omega) (by omega)]
     congr 1; omega
   · rw [if_neg (by simpa using ht)]
     refine ⟨_, rfl, ?_⟩
     rw [wru (by omega) (by omega), if_pos (by simp; omega), wru (by omega) (by omega)]
     congr 1; omega
theorem Zsf {z : Nat} : Zb6 (Zb6 z) = Zb6 z := by
 unfold Zb6
 by_cases h : isn z
 · rw [if_pos h, if_pos (show isn NANB by unfold isn rg INF NANB TOP; decide)]
 · rw [if_neg h, if_neg h]
theorem Zyw {a b : Nat} (ha : a < W64) (hb : b < W64) (ca : a = Zb6 a) (cb : b = Zb6 b) : ∃ m, Zkl a b = some m ∧ Zl3 a b = some m ∧ (m = a ∨ m = b) := by
 unfold Zkl Zl3
 rw [Zu2 ha hb, Zod ha hb, Ziw ha, Ziw hb, ← ca, ← cb]
 by_cases h : keyf a < keyf b
 · exact ⟨b, by simp [h], by simp [h], .inr rfl⟩
 · exact ⟨a, by simp [h], by simp [h], .inl rfl⟩
theorem Zxv {a b : Nat} (ha : a < W64) (hb : b < W64) (ca : a = Zb6 a) (cb : b = Zb6 b) : ∃ m, Zko a b = some m ∧ Zl0 a b = some m ∧ (m = a ∨ m = b) := by
 unfold Zko Zl0
 rw [Zu2 hb ha, Zod hb ha, Ziw ha, Ziw hb, ← ca, ← cb]
 by_cases h : keyf b < keyf a
 · exact ⟨b, by simp [h], by simp [h], .inr rfl⟩
 · exact ⟨a, by simp [h], by simp [h], .inl rfl⟩
def I64 (x : Int) : Prop := -9223372036854775808 ≤ x ∧ x ≤ 9223372036854775807
structure RecW (r : Zd) : Prop where
 ok : Zhp r
 num : I64 r.Num
 low : I64 r.Low
 high : I64 r.High
 kind : I64 r.Kind
 len : r.List.length ≤ 1000
structure ActW (a : Zs) : Prop where
 ok : Zts a
 n : I64 a.N
 mkr : RecW a.Make
 xc : a.X = Zb6 a.X
 inout : (a.Kind = 10 ∨ a.Kind = 11) → 0 ≤ a.N ∧ a.N ≤ 2305843009213693952
 s64 : a.S.size ≤ 64
 s16 : ¬ (5 ≤ a.Kind ∧ a.Kind ≤ 6) → a.S.size ≤ 16
abbrev ans (c : Int) : Zi := { Code := c, Num := 0, Rec := default }
def Chg (r : Zd) (a : Zs) : Prop := ∃ c r' o, Zbd a.Kind r a (default : Zi) = some (c, r', o) ∧ Zbs r a = some (if c = 0 then (r', o) else (r, ans c)) ∧ RecW r' ∧ RecW o.Rec ∧ (c = 0 → o.Code = 0 ∧ o.Num = 0)
theorem Zp2 (x : Int) : I64 (IntKind.i64.wrap x) := by unfold I64; rw [IntKind.wrap_i64]; omega
theorem Zdk : RecW (default : Zd) := ⟨⟨by decide, by decide, fun e he => by cases he⟩, by unfold I64; decide, by unfold I64; decide, by unfold I64; decide, by unfold I64; decide, by decide⟩
theorem RecW.withNum {r : Zd} (h : RecW r) {x : Int} (hx : I64 x) : RecW { r with Num := x } := ⟨⟨h.ok.real, h.ok.len, h.ok.sc⟩, hx, h.low, h.high, h.kind, h.len⟩
theorem RecW.withText {r : Zd} (h : RecW r) (t : ByteArray) : RecW { r with Text := t } := ⟨⟨h.ok.real, h.ok.len, h.ok.sc⟩, h.num, h.low, h.high, h.kind, h.len⟩
theorem RecW.withReal {r : Zd} (h : RecW r) {x : Nat} (hx : x < W64) : RecW { r with Real := x } := ⟨⟨hx, h.ok.len, h.ok.sc⟩, h.num, h.low, h.high, h.kind, h.len⟩
theorem RecW.withList {r : Zd} (h : RecW r) {l : Zdl} (h1 : l.length ≤ 1000) (h2 : ∀ e ∈ l, e.Score < W64) : RecW { r with List := l } := ⟨⟨h.ok.real, by show l.length < _; omega, h2⟩, h.num, h.low, h.high, h.kind, h1⟩
theorem Zmv {r : Zd} (h : r.List.length ≤ 1000) : Zd9 r = some r := by
 unfold Zd9 Zbo
 rw [if_pos (by omega)]; rfl
theorem Z3q {r : Zd} (h : r.List.length ≤ 1000) : Zkd r = some r := by
 unfold Zkd
 rw [if_pos (by simp; omega)]; rfl
variable {r : Zd} {a : Zs}
theorem Z6c (h : a.Kind = 5) (hr : RecW r) : Chg r a := by
 refine ⟨0, { r with Text := a.S }, ans 0, ?_, ?_, hr.withText _, Zdk, fun _ => ⟨rfl, rfl⟩⟩
 · rw [h]; rfl
 · unfold Zbs; rw [h]; rfl
theorem Z4w (h : a.Kind = 6) (hr : RecW r) : Chg r a := by
 refine ⟨0, { r with Text := a.S }, { ans 0 with Rec := r }, ?_, ?_, hr.withText _, hr, fun _ => ⟨rfl, rfl⟩⟩
 · rw [h]
   show Zgm r a default = _
   unfold Zgm
   rw [Zmv hr.len]; rfl
 · unfold Zbs; rw [h, Z3q hr.len]; rfl
theorem Z7a (h : a.Kind = 7) (hr : RecW r) : Chg r a := by
 refine ⟨0, { r with Num := IntKind.i64.wrap (r.Num + a.N) }, ans 0, ?_, ?_, hr.withNum (Zp2 _), Zdk, fun _ => ⟨rfl, rfl⟩⟩
 · rw [h]; rfl
 · unfold Zbs; rw [h]; rfl
theorem Z21 (hr : I64 r.Num) (hn : I64 a.N) : (((decide ((0 : Int) < a.N)) && (decide ((IntKind.i64.wrap ((9223372036854775807 : Int) - a.N)) < r.Num))) || ((decide (a.N < (0 : Int))) && (decide (r.Num < (IntKind.i64.wrap ((-9223372036854775808 : Int) - a.N)))))) =
   ((((decide ((0 : Int) < r.Num)) && (decide ((0 : Int) < a.N))) && (decide ((IntKind.i64.wrap (r.Num + a.N)) < (0 : Int)))) || (((decide (r.Num < (0 : Int))) && (decide (a.N < (0 : Int)))) && (decide ((0 : Int) ≤ (IntKind.i64.wrap (r.Num + a.N)))))) := by
 unfold I64 at hr hn
 rw [Bool.eq_iff_iff]
 simp only [Bool.or_eq_true, Bool.and_eq_true, decide_eq_true_eq, IntKind.wrap_i64]
 omega
theorem Z4q (h : a.Kind = 8) (hr : RecW r) (ha : ActW a) : Chg r a := by
 have e1 : Zbd a.Kind r a default = Zj8 r a default := by rw [h]; rfl
 have e2 : Zbs r a = (Zlh r.Num a.N).bind fun r7 => (if r7 then (Z2 r (ans 9)) else (Z2 { r with Num := IntKind.i64.wrap (r.Num + a.N) } (ans 0))) := by unfold Zbs; rw [h]; rfl
 have hp := Z21 hr.num ha.n
 unfold Chg
 rw [e1, e2]
 unfold Zj8 Zlh Z2
 rw [hp]
 simp only [Option.bind_some]
 split
 · exact ⟨9, r, _, rfl, rfl, hr, Zdk, fun h => by cases h⟩
 · exact ⟨0, _, _, rfl, rfl, hr.withNum (Zp2 _), Zdk, fun _ => ⟨rfl, rfl⟩⟩
theorem Zvq (h : a.Kind = 9 ∨ a.Kind = 12) (hr : RecW r) : Chg r a := by
 have e1 : Zbd a.Kind r a default = Zd4 r a default := by rcases h with h | h <;> rw [h] <;> rfl
 have e2 : Zbs r a = (if (decide (r.Num < a.N)) then (Z2 r (ans 11)) else (Z2 r (ans 0))) := by rcases h with h | h <;> unfold Zbs Zcn <;> rw [h] <;> rfl
 unfold Chg
 rw [e1, e2]
 unfold Zd4 Z2
 split
 · exact ⟨11, r, _, rfl, rfl, hr, Zdk, fun h => by cases h⟩
 · exact ⟨0, r, _, rfl, rfl, hr, Zdk, fun _ => ⟨rfl, rfl⟩⟩
theorem Zwv (hg : Zct r) (hk : r.Kind = 4) : -2305843009213693952 ≤ r.Low ∧ r.High ≤ 2305843009213693952 ∧ r.Low ≤ r.Num ∧ r.Num ≤ r.High := hg.2.2.2.2.1 hk
theorem Z9l (h : a.Kind = 10) (hr : RecW r) (hg : Zct r) (hk : r.Kind = 4) (ha : ActW a) : Chg r a := by
 have e1 : Zbd a.Kind r a default = Zgw r a default := by rw [h]; rfl
 have e2 : Zbs r a = (if (decide (r.High < IntKind.i64.wrap (r.Num + a.N))) then (Z2 r (ans 9)) else (Z2 { r with Num := IntKind.i64.wrap (r.Num + a.N) } (ans 0))) := by unfold Zbs Zcn; rw [h]; rfl
 obtain ⟨p1, p2, p3, p4⟩ := Zwv hg hk
 obtain ⟨n1, n2⟩ := ha.inout (.inl h)
 have hd : decide (IntKind.i64.wrap (r.High - r.Num) < a.N) = decide (r.High < IntKind.i64.wrap (r.Num + a.N)) := by
   rw [wr (x := r.High - r.Num) (by omega) (by omega), wr (x := r.Num + a.N) (by omega) (by omega)]
   apply decide_eq_decide.2; omega
 unfold Chg
 rw [e1, e2]
 unfold Zgw Z2
 rw [hd]
 split
 · exact ⟨9, r, _, rfl, rfl, hr, Zdk, fun h => by cases h⟩
 · exact ⟨0, _, _, rfl, rfl, hr.withNum (Zp2 _), Zdk, fun _ => ⟨rfl, rfl⟩⟩
theorem Z6r (h : a.Kind = 11) (hr : RecW r) (hg : Zct r) (hk : r.Kind = 4) (ha : ActW a) : Chg r a := by
 have e1 : Zbd a.Kind r a default = Zgp r a default := by rw [h]; rfl
 have e2 : Zbs r a = (if (decide (IntKind.i64.wrap (r.Num - a.N) < r.Low)) then (Z2 r (ans 10)) else (Z2 { r with Num := IntKind.i64.wrap (r.Num - a.N) } (ans 0))) := by unfold Zbs Zcn; rw [h]; rfl
 obtain ⟨p1, p2, p3, p4⟩ := Zwv hg hk
 obtain ⟨n1, n2⟩ := ha.inout (.inr h)
 have hd : decide (IntKind.i64.wrap (r.Num - r.Low) < a.N) = decide (IntKind.i64.wrap (r.Num - a.N) < r.Low) := by
   rw [wr (x := r.Num - r.Low) (by omega) (by omega), wr (x := r.Num - a.N) (by omega) (by omega)]
   apply decide_eq_decide.2; omega
 unfold Chg
 rw [e1, e2]
 unfold Zgp Z2
 rw [hd]
 split
 · exact ⟨10, r, _, rfl, rfl, hr, Zdk, fun h => by cases h⟩
 · exact ⟨0, _, _, rfl, rfl, hr.withNum (Zp2 _), Zdk, fun _ => ⟨rfl, rfl⟩⟩
theorem Zn2 {m : Nat} {ψ : Nat → Nat → Option Nat} (h : Zbd a.Kind r a default = Zei ψ r a default) (h1 : ψ r.Real a.X = some m) (hm : m < W64) (h2 : Zbs r a = some ({ r with Real := m }, ans 0)) (hr : RecW r) : Chg r a := by
 refine ⟨0, { r with Real := m }, ans 0, ?_, h2, hr.withReal hm, Zdk, fun _ => ⟨rfl, rfl⟩⟩
 rw [h]
 unfold Zei
 rw [h1]; rfl
theorem Zm8 (hg : Zct r) : r.Real = Zb6 r.Real := hg.2.2.2.2.2.1
theorem Z2q (h : a.Kind = 13) (hr : RecW r) (hg : Zct r) (ha : ActW a) : Chg r a := by
 obtain ⟨m, m1, m2, m3⟩ := Zyw hr.ok.real ha.ok.2 (Zm8 hg) ha.xc
 refine Zn2 (m := m) (ψ := fun x y => Zkl x y) (by rw [h]; rfl) m1 (by rcases m3 with rfl | rfl; exact hr.ok.real; exact ha.ok.2) ?_ hr
 unfold Zbs Zcn; rw [h, m2]; rfl
theorem Z2e (h : a.Kind = 14) (hr : RecW r) (hg : Zct r) (ha : ActW a) : Chg r a := by
 obtain ⟨m, m1, m2, m3⟩ := Zxv hr.ok.real ha.ok.2 (Zm8 hg) ha.xc
 refine Zn2 (m := m) (ψ := fun x y => Zko x y) (by rw [h]; rfl) m1 (by rcases m3 with rfl | rfl; exact hr.ok.real; exact ha.ok.2) ?_ hr
 unfold Zbs Zcn; rw [h, m2]; rfl
theorem Z3g (h : a.Kind = 15) (hr : RecW r) : Chg r a := by
 have hz := Z0m r.Real a.X
 obtain ⟨p, p1, p2⟩ := Zqs hz
 refine Zn2 (m := Zb6 (fadd r.Real a.X)) (ψ := fun x y => Zhz x y) (by rw [h]; rfl) (by show Zhz r.Real a.X = _; unfold Zhz; rw [Ziw hz]; rfl) (Zsx hz) ?_ hr
 unfold Zbs Zcn; rw [h, p1]
 show ((Zfw p).bind _) = _
 rw [p2]; rfl
theorem Z3d (h : a.Kind = 16) (hr : RecW r) : Chg r a := by
 have hz := Zz1 r.Real a.X
 obtain ⟨p, p1, p2⟩ := Zqs hz
 refine Zn2 (m := Zb6 (fmul r.Real a.X)) (ψ := fun x y => Zg6 x y) (by rw [h]; rfl) (by show Zg6 r.Real a.X = _; unfold Zg6; rw [Ziw hz]; rfl) (Zsx hz) ?_ hr
 unfold Zbs Zcn; rw [h, p1]
 show ((Zfw p).bind _) = _
 rw [p2]; rfl
theorem Z6a (h : a.Kind = 17) (hr : RecW r) (ha : ActW a) : Chg r a := by
 refine Zn2 (m := a.X) (ψ := fun x y => Zgx x y) (by rw [h]; rfl) rfl ha.ok.2 ?_ hr
 unfold Zbs Zcn; rw [h]; rfl
theorem Zvs (hg : Zct r) (hk : 8 ≤ r.Kind) : 1 ≤ r.Cap ∧ r.Cap ≤ 32 ∧ (r.List.length : Int) ≤ r.Cap := by
 obtain ⟨h1, h2, h3, _⟩ := hg.2.2.2.2.2.2 hk
 exact ⟨h1, h2, h3⟩
theorem Z68 (h : a.Kind = 20) (hr : RecW r) (hg : Zct r) (hk : r.Kind = 8) : Chg r a := by
 have hs := Zlt hg hk
 have hl := hr.len
 have e1 : Zbd a.Kind r a default = Zfc r a default := by rw [h]; rfl
 have e2 : Zbs r a = (Zhe r.List a.S).bind fun r59 => (if (!r59) then (Z2 r (ans 11)) else (Z2 r (ans 0))) := by unfold Zbs Zcn; rw [h]; rfl
 unfold Chg
 rw [e1, e2]
 unfold Zfc Z2
 rw [Znr hs (by omega), Z2f (by omega), Zsw hs]
 simp only [Option.bind_some]
 split
 · exact ⟨11, r, _, rfl, rfl, hr, Zdk, fun h => by cases h⟩
 · exact ⟨0, r, _, rfl, rfl, hr, Zdk, fun _ => ⟨rfl, rfl⟩⟩
theorem Z37 (h : a.Kind = 18) (hr : RecW r) (hg : Zct r) (hk : r.Kind = 8) : Chg r a := by
 have hs := Zlt hg hk
 have hl := hr.len
 obtain ⟨c1, c2, c3⟩ := Zvs hg (by omega)
 have e1 : Zbd a.Kind r a default = Zkh r a default := by rw [h]; rfl
 have e2 : Zbs r a = (Zhe r.List a.S).bind fun r40 => (if ((!r40) && (decide (r.Cap ≤ (r.List.length : Int)))) then (Z2 r (ans 8)) else ((Zgq r.List ({ Score := (0 : Nat), Name := a.S } : Zj) true).bind fun r43 => (Z2 ({ r with List := r43 }) (ans 0)))) := by unfold Zbs Zcn; rw [h]; rfl
 have hple := Zn3 (fun e => sLt e.Name a.S) r.List
 unfold Chg
 rw [e1, e2]
 unfold Zkh Z2
 rw [Znr hs (by omega), Z2f (by omega), Zsw hs, Z0r (show (0 : Nat) < W64 by decide) hr.ok.sc (by omega), Z14, Zpb (by omega)]
 simp only [Option.bind_some]
 by_cases hat : isAt a.S r.List = true
 · rw [hat]
   exact ⟨0, r, _, rfl, rfl, hr, Zdk, fun _ => ⟨rfl, rfl⟩⟩
 · have hat' : isAt a.S r.List = false := by simpa using hat
   rw [hat']
   simp only [Bool.not_false, Bool.true_and, Bool.false_eq_true, if_false]
   by_cases hc : decide (r.Cap ≤ (r.List.length : Int)) = true
   · rw [if_pos hc, if_pos hc]
     exact ⟨8, r, _, rfl, rfl, hr, Zdk, fun h => by cases h⟩
   · rw [if_neg hc, if_neg hc]
     unfold Zb9
     rw [if_pos ⟨by omega, by omega, by simp, by simp; omega⟩]
     refine ⟨0, _, _, rfl, rfl, hr.withList (by simp; omega) fun e he => ?_, Zdk, fun _ => ⟨rfl, rfl⟩⟩
     simp only [List.mem_append, List.mem_singleton, Int.toNat_natCast] at he
     rcases he with (he | rfl) | he
     · exact hr.ok.sc e (List.mem_of_mem_take he)
     · exact (show (0 : Nat) < W64 by decide)
     · exact hr.ok.sc e (List.mem_of_mem_drop he)
theorem Zwa (h : a.Kind = 19) (hr : RecW r) (hg : Zct r) (hk : r.Kind = 8) : Chg r a := by
 have hs := Zlt hg hk
 have hl := hr.len
 have e1 : Zbd a.Kind r a default = Zi8 r a default := by rw [h]; rfl
 have e2 : Zbs r a = (Zeu r a (Int.toNat ((r.List.length : Int) - (0 : Int)) + 1) ([] : List Zj) (0 : Int)).bind fun z57 => match z57 with | y56 => (Z2 ({ r with List := y56 }) (ans 0)) := by unfold Zbs Zcn; rw [h]; rfl
 have hple := Zn3 (fun e => sLt e.Name a.S) r.List
 unfold Chg
 rw [e1, e2]
 unfold Zi8 Z2
 have hf := Zos (a := a) (a0 := r) (by omega) r.List.length 0 [] (by omega) (by simp)
 rw [show ((0 : Nat) : Int) = 0 from rfl] at hf
 rw [Znr hs (by omega), show (Int.toNat ((r.List.length : Int) - (0 : Int)) + 1) = r.List.length + 1 by omega, hf, List.drop_zero, List.nil_append, Z13 hs, Zpb (by omega)]
 simp only [Option.bind_some]
 by_cases hat : isAt a.S r.List = true
 · have hp : pre (fun e => sLt e.Name a.S) r.List < r.List.length := by
     unfold isAt at hat
     cases hq : r.List[pre (fun e => sLt e.Name a.S) r.List]? with
     | none => rw [hq] at hat; cases hat
     | some e => exact (List.getElem?_eq_some_iff.1 hq).1
   rw [hat]
   simp only [if_true]
   unfold Zer
   rw [wr1 (by omega), if_pos ⟨by omega, by omega, by omega, by omega, by omega⟩]
   refine ⟨0, _, _, rfl, rfl, hr.withList (by simp; omega) fun e he => ?_, Zdk, fun _ => ⟨rfl, rfl⟩⟩
   simp only [List.mem_append, Int.toNat_natCast] at he
   rcases he with he | he
   · exact hr.ok.sc e (List.mem_of_mem_take he)
   · exact hr.ok.sc e (List.mem_of_mem_drop he)
 · have hat' : isAt a.S r.List = false := by simpa using hat
   rw [hat']
   exact ⟨0, r, _, rfl, rfl, hr, Zdk, fun _ => ⟨rfl, rfl⟩⟩
variable {r : Zd} {a : Zs}
theorem Zym {l : Zdl} {c : Int} (h1 : 1 ≤ c) (h2 : c ≤ 32) : cut l 0 (min (l.length : Int) c) = some (l.take c.toNat) := by
 unfold cut
 rw [if_pos (by omega)]
 simp only [Int.toNat_zero, List.drop_zero, Nat.sub_zero]
 congr 1
 rcases Int.le_total (l.length : Int) c with h | h
 · rw [Int.min_eq_left h, Int.toNat_natCast, List.take_of_length_le (Nat.le_refl _), List.take_of_length_le (by omega)]
 · rw [Int.min_eq_right h]
theorem Z3f (h : a.Kind = 21) (hr : RecW r) (hg : Zct r) (hk : r.Kind = 9) (ha : ActW a) : Chg r a := by
 have hl := hr.len
 obtain ⟨c1, c2, c3⟩ := Zvs hg (by omega)
 have e1 : Zbd a.Kind r a default = Zjk r a default := by rw [h]; rfl
 have e2 : Zbs r a = (Zgq r.List ({ Score := a.X, Name := a.S } : Zj) false).bind fun r63 => (if (decide (r.Cap < (r63.length : Int))) then ((cut r63 (0 : Int) r.Cap).bind fun c66 => (Zfd r c66)) else (Zfd r r63)) := by unfold Zbs Zcn; rw [h]; rfl
 have hx : ({ Score := a.X, Name := a.S } : Zj).Score < W64 := ha.ok.2
 have hple := Zn3 (Zdw { Score := a.X, Name := a.S } false) r.List
 unfold Chg
 rw [e1, e2]
 unfold Zjk
 rw [Zv8 ha.ok.2 hr.ok.sc (by omega), Z0r hx hr.ok.sc (by omega), Zpb (by omega)]
 simp only [Option.bind_some]
 have fin : ∀ L : Zdl, L = r.List.take (pre (Zdw { Score := a.X, Name := a.S } false) r.List) ++ [{ Score := a.X, Name := a.S }] ++ r.List.drop (pre (Zdw { Score := a.X, Name := a.S } false) r.List) → layL { Score := a.X, Name := a.S } false r.List = L →
     ∃ c r' o, ((Zb9 r.List ((pre (Zdw { Score := a.X, Name := a.S } false) r.List : Nat) : Int) ([({ Score := a.X, Name := a.S } : Zj)] : List Zj)).bind fun r16 => ((cut r16 (0 : Int) (min (r16.length : Int) r.Cap)).bind fun c18 => (some ((0 : Int), ({ r with List := c18 }), (default : Zi))))) = some (c, r', o) ∧
       (if (decide (r.Cap < ((layL { Score := a.X, Name := a.S } false r.List).length : Int))) = true then ((cut (layL { Score := a.X, Name := a.S } false r.List) (0 : Int) r.Cap).bind fun c66 => (Zfd r c66)) else (Zfd r (layL { Score := a.X, Name := a.S } false r.List))) = some (if c = 0 then (r', o) else (r, ans c)) ∧ RecW r' ∧ RecW o.Rec ∧ (c = 0 → o.Code = 0 ∧ o.Num = 0) := by
   intro L hL hlay
   have hLl : L.length = r.List.length + 1 := by rw [hL]; simp; omega
   have hLs : ∀ e ∈ L, e.Score < W64 := fun e he => by
     rw [hL] at he
     simp only [List.mem_append, List.mem_singleton] at he
     rcases he with (he | rfl) | he
     · exact hr.ok.sc e (List.mem_of_mem_take he)
     · exact hx
     · exact hr.ok.sc e (List.mem_of_mem_drop he)
   rw [hlay]
   unfold Zb9 Zfd Z2
   rw [if_pos ⟨by omega, by omega, by simp, by simp; omega⟩]
   simp only [Option.bind_some, Int.toNat_natCast]
   rw [← hL, Zym c1 c2]
   refine ⟨0, { r with List := L.take r.Cap.toNat }, ans 0, rfl, ?_, hr.withList (by simp; omega) (fun e he => hLs e (List.mem_of_mem_take he)), Zdk, fun _ => ⟨rfl, rfl⟩⟩
   by_cases hc : decide (r.Cap < (L.length : Int)) = true
   · rw [if_pos hc]
     have : r.Cap < (L.length : Int) := of_decide_eq_true hc
     unfold cut
     rw [if_pos (by omega)]
     simp
   · rw [if_neg hc]
     have : ¬ r.Cap < (L.length : Int) := fun h => hc (decide_eq_true h)
     rw [List.take_of_length_le (by omega)]; rfl
 by_cases hp : pre (Zdw { Score := a.X, Name := a.S } false) r.List < r.List.length
 · have hd : decide (((pre (Zdw { Score := a.X, Name := a.S } false) r.List : Nat) : Int) < (r.List.length : Int)) = true := by simpa using hp
   have hat := Zua (List.getElem?_eq_getElem hp)
   have hb : Zdf r.List[pre (Zdw { Score := a.X, Name := a.S } false) r.List] { Score := a.X, Name := a.S } = false := hat
   have hbs := Zy3 hb
   rw [hd, Zdb hp]
   simp only [gd_t, Option.bind_some, Bool.true_and]
   rw [Zop hx (hr.ok.sc _ (List.getElem_mem hp))]
   simp only [Option.bind_some]
   by_cases hs : (!Zdf { Score := a.X, Name := a.S } r.List[pre (Zdw { Score := a.X, Name := a.S } false) r.List]) = true
   · rw [if_pos hs]
     have hlay : layL { Score := a.X, Name := a.S } false r.List = r.List := by
       unfold layL
       rw [List.getElem?_eq_getElem hp]
       simp only
       rw [if_pos (by rw [← hbs]; exact hs), List.append_nil, List.take_append_drop]
     rw [hlay, if_neg (by simp; omega)]
     exact ⟨0, r, _, rfl, rfl, hr, Zdk, fun _ => ⟨rfl, rfl⟩⟩
   · rw [if_neg hs]
     refine fin _ rfl ?_
     unfold layL
     rw [List.getElem?_eq_getElem hp]
     simp only
     rw [if_neg (by rw [← hbs]; exact hs)]
 · have hd : decide (((pre (Zdw { Score := a.X, Name := a.S } false) r.List : Nat) : Int) < (r.List.length : Int)) = false := by simpa using hp
   rw [hd]
   simp only [gd_f, Option.bind_some, Bool.false_and, Bool.false_eq_true, if_false]
   refine fin _ rfl ?_
   unfold layL
   rw [List.getElem?_eq_none (by omega), List.take_of_length_le (by omega), List.drop_of_length_le (by omega), List.append_nil]
theorem Z0k {k : Int} (h1 : 1 ≤ k) (h2 : k ≤ 21) : ∃ on, Zk6 k = some on ∧ Zi9 k = some on ∧ (k ≤ 4 → on = 0) ∧ (5 ≤ k → on ≠ 0) ∧ ((k = 10 ∨ k = 11) → on = 4) ∧ ((k = 18 ∨ k = 19 ∨ k = 20) → on = 8) ∧ (k = 21 → on = 9) ∧
   ((k = 5 ∨ k = 6) → on = 1) ∧ (k = 7 → on = 2) ∧ ((k = 8 ∨ k = 9) → on = 3) ∧ (k = 12 → on = 4) ∧ (k = 13 → on = 5) ∧ (k = 14 → on = 6) ∧ ((k = 15 ∨ k = 16 ∨ k = 17) → on = 7) := by
 have hk' : k = 1 ∨ k = 2 ∨ k = 3 ∨ k = 4 ∨ k = 5 ∨ k = 6 ∨ k = 7 ∨ k = 8 ∨ k = 9 ∨ k = 10 ∨ k = 11 ∨ k = 12 ∨ k = 13 ∨ k = 14 ∨ k = 15 ∨ k = 16 ∨ k = 17 ∨ k = 18 ∨ k = 19 ∨ k = 20 ∨ k = 21 := by omega
 rcases hk' with rfl | rfl | rfl | rfl | rfl | rfl | rfl | rfl | rfl | rfl | rfl | rfl | rfl | rfl | rfl | rfl | rfl | rfl | rfl | rfl | rfl
 all_goals first
   | exact ⟨0, by kernel_rfl, by kernel_rfl, by decide⟩
   | exact ⟨1, by kernel_rfl, by kernel_rfl, by decide⟩
   | exact ⟨2, by kernel_rfl, by kernel_rfl, by decide⟩
   | exact ⟨3, by kernel_rfl, by kernel_rfl, by decide⟩
   | exact ⟨4, by kernel_rfl, by kernel_rfl, by decide⟩
   | exact ⟨5, by kernel_rfl, by kernel_rfl, by decide⟩
   | exact ⟨6, by kernel_rfl, by kernel_rfl, by decide⟩
   | exact ⟨7, by kernel_rfl, by kernel_rfl, by decide⟩
   | exact ⟨8, by kernel_rfl, by kernel_rfl, by decide⟩
   | exact ⟨9, by kernel_rfl, by kernel_rfl, by decide⟩
theorem Z7e (h5 : 5 ≤ a.Kind) (h21 : a.Kind ≤ 21) (hr : RecW r) (hg : Zct r) (hon : Zk6 a.Kind = some r.Kind) (ha : ActW a) : Chg r a := by
 obtain ⟨on, o1, _, _, _, k10, k18, k21, _⟩ := Z0k (k := a.Kind) (by omega) h21
 rw [hon] at o1
 obtain rfl := Option.some.inj o1
 have hk' : a.Kind = 5 ∨ a.Kind = 6 ∨ a.Kind = 7 ∨ a.Kind = 8 ∨ a.Kind = 9 ∨ a.Kind = 10 ∨ a.Kind = 11 ∨ a.Kind = 12 ∨ a.Kind = 13 ∨ a.Kind = 14 ∨ a.Kind = 15 ∨ a.Kind = 16 ∨ a.Kind = 17 ∨ a.Kind = 18 ∨ a.Kind = 19 ∨ a.Kind = 20 ∨ a.Kind = 21 := by omega
 rcases hk' with h | h | h | h | h | h | h | h | h | h | h | h | h | h | h | h | h
 · exact Z6c h hr
 · exact Z4w h hr
 · exact Z7a h hr
 · exact Z4q h hr ha
 · exact Zvq (.inl h) hr
 · exact Z9l h hr hg (k10 (.inl h)) ha
 · exact Z6r h hr hg (k10 (.inr h)) ha
 · exact Zvq (.inr h) hr
 · exact Z2q h hr hg ha
 · exact Z2e h hr hg ha
 · exact Z3g h hr
 · exact Z3d h hr
 · exact Z6a h hr ha
 · exact Z37 h hr hg (k18 (.inl h))
 · exact Zwa h hr hg (k18 (.inr (.inl h)))
 · exact Z68 h hr hg (k18 (.inr (.inr h)))
 · exact Z3f h hr hg (k21 h) ha
structure ActIn (a : Zs) : Prop where
 ok : Zts a
 n : I64 a.N
 mkr : RecW a.Make
theorem ActIn.w {a : Zs} (h : ActIn a) {c : Int} (hc : 1 ≤ a.Kind ∧ a.Kind ≤ 21 ∧ a.X = Zb6 a.X ∧ a.S.size ≤ 64 ∧ ((a.Kind = 10 ∨ a.Kind = 11) → 0 ≤ a.N ∧ a.N ≤ 2305843009213693952) ∧ (a.Kind = 1 → Zd8 a.Make = some 0) ∧ (¬ (5 ≤ a.Kind ∧ a.Kind ≤ 6) → a.S.size ≤ 16) ∧ sEq a.Key ⟨#[]⟩ = false ∧ a.Key.size ≤ 24) : ActW a :=
 ⟨h.ok, h.n, h.mkr, hc.2.2.1, hc.2.2.2.2.1, hc.2.2.2.1, hc.2.2.2.2.2.2.1⟩
theorem Zzy {x : Zd} (h : Zjp x) : x.List.length ≤ 9223372036854775807 := by
 obtain ⟨_, _, _, _, _, _, _, h8, _⟩ := h
 simp only [maxLen] at h8; omega
theorem Zvd {x : Zd} (h : Zjp x) (hl : x.List.length ≤ 100) : RecW x := by
 obtain ⟨h1, h2, h3, h4, h5, _, _, h8, h9⟩ := h
 exact ⟨⟨h5, by omega, fun e he => (h9 e he).1⟩, h2, h3, h4, h1, by omega⟩
theorem Z4u {a : Zs} (h : Zkn a) (hl : a.Make.List.length ≤ 100) : ActIn a := by
 obtain ⟨_, _, h3, h4, _, h6, _⟩ := h
 exact ⟨⟨(Zvd h6 hl).ok, h4⟩, h3, Zvd h6 hl⟩
theorem Zbaz {a : Zs} (h : Zkn a) : ∃ c, Zia a = some c ∧ (c = 0 ∨ c = 1) ∧ (c = 0 → a.Make.List.length ≤ 100) := by
 obtain ⟨c, e1, e2, e3⟩ := Z5j (Zzy h.2.2.2.2.2.1)
 unfold Zia
 rw [e1]
 by_cases hk : (decide ((200 : Int) < (a.Key.size : Int)) || decide ((1000 : Int) < (a.S.size : Int))) = true
 · rw [hk]; exact ⟨1, rfl, .inr rfl, fun h => by cases h⟩
 · have hk' := Bool.eq_false_iff.2 hk
   rw [hk']
   rcases e2 with rfl | rfl
   · exact ⟨0, rfl, .inl rfl, fun _ => e3 rfl⟩
   · exact ⟨1, rfl, .inr rfl, fun h => by cases h⟩
def Z1f (r0 : Zd) (there : Bool) (a : Zs) (z : Zd × Bool × Zi) : Prop :=
 (∃ c, c ≠ 0 ∧ z = (r0, there, ans c)) ∨ (Zfz a = some 0 ∧ ActW a ∧ (there = true → Zct r0) ∧
   ((a.Kind = 1 ∧ there = false ∧ Zct a.Make ∧ z = (a.Make, true, ans 0)) ∨ (a.Kind = 2 ∧ there = true ∧ z = (zrc, false, ans 0)) ∨ (a.Kind = 3 ∧ z = (r0, there, { ans 0 with Num := r0.Kind })) ∨ (a.Kind = 4 ∧ there = true ∧ z = (r0, true, { ans 0 with Rec := r0 })) ∨
     (5 ≤ a.Kind ∧ a.Kind ≤ 21 ∧ there = true ∧ Zk6 a.Kind = some r0.Kind ∧ ∃ r' o, Zbd a.Kind r0 a default = some (0, r', o) ∧ o.Code = 0 ∧ o.Num = 0 ∧ RecW r' ∧ RecW o.Rec ∧ z = (r', true, o))))
theorem Zk5 {r : Zd} {there : Bool} {a : Zs} (hr : RecW r) (ha : ActIn a) : ∃ z, Zig r there a = some z ∧ Z1f (if there = true then r else zrc) there a z := by
 suffices hs : ∀ r0 : Zd, RecW r0 → ∃ z, Zh8 there a r0 = some z ∧ Z1f r0 there a z by
   unfold Zig
   cases there
   · exact hs _ Zdk
   · exact hs r hr
 intro r0 hr0
 unfold Zh8
 rw [Zmv hr0.len]
 obtain ⟨c, h1, h2, h3⟩ := Zre ha.ok
 rw [h1]
 simp only [Option.bind_some]
 by_cases hc : c = 0
 · subst hc
   have hf := h3 rfl
   have hw := ha.w (c := 0) hf
   obtain ⟨on2, o1, o2, o3, o4, _⟩ := Z0k hf.1 hf.2.1
   have main : (there = true → Zct r0) → ∃ z, Zh6 there a r0 = some z ∧ Z1f r0 there a z := by
     intro hg
     unfold Zh6 Zg2
     rw [o1, Zmv hr0.len, Zmv ha.mkr.len]
     simp only [Option.bind_some]
     by_cases k1 : a.Kind = 1
     · have hm : Zct a.Make := (Zkq ha.mkr.ok).1 (hf.2.2.2.2.2.1 k1)
       rw [k1]
       cases there
       · exact ⟨_, rfl, .inr ⟨h1, hw, hg, .inl ⟨k1, rfl, hm, rfl⟩⟩⟩
       · exact ⟨_, rfl, .inl ⟨7, by decide, rfl⟩⟩
     · by_cases k3 : a.Kind = 3
       · rw [k3]
         exact ⟨_, rfl, .inr ⟨h1, hw, hg, .inr (.inr (.inl ⟨k3, rfl⟩))⟩⟩
       · by_cases k2 : a.Kind = 2
         · rw [k2]
           cases there
           · exact ⟨_, rfl, .inl ⟨6, by decide, rfl⟩⟩
           · exact ⟨_, rfl, .inr ⟨h1, hw, hg, .inr (.inl ⟨k2, rfl, rfl⟩)⟩⟩
         · by_cases k4 : a.Kind = 4
           · rw [k4]
             cases there
             · exact ⟨_, rfl, .inl ⟨6, by decide, rfl⟩⟩
             · exact ⟨_, rfl, .inr ⟨h1, hw, hg, .inr (.inr (.inr (.inl ⟨k4, rfl, rfl⟩)))⟩⟩
           · have h5 : 5 ≤ a.Kind := by omega
             have b1 : (a.Kind == 1) = false := by simpa using k1
             have b2 : (a.Kind == 2) = false := by simpa using k2
             have b3 : (a.Kind == 3) = false := by simpa using k3
             have b4 : (a.Kind == 4) = false := by simpa using k4
             simp only [b1, b2, b3, b4, Bool.false_and, Bool.false_eq_true, if_false]
             cases there
             · exact ⟨_, rfl, .inl ⟨6, by decide, rfl⟩⟩
             · simp only [Bool.not_true, Bool.false_eq_true, if_false]
               by_cases hk : (on2 != r0.Kind) = true
               · rw [if_pos hk]
                 exact ⟨_, rfl, .inl ⟨5, by decide, rfl⟩⟩
               · rw [if_neg hk, if_pos ⟨h5, hf.2.1⟩]
                 have hk' : on2 = r0.Kind := by simpa using hk
                 obtain ⟨c, r', o, e1, e2, w1, w2, w3⟩ := Z7e h5 hf.2.1 hr0 (hg rfl) (by rw [← hk']; exact o1) hw
                 rw [e1]
                 simp only [Option.bind_some]
                 by_cases hc : c = 0
                 · subst hc
                   exact ⟨(r', true, o), rfl, .inr ⟨h1, hw, hg, .inr (.inr (.inr (.inr ⟨h5, hf.2.1, rfl, by rw [← hk']; exact o1, r', o, e1, (w3 rfl).1, (w3 rfl).2, w1, w2, rfl⟩)))⟩⟩
                 · have hcn : (c != 0) = true := by simpa using hc
                   rw [if_pos hcn]
                   exact ⟨_, rfl, .inl ⟨c, hc, rfl⟩⟩
   have z1 : ((0 : Int) != 0) = false := rfl
   rw [z1]
   simp only [Bool.false_eq_true, if_false]
   by_cases ht : there = true
   · rw [if_pos ht]
     obtain ⟨c2, g1, g2⟩ := Znm hr0.ok
     rw [g1]
     simp only [Option.bind_some]
     by_cases hc2 : c2 = 0
     · subst hc2
       rw [z1]
       exact main fun _ => (Zkq hr0.ok).1 g1
     · have hcn : (c2 != 0) = true := by simpa using hc2
       rw [if_pos hcn]
       exact ⟨_, rfl, .inl ⟨c2, hc2, rfl⟩⟩
   · rw [if_neg ht]
     exact main fun h => absurd h ht
 · have hcn : (c != 0) = true := by simpa using hc
   rw [if_pos hcn]
   exact ⟨_, rfl, .inl ⟨c, hc, rfl⟩⟩
theorem Zyk {f : Zj → Bool} {l : Zdl} : ∀ y ∈ l.take (pre f l), f y = true := fun y hy => by
 obtain ⟨k, hk, rfl⟩ := List.getElem_of_mem hy
 rw [List.length_take] at hk
 obtain ⟨e, he, hf⟩ := Zx9 (f := f) (l := l) (k := k) (by omega)
 rw [List.getElem?_eq_getElem (by omega)] at he
 rw [List.getElem_take]
 obtain rfl := Option.some.inj he
 exact hf
variable {r r' r'' : Zd} {a : Zs} {o o' : Zi} {c : Int}
theorem Zp4 {r : Zd} {m : Int} (hg : Zct r) (hk : 2 ≤ r.Kind ∧ r.Kind ≤ 4) (hb : r.Kind = 4 → r.Low ≤ m ∧ m ≤ r.High) : Zct { r with Num := m } := by
 obtain ⟨g1, g2, g3, g4, g5, g6, g7⟩ := hg
 refine ⟨g1, g2, ?_, g4, fun h => ⟨(g5 h).1, (g5 h).2.1, (hb h).1, (hb h).2⟩, g6, g7⟩
 unfold Zgy at *
 have : decide (2 ≤ r.Kind ∧ r.Kind ≤ 4) = true := decide_eq_true hk
 simp only [this, Bool.true_or] at *
 exact g3
theorem Zoi {a b c : Zj} (h : Zdf a b = true) (k : Zdf b c = true) : Zdf a c = true := by
 unfold Zdf at *
 by_cases h1 : keyf a.Score = keyf b.Score
 · rw [if_pos h1] at h
   by_cases h2 : keyf b.Score = keyf c.Score
   · rw [if_pos h2] at k
     rw [if_pos (h1.trans h2)]; exact Zfi h k
   · rw [if_neg h2] at k
     rw [if_neg (by rw [h1]; exact h2), h1]; exact k
 · rw [if_neg h1] at h
   have h' := of_decide_eq_true h
   by_cases h2 : keyf b.Score = keyf c.Score
   · rw [if_neg (by rw [← h2]; exact h1), ← h2]; exact h
   · rw [if_neg h2] at k
     have k' := of_decide_eq_true k
     rw [if_neg (by omega)]; exact decide_eq_true (by omega)
def BS (l : Zdl) : Prop := l.Pairwise fun p q => Zdf p q = true
def Zqi (k : Int) (e : Zj) : Prop := e.Name.size ≤ 16 ∧ (k = 8 → keyf e.Score = keyf 0) ∧ e.Score = Zb6 e.Score
theorem Znk {k : Int} {l : Zdl} {i : Nat} {x : Zj} (h : l[i]? = some x) : Zha k l i = 0 ↔ Zqi k x ∧ (0 < i → k = 8 → sLt ((l[i - 1]?).getD default).Name x.Name = true) ∧ (0 < i → k = 9 → Zdf ((l[i - 1]?).getD default) x = true) := by
 unfold Zha Zqi
 rw [h]
 simp only []
 by_cases h1 : (16 : Int) < x.Name.size
 · rw [if_pos h1]; exact ⟨fun h => (by cases h), fun h => by omega⟩
 · rw [if_neg h1]
   by_cases h2 : (k = 8 ∧ keyf x.Score ≠ keyf 0) ∨ x.Score ≠ Zb6 x.Score
   · rw [if_pos h2]
     refine ⟨fun h => (by cases h), fun h => ?_⟩
     rcases h2 with ⟨a, b⟩ | b
     · exact absurd (h.1.2.1 a) b
     · exact absurd h.1.2.2 b
   · rw [if_neg h2]
     have e1 : k = 8 → keyf x.Score = keyf 0 := fun hk => Classical.byContradiction fun hn => h2 (.inl ⟨hk, hn⟩)
     have e2 : x.Score = Zb6 x.Score := Classical.byContradiction fun hn => h2 (.inr hn)
     by_cases h3 : 0 < i ∧ k = 8 ∧ sLt ((l[i - 1]?).getD default).Name x.Name = false
     · rw [if_pos h3]
       refine ⟨fun h => (by cases h), fun h => ?_⟩
       have := h.2.1 h3.1 h3.2.1
       rw [h3.2.2] at this; cases this
     · rw [if_neg h3]
       have e3 : 0 < i → k = 8 → sLt ((l[i - 1]?).getD default).Name x.Name = true := fun a b => by
         cases hq : sLt ((l[i - 1]?).getD default).Name x.Name
         · exact absurd ⟨a, b, hq⟩ h3
         · rfl
       by_cases h4 : 0 < i ∧ k = 9 ∧ Zdf ((l[i - 1]?).getD default) x = false
       · rw [if_pos h4]
         refine ⟨fun h => (by cases h), fun h => ?_⟩
         have := h.2.2 h4.1 h4.2.1
         rw [h4.2.2] at this; cases this
       · rw [if_neg h4]
         refine ⟨fun _ => ⟨⟨by omega, e1, e2⟩, e3, fun a b => ?_⟩, fun _ => rfl⟩
         cases hq : Zdf ((l[i - 1]?).getD default) x
         · exact absurd ⟨a, b, hq⟩ h4
         · rfl
theorem Zyl {R : Zj → Zj → Prop} (ht : ∀ {a b c}, R a b → R b c → R a c) {l : Zdl} (step : ∀ i, i + 1 < l.length → R ((l[i]?).getD default) ((l[i + 1]?).getD default)) : l.Pairwise R := by
 have far : ∀ d i, i + d + 1 < l.length → R ((l[i]?).getD default) ((l[i + d + 1]?).getD default) := by
   intro d
   induction d with
   | zero => intro i h; exact step i h
   | succ d ih => intro i h; exact ht (ih i (by omega)) (step (i + d + 1) (by omega))
 refine List.pairwise_iff_getElem.2 fun i j hi hj hij => ?_
 have := far (j - i - 1) i (by omega)
 rw [show i + (j - i - 1) + 1 = j by omega, List.getElem?_eq_getElem hi, List.getElem?_eq_getElem hj] at this
 exact this
theorem Zyn {R : Zj → Zj → Prop} {l : Zdl} (h : l.Pairwise R) {i : Nat} {x : Zj} (hx : l[i]? = some x) (hi : 0 < i) : R ((l[i - 1]?).getD default) x := by
 obtain ⟨h1, rfl⟩ := List.getElem?_eq_some_iff.1 hx
 rw [List.getElem?_eq_getElem (by omega)]
 exact List.pairwise_iff_getElem.1 h _ _ (by omega) h1 (by omega)
theorem Zvz {k : Int} {l : Zdl} : (∀ i, i < l.length → Zha k l i = 0) ↔ (∀ e ∈ l, Zqi k e) ∧ (k = 8 → NS l) ∧ (k = 9 → BS l) := by
 constructor
 · intro h
   refine ⟨fun e he => ?_, fun hk => ?_, fun hk => ?_⟩
   · obtain ⟨i, hi, rfl⟩ := List.getElem_of_mem he
     exact ((Znk (List.getElem?_eq_getElem hi)).1 (h i hi)).1
   · refine Zyl (R := fun p q => sLt p.Name q.Name = true) (fun a b => Zfi a b) fun i hi => ?_
     have := ((Znk (List.getElem?_eq_getElem hi)).1 (h (i + 1) hi)).2.1 (by omega) hk
     rw [List.getElem?_eq_getElem hi]; exact this
   · refine Zyl (R := fun p q => Zdf p q = true) (fun a b => Zoi a b) fun i hi => ?_
     have := ((Znk (List.getElem?_eq_getElem hi)).1 (h (i + 1) hi)).2.2 (by omega) hk
     rw [List.getElem?_eq_getElem hi]; exact this
 · intro ⟨h1, h2, h3⟩ i hi
   have hx := List.getElem?_eq_getElem hi
   exact (Znk hx).2 ⟨h1 _ (List.getElem_mem hi), fun a b => Zyn (R := fun p q => sLt p.Name q.Name = true) (h2 b) hx a, fun a b => Zyn (R := fun p q => Zdf p q = true) (h3 b) hx a⟩
theorem Zxk {r : Zd} (h : Zct r) (hk : 8 ≤ r.Kind) : 1 ≤ r.Cap ∧ r.Cap ≤ 32 ∧ (r.List.length : Int) ≤ r.Cap ∧ (∀ e ∈ r.List, Zqi r.Kind e) ∧ (r.Kind = 8 → NS r.List) ∧ (r.Kind = 9 → BS r.List) := by
 obtain ⟨a, b, c, d⟩ := h.2.2.2.2.2.2 hk
 exact ⟨a, b, c, Zvz.1 d⟩
theorem Znc {r : Zd} {l : Zdl} (h : Zct r) (hk : 8 ≤ r.Kind) (h1 : (l.length : Int) ≤ r.Cap) (h2 : ∀ e ∈ l, Zqi r.Kind e) (h3 : r.Kind = 8 → NS l) (h4 : r.Kind = 9 → BS l) : Zct { r with List := l } := by
 obtain ⟨g1, g2, g3, g4, g5, g6, g7⟩ := h
 refine ⟨g1, g2, ?_, g4, g5, g6, fun hk => ⟨(g7 hk).1, (g7 hk).2.1, h1, Zvz.2 ⟨h2, h3, h4⟩⟩⟩
 unfold Zgy at *
 have : decide (8 ≤ r.Kind) = true := decide_eq_true hk
 simp only [this, Bool.true_or] at *
 exact g3
theorem Zp7 {r : Zd} {t : ByteArray} (h : Zct r) (hk : r.Kind = 1) (h1 : t.size ≤ 64) : Zct { r with Text := t } := by
 obtain ⟨g1, g2, g3, g4, g5, g6, g7⟩ := h
 refine ⟨g1, g2, ?_, h1, g5, g6, g7⟩
 unfold Zgy at *
 have : decide (r.Kind = 1) = true := decide_eq_true hk
 simp only [this, Bool.true_or, Bool.true_and] at *
 exact g3
theorem Zwq {r : Zd} {x : Nat} (h : Zct r) (hk : 5 ≤ r.Kind ∧ r.Kind ≤ 7) (h1 : x = Zb6 x) : Zct { r with Real := x } := by
 obtain ⟨g1, g2, g3, g4, g5, g6, g7⟩ := h
 refine ⟨g1, g2, ?_, g4, g5, h1, g7⟩
 unfold Zgy at *
 have : decide (5 ≤ r.Kind ∧ r.Kind ≤ 7) = true := decide_eq_true hk
 simp only [this, Bool.true_or] at *
 exact g3
variable {r r' : Zd} {a : Zs} {o : Zi}
theorem Zm4 {ψ : Nat → Nat → Option Nat} (hg : Zct r) (hk : 5 ≤ r.Kind ∧ r.Kind ≤ 7) (hψ : ∀ m, ψ r.Real a.X = some m → m = Zb6 m) (e : Zbd a.Kind r a default = Zei ψ r a default) (h1 : Zbd a.Kind r a default = some (0, r', o)) : Zct r' := by
 rw [e] at h1
 unfold Zei at h1
 obtain ⟨m, m1, m2⟩ := Option.bind_eq_some_iff.1 h1
 simp only [Option.some.injEq, Prod.mk.injEq] at m2
 obtain ⟨_, rfl, _⟩ := m2
 exact Zwq hg hk (hψ m m1)
theorem Z2u (h : a.Kind = 18) (hr : RecW r) (hg : Zct r) (hk : r.Kind = 8) (ha : ActW a) (h1 : Zbd a.Kind r a default = some (0, r', o)) : Zct r' := by
 have e : Zbd a.Kind r a default = Zkh r a default := by rw [h]; rfl
 obtain ⟨c1, c2, c3, c4, c5, _⟩ := Zxk hg (by omega)
 have hs := c5 hk
 have hl := hr.len
 have hple := Zn3 (fun e => sLt e.Name a.S) r.List
 rw [e] at h1
 unfold Zkh at h1
 rw [Znr hs (by omega), Zpb (by omega)] at h1
 simp only [Option.bind_some] at h1
 by_cases hat : isAt a.S r.List = true
 · rw [if_pos hat] at h1
   simp only [Option.some.injEq, Prod.mk.injEq, true_and] at h1
   rw [← h1.1]; exact hg
 · rw [if_neg hat] at h1
   by_cases hc : decide (r.Cap ≤ (r.List.length : Int)) = true
   · rw [if_pos hc] at h1; cases h1
   · rw [if_neg hc] at h1
     have hc' : ¬ r.Cap ≤ (r.List.length : Int) := by simpa using hc
     unfold Zb9 at h1
     rw [if_pos ⟨by omega, by omega, by simp, by simp; omega⟩] at h1
     simp only [Option.bind_some, Option.some.injEq, Prod.mk.injEq, true_and, Int.toNat_natCast] at h1
     obtain ⟨rfl, _⟩ := h1
     have hbehind : ∀ y ∈ r.List.drop (pre (fun e => sLt e.Name a.S) r.List), sLt a.S y.Name = true := fun y hy => by
       obtain ⟨k, hk, rfl⟩ := List.getElem_of_mem hy
       rw [List.length_drop] at hk
       rw [List.getElem_drop]
       have hm := Zs3 (s := a.S) hs (k := pre (fun e => sLt e.Name a.S) r.List + k) (by omega)
       rw [show decide (pre (fun e => sLt e.Name a.S) r.List + k < pre (fun e => sLt e.Name a.S) r.List) = false by simp] at hm
       refine Zlm hm fun hn => ?_
       have hany := Zsw (s := a.S) hs
       rw [show isAt a.S r.List = false by simpa using hat, List.any_eq_false] at hany
       exact hany _ (List.getElem_mem _) (Zde.2 hn)
     refine Znc hg (by omega) (by simp; omega) (fun e he => ?_) (fun _ => ?_) (fun h => by omega)
     · simp only [List.mem_append, List.mem_singleton] at he
       rcases he with (he | rfl) | he
       · exact c4 e (List.mem_of_mem_take he)
       · exact ⟨ha.s16 (by omega), fun _ => rfl, by kernel_rfl⟩
       · exact c4 e (List.mem_of_mem_drop he)
     · unfold NS at *
       rw [List.append_assoc, List.pairwise_append]
       refine ⟨hs.sublist (List.take_sublist _ _), ?_, fun x hx y hy => ?_⟩
       · rw [List.singleton_append, List.pairwise_cons]
         exact ⟨hbehind, hs.sublist (List.drop_sublist _ _)⟩
       · have hxa : sLt x.Name a.S = true := Zyk (f := fun e => sLt e.Name a.S) x hx
         rcases List.mem_append.1 hy with hy | hy
         · rw [List.mem_singleton.1 hy]; exact hxa
         · exact Zfi hxa (hbehind y hy)
theorem Z1k (h : a.Kind = 19) (hr : RecW r) (hg : Zct r) (hk : r.Kind = 8) (h1 : Zbd a.Kind r a default = some (0, r', o)) : Zct r' := by
 obtain ⟨c1, c2, c3, c4, c5, _⟩ := Zxk hg (by omega)
 have hl := hr.len
 obtain ⟨c, x, y, d1, d2, _⟩ := Zwa h hr hg hk
 rw [h1] at d1
 simp only [Option.some.injEq, Prod.mk.injEq] at d1
 obtain ⟨rfl, rfl, rfl⟩ := d1
 have e2 : Zbs r a = (Zeu r a (Int.toNat ((r.List.length : Int) - (0 : Int)) + 1) ([] : List Zj) (0 : Int)).bind fun z57 => match z57 with | y56 => (Z2 ({ r with List := y56 }) (ans 0)) := by unfold Zbs Zcn; rw [h]; rfl
 have hf := Zos (a := a) (a0 := r) (by omega) r.List.length 0 [] (by omega) (by simp)
 rw [show ((0 : Nat) : Int) = 0 from rfl] at hf
 rw [e2, show (Int.toNat ((r.List.length : Int) - (0 : Int)) + 1) = r.List.length + 1 by omega, hf, List.drop_zero, List.nil_append] at d2
 simp only [Option.bind_some, Z2, if_true, Option.some.injEq, Prod.mk.injEq] at d2
 obtain ⟨rfl, _⟩ := d2
 have hle := List.length_filter_le (fun e : Zj => !sEq e.Name a.S) r.List
 exact Znc hg (by omega) (by omega) (fun e he => c4 e (List.mem_filter.1 he).1) (fun _ => List.Pairwise.sublist List.filter_sublist (c5 hk)) (fun h => by omega)
theorem Z00 (h : a.Kind = 21) (hr : RecW r) (hg : Zct r) (hk : r.Kind = 9) (ha : ActW a) (h1 : Zbd a.Kind r a default = some (0, r', o)) : Zct r' := by
 have e : Zbd a.Kind r a default = Zjk r a default := by rw [h]; rfl
 obtain ⟨c1, c2, c3, c4, _, c6⟩ := Zxk hg (by omega)
 have hs := c6 hk
 have hl := hr.len
 have hple := Zn3 (Zdw { Score := a.X, Name := a.S } false) r.List
 rw [e] at h1
 unfold Zjk at h1
 rw [Zv8 ha.ok.2 hr.ok.sc (by omega), Zpb (by omega)] at h1
 simp only [Option.bind_some] at h1
 obtain ⟨e9, g9, h1⟩ := Option.bind_eq_some_iff.1 h1
 obtain ⟨r11, g11, h1⟩ := Option.bind_eq_some_iff.1 h1
 split at h1
 · simp only [Option.some.injEq, Prod.mk.injEq, true_and] at h1
   rw [← h1.1]; exact hg
 · rename_i hcond
   unfold Zb9 at h1
   rw [if_pos ⟨by omega, by omega, by simp, by simp; omega⟩] at h1
   simp only [Option.bind_some] at h1
   rw [Zym c1 c2] at h1
   simp only [Option.bind_some, Option.some.injEq, Prod.mk.injEq, true_and, Int.toNat_natCast] at h1
   obtain ⟨rfl, _⟩ := h1
   have hbehind : ∀ y ∈ r.List.drop (pre (Zdw { Score := a.X, Name := a.S } false) r.List), Zdf { Score := a.X, Name := a.S } y = true := fun y hy => by
     have hp : pre (Zdw { Score := a.X, Name := a.S } false) r.List < r.List.length := by
       have := List.length_pos_of_mem hy
       rw [List.length_drop] at this; omega
     have hd : decide (((pre (Zdw { Score := a.X, Name := a.S } false) r.List : Nat) : Int) < (r.List.length : Int)) = true := by simpa using hp
     rw [hd, Zdb hp] at g9
     simp only [gd_t, Option.some.injEq] at g9
     subst g9
     rw [hd] at g11 hcond
     simp only [gd_t] at g11
     rw [Zop ha.ok.2 (hr.ok.sc _ (List.getElem_mem hp))] at g11
     have hb : Zdf { Score := a.X, Name := a.S } r.List[pre (Zdw { Score := a.X, Name := a.S } false) r.List] = true := by
       have := Option.some.inj g11
       rw [← this] at hcond
       simpa using hcond
     rw [List.drop_eq_getElem_cons hp] at hy
     rcases List.mem_cons.1 hy with rfl | hy
     · exact hb
     · refine Zoi hb ?_
       have hpw : (r.List.drop (pre (Zdw { Score := a.X, Name := a.S } false) r.List)).Pairwise fun p q => Zdf p q = true := List.Pairwise.sublist (List.drop_sublist _ _) hs
       rw [List.drop_eq_getElem_cons hp, List.pairwise_cons] at hpw
       exact hpw.1 y hy
   refine Znc hg (by omega) (by rw [List.length_take]; omega) (fun e he => ?_) (fun h => by omega) (fun _ => ?_)
   · have he := List.mem_of_mem_take he
     simp only [List.mem_append, List.mem_singleton] at he
     rcases he with (he | rfl) | he
     · exact c4 e (List.mem_of_mem_take he)
     · exact ⟨ha.s16 (by omega), fun h => by omega, ha.xc⟩
     · exact c4 e (List.mem_of_mem_drop he)
   · refine List.Pairwise.sublist (List.take_sublist _ _) ?_
     rw [List.append_assoc, List.pairwise_append]
     refine ⟨List.Pairwise.sublist (List.take_sublist _ _) hs, ?_, fun x hx y hy => ?_⟩
     · rw [List.singleton_append, List.pairwise_cons]
       exact ⟨hbehind, List.Pairwise.sublist (List.drop_sublist _ _) hs⟩
     · have hxa : Zdf x { Score := a.X, Name := a.S } = true := Zyk (f := Zdw { Score := a.X, Name := a.S } false) x hx
       rcases List.mem_append.1 hy with hy | hy
       · rw [List.mem_singleton.1 hy]; exact hxa
       · exact Zoi hxa (hbehind y hy)
theorem Zhm {k on : Int} {c : Int} (h : Zk6 k = some on) (e : Zk6 k = some c) : on = c := Option.some.inj (h.symm.trans e)
theorem Zyx (h5 : 5 ≤ a.Kind) (h21 : a.Kind ≤ 21) (hon : Zk6 a.Kind = some r.Kind) (hr : RecW r) (hg : Zct r) (ha : ActW a) (h1 : Zbd a.Kind r a default = some (0, r', o)) : Zct r' := by
 have real : ∀ {m : Nat}, m = r.Real ∨ m = a.X → m = Zb6 m := fun {m} h => by
   rcases h with rfl | rfl
   · exact Zm8 hg
   · exact ha.xc
 have hk' : a.Kind = 5 ∨ a.Kind = 6 ∨ a.Kind = 7 ∨ a.Kind = 8 ∨ a.Kind = 9 ∨ a.Kind = 10 ∨ a.Kind = 11 ∨ a.Kind = 12 ∨ a.Kind = 13 ∨ a.Kind = 14 ∨ a.Kind = 15 ∨ a.Kind = 16 ∨ a.Kind = 17 ∨ a.Kind = 18 ∨ a.Kind = 19 ∨ a.Kind = 20 ∨ a.Kind = 21 := by omega
 rcases hk' with h | h | h | h | h | h | h | h | h | h | h | h | h | h | h | h | h
 · have e : Zbd a.Kind r a default = Zi6 r a default := by rw [h]; rfl
   rw [e] at h1
   simp only [Zi6, Option.some.injEq, Prod.mk.injEq, true_and] at h1
   rw [← h1.1]
   exact Zp7 hg (Zhm hon (by rw [h]; kernel_rfl)) ha.s64
 · have e : Zbd a.Kind r a default = Zgm r a default := by rw [h]; rfl
   rw [e] at h1
   simp only [Zgm, Zmv hr.len, Option.bind_some, Option.some.injEq, Prod.mk.injEq, true_and] at h1
   rw [← h1.1]
   exact Zp7 hg (Zhm hon (by rw [h]; kernel_rfl)) ha.s64
 · have e : Zbd a.Kind r a default = Zi7 r a default := by rw [h]; rfl
   rw [e] at h1
   simp only [Zi7, Option.some.injEq, Prod.mk.injEq, true_and] at h1
   rw [← h1.1]
   have hk : r.Kind = 2 := Zhm hon (by rw [h]; kernel_rfl)
   exact Zp4 hg (by omega) (fun h => by omega)
 · have e : Zbd a.Kind r a default = Zj8 r a default := by rw [h]; rfl
   rw [e] at h1
   unfold Zj8 at h1
   split at h1
   · cases h1
   · simp only [Option.some.injEq, Prod.mk.injEq, true_and] at h1
     rw [← h1.1]
     have hk : r.Kind = 3 := Zhm hon (by rw [h]; kernel_rfl)
     exact Zp4 hg (by omega) (fun h => by omega)
 · have e : Zbd a.Kind r a default = Zd4 r a default := by rw [h]; rfl
   rw [e] at h1
   unfold Zd4 at h1
   split at h1
   · cases h1
   · simp only [Option.some.injEq, Prod.mk.injEq, true_and] at h1
     rw [← h1.1]; exact hg
 · have e : Zbd a.Kind r a default = Zgw r a default := by rw [h]; rfl
   have hk : r.Kind = 4 := Zhm hon (by rw [h]; kernel_rfl)
   obtain ⟨p1, p2, p3, p4⟩ := Zwv hg hk
   obtain ⟨q1, q2⟩ := ha.inout (.inl h)
   rw [e] at h1
   unfold Zgw at h1
   rw [wr (x := r.High - r.Num) (by omega) (by omega), wr (x := r.Num + a.N) (by omega) (by omega)] at h1
   split at h1
   · cases h1
   · rename_i hcond
     have hcond' : ¬ (r.High - r.Num < a.N) := by simpa using hcond
     simp only [Option.some.injEq, Prod.mk.injEq, true_and] at h1
     rw [← h1.1]
     exact Zp4 hg (by omega) (fun _ => by omega)
 · have e : Zbd a.Kind r a default = Zgp r a default := by rw [h]; rfl
   have hk : r.Kind = 4 := Zhm hon (by rw [h]; kernel_rfl)
   obtain ⟨p1, p2, p3, p4⟩ := Zwv hg hk
   obtain ⟨q1, q2⟩ := ha.inout (.inr h)
   rw [e] at h1
   unfold Zgp at h1
   rw [wr (x := r.Num - r.Low) (by omega) (by omega), wr (x := r.Num - a.N) (by omega) (by omega)] at h1
   split at h1
   · cases h1
   · rename_i hcond
     have hcond' : ¬ (r.Num - r.Low < a.N) := by simpa using hcond
     simp only [Option.some.injEq, Prod.mk.injEq, true_and] at h1
     rw [← h1.1]
     exact Zp4 hg (by omega) (fun _ => by omega)
 · have e : Zbd a.Kind r a default = Zd4 r a default := by rw [h]; rfl
   rw [e] at h1
   unfold Zd4 at h1
   split at h1
   · cases h1
   · simp only [Option.some.injEq, Prod.mk.injEq, true_and] at h1
     rw [← h1.1]; exact hg
 · have hk : r.Kind = 5 := Zhm hon (by rw [h]; kernel_rfl)
   refine Zm4 (ψ := fun x y => Zkl x y) hg (by omega) (fun m hm => ?_) (by rw [h]; rfl) h1
   obtain ⟨m', e1, _, e2⟩ := Zyw hr.ok.real ha.ok.2 (Zm8 hg) ha.xc
   have : m = m' := Option.some.inj (hm.symm.trans e1)
   exact real (this ▸ e2)
 · have hk : r.Kind = 6 := Zhm hon (by rw [h]; kernel_rfl)
   refine Zm4 (ψ := fun x y => Zko x y) hg (by omega) (fun m hm => ?_) (by rw [h]; rfl) h1
   obtain ⟨m', e1, _, e2⟩ := Zxv hr.ok.real ha.ok.2 (Zm8 hg) ha.xc
   have : m = m' := Option.some.inj (hm.symm.trans e1)
   exact real (this ▸ e2)
 · have hk : r.Kind = 7 := Zhm hon (by rw [h]; kernel_rfl)
   refine Zm4 (ψ := fun x y => Zhz x y) hg (by omega) (fun m hm => ?_) (by rw [h]; rfl) h1
   have hz := Z0m r.Real a.X
   have : Zhz r.Real a.X = some (Zb6 (fadd r.Real a.X)) := by unfold Zhz; rw [Ziw hz]; rfl
   have : m = Zb6 (fadd r.Real a.X) := Option.some.inj (hm.symm.trans this)
   rw [this, Zsf]
 · have hk : r.Kind = 7 := Zhm hon (by rw [h]; kernel_rfl)
   refine Zm4 (ψ := fun x y => Zg6 x y) hg (by omega) (fun m hm => ?_) (by rw [h]; rfl) h1
   have hz := Zz1 r.Real a.X
   have : Zg6 r.Real a.X = some (Zb6 (fmul r.Real a.X)) := by unfold Zg6; rw [Ziw hz]; rfl
   have : m = Zb6 (fmul r.Real a.X) := Option.some.inj (hm.symm.trans this)
   rw [this, Zsf]
 · have hk : r.Kind = 7 := Zhm hon (by rw [h]; kernel_rfl)
   refine Zm4 (ψ := fun x y => Zgx x y) hg (by omega) (fun m hm => ?_) (by rw [h]; rfl) h1
   exact real (.inr (Option.some.inj hm).symm)
 · exact Z2u h hr hg (Zhm hon (by rw [h]; kernel_rfl)) ha h1
 · exact Z1k h hr hg (Zhm hon (by rw [h]; kernel_rfl)) h1
 · have hk : r.Kind = 8 := Zhm hon (by rw [h]; kernel_rfl)
   have e : Zbd a.Kind r a default = Zfc r a default := by rw [h]; rfl
   have hl := hr.len
   rw [e] at h1
   unfold Zfc at h1
   rw [Znr (Zlt hg hk) (by omega)] at h1
   simp only [Option.bind_some] at h1
   split at h1
   · cases h1
   · simp only [Option.some.injEq, Prod.mk.injEq, true_and] at h1
     rw [← h1.1]; exact hg
 · exact Z00 h hr hg (Zhm hon (by rw [h]; kernel_rfl)) ha h1
theorem Zti (hk : a.Kind = 9 ∨ a.Kind = 12 ∨ a.Kind = 20) (hr : RecW r) (hg : Zct r) (hon : Zk6 a.Kind = some r.Kind) (h1 : Zbd a.Kind r a default = some (0, r', o)) : r' = r := by
 rcases hk with h | h | h
 · have e : Zbd a.Kind r a default = Zd4 r a default := by rw [h]; rfl
   rw [e] at h1
   unfold Zd4 at h1
   split at h1
   · cases h1
   · simp only [Option.some.injEq, Prod.mk.injEq, true_and] at h1
     exact h1.1.symm
 · have e : Zbd a.Kind r a default = Zd4 r a default := by rw [h]; rfl
   rw [e] at h1
   unfold Zd4 at h1
   split at h1
   · cases h1
   · simp only [Option.some.injEq, Prod.mk.injEq, true_and] at h1
     exact h1.1.symm
 · have hk : r.Kind = 8 := Zhm hon (by rw [h]; kernel_rfl)
   have e : Zbd a.Kind r a default = Zfc r a default := by rw [h]; rfl
   have hl := hr.len
   rw [e] at h1
   unfold Zfc at h1
   rw [Znr (Zlt hg hk) (by omega)] at h1
   simp only [Option.bind_some] at h1
   split at h1
   · cases h1
   · simp only [Option.some.injEq, Prod.mk.injEq, true_and] at h1
     exact h1.1.symm
structure Z64 (t : Bool) (r : Zd) : Prop where
 w : RecW r
 good : t = true → Zct r
 zero : t = false → r = zrc
def Zho (k : Int) : Bool := (((((k == (3 : Int)) || (k == (4 : Int))) || (k == (9 : Int))) || (k == (12 : Int))) || (k == (20 : Int)))
abbrev KV := ByteArray × Zd
def toL : shelf_nodeT → List KV
 | .nil => []
 | .node k r l rr _ => toL l ++ (k, r) :: toL rr
def Szd : shelf_nodeT → Prop
 | .nil => True
 | .node k r l rr s => Szd l ∧ Szd rr ∧ s = (((toL l).length + (toL rr).length + 1 : Nat) : Int)
def Srt (l : List KV) : Prop := l.Pairwise fun p q => sLt p.1 q.1 = true
theorem Zhg {t : shelf_nodeT} (h : Szd t) : Zcl t = some ((toL t).length : Int) := by
 cases t with
 | nil => rfl
 | node k r l rr s =>
   obtain ⟨_, _, h3⟩ := h
   simp [Zcl, shelf_nodeT.isNil, shelf_nodeT.un, toL, h3]
   omega
theorem Z6h {k : ByteArray} {x : Zd} {l r : shelf_nodeT} (hl : Szd l) (hr : Szd r) (bl : (toL l).length < 1099511627776) (br : (toL r).length < 1099511627776) :
   Zds k x l r = some (.node k x l r (((toL l).length + (toL r).length + 1 : Nat) : Int)) := by
 unfold Zds
 rw [Zhg hl, Zhg hr]
 simp only [Option.bind_some, shelf_node.up]
 rw [wr (x := (toL l).length + (toL r).length) (by omega) (by omega), wr (by omega) (by omega)]
 rfl
theorem Zhu {k : ByteArray} {x : Zd} {l r : shelf_nodeT} (hl : Szd l) (hr : Szd r) (bl : (toL l).length < 1099511627776) (br : (toL r).length < 1099511627776) :
   ∃ t, Zds k x l r = some t ∧ Szd t ∧ toL t = toL l ++ (k, x) :: toL r := ⟨_, Z6h hl hr bl br, ⟨hl, hr, rfl⟩, rfl⟩
def Zm6 (a b : shelf_nodeT) : Bool := decide (3 * ((toL b).length + 1) < (toL a).length + 1)
theorem Zxf {a b : shelf_nodeT} (ha : Szd a) (hb : Szd b) (ba : (toL a).length < 1099511627776) (bb : (toL b).length < 1099511627776) : Zhr a b = some (Zm6 a b) := by
 unfold Zhr Zm6
 rw [Zhg ha, Zhg hb]
 simp only [Option.bind_some]
 rw [wr (x := ((toL b).length : Int) + 1) (by omega) (by omega), wr (x := ((toL a).length : Int) + 1) (by omega) (by omega), wr (by omega) (by omega)]
 congr 1
 apply decide_eq_decide.2
 omega
theorem Zt9 {t : shelf_nodeT} (h : 0 < (toL t).length) : ∃ k r l rr s, t = .node k r l rr s := by
 cases t with
 | nil => simp [toL] at h
 | node k r l rr s => exact ⟨k, r, l, rr, s, rfl⟩
theorem Zo1 {k : ByteArray} {x : Zd} {l r : shelf_nodeT} (hl : Szd l) (hr : Szd r) (bl : (toL l).length < 1099511627776) (br : (toL r).length < 1099511627776) (bs : (toL l).length + (toL r).length + 1 < 1099511627776) :
   ∃ t, Zhq k x l r = some t ∧ Szd t ∧ toL t = toL l ++ (k, x) :: toL r := by
 unfold Zhq
 rw [Zxf hr hl br bl, Zxf hl hr bl br]
 simp only [Option.bind_some]
 by_cases h1 : Zm6 r l = true
 · have hlen : 0 < (toL r).length := by
     unfold Zm6 at h1
     have := of_decide_eq_true h1
     omega
   obtain ⟨rk, rx, rl, rr, rs, rfl⟩ := Zt9 hlen
   obtain ⟨s1, s2, s3⟩ := hr
   have e : (toL (shelf_nodeT.node rk rx rl rr rs)).length = (toL rl).length + (toL rr).length + 1 := by simp [toL]; omega
   rw [e] at br bs
   simp only [h1, gd_t, shelf_nodeT.un, Option.bind_some, if_true]
   rw [Zhg s1, Zhg s2]
   simp only [Option.bind_some, Bool.true_and]
   by_cases h2 : (decide (IntKind.i64.wrap (((toL rl).length : Int) + 1) < IntKind.i64.wrap (2 * IntKind.i64.wrap (((toL rr).length : Int) + 1)))) = true
   · rw [if_pos h2]
     obtain ⟨t1, e1, z1, l1⟩ := Zhu (k := k) (x := x) hl s1 bl (by omega)
     have b1 : (toL t1).length < 1099511627776 := by rw [l1]; simp; omega
     obtain ⟨t2, e2, z2, l2⟩ := Zhu (k := rk) (x := rx) z1 s2 b1 (by omega)
     exact ⟨t2, by rw [e1]; simp only [Option.bind_some]; rw [e2]; rfl, z2, by rw [l2, l1]; simp [toL]⟩
   · rw [if_neg h2]
     have hlen2 : 0 < (toL rl).length := by
       rw [wr (x := ((toL rr).length : Int) + 1) (by omega) (by omega), wr (x := ((toL rl).length : Int) + 1) (by omega) (by omega), wr (by omega) (by omega)] at h2
       have : ¬ ((toL rl).length : Int) + 1 < 2 * ((toL rr).length + 1) := by simpa using h2
       omega
     obtain ⟨lk, lx, ll, lr, ls, rfl⟩ := Zt9 hlen2
     obtain ⟨q1, q2, q3⟩ := s1
     have e' : (toL (shelf_nodeT.node lk lx ll lr ls)).length = (toL ll).length + (toL lr).length + 1 := by simp [toL]; omega
     rw [e'] at br bs
     simp only [shelf_nodeT.un, Option.bind_some]
     obtain ⟨t1, e1, z1, l1⟩ := Zhu (k := k) (x := x) hl q1 bl (by omega)
     obtain ⟨t2, e2, z2, l2⟩ := Zhu (k := rk) (x := rx) q2 s2 (by omega) (by omega)
     have b1 : (toL t1).length < 1099511627776 := by rw [l1]; simp; omega
     have b2 : (toL t2).length < 1099511627776 := by rw [l2]; simp; omega
     obtain ⟨t3, e3, z3, l3⟩ := Zhu (k := lk) (x := lx) z1 z2 b1 b2
     exact ⟨t3, by rw [e1]; simp only [Option.bind_some]; rw [e2]; simp only [Option.bind_some]; rw [e3]; rfl, z3, by rw [l3, l1, l2]; simp [toL]⟩
 · have h1' : Zm6 r l = false := by simpa using h1
   simp only [h1', gd_f, Option.bind_some, Bool.false_and, Bool.false_eq_true, if_false]
   by_cases h3 : Zm6 l r = true
   · have hlen : 0 < (toL l).length := by
       unfold Zm6 at h3
       have := of_decide_eq_true h3
       omega
     obtain ⟨rk, rx, rl, rr, rs, rfl⟩ := Zt9 hlen
     obtain ⟨s1, s2, s3⟩ := hl
     have e : (toL (shelf_nodeT.node rk rx rl rr rs)).length = (toL rl).length + (toL rr).length + 1 := by simp [toL]; omega
     rw [e] at bl bs
     simp only [h3, gd_t, shelf_nodeT.un, Option.bind_some, if_true]
     rw [Zhg s2, Zhg s1]
     simp only [Zcl, shelf_nodeT.isNil, if_true, Option.bind_some, Bool.true_and]
     by_cases h2 : (decide (IntKind.i64.wrap (((toL rr).length : Int) + 1) < IntKind.i64.wrap (2 * IntKind.i64.wrap (((toL rl).length : Int) + 1)))) = true
     · rw [if_pos h2]
       obtain ⟨t1, e1, z1, l1⟩ := Zhu (k := k) (x := x) s2 hr (by omega) br
       have b1 : (toL t1).length < 1099511627776 := by rw [l1]; simp; omega
       obtain ⟨t2, e2, z2, l2⟩ := Zhu (k := rk) (x := rx) s1 z1 (by omega) b1
       exact ⟨t2, by rw [e1]; simp only [Option.bind_some]; rw [e2]; rfl, z2, by rw [l2, l1]; simp [toL]⟩
     · rw [if_neg h2]
       have hlen2 : 0 < (toL rr).length := by
         rw [wr (x := ((toL rl).length : Int) + 1) (by omega) (by omega), wr (x := ((toL rr).length : Int) + 1) (by omega) (by omega), wr (by omega) (by omega)] at h2
         have : ¬ ((toL rr).length : Int) + 1 < 2 * ((toL rl).length + 1) := by simpa using h2
         omega
       obtain ⟨lk, lx, ll, lr, ls, rfl⟩ := Zt9 hlen2
       obtain ⟨q1, q2, q3⟩ := s2
       have e' : (toL (shelf_nodeT.node lk lx ll lr ls)).length = (toL ll).length + (toL lr).length + 1 := by simp [toL]; omega
       rw [e'] at bl bs
       simp only [shelf_nodeT.un, Option.bind_some]
       obtain ⟨t1, e1, z1, l1⟩ := Zhu (k := rk) (x := rx) s1 q1 (by omega) (by omega)
       obtain ⟨t2, e2, z2, l2⟩ := Zhu (k := k) (x := x) q2 hr (by omega) br
       have b1 : (toL t1).length < 1099511627776 := by rw [l1]; simp; omega
       have b2 : (toL t2).length < 1099511627776 := by rw [l2]; simp; omega
       obtain ⟨t3, e3, z3, l3⟩ := Zhu (k := lk) (x := lx) z1 z2 b1 b2
       exact ⟨t3, by rw [e1]; simp only [Option.bind_some]; rw [e2]; simp only [Option.bind_some]; rw [e3]; rfl, z3, by rw [l3, l1, l2]; simp [toL]⟩
   · have h3' : Zm6 l r = false := by simpa using h3
     simp only [h3', gd_f, Option.bind_some, Bool.false_and, Bool.false_eq_true, if_false]
     obtain ⟨t1, e1, z1, l1⟩ := Zhu (k := k) (x := x) hl hr bl br
     exact ⟨t1, by rw [e1]; simp [Zcl, shelf_nodeT.isNil, shelf_nodeT.un, Option.bind_some, gd], z1, l1⟩
def insL (k : ByteArray) (x : Zd) : List KV → List KV
 | [] => [(k, x)]
 | p :: l => if sLt k p.1 then (k, x) :: p :: l else if sEq k p.1 then (k, x) :: l else p :: insL k x l
def delL (k : ByteArray) : List KV → List KV
 | [] => []
 | p :: l => if sEq k p.1 then l else p :: delL k l
theorem Znx (k : ByteArray) (x : Zd) : ∀ l : List KV, (insL k x l).length ≤ l.length + 1
 | [] => by simp [insL]
 | p :: l => by
   have := Znx k x l
   simp only [insL]
   split
   · simp
   · split <;> simp <;> omega
theorem Znz (k : ByteArray) : ∀ l : List KV, (delL k l).length ≤ l.length
 | [] => by simp [delL]
 | p :: l => by
   have := Znz k l
   simp only [delL]
   split <;> simp <;> omega
theorem Zzt {k : ByteArray} {x : Zd} {p : KV} {B : List KV} (h : sLt k p.1 = true) : ∀ A : List KV, insL k x (A ++ p :: B) = insL k x A ++ p :: B
 | [] => by simp [insL, h]
 | q :: A => by
   simp only [List.cons_append, insL]
   split
   · rfl
   · split
     · rfl
     · rw [Zzt h A]; rfl
theorem Zqk {k : ByteArray} {x : Zd} {B : List KV} : ∀ A : List KV, (∀ q ∈ A, sLt q.1 k = true) → insL k x (A ++ B) = A ++ insL k x B
 | [], _ => rfl
 | q :: A, h => by
   have hq := h q (by simp)
   have h1 : sLt k q.1 = false := Zss hq
   have h2 : sEq k q.1 = false := Zel.2 (fun e => Zlu hq e.symm)
   simp only [List.cons_append, insL, h1, h2, Bool.false_eq_true, if_false]
   rw [Zqk A fun q hq => h q (by simp [hq])]
theorem Z6u {k : ByteArray} {x : Zd} {p : KV} {B : List KV} (h : k = p.1) : insL k x (p :: B) = (k, x) :: B := by
 simp [insL, h, Zhd, Zc8]
theorem Z6s {k : ByteArray} {x : Zd} {p : KV} {B : List KV} (h : sLt p.1 k = true) : insL k x (p :: B) = p :: insL k x B := by
 have h1 : sLt k p.1 = false := Zss h
 have h2 : sEq k p.1 = false := Zel.2 (fun e => Zlu h e.symm)
 simp [insL, h1, h2]
theorem Zpj {k : ByteArray} : ∀ l : List KV, (∀ q ∈ l, q.1 ≠ k) → delL k l = l
 | [], _ => rfl
 | p :: l, h => by
   have : sEq k p.1 = false := Zel.2 (fun e => h p (by simp) e.symm)
   simp only [delL, this, Bool.false_eq_true, if_false]
   rw [Zpj l fun q hq => h q (by simp [hq])]
theorem Zz8 {k : ByteArray} {p : KV} {B : List KV} (h : sLt k p.1 = true) (hB : ∀ q ∈ B, sLt p.1 q.1 = true) : ∀ A : List KV, delL k (A ++ p :: B) = delL k A ++ p :: B
 | [] => by
   have h1 : sEq k p.1 = false := Zel.2 (Zlu h)
   simp only [List.nil_append, delL, h1, Bool.false_eq_true, if_false]
   rw [Zpj B fun q hq e => by
     have := Zfi h (hB q hq)
     rw [e, Zhd] at this; cases this]
 | q :: A => by
   simp only [List.cons_append, delL]
   split
   · rfl
   · rw [Zz8 h hB A]; rfl
theorem Zqv {k : ByteArray} {B : List KV} : ∀ A : List KV, (∀ q ∈ A, sLt q.1 k = true) → delL k (A ++ B) = A ++ delL k B
 | [], _ => rfl
 | q :: A, h => by
   have hq := h q (by simp)
   have h2 : sEq k q.1 = false := Zel.2 (fun e => Zlu hq e.symm)
   simp only [List.cons_append, delL, h2, Bool.false_eq_true, if_false]
   rw [Zqv A fun q hq => h q (by simp [hq])]
theorem Zux {A B : List KV} {p : KV} (h : Srt (A ++ p :: B)) : Srt A ∧ Srt B ∧ (∀ q ∈ A, sLt q.1 p.1 = true) ∧ (∀ q ∈ B, sLt p.1 q.1 = true) := by
 obtain ⟨h1, h2, h3⟩ := List.pairwise_append.1 h
 obtain ⟨h4, h5⟩ := List.pairwise_cons.1 h2
 exact ⟨h1, h5, fun q hq => h3 q hq p (by simp), h4⟩
theorem Zpc {k : ByteArray} {x : Zd} : ∀ {l : List KV} {q : KV}, q ∈ insL k x l → q = (k, x) ∨ q ∈ l
 | [], q, h => by simp [insL] at h; exact .inl h
 | p :: l, q, h => by
   simp only [insL] at h
   split at h
   · rcases List.mem_cons.1 h with h | h
     · exact .inl h
     · exact .inr h
   · split at h
     · rcases List.mem_cons.1 h with h | h
       · exact .inl h
       · exact .inr (List.mem_cons_of_mem _ h)
     · rcases List.mem_cons.1 h with h | h
       · exact .inr (by simp [h])
       · rcases Zpc h with h | h
         · exact .inl h
         · exact .inr (List.mem_cons_of_mem _ h)
theorem Znq {k : ByteArray} : ∀ {l : List KV} {q : KV}, q ∈ delL k l → q ∈ l
 | [], q, h => by simp [delL] at h
 | p :: l, q, h => by
   simp only [delL] at h
   split at h
   · exact List.mem_cons_of_mem _ h
   · rcases List.mem_cons.1 h with h | h
     · simp [h]
     · exact List.mem_cons_of_mem _ (Znq h)
theorem Zrr {k : ByteArray} {x : Zd} : ∀ {l : List KV}, Srt l → Srt (insL k x l)
 | [], _ => List.pairwise_singleton ..
 | p :: l, h => by
   obtain ⟨h1, h2⟩ := List.pairwise_cons.1 h
   simp only [insL]
   split
   · rename_i hk
     refine List.pairwise_cons.2 ⟨fun q hq => ?_, h⟩
     rcases List.mem_cons.1 hq with rfl | hq
     · exact hk
     · exact Zfi hk (h1 q hq)
   · rename_i hk
     split
     · rename_i he
       have he := Zde.1 he
       exact List.pairwise_cons.2 ⟨fun q hq => by rw [he]; exact h1 q hq, h2⟩
     · rename_i he
       have hlt : sLt p.1 k = true := Zlm (by simpa using hk) (fun e => he (Zde.2 e))
       refine List.pairwise_cons.2 ⟨fun q hq => ?_, Zrr h2⟩
       rcases Zpc hq with rfl | hq
       · exact hlt
       · exact h1 q hq
theorem Zri {k : ByteArray} : ∀ {l : List KV}, Srt l → Srt (delL k l)
 | [], h => h
 | p :: l, h => by
   obtain ⟨h1, h2⟩ := List.pairwise_cons.1 h
   simp only [delL]
   split
   · exact h2
   · exact List.pairwise_cons.2 ⟨fun q hq => h1 q (Znq hq), Zri h2⟩
theorem Zxx : ∀ (n : Nat) (t : shelf_nodeT) (k : ByteArray) (x : Zd), t.hh < n → Szd t → Srt (toL t) → (toL t).length + 2 < 1099511627776 →
   ∃ t', Ze7 n t k x = some t' ∧ Szd t' ∧ toL t' = insL k x (toL t)
 | 0, t, k, x, h, _, _, _ => by omega
 | n + 1, .nil, k, x, _, _, _, _ => by
   obtain ⟨t1, e1, z1, l1⟩ := Zhu (k := k) (x := x) (l := .nil) (r := .nil) trivial trivial (by simp [toL]) (by simp [toL])
   refine ⟨t1, ?_, z1, by rw [l1]; rfl⟩
   simp only [Ze7, Zhw, shelf_nodeT.isNil, if_true]
   rw [e1]; rfl
 | n + 1, .node nk nx l r s, k, x, hh, hz, hs, hb => by
   obtain ⟨z1, z2, z3⟩ := hz
   simp only [toL] at hs hb
   obtain ⟨s1, s2, sA, sB⟩ := Zux hs
   have hlen : (toL l ++ (nk, nx) :: toL r).length = (toL l).length + (toL r).length + 1 := by simp; omega
   rw [hlen] at hb
   simp only [shelf_nodeT.hh] at hh
   simp only [Ze7, Zhw, shelf_nodeT.isNil, shelf_nodeT.un, Bool.false_eq_true, if_false, Option.bind_some]
   by_cases h1 : sLt k nk = true
   · rw [if_pos h1]
     obtain ⟨t1, e1, y1, l1⟩ := Zxx n l k x (by omega) z1 s1 (by omega)
     have b1 := Znx k x (toL l)
     rw [← l1] at b1
     obtain ⟨t2, e2, y2, l2⟩ := Zo1 (k := nk) (x := nx) y1 z2 (by omega) (by omega) (by omega)
     refine ⟨t2, by rw [e1]; simp only [Option.bind_some]; rw [e2]; rfl, y2, ?_⟩
     rw [l2, l1]; simp only [toL]; rw [Zzt (by exact h1)]
   · rw [if_neg h1]
     by_cases h2 : k = nk
     · subst h2
       have he : (!(sLt k k || sEq k k)) = false := by simp [Zc8]
       rw [he]
       simp only [Bool.false_eq_true, if_false]
       obtain ⟨t1, e1, y1, l1⟩ := Zhu (k := k) (x := x) z1 z2 (by omega) (by omega)
       refine ⟨t1, by rw [e1]; rfl, y1, ?_⟩
       rw [l1]; simp only [toL]
       rw [Zqk _ (fun q hq => sA q hq), Z6u rfl]
     · have h3 : sLt nk k = true := Zlm (by simpa using h1) h2
       have he : (!(sLt k nk || sEq k nk)) = true := by simp [Zel.2 h2]; simpa using h1
       rw [he]
       simp only [if_true]
       obtain ⟨t1, e1, y1, l1⟩ := Zxx n r k x (by omega) z2 s2 (by omega)
       have b1 := Znx k x (toL r)
       rw [← l1] at b1
       obtain ⟨t2, e2, y2, l2⟩ := Zo1 (k := nk) (x := nx) z1 y1 (by omega) (by omega) (by omega)
       refine ⟨t2, by rw [e1]; simp only [Option.bind_some]; rw [e2]; rfl, y2, ?_⟩
       rw [l2, l1]; simp only [toL]
       rw [Zqk _ (fun q hq => Zfi (sA q hq) h3), Z6s h3]
theorem Zzu {t : shelf_nodeT} {k : ByteArray} {x : Zd} (hz : Szd t) (hs : Srt (toL t)) (hb : (toL t).length + 2 < 1099511627776) :
   ∃ t', Zml t k x = some t' ∧ Szd t' ∧ toL t' = insL k x (toL t) := Zxx _ t k x (Nat.lt_succ_self _) hz hs hb
theorem Zys : ∀ (n : Nat) (t : shelf_nodeT), t.hh < n → t.isNil = false → ∃ t' k x l r s B, Zex n t = some t' ∧ t' = .node k x l r s ∧ toL t = (k, x) :: B
 | 0, t, h, _ => by omega
 | n + 1, .nil, _, h => by cases h
 | n + 1, .node k x l r s, hh, _ => by
   simp only [shelf_nodeT.hh] at hh
   simp only [Zex, shelf_nodeT.un, Option.bind_some]
   cases l with
   | nil => exact ⟨_, k, x, .nil, r, s, toL r, rfl, rfl, rfl⟩
   | node k2 x2 l2 r2 s2 =>
     obtain ⟨t', k', x', l', r', s', B, e1, e2, e3⟩ := Zys n (.node k2 x2 l2 r2 s2) (by omega) rfl
     exact ⟨t', k', x', l', r', s', B ++ (k, x) :: toL r, by simp [shelf_nodeT.isNil]; exact e1, e2, by
       simp only [toL] at e3 ⊢
       rw [e3]; rfl⟩
theorem Ztt : ∀ (n : Nat) (t : shelf_nodeT) (k : ByteArray), t.hh < n → Szd t → Srt (toL t) → (toL t).length + 2 < 1099511627776 →
   ∃ t', Zfs n t k = some t' ∧ Szd t' ∧ toL t' = delL k (toL t)
 | 0, t, k, h, _, _, _ => by omega
 | n + 1, .nil, k, _, _, _, _ => ⟨.nil, rfl, trivial, rfl⟩
 | n + 1, .node nk nx l r s, k, hh, hz, hs, hb => by
   obtain ⟨z1, z2, z3⟩ := hz
   simp only [toL] at hs hb
   obtain ⟨s1, s2, sA, sB⟩ := Zux hs
   have hlen : (toL l ++ (nk, nx) :: toL r).length = (toL l).length + (toL r).length + 1 := by simp; omega
   rw [hlen] at hb
   simp only [shelf_nodeT.hh] at hh
   simp only [Zfs, Zjm, shelf_nodeT.isNil, shelf_nodeT.un, Bool.false_eq_true, if_false, Option.bind_some]
   by_cases h1 : sLt k nk = true
   · rw [if_pos h1]
     obtain ⟨t1, e1, y1, l1⟩ := Ztt n l k (by omega) z1 s1 (by omega)
     have b1 := Znz k (toL l)
     rw [← l1] at b1
     obtain ⟨t2, e2, y2, l2⟩ := Zo1 (k := nk) (x := nx) y1 z2 (by omega) (by omega) (by omega)
     refine ⟨t2, by rw [e1]; simp only [Option.bind_some]; rw [e2]; rfl, y2, ?_⟩
     rw [l2, l1]; simp only [toL]; rw [Zz8 (by exact h1) (fun q hq => sB q hq)]
   · rw [if_neg h1]
     by_cases h2 : k = nk
     · subst h2
       have he : (!(sLt k k || sEq k k)) = false := by simp [Zc8]
       rw [he]
       simp only [Bool.false_eq_true, if_false]
       have hdel : delL k (toL l ++ (k, nx) :: toL r) = toL l ++ toL r := by
         rw [Zqv _ (fun q hq => sA q hq)]
         simp [delL, Zc8]
       cases hl : l with
       | nil => exact ⟨r, by simp [shelf_nodeT.isNil, shelf_nodeT.un], z2, by show toL r = delL k (toL .nil ++ (k, nx) :: toL r); rw [← hl, hdel, hl]; rfl⟩
       | node k2 x2 l2 r2 q2 =>
         cases hr : r with
         | nil => exact ⟨l, by simp [shelf_nodeT.isNil, shelf_nodeT.un, hl], z1, by rw [← hl, ← hr]; show toL l = delL k (toL l ++ (k, nx) :: toL r); rw [hdel, hr]; simp [toL]⟩
         | node k3 x3 l3 r3 q3 =>
           rw [← hl, ← hr]
           have hn : r.isNil = false := by rw [hr]; rfl
           have hn1 : l.isNil = false := by rw [hl]; rfl
           obtain ⟨t', k', x', l', r', s', B, e1, e2, e3⟩ := Zys (r.hh + 1) r (Nat.lt_succ_self _) hn
           subst e2
           have hf : Zhy r = some (.node k' x' l' r' s') := by
             unfold Zhy; rw [e1]; rfl
           obtain ⟨t1, c1, y1, l1⟩ := Ztt n r k' (by omega) z2 s2 (by omega)
           have hB : toL t1 = B := by rw [l1, e3]; simp [delL, Zc8]
           have hBl : B.length + 1 = (toL r).length := by rw [e3]; simp
           obtain ⟨t2, c2, y2, l2⟩ := Zo1 (k := k') (x := x') z1 y1 (by omega) (by rw [hB]; omega) (by rw [hB]; omega)
           refine ⟨t2, ?_, y2, ?_⟩
           · simp only [hf, Option.bind_some, shelf_nodeT.un, c1, c2]
             show (if l.isNil = true then some r else if r.isNil = true then some l else some t2) = some t2
             rw [hn, hn1]; rfl
           · show toL t2 = delL k (toL l ++ (k, nx) :: toL r)
             rw [hdel, l2, hB, e3]
     · have h3 : sLt nk k = true := Zlm (by simpa using h1) h2
       have he : (!(sLt k nk || sEq k nk)) = true := by simp [Zel.2 h2]; simpa using h1
       rw [he]
       simp only [if_true]
       obtain ⟨t1, e1, y1, l1⟩ := Ztt n r k (by omega) z2 s2 (by omega)
       have b1 := Znz k (toL r)
       rw [← l1] at b1
       obtain ⟨t2, e2, y2, l2⟩ := Zo1 (k := nk) (x := nx) z1 y1 (by omega) (by omega) (by omega)
       refine ⟨t2, by rw [e1]; simp only [Option.bind_some]; rw [e2]; rfl, y2, ?_⟩
       rw [l2, l1]; simp only [toL]
       rw [Zqv _ (fun q hq => Zfi (sA q hq) h3)]
       simp [delL, Zel.2 h2]
theorem Zz5 {t : shelf_nodeT} {k : ByteArray} (hz : Szd t) (hs : Srt (toL t)) (hb : (toL t).length + 2 < 1099511627776) :
   ∃ t', Zmj t k = some t' ∧ Szd t' ∧ toL t' = delL k (toL t) := Ztt _ t k (Nat.lt_succ_self _) hz hs hb
def lk (k : ByteArray) : List KV → Option Zd
 | [] => none
 | p :: l => if sEq k p.1 then some p.2 else lk k l
def rk (k : ByteArray) : List KV → Nat
 | [] => 0
 | p :: l => if sLt p.1 k then rk k l + 1 else 0
theorem Zkg {k : ByteArray} : ∀ {l : List KV}, (∀ q ∈ l, q.1 ≠ k) → lk k l = none
 | [], _ => rfl
 | p :: l, h => by
   have : sEq k p.1 = false := Zel.2 (fun e => h p (by simp) e.symm)
   simp only [lk, this, Bool.false_eq_true, if_false]
   exact Zkg fun q hq => h q (by simp [hq])
theorem Z5d {k : ByteArray} {p : KV} {B : List KV} (h : sLt k p.1 = true) (hB : ∀ q ∈ B, sLt p.1 q.1 = true) : ∀ A : List KV, lk k (A ++ p :: B) = lk k A
 | [] => by
   have h1 : sEq k p.1 = false := Zel.2 (Zlu h)
   simp only [List.nil_append, lk, h1, Bool.false_eq_true, if_false]
   exact Zkg fun q hq e => by
     have := Zfi h (hB q hq)
     rw [e, Zhd] at this; cases this
 | q :: A => by
   simp only [List.cons_append, lk]
   split
   · rfl
   · exact Z5d h hB A
theorem Zu9 {k : ByteArray} {B : List KV} : ∀ A : List KV, (∀ q ∈ A, sLt q.1 k = true) → lk k (A ++ B) = lk k B
 | [], _ => rfl
 | q :: A, h => by
   have hq := h q (by simp)
   have h2 : sEq k q.1 = false := Zel.2 (fun e => Zlu hq e.symm)
   simp only [List.cons_append, lk, h2, Bool.false_eq_true, if_false]
   exact Zu9 A fun q hq => h q (by simp [hq])
theorem Ztv (k : ByteArray) : ∀ l : List KV, rk k l ≤ l.length
 | [] => by simp [rk]
 | p :: l => by
   have := Ztv k l
   simp only [rk]
   split <;> simp <;> omega
def Cl (x : Zd) : Prop := x.List.length ≤ 1000
theorem Zps {x : Zd} (h : Cl x) : Zd9 x = some x := by
 unfold Zd9 Zbo
 unfold Cl at h
 rw [if_pos (by omega)]
 rfl
abbrev zrec : Zd := { Kind := 0, Num := 0, Low := 0, High := 0, Real := 0, Cap := 0, Text := ByteArray.empty, List := [] }
def getR : Option Zd → Zd × Bool
 | some r => (r, true)
 | none => (zrec, false)
def getE (x : Zd) : Option Zd → (Zd × Bool) ⊕ Zd
 | some r => .inl (r, true)
 | none => .inr x
theorem Zsy (k : ByteArray) (x : Zd) : ∀ (n : Nat) (t : shelf_nodeT), t.hh < n → Srt (toL t) → (∀ q ∈ toL t, Cl q.2) → Zd2 k n x t = some (getE x (lk k (toL t)))
 | 0, t, h, _, _ => by omega
 | n + 1, .nil, _, _, _ => rfl
 | n + 1, .node nk nx l r s, hh, hs, hc => by
   simp only [toL] at hs hc
   obtain ⟨s1, s2, sA, sB⟩ := Zux hs
   simp only [shelf_nodeT.hh] at hh
   simp only [Zd2, shelf_nodeT.isNil, shelf_nodeT.un, Bool.not_false, if_true, Option.bind_some, Zg3, toL]
   by_cases h1 : sLt k nk = true
   · rw [if_pos h1, Zsy k x n l (by omega) s1 (fun q hq => hc q (by simp [hq])), Z5d (by exact h1) (fun q hq => sB q hq)]
   · rw [if_neg h1]
     by_cases h2 : k = nk
     · subst h2
       have he : (!(sLt k k || sEq k k)) = false := by simp [Zc8]
       rw [he]
       simp only [Bool.false_eq_true, if_false]
       rw [Zps (hc (k, nx) (by simp)), Zu9 _ (fun q hq => sA q hq)]
       simp [lk, Zc8, getE]
     · have h3 : sLt nk k = true := Zlm (by simpa using h1) h2
       have he : (!(sLt k nk || sEq k nk)) = true := by simp [Zel.2 h2]; simpa using h1
       rw [he]
       simp only [if_true]
       rw [Zsy k x n r (by omega) s2 (fun q hq => hc q (by simp [hq])), Zu9 _ (fun q hq => Zfi (sA q hq) h3)]
       simp [lk, Zel.2 h2]
theorem Z8b {s : Zl} {k : ByteArray} (hs : Srt (toL s.top)) (hc : ∀ q ∈ toL s.top, Cl q.2) : Zd1 s k = some (getR (lk k (toL s.top))) := by
 unfold Zd1
 rw [Zsy k _ _ _ (Nat.lt_succ_self _) hs hc]
 cases lk k (toL s.top) <;> rfl
def atE (x : Zd) : Option KV → (ByteArray × Zd × Bool) ⊕ Zd
 | some p => .inl (p.1, p.2, true)
 | none => .inr x
theorem Z1c {α : Type} {A B : List α} {i : Int} (h : i < A.length) : idx (A ++ B) i = idx A i := by
 unfold idx
 split
 · rw [List.getElem?_append_left (by omega)]
 · rfl
theorem Zzm {α : Type} {A B : List α} {p : α} : idx (A ++ p :: B) (A.length : Int) = some p := by
 rw [idxn]; simp
theorem Z08 {α : Type} {A B : List α} {p : α} {i : Int} (h : (A.length : Int) < i) : idx (A ++ p :: B) i = idx B (i - (A.length + 1)) := by
 unfold idx
 rw [if_pos (by omega), if_pos (by omega), List.getElem?_append_right (by omega)]
 rw [show i.toNat - A.length = (i - (A.length + 1)).toNat + 1 by omega, List.getElem?_cons_succ]
theorem Zu0 (x : Zd) : ∀ (n : Nat) (t : shelf_nodeT) (i : Int), t.hh < n → Szd t → (toL t).length + 2 < 1099511627776 → -1099511627776 < i → i < 1099511627776 → (∀ q ∈ toL t, Cl q.2) → Zdu n i x t = some (atE x (idx (toL t) i))
 | 0, t, i, h, _, _, _, _, _ => by omega
 | n + 1, .nil, i, _, _, _, _, _, _ => by
   simp only [Zdu, shelf_nodeT.isNil, toL]
   have hn : idx ([] : List KV) i = none := by
     unfold idx
     split <;> simp
   rw [hn]
   rfl
 | n + 1, .node nk nx l r s, i, hh, hz, hb, i1, i2, hc => by
   obtain ⟨z1, z2, z3⟩ := hz
   simp only [toL] at hb hc
   have hlen : (toL l ++ (nk, nx) :: toL r).length = (toL l).length + (toL r).length + 1 := by simp; omega
   rw [hlen] at hb
   simp only [shelf_nodeT.hh] at hh
   simp only [Zdu, shelf_nodeT.isNil, shelf_nodeT.un, Bool.not_false, if_true, Option.bind_some, Zhn, toL]
   rw [Zhg z1]
   simp only [Option.bind_some]
   by_cases h1 : i < (toL l).length
   · rw [if_pos (by simpa using h1), Zu0 x n l i (by omega) z1 (by omega) i1 i2 (fun q hq => hc q (by simp [hq])), Z1c h1]
   · rw [if_neg (by simpa using h1)]
     by_cases h2 : ((toL l).length : Int) < i
     · rw [if_pos (by simpa using h2), wr (x := ((toL l).length : Int) + 1) (by omega) (by omega), wr (by omega) (by omega), Zu0 x n r _ (by omega) z2 (by omega) (by omega) (by omega) (fun q hq => hc q (by simp [hq])), Z08 h2]
     · rw [if_neg (by simpa using h2), Zps (hc (nk, nx) (by simp))]
       have : i = (toL l).length := by omega
       subst this
       rw [Zzm]; rfl
def atR : Option KV → ByteArray × Zd × Bool
 | some p => (p.1, p.2, true)
 | none => (⟨#[]⟩, zrec, false)
theorem Z44 {s : Zl} {i : Int} (hz : Szd s.top) (hb : (toL s.top).length + 2 < 1099511627776) (i1 : -1099511627776 < i) (i2 : i < 1099511627776) (hc : ∀ q ∈ toL s.top, Cl q.2) : Zht s i = some (atR (idx (toL s.top) i)) := by
 unfold Zht
 rw [Zu0 _ _ _ _ (Nat.lt_succ_self _) hz hb i1 i2 hc]
 cases idx (toL s.top) i <;> rfl
theorem Zmx {k : ByteArray} (x : Zd) : ∀ {l : List KV}, Srt l →
   (∃ p, l[rk k l]? = some p ∧ p.1 = k ∧ lk k l = some p.2 ∧ insL k x l = l.take (rk k l) ++ (k, x) :: l.drop (rk k l + 1) ∧ delL k l = l.take (rk k l) ++ l.drop (rk k l + 1)) ∨
   ((∀ p, l[rk k l]? = some p → p.1 ≠ k) ∧ lk k l = none ∧ insL k x l = l.take (rk k l) ++ (k, x) :: l.drop (rk k l) ∧ delL k l = l)
 | [], _ => .inr ⟨fun p h => by simp at h, rfl, rfl, rfl⟩
 | p :: l, hs => by
   obtain ⟨h1, h2⟩ := List.pairwise_cons.1 hs
   by_cases h : sLt p.1 k = true
   · have e1 : sLt k p.1 = false := Zss h
     have e2 : sEq k p.1 = false := Zel.2 (fun e => Zlu h e.symm)
     simp only [rk, h, if_true, lk, insL, delL, e1, e2, Bool.false_eq_true, if_false, List.getElem?_cons_succ, List.take_succ_cons, List.drop_succ_cons]
     rcases Zmx x h2 with ⟨q, a1, a2, a3, a4, a5⟩ | ⟨a1, a2, a3, a4⟩
     · exact .inl ⟨q, a1, a2, a3, by rw [a4]; rfl, by rw [a5]; rfl⟩
     · exact .inr ⟨a1, a2, by rw [a3]; rfl, by rw [a4]⟩
   · have h' : sLt p.1 k = false := by simpa using h
     simp only [rk, h', Bool.false_eq_true, if_false]
     by_cases he : k = p.1
     · left
       exact ⟨p, rfl, he.symm, by simp [lk, he, Zc8], by simp [insL, he, Zhd, Zc8], by simp [delL, he, Zc8]⟩
     · right
       have hlt : sLt k p.1 = true := Zlm h' (fun e => he e.symm)
       have hne : ∀ q ∈ l, q.1 ≠ k := fun q hq e => by
         have := Zfi hlt (h1 q hq)
         rw [e, Zhd] at this; cases this
       refine ⟨fun q hq e => ?_, ?_, by simp [insL, hlt], ?_⟩
       · simp at hq; subst hq; exact he e.symm
       · simp only [lk, Zel.2 he, Bool.false_eq_true, if_false]; exact Zkg hne
       · simp only [delL, Zel.2 he, Bool.false_eq_true, if_false]; rw [Zpj l hne]
def kv (p : Z9) : KV := (p.Key, p.Rec)
def pl (t : Zo) : List KV := t.L.map kv
theorem Ztx (t : Zo) (i : Nat) : (pl t)[i]? = (t.L[i]?).map kv := by simp [pl]
theorem Ze5 (t : Zo) : (pl t).length = t.L.length := by simp [pl]
theorem Zvm {t : Zo} {k : ByteArray} (hb : t.L.length < 1099511627776) : ∀ (n i : Nat), i + n = t.L.length →
   Zc3 t k (n + 1) (i : Int) = some ((i + rk k ((pl t).drop i) : Nat) : Int)
 | 0, i, h => by
   have hd : decide ((i : Int) < (t.L.length : Int)) = false := by simp; omega
   rw [Zc3, hd, List.drop_of_length_le (by rw [Ze5]; omega)]
   simp [gd, rk]
 | n + 1, i, h => by
   have hd : decide ((i : Int) < (t.L.length : Int)) = true := by simp; omega
   have hi : i < t.L.length := by omega
   have hi' : i < (pl t).length := by rw [Ze5]; exact hi
   rw [Zc3, hd, Zdb hi, List.drop_eq_getElem_cons hi', wr1 (by omega)]
   have hg : (pl t)[i] = kv t.L[i] := by simp [pl]
   rw [hg]
   simp only [gd_t, Option.bind_some, Bool.true_and, rk]
   by_cases hk : sLt t.L[i].Key k = true
   · have hk' : sLt (kv t.L[i]).1 k = true := hk
     rw [if_pos hk, if_pos hk', Zvm hb n (i + 1) (by omega)]
     congr 2; omega
   · have hk' : ¬ sLt (kv t.L[i]).1 k = true := hk
     rw [if_neg hk, if_neg hk']; rfl
theorem Zxr {t : Zo} {k : ByteArray} (hb : t.L.length < 1099511627776) : Zet t k = some (rk k (pl t) : Int) := by
 unfold Zet
 have := Zvm (k := k) hb t.L.length 0 (by omega)
 rw [show ((0 : Nat) : Int) = 0 from rfl] at this
 rw [show (Int.toNat ((t.L.length : Int) - (0 : Int)) + 1) = t.L.length + 1 by omega, this]
 simp
structure Rel (s : Zl) (t : Zo) (n : Nat) : Prop where
 top : toL s.top = pl t
 sz : Szd s.top
 srt : Srt (pl t)
 len : t.L.length ≤ n
 room : s.room = t.Room
 ok : ∀ q ∈ pl t, Zhp q.2 ∧ q.2.List.length ≤ 100
theorem Rel.cl {s : Zl} {t : Zo} {n : Nat} (h : Rel s t n) : ∀ q ∈ toL s.top, Cl q.2 := fun q hq => by
 rw [h.top] at hq
 have := (h.ok q hq).2
 unfold Cl; omega
theorem Rel.mono {s : Zl} {t : Zo} {n m : Nat} (h : Rel s t n) (hm : n ≤ m) : Rel s t m := ⟨h.top, h.sz, h.srt, Nat.le_trans h.len hm, h.room, h.ok⟩
theorem Rel.tl {s : Zl} {t : Zo} {n : Nat} (h : Rel s t n) : (toL s.top).length = t.L.length := by rw [h.top, Ze5]
theorem Z6g (r : Int) : Rel { top := .nil, room := r } { L := [], Room := r } 0 := ⟨rfl, trivial, List.Pairwise.nil, Nat.le_refl _, rfl, fun q h => by simp [pl] at h⟩
theorem Zmk {s : Zl} {t : Zo} {n : Nat} (h : Rel s t n) (k : ByteArray) : Zd1 s k = some (getR (lk k (pl t))) := by
 rw [Z8b (by rw [h.top]; exact h.srt) h.cl, h.top]
theorem Z0g {s : Zl} {t : Zo} {n : Nat} (h : Rel s t n) : Zey s = some (t.L.length : Int) := by
 unfold Zey
 rw [Zhg h.sz, h.tl]; rfl
theorem Zs8 (t : Zo) (i : Nat) : (t.L.take i).map kv = (pl t).take i := by simp [pl]
theorem Zs2 (t : Zo) (i : Nat) : (t.L.drop i).map kv = (pl t).drop i := by simp [pl]
theorem Zw9 {s : Zl} {t : Zo} {n : Nat} (h : Rel s t n) (hn : n < 1000000) (k : ByteArray) : ∃ s' t' b, Zd0 s k = some (s', b) ∧ Zlj t k = some (t', b) ∧ Rel s' t' n ∧ (pl t' = pl t ∨ pl t' = delL k (pl t)) := by
 have hb := h.len
 have hle := Ztv k (pl t)
 rw [Ze5] at hle
 unfold Zd0 Zlj
 rw [Zmk h, Zxr (by omega)]
 simp only [Option.bind_some]
 rcases Zmx default h.srt with ⟨p, a1, a2, a3, _, a5⟩ | ⟨a1, a2, _, a4⟩
 · have hi : rk k (pl t) < t.L.length := by
     have := (List.getElem?_eq_some_iff.1 a1).1
     rwa [Ze5] at this
   rw [a3]
   have hd : decide ((t.L.length : Int) ≤ ((rk k (pl t) : Nat) : Int)) = false := by simp; omega
   have hg : (pl t)[rk k (pl t)]? = some (kv t.L[rk k (pl t)]) := by rw [Ztx, List.getElem?_eq_getElem hi]; rfl
   rw [hg] at a1
   obtain rfl := Option.some.inj a1
   have he : sEq (t.L[rk k (pl t)]).Key k = true := Zde.2 a2
   rw [hd, Zdb hi]
   obtain ⟨t1, c1, z1, l1⟩ := Zz5 (k := k) h.sz (by rw [h.top]; exact h.srt) (by rw [h.tl]; omega)
   rw [c1]
   simp only [getR, Bool.not_true, Bool.false_eq_true, if_false, Option.bind_some, Bool.not_false, gd_t, he, Bool.or_false, Bool.or_self]
   rw [show (0 : Int) = ((0 : Nat) : Int) from rfl, Zmm (by omega) (by omega), wr1 (by omega), Zmm (by omega) (by omega)]
   simp only [Option.bind_some, List.nil_append, List.drop_zero, Nat.sub_zero, List.length_nil, Nat.zero_add]
   have ht : (List.take (t.L.length - (rk k (pl t) + 1)) (List.drop (rk k (pl t) + 1) t.L)) = List.drop (rk k (pl t) + 1) t.L := List.take_of_length_le (by simp)
   rw [ht, if_pos (by simp; omega), if_pos (by simp; omega)]
   have hpl : pl { L := List.take (rk k (pl t)) t.L ++ List.drop (rk k (pl t) + 1) t.L, Room := t.Room } = delL k (pl t) := by
     rw [a5, ← Zs8, ← Zs2, ← List.map_append]; rfl
   refine ⟨_, _, true, rfl, rfl, ⟨?_, z1, ?_, ?_, h.room, ?_⟩, .inr hpl⟩
   · rw [hpl, l1, h.top]
   · rw [hpl]; exact Zri h.srt
   · simp; omega
   · intro q hq
     rw [hpl] at hq
     exact h.ok q (Znq hq)
 · rw [a2]
   simp only [getR, Bool.not_false, if_true]
   by_cases hi : rk k (pl t) < t.L.length
   · have hd : decide ((t.L.length : Int) ≤ ((rk k (pl t) : Nat) : Int)) = false := by simp; omega
     have hg : (pl t)[rk k (pl t)]? = some (kv t.L[rk k (pl t)]) := by rw [Ztx, List.getElem?_eq_getElem hi]; rfl
     have he : sEq (t.L[rk k (pl t)]).Key k = false := Zel.2 (a1 _ hg)
     rw [hd, Zdb hi]
     simp only [Bool.not_false, gd_t, Option.bind_some, he, Bool.false_or, if_true]
     exact ⟨s, t, false, rfl, rfl, h, .inl rfl⟩
   · have hd : decide ((t.L.length : Int) ≤ ((rk k (pl t) : Nat) : Int)) = true := by simp; omega
     rw [hd]
     simp only [Bool.not_true, gd_f, Option.bind_some, Bool.true_or, if_true]
     exact ⟨s, t, false, rfl, rfl, h, .inl rfl⟩
theorem Zvg (k : ByteArray) : sEq k (⟨#[]⟩ : ByteArray) = decide ((k.size : Int) < 1) := by
 by_cases h : k = ⟨#[]⟩
 · subst h; rw [Zc8]; decide
 · rw [Zel.2 h]
   have : k.size ≠ 0 := fun e => h (by
     apply ByteArray.ext
     exact Array.size_eq_zero_iff.1 e)
   simp; omega
theorem Zpt {s : Zl} {t : Zo} {n : Nat} (h : Rel s t n) (hn : n < 1000000) (k : ByteArray) {x : Zd} (hx : Zhp x) (hx2 : x.List.length ≤ 100) :
   ∃ s' t' c, Zc4 s k x = some (s', c) ∧ Zfx t k x = some (t', c) ∧ Rel s' t' (n + 1) ∧ (pl t' = pl t ∨ (pl t' = insL k x (pl t) ∧ Zd8 x = some 0 ∧ ¬ (k.size : Int) < 1 ∧ ¬ (24 : Int) < (k.size : Int))) := by
 have hb := h.len
 have hle := Ztv k (pl t)
 rw [Ze5] at hle
 obtain ⟨c, hc1, hc2⟩ := Znm hx
 unfold Zc4 Zfx
 rw [hc1, hc2, Zmk h, Zxr (by omega), Z0g h, Zps (by unfold Cl; omega), Zvg, h.room]
 by_cases h1 : (decide ((k.size : Int) < 1) || decide ((24 : Int) < (k.size : Int))) = true
 · rw [if_pos h1, if_pos h1]
   exact ⟨s, t, 1, rfl, rfl, h.mono (by omega), .inl rfl⟩
 · rw [if_neg h1, if_neg h1]
   simp only [Option.bind_some]
   by_cases h2 : (c != 0) = true
   · rw [if_pos h2, if_pos h2]
     exact ⟨s, t, c, rfl, rfl, h.mono (by omega), .inl rfl⟩
   · rw [if_neg h2, if_neg h2]
     obtain ⟨t1, e1, z1, l1⟩ := Zzu (k := k) (x := x) h.sz (by rw [h.top]; exact h.srt) (by rw [h.tl]; omega)
     rw [e1]
     have h20 : c = 0 := by simpa using h2
     have h11 : ¬ (k.size : Int) < 1 := fun h' => h1 (by simp [h'])
     have h12 : ¬ (24 : Int) < (k.size : Int) := fun h' => h1 (by simp [h'])
     have hmk : ∀ L' : List Z9, L'.map kv = insL k x (pl t) → Rel { top := t1, room := t.Room } { L := L', Room := t.Room } (n + 1) ∧ (pl { L := L', Room := t.Room } = pl t ∨ (pl { L := L', Room := t.Room } = insL k x (pl t) ∧ some c = some (0 : Int) ∧ ¬ (k.size : Int) < 1 ∧ ¬ (24 : Int) < (k.size : Int))) := fun L' hL => by
       have hpl : pl { L := L', Room := t.Room } = insL k x (pl t) := hL
       refine ⟨⟨by rw [hpl, l1, h.top], z1, by rw [hpl]; exact Zrr h.srt, ?_, rfl, ?_⟩, .inr ⟨hpl, by rw [h20], h11, h12⟩⟩
       · have := Znx k x (pl t)
         rw [← hL, Ze5] at this
         simp at this
         show L'.length ≤ n + 1
         omega
       · intro q hq
         rw [hpl] at hq
         rcases Zpc hq with rfl | hq
         · exact ⟨hx, hx2⟩
         · exact h.ok q hq
     rcases Zmx x h.srt with ⟨p, a1, a2, a3, a4, _⟩ | ⟨a1, a2, a3, _⟩
     · have hi : rk k (pl t) < t.L.length := by
         have := (List.getElem?_eq_some_iff.1 a1).1
         rwa [Ze5] at this
       have hd : decide (((rk k (pl t) : Nat) : Int) < (t.L.length : Int)) = true := by simp; omega
       have hg : (pl t)[rk k (pl t)]? = some (kv t.L[rk k (pl t)]) := by rw [Ztx, List.getElem?_eq_getElem hi]; rfl
       rw [hg] at a1
       obtain rfl := Option.some.inj a1
       have he : sEq (t.L[rk k (pl t)]).Key k = true := Zde.2 a2
       rw [a3, hd, Zdb hi]
       simp only [getR, Bool.not_true, Bool.false_and, Bool.false_eq_true, if_false, gd_f, gd_t, Option.bind_some, he, Bool.and_self, Bool.true_and, if_true]
       rw [show (0 : Int) = ((0 : Nat) : Int) from rfl, Zmm (by omega) (by omega), wr1 (by omega)]
       simp only [Option.bind_some, List.nil_append, List.drop_zero, Nat.sub_zero, List.length_nil, Nat.zero_add, Zeg]
       rw [if_pos (by simp; omega), if_pos (by simp; omega), Zmm (by omega) (by omega)]
       have ht : (List.take (t.L.length - (rk k (pl t) + 1)) (List.drop (rk k (pl t) + 1) t.L)) = List.drop (rk k (pl t) + 1) t.L := List.take_of_length_le (by simp)
       simp only [Option.bind_some, ht, List.nil_append]
       rw [if_pos (by simp; omega)]
       refine ⟨_, _, 0, rfl, rfl, hmk _ ?_⟩
       rw [a4]; simp [Zs8, Zs2, kv, pl]
     · rw [a2]
       simp only [getR, Bool.not_false, gd_t, Option.bind_some, Bool.true_and]
       have hne : (decide (((rk k (pl t) : Nat) : Int) < (t.L.length : Int)) && sEq (((gd (decide (((rk k (pl t) : Nat) : Int) < (t.L.length : Int))) (idx t.L ((rk k (pl t) : Nat) : Int))).getD default).Key) k) = false := by
         by_cases hi : rk k (pl t) < t.L.length
         · have hg : (pl t)[rk k (pl t)]? = some (kv t.L[rk k (pl t)]) := by rw [Ztx, List.getElem?_eq_getElem hi]; rfl
           have he : sEq (t.L[rk k (pl t)]).Key k = false := Zel.2 (a1 _ hg)
           have hd : decide (((rk k (pl t) : Nat) : Int) < (t.L.length : Int)) = true := by simp; omega
           rw [hd, Zdb hi]
           simp [gd, he]
         · have hd : decide (((rk k (pl t) : Nat) : Int) < (t.L.length : Int)) = false := by simp; omega
           rw [hd]; rfl
       have hex : ∃ e, gd (decide (((rk k (pl t) : Nat) : Int) < (t.L.length : Int))) (idx t.L ((rk k (pl t) : Nat) : Int)) = some e := by
         by_cases hi : rk k (pl t) < t.L.length
         · rw [Zdb hi]
           cases decide (((rk k (pl t) : Nat) : Int) < (t.L.length : Int)) <;> exact ⟨_, rfl⟩
         · have hd : decide (((rk k (pl t) : Nat) : Int) < (t.L.length : Int)) = false := by simp; omega
           rw [hd]; exact ⟨_, rfl⟩
       obtain ⟨e, hee⟩ := hex
       rw [hee] at hne ⊢
       simp only [Option.getD_some] at hne
       simp only [Option.bind_some, hne, Bool.not_false, Bool.true_and]
       by_cases h5 : decide (t.Room ≤ (t.L.length : Int)) = true
       · rw [if_pos h5, if_pos h5]
         exact ⟨s, t, 8, rfl, rfl, h.mono (by omega), .inl rfl⟩
       · rw [if_neg h5, if_neg h5]
         rw [show (0 : Int) = ((0 : Nat) : Int) from rfl, Zmm (by omega) (by omega)]
         simp only [Option.bind_some, List.nil_append, List.drop_zero, Nat.sub_zero, List.length_nil, Nat.zero_add, Zeg, Bool.false_eq_true, if_false]
         rw [if_pos (by simp; omega), if_pos (by simp; omega), Zmm (by omega) (by omega)]
         have ht : (List.take (t.L.length - rk k (pl t)) (List.drop (rk k (pl t)) t.L)) = List.drop (rk k (pl t)) t.L := List.take_of_length_le (by simp)
         simp only [Option.bind_some, ht, List.nil_append]
         rw [if_pos (by simp; omega)]
         refine ⟨_, _, 0, rfl, rfl, hmk _ ?_⟩
         rw [a3]; simp [Zs8, Zs2, kv, pl]
theorem Zx6 : ∀ l : List Zj, eqL l l = true
 | [] => rfl
 | x :: l => by simp [eqL, eqI, Zc8, Zx6 l]
theorem Z1m (a : Zd) : Zla a a = true := by simp [Zla, Zc8, Zx6]
theorem Ztb {k : ByteArray} {r : Zd} : ∀ {l : List KV}, lk k l = some r → (k, r) ∈ l
 | [], h => by cases h
 | p :: l, h => by
   simp only [lk] at h
   split at h
   · rename_i he
     obtain rfl := Option.some.inj h
     have := Zde.1 he
     subst this
     exact List.mem_cons_self ..
   · exact List.mem_cons_of_mem _ (Ztb h)
theorem Zpg {r : Zd} (h : Zct r) : r.List.length ≤ 32 := by
 by_cases hk : 8 ≤ r.Kind
 · have := h.2.2.2.2.2.2 hk
   omega
 · have h1 := h.2.2.1
   have h8 : decide (8 ≤ r.Kind) = false := by simpa using hk
   rw [h8] at h1
   simp only [Zgy, Bool.false_or, Bool.and_eq_true, beq_iff_eq] at h1
   have := h1.2.2
   omega
theorem Zq1 {s s' : Zl} {k : ByteArray} {x : Zd} {c : Int} (h : Zc4 s k x = some (s', c)) : s'.room = s.room := by
 unfold Zc4 at h
 split at h
 · cases h; rfl
 · obtain ⟨_, _, h⟩ := Option.bind_eq_some_iff.1 h
   split at h
   · cases h; rfl
   · obtain ⟨_, _, h⟩ := Option.bind_eq_some_iff.1 h
     obtain ⟨_, _, h⟩ := Option.bind_eq_some_iff.1 h
     split at h
     · cases h; rfl
     · obtain ⟨_, _, h⟩ := Option.bind_eq_some_iff.1 h
       obtain ⟨_, _, h⟩ := Option.bind_eq_some_iff.1 h
       cases h; rfl
theorem Zv7 {s s' : Zl} {k : ByteArray} {b : Bool} (h : Zd0 s k = some (s', b)) : s'.room = s.room := by
 unfold Zd0 at h
 obtain ⟨_, _, h⟩ := Option.bind_eq_some_iff.1 h
 split at h
 · cases h; rfl
 · obtain ⟨_, _, h⟩ := Option.bind_eq_some_iff.1 h
   cases h; rfl
theorem Zpp {s s' : Zl} {t : Zo} {n : Nat} (h : Rel s t n) (hn : n < 1000000) {k : ByteArray} {x : Zd} {c : Int} (e : Zc4 s k x = some (s', c)) (hc : Zd8 x = some 0) (hx : x.List.length ≤ 100) (hk : sEq k ⟨#[]⟩ = false) (hk2 : k.size ≤ 24) :
   (((lk k (pl t)).isSome = true ∨ (t.L.length : Int) < t.Room) → c = 0 ∧ toL s'.top = insL k x (pl t)) ∧ ((lk k (pl t)).isNone = true → t.Room ≤ (t.L.length : Int) → c = 8 ∧ s' = s) := by
 have hb := h.len
 obtain ⟨t1, q1, _, q3⟩ := Zzu (k := k) (x := x) h.sz (by rw [h.top]; exact h.srt) (by rw [h.tl]; omega)
 unfold Zc4 at e
 rw [hk, hc, Zmk h, Z0g h, Zps (by unfold Cl; omega)] at e
 have hd : decide ((24 : Int) < (k.size : Int)) = false := by simp; omega
 rw [hd] at e
 simp only [Bool.or_self, Bool.false_eq_true, if_false, Option.bind_some, bne_self_eq_false] at e
 cases hl : lk k (pl t) with
 | none =>
   rw [hl] at e
   simp only [getR, Bool.not_false, gd_t, Option.bind_some, Bool.true_and, h.room] at e
   by_cases hr : t.Room ≤ (t.L.length : Int)
   · rw [if_pos (by simpa using hr)] at e
     cases e
     refine ⟨fun h => ?_, fun _ _ => ⟨rfl, rfl⟩⟩
     rcases h with h | h
     · cases h
     · omega
   · rw [if_neg (by simpa using hr), q1] at e
     cases e
     exact ⟨fun _ => ⟨rfl, by rw [← h.top]; exact q3⟩, fun _ h => absurd h hr⟩
 | some r =>
   rw [hl] at e
   simp only [getR, Bool.not_true, gd_f, Option.bind_some, Bool.false_and, Bool.false_eq_true, if_false] at e
   rw [q1] at e
   cases e
   exact ⟨fun _ => ⟨rfl, by rw [← h.top]; exact q3⟩, fun h => by cases h⟩
structure FR (s : Zl) (t : Zo) (n : Nat) : Prop where
 rel : Rel s t n
 good : ∀ q ∈ pl t, RecW q.2 ∧ Zct q.2
 fit : (t.L.length : Int) ≤ t.Room
theorem Z4t {k : ByteArray} {x r : Zd} {l : List KV} (hs : Srt l) (h : lk k l = some r) : (insL k x l).length = l.length := by
 rcases Zmx x hs with ⟨p, a1, a2, a3, a4, _⟩ | ⟨_, a2, _⟩
 · rw [a4]
   have := (List.getElem?_eq_some_iff.1 a1).1
   simp; omega
 · rw [h] at a2; cases a2
theorem FR.mono {s : Zl} {t : Zo} {n m : Nat} (h : FR s t n) (hm : n ≤ m) : FR s t m := ⟨h.rel.mono hm, h.good, h.fit⟩
theorem Z8d {s : Zl} {t t' : Zo} {n : Nat} (h : Rel s t n) (hp : pl t' = pl t) (hr : t'.Room = t.Room) : Rel s t' n :=
 ⟨h.top.trans hp.symm, h.sz, by rw [hp]; exact h.srt, by rw [← Ze5, hp, Ze5]; exact h.len, h.room.trans hr.symm, by rw [hp]; exact h.ok⟩
theorem Z7f {s : Zl} {t t' : Zo} {n : Nat} (h : FR s t n) (hp : pl t' = pl t) (hr : t'.Room = t.Room) : FR s t' n :=
 ⟨Z8d h.rel hp hr, by rw [hp]; exact h.good, by rw [hr, ← Ze5, hp, Ze5]; exact h.fit⟩
theorem Zxa {s s' : Zl} {t t' : Zo} {n m : Nat} {k : ByteArray} {x : Zd} (h : FR s t n) (hr : Rel s' t' m) (hw : RecW x) (hg : Zct x) (ho : (lk k (pl t)).isSome = true ∨ (t.L.length : Int) < t.Room) (hp : pl t' = insL k x (pl t)) (hro : t'.Room = t.Room) : FR s' t' m := ⟨hr, fun q hq => by
 rw [hp] at hq
 rcases Zpc hq with rfl | hq
 · exact ⟨hw, hg⟩
 · exact h.good q hq, by
 have hf := h.fit
 rw [hro, ← Ze5, hp]
 have hl := Znx k x (pl t)
 rw [Ze5] at hl
 rcases ho with ho | ho
 · obtain ⟨r, hr⟩ := Option.isSome_iff_exists.1 ho
   rw [Z4t h.rel.srt hr, Ze5]; exact hf
 · omega⟩
theorem Z3n {a : Zs} (ha : ActIn a) (h : Zfz a = some 0) : sEq a.Key ⟨#[]⟩ = false ∧ a.Key.size ≤ 24 := by
 obtain ⟨c, h1, _, h3⟩ := Zre ha.ok
 rw [h] at h1
 obtain rfl := Option.some.inj h1
 exact ⟨(h3 rfl).2.2.2.2.2.2.2.1, (h3 rfl).2.2.2.2.2.2.2.2⟩
theorem Zt6 (k k' : ByteArray) (x : Zd) : ∀ l : List KV, lk k (insL k' x l) = if sEq k k' = true then some x else lk k l
 | [] => rfl
 | p :: l => by
   simp only [insL]
   by_cases h1 : sLt k' p.1 = true
   · rw [if_pos h1]; simp only [lk]
   · rw [if_neg h1]
     by_cases h2 : sEq k' p.1 = true
     · rw [if_pos h2]
       have e := Zde.1 h2
       simp only [lk, ← e]
       by_cases h3 : sEq k k' = true
       · rw [if_pos h3, if_pos h3]
       · rw [if_neg h3, if_neg h3, if_neg h3]
     · rw [if_neg h2]
       simp only [lk, Zt6 k k' x l]
       by_cases h3 : sEq k p.1 = true
       · have h4 : ¬ sEq k k' = true := fun h => h2 (by rw [← Zde.1 h]; exact h3)
         rw [if_pos h3, if_neg h4, if_pos h3]
       · rw [if_neg h3, if_neg h3]
theorem Zqq (k k' : ByteArray) : ∀ {l : List KV}, Srt l → lk k (delL k' l) = if sEq k k' = true then none else lk k l
 | [], _ => by simp [delL, lk]
 | p :: l, hs => by
   obtain ⟨h1, h2⟩ := List.pairwise_cons.1 hs
   simp only [delL]
   by_cases h : sEq k' p.1 = true
   · rw [if_pos h]
     have e := Zde.1 h
     by_cases h3 : sEq k k' = true
     · rw [if_pos h3]
       refine Zkg fun q hq e2 => ?_
       have := h1 q hq
       rw [e2, Zde.1 h3, e, Zhd] at this; cases this
     · rw [if_neg h3]
       simp only [lk, ← e]
       rw [if_neg h3]
   · rw [if_neg h]
     simp only [lk, Zqq k k' h2]
     by_cases h3 : sEq k p.1 = true
     · have h4 : ¬ sEq k k' = true := fun h5 => h (by rw [← Zde.1 h5]; exact h3)
       rw [if_pos h3, if_neg h4, if_pos h3]
     · rw [if_neg h3, if_neg h3]
theorem Zrh : ∀ {A B : List KV}, Srt A → Srt B → (∀ k, lk k A = lk k B) → A = B
 | [], [], _, _, _ => rfl
 | [], q :: B, _, _, h => by have := h q.1; simp [lk, Zc8] at this
 | p :: A, [], _, _, h => by have := h p.1; simp [lk, Zc8] at this
 | p :: A, q :: B, hA, hB, h => by
   obtain ⟨a1, a2⟩ := List.pairwise_cons.1 hA
   obtain ⟨b1, b2⟩ := List.pairwise_cons.1 hB
   have far : ∀ {k : ByteArray} {z : KV} {Z : List KV}, (∀ q ∈ Z, sLt z.1 q.1 = true) → sLt k z.1 = true → lk k (z :: Z) = none := fun {k z Z} hz hk => by
     refine Zkg fun q hq e => ?_
     rcases List.mem_cons.1 hq with rfl | hq
     · rw [e, Zhd] at hk; cases hk
     · have := Zfi hk (hz q hq)
       rw [e, Zhd] at this; cases this
   have hp := h p.1
   have hq := h q.1
   have e : p.1 = q.1 := Classical.byContradiction fun hn => by
     cases hlt : sLt p.1 q.1
     · have := far a1 (Zlm hlt hn)
       rw [this] at hq
       simp [lk, Zc8] at hq
     · have := far b1 hlt
       rw [this] at hp
       simp [lk, Zc8] at hp
   have e2 : p.2 = q.2 := by
     simp only [lk, e, Zc8, if_true] at hp
     exact Option.some.inj hp
   have e3 : A = B := Zrh a2 b2 fun k => by
     by_cases hk : sEq k p.1 = true
     · have ek := Zde.1 hk
       have n1 : lk k A = none := Zkg fun z hz e4 => by
         have := a1 z hz
         rw [e4, ek, Zhd] at this; cases this
       have n2 : lk k B = none := Zkg fun z hz e4 => by
         have := b1 z hz
         rw [e4, ek, e, Zhd] at this; cases this
       rw [n1, n2]
     · have := h k
       simp only [lk] at this
       rw [if_neg hk, if_neg (by rw [← e]; exact hk)] at this
       exact this
   obtain ⟨p1, p2⟩ := p
   obtain ⟨q1, q2⟩ := q
   have e : p1 = q1 := e
   have e2 : p2 = q2 := e2
   rw [e, e2, e3]
def upd (k : ByteArray) (o : Option Zd) (l : List KV) : List KV := match o with
 | some x => insL k x l
 | none => delL k l
theorem Zzx {k : ByteArray} {o : Option Zd} {l : List KV} (h : Srt l) : Srt (upd k o l) := by
 cases o with
 | none => exact Zri h
 | some x => exact Zrr h
theorem Z3j {k k' : ByteArray} {o : Option Zd} {l : List KV} (h : Srt l) : lk k (upd k' o l) = if sEq k k' = true then o else lk k l := by
 cases o with
 | none => exact Zqq k k' h
 | some x => exact Zt6 k k' x l
theorem Z4j {k : ByteArray} {l : List KV} (h : Srt l) : upd k (lk k l) l = l := Zrh (Zzx h) h fun z => by
 rw [Z3j h]
 split
 · rename_i he; rw [Zde.1 he]
 · rfl
theorem Z6p {k : ByteArray} {o : Option Zd} {l : List KV} {q : KV} (h : q ∈ upd k o l) : q ∈ l ∨ ∃ x, o = some x ∧ q = (k, x) := by
 cases o with
 | none => exact .inl (Znq h)
 | some x =>
   rcases Zpc h with rfl | h
   · exact .inr ⟨x, rfl, rfl⟩
   · exact .inl h
def ap (o : Option Zd) (a : Zs) : Option (Option Zd × Zi) := (Zig (getR o).1 (getR o).2 a).bind fun z => some (if z.2.2.Code = 0 then (if z.2.1 = true then some z.1 else none) else o, z.2.2)
def OkO (o : Option Zd) : Prop := ∀ r, o = some r → RecW r ∧ Zct r
theorem Z7l {a : Zs} (ha : ActIn a) (hk : a.Kind ≠ 1) : ∃ x, ap none a = some (none, x) ∧ RecW x.Rec := by
 obtain ⟨z, e, hs⟩ := Zk5 (there := false) Zdk ha
 have e : Zig zrec false a = some z := e
 simp only [ap, getR, e, Option.bind_some]
 rcases hs with ⟨c, hc, rfl⟩ | ⟨h1, h2, h3, ⟨k, k2, k3, rfl⟩ | ⟨k, k2, rfl⟩ | ⟨k, rfl⟩ | ⟨k, k2, rfl⟩ | ⟨k, k2, k3, k4, r', o, q1, q2, q3, q4, q5, rfl⟩⟩
 · exact ⟨ans c, by simp [hc], Zdk⟩
 · exact absurd k hk
 · cases k2
 · exact ⟨_, rfl, Zdk⟩
 · cases k2
 · cases k3
theorem Zov {d : Zbg} (hd : ∀ a ∈ d.Acts, ActIn a) (hl : d.Acts.length ≤ 12) : ∀ (n i : Nat), i + n = d.Acts.length →
   ∃ z, Ze8 d (n + 1) (i : Int) = some z ∧ Zf6 d (n + 1) (i : Int) = some z ∧ (z = .inr () ∨ ∃ c at_, z = .inl (c, at_) ∧ c ≠ 0)
 | 0, i, h => by
   rw [Ze8, Zf6, if_neg (by simp; omega), if_neg (by simp; omega)]
   exact ⟨_, rfl, rfl, .inl rfl⟩
 | n + 1, i, h => by
   have h1 : i < d.Acts.length := by omega
   obtain ⟨c, e1, e2, _⟩ := Zre (hd _ (List.getElem_mem h1)).ok
   rw [Ze8, Zf6, if_pos (by simp; omega), if_pos (by simp; omega), Zdb h1, wr1 (by omega)]
   simp only [Option.bind_some]
   rw [e1, e2]
   simp only [Option.bind_some]
   by_cases hc : (c != 0) = true
   · rw [if_pos hc, if_pos hc]
     exact ⟨_, rfl, rfl, .inr ⟨_, _, rfl, by simpa using hc⟩⟩
   · rw [if_neg hc, if_neg hc]
     exact Zov hd hl n (i + 1) (by omega)
theorem Zsm {d : Zbg} (hd : ∀ a ∈ d.Acts, ActIn a) : ∃ c at_, Zfr d = some (c, at_) ∧ Zng d = some (c, at_) ∧ (c = 0 → 1 ≤ d.Acts.length ∧ d.Acts.length ≤ 12) := by
 unfold Zfr Zng
 by_cases h : d.Acts.length < 1 ∨ 12 < d.Acts.length
 · rw [if_pos (by rw [Bool.or_eq_true, beq_iff_eq, decide_eq_true_eq]; omega), if_pos (by rw [Bool.or_eq_true, decide_eq_true_eq, decide_eq_true_eq]; omega)]
   exact ⟨_, _, rfl, rfl, fun h => by cases h⟩
 · rw [if_neg (by rw [Bool.or_eq_true, beq_iff_eq, decide_eq_true_eq]; omega), if_neg (by rw [Bool.or_eq_true, decide_eq_true_eq, decide_eq_true_eq]; omega)]
   obtain ⟨z, e1, e2, hz⟩ := Zov hd (by omega) d.Acts.length 0 (by omega)
   rw [show ((0 : Nat) : Int) = 0 from rfl] at e1 e2
   rw [show (Int.toNat ((d.Acts.length : Int) - (0 : Int)) + 1) = d.Acts.length + 1 by omega, e1, e2]
   rcases hz with rfl | ⟨c, at_, rfl, hc⟩
   · exact ⟨_, _, rfl, rfl, fun _ => by omega⟩
   · exact ⟨_, _, rfl, rfl, fun h => absurd h hc⟩
def Zol (L : List Zi) : Prop := ∀ a ∈ L, RecW a.Rec
theorem Z0y {L : List Zi} {a : Zi} (h : Zol L) (ha : RecW a.Rec) : Zol (L ++ [a]) := fun b hb => by
 rcases List.mem_append.1 hb with hb | hb
 · exact h b hb
 · rw [List.mem_singleton.1 hb]; exact ha
def Z8q (R : Z6) : Prop := R.Answers.length ≤ 12 ∧ Zol R.Answers
theorem Zvi {d : Zbg} (hl : d.Acts.length ≤ 40) (hw : ∀ a ∈ d.Acts, Zkn a) : ∀ (n i : Nat), i + n = d.Acts.length → Zd5 d (n + 1) (i : Int) = some (.inl 1) ∨ (Zd5 d (n + 1) (i : Int) = some (.inr ()) ∧ ∀ a ∈ d.Acts.drop i, a.Make.List.length ≤ 100)
 | 0, i, h => by
   right
   rw [Zd5, if_neg (by simp; omega), List.drop_of_length_le (by omega)]
   exact ⟨rfl, fun o ho => by cases ho⟩
 | n + 1, i, h => by
   have h1 : i < d.Acts.length := by omega
   obtain ⟨c, e1, e2, e3⟩ := Zbaz (hw _ (List.getElem_mem h1))
   rw [Zd5, if_pos (by simp; omega), Zdb h1, wr1 (by omega)]
   simp only [Option.bind_some]
   rw [e1]
   rcases e2 with rfl | rfl
   · simp only [Int.lt_irrefl, decide_false, Bool.false_eq_true, if_false, Option.bind_some]
     rcases Zvi hl hw n (i + 1) (by omega) with h2 | ⟨h2, h3⟩
     · exact .inl h2
     · right
       refine ⟨h2, fun o ho => ?_⟩
       rw [List.drop_eq_getElem_cons h1] at ho
       rcases List.mem_cons.1 ho with rfl | ho
       · exact e3 rfl
       · exact h3 o ho
   · left; rfl
theorem big8 {d : Zbg} (hw : Zot d) : ∃ c, Ziq d = some c ∧ (c = 0 ∨ c = 1) ∧ (c = 0 → d.Acts.length ≤ 40 ∧ ∀ a ∈ d.Acts, ActIn a) := by
 unfold Ziq
 by_cases h : 40 < d.Acts.length
 · rw [if_pos (by simp; omega)]; exact ⟨1, rfl, .inr rfl, fun h => by cases h⟩
 · rw [if_neg (by simp; omega), show (Int.toNat ((d.Acts.length : Int) - (0 : Int)) + 1) = d.Acts.length + 1 by omega]
   have := Zvi (d := d) (by omega) hw.2 d.Acts.length 0 (by omega)
   rw [show ((0 : Nat) : Int) = 0 from rfl] at this
   rcases this with h1 | ⟨h1, h2⟩
   · rw [h1]; exact ⟨1, rfl, .inr rfl, fun h => by cases h⟩
   · rw [h1]; exact ⟨0, rfl, .inl rfl, fun _ => ⟨by omega, fun a ha => Z4u (hw.2 a ha) (h2 a ha)⟩⟩
theorem Zt8 {l : List Z9} (hl : l.length ≤ 60) (hw : ∀ p ∈ l, Zgi p) {z : Zl} {r : Int} : ∀ (n i : Nat) {s : Zl} {t : Zo}, i + n = l.length → FR s t i → t.Room = r →
   (∃ s', Zdo l (n + 1) z s t (i : Int) = some (.inl (s', none))) ∨ (∃ s' t', Zdo l (n + 1) z s t (i : Int) = some (.inr (z, s', t')) ∧ FR s' t' 60 ∧ t'.Room = r)
 | 0, i, s, t, h, hf, hr => by
   right
   rw [Zdo, if_neg (by simp; omega)]
   exact ⟨s, t, rfl, hf.mono (by omega), hr⟩
 | n + 1, i, s, t, h, hf, hr => by
   have h1 : i < l.length := by omega
   have hm := hw _ (List.getElem_mem h1)
   obtain ⟨c, e1, e2, e3⟩ := Z5j (Zzy hm.2)
   rw [Zdo, if_pos (by simp; omega), Zdb h1, wr1 (by omega)]
   simp only [Option.bind_some]
   rw [e1]
   by_cases hk : decide ((100 : Int) < ((l[i]).Key.size : Int)) = true
   · rw [hk]; left; exact ⟨s, rfl⟩
   · rw [Bool.eq_false_iff.2 hk]
     simp only [Bool.not_false, gd_t, Option.bind_some, Bool.false_or]
     rcases e2 with rfl | rfl
     · simp only [Int.lt_irrefl, decide_false, Bool.false_eq_true, if_false]
       have hx : RecW (l[i]).Rec := Zvd hm.2 (e3 rfl)
       obtain ⟨s', t', c, f1, f2, f3, f4⟩ := Zpt hf.rel (by omega) (l[i]).Key hx.ok (e3 rfl)
       rw [f1, f2]
       simp only [Option.bind_some]
       have hro : t'.Room = t.Room := by rw [← f3.room, Zq1 f1, hf.rel.room]
       refine Zt8 hl hw n (i + 1) (by omega) ?_ (by rw [hro, hr])
       rcases f4 with f4 | ⟨f4, f5, f6, f7⟩
       · have := Z7f hf f4 hro
         exact ⟨f3, this.good, this.fit⟩
       · refine Zxa hf f3 hx ((Zkq hx.ok).1 f5) ?_ f4 hro
         refine Classical.byContradiction fun hno => ?_
         have h1 : (lk (l[i]).Key (pl t)).isNone = true := by
           cases hz : lk (l[i]).Key (pl t) with
           | none => rfl
           | some r => exact absurd (.inl (by rw [hz]; rfl)) hno
         have h2 : t.Room ≤ (t.L.length : Int) := Int.not_lt.1 fun h => hno (.inr h)
         have hk1 : sEq (l[i]).Key ⟨#[]⟩ = false := by
           rw [Zvg]; simpa using f6
         obtain ⟨_, hs⟩ := (Zpp hf.rel (by omega) f1 f5 (e3 rfl) hk1 (by omega)).2 h1 h2
         subst hs
         have ht := f3.top
         rw [hf.rel.top, f4] at ht
         rcases Zmx (k := (l[i]).Key) (l[i]).Rec hf.rel.srt with ⟨p, _, _, a3, _⟩ | ⟨_, _, a3, _⟩
         · rw [a3] at h1; cases h1
         · have hle := congrArg List.length ht
           rw [a3] at hle
           have hrk := Ztv (l[i]).Key (pl t)
           simp at hle
           omega
     · left; exact ⟨s, rfl⟩
theorem Z4n {r : Int} {l : List Z9} (hw : ∀ p ∈ l, Zgi p) : (∃ s, Zga r l = some (s, none)) ∨ (∃ s t, Zga r l = some (s, some t) ∧ FR s t 60 ∧ t.Room = r ∧ 1 ≤ r ∧ r ≤ 4096) := by
 unfold Zga Znb
 by_cases hr : r < 1 ∨ 4096 < r
 · rw [if_pos (by simpa using hr)]
   left; exact ⟨_, rfl⟩
 · rw [if_neg (by simpa using hr)]
   simp only [Option.bind_some, bne_self_eq_false, Bool.false_or]
   by_cases hl : 60 < l.length
   · rw [if_pos (by simp; omega)]; left; exact ⟨_, rfl⟩
   · rw [if_neg (by simp; omega), show (Int.toNat ((l.length : Int) - (0 : Int)) + 1) = l.length + 1 by omega]
     have := Zt8 (l := l) (by omega) hw (z := default) (r := r) l.length 0 (by omega) ⟨Z6g r, fun q hq => by simp [pl] at hq, by simp; omega⟩ rfl
     rw [show ((0 : Nat) : Int) = 0 from rfl] at this
     rcases this with ⟨s', e⟩ | ⟨s', t', e, e2, e3⟩
     · rw [e]; left; exact ⟨_, rfl⟩
     · rw [e]; right; exact ⟨s', t', rfl, e2, e3, by omega, by omega⟩
def Zk9 (R : Int) (L : List KV) (a : Zs) : Option (List KV × Zi) := (ap (lk a.Key L) a).bind fun z => if (lk a.Key L).isNone = true ∧ z.1.isSome = true ∧ R ≤ (L.length : Int) then some (L, ans 8) else some (upd a.Key z.1 L, z.2)
structure InvK (L : List KV) : Prop where
 srt : Srt L
 ok : ∀ q ∈ L, RecW q.2 ∧ Zct q.2
theorem InvK.at_ {L : List KV} (h : InvK L) (k : ByteArray) : OkO (lk k L) := fun r hr => h.ok _ (Ztb hr)
theorem Z2k {o : Option Zd} {a : Zs} (ho : OkO o) (ha : ActIn a) : ∃ o1 x, ap o a = some (o1, x) ∧ OkO o1 ∧ RecW x.Rec ∧ (a.Kind ≠ 1 → a.Kind ≠ 2 → o1.isSome = o.isSome) := by
 cases o with
 | none =>
   obtain ⟨z, e, hs⟩ := Zk5 (there := false) Zdk ha
   have e : Zig zrec false a = some z := e
   simp only [ap, getR, e, Option.bind_some]
   rcases hs with ⟨c, hc, rfl⟩ | ⟨h1, h2, h3, ⟨k, k2, k3, rfl⟩ | ⟨k, k2, rfl⟩ | ⟨k, rfl⟩ | ⟨k, k2, rfl⟩ | ⟨k, k2, k3, k4, r', o, q1, q2, q3, q4, q5, rfl⟩⟩
   · exact ⟨none, ans c, by simp [hc], fun r h => (by cases h), Zdk, fun _ _ => rfl⟩
   · exact ⟨some a.Make, ans 0, rfl, fun r h => (by obtain rfl := Option.some.inj h; exact ⟨ha.mkr, k3⟩), Zdk, fun h => absurd k h⟩
   · cases k2
   · exact ⟨none, _, rfl, fun r h => (by cases h), Zdk, fun _ _ => rfl⟩
   · cases k2
   · cases k3
 | some r =>
   obtain ⟨hr, hg⟩ := ho r rfl
   obtain ⟨z, e, hs⟩ := Zk5 (there := true) hr ha
   rw [if_pos rfl] at hs
   simp only [ap, getR, e, Option.bind_some]
   have self : OkO (some r) := ho
   rcases hs with ⟨c, hc, rfl⟩ | ⟨h1, h2, h3, ⟨k, k2, k3, rfl⟩ | ⟨k, k2, rfl⟩ | ⟨k, rfl⟩ | ⟨k, k2, rfl⟩ | ⟨k, k2, k3, k4, r', o, q1, q2, q3, q4, q5, rfl⟩⟩
   · exact ⟨some r, ans c, by simp [hc], self, Zdk, fun _ _ => rfl⟩
   · cases k2
   · exact ⟨none, ans 0, rfl, fun r h => (by cases h), Zdk, fun _ h => absurd k h⟩
   · exact ⟨some r, _, rfl, self, Zdk, fun _ _ => rfl⟩
   · exact ⟨some r, _, rfl, self, hr, fun _ _ => rfl⟩
   · exact ⟨some r', o, by simp [q2], fun x h => (by obtain rfl := Option.some.inj h; exact ⟨q4, Zyx k k2 k4 hr hg h2 q1⟩), q5, fun _ _ => rfl⟩
theorem Z3k {R : Int} {L : List KV} {a : Zs} {o1 : Option Zd} {x : Zi} (e : ap (lk a.Key L) a = some (o1, x)) (hs : o1.isSome = (lk a.Key L).isSome) : Zk9 R L a = some (upd a.Key o1 L, x) := by
 unfold Zk9
 rw [e]
 simp only [Option.bind_some]
 rw [if_neg]
 rintro ⟨h1, h2, _⟩
 rw [hs] at h2
 cases hq : lk a.Key L <;> simp [hq] at h1 h2
theorem Zv1 {R : Int} {L : List KV} {a : Zs} {x : Zi} (hs : Srt L) (e : ap (lk a.Key L) a = some (lk a.Key L, x)) : Zk9 R L a = some (L, x) := by
 rw [Z3k e rfl, Z4j hs]
theorem Z3w {R : Int} {L : List KV} {a : Zs} (h : InvK L) (ha : ActIn a) : ∃ L' x, Zk9 R L a = some (L', x) ∧ InvK L' ∧ RecW x.Rec := by
 obtain ⟨o1, x, e, h1, h2, _⟩ := Z2k (h.at_ a.Key) ha
 unfold Zk9
 rw [e]
 simp only [Option.bind_some]
 split
 · exact ⟨L, ans 8, rfl, h, Zdk⟩
 · refine ⟨_, _, rfl, ⟨Zzx h.srt, fun q hq => ?_⟩, h2⟩
   rcases Z6p hq with hq | ⟨x, hx, rfl⟩
   · exact h.ok q hq
   · exact h1 x hx
theorem Zz6 {s s' : Zl} {t : Zo} {n : Nat} (h : Rel s t n) (hn : n < 1000000) {k : ByteArray} {b : Bool} (e : Zd0 s k = some (s', b)) : toL s'.top = delL k (pl t) := by
 have hb := h.len
 unfold Zd0 at e
 rw [Zmk h] at e
 simp only [Option.bind_some] at e
 rcases Zmx default h.srt with ⟨p, a1, a2, a3, _, a5⟩ | ⟨a1, a2, _, a4⟩
 · rw [a3] at e
   obtain ⟨t1, c1, z1, l1⟩ := Zz5 (k := k) h.sz (by rw [h.top]; exact h.srt) (by rw [h.tl]; omega)
   rw [c1] at e
   simp only [getR, Bool.not_true, Bool.false_eq_true, if_false, Option.bind_some, Option.some.injEq, Prod.mk.injEq] at e
   rw [← e.1, ← h.top]
   exact l1
 · rw [a2] at e
   simp only [getR, Bool.not_false, if_true, Option.some.injEq, Prod.mk.injEq] at e
   rw [← e.1, a4]
   exact h.top
theorem FR.inv {s : Zl} {t : Zo} {n : Nat} (h : FR s t n) : InvK (pl t) := ⟨h.rel.srt, h.good⟩
theorem Z1z {s : Zl} {t : Zo} {n : Nat} (h : FR s t n) (hn : n < 1000000) {a : Zs} (ha : ActIn a) :
   ∃ s' t' out, Zny s a = some (s', out) ∧ FR s' t' (n + 1) ∧ t'.Room = t.Room ∧ RecW out.Rec ∧ Zk9 t.Room (pl t) a = some (pl t', out) := by
 obtain ⟨r, there, hg, hi, hl1, hl2⟩ : ∃ r there, getR (lk a.Key (pl t)) = (r, there) ∧ Z64 there r ∧ (there = true → lk a.Key (pl t) = some r) ∧ (there = false → lk a.Key (pl t) = none) := by
   cases hl : lk a.Key (pl t) with
   | none => exact ⟨_, _, rfl, ⟨Zdk, fun h => (by cases h), fun _ => rfl⟩, fun h => (by cases h), fun _ => rfl⟩
   | some r =>
     obtain ⟨g1, g2⟩ := h.good _ (Ztb hl)
     exact ⟨_, _, rfl, ⟨g1, fun _ => g2, fun h => (by cases h)⟩, fun _ => rfl, fun h => (by cases h)⟩
 obtain ⟨z, e3, hs⟩ := Zk5 (there := there) hi.w ha
 have hr0 : (if there = true then r else zrc) = r := by
   cases there
   · exact (hi.zero rfl).symm
   · rfl
 rw [hr0] at hs
 have hap : ap (lk a.Key (pl t)) a = some (if z.2.2.Code = 0 then (if z.2.1 = true then some z.1 else none) else lk a.Key (pl t), z.2.2) := by
   unfold ap
   rw [hg, e3]
   rfl
 have hlk : lk a.Key (pl t) = if there = true then some r else none := by
   cases there
   · exact hl2 rfl
   · exact hl1 rfl
 unfold Zny
 rw [Zmk h.rel, hg]
 simp only [Option.bind_some]
 rw [e3]
 simp only [Option.bind_some, Zjf]
 have same : ∀ x, z.2.2 = x → (x.Code ≠ 0 ∨ z.2.1 = there ∧ z.1 = r) → Zk9 t.Room (pl t) a = some (pl t, x) := fun x hx hc => by
   refine Zv1 h.rel.srt ?_
   rw [hap, hx]
   by_cases h0 : x.Code = 0
   · rw [if_pos h0]
     obtain ⟨h1, h2⟩ := hc.resolve_left (fun h => h h0)
     rw [h1, h2, hlk]
   · rw [if_neg h0]
 rcases hs with ⟨c, hc, rfl⟩ | ⟨h1, h2, h3, hs⟩
 · have hc' : (c != 0) = true := by simpa using hc
   simp only [hc', Bool.not_true, gd_f, Option.bind_some, Bool.true_or, if_true]
   exact ⟨s, t, ans c, rfl, h.mono (by omega), rfl, Zdk, same _ rfl (.inl hc)⟩
 obtain ⟨k1, k2⟩ := Z3n ha h1
 have hset : ∀ {y : Zd}, RecW y → Zct y → ((lk a.Key (pl t)).isSome = true ∨ (t.L.length : Int) < t.Room) → ∃ s' t', Zc4 s a.Key y = some (s', 0) ∧ FR s' t' (n + 1) ∧ pl t' = insL a.Key y (pl t) ∧ t'.Room = t.Room := fun {y} hw hgy ho => by
   have hsh := Zpg hgy
   obtain ⟨s', t', c, f1, f2, f3, _⟩ := Zpt h.rel hn a.Key hw.ok (by omega)
   obtain ⟨rfl, hp⟩ := (Zpp h.rel hn f1 ((Zkq hw.ok).2 hgy) (by omega) k1 k2).1 ho
   rw [f3.top] at hp
   have hro : t'.Room = t.Room := by rw [← f3.room, Zq1 f1, h.rel.room]
   exact ⟨s', t', f1, Zxa h f3 hw hgy ho hp hro, hp, hro⟩
 rcases hs with ⟨hk, rfl, hmk, rfl⟩ | ⟨hk, rfl, rfl⟩ | ⟨hk, rfl⟩ | ⟨hk, rfl, rfl⟩ | ⟨k5, k21, rfl, kon, r', o, q1, q2, q3, q4, q5, rfl⟩
 · -- New
   have hl := hl2 rfl
   rw [hk]
   simp only [bne_self_eq_false, Bool.not_false, gd_t, Option.bind_some, show ((((((1 : Int) == 3) || ((1 : Int) == 4)) || ((1 : Int) == 9)) || ((1 : Int) == 12)) || ((1 : Int) == 20)) = false from rfl, Bool.or_self, Bool.false_eq_true, if_false, Bool.not_true]
   have hap : ap (lk a.Key (pl t)) a = some (some a.Make, ans 0) := hap
   by_cases hr : t.Room ≤ (t.L.length : Int)
   · have hsh := Zpg hmk
     obtain ⟨s', t', c, f1, f2, f3, _⟩ := Zpt h.rel hn a.Key ha.mkr.ok (by omega)
     obtain ⟨rfl, rfl⟩ := (Zpp h.rel hn f1 ((Zkq ha.mkr.ok).2 hmk) (by omega) k1 k2).2 (by rw [hl]; rfl) hr
     rw [f1]
     refine ⟨s', t, ans 8, rfl, h.mono (by omega), rfl, Zdk, ?_⟩
     unfold Zk9
     rw [hap]
     simp only [Option.bind_some]
     rw [if_pos ⟨by rw [hl]; rfl, rfl, by rw [Ze5]; exact hr⟩]
   · obtain ⟨s', t', f1, f3, f4, f5⟩ := hset ha.mkr hmk (.inr (by omega))
     rw [f1]
     refine ⟨s', t', ans 0, rfl, f3, f5, Zdk, ?_⟩
     unfold Zk9
     rw [hap]
     simp only [Option.bind_some]
     rw [if_neg (by rw [Ze5]; omega), f4]
     rfl
 · -- Drop
   rw [hk]
   obtain ⟨s', t', b, f1, f2, f3, f4⟩ := Zw9 h.rel hn a.Key
   have hd := Zz6 h.rel hn f1
   rw [f3.top] at hd
   rw [f1]
   have hro : t'.Room = t.Room := by rw [← f3.room, Zv7 f1, h.rel.room]
   have hf := h.fit
   refine ⟨s', t', ans 0, rfl, ⟨f3.mono (by omega), fun q hq => ?_, ?_⟩, hro, Zdk, ?_⟩
   · rw [hd] at hq; exact h.good q (Znq hq)
   · have := Znz a.Key (pl t)
     rw [Ze5] at this
     rw [hro, ← Ze5, hd]; omega
   · unfold Zk9
     have hap : ap (lk a.Key (pl t)) a = some (none, ans 0) := hap
     rw [hap, hl1 rfl, hd]
     rfl
 · -- Is
   rw [hk]
   exact ⟨s, t, _, rfl, h.mono (by omega), rfl, Zdk, same _ rfl (.inr ⟨rfl, rfl⟩)⟩
 · -- Look
   rw [hk]
   exact ⟨s, t, _, rfl, h.mono (by omega), rfl, hi.w, same _ rfl (.inr ⟨rfl, rfl⟩)⟩
 · -- what changes a record
   have hl := hl1 rfl
   have hgx : Zct r' := Zyx k5 k21 kon hi.w (hi.good rfl) h2 q1
   rw [q2]
   simp only [bne_self_eq_false, Bool.not_false, gd_t, Option.bind_some, Bool.false_or, Bool.false_eq_true, if_false, Bool.not_true, Bool.false_and]
   by_cases hrd : (((((a.Kind == (3 : Int)) || (a.Kind == (4 : Int))) || (a.Kind == (9 : Int))) || (a.Kind == (12 : Int))) || (a.Kind == (20 : Int))) = true
   · rw [if_pos hrd]
     have hx : r' = r := by
       refine Zti ?_ hi.w (hi.good rfl) kon q1
       simp only [Bool.or_eq_true, beq_iff_eq] at hrd
       omega
     subst hx
     exact ⟨s, t, o, rfl, h.mono (by omega), rfl, q5, same _ rfl (.inr ⟨rfl, rfl⟩)⟩
   · rw [if_neg hrd]
     obtain ⟨s', t', f1, f3, f4, f5⟩ := hset q4 hgx (.inl (by rw [hl]; rfl))
     rw [f1]
     have hap : ap (lk a.Key (pl t)) a = some (some r', o) := by rw [hap]; simp [q2]
     refine ⟨s', t', o, rfl, f3, f5, q5, ?_⟩
     rw [Z3k hap (by rw [hl]; rfl), f4]
     rfl
def hasB (sp : List ByteArray) (k : ByteArray) : Bool := sp.any fun x => sEq k x
theorem Z4r (a b : ByteArray) : sEq a b = sEq b a := by
 cases h : sEq b a
 · cases h2 : sEq a b
   · rfl
   · rw [Zde.1 h2, Zc8] at h; cases h
 · rw [Zde.1 h, Zc8]
theorem Ztg {sp : List ByteArray} {k : ByteArray} (hl : sp.length ≤ 1000) : ∀ (n i : Nat), i + n = sp.length →
   (Zcf sp k (n + 1) (i : Int) = some (.inr ()) ∧ hasB (sp.drop i) k = false) ∨ (∃ j : Nat, Zcf sp k (n + 1) (i : Int) = some (.inl (j : Int)) ∧ hasB (sp.drop i) k = true)
 | 0, i, h => by
   rw [Zcf, if_neg (by simp; omega), List.drop_of_length_le (by omega)]
   exact .inl ⟨rfl, rfl⟩
 | n + 1, i, h => by
   have h1 : i < sp.length := by omega
   rw [Zcf, if_pos (by simp; omega), Zdb h1, wr1 (by omega), List.drop_eq_getElem_cons h1]
   simp only [Option.bind_some, hasB, List.any_cons]
   by_cases hq : sEq k sp[i] = true
   · rw [if_pos hq, hq]; exact .inr ⟨i, rfl, rfl⟩
   · rw [if_neg hq, Bool.eq_false_iff.2 hq, Bool.false_or]
     exact Ztg hl n (i + 1) (by omega)
theorem Zsb {sp : List ByteArray} (k : ByteArray) (hl : sp.length ≤ 1000) : Zdm sp k = some (hasB sp k) := by
 unfold Zdm Zfp
 rw [show (Int.toNat ((sp.length : Int) - (0 : Int)) + 1) = sp.length + 1 by omega]
 have := Ztg (k := k) hl sp.length 0 (by omega)
 rw [show ((0 : Nat) : Int) = 0 from rfl, List.drop_zero] at this
 rcases this with ⟨e1, e2⟩ | ⟨j, e1, e2⟩
 · rw [e1, e2]; rfl
 · rw [e1, e2]; simp
theorem Zvt {sp : List ByteArray} {k : ByteArray} (hl : sp.length ≤ 1000) : ∀ (n i : Nat), i + n = sp.length →
   (Zdz sp k (n + 1) (i : Int) = some (.inr ()) ∧ hasB (sp.drop i) k = false) ∨ (Zdz sp k (n + 1) (i : Int) = some (.inl true) ∧ hasB (sp.drop i) k = true)
 | 0, i, h => by
   rw [Zdz, if_neg (by simp; omega), List.drop_of_length_le (by omega)]
   exact .inl ⟨rfl, rfl⟩
 | n + 1, i, h => by
   have h1 : i < sp.length := by omega
   rw [Zdz, if_pos (by simp; omega), Zdb h1, wr1 (by omega), List.drop_eq_getElem_cons h1]
   simp only [Option.bind_some, hasB, List.any_cons]
   rw [Z4r sp[i] k]
   by_cases hq : sEq k sp[i] = true
   · rw [if_pos hq, hq]; exact .inr ⟨rfl, rfl⟩
   · rw [if_neg hq, Bool.eq_false_iff.2 hq, Bool.false_or]
     exact Zvt hl n (i + 1) (by omega)
theorem Z60 {sp : List ByteArray} (k : ByteArray) (hl : sp.length ≤ 1000) : Zh9 sp k = some (hasB sp k) := by
 unfold Zh9
 rw [show (Int.toNat ((sp.length : Int) - (0 : Int)) + 1) = sp.length + 1 by omega]
 have := Zvt (k := k) hl sp.length 0 (by omega)
 rw [show ((0 : Nat) : Int) = 0 from rfl, List.drop_zero] at this
 rcases this with ⟨e1, e2⟩ | ⟨e1, e2⟩
 · rw [e1, e2]; rfl
 · rw [e1, e2]; rfl
def Zpr (R : Int) (sp : List ByteArray) (L : List KV) (a : Zs) : Option (List KV × Zi) := if hasB sp a.Key = true then some (L, default) else Zk9 R L a
def runS (R : Int) (sp : List ByteArray) : List Zs → List KV → Option (List KV × List Zi × Int)
 | [], L => some (L, [], 0)
 | a :: r, L => (Zpr R sp L a).bind fun z => if (a.Must && (z.2.Code != 0)) = true then some (z.1, [], z.2.Code) else (runS R sp r z.1).bind fun w => some (w.1, z.2 :: w.2.1, w.2.2)
def oneS (R : Int) (sp : List ByteArray) (L : List KV) (d : Zbg) : Option (List KV × Z6) := (Zfr d).bind fun z => if (z.1 != 0) = true then some (L, { Code := z.1, At := z.2, Answers := [] }) else (runS R sp d.Acts L).bind fun w => if w.2.2 = 0 then some (w.1, { Code := 0, At := 0, Answers := w.2.1 }) else some (L, { Code := w.2.2, At := ((w.2.1.length + 1 : Nat) : Int), Answers := [] })
theorem Zvx {R : Int} {sp : List ByteArray} {L : List KV} {a : Zs} (h : InvK L) (ha : ActIn a) : ∃ L' x, Zpr R sp L a = some (L', x) ∧ InvK L' ∧ RecW x.Rec := by
 unfold Zpr
 split
 · exact ⟨L, _, rfl, h, Zdk⟩
 · exact Z3w h ha
theorem Zsr {R : Int} {sp : List ByteArray} : ∀ {A : List Zs} {L : List KV}, InvK L → (∀ a ∈ A, ActIn a) → ∃ L' xs c, runS R sp A L = some (L', xs, c) ∧ InvK L' ∧ Zol xs ∧ (c = 0 → xs.length = A.length) ∧ (c ≠ 0 → xs.length < A.length)
 | [], L, h, _ => ⟨L, [], 0, rfl, h, fun a ha => (by cases ha), fun _ => rfl, fun h => absurd rfl h⟩
 | a :: A, L, h, hA => by
   obtain ⟨La, xa, s1, i1, i2⟩ := Zvx (R := R) (sp := sp) h (hA a (List.mem_cons_self ..))
   rw [runS, s1]
   simp only [Option.bind_some]
   split
   · rename_i hc
     have hne : xa.Code ≠ 0 := by
       have := (Bool.and_eq_true _ _ ▸ hc : _ ∧ _).2
       simpa using this
     exact ⟨_, _, _, rfl, i1, fun a ha => (by cases ha), fun h => absurd h hne, fun _ => by simp⟩
   · obtain ⟨L', xs, c, e, j1, j2, j3, j4⟩ := Zsr i1 (fun a ha => hA a (List.mem_cons_of_mem _ ha))
     rw [e]
     refine ⟨_, _, _, rfl, j1, fun y hy => ?_, fun h => by simp [j3 h], fun h => by have := j4 h; simp; omega⟩
     rcases List.mem_cons.1 hy with rfl | hy
     · exact i2
     · exact j2 y hy
structure HandGo (h : Zu) (d : Zbg) (sp : List ByteArray) (R : Int) (Lf : List KV) (Q : Z6) (n m : Nat) : Prop where
 hd : h.d = d
 hsp : h.split = sp
 st : (∃ t xs ys L1 c, FR h.now t n ∧ t.Room = R ∧ h.out = { Code := 0, At := 0, Answers := xs } ∧ h.over = decide (xs.length = d.Acts.length) ∧ xs.length ≤ d.Acts.length ∧ runS R sp (d.Acts.drop xs.length) (pl t) = some (L1, ys, c) ∧ (c = 0 → Q = { Code := 0, At := 0, Answers := xs ++ ys } ∧ Lf = L1) ∧ (c ≠ 0 → Q = { Code := c, At := (((xs ++ ys).length + 1 : Nat) : Int), Answers := [] }) ∧ Zol xs ∧ m = ys.length + (if c = 0 then 0 else 1)) ∨
   (Q.Code ≠ 0 ∧ h.over = true ∧ h.out = Q ∧ Q.Answers = [] ∧ m = 0)
theorem Zv3 {h : Zu} {d : Zbg} {sp : List ByteArray} {R : Int} {Lf : List KV} {Q : Z6} {n m : Nat} (hd : ∀ a ∈ d.Acts, ActIn a) (hl : d.Acts.length ≤ 1000) (hs : sp.length ≤ 1000) (H : HandGo h d sp R Lf Q n m) (hn : n < 1000000) :
   (m = 0 ∧ h.over = true ∧ Zfy h = some (h, false)) ∨ (∃ h' m', m = m' + 1 ∧ h.over = false ∧ Zfy h = some (h', true) ∧ HandGo h' d sp R Lf Q (n + 1) m') := by
 obtain ⟨e1, e2, H⟩ := H
 obtain ⟨hd', hsp', now, out, over⟩ := h
 simp only at e1 e2 H
 subst e1 e2
 rcases H with ⟨t, xs, ys, L1, c, hf, hr, rfl, hov, hx, hrun, q1, q2, hA, rfl⟩ | ⟨q1, rfl, rfl, q2, rfl⟩
 · by_cases hxl : xs.length = hd'.Acts.length
   · rw [decide_eq_true hxl] at hov
     subst hov
     rw [List.drop_of_length_le (by omega)] at hrun
     cases hrun
     exact .inl ⟨rfl, rfl, rfl⟩
   · rw [decide_eq_false hxl] at hov
     subst hov
     right
     have h1 : xs.length < hd'.Acts.length := by omega
     have ha := hd _ (List.getElem_mem h1)
     rw [List.drop_eq_getElem_cons h1, runS] at hrun
     obtain ⟨s', t', x, f1, f2, f3, f4, f5⟩ : ∃ s' t' x, Zh0 { d := hd', split := hsp', now := now, out := { Code := 0, At := 0, Answers := xs }, over := false } = Zf8 { d := hd', split := hsp', now := now, out := { Code := 0, At := 0, Answers := xs }, over := false } hd'.Acts[xs.length] x { d := hd', split := hsp', now := s', out := { Code := 0, At := 0, Answers := xs }, over := false } ∧ FR s' t' (n + 1) ∧ t'.Room = R ∧ RecW x.Rec ∧ Zpr R hsp' (pl t) hd'.Acts[xs.length] = some (pl t', x) := by
       unfold Zh0
       simp only [Bool.false_eq_true, if_false]
       rw [Zdb h1]
       simp only [Option.bind_some]
       rw [Zsb _ hs]
       simp only [Option.bind_some]
       unfold Zpr
       by_cases hb : hasB hsp' (hd'.Acts[xs.length]).Key = true
       · rw [hb]
         exact ⟨now, t, default, rfl, hf.mono (by omega), hr, Zdk, rfl⟩
       · rw [if_neg hb, Bool.eq_false_iff.2 hb]
         obtain ⟨s', t', x, g1, g2, g3, g4, g5⟩ := Z1z hf hn ha
         rw [hr] at g5
         refine ⟨s', t', x, ?_, g2, g3.trans hr, g4, g5⟩
         simp only [Bool.not_false, if_true]
         rw [g1]
         rfl
     rw [f5] at hrun
     simp only [Option.bind_some] at hrun
     unfold Zfy
     rw [f1]
     unfold Zf8
     by_cases hm : ((hd'.Acts[xs.length]).Must && (x.Code != 0)) = true
     · rw [if_pos hm] at hrun ⊢
       simp only [Option.some.injEq, Prod.mk.injEq] at hrun
       obtain ⟨rfl, rfl, rfl⟩ := hrun
       have hne : x.Code ≠ 0 := by
         have := (Bool.and_eq_true _ _ ▸ hm : _ ∧ _).2
         simpa using this
       have hq := q2 hne
       refine ⟨_, 0, by simp [hne], rfl, rfl, rfl, rfl, .inr ⟨by rw [hq]; exact hne, rfl, ?_, by rw [hq], rfl⟩⟩
       rw [hq]
       simp only [List.append_nil]
       rw [wr1 (by omega)]
     · rw [if_neg hm] at hrun ⊢
       obtain ⟨⟨w1, w2, w3⟩, r1, hrun⟩ := Option.bind_eq_some_iff.1 hrun
       simp only [Option.some.injEq, Prod.mk.injEq] at hrun
       obtain ⟨rfl, rfl, rfl⟩ := hrun
       have hlen : (xs.length + [x].length) * 104 ≤ 140737488355328 := by simp; omega
       simp only
       rw [if_pos hlen]
       refine ⟨_, w2.length + (if w3 = 0 then 0 else 1), by simp; omega, trivial, rfl, rfl, rfl, .inl ⟨t', xs ++ [x], w2, w1, w3, f2, f3, rfl, ?_, by simp; omega, ?_, ?_, ?_, Z0y hA f4, rfl⟩⟩
       · show ((IntKind.i64.wrap ((xs.length : Int) + 1)) == ((hd'.Acts.length : Int))) = _
         rw [wr1 (by omega)]
         by_cases h2 : xs.length + 1 = hd'.Acts.length
         · rw [decide_eq_true (by simp; omega)]
           rw [beq_iff_eq]; omega
         · rw [decide_eq_false (by simp; omega)]
           rw [beq_eq_false_iff_ne]; omega
       · rw [show (xs ++ [x]).length = xs.length + 1 by simp]
         exact r1
       · intro hc
         obtain ⟨g1, g2⟩ := q1 hc
         exact ⟨by rw [g1]; simp, g2⟩
       · intro hc
         rw [q2 hc]; simp
 · exact .inl ⟨rfl, rfl, rfl⟩
theorem HandGo.mono {h : Zu} {d : Zbg} {sp : List ByteArray} {R : Int} {Lf : List KV} {Q : Z6} {n n' m : Nat} (H : HandGo h d sp R Lf Q n m) (hn : n ≤ n') : HandGo h d sp R Lf Q n' m := by
 obtain ⟨e1, e2, H⟩ := H
 refine ⟨e1, e2, ?_⟩
 rcases H with ⟨t, xs, ys, L1, c, hf, H⟩ | H
 · exact .inl ⟨t, xs, ys, L1, c, hf.mono hn, H⟩
 · exact .inr H
theorem Zy1 {d : Zbg} {sp : List ByteArray} {R : Int} {Lf : List KV} {Q : Z6} (hd : ∀ a ∈ d.Acts, ActIn a) (hl : d.Acts.length ≤ 1000) (hs : sp.length ≤ 1000) : ∀ (m f i : Nat) {h : Zu} {n : Nat}, HandGo h d sp R Lf Q n m → m ≤ f → i + m ≤ 12 → n + m < 1000000 → ∃ h', Zek (f + 1) h (i : Int) = some (h', ((i + m : Nat) : Int)) ∧ HandGo h' d sp R Lf Q (n + m) 0
 | 0, f, i, h, n, H, _, hi, hn => by
   rcases Zv3 hd hl hs H (by omega) with ⟨_, _, e⟩ | ⟨_, _, e, _⟩
   · have hd : decide ((i : Int) < 20) = true := by simp; omega
     refine ⟨h, ?_, H⟩
     rw [Zek, hd, gd_t, e]
     rfl
   · omega
 | m + 1, f + 1, i, h, n, H, hf, hi, hn => by
   rcases Zv3 hd hl hs H (by omega) with ⟨e, _⟩ | ⟨h', m', e, _, e2, H'⟩
   · omega
   · obtain rfl : m' = m := by omega
     obtain ⟨h2, g1, g2⟩ := Zy1 hd hl hs m' f (i + 1) H' (by omega) (by omega) (by omega)
     have hd : decide ((i : Int) < 20) = true := by simp; omega
     refine ⟨h2, ?_, g2.mono (by omega)⟩
     rw [Zek, hd, gd_t, e2]
     simp only [Option.bind_some, Bool.and_self, if_true]
     rw [wr1 (by omega), g1]
     congr 3
     omega
theorem Z4h {h : Zu} {d : Zbg} {sp : List ByteArray} {R : Int} {Lf : List KV} {Q : Z6} {n m : Nat} (hd : ∀ a ∈ d.Acts, ActIn a) (hl : d.Acts.length ≤ 1000) (hs : sp.length ≤ 1000) (H : HandGo h d sp R Lf Q n m) (hm : m ≤ 12) (hn : n < 900000) : ∃ h', Zj6 h = some (h', (m : Int)) ∧ HandGo h' d sp R Lf Q (n + 12) 0 := by
 obtain ⟨h', e1, e2⟩ := Zy1 hd hl hs m 20 0 H (by omega) (by omega) (by omega)
 refine ⟨h', ?_, e2.mono (by omega)⟩
 unfold Zj6 Zi1
 rw [show (Int.toNat ((20 : Int) - (0 : Int)) + 1) = 20 + 1 by rfl]
 rw [show ((0 : Nat) : Int) = 0 from rfl] at e1
 rw [e1]
 simp
theorem HandGo.done {h : Zu} {d : Zbg} {sp : List ByteArray} {R : Int} {Lf : List KV} {Q : Z6} {n : Nat} (hd : ∀ a ∈ d.Acts, ActIn a) (H : HandGo h d sp R Lf Q n 0) :
   h.over = true ∧ h.out = Q ∧ Zol Q.Answers ∧ (Q.Answers ≠ [] → Q.Answers.length = d.Acts.length) ∧ (Q.Code = 0 → Q.At = 0 ∧ Q.Answers.length = d.Acts.length ∧ ∃ t, FR h.now t n ∧ t.Room = R ∧ pl t = Lf) := by
 obtain ⟨e1, e2, H⟩ := H
 rcases H with ⟨t, xs, ys, L1, c, hf, hr, ho, hov, hx, hrun, q1, q2, hA, hm⟩ | ⟨q1, q2, q3, q4, _⟩
 · have hc : c = 0 := Classical.byContradiction fun h => by rw [if_neg h] at hm; omega
   subst hc
   have hy : ys = [] := List.length_eq_zero_iff.1 (by simpa using hm.symm)
   subst hy
   obtain ⟨rfl, rfl⟩ := q1 rfl
   obtain ⟨L', zs, c, r1, _, _, r2, _⟩ := Zsr (R := R) (sp := sp) (A := d.Acts.drop xs.length) hf.inv (fun a ha => hd a (List.mem_of_mem_drop ha))
   rw [hrun] at r1
   simp only [Option.some.injEq, Prod.mk.injEq] at r1
   obtain ⟨rfl, rfl, rfl⟩ := r1
   have hlen := r2 rfl
   simp at hlen
   have hxl : xs.length = d.Acts.length := by omega
   rw [decide_eq_true hxl] at hov
   rw [List.drop_of_length_le (by omega)] at hrun
   cases hrun
   simp only [List.append_nil]
   exact ⟨hov, ho, hA, fun _ => hxl, fun _ => ⟨trivial, hxl, t, hf, hr, rfl⟩⟩
 · rw [q4]
   exact ⟨q2, q3, fun a ha => (by cases ha), fun h => absurd rfl h, fun h => absurd h q1⟩
theorem Z69 {Q : Z6} (hl : Q.Answers.length ≤ 1000) (hA : Zol Q.Answers) : Zm9 Q = some Q := by
 unfold Zm9
 rw [if_pos ⟨by omega, List.all_eq_true.2 fun a ha => by have := (hA a ha).len; simp; omega⟩]
theorem Zzj {h : Zu} {d : Zbg} {sp : List ByteArray} {R : Int} {Lf : List KV} {Q : Z6} {n : Nat} (hd : ∀ a ∈ d.Acts, ActIn a) (hl : d.Acts.length ≤ 1000) (H : HandGo h d sp R Lf Q n 0) : Zgt h = some (Q, true) ∧ Z8q Q = (Q.Answers.length ≤ 12 ∧ Zol Q.Answers) ∧ Zgl h = some true := by
 obtain ⟨e1, e2, e3, e4, _⟩ := H.done hd
 refine ⟨?_, rfl, by unfold Zgl; rw [e1]⟩
 unfold Zgt
 rw [e1, e2, Z69 _ e3]
 · rfl
 · by_cases hq : Q.Answers = []
   · rw [hq]; simp
   · rw [e4 hq]; exact hl
theorem Zvh {d : Zbg} (hd : ∀ a ∈ d.Acts, ActIn a) (hl : d.Acts.length ≤ 1000) : Zkm d = some d := by
 unfold Zkm
 rw [if_pos ⟨by omega, List.all_eq_true.2 fun a ha => by have := (hd a ha).mkr.len; simp; omega⟩]
theorem Z3r {d : Zbg} {s : Zl} {sp : List ByteArray} {t : Zo} {n : Nat} (hf : FR s t n) (hd : ∀ a ∈ d.Acts, ActIn a) (hl : d.Acts.length ≤ 1000) (hs : sp.length ≤ 1000) :
   ∃ h Lf Q m, Zlg d s sp = some h ∧ oneS t.Room sp (pl t) d = some (Lf, Q) ∧ HandGo h d sp t.Room Lf Q n m ∧ m ≤ 12 ∧ (Q.Code = 0 → ∃ at_, Zfr d = some (0, at_)) ∧ (∀ at_, Zfr d = some (0, at_) → (Q.Code = 0 → m = d.Acts.length) ∧ (Q.Code ≠ 0 → Q.At = (m : Int))) := by
 obtain ⟨c, at_, e1, _, hc⟩ := Zsm hd
 unfold Zlg oneS
 rw [Zvh hd hl, e1]
 unfold Zfo
 rw [if_pos (by omega)]
 simp only [Option.bind_some]
 by_cases h0 : (c != 0) = true
 · rw [if_pos h0, if_pos h0]
   have hne : c ≠ 0 := by simpa using h0
   exact ⟨_, _, _, 0, rfl, rfl, ⟨rfl, rfl, .inr ⟨hne, rfl, rfl, rfl, rfl⟩⟩, by omega, fun h => absurd h hne, fun a h => by
     simp only [Option.some.injEq, Prod.mk.injEq] at h
     exact absurd h.1 hne⟩
 · rw [if_neg h0, if_neg h0]
   obtain rfl : c = 0 := by simpa using h0
   have hl2 := hc rfl
   obtain ⟨L', ys, k, r1, _, _, r3, r4⟩ := Zsr (R := t.Room) (sp := sp) (A := d.Acts) hf.inv hd
   rw [r1]
   simp only [Option.bind_some]
   by_cases hk : k = 0
   · rw [if_pos hk]
     subst hk
     have := r3 rfl
     refine ⟨_, _, _, ys.length, rfl, rfl, ⟨rfl, rfl, .inl ⟨t, [], ys, L', 0, hf, rfl, rfl, ?_, Nat.zero_le _, r1, fun _ => ⟨rfl, rfl⟩, fun h => absurd rfl h, fun a ha => (by cases ha), rfl⟩⟩, by omega, fun _ => ⟨_, rfl⟩, fun _ _ => ⟨fun _ => this, fun h => absurd rfl h⟩⟩
     exact (decide_eq_false (by simp; omega)).symm
   · rw [if_neg hk]
     have := r4 hk
     refine ⟨_, _, _, ys.length + 1, rfl, rfl, ⟨rfl, rfl, .inl ⟨t, [], ys, L', k, hf, rfl, rfl, ?_, Nat.zero_le _, r1, fun h => absurd h hk, fun _ => rfl, fun a ha => (by cases ha), by rw [if_neg hk]⟩⟩, by omega, fun h => absurd h hk, fun _ _ => ⟨fun h => absurd h hk, fun _ => rfl⟩⟩
     exact (decide_eq_false (by simp; omega)).symm
end Go.CL
