/- A part of the proof of ShareSlices. -/
import Derived.Test.YtbiobpmabomjfaaDoorShareSlicesC5
import Derived.Test.YtbiobpmabomjfaaDoorRows
import Derived.Test.YtbiobpmabomjfaaDoorCards
import Derived.Test.YtbiobpmabomjfaaDoorTie
import Derived.SevenTiedAt
set_option linter.unusedVariables false
set_option linter.unusedSimpArgs false
set_option maxRecDepth 100000
namespace Go.CL
open Go
def Zfe (k : Int) (l : List Zj) : Nat → Nat → Int
 | _, 0 => 0
 | i, n + 1 => if Zf0 k l i = 0 then Zfe k l (i + 1) n else Zf0 k l i
def endC (c : Int) : Int ⊕ Unit := if c = 0 then .inr () else .inl c
theorem Zmn {k : Int} {l : List Zj} {i n : Nat} (h : Zf0 k l i = 0) : Zfe k l i (n + 1) = Zfe k l (i + 1) n := by simp [Zfe, h]
theorem Zmp {k : Int} {l : List Zj} {i n : Nat} (h : ¬ Zf0 k l i = 0) : Zfe k l i (n + 1) = Zf0 k l i := by simp [Zfe, h]
theorem Zsp {c : Int} (h : ¬ c = 0) : endC c = .inl c := if_neg h
theorem Znj {k : Int} {l : List Zj} (hl : l.length < 4611686018427387904) (hs : ∀ e ∈ l, e.Score < W64) : ∀ (n i : Nat), i + n = l.length →
   Zdn k l (n + 1) (i : Int) = some (endC (Zfe k l i n))
 | 0, i, h => by
   rw [Zdn, if_neg (by simp; omega)]
   rfl
 | n + 1, i, h => by
   rw [Ztg (by omega) hl hs]
   by_cases hc : Zf0 k l i = 0
   · rw [if_pos hc, Zmn hc, Znj hl hs n (i + 1) (by omega)]
   · rw [if_neg hc, Zmp hc, Zsp hc]
theorem Zub {k : Int} {l : List Zj} (hl : l.length < 4611686018427387904) (hs : ∀ e ∈ l, e.Score < W64) : Zin k l = some (Zfe k l 0 l.length) := by
 unfold Zin
 rw [show (Int.toNat ((l.length : Int) - (0 : Int)) + 1) = l.length + 1 by omega, show (0 : Int) = ((0 : Nat) : Int) from rfl, Znj hl hs l.length 0 (by omega)]
 unfold endC
 by_cases h : Zfe k l 0 l.length = 0 <;> simp [h]
theorem Zmm {a : Zd} (ha : Zg2 a) : ∀ (n i : Nat), i + n = a.List.length →
   Zcs a (n + 1) (i : Int) = some (endC (Zfe a.Kind a.List i n))
 | 0, i, h => by
   rw [Zcs, if_neg (by simp; omega)]
   rfl
 | n + 1, i, h => by
   have hl := ha.len
   rw [Zcs, if_pos (by simp; omega), Zue (by omega) hl ha.sc, wr1 (by omega)]
   simp only [Option.bind_some]
   by_cases hc : Zf0 a.Kind a.List i = 0
   · rw [if_neg (by simp [hc]), Zmn hc, Zmm ha n (i + 1) (by omega)]
   · rw [if_pos (by simp [hc]), Zmp hc, Zsp hc]
def Zfv (t n b r l : Bool) (a : Zd) : Bool := (t || sEq a.Text ⟨#[]⟩) && (n || a.Num == 0) && (b || (a.Low == 0 && a.High == 0)) && (r || decide (keyf a.Real = keyf 0)) && (l || (a.Cap == 0 && (a.List.length : Int) == 0))
theorem Zw6 {a : Zd} (ha : Zg2 a) (t n b r l : Bool) : Zja a ⟨t, n, b, r, l⟩ = some (Zfv t n b r l a) := by
 unfold Zja Zfv
 rw [Znv ha.real (by decide)]
 simp only
 generalize sEq a.Text ⟨#[]⟩ = x1
 generalize (a.Num == 0) = x2
 generalize (a.Low == 0) = x3
 generalize (a.High == 0) = x4
 generalize decide (keyf a.Real = keyf 0) = x5
 generalize (a.Cap == 0) = x6
 generalize ((a.List.length : Int) == 0) = x7
 revert t n b r l x1 x2 x3 x4 x5 x6 x7
 decide
theorem Zv0 {a : Zd} (ha : Zg2 a) {s : ByteArray} {t n b r l : Bool} (h : Zbz s (Int.toNat ((s.size : Int) - (0 : Int)) + 1) false false false false false 0 = some (t, n, b, r, l)) : Ze5 a s = some (Zfv t n b r l a) := by
 unfold Ze5 Zfv
 rw [h, Zq1 ha.real]
 simp only [Option.bind_some, bne]
 generalize sEq a.Text ⟨#[]⟩ = x1
 generalize (a.Num == 0) = x2
 generalize (a.Low == 0) = x3
 generalize (a.High == 0) = x4
 generalize decide (keyf a.Real = keyf 0) = x5
 generalize (a.Cap == 0) = x6
 generalize ((a.List.length : Int) == 0) = x7
 clear h
 revert t n b r l x1 x2 x3 x4 x5 x6 x7
 decide
theorem Zy1 : Zbz ⟨#[116]⟩ (Int.toNat (((⟨#[116]⟩ : ByteArray).size : Int) - (0 : Int)) + 1) false false false false false 0 = some (true, false, false, false, false) := by kernel_rfl
theorem Zuo : Zbz ⟨#[110]⟩ (Int.toNat (((⟨#[110]⟩ : ByteArray).size : Int) - (0 : Int)) + 1) false false false false false 0 = some (false, true, false, false, false) := by kernel_rfl
theorem Zxq : Zbz ⟨#[110, 98]⟩ (Int.toNat (((⟨#[110, 98]⟩ : ByteArray).size : Int) - (0 : Int)) + 1) false false false false false 0 = some (false, true, true, false, false) := by kernel_rfl
theorem Zsa : Zbz ⟨#[114]⟩ (Int.toNat (((⟨#[114]⟩ : ByteArray).size : Int) - (0 : Int)) + 1) false false false false false 0 = some (false, false, false, true, false) := by kernel_rfl
theorem Zu7 : Zbz ⟨#[108]⟩ (Int.toNat (((⟨#[108]⟩ : ByteArray).size : Int) - (0 : Int)) + 1) false false false false false 0 = some (false, false, false, false, true) := by kernel_rfl
def Zjx (t n b r l : Bool) (a : Zd) : Int :=
 if Zfv t n b r l a = false then 4
 else if (64 : Int) < a.Text.size then 3
 else if b = true ∧ (a.Low < -2305843009213693952 ∨ 2305843009213693952 < a.High ∨ a.Num < a.Low ∨ a.High < a.Num) then 1
 else if a.Real ≠ Zcp a.Real then 4
 else if l = false then 0
 else if a.Cap < 1 ∨ 32 < a.Cap then 1
 else if a.Cap < a.List.length then 8
 else Zfe a.Kind a.List 0 a.List.length
theorem Zdy {a : Zd} (ha : Zg2 a) {t n b r l : Bool} (hk : ¬ (a.Kind ≤ 0 ∨ 10 ≤ a.Kind)) (hs : Zcw a.Kind = some ⟨t, n, b, r, l⟩) : Zdk a = some (Zjx t n b r l a) := by
 unfold Zdk Zjx
 rw [hs]
 simp only [Option.bind_some]
 rw [Zw6 ha, Zon ha.real, Zub ha.len ha.sc]
 simp only [Option.bind_some]
 rw [if_neg (by simpa using hk)]
 by_cases h1 : Zfv t n b r l a = false
 · rw [if_pos h1, if_pos (by simp [h1])]
 · rw [if_neg h1, if_neg (by simpa using h1)]
   by_cases h2 : (64 : Int) < a.Text.size
   · rw [if_pos h2, if_pos (by simpa using h2)]
   · rw [if_neg h2, if_neg (by simpa using h2)]
     by_cases h3 : b = true ∧ (a.Low < -2305843009213693952 ∨ 2305843009213693952 < a.High ∨ a.Num < a.Low ∨ a.High < a.Num)
     · rw [if_pos h3, if_pos (by simpa [or_assoc] using h3)]
     · rw [if_neg h3, if_neg (by simpa [or_assoc] using h3)]
       by_cases h4 : a.Real = Zcp a.Real
       · rw [if_neg (show ¬ (a.Real ≠ Zcp a.Real) from fun h => h h4), decide_eq_true h4]
         simp only [Bool.not_true, Bool.false_eq_true, if_false]
         cases l
         · simp
         · simp only [Bool.not_true, Bool.false_eq_true, if_false, Bool.true_eq_false]
           by_cases h5 : a.Cap < 1 ∨ 32 < a.Cap
           · rw [if_pos h5, if_pos (by simpa using h5)]
           · rw [if_neg h5, if_neg (by simpa using h5)]
             by_cases h6 : a.Cap < a.List.length
             · rw [if_pos h6, if_pos (by simpa using h6)]
             · rw [if_neg h6, if_neg (by simpa using h6)]
       · rw [if_pos (show a.Real ≠ Zcp a.Real from h4), decide_eq_false h4]
         rfl
theorem Zsl : Zcw 1 = some ⟨true, false, false, false, false⟩ := by kernel_rfl
theorem Zsz : Zcw 2 = some ⟨false, true, false, false, false⟩ := by kernel_rfl
theorem Zs8 : Zcw 3 = some ⟨false, true, false, false, false⟩ := by kernel_rfl
theorem Zsj : Zcw 4 = some ⟨false, true, true, false, false⟩ := by kernel_rfl
theorem Zs7 : Zcw 5 = some ⟨false, false, false, true, false⟩ := by kernel_rfl
theorem Zsw : Zcw 6 = some ⟨false, false, false, true, false⟩ := by kernel_rfl
theorem Zs0 : Zcw 7 = some ⟨false, false, false, true, false⟩ := by kernel_rfl
theorem Zsv : Zcw 8 = some ⟨false, false, false, false, true⟩ := by kernel_rfl
theorem Zs9 : Zcw 9 = some ⟨false, false, false, false, true⟩ := by kernel_rfl
def Zlt (t n b r l : Bool) (k : Int) (a : Zd) : Int :=
 if Zfv t n b r l a = false then 4
 else if k = 1 ∧ (64 : Int) < a.Text.size then 3
 else if k = 4 ∧ (a.Low < -2305843009213693952 ∨ 2305843009213693952 < a.High ∨ a.Num < a.Low ∨ a.High < a.Num) then 1
 else if a.Real ≠ Zcp a.Real then 4
 else if k < 8 then 0
 else if a.Cap < 1 ∨ 32 < a.Cap then 1
 else if a.Cap < a.List.length then 8
 else Zfe a.Kind a.List 0 a.List.length
theorem Zd2 {a : Zd} (ha : Zg2 a) {t n b r l : Bool} {s : ByteArray} (hk : ¬ (a.Kind < 1 ∨ 9 < a.Kind)) (hf : Zff a.Kind = some s)
   (ho : Zbz s (Int.toNat ((s.size : Int) - (0 : Int)) + 1) false false false false false 0 = some (t, n, b, r, l)) : Zc5 a = some (Zlt t n b r l a.Kind a) := by
 unfold Zc5 Zlt
 have hw : IntKind.i64.wrap (0 - (2305843009213693952 : Int)) = -2305843009213693952 := by decide
 rw [hf, Znf ha.real, hw, show (Int.toNat ((a.List.length : Int) - (0 : Int)) + 1) = a.List.length + 1 by omega]
 have hloop := Zmm ha a.List.length 0 (by omega)
 rw [show ((0 : Nat) : Int) = 0 from rfl] at hloop
 rw [hloop]
 simp only [Option.bind_some]
 rw [if_neg (by simpa using hk), Zv0 ha ho]
 simp only [Option.bind_some]
 by_cases h1 : Zfv t n b r l a = false
 · rw [if_pos h1, if_pos (by simp [h1])]
 · rw [if_neg h1, if_neg (by simpa using h1)]
   by_cases h2 : a.Kind = 1 ∧ (64 : Int) < a.Text.size
   · rw [if_pos h2, if_pos (by simpa using h2)]
   · rw [if_neg h2, if_neg (by simpa using h2)]
     by_cases h3 : a.Kind = 4 ∧ (a.Low < -2305843009213693952 ∨ 2305843009213693952 < a.High ∨ a.Num < a.Low ∨ a.High < a.Num)
     · rw [if_pos h3, if_pos (by simpa [or_assoc] using h3)]
     · rw [if_neg h3, if_neg (by simpa [or_assoc] using h3)]
       by_cases h4 : a.Real = Zcp a.Real
       · rw [if_neg (show ¬ (a.Real ≠ Zcp a.Real) from fun h => h h4), decide_eq_true h4]
         simp only [Bool.not_true, Bool.false_eq_true, if_false]
         by_cases h7 : a.Kind < 8
         · rw [if_pos h7, if_pos (by simpa using h7)]
         · rw [if_neg h7, if_neg (by simpa using h7)]
           by_cases h5 : a.Cap < 1 ∨ 32 < a.Cap
           · rw [if_pos h5, if_pos (by simpa using h5)]
           · rw [if_neg h5, if_neg (by simpa using h5)]
             by_cases h6 : a.Cap < a.List.length
             · rw [if_pos h6, if_pos (by simpa using h6)]
             · rw [if_neg h6, if_neg (by simpa using h6)]
               unfold endC
               by_cases h : Zfe a.Kind a.List 0 a.List.length = 0 <;> simp [h]
       · rw [if_pos (show a.Real ≠ Zcp a.Real from h4), decide_eq_false h4]
         rfl
theorem Zw5 {t n b r l : Bool} {a : Zd} (h : ¬ Zfv t n b r l a = false) (ht : t = false) : a.Text.size = 0 := by
 subst ht
 have : Zfv false n b r l a = true := by simpa using h
 unfold Zfv at this
 simp only [Bool.false_or, Bool.and_eq_true] at this
 have := Zrd.1 this.1.1.1.1
 rw [this]; rfl
theorem D_eq (t n b r l : Bool) (k : Int) (a : Zd) (ht : t = true ↔ k = 1) (hb : b = true ↔ k = 4) (hl : l = false ↔ k < 8) : Zlt t n b r l k a = Zjx t n b r l a := by
 unfold Zlt Zjx
 by_cases h1 : Zfv t n b r l a = false
 · rw [if_pos h1, if_pos h1]
 · rw [if_neg h1, if_neg h1]
   have e2 : (k = 1 ∧ (64 : Int) < a.Text.size) ↔ (64 : Int) < a.Text.size := by
     constructor
     · exact fun h => h.2
     · intro h
       refine ⟨ht.1 ?_, h⟩
       cases t
       · have := Zw5 h1 rfl; omega
       · rfl
   simp only [e2, hb, hl]
theorem Zm3 {a : Zd} (ha : Zg2 a) : ∃ c, Zdk a = some c ∧ Zc5 a = some c := by
 by_cases hk : a.Kind ≤ 0 ∨ 10 ≤ a.Kind
 · refine ⟨5, ?_, ?_⟩
   · unfold Zdk
     have hs : ∃ s, Zcw a.Kind = some s := by
       have h1 : ¬ a.Kind = 1 := by omega
       have h2 : ¬ a.Kind = 2 := by omega
       have h3 : ¬ a.Kind = 3 := by omega
       have h4 : ¬ a.Kind = 4 := by omega
       have h5 : ¬ a.Kind = 5 := by omega
       have h6 : ¬ a.Kind = 6 := by omega
       have h7 : ¬ a.Kind = 7 := by omega
       have h8 : ¬ a.Kind = 8 := by omega
       have h9 : ¬ a.Kind = 9 := by omega
       exact ⟨⟨false, false, false, false, false⟩, by simp [Zcw, Zgg, Ze9, Zgi, h1, h2, h3, h4, h5, h6, h7, h8, h9]⟩
     obtain ⟨s, hs⟩ := hs
     rw [hs]
     simp only [Option.bind_some]
     rw [if_pos (by simpa using hk)]
   · unfold Zc5
     rw [if_pos (by simp; omega)]
 · have hk2 : ¬ (a.Kind < 1 ∨ 9 < a.Kind) := by omega
   have hk' : a.Kind = 1 ∨ a.Kind = 2 ∨ a.Kind = 3 ∨ a.Kind = 4 ∨ a.Kind = 5 ∨ a.Kind = 6 ∨ a.Kind = 7 ∨ a.Kind = 8 ∨ a.Kind = 9 := by omega
   rcases hk' with h | h | h | h | h | h | h | h | h
   · exact ⟨_, Zdy ha hk (by rw [h]; exact Zsl), by rw [Zd2 ha hk2 (by rw [h]; kernel_rfl) Zy1, D_eq _ _ _ _ _ _ _ (by simp [h]) (by simp [h]) (by simp [h])]⟩
   · exact ⟨_, Zdy ha hk (by rw [h]; exact Zsz), by rw [Zd2 ha hk2 (by rw [h]; kernel_rfl) Zuo, D_eq _ _ _ _ _ _ _ (by simp [h]) (by simp [h]) (by simp [h])]⟩
   · exact ⟨_, Zdy ha hk (by rw [h]; exact Zs8), by rw [Zd2 ha hk2 (by rw [h]; kernel_rfl) Zuo, D_eq _ _ _ _ _ _ _ (by simp [h]) (by simp [h]) (by simp [h])]⟩
   · exact ⟨_, Zdy ha hk (by rw [h]; exact Zsj), by rw [Zd2 ha hk2 (by rw [h]; kernel_rfl) Zxq, D_eq _ _ _ _ _ _ _ (by simp [h]) (by simp [h]) (by simp [h])]⟩
   · exact ⟨_, Zdy ha hk (by rw [h]; exact Zs7), by rw [Zd2 ha hk2 (by rw [h]; kernel_rfl) Zsa, D_eq _ _ _ _ _ _ _ (by simp [h]) (by simp [h]) (by simp [h])]⟩
   · exact ⟨_, Zdy ha hk (by rw [h]; exact Zsw), by rw [Zd2 ha hk2 (by rw [h]; kernel_rfl) Zsa, D_eq _ _ _ _ _ _ _ (by simp [h]) (by simp [h]) (by simp [h])]⟩
   · exact ⟨_, Zdy ha hk (by rw [h]; exact Zs0), by rw [Zd2 ha hk2 (by rw [h]; kernel_rfl) Zsa, D_eq _ _ _ _ _ _ _ (by simp [h]) (by simp [h]) (by simp [h])]⟩
   · exact ⟨_, Zdy ha hk (by rw [h]; exact Zsv), by rw [Zd2 ha hk2 (by rw [h]; kernel_rfl) Zu7, D_eq _ _ _ _ _ _ _ (by simp [h]) (by simp [h]) (by simp [h])]⟩
   · exact ⟨_, Zdy ha hk (by rw [h]; exact Zs9), by rw [Zd2 ha hk2 (by rw [h]; kernel_rfl) Zu7, D_eq _ _ _ _ _ _ _ (by simp [h]) (by simp [h]) (by simp [h])]⟩
def endB : Bool → Bool ⊕ Unit
 | true => .inr ()
 | false => .inl false
def eqI (x y : Zj) : Bool := sEq x.Name y.Name && decide (keyf x.Score = keyf y.Score)
def eqL : List Zj → List Zj → Bool
 | [], [] => true
 | x :: xs, y :: ys => eqI x y && eqL xs ys
 | _, _ => false
def Zpg (a b : Zd) : Bool := (a.Kind == b.Kind) && (a.Num == b.Num) && (a.Low == b.Low) && (a.High == b.High) && decide (keyf a.Real = keyf b.Real) && (a.Cap == b.Cap) && sEq a.Text b.Text && eqL a.List b.List
theorem Zrk : ∀ {a b : List Zj}, eqL a b = true → a.length = b.length
 | [], [], _ => rfl
 | x :: xs, y :: ys, h => by
   simp only [eqL, Bool.and_eq_true] at h
   simp [Zrk h.2]
 | [], _ :: _, h => by simp [eqL] at h
 | _ :: _, [], h => by simp [eqL] at h
theorem Zm1 {a b : Zd} (ha : Zg2 a) (hb : Zg2 b) (he : a.List.length = b.List.length) : ∀ (n i : Nat), i + n = a.List.length →
   Zct a b (n + 1) (i : Int) = some (endB (eqL (a.List.drop i) (b.List.drop i)))
 | 0, i, h => by
   rw [Zct, if_neg (by simp; omega), List.drop_of_length_le (by omega), List.drop_of_length_le (by omega)]
   rfl
 | n + 1, i, h => by
   have h1 : i < a.List.length := by omega
   have h2 : i < b.List.length := by omega
   have hl := ha.len
   have hs1 := ha.sc _ (List.getElem_mem h1)
   have hs2 := hb.sc _ (List.getElem_mem h2)
   rw [Zct, if_pos (by simp; omega), Zgx h1, Zgx h2, wr1 (by omega), List.drop_eq_getElem_cons h1, List.drop_eq_getElem_cons h2]
   simp only [Option.bind_some, eqL, eqI]
   cases hn : sEq a.List[i].Name b.List[i].Name
   · simp [gd, endB]
   · simp only [Bool.not_true, Bool.not_false, gd_t, Option.bind_some]
     rw [Zkn hs1 hs2]
     simp only [Option.bind_some, Bool.false_or, Bool.true_and]
     by_cases hk : keyf a.List[i].Score = keyf b.List[i].Score
     · simp only [hk, decide_true, Bool.not_true, Bool.false_eq_true, if_false, Bool.true_and]
       exact Zm1 ha hb he n (i + 1) (by omega)
     · simp [hk, endB]
theorem Zop {a b : Zd} (ha : Zg2 a) (hb : Zg2 b) : Zd8 a b = some (Zpg a b) := by
 unfold Zd8 Zpg
 rw [Zkn ha.real hb.real]
 by_cases he : a.List.length = b.List.length
 · have := Zm1 ha hb he a.List.length 0 (by omega)
   rw [show ((0 : Nat) : Int) = 0 from rfl] at this
   rw [show (Int.toNat ((a.List.length : Int) - (0 : Int)) + 1) = a.List.length + 1 by omega, this]
   have hn : ((a.List.length : Int) != (b.List.length : Int)) = false := by simp; omega
   rw [hn]
   simp only [List.drop_zero, bne]
   generalize (a.Kind == b.Kind) = x1
   generalize (a.Num == b.Num) = x2
   generalize (a.Low == b.Low) = x3
   generalize (a.High == b.High) = x4
   generalize decide (keyf a.Real = keyf b.Real) = x5
   generalize (a.Cap == b.Cap) = x6
   generalize sEq a.Text b.Text = x7
   generalize eqL a.List b.List = x8
   clear this hn he
   revert x1 x2 x3 x4 x5 x6 x7 x8
   decide
 · have h8 : eqL a.List b.List = false := by
     cases h : eqL a.List b.List
     · rfl
     · exact absurd (Zrk h) he
   have hn : ((a.List.length : Int) != (b.List.length : Int)) = true := by simp; omega
   rw [hn, h8]
   simp only [bne, Bool.or_true, Option.bind_some, if_true, Bool.and_false, ite_self]
theorem Zm8 {a : Zd} (hl : a.List.length ≤ 9223372036854775807) : ∀ (n i : Nat), i + n = a.List.length → ∃ z, Zc0 a (n + 1) (i : Int) = some z ∧ (z = .inl 1 ∨ z = .inr ())
 | 0, i, h => by
   rw [Zc0, if_neg (by simp; omega)]
   exact ⟨_, rfl, .inr rfl⟩
 | n + 1, i, h => by
   rw [Zc0, if_pos (by simp; omega), Zgx (by omega), wr1 (by omega)]
   simp only [Option.bind_some]
   split
   · exact ⟨_, rfl, .inl rfl⟩
   · exact Zm8 hl n (i + 1) (by omega)
theorem Zvj {a : Zd} (hl : a.List.length ≤ 9223372036854775807) : ∃ c, Zer a = some c ∧ (c = 0 ∨ c = 1) ∧ (c = 0 → a.List.length ≤ 100) := by
 unfold Zer
 by_cases h : (100 : Int) < a.List.length ∨ (1000 : Int) < a.Text.size
 · rw [if_pos (by simpa using h)]
   exact ⟨1, rfl, .inr rfl, fun h => by cases h⟩
 · rw [if_neg (by simpa using h), show (Int.toNat ((a.List.length : Int) - (0 : Int)) + 1) = a.List.length + 1 by omega]
   obtain ⟨z, hz, hc⟩ := Zm8 hl a.List.length 0 (by omega)
   rw [show ((0 : Nat) : Int) = 0 from rfl] at hz
   rw [hz]
   rcases hc with rfl | rfl
   · exact ⟨1, rfl, .inr rfl, fun h => by cases h⟩
   · exact ⟨0, rfl, .inl rfl, fun _ => by omega⟩
def Zuq (a : Zu) : Prop := Zg2 a.Make ∧ a.X < W64
abbrev Zvf := List Zj
def pre (f : Zj → Bool) : Zvf → Nat
 | [] => 0
 | e :: r => if f e then pre f r + 1 else 0
theorem Zmk {k : Int} {l : Zvf} : ∀ (n i : Nat), Zfe k l i n = 0 ↔ ∀ j, i ≤ j → j < i + n → Zf0 k l j = 0
 | 0, i => ⟨fun _ j h1 h2 => by omega, fun _ => rfl⟩
 | n + 1, i => by
   by_cases h : Zf0 k l i = 0
   · rw [Zmn h, Zmk n (i + 1)]
     constructor
     · intro hh j h1 h2
       by_cases e : j = i
       · rw [e]; exact h
       · exact hh j (by omega) (by omega)
     · intro hh j h1 h2; exact hh j (by omega) (by omega)
   · rw [Zmp h]
     exact ⟨fun e => absurd e h, fun hh => absurd (hh i (Nat.le_refl _) (by omega)) h⟩
theorem Zmf {t n b r l : Bool} {a : Zd} : Zjx t n b r l a = 0 ↔ Zfv t n b r l a = true ∧ a.Text.size ≤ 64 ∧ (b = true → -2305843009213693952 ≤ a.Low ∧ a.High ≤ 2305843009213693952 ∧ a.Low ≤ a.Num ∧ a.Num ≤ a.High) ∧ a.Real = Zcp a.Real ∧ (l = true → 1 ≤ a.Cap ∧ a.Cap ≤ 32 ∧ (a.List.length : Int) ≤ a.Cap ∧ ∀ i, i < a.List.length → Zf0 a.Kind a.List i = 0) := by
 unfold Zjx
 by_cases h1 : Zfv t n b r l a = false
 · rw [if_pos h1, h1]; simp
 · have h1' : Zfv t n b r l a = true := by simpa using h1
   rw [if_neg h1, h1']
   by_cases h2 : (64 : Int) < a.Text.size
   · rw [if_pos h2]; exact ⟨fun h => absurd h (by decide), fun h => by omega⟩
   · rw [if_neg h2]
     by_cases h3 : b = true ∧ (a.Low < -2305843009213693952 ∨ 2305843009213693952 < a.High ∨ a.Num < a.Low ∨ a.High < a.Num)
     · rw [if_pos h3]; exact ⟨fun h => absurd h (by decide), fun h => by have := h.2.2.1 h3.1; omega⟩
     · rw [if_neg h3]
       by_cases h4 : a.Real = Zcp a.Real
       · rw [if_neg (fun h => h h4)]
         cases l
         · rw [if_pos rfl]
           refine ⟨fun _ => ⟨rfl, by omega, fun hb => ?_, h4, fun h => absurd h (by decide)⟩, fun _ => rfl⟩
           have : ¬ (a.Low < -2305843009213693952 ∨ 2305843009213693952 < a.High ∨ a.Num < a.Low ∨ a.High < a.Num) := fun h => h3 ⟨hb, h⟩
           omega
         · rw [if_neg (by decide)]
           by_cases h5 : a.Cap < 1 ∨ 32 < a.Cap
           · rw [if_pos h5]; exact ⟨fun h => absurd h (by decide), fun h => by have := h.2.2.2.2 rfl; omega⟩
           · rw [if_neg h5]
             by_cases h6 : a.Cap < a.List.length
             · rw [if_pos h6]; exact ⟨fun h => absurd h (by decide), fun h => by have := h.2.2.2.2 rfl; omega⟩
             · rw [if_neg h6, Zmk]
               constructor
               · intro h
                 refine ⟨rfl, by omega, fun hb => ?_, h4, fun _ => ⟨by omega, by omega, by omega, fun i hi => h i (Nat.zero_le _) (by omega)⟩⟩
                 have : ¬ (a.Low < -2305843009213693952 ∨ 2305843009213693952 < a.High ∨ a.Num < a.Low ∨ a.High < a.Num) := fun h => h3 ⟨hb, h⟩
                 omega
               · intro h j _ hj
                 exact (h.2.2.2.2 rfl).2.2.2 j (by omega)
       · rw [if_pos h4]; exact ⟨fun h => absurd h (by decide), fun h => absurd h.2.2.2.1 h4⟩
def Zpc (a : Zd) : Prop := 1 ≤ a.Kind ∧ a.Kind ≤ 9 ∧ Zfv (decide (a.Kind = 1)) (decide (2 ≤ a.Kind ∧ a.Kind ≤ 4)) (decide (a.Kind = 4)) (decide (5 ≤ a.Kind ∧ a.Kind ≤ 7)) (decide (8 ≤ a.Kind)) a = true ∧ a.Text.size ≤ 64 ∧ (a.Kind = 4 → -2305843009213693952 ≤ a.Low ∧ a.High ≤ 2305843009213693952 ∧ a.Low ≤ a.Num ∧ a.Num ≤ a.High) ∧ a.Real = Zcp a.Real ∧
 (8 ≤ a.Kind → 1 ≤ a.Cap ∧ a.Cap ≤ 32 ∧ (a.List.length : Int) ≤ a.Cap ∧ ∀ i, i < a.List.length → Zf0 a.Kind a.List i = 0)
theorem Zru {a : Zd} (ha : Zg2 a) : Zdk a = some 0 ↔ Zpc a := by
 by_cases hk : a.Kind ≤ 0 ∨ 10 ≤ a.Kind
 · have : Zdk a ≠ some 0 := by
     obtain ⟨c, hc, hc2⟩ := Zm3 ha
     unfold Zc5 at hc2
     rw [if_pos (by simp; omega)] at hc2
     rw [hc, ← hc2]; decide
   exact ⟨fun h => absurd h this, fun h => by obtain ⟨h1, h2, _⟩ := h; omega⟩
 · have fin : ∀ {t n b r l : Bool}, Zcw a.Kind = some ⟨t, n, b, r, l⟩ → t = decide (a.Kind = 1) → n = decide (2 ≤ a.Kind ∧ a.Kind ≤ 4) → b = decide (a.Kind = 4) → r = decide (5 ≤ a.Kind ∧ a.Kind ≤ 7) → l = decide (8 ≤ a.Kind) → (Zdk a = some 0 ↔ Zpc a) := by
     intro t n b r l hs h1 h2 h3 h4 h5
     rw [Zdy ha hk hs]
     constructor
     · intro h
       obtain ⟨g1, g2, g3, g4, g5⟩ := Zmf.1 (Option.some.inj h)
       refine ⟨by omega, by omega, by rw [← h1, ← h2, ← h3, ← h4, ← h5]; exact g1, g2, fun hk4 => g3 (by rw [h3]; simpa using hk4), g4, fun hk8 => g5 (by rw [h5]; simpa using hk8)⟩
     · rintro ⟨_, _, g1, g2, g3, g4, g5⟩
       congr 1
       exact Zmf.2 ⟨by rw [h1, h2, h3, h4, h5]; exact g1, g2, fun hb => g3 (by rw [h3] at hb; simpa using hb), g4, fun hb => g5 (by rw [h5] at hb; simpa using hb)⟩
   have hk' : a.Kind = 1 ∨ a.Kind = 2 ∨ a.Kind = 3 ∨ a.Kind = 4 ∨ a.Kind = 5 ∨ a.Kind = 6 ∨ a.Kind = 7 ∨ a.Kind = 8 ∨ a.Kind = 9 := by omega
   rcases hk' with h | h | h | h | h | h | h | h | h <;> rw [h] at fin
   · exact fin Zsl rfl rfl rfl rfl rfl
   · exact fin Zsz rfl rfl rfl rfl rfl
   · exact fin Zs8 rfl rfl rfl rfl rfl
   · exact fin Zsj rfl rfl rfl rfl rfl
   · exact fin Zs7 rfl rfl rfl rfl rfl
   · exact fin Zsw rfl rfl rfl rfl rfl
   · exact fin Zs0 rfl rfl rfl rfl rfl
   · exact fin Zsv rfl rfl rfl rfl rfl
   · exact fin Zs9 rfl rfl rfl rfl rfl
def I64 (x : Int) : Prop := -9223372036854775808 ≤ x ∧ x ≤ 9223372036854775807
structure RecW (r : Zd) : Prop where
 ok : Zg2 r
 num : I64 r.Num
 low : I64 r.Low
 high : I64 r.High
 kind : I64 r.Kind
 len : r.List.length ≤ 1000
structure ActW (a : Zu) : Prop where
 ok : Zuq a
 n : I64 a.N
 mkr : RecW a.Make
 xc : a.X = Zcp a.X
 inout : (a.Kind = 10 ∨ a.Kind = 11) → 0 ≤ a.N ∧ a.N ≤ 2305843009213693952
 s64 : a.S.size ≤ 64
 s16 : ¬ (5 ≤ a.Kind ∧ a.Kind ≤ 6) → a.S.size ≤ 16
theorem Zth {r : Zd} (h : r.List.length ≤ 1000) : Zeg r = some r := by
 unfold Zeg Zbq
 rw [if_pos (by omega)]; rfl
variable {r : Zd} {a : Zu}
variable {r : Zd} {a : Zu}
theorem Zv6 {k : Int} (h1 : 1 ≤ k) (h2 : k ≤ 21) : ∃ on, Zk9 k = some on ∧ Zg3 k = some on ∧ (k ≤ 4 → on = 0) ∧ (5 ≤ k → on ≠ 0) ∧ ((k = 10 ∨ k = 11) → on = 4) ∧ ((k = 18 ∨ k = 19 ∨ k = 20) → on = 8) ∧ (k = 21 → on = 9) ∧
   ((k = 5 ∨ k = 6) → on = 1) ∧ (k = 7 → on = 2) ∧ ((k = 8 ∨ k = 9) → on = 3) ∧ (k = 12 → on = 4) ∧ (k = 13 → on = 5) ∧ (k = 14 → on = 6) ∧ ((k = 15 ∨ k = 16 ∨ k = 17) → on = 7) := by
 have hk' : k = 1 ∨ k = 2 ∨ k = 3 ∨ k = 4 ∨ k = 5 ∨ k = 6 ∨ k = 7 ∨ k = 8 ∨ k = 9 ∨ k = 10 ∨ k = 11 ∨ k = 12 ∨ k = 13 ∨ k = 14 ∨ k = 15 ∨ k = 16 ∨ k = 17 ∨ k = 18 ∨ k = 19 ∨ k = 20 ∨ k = 21 := by omega
 rcases hk' with rfl | rfl | rfl | rfl | rfl | rfl | rfl | rfl | rfl | rfl | rfl | rfl | rfl | rfl | rfl | rfl | rfl | rfl | rfl | rfl | rfl
 all_goals first
   | exact ⟨0, by kernel_rfl, by kernel_rfl, by decide⟩
   | exact ⟨1, by kernel_rfl, by kernel_rfl, by decide⟩
   | exact ⟨2, by kernel_rfl, by kernel_rfl, by decide⟩
   | exact ⟨3, by kernel_rfl, by kernel_rfl, by decide⟩
   | exact ⟨4, by kernel_rfl, by kernel_rfl, by decide⟩
   | exact ⟨5, by kernel_rfl, by kernel_rfl, by decide⟩
   | exact ⟨6, by kernel_rfl, by kernel_rfl, by decide⟩
   | exact ⟨7, by kernel_rfl, by kernel_rfl, by decide⟩
   | exact ⟨8, by kernel_rfl, by kernel_rfl, by decide⟩
   | exact ⟨9, by kernel_rfl, by kernel_rfl, by decide⟩
structure ActIn (a : Zu) : Prop where
 ok : Zuq a
 n : I64 a.N
 mkr : RecW a.Make
theorem ActIn.w {a : Zu} (h : ActIn a) {c : Int} (hc : 1 ≤ a.Kind ∧ a.Kind ≤ 21 ∧ a.X = Zcp a.X ∧ a.S.size ≤ 64 ∧ ((a.Kind = 10 ∨ a.Kind = 11) → 0 ≤ a.N ∧ a.N ≤ 2305843009213693952) ∧ (a.Kind = 1 → Zdk a.Make = some 0) ∧ (¬ (5 ≤ a.Kind ∧ a.Kind ≤ 6) → a.S.size ≤ 16) ∧ sEq a.Key ⟨#[]⟩ = false ∧ a.Key.size ≤ 24) : ActW a :=
 ⟨h.ok, h.n, h.mkr, hc.2.2.1, hc.2.2.2.2.1, hc.2.2.2.1, hc.2.2.2.2.2.2.1⟩
theorem Zq4 {x : Zd} (h : Zfd x) : x.List.length ≤ 9223372036854775807 := by
 obtain ⟨_, _, _, _, _, _, _, h8, _⟩ := h
 simp only [maxLen] at h8; omega
theorem Zn7 {x : Zd} (h : Zfd x) (hl : x.List.length ≤ 100) : RecW x := by
 obtain ⟨h1, h2, h3, h4, h5, _, _, h8, h9⟩ := h
 exact ⟨⟨h5, by omega, fun e he => (h9 e he).1⟩, h2, h3, h4, h1, by omega⟩
theorem eqLr : ∀ l : List Zj, eqL l l = true
 | [] => rfl
 | x :: l => by simp [eqL, eqI, Zpz, eqLr l]
theorem Zs2 (a : Zd) : Zpg a a = true := by simp [Zpg, Zpz, eqLr]
theorem Zt2 {a : Zu} (h : Zkv a) (hl : a.Make.List.length ≤ 100) : ActIn a := by
 obtain ⟨_, _, h3, h4, _, h6, _⟩ := h
 exact ⟨⟨(Zn7 h6 hl).ok, h4⟩, h3, Zn7 h6 hl⟩
theorem Zy0 {a : Zu} (h : Zkv a) : ∃ c, Zfi a = some c ∧ (c = 0 ∨ c = 1) ∧ (c = 0 → a.Make.List.length ≤ 100) := by
 obtain ⟨c, e1, e2, e3⟩ := Zvj (Zq4 h.2.2.2.2.2.1)
 unfold Zfi
 rw [e1]
 by_cases hk : (decide ((200 : Int) < (a.Key.size : Int)) || decide ((1000 : Int) < (a.S.size : Int))) = true
 · rw [hk]; exact ⟨1, rfl, .inr rfl, fun h => by cases h⟩
 · have hk' := Bool.eq_false_iff.2 hk
   rw [hk']
   rcases e2 with rfl | rfl
   · exact ⟨0, rfl, .inl rfl, fun _ => e3 rfl⟩
   · exact ⟨1, rfl, .inr rfl, fun h => by cases h⟩
theorem Zyr {α : Type} {xs : List α} {i : Nat} (h : i < xs.length) : decide ((i : Int) < (xs.length : Int)) = true := decide_eq_true (by omega)
theorem Zv3 : Zfg = some true := by kernel_rfl
theorem Zn8 {l : List Zbw} (hl : l.length ≤ 40) (hw : ∀ o ∈ l, Zh7 o) : ∀ (n i : Nat), i + n = l.length → (Zcr l (n + 1) (i : Int) = some (.inl true)) ∨ (Zcr l (n + 1) (i : Int) = some (.inr ()) ∧ ∀ o ∈ l.drop i, ActIn o.Act)
 | 0, i, h => by
   right
   rw [Zcr, if_neg (by simp; omega), List.drop_of_length_le (by omega)]
   exact ⟨rfl, fun o ho => by cases ho⟩
 | n + 1, i, h => by
   have h1 : i < l.length := by omega
   obtain ⟨c, e1, e2, e3⟩ := Zy0 (hw _ (List.getElem_mem h1)).2
   rw [Zcr, if_pos (by simp; omega), Zgx h1, wr1 (by omega)]
   simp only [Option.bind_some]
   rw [e1]
   rcases e2 with rfl | rfl
   · simp only [Int.lt_irrefl, decide_false, Bool.false_eq_true, if_false, Option.bind_some]
     rcases Zn8 hl hw n (i + 1) (by omega) with h2 | ⟨h2, h3⟩
     · exact .inl h2
     · right
       refine ⟨h2, fun o ho => ?_⟩
       rw [List.drop_eq_getElem_cons h1] at ho
       rcases List.mem_cons.1 ho with rfl | ho
       · exact Zt2 (hw _ (List.getElem_mem h1)).2 (e3 rfl)
       · exact h3 o ho
   · left; rfl
theorem big7 {r : Zd} {l : List Zbw} (hr : Zfd r) (hw : ∀ o ∈ l, Zh7 o) : Zeq r l = some true ∨ (Zeq r l = some false ∧ RecW r ∧ l.length ≤ 40 ∧ ∀ o ∈ l, ActIn o.Act) := by
 obtain ⟨c, e1, e2, e3⟩ := Zvj (Zq4 hr)
 unfold Zeq
 rw [e1]
 simp only [Option.bind_some]
 rcases e2 with rfl | rfl
 · by_cases h : (40 : Int) < l.length
   · left; simp [h]
   · rw [if_neg (by simp; omega), show (Int.toNat ((l.length : Int) - (0 : Int)) + 1) = l.length + 1 by omega]
     have := Zn8 (l := l) (by omega) hw l.length 0 (by omega)
     rw [show ((0 : Nat) : Int) = 0 from rfl] at this
     rcases this with h1 | ⟨h1, h2⟩
     · left; rw [h1]; rfl
     · right; rw [h1]; exact ⟨rfl, Zn7 hr (e3 rfl), by omega, h2⟩
 · left; rfl
theorem Zqi (k a : Int) : ∃ b, Zek k a = some b ∧ Zdt k a = some b := by
 by_cases h : a = 7 ∨ a = 8 ∨ a = 10 ∨ a = 11 ∨ a = 13 ∨ a = 14 ∨ a = 18 ∨ a = 21
 · obtain ⟨on, o1, o2, _⟩ := Zv6 (k := a) (by omega) (by omega)
   refine ⟨on == k, ?_, ?_⟩
   · unfold Zek Zch
     rw [o1]
     rcases h with rfl | rfl | rfl | rfl | rfl | rfl | rfl | rfl <;> rfl
   · unfold Zdt
     rw [o2]
     rcases h with rfl | rfl | rfl | rfl | rfl | rfl | rfl | rfl <;> rfl
 · simp only [not_or] at h
   obtain ⟨h1, h2, h3, h4, h5, h6, h7, h8⟩ := h
   refine ⟨false, ?_, ?_⟩
   · unfold Zek Zch
     simp [h1, h2, h3, h4, h5, h6, h7, h8]
   · unfold Zdt
     simp [h1, h2, h3, h4, h5, h6, h7, h8]
def INFN : Nat := 18442240474082181120
theorem Zxy : Zje (-1 : Int) = some INFN := by kernel_rfl
theorem Zxr : ∃ b, Zhi = some b ∧ b < W64 ∧ isn b := by
 refine ⟨NANB, by kernel_rfl, by decide, ?_⟩
 unfold isn rg INF NANB TOP; decide
theorem Zhr {k : Int} {b : Nat} {cap : Int} (hk : 0 ≤ k ∧ k ≤ 9) (hb : b < W64) : RecW ({ Kind := k, Num := (0 : Int), Low := (0 : Int), High := (0 : Int), Real := b, Cap := cap, Text := ByteArray.empty, List := ([] : List Zj) } : Zd) :=
 ⟨⟨hb, by show (0 : Nat) < _; decide, fun e he => by cases he⟩, show I64 0 by unfold I64; decide, show I64 0 by unfold I64; decide, show I64 0 by unfold I64; decide, show I64 k by unfold I64; omega, by show (0 : Nat) ≤ _; decide⟩
theorem Zsc {r : Zd} (hr : RecW r) : ∃ s ok, Zfr r = some (s, ok) ∧ Zew r = some (s, ok) ∧ RecW s ∧ (ok = true → Zpc r ∧ s.List = [] ∧ ((2 ≤ r.Kind ∧ r.Kind ≤ 4) → s.Num = 0) ∧ (r.Kind = 5 → s.Real = INFN) ∧ (r.Kind = 6 → isn s.Real)) := by
 obtain ⟨c, e1, e2⟩ := Zm3 hr.ok
 have h0 : RecW ({ Kind := (0 : Int), Num := (0 : Int), Low := (0 : Int), High := (0 : Int), Real := (0 : Nat), Cap := (0 : Int), Text := ByteArray.empty, List := ([] : List Zj) } : Zd) := Zhr ⟨by decide, by decide⟩ (by decide)
 unfold Zfr Zew
 rw [e1, e2]
 simp only [Option.bind_some]
 by_cases hc : c = 0
 · subst hc
   have hg := (Zru hr.ok).1 e1
   obtain ⟨nb, n1, n2, n3⟩ := Zxr
   have hk : r.Kind = 1 ∨ r.Kind = 2 ∨ r.Kind = 3 ∨ r.Kind = 4 ∨ r.Kind = 5 ∨ r.Kind = 6 ∨ r.Kind = 7 ∨ r.Kind = 8 ∨ r.Kind = 9 := by have := hg.1; have := hg.2.1; omega
   unfold Ze3
   rcases hk with h | h | h | h | h | h | h | h | h
   · rw [h]; exact ⟨_, false, rfl, rfl, h0, fun h => by cases h⟩
   · rw [h]; exact ⟨_, true, rfl, rfl, Zhr ⟨by decide, by decide⟩ (by decide), fun _ => ⟨hg, rfl, fun _ => rfl, fun h => by omega, fun h => by omega⟩⟩
   · rw [h]; exact ⟨_, true, rfl, rfl, Zhr ⟨by decide, by decide⟩ (by decide), fun _ => ⟨hg, rfl, fun _ => rfl, fun h => by omega, fun h => by omega⟩⟩
   · rw [h]; exact ⟨_, true, rfl, rfl, Zhr ⟨by decide, by decide⟩ (by decide), fun _ => ⟨hg, rfl, fun _ => rfl, fun h => by omega, fun h => by omega⟩⟩
   · rw [h, Zxy]; exact ⟨_, true, rfl, rfl, Zhr ⟨by decide, by decide⟩ (by decide), fun _ => ⟨hg, rfl, fun h => by omega, fun _ => rfl, fun h => by omega⟩⟩
   · rw [h, n1]; exact ⟨_, true, rfl, rfl, Zhr ⟨by decide, by decide⟩ n2, fun _ => ⟨hg, rfl, fun h => by omega, fun h => by omega, fun _ => n3⟩⟩
   · rw [h]; exact ⟨_, false, rfl, rfl, h0, fun h => by cases h⟩
   · rw [h]; exact ⟨_, true, rfl, rfl, Zhr ⟨by decide, by decide⟩ (by decide), fun _ => ⟨hg, rfl, fun h => by omega, fun h => by omega, fun h => by omega⟩⟩
   · rw [h]; exact ⟨_, true, rfl, rfl, Zhr ⟨by decide, by decide⟩ (by decide), fun _ => ⟨hg, rfl, fun h => by omega, fun h => by omega, fun h => by omega⟩⟩
 · rw [if_pos (by simpa using hc), if_pos (by simp [hc])]
   exact ⟨_, false, rfl, rfl, h0, fun h => by cases h⟩
theorem Zv5 {a : Nat} (ha : a < W64) (hc : a = Zcp a) : Zhm a INFN = some a := by
 unfold Zhm
 rw [Zns ha (by decide), Zkd ha, ← hc]
 have : ¬ keyf a < keyf INFN := by
   have hi : keyf INFN = 4503599627370495 := by decide
   rw [hi]
   unfold keyf
   split
   · omega
   · rename_i hn
     unfold isn rg INF at hn
     split
     · rename_i ht
       have : a % TOP = a - TOP := by
         simp only [TOP, W64] at *
         omega
       rw [this] at hn
       simp only [TOP, W64] at *
       omega
     · omega
 rw [show decide (keyf a < keyf INFN) = false from decide_eq_false this]
 rfl
theorem Zvv {a b : Nat} (ha : a < W64) (hb : b < W64) (hc : a = Zcp a) (hn : isn b) : Zhp a b = some a := by
 unfold Zhp
 rw [Zns hb ha, Zkd ha, ← hc]
 have : ¬ keyf b < keyf a := by
   have hi : keyf b = 18444492273895866369 := by unfold keyf; rw [if_pos hn]
   rw [hi]
   unfold keyf
   split
   · omega
   · rename_i hna
     unfold isn rg INF at hna
     split
     · simp only [TOP, W64] at *; omega
     · rename_i ht
       have : a % TOP = a := by simp only [TOP] at *; omega
       rw [this] at hna
       simp only [TOP] at *; omega
 rw [show decide (keyf b < keyf a) = false from decide_eq_false this]
 rfl
theorem Zmg {r s : Zd} (hr : RecW r) (hs : RecW s) (hg : Zpc r) (h0 : s.List = []) (h1 : (2 ≤ r.Kind ∧ r.Kind ≤ 4) → s.Num = 0) (h5 : r.Kind = 5 → s.Real = INFN) (h6 : r.Kind = 6 → isn s.Real) (l : List Zd) (hl : l.length ≤ 1000) (hall : ∀ e ∈ l, e = s) : ∀ (n i : Nat), i + n = l.length → Zb5 l (n + 1) r (i : Int) = some r
 | 0, i, h => by rw [Zb5, if_neg (by simp; omega)]
 | n + 1, i, h => by
   have hi : i < l.length := by omega
   have he : l[i] = s := hall _ (List.getElem_mem hi)
   have ih := Zmg hr hs hg h0 h1 h5 h6 l hl hall n (i + 1) (by omega)
   have hreal : r.Real = Zcp r.Real := hg.2.2.2.2.2.1
   have hk : r.Kind = 1 ∨ r.Kind = 2 ∨ r.Kind = 3 ∨ r.Kind = 4 ∨ r.Kind = 5 ∨ r.Kind = 6 ∨ r.Kind = 7 ∨ r.Kind = 8 ∨ r.Kind = 9 := by have := hg.1; have := hg.2.1; omega
   have hnum : (2 ≤ r.Kind ∧ r.Kind ≤ 4) → Zcl (i : Int) (Zb5 l (n + 1)) { r with Num := IntKind.i64.wrap (r.Num + s.Num) } = some r := fun hk => by
     unfold Zcl
     have hI := hr.num
     unfold I64 at hI
     rw [h1 hk, Int.add_zero, wr hI.1 hI.2, wr1 (by omega)]
     exact ih
   have hl2 : Zdh s (Int.toNat ((s.List.length : Int) - (0 : Int)) + 1) r (0 : Int) = some r := by
     rw [h0, Zdh, h0]; rfl
   have hj3 : ∀ b, Ze2 r (i : Int) s (Zb5 l (n + 1)) b = some r := fun b => by
     unfold Ze2
     rw [hl2]
     unfold Zcl
     rw [wr1 (by omega)]
     cases b
     · exact ih
     · exact ih
   rw [Zb5, Zyr hi, if_pos rfl, Zgx hi, he]
   simp only [Option.bind_some]
   unfold Ze0
   rcases hk with h | h | h | h | h | h | h | h | h
   · simp [h, hj3]
   · have hn := hnum (by omega)
     rw [h] at hn
     simp [h]; exact hn
   · have hn := hnum (by omega)
     rw [h] at hn
     simp [h]; exact hn
   · have hn := hnum (by omega)
     rw [h] at hn
     simp [h]; exact hn
   · simp [h, h5 h, Zv5 hr.ok.real hreal]
     unfold Zcl
     rw [wr1 (by omega), ← h]; exact ih
   · simp [h, Zvv hr.ok.real hs.ok.real hreal (h6 h)]
     unfold Zcl
     rw [wr1 (by omega), ← h]; exact ih
   · simp [h, hj3]
   · simp [h, hj3]
   · simp [h, hj3]
theorem Zrh {m : Int} {r7 : Zd × Bool} (hm : m ≤ 8) : ∀ (n i : Nat) (acc : List Zd), (i : Int) + n = m → acc.length = i → (∀ e ∈ acc, e = r7.1) → ∃ l, Zb1 m r7 (n + 1) acc (i : Int) = some l ∧ l.length ≤ 8 ∧ ∀ e ∈ l, e = r7.1
 | 0, i, acc, h, hl, ha => ⟨acc, by rw [Zb1, if_neg (by simp; omega)], by omega, ha⟩
 | n + 1, i, acc, h, hl, ha => by
   rw [Zb1, if_pos (by simp; omega), if_pos (by simp only [List.length_singleton]; omega), wr1 (by omega)]
   exact Zrh hm n (i + 1) _ (by omega) (by simp [hl]) (fun e he => by
     rcases List.mem_append.1 he with h | h
     · exact ha e h
     · exact List.mem_singleton.1 h)
theorem ShareSlices_true (a0 : Zd) (a1 : List Int) (a2 : Int) (w0 : Zfd a0) (w1 : a1.length = 2 ∧ ∀ e0 ∈ a1, (IntKind.i64).min ≤ e0 ∧ e0 ≤ (IntKind.i64).max) (w2 : (IntKind.i64).min ≤ a2 ∧ a2 ≤ (IntKind.i64).max) : Zd6 a0 a1 a2 = some true := by
 unfold Zd6
 rw [Zv3]
 simp only [Option.bind_some, Bool.not_true, Bool.false_eq_true, if_false]
 rcases big7 (l := []) w0 (fun o ho => by cases ho) with hb | ⟨hb, hr, _, _⟩
 · rw [hb]; rfl
 · rw [hb]
   simp only [Option.bind_some, Bool.false_eq_true, if_false]
   obtain ⟨s, ok, e1, e2, hs, hok⟩ := Zsc hr
   rw [e1, e2]
   simp only [Option.bind_some]
   have i0 : idx a1 (0 : Int) = some a1[0] := Zgx (xs := a1) (i := 0) (by omega)
   have i1 : idx a1 (1 : Int) = some a1[1] := Zgx (xs := a1) (i := 1) (by omega)
   obtain ⟨b, b1, b2⟩ := Zqi a1[0] a1[1]
   rw [i0, i1]
   simp only [Option.bind_some]
   rw [b1]
   simp only [Option.bind_some]
   rw [b2]
   simp only [Option.bind_some, bne_self_eq_false, Bool.or_self, Bool.not_false, gd_t]
   rw [Zop hs.ok hs.ok, Zs2]
   simp only [Option.bind_some, Bool.not_true, Bool.or_self, Bool.false_eq_true, if_false]
   split
   · rfl
   · rename_i hc
     simp only [Bool.or_eq_true, Bool.not_eq_true', decide_eq_true_eq, not_or, Bool.not_eq_false] at hc
     obtain ⟨⟨h1, h2⟩, h3⟩ := hc
     obtain ⟨hg, g0, g1, g5, g6⟩ := hok h1
     obtain ⟨l, l1, l2, l3⟩ := Zrh (m := a2) (r7 := (s, ok)) (by omega) a2.toNat 0 [] (by omega) rfl (fun e he => by cases he)
     rw [show Int.toNat (a2 - (0 : Int)) = a2.toNat by omega]
     rw [show ((0 : Nat) : Int) = 0 from rfl] at l1
     rw [l1]
     simp only [Option.bind_some]
     have hm := Zmg hr hs hg g0 g1 g5 g6 l (by omega) l3 l.length 0 (by omega)
     rw [show ((0 : Nat) : Int) = 0 from rfl] at hm
     unfold Zg9
     rw [Zth hr.len]
     simp only [Option.bind_some]
     rw [show Int.toNat ((l.length : Int) - (0 : Int)) = l.length by omega, hm]
     simp only [Option.bind_some]
     rw [Zop hr.ok hr.ok, Zs2]
     rfl
end Go.CL
namespace Go.CL
open Go Go.RowKit Go.Proofs Go.ChangeShapes Go.WideShapes Go.ChangeAt
theorem Ztx : ownKnob Tryd.prog.godebug = none := by kernel_rfl
theorem Zlk : laidOutB Tryd.prog = true := by kernel_rfl
theorem op_3 : Opn Tryd.prog 3 (Kd.int .i64) (fun x => ((IntKind.i64).min ≤ x ∧ x ≤ (IntKind.i64).max)) := Zq9 Tryd.underlying3 (by kernel_rfl)
theorem op_2 : Opn Tryd.prog 2 (Kd.int .i64) (fun x => ((IntKind.i64).min ≤ x ∧ x ≤ (IntKind.i64).max)) := Zq9 Tryd.underlying2 (by kernel_rfl)
theorem Zun : Opn Tryd.prog 22 Kd.flt (fun x => (x < 2 ^ 64)) := Zvm Tryd.underlying22 (by kernel_rfl)
theorem op_9 : Opn Tryd.prog 9 Kd.str (fun x => (x.size ≤ maxLen)) := Zwr Tryd.underlying9 (by kernel_rfl)
theorem Zzq : Opn Tryd.prog 75 Zm Zjt := ⟨by kernel_rfl, fun hg h => by
 obtain ⟨hl, n, hf⟩ := Znd Tryd.underlying75 h
 obtain ⟨y0, h0⟩ := hf 0 _ rfl
 obtain ⟨v0, k0, w0⟩ := Zun.op hg h0
 obtain ⟨y1, h1⟩ := hf 1 _ rfl
 obtain ⟨v1, k1, w1⟩ := op_9.op hg h1
 refine ⟨⟨v0, v1⟩, ⟨hl.trans (by kernel_rfl), (List.forall_mem_cons.2 ⟨k0, (List.forall_mem_cons.2 ⟨k1, (fun _ h => by cases h)⟩)⟩)⟩, w0, w1⟩, fun h => Zok Tryd.underlying75 h⟩
theorem Zyp : Opn Tryd.prog 23 Zm.sl (fun x => (x.length ≤ maxLen ∧ ∀ e0 ∈ x, (Zjt e0))) := Zx8 Tryd.underlying23 (by kernel_rfl) Zzq (by decide)
theorem Zzh : Opn Tryd.prog 25 Zf Zfd := ⟨by kernel_rfl, fun hg h => by
 obtain ⟨hl, n, hf⟩ := Znd Tryd.underlying25 h
 obtain ⟨y0, h0⟩ := hf 0 _ rfl
 obtain ⟨v0, k0, w0⟩ := op_3.op hg h0
 obtain ⟨y1, h1⟩ := hf 1 _ rfl
 obtain ⟨v1, k1, w1⟩ := op_2.op hg h1
 obtain ⟨y2, h2⟩ := hf 2 _ rfl
 obtain ⟨v2, k2, w2⟩ := op_2.op hg h2
 obtain ⟨y3, h3⟩ := hf 3 _ rfl
 obtain ⟨v3, k3, w3⟩ := op_2.op hg h3
 obtain ⟨y4, h4⟩ := hf 4 _ rfl
 obtain ⟨v4, k4, w4⟩ := Zun.op hg h4
 obtain ⟨y5, h5⟩ := hf 5 _ rfl
 obtain ⟨v5, k5, w5⟩ := op_3.op hg h5
 obtain ⟨y6, h6⟩ := hf 6 _ rfl
 obtain ⟨v6, k6, w6⟩ := op_9.op hg h6
 obtain ⟨y7, h7⟩ := hf 7 _ rfl
 obtain ⟨v7, k7, w7⟩ := Zyp.op hg h7
 refine ⟨⟨v0, v1, v2, v3, v4, v5, v6, v7⟩, ⟨hl.trans (by kernel_rfl), (List.forall_mem_cons.2 ⟨k0, (List.forall_mem_cons.2 ⟨k1, (List.forall_mem_cons.2 ⟨k2, (List.forall_mem_cons.2 ⟨k3, (List.forall_mem_cons.2 ⟨k4, (List.forall_mem_cons.2 ⟨k5, (List.forall_mem_cons.2 ⟨k6, (List.forall_mem_cons.2 ⟨k7, (fun _ h => by cases h)⟩)⟩)⟩)⟩)⟩)⟩)⟩)⟩)⟩, w0, w1, w2, w3, w4, w5, w6, w7⟩, fun h => Zok Tryd.underlying25 h⟩
theorem Zzw : Opn Tryd.prog 26 (Kd.arr 2 (Kd.int .i64)) (fun x => (x.length = 2 ∧ ∀ e0 ∈ x, ((IntKind.i64).min ≤ e0 ∧ e0 ≤ (IntKind.i64).max))) := Zwn Tryd.underlying26 (by kernel_rfl) op_3 (by decide)
theorem Zuv : Det Tryd.prog 9 := Zvk Tryd.underlying9
theorem Zzz : Det Tryd.prog 3 := Zvu Tryd.underlying3
theorem Zv8 : Det Tryd.prog 108 := Zse Tryd.underlying108 (fun i f h => match i, f, h with
 | 0, _, h => by obtain rfl := Option.some.inj h; exact Zuv
 | 1, _, h => by obtain rfl := Option.some.inj h; exact Zzz
 | 2, _, h => by obtain rfl := Option.some.inj h; exact Zuv
 | _ + 3, _, h => by cases h) (by kernel_rfl)
theorem Zwh : Det Tryd.prog 127 := Zwe Tryd.underlying127 Zv8 (by kernel_rfl)
theorem ShareSlices_met (os : Os) (args : Array Value) : laidMetH Tryd.prog [("moiety/act.kinds", Go.Proofs.YtbiobpmabomjfaaDoor.Rows.laid_moiety_act_kinds)] ((World.doorLaid Tryd.prog 400 os).forCall (fun _ _ => 0) ⟨#[], args, []⟩).memory :=
 laidMetH_of_parts3 (fuel := 8) (laidMet_of_run' 8 (by kernel_rfl) (by kernel_rfl)) (by kernel_rfl) (by kernel_rfl)
theorem ShareSlices_gl {W : World} (h : laidMetH Tryd.prog [("moiety/act.kinds", Go.Proofs.YtbiobpmabomjfaaDoor.Rows.laid_moiety_act_kinds)] W) : GLok W (fun b _ => b < W.heap.size) := by
 have g0 := Zt7 (P := Tryd.prog) (nm := "moiety/act.kinds") (d := Go.Proofs.YtbiobpmabomjfaaDoor.Rows.laid_moiety_act_kinds) (g := 1) (t := 127) (W := W) (w0 := W) (cells := [.string ⟨#[]⟩, .int .i64 (0), .string ⟨#[]⟩, .string ⟨#[110, 101, 119]⟩, .int .i64 (0), .string ⟨#[109]⟩, .string ⟨#[100, 114, 111, 112]⟩, .int .i64 (0), .string ⟨#[]⟩, .string ⟨#[105, 115]⟩, .int .i64 (0), .string ⟨#[]⟩, .string ⟨#[108, 111, 111, 107]⟩, .int .i64 (0), .string ⟨#[]⟩, .string ⟨#[112, 117, 116]⟩, .int .i64 (1), .string ⟨#[115]⟩, .string ⟨#[115, 119, 97, 112]⟩, .int .i64 (1), .string ⟨#[115]⟩, .string ⟨#[97, 100, 100]⟩, .int .i64 (2), .string ⟨#[110]⟩, .string ⟨#[112, 108, 117, 115]⟩, .int .i64 (3), .string ⟨#[110]⟩, .string ⟨#[114, 101, 97, 99, 104]⟩, .int .i64 (3), .string ⟨#[110]⟩, .string ⟨#[105, 110]⟩, .int .i64 (4), .string ⟨#[110]⟩, .string ⟨#[111, 117, 116]⟩, .int .i64 (4), .string ⟨#[110]⟩, .string ⟨#[101, 110, 111, 117, 103, 104]⟩, .int .i64 (4), .string ⟨#[110]⟩, .string ⟨#[114, 97, 105, 115, 101]⟩, .int .i64 (5), .string ⟨#[120]⟩, .string ⟨#[108, 111, 119, 101, 114]⟩, .int .i64 (6), .string ⟨#[120]⟩, .string ⟨#[115, 104, 105, 102, 116]⟩, .int .i64 (7), .string ⟨#[120]⟩, .string ⟨#[115, 99, 97, 108, 101]⟩, .int .i64 (7), .string ⟨#[120]⟩, .string ⟨#[102, 105, 120]⟩, .int .i64 (7), .string ⟨#[120]⟩, .string ⟨#[106, 111, 105, 110]⟩, .int .i64 (8), .string ⟨#[115]⟩, .string ⟨#[108, 101, 97, 118, 101]⟩, .int .i64 (8), .string ⟨#[115]⟩, .string ⟨#[104, 97, 115]⟩, .int .i64 (8), .string ⟨#[115]⟩, .string ⟨#[111, 102, 102, 101, 114]⟩, .int .i64 (9), .string ⟨#[120, 115]⟩]) (fu := 8) (by kernel_rfl) (by kernel_rfl) Zwh (by kernel_rfl) (by kernel_rfl) h
 intro e he i v hv
 rcases List.mem_cons.1 he with rfl | he
 · exact ⟨(Zlm (g0 i v hv)).2, g0 i v hv⟩
 cases he
theorem ShareSlices_ret (os : Os) (started : os.Started) (H : Type) (enc : TypeId × Value → H) :
   ReturnsInHanded {} Tryd.checked os 3 .any (fun w args => (Go.Proofs.YtbiobpmabomjfaaDoor.Rows.shareSlicesSpec.pre enc Tryd.prog Tryd.f3 [] false w args ∧ laidMetH Tryd.prog [("moiety/act.kinds", Go.Proofs.YtbiobpmabomjfaaDoor.Rows.laid_moiety_act_kinds)] w) ∧ sizedMet enc Tryd.prog Tryd.f3 (OpenSpec.ofChange Go.Proofs.YtbiobpmabomjfaaDoor.Rows.shareSlicesSpec) false w args) (Go.Proofs.YtbiobpmabomjfaaDoor.Rows.shareSlicesSpec.post enc Tryd.prog Tryd.f3 false true false false) := by
 refine returnsInHanded_of_change_and (C := Tryd.checked) (X := fun w _ => laidMetH Tryd.prog [("moiety/act.kinds", Go.Proofs.YtbiobpmabomjfaaDoor.Rows.laid_moiety_act_kinds)] w) (fun _ _ _ hh h => h.of_heap hh) Ztx started (by kernel_rfl) Tryd.func3
   (ChangeSpec.witness_shaped (enc := enc) (C := Tryd.checked) (os := os) (X := fun w _ => laidMetH Tryd.prog [("moiety/act.kinds", Go.Proofs.YtbiobpmabomjfaaDoor.Rows.laid_moiety_act_kinds)] w) false (World.doorLaid Tryd.prog 400 os) #[.agg #[.int .i64 0, .int .i64 0, .int .i64 0, .int .i64 0, .float .f64 0, .int .i64 0, .string ByteArray.empty, .slice none 0 0], .agg #[.int .i64 0, .int .i64 0], .int .i64 0] 8 rfl (World.shaped_of_RefB (by kernel_rfl) (by kernel_rfl)) (by kernel_rfl) (by kernel_rfl) (by kernel_rfl) (ShareSlices_met os _)) ?_
 intro W base args ds gs before hval0 hW hcnd _ hL _
 have hval : ∀ (j : Nat) t v, Tryd.f3.params[j]? = some t → args[j]? = some v → Value.okWide Tryd.prog W .any base t v := hval0
 have hW' := hW
 obtain ⟨p, q, hA0, hV, rfl, hfz, hnd⟩ := hW
 have hA : DataW.TrodAll enc Tryd.prog W 0 (fun _ => true) true Tryd.f3.params.toList args.toList ds p := hA0
 rw [Tryd.params3] at hA hval
 obtain ⟨v0, v1, v2, d0, d1, d2, p0, p1, p2, rfl, rfl, rfl, h0, h1, h2⟩ := trodAll_three hA
 obtain ⟨rfl, rfl⟩ := trodVars_none hV
 simp only [List.append_nil] at hW'
 have hg : GLok W (fun b _ => b < W.heap.size) := (ShareSlices_gl hL)
 have hk0 := h0
 obtain ⟨a0, q0, w0⟩ := Zpr Zzh hg h0 (hval 0 25 v0 rfl rfl)
 have hk1 := h1
 obtain ⟨a1, q1, w1⟩ := Zpr Zzw hg h1 (hval 1 26 v1 rfl rfl)
 have hk2 := h2
 obtain ⟨a2, q2, w2⟩ := Zpr op_3 hg h2 (hval 2 3 v2 rfl rfl)
 refine (Ziw a0 a1 a2 (ShareSlices_true a0 a1 a2 w0 w1 w2) (GW W hg) [v0, v1, v2] (Zgk q0 (Zgk q1 (Zgk q2 Zcu)))).mono fun e W' ⟨g', v, he, hw, hs, hq⟩ => ?_
 subst he; subst hw
 rw [Zeh.1 hq]
 have hbel := Ztm hs
 have hlt : ∀ x ∈ (p0 ++ p1 ++ p2), x.block < W.heap.size := fun x hx => by simpa using hW'.lt x hx
 exact ⟨_, rfl, Zo0 (pv := []) hW' hbel (trodAll_mk1 (shut_bool Tryd.underlying4 true)) (trodAll_mk3 (Below.trod Zlk (by kernel_rfl) (of_decide_eq_true (by kernel_rfl)) hk0 hbel (fun x hx => hlt x (by simp [hx]))) (Below.trod Zlk (by kernel_rfl) (of_decide_eq_true (by kernel_rfl)) hk1 hbel (fun x hx => hlt x (by simp [hx]))) (Below.trod Zlk (by kernel_rfl) (of_decide_eq_true (by kernel_rfl)) hk2 hbel (fun x hx => hlt x (by simp [hx])))) rfl⟩
theorem ShareSlices_holds : Go.Proofs.YtbiobpmabomjfaaDoor.Rows.ShareSlicesSaid :=
 OpenClaim.holds_of_wide 3 Tryd.f3 rfl rfl rfl rfl rfl rfl rfl ⟨rfl, rfl, rfl, rfl, rfl⟩ rfl rfl rfl rfl rfl (by kernel_rfl) Tryd.func3 (by kernel_rfl)
   (of_decide_eq_true (by kernel_rfl)) (by unfold Func.isWrapper; first | (rw [if_pos (by decide +kernel)]; kernel_rfl) | (rw [if_neg (by decide +kernel)]; exact ⟨rfl, rfl⟩))
   (fun os started H enc _ => ShareSlices_ret os started H enc)
theorem ShareSlices_card : Go.Proofs.YtbiobpmabomjfaaDoor.Rows.ShareSlicesCardSaid :=
 Claim7.holds_tied_plain_at .later [] [.data] true (true, "3aa006449d8ddc9dc8d5c5e333f2b4dcad9319e64e39586c0df1deb5178ade36") false
   ShareSlices_holds (fun _ h => by cases h) (by kernel_rfl) (fun _ h => by cases h) Go.Proofs.YtbiobpmabomjfaaDoor.shareSlices_row_tie rfl ⟨rfl, rfl⟩ (by kernel_rfl) rfl
   (fun f fn hf hfn => by
     obtain rfl : f = 3 := Option.some.inj ((show Tryd.prog.funcNamed "moiety/moietylaw07.ShareSlices" = some 3 by kernel_rfl).symm.trans hf) |>.symm
     obtain rfl : fn = Tryd.f3 := (Option.some.inj (Tryd.func3.symm.trans hfn)).symm
     exact ⟨by kernel_rfl, fun j t ht => by
       rw [Tryd.params3] at ht
       have hm : t ∈ [25, 26, 3] := by simpa using Array.mem_of_getElem? ht
       have hall : (([25, 26, 3] : List TypeId).all fun u => !Tryd.prog.wantsStandIn u) = true := by kernel_rfl
       exact (show Tryd.prog.wantsStandIn t = false by simpa using List.all_eq_true.1 hall t hm)⟩)
   (by kernel_rfl)
end Go.CL
