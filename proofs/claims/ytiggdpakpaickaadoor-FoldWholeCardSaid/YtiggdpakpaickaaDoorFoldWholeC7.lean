/- A part of the proof of FoldWhole. -/
import Derived.Test.YtiggdpakpaickaaDoorFoldWholeC6
import Derived.Test.YtiggdpakpaickaaDoorRows
import Derived.Test.YtiggdpakpaickaaDoorCards
import Derived.Test.YtiggdpakpaickaaDoorTie
import Derived.SevenTiedAt
set_option linter.unusedVariables false
set_option linter.unusedSimpArgs false
set_option maxRecDepth 100000
namespace Go.CL
open Go
abbrev Zc8 := List Zj
def NS (l : Zc8) : Prop := l.Pairwise fun p q => sLt p.Name q.Name = true
def pre (f : Zj → Bool) : Zc8 → Nat
 | [] => 0
 | e :: r => if f e then pre f r + 1 else 0
theorem Zmv (f : Zj → Bool) : ∀ l : Zc8, pre f l ≤ l.length
 | [] => Nat.le_refl _
 | e :: r => by
   have := Zmv f r
   simp only [pre]
   split <;> simp <;> omega
theorem Zv3 {f : Zj → Bool} : ∀ {l : Zc8} {k : Nat} (h : k < pre f l), ∃ e, l[k]? = some e ∧ f e = true
 | [], k, h => by simp [pre] at h
 | e :: r, k, h => by
   simp only [pre] at h
   split at h
   · rename_i hf
     cases k with
     | zero => exact ⟨e, rfl, hf⟩
     | succ k => exact Zv3 (l := r) (by omega)
   · omega
theorem Zr9 {f : Zj → Bool} : ∀ {l : Zc8} {e : Zj}, l[pre f l]? = some e → f e = false
 | [], e, h => by simp [pre] at h
 | x :: r, e, h => by
   simp only [pre] at h
   split at h
   · exact Zr9 (l := r) (by simpa using h)
   · rename_i hf
     simp at h; subst h; simpa using hf
theorem Zr0 {s : ByteArray} {l : Zc8} (hs : NS l) {k : Nat} (hk : k < l.length) : sLt (l[k]).Name s = decide (k < pre (fun e => sLt e.Name s) l) := by
 by_cases h : k < pre (fun e => sLt e.Name s) l
 · obtain ⟨e, he, hf⟩ := Zv3 h
   rw [List.getElem?_eq_getElem hk] at he
   obtain rfl := Option.some.inj he
   simp only [h, decide_true]; exact hf
 · simp only [h, decide_false]
   have hp : pre (fun e => sLt e.Name s) l < l.length := by omega
   have h1 := Zr9 (List.getElem?_eq_getElem hp)
   rcases Nat.lt_or_eq_of_le (Nat.le_of_not_lt h) with hlt | heq
   · have h2 := List.pairwise_iff_getElem.1 hs _ _ hp hk hlt
     cases h3 : sLt (l[k]).Name s
     · rfl
     · rw [Zfc h2 h3] at h1; cases h1
   · have : l[k] = l[pre (fun e => sLt e.Name s) l] := by congr 1; exact heq.symm
     rw [this]; exact h1
theorem half {i j : Nat} (h : i + j < 4611686018427387904) : IntKind.i64.wrap (Int.fdiv (IntKind.u64.wrap (IntKind.i64.wrap ((i : Int) + (j : Int)))) (2 ^ 1)) = (((i + j) / 2 : Nat) : Int) := by
 rw [wr (x := (i : Int) + j) (by omega) (by omega), wru (by omega) (by omega)]
 have : Int.fdiv ((i : Int) + j) (2 ^ 1) = (((i + j) / 2 : Nat) : Int) := by
   rw [Int.fdiv_eq_ediv_of_nonneg _ (by decide)]; omega
 rw [this, wr (by omega) (by omega)]
theorem Z3l (e : Zj) (s : ByteArray) : ∃ c : Int, Zh7 e s = some c ∧ decide (c < 0) = sLt e.Name s ∧ (c == 0) = sEq e.Name s := by
 unfold Zh7
 by_cases h : sLt e.Name s = true
 · exact ⟨-1, by rw [if_pos h], by rw [h]; rfl, by rw [Zd1.2 (Zk2 h)]; rfl⟩
 · have h' : sLt e.Name s = false := by simpa using h
   by_cases h2 : e.Name = s
   · exact ⟨0, by rw [if_neg h, h', Zhe.2 h2]; rfl, by rw [h']; rfl, by rw [Zhe.2 h2]; rfl⟩
   · exact ⟨1, by rw [if_neg h, h', Zd1.2 h2]; rfl, by rw [h']; rfl, by rw [Zd1.2 h2]; rfl⟩
theorem Zts {l : Zc8} {s : ByteArray} (hs : NS l) (hl : l.length < 2305843009213693952) : ∀ (n i j : Nat), j - i < n → i ≤ pre (fun e => sLt e.Name s) l → pre (fun e => sLt e.Name s) l ≤ j → j ≤ l.length →
   Zbe l s (fun y0 y1 => Zh7 y0 y1) n (i : Int) (j : Int) = some ((pre (fun e => sLt e.Name s) l : Nat) : Int)
 | 0, i, j, h, _, _, _ => by omega
 | n + 1, i, j, h, h1, h2, h3 => by
   rw [Zbe]
   by_cases hij : i < j
   · rw [if_pos (by simpa using hij), half (by omega)]
     have hm : (i + j) / 2 < l.length := by omega
     rw [Zcy hm]
     obtain ⟨c, hc, hc1, _⟩ := Z3l l[(i + j) / 2] s
     simp only [Option.bind_some, hc]
     rw [hc1, Zr0 hs hm]
     unfold Zb6
     by_cases hp : (i + j) / 2 < pre (fun e => sLt e.Name s) l
     · rw [if_pos (by simpa using hp), wr1 (by omega)]
       exact Zts hs hl n ((i + j) / 2 + 1) j (by omega) (by omega) h2 h3
     · rw [if_neg (by simpa using hp)]
       exact Zts hs hl n i ((i + j) / 2) (by omega) h1 (by omega) (by omega)
   · rw [if_neg (by simpa using hij)]
     congr 2; omega
def isAt (s : ByteArray) (l : Zc8) : Bool := match l[pre (fun e => sLt e.Name s) l]? with
 | some e => sEq e.Name s
 | none => false
theorem Zmm {l : Zc8} {s : ByteArray} (hs : NS l) (hl : l.length < 2305843009213693952) : Zji l s = some (((pre (fun e => sLt e.Name s) l : Nat) : Int), isAt s l) := by
 unfold Zji Zco
 have := Zts (s := s) hs hl (l.length + 1) 0 l.length (by omega) (Nat.zero_le _) (Zmv _ _) (Nat.le_refl _)
 rw [show ((0 : Nat) : Int) = 0 from rfl] at this
 rw [show (Int.toNat ((l.length : Int) - (0 : Int)) + 1) = l.length + 1 by omega, this]
 simp only [Option.bind_some]
 unfold isAt
 by_cases hp : pre (fun e => sLt e.Name s) l < l.length
 · have hd : decide (((pre (fun e => sLt e.Name s) l : Nat) : Int) < (l.length : Int)) = true := by simpa using hp
   rw [hd, Zcy hp, List.getElem?_eq_getElem hp]
   obtain ⟨c, hc, _, hc2⟩ := Z3l l[pre (fun e => sLt e.Name s) l] s
   simp only [gd_t, Option.bind_some, hc, Bool.true_and, hc2]
 · have hd : decide (((pre (fun e => sLt e.Name s) l : Nat) : Int) < (l.length : Int)) = false := by simpa using hp
   rw [hd, List.getElem?_eq_none (by omega)]
   rfl
def goL (f g : Zj → Bool) (x : Zj) : Zc8 → Bool → Zc8 × Bool
 | [], d => ([], d)
 | e :: r, d => if (!d && !f e) = true then ((if g e then [] else [x]) ++ e :: (goL f g x r true).1, (goL f g x r true).2) else (e :: (goL f g x r d).1, (goL f g x r d).2)
theorem Z3v (f g : Zj → Bool) (x : Zj) : ∀ l : Zc8, goL f g x l true = (l, true)
 | [] => rfl
 | e :: r => by simp [goL, Z3v f g x r]
theorem Z3h (f g : Zj → Bool) (x : Zj) : ∀ l : Zc8, goL f g x l false = match l[pre f l]? with
   | some e => (l.take (pre f l) ++ (if g e then [] else [x]) ++ l.drop (pre f l), true)
   | none => (l, false)
 | [] => rfl
 | e :: r => by
   simp only [goL, pre]
   by_cases hf : f e = true
   · simp only [hf, Bool.not_true, Bool.and_false, Bool.false_eq_true, if_false, if_true]
     rw [Z3h f g x r]
     simp only [List.getElem?_cons_succ]
     cases r[pre f r]? <;> simp
   · have hf' : f e = false := by simpa using hf
     simp only [hf', Bool.not_false, Bool.and_self, if_true, Bool.false_eq_true, if_false, Z3v, List.getElem?_cons_zero, List.take_zero, List.nil_append, List.drop_zero]
def Zdi (x : Zj) (nm : Bool) (e : Zj) : Bool := if nm then sLt e.Name x.Name else Zc5 e x
def Zkh (x : Zj) (nm : Bool) (e : Zj) : Bool := sEq e.Name x.Name && (nm || decide (keyf e.Score = keyf x.Score))
theorem Z06 {l : Zc8} {x : Zj} {nm : Bool} (hx : x.Score < W64) (hsc : ∀ e ∈ l, e.Score < W64) {n i : Nat} {out : Zc8} {d : Bool} (h1 : i < l.length) :
   Zcw l x nm (n + 1) out d (i : Int) = (if (!d && !Zdi x nm l[i]) = true then (if (!Zkh x nm l[i]) = true then (if (out.length + ([x] : List Zj).length) * 24 ≤ 140737488355328 then Zee l (i : Int) (Zcw l x nm n) (out ++ [x]) true else none) else Zee l (i : Int) (Zcw l x nm n) out true) else Zee l (i : Int) (Zcw l x nm n) out d) := by
 have hm := hsc _ (List.getElem_mem h1)
 have ha : Zey l[i] x = some (Zc5 l[i] x) := Zvz hm hx
 have hs : Zdd l[i].Score x.Score = some (decide (keyf l[i].Score = keyf x.Score)) := Zlp hm hx
 rw [Zcw, if_pos (by simp; omega), Zcy h1]
 cases nm
 · simp only [Bool.not_false, gd_t, Option.bind_some, Bool.true_and, ha, Bool.and_false, gd_f, Bool.false_and, Bool.or_false, Bool.and_true, Bool.false_or, Zdi, Zkh, Bool.false_eq_true, if_false]
   cases hq : sEq l[i].Name x.Name
   · simp only [gd_f, Option.bind_some, Bool.false_and]
   · simp only [gd_t, Option.bind_some, Bool.true_and, hs]
 · simp only [Bool.not_true, gd_f, Option.bind_some, Bool.false_and, Bool.not_false, Bool.true_and, gd_t, Bool.false_or, Bool.true_or, Bool.and_false, Bool.and_true, Zdi, Zkh, if_true]
theorem Znh {l : Zc8} {x : Zj} {nm : Bool} (hx : x.Score < W64) (hsc : ∀ e ∈ l, e.Score < W64) (hl : l.length < 1000000) : ∀ (n i : Nat) (out : Zc8) (d : Bool), i + n = l.length → out.length + (if d = true then 0 else 1) ≤ i + 1 →
   Zcw l x nm (n + 1) out d (i : Int) = some (out ++ (goL (Zdi x nm) (Zkh x nm) x (l.drop i) d).1, (goL (Zdi x nm) (Zkh x nm) x (l.drop i) d).2)
 | 0, i, out, d, h, _ => by
   rw [Zcw, if_neg (by simp; omega), List.drop_of_length_le (by omega)]
   simp [goL]
 | n + 1, i, out, d, h, ho => by
   have h1 : i < l.length := by omega
   rw [Z06 hx hsc h1, List.drop_eq_getElem_cons h1]
   simp only [Zee, Zcy h1, wr1 (show i < 9223372036854775807 by omega), Option.bind_some, goL]
   by_cases hc : (!d && !Zdi x nm l[i]) = true
   · rw [if_pos hc, if_pos hc]
     have hd : d = false := by cases d <;> simp_all
     subst hd
     simp only [Bool.false_eq_true, if_false] at ho
     by_cases hs : (!Zkh x nm l[i]) = true
     · rw [if_pos hs, if_pos (by simp; omega), if_pos (by simp; omega), Znh hx hsc hl n (i + 1) _ true (by omega) (by simp; omega)]
       have : Zkh x nm l[i] = false := by simpa using hs
       simp [this]
     · rw [if_neg hs, if_pos (by simp; omega), Znh hx hsc hl n (i + 1) _ true (by omega) (by simp; omega)]
       have : Zkh x nm l[i] = true := by simpa using hs
       simp [this]
   · rw [if_neg hc, if_neg hc, if_pos (by simp; omega), Znh hx hsc hl n (i + 1) _ d (by omega) (by simp; omega)]
     simp
def layL (x : Zj) (nm : Bool) (l : Zc8) : Zc8 := match l[pre (Zdi x nm) l]? with
 | some e => l.take (pre (Zdi x nm) l) ++ (if Zkh x nm e then [] else [x]) ++ l.drop (pre (Zdi x nm) l)
 | none => l ++ [x]
theorem Zxu {l : Zc8} {x : Zj} {nm : Bool} (hx : x.Score < W64) (hsc : ∀ e ∈ l, e.Score < W64) (hl : l.length < 1000000) : Zf3 l x nm = some (layL x nm l) := by
 unfold Zf3
 have := Znh (nm := nm) hx hsc hl l.length 0 [] false (by omega) (by simp)
 rw [show ((0 : Nat) : Int) = 0 from rfl] at this
 rw [show (Int.toNat ((l.length : Int) - (0 : Int)) + 1) = l.length + 1 by omega, this]
 simp only [Option.bind_some, List.nil_append, List.drop_zero]
 rw [Z3h]
 unfold layL
 cases h : l[pre (Zdi x nm) l]? with
 | none =>
   simp only [Bool.not_false, if_true, Zhn]
   rw [if_pos (by simp; omega)]
 | some e => simp only [Bool.not_true, Bool.false_eq_true, if_false, Zhn]
theorem Zws {l : Zc8} {s : ByteArray} (hl : l.length < 1000000) : ∀ (n i : Nat), i + n = l.length → Zgg l s (n + 1) (i : Int) = some (cond ((l.drop i).any (fun e => sEq e.Name s)) (.inl true) (.inr ()))
 | 0, i, h => by
   rw [Zgg, if_neg (by simp; omega), List.drop_of_length_le (by omega)]; rfl
 | n + 1, i, h => by
   have h1 : i < l.length := by omega
   rw [Zgg, if_pos (by simp; omega), Zcy h1, List.drop_eq_getElem_cons h1, List.any_cons]
   simp only [Option.bind_some]
   by_cases hq : sEq l[i].Name s = true
   · rw [if_pos hq, hq]; rfl
   · have hq' : sEq l[i].Name s = false := by simpa using hq
     rw [if_neg hq, wr1 (by omega), Zws hl n (i + 1) (by omega), hq', Bool.false_or]
theorem Z09 {l : Zc8} {s : ByteArray} (hl : l.length < 1000000) : Zgq l s = some (l.any (fun e => sEq e.Name s)) := by
 unfold Zgq
 have := Zws (s := s) hl l.length 0 (by omega)
 rw [show ((0 : Nat) : Int) = 0 from rfl] at this
 rw [show (Int.toNat ((l.length : Int) - (0 : Int)) + 1) = l.length + 1 by omega, this]
 simp only [List.drop_zero]
 cases h : l.any (fun e => sEq e.Name s) <;> rfl
theorem Zne {a0 : Zd} {a : Zx} (hl : a0.List.length < 1000000) : ∀ (n i : Nat) (out : Zc8), i + n = a0.List.length → out.length ≤ i → Zec a0 a (n + 1) out (i : Int) = some (out ++ (a0.List.drop i).filter (fun e => !sEq e.Name a.S))
 | 0, i, out, h, _ => by
   rw [Zec, if_neg (by simp; omega), List.drop_of_length_le (by omega)]; simp
 | n + 1, i, out, h, ho => by
   have h1 : i < a0.List.length := by omega
   rw [Zec, if_pos (by simp; omega), Zcy h1, List.drop_eq_getElem_cons h1]
   simp only [Option.bind_some, Zj6, wr1 (show i < 9223372036854775807 by omega)]
   rw [List.filter_cons]
   by_cases hq : (!sEq a0.List[i].Name a.S) = true
   · rw [if_pos hq, if_pos hq, if_pos (by simp; omega), Zne hl n (i + 1) _ (by omega) (by simp; omega), List.append_assoc]; rfl
   · rw [if_neg hq, if_neg hq, Zne hl n (i + 1) _ (by omega) (by omega)]
theorem Zq5 {l : Zc8} {s : ByteArray} (hs : NS l) : (∀ e ∈ l.take (pre (fun e => sLt e.Name s) l), sEq e.Name s = false) ∧ (∀ e ∈ l.drop (pre (fun e => sLt e.Name s) l + 1), sEq e.Name s = false) := by
 constructor
 · intro e he
   obtain ⟨k, hk, rfl⟩ := List.getElem_of_mem he
   rw [List.length_take] at hk
   rw [List.getElem_take]
   have := Zr0 (s := s) hs (k := k) (by omega)
   rw [show decide (k < pre (fun e => sLt e.Name s) l) = true by simp; omega] at this
   exact Zd1.2 (Zk2 this)
 · intro e he
   obtain ⟨k, hk, rfl⟩ := List.getElem_of_mem he
   rw [List.length_drop] at hk
   rw [List.getElem_drop]
   refine Zd1.2 fun h => ?_
   have hp : pre (fun e => sLt e.Name s) l < l.length := by omega
   have h1 := List.pairwise_iff_getElem.1 hs _ _ hp (show pre (fun e => sLt e.Name s) l + 1 + k < l.length by omega) (by omega)
   rw [h] at h1
   have := Zr9 (List.getElem?_eq_getElem hp)
   rw [h1] at this; cases this
theorem Zrk (l : Zc8) (k : Nat) (h : k < l.length) : l = l.take k ++ l[k] :: l.drop (k + 1) := by
 rw [← List.drop_eq_getElem_cons h, List.take_append_drop]
theorem Zrz {l : Zc8} {s : ByteArray} (hs : NS l) : l.any (fun e => sEq e.Name s) = isAt s l := by
 obtain ⟨h1, h2⟩ := Zq5 (s := s) hs
 unfold isAt
 by_cases hp : pre (fun e => sLt e.Name s) l < l.length
 · rw [List.getElem?_eq_getElem hp]
   conv => lhs; rw [Zrk l _ hp]
   have a1 : (l.take (pre (fun e => sLt e.Name s) l)).any (fun e => sEq e.Name s) = false := by
     rw [List.any_eq_false]; intro e he; rw [h1 e he]; decide
   have a2 : (l.drop (pre (fun e => sLt e.Name s) l + 1)).any (fun e => sEq e.Name s) = false := by
     rw [List.any_eq_false]; intro e he; rw [h2 e he]; decide
   rw [List.any_append, List.any_cons, a1, a2]; simp
 · rw [List.getElem?_eq_none (by omega)]
   have : l.take (pre (fun e => sLt e.Name s) l) = l := List.take_of_length_le (by omega)
   rw [this] at h1
   rw [List.any_eq_false]; intro e he; rw [h1 e he]; decide
theorem Z1o {l : Zc8} {s : ByteArray} (hs : NS l) : l.filter (fun e => !sEq e.Name s) = if isAt s l = true then l.take (pre (fun e => sLt e.Name s) l) ++ l.drop (pre (fun e => sLt e.Name s) l + 1) else l := by
 obtain ⟨h1, h2⟩ := Zq5 (s := s) hs
 unfold isAt
 by_cases hp : pre (fun e => sLt e.Name s) l < l.length
 · rw [List.getElem?_eq_getElem hp]
   conv => lhs; rw [Zrk l _ hp]
   have a1 : (l.take (pre (fun e => sLt e.Name s) l)).filter (fun e => !sEq e.Name s) = l.take (pre (fun e => sLt e.Name s) l) := List.filter_eq_self.2 fun e he => by rw [h1 e he]; rfl
   have a2 : (l.drop (pre (fun e => sLt e.Name s) l + 1)).filter (fun e => !sEq e.Name s) = l.drop (pre (fun e => sLt e.Name s) l + 1) := List.filter_eq_self.2 fun e he => by rw [h2 e he]; rfl
   rw [List.filter_append, List.filter_cons, a1, a2]
   by_cases hq : sEq (l[pre (fun e => sLt e.Name s) l]).Name s = true
   · rw [if_pos hq, if_neg (by rw [hq]; decide)]
   · rw [if_neg hq, if_pos (by simpa using hq)]
     exact (Zrk l _ hp).symm
 · rw [List.getElem?_eq_none (by omega)]
   have : l.take (pre (fun e => sLt e.Name s) l) = l := List.take_of_length_le (by omega)
   rw [this] at h1
   rw [if_neg (by simp)]
   exact List.filter_eq_self.2 fun e he => by rw [h1 e he]; rfl
theorem Z1p {l : Zc8} {s : ByteArray} : layL { Score := 0, Name := s } true l = if isAt s l = true then l else l.take (pre (fun e => sLt e.Name s) l) ++ [{ Score := 0, Name := s }] ++ l.drop (pre (fun e => sLt e.Name s) l) := by
 have hf : Zdi { Score := 0, Name := s } true = fun e => sLt e.Name s := rfl
 unfold layL isAt
 rw [hf]
 cases h : l[pre (fun e => sLt e.Name s) l]? with
 | none =>
   have hp := List.getElem?_eq_none_iff.1 h
   rw [if_neg (by simp), List.take_of_length_le hp, List.drop_of_length_le hp, List.append_nil]
 | some e =>
   simp only [Zkh, Bool.true_or, Bool.and_true]
   by_cases hq : sEq e.Name s = true
   · rw [if_pos hq, if_pos hq, List.append_nil, List.take_append_drop]
   · rw [if_neg hq, if_neg hq]
theorem Zn4 {l : Zc8} (h : l.length < 1000000) : Zbs l = some l := by
 unfold Zbs
 rw [if_pos (by omega)]
theorem Zs7 {r : Zd} {a : Zx} (ha : a.X < W64) (hsc : ∀ e ∈ r.List, e.Score < W64) (hl : r.List.length < 1000000) : ∀ (n i : Nat), i + n = r.List.length →
   Zfa r a (n + 1) (i : Int) = some ((i + pre (Zdi { Score := a.X, Name := a.S } false) (r.List.drop i) : Nat) : Int)
 | 0, i, h => by
   have hd : decide ((i : Int) < (r.List.length : Int)) = false := by simp; omega
   rw [Zfa, hd, List.drop_of_length_le (by omega)]
   simp [gd, pre]
 | n + 1, i, h => by
   have h1 : i < r.List.length := by omega
   have hd : decide ((i : Int) < (r.List.length : Int)) = true := by simp; omega
   rw [Zfa, hd, Zcy h1, List.drop_eq_getElem_cons h1]
   simp only [gd_t, Option.bind_some, Bool.true_and]
   rw [Znf (hsc _ (List.getElem_mem h1)) ha]
   simp only [Option.bind_some, pre, Zdi, Bool.false_eq_true, if_false, wr1 (show i < 9223372036854775807 by omega)]
   by_cases hb : Zc5 r.List[i] { Score := a.X, Name := a.S } = true
   · rw [if_pos hb, if_pos hb, Zs7 ha hsc hl n (i + 1) (by omega)]
     congr 2; omega
   · rw [if_neg hb, if_neg hb]; simp
theorem Zuj {r : Zd} {a : Zx} (ha : a.X < W64) (hsc : ∀ e ∈ r.List, e.Score < W64) (hl : r.List.length < 1000000) : Zfa r a (Int.toNat ((r.List.length : Int) - (0 : Int)) + 1) (0 : Int) = some ((pre (Zdi { Score := a.X, Name := a.S } false) r.List : Nat) : Int) := by
 have := Zs7 (a := a) ha hsc hl r.List.length 0 (by omega)
 rw [show ((0 : Nat) : Int) = 0 from rfl] at this
 rw [show (Int.toNat ((r.List.length : Int) - (0 : Int)) + 1) = r.List.length + 1 by omega, this]
 simp
theorem Zxg {e x : Zj} (h1 : Zc5 e x = false) : (!Zc5 x e) = Zkh x false e := by
 unfold Zc5 Zkh at *
 by_cases hk : keyf e.Score = keyf x.Score
 · rw [if_pos hk] at h1
   rw [if_pos hk.symm, hk]
   simp only [Bool.false_or, decide_true, Bool.and_true]
   by_cases hn : e.Name = x.Name
   · rw [hn, Zky, Zef]; rfl
   · rw [Zlo h1 hn, Zd1.2 hn]; rfl
 · rw [if_neg hk] at h1
   rw [if_neg (fun h => hk h.symm)]
   have := of_decide_eq_false h1
   have h3 : keyf e.Score < keyf x.Score := by omega
   simp [h3, hk]
theorem Zq6 {k : Int} {l : Zc8} : ∀ (n i : Nat), Zhy k l i n = 0 ↔ ∀ j, i ≤ j → j < i + n → Zgt k l j = 0
 | 0, i => ⟨fun _ j h1 h2 => by omega, fun _ => rfl⟩
 | n + 1, i => by
   by_cases h : Zgt k l i = 0
   · rw [Zrp h, Zq6 n (i + 1)]
     constructor
     · intro hh j h1 h2
       by_cases e : j = i
       · rw [e]; exact h
       · exact hh j (by omega) (by omega)
     · intro hh j h1 h2; exact hh j (by omega) (by omega)
   · rw [Zrg h]
     exact ⟨fun e => absurd e h, fun hh => absurd (hh i (Nat.le_refl _) (by omega)) h⟩
theorem Zq8 {t n b r l : Bool} {a : Zd} : Znz t n b r l a = 0 ↔ Zgd t n b r l a = true ∧ a.Text.size ≤ 64 ∧ (b = true → -2305843009213693952 ≤ a.Low ∧ a.High ≤ 2305843009213693952 ∧ a.Low ≤ a.Num ∧ a.Num ≤ a.High) ∧ a.Real = Zb2 a.Real ∧ (l = true → 1 ≤ a.Cap ∧ a.Cap ≤ 32 ∧ (a.List.length : Int) ≤ a.Cap ∧ ∀ i, i < a.List.length → Zgt a.Kind a.List i = 0) := by
 unfold Znz
 by_cases h1 : Zgd t n b r l a = false
 · rw [if_pos h1, h1]; simp
 · have h1' : Zgd t n b r l a = true := by simpa using h1
   rw [if_neg h1, h1']
   by_cases h2 : (64 : Int) < a.Text.size
   · rw [if_pos h2]; exact ⟨fun h => absurd h (by decide), fun h => by omega⟩
   · rw [if_neg h2]
     by_cases h3 : b = true ∧ (a.Low < -2305843009213693952 ∨ 2305843009213693952 < a.High ∨ a.Num < a.Low ∨ a.High < a.Num)
     · rw [if_pos h3]; exact ⟨fun h => absurd h (by decide), fun h => by have := h.2.2.1 h3.1; omega⟩
     · rw [if_neg h3]
       by_cases h4 : a.Real = Zb2 a.Real
       · rw [if_neg (fun h => h h4)]
         cases l
         · rw [if_pos rfl]
           refine ⟨fun _ => ⟨rfl, by omega, fun hb => ?_, h4, fun h => absurd h (by decide)⟩, fun _ => rfl⟩
           have : ¬ (a.Low < -2305843009213693952 ∨ 2305843009213693952 < a.High ∨ a.Num < a.Low ∨ a.High < a.Num) := fun h => h3 ⟨hb, h⟩
           omega
         · rw [if_neg (by decide)]
           by_cases h5 : a.Cap < 1 ∨ 32 < a.Cap
           · rw [if_pos h5]; exact ⟨fun h => absurd h (by decide), fun h => by have := h.2.2.2.2 rfl; omega⟩
           · rw [if_neg h5]
             by_cases h6 : a.Cap < a.List.length
             · rw [if_pos h6]; exact ⟨fun h => absurd h (by decide), fun h => by have := h.2.2.2.2 rfl; omega⟩
             · rw [if_neg h6, Zq6]
               constructor
               · intro h
                 refine ⟨rfl, by omega, fun hb => ?_, h4, fun _ => ⟨by omega, by omega, by omega, fun i hi => h i (Nat.zero_le _) (by omega)⟩⟩
                 have : ¬ (a.Low < -2305843009213693952 ∨ 2305843009213693952 < a.High ∨ a.Num < a.Low ∨ a.High < a.Num) := fun h => h3 ⟨hb, h⟩
                 omega
               · intro h j _ hj
                 exact (h.2.2.2.2 rfl).2.2.2 j (by omega)
       · rw [if_pos h4]; exact ⟨fun h => absurd h (by decide), fun h => absurd h.2.2.2.1 h4⟩
def Zcs (a : Zd) : Prop := 1 ≤ a.Kind ∧ a.Kind ≤ 9 ∧ Zgd (decide (a.Kind = 1)) (decide (2 ≤ a.Kind ∧ a.Kind ≤ 4)) (decide (a.Kind = 4)) (decide (5 ≤ a.Kind ∧ a.Kind ≤ 7)) (decide (8 ≤ a.Kind)) a = true ∧ a.Text.size ≤ 64 ∧ (a.Kind = 4 → -2305843009213693952 ≤ a.Low ∧ a.High ≤ 2305843009213693952 ∧ a.Low ≤ a.Num ∧ a.Num ≤ a.High) ∧ a.Real = Zb2 a.Real ∧
 (8 ≤ a.Kind → 1 ≤ a.Cap ∧ a.Cap ≤ 32 ∧ (a.List.length : Int) ≤ a.Cap ∧ ∀ i, i < a.List.length → Zgt a.Kind a.List i = 0)
theorem Zjx {a : Zd} (ha : Zg4 a) : Zdu a = some 0 ↔ Zcs a := by
 by_cases hk : a.Kind ≤ 0 ∨ 10 ≤ a.Kind
 · have : Zdu a ≠ some 0 := by
     obtain ⟨c, hc, hc2⟩ := Zk6 ha
     unfold Zc9 at hc2
     rw [if_pos (by simp; omega)] at hc2
     rw [hc, ← hc2]; decide
   exact ⟨fun h => absurd h this, fun h => by obtain ⟨h1, h2, _⟩ := h; omega⟩
 · have fin : ∀ {t n b r l : Bool}, Zdv a.Kind = some ⟨t, n, b, r, l⟩ → t = decide (a.Kind = 1) → n = decide (2 ≤ a.Kind ∧ a.Kind ≤ 4) → b = decide (a.Kind = 4) → r = decide (5 ≤ a.Kind ∧ a.Kind ≤ 7) → l = decide (8 ≤ a.Kind) → (Zdu a = some 0 ↔ Zcs a) := by
     intro t n b r l hs h1 h2 h3 h4 h5
     rw [Zfl ha hk hs]
     constructor
     · intro h
       obtain ⟨g1, g2, g3, g4, g5⟩ := Zq8.1 (Option.some.inj h)
       refine ⟨by omega, by omega, by rw [← h1, ← h2, ← h3, ← h4, ← h5]; exact g1, g2, fun hk4 => g3 (by rw [h3]; simpa using hk4), g4, fun hk8 => g5 (by rw [h5]; simpa using hk8)⟩
     · rintro ⟨_, _, g1, g2, g3, g4, g5⟩
       congr 1
       exact Zq8.2 ⟨by rw [h1, h2, h3, h4, h5]; exact g1, g2, fun hb => g3 (by rw [h3] at hb; simpa using hb), g4, fun hb => g5 (by rw [h5] at hb; simpa using hb)⟩
   have hk' : a.Kind = 1 ∨ a.Kind = 2 ∨ a.Kind = 3 ∨ a.Kind = 4 ∨ a.Kind = 5 ∨ a.Kind = 6 ∨ a.Kind = 7 ∨ a.Kind = 8 ∨ a.Kind = 9 := by omega
   rcases hk' with h | h | h | h | h | h | h | h | h <;> rw [h] at fin
   · exact fin Zz3 rfl rfl rfl rfl rfl
   · exact fin Z0s rfl rfl rfl rfl rfl
   · exact fin Z0p rfl rfl rfl rfl rfl
   · exact fin Z1r rfl rfl rfl rfl rfl
   · exact fin Z1u rfl rfl rfl rfl rfl
   · exact fin Zz5 rfl rfl rfl rfl rfl
   · exact fin Z1w rfl rfl rfl rfl rfl
   · exact fin Z1d rfl rfl rfl rfl rfl
   · exact fin Z00 rfl rfl rfl rfl rfl
theorem Zk4 {a : Zd} (h : Zcs a) (hk : a.Kind = 8) : NS a.List := by
 obtain ⟨_, _, _, _, _, _, h8⟩ := h
 obtain ⟨_, _, _, hi⟩ := h8 (by omega)
 have step : ∀ i, i + 1 < a.List.length → sLt ((a.List[i]?).getD default).Name ((a.List[i + 1]?).getD default).Name = true := by
   intro i hi1
   have := hi (i + 1) hi1
   unfold Zgt at this
   rw [List.getElem?_eq_getElem hi1] at this
   simp only [Nat.add_sub_cancel] at this
   split at this
   · cases this
   · split at this
     · cases this
     · split at this
       · cases this
       · rename_i h3
         rw [List.getElem?_eq_getElem hi1]
         cases hq : sLt ((a.List[i]?).getD default).Name a.List[i + 1].Name
         · exact absurd ⟨by omega, hk, hq⟩ h3
         · exact hq
 have far : ∀ d i, i + d + 1 < a.List.length → sLt ((a.List[i]?).getD default).Name ((a.List[i + d + 1]?).getD default).Name = true := by
   intro d
   induction d with
   | zero => intro i h; exact step i h
   | succ d ih => intro i h; exact Zfc (ih i (by omega)) (step (i + d + 1) (by omega))
 refine List.pairwise_iff_getElem.2 fun i j hi hj hij => ?_
 have := far (j - i - 1) i (by omega)
 rw [show i + (j - i - 1) + 1 = j by omega, List.getElem?_eq_getElem hi, List.getElem?_eq_getElem hj] at this
 exact this
theorem Ztn {neg : Bool} {r : Nat} (h : r ≤ Ieee.double.infRung) : Ieee.double.word neg r < W64 := by
 have h1 : Ieee.double.infRung = 9218868437227405312 := by decide
 have h2 : Ieee.double.signWeight = 9223372036854775808 := by decide
 unfold Ieee.Format.word
 rw [h1] at h
 show _ < 18446744073709551616
 split
 · rw [h2]; omega
 · omega
theorem Zzu (neg : Bool) (mag : Nat) (place : Int) : Ieee.double.nearest neg mag place < W64 := by
 unfold Ieee.Format.nearest
 split
 · exact Ztn (Nat.zero_le _)
 · exact Ztn (Nat.min_le_right _ _)
theorem Zv4 {d : Ieee.Datum} (h : ∀ n f, d ≠ .nan n f) : Ieee.double.write d < W64 := by
 cases d with
 | number n m p => exact Zzu n m p
 | infinity n => exact Ztn (Nat.le_refl _)
 | nan n f => exact absurd rfl (h n f)
theorem Z4v {x y d : Ieee.Datum} (h : x.sum y = some d) : ∀ n f, d ≠ .nan n f := by
 intro n f e
 subst e
 cases x <;> cases y <;> simp [Ieee.Datum.sum] at h
theorem Zxb {x y d : Ieee.Datum} (h : x.product y = some d) : ∀ n f, d ≠ .nan n f := by
 intro n f e
 subst e
 cases x <;> cases y <;> simp [Ieee.Datum.product] at h
theorem Zyc (m n : Nat) : fadd m n < W64 := by
 unfold fadd Ieee.Format.add
 cases h : (Ieee.double.read m).sum (Ieee.double.read n) with
 | none => exact (by decide : 9221120237041090561 < W64)
 | some d => simpa using Zv4 (Z4v h)
theorem Zyi (m n : Nat) : fmul m n < W64 := by
 unfold fmul Ieee.Format.mul
 cases h : (Ieee.double.read m).product (Ieee.double.read n) with
 | none => exact (by decide : 9221120237041090561 < W64)
 | some d => simpa using Zv4 (Zxb h)
theorem Zpi {z : Nat} (hz : z < W64) : ∃ p, Zie z = some p ∧ Zfe p = some (Zb2 z) := by
 have hz' : z < 18446744073709551616 := hz
 unfold Zie Zfe Zb2 NANB
 rw [Zor hz]
 simp only [Option.bind_some]
 by_cases hn : isn z
 · refine ⟨18444492273895866369, by simp [hn]; decide, ?_⟩
   rw [if_pos (by decide), if_pos hn]; decide
 · simp only [hn, decide_false, Bool.false_eq_true, if_false]
   by_cases ht : (9223372036854775808 : Int) ≤ z
   · rw [if_pos (by simpa using ht)]
     refine ⟨_, rfl, ?_⟩
     rw [wru (x := (9223372036854775808 : Int) - 1) (by decide) (by decide), wru (x := (z : Int) - 9223372036854775808) (by omega) (by omega), wru (by omega) (by omega)]
     rw [if_neg (by simp; omega)]
     rw [wru (x := (9223372036854775808 : Int) - 1 - _) (by omega) (by omega), wru (by omega) (by omega)]
     congr 1; omega
   · rw [if_neg (by simpa using ht)]
     refine ⟨_, rfl, ?_⟩
     rw [wru (by omega) (by omega), if_pos (by simp; omega), wru (by omega) (by omega)]
     congr 1; omega
theorem Zq9 {z : Nat} : Zb2 (Zb2 z) = Zb2 z := by
 unfold Zb2
 by_cases h : isn z
 · rw [if_pos h, if_pos (show isn NANB by unfold isn rg INF NANB TOP; decide)]
 · rw [if_neg h, if_neg h]
theorem Zwg {a b : Nat} (ha : a < W64) (hb : b < W64) (ca : a = Zb2 a) (cb : b = Zb2 b) : ∃ m, Zjz a b = some m ∧ Zlg a b = some m ∧ (m = a ∨ m = b) := by
 unfold Zjz Zlg
 rw [Zte ha hb, Zms ha hb, Zh9 ha, Zh9 hb, ← ca, ← cb]
 by_cases h : keyf a < keyf b
 · exact ⟨b, by simp [h], by simp [h], .inr rfl⟩
 · exact ⟨a, by simp [h], by simp [h], .inl rfl⟩
theorem Zv1 {a b : Nat} (ha : a < W64) (hb : b < W64) (ca : a = Zb2 a) (cb : b = Zb2 b) : ∃ m, Zj4 a b = some m ∧ Zlb a b = some m ∧ (m = a ∨ m = b) := by
 unfold Zj4 Zlb
 rw [Zte hb ha, Zms hb ha, Zh9 ha, Zh9 hb, ← ca, ← cb]
 by_cases h : keyf b < keyf a
 · exact ⟨b, by simp [h], by simp [h], .inr rfl⟩
 · exact ⟨a, by simp [h], by simp [h], .inl rfl⟩
def I64 (x : Int) : Prop := -9223372036854775808 ≤ x ∧ x ≤ 9223372036854775807
structure RecW (r : Zd) : Prop where
 ok : Zg4 r
 num : I64 r.Num
 low : I64 r.Low
 high : I64 r.High
 kind : I64 r.Kind
 len : r.List.length ≤ 1000
structure ActW (a : Zx) : Prop where
 ok : Zr5 a
 n : I64 a.N
 mkr : RecW a.Make
 xc : a.X = Zb2 a.X
 inout : (a.Kind = 10 ∨ a.Kind = 11) → 0 ≤ a.N ∧ a.N ≤ 2305843009213693952
 s64 : a.S.size ≤ 64
 s16 : ¬ (5 ≤ a.Kind ∧ a.Kind ≤ 6) → a.S.size ≤ 16
abbrev ans (c : Int) : Zg := { Code := c, Num := 0, Rec := default }
def Chg (r : Zd) (a : Zx) : Prop := ∃ c r' o, Z8 a.Kind r a (default : Zg) = some (c, r', o) ∧ Zbo r a = some (if c = 0 then (r', o) else (r, ans c)) ∧ RecW r' ∧ RecW o.Rec ∧ (c = 0 → o.Code = 0 ∧ o.Num = 0)
theorem Zoe (x : Int) : I64 (IntKind.i64.wrap x) := by unfold I64; rw [IntKind.wrap_i64]; omega
theorem Zc6 : RecW (default : Zd) := ⟨⟨by decide, by decide, fun e he => by cases he⟩, by unfold I64; decide, by unfold I64; decide, by unfold I64; decide, by unfold I64; decide, by decide⟩
theorem RecW.withNum {r : Zd} (h : RecW r) {x : Int} (hx : I64 x) : RecW { r with Num := x } := ⟨⟨h.ok.real, h.ok.len, h.ok.sc⟩, hx, h.low, h.high, h.kind, h.len⟩
theorem RecW.withText {r : Zd} (h : RecW r) (t : ByteArray) : RecW { r with Text := t } := ⟨⟨h.ok.real, h.ok.len, h.ok.sc⟩, h.num, h.low, h.high, h.kind, h.len⟩
theorem RecW.withReal {r : Zd} (h : RecW r) {x : Nat} (hx : x < W64) : RecW { r with Real := x } := ⟨⟨hx, h.ok.len, h.ok.sc⟩, h.num, h.low, h.high, h.kind, h.len⟩
theorem RecW.withList {r : Zd} (h : RecW r) {l : Zc8} (h1 : l.length ≤ 1000) (h2 : ∀ e ∈ l, e.Score < W64) : RecW { r with List := l } := ⟨⟨h.ok.real, by show l.length < _; omega, h2⟩, h.num, h.low, h.high, h.kind, h1⟩
theorem Zip {r : Zd} (h : r.List.length ≤ 1000) : Ze1 r = some r := by
 unfold Ze1 Zbs
 rw [if_pos (by omega)]; rfl
theorem Zng {r : Zd} (h : r.List.length ≤ 1000) : Zfi r = some r := by
 unfold Zfi
 rw [if_pos (by simp; omega)]; rfl
variable {r : Zd} {a : Zx}
theorem Z41 (h : a.Kind = 5) (hr : RecW r) : Chg r a := by
 refine ⟨0, { r with Text := a.S }, ans 0, ?_, ?_, hr.withText _, Zc6, fun _ => ⟨rfl, rfl⟩⟩
 · rw [h]; rfl
 · unfold Zbo; rw [h]; rfl
theorem Z2l (h : a.Kind = 6) (hr : RecW r) : Chg r a := by
 refine ⟨0, { r with Text := a.S }, { ans 0 with Rec := r }, ?_, ?_, hr.withText _, hr, fun _ => ⟨rfl, rfl⟩⟩
 · rw [h]
   show Zf4 r a default = _
   unfold Zf4
   rw [Zip hr.len]; rfl
 · unfold Zbo; rw [h, Zng hr.len]; rfl
theorem Z49 (h : a.Kind = 7) (hr : RecW r) : Chg r a := by
 refine ⟨0, { r with Num := IntKind.i64.wrap (r.Num + a.N) }, ans 0, ?_, ?_, hr.withNum (Zoe _), Zc6, fun _ => ⟨rfl, rfl⟩⟩
 · rw [h]; rfl
 · unfold Zbo; rw [h]; rfl
theorem Z1g (hr : I64 r.Num) (hn : I64 a.N) : (((decide ((0 : Int) < a.N)) && (decide ((IntKind.i64.wrap ((9223372036854775807 : Int) - a.N)) < r.Num))) || ((decide (a.N < (0 : Int))) && (decide (r.Num < (IntKind.i64.wrap ((-9223372036854775808 : Int) - a.N)))))) =
   ((((decide ((0 : Int) < r.Num)) && (decide ((0 : Int) < a.N))) && (decide ((IntKind.i64.wrap (r.Num + a.N)) < (0 : Int)))) || (((decide (r.Num < (0 : Int))) && (decide (a.N < (0 : Int)))) && (decide ((0 : Int) ≤ (IntKind.i64.wrap (r.Num + a.N)))))) := by
 unfold I64 at hr hn
 rw [Bool.eq_iff_iff]
 simp only [Bool.or_eq_true, Bool.and_eq_true, decide_eq_true_eq, IntKind.wrap_i64]
 omega
theorem Z2i (h : a.Kind = 8) (hr : RecW r) (ha : ActW a) : Chg r a := by
 have e1 : Z8 a.Kind r a default = Zjp r a default := by rw [h]; rfl
 have e2 : Zbo r a = (Zki r.Num a.N).bind fun r7 => (if r7 then (Z1 r (ans 9)) else (Z1 { r with Num := IntKind.i64.wrap (r.Num + a.N) } (ans 0))) := by unfold Zbo; rw [h]; rfl
 have hp := Z1g hr.num ha.n
 unfold Chg
 rw [e1, e2]
 unfold Zjp Zki Z1
 rw [hp]
 simp only [Option.bind_some]
 split
 · exact ⟨9, r, _, rfl, rfl, hr, Zc6, fun h => by cases h⟩
 · exact ⟨0, _, _, rfl, rfl, hr.withNum (Zoe _), Zc6, fun _ => ⟨rfl, rfl⟩⟩
theorem Zt7 (h : a.Kind = 9 ∨ a.Kind = 12) (hr : RecW r) : Chg r a := by
 have e1 : Z8 a.Kind r a default = Zdm r a default := by rcases h with h | h <;> rw [h] <;> rfl
 have e2 : Zbo r a = (if (decide (r.Num < a.N)) then (Z1 r (ans 11)) else (Z1 r (ans 0))) := by rcases h with h | h <;> unfold Zbo Zcd <;> rw [h] <;> rfl
 unfold Chg
 rw [e1, e2]
 unfold Zdm Z1
 split
 · exact ⟨11, r, _, rfl, rfl, hr, Zc6, fun h => by cases h⟩
 · exact ⟨0, r, _, rfl, rfl, hr, Zc6, fun _ => ⟨rfl, rfl⟩⟩
theorem Zvg (hg : Zcs r) (hk : r.Kind = 4) : -2305843009213693952 ≤ r.Low ∧ r.High ≤ 2305843009213693952 ∧ r.Low ≤ r.Num ∧ r.Num ≤ r.High := hg.2.2.2.2.1 hk
theorem Z5s (h : a.Kind = 10) (hr : RecW r) (hg : Zcs r) (hk : r.Kind = 4) (ha : ActW a) : Chg r a := by
 have e1 : Z8 a.Kind r a default = Zf7 r a default := by rw [h]; rfl
 have e2 : Zbo r a = (if (decide (r.High < IntKind.i64.wrap (r.Num + a.N))) then (Z1 r (ans 9)) else (Z1 { r with Num := IntKind.i64.wrap (r.Num + a.N) } (ans 0))) := by unfold Zbo Zcd; rw [h]; rfl
 obtain ⟨p1, p2, p3, p4⟩ := Zvg hg hk
 obtain ⟨n1, n2⟩ := ha.inout (.inl h)
 have hd : decide (IntKind.i64.wrap (r.High - r.Num) < a.N) = decide (r.High < IntKind.i64.wrap (r.Num + a.N)) := by
   rw [wr (x := r.High - r.Num) (by omega) (by omega), wr (x := r.Num + a.N) (by omega) (by omega)]
   apply decide_eq_decide.2; omega
 unfold Chg
 rw [e1, e2]
 unfold Zf7 Z1
 rw [hd]
 split
 · exact ⟨9, r, _, rfl, rfl, hr, Zc6, fun h => by cases h⟩
 · exact ⟨0, _, _, rfl, rfl, hr.withNum (Zoe _), Zc6, fun _ => ⟨rfl, rfl⟩⟩
theorem Z5b (h : a.Kind = 11) (hr : RecW r) (hg : Zcs r) (hk : r.Kind = 4) (ha : ActW a) : Chg r a := by
 have e1 : Z8 a.Kind r a default = Zf5 r a default := by rw [h]; rfl
 have e2 : Zbo r a = (if (decide (IntKind.i64.wrap (r.Num - a.N) < r.Low)) then (Z1 r (ans 10)) else (Z1 { r with Num := IntKind.i64.wrap (r.Num - a.N) } (ans 0))) := by unfold Zbo Zcd; rw [h]; rfl
 obtain ⟨p1, p2, p3, p4⟩ := Zvg hg hk
 obtain ⟨n1, n2⟩ := ha.inout (.inr h)
 have hd : decide (IntKind.i64.wrap (r.Num - r.Low) < a.N) = decide (IntKind.i64.wrap (r.Num - a.N) < r.Low) := by
   rw [wr (x := r.Num - r.Low) (by omega) (by omega), wr (x := r.Num - a.N) (by omega) (by omega)]
   apply decide_eq_decide.2; omega
 unfold Chg
 rw [e1, e2]
 unfold Zf5 Z1
 rw [hd]
 split
 · exact ⟨10, r, _, rfl, rfl, hr, Zc6, fun h => by cases h⟩
 · exact ⟨0, _, _, rfl, rfl, hr.withNum (Zoe _), Zc6, fun _ => ⟨rfl, rfl⟩⟩
theorem Zm1 {m : Nat} {ψ : Nat → Nat → Option Nat} (h : Z8 a.Kind r a default = Zd3 ψ r a default) (h1 : ψ r.Real a.X = some m) (hm : m < W64) (h2 : Zbo r a = some ({ r with Real := m }, ans 0)) (hr : RecW r) : Chg r a := by
 refine ⟨0, { r with Real := m }, ans 0, ?_, h2, hr.withReal hm, Zc6, fun _ => ⟨rfl, rfl⟩⟩
 rw [h]
 unfold Zd3
 rw [h1]; rfl
theorem Zl4 (hg : Zcs r) : r.Real = Zb2 r.Real := hg.2.2.2.2.2.1
theorem Z0k (h : a.Kind = 13) (hr : RecW r) (hg : Zcs r) (ha : ActW a) : Chg r a := by
 obtain ⟨m, m1, m2, m3⟩ := Zwg hr.ok.real ha.ok.2 (Zl4 hg) ha.xc
 refine Zm1 (m := m) (ψ := fun x y => Zjz x y) (by rw [h]; rfl) m1 (by rcases m3 with rfl | rfl; exact hr.ok.real; exact ha.ok.2) ?_ hr
 unfold Zbo Zcd; rw [h, m2]; rfl
theorem Z0o (h : a.Kind = 14) (hr : RecW r) (hg : Zcs r) (ha : ActW a) : Chg r a := by
 obtain ⟨m, m1, m2, m3⟩ := Zv1 hr.ok.real ha.ok.2 (Zl4 hg) ha.xc
 refine Zm1 (m := m) (ψ := fun x y => Zj4 x y) (by rw [h]; rfl) m1 (by rcases m3 with rfl | rfl; exact hr.ok.real; exact ha.ok.2) ?_ hr
 unfold Zbo Zcd; rw [h, m2]; rfl
theorem Z0m (h : a.Kind = 15) (hr : RecW r) : Chg r a := by
 have hz := Zyc r.Real a.X
 obtain ⟨p, p1, p2⟩ := Zpi hz
 refine Zm1 (m := Zb2 (fadd r.Real a.X)) (ψ := fun x y => Zhh x y) (by rw [h]; rfl) (by show Zhh r.Real a.X = _; unfold Zhh; rw [Zh9 hz]; rfl) (Zrl hz) ?_ hr
 unfold Zbo Zcd; rw [h, p1]
 show ((Zfe p).bind _) = _
 rw [p2]; rfl
theorem Zz4 (h : a.Kind = 16) (hr : RecW r) : Chg r a := by
 have hz := Zyi r.Real a.X
 obtain ⟨p, p1, p2⟩ := Zpi hz
 refine Zm1 (m := Zb2 (fmul r.Real a.X)) (ψ := fun x y => Zgk x y) (by rw [h]; rfl) (by show Zgk r.Real a.X = _; unfold Zgk; rw [Zh9 hz]; rfl) (Zrl hz) ?_ hr
 unfold Zbo Zcd; rw [h, p1]
 show ((Zfe p).bind _) = _
 rw [p2]; rfl
theorem Z4w (h : a.Kind = 17) (hr : RecW r) (ha : ActW a) : Chg r a := by
 refine Zm1 (m := a.X) (ψ := fun x y => Zf8 x y) (by rw [h]; rfl) rfl ha.ok.2 ?_ hr
 unfold Zbo Zcd; rw [h]; rfl
theorem Zud (hg : Zcs r) (hk : 8 ≤ r.Kind) : 1 ≤ r.Cap ∧ r.Cap ≤ 32 ∧ (r.List.length : Int) ≤ r.Cap := by
 obtain ⟨h1, h2, h3, _⟩ := hg.2.2.2.2.2.2 hk
 exact ⟨h1, h2, h3⟩
theorem Z5h (h : a.Kind = 20) (hr : RecW r) (hg : Zcs r) (hk : r.Kind = 8) : Chg r a := by
 have hs := Zk4 hg hk
 have hl := hr.len
 have e1 : Z8 a.Kind r a default = Zet r a default := by rw [h]; rfl
 have e2 : Zbo r a = (Zgq r.List a.S).bind fun r59 => (if (!r59) then (Z1 r (ans 11)) else (Z1 r (ans 0))) := by unfold Zbo Zcd; rw [h]; rfl
 unfold Chg
 rw [e1, e2]
 unfold Zet Z1
 rw [Zmm hs (by omega), Z09 (by omega), Zrz hs]
 simp only [Option.bind_some]
 split
 · exact ⟨11, r, _, rfl, rfl, hr, Zc6, fun h => by cases h⟩
 · exact ⟨0, r, _, rfl, rfl, hr, Zc6, fun _ => ⟨rfl, rfl⟩⟩
theorem Z2j (h : a.Kind = 18) (hr : RecW r) (hg : Zcs r) (hk : r.Kind = 8) : Chg r a := by
 have hs := Zk4 hg hk
 have hl := hr.len
 obtain ⟨c1, c2, c3⟩ := Zud hg (by omega)
 have e1 : Z8 a.Kind r a default = Zjm r a default := by rw [h]; rfl
 have e2 : Zbo r a = (Zgq r.List a.S).bind fun r40 => (if ((!r40) && (decide (r.Cap ≤ (r.List.length : Int)))) then (Z1 r (ans 8)) else ((Zf3 r.List ({ Score := (0 : Nat), Name := a.S } : Zj) true).bind fun r43 => (Z1 ({ r with List := r43 }) (ans 0)))) := by unfold Zbo Zcd; rw [h]; rfl
 have hple := Zmv (fun e => sLt e.Name a.S) r.List
 unfold Chg
 rw [e1, e2]
 unfold Zjm Z1
 rw [Zmm hs (by omega), Z09 (by omega), Zrz hs, Zxu (show (0 : Nat) < W64 by decide) hr.ok.sc (by omega), Z1p, Zn4 (by omega)]
 simp only [Option.bind_some]
 by_cases hat : isAt a.S r.List = true
 · rw [hat]
   exact ⟨0, r, _, rfl, rfl, hr, Zc6, fun _ => ⟨rfl, rfl⟩⟩
 · have hat' : isAt a.S r.List = false := by simpa using hat
   rw [hat']
   simp only [Bool.not_false, Bool.true_and, Bool.false_eq_true, if_false]
   by_cases hc : decide (r.Cap ≤ (r.List.length : Int)) = true
   · rw [if_pos hc, if_pos hc]
     exact ⟨8, r, _, rfl, rfl, hr, Zc6, fun h => by cases h⟩
   · rw [if_neg hc, if_neg hc]
     unfold Zb5
     rw [if_pos ⟨by omega, by omega, by simp, by simp; omega⟩]
     refine ⟨0, _, _, rfl, rfl, hr.withList (by simp; omega) fun e he => ?_, Zc6, fun _ => ⟨rfl, rfl⟩⟩
     simp only [List.mem_append, List.mem_singleton, Int.toNat_natCast] at he
     rcases he with (he | rfl) | he
     · exact hr.ok.sc e (List.mem_of_mem_take he)
     · exact (show (0 : Nat) < W64 by decide)
     · exact hr.ok.sc e (List.mem_of_mem_drop he)
theorem Zub (h : a.Kind = 19) (hr : RecW r) (hg : Zcs r) (hk : r.Kind = 8) : Chg r a := by
 have hs := Zk4 hg hk
 have hl := hr.len
 have e1 : Z8 a.Kind r a default = Zih r a default := by rw [h]; rfl
 have e2 : Zbo r a = (Zec r a (Int.toNat ((r.List.length : Int) - (0 : Int)) + 1) ([] : List Zj) (0 : Int)).bind fun z57 => match z57 with | y56 => (Z1 ({ r with List := y56 }) (ans 0)) := by unfold Zbo Zcd; rw [h]; rfl
 have hple := Zmv (fun e => sLt e.Name a.S) r.List
 unfold Chg
 rw [e1, e2]
 unfold Zih Z1
 have hf := Zne (a := a) (a0 := r) (by omega) r.List.length 0 [] (by omega) (by simp)
 rw [show ((0 : Nat) : Int) = 0 from rfl] at hf
 rw [Zmm hs (by omega), show (Int.toNat ((r.List.length : Int) - (0 : Int)) + 1) = r.List.length + 1 by omega, hf, List.drop_zero, List.nil_append, Z1o hs, Zn4 (by omega)]
 simp only [Option.bind_some]
 by_cases hat : isAt a.S r.List = true
 · have hp : pre (fun e => sLt e.Name a.S) r.List < r.List.length := by
     unfold isAt at hat
     cases hq : r.List[pre (fun e => sLt e.Name a.S) r.List]? with
     | none => rw [hq] at hat; cases hat
     | some e => exact (List.getElem?_eq_some_iff.1 hq).1
   rw [hat]
   simp only [if_true]
   unfold Zd8
   rw [wr1 (by omega), if_pos ⟨by omega, by omega, by omega, by omega, by omega⟩]
   refine ⟨0, _, _, rfl, rfl, hr.withList (by simp; omega) fun e he => ?_, Zc6, fun _ => ⟨rfl, rfl⟩⟩
   simp only [List.mem_append, Int.toNat_natCast] at he
   rcases he with he | he
   · exact hr.ok.sc e (List.mem_of_mem_take he)
   · exact hr.ok.sc e (List.mem_of_mem_drop he)
 · have hat' : isAt a.S r.List = false := by simpa using hat
   rw [hat']
   exact ⟨0, r, _, rfl, rfl, hr, Zc6, fun _ => ⟨rfl, rfl⟩⟩
variable {r : Zd} {a : Zx}
theorem Zwa {l : Zc8} {c : Int} (h1 : 1 ≤ c) (h2 : c ≤ 32) : cut l 0 (min (l.length : Int) c) = some (l.take c.toNat) := by
 unfold cut
 rw [if_pos (by omega)]
 simp only [Int.toNat_zero, List.drop_zero, Nat.sub_zero]
 congr 1
 rcases Int.le_total (l.length : Int) c with h | h
 · rw [Int.min_eq_left h, Int.toNat_natCast, List.take_of_length_le (Nat.le_refl _), List.take_of_length_le (by omega)]
 · rw [Int.min_eq_right h]
theorem Z04 (h : a.Kind = 21) (hr : RecW r) (hg : Zcs r) (hk : r.Kind = 9) (ha : ActW a) : Chg r a := by
 have hl := hr.len
 obtain ⟨c1, c2, c3⟩ := Zud hg (by omega)
 have e1 : Z8 a.Kind r a default = Zit r a default := by rw [h]; rfl
 have e2 : Zbo r a = (Zf3 r.List ({ Score := a.X, Name := a.S } : Zj) false).bind fun r63 => (if (decide (r.Cap < (r63.length : Int))) then ((cut r63 (0 : Int) r.Cap).bind fun c66 => (Ze0 r c66)) else (Ze0 r r63)) := by unfold Zbo Zcd; rw [h]; rfl
 have hx : ({ Score := a.X, Name := a.S } : Zj).Score < W64 := ha.ok.2
 have hple := Zmv (Zdi { Score := a.X, Name := a.S } false) r.List
 unfold Chg
 rw [e1, e2]
 unfold Zit
 rw [Zuj ha.ok.2 hr.ok.sc (by omega), Zxu hx hr.ok.sc (by omega), Zn4 (by omega)]
 simp only [Option.bind_some]
 have fin : ∀ L : Zc8, L = r.List.take (pre (Zdi { Score := a.X, Name := a.S } false) r.List) ++ [{ Score := a.X, Name := a.S }] ++ r.List.drop (pre (Zdi { Score := a.X, Name := a.S } false) r.List) → layL { Score := a.X, Name := a.S } false r.List = L →
     ∃ c r' o, ((Zb5 r.List ((pre (Zdi { Score := a.X, Name := a.S } false) r.List : Nat) : Int) ([({ Score := a.X, Name := a.S } : Zj)] : List Zj)).bind fun r16 => ((cut r16 (0 : Int) (min (r16.length : Int) r.Cap)).bind fun c18 => (some ((0 : Int), ({ r with List := c18 }), (default : Zg))))) = some (c, r', o) ∧
       (if (decide (r.Cap < ((layL { Score := a.X, Name := a.S } false r.List).length : Int))) = true then ((cut (layL { Score := a.X, Name := a.S } false r.List) (0 : Int) r.Cap).bind fun c66 => (Ze0 r c66)) else (Ze0 r (layL { Score := a.X, Name := a.S } false r.List))) = some (if c = 0 then (r', o) else (r, ans c)) ∧ RecW r' ∧ RecW o.Rec ∧ (c = 0 → o.Code = 0 ∧ o.Num = 0) := by
   intro L hL hlay
   have hLl : L.length = r.List.length + 1 := by rw [hL]; simp; omega
   have hLs : ∀ e ∈ L, e.Score < W64 := fun e he => by
     rw [hL] at he
     simp only [List.mem_append, List.mem_singleton] at he
     rcases he with (he | rfl) | he
     · exact hr.ok.sc e (List.mem_of_mem_take he)
     · exact hx
     · exact hr.ok.sc e (List.mem_of_mem_drop he)
   rw [hlay]
   unfold Zb5 Ze0 Z1
   rw [if_pos ⟨by omega, by omega, by simp, by simp; omega⟩]
   simp only [Option.bind_some, Int.toNat_natCast]
   rw [← hL, Zwa c1 c2]
   refine ⟨0, { r with List := L.take r.Cap.toNat }, ans 0, rfl, ?_, hr.withList (by simp; omega) (fun e he => hLs e (List.mem_of_mem_take he)), Zc6, fun _ => ⟨rfl, rfl⟩⟩
   by_cases hc : decide (r.Cap < (L.length : Int)) = true
   · rw [if_pos hc]
     have : r.Cap < (L.length : Int) := of_decide_eq_true hc
     unfold cut
     rw [if_pos (by omega)]
     simp
   · rw [if_neg hc]
     have : ¬ r.Cap < (L.length : Int) := fun h => hc (decide_eq_true h)
     rw [List.take_of_length_le (by omega)]; rfl
 by_cases hp : pre (Zdi { Score := a.X, Name := a.S } false) r.List < r.List.length
 · have hd : decide (((pre (Zdi { Score := a.X, Name := a.S } false) r.List : Nat) : Int) < (r.List.length : Int)) = true := by simpa using hp
   have hat := Zr9 (List.getElem?_eq_getElem hp)
   have hb : Zc5 r.List[pre (Zdi { Score := a.X, Name := a.S } false) r.List] { Score := a.X, Name := a.S } = false := hat
   have hbs := Zxg hb
   rw [hd, Zcy hp]
   simp only [gd_t, Option.bind_some, Bool.true_and]
   rw [Znf hx (hr.ok.sc _ (List.getElem_mem hp))]
   simp only [Option.bind_some]
   by_cases hs : (!Zc5 { Score := a.X, Name := a.S } r.List[pre (Zdi { Score := a.X, Name := a.S } false) r.List]) = true
   · rw [if_pos hs]
     have hlay : layL { Score := a.X, Name := a.S } false r.List = r.List := by
       unfold layL
       rw [List.getElem?_eq_getElem hp]
       simp only
       rw [if_pos (by rw [← hbs]; exact hs), List.append_nil, List.take_append_drop]
     rw [hlay, if_neg (by simp; omega)]
     exact ⟨0, r, _, rfl, rfl, hr, Zc6, fun _ => ⟨rfl, rfl⟩⟩
   · rw [if_neg hs]
     refine fin _ rfl ?_
     unfold layL
     rw [List.getElem?_eq_getElem hp]
     simp only
     rw [if_neg (by rw [← hbs]; exact hs)]
 · have hd : decide (((pre (Zdi { Score := a.X, Name := a.S } false) r.List : Nat) : Int) < (r.List.length : Int)) = false := by simpa using hp
   rw [hd]
   simp only [gd_f, Option.bind_some, Bool.false_and, Bool.false_eq_true, if_false]
   refine fin _ rfl ?_
   unfold layL
   rw [List.getElem?_eq_none (by omega), List.take_of_length_le (by omega), List.drop_of_length_le (by omega), List.append_nil]
theorem Zqg {k : Int} (h1 : 1 ≤ k) (h2 : k ≤ 21) : ∃ on, Zkc k = some on ∧ Zew k = some on ∧ (k ≤ 4 → on = 0) ∧ (5 ≤ k → on ≠ 0) ∧ ((k = 10 ∨ k = 11) → on = 4) ∧ ((k = 18 ∨ k = 19 ∨ k = 20) → on = 8) ∧ (k = 21 → on = 9) ∧
   ((k = 5 ∨ k = 6) → on = 1) ∧ (k = 7 → on = 2) ∧ ((k = 8 ∨ k = 9) → on = 3) ∧ (k = 12 → on = 4) ∧ (k = 13 → on = 5) ∧ (k = 14 → on = 6) ∧ ((k = 15 ∨ k = 16 ∨ k = 17) → on = 7) := by
 have hk' : k = 1 ∨ k = 2 ∨ k = 3 ∨ k = 4 ∨ k = 5 ∨ k = 6 ∨ k = 7 ∨ k = 8 ∨ k = 9 ∨ k = 10 ∨ k = 11 ∨ k = 12 ∨ k = 13 ∨ k = 14 ∨ k = 15 ∨ k = 16 ∨ k = 17 ∨ k = 18 ∨ k = 19 ∨ k = 20 ∨ k = 21 := by omega
 rcases hk' with rfl | rfl | rfl | rfl | rfl | rfl | rfl | rfl | rfl | rfl | rfl | rfl | rfl | rfl | rfl | rfl | rfl | rfl | rfl | rfl | rfl
 all_goals first
   | exact ⟨0, by kernel_rfl, by kernel_rfl, by decide⟩
   | exact ⟨1, by kernel_rfl, by kernel_rfl, by decide⟩
   | exact ⟨2, by kernel_rfl, by kernel_rfl, by decide⟩
   | exact ⟨3, by kernel_rfl, by kernel_rfl, by decide⟩
   | exact ⟨4, by kernel_rfl, by kernel_rfl, by decide⟩
   | exact ⟨5, by kernel_rfl, by kernel_rfl, by decide⟩
   | exact ⟨6, by kernel_rfl, by kernel_rfl, by decide⟩
   | exact ⟨7, by kernel_rfl, by kernel_rfl, by decide⟩
   | exact ⟨8, by kernel_rfl, by kernel_rfl, by decide⟩
   | exact ⟨9, by kernel_rfl, by kernel_rfl, by decide⟩
theorem Zx5 (h5 : 5 ≤ a.Kind) (h21 : a.Kind ≤ 21) (hr : RecW r) (hg : Zcs r) (hon : Zkc a.Kind = some r.Kind) (ha : ActW a) : Chg r a := by
 obtain ⟨on, o1, _, _, _, k10, k18, k21, _⟩ := Zqg (k := a.Kind) (by omega) h21
 rw [hon] at o1
 obtain rfl := Option.some.inj o1
 have hk' : a.Kind = 5 ∨ a.Kind = 6 ∨ a.Kind = 7 ∨ a.Kind = 8 ∨ a.Kind = 9 ∨ a.Kind = 10 ∨ a.Kind = 11 ∨ a.Kind = 12 ∨ a.Kind = 13 ∨ a.Kind = 14 ∨ a.Kind = 15 ∨ a.Kind = 16 ∨ a.Kind = 17 ∨ a.Kind = 18 ∨ a.Kind = 19 ∨ a.Kind = 20 ∨ a.Kind = 21 := by omega
 rcases hk' with h | h | h | h | h | h | h | h | h | h | h | h | h | h | h | h | h
 · exact Z41 h hr
 · exact Z2l h hr
 · exact Z49 h hr
 · exact Z2i h hr ha
 · exact Zt7 (.inl h) hr
 · exact Z5s h hr hg (k10 (.inl h)) ha
 · exact Z5b h hr hg (k10 (.inr h)) ha
 · exact Zt7 (.inr h) hr
 · exact Z0k h hr hg ha
 · exact Z0o h hr hg ha
 · exact Z0m h hr
 · exact Zz4 h hr
 · exact Z4w h hr ha
 · exact Z2j h hr hg (k18 (.inl h))
 · exact Zub h hr hg (k18 (.inr (.inl h)))
 · exact Z5h h hr hg (k18 (.inr (.inr h)))
 · exact Z04 h hr hg (k21 h) ha
structure ActIn (a : Zx) : Prop where
 ok : Zr5 a
 n : I64 a.N
 mkr : RecW a.Make
theorem ActIn.w {a : Zx} (h : ActIn a) {c : Int} (hc : 1 ≤ a.Kind ∧ a.Kind ≤ 21 ∧ a.X = Zb2 a.X ∧ a.S.size ≤ 64 ∧ ((a.Kind = 10 ∨ a.Kind = 11) → 0 ≤ a.N ∧ a.N ≤ 2305843009213693952) ∧ (a.Kind = 1 → Zdu a.Make = some 0) ∧ (¬ (5 ≤ a.Kind ∧ a.Kind ≤ 6) → a.S.size ≤ 16) ∧ sEq a.Key ⟨#[]⟩ = false ∧ a.Key.size ≤ 24) : ActW a :=
 ⟨h.ok, h.n, h.mkr, hc.2.2.1, hc.2.2.2.2.1, hc.2.2.2.1, hc.2.2.2.2.2.2.1⟩
theorem Zx4 {there : Bool} {r : Zd} {c : Int} (hc : c ≠ 0) {on : Int} (ho : Zew a.Kind = some on) : Zep there a r c = some (r, there, ans c) := by
 have h1 : (c == 0) = false := by simpa using hc
 have h2 : (c != 0) = true := by simpa using hc
 unfold Zep
 simp only [h1, Bool.false_and, Bool.false_eq_true, if_false]
 unfold Zg6
 simp only [h1, Bool.false_and, Bool.false_eq_true, if_false]
 unfold Zg8
 rw [ho]
 simp only [h1, Bool.false_and, Bool.false_eq_true, if_false, Option.bind_some]
 unfold Zg9
 rw [if_pos h2]
theorem Z4j (k : Int) : ∃ on, Zew k = some on := by
 by_cases h : k < 0 ∨ 21 < k
 · exact ⟨0, by unfold Zew; rw [if_pos (by simpa using h)]⟩
 · by_cases h0 : k = 0
   · exact ⟨0, by rw [h0]; kernel_rfl⟩
   · obtain ⟨on, _, h2, _⟩ := Zqg (k := k) (by omega) (by omega)
     exact ⟨on, h2⟩
theorem Zz0 {r : Zd} {there : Bool} {a : Zx} (hr : RecW r) (ha : ActIn a) : ∃ x is out, Ziw r there a = some (x, is, out) ∧ Zj7 r there a = some (x, is, out) ∧ RecW x ∧ RecW out.Rec := by
 suffices hs : ∀ r0 : Zd, RecW r0 → ∃ x is out, Zfu there a r0 = some (x, is, out) ∧ Zg5 there a r0 = some (x, is, out) ∧ RecW x ∧ RecW out.Rec by
   unfold Ziw Zj7
   cases there
   · exact hs _ Zc6
   · exact hs r hr
 intro r0 hr0
 unfold Zfu Zg5
 rw [Zip hr0.len, Zng hr0.len]
 obtain ⟨c, h1, h2, h3⟩ := Znc ha.ok
 obtain ⟨on, hon⟩ := Z4j a.Kind
 rw [h1, h2]
 simp only [Option.bind_some]
 by_cases hc : c = 0
 · subst hc
   have hf := h3 rfl
   have hw := ha.w (c := 0) hf
   obtain ⟨on2, o1, o2, o3, o4, _⟩ := Zqg hf.1 hf.2.1
   have main : (there = true → Zcs r0) → ∃ x is out, Zfv there a r0 = some (x, is, out) ∧ Zep there a r0 0 = some (x, is, out) ∧ RecW x ∧ RecW out.Rec := by
     intro hg
     unfold Zfv Zfo Zep Zg6 Zg8
     rw [o1, o2, Zip hr0.len, Zip ha.mkr.len]
     unfold Zg9
     rw [Zng hr0.len, Zng ha.mkr.len]
     simp only [Option.bind_some]
     by_cases k1 : a.Kind = 1
     · rw [k1, o3 (by omega)]
       cases there
       · exact ⟨a.Make, true, ans 0, rfl, rfl, ha.mkr, Zc6⟩
       · exact ⟨r0, true, ans 7, rfl, rfl, hr0, Zc6⟩
     · by_cases k3 : a.Kind = 3
       · rw [k3, o3 (by omega)]
         cases there
         · exact ⟨r0, false, { ans 0 with Num := r0.Kind }, rfl, rfl, hr0, Zc6⟩
         · exact ⟨r0, true, { ans 0 with Num := r0.Kind }, rfl, rfl, hr0, Zc6⟩
       · by_cases k2 : a.Kind = 2
         · rw [k2, o3 (by omega)]
           cases there
           · exact ⟨r0, false, ans 6, rfl, rfl, hr0, Zc6⟩
           · exact ⟨zrc, false, ans 0, rfl, rfl, Zc6, Zc6⟩
         · by_cases k4 : a.Kind = 4
           · rw [k4, o3 (by omega)]
             cases there
             · exact ⟨r0, false, ans 6, rfl, rfl, hr0, Zc6⟩
             · exact ⟨r0, true, { ans 0 with Rec := r0 }, rfl, rfl, hr0, hr0⟩
           · have h5 : 5 ≤ a.Kind := by omega
             have b1 : (a.Kind == 1) = false := by simpa using k1
             have b2 : (a.Kind == 2) = false := by simpa using k2
             have b3 : (a.Kind == 3) = false := by simpa using k3
             have b4 : (a.Kind == 4) = false := by simpa using k4
             have b1' : (a.Kind != 1) = true := by simpa using k1
             have b3' : (a.Kind != 3) = true := by simpa using k3
             have bo : (on2 != 0) = true := by simpa using o4 h5
             simp only [b1, b2, b3, b4, b1', b3', bo, Bool.false_and, Bool.and_false, Bool.and_true, Bool.true_and, Bool.false_eq_true, if_false, beq_self_eq_true]
             cases there
             · exact ⟨r0, false, ans 6, rfl, rfl, hr0, Zc6⟩
             · simp only [Bool.not_true, Bool.false_eq_true, if_false, Bool.and_false, Bool.false_and, beq_self_eq_true, Bool.true_and]
               by_cases hk : (on2 != r0.Kind) = true
               · rw [if_pos hk, if_pos hk]
                 exact ⟨r0, true, ans 5, rfl, rfl, hr0, Zc6⟩
               · rw [if_neg hk, if_neg hk, if_pos ⟨h5, hf.2.1⟩]
                 have hk' : on2 = r0.Kind := by simpa using hk
                 obtain ⟨c, r', o, e1, e2, w1, w2, _⟩ := Zx5 h5 hf.2.1 hr0 (hg rfl) (by rw [← hk']; exact o1) hw
                 rw [e1, e2]
                 simp only [Option.bind_some]
                 by_cases hc : c = 0
                 · subst hc
                   exact ⟨r', true, o, rfl, rfl, w1, w2⟩
                 · have hcn : (c != 0) = true := by simpa using hc
                   rw [if_pos hcn, if_neg hc]
                   exact ⟨r0, true, ans c, rfl, rfl, hr0, Zc6⟩
   have z1 : ((0 : Int) != 0) = false := rfl
   have z2 : ((0 : Int) == 0) = true := rfl
   rw [z1, z2]
   simp only [Bool.false_eq_true, if_false, Bool.true_and]
   by_cases ht : there = true
   · rw [if_pos ht, if_pos ht]
     obtain ⟨c2, g1, g2⟩ := Zk6 hr0.ok
     rw [g1, g2]
     simp only [Option.bind_some]
     by_cases hc2 : c2 = 0
     · subst hc2
       rw [z1]
       exact main fun _ => (Zjx hr0.ok).1 g1
     · have hcn : (c2 != 0) = true := by simpa using hc2
       rw [if_pos hcn, Zx4 hc2 o2]
       exact ⟨r0, there, ans c2, rfl, rfl, hr0, Zc6⟩
   · rw [if_neg ht, if_neg ht]
     exact main fun h => absurd h ht
 · have hcn : (c != 0) = true := by simpa using hc
   have hcz : (c == 0) = false := by simpa using hc
   rw [if_pos hcn, hcz]
   simp only [Bool.false_and, Bool.false_eq_true, if_false]
   rw [Zx4 hc hon]
   exact ⟨r0, there, ans c, rfl, rfl, hr0, Zc6⟩
theorem Zya {x : Zd} (h : Zi4 x) : x.List.length ≤ 9223372036854775807 := by
 obtain ⟨_, _, _, _, _, _, _, h8, _⟩ := h
 simp only [maxLen] at h8; omega
theorem Ztq {x : Zd} (h : Zi4 x) (hl : x.List.length ≤ 100) : RecW x := by
 obtain ⟨h1, h2, h3, h4, h5, _, _, h8, h9⟩ := h
 exact ⟨⟨h5, by omega, fun e he => (h9 e he).1⟩, h2, h3, h4, h1, by omega⟩
theorem eqLr : ∀ l : List Zj, eqL l l = true
 | [] => rfl
 | x :: l => by simp [eqL, eqI, Zef, eqLr l]
theorem Z52 (a : Zd) : Ziu a a = true := by simp [Ziu, Zef, eqLr]
theorem Z11 {a : Zx} (h : Zj2 a) (hl : a.Make.List.length ≤ 100) : ActIn a := by
 obtain ⟨_, _, h3, h4, _, h6, _⟩ := h
 exact ⟨⟨(Ztq h6 hl).ok, h4⟩, h3, Ztq h6 hl⟩
theorem Z72 {a : Zx} (h : Zj2 a) : ∃ c, Zh2 a = some c ∧ (c = 0 ∨ c = 1) ∧ (c = 0 → a.Make.List.length ≤ 100) := by
 obtain ⟨c, e1, e2, e3⟩ := Z3o (Zya h.2.2.2.2.2.1)
 unfold Zh2
 rw [e1]
 by_cases hk : (decide ((200 : Int) < (a.Key.size : Int)) || decide ((1000 : Int) < (a.S.size : Int))) = true
 · rw [hk]; exact ⟨1, rfl, .inr rfl, fun h => by cases h⟩
 · have hk' := Bool.eq_false_iff.2 hk
   rw [hk']
   rcases e2 with rfl | rfl
   · exact ⟨0, rfl, .inl rfl, fun _ => e3 rfl⟩
   · exact ⟨1, rfl, .inr rfl, fun h => by cases h⟩
theorem Z8x {a b : Zg} (ha : RecW a.Rec) (hb : RecW b.Rec) : Zjr a b = some ((a.Code == b.Code) && (a.Num == b.Num) && Ziu a.Rec b.Rec) := by
 unfold Zjr
 rw [Zrh ha.ok hb.ok]
 cases (a.Code == b.Code) && (a.Num == b.Num) <;> rfl
def Zzr (r0 : Zd) (there : Bool) (a : Zx) (z : Zd × Bool × Zg) : Prop :=
 (∃ c, c ≠ 0 ∧ z = (r0, there, ans c)) ∨ (Zgl a = some 0 ∧ ActW a ∧ (there = true → Zcs r0) ∧
   ((a.Kind = 1 ∧ there = false ∧ Zcs a.Make ∧ z = (a.Make, true, ans 0)) ∨ (a.Kind = 2 ∧ there = true ∧ z = (zrc, false, ans 0)) ∨ (a.Kind = 3 ∧ z = (r0, there, { ans 0 with Num := r0.Kind })) ∨ (a.Kind = 4 ∧ there = true ∧ z = (r0, true, { ans 0 with Rec := r0 })) ∨
     (5 ≤ a.Kind ∧ a.Kind ≤ 21 ∧ there = true ∧ Zkc a.Kind = some r0.Kind ∧ ∃ r' o, Z8 a.Kind r0 a default = some (0, r', o) ∧ o.Code = 0 ∧ o.Num = 0 ∧ RecW r' ∧ RecW o.Rec ∧ z = (r', true, o))))
theorem Zxc {r : Zd} {there : Bool} {a : Zx} (hr : RecW r) (ha : ActIn a) : ∃ z, Ziw r there a = some z ∧ Zzr (if there = true then r else zrc) there a z := by
 suffices hs : ∀ r0 : Zd, RecW r0 → ∃ z, Zfu there a r0 = some z ∧ Zzr r0 there a z by
   unfold Ziw
   cases there
   · exact hs _ Zc6
   · exact hs r hr
 intro r0 hr0
 unfold Zfu
 rw [Zip hr0.len]
 obtain ⟨c, h1, h2, h3⟩ := Znc ha.ok
 rw [h1]
 simp only [Option.bind_some]
 by_cases hc : c = 0
 · subst hc
   have hf := h3 rfl
   have hw := ha.w (c := 0) hf
   obtain ⟨on2, o1, o2, o3, o4, _⟩ := Zqg hf.1 hf.2.1
   have main : (there = true → Zcs r0) → ∃ z, Zfv there a r0 = some z ∧ Zzr r0 there a z := by
     intro hg
     unfold Zfv Zfo
     rw [o1, Zip hr0.len, Zip ha.mkr.len]
     simp only [Option.bind_some]
     by_cases k1 : a.Kind = 1
     · have hm : Zcs a.Make := (Zjx ha.mkr.ok).1 (hf.2.2.2.2.2.1 k1)
       rw [k1]
       cases there
       · exact ⟨_, rfl, .inr ⟨h1, hw, hg, .inl ⟨k1, rfl, hm, rfl⟩⟩⟩
       · exact ⟨_, rfl, .inl ⟨7, by decide, rfl⟩⟩
     · by_cases k3 : a.Kind = 3
       · rw [k3]
         exact ⟨_, rfl, .inr ⟨h1, hw, hg, .inr (.inr (.inl ⟨k3, rfl⟩))⟩⟩
       · by_cases k2 : a.Kind = 2
         · rw [k2]
           cases there
           · exact ⟨_, rfl, .inl ⟨6, by decide, rfl⟩⟩
           · exact ⟨_, rfl, .inr ⟨h1, hw, hg, .inr (.inl ⟨k2, rfl, rfl⟩)⟩⟩
         · by_cases k4 : a.Kind = 4
           · rw [k4]
             cases there
             · exact ⟨_, rfl, .inl ⟨6, by decide, rfl⟩⟩
             · exact ⟨_, rfl, .inr ⟨h1, hw, hg, .inr (.inr (.inr (.inl ⟨k4, rfl, rfl⟩)))⟩⟩
           · have h5 : 5 ≤ a.Kind := by omega
             have b1 : (a.Kind == 1) = false := by simpa using k1
             have b2 : (a.Kind == 2) = false := by simpa using k2
             have b3 : (a.Kind == 3) = false := by simpa using k3
             have b4 : (a.Kind == 4) = false := by simpa using k4
             simp only [b1, b2, b3, b4, Bool.false_and, Bool.false_eq_true, if_false]
             cases there
             · exact ⟨_, rfl, .inl ⟨6, by decide, rfl⟩⟩
             · simp only [Bool.not_true, Bool.false_eq_true, if_false]
               by_cases hk : (on2 != r0.Kind) = true
               · rw [if_pos hk]
                 exact ⟨_, rfl, .inl ⟨5, by decide, rfl⟩⟩
               · rw [if_neg hk, if_pos ⟨h5, hf.2.1⟩]
                 have hk' : on2 = r0.Kind := by simpa using hk
                 obtain ⟨c, r', o, e1, e2, w1, w2, w3⟩ := Zx5 h5 hf.2.1 hr0 (hg rfl) (by rw [← hk']; exact o1) hw
                 rw [e1]
                 simp only [Option.bind_some]
                 by_cases hc : c = 0
                 · subst hc
                   exact ⟨(r', true, o), rfl, .inr ⟨h1, hw, hg, .inr (.inr (.inr (.inr ⟨h5, hf.2.1, rfl, by rw [← hk']; exact o1, r', o, e1, (w3 rfl).1, (w3 rfl).2, w1, w2, rfl⟩)))⟩⟩
                 · have hcn : (c != 0) = true := by simpa using hc
                   rw [if_pos hcn]
                   exact ⟨_, rfl, .inl ⟨c, hc, rfl⟩⟩
   have z1 : ((0 : Int) != 0) = false := rfl
   rw [z1]
   simp only [Bool.false_eq_true, if_false]
   by_cases ht : there = true
   · rw [if_pos ht]
     obtain ⟨c2, g1, g2⟩ := Zk6 hr0.ok
     rw [g1]
     simp only [Option.bind_some]
     by_cases hc2 : c2 = 0
     · subst hc2
       rw [z1]
       exact main fun _ => (Zjx hr0.ok).1 g1
     · have hcn : (c2 != 0) = true := by simpa using hc2
       rw [if_pos hcn]
       exact ⟨_, rfl, .inl ⟨c2, hc2, rfl⟩⟩
   · rw [if_neg ht]
     exact main fun h => absurd h ht
 · have hcn : (c != 0) = true := by simpa using hc
   rw [if_pos hcn]
   exact ⟨_, rfl, .inl ⟨c, hc, rfl⟩⟩
theorem Zwu {f : Zj → Bool} {l : Zc8} : ∀ y ∈ l.take (pre f l), f y = true := fun y hy => by
 obtain ⟨k, hk, rfl⟩ := List.getElem_of_mem hy
 rw [List.length_take] at hk
 obtain ⟨e, he, hf⟩ := Zv3 (f := f) (l := l) (k := k) (by omega)
 rw [List.getElem?_eq_getElem (by omega)] at he
 rw [List.getElem_take]
 obtain rfl := Option.some.inj he
 exact hf
variable {r r' r'' : Zd} {a : Zx} {o o' : Zg} {c : Int}
theorem Zod {r : Zd} {m : Int} (hg : Zcs r) (hk : 2 ≤ r.Kind ∧ r.Kind ≤ 4) (hb : r.Kind = 4 → r.Low ≤ m ∧ m ≤ r.High) : Zcs { r with Num := m } := by
 obtain ⟨g1, g2, g3, g4, g5, g6, g7⟩ := hg
 refine ⟨g1, g2, ?_, g4, fun h => ⟨(g5 h).1, (g5 h).2.1, (hb h).1, (hb h).2⟩, g6, g7⟩
 unfold Zgd at *
 have : decide (2 ≤ r.Kind ∧ r.Kind ≤ 4) = true := decide_eq_true hk
 simp only [this, Bool.true_or] at *
 exact g3
theorem Zmz {a b c : Zj} (h : Zc5 a b = true) (k : Zc5 b c = true) : Zc5 a c = true := by
 unfold Zc5 at *
 by_cases h1 : keyf a.Score = keyf b.Score
 · rw [if_pos h1] at h
   by_cases h2 : keyf b.Score = keyf c.Score
   · rw [if_pos h2] at k
     rw [if_pos (h1.trans h2)]; exact Zfc h k
   · rw [if_neg h2] at k
     rw [if_neg (by rw [h1]; exact h2), h1]; exact k
 · rw [if_neg h1] at h
   have h' := of_decide_eq_true h
   by_cases h2 : keyf b.Score = keyf c.Score
   · rw [if_neg (by rw [← h2]; exact h1), ← h2]; exact h
   · rw [if_neg h2] at k
     have k' := of_decide_eq_true k
     rw [if_neg (by omega)]; exact decide_eq_true (by omega)
def BS (l : Zc8) : Prop := l.Pairwise fun p q => Zc5 p q = true
def Zpo (k : Int) (e : Zj) : Prop := e.Name.size ≤ 16 ∧ (k = 8 → keyf e.Score = keyf 0) ∧ e.Score = Zb2 e.Score
theorem Zmk {k : Int} {l : Zc8} {i : Nat} {x : Zj} (h : l[i]? = some x) : Zgt k l i = 0 ↔ Zpo k x ∧ (0 < i → k = 8 → sLt ((l[i - 1]?).getD default).Name x.Name = true) ∧ (0 < i → k = 9 → Zc5 ((l[i - 1]?).getD default) x = true) := by
 unfold Zgt Zpo
 rw [h]
 simp only []
 by_cases h1 : (16 : Int) < x.Name.size
 · rw [if_pos h1]; exact ⟨fun h => (by cases h), fun h => by omega⟩
 · rw [if_neg h1]
   by_cases h2 : (k = 8 ∧ keyf x.Score ≠ keyf 0) ∨ x.Score ≠ Zb2 x.Score
   · rw [if_pos h2]
     refine ⟨fun h => (by cases h), fun h => ?_⟩
     rcases h2 with ⟨a, b⟩ | b
     · exact absurd (h.1.2.1 a) b
     · exact absurd h.1.2.2 b
   · rw [if_neg h2]
     have e1 : k = 8 → keyf x.Score = keyf 0 := fun hk => Classical.byContradiction fun hn => h2 (.inl ⟨hk, hn⟩)
     have e2 : x.Score = Zb2 x.Score := Classical.byContradiction fun hn => h2 (.inr hn)
     by_cases h3 : 0 < i ∧ k = 8 ∧ sLt ((l[i - 1]?).getD default).Name x.Name = false
     · rw [if_pos h3]
       refine ⟨fun h => (by cases h), fun h => ?_⟩
       have := h.2.1 h3.1 h3.2.1
       rw [h3.2.2] at this; cases this
     · rw [if_neg h3]
       have e3 : 0 < i → k = 8 → sLt ((l[i - 1]?).getD default).Name x.Name = true := fun a b => by
         cases hq : sLt ((l[i - 1]?).getD default).Name x.Name
         · exact absurd ⟨a, b, hq⟩ h3
         · rfl
       by_cases h4 : 0 < i ∧ k = 9 ∧ Zc5 ((l[i - 1]?).getD default) x = false
       · rw [if_pos h4]
         refine ⟨fun h => (by cases h), fun h => ?_⟩
         have := h.2.2 h4.1 h4.2.1
         rw [h4.2.2] at this; cases this
       · rw [if_neg h4]
         refine ⟨fun _ => ⟨⟨by omega, e1, e2⟩, e3, fun a b => ?_⟩, fun _ => rfl⟩
         cases hq : Zc5 ((l[i - 1]?).getD default) x
         · exact absurd ⟨a, b, hq⟩ h4
         · rfl
theorem Zwe {R : Zj → Zj → Prop} (ht : ∀ {a b c}, R a b → R b c → R a c) {l : Zc8} (step : ∀ i, i + 1 < l.length → R ((l[i]?).getD default) ((l[i + 1]?).getD default)) : l.Pairwise R := by
 have far : ∀ d i, i + d + 1 < l.length → R ((l[i]?).getD default) ((l[i + d + 1]?).getD default) := by
   intro d
   induction d with
   | zero => intro i h; exact step i h
   | succ d ih => intro i h; exact ht (ih i (by omega)) (step (i + d + 1) (by omega))
 refine List.pairwise_iff_getElem.2 fun i j hi hj hij => ?_
 have := far (j - i - 1) i (by omega)
 rw [show i + (j - i - 1) + 1 = j by omega, List.getElem?_eq_getElem hi, List.getElem?_eq_getElem hj] at this
 exact this
theorem Zwm {R : Zj → Zj → Prop} {l : Zc8} (h : l.Pairwise R) {i : Nat} {x : Zj} (hx : l[i]? = some x) (hi : 0 < i) : R ((l[i - 1]?).getD default) x := by
 obtain ⟨h1, rfl⟩ := List.getElem?_eq_some_iff.1 hx
 rw [List.getElem?_eq_getElem (by omega)]
 exact List.pairwise_iff_getElem.1 h _ _ (by omega) h1 (by omega)
theorem Zt2 {k : Int} {l : Zc8} : (∀ i, i < l.length → Zgt k l i = 0) ↔ (∀ e ∈ l, Zpo k e) ∧ (k = 8 → NS l) ∧ (k = 9 → BS l) := by
 constructor
 · intro h
   refine ⟨fun e he => ?_, fun hk => ?_, fun hk => ?_⟩
   · obtain ⟨i, hi, rfl⟩ := List.getElem_of_mem he
     exact ((Zmk (List.getElem?_eq_getElem hi)).1 (h i hi)).1
   · refine Zwe (R := fun p q => sLt p.Name q.Name = true) (fun a b => Zfc a b) fun i hi => ?_
     have := ((Zmk (List.getElem?_eq_getElem hi)).1 (h (i + 1) hi)).2.1 (by omega) hk
     rw [List.getElem?_eq_getElem hi]; exact this
   · refine Zwe (R := fun p q => Zc5 p q = true) (fun a b => Zmz a b) fun i hi => ?_
     have := ((Zmk (List.getElem?_eq_getElem hi)).1 (h (i + 1) hi)).2.2 (by omega) hk
     rw [List.getElem?_eq_getElem hi]; exact this
 · intro ⟨h1, h2, h3⟩ i hi
   have hx := List.getElem?_eq_getElem hi
   exact (Zmk hx).2 ⟨h1 _ (List.getElem_mem hi), fun a b => Zwm (R := fun p q => sLt p.Name q.Name = true) (h2 b) hx a, fun a b => Zwm (R := fun p q => Zc5 p q = true) (h3 b) hx a⟩
theorem Zwt {r : Zd} (h : Zcs r) (hk : 8 ≤ r.Kind) : 1 ≤ r.Cap ∧ r.Cap ≤ 32 ∧ (r.List.length : Int) ≤ r.Cap ∧ (∀ e ∈ r.List, Zpo r.Kind e) ∧ (r.Kind = 8 → NS r.List) ∧ (r.Kind = 9 → BS r.List) := by
 obtain ⟨a, b, c, d⟩ := h.2.2.2.2.2.2 hk
 exact ⟨a, b, c, Zt2.1 d⟩
theorem Zmd {r : Zd} {l : Zc8} (h : Zcs r) (hk : 8 ≤ r.Kind) (h1 : (l.length : Int) ≤ r.Cap) (h2 : ∀ e ∈ l, Zpo r.Kind e) (h3 : r.Kind = 8 → NS l) (h4 : r.Kind = 9 → BS l) : Zcs { r with List := l } := by
 obtain ⟨g1, g2, g3, g4, g5, g6, g7⟩ := h
 refine ⟨g1, g2, ?_, g4, g5, g6, fun hk => ⟨(g7 hk).1, (g7 hk).2.1, h1, Zt2.2 ⟨h2, h3, h4⟩⟩⟩
 unfold Zgd at *
 have : decide (8 ≤ r.Kind) = true := decide_eq_true hk
 simp only [this, Bool.true_or] at *
 exact g3
theorem Zo0 {r : Zd} {t : ByteArray} (h : Zcs r) (hk : r.Kind = 1) (h1 : t.size ≤ 64) : Zcs { r with Text := t } := by
 obtain ⟨g1, g2, g3, g4, g5, g6, g7⟩ := h
 refine ⟨g1, g2, ?_, h1, g5, g6, g7⟩
 unfold Zgd at *
 have : decide (r.Kind = 1) = true := decide_eq_true hk
 simp only [this, Bool.true_or, Bool.true_and] at *
 exact g3
theorem Zus {r : Zd} {x : Nat} (h : Zcs r) (hk : 5 ≤ r.Kind ∧ r.Kind ≤ 7) (h1 : x = Zb2 x) : Zcs { r with Real := x } := by
 obtain ⟨g1, g2, g3, g4, g5, g6, g7⟩ := h
 refine ⟨g1, g2, ?_, g4, g5, h1, g7⟩
 unfold Zgd at *
 have : decide (5 ≤ r.Kind ∧ r.Kind ≤ 7) = true := decide_eq_true hk
 simp only [this, Bool.true_or] at *
 exact g3
variable {r r' : Zd} {a : Zx} {o : Zg}
theorem Zl9 {ψ : Nat → Nat → Option Nat} (hg : Zcs r) (hk : 5 ≤ r.Kind ∧ r.Kind ≤ 7) (hψ : ∀ m, ψ r.Real a.X = some m → m = Zb2 m) (e : Z8 a.Kind r a default = Zd3 ψ r a default) (h1 : Z8 a.Kind r a default = some (0, r', o)) : Zcs r' := by
 rw [e] at h1
 unfold Zd3 at h1
 obtain ⟨m, m1, m2⟩ := Option.bind_eq_some_iff.1 h1
 simp only [Option.some.injEq, Prod.mk.injEq] at m2
 obtain ⟨_, rfl, _⟩ := m2
 exact Zus hg hk (hψ m m1)
theorem Z1q (h : a.Kind = 18) (hr : RecW r) (hg : Zcs r) (hk : r.Kind = 8) (ha : ActW a) (h1 : Z8 a.Kind r a default = some (0, r', o)) : Zcs r' := by
 have e : Z8 a.Kind r a default = Zjm r a default := by rw [h]; rfl
 obtain ⟨c1, c2, c3, c4, c5, _⟩ := Zwt hg (by omega)
 have hs := c5 hk
 have hl := hr.len
 have hple := Zmv (fun e => sLt e.Name a.S) r.List
 rw [e] at h1
 unfold Zjm at h1
 rw [Zmm hs (by omega), Zn4 (by omega)] at h1
 simp only [Option.bind_some] at h1
 by_cases hat : isAt a.S r.List = true
 · rw [if_pos hat] at h1
   simp only [Option.some.injEq, Prod.mk.injEq, true_and] at h1
   rw [← h1.1]; exact hg
 · rw [if_neg hat] at h1
   by_cases hc : decide (r.Cap ≤ (r.List.length : Int)) = true
   · rw [if_pos hc] at h1; cases h1
   · rw [if_neg hc] at h1
     have hc' : ¬ r.Cap ≤ (r.List.length : Int) := by simpa using hc
     unfold Zb5 at h1
     rw [if_pos ⟨by omega, by omega, by simp, by simp; omega⟩] at h1
     simp only [Option.bind_some, Option.some.injEq, Prod.mk.injEq, true_and, Int.toNat_natCast] at h1
     obtain ⟨rfl, _⟩ := h1
     have hbehind : ∀ y ∈ r.List.drop (pre (fun e => sLt e.Name a.S) r.List), sLt a.S y.Name = true := fun y hy => by
       obtain ⟨k, hk, rfl⟩ := List.getElem_of_mem hy
       rw [List.length_drop] at hk
       rw [List.getElem_drop]
       have hm := Zr0 (s := a.S) hs (k := pre (fun e => sLt e.Name a.S) r.List + k) (by omega)
       rw [show decide (pre (fun e => sLt e.Name a.S) r.List + k < pre (fun e => sLt e.Name a.S) r.List) = false by simp] at hm
       refine Zlo hm fun hn => ?_
       have hany := Zrz (s := a.S) hs
       rw [show isAt a.S r.List = false by simpa using hat, List.any_eq_false] at hany
       exact hany _ (List.getElem_mem _) (Zhe.2 hn)
     refine Zmd hg (by omega) (by simp; omega) (fun e he => ?_) (fun _ => ?_) (fun h => by omega)
     · simp only [List.mem_append, List.mem_singleton] at he
       rcases he with (he | rfl) | he
       · exact c4 e (List.mem_of_mem_take he)
       · exact ⟨ha.s16 (by omega), fun _ => rfl, by kernel_rfl⟩
       · exact c4 e (List.mem_of_mem_drop he)
     · unfold NS at *
       rw [List.append_assoc, List.pairwise_append]
       refine ⟨hs.sublist (List.take_sublist _ _), ?_, fun x hx y hy => ?_⟩
       · rw [List.singleton_append, List.pairwise_cons]
         exact ⟨hbehind, hs.sublist (List.drop_sublist _ _)⟩
       · have hxa : sLt x.Name a.S = true := Zwu (f := fun e => sLt e.Name a.S) x hx
         rcases List.mem_append.1 hy with hy | hy
         · rw [List.mem_singleton.1 hy]; exact hxa
         · exact Zfc hxa (hbehind y hy)
theorem Zzm (h : a.Kind = 19) (hr : RecW r) (hg : Zcs r) (hk : r.Kind = 8) (h1 : Z8 a.Kind r a default = some (0, r', o)) : Zcs r' := by
 obtain ⟨c1, c2, c3, c4, c5, _⟩ := Zwt hg (by omega)
 have hl := hr.len
 obtain ⟨c, x, y, d1, d2, _⟩ := Zub h hr hg hk
 rw [h1] at d1
 simp only [Option.some.injEq, Prod.mk.injEq] at d1
 obtain ⟨rfl, rfl, rfl⟩ := d1
 have e2 : Zbo r a = (Zec r a (Int.toNat ((r.List.length : Int) - (0 : Int)) + 1) ([] : List Zj) (0 : Int)).bind fun z57 => match z57 with | y56 => (Z1 ({ r with List := y56 }) (ans 0)) := by unfold Zbo Zcd; rw [h]; rfl
 have hf := Zne (a := a) (a0 := r) (by omega) r.List.length 0 [] (by omega) (by simp)
 rw [show ((0 : Nat) : Int) = 0 from rfl] at hf
 rw [e2, show (Int.toNat ((r.List.length : Int) - (0 : Int)) + 1) = r.List.length + 1 by omega, hf, List.drop_zero, List.nil_append] at d2
 simp only [Option.bind_some, Z1, if_true, Option.some.injEq, Prod.mk.injEq] at d2
 obtain ⟨rfl, _⟩ := d2
 have hle := List.length_filter_le (fun e : Zj => !sEq e.Name a.S) r.List
 exact Zmd hg (by omega) (by omega) (fun e he => c4 e (List.mem_filter.1 he).1) (fun _ => List.Pairwise.sublist List.filter_sublist (c5 hk)) (fun h => by omega)
theorem Zzi (h : a.Kind = 21) (hr : RecW r) (hg : Zcs r) (hk : r.Kind = 9) (ha : ActW a) (h1 : Z8 a.Kind r a default = some (0, r', o)) : Zcs r' := by
 have e : Z8 a.Kind r a default = Zit r a default := by rw [h]; rfl
 obtain ⟨c1, c2, c3, c4, _, c6⟩ := Zwt hg (by omega)
 have hs := c6 hk
 have hl := hr.len
 have hple := Zmv (Zdi { Score := a.X, Name := a.S } false) r.List
 rw [e] at h1
 unfold Zit at h1
 rw [Zuj ha.ok.2 hr.ok.sc (by omega), Zn4 (by omega)] at h1
 simp only [Option.bind_some] at h1
 obtain ⟨e9, g9, h1⟩ := Option.bind_eq_some_iff.1 h1
 obtain ⟨r11, g11, h1⟩ := Option.bind_eq_some_iff.1 h1
 split at h1
 · simp only [Option.some.injEq, Prod.mk.injEq, true_and] at h1
   rw [← h1.1]; exact hg
 · rename_i hcond
   unfold Zb5 at h1
   rw [if_pos ⟨by omega, by omega, by simp, by simp; omega⟩] at h1
   simp only [Option.bind_some] at h1
   rw [Zwa c1 c2] at h1
   simp only [Option.bind_some, Option.some.injEq, Prod.mk.injEq, true_and, Int.toNat_natCast] at h1
   obtain ⟨rfl, _⟩ := h1
   have hbehind : ∀ y ∈ r.List.drop (pre (Zdi { Score := a.X, Name := a.S } false) r.List), Zc5 { Score := a.X, Name := a.S } y = true := fun y hy => by
     have hp : pre (Zdi { Score := a.X, Name := a.S } false) r.List < r.List.length := by
       have := List.length_pos_of_mem hy
       rw [List.length_drop] at this; omega
     have hd : decide (((pre (Zdi { Score := a.X, Name := a.S } false) r.List : Nat) : Int) < (r.List.length : Int)) = true := by simpa using hp
     rw [hd, Zcy hp] at g9
     simp only [gd_t, Option.some.injEq] at g9
     subst g9
     rw [hd] at g11 hcond
     simp only [gd_t] at g11
     rw [Znf ha.ok.2 (hr.ok.sc _ (List.getElem_mem hp))] at g11
     have hb : Zc5 { Score := a.X, Name := a.S } r.List[pre (Zdi { Score := a.X, Name := a.S } false) r.List] = true := by
       have := Option.some.inj g11
       rw [← this] at hcond
       simpa using hcond
     rw [List.drop_eq_getElem_cons hp] at hy
     rcases List.mem_cons.1 hy with rfl | hy
     · exact hb
     · refine Zmz hb ?_
       have hpw : (r.List.drop (pre (Zdi { Score := a.X, Name := a.S } false) r.List)).Pairwise fun p q => Zc5 p q = true := List.Pairwise.sublist (List.drop_sublist _ _) hs
       rw [List.drop_eq_getElem_cons hp, List.pairwise_cons] at hpw
       exact hpw.1 y hy
   refine Zmd hg (by omega) (by rw [List.length_take]; omega) (fun e he => ?_) (fun h => by omega) (fun _ => ?_)
   · have he := List.mem_of_mem_take he
     simp only [List.mem_append, List.mem_singleton] at he
     rcases he with (he | rfl) | he
     · exact c4 e (List.mem_of_mem_take he)
     · exact ⟨ha.s16 (by omega), fun h => by omega, ha.xc⟩
     · exact c4 e (List.mem_of_mem_drop he)
   · refine List.Pairwise.sublist (List.take_sublist _ _) ?_
     rw [List.append_assoc, List.pairwise_append]
     refine ⟨List.Pairwise.sublist (List.take_sublist _ _) hs, ?_, fun x hx y hy => ?_⟩
     · rw [List.singleton_append, List.pairwise_cons]
       exact ⟨hbehind, List.Pairwise.sublist (List.drop_sublist _ _) hs⟩
     · have hxa : Zc5 x { Score := a.X, Name := a.S } = true := Zwu (f := Zdi { Score := a.X, Name := a.S } false) x hx
       rcases List.mem_append.1 hy with hy | hy
       · rw [List.mem_singleton.1 hy]; exact hxa
       · exact Zmz hxa (hbehind y hy)
theorem Zgy {k on : Int} {c : Int} (h : Zkc k = some on) (e : Zkc k = some c) : on = c := Option.some.inj (h.symm.trans e)
theorem Z2z (h5 : 5 ≤ a.Kind) (h21 : a.Kind ≤ 21) (hon : Zkc a.Kind = some r.Kind) (hr : RecW r) (hg : Zcs r) (ha : ActW a) (h1 : Z8 a.Kind r a default = some (0, r', o)) : Zcs r' := by
 have real : ∀ {m : Nat}, m = r.Real ∨ m = a.X → m = Zb2 m := fun {m} h => by
   rcases h with rfl | rfl
   · exact Zl4 hg
   · exact ha.xc
 have hk' : a.Kind = 5 ∨ a.Kind = 6 ∨ a.Kind = 7 ∨ a.Kind = 8 ∨ a.Kind = 9 ∨ a.Kind = 10 ∨ a.Kind = 11 ∨ a.Kind = 12 ∨ a.Kind = 13 ∨ a.Kind = 14 ∨ a.Kind = 15 ∨ a.Kind = 16 ∨ a.Kind = 17 ∨ a.Kind = 18 ∨ a.Kind = 19 ∨ a.Kind = 20 ∨ a.Kind = 21 := by omega
 rcases hk' with h | h | h | h | h | h | h | h | h | h | h | h | h | h | h | h | h
 · have e : Z8 a.Kind r a default = Zii r a default := by rw [h]; rfl
   rw [e] at h1
   simp only [Zii, Option.some.injEq, Prod.mk.injEq, true_and] at h1
   rw [← h1.1]
   exact Zo0 hg (Zgy hon (by rw [h]; kernel_rfl)) ha.s64
 · have e : Z8 a.Kind r a default = Zf4 r a default := by rw [h]; rfl
   rw [e] at h1
   simp only [Zf4, Zip hr.len, Option.bind_some, Option.some.injEq, Prod.mk.injEq, true_and] at h1
   rw [← h1.1]
   exact Zo0 hg (Zgy hon (by rw [h]; kernel_rfl)) ha.s64
 · have e : Z8 a.Kind r a default = Zig r a default := by rw [h]; rfl
   rw [e] at h1
   simp only [Zig, Option.some.injEq, Prod.mk.injEq, true_and] at h1
   rw [← h1.1]
   have hk : r.Kind = 2 := Zgy hon (by rw [h]; kernel_rfl)
   exact Zod hg (by omega) (fun h => by omega)
 · have e : Z8 a.Kind r a default = Zjp r a default := by rw [h]; rfl
   rw [e] at h1
   unfold Zjp at h1
   split at h1
   · cases h1
   · simp only [Option.some.injEq, Prod.mk.injEq, true_and] at h1
     rw [← h1.1]
     have hk : r.Kind = 3 := Zgy hon (by rw [h]; kernel_rfl)
     exact Zod hg (by omega) (fun h => by omega)
 · have e : Z8 a.Kind r a default = Zdm r a default := by rw [h]; rfl
   rw [e] at h1
   unfold Zdm at h1
   split at h1
   · cases h1
   · simp only [Option.some.injEq, Prod.mk.injEq, true_and] at h1
     rw [← h1.1]; exact hg
 · have e : Z8 a.Kind r a default = Zf7 r a default := by rw [h]; rfl
   have hk : r.Kind = 4 := Zgy hon (by rw [h]; kernel_rfl)
   obtain ⟨p1, p2, p3, p4⟩ := Zvg hg hk
   obtain ⟨q1, q2⟩ := ha.inout (.inl h)
   rw [e] at h1
   unfold Zf7 at h1
   rw [wr (x := r.High - r.Num) (by omega) (by omega), wr (x := r.Num + a.N) (by omega) (by omega)] at h1
   split at h1
   · cases h1
   · rename_i hcond
     have hcond' : ¬ (r.High - r.Num < a.N) := by simpa using hcond
     simp only [Option.some.injEq, Prod.mk.injEq, true_and] at h1
     rw [← h1.1]
     exact Zod hg (by omega) (fun _ => by omega)
 · have e : Z8 a.Kind r a default = Zf5 r a default := by rw [h]; rfl
   have hk : r.Kind = 4 := Zgy hon (by rw [h]; kernel_rfl)
   obtain ⟨p1, p2, p3, p4⟩ := Zvg hg hk
   obtain ⟨q1, q2⟩ := ha.inout (.inr h)
   rw [e] at h1
   unfold Zf5 at h1
   rw [wr (x := r.Num - r.Low) (by omega) (by omega), wr (x := r.Num - a.N) (by omega) (by omega)] at h1
   split at h1
   · cases h1
   · rename_i hcond
     have hcond' : ¬ (r.Num - r.Low < a.N) := by simpa using hcond
     simp only [Option.some.injEq, Prod.mk.injEq, true_and] at h1
     rw [← h1.1]
     exact Zod hg (by omega) (fun _ => by omega)
 · have e : Z8 a.Kind r a default = Zdm r a default := by rw [h]; rfl
   rw [e] at h1
   unfold Zdm at h1
   split at h1
   · cases h1
   · simp only [Option.some.injEq, Prod.mk.injEq, true_and] at h1
     rw [← h1.1]; exact hg
 · have hk : r.Kind = 5 := Zgy hon (by rw [h]; kernel_rfl)
   refine Zl9 (ψ := fun x y => Zjz x y) hg (by omega) (fun m hm => ?_) (by rw [h]; rfl) h1
   obtain ⟨m', e1, _, e2⟩ := Zwg hr.ok.real ha.ok.2 (Zl4 hg) ha.xc
   have : m = m' := Option.some.inj (hm.symm.trans e1)
   exact real (this ▸ e2)
 · have hk : r.Kind = 6 := Zgy hon (by rw [h]; kernel_rfl)
   refine Zl9 (ψ := fun x y => Zj4 x y) hg (by omega) (fun m hm => ?_) (by rw [h]; rfl) h1
   obtain ⟨m', e1, _, e2⟩ := Zv1 hr.ok.real ha.ok.2 (Zl4 hg) ha.xc
   have : m = m' := Option.some.inj (hm.symm.trans e1)
   exact real (this ▸ e2)
 · have hk : r.Kind = 7 := Zgy hon (by rw [h]; kernel_rfl)
   refine Zl9 (ψ := fun x y => Zhh x y) hg (by omega) (fun m hm => ?_) (by rw [h]; rfl) h1
   have hz := Zyc r.Real a.X
   have : Zhh r.Real a.X = some (Zb2 (fadd r.Real a.X)) := by unfold Zhh; rw [Zh9 hz]; rfl
   have : m = Zb2 (fadd r.Real a.X) := Option.some.inj (hm.symm.trans this)
   rw [this, Zq9]
 · have hk : r.Kind = 7 := Zgy hon (by rw [h]; kernel_rfl)
   refine Zl9 (ψ := fun x y => Zgk x y) hg (by omega) (fun m hm => ?_) (by rw [h]; rfl) h1
   have hz := Zyi r.Real a.X
   have : Zgk r.Real a.X = some (Zb2 (fmul r.Real a.X)) := by unfold Zgk; rw [Zh9 hz]; rfl
   have : m = Zb2 (fmul r.Real a.X) := Option.some.inj (hm.symm.trans this)
   rw [this, Zq9]
 · have hk : r.Kind = 7 := Zgy hon (by rw [h]; kernel_rfl)
   refine Zl9 (ψ := fun x y => Zf8 x y) hg (by omega) (fun m hm => ?_) (by rw [h]; rfl) h1
   exact real (.inr (Option.some.inj hm).symm)
 · exact Z1q h hr hg (Zgy hon (by rw [h]; kernel_rfl)) ha h1
 · exact Zzm h hr hg (Zgy hon (by rw [h]; kernel_rfl)) h1
 · have hk : r.Kind = 8 := Zgy hon (by rw [h]; kernel_rfl)
   have e : Z8 a.Kind r a default = Zet r a default := by rw [h]; rfl
   have hl := hr.len
   rw [e] at h1
   unfold Zet at h1
   rw [Zmm (Zk4 hg hk) (by omega)] at h1
   simp only [Option.bind_some] at h1
   split at h1
   · cases h1
   · simp only [Option.some.injEq, Prod.mk.injEq, true_and] at h1
     rw [← h1.1]; exact hg
 · exact Zzi h hr hg (Zgy hon (by rw [h]; kernel_rfl)) ha h1
theorem Zy8 (hk : a.Kind = 9 ∨ a.Kind = 12 ∨ a.Kind = 20) (hr : RecW r) (hg : Zcs r) (hon : Zkc a.Kind = some r.Kind) (h1 : Z8 a.Kind r a default = some (0, r', o)) : r' = r := by
 rcases hk with h | h | h
 · have e : Z8 a.Kind r a default = Zdm r a default := by rw [h]; rfl
   rw [e] at h1
   unfold Zdm at h1
   split at h1
   · cases h1
   · simp only [Option.some.injEq, Prod.mk.injEq, true_and] at h1
     exact h1.1.symm
 · have e : Z8 a.Kind r a default = Zdm r a default := by rw [h]; rfl
   rw [e] at h1
   unfold Zdm at h1
   split at h1
   · cases h1
   · simp only [Option.some.injEq, Prod.mk.injEq, true_and] at h1
     exact h1.1.symm
 · have hk : r.Kind = 8 := Zgy hon (by rw [h]; kernel_rfl)
   have e : Z8 a.Kind r a default = Zet r a default := by rw [h]; rfl
   have hl := hr.len
   rw [e] at h1
   unfold Zet at h1
   rw [Zmm (Zk4 hg hk) (by omega)] at h1
   simp only [Option.bind_some] at h1
   split at h1
   · cases h1
   · simp only [Option.some.injEq, Prod.mk.injEq, true_and] at h1
     exact h1.1.symm
structure Z38 (t : Bool) (r : Zd) : Prop where
 w : RecW r
 good : t = true → Zcs r
 zero : t = false → r = zrc
theorem Zpw {k : ByteArray} {r : Zd} {l : List KV} (hs : Srt l) (h : lk k l = some r) : insL k r l = l := by
 rcases Zlf r hs with ⟨p, a1, a2, a3, a4, _⟩ | ⟨_, a2, _⟩
 · rw [a4]
   rw [h] at a3
   obtain rfl := Option.some.inj a3
   have e : (k, p.2) = p := by rw [← a2]
   rw [e]
   obtain ⟨hlt, hp⟩ := List.getElem?_eq_some_iff.1 a1
   have := List.take_append_drop (rk k l) l
   rw [List.drop_eq_getElem_cons hlt, hp] at this
   exact this
 · rw [h] at a2; cases a2
theorem Z0v {k : ByteArray} {r : Zd} : ∀ {l : List KV}, lk k l = some r → (k, r) ∈ l
 | [], h => by cases h
 | p :: l, h => by
   simp only [lk] at h
   split at h
   · rename_i he
     obtain rfl := Option.some.inj h
     have := Zhe.1 he
     subst this
     exact List.mem_cons_self ..
   · exact List.mem_cons_of_mem _ (Z0v h)
theorem Zr2 {r : Zd} (h : Zcs r) : r.List.length ≤ 32 := by
 by_cases hk : 8 ≤ r.Kind
 · have := h.2.2.2.2.2.2 hk
   omega
 · have h1 := h.2.2.1
   have h8 : decide (8 ≤ r.Kind) = false := by simpa using hk
   rw [h8] at h1
   simp only [Zgd, Bool.false_or, Bool.and_eq_true, beq_iff_eq] at h1
   have := h1.2.2
   omega
theorem Zhb {s s' : Zk} {k : ByteArray} {x : Zd} {c : Int} (h : Zdl s k x = some (s', c)) : s'.room = s.room := by
 unfold Zdl at h
 split at h
 · cases h; rfl
 · obtain ⟨_, _, h⟩ := Option.bind_eq_some_iff.1 h
   split at h
   · cases h; rfl
   · obtain ⟨_, _, h⟩ := Option.bind_eq_some_iff.1 h
     obtain ⟨_, _, h⟩ := Option.bind_eq_some_iff.1 h
     split at h
     · cases h; rfl
     · obtain ⟨_, _, h⟩ := Option.bind_eq_some_iff.1 h
       obtain ⟨_, _, h⟩ := Option.bind_eq_some_iff.1 h
       cases h; rfl
theorem Zp0 {s s' : Zk} {k : ByteArray} {b : Bool} (h : Zfp s k = some (s', b)) : s'.room = s.room := by
 unfold Zfp at h
 obtain ⟨_, _, h⟩ := Option.bind_eq_some_iff.1 h
 split at h
 · cases h; rfl
 · obtain ⟨_, _, h⟩ := Option.bind_eq_some_iff.1 h
   cases h; rfl
theorem Zry {s s' : Zk} {t : Zl} {n : Nat} (h : Rel s t n) (hn : n < 1000000) {k : ByteArray} {x : Zd} {c : Int} (e : Zdl s k x = some (s', c)) (hc : Zdu x = some 0) (hx : x.List.length ≤ 100) (hk : sEq k ⟨#[]⟩ = false) (hk2 : k.size ≤ 24) :
   (((lk k (pl t)).isSome = true ∨ (t.L.length : Int) < t.Room) → c = 0 ∧ toL s'.top = insL k x (pl t)) ∧ ((lk k (pl t)).isNone = true → t.Room ≤ (t.L.length : Int) → c = 8 ∧ s' = s) := by
 have hb := h.len
 obtain ⟨t1, q1, _, q3⟩ := Zxr (k := k) (x := x) h.sz (by rw [h.top]; exact h.srt) (by rw [h.tl]; omega)
 unfold Zdl at e
 rw [hk, hc, Zqq h, Zx0 h, Zog (by unfold Cl; omega)] at e
 have hd : decide ((24 : Int) < (k.size : Int)) = false := by simp; omega
 rw [hd] at e
 simp only [Bool.or_self, Bool.false_eq_true, if_false, Option.bind_some, bne_self_eq_false] at e
 cases hl : lk k (pl t) with
 | none =>
   rw [hl] at e
   simp only [getR, Bool.not_false, gd_t, Option.bind_some, Bool.true_and, h.room] at e
   by_cases hr : t.Room ≤ (t.L.length : Int)
   · rw [if_pos (by simpa using hr)] at e
     cases e
     refine ⟨fun h => ?_, fun _ _ => ⟨rfl, rfl⟩⟩
     rcases h with h | h
     · cases h
     · omega
   · rw [if_neg (by simpa using hr), q1] at e
     cases e
     exact ⟨fun _ => ⟨rfl, by rw [← h.top]; exact q3⟩, fun _ h => absurd h hr⟩
 | some r =>
   rw [hl] at e
   simp only [getR, Bool.not_true, gd_f, Option.bind_some, Bool.false_and, Bool.false_eq_true, if_false] at e
   rw [q1] at e
   cases e
   exact ⟨fun _ => ⟨rfl, by rw [← h.top]; exact q3⟩, fun h => by cases h⟩
structure FR (s : Zk) (t : Zl) (n : Nat) : Prop where
 rel : Rel s t n
 good : ∀ q ∈ pl t, RecW q.2 ∧ Zcs q.2
 fit : (t.L.length : Int) ≤ t.Room
theorem Z1y {k : ByteArray} {x r : Zd} {l : List KV} (hs : Srt l) (h : lk k l = some r) : (insL k x l).length = l.length := by
 rcases Zlf x hs with ⟨p, a1, a2, a3, a4, _⟩ | ⟨_, a2, _⟩
 · rw [a4]
   have := (List.getElem?_eq_some_iff.1 a1).1
   simp; omega
 · rw [h] at a2; cases a2
theorem FR.mono {s : Zk} {t : Zl} {n m : Nat} (h : FR s t n) (hm : n ≤ m) : FR s t m := ⟨h.rel.mono hm, h.good, h.fit⟩
theorem Z55 {s : Zk} {t t' : Zl} {n : Nat} (h : Rel s t n) (hp : pl t' = pl t) (hr : t'.Room = t.Room) : Rel s t' n :=
 ⟨h.top.trans hp.symm, h.sz, by rw [hp]; exact h.srt, by rw [← Zfh, hp, Zfh]; exact h.len, h.room.trans hr.symm, by rw [hp]; exact h.ok⟩
theorem Zn5 {s : Zk} {t t' : Zl} {n : Nat} (h : FR s t n) (hp : pl t' = pl t) (hr : t'.Room = t.Room) : FR s t' n :=
 ⟨Z55 h.rel hp hr, by rw [hp]; exact h.good, by rw [hr, ← Zfh, hp, Zfh]; exact h.fit⟩
theorem Z01 {s s' : Zk} {t t' : Zl} {n m : Nat} {k : ByteArray} {x : Zd} (h : FR s t n) (hr : Rel s' t' m) (hw : RecW x) (hg : Zcs x) (ho : (lk k (pl t)).isSome = true ∨ (t.L.length : Int) < t.Room) (hp : pl t' = insL k x (pl t)) (hro : t'.Room = t.Room) : FR s' t' m := ⟨hr, fun q hq => by
 rw [hp] at hq
 rcases Zqn hq with rfl | hq
 · exact ⟨hw, hg⟩
 · exact h.good q hq, by
 have hf := h.fit
 rw [hro, ← Zfh, hp]
 have hl := Zmq k x (pl t)
 rw [Zfh] at hl
 rcases ho with ho | ho
 · obtain ⟨r, hr⟩ := Option.isSome_iff_exists.1 ho
   rw [Z1y h.rel.srt hr, Zfh]; exact hf
 · omega⟩
theorem Z6m {a : Zx} (ha : ActIn a) (h : Zgl a = some 0) : sEq a.Key ⟨#[]⟩ = false ∧ a.Key.size ≤ 24 := by
 obtain ⟨c, h1, _, h3⟩ := Znc ha.ok
 rw [h] at h1
 obtain rfl := Option.some.inj h1
 exact ⟨(h3 rfl).2.2.2.2.2.2.2.1, (h3 rfl).2.2.2.2.2.2.2.2⟩
theorem Zua {s : Zk} {t : Zl} {n : Nat} (h : FR s t n) (hn : n < 1000000) {a : Zx} (ha : ActIn a) :
   ∃ s' t' out, Zkl s a = some (s', out) ∧ Zk8 t a = some (t', out) ∧ FR s' t' (n + 1) ∧ RecW out.Rec ∧ t'.Room = t.Room := by
 obtain ⟨r, there, hg, hi, hl1, hl2⟩ : ∃ r there, getR (lk a.Key (pl t)) = (r, there) ∧ Z38 there r ∧ (there = true → lk a.Key (pl t) = some r) ∧ (there = false → lk a.Key (pl t) = none) := by
   cases hl : lk a.Key (pl t) with
   | none => exact ⟨_, _, rfl, ⟨Zc6, fun h => (by cases h), fun _ => rfl⟩, fun h => (by cases h), fun _ => rfl⟩
   | some r =>
     obtain ⟨g1, g2⟩ := h.good _ (Z0v hl)
     exact ⟨_, _, rfl, ⟨g1, fun _ => g2, fun h => (by cases h)⟩, fun _ => rfl, fun h => (by cases h)⟩
 obtain ⟨x, is, out, e1, e2, w1, w2⟩ := Zz0 (there := there) hi.w ha
 obtain ⟨z, e3, hs⟩ := Zxc (there := there) hi.w ha
 have hr0 : (if there = true then r else zrc) = r := by
   cases there
   · exact (hi.zero rfl).symm
   · rfl
 rw [hr0] at hs
 rw [e1] at e3
 obtain rfl := Option.some.inj e3
 unfold Zkl Zk8
 rw [Zqq h.rel, Z4c h.rel hn, hg]
 simp only [Option.bind_some]
 rw [e1, e2]
 simp only [Option.bind_some, Zni]
 rcases hs with ⟨c, hc, hz⟩ | ⟨h1, h2, h3, hs⟩
 · obtain ⟨rfl, rfl, rfl⟩ : x = r ∧ is = there ∧ out = ans c := by simpa using hz
   have hc' : (c != 0) = true := by simpa using hc
   simp only [hc', Bool.not_true, gd_f, Option.bind_some, Bool.true_or, if_true]
   exact ⟨s, t, _, rfl, rfl, h.mono (by omega), w2, rfl⟩
 obtain ⟨k1, k2⟩ := Z6m ha h1
 have hset : ∀ {y : Zd}, RecW y → Zcs y → ((lk a.Key (pl t)).isSome = true ∨ (t.L.length : Int) < t.Room) → ∃ s' t', Zdl s a.Key y = some (s', 0) ∧ Zdz t a.Key y = some (t', 0) ∧ FR s' t' (n + 1) ∧ pl t' = insL a.Key y (pl t) := fun {y} hw hgy ho => by
   have hsh := Zr2 hgy
   obtain ⟨s', t', c, f1, f2, f3, _⟩ := Zrw h.rel hn a.Key hw.ok (by omega)
   obtain ⟨rfl, hp⟩ := (Zry h.rel hn f1 ((Zjx hw.ok).2 hgy) (by omega) k1 k2).1 ho
   rw [f3.top] at hp
   exact ⟨s', t', f1, f2, Z01 h f3 hw hgy ho hp (by rw [← f3.room, Zhb f1, h.rel.room]), hp⟩
 rcases hs with ⟨hk, rfl, hmk, hz⟩ | ⟨hk, rfl, hz⟩ | ⟨hk, hz⟩ | ⟨hk, rfl, hz⟩ | ⟨k5, k21, rfl, kon, r', o, q1, q2, q3, q4, q5, hz⟩
 · -- New
   obtain ⟨rfl, rfl, rfl⟩ : x = a.Make ∧ is = true ∧ out = ans 0 := by simpa using hz
   have hl := hl2 rfl
   rw [hk]
   simp only [bne_self_eq_false, Bool.not_false, gd_t, Option.bind_some, show ((((((1 : Int) == 3) || ((1 : Int) == 4)) || ((1 : Int) == 9)) || ((1 : Int) == 12)) || ((1 : Int) == 20)) = false from rfl, Bool.or_self, Bool.false_eq_true, if_false, Bool.not_true, beq_self_eq_true, Bool.true_and]
   by_cases hr : t.Room ≤ (t.L.length : Int)
   · rw [if_pos (by simpa using hr)]
     have hsh := Zr2 hmk
     obtain ⟨s', t', c, f1, f2, f3, _⟩ := Zrw h.rel hn a.Key ha.mkr.ok (by omega)
     obtain ⟨rfl, rfl⟩ := (Zry h.rel hn f1 ((Zjx ha.mkr.ok).2 hmk) (by omega) k1 k2).2 (by rw [hl]; rfl) hr
     rw [f1]
     exact ⟨s', t, _, rfl, rfl, h.mono (by omega), Zc6, rfl⟩
   · rw [if_neg (by simpa using hr)]
     obtain ⟨s', t', f1, f2, f3, _⟩ := hset ha.mkr hmk (.inr (by omega))
     rw [f1, f2]
     exact ⟨s', t', _, rfl, rfl, f3, Zc6, by rw [← f3.rel.room, Zhb f1, h.rel.room]⟩
 · -- Drop
   obtain ⟨rfl, rfl, rfl⟩ : x = zrc ∧ is = false ∧ out = ans 0 := by simpa using hz
   rw [hk]
   obtain ⟨s', t', b, f1, f2, f3, f4⟩ := Zvu h.rel hn a.Key
   rw [f1, f2]
   have hro : t'.Room = t.Room := by rw [← f3.room, Zp0 f1, h.rel.room]
   have hf := h.fit
   refine ⟨s', t', ans 0, rfl, rfl, ⟨f3.mono (by omega), fun q hq => ?_, ?_⟩, Zc6, hro⟩
   · rcases f4 with f4 | f4
     · rw [f4] at hq; exact h.good q hq
     · rw [f4] at hq; exact h.good q (Zp8 hq)
   · rw [hro, ← Zfh]
     rcases f4 with f4 | f4
     · rw [f4, Zfh]; exact hf
     · have := Zot a.Key (pl t)
       rw [Zfh] at this
       rw [f4]; omega
 · -- Is
   obtain ⟨rfl, rfl, rfl⟩ : x = r ∧ is = there ∧ out = { ans 0 with Num := r.Kind } := by simpa using hz
   rw [hk]
   cases is with
   | true =>
     have hl := hl1 rfl
     obtain ⟨s', t', f1, f2, f3, f4⟩ := hset hi.w (hi.good rfl) (.inl (by rw [hl]; rfl))
     rw [f2]
     rw [Zpw h.rel.srt hl] at f4
     exact ⟨s, t', _, rfl, rfl, (Zn5 h f4 (by rw [← f3.rel.room, Zhb f1, h.rel.room])).mono (by omega), Zc6, by rw [← f3.rel.room, Zhb f1, h.rel.room]⟩
   | false =>
     have hl := hl2 rfl
     obtain ⟨s', t', b, f1, f2, f3, f4⟩ := Zvu h.rel hn a.Key
     rw [f2]
     have hp : pl t' = pl t := by
       rcases f4 with f4 | f4
       · exact f4
       · rcases Zlf x h.rel.srt with ⟨_, _, _, a3, _⟩ | ⟨_, _, _, a4⟩
         · rw [hl] at a3; cases a3
         · rw [f4, a4]
     exact ⟨s, t', _, rfl, rfl, (Zn5 h hp (by rw [← f3.room, Zp0 f1, h.rel.room])).mono (by omega), Zc6, by rw [← f3.room, Zp0 f1, h.rel.room]⟩
 · -- Look
   obtain ⟨rfl, rfl, rfl⟩ : x = r ∧ is = true ∧ out = { ans 0 with Rec := r } := by simpa using hz
   rw [hk]
   have hl := hl1 rfl
   obtain ⟨s', t', f1, f2, f3, f4⟩ := hset hi.w (hi.good rfl) (.inl (by rw [hl]; rfl))
   rw [f2]
   rw [Zpw h.rel.srt hl] at f4
   exact ⟨s, t', _, rfl, rfl, (Zn5 h f4 (by rw [← f3.rel.room, Zhb f1, h.rel.room])).mono (by omega), hi.w, by rw [← f3.rel.room, Zhb f1, h.rel.room]⟩
 · -- what changes a record
   obtain ⟨rfl, rfl, rfl⟩ : x = r' ∧ is = true ∧ out = o := by simpa using hz
   have hl := hl1 rfl
   have hgx : Zcs x := Z2z k5 k21 kon hi.w (hi.good rfl) h2 q1
   obtain ⟨s', t', f1, f2, f3, f4⟩ := hset q4 hgx (.inl (by rw [hl]; rfl))
   have hk1 : (a.Kind == 1) = false := by simp; omega
   rw [q2, hk1]
   simp only [bne_self_eq_false, Bool.not_false, gd_t, Option.bind_some, Bool.false_or, Bool.false_eq_true, if_false, Bool.not_true, Bool.false_and]
   rw [f1, f2]
   by_cases hrd : (((((a.Kind == (3 : Int)) || (a.Kind == (4 : Int))) || (a.Kind == (9 : Int))) || (a.Kind == (12 : Int))) || (a.Kind == (20 : Int))) = true
   · rw [if_pos hrd]
     have hx : x = r := by
       refine Zy8 ?_ hi.w (hi.good rfl) kon q1
       simp only [Bool.or_eq_true, beq_iff_eq] at hrd
       omega
     subst hx
     rw [Zpw h.rel.srt hl] at f4
     exact ⟨s, t', _, rfl, rfl, (Zn5 h f4 (by rw [← f3.rel.room, Zhb f1, h.rel.room])).mono (by omega), q5, by rw [← f3.rel.room, Zhb f1, h.rel.room]⟩
   · rw [if_neg hrd]
     exact ⟨s', t', _, rfl, rfl, f3, q5, by rw [← f3.rel.room, Zhb f1, h.rel.room]⟩
theorem Zre {d : Zbn} (hd : ∀ a ∈ d.Acts, ActIn a) (hl : d.Acts.length ≤ 12) : ∀ (n i : Nat), i + n = d.Acts.length →
   ∃ z, Zfy d (n + 1) (i : Int) = some z ∧ Zfq d (n + 1) (i : Int) = some z ∧ (z = .inr () ∨ ∃ c at_, z = .inl (c, at_) ∧ c ≠ 0)
 | 0, i, h => by
   rw [Zfy, Zfq, if_neg (by simp; omega), if_neg (by simp; omega)]
   exact ⟨_, rfl, rfl, .inl rfl⟩
 | n + 1, i, h => by
   have h1 : i < d.Acts.length := by omega
   obtain ⟨c, e1, e2, _⟩ := Znc (hd _ (List.getElem_mem h1)).ok
   rw [Zfy, Zfq, if_pos (by simp; omega), if_pos (by simp; omega), Zcy h1, wr1 (by omega)]
   simp only [Option.bind_some]
   rw [e1, e2]
   simp only [Option.bind_some]
   by_cases hc : (c != 0) = true
   · rw [if_pos hc, if_pos hc]
     exact ⟨_, rfl, rfl, .inr ⟨_, _, rfl, by simpa using hc⟩⟩
   · rw [if_neg hc, if_neg hc]
     exact Zre hd hl n (i + 1) (by omega)
theorem Zrb {d : Zbn} (hd : ∀ a ∈ d.Acts, ActIn a) : ∃ c at_, Zk3 d = some (c, at_) ∧ Zj8 d = some (c, at_) ∧ (c = 0 → 1 ≤ d.Acts.length ∧ d.Acts.length ≤ 12) := by
 unfold Zk3 Zj8
 by_cases h : d.Acts.length < 1 ∨ 12 < d.Acts.length
 · rw [if_pos (by rw [Bool.or_eq_true, beq_iff_eq, decide_eq_true_eq]; omega), if_pos (by rw [Bool.or_eq_true, decide_eq_true_eq, decide_eq_true_eq]; omega)]
   exact ⟨_, _, rfl, rfl, fun h => by cases h⟩
 · rw [if_neg (by rw [Bool.or_eq_true, beq_iff_eq, decide_eq_true_eq]; omega), if_neg (by rw [Bool.or_eq_true, decide_eq_true_eq, decide_eq_true_eq]; omega)]
   obtain ⟨z, e1, e2, hz⟩ := Zre hd (by omega) d.Acts.length 0 (by omega)
   rw [show ((0 : Nat) : Int) = 0 from rfl] at e1 e2
   rw [show (Int.toNat ((d.Acts.length : Int) - (0 : Int)) + 1) = d.Acts.length + 1 by omega, e1, e2]
   rcases hz with rfl | ⟨c, at_, rfl, hc⟩
   · exact ⟨_, _, rfl, rfl, fun _ => by omega⟩
   · exact ⟨_, _, rfl, rfl, fun h => absurd h hc⟩
def Zon (L : List Zg) : Prop := ∀ a ∈ L, RecW a.Rec
theorem Zsf {L : List Zg} {a : Zg} (h : Zon L) (ha : RecW a.Rec) : Zon (L ++ [a]) := fun b hb => by
 rcases List.mem_append.1 hb with hb | hb
 · exact h b hb
 · rw [List.mem_singleton.1 hb]; exact ha
theorem Zsx {ε β : Type} (e : Zx) (out : Zg) (i : Int) (F : Zdf → Option β) (R : Zg → Option β) :
   Zwn (Zke e out i) F ((Zl1 e out i).bind R) = if (e.Must && (out.Code != 0)) = true then F { code := out.Code, at_ := i } else R out := by
 unfold Zke Zl1
 by_cases h : (e.Must && (out.Code != 0)) = true
 · rw [if_pos h, if_pos h, if_pos h]; rfl
 · rw [if_neg h, if_neg h, if_neg h]; rfl
theorem Zrr {d : Zbn} (hd : ∀ a ∈ d.Acts, ActIn a) (hl : d.Acts.length ≤ 12) {s0 : Zk} {t0 : Zl} : ∀ (n i : Nat) {s : Zk} {t : Zl} {m : Nat} {L : List Zg}, i + n = d.Acts.length → FR s t m → m + n < 1000000 → L.length = i → Zon L →
   (∃ R : Zv, R.Code ≠ 0 ∧ R.Answers = [] ∧ Zeo s0 d (n + 1) { Code := 0, At := 0, Answers := L } s (i : Int) = some (.inl (s0, R)) ∧ Zff t0 d (n + 1) default default t L (i : Int) = some (.inl (t0, R))) ∨
   (∃ s' t' L', Zeo s0 d (n + 1) { Code := 0, At := 0, Answers := L } s (i : Int) = some (.inr ({ Code := 0, At := 0, Answers := L' }, s')) ∧ Zff t0 d (n + 1) default default t L (i : Int) = some (.inr (default, default, t', L')) ∧ FR s' t' (m + n) ∧ Zon L' ∧ L'.length = d.Acts.length ∧ t'.Room = t.Room)
 | 0, i, s, t, m, L, h, hf, hm, hL, hA => by
   right
   rw [Zeo, Zff, if_neg (by simp; omega), if_neg (by simp; omega)]
   exact ⟨s, t, L, rfl, rfl, hf, hA, by omega, rfl⟩
 | n + 1, i, s, t, m, L, h, hf, hm, hL, hA => by
   have h1 : i < d.Acts.length := by omega
   obtain ⟨s', t', out, e1, e2, hf', hw, hro⟩ := Zua hf (by omega) (hd _ (List.getElem_mem h1))
   rw [Zeo, Zff, if_pos (by simp; omega), if_pos (by simp; omega), Zcy h1, wr1 (by omega)]
   simp only [Option.bind_some]
   rw [e1, e2]
   simp only [Option.bind_some, Zsx (ε := Unit)]
   have hg : (gd (out.Code != 0) (some d.Acts[i])) = some (if (out.Code != 0) = true then d.Acts[i] else default) := Zn7 _ _
   rw [hg]
   simp only [Option.bind_some]
   have hb : ((out.Code != 0) && (if (out.Code != 0) = true then d.Acts[i] else default).Must) = ((d.Acts[i]).Must && (out.Code != 0)) := by
     cases hz : (out.Code != 0)
     · simp
     · simp
   rw [hb]
   by_cases hc : ((d.Acts[i]).Must && (out.Code != 0)) = true
   · rw [if_pos hc, if_pos hc]
     left
     have hne : out.Code ≠ 0 := by
       have := (Bool.and_eq_true _ _ ▸ hc : _ ∧ _).2
       simpa using this
     exact ⟨_, hne, rfl, rfl, rfl⟩
   · rw [if_neg hc, if_neg hc]
     have hlen : (L.length + [out].length) * 104 ≤ 140737488355328 := by simp; omega
     rw [if_pos hlen, if_pos hlen]
     have := Zrr hd hl (s0 := s0) (t0 := t0) n (i + 1) (L := L ++ [out]) (by omega) hf' (by omega) (by simp; omega) (Zsf hA hw)
     rcases this with ⟨R, h0, h1, h2, h3⟩ | ⟨s2, t2, L2, h1, h2, h3, h4, h5, h6⟩
     · exact .inl ⟨R, h0, h1, h2, h3⟩
     · exact .inr ⟨s2, t2, L2, h1, h2, h3.mono (by omega), h4, h5, h6.trans hro⟩
def Zv2 (R : Zv) : Prop := R.Answers.length ≤ 12 ∧ Zon R.Answers
theorem Zwi {s : Zk} {t : Zl} {n : Nat} (h : FR s t n) (hn : n + 12 < 1000000) {d : Zbn} (hd : ∀ a ∈ d.Acts, ActIn a) :
   ∃ s' t' R, Ziz s d = some (s', R) ∧ Zk7 t d = some (t', R) ∧ FR s' t' (n + 12) ∧ Zv2 R ∧ (R.Code ≠ 0 → s' = s ∧ t' = t ∧ R.Answers = []) ∧ (R.Code = 0 → R.At = 0 ∧ R.Answers.length = d.Acts.length) ∧ t'.Room = t.Room := by
 obtain ⟨c, at_, e1, e2, hc⟩ := Zrb hd
 unfold Ziz Zk7
 rw [e1, e2]
 simp only [Option.bind_some]
 by_cases h0 : (c != 0) = true
 · rw [if_pos h0, if_pos h0]
   exact ⟨s, t, _, rfl, rfl, h.mono (by omega), ⟨by simp, fun a ha => by cases ha⟩, fun _ => ⟨rfl, rfl, rfl⟩, fun hz => absurd hz (by simpa using h0), rfl⟩
 · rw [if_neg h0, if_neg h0]
   have hl := hc (by simpa using h0)
   have := Zrr hd hl.2 (s0 := s) (t0 := t) d.Acts.length 0 (L := []) (by omega) h (by omega) rfl (fun a ha => by cases ha)
   rw [show ((0 : Nat) : Int) = 0 from rfl] at this
   rw [show (Int.toNat ((d.Acts.length : Int) - (0 : Int)) + 1) = d.Acts.length + 1 by omega]
   have hdef : (default : Zv) = { Code := 0, At := 0, Answers := [] } := rfl
   rcases this with ⟨R, h0, h1, h2, h3⟩ | ⟨s2, t2, L2, h1, h2, h3, h4, h5, h6⟩
   · rw [h3]
     rw [hdef, h2]
     exact ⟨s, t, R, rfl, rfl, h.mono (by omega), ⟨by rw [h1]; simp, by rw [h1]; intro a ha; cases ha⟩, fun _ => ⟨rfl, rfl, h1⟩, fun hz => absurd hz h0, rfl⟩
   · rw [h2]
     rw [hdef, h1]
     exact ⟨s2, t2, _, rfl, rfl, h3.mono (by omega), ⟨by show L2.length ≤ 12; omega, h4⟩, fun hz => absurd rfl hz, fun _ => ⟨rfl, h5⟩, h6⟩
def Zs9 (L : List Zv) : Prop := ∀ R ∈ L, Zv2 R
theorem Zwo {l : List Zbn} (hl : l.length ≤ 1000) (hd : ∀ d ∈ l, ∀ a ∈ d.Acts, ActIn a) : ∀ (n i : Nat) {s : Zk} {t : Zl} {m : Nat} {L : List Zv}, i + n = l.length → FR s t m → m + 12 * n < 900000 → L.length = i → Zs9 L →
   ∃ s' t' L', Ze5 l (n + 1) s L (i : Int) = some (s', L') ∧ Zgi l (n + 1) t L (i : Int) = some (t', L') ∧ FR s' t' (m + 12 * n) ∧ Zs9 L' ∧ L'.length = l.length
 | 0, i, s, t, m, L, h, hf, hm, hL, hA => by
   rw [Ze5, Zgi, if_neg (by simp; omega), if_neg (by simp; omega)]
   exact ⟨s, t, L, rfl, rfl, hf, hA, by omega⟩
 | n + 1, i, s, t, m, L, h, hf, hm, hL, hA => by
   have h1 : i < l.length := by omega
   obtain ⟨s', t', R, e1, e2, hf', hR, _⟩ := Zwi hf (by omega) (hd _ (List.getElem_mem h1))
   rw [Ze5, Zgi, if_pos (by simp; omega), if_pos (by simp; omega), Zcy h1, wr1 (by omega)]
   simp only [Option.bind_some]
   rw [e1, e2]
   simp only [Option.bind_some]
   have hlen : (L.length + [R].length) * 40 ≤ 140737488355328 := by simp; omega
   rw [if_pos hlen, if_pos hlen]
   obtain ⟨s2, t2, L2, g1, g2, g3, g4, g5⟩ := Zwo hl hd n (i + 1) (L := L ++ [R]) (by omega) hf' (by omega) (by simp; omega) (fun z hz => by
     rcases List.mem_append.1 hz with hz | hz
     · exact hA z hz
     · rw [List.mem_singleton.1 hz]; exact hR)
   exact ⟨s2, t2, L2, g1, g2, g3.mono (by omega), g4, g5⟩
theorem Z2s {s : Zk} {t : Zl} {n : Nat} (h : FR s t n) (hn : n ≤ 1000) {l : List Zbn} (hl : l.length ≤ 40) (hd : ∀ d ∈ l, ∀ a ∈ d.Acts, ActIn a) :
   ∃ s' t' L, Zkk s l = some (s', L) ∧ Znn t l = some (t', L) ∧ FR s' t' (n + 480) ∧ Zs9 L ∧ L.length = l.length := by
 obtain ⟨s', t', L, e1, e2, e3, e4, e5⟩ := Zwo (by omega) hd l.length 0 (L := []) (by omega) h (by omega) rfl (fun z hz => by cases hz)
 rw [show ((0 : Nat) : Int) = 0 from rfl] at e1 e2
 unfold Zkk Znn
 rw [show (Int.toNat ((l.length : Int) - (0 : Int)) + 1) = l.length + 1 by omega, e1, e2]
 exact ⟨s', t', L, rfl, rfl, e3.mono (by omega), e4, e5⟩
theorem Zt9 {d : Zbn} (hl : d.Acts.length ≤ 40) (hw : ∀ a ∈ d.Acts, Zj2 a) : ∀ (n i : Nat), i + n = d.Acts.length → Zdp d (n + 1) (i : Int) = some (.inl 1) ∨ (Zdp d (n + 1) (i : Int) = some (.inr ()) ∧ ∀ a ∈ d.Acts.drop i, a.Make.List.length ≤ 100)
 | 0, i, h => by
   right
   rw [Zdp, if_neg (by simp; omega), List.drop_of_length_le (by omega)]
   exact ⟨rfl, fun o ho => by cases ho⟩
 | n + 1, i, h => by
   have h1 : i < d.Acts.length := by omega
   obtain ⟨c, e1, e2, e3⟩ := Z72 (hw _ (List.getElem_mem h1))
   rw [Zdp, if_pos (by simp; omega), Zcy h1, wr1 (by omega)]
   simp only [Option.bind_some]
   rw [e1]
   rcases e2 with rfl | rfl
   · simp only [Int.lt_irrefl, decide_false, Bool.false_eq_true, if_false, Option.bind_some]
     rcases Zt9 hl hw n (i + 1) (by omega) with h2 | ⟨h2, h3⟩
     · exact .inl h2
     · right
       refine ⟨h2, fun o ho => ?_⟩
       rw [List.drop_eq_getElem_cons h1] at ho
       rcases List.mem_cons.1 ho with rfl | ho
       · exact e3 rfl
       · exact h3 o ho
   · left; rfl
theorem big8 {d : Zbn} (hw : Zi9 d) : ∃ c, Zhz d = some c ∧ (c = 0 ∨ c = 1) ∧ (c = 0 → d.Acts.length ≤ 40 ∧ ∀ a ∈ d.Acts, ActIn a) := by
 unfold Zhz
 by_cases h : 40 < d.Acts.length
 · rw [if_pos (by simp; omega)]; exact ⟨1, rfl, .inr rfl, fun h => by cases h⟩
 · rw [if_neg (by simp; omega), show (Int.toNat ((d.Acts.length : Int) - (0 : Int)) + 1) = d.Acts.length + 1 by omega]
   have := Zt9 (d := d) (by omega) hw.2 d.Acts.length 0 (by omega)
   rw [show ((0 : Nat) : Int) = 0 from rfl] at this
   rcases this with h1 | ⟨h1, h2⟩
   · rw [h1]; exact ⟨1, rfl, .inr rfl, fun h => by cases h⟩
   · rw [h1]; exact ⟨0, rfl, .inl rfl, fun _ => ⟨by omega, fun a ha => Z11 (hw.2 a ha) (h2 a ha)⟩⟩
theorem Zs8 {l : List Zbn} (hl : l.length ≤ 40) (hw : ∀ d ∈ l, Zi9 d) : ∀ (n i : Nat), i + n = l.length → Zdq l (n + 1) (i : Int) = some (.inl 1) ∨ (Zdq l (n + 1) (i : Int) = some (.inr ()) ∧ ∀ d ∈ l.drop i, d.Acts.length ≤ 40 ∧ ∀ a ∈ d.Acts, ActIn a)
 | 0, i, h => by
   right
   rw [Zdq, if_neg (by simp; omega), List.drop_of_length_le (by omega)]
   exact ⟨rfl, fun o ho => by cases ho⟩
 | n + 1, i, h => by
   have h1 : i < l.length := by omega
   obtain ⟨c, e1, e2, e3⟩ := big8 (hw _ (List.getElem_mem h1))
   rw [Zdq, if_pos (by simp; omega), Zcy h1, wr1 (by omega)]
   simp only [Option.bind_some]
   rw [e1]
   rcases e2 with rfl | rfl
   · simp only [Int.lt_irrefl, decide_false, Bool.false_eq_true, if_false, Option.bind_some]
     rcases Zs8 hl hw n (i + 1) (by omega) with h2 | ⟨h2, h3⟩
     · exact .inl h2
     · right
       refine ⟨h2, fun o ho => ?_⟩
       rw [List.drop_eq_getElem_cons h1] at ho
       rcases List.mem_cons.1 ho with rfl | ho
       · exact e3 rfl
       · exact h3 o ho
   · left; rfl
theorem Z66 {l : List Zbn} (hw : ∀ d ∈ l, Zi9 d) : ∃ c, Zh4 l = some c ∧ (c = 0 ∨ c = 1) ∧ (c = 0 → l.length ≤ 40 ∧ ∀ d ∈ l, d.Acts.length ≤ 40 ∧ ∀ a ∈ d.Acts, ActIn a) := by
 unfold Zh4
 by_cases h : 40 < l.length
 · rw [if_pos (by simp; omega)]; exact ⟨1, rfl, .inr rfl, fun h => by cases h⟩
 · rw [if_neg (by simp; omega), show (Int.toNat ((l.length : Int) - (0 : Int)) + 1) = l.length + 1 by omega]
   have := Zs8 (l := l) (by omega) hw l.length 0 (by omega)
   rw [show ((0 : Nat) : Int) = 0 from rfl] at this
   rcases this with h1 | ⟨h1, h2⟩
   · rw [h1]; exact ⟨1, rfl, .inr rfl, fun h => by cases h⟩
   · rw [h1]; exact ⟨0, rfl, .inl rfl, fun _ => ⟨by omega, h2⟩⟩
theorem Zsd {l : List Z5} (hl : l.length ≤ 60) (hw : ∀ p ∈ l, Zfz p) {z : Zk} {r : Int} : ∀ (n i : Nat) {s : Zk} {t : Zl}, i + n = l.length → FR s t i → t.Room = r →
   (∃ s', Zdb l (n + 1) z s t (i : Int) = some (.inl (s', none))) ∨ (∃ s' t', Zdb l (n + 1) z s t (i : Int) = some (.inr (z, s', t')) ∧ FR s' t' 60 ∧ t'.Room = r)
 | 0, i, s, t, h, hf, hr => by
   right
   rw [Zdb, if_neg (by simp; omega)]
   exact ⟨s, t, rfl, hf.mono (by omega), hr⟩
 | n + 1, i, s, t, h, hf, hr => by
   have h1 : i < l.length := by omega
   have hm := hw _ (List.getElem_mem h1)
   obtain ⟨c, e1, e2, e3⟩ := Z3o (Zya hm.2)
   rw [Zdb, if_pos (by simp; omega), Zcy h1, wr1 (by omega)]
   simp only [Option.bind_some]
   rw [e1]
   by_cases hk : decide ((100 : Int) < ((l[i]).Key.size : Int)) = true
   · rw [hk]; left; exact ⟨s, rfl⟩
   · rw [Bool.eq_false_iff.2 hk]
     simp only [Bool.not_false, gd_t, Option.bind_some, Bool.false_or]
     rcases e2 with rfl | rfl
     · simp only [Int.lt_irrefl, decide_false, Bool.false_eq_true, if_false]
       have hx : RecW (l[i]).Rec := Ztq hm.2 (e3 rfl)
       obtain ⟨s', t', c, f1, f2, f3, f4⟩ := Zrw hf.rel (by omega) (l[i]).Key hx.ok (e3 rfl)
       rw [f1, f2]
       simp only [Option.bind_some]
       have hro : t'.Room = t.Room := by rw [← f3.room, Zhb f1, hf.rel.room]
       refine Zsd hl hw n (i + 1) (by omega) ?_ (by rw [hro, hr])
       rcases f4 with f4 | ⟨f4, f5, f6, f7⟩
       · have := Zn5 hf f4 hro
         exact ⟨f3, this.good, this.fit⟩
       · refine Z01 hf f3 hx ((Zjx hx.ok).1 f5) ?_ f4 hro
         refine Classical.byContradiction fun hno => ?_
         have h1 : (lk (l[i]).Key (pl t)).isNone = true := by
           cases hz : lk (l[i]).Key (pl t) with
           | none => rfl
           | some r => exact absurd (.inl (by rw [hz]; rfl)) hno
         have h2 : t.Room ≤ (t.L.length : Int) := Int.not_lt.1 fun h => hno (.inr h)
         have hk1 : sEq (l[i]).Key ⟨#[]⟩ = false := by
           rw [Zul]; simpa using f6
         obtain ⟨_, hs⟩ := (Zry hf.rel (by omega) f1 f5 (e3 rfl) hk1 (by omega)).2 h1 h2
         subst hs
         have ht := f3.top
         rw [hf.rel.top, f4] at ht
         rcases Zlf (k := (l[i]).Key) (l[i]).Rec hf.rel.srt with ⟨p, _, _, a3, _⟩ | ⟨_, _, a3, _⟩
         · rw [a3] at h1; cases h1
         · have hle := congrArg List.length ht
           rw [a3] at hle
           have hrk := Zsk (l[i]).Key (pl t)
           simp at hle
           omega
     · left; exact ⟨s, rfl⟩
theorem Z2k {r : Int} {l : List Z5} (hw : ∀ p ∈ l, Zfz p) : (∃ s, Zfs r l = some (s, none)) ∨ (∃ s t, Zfs r l = some (s, some t) ∧ FR s t 60 ∧ t.Room = r ∧ 1 ≤ r ∧ r ≤ 4096) := by
 unfold Zfs Zlx
 by_cases hr : r < 1 ∨ 4096 < r
 · rw [if_pos (by simpa using hr)]
   left; exact ⟨_, rfl⟩
 · rw [if_neg (by simpa using hr)]
   simp only [Option.bind_some, bne_self_eq_false, Bool.false_or]
   by_cases hl : 60 < l.length
   · rw [if_pos (by simp; omega)]; left; exact ⟨_, rfl⟩
   · rw [if_neg (by simp; omega), show (Int.toNat ((l.length : Int) - (0 : Int)) + 1) = l.length + 1 by omega]
     have := Zsd (l := l) (by omega) hw (z := default) (r := r) l.length 0 (by omega) ⟨Z4t r, fun q hq => by simp [pl] at hq, by simp; omega⟩ rfl
     rw [show ((0 : Nat) : Int) = 0 from rfl] at this
     rcases this with ⟨s', e⟩ | ⟨s', t', e, e2, e3⟩
     · rw [e]; left; exact ⟨_, rfl⟩
     · rw [e]; right; exact ⟨s', t', rfl, e2, e3, by omega, by omega⟩
theorem Z14 : Zhw = some true := by kernel_rfl
def eqS : List KV → List KV → Bool
 | [], [] => true
 | p :: l, q :: m => sEq p.1 q.1 && Ziu p.2 q.2 && eqS l m
 | _, _ => false
theorem Zxq : ∀ {a b : List KV}, eqS a b = true → a.length = b.length
 | [], [], _ => rfl
 | x :: xs, y :: ys, h => by
   simp only [eqS, Bool.and_eq_true] at h
   simp [Zxq h.2]
 | [], _ :: _, h => by simp [eqS] at h
 | _ :: _, [], h => by simp [eqS] at h
theorem Zvn : ∀ l : List KV, eqS l l = true
 | [] => rfl
 | p :: l => by simp [eqS, Zef, Zy4, Zvn l]
structure SOk (s : Zk) : Prop where
 sz : Szd s.top
 srt : Srt (toL s.top)
 len : (toL s.top).length < 1000000
 ok : ∀ q ∈ toL s.top, Zg4 q.2 ∧ q.2.List.length ≤ 100
theorem SOk.cl {s : Zk} (h : SOk s) : ∀ q ∈ toL s.top, Cl q.2 := fun q hq => by
 have := (h.ok q hq).2
 unfold Cl; omega
theorem Rel.sok {s : Zk} {t : Zl} {n : Nat} (h : Rel s t n) (hn : n < 1000000) : SOk s :=
 ⟨h.sz, by rw [h.top]; exact h.srt, by rw [h.tl]; have := h.len; omega, by rw [h.top]; exact h.ok⟩
theorem Zun {a b : Zk} (ha : SOk a) (hb : SOk b) (he : (toL a.top).length = (toL b.top).length) : ∀ (n i : Nat), i + n = (toL a.top).length →
   Zfx a b ((toL a.top).length : Int) (n + 1) (i : Int) = some (endB (eqS ((toL a.top).drop i) ((toL b.top).drop i)))
 | 0, i, h => by
   rw [Zfx, if_neg (by simp; omega), List.drop_of_length_le (by omega), List.drop_of_length_le (by omega)]
   rfl
 | n + 1, i, h => by
   have la := ha.len
   have h1 : i < (toL a.top).length := by omega
   have h2 : i < (toL b.top).length := by omega
   rw [Zfx, if_pos (by simp; omega), Z21 ha.sz (by omega) (by omega) (by omega) ha.cl, Z21 hb.sz (by omega) (by omega) (by omega) hb.cl, idxn, idxn, List.getElem?_eq_getElem h1, List.getElem?_eq_getElem h2, wr1 (by omega), List.drop_eq_getElem_cons h1, List.drop_eq_getElem_cons h2]
   have r1 := (ha.ok _ (List.getElem_mem h1)).1
   have r2 := (hb.ok _ (List.getElem_mem h2)).1
   simp only [atR, Option.bind_some, eqS]
   cases hk : sEq (toL a.top)[i].1 (toL b.top)[i].1
   · simp [gd, endB]
   · simp only [Bool.not_true, Bool.not_false, gd_t]
     rw [Zrh r1 r2]
     simp only [Option.bind_some, Bool.false_or, Bool.true_and]
     cases hs : Ziu (toL a.top)[i].2 (toL b.top)[i].2
     · simp [endB]
     · simp only [Bool.not_true, Bool.false_eq_true, if_false, Bool.true_and]
       exact Zun ha hb he n (i + 1) (by omega)
theorem Z2y {a b : Zk} (ha : SOk a) (hb : SOk b) : Zhu a b = some (eqS (toL a.top) (toL b.top)) := by
 have la := ha.len
 have lb := hb.len
 unfold Zhu Zdn
 rw [Zgw ha.sz, Zgw hb.sz]
 simp only [Option.bind_some]
 by_cases he : (toL a.top).length = (toL b.top).length
 · rw [if_neg (by simp; omega)]
   have := Zun ha hb he (toL a.top).length 0 (by omega)
   rw [show ((0 : Nat) : Int) = 0 from rfl] at this
   rw [show (Int.toNat (((toL a.top).length : Int) - (0 : Int)) + 1) = (toL a.top).length + 1 by omega, this]
   simp only [List.drop_zero]
   cases eqS (toL a.top) (toL b.top) <;> rfl
 · rw [if_pos (by simp; omega)]
   cases h : eqS (toL a.top) (toL b.top)
   · rfl
   · exact absurd (Zxq h) he
theorem Zq7 {L : List Zg} (hl : L.length ≤ 12) (hA : Zon L) : ∀ (n i : Nat), i + n = L.length → Zba L L (fun y0 y1 => Zjr y0 y1) (n + 1) (i : Int) = some (.inr ())
 | 0, i, h => by rw [Zba, if_neg (by simp; omega)]
 | n + 1, i, h => by
   have h1 : i < L.length := by omega
   have hw := hA _ (List.getElem_mem h1)
   rw [Zba, if_pos (by simp; omega), Zcy h1, wr1 (by omega)]
   simp only [Option.bind_some]
   rw [Z8x hw hw]
   simp only [beq_self_eq_true, Z52, Bool.and_self, Option.bind_some, Bool.not_true, Bool.false_eq_true, if_false]
   exact Zq7 hl hA n (i + 1) (by omega)
theorem Z0q {R : Zv} (hR : Zv2 R) : Ziv R R = some true := by
 unfold Ziv Zb9
 have := Zq7 hR.1 hR.2 R.Answers.length 0 (by omega)
 rw [show ((0 : Nat) : Int) = 0 from rfl] at this
 simp only [beq_self_eq_true, Bool.and_self, gd_t, bne_self_eq_false, Bool.false_eq_true, if_false]
 rw [show (Int.toNat ((R.Answers.length : Int) - (0 : Int)) + 1) = R.Answers.length + 1 by omega, this]
 rfl
theorem Zza {s : Zk} {t : Zl} {n : Nat} (h : FR s t n) (hn : n < 1000000) : Zhu s s = some true := by
 rw [Z2y (h.rel.sok hn) (h.rel.sok hn), Zvn]
theorem Zr4 {d : Zbn} (hd : ∀ a ∈ d.Acts, ActIn a) (hl : d.Acts.length ≤ 12) {s0 : Zk} : ∀ (n i : Nat) {s : Zk} {t : Zl} {m : Nat} {L L' : List Zg} {s' : Zk}, i + n = d.Acts.length → FR s t m → m + n < 1000000 → L.length = i → Zon L →
   Zeo s0 d (n + 1) { Code := 0, At := 0, Answers := L } s (i : Int) = some (.inr ({ Code := 0, At := 0, Answers := L' }, s')) →
   (∃ M, L' = L ++ M) ∧ L'.length = d.Acts.length ∧ Zcp d (s', { Code := 0, At := 0, Answers := L' }) (n + 1) s (i : Int) = some (.inr s')
 | 0, i, s, t, m, L, L', s', h, hf, hm, hL, hA, e => by
   rw [Zeo, if_neg (by simp; omega)] at e
   rw [Zcp, if_neg (by simp; omega)]
   simp only [Option.some.injEq, Sum.inr.injEq, Prod.mk.injEq, Zv.mk.injEq, true_and] at e
   obtain ⟨rfl, rfl⟩ := e
   exact ⟨⟨[], by simp⟩, by omega, rfl⟩
 | n + 1, i, s, t, m, L, L', s', h, hf, hm, hL, hA, e => by
   have h1 : i < d.Acts.length := by omega
   obtain ⟨s1, t1, out, e1, e2, hf', hw, hro⟩ := Zua hf (by omega) (hd _ (List.getElem_mem h1))
   rw [Zeo, if_pos (by simp; omega), Zcy h1, wr1 (by omega)] at e
   simp only [Option.bind_some] at e
   rw [e1] at e
   simp only [Option.bind_some, Zsx (ε := Unit)] at e
   by_cases hc : ((d.Acts[i]).Must && (out.Code != 0)) = true
   · rw [if_pos hc] at e
     cases e
   · rw [if_neg hc] at e
     have hlen : (L.length + [out].length) * 104 ≤ 140737488355328 := by simp; omega
     rw [if_pos hlen] at e
     obtain ⟨⟨M, hM⟩, g2, g3⟩ := Zr4 hd hl n (i + 1) (L := L ++ [out]) (by omega) hf' (by omega) (by simp; omega) (Zsf hA hw) e
     refine ⟨⟨out :: M, by rw [hM]; simp⟩, g2, ?_⟩
     rw [Zcp, if_pos (by simp; omega), Zcy h1, wr1 (by omega)]
     simp only [Option.bind_some]
     rw [e1]
     simp only [Option.bind_some]
     rw [Zkm (by omega) (by omega)]
     have hcut : List.take (i + 1 - i) (List.drop i L') = [out] := by
       rw [hM, List.append_assoc, List.drop_append_of_le_length (by omega), List.drop_of_length_le (by omega)]
       simp
     rw [hcut]
     simp only [Option.bind_some]
     rw [Z0q (R := { Code := 0, At := 0, Answers := [out] }) ⟨by simp, fun a ha => by rw [List.mem_singleton.1 ha]; exact hw⟩]
     simp only [Option.bind_some, Bool.not_true, Bool.false_or]
     rw [if_neg hc]
     exact g3
theorem Zz9 {s s1 : Zk} {t : Zl} {n : Nat} (h : FR s t n) (hn : n + 12 < 1000000) {d : Zbn} (hd : ∀ a ∈ d.Acts, ActIn a) {R : Zv} (e : Ziz s d = some (s1, R)) (h0 : R.Code = 0) : Zcp d (s1, R) (d.Acts.length + 1) s 0 = some (.inr s1) := by
 obtain ⟨c, at_, e1, e2, hc⟩ := Zrb hd
 unfold Ziz at e
 rw [e1] at e
 simp only [Option.bind_some] at e
 by_cases hz : (c != 0) = true
 · rw [if_pos hz] at e
   cases e
   exact absurd h0 (by simpa using hz)
 · rw [if_neg hz] at e
   have hl := hc (by simpa using hz)
   have := Zrr hd hl.2 (s0 := s) (t0 := t) d.Acts.length 0 (L := []) (by omega) h (by omega) rfl (fun a ha => by cases ha)
   rw [show ((0 : Nat) : Int) = 0 from rfl] at this
   rw [show (Int.toNat ((d.Acts.length : Int) - (0 : Int)) + 1) = d.Acts.length + 1 by omega] at e
   have hdef : (default : Zv) = { Code := 0, At := 0, Answers := [] } := rfl
   rw [hdef] at e
   rcases this with ⟨R', k0, k1, k2, k3⟩ | ⟨s2, t2, L2, k1, k2, k3, k4, k5, k6⟩
   · rw [k2] at e
     cases e
     exact absurd h0 k0
   · have hw := Zr4 hd hl.2 (s0 := s) d.Acts.length 0 (L := []) (by omega) h (by omega) rfl (fun a ha => by cases ha) (by rw [show ((0 : Nat) : Int) = 0 from rfl]; exact k1)
     rw [k1] at e
     cases e
     exact hw.2.2
theorem Zui {l : List Zbn} (hl : l.length ≤ 40) (hd : ∀ d ∈ l, ∀ a ∈ d.Acts, ActIn a) {send : Zk} {all : List Zv} : ∀ (n i : Nat) {s : Zk} {t : Zl} {m : Nat} {L : List Zv}, i + n = l.length → FR s t m → m + 12 * n < 900000 → L.length = i → Zs9 L →
   Ze5 l (n + 1) s L (i : Int) = some (send, all) → (∃ M, all = L ++ M) ∧ all.length = l.length ∧ (∃ t', FR send t' 900000) ∧ Zcf l (send, all) (n + 1) s (i : Int) = some (.inr send)
 | 0, i, s, t, m, L, h, hf, hm, hL, hA, e => by
   rw [Ze5, if_neg (by simp; omega)] at e
   rw [Zcf, if_neg (by simp; omega)]
   cases e
   exact ⟨⟨[], by simp⟩, by omega, ⟨t, hf.mono (by omega)⟩, rfl⟩
 | n + 1, i, s, t, m, L, h, hf, hm, hL, hA, e => by
   have h1 : i < l.length := by omega
   obtain ⟨s1, t1, R, e1, e2, hf', hR, hn0, h00, _⟩ := Zwi hf (by omega) (hd _ (List.getElem_mem h1))
   rw [Ze5, if_pos (by simp; omega), Zcy h1, wr1 (by omega)] at e
   simp only [Option.bind_some] at e
   rw [e1] at e
   simp only [Option.bind_some] at e
   have hlen : (L.length + [R].length) * 40 ≤ 140737488355328 := by simp; omega
   rw [if_pos hlen] at e
   obtain ⟨⟨M, hM⟩, g2, g3, g4⟩ := Zui hl hd n (i + 1) (L := L ++ [R]) (by omega) hf' (by omega) (by simp; omega) (fun z hz => by
     rcases List.mem_append.1 hz with hz | hz
     · exact hA z hz
     · rw [List.mem_singleton.1 hz]; exact hR) e
   refine ⟨⟨R :: M, by rw [hM]; simp⟩, g2, g3, ?_⟩
   rw [Zcf, if_pos (by simp; omega), Zcy h1]
   simp only [Option.bind_some]
   rw [e1]
   have hi : idx all (i : Int) = some R := by
     rw [idxn, hM, List.append_assoc, List.getElem?_append_right (by omega), hL]
     simp
   simp only [Option.bind_some]
   rw [hi]
   simp only [Option.bind_some]
   rw [Z0q hR]
   simp only [Option.bind_some, Bool.not_true, Bool.false_eq_true, if_false, Zel]
   rw [wr1 (by omega)]
   by_cases hc : R.Code = 0
   · rw [if_neg (by simp [hc])]
     obtain ⟨ha, hb⟩ := h00 hc
     have hcond : ¬ (((R.Answers.length : Int) != ((l[i]).Acts.length : Int)) || (R.At != (0 : Int))) = true := by simp [ha, hb]
     rw [if_neg hcond, show (Int.toNat (((l[i]).Acts.length : Int) - (0 : Int)) + 1) = (l[i]).Acts.length + 1 by omega, Zz9 hf (by omega) (hd _ (List.getElem_mem h1)) e1 hc]
     simp only [Option.bind_some]
     rw [Zza hf' (by omega)]
     simp only [Option.bind_some, Bool.not_true, Bool.false_eq_true, if_false]
     exact g4
   · rw [if_pos (by simpa using hc)]
     obtain ⟨rfl, rfl, hans⟩ := hn0 hc
     rw [Zza hf' (by omega)]
     have hcond : ¬ ((!true) || ((R.Answers.length : Int) != (0 : Int))) = true := by simp [hans]
     simp only [Option.bind_some]
     rw [if_neg hcond]
     exact g4
theorem FoldWhole_true (a0 : Int) (a1 : List Z5) (a2 : List Zbn) (w0 : (IntKind.i64).min ≤ a0 ∧ a0 ≤ (IntKind.i64).max) (w1 : a1.length ≤ maxLen ∧ ∀ e0 ∈ a1, Zfz e0) (w2 : a2.length ≤ maxLen ∧ ∀ e0 ∈ a2, Zi9 e0) : Zgm a0 a1 a2 = some true := by
 unfold Zgm
 rw [Z14]
 simp only [Option.bind_some, Bool.not_true, Bool.false_eq_true, if_false]
 rcases Z2k (r := a0) w1.2 with ⟨s, e⟩ | ⟨s, t, e, hf, hr, _⟩
 · rw [e]; rfl
 · rw [e]
   obtain ⟨c, e1, e2, e3⟩ := Z66 w2.2
   simp only [Option.bind_some, Option.isNone_some, Bool.not_false, gd_t, Bool.false_or]
   rw [e1]
   rcases e2 with rfl | rfl
   · simp only [Option.bind_some, Int.lt_irrefl, decide_false, Bool.false_eq_true, if_false]
     obtain ⟨hl, hd⟩ := e3 rfl
     obtain ⟨s', t', L, f1, _, _, _, f5⟩ := Z2s hf (by omega) hl (fun d hm => (hd d hm).2)
     have f1' := f1
     unfold Zkk at f1'
     rw [show (Int.toNat ((a2.length : Int) - (0 : Int)) + 1) = a2.length + 1 by omega] at f1'
     obtain ⟨z, hz, hz2⟩ := Option.bind_eq_some_iff.1 f1'
     have hzz : z = (s', L) := by
       obtain ⟨za, zb⟩ := z
       simpa using hz2
     rw [hzz] at hz
     have := Zui hl (fun d hm => (hd d hm).2) a2.length 0 (L := []) (by omega) hf (by omega) rfl (fun z hz => by cases hz) (by rw [show ((0 : Nat) : Int) = 0 from rfl]; exact hz)
     rw [show ((0 : Nat) : Int) = 0 from rfl] at this
     obtain ⟨_, g2, ⟨t2, g3⟩, g4⟩ := this
     rw [f1]
     simp only [Option.bind_some]
     rw [if_neg (by simp [g2]), show (Int.toNat ((a2.length : Int) - (0 : Int)) + 1) = a2.length + 1 by omega, g4]
     simp only [Option.bind_some]
     rw [Zza g3 (by omega)]
     rfl
   · rfl
end Go.CL
namespace Go.CL
open Go Go.RowKit Go.Proofs Go.ChangeShapes Go.WideShapes Go.ChangeAt
theorem Z2q : ownKnob Tryd.prog.godebug = none := by kernel_rfl
theorem Zp7 : laidOutB Tryd.prog = true := by kernel_rfl
theorem op_3 : Opn Tryd.prog 3 (Kd.int .i64) (fun x => ((IntKind.i64).min ≤ x ∧ x ≤ (IntKind.i64).max)) := Zxz Tryd.underlying3 (by kernel_rfl)
theorem op_9 : Opn Tryd.prog 9 Kd.str (fun x => (x.size ≤ maxLen)) := Z4r Tryd.underlying9 (by kernel_rfl)
theorem op_2 : Opn Tryd.prog 2 (Kd.int .i64) (fun x => ((IntKind.i64).min ≤ x ∧ x ≤ (IntKind.i64).max)) := Zxz Tryd.underlying2 (by kernel_rfl)
theorem Zyw : Opn Tryd.prog 42 Kd.flt (fun x => (x < 2 ^ 64)) := Z5i Tryd.underlying42 (by kernel_rfl)
theorem Z7d : Opn Tryd.prog 97 Zy Znp := ⟨by kernel_rfl, fun hg h => by
 obtain ⟨hl, n, hf⟩ := Zk5 Tryd.underlying97 h
 obtain ⟨y0, h0⟩ := hf 0 _ rfl
 obtain ⟨v0, k0, w0⟩ := Zyw.op hg h0
 obtain ⟨y1, h1⟩ := hf 1 _ rfl
 obtain ⟨v1, k1, w1⟩ := op_9.op hg h1
 refine ⟨⟨v0, v1⟩, ⟨hl.trans (by kernel_rfl), (List.forall_mem_cons.2 ⟨k0, (List.forall_mem_cons.2 ⟨k1, (fun _ h => by cases h)⟩)⟩)⟩, w0, w1⟩, fun h => Zly Tryd.underlying97 h⟩
theorem Z67 : Opn Tryd.prog 43 Zy.sl (fun x => (x.length ≤ maxLen ∧ ∀ e0 ∈ x, (Znp e0))) := Zse Tryd.underlying43 (by kernel_rfl) Z7d (by decide)
theorem Z3u : Opn Tryd.prog 45 Zi Zi4 := ⟨by kernel_rfl, fun hg h => by
 obtain ⟨hl, n, hf⟩ := Zk5 Tryd.underlying45 h
 obtain ⟨y0, h0⟩ := hf 0 _ rfl
 obtain ⟨v0, k0, w0⟩ := op_3.op hg h0
 obtain ⟨y1, h1⟩ := hf 1 _ rfl
 obtain ⟨v1, k1, w1⟩ := op_2.op hg h1
 obtain ⟨y2, h2⟩ := hf 2 _ rfl
 obtain ⟨v2, k2, w2⟩ := op_2.op hg h2
 obtain ⟨y3, h3⟩ := hf 3 _ rfl
 obtain ⟨v3, k3, w3⟩ := op_2.op hg h3
 obtain ⟨y4, h4⟩ := hf 4 _ rfl
 obtain ⟨v4, k4, w4⟩ := Zyw.op hg h4
 obtain ⟨y5, h5⟩ := hf 5 _ rfl
 obtain ⟨v5, k5, w5⟩ := op_3.op hg h5
 obtain ⟨y6, h6⟩ := hf 6 _ rfl
 obtain ⟨v6, k6, w6⟩ := op_9.op hg h6
 obtain ⟨y7, h7⟩ := hf 7 _ rfl
 obtain ⟨v7, k7, w7⟩ := Z67.op hg h7
 refine ⟨⟨v0, v1, v2, v3, v4, v5, v6, v7⟩, ⟨hl.trans (by kernel_rfl), (List.forall_mem_cons.2 ⟨k0, (List.forall_mem_cons.2 ⟨k1, (List.forall_mem_cons.2 ⟨k2, (List.forall_mem_cons.2 ⟨k3, (List.forall_mem_cons.2 ⟨k4, (List.forall_mem_cons.2 ⟨k5, (List.forall_mem_cons.2 ⟨k6, (List.forall_mem_cons.2 ⟨k7, (fun _ h => by cases h)⟩)⟩)⟩)⟩)⟩)⟩)⟩)⟩)⟩, w0, w1, w2, w3, w4, w5, w6, w7⟩, fun h => Zly Tryd.underlying45 h⟩
theorem Z8n : Opn Tryd.prog 66 Zbx Zfz := ⟨by kernel_rfl, fun hg h => by
 obtain ⟨hl, n, hf⟩ := Zk5 Tryd.underlying66 h
 obtain ⟨y0, h0⟩ := hf 0 _ rfl
 obtain ⟨v0, k0, w0⟩ := op_9.op hg h0
 obtain ⟨y1, h1⟩ := hf 1 _ rfl
 obtain ⟨v1, k1, w1⟩ := Z3u.op hg h1
 refine ⟨⟨v0, v1⟩, ⟨hl.trans (by kernel_rfl), (List.forall_mem_cons.2 ⟨k0, (List.forall_mem_cons.2 ⟨k1, (fun _ h => by cases h)⟩)⟩)⟩, w0, w1⟩, fun h => Zly Tryd.underlying66 h⟩
theorem Z65 : Opn Tryd.prog 22 Zbx.sl (fun x => (x.length ≤ maxLen ∧ ∀ e0 ∈ x, (Zfz e0))) := Zse Tryd.underlying22 (by kernel_rfl) Z8n (by decide)
theorem op_4 : Opn Tryd.prog 4 Kd.bool (fun x => True) := Z19 Tryd.underlying4 (by kernel_rfl)
theorem Z8e : Opn Tryd.prog 56 Z7 Zj2 := ⟨by kernel_rfl, fun hg h => by
 obtain ⟨hl, n, hf⟩ := Zk5 Tryd.underlying56 h
 obtain ⟨y0, h0⟩ := hf 0 _ rfl
 obtain ⟨v0, k0, w0⟩ := op_3.op hg h0
 obtain ⟨y1, h1⟩ := hf 1 _ rfl
 obtain ⟨v1, k1, w1⟩ := op_9.op hg h1
 obtain ⟨y2, h2⟩ := hf 2 _ rfl
 obtain ⟨v2, k2, w2⟩ := op_2.op hg h2
 obtain ⟨y3, h3⟩ := hf 3 _ rfl
 obtain ⟨v3, k3, w3⟩ := Zyw.op hg h3
 obtain ⟨y4, h4⟩ := hf 4 _ rfl
 obtain ⟨v4, k4, w4⟩ := op_9.op hg h4
 obtain ⟨y5, h5⟩ := hf 5 _ rfl
 obtain ⟨v5, k5, w5⟩ := Z3u.op hg h5
 obtain ⟨y6, h6⟩ := hf 6 _ rfl
 obtain ⟨v6, k6, w6⟩ := op_4.op hg h6
 refine ⟨⟨v0, v1, v2, v3, v4, v5, v6⟩, ⟨hl.trans (by kernel_rfl), (List.forall_mem_cons.2 ⟨k0, (List.forall_mem_cons.2 ⟨k1, (List.forall_mem_cons.2 ⟨k2, (List.forall_mem_cons.2 ⟨k3, (List.forall_mem_cons.2 ⟨k4, (List.forall_mem_cons.2 ⟨k5, (List.forall_mem_cons.2 ⟨k6, (fun _ h => by cases h)⟩)⟩)⟩)⟩)⟩)⟩)⟩)⟩, w0, w1, w2, w3, w4, w5, w6⟩, fun h => Zly Tryd.underlying56 h⟩
theorem Z79 : Opn Tryd.prog 32 Z7.sl (fun x => (x.length ≤ maxLen ∧ ∀ e0 ∈ x, (Zj2 e0))) := Zse Tryd.underlying32 (by kernel_rfl) Z8e (by decide)
theorem Z8d : Opn Tryd.prog 34 Zck Zi9 := ⟨by kernel_rfl, fun hg h => by
 obtain ⟨hl, n, hf⟩ := Zk5 Tryd.underlying34 h
 obtain ⟨y0, h0⟩ := hf 0 _ rfl
 obtain ⟨v0, k0, w0⟩ := Z79.op hg h0
 refine ⟨⟨v0⟩, ⟨hl.trans (by kernel_rfl), (List.forall_mem_cons.2 ⟨k0, (fun _ h => by cases h)⟩)⟩, w0⟩, fun h => Zly Tryd.underlying34 h⟩
theorem Z8c : Opn Tryd.prog 23 Zck.sl (fun x => (x.length ≤ maxLen ∧ ∀ e0 ∈ x, (Zi9 e0))) := Zse Tryd.underlying23 (by kernel_rfl) Z8d (by decide)
theorem Z3e : Det Tryd.prog 9 := Z4z Tryd.underlying9
theorem Z77 : Det Tryd.prog 3 := Z37 Tryd.underlying3
theorem Z47 : Det Tryd.prog 123 := Zy0 Tryd.underlying123 (fun i f h => match i, f, h with
 | 0, _, h => by obtain rfl := Option.some.inj h; exact Z3e
 | 1, _, h => by obtain rfl := Option.some.inj h; exact Z77
 | 2, _, h => by obtain rfl := Option.some.inj h; exact Z3e
 | _ + 3, _, h => by cases h) (by kernel_rfl)
theorem Z5o : Det Tryd.prog 136 := Z39 Tryd.underlying136 Z47 (by kernel_rfl)
theorem FoldWhole_met (os : Os) (args : Array Value) : laidMetH Tryd.prog [("moiety/act.kinds", Go.Proofs.YtiggdpakpaickaaDoor.Rows.laid_moiety_act_kinds)] ((World.doorLaid Tryd.prog 400 os).forCall (fun _ _ => 0) ⟨#[], args, []⟩).memory :=
 laidMetH_of_parts3 (fuel := 8) (laidMet_of_run' 8 (by kernel_rfl) (by kernel_rfl)) (by kernel_rfl) (by kernel_rfl)
theorem FoldWhole_gl {W : World} (h : laidMetH Tryd.prog [("moiety/act.kinds", Go.Proofs.YtiggdpakpaickaaDoor.Rows.laid_moiety_act_kinds)] W) : GLok W (fun b _ => b < W.heap.size) := by
 have g0 := Z12 (P := Tryd.prog) (nm := "moiety/act.kinds") (d := Go.Proofs.YtiggdpakpaickaaDoor.Rows.laid_moiety_act_kinds) (g := 1) (t := 136) (W := W) (w0 := W) (cells := [.string ⟨#[]⟩, .int .i64 (0), .string ⟨#[]⟩, .string ⟨#[110, 101, 119]⟩, .int .i64 (0), .string ⟨#[109]⟩, .string ⟨#[100, 114, 111, 112]⟩, .int .i64 (0), .string ⟨#[]⟩, .string ⟨#[105, 115]⟩, .int .i64 (0), .string ⟨#[]⟩, .string ⟨#[108, 111, 111, 107]⟩, .int .i64 (0), .string ⟨#[]⟩, .string ⟨#[112, 117, 116]⟩, .int .i64 (1), .string ⟨#[115]⟩, .string ⟨#[115, 119, 97, 112]⟩, .int .i64 (1), .string ⟨#[115]⟩, .string ⟨#[97, 100, 100]⟩, .int .i64 (2), .string ⟨#[110]⟩, .string ⟨#[112, 108, 117, 115]⟩, .int .i64 (3), .string ⟨#[110]⟩, .string ⟨#[114, 101, 97, 99, 104]⟩, .int .i64 (3), .string ⟨#[110]⟩, .string ⟨#[105, 110]⟩, .int .i64 (4), .string ⟨#[110]⟩, .string ⟨#[111, 117, 116]⟩, .int .i64 (4), .string ⟨#[110]⟩, .string ⟨#[101, 110, 111, 117, 103, 104]⟩, .int .i64 (4), .string ⟨#[110]⟩, .string ⟨#[114, 97, 105, 115, 101]⟩, .int .i64 (5), .string ⟨#[120]⟩, .string ⟨#[108, 111, 119, 101, 114]⟩, .int .i64 (6), .string ⟨#[120]⟩, .string ⟨#[115, 104, 105, 102, 116]⟩, .int .i64 (7), .string ⟨#[120]⟩, .string ⟨#[115, 99, 97, 108, 101]⟩, .int .i64 (7), .string ⟨#[120]⟩, .string ⟨#[102, 105, 120]⟩, .int .i64 (7), .string ⟨#[120]⟩, .string ⟨#[106, 111, 105, 110]⟩, .int .i64 (8), .string ⟨#[115]⟩, .string ⟨#[108, 101, 97, 118, 101]⟩, .int .i64 (8), .string ⟨#[115]⟩, .string ⟨#[104, 97, 115]⟩, .int .i64 (8), .string ⟨#[115]⟩, .string ⟨#[111, 102, 102, 101, 114]⟩, .int .i64 (9), .string ⟨#[120, 115]⟩]) (fu := 8) (by kernel_rfl) (by kernel_rfl) Z5o (by kernel_rfl) (by kernel_rfl) h
 intro e he i v hv
 rcases List.mem_cons.1 he with rfl | he
 · exact ⟨(Zph (g0 i v hv)).2, g0 i v hv⟩
 cases he
theorem FoldWhole_ret (os : Os) (started : os.Started) (H : Type) (enc : TypeId × Value → H) :
   ReturnsInHanded {} Tryd.checked os 4 .any (fun w args => (Go.Proofs.YtiggdpakpaickaaDoor.Rows.foldWholeSpec.pre enc Tryd.prog Tryd.f4 [] false w args ∧ laidMetH Tryd.prog [("moiety/act.kinds", Go.Proofs.YtiggdpakpaickaaDoor.Rows.laid_moiety_act_kinds)] w) ∧ sizedMet enc Tryd.prog Tryd.f4 (OpenSpec.ofChange Go.Proofs.YtiggdpakpaickaaDoor.Rows.foldWholeSpec) false w args) (Go.Proofs.YtiggdpakpaickaaDoor.Rows.foldWholeSpec.post enc Tryd.prog Tryd.f4 false true false false) := by
 refine returnsInHanded_of_change_and (C := Tryd.checked) (X := fun w _ => laidMetH Tryd.prog [("moiety/act.kinds", Go.Proofs.YtiggdpakpaickaaDoor.Rows.laid_moiety_act_kinds)] w) (fun _ _ _ hh h => h.of_heap hh) Z2q started (by kernel_rfl) Tryd.func4
   (ChangeSpec.witness_shaped (enc := enc) (C := Tryd.checked) (os := os) (X := fun w _ => laidMetH Tryd.prog [("moiety/act.kinds", Go.Proofs.YtiggdpakpaickaaDoor.Rows.laid_moiety_act_kinds)] w) false (World.doorLaid Tryd.prog 400 os) #[.int .i64 0, .slice none 0 0, .slice none 0 0] 8 rfl (World.shaped_of_RefB (by kernel_rfl) (by kernel_rfl)) (by kernel_rfl) (by kernel_rfl) (by kernel_rfl) (FoldWhole_met os _)) ?_
 intro W base args ds gs before hval0 hW hcnd _ hL _
 have hval : ∀ (j : Nat) t v, Tryd.f4.params[j]? = some t → args[j]? = some v → Value.okWide Tryd.prog W .any base t v := hval0
 have hW' := hW
 obtain ⟨p, q, hA0, hV, rfl, hfz, hnd⟩ := hW
 have hA : DataW.TrodAll enc Tryd.prog W 0 (fun _ => true) true Tryd.f4.params.toList args.toList ds p := hA0
 rw [Tryd.params4] at hA hval
 obtain ⟨v0, v1, v2, d0, d1, d2, p0, p1, p2, rfl, rfl, rfl, h0, h1, h2⟩ := trodAll_three hA
 obtain ⟨rfl, rfl⟩ := trodVars_none hV
 simp only [List.append_nil] at hW'
 have hg : GLok W (fun b _ => b < W.heap.size) := (FoldWhole_gl hL)
 have hk0 := h0
 obtain ⟨a0, q0, w0⟩ := Zwy op_3 hg h0 (hval 0 3 v0 rfl rfl)
 have hk1 := h1
 obtain ⟨a1, q1, w1⟩ := Zwy Z65 hg h1 (hval 1 22 v1 rfl rfl)
 have hk2 := h2
 obtain ⟨a2, q2, w2⟩ := Zwy Z8c hg h2 (hval 2 23 v2 rfl rfl)
 refine (Zm7 a0 a1 a2 (FoldWhole_true a0 a1 a2 w0 w1 w2) (GW W hg) [v0, v1, v2] (Zlv q0 (Zlv q1 (Zlv q2 Zdw)))).mono fun e W' ⟨g', v, he, hw, hs, hq⟩ => ?_
 subst he; subst hw
 rw [Zh0.1 hq]
 have hbel := Z2a hs
 have hlt : ∀ x ∈ (p0 ++ p1 ++ p2), x.block < W.heap.size := fun x hx => by simpa using hW'.lt x hx
 exact ⟨_, rfl, Zu0 (pv := []) hW' hbel (trodAll_mk1 (shut_bool Tryd.underlying4 true)) (trodAll_mk3 (Below.trod Zp7 (by kernel_rfl) (of_decide_eq_true (by kernel_rfl)) hk0 hbel (fun x hx => hlt x (by simp [hx]))) (Below.trod Zp7 (by kernel_rfl) (of_decide_eq_true (by kernel_rfl)) hk1 hbel (fun x hx => hlt x (by simp [hx]))) (Below.trod Zp7 (by kernel_rfl) (of_decide_eq_true (by kernel_rfl)) hk2 hbel (fun x hx => hlt x (by simp [hx])))) rfl⟩
theorem FoldWhole_holds : Go.Proofs.YtiggdpakpaickaaDoor.Rows.FoldWholeSaid :=
 OpenClaim.holds_of_wide 4 Tryd.f4 rfl rfl rfl rfl rfl rfl rfl ⟨rfl, rfl, rfl, rfl, rfl⟩ rfl rfl rfl rfl rfl (by kernel_rfl) Tryd.func4 (by kernel_rfl)
   (of_decide_eq_true (by kernel_rfl)) (by unfold Func.isWrapper; first | (rw [if_pos (by decide +kernel)]; kernel_rfl) | (rw [if_neg (by decide +kernel)]; exact ⟨rfl, rfl⟩))
   (fun os started H enc _ => FoldWhole_ret os started H enc)
theorem FoldWhole_card : Go.Proofs.YtiggdpakpaickaaDoor.Rows.FoldWholeCardSaid :=
 Claim7.holds_tied_plain_at .later [] [.data] true (true, "97b570d910256998f528dfd312a420b2b6abbc7e287e37cd6fdca6aebb410fdf") true
   FoldWhole_holds (fun _ h => by cases h) (by kernel_rfl) (fun _ h => by cases h) Go.Proofs.YtiggdpakpaickaaDoor.foldWhole_row_tie rfl ⟨rfl, rfl⟩ (by kernel_rfl) rfl
   (fun f fn hf hfn => by
     obtain rfl : f = 4 := Option.some.inj ((show Tryd.prog.funcNamed "moiety/moietylaw10.FoldWhole" = some 4 by kernel_rfl).symm.trans hf) |>.symm
     obtain rfl : fn = Tryd.f4 := (Option.some.inj (Tryd.func4.symm.trans hfn)).symm
     exact ⟨by kernel_rfl, fun j t ht => by
       rw [Tryd.params4] at ht
       have hm : t ∈ [3, 22, 23] := by simpa using Array.mem_of_getElem? ht
       have hall : (([3, 22, 23] : List TypeId).all fun u => !Tryd.prog.wantsStandIn u) = true := by kernel_rfl
       exact (show Tryd.prog.wantsStandIn t = false by simpa using List.all_eq_true.1 hall t hm)⟩)
   (by kernel_rfl)
end Go.CL
