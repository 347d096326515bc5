/- A part of the proof of ShelfStays. -/
import Derived.Test.YtlphnpmegolfmaaShelfStaysC5
import Derived.Test.YtlphnpmegolfmaaRows
/- set, cut, first, Get, At, Rank of a tree: what they do to its list. -/
set_option linter.unusedVariables false
set_option linter.unusedSimpArgs false
namespace Go.CL
open Go

def insL (k : ByteArray) (x : api_Record) : List KV → List KV
  | [] => [(k, x)]
  | p :: l => if sLt k p.1 then (k, x) :: p :: l else if sEq k p.1 then (k, x) :: l else p :: insL k x l
def delL (k : ByteArray) : List KV → List KV
  | [] => []
  | p :: l => if sEq k p.1 then l else p :: delL k l
theorem insL_len (k : ByteArray) (x : api_Record) : ∀ l : List KV, (insL k x l).length ≤ l.length + 1
  | [] => by simp [insL]
  | p :: l => by
    have := insL_len k x l
    simp only [insL]
    split
    · simp
    · split <;> simp <;> omega
theorem delL_len (k : ByteArray) : ∀ l : List KV, (delL k l).length ≤ l.length
  | [] => by simp [delL]
  | p :: l => by
    have := delL_len k l
    simp only [delL]
    split <;> simp <;> omega
theorem insL_lt {k : ByteArray} {x : api_Record} {p : KV} {B : List KV} (h : sLt k p.1 = true) : ∀ A : List KV, insL k x (A ++ p :: B) = insL k x A ++ p :: B
  | [] => by simp [insL, h]
  | q :: A => by
    simp only [List.cons_append, insL]
    split
    · rfl
    · split
      · rfl
      · rw [insL_lt h A]; rfl
theorem insL_skip {k : ByteArray} {x : api_Record} {B : List KV} : ∀ A : List KV, (∀ q ∈ A, sLt q.1 k = true) → insL k x (A ++ B) = A ++ insL k x B
  | [], _ => rfl
  | q :: A, h => by
    have hq := h q (by simp)
    have h1 : sLt k q.1 = false := sLt_asym hq
    have h2 : sEq k q.1 = false := sEq_ne.2 (fun e => sLt_ne hq e.symm)
    simp only [List.cons_append, insL, h1, h2, Bool.false_eq_true, if_false]
    rw [insL_skip A fun q hq => h q (by simp [hq])]
theorem insL_eq {k : ByteArray} {x : api_Record} {p : KV} {B : List KV} (h : k = p.1) : insL k x (p :: B) = (k, x) :: B := by
  simp [insL, h, sLt_irr, sEq_self]
theorem insL_gt {k : ByteArray} {x : api_Record} {p : KV} {B : List KV} (h : sLt p.1 k = true) : insL k x (p :: B) = p :: insL k x B := by
  have h1 : sLt k p.1 = false := sLt_asym h
  have h2 : sEq k p.1 = false := sEq_ne.2 (fun e => sLt_ne h e.symm)
  simp [insL, h1, h2]
theorem delL_notin {k : ByteArray} : ∀ l : List KV, (∀ q ∈ l, q.1 ≠ k) → delL k l = l
  | [], _ => rfl
  | p :: l, h => by
    have : sEq k p.1 = false := sEq_ne.2 (fun e => h p (by simp) e.symm)
    simp only [delL, this, Bool.false_eq_true, if_false]
    rw [delL_notin l fun q hq => h q (by simp [hq])]
theorem delL_lt {k : ByteArray} {p : KV} {B : List KV} (h : sLt k p.1 = true) (hB : ∀ q ∈ B, sLt p.1 q.1 = true) : ∀ A : List KV, delL k (A ++ p :: B) = delL k A ++ p :: B
  | [] => by
    have h1 : sEq k p.1 = false := sEq_ne.2 (sLt_ne h)
    simp only [List.nil_append, delL, h1, Bool.false_eq_true, if_false]
    rw [delL_notin B fun q hq e => by
      have := sLt_trans h (hB q hq)
      rw [e, sLt_irr] at this; cases this]
  | q :: A => by
    simp only [List.cons_append, delL]
    split
    · rfl
    · rw [delL_lt h hB A]; rfl
theorem delL_skip {k : ByteArray} {B : List KV} : ∀ A : List KV, (∀ q ∈ A, sLt q.1 k = true) → delL k (A ++ B) = A ++ delL k B
  | [], _ => rfl
  | q :: A, h => by
    have hq := h q (by simp)
    have h2 : sEq k q.1 = false := sEq_ne.2 (fun e => sLt_ne hq e.symm)
    simp only [List.cons_append, delL, h2, Bool.false_eq_true, if_false]
    rw [delL_skip A fun q hq => h q (by simp [hq])]
theorem srt_app {A B : List KV} {p : KV} (h : Srt (A ++ p :: B)) : Srt A ∧ Srt B ∧ (∀ q ∈ A, sLt q.1 p.1 = true) ∧ (∀ q ∈ B, sLt p.1 q.1 = true) := by
  obtain ⟨h1, h2, h3⟩ := List.pairwise_append.1 h
  obtain ⟨h4, h5⟩ := List.pairwise_cons.1 h2
  exact ⟨h1, h5, fun q hq => h3 q hq p (by simp), h4⟩
theorem ins_mem {k : ByteArray} {x : api_Record} : ∀ {l : List KV} {q : KV}, q ∈ insL k x l → q = (k, x) ∨ q ∈ l
  | [], q, h => by simp [insL] at h; exact .inl h
  | p :: l, q, h => by
    simp only [insL] at h
    split at h
    · rcases List.mem_cons.1 h with h | h
      · exact .inl h
      · exact .inr h
    · split at h
      · rcases List.mem_cons.1 h with h | h
        · exact .inl h
        · exact .inr (List.mem_cons_of_mem _ h)
      · rcases List.mem_cons.1 h with h | h
        · exact .inr (by simp [h])
        · rcases ins_mem h with h | h
          · exact .inl h
          · exact .inr (List.mem_cons_of_mem _ h)
theorem del_mem {k : ByteArray} : ∀ {l : List KV} {q : KV}, q ∈ delL k l → q ∈ l
  | [], q, h => by simp [delL] at h
  | p :: l, q, h => by
    simp only [delL] at h
    split at h
    · exact List.mem_cons_of_mem _ h
    · rcases List.mem_cons.1 h with h | h
      · simp [h]
      · exact List.mem_cons_of_mem _ (del_mem h)
theorem ins_srt {k : ByteArray} {x : api_Record} : ∀ {l : List KV}, Srt l → Srt (insL k x l)
  | [], _ => List.pairwise_singleton ..
  | p :: l, h => by
    obtain ⟨h1, h2⟩ := List.pairwise_cons.1 h
    simp only [insL]
    split
    · rename_i hk
      refine List.pairwise_cons.2 ⟨fun q hq => ?_, h⟩
      rcases List.mem_cons.1 hq with rfl | hq
      · exact hk
      · exact sLt_trans hk (h1 q hq)
    · rename_i hk
      split
      · rename_i he
        have he := sEq_iff.1 he
        exact List.pairwise_cons.2 ⟨fun q hq => by rw [he]; exact h1 q hq, h2⟩
      · rename_i he
        have hlt : sLt p.1 k = true := sLt_tri (by simpa using hk) (fun e => he (sEq_iff.2 e))
        refine List.pairwise_cons.2 ⟨fun q hq => ?_, ins_srt h2⟩
        rcases ins_mem hq with rfl | hq
        · exact hlt
        · exact h1 q hq
theorem del_srt {k : ByteArray} : ∀ {l : List KV}, Srt l → Srt (delL k l)
  | [], h => h
  | p :: l, h => by
    obtain ⟨h1, h2⟩ := List.pairwise_cons.1 h
    simp only [delL]
    split
    · exact h2
    · exact List.pairwise_cons.2 ⟨fun q hq => h1 q (del_mem hq), del_srt h2⟩

/-! ### set -/
theorem set_ok : ∀ (n : Nat) (t : shelf_nodeT) (k : ByteArray) (x : api_Record), t.hh < n → Szd t → Srt (toL t) → (toL t).length + 2 < 1099511627776 →
    ∃ t', shelf_node_set_r n t k x = some t' ∧ Szd t' ∧ toL t' = insL k x (toL t)
  | 0, t, k, x, h, _, _, _ => by omega
  | n + 1, .nil, k, x, _, _, _, _ => by
    obtain ⟨t1, e1, z1, l1⟩ := made_ok (k := k) (x := x) (l := .nil) (r := .nil) trivial trivial (by simp [toL]) (by simp [toL])
    refine ⟨t1, ?_, z1, by rw [l1]; rfl⟩
    simp only [shelf_node_set_r, shelf_node_set_b, shelf_nodeT.isNil, if_true]
    rw [e1]; rfl
  | n + 1, .node nk nx l r s, k, x, hh, hz, hs, hb => by
    obtain ⟨z1, z2, z3⟩ := hz
    simp only [toL] at hs hb
    obtain ⟨s1, s2, sA, sB⟩ := srt_app hs
    have hlen : (toL l ++ (nk, nx) :: toL r).length = (toL l).length + (toL r).length + 1 := by simp; omega
    rw [hlen] at hb
    simp only [shelf_nodeT.hh] at hh
    simp only [shelf_node_set_r, shelf_node_set_b, shelf_nodeT.isNil, shelf_nodeT.un, Bool.false_eq_true, if_false, Option.bind_some]
    by_cases h1 : sLt k nk = true
    · rw [if_pos h1]
      obtain ⟨t1, e1, y1, l1⟩ := set_ok n l k x (by omega) z1 s1 (by omega)
      have b1 := insL_len k x (toL l)
      rw [← l1] at b1
      obtain ⟨t2, e2, y2, l2⟩ := even_ok (k := nk) (x := nx) y1 z2 (by omega) (by omega) (by omega)
      refine ⟨t2, by rw [e1]; simp only [Option.bind_some]; rw [e2]; rfl, y2, ?_⟩
      rw [l2, l1]; simp only [toL]; rw [insL_lt (by exact h1)]
    · rw [if_neg h1]
      by_cases h2 : k = nk
      · subst h2
        have he : (!(sLt k k || sEq k k)) = false := by simp [sEq_self]
        rw [he]
        simp only [Bool.false_eq_true, if_false]
        obtain ⟨t1, e1, y1, l1⟩ := made_ok (k := k) (x := x) z1 z2 (by omega) (by omega)
        refine ⟨t1, by rw [e1]; rfl, y1, ?_⟩
        rw [l1]; simp only [toL]
        rw [insL_skip _ (fun q hq => sA q hq), insL_eq rfl]
      · have h3 : sLt nk k = true := sLt_tri (by simpa using h1) h2
        have he : (!(sLt k nk || sEq k nk)) = true := by simp [sEq_ne.2 h2]; simpa using h1
        rw [he]
        simp only [if_true]
        obtain ⟨t1, e1, y1, l1⟩ := set_ok n r k x (by omega) z2 s2 (by omega)
        have b1 := insL_len k x (toL r)
        rw [← l1] at b1
        obtain ⟨t2, e2, y2, l2⟩ := even_ok (k := nk) (x := nx) z1 y1 (by omega) (by omega) (by omega)
        refine ⟨t2, by rw [e1]; simp only [Option.bind_some]; rw [e2]; rfl, y2, ?_⟩
        rw [l2, l1]; simp only [toL]
        rw [insL_skip _ (fun q hq => sLt_trans (sA q hq) h3), insL_gt h3]
theorem nset_ok {t : shelf_nodeT} {k : ByteArray} {x : api_Record} (hz : Szd t) (hs : Srt (toL t)) (hb : (toL t).length + 2 < 1099511627776) :
    ∃ t', shelf_node_set t k x = some t' ∧ Szd t' ∧ toL t' = insL k x (toL t) := set_ok _ t k x (Nat.lt_succ_self _) hz hs hb

/-! ### first, cut -/
theorem first_ok : ∀ (n : Nat) (t : shelf_nodeT), t.hh < n → t.isNil = false → ∃ t' k x l r s B, shelf_node_first_l1 n t = some t' ∧ t' = .node k x l r s ∧ toL t = (k, x) :: B
  | 0, t, h, _ => by omega
  | n + 1, .nil, _, h => by cases h
  | n + 1, .node k x l r s, hh, _ => by
    simp only [shelf_nodeT.hh] at hh
    simp only [shelf_node_first_l1, shelf_nodeT.un, Option.bind_some]
    cases l with
    | nil => exact ⟨_, k, x, .nil, r, s, toL r, rfl, rfl, rfl⟩
    | node k2 x2 l2 r2 s2 =>
      obtain ⟨t', k', x', l', r', s', B, e1, e2, e3⟩ := first_ok n (.node k2 x2 l2 r2 s2) (by omega) rfl
      exact ⟨t', k', x', l', r', s', B ++ (k, x) :: toL r, by simp [shelf_nodeT.isNil]; exact e1, e2, by
        simp only [toL] at e3 ⊢
        rw [e3]; rfl⟩
theorem cut_ok : ∀ (n : Nat) (t : shelf_nodeT) (k : ByteArray), t.hh < n → Szd t → Srt (toL t) → (toL t).length + 2 < 1099511627776 →
    ∃ t', shelf_node_cut_r n t k = some t' ∧ Szd t' ∧ toL t' = delL k (toL t)
  | 0, t, k, h, _, _, _ => by omega
  | n + 1, .nil, k, _, _, _, _ => ⟨.nil, rfl, trivial, rfl⟩
  | n + 1, .node nk nx l r s, k, hh, hz, hs, hb => by
    obtain ⟨z1, z2, z3⟩ := hz
    simp only [toL] at hs hb
    obtain ⟨s1, s2, sA, sB⟩ := srt_app hs
    have hlen : (toL l ++ (nk, nx) :: toL r).length = (toL l).length + (toL r).length + 1 := by simp; omega
    rw [hlen] at hb
    simp only [shelf_nodeT.hh] at hh
    simp only [shelf_node_cut_r, shelf_node_cut_b, shelf_nodeT.isNil, shelf_nodeT.un, Bool.false_eq_true, if_false, Option.bind_some]
    by_cases h1 : sLt k nk = true
    · rw [if_pos h1]
      obtain ⟨t1, e1, y1, l1⟩ := cut_ok n l k (by omega) z1 s1 (by omega)
      have b1 := delL_len k (toL l)
      rw [← l1] at b1
      obtain ⟨t2, e2, y2, l2⟩ := even_ok (k := nk) (x := nx) y1 z2 (by omega) (by omega) (by omega)
      refine ⟨t2, by rw [e1]; simp only [Option.bind_some]; rw [e2]; rfl, y2, ?_⟩
      rw [l2, l1]; simp only [toL]; rw [delL_lt (by exact h1) (fun q hq => sB q hq)]
    · rw [if_neg h1]
      by_cases h2 : k = nk
      · subst h2
        have he : (!(sLt k k || sEq k k)) = false := by simp [sEq_self]
        rw [he]
        simp only [Bool.false_eq_true, if_false]
        have hdel : delL k (toL l ++ (k, nx) :: toL r) = toL l ++ toL r := by
          rw [delL_skip _ (fun q hq => sA q hq)]
          simp [delL, sEq_self]
        cases hl : l with
        | nil => exact ⟨r, by simp [shelf_nodeT.isNil, shelf_nodeT.un], z2, by show toL r = delL k (toL .nil ++ (k, nx) :: toL r); rw [← hl, hdel, hl]; rfl⟩
        | node k2 x2 l2 r2 q2 =>
          cases hr : r with
          | nil => exact ⟨l, by simp [shelf_nodeT.isNil, shelf_nodeT.un, hl], z1, by rw [← hl, ← hr]; show toL l = delL k (toL l ++ (k, nx) :: toL r); rw [hdel, hr]; simp [toL]⟩
          | node k3 x3 l3 r3 q3 =>
            rw [← hl, ← hr]
            have hn : r.isNil = false := by rw [hr]; rfl
            have hn1 : l.isNil = false := by rw [hl]; rfl
            obtain ⟨t', k', x', l', r', s', B, e1, e2, e3⟩ := first_ok (r.hh + 1) r (Nat.lt_succ_self _) hn
            subst e2
            have hf : shelf_node_first r = some (.node k' x' l' r' s') := by
              unfold shelf_node_first; rw [e1]; rfl
            obtain ⟨t1, c1, y1, l1⟩ := cut_ok n r k' (by omega) z2 s2 (by omega)
            have hB : toL t1 = B := by rw [l1, e3]; simp [delL, sEq_self]
            have hBl : B.length + 1 = (toL r).length := by rw [e3]; simp
            obtain ⟨t2, c2, y2, l2⟩ := even_ok (k := k') (x := x') z1 y1 (by omega) (by rw [hB]; omega) (by rw [hB]; omega)
            refine ⟨t2, ?_, y2, ?_⟩
            · simp only [hf, Option.bind_some, shelf_nodeT.un, c1, c2]
              show (if l.isNil = true then some r else if r.isNil = true then some l else some t2) = some t2
              rw [hn, hn1]; rfl
            · show toL t2 = delL k (toL l ++ (k, nx) :: toL r)
              rw [hdel, l2, hB, e3]
      · have h3 : sLt nk k = true := sLt_tri (by simpa using h1) h2
        have he : (!(sLt k nk || sEq k nk)) = true := by simp [sEq_ne.2 h2]; simpa using h1
        rw [he]
        simp only [if_true]
        obtain ⟨t1, e1, y1, l1⟩ := cut_ok n r k (by omega) z2 s2 (by omega)
        have b1 := delL_len k (toL r)
        rw [← l1] at b1
        obtain ⟨t2, e2, y2, l2⟩ := even_ok (k := nk) (x := nx) z1 y1 (by omega) (by omega) (by omega)
        refine ⟨t2, by rw [e1]; simp only [Option.bind_some]; rw [e2]; rfl, y2, ?_⟩
        rw [l2, l1]; simp only [toL]
        rw [delL_skip _ (fun q hq => sLt_trans (sA q hq) h3)]
        simp [delL, sEq_ne.2 h2]
theorem ncut_ok {t : shelf_nodeT} {k : ByteArray} (hz : Szd t) (hs : Srt (toL t)) (hb : (toL t).length + 2 < 1099511627776) :
    ∃ t', shelf_node_cut t k = some t' ∧ Szd t' ∧ toL t' = delL k (toL t) := cut_ok _ t k (Nat.lt_succ_self _) hz hs hb
end Go.CL

/- Get, At, Rank of a tree; the document's list: Find, Get, Set, Cut. -/
set_option linter.unusedVariables false
set_option linter.unusedSimpArgs false
namespace Go.CL
open Go

def lk (k : ByteArray) : List KV → Option api_Record
  | [] => none
  | p :: l => if sEq k p.1 then some p.2 else lk k l
def rk (k : ByteArray) : List KV → Nat
  | [] => 0
  | p :: l => if sLt p.1 k then rk k l + 1 else 0
theorem lk_notin {k : ByteArray} : ∀ {l : List KV}, (∀ q ∈ l, q.1 ≠ k) → lk k l = none
  | [], _ => rfl
  | p :: l, h => by
    have : sEq k p.1 = false := sEq_ne.2 (fun e => h p (by simp) e.symm)
    simp only [lk, this, Bool.false_eq_true, if_false]
    exact lk_notin fun q hq => h q (by simp [hq])
theorem lk_lt {k : ByteArray} {p : KV} {B : List KV} (h : sLt k p.1 = true) (hB : ∀ q ∈ B, sLt p.1 q.1 = true) : ∀ A : List KV, lk k (A ++ p :: B) = lk k A
  | [] => by
    have h1 : sEq k p.1 = false := sEq_ne.2 (sLt_ne h)
    simp only [List.nil_append, lk, h1, Bool.false_eq_true, if_false]
    exact lk_notin fun q hq e => by
      have := sLt_trans h (hB q hq)
      rw [e, sLt_irr] at this; cases this
  | q :: A => by
    simp only [List.cons_append, lk]
    split
    · rfl
    · exact lk_lt h hB A
theorem lk_skip {k : ByteArray} {B : List KV} : ∀ A : List KV, (∀ q ∈ A, sLt q.1 k = true) → lk k (A ++ B) = lk k B
  | [], _ => rfl
  | q :: A, h => by
    have hq := h q (by simp)
    have h2 : sEq k q.1 = false := sEq_ne.2 (fun e => sLt_ne hq e.symm)
    simp only [List.cons_append, lk, h2, Bool.false_eq_true, if_false]
    exact lk_skip A fun q hq => h q (by simp [hq])
theorem rk_le (k : ByteArray) : ∀ l : List KV, rk k l ≤ l.length
  | [] => by simp [rk]
  | p :: l => by
    have := rk_le k l
    simp only [rk]
    split <;> simp <;> omega
theorem rk_stop {k : ByteArray} {p : KV} {B : List KV} (h : sLt p.1 k = false) : ∀ A : List KV, rk k (A ++ p :: B) = rk k A
  | [] => by simp [rk, h]
  | q :: A => by
    simp only [List.cons_append, rk]
    rw [rk_stop h A]
theorem rk_skip {k : ByteArray} {B : List KV} : ∀ A : List KV, (∀ q ∈ A, sLt q.1 k = true) → rk k (A ++ B) = A.length + rk k B
  | [], _ => by simp
  | q :: A, h => by
    simp only [List.cons_append, rk, h q (by simp), if_true, List.length_cons]
    rw [rk_skip A fun q hq => h q (by simp [hq])]
    omega
/-- A list that may be copied. -/
def Cl (x : api_Record) : Prop := x.List.length ≤ 1000
theorem clone_eq {x : api_Record} (h : Cl x) : rec_Clone x = some x := by
  unfold rec_Clone slices_Clone_api_Item_api_Item
  unfold Cl at h
  rw [if_pos (by omega)]
  rfl
abbrev zrec : api_Record := { Kind := 0, Num := 0, Low := 0, High := 0, Real := 0, Cap := 0, Text := ByteArray.empty, List := [] }
def getR : Option api_Record → api_Record × Bool
  | some r => (r, true)
  | none => (zrec, false)
def getE (x : api_Record) : Option api_Record → (api_Record × Bool) ⊕ api_Record
  | some r => .inl (r, true)
  | none => .inr x
theorem get_loop (k : ByteArray) (x : api_Record) : ∀ (n : Nat) (t : shelf_nodeT), t.hh < n → Srt (toL t) → (∀ q ∈ toL t, Cl q.2) → shelf_Shelf_Get_l1 k n x t = some (getE x (lk k (toL t)))
  | 0, t, h, _, _ => by omega
  | n + 1, .nil, _, _, _ => rfl
  | n + 1, .node nk nx l r s, hh, hs, hc => by
    simp only [toL] at hs hc
    obtain ⟨s1, s2, sA, sB⟩ := srt_app hs
    simp only [shelf_nodeT.hh] at hh
    simp only [shelf_Shelf_Get_l1, shelf_nodeT.isNil, shelf_nodeT.un, Bool.not_false, if_true, Option.bind_some, shelf_Shelf_Get_j1, toL]
    by_cases h1 : sLt k nk = true
    · rw [if_pos h1, get_loop k x n l (by omega) s1 (fun q hq => hc q (by simp [hq])), lk_lt (by exact h1) (fun q hq => sB q hq)]
    · rw [if_neg h1]
      by_cases h2 : k = nk
      · subst h2
        have he : (!(sLt k k || sEq k k)) = false := by simp [sEq_self]
        rw [he]
        simp only [Bool.false_eq_true, if_false]
        rw [clone_eq (hc (k, nx) (by simp)), lk_skip _ (fun q hq => sA q hq)]
        simp [lk, sEq_self, getE]
      · have h3 : sLt nk k = true := sLt_tri (by simpa using h1) h2
        have he : (!(sLt k nk || sEq k nk)) = true := by simp [sEq_ne.2 h2]; simpa using h1
        rw [he]
        simp only [if_true]
        rw [get_loop k x n r (by omega) s2 (fun q hq => hc q (by simp [hq])), lk_skip _ (fun q hq => sLt_trans (sA q hq) h3)]
        simp [lk, sEq_ne.2 h2]
theorem get_eq {s : shelf_Shelf} {k : ByteArray} (hs : Srt (toL s.top)) (hc : ∀ q ∈ toL s.top, Cl q.2) : shelf_Shelf_Get s k = some (getR (lk k (toL s.top))) := by
  unfold shelf_Shelf_Get
  rw [get_loop k _ _ _ (Nat.lt_succ_self _) hs hc]
  cases lk k (toL s.top) <;> rfl
def atE (x : api_Record) : Option KV → (ByteArray × api_Record × Bool) ⊕ api_Record
  | some p => .inl (p.1, p.2, true)
  | none => .inr x
theorem idx_neg {α : Type} {l : List α} {i : Int} (h : i < 0) : idx l i = none := by
  unfold idx
  rw [if_neg (by omega)]
theorem idx_app_lt {α : Type} {A B : List α} {i : Int} (h : i < A.length) : idx (A ++ B) i = idx A i := by
  unfold idx
  split
  · rw [List.getElem?_append_left (by omega)]
  · rfl
theorem idx_app_mid {α : Type} {A B : List α} {p : α} : idx (A ++ p :: B) (A.length : Int) = some p := by
  rw [idxn]; simp
theorem idx_app_gt {α : Type} {A B : List α} {p : α} {i : Int} (h : (A.length : Int) < i) : idx (A ++ p :: B) i = idx B (i - (A.length + 1)) := by
  unfold idx
  rw [if_pos (by omega), if_pos (by omega), List.getElem?_append_right (by omega)]
  rw [show i.toNat - A.length = (i - (A.length + 1)).toNat + 1 by omega, List.getElem?_cons_succ]
theorem at_loop (x : api_Record) : ∀ (n : Nat) (t : shelf_nodeT) (i : Int), t.hh < n → Szd t → (toL t).length + 2 < 1099511627776 → -1099511627776 < i → i < 1099511627776 → (∀ q ∈ toL t, Cl q.2) → shelf_Shelf_At_l1 n i x t = some (atE x (idx (toL t) i))
  | 0, t, i, h, _, _, _, _, _ => by omega
  | n + 1, .nil, i, _, _, _, _, _, _ => by
    simp only [shelf_Shelf_At_l1, shelf_nodeT.isNil, toL]
    have hn : idx ([] : List KV) i = none := by
      unfold idx
      split <;> simp
    rw [hn]
    rfl
  | n + 1, .node nk nx l r s, i, hh, hz, hb, i1, i2, hc => by
    obtain ⟨z1, z2, z3⟩ := hz
    simp only [toL] at hb hc
    have hlen : (toL l ++ (nk, nx) :: toL r).length = (toL l).length + (toL r).length + 1 := by simp; omega
    rw [hlen] at hb
    simp only [shelf_nodeT.hh] at hh
    simp only [shelf_Shelf_At_l1, shelf_nodeT.isNil, shelf_nodeT.un, Bool.not_false, if_true, Option.bind_some, shelf_Shelf_At_j1, toL]
    rw [count_eq z1]
    simp only [Option.bind_some]
    by_cases h1 : i < (toL l).length
    · rw [if_pos (by simpa using h1), at_loop x n l i (by omega) z1 (by omega) i1 i2 (fun q hq => hc q (by simp [hq])), idx_app_lt h1]
    · rw [if_neg (by simpa using h1)]
      by_cases h2 : ((toL l).length : Int) < i
      · rw [if_pos (by simpa using h2), wr (x := ((toL l).length : Int) + 1) (by omega) (by omega), wr (by omega) (by omega), at_loop x n r _ (by omega) z2 (by omega) (by omega) (by omega) (fun q hq => hc q (by simp [hq])), idx_app_gt h2]
      · rw [if_neg (by simpa using h2), clone_eq (hc (nk, nx) (by simp))]
        have : i = (toL l).length := by omega
        subst this
        rw [idx_app_mid]; rfl
def atR : Option KV → ByteArray × api_Record × Bool
  | some p => (p.1, p.2, true)
  | none => (⟨#[]⟩, zrec, false)
theorem at_eq {s : shelf_Shelf} {i : Int} (hz : Szd s.top) (hb : (toL s.top).length + 2 < 1099511627776) (i1 : -1099511627776 < i) (i2 : i < 1099511627776) (hc : ∀ q ∈ toL s.top, Cl q.2) : shelf_Shelf_At s i = some (atR (idx (toL s.top) i)) := by
  unfold shelf_Shelf_At
  rw [at_loop _ _ _ _ (Nat.lt_succ_self _) hz hb i1 i2 hc]
  cases idx (toL s.top) i <;> rfl
theorem rank_loop (k : ByteArray) : ∀ (n : Nat) (t : shelf_nodeT) (x : Nat), t.hh < n → Szd t → Srt (toL t) → x + (toL t).length + 2 < 1099511627776 → shelf_Shelf_Rank_l1 k n (x : Int) t = some ((x + rk k (toL t) : Nat) : Int)
  | 0, t, x, h, _, _, _ => by omega
  | n + 1, .nil, x, _, _, _, _ => rfl
  | n + 1, .node nk nx l r s, x, hh, hz, hs, hb => by
    obtain ⟨z1, z2, z3⟩ := hz
    simp only [toL] at hs hb
    obtain ⟨s1, s2, sA, sB⟩ := srt_app hs
    have hlen : (toL l ++ (nk, nx) :: toL r).length = (toL l).length + (toL r).length + 1 := by simp; omega
    rw [hlen] at hb
    simp only [shelf_nodeT.hh] at hh
    simp only [shelf_Shelf_Rank_l1, shelf_nodeT.isNil, shelf_nodeT.un, Bool.not_false, if_true, Option.bind_some, shelf_Shelf_Rank_j1, toL]
    by_cases h1 : sLt nk k = true
    · have he : (sLt k nk || sEq k nk) = false := by
        simp [sLt_asym h1, sEq_ne]; exact fun e => sLt_ne h1 e.symm
      rw [he]
      simp only [Bool.false_eq_true, if_false]
      rw [count_eq z1]
      simp only [Option.bind_some]
      rw [wr (x := ((toL l).length : Int) + 1) (by omega) (by omega), wr (by omega) (by omega)]
      have := rank_loop k n r (x + ((toL l).length + 1)) (by omega) z2 s2 (by omega)
      rw [show (x : Int) + (((toL l).length : Int) + 1) = ((x + ((toL l).length + 1) : Nat) : Int) by omega, this, rk_skip _ (fun q hq => sLt_trans (sA q hq) h1)]
      simp only [rk, h1, if_true]
      congr 2; omega
    · have h1' : sLt nk k = false := by simpa using h1
      have he : (sLt k nk || sEq k nk) = true := by
        by_cases h2 : k = nk
        · rw [h2]; simp [sEq_self]
        · simp [sLt_tri h1' (fun e => h2 e.symm)]
      rw [if_pos he, rank_loop k n l x (by omega) z1 s1 (by omega), rk_stop (by exact h1')]
theorem rank_eq {s : shelf_Shelf} {k : ByteArray} (hz : Szd s.top) (hs : Srt (toL s.top)) (hb : (toL s.top).length + 2 < 1099511627776) : shelf_Shelf_Rank s k = some (rk k (toL s.top) : Int) := by
  unfold shelf_Shelf_Rank
  have := rank_loop k (s.top.hh + 1) s.top 0 (Nat.lt_succ_self _) hz hs (by omega)
  rw [show ((0 : Nat) : Int) = 0 from rfl] at this
  rw [this]
  simp
/-! ### where a key stands -/
theorem at_key {k : ByteArray} (x : api_Record) : ∀ {l : List KV}, Srt l →
    (∃ p, l[rk k l]? = some p ∧ p.1 = k ∧ lk k l = some p.2 ∧ insL k x l = l.take (rk k l) ++ (k, x) :: l.drop (rk k l + 1) ∧ delL k l = l.take (rk k l) ++ l.drop (rk k l + 1)) ∨
    ((∀ p, l[rk k l]? = some p → p.1 ≠ k) ∧ lk k l = none ∧ insL k x l = l.take (rk k l) ++ (k, x) :: l.drop (rk k l) ∧ delL k l = l)
  | [], _ => .inr ⟨fun p h => by simp at h, rfl, rfl, rfl⟩
  | p :: l, hs => by
    obtain ⟨h1, h2⟩ := List.pairwise_cons.1 hs
    by_cases h : sLt p.1 k = true
    · have e1 : sLt k p.1 = false := sLt_asym h
      have e2 : sEq k p.1 = false := sEq_ne.2 (fun e => sLt_ne h e.symm)
      simp only [rk, h, if_true, lk, insL, delL, e1, e2, Bool.false_eq_true, if_false, List.getElem?_cons_succ, List.take_succ_cons, List.drop_succ_cons]
      rcases at_key x h2 with ⟨q, a1, a2, a3, a4, a5⟩ | ⟨a1, a2, a3, a4⟩
      · exact .inl ⟨q, a1, a2, a3, by rw [a4]; rfl, by rw [a5]; rfl⟩
      · exact .inr ⟨a1, a2, by rw [a3]; rfl, by rw [a4]⟩
    · have h' : sLt p.1 k = false := by simpa using h
      simp only [rk, h', Bool.false_eq_true, if_false]
      by_cases he : k = p.1
      · left
        exact ⟨p, rfl, he.symm, by simp [lk, he, sEq_self], by simp [insL, he, sLt_irr, sEq_self], by simp [delL, he, sEq_self]⟩
      · right
        have hlt : sLt k p.1 = true := sLt_tri h' (fun e => he e.symm)
        have hne : ∀ q ∈ l, q.1 ≠ k := fun q hq e => by
          have := sLt_trans hlt (h1 q hq)
          rw [e, sLt_irr] at this; cases this
        refine ⟨fun q hq e => ?_, ?_, by simp [insL, hlt], ?_⟩
        · simp at hq; subst hq; exact he e.symm
        · simp only [lk, sEq_ne.2 he, Bool.false_eq_true, if_false]; exact lk_notin hne
        · simp only [delL, sEq_ne.2 he, Bool.false_eq_true, if_false]; rw [delL_notin l hne]
end Go.CL

/- The document's shelf, and both at once. -/
set_option linter.unusedVariables false
set_option linter.unusedSimpArgs false
namespace Go.CL
open Go

def kv (p : moietyref09_Pair) : KV := (p.Key, p.Rec)
def pl (t : moietyref09_Shelf) : List KV := t.L.map kv
theorem pl_get (t : moietyref09_Shelf) (i : Nat) : (pl t)[i]? = (t.L[i]?).map kv := by simp [pl]
theorem pl_len (t : moietyref09_Shelf) : (pl t).length = t.L.length := by simp [pl]
theorem find_loop {t : moietyref09_Shelf} {k : ByteArray} (hb : t.L.length < 1099511627776) : ∀ (n i : Nat), i + n = t.L.length →
    moietyref09_Shelf_Find_l1 t k (n + 1) (i : Int) = some ((i + rk k ((pl t).drop i) : Nat) : Int)
  | 0, i, h => by
    have hd : decide ((i : Int) < (t.L.length : Int)) = false := by simp; omega
    rw [moietyref09_Shelf_Find_l1, hd, List.drop_of_length_le (by rw [pl_len]; omega)]
    simp [gd, rk]
  | n + 1, i, h => by
    have hd : decide ((i : Int) < (t.L.length : Int)) = true := by simp; omega
    have hi : i < t.L.length := by omega
    have hi' : i < (pl t).length := by rw [pl_len]; exact hi
    rw [moietyref09_Shelf_Find_l1, hd, idx_lt hi, List.drop_eq_getElem_cons hi', wr1 (by omega)]
    have hg : (pl t)[i] = kv t.L[i] := by simp [pl]
    rw [hg]
    simp only [gd_t, Option.bind_some, Bool.true_and, rk]
    by_cases hk : sLt t.L[i].Key k = true
    · have hk' : sLt (kv t.L[i]).1 k = true := hk
      rw [if_pos hk, if_pos hk', find_loop hb n (i + 1) (by omega)]
      congr 2; omega
    · have hk' : ¬ sLt (kv t.L[i]).1 k = true := hk
      rw [if_neg hk, if_neg hk']; rfl
theorem find_eq {t : moietyref09_Shelf} {k : ByteArray} (hb : t.L.length < 1099511627776) : moietyref09_Shelf_Find t k = some (rk k (pl t) : Int) := by
  unfold moietyref09_Shelf_Find
  have := find_loop (k := k) hb t.L.length 0 (by omega)
  rw [show ((0 : Nat) : Int) = 0 from rfl] at this
  rw [show (Int.toNat ((t.L.length : Int) - (0 : Int)) + 1) = t.L.length + 1 by omega, this]
  simp
/-- A shelf, and the document's. -/
structure Rel (s : shelf_Shelf) (t : moietyref09_Shelf) (n : Nat) : Prop where
  top : toL s.top = pl t
  sz : Szd s.top
  srt : Srt (pl t)
  len : t.L.length ≤ n
  room : s.room = t.Room
  ok : ∀ q ∈ pl t, RecOk q.2 ∧ q.2.List.length ≤ 100
theorem Rel.cl {s : shelf_Shelf} {t : moietyref09_Shelf} {n : Nat} (h : Rel s t n) : ∀ q ∈ toL s.top, Cl q.2 := fun q hq => by
  rw [h.top] at hq
  have := (h.ok q hq).2
  unfold Cl; omega
theorem Rel.mono {s : shelf_Shelf} {t : moietyref09_Shelf} {n m : Nat} (h : Rel s t n) (hm : n ≤ m) : Rel s t m := ⟨h.top, h.sz, h.srt, Nat.le_trans h.len hm, h.room, h.ok⟩
theorem Rel.tl {s : shelf_Shelf} {t : moietyref09_Shelf} {n : Nat} (h : Rel s t n) : (toL s.top).length = t.L.length := by rw [h.top, pl_len]
theorem rel_new (r : Int) : Rel { top := .nil, room := r } { L := [], Room := r } 0 := ⟨rfl, trivial, List.Pairwise.nil, Nat.le_refl _, rfl, fun q h => by simp [pl] at h⟩
theorem rget_eq {s : shelf_Shelf} {t : moietyref09_Shelf} {n : Nat} (h : Rel s t n) (hn : n < 1000000) (k : ByteArray) : moietyref09_Shelf_Get t k = some (getR (lk k (pl t))) := by
  have hb := h.len
  unfold moietyref09_Shelf_Get
  rw [find_eq (by omega)]
  simp only [Option.bind_some]
  have hle := rk_le k (pl t)
  rw [pl_len] at hle
  by_cases hi : rk k (pl t) < t.L.length
  · have hd : decide (((rk k (pl t) : Nat) : Int) < (t.L.length : Int)) = true := by simp; omega
    rw [hd, idx_lt hi]
    simp only [gd_t, Option.bind_some, Bool.true_and]
    have hg : (pl t)[rk k (pl t)]? = some (kv t.L[rk k (pl t)]) := by rw [pl_get, List.getElem?_eq_getElem hi]; rfl
    rcases at_key default h.srt with ⟨p, a1, a2, a3, _, _⟩ | ⟨a1, a2, _, _⟩
    · rw [hg] at a1
      obtain rfl := Option.some.inj a1
      have : sEq (t.L[rk k (pl t)]).Key k = true := sEq_iff.2 a2
      rw [if_pos this, a3]; rfl
    · have : sEq (t.L[rk k (pl t)]).Key k = false := sEq_ne.2 (a1 _ hg)
      rw [if_neg (by simp [this]), a2]; rfl
  · have hd : decide (((rk k (pl t) : Nat) : Int) < (t.L.length : Int)) = false := by simp; omega
    rw [hd]
    simp only [gd_f, Option.bind_some, Bool.false_and, Bool.false_eq_true, if_false]
    rcases at_key (k := k) default h.srt with ⟨p, a1, _⟩ | ⟨_, a2, _, _⟩
    · have := (List.getElem?_eq_some_iff.1 a1).1
      rw [pl_len] at this; omega
    · rw [a2]; rfl
theorem sget_eq {s : shelf_Shelf} {t : moietyref09_Shelf} {n : Nat} (h : Rel s t n) (k : ByteArray) : shelf_Shelf_Get s k = some (getR (lk k (pl t))) := by
  rw [get_eq (by rw [h.top]; exact h.srt) h.cl, h.top]
theorem slen_eq {s : shelf_Shelf} {t : moietyref09_Shelf} {n : Nat} (h : Rel s t n) : shelf_Shelf_Len s = some (t.L.length : Int) := by
  unfold shelf_Shelf_Len
  rw [count_eq h.sz, h.tl]; rfl
theorem take_map (t : moietyref09_Shelf) (i : Nat) : (t.L.take i).map kv = (pl t).take i := by simp [pl]
theorem drop_map (t : moietyref09_Shelf) (i : Nat) : (t.L.drop i).map kv = (pl t).drop i := by simp [pl]
/-- **Cut: both do the same.** -/
theorem cut_both {s : shelf_Shelf} {t : moietyref09_Shelf} {n : Nat} (h : Rel s t n) (hn : n < 1000000) (k : ByteArray) : ∃ s' t' b, shelf_Shelf_Cut s k = some (s', b) ∧ moietyref09_Shelf_Cut t k = some (t', b) ∧ Rel s' t' n ∧ (pl t' = pl t ∨ pl t' = delL k (pl t)) := by
  have hb := h.len
  have hle := rk_le k (pl t)
  rw [pl_len] at hle
  unfold shelf_Shelf_Cut moietyref09_Shelf_Cut
  rw [sget_eq h, find_eq (by omega)]
  simp only [Option.bind_some]
  rcases at_key default h.srt with ⟨p, a1, a2, a3, _, a5⟩ | ⟨a1, a2, _, a4⟩
  · have hi : rk k (pl t) < t.L.length := by
      have := (List.getElem?_eq_some_iff.1 a1).1
      rwa [pl_len] at this
    rw [a3]
    have hd : decide ((t.L.length : Int) ≤ ((rk k (pl t) : Nat) : Int)) = false := by simp; omega
    have hg : (pl t)[rk k (pl t)]? = some (kv t.L[rk k (pl t)]) := by rw [pl_get, List.getElem?_eq_getElem hi]; rfl
    rw [hg] at a1
    obtain rfl := Option.some.inj a1
    have he : sEq (t.L[rk k (pl t)]).Key k = true := sEq_iff.2 a2
    rw [hd, idx_lt hi]
    obtain ⟨t1, c1, z1, l1⟩ := ncut_ok (k := k) h.sz (by rw [h.top]; exact h.srt) (by rw [h.tl]; omega)
    rw [c1]
    simp only [getR, Bool.not_true, Bool.false_eq_true, if_false, Option.bind_some, Bool.not_false, gd_t, he, Bool.or_false, Bool.or_self]
    rw [show (0 : Int) = ((0 : Nat) : Int) from rfl, cut_some (by omega) (by omega), wr1 (by omega), cut_some (by omega) (by omega)]
    simp only [Option.bind_some, List.nil_append, List.drop_zero, Nat.sub_zero, List.length_nil, Nat.zero_add]
    have ht : (List.take (t.L.length - (rk k (pl t) + 1)) (List.drop (rk k (pl t) + 1) t.L)) = List.drop (rk k (pl t) + 1) t.L := List.take_of_length_le (by simp)
    rw [ht, if_pos (by simp; omega), if_pos (by simp; omega)]
    have hpl : pl { L := List.take (rk k (pl t)) t.L ++ List.drop (rk k (pl t) + 1) t.L, Room := t.Room } = delL k (pl t) := by
      rw [a5, ← take_map, ← drop_map, ← List.map_append]; rfl
    refine ⟨_, _, true, rfl, rfl, ⟨?_, z1, ?_, ?_, h.room, ?_⟩, .inr hpl⟩
    · rw [hpl, l1, h.top]
    · rw [hpl]; exact del_srt h.srt
    · simp; omega
    · intro q hq
      rw [hpl] at hq
      exact h.ok q (del_mem hq)
  · rw [a2]
    simp only [getR, Bool.not_false, if_true]
    by_cases hi : rk k (pl t) < t.L.length
    · have hd : decide ((t.L.length : Int) ≤ ((rk k (pl t) : Nat) : Int)) = false := by simp; omega
      have hg : (pl t)[rk k (pl t)]? = some (kv t.L[rk k (pl t)]) := by rw [pl_get, List.getElem?_eq_getElem hi]; rfl
      have he : sEq (t.L[rk k (pl t)]).Key k = false := sEq_ne.2 (a1 _ hg)
      rw [hd, idx_lt hi]
      simp only [Bool.not_false, gd_t, Option.bind_some, he, Bool.false_or, if_true]
      exact ⟨s, t, false, rfl, rfl, h, .inl rfl⟩
    · have hd : decide ((t.L.length : Int) ≤ ((rk k (pl t) : Nat) : Int)) = true := by simp; omega
      rw [hd]
      simp only [Bool.not_true, gd_f, Option.bind_some, Bool.true_or, if_true]
      exact ⟨s, t, false, rfl, rfl, h, .inl rfl⟩
theorem empty_iff (k : ByteArray) : sEq k (⟨#[]⟩ : ByteArray) = decide ((k.size : Int) < 1) := by
  by_cases h : k = ⟨#[]⟩
  · subst h; rw [sEq_self]; decide
  · rw [sEq_ne.2 h]
    have : k.size ≠ 0 := fun e => h (by
      apply ByteArray.ext
      exact Array.size_eq_zero_iff.1 e)
    simp; omega
/-- **Set: both do the same.** -/
theorem set_both {s : shelf_Shelf} {t : moietyref09_Shelf} {n : Nat} (h : Rel s t n) (hn : n < 1000000) (k : ByteArray) {x : api_Record} (hx : RecOk x) (hx2 : x.List.length ≤ 100) :
    ∃ s' t' c, shelf_Shelf_Set s k x = some (s', c) ∧ moietyref09_Shelf_Set t k x = some (t', c) ∧ Rel s' t' (n + 1) ∧ (pl t' = pl t ∨ (pl t' = insL k x (pl t) ∧ rec_Check x = some 0 ∧ ¬ (k.size : Int) < 1 ∧ ¬ (24 : Int) < (k.size : Int))) := by
  have hb := h.len
  have hle := rk_le k (pl t)
  rw [pl_len] at hle
  obtain ⟨c, hc1, hc2⟩ := check_both hx
  unfold shelf_Shelf_Set moietyref09_Shelf_Set
  rw [hc1, hc2, sget_eq h, find_eq (by omega), slen_eq h, clone_eq (by unfold Cl; omega), empty_iff, h.room]
  by_cases h1 : (decide ((k.size : Int) < 1) || decide ((24 : Int) < (k.size : Int))) = true
  · rw [if_pos h1, if_pos h1]
    exact ⟨s, t, 1, rfl, rfl, h.mono (by omega), .inl rfl⟩
  · rw [if_neg h1, if_neg h1]
    simp only [Option.bind_some]
    by_cases h2 : (c != 0) = true
    · rw [if_pos h2, if_pos h2]
      exact ⟨s, t, c, rfl, rfl, h.mono (by omega), .inl rfl⟩
    · rw [if_neg h2, if_neg h2]
      obtain ⟨t1, e1, z1, l1⟩ := nset_ok (k := k) (x := x) h.sz (by rw [h.top]; exact h.srt) (by rw [h.tl]; omega)
      rw [e1]
      have h20 : c = 0 := by simpa using h2
      have h11 : ¬ (k.size : Int) < 1 := fun h' => h1 (by simp [h'])
      have h12 : ¬ (24 : Int) < (k.size : Int) := fun h' => h1 (by simp [h'])
      have hmk : ∀ L' : List moietyref09_Pair, L'.map kv = insL k x (pl t) → Rel { top := t1, room := t.Room } { L := L', Room := t.Room } (n + 1) ∧ (pl { L := L', Room := t.Room } = pl t ∨ (pl { L := L', Room := t.Room } = insL k x (pl t) ∧ some c = some (0 : Int) ∧ ¬ (k.size : Int) < 1 ∧ ¬ (24 : Int) < (k.size : Int))) := fun L' hL => by
        have hpl : pl { L := L', Room := t.Room } = insL k x (pl t) := hL
        refine ⟨⟨by rw [hpl, l1, h.top], z1, by rw [hpl]; exact ins_srt h.srt, ?_, rfl, ?_⟩, .inr ⟨hpl, by rw [h20], h11, h12⟩⟩
        · have := insL_len k x (pl t)
          rw [← hL, pl_len] at this
          simp at this
          show L'.length ≤ n + 1
          omega
        · intro q hq
          rw [hpl] at hq
          rcases ins_mem hq with rfl | hq
          · exact ⟨hx, hx2⟩
          · exact h.ok q hq
      rcases at_key x h.srt with ⟨p, a1, a2, a3, a4, _⟩ | ⟨a1, a2, a3, _⟩
      · have hi : rk k (pl t) < t.L.length := by
          have := (List.getElem?_eq_some_iff.1 a1).1
          rwa [pl_len] at this
        have hd : decide (((rk k (pl t) : Nat) : Int) < (t.L.length : Int)) = true := by simp; omega
        have hg : (pl t)[rk k (pl t)]? = some (kv t.L[rk k (pl t)]) := by rw [pl_get, List.getElem?_eq_getElem hi]; rfl
        rw [hg] at a1
        obtain rfl := Option.some.inj a1
        have he : sEq (t.L[rk k (pl t)]).Key k = true := sEq_iff.2 a2
        rw [a3, hd, idx_lt hi]
        simp only [getR, Bool.not_true, Bool.false_and, Bool.false_eq_true, if_false, gd_f, gd_t, Option.bind_some, he, Bool.and_self, Bool.true_and, if_true]
        rw [show (0 : Int) = ((0 : Nat) : Int) from rfl, cut_some (by omega) (by omega), wr1 (by omega)]
        simp only [Option.bind_some, List.nil_append, List.drop_zero, Nat.sub_zero, List.length_nil, Nat.zero_add, moietyref09_Shelf_Set_j1]
        rw [if_pos (by simp; omega), if_pos (by simp; omega), cut_some (by omega) (by omega)]
        have ht : (List.take (t.L.length - (rk k (pl t) + 1)) (List.drop (rk k (pl t) + 1) t.L)) = List.drop (rk k (pl t) + 1) t.L := List.take_of_length_le (by simp)
        simp only [Option.bind_some, ht, List.nil_append]
        rw [if_pos (by simp; omega)]
        refine ⟨_, _, 0, rfl, rfl, hmk _ ?_⟩
        rw [a4]; simp [take_map, drop_map, kv, pl]
      · rw [a2]
        simp only [getR, Bool.not_false, gd_t, Option.bind_some, Bool.true_and]
        have hne : (decide (((rk k (pl t) : Nat) : Int) < (t.L.length : Int)) && sEq (((gd (decide (((rk k (pl t) : Nat) : Int) < (t.L.length : Int))) (idx t.L ((rk k (pl t) : Nat) : Int))).getD default).Key) k) = false := by
          by_cases hi : rk k (pl t) < t.L.length
          · have hg : (pl t)[rk k (pl t)]? = some (kv t.L[rk k (pl t)]) := by rw [pl_get, List.getElem?_eq_getElem hi]; rfl
            have he : sEq (t.L[rk k (pl t)]).Key k = false := sEq_ne.2 (a1 _ hg)
            have hd : decide (((rk k (pl t) : Nat) : Int) < (t.L.length : Int)) = true := by simp; omega
            rw [hd, idx_lt hi]
            simp [gd, he]
          · have hd : decide (((rk k (pl t) : Nat) : Int) < (t.L.length : Int)) = false := by simp; omega
            rw [hd]; rfl
        have hex : ∃ e, gd (decide (((rk k (pl t) : Nat) : Int) < (t.L.length : Int))) (idx t.L ((rk k (pl t) : Nat) : Int)) = some e := by
          by_cases hi : rk k (pl t) < t.L.length
          · rw [idx_lt hi]
            cases decide (((rk k (pl t) : Nat) : Int) < (t.L.length : Int)) <;> exact ⟨_, rfl⟩
          · have hd : decide (((rk k (pl t) : Nat) : Int) < (t.L.length : Int)) = false := by simp; omega
            rw [hd]; exact ⟨_, rfl⟩
        obtain ⟨e, hee⟩ := hex
        rw [hee] at hne ⊢
        simp only [Option.getD_some] at hne
        simp only [Option.bind_some, hne, Bool.not_false, Bool.true_and]
        by_cases h5 : decide (t.Room ≤ (t.L.length : Int)) = true
        · rw [if_pos h5, if_pos h5]
          exact ⟨s, t, 8, rfl, rfl, h.mono (by omega), .inl rfl⟩
        · rw [if_neg h5, if_neg h5]
          rw [show (0 : Int) = ((0 : Nat) : Int) from rfl, cut_some (by omega) (by omega)]
          simp only [Option.bind_some, List.nil_append, List.drop_zero, Nat.sub_zero, List.length_nil, Nat.zero_add, moietyref09_Shelf_Set_j1, Bool.false_eq_true, if_false]
          rw [if_pos (by simp; omega), if_pos (by simp; omega), cut_some (by omega) (by omega)]
          have ht : (List.take (t.L.length - rk k (pl t)) (List.drop (rk k (pl t)) t.L)) = List.drop (rk k (pl t)) t.L := List.take_of_length_le (by simp)
          simp only [Option.bind_some, ht, List.nil_append]
          rw [if_pos (by simp; omega)]
          refine ⟨_, _, 0, rfl, rfl, hmk _ ?_⟩
          rw [a3]; simp [take_map, drop_map, kv, pl]
end Go.CL

/- The laws of the shelf: ShelfDoes. -/
set_option linter.unusedVariables false
set_option linter.unusedSimpArgs false
namespace Go.CL
open Go

theorem recLen {x : api_Record} (h : wf_api_Record x) : x.List.length ≤ 9223372036854775807 := by
  obtain ⟨_, _, _, _, _, _, _, h8, _⟩ := h
  simp only [maxLen] at h8; omega
theorem recOk_of {x : api_Record} (h : wf_api_Record x) (hl : x.List.length ≤ 100) : RecOk x := by
  obtain ⟨_, _, _, _, h5, _, _, h8, h9⟩ := h
  exact ⟨h5, by omega, fun e he => (h9 e he).1⟩
theorem do_ok {s : shelf_Shelf} {t : moietyref09_Shelf} {n : Nat} (h : Rel s t n) (hn : n < 1000000) {o : moietylaw09_Op} (hx : RecOk o.Rec) (hx2 : o.Rec.List.length ≤ 100) : ∃ s' t', moietylaw09_do s t o = some (s', t', true) ∧ Rel s' t' (n + 1) := by
  unfold moietylaw09_do
  by_cases hc : o.Cut = true
  · rw [if_pos hc]
    obtain ⟨s', t', b, e1, e2, r, _⟩ := cut_both h hn o.Key
    exact ⟨s', t', by rw [e1, e2]; simp, r.mono (by omega)⟩
  · rw [if_neg hc]
    obtain ⟨s', t', c, e1, e2, r, _⟩ := set_both h hn o.Key hx hx2
    exact ⟨s', t', by rw [e1, e2]; simp, r⟩
theorem eqL_refl : ∀ l : List api_Item, eqL l l = true
  | [] => rfl
  | x :: l => by simp [eqL, eqI, sEq_self, eqL_refl l]
theorem sameR_refl (a : api_Record) : sameR a a = true := by simp [sameR, sEq_self, eqL_refl]
theorem is_loop {s : shelf_Shelf} {t : moietyref09_Shelf} {m : Nat} (h : Rel s t m) (hm : m < 1000000) : ∀ (n i : Nat), i + n = t.L.length → moietylaw09_Is_l1 s t (n + 1) (i : Int) = some (.inr ())
  | 0, i, hi => by
    rw [moietylaw09_Is_l1, if_neg (by simp; omega)]
  | n + 1, i, hi => by
    have hb := h.len
    have h1 : i < t.L.length := by omega
    rw [moietylaw09_Is_l1, if_pos (by simp; omega), idx_lt h1, at_eq h.sz (by rw [h.tl]; omega) (by omega) (by omega) h.cl, wr1 (by omega), h.top, idxn, pl_get, List.getElem?_eq_getElem h1]
    have hq : kv t.L[i] ∈ pl t := by
      have : (pl t)[i]? = some (kv t.L[i]) := by rw [pl_get, List.getElem?_eq_getElem h1]; rfl
      exact List.mem_of_getElem? this
    have hr : RecOk (t.L[i]).Rec := (h.ok _ hq).1
    simp only [Option.map_some, atR, kv, Option.bind_some, Bool.not_true, sEq_self, Bool.or_self, Bool.not_false, gd_t]
    rw [rsame_rec hr hr, sameR_refl]
    simp only [Option.bind_some, Bool.not_true, Bool.false_or, Bool.false_eq_true, if_false]
    exact is_loop h hm n (i + 1) (by omega)
theorem is_ok {s : shelf_Shelf} {t : moietyref09_Shelf} {m : Nat} (h : Rel s t m) (hm : m < 1000000) : moietylaw09_Is s t = some 1 := by
  unfold moietylaw09_Is
  rw [slen_eq h]
  simp only [Option.bind_some, bne_self_eq_false, Bool.not_false, gd_t, shelf_Shelf_Room, h.room, Bool.or_self, Bool.false_eq_true, if_false]
  have := is_loop h hm t.L.length 0 (by omega)
  rw [show ((0 : Nat) : Int) = 0 from rfl] at this
  rw [show (Int.toNat ((t.L.length : Int) - (0 : Int)) + 1) = t.L.length + 1 by omega, this]
  rfl
/-- What 'big' tells. -/
theorem big_loop {l : List moietylaw09_Op} (hl : l.length ≤ 1000) (hw : ∀ o ∈ l, wf_moietylaw09_Op o) : ∀ (n i : Nat), i + n = l.length → (moietylaw09_big_l1 l (n + 1) (i : Int) = some (.inl true)) ∨ (moietylaw09_big_l1 l (n + 1) (i : Int) = some (.inr ()) ∧ ∀ o ∈ l.drop i, o.Rec.List.length ≤ 100)
  | 0, i, h => by
    right
    rw [moietylaw09_big_l1, if_neg (by simp; omega), List.drop_of_length_le (by omega)]
    exact ⟨rfl, fun o ho => by cases ho⟩
  | n + 1, i, h => by
    have h1 : i < l.length := by omega
    obtain ⟨c, e1, e2, e3⟩ := big03 (recLen (hw _ (List.getElem_mem h1)).2.2)
    rw [moietylaw09_big_l1, if_pos (by simp; omega), idx_lt h1, wr1 (by omega)]
    simp only [Option.bind_some]
    rw [e1]
    by_cases hk : decide ((100 : Int) < (l[i].Key.size : Int)) = true
    · left
      rw [hk]; simp [gd]
    · have hk' : decide ((100 : Int) < (l[i].Key.size : Int)) = false := by simpa using hk
      rw [hk']
      simp only [Bool.not_false, gd_t, Option.bind_some, Bool.false_or]
      rcases e2 with rfl | rfl
      · simp only [Int.lt_irrefl, decide_false, Bool.false_eq_true, if_false]
        rcases big_loop hl hw n (i + 1) (by omega) with h2 | ⟨h2, h3⟩
        · exact .inl h2
        · right
          refine ⟨h2, fun o ho => ?_⟩
          rw [List.drop_eq_getElem_cons h1] at ho
          rcases List.mem_cons.1 ho with rfl | ho
          · exact e3 rfl
          · exact h3 o ho
      · left; rfl
theorem big_eq {l : List moietylaw09_Op} (hw : ∀ o ∈ l, wf_moietylaw09_Op o) : moietylaw09_big l = some true ∨ (moietylaw09_big l = some false ∧ l.length ≤ 300 ∧ ∀ o ∈ l, o.Rec.List.length ≤ 100) := by
  unfold moietylaw09_big
  by_cases h : (300 : Int) < l.length
  · rw [if_pos (by simpa using h)]; exact .inl rfl
  · rw [if_neg (by simpa using h), show (Int.toNat ((l.length : Int) - (0 : Int)) + 1) = l.length + 1 by omega]
    have := big_loop (l := l) (by omega) hw l.length 0 (by omega)
    rw [show ((0 : Nat) : Int) = 0 from rfl] at this
    rcases this with h1 | ⟨h1, h2⟩
    · left; rw [h1]; rfl
    · right; rw [h1]; exact ⟨rfl, by omega, h2⟩
theorem speaks9 : moietylaw09_speaks = some true := by kernel_rfl
theorem does_loop {l : List moietylaw09_Op} (hl : l.length ≤ 300) (hw : ∀ o ∈ l, wf_moietylaw09_Op o) (hx : ∀ o ∈ l, o.Rec.List.length ≤ 100) : ∀ (n i : Nat) (s : shelf_Shelf) (t : moietyref09_Shelf), i + n = l.length → Rel s t i → moietylaw09_ShelfDoes_l1 l (n + 1) s t (i : Int) = some (.inr ())
  | 0, i, s, t, h, hr => by
    rw [moietylaw09_ShelfDoes_l1, if_neg (by simp; omega)]
  | n + 1, i, s, t, h, hr => by
    have h1 : i < l.length := by omega
    have hm := List.getElem_mem h1
    obtain ⟨s', t', e, hr'⟩ := do_ok hr (by omega) (recOk_of (hw _ hm).2.2 (hx _ hm)) (hx _ hm)
    rw [moietylaw09_ShelfDoes_l1, if_pos (by simp; omega), idx_lt h1, wr1 (by omega)]
    simp only [Option.bind_some]
    rw [e]
    simp only [Option.bind_some]
    rw [sget_eq hr', rget_eq hr' (by omega), is_ok hr' (by omega)]
    simp only [Option.bind_some, Bool.not_true, Bool.not_false, gd_t, Bool.false_or, bne_self_eq_false, Bool.or_false]
    have hz : RecOk zrec := ⟨by decide, by decide, fun e he => by cases he⟩
    have hg : RecOk (getR (lk l[i].Key (pl t'))).1 := by
      cases hq : lk l[i].Key (pl t') with
      | none => exact hz
      | some r =>
        rcases at_key (k := l[i].Key) default hr'.srt with ⟨p, a1, a2, a3, _⟩ | ⟨_, a2, _⟩
        · rw [hq] at a3
          obtain rfl := Option.some.inj a3
          exact (hr'.ok p (List.mem_of_getElem? a1)).1
        · rw [hq] at a2; cases a2
    have h10 : ((1 : Int) == 0) = false := rfl
    rw [h10]
    simp only [Bool.not_false, gd_t]
    rw [rsame_rec hg hg, sameR_refl]
    simp only [Option.bind_some, Bool.not_true, Bool.false_eq_true, if_false]
    exact does_loop hl hw hx n (i + 1) s' t' (by omega) hr'
/-- **ShelfDoes.** -/
theorem ShelfDoes_true (a0 : Int) (a1 : List moietylaw09_Op) (w0 : (IntKind.i64).min ≤ a0 ∧ a0 ≤ (IntKind.i64).max) (w1 : a1.length ≤ maxLen ∧ ∀ e0 ∈ a1, wf_moietylaw09_Op e0) : moietylaw09_ShelfDoes a0 a1 = some true := by
  unfold moietylaw09_ShelfDoes
  rw [speaks9]
  simp only [Option.bind_some, Bool.not_true, Bool.false_eq_true, if_false]
  rcases big_eq w1.2 with h | ⟨h, h1, h2⟩
  · rw [h]; rfl
  · rw [h]
    simp only [Option.bind_some, Bool.false_eq_true, if_false]
    have hloop : ∀ r : Int, moietylaw09_ShelfDoes_l1 a1 (Int.toNat ((a1.length : Int) - (0 : Int)) + 1) { top := .nil, room := r } { L := [], Room := r } 0 = some (.inr ()) := fun r => by
      have := does_loop h1 w1.2 h2 a1.length 0 _ _ (by omega) (rel_new r)
      rw [show ((0 : Nat) : Int) = 0 from rfl] at this
      rw [show (Int.toNat ((a1.length : Int) - (0 : Int)) + 1) = a1.length + 1 by omega, this]
    unfold shelf_New
    by_cases hr : a0 < 1 ∨ 4096 < a0
    · rw [if_pos (by simpa using hr)]
      have hq : (decide ((1 : Int) ≤ a0) && decide (a0 ≤ 4096)) = false := by simp; omega
      simp only [Option.bind_some, hq, shelf_Shelf_Room]
      simp only [hloop]
      rfl
    · rw [if_neg (by simpa using hr)]
      have hq : (decide ((1 : Int) ≤ a0) && decide (a0 ≤ 4096)) = true := by simp; omega
      simp only [Option.bind_some, hq, shelf_Shelf_Room]
      simp only [hloop]
      rfl
end Go.CL

/- ShelfStays. -/
set_option linter.unusedVariables false
set_option linter.unusedSimpArgs false
namespace Go.CL
open Go

theorem spoil_loop {r : ByteArray × api_Record × Bool} (hl : r.2.1.List.length < 1000000) : ∀ (n i : Nat) (x : api_Record), i + n = r.2.1.List.length → x.List.length = r.2.1.List.length → ∃ x', moietylaw09_ShelfStays_l2 r (n + 1) x (i : Int) = some x' ∧ x'.List.length = r.2.1.List.length
  | 0, i, x, h, hx => by
    rw [moietylaw09_ShelfStays_l2, if_neg (by simp; omega)]
    exact ⟨x, rfl, hx⟩
  | n + 1, i, x, h, hx => by
    have h1 : i < x.List.length := by omega
    rw [moietylaw09_ShelfStays_l2, if_pos (by simp; omega), idx_lt h1, wr1 (by omega)]
    simp only [Option.bind_some]
    exact spoil_loop hl n (i + 1) _ (by omega) (by simpa using hx)
def All2 (O : List shelf_Shelf) (W : List moietyref09_Shelf) : Prop := O.length = W.length ∧ ∀ (k : Nat) (s : shelf_Shelf) (t : moietyref09_Shelf), O[k]? = some s → W[k]? = some t → ∃ m, m < 1000000 ∧ Rel s t m
theorem All2.push {O : List shelf_Shelf} {W : List moietyref09_Shelf} {s : shelf_Shelf} {t : moietyref09_Shelf} {m : Nat} (h : All2 O W) (hm : m < 1000000) (hr : Rel s t m) : All2 (O ++ [s]) (W ++ [t]) := by
  refine ⟨by simp [h.1], fun k s' t' h1 h2 => ?_⟩
  have hl := h.1
  rw [List.getElem?_append] at h1 h2
  by_cases hk : k < O.length
  · rw [if_pos hk] at h1
    rw [if_pos (by omega)] at h2
    exact h.2 k s' t' h1 h2
  · rw [if_neg hk] at h1
    rw [if_neg (by omega)] at h2
    have e1 : k - O.length = 0 := by
      have := (List.getElem?_eq_some_iff.1 h1).1
      simp at this; omega
    have e2 : k - W.length = 0 := by omega
    rw [e1] at h1
    rw [e2] at h2
    simp at h1 h2
    subst h1; subst h2
    exact ⟨m, hm, hr⟩
theorem stays_loop {l : List moietylaw09_Op} (hl : l.length ≤ 300) (hw : ∀ o ∈ l, wf_moietylaw09_Op o) (hx : ∀ o ∈ l, o.Rec.List.length ≤ 100) : ∀ (n i : Nat) (s : shelf_Shelf) (t : moietyref09_Shelf) (O : List shelf_Shelf) (W : List moietyref09_Shelf), i + n = l.length → Rel s t i → All2 O W → O.length = i →
    ∃ O' W', moietylaw09_ShelfStays_l1 l (n + 1) s t O W (i : Int) = some (.inr (O', W')) ∧ All2 O' W' ∧ O'.length ≤ 300
  | 0, i, s, t, O, W, h, hr, ha, ho => by
    rw [moietylaw09_ShelfStays_l1, if_neg (by simp; omega)]
    exact ⟨O, W, rfl, ha, by omega⟩
  | n + 1, i, s, t, O, W, h, hr, ha, ho => by
    have h1 : i < l.length := by omega
    have hm := List.getElem_mem h1
    have hal := ha.1
    obtain ⟨s', t', e, hr'⟩ := do_ok hr (by omega) (recOk_of (hw _ hm).2.2 (hx _ hm)) (hx _ hm)
    obtain ⟨O', W', r1, r2, r3⟩ := stays_loop hl hw hx n (i + 1) s' t' (O ++ [s]) (W ++ [t]) (by omega) hr' (ha.push (by omega) hr) (by simp [ho])
    have htl := hr'.tl
    have hln := hr'.len
    rw [moietylaw09_ShelfStays_l1, if_pos (by simp; omega), idx_lt h1, wr1 (by omega)]
    simp only [Option.bind_some]
    rw [if_pos (by simp; omega), if_pos (by simp; omega), e]
    simp only [Option.bind_some]
    rw [at_eq hr'.sz (by omega) (by omega) (by omega) hr'.cl]
    simp only [Option.bind_some]
    have hlen : (atR (idx (toL s'.top) 0)).2.1.List.length < 1000000 := by
      cases hq : idx (toL s'.top) 0 with
      | none => exact (by decide : (0 : Nat) < 1000000)
      | some q =>
        have hmem : q ∈ toL s'.top := by
          unfold idx at hq
          split at hq
          · exact List.mem_of_getElem? hq
          · cases hq
        rw [hr'.top] at hmem
        have := (hr'.ok q hmem).2
        show q.2.List.length < 1000000
        omega
    obtain ⟨x', e2, e3⟩ := spoil_loop hlen (atR (idx (toL s'.top) 0)).2.1.List.length 0 (atR (idx (toL s'.top) 0)).2.1 (by omega) rfl
    rw [show ((0 : Nat) : Int) = 0 from rfl] at e2
    rw [show (Int.toNat (((atR (idx (toL s'.top) 0)).2.1.List.length : Int) - (0 : Int)) + 1) = (atR (idx (toL s'.top) 0)).2.1.List.length + 1 by omega, e2]
    simp only [Option.bind_some]
    rw [is_ok hr' (by omega)]
    have fin : ∀ b : Bool, (gd b (some (1 : Int))).bind (fun r30 => if (b && (r30 == (0 : Int))) = true then (some (.inl false) : Option ((Bool) ⊕ ((List shelf_Shelf) × (List moietyref09_Shelf)))) else some (.inr (O', W'))) = some (.inr (O', W')) := fun b => by cases b <;> rfl
    rw [r1]
    exact ⟨O', W', fin _, r2, r3⟩
theorem check_loop {O : List shelf_Shelf} {W : List moietyref09_Shelf} (ha : All2 O W) (hl : O.length ≤ 300) : ∀ (n i : Nat), i + n = O.length → moietylaw09_ShelfStays_l3 O W (n + 1) (i : Int) = some (.inr ())
  | 0, i, h => by rw [moietylaw09_ShelfStays_l3, if_neg (by simp; omega)]
  | n + 1, i, h => by
    have h1 : i < O.length := by omega
    have h2 : i < W.length := by have := ha.1; omega
    obtain ⟨m, hm, hr⟩ := ha.2 i _ _ (List.getElem?_eq_getElem h1) (List.getElem?_eq_getElem h2)
    rw [moietylaw09_ShelfStays_l3, if_pos (by simp; omega), idx_lt h1, idx_lt h2, wr1 (by omega)]
    simp only [Option.bind_some]
    rw [is_ok hr hm]
    simp only [Option.bind_some]
    rw [if_neg (by decide)]
    exact check_loop ha hl n (i + 1) (by omega)
/-- **ShelfStays.** -/
theorem ShelfStays_true (a0 : Int) (a1 : List moietylaw09_Op) (w0 : (IntKind.i64).min ≤ a0 ∧ a0 ≤ (IntKind.i64).max) (w1 : a1.length ≤ maxLen ∧ ∀ e0 ∈ a1, wf_moietylaw09_Op e0) : moietylaw09_ShelfStays a0 a1 = some true := by
  unfold moietylaw09_ShelfStays
  rw [speaks9]
  simp only [Option.bind_some, Bool.not_true, Bool.false_eq_true, if_false]
  rcases big_eq w1.2 with h | ⟨h, h1, h2⟩
  · rw [h]; rfl
  · rw [h]
    simp only [Option.bind_some, Bool.false_or]
    by_cases h40 : decide ((40 : Int) < (a1.length : Int)) = true
    · rw [if_pos h40]
    · rw [if_neg h40]
      have main : ∀ r : Int, ((moietylaw09_ShelfStays_l1 a1 (Int.toNat ((a1.length : Int) - (0 : Int)) + 1) { top := .nil, room := r } { L := [], Room := r } [] [] 0).bind fun z35 => match z35 with | .inl r => some r | .inr (y33, y34) => ((moietylaw09_ShelfStays_l3 y33 y34 (Int.toNat ((y33.length : Int) - (0 : Int)) + 1) (0 : Int)).bind fun z45 => match z45 with | .inl r => some r | .inr () => (some true))) = some true := fun r => by
        obtain ⟨O, W, e1, e2, e3⟩ := stays_loop h1 w1.2 h2 a1.length 0 _ _ [] [] (by omega) (rel_new r) ⟨rfl, fun k s t h => by simp at h⟩ rfl
        rw [show ((0 : Nat) : Int) = 0 from rfl] at e1
        rw [show (Int.toNat ((a1.length : Int) - (0 : Int)) + 1) = a1.length + 1 by omega, e1]
        simp only [Option.bind_some]
        have := check_loop e2 e3 O.length 0 (by omega)
        rw [show ((0 : Nat) : Int) = 0 from rfl] at this
        rw [show (Int.toNat ((O.length : Int) - (0 : Int)) + 1) = O.length + 1 by omega, this]
        rfl
      unfold shelf_New
      by_cases hr : a0 < 1 ∨ 4096 < a0
      · rw [if_pos (by simpa using hr)]
        simp only [Option.bind_some, shelf_Shelf_Room]
        exact main _
      · rw [if_neg (by simpa using hr)]
        simp only [Option.bind_some, shelf_Shelf_Room]
        exact main _
end Go.CL

set_option linter.unusedVariables false
set_option linter.unusedSimpArgs false
set_option maxRecDepth 100000
namespace Go.CL
open Go Go.RowKit Go.Proofs Go.ChangeShapes Go.WideShapes Go.ChangeAt
theorem Try_own : ownKnob Try.prog.godebug = none := by kernel_rfl
theorem Try_laid : laidOutB Try.prog = true := by kernel_rfl
theorem op_3 : Opn Try.prog 3 (Kd.int .i64) (fun x => ((IntKind.i64).min ≤ x ∧ x ≤ (IntKind.i64).max)) := opn_int Try.underlying3 (by kernel_rfl)
theorem op_4 : Opn Try.prog 4 Kd.bool (fun x => True) := opn_bool Try.underlying4 (by kernel_rfl)
theorem op_9 : Opn Try.prog 9 Kd.str (fun x => (x.size ≤ maxLen)) := opn_str Try.underlying9 (by kernel_rfl)
theorem op_2 : Opn Try.prog 2 (Kd.int .i64) (fun x => ((IntKind.i64).min ≤ x ∧ x ≤ (IntKind.i64).max)) := opn_int Try.underlying2 (by kernel_rfl)
theorem op_35 : Opn Try.prog 35 Kd.flt (fun x => (x < 2 ^ 64)) := opn_flt Try.underlying35 (by kernel_rfl)
theorem op_64 : Opn Try.prog 64 k_api_Item wf_api_Item := ⟨by kernel_rfl, fun hg h => by
  obtain ⟨hl, n, hf⟩ := opn_fields Try.underlying64 h
  obtain ⟨y0, h0⟩ := hf 0 _ rfl
  obtain ⟨v0, k0, w0⟩ := op_35.op hg h0
  obtain ⟨y1, h1⟩ := hf 1 _ rfl
  obtain ⟨v1, k1, w1⟩ := op_9.op hg h1
  refine ⟨⟨v0, v1⟩, ⟨hl.trans (by kernel_rfl), (List.forall_mem_cons.2 ⟨k0, (List.forall_mem_cons.2 ⟨k1, (fun _ h => by cases h)⟩)⟩)⟩, w0, w1⟩, fun h => fm_struct Try.underlying64 h⟩
theorem op_36 : Opn Try.prog 36 k_api_Item.sl (fun x => (x.length ≤ maxLen ∧ ∀ e0 ∈ x, (wf_api_Item e0))) := opn_sl Try.underlying36 (by kernel_rfl) op_64 (by decide)
theorem op_38 : Opn Try.prog 38 k_api_Record wf_api_Record := ⟨by kernel_rfl, fun hg h => by
  obtain ⟨hl, n, hf⟩ := opn_fields Try.underlying38 h
  obtain ⟨y0, h0⟩ := hf 0 _ rfl
  obtain ⟨v0, k0, w0⟩ := op_3.op hg h0
  obtain ⟨y1, h1⟩ := hf 1 _ rfl
  obtain ⟨v1, k1, w1⟩ := op_2.op hg h1
  obtain ⟨y2, h2⟩ := hf 2 _ rfl
  obtain ⟨v2, k2, w2⟩ := op_2.op hg h2
  obtain ⟨y3, h3⟩ := hf 3 _ rfl
  obtain ⟨v3, k3, w3⟩ := op_2.op hg h3
  obtain ⟨y4, h4⟩ := hf 4 _ rfl
  obtain ⟨v4, k4, w4⟩ := op_35.op hg h4
  obtain ⟨y5, h5⟩ := hf 5 _ rfl
  obtain ⟨v5, k5, w5⟩ := op_3.op hg h5
  obtain ⟨y6, h6⟩ := hf 6 _ rfl
  obtain ⟨v6, k6, w6⟩ := op_9.op hg h6
  obtain ⟨y7, h7⟩ := hf 7 _ rfl
  obtain ⟨v7, k7, w7⟩ := op_36.op hg h7
  refine ⟨⟨v0, v1, v2, v3, v4, v5, v6, v7⟩, ⟨hl.trans (by kernel_rfl), (List.forall_mem_cons.2 ⟨k0, (List.forall_mem_cons.2 ⟨k1, (List.forall_mem_cons.2 ⟨k2, (List.forall_mem_cons.2 ⟨k3, (List.forall_mem_cons.2 ⟨k4, (List.forall_mem_cons.2 ⟨k5, (List.forall_mem_cons.2 ⟨k6, (List.forall_mem_cons.2 ⟨k7, (fun _ h => by cases h)⟩)⟩)⟩)⟩)⟩)⟩)⟩)⟩)⟩, w0, w1, w2, w3, w4, w5, w6, w7⟩, fun h => fm_struct Try.underlying38 h⟩
theorem op_40 : Opn Try.prog 40 k_moietylaw09_Op wf_moietylaw09_Op := ⟨by kernel_rfl, fun hg h => by
  obtain ⟨hl, n, hf⟩ := opn_fields Try.underlying40 h
  obtain ⟨y0, h0⟩ := hf 0 _ rfl
  obtain ⟨v0, k0, w0⟩ := op_4.op hg h0
  obtain ⟨y1, h1⟩ := hf 1 _ rfl
  obtain ⟨v1, k1, w1⟩ := op_9.op hg h1
  obtain ⟨y2, h2⟩ := hf 2 _ rfl
  obtain ⟨v2, k2, w2⟩ := op_38.op hg h2
  refine ⟨⟨v0, v1, v2⟩, ⟨hl.trans (by kernel_rfl), (List.forall_mem_cons.2 ⟨k0, (List.forall_mem_cons.2 ⟨k1, (List.forall_mem_cons.2 ⟨k2, (fun _ h => by cases h)⟩)⟩)⟩)⟩, w0, w1, w2⟩, fun h => fm_struct Try.underlying40 h⟩
theorem op_22 : Opn Try.prog 22 k_moietylaw09_Op.sl (fun x => (x.length ≤ maxLen ∧ ∀ e0 ∈ x, (wf_moietylaw09_Op e0))) := opn_sl Try.underlying22 (by kernel_rfl) op_40 (by decide)
theorem ShelfStays_ret (os : Os) (started : os.Started) (H : Type) (enc : TypeId × Value → H) :
    ReturnsInHanded {} Try.checked os 6 .any (Go.Proofs.Ytlphnpmegolfmaa.Rows.shelfStaysSpec.pre6 enc Try.prog Try.f6 Go.Proofs.Ytlphnpmegolfmaa.Rows.shelfStaysRow.domain false) (Go.Proofs.Ytlphnpmegolfmaa.Rows.shelfStaysSpec.post enc Try.prog Try.f6 false true false false) := by
  refine returnsInHanded_of_change (C := Try.checked) Try_own started (by kernel_rfl) Try.func6
    (ChangeSpec.witness6 (enc := enc) (C := Try.checked) false ⟨#[], #[.int .i64 0, .slice none 0 0], []⟩ 8 (by kernel_rfl) (by kernel_rfl) (by kernel_rfl) (by kernel_rfl)) ?_
  intro W base args ds gs before hval0 hW hcnd _
  have hval : ∀ (j : Nat) t v, Try.f6.params[j]? = some t → args[j]? = some v → Value.okWide Try.prog W .any base t v := hval0
  have hW' := hW
  obtain ⟨p, q, hA0, hV, rfl, hfz, hnd⟩ := hW
  have hA : DataW.TrodAll enc Try.prog W 0 (fun _ => true) true Try.f6.params.toList args.toList ds p := hA0
  rw [Try.params6] at hA hval
  obtain ⟨v0, v1, d0, d1, p0, p1, rfl, rfl, rfl, h0, h1⟩ := trodAll_two hA
  obtain ⟨rfl, rfl⟩ := trodVars_none hV
  simp only [List.append_nil] at hW'
  have hg : GLok W (fun b _ => b < W.heap.size) := (glok_nil rfl W _)
  have hk0 := h0
  obtain ⟨a0, q0, w0⟩ := arg_of op_3 hg h0 (hval 0 3 v0 rfl rfl)
  have hk1 := h1
  obtain ⟨a1, q1, w1⟩ := arg_of op_22 hg h1 (hval 1 22 v1 rfl rfl)
  refine (moietylaw09_ShelfStays_ok a0 a1 (ShelfStays_true a0 a1 w0 w1) (GW W hg) [v0, v1] (argsOk_cons q0 (argsOk_cons q1 argsOk_nil))).mono fun e W' ⟨g', v, he, hw, hs, hq⟩ => ?_
  subst he; subst hw
  rw [pBool_iff.1 hq]
  have hbel := below_of hs
  have hlt : ∀ x ∈ (p0 ++ p1), x.block < W.heap.size := fun x hx => by simpa using hW'.lt x hx
  exact ⟨_, rfl, post_of_below (pv := []) hW' hbel (trodAll_mk1 (shut_bool Try.underlying4 true)) (trodAll_mk2 (Below.trod Try_laid (by kernel_rfl) (of_decide_eq_true (by kernel_rfl)) hk0 hbel (fun x hx => hlt x (by simp [hx]))) (Below.trod Try_laid (by kernel_rfl) (of_decide_eq_true (by kernel_rfl)) hk1 hbel (fun x hx => hlt x (by simp [hx])))) rfl⟩
theorem ShelfStays_holds : Go.Proofs.Ytlphnpmegolfmaa.Rows.ShelfStaysSaid :=
  OpenClaim.holds_of_wide 6 Try.f6 rfl rfl rfl rfl rfl rfl rfl ⟨rfl, rfl, rfl, rfl, rfl⟩ rfl rfl rfl rfl rfl (by kernel_rfl) Try.func6 (by kernel_rfl)
    (of_decide_eq_true (by kernel_rfl)) (by unfold Func.isWrapper; first | (rw [if_pos (by decide +kernel)]; kernel_rfl) | (rw [if_neg (by decide +kernel)]; exact ⟨rfl, rfl⟩))
    (fun os started H enc _ => ShelfStays_ret os started H enc)
end Go.CL
