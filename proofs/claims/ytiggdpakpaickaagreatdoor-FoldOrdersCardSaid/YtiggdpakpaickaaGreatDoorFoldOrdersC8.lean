/- A part of the proof of FoldOrders. -/
import Derived.Test.YtiggdpakpaickaaGreatDoorFoldOrdersC7
import Derived.Test.YtiggdpakpaickaaGreatDoorRows
import Derived.Test.YtiggdpakpaickaaGreatDoorCards
import Derived.Test.YtiggdpakpaickaaGreatDoorTie
import Derived.SevenTiedAt
set_option linter.unusedVariables false
set_option linter.unusedSimpArgs false
set_option maxRecDepth 100000
namespace Go.CL
open Go
def kv (p : Z9) : KV := (p.Key, p.Rec)
def pl (t : Zj) : List KV := t.L.map kv
theorem Zn7 (t : Zj) (i : Nat) : (pl t)[i]? = (t.L[i]?).map kv := by simp [pl]
theorem Zgf (t : Zj) : (pl t).length = t.L.length := by simp [pl]
theorem Zvr {t : Zj} {k : ByteArray} (hb : t.L.length < 1099511627776) : ∀ (n i : Nat), i + n = t.L.length →
   Zc7 t k (n + 1) (i : Int) = some ((i + rk k ((pl t).drop i) : Nat) : Int)
 | 0, i, h => by
   have hd : decide ((i : Int) < (t.L.length : Int)) = false := by simp; omega
   rw [Zc7, hd, List.drop_of_length_le (by rw [Zgf]; omega)]
   simp [gd, rk]
 | n + 1, i, h => by
   have hd : decide ((i : Int) < (t.L.length : Int)) = true := by simp; omega
   have hi : i < t.L.length := by omega
   have hi' : i < (pl t).length := by rw [Zgf]; exact hi
   rw [Zc7, hd, Zc8 hi, List.drop_eq_getElem_cons hi', wr1 (by omega)]
   have hg : (pl t)[i] = kv t.L[i] := by simp [pl]
   rw [hg]
   simp only [gd_t, Option.bind_some, Bool.true_and, rk]
   by_cases hk : sLt t.L[i].Key k = true
   · have hk' : sLt (kv t.L[i]).1 k = true := hk
     rw [if_pos hk, if_pos hk', Zvr hb n (i + 1) (by omega)]
     congr 2; omega
   · have hk' : ¬ sLt (kv t.L[i]).1 k = true := hk
     rw [if_neg hk, if_neg hk']; rfl
theorem Zs9 {t : Zj} {k : ByteArray} (hb : t.L.length < 1099511627776) : Zd9 t k = some (rk k (pl t) : Int) := by
 unfold Zd9
 have := Zvr (k := k) hb t.L.length 0 (by omega)
 rw [show ((0 : Nat) : Int) = 0 from rfl] at this
 rw [show (Int.toNat ((t.L.length : Int) - (0 : Int)) + 1) = t.L.length + 1 by omega, this]
 simp
structure Rel (s : Zo) (t : Zj) (n : Nat) : Prop where
 top : toL s.top = pl t
 sz : Szd s.top
 srt : Srt (pl t)
 len : t.L.length ≤ n
 room : s.room = t.Room
 ok : ∀ q ∈ pl t, Zh7 q.2 ∧ q.2.List.length ≤ 100
theorem Rel.cl {s : Zo} {t : Zj} {n : Nat} (h : Rel s t n) : ∀ q ∈ toL s.top, Cl q.2 := fun q hq => by
 rw [h.top] at hq
 have := (h.ok q hq).2
 unfold Cl; omega
theorem Rel.mono {s : Zo} {t : Zj} {n m : Nat} (h : Rel s t n) (hm : n ≤ m) : Rel s t m := ⟨h.top, h.sz, h.srt, Nat.le_trans h.len hm, h.room, h.ok⟩
theorem Rel.tl {s : Zo} {t : Zj} {n : Nat} (h : Rel s t n) : (toL s.top).length = t.L.length := by rw [h.top, Zgf]
theorem Z63 (r : Int) : Rel { top := .nil, room := r } { L := [], Room := r } 0 := ⟨rfl, trivial, List.Pairwise.nil, Nat.le_refl _, rfl, fun q h => by simp [pl] at h⟩
theorem Z6l {s : Zo} {t : Zj} {n : Nat} (h : Rel s t n) (hn : n < 1000000) (k : ByteArray) : Zgb t k = some (getR (lk k (pl t))) := by
 have hb := h.len
 unfold Zgb
 rw [Zs9 (by omega)]
 simp only [Option.bind_some]
 have hle := Ztq k (pl t)
 rw [Zgf] at hle
 by_cases hi : rk k (pl t) < t.L.length
 · have hd : decide (((rk k (pl t) : Nat) : Int) < (t.L.length : Int)) = true := by simp; omega
   rw [hd, Zc8 hi]
   simp only [gd_t, Option.bind_some, Bool.true_and]
   have hg : (pl t)[rk k (pl t)]? = some (kv t.L[rk k (pl t)]) := by rw [Zn7, List.getElem?_eq_getElem hi]; rfl
   rcases Zl0 default h.srt with ⟨p, a1, a2, a3, _, _⟩ | ⟨a1, a2, _, _⟩
   · rw [hg] at a1
     obtain rfl := Option.some.inj a1
     have : sEq (t.L[rk k (pl t)]).Key k = true := Zid.2 a2
     rw [if_pos this, a3]; rfl
   · have : sEq (t.L[rk k (pl t)]).Key k = false := Zep.2 (a1 _ hg)
     rw [if_neg (by simp [this]), a2]; rfl
 · have hd : decide (((rk k (pl t) : Nat) : Int) < (t.L.length : Int)) = false := by simp; omega
   rw [hd]
   simp only [gd_f, Option.bind_some, Bool.false_and, Bool.false_eq_true, if_false]
   rcases Zl0 (k := k) default h.srt with ⟨p, a1, _⟩ | ⟨_, a2, _, _⟩
   · have := (List.getElem?_eq_some_iff.1 a1).1
     rw [Zgf] at this; omega
   · rw [a2]; rfl
theorem Zr2 {s : Zo} {t : Zj} {n : Nat} (h : Rel s t n) (k : ByteArray) : Zfv s k = some (getR (lk k (pl t))) := by
 rw [Z8g (by rw [h.top]; exact h.srt) h.cl, h.top]
theorem Zu5 {s : Zo} {t : Zj} {n : Nat} (h : Rel s t n) : Zfs s = some (t.L.length : Int) := by
 unfold Zfs
 rw [Zjf h.sz, h.tl]; rfl
theorem Ztd (t : Zj) (i : Nat) : (t.L.take i).map kv = (pl t).take i := by simp [pl]
theorem Zta (t : Zj) (i : Nat) : (t.L.drop i).map kv = (pl t).drop i := by simp [pl]
theorem Zxu {s : Zo} {t : Zj} {n : Nat} (h : Rel s t n) (hn : n < 1000000) (k : ByteArray) : ∃ s' t' b, Zgl s k = some (s', b) ∧ Zga t k = some (t', b) ∧ Rel s' t' n ∧ (pl t' = pl t ∨ pl t' = delL k (pl t)) := by
 have hb := h.len
 have hle := Ztq k (pl t)
 rw [Zgf] at hle
 unfold Zgl Zga
 rw [Zr2 h, Zs9 (by omega)]
 simp only [Option.bind_some]
 rcases Zl0 default h.srt with ⟨p, a1, a2, a3, _, a5⟩ | ⟨a1, a2, _, a4⟩
 · have hi : rk k (pl t) < t.L.length := by
     have := (List.getElem?_eq_some_iff.1 a1).1
     rwa [Zgf] at this
   rw [a3]
   have hd : decide ((t.L.length : Int) ≤ ((rk k (pl t) : Nat) : Int)) = false := by simp; omega
   have hg : (pl t)[rk k (pl t)]? = some (kv t.L[rk k (pl t)]) := by rw [Zn7, List.getElem?_eq_getElem hi]; rfl
   rw [hg] at a1
   obtain rfl := Option.some.inj a1
   have he : sEq (t.L[rk k (pl t)]).Key k = true := Zid.2 a2
   rw [hd, Zc8 hi]
   obtain ⟨t1, c1, z1, l1⟩ := Z6f (k := k) h.sz (by rw [h.top]; exact h.srt) (by rw [h.tl]; omega)
   rw [c1]
   simp only [getR, Bool.not_true, Bool.false_eq_true, if_false, Option.bind_some, Bool.not_false, gd_t, he, Bool.or_false, Bool.or_self]
   rw [show (0 : Int) = ((0 : Nat) : Int) from rfl, Zmk (by omega) (by omega), wr1 (by omega), Zmk (by omega) (by omega)]
   simp only [Option.bind_some, List.nil_append, List.drop_zero, Nat.sub_zero, List.length_nil, Nat.zero_add]
   have ht : (List.take (t.L.length - (rk k (pl t) + 1)) (List.drop (rk k (pl t) + 1) t.L)) = List.drop (rk k (pl t) + 1) t.L := List.take_of_length_le (by simp)
   rw [ht, if_pos (by simp; omega), if_pos (by simp; omega)]
   have hpl : pl { L := List.take (rk k (pl t)) t.L ++ List.drop (rk k (pl t) + 1) t.L, Room := t.Room } = delL k (pl t) := by
     rw [a5, ← Ztd, ← Zta, ← List.map_append]; rfl
   refine ⟨_, _, true, rfl, rfl, ⟨?_, z1, ?_, ?_, h.room, ?_⟩, .inr hpl⟩
   · rw [hpl, l1, h.top]
   · rw [hpl]; exact Zzo h.srt
   · simp; omega
   · intro q hq
     rw [hpl] at hq
     exact h.ok q (Zr4 hq)
 · rw [a2]
   simp only [getR, Bool.not_false, if_true]
   by_cases hi : rk k (pl t) < t.L.length
   · have hd : decide ((t.L.length : Int) ≤ ((rk k (pl t) : Nat) : Int)) = false := by simp; omega
     have hg : (pl t)[rk k (pl t)]? = some (kv t.L[rk k (pl t)]) := by rw [Zn7, List.getElem?_eq_getElem hi]; rfl
     have he : sEq (t.L[rk k (pl t)]).Key k = false := Zep.2 (a1 _ hg)
     rw [hd, Zc8 hi]
     simp only [Bool.not_false, gd_t, Option.bind_some, he, Bool.false_or, if_true]
     exact ⟨s, t, false, rfl, rfl, h, .inl rfl⟩
   · have hd : decide ((t.L.length : Int) ≤ ((rk k (pl t) : Nat) : Int)) = true := by simp; omega
     rw [hd]
     simp only [Bool.not_true, gd_f, Option.bind_some, Bool.true_or, if_true]
     exact ⟨s, t, false, rfl, rfl, h, .inl rfl⟩
theorem Zvq (k : ByteArray) : sEq k (⟨#[]⟩ : ByteArray) = decide ((k.size : Int) < 1) := by
 by_cases h : k = ⟨#[]⟩
 · subst h; rw [Ze7]; decide
 · rw [Zep.2 h]
   have : k.size ≠ 0 := fun e => h (by
     apply ByteArray.ext
     exact Array.size_eq_zero_iff.1 e)
   simp; omega
theorem Zs8 {s : Zo} {t : Zj} {n : Nat} (h : Rel s t n) (hn : n < 1000000) (k : ByteArray) {x : Ze} (hx : Zh7 x) (hx2 : x.List.length ≤ 100) :
   ∃ s' t' c, Zd7 s k x = some (s', c) ∧ Zem t k x = some (t', c) ∧ Rel s' t' (n + 1) ∧ (pl t' = pl t ∨ (pl t' = insL k x (pl t) ∧ Zeg x = some 0 ∧ ¬ (k.size : Int) < 1 ∧ ¬ (24 : Int) < (k.size : Int))) := by
 have hb := h.len
 have hle := Ztq k (pl t)
 rw [Zgf] at hle
 obtain ⟨c, hc1, hc2⟩ := Zl3 hx
 unfold Zd7 Zem
 rw [hc1, hc2, Zr2 h, Zs9 (by omega), Zu5 h, Zpo (by unfold Cl; omega), Zvq, h.room]
 by_cases h1 : (decide ((k.size : Int) < 1) || decide ((24 : Int) < (k.size : Int))) = true
 · rw [if_pos h1, if_pos h1]
   exact ⟨s, t, 1, rfl, rfl, h.mono (by omega), .inl rfl⟩
 · rw [if_neg h1, if_neg h1]
   simp only [Option.bind_some]
   by_cases h2 : (c != 0) = true
   · rw [if_pos h2, if_pos h2]
     exact ⟨s, t, c, rfl, rfl, h.mono (by omega), .inl rfl⟩
   · rw [if_neg h2, if_neg h2]
     obtain ⟨t1, e1, z1, l1⟩ := Zzm (k := k) (x := x) h.sz (by rw [h.top]; exact h.srt) (by rw [h.tl]; omega)
     rw [e1]
     have h20 : c = 0 := by simpa using h2
     have h11 : ¬ (k.size : Int) < 1 := fun h' => h1 (by simp [h'])
     have h12 : ¬ (24 : Int) < (k.size : Int) := fun h' => h1 (by simp [h'])
     have hmk : ∀ L' : List Z9, L'.map kv = insL k x (pl t) → Rel { top := t1, room := t.Room } { L := L', Room := t.Room } (n + 1) ∧ (pl { L := L', Room := t.Room } = pl t ∨ (pl { L := L', Room := t.Room } = insL k x (pl t) ∧ some c = some (0 : Int) ∧ ¬ (k.size : Int) < 1 ∧ ¬ (24 : Int) < (k.size : Int))) := fun L' hL => by
       have hpl : pl { L := L', Room := t.Room } = insL k x (pl t) := hL
       refine ⟨⟨by rw [hpl, l1, h.top], z1, by rw [hpl]; exact Zzz h.srt, ?_, rfl, ?_⟩, .inr ⟨hpl, by rw [h20], h11, h12⟩⟩
       · have := Znx k x (pl t)
         rw [← hL, Zgf] at this
         simp at this
         show L'.length ≤ n + 1
         omega
       · intro q hq
         rw [hpl] at hq
         rcases Zr7 hq with rfl | hq
         · exact ⟨hx, hx2⟩
         · exact h.ok q hq
     rcases Zl0 x h.srt with ⟨p, a1, a2, a3, a4, _⟩ | ⟨a1, a2, a3, _⟩
     · have hi : rk k (pl t) < t.L.length := by
         have := (List.getElem?_eq_some_iff.1 a1).1
         rwa [Zgf] at this
       have hd : decide (((rk k (pl t) : Nat) : Int) < (t.L.length : Int)) = true := by simp; omega
       have hg : (pl t)[rk k (pl t)]? = some (kv t.L[rk k (pl t)]) := by rw [Zn7, List.getElem?_eq_getElem hi]; rfl
       rw [hg] at a1
       obtain rfl := Option.some.inj a1
       have he : sEq (t.L[rk k (pl t)]).Key k = true := Zid.2 a2
       rw [a3, hd, Zc8 hi]
       simp only [getR, Bool.not_true, Bool.false_and, Bool.false_eq_true, if_false, gd_f, gd_t, Option.bind_some, he, Bool.and_self, Bool.true_and, if_true]
       rw [show (0 : Int) = ((0 : Nat) : Int) from rfl, Zmk (by omega) (by omega), wr1 (by omega)]
       simp only [Option.bind_some, List.nil_append, List.drop_zero, Nat.sub_zero, List.length_nil, Nat.zero_add, Zeo]
       rw [if_pos (by simp; omega), if_pos (by simp; omega), Zmk (by omega) (by omega)]
       have ht : (List.take (t.L.length - (rk k (pl t) + 1)) (List.drop (rk k (pl t) + 1) t.L)) = List.drop (rk k (pl t) + 1) t.L := List.take_of_length_le (by simp)
       simp only [Option.bind_some, ht, List.nil_append]
       rw [if_pos (by simp; omega)]
       refine ⟨_, _, 0, rfl, rfl, hmk _ ?_⟩
       rw [a4]; simp [Ztd, Zta, kv, pl]
     · rw [a2]
       simp only [getR, Bool.not_false, gd_t, Option.bind_some, Bool.true_and]
       have hne : (decide (((rk k (pl t) : Nat) : Int) < (t.L.length : Int)) && sEq (((gd (decide (((rk k (pl t) : Nat) : Int) < (t.L.length : Int))) (idx t.L ((rk k (pl t) : Nat) : Int))).getD default).Key) k) = false := by
         by_cases hi : rk k (pl t) < t.L.length
         · have hg : (pl t)[rk k (pl t)]? = some (kv t.L[rk k (pl t)]) := by rw [Zn7, List.getElem?_eq_getElem hi]; rfl
           have he : sEq (t.L[rk k (pl t)]).Key k = false := Zep.2 (a1 _ hg)
           have hd : decide (((rk k (pl t) : Nat) : Int) < (t.L.length : Int)) = true := by simp; omega
           rw [hd, Zc8 hi]
           simp [gd, he]
         · have hd : decide (((rk k (pl t) : Nat) : Int) < (t.L.length : Int)) = false := by simp; omega
           rw [hd]; rfl
       have hex : ∃ e, gd (decide (((rk k (pl t) : Nat) : Int) < (t.L.length : Int))) (idx t.L ((rk k (pl t) : Nat) : Int)) = some e := by
         by_cases hi : rk k (pl t) < t.L.length
         · rw [Zc8 hi]
           cases decide (((rk k (pl t) : Nat) : Int) < (t.L.length : Int)) <;> exact ⟨_, rfl⟩
         · have hd : decide (((rk k (pl t) : Nat) : Int) < (t.L.length : Int)) = false := by simp; omega
           rw [hd]; exact ⟨_, rfl⟩
       obtain ⟨e, hee⟩ := hex
       rw [hee] at hne ⊢
       simp only [Option.getD_some] at hne
       simp only [Option.bind_some, hne, Bool.not_false, Bool.true_and]
       by_cases h5 : decide (t.Room ≤ (t.L.length : Int)) = true
       · rw [if_pos h5, if_pos h5]
         exact ⟨s, t, 8, rfl, rfl, h.mono (by omega), .inl rfl⟩
       · rw [if_neg h5, if_neg h5]
         rw [show (0 : Int) = ((0 : Nat) : Int) from rfl, Zmk (by omega) (by omega)]
         simp only [Option.bind_some, List.nil_append, List.drop_zero, Nat.sub_zero, List.length_nil, Nat.zero_add, Zeo, Bool.false_eq_true, if_false]
         rw [if_pos (by simp; omega), if_pos (by simp; omega), Zmk (by omega) (by omega)]
         have ht : (List.take (t.L.length - rk k (pl t)) (List.drop (rk k (pl t)) t.L)) = List.drop (rk k (pl t)) t.L := List.take_of_length_le (by simp)
         simp only [Option.bind_some, ht, List.nil_append]
         rw [if_pos (by simp; omega)]
         refine ⟨_, _, 0, rfl, rfl, hmk _ ?_⟩
         rw [a3]; simp [Ztd, Zta, kv, pl]
theorem Zw4 : ∀ l : List Zl, eqL l l = true
 | [] => rfl
 | x :: l => by simp [eqL, eqI, Ze7, Zw4 l]
theorem Z0q (a : Ze) : Zk5 a a = true := by simp [Zk5, Ze7, Zw4]
theorem Zzy {s : Zo} {t : Zj} {m : Nat} (h : Rel s t m) (hm : m < 1000000) : ∀ (n i : Nat), i + n = t.L.length → Ze6 s t (n + 1) (i : Int) = some (.inr ())
 | 0, i, hi => by
   rw [Ze6, if_neg (by simp; omega)]
 | n + 1, i, hi => by
   have hb := h.len
   have h1 : i < t.L.length := by omega
   rw [Ze6, if_pos (by simp; omega), Zc8 h1, Z9i h.sz (by rw [h.tl]; omega) (by omega) (by omega) h.cl, wr1 (by omega), h.top, idxn, Zn7, List.getElem?_eq_getElem h1]
   have hq : kv t.L[i] ∈ pl t := by
     have : (pl t)[i]? = some (kv t.L[i]) := by rw [Zn7, List.getElem?_eq_getElem h1]; rfl
     exact List.mem_of_getElem? this
   have hr : Zh7 (t.L[i]).Rec := (h.ok _ hq).1
   simp only [Option.map_some, atR, kv, Option.bind_some, Bool.not_true, Ze7, Bool.or_self, Bool.not_false, gd_t]
   rw [Zrg hr hr, Z0q]
   simp only [Option.bind_some, Bool.not_true, Bool.false_or, Bool.false_eq_true, if_false]
   exact Zzy h hm n (i + 1) (by omega)
theorem Z90 {s : Zo} {t : Zj} {m : Nat} (h : Rel s t m) (hm : m < 1000000) : Zju s t = some 1 := by
 unfold Zju
 rw [Zu5 h]
 simp only [Option.bind_some, bne_self_eq_false, Bool.not_false, gd_t, Zj7, h.room, Bool.or_self, Bool.false_eq_true, if_false]
 have := Zzy h hm t.L.length 0 (by omega)
 rw [show ((0 : Nat) : Int) = 0 from rfl] at this
 rw [show (Int.toNat ((t.L.length : Int) - (0 : Int)) + 1) = t.L.length + 1 by omega, this]
 rfl
theorem Zo8 {β : Type} [Inhabited β] (c : Bool) (v : β) : gd c (some v) = some (if c then v else default) := by cases c <;> rfl
def Zt3 (a : Z3) : Prop := Zh7 a.Make ∧ a.X < W64
abbrev zrc : Ze := { Kind := 0, Num := 0, Low := 0, High := 0, Real := 0, Cap := 0, Text := ByteArray.empty, List := [] }
theorem Z3j : Zh7 zrc := ⟨by decide, by decide, fun e he => by cases he⟩
def actD (n x s m o1 k1 k2 : Bool) (c : Int) (a : Z3) : Int :=
 if (sEq a.Key ⟨#[]⟩ || decide ((24 : Int) < a.Key.size)) = true then 1
 else if (!(((n || a.N == 0) && (x || decide (keyf a.X = keyf 0))) && (s || sEq a.S ⟨#[]⟩) && (m || Zk5 a.Make zrc))) = true then 4
 else if decide ((if o1 = true then (64 : Int) else 16) < a.S.size) = true then 3
 else if (k2 && (decide (a.N < 0) || decide (2305843009213693952 < a.N))) = true then 1
 else if (!decide (a.X = Zcd a.X)) = true then 4
 else if k1 = true then c else 0
theorem Z6r (k : ByteArray) : (decide ((k.size : Int) < 1)) = sEq k ⟨#[]⟩ := by
 by_cases h : k = ⟨#[]⟩
 · subst h; rw [Ze7]; decide
 · rw [Zep.2 h]
   have : k.size ≠ 0 := fun e => h (by
     apply ByteArray.ext
     exact Array.size_eq_zero_iff.1 e)
   simp; omega
theorem Z2n {a : Z3} (ha : Zt3 a) {w has : ByteArray} {on c : Int} {n x s m : Bool} (hc : Zeg a.Make = some c) (h1 : Zn5 a.Kind = some ⟨w, on, has⟩) (hw : sEq w ⟨#[]⟩ = false)
   (fn : Zdf ⟨w, on, has⟩ 110 = some n) (fx : Zdf ⟨w, on, has⟩ 120 = some x) (fs : Zdf ⟨w, on, has⟩ 115 = some s) (fm : Zdf ⟨w, on, has⟩ 109 = some m) :
   Zhg a = some (actD n x s m (on == 1) (a.Kind == 1) (a.Kind == 10 || a.Kind == 11) c a) := by
 have h0 : (0 : Nat) < W64 := by decide
 unfold Zhg Zp3 Zpy
 rw [h1]
 simp only [Option.bind_some, hw, Bool.false_eq_true, if_false, fn, fx, fs, fm, Zo8]
 rw [Znn ha.2 h0, Z3w ha.1 Z3j, Zri ha.2, hc]
 simp only [Option.bind_some, Zo8]
 unfold actD
 generalize (sEq a.Key ⟨#[]⟩ || decide ((24 : Int) < a.Key.size)) = b1
 generalize (a.N == 0) = b2
 generalize decide (keyf a.X = keyf 0) = b3
 generalize sEq a.S ⟨#[]⟩ = b4
 generalize Zk5 a.Make zrc = b5
 generalize (a.Kind == 10 || a.Kind == 11) = b6
 generalize (a.Kind == 1) = b7
 generalize (decide (a.N < 0) || decide (2305843009213693952 < a.N)) = b8
 generalize decide (a.X = Zcd a.X) = b9
 have e1 : decide ((64 : Int) < a.S.size) = decide ((if true = true then (64 : Int) else 16) < a.S.size) := rfl
 cases b1
 · have hm : ∀ (z : Bool), ((if z = true then some (64 : Int) else some 16).bind fun r8 => (if decide (r8 < (a.S.size : Int)) = true then some (3 : Int) else if (b6 && b8) = true then some 1 else if (!b9) = true then some 4 else if b7 = true then some c else some 0)) = some (if decide ((if z = true then (64 : Int) else 16) < a.S.size) = true then 3 else if (b6 && b8) = true then 1 else if (!b9) = true then 4 else if b7 = true then c else 0) := by
     intro z
     cases z <;> simp only [Bool.false_eq_true, if_false, if_true, Option.bind_some] <;> (repeat' split) <;> rfl
   rw [hm]
   cases n <;> cases x <;> cases s <;> cases m <;> cases b2 <;> cases b3 <;> cases b4 <;> cases b5 <;> rfl
 · rfl
theorem Z04 {a : Z3} (ha : Zt3 a) {on c : Int} {n x s m : Bool} (hc : Zdl a.Make = some c) (hk : ¬ (a.Kind < 1 ∨ 21 < a.Kind)) (ro : Zen a.Kind = some on)
   (fn : Zd3 a.Kind 110 = some n) (fx : Zd3 a.Kind 120 = some x) (fs : Zd3 a.Kind 115 = some s) (fm : m = (a.Kind == 1)) :
   Zei a = some (actD n x s m (on == 1) (a.Kind == 1) (a.Kind == 10 || a.Kind == 11) c a) := by
 have h0 : (0 : Nat) < W64 := by decide
 unfold Zei
 rw [if_neg (by simpa using hk), fn, fx, fs, ro]
 simp only [Option.bind_some, Zo8, Z6r]
 rw [Zmq ha.2 h0, Zrg ha.1 Z3j, Zpq ha.2, hc]
 simp only [Option.bind_some, Zo8]
 unfold actD
 subst fm
 have hmid : ((on == 1 && decide ((64 : Int) < a.S.size)) || ((if (!(on == 1 && decide ((64 : Int) < a.S.size))) = true then on else default) != 1 && decide ((16 : Int) < a.S.size))) = decide ((if (on == 1) = true then (64 : Int) else 16) < a.S.size) := by
   by_cases ho : on = 1
   · subst ho
     by_cases h64 : (64 : Int) < a.S.size <;> simp [h64]
   · have hb1 : (on == 1) = false := by simpa using ho
     have hb2 : (on != 1) = true := by simpa using ho
     simp [hb1, hb2]
 rw [hmid, show (a.N != 0) = !(a.N == 0) from rfl, show (a.Kind != 1) = !(a.Kind == 1) from rfl]
 generalize decide ((if (on == 1) = true then (64 : Int) else 16) < a.S.size) = b10
 generalize (sEq a.Key ⟨#[]⟩ || decide ((24 : Int) < a.Key.size)) = b1
 generalize (a.N == 0) = b2
 generalize decide (keyf a.X = keyf 0) = b3
 generalize sEq a.S ⟨#[]⟩ = b4
 generalize Zk5 a.Make zrc = b5
 generalize (a.Kind == 10 || a.Kind == 11) = b6
 generalize (a.Kind == 1) = b7
 generalize (decide (a.N < 0) || decide (2305843009213693952 < a.N)) = b8
 generalize decide (a.X = Zcd a.X) = b9
 have htail : (if b10 = true then some (3 : Int) else if (b6 && b8) = true then some 1 else if (!b9) = true then some 4 else if b7 = true then some c else some 0) = some (if b10 = true then 3 else if (b6 && b8) = true then 1 else if (!b9) = true then 4 else if b7 = true then c else 0) := by
   (repeat' split) <;> rfl
 rw [htail]
 cases b1
 · cases n <;> cases x <;> cases s <;> cases b7 <;> cases b2 <;> cases b3 <;> cases b4 <;> cases b5 <;> rfl
 · rfl
theorem Z3h {n x s m o1 k1 k2 : Bool} {c : Int} {a : Z3} (h : actD n x s m o1 k1 k2 c a = 0) : (sEq a.Key ⟨#[]⟩ || decide ((24 : Int) < a.Key.size)) = false ∧ decide ((if o1 = true then (64 : Int) else 16) < a.S.size) = false ∧ (k2 && (decide (a.N < 0) || decide (2305843009213693952 < a.N))) = false ∧ decide (a.X = Zcd a.X) = true ∧ (k1 = true → c = 0) := by
 unfold actD at h
 revert h
 generalize (sEq a.Key ⟨#[]⟩ || decide ((24 : Int) < a.Key.size)) = b1
 generalize decide ((if o1 = true then (64 : Int) else 16) < a.S.size) = b3
 generalize (k2 && (decide (a.N < 0) || decide (2305843009213693952 < a.N))) = b4
 generalize decide (a.X = Zcd a.X) = b5
 generalize (!(((n || a.N == 0) && (x || decide (keyf a.X = keyf 0))) && (s || sEq a.S ⟨#[]⟩) && (m || Zk5 a.Make zrc))) = b2
 cases b1 <;> cases b2 <;> cases b3 <;> cases b4 <;> cases b5 <;> cases k1 <;> simp
theorem Zoi {a : Z3} (ha : Zt3 a) : ∃ c, Zhg a = some c ∧ Zei a = some c ∧ (c = 0 → 1 ≤ a.Kind ∧ a.Kind ≤ 21 ∧ a.X = Zcd a.X ∧ a.S.size ≤ 64 ∧ ((a.Kind = 10 ∨ a.Kind = 11) → 0 ≤ a.N ∧ a.N ≤ 2305843009213693952) ∧ (a.Kind = 1 → Zeg a.Make = some 0) ∧ (¬ (5 ≤ a.Kind ∧ a.Kind ≤ 6) → a.S.size ≤ 16) ∧ sEq a.Key ⟨#[]⟩ = false ∧ a.Key.size ≤ 24) := by
 by_cases hk : a.Kind < 1 ∨ 21 < a.Kind
 · refine ⟨5, ?_, ?_, fun h => by cases h⟩
   · unfold Zhg Zn5
     rw [if_pos (by simp; omega)]
     simp only [Option.bind_some]
     rw [if_pos (show sEq ByteArray.empty ⟨#[]⟩ = true by kernel_rfl)]
   · unfold Zei
     rw [if_pos (by simpa using hk)]
 · obtain ⟨c, hc1, hc2⟩ := Zl3 ha.1
   have fin : ∀ {w has : ByteArray} {on : Int} {n x s m : Bool}, Zn5 a.Kind = some ⟨w, on, has⟩ → sEq w ⟨#[]⟩ = false → Zdf ⟨w, on, has⟩ 110 = some n → Zdf ⟨w, on, has⟩ 120 = some x → Zdf ⟨w, on, has⟩ 115 = some s → Zdf ⟨w, on, has⟩ 109 = some m →
       Zen a.Kind = some on → Zd3 a.Kind 110 = some n → Zd3 a.Kind 120 = some x → Zd3 a.Kind 115 = some s → m = (a.Kind == 1) → ((on == 1) = true → 5 ≤ a.Kind ∧ a.Kind ≤ 6) →
       ∃ c, Zhg a = some c ∧ Zei a = some c ∧ (c = 0 → 1 ≤ a.Kind ∧ a.Kind ≤ 21 ∧ a.X = Zcd a.X ∧ a.S.size ≤ 64 ∧ ((a.Kind = 10 ∨ a.Kind = 11) → 0 ≤ a.N ∧ a.N ≤ 2305843009213693952) ∧ (a.Kind = 1 → Zeg a.Make = some 0) ∧ (¬ (5 ≤ a.Kind ∧ a.Kind ≤ 6) → a.S.size ≤ 16) ∧ sEq a.Key ⟨#[]⟩ = false ∧ a.Key.size ≤ 24) := by
     intro w has on n x s m h1 hw fn fx fs fm ro rn rx rs hm hon
     refine ⟨_, Z2n ha hc1 h1 hw fn fx fs fm, by rw [hm]; exact Z04 ha hc2 hk ro rn rx rs rfl, fun h0 => ?_⟩
     obtain ⟨g1, g3, g4, g5, g6⟩ := Z3h h0
     simp only [Bool.or_eq_false_iff, decide_eq_false_iff_not] at g1
     have g3' : ¬ (if (on == 1) = true then (64 : Int) else 16) < a.S.size := of_decide_eq_false g3
     refine ⟨by omega, by omega, of_decide_eq_true g5, ?_, fun h => ?_, fun h => ?_, fun h => ?_, g1.1, by omega⟩
     · split at g3' <;> omega
     · have h11 : (a.Kind == 10 || a.Kind == 11) = true := by simpa using h
       rw [h11] at g4
       simp only [Bool.true_and, Bool.or_eq_false_iff, decide_eq_false_iff_not] at g4
       omega
     · rw [hc1, g6 (by simp [h])]
     · rw [if_neg (fun h2 => h (hon h2))] at g3'
       omega
   have hk' : a.Kind = 1 ∨ a.Kind = 2 ∨ a.Kind = 3 ∨ a.Kind = 4 ∨ a.Kind = 5 ∨ a.Kind = 6 ∨ a.Kind = 7 ∨ a.Kind = 8 ∨ a.Kind = 9 ∨ a.Kind = 10 ∨ a.Kind = 11 ∨ a.Kind = 12 ∨ a.Kind = 13 ∨ a.Kind = 14 ∨ a.Kind = 15 ∨ a.Kind = 16 ∨ a.Kind = 17 ∨ a.Kind = 18 ∨ a.Kind = 19 ∨ a.Kind = 20 ∨ a.Kind = 21 := by omega
   rcases hk' with h | h | h | h | h | h | h | h | h | h | h | h | h | h | h | h | h | h | h | h | h <;> rw [h] at fin ⊢
   · exact fin (w := ⟨#[110, 101, 119]⟩) (on := 0) (has := ⟨#[109]⟩) (n := false) (x := false) (s := false) (m := true) (by kernel_rfl) (by kernel_rfl) (by kernel_rfl) (by kernel_rfl) (by kernel_rfl) (by kernel_rfl) (by kernel_rfl) (by kernel_rfl) (by kernel_rfl) (by kernel_rfl) (by decide) (by decide)
   · exact fin (w := ⟨#[100, 114, 111, 112]⟩) (on := 0) (has := ⟨#[]⟩) (n := false) (x := false) (s := false) (m := false) (by kernel_rfl) (by kernel_rfl) (by kernel_rfl) (by kernel_rfl) (by kernel_rfl) (by kernel_rfl) (by kernel_rfl) (by kernel_rfl) (by kernel_rfl) (by kernel_rfl) (by decide) (by decide)
   · exact fin (w := ⟨#[105, 115]⟩) (on := 0) (has := ⟨#[]⟩) (n := false) (x := false) (s := false) (m := false) (by kernel_rfl) (by kernel_rfl) (by kernel_rfl) (by kernel_rfl) (by kernel_rfl) (by kernel_rfl) (by kernel_rfl) (by kernel_rfl) (by kernel_rfl) (by kernel_rfl) (by decide) (by decide)
   · exact fin (w := ⟨#[108, 111, 111, 107]⟩) (on := 0) (has := ⟨#[]⟩) (n := false) (x := false) (s := false) (m := false) (by kernel_rfl) (by kernel_rfl) (by kernel_rfl) (by kernel_rfl) (by kernel_rfl) (by kernel_rfl) (by kernel_rfl) (by kernel_rfl) (by kernel_rfl) (by kernel_rfl) (by decide) (by decide)
   · exact fin (w := ⟨#[112, 117, 116]⟩) (on := 1) (has := ⟨#[115]⟩) (n := false) (x := false) (s := true) (m := false) (by kernel_rfl) (by kernel_rfl) (by kernel_rfl) (by kernel_rfl) (by kernel_rfl) (by kernel_rfl) (by kernel_rfl) (by kernel_rfl) (by kernel_rfl) (by kernel_rfl) (by decide) (by decide)
   · exact fin (w := ⟨#[115, 119, 97, 112]⟩) (on := 1) (has := ⟨#[115]⟩) (n := false) (x := false) (s := true) (m := false) (by kernel_rfl) (by kernel_rfl) (by kernel_rfl) (by kernel_rfl) (by kernel_rfl) (by kernel_rfl) (by kernel_rfl) (by kernel_rfl) (by kernel_rfl) (by kernel_rfl) (by decide) (by decide)
   · exact fin (w := ⟨#[97, 100, 100]⟩) (on := 2) (has := ⟨#[110]⟩) (n := true) (x := false) (s := false) (m := false) (by kernel_rfl) (by kernel_rfl) (by kernel_rfl) (by kernel_rfl) (by kernel_rfl) (by kernel_rfl) (by kernel_rfl) (by kernel_rfl) (by kernel_rfl) (by kernel_rfl) (by decide) (by decide)
   · exact fin (w := ⟨#[112, 108, 117, 115]⟩) (on := 3) (has := ⟨#[110]⟩) (n := true) (x := false) (s := false) (m := false) (by kernel_rfl) (by kernel_rfl) (by kernel_rfl) (by kernel_rfl) (by kernel_rfl) (by kernel_rfl) (by kernel_rfl) (by kernel_rfl) (by kernel_rfl) (by kernel_rfl) (by decide) (by decide)
   · exact fin (w := ⟨#[114, 101, 97, 99, 104]⟩) (on := 3) (has := ⟨#[110]⟩) (n := true) (x := false) (s := false) (m := false) (by kernel_rfl) (by kernel_rfl) (by kernel_rfl) (by kernel_rfl) (by kernel_rfl) (by kernel_rfl) (by kernel_rfl) (by kernel_rfl) (by kernel_rfl) (by kernel_rfl) (by decide) (by decide)
   · exact fin (w := ⟨#[105, 110]⟩) (on := 4) (has := ⟨#[110]⟩) (n := true) (x := false) (s := false) (m := false) (by kernel_rfl) (by kernel_rfl) (by kernel_rfl) (by kernel_rfl) (by kernel_rfl) (by kernel_rfl) (by kernel_rfl) (by kernel_rfl) (by kernel_rfl) (by kernel_rfl) (by decide) (by decide)
   · exact fin (w := ⟨#[111, 117, 116]⟩) (on := 4) (has := ⟨#[110]⟩) (n := true) (x := false) (s := false) (m := false) (by kernel_rfl) (by kernel_rfl) (by kernel_rfl) (by kernel_rfl) (by kernel_rfl) (by kernel_rfl) (by kernel_rfl) (by kernel_rfl) (by kernel_rfl) (by kernel_rfl) (by decide) (by decide)
   · exact fin (w := ⟨#[101, 110, 111, 117, 103, 104]⟩) (on := 4) (has := ⟨#[110]⟩) (n := true) (x := false) (s := false) (m := false) (by kernel_rfl) (by kernel_rfl) (by kernel_rfl) (by kernel_rfl) (by kernel_rfl) (by kernel_rfl) (by kernel_rfl) (by kernel_rfl) (by kernel_rfl) (by kernel_rfl) (by decide) (by decide)
   · exact fin (w := ⟨#[114, 97, 105, 115, 101]⟩) (on := 5) (has := ⟨#[120]⟩) (n := false) (x := true) (s := false) (m := false) (by kernel_rfl) (by kernel_rfl) (by kernel_rfl) (by kernel_rfl) (by kernel_rfl) (by kernel_rfl) (by kernel_rfl) (by kernel_rfl) (by kernel_rfl) (by kernel_rfl) (by decide) (by decide)
   · exact fin (w := ⟨#[108, 111, 119, 101, 114]⟩) (on := 6) (has := ⟨#[120]⟩) (n := false) (x := true) (s := false) (m := false) (by kernel_rfl) (by kernel_rfl) (by kernel_rfl) (by kernel_rfl) (by kernel_rfl) (by kernel_rfl) (by kernel_rfl) (by kernel_rfl) (by kernel_rfl) (by kernel_rfl) (by decide) (by decide)
   · exact fin (w := ⟨#[115, 104, 105, 102, 116]⟩) (on := 7) (has := ⟨#[120]⟩) (n := false) (x := true) (s := false) (m := false) (by kernel_rfl) (by kernel_rfl) (by kernel_rfl) (by kernel_rfl) (by kernel_rfl) (by kernel_rfl) (by kernel_rfl) (by kernel_rfl) (by kernel_rfl) (by kernel_rfl) (by decide) (by decide)
   · exact fin (w := ⟨#[115, 99, 97, 108, 101]⟩) (on := 7) (has := ⟨#[120]⟩) (n := false) (x := true) (s := false) (m := false) (by kernel_rfl) (by kernel_rfl) (by kernel_rfl) (by kernel_rfl) (by kernel_rfl) (by kernel_rfl) (by kernel_rfl) (by kernel_rfl) (by kernel_rfl) (by kernel_rfl) (by decide) (by decide)
   · exact fin (w := ⟨#[102, 105, 120]⟩) (on := 7) (has := ⟨#[120]⟩) (n := false) (x := true) (s := false) (m := false) (by kernel_rfl) (by kernel_rfl) (by kernel_rfl) (by kernel_rfl) (by kernel_rfl) (by kernel_rfl) (by kernel_rfl) (by kernel_rfl) (by kernel_rfl) (by kernel_rfl) (by decide) (by decide)
   · exact fin (w := ⟨#[106, 111, 105, 110]⟩) (on := 8) (has := ⟨#[115]⟩) (n := false) (x := false) (s := true) (m := false) (by kernel_rfl) (by kernel_rfl) (by kernel_rfl) (by kernel_rfl) (by kernel_rfl) (by kernel_rfl) (by kernel_rfl) (by kernel_rfl) (by kernel_rfl) (by kernel_rfl) (by decide) (by decide)
   · exact fin (w := ⟨#[108, 101, 97, 118, 101]⟩) (on := 8) (has := ⟨#[115]⟩) (n := false) (x := false) (s := true) (m := false) (by kernel_rfl) (by kernel_rfl) (by kernel_rfl) (by kernel_rfl) (by kernel_rfl) (by kernel_rfl) (by kernel_rfl) (by kernel_rfl) (by kernel_rfl) (by kernel_rfl) (by decide) (by decide)
   · exact fin (w := ⟨#[104, 97, 115]⟩) (on := 8) (has := ⟨#[115]⟩) (n := false) (x := false) (s := true) (m := false) (by kernel_rfl) (by kernel_rfl) (by kernel_rfl) (by kernel_rfl) (by kernel_rfl) (by kernel_rfl) (by kernel_rfl) (by kernel_rfl) (by kernel_rfl) (by kernel_rfl) (by decide) (by decide)
   · exact fin (w := ⟨#[111, 102, 102, 101, 114]⟩) (on := 9) (has := ⟨#[120, 115]⟩) (n := false) (x := true) (s := true) (m := false) (by kernel_rfl) (by kernel_rfl) (by kernel_rfl) (by kernel_rfl) (by kernel_rfl) (by kernel_rfl) (by kernel_rfl) (by kernel_rfl) (by kernel_rfl) (by kernel_rfl) (by decide) (by decide)
abbrev Zdk := List Zl
def NS (l : Zdk) : Prop := l.Pairwise fun p q => sLt p.Name q.Name = true
def pre (f : Zl → Bool) : Zdk → Nat
 | [] => 0
 | e :: r => if f e then pre f r + 1 else 0
theorem Zny (f : Zl → Bool) : ∀ l : Zdk, pre f l ≤ l.length
 | [] => Nat.le_refl _
 | e :: r => by
   have := Zny f r
   simp only [pre]
   split <;> simp <;> omega
theorem Zw3 {f : Zl → Bool} : ∀ {l : Zdk} {k : Nat} (h : k < pre f l), ∃ e, l[k]? = some e ∧ f e = true
 | [], k, h => by simp [pre] at h
 | e :: r, k, h => by
   simp only [pre] at h
   split at h
   · rename_i hf
     cases k with
     | zero => exact ⟨e, rfl, hf⟩
     | succ k => exact Zw3 (l := r) (by omega)
   · omega
theorem Ztu {f : Zl → Bool} : ∀ {l : Zdk} {e : Zl}, l[pre f l]? = some e → f e = false
 | [], e, h => by simp [pre] at h
 | x :: r, e, h => by
   simp only [pre] at h
   split at h
   · exact Ztu (l := r) (by simpa using h)
   · rename_i hf
     simp at h; subst h; simpa using hf
theorem Zs6 {s : ByteArray} {l : Zdk} (hs : NS l) {k : Nat} (hk : k < l.length) : sLt (l[k]).Name s = decide (k < pre (fun e => sLt e.Name s) l) := by
 by_cases h : k < pre (fun e => sLt e.Name s) l
 · obtain ⟨e, he, hf⟩ := Zw3 h
   rw [List.getElem?_eq_getElem hk] at he
   obtain rfl := Option.some.inj he
   simp only [h, decide_true]; exact hf
 · simp only [h, decide_false]
   have hp : pre (fun e => sLt e.Name s) l < l.length := by omega
   have h1 := Ztu (List.getElem?_eq_getElem hp)
   rcases Nat.lt_or_eq_of_le (Nat.le_of_not_lt h) with hlt | heq
   · have h2 := List.pairwise_iff_getElem.1 hs _ _ hp hk hlt
     cases h3 : sLt (l[k]).Name s
     · rfl
     · rw [Zgg h2 h3] at h1; cases h1
   · have : l[k] = l[pre (fun e => sLt e.Name s) l] := by congr 1; exact heq.symm
     rw [this]; exact h1
theorem half {i j : Nat} (h : i + j < 4611686018427387904) : IntKind.i64.wrap (Int.fdiv (IntKind.u64.wrap (IntKind.i64.wrap ((i : Int) + (j : Int)))) (2 ^ 1)) = (((i + j) / 2 : Nat) : Int) := by
 rw [wr (x := (i : Int) + j) (by omega) (by omega), wru (by omega) (by omega)]
 have : Int.fdiv ((i : Int) + j) (2 ^ 1) = (((i + j) / 2 : Nat) : Int) := by
   rw [Int.fdiv_eq_ediv_of_nonneg _ (by decide)]; omega
 rw [this, wr (by omega) (by omega)]
theorem Z4x (e : Zl) (s : ByteArray) : ∃ c : Int, Zjh e s = some c ∧ decide (c < 0) = sLt e.Name s ∧ (c == 0) = sEq e.Name s := by
 unfold Zjh
 by_cases h : sLt e.Name s = true
 · exact ⟨-1, by rw [if_pos h], by rw [h]; rfl, by rw [Zep.2 (Zl1 h)]; rfl⟩
 · have h' : sLt e.Name s = false := by simpa using h
   by_cases h2 : e.Name = s
   · exact ⟨0, by rw [if_neg h, h', Zid.2 h2]; rfl, by rw [h']; rfl, by rw [Zid.2 h2]; rfl⟩
   · exact ⟨1, by rw [if_neg h, h', Zep.2 h2]; rfl, by rw [h']; rfl, by rw [Zep.2 h2]; rfl⟩
theorem Zut {l : Zdk} {s : ByteArray} (hs : NS l) (hl : l.length < 2305843009213693952) : ∀ (n i j : Nat), j - i < n → i ≤ pre (fun e => sLt e.Name s) l → pre (fun e => sLt e.Name s) l ≤ j → j ≤ l.length →
   Zbo l s (fun y0 y1 => Zjh y0 y1) n (i : Int) (j : Int) = some ((pre (fun e => sLt e.Name s) l : Nat) : Int)
 | 0, i, j, h, _, _, _ => by omega
 | n + 1, i, j, h, h1, h2, h3 => by
   rw [Zbo]
   by_cases hij : i < j
   · rw [if_pos (by simpa using hij), half (by omega)]
     have hm : (i + j) / 2 < l.length := by omega
     rw [Zc8 hm]
     obtain ⟨c, hc, hc1, _⟩ := Z4x l[(i + j) / 2] s
     simp only [Option.bind_some, hc]
     rw [hc1, Zs6 hs hm]
     unfold Zcg
     by_cases hp : (i + j) / 2 < pre (fun e => sLt e.Name s) l
     · rw [if_pos (by simpa using hp), wr1 (by omega)]
       exact Zut hs hl n ((i + j) / 2 + 1) j (by omega) (by omega) h2 h3
     · rw [if_neg (by simpa using hp)]
       exact Zut hs hl n i ((i + j) / 2) (by omega) h1 (by omega) (by omega)
   · rw [if_neg (by simpa using hij)]
     congr 2; omega
def isAt (s : ByteArray) (l : Zdk) : Bool := match l[pre (fun e => sLt e.Name s) l]? with
 | some e => sEq e.Name s
 | none => false
theorem Znl {l : Zdk} {s : ByteArray} (hs : NS l) (hl : l.length < 2305843009213693952) : Zkv l s = some (((pre (fun e => sLt e.Name s) l : Nat) : Int), isAt s l) := by
 unfold Zkv Zcz
 have := Zut (s := s) hs hl (l.length + 1) 0 l.length (by omega) (Nat.zero_le _) (Zny _ _) (Nat.le_refl _)
 rw [show ((0 : Nat) : Int) = 0 from rfl] at this
 rw [show (Int.toNat ((l.length : Int) - (0 : Int)) + 1) = l.length + 1 by omega, this]
 simp only [Option.bind_some]
 unfold isAt
 by_cases hp : pre (fun e => sLt e.Name s) l < l.length
 · have hd : decide (((pre (fun e => sLt e.Name s) l : Nat) : Int) < (l.length : Int)) = true := by simpa using hp
   rw [hd, Zc8 hp, List.getElem?_eq_getElem hp]
   obtain ⟨c, hc, _, hc2⟩ := Z4x l[pre (fun e => sLt e.Name s) l] s
   simp only [gd_t, Option.bind_some, hc, Bool.true_and, hc2]
 · have hd : decide (((pre (fun e => sLt e.Name s) l : Nat) : Int) < (l.length : Int)) = false := by simpa using hp
   rw [hd, List.getElem?_eq_none (by omega)]
   rfl
def goL (f g : Zl → Bool) (x : Zl) : Zdk → Bool → Zdk × Bool
 | [], d => ([], d)
 | e :: r, d => if (!d && !f e) = true then ((if g e then [] else [x]) ++ e :: (goL f g x r true).1, (goL f g x r true).2) else (e :: (goL f g x r d).1, (goL f g x r d).2)
theorem Z5c (f g : Zl → Bool) (x : Zl) : ∀ l : Zdk, goL f g x l true = (l, true)
 | [] => rfl
 | e :: r => by simp [goL, Z5c f g x r]
theorem Z4y (f g : Zl → Bool) (x : Zl) : ∀ l : Zdk, goL f g x l false = match l[pre f l]? with
   | some e => (l.take (pre f l) ++ (if g e then [] else [x]) ++ l.drop (pre f l), true)
   | none => (l, false)
 | [] => rfl
 | e :: r => by
   simp only [goL, pre]
   by_cases hf : f e = true
   · simp only [hf, Bool.not_true, Bool.and_false, Bool.false_eq_true, if_false, if_true]
     rw [Z4y f g x r]
     simp only [List.getElem?_cons_succ]
     cases r[pre f r]? <;> simp
   · have hf' : f e = false := by simpa using hf
     simp only [hf', Bool.not_false, Bool.and_self, if_true, Bool.false_eq_true, if_false, Z5c, List.getElem?_cons_zero, List.take_zero, List.nil_append, List.drop_zero]
def Zdu (x : Zl) (nm : Bool) (e : Zl) : Bool := if nm then sLt e.Name x.Name else Zdh e x
def Zlj (x : Zl) (nm : Bool) (e : Zl) : Bool := sEq e.Name x.Name && (nm || decide (keyf e.Score = keyf x.Score))
theorem Z2l {l : Zdk} {x : Zl} {nm : Bool} (hx : x.Score < W64) (hsc : ∀ e ∈ l, e.Score < W64) {n i : Nat} {out : Zdk} {d : Bool} (h1 : i < l.length) :
   Zcj l x nm (n + 1) out d (i : Int) = (if (!d && !Zdu x nm l[i]) = true then (if (!Zlj x nm l[i]) = true then (if (out.length + ([x] : List Zl).length) * 24 ≤ 140737488355328 then Zdr l (i : Int) (Zcj l x nm n) (out ++ [x]) true else none) else Zdr l (i : Int) (Zcj l x nm n) out true) else Zdr l (i : Int) (Zcj l x nm n) out d) := by
 have hm := hsc _ (List.getElem_mem h1)
 have ha : Zfr l[i] x = some (Zdh l[i] x) := Zx1 hm hx
 have hs : Zdn l[i].Score x.Score = some (decide (keyf l[i].Score = keyf x.Score)) := Zmq hm hx
 rw [Zcj, if_pos (by simp; omega), Zc8 h1]
 cases nm
 · simp only [Bool.not_false, gd_t, Option.bind_some, Bool.true_and, ha, Bool.and_false, gd_f, Bool.false_and, Bool.or_false, Bool.and_true, Bool.false_or, Zdu, Zlj, Bool.false_eq_true, if_false]
   cases hq : sEq l[i].Name x.Name
   · simp only [gd_f, Option.bind_some, Bool.false_and]
   · simp only [gd_t, Option.bind_some, Bool.true_and, hs]
 · simp only [Bool.not_true, gd_f, Option.bind_some, Bool.false_and, Bool.not_false, Bool.true_and, gd_t, Bool.false_or, Bool.true_or, Bool.and_false, Bool.and_true, Zdu, Zlj, if_true]
theorem Zol {l : Zdk} {x : Zl} {nm : Bool} (hx : x.Score < W64) (hsc : ∀ e ∈ l, e.Score < W64) (hl : l.length < 1000000) : ∀ (n i : Nat) (out : Zdk) (d : Bool), i + n = l.length → out.length + (if d = true then 0 else 1) ≤ i + 1 →
   Zcj l x nm (n + 1) out d (i : Int) = some (out ++ (goL (Zdu x nm) (Zlj x nm) x (l.drop i) d).1, (goL (Zdu x nm) (Zlj x nm) x (l.drop i) d).2)
 | 0, i, out, d, h, _ => by
   rw [Zcj, if_neg (by simp; omega), List.drop_of_length_le (by omega)]
   simp [goL]
 | n + 1, i, out, d, h, ho => by
   have h1 : i < l.length := by omega
   rw [Z2l hx hsc h1, List.drop_eq_getElem_cons h1]
   simp only [Zdr, Zc8 h1, wr1 (show i < 9223372036854775807 by omega), Option.bind_some, goL]
   by_cases hc : (!d && !Zdu x nm l[i]) = true
   · rw [if_pos hc, if_pos hc]
     have hd : d = false := by cases d <;> simp_all
     subst hd
     simp only [Bool.false_eq_true, if_false] at ho
     by_cases hs : (!Zlj x nm l[i]) = true
     · rw [if_pos hs, if_pos (by simp; omega), if_pos (by simp; omega), Zol hx hsc hl n (i + 1) _ true (by omega) (by simp; omega)]
       have : Zlj x nm l[i] = false := by simpa using hs
       simp [this]
     · rw [if_neg hs, if_pos (by simp; omega), Zol hx hsc hl n (i + 1) _ true (by omega) (by simp; omega)]
       have : Zlj x nm l[i] = true := by simpa using hs
       simp [this]
   · rw [if_neg hc, if_neg hc, if_pos (by simp; omega), Zol hx hsc hl n (i + 1) _ d (by omega) (by simp; omega)]
     simp
def layL (x : Zl) (nm : Bool) (l : Zdk) : Zdk := match l[pre (Zdu x nm) l]? with
 | some e => l.take (pre (Zdu x nm) l) ++ (if Zlj x nm e then [] else [x]) ++ l.drop (pre (Zdu x nm) l)
 | none => l ++ [x]
theorem Zzl {l : Zdk} {x : Zl} {nm : Bool} (hx : x.Score < W64) (hsc : ∀ e ∈ l, e.Score < W64) (hl : l.length < 1000000) : Zfg l x nm = some (layL x nm l) := by
 unfold Zfg
 have := Zol (nm := nm) hx hsc hl l.length 0 [] false (by omega) (by simp)
 rw [show ((0 : Nat) : Int) = 0 from rfl] at this
 rw [show (Int.toNat ((l.length : Int) - (0 : Int)) + 1) = l.length + 1 by omega, this]
 simp only [Option.bind_some, List.nil_append, List.drop_zero]
 rw [Z4y]
 unfold layL
 cases h : l[pre (Zdu x nm) l]? with
 | none =>
   simp only [Bool.not_false, if_true, Zfy]
   rw [if_pos (by simp; omega)]
 | some e => simp only [Bool.not_true, Bool.false_eq_true, if_false, Zfy]
theorem Zxs {l : Zdk} {s : ByteArray} (hl : l.length < 1000000) : ∀ (n i : Nat), i + n = l.length → Zex l s (n + 1) (i : Int) = some (cond ((l.drop i).any (fun e => sEq e.Name s)) (.inl true) (.inr ()))
 | 0, i, h => by
   rw [Zex, if_neg (by simp; omega), List.drop_of_length_le (by omega)]; rfl
 | n + 1, i, h => by
   have h1 : i < l.length := by omega
   rw [Zex, if_pos (by simp; omega), Zc8 h1, List.drop_eq_getElem_cons h1, List.any_cons]
   simp only [Option.bind_some]
   by_cases hq : sEq l[i].Name s = true
   · rw [if_pos hq, hq]; rfl
   · have hq' : sEq l[i].Name s = false := by simpa using hq
     rw [if_neg hq, wr1 (by omega), Zxs hl n (i + 1) (by omega), hq', Bool.false_or]
theorem Z2e {l : Zdk} {s : ByteArray} (hl : l.length < 1000000) : Zfw l s = some (l.any (fun e => sEq e.Name s)) := by
 unfold Zfw
 have := Zxs (s := s) hl l.length 0 (by omega)
 rw [show ((0 : Nat) : Int) = 0 from rfl] at this
 rw [show (Int.toNat ((l.length : Int) - (0 : Int)) + 1) = l.length + 1 by omega, this]
 simp only [List.drop_zero]
 cases h : l.any (fun e => sEq e.Name s) <;> rfl
theorem Zoc {a0 : Ze} {a : Z3} (hl : a0.List.length < 1000000) : ∀ (n i : Nat) (out : Zdk), i + n = a0.List.length → out.length ≤ i → Zc9 a0 a (n + 1) out (i : Int) = some (out ++ (a0.List.drop i).filter (fun e => !sEq e.Name a.S))
 | 0, i, out, h, _ => by
   rw [Zc9, if_neg (by simp; omega), List.drop_of_length_le (by omega)]; simp
 | n + 1, i, out, h, ho => by
   have h1 : i < a0.List.length := by omega
   rw [Zc9, if_pos (by simp; omega), Zc8 h1, List.drop_eq_getElem_cons h1]
   simp only [Option.bind_some, Zh0, wr1 (show i < 9223372036854775807 by omega)]
   rw [List.filter_cons]
   by_cases hq : (!sEq a0.List[i].Name a.S) = true
   · rw [if_pos hq, if_pos hq, if_pos (by simp; omega), Zoc hl n (i + 1) _ (by omega) (by simp; omega), List.append_assoc]; rfl
   · rw [if_neg hq, if_neg hq, Zoc hl n (i + 1) _ (by omega) (by omega)]
theorem Zsu {l : Zdk} {s : ByteArray} (hs : NS l) : (∀ e ∈ l.take (pre (fun e => sLt e.Name s) l), sEq e.Name s = false) ∧ (∀ e ∈ l.drop (pre (fun e => sLt e.Name s) l + 1), sEq e.Name s = false) := by
 constructor
 · intro e he
   obtain ⟨k, hk, rfl⟩ := List.getElem_of_mem he
   rw [List.length_take] at hk
   rw [List.getElem_take]
   have := Zs6 (s := s) hs (k := k) (by omega)
   rw [show decide (k < pre (fun e => sLt e.Name s) l) = true by simp; omega] at this
   exact Zep.2 (Zl1 this)
 · intro e he
   obtain ⟨k, hk, rfl⟩ := List.getElem_of_mem he
   rw [List.length_drop] at hk
   rw [List.getElem_drop]
   refine Zep.2 fun h => ?_
   have hp : pre (fun e => sLt e.Name s) l < l.length := by omega
   have h1 := List.pairwise_iff_getElem.1 hs _ _ hp (show pre (fun e => sLt e.Name s) l + 1 + k < l.length by omega) (by omega)
   rw [h] at h1
   have := Ztu (List.getElem?_eq_getElem hp)
   rw [h1] at this; cases this
theorem Ztj (l : Zdk) (k : Nat) (h : k < l.length) : l = l.take k ++ l[k] :: l.drop (k + 1) := by
 rw [← List.drop_eq_getElem_cons h, List.take_append_drop]
theorem Zth {l : Zdk} {s : ByteArray} (hs : NS l) : l.any (fun e => sEq e.Name s) = isAt s l := by
 obtain ⟨h1, h2⟩ := Zsu (s := s) hs
 unfold isAt
 by_cases hp : pre (fun e => sLt e.Name s) l < l.length
 · rw [List.getElem?_eq_getElem hp]
   conv => lhs; rw [Ztj l _ hp]
   have a1 : (l.take (pre (fun e => sLt e.Name s) l)).any (fun e => sEq e.Name s) = false := by
     rw [List.any_eq_false]; intro e he; rw [h1 e he]; decide
   have a2 : (l.drop (pre (fun e => sLt e.Name s) l + 1)).any (fun e => sEq e.Name s) = false := by
     rw [List.any_eq_false]; intro e he; rw [h2 e he]; decide
   rw [List.any_append, List.any_cons, a1, a2]; simp
 · rw [List.getElem?_eq_none (by omega)]
   have : l.take (pre (fun e => sLt e.Name s) l) = l := List.take_of_length_le (by omega)
   rw [this] at h1
   rw [List.any_eq_false]; intro e he; rw [h1 e he]; decide
theorem Z2z {l : Zdk} {s : ByteArray} (hs : NS l) : l.filter (fun e => !sEq e.Name s) = if isAt s l = true then l.take (pre (fun e => sLt e.Name s) l) ++ l.drop (pre (fun e => sLt e.Name s) l + 1) else l := by
 obtain ⟨h1, h2⟩ := Zsu (s := s) hs
 unfold isAt
 by_cases hp : pre (fun e => sLt e.Name s) l < l.length
 · rw [List.getElem?_eq_getElem hp]
   conv => lhs; rw [Ztj l _ hp]
   have a1 : (l.take (pre (fun e => sLt e.Name s) l)).filter (fun e => !sEq e.Name s) = l.take (pre (fun e => sLt e.Name s) l) := List.filter_eq_self.2 fun e he => by rw [h1 e he]; rfl
   have a2 : (l.drop (pre (fun e => sLt e.Name s) l + 1)).filter (fun e => !sEq e.Name s) = l.drop (pre (fun e => sLt e.Name s) l + 1) := List.filter_eq_self.2 fun e he => by rw [h2 e he]; rfl
   rw [List.filter_append, List.filter_cons, a1, a2]
   by_cases hq : sEq (l[pre (fun e => sLt e.Name s) l]).Name s = true
   · rw [if_pos hq, if_neg (by rw [hq]; decide)]
   · rw [if_neg hq, if_pos (by simpa using hq)]
     exact (Ztj l _ hp).symm
 · rw [List.getElem?_eq_none (by omega)]
   have : l.take (pre (fun e => sLt e.Name s) l) = l := List.take_of_length_le (by omega)
   rw [this] at h1
   rw [if_neg (by simp)]
   exact List.filter_eq_self.2 fun e he => by rw [h1 e he]; rfl
theorem Z2o {l : Zdk} {s : ByteArray} : layL { Score := 0, Name := s } true l = if isAt s l = true then l else l.take (pre (fun e => sLt e.Name s) l) ++ [{ Score := 0, Name := s }] ++ l.drop (pre (fun e => sLt e.Name s) l) := by
 have hf : Zdu { Score := 0, Name := s } true = fun e => sLt e.Name s := rfl
 unfold layL isAt
 rw [hf]
 cases h : l[pre (fun e => sLt e.Name s) l]? with
 | none =>
   have hp := List.getElem?_eq_none_iff.1 h
   rw [if_neg (by simp), List.take_of_length_le hp, List.drop_of_length_le hp, List.append_nil]
 | some e =>
   simp only [Zlj, Bool.true_or, Bool.and_true]
   by_cases hq : sEq e.Name s = true
   · rw [if_pos hq, if_pos hq, List.append_nil, List.take_append_drop]
   · rw [if_neg hq, if_neg hq]
theorem Zpe {l : Zdk} (h : l.length < 1000000) : Zb2 l = some l := by
 unfold Zb2
 rw [if_pos (by omega)]
theorem Ztw {r : Ze} {a : Z3} (ha : a.X < W64) (hsc : ∀ e ∈ r.List, e.Score < W64) (hl : r.List.length < 1000000) : ∀ (n i : Nat), i + n = r.List.length →
   Zf5 r a (n + 1) (i : Int) = some ((i + pre (Zdu { Score := a.X, Name := a.S } false) (r.List.drop i) : Nat) : Int)
 | 0, i, h => by
   have hd : decide ((i : Int) < (r.List.length : Int)) = false := by simp; omega
   rw [Zf5, hd, List.drop_of_length_le (by omega)]
   simp [gd, pre]
 | n + 1, i, h => by
   have h1 : i < r.List.length := by omega
   have hd : decide ((i : Int) < (r.List.length : Int)) = true := by simp; omega
   rw [Zf5, hd, Zc8 h1, List.drop_eq_getElem_cons h1]
   simp only [gd_t, Option.bind_some, Bool.true_and]
   rw [Zof (hsc _ (List.getElem_mem h1)) ha]
   simp only [Option.bind_some, pre, Zdu, Bool.false_eq_true, if_false, wr1 (show i < 9223372036854775807 by omega)]
   by_cases hb : Zdh r.List[i] { Score := a.X, Name := a.S } = true
   · rw [if_pos hb, if_pos hb, Ztw ha hsc hl n (i + 1) (by omega)]
     congr 2; omega
   · rw [if_neg hb, if_neg hb]; simp
theorem Zvw {r : Ze} {a : Z3} (ha : a.X < W64) (hsc : ∀ e ∈ r.List, e.Score < W64) (hl : r.List.length < 1000000) : Zf5 r a (Int.toNat ((r.List.length : Int) - (0 : Int)) + 1) (0 : Int) = some ((pre (Zdu { Score := a.X, Name := a.S } false) r.List : Nat) : Int) := by
 have := Ztw (a := a) ha hsc hl r.List.length 0 (by omega)
 rw [show ((0 : Nat) : Int) = 0 from rfl] at this
 rw [show (Int.toNat ((r.List.length : Int) - (0 : Int)) + 1) = r.List.length + 1 by omega, this]
 simp
theorem Zyx {e x : Zl} (h1 : Zdh e x = false) : (!Zdh x e) = Zlj x false e := by
 unfold Zdh Zlj at *
 by_cases hk : keyf e.Score = keyf x.Score
 · rw [if_pos hk] at h1
   rw [if_pos hk.symm, hk]
   simp only [Bool.false_or, decide_true, Bool.and_true]
   by_cases hn : e.Name = x.Name
   · rw [hn, Zlu, Ze7]; rfl
   · rw [Zms h1 hn, Zep.2 hn]; rfl
 · rw [if_neg hk] at h1
   rw [if_neg (fun h => hk h.symm)]
   have := of_decide_eq_false h1
   have h3 : keyf e.Score < keyf x.Score := by omega
   simp [h3, hk]
theorem Zss {k : Int} {l : Zdk} : ∀ (n i : Nat), Zi2 k l i n = 0 ↔ ∀ j, i ≤ j → j < i + n → Zhn k l j = 0
 | 0, i => ⟨fun _ j h1 h2 => by omega, fun _ => rfl⟩
 | n + 1, i => by
   by_cases h : Zhn k l i = 0
   · rw [Ztf h, Zss n (i + 1)]
     constructor
     · intro hh j h1 h2
       by_cases e : j = i
       · rw [e]; exact h
       · exact hh j (by omega) (by omega)
     · intro hh j h1 h2; exact hh j (by omega) (by omega)
   · rw [Zs5 h]
     exact ⟨fun e => absurd e h, fun hh => absurd (hh i (Nat.le_refl _) (by omega)) h⟩
theorem Zsx {t n b r l : Bool} {a : Ze} : Zo2 t n b r l a = 0 ↔ Zhb t n b r l a = true ∧ a.Text.size ≤ 64 ∧ (b = true → -2305843009213693952 ≤ a.Low ∧ a.High ≤ 2305843009213693952 ∧ a.Low ≤ a.Num ∧ a.Num ≤ a.High) ∧ a.Real = Zcd a.Real ∧ (l = true → 1 ≤ a.Cap ∧ a.Cap ≤ 32 ∧ (a.List.length : Int) ≤ a.Cap ∧ ∀ i, i < a.List.length → Zhn a.Kind a.List i = 0) := by
 unfold Zo2
 by_cases h1 : Zhb t n b r l a = false
 · rw [if_pos h1, h1]; simp
 · have h1' : Zhb t n b r l a = true := by simpa using h1
   rw [if_neg h1, h1']
   by_cases h2 : (64 : Int) < a.Text.size
   · rw [if_pos h2]; exact ⟨fun h => absurd h (by decide), fun h => by omega⟩
   · rw [if_neg h2]
     by_cases h3 : b = true ∧ (a.Low < -2305843009213693952 ∨ 2305843009213693952 < a.High ∨ a.Num < a.Low ∨ a.High < a.Num)
     · rw [if_pos h3]; exact ⟨fun h => absurd h (by decide), fun h => by have := h.2.2.1 h3.1; omega⟩
     · rw [if_neg h3]
       by_cases h4 : a.Real = Zcd a.Real
       · rw [if_neg (fun h => h h4)]
         cases l
         · rw [if_pos rfl]
           refine ⟨fun _ => ⟨rfl, by omega, fun hb => ?_, h4, fun h => absurd h (by decide)⟩, fun _ => rfl⟩
           have : ¬ (a.Low < -2305843009213693952 ∨ 2305843009213693952 < a.High ∨ a.Num < a.Low ∨ a.High < a.Num) := fun h => h3 ⟨hb, h⟩
           omega
         · rw [if_neg (by decide)]
           by_cases h5 : a.Cap < 1 ∨ 32 < a.Cap
           · rw [if_pos h5]; exact ⟨fun h => absurd h (by decide), fun h => by have := h.2.2.2.2 rfl; omega⟩
           · rw [if_neg h5]
             by_cases h6 : a.Cap < a.List.length
             · rw [if_pos h6]; exact ⟨fun h => absurd h (by decide), fun h => by have := h.2.2.2.2 rfl; omega⟩
             · rw [if_neg h6, Zss]
               constructor
               · intro h
                 refine ⟨rfl, by omega, fun hb => ?_, h4, fun _ => ⟨by omega, by omega, by omega, fun i hi => h i (Nat.zero_le _) (by omega)⟩⟩
                 have : ¬ (a.Low < -2305843009213693952 ∨ 2305843009213693952 < a.High ∨ a.Num < a.Low ∨ a.High < a.Num) := fun h => h3 ⟨hb, h⟩
                 omega
               · intro h j _ hj
                 exact (h.2.2.2.2 rfl).2.2.2 j (by omega)
       · rw [if_pos h4]; exact ⟨fun h => absurd h (by decide), fun h => absurd h.2.2.2.1 h4⟩
def Zc2 (a : Ze) : Prop := 1 ≤ a.Kind ∧ a.Kind ≤ 9 ∧ Zhb (decide (a.Kind = 1)) (decide (2 ≤ a.Kind ∧ a.Kind ≤ 4)) (decide (a.Kind = 4)) (decide (5 ≤ a.Kind ∧ a.Kind ≤ 7)) (decide (8 ≤ a.Kind)) a = true ∧ a.Text.size ≤ 64 ∧ (a.Kind = 4 → -2305843009213693952 ≤ a.Low ∧ a.High ≤ 2305843009213693952 ∧ a.Low ≤ a.Num ∧ a.Num ≤ a.High) ∧ a.Real = Zcd a.Real ∧
 (8 ≤ a.Kind → 1 ≤ a.Cap ∧ a.Cap ≤ 32 ∧ (a.List.length : Int) ≤ a.Cap ∧ ∀ i, i < a.List.length → Zhn a.Kind a.List i = 0)
theorem Zk1 {a : Ze} (ha : Zh7 a) : Zeg a = some 0 ↔ Zc2 a := by
 by_cases hk : a.Kind ≤ 0 ∨ 10 ≤ a.Kind
 · have : Zeg a ≠ some 0 := by
     obtain ⟨c, hc, hc2⟩ := Zl3 ha
     unfold Zdl at hc2
     rw [if_pos (by simp; omega)] at hc2
     rw [hc, ← hc2]; decide
   exact ⟨fun h => absurd h this, fun h => by obtain ⟨h1, h2, _⟩ := h; omega⟩
 · have fin : ∀ {t n b r l : Bool}, Zeh a.Kind = some ⟨t, n, b, r, l⟩ → t = decide (a.Kind = 1) → n = decide (2 ≤ a.Kind ∧ a.Kind ≤ 4) → b = decide (a.Kind = 4) → r = decide (5 ≤ a.Kind ∧ a.Kind ≤ 7) → l = decide (8 ≤ a.Kind) → (Zeg a = some 0 ↔ Zc2 a) := by
     intro t n b r l hs h1 h2 h3 h4 h5
     rw [Zgk ha hk hs]
     constructor
     · intro h
       obtain ⟨g1, g2, g3, g4, g5⟩ := Zsx.1 (Option.some.inj h)
       refine ⟨by omega, by omega, by rw [← h1, ← h2, ← h3, ← h4, ← h5]; exact g1, g2, fun hk4 => g3 (by rw [h3]; simpa using hk4), g4, fun hk8 => g5 (by rw [h5]; simpa using hk8)⟩
     · rintro ⟨_, _, g1, g2, g3, g4, g5⟩
       congr 1
       exact Zsx.2 ⟨by rw [h1, h2, h3, h4, h5]; exact g1, g2, fun hb => g3 (by rw [h3] at hb; simpa using hb), g4, fun hb => g5 (by rw [h5] at hb; simpa using hb)⟩
   have hk' : a.Kind = 1 ∨ a.Kind = 2 ∨ a.Kind = 3 ∨ a.Kind = 4 ∨ a.Kind = 5 ∨ a.Kind = 6 ∨ a.Kind = 7 ∨ a.Kind = 8 ∨ a.Kind = 9 := by omega
   rcases hk' with h | h | h | h | h | h | h | h | h <;> rw [h] at fin
   · exact fin Z2x rfl rfl rfl rfl rfl
   · exact fin Z20 rfl rfl rfl rfl rfl
   · exact fin Z15 rfl rfl rfl rfl rfl
   · exact fin Z1y rfl rfl rfl rfl rfl
   · exact fin Z2b rfl rfl rfl rfl rfl
   · exact fin Z1u rfl rfl rfl rfl rfl
   · exact fin Z1p rfl rfl rfl rfl rfl
   · exact fin Z2c rfl rfl rfl rfl rfl
   · exact fin Z3i rfl rfl rfl rfl rfl
theorem Zl5 {a : Ze} (h : Zc2 a) (hk : a.Kind = 8) : NS a.List := by
 obtain ⟨_, _, _, _, _, _, h8⟩ := h
 obtain ⟨_, _, _, hi⟩ := h8 (by omega)
 have step : ∀ i, i + 1 < a.List.length → sLt ((a.List[i]?).getD default).Name ((a.List[i + 1]?).getD default).Name = true := by
   intro i hi1
   have := hi (i + 1) hi1
   unfold Zhn at this
   rw [List.getElem?_eq_getElem hi1] at this
   simp only [Nat.add_sub_cancel] at this
   split at this
   · cases this
   · split at this
     · cases this
     · split at this
       · cases this
       · rename_i h3
         rw [List.getElem?_eq_getElem hi1]
         cases hq : sLt ((a.List[i]?).getD default).Name a.List[i + 1].Name
         · exact absurd ⟨by omega, hk, hq⟩ h3
         · exact hq
 have far : ∀ d i, i + d + 1 < a.List.length → sLt ((a.List[i]?).getD default).Name ((a.List[i + d + 1]?).getD default).Name = true := by
   intro d
   induction d with
   | zero => intro i h; exact step i h
   | succ d ih => intro i h; exact Zgg (ih i (by omega)) (step (i + d + 1) (by omega))
 refine List.pairwise_iff_getElem.2 fun i j hi hj hij => ?_
 have := far (j - i - 1) i (by omega)
 rw [show i + (j - i - 1) + 1 = j by omega, List.getElem?_eq_getElem hi, List.getElem?_eq_getElem hj] at this
 exact this
theorem Zu8 {neg : Bool} {r : Nat} (h : r ≤ Ieee.double.infRung) : Ieee.double.word neg r < W64 := by
 have h1 : Ieee.double.infRung = 9218868437227405312 := by decide
 have h2 : Ieee.double.signWeight = 9223372036854775808 := by decide
 unfold Ieee.Format.word
 rw [h1] at h
 show _ < 18446744073709551616
 split
 · rw [h2]; omega
 · omega
theorem Z1b (neg : Bool) (mag : Nat) (place : Int) : Ieee.double.nearest neg mag place < W64 := by
 unfold Ieee.Format.nearest
 split
 · exact Zu8 (Nat.zero_le _)
 · exact Zu8 (Nat.min_le_right _ _)
theorem Zx3 {d : Ieee.Datum} (h : ∀ n f, d ≠ .nan n f) : Ieee.double.write d < W64 := by
 cases d with
 | number n m p => exact Z1b n m p
 | infinity n => exact Zu8 (Nat.le_refl _)
 | nan n f => exact absurd rfl (h n f)
theorem Z5n {x y d : Ieee.Datum} (h : x.sum y = some d) : ∀ n f, d ≠ .nan n f := by
 intro n f e
 subst e
 cases x <;> cases y <;> simp [Ieee.Datum.sum] at h
theorem Zy8 {x y d : Ieee.Datum} (h : x.product y = some d) : ∀ n f, d ≠ .nan n f := by
 intro n f e
 subst e
 cases x <;> cases y <;> simp [Ieee.Datum.product] at h
theorem Zzw (m n : Nat) : fadd m n < W64 := by
 unfold fadd Ieee.Format.add
 cases h : (Ieee.double.read m).sum (Ieee.double.read n) with
 | none => exact (by decide : 9221120237041090561 < W64)
 | some d => simpa using Zx3 (Z5n h)
theorem Zz3 (m n : Nat) : fmul m n < W64 := by
 unfold fmul Ieee.Format.mul
 cases h : (Ieee.double.read m).product (Ieee.double.read n) with
 | none => exact (by decide : 9221120237041090561 < W64)
 | some d => simpa using Zx3 (Zy8 h)
theorem Zq0 {z : Nat} (hz : z < W64) : ∃ p, Ze5 z = some p ∧ Zew p = some (Zcd z) := by
 have hz' : z < 18446744073709551616 := hz
 unfold Ze5 Zew Zcd NANB
 rw [Zp7 hz]
 simp only [Option.bind_some]
 by_cases hn : isn z
 · refine ⟨18444492273895866369, by simp [hn]; decide, ?_⟩
   rw [if_pos (by decide), if_pos hn]; decide
 · simp only [hn, decide_false, Bool.false_eq_true, if_false]
   by_cases ht : (9223372036854775808 : Int) ≤ z
   · rw [if_pos (by simpa using ht)]
     refine ⟨_, rfl, ?_⟩
     rw [wru (x := (9223372036854775808 : Int) - 1) (by decide) (by decide), wru (x := (z : Int) - 9223372036854775808) (by omega) (by omega), wru (by omega) (by omega)]
     rw [if_neg (by simp; omega)]
     rw [wru (x := (9223372036854775808 : Int) - 1 - _) (by omega) (by omega), wru (by omega) (by omega)]
     congr 1; omega
   · rw [if_neg (by simpa using ht)]
     refine ⟨_, rfl, ?_⟩
     rw [wru (by omega) (by omega), if_pos (by simp; omega), wru (by omega) (by omega)]
     congr 1; omega
theorem Zsw {z : Nat} : Zcd (Zcd z) = Zcd z := by
 unfold Zcd
 by_cases h : isn z
 · rw [if_pos h, if_pos (show isn NANB by unfold isn rg INF NANB TOP; decide)]
 · rw [if_neg h, if_neg h]
theorem Zyh {a b : Nat} (ha : a < W64) (hb : b < W64) (ca : a = Zcd a) (cb : b = Zcd b) : ∃ m, Zk8 a b = some m ∧ Zja a b = some m ∧ (m = a ∨ m = b) := by
 unfold Zk8 Zja
 rw [Zuq ha hb, Znz ha hb, Zje ha, Zje hb, ← ca, ← cb]
 by_cases h : keyf a < keyf b
 · exact ⟨b, by simp [h], by simp [h], .inr rfl⟩
 · exact ⟨a, by simp [h], by simp [h], .inl rfl⟩
theorem Zxf {a b : Nat} (ha : a < W64) (hb : b < W64) (ca : a = Zcd a) (cb : b = Zcd b) : ∃ m, Zk9 a b = some m ∧ Zi1 a b = some m ∧ (m = a ∨ m = b) := by
 unfold Zk9 Zi1
 rw [Zuq hb ha, Znz hb ha, Zje ha, Zje hb, ← ca, ← cb]
 by_cases h : keyf b < keyf a
 · exact ⟨b, by simp [h], by simp [h], .inr rfl⟩
 · exact ⟨a, by simp [h], by simp [h], .inl rfl⟩
def I64 (x : Int) : Prop := -9223372036854775808 ≤ x ∧ x ≤ 9223372036854775807
structure RecW (r : Ze) : Prop where
 ok : Zh7 r
 num : I64 r.Num
 low : I64 r.Low
 high : I64 r.High
 kind : I64 r.Kind
 len : r.List.length ≤ 1000
structure ActW (a : Z3) : Prop where
 ok : Zt3 a
 n : I64 a.N
 mkr : RecW a.Make
 xc : a.X = Zcd a.X
 inout : (a.Kind = 10 ∨ a.Kind = 11) → 0 ≤ a.N ∧ a.N ≤ 2305843009213693952
 s64 : a.S.size ≤ 64
 s16 : ¬ (5 ≤ a.Kind ∧ a.Kind ≤ 6) → a.S.size ≤ 16
abbrev ans (c : Int) : Zg := { Code := c, Num := 0, Rec := default }
def Chg (r : Ze) (a : Z3) : Prop := ∃ c r' o, Zbi a.Kind r a (default : Zg) = some (c, r', o) ∧ Zbx r a = some (if c = 0 then (r', o) else (r, ans c)) ∧ RecW r' ∧ RecW o.Rec ∧ (c = 0 → o.Code = 0 ∧ o.Num = 0)
theorem Zp6 (x : Int) : I64 (IntKind.i64.wrap x) := by unfold I64; rw [IntKind.wrap_i64]; omega
theorem Zde : RecW (default : Ze) := ⟨⟨by decide, by decide, fun e he => by cases he⟩, by unfold I64; decide, by unfold I64; decide, by unfold I64; decide, by unfold I64; decide, by decide⟩
theorem RecW.withNum {r : Ze} (h : RecW r) {x : Int} (hx : I64 x) : RecW { r with Num := x } := ⟨⟨h.ok.real, h.ok.len, h.ok.sc⟩, hx, h.low, h.high, h.kind, h.len⟩
theorem RecW.withText {r : Ze} (h : RecW r) (t : ByteArray) : RecW { r with Text := t } := ⟨⟨h.ok.real, h.ok.len, h.ok.sc⟩, h.num, h.low, h.high, h.kind, h.len⟩
theorem RecW.withReal {r : Ze} (h : RecW r) {x : Nat} (hx : x < W64) : RecW { r with Real := x } := ⟨⟨hx, h.ok.len, h.ok.sc⟩, h.num, h.low, h.high, h.kind, h.len⟩
theorem RecW.withList {r : Ze} (h : RecW r) {l : Zdk} (h1 : l.length ≤ 1000) (h2 : ∀ e ∈ l, e.Score < W64) : RecW { r with List := l } := ⟨⟨h.ok.real, by show l.length < _; omega, h2⟩, h.num, h.low, h.high, h.kind, h1⟩
theorem Zjx {r : Ze} (h : r.List.length ≤ 1000) : Zfu r = some r := by
 unfold Zfu Zb2
 rw [if_pos (by omega)]; rfl
theorem Zop {r : Ze} (h : r.List.length ≤ 1000) : Zeu r = some r := by
 unfold Zeu
 rw [if_pos (by simp; omega)]; rfl
variable {r : Ze} {a : Z3}
theorem Z6g (h : a.Kind = 5) (hr : RecW r) : Chg r a := by
 refine ⟨0, { r with Text := a.S }, ans 0, ?_, ?_, hr.withText _, Zde, fun _ => ⟨rfl, rfl⟩⟩
 · rw [h]; rfl
 · unfold Zbx; rw [h]; rfl
theorem Z4p (h : a.Kind = 6) (hr : RecW r) : Chg r a := by
 refine ⟨0, { r with Text := a.S }, { ans 0 with Rec := r }, ?_, ?_, hr.withText _, hr, fun _ => ⟨rfl, rfl⟩⟩
 · rw [h]
   show Zg3 r a default = _
   unfold Zg3
   rw [Zjx hr.len]; rfl
 · unfold Zbx; rw [h, Zop hr.len]; rfl
theorem Z56 (h : a.Kind = 7) (hr : RecW r) : Chg r a := by
 refine ⟨0, { r with Num := IntKind.i64.wrap (r.Num + a.N) }, ans 0, ?_, ?_, hr.withNum (Zp6 _), Zde, fun _ => ⟨rfl, rfl⟩⟩
 · rw [h]; rfl
 · unfold Zbx; rw [h]; rfl
theorem Z1s (hr : I64 r.Num) (hn : I64 a.N) : (((decide ((0 : Int) < a.N)) && (decide ((IntKind.i64.wrap ((9223372036854775807 : Int) - a.N)) < r.Num))) || ((decide (a.N < (0 : Int))) && (decide (r.Num < (IntKind.i64.wrap ((-9223372036854775808 : Int) - a.N)))))) =
   ((((decide ((0 : Int) < r.Num)) && (decide ((0 : Int) < a.N))) && (decide ((IntKind.i64.wrap (r.Num + a.N)) < (0 : Int)))) || (((decide (r.Num < (0 : Int))) && (decide (a.N < (0 : Int)))) && (decide ((0 : Int) ≤ (IntKind.i64.wrap (r.Num + a.N)))))) := by
 unfold I64 at hr hn
 rw [Bool.eq_iff_iff]
 simp only [Bool.or_eq_true, Bool.and_eq_true, decide_eq_true_eq, IntKind.wrap_i64]
 omega
theorem Z4a (h : a.Kind = 8) (hr : RecW r) (ha : ActW a) : Chg r a := by
 have e1 : Zbi a.Kind r a default = Zkk r a default := by rw [h]; rfl
 have e2 : Zbx r a = (Zie r.Num a.N).bind fun r7 => (if r7 then (Z5 r (ans 9)) else (Z5 { r with Num := IntKind.i64.wrap (r.Num + a.N) } (ans 0))) := by unfold Zbx; rw [h]; rfl
 have hp := Z1s hr.num ha.n
 unfold Chg
 rw [e1, e2]
 unfold Zkk Zie Z5
 rw [hp]
 simp only [Option.bind_some]
 split
 · exact ⟨9, r, _, rfl, rfl, hr, Zde, fun h => by cases h⟩
 · exact ⟨0, _, _, rfl, rfl, hr.withNum (Zp6 _), Zde, fun _ => ⟨rfl, rfl⟩⟩
theorem Zvu (h : a.Kind = 9 ∨ a.Kind = 12) (hr : RecW r) : Chg r a := by
 have e1 : Zbi a.Kind r a default = Zd5 r a default := by rcases h with h | h <;> rw [h] <;> rfl
 have e2 : Zbx r a = (if (decide (r.Num < a.N)) then (Z5 r (ans 11)) else (Z5 r (ans 0))) := by rcases h with h | h <;> unfold Zbx Zch <;> rw [h] <;> rfl
 unfold Chg
 rw [e1, e2]
 unfold Zd5 Z5
 split
 · exact ⟨11, r, _, rfl, rfl, hr, Zde, fun h => by cases h⟩
 · exact ⟨0, r, _, rfl, rfl, hr, Zde, fun _ => ⟨rfl, rfl⟩⟩
theorem Zwr (hg : Zc2 r) (hk : r.Kind = 4) : -2305843009213693952 ≤ r.Low ∧ r.High ≤ 2305843009213693952 ∧ r.Low ≤ r.Num ∧ r.Num ≤ r.High := hg.2.2.2.2.1 hk
theorem Z7i (h : a.Kind = 10) (hr : RecW r) (hg : Zc2 r) (hk : r.Kind = 4) (ha : ActW a) : Chg r a := by
 have e1 : Zbi a.Kind r a default = Zg5 r a default := by rw [h]; rfl
 have e2 : Zbx r a = (if (decide (r.High < IntKind.i64.wrap (r.Num + a.N))) then (Z5 r (ans 9)) else (Z5 { r with Num := IntKind.i64.wrap (r.Num + a.N) } (ans 0))) := by unfold Zbx Zch; rw [h]; rfl
 obtain ⟨p1, p2, p3, p4⟩ := Zwr hg hk
 obtain ⟨n1, n2⟩ := ha.inout (.inl h)
 have hd : decide (IntKind.i64.wrap (r.High - r.Num) < a.N) = decide (r.High < IntKind.i64.wrap (r.Num + a.N)) := by
   rw [wr (x := r.High - r.Num) (by omega) (by omega), wr (x := r.Num + a.N) (by omega) (by omega)]
   apply decide_eq_decide.2; omega
 unfold Chg
 rw [e1, e2]
 unfold Zg5 Z5
 rw [hd]
 split
 · exact ⟨9, r, _, rfl, rfl, hr, Zde, fun h => by cases h⟩
 · exact ⟨0, _, _, rfl, rfl, hr.withNum (Zp6 _), Zde, fun _ => ⟨rfl, rfl⟩⟩
theorem Z5t (h : a.Kind = 11) (hr : RecW r) (hg : Zc2 r) (hk : r.Kind = 4) (ha : ActW a) : Chg r a := by
 have e1 : Zbi a.Kind r a default = Zg0 r a default := by rw [h]; rfl
 have e2 : Zbx r a = (if (decide (IntKind.i64.wrap (r.Num - a.N) < r.Low)) then (Z5 r (ans 10)) else (Z5 { r with Num := IntKind.i64.wrap (r.Num - a.N) } (ans 0))) := by unfold Zbx Zch; rw [h]; rfl
 obtain ⟨p1, p2, p3, p4⟩ := Zwr hg hk
 obtain ⟨n1, n2⟩ := ha.inout (.inr h)
 have hd : decide (IntKind.i64.wrap (r.Num - r.Low) < a.N) = decide (IntKind.i64.wrap (r.Num - a.N) < r.Low) := by
   rw [wr (x := r.Num - r.Low) (by omega) (by omega), wr (x := r.Num - a.N) (by omega) (by omega)]
   apply decide_eq_decide.2; omega
 unfold Chg
 rw [e1, e2]
 unfold Zg0 Z5
 rw [hd]
 split
 · exact ⟨10, r, _, rfl, rfl, hr, Zde, fun h => by cases h⟩
 · exact ⟨0, _, _, rfl, rfl, hr.withNum (Zp6 _), Zde, fun _ => ⟨rfl, rfl⟩⟩
theorem Zoa {m : Nat} {ψ : Nat → Nat → Option Nat} (h : Zbi a.Kind r a default = Zer ψ r a default) (h1 : ψ r.Real a.X = some m) (hm : m < W64) (h2 : Zbx r a = some ({ r with Real := m }, ans 0)) (hr : RecW r) : Chg r a := by
 refine ⟨0, { r with Real := m }, ans 0, ?_, h2, hr.withReal hm, Zde, fun _ => ⟨rfl, rfl⟩⟩
 rw [h]
 unfold Zer
 rw [h1]; rfl
theorem Zm2 (hg : Zc2 r) : r.Real = Zcd r.Real := hg.2.2.2.2.2.1
theorem Z3c (h : a.Kind = 13) (hr : RecW r) (hg : Zc2 r) (ha : ActW a) : Chg r a := by
 obtain ⟨m, m1, m2, m3⟩ := Zyh hr.ok.real ha.ok.2 (Zm2 hg) ha.xc
 refine Zoa (m := m) (ψ := fun x y => Zk8 x y) (by rw [h]; rfl) m1 (by rcases m3 with rfl | rfl; exact hr.ok.real; exact ha.ok.2) ?_ hr
 unfold Zbx Zch; rw [h, m2]; rfl
theorem Z10 (h : a.Kind = 14) (hr : RecW r) (hg : Zc2 r) (ha : ActW a) : Chg r a := by
 obtain ⟨m, m1, m2, m3⟩ := Zxf hr.ok.real ha.ok.2 (Zm2 hg) ha.xc
 refine Zoa (m := m) (ψ := fun x y => Zk9 x y) (by rw [h]; rfl) m1 (by rcases m3 with rfl | rfl; exact hr.ok.real; exact ha.ok.2) ?_ hr
 unfold Zbx Zch; rw [h, m2]; rfl
theorem Z1o (h : a.Kind = 15) (hr : RecW r) : Chg r a := by
 have hz := Zzw r.Real a.X
 obtain ⟨p, p1, p2⟩ := Zq0 hz
 refine Zoa (m := Zcd (fadd r.Real a.X)) (ψ := fun x y => Zih x y) (by rw [h]; rfl) (by show Zih r.Real a.X = _; unfold Zih; rw [Zje hz]; rfl) (Ztg hz) ?_ hr
 unfold Zbx Zch; rw [h, p1]
 show ((Zew p).bind _) = _
 rw [p2]; rfl
theorem Z21 (h : a.Kind = 16) (hr : RecW r) : Chg r a := by
 have hz := Zz3 r.Real a.X
 obtain ⟨p, p1, p2⟩ := Zq0 hz
 refine Zoa (m := Zcd (fmul r.Real a.X)) (ψ := fun x y => Zhj x y) (by rw [h]; rfl) (by show Zhj r.Real a.X = _; unfold Zhj; rw [Zje hz]; rfl) (Ztg hz) ?_ hr
 unfold Zbx Zch; rw [h, p1]
 show ((Zew p).bind _) = _
 rw [p2]; rfl
theorem Z6p (h : a.Kind = 17) (hr : RecW r) (ha : ActW a) : Chg r a := by
 refine Zoa (m := a.X) (ψ := fun x y => Zg1 x y) (by rw [h]; rfl) rfl ha.ok.2 ?_ hr
 unfold Zbx Zch; rw [h]; rfl
theorem Zvh (hg : Zc2 r) (hk : 8 ≤ r.Kind) : 1 ≤ r.Cap ∧ r.Cap ≤ 32 ∧ (r.List.length : Int) ≤ r.Cap := by
 obtain ⟨h1, h2, h3, _⟩ := hg.2.2.2.2.2.2 hk
 exact ⟨h1, h2, h3⟩
theorem Z6c (h : a.Kind = 20) (hr : RecW r) (hg : Zc2 r) (hk : r.Kind = 8) : Chg r a := by
 have hs := Zl5 hg hk
 have hl := hr.len
 have e1 : Zbi a.Kind r a default = Zfn r a default := by rw [h]; rfl
 have e2 : Zbx r a = (Zfw r.List a.S).bind fun r59 => (if (!r59) then (Z5 r (ans 11)) else (Z5 r (ans 0))) := by unfold Zbx Zch; rw [h]; rfl
 unfold Chg
 rw [e1, e2]
 unfold Zfn Z5
 rw [Znl hs (by omega), Z2e (by omega), Zth hs]
 simp only [Option.bind_some]
 split
 · exact ⟨11, r, _, rfl, rfl, hr, Zde, fun h => by cases h⟩
 · exact ⟨0, r, _, rfl, rfl, hr, Zde, fun _ => ⟨rfl, rfl⟩⟩
theorem Z4m (h : a.Kind = 18) (hr : RecW r) (hg : Zc2 r) (hk : r.Kind = 8) : Chg r a := by
 have hs := Zl5 hg hk
 have hl := hr.len
 obtain ⟨c1, c2, c3⟩ := Zvh hg (by omega)
 have e1 : Zbi a.Kind r a default = Zkn r a default := by rw [h]; rfl
 have e2 : Zbx r a = (Zfw r.List a.S).bind fun r40 => (if ((!r40) && (decide (r.Cap ≤ (r.List.length : Int)))) then (Z5 r (ans 8)) else ((Zfg r.List ({ Score := (0 : Nat), Name := a.S } : Zl) true).bind fun r43 => (Z5 ({ r with List := r43 }) (ans 0)))) := by unfold Zbx Zch; rw [h]; rfl
 have hple := Zny (fun e => sLt e.Name a.S) r.List
 unfold Chg
 rw [e1, e2]
 unfold Zkn Z5
 rw [Znl hs (by omega), Z2e (by omega), Zth hs, Zzl (show (0 : Nat) < W64 by decide) hr.ok.sc (by omega), Z2o, Zpe (by omega)]
 simp only [Option.bind_some]
 by_cases hat : isAt a.S r.List = true
 · rw [hat]
   exact ⟨0, r, _, rfl, rfl, hr, Zde, fun _ => ⟨rfl, rfl⟩⟩
 · have hat' : isAt a.S r.List = false := by simpa using hat
   rw [hat']
   simp only [Bool.not_false, Bool.true_and, Bool.false_eq_true, if_false]
   by_cases hc : decide (r.Cap ≤ (r.List.length : Int)) = true
   · rw [if_pos hc, if_pos hc]
     exact ⟨8, r, _, rfl, rfl, hr, Zde, fun h => by cases h⟩
   · rw [if_neg hc, if_neg hc]
     unfold Zcf
     rw [if_pos ⟨by omega, by omega, by simp, by simp; omega⟩]
     refine ⟨0, _, _, rfl, rfl, hr.withList (by simp; omega) fun e he => ?_, Zde, fun _ => ⟨rfl, rfl⟩⟩
     simp only [List.mem_append, List.mem_singleton, Int.toNat_natCast] at he
     rcases he with (he | rfl) | he
     · exact hr.ok.sc e (List.mem_of_mem_take he)
     · exact (show (0 : Nat) < W64 by decide)
     · exact hr.ok.sc e (List.mem_of_mem_drop he)
theorem Zvv (h : a.Kind = 19) (hr : RecW r) (hg : Zc2 r) (hk : r.Kind = 8) : Chg r a := by
 have hs := Zl5 hg hk
 have hl := hr.len
 have e1 : Zbi a.Kind r a default = Zjs r a default := by rw [h]; rfl
 have e2 : Zbx r a = (Zc9 r a (Int.toNat ((r.List.length : Int) - (0 : Int)) + 1) ([] : List Zl) (0 : Int)).bind fun z57 => match z57 with | y56 => (Z5 ({ r with List := y56 }) (ans 0)) := by unfold Zbx Zch; rw [h]; rfl
 have hple := Zny (fun e => sLt e.Name a.S) r.List
 unfold Chg
 rw [e1, e2]
 unfold Zjs Z5
 have hf := Zoc (a := a) (a0 := r) (by omega) r.List.length 0 [] (by omega) (by simp)
 rw [show ((0 : Nat) : Int) = 0 from rfl] at hf
 rw [Znl hs (by omega), show (Int.toNat ((r.List.length : Int) - (0 : Int)) + 1) = r.List.length + 1 by omega, hf, List.drop_zero, List.nil_append, Z2z hs, Zpe (by omega)]
 simp only [Option.bind_some]
 by_cases hat : isAt a.S r.List = true
 · have hp : pre (fun e => sLt e.Name a.S) r.List < r.List.length := by
     unfold isAt at hat
     cases hq : r.List[pre (fun e => sLt e.Name a.S) r.List]? with
     | none => rw [hq] at hat; cases hat
     | some e => exact (List.getElem?_eq_some_iff.1 hq).1
   rw [hat]
   simp only [if_true]
   unfold Ze2
   rw [wr1 (by omega), if_pos ⟨by omega, by omega, by omega, by omega, by omega⟩]
   refine ⟨0, _, _, rfl, rfl, hr.withList (by simp; omega) fun e he => ?_, Zde, fun _ => ⟨rfl, rfl⟩⟩
   simp only [List.mem_append, Int.toNat_natCast] at he
   rcases he with he | he
   · exact hr.ok.sc e (List.mem_of_mem_take he)
   · exact hr.ok.sc e (List.mem_of_mem_drop he)
 · have hat' : isAt a.S r.List = false := by simpa using hat
   rw [hat']
   exact ⟨0, r, _, rfl, rfl, hr, Zde, fun _ => ⟨rfl, rfl⟩⟩
variable {r : Ze} {a : Z3}
theorem Zym {l : Zdk} {c : Int} (h1 : 1 ≤ c) (h2 : c ≤ 32) : cut l 0 (min (l.length : Int) c) = some (l.take c.toNat) := by
 unfold cut
 rw [if_pos (by omega)]
 simp only [Int.toNat_zero, List.drop_zero, Nat.sub_zero]
 congr 1
 rcases Int.le_total (l.length : Int) c with h | h
 · rw [Int.min_eq_left h, Int.toNat_natCast, List.take_of_length_le (Nat.le_refl _), List.take_of_length_le (by omega)]
 · rw [Int.min_eq_right h]
theorem Z12 (h : a.Kind = 21) (hr : RecW r) (hg : Zc2 r) (hk : r.Kind = 9) (ha : ActW a) : Chg r a := by
 have hl := hr.len
 obtain ⟨c1, c2, c3⟩ := Zvh hg (by omega)
 have e1 : Zbi a.Kind r a default = Zj2 r a default := by rw [h]; rfl
 have e2 : Zbx r a = (Zfg r.List ({ Score := a.X, Name := a.S } : Zl) false).bind fun r63 => (if (decide (r.Cap < (r63.length : Int))) then ((cut r63 (0 : Int) r.Cap).bind fun c66 => (Zel r c66)) else (Zel r r63)) := by unfold Zbx Zch; rw [h]; rfl
 have hx : ({ Score := a.X, Name := a.S } : Zl).Score < W64 := ha.ok.2
 have hple := Zny (Zdu { Score := a.X, Name := a.S } false) r.List
 unfold Chg
 rw [e1, e2]
 unfold Zj2
 rw [Zvw ha.ok.2 hr.ok.sc (by omega), Zzl hx hr.ok.sc (by omega), Zpe (by omega)]
 simp only [Option.bind_some]
 have fin : ∀ L : Zdk, L = r.List.take (pre (Zdu { Score := a.X, Name := a.S } false) r.List) ++ [{ Score := a.X, Name := a.S }] ++ r.List.drop (pre (Zdu { Score := a.X, Name := a.S } false) r.List) → layL { Score := a.X, Name := a.S } false r.List = L →
     ∃ c r' o, ((Zcf r.List ((pre (Zdu { Score := a.X, Name := a.S } false) r.List : Nat) : Int) ([({ Score := a.X, Name := a.S } : Zl)] : List Zl)).bind fun r16 => ((cut r16 (0 : Int) (min (r16.length : Int) r.Cap)).bind fun c18 => (some ((0 : Int), ({ r with List := c18 }), (default : Zg))))) = some (c, r', o) ∧
       (if (decide (r.Cap < ((layL { Score := a.X, Name := a.S } false r.List).length : Int))) = true then ((cut (layL { Score := a.X, Name := a.S } false r.List) (0 : Int) r.Cap).bind fun c66 => (Zel r c66)) else (Zel r (layL { Score := a.X, Name := a.S } false r.List))) = some (if c = 0 then (r', o) else (r, ans c)) ∧ RecW r' ∧ RecW o.Rec ∧ (c = 0 → o.Code = 0 ∧ o.Num = 0) := by
   intro L hL hlay
   have hLl : L.length = r.List.length + 1 := by rw [hL]; simp; omega
   have hLs : ∀ e ∈ L, e.Score < W64 := fun e he => by
     rw [hL] at he
     simp only [List.mem_append, List.mem_singleton] at he
     rcases he with (he | rfl) | he
     · exact hr.ok.sc e (List.mem_of_mem_take he)
     · exact hx
     · exact hr.ok.sc e (List.mem_of_mem_drop he)
   rw [hlay]
   unfold Zcf Zel Z5
   rw [if_pos ⟨by omega, by omega, by simp, by simp; omega⟩]
   simp only [Option.bind_some, Int.toNat_natCast]
   rw [← hL, Zym c1 c2]
   refine ⟨0, { r with List := L.take r.Cap.toNat }, ans 0, rfl, ?_, hr.withList (by simp; omega) (fun e he => hLs e (List.mem_of_mem_take he)), Zde, fun _ => ⟨rfl, rfl⟩⟩
   by_cases hc : decide (r.Cap < (L.length : Int)) = true
   · rw [if_pos hc]
     have : r.Cap < (L.length : Int) := of_decide_eq_true hc
     unfold cut
     rw [if_pos (by omega)]
     simp
   · rw [if_neg hc]
     have : ¬ r.Cap < (L.length : Int) := fun h => hc (decide_eq_true h)
     rw [List.take_of_length_le (by omega)]; rfl
 by_cases hp : pre (Zdu { Score := a.X, Name := a.S } false) r.List < r.List.length
 · have hd : decide (((pre (Zdu { Score := a.X, Name := a.S } false) r.List : Nat) : Int) < (r.List.length : Int)) = true := by simpa using hp
   have hat := Ztu (List.getElem?_eq_getElem hp)
   have hb : Zdh r.List[pre (Zdu { Score := a.X, Name := a.S } false) r.List] { Score := a.X, Name := a.S } = false := hat
   have hbs := Zyx hb
   rw [hd, Zc8 hp]
   simp only [gd_t, Option.bind_some, Bool.true_and]
   rw [Zof hx (hr.ok.sc _ (List.getElem_mem hp))]
   simp only [Option.bind_some]
   by_cases hs : (!Zdh { Score := a.X, Name := a.S } r.List[pre (Zdu { Score := a.X, Name := a.S } false) r.List]) = true
   · rw [if_pos hs]
     have hlay : layL { Score := a.X, Name := a.S } false r.List = r.List := by
       unfold layL
       rw [List.getElem?_eq_getElem hp]
       simp only
       rw [if_pos (by rw [← hbs]; exact hs), List.append_nil, List.take_append_drop]
     rw [hlay, if_neg (by simp; omega)]
     exact ⟨0, r, _, rfl, rfl, hr, Zde, fun _ => ⟨rfl, rfl⟩⟩
   · rw [if_neg hs]
     refine fin _ rfl ?_
     unfold layL
     rw [List.getElem?_eq_getElem hp]
     simp only
     rw [if_neg (by rw [← hbs]; exact hs)]
 · have hd : decide (((pre (Zdu { Score := a.X, Name := a.S } false) r.List : Nat) : Int) < (r.List.length : Int)) = false := by simpa using hp
   rw [hd]
   simp only [gd_f, Option.bind_some, Bool.false_and, Bool.false_eq_true, if_false]
   refine fin _ rfl ?_
   unfold layL
   rw [List.getElem?_eq_none (by omega), List.take_of_length_le (by omega), List.drop_of_length_le (by omega), List.append_nil]
theorem Zrw {k : Int} (h1 : 1 ≤ k) (h2 : k ≤ 21) : ∃ on, Zli k = some on ∧ Zen k = some on ∧ (k ≤ 4 → on = 0) ∧ (5 ≤ k → on ≠ 0) ∧ ((k = 10 ∨ k = 11) → on = 4) ∧ ((k = 18 ∨ k = 19 ∨ k = 20) → on = 8) ∧ (k = 21 → on = 9) ∧
   ((k = 5 ∨ k = 6) → on = 1) ∧ (k = 7 → on = 2) ∧ ((k = 8 ∨ k = 9) → on = 3) ∧ (k = 12 → on = 4) ∧ (k = 13 → on = 5) ∧ (k = 14 → on = 6) ∧ ((k = 15 ∨ k = 16 ∨ k = 17) → on = 7) := by
 have hk' : k = 1 ∨ k = 2 ∨ k = 3 ∨ k = 4 ∨ k = 5 ∨ k = 6 ∨ k = 7 ∨ k = 8 ∨ k = 9 ∨ k = 10 ∨ k = 11 ∨ k = 12 ∨ k = 13 ∨ k = 14 ∨ k = 15 ∨ k = 16 ∨ k = 17 ∨ k = 18 ∨ k = 19 ∨ k = 20 ∨ k = 21 := by omega
 rcases hk' with rfl | rfl | rfl | rfl | rfl | rfl | rfl | rfl | rfl | rfl | rfl | rfl | rfl | rfl | rfl | rfl | rfl | rfl | rfl | rfl | rfl
 all_goals first
   | exact ⟨0, by kernel_rfl, by kernel_rfl, by decide⟩
   | exact ⟨1, by kernel_rfl, by kernel_rfl, by decide⟩
   | exact ⟨2, by kernel_rfl, by kernel_rfl, by decide⟩
   | exact ⟨3, by kernel_rfl, by kernel_rfl, by decide⟩
   | exact ⟨4, by kernel_rfl, by kernel_rfl, by decide⟩
   | exact ⟨5, by kernel_rfl, by kernel_rfl, by decide⟩
   | exact ⟨6, by kernel_rfl, by kernel_rfl, by decide⟩
   | exact ⟨7, by kernel_rfl, by kernel_rfl, by decide⟩
   | exact ⟨8, by kernel_rfl, by kernel_rfl, by decide⟩
   | exact ⟨9, by kernel_rfl, by kernel_rfl, by decide⟩
theorem Zzt (h5 : 5 ≤ a.Kind) (h21 : a.Kind ≤ 21) (hr : RecW r) (hg : Zc2 r) (hon : Zli a.Kind = some r.Kind) (ha : ActW a) : Chg r a := by
 obtain ⟨on, o1, _, _, _, k10, k18, k21, _⟩ := Zrw (k := a.Kind) (by omega) h21
 rw [hon] at o1
 obtain rfl := Option.some.inj o1
 have hk' : a.Kind = 5 ∨ a.Kind = 6 ∨ a.Kind = 7 ∨ a.Kind = 8 ∨ a.Kind = 9 ∨ a.Kind = 10 ∨ a.Kind = 11 ∨ a.Kind = 12 ∨ a.Kind = 13 ∨ a.Kind = 14 ∨ a.Kind = 15 ∨ a.Kind = 16 ∨ a.Kind = 17 ∨ a.Kind = 18 ∨ a.Kind = 19 ∨ a.Kind = 20 ∨ a.Kind = 21 := by omega
 rcases hk' with h | h | h | h | h | h | h | h | h | h | h | h | h | h | h | h | h
 · exact Z6g h hr
 · exact Z4p h hr
 · exact Z56 h hr
 · exact Z4a h hr ha
 · exact Zvu (.inl h) hr
 · exact Z7i h hr hg (k10 (.inl h)) ha
 · exact Z5t h hr hg (k10 (.inr h)) ha
 · exact Zvu (.inr h) hr
 · exact Z3c h hr hg ha
 · exact Z10 h hr hg ha
 · exact Z1o h hr
 · exact Z21 h hr
 · exact Z6p h hr ha
 · exact Z4m h hr hg (k18 (.inl h))
 · exact Zvv h hr hg (k18 (.inr (.inl h)))
 · exact Z6c h hr hg (k18 (.inr (.inr h)))
 · exact Z12 h hr hg (k21 h) ha
structure ActIn (a : Z3) : Prop where
 ok : Zt3 a
 n : I64 a.N
 mkr : RecW a.Make
theorem ActIn.w {a : Z3} (h : ActIn a) {c : Int} (hc : 1 ≤ a.Kind ∧ a.Kind ≤ 21 ∧ a.X = Zcd a.X ∧ a.S.size ≤ 64 ∧ ((a.Kind = 10 ∨ a.Kind = 11) → 0 ≤ a.N ∧ a.N ≤ 2305843009213693952) ∧ (a.Kind = 1 → Zeg a.Make = some 0) ∧ (¬ (5 ≤ a.Kind ∧ a.Kind ≤ 6) → a.S.size ≤ 16) ∧ sEq a.Key ⟨#[]⟩ = false ∧ a.Key.size ≤ 24) : ActW a :=
 ⟨h.ok, h.n, h.mkr, hc.2.2.1, hc.2.2.2.2.1, hc.2.2.2.1, hc.2.2.2.2.2.2.1⟩
theorem Zzh {there : Bool} {r : Ze} {c : Int} (hc : c ≠ 0) {on : Int} (ho : Zen a.Kind = some on) : Zd1 there a r c = some (r, there, ans c) := by
 have h1 : (c == 0) = false := by simpa using hc
 have h2 : (c != 0) = true := by simpa using hc
 unfold Zd1
 simp only [h1, Bool.false_and, Bool.false_eq_true, if_false]
 unfold Zfk
 simp only [h1, Bool.false_and, Bool.false_eq_true, if_false]
 unfold Zfp
 rw [ho]
 simp only [h1, Bool.false_and, Bool.false_eq_true, if_false, Option.bind_some]
 unfold Zfi
 rw [if_pos h2]
theorem Z6a (k : Int) : ∃ on, Zen k = some on := by
 by_cases h : k < 0 ∨ 21 < k
 · exact ⟨0, by unfold Zen; rw [if_pos (by simpa using h)]⟩
 · by_cases h0 : k = 0
   · exact ⟨0, by rw [h0]; kernel_rfl⟩
   · obtain ⟨on, _, h2, _⟩ := Zrw (k := k) (by omega) (by omega)
     exact ⟨on, h2⟩
theorem Z1n {r : Ze} {there : Bool} {a : Z3} (hr : RecW r) (ha : ActIn a) : ∃ x is out, Zjz r there a = some (x, is, out) ∧ Zhv r there a = some (x, is, out) ∧ RecW x ∧ RecW out.Rec := by
 suffices hs : ∀ r0 : Ze, RecW r0 → ∃ x is out, Zgv there a r0 = some (x, is, out) ∧ Zfo there a r0 = some (x, is, out) ∧ RecW x ∧ RecW out.Rec by
   unfold Zjz Zhv
   cases there
   · exact hs _ Zde
   · exact hs r hr
 intro r0 hr0
 unfold Zgv Zfo
 rw [Zjx hr0.len, Zop hr0.len]
 obtain ⟨c, h1, h2, h3⟩ := Zoi ha.ok
 obtain ⟨on, hon⟩ := Z6a a.Kind
 rw [h1, h2]
 simp only [Option.bind_some]
 by_cases hc : c = 0
 · subst hc
   have hf := h3 rfl
   have hw := ha.w (c := 0) hf
   obtain ⟨on2, o1, o2, o3, o4, _⟩ := Zrw hf.1 hf.2.1
   have main : (there = true → Zc2 r0) → ∃ x is out, Zgw there a r0 = some (x, is, out) ∧ Zd1 there a r0 0 = some (x, is, out) ∧ RecW x ∧ RecW out.Rec := by
     intro hg
     unfold Zgw Zgo Zd1 Zfk Zfp
     rw [o1, o2, Zjx hr0.len, Zjx ha.mkr.len]
     unfold Zfi
     rw [Zop hr0.len, Zop ha.mkr.len]
     simp only [Option.bind_some]
     by_cases k1 : a.Kind = 1
     · rw [k1, o3 (by omega)]
       cases there
       · exact ⟨a.Make, true, ans 0, rfl, rfl, ha.mkr, Zde⟩
       · exact ⟨r0, true, ans 7, rfl, rfl, hr0, Zde⟩
     · by_cases k3 : a.Kind = 3
       · rw [k3, o3 (by omega)]
         cases there
         · exact ⟨r0, false, { ans 0 with Num := r0.Kind }, rfl, rfl, hr0, Zde⟩
         · exact ⟨r0, true, { ans 0 with Num := r0.Kind }, rfl, rfl, hr0, Zde⟩
       · by_cases k2 : a.Kind = 2
         · rw [k2, o3 (by omega)]
           cases there
           · exact ⟨r0, false, ans 6, rfl, rfl, hr0, Zde⟩
           · exact ⟨zrc, false, ans 0, rfl, rfl, Zde, Zde⟩
         · by_cases k4 : a.Kind = 4
           · rw [k4, o3 (by omega)]
             cases there
             · exact ⟨r0, false, ans 6, rfl, rfl, hr0, Zde⟩
             · exact ⟨r0, true, { ans 0 with Rec := r0 }, rfl, rfl, hr0, hr0⟩
           · have h5 : 5 ≤ a.Kind := by omega
             have b1 : (a.Kind == 1) = false := by simpa using k1
             have b2 : (a.Kind == 2) = false := by simpa using k2
             have b3 : (a.Kind == 3) = false := by simpa using k3
             have b4 : (a.Kind == 4) = false := by simpa using k4
             have b1' : (a.Kind != 1) = true := by simpa using k1
             have b3' : (a.Kind != 3) = true := by simpa using k3
             have bo : (on2 != 0) = true := by simpa using o4 h5
             simp only [b1, b2, b3, b4, b1', b3', bo, Bool.false_and, Bool.and_false, Bool.and_true, Bool.true_and, Bool.false_eq_true, if_false, beq_self_eq_true]
             cases there
             · exact ⟨r0, false, ans 6, rfl, rfl, hr0, Zde⟩
             · simp only [Bool.not_true, Bool.false_eq_true, if_false, Bool.and_false, Bool.false_and, beq_self_eq_true, Bool.true_and]
               by_cases hk : (on2 != r0.Kind) = true
               · rw [if_pos hk, if_pos hk]
                 exact ⟨r0, true, ans 5, rfl, rfl, hr0, Zde⟩
               · rw [if_neg hk, if_neg hk, if_pos ⟨h5, hf.2.1⟩]
                 have hk' : on2 = r0.Kind := by simpa using hk
                 obtain ⟨c, r', o, e1, e2, w1, w2, _⟩ := Zzt h5 hf.2.1 hr0 (hg rfl) (by rw [← hk']; exact o1) hw
                 rw [e1, e2]
                 simp only [Option.bind_some]
                 by_cases hc : c = 0
                 · subst hc
                   exact ⟨r', true, o, rfl, rfl, w1, w2⟩
                 · have hcn : (c != 0) = true := by simpa using hc
                   rw [if_pos hcn, if_neg hc]
                   exact ⟨r0, true, ans c, rfl, rfl, hr0, Zde⟩
   have z1 : ((0 : Int) != 0) = false := rfl
   have z2 : ((0 : Int) == 0) = true := rfl
   rw [z1, z2]
   simp only [Bool.false_eq_true, if_false, Bool.true_and]
   by_cases ht : there = true
   · rw [if_pos ht, if_pos ht]
     obtain ⟨c2, g1, g2⟩ := Zl3 hr0.ok
     rw [g1, g2]
     simp only [Option.bind_some]
     by_cases hc2 : c2 = 0
     · subst hc2
       rw [z1]
       exact main fun _ => (Zk1 hr0.ok).1 g1
     · have hcn : (c2 != 0) = true := by simpa using hc2
       rw [if_pos hcn, Zzh hc2 o2]
       exact ⟨r0, there, ans c2, rfl, rfl, hr0, Zde⟩
   · rw [if_neg ht, if_neg ht]
     exact main fun h => absurd h ht
 · have hcn : (c != 0) = true := by simpa using hc
   have hcz : (c == 0) = false := by simpa using hc
   rw [if_pos hcn, hcz]
   simp only [Bool.false_and, Bool.false_eq_true, if_false]
   rw [Zzh hc hon]
   exact ⟨r0, there, ans c, rfl, rfl, hr0, Zde⟩
theorem Zz6 {x : Ze} (h : Zj8 x) : x.List.length ≤ 9223372036854775807 := by
 obtain ⟨_, _, _, _, _, _, _, h8, _⟩ := h
 simp only [maxLen] at h8; omega
theorem Zur {x : Ze} (h : Zj8 x) (hl : x.List.length ≤ 100) : RecW x := by
 obtain ⟨h1, h2, h3, h4, h5, _, _, h8, h9⟩ := h
 exact ⟨⟨h5, by omega, fun e he => (h9 e he).1⟩, h2, h3, h4, h1, by omega⟩
theorem eqLr : ∀ l : List Zl, eqL l l = true
 | [] => rfl
 | x :: l => by simp [eqL, eqI, Ze7, eqLr l]
theorem Z7c (a : Ze) : Zk5 a a = true := by simp [Zk5, Ze7, eqLr]
theorem Z3o {a : Z3} (h : Zk7 a) (hl : a.Make.List.length ≤ 100) : ActIn a := by
 obtain ⟨_, _, h3, h4, _, h6, _⟩ := h
 exact ⟨⟨(Zur h6 hl).ok, h4⟩, h3, Zur h6 hl⟩
theorem Z8z {a : Z3} (h : Zk7 a) : ∃ c, Zi3 a = some c ∧ (c = 0 ∨ c = 1) ∧ (c = 0 → a.Make.List.length ≤ 100) := by
 obtain ⟨c, e1, e2, e3⟩ := Z44 (Zz6 h.2.2.2.2.2.1)
 unfold Zi3
 rw [e1]
 by_cases hk : (decide ((200 : Int) < (a.Key.size : Int)) || decide ((1000 : Int) < (a.S.size : Int))) = true
 · rw [hk]; exact ⟨1, rfl, .inr rfl, fun h => by cases h⟩
 · have hk' := Bool.eq_false_iff.2 hk
   rw [hk']
   rcases e2 with rfl | rfl
   · exact ⟨0, rfl, .inl rfl, fun _ => e3 rfl⟩
   · exact ⟨1, rfl, .inr rfl, fun h => by cases h⟩
theorem Z71 {a b : Zg} (ha : RecW a.Rec) (hb : RecW b.Rec) : Zik a b = some ((a.Code == b.Code) && (a.Num == b.Num) && Zk5 a.Rec b.Rec) := by
 unfold Zik
 rw [Zrg ha.ok hb.ok]
 cases (a.Code == b.Code) && (a.Num == b.Num) <;> rfl
def Z1e (r0 : Ze) (there : Bool) (a : Z3) (z : Ze × Bool × Zg) : Prop :=
 (∃ c, c ≠ 0 ∧ z = (r0, there, ans c)) ∨ (Zhg a = some 0 ∧ ActW a ∧ (there = true → Zc2 r0) ∧
   ((a.Kind = 1 ∧ there = false ∧ Zc2 a.Make ∧ z = (a.Make, true, ans 0)) ∨ (a.Kind = 2 ∧ there = true ∧ z = (zrc, false, ans 0)) ∨ (a.Kind = 3 ∧ z = (r0, there, { ans 0 with Num := r0.Kind })) ∨ (a.Kind = 4 ∧ there = true ∧ z = (r0, true, { ans 0 with Rec := r0 })) ∨
     (5 ≤ a.Kind ∧ a.Kind ≤ 21 ∧ there = true ∧ Zli a.Kind = some r0.Kind ∧ ∃ r' o, Zbi a.Kind r0 a default = some (0, r', o) ∧ o.Code = 0 ∧ o.Num = 0 ∧ RecW r' ∧ RecW o.Rec ∧ z = (r', true, o))))
theorem Zyz {r : Ze} {there : Bool} {a : Z3} (hr : RecW r) (ha : ActIn a) : ∃ z, Zjz r there a = some z ∧ Z1e (if there = true then r else zrc) there a z := by
 suffices hs : ∀ r0 : Ze, RecW r0 → ∃ z, Zgv there a r0 = some z ∧ Z1e r0 there a z by
   unfold Zjz
   cases there
   · exact hs _ Zde
   · exact hs r hr
 intro r0 hr0
 unfold Zgv
 rw [Zjx hr0.len]
 obtain ⟨c, h1, h2, h3⟩ := Zoi ha.ok
 rw [h1]
 simp only [Option.bind_some]
 by_cases hc : c = 0
 · subst hc
   have hf := h3 rfl
   have hw := ha.w (c := 0) hf
   obtain ⟨on2, o1, o2, o3, o4, _⟩ := Zrw hf.1 hf.2.1
   have main : (there = true → Zc2 r0) → ∃ z, Zgw there a r0 = some z ∧ Z1e r0 there a z := by
     intro hg
     unfold Zgw Zgo
     rw [o1, Zjx hr0.len, Zjx ha.mkr.len]
     simp only [Option.bind_some]
     by_cases k1 : a.Kind = 1
     · have hm : Zc2 a.Make := (Zk1 ha.mkr.ok).1 (hf.2.2.2.2.2.1 k1)
       rw [k1]
       cases there
       · exact ⟨_, rfl, .inr ⟨h1, hw, hg, .inl ⟨k1, rfl, hm, rfl⟩⟩⟩
       · exact ⟨_, rfl, .inl ⟨7, by decide, rfl⟩⟩
     · by_cases k3 : a.Kind = 3
       · rw [k3]
         exact ⟨_, rfl, .inr ⟨h1, hw, hg, .inr (.inr (.inl ⟨k3, rfl⟩))⟩⟩
       · by_cases k2 : a.Kind = 2
         · rw [k2]
           cases there
           · exact ⟨_, rfl, .inl ⟨6, by decide, rfl⟩⟩
           · exact ⟨_, rfl, .inr ⟨h1, hw, hg, .inr (.inl ⟨k2, rfl, rfl⟩)⟩⟩
         · by_cases k4 : a.Kind = 4
           · rw [k4]
             cases there
             · exact ⟨_, rfl, .inl ⟨6, by decide, rfl⟩⟩
             · exact ⟨_, rfl, .inr ⟨h1, hw, hg, .inr (.inr (.inr (.inl ⟨k4, rfl, rfl⟩)))⟩⟩
           · have h5 : 5 ≤ a.Kind := by omega
             have b1 : (a.Kind == 1) = false := by simpa using k1
             have b2 : (a.Kind == 2) = false := by simpa using k2
             have b3 : (a.Kind == 3) = false := by simpa using k3
             have b4 : (a.Kind == 4) = false := by simpa using k4
             simp only [b1, b2, b3, b4, Bool.false_and, Bool.false_eq_true, if_false]
             cases there
             · exact ⟨_, rfl, .inl ⟨6, by decide, rfl⟩⟩
             · simp only [Bool.not_true, Bool.false_eq_true, if_false]
               by_cases hk : (on2 != r0.Kind) = true
               · rw [if_pos hk]
                 exact ⟨_, rfl, .inl ⟨5, by decide, rfl⟩⟩
               · rw [if_neg hk, if_pos ⟨h5, hf.2.1⟩]
                 have hk' : on2 = r0.Kind := by simpa using hk
                 obtain ⟨c, r', o, e1, e2, w1, w2, w3⟩ := Zzt h5 hf.2.1 hr0 (hg rfl) (by rw [← hk']; exact o1) hw
                 rw [e1]
                 simp only [Option.bind_some]
                 by_cases hc : c = 0
                 · subst hc
                   exact ⟨(r', true, o), rfl, .inr ⟨h1, hw, hg, .inr (.inr (.inr (.inr ⟨h5, hf.2.1, rfl, by rw [← hk']; exact o1, r', o, e1, (w3 rfl).1, (w3 rfl).2, w1, w2, rfl⟩)))⟩⟩
                 · have hcn : (c != 0) = true := by simpa using hc
                   rw [if_pos hcn]
                   exact ⟨_, rfl, .inl ⟨c, hc, rfl⟩⟩
   have z1 : ((0 : Int) != 0) = false := rfl
   rw [z1]
   simp only [Bool.false_eq_true, if_false]
   by_cases ht : there = true
   · rw [if_pos ht]
     obtain ⟨c2, g1, g2⟩ := Zl3 hr0.ok
     rw [g1]
     simp only [Option.bind_some]
     by_cases hc2 : c2 = 0
     · subst hc2
       rw [z1]
       exact main fun _ => (Zk1 hr0.ok).1 g1
     · have hcn : (c2 != 0) = true := by simpa using hc2
       rw [if_pos hcn]
       exact ⟨_, rfl, .inl ⟨c2, hc2, rfl⟩⟩
   · rw [if_neg ht]
     exact main fun h => absurd h ht
 · have hcn : (c != 0) = true := by simpa using hc
   rw [if_pos hcn]
   exact ⟨_, rfl, .inl ⟨c, hc, rfl⟩⟩
theorem Zye {f : Zl → Bool} {l : Zdk} : ∀ y ∈ l.take (pre f l), f y = true := fun y hy => by
 obtain ⟨k, hk, rfl⟩ := List.getElem_of_mem hy
 rw [List.length_take] at hk
 obtain ⟨e, he, hf⟩ := Zw3 (f := f) (l := l) (k := k) (by omega)
 rw [List.getElem?_eq_getElem (by omega)] at he
 rw [List.getElem_take]
 obtain rfl := Option.some.inj he
 exact hf
variable {r r' r'' : Ze} {a : Z3} {o o' : Zg} {c : Int}
theorem Zpv {r : Ze} {m : Int} (hg : Zc2 r) (hk : 2 ≤ r.Kind ∧ r.Kind ≤ 4) (hb : r.Kind = 4 → r.Low ≤ m ∧ m ≤ r.High) : Zc2 { r with Num := m } := by
 obtain ⟨g1, g2, g3, g4, g5, g6, g7⟩ := hg
 refine ⟨g1, g2, ?_, g4, fun h => ⟨(g5 h).1, (g5 h).2.1, (hb h).1, (hb h).2⟩, g6, g7⟩
 unfold Zhb at *
 have : decide (2 ≤ r.Kind ∧ r.Kind ≤ 4) = true := decide_eq_true hk
 simp only [this, Bool.true_or] at *
 exact g3
theorem Znp {a b c : Zl} (h : Zdh a b = true) (k : Zdh b c = true) : Zdh a c = true := by
 unfold Zdh at *
 by_cases h1 : keyf a.Score = keyf b.Score
 · rw [if_pos h1] at h
   by_cases h2 : keyf b.Score = keyf c.Score
   · rw [if_pos h2] at k
     rw [if_pos (h1.trans h2)]; exact Zgg h k
   · rw [if_neg h2] at k
     rw [if_neg (by rw [h1]; exact h2), h1]; exact k
 · rw [if_neg h1] at h
   have h' := of_decide_eq_true h
   by_cases h2 : keyf b.Score = keyf c.Score
   · rw [if_neg (by rw [← h2]; exact h1), ← h2]; exact h
   · rw [if_neg h2] at k
     have k' := of_decide_eq_true k
     rw [if_neg (by omega)]; exact decide_eq_true (by omega)
def BS (l : Zdk) : Prop := l.Pairwise fun p q => Zdh p q = true
def Zrd (k : Int) (e : Zl) : Prop := e.Name.size ≤ 16 ∧ (k = 8 → keyf e.Score = keyf 0) ∧ e.Score = Zcd e.Score
theorem Zng {k : Int} {l : Zdk} {i : Nat} {x : Zl} (h : l[i]? = some x) : Zhn k l i = 0 ↔ Zrd k x ∧ (0 < i → k = 8 → sLt ((l[i - 1]?).getD default).Name x.Name = true) ∧ (0 < i → k = 9 → Zdh ((l[i - 1]?).getD default) x = true) := by
 unfold Zhn Zrd
 rw [h]
 simp only []
 by_cases h1 : (16 : Int) < x.Name.size
 · rw [if_pos h1]; exact ⟨fun h => (by cases h), fun h => by omega⟩
 · rw [if_neg h1]
   by_cases h2 : (k = 8 ∧ keyf x.Score ≠ keyf 0) ∨ x.Score ≠ Zcd x.Score
   · rw [if_pos h2]
     refine ⟨fun h => (by cases h), fun h => ?_⟩
     rcases h2 with ⟨a, b⟩ | b
     · exact absurd (h.1.2.1 a) b
     · exact absurd h.1.2.2 b
   · rw [if_neg h2]
     have e1 : k = 8 → keyf x.Score = keyf 0 := fun hk => Classical.byContradiction fun hn => h2 (.inl ⟨hk, hn⟩)
     have e2 : x.Score = Zcd x.Score := Classical.byContradiction fun hn => h2 (.inr hn)
     by_cases h3 : 0 < i ∧ k = 8 ∧ sLt ((l[i - 1]?).getD default).Name x.Name = false
     · rw [if_pos h3]
       refine ⟨fun h => (by cases h), fun h => ?_⟩
       have := h.2.1 h3.1 h3.2.1
       rw [h3.2.2] at this; cases this
     · rw [if_neg h3]
       have e3 : 0 < i → k = 8 → sLt ((l[i - 1]?).getD default).Name x.Name = true := fun a b => by
         cases hq : sLt ((l[i - 1]?).getD default).Name x.Name
         · exact absurd ⟨a, b, hq⟩ h3
         · rfl
       by_cases h4 : 0 < i ∧ k = 9 ∧ Zdh ((l[i - 1]?).getD default) x = false
       · rw [if_pos h4]
         refine ⟨fun h => (by cases h), fun h => ?_⟩
         have := h.2.2 h4.1 h4.2.1
         rw [h4.2.2] at this; cases this
       · rw [if_neg h4]
         refine ⟨fun _ => ⟨⟨by omega, e1, e2⟩, e3, fun a b => ?_⟩, fun _ => rfl⟩
         cases hq : Zdh ((l[i - 1]?).getD default) x
         · exact absurd ⟨a, b, hq⟩ h4
         · rfl
theorem Zw5 {R : Zl → Zl → Prop} (ht : ∀ {a b c}, R a b → R b c → R a c) {l : Zdk} (step : ∀ i, i + 1 < l.length → R ((l[i]?).getD default) ((l[i + 1]?).getD default)) : l.Pairwise R := by
 have far : ∀ d i, i + d + 1 < l.length → R ((l[i]?).getD default) ((l[i + d + 1]?).getD default) := by
   intro d
   induction d with
   | zero => intro i h; exact step i h
   | succ d ih => intro i h; exact ht (ih i (by omega)) (step (i + d + 1) (by omega))
 refine List.pairwise_iff_getElem.2 fun i j hi hj hij => ?_
 have := far (j - i - 1) i (by omega)
 rw [show i + (j - i - 1) + 1 = j by omega, List.getElem?_eq_getElem hi, List.getElem?_eq_getElem hj] at this
 exact this
theorem Zyj {R : Zl → Zl → Prop} {l : Zdk} (h : l.Pairwise R) {i : Nat} {x : Zl} (hx : l[i]? = some x) (hi : 0 < i) : R ((l[i - 1]?).getD default) x := by
 obtain ⟨h1, rfl⟩ := List.getElem?_eq_some_iff.1 hx
 rw [List.getElem?_eq_getElem (by omega)]
 exact List.pairwise_iff_getElem.1 h _ _ (by omega) h1 (by omega)
theorem Zvm {k : Int} {l : Zdk} : (∀ i, i < l.length → Zhn k l i = 0) ↔ (∀ e ∈ l, Zrd k e) ∧ (k = 8 → NS l) ∧ (k = 9 → BS l) := by
 constructor
 · intro h
   refine ⟨fun e he => ?_, fun hk => ?_, fun hk => ?_⟩
   · obtain ⟨i, hi, rfl⟩ := List.getElem_of_mem he
     exact ((Zng (List.getElem?_eq_getElem hi)).1 (h i hi)).1
   · refine Zw5 (R := fun p q => sLt p.Name q.Name = true) (fun a b => Zgg a b) fun i hi => ?_
     have := ((Zng (List.getElem?_eq_getElem hi)).1 (h (i + 1) hi)).2.1 (by omega) hk
     rw [List.getElem?_eq_getElem hi]; exact this
   · refine Zw5 (R := fun p q => Zdh p q = true) (fun a b => Znp a b) fun i hi => ?_
     have := ((Zng (List.getElem?_eq_getElem hi)).1 (h (i + 1) hi)).2.2 (by omega) hk
     rw [List.getElem?_eq_getElem hi]; exact this
 · intro ⟨h1, h2, h3⟩ i hi
   have hx := List.getElem?_eq_getElem hi
   exact (Zng hx).2 ⟨h1 _ (List.getElem_mem hi), fun a b => Zyj (R := fun p q => sLt p.Name q.Name = true) (h2 b) hx a, fun a b => Zyj (R := fun p q => Zdh p q = true) (h3 b) hx a⟩
theorem Zxq {r : Ze} (h : Zc2 r) (hk : 8 ≤ r.Kind) : 1 ≤ r.Cap ∧ r.Cap ≤ 32 ∧ (r.List.length : Int) ≤ r.Cap ∧ (∀ e ∈ r.List, Zrd r.Kind e) ∧ (r.Kind = 8 → NS r.List) ∧ (r.Kind = 9 → BS r.List) := by
 obtain ⟨a, b, c, d⟩ := h.2.2.2.2.2.2 hk
 exact ⟨a, b, c, Zvm.1 d⟩
theorem Znc {r : Ze} {l : Zdk} (h : Zc2 r) (hk : 8 ≤ r.Kind) (h1 : (l.length : Int) ≤ r.Cap) (h2 : ∀ e ∈ l, Zrd r.Kind e) (h3 : r.Kind = 8 → NS l) (h4 : r.Kind = 9 → BS l) : Zc2 { r with List := l } := by
 obtain ⟨g1, g2, g3, g4, g5, g6, g7⟩ := h
 refine ⟨g1, g2, ?_, g4, g5, g6, fun hk => ⟨(g7 hk).1, (g7 hk).2.1, h1, Zvm.2 ⟨h2, h3, h4⟩⟩⟩
 unfold Zhb at *
 have : decide (8 ≤ r.Kind) = true := decide_eq_true hk
 simp only [this, Bool.true_or] at *
 exact g3
theorem Zqb {r : Ze} {t : ByteArray} (h : Zc2 r) (hk : r.Kind = 1) (h1 : t.size ≤ 64) : Zc2 { r with Text := t } := by
 obtain ⟨g1, g2, g3, g4, g5, g6, g7⟩ := h
 refine ⟨g1, g2, ?_, h1, g5, g6, g7⟩
 unfold Zhb at *
 have : decide (r.Kind = 1) = true := decide_eq_true hk
 simp only [this, Bool.true_or, Bool.true_and] at *
 exact g3
theorem Zv5 {r : Ze} {x : Nat} (h : Zc2 r) (hk : 5 ≤ r.Kind ∧ r.Kind ≤ 7) (h1 : x = Zcd x) : Zc2 { r with Real := x } := by
 obtain ⟨g1, g2, g3, g4, g5, g6, g7⟩ := h
 refine ⟨g1, g2, ?_, g4, g5, h1, g7⟩
 unfold Zhb at *
 have : decide (5 ≤ r.Kind ∧ r.Kind ≤ 7) = true := decide_eq_true hk
 simp only [this, Bool.true_or] at *
 exact g3
variable {r r' : Ze} {a : Z3} {o : Zg}
theorem Zm9 {ψ : Nat → Nat → Option Nat} (hg : Zc2 r) (hk : 5 ≤ r.Kind ∧ r.Kind ≤ 7) (hψ : ∀ m, ψ r.Real a.X = some m → m = Zcd m) (e : Zbi a.Kind r a default = Zer ψ r a default) (h1 : Zbi a.Kind r a default = some (0, r', o)) : Zc2 r' := by
 rw [e] at h1
 unfold Zer at h1
 obtain ⟨m, m1, m2⟩ := Option.bind_eq_some_iff.1 h1
 simp only [Option.some.injEq, Prod.mk.injEq] at m2
 obtain ⟨_, rfl, _⟩ := m2
 exact Zv5 hg hk (hψ m m1)
theorem Z3e (h : a.Kind = 18) (hr : RecW r) (hg : Zc2 r) (hk : r.Kind = 8) (ha : ActW a) (h1 : Zbi a.Kind r a default = some (0, r', o)) : Zc2 r' := by
 have e : Zbi a.Kind r a default = Zkn r a default := by rw [h]; rfl
 obtain ⟨c1, c2, c3, c4, c5, _⟩ := Zxq hg (by omega)
 have hs := c5 hk
 have hl := hr.len
 have hple := Zny (fun e => sLt e.Name a.S) r.List
 rw [e] at h1
 unfold Zkn at h1
 rw [Znl hs (by omega), Zpe (by omega)] at h1
 simp only [Option.bind_some] at h1
 by_cases hat : isAt a.S r.List = true
 · rw [if_pos hat] at h1
   simp only [Option.some.injEq, Prod.mk.injEq, true_and] at h1
   rw [← h1.1]; exact hg
 · rw [if_neg hat] at h1
   by_cases hc : decide (r.Cap ≤ (r.List.length : Int)) = true
   · rw [if_pos hc] at h1; cases h1
   · rw [if_neg hc] at h1
     have hc' : ¬ r.Cap ≤ (r.List.length : Int) := by simpa using hc
     unfold Zcf at h1
     rw [if_pos ⟨by omega, by omega, by simp, by simp; omega⟩] at h1
     simp only [Option.bind_some, Option.some.injEq, Prod.mk.injEq, true_and, Int.toNat_natCast] at h1
     obtain ⟨rfl, _⟩ := h1
     have hbehind : ∀ y ∈ r.List.drop (pre (fun e => sLt e.Name a.S) r.List), sLt a.S y.Name = true := fun y hy => by
       obtain ⟨k, hk, rfl⟩ := List.getElem_of_mem hy
       rw [List.length_drop] at hk
       rw [List.getElem_drop]
       have hm := Zs6 (s := a.S) hs (k := pre (fun e => sLt e.Name a.S) r.List + k) (by omega)
       rw [show decide (pre (fun e => sLt e.Name a.S) r.List + k < pre (fun e => sLt e.Name a.S) r.List) = false by simp] at hm
       refine Zms hm fun hn => ?_
       have hany := Zth (s := a.S) hs
       rw [show isAt a.S r.List = false by simpa using hat, List.any_eq_false] at hany
       exact hany _ (List.getElem_mem _) (Zid.2 hn)
     refine Znc hg (by omega) (by simp; omega) (fun e he => ?_) (fun _ => ?_) (fun h => by omega)
     · simp only [List.mem_append, List.mem_singleton] at he
       rcases he with (he | rfl) | he
       · exact c4 e (List.mem_of_mem_take he)
       · exact ⟨ha.s16 (by omega), fun _ => rfl, by kernel_rfl⟩
       · exact c4 e (List.mem_of_mem_drop he)
     · unfold NS at *
       rw [List.append_assoc, List.pairwise_append]
       refine ⟨hs.sublist (List.take_sublist _ _), ?_, fun x hx y hy => ?_⟩
       · rw [List.singleton_append, List.pairwise_cons]
         exact ⟨hbehind, hs.sublist (List.drop_sublist _ _)⟩
       · have hxa : sLt x.Name a.S = true := Zye (f := fun e => sLt e.Name a.S) x hx
         rcases List.mem_append.1 hy with hy | hy
         · rw [List.mem_singleton.1 hy]; exact hxa
         · exact Zgg hxa (hbehind y hy)
theorem Z0x (h : a.Kind = 19) (hr : RecW r) (hg : Zc2 r) (hk : r.Kind = 8) (h1 : Zbi a.Kind r a default = some (0, r', o)) : Zc2 r' := by
 obtain ⟨c1, c2, c3, c4, c5, _⟩ := Zxq hg (by omega)
 have hl := hr.len
 obtain ⟨c, x, y, d1, d2, _⟩ := Zvv h hr hg hk
 rw [h1] at d1
 simp only [Option.some.injEq, Prod.mk.injEq] at d1
 obtain ⟨rfl, rfl, rfl⟩ := d1
 have e2 : Zbx r a = (Zc9 r a (Int.toNat ((r.List.length : Int) - (0 : Int)) + 1) ([] : List Zl) (0 : Int)).bind fun z57 => match z57 with | y56 => (Z5 ({ r with List := y56 }) (ans 0)) := by unfold Zbx Zch; rw [h]; rfl
 have hf := Zoc (a := a) (a0 := r) (by omega) r.List.length 0 [] (by omega) (by simp)
 rw [show ((0 : Nat) : Int) = 0 from rfl] at hf
 rw [e2, show (Int.toNat ((r.List.length : Int) - (0 : Int)) + 1) = r.List.length + 1 by omega, hf, List.drop_zero, List.nil_append] at d2
 simp only [Option.bind_some, Z5, if_true, Option.some.injEq, Prod.mk.injEq] at d2
 obtain ⟨rfl, _⟩ := d2
 have hle := List.length_filter_le (fun e : Zl => !sEq e.Name a.S) r.List
 exact Znc hg (by omega) (by omega) (fun e he => c4 e (List.mem_filter.1 he).1) (fun _ => List.Pairwise.sublist List.filter_sublist (c5 hk)) (fun h => by omega)
theorem Z01 (h : a.Kind = 21) (hr : RecW r) (hg : Zc2 r) (hk : r.Kind = 9) (ha : ActW a) (h1 : Zbi a.Kind r a default = some (0, r', o)) : Zc2 r' := by
 have e : Zbi a.Kind r a default = Zj2 r a default := by rw [h]; rfl
 obtain ⟨c1, c2, c3, c4, _, c6⟩ := Zxq hg (by omega)
 have hs := c6 hk
 have hl := hr.len
 have hple := Zny (Zdu { Score := a.X, Name := a.S } false) r.List
 rw [e] at h1
 unfold Zj2 at h1
 rw [Zvw ha.ok.2 hr.ok.sc (by omega), Zpe (by omega)] at h1
 simp only [Option.bind_some] at h1
 obtain ⟨e9, g9, h1⟩ := Option.bind_eq_some_iff.1 h1
 obtain ⟨r11, g11, h1⟩ := Option.bind_eq_some_iff.1 h1
 split at h1
 · simp only [Option.some.injEq, Prod.mk.injEq, true_and] at h1
   rw [← h1.1]; exact hg
 · rename_i hcond
   unfold Zcf at h1
   rw [if_pos ⟨by omega, by omega, by simp, by simp; omega⟩] at h1
   simp only [Option.bind_some] at h1
   rw [Zym c1 c2] at h1
   simp only [Option.bind_some, Option.some.injEq, Prod.mk.injEq, true_and, Int.toNat_natCast] at h1
   obtain ⟨rfl, _⟩ := h1
   have hbehind : ∀ y ∈ r.List.drop (pre (Zdu { Score := a.X, Name := a.S } false) r.List), Zdh { Score := a.X, Name := a.S } y = true := fun y hy => by
     have hp : pre (Zdu { Score := a.X, Name := a.S } false) r.List < r.List.length := by
       have := List.length_pos_of_mem hy
       rw [List.length_drop] at this; omega
     have hd : decide (((pre (Zdu { Score := a.X, Name := a.S } false) r.List : Nat) : Int) < (r.List.length : Int)) = true := by simpa using hp
     rw [hd, Zc8 hp] at g9
     simp only [gd_t, Option.some.injEq] at g9
     subst g9
     rw [hd] at g11 hcond
     simp only [gd_t] at g11
     rw [Zof ha.ok.2 (hr.ok.sc _ (List.getElem_mem hp))] at g11
     have hb : Zdh { Score := a.X, Name := a.S } r.List[pre (Zdu { Score := a.X, Name := a.S } false) r.List] = true := by
       have := Option.some.inj g11
       rw [← this] at hcond
       simpa using hcond
     rw [List.drop_eq_getElem_cons hp] at hy
     rcases List.mem_cons.1 hy with rfl | hy
     · exact hb
     · refine Znp hb ?_
       have hpw : (r.List.drop (pre (Zdu { Score := a.X, Name := a.S } false) r.List)).Pairwise fun p q => Zdh p q = true := List.Pairwise.sublist (List.drop_sublist _ _) hs
       rw [List.drop_eq_getElem_cons hp, List.pairwise_cons] at hpw
       exact hpw.1 y hy
   refine Znc hg (by omega) (by rw [List.length_take]; omega) (fun e he => ?_) (fun h => by omega) (fun _ => ?_)
   · have he := List.mem_of_mem_take he
     simp only [List.mem_append, List.mem_singleton] at he
     rcases he with (he | rfl) | he
     · exact c4 e (List.mem_of_mem_take he)
     · exact ⟨ha.s16 (by omega), fun h => by omega, ha.xc⟩
     · exact c4 e (List.mem_of_mem_drop he)
   · refine List.Pairwise.sublist (List.take_sublist _ _) ?_
     rw [List.append_assoc, List.pairwise_append]
     refine ⟨List.Pairwise.sublist (List.take_sublist _ _) hs, ?_, fun x hx y hy => ?_⟩
     · rw [List.singleton_append, List.pairwise_cons]
       exact ⟨hbehind, List.Pairwise.sublist (List.drop_sublist _ _) hs⟩
     · have hxa : Zdh x { Score := a.X, Name := a.S } = true := Zye (f := Zdu { Score := a.X, Name := a.S } false) x hx
       rcases List.mem_append.1 hy with hy | hy
       · rw [List.mem_singleton.1 hy]; exact hxa
       · exact Znp hxa (hbehind y hy)
theorem Zht {k on : Int} {c : Int} (h : Zli k = some on) (e : Zli k = some c) : on = c := Option.some.inj (h.symm.trans e)
theorem Z3l (h5 : 5 ≤ a.Kind) (h21 : a.Kind ≤ 21) (hon : Zli a.Kind = some r.Kind) (hr : RecW r) (hg : Zc2 r) (ha : ActW a) (h1 : Zbi a.Kind r a default = some (0, r', o)) : Zc2 r' := by
 have real : ∀ {m : Nat}, m = r.Real ∨ m = a.X → m = Zcd m := fun {m} h => by
   rcases h with rfl | rfl
   · exact Zm2 hg
   · exact ha.xc
 have hk' : a.Kind = 5 ∨ a.Kind = 6 ∨ a.Kind = 7 ∨ a.Kind = 8 ∨ a.Kind = 9 ∨ a.Kind = 10 ∨ a.Kind = 11 ∨ a.Kind = 12 ∨ a.Kind = 13 ∨ a.Kind = 14 ∨ a.Kind = 15 ∨ a.Kind = 16 ∨ a.Kind = 17 ∨ a.Kind = 18 ∨ a.Kind = 19 ∨ a.Kind = 20 ∨ a.Kind = 21 := by omega
 rcases hk' with h | h | h | h | h | h | h | h | h | h | h | h | h | h | h | h | h
 · have e : Zbi a.Kind r a default = Zjo r a default := by rw [h]; rfl
   rw [e] at h1
   simp only [Zjo, Option.some.injEq, Prod.mk.injEq, true_and] at h1
   rw [← h1.1]
   exact Zqb hg (Zht hon (by rw [h]; kernel_rfl)) ha.s64
 · have e : Zbi a.Kind r a default = Zg3 r a default := by rw [h]; rfl
   rw [e] at h1
   simp only [Zg3, Zjx hr.len, Option.bind_some, Option.some.injEq, Prod.mk.injEq, true_and] at h1
   rw [← h1.1]
   exact Zqb hg (Zht hon (by rw [h]; kernel_rfl)) ha.s64
 · have e : Zbi a.Kind r a default = Zjp r a default := by rw [h]; rfl
   rw [e] at h1
   simp only [Zjp, Option.some.injEq, Prod.mk.injEq, true_and] at h1
   rw [← h1.1]
   have hk : r.Kind = 2 := Zht hon (by rw [h]; kernel_rfl)
   exact Zpv hg (by omega) (fun h => by omega)
 · have e : Zbi a.Kind r a default = Zkk r a default := by rw [h]; rfl
   rw [e] at h1
   unfold Zkk at h1
   split at h1
   · cases h1
   · simp only [Option.some.injEq, Prod.mk.injEq, true_and] at h1
     rw [← h1.1]
     have hk : r.Kind = 3 := Zht hon (by rw [h]; kernel_rfl)
     exact Zpv hg (by omega) (fun h => by omega)
 · have e : Zbi a.Kind r a default = Zd5 r a default := by rw [h]; rfl
   rw [e] at h1
   unfold Zd5 at h1
   split at h1
   · cases h1
   · simp only [Option.some.injEq, Prod.mk.injEq, true_and] at h1
     rw [← h1.1]; exact hg
 · have e : Zbi a.Kind r a default = Zg5 r a default := by rw [h]; rfl
   have hk : r.Kind = 4 := Zht hon (by rw [h]; kernel_rfl)
   obtain ⟨p1, p2, p3, p4⟩ := Zwr hg hk
   obtain ⟨q1, q2⟩ := ha.inout (.inl h)
   rw [e] at h1
   unfold Zg5 at h1
   rw [wr (x := r.High - r.Num) (by omega) (by omega), wr (x := r.Num + a.N) (by omega) (by omega)] at h1
   split at h1
   · cases h1
   · rename_i hcond
     have hcond' : ¬ (r.High - r.Num < a.N) := by simpa using hcond
     simp only [Option.some.injEq, Prod.mk.injEq, true_and] at h1
     rw [← h1.1]
     exact Zpv hg (by omega) (fun _ => by omega)
 · have e : Zbi a.Kind r a default = Zg0 r a default := by rw [h]; rfl
   have hk : r.Kind = 4 := Zht hon (by rw [h]; kernel_rfl)
   obtain ⟨p1, p2, p3, p4⟩ := Zwr hg hk
   obtain ⟨q1, q2⟩ := ha.inout (.inr h)
   rw [e] at h1
   unfold Zg0 at h1
   rw [wr (x := r.Num - r.Low) (by omega) (by omega), wr (x := r.Num - a.N) (by omega) (by omega)] at h1
   split at h1
   · cases h1
   · rename_i hcond
     have hcond' : ¬ (r.Num - r.Low < a.N) := by simpa using hcond
     simp only [Option.some.injEq, Prod.mk.injEq, true_and] at h1
     rw [← h1.1]
     exact Zpv hg (by omega) (fun _ => by omega)
 · have e : Zbi a.Kind r a default = Zd5 r a default := by rw [h]; rfl
   rw [e] at h1
   unfold Zd5 at h1
   split at h1
   · cases h1
   · simp only [Option.some.injEq, Prod.mk.injEq, true_and] at h1
     rw [← h1.1]; exact hg
 · have hk : r.Kind = 5 := Zht hon (by rw [h]; kernel_rfl)
   refine Zm9 (ψ := fun x y => Zk8 x y) hg (by omega) (fun m hm => ?_) (by rw [h]; rfl) h1
   obtain ⟨m', e1, _, e2⟩ := Zyh hr.ok.real ha.ok.2 (Zm2 hg) ha.xc
   have : m = m' := Option.some.inj (hm.symm.trans e1)
   exact real (this ▸ e2)
 · have hk : r.Kind = 6 := Zht hon (by rw [h]; kernel_rfl)
   refine Zm9 (ψ := fun x y => Zk9 x y) hg (by omega) (fun m hm => ?_) (by rw [h]; rfl) h1
   obtain ⟨m', e1, _, e2⟩ := Zxf hr.ok.real ha.ok.2 (Zm2 hg) ha.xc
   have : m = m' := Option.some.inj (hm.symm.trans e1)
   exact real (this ▸ e2)
 · have hk : r.Kind = 7 := Zht hon (by rw [h]; kernel_rfl)
   refine Zm9 (ψ := fun x y => Zih x y) hg (by omega) (fun m hm => ?_) (by rw [h]; rfl) h1
   have hz := Zzw r.Real a.X
   have : Zih r.Real a.X = some (Zcd (fadd r.Real a.X)) := by unfold Zih; rw [Zje hz]; rfl
   have : m = Zcd (fadd r.Real a.X) := Option.some.inj (hm.symm.trans this)
   rw [this, Zsw]
 · have hk : r.Kind = 7 := Zht hon (by rw [h]; kernel_rfl)
   refine Zm9 (ψ := fun x y => Zhj x y) hg (by omega) (fun m hm => ?_) (by rw [h]; rfl) h1
   have hz := Zz3 r.Real a.X
   have : Zhj r.Real a.X = some (Zcd (fmul r.Real a.X)) := by unfold Zhj; rw [Zje hz]; rfl
   have : m = Zcd (fmul r.Real a.X) := Option.some.inj (hm.symm.trans this)
   rw [this, Zsw]
 · have hk : r.Kind = 7 := Zht hon (by rw [h]; kernel_rfl)
   refine Zm9 (ψ := fun x y => Zg1 x y) hg (by omega) (fun m hm => ?_) (by rw [h]; rfl) h1
   exact real (.inr (Option.some.inj hm).symm)
 · exact Z3e h hr hg (Zht hon (by rw [h]; kernel_rfl)) ha h1
 · exact Z0x h hr hg (Zht hon (by rw [h]; kernel_rfl)) h1
 · have hk : r.Kind = 8 := Zht hon (by rw [h]; kernel_rfl)
   have e : Zbi a.Kind r a default = Zfn r a default := by rw [h]; rfl
   have hl := hr.len
   rw [e] at h1
   unfold Zfn at h1
   rw [Znl (Zl5 hg hk) (by omega)] at h1
   simp only [Option.bind_some] at h1
   split at h1
   · cases h1
   · simp only [Option.some.injEq, Prod.mk.injEq, true_and] at h1
     rw [← h1.1]; exact hg
 · exact Z01 h hr hg (Zht hon (by rw [h]; kernel_rfl)) ha h1
theorem Z0j (hk : a.Kind = 9 ∨ a.Kind = 12 ∨ a.Kind = 20) (hr : RecW r) (hg : Zc2 r) (hon : Zli a.Kind = some r.Kind) (h1 : Zbi a.Kind r a default = some (0, r', o)) : r' = r := by
 rcases hk with h | h | h
 · have e : Zbi a.Kind r a default = Zd5 r a default := by rw [h]; rfl
   rw [e] at h1
   unfold Zd5 at h1
   split at h1
   · cases h1
   · simp only [Option.some.injEq, Prod.mk.injEq, true_and] at h1
     exact h1.1.symm
 · have e : Zbi a.Kind r a default = Zd5 r a default := by rw [h]; rfl
   rw [e] at h1
   unfold Zd5 at h1
   split at h1
   · cases h1
   · simp only [Option.some.injEq, Prod.mk.injEq, true_and] at h1
     exact h1.1.symm
 · have hk : r.Kind = 8 := Zht hon (by rw [h]; kernel_rfl)
   have e : Zbi a.Kind r a default = Zfn r a default := by rw [h]; rfl
   have hl := hr.len
   rw [e] at h1
   unfold Zfn at h1
   rw [Znl (Zl5 hg hk) (by omega)] at h1
   simp only [Option.bind_some] at h1
   split at h1
   · cases h1
   · simp only [Option.some.injEq, Prod.mk.injEq, true_and] at h1
     exact h1.1.symm
structure Z5u (t : Bool) (r : Ze) : Prop where
 w : RecW r
 good : t = true → Zc2 r
 zero : t = false → r = zrc
theorem Zqy {k : ByteArray} {r : Ze} {l : List KV} (hs : Srt l) (h : lk k l = some r) : insL k r l = l := by
 rcases Zl0 r hs with ⟨p, a1, a2, a3, a4, _⟩ | ⟨_, a2, _⟩
 · rw [a4]
   rw [h] at a3
   obtain rfl := Option.some.inj a3
   have e : (k, p.2) = p := by rw [← a2]
   rw [e]
   obtain ⟨hlt, hp⟩ := List.getElem?_eq_some_iff.1 a1
   have := List.take_append_drop (rk k l) l
   rw [List.drop_eq_getElem_cons hlt, hp] at this
   exact this
 · rw [h] at a2; cases a2
theorem Z25 {k : ByteArray} {r : Ze} : ∀ {l : List KV}, lk k l = some r → (k, r) ∈ l
 | [], h => by cases h
 | p :: l, h => by
   simp only [lk] at h
   split at h
   · rename_i he
     obtain rfl := Option.some.inj h
     have := Zid.1 he
     subst this
     exact List.mem_cons_self ..
   · exact List.mem_cons_of_mem _ (Z25 h)
theorem Ztx {r : Ze} (h : Zc2 r) : r.List.length ≤ 32 := by
 by_cases hk : 8 ≤ r.Kind
 · have := h.2.2.2.2.2.2 hk
   omega
 · have h1 := h.2.2.1
   have h8 : decide (8 ≤ r.Kind) = false := by simpa using hk
   rw [h8] at h1
   simp only [Zhb, Bool.false_or, Bool.and_eq_true, beq_iff_eq] at h1
   have := h1.2.2
   omega
theorem Zh9 {s s' : Zo} {k : ByteArray} {x : Ze} {c : Int} (h : Zd7 s k x = some (s', c)) : s'.room = s.room := by
 unfold Zd7 at h
 split at h
 · cases h; rfl
 · obtain ⟨_, _, h⟩ := Option.bind_eq_some_iff.1 h
   split at h
   · cases h; rfl
   · obtain ⟨_, _, h⟩ := Option.bind_eq_some_iff.1 h
     obtain ⟨_, _, h⟩ := Option.bind_eq_some_iff.1 h
     split at h
     · cases h; rfl
     · obtain ⟨_, _, h⟩ := Option.bind_eq_some_iff.1 h
       obtain ⟨_, _, h⟩ := Option.bind_eq_some_iff.1 h
       cases h; rfl
theorem Zq1 {s s' : Zo} {k : ByteArray} {b : Bool} (h : Zgl s k = some (s', b)) : s'.room = s.room := by
 unfold Zgl at h
 obtain ⟨_, _, h⟩ := Option.bind_eq_some_iff.1 h
 split at h
 · cases h; rfl
 · obtain ⟨_, _, h⟩ := Option.bind_eq_some_iff.1 h
   cases h; rfl
theorem Zs7 {s s' : Zo} {t : Zj} {n : Nat} (h : Rel s t n) (hn : n < 1000000) {k : ByteArray} {x : Ze} {c : Int} (e : Zd7 s k x = some (s', c)) (hc : Zeg x = some 0) (hx : x.List.length ≤ 100) (hk : sEq k ⟨#[]⟩ = false) (hk2 : k.size ≤ 24) :
   (((lk k (pl t)).isSome = true ∨ (t.L.length : Int) < t.Room) → c = 0 ∧ toL s'.top = insL k x (pl t)) ∧ ((lk k (pl t)).isNone = true → t.Room ≤ (t.L.length : Int) → c = 8 ∧ s' = s) := by
 have hb := h.len
 obtain ⟨t1, q1, _, q3⟩ := Zzm (k := k) (x := x) h.sz (by rw [h.top]; exact h.srt) (by rw [h.tl]; omega)
 unfold Zd7 at e
 rw [hk, hc, Zr2 h, Zu5 h, Zpo (by unfold Cl; omega)] at e
 have hd : decide ((24 : Int) < (k.size : Int)) = false := by simp; omega
 rw [hd] at e
 simp only [Bool.or_self, Bool.false_eq_true, if_false, Option.bind_some, bne_self_eq_false] at e
 cases hl : lk k (pl t) with
 | none =>
   rw [hl] at e
   simp only [getR, Bool.not_false, gd_t, Option.bind_some, Bool.true_and, h.room] at e
   by_cases hr : t.Room ≤ (t.L.length : Int)
   · rw [if_pos (by simpa using hr)] at e
     cases e
     refine ⟨fun h => ?_, fun _ _ => ⟨rfl, rfl⟩⟩
     rcases h with h | h
     · cases h
     · omega
   · rw [if_neg (by simpa using hr), q1] at e
     cases e
     exact ⟨fun _ => ⟨rfl, by rw [← h.top]; exact q3⟩, fun _ h => absurd h hr⟩
 | some r =>
   rw [hl] at e
   simp only [getR, Bool.not_true, gd_f, Option.bind_some, Bool.false_and, Bool.false_eq_true, if_false] at e
   rw [q1] at e
   cases e
   exact ⟨fun _ => ⟨rfl, by rw [← h.top]; exact q3⟩, fun h => by cases h⟩
structure FR (s : Zo) (t : Zj) (n : Nat) : Prop where
 rel : Rel s t n
 good : ∀ q ∈ pl t, RecW q.2 ∧ Zc2 q.2
 fit : (t.L.length : Int) ≤ t.Room
theorem Z3u {k : ByteArray} {x r : Ze} {l : List KV} (hs : Srt l) (h : lk k l = some r) : (insL k x l).length = l.length := by
 rcases Zl0 x hs with ⟨p, a1, a2, a3, a4, _⟩ | ⟨_, a2, _⟩
 · rw [a4]
   have := (List.getElem?_eq_some_iff.1 a1).1
   simp; omega
 · rw [h] at a2; cases a2
theorem FR.mono {s : Zo} {t : Zj} {n m : Nat} (h : FR s t n) (hm : n ≤ m) : FR s t m := ⟨h.rel.mono hm, h.good, h.fit⟩
theorem Z8o {s : Zo} {t t' : Zj} {n : Nat} (h : Rel s t n) (hp : pl t' = pl t) (hr : t'.Room = t.Room) : Rel s t' n :=
 ⟨h.top.trans hp.symm, h.sz, by rw [hp]; exact h.srt, by rw [← Zgf, hp, Zgf]; exact h.len, h.room.trans hr.symm, by rw [hp]; exact h.ok⟩
theorem Zo9 {s : Zo} {t t' : Zj} {n : Nat} (h : FR s t n) (hp : pl t' = pl t) (hr : t'.Room = t.Room) : FR s t' n :=
 ⟨Z8o h.rel hp hr, by rw [hp]; exact h.good, by rw [hr, ← Zgf, hp, Zgf]; exact h.fit⟩
theorem Z2g {s s' : Zo} {t t' : Zj} {n m : Nat} {k : ByteArray} {x : Ze} (h : FR s t n) (hr : Rel s' t' m) (hw : RecW x) (hg : Zc2 x) (ho : (lk k (pl t)).isSome = true ∨ (t.L.length : Int) < t.Room) (hp : pl t' = insL k x (pl t)) (hro : t'.Room = t.Room) : FR s' t' m := ⟨hr, fun q hq => by
 rw [hp] at hq
 rcases Zr7 hq with rfl | hq
 · exact ⟨hw, hg⟩
 · exact h.good q hq, by
 have hf := h.fit
 rw [hro, ← Zgf, hp]
 have hl := Znx k x (pl t)
 rw [Zgf] at hl
 rcases ho with ho | ho
 · obtain ⟨r, hr⟩ := Option.isSome_iff_exists.1 ho
   rw [Z3u h.rel.srt hr, Zgf]; exact hf
 · omega⟩
theorem Z8e {a : Z3} (ha : ActIn a) (h : Zhg a = some 0) : sEq a.Key ⟨#[]⟩ = false ∧ a.Key.size ≤ 24 := by
 obtain ⟨c, h1, _, h3⟩ := Zoi ha.ok
 rw [h] at h1
 obtain rfl := Option.some.inj h1
 exact ⟨(h3 rfl).2.2.2.2.2.2.2.1, (h3 rfl).2.2.2.2.2.2.2.2⟩
theorem Z18 {s : Zo} {t : Zj} {n : Nat} (h : FR s t n) (hn : n < 1000000) {a : Z3} (ha : ActIn a) :
   ∃ s' t' out, Zmr s a = some (s', out) ∧ Ziv t a = some (t', out) ∧ FR s' t' (n + 1) ∧ RecW out.Rec ∧ t'.Room = t.Room := by
 obtain ⟨r, there, hg, hi, hl1, hl2⟩ : ∃ r there, getR (lk a.Key (pl t)) = (r, there) ∧ Z5u there r ∧ (there = true → lk a.Key (pl t) = some r) ∧ (there = false → lk a.Key (pl t) = none) := by
   cases hl : lk a.Key (pl t) with
   | none => exact ⟨_, _, rfl, ⟨Zde, fun h => (by cases h), fun _ => rfl⟩, fun h => (by cases h), fun _ => rfl⟩
   | some r =>
     obtain ⟨g1, g2⟩ := h.good _ (Z25 hl)
     exact ⟨_, _, rfl, ⟨g1, fun _ => g2, fun h => (by cases h)⟩, fun _ => rfl, fun h => (by cases h)⟩
 obtain ⟨x, is, out, e1, e2, w1, w2⟩ := Z1n (there := there) hi.w ha
 obtain ⟨z, e3, hs⟩ := Zyz (there := there) hi.w ha
 have hr0 : (if there = true then r else zrc) = r := by
   cases there
   · exact (hi.zero rfl).symm
   · rfl
 rw [hr0] at hs
 rw [e1] at e3
 obtain rfl := Option.some.inj e3
 unfold Zmr Ziv
 rw [Zr2 h.rel, Z6l h.rel hn, hg]
 simp only [Option.bind_some]
 rw [e1, e2]
 simp only [Option.bind_some, Zoe]
 rcases hs with ⟨c, hc, hz⟩ | ⟨h1, h2, h3, hs⟩
 · obtain ⟨rfl, rfl, rfl⟩ : x = r ∧ is = there ∧ out = ans c := by simpa using hz
   have hc' : (c != 0) = true := by simpa using hc
   simp only [hc', Bool.not_true, gd_f, Option.bind_some, Bool.true_or, if_true]
   exact ⟨s, t, _, rfl, rfl, h.mono (by omega), w2, rfl⟩
 obtain ⟨k1, k2⟩ := Z8e ha h1
 have hset : ∀ {y : Ze}, RecW y → Zc2 y → ((lk a.Key (pl t)).isSome = true ∨ (t.L.length : Int) < t.Room) → ∃ s' t', Zd7 s a.Key y = some (s', 0) ∧ Zem t a.Key y = some (t', 0) ∧ FR s' t' (n + 1) ∧ pl t' = insL a.Key y (pl t) := fun {y} hw hgy ho => by
   have hsh := Ztx hgy
   obtain ⟨s', t', c, f1, f2, f3, _⟩ := Zs8 h.rel hn a.Key hw.ok (by omega)
   obtain ⟨rfl, hp⟩ := (Zs7 h.rel hn f1 ((Zk1 hw.ok).2 hgy) (by omega) k1 k2).1 ho
   rw [f3.top] at hp
   exact ⟨s', t', f1, f2, Z2g h f3 hw hgy ho hp (by rw [← f3.room, Zh9 f1, h.rel.room]), hp⟩
 rcases hs with ⟨hk, rfl, hmk, hz⟩ | ⟨hk, rfl, hz⟩ | ⟨hk, hz⟩ | ⟨hk, rfl, hz⟩ | ⟨k5, k21, rfl, kon, r', o, q1, q2, q3, q4, q5, hz⟩
 · -- New
   obtain ⟨rfl, rfl, rfl⟩ : x = a.Make ∧ is = true ∧ out = ans 0 := by simpa using hz
   have hl := hl2 rfl
   rw [hk]
   simp only [bne_self_eq_false, Bool.not_false, gd_t, Option.bind_some, show ((((((1 : Int) == 3) || ((1 : Int) == 4)) || ((1 : Int) == 9)) || ((1 : Int) == 12)) || ((1 : Int) == 20)) = false from rfl, Bool.or_self, Bool.false_eq_true, if_false, Bool.not_true, beq_self_eq_true, Bool.true_and]
   by_cases hr : t.Room ≤ (t.L.length : Int)
   · rw [if_pos (by simpa using hr)]
     have hsh := Ztx hmk
     obtain ⟨s', t', c, f1, f2, f3, _⟩ := Zs8 h.rel hn a.Key ha.mkr.ok (by omega)
     obtain ⟨rfl, rfl⟩ := (Zs7 h.rel hn f1 ((Zk1 ha.mkr.ok).2 hmk) (by omega) k1 k2).2 (by rw [hl]; rfl) hr
     rw [f1]
     exact ⟨s', t, _, rfl, rfl, h.mono (by omega), Zde, rfl⟩
   · rw [if_neg (by simpa using hr)]
     obtain ⟨s', t', f1, f2, f3, _⟩ := hset ha.mkr hmk (.inr (by omega))
     rw [f1, f2]
     exact ⟨s', t', _, rfl, rfl, f3, Zde, by rw [← f3.rel.room, Zh9 f1, h.rel.room]⟩
 · -- Drop
   obtain ⟨rfl, rfl, rfl⟩ : x = zrc ∧ is = false ∧ out = ans 0 := by simpa using hz
   rw [hk]
   obtain ⟨s', t', b, f1, f2, f3, f4⟩ := Zxu h.rel hn a.Key
   rw [f1, f2]
   have hro : t'.Room = t.Room := by rw [← f3.room, Zq1 f1, h.rel.room]
   have hf := h.fit
   refine ⟨s', t', ans 0, rfl, rfl, ⟨f3.mono (by omega), fun q hq => ?_, ?_⟩, Zde, hro⟩
   · rcases f4 with f4 | f4
     · rw [f4] at hq; exact h.good q hq
     · rw [f4] at hq; exact h.good q (Zr4 hq)
   · rw [hro, ← Zgf]
     rcases f4 with f4 | f4
     · rw [f4, Zgf]; exact hf
     · have := Zpm a.Key (pl t)
       rw [Zgf] at this
       rw [f4]; omega
 · -- Is
   obtain ⟨rfl, rfl, rfl⟩ : x = r ∧ is = there ∧ out = { ans 0 with Num := r.Kind } := by simpa using hz
   rw [hk]
   cases is with
   | true =>
     have hl := hl1 rfl
     obtain ⟨s', t', f1, f2, f3, f4⟩ := hset hi.w (hi.good rfl) (.inl (by rw [hl]; rfl))
     rw [f2]
     rw [Zqy h.rel.srt hl] at f4
     exact ⟨s, t', _, rfl, rfl, (Zo9 h f4 (by rw [← f3.rel.room, Zh9 f1, h.rel.room])).mono (by omega), Zde, by rw [← f3.rel.room, Zh9 f1, h.rel.room]⟩
   | false =>
     have hl := hl2 rfl
     obtain ⟨s', t', b, f1, f2, f3, f4⟩ := Zxu h.rel hn a.Key
     rw [f2]
     have hp : pl t' = pl t := by
       rcases f4 with f4 | f4
       · exact f4
       · rcases Zl0 x h.rel.srt with ⟨_, _, _, a3, _⟩ | ⟨_, _, _, a4⟩
         · rw [hl] at a3; cases a3
         · rw [f4, a4]
     exact ⟨s, t', _, rfl, rfl, (Zo9 h hp (by rw [← f3.room, Zq1 f1, h.rel.room])).mono (by omega), Zde, by rw [← f3.room, Zq1 f1, h.rel.room]⟩
 · -- Look
   obtain ⟨rfl, rfl, rfl⟩ : x = r ∧ is = true ∧ out = { ans 0 with Rec := r } := by simpa using hz
   rw [hk]
   have hl := hl1 rfl
   obtain ⟨s', t', f1, f2, f3, f4⟩ := hset hi.w (hi.good rfl) (.inl (by rw [hl]; rfl))
   rw [f2]
   rw [Zqy h.rel.srt hl] at f4
   exact ⟨s, t', _, rfl, rfl, (Zo9 h f4 (by rw [← f3.rel.room, Zh9 f1, h.rel.room])).mono (by omega), hi.w, by rw [← f3.rel.room, Zh9 f1, h.rel.room]⟩
 · -- what changes a record
   obtain ⟨rfl, rfl, rfl⟩ : x = r' ∧ is = true ∧ out = o := by simpa using hz
   have hl := hl1 rfl
   have hgx : Zc2 x := Z3l k5 k21 kon hi.w (hi.good rfl) h2 q1
   obtain ⟨s', t', f1, f2, f3, f4⟩ := hset q4 hgx (.inl (by rw [hl]; rfl))
   have hk1 : (a.Kind == 1) = false := by simp; omega
   rw [q2, hk1]
   simp only [bne_self_eq_false, Bool.not_false, gd_t, Option.bind_some, Bool.false_or, Bool.false_eq_true, if_false, Bool.not_true, Bool.false_and]
   rw [f1, f2]
   by_cases hrd : (((((a.Kind == (3 : Int)) || (a.Kind == (4 : Int))) || (a.Kind == (9 : Int))) || (a.Kind == (12 : Int))) || (a.Kind == (20 : Int))) = true
   · rw [if_pos hrd]
     have hx : x = r := by
       refine Z0j ?_ hi.w (hi.good rfl) kon q1
       simp only [Bool.or_eq_true, beq_iff_eq] at hrd
       omega
     subst hx
     rw [Zqy h.rel.srt hl] at f4
     exact ⟨s, t', _, rfl, rfl, (Zo9 h f4 (by rw [← f3.rel.room, Zh9 f1, h.rel.room])).mono (by omega), q5, by rw [← f3.rel.room, Zh9 f1, h.rel.room]⟩
   · rw [if_neg hrd]
     exact ⟨s', t', _, rfl, rfl, f3, q5, by rw [← f3.rel.room, Zh9 f1, h.rel.room]⟩
theorem Zst {d : Zb0} (hd : ∀ a ∈ d.Acts, ActIn a) (hl : d.Acts.length ≤ 12) : ∀ (n i : Nat), i + n = d.Acts.length →
   ∃ z, Zgu d (n + 1) (i : Int) = some z ∧ Zd8 d (n + 1) (i : Int) = some z ∧ (z = .inr () ∨ ∃ c at_, z = .inl (c, at_) ∧ c ≠ 0)
 | 0, i, h => by
   rw [Zgu, Zd8, if_neg (by simp; omega), if_neg (by simp; omega)]
   exact ⟨_, rfl, rfl, .inl rfl⟩
 | n + 1, i, h => by
   have h1 : i < d.Acts.length := by omega
   obtain ⟨c, e1, e2, _⟩ := Zoi (hd _ (List.getElem_mem h1)).ok
   rw [Zgu, Zd8, if_pos (by simp; omega), if_pos (by simp; omega), Zc8 h1, wr1 (by omega)]
   simp only [Option.bind_some]
   rw [e1, e2]
   simp only [Option.bind_some]
   by_cases hc : (c != 0) = true
   · rw [if_pos hc, if_pos hc]
     exact ⟨_, rfl, rfl, .inr ⟨_, _, rfl, by simpa using hc⟩⟩
   · rw [if_neg hc, if_neg hc]
     exact Zst hd hl n (i + 1) (by omega)
theorem Zyv {d : Zb0} (hd : ∀ a ∈ d.Acts, ActIn a) : ∃ c at_, Zly d = some (c, at_) ∧ Zhz d = some (c, at_) ∧ (c = 0 → 1 ≤ d.Acts.length ∧ d.Acts.length ≤ 12) := by
 unfold Zly Zhz
 by_cases h : d.Acts.length < 1 ∨ 12 < d.Acts.length
 · rw [if_pos (by rw [Bool.or_eq_true, beq_iff_eq, decide_eq_true_eq]; omega), if_pos (by rw [Bool.or_eq_true, decide_eq_true_eq, decide_eq_true_eq]; omega)]
   exact ⟨_, _, rfl, rfl, fun h => by cases h⟩
 · rw [if_neg (by rw [Bool.or_eq_true, beq_iff_eq, decide_eq_true_eq]; omega), if_neg (by rw [Bool.or_eq_true, decide_eq_true_eq, decide_eq_true_eq]; omega)]
   obtain ⟨z, e1, e2, hz⟩ := Zst hd (by omega) d.Acts.length 0 (by omega)
   rw [show ((0 : Nat) : Int) = 0 from rfl] at e1 e2
   rw [show (Int.toNat ((d.Acts.length : Int) - (0 : Int)) + 1) = d.Acts.length + 1 by omega, e1, e2]
   rcases hz with rfl | ⟨c, at_, rfl, hc⟩
   · exact ⟨_, _, rfl, rfl, fun _ => by omega⟩
   · exact ⟨_, _, rfl, rfl, fun h => absurd h hc⟩
def Ztl (L : List Zg) : Prop := ∀ a ∈ L, RecW a.Rec
theorem Z1k {L : List Zg} {a : Zg} (h : Ztl L) (ha : RecW a.Rec) : Ztl (L ++ [a]) := fun b hb => by
 rcases List.mem_append.1 hb with hb | hb
 · exact h b hb
 · rw [List.mem_singleton.1 hb]; exact ha
theorem Z0w {ε β : Type} (e : Z3) (out : Zg) (i : Int) (F : Zdp → Option β) (R : Zg → Option β) :
   Zx4 (Zlg e out i) F ((Znb e out i).bind R) = if (e.Must && (out.Code != 0)) = true then F { code := out.Code, at_ := i } else R out := by
 unfold Zlg Znb
 by_cases h : (e.Must && (out.Code != 0)) = true
 · rw [if_pos h, if_pos h, if_pos h]; rfl
 · rw [if_neg h, if_neg h, if_neg h]; rfl
theorem Zxi {d : Zb0} (hd : ∀ a ∈ d.Acts, ActIn a) (hl : d.Acts.length ≤ 12) {s0 : Zo} {t0 : Zj} : ∀ (n i : Nat) {s : Zo} {t : Zj} {m : Nat} {L : List Zg}, i + n = d.Acts.length → FR s t m → m + n < 1000000 → L.length = i → Ztl L →
   (∃ R : Zt, R.Code ≠ 0 ∧ R.Answers = [] ∧ Zg8 s0 d (n + 1) { Code := 0, At := 0, Answers := L } s (i : Int) = some (.inl (s0, R)) ∧ Zdy t0 d (n + 1) default default t L (i : Int) = some (.inl (t0, R))) ∨
   (∃ s' t' L', Zg8 s0 d (n + 1) { Code := 0, At := 0, Answers := L } s (i : Int) = some (.inr ({ Code := 0, At := 0, Answers := L' }, s')) ∧ Zdy t0 d (n + 1) default default t L (i : Int) = some (.inr (default, default, t', L')) ∧ FR s' t' (m + n) ∧ Ztl L' ∧ L'.length = d.Acts.length ∧ t'.Room = t.Room)
 | 0, i, s, t, m, L, h, hf, hm, hL, hA => by
   right
   rw [Zg8, Zdy, if_neg (by simp; omega), if_neg (by simp; omega)]
   exact ⟨s, t, L, rfl, rfl, hf, hA, by omega, rfl⟩
 | n + 1, i, s, t, m, L, h, hf, hm, hL, hA => by
   have h1 : i < d.Acts.length := by omega
   obtain ⟨s', t', out, e1, e2, hf', hw, hro⟩ := Z18 hf (by omega) (hd _ (List.getElem_mem h1))
   rw [Zg8, Zdy, if_pos (by simp; omega), if_pos (by simp; omega), Zc8 h1, wr1 (by omega)]
   simp only [Option.bind_some]
   rw [e1, e2]
   simp only [Option.bind_some, Z0w (ε := Unit)]
   have hg : (gd (out.Code != 0) (some d.Acts[i])) = some (if (out.Code != 0) = true then d.Acts[i] else default) := Zo8 _ _
   rw [hg]
   simp only [Option.bind_some]
   have hb : ((out.Code != 0) && (if (out.Code != 0) = true then d.Acts[i] else default).Must) = ((d.Acts[i]).Must && (out.Code != 0)) := by
     cases hz : (out.Code != 0)
     · simp
     · simp
   rw [hb]
   by_cases hc : ((d.Acts[i]).Must && (out.Code != 0)) = true
   · rw [if_pos hc, if_pos hc]
     left
     have hne : out.Code ≠ 0 := by
       have := (Bool.and_eq_true _ _ ▸ hc : _ ∧ _).2
       simpa using this
     exact ⟨_, hne, rfl, rfl, rfl⟩
   · rw [if_neg hc, if_neg hc]
     have hlen : (L.length + [out].length) * 104 ≤ 140737488355328 := by simp; omega
     rw [if_pos hlen, if_pos hlen]
     have := Zxi hd hl (s0 := s0) (t0 := t0) n (i + 1) (L := L ++ [out]) (by omega) hf' (by omega) (by simp; omega) (Z1k hA hw)
     rcases this with ⟨R, h0, h1, h2, h3⟩ | ⟨s2, t2, L2, h1, h2, h3, h4, h5, h6⟩
     · exact .inl ⟨R, h0, h1, h2, h3⟩
     · exact .inr ⟨s2, t2, L2, h1, h2, h3.mono (by omega), h4, h5, h6.trans hro⟩
def Zqx (R : Zt) : Prop := R.Answers.length ≤ 12 ∧ Ztl R.Answers
theorem Z4l {s : Zo} {t : Zj} {n : Nat} (h : FR s t n) (hn : n + 12 < 1000000) {d : Zb0} (hd : ∀ a ∈ d.Acts, ActIn a) :
   ∃ s' t' R, Zlo s d = some (s', R) ∧ Zi4 t d = some (t', R) ∧ FR s' t' (n + 12) ∧ Zqx R ∧ (R.Code ≠ 0 → s' = s ∧ t' = t ∧ R.Answers = []) ∧ (R.Code = 0 → R.At = 0 ∧ R.Answers.length = d.Acts.length) ∧ t'.Room = t.Room := by
 obtain ⟨c, at_, e1, e2, hc⟩ := Zyv hd
 unfold Zlo Zi4
 rw [e1, e2]
 simp only [Option.bind_some]
 by_cases h0 : (c != 0) = true
 · rw [if_pos h0, if_pos h0]
   exact ⟨s, t, _, rfl, rfl, h.mono (by omega), ⟨by simp, fun a ha => by cases ha⟩, fun _ => ⟨rfl, rfl, rfl⟩, fun hz => absurd hz (by simpa using h0), rfl⟩
 · rw [if_neg h0, if_neg h0]
   have hl := hc (by simpa using h0)
   have := Zxi hd hl.2 (s0 := s) (t0 := t) d.Acts.length 0 (L := []) (by omega) h (by omega) rfl (fun a ha => by cases ha)
   rw [show ((0 : Nat) : Int) = 0 from rfl] at this
   rw [show (Int.toNat ((d.Acts.length : Int) - (0 : Int)) + 1) = d.Acts.length + 1 by omega]
   have hdef : (default : Zt) = { Code := 0, At := 0, Answers := [] } := rfl
   rcases this with ⟨R, h0, h1, h2, h3⟩ | ⟨s2, t2, L2, h1, h2, h3, h4, h5, h6⟩
   · rw [h3]
     rw [hdef, h2]
     exact ⟨s, t, R, rfl, rfl, h.mono (by omega), ⟨by rw [h1]; simp, by rw [h1]; intro a ha; cases ha⟩, fun _ => ⟨rfl, rfl, h1⟩, fun hz => absurd hz h0, rfl⟩
   · rw [h2]
     rw [hdef, h1]
     exact ⟨s2, t2, _, rfl, rfl, h3.mono (by omega), ⟨by show L2.length ≤ 12; omega, h4⟩, fun hz => absurd rfl hz, fun _ => ⟨rfl, h5⟩, h6⟩
def Znr (L : List Zt) : Prop := ∀ R ∈ L, Zqx R
theorem Zsm {R : Zt} (hR : Zqx R) : ∀ (n i : Nat), i + n = R.Answers.length → Zd4 R R (n + 1) (i : Int) = some (.inr ())
 | 0, i, h => by rw [Zd4, if_neg (by simp; omega)]
 | n + 1, i, h => by
   have hl := hR.1
   have h1 : i < R.Answers.length := by omega
   have hw := hR.2 _ (List.getElem_mem h1)
   rw [Zd4, if_pos (by simp; omega), Zc8 h1, wr1 (by omega)]
   simp only [Option.bind_some]
   rw [Z71 hw hw]
   simp only [beq_self_eq_true, Z7c, Bool.and_self, Option.bind_some, Bool.not_true, Bool.false_eq_true, if_false]
   exact Zsm hR n (i + 1) (by omega)
theorem Z7z {R : Zt} (hR : Zqx R) : Zhy R R = some true := by
 unfold Zhy
 simp only [bne_self_eq_false, Bool.or_self, Bool.false_eq_true, if_false]
 have := Zsm hR R.Answers.length 0 (by omega)
 rw [show ((0 : Nat) : Int) = 0 from rfl] at this
 rw [show (Int.toNat ((R.Answers.length : Int) - (0 : Int)) + 1) = R.Answers.length + 1 by omega, this]
 rfl
theorem Zq7 {L : List Zt} (hl : L.length ≤ 1000) (hR : Znr L) : ∀ (n i : Nat), i + n = L.length → Zd2 L L (n + 1) (i : Int) = some (.inr ())
 | 0, i, h => by rw [Zd2, if_neg (by simp; omega)]
 | n + 1, i, h => by
   have h1 : i < L.length := by omega
   rw [Zd2, if_pos (by simp; omega), Zc8 h1, wr1 (by omega)]
   simp only [Option.bind_some]
   rw [Z7z (hR _ (List.getElem_mem h1))]
   simp only [Option.bind_some, Bool.not_true, Bool.false_eq_true, if_false]
   exact Zq7 hl hR n (i + 1) (by omega)
theorem Z52 {L : List Zt} (hl : L.length ≤ 1000) (hR : Znr L) : Zhx L L = some true := by
 unfold Zhx
 simp only [bne_self_eq_false, Bool.false_eq_true, if_false]
 have := Zq7 hl hR L.length 0 (by omega)
 rw [show ((0 : Nat) : Int) = 0 from rfl] at this
 rw [show (Int.toNat ((L.length : Int) - (0 : Int)) + 1) = L.length + 1 by omega, this]
 rfl
theorem Zvg {d : Zb0} (hl : d.Acts.length ≤ 40) (hw : ∀ a ∈ d.Acts, Zk7 a) : ∀ (n i : Nat), i + n = d.Acts.length → Zd6 d (n + 1) (i : Int) = some (.inl 1) ∨ (Zd6 d (n + 1) (i : Int) = some (.inr ()) ∧ ∀ a ∈ d.Acts.drop i, a.Make.List.length ≤ 100)
 | 0, i, h => by
   right
   rw [Zd6, if_neg (by simp; omega), List.drop_of_length_le (by omega)]
   exact ⟨rfl, fun o ho => by cases ho⟩
 | n + 1, i, h => by
   have h1 : i < d.Acts.length := by omega
   obtain ⟨c, e1, e2, e3⟩ := Z8z (hw _ (List.getElem_mem h1))
   rw [Zd6, if_pos (by simp; omega), Zc8 h1, wr1 (by omega)]
   simp only [Option.bind_some]
   rw [e1]
   rcases e2 with rfl | rfl
   · simp only [Int.lt_irrefl, decide_false, Bool.false_eq_true, if_false, Option.bind_some]
     rcases Zvg hl hw n (i + 1) (by omega) with h2 | ⟨h2, h3⟩
     · exact .inl h2
     · right
       refine ⟨h2, fun o ho => ?_⟩
       rw [List.drop_eq_getElem_cons h1] at ho
       rcases List.mem_cons.1 ho with rfl | ho
       · exact e3 rfl
       · exact h3 o ho
   · left; rfl
theorem big8 {d : Zb0} (hw : Zkg d) : ∃ c, Zjb d = some c ∧ (c = 0 ∨ c = 1) ∧ (c = 0 → d.Acts.length ≤ 40 ∧ ∀ a ∈ d.Acts, ActIn a) := by
 unfold Zjb
 by_cases h : 40 < d.Acts.length
 · rw [if_pos (by simp; omega)]; exact ⟨1, rfl, .inr rfl, fun h => by cases h⟩
 · rw [if_neg (by simp; omega), show (Int.toNat ((d.Acts.length : Int) - (0 : Int)) + 1) = d.Acts.length + 1 by omega]
   have := Zvg (d := d) (by omega) hw.2 d.Acts.length 0 (by omega)
   rw [show ((0 : Nat) : Int) = 0 from rfl] at this
   rcases this with h1 | ⟨h1, h2⟩
   · rw [h1]; exact ⟨1, rfl, .inr rfl, fun h => by cases h⟩
   · rw [h1]; exact ⟨0, rfl, .inl rfl, fun _ => ⟨by omega, fun a ha => Z3o (hw.2 a ha) (h2 a ha)⟩⟩
theorem Zt0 {l : List Zb0} (hl : l.length ≤ 40) (hw : ∀ d ∈ l, Zkg d) : ∀ (n i : Nat), i + n = l.length → Zdx l (n + 1) (i : Int) = some (.inl 1) ∨ (Zdx l (n + 1) (i : Int) = some (.inr ()) ∧ ∀ d ∈ l.drop i, d.Acts.length ≤ 40 ∧ ∀ a ∈ d.Acts, ActIn a)
 | 0, i, h => by
   right
   rw [Zdx, if_neg (by simp; omega), List.drop_of_length_le (by omega)]
   exact ⟨rfl, fun o ho => by cases ho⟩
 | n + 1, i, h => by
   have h1 : i < l.length := by omega
   obtain ⟨c, e1, e2, e3⟩ := big8 (hw _ (List.getElem_mem h1))
   rw [Zdx, if_pos (by simp; omega), Zc8 h1, wr1 (by omega)]
   simp only [Option.bind_some]
   rw [e1]
   rcases e2 with rfl | rfl
   · simp only [Int.lt_irrefl, decide_false, Bool.false_eq_true, if_false, Option.bind_some]
     rcases Zt0 hl hw n (i + 1) (by omega) with h2 | ⟨h2, h3⟩
     · exact .inl h2
     · right
       refine ⟨h2, fun o ho => ?_⟩
       rw [List.drop_eq_getElem_cons h1] at ho
       rcases List.mem_cons.1 ho with rfl | ho
       · exact e3 rfl
       · exact h3 o ho
   · left; rfl
theorem Z9r {l : List Zb0} (hw : ∀ d ∈ l, Zkg d) : ∃ c, Zit l = some c ∧ (c = 0 ∨ c = 1) ∧ (c = 0 → l.length ≤ 40 ∧ ∀ d ∈ l, d.Acts.length ≤ 40 ∧ ∀ a ∈ d.Acts, ActIn a) := by
 unfold Zit
 by_cases h : 40 < l.length
 · rw [if_pos (by simp; omega)]; exact ⟨1, rfl, .inr rfl, fun h => by cases h⟩
 · rw [if_neg (by simp; omega), show (Int.toNat ((l.length : Int) - (0 : Int)) + 1) = l.length + 1 by omega]
   have := Zt0 (l := l) (by omega) hw l.length 0 (by omega)
   rw [show ((0 : Nat) : Int) = 0 from rfl] at this
   rcases this with h1 | ⟨h1, h2⟩
   · rw [h1]; exact ⟨1, rfl, .inr rfl, fun h => by cases h⟩
   · rw [h1]; exact ⟨0, rfl, .inl rfl, fun _ => ⟨by omega, h2⟩⟩
theorem Zul {l : List Z9} (hl : l.length ≤ 60) (hw : ∀ p ∈ l, Zgx p) {z : Zo} {r : Int} : ∀ (n i : Nat) {s : Zo} {t : Zj}, i + n = l.length → FR s t i → t.Room = r →
   (∃ s', Zdm l (n + 1) z s t (i : Int) = some (.inl (s', none))) ∨ (∃ s' t', Zdm l (n + 1) z s t (i : Int) = some (.inr (z, s', t')) ∧ FR s' t' 60 ∧ t'.Room = r)
 | 0, i, s, t, h, hf, hr => by
   right
   rw [Zdm, if_neg (by simp; omega)]
   exact ⟨s, t, rfl, hf.mono (by omega), hr⟩
 | n + 1, i, s, t, h, hf, hr => by
   have h1 : i < l.length := by omega
   have hm := hw _ (List.getElem_mem h1)
   obtain ⟨c, e1, e2, e3⟩ := Z44 (Zz6 hm.2)
   rw [Zdm, if_pos (by simp; omega), Zc8 h1, wr1 (by omega)]
   simp only [Option.bind_some]
   rw [e1]
   by_cases hk : decide ((100 : Int) < ((l[i]).Key.size : Int)) = true
   · rw [hk]; left; exact ⟨s, rfl⟩
   · rw [Bool.eq_false_iff.2 hk]
     simp only [Bool.not_false, gd_t, Option.bind_some, Bool.false_or]
     rcases e2 with rfl | rfl
     · simp only [Int.lt_irrefl, decide_false, Bool.false_eq_true, if_false]
       have hx : RecW (l[i]).Rec := Zur hm.2 (e3 rfl)
       obtain ⟨s', t', c, f1, f2, f3, f4⟩ := Zs8 hf.rel (by omega) (l[i]).Key hx.ok (e3 rfl)
       rw [f1, f2]
       simp only [Option.bind_some]
       have hro : t'.Room = t.Room := by rw [← f3.room, Zh9 f1, hf.rel.room]
       refine Zul hl hw n (i + 1) (by omega) ?_ (by rw [hro, hr])
       rcases f4 with f4 | ⟨f4, f5, f6, f7⟩
       · have := Zo9 hf f4 hro
         exact ⟨f3, this.good, this.fit⟩
       · refine Z2g hf f3 hx ((Zk1 hx.ok).1 f5) ?_ f4 hro
         refine Classical.byContradiction fun hno => ?_
         have h1 : (lk (l[i]).Key (pl t)).isNone = true := by
           cases hz : lk (l[i]).Key (pl t) with
           | none => rfl
           | some r => exact absurd (.inl (by rw [hz]; rfl)) hno
         have h2 : t.Room ≤ (t.L.length : Int) := Int.not_lt.1 fun h => hno (.inr h)
         have hk1 : sEq (l[i]).Key ⟨#[]⟩ = false := by
           rw [Zvq]; simpa using f6
         obtain ⟨_, hs⟩ := (Zs7 hf.rel (by omega) f1 f5 (e3 rfl) hk1 (by omega)).2 h1 h2
         subst hs
         have ht := f3.top
         rw [hf.rel.top, f4] at ht
         rcases Zl0 (k := (l[i]).Key) (l[i]).Rec hf.rel.srt with ⟨p, _, _, a3, _⟩ | ⟨_, _, a3, _⟩
         · rw [a3] at h1; cases h1
         · have hle := congrArg List.length ht
           rw [a3] at hle
           have hrk := Ztq (l[i]).Key (pl t)
           simp at hle
           omega
     · left; exact ⟨s, rfl⟩
theorem Z33 {r : Int} {l : List Z9} (hw : ∀ p ∈ l, Zgx p) : (∃ s, Zgs r l = some (s, none)) ∨ (∃ s t, Zgs r l = some (s, some t) ∧ FR s t 60 ∧ t.Room = r ∧ 1 ≤ r ∧ r ≤ 4096) := by
 unfold Zgs Zm1
 by_cases hr : r < 1 ∨ 4096 < r
 · rw [if_pos (by simpa using hr)]
   left; exact ⟨_, rfl⟩
 · rw [if_neg (by simpa using hr)]
   simp only [Option.bind_some, bne_self_eq_false, Bool.false_or]
   by_cases hl : 60 < l.length
   · rw [if_pos (by simp; omega)]; left; exact ⟨_, rfl⟩
   · rw [if_neg (by simp; omega), show (Int.toNat ((l.length : Int) - (0 : Int)) + 1) = l.length + 1 by omega]
     have := Zul (l := l) (by omega) hw (z := default) (r := r) l.length 0 (by omega) ⟨Z63 r, fun q hq => by simp [pl] at hq, by simp; omega⟩ rfl
     rw [show ((0 : Nat) : Int) = 0 from rfl] at this
     rcases this with ⟨s', e⟩ | ⟨s', t', e, e2, e3⟩
     · rw [e]; left; exact ⟨_, rfl⟩
     · rw [e]; right; exact ⟨s', t', rfl, e2, e3, by omega, by omega⟩
theorem Z4t : Ziw = some true := by kernel_rfl
theorem Z0h {L : List Zt} {i : Nat} {R : Zt} (h : Znr L) (hR : Zqx R) : Znr (L.set i R) := fun z hz => by
 rcases List.mem_or_eq_of_mem_set hz with hz | hz
 · exact h z hz
 · rw [hz]; exact hR
theorem Zp1 {l : List Zb0} {o : List Int} (hl : l.length ≤ 40) (ho : o.length ≤ 60) (hd : ∀ d ∈ l, ∀ a ∈ d.Acts, ActIn a) : ∀ (n i : Nat) {s : Zo} {t : Zj} {m : Nat} {L : List Zt}, i + n = o.length → FR s t m → m + 12 * n < 900000 → L.length = l.length → Znr L →
   ∃ s' t' L', Zfh l o (n + 1) s L (i : Int) = some (s', L') ∧ Zcp l o (n + 1) t L (i : Int) = some (t', L') ∧ FR s' t' (m + 12 * n) ∧ Znr L' ∧ L'.length = l.length
 | 0, i, s, t, m, L, h, hf, hm, hL, hA => by
   rw [Zfh, Zcp, if_neg (by simp; omega), if_neg (by simp; omega)]
   exact ⟨s, t, L, rfl, rfl, hf, hA, hL⟩
 | n + 1, i, s, t, m, L, h, hf, hm, hL, hA => by
   have h1 : i < o.length := by omega
   rw [Zfh, Zcp, if_pos (by simp; omega), if_pos (by simp; omega), Zc8 h1]
   simp only [Option.bind_some]
   by_cases hb : 0 ≤ o[i] ∧ o[i] < (l.length : Int)
   · have hc : ((decide ((0 : Int) ≤ o[i])) && (decide (o[i] < (l.length : Int)))) = true := by simp; omega
     rw [if_pos hc, if_pos hc]
     obtain ⟨k, hk⟩ := Int.eq_ofNat_of_zero_le hb.1
     rw [hk] at hb ⊢
     have hk1 : k < l.length := by omega
     have hk2 : k < L.length := by omega
     obtain ⟨s', t', R, e1, e2, hf', hR, _⟩ := Z4l hf (by omega) (hd _ (List.getElem_mem hk1))
     rw [Zc8 hk1, Zc8 hk2]
     simp only [Option.bind_some]
     rw [e1, e2]
     simp only [Option.bind_some, Zio, Zed, Int.toNat_natCast]
     rw [wr1 (by omega)]
     obtain ⟨s2, t2, L2, g1, g2, g3, g4, g5⟩ := Zp1 hl ho hd n (i + 1) (L := L.set k R) (by omega) hf' (by omega) (by simpa using hL) (Z0h hA hR)
     exact ⟨s2, t2, L2, g1, g2, g3.mono (by omega), g4, g5⟩
   · have hc : ¬ ((decide ((0 : Int) ≤ o[i])) && (decide (o[i] < (l.length : Int)))) = true := by simp; omega
     rw [if_neg hc, if_neg hc]
     simp only [Zio, Zed]
     rw [wr1 (by omega)]
     obtain ⟨s2, t2, L2, g1, g2, g3, g4, g5⟩ := Zp1 hl ho hd n (i + 1) (by omega) hf (by omega) hL hA
     exact ⟨s2, t2, L2, g1, g2, g3.mono (by omega), g4, g5⟩
theorem FoldOrders_true (a0 : List Z9) (a1 : List Zb0) (a2 : List Int) (w0 : a0.length ≤ maxLen ∧ ∀ e0 ∈ a0, Zgx e0) (w1 : a1.length ≤ maxLen ∧ ∀ e0 ∈ a1, Zkg e0) (w2 : a2.length ≤ maxLen ∧ ∀ e0 ∈ a2, (IntKind.i64).min ≤ e0 ∧ e0 ≤ (IntKind.i64).max) : Zg7 a0 a1 a2 = some true := by
 unfold Zg7
 rw [Z4t]
 simp only [Option.bind_some, Bool.not_true, Bool.false_eq_true, if_false]
 rcases Z33 (r := 50) w0.2 with ⟨s, e⟩ | ⟨s, t, e, hf, _⟩
 · rw [e]; rfl
 · rw [e]
   obtain ⟨c, e1, e2, e3⟩ := Z9r w1.2
   simp only [Option.bind_some, Option.isNone_some, Bool.not_false, gd_t, Bool.false_or]
   rw [e1]
   rcases e2 with rfl | rfl
   · obtain ⟨hl, hd⟩ := e3 rfl
     simp only [Option.bind_some, Int.lt_irrefl, decide_false, Bool.false_or]
     by_cases ho : 60 < a2.length
     · rw [if_pos (by simp; omega)]
     · rw [if_neg (by simp; omega)]
       have hz : Znr (List.replicate a1.length (default : Zt)) := fun z hz => by
         rw [(List.mem_replicate.1 hz).2]
         exact ⟨by decide, fun a ha => by cases ha⟩
       obtain ⟨s', t', L, f1, f2, f3, f4, f5⟩ := Zp1 (o := a2) hl (by omega) (fun d hm => (hd d hm).2) a2.length 0 (L := List.replicate a1.length default) (by omega) hf (by omega) (by simp) hz
       rw [show ((0 : Nat) : Int) = 0 from rfl] at f1 f2
       have hm : 0 ≤ (a1.length : Int) ∧ Int.toNat (a1.length : Int) * 40 ≤ 140737488355328 := ⟨by omega, by rw [Int.toNat_natCast]; omega⟩
       unfold Znh
       simp only [if_pos hm]
       rw [show (Int.toNat ((a2.length : Int) - (0 : Int)) + 1) = a2.length + 1 by omega, Int.toNat_natCast, f1, f2]
       simp only [Option.bind_some]
       rw [Z90 f3.rel (by omega), Z52 (by omega) f4]
       rfl
   · rfl
end Go.CL
namespace Go.CL
open Go Go.RowKit Go.Proofs Go.ChangeShapes Go.WideShapes Go.ChangeAt
theorem Z4s : ownKnob Tryz.prog.godebug = none := by kernel_rfl
theorem Zrk : laidOutB Tryz.prog = true := by kernel_rfl
theorem op_9 : Opn Tryz.prog 9 Kd.str (fun x => (x.size ≤ maxLen)) := Z5x Tryz.underlying9 (by kernel_rfl)
theorem op_3 : Opn Tryz.prog 3 (Kd.int .i64) (fun x => ((IntKind.i64).min ≤ x ∧ x ≤ (IntKind.i64).max)) := Zzg Tryz.underlying3 (by kernel_rfl)
theorem op_2 : Opn Tryz.prog 2 (Kd.int .i64) (fun x => ((IntKind.i64).min ≤ x ∧ x ≤ (IntKind.i64).max)) := Zzg Tryz.underlying2 (by kernel_rfl)
theorem Z0k : Opn Tryz.prog 61 Kd.flt (fun x => (x < 2 ^ 64)) := Z51 Tryz.underlying61 (by kernel_rfl)
theorem Z8h : Opn Tryz.prog 105 Zy Zor := ⟨by kernel_rfl, fun hg h => by
 obtain ⟨hl, n, hf⟩ := Zl8 Tryz.underlying105 h
 obtain ⟨y0, h0⟩ := hf 0 _ rfl
 obtain ⟨v0, k0, w0⟩ := Z0k.op hg h0
 obtain ⟨y1, h1⟩ := hf 1 _ rfl
 obtain ⟨v1, k1, w1⟩ := op_9.op hg h1
 refine ⟨⟨v0, v1⟩, ⟨hl.trans (by kernel_rfl), (List.forall_mem_cons.2 ⟨k0, (List.forall_mem_cons.2 ⟨k1, (fun _ h => by cases h)⟩)⟩)⟩, w0, w1⟩, fun h => Zm5 Tryz.underlying105 h⟩
theorem Z9v : Opn Tryz.prog 62 Zy.sl (fun x => (x.length ≤ maxLen ∧ ∀ e0 ∈ x, (Zor e0))) := Zq9 Tryz.underlying62 (by kernel_rfl) Z8h (by decide)
theorem Z4v : Opn Tryz.prog 64 Zi Zj8 := ⟨by kernel_rfl, fun hg h => by
 obtain ⟨hl, n, hf⟩ := Zl8 Tryz.underlying64 h
 obtain ⟨y0, h0⟩ := hf 0 _ rfl
 obtain ⟨v0, k0, w0⟩ := op_3.op hg h0
 obtain ⟨y1, h1⟩ := hf 1 _ rfl
 obtain ⟨v1, k1, w1⟩ := op_2.op hg h1
 obtain ⟨y2, h2⟩ := hf 2 _ rfl
 obtain ⟨v2, k2, w2⟩ := op_2.op hg h2
 obtain ⟨y3, h3⟩ := hf 3 _ rfl
 obtain ⟨v3, k3, w3⟩ := op_2.op hg h3
 obtain ⟨y4, h4⟩ := hf 4 _ rfl
 obtain ⟨v4, k4, w4⟩ := Z0k.op hg h4
 obtain ⟨y5, h5⟩ := hf 5 _ rfl
 obtain ⟨v5, k5, w5⟩ := op_3.op hg h5
 obtain ⟨y6, h6⟩ := hf 6 _ rfl
 obtain ⟨v6, k6, w6⟩ := op_9.op hg h6
 obtain ⟨y7, h7⟩ := hf 7 _ rfl
 obtain ⟨v7, k7, w7⟩ := Z9v.op hg h7
 refine ⟨⟨v0, v1, v2, v3, v4, v5, v6, v7⟩, ⟨hl.trans (by kernel_rfl), (List.forall_mem_cons.2 ⟨k0, (List.forall_mem_cons.2 ⟨k1, (List.forall_mem_cons.2 ⟨k2, (List.forall_mem_cons.2 ⟨k3, (List.forall_mem_cons.2 ⟨k4, (List.forall_mem_cons.2 ⟨k5, (List.forall_mem_cons.2 ⟨k6, (List.forall_mem_cons.2 ⟨k7, (fun _ h => by cases h)⟩)⟩)⟩)⟩)⟩)⟩)⟩)⟩)⟩, w0, w1, w2, w3, w4, w5, w6, w7⟩, fun h => Zm5 Tryz.underlying64 h⟩
theorem Z9s : Opn Tryz.prog 75 Zb1 Zgx := ⟨by kernel_rfl, fun hg h => by
 obtain ⟨hl, n, hf⟩ := Zl8 Tryz.underlying75 h
 obtain ⟨y0, h0⟩ := hf 0 _ rfl
 obtain ⟨v0, k0, w0⟩ := op_9.op hg h0
 obtain ⟨y1, h1⟩ := hf 1 _ rfl
 obtain ⟨v1, k1, w1⟩ := Z4v.op hg h1
 refine ⟨⟨v0, v1⟩, ⟨hl.trans (by kernel_rfl), (List.forall_mem_cons.2 ⟨k0, (List.forall_mem_cons.2 ⟨k1, (fun _ h => by cases h)⟩)⟩)⟩, w0, w1⟩, fun h => Zm5 Tryz.underlying75 h⟩
theorem Z9e : Opn Tryz.prog 22 Zb1.sl (fun x => (x.length ≤ maxLen ∧ ∀ e0 ∈ x, (Zgx e0))) := Zq9 Tryz.underlying22 (by kernel_rfl) Z9s (by decide)
theorem op_4 : Opn Tryz.prog 4 Kd.bool (fun x => True) := Z4r Tryz.underlying4 (by kernel_rfl)
theorem Z94 : Opn Tryz.prog 66 Zbe Zk7 := ⟨by kernel_rfl, fun hg h => by
 obtain ⟨hl, n, hf⟩ := Zl8 Tryz.underlying66 h
 obtain ⟨y0, h0⟩ := hf 0 _ rfl
 obtain ⟨v0, k0, w0⟩ := op_3.op hg h0
 obtain ⟨y1, h1⟩ := hf 1 _ rfl
 obtain ⟨v1, k1, w1⟩ := op_9.op hg h1
 obtain ⟨y2, h2⟩ := hf 2 _ rfl
 obtain ⟨v2, k2, w2⟩ := op_2.op hg h2
 obtain ⟨y3, h3⟩ := hf 3 _ rfl
 obtain ⟨v3, k3, w3⟩ := Z0k.op hg h3
 obtain ⟨y4, h4⟩ := hf 4 _ rfl
 obtain ⟨v4, k4, w4⟩ := op_9.op hg h4
 obtain ⟨y5, h5⟩ := hf 5 _ rfl
 obtain ⟨v5, k5, w5⟩ := Z4v.op hg h5
 obtain ⟨y6, h6⟩ := hf 6 _ rfl
 obtain ⟨v6, k6, w6⟩ := op_4.op hg h6
 refine ⟨⟨v0, v1, v2, v3, v4, v5, v6⟩, ⟨hl.trans (by kernel_rfl), (List.forall_mem_cons.2 ⟨k0, (List.forall_mem_cons.2 ⟨k1, (List.forall_mem_cons.2 ⟨k2, (List.forall_mem_cons.2 ⟨k3, (List.forall_mem_cons.2 ⟨k4, (List.forall_mem_cons.2 ⟨k5, (List.forall_mem_cons.2 ⟨k6, (fun _ h => by cases h)⟩)⟩)⟩)⟩)⟩)⟩)⟩)⟩, w0, w1, w2, w3, w4, w5, w6⟩, fun h => Zm5 Tryz.underlying66 h⟩
theorem Z9c : Opn Tryz.prog 50 Zbe.sl (fun x => (x.length ≤ maxLen ∧ ∀ e0 ∈ x, (Zk7 e0))) := Zq9 Tryz.underlying50 (by kernel_rfl) Z94 (by decide)
theorem Z9d : Opn Tryz.prog 52 Zcm Zkg := ⟨by kernel_rfl, fun hg h => by
 obtain ⟨hl, n, hf⟩ := Zl8 Tryz.underlying52 h
 obtain ⟨y0, h0⟩ := hf 0 _ rfl
 obtain ⟨v0, k0, w0⟩ := Z9c.op hg h0
 refine ⟨⟨v0⟩, ⟨hl.trans (by kernel_rfl), (List.forall_mem_cons.2 ⟨k0, (fun _ h => by cases h)⟩)⟩, w0⟩, fun h => Zm5 Tryz.underlying52 h⟩
theorem Zbaq : Opn Tryz.prog 23 Zcm.sl (fun x => (x.length ≤ maxLen ∧ ∀ e0 ∈ x, (Zkg e0))) := Zq9 Tryz.underlying23 (by kernel_rfl) Z9d (by decide)
theorem Z9m : Opn Tryz.prog 42 (Kd.int .i64).sl (fun x => (x.length ≤ maxLen ∧ ∀ e0 ∈ x, ((IntKind.i64).min ≤ e0 ∧ e0 ≤ (IntKind.i64).max))) := Zq9 Tryz.underlying42 (by kernel_rfl) op_3 (by decide)
theorem Z5e : Det Tryz.prog 9 := Z6o Tryz.underlying9
theorem Z92 : Det Tryz.prog 3 := Z5r Tryz.underlying3
theorem Z6n : Det Tryz.prog 150 := Z0t Tryz.underlying150 (fun i f h => match i, f, h with
 | 0, _, h => by obtain rfl := Option.some.inj h; exact Z5e
 | 1, _, h => by obtain rfl := Option.some.inj h; exact Z92
 | 2, _, h => by obtain rfl := Option.some.inj h; exact Z5e
 | _ + 3, _, h => by cases h) (by kernel_rfl)
theorem Z6b : Det Tryz.prog 167 := Z58 Tryz.underlying167 Z6n (by kernel_rfl)
theorem FoldOrders_met (os : Os) (args : Array Value) : laidMetH Tryz.prog [("moiety/act.kinds", Go.Proofs.YtiggdpakpaickaaGreatDoor.Rows.laid_moiety_act_kinds)] ((World.doorLaid Tryz.prog 400 os).forCall (fun _ _ => 0) ⟨#[], args, []⟩).memory :=
 laidMetH_of_parts3 (fuel := 8) (laidMet_of_run' 8 (by kernel_rfl) (by kernel_rfl)) (by kernel_rfl) (by kernel_rfl)
theorem FoldOrders_gl {W : World} (h : laidMetH Tryz.prog [("moiety/act.kinds", Go.Proofs.YtiggdpakpaickaaGreatDoor.Rows.laid_moiety_act_kinds)] W) : GLok W (fun b _ => b < W.heap.size) := by
 have g0 := Z35 (P := Tryz.prog) (nm := "moiety/act.kinds") (d := Go.Proofs.YtiggdpakpaickaaGreatDoor.Rows.laid_moiety_act_kinds) (g := 0) (t := 167) (W := W) (w0 := W) (cells := [.string ⟨#[]⟩, .int .i64 (0), .string ⟨#[]⟩, .string ⟨#[110, 101, 119]⟩, .int .i64 (0), .string ⟨#[109]⟩, .string ⟨#[100, 114, 111, 112]⟩, .int .i64 (0), .string ⟨#[]⟩, .string ⟨#[105, 115]⟩, .int .i64 (0), .string ⟨#[]⟩, .string ⟨#[108, 111, 111, 107]⟩, .int .i64 (0), .string ⟨#[]⟩, .string ⟨#[112, 117, 116]⟩, .int .i64 (1), .string ⟨#[115]⟩, .string ⟨#[115, 119, 97, 112]⟩, .int .i64 (1), .string ⟨#[115]⟩, .string ⟨#[97, 100, 100]⟩, .int .i64 (2), .string ⟨#[110]⟩, .string ⟨#[112, 108, 117, 115]⟩, .int .i64 (3), .string ⟨#[110]⟩, .string ⟨#[114, 101, 97, 99, 104]⟩, .int .i64 (3), .string ⟨#[110]⟩, .string ⟨#[105, 110]⟩, .int .i64 (4), .string ⟨#[110]⟩, .string ⟨#[111, 117, 116]⟩, .int .i64 (4), .string ⟨#[110]⟩, .string ⟨#[101, 110, 111, 117, 103, 104]⟩, .int .i64 (4), .string ⟨#[110]⟩, .string ⟨#[114, 97, 105, 115, 101]⟩, .int .i64 (5), .string ⟨#[120]⟩, .string ⟨#[108, 111, 119, 101, 114]⟩, .int .i64 (6), .string ⟨#[120]⟩, .string ⟨#[115, 104, 105, 102, 116]⟩, .int .i64 (7), .string ⟨#[120]⟩, .string ⟨#[115, 99, 97, 108, 101]⟩, .int .i64 (7), .string ⟨#[120]⟩, .string ⟨#[102, 105, 120]⟩, .int .i64 (7), .string ⟨#[120]⟩, .string ⟨#[106, 111, 105, 110]⟩, .int .i64 (8), .string ⟨#[115]⟩, .string ⟨#[108, 101, 97, 118, 101]⟩, .int .i64 (8), .string ⟨#[115]⟩, .string ⟨#[104, 97, 115]⟩, .int .i64 (8), .string ⟨#[115]⟩, .string ⟨#[111, 102, 102, 101, 114]⟩, .int .i64 (9), .string ⟨#[120, 115]⟩]) (fu := 8) (by kernel_rfl) (by kernel_rfl) Z6b (by kernel_rfl) (by kernel_rfl) h
 intro e he i v hv
 rcases List.mem_cons.1 he with rfl | he
 · exact ⟨(Zre (g0 i v hv)).2, g0 i v hv⟩
 cases he
theorem FoldOrders_ret (os : Os) (started : os.Started) (H : Type) (enc : TypeId × Value → H) :
   ReturnsInHanded {} Tryz.checked os 4 .any (fun w args => (Go.Proofs.YtiggdpakpaickaaGreatDoor.Rows.foldOrdersSpec.pre enc Tryz.prog Tryz.f4 [] false w args ∧ laidMetH Tryz.prog [("moiety/act.kinds", Go.Proofs.YtiggdpakpaickaaGreatDoor.Rows.laid_moiety_act_kinds)] w) ∧ sizedMet enc Tryz.prog Tryz.f4 (OpenSpec.ofChange Go.Proofs.YtiggdpakpaickaaGreatDoor.Rows.foldOrdersSpec) false w args) (Go.Proofs.YtiggdpakpaickaaGreatDoor.Rows.foldOrdersSpec.post enc Tryz.prog Tryz.f4 false true false false) := by
 refine returnsInHanded_of_change_and (C := Tryz.checked) (X := fun w _ => laidMetH Tryz.prog [("moiety/act.kinds", Go.Proofs.YtiggdpakpaickaaGreatDoor.Rows.laid_moiety_act_kinds)] w) (fun _ _ _ hh h => h.of_heap hh) Z4s started (by kernel_rfl) Tryz.func4
   (ChangeSpec.witness_shaped (enc := enc) (C := Tryz.checked) (os := os) (X := fun w _ => laidMetH Tryz.prog [("moiety/act.kinds", Go.Proofs.YtiggdpakpaickaaGreatDoor.Rows.laid_moiety_act_kinds)] w) false (World.doorLaid Tryz.prog 400 os) #[.slice none 0 0, .slice none 0 0, .slice none 0 0] 8 rfl (World.shaped_of_RefB (by kernel_rfl) (by kernel_rfl)) (by kernel_rfl) (by kernel_rfl) (by kernel_rfl) (FoldOrders_met os _)) ?_
 intro W base args ds gs before hval0 hW hcnd _ hL _
 have hval : ∀ (j : Nat) t v, Tryz.f4.params[j]? = some t → args[j]? = some v → Value.okWide Tryz.prog W .any base t v := hval0
 have hW' := hW
 obtain ⟨p, q, hA0, hV, rfl, hfz, hnd⟩ := hW
 have hA : DataW.TrodAll enc Tryz.prog W 0 (fun _ => true) true Tryz.f4.params.toList args.toList ds p := hA0
 rw [Tryz.params4] at hA hval
 obtain ⟨v0, v1, v2, d0, d1, d2, p0, p1, p2, rfl, rfl, rfl, h0, h1, h2⟩ := trodAll_three hA
 obtain ⟨rfl, rfl⟩ := trodVars_none hV
 simp only [List.append_nil] at hW'
 have hg : GLok W (fun b _ => b < W.heap.size) := (FoldOrders_gl hL)
 have hk0 := h0
 obtain ⟨a0, q0, w0⟩ := Zxj Z9e hg h0 (hval 0 22 v0 rfl rfl)
 have hk1 := h1
 obtain ⟨a1, q1, w1⟩ := Zxj Zbaq hg h1 (hval 1 23 v1 rfl rfl)
 have hk2 := h2
 obtain ⟨a2, q2, w2⟩ := Zxj Z9m hg h2 (hval 2 42 v2 rfl rfl)
 refine (Znf a0 a1 a2 (FoldOrders_true a0 a1 a2 w0 w1 w2) (GW W hg) [v0, v1, v2] (Zmt q0 (Zmt q1 (Zmt q2 Zek)))).mono fun e W' ⟨g', v, he, hw, hs, hq⟩ => ?_
 subst he; subst hw
 rw [Zi6.1 hq]
 have hbel := Z34 hs
 have hlt : ∀ x ∈ (p0 ++ p1 ++ p2), x.block < W.heap.size := fun x hx => by simpa using hW'.lt x hx
 exact ⟨_, rfl, Zwc (pv := []) hW' hbel (trodAll_mk1 (shut_bool Tryz.underlying4 true)) (trodAll_mk3 (Below.trod Zrk (by kernel_rfl) (of_decide_eq_true (by kernel_rfl)) hk0 hbel (fun x hx => hlt x (by simp [hx]))) (Below.trod Zrk (by kernel_rfl) (of_decide_eq_true (by kernel_rfl)) hk1 hbel (fun x hx => hlt x (by simp [hx]))) (Below.trod Zrk (by kernel_rfl) (of_decide_eq_true (by kernel_rfl)) hk2 hbel (fun x hx => hlt x (by simp [hx])))) rfl⟩
theorem FoldOrders_holds : Go.Proofs.YtiggdpakpaickaaGreatDoor.Rows.FoldOrdersSaid :=
 OpenClaim.holds_of_wide 4 Tryz.f4 rfl rfl rfl rfl rfl rfl rfl ⟨rfl, rfl, rfl, rfl, rfl⟩ rfl rfl rfl rfl rfl (by kernel_rfl) Tryz.func4 (by kernel_rfl)
   (of_decide_eq_true (by kernel_rfl)) (by unfold Func.isWrapper; first | (rw [if_pos (by decide +kernel)]; kernel_rfl) | (rw [if_neg (by decide +kernel)]; exact ⟨rfl, rfl⟩))
   (fun os started H enc _ => FoldOrders_ret os started H enc)
theorem FoldOrders_card : Go.Proofs.YtiggdpakpaickaaGreatDoor.Rows.FoldOrdersCardSaid :=
 Claim7.holds_tied_plain_at .later [] [.data] true (true, "e7e36f5ae84a6e7b1c4c0dcbde582f8ca352bc73d43fbf27528de71db528e4f8") true
   FoldOrders_holds (fun _ h => by cases h) (by kernel_rfl) (fun _ h => by cases h) Go.Proofs.YtiggdpakpaickaaGreatDoor.foldOrders_row_tie rfl ⟨rfl, rfl⟩ (by kernel_rfl) rfl
   (fun f fn hf hfn => by
     obtain rfl : f = 4 := Option.some.inj ((show Tryz.prog.funcNamed "moiety/moietylaw10.FoldOrders" = some 4 by kernel_rfl).symm.trans hf) |>.symm
     obtain rfl : fn = Tryz.f4 := (Option.some.inj (Tryz.func4.symm.trans hfn)).symm
     exact ⟨by kernel_rfl, fun j t ht => by
       rw [Tryz.params4] at ht
       have hm : t ∈ [22, 23, 42] := by simpa using Array.mem_of_getElem? ht
       have hall : (([22, 23, 42] : List TypeId).all fun u => !Tryz.prog.wantsStandIn u) = true := by kernel_rfl
       exact (show Tryz.prog.wantsStandIn t = false by simpa using List.all_eq_true.1 hall t hm)⟩)
   (by kernel_rfl)
end Go.CL
