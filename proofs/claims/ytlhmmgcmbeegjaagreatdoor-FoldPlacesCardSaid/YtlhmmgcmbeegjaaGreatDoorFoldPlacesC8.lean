/- A part of the proof of FoldPlaces. -/
import Derived.Test.YtlhmmgcmbeegjaaGreatDoorFoldPlacesC7
import Derived.Test.YtlhmmgcmbeegjaaGreatDoorRows
import Derived.Test.YtlhmmgcmbeegjaaGreatDoorCards
import Derived.Test.YtlhmmgcmbeegjaaGreatDoorTie
import Derived.SevenTiedAt
set_option linter.unusedVariables false
set_option linter.unusedSimpArgs false
set_option maxRecDepth 100000
namespace Go.CL
open Go
def Zfh (R : Int) (L : List KV) (a : Zm) : Option (List KV × Zh) := (ap (lk a.Key L) a).bind fun z => if (lk a.Key L).isNone = true ∧ z.1.isSome = true ∧ R ≤ (L.length : Int) then some (L, ans 8) else some (upd a.Key z.1 L, z.2)
structure InvK (L : List KV) : Prop where
 srt : Srt L
 ok : ∀ q ∈ L, RecW q.2 ∧ Zcc q.2
theorem InvK.at_ {L : List KV} (h : InvK L) (k : ByteArray) : OkO (lk k L) := fun r hr => h.ok _ (Zx6 hr)
theorem Znu {o : Option Zd} {a : Zm} (ho : OkO o) (ha : ActIn a) : ∃ o1 x, ap o a = some (o1, x) ∧ OkO o1 ∧ RecW x.Rec ∧ (a.Kind ≠ 1 → a.Kind ≠ 2 → o1.isSome = o.isSome) := by
 cases o with
 | none =>
   obtain ⟨z, e, hs⟩ := Zk4 (there := false) Zdd ha
   have e : Zcn zrec false a = some z := e
   simp only [ap, getR, e, Option.bind_some]
   rcases hs with ⟨c, hc, rfl⟩ | ⟨h1, h2, h3, ⟨k, k2, k3, rfl⟩ | ⟨k, k2, rfl⟩ | ⟨k, rfl⟩ | ⟨k, k2, rfl⟩ | ⟨k, k2, k3, k4, r', o, q1, q2, q3, q4, q5, rfl⟩⟩
   · exact ⟨none, ans c, by simp [hc], fun r h => (by cases h), Zdd, fun _ _ => rfl⟩
   · exact ⟨some a.Make, ans 0, rfl, fun r h => (by obtain rfl := Option.some.inj h; exact ⟨ha.mkr, k3⟩), Zdd, fun h => absurd k h⟩
   · cases k2
   · exact ⟨none, _, rfl, fun r h => (by cases h), Zdd, fun _ _ => rfl⟩
   · cases k2
   · cases k3
 | some r =>
   obtain ⟨hr, hg⟩ := ho r rfl
   obtain ⟨z, e, hs⟩ := Zk4 (there := true) hr ha
   rw [if_pos rfl] at hs
   simp only [ap, getR, e, Option.bind_some]
   have self : OkO (some r) := ho
   rcases hs with ⟨c, hc, rfl⟩ | ⟨h1, h2, h3, ⟨k, k2, k3, rfl⟩ | ⟨k, k2, rfl⟩ | ⟨k, rfl⟩ | ⟨k, k2, rfl⟩ | ⟨k, k2, k3, k4, r', o, q1, q2, q3, q4, q5, rfl⟩⟩
   · exact ⟨some r, ans c, by simp [hc], self, Zdd, fun _ _ => rfl⟩
   · cases k2
   · exact ⟨none, ans 0, rfl, fun r h => (by cases h), Zdd, fun _ h => absurd k h⟩
   · exact ⟨some r, _, rfl, self, Zdd, fun _ _ => rfl⟩
   · exact ⟨some r, _, rfl, self, hr, fun _ _ => rfl⟩
   · exact ⟨some r', o, by simp [q2], fun x h => (by obtain rfl := Option.some.inj h; exact ⟨q4, Zpv k k2 k4 hr hg h2 q1⟩), q5, fun _ _ => rfl⟩
theorem Zmv {R : Int} {L : List KV} {a : Zm} {o1 : Option Zd} {x : Zh} (e : ap (lk a.Key L) a = some (o1, x)) (hs : o1.isSome = (lk a.Key L).isSome) : Zfh R L a = some (upd a.Key o1 L, x) := by
 unfold Zfh
 rw [e]
 simp only [Option.bind_some]
 rw [if_neg]
 rintro ⟨h1, h2, _⟩
 rw [hs] at h2
 cases hq : lk a.Key L <;> simp [hq] at h1 h2
theorem Z16 {R : Int} {L : List KV} {a : Zm} {x : Zh} (hs : Srt L) (e : ap (lk a.Key L) a = some (lk a.Key L, x)) : Zfh R L a = some (L, x) := by
 rw [Zmv e rfl, Zyd hs]
theorem Zs6 {R : Int} {L : List KV} {a : Zm} (h : InvK L) (ha : ActIn a) : ∃ L' x, Zfh R L a = some (L', x) ∧ InvK L' ∧ RecW x.Rec := by
 obtain ⟨o1, x, e, h1, h2, _⟩ := Znu (h.at_ a.Key) ha
 unfold Zfh
 rw [e]
 simp only [Option.bind_some]
 split
 · exact ⟨L, ans 8, rfl, h, Zdd⟩
 · refine ⟨_, _, rfl, ⟨Zh8 h.srt, fun q hq => ?_⟩, h2⟩
   rcases Z7t hq with hq | ⟨x, hx, rfl⟩
   · exact h.ok q hq
   · exact h1 x hx
def Zjj (a : Zm) : Prop := a.Kind = 1 ∨ a.Kind = 2
theorem Ztp {R : Int} {L La Lb : List KV} {a b : Zm} {xa xb : Zh} (h : InvK L) (ha : ActIn a) (hb : ActIn b) (hk : a.Key ≠ b.Key) (hrb : ¬ Zjj b) (e1 : Zfh R L a = some (La, xa)) (e2 : Zfh R L b = some (Lb, xb)) :
   ∃ L', Zfh R La b = some (L', xb) ∧ Zfh R Lb a = some (L', xa) := by
 obtain ⟨oa, ya, fa, _⟩ := Znu (h.at_ a.Key) ha
 obtain ⟨ob, yb, fb, _, _, sb⟩ := Znu (h.at_ b.Key) hb
 have sb := sb (fun h => hrb (.inl h)) (fun h => hrb (.inr h))
 have e2' := e2
 rw [Zmv fb sb] at e2
 simp only [Option.some.injEq, Prod.mk.injEq] at e2
 obtain ⟨rfl, rfl⟩ := e2
 have hla : lk a.Key (upd b.Key ob L) = lk a.Key L := by rw [Zjp h.srt, if_neg (fun e => hk (Zda.1 e))]
 have hlen := Z7n (k := b.Key) (o := ob) h.srt sb
 have e3 : Zfh R (upd b.Key ob L) a = if (lk a.Key L).isNone = true ∧ oa.isSome = true ∧ R ≤ (L.length : Int) then some (upd b.Key ob L, ans 8) else some (upd a.Key oa (upd b.Key ob L), ya) := by
   unfold Zfh
   rw [hla, fa, hlen]
   rfl
 have e1' : Zfh R L a = if (lk a.Key L).isNone = true ∧ oa.isSome = true ∧ R ≤ (L.length : Int) then some (L, ans 8) else some (upd a.Key oa L, ya) := by
   unfold Zfh
   rw [fa]
   rfl
 rw [e1'] at e1
 rw [e3]
 by_cases hf : (lk a.Key L).isNone = true ∧ oa.isSome = true ∧ R ≤ (L.length : Int)
 · rw [if_pos hf] at e1 ⊢
   simp only [Option.some.injEq, Prod.mk.injEq] at e1
   obtain ⟨rfl, rfl⟩ := e1
   exact ⟨_, e2', rfl⟩
 · rw [if_neg hf] at e1 ⊢
   simp only [Option.some.injEq, Prod.mk.injEq] at e1
   obtain ⟨rfl, rfl⟩ := e1
   have hlb : lk b.Key (upd a.Key oa L) = lk b.Key L := by rw [Zjp h.srt, if_neg (fun e => hk (Zda.1 e).symm)]
   refine ⟨_, Zmv (by rw [hlb]; exact fb) (by rw [hlb]; exact sb), ?_⟩
   rw [Z49 h.srt (fun e => hk e.symm)]
theorem Z2g {R : Int} {L La Lb : List KV} {a b : Zm} {xa xb : Zh} (h : InvK L) (ha : ActIn a) (hb : ActIn b) (hc : a.Key ≠ b.Key ∨ KC a.Kind b.Kind) (hr : ¬ (Zjj a ∧ Zjj b)) (e1 : Zfh R L a = some (La, xa)) (e2 : Zfh R L b = some (Lb, xb)) :
   ∃ L', Zfh R La b = some (L', xb) ∧ Zfh R Lb a = some (L', xa) := by
 by_cases hk : a.Key = b.Key
 · have hc : KC a.Kind b.Kind := by
     rcases hc with hc | hc
     · exact absurd hk hc
     · exact hc
   obtain ⟨oa, ya, fa, ga, _, sa⟩ := Znu (h.at_ a.Key) ha
   obtain ⟨ob, yb, fb, gb, _, sb⟩ := Znu (h.at_ b.Key) hb
   have c1 := hc.1
   have c2 := hc.2.2.1
   have sa := sa (by omega) (by omega)
   have sb := sb (by omega) (by omega)
   rw [Zmv fa sa] at e1
   rw [Zmv fb sb] at e2
   simp only [Option.some.injEq, Prod.mk.injEq] at e1 e2
   obtain ⟨rfl, rfl⟩ := e1
   obtain ⟨rfl, rfl⟩ := e2
   obtain ⟨o3, f3, f4⟩ := Z7f (h.at_ a.Key) ha hb hc fa (by rw [hk]; exact fb)
   have la : lk b.Key (upd a.Key oa L) = oa := by rw [Zjp h.srt, if_pos (Zda.2 hk.symm)]
   have lb : lk a.Key (upd b.Key ob L) = ob := by rw [Zjp h.srt, if_pos (Zda.2 hk)]
   obtain ⟨o4, _, f5, _, _, s5⟩ := Znu ga hb
   rw [f3] at f5
   obtain ⟨rfl, rfl⟩ := by simpa using f5
   obtain ⟨o4, _, f6, _, _, s6⟩ := Znu gb ha
   rw [f4] at f6
   obtain ⟨rfl, rfl⟩ := by simpa using f6
   refine ⟨upd a.Key o3 L, ?_, ?_⟩
   · rw [Zmv (by rw [la]; exact f3) (by rw [la]; exact s5 (by omega) (by omega)), ← hk, Zz2 h.srt]
   · rw [Zmv (by rw [lb]; exact f4) (by rw [lb]; exact s6 (by omega) (by omega)), ← hk, Zz2 h.srt]
 · by_cases hrb : Zjj b
   · obtain ⟨L', h1, h2⟩ := Ztp h hb ha (fun e => hk e.symm) (fun h => hr ⟨h, hrb⟩) e2 e1
     exact ⟨L', h2, h1⟩
   · exact Ztp h ha hb hk hrb e1 e2
def runK (R : Int) : List Zm → List KV → Option (List KV × List Zh × Int)
 | [], L => some (L, [], 0)
 | a :: r, L => (Zfh R L a).bind fun z => if (a.Must && (z.2.Code != 0)) = true then some (z.1, [], z.2.Code) else (runK R r z.1).bind fun w => some (w.1, z.2 :: w.2.1, w.2.2)
def OkP (a b : Zm) : Prop := (a.Key ≠ b.Key ∨ KC a.Kind b.Kind) ∧ ¬ (Zjj a ∧ Zjj b)
theorem Zux {R : Int} : ∀ {A : List Zm} {L : List KV}, InvK L → (∀ a ∈ A, ActIn a) → ∃ L' xs c, runK R A L = some (L', xs, c) ∧ InvK L'
 | [], L, h, _ => ⟨L, [], 0, rfl, h⟩
 | a :: A, L, h, hA => by
   obtain ⟨La, xa, s1, i1, _⟩ := Zs6 (R := R) h (hA a (List.mem_cons_self ..))
   rw [runK, s1]
   simp only [Option.bind_some]
   split
   · exact ⟨_, _, _, rfl, i1⟩
   · obtain ⟨L', xs, c, e, i2⟩ := Zux i1 (fun a ha => hA a (List.mem_cons_of_mem _ ha))
     rw [e]
     exact ⟨_, _, _, rfl, i2⟩
theorem Zvn {R : Int} {b : Zm} (hb : ActIn b) : ∀ {A : List Zm} {L Lb L1 : List KV} {xs : List Zh} {c : Int} {xb : Zh}, InvK L → (∀ a ∈ A, ActIn a) → (∀ a ∈ A, OkP a b) → runK R A L = some (L1, xs, c) → Zfh R L b = some (Lb, xb) →
   ∃ L', runK R A Lb = some (L', xs, c) ∧ Zfh R L1 b = some (L', xb)
 | [], L, Lb, L1, xs, c, xb, h, _, _, e1, e2 => by
   cases e1
   exact ⟨Lb, rfl, e2⟩
 | a :: A, L, Lb, L1, xs, c, xb, h, hA, hp, e1, e2 => by
   have ha := hA a (List.mem_cons_self ..)
   obtain ⟨La, xa, s1, i1, _⟩ := Zs6 (R := R) h ha
   obtain ⟨p1, p2⟩ := hp a (List.mem_cons_self ..)
   obtain ⟨M, c1, c2⟩ := Z2g h ha hb p1 p2 s1 e2
   rw [runK, s1] at e1
   rw [runK, c2]
   simp only [Option.bind_some] at e1 ⊢
   by_cases hm : (a.Must && (xa.Code != 0)) = true
   · rw [if_pos hm] at e1 ⊢
     cases e1
     exact ⟨M, rfl, c1⟩
   · rw [if_neg hm] at e1 ⊢
     obtain ⟨⟨w1, w2, w3⟩, r1, e1⟩ := Option.bind_eq_some_iff.1 e1
     cases e1
     obtain ⟨L', d1, d2⟩ := Zvn hb i1 (fun a ha => hA a (List.mem_cons_of_mem _ ha)) (fun a ha => hp a (List.mem_cons_of_mem _ ha)) r1 c1
     rw [d1]
     exact ⟨L', rfl, d2⟩
theorem Zxd {R : Int} {A : List Zm} (hA : ∀ a ∈ A, ActIn a) : ∀ {B : List Zm} {L LA LB : List KV} {xs ys : List Zh} {c d : Int}, InvK L → (∀ b ∈ B, ActIn b) → (∀ a ∈ A, ∀ b ∈ B, OkP a b) → runK R A L = some (LA, xs, c) → runK R B L = some (LB, ys, d) →
   ∃ L', runK R A LB = some (L', xs, c) ∧ runK R B LA = some (L', ys, d)
 | [], L, LA, LB, xs, ys, c, d, h, _, _, e1, e2 => by
   cases e2
   exact ⟨LA, e1, rfl⟩
 | b :: B, L, LA, LB, xs, ys, c, d, h, hB, hp, e1, e2 => by
   have hb := hB b (List.mem_cons_self ..)
   obtain ⟨Lb, xb, s1, i1, _⟩ := Zs6 (R := R) h hb
   obtain ⟨M, c1, c2⟩ := Zvn hb h hA (fun a ha => hp a ha b (List.mem_cons_self ..)) e1 s1
   rw [runK, s1] at e2
   rw [runK, c2]
   simp only [Option.bind_some] at e2 ⊢
   by_cases hm : (b.Must && (xb.Code != 0)) = true
   · rw [if_pos hm] at e2 ⊢
     cases e2
     exact ⟨M, c1, rfl⟩
   · rw [if_neg hm] at e2 ⊢
     obtain ⟨⟨w1, w2, w3⟩, r1, e2⟩ := Option.bind_eq_some_iff.1 e2
     cases e2
     obtain ⟨L', d1, d2⟩ := Zxd hA i1 (fun b hb => hB b (List.mem_cons_of_mem _ hb)) (fun a ha b hb => hp a ha b (List.mem_cons_of_mem _ hb)) c1 r1
     rw [d2]
     exact ⟨L', d1, rfl⟩
def oneK (R : Int) (L : List KV) (d : Zbk) : Option (List KV × Z7) := (Zkp d).bind fun z => if (z.1 != 0) = true then some (L, { Code := z.1, At := z.2, Answers := [] }) else (runK R d.Acts L).bind fun w => if w.2.2 = 0 then some (w.1, { Code := 0, At := 0, Answers := w.2.1 }) else some (L, { Code := w.2.2, At := ((w.2.1.length + 1 : Nat) : Int), Answers := [] })
theorem Z33 {R : Int} {L LA LB : List KV} {A B : Zbk} {x y : Z7} (h : InvK L) (hA : ∀ a ∈ A.Acts, ActIn a) (hB : ∀ b ∈ B.Acts, ActIn b) (hp : ∀ a ∈ A.Acts, ∀ b ∈ B.Acts, OkP a b) (e1 : oneK R L A = some (LA, x)) (e2 : oneK R L B = some (LB, y)) :
   ∃ L', oneK R LA B = some (L', y) ∧ oneK R LB A = some (L', x) := by
 obtain ⟨cA, aA, kA, _⟩ := Zoi hA
 obtain ⟨cB, aB, kB, _⟩ := Zoi hB
 obtain ⟨wA, xs, c, rA, _⟩ := Zux (R := R) h hA
 obtain ⟨wB, ys, d, rB, _⟩ := Zux (R := R) h hB
 obtain ⟨L', f1, f2⟩ := Zxd hA h hB hp rA rB
 have gA : ∀ {M N : List KV} {zs : List Zh} {k : Int}, runK R A.Acts M = some (N, zs, k) → oneK R M A = if (cA != 0) = true then some (M, { Code := cA, At := aA, Answers := [] }) else if k = 0 then some (N, { Code := 0, At := 0, Answers := zs }) else some (M, { Code := k, At := ((zs.length + 1 : Nat) : Int), Answers := [] }) := fun {M N zs k} e => by
   unfold oneK
   rw [kA, e]
   rfl
 have gB : ∀ {M N : List KV} {zs : List Zh} {k : Int}, runK R B.Acts M = some (N, zs, k) → oneK R M B = if (cB != 0) = true then some (M, { Code := cB, At := aB, Answers := [] }) else if k = 0 then some (N, { Code := 0, At := 0, Answers := zs }) else some (M, { Code := k, At := ((zs.length + 1 : Nat) : Int), Answers := [] }) := fun {M N zs k} e => by
   unfold oneK
   rw [kB, e]
   rfl
 have e1' := e1
 have e2' := e2
 rw [gA rA] at e1
 rw [gB rB] at e2
 by_cases a0 : (cA != 0) = true
 · rw [if_pos a0] at e1
   cases e1
   refine ⟨LB, e2', ?_⟩
   unfold oneK
   rw [kA]
   simp only [Option.bind_some]
   rw [if_pos a0]
 · rw [if_neg a0] at e1
   by_cases b0 : (cB != 0) = true
   · rw [if_pos b0] at e2
     cases e2
     refine ⟨LA, ?_, e1'⟩
     unfold oneK
     rw [kB]
     simp only [Option.bind_some]
     rw [if_pos b0]
   · rw [if_neg b0] at e2
     by_cases hc : c = 0
     · rw [if_pos hc] at e1
       cases e1
       by_cases hd : d = 0
       · rw [if_pos hd] at e2
         cases e2
         exact ⟨L', by rw [gB f2, if_neg b0, if_pos hd], by rw [gA f1, if_neg a0, if_pos hc]⟩
       · rw [if_neg hd] at e2
         cases e2
         exact ⟨_, by rw [gB f2, if_neg b0, if_neg hd], e1'⟩
     · rw [if_neg hc] at e1
       cases e1
       by_cases hd : d = 0
       · rw [if_pos hd] at e2
         cases e2
         exact ⟨_, e2', by rw [gA f1, if_neg a0, if_neg hc]⟩
       · rw [if_neg hd] at e2
         cases e2
         exact ⟨L, e2', e1'⟩
theorem Z7u {s s' : Zn} {t : Zs} {n : Nat} (h : Rel s t n) (hn : n < 1000000) {k : ByteArray} {b : Bool} (e : Zeq s k = some (s', b)) : toL s'.top = delL k (pl t) := by
 have hb := h.len
 unfold Zeq at e
 rw [Zop h] at e
 simp only [Option.bind_some] at e
 rcases Zoo default h.srt with ⟨p, a1, a2, a3, _, a5⟩ | ⟨a1, a2, _, a4⟩
 · rw [a3] at e
   obtain ⟨t1, c1, z1, l1⟩ := Z0o (k := k) h.sz (by rw [h.top]; exact h.srt) (by rw [h.tl]; omega)
   rw [c1] at e
   simp only [getR, Bool.not_true, Bool.false_eq_true, if_false, Option.bind_some, Option.some.injEq, Prod.mk.injEq] at e
   rw [← e.1, ← h.top]
   exact l1
 · rw [a2] at e
   simp only [getR, Bool.not_false, if_true, Option.some.injEq, Prod.mk.injEq] at e
   rw [← e.1, a4]
   exact h.top
theorem FR.inv {s : Zn} {t : Zs} {n : Nat} (h : FR s t n) : InvK (pl t) := ⟨h.rel.srt, h.good⟩
theorem Z3p {s : Zn} {t : Zs} {n : Nat} (h : FR s t n) (hn : n < 1000000) {a : Zm} (ha : ActIn a) :
   ∃ s' t' out, Zma s a = some (s', out) ∧ FR s' t' (n + 1) ∧ t'.Room = t.Room ∧ RecW out.Rec ∧ Zfh t.Room (pl t) a = some (pl t', out) := by
 obtain ⟨r, there, hg, hi, hl1, hl2⟩ : ∃ r there, getR (lk a.Key (pl t)) = (r, there) ∧ Z62 there r ∧ (there = true → lk a.Key (pl t) = some r) ∧ (there = false → lk a.Key (pl t) = none) := by
   cases hl : lk a.Key (pl t) with
   | none => exact ⟨_, _, rfl, ⟨Zdd, fun h => (by cases h), fun _ => rfl⟩, fun h => (by cases h), fun _ => rfl⟩
   | some r =>
     obtain ⟨g1, g2⟩ := h.good _ (Zx6 hl)
     exact ⟨_, _, rfl, ⟨g1, fun _ => g2, fun h => (by cases h)⟩, fun _ => rfl, fun h => (by cases h)⟩
 obtain ⟨z, e3, hs⟩ := Zk4 (there := there) hi.w ha
 have hr0 : (if there = true then r else zrc) = r := by
   cases there
   · exact (hi.zero rfl).symm
   · rfl
 rw [hr0] at hs
 have hap : ap (lk a.Key (pl t)) a = some (if z.2.2.Code = 0 then (if z.2.1 = true then some z.1 else none) else lk a.Key (pl t), z.2.2) := by
   unfold ap
   rw [hg, e3]
   rfl
 have hlk : lk a.Key (pl t) = if there = true then some r else none := by
   cases there
   · exact hl2 rfl
   · exact hl1 rfl
 unfold Zma
 rw [Zop h.rel, hg]
 simp only [Option.bind_some]
 rw [e3]
 simp only [Option.bind_some, Zkf]
 have same : ∀ x, z.2.2 = x → (x.Code ≠ 0 ∨ z.2.1 = there ∧ z.1 = r) → Zfh t.Room (pl t) a = some (pl t, x) := fun x hx hc => by
   refine Z16 h.rel.srt ?_
   rw [hap, hx]
   by_cases h0 : x.Code = 0
   · rw [if_pos h0]
     obtain ⟨h1, h2⟩ := hc.resolve_left (fun h => h h0)
     rw [h1, h2, hlk]
   · rw [if_neg h0]
 rcases hs with ⟨c, hc, rfl⟩ | ⟨h1, h2, h3, hs⟩
 · have hc' : (c != 0) = true := by simpa using hc
   simp only [hc', Bool.not_true, gd_f, Option.bind_some, Bool.true_or, if_true]
   exact ⟨s, t, ans c, rfl, h.mono (by omega), rfl, Zdd, same _ rfl (.inl hc)⟩
 obtain ⟨k1, k2⟩ := Z80 ha h1
 have hset : ∀ {y : Zd}, RecW y → Zcc y → ((lk a.Key (pl t)).isSome = true ∨ (t.L.length : Int) < t.Room) → ∃ s' t', Zdw s a.Key y = some (s', 0) ∧ FR s' t' (n + 1) ∧ pl t' = insL a.Key y (pl t) ∧ t'.Room = t.Room := fun {y} hw hgy ho => by
   have hsh := Zuc hgy
   obtain ⟨s', t', c, f1, f2, f3, _⟩ := Zs5 h.rel hn a.Key hw.ok (by omega)
   obtain ⟨rfl, hp⟩ := (Zta h.rel hn f1 ((Zkq hw.ok).2 hgy) (by omega) k1 k2).1 ho
   rw [f3.top] at hp
   have hro : t'.Room = t.Room := by rw [← f3.room, Zvs f1, h.rel.room]
   exact ⟨s', t', f1, Z15 h f3 hw hgy ho hp hro, hp, hro⟩
 rcases hs with ⟨hk, rfl, hmk, rfl⟩ | ⟨hk, rfl, rfl⟩ | ⟨hk, rfl⟩ | ⟨hk, rfl, rfl⟩ | ⟨k5, k21, rfl, kon, r', o, q1, q2, q3, q4, q5, rfl⟩
 · -- New
   have hl := hl2 rfl
   rw [hk]
   simp only [bne_self_eq_false, Bool.not_false, gd_t, Option.bind_some, show ((((((1 : Int) == 3) || ((1 : Int) == 4)) || ((1 : Int) == 9)) || ((1 : Int) == 12)) || ((1 : Int) == 20)) = false from rfl, Bool.or_self, Bool.false_eq_true, if_false, Bool.not_true]
   have hap : ap (lk a.Key (pl t)) a = some (some a.Make, ans 0) := hap
   by_cases hr : t.Room ≤ (t.L.length : Int)
   · have hsh := Zuc hmk
     obtain ⟨s', t', c, f1, f2, f3, _⟩ := Zs5 h.rel hn a.Key ha.mkr.ok (by omega)
     obtain ⟨rfl, rfl⟩ := (Zta h.rel hn f1 ((Zkq ha.mkr.ok).2 hmk) (by omega) k1 k2).2 (by rw [hl]; rfl) hr
     rw [f1]
     refine ⟨s', t, ans 8, rfl, h.mono (by omega), rfl, Zdd, ?_⟩
     unfold Zfh
     rw [hap]
     simp only [Option.bind_some]
     rw [if_pos ⟨by rw [hl]; rfl, rfl, by rw [Zf1]; exact hr⟩]
   · obtain ⟨s', t', f1, f3, f4, f5⟩ := hset ha.mkr hmk (.inr (by omega))
     rw [f1]
     refine ⟨s', t', ans 0, rfl, f3, f5, Zdd, ?_⟩
     unfold Zfh
     rw [hap]
     simp only [Option.bind_some]
     rw [if_neg (by rw [Zf1]; omega), f4]
     rfl
 · -- Drop
   rw [hk]
   obtain ⟨s', t', b, f1, f2, f3, f4⟩ := Z4n h.rel hn a.Key
   have hd := Z7u h.rel hn f1
   rw [f3.top] at hd
   rw [f1]
   have hro : t'.Room = t.Room := by rw [← f3.room, Z11 f1, h.rel.room]
   have hf := h.fit
   refine ⟨s', t', ans 0, rfl, ⟨f3.mono (by omega), fun q hq => ?_, ?_⟩, hro, Zdd, ?_⟩
   · rw [hd] at hq; exact h.good q (Zot hq)
   · have := Zp0 a.Key (pl t)
     rw [Zf1] at this
     rw [hro, ← Zf1, hd]; omega
   · unfold Zfh
     have hap : ap (lk a.Key (pl t)) a = some (none, ans 0) := hap
     rw [hap, hl1 rfl, hd]
     rfl
 · -- Is
   rw [hk]
   exact ⟨s, t, _, rfl, h.mono (by omega), rfl, Zdd, same _ rfl (.inr ⟨rfl, rfl⟩)⟩
 · -- Look
   rw [hk]
   exact ⟨s, t, _, rfl, h.mono (by omega), rfl, hi.w, same _ rfl (.inr ⟨rfl, rfl⟩)⟩
 · -- what changes a record
   have hl := hl1 rfl
   have hgx : Zcc r' := Zpv k5 k21 kon hi.w (hi.good rfl) h2 q1
   rw [q2]
   simp only [bne_self_eq_false, Bool.not_false, gd_t, Option.bind_some, Bool.false_or, Bool.false_eq_true, if_false, Bool.not_true, Bool.false_and]
   by_cases hrd : (((((a.Kind == (3 : Int)) || (a.Kind == (4 : Int))) || (a.Kind == (9 : Int))) || (a.Kind == (12 : Int))) || (a.Kind == (20 : Int))) = true
   · rw [if_pos hrd]
     have hx : r' = r := by
       refine Zt0 ?_ hi.w (hi.good rfl) kon q1
       simp only [Bool.or_eq_true, beq_iff_eq] at hrd
       omega
     subst hx
     exact ⟨s, t, o, rfl, h.mono (by omega), rfl, q5, same _ rfl (.inr ⟨rfl, rfl⟩)⟩
   · rw [if_neg hrd]
     obtain ⟨s', t', f1, f3, f4, f5⟩ := hset q4 hgx (.inl (by rw [hl]; rfl))
     rw [f1]
     have hap : ap (lk a.Key (pl t)) a = some (some r', o) := by rw [hap]; simp [q2]
     refine ⟨s', t', o, rfl, f3, f5, q5, ?_⟩
     rw [Zmv hap (by rw [hl]; rfl), f4]
     rfl
theorem Zv4 {d : Zbk} (hd : ∀ a ∈ d.Acts, ActIn a) (hl : d.Acts.length ≤ 12) {s0 : Zn} : ∀ (n i : Nat) {s : Zn} {t : Zs} {m : Nat} {L : List Zh}, i + n = d.Acts.length → FR s t m → m + n < 1000000 → L.length = i → Zri L →
   ∃ L' xs c, runK t.Room (d.Acts.drop i) (pl t) = some (L', xs, c) ∧
     ((c ≠ 0 ∧ Zgw s0 d (n + 1) { Code := 0, At := 0, Answers := L } s (i : Int) = some (.inl (s0, { Code := c, At := ((L.length + xs.length + 1 : Nat) : Int), Answers := [] }))) ∨
       (c = 0 ∧ ∃ s' t', Zgw s0 d (n + 1) { Code := 0, At := 0, Answers := L } s (i : Int) = some (.inr ({ Code := 0, At := 0, Answers := L ++ xs }, s')) ∧ FR s' t' (m + n) ∧ t'.Room = t.Room ∧ pl t' = L' ∧ Zri (L ++ xs) ∧ (L ++ xs).length = d.Acts.length))
 | 0, i, s, t, m, L, h, hf, hm, hL, hA => by
   rw [Zgw, if_neg (by simp; omega), List.drop_of_length_le (by omega)]
   exact ⟨pl t, [], 0, rfl, .inr ⟨rfl, s, t, by rw [List.append_nil], hf, rfl, rfl, by rw [List.append_nil]; exact hA, by rw [List.append_nil]; omega⟩⟩
 | n + 1, i, s, t, m, L, h, hf, hm, hL, hA => by
   have h1 : i < d.Acts.length := by omega
   obtain ⟨s', t', out, e1, hf', hro, hw, e2⟩ := Z3p hf (by omega) (hd _ (List.getElem_mem h1))
   rw [Zgw, if_pos (by simp; omega), Zc6 h1, wr1 (by omega), List.drop_eq_getElem_cons h1, runK, e2]
   simp only [Option.bind_some]
   rw [e1]
   simp only [Option.bind_some, Z00 (ε := Unit)]
   by_cases hc : ((d.Acts[i]).Must && (out.Code != 0)) = true
   · rw [if_pos hc, if_pos hc]
     have hne : out.Code ≠ 0 := by
       have := (Bool.and_eq_true _ _ ▸ hc : _ ∧ _).2
       simpa using this
     subst hL
     exact ⟨_, _, _, rfl, .inl ⟨hne, rfl⟩⟩
   · rw [if_neg hc, if_neg hc]
     have hlen : (L.length + [out].length) * 104 ≤ 140737488355328 := by simp; omega
     rw [if_pos hlen]
     obtain ⟨L', xs, c, r1, r2⟩ := Zv4 hd hl (s0 := s0) n (i + 1) (L := L ++ [out]) (by omega) hf' (by omega) (by simp; omega) (Z0y hA hw)
     rw [hro] at r1
     rw [r1]
     refine ⟨L', out :: xs, c, rfl, ?_⟩
     rcases r2 with ⟨hc0, r2⟩ | ⟨hc0, s2, t2, r2, r3, r4, r5, r6, r7⟩
     · refine .inl ⟨hc0, ?_⟩
       rw [r2]
       have : (L ++ [out]).length + xs.length + 1 = L.length + (out :: xs).length + 1 := by simp; omega
       rw [this]
     · have ha : L ++ [out] ++ xs = L ++ out :: xs := by simp
       rw [ha] at r2 r6 r7
       exact .inr ⟨hc0, s2, t2, r2, r3.mono (by omega), r4.trans hro, r5, r6, r7⟩
theorem Zpr {s : Zn} {t : Zs} {n : Nat} (h : FR s t n) (hn : n + 12 < 1000000) {d : Zbk} (hd : ∀ a ∈ d.Acts, ActIn a) :
   ∃ s' t' R, Zkh s d = some (s', R) ∧ FR s' t' (n + 12) ∧ t'.Room = t.Room ∧ Z3s R ∧ oneK t.Room (pl t) d = some (pl t', R) := by
 obtain ⟨c, at_, e1, e2, hc⟩ := Zoi hd
 unfold Zkh oneK
 rw [e1]
 simp only [Option.bind_some]
 by_cases h0 : (c != 0) = true
 · rw [if_pos h0, if_pos h0]
   exact ⟨s, t, _, rfl, h.mono (by omega), rfl, ⟨by simp, fun a ha => by cases ha⟩, rfl⟩
 · rw [if_neg h0, if_neg h0]
   have hl := hc (by simpa using h0)
   obtain ⟨L', xs, k, r1, r2⟩ := Zv4 hd hl.2 (s0 := s) d.Acts.length 0 (L := []) (by omega) h (by omega) rfl (fun a ha => by cases ha)
   rw [show ((0 : Nat) : Int) = 0 from rfl] at r2
   rw [List.drop_zero] at r1
   rw [show (Int.toNat ((d.Acts.length : Int) - (0 : Int)) + 1) = d.Acts.length + 1 by omega, r1]
   have hdef : (default : Z7) = { Code := 0, At := 0, Answers := [] } := rfl
   rw [hdef]
   simp only [Option.bind_some]
   rcases r2 with ⟨hk, r2⟩ | ⟨hk, s2, t2, r2, r3, r4, r5, r6, r7⟩
   · rw [r2, if_neg hk]
     exact ⟨s, t, _, rfl, h.mono (by omega), rfl, ⟨by simp, fun a ha => by cases ha⟩, by simp⟩
   · rw [r2, if_pos hk]
     exact ⟨s2, t2, _, rfl, r3.mono (by omega), r4, ⟨by rw [r7]; exact hl.2, r6⟩, by rw [r5]; rfl⟩
theorem Zzu {s s1 s2 : Zn} {d e : Zbk} {x y : Z7} (h1 : Zkh s d = some (s1, x)) (h2 : Zkh s1 e = some (s2, y)) : Zlf s [d, e] = some (s2, [x, y]) := by
 unfold Zlf
 show (Zgx [d, e] 3 s [] 0).bind _ = _
 have i0 : idx [d, e] (0 : Int) = some d := rfl
 have i1 : idx [d, e] (1 : Int) = some e := rfl
 have w1 : IntKind.i64.wrap ((0 : Int) + 1) = 1 := by decide
 have w2 : IntKind.i64.wrap ((1 : Int) + 1) = 2 := by decide
 rw [Zgx, if_pos (show decide (((0 : Int)) < (([d, e] : List Zbk).length : Int)) = true from rfl), i0]
 simp only [Option.bind_some]
 rw [h1]
 simp only [Option.bind_some]
 rw [if_pos (by simp), w1, Zgx, if_pos (show decide (((1 : Int)) < (([d, e] : List Zbk).length : Int)) = true from rfl), i1]
 simp only [Option.bind_some]
 rw [h2]
 simp only [Option.bind_some]
 rw [if_pos (by simp), w2, Zgx, if_neg (by simp)]
 rfl
theorem Z6t {k : Int} (h1 : 1 ≤ k) (h2 : k ≤ 21) : (Zlc k).map (fun w => sEq w (⟨#[]⟩ : ByteArray)) = some false := by
 have hk' : k = 1 ∨ k = 2 ∨ k = 3 ∨ k = 4 ∨ k = 5 ∨ k = 6 ∨ k = 7 ∨ k = 8 ∨ k = 9 ∨ k = 10 ∨ k = 11 ∨ k = 12 ∨ k = 13 ∨ k = 14 ∨ k = 15 ∨ k = 16 ∨ k = 17 ∨ k = 18 ∨ k = 19 ∨ k = 20 ∨ k = 21 := by omega
 rcases hk' with rfl | rfl | rfl | rfl | rfl | rfl | rfl | rfl | rfl | rfl | rfl | rfl | rfl | rfl | rfl | rfl | rfl | rfl | rfl | rfl | rfl
 all_goals clear h1 h2
 all_goals decide +kernel
theorem Zwb (k : Int) : ∃ w, Zlc k = some w ∧ sEq w (⟨#[]⟩ : ByteArray) = decide (k < 1 ∨ 21 < k) := by
 by_cases h : k < 1 ∨ 21 < k
 · refine ⟨ByteArray.empty, ?_, ?_⟩
   · unfold Zlc Zlz
     rw [if_pos (by simp; omega)]
     rfl
   · rw [decide_eq_true h]
     kernel_rfl
 · obtain ⟨w, e1, e2⟩ := Option.map_eq_some_iff.1 (Z6t (k := k) (by omega) (by omega))
   exact ⟨w, e1, by rw [decide_eq_false h]; exact e2⟩
theorem Z1g (k l : Int) : ∃ b, Zku k l = some b ∧ Zf5 k l = some b ∧ (b = true → KC k l) := by
 obtain ⟨w1, n1, f1⟩ := Zwb k
 obtain ⟨w2, n2, f2⟩ := Zwb l
 by_cases hin : (3 ≤ k ∧ k ≤ 21) ∧ (3 ≤ l ∧ l ≤ 21)
 · obtain ⟨⟨a1, a2⟩, b1, b2⟩ := hin
   obtain ⟨o, o1, o2, _⟩ := Zni (k := k) (by omega) a2
   obtain ⟨p, p1, p2, _⟩ := Zni (k := l) (by omega) b2
   have f1' : sEq w1 (⟨#[]⟩ : ByteArray) = false := by rw [f1]; exact decide_eq_false (by omega)
   have f2' : sEq w2 (⟨#[]⟩ : ByteArray) = false := by rw [f2]; exact decide_eq_false (by omega)
   have r1 : ∀ k, Zkf k = some (Zir k) := fun _ => rfl
   have r2 : ∀ k, Zhk k = some (Zir k) := fun _ => rfl
   refine ⟨if ((Zir k && Zir l) || (k == 3) || (l == 3)) = true then true else if ((k == 4) || (l == 4)) = true then false else if (o != p) = true then true else ((k == l) && (((((k == 7) || (k == 13)) || (k == 14)) || (k == 19)) || (k == 21))), ?_, ?_, ?_⟩
   · unfold Zku
     rw [n1, n2, r1, r1, o1, p1]
     simp only [Option.bind_some, f1', Bool.not_false, gd_t, f2', Bool.or_self, Bool.false_eq_true, if_false]
     rw [if_neg (by simp; omega)]
     cases Zir k <;> cases Zir l <;> cases (k == 3) <;> cases (l == 3) <;> cases (k == 4) <;> cases (l == 4) <;> cases (o != p) <;> rfl
   · unfold Zf5
     rw [r2, r2, o2, p2, if_neg (by simp; omega)]
     simp only [Option.bind_some]
     cases Zir k <;> cases Zir l <;> cases (k == 3) <;> cases (l == 3) <;> cases (k == 4) <;> cases (l == 4) <;> cases (o != p) <;> rfl
   · intro h
     refine ⟨a1, a2, b1, b2, ?_⟩
     split at h
     · rename_i hc
       simp only [Bool.or_eq_true, Bool.and_eq_true, beq_iff_eq] at hc
       rcases hc with (hc | hc) | hc
       · exact .inl hc
       · exact .inr (.inl hc)
       · exact .inr (.inr (.inl hc))
     · split at h
       · cases h
       · rename_i h4
         simp only [Bool.or_eq_true, beq_iff_eq, not_or] at h4
         refine .inr (.inr (.inr ⟨h4.1, h4.2, ?_⟩))
         split at h
         · rename_i ho
           left
           rw [o1, p1]
           intro e
           simp only [bne_iff_ne, ne_eq] at ho
           exact ho (Option.some.inj e)
         · right
           simp only [Bool.and_eq_true, Bool.or_eq_true, beq_iff_eq] at h
           exact ⟨h.1, by omega⟩
 · refine ⟨false, ?_, ?_, fun h => by cases h⟩
   · unfold Zku
     rw [n1, n2]
     simp only [Option.bind_some]
     rw [f1]
     by_cases c1 : k < 1 ∨ 21 < k
     · rw [decide_eq_true c1]
       simp [gd]
     · rw [decide_eq_false c1]
       simp only [Bool.not_false, gd_t, Option.bind_some]
       rw [f2]
       by_cases c2 : l < 1 ∨ 21 < l
       · rw [decide_eq_true c2]; rfl
       · rw [decide_eq_false c2, if_neg (by decide), if_pos (by simp; omega)]
   · unfold Zf5
     rw [if_pos (by simp; omega)]
theorem Z4h (a b : Zm) : ∃ c, Zj5 a b = some c ∧ Zgg a b = some c ∧ (c = true → a.Key ≠ b.Key ∨ KC a.Kind b.Kind) := by
 obtain ⟨c, e1, e2, e3⟩ := Z1g a.Kind b.Kind
 unfold Zj5 Zgg
 rw [e1, e2]
 by_cases hk : a.Key = b.Key
 · rw [Zda.2 hk]
   exact ⟨c, rfl, rfl, fun h => .inr (e3 h)⟩
 · rw [Zdq.2 hk]
   exact ⟨true, rfl, rfl, fun _ => .inl hk⟩
theorem Zzt {A B : List Zm} (hB : B.length ≤ 1000) {i : Nat} {e : Zm} (he : idx A (i : Int) = some e) : ∀ (n j : Nat), j + n = B.length →
   ∃ z, Zg3 B e (n + 1) (j : Int) = some z ∧ Zd0 A B (i : Int) (n + 1) (j : Int) = some z ∧ (z = .inl false ∨ (z = .inr () ∧ ∀ b ∈ B.drop j, e.Key ≠ b.Key ∨ KC e.Kind b.Kind))
 | 0, j, h => by
   rw [Zg3, Zd0, if_neg (by simp; omega), if_neg (by simp; omega), List.drop_of_length_le (by omega)]
   exact ⟨_, rfl, rfl, .inr ⟨rfl, fun b hb => by cases hb⟩⟩
 | n + 1, j, h => by
   have h1 : j < B.length := by omega
   obtain ⟨c, e1, e2, e3⟩ := Z4h e B[j]
   rw [Zg3, Zd0, if_pos (by simp; omega), if_pos (by simp; omega), Zc6 h1, wr1 (by omega), he]
   simp only [Option.bind_some]
   rw [e1, e2]
   simp only [Option.bind_some]
   cases c with
   | false => exact ⟨_, rfl, rfl, .inl rfl⟩
   | true =>
     obtain ⟨z, g1, g2, g3⟩ := Zzt hB he n (j + 1) (by omega)
     refine ⟨z, g1, g2, ?_⟩
     rcases g3 with g3 | ⟨g3, g4⟩
     · exact .inl g3
     · refine .inr ⟨g3, fun b hb => ?_⟩
       rw [List.drop_eq_getElem_cons h1] at hb
       rcases List.mem_cons.1 hb with rfl | hb
       · exact e3 rfl
       · exact g4 b hb
theorem Zz6 {A B : List Zm} (hA : A.length ≤ 1000) (hB : B.length ≤ 1000) : ∀ (n i : Nat), i + n = A.length →
   ∃ z, Zg2 A B (n + 1) (i : Int) = some z ∧ Zd3 A B (n + 1) (i : Int) = some z ∧ (z = .inl false ∨ (z = .inr () ∧ ∀ a ∈ A.drop i, ∀ b ∈ B, a.Key ≠ b.Key ∨ KC a.Kind b.Kind))
 | 0, i, h => by
   rw [Zg2, Zd3, if_neg (by simp; omega), if_neg (by simp; omega), List.drop_of_length_le (by omega)]
   exact ⟨_, rfl, rfl, .inr ⟨rfl, fun b hb => by cases hb⟩⟩
 | n + 1, i, h => by
   have h1 : i < A.length := by omega
   obtain ⟨z, e1, e2, e3⟩ := Zzt (A := A) hB (Zc6 h1) B.length 0 (by omega)
   rw [show ((0 : Nat) : Int) = 0 from rfl] at e1 e2
   rw [Zg2, Zd3, if_pos (by simp; omega), if_pos (by simp; omega), Zc6 h1, wr1 (by omega)]
   simp only [Option.bind_some]
   rw [show (Int.toNat ((B.length : Int) - (0 : Int)) + 1) = B.length + 1 by omega, e1, e2]
   rcases e3 with rfl | ⟨rfl, e3⟩
   · exact ⟨_, rfl, rfl, .inl rfl⟩
   · obtain ⟨z, g1, g2, g3⟩ := Zz6 hA hB n (i + 1) (by omega)
     refine ⟨z, g1, g2, ?_⟩
     rcases g3 with g3 | ⟨g3, g4⟩
     · exact .inl g3
     · refine .inr ⟨g3, fun a ha => ?_⟩
       rw [List.drop_eq_getElem_cons h1] at ha
       rcases List.mem_cons.1 ha with rfl | ha
       · exact fun b hb => e3 b (by simpa using hb)
       · exact g4 a ha
theorem Z3n {A B : List Zm} (hA : A.length ≤ 1000) (hB : B.length ≤ 1000) : ∃ b, Zm0 A B = some b ∧ Zhz A B = some b ∧ (b = true → ∀ x ∈ A, ∀ y ∈ B, x.Key ≠ y.Key ∨ KC x.Kind y.Kind) := by
 obtain ⟨z, e1, e2, e3⟩ := Zz6 hA hB A.length 0 (by omega)
 rw [show ((0 : Nat) : Int) = 0 from rfl] at e1 e2
 unfold Zm0 Zhz
 rw [show (Int.toNat ((A.length : Int) - (0 : Int)) + 1) = A.length + 1 by omega, e1, e2]
 rcases e3 with rfl | ⟨rfl, e3⟩
 · exact ⟨false, rfl, rfl, fun h => by cases h⟩
 · exact ⟨true, rfl, rfl, fun _ x hx => e3 x (by simpa using hx)⟩
theorem Zxu {d : Zbk} (hl : d.Acts.length ≤ 1000) : ∀ (n i : Nat), i + n = d.Acts.length →
   (Zb2 d.Acts (fun y0 => Zhi y0) (n + 1) (i : Int) = some (.inr ()) ∧ Zc7 d (n + 1) (i : Int) = some (.inr ()) ∧ ∀ a ∈ d.Acts.drop i, ¬ Zjj a) ∨
     (∃ k : Nat, Zb2 d.Acts (fun y0 => Zhi y0) (n + 1) (i : Int) = some (.inl (k : Int)) ∧ Zc7 d (n + 1) (i : Int) = some (.inl true))
 | 0, i, h => by
   rw [Zb2, Zc7, if_neg (by simp; omega), if_neg (by simp; omega), List.drop_of_length_le (by omega)]
   exact .inl ⟨rfl, rfl, fun a ha => by cases ha⟩
 | n + 1, i, h => by
   have h1 : i < d.Acts.length := by omega
   rw [Zb2, Zc7, if_pos (by simp; omega), if_pos (by simp; omega), Zc6 h1, wr1 (by omega)]
   simp only [Option.bind_some, Zhi]
   by_cases hk : Zjj d.Acts[i]
   · right
     have e : ((d.Acts[i].Kind == (1 : Int)) || (d.Acts[i].Kind == (2 : Int))) = true := by unfold Zjj at hk; simpa using hk
     refine ⟨i, by rw [if_pos e], ?_⟩
     cases h1' : (d.Acts[i].Kind == (1 : Int))
     · rw [h1'] at e
       simp only [Bool.not_false, gd_t, Option.bind_some]
       rw [if_pos e]
     · rfl
   · have n1 : (d.Acts[i].Kind == (1 : Int)) = false := by unfold Zjj at hk; simp; omega
     have n2 : (d.Acts[i].Kind == (2 : Int)) = false := by unfold Zjj at hk; simp; omega
     rw [n1]
     simp only [Bool.not_false, gd_t, Option.bind_some, n2, Bool.or_self, Bool.false_eq_true, if_false]
     rcases Zxu hl n (i + 1) (by omega) with ⟨g1, g2, g3⟩ | ⟨k, g1, g2⟩
     · refine .inl ⟨g1, g2, fun a ha => ?_⟩
       rw [List.drop_eq_getElem_cons h1] at ha
       rcases List.mem_cons.1 ha with rfl | ha
       · exact hk
       · exact g3 a ha
     · exact .inr ⟨k, g1, g2⟩
theorem Zse {d : Zbk} (hl : d.Acts.length ≤ 1000) : ∃ b, Zjt d = some b ∧ Zfn d = some b ∧ (b = false → ∀ a ∈ d.Acts, ¬ Zjj a) := by
 have := Zxu hl d.Acts.length 0 (by omega)
 rw [show ((0 : Nat) : Int) = 0 from rfl] at this
 unfold Zjt Zdz Zee Zfn
 rw [show (Int.toNat ((d.Acts.length : Int) - (0 : Int)) + 1) = d.Acts.length + 1 by omega]
 rcases this with ⟨g1, g2, g3⟩ | ⟨k, g1, g2⟩
 · rw [g1, g2]
   exact ⟨false, rfl, rfl, fun _ a ha => g3 a (by simpa using ha)⟩
 · rw [g1, g2]
   refine ⟨true, ?_, rfl, fun h => by cases h⟩
   have : decide ((0 : Int) ≤ (k : Int)) = true := decide_eq_true (by omega)
   simp only [Option.bind_some, this]
theorem Z2o {x y : Zbk} (hx : x.Acts.length ≤ 1000) (hy : y.Acts.length ≤ 1000) : ∃ b, Zjo x y = some b ∧ Zf0 x y = some b ∧ (b = false → ∀ a ∈ x.Acts, ∀ b ∈ y.Acts, OkP a b) := by
 obtain ⟨c, r1, r2, r3⟩ := Z3n hx hy
 obtain ⟨p, p1, p2, p3⟩ := Zse hx
 obtain ⟨q, q1, q2, q3⟩ := Zse hy
 unfold Zjo Zf0
 rw [r1, p1, q1, r2, p2, q2]
 cases c with
 | false => exact ⟨true, rfl, rfl, fun h => by cases h⟩
 | true =>
   cases p with
   | false => exact ⟨false, rfl, rfl, fun _ a ha b hb => ⟨r3 rfl a ha b hb, fun h => p3 rfl a ha h.1⟩⟩
   | true =>
     cases q with
     | false => exact ⟨false, rfl, rfl, fun _ a ha b hb => ⟨r3 rfl a ha b hb, fun h => q3 rfl b hb h.2⟩⟩
     | true => exact ⟨true, rfl, rfl, fun h => by cases h⟩
def eqS : List KV → List KV → Bool
 | [], [] => true
 | p :: l, q :: m => sEq p.1 q.1 && Zjc p.2 q.2 && eqS l m
 | _, _ => false
theorem Z0l : ∀ {a b : List KV}, eqS a b = true → a.length = b.length
 | [], [], _ => rfl
 | x :: xs, y :: ys, h => by
   simp only [eqS, Bool.and_eq_true] at h
   simp [Z0l h.2]
 | [], _ :: _, h => by simp [eqS] at h
 | _ :: _, [], h => by simp [eqS] at h
theorem Zx3 : ∀ l : List KV, eqS l l = true
 | [] => rfl
 | p :: l => by simp [eqS, Zdg, Z1z, Zx3 l]
structure SOk (s : Zn) : Prop where
 sz : Szd s.top
 srt : Srt (toL s.top)
 len : (toL s.top).length < 1000000
 ok : ∀ q ∈ toL s.top, Zhs q.2 ∧ q.2.List.length ≤ 100
theorem SOk.cl {s : Zn} (h : SOk s) : ∀ q ∈ toL s.top, Cl q.2 := fun q hq => by
 have := (h.ok q hq).2
 unfold Cl; omega
theorem Rel.sok {s : Zn} {t : Zs} {n : Nat} (h : Rel s t n) (hn : n < 1000000) : SOk s :=
 ⟨h.sz, by rw [h.top]; exact h.srt, by rw [h.tl]; have := h.len; omega, by rw [h.top]; exact h.ok⟩
theorem Zvx {a b : Zn} (ha : SOk a) (hb : SOk b) (he : (toL a.top).length = (toL b.top).length) : ∀ (n i : Nat), i + n = (toL a.top).length →
   Zgb a b ((toL a.top).length : Int) (n + 1) (i : Int) = some (endB (eqS ((toL a.top).drop i) ((toL b.top).drop i)))
 | 0, i, h => by
   rw [Zgb, if_neg (by simp; omega), List.drop_of_length_le (by omega), List.drop_of_length_le (by omega)]
   rfl
 | n + 1, i, h => by
   have la := ha.len
   have h1 : i < (toL a.top).length := by omega
   have h2 : i < (toL b.top).length := by omega
   rw [Zgb, if_pos (by simp; omega), Z5q ha.sz (by omega) (by omega) (by omega) ha.cl, Z5q hb.sz (by omega) (by omega) (by omega) hb.cl, idxn, idxn, List.getElem?_eq_getElem h1, List.getElem?_eq_getElem h2, wr1 (by omega), List.drop_eq_getElem_cons h1, List.drop_eq_getElem_cons h2]
   have r1 := (ha.ok _ (List.getElem_mem h1)).1
   have r2 := (hb.ok _ (List.getElem_mem h2)).1
   simp only [atR, Option.bind_some, eqS]
   cases hk : sEq (toL a.top)[i].1 (toL b.top)[i].1
   · simp [gd, endB]
   · simp only [Bool.not_true, Bool.not_false, gd_t]
     rw [Zsx r1 r2]
     simp only [Option.bind_some, Bool.false_or, Bool.true_and]
     cases hs : Zjc (toL a.top)[i].2 (toL b.top)[i].2
     · simp [endB]
     · simp only [Bool.not_true, Bool.false_eq_true, if_false, Bool.true_and]
       exact Zvx ha hb he n (i + 1) (by omega)
theorem Z4j {a b : Zn} (ha : SOk a) (hb : SOk b) : Zkv a b = some (eqS (toL a.top) (toL b.top)) := by
 have la := ha.len
 have lb := hb.len
 unfold Zkv Zdt
 rw [Zhh ha.sz, Zhh hb.sz]
 simp only [Option.bind_some]
 by_cases he : (toL a.top).length = (toL b.top).length
 · rw [if_neg (by simp; omega)]
   have := Zvx ha hb he (toL a.top).length 0 (by omega)
   rw [show ((0 : Nat) : Int) = 0 from rfl] at this
   rw [show (Int.toNat (((toL a.top).length : Int) - (0 : Int)) + 1) = (toL a.top).length + 1 by omega, this]
   simp only [List.drop_zero]
   cases eqS (toL a.top) (toL b.top) <;> rfl
 · rw [if_pos (by simp; omega)]
   cases h : eqS (toL a.top) (toL b.top)
   · rfl
   · exact absurd (Z0l h) he
theorem Zsb {L : List Zh} (hl : L.length ≤ 12) (hA : Zri L) : ∀ (n i : Nat), i + n = L.length → Zbd L L (fun y0 y1 => Zj9 y0 y1) (n + 1) (i : Int) = some (.inr ())
 | 0, i, h => by rw [Zbd, if_neg (by simp; omega)]
 | n + 1, i, h => by
   have h1 : i < L.length := by omega
   have hw := hA _ (List.getElem_mem h1)
   rw [Zbd, if_pos (by simp; omega), Zc6 h1, wr1 (by omega)]
   simp only [Option.bind_some]
   rw [Z9p hw hw]
   simp only [beq_self_eq_true, Z9g, Bool.and_self, Option.bind_some, Bool.not_true, Bool.false_eq_true, if_false]
   exact Zsb hl hA n (i + 1) (by omega)
theorem Z32 {R : Z7} (hR : Z3s R) : Zi8 R R = some true := by
 unfold Zi8 Zcb
 have := Zsb hR.1 hR.2 R.Answers.length 0 (by omega)
 rw [show ((0 : Nat) : Int) = 0 from rfl] at this
 simp only [beq_self_eq_true, Bool.and_self, gd_t, bne_self_eq_false, Bool.false_eq_true, if_false]
 rw [show (Int.toNat ((R.Answers.length : Int) - (0 : Int)) + 1) = R.Answers.length + 1 by omega, this]
 rfl
theorem FoldPlaces_true (a0 : Int) (a1 : List Z6) (a2 : List Zbk) (w0 : (IntKind.i64).min ≤ a0 ∧ a0 ≤ (IntKind.i64).max) (w1 : a1.length ≤ maxLen ∧ ∀ e0 ∈ a1, Zgi e0) (w2 : a2.length = 2 ∧ ∀ e0 ∈ a2, Zjr e0) : Zgu a0 a1 a2 = some true := by
 obtain ⟨hl2, hw2⟩ := w2
 obtain ⟨x, y, rfl⟩ : ∃ x y, a2 = [x, y] := by
   match a2, hl2 with
   | [x, y], _ => exact ⟨x, y, rfl⟩
 have i0 : idx [x, y] (0 : Int) = some x := rfl
 have i1 : idx [x, y] (1 : Int) = some y := rfl
 unfold Zgu
 rw [Z4k]
 simp only [Option.bind_some, Bool.not_true, Bool.false_eq_true, if_false]
 rcases Z4p (r := a0) w1.2 with ⟨s, e⟩ | ⟨s, t, e, hf, hr, _⟩
 · rw [e]; rfl
 · rw [e]
   obtain ⟨c, e1, e2, e3⟩ := Zbaa hw2
   simp only [Option.bind_some, Option.isNone_some, Bool.not_false, gd_t, Bool.false_or]
   rw [e1]
   rcases e2 with rfl | rfl
   · obtain ⟨_, hd⟩ := e3 rfl
     obtain ⟨lx, hx⟩ := hd x (by simp)
     obtain ⟨ly, hy⟩ := hd y (by simp)
     obtain ⟨b, c1, c2, c3⟩ := Z2o (x := x) (y := y) (by omega) (by omega)
     simp only [Option.bind_some, Int.lt_irrefl, decide_false, Bool.not_false, gd_t, i0, i1, c1, c2, Bool.false_or]
     cases b with
     | true => rfl
     | false =>
       simp only [Bool.false_eq_true, if_false]
       have hp := c3 rfl
       obtain ⟨s1, t1, R1, a1, a2, a3, a4, a5⟩ := Zpr hf (by omega) hx
       obtain ⟨s2, t2, R2, b1, b2, b3, b4, b5⟩ := Zpr hf (by omega) hy
       obtain ⟨s3, t3, R3, p1, p2, p3, p4, p5⟩ := Zpr a2 (by omega) hy
       obtain ⟨s4, t4, R4, q1, q2, q3, q4, q5⟩ := Zpr b2 (by omega) hx
       obtain ⟨L', f1, f2⟩ := Z33 hf.inv hx hy hp a5 b5
       rw [a3, f1] at p5
       rw [b3, f2] at q5
       simp only [Option.some.injEq, Prod.mk.injEq] at p5 q5
       obtain ⟨rfl, rfl⟩ := p5
       obtain ⟨q5, rfl⟩ := q5
       rw [Zzu a1 p1, Zzu b1 q1]
       have hs : Zkv s3 s4 = some true := by
         rw [Z4j (p2.rel.sok (by omega)) (q2.rel.sok (by omega)), p2.rel.top, q2.rel.top, q5, Zx3]
       simp only [Option.bind_some]
       have l2 : ∀ u v : Z7, ((([u, v] : List Z7).length : Int) == (2 : Int)) = true := fun _ _ => rfl
       have j0 : ∀ u v : Z7, idx [u, v] (0 : Int) = some u := fun _ _ => rfl
       have j1 : ∀ u v : Z7, idx [u, v] (1 : Int) = some v := fun _ _ => rfl
       simp only [l2, Bool.and_self, gd_t, hs, Option.bind_some, j0, j1, Z32 a4, Z32 b4]
   · rfl
end Go.CL
namespace Go.CL
open Go Go.RowKit Go.Proofs Go.ChangeShapes Go.WideShapes Go.ChangeAt
theorem Z35 : ownKnob Tryz.prog.godebug = none := by kernel_rfl
theorem Zqy : laidOutB Tryz.prog = true := by kernel_rfl
theorem op_3 : Opn Tryz.prog 3 (Kd.int .i64) (fun x => ((IntKind.i64).min ≤ x ∧ x ≤ (IntKind.i64).max)) := Z0p Tryz.underlying3 (by kernel_rfl)
theorem op_9 : Opn Tryz.prog 9 Kd.str (fun x => (x.size ≤ maxLen)) := Z6f Tryz.underlying9 (by kernel_rfl)
theorem op_2 : Opn Tryz.prog 2 (Kd.int .i64) (fun x => ((IntKind.i64).min ≤ x ∧ x ≤ (IntKind.i64).max)) := Z0p Tryz.underlying2 (by kernel_rfl)
theorem Z1p : Opn Tryz.prog 49 Kd.flt (fun x => (x < 2 ^ 64)) := Z6v Tryz.underlying49 (by kernel_rfl)
theorem Zbak : Opn Tryz.prog 91 Z0 Zon := ⟨by kernel_rfl, fun hg h => by
 obtain ⟨hl, n, hf⟩ := Zl1 Tryz.underlying91 h
 obtain ⟨y0, h0⟩ := hf 0 _ rfl
 obtain ⟨v0, k0, w0⟩ := Z1p.op hg h0
 obtain ⟨y1, h1⟩ := hf 1 _ rfl
 obtain ⟨v1, k1, w1⟩ := op_9.op hg h1
 refine ⟨⟨v0, v1⟩, ⟨hl.trans (by kernel_rfl), (List.forall_mem_cons.2 ⟨k0, (List.forall_mem_cons.2 ⟨k1, (fun _ h => by cases h)⟩)⟩)⟩, w0, w1⟩, fun h => Zmw Tryz.underlying91 h⟩
theorem Zbab : Opn Tryz.prog 50 Z0.sl (fun x => (x.length ≤ maxLen ∧ ∀ e0 ∈ x, (Zon e0))) := Zxi Tryz.underlying50 (by kernel_rfl) Zbak (by decide)
theorem Z51 : Opn Tryz.prog 52 Zj Zjn := ⟨by kernel_rfl, fun hg h => by
 obtain ⟨hl, n, hf⟩ := Zl1 Tryz.underlying52 h
 obtain ⟨y0, h0⟩ := hf 0 _ rfl
 obtain ⟨v0, k0, w0⟩ := op_3.op hg h0
 obtain ⟨y1, h1⟩ := hf 1 _ rfl
 obtain ⟨v1, k1, w1⟩ := op_2.op hg h1
 obtain ⟨y2, h2⟩ := hf 2 _ rfl
 obtain ⟨v2, k2, w2⟩ := op_2.op hg h2
 obtain ⟨y3, h3⟩ := hf 3 _ rfl
 obtain ⟨v3, k3, w3⟩ := op_2.op hg h3
 obtain ⟨y4, h4⟩ := hf 4 _ rfl
 obtain ⟨v4, k4, w4⟩ := Z1p.op hg h4
 obtain ⟨y5, h5⟩ := hf 5 _ rfl
 obtain ⟨v5, k5, w5⟩ := op_3.op hg h5
 obtain ⟨y6, h6⟩ := hf 6 _ rfl
 obtain ⟨v6, k6, w6⟩ := op_9.op hg h6
 obtain ⟨y7, h7⟩ := hf 7 _ rfl
 obtain ⟨v7, k7, w7⟩ := Zbab.op hg h7
 refine ⟨⟨v0, v1, v2, v3, v4, v5, v6, v7⟩, ⟨hl.trans (by kernel_rfl), (List.forall_mem_cons.2 ⟨k0, (List.forall_mem_cons.2 ⟨k1, (List.forall_mem_cons.2 ⟨k2, (List.forall_mem_cons.2 ⟨k3, (List.forall_mem_cons.2 ⟨k4, (List.forall_mem_cons.2 ⟨k5, (List.forall_mem_cons.2 ⟨k6, (List.forall_mem_cons.2 ⟨k7, (fun _ h => by cases h)⟩)⟩)⟩)⟩)⟩)⟩)⟩)⟩)⟩, w0, w1, w2, w3, w4, w5, w6, w7⟩, fun h => Zmw Tryz.underlying52 h⟩
theorem Zba5 : Opn Tryz.prog 65 Zb0 Zgi := ⟨by kernel_rfl, fun hg h => by
 obtain ⟨hl, n, hf⟩ := Zl1 Tryz.underlying65 h
 obtain ⟨y0, h0⟩ := hf 0 _ rfl
 obtain ⟨v0, k0, w0⟩ := op_9.op hg h0
 obtain ⟨y1, h1⟩ := hf 1 _ rfl
 obtain ⟨v1, k1, w1⟩ := Z51.op hg h1
 refine ⟨⟨v0, v1⟩, ⟨hl.trans (by kernel_rfl), (List.forall_mem_cons.2 ⟨k0, (List.forall_mem_cons.2 ⟨k1, (fun _ h => by cases h)⟩)⟩)⟩, w0, w1⟩, fun h => Zmw Tryz.underlying65 h⟩
theorem Zbbm : Opn Tryz.prog 22 Zb0.sl (fun x => (x.length ≤ maxLen ∧ ∀ e0 ∈ x, (Zgi e0))) := Zxi Tryz.underlying22 (by kernel_rfl) Zba5 (by decide)
theorem op_4 : Opn Tryz.prog 4 Kd.bool (fun x => True) := Z44 Tryz.underlying4 (by kernel_rfl)
theorem Z91 : Opn Tryz.prog 54 Z2 Zkm := ⟨by kernel_rfl, fun hg h => by
 obtain ⟨hl, n, hf⟩ := Zl1 Tryz.underlying54 h
 obtain ⟨y0, h0⟩ := hf 0 _ rfl
 obtain ⟨v0, k0, w0⟩ := op_3.op hg h0
 obtain ⟨y1, h1⟩ := hf 1 _ rfl
 obtain ⟨v1, k1, w1⟩ := op_9.op hg h1
 obtain ⟨y2, h2⟩ := hf 2 _ rfl
 obtain ⟨v2, k2, w2⟩ := op_2.op hg h2
 obtain ⟨y3, h3⟩ := hf 3 _ rfl
 obtain ⟨v3, k3, w3⟩ := Z1p.op hg h3
 obtain ⟨y4, h4⟩ := hf 4 _ rfl
 obtain ⟨v4, k4, w4⟩ := op_9.op hg h4
 obtain ⟨y5, h5⟩ := hf 5 _ rfl
 obtain ⟨v5, k5, w5⟩ := Z51.op hg h5
 obtain ⟨y6, h6⟩ := hf 6 _ rfl
 obtain ⟨v6, k6, w6⟩ := op_4.op hg h6
 refine ⟨⟨v0, v1, v2, v3, v4, v5, v6⟩, ⟨hl.trans (by kernel_rfl), (List.forall_mem_cons.2 ⟨k0, (List.forall_mem_cons.2 ⟨k1, (List.forall_mem_cons.2 ⟨k2, (List.forall_mem_cons.2 ⟨k3, (List.forall_mem_cons.2 ⟨k4, (List.forall_mem_cons.2 ⟨k5, (List.forall_mem_cons.2 ⟨k6, (fun _ h => by cases h)⟩)⟩)⟩)⟩)⟩)⟩)⟩)⟩, w0, w1, w2, w3, w4, w5, w6⟩, fun h => Zmw Tryz.underlying54 h⟩
theorem Zbao : Opn Tryz.prog 23 Z2.sl (fun x => (x.length ≤ maxLen ∧ ∀ e0 ∈ x, (Zkm e0))) := Zxi Tryz.underlying23 (by kernel_rfl) Z91 (by decide)
theorem Zbah : Opn Tryz.prog 25 Zcf Zjr := ⟨by kernel_rfl, fun hg h => by
 obtain ⟨hl, n, hf⟩ := Zl1 Tryz.underlying25 h
 obtain ⟨y0, h0⟩ := hf 0 _ rfl
 obtain ⟨v0, k0, w0⟩ := Zbao.op hg h0
 refine ⟨⟨v0⟩, ⟨hl.trans (by kernel_rfl), (List.forall_mem_cons.2 ⟨k0, (fun _ h => by cases h)⟩)⟩, w0⟩, fun h => Zmw Tryz.underlying25 h⟩
theorem Zbbk : Opn Tryz.prog 26 (Kd.arr 2 Zcf) (fun x => (x.length = 2 ∧ ∀ e0 ∈ x, (Zjr e0))) := Z76 Tryz.underlying26 (by kernel_rfl) Zbah (by decide)
theorem Z5k : Det Tryz.prog 9 := Z61 Tryz.underlying9
theorem Z97 : Det Tryz.prog 3 := Z6x Tryz.underlying3
theorem Z7m : Det Tryz.prog 131 := Z08 Tryz.underlying131 (fun i f h => match i, f, h with
 | 0, _, h => by obtain rfl := Option.some.inj h; exact Z5k
 | 1, _, h => by obtain rfl := Option.some.inj h; exact Z97
 | 2, _, h => by obtain rfl := Option.some.inj h; exact Z5k
 | _ + 3, _, h => by cases h) (by kernel_rfl)
theorem Z7d : Det Tryz.prog 144 := Z67 Tryz.underlying144 Z7m (by kernel_rfl)
theorem FoldPlaces_met (os : Os) (args : Array Value) : laidMetH Tryz.prog [("moiety/act.kinds", Go.Proofs.YtlhmmgcmbeegjaaGreatDoor.Rows.laid_moiety_act_kinds)] ((World.doorLaid Tryz.prog 400 os).forCall (fun _ _ => 0) ⟨#[], args, []⟩).memory :=
 laidMetH_of_parts3 (fuel := 8) (laidMet_of_run' 8 (by kernel_rfl) (by kernel_rfl)) (by kernel_rfl) (by kernel_rfl)
theorem FoldPlaces_gl {W : World} (h : laidMetH Tryz.prog [("moiety/act.kinds", Go.Proofs.YtlhmmgcmbeegjaaGreatDoor.Rows.laid_moiety_act_kinds)] W) : GLok W (fun b _ => b < W.heap.size) := by
 have g0 := Z5a (P := Tryz.prog) (nm := "moiety/act.kinds") (d := Go.Proofs.YtlhmmgcmbeegjaaGreatDoor.Rows.laid_moiety_act_kinds) (g := 0) (t := 144) (W := W) (w0 := W) (cells := [.string ⟨#[]⟩, .int .i64 (0), .string ⟨#[]⟩, .string ⟨#[110, 101, 119]⟩, .int .i64 (0), .string ⟨#[109]⟩, .string ⟨#[100, 114, 111, 112]⟩, .int .i64 (0), .string ⟨#[]⟩, .string ⟨#[105, 115]⟩, .int .i64 (0), .string ⟨#[]⟩, .string ⟨#[108, 111, 111, 107]⟩, .int .i64 (0), .string ⟨#[]⟩, .string ⟨#[112, 117, 116]⟩, .int .i64 (1), .string ⟨#[115]⟩, .string ⟨#[115, 119, 97, 112]⟩, .int .i64 (1), .string ⟨#[115]⟩, .string ⟨#[97, 100, 100]⟩, .int .i64 (2), .string ⟨#[110]⟩, .string ⟨#[112, 108, 117, 115]⟩, .int .i64 (3), .string ⟨#[110]⟩, .string ⟨#[114, 101, 97, 99, 104]⟩, .int .i64 (3), .string ⟨#[110]⟩, .string ⟨#[105, 110]⟩, .int .i64 (4), .string ⟨#[110]⟩, .string ⟨#[111, 117, 116]⟩, .int .i64 (4), .string ⟨#[110]⟩, .string ⟨#[101, 110, 111, 117, 103, 104]⟩, .int .i64 (4), .string ⟨#[110]⟩, .string ⟨#[114, 97, 105, 115, 101]⟩, .int .i64 (5), .string ⟨#[120]⟩, .string ⟨#[108, 111, 119, 101, 114]⟩, .int .i64 (6), .string ⟨#[120]⟩, .string ⟨#[115, 104, 105, 102, 116]⟩, .int .i64 (7), .string ⟨#[120]⟩, .string ⟨#[115, 99, 97, 108, 101]⟩, .int .i64 (7), .string ⟨#[120]⟩, .string ⟨#[102, 105, 120]⟩, .int .i64 (7), .string ⟨#[120]⟩, .string ⟨#[106, 111, 105, 110]⟩, .int .i64 (8), .string ⟨#[115]⟩, .string ⟨#[108, 101, 97, 118, 101]⟩, .int .i64 (8), .string ⟨#[115]⟩, .string ⟨#[104, 97, 115]⟩, .int .i64 (8), .string ⟨#[115]⟩, .string ⟨#[111, 102, 102, 101, 114]⟩, .int .i64 (9), .string ⟨#[120, 115]⟩]) (fu := 8) (by kernel_rfl) (by kernel_rfl) Z7d (by kernel_rfl) (by kernel_rfl) h
 intro e he i v hv
 rcases List.mem_cons.1 he with rfl | he
 · exact ⟨(Zq3 (g0 i v hv)).2, g0 i v hv⟩
 cases he
theorem FoldPlaces_ret (os : Os) (started : os.Started) (H : Type) (enc : TypeId × Value → H) :
   ReturnsInHanded {} Tryz.checked os 3 .any (fun w args => (Go.Proofs.YtlhmmgcmbeegjaaGreatDoor.Rows.foldPlacesSpec.pre enc Tryz.prog Tryz.f3 [] false w args ∧ laidMetH Tryz.prog [("moiety/act.kinds", Go.Proofs.YtlhmmgcmbeegjaaGreatDoor.Rows.laid_moiety_act_kinds)] w) ∧ sizedMet enc Tryz.prog Tryz.f3 (OpenSpec.ofChange Go.Proofs.YtlhmmgcmbeegjaaGreatDoor.Rows.foldPlacesSpec) false w args) (Go.Proofs.YtlhmmgcmbeegjaaGreatDoor.Rows.foldPlacesSpec.post enc Tryz.prog Tryz.f3 false true false false) := by
 refine returnsInHanded_of_change_and (C := Tryz.checked) (X := fun w _ => laidMetH Tryz.prog [("moiety/act.kinds", Go.Proofs.YtlhmmgcmbeegjaaGreatDoor.Rows.laid_moiety_act_kinds)] w) (fun _ _ _ hh h => h.of_heap hh) Z35 started (by kernel_rfl) Tryz.func3
   (ChangeSpec.witness_shaped (enc := enc) (C := Tryz.checked) (os := os) (X := fun w _ => laidMetH Tryz.prog [("moiety/act.kinds", Go.Proofs.YtlhmmgcmbeegjaaGreatDoor.Rows.laid_moiety_act_kinds)] w) false (World.doorLaid Tryz.prog 400 os) #[.int .i64 0, .slice none 0 0, .agg #[.slice none 0 0, .slice none 0 0]] 8 rfl (World.shaped_of_RefB (by kernel_rfl) (by kernel_rfl)) (by kernel_rfl) (by kernel_rfl) (by kernel_rfl) (FoldPlaces_met os _)) ?_
 intro W base args ds gs before hval0 hW hcnd _ hL _
 have hval : ∀ (j : Nat) t v, Tryz.f3.params[j]? = some t → args[j]? = some v → Value.okWide Tryz.prog W .any base t v := hval0
 have hW' := hW
 obtain ⟨p, q, hA0, hV, rfl, hfz, hnd⟩ := hW
 have hA : DataW.TrodAll enc Tryz.prog W 0 (fun _ => true) true Tryz.f3.params.toList args.toList ds p := hA0
 rw [Tryz.params3] at hA hval
 obtain ⟨v0, v1, v2, d0, d1, d2, p0, p1, p2, rfl, rfl, rfl, h0, h1, h2⟩ := trodAll_three hA
 obtain ⟨rfl, rfl⟩ := trodVars_none hV
 simp only [List.append_nil] at hW'
 have hg : GLok W (fun b _ => b < W.heap.size) := (FoldPlaces_gl hL)
 have hk0 := h0
 obtain ⟨a0, q0, w0⟩ := Zw9 op_3 hg h0 (hval 0 3 v0 rfl rfl)
 have hk1 := h1
 obtain ⟨a1, q1, w1⟩ := Zw9 Zbbm hg h1 (hval 1 22 v1 rfl rfl)
 have hk2 := h2
 obtain ⟨a2, q2, w2⟩ := Zw9 Zbbk hg h2 (hval 2 26 v2 rfl rfl)
 refine (Znc a0 a1 a2 (FoldPlaces_true a0 a1 a2 w0 w1 w2) (GW W hg) [v0, v1, v2] (Zmj q0 (Zmj q1 (Zmj q2 Zd7)))).mono fun e W' ⟨g', v, he, hw, hs, hq⟩ => ?_
 subst he; subst hw
 rw [Zim.1 hq]
 have hbel := Z4o hs
 have hlt : ∀ x ∈ (p0 ++ p1 ++ p2), x.block < W.heap.size := fun x hx => by simpa using hW'.lt x hx
 exact ⟨_, rfl, Zwc (pv := []) hW' hbel (trodAll_mk1 (shut_bool Tryz.underlying4 true)) (trodAll_mk3 (Below.trod Zqy (by kernel_rfl) (of_decide_eq_true (by kernel_rfl)) hk0 hbel (fun x hx => hlt x (by simp [hx]))) (Below.trod Zqy (by kernel_rfl) (of_decide_eq_true (by kernel_rfl)) hk1 hbel (fun x hx => hlt x (by simp [hx]))) (Below.trod Zqy (by kernel_rfl) (of_decide_eq_true (by kernel_rfl)) hk2 hbel (fun x hx => hlt x (by simp [hx])))) rfl⟩
theorem FoldPlaces_holds : Go.Proofs.YtlhmmgcmbeegjaaGreatDoor.Rows.FoldPlacesSaid :=
 OpenClaim.holds_of_wide 3 Tryz.f3 rfl rfl rfl rfl rfl rfl rfl ⟨rfl, rfl, rfl, rfl, rfl⟩ rfl rfl rfl rfl rfl (by kernel_rfl) Tryz.func3 (by kernel_rfl)
   (of_decide_eq_true (by kernel_rfl)) (by unfold Func.isWrapper; first | (rw [if_pos (by decide +kernel)]; kernel_rfl) | (rw [if_neg (by decide +kernel)]; exact ⟨rfl, rfl⟩))
   (fun os started H enc _ => FoldPlaces_ret os started H enc)
theorem FoldPlaces_card : Go.Proofs.YtlhmmgcmbeegjaaGreatDoor.Rows.FoldPlacesCardSaid :=
 Claim7.holds_tied_plain_at .later [] [.data] true (true, "7b294a6def8d9b2e075bb1099e487ccd78497f867c1f9677a3ab6e515234df3e") true
   FoldPlaces_holds (fun _ h => by cases h) (by kernel_rfl) (fun _ h => by cases h) Go.Proofs.YtlhmmgcmbeegjaaGreatDoor.foldPlaces_row_tie rfl ⟨rfl, rfl⟩ (by kernel_rfl) rfl
   (fun f fn hf hfn => by
     obtain rfl : f = 3 := Option.some.inj ((show Tryz.prog.funcNamed "moiety/moietylaw10.FoldPlaces" = some 3 by kernel_rfl).symm.trans hf) |>.symm
     obtain rfl : fn = Tryz.f3 := (Option.some.inj (Tryz.func3.symm.trans hfn)).symm
     exact ⟨by kernel_rfl, fun j t ht => by
       rw [Tryz.params3] at ht
       have hm : t ∈ [3, 22, 26] := by simpa using Array.mem_of_getElem? ht
       have hall : (([3, 22, 26] : List TypeId).all fun u => !Tryz.prog.wantsStandIn u) = true := by kernel_rfl
       exact (show Tryz.prog.wantsStandIn t = false by simpa using List.all_eq_true.1 hall t hm)⟩)
   (by kernel_rfl)
end Go.CL
