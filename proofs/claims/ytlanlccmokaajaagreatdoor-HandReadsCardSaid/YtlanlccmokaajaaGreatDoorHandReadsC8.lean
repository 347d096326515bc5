/- A part of the proof of HandReads. -/
import Derived.Test.YtlanlccmokaajaaGreatDoorHandReadsC7
import Derived.Test.YtlanlccmokaajaaGreatDoorRows
import Derived.Test.YtlanlccmokaajaaGreatDoorCards
import Derived.Test.YtlanlccmokaajaaGreatDoorTie
import Derived.SevenTiedAt
set_option linter.unusedVariables false
set_option linter.unusedSimpArgs false
set_option maxRecDepth 100000
namespace Go.CL
open Go
theorem Z3y {o : Option Zd} {a : Zs} (ho : OkO o) (ha : ActIn a) (hk : Zho a.Kind = true) : ∃ x, ap o a = some (o, x) := by
 have hk : a.Kind = 3 ∨ a.Kind = 4 ∨ a.Kind = 9 ∨ a.Kind = 12 ∨ a.Kind = 20 := by
   unfold Zho at hk
   simp only [Bool.or_eq_true, beq_iff_eq] at hk
   omega
 cases o with
 | none =>
   obtain ⟨x, e, _⟩ := Z7l ha (by omega)
   exact ⟨x, e⟩
 | some r =>
   obtain ⟨hr, hg⟩ := ho r rfl
   obtain ⟨z, e, hs⟩ := Zk5 (there := true) hr ha
   rw [if_pos rfl] at hs
   simp only [ap, getR, e, Option.bind_some]
   rcases hs with ⟨c, hc, rfl⟩ | ⟨h1, h2, h3, ⟨k, k2, k3, rfl⟩ | ⟨k, k2, rfl⟩ | ⟨k, rfl⟩ | ⟨k, k2, rfl⟩ | ⟨k, k2, k3, k4, r', o, q1, q2, q3, q4, q5, rfl⟩⟩
   · exact ⟨ans c, by simp [hc]⟩
   · cases k2
   · omega
   · exact ⟨_, rfl⟩
   · exact ⟨_, rfl⟩
   · have : r' = r := Zti (by omega) hr hg k4 q1
     subst this
     exact ⟨o, by simp [q2]⟩
theorem Z4s {R : Int} {sp : List ByteArray} {L L' : List KV} {a : Zs} {x : Zi} (h : InvK L) (ha : ActIn a) (e : Zpr R sp L a = some (L', x)) {z : ByteArray} (hz : z = a.Key → (hasB sp a.Key || Zho a.Kind) = true) : lk z L' = lk z L := by
 unfold Zpr at e
 by_cases hb : hasB sp a.Key = true
 · rw [if_pos hb] at e
   cases e
   rfl
 · rw [if_neg hb] at e
   by_cases hrd : Zho a.Kind = true
   · obtain ⟨y, e1⟩ := Z3y (h.at_ a.Key) ha hrd
     rw [Zv1 h.srt e1] at e
     cases e
     rfl
   · have hz : z ≠ a.Key := fun he => by
       have := hz he
       rw [Bool.eq_false_iff.2 hb, Bool.eq_false_iff.2 hrd] at this
       cases this
     obtain ⟨o1, y, e1, _⟩ := Z2k (h.at_ a.Key) ha
     unfold Zk9 at e
     rw [e1] at e
     simp only [Option.bind_some] at e
     split at e
     · cases e; rfl
     · cases e
       rw [Z3j h.srt, if_neg (fun he => hz (Zde.1 he))]
def Zfb (sp : List ByteArray) (A : List Zs) : List ByteArray := (A.filter fun a => !(hasB sp a.Key || Zho a.Kind)).map (·.Key)
def Zim (sp : List ByteArray) (A : List Zs) : List Zs := A.filter fun a => hasB sp a.Key
theorem Z7z {sp : List ByteArray} {a : Zs} {A : List Zs} (h : hasB sp a.Key = true) : Zim sp (a :: A) = a :: Zim sp A := by simp [Zim, h]
theorem Zxy {sp : List ByteArray} {a : Zs} {A : List Zs} (h : hasB sp a.Key = false) : Zim sp (a :: A) = Zim sp A := by simp [Zim, h]
theorem Z1d {sp : List ByteArray} {a : Zs} {A : List Zs} (h : (hasB sp a.Key || Zho a.Kind) = true) : Zfb sp (a :: A) = Zfb sp A := by
 unfold Zfb
 rw [List.filter_cons_of_neg (by rw [h]; simp)]
theorem Z8y {sp : List ByteArray} {a : Zs} {A : List Zs} (h : (hasB sp a.Key || Zho a.Kind) = false) : Zfb sp (a :: A) = a.Key :: Zfb sp A := by
 unfold Zfb
 rw [List.filter_cons_of_pos (by rw [h]; rfl), List.map_cons]
theorem Zz7 {R : Int} {sp : List ByteArray} : ∀ {A : List Zs} {L L' : List KV} {xs : List Zi} {c : Int}, InvK L → (∀ a ∈ A, ActIn a) → runS R sp A L = some (L', xs, c) → ∀ z, z ∉ Zfb sp A → lk z L' = lk z L
 | [], L, L', xs, c, h, _, e, z, _ => by cases e; rfl
 | a :: A, L, L', xs, c, h, hA, e, z, hz => by
   have ha := hA a (List.mem_cons_self ..)
   obtain ⟨La, xa, s1, i1, i2⟩ := Zvx (R := R) (sp := sp) h ha
   rw [runS, s1] at e
   simp only [Option.bind_some] at e
   have h1 : lk z La = lk z L := Z4s h ha s1 fun he => by
     cases hq : (hasB sp a.Key || Zho a.Kind) with
     | true => rfl
     | false =>
       refine absurd ?_ hz
       unfold Zfb
       rw [List.filter_cons_of_pos (by rw [hq]; rfl), List.map_cons, he]
       exact List.mem_cons_self ..
   have hz2 : z ∉ Zfb sp A := fun hm => hz (by
     unfold Zfb at hm ⊢
     obtain ⟨b, hb, rfl⟩ := List.mem_map.1 hm
     exact List.mem_map.2 ⟨b, by
       obtain ⟨b1, b2⟩ := List.mem_filter.1 hb
       exact List.mem_filter.2 ⟨List.mem_cons_of_mem _ b1, b2⟩, rfl⟩)
   split at e
   · cases e; exact h1
   · obtain ⟨⟨w1, w2, w3⟩, r1, e⟩ := Option.bind_eq_some_iff.1 e
     simp only [Option.some.injEq, Prod.mk.injEq] at e
     obtain ⟨rfl, _, _⟩ := e
     rw [Zz7 i1 (fun a ha => hA a (List.mem_cons_of_mem _ ha)) r1 z hz2, h1]
theorem Z6t {k : ByteArray} {l : List KV} (hs : Srt l) (h : (lk k l).isSome = true) : (delL k l).length + 1 = l.length := by
 rcases Zmx zrc hs with ⟨p, a1, _, _, _, a5⟩ | ⟨_, a2, _⟩
 · have := (List.getElem?_eq_some_iff.1 a1).1
   rw [a5]
   simp
   omega
 · rw [a2] at h; cases h
theorem Z0d : ∀ {A B : List KV}, Srt A → Srt B → (∀ k, (lk k A).isSome = true → (lk k B).isSome = true) → A.length ≤ B.length
 | [], B, _, _, _ => Nat.zero_le _
 | p :: A, B, hA, hB, h => by
   obtain ⟨a1, a2⟩ := List.pairwise_cons.1 hA
   have h1 := Z6t hB (h p.1 (by simp [lk, Zc8]))
   have := Z0d a2 (Zri (k := p.1) hB) fun k hk => by
     rw [Zqq k p.1 hB]
     by_cases he : sEq k p.1 = true
     · rw [Zkg fun q hq e => ?_] at hk
       · cases hk
       · have := a1 q hq
         rw [e, Zde.1 he, Zhd] at this; cases this
     · rw [if_neg he]
       refine h k ?_
       simp only [lk]
       rw [if_neg he]
       exact hk
   simp only [List.length_cons]
   omega
theorem Z4z {A B : List KV} {k : ByteArray} (hA : Srt A) (hB : Srt B) (h : ∀ k, (lk k A).isSome = true → (lk k B).isSome = true) (h1 : lk k A = none) (h2 : (lk k B).isSome = true) : A.length < B.length := by
 have := Z0d (Zrr (k := k) (x := zrc) hA) hB fun z hz => by
   rw [Zt6] at hz
   by_cases he : sEq z k = true
   · rw [Zde.1 he]; exact h2
   · rw [if_neg he] at hz
     exact h z hz
 rcases Zmx zrc hA with ⟨p, _, _, a3, _⟩ | ⟨_, _, a3, _⟩
 · rw [h1] at a3; cases a3
 · rw [a3] at this
   have hr := Ztv k A
   simp at this
   omega
theorem Z6o {s : Zl} {t : Zo} {n : Nat} (h : FR s t n) (hn : n < 1000000) (k : ByteArray) : ∃ s' t' b, Zd0 s k = some (s', b) ∧ FR s' t' n ∧ pl t' = delL k (pl t) ∧ t'.Room = t.Room := by
 obtain ⟨s', t', b, f1, f2, f3, f4⟩ := Zw9 h.rel hn k
 have hd := Zz6 h.rel hn f1
 rw [f3.top] at hd
 have hro : t'.Room = t.Room := by rw [← f3.room, Zv7 f1, h.rel.room]
 have hf := h.fit
 refine ⟨s', t', b, f1, ⟨f3, fun q hq => ?_, ?_⟩, hd, hro⟩
 · rw [hd] at hq; exact h.good q (Znq hq)
 · have := Znz k (pl t)
   rw [Ze5] at this
   rw [hro, ← Ze5, hd]; omega
theorem Z7g {s : Zl} {t : Zo} {n : Nat} (h : FR s t n) (hn : n < 1000000) {k : ByteArray} {y : Zd} (hw : RecW y) (hg : Zct y) (k1 : sEq k ⟨#[]⟩ = false) (k2 : k.size ≤ 24) (ho : (lk k (pl t)).isSome = true ∨ (t.L.length : Int) < t.Room) :
   ∃ s' t', Zc4 s k y = some (s', 0) ∧ FR s' t' (n + 1) ∧ pl t' = insL k y (pl t) ∧ t'.Room = t.Room := by
 have hsh := Zpg hg
 obtain ⟨s', t', c, f1, f2, f3, _⟩ := Zpt h.rel hn k hw.ok (by omega)
 obtain ⟨rfl, hp⟩ := (Zpp h.rel hn f1 ((Zkq hw.ok).2 hg) (by omega) k1 k2).1 ho
 rw [f3.top] at hp
 have hro : t'.Room = t.Room := by rw [← f3.room, Zq1 f1, h.rel.room]
 exact ⟨s', t', f1, Zxa h f3 hw hg ho hp hro, hp, hro⟩
theorem Zoj {d : Zbg} (hl : d.Acts.length ≤ 12) : ∀ (n i : Nat), i + n = d.Acts.length → Ze8 d (n + 1) (i : Int) = some (.inr ()) → ∀ a ∈ d.Acts.drop i, Zfz a = some 0
 | 0, i, h, _, a, ha => by
   rw [List.drop_of_length_le (by omega)] at ha; cases ha
 | n + 1, i, h, e, a, ha => by
   have h1 : i < d.Acts.length := by omega
   rw [Ze8, if_pos (by simp; omega), Zdb h1, wr1 (by omega)] at e
   simp only [Option.bind_some] at e
   obtain ⟨c, e1, e⟩ := Option.bind_eq_some_iff.1 e
   by_cases hc : (c != 0) = true
   · rw [if_pos hc] at e; cases e
   · rw [if_neg hc] at e
     rw [List.drop_eq_getElem_cons h1] at ha
     rcases List.mem_cons.1 ha with rfl | ha
     · rw [e1]
       have : c = 0 := by simpa using hc
       rw [this]
     · exact Zoj hl n (i + 1) (by omega) e a ha
theorem Zzk {d : Zbg} {at_ : Int} (hd : ∀ a ∈ d.Acts, ActIn a) (e : Zfr d = some (0, at_)) : d.Acts.length ≤ 12 ∧ ∀ a ∈ d.Acts, Zfz a = some 0 := by
 obtain ⟨c, at2, e1, _, hc⟩ := Zsm hd
 rw [e] at e1
 simp only [Option.some.injEq, Prod.mk.injEq] at e1
 have hl := hc e1.1.symm
 refine ⟨hl.2, ?_⟩
 unfold Zfr at e
 rw [if_neg (by rw [Bool.or_eq_true, beq_iff_eq, decide_eq_true_eq]; omega), show (Int.toNat ((d.Acts.length : Int) - (0 : Int)) + 1) = d.Acts.length + 1 by omega] at e
 obtain ⟨z, ez, e⟩ := Option.bind_eq_some_iff.1 e
 have hz : z = .inr () := by
   rcases z with ⟨c, b⟩ | u
   · simp only [Option.some.injEq, Prod.mk.injEq] at e
     obtain ⟨z2, f1, _, f3⟩ := Zov hd hl.2 d.Acts.length 0 (by omega)
     rw [show ((0 : Nat) : Int) = 0 from rfl, ez] at f1
     simp only [Option.some.injEq] at f1
     subst f1
     rcases f3 with f3 | ⟨c2, a2, f3, f4⟩
     · cases f3
     · simp only [Sum.inl.injEq, Prod.mk.injEq] at f3
       exact absurd (f3.1.symm.trans e.1) f4
   · rfl
 subst hz
 exact Zoj hl.2 d.Acts.length 0 (by omega) ez
theorem Zrw {h : Zu} (hl : h.d.Acts.length ≤ 1000) (hs : h.split.length ≤ 1000) : ∀ (n i : Nat) (xs : List Zs) (ks : List ByteArray), i + n = h.d.Acts.length → xs.length ≤ i → ks.length ≤ i → Zc1 h (n + 1) xs ks (i : Int) = some (xs ++ Zim h.split (h.d.Acts.drop i), ks ++ Zfb h.split (h.d.Acts.drop i))
 | 0, i, xs, ks, hi, _, _ => by
   rw [Zc1, if_neg (by simp; omega), List.drop_of_length_le (by omega)]
   simp [Zim, Zfb]
 | n + 1, i, xs, ks, hi, h2, h3 => by
   have h1 : i < h.d.Acts.length := by omega
   rw [Zc1, if_pos (by simp; omega), Zdb h1, List.drop_eq_getElem_cons h1]
   simp only [Option.bind_some]
   rw [Zsb _ hs]
   simp only [Option.bind_some, Zfj, wr1 (show i < 9223372036854775807 by omega)]
   by_cases hb : hasB h.split (h.d.Acts[i]).Key = true
   · rw [if_pos hb, if_pos (by simp; omega), Zrw hl hs n (i + 1) _ _ (by omega) (by simp; omega) (by omega)]
     rw [Z7z hb, Z1d (by rw [hb]; rfl), List.append_assoc]
     rfl
   · rw [if_neg hb]
     have hb' := Bool.eq_false_iff.2 hb
     simp only [Zjf, Option.bind_some]
     by_cases hrd : Zho (h.d.Acts[i]).Kind = true
     · have hrd' := hrd
       unfold Zho at hrd'
       rw [hrd']
       simp only [Bool.not_true, Bool.false_eq_true, if_false]
       rw [Zrw hl hs n (i + 1) _ _ (by omega) (by omega) (by omega)]
       rw [Zxy hb', Z1d (by rw [hrd, hb']; rfl)]
     · have hrd1 := Bool.eq_false_iff.2 hrd
       have hrd' := hrd1
       unfold Zho at hrd'
       rw [hrd']
       simp only [Bool.not_false, if_true]
       rw [if_pos (by simp; omega), Zrw hl hs n (i + 1) _ _ (by omega) (by omega) (by simp; omega)]
       rw [Zxy hb', Z8y (by rw [hrd1, hb']; rfl), List.append_assoc]
       rfl
theorem Zvb {h : Zu} {tn : Zo} {nn : Nat} (hnow : FR h.now tn nn) {K : List ByteArray} (hl : K.length ≤ 1000) : ∀ (n i : Nat) {s : Zl} {t : Zo} {m : Nat}, i + n = K.length → FR s t m → m < 1000000 →
   ∃ s' t', Zdg h K (n + 1) s (i : Int) = some s' ∧ FR s' t' m ∧ t'.Room = t.Room ∧ (∀ z, z ∈ K.drop i → lk z (pl tn) = none → lk z (pl t') = none) ∧ (∀ z, ¬ (z ∈ K.drop i ∧ lk z (pl tn) = none) → lk z (pl t') = lk z (pl t))
 | 0, i, s, t, m, hi, hf, hm => by
   rw [Zdg, if_neg (by simp; omega), List.drop_of_length_le (by omega)]
   exact ⟨s, t, rfl, hf, rfl, fun z hz => (by cases hz), fun z _ => rfl⟩
 | n + 1, i, s, t, m, hi, hf, hm => by
   have h1 : i < K.length := by omega
   rw [Zdg, if_pos (by simp; omega), Zdb h1, List.drop_eq_getElem_cons h1]
   simp only [Option.bind_some]
   rw [Zmk hnow.rel]
   simp only [Option.bind_some, Zgj, wr1 (show i < 9223372036854775807 by omega)]
   cases hk : lk K[i] (pl tn) with
   | none =>
     simp only [getR, Bool.not_false, if_true]
     obtain ⟨s1, t1, b, f1, f2, f3, f4⟩ := Z6o hf hm K[i]
     rw [f1]
     simp only [Option.bind_some]
     obtain ⟨s', t', g1, g2, g3, g4, g5⟩ := Zvb hnow hl n (i + 1) (by omega) f2 hm
     refine ⟨s', t', g1, g2, g3.trans f4, fun z hz hn => ?_, fun z hz => ?_⟩
     · by_cases hr : z ∈ K.drop (i + 1)
       · exact g4 z hr hn
       · rw [g5 z (fun h => hr h.1), f3, Zqq z _ hf.rel.srt]
         rcases List.mem_cons.1 hz with rfl | hz
         · rw [Zc8]; rfl
         · exact absurd hz hr
     · rw [g5 z (fun h => hz ⟨List.mem_cons_of_mem _ h.1, h.2⟩), f3, Zqq z _ hf.rel.srt, if_neg]
       intro he
       exact hz ⟨by rw [Zde.1 he]; exact List.mem_cons_self .., by rw [Zde.1 he]; exact hk⟩
   | some r =>
     simp only [getR, Bool.not_true, Bool.false_eq_true, if_false]
     obtain ⟨s', t', g1, g2, g3, g4, g5⟩ := Zvb hnow hl n (i + 1) (by omega) hf hm
     refine ⟨s', t', g1, g2, g3, fun z hz hn => ?_, fun z hz => ?_⟩
     · rcases List.mem_cons.1 hz with rfl | hz
       · rw [hk] at hn; cases hn
       · exact g4 z hz hn
     · exact g5 z (fun h => hz ⟨List.mem_cons_of_mem _ h.1, h.2⟩)
theorem Zus {h : Zu} {tn : Zo} {nn : Nat} (hnow : FR h.now tn nn) {K : List ByteArray} (hl : K.length ≤ 1000) {T : List KV} {R : Int} (hT : Srt T) (hTR : (T.length : Int) ≤ R) (hTK : ∀ z ∈ K, lk z T = lk z (pl tn)) (hok : ∀ k ∈ K, sEq k ⟨#[]⟩ = false ∧ k.size ≤ 24) : ∀ (n i : Nat) {s : Zl} {t : Zo} {m : Nat}, i + n = K.length → FR s t m → m + n < 1000000 → t.Room = R → (∀ z, (lk z (pl t)).isSome = true → (lk z T).isSome = true) →
   ∃ s' t', Zdi h K (n + 1) s (i : Int) = some s' ∧ FR s' t' (m + n) ∧ t'.Room = R ∧ (∀ z, z ∈ K.drop i → (lk z (pl tn)).isSome = true → lk z (pl t') = lk z (pl tn)) ∧ (∀ z, ¬ (z ∈ K.drop i ∧ (lk z (pl tn)).isSome = true) → lk z (pl t') = lk z (pl t))
 | 0, i, s, t, m, hi, hf, hm, hr, _ => by
   rw [Zdi, if_neg (by simp; omega), List.drop_of_length_le (by omega)]
   exact ⟨s, t, rfl, hf, hr, fun z hz => (by cases hz), fun z _ => rfl⟩
 | n + 1, i, s, t, m, hi, hf, hm, hr, hsub => by
   have h1 : i < K.length := by omega
   have hKi := List.getElem_mem h1
   rw [Zdi, if_pos (by simp; omega), Zdb h1, List.drop_eq_getElem_cons h1]
   simp only [Option.bind_some]
   rw [Zmk hnow.rel]
   simp only [Option.bind_some, Zgk, wr1 (show i < 9223372036854775807 by omega)]
   cases hk : lk K[i] (pl tn) with
   | none =>
     simp only [getR, Bool.false_eq_true, if_false]
     obtain ⟨s', t', g1, g2, g3, g4, g5⟩ := Zus hnow hl hT hTR hTK hok n (i + 1) (by omega) hf (by omega) hr hsub
     refine ⟨s', t', g1, g2.mono (by omega), g3, fun z hz hn => ?_, fun z hz => ?_⟩
     · rcases List.mem_cons.1 hz with rfl | hz
       · rw [hk] at hn; cases hn
       · exact g4 z hz hn
     · exact g5 z (fun h => hz ⟨List.mem_cons_of_mem _ h.1, h.2⟩)
   | some r =>
     simp only [getR, if_true]
     obtain ⟨hw, hg⟩ := hnow.good _ (Ztb hk)
     have hTk : lk K[i] T = some r := by rw [hTK _ hKi, hk]
     obtain ⟨s1, t1, f1, f2, f3, f4⟩ := Z7g hf (by omega) hw hg (hok _ hKi).1 (hok _ hKi).2 (by
       cases hc : lk K[i] (pl t) with
       | some _ => exact .inl rfl
       | none =>
         right
         have := Z4z hf.rel.srt hT hsub hc (by rw [hTk]; rfl)
         rw [Ze5] at this
         omega)
     rw [f1]
     simp only [Option.bind_some]
     have hl1 : ∀ z, lk z (pl t1) = if sEq z K[i] = true then some r else lk z (pl t) := fun z => by rw [f3, Zt6]
     obtain ⟨s', t', g1, g2, g3, g4, g5⟩ := Zus hnow hl hT hTR hTK hok n (i + 1) (by omega) f2 (by omega) (f4.trans hr) (fun z hz => by
       rw [hl1] at hz
       by_cases he : sEq z K[i] = true
       · rw [Zde.1 he, hTk]; rfl
       · rw [if_neg he] at hz
         exact hsub z hz)
     refine ⟨s', t', g1, g2.mono (by omega), g3, fun z hz hn => ?_, fun z hz => ?_⟩
     · by_cases hr2 : z ∈ K.drop (i + 1)
       · exact g4 z hr2 hn
       · rcases List.mem_cons.1 hz with rfl | hz
         · rw [g5 _ (fun h => hr2 h.1), hl1, Zc8, hk]; rfl
         · exact absurd hz hr2
     · rw [g5 z (fun h => hz ⟨List.mem_cons_of_mem _ h.1, h.2⟩), hl1, if_neg]
       intro he
       exact hz ⟨by rw [Zde.1 he]; exact List.mem_cons_self .., by rw [Zde.1 he, hk]; rfl⟩
theorem Z3m {h : Zu} {s : Zl} (hc : h.over = false ∨ h.out.Code ≠ 0) : Zd6 h s = some (s, []) := by
 unfold Zd6
 rw [if_pos]
 rcases hc with hc | hc
 · rw [hc]; rfl
 · simp [hc]
theorem Zza {h : Zu} {d : Zbg} {sp : List ByteArray} {R : Int} {Lf : List KV} {Q : Z6} {n : Nat} (hd : ∀ a ∈ d.Acts, ActIn a) (hs : sp.length ≤ 1000) (H : HandGo h d sp R Lf Q n 0) (hq : Q.Code = 0) {at_ : Int} (hc : Zfr d = some (0, at_)) {s : Zl} {t : Zo} {m : Nat} (hf : FR s t m) (hm : m < 900000) (hr : t.Room = R)
   {T : List KV} (hT : Srt T) (hTR : (T.length : Int) ≤ R) (h1 : ∀ z ∈ Zfb sp d.Acts, lk z T = lk z Lf) (h2 : ∀ z, z ∉ Zfb sp d.Acts → lk z T = lk z (pl t)) :
   ∃ s' t', Zd6 h s = some (s', Zim sp d.Acts) ∧ FR s' t' (m + 12) ∧ pl t' = T ∧ t'.Room = R := by
 obtain ⟨hl, hca⟩ := Zzk hd hc
 obtain ⟨e1, e2, _, _, e3⟩ := H.done hd
 obtain ⟨_, _, tn, f1, f2, f3⟩ := e3 hq
 have hhd := H.hd
 have hhs := H.hsp
 have hKl : (Zfb sp d.Acts).length ≤ 12 := by
   unfold Zfb
   rw [List.length_map]
   exact Nat.le_trans (List.length_filter_le ..) hl
 have hok : ∀ k ∈ Zfb sp d.Acts, sEq k ⟨#[]⟩ = false ∧ k.size ≤ 24 := fun k hk => by
   obtain ⟨a, ha, rfl⟩ := List.mem_map.1 hk
   have ha := (List.mem_filter.1 ha).1
   exact Z3n (hd a ha) (hca a ha)
 subst f3
 unfold Zd6
 rw [e1, e2, hq]
 simp only [Bool.not_true, bne_self_eq_false, Bool.or_self, Bool.false_eq_true, if_false]
 have c1 := Zrw (h := h) (by rw [hhd]; omega) (by rw [hhs]; exact hs) d.Acts.length 0 [] [] (by rw [hhd]; omega) (by simp) (by simp)
 rw [hhd, hhs, List.drop_zero, List.nil_append, List.nil_append, show ((0 : Nat) : Int) = 0 from rfl] at c1
 rw [hhd, show (Int.toNat ((d.Acts.length : Int) - (0 : Int)) + 1) = d.Acts.length + 1 by omega, c1]
 simp only [Option.bind_some]
 obtain ⟨s1, t1, g1, g2, g3, g4, g5⟩ := Zvb f1 (K := Zfb sp d.Acts) (by omega) (Zfb sp d.Acts).length 0 (by omega) hf (by omega)
 rw [show ((0 : Nat) : Int) = 0 from rfl] at g1
 rw [show (Int.toNat (((Zfb sp d.Acts).length : Int) - (0 : Int)) + 1) = (Zfb sp d.Acts).length + 1 by omega, g1]
 simp only [Option.bind_some]
 rw [List.drop_zero] at g4 g5
 obtain ⟨s2, t2, k1, k2, k3, k4, k5⟩ := Zus f1 (K := Zfb sp d.Acts) (by omega) hT hTR h1 hok (Zfb sp d.Acts).length 0 (by omega) g2 (by omega) (g3.trans hr) (fun z hz => by
   by_cases hk : z ∈ Zfb sp d.Acts
   · rw [h1 z hk]
     cases hn : lk z (pl tn) with
     | some _ => rfl
     | none => rw [g4 z hk hn] at hz; cases hz
   · rw [h2 z hk, ← g5 z (fun h => hk h.1)]; exact hz)
 rw [show ((0 : Nat) : Int) = 0 from rfl] at k1
 rw [k1]
 simp only [Option.bind_some]
 rw [List.drop_zero] at k4 k5
 have hsa : ∀ a ∈ Zim sp d.Acts, ActIn a := fun a ha => hd a (List.mem_filter.1 ha).1
 rw [Zvh (d := { Acts := Zim sp d.Acts }) hsa (Nat.le_trans (List.length_filter_le ..) (by omega))]
 refine ⟨s2, t2, rfl, k2.mono (by omega), Zrh k2.rel.srt hT fun z => ?_, k3⟩
 by_cases hk : z ∈ Zfb sp d.Acts
 · cases hn : lk z (pl tn) with
   | some r => rw [k4 z hk (by rw [hn]; rfl), h1 z hk]
   | none => rw [k5 z (fun h => by rw [hn] at h; cases h.2), g4 z hk hn, h1 z hk, hn]
 · rw [k5 z (fun h => hk h.1), g5 z (fun h => hk h.1), h2 z hk]
def eqS : List KV → List KV → Bool
 | [], [] => true
 | p :: l, q :: m => sEq p.1 q.1 && Zla p.2 q.2 && eqS l m
 | _, _ => false
theorem Z0b : ∀ {a b : List KV}, eqS a b = true → a.length = b.length
 | [], [], _ => rfl
 | x :: xs, y :: ys, h => by
   simp only [eqS, Bool.and_eq_true] at h
   simp [Z0b h.2]
 | [], _ :: _, h => by simp [eqS] at h
 | _ :: _, [], h => by simp [eqS] at h
theorem Zx2 : ∀ l : List KV, eqS l l = true
 | [] => rfl
 | p :: l => by simp [eqS, Zc8, Z1m, Zx2 l]
structure SOk (s : Zl) : Prop where
 sz : Szd s.top
 srt : Srt (toL s.top)
 len : (toL s.top).length < 1000000
 ok : ∀ q ∈ toL s.top, Zhp q.2 ∧ q.2.List.length ≤ 100
theorem SOk.cl {s : Zl} (h : SOk s) : ∀ q ∈ toL s.top, Cl q.2 := fun q hq => by
 have := (h.ok q hq).2
 unfold Cl; omega
theorem Rel.sok {s : Zl} {t : Zo} {n : Nat} (h : Rel s t n) (hn : n < 1000000) : SOk s :=
 ⟨h.sz, by rw [h.top]; exact h.srt, by rw [h.tl]; have := h.len; omega, by rw [h.top]; exact h.ok⟩
theorem Zv4 {a b : Zl} (ha : SOk a) (hb : SOk b) (he : (toL a.top).length = (toL b.top).length) : ∀ (n i : Nat), i + n = (toL a.top).length →
   Zge a b ((toL a.top).length : Int) (n + 1) (i : Int) = some (endB (eqS ((toL a.top).drop i) ((toL b.top).drop i)))
 | 0, i, h => by
   rw [Zge, if_neg (by simp; omega), List.drop_of_length_le (by omega), List.drop_of_length_le (by omega)]
   rfl
 | n + 1, i, h => by
   have la := ha.len
   have h1 : i < (toL a.top).length := by omega
   have h2 : i < (toL b.top).length := by omega
   rw [Zge, if_pos (by simp; omega), Z44 ha.sz (by omega) (by omega) (by omega) ha.cl, Z44 hb.sz (by omega) (by omega) (by omega) hb.cl, idxn, idxn, List.getElem?_eq_getElem h1, List.getElem?_eq_getElem h2, wr1 (by omega), List.drop_eq_getElem_cons h1, List.drop_eq_getElem_cons h2]
   have r1 := (ha.ok _ (List.getElem_mem h1)).1
   have r2 := (hb.ok _ (List.getElem_mem h2)).1
   simp only [atR, Option.bind_some, eqS]
   cases hk : sEq (toL a.top)[i].1 (toL b.top)[i].1
   · simp [gd, endB]
   · simp only [Bool.not_true, Bool.not_false, gd_t]
     rw [Zx3 r1 r2]
     simp only [Option.bind_some, Bool.false_or, Bool.true_and]
     cases hs : Zla (toL a.top)[i].2 (toL b.top)[i].2
     · simp [endB]
     · simp only [Bool.not_true, Bool.false_eq_true, if_false, Bool.true_and]
       exact Zv4 ha hb he n (i + 1) (by omega)
theorem Z36 {a b : Zl} (ha : SOk a) (hb : SOk b) : Zjj a b = some (eqS (toL a.top) (toL b.top)) := by
 have la := ha.len
 have lb := hb.len
 unfold Zjj Zey
 rw [Zhg ha.sz, Zhg hb.sz]
 simp only [Option.bind_some]
 by_cases he : (toL a.top).length = (toL b.top).length
 · rw [if_neg (by simp; omega)]
   have := Zv4 ha hb he (toL a.top).length 0 (by omega)
   rw [show ((0 : Nat) : Int) = 0 from rfl] at this
   rw [show (Int.toNat (((toL a.top).length : Int) - (0 : Int)) + 1) = (toL a.top).length + 1 by omega, this]
   simp only [List.drop_zero]
   cases eqS (toL a.top) (toL b.top) <;> rfl
 · rw [if_pos (by simp; omega)]
   cases h : eqS (toL a.top) (toL b.top)
   · rfl
   · exact absurd (Z0b h) he
theorem Zv0 {R : Int} {sp : List ByteArray} {L Lf : List KV} {d : Zbg} {Q : Z6} (e : oneS R sp L d = some (Lf, Q)) (hq : Q.Code = 0) : (∃ at_, Zfr d = some (0, at_)) ∧ runS R sp d.Acts L = some (Lf, Q.Answers, 0) ∧ Q = { Code := 0, At := 0, Answers := Q.Answers } := by
 unfold oneS at e
 obtain ⟨⟨c, at_⟩, e1, e⟩ := Option.bind_eq_some_iff.1 e
 by_cases h0 : (c != 0) = true
 · rw [if_pos h0] at e
   cases e
   exact absurd hq (by simpa using h0)
 · rw [if_neg h0] at e
   obtain rfl : c = 0 := by simpa using h0
   obtain ⟨⟨w1, w2, w3⟩, r1, e⟩ := Option.bind_eq_some_iff.1 e
   by_cases hw : w3 = 0
   · rw [if_pos hw] at e
     simp only [Option.some.injEq, Prod.mk.injEq] at e
     obtain ⟨rfl, rfl⟩ := e
     subst hw
     exact ⟨⟨_, e1⟩, r1, rfl⟩
   · rw [if_neg hw] at e
     simp only [Option.some.injEq, Prod.mk.injEq] at e
     obtain ⟨rfl, rfl⟩ := e
     exact absurd hq hw
theorem Zso {R : Int} {sp : List ByteArray} {L Lf : List KV} {d : Zbg} {Q : Z6} (e : oneS R sp L d = some (Lf, Q)) (hq : Q.Code ≠ 0) : Lf = L ∧ Q.Answers = [] := by
 unfold oneS at e
 obtain ⟨⟨c, at_⟩, e1, e⟩ := Option.bind_eq_some_iff.1 e
 by_cases h0 : (c != 0) = true
 · rw [if_pos h0] at e
   cases e
   exact ⟨rfl, rfl⟩
 · rw [if_neg h0] at e
   obtain ⟨⟨w1, w2, w3⟩, r1, e⟩ := Option.bind_eq_some_iff.1 e
   by_cases hw : w3 = 0
   · rw [if_pos hw] at e
     cases e
     exact absurd rfl hq
   · rw [if_neg hw] at e
     cases e
     exact ⟨rfl, rfl⟩
theorem Z0q {R : Int} {sp : List ByteArray} {L Lf : List KV} {d : Zbg} {Q : Z6} (h : InvK L) (hd : ∀ a ∈ d.Acts, ActIn a) (e : oneS R sp L d = some (Lf, Q)) : ∀ z, z ∉ Zfb sp d.Acts → lk z Lf = lk z L := fun z hz => by
 by_cases hq : Q.Code = 0
 · exact Zz7 h hd (Zv0 e hq).2.1 z hz
 · rw [(Zso e hq).1]
theorem Z34 {h : Zu} {d : Zbg} {sp : List ByteArray} {R : Int} {Lf : List KV} {Q : Z6} {n : Nat} (hd : ∀ a ∈ d.Acts, ActIn a) (hs : sp.length ≤ 1000) (H : HandGo h d sp R Lf Q n 0) {s : Zl} {t : Zo} {m : Nat} (hf : FR s t m) (hm : m < 900000) (hr : t.Room = R) (e : oneS R sp (pl t) d = some (Lf, Q)) :
   ∃ s' t', Zd6 h s = some (s', if Q.Code = 0 then Zim sp d.Acts else []) ∧ FR s' t' (m + 12) ∧ pl t' = Lf ∧ t'.Room = R := by
 by_cases hq : Q.Code = 0
 · obtain ⟨_, _, _, _, e3⟩ := H.done hd
   obtain ⟨_, _, tn, f1, f2, f3⟩ := e3 hq
   obtain ⟨⟨at_, hc⟩, _⟩ := Zv0 e hq
   have hfit := f1.fit
   have hsrt := f1.rel.srt
   rw [f3] at hsrt
   rw [← Ze5, f3, f2] at hfit
   rw [if_pos hq]
   exact Zza hd hs H hq hc hf hm hr hsrt hfit (fun _ _ => rfl) (Z0q hf.inv hd e)
 · obtain ⟨_, e2, _⟩ := H.done hd
   rw [if_neg hq, Z3m (.inr (by rw [e2]; exact hq))]
   exact ⟨s, t, rfl, hf.mono (by omega), (Zso e hq).1.symm, hr⟩
theorem Z6z {s s' : Zl} {t t' : Zo} {n m : Nat} (h : FR s t n) (h' : FR s' t' m) (hn : n < 1000000) (hm : m < 1000000) (e : pl t = pl t') : Zjj s s' = some true := by
 rw [Z36 (h.rel.sok hn) (h'.rel.sok hm), h.rel.top, h'.rel.top, e, Zx2]
theorem Z3z : Zij = some true := by kernel_rfl
theorem Zta {d : Zbg} {sp : List ByteArray} (hl : d.Acts.length ≤ 1000) (hs : sp.length ≤ 1000) : ∀ (n i : Nat) (b : Bool), i + n = d.Acts.length → Zc7 d sp (n + 1) b (i : Int) = some (b && (d.Acts.drop i).all fun a => Zho a.Kind && !hasB sp a.Key)
 | 0, i, b, h => by
   rw [Zc7, if_neg (by simp; omega), List.drop_of_length_le (by omega)]
   simp
 | n + 1, i, b, h => by
   have h1 : i < d.Acts.length := by omega
   have hr : ∀ k, Zjf k = some (Zho k) := fun _ => rfl
   rw [Zc7, if_pos (by simp; omega), Zdb h1, wr1 (by omega), List.drop_eq_getElem_cons h1, List.all_cons]
   simp only [Option.bind_some]
   rw [hr, Znu]
   simp only [Option.bind_some]
   rw [Z60 _ hs, Znu]
   simp only [Option.bind_some]
   rw [Zta hl hs n (i + 1) _ (by omega)]
   cases b <;> cases Zho (d.Acts[i]).Kind <;> cases hasB sp (d.Acts[i]).Key <;> simp
theorem Zs9 {sp : List ByteArray} : ∀ {A : List Zs}, (A.all fun a => Zho a.Kind && !hasB sp a.Key) = true → Zfb sp A = [] ∧ Zim sp A = []
 | [], _ => ⟨rfl, rfl⟩
 | a :: A, h => by
   rw [List.all_cons, Bool.and_eq_true, Bool.and_eq_true] at h
   obtain ⟨⟨h1, h2⟩, h3⟩ := h
   obtain ⟨e1, e2⟩ := Zs9 h3
   have h2 : hasB sp a.Key = false := by simpa using h2
   rw [Z1d (by rw [h1, h2]; rfl), Zxy h2]
   exact ⟨e1, e2⟩
theorem HandReads_true (a0 : List Z9) (a1 : Zbg) (a2 : List ByteArray) (w0 : a0.length ≤ maxLen ∧ ∀ e0 ∈ a0, Zgi e0) (w1 : Zot a1) (w2 : a2.length ≤ maxLen ∧ ∀ e0 ∈ a2, e0.size ≤ maxLen) : Zg8 a0 a1 a2 = some true := by
 unfold Zg8
 rw [Z3z]
 simp only [Option.bind_some, Bool.not_true, Bool.false_eq_true, if_false]
 rcases Z4n (r := 50) w0.2 with ⟨s, e⟩ | ⟨s, t, e, hf, hr, _⟩
 · rw [e]; rfl
 · rw [e]
   obtain ⟨c, e1, e2, e3⟩ := big8 w1
   simp only [Option.bind_some, Option.isNone_some, Bool.not_false, gd_t, Bool.false_or]
   rw [e1]
   rcases e2 with rfl | rfl
   · simp only [Option.bind_some, Int.lt_irrefl, decide_false, Bool.false_or]
     by_cases hsp : 20 < a2.length
     · rw [if_pos (by simp; omega)]
     · rw [if_neg (by simp; omega)]
       obtain ⟨hl, hd⟩ := e3 rfl
       have r1 := Zta (d := a1) (sp := a2) (by omega) (by omega) a1.Acts.length 0 true (by omega)
       rw [show ((0 : Nat) : Int) = 0 from rfl, List.drop_zero, Bool.true_and] at r1
       rw [show (Int.toNat ((a1.Acts.length : Int) - (0 : Int)) + 1) = a1.Acts.length + 1 by omega, r1]
       obtain ⟨h, Lf, Q, m, g1, g2, g3, g4, _⟩ := Z3r (sp := a2) hf hd (by omega) (by omega)
       obtain ⟨h', k1, k2⟩ := Z4h hd (by omega) (by omega) g3 g4 (by omega)
       obtain ⟨q1, _, q2⟩ := Zzj hd (by omega) k2
       obtain ⟨s', t', l1, l2, l3, l4⟩ := Z34 hd (by omega) k2 hf (by omega) rfl g2
       simp only [Option.bind_some]
       rw [g1]
       simp only [Option.bind_some]
       rw [k1]
       simp only [Option.bind_some]
       rw [q1]
       simp only [Option.bind_some]
       rw [l1]
       simp only [Option.bind_some, Bool.not_true, Bool.not_false, gd_t]
       rw [q2]
       simp only [Option.bind_some, Bool.not_true, Bool.or_self, Bool.false_eq_true, if_false]
       generalize hy : (a1.Acts.all fun a => Zho a.Kind && !hasB a2 a.Key) = y
       by_cases hc : ((!y) && (Q.Code == (0 : Int))) = true
       · rw [hc]; rfl
       · rw [Bool.eq_false_iff.2 hc]
         have hpl : pl t' = pl t ∧ (if Q.Code = 0 then Zim a2 a1.Acts else []) = [] := by
           by_cases hq : Q.Code = 0
           · rw [if_pos hq]
             have hy1 : y = true := by
               cases y with
               | true => rfl
               | false => simp [hq] at hc
             subst hy1
             obtain ⟨n1, n2⟩ := Zs9 hy
             refine ⟨?_, n2⟩
             refine Zrh l2.rel.srt hf.rel.srt fun z => ?_
             rw [l3]
             exact Z0q hf.inv hd g2 z (by rw [n1]; intro h; cases h)
           · rw [if_neg hq, l3]
             exact ⟨(Zso g2 hq).1, rfl⟩
         rw [hpl.2, Z6z l2 hf (by omega) (by omega) hpl.1]
         rfl
   · rfl
end Go.CL
namespace Go.CL
open Go Go.RowKit Go.Proofs Go.ChangeShapes Go.WideShapes Go.ChangeAt
theorem Z3v : ownKnob Tryz.prog.godebug = none := by kernel_rfl
theorem Zrb : laidOutB Tryz.prog = true := by kernel_rfl
theorem op_9 : Opn Tryz.prog 9 Kd.str (fun x => (x.size ≤ maxLen)) := Z7m Tryz.underlying9 (by kernel_rfl)
theorem op_3 : Opn Tryz.prog 3 (Kd.int .i64) (fun x => ((IntKind.i64).min ≤ x ∧ x ≤ (IntKind.i64).max)) := Z0e Tryz.underlying3 (by kernel_rfl)
theorem op_2 : Opn Tryz.prog 2 (Kd.int .i64) (fun x => ((IntKind.i64).min ≤ x ∧ x ≤ (IntKind.i64).max)) := Z0e Tryz.underlying2 (by kernel_rfl)
theorem Z01 : Opn Tryz.prog 35 Kd.flt (fun x => (x < 2 ^ 64)) := Z6x Tryz.underlying35 (by kernel_rfl)
theorem Z9i : Opn Tryz.prog 116 Zx Zow := ⟨by kernel_rfl, fun hg h => by
 obtain ⟨hl, n, hf⟩ := Zly Tryz.underlying116 h
 obtain ⟨y0, h0⟩ := hf 0 _ rfl
 obtain ⟨v0, k0, w0⟩ := Z01.op hg h0
 obtain ⟨y1, h1⟩ := hf 1 _ rfl
 obtain ⟨v1, k1, w1⟩ := op_9.op hg h1
 refine ⟨⟨v0, v1⟩, ⟨hl.trans (by kernel_rfl), (List.forall_mem_cons.2 ⟨k0, (List.forall_mem_cons.2 ⟨k1, (fun _ h => by cases h)⟩)⟩)⟩, w0, w1⟩, fun h => Zna Tryz.underlying116 h⟩
theorem Z95 : Opn Tryz.prog 36 Zx.sl (fun x => (x.length ≤ maxLen ∧ ∀ e0 ∈ x, (Zow e0))) := Zue Tryz.underlying36 (by kernel_rfl) Z9i (by decide)
theorem Z49 : Opn Tryz.prog 38 Zh Zjp := ⟨by kernel_rfl, fun hg h => by
 obtain ⟨hl, n, hf⟩ := Zly Tryz.underlying38 h
 obtain ⟨y0, h0⟩ := hf 0 _ rfl
 obtain ⟨v0, k0, w0⟩ := op_3.op hg h0
 obtain ⟨y1, h1⟩ := hf 1 _ rfl
 obtain ⟨v1, k1, w1⟩ := op_2.op hg h1
 obtain ⟨y2, h2⟩ := hf 2 _ rfl
 obtain ⟨v2, k2, w2⟩ := op_2.op hg h2
 obtain ⟨y3, h3⟩ := hf 3 _ rfl
 obtain ⟨v3, k3, w3⟩ := op_2.op hg h3
 obtain ⟨y4, h4⟩ := hf 4 _ rfl
 obtain ⟨v4, k4, w4⟩ := Z01.op hg h4
 obtain ⟨y5, h5⟩ := hf 5 _ rfl
 obtain ⟨v5, k5, w5⟩ := op_3.op hg h5
 obtain ⟨y6, h6⟩ := hf 6 _ rfl
 obtain ⟨v6, k6, w6⟩ := op_9.op hg h6
 obtain ⟨y7, h7⟩ := hf 7 _ rfl
 obtain ⟨v7, k7, w7⟩ := Z95.op hg h7
 refine ⟨⟨v0, v1, v2, v3, v4, v5, v6, v7⟩, ⟨hl.trans (by kernel_rfl), (List.forall_mem_cons.2 ⟨k0, (List.forall_mem_cons.2 ⟨k1, (List.forall_mem_cons.2 ⟨k2, (List.forall_mem_cons.2 ⟨k3, (List.forall_mem_cons.2 ⟨k4, (List.forall_mem_cons.2 ⟨k5, (List.forall_mem_cons.2 ⟨k6, (List.forall_mem_cons.2 ⟨k7, (fun _ h => by cases h)⟩)⟩)⟩)⟩)⟩)⟩)⟩)⟩)⟩, w0, w1, w2, w3, w4, w5, w6, w7⟩, fun h => Zna Tryz.underlying38 h⟩
theorem Z9x : Opn Tryz.prog 85 Zbx Zgi := ⟨by kernel_rfl, fun hg h => by
 obtain ⟨hl, n, hf⟩ := Zly Tryz.underlying85 h
 obtain ⟨y0, h0⟩ := hf 0 _ rfl
 obtain ⟨v0, k0, w0⟩ := op_9.op hg h0
 obtain ⟨y1, h1⟩ := hf 1 _ rfl
 obtain ⟨v1, k1, w1⟩ := Z49.op hg h1
 refine ⟨⟨v0, v1⟩, ⟨hl.trans (by kernel_rfl), (List.forall_mem_cons.2 ⟨k0, (List.forall_mem_cons.2 ⟨k1, (fun _ h => by cases h)⟩)⟩)⟩, w0, w1⟩, fun h => Zna Tryz.underlying85 h⟩
theorem Zba2 : Opn Tryz.prog 22 Zbx.sl (fun x => (x.length ≤ maxLen ∧ ∀ e0 ∈ x, (Zgi e0))) := Zue Tryz.underlying22 (by kernel_rfl) Z9x (by decide)
theorem op_4 : Opn Tryz.prog 4 Kd.bool (fun x => True) := Z40 Tryz.underlying4 (by kernel_rfl)
theorem Zbam : Opn Tryz.prog 40 Zy Zkn := ⟨by kernel_rfl, fun hg h => by
 obtain ⟨hl, n, hf⟩ := Zly Tryz.underlying40 h
 obtain ⟨y0, h0⟩ := hf 0 _ rfl
 obtain ⟨v0, k0, w0⟩ := op_3.op hg h0
 obtain ⟨y1, h1⟩ := hf 1 _ rfl
 obtain ⟨v1, k1, w1⟩ := op_9.op hg h1
 obtain ⟨y2, h2⟩ := hf 2 _ rfl
 obtain ⟨v2, k2, w2⟩ := op_2.op hg h2
 obtain ⟨y3, h3⟩ := hf 3 _ rfl
 obtain ⟨v3, k3, w3⟩ := Z01.op hg h3
 obtain ⟨y4, h4⟩ := hf 4 _ rfl
 obtain ⟨v4, k4, w4⟩ := op_9.op hg h4
 obtain ⟨y5, h5⟩ := hf 5 _ rfl
 obtain ⟨v5, k5, w5⟩ := Z49.op hg h5
 obtain ⟨y6, h6⟩ := hf 6 _ rfl
 obtain ⟨v6, k6, w6⟩ := op_4.op hg h6
 refine ⟨⟨v0, v1, v2, v3, v4, v5, v6⟩, ⟨hl.trans (by kernel_rfl), (List.forall_mem_cons.2 ⟨k0, (List.forall_mem_cons.2 ⟨k1, (List.forall_mem_cons.2 ⟨k2, (List.forall_mem_cons.2 ⟨k3, (List.forall_mem_cons.2 ⟨k4, (List.forall_mem_cons.2 ⟨k5, (List.forall_mem_cons.2 ⟨k6, (fun _ h => by cases h)⟩)⟩)⟩)⟩)⟩)⟩)⟩)⟩, w0, w1, w2, w3, w4, w5, w6⟩, fun h => Zna Tryz.underlying40 h⟩
theorem Z9z : Opn Tryz.prog 23 Zy.sl (fun x => (x.length ≤ maxLen ∧ ∀ e0 ∈ x, (Zkn e0))) := Zue Tryz.underlying23 (by kernel_rfl) Zbam (by decide)
theorem Zbah : Opn Tryz.prog 25 Zb8 Zot := ⟨by kernel_rfl, fun hg h => by
 obtain ⟨hl, n, hf⟩ := Zly Tryz.underlying25 h
 obtain ⟨y0, h0⟩ := hf 0 _ rfl
 obtain ⟨v0, k0, w0⟩ := Z9z.op hg h0
 refine ⟨⟨v0⟩, ⟨hl.trans (by kernel_rfl), (List.forall_mem_cons.2 ⟨k0, (fun _ h => by cases h)⟩)⟩, w0⟩, fun h => Zna Tryz.underlying25 h⟩
theorem Z93 : Opn Tryz.prog 26 Kd.str.sl (fun x => (x.length ≤ maxLen ∧ ∀ e0 ∈ x, (e0.size ≤ maxLen))) := Zue Tryz.underlying26 (by kernel_rfl) op_9 (by decide)
theorem Z5h : Det Tryz.prog 9 := Z7j Tryz.underlying9
theorem Zbav : Det Tryz.prog 3 := Z53 Tryz.underlying3
theorem Z7d : Det Tryz.prog 145 := Z1b Tryz.underlying145 (fun i f h => match i, f, h with
 | 0, _, h => by obtain rfl := Option.some.inj h; exact Z5h
 | 1, _, h => by obtain rfl := Option.some.inj h; exact Zbav
 | 2, _, h => by obtain rfl := Option.some.inj h; exact Z5h
 | _ + 3, _, h => by cases h) (by kernel_rfl)
theorem Z61 : Det Tryz.prog 164 := Z7p Tryz.underlying164 Z7d (by kernel_rfl)
theorem HandReads_met (os : Os) (args : Array Value) : laidMetH Tryz.prog [("moiety/act.kinds", Go.Proofs.YtlanlccmokaajaaGreatDoor.Rows.laid_moiety_act_kinds)] ((World.doorLaid Tryz.prog 400 os).forCall (fun _ _ => 0) ⟨#[], args, []⟩).memory :=
 laidMetH_of_parts3 (fuel := 8) (laidMet_of_run' 8 (by kernel_rfl) (by kernel_rfl)) (by kernel_rfl) (by kernel_rfl)
theorem HandReads_gl {W : World} (h : laidMetH Tryz.prog [("moiety/act.kinds", Go.Proofs.YtlanlccmokaajaaGreatDoor.Rows.laid_moiety_act_kinds)] W) : GLok W (fun b _ => b < W.heap.size) := by
 have g0 := Z4b (P := Tryz.prog) (nm := "moiety/act.kinds") (d := Go.Proofs.YtlanlccmokaajaaGreatDoor.Rows.laid_moiety_act_kinds) (g := 0) (t := 164) (W := W) (w0 := W) (cells := [.string ⟨#[]⟩, .int .i64 (0), .string ⟨#[]⟩, .string ⟨#[110, 101, 119]⟩, .int .i64 (0), .string ⟨#[109]⟩, .string ⟨#[100, 114, 111, 112]⟩, .int .i64 (0), .string ⟨#[]⟩, .string ⟨#[105, 115]⟩, .int .i64 (0), .string ⟨#[]⟩, .string ⟨#[108, 111, 111, 107]⟩, .int .i64 (0), .string ⟨#[]⟩, .string ⟨#[112, 117, 116]⟩, .int .i64 (1), .string ⟨#[115]⟩, .string ⟨#[115, 119, 97, 112]⟩, .int .i64 (1), .string ⟨#[115]⟩, .string ⟨#[97, 100, 100]⟩, .int .i64 (2), .string ⟨#[110]⟩, .string ⟨#[112, 108, 117, 115]⟩, .int .i64 (3), .string ⟨#[110]⟩, .string ⟨#[114, 101, 97, 99, 104]⟩, .int .i64 (3), .string ⟨#[110]⟩, .string ⟨#[105, 110]⟩, .int .i64 (4), .string ⟨#[110]⟩, .string ⟨#[111, 117, 116]⟩, .int .i64 (4), .string ⟨#[110]⟩, .string ⟨#[101, 110, 111, 117, 103, 104]⟩, .int .i64 (4), .string ⟨#[110]⟩, .string ⟨#[114, 97, 105, 115, 101]⟩, .int .i64 (5), .string ⟨#[120]⟩, .string ⟨#[108, 111, 119, 101, 114]⟩, .int .i64 (6), .string ⟨#[120]⟩, .string ⟨#[115, 104, 105, 102, 116]⟩, .int .i64 (7), .string ⟨#[120]⟩, .string ⟨#[115, 99, 97, 108, 101]⟩, .int .i64 (7), .string ⟨#[120]⟩, .string ⟨#[102, 105, 120]⟩, .int .i64 (7), .string ⟨#[120]⟩, .string ⟨#[106, 111, 105, 110]⟩, .int .i64 (8), .string ⟨#[115]⟩, .string ⟨#[108, 101, 97, 118, 101]⟩, .int .i64 (8), .string ⟨#[115]⟩, .string ⟨#[104, 97, 115]⟩, .int .i64 (8), .string ⟨#[115]⟩, .string ⟨#[111, 102, 102, 101, 114]⟩, .int .i64 (9), .string ⟨#[120, 115]⟩]) (fu := 8) (by kernel_rfl) (by kernel_rfl) Z61 (by kernel_rfl) (by kernel_rfl) h
 intro e he i v hv
 rcases List.mem_cons.1 he with rfl | he
 · exact ⟨(Zq5 (g0 i v hv)).2, g0 i v hv⟩
 cases he
theorem HandReads_ret (os : Os) (started : os.Started) (H : Type) (enc : TypeId × Value → H) :
   ReturnsInHanded {} Tryz.checked os 3 .any (fun w args => (Go.Proofs.YtlanlccmokaajaaGreatDoor.Rows.handReadsSpec.pre enc Tryz.prog Tryz.f3 [] false w args ∧ laidMetH Tryz.prog [("moiety/act.kinds", Go.Proofs.YtlanlccmokaajaaGreatDoor.Rows.laid_moiety_act_kinds)] w) ∧ sizedMet enc Tryz.prog Tryz.f3 (OpenSpec.ofChange Go.Proofs.YtlanlccmokaajaaGreatDoor.Rows.handReadsSpec) false w args) (Go.Proofs.YtlanlccmokaajaaGreatDoor.Rows.handReadsSpec.post enc Tryz.prog Tryz.f3 false true false false) := by
 refine returnsInHanded_of_change_and (C := Tryz.checked) (X := fun w _ => laidMetH Tryz.prog [("moiety/act.kinds", Go.Proofs.YtlanlccmokaajaaGreatDoor.Rows.laid_moiety_act_kinds)] w) (fun _ _ _ hh h => h.of_heap hh) Z3v started (by kernel_rfl) Tryz.func3
   (ChangeSpec.witness_shaped (enc := enc) (C := Tryz.checked) (os := os) (X := fun w _ => laidMetH Tryz.prog [("moiety/act.kinds", Go.Proofs.YtlanlccmokaajaaGreatDoor.Rows.laid_moiety_act_kinds)] w) false (World.doorLaid Tryz.prog 400 os) #[.slice none 0 0, .agg #[.slice none 0 0], .slice none 0 0] 8 rfl (World.shaped_of_RefB (by kernel_rfl) (by kernel_rfl)) (by kernel_rfl) (by kernel_rfl) (by kernel_rfl) (HandReads_met os _)) ?_
 intro W base args ds gs before hval0 hW hcnd _ hL _
 have hval : ∀ (j : Nat) t v, Tryz.f3.params[j]? = some t → args[j]? = some v → Value.okWide Tryz.prog W .any base t v := hval0
 have hW' := hW
 obtain ⟨p, q, hA0, hV, rfl, hfz, hnd⟩ := hW
 have hA : DataW.TrodAll enc Tryz.prog W 0 (fun _ => true) true Tryz.f3.params.toList args.toList ds p := hA0
 rw [Tryz.params3] at hA hval
 obtain ⟨v0, v1, v2, d0, d1, d2, p0, p1, p2, rfl, rfl, rfl, h0, h1, h2⟩ := trodAll_three hA
 obtain ⟨rfl, rfl⟩ := trodVars_none hV
 simp only [List.append_nil] at hW'
 have hg : GLok W (fun b _ => b < W.heap.size) := (HandReads_gl hL)
 have hk0 := h0
 obtain ⟨a0, q0, w0⟩ := Zxt Zba2 hg h0 (hval 0 22 v0 rfl rfl)
 have hk1 := h1
 obtain ⟨a1, q1, w1⟩ := Zxt Zbah hg h1 (hval 1 25 v1 rfl rfl)
 have hk2 := h2
 obtain ⟨a2, q2, w2⟩ := Zxt Z93 hg h2 (hval 2 26 v2 rfl rfl)
 refine (Zoe a0 a1 a2 (HandReads_true a0 a1 a2 w0 w1 w2) (GW W hg) [v0, v1, v2] (Zmq q0 (Zmq q1 (Zmq q2 Zeb)))).mono fun e W' ⟨g', v, he, hw, hs, hq⟩ => ?_
 subst he; subst hw
 rw [Zih.1 hq]
 have hbel := Z4l hs
 have hlt : ∀ x ∈ (p0 ++ p1 ++ p2), x.block < W.heap.size := fun x hx => by simpa using hW'.lt x hx
 exact ⟨_, rfl, Zwh (pv := []) hW' hbel (trodAll_mk1 (shut_bool Tryz.underlying4 true)) (trodAll_mk3 (Below.trod Zrb (by kernel_rfl) (of_decide_eq_true (by kernel_rfl)) hk0 hbel (fun x hx => hlt x (by simp [hx]))) (Below.trod Zrb (by kernel_rfl) (of_decide_eq_true (by kernel_rfl)) hk1 hbel (fun x hx => hlt x (by simp [hx]))) (Below.trod Zrb (by kernel_rfl) (of_decide_eq_true (by kernel_rfl)) hk2 hbel (fun x hx => hlt x (by simp [hx])))) rfl⟩
theorem HandReads_holds : Go.Proofs.YtlanlccmokaajaaGreatDoor.Rows.HandReadsSaid :=
 OpenClaim.holds_of_wide 3 Tryz.f3 rfl rfl rfl rfl rfl rfl rfl ⟨rfl, rfl, rfl, rfl, rfl⟩ rfl rfl rfl rfl rfl (by kernel_rfl) Tryz.func3 (by kernel_rfl)
   (of_decide_eq_true (by kernel_rfl)) (by unfold Func.isWrapper; first | (rw [if_pos (by decide +kernel)]; kernel_rfl) | (rw [if_neg (by decide +kernel)]; exact ⟨rfl, rfl⟩))
   (fun os started H enc _ => HandReads_ret os started H enc)
theorem HandReads_card : Go.Proofs.YtlanlccmokaajaaGreatDoor.Rows.HandReadsCardSaid :=
 Claim7.holds_tied_plain_at .later [] [.data] true (true, "742167b159ec3a4f522c33c9de0194a4b520730ba2e9e03a283e4a3108c93551") false
   HandReads_holds (fun _ h => by cases h) (by kernel_rfl) (fun _ h => by cases h) Go.Proofs.YtlanlccmokaajaaGreatDoor.handReads_row_tie rfl ⟨rfl, rfl⟩ (by kernel_rfl) rfl
   (fun f fn hf hfn => by
     obtain rfl : f = 3 := Option.some.inj ((show Tryz.prog.funcNamed "moiety/moietylaw15.HandReads" = some 3 by kernel_rfl).symm.trans hf) |>.symm
     obtain rfl : fn = Tryz.f3 := (Option.some.inj (Tryz.func3.symm.trans hfn)).symm
     exact ⟨by kernel_rfl, fun j t ht => by
       rw [Tryz.params3] at ht
       have hm : t ∈ [22, 25, 26] := by simpa using Array.mem_of_getElem? ht
       have hall : (([22, 25, 26] : List TypeId).all fun u => !Tryz.prog.wantsStandIn u) = true := by kernel_rfl
       exact (show Tryz.prog.wantsStandIn t = false by simpa using List.all_eq_true.1 hall t hm)⟩)
   (by kernel_rfl)
end Go.CL
