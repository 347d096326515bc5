/- A part of the proof of LineApart. -/
import Derived.Test.YtbepodihebbahaaLineApartC1
import Derived.MapKept
import Derived.Test.YtbepodihebbahaaProg
set_option linter.unusedVariables false
set_option linter.unusedSimpArgs false
set_option maxRecDepth 100000
namespace Go.CL
open Go Go.RowKit
section
variable {P : Program} {N : Nat} {o : Oper} {uses outs : Zn} {d : Nat} {q : Pd} {x y z : Operand} {α β γ : Type} {kV : Kd γ} {raw : α → SlV → γ} {lst : α → List β} {dk : Kd β} {e : TypeId}
def ArrB (dk : Kd β) (e : TypeId) (xs : List β) (g : G) (v : Value) (B : Nat → Prop) : Prop :=
 (xs = [] ∧ ∃ A, v = .slice A 0 0) ∨ ∃ b cap cur, v = .slice (some ⟨b, 0, none⟩) xs.length cap ∧ B b ∧ g.w.heap[b]? = some (.cells cur e (0, 0)) ∧ xs.length ≤ cap ∧ cap ≤ maxLen ∧ cur.size = cap * dk.sz ∧ ∀ (i : Nat) (x : β), xs[i]? = some x → dk.K g x (seg cur.toList (i * dk.sz) dk.sz)
def obS (kV : Kd γ) (raw : α → SlV → γ) (lst : α → List β) (dk : Kd β) (e : TypeId) : Ob α where
 R := fun g b B x => ∃ s cs t, g.w.heap[b]? = some (.cells (List.toArray cs) t (0, 0)) ∧ kV.K g (raw x s) cs ∧ ArrB dk e (lst x) g (slv s) B
 st := by
   rintro g g' b B x ⟨s, cs, t, h1, h2, h3⟩ hle hh
   refine ⟨s, cs, t, (hh b (.inl rfl)).trans h1, kV.mono hle h2, ?_⟩
   rcases h3 with h3 | ⟨c, cap, cur, k1, k2, k3, k4, k5, k6, k7⟩
   · exact .inl h3
   · exact .inr ⟨c, cap, cur, k1, k2, (hh c (.inr k2)).trans k3, k4, k5, k6, fun i x hx => dk.mono hle (k7 i x hx)⟩
abbrev Zdz (kV : Kd γ) (raw : α → SlV → γ) (lst : α → List β) (dk : Kd β) (e : TypeId) (b : Nat) (x : α) : Pd := Zd1 (some b) kV raw (hpL (pArr dk e AUX (lst x))) 0 x
def Zmg (kV : Kd γ) (raw : α → SlV → γ) (lst : α → List β) (dk : Kd β) (e : TypeId) (b : Nat) (x : α) (g0 : G) (q : Pd) (v : Value) (g1 : G) : Prop := Base g0 g1 ∧ q.p g1 v ∧ (Zdz kV raw lst dk e b x).p g1 (.pointer (some ⟨b, 0, none⟩))
open Classical in
theorem Zmp {x0 x1 : α} {f : FuncId} {fn : Func} {c : Code} {A : List Pd} (hf : P.funcs[f]? = some fn) (hb : fn.body = some c) (hn : fn.ntmps = N) (hAN : A.length + 1 ≤ N) (hA : Free A) (hq : q.fp = [])
   (h : ∀ (a : Act) (g : G) (b : Nat), St N ((0, Zdz kV raw lst dk e b x0) :: Zd2 A 1) a g → Base g g → c.wp P (bodyPost P fn (FinP (Zmg kV raw lst dk e b x1 g q))) a g.w) : FnM P f (obS kV raw lst dk e) x0 x1 A q := by
 intro g b B args hR hbl hbp hB hargs
 obtain ⟨s, cs, t, hh, hk, hl⟩ := hR
 obtain ⟨own, o1, o2, o3, harr⟩ : ∃ own : Nat → Nat, own b = 1 ∧ (∀ c, own c = 1 → c = b) ∧ (∀ c, own c ≠ 0 → c = b ∨ B c) ∧ ∀ g0 : G, g0.w = g.w → g0.pr = g.pr → g0.own = own → g.le g0 → (pArr dk e AUX (lst x0)).p g0 (slv s) := by
   rcases hl with ⟨h1, h2⟩ | ⟨c, cap, cur, k1, k2, k3, k4, k5, k6, k7⟩
   · refine ⟨fun c => if c = b then 1 else 0, if_pos rfl, fun c hc => ?_, fun c hc => ?_, fun g0 _ _ _ _ => .inl ⟨h1, h2⟩⟩
     · dsimp only at hc
       split at hc
       · assumption
       · omega
     · dsimp only at hc
       split at hc
       · left; assumption
       · exact absurd rfl hc
   · obtain ⟨l1, l2, l3⟩ := hB c k2
     refine ⟨fun c' => if c' = b then 1 else if c' = c then AUX + 1 else 0, if_pos rfl, fun c' hc => ?_, fun c' hc => ?_, fun g0 e1 e2 e3 hle => .inr ⟨c, cap, cur, k1, by rw [e1]; exact l1, by rw [e3]; show (if c = b then 1 else if c = c then AUX + 1 else 0) = AUX + 1; rw [if_neg l2, if_pos rfl], fun c' _ hc => ?_, by rw [e1]; exact k3, by simpa using k4, k5, k6, fun i x hx => ?_, fun o => by rw [e2]; exact l3 o⟩⟩
     · dsimp only at hc
       split at hc
       · assumption
       · split at hc <;> simp [AUX] at hc
     · dsimp only at hc
       split at hc
       · left; assumption
       · split at hc
         · rename_i h; right; rw [h]; exact k2
         · exact absurd rfl hc
     · rw [e3] at hc
       have hc : (if c' = b then 1 else if c' = c then AUX + 1 else 0) = AUX + 1 := hc
       split at hc
       · simp [AUX] at hc
       · split at hc
         · assumption
         · simp [AUX] at hc
     · rw [List.getElem?_map] at hx
       obtain ⟨u, hu, hux⟩ := Option.map_eq_some_iff.1 hx
       obtain rfl := Option.some.inj hux
       exact dk.mono hle (k7 i u hu)
 let g0 : G := ⟨g.w, g.pr, own, g.hpr, g.gl⟩
 have hle : g.le g0 := ⟨Nat.le_refl _, fun _ _ h => h, fun _ _ _ => rfl, fun _ _ => rfl⟩
 have hst : St N ((0, Zdz kV raw lst dk e b x0) :: Zd2 A 1) { tmps := (Value.pointer (some ⟨b, 0, none⟩) :: args).toArray ++ Array.replicate (fn.ntmps - (Value.pointer (some ⟨b, 0, none⟩) :: args).toArray.size) undef, defers := [] } g0 := by
   refine ⟨?_, rfl, ?_⟩
   · have := hargs.1
     simp [hn]; omega
   · intro en he
     rcases List.mem_cons.1 he with rfl | he
     · have hv : Act.at { tmps := (Value.pointer (some ⟨b, 0, none⟩) :: args).toArray ++ Array.replicate (fn.ntmps - (Value.pointer (some ⟨b, 0, none⟩) :: args).toArray.size) undef, defers := [] } 0 = .pointer (some ⟨b, 0, none⟩) := by
         simp only [Act.at, Array.getD_eq_getD_getElem?]
         rw [Array.getElem?_append, if_pos (by simp)]
         simp
       show (Zdz kV raw lst dk e b x0).p g0 (Act.at _ 0)
       rw [hv]
       exact ⟨s, ⟨b, cs, t, rfl, ⟨hbl, o1, fun c _ hc => o2 c hc, hh, kV.mono hle hk, hbp⟩, fun b' h => Option.some.inj h⟩, harr g0 rfl rfl rfl hle⟩
     · obtain ⟨i, h1, h2⟩ := Zel he
       have hi : i < args.length := by rw [hargs.1]; exact (List.getElem?_eq_some_iff.1 h2).1
       have hv : Act.at { tmps := (Value.pointer (some ⟨b, 0, none⟩) :: args).toArray ++ Array.replicate (fn.ntmps - (Value.pointer (some ⟨b, 0, none⟩) :: args).toArray.size) undef, defers := [] } en.1 = args[i] := by
         rw [h1, Nat.add_comm]
         simp only [Act.at, Array.getD_eq_getD_getElem?]
         rw [Array.getElem?_append, if_pos (by simpa using hi)]
         simp [hi]
       rw [hv]
       exact Pd.le (hA.at h2) hle rfl rfl rfl (hargs.2 i en.2 _ h2 (List.getElem?_eq_getElem hi))
 have hbase : Base g0 g0 := ⟨.refl _, rfl, rfl, rfl, fun _ _ h => ⟨rfl, rfl, h⟩⟩
 refine Calls.mono (calls_of_wp hf hb (h _ g0 b hst hbase)) ?_
 rintro en w' ⟨g1, v, rfl, rfl, hBs, hqv, ⟨s1, ⟨b1, cs1, t1, e1, ⟨m1, m2, m3, m4, m5, m6⟩, hb1⟩, ha1⟩⟩
 obtain rfl := hb1 _ rfl
 have hS : Zf4 (fun c => c = b1 ∨ B c) g g1 := ⟨⟨hBs.le.size, hBs.le.pr, hBs.le.cell, hBs.le.blk⟩, hBs.os, hBs.tape, hBs.output, fun c hc hn => by
   have h0 : g0.own c = 0 := Classical.byContradiction fun h => hn (o3 c h)
   exact ⟨(hBs.same c hc h0).1, (hBs.same c hc h0).2.1⟩⟩
 rcases ha1 with ⟨hn, hA1⟩ | ⟨c, cap, cur, hv, hO⟩
 · exact ⟨g1, v, fun _ => False, rfl, rfl, hS, ⟨s1, cs1, t1, m4, m5, .inl ⟨hn, hA1⟩⟩, m6, fun c hc => hc.elim, hqv⟩
 · refine ⟨g1, v, fun c' => c' = c, rfl, rfl, hS, ⟨s1, cs1, t1, m4, m5, .inr ⟨c, cap, cur, hv, rfl, hO.heap, by simpa using hO.len, hO.max, hO.sz, fun i x hx => hO.known i x (by rw [List.getElem?_map, hx]; rfl)⟩⟩, m6, fun c' hc => ?_, hqv⟩
   subst hc
   refine ⟨Classical.byContradiction fun hno => ?_, hO.lt, hO.npr⟩
   have hlt : c' < g0.w.heap.size := Nat.lt_of_not_le fun h => hno (.inr h)
   by_cases h0 : g0.own c' = 0
   · have := (hBs.same c' hlt h0).2.2
     rw [hO.own] at this; simp [AUX] at this
   · rcases o3 c' h0 with h | h
     · have := hO.own
       rw [h, m2] at this; simp [AUX] at this
     · exact hno (.inl h)
theorem Zma {fn : Func} {r : ResultVar} {v : Value} {a : Act} {g g0 : G} {L : Zn} {b : Nat} {x1 : α} (hr : fn.results = #[r]) (h : St N L a g) (hb : Base g0 g) (h1 : Ze7 P a g r v) (hq : q.p g v) (hs : (Zdz kV raw lst dk e b x1).p g (Act.at a 0)) : bodyPost P fn (FinP (Zmg kV raw lst dk e b x1 g0 q)) .ret a g.w := by
 refine endP hr h h1 ⟨hb, hq, ?_⟩
 obtain ⟨s, ⟨b', cs, t, e1, hm, hc⟩, hR⟩ := hs
 obtain rfl := hc _ rfl
 exact ⟨s, ⟨b', cs, t, rfl, hm, hc⟩, hR⟩
def Zmi (kV : Kd γ) (raw : α → SlV → γ) (lst : α → List β) (dk : Kd β) (e : TypeId) (x : α) (g0 : G) (v : Value) (g1 : G) : Prop := Base g0 g1 ∧ ∃ j jl, j ≠ jl ∧ (pBxS kV raw (hpL (pArr dk e jl (lst x))) j x).p g1 v
theorem Zld {x0 : α} {f : FuncId} {fn : Func} {c : Code} {A : List Pd} (hf : P.funcs[f]? = some fn) (hb : fn.body = some c) (hn : fn.ntmps = N) (hAN : A.length ≤ N) (hA : Free A)
   (h : ∀ (a : Act) (g : G), (∀ b, g.own b = 0) → St N (Zd2 A 0) a g → Base g g → c.wp P (bodyPost P fn (FinP (Zmi kV raw lst dk e x0 g))) a g.w) : Zki P f A (obS kV raw lst dk e) x0 := by
 intro g args hargs
 let g0 : G := ⟨g.w, g.pr, fun _ => 0, g.hpr, g.gl⟩
 have hle : g.le g0 := ⟨Nat.le_refl _, fun _ _ h => h, fun _ _ _ => rfl, fun _ _ => rfl⟩
 have hst : St N (Zd2 A 0) { tmps := args.toArray ++ Array.replicate (fn.ntmps - args.toArray.size) undef, defers := [] } g0 := by
   refine ⟨?_, rfl, ?_⟩
   · have := hargs.1
     simp [hn]; omega
   · intro en he
     obtain ⟨i, h1, h2⟩ := Zel he
     have hi : i < args.length := by rw [hargs.1]; exact (List.getElem?_eq_some_iff.1 h2).1
     have hv : Act.at { tmps := args.toArray ++ Array.replicate (fn.ntmps - args.toArray.size) undef, defers := [] } en.1 = args[i] := by
       rw [h1, Nat.zero_add]
       simp only [Act.at, Array.getD_eq_getD_getElem?]
       rw [Array.getElem?_append, if_pos (by simpa using hi)]
       simp [hi]
     rw [hv]
     exact Pd.le (hA.at h2) hle rfl rfl rfl (hargs.2 i en.2 _ h2 (List.getElem?_eq_getElem hi))
 have hbase : Base g0 g0 := ⟨.refl _, rfl, rfl, rfl, fun _ _ _ => ⟨rfl, rfl, rfl⟩⟩
 refine Calls.mono (calls_of_wp hf hb (h _ g0 (fun _ => rfl) hst hbase)) ?_
 rintro en w' ⟨g1, v, rfl, rfl, hBs, j, jl, hj, s1, ⟨b, cs1, t1, rfl, ⟨m1, m2, m3, m4, m5, m6⟩, _⟩, ha1⟩
 have hnew : ∀ c, g1.own c ≠ 0 → c < g1.w.heap.size → g.w.heap.size ≤ c := fun c h1 h2 => Nat.le_of_not_lt fun hlt => h1 ((hBs.same c hlt rfl).2.2)
 have hS : Zf4 (fun _ => False) g g1 := ⟨⟨hBs.le.size, hBs.le.pr, hBs.le.cell, hBs.le.blk⟩, hBs.os, hBs.tape, hBs.output, fun c hc _ => ⟨(hBs.same c hc rfl).1, (hBs.same c hc rfl).2.1⟩⟩
 have hb0 := hnew b (by rw [m2]; omega) m1
 rcases ha1 with ⟨hn, hA1⟩ | ⟨c, cap, cur, hv, hO⟩
 · exact ⟨g1, b, fun _ => False, rfl, rfl, hS, hb0, m1, m6, ⟨s1, cs1, t1, m4, m5, .inl ⟨hn, hA1⟩⟩, fun c hc => hc.elim⟩
 · refine ⟨g1, b, fun c' => c' = c, rfl, rfl, hS, hb0, m1, m6, ⟨s1, cs1, t1, m4, m5, .inr ⟨c, cap, cur, hv, rfl, hO.heap, by simpa using hO.len, hO.max, hO.sz, fun i x hx => hO.known i x (by rw [List.getElem?_map, hx]; rfl)⟩⟩, fun c' hc => ?_⟩
   subst hc
   exact ⟨hnew c' (by rw [hO.own]; omega) hO.lt, hO.lt, fun h => by have := hO.own; rw [h, m2] at this; omega, hO.npr⟩
theorem Zji {f : FuncId} {xs : List Operand} {A : List Pd} {ty : Array TypeId} {j : Nat} {l : List β} (he : Zk P f) (hok : FnOk P f (dk.sl.pd l :: A) q) (hop : o.op = .call { callee := .value (.func f), args := (x :: xs).toArray, argTypes := ty }) (hd : o.dst = some d)
   (hq : ∀ g g' v, q.p g v → q.p g' v) (hx : Opd uses x (pArr dk e j l)) (hA : Free A) (hargs : OpdL uses xs A) : OB P N o uses [(d, q)] [] := by
 intro a g K Q hN hdN hu hK
 have hr : (execOp a.eval o).run P g.w = .ok (.enter f (a.eval x :: xs.map a.eval).toArray) g.w := by
   simp [execOp, hop, resolve, Zgz, Deferred.ofValue, invoke, Zdr he]
 unfold Oper.wp
 rw [hr]
 show Calls P f _ g.w _
 rcases hx a g hu with ⟨rfl, A0, hv⟩ | ⟨b, cap, cur, hv, hO⟩
 · refine Calls.mono (hok g _ (Zc1 (by rw [hv]; exact Kd.sl_V.2 ⟨A0, 0, rfl, Nat.le_refl _, by simp, .inl rfl⟩) (hargs.ok hu))) ?_
   rintro en w' ⟨g', v, rfl, rfl, hs, hq'⟩
   refine hK v g' hs fun e he => ?_
   rw [List.mem_singleton.1 he, hd, Zbv v (by rw [hN]; exact hdN d hd)]
   exact hq'
 · let gL : G := ⟨g.w, fun b' o => g.pr b' o ∨ b' = b, g.own, fun b' o h => h.elim (g.hpr b' o) (fun h => by rw [h]; exact hO.lt), g.gl.le (fun _ _ h => .inl h) (fun _ _ _ => rfl)⟩
   have hle : g.le gL := ⟨Nat.le_refl _, fun _ _ h => .inl h, fun _ _ _ => rfl, fun _ _ => rfl⟩
   have hlst : (dk.sl.pd l).p gL (a.eval x) := by
     have hl := hO.len
     rw [List.length_map] at hl
     have hm := hO.max
     rw [hv]
     refine Kd.sl_V.2 ⟨_, cap, rfl, hl, by simp only [maxLen] at hm; omega, .inr ⟨b, 0, rfl, fun i x hx => ?_⟩⟩
     refine ⟨_, dk.mono hle (hO.known i x (by rw [List.getElem?_map, hx]; rfl)), fun k u hk => ⟨.inr rfl, ?_⟩⟩
     simp only [seg, List.getElem?_take, List.getElem?_drop] at hk
     split at hk
     · show g.w.cell? _ = _
       simp only [World.cell?, hO.heap]
       simpa using hk
     · cases hk
   refine Calls.mono (hok gL _ (Zc1 hlst ((hargs.ok hu).le hA hle rfl rfl rfl))) ?_
   rintro en w' ⟨g', v, rfl, rfl, hs, hq'⟩
   have hbl : b < g'.w.heap.size := Nat.lt_of_lt_of_le hO.lt hs.le.size
   let g2 : G := ⟨g'.w, fun b' o => g'.pr b' o ∧ b' ≠ b, g'.own, fun b' o h => g'.hpr b' o h.1, fun en hen i v hv => by
     obtain ⟨k1, k2⟩ := g'.gl en hen i v hv
     exact ⟨⟨k1, fun h => hO.npr i (h ▸ (g.gl en hen i v hv).1)⟩, k2⟩⟩
   have hb' := hs.same b hO.lt (fun h => by cases h)
   refine hK v g2 ⟨⟨hs.le.size, fun b' o h => ⟨hs.le.pr b' o (.inl h), fun h' => hO.npr o (h' ▸ h)⟩, fun b' o h => hs.le.cell b' o (.inl h), fun b' h => hs.le.blk b' (fun o => .inl (h o))⟩, hs.os, hs.tape, hs.output, fun b' hb'' hn => ?_, hs.new, hs.old⟩ fun e he => ?_
   · obtain ⟨k1, k2, k3⟩ := hs.same b' hb'' hn
     refine ⟨k1, ?_, k3⟩
     funext o
     show (g'.pr b' o ∧ b' ≠ b) = g.pr b' o
     rw [k2]
     by_cases h : b' = b
     · subst h
       have := hO.npr o
       simp [this]
     · simp [gL, h]
   · rw [List.mem_singleton.1 he, hd, Zbv v (by rw [hN]; exact hdN d hd)]
     exact hq _ _ _ hq'
theorem Ziu {k : IntKind} {n : Int} : ∀ (g g' : G) (v : Value), (pInt k n).p g v → (pInt k n).p g' v := fun _ _ _ h => Zck.2 (Zck.1 h)
theorem Zks {n : Bool} : ∀ (g g' : G) (v : Value), (Zo n).p g v → (Zo n).p g' v := fun _ _ _ h => Zco.2 (Zco.1 h)
end
section
variable {P : Program} {N : Nat} {o : Oper} {uses outs : Zn} {S : List Nat} {d : Nat} {q : Pd} {x y z : Operand} {β : Type} {dk : Kd β} {mt kt et : TypeId}
def MRel (dk : Kd β) (g : G) : List (Int × β) → List MapEntry → Prop
 | [], [] => True
 | e :: m, x :: es => (x.key = .int .i64 e.1 ∧ dk.V g e.2 x.val) ∧ MRel dk g m es
 | _, _ => False
theorem Zfr {g g' : G} (hle : g.le g') {v : β} {u : Value} (h : dk.V g v u) : dk.V g' v u := h.imp fun _ h => ⟨dk.mono hle h.1, h.2⟩
theorem MRel.mono {g g' : G} (hle : g.le g') : ∀ {m : List (Int × β)} {es : List MapEntry}, MRel dk g m es → MRel dk g' m es
 | [], [], _ => trivial
 | _ :: _, _ :: _, h => ⟨⟨h.1.1, Zfr hle h.1.2⟩, MRel.mono hle h.2⟩
theorem MRel.app {g : G} {e : Int × β} {x : MapEntry} (hx : x.key = .int .i64 e.1) (hv : dk.V g e.2 x.val) : ∀ {m : List (Int × β)} {es : List MapEntry}, MRel dk g m es → MRel dk g (m ++ [e]) (es ++ [x])
 | [], [], _ => ⟨⟨hx, hv⟩, trivial⟩
 | _ :: _, _ :: _, h => ⟨h.1, MRel.app hx hv h.2⟩
def mget (z : β) : List (Int × β) → Int → β
 | [], _ => z
 | e :: m, n => if e.1 = n then e.2 else mget z m n
theorem Zdi (a b : Int) : Instr.sameNow (.int .i64) (.int .i64 a) (.int .i64 b) = some (a == b) := by simp [Instr.sameNow]
theorem Zi9 {g : G} {zv : β} {n : Int} : ∀ {m : List (Int × β)} {es : List MapEntry} (i : Nat), MRel dk g m es →
   (Instr.findNow (.int .i64) (.int .i64 n) es i = some none ∧ mget zv m n = zv ∧ ∀ e ∈ m, e.1 ≠ n) ∨ ∃ k v, Instr.findNow (.int .i64) (.int .i64 n) es i = some (some (k, v)) ∧ dk.V g (mget zv m n) v
 | [], [], i, _ => .inl ⟨rfl, rfl, by simp⟩
 | e :: m, x :: es, i, h => by
   by_cases he : e.1 = n
   · exact .inr ⟨i, x.val, by simp [Instr.findNow, h.1.1, Zdi, he], by simp only [mget, if_pos he]; exact h.1.2⟩
   · have hf : Instr.findNow (.int .i64) (.int .i64 n) (x :: es) i = Instr.findNow (.int .i64) (.int .i64 n) es (i + 1) := by
       have : (n == e.1) = false := by simpa using fun h => he h.symm
       simp [Instr.findNow, h.1.1, Zdi, this]
     rw [hf]
     simp only [mget, if_neg he]
     rcases Zi9 (zv := zv) (i + 1) h.2 with ⟨h1, h2, h3⟩ | h
     · exact .inl ⟨h1, h2, fun e' he' => (List.mem_cons.1 he').elim (fun h => by rw [h]; exact he) (h3 e')⟩
     · exact .inr h
theorem Zha {g : G} {n : Int} {x : MapEntry} (hx : x.key = .int .i64 n) : ∀ {m : List (Int × β)} {es : List MapEntry} (i : Nat), MRel dk g m es → (∀ e ∈ m, e.1 ≠ n) → Instr.findNow (.int .i64) (.int .i64 n) (es ++ [x]) i = some (some (i + es.length, x.val))
 | [], [], i, _, _ => by simp [Instr.findNow, hx, Zdi]
 | e :: m, y :: es, i, h, hn => by
   have he : (n == e.1) = false := by simpa using fun h => hn e (List.mem_cons_self ..) h.symm
   have := Zha hx (i + 1) h.2 (fun e' he' => hn e' (List.mem_cons_of_mem _ he'))
   show Instr.findNow (.int .i64) (.int .i64 n) (y :: (es ++ [x])) i = _
   simp only [Instr.findNow, h.1.1, Zdi, he, this, List.length_cons]
   congr 3; omega
theorem Zf6 {g : G} {n : Int} {x : MapEntry} {l : Int} (hx : x.key = .int .i64 l) (hl : l ≠ n) : ∀ {m : List (Int × β)} {es : List MapEntry} (i : Nat), MRel dk g m es → (∀ e ∈ m, e.1 ≠ n) → Instr.findNow (.int .i64) (.int .i64 n) (es ++ [x]) i = some none
 | [], [], i, _, _ => by
   have : (n == l) = false := by simpa using fun h => hl h.symm
   simp [Instr.findNow, hx, Zdi, this]
 | e :: m, y :: es, i, h, hn => by
   have he : (n == e.1) = false := by simpa using fun h => hn e (List.mem_cons_self ..) h.symm
   have := Zf6 hx hl (i + 1) h.2 (fun e' he' => hn e' (List.mem_cons_of_mem _ he'))
   show Instr.findNow (.int .i64) (.int .i64 n) (y :: (es ++ [x])) i = _
   simp only [Instr.findNow, h.1.1, Zdi, he, this]
theorem Zih {g : G} {n : Int} {m : List (Int × β)} {es : List MapEntry} (i : Nat) (h : MRel dk g m es) (hn : ∀ e ∈ m, e.1 ≠ n) : Instr.findNow (.int .i64) (.int .i64 n) es i = some none := by
 induction m generalizing es i with
 | nil => cases es with
   | nil => rfl
   | cons => exact h.elim
 | cons e m ih => cases es with
   | nil => exact h.elim
   | cons y es =>
     have he : (n == e.1) = false := by simpa using fun h => hn e (List.mem_cons_self ..) h.symm
     simp only [Instr.findNow, h.1.1, Zdi, he]
     exact ih (i + 1) h.2 (fun e' he' => hn e' (List.mem_cons_of_mem _ he'))
def Kd.mapF (dk : Kd β) : Kd (List (Int × β)) where
 sz := 1
 ag := false
 K := fun g m cs => ∃ b es clock, cs = [.map (some b)] ∧ b < g.w.heap.size ∧ g.w.heap[b]? = some (.map es clock) ∧ (∀ o, g.pr b o) ∧ MRel dk g m es.toList
 len := fun ⟨_, _, _, h, _⟩ => by rw [h]; rfl
 one := fun ⟨_, _, _, h, _⟩ u hu => by rw [h] at hu; rw [List.mem_singleton.1 hu]; rfl
 mono := fun hle ⟨b, es, clock, h, h1, h2, h3, h4⟩ => ⟨b, es, clock, h, Nat.lt_of_lt_of_le h1 hle.size, (hle.blk b h3).trans h2, fun o => hle.pr _ _ (h3 o), h4.mono hle⟩
 nag := fun _ => rfl
theorem isK (n : Int) : MapKept.IsKey (.int .i64) (.int .i64 n) := by simp [MapKept.IsKey]
theorem Zja {w : World} {t : TypeId} {z : Value} (hz : (P.info? t).bind (·.zero) = some z) : (zeroValue t).run P w = .ok z w := by
 obtain ⟨i, hi, hz⟩ := Option.bind_eq_some_iff.1 hz
 simp [zeroValue, typeInfo, hi, hz]
theorem Zla {m : List (Int × β)} {n : Int} {zv : β} {zc : Value} (hm : P.underlying mt = some (.map kt et)) (hk : P.underlying kt = some (.int .i64)) (hz : (P.info? et).bind (·.zero) = some zc) (hzv : ∀ g, dk.V g zv zc) (hop : o.op = .lookup mt x y false) (hd : o.dst = some d) (hx : Opd uses x ((Kd.mapF dk).pd m)) (hy : Opd uses y (pInt .i64 n)) : OB P N o uses [(d, dk.pd (mget zv m n))] [] :=
 Zbt hd fun a g hh => by
   obtain ⟨_, ⟨b, es, clock, rfl, h1, h2, h3, h4⟩, hv⟩ := hx a g hh
   have hv : a.eval x = .map (some b) := hv
   have hn := Zck.1 (hy a g hh)
   have hc : ∀ w, (Instr.checkKey es.isEmpty 10000 kt (.int .i64 n)).run P w = .ok () w := fun w => MapKept.run_checkKey (k := .int .i64 n) hk (isK n) _ 9999
   have hc' : (Instr.checkKey (decide (es = #[])) 10000 kt (.int .i64 n)).run P g.w = .ok () g.w := MapKept.run_checkKey (k := .int .i64 n) hk (isK n) _ 9999
   rcases Zi9 (zv := zv) (n := n) 0 h4 with ⟨k1, k2, _⟩ | ⟨k, v, k1, k2⟩
   · refine ⟨zc, ?_, by rw [k2]; exact hzv g⟩
     simp [execOp, hop, hv, hn, Instr.lookup, run_underlying hm, MapKept.run_getObj_map h2, hc, hc', MapKept.run_findKey hk k1, Zja hz, Result.andThen]
   · refine ⟨v, ?_, k2⟩
     simp [execOp, hop, hv, hn, Instr.lookup, run_underlying hm, MapKept.run_getObj_map h2, hc, hc', MapKept.run_findKey hk k1, Result.andThen]
def G.pushO (g : G) (ob : Obj) (j : Nat) : G where
 w := g.w.alloc ob
 pr := g.pr
 own := fun b => if b = g.w.heap.size then j else if g.own b = j then 0 else g.own b
 hpr := fun b o h => by
   have hs : (g.w.alloc ob).heap.size = g.w.heap.size + 1 := Array.size_push _
   have := g.hpr b o h; omega
 gl := g.gl.le (fun b o h => h) (fun b o h => Zcy (Zdc g.w _ (g.hpr b o h)))
theorem Zj5 (g : G) (ob : Obj) (j : Nat) : Step [j] g (g.pushO ob j) where
 le := ⟨by show _ ≤ (g.w.alloc ob).heap.size; rw [Zcf]; omega, fun _ _ h => h, fun b o h => Zcy (Zdc g.w _ (g.hpr b o h)), fun b h => Zdc g.w _ (g.hpr b 0 (h 0))⟩
 os := rfl
 tape := rfl
 output := rfl
 same := fun b hb hj => ⟨Zdc g.w _ hb, rfl, by simp only [G.pushO]; rw [if_neg (by omega), if_neg (by simpa using hj)]⟩
 new := fun b h1 h2 => by
   have h2 : b < (g.w.alloc ob).heap.size := h2
   rw [Zcf] at h2
   have : b = g.w.heap.size := by omega
   right; simp [G.pushO, this]
 old := fun b hb h => by
   left
   have : g.own b = j := by simpa using h
   simp only [G.pushO]; rw [if_neg (by omega), if_pos this]
def World.put (w : World) (b : Nat) (ob : Obj) : World := { w with heap := w.heap.setIfInBounds b ob }
theorem Zd8 (w : World) (b : Nat) (ob : Obj) : (World.put w b ob).heap.size = w.heap.size := by simp [World.put]
theorem Zfp (w : World) (b : Nat) (ob : Obj) {c : Nat} (h : c ≠ b) : (World.put w b ob).heap[c]? = w.heap[c]? := by simp [World.put, Ne.symm h]
theorem Zlc (w : World) (b : Nat) (ob : Obj) (h : b < w.heap.size) : (World.put w b ob).heap[b]? = some ob := by simp [World.put, h]
def G.putO (g : G) (b : Nat) (ob : Obj) (hp : ∀ o, ¬ g.pr b o) : G where
 w := World.put g.w b ob
 pr := g.pr
 own := g.own
 hpr := fun b' o h => by rw [Zd8]; exact g.hpr b' o h
 gl := g.gl.le (fun b' o h => h) (fun b' o h => Zcy (Zfp _ _ _ (fun he => hp o (by rw [← he]; exact h))))
theorem Zkz {g : G} {b : Nat} {ob : Obj} (hp : ∀ o, ¬ g.pr b o) : Step [g.own b] g (g.putO b ob hp) where
 le := ⟨by show _ ≤ (World.put g.w b ob).heap.size; rw [Zd8]; exact Nat.le_refl _, fun _ _ h => h, fun b' o h => Zcy (Zfp _ _ _ (fun he => hp o (by rw [← he]; exact h))), fun b' h => Zfp _ _ _ (fun he => hp 0 (by rw [← he]; exact h 0))⟩
 os := rfl
 tape := rfl
 output := rfl
 same := fun b' _ hn => ⟨Zfp _ _ _ (fun he => by subst he; exact hn (by simp)), rfl, rfl⟩
 new := fun b' h1 h2 => by
   have h2 : b' < (World.put g.w b ob).heap.size := h2
   rw [Zd8] at h2; omega
 old := fun b' _ h => .inr h
structure MapB (β : Type) where
 old : List (Int × List β)
 last : Option (Int × List β)
def MapB.all (s : MapB β) : List (Int × List β) := s.old ++ s.last.toList
def MapB.row (s : MapB β) (n : Int) : Option (List β) := match s.last with
 | none => if s.old.all (fun e => e.1 != n) then some [] else none
 | some e => if s.old.all (fun e => e.1 != n) then if e.1 = n then some e.2 else some [] else none
def MapB.put (s : MapB β) (n : Int) (v : List β) : MapB β := match s.last with
 | none => ⟨s.old, some (n, v)⟩
 | some e => if e.1 = n then ⟨s.old, some (n, v)⟩ else ⟨s.old ++ [e], some (n, v)⟩
variable {ee j jr : Nat}
def Zgb (dk : Kd β) (ee jr : Nat) (told : Bool) (s : MapB β) (g : G) (es : List MapEntry) : Prop := match s.last with
 | none => MRel dk.sl g s.old es
 | some e => ∃ es0 x, es = es0 ++ [x] ∧ MRel dk.sl g s.old es0 ∧ x.key = .int .i64 e.1 ∧ dk.sl.V g e.2 x.val ∧ (told = true → Tail dk ee (jr + 1) e.2.length g x.val)
def pMap (dk : Kd β) (ee j jr : Nat) (told : Bool) (s : MapB β) : Pd where
 p := fun g u => ∃ b es clock, u = .map (some b) ∧ b < g.w.heap.size ∧ g.own b = j + 1 ∧ (∀ b', b' < g.w.heap.size → g.own b' = j + 1 → b' = b) ∧ g.w.heap[b]? = some (.map es clock) ∧ (∀ o, ¬ g.pr b o) ∧ Zgb dk ee jr told s g es.toList
 fp := if told then [j + 1, jr + 1] else [j + 1]
 st := fun {S g g' v} st hd ⟨b, es, clock, e, h1, h2, h3, h4, h5, h6⟩ => by
   have hj : j + 1 ∉ S := hd _ (by split <;> simp)
   obtain ⟨k1, k2, k3⟩ := st.same b h1 (by rw [h2]; exact hj)
   refine ⟨b, es, clock, e, Nat.lt_of_lt_of_le h1 st.le.size, k3.trans h2, Zi1 st hj (by omega) h3, k1.trans h4, fun o => by rw [k2]; exact h5 o, ?_⟩
   unfold Zgb at h6 ⊢
   split at h6
   · exact h6.mono st.le
   · obtain ⟨es0, x, m1, m2, m3, m4, m5⟩ := h6
     refine ⟨es0, x, m1, m2.mono st.le, m3, Zfr st.le m4, fun ht => (m5 ht).st st (hd _ (by simp [ht]))⟩
theorem Zjf {told : Bool} {s : MapB β} {g : G} {v : Value} (h : (pMap dk ee j jr told s).p g v) : (pMap dk ee j jr false s).p g v := by
 obtain ⟨b, es, clock, e, h1, h2, h3, h4, h5, h6⟩ := h
 refine ⟨b, es, clock, e, h1, h2, h3, h4, h5, ?_⟩
 unfold Zgb at h6 ⊢
 split at h6
 · exact h6
 · obtain ⟨es0, x, m1, m2, m3, m4, m5⟩ := h6
   exact ⟨es0, x, m1, m2, m3, m4, fun h => by cases h⟩
theorem Zkg (hop : o.op = .makeMap mt none) (hd : o.dst = some d) : OB P N o uses [(d, pMap dk ee j jr true ⟨[], none⟩)] [j + 1] :=
 Zdo hd fun a g hh => by
   refine ⟨.map (some g.w.heap.size), g.pushO (.map #[] 0) (j + 1), ?_, Zj5 .., g.w.heap.size, #[], 0, rfl, ?_, ?_, fun b' hb' ho => ?_, Zd5 _ _, fun o h => ?_, trivial⟩
   · simp [execOp, hop, Instr.makeMap]; rfl
   · show _ < (g.w.alloc _).heap.size; rw [Zcf]; omega
   · simp [G.pushO]
   · simp only [G.pushO] at ho
     split at ho
     · assumption
     · split at ho
       · omega
       · rename_i hne; exact absurd ho hne
   · exact absurd (g.hpr _ _ h) (by omega)
theorem Zj6 {s : MapB β} {n : Int} {xs : List β} (hm : P.underlying mt = some (.map kt et)) (hk : P.underlying kt = some (.int .i64)) (hz : (P.info? et).bind (·.zero) = some (.slice none 0 0)) (hr : s.row n = some xs) (hop : o.op = .lookup mt x y false) (hd : o.dst = some d) (hx : Opd uses x (pMap dk ee j jr true s)) (hy : Opd uses y (pInt .i64 n)) : OB P N o uses [(d, pRow dk ee jr xs)] [] :=
 Zbt hd fun a g hh => by
   obtain ⟨b, es, clock, hv, h1, h2, h3, h4, h5, h6⟩ := hx a g hh
   have hn := Zck.1 (hy a g hh)
   have hc : ∀ w, (Instr.checkKey es.isEmpty 10000 kt (.int .i64 n)).run P w = .ok () w := fun w => MapKept.run_checkKey (k := .int .i64 n) hk (isK n) _ 9999
   have hc' : (Instr.checkKey (decide (es = #[])) 10000 kt (.int .i64 n)).run P g.w = .ok () g.w := MapKept.run_checkKey (k := .int .i64 n) hk (isK n) _ 9999
   have nil : Instr.findNow (.int .i64) (.int .i64 n) es.toList 0 = some none → ∃ v, (execOp a.eval o).run P g.w = .ok (.value v) g.w ∧ (pRow dk ee jr []).p g v := fun k1 =>
     ⟨.slice none 0 0, by simp [execOp, hop, hv, hn, Instr.lookup, run_underlying hm, MapKept.run_getObj_map h4, hc, hc', MapKept.run_findKey hk k1, Zja hz, Result.andThen], Zfa jr g⟩
   unfold Zgb at h6
   unfold MapB.row at hr
   cases hl : s.last with
   | none =>
     simp only [hl] at h6 hr
     split at hr
     · rename_i ha
       obtain rfl := Option.some.inj hr
       exact nil (Zih 0 h6 (fun e he => by have := List.all_eq_true.1 ha e he; simpa using this))
     · cases hr
   | some e =>
     simp only [hl] at h6 hr
     obtain ⟨es0, x0, m1, m2, m3, m4, m5⟩ := h6
     split at hr
     · rename_i ha
       have ha : ∀ e ∈ s.old, e.1 ≠ n := fun e he => by have := List.all_eq_true.1 ha e he; simpa using this
       split at hr
       · rename_i he
         obtain rfl := Option.some.inj hr
         have k1 := Zha (n := n) (x := x0) (by rw [m3, he]) 0 m2 ha
         rw [← m1] at k1
         exact ⟨x0.val, by simp [execOp, hop, hv, hn, Instr.lookup, run_underlying hm, MapKept.run_getObj_map h4, hc, hc', MapKept.run_findKey hk k1, Result.andThen], m4, m5 trivial⟩
       · rename_i he
         obtain rfl := Option.some.inj hr
         have k1 := Zf6 (n := n) (x := x0) m3 he 0 m2 ha
         rw [← m1] at k1
         exact nil k1
     · cases hr
theorem Zkk {s : MapB β} {n : Int} {xs : List β} {g : G} {told : Bool} {u w : Value} (hm : P.underlying mt = some (.map kt et)) (hk : P.underlying kt = some (.int .i64)) (hr : (s.row n).isSome = true) (hx : (pMap dk ee j jr told s).p g u) (hw : (pRow dk ee jr xs).p g w) (hjr : jr ≠ j) :
   ∃ g', (Instr.mapUpdate mt u (.int .i64 n) w).run P g.w = .ok () g'.w ∧ Step [j + 1] g g' ∧ (pMap dk ee j jr true (s.put n xs)).p g' u := by
 obtain ⟨b, es, clock, rfl, h1, h2, h3, h4, h5, h6⟩ := hx
 have hc' : (Instr.checkKey false 10000 kt (.int .i64 n)).run P g.w = .ok () g.w := MapKept.run_checkKey (k := .int .i64 n) hk (isK n) _ 9999
 have put : ∀ ob, Step [j + 1] g (g.putO b ob h5) := fun ob => by have := Zkz (ob := ob) h5; rw [h2] at this; exact this
 have push : (∀ e ∈ s.old, e.1 ≠ n) → Instr.findNow (.int .i64) (.int .i64 n) es.toList 0 = some none → MRel dk.sl g (s.old ++ s.last.toList) es.toList → s.put n xs = ⟨s.old ++ s.last.toList, some (n, xs)⟩ → ∃ g', (Instr.mapUpdate mt (.map (some b)) (.int .i64 n) w).run P g.w = .ok () g'.w ∧ Step [j + 1] g g' ∧ (pMap dk ee j jr true (s.put n xs)).p g' (.map (some b)) := fun hn k1 k2 k3 => by
   refine ⟨g.putO b (.map (es.push { key := .int .i64 n, val := w, born := clock }) (clock + 1)) h5, ?_, put _, b, _, _, rfl, by show b < (World.put _ _ _).heap.size; rw [Zd8]; exact h1, h2, fun b' hb' ho => h3 b' (by have hb' : b' < (World.put _ _ _).heap.size := hb'; rw [Zd8] at hb'; exact hb') ho, Zlc _ _ _ h1, h5, ?_⟩
   · simp [Instr.mapUpdate, run_underlying hm, MapKept.run_getObj_map h4, hc', MapKept.run_findKey hk k1, MapKept.run_setObj_map _ h4, Result.andThen]
     rfl
   · rw [k3]
     exact ⟨es.toList, { key := .int .i64 n, val := w, born := clock }, by simp, k2.mono (put _).le, rfl, Zfr (put _).le hw.1, fun _ => hw.2.st (put _) (by simp; omega)⟩
 unfold Zgb at h6
 unfold MapB.row at hr
 cases hl : s.last with
 | none =>
   simp only [hl] at h6 hr
   split at hr
   · rename_i ha
     have ha : ∀ e ∈ s.old, e.1 ≠ n := fun e he => by have := List.all_eq_true.1 ha e he; simpa using this
     exact push ha (Zih 0 h6 ha) (by rw [hl]; simpa using h6) (by simp [MapB.put, hl])
   · cases hr
 | some e =>
   simp only [hl] at h6 hr
   obtain ⟨es0, x0, m1, m2, m3, m4, m5⟩ := h6
   split at hr
   · rename_i ha
     have ha : ∀ e ∈ s.old, e.1 ≠ n := fun e he => by have := List.all_eq_true.1 ha e he; simpa using this
     by_cases he : e.1 = n
     · have k1 := Zha (n := n) (x := x0) (by rw [m3, he]) 0 m2 ha
       rw [← m1, Nat.zero_add] at k1
       have hi : es[es0.length]? = some x0 := by rw [← Array.getElem?_toList, m1]; simp
       have hi0 : (es0 ++ [x0])[es0.length]? = some x0 := by simp
       have hmod : (es.modify es0.length fun e => { e with key := .int .i64 n, val := w }).toList = es0 ++ [{ x0 with key := .int .i64 n, val := w }] := by
         apply List.ext_getElem?
         intro i
         rw [Array.getElem?_toList, Array.getElem?_modify]
         by_cases hii : es0.length = i
         · subst hii; rw [if_pos rfl, hi]; simp
         · rw [if_neg hii, ← Array.getElem?_toList, m1, List.getElem?_append, List.getElem?_append]
           by_cases hlt : i < es0.length
           · rw [if_pos hlt, if_pos hlt]
           · rw [if_neg hlt, if_neg hlt, List.getElem?_eq_none (by simp; omega), List.getElem?_eq_none (by simp; omega)]
       refine ⟨g.putO b (.map (es.modify es0.length fun e => { e with key := .int .i64 n, val := w }) clock) h5, ?_, put _, b, _, _, rfl, by show b < (World.put _ _ _).heap.size; rw [Zd8]; exact h1, h2, fun b' hb' ho => h3 b' (by have hb' : b' < (World.put _ _ _).heap.size := hb'; rw [Zd8] at hb'; exact hb') ho, Zlc _ _ _ h1, h5, ?_⟩
       · have hkey : x0.key = .int .i64 n := by rw [m3, he]
         simp [Instr.mapUpdate, run_underlying hm, MapKept.run_getObj_map h4, hc', MapKept.run_findKey hk k1, MapKept.run_setObj_map _ h4, Result.andThen, hi, hkey, MapKept.run_keyThatStays (isK n)]
         rfl
       · rw [show s.put n xs = ⟨s.old, some (n, xs)⟩ by simp [MapB.put, hl, he]]
         exact ⟨es0, _, hmod, m2.mono (put _).le, rfl, Zfr (put _).le hw.1, fun _ => hw.2.st (put _) (by simp; omega)⟩
     · have k1 := Zf6 (n := n) (x := x0) m3 he 0 m2 ha
       rw [← m1] at k1
       refine push ha k1 ?_ (by simp [MapB.put, hl, he])
       rw [hl, m1]
       exact MRel.app m3 m4 m2
   · cases hr
end
section
variable {P : Program} {N : Nat} {o : Oper} {uses outs : Zn} {S : List Nat} {d : Nat} {q : Pd} {x y z : Operand} {α β γ : Type} {dk : Kd β} {t e j : Nat} {bytes : Nat}
def Kd.rawM : Kd Nat := Kd.scalar (fun b => .map (some b)) fun _ => rfl
theorem Zjs {xs : List β} {g : G} {v : Value} (h : (pArr dk e j xs).p g v) : ∃ s : SlV, v = slv s := by
 rcases h with ⟨rfl, A, rfl⟩ | ⟨b, cap, cur, rfl, _⟩
 · exact ⟨(A, 0, 0), rfl⟩
 · exact ⟨(some ⟨b, 0, none⟩, xs.length, cap), rfl⟩
theorem Zhw {xs : List β} (h0 : xs ≠ []) {g : G} {v : Value} (h : (pArr dk e j xs).p g v) : ∃ b cap cur, v = .slice (some ⟨b, 0, none⟩) xs.length cap ∧ OwnAt dk e (j + 1) (xs.map some) g b cap cur := h.elim (fun h => absurd h.1 h0) id
theorem Zkt {xs : List β} {n : Int} (hT : TE P t e dk bytes) (hn : 0 ≤ n ∧ n ≤ xs.length) (h0 : xs ≠ []) (hop : o.op = .slice t x (some y) none none) (hd : o.dst = some d) (hx : Opd uses x (pArr dk e j xs)) (hy : Opd uses y (pInt .i64 n)) : OB P N o uses [(d, Zkf dk e j n.toNat (xs.length - n.toNat))] [] := by
 obtain ⟨l, rfl⟩ := Int.eq_ofNat_of_zero_le hn.1
 have := Zjn (c := none) (fs := xs.map some) (l := l) (o := o) (uses := uses) (N := N) (x := x) (y := y) (j := j) hT (by simp; omega) hop hd (hx.imp fun g v h => by
   obtain ⟨b, cap, cur, h1, h2⟩ := Zhw h0 h
   exact ⟨b, cap, cur, by simpa using h1, h2, fun k hk => by cases hk⟩) hy
 simpa using this
theorem Zkj {xs : List β} {n : Int} (hT : TE P t e dk bytes) (hn : 0 ≤ n ∧ n ≤ xs.length) (h0 : xs ≠ []) (hop : o.op = .slice t x none (some y) none) (hd : o.dst = some d) (hx : Opd uses x (pArr dk e j xs)) (hy : Opd uses y (pInt .i64 n)) : OB P N o uses [(d, pArr dk e j (xs.take n.toNat))] [] := by
 obtain ⟨h, rfl⟩ := Int.eq_ofNat_of_zero_le hn.1
 refine Zbt hd fun a g hh => ?_
 obtain ⟨b, cap, cur, hv, hO⟩ := Zhw h0 (hx a g hh)
 have hy' := Zck.1 (hy a g hh)
 obtain ⟨i, zz, hi, hz, hsz, hby, hzs⟩ := hT.info
 have hlen : xs.length ≤ cap := by simpa using hO.len
 have hle : h ≤ xs.length := by have := hn.2; omega
 have hb : ∀ w cd, (Instr.sliceBound (a.eval y) cap cd).run P w = .ok h w := fun w cd => Zid hy' (by omega)
 have hl : (xs.take (h : Int).toNat).length = h := by simp; omega
 by_cases hc : cap = 0
 · have hx0 : xs = [] := List.eq_nil_of_length_eq_zero (by omega)
   exact absurd hx0 h0
 refine ⟨.slice (some ⟨b, 0, none⟩) h cap, ?_, .inr ⟨b, cap, cur, by rw [hl], hO.lt, hO.own, hO.uniq, hO.heap, by rw [List.length_map, hl]; omega, hO.max, hO.sz, fun k u hu => hO.known k u ?_, hO.npr⟩⟩
 · simp [execOp, hop, hv, Instr.sliceAt, Instr.slice, Instr.sliceBounds, run_underlying hT.und, hb, sizeOf, typeInfo, hi, hsz, Zb5]
 · rw [List.getElem?_map] at hu ⊢
   obtain ⟨w, hw, e1⟩ := Option.map_eq_some_iff.1 hu
   rw [List.getElem?_take] at hw
   split at hw
   · rw [hw]; exact congrArg some e1
   · cases hw
theorem Zjc {xs : List β} {n : Int} {s : Nat} {z0 : β} {zc : Value} (hT : TE P t e dk bytes) (h1 : dk.sz = 1) (hz0 : (P.info? e).bind (·.zero) = some zc) (hzc : zc.cells = #[zc]) (hzo : zc.oneCell' = true) (hK : ∀ g, dk.K g z0 [zc]) (hn : 0 ≤ n ∧ n ≤ xs.length) (h0 : xs ≠ [])
   (hop : o.op = .call { callee := .builtin .clear, args := #[x], argTypes := #[t] }) (hd : o.dst = none) (hx : Opd uses x (Zkf dk e j n.toNat (xs.length - n.toNat))) (hs : Opd uses (.tmp s) (pArr dk e j xs)) : OB P N o uses [(s, pArr dk e j (xs.take n.toNat ++ List.replicate (xs.length - n.toNat) z0))] [j + 1] := by
 obtain ⟨off, rfl⟩ := Int.eq_ofNat_of_zero_le hn.1
 have hoff : off ≤ xs.length := by have := hn.2; omega
 intro a g K Q hN hdN hu hKK
 obtain ⟨b, cap, cur, hxv, hO1, _⟩ := hx a g hu
 obtain ⟨b', cap', cur', hsv, hO⟩ := Zhw h0 (hs a g hu)
 obtain ⟨rfl, rfl, rfl⟩ := hO.same hO1 hT.sz
 obtain ⟨i, zz, hi, hz, hsz, hby, hzs⟩ := hT.info
 obtain rfl : zz = zc := by rw [hi] at hz0; simp only [Option.bind_some] at hz0; rw [hz] at hz0; exact Option.some.inj hz0
 have hlen : xs.length ≤ cap := by simpa using hO.len
 have hcl : cur.toList.length = cap := by simpa [h1] using hO.sz
 let l := xs.length - off
 have hl0 : xs.length - (off : Int).toNat = l := by simp [l]
 rw [hl0] at hxv
 have hzz : (Builtin.zeroCells zz.cells l).toList = List.replicate l zz := by
   rw [hzc]
   apply List.ext_getElem
   · simp [Builtin.zeroCells]
   · intro k h1 h2
     simp [Builtin.zeroCells, Nat.mod_one]
 have hone : ∀ u ∈ (Builtin.zeroCells zz.cells l).toList, u.oneCell' = true := by
   rw [hzz]; intro u hu; rw [(List.mem_replicate.1 hu).2]; exact hzo
 have hfit : off + (Builtin.zeroCells zz.cells l).toList.length ≤ cur.toList.length := by rw [hzz, List.length_replicate, hcl]; omega
 let cs := (Zw cur.toList off (Builtin.zeroCells zz.cells l).toList).toArray
 have hr : (Builtin.clear_ #[t] o.type #[a.eval x]).run P g.w = .ok (.tuple #[]) (g.w.setRow b cs) := by
   rw [hxv]
   rcases Nat.eq_zero_or_pos l with hl | hpos
   · have hs0 : cs = cur := by
       show (Zw cur.toList off (Builtin.zeroCells zz.cells l).toList).toArray = cur
       rw [hzz, hl]; simp [Zw]
     rw [hs0, setRow_self g.w b cur e (0, 0) hO.heap, hl]
     by_cases he : cap = (off : Int).toNat <;> simp [Builtin.clear_, run_underlying hT.und]
   · have he : ¬ cap = (off : Int).toNat := by simp; omega
     rw [if_neg he]
     have hst := run_storeCells_at P b off e (Builtin.zeroCells zz.cells l).toList 0 cur g.w hO.heap (by rw [Nat.add_zero]; simpa using hfit) hone
     rw [Nat.add_zero] at hst
     obtain ⟨m, hm⟩ : ∃ m, l = m + 1 := ⟨l - 1, by omega⟩
     rw [hm] at hst
     rw [hm]
     simp [Builtin.clear_, run_underlying hT.und, zeroValue, typeInfo, hi, hz, h1]
     rw [hst]
     show _ = Result.ok _ (g.w.setRow b (Zw cur.toList off (Builtin.zeroCells zz.cells l).toList).toArray)
     rw [hm]; rfl
 have hr' : (execOp a.eval o).run P g.w = .ok (.value (.tuple #[])) (g.w.setRow b cs) := by
   simp [execOp, hop, resolve, invoke, builtin, hr]
 unfold Oper.wp
 rw [hr']
 have hst : Step [j + 1] g (g.wr b cs hO.lt hO.npr (fun _ => False) (j + 1)) := Zf2 hO.own (.inr rfl) hO.npr
 refine hKK _ (g.wr b cs hO.lt hO.npr (fun _ => False) (j + 1)) hst fun e' he => ?_
 rw [List.mem_singleton.1 he]
 have hat : Act.at (a.put o.dst (.tuple #[])) s = Act.at a s := by rw [hd]; rfl
 have hsv : Act.at a s = .slice (some ⟨b, 0, none⟩) xs.length cap := hsv
 have hll : (xs.take (off : Int).toNat ++ List.replicate l z0).length = xs.length := by simp [l]; omega
 show (pArr dk e j (xs.take (off : Int).toNat ++ List.replicate (xs.length - (off : Int).toNat) z0)).p _ (Act.at (a.put o.dst (.tuple #[])) s)
 rw [hat, hsv, hl0]
 have hcs : cs.toList = Zw cur.toList off (List.replicate l zz) := by show (Zw cur.toList off (Builtin.zeroCells zz.cells l).toList).toArray.toList = _; rw [hzz]
 refine .inr ⟨b, cap, cs, by rw [hll], by rw [wr_w, Zbz]; exact hO.lt, by simp [G.wr], fun b' hb' ho => ?_, by rw [wr_w]; exact setRow_heap _ _ _ _ _ _ hO.heap, by rw [List.length_map, hll]; exact hlen, hO.max, ?_, fun i x hx => ?_, fun o => by simp [G.wr]⟩
 · rw [wr_w, Zbz] at hb'
   simp only [G.wr] at ho
   split at ho
   · assumption
   · exact hO.uniq b' hb' ho
 · rw [← Array.length_toList, hcs, Zei (by rw [List.length_replicate]; omega), hcl, h1, Nat.mul_one]
 · rw [h1, Nat.mul_one, hcs]
   rw [List.getElem?_map, List.getElem?_append] at hx
   have htl : (xs.take (off : Int).toNat).length = off := by simp; omega
   rw [htl] at hx
   split at hx
   · rename_i hlt
     rw [Zef (by rw [List.length_replicate]; omega) (.inl (by omega))]
     have := hO.known i x (by
       rw [List.getElem?_map]
       rw [List.getElem?_take] at hx
       split at hx
       · exact hx
       · simp at hx)
     rw [h1, Nat.mul_one] at this
     exact dk.mono hst.le this
   · rename_i hge
     rw [List.getElem?_replicate] at hx
     split at hx
     · rename_i hlt
       simp at hx
       subst hx
       have : seg (Zw cur.toList off (List.replicate l zz)) i 1 = [zz] := by
         have hi1 : i < (Zw cur.toList off (List.replicate l zz)).length := by rw [Zei (by rw [List.length_replicate]; omega), hcl]; omega
         apply List.ext_getElem?
         intro k
         simp only [seg, List.getElem?_take, List.getElem?_drop]
         by_cases hk : k = 0
         · subst hk
           rw [if_pos (by omega)]
           simp only [Zw, List.append_assoc, List.getElem?_append, List.length_take, List.length_replicate, List.getElem?_replicate]
           rw [if_neg (by omega), if_pos (by omega), if_pos (by omega)]
           rfl
         · rw [if_neg (by omega)]
           rw [List.getElem?_eq_none (by simp; omega)]
       rw [this]
       exact hK _
     · cases hx
def Ziv (P : Program) (f : FuncId) (dk : Kd β) (e : TypeId) (xs ys : List β) (A : List Pd) : Prop := ∀ (g : G) (v : Value) (D : Nat → Prop) (args : List Value), Zg2 dk e xs g v D → ArgsOk A g args →
 Calls P f (v :: args).toArray g.w (fun en w' => ∃ g' u, en = .returned u ∧ w' = g'.w ∧ Zf4 D g g' ∧ Zg2 dk e ys g' u (fun c => D c ∧ c < g.w.heap.size ∨ g.w.heap.size ≤ c))
theorem Zjm {f : FuncId} {xs ys : List β} {xo : List Operand} {A : List Pd} {ty : Array TypeId} (he : Zk P f) (hok : Ziv P f dk e xs ys A) (hop : o.op = .call { callee := .value (.func f), args := (x :: xo).toArray, argTypes := ty }) (hd : o.dst = some d) (hx : Opd uses x (pArr dk e j xs)) (hargs : OpdL uses xo A) : OB P N o uses [(d, pArr dk e j ys)] [j + 1] := by
 intro a g K Q hN hdN hu hK
 have hr : (execOp a.eval o).run P g.w = .ok (.enter f (a.eval x :: xo.map a.eval).toArray) g.w := by
   simp [execOp, hop, resolve, Zgz, Deferred.ofValue, invoke, Zdr he]
 unfold Oper.wp
 rw [hr]
 show Calls P f _ g.w _
 have hA : Zg2 dk e xs g (a.eval x) (fun b => g.own b = j + 1 ∧ ∀ b', b' < g.w.heap.size → g.own b' = j + 1 → b' = b) := by
   rcases hx a g hu with h | ⟨b, cap, cur, h1, h2⟩
   · exact .inl h
   · exact .inr ⟨b, cap, cur, h1, ⟨h2.own, h2.uniq⟩, h2.lt, h2.heap, by simpa using h2.len, h2.max, h2.sz, fun i x hx => h2.known i x (by rw [List.getElem?_map, hx]; rfl), h2.npr⟩
 refine Calls.mono (hok g _ _ _ hA (hargs.ok hu)) ?_
 rintro en w' ⟨g', v, rfl, rfl, hS, hA'⟩
 have go : ∀ (R : Nat → Prop) [DecidablePred R], (∀ g2 : G, g2.w = g'.w → g2.pr = g'.pr → (∀ c, g2.own c = if c < g.w.heap.size then (if g.own c = j + 1 then (if R c then j + 1 else 0) else g.own c) else if R c then j + 1 else 0) → g'.le g2 → (pArr dk e j ys).p g2 v) → K (a.put o.dst v) g'.w := fun R _ hp => by
   let g2 : G := ⟨g'.w, g'.pr, fun c => if c < g.w.heap.size then (if g.own c = j + 1 then (if R c then j + 1 else 0) else g.own c) else if R c then j + 1 else 0, g'.hpr, g'.gl⟩
   have hle : g'.le g2 := ⟨Nat.le_refl _, fun _ _ h => h, fun _ _ _ => rfl, fun _ _ => rfl⟩
   have hown : ∀ c, g2.own c = if c < g.w.heap.size then (if g.own c = j + 1 then (if R c then j + 1 else 0) else g.own c) else if R c then j + 1 else 0 := fun _ => rfl
   refine hK v g2 ⟨⟨hS.le.size, hS.le.pr, hS.le.cell, hS.le.blk⟩, hS.os, hS.tape, hS.output, fun c hc hn => ?_, fun c k1 k2 => ?_, fun c hc hn => ?_⟩ fun e' he' => ?_
   · have hn' : g.own c ≠ j + 1 := by simpa using hn
     obtain ⟨k1, k2⟩ := hS.same c hc (fun h => hn' h.1)
     exact ⟨k1, k2, by rw [hown, if_pos hc, if_neg hn']⟩
   · rw [hown, if_neg (by omega)]; split <;> simp
   · rw [hown, if_pos hc]
     have hn' : g.own c = j + 1 := by simpa using hn
     rw [if_pos hn']; split <;> simp
   · rw [List.mem_singleton.1 he', hd, Zbv _ (by rw [hN]; exact hdN d hd)]
     exact hp g2 rfl rfl hown hle
 rcases hA' with h | ⟨b, cap, cur, h1, h2, h5, h6, h7, h8, h9, h10, h11⟩
 · exact go (fun _ => False) (fun g2 _ _ _ _ => .inl h)
 · refine go (fun c => c = b) (fun g2 e1 e2 hown hle => .inr ⟨b, cap, cur, h1, by rw [e1]; exact h5, ?_, fun b' hb' ho => ?_, by rw [e1]; exact h6, by simpa using h7, h8, h9, fun i x hx => ?_, fun o => by rw [e2]; exact h11 o⟩)
   · rw [hown]
     rcases h2 with ⟨⟨h2, h3⟩, h4⟩ | h2
     · rw [if_pos h4, if_pos h2, if_pos rfl]
     · rw [if_neg (by omega), if_pos rfl]
   · rw [hown] at ho
     split at ho
     · split at ho
       · split at ho
         · assumption
         · omega
       · rename_i h; exact absurd ho h
     · split at ho
       · assumption
       · omega
   · rw [List.getElem?_map] at hx
     obtain ⟨w, hw, e1⟩ := Option.map_eq_some_iff.1 hx
     obtain rfl := Option.some.inj e1
     exact dk.mono hle (h10 i w hw)
def Zjz (dk : Kd β) (e : TypeId) (ys : List β) (g0 : G) (v : Value) (g1 : G) : Prop := Base g0 g1 ∧ (pArr dk e 0 ys).p g1 v
theorem Zk4 {f : FuncId} {fn : Func} {cd : Code} {A : List Pd} {xs ys : List β} (hf : P.funcs[f]? = some fn) (hb : fn.body = some cd) (hn : fn.ntmps = N) (hAN : A.length + 1 ≤ N) (hA : Free A)
   (h : ∀ (a : Act) (g : G), St N ((0, pArr dk e 0 xs) :: Zd2 A 1) a g → Base g g → cd.wp P (bodyPost P fn (FinP (Zjz dk e ys g))) a g.w) : Ziv P f dk e xs ys A := by
 intro g v D args hv hargs
 have hlen := hargs.1
 have hat : ∀ (i : Nat) (u : Value), (v :: args)[i]? = some u → Act.at { tmps := (v :: args).toArray ++ Array.replicate (fn.ntmps - (v :: args).toArray.size) undef, defers := [] } i = u := fun i u hi => by
   have hlt := (List.getElem?_eq_some_iff.1 hi).1
   simp only [Act.at, Array.getD_eq_getD_getElem?]
   rw [Array.getElem?_append, if_pos (by simpa using hlt)]
   have hi' : ((v :: args).toArray)[i]? = some u := by rw [List.getElem?_toArray]; exact hi
   rw [hi']; rfl
 have hrest : ∀ (g0 : G), g.le g0 → g0.w = g.w → Zb8 (Zd2 A 1) { tmps := (v :: args).toArray ++ Array.replicate (fn.ntmps - (v :: args).toArray.size) undef, defers := [] } g0 := fun g0 hle hw e' he' => by
   obtain ⟨i, e1, e2⟩ := Zel he'
   have hi : i < args.length := by rw [hlen]; exact (List.getElem?_eq_some_iff.1 e2).1
   rw [hat e'.1 args[i] (by rw [e1, Nat.add_comm]; exact List.getElem?_eq_getElem hi)]
   exact Pd.le (hA.at e2) hle (by rw [hw]) (by rw [hw]) (by rw [hw]) (hargs.2 i e'.2 _ e2 (List.getElem?_eq_getElem hi))
 have fin : ∀ (own : Nat → Nat), (∀ c, own c = 0 ∨ D c) → (pArr dk e 0 xs).p ⟨g.w, g.pr, own, g.hpr, g.gl⟩ v → Calls P f (v :: args).toArray g.w (fun en w' => ∃ g' u, en = .returned u ∧ w' = g'.w ∧ Zf4 D g g' ∧ Zg2 dk e ys g' u (fun c => D c ∧ c < g.w.heap.size ∨ g.w.heap.size ≤ c)) := fun own ho hv => by
   let g0 : G := ⟨g.w, g.pr, own, g.hpr, g.gl⟩
   have hle : g.le g0 := ⟨Nat.le_refl _, fun _ _ h => h, fun _ _ _ => rfl, fun _ _ => rfl⟩
   refine Calls.mono (calls_of_wp hf hb (h _ g0 ⟨by simp [hn]; omega, rfl, fun e' he' => ?_⟩ ⟨.refl _, rfl, rfl, rfl, fun _ _ h => ⟨rfl, rfl, h⟩⟩)) ?_
   · rcases List.mem_cons.1 he' with rfl | he'
     · show (pArr dk e 0 xs).p g0 _
       rw [hat 0 _ rfl]; exact hv
     · exact hrest g0 hle rfl e' he'
   · rintro en w' ⟨g1, u, rfl, rfl, hB, hq⟩
     refine ⟨g1, u, rfl, rfl, ⟨⟨hB.le.size, hB.le.pr, hB.le.cell, hB.le.blk⟩, hB.os, hB.tape, hB.output, fun c hc hn' => ?_⟩, ?_⟩
     · have := hB.same c hc ((ho c).resolve_right hn')
       exact ⟨this.1, this.2.1⟩
     · rcases hq with h | ⟨b, cap, cur, h1, hO⟩
       · exact .inl h
       · have hlt : D b ∧ b < g.w.heap.size ∨ g.w.heap.size ≤ b := by
           rcases Nat.lt_or_ge b g.w.heap.size with hbl | hbl
           · rcases ho b with h0 | h0
             · have := (hB.same b hbl h0).2.2
               rw [hO.own] at this; omega
             · exact .inl ⟨h0, hbl⟩
           · exact .inr hbl
         exact .inr ⟨b, cap, cur, h1, hlt, hO.lt, hO.heap, by simpa using hO.len, hO.max, hO.sz, fun i x hx => hO.known i x (by rw [List.getElem?_map, hx]; rfl), hO.npr⟩
 rcases hv with ⟨hx0, A0, rfl⟩ | ⟨b, cap, cur, rfl, hD, h1, h2, h3, h4, h5, h6, h7⟩
 · exact fin (fun _ => 0) (fun _ => .inl rfl) (.inl ⟨hx0, A0, rfl⟩)
 · refine fin (fun c => if c = b then 1 else 0) (fun c => ?_) (.inr ⟨b, cap, cur, rfl, h1, if_pos rfl, fun b' _ ho => ?_, h2, by simpa using h3, h4, h5, fun i x hx => ?_, h7⟩)
   · by_cases h : c = b
     · exact .inr (h ▸ hD)
     · exact .inl (if_neg h)
   · have : (if b' = b then 1 else 0) = 1 := ho
     split at this
     · assumption
     · omega
   · rw [List.getElem?_map] at hx
     obtain ⟨y, hy, he''⟩ := Option.map_eq_some_iff.1 hx
     obtain rfl := Option.some.inj he''
     exact dk.mono (g := g) ⟨Nat.le_refl _, fun _ _ h => h, fun _ _ _ => rfl, fun _ _ => rfl⟩ (h6 i y hy)
theorem Zjy {fn : Func} {r : ResultVar} {v : Value} {ys : List β} {a : Act} {g g0 : G} {L : Zn} (hr : fn.results = #[r]) (h : St N L a g) (hb : Base g0 g) (h1 : Ze7 P a g r v) (hq : (pArr dk e 0 ys).p g v) : bodyPost P fn (FinP (Zjz dk e ys g0)) .ret a g.w := endP hr h h1 ⟨hb, hq⟩
end
section
variable {P : Program} {N : Nat} {o : Oper} {uses outs : Zn} {S : List Nat} {d : Nat} {q : Pd} {x y z : Operand} {α β γ : Type} {kV : Kd γ} {raw : α → SlV → γ} {lst : α → List β} {k : Kd α} {dk : Kd β} {t e j : Nat} {bytes : Nat}
def G.lend (g : G) (D : Nat → Prop) (hD : ∀ c, D c → c < g.w.heap.size) : G := ⟨g.w, fun b o => g.pr b o ∨ D b, g.own, fun b o h => h.elim (g.hpr b o) (hD b), g.gl.le (fun _ _ h => .inl h) (fun _ _ _ => rfl)⟩
theorem Zhy (g : G) (D : Nat → Prop) (hD : ∀ c, D c → c < g.w.heap.size) : g.le (g.lend D hD) := ⟨Nat.le_refl _, fun _ _ h => .inl h, fun _ _ _ => rfl, fun _ _ => rfl⟩
theorem Zh6 {g g' : G} {D : Nat → Prop} {hD : ∀ c, D c → c < g.w.heap.size} (hn : ∀ c, D c → ∀ o, ¬ g.pr c o) (hs : Step [] (g.lend D hD) g') : ∃ g2 : G, g2.w = g'.w ∧ (∀ b o, g2.pr b o ↔ g'.pr b o ∧ ¬ D b) ∧ Step [] g g2 := by
 let g2 : G := ⟨g'.w, fun b o => g'.pr b o ∧ ¬ D b, g'.own, fun b o h => g'.hpr b o h.1, fun en hen i v hv => by
   obtain ⟨k1, k2⟩ := g'.gl en hen i v hv
   exact ⟨⟨k1, fun h => hn _ h i (g.gl en hen i v hv).1⟩, k2⟩⟩
 refine ⟨g2, rfl, fun _ _ => Iff.rfl, ⟨⟨hs.le.size, fun b o h => ⟨hs.le.pr b o (.inl h), fun h' => hn b h' o h⟩, fun b o h => hs.le.cell b o (.inl h), fun b h => hs.le.blk b (fun o => .inl (h o))⟩, hs.os, hs.tape, hs.output, fun b hb hn' => ?_, hs.new, hs.old⟩⟩
 obtain ⟨k1, k2, k3⟩ := hs.same b hb hn'
 refine ⟨k1, ?_, k3⟩
 funext o
 show (g'.pr b o ∧ ¬ D b) = g.pr b o
 rw [k2]
 show ((g.pr b o ∨ D b) ∧ ¬ D b) = g.pr b o
 have := fun h => hn b h o
 by_cases h : D b <;> simp [h, this]
def FnL (P : Program) (f : FuncId) (A : List Pd) (q : Pd) : Prop := ∀ (g : G) (args : List Value), ArgsOk A g args →
 Calls P f args.toArray g.w (fun en w' => ∃ g' v, en = .returned v ∧ w' = g'.w ∧ Step [] g g' ∧ ∀ g2 : G, g2.w = g'.w → (∀ b o, g.w.heap.size ≤ b → g'.pr b o → g2.pr b o) → q.p g2 v)
theorem FnL.ok {f : FuncId} {A : List Pd} (h : FnL P f A q) : FnOk P f A q := fun g args ha => Calls.mono (h g args ha) fun en w' ⟨g', v, h1, h2, h3, h4⟩ => ⟨g', v, h1, h2, h3, h4 g' rfl (fun _ _ _ h => h)⟩
theorem FnL.of {f : FuncId} {A : List Pd} (h : FnOk P f A q) (hq : ∀ (g g' : G) (v : Value), q.p g v → q.p g' v) : FnL P f A q := fun g args ha => Calls.mono (h g args ha) fun en w' ⟨g', v, h1, h2, h3, h4⟩ => ⟨g', v, h1, h2, h3, fun g2 _ _ => hq _ _ _ h4⟩
def Zk6 (dk : Kd β) (e : TypeId) (xs : List β) (g0 : G) (v : Value) (g1 : G) : Prop := Base g0 g1 ∧ ∃ j, (pRow dk e j xs).p g1 v
theorem Zmm {f : FuncId} {fn : Func} {c : Code} {A : List Pd} {xs : List β} (hind : ∀ (g g' : G) (x : β) (cs : List Value), dk.K g x cs → dk.K g' x cs) (hf : P.funcs[f]? = some fn) (hb : fn.body = some c) (hn : fn.ntmps = N) (hAN : A.length ≤ N) (hA : Free A)
   (h : ∀ (a : Act) (g : G), (∀ b, g.own b = 0) → St N (Zd2 A 0) a g → Base g g → c.wp P (bodyPost P fn (FinP (Zk6 dk e xs g))) a g.w) : FnL P f A (dk.sl.pd xs) := by
 intro g args hargs
 let g0 : G := ⟨g.w, g.pr, fun _ => 0, g.hpr, g.gl⟩
 have hle : g.le g0 := ⟨Nat.le_refl _, fun _ _ h => h, fun _ _ _ => rfl, fun _ _ => rfl⟩
 have hst : St N (Zd2 A 0) { tmps := args.toArray ++ Array.replicate (fn.ntmps - args.toArray.size) undef, defers := [] } g0 := by
   refine ⟨?_, rfl, ?_⟩
   · have := hargs.1
     simp [hn]; omega
   · intro en he
     obtain ⟨i, h1, h2⟩ := Zel he
     have hi : i < args.length := by rw [hargs.1]; exact (List.getElem?_eq_some_iff.1 h2).1
     have hv : Act.at { tmps := args.toArray ++ Array.replicate (fn.ntmps - args.toArray.size) undef, defers := [] } en.1 = args[i] := by
       rw [h1, Nat.zero_add]
       simp only [Act.at, Array.getD_eq_getD_getElem?]
       rw [Array.getElem?_append, if_pos (by simpa using hi)]
       simp [hi]
     rw [hv]
     exact Pd.le (hA.at h2) hle rfl rfl rfl (hargs.2 i en.2 _ h2 (List.getElem?_eq_getElem hi))
 have hbase : Base g0 g0 := ⟨.refl _, rfl, rfl, rfl, fun _ _ _ => ⟨rfl, rfl, rfl⟩⟩
 refine Calls.mono (calls_of_wp hf hb (h _ g0 (fun _ => rfl) hst hbase)) ?_
 rintro en w' ⟨g1, v, rfl, rfl, hBs, j, hV, hT⟩
 let g' : G := ⟨g1.w, g1.pr, fun c => if c < g.w.heap.size then g.own c else 0, g1.hpr, g1.gl⟩
 refine ⟨g', v, rfl, rfl, ⟨⟨hBs.le.size, hBs.le.pr, hBs.le.cell, hBs.le.blk⟩, hBs.os, hBs.tape, hBs.output, fun c hc _ => ⟨(hBs.same c hc rfl).1, (hBs.same c hc rfl).2.1, if_pos hc⟩, fun c h1 h2 => .inl (if_neg (by omega)), fun c hc hn => by cases hn⟩, fun g2 hw hpr => ?_⟩
 obtain ⟨A, c, hv, h1, h2, hR⟩ := Kd.sl_V.1 hV
 refine Kd.sl_V.2 ⟨A, c, hv, h1, h2, ?_⟩
 rcases hR with h | ⟨b, o, hb, hR⟩
 · exact .inl h
 · refine .inr ⟨b, o, hb, fun i x hx => ?_⟩
   obtain ⟨cs, k1, k2⟩ := hR i x hx
   refine ⟨cs, hind _ _ _ _ k1, fun i' u hu => ?_⟩
   obtain ⟨m1, m2⟩ := k2 i' u hu
   refine ⟨hpr _ _ ?_ m1, by rw [hw]; exact m2⟩
   rcases hT with ⟨hv2, hl⟩ | ⟨b2, cap, cur, hv2, n1, n2, _⟩
   · have := (List.getElem?_eq_some_iff.1 hx).1
     omega
   · rw [hv] at hv2
     injection hv2 with e1 e2 e3
     rw [hb] at e1
     have : b = b2 := by injection e1 with e1; injection e1
     subst this
     refine Nat.le_of_not_lt fun hlt => ?_
     have := (hBs.same b hlt rfl).2.2
     omega
theorem Zkr {fn : Func} {r : ResultVar} {v : Value} {xs : List β} {a : Act} {g g0 : G} {L : Zn} (hr : fn.results = #[r]) (h : St N L a g) (hb : Base g0 g) (h1 : Ze7 P a g r v) (hq : (pRow dk e j xs).p g v) : bodyPost P fn (FinP (Zk6 dk e xs g0)) .ret a g.w := endP hr h h1 ⟨hb, j, hq⟩
def Zim (kV : Kd γ) (raw : α → SlV → γ) (lst : α → List β) (dk : Kd β) (k : Kd α) : Prop := ∀ (g : G) (x : α) (s : SlV) (cs : List Value), kV.K g (raw x s) cs → dk.sl.V g (lst x) (slv s) → k.K g x cs
theorem Ziq (hc : Zim kV raw lst dk k) {g : G} {b : Nat} {B : Nat → Prop} {x : α} (hR : (obS kV raw lst dk e).R g b B x) (hD : ∀ c, (c = b ∨ B c) → c < g.w.heap.size) : (k.ptr x).p (g.lend (fun c => c = b ∨ B c) hD) (.pointer (some ⟨b, 0, none⟩)) := by
 obtain ⟨s, cs, t, hh, hk, hl⟩ := hR
 have hle := Zhy g _ hD
 refine ⟨b, 0, cs, rfl, hc _ _ s _ (kV.mono hle hk) ?_, fun i v hv => ⟨.inr (.inl rfl), ?_⟩⟩
 · rcases hl with ⟨h1, A, h2⟩ | ⟨c, cap, cur, k1, k2, k3, k4, k5, k6, k7⟩
   · rw [h1, h2]; exact Kd.sl_V.2 ⟨A, 0, rfl, Nat.le_refl _, by simp, .inl rfl⟩
   · rw [k1]
     refine Kd.sl_V.2 ⟨_, cap, rfl, k4, by simp only [maxLen] at k5; omega, .inr ⟨c, 0, rfl, fun i x hx => ⟨_, dk.mono hle (k7 i x hx), fun n u hn => ⟨.inr (.inr k2), ?_⟩⟩⟩⟩
     simp only [seg, List.getElem?_take, List.getElem?_drop] at hn
     split at hn
     · show g.w.cell? _ = _
       simp only [World.cell?, k3]
       simpa using hn
     · cases hn
 · show g.w.cell? _ = _
   simp only [World.cell?, hh, Nat.zero_add]
   simpa using hv
theorem Zhf {x0 : α} {f : FuncId} {A : List Pd} (hc : Zim kV raw lst dk k) (hok : FnL P f (k.ptr x0 :: A) q) (hA : Free A) : FnM P f (obS kV raw lst dk e) x0 x0 A q := by
 intro g b B args hR hbl hbp hB hargs
 have hD : ∀ c, (c = b ∨ B c) → c < g.w.heap.size := fun c h => h.elim (fun h => h ▸ hbl) (fun h => (hB c h).1)
 have hn : ∀ c, (c = b ∨ B c) → ∀ o, ¬ g.pr c o := fun c h => h.elim (fun h => h ▸ hbp) (fun h => (hB c h).2.2)
 refine Calls.mono (hok (g.lend _ hD) _ (Zc1 (Ziq hc hR hD) ⟨hargs.1, fun i qi u h1 h2 => Pd.le (hA.at h1) (Zhy g _ hD) rfl rfl rfl (hargs.2 i qi u h1 h2)⟩)) ?_
 rintro en w' ⟨g', v, rfl, rfl, hs, hq⟩
 obtain ⟨g2, e1, e2, hs2⟩ := Zh6 hn hs
 refine ⟨g2, v, B, rfl, e1.symm, ⟨hs2.le, hs2.os, hs2.tape, hs2.output, fun c hc' _ => ⟨(hs2.same c hc' (fun h => by cases h)).1, (hs2.same c hc' (fun h => by cases h)).2.1⟩⟩, (obS kV raw lst dk e).st hR hs2.le (fun c h => (hs2.same c (hD c h) (fun h => by cases h)).1), fun o => by rw [(hs2.same b hbl (fun h => by cases h)).2.1]; exact hbp o, fun c h => ⟨.inl h, Nat.lt_of_lt_of_le (hB c h).1 hs2.le.size, fun o => by rw [(hs2.same c (hB c h).1 (fun h => by cases h)).2.1]; exact (hB c h).2.2 o⟩, hq g2 e1 (fun b' o hb' hp => (e2 b' o).2 ⟨hp, fun h => by have := hD b' h; have hb' : g.w.heap.size ≤ b' := hb'; omega⟩)⟩
theorem Zi3 {f : FuncId} {x0 : α} {b0 : Nat} {xs : List Operand} {A : List Pd} {ty : Array TypeId} (hc : Zim kV raw lst dk k) (he : Zk P f) (hok : FnL P f (k.ptr x0 :: A) q) (hop : o.op = .call { callee := .value (.func f), args := (x :: xs).toArray, argTypes := ty }) (hd : o.dst = some d)
   (hx : Opd uses x (Zdz kV raw lst dk e b0 x0)) (hA : Free A) (hargs : OpdL uses xs A) : OB P N o uses [(d, q)] [] := by
 intro a g K Q hN hdN hu hK
 have hr : (execOp a.eval o).run P g.w = .ok (.enter f (a.eval x :: xs.map a.eval).toArray) g.w := by
   simp [execOp, hop, resolve, Zgz, Deferred.ofValue, invoke, Zdr he]
 unfold Oper.wp
 rw [hr]
 show Calls P f _ g.w _
 obtain ⟨s, ⟨b, cs, t, hv, ⟨m1, m2, m3, m4, m5, m6⟩, _⟩, hl⟩ := hx a g hu
 obtain ⟨B, hR, hB⟩ : ∃ B : Nat → Prop, (obS kV raw lst dk e).R g b B x0 ∧ ∀ c, B c → c < g.w.heap.size ∧ ∀ o, ¬ g.pr c o := by
   rcases hl with h | ⟨c, cap, cur, h1, hO⟩
   · exact ⟨fun _ => False, ⟨s, cs, t, m4, m5, .inl h⟩, fun c h => h.elim⟩
   · refine ⟨fun c' => c' = c, ⟨s, cs, t, m4, m5, .inr ⟨c, cap, cur, h1, rfl, hO.heap, by simpa using hO.len, hO.max, hO.sz, fun i x hx => hO.known i x (by rw [List.getElem?_map, hx]; rfl)⟩⟩, fun c' h => ?_⟩
     subst h
     exact ⟨hO.lt, hO.npr⟩
 have hD : ∀ c, (c = b ∨ B c) → c < g.w.heap.size := fun c h => h.elim (fun h => h ▸ m1) (fun h => (hB c h).1)
 have hn : ∀ c, (c = b ∨ B c) → ∀ o, ¬ g.pr c o := fun c h => h.elim (fun h => h ▸ m6) (fun h => (hB c h).2)
 refine Calls.mono (hok (g.lend _ hD) _ (Zc1 (by rw [hv]; exact Ziq hc hR hD) ((hargs.ok hu).le hA (Zhy g _ hD) rfl rfl rfl))) ?_
 rintro en w' ⟨g', v, rfl, rfl, hs, hq⟩
 obtain ⟨g2, e1, e2, hs2⟩ := Zh6 hn hs
 rw [← e1]
 refine hK v g2 hs2 fun e he => ?_
 rw [List.mem_singleton.1 he, hd, Zbv v (by rw [hN]; exact hdN d hd)]
 exact hq g2 e1 (fun b' o hb' hp => (e2 b' o).2 ⟨hp, fun h => by have := hD b' h; have hb' : g.w.heap.size ≤ b' := hb'; omega⟩)
def pST (kV : Kd γ) (raw : α → SlV → γ) (lst : α → List β) (dk : Kd β) (e : TypeId) (b : Nat) (x : α) : Pd := pAt (.pointer (some ⟨b, 0, none⟩)) (Zdz kV raw lst dk e b x)
abbrev pSU (kV : Kd γ) (raw : α → SlV → γ) (b : Nat) (x : α) : Pd := Zd1 (some b) kV raw hpT 0 x
theorem Zgm {b : Nat} {xv : α} {g : G} {v w : Value} (h : (pSU kV raw b xv).p g v) (h2 : (pST kV raw lst dk e b xv).p g w) : (Zdz kV raw lst dk e b xv).p g v := by
 obtain ⟨s, ⟨b', cs, t, e1, hm, hc⟩, _⟩ := h
 obtain rfl := hc _ rfl
 rw [e1]; exact h2
theorem Opd.joinS {b : Nat} {xv : α} (h : Opd uses x (pSU kV raw b xv)) (h2 : Opd uses y (pST kV raw lst dk e b xv)) : Opd uses x (Zdz kV raw lst dk e b xv) := fun a g hh => Zgm (h a g hh) (h2 a g hh)
theorem Zi7 {b : Nat} {xv : α} {g : G} {v w : Value} (h : (Zdz kV raw lst dk e b xv).p g v) : (pST kV raw lst dk e b xv).p g w := by
 have h0 := h
 obtain ⟨s, ⟨b', cs, t, e1, hm, hc⟩, _⟩ := h
 obtain rfl := hc _ rfl
 rw [e1] at h0; exact h0
theorem Zkc {b : Nat} {xv : α} {a : Act} {g : G} {L : Zn} (h : St N ((0, Zdz kV raw lst dk e b xv) :: L) a g) : St N ((0, pSU kV raw b xv) :: (L ++ [(1002, pST kV raw lst dk e b xv)])) a g := ⟨h.size, h.df, fun en he => by
 have h0 := h.h (0, Zdz kV raw lst dk e b xv) (List.mem_cons_self ..)
 rcases List.mem_cons.1 he with rfl | he
 · exact Zmh h0
 · rcases List.mem_append.1 he with he | he
   · exact h.h en (List.mem_cons_of_mem _ he)
   · rw [List.mem_singleton.1 he]; exact Zi7 h0⟩
theorem OB.selfS {b s m : Nat} {xv : α} (h : OB P N o uses [(s, Zdz kV raw lst dk e b xv)] S) : OB P N o uses [(s, pSU kV raw b xv), (m, pST kV raw lst dk e b xv)] S := h.weak fun g a h en he => by
 have h0 := h (s, Zdz kV raw lst dk e b xv) (List.mem_singleton.2 rfl)
 rcases List.mem_cons.1 he with rfl | he
 · exact Zmh h0
 · rw [List.mem_singleton.1 he]; exact Zi7 h0
theorem Zmq {ik : IntKind} : ∀ (g g' : G) (x : Int) (cs : List Value), (Kd.int ik).K g x cs → (Kd.int ik).K g' x cs := fun _ _ _ _ h => h
end
abbrev kInt : Kd Int := Kd.int .i64
structure Z1 where
 ahead : List (Int × List Int)
 left : List Int
 deriving Inhabited
def Zlj : List (Kd.FK Z1) := [⟨_, (Kd.mapF kInt.sl), 0, fun x : Z1 => x.ahead⟩,
 ⟨_, kInt.sl, 1, fun x : Z1 => x.left⟩]
def Zdv : Kd Z1 := Kd.struct 2 Zlj (by rfl)
structure Zf9 where
 ahead : List (Int × List Int)
 left : SlV
def Zll : List (Kd.FK Zf9) := [⟨_, (Kd.mapF kInt.sl), 0, fun x : Zf9 => x.ahead⟩,
 ⟨_, Kd.raw, 1, fun x : Zf9 => x.left⟩]
def Zc4 : Kd Zf9 := Kd.struct 2 Zll (by rfl)
def Zda : Z1 → SlV → Zf9 := fun x s => ⟨x.ahead, s⟩
def Zdw : Z1 → List Int := fun x => x.left
theorem Zfm : Zim Zc4 Zda Zdw kInt Zdv := fun g x s cs h hl => ⟨h.1, List.forall_mem_cons.2 ⟨h.2 _ (List.mem_of_getElem? (i := 0) rfl), List.forall_mem_cons.2 ⟨Znc (h.2 _ (List.mem_of_getElem? (i := 1) rfl)) hl, fun _ h => by cases h⟩⟩⟩
theorem Zng (x : Z1) (l : List Int) : ∀ (g : G) (cs : List Value) (s0 s1 : SlV) (ys : List Value), Zc4.K g (Zda x s0) cs → Kd.raw.K g s1 ys → 1 + ys.length ≤ cs.length ∧ Zc4.K g (Zda { x with left := l } s1) (Zw cs 1 ys) := fun g cs s0 s1 ys hk hy => by
 have hc : cs.length = 2 := hk.1
 have hl : ys.length = 1 := Kd.raw.len hy
 exact ⟨by omega, (Zei (by omega)).trans hc, List.forall_mem_cons.2 ⟨by show (Kd.mapF kInt.sl).K g x.ahead (seg (Zw cs 1 ys) 0 1); rw [Zef (by omega) (by omega)]; exact hk.2 _ (List.mem_of_getElem? (i := 0) rfl), List.forall_mem_cons.2 ⟨by show Kd.raw.K g s1 (seg (Zw cs 1 ys) 1 1); rw [Zhq (by omega) hl]; exact hy, fun _ h => by cases h⟩⟩⟩
structure Zbn where
 ahead : MapB Int
 left : List Int
structure Zfn where
 m : Nat
 l : SlV
def Zlk : List (Kd.FK Zfn) := [⟨_, Kd.rawM, 0, fun x : Zfn => x.m⟩,
 ⟨_, Kd.raw, 1, fun x : Zfn => x.l⟩]
def Zc9 : Kd Zfn := Kd.struct 2 Zlk (by rfl)
def rawW : Zbn → Nat × SlV → Zfn := fun _ s => ⟨s.1, s.2⟩
section
variable {P : Program} {N : Nat} {o : Oper} {uses outs : Zn} {d : Nat} {x y z : Operand} {t e s mt kt et jm jr jl j : Nat} {told : Bool}
def hpW (ee jm jr : Nat) (told : Bool) (jl : Nat) (b : Zbn) : Hp (Nat × SlV) := ⟨fun g s => (pMap kInt ee jm jr told b.ahead).p g (.map (some s.1)) ∧ (pArr kInt ee jl b.left).p g (slv s.2), (pMap kInt ee jm jr told b.ahead).fp ++ [jl + 1], fun st hd h => ⟨(pMap kInt ee jm jr told b.ahead).st st (fun j hj => hd j (List.mem_append_left _ hj)) h.1, (pArr kInt ee jl b.left).st st (fun j hj => hd j (List.mem_append_right _ hj)) h.2⟩⟩
abbrev pLB (ee jm jr : Nat) (told : Bool) (jl j : Nat) (b : Zbn) : Pd := Zd1 none Zc9 rawW (hpW ee jm jr told jl b) j b
theorem Zk9 {ee : Nat} {b : Zbn} {g : G} {v : Value} (h : (pLB ee jm jr told jl j b).p g v) : (pLB ee jm jr false jl j b).p g v := Zl6 (R := hpW ee jm jr told jl b) (R' := hpW ee jm jr false jl b) (fun g s h => ⟨Zjf h.1, h.2⟩) h
def pLS (ee jm jr : Nat) (told : Bool) (jl : Nat) (b : Zbn) : Pd := ⟨fun g v => ∃ s, (Zc9.pd (rawW b s)).p g v ∧ (hpW ee jm jr told jl b).p g s, (hpW ee jm jr told jl b).fp, fun st hd ⟨s, h1, h2⟩ => ⟨s, (Zc9.pd (rawW b s)).st st (fun _ h => by cases h) h1, (hpW ee jm jr told jl b).st st hd h2⟩⟩
theorem Zne {ee : Nat} {b : Zbn} : ∀ k ∈ (hpW ee jm jr told jl b).fp, k = jm + 1 ∨ k = jr + 1 ∨ k = jl + 1 := fun k hk => by
 simp only [hpW, pMap, List.mem_append, List.mem_singleton] at hk
 rcases hk with hk | hk
 · split at hk <;> simp at hk
   · exact hk.imp id .inl
   · exact .inl hk
 · exact .inr (.inr hk)
theorem Zlw {ee : Nat} {b : Zbn} (hj : jm ≠ j ∧ jr ≠ j ∧ jl ≠ j) (hop : o.op = .box t x) (hd : o.dst = some d) (hx : Opd uses x (pLS ee jm jr told jl b)) : OB P N o uses [(d, pLB ee jm jr told jl j b)] [j + 1] :=
 Zdo hd fun a g hh => by
   obtain ⟨s0, ⟨cs, hk, hv⟩, h1⟩ := hx a g hh
   refine ⟨.pointer (some ⟨g.w.heap.size, 0, none⟩), g.push cs.toArray t (fun _ => False) (j + 1), ?_, Zd4 .., s0, ⟨g.w.heap.size, cs, t, rfl, Zh3 (by omega) hk, fun _ h => by cases h⟩, (hpW ee jm jr told jl b).st (Zd4 ..) (fun k hk hS => ?_) h1⟩
   · have : (a.eval x).cells = cs.toArray := by rw [hv]; exact Kd.cells_mkV hk
     simp [execOp, hop, Instr.box, newVar, newRow, this, Zch]
   · have hS := List.mem_singleton.1 hS
     rcases Zne k hk with h | h | h <;> omega
theorem Zj9 {F : Array Field} {ee : Nat} {mb : MapB Int} {l : List Int} (hu : P.underlying t = some (.struct F)) (hz : (P.info? t).bind (·.zero) = some (.agg #[.map none, .slice none 0 0])) (hp : F.toList.map (fun f => (P.info? f.type).map fun i => (f.offset, i.size)) = [(0, 1), (1, 1)].map some) (hop : o.op = .build t #[(0, x), (1, y)]) (hd : o.dst = some d) (hx : Opd uses x (pMap kInt ee jm jr told mb)) (hy : Opd uses y (pArr kInt ee jl l)) : OB P N o uses [(d, pLS ee jm jr told jl ⟨mb, l⟩)] [] := by
 refine Zhd hop hd fun a g hh => ?_
 obtain ⟨s, hs⟩ := Zjs (hy a g hh)
 have hm := hx a g hh
 obtain ⟨b, _, _, hb, _⟩ := hx a g hh
 refine ⟨.agg #[.map (some b), slv s], ?_, (b, s), ⟨[.map (some b), slv s], ⟨rfl, List.forall_mem_cons.2 ⟨rfl, List.forall_mem_cons.2 ⟨rfl, fun _ h => by cases h⟩⟩⟩, rfl⟩, by show (pMap kInt ee jm jr told mb).p g (.map (some b)); rw [← hb]; exact hm, by show (pArr kInt ee jl l).p g (slv s); rw [← hs]; exact hy a g hh⟩
 simp only [List.map_toArray, List.map_cons, List.map_nil, hb, hs]
 exact Zgy hu hz hp rfl g.w
theorem Zm4 {s : Nat} {g : G} {v : Value} : (Kd.rawM.pd s).p g v ↔ v = .map (some s) := Kd.scalar_V
def pPM (j off : Nat) (q : Pd) : Pd := ⟨fun g v => ∃ w s, (Zd3 Zc9 j w off Kd.rawM s).p g v ∧ q.p g (.map (some s)), (j + 1) :: q.fp, fun st hd ⟨w, s, h1, h2⟩ => ⟨w, s, (Zd3 Zc9 j w off Kd.rawM s).st st (fun k hk => hd k (List.mem_cons.2 (.inl (List.mem_singleton.1 hk)))) h1, q.st st (fun k hk => hd k (List.mem_cons_of_mem _ hk)) h2⟩⟩
theorem Zh5 {ee i : Nat} {b : Zbn} {pt : Nat} (hF : Fld P s i Zc9 Kd.rawM (fun x : Zfn => x.m)) (ho : (match P.underlying s with | some (.struct F) => (F[i]?).map (·.offset) | _ => none) = some 0) (hop : o.op = .fieldAddr s (.tmp pt) i) (hd : o.dst = some d) (hx : Opd uses (.tmp pt) (pLB ee jm jr told jl j b)) : OB P N o uses [(d, pPM j 0 (pMap kInt ee jm jr told b.ahead))] [] :=
 OB.at fun a g hh => by
   obtain ⟨s0, h0, h2, _⟩ := hx a g hh
   refine ⟨[(N, pAt (.map (some s0.1)) (pMap kInt ee jm jr told b.ahead)), (pt, Zcz none Zc9 j (rawW b s0))], fun en he => ?_, ?_⟩
   · rcases List.mem_cons.1 he with rfl | he
     · exact h2
     · rw [List.mem_singleton.1 he]; exact h0
   · intro a' g' K Q hN hdN hu' hK
     have hdl := hdN d hd
     refine (OB.frame (n := N) (q := pAt (.map (some s0.1)) (pMap kInt ee jm jr told b.ahead)) (Zge (c := none) hF ho hop hd .t0) (fun _ _ h => by cases h) (by rw [hd]; intro h; exact absurd (Option.some.inj h) (Nat.ne_of_lt hdl))).weak (fun g2 a2 h en he => ?_) a' g' K Q hN hdN hu' hK
     rw [List.mem_singleton.1 he]
     have := h (d, Zd3 Zc9 j (rawW b s0) 0 Kd.rawM (rawW b s0).m) (by simp)
     exact ⟨_, s0.1, this, h (N, pAt (.map (some s0.1)) (pMap kInt ee jm jr told b.ahead)) (by simp)⟩
theorem Zie {q : Pd} {pt : Nat} (hT : Ty P t Kd.rawM) (hop : o.op = .load t (.tmp pt)) (hd : o.dst = some d) (hx : Opd uses (.tmp pt) (pPM j 0 q)) : OB P N o uses [(d, q)] [] :=
 OB.at fun a g hh => by
   obtain ⟨w, s0, h0, h2⟩ := hx a g hh
   refine ⟨[(N, pAt (.map (some s0)) q), (pt, Zd3 Zc9 j w 0 Kd.rawM s0)], fun en he => ?_, ?_⟩
   · rcases List.mem_cons.1 he with rfl | he
     · exact h2
     · rw [List.mem_singleton.1 he]; exact h0
   · intro a' g' K Q hN hdN hu' hK
     have hdl := hdN d hd
     refine (OB.frame (n := N) (q := pAt (.map (some s0)) q) (Zi0 hT hop hd .t0) (fun _ _ h => by cases h) (by rw [hd]; intro h; exact absurd (Option.some.inj h) (Nat.ne_of_lt hdl))).weak (fun g2 a2 h en he => ?_) a' g' K Q hN hdN hu' hK
     rw [List.mem_singleton.1 he]
     have h3 : Act.at a2 d = .map (some s0) := Zm4.1 (h (d, Kd.rawM.pd s0) (by simp))
     show q.p g2 (Act.at a2 d)
     rw [h3]
     exact h (N, pAt (.map (some s0)) q) (by simp)
theorem Zj1 {ee : Nat} {b : Zbn} {n : Int} {xs : List Int} (hj : jm ≠ j ∧ jm ≠ jr ∧ jm ≠ jl) (hm : P.underlying mt = some (.map kt et)) (hk : P.underlying kt = some (.int .i64)) (hr : (b.ahead.row n).isSome = true) (hop : o.op = .mapUpdate mt x y z) (hd : o.dst = none) (hs : Opd uses (.tmp s) (pLB ee jm jr false jl j b)) (hx : Opd uses x (pMap kInt ee jm jr false b.ahead)) (hy : Opd uses y (pInt .i64 n)) (hz : Opd uses z (pRow kInt ee jr xs)) : OB P N o uses [(s, pLB ee jm jr true jl j ⟨b.ahead.put n xs, b.left⟩)] [jm + 1] :=
 Zg0 hd fun a g hh => by
   obtain ⟨s0, h0, h2, h3⟩ := hs a g hh
   have hmv := hx a g hh
   have hn := Zck.1 (hy a g hh)
   obtain ⟨g', hr', hst, hp⟩ := Zkk (xs := xs) hm hk hr hmv (hz a g hh) (fun h => hj.2.1 h.symm)
   have heq : a.eval x = .map (some s0.1) := by
     obtain ⟨b1, _, _, e1, l1, o1, _⟩ := hmv
     obtain ⟨b2, _, _, e2, l2, o2, u2, _⟩ := h2
     rw [e1, e2, u2 b1 l1 o1]
   refine ⟨g', by simp [execOp, hop, hn, hr'], hst, fun e he => ?_⟩
   rw [List.mem_singleton.1 he]
   refine ⟨s0, (Zcz none Zc9 j (rawW b s0)).st hst (fun k hk hS => ?_) h0, by show (pMap kInt ee jm jr true (b.ahead.put n xs)).p g' (.map (some s0.1)); rw [← heq]; exact hp, (pArr kInt ee jl b.left).st hst (fun k hk hS => ?_) h3⟩
   · have h1 := List.mem_singleton.1 hk
     have h2 := List.mem_singleton.1 hS
     omega
   · have h1 := List.mem_singleton.1 hk
     have h2 := List.mem_singleton.1 hS
     omega
theorem Zk7 {ee : Nat} {mb : MapB Int} {g : G} {es : List MapEntry} (h : Zgb kInt ee jr told mb g es) : MRel kInt.sl g mb.all es := by
 unfold Zgb at h
 unfold MapB.all
 cases hl : mb.last with
 | none => simp only [hl] at h; simpa using h
 | some e =>
   simp only [hl] at h
   obtain ⟨es0, x, rfl, h1, h2, h3, _⟩ := h
   exact MRel.app h2 h3 h1
def pMT (jm jr : Nat) (b : MapB Int) : Pd := ⟨fun g _ => ∃ u, (pMap kInt 3 jm jr true b).p g u, [jm + 1, jr + 1], fun st hd ⟨u, h⟩ => ⟨u, (pMap kInt 3 jm jr true b).st st hd h⟩⟩
theorem Zls {b : MapB Int} {g : G} {v w : Value} (h : (pMap kInt 3 jm jr false b).p g v) (h2 : (pMT jm jr b).p g w) : (pMap kInt 3 jm jr true b).p g v := by
 obtain ⟨b1, _, _, e1, l1, o1, _⟩ := h
 obtain ⟨u, hu⟩ := h2
 have hu' := hu
 obtain ⟨b2, _, _, e2, l2, o2, u2, _⟩ := hu'
 rw [e1, u2 b1 l1 o1, ← e2]; exact hu
theorem Opd.joinM {b : MapB Int} (h : Opd uses x (pMap kInt 3 jm jr false b)) (h2 : Opd uses y (pMT jm jr b)) : Opd uses x (pMap kInt 3 jm jr true b) := fun a g hh => Zls (h a g hh) (h2 a g hh)
theorem OB.lbT {S : List Nat} {m : Nat} {b : Zbn} (h : OB P N o uses [(s, pLB 3 jm jr true jl j b)] S) : OB P N o uses [(s, pLB 3 jm jr false jl j b), (m, pMT jm jr b.ahead)] S := h.weak fun g a h en he => by
 have h0 := h (s, pLB 3 jm jr true jl j b) (List.mem_singleton.2 rfl)
 rcases List.mem_cons.1 he with rfl | he
 · exact Zk9 h0
 · rw [List.mem_singleton.1 he]
   obtain ⟨s0, _, h2, _⟩ := h0
   exact ⟨_, h2⟩
theorem Zk1 {ee : Nat} {b : Zbn} (hj : jm ≠ j ∧ jm ≠ jl) (hop : o.op = .move x ∨ o.op = .assign x) (hd : o.dst = some d) (hx : Opd uses x (pLB ee jm jr told jl j b)) : OB P N o uses [(d, pBxS Zc4 Zda (hpL (pArr kInt ee jl (Zdw ⟨b.ahead.all, b.left⟩))) j ⟨b.ahead.all, b.left⟩)] [jm + 1] :=
 Zdo hd fun a g hh => by
   have hr : (execOp a.eval o).run P g.w = .ok (.value (a.eval x)) g.w := by rcases hop with h | h <;> simp [execOp, h]
   obtain ⟨s0, h0, ⟨bm, es, clock, em, m1, m2, m3, m4, m5, m6⟩, h3⟩ := hx a g hh
   have em : s0.1 = bm := by injection em with em; exact Option.some.inj em
   have hst := Zle (j := jm + 1) m1 m2
   obtain ⟨b1, cs, t', hv, hm, _⟩ := (Zcz none Zc9 j (rawW b s0)).st hst (fun k hk hS => by
     have h1 := List.mem_singleton.1 hk
     have h2 := List.mem_singleton.1 hS
     omega) h0
   obtain ⟨n1, n2, n3, n4, n5, n6⟩ := hm
   refine ⟨a.eval x, g.give bm m1, hr, hst, s0.2, ⟨b1, cs, t', hv, ⟨n1, n2, n3, n4, ⟨n5.1, List.forall_mem_cons.2 ⟨?_, List.forall_mem_cons.2 ⟨n5.2 _ (List.mem_of_getElem? (i := 1) rfl), fun _ h => by cases h⟩⟩⟩, n6⟩, fun _ h => by cases h⟩, (pArr kInt ee jl b.left).st hst (fun k hk hS => by
     have h1 := List.mem_singleton.1 hk
     have h2 := List.mem_singleton.1 hS
     omega) h3⟩
   have hc : seg cs 0 1 = [.map (some s0.1)] := n5.2 _ (List.mem_of_getElem? (i := 0) rfl)
   show (Kd.mapF kInt.sl).K _ b.ahead.all (seg cs 0 1)
   rw [hc, em]
   exact ⟨bm, es, clock, rfl, m1, m4, fun _ => .inr rfl, (Zk7 m6).mono (Zjw g bm m1)⟩
theorem Znz {fn : Func} {r : ResultVar} {v : Value} {xv : Z1} {a : Act} {g g0 : G} {L : Zn} (hr : fn.results = #[r]) (h : St N L a g) (hb : Base g0 g) (h1 : Ze7 P a g r v) (hj : j ≠ jl) (hq : (pBxS Zc4 Zda (hpL (pArr kInt e jl (Zdw xv))) j xv).p g v) : bodyPost P fn (FinP (Zmi Zc4 Zda Zdw kInt e xv g0)) .ret a g.w := endP hr h h1 ⟨hb, j, jl, hj, hq⟩
end
structure Zdh where
 Score : Nat
 Name : ByteArray
 deriving Inhabited
structure Zy where
 Kind : Int
 Num : Int
 Low : Int
 High : Int
 Real : Nat
 Cap : Int
 Text : ByteArray
 List : List Zdh
 deriving Inhabited
structure Zm where
 Kind : Int
 Key : ByteArray
 N : Int
 X : Nat
 S : ByteArray
 Make : Zy
 Must : Bool
 deriving Inhabited
structure Ze where
 Acts : List Zm
 deriving Inhabited
def Zc0 (a0 : List Int) : Option (List Int) := if a0.length * 8 ≤ 140737488355328 then some a0 else none
def Ze4 (a0 : Int) : Option (Bool) := (some (((((a0 == (3 : Int)) || (a0 == (4 : Int))) || (a0 == (9 : Int))) || (a0 == (12 : Int))) || (a0 == (20 : Int))))
def Z0 (a0 : List ByteArray) (a1 : ByteArray) : Nat → (Int) → Option ((Int) ⊕ (Unit))
 | 0, _ => none
 | n + 1, x1 => (if (decide (x1 < (a0.length : Int))) then ((idx a0 x1).bind fun e3 => (if (sEq a1 e3) then (some (.inl x1)) else ((Z0 a0 a1 n) (IntKind.i64.wrap (x1 + (1 : Int)))))) else (some (.inr ())))
def Zb3 (a0 : List ByteArray) (a1 : ByteArray) : Option (Int) := ((Z0 a0 a1 (Int.toNat ((a0.length : Int) - (0 : Int)) + 1) (0 : Int)).bind fun z6 => match z6 with | .inl r => some r | .inr () => (some (-1 : Int)))
def Zbl (a0 : List ByteArray) (a1 : ByteArray) : Option (Bool) := ((Zb3 a0 a1).bind fun r1 => (some (decide ((0 : Int) ≤ r1))))
def Zr (a0 : List Zm) (φ1 : Zm → Option Bool) : Nat → (Int) → Option ((Int) ⊕ (Unit))
 | 0, _ => none
 | n + 1, x1 => (if (decide (x1 < (a0.length : Int))) then ((idx a0 x1).bind fun e3 => ((φ1 e3).bind fun r5 => (if r5 then (some (.inl x1)) else ((Zr a0 φ1 n) (IntKind.i64.wrap (x1 + (1 : Int))))))) else (some (.inr ())))
def Zbu (a0 : List Zm) (φ1 : Zm → Option Bool) : Option (Int) := ((Zr a0 φ1 (Int.toNat ((a0.length : Int) - (0 : Int)) + 1) (0 : Int)).bind fun z8 => match z8 with | .inl r => some r | .inr () => (some (-1 : Int)))
def Zbk (a0 : List Zm) (φ1 : Zm → Option Bool) : Option (Bool) := ((Zbu a0 φ1).bind fun r1 => (some (decide ((0 : Int) ≤ r1))))
def Zdt (a0 : Zm) : Option (Bool) := (some ((a0.Kind == (1 : Int)) || (a0.Kind == (2 : Int))))
def Zdx (a0 : Ze) : Option (Bool) := ((Zbk a0.Acts (fun y0 => Zdt y0)).bind fun r1 => (some r1))
def Zcd (a1 : Ze) (a2 : List ByteArray) (e3 : Zm) : Nat → (Int) → Option ((Bool) ⊕ (Unit))
 | 0, _ => none
 | n + 1, x5 => (if (decide (x5 < (a1.Acts.length : Int))) then ((idx a1.Acts x5).bind fun e7 => ((gd (sEq e3.Key e7.Key) (Ze4 e3.Kind)).bind fun r9 => ((gd ((sEq e3.Key e7.Key) && r9) (Ze4 e7.Kind)).bind fun r11 => ((gd ((sEq e3.Key e7.Key) && (!(r9 && r11))) (Zbl a2 e3.Key)).bind fun r13 => (if (((sEq e3.Key e7.Key) && (!(r9 && r11))) && (!r13)) then (some (.inl true)) else ((Zcd a1 a2 e3 n) (IntKind.i64.wrap (x5 + (1 : Int))))))))) else (some (.inr ())))
def Zcp (a0 : Ze) (a1 : Ze) (a2 : List ByteArray) : Nat → (Int) → Option ((Bool) ⊕ (Unit))
 | 0, _ => none
 | n + 1, x1 => (if (decide (x1 < (a0.Acts.length : Int))) then ((idx a0.Acts x1).bind fun e3 => ((Zcd a1 a2 e3 (Int.toNat ((a1.Acts.length : Int) - (0 : Int)) + 1) (0 : Int)).bind fun z16 => match z16 with | .inl r => some (.inl r) | .inr () => ((Zcp a0 a1 a2 n) (IntKind.i64.wrap (x1 + (1 : Int)))))) else (some (.inr ())))
def Zep (a0 : Ze) (a1 : Ze) (a2 : List ByteArray) : Option (Bool) := ((Zcp a0 a1 a2 (Int.toNat ((a0.Acts.length : Int) - (0 : Int)) + 1) (0 : Int)).bind fun z17 => match z17 with | .inl r => some r | .inr () => ((Zdx a0).bind fun r18 => ((gd r18 (Zdx a1)).bind fun r20 => (some (r18 && r20)))))
def Zex (x11 : Int) (kk : (Zbn) → (Int) → Option (Zbn)) (j25 : Zbn) : Option (Zbn) := (kk j25 (IntKind.i64.wrap (x11 + (1 : Int))))
def Zb9 (a0 : List Ze) (a2 : List ByteArray) (e6 : Int) (c8 : List Int) : Nat → (Zbn) → (Int) → Option (Zbn)
 | 0, _, _ => none
 | n + 1, x10, x11 => (if (decide (x11 < (c8.length : Int))) then ((idx c8 x11).bind fun e13 => ((idx a0 e13).bind fun e15 => ((idx a0 e6).bind fun e17 => ((Zep e15 e17 a2).bind fun r19 => (if r19 then ((x10.ahead.row e6).bind fun r22 => (if (r22.length + ([e13] : List Int).length) * 8 ≤ 140737488355328 then (Zex x11 (Zb9 a0 a2 e6 c8 n) (⟨x10.ahead.put e6 (r22 ++ ([e13] : List Int)), x10.left⟩ : Zbn)) else none)) else (Zex x11 (Zb9 a0 a2 e6 c8 n) x10)))))) else (some x10))
def Zc2 (a0 : List Ze) (a1 : List Int) (a2 : List ByteArray) : Nat → (Zbn) → (Int) → Option (Zbn)
 | 0, _, _ => none
 | n + 1, x3, x4 => (if (decide (x4 < (a1.length : Int))) then ((idx a1 x4).bind fun e6 => ((cut a1 (0 : Int) x4).bind fun c8 => ((Zb9 a0 a2 e6 c8 (Int.toNat ((c8.length : Int) - (0 : Int)) + 1) x3 (0 : Int)).bind fun z27 => match z27 with | y26 => ((Zc2 a0 a1 a2 n) y26 (IntKind.i64.wrap (x4 + (1 : Int))))))) else (some x3))
def Zek (a0 : List Ze) (a1 : List Int) (a2 : List ByteArray) : Option (Z1) := ((Zc0 a1).bind fun r1 => ((Zc2 a0 a1 a2 (Int.toNat ((a1.length : Int) - (0 : Int)) + 1) ({ ahead := (⟨[], none⟩ : MapB Int), left := r1 } : Zbn) (0 : Int)).bind fun z29 => match z29 with | y28 => (some ({ ahead := y28.ahead.all, left := y28.left } : Z1))))
def Zci (a0 : List Int) (a1 : List Int) : Nat → (Int) → Option ((Bool) ⊕ (Unit))
 | 0, _ => none
 | n + 1, x2 => (if (decide (x2 < (a0.length : Int))) then ((idx a0 x2).bind fun e4 => ((idx a1 x2).bind fun e6 => (if (e4 != e6) then (some (.inl false)) else ((Zci a0 a1 n) (IntKind.i64.wrap (x2 + (1 : Int))))))) else (some (.inr ())))
def Zej (a0 : List Int) (a1 : List Int) : Option (Bool) := (if ((a0.length : Int) != (a1.length : Int)) then (some false) else ((Zci a0 a1 (Int.toNat ((a0.length : Int) - (0 : Int)) + 1) (0 : Int)).bind fun z9 => match z9 with | .inl r => some r | .inr () => (some true)))
def Zba (a0 : List Int) (a1 : Int) : Nat → (Int) → Option ((Int) ⊕ (Unit))
 | 0, _ => none
 | n + 1, x1 => (if (decide (x1 < (a0.length : Int))) then ((idx a0 x1).bind fun e3 => (if (a1 == e3) then (some (.inl x1)) else ((Zba a0 a1 n) (IntKind.i64.wrap (x1 + (1 : Int)))))) else (some (.inr ())))
def Zcx (a0 : List Int) (a1 : Int) : Option (Int) := ((Zba a0 a1 (Int.toNat ((a0.length : Int) - (0 : Int)) + 1) (0 : Int)).bind fun z6 => match z6 with | .inl r => some r | .inr () => (some (-1 : Int)))
def Zbj (a0 : List Int) (a1 : Int) : Option (Bool) := ((Zcx a0 a1).bind fun r1 => (some (decide ((0 : Int) ≤ r1))))
def Zde (x5 : Int) (kk : (List Int) → (Int) → Option (List Int)) (j13 : List Int) : Option (List Int) := (kk j13 (IntKind.i64.wrap (x5 + (1 : Int))))
def Zbc (a0 : Z1) (a1 : Int) : Nat → (List Int) → (Int) → Option (List Int)
 | 0, _, _ => none
 | n + 1, x4, x5 => (if (decide (x5 < ((mget [] a0.ahead a1).length : Int))) then ((idx (mget [] a0.ahead a1) x5).bind fun e7 => ((Zbj a0.left e7).bind fun r9 => (if r9 then (if (x4.length + ([e7] : List Int).length) * 8 ≤ 140737488355328 then (Zde x5 (Zbc a0 a1 n) (x4 ++ ([e7] : List Int))) else none) else (Zde x5 (Zbc a0 a1 n) x4)))) else (some x4))
def Zb0 (a0 : Z1) (a1 : Int) : Option (List Int) := ((Zbj a0.left a1).bind fun r1 => (if (!r1) then (some ([] : List Int)) else ((Zbc a0 a1 (Int.toNat (((mget [] a0.ahead a1).length : Int) - (0 : Int)) + 1) ([] : List Int) (0 : Int)).bind fun z15 => match z15 with | y14 => (some y14))))
def Zbf (a0 : Z1) (a1 : Int) : Option (Bool) := ((Zbj a0.left a1).bind fun r1 => ((gd r1 (Zb0 a0 a1)).bind fun r3 => (some (r1 && ((r3.length : Int) == (0 : Int))))))
def Z4 (a0 : List Int) (φ1 : Int → Option Bool) : Nat → (Int) → Option ((Int) ⊕ (Unit))
 | 0, _ => none
 | n + 1, x1 => (if (decide (x1 < (a0.length : Int))) then ((idx a0 x1).bind fun e3 => ((φ1 e3).bind fun r5 => (if r5 then (some (.inl x1)) else ((Z4 a0 φ1 n) (IntKind.i64.wrap (x1 + (1 : Int))))))) else (some (.inr ())))
def Zcb (a0 : List Int) (φ1 : Int → Option Bool) : Option (Int) := ((Z4 a0 φ1 (Int.toNat ((a0.length : Int) - (0 : Int)) + 1) (0 : Int)).bind fun z8 => match z8 with | .inl r => some r | .inr () => (some (-1 : Int)))
def Zbe (x6 : Int) (kk : (List Int) → (Int) → (Int) → Option ((List Int) × Int)) (j15 : List Int) (j16 : Int) : Option ((List Int) × Int) := (kk j15 j16 (IntKind.i64.wrap (x6 + (1 : Int))))
def Zt (φ1 : Int → Option Bool) : Nat → (List Int) → (Int) → (Int) → Option ((List Int) × Int)
 | 0, _, _, _ => none
 | n + 1, x4, x5, x6 => (if (decide (x6 < (x4.length : Int))) then ((idx x4 x6).bind fun e8 => ((φ1 e8).bind fun r10 => (if (!r10) then ((idx x4 x5).bind fun e13 => (Zbe x6 (Zt φ1 n) (x4.set (Int.toNat x5) e8) (IntKind.i64.wrap (x5 + (1 : Int))))) else (Zbe x6 (Zt φ1 n) x4 x5)))) else (some (x4, x5)))
def Zbx (a0 : List Int) (φ1 : Int → Option Bool) : Option (List Int) := ((Zcb a0 φ1).bind fun r1 => (if (r1 == (-1 : Int)) then (some a0) else ((Zt φ1 (Int.toNat ((a0.length : Int) - (IntKind.i64.wrap (r1 + (1 : Int)))) + 1) a0 r1 (IntKind.i64.wrap (r1 + (1 : Int)))).bind fun z19 => match z19 with | (y17, y18) => (if (0 ≤ y18 ∧ y18 ≤ (y17.length : Int)) ∧ y17 ≠ [] then (if (0 ≤ y18 ∧ y18 ≤ ((y17.take (Int.toNat y18) ++ List.replicate (y17.length - Int.toNat y18) (0 : Int)).length : Int)) ∧ (y17.take (Int.toNat y18) ++ List.replicate (y17.length - Int.toNat y18) (0 : Int)) ≠ [] then (some ((y17.take (Int.toNat y18) ++ List.replicate (y17.length - Int.toNat y18) (0 : Int)).take (Int.toNat y18))) else none) else none))))
def Zby (a0 : Int) (a1 : Int) : Option (Bool) := (some (a0 == a1))
def Zds (a0 : Z1) (a1 : Int) : Option (Bool × Z1) := ((Zbf a0 a1).bind fun r1 => (if (!r1) then (some (false, a0)) else ((Zbx a0.left (fun y0 => Zby y0 a1)).bind fun r4 => (some (true, ({ a0 with left := r4 } : Z1))))))
def Zcm (a0 : Z1) (a1 : Int) : Option (Z1 × Bool) := (Zds a0 a1).bind fun r => some (r.2, r.1)
def Zc3 (a0 : Z1) : Option (Int) := (some (a0.left.length : Int))
def Zdg : Option (Bool) := ((Zek ([({ Acts := ([({ Kind := (7 : Int), Key := (⟨#[97]⟩ : ByteArray), N := (1 : Int), X := (0 : Nat), S := ByteArray.empty, Make := (default : Zy), Must := false } : Zm)] : List Zm) } : Ze), ({ Acts := ([({ Kind := (7 : Int), Key := (⟨#[97]⟩ : ByteArray), N := (1 : Int), X := (0 : Nat), S := ByteArray.empty, Make := (default : Zy), Must := false } : Zm)] : List Zm) } : Ze)] : List Ze) ([(0 : Int), (1 : Int)] : List Int) ([] : List ByteArray)).bind fun r1 => ((Zek ([({ Acts := ([({ Kind := (7 : Int), Key := (⟨#[97]⟩ : ByteArray), N := (1 : Int), X := (0 : Nat), S := ByteArray.empty, Make := (default : Zy), Must := false } : Zm)] : List Zm) } : Ze), ({ Acts := ([({ Kind := (7 : Int), Key := (⟨#[97]⟩ : ByteArray), N := (1 : Int), X := (0 : Nat), S := ByteArray.empty, Make := (default : Zy), Must := false } : Zm)] : List Zm) } : Ze)] : List Ze) ([(0 : Int), (1 : Int)] : List Int) ([(⟨#[97]⟩ : ByteArray)] : List ByteArray)).bind fun r3 => ((gd (!(false || false)) (Zc3 r1)).bind fun r5 => (if ((false || false) || (r5 != (2 : Int))) then (some false) else ((Zbf r1 (0 : Int)).bind fun r8 => ((gd r8 (Zbf r1 (1 : Int))).bind fun r10 => ((gd (r8 && (!r10)) (Zb0 r1 (1 : Int))).bind fun r12 => ((gd (r8 && (!r10)) (Zej r12 ([(0 : Int)] : List Int))).bind fun r14 => ((gd ((r8 && (!r10)) && r14) (Zbf r3 (1 : Int))).bind fun r16 => ((gd (((r8 && (!r10)) && r14) && r16) (Zcm r1 (1 : Int))).bind fun r18 => ((gd ((((r8 && (!r10)) && r14) && r16) && (!r18.2)) (Zcm (if (((r8 && (!r10)) && r14) && r16) = true then r18.1 else r1) (0 : Int))).bind fun r20 => ((gd (((((r8 && (!r10)) && r14) && r16) && (!r18.2)) && r20.2) (Zcm (if ((((r8 && (!r10)) && r14) && r16) && (!r18.2)) = true then r20.1 else (if (((r8 && (!r10)) && r14) && r16) = true then r18.1 else r1)) (1 : Int))).bind fun r22 => ((gd ((((((r8 && (!r10)) && r14) && r16) && (!r18.2)) && r20.2) && r22.2) (Zc3 (if (((((r8 && (!r10)) && r14) && r16) && (!r18.2)) && r20.2) = true then r22.1 else (if ((((r8 && (!r10)) && r14) && r16) && (!r18.2)) = true then r20.1 else (if (((r8 && (!r10)) && r14) && r16) = true then r18.1 else r1))))).bind fun r24 => ((gd (((((((r8 && (!r10)) && r14) && r16) && (!r18.2)) && r20.2) && r22.2) && (r24 == (0 : Int))) (Zb0 (if (((((r8 && (!r10)) && r14) && r16) && (!r18.2)) && r20.2) = true then r22.1 else (if ((((r8 && (!r10)) && r14) && r16) && (!r18.2)) = true then r20.1 else (if (((r8 && (!r10)) && r14) && r16) = true then r18.1 else r1))) (1 : Int))).bind fun r26 => (some ((((((((r8 && (!r10)) && r14) && r16) && (!r18.2)) && r20.2) && r22.2) && (r24 == (0 : Int))) && ((r26.length : Int) == (0 : Int))))))))))))))))))
def Zbq (a0 : Zy) : Nat → (Int) → Option ((Int) ⊕ (Unit))
 | 0, _ => none
 | n + 1, x2 => (if (decide (x2 < (a0.List.length : Int))) then ((idx a0.List x2).bind fun e4 => (if (decide ((100 : Int) < (e4.Name.size : Int))) then (some (.inl (1 : Int))) else ((Zbq a0 n) (IntKind.i64.wrap (x2 + (1 : Int)))))) else (some (.inr ())))
def Zdf (a0 : Zy) : Option (Int) := (if ((decide ((100 : Int) < (a0.List.length : Int))) || (decide ((1000 : Int) < (a0.Text.size : Int)))) then (some (1 : Int)) else ((Zbq a0 (Int.toNat ((a0.List.length : Int) - (0 : Int)) + 1) (0 : Int)).bind fun z7 => match z7 with | .inl r => some r | .inr () => (some (0 : Int))))
def Zcs (a0 : Zm) : Option (Int) := ((gd (!((decide ((200 : Int) < (a0.Key.size : Int))) || (decide ((1000 : Int) < (a0.S.size : Int))))) (Zdf a0.Make)).bind fun r1 => (if (((decide ((200 : Int) < (a0.Key.size : Int))) || (decide ((1000 : Int) < (a0.S.size : Int)))) || (decide ((0 : Int) < r1))) then (some (1 : Int)) else (some (0 : Int))))
def Zbr (a0 : Ze) : Nat → (Int) → Option ((Int) ⊕ (Unit))
 | 0, _ => none
 | n + 1, x2 => (if (decide (x2 < (a0.Acts.length : Int))) then ((idx a0.Acts x2).bind fun e4 => ((Zcs e4).bind fun r6 => (if (decide ((0 : Int) < r6)) then (some (.inl (1 : Int))) else ((Zbr a0 n) (IntKind.i64.wrap (x2 + (1 : Int))))))) else (some (.inr ())))
def Zct (a0 : Ze) : Option (Int) := (if (decide ((40 : Int) < (a0.Acts.length : Int))) then (some (1 : Int)) else ((Zbr a0 (Int.toNat ((a0.Acts.length : Int) - (0 : Int)) + 1) (0 : Int)).bind fun z9 => match z9 with | .inl r => some r | .inr () => (some (0 : Int))))
def Zbp (a0 : List Ze) : Nat → (Int) → Option ((Int) ⊕ (Unit))
 | 0, _ => none
 | n + 1, x2 => (if (decide (x2 < (a0.length : Int))) then ((idx a0 x2).bind fun e4 => ((Zct e4).bind fun r6 => (if (decide ((0 : Int) < r6)) then (some (.inl (1 : Int))) else ((Zbp a0 n) (IntKind.i64.wrap (x2 + (1 : Int))))))) else (some (.inr ())))
def Zdb (a0 : List Ze) : Option (Int) := (if (decide ((40 : Int) < (a0.length : Int))) then (some (1 : Int)) else ((Zbp a0 (Int.toNat ((a0.length : Int) - (0 : Int)) + 1) (0 : Int)).bind fun z9 => match z9 with | .inl r => some r | .inr () => (some (0 : Int))))
def Zc7 (x2 : Int) (kk : (List Int) → (Int) → Option (List Int)) (j8 : List Int) : Option (List Int) := (kk j8 (IntKind.i64.wrap (x2 + (1 : Int))))
def Z9 (a0 : List Ze) (a1 : List Bool) : Nat → (List Int) → (Int) → Option (List Int)
 | 0, _, _ => none
 | n + 1, x1, x2 => (if (decide (x2 < (a0.length : Int))) then ((gd (!(decide ((a1.length : Int) ≤ x2))) (idx a1 x2)).bind fun e4 => (if ((decide ((a1.length : Int) ≤ x2)) || (!e4)) then (if (x1.length + ([x2] : List Int).length) * 8 ≤ 140737488355328 then (Zc7 x2 (Z9 a0 a1 n) (x1 ++ ([x2] : List Int))) else none) else (Zc7 x2 (Z9 a0 a1 n) x1))) else (some x1))
def Zc5 (a0 : List Ze) (a1 : List Bool) : Option (List Int) := ((Z9 a0 a1 (Int.toNat ((a0.length : Int) - (0 : Int)) + 1) ([] : List Int) (0 : Int)).bind fun z10 => match z10 with | y9 => (some y9))
def Zbo (a0 : List ByteArray) (a1 : ByteArray) : Nat → (Int) → Option ((Bool) ⊕ (Unit))
 | 0, _ => none
 | n + 1, x1 => (if (decide (x1 < (a0.length : Int))) then ((idx a0 x1).bind fun e3 => (if (sEq e3 a1) then (some (.inl true)) else ((Zbo a0 a1 n) (IntKind.i64.wrap (x1 + (1 : Int)))))) else (some (.inr ())))
def Zdd (a0 : List ByteArray) (a1 : ByteArray) : Option (Bool) := ((Zbo a0 a1 (Int.toNat ((a0.length : Int) - (0 : Int)) + 1) (0 : Int)).bind fun z6 => match z6 with | .inl r => some r | .inr () => (some false))
def Zcw (a0 : Int) : Option (Bool) := (some (((((a0 == (3 : Int)) || (a0 == (4 : Int))) || (a0 == (9 : Int))) || (a0 == (12 : Int))) || (a0 == (20 : Int))))
def Zbh (a0 : Ze) : Nat → (Int) → Option ((Bool) ⊕ (Unit))
 | 0, _ => none
 | n + 1, x1 => (if (decide (x1 < (a0.Acts.length : Int))) then ((idx a0.Acts x1).bind fun e3 => ((gd (!(e3.Kind == (1 : Int))) (idx a0.Acts x1)).bind fun e5 => (if ((e3.Kind == (1 : Int)) || (e5.Kind == (2 : Int))) then (some (.inl true)) else ((Zbh a0 n) (IntKind.i64.wrap (x1 + (1 : Int))))))) else (some (.inr ())))
def Zb7 (a0 : Ze) : Option (Bool) := ((Zbh a0 (Int.toNat ((a0.Acts.length : Int) - (0 : Int)) + 1) (0 : Int)).bind fun z8 => match z8 with | .inl r => some r | .inr () => (some false))
def Zbg (a0 : Ze) (a1 : Ze) (a2 : List ByteArray) (x1 : Int) : Nat → (Int) → Option ((Bool) ⊕ (Unit))
 | 0, _ => none
 | n + 1, x3 => (if (decide (x3 < (a1.Acts.length : Int))) then ((idx a0.Acts x1).bind fun e5 => ((idx a1.Acts x3).bind fun e7 => ((gd (sEq e5.Key e7.Key) (Zdd a2 e5.Key)).bind fun r9 => ((gd ((sEq e5.Key e7.Key) && (!r9)) (Zcw e5.Kind)).bind fun r11 => ((gd (((sEq e5.Key e7.Key) && (!r9)) && (!(!r11))) (Zcw e7.Kind)).bind fun r13 => (if (((sEq e5.Key e7.Key) && (!r9)) && ((!r11) || (!r13))) then (some (.inl true)) else ((Zbg a0 a1 a2 x1 n) (IntKind.i64.wrap (x3 + (1 : Int)))))))))) else (some (.inr ())))
def Zbm (a0 : Ze) (a1 : Ze) (a2 : List ByteArray) : Nat → (Int) → Option ((Bool) ⊕ (Unit))
 | 0, _ => none
 | n + 1, x1 => (if (decide (x1 < (a0.Acts.length : Int))) then ((Zbg a0 a1 a2 x1 (Int.toNat ((a1.Acts.length : Int) - (0 : Int)) + 1) (0 : Int)).bind fun z16 => match z16 with | .inl r => some (.inl r) | .inr () => ((Zbm a0 a1 a2 n) (IntKind.i64.wrap (x1 + (1 : Int))))) else (some (.inr ())))
def Zcj (a0 : Ze) (a1 : Ze) (a2 : List ByteArray) : Option (Bool) := ((Zbm a0 a1 a2 (Int.toNat ((a0.Acts.length : Int) - (0 : Int)) + 1) (0 : Int)).bind fun z17 => match z17 with | .inl r => some r | .inr () => ((Zb7 a0).bind fun r18 => ((gd r18 (Zb7 a1)).bind fun r20 => (some (r18 && r20)))))
def Zu (a0 : List Ze) (a1 : List ByteArray) (r17 : Z1 × Bool) (x19 : Int) : Nat → (Int) → Option ((Bool) ⊕ (Unit))
 | 0, _ => none
 | n + 1, x21 => (if (decide (x21 < x19)) then ((Zbf r17.1 x19).bind fun r23 => ((gd r23 (Zbf r17.1 x21)).bind fun r25 => ((gd (r23 && r25) (idx a0 x21)).bind fun e27 => ((gd (r23 && r25) (idx a0 x19)).bind fun e29 => ((gd (r23 && r25) (Zcj e27 e29 a1)).bind fun r31 => (if ((r23 && r25) && r31) then (some (.inl false)) else ((Zu a0 a1 r17 x19 n) (IntKind.i64.wrap (x21 + (1 : Int)))))))))) else (some (.inr ())))
def Zv (a0 : List Ze) (a1 : List ByteArray) (r17 : Z1 × Bool) : Nat → (Int) → Option ((Bool) ⊕ (Unit))
 | 0, _ => none
 | n + 1, x19 => (if (decide (x19 < (a0.length : Int))) then ((Zu a0 a1 r17 x19 (Int.toNat (x19 - (0 : Int)) + 1) (0 : Int)).bind fun z34 => match z34 with | .inl r => some (.inl r) | .inr () => ((Zv a0 a1 r17 n) (IntKind.i64.wrap (x19 + (1 : Int))))) else (some (.inr ())))
def Z8 (a0 : List Ze) (a1 : List ByteArray) (a2 : List Int) : Nat → (Z1) → (Int) → Option ((Bool) ⊕ (Unit))
 | 0, _, _ => none
 | n + 1, x12, x13 => (if (decide (x13 < ((([(-1 : Int)] : List Int) ++ a2).length : Int))) then ((idx (([(-1 : Int)] : List Int) ++ a2) x13).bind fun e15 => ((Zcm x12 e15).bind fun r17 => ((Zv a0 a1 r17 (Int.toNat ((a0.length : Int) - (0 : Int)) + 1) (0 : Int)).bind fun z35 => match z35 with | .inl r => some (.inl r) | .inr () => ((Z8 a0 a1 a2 n) r17.1 (IntKind.i64.wrap (x13 + (1 : Int))))))) else (some (.inr ())))
def Zcu (a0 : List Ze) (a1 : List ByteArray) (a2 : List Int) : Option (Bool) := ((Zdg).bind fun r1 => (if (!r1) then (some false) else ((Zdb a0).bind fun r4 => (if (((decide ((0 : Int) < r4)) || (decide ((20 : Int) < (a1.length : Int)))) || (decide ((60 : Int) < (a2.length : Int)))) then (some true) else ((Zc5 a0 ([] : List Bool)).bind fun r7 => ((Zek a0 r7 a1).bind fun r9 => (if (([(-1 : Int)] : List Int).length + a2.length) * 8 ≤ 140737488355328 then ((Z8 a0 a1 a2 (Int.toNat (((([(-1 : Int)] : List Int) ++ a2).length : Int) - (0 : Int)) + 1) r9 (0 : Int)).bind fun z36 => match z36 with | .inl r => some r | .inr () => (some true)) else none)))))))
def Zfu (x : Zdh) : Prop := (x.Score < 2 ^ 64) ∧ (x.Name.size ≤ maxLen)
def Zgc (x : Zy) : Prop := ((IntKind.i64).min ≤ x.Kind ∧ x.Kind ≤ (IntKind.i64).max) ∧ ((IntKind.i64).min ≤ x.Num ∧ x.Num ≤ (IntKind.i64).max) ∧ ((IntKind.i64).min ≤ x.Low ∧ x.Low ≤ (IntKind.i64).max) ∧ ((IntKind.i64).min ≤ x.High ∧ x.High ≤ (IntKind.i64).max) ∧ (x.Real < 2 ^ 64) ∧ ((IntKind.i64).min ≤ x.Cap ∧ x.Cap ≤ (IntKind.i64).max) ∧ (x.Text.size ≤ maxLen) ∧ (x.List.length ≤ maxLen ∧ ∀ e0 ∈ x.List, (Zfu e0))
def Zf5 (x : Zm) : Prop := ((IntKind.i64).min ≤ x.Kind ∧ x.Kind ≤ (IntKind.i64).max) ∧ (x.Key.size ≤ maxLen) ∧ ((IntKind.i64).min ≤ x.N ∧ x.N ≤ (IntKind.i64).max) ∧ (x.X < 2 ^ 64) ∧ (x.S.size ≤ maxLen) ∧ (Zgc x.Make) ∧ True
def Zfv (x : Ze) : Prop := (x.Acts.length ≤ maxLen ∧ ∀ e0 ∈ x.Acts, (Zf5 e0))
end Go.CL
namespace Go.CL
open Go Go.RowKit Go.Proofs
theorem Zb : Try.prog.follows .mixedOrders = true := by kernel_rfl
def Zjb : List (Kd.FK Zdh) := [⟨_, Kd.flt, 0, fun x : Zdh => x.Score⟩,
 ⟨_, Kd.str, 1, fun x : Zdh => x.Name⟩]
def Zb4 : Kd Zdh := Kd.struct 2 Zjb (by rfl)
theorem Zjl : ∀ g, Zb4.K g (default : Zdh) [.float .f64 0, .string ByteArray.empty] := fun g => ⟨rfl, (List.forall_mem_cons.2 ⟨(rfl), (List.forall_mem_cons.2 ⟨(rfl), (fun _ h => by cases h)⟩)⟩)⟩
def Zii : List (Kd.FK Zy) := [⟨_, (Kd.int .i64), 0, fun x : Zy => x.Kind⟩,
 ⟨_, (Kd.int .i64), 1, fun x : Zy => x.Num⟩,
 ⟨_, (Kd.int .i64), 2, fun x : Zy => x.Low⟩,
 ⟨_, (Kd.int .i64), 3, fun x : Zy => x.High⟩,
 ⟨_, Kd.flt, 4, fun x : Zy => x.Real⟩,
 ⟨_, (Kd.int .i64), 5, fun x : Zy => x.Cap⟩,
 ⟨_, Kd.str, 6, fun x : Zy => x.Text⟩,
 ⟨_, Zb4.sl, 7, fun x : Zy => x.List⟩]
def Zca : Kd Zy := Kd.struct 8 Zii (by rfl)
theorem Zgf : ∀ g, Zca.K g (default : Zy) [.int .i64 0, .int .i64 0, .int .i64 0, .int .i64 0, .float .f64 0, .int .i64 0, .string ByteArray.empty, .slice none 0 0] := fun g => ⟨rfl, (List.forall_mem_cons.2 ⟨(rfl), (List.forall_mem_cons.2 ⟨(rfl), (List.forall_mem_cons.2 ⟨(rfl), (List.forall_mem_cons.2 ⟨(rfl), (List.forall_mem_cons.2 ⟨(rfl), (List.forall_mem_cons.2 ⟨(rfl), (List.forall_mem_cons.2 ⟨(rfl), (List.forall_mem_cons.2 ⟨(⟨none, 0, rfl, Nat.le_refl _, Nat.zero_le _, .inl rfl⟩), (fun _ h => by cases h)⟩)⟩)⟩)⟩)⟩)⟩)⟩)⟩)⟩
def Zkd : List (Kd.FK Zm) := [⟨_, (Kd.int .i64), 0, fun x : Zm => x.Kind⟩,
 ⟨_, Kd.str, 1, fun x : Zm => x.Key⟩,
 ⟨_, (Kd.int .i64), 2, fun x : Zm => x.N⟩,
 ⟨_, Kd.flt, 3, fun x : Zm => x.X⟩,
 ⟨_, Kd.str, 4, fun x : Zm => x.S⟩,
 ⟨_, Zca, 5, fun x : Zm => x.Make⟩,
 ⟨_, Kd.bool, 13, fun x : Zm => x.Must⟩]
def Zp : Kd Zm := Kd.struct 14 Zkd (by rfl)
theorem Zes : ∀ g, Zp.K g (default : Zm) [.int .i64 0, .string ByteArray.empty, .int .i64 0, .float .f64 0, .string ByteArray.empty, .int .i64 0, .int .i64 0, .int .i64 0, .int .i64 0, .float .f64 0, .int .i64 0, .string ByteArray.empty, .slice none 0 0, .bool false] := fun g => ⟨rfl, (List.forall_mem_cons.2 ⟨(rfl), (List.forall_mem_cons.2 ⟨(rfl), (List.forall_mem_cons.2 ⟨(rfl), (List.forall_mem_cons.2 ⟨(rfl), (List.forall_mem_cons.2 ⟨(rfl), (List.forall_mem_cons.2 ⟨(Zgf _), (List.forall_mem_cons.2 ⟨(rfl), (fun _ h => by cases h)⟩)⟩)⟩)⟩)⟩)⟩)⟩)⟩
def Zjk : List (Kd.FK Ze) := [⟨_, Zp.sl, 0, fun x : Ze => x.Acts⟩]
def Zf : Kd Ze := Kd.struct 1 Zjk (by rfl)
theorem Zg9 : ∀ g, Zf.K g (default : Ze) [.slice none 0 0] := fun g => ⟨rfl, (List.forall_mem_cons.2 ⟨(⟨none, 0, rfl, Nat.le_refl _, Nat.zero_le _, .inl rfl⟩), (fun _ h => by cases h)⟩)⟩
theorem Zdm : TE Try.prog 24 3 (Kd.int .i64) 8 := TE.of Try.underlying24 (by kernel_rfl) (by decide) (by decide)
theorem sz_9 : (Try.prog.info? 9).map (·.size) = some Kd.str.sz := by kernel_rfl
theorem ty_9 : Ty Try.prog 9 Kd.str := ⟨by kernel_rfl, by kernel_rfl⟩
theorem Znt : Zk Try.prog 36 := by
 unfold Zk
 kernel_rfl
theorem Zfo : (Try.prog.info? 49).map (·.size) = some Zp.sz := by kernel_rfl
theorem Zeg : Ty Try.prog 49 Zp := ⟨by kernel_rfl, by kernel_rfl⟩
theorem Znx : Zk Try.prog 39 := by
 unfold Zk
 kernel_rfl
theorem Zen : Fld Try.prog 49 0 Zp (Kd.int .i64) (fun x : Zm => x.Kind) := Fld.of ⟨_, (Kd.int .i64), 0, fun x : Zm => x.Kind⟩ (List.mem_of_getElem? (i := 0) rfl) 0 rfl (by kernel_rfl) (by decide)
theorem ty_3 : Ty Try.prog 3 (Kd.int .i64) := ⟨by kernel_rfl, by kernel_rfl⟩
theorem Zc8 : Fld Try.prog 43 0 Zf Zp.sl (fun x : Ze => x.Acts) := Fld.of ⟨_, Zp.sl, 0, fun x : Ze => x.Acts⟩ (List.mem_of_getElem? (i := 0) rfl) 0 rfl (by kernel_rfl) (by decide)
theorem Zeh : Ty Try.prog 41 Zp.sl := ⟨by kernel_rfl, by kernel_rfl⟩
theorem Zn2 : Zk Try.prog 38 := by
 unfold Zk
 kernel_rfl
theorem Znu : Zk Try.prog 37 := by
 unfold Zk
 kernel_rfl
theorem Zew : Fld Try.prog 49 1 Zp Kd.str (fun x : Zm => x.Key) := Fld.of ⟨_, Kd.str, 1, fun x : Zm => x.Key⟩ (List.mem_of_getElem? (i := 1) rfl) 1 rfl (by kernel_rfl) (by decide)
theorem Zl9 : Zk Try.prog 30 := by
 unfold Zk
 kernel_rfl
theorem Znl : Zk Try.prog 31 := by
 unfold Zk
 kernel_rfl
theorem Zdl : Ty Try.prog 43 Zf := ⟨by kernel_rfl, by kernel_rfl⟩
theorem Zme : Zk Try.prog 32 := by
 unfold Zk
 kernel_rfl
theorem Zog : Zk Try.prog 21 := by
 unfold Zk
 kernel_rfl
theorem sz_3 : (Try.prog.info? 3).map (·.size) = some (Kd.int .i64).sz := by kernel_rfl
theorem Zho : (Try.prog.info? 43).map (·.size) = some Zf.sz := by kernel_rfl
theorem Zn8 : Zk Try.prog 22 := by
 unfold Zk
 kernel_rfl
theorem Zis : Fld Try.prog 54 0 Zc9 Kd.rawM (fun x : Zfn => x.m) := Fld.of ⟨_, Kd.rawM, 0, fun x : Zfn => x.m⟩ (List.mem_of_getElem? (i := 0) rfl) 0 rfl (by kernel_rfl) (by decide)
theorem Ziz : Fld Try.prog 54 1 Zc4 Kd.raw (fun x : Zf9 => x.left) := Fld.of ⟨_, Kd.raw, 1, fun x : Zf9 => x.left⟩ (List.mem_of_getElem? (i := 1) rfl) 1 rfl (by kernel_rfl) (by decide)
theorem Zko : Ty Try.prog 51 Kd.rawM := ⟨by kernel_rfl, by kernel_rfl⟩
theorem Zky : Ty Try.prog 24 Kd.raw := ⟨by kernel_rfl, by kernel_rfl⟩
theorem Znk : Ty Try.prog 51 (Kd.mapF (Kd.int .i64).sl) := ⟨by kernel_rfl, by kernel_rfl⟩
abbrev Zx : Ob Z1 := obS Zc4 Zda Zdw kInt 3
theorem Zny : Zk Try.prog 33 := by
 unfold Zk
 kernel_rfl
theorem Zg1 : Fld Try.prog 54 1 Zdv (Kd.int .i64).sl (fun x : Z1 => x.left) := Fld.of ⟨_, (Kd.int .i64).sl, 1, fun x : Z1 => x.left⟩ (List.mem_of_getElem? (i := 1) rfl) 1 rfl (by kernel_rfl) (by decide)
theorem Zio : Ty Try.prog 24 (Kd.int .i64).sl := ⟨by kernel_rfl, by kernel_rfl⟩
theorem Zkn : Zk Try.prog 23 := by
 unfold Zk
 kernel_rfl
theorem Zmy : Fld Try.prog 54 0 Zdv (Kd.mapF (Kd.int .i64).sl) (fun x : Z1 => x.ahead) := Fld.of ⟨_, (Kd.mapF (Kd.int .i64).sl), 0, fun x : Z1 => x.ahead⟩ (List.mem_of_getElem? (i := 0) rfl) 0 rfl (by kernel_rfl) (by decide)
theorem Zj2 : Zk Try.prog 13 := by
 unfold Zk
 kernel_rfl
theorem Zns : Zk Try.prog 34 := by
 unfold Zk
 kernel_rfl
theorem Zg7 : Zk Try.prog 14 := by
 unfold Zk
 kernel_rfl
theorem Zod : Zk Try.prog 25 := by
 unfold Zk
 kernel_rfl
theorem Zn5 : Zk Try.prog 24 := by
 unfold Zk
 kernel_rfl
theorem Zjj {N d : Nat} {o : Oper} {uses : Zn} {x0 : Operand} {x1 : Operand} {x2 : Operand} {v0 : Int} {v1 : ByteArray} {v2 : Int} (hop : o.op = .build 49 #[(0, x0), (1, x1), (2, x2)]) (hd : o.dst = some d) (h0 : Opd uses x0 ((Kd.int .i64).pd v0)) (h1 : Opd uses x1 (Kd.str.pd v1)) (h2 : Opd uses x2 ((Kd.int .i64).pd v2)) : OB Try.prog N o uses [(d, Zp.pd { Kind := v0, Key := v1, N := v2, X := (0 : Nat), S := ByteArray.empty, Make := (default : Zy), Must := false })] [] := by
 refine Zhd hop hd fun a g hh => ?_
 obtain ⟨c0, k0, e0⟩ := h0 a g hh
 obtain rfl := k0
 obtain ⟨c1, k1, e1⟩ := h1 a g hh
 obtain rfl := k1
 obtain ⟨c2, k2, e2⟩ := h2 a g hh
 obtain rfl := k2
 refine ⟨.agg #[.int .i64 v0, .string v1, .int .i64 v2, .float .f64 0, .string ByteArray.empty, .int .i64 0, .int .i64 0, .int .i64 0, .int .i64 0, .float .f64 0, .int .i64 0, .string ByteArray.empty, .slice none 0 0, .bool false], ?_, [.int .i64 v0, .string v1, .int .i64 v2, .float .f64 0, .string ByteArray.empty, .int .i64 0, .int .i64 0, .int .i64 0, .int .i64 0, .float .f64 0, .int .i64 0, .string ByteArray.empty, .slice none 0 0, .bool false], ⟨rfl, (List.forall_mem_cons.2 ⟨rfl, (List.forall_mem_cons.2 ⟨rfl, (List.forall_mem_cons.2 ⟨rfl, (List.forall_mem_cons.2 ⟨(rfl), (List.forall_mem_cons.2 ⟨(rfl), (List.forall_mem_cons.2 ⟨(Zgf _), (List.forall_mem_cons.2 ⟨(rfl), (fun _ h => by cases h)⟩)⟩)⟩)⟩)⟩)⟩)⟩)⟩, rfl⟩
 simp only [List.map_toArray, List.map_cons, List.map_nil, e0, e1, e2]
 exact Zgy Try.underlying49 (zero := .agg #[.int .i64 0, .string ByteArray.empty, .int .i64 0, .float .f64 0, .string ByteArray.empty, .int .i64 0, .int .i64 0, .int .i64 0, .int .i64 0, .float .f64 0, .int .i64 0, .string ByteArray.empty, .slice none 0 0, .bool false]) (by kernel_rfl) (places := [(0, 1), (1, 1), (2, 1), (3, 1), (4, 1), (5, 8), (13, 1)]) (by kernel_rfl) (by kernel_rfl) g.w
theorem Zn6 : TE Try.prog 41 49 Zp 152 := TE.of Try.underlying41 (by kernel_rfl) (by decide) (by decide)
theorem Zm2 {N d : Nat} {o : Oper} {uses : Zn} {x0 : Operand} {v0 : List Zm} (hop : o.op = .build 43 #[(0, x0)]) (hd : o.dst = some d) (h0 : Opd uses x0 (Zp.sl.pd v0)) : OB Try.prog N o uses [(d, Zf.pd { Acts := v0 })] [] := by
 refine Zhd hop hd fun a g hh => ?_
 obtain ⟨c0, k0, e0⟩ := h0 a g hh
 obtain ⟨A0, n0, rfl, l0⟩ := k0
 refine ⟨.agg #[.slice A0 v0.length n0], ?_, [.slice A0 v0.length n0], ⟨rfl, (List.forall_mem_cons.2 ⟨⟨A0, n0, rfl, l0⟩, (fun _ h => by cases h)⟩)⟩, rfl⟩
 simp only [List.map_toArray, List.map_cons, List.map_nil, e0]
 exact Zgy Try.underlying43 (zero := .agg #[.slice none 0 0]) (by kernel_rfl) (places := [(0, 1)]) (by kernel_rfl) (by kernel_rfl) g.w
theorem Zl8 : TE Try.prog 22 43 Zf 24 := TE.of Try.underlying22 (by kernel_rfl) (by decide) (by decide)
theorem Zkl : Zk Try.prog 10 := by
 unfold Zk
 kernel_rfl
theorem Zno : TE Try.prog 23 9 Kd.str 16 := TE.of Try.underlying23 (by kernel_rfl) (by decide) (by decide)
theorem Zmc : Zk Try.prog 18 := by
 unfold Zk
 kernel_rfl
theorem Znq : Zk Try.prog 12 := by
 unfold Zk
 kernel_rfl
theorem Zin : Zk Try.prog 16 := by
 unfold Zk
 kernel_rfl
theorem Zjt : Fld Try.prog 47 7 Zca Zb4.sl (fun x : Zy => x.List) := Fld.of ⟨_, Zb4.sl, 7, fun x : Zy => x.List⟩ (List.mem_of_getElem? (i := 7) rfl) 7 rfl (by kernel_rfl) (by decide)
theorem Zmj : Ty Try.prog 45 Zb4.sl := ⟨by kernel_rfl, by kernel_rfl⟩
theorem Zmn : Fld Try.prog 47 6 Zca Kd.str (fun x : Zy => x.Text) := Fld.of ⟨_, Kd.str, 6, fun x : Zy => x.Text⟩ (List.mem_of_getElem? (i := 6) rfl) 6 rfl (by kernel_rfl) (by decide)
theorem Znn : (Try.prog.info? 67).map (·.size) = some Zb4.sz := by kernel_rfl
theorem Zmb : Ty Try.prog 67 Zb4 := ⟨by kernel_rfl, by kernel_rfl⟩
theorem Zm1 : Fld Try.prog 67 1 Zb4 Kd.str (fun x : Zdh => x.Name) := Fld.of ⟨_, Kd.str, 1, fun x : Zdh => x.Name⟩ (List.mem_of_getElem? (i := 1) rfl) 1 rfl (by kernel_rfl) (by decide)
theorem Zmw : Fld Try.prog 49 4 Zp Kd.str (fun x : Zm => x.S) := Fld.of ⟨_, Kd.str, 4, fun x : Zm => x.S⟩ (List.mem_of_getElem? (i := 4) rfl) 4 rfl (by kernel_rfl) (by decide)
theorem Zm3 : Fld Try.prog 49 5 Zp Zca (fun x : Zm => x.Make) := Fld.of ⟨_, Zca, 5, fun x : Zm => x.Make⟩ (List.mem_of_getElem? (i := 5) rfl) 5 rfl (by kernel_rfl) (by decide)
theorem Zoc : Ty Try.prog 47 Zca := ⟨by kernel_rfl, by kernel_rfl⟩
theorem Zn3 : Zk Try.prog 35 := by
 unfold Zk
 kernel_rfl
theorem Znw : Zk Try.prog 29 := by
 unfold Zk
 kernel_rfl
theorem Zn7 : Zk Try.prog 20 := by
 unfold Zk
 kernel_rfl
theorem sz_4 : (Try.prog.info? 4).map (·.size) = some Kd.bool.sz := by kernel_rfl
theorem ty_4 : Ty Try.prog 4 Kd.bool := ⟨by kernel_rfl, by kernel_rfl⟩
theorem Zoa : Zk Try.prog 26 := by
 unfold Zk
 kernel_rfl
theorem Zmf : Zk Try.prog 27 := by
 unfold Zk
 kernel_rfl
theorem Zmd : Zk Try.prog 28 := by
 unfold Zk
 kernel_rfl
theorem Znj : Zk Try.prog 19 := by
 unfold Zk
 kernel_rfl
theorem en_7 : Zk Try.prog 7 := by
 unfold Zk
 kernel_rfl
theorem en_8 : Zk Try.prog 8 := by
 unfold Zk
 kernel_rfl
theorem en_9 : Zk Try.prog 9 := by
 unfold Zk
 kernel_rfl
theorem Ze5 (a0 : (List Int)) {r : (List Int)} (h : Zc0 a0 = some r) : Zh1 Try.prog 21 [((Kd.int .i64).sl.pd a0)] (Kd.int .i64) 3 r := by
 unfold Zc0 at h
 obtain ⟨hsz, H0⟩ := Zfg h
 obtain rfl := Option.some.inj H0
 refine Zkh (N := 8) Try.func21 rfl rfl (Nat.le_of_ble_eq_true rfl) rfl (fun a g0 h0 hst hb => ?_)
 refine r_s (T := [⟨[], [(2, ((Kd.int .i64).sl.pd []))], [], [], [2]⟩]) (F := [.old 0]) hst hb Zb
   (o_p rfl (Zc rfl rfl (Opd.c (fun g => Zfi g))) <| o_n) (by kernel_rfl) (fun a g hst hb => ?_)
 refine wp_seq ?_
 refine r_s (T := [⟨[.old 0], _, [], [], [3]⟩, ⟨[.op 0 0], _, [], [0], [4]⟩]) (F := [.old 0, .op 1 0]) hst hb Zb
   (o_p rfl (Za rfl rfl u_0) <| o_p rfl (Zml Try.underlying24 rfl rfl u_0) <| o_n) (by kernel_rfl) (fun a g hst hb => ?_)
 obtain ⟨c, hc, hc'⟩ := hst.at 1 rfl
 refine wp_cond_split hc (fun ht => ?_) (fun hf => ?_)
 · obtain rfl := hc' ht
   refine r_s (L := []) (T := [⟨[], [(2, (pEq (.slice none 0 0)))], [], [], [2]⟩]) (F := [.op 0 0]) (hst.pick [] rfl) hb Zb
     (o_p rfl (Zc rfl rfl (Opd.c (fun g => rfl))) <| o_n) (by kernel_rfl) (fun a g hst hb => ?_)
   refine wp_ret ?_
   refine Zi ?_
   exact Zjg rfl hst hb (Zl (s := 2)) ⟨none, hst.at 0 rfl⟩
 · refine wp_skip ?_
   refine Zj ?_
   refine r_s (L := [(0, _)]) (T := [⟨[], [(5, (pOwn (Kd.int .i64) 3 5 (some 0) (([] : (List Int)).map some)))], [6], [], [5]⟩, ⟨[.old 0], _, [], [], [6]⟩, ⟨[.op 0 0, .op 1 0], _, [6], [0, 1], [5, 7]⟩, ⟨[.op 2 0], _, [], [0, 1, 2], [2]⟩]) (F := [.op 3 0]) (hst.pick [0] rfl) hb Zb
     (o_p rfl (Zkx (ty := 0) Zdm rfl rfl) <| o_p rfl (Za rfl rfl u_0) <| o_p rfl (Zj7 Zdm rfl rfl u_0 u_1 (by simpa using hsz)) <| o_p rfl (Zc rfl rfl u_0) <| o_n) (by kernel_rfl) (fun a g hst hb => ?_)
   refine wp_ret ?_
   exact Zlu rfl h0 hst hb (Zl (s := 2)) (hst.at 0 rfl)
theorem Zgq (a0 : Int) {r : Bool} (h : Ze4 a0 = some r) : FnOk Try.prog 30 [(pInt .i64 a0)] (Zo r) := by
 have H0 := h
 unfold Ze4 at H0
 clear h
 refine Zb1 (N := 21) Try.func30 rfl rfl (Nat.le_of_ble_eq_true rfl) rfl rfl (fun a g0 hst hb => ?_)
 refine r_s (T := [⟨[], _, [], [], [2]⟩]) (F := [.old 0]) hst hb Zb
   (o_p rfl (Zc rfl rfl c_b) <| o_n) (by kernel_rfl) (fun a g hst hb => ?_)
 refine r_s (T := ⟨[.old 0], _, [], [], [3]⟩ :: ⟨[.op 0 0], _, [], [0], [4]⟩ :: ⟨[.op 1 0], _, [], [0, 1], [5]⟩ :: ⟨[.op 2 0, .old 0], _, [], [0, 1, 2], [6]⟩ :: ⟨[.op 2 0, .op 3 0], _, [], Lr 4, [7]⟩ :: ⟨[.op 2 0, .op 4 0], _, [], Lr 5, [8]⟩ :: ⟨[.op 5 0], _, [], Lr 6, [9]⟩ :: ⟨[.op 6 0, .old 0], _, [], Lr 7, [10]⟩ :: ⟨[.op 6 0, .op 7 0], _, [], Lr 8, [11]⟩ :: ⟨[.op 6 0, .op 8 0], _, [], Lr 9, [12]⟩ :: ⟨[.op 9 0], _, [], Lr 10, [13]⟩ :: ⟨[.op 10 0, .old 0], _, [], Lr 11, [14]⟩ :: ⟨[.op 10 0, .op 11 0], _, [], Lr 12, [15]⟩ :: ⟨[.op 10 0, .op 12 0], _, [], Lr 13, [16]⟩ :: ⟨[.op 13 0], _, [], Lr 14, [17]⟩ :: ⟨[.op 14 0, .old 0], _, [], Lr 15, [18]⟩ :: ⟨[.op 14 0, .op 15 0], _, [], Lr 16, [19]⟩ :: ⟨[.op 14 0, .op 16 0], _, [], Lr 17, [20]⟩ :: ⟨[.op 17 0], _, [], Lr 18, [2]⟩ :: []) (F := [.op 18 0]) hst hb Zb
   (o_p rfl (Za rfl rfl u_0) <| o_p rfl (Zcr rfl rfl u_0 c_i) <| o_p rfl (Za rfl rfl u_0) <| o_g (g_f rfl rfl rfl (fun hG => Za rfl rfl u_0)) <| o_g (g_f rfl rfl rfl (fun hG => Zcr rfl rfl (Opd.gd hG u_0) c_i)) <| o_p rfl (Zce rfl rfl u_0 (fun hz => (Opd.gd (bNF hz) u_1))) <| o_p rfl (Za rfl rfl u_0) <| o_g (g_f rfl rfl rfl (fun hG => Za rfl rfl u_0)) <| o_g (g_f rfl rfl rfl (fun hG => Zcr rfl rfl (Opd.gd hG u_0) c_i)) <| o_p rfl (Zce rfl rfl u_0 (fun hz => (Opd.gd (bNF hz) u_1))) <| o_p rfl (Za rfl rfl u_0) <| o_g (g_f rfl rfl rfl (fun hG => Za rfl rfl u_0)) <| o_g (g_f rfl rfl rfl (fun hG => Zcr rfl rfl (Opd.gd hG u_0) c_i)) <| o_p rfl (Zce rfl rfl u_0 (fun hz => (Opd.gd (bNF hz) u_1))) <| o_p rfl (Za rfl rfl u_0) <| o_g (g_f rfl rfl rfl (fun hG => Za rfl rfl u_0)) <| o_g (g_f rfl rfl rfl (fun hG => Zcr rfl rfl (Opd.gd hG u_0) c_i)) <| o_p rfl (Zce rfl rfl u_0 (fun hz => (Opd.gd (bNF hz) u_1))) <| o_p rfl (Zc rfl rfl u_0) <| o_n) (by kernel_rfl) (fun a g hst hb => ?_)
 refine wp_ret ?_
 obtain rfl := Option.some.inj H0
 exact Z6 rfl hst hb (Zl (s := 2)) (hst.at 0 rfl)
theorem Zet (a0 : List ByteArray) (a1 : ByteArray) {r : Int} (h : Zb3 a0 a1 = some r) : FnOk Try.prog 36 [(Kd.str.sl.pd a0), (pStr a1)] (pInt .i64 r) := by
 have H0 := h
 unfold Zb3 at H0
 clear h
 refine Zb1 (N := 19) Try.func36 rfl rfl (Nat.le_of_ble_eq_true rfl) rfl rfl (fun a g0 hst hb => ?_)
 refine r_s (T := [⟨[], _, [], [], [4]⟩]) (F := [.old 0, .old 1]) hst hb Zb
   (o_p rfl (Zc rfl rfl c_i) <| o_n) (by kernel_rfl) (fun a g hst hb => ?_)
 refine wp_seq ?_
 refine r_s (T := [⟨[.old 0], _, [], [], [6]⟩, ⟨[.op 0 0], _, [], [0], [7]⟩, ⟨[], _, [], [], [8]⟩]) (F := [.old 0, .old 1, .op 0 0, .op 1 0, .op 2 0]) hst hb Zb
   (o_p rfl (Za rfl rfl u_0) <| o_p rfl (Z7 Try.underlying23 rfl rfl u_0) <| o_p rfl (Za rfl rfl c_i) <| o_n) (by kernel_rfl) (fun a g hst hb => ?_)
 obtain ⟨z6, hz1, H0⟩ := Zd H0
 refine Zbs (fun a w => ∃ (g : G), w = g.w ∧ St 19 [] a g ∧ Base g0 g ∧ (.inr ()) = z6) ?_ ?_
 · rintro a w ⟨g, rfl, hst, hb, rfl⟩
   refine Zj ?_
   refine r_s (T := [⟨[], _, [], [], [4]⟩]) (F := [.op 0 0]) hst hb Zb
     (o_p rfl (Zc rfl rfl c_i) <| o_n) (by kernel_rfl) (fun a g hst hb => ?_)
   refine wp_ret ?_
   obtain rfl := Option.some.inj H0
   exact Z6 rfl hst hb (Zl (s := 4)) (hst.at 0 rfl)
 · refine wp_block ?_
   refine wp_loop_ghost (fun n a w => ∃ (x1 : Int) (g : G), w = g.w ∧ St 19 [(0, (Kd.str.sl.pd a0)), (1, (pStr a1)), (6, (Kd.str.sl.pd a0)), (7, (pInt .i64 (a0.length : Int))), (8, (pInt .i64 x1))] a g ∧ Base g0 g ∧ Z0 a0 a1 n x1 = some z6) (Int.toNat ((a0.length : Int) - (0 : Int)) + 1) ⟨(0 : Int), g, rfl, (hst.pick [0, 1, 2, 3, 4] rfl), hb, hz1⟩ (fun n a w hI => ?_)
   obtain ⟨x1, g, rfl, hst, hb, H1⟩ := hI
   cases n with
   | zero => exact absurd H1 (by simp [Z0])
   | succ n =>
     rw [Z0] at H1
     refine r_s (T := [⟨[.old 4, .old 3], _, [], [], [9]⟩]) (F := [.old 0, .old 1, .old 2, .old 3, .old 4, .op 0 0]) hst hb Zb
       (o_p rfl (Zcg rfl rfl u_0 u_1) <| o_n) (by kernel_rfl) (fun a g hst hb => ?_)
     refine wp_seq ?_
     refine wp_cond_split (hst.bool 5 rfl) (fun hc2 => ?_) (fun hc2 => ?_)
     · replace H1 := Z3 hc2 H1
       refine wp_skip ?_
       refine Zj ?_
       refine wp_seq ?_
       refine wp_block ?_
       refine r_s (L := [(0, _), (1, _), (6, _), (7, _), (8, _)]) (T := [⟨[.old 4], _, [], [], [10]⟩, ⟨[.op 0 0], _, [], [0], [5]⟩]) (F := [.old 0, .old 1, .op 1 0, .old 2, .old 3, .old 4]) (hst.pick [0, 1, 2, 3, 4] rfl) hb Zb
         (o_p rfl (Za rfl rfl u_0) <| o_p rfl (Zc rfl rfl u_0) <| o_n) (by kernel_rfl) (fun a g hst hb => ?_)
       obtain ⟨e3, h4, H1⟩ := Zd H1
       refine r_s (T := [⟨[.old 1], _, [], [], [11]⟩, ⟨[.old 0], _, [], [], [12]⟩, ⟨[.old 2], _, [], [], [13]⟩, ⟨[.op 1 0, .op 2 0], _, [], [1, 2], [14]⟩, ⟨[.op 3 0], _, [], [1, 2, 3], [15]⟩, ⟨[.op 0 0, .op 4 0], _, [], Lr 5, [16]⟩]) (F := [.old 0, .old 1, .old 2, .old 3, .old 4, .old 5, .op 5 0]) hst hb Zb
         (o_p rfl (Za rfl rfl u_0) <| o_p rfl (Za rfl rfl u_0) <| o_p rfl (Za rfl rfl u_0) <| o_p rfl (Zs Try.underlying23 sz_9 rfl rfl u_0 u_1 h4) <| o_p rfl (Zg ty_9 rfl rfl u_0) <| o_p rfl (Zhp rfl rfl u_0 u_1) <| o_n) (by kernel_rfl) (fun a g hst hb => ?_)
       refine wp_cond_split (hst.bool 6 rfl) (fun hc5 => ?_) (fun hc5 => ?_)
       · replace H1 := Z3 hc5 H1
         refine r_s (L := [(5, _)]) (T := [⟨[.old 0], _, [], [], [17]⟩, ⟨[.op 0 0], _, [], [0], [4]⟩]) (F := [.op 1 0]) (hst.pick [2] rfl) hb Zb
           (o_p rfl (Za rfl rfl u_0) <| o_p rfl (Zc rfl rfl u_0) <| o_n) (by kernel_rfl) (fun a g hst hb => ?_)
         refine wp_ret ?_
         refine Zq ?_
         refine Zi ?_
         refine Zi ?_
         refine Zq ?_
         refine Zi ?_
         refine Zi ?_
         obtain rfl := Option.some.inj H1
         obtain rfl := Option.some.inj H0
         exact Z6 rfl hst hb (Zl (s := 4)) (hst.at 0 rfl)
       · replace H1 := Z2 hc5 H1
         refine wp_skip ?_
         refine Z5 ?_
         refine Zj ?_
         refine r_g (L := [(0, _), (1, _), (6, _), (7, _), (8, _)]) (T := [⟨[.old 4], _, [], [], [18]⟩, ⟨[.op 0 0], _, [], [0], [8]⟩]) (F := [.old 0, .old 1, .old 2, .old 3, .op 1 0]) (hst.pick [0, 1, 3, 4, 5] rfl) hb Zb
           (o_p rfl (Zbw rfl rfl u_0 c_i rfl) <| o_p rfl (Za rfl rfl u_0) <| o_n) (by kernel_rfl) (fun a g hst hb => ?_)
         exact ⟨n, Nat.lt_succ_self _, (IntKind.i64.wrap (x1 + (1 : Int))), g, rfl, (hst.pick [0, 1, 2, 3, 4] rfl), hb, H1⟩
     · replace H1 := Z2 hc2 H1
       refine wp_exit ?_
       refine Zz ?_
       refine Zz ?_
       refine Zbb ?_
       exact ⟨g, rfl, (hst.pick [] rfl), hb, Option.some.inj H1⟩
theorem Zem (a0 : List ByteArray) (a1 : ByteArray) {r : Bool} (h : Zbl a0 a1 = some r) : FnOk Try.prog 31 [(Kd.str.sl.pd a0), (pStr a1)] (Zo r) := by
 have H0 := h
 unfold Zbl at H0
 clear h
 refine Zb1 (N := 9) Try.func31 rfl rfl (Nat.le_of_ble_eq_true rfl) rfl rfl (fun a g0 hst hb => ?_)
 refine r_s (T := [⟨[], _, [], [], [4]⟩]) (F := [.old 0, .old 1]) hst hb Zb
   (o_p rfl (Zc rfl rfl c_b) <| o_n) (by kernel_rfl) (fun a g hst hb => ?_)
 obtain ⟨r1, h2, H0⟩ := Zd H0
 refine r_s (T := [⟨[.old 0], _, [], [], [5]⟩, ⟨[.old 1], _, [], [], [6]⟩, ⟨[.op 0 0, .op 1 0], _, [], [0, 1], [7]⟩, ⟨[.op 2 0], _, [], [0, 1, 2], [8]⟩, ⟨[.op 3 0], _, [], Lr 4, [4]⟩]) (F := [.op 4 0]) hst hb Zb
   (o_p rfl (Za rfl rfl u_0) <| o_p rfl (Za rfl rfl u_0) <| o_p rfl (Zbd Znt (Zet _ _ h2) rfl rfl (.cons u_0 (.cons u_1 .nil))) <| o_p rfl (Zil rfl rfl u_0 c_i) <| o_p rfl (Zc rfl rfl u_0) <| o_n) (by kernel_rfl) (fun a g hst hb => ?_)
 refine wp_ret ?_
 obtain rfl := Option.some.inj H0
 exact Z6 rfl hst hb (Zl (s := 4)) (hst.at 0 rfl)
theorem Zeb (f1 : Nat) (C1 : List Pd) (hC1 : Free C1) (e1_ : Zk Try.prog f1) (φ1 : Zm → Option Bool) (hφ1 : ∀ (y0 : Zm) (r : Bool), φ1 y0 = some r → FnOk Try.prog f1 ([(Zp.pd y0)] ++ C1) (Zo r)) (a0 : List Zm) {r : Int} (h : Zbu a0 φ1 = some r) : FnOk Try.prog 39 [(Zp.sl.pd a0), (pClo f1 C1 hC1)] (pInt .i64 r) := by
 have H0 := h
 unfold Zbu at H0
 clear h
 refine Zb1 (N := 19) Try.func39 rfl rfl (Nat.le_of_ble_eq_true rfl) rfl rfl (fun a g0 hst hb => ?_)
 refine r_s (T := [⟨[], _, [], [], [4]⟩]) (F := [.old 0, .old 1]) hst hb Zb
   (o_p rfl (Zc rfl rfl c_i) <| o_n) (by kernel_rfl) (fun a g hst hb => ?_)
 refine wp_seq ?_
 refine r_s (T := [⟨[.old 0], _, [], [], [6]⟩, ⟨[.op 0 0], _, [], [0], [7]⟩, ⟨[], _, [], [], [8]⟩]) (F := [.old 0, .old 1, .op 0 0, .op 1 0, .op 2 0]) hst hb Zb
   (o_p rfl (Za rfl rfl u_0) <| o_p rfl (Z7 Try.underlying41 rfl rfl u_0) <| o_p rfl (Za rfl rfl c_i) <| o_n) (by kernel_rfl) (fun a g hst hb => ?_)
 obtain ⟨z8, hz1, H0⟩ := Zd H0
 refine Zbs (fun a w => ∃ (g : G), w = g.w ∧ St 19 [] a g ∧ Base g0 g ∧ (.inr ()) = z8) ?_ ?_
 · rintro a w ⟨g, rfl, hst, hb, rfl⟩
   refine Zj ?_
   refine r_s (T := [⟨[], _, [], [], [4]⟩]) (F := [.op 0 0]) hst hb Zb
     (o_p rfl (Zc rfl rfl c_i) <| o_n) (by kernel_rfl) (fun a g hst hb => ?_)
   refine wp_ret ?_
   obtain rfl := Option.some.inj H0
   exact Z6 rfl hst hb (Zl (s := 4)) (hst.at 0 rfl)
 · refine wp_block ?_
   refine wp_loop_ghost (fun n a w => ∃ (x1 : Int) (g : G), w = g.w ∧ St 19 [(0, (Zp.sl.pd a0)), (1, (pClo f1 C1 hC1)), (6, (Zp.sl.pd a0)), (7, (pInt .i64 (a0.length : Int))), (8, (pInt .i64 x1))] a g ∧ Base g0 g ∧ Zr a0 φ1 n x1 = some z8) (Int.toNat ((a0.length : Int) - (0 : Int)) + 1) ⟨(0 : Int), g, rfl, (hst.pick [0, 1, 2, 3, 4] rfl), hb, hz1⟩ (fun n a w hI => ?_)
   obtain ⟨x1, g, rfl, hst, hb, H1⟩ := hI
   cases n with
   | zero => exact absurd H1 (by simp [Zr])
   | succ n =>
     rw [Zr] at H1
     refine r_s (T := [⟨[.old 4, .old 3], _, [], [], [9]⟩]) (F := [.old 0, .old 1, .old 2, .old 3, .old 4, .op 0 0]) hst hb Zb
       (o_p rfl (Zcg rfl rfl u_0 u_1) <| o_n) (by kernel_rfl) (fun a g hst hb => ?_)
     refine wp_seq ?_
     refine wp_cond_split (hst.bool 5 rfl) (fun hc2 => ?_) (fun hc2 => ?_)
     · replace H1 := Z3 hc2 H1
       refine wp_skip ?_
       refine Zj ?_
       refine wp_seq ?_
       refine wp_block ?_
       refine r_s (L := [(0, _), (1, _), (6, _), (7, _), (8, _)]) (T := [⟨[.old 4], _, [], [], [10]⟩, ⟨[.op 0 0], _, [], [0], [5]⟩]) (F := [.old 0, .old 1, .op 1 0, .old 2, .old 3, .old 4]) (hst.pick [0, 1, 2, 3, 4] rfl) hb Zb
         (o_p rfl (Za rfl rfl u_0) <| o_p rfl (Zc rfl rfl u_0) <| o_n) (by kernel_rfl) (fun a g hst hb => ?_)
       obtain ⟨e3, h4, H1⟩ := Zd H1; obtain ⟨r5, h6, H1⟩ := Zd H1
       refine r_s (T := [⟨[.old 1], _, [], [], [11]⟩, ⟨[.old 0], _, [], [], [12]⟩, ⟨[.old 2], _, [], [], [13]⟩, ⟨[.op 1 0, .op 2 0], _, [], [1, 2], [14]⟩, ⟨[.op 3 0], _, [], [1, 2, 3], [15]⟩, ⟨[.op 0 0, .op 4 0], _, [], Lr 5, [16]⟩]) (F := [.old 0, .old 1, .old 2, .old 3, .old 4, .old 5, .op 5 0]) hst hb Zb
         (o_p rfl (Za rfl rfl u_0) <| o_p rfl (Za rfl rfl u_0) <| o_p rfl (Za rfl rfl u_0) <| o_p rfl (Zs Try.underlying41 Zfo rfl rfl u_0 u_1 h4) <| o_p rfl (Zg Zeg rfl rfl u_0) <| o_p rfl (Zhi e1_ (hφ1 _ _ h6) rfl rfl u_0 (.cons u_1 .nil)) <| o_n) (by kernel_rfl) (fun a g hst hb => ?_)
       refine wp_cond_split (hst.bool 6 rfl) (fun hc7 => ?_) (fun hc7 => ?_)
       · replace H1 := Z3 hc7 H1
         refine r_s (L := [(5, _)]) (T := [⟨[.old 0], _, [], [], [17]⟩, ⟨[.op 0 0], _, [], [0], [4]⟩]) (F := [.op 1 0]) (hst.pick [2] rfl) hb Zb
           (o_p rfl (Za rfl rfl u_0) <| o_p rfl (Zc rfl rfl u_0) <| o_n) (by kernel_rfl) (fun a g hst hb => ?_)
         refine wp_ret ?_
         refine Zq ?_
         refine Zi ?_
         refine Zi ?_
         refine Zq ?_
         refine Zi ?_
         refine Zi ?_
         obtain rfl := Option.some.inj H1
         obtain rfl := Option.some.inj H0
         exact Z6 rfl hst hb (Zl (s := 4)) (hst.at 0 rfl)
       · replace H1 := Z2 hc7 H1
         refine wp_skip ?_
         refine Z5 ?_
         refine Zj ?_
         refine r_g (L := [(0, _), (1, _), (6, _), (7, _), (8, _)]) (T := [⟨[.old 4], _, [], [], [18]⟩, ⟨[.op 0 0], _, [], [0], [8]⟩]) (F := [.old 0, .old 1, .old 2, .old 3, .op 1 0]) (hst.pick [0, 1, 3, 4, 5] rfl) hb Zb
           (o_p rfl (Zbw rfl rfl u_0 c_i rfl) <| o_p rfl (Za rfl rfl u_0) <| o_n) (by kernel_rfl) (fun a g hst hb => ?_)
         exact ⟨n, Nat.lt_succ_self _, (IntKind.i64.wrap (x1 + (1 : Int))), g, rfl, (hst.pick [0, 1, 2, 3, 4] rfl), hb, H1⟩
     · replace H1 := Z2 hc2 H1
       refine wp_exit ?_
       refine Zz ?_
       refine Zz ?_
       refine Zbb ?_
       exact ⟨g, rfl, (hst.pick [] rfl), hb, Option.some.inj H1⟩
theorem Zdy (f1 : Nat) (C1 : List Pd) (hC1 : Free C1) (e1_ : Zk Try.prog f1) (φ1 : Zm → Option Bool) (hφ1 : ∀ (y0 : Zm) (r : Bool), φ1 y0 = some r → FnOk Try.prog f1 ([(Zp.pd y0)] ++ C1) (Zo r)) (a0 : List Zm) {r : Bool} (h : Zbk a0 φ1 = some r) : FnOk Try.prog 37 [(Zp.sl.pd a0), (pClo f1 C1 hC1)] (Zo r) := by
 have H0 := h
 unfold Zbk at H0
 clear h
 refine Zb1 (N := 9) Try.func37 rfl rfl (Nat.le_of_ble_eq_true rfl) rfl rfl (fun a g0 hst hb => ?_)
 refine r_s (T := [⟨[], _, [], [], [4]⟩]) (F := [.old 0, .old 1]) hst hb Zb
   (o_p rfl (Zc rfl rfl c_b) <| o_n) (by kernel_rfl) (fun a g hst hb => ?_)
 obtain ⟨r1, h2, H0⟩ := Zd H0
 refine r_s (T := [⟨[.old 0], _, [], [], [5]⟩, ⟨[.old 1], _, [], [], [6]⟩, ⟨[.op 0 0, .op 1 0], _, [], [0, 1], [7]⟩, ⟨[.op 2 0], _, [], [0, 1, 2], [8]⟩, ⟨[.op 3 0], _, [], Lr 4, [4]⟩]) (F := [.op 4 0]) hst hb Zb
   (o_p rfl (Za rfl rfl u_0) <| o_p rfl (Za rfl rfl u_0) <| o_p rfl (Zbd Znx (Zeb f1 C1 hC1 e1_ φ1 hφ1 _ h2) rfl rfl (.cons u_0 (.cons u_1 .nil))) <| o_p rfl (Zil rfl rfl u_0 c_i) <| o_p rfl (Zc rfl rfl u_0) <| o_n) (by kernel_rfl) (fun a g hst hb => ?_)
 refine wp_ret ?_
 obtain rfl := Option.some.inj H0
 exact Z6 rfl hst hb (Zl (s := 4)) (hst.at 0 rfl)
theorem Zhj (a0 : Zm) {r : Bool} (h : Zdt a0 = some r) : FnOk Try.prog 38 [(Zp.pd a0)] (Zo r) := by
 have H0 := h
 unfold Zdt at H0
 clear h
 refine Zb1 (N := 11) Try.func38 rfl rfl (Nat.le_of_ble_eq_true rfl) rfl rfl (fun a g0 hst hb => ?_)
 refine r_s (T := [⟨[.old 0], _, [], [], [1]⟩, ⟨[], _, [], [], [2]⟩]) (F := [.op 0 0]) hst hb Zb
   (o_p rfl (Zdn rfl rfl u_0) <| o_p rfl (Zc rfl rfl c_b) <| o_n) (by kernel_rfl) (fun a g hst hb => ?_)
 refine r_s (T := [⟨[.old 0], _, [], [], [3]⟩, ⟨[.op 0 0], _, [], [0], [4]⟩, ⟨[.op 1 0], _, [], [0, 1], [5]⟩, ⟨[.op 2 0], _, [], [0, 1, 2], [6]⟩, ⟨[.op 3 0, .old 0], _, [], Lr 4, [7]⟩, ⟨[.op 3 0, .op 4 0], _, [], Lr 5, [8]⟩, ⟨[.op 3 0, .op 5 0], _, [], Lr 6, [9]⟩, ⟨[.op 3 0, .op 6 0], _, [], Lr 7, [10]⟩, ⟨[.op 7 0], _, [], Lr 8, [2]⟩]) (F := [.op 8 0]) hst hb Zb
   (o_p rfl (Zh Zen rfl rfl u_0) <| o_p rfl (Zg ty_3 rfl rfl u_0) <| o_p rfl (Zcr rfl rfl u_0 c_i) <| o_p rfl (Za rfl rfl u_0) <| o_g (g_f rfl rfl rfl (fun hG => Zh Zen rfl rfl u_0)) <| o_g (g_f rfl rfl rfl (fun hG => Zg ty_3 rfl rfl (Opd.gd hG u_0))) <| o_g (g_f rfl rfl rfl (fun hG => Zcr rfl rfl (Opd.gd hG u_0) c_i)) <| o_p rfl (Zce rfl rfl u_0 (fun hz => (Opd.gd (bNF hz) u_1))) <| o_p rfl (Zc rfl rfl u_0) <| o_n) (by kernel_rfl) (fun a g hst hb => ?_)
 refine wp_ret ?_
 obtain rfl := Option.some.inj H0
 exact Z6 rfl hst hb (Zl (s := 2)) (hst.at 0 rfl)
theorem Zfy (a0 : Ze) {r : Bool} (h : Zdx a0 = some r) : FnOk Try.prog 32 [(Zf.pd a0)] (Zo r) := by
 have H0 := h
 unfold Zdx at H0
 clear h
 refine Zb1 (N := 6) Try.func32 rfl rfl (Nat.le_of_ble_eq_true rfl) rfl rfl (fun a g0 hst hb => ?_)
 refine r_s (T := [⟨[.old 0], _, [], [], [1]⟩, ⟨[], _, [], [], [2]⟩]) (F := [.op 0 0]) hst hb Zb
   (o_p rfl (Zdn rfl rfl u_0) <| o_p rfl (Zc rfl rfl c_b) <| o_n) (by kernel_rfl) (fun a g hst hb => ?_)
 obtain ⟨r1, h2, H0⟩ := Zd H0
 refine r_s (T := [⟨[.old 0], _, [], [], [3]⟩, ⟨[.op 0 0], _, [], [0], [4]⟩, ⟨[.op 1 0], _, [], [0, 1], [5]⟩, ⟨[.op 2 0], _, [], [0, 1, 2], [2]⟩]) (F := [.op 3 0]) hst hb Zb
   (o_p rfl (Zh Zc8 rfl rfl u_0) <| o_p rfl (Zg Zeh rfl rfl u_0) <| o_p rfl (Zbd Znu (Zdy 38 [] rfl Zn2 (fun y0 => Zdt y0) (fun y0 r h => Zhj y0 h) _ h2) rfl rfl (.cons u_0 (.cons Opd.fnc .nil))) <| o_p rfl (Zc rfl rfl u_0) <| o_n) (by kernel_rfl) (fun a g hst hb => ?_)
 refine wp_ret ?_
 obtain rfl := Option.some.inj H0
 exact Z6 rfl hst hb (Zl (s := 2)) (hst.at 0 rfl)
theorem Zix (a0 : Ze) (a1 : Ze) (a2 : List ByteArray) {r : Bool} (h : Zep a0 a1 a2 = some r) : FnOk Try.prog 22 [(Zf.pd a0), (Zf.pd a1), (Kd.str.sl.pd a2)] (Zo r) := by
 have H0 := h
 unfold Zep at H0
 clear h
 refine Zb1 (N := 56) Try.func22 rfl rfl (Nat.le_of_ble_eq_true rfl) rfl rfl (fun a g0 hst hb => ?_)
 refine r_s (T := [⟨[.old 0], _, [], [], [3]⟩, ⟨[.old 1], _, [], [], [4]⟩, ⟨[], _, [], [], [6]⟩]) (F := [.old 2, .op 0 0, .op 1 0]) hst hb Zb
   (o_p rfl (Zdn rfl rfl u_0) <| o_p rfl (Zdn rfl rfl u_0) <| o_p rfl (Zc rfl rfl c_b) <| o_n) (by kernel_rfl) (fun a g hst hb => ?_)
 refine wp_seq ?_
 refine r_s (T := [⟨[.old 1], _, [], [], [11]⟩, ⟨[.op 0 0], _, [], [0], [12]⟩, ⟨[.op 1 0], _, [], [0, 1], [13]⟩, ⟨[], _, [], [], [14]⟩]) (F := [.old 0, .old 1, .old 2, .op 1 0, .op 2 0, .op 3 0]) hst hb Zb
   (o_p rfl (Zh Zc8 rfl rfl u_0) <| o_p rfl (Zg Zeh rfl rfl u_0) <| o_p rfl (Z7 Try.underlying41 rfl rfl u_0) <| o_p rfl (Za rfl rfl c_i) <| o_n) (by kernel_rfl) (fun a g hst hb => ?_)
 obtain ⟨z17, hz1, H0⟩ := Zd H0
 refine Zbs (fun a w => ∃ (g : G), w = g.w ∧ St 56 [(3, (Zf.ptr a0)), (4, (Zf.ptr a1))] a g ∧ Base g0 g ∧ (.inr ()) = z17) ?_ ?_
 · rintro a w ⟨g, rfl, hst, hb, rfl⟩
   refine Zj ?_
   obtain ⟨r18, h19, H0⟩ := Zd H0; obtain ⟨r20, h21, H0⟩ := Zd H0
   refine r_s (T := [⟨[.old 0], _, [], [], [50]⟩, ⟨[.op 0 0], _, [], [0], [51]⟩, ⟨[.op 1 0], _, [], [0, 1], [52]⟩, ⟨[.op 2 0, .old 1], _, [], [0, 1, 2], [53]⟩, ⟨[.op 2 0, .op 3 0], _, [], Lr 4, [54]⟩, ⟨[.op 2 0, .op 4 0], _, [], Lr 5, [55]⟩, ⟨[.op 5 0], _, [], Lr 6, [6]⟩]) (F := [.op 6 0]) hst hb Zb
     (o_p rfl (Zg Zdl rfl rfl u_0) <| o_p rfl (Zbd Zme (Zfy _ h19) rfl rfl (.cons u_0 .nil)) <| o_p rfl (Za rfl rfl u_0) <| o_g (g_t rfl rfl rfl (fun hG => Zg Zdl rfl rfl u_0)) <| o_g (g_t rfl rfl rfl (fun hG => Zbd Zme (Zfy _ (Zbi h21 hG)) rfl rfl (.cons (Opd.gd hG u_0) .nil))) <| o_p rfl (Zb2 rfl rfl u_0 (fun hz => (Opd.gd hz u_1))) <| o_p rfl (Zc rfl rfl u_0) <| o_n) (by kernel_rfl) (fun a g hst hb => ?_)
   refine wp_ret ?_
   obtain rfl := Option.some.inj H0
   exact Z6 rfl hst hb (Zl (s := 6)) (hst.at 0 rfl)
 · refine wp_block ?_
   refine wp_loop_ghost (fun n a w => ∃ (x1 : Int) (g : G), w = g.w ∧ St 56 [(2, (Kd.str.sl.pd a2)), (3, (Zf.ptr a0)), (4, (Zf.ptr a1)), (12, (Zp.sl.pd a0.Acts)), (13, (pInt .i64 (a0.Acts.length : Int))), (14, (pInt .i64 x1))] a g ∧ Base g0 g ∧ Zcp a0 a1 a2 n x1 = some z17) (Int.toNat ((a0.Acts.length : Int) - (0 : Int)) + 1) ⟨(0 : Int), g, rfl, (hst.pick [0, 1, 2, 3, 4, 5] rfl), hb, hz1⟩ (fun n a w hI => ?_)
   obtain ⟨x1, g, rfl, hst, hb, H1⟩ := hI
   cases n with
   | zero => exact absurd H1 (by simp [Zcp])
   | succ n =>
     rw [Zcp] at H1
     refine r_s (T := [⟨[.old 5, .old 4], _, [], [], [15]⟩]) (F := [.old 0, .old 1, .old 2, .old 3, .old 4, .old 5, .op 0 0]) hst hb Zb
       (o_p rfl (Zcg rfl rfl u_0 u_1) <| o_n) (by kernel_rfl) (fun a g hst hb => ?_)
     refine wp_seq ?_
     refine wp_cond_split (hst.bool 6 rfl) (fun hc2 => ?_) (fun hc2 => ?_)
     · replace H1 := Z3 hc2 H1
       refine wp_skip ?_
       refine Zj ?_
       refine wp_seq ?_
       refine wp_block ?_
       obtain ⟨e3, h4, H1⟩ := Zd H1
       refine r_s (L := [(2, _), (3, _), (4, _), (12, _), (13, _), (14, _)]) (T := [⟨[.old 3, .old 5], _, [], [], [16]⟩, ⟨[.op 0 0], _, [], [0], [17]⟩, ⟨[], [(8, (pBox Zp 8 (default : Zm)))], [9], [], [8]⟩, ⟨[.op 1 0, .op 2 0], _, [9], [0, 1, 2], [8]⟩]) (F := [.old 0, .old 1, .old 2, .op 3 0, .old 3, .old 4, .old 5]) (hst.pick [0, 1, 2, 3, 4, 5] rfl) hb Zb
         (o_p rfl (Zs Try.underlying41 Zfo rfl rfl u_0 u_1 h4) <| o_p rfl (Zg Zeg rfl rfl u_0) <| o_p rfl (Zd6 (zs := [.int .i64 0, .string ByteArray.empty, .int .i64 0, .float .f64 0, .string ByteArray.empty, .int .i64 0, .int .i64 0, .int .i64 0, .int .i64 0, .float .f64 0, .int .i64 0, .string ByteArray.empty, .slice none 0 0, .bool false]) (by kernel_rfl) (fun g => Zes g) rfl rfl) <| o_p rfl (Zdq Zeg rfl rfl u_1 u_0) <| o_n) (by kernel_rfl) (fun a g hst hb => ?_)
       refine r_s (T := [⟨[.old 2], _, [], [], [18]⟩, ⟨[.op 0 0], _, [], [0], [19]⟩, ⟨[.op 1 0], _, [], [0, 1], [20]⟩, ⟨[], _, [], [], [21]⟩]) (F := [.old 0, .old 1, .old 2, .old 3, .old 4, .old 5, .old 6, .op 1 0, .op 2 0, .op 3 0]) hst hb Zb
         (o_p rfl (Zh Zc8 rfl rfl u_0) <| o_p rfl (Zg Zeh rfl rfl u_0) <| o_p rfl (Z7 Try.underlying41 rfl rfl u_0) <| o_p rfl (Za rfl rfl c_i) <| o_n) (by kernel_rfl) (fun a g hst hb => ?_)
       obtain ⟨z16, hz2, H1⟩ := Zd H1
       refine Zbs (fun a w => ∃ (g : G), w = g.w ∧ St 56 [(2, (Kd.str.sl.pd a2)), (3, (Zf.ptr a0)), (4, (Zf.ptr a1)), (12, (Zp.sl.pd a0.Acts)), (13, (pInt .i64 (a0.Acts.length : Int))), (14, (pInt .i64 x1))] a g ∧ Base g0 g ∧ (.inr ()) = z16) ?_ ?_
       · rintro a w ⟨g, rfl, hst, hb, rfl⟩
         refine Z5 ?_
         refine Zj ?_
         refine r_g (T := [⟨[.old 5], _, [], [], [49]⟩, ⟨[.op 0 0], _, [], [0], [14]⟩]) (F := [.old 0, .old 1, .old 2, .old 3, .old 4, .op 1 0]) hst hb Zb
           (o_p rfl (Zbw rfl rfl u_0 c_i rfl) <| o_p rfl (Za rfl rfl u_0) <| o_n) (by kernel_rfl) (fun a g hst hb => ?_)
         exact ⟨n, Nat.lt_succ_self _, (IntKind.i64.wrap (x1 + (1 : Int))), g, rfl, (hst.pick [0, 1, 2, 3, 4, 5] rfl), hb, H1⟩
       · refine wp_block ?_
         refine wp_loop_ghost (fun n a w => ∃ (x5 : Int) (g : G), w = g.w ∧ St 56 [(2, (Kd.str.sl.pd a2)), (3, (Zf.ptr a0)), (4, (Zf.ptr a1)), (8, (Zp.ptr e3)), (12, (Zp.sl.pd a0.Acts)), (13, (pInt .i64 (a0.Acts.length : Int))), (14, (pInt .i64 x1)), (19, (Zp.sl.pd a1.Acts)), (20, (pInt .i64 (a1.Acts.length : Int))), (21, (pInt .i64 x5))] a g ∧ Base g0 g ∧ Zcd a1 a2 e3 n x5 = some z16) (Int.toNat ((a1.Acts.length : Int) - (0 : Int)) + 1) ⟨(0 : Int), g, rfl, (hst.pick [0, 1, 2, 3, 4, 5, 6, 7, 8, 9] rfl), hb, hz2⟩ (fun n a w hI => ?_)
         obtain ⟨x5, g, rfl, hst, hb, H2⟩ := hI
         cases n with
         | zero => exact absurd H2 (by simp [Zcd])
         | succ n =>
           rw [Zcd] at H2
           refine r_s (T := [⟨[.old 9, .old 8], _, [], [], [22]⟩]) (F := [.old 0, .old 1, .old 2, .old 3, .old 4, .old 5, .old 6, .old 7, .old 8, .old 9, .op 0 0]) hst hb Zb
             (o_p rfl (Zcg rfl rfl u_0 u_1) <| o_n) (by kernel_rfl) (fun a g hst hb => ?_)
           refine wp_seq ?_
           refine wp_cond_split (hst.bool 10 rfl) (fun hc6 => ?_) (fun hc6 => ?_)
           · replace H2 := Z3 hc6 H2
             refine wp_skip ?_
             refine Zj ?_
             refine wp_seq ?_
             refine wp_block ?_
             obtain ⟨e7, h8, H2⟩ := Zd H2
             refine r_s (L := [(2, _), (3, _), (4, _), (8, _), (12, _), (13, _), (14, _), (19, _), (20, _), (21, _)]) (T := [⟨[.old 7, .old 9], _, [], [], [23]⟩, ⟨[.op 0 0], _, [], [0], [24]⟩, ⟨[], [(10, (pBox Zp 10 (default : Zm)))], [11], [], [10]⟩, ⟨[.op 1 0, .op 2 0], _, [11], [0, 1, 2], [10]⟩]) (F := [.old 0, .old 1, .old 2, .old 3, .op 3 0, .old 4, .old 5, .old 6, .old 7, .old 8, .old 9]) (hst.pick [0, 1, 2, 3, 4, 5, 6, 7, 8, 9] rfl) hb Zb
               (o_p rfl (Zs Try.underlying41 Zfo rfl rfl u_0 u_1 h8) <| o_p rfl (Zg Zeg rfl rfl u_0) <| o_p rfl (Zd6 (zs := [.int .i64 0, .string ByteArray.empty, .int .i64 0, .float .f64 0, .string ByteArray.empty, .int .i64 0, .int .i64 0, .int .i64 0, .int .i64 0, .float .f64 0, .int .i64 0, .string ByteArray.empty, .slice none 0 0, .bool false]) (by kernel_rfl) (fun g => Zes g) rfl rfl) <| o_p rfl (Zdq Zeg rfl rfl u_1 u_0) <| o_n) (by kernel_rfl) (fun a g hst hb => ?_)
             obtain ⟨r9, h10, H2⟩ := Zd H2; obtain ⟨r11, h12, H2⟩ := Zd H2; obtain ⟨r13, h14, H2⟩ := Zd H2
             refine r_s (T := ⟨[.old 3], _, [], [], [25]⟩ :: ⟨[.op 0 0], _, [], [0], [26]⟩ :: ⟨[.old 4], _, [], [], [27]⟩ :: ⟨[.op 2 0], _, [], [2], [28]⟩ :: ⟨[.op 1 0, .op 3 0], _, [], Lr 4, [29]⟩ :: ⟨[.op 4 0], _, [], Lr 5, [30]⟩ :: ⟨[.op 5 0, .old 3], _, [], Lr 6, [31]⟩ :: ⟨[.op 5 0, .op 6 0], _, [], Lr 7, [32]⟩ :: ⟨[.op 5 0, .op 7 0], _, [], Lr 8, [33]⟩ :: ⟨[.op 5 0, .op 8 0], _, [], Lr 9, [34]⟩ :: ⟨[.op 9 0, .old 4], _, [], Lr 10, [35]⟩ :: ⟨[.op 9 0, .op 10 0], _, [], Lr 11, [36]⟩ :: ⟨[.op 9 0, .op 11 0], _, [], Lr 12, [37]⟩ :: ⟨[.op 5 0, .op 9 0, .op 12 0], _, [], Lr 13, [38]⟩ :: ⟨[.op 5 0, .op 13 0], _, [], Lr 14, [39]⟩ :: ⟨[.op 5 0, .op 14 0], _, [], Lr 15, [40]⟩ :: ⟨[.op 15 0], _, [], Lr 16, [41]⟩ :: ⟨[.op 16 0, .old 0], _, [], Lr 17, [42]⟩ :: ⟨[.op 16 0, .old 3], _, [], Lr 17, [43]⟩ :: ⟨[.op 16 0, .op 18 0], _, [], 0 :: 1 :: 2 :: 3 :: 4 :: 5 :: 6 :: 7 :: 8 :: 9 :: 10 :: 11 :: 12 :: 13 :: 14 :: 15 :: 16 :: 18 :: [], [44]⟩ :: ⟨[.op 16 0, .op 17 0, .op 19 0], _, [], Lr 20, [45]⟩ :: ⟨[.op 16 0, .op 20 0], _, [], Lr 21, [46]⟩ :: ⟨[.op 16 0, .op 21 0], _, [], Lr 22, [47]⟩ :: []) (F := [.old 0, .old 1, .old 2, .old 3, .old 5, .old 6, .old 7, .old 8, .old 9, .old 10, .op 22 0]) hst hb Zb
               (o_p rfl (Zh Zew rfl rfl u_0) <| o_p rfl (Zg ty_9 rfl rfl u_0) <| o_p rfl (Zh Zew rfl rfl u_0) <| o_p rfl (Zg ty_9 rfl rfl u_0) <| o_p rfl (Zhp rfl rfl u_0 u_1) <| o_p rfl (Za rfl rfl u_0) <| o_g (g_t rfl rfl rfl (fun hG => Zh Zen rfl rfl u_0)) <| o_g (g_t rfl rfl rfl (fun hG => Zg ty_3 rfl rfl (Opd.gd hG u_0))) <| o_g (g_t rfl rfl rfl (fun hG => Zbd Zl9 (Zgq _ (Zbi h10 hG)) rfl rfl (.cons (Opd.gd hG u_0) .nil))) <| o_g (g_t rfl rfl rfl (fun hG => Za rfl rfl (Opd.gd hG u_0))) <| o_g (g_ti rfl rfl rfl (fun hG => Zh Zen rfl rfl u_0)) <| o_g (g_ti rfl rfl rfl (fun hG => Zg ty_3 rfl rfl (Opd.gd hG u_0))) <| o_g (g_ti rfl rfl rfl (fun hG => Zbd Zl9 (Zgq _ (Zbi h12 hG)) rfl rfl (.cons (Opd.gd hG u_0) .nil))) <| o_g (g_t rfl rfl rfl (fun hG => Zb2 rfl rfl (Opd.gd hG u_0) (fun hz => (Opd.gd (bA hG hz) u_1)))) <| o_g (g_t rfl rfl rfl (fun hG => Zdu rfl rfl (Opd.gd hG u_0))) <| o_p rfl (Zb2 rfl rfl u_0 (fun hz => (Opd.gd hz u_1))) <| o_p rfl (Za rfl rfl u_0) <| o_g (g_t rfl rfl rfl (fun hG => Za rfl rfl u_0)) <| o_g (g_t rfl rfl rfl (fun hG => Zh Zew rfl rfl u_0)) <| o_g (g_t rfl rfl rfl (fun hG => Zg ty_9 rfl rfl (Opd.gd hG u_0))) <| o_g (g_t rfl rfl rfl (fun hG => Zbd Znl (Zem _ _ (Zbi h14 hG)) rfl rfl (.cons (Opd.gd hG u_0) (.cons (Opd.gd hG u_1) .nil)))) <| o_g (g_t rfl rfl rfl (fun hG => Zdu rfl rfl (Opd.gd hG u_0))) <| o_p rfl (Zb2 rfl rfl u_0 (fun hz => (Opd.gd hz u_1))) <| o_n) (by kernel_rfl) (fun a g hst hb => ?_)
             refine wp_cond_split (hst.bool 10 rfl) (fun hc15 => ?_) (fun hc15 => ?_)
             · replace H2 := Z3 hc15 H2
               refine r_s (L := []) (T := [⟨[], _, [], [], [6]⟩]) (F := [.op 0 0]) (hst.pick [] rfl) hb Zb
                 (o_p rfl (Zc rfl rfl c_b) <| o_n) (by kernel_rfl) (fun a g hst hb => ?_)
               refine wp_ret ?_
               refine Zq ?_
               refine Zi ?_
               refine Zi ?_
               refine Zq ?_
               refine Zi ?_
               refine Zq ?_
               refine Zi ?_
               refine Zi ?_
               refine Zq ?_
               refine Zi ?_
               refine Zi ?_
               obtain rfl := Option.some.inj H2
               obtain rfl := Option.some.inj H1
               obtain rfl := Option.some.inj H0
               exact Z6 rfl hst hb (Zl (s := 6)) (hst.at 0 rfl)
             · replace H2 := Z2 hc15 H2
               refine wp_skip ?_
               refine Z5 ?_
               refine Zj ?_
               refine r_g (L := [(2, _), (3, _), (4, _), (8, _), (12, _), (13, _), (14, _), (19, _), (20, _), (21, _)]) (T := [⟨[.old 9], _, [], [], [48]⟩, ⟨[.op 0 0], _, [], [0], [21]⟩]) (F := [.old 0, .old 1, .old 2, .old 3, .old 4, .old 5, .old 6, .old 7, .old 8, .op 1 0]) (hst.pick [0, 1, 2, 3, 4, 5, 6, 7, 8, 9] rfl) hb Zb
                 (o_p rfl (Zbw rfl rfl u_0 c_i rfl) <| o_p rfl (Za rfl rfl u_0) <| o_n) (by kernel_rfl) (fun a g hst hb => ?_)
               exact ⟨n, Nat.lt_succ_self _, (IntKind.i64.wrap (x5 + (1 : Int))), g, rfl, (hst.pick [0, 1, 2, 3, 4, 5, 6, 7, 8, 9] rfl), hb, H2⟩
           · replace H2 := Z2 hc6 H2
             refine wp_exit ?_
             refine Zz ?_
             refine Zz ?_
             refine Zbb ?_
             exact ⟨g, rfl, (hst.pick [0, 1, 2, 4, 5, 6] rfl), hb, Option.some.inj H2⟩
     · replace H1 := Z2 hc2 H1
       refine wp_exit ?_
       refine Zz ?_
       refine Zz ?_
       refine Zbb ?_
       exact ⟨g, rfl, (hst.pick [1, 2] rfl), hb, Option.some.inj H1⟩
theorem Zft (a0 : List Ze) (a1 : List Int) (a2 : List ByteArray) {r : Z1} (h : Zek a0 a1 a2 = some r) : Zki Try.prog 10 [(Zf.sl.pd a0), ((Kd.int .i64).sl.pd a1), (Kd.str.sl.pd a2)] Zx r := by
 have H0 := h
 unfold Zek at H0
 clear h
 refine Zld (N := 59) Try.func10 rfl rfl (Nat.le_of_ble_eq_true rfl) rfl (fun a g0 h0 hst hb => ?_)
 refine r_s (T := [⟨[], _, [], [], [6]⟩]) (F := [.old 0, .old 1, .old 2]) hst hb Zb
   (o_p rfl (Zl5 (.inr rfl)) <| o_n) (by kernel_rfl) (fun a g hst hb => ?_)
 obtain ⟨r1, h2, H0⟩ := Zd H0
 refine r_s (T := [⟨[], [(12, (pMap kInt 3 12 512 true (⟨[], none⟩ : MapB Int)))], [13], [], [12]⟩, ⟨[.old 1], _, [], [], [13]⟩, ⟨[.op 1 0], _, [15], [1], [14]⟩, ⟨[.op 0 0, .op 2 0], _, [], [0, 1, 2], [15]⟩, ⟨[.op 3 0], [(16, (pLB 3 12 512 false 14 16 ({ ahead := (⟨[], none⟩ : MapB Int), left := r1 } : Zbn))), (1001, (pMT 12 512 (({ ahead := (⟨[], none⟩ : MapB Int), left := r1 } : Zbn).ahead)))], [17], Lr 4, [16, 1001]⟩, ⟨[.op 4 0], _, [], Lr 5, [7]⟩]) (F := [.old 0, .old 1, .old 2, .op 5 0, .op 4 1]) hst hb Zb
   (o_p rfl (Zkg rfl rfl) <| o_p rfl (Za rfl rfl u_0) <| o_p rfl (Zip (j := 14) Zog (Ze5 _ h2) rfl rfl (.cons u_0 .nil)) <| o_p rfl (Zj9 Try.underlying54 (by kernel_rfl) (by kernel_rfl) rfl rfl u_0 u_1) <| o_p rfl (OB.lbT (Zlw (by decide) rfl rfl u_0)) <| o_p rfl (Zc rfl rfl u_0) <| o_n) (by kernel_rfl) (fun a g hst hb => ?_)
 refine wp_seq ?_
 refine r_s (T := [⟨[.old 1], _, [], [], [17]⟩, ⟨[.op 0 0], _, [], [0], [18]⟩, ⟨[], _, [], [], [19]⟩]) (F := [.old 0, .old 1, .old 2, .old 3, .op 0 0, .op 1 0, .op 2 0, .old 4]) hst hb Zb
   (o_p rfl (Za rfl rfl u_0) <| o_p rfl (Z7 Try.underlying24 rfl rfl u_0) <| o_p rfl (Za rfl rfl c_i) <| o_n) (by kernel_rfl) (fun a g hst hb => ?_)
 obtain ⟨z29, hz1, H0⟩ := Zd H0
 refine Zbs (fun a w => ∃ (y28 : Zbn) (g : G), w = g.w ∧ St 59 [(7, (pLB 3 12 512 false 14 16 y28)), (1001, (pMT 12 512 y28.ahead))] a g ∧ Base g0 g ∧ y28 = z29) ?_ ?_
 · rintro a w ⟨y28, g, rfl, hst, hb, rfl⟩
   refine Zj ?_
   refine r_s (T := [⟨[.old 0], _, [], [], [58]⟩, ⟨[.op 0 0], [(6, (Zd1 none Zc4 Zda (hpL (pArr kInt 3 14 (Zdw ({ ahead := y28.ahead.all, left := y28.left } : Z1)))) 16 ({ ahead := y28.ahead.all, left := y28.left } : Z1)))], [13], [0], [6, 7, 58, 1001]⟩]) (F := [.op 1 0]) hst hb Zb
     (o_p rfl (Za rfl rfl u_0) <| o_p rfl (Zk1 (by decide) (.inr rfl) rfl u_0) <| o_n) (by kernel_rfl) (fun a g hst hb => ?_)
   refine wp_ret ?_
   obtain rfl := Option.some.inj H0
   exact Znz rfl hst hb (Zl (s := 6)) (by decide) (hst.at 0 rfl)
 · refine wp_block ?_
   refine wp_loop_ghost (fun n a w => ∃ (x3 : Zbn) (x4 : Int) (g : G), w = g.w ∧ St 59 [(0, (Zf.sl.pd a0)), (1, ((Kd.int .i64).sl.pd a1)), (2, (Kd.str.sl.pd a2)), (7, (pLB 3 12 512 false 14 16 x3)), (17, ((Kd.int .i64).sl.pd a1)), (18, (pInt .i64 (a1.length : Int))), (19, (pInt .i64 x4)), (1001, (pMT 12 512 x3.ahead))] a g ∧ Base g0 g ∧ Zc2 a0 a1 a2 n x3 x4 = some z29) (Int.toNat ((a1.length : Int) - (0 : Int)) + 1) ⟨({ ahead := (⟨[], none⟩ : MapB Int), left := r1 } : Zbn), (0 : Int), g, rfl, (hst.pick [0, 1, 2, 3, 4, 5, 6, 7] rfl), hb, hz1⟩ (fun n a w hI => ?_)
   obtain ⟨x3, x4, g, rfl, hst, hb, H1⟩ := hI
   cases n with
   | zero => exact absurd H1 (by simp [Zc2])
   | succ n =>
     rw [Zc2] at H1
     refine r_s (T := [⟨[.old 6, .old 5], _, [], [], [20]⟩]) (F := [.old 0, .old 1, .old 2, .old 3, .old 4, .old 5, .old 6, .op 0 0, .old 7]) hst hb Zb
       (o_p rfl (Zcg rfl rfl u_0 u_1) <| o_n) (by kernel_rfl) (fun a g hst hb => ?_)
     refine wp_seq ?_
     refine wp_cond_split (hst.bool 7 rfl) (fun hc5 => ?_) (fun hc5 => ?_)
     · replace H1 := Z3 hc5 H1
       refine wp_skip ?_
       refine Zj ?_
       refine wp_seq ?_
       refine wp_block ?_
       obtain ⟨e6, h7, H1⟩ := Zd H1
       refine r_s (L := [(0, _), (1, _), (2, _), (7, _), (17, _), (18, _), (19, _), (1001, _)]) (T := [⟨[.old 6], _, [], [], [21]⟩, ⟨[.old 4, .old 6], _, [], [], [22]⟩, ⟨[.op 1 0], _, [], [1], [23]⟩, ⟨[.op 0 0], _, [], [0, 1, 2], [8]⟩, ⟨[.op 2 0], _, [], Lr 4, [9]⟩]) (F := [.old 0, .old 1, .old 2, .old 3, .op 3 0, .op 4 0, .old 4, .old 5, .old 6, .old 7]) (hst.pick [0, 1, 2, 3, 4, 5, 6, 8] rfl) hb Zb
         (o_p rfl (Za rfl rfl u_0) <| o_p rfl (Zs Try.underlying24 sz_3 rfl rfl u_0 u_1 h7) <| o_p rfl (Zg ty_3 rfl rfl u_0) <| o_p rfl (Zc rfl rfl u_0) <| o_p rfl (Zc rfl rfl u_0) <| o_n) (by kernel_rfl) (fun a g hst hb => ?_)
       obtain ⟨c8, h9, H1⟩ := Zd H1
       refine r_s (T := [⟨[.old 1], _, [], [], [24]⟩, ⟨[.old 4], _, [], [], [25]⟩, ⟨[.op 0 0, .op 1 0], _, [], [0, 1], [26]⟩, ⟨[.op 2 0], _, [], [0, 1, 2], [27]⟩, ⟨[], _, [], [], [28]⟩]) (F := [.old 0, .old 1, .old 2, .old 3, .old 5, .old 6, .old 7, .old 8, .op 2 0, .op 3 0, .op 4 0, .old 9]) hst hb Zb
         (o_p rfl (Za rfl rfl u_0) <| o_p rfl (Za rfl rfl u_0) <| o_p rfl (Zm9 Try.underlying24 sz_3 rfl rfl u_0 u_1 h9) <| o_p rfl (Z7 Try.underlying24 rfl rfl u_0) <| o_p rfl (Za rfl rfl c_i) <| o_n) (by kernel_rfl) (fun a g hst hb => ?_)
       obtain ⟨z27, hz2, H1⟩ := Zd H1
       refine Zbs (fun a w => ∃ (y26 : Zbn) (g : G), w = g.w ∧ St 59 [(0, (Zf.sl.pd a0)), (1, ((Kd.int .i64).sl.pd a1)), (2, (Kd.str.sl.pd a2)), (7, (pLB 3 12 512 false 14 16 y26)), (17, ((Kd.int .i64).sl.pd a1)), (18, (pInt .i64 (a1.length : Int))), (19, (pInt .i64 x4)), (1001, (pMT 12 512 y26.ahead))] a g ∧ Base g0 g ∧ y26 = z27) ?_ ?_
       · rintro a w ⟨y26, g, rfl, hst, hb, rfl⟩
         refine Z5 ?_
         refine Zj ?_
         refine r_g (T := [⟨[.old 6], _, [], [], [57]⟩, ⟨[.op 0 0], _, [], [0], [19]⟩]) (F := [.old 0, .old 1, .old 2, .old 3, .old 4, .old 5, .op 1 0, .old 7]) hst hb Zb
           (o_p rfl (Zbw rfl rfl u_0 c_i rfl) <| o_p rfl (Za rfl rfl u_0) <| o_n) (by kernel_rfl) (fun a g hst hb => ?_)
         exact ⟨n, Nat.lt_succ_self _, y26, (IntKind.i64.wrap (x4 + (1 : Int))), g, rfl, (hst.pick [0, 1, 2, 3, 4, 5, 6, 7] rfl), hb, H1⟩
       · refine wp_block ?_
         refine wp_loop_ghost (fun n a w => ∃ (x10 : Zbn) (x11 : Int) (g : G), w = g.w ∧ St 59 [(0, (Zf.sl.pd a0)), (1, ((Kd.int .i64).sl.pd a1)), (2, (Kd.str.sl.pd a2)), (7, (pLB 3 12 512 false 14 16 x10)), (9, (pInt .i64 e6)), (17, ((Kd.int .i64).sl.pd a1)), (18, (pInt .i64 (a1.length : Int))), (19, (pInt .i64 x4)), (26, ((Kd.int .i64).sl.pd c8)), (27, (pInt .i64 (c8.length : Int))), (28, (pInt .i64 x11)), (1001, (pMT 12 512 x10.ahead))] a g ∧ Base g0 g ∧ Zb9 a0 a2 e6 c8 n x10 x11 = some z27) (Int.toNat ((c8.length : Int) - (0 : Int)) + 1) ⟨x3, (0 : Int), g, rfl, (hst.pick [0, 1, 2, 3, 4, 5, 6, 7, 8, 9, 10, 11] rfl), hb, hz2⟩ (fun n a w hI => ?_)
         obtain ⟨x10, x11, g, rfl, hst, hb, H2⟩ := hI
         cases n with
         | zero => exact absurd H2 (by simp [Zb9])
         | succ n =>
           rw [Zb9] at H2
           refine r_s (T := [⟨[.old 10, .old 9], _, [], [], [29]⟩]) (F := [.old 0, .old 1, .old 2, .old 3, .old 4, .old 5, .old 6, .old 7, .old 8, .old 9, .old 10, .op 0 0, .old 11]) hst hb Zb
             (o_p rfl (Zcg rfl rfl u_0 u_1) <| o_n) (by kernel_rfl) (fun a g hst hb => ?_)
           refine wp_seq ?_
           refine wp_cond_split (hst.bool 11 rfl) (fun hc12 => ?_) (fun hc12 => ?_)
           · replace H2 := Z3 hc12 H2
             refine wp_skip ?_
             refine Zj ?_
             refine wp_seq ?_
             refine Zbs (fun a w => ∃ (j25 : Zbn) (g : G), w = g.w ∧ St 59 [(0, (Zf.sl.pd a0)), (1, ((Kd.int .i64).sl.pd a1)), (2, (Kd.str.sl.pd a2)), (7, (pLB 3 12 512 false 14 16 j25)), (9, (pInt .i64 e6)), (17, ((Kd.int .i64).sl.pd a1)), (18, (pInt .i64 (a1.length : Int))), (19, (pInt .i64 x4)), (26, ((Kd.int .i64).sl.pd c8)), (27, (pInt .i64 (c8.length : Int))), (28, (pInt .i64 x11)), (1001, (pMT 12 512 j25.ahead))] a g ∧ Base g0 g ∧ Zex x11 (Zb9 a0 a2 e6 c8 n) j25 = some z27) ?_ ?_
             · rintro a w ⟨j25, g, rfl, hst, hb, H2⟩
               unfold Zex at H2
               refine Zj ?_
               refine r_g (T := [⟨[.old 10], _, [], [], [56]⟩, ⟨[.op 0 0], _, [], [0], [28]⟩]) (F := [.old 0, .old 1, .old 2, .old 3, .old 4, .old 5, .old 6, .old 7, .old 8, .old 9, .op 1 0, .old 11]) hst hb Zb
                 (o_p rfl (Zbw rfl rfl u_0 c_i rfl) <| o_p rfl (Za rfl rfl u_0) <| o_n) (by kernel_rfl) (fun a g hst hb => ?_)
               exact ⟨n, Nat.lt_succ_self _, j25, (IntKind.i64.wrap (x11 + (1 : Int))), g, rfl, (hst.pick [0, 1, 2, 3, 4, 5, 6, 7, 8, 9, 10, 11] rfl), hb, H2⟩
             · refine wp_block ?_
               obtain ⟨e13, h14, H2⟩ := Zd H2
               refine r_s (L := [(0, _), (1, _), (2, _), (7, _), (9, _), (17, _), (18, _), (19, _), (26, _), (27, _), (28, _), (1001, _)]) (T := [⟨[.old 8, .old 10], _, [], [], [30]⟩, ⟨[.op 0 0], _, [], [0], [31]⟩, ⟨[.op 1 0], _, [], [0, 1], [11]⟩]) (F := [.old 0, .old 1, .old 2, .old 3, .old 4, .op 2 0, .old 5, .old 6, .old 7, .old 8, .old 9, .old 10, .old 11]) (hst.pick [0, 1, 2, 3, 4, 5, 6, 7, 8, 9, 10, 12] rfl) hb Zb
                 (o_p rfl (Zs Try.underlying24 sz_3 rfl rfl u_0 u_1 h14) <| o_p rfl (Zg ty_3 rfl rfl u_0) <| o_p rfl (Zc rfl rfl u_0) <| o_n) (by kernel_rfl) (fun a g hst hb => ?_)
               obtain ⟨e15, h16, H2⟩ := Zd H2; obtain ⟨e17, h18, H2⟩ := Zd H2; obtain ⟨r19, h20, H2⟩ := Zd H2
               refine r_s (T := [⟨[.old 0], _, [], [], [32]⟩, ⟨[.old 5], _, [], [], [33]⟩, ⟨[.op 0 0, .op 1 0], _, [], [0, 1], [34]⟩, ⟨[.op 2 0], _, [], [0, 1, 2], [35]⟩, ⟨[.old 0], _, [], [], [36]⟩, ⟨[.old 4], _, [], [], [37]⟩, ⟨[.op 4 0, .op 5 0], _, [], [4, 5], [38]⟩, ⟨[.op 6 0], _, [], [4, 5, 6], [39]⟩, ⟨[.old 2], _, [], [], [40]⟩, ⟨[.op 3 0, .op 7 0, .op 8 0], _, [], Lr 9, [41]⟩]) (F := [.old 0, .old 1, .old 2, .old 3, .old 4, .old 5, .old 6, .old 7, .old 8, .old 9, .old 10, .old 11, .op 9 0, .old 12]) hst hb Zb
                 (o_p rfl (Za rfl rfl u_0) <| o_p rfl (Za rfl rfl u_0) <| o_p rfl (Zs Try.underlying22 Zho rfl rfl u_0 u_1 h16) <| o_p rfl (Zg Zdl rfl rfl u_0) <| o_p rfl (Za rfl rfl u_0) <| o_p rfl (Za rfl rfl u_0) <| o_p rfl (Zs Try.underlying22 Zho rfl rfl u_0 u_1 h18) <| o_p rfl (Zg Zdl rfl rfl u_0) <| o_p rfl (Za rfl rfl u_0) <| o_p rfl (Zbd Zn8 (Zix _ _ _ h20) rfl rfl (.cons u_0 (.cons u_1 (.cons u_2 .nil)))) <| o_n) (by kernel_rfl) (fun a g hst hb => ?_)
               refine wp_cond_split (hst.bool 12 rfl) (fun hc21 => ?_) (fun hc21 => ?_)
               · replace H2 := Z3 hc21 H2
                 obtain ⟨r22, h23, H2⟩ := Zd H2; obtain ⟨h24, H2⟩ := Zfg H2
                 refine r_g (L := [(0, _), (1, _), (2, _), (7, _), (9, _), (11, _), (17, _), (18, _), (19, _), (26, _), (27, _), (28, _), (1001, _)]) (T := ⟨[.old 3], _, [], [], [42]⟩ :: ⟨[.op 0 0], _, [], [0], [43]⟩ :: ⟨[.op 1 0], _, [], [0, 1], [44]⟩ :: ⟨[.op 2 0], _, [], [0, 1, 2], [45]⟩ :: ⟨[.old 4], _, [], [], [46]⟩ :: ⟨[.old 3], _, [], [], [47]⟩ :: ⟨[.op 5 0], _, [], [5], [48]⟩ :: ⟨[.op 6 0], _, [], [5, 6], [49]⟩ :: ⟨[.op 7 0], _, [], [5, 6, 7], [50]⟩ :: ⟨[.old 4], _, [], [], [51]⟩ :: ⟨[.op 8 0, .op 9 0, .old 12], _, [], List.range' 5 5, [52]⟩ :: ⟨[.old 5], _, [], [], [53]⟩ :: ⟨[.op 11 0], _, [], [11], [54]⟩ :: ⟨[.op 10 0, .op 12 0], _, [513], List.range' 5 8, [52, 55, 1001]⟩ :: ⟨[.op 3 0, .op 4 0, .op 13 0, .old 3], [(7, (pLB 3 12 512 false 14 16 (⟨x10.ahead.put e6 (r22 ++ ([e13] : List Int)), x10.left⟩ : Zbn))), (1001, (pMT 12 512 ((⟨x10.ahead.put e6 (r22 ++ ([e13] : List Int)), x10.left⟩ : Zbn).ahead)))], [13], Lr 14, [7, 42, 43, 44, 45, 47, 48, 49, 50, 1001]⟩ :: []) (F := [.old 0, .old 1, .old 2, .op 14 0, .old 4, .old 6, .old 7, .old 8, .old 9, .old 10, .old 11, .op 14 1]) (hst.pick [0, 1, 2, 3, 4, 5, 6, 7, 8, 9, 10, 11, 13] rfl) hb Zb
                   (o_p rfl (Za rfl rfl u_0) <| o_p rfl (Zcn rfl rfl u_0 (fun _ _ ⟨_, ⟨_, _, _, e, _⟩, _⟩ => ⟨_, e⟩)) <| o_p rfl (Zh5 Zis (by kernel_rfl) rfl rfl u_0) <| o_p rfl (Zie Zko rfl rfl u_0) <| o_p rfl (Za rfl rfl u_0) <| o_p rfl (Za rfl rfl u_0) <| o_p rfl (Zcn rfl rfl u_0 (fun _ _ ⟨_, ⟨_, _, _, e, _⟩, _⟩ => ⟨_, e⟩)) <| o_p rfl (Zh5 Zis (by kernel_rfl) rfl rfl u_0) <| o_p rfl (Zie Zko rfl rfl u_0) <| o_p rfl (Za rfl rfl u_0) <| o_p rfl (Zj6 Try.underlying51 Try.underlying3 (by kernel_rfl) h23 rfl rfl (Opd.joinM u_0 u_2) u_1) <| o_p rfl (Za rfl rfl u_0) <| o_p rfl (Zee Zdm (xs := [.tmp 53]) (.cons u_0 .nil) (by decide) rfl rfl) <| o_p rfl (Zfl Zdm rfl rfl u_0 u_1 h24) <| o_p rfl (OB.lbT (Zj1 (b := x10) (by decide) Try.underlying51 Try.underlying3 (by rw [h23]; rfl) rfl rfl u_3 u_0 u_1 u_2)) <| o_n) (by kernel_rfl) (fun a g hst hb => ?_)
                 refine Z5 ?_
                 exact ⟨(⟨x10.ahead.put e6 (r22 ++ ([e13] : List Int)), x10.left⟩ : Zbn), g, rfl, (hst.pick [0, 1, 2, 3, 4, 5, 6, 7, 8, 9, 10, 11] rfl), hb, H2⟩
               · replace H2 := Z2 hc21 H2
                 refine wp_skip ?_
                 refine Z5 ?_
                 exact ⟨x10, g, rfl, (hst.pick [0, 1, 2, 3, 4, 6, 7, 8, 9, 10, 11, 13] rfl), hb, H2⟩
           · replace H2 := Z2 hc12 H2
             refine wp_exit ?_
             refine Zz ?_
             refine Zz ?_
             refine Zbb ?_
             exact ⟨x10, g, rfl, (hst.pick [0, 1, 2, 3, 5, 6, 7, 12] rfl), hb, Option.some.inj H2⟩
     · replace H1 := Z2 hc5 H1
       refine wp_exit ?_
       refine Zz ?_
       refine Zz ?_
       refine Zbb ?_
       exact ⟨x3, g, rfl, (hst.pick [3, 8] rfl), hb, Option.some.inj H1⟩
theorem Zgh (a0 : List Int) (a1 : List Int) {r : Bool} (h : Zej a0 a1 = some r) : FnOk Try.prog 12 [((Kd.int .i64).sl.pd a0), ((Kd.int .i64).sl.pd a1)] (Zo r) := by
 have H0 := h
 unfold Zej at H0
 clear h
 refine Zb1 (N := 26) Try.func12 rfl rfl (Nat.le_of_ble_eq_true rfl) rfl rfl (fun a g0 hst hb => ?_)
 refine r_s (T := [⟨[], _, [], [], [4]⟩]) (F := [.old 0, .old 1]) hst hb Zb
   (o_p rfl (Zc rfl rfl c_b) <| o_n) (by kernel_rfl) (fun a g hst hb => ?_)
 refine wp_seq ?_
 refine r_s (T := [⟨[.old 0], _, [], [], [6]⟩, ⟨[.op 0 0], _, [], [0], [7]⟩, ⟨[.old 1], _, [], [], [8]⟩, ⟨[.op 2 0], _, [], [2], [9]⟩, ⟨[.op 1 0, .op 3 0], _, [], Lr 4, [10]⟩]) (F := [.old 0, .old 1, .op 4 0]) hst hb Zb
   (o_p rfl (Za rfl rfl u_0) <| o_p rfl (Z7 Try.underlying24 rfl rfl u_0) <| o_p rfl (Za rfl rfl u_0) <| o_p rfl (Z7 Try.underlying24 rfl rfl u_0) <| o_p rfl (Zke rfl rfl u_0 u_1) <| o_n) (by kernel_rfl) (fun a g hst hb => ?_)
 refine wp_cond_split (hst.bool 2 rfl) (fun hc1 => ?_) (fun hc1 => ?_)
 · replace H0 := Z3 hc1 H0
   refine r_s (L := []) (T := [⟨[], _, [], [], [4]⟩]) (F := [.op 0 0]) (hst.pick [] rfl) hb Zb
     (o_p rfl (Zc rfl rfl c_b) <| o_n) (by kernel_rfl) (fun a g hst hb => ?_)
   refine wp_ret ?_
   refine Zi ?_
   obtain rfl := Option.some.inj H0
   exact Z6 rfl hst hb (Zl (s := 4)) (hst.at 0 rfl)
 · replace H0 := Z2 hc1 H0
   refine wp_skip ?_
   refine Zj ?_
   refine wp_seq ?_
   refine r_s (L := [(0, _), (1, _)]) (T := [⟨[], _, [], [], [5]⟩]) (F := [.old 0, .old 1, .op 0 0]) (hst.pick [0, 1] rfl) hb Zb
     (o_p rfl (Zc rfl rfl c_i) <| o_n) (by kernel_rfl) (fun a g hst hb => ?_)
   obtain ⟨z9, hz1, H0⟩ := Zd H0
   refine Zbs (fun a w => ∃ (g : G), w = g.w ∧ St 26 [] a g ∧ Base g0 g ∧ (.inr ()) = z9) ?_ ?_
   · rintro a w ⟨g, rfl, hst, hb, rfl⟩
     refine Zj ?_
     refine r_s (T := [⟨[], _, [], [], [4]⟩]) (F := [.op 0 0]) hst hb Zb
       (o_p rfl (Zc rfl rfl c_b) <| o_n) (by kernel_rfl) (fun a g hst hb => ?_)
     refine wp_ret ?_
     obtain rfl := Option.some.inj H0
     exact Z6 rfl hst hb (Zl (s := 4)) (hst.at 0 rfl)
   · refine wp_block ?_
     refine wp_loop_ghost (fun n a w => ∃ (x2 : Int) (g : G), w = g.w ∧ St 26 [(0, ((Kd.int .i64).sl.pd a0)), (1, ((Kd.int .i64).sl.pd a1)), (5, (pInt .i64 x2))] a g ∧ Base g0 g ∧ Zci a0 a1 n x2 = some z9) (Int.toNat ((a0.length : Int) - (0 : Int)) + 1) ⟨(0 : Int), g, rfl, (hst.pick [0, 1, 2] rfl), hb, hz1⟩ (fun n a w hI => ?_)
     obtain ⟨x2, g, rfl, hst, hb, H1⟩ := hI
     cases n with
     | zero => exact absurd H1 (by simp [Zci])
     | succ n =>
       rw [Zci] at H1
       refine wp_seq ?_
       refine r_s (T := [⟨[.old 2], _, [], [], [11]⟩, ⟨[.old 0], _, [], [], [12]⟩, ⟨[.op 1 0], _, [], [1], [13]⟩, ⟨[.op 0 0, .op 2 0], _, [], [0, 1, 2], [14]⟩]) (F := [.old 0, .old 1, .old 2, .op 3 0]) hst hb Zb
         (o_p rfl (Za rfl rfl u_0) <| o_p rfl (Za rfl rfl u_0) <| o_p rfl (Z7 Try.underlying24 rfl rfl u_0) <| o_p rfl (Zcg rfl rfl u_0 u_1) <| o_n) (by kernel_rfl) (fun a g hst hb => ?_)
       refine wp_cond_split (hst.bool 3 rfl) (fun hc3 => ?_) (fun hc3 => ?_)
       · replace H1 := Z3 hc3 H1
         refine wp_skip ?_
         refine Zj ?_
         refine wp_seq ?_
         refine wp_block ?_
         obtain ⟨e4, h5, H1⟩ := Zd H1; obtain ⟨e6, h7, H1⟩ := Zd H1
         refine r_s (L := [(0, _), (1, _), (5, _)]) (T := [⟨[.old 0], _, [], [], [17]⟩, ⟨[.old 2], _, [], [], [18]⟩, ⟨[.op 0 0, .op 1 0], _, [], [0, 1], [19]⟩, ⟨[.op 2 0], _, [], [0, 1, 2], [20]⟩, ⟨[.old 1], _, [], [], [21]⟩, ⟨[.old 2], _, [], [], [22]⟩, ⟨[.op 4 0, .op 5 0], _, [], [4, 5], [23]⟩, ⟨[.op 6 0], _, [], [4, 5, 6], [24]⟩, ⟨[.op 3 0, .op 7 0], _, [], Lr 8, [25]⟩]) (F := [.old 0, .old 1, .old 2, .op 8 0]) (hst.pick [0, 1, 2] rfl) hb Zb
           (o_p rfl (Za rfl rfl u_0) <| o_p rfl (Za rfl rfl u_0) <| o_p rfl (Zs Try.underlying24 sz_3 rfl rfl u_0 u_1 h5) <| o_p rfl (Zg ty_3 rfl rfl u_0) <| o_p rfl (Za rfl rfl u_0) <| o_p rfl (Za rfl rfl u_0) <| o_p rfl (Zs Try.underlying24 sz_3 rfl rfl u_0 u_1 h7) <| o_p rfl (Zg ty_3 rfl rfl u_0) <| o_p rfl (Zke rfl rfl u_0 u_1) <| o_n) (by kernel_rfl) (fun a g hst hb => ?_)
         refine wp_cond_split (hst.bool 3 rfl) (fun hc8 => ?_) (fun hc8 => ?_)
         · replace H1 := Z3 hc8 H1
           refine r_s (L := []) (T := [⟨[], _, [], [], [4]⟩]) (F := [.op 0 0]) (hst.pick [] rfl) hb Zb
             (o_p rfl (Zc rfl rfl c_b) <| o_n) (by kernel_rfl) (fun a g hst hb => ?_)
           refine wp_ret ?_
           refine Zq ?_
           refine Zi ?_
           refine Zi ?_
           refine Zq ?_
           refine Zi ?_
           refine Zi ?_
           obtain rfl := Option.some.inj H1
           obtain rfl := Option.some.inj H0
           exact Z6 rfl hst hb (Zl (s := 4)) (hst.at 0 rfl)
         · replace H1 := Z2 hc8 H1
           refine wp_skip ?_
           refine Z5 ?_
           refine Zj ?_
           refine r_g (L := [(0, _), (1, _), (5, _)]) (T := [⟨[.old 2], _, [], [], [15]⟩, ⟨[.op 0 0], _, [], [0], [16]⟩, ⟨[.op 1 0], _, [], [0, 1], [5]⟩]) (F := [.old 0, .old 1, .op 2 0]) (hst.pick [0, 1, 2] rfl) hb Zb
             (o_p rfl (Za rfl rfl u_0) <| o_p rfl (Zbw rfl rfl u_0 c_i rfl) <| o_p rfl (Zc rfl rfl u_0) <| o_n) (by kernel_rfl) (fun a g hst hb => ?_)
           exact ⟨n, Nat.lt_succ_self _, (IntKind.i64.wrap (x2 + (1 : Int))), g, rfl, (hst.pick [0, 1, 2] rfl), hb, H1⟩
       · replace H1 := Z2 hc3 H1
         refine wp_exit ?_
         refine Zz ?_
         refine Zz ?_
         refine Zbb ?_
         exact ⟨g, rfl, (hst.pick [] rfl), hb, Option.some.inj H1⟩
theorem Zfk (a0 : List Int) (a1 : Int) {r : Int} (h : Zcx a0 a1 = some r) : FnOk Try.prog 33 [((Kd.int .i64).sl.pd a0), (pInt .i64 a1)] (pInt .i64 r) := by
 have H0 := h
 unfold Zcx at H0
 clear h
 refine Zb1 (N := 19) Try.func33 rfl rfl (Nat.le_of_ble_eq_true rfl) rfl rfl (fun a g0 hst hb => ?_)
 refine r_s (T := [⟨[], _, [], [], [4]⟩]) (F := [.old 0, .old 1]) hst hb Zb
   (o_p rfl (Zc rfl rfl c_i) <| o_n) (by kernel_rfl) (fun a g hst hb => ?_)
 refine wp_seq ?_
 refine r_s (T := [⟨[.old 0], _, [], [], [6]⟩, ⟨[.op 0 0], _, [], [0], [7]⟩, ⟨[], _, [], [], [8]⟩]) (F := [.old 0, .old 1, .op 0 0, .op 1 0, .op 2 0]) hst hb Zb
   (o_p rfl (Za rfl rfl u_0) <| o_p rfl (Z7 Try.underlying24 rfl rfl u_0) <| o_p rfl (Za rfl rfl c_i) <| o_n) (by kernel_rfl) (fun a g hst hb => ?_)
 obtain ⟨z6, hz1, H0⟩ := Zd H0
 refine Zbs (fun a w => ∃ (g : G), w = g.w ∧ St 19 [] a g ∧ Base g0 g ∧ (.inr ()) = z6) ?_ ?_
 · rintro a w ⟨g, rfl, hst, hb, rfl⟩
   refine Zj ?_
   refine r_s (T := [⟨[], _, [], [], [4]⟩]) (F := [.op 0 0]) hst hb Zb
     (o_p rfl (Zc rfl rfl c_i) <| o_n) (by kernel_rfl) (fun a g hst hb => ?_)
   refine wp_ret ?_
   obtain rfl := Option.some.inj H0
   exact Z6 rfl hst hb (Zl (s := 4)) (hst.at 0 rfl)
 · refine wp_block ?_
   refine wp_loop_ghost (fun n a w => ∃ (x1 : Int) (g : G), w = g.w ∧ St 19 [(0, ((Kd.int .i64).sl.pd a0)), (1, (pInt .i64 a1)), (6, ((Kd.int .i64).sl.pd a0)), (7, (pInt .i64 (a0.length : Int))), (8, (pInt .i64 x1))] a g ∧ Base g0 g ∧ Zba a0 a1 n x1 = some z6) (Int.toNat ((a0.length : Int) - (0 : Int)) + 1) ⟨(0 : Int), g, rfl, (hst.pick [0, 1, 2, 3, 4] rfl), hb, hz1⟩ (fun n a w hI => ?_)
   obtain ⟨x1, g, rfl, hst, hb, H1⟩ := hI
   cases n with
   | zero => exact absurd H1 (by simp [Zba])
   | succ n =>
     rw [Zba] at H1
     refine r_s (T := [⟨[.old 4, .old 3], _, [], [], [9]⟩]) (F := [.old 0, .old 1, .old 2, .old 3, .old 4, .op 0 0]) hst hb Zb
       (o_p rfl (Zcg rfl rfl u_0 u_1) <| o_n) (by kernel_rfl) (fun a g hst hb => ?_)
     refine wp_seq ?_
     refine wp_cond_split (hst.bool 5 rfl) (fun hc2 => ?_) (fun hc2 => ?_)
     · replace H1 := Z3 hc2 H1
       refine wp_skip ?_
       refine Zj ?_
       refine wp_seq ?_
       refine wp_block ?_
       refine r_s (L := [(0, _), (1, _), (6, _), (7, _), (8, _)]) (T := [⟨[.old 4], _, [], [], [10]⟩, ⟨[.op 0 0], _, [], [0], [5]⟩]) (F := [.old 0, .old 1, .op 1 0, .old 2, .old 3, .old 4]) (hst.pick [0, 1, 2, 3, 4] rfl) hb Zb
         (o_p rfl (Za rfl rfl u_0) <| o_p rfl (Zc rfl rfl u_0) <| o_n) (by kernel_rfl) (fun a g hst hb => ?_)
       obtain ⟨e3, h4, H1⟩ := Zd H1
       refine r_s (T := [⟨[.old 1], _, [], [], [11]⟩, ⟨[.old 0], _, [], [], [12]⟩, ⟨[.old 2], _, [], [], [13]⟩, ⟨[.op 1 0, .op 2 0], _, [], [1, 2], [14]⟩, ⟨[.op 3 0], _, [], [1, 2, 3], [15]⟩, ⟨[.op 0 0, .op 4 0], _, [], Lr 5, [16]⟩]) (F := [.old 0, .old 1, .old 2, .old 3, .old 4, .old 5, .op 5 0]) hst hb Zb
         (o_p rfl (Za rfl rfl u_0) <| o_p rfl (Za rfl rfl u_0) <| o_p rfl (Za rfl rfl u_0) <| o_p rfl (Zs Try.underlying24 sz_3 rfl rfl u_0 u_1 h4) <| o_p rfl (Zg ty_3 rfl rfl u_0) <| o_p rfl (Zcr rfl rfl u_0 u_1) <| o_n) (by kernel_rfl) (fun a g hst hb => ?_)
       refine wp_cond_split (hst.bool 6 rfl) (fun hc5 => ?_) (fun hc5 => ?_)
       · replace H1 := Z3 hc5 H1
         refine r_s (L := [(5, _)]) (T := [⟨[.old 0], _, [], [], [17]⟩, ⟨[.op 0 0], _, [], [0], [4]⟩]) (F := [.op 1 0]) (hst.pick [2] rfl) hb Zb
           (o_p rfl (Za rfl rfl u_0) <| o_p rfl (Zc rfl rfl u_0) <| o_n) (by kernel_rfl) (fun a g hst hb => ?_)
         refine wp_ret ?_
         refine Zq ?_
         refine Zi ?_
         refine Zi ?_
         refine Zq ?_
         refine Zi ?_
         refine Zi ?_
         obtain rfl := Option.some.inj H1
         obtain rfl := Option.some.inj H0
         exact Z6 rfl hst hb (Zl (s := 4)) (hst.at 0 rfl)
       · replace H1 := Z2 hc5 H1
         refine wp_skip ?_
         refine Z5 ?_
         refine Zj ?_
         refine r_g (L := [(0, _), (1, _), (6, _), (7, _), (8, _)]) (T := [⟨[.old 4], _, [], [], [18]⟩, ⟨[.op 0 0], _, [], [0], [8]⟩]) (F := [.old 0, .old 1, .old 2, .old 3, .op 1 0]) (hst.pick [0, 1, 3, 4, 5] rfl) hb Zb
           (o_p rfl (Zbw rfl rfl u_0 c_i rfl) <| o_p rfl (Za rfl rfl u_0) <| o_n) (by kernel_rfl) (fun a g hst hb => ?_)
         exact ⟨n, Nat.lt_succ_self _, (IntKind.i64.wrap (x1 + (1 : Int))), g, rfl, (hst.pick [0, 1, 2, 3, 4] rfl), hb, H1⟩
     · replace H1 := Z2 hc2 H1
       refine wp_exit ?_
       refine Zz ?_
       refine Zz ?_
       refine Zbb ?_
       exact ⟨g, rfl, (hst.pick [] rfl), hb, Option.some.inj H1⟩
theorem Zcv (a0 : List Int) (a1 : Int) {r : Bool} (h : Zbj a0 a1 = some r) : FnOk Try.prog 23 [((Kd.int .i64).sl.pd a0), (pInt .i64 a1)] (Zo r) := by
 have H0 := h
 unfold Zbj at H0
 clear h
 refine Zb1 (N := 9) Try.func23 rfl rfl (Nat.le_of_ble_eq_true rfl) rfl rfl (fun a g0 hst hb => ?_)
 refine r_s (T := [⟨[], _, [], [], [4]⟩]) (F := [.old 0, .old 1]) hst hb Zb
   (o_p rfl (Zc rfl rfl c_b) <| o_n) (by kernel_rfl) (fun a g hst hb => ?_)
 obtain ⟨r1, h2, H0⟩ := Zd H0
 refine r_s (T := [⟨[.old 0], _, [], [], [5]⟩, ⟨[.old 1], _, [], [], [6]⟩, ⟨[.op 0 0, .op 1 0], _, [], [0, 1], [7]⟩, ⟨[.op 2 0], _, [], [0, 1, 2], [8]⟩, ⟨[.op 3 0], _, [], Lr 4, [4]⟩]) (F := [.op 4 0]) hst hb Zb
   (o_p rfl (Za rfl rfl u_0) <| o_p rfl (Za rfl rfl u_0) <| o_p rfl (Zbd Zny (Zfk _ _ h2) rfl rfl (.cons u_0 (.cons u_1 .nil))) <| o_p rfl (Zil rfl rfl u_0 c_i) <| o_p rfl (Zc rfl rfl u_0) <| o_n) (by kernel_rfl) (fun a g hst hb => ?_)
 refine wp_ret ?_
 obtain rfl := Option.some.inj H0
 exact Z6 rfl hst hb (Zl (s := 4)) (hst.at 0 rfl)
theorem Ze0 (a0 : Z1) (a1 : Int) {r : List Int} (h : Zb0 a0 a1 = some r) : FnL Try.prog 13 [(Zdv.ptr a0), (pInt .i64 a1)] ((Kd.int .i64).sl.pd r) := by
 have H0 := h
 unfold Zb0 at H0
 clear h
 refine Zmm (N := 38) (e := 3) Zmq Try.func13 rfl rfl (Nat.le_of_ble_eq_true rfl) rfl (fun a g0 h0 hst hb => ?_)
 refine r_s (T := [⟨[], [(4, (pRow (Kd.int .i64) 3 4 ([] : List Int)))], [], [], [4]⟩]) (F := [.old 0, .old 1]) hst hb Zb
   (o_p rfl (Zc rfl rfl (Opd.c (fun g => Zfa 4 g))) <| o_n) (by kernel_rfl) (fun a g hst hb => ?_)
 refine wp_seq ?_
 obtain ⟨r1, h2, H0⟩ := Zd H0
 refine r_s (T := [⟨[.old 0], _, [], [], [8]⟩, ⟨[.op 0 0], _, [], [0], [9]⟩, ⟨[.op 1 0], _, [], [0, 1], [10]⟩, ⟨[.op 2 0], _, [], [0, 1, 2], [11]⟩, ⟨[.old 1], _, [], [], [12]⟩, ⟨[.op 3 0, .op 4 0], _, [], Lr 5, [13]⟩, ⟨[.op 5 0], _, [], Lr 6, [14]⟩]) (F := [.old 0, .old 1, .op 6 0]) hst hb Zb
   (o_p rfl (Za rfl rfl u_0) <| o_p rfl (Zcn rfl rfl u_0 (fun _ _ ⟨_, _, _, e, _⟩ => ⟨_, e⟩)) <| o_p rfl (Zh Zg1 rfl rfl u_0) <| o_p rfl (Zg Zio rfl rfl u_0) <| o_p rfl (Za rfl rfl u_0) <| o_p rfl (Zbd Zkn (Zcv _ _ h2) rfl rfl (.cons u_0 (.cons u_1 .nil))) <| o_p rfl (Zdu rfl rfl u_0) <| o_n) (by kernel_rfl) (fun a g hst hb => ?_)
 refine wp_cond_split (hst.bool 2 rfl) (fun hc3 => ?_) (fun hc3 => ?_)
 · replace H0 := Z3 hc3 H0
   refine r_s (L := []) (T := [⟨[], [(4, (pRow (Kd.int .i64) 3 4 ([] : List Int)))], [], [], [4]⟩]) (F := [.op 0 0]) (hst.pick [] rfl) hb Zb
     (o_p rfl (Zc rfl rfl (Opd.c (fun g => Zfa 4 g))) <| o_n) (by kernel_rfl) (fun a g hst hb => ?_)
   refine wp_ret ?_
   refine Zi ?_
   obtain rfl := Option.some.inj H0
   exact Zkr rfl hst hb (Zl (s := 4)) (hst.at 0 rfl)
 · replace H0 := Z2 hc3 H0
   refine wp_skip ?_
   refine Zj ?_
   refine r_s (L := [(0, _), (1, _)]) (T := [⟨[], [(5, (pRow (Kd.int .i64) 3 5 ([] : List Int)))], [], [], [5]⟩]) (F := [.old 0, .old 1, .op 0 0]) (hst.pick [0, 1] rfl) hb Zb
     (o_p rfl (Zc rfl rfl (Opd.c (fun g => Zfa 5 g))) <| o_n) (by kernel_rfl) (fun a g hst hb => ?_)
   refine wp_seq ?_
   refine r_s (T := [⟨[.old 0], _, [], [], [15]⟩, ⟨[.op 0 0], _, [], [0], [16]⟩, ⟨[.op 1 0], _, [], [0, 1], [17]⟩, ⟨[.op 2 0], _, [], [0, 1, 2], [18]⟩, ⟨[.old 1], _, [], [], [19]⟩, ⟨[.op 3 0, .op 4 0], _, [], Lr 5, [20]⟩, ⟨[.op 5 0], _, [], Lr 6, [21]⟩, ⟨[], _, [], [], [22]⟩]) (F := [.old 0, .old 2, .op 5 0, .op 6 0, .op 7 0]) hst hb Zb
     (o_p rfl (Za rfl rfl u_0) <| o_p rfl (Zcn rfl rfl u_0 (fun _ _ ⟨_, _, _, e, _⟩ => ⟨_, e⟩)) <| o_p rfl (Zh Zmy rfl rfl u_0) <| o_p rfl (Zg Znk rfl rfl u_0) <| o_p rfl (Za rfl rfl u_0) <| o_p rfl (Zla (zv := []) Try.underlying51 Try.underlying3 (by kernel_rfl) (fun g => Kd.sl_nil _ g) rfl rfl u_0 u_1) <| o_p rfl (Z7 Try.underlying24 rfl rfl u_0) <| o_p rfl (Za rfl rfl c_i) <| o_n) (by kernel_rfl) (fun a g hst hb => ?_)
   obtain ⟨z15, hz1, H0⟩ := Zd H0
   refine Zbs (fun a w => ∃ (y14 : List Int) (g : G), w = g.w ∧ St 38 [(5, (pRow (Kd.int .i64) 3 5 y14))] a g ∧ Base g0 g ∧ y14 = z15) ?_ ?_
   · rintro a w ⟨y14, g, rfl, hst, hb, rfl⟩
     refine Zj ?_
     refine r_s (T := [⟨[.old 0], _, [], [], [37]⟩, ⟨[.op 0 0], _, [], [0], [4]⟩]) (F := [.op 1 0]) hst hb Zb
       (o_p rfl (Za rfl rfl u_0) <| o_p rfl (Zc rfl rfl u_0) <| o_n) (by kernel_rfl) (fun a g hst hb => ?_)
     refine wp_ret ?_
     obtain rfl := Option.some.inj H0
     exact Zkr rfl hst hb (Zl (s := 4)) (hst.at 0 rfl)
   · refine wp_block ?_
     refine wp_loop_ghost (fun n a w => ∃ (x4 : List Int) (x5 : Int) (g : G), w = g.w ∧ St 38 [(0, (Zdv.ptr a0)), (5, (pRow (Kd.int .i64) 3 5 x4)), (20, ((Kd.int .i64).sl.pd (mget [] a0.ahead a1))), (21, (pInt .i64 ((mget [] a0.ahead a1).length : Int))), (22, (pInt .i64 x5))] a g ∧ Base g0 g ∧ Zbc a0 a1 n x4 x5 = some z15) (Int.toNat (((mget [] a0.ahead a1).length : Int) - (0 : Int)) + 1) ⟨([] : List Int), (0 : Int), g, rfl, (hst.pick [0, 1, 2, 3, 4] rfl), hb, hz1⟩ (fun n a w hI => ?_)
     obtain ⟨x4, x5, g, rfl, hst, hb, H1⟩ := hI
     cases n with
     | zero => exact absurd H1 (by simp [Zbc])
     | succ n =>
       rw [Zbc] at H1
       refine r_s (T := [⟨[.old 4, .old 3], _, [], [], [23]⟩]) (F := [.old 0, .old 1, .old 2, .old 3, .old 4, .op 0 0]) hst hb Zb
         (o_p rfl (Zcg rfl rfl u_0 u_1) <| o_n) (by kernel_rfl) (fun a g hst hb => ?_)
       refine wp_seq ?_
       refine wp_cond_split (hst.bool 5 rfl) (fun hc6 => ?_) (fun hc6 => ?_)
       · replace H1 := Z3 hc6 H1
         refine wp_skip ?_
         refine Zj ?_
         refine wp_seq ?_
         refine Zbs (fun a w => ∃ (j13 : List Int) (g : G), w = g.w ∧ St 38 [(0, (Zdv.ptr a0)), (5, (pRow (Kd.int .i64) 3 5 j13)), (20, ((Kd.int .i64).sl.pd (mget [] a0.ahead a1))), (21, (pInt .i64 ((mget [] a0.ahead a1).length : Int))), (22, (pInt .i64 x5))] a g ∧ Base g0 g ∧ Zde x5 (Zbc a0 a1 n) j13 = some z15) ?_ ?_
         · rintro a w ⟨j13, g, rfl, hst, hb, H1⟩
           unfold Zde at H1
           refine Zj ?_
           refine r_g (T := [⟨[.old 4], _, [], [], [36]⟩, ⟨[.op 0 0], _, [], [0], [22]⟩]) (F := [.old 0, .old 1, .old 2, .old 3, .op 1 0]) hst hb Zb
             (o_p rfl (Zbw rfl rfl u_0 c_i rfl) <| o_p rfl (Za rfl rfl u_0) <| o_n) (by kernel_rfl) (fun a g hst hb => ?_)
           exact ⟨n, Nat.lt_succ_self _, j13, (IntKind.i64.wrap (x5 + (1 : Int))), g, rfl, (hst.pick [0, 1, 2, 3, 4] rfl), hb, H1⟩
         · refine wp_block ?_
           obtain ⟨e7, h8, H1⟩ := Zd H1
           refine r_s (L := [(0, _), (5, _), (20, _), (21, _), (22, _)]) (T := [⟨[.old 2, .old 4], _, [], [], [24]⟩, ⟨[.op 0 0], _, [], [0], [25]⟩, ⟨[.op 1 0], _, [], [0, 1], [7]⟩]) (F := [.old 0, .old 1, .op 2 0, .old 2, .old 3, .old 4]) (hst.pick [0, 1, 2, 3, 4] rfl) hb Zb
             (o_p rfl (Zs Try.underlying24 sz_3 rfl rfl u_0 u_1 h8) <| o_p rfl (Zg ty_3 rfl rfl u_0) <| o_p rfl (Zc rfl rfl u_0) <| o_n) (by kernel_rfl) (fun a g hst hb => ?_)
           obtain ⟨r9, h10, H1⟩ := Zd H1
           refine r_s (T := [⟨[.old 0], _, [], [], [26]⟩, ⟨[.op 0 0], _, [], [0], [27]⟩, ⟨[.op 1 0], _, [], [0, 1], [28]⟩, ⟨[.op 2 0], _, [], [0, 1, 2], [29]⟩, ⟨[.old 2], _, [], [], [30]⟩, ⟨[.op 3 0, .op 4 0], _, [], Lr 5, [31]⟩]) (F := [.old 0, .old 1, .old 2, .old 3, .old 4, .old 5, .op 5 0]) hst hb Zb
             (o_p rfl (Za rfl rfl u_0) <| o_p rfl (Zcn rfl rfl u_0 (fun _ _ ⟨_, _, _, e, _⟩ => ⟨_, e⟩)) <| o_p rfl (Zh Zg1 rfl rfl u_0) <| o_p rfl (Zg Zio rfl rfl u_0) <| o_p rfl (Za rfl rfl u_0) <| o_p rfl (Zbd Zkn (Zcv _ _ h10) rfl rfl (.cons u_0 (.cons u_1 .nil))) <| o_n) (by kernel_rfl) (fun a g hst hb => ?_)
           refine wp_cond_split (hst.bool 6 rfl) (fun hc11 => ?_) (fun hc11 => ?_)
           · replace H1 := Z3 hc11 H1
             obtain ⟨h12, H1⟩ := Zfg H1
             refine r_g (L := [(0, _), (5, _), (7, _), (20, _), (21, _), (22, _)]) (T := [⟨[.old 1], _, [], [], [32]⟩, ⟨[.old 2], _, [], [], [33]⟩, ⟨[.op 1 0], _, [], [1], [34]⟩, ⟨[.op 0 0, .op 2 0], _, [6], [0, 1, 2], [5, 32, 35]⟩, ⟨[.op 3 0], _, [], Lr 4, [5]⟩]) (F := [.old 0, .op 4 0, .old 3, .old 4, .old 5]) (hst.pick [0, 1, 2, 3, 4, 5] rfl) hb Zb
               (o_p rfl (Za rfl rfl u_0) <| o_p rfl (Za rfl rfl u_0) <| o_p rfl (Zee Zdm (xs := [.tmp 33]) (.cons u_0 .nil) (by decide) rfl rfl) <| o_p rfl (Zfl Zdm rfl rfl u_0 u_1 h12) <| o_p rfl (Zc rfl rfl u_0) <| o_n) (by kernel_rfl) (fun a g hst hb => ?_)
             refine Z5 ?_
             exact ⟨(x4 ++ ([e7] : List Int)), g, rfl, (hst.pick [0, 1, 2, 3, 4] rfl), hb, H1⟩
           · replace H1 := Z2 hc11 H1
             refine wp_skip ?_
             refine Z5 ?_
             exact ⟨x4, g, rfl, (hst.pick [0, 1, 3, 4, 5] rfl), hb, H1⟩
       · replace H1 := Z2 hc6 H1
         refine wp_exit ?_
         refine Zz ?_
         refine Zz ?_
         refine Zbb ?_
         exact ⟨x4, g, rfl, (hst.pick [1] rfl), hb, Option.some.inj H1⟩
theorem Ze1 (a0 : Z1) (a1 : Int) {r : List Int} (h : Zb0 a0 a1 = some r) : FnM Try.prog 13 Zx a0 a0 [(pInt .i64 a1)] ((Kd.int .i64).sl.pd r) := Zhf Zfm (Ze0 a0 a1 h) rfl
theorem Zgg (a0 : Z1) (a1 : Int) {r : Bool} (h : Zbf a0 a1 = some r) : FnOk Try.prog 14 [(Zdv.ptr a0), (pInt .i64 a1)] (Zo r) := by
 have H0 := h
 unfold Zbf at H0
 clear h
 refine Zb1 (N := 18) Try.func14 rfl rfl (Nat.le_of_ble_eq_true rfl) rfl rfl (fun a g0 hst hb => ?_)
 refine r_s (T := [⟨[], _, [], [], [4]⟩]) (F := [.old 0, .old 1]) hst hb Zb
   (o_p rfl (Zc rfl rfl c_b) <| o_n) (by kernel_rfl) (fun a g hst hb => ?_)
 obtain ⟨r1, h2, H0⟩ := Zd H0; obtain ⟨r3, h4, H0⟩ := Zd H0
 refine r_s (T := ⟨[.old 0], _, [], [], [5]⟩ :: ⟨[.op 0 0], _, [], [0], [6]⟩ :: ⟨[.op 1 0], _, [], [0, 1], [7]⟩ :: ⟨[.op 2 0], _, [], [0, 1, 2], [8]⟩ :: ⟨[.old 1], _, [], [], [9]⟩ :: ⟨[.op 3 0, .op 4 0], _, [], Lr 5, [10]⟩ :: ⟨[.op 5 0], _, [], Lr 6, [11]⟩ :: ⟨[.op 6 0, .old 0], _, [], Lr 7, [12]⟩ :: ⟨[.op 6 0, .old 1], _, [], Lr 7, [13]⟩ :: ⟨[.op 6 0, .op 7 0, .op 8 0], _, [], Lr 9, [14]⟩ :: ⟨[.op 6 0, .op 9 0], _, [], Lr 10, [15]⟩ :: ⟨[.op 6 0, .op 10 0], _, [], Lr 11, [16]⟩ :: ⟨[.op 6 0, .op 11 0], _, [], Lr 12, [17]⟩ :: ⟨[.op 12 0], _, [], Lr 13, [4]⟩ :: []) (F := [.op 13 0]) hst hb Zb
   (o_p rfl (Za rfl rfl u_0) <| o_p rfl (Zcn rfl rfl u_0 (fun _ _ ⟨_, _, _, e, _⟩ => ⟨_, e⟩)) <| o_p rfl (Zh Zg1 rfl rfl u_0) <| o_p rfl (Zg Zio rfl rfl u_0) <| o_p rfl (Za rfl rfl u_0) <| o_p rfl (Zbd Zkn (Zcv _ _ h2) rfl rfl (.cons u_0 (.cons u_1 .nil))) <| o_p rfl (Za rfl rfl u_0) <| o_g (g_t rfl rfl rfl (fun hG => Za rfl rfl u_0)) <| o_g (g_t rfl rfl rfl (fun hG => Za rfl rfl u_0)) <| o_g (g_t rfl rfl rfl (fun hG => Zbd Zj2 (Ze0 _ _ (Zbi h4 hG)).ok rfl rfl (.cons (Opd.gd hG u_0) (.cons (Opd.gd hG u_1) .nil)))) <| o_g (g_t rfl rfl rfl (fun hG => Z7 Try.underlying24 rfl rfl (Opd.gd hG u_0))) <| o_g (g_t rfl rfl rfl (fun hG => Zcr rfl rfl (Opd.gd hG u_0) c_i)) <| o_p rfl (Zb2 rfl rfl u_0 (fun hz => (Opd.gd hz u_1))) <| o_p rfl (Zc rfl rfl u_0) <| o_n) (by kernel_rfl) (fun a g hst hb => ?_)
 refine wp_ret ?_
 obtain rfl := Option.some.inj H0
 exact Z6 rfl hst hb (Zl (s := 4)) (hst.at 0 rfl)
theorem Ze2 (a0 : Z1) (a1 : Int) {r : Bool} (h : Zbf a0 a1 = some r) : FnL Try.prog 14 [(Zdv.ptr a0), (pInt .i64 a1)] (Zo r) := FnL.of (Zgg a0 a1 h) Zks
theorem Zcq (a0 : Z1) (a1 : Int) {r : Bool} (h : Zbf a0 a1 = some r) : FnM Try.prog 14 Zx a0 a0 [(pInt .i64 a1)] (Zo r) := Zhf Zfm (Ze2 a0 a1 h) rfl
theorem Zez (f1 : Nat) (C1 : List Pd) (hC1 : Free C1) (e1_ : Zk Try.prog f1) (φ1 : Int → Option Bool) (hφ1 : ∀ (y0 : Int) (r : Bool), φ1 y0 = some r → FnOk Try.prog f1 ([(pInt .i64 y0)] ++ C1) (Zo r)) (a0 : List Int) {r : Int} (h : Zcb a0 φ1 = some r) : FnOk Try.prog 34 [((Kd.int .i64).sl.pd a0), (pClo f1 C1 hC1)] (pInt .i64 r) := by
 have H0 := h
 unfold Zcb at H0
 clear h
 refine Zb1 (N := 19) Try.func34 rfl rfl (Nat.le_of_ble_eq_true rfl) rfl rfl (fun a g0 hst hb => ?_)
 refine r_s (T := [⟨[], _, [], [], [4]⟩]) (F := [.old 0, .old 1]) hst hb Zb
   (o_p rfl (Zc rfl rfl c_i) <| o_n) (by kernel_rfl) (fun a g hst hb => ?_)
 refine wp_seq ?_
 refine r_s (T := [⟨[.old 0], _, [], [], [6]⟩, ⟨[.op 0 0], _, [], [0], [7]⟩, ⟨[], _, [], [], [8]⟩]) (F := [.old 0, .old 1, .op 0 0, .op 1 0, .op 2 0]) hst hb Zb
   (o_p rfl (Za rfl rfl u_0) <| o_p rfl (Z7 Try.underlying24 rfl rfl u_0) <| o_p rfl (Za rfl rfl c_i) <| o_n) (by kernel_rfl) (fun a g hst hb => ?_)
 obtain ⟨z8, hz1, H0⟩ := Zd H0
 refine Zbs (fun a w => ∃ (g : G), w = g.w ∧ St 19 [] a g ∧ Base g0 g ∧ (.inr ()) = z8) ?_ ?_
 · rintro a w ⟨g, rfl, hst, hb, rfl⟩
   refine Zj ?_
   refine r_s (T := [⟨[], _, [], [], [4]⟩]) (F := [.op 0 0]) hst hb Zb
     (o_p rfl (Zc rfl rfl c_i) <| o_n) (by kernel_rfl) (fun a g hst hb => ?_)
   refine wp_ret ?_
   obtain rfl := Option.some.inj H0
   exact Z6 rfl hst hb (Zl (s := 4)) (hst.at 0 rfl)
 · refine wp_block ?_
   refine wp_loop_ghost (fun n a w => ∃ (x1 : Int) (g : G), w = g.w ∧ St 19 [(0, ((Kd.int .i64).sl.pd a0)), (1, (pClo f1 C1 hC1)), (6, ((Kd.int .i64).sl.pd a0)), (7, (pInt .i64 (a0.length : Int))), (8, (pInt .i64 x1))] a g ∧ Base g0 g ∧ Z4 a0 φ1 n x1 = some z8) (Int.toNat ((a0.length : Int) - (0 : Int)) + 1) ⟨(0 : Int), g, rfl, (hst.pick [0, 1, 2, 3, 4] rfl), hb, hz1⟩ (fun n a w hI => ?_)
   obtain ⟨x1, g, rfl, hst, hb, H1⟩ := hI
   cases n with
   | zero => exact absurd H1 (by simp [Z4])
   | succ n =>
     rw [Z4] at H1
     refine r_s (T := [⟨[.old 4, .old 3], _, [], [], [9]⟩]) (F := [.old 0, .old 1, .old 2, .old 3, .old 4, .op 0 0]) hst hb Zb
       (o_p rfl (Zcg rfl rfl u_0 u_1) <| o_n) (by kernel_rfl) (fun a g hst hb => ?_)
     refine wp_seq ?_
     refine wp_cond_split (hst.bool 5 rfl) (fun hc2 => ?_) (fun hc2 => ?_)
     · replace H1 := Z3 hc2 H1
       refine wp_skip ?_
       refine Zj ?_
       refine wp_seq ?_
       refine wp_block ?_
       refine r_s (L := [(0, _), (1, _), (6, _), (7, _), (8, _)]) (T := [⟨[.old 4], _, [], [], [10]⟩, ⟨[.op 0 0], _, [], [0], [5]⟩]) (F := [.old 0, .old 1, .op 1 0, .old 2, .old 3, .old 4]) (hst.pick [0, 1, 2, 3, 4] rfl) hb Zb
         (o_p rfl (Za rfl rfl u_0) <| o_p rfl (Zc rfl rfl u_0) <| o_n) (by kernel_rfl) (fun a g hst hb => ?_)
       obtain ⟨e3, h4, H1⟩ := Zd H1; obtain ⟨r5, h6, H1⟩ := Zd H1
       refine r_s (T := [⟨[.old 1], _, [], [], [11]⟩, ⟨[.old 0], _, [], [], [12]⟩, ⟨[.old 2], _, [], [], [13]⟩, ⟨[.op 1 0, .op 2 0], _, [], [1, 2], [14]⟩, ⟨[.op 3 0], _, [], [1, 2, 3], [15]⟩, ⟨[.op 0 0, .op 4 0], _, [], Lr 5, [16]⟩]) (F := [.old 0, .old 1, .old 2, .old 3, .old 4, .old 5, .op 5 0]) hst hb Zb
         (o_p rfl (Za rfl rfl u_0) <| o_p rfl (Za rfl rfl u_0) <| o_p rfl (Za rfl rfl u_0) <| o_p rfl (Zs Try.underlying24 sz_3 rfl rfl u_0 u_1 h4) <| o_p rfl (Zg ty_3 rfl rfl u_0) <| o_p rfl (Zhi e1_ (hφ1 _ _ h6) rfl rfl u_0 (.cons u_1 .nil)) <| o_n) (by kernel_rfl) (fun a g hst hb => ?_)
       refine wp_cond_split (hst.bool 6 rfl) (fun hc7 => ?_) (fun hc7 => ?_)
       · replace H1 := Z3 hc7 H1
         refine r_s (L := [(5, _)]) (T := [⟨[.old 0], _, [], [], [17]⟩, ⟨[.op 0 0], _, [], [0], [4]⟩]) (F := [.op 1 0]) (hst.pick [2] rfl) hb Zb
           (o_p rfl (Za rfl rfl u_0) <| o_p rfl (Zc rfl rfl u_0) <| o_n) (by kernel_rfl) (fun a g hst hb => ?_)
         refine wp_ret ?_
         refine Zq ?_
         refine Zi ?_
         refine Zi ?_
         refine Zq ?_
         refine Zi ?_
         refine Zi ?_
         obtain rfl := Option.some.inj H1
         obtain rfl := Option.some.inj H0
         exact Z6 rfl hst hb (Zl (s := 4)) (hst.at 0 rfl)
       · replace H1 := Z2 hc7 H1
         refine wp_skip ?_
         refine Z5 ?_
         refine Zj ?_
         refine r_g (L := [(0, _), (1, _), (6, _), (7, _), (8, _)]) (T := [⟨[.old 4], _, [], [], [18]⟩, ⟨[.op 0 0], _, [], [0], [8]⟩]) (F := [.old 0, .old 1, .old 2, .old 3, .op 1 0]) (hst.pick [0, 1, 3, 4, 5] rfl) hb Zb
           (o_p rfl (Zbw rfl rfl u_0 c_i rfl) <| o_p rfl (Za rfl rfl u_0) <| o_n) (by kernel_rfl) (fun a g hst hb => ?_)
         exact ⟨n, Nat.lt_succ_self _, (IntKind.i64.wrap (x1 + (1 : Int))), g, rfl, (hst.pick [0, 1, 2, 3, 4] rfl), hb, H1⟩
     · replace H1 := Z2 hc2 H1
       refine wp_exit ?_
       refine Zz ?_
       refine Zz ?_
       refine Zbb ?_
       exact ⟨g, rfl, (hst.pick [] rfl), hb, Option.some.inj H1⟩
theorem Zev (f1 : Nat) (C1 : List Pd) (hC1 : Free C1) (e1_ : Zk Try.prog f1) (φ1 : Int → Option Bool) (hφ1 : ∀ (y0 : Int) (r : Bool), φ1 y0 = some r → FnOk Try.prog f1 ([(pInt .i64 y0)] ++ C1) (Zo r)) (a0 : List Int) {r : List Int} (h : Zbx a0 φ1 = some r) : Ziv Try.prog 24 (Kd.int .i64) 3 a0 r [(pClo f1 C1 hC1)] := by
 have H0 := h
 unfold Zbx at H0
 clear h
 refine Zk4 (N := 42) Try.func24 rfl rfl (Nat.le_of_ble_eq_true rfl) rfl (fun a g0 hst hb => ?_)
 refine r_s (T := [⟨[], [(4, ((Kd.int .i64).sl.pd ([] : List Int)))], [], [], [4]⟩]) (F := [.old 0, .old 1]) hst hb Zb
   (o_p rfl (Zc rfl rfl (Opd.c (fun g => Zfi g))) <| o_n) (by kernel_rfl) (fun a g hst hb => ?_)
 obtain ⟨r1, h2, H0⟩ := Zd H0
 refine r_s (T := [⟨[.old 0], _, [], [], [8]⟩, ⟨[.old 1], _, [], [], [9]⟩, ⟨[.op 0 0, .op 1 0], _, [], [0, 1], [10]⟩, ⟨[.op 2 0], _, [], [0, 1, 2], [5]⟩]) (F := [.old 0, .old 1, .op 3 0]) hst hb Zb
   (o_p rfl (Za rfl rfl u_0) <| o_p rfl (Za rfl rfl u_0) <| o_p rfl (Zji Zns (Zez f1 C1 hC1 e1_ φ1 hφ1 _ h2) rfl rfl Ziu u_0 rfl (.cons u_1 .nil)) <| o_p rfl (Zc rfl rfl u_0) <| o_n) (by kernel_rfl) (fun a g hst hb => ?_)
 refine wp_seq ?_
 refine r_s (T := [⟨[.old 2], _, [], [], [11]⟩, ⟨[.op 0 0], _, [], [0], [12]⟩]) (F := [.old 0, .old 1, .old 2, .op 1 0]) hst hb Zb
   (o_p rfl (Za rfl rfl u_0) <| o_p rfl (Zcr rfl rfl u_0 c_i) <| o_n) (by kernel_rfl) (fun a g hst hb => ?_)
 refine wp_cond_split (hst.bool 3 rfl) (fun hc3 => ?_) (fun hc3 => ?_)
 · replace H0 := Z3 hc3 H0
   refine r_s (L := [(0, _)]) (T := [⟨[.old 0], _, [], [], [13]⟩, ⟨[.op 0 0], _, [], [0], [4]⟩]) (F := [.op 1 0]) (hst.pick [0] rfl) hb Zb
     (o_p rfl (Za rfl rfl u_0) <| o_p rfl (Zc rfl rfl u_0) <| o_n) (by kernel_rfl) (fun a g hst hb => ?_)
   refine wp_ret ?_
   refine Zi ?_
   obtain rfl := Option.some.inj H0
   exact Zjy rfl hst hb (Zl (s := 4)) (hst.at 0 rfl)
 · replace H0 := Z2 hc3 H0
   refine wp_skip ?_
   refine Zj ?_
   refine wp_seq ?_
   refine r_s (L := [(0, _), (1, _), (5, _)]) (T := [⟨[.old 2], _, [], [], [14]⟩, ⟨[.op 0 0], _, [], [0], [15]⟩, ⟨[.op 1 0], _, [], [0, 1], [6]⟩]) (F := [.old 0, .old 1, .old 2, .op 2 0]) (hst.pick [0, 1, 2] rfl) hb Zb
     (o_p rfl (Za rfl rfl u_0) <| o_p rfl (Zbw rfl rfl u_0 c_i rfl) <| o_p rfl (Zc rfl rfl u_0) <| o_n) (by kernel_rfl) (fun a g hst hb => ?_)
   obtain ⟨z19, hz1, H0⟩ := Zd H0
   refine Zbs (fun a w => ∃ (y17 : List Int) (y18 : Int) (g : G), w = g.w ∧ St 42 [(0, (pArr (Kd.int .i64) 3 0 y17)), (5, (pInt .i64 y18))] a g ∧ Base g0 g ∧ (y17, y18) = z19) ?_ ?_
   · rintro a w ⟨y17, y18, g, rfl, hst, hb, rfl⟩
     refine Zj ?_
     obtain ⟨h20, H0⟩ := Zfg H0
     refine r_s (T := [⟨[.old 0], _, [], [], [36]⟩, ⟨[.old 1], _, [], [], [37]⟩, ⟨[.op 0 0, .op 1 0], _, [], [0, 1], [38]⟩, ⟨[.op 2 0, .old 0], _, [1], [0, 1, 2], [0, 36, 38]⟩]) (F := [.op 3 0, .old 1]) hst hb Zb
       (o_p rfl (Za rfl rfl u_0) <| o_p rfl (Za rfl rfl u_0) <| o_p rfl (Zkt Zdm h20.1 h20.2 rfl rfl u_0 u_1) <| o_p rfl (Zjc (zc := .int .i64 0) Zdm rfl (by kernel_rfl) rfl rfl (fun g => rfl) h20.1 h20.2 rfl rfl u_0 u_1) <| o_n) (by kernel_rfl) (fun a g hst hb => ?_)
     obtain ⟨h21, H0⟩ := Zfg H0
     refine r_s (T := [⟨[.old 0], _, [], [], [39]⟩, ⟨[.old 1], _, [], [], [40]⟩, ⟨[.op 0 0, .op 1 0], _, [], [0, 1], [41]⟩, ⟨[.op 2 0], _, [], [0, 1, 2], [4]⟩]) (F := [.op 3 0]) hst hb Zb
       (o_p rfl (Za rfl rfl u_0) <| o_p rfl (Za rfl rfl u_0) <| o_p rfl (Zkj Zdm h21.1 h21.2 rfl rfl u_0 u_1) <| o_p rfl (Zc rfl rfl u_0) <| o_n) (by kernel_rfl) (fun a g hst hb => ?_)
     refine wp_ret ?_
     obtain rfl := Option.some.inj H0
     exact Zjy rfl hst hb (Zl (s := 4)) (hst.at 0 rfl)
   · refine wp_block ?_
     refine wp_loop_ghost (fun n a w => ∃ (x4 : List Int) (x5 : Int) (x6 : Int) (g : G), w = g.w ∧ St 42 [(0, (pArr (Kd.int .i64) 3 0 x4)), (1, (pClo f1 C1 hC1)), (5, (pInt .i64 x5)), (6, (pInt .i64 x6))] a g ∧ Base g0 g ∧ Zt φ1 n x4 x5 x6 = some z19) (Int.toNat ((a0.length : Int) - (IntKind.i64.wrap (r1 + (1 : Int)))) + 1) ⟨a0, r1, (IntKind.i64.wrap (r1 + (1 : Int))), g, rfl, (hst.pick [0, 1, 2, 3] rfl), hb, hz1⟩ (fun n a w hI => ?_)
     obtain ⟨x4, x5, x6, g, rfl, hst, hb, H1⟩ := hI
     cases n with
     | zero => exact absurd H1 (by simp [Zt])
     | succ n =>
       rw [Zt] at H1
       refine wp_seq ?_
       refine r_s (T := [⟨[.old 3], _, [], [], [16]⟩, ⟨[.old 0], _, [], [], [17]⟩, ⟨[.op 1 0], _, [], [1], [18]⟩, ⟨[.op 0 0, .op 2 0], _, [], [0, 1, 2], [19]⟩]) (F := [.old 0, .old 1, .old 2, .old 3, .op 3 0]) hst hb Zb
         (o_p rfl (Za rfl rfl u_0) <| o_p rfl (Za rfl rfl u_0) <| o_p rfl (Zm0 Try.underlying24 rfl rfl u_0) <| o_p rfl (Zcg rfl rfl u_0 u_1) <| o_n) (by kernel_rfl) (fun a g hst hb => ?_)
       refine wp_cond_split (hst.bool 4 rfl) (fun hc7 => ?_) (fun hc7 => ?_)
       · replace H1 := Z3 hc7 H1
         refine wp_skip ?_
         refine Zj ?_
         refine wp_seq ?_
         refine Zbs (fun a w => ∃ (j15 : List Int) (j16 : Int) (g : G), w = g.w ∧ St 42 [(0, (pArr (Kd.int .i64) 3 0 j15)), (1, (pClo f1 C1 hC1)), (5, (pInt .i64 j16)), (6, (pInt .i64 x6))] a g ∧ Base g0 g ∧ Zbe x6 (Zt φ1 n) j15 j16 = some z19) ?_ ?_
         · rintro a w ⟨j15, j16, g, rfl, hst, hb, H1⟩
           unfold Zbe at H1
           refine Zj ?_
           refine r_g (T := [⟨[.old 3], _, [], [], [20]⟩, ⟨[.op 0 0], _, [], [0], [21]⟩, ⟨[.op 1 0], _, [], [0, 1], [6]⟩]) (F := [.old 0, .old 1, .old 2, .op 2 0]) hst hb Zb
             (o_p rfl (Za rfl rfl u_0) <| o_p rfl (Zbw rfl rfl u_0 c_i rfl) <| o_p rfl (Zc rfl rfl u_0) <| o_n) (by kernel_rfl) (fun a g hst hb => ?_)
           exact ⟨n, Nat.lt_succ_self _, j15, j16, (IntKind.i64.wrap (x6 + (1 : Int))), g, rfl, (hst.pick [0, 1, 2, 3] rfl), hb, H1⟩
         · refine wp_block ?_
           obtain ⟨e8, h9, H1⟩ := Zd H1
           refine r_s (L := [(0, _), (1, _), (5, _), (6, _)]) (T := [⟨[.old 0], _, [], [], [22]⟩, ⟨[.old 3], _, [], [], [23]⟩, ⟨[.op 0 0, .op 1 0], _, [], [0, 1], [24]⟩, ⟨[.op 2 0], _, [], [0, 1, 2], [25]⟩, ⟨[.op 3 0], _, [], Lr 4, [7]⟩]) (F := [.old 0, .old 1, .old 2, .old 3, .op 4 0]) (hst.pick [0, 1, 2, 3] rfl) hb Zb
             (o_p rfl (Za rfl rfl u_0) <| o_p rfl (Za rfl rfl u_0) <| o_p rfl (Zig Try.underlying24 sz_3 rfl rfl u_0 u_1 h9) <| o_p rfl (Zlg ty_3 rfl rfl u_0) <| o_p rfl (Zc rfl rfl u_0) <| o_n) (by kernel_rfl) (fun a g hst hb => ?_)
           obtain ⟨r10, h11, H1⟩ := Zd H1
           refine r_s (T := [⟨[.old 1], _, [], [], [26]⟩, ⟨[.old 4], _, [], [], [27]⟩, ⟨[.op 0 0, .op 1 0], _, [], [0, 1], [28]⟩, ⟨[.op 2 0], _, [], [0, 1, 2], [29]⟩]) (F := [.old 0, .old 1, .old 2, .old 3, .old 4, .op 3 0]) hst hb Zb
             (o_p rfl (Za rfl rfl u_0) <| o_p rfl (Za rfl rfl u_0) <| o_p rfl (Zhi e1_ (hφ1 _ _ h11) rfl rfl u_0 (.cons u_1 .nil)) <| o_p rfl (Zdu rfl rfl u_0) <| o_n) (by kernel_rfl) (fun a g hst hb => ?_)
           refine wp_cond_split (hst.bool 5 rfl) (fun hc12 => ?_) (fun hc12 => ?_)
           · replace H1 := Z3 hc12 H1
             obtain ⟨e13, h14, H1⟩ := Zd H1
             refine r_s (L := [(0, _), (1, _), (5, _), (6, _), (7, _)]) (T := [⟨[.old 0], _, [], [], [30]⟩, ⟨[.old 2], _, [], [], [31]⟩, ⟨[.old 4], _, [], [], [32]⟩, ⟨[.op 0 0, .op 1 0], _, [], [0, 1, 2], [33]⟩, ⟨[.op 2 0, .op 3 0, .old 0], _, [1], Lr 4, [0, 30, 33]⟩]) (F := [.op 4 0, .old 1, .old 2, .old 3]) (hst.pick [0, 1, 2, 3, 4] rfl) hb Zb
               (o_p rfl (Za rfl rfl u_0) <| o_p rfl (Za rfl rfl u_0) <| o_p rfl (Za rfl rfl u_0) <| o_p rfl (Zig Try.underlying24 sz_3 rfl rfl u_0 u_1 h14) <| o_p rfl (Zje (u := e13) ty_3 rfl rfl u_2 u_1 u_0 (Zm5 h14) (by decide)) <| o_n) (by kernel_rfl) (fun a g hst hb => ?_)
             refine r_g (T := [⟨[.old 2], _, [], [], [34]⟩, ⟨[.op 0 0], _, [], [0], [35]⟩, ⟨[.op 1 0], _, [], [0, 1], [5]⟩]) (F := [.old 0, .old 1, .op 2 0, .old 3]) hst hb Zb
               (o_p rfl (Za rfl rfl u_0) <| o_p rfl (Zbw rfl rfl u_0 c_i rfl) <| o_p rfl (Zc rfl rfl u_0) <| o_n) (by kernel_rfl) (fun a g hst hb => ?_)
             refine Z5 ?_
             exact ⟨(x4.set (Int.toNat x5) e8), (IntKind.i64.wrap (x5 + (1 : Int))), g, rfl, (hst.pick [0, 1, 2, 3] rfl), hb, H1⟩
           · replace H1 := Z2 hc12 H1
             refine wp_skip ?_
             refine Z5 ?_
             exact ⟨x4, x5, g, rfl, (hst.pick [0, 1, 2, 3] rfl), hb, H1⟩
       · replace H1 := Z2 hc7 H1
         refine wp_exit ?_
         refine Zz ?_
         refine Zz ?_
         refine Zbb ?_
         exact ⟨x4, x5, g, rfl, (hst.pick [0, 2] rfl), hb, Option.some.inj H1⟩
theorem Zgk (a0 : Int) (a1 : Int) {r : Bool} (h : Zby a0 a1 = some r) : FnOk Try.prog 25 [(pInt .i64 a0), ((Kd.int .i64).ptr a1)] (Zo r) := by
 have H0 := h
 unfold Zby at H0
 clear h
 refine Zb1 (N := 7) Try.func25 rfl rfl (Nat.le_of_ble_eq_true rfl) rfl rfl (fun a g0 hst hb => ?_)
 refine r_s (T := [⟨[], _, [], [], [3]⟩]) (F := [.old 0, .old 1]) hst hb Zb
   (o_p rfl (Zc rfl rfl c_b) <| o_n) (by kernel_rfl) (fun a g hst hb => ?_)
 refine r_s (T := [⟨[.old 0], _, [], [], [4]⟩, ⟨[.old 1], _, [], [], [5]⟩, ⟨[.op 0 0, .op 1 0], _, [], [0, 1], [6]⟩, ⟨[.op 2 0], _, [], [0, 1, 2], [3]⟩]) (F := [.op 3 0]) hst hb Zb
   (o_p rfl (Za rfl rfl u_0) <| o_p rfl (Zg ty_3 rfl rfl u_0) <| o_p rfl (Zcr rfl rfl u_0 u_1) <| o_p rfl (Zc rfl rfl u_0) <| o_n) (by kernel_rfl) (fun a g hst hb => ?_)
 refine wp_ret ?_
 obtain rfl := Option.some.inj H0
 exact Z6 rfl hst hb (Zl (s := 3)) (hst.at 0 rfl)
theorem Zgj (a0 : Z1) (a1 : Int) {r : Bool × Z1} (h : Zds a0 a1 = some r) : FnM Try.prog 16 Zx a0 r.2 [(pInt .i64 a1)] (Zo r.1) := by
 have H0 := h
 unfold Zds at H0
 clear h
 refine Zmp (N := 18) Try.func16 rfl rfl (Nat.le_of_ble_eq_true rfl) rfl rfl (fun a g0 b0 hst hb => ?_)
 replace hst : St 18 [(0, (Zd1 (some b0) Zc4 Zda hpT 0 a0)), (1, (pInt .i64 a1)), (1002, (pST Zc4 Zda Zdw kInt 3 b0 a0))] _ _ := Zkc hst
 refine r_s (T := [⟨[.old 1], _, [], [], [3]⟩, ⟨[], _, [], [], [4]⟩]) (F := [.old 0, .op 0 0, .old 2]) hst hb Zb
   (o_p rfl (Zdn rfl rfl u_0) <| o_p rfl (Zc rfl rfl c_b) <| o_n) (by kernel_rfl) (fun a g hst hb => ?_)
 refine wp_seq ?_
 obtain ⟨r1, h2, H0⟩ := Zd H0
 refine r_s (T := [⟨[.old 0], _, [], [], [5]⟩, ⟨[.old 1], _, [], [], [6]⟩, ⟨[.op 0 0, .op 1 0, .old 2], _, [], [0, 1], [7]⟩, ⟨[.op 2 0], _, [], [0, 1, 2], [8]⟩]) (F := [.old 0, .old 1, .op 3 0, .old 2]) hst hb Zb
   (o_p rfl (Za rfl rfl u_0) <| o_p rfl (Zg ty_3 rfl rfl u_0) <| o_p rfl (Zi3 Zfm Zg7 (Ze2 _ _ h2) rfl rfl (Opd.joinS u_0 u_2) rfl (.cons u_1 .nil)) <| o_p rfl (Zdu rfl rfl u_0) <| o_n) (by kernel_rfl) (fun a g hst hb => ?_)
 refine wp_cond_split (hst.bool 2 rfl) (fun hc3 => ?_) (fun hc3 => ?_)
 · replace H0 := Z3 hc3 H0
   refine r_s (L := [(0, _), (3, _), (1002, _)]) (T := [⟨[], _, [], [], [4]⟩]) (F := [.old 0, .old 1, .op 0 0, .old 2]) (hst.pick [0, 1, 3] rfl) hb Zb
     (o_p rfl (Zc rfl rfl c_b) <| o_n) (by kernel_rfl) (fun a g hst hb => ?_)
   refine wp_ret ?_
   refine Zi ?_
   obtain rfl := Option.some.inj H0
   exact Zma rfl hst hb (Zl (s := 4)) (hst.at 2 rfl) (Zgm (hst.at 0 rfl) (hst.at 3 rfl))
 · replace H0 := Z2 hc3 H0
   refine wp_skip ?_
   refine Zj ?_
   obtain ⟨r4, h5, H0⟩ := Zd H0
   refine r_s (L := [(0, _), (3, _), (1002, _)]) (T := [⟨[.old 0], _, [], [], [9]⟩, ⟨[.old 0], _, [], [], [10]⟩, ⟨[.op 1 0], _, [], [1], [11]⟩, ⟨[.op 2 0, .old 2], _, [], [1, 2], [12]⟩, ⟨[.op 3 0], _, [], [1, 2, 3], [13]⟩, ⟨[.old 1], _, [], [], [14]⟩, ⟨[.op 4 0, .op 5 0], _, [1000001], List.range' 1 5, [12, 13, 15, 1002]⟩, ⟨[.op 0 0], _, [], Lr 7, [16]⟩, ⟨[.op 7 0], _, [], Lr 8, [17]⟩, ⟨[.op 6 0, .op 8 0, .old 0], [(0, (Zd1 (some b0) Zc4 Zda hpT 0 ({ a0 with left := r4 } : Z1))), (1002, (pST Zc4 Zda Zdw kInt 3 b0 ({ a0 with left := r4 } : Z1)))], [1], Lr 9, [0, 9, 10, 11, 12, 16, 17, 1002]⟩]) (F := [.op 9 0, .old 1, .op 9 1]) (hst.pick [0, 1, 3] rfl) hb Zb
     (o_p rfl (Za rfl rfl u_0) <| o_p rfl (Za rfl rfl u_0) <| o_p rfl (Zcn rfl rfl u_0 (fun _ _ ⟨_, ⟨_, _, _, e, _⟩, _⟩ => ⟨_, e⟩)) <| o_p rfl (Zh8 Ziz (off := 1) (q := (pArr kInt 3 1000000 (Zdw a0))) (by kernel_rfl) (pr := id) (fun _ => rfl) (fun _ _ h => h) rfl rfl (Opd.joinS u_0 u_1)) <| o_p rfl (Zlm Zky rfl rfl u_0) <| o_p rfl (Zjp rfl rfl (.cons u_0 .nil)) <| o_p rfl (Zjm Zn5 (Zev 25 [((Kd.int .i64).ptr a1)] rfl Zod (fun y0 => Zby y0 a1) (fun y0 r h => Zgk y0 _ h) _ h5) rfl rfl u_0 (.cons u_1 .nil)) <| o_p rfl (Zcn rfl rfl u_0 (fun _ _ ⟨_, ⟨_, _, _, e, _⟩, _⟩ => ⟨_, e⟩)) <| o_p rfl (Zh8 Ziz (off := 1) (q := pAny) (by kernel_rfl) (pr := id) (fun _ => rfl) (fun _ _ _ => trivial) rfl rfl u_0) <| o_p rfl (OB.selfS (Zkw (x' := ({ a0 with left := r4 } : Z1)) (R2 := hpL (pArr kInt 3 1000000 (Zdw ({ a0 with left := r4 } : Z1)))) (upd := fun _ s2 => s2) Zky rfl rfl (fun _ _ h => Zjs h) (fun k hk => by rw [List.mem_singleton.1 hk]; decide) (fun k hk => by cases hk) u_2 (fun a g hh => Zmr (u_1 a g hh)) u_0 (fun _ _ _ _ h => h) (fun g cs s0 s1 ys h k => Zng _ _ g cs s0 s1 ys h k))) <| o_n) (by kernel_rfl) (fun a g hst hb => ?_)
   refine r_s (T := [⟨[], _, [], [], [4]⟩]) (F := [.old 0, .old 1, .op 0 0, .old 2]) hst hb Zb
     (o_p rfl (Zc rfl rfl c_b) <| o_n) (by kernel_rfl) (fun a g hst hb => ?_)
   refine wp_ret ?_
   obtain rfl := Option.some.inj H0
   exact Zma rfl hst hb (Zl (s := 4)) (hst.at 2 rfl) (Zgm (hst.at 0 rfl) (hst.at 3 rfl))
theorem Zdk (a0 : Z1) (a1 : Int) {r : Z1 × Bool} (h : Zcm a0 a1 = some r) : FnM Try.prog 16 Zx a0 r.1 [(pInt .i64 a1)] (Zo r.2) := by
 obtain ⟨u, h1, h2⟩ := Zd h
 obtain rfl := Option.some.inj h2
 exact Zgj a0 a1 h1
theorem Zgu (a0 : Z1) {r : Int} (h : Zc3 a0 = some r) : FnOk Try.prog 18 [(Zdv.ptr a0)] (pInt .i64 r) := by
 have H0 := h
 unfold Zc3 at H0
 clear h
 refine Zb1 (N := 8) Try.func18 rfl rfl (Nat.le_of_ble_eq_true rfl) rfl rfl (fun a g0 hst hb => ?_)
 refine r_s (T := [⟨[], _, [], [], [2]⟩]) (F := [.old 0]) hst hb Zb
   (o_p rfl (Zc rfl rfl c_i) <| o_n) (by kernel_rfl) (fun a g hst hb => ?_)
 refine r_s (T := [⟨[.old 0], _, [], [], [3]⟩, ⟨[.op 0 0], _, [], [0], [4]⟩, ⟨[.op 1 0], _, [], [0, 1], [5]⟩, ⟨[.op 2 0], _, [], [0, 1, 2], [6]⟩, ⟨[.op 3 0], _, [], Lr 4, [7]⟩, ⟨[.op 4 0], _, [], Lr 5, [2]⟩]) (F := [.op 5 0, .op 3 0]) hst hb Zb
   (o_p rfl (Za rfl rfl u_0) <| o_p rfl (Zcn rfl rfl u_0 (fun _ _ ⟨_, _, _, e, _⟩ => ⟨_, e⟩)) <| o_p rfl (Zh Zg1 rfl rfl u_0) <| o_p rfl (Zg Zio rfl rfl u_0) <| o_p rfl (Z7 Try.underlying24 rfl rfl u_0) <| o_p rfl (Zc rfl rfl u_0) <| o_n) (by kernel_rfl) (fun a g hst hb => ?_)
 refine wp_ret ?_
 obtain rfl := Option.some.inj H0
 exact Z6 rfl hst hb (Zl (s := 2)) (hst.at 0 rfl)
theorem Zg8 (a0 : Z1) {r : Int} (h : Zc3 a0 = some r) : FnL Try.prog 18 [(Zdv.ptr a0)] (pInt .i64 r) := FnL.of (Zgu a0 h) Ziu
theorem Ze6 (a0 : Z1) {r : Int} (h : Zc3 a0 = some r) : FnM Try.prog 18 Zx a0 a0 [] (pInt .i64 r) := Zhf Zfm (Zg8 a0 h) rfl
end Go.CL
