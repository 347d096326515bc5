/- A part of the proof of FoldRoom. -/
import Derived.Test.YtiggdpakpaickaaDoorFoldRoomC2
import Derived.Test.YtiggdpakpaickaaDoorProg
set_option linter.unusedVariables false
set_option linter.unusedSimpArgs false
set_option maxRecDepth 100000
namespace Go.CL
open Go Go.RowKit Go.Proofs
theorem Zb : Tryd.prog.follows .mixedOrders = true := by kernel_rfl
theorem Z7b {α : Type} {l : List α} (h : l.length = 1) : ∃ u0, l = [u0] := by
 match l, h with
 | [u0], _ => exact ⟨u0, rfl⟩
theorem Zj7 {α : Type} {l : List α} (h : l.length = 2) : ∃ u0 u1, l = [u0, u1] := by
 match l, h with
 | [u0, u1], _ => exact ⟨u0, u1, rfl⟩
theorem Zu1 {α : Type} {l : List α} (h : l.length = 8) : ∃ u0 u1 u2 u3 u4 u5 u6 u7, l = [u0, u1, u2, u3, u4, u5, u6, u7] := by
 match l, h with
 | [u0, u1, u2, u3, u4, u5, u6, u7], _ => exact ⟨u0, u1, u2, u3, u4, u5, u6, u7, rfl⟩
def Zwy : List (Kd.FK Zj) := [⟨_, Kd.flt, 0, fun x : Zj => x.Score⟩,
 ⟨_, Kd.str, 1, fun x : Zj => x.Name⟩]
def Zu : Kd Zj := Kd.struct 2 Zwy (by rfl)
theorem Zi1 : ∀ g, Zu.K g (default : Zj) [.float .f64 0, .string ByteArray.empty] := fun g => ⟨rfl, (List.forall_mem_cons.2 ⟨(rfl), (List.forall_mem_cons.2 ⟨(rfl), (fun _ h => by cases h)⟩)⟩)⟩
def Zul : List (Kd.FK Zd) := [⟨_, (Kd.int .i64), 0, fun x : Zd => x.Kind⟩,
 ⟨_, (Kd.int .i64), 1, fun x : Zd => x.Num⟩,
 ⟨_, (Kd.int .i64), 2, fun x : Zd => x.Low⟩,
 ⟨_, (Kd.int .i64), 3, fun x : Zd => x.High⟩,
 ⟨_, Kd.flt, 4, fun x : Zd => x.Real⟩,
 ⟨_, (Kd.int .i64), 5, fun x : Zd => x.Cap⟩,
 ⟨_, Kd.str, 6, fun x : Zd => x.Text⟩,
 ⟨_, Zu.sl, 7, fun x : Zd => x.List⟩]
def Zi : Kd Zd := Kd.struct 8 Zul (by rfl)
theorem Zcg : ∀ g, Zi.K g (default : Zd) [.int .i64 0, .int .i64 0, .int .i64 0, .int .i64 0, .float .f64 0, .int .i64 0, .string ByteArray.empty, .slice none 0 0] := fun g => ⟨rfl, (List.forall_mem_cons.2 ⟨(rfl), (List.forall_mem_cons.2 ⟨(rfl), (List.forall_mem_cons.2 ⟨(rfl), (List.forall_mem_cons.2 ⟨(rfl), (List.forall_mem_cons.2 ⟨(rfl), (List.forall_mem_cons.2 ⟨(rfl), (List.forall_mem_cons.2 ⟨(rfl), (List.forall_mem_cons.2 ⟨(⟨none, 0, rfl, Nat.le_refl _, Nat.zero_le _, .inl rfl⟩), (fun _ h => by cases h)⟩)⟩)⟩)⟩)⟩)⟩)⟩)⟩)⟩
def shelf_nodeT.V (g : G) : shelf_nodeT → Value → Prop
 | .nil, v => v = .pointer none
 | .node x0 x1 x2 x3 x4, v => ∃ b o cs, v = .pointer (some ⟨b, o, none⟩) ∧ CellsAt g b o cs ∧ cs.length = 12 ∧ (∀ u ∈ cs, u.oneCell' = true) ∧ Kd.str.K g x0 (seg cs 0 1) ∧ Zi.K g x1 (seg cs 1 8) ∧ (∃ v, seg cs 9 1 = [v] ∧ shelf_nodeT.V g x2 v) ∧ (∃ v, seg cs 10 1 = [v] ∧ shelf_nodeT.V g x3 v) ∧ (Kd.int .i64).K g x4 (seg cs 11 1)
theorem shelf_nodeT.mono {g g' : G} (h : g.le g') (t : shelf_nodeT) : ∀ v, shelf_nodeT.V g t v → shelf_nodeT.V g' t v := by
 induction t with
 | nil => exact fun v h => h
 | node x0 x1 x2 x3 x4 ih2 ih3 =>
   rintro v ⟨b, o, cs, rfl, hc, hl, hz, h0, h1, ⟨w2, e2, k2⟩, ⟨w3, e3, k3⟩, h4⟩
   exact ⟨b, o, cs, rfl, hc.mono h, hl, hz, Kd.str.mono h h0, Zi.mono h h1, ⟨w2, e2, ih2 w2 k2⟩, ⟨w3, e3, ih3 w3 k3⟩, (Kd.int .i64).mono h h4⟩
theorem shelf_nodeT.ptr {g : G} {t : shelf_nodeT} {v : Value} (h : shelf_nodeT.V g t v) : ∃ p, v = .pointer p ∧ p.isNone = t.isNil := by
 cases t with
 | nil => exact ⟨_, h, rfl⟩
 | node =>
   obtain ⟨b, o, cs, e, _⟩ := h
   exact ⟨_, e, rfl⟩
def Zz : Kd shelf_nodeT where
 sz := 1
 ag := false
 K := fun g t cs => ∃ v, cs = [v] ∧ shelf_nodeT.V g t v
 len := by rintro _ _ _ ⟨v, rfl, _⟩; rfl
 one := by
   rintro _ _ _ ⟨v, rfl, h⟩ u hu
   obtain ⟨p, e, _⟩ := shelf_nodeT.ptr h
   rw [List.mem_singleton.1 hu, e]; rfl
 mono := fun h ⟨v, e, k⟩ => ⟨v, e, shelf_nodeT.mono h _ _ k⟩
 nag := fun _ => rfl
def Zud : List (Kd.FK shelf_node) := [⟨_, Kd.str, 0, fun x : shelf_node => x.key⟩,
 ⟨_, Zi, 1, fun x : shelf_node => x.rec_⟩,
 ⟨_, Zz, 9, fun x : shelf_node => x.left⟩,
 ⟨_, Zz, 10, fun x : shelf_node => x.right⟩,
 ⟨_, (Kd.int .i64), 11, fun x : shelf_node => x.size⟩]
def Zff : Kd shelf_node := Kd.struct 12 Zud (by rfl)
theorem shelf_nodeT.V_iff {g : G} {t : shelf_nodeT} {v : Value} : (Zz.pd t).p g v ↔ shelf_nodeT.V g t v := by
 constructor
 · rintro ⟨_, ⟨u, rfl, h⟩, rfl⟩; exact h
 · exact fun h => ⟨_, ⟨v, rfl, h⟩, rfl⟩
theorem Zju (g : G) : Zz.K g shelf_nodeT.nil [.pointer none] := ⟨_, rfl, rfl⟩
theorem Zdt (g : G) : (Zz.pd shelf_nodeT.nil).p g (.pointer none) := shelf_nodeT.V_iff.2 rfl
theorem Zea (t : shelf_nodeT) (g : G) (v : Value) (h : (Zz.pd t).p g v) : ∃ p, v = .pointer p ∧ p.isNone = t.isNil := shelf_nodeT.ptr (shelf_nodeT.V_iff.1 h)
theorem Zp {g : G} {t : shelf_nodeT} {x : shelf_node} {v : Value} (h : t.un = some x) (hv : (Zz.pd t).p g v) : (Zff.ptr x).p g v := by
 cases t with
 | nil => cases h
 | node x0 x1 x2 x3 x4 =>
   obtain rfl := Option.some.inj h
   obtain ⟨b, o, cs, rfl, hc, hl, _, h0, h1, h2, h3, h4⟩ := shelf_nodeT.V_iff.1 hv
   exact ⟨b, o, cs, rfl, ⟨hl, (List.forall_mem_cons.2 ⟨h0, (List.forall_mem_cons.2 ⟨h1, (List.forall_mem_cons.2 ⟨h2, (List.forall_mem_cons.2 ⟨h3, (List.forall_mem_cons.2 ⟨h4, (fun _ h => by cases h)⟩)⟩)⟩)⟩)⟩)⟩, hc⟩
theorem Zsv {g : G} {x : shelf_node} {v : Value} (h : (Zff.ptr x).p g v) : (Zz.pd x.up).p g v := by
 obtain ⟨b, o, cs, rfl, hk, hc⟩ := h
 exact shelf_nodeT.V_iff.2 ⟨b, o, cs, rfl, hc, hk.1, Zff.one hk, hk.2 _ (List.mem_of_getElem? (i := 0) rfl), hk.2 _ (List.mem_of_getElem? (i := 1) rfl), hk.2 _ (List.mem_of_getElem? (i := 2) rfl), hk.2 _ (List.mem_of_getElem? (i := 3) rfl), hk.2 _ (List.mem_of_getElem? (i := 4) rfl)⟩
def Zti : List (Kd.FK Zm) := [⟨_, Zz, 0, fun x : Zm => x.top⟩,
 ⟨_, (Kd.int .i64), 1, fun x : Zm => x.room⟩]
def Zw : Kd Zm := Kd.struct 2 Zti (by rfl)
theorem Zct : ∀ g, Zw.K g (default : Zm) [.pointer none, .int .i64 0] := fun g => ⟨rfl, (List.forall_mem_cons.2 ⟨(Zju _), (List.forall_mem_cons.2 ⟨(rfl), (fun _ h => by cases h)⟩)⟩)⟩
def Zv4 : List (Kd.FK Zbz) := [⟨_, Kd.bool, 0, fun x : Zbz => x.text⟩,
 ⟨_, Kd.bool, 1, fun x : Zbz => x.num⟩,
 ⟨_, Kd.bool, 2, fun x : Zbz => x.bounds⟩,
 ⟨_, Kd.bool, 3, fun x : Zbz => x.real⟩,
 ⟨_, Kd.bool, 4, fun x : Zbz => x.list⟩]
def Zco : Kd Zbz := Kd.struct 5 Zv4 (by rfl)
theorem Zpq : ∀ g, Zco.K g (default : Zbz) [.bool false, .bool false, .bool false, .bool false, .bool false] := fun g => ⟨rfl, (List.forall_mem_cons.2 ⟨(rfl), (List.forall_mem_cons.2 ⟨(rfl), (List.forall_mem_cons.2 ⟨(rfl), (List.forall_mem_cons.2 ⟨(rfl), (List.forall_mem_cons.2 ⟨(rfl), (fun _ h => by cases h)⟩)⟩)⟩)⟩)⟩)⟩
def Zws : List (Kd.FK Zcw) := [⟨_, Kd.str, 0, fun x : Zcw => x.word⟩,
 ⟨_, (Kd.int .i64), 1, fun x : Zcw => x.on⟩,
 ⟨_, Kd.str, 2, fun x : Zcw => x.has⟩]
def Zdw : Kd Zcw := Kd.struct 3 Zws (by rfl)
theorem Zqv : ∀ g, Zdw.K g (default : Zcw) [.string ByteArray.empty, .int .i64 0, .string ByteArray.empty] := fun g => ⟨rfl, (List.forall_mem_cons.2 ⟨(rfl), (List.forall_mem_cons.2 ⟨(rfl), (List.forall_mem_cons.2 ⟨(rfl), (fun _ h => by cases h)⟩)⟩)⟩)⟩
def Zyl : List (Kd.FK Zv) := [⟨_, (Kd.int .i64), 0, fun x : Zv => x.Kind⟩,
 ⟨_, Kd.str, 1, fun x : Zv => x.Key⟩,
 ⟨_, (Kd.int .i64), 2, fun x : Zv => x.N⟩,
 ⟨_, Kd.flt, 3, fun x : Zv => x.X⟩,
 ⟨_, Kd.str, 4, fun x : Zv => x.S⟩,
 ⟨_, Zi, 5, fun x : Zv => x.Make⟩,
 ⟨_, Kd.bool, 13, fun x : Zv => x.Must⟩]
def Z8 : Kd Zv := Kd.struct 14 Zyl (by rfl)
theorem Zk0 : ∀ g, Z8.K g (default : Zv) [.int .i64 0, .string ByteArray.empty, .int .i64 0, .float .f64 0, .string ByteArray.empty, .int .i64 0, .int .i64 0, .int .i64 0, .int .i64 0, .float .f64 0, .int .i64 0, .string ByteArray.empty, .slice none 0 0, .bool false] := fun g => ⟨rfl, (List.forall_mem_cons.2 ⟨(rfl), (List.forall_mem_cons.2 ⟨(rfl), (List.forall_mem_cons.2 ⟨(rfl), (List.forall_mem_cons.2 ⟨(rfl), (List.forall_mem_cons.2 ⟨(rfl), (List.forall_mem_cons.2 ⟨(Zcg _), (List.forall_mem_cons.2 ⟨(rfl), (fun _ h => by cases h)⟩)⟩)⟩)⟩)⟩)⟩)⟩)⟩
def Zug : List (Kd.FK Zg) := [⟨_, (Kd.int .i64), 0, fun x : Zg => x.Code⟩,
 ⟨_, (Kd.int .i64), 1, fun x : Zg => x.Num⟩,
 ⟨_, Zi, 2, fun x : Zg => x.Rec⟩]
def Zr : Kd Zg := Kd.struct 10 Zug (by rfl)
theorem Zd6 : ∀ g, Zr.K g (default : Zg) [.int .i64 0, .int .i64 0, .int .i64 0, .int .i64 0, .int .i64 0, .int .i64 0, .float .f64 0, .int .i64 0, .string ByteArray.empty, .slice none 0 0] := fun g => ⟨rfl, (List.forall_mem_cons.2 ⟨(rfl), (List.forall_mem_cons.2 ⟨(rfl), (List.forall_mem_cons.2 ⟨(Zcg _), (fun _ h => by cases h)⟩)⟩)⟩)⟩
def Zw3 : List (Kd.FK Zbu) := [⟨_, Z8.sl, 0, fun x : Zbu => x.Acts⟩]
def Zci : Kd Zbu := Kd.struct 1 Zw3 (by rfl)
theorem Zne : ∀ g, Zci.K g (default : Zbu) [.slice none 0 0] := fun g => ⟨rfl, (List.forall_mem_cons.2 ⟨(⟨none, 0, rfl, Nat.le_refl _, Nat.zero_le _, .inl rfl⟩), (fun _ h => by cases h)⟩)⟩
def Zrm : List (Kd.FK Zdc) := [⟨_, (Kd.int .i64), 0, fun x : Zdc => x.code⟩,
 ⟨_, (Kd.int .i64), 1, fun x : Zdc => x.at_⟩]
def Zeo : Kd Zdc := Kd.struct 2 Zrm (by rfl)
theorem Zsk : ∀ g, Zeo.K g (default : Zdc) [.int .i64 0, .int .i64 0] := fun g => ⟨rfl, (List.forall_mem_cons.2 ⟨(rfl), (List.forall_mem_cons.2 ⟨(rfl), (fun _ h => by cases h)⟩)⟩)⟩
def Zuh : List (Kd.FK Z3) := [⟨_, (Kd.int .i64), 0, fun x : Z3 => x.Code⟩,
 ⟨_, (Kd.int .i64), 1, fun x : Z3 => x.At⟩,
 ⟨_, Zr.sl, 2, fun x : Z3 => x.Answers⟩]
def Zcd : Kd Z3 := Kd.struct 3 Zuh (by rfl)
theorem Zoo : ∀ g, Zcd.K g (default : Z3) [.int .i64 0, .int .i64 0, .slice none 0 0] := fun g => ⟨rfl, (List.forall_mem_cons.2 ⟨(rfl), (List.forall_mem_cons.2 ⟨(rfl), (List.forall_mem_cons.2 ⟨(⟨none, 0, rfl, Nat.le_refl _, Nat.zero_le _, .inl rfl⟩), (fun _ h => by cases h)⟩)⟩)⟩)⟩
def Zop : List (Kd.FK Z4) := [⟨_, Kd.str, 0, fun x : Z4 => x.Key⟩,
 ⟨_, Zi, 1, fun x : Z4 => x.Rec⟩]
def Zbw : Kd Z4 := Kd.struct 9 Zop (by rfl)
theorem Zoq : ∀ g, Zbw.K g (default : Z4) [.string ByteArray.empty, .int .i64 0, .int .i64 0, .int .i64 0, .int .i64 0, .float .f64 0, .int .i64 0, .string ByteArray.empty, .slice none 0 0] := fun g => ⟨rfl, (List.forall_mem_cons.2 ⟨(rfl), (List.forall_mem_cons.2 ⟨(Zcg _), (fun _ h => by cases h)⟩)⟩)⟩
def Zn1 : List (Kd.FK Zl) := [⟨_, Zbw.sl, 0, fun x : Zl => x.L⟩,
 ⟨_, (Kd.int .i64), 1, fun x : Zl => x.Room⟩]
def Zbp : Kd Zl := Kd.struct 2 Zn1 (by rfl)
theorem Zks : ∀ g, Zbp.K g (default : Zl) [.slice none 0 0, .int .i64 0] := fun g => ⟨rfl, (List.forall_mem_cons.2 ⟨(⟨none, 0, rfl, Nat.le_refl _, Nat.zero_le _, .inl rfl⟩), (List.forall_mem_cons.2 ⟨(rfl), (fun _ h => by cases h)⟩)⟩)⟩
def Zvp : Zcw → List Value := fun x => [.string x.word, .int .i64 x.on, .string x.has]
theorem gm_1 : (1, g_1.flatMap Zvp) ∈ GL := List.mem_of_getElem? (i := 0) rfl
theorem gk_1 : ∀ g, (Kd.arr 22 Zdw).K g g_1 (g_1.flatMap Zvp) := fun g => Z6x (dk := Zdw) (enc := Zvp) (fun g x => ⟨rfl, (List.forall_mem_cons.2 ⟨rfl, (List.forall_mem_cons.2 ⟨rfl, (List.forall_mem_cons.2 ⟨rfl, (fun _ h => by cases h)⟩)⟩)⟩)⟩) g g_1
theorem Z3z : Fld Tryd.prog 78 4 Zff (Kd.int .i64) (fun x : shelf_node => x.size) := Fld.of ⟨_, (Kd.int .i64), 11, fun x : shelf_node => x.size⟩ (List.mem_of_getElem? (i := 4) rfl) 11 rfl (by kernel_rfl) (by decide)
theorem ty_3 : Ty Tryd.prog 3 (Kd.int .i64) := ⟨by kernel_rfl, by kernel_rfl⟩
theorem Znn : Fld Tryd.prog 27 0 Zw Zz (fun x : Zm => x.top) := Fld.of ⟨_, Zz, 0, fun x : Zm => x.top⟩ (List.mem_of_getElem? (i := 0) rfl) 0 rfl (by kernel_rfl) (by decide)
theorem Zcp : Ty Tryd.prog 25 Zz := ⟨by kernel_rfl, by kernel_rfl⟩
theorem Zlk : Zo Tryd.prog 25 := by
 unfold Zo
 kernel_rfl
theorem Z3t {N d : Nat} {o : Oper} {uses : Z9} {x0 : Operand} {v0 : Bool} (hop : o.op = .build 81 #[(0, x0)]) (hd : o.dst = some d) (h0 : Opd uses x0 (Kd.bool.pd v0)) : OB Tryd.prog N o uses [(d, Zco.pd { text := v0, num := false, bounds := false, real := false, list := false })] [] := by
 refine Zcu hop hd fun a g hh => ?_
 obtain ⟨c0, k0, e0⟩ := h0 a g hh
 obtain rfl := k0
 refine ⟨.agg #[.bool v0, .bool false, .bool false, .bool false, .bool false], ?_, [.bool v0, .bool false, .bool false, .bool false, .bool false], ⟨rfl, (List.forall_mem_cons.2 ⟨rfl, (List.forall_mem_cons.2 ⟨(rfl), (List.forall_mem_cons.2 ⟨(rfl), (List.forall_mem_cons.2 ⟨(rfl), (List.forall_mem_cons.2 ⟨(rfl), (fun _ h => by cases h)⟩)⟩)⟩)⟩)⟩)⟩, rfl⟩
 simp only [List.map_toArray, List.map_cons, List.map_nil, e0]
 exact Zce Tryd.underlying81 (zero := .agg #[.bool false, .bool false, .bool false, .bool false, .bool false]) (by kernel_rfl) (places := [(0, 1), (1, 1), (2, 1), (3, 1), (4, 1)]) (by kernel_rfl) (by kernel_rfl) g.w
theorem Zi7 : Ty Tryd.prog 81 Zco := ⟨by kernel_rfl, by kernel_rfl⟩
theorem Z4m {N d : Nat} {o : Oper} {uses : Z9} {x1 : Operand} {v1 : Bool} (hop : o.op = .build 81 #[(1, x1)]) (hd : o.dst = some d) (h1 : Opd uses x1 (Kd.bool.pd v1)) : OB Tryd.prog N o uses [(d, Zco.pd { text := false, num := v1, bounds := false, real := false, list := false })] [] := by
 refine Zcu hop hd fun a g hh => ?_
 obtain ⟨c1, k1, e1⟩ := h1 a g hh
 obtain rfl := k1
 refine ⟨.agg #[.bool false, .bool v1, .bool false, .bool false, .bool false], ?_, [.bool false, .bool v1, .bool false, .bool false, .bool false], ⟨rfl, (List.forall_mem_cons.2 ⟨(rfl), (List.forall_mem_cons.2 ⟨rfl, (List.forall_mem_cons.2 ⟨(rfl), (List.forall_mem_cons.2 ⟨(rfl), (List.forall_mem_cons.2 ⟨(rfl), (fun _ h => by cases h)⟩)⟩)⟩)⟩)⟩)⟩, rfl⟩
 simp only [List.map_toArray, List.map_cons, List.map_nil, e1]
 exact Zce Tryd.underlying81 (zero := .agg #[.bool false, .bool false, .bool false, .bool false, .bool false]) (by kernel_rfl) (places := [(0, 1), (1, 1), (2, 1), (3, 1), (4, 1)]) (by kernel_rfl) (by kernel_rfl) g.w
theorem Zz7 {N d : Nat} {o : Oper} {uses : Z9} {x1 : Operand} {x2 : Operand} {v1 : Bool} {v2 : Bool} (hop : o.op = .build 81 #[(1, x1), (2, x2)]) (hd : o.dst = some d) (h1 : Opd uses x1 (Kd.bool.pd v1)) (h2 : Opd uses x2 (Kd.bool.pd v2)) : OB Tryd.prog N o uses [(d, Zco.pd { text := false, num := v1, bounds := v2, real := false, list := false })] [] := by
 refine Zcu hop hd fun a g hh => ?_
 obtain ⟨c1, k1, e1⟩ := h1 a g hh
 obtain rfl := k1
 obtain ⟨c2, k2, e2⟩ := h2 a g hh
 obtain rfl := k2
 refine ⟨.agg #[.bool false, .bool v1, .bool v2, .bool false, .bool false], ?_, [.bool false, .bool v1, .bool v2, .bool false, .bool false], ⟨rfl, (List.forall_mem_cons.2 ⟨(rfl), (List.forall_mem_cons.2 ⟨rfl, (List.forall_mem_cons.2 ⟨rfl, (List.forall_mem_cons.2 ⟨(rfl), (List.forall_mem_cons.2 ⟨(rfl), (fun _ h => by cases h)⟩)⟩)⟩)⟩)⟩)⟩, rfl⟩
 simp only [List.map_toArray, List.map_cons, List.map_nil, e1, e2]
 exact Zce Tryd.underlying81 (zero := .agg #[.bool false, .bool false, .bool false, .bool false, .bool false]) (by kernel_rfl) (places := [(0, 1), (1, 1), (2, 1), (3, 1), (4, 1)]) (by kernel_rfl) (by kernel_rfl) g.w
theorem Z4x {N d : Nat} {o : Oper} {uses : Z9} {x3 : Operand} {v3 : Bool} (hop : o.op = .build 81 #[(3, x3)]) (hd : o.dst = some d) (h3 : Opd uses x3 (Kd.bool.pd v3)) : OB Tryd.prog N o uses [(d, Zco.pd { text := false, num := false, bounds := false, real := v3, list := false })] [] := by
 refine Zcu hop hd fun a g hh => ?_
 obtain ⟨c3, k3, e3⟩ := h3 a g hh
 obtain rfl := k3
 refine ⟨.agg #[.bool false, .bool false, .bool false, .bool v3, .bool false], ?_, [.bool false, .bool false, .bool false, .bool v3, .bool false], ⟨rfl, (List.forall_mem_cons.2 ⟨(rfl), (List.forall_mem_cons.2 ⟨(rfl), (List.forall_mem_cons.2 ⟨(rfl), (List.forall_mem_cons.2 ⟨rfl, (List.forall_mem_cons.2 ⟨(rfl), (fun _ h => by cases h)⟩)⟩)⟩)⟩)⟩)⟩, rfl⟩
 simp only [List.map_toArray, List.map_cons, List.map_nil, e3]
 exact Zce Tryd.underlying81 (zero := .agg #[.bool false, .bool false, .bool false, .bool false, .bool false]) (by kernel_rfl) (places := [(0, 1), (1, 1), (2, 1), (3, 1), (4, 1)]) (by kernel_rfl) (by kernel_rfl) g.w
theorem Z3s {N d : Nat} {o : Oper} {uses : Z9} {x4 : Operand} {v4 : Bool} (hop : o.op = .build 81 #[(4, x4)]) (hd : o.dst = some d) (h4 : Opd uses x4 (Kd.bool.pd v4)) : OB Tryd.prog N o uses [(d, Zco.pd { text := false, num := false, bounds := false, real := false, list := v4 })] [] := by
 refine Zcu hop hd fun a g hh => ?_
 obtain ⟨c4, k4, e4⟩ := h4 a g hh
 obtain rfl := k4
 refine ⟨.agg #[.bool false, .bool false, .bool false, .bool false, .bool v4], ?_, [.bool false, .bool false, .bool false, .bool false, .bool v4], ⟨rfl, (List.forall_mem_cons.2 ⟨(rfl), (List.forall_mem_cons.2 ⟨(rfl), (List.forall_mem_cons.2 ⟨(rfl), (List.forall_mem_cons.2 ⟨(rfl), (List.forall_mem_cons.2 ⟨rfl, (fun _ h => by cases h)⟩)⟩)⟩)⟩)⟩)⟩, rfl⟩
 simp only [List.map_toArray, List.map_cons, List.map_nil, e4]
 exact Zce Tryd.underlying81 (zero := .agg #[.bool false, .bool false, .bool false, .bool false, .bool false]) (by kernel_rfl) (places := [(0, 1), (1, 1), (2, 1), (3, 1), (4, 1)]) (by kernel_rfl) (by kernel_rfl) g.w
theorem Z5g {N d : Nat} {o : Oper} {uses : Z9}   (hop : o.op = .build 81 #[]) (hd : o.dst = some d)  : OB Tryd.prog N o uses [(d, Zco.pd { text := false, num := false, bounds := false, real := false, list := false })] [] := by
 refine Zcu hop hd fun a g hh => ?_
 refine ⟨.agg #[.bool false, .bool false, .bool false, .bool false, .bool false], ?_, [.bool false, .bool false, .bool false, .bool false, .bool false], ⟨rfl, (List.forall_mem_cons.2 ⟨(rfl), (List.forall_mem_cons.2 ⟨(rfl), (List.forall_mem_cons.2 ⟨(rfl), (List.forall_mem_cons.2 ⟨(rfl), (List.forall_mem_cons.2 ⟨(rfl), (fun _ h => by cases h)⟩)⟩)⟩)⟩)⟩)⟩, rfl⟩
 simp only [List.map_toArray, List.map_cons, List.map_nil, List.map_nil]
 exact Zce Tryd.underlying81 (zero := .agg #[.bool false, .bool false, .bool false, .bool false, .bool false]) (by kernel_rfl) (places := [(0, 1), (1, 1), (2, 1), (3, 1), (4, 1)]) (by kernel_rfl) (by kernel_rfl) g.w
theorem Z6z : Ext Tryd.prog 91 Extern.MathFloatBits.float64frombits := ⟨_, Tryd.func91, rfl, rfl, by kernel_rfl, by kernel_rfl⟩
theorem Z7t : Zo Tryd.prog 64 := by
 unfold Zo
 kernel_rfl
theorem Zna : Zo Tryd.prog 46 := by
 unfold Zo
 kernel_rfl
theorem Zux : Ext Tryd.prog 45 Extern.MathFloatBits.float64bits := ⟨_, Tryd.func45, rfl, rfl, by kernel_rfl, by kernel_rfl⟩
theorem Zus : Zo Tryd.prog 63 := by
 unfold Zo
 kernel_rfl
theorem Z3a : Fld Tryd.prog 81 0 Zco Kd.bool (fun x : Zbz => x.text) := Fld.of ⟨_, Kd.bool, 0, fun x : Zbz => x.text⟩ (List.mem_of_getElem? (i := 0) rfl) 0 rfl (by kernel_rfl) (by decide)
theorem ty_4 : Ty Tryd.prog 4 Kd.bool := ⟨by kernel_rfl, by kernel_rfl⟩
theorem Zjj : Fld Tryd.prog 45 6 Zi Kd.str (fun x : Zd => x.Text) := Fld.of ⟨_, Kd.str, 6, fun x : Zd => x.Text⟩ (List.mem_of_getElem? (i := 6) rfl) 6 rfl (by kernel_rfl) (by decide)
theorem ty_9 : Ty Tryd.prog 9 Kd.str := ⟨by kernel_rfl, by kernel_rfl⟩
theorem Z3h : Fld Tryd.prog 81 1 Zco Kd.bool (fun x : Zbz => x.num) := Fld.of ⟨_, Kd.bool, 1, fun x : Zbz => x.num⟩ (List.mem_of_getElem? (i := 1) rfl) 1 rfl (by kernel_rfl) (by decide)
theorem Zd9 : Fld Tryd.prog 45 1 Zi (Kd.int .i64) (fun x : Zd => x.Num) := Fld.of ⟨_, (Kd.int .i64), 1, fun x : Zd => x.Num⟩ (List.mem_of_getElem? (i := 1) rfl) 1 rfl (by kernel_rfl) (by decide)
theorem ty_2 : Ty Tryd.prog 2 (Kd.int .i64) := ⟨by kernel_rfl, by kernel_rfl⟩
theorem Zxm : Fld Tryd.prog 81 2 Zco Kd.bool (fun x : Zbz => x.bounds) := Fld.of ⟨_, Kd.bool, 2, fun x : Zbz => x.bounds⟩ (List.mem_of_getElem? (i := 2) rfl) 2 rfl (by kernel_rfl) (by decide)
theorem Zjn : Fld Tryd.prog 45 2 Zi (Kd.int .i64) (fun x : Zd => x.Low) := Fld.of ⟨_, (Kd.int .i64), 2, fun x : Zd => x.Low⟩ (List.mem_of_getElem? (i := 2) rfl) 2 rfl (by kernel_rfl) (by decide)
theorem Zjm : Fld Tryd.prog 45 3 Zi (Kd.int .i64) (fun x : Zd => x.High) := Fld.of ⟨_, (Kd.int .i64), 3, fun x : Zd => x.High⟩ (List.mem_of_getElem? (i := 3) rfl) 3 rfl (by kernel_rfl) (by decide)
theorem Z4w : Fld Tryd.prog 81 3 Zco Kd.bool (fun x : Zbz => x.real) := Fld.of ⟨_, Kd.bool, 3, fun x : Zbz => x.real⟩ (List.mem_of_getElem? (i := 3) rfl) 3 rfl (by kernel_rfl) (by decide)
theorem Zkj : Fld Tryd.prog 45 4 Zi Kd.flt (fun x : Zd => x.Real) := Fld.of ⟨_, Kd.flt, 4, fun x : Zd => x.Real⟩ (List.mem_of_getElem? (i := 4) rfl) 4 rfl (by kernel_rfl) (by decide)
theorem Ze0 : Ty Tryd.prog 42 Kd.flt := ⟨by kernel_rfl, by kernel_rfl⟩
theorem Zpv : Zo Tryd.prog 44 := by
 unfold Zo
 kernel_rfl
theorem Zx8 : Fld Tryd.prog 81 4 Zco Kd.bool (fun x : Zbz => x.list) := Fld.of ⟨_, Kd.bool, 4, fun x : Zbz => x.list⟩ (List.mem_of_getElem? (i := 4) rfl) 4 rfl (by kernel_rfl) (by decide)
theorem Zhj : Fld Tryd.prog 45 5 Zi (Kd.int .i64) (fun x : Zd => x.Cap) := Fld.of ⟨_, (Kd.int .i64), 5, fun x : Zd => x.Cap⟩ (List.mem_of_getElem? (i := 5) rfl) 5 rfl (by kernel_rfl) (by decide)
theorem Zdb : Fld Tryd.prog 45 7 Zi Zu.sl (fun x : Zd => x.List) := Fld.of ⟨_, Zu.sl, 7, fun x : Zd => x.List⟩ (List.mem_of_getElem? (i := 7) rfl) 7 rfl (by kernel_rfl) (by decide)
theorem Zer : Ty Tryd.prog 43 Zu.sl := ⟨by kernel_rfl, by kernel_rfl⟩
theorem Zgp : Fld Tryd.prog 97 0 Zu Kd.flt (fun x : Zj => x.Score) := Fld.of ⟨_, Kd.flt, 0, fun x : Zj => x.Score⟩ (List.mem_of_getElem? (i := 0) rfl) 0 rfl (by kernel_rfl) (by decide)
theorem Zy6 : Zo Tryd.prog 65 := by
 unfold Zo
 kernel_rfl
theorem Zfz : Fld Tryd.prog 97 1 Zu Kd.str (fun x : Zj => x.Name) := Fld.of ⟨_, Kd.str, 1, fun x : Zj => x.Name⟩ (List.mem_of_getElem? (i := 1) rfl) 1 rfl (by kernel_rfl) (by decide)
theorem Zi6 : (Tryd.prog.info? 97).map (·.size) = some Zu.sz := by kernel_rfl
theorem Zfd : Ty Tryd.prog 97 Zu := ⟨by kernel_rfl, by kernel_rfl⟩
theorem Zyc : Zo Tryd.prog 29 := by
 unfold Zo
 kernel_rfl
theorem Zyy : Zo Tryd.prog 47 := by
 unfold Zo
 kernel_rfl
theorem Zfx : Fld Tryd.prog 45 0 Zi (Kd.int .i64) (fun x : Zd => x.Kind) := Fld.of ⟨_, (Kd.int .i64), 0, fun x : Zd => x.Kind⟩ (List.mem_of_getElem? (i := 0) rfl) 0 rfl (by kernel_rfl) (by decide)
theorem Z6r : Zo Tryd.prog 27 := by
 unfold Zo
 kernel_rfl
theorem Zbg : Ty Tryd.prog 45 Zi := ⟨by kernel_rfl, by kernel_rfl⟩
theorem Z6v : Zo Tryd.prog 28 := by
 unfold Zo
 kernel_rfl
theorem Z7w : Zo Tryd.prog 30 := by
 unfold Zo
 kernel_rfl
theorem Zd4 : TE Tryd.prog 43 97 Zu 24 := TE.of Tryd.underlying43 (by kernel_rfl) (by decide) (by decide)
theorem Zuw : Zo Tryd.prog 43 := by
 unfold Zo
 kernel_rfl
theorem Zp3 {c : Option Nat} {N j s : Nat} {o : Oper} {uses : Z9} {x z : Operand} {v : Zd} {y0 y : List Zj} {v0 : Zd} {t : Nat} (hT : Ty Tryd.prog t Zu.sl) (hop : o.op = .store t x z) (hd : o.dst = none) (hs : Opd uses (.tmp s) (Zbk c Zi j v)) (hx : Opd uses x (Zip Zi j v0 7 Zu.sl y0)) (hz : Opd uses z (Zu.sl.pd y)) : OB Tryd.prog N o uses [(s, Zbk c Zi j { v with List := y })] [j + 1] :=
 Zkl hT hop hd hs hx hz fun g cs ys hk hy => by
   have hc : cs.length = 8 := hk.1
   have hl : ys.length = 1 := Zu.sl.len hy
   exact ⟨by omega, (Zfq (by omega)).trans hc, (List.forall_mem_cons.2 ⟨(by show (Kd.int .i64).K g v.Kind (seg (Zbn cs 7 ys) 0 1); rw [Zbi (by omega) (by omega)]; exact hk.2 _ (List.mem_of_getElem? (i := 0) rfl)), (List.forall_mem_cons.2 ⟨(by show (Kd.int .i64).K g v.Num (seg (Zbn cs 7 ys) 1 1); rw [Zbi (by omega) (by omega)]; exact hk.2 _ (List.mem_of_getElem? (i := 1) rfl)), (List.forall_mem_cons.2 ⟨(by show (Kd.int .i64).K g v.Low (seg (Zbn cs 7 ys) 2 1); rw [Zbi (by omega) (by omega)]; exact hk.2 _ (List.mem_of_getElem? (i := 2) rfl)), (List.forall_mem_cons.2 ⟨(by show (Kd.int .i64).K g v.High (seg (Zbn cs 7 ys) 3 1); rw [Zbi (by omega) (by omega)]; exact hk.2 _ (List.mem_of_getElem? (i := 3) rfl)), (List.forall_mem_cons.2 ⟨(by show Kd.flt.K g v.Real (seg (Zbn cs 7 ys) 4 1); rw [Zbi (by omega) (by omega)]; exact hk.2 _ (List.mem_of_getElem? (i := 4) rfl)), (List.forall_mem_cons.2 ⟨(by show (Kd.int .i64).K g v.Cap (seg (Zbn cs 7 ys) 5 1); rw [Zbi (by omega) (by omega)]; exact hk.2 _ (List.mem_of_getElem? (i := 5) rfl)), (List.forall_mem_cons.2 ⟨(by show Kd.str.K g v.Text (seg (Zbn cs 7 ys) 6 1); rw [Zbi (by omega) (by omega)]; exact hk.2 _ (List.mem_of_getElem? (i := 6) rfl)), (List.forall_mem_cons.2 ⟨(by show Zu.sl.K g y (seg (Zbn cs 7 ys) 7 1); rw [Zgm (by omega) hl]; exact hy), (fun _ h => by cases h)⟩)⟩)⟩)⟩)⟩)⟩)⟩)⟩)⟩
theorem Zeq : Fld Tryd.prog 78 0 Zff Kd.str (fun x : shelf_node => x.key) := Fld.of ⟨_, Kd.str, 0, fun x : shelf_node => x.key⟩ (List.mem_of_getElem? (i := 0) rfl) 0 rfl (by kernel_rfl) (by decide)
theorem Zd8 : Fld Tryd.prog 78 2 Zff Zz (fun x : shelf_node => x.left) := Fld.of ⟨_, Zz, 9, fun x : shelf_node => x.left⟩ (List.mem_of_getElem? (i := 2) rfl) 9 rfl (by kernel_rfl) (by decide)
theorem Zen : Fld Tryd.prog 78 3 Zff Zz (fun x : shelf_node => x.right) := Fld.of ⟨_, Zz, 10, fun x : shelf_node => x.right⟩ (List.mem_of_getElem? (i := 3) rfl) 10 rfl (by kernel_rfl) (by decide)
theorem Zg8 : Fld Tryd.prog 78 1 Zff Zi (fun x : shelf_node => x.rec_) := Fld.of ⟨_, Zi, 1, fun x : shelf_node => x.rec_⟩ (List.mem_of_getElem? (i := 1) rfl) 1 rfl (by kernel_rfl) (by decide)
theorem Zm0 : Zo Tryd.prog 26 := by
 unfold Zo
 kernel_rfl
theorem Zpm {N d : Nat} {o : Oper} {uses : Z9}   (hop : o.op = .build 45 #[]) (hd : o.dst = some d)  : OB Tryd.prog N o uses [(d, Zi.pd { Kind := (0 : Int), Num := (0 : Int), Low := (0 : Int), High := (0 : Int), Real := (0 : Nat), Cap := (0 : Int), Text := ByteArray.empty, List := ([] : List Zj) })] [] := by
 refine Zcu hop hd fun a g hh => ?_
 refine ⟨.agg #[.int .i64 0, .int .i64 0, .int .i64 0, .int .i64 0, .float .f64 0, .int .i64 0, .string ByteArray.empty, .slice none 0 0], ?_, [.int .i64 0, .int .i64 0, .int .i64 0, .int .i64 0, .float .f64 0, .int .i64 0, .string ByteArray.empty, .slice none 0 0], ⟨rfl, (List.forall_mem_cons.2 ⟨(rfl), (List.forall_mem_cons.2 ⟨(rfl), (List.forall_mem_cons.2 ⟨(rfl), (List.forall_mem_cons.2 ⟨(rfl), (List.forall_mem_cons.2 ⟨(rfl), (List.forall_mem_cons.2 ⟨(rfl), (List.forall_mem_cons.2 ⟨(rfl), (List.forall_mem_cons.2 ⟨(⟨none, 0, rfl, Nat.le_refl _, Nat.zero_le _, .inl rfl⟩), (fun _ h => by cases h)⟩)⟩)⟩)⟩)⟩)⟩)⟩)⟩)⟩, rfl⟩
 simp only [List.map_toArray, List.map_cons, List.map_nil, List.map_nil]
 exact Zce Tryd.underlying45 (zero := .agg #[.int .i64 0, .int .i64 0, .int .i64 0, .int .i64 0, .float .f64 0, .int .i64 0, .string ByteArray.empty, .slice none 0 0]) (by kernel_rfl) (places := [(0, 1), (1, 1), (2, 1), (3, 1), (4, 1), (5, 1), (6, 1), (7, 1)]) (by kernel_rfl) (by kernel_rfl) g.w
theorem Zr2 {N d : Nat} {o : Oper} {uses : Z9} {x0 : Operand} {x1 : Operand} {x2 : Operand} {x3 : Operand} {x4 : Operand} {v0 : ByteArray} {v1 : Zd} {v2 : shelf_nodeT} {v3 : shelf_nodeT} {v4 : Int} (hop : o.op = .build 78 #[(0, x0), (1, x1), (2, x2), (3, x3), (4, x4)]) (hd : o.dst = some d) (h0 : Opd uses x0 (Kd.str.pd v0)) (h1 : Opd uses x1 (Zi.pd v1)) (h2 : Opd uses x2 (Zz.pd v2)) (h3 : Opd uses x3 (Zz.pd v3)) (h4 : Opd uses x4 ((Kd.int .i64).pd v4)) : OB Tryd.prog N o uses [(d, Zff.pd { key := v0, rec_ := v1, left := v2, right := v3, size := v4 })] [] := by
 refine Zcu hop hd fun a g hh => ?_
 obtain ⟨c0, k0, e0⟩ := h0 a g hh
 obtain rfl := k0
 obtain ⟨c1, k1, e1⟩ := h1 a g hh
 obtain ⟨u1_0, u1_1, u1_2, u1_3, u1_4, u1_5, u1_6, u1_7, rfl⟩ := Zu1 (Zi.len k1)
 obtain ⟨c2, k2, e2⟩ := h2 a g hh
 obtain ⟨p2, rfl, l2⟩ := k2
 obtain ⟨q2, rfl, _⟩ := shelf_nodeT.ptr l2
 obtain ⟨c3, k3, e3⟩ := h3 a g hh
 obtain ⟨p3, rfl, l3⟩ := k3
 obtain ⟨q3, rfl, _⟩ := shelf_nodeT.ptr l3
 obtain ⟨c4, k4, e4⟩ := h4 a g hh
 obtain rfl := k4
 refine ⟨.agg #[.string v0, u1_0, u1_1, u1_2, u1_3, u1_4, u1_5, u1_6, u1_7, .pointer q2, .pointer q3, .int .i64 v4], ?_, [.string v0, u1_0, u1_1, u1_2, u1_3, u1_4, u1_5, u1_6, u1_7, .pointer q2, .pointer q3, .int .i64 v4], ⟨rfl, (List.forall_mem_cons.2 ⟨rfl, (List.forall_mem_cons.2 ⟨k1, (List.forall_mem_cons.2 ⟨⟨.pointer q2, rfl, l2⟩, (List.forall_mem_cons.2 ⟨⟨.pointer q3, rfl, l3⟩, (List.forall_mem_cons.2 ⟨rfl, (fun _ h => by cases h)⟩)⟩)⟩)⟩)⟩)⟩, rfl⟩
 simp only [List.map_toArray, List.map_cons, List.map_nil, e0, e1, e2, e3, e4]
 exact Zce Tryd.underlying78 (zero := .agg #[.string ByteArray.empty, .int .i64 0, .int .i64 0, .int .i64 0, .int .i64 0, .float .f64 0, .int .i64 0, .string ByteArray.empty, .slice none 0 0, .pointer none, .pointer none, .int .i64 0]) (by kernel_rfl) (places := [(0, 1), (1, 8), (9, 1), (10, 1), (11, 1)]) (by kernel_rfl) (by kernel_rfl) g.w
theorem Zu0 : Zo Tryd.prog 86 := by
 unfold Zo
 kernel_rfl
theorem Zjr : Zo Tryd.prog 54 := by
 unfold Zo
 kernel_rfl
theorem Zyt : Zo Tryd.prog 38 := by
 unfold Zo
 kernel_rfl
theorem Zrp : Zo Tryd.prog 55 := by
 unfold Zo
 kernel_rfl
theorem Zbl : Ty Tryd.prog 27 Zw := ⟨by kernel_rfl, by kernel_rfl⟩
theorem Zuy : Zo Tryd.prog 12 := by
 unfold Zo
 kernel_rfl
theorem Zze : Zo Tryd.prog 34 := by
 unfold Zo
 kernel_rfl
theorem en_9 : Zo Tryd.prog 9 := by
 unfold Zo
 kernel_rfl
theorem Zqb : Fld Tryd.prog 27 1 Zw (Kd.int .i64) (fun x : Zm => x.room) := Fld.of ⟨_, (Kd.int .i64), 1, fun x : Zm => x.room⟩ (List.mem_of_getElem? (i := 1) rfl) 1 rfl (by kernel_rfl) (by decide)
theorem Zt1 {N d : Nat} {o : Oper} {uses : Z9} {x0 : Operand} {x1 : Operand} {v0 : shelf_nodeT} {v1 : Int} (hop : o.op = .build 27 #[(0, x0), (1, x1)]) (hd : o.dst = some d) (h0 : Opd uses x0 (Zz.pd v0)) (h1 : Opd uses x1 ((Kd.int .i64).pd v1)) : OB Tryd.prog N o uses [(d, Zw.pd { top := v0, room := v1 })] [] := by
 refine Zcu hop hd fun a g hh => ?_
 obtain ⟨c0, k0, e0⟩ := h0 a g hh
 obtain ⟨p0, rfl, l0⟩ := k0
 obtain ⟨q0, rfl, _⟩ := shelf_nodeT.ptr l0
 obtain ⟨c1, k1, e1⟩ := h1 a g hh
 obtain rfl := k1
 refine ⟨.agg #[.pointer q0, .int .i64 v1], ?_, [.pointer q0, .int .i64 v1], ⟨rfl, (List.forall_mem_cons.2 ⟨⟨.pointer q0, rfl, l0⟩, (List.forall_mem_cons.2 ⟨rfl, (fun _ h => by cases h)⟩)⟩)⟩, rfl⟩
 simp only [List.map_toArray, List.map_cons, List.map_nil, e0, e1]
 exact Zce Tryd.underlying27 (zero := .agg #[.pointer none, .int .i64 0]) (by kernel_rfl) (places := [(0, 1), (1, 1)]) (by kernel_rfl) (by kernel_rfl) g.w
theorem Z30 {N d : Nat} {o : Oper} {uses : Z9}   (hop : o.op = .build 123 #[]) (hd : o.dst = some d)  : OB Tryd.prog N o uses [(d, Zdw.pd { word := ByteArray.empty, on := (0 : Int), has := ByteArray.empty })] [] := by
 refine Zcu hop hd fun a g hh => ?_
 refine ⟨.agg #[.string ByteArray.empty, .int .i64 0, .string ByteArray.empty], ?_, [.string ByteArray.empty, .int .i64 0, .string ByteArray.empty], ⟨rfl, (List.forall_mem_cons.2 ⟨(rfl), (List.forall_mem_cons.2 ⟨(rfl), (List.forall_mem_cons.2 ⟨(rfl), (fun _ h => by cases h)⟩)⟩)⟩)⟩, rfl⟩
 simp only [List.map_toArray, List.map_cons, List.map_nil, List.map_nil]
 exact Zce Tryd.underlying123 (zero := .agg #[.string ByteArray.empty, .int .i64 0, .string ByteArray.empty]) (by kernel_rfl) (places := [(0, 1), (1, 1), (2, 1)]) (by kernel_rfl) (by kernel_rfl) g.w
theorem Ziy : Ty Tryd.prog 123 Zdw := ⟨by kernel_rfl, by kernel_rfl⟩
theorem Z5h : (Tryd.prog.info? 123).map (·.size) = some Zdw.sz := by kernel_rfl
theorem Z74 : Zo Tryd.prog 49 := by
 unfold Zo
 kernel_rfl
theorem Z72 : Zo Tryd.prog 48 := by
 unfold Zo
 kernel_rfl
theorem Zu3 : Fld Tryd.prog 123 2 Zdw Kd.str (fun x : Zcw => x.has) := Fld.of ⟨_, Kd.str, 2, fun x : Zcw => x.has⟩ (List.mem_of_getElem? (i := 2) rfl) 2 rfl (by kernel_rfl) (by decide)
theorem Zut : Zo Tryd.prog 90 := by
 unfold Zo
 kernel_rfl
theorem Zgi : Fld Tryd.prog 56 2 Z8 (Kd.int .i64) (fun x : Zv => x.N) := Fld.of ⟨_, (Kd.int .i64), 2, fun x : Zv => x.N⟩ (List.mem_of_getElem? (i := 2) rfl) 2 rfl (by kernel_rfl) (by decide)
theorem Zqc : Fld Tryd.prog 56 3 Z8 Kd.flt (fun x : Zv => x.X) := Fld.of ⟨_, Kd.flt, 3, fun x : Zv => x.X⟩ (List.mem_of_getElem? (i := 3) rfl) 3 rfl (by kernel_rfl) (by decide)
theorem Zi0 : Fld Tryd.prog 56 4 Z8 Kd.str (fun x : Zv => x.S) := Fld.of ⟨_, Kd.str, 4, fun x : Zv => x.S⟩ (List.mem_of_getElem? (i := 4) rfl) 4 rfl (by kernel_rfl) (by decide)
theorem Zpy : Fld Tryd.prog 56 5 Z8 Zi (fun x : Zv => x.Make) := Fld.of ⟨_, Zi, 5, fun x : Zv => x.Make⟩ (List.mem_of_getElem? (i := 5) rfl) 5 rfl (by kernel_rfl) (by decide)
theorem Z2d : Zo Tryd.prog 33 := by
 unfold Zo
 kernel_rfl
theorem Zv7 : Fld Tryd.prog 123 1 Zdw (Kd.int .i64) (fun x : Zcw => x.on) := Fld.of ⟨_, (Kd.int .i64), 1, fun x : Zcw => x.on⟩ (List.mem_of_getElem? (i := 1) rfl) 1 rfl (by kernel_rfl) (by decide)
theorem Zhk : Fld Tryd.prog 56 0 Z8 (Kd.int .i64) (fun x : Zv => x.Kind) := Fld.of ⟨_, (Kd.int .i64), 0, fun x : Zv => x.Kind⟩ (List.mem_of_getElem? (i := 0) rfl) 0 rfl (by kernel_rfl) (by decide)
theorem Z2f : Zo Tryd.prog 60 := by
 unfold Zo
 kernel_rfl
theorem Z1a : Fld Tryd.prog 123 0 Zdw Kd.str (fun x : Zcw => x.word) := Fld.of ⟨_, Kd.str, 0, fun x : Zcw => x.word⟩ (List.mem_of_getElem? (i := 0) rfl) 0 rfl (by kernel_rfl) (by decide)
theorem Zl9 : Fld Tryd.prog 56 1 Z8 Kd.str (fun x : Zv => x.Key) := Fld.of ⟨_, Kd.str, 1, fun x : Zv => x.Key⟩ (List.mem_of_getElem? (i := 1) rfl) 1 rfl (by kernel_rfl) (by decide)
theorem Zfs : Ty Tryd.prog 56 Z8 := ⟨by kernel_rfl, by kernel_rfl⟩
theorem Z7k : Zo Tryd.prog 61 := by
 unfold Zo
 kernel_rfl
theorem Z6d : Zo Tryd.prog 62 := by
 unfold Zo
 kernel_rfl
theorem Zxn {c : Option Nat} {N j s : Nat} {o : Oper} {uses : Z9} {x z : Operand} {v : Zd} {y0 y : ByteArray} {v0 : Zd} {t : Nat} (hT : Ty Tryd.prog t Kd.str) (hop : o.op = .store t x z) (hd : o.dst = none) (hs : Opd uses (.tmp s) (Zbk c Zi j v)) (hx : Opd uses x (Zip Zi j v0 6 Kd.str y0)) (hz : Opd uses z (Kd.str.pd y)) : OB Tryd.prog N o uses [(s, Zbk c Zi j { v with Text := y })] [j + 1] :=
 Zkl hT hop hd hs hx hz fun g cs ys hk hy => by
   have hc : cs.length = 8 := hk.1
   have hl : ys.length = 1 := Kd.str.len hy
   exact ⟨by omega, (Zfq (by omega)).trans hc, (List.forall_mem_cons.2 ⟨(by show (Kd.int .i64).K g v.Kind (seg (Zbn cs 6 ys) 0 1); rw [Zbi (by omega) (by omega)]; exact hk.2 _ (List.mem_of_getElem? (i := 0) rfl)), (List.forall_mem_cons.2 ⟨(by show (Kd.int .i64).K g v.Num (seg (Zbn cs 6 ys) 1 1); rw [Zbi (by omega) (by omega)]; exact hk.2 _ (List.mem_of_getElem? (i := 1) rfl)), (List.forall_mem_cons.2 ⟨(by show (Kd.int .i64).K g v.Low (seg (Zbn cs 6 ys) 2 1); rw [Zbi (by omega) (by omega)]; exact hk.2 _ (List.mem_of_getElem? (i := 2) rfl)), (List.forall_mem_cons.2 ⟨(by show (Kd.int .i64).K g v.High (seg (Zbn cs 6 ys) 3 1); rw [Zbi (by omega) (by omega)]; exact hk.2 _ (List.mem_of_getElem? (i := 3) rfl)), (List.forall_mem_cons.2 ⟨(by show Kd.flt.K g v.Real (seg (Zbn cs 6 ys) 4 1); rw [Zbi (by omega) (by omega)]; exact hk.2 _ (List.mem_of_getElem? (i := 4) rfl)), (List.forall_mem_cons.2 ⟨(by show (Kd.int .i64).K g v.Cap (seg (Zbn cs 6 ys) 5 1); rw [Zbi (by omega) (by omega)]; exact hk.2 _ (List.mem_of_getElem? (i := 5) rfl)), (List.forall_mem_cons.2 ⟨(by show Kd.str.K g y (seg (Zbn cs 6 ys) 6 1); rw [Zgm (by omega) hl]; exact hy), (List.forall_mem_cons.2 ⟨(by show Zu.sl.K g v.List (seg (Zbn cs 6 ys) 7 1); rw [Zbi (by omega) (by omega)]; exact hk.2 _ (List.mem_of_getElem? (i := 7) rfl)), (fun _ h => by cases h)⟩)⟩)⟩)⟩)⟩)⟩)⟩)⟩)⟩
theorem Zss : Fld Tryd.prog 58 2 Zr Zi (fun x : Zg => x.Rec) := Fld.of ⟨_, Zi, 2, fun x : Zg => x.Rec⟩ (List.mem_of_getElem? (i := 2) rfl) 2 rfl (by kernel_rfl) (by decide)
theorem Z4p {c : Option Nat} {N j s : Nat} {o : Oper} {uses : Z9} {x z : Operand} {v : Zg} {y0 y : Zd} {v0 : Zg} {t : Nat} (hT : Ty Tryd.prog t Zi) (hop : o.op = .store t x z) (hd : o.dst = none) (hs : Opd uses (.tmp s) (Zbk c Zr j v)) (hx : Opd uses x (Zip Zr j v0 2 Zi y0)) (hz : Opd uses z (Zi.pd y)) : OB Tryd.prog N o uses [(s, Zbk c Zr j { v with Rec := y })] [j + 1] :=
 Zkl hT hop hd hs hx hz fun g cs ys hk hy => by
   have hc : cs.length = 10 := hk.1
   have hl : ys.length = 8 := Zi.len hy
   exact ⟨by omega, (Zfq (by omega)).trans hc, (List.forall_mem_cons.2 ⟨(by show (Kd.int .i64).K g v.Code (seg (Zbn cs 2 ys) 0 1); rw [Zbi (by omega) (by omega)]; exact hk.2 _ (List.mem_of_getElem? (i := 0) rfl)), (List.forall_mem_cons.2 ⟨(by show (Kd.int .i64).K g v.Num (seg (Zbn cs 2 ys) 1 1); rw [Zbi (by omega) (by omega)]; exact hk.2 _ (List.mem_of_getElem? (i := 1) rfl)), (List.forall_mem_cons.2 ⟨(by show Zi.K g y (seg (Zbn cs 2 ys) 2 8); rw [Zgm (by omega) hl]; exact hy), (fun _ h => by cases h)⟩)⟩)⟩)⟩
theorem Zpx {c : Option Nat} {N j s : Nat} {o : Oper} {uses : Z9} {x z : Operand} {v : Zd} {y0 y : Int} {v0 : Zd} {t : Nat} (hT : Ty Tryd.prog t (Kd.int .i64)) (hop : o.op = .store t x z) (hd : o.dst = none) (hs : Opd uses (.tmp s) (Zbk c Zi j v)) (hx : Opd uses x (Zip Zi j v0 1 (Kd.int .i64) y0)) (hz : Opd uses z ((Kd.int .i64).pd y)) : OB Tryd.prog N o uses [(s, Zbk c Zi j { v with Num := y })] [j + 1] :=
 Zkl hT hop hd hs hx hz fun g cs ys hk hy => by
   have hc : cs.length = 8 := hk.1
   have hl : ys.length = 1 := (Kd.int .i64).len hy
   exact ⟨by omega, (Zfq (by omega)).trans hc, (List.forall_mem_cons.2 ⟨(by show (Kd.int .i64).K g v.Kind (seg (Zbn cs 1 ys) 0 1); rw [Zbi (by omega) (by omega)]; exact hk.2 _ (List.mem_of_getElem? (i := 0) rfl)), (List.forall_mem_cons.2 ⟨(by show (Kd.int .i64).K g y (seg (Zbn cs 1 ys) 1 1); rw [Zgm (by omega) hl]; exact hy), (List.forall_mem_cons.2 ⟨(by show (Kd.int .i64).K g v.Low (seg (Zbn cs 1 ys) 2 1); rw [Zbi (by omega) (by omega)]; exact hk.2 _ (List.mem_of_getElem? (i := 2) rfl)), (List.forall_mem_cons.2 ⟨(by show (Kd.int .i64).K g v.High (seg (Zbn cs 1 ys) 3 1); rw [Zbi (by omega) (by omega)]; exact hk.2 _ (List.mem_of_getElem? (i := 3) rfl)), (List.forall_mem_cons.2 ⟨(by show Kd.flt.K g v.Real (seg (Zbn cs 1 ys) 4 1); rw [Zbi (by omega) (by omega)]; exact hk.2 _ (List.mem_of_getElem? (i := 4) rfl)), (List.forall_mem_cons.2 ⟨(by show (Kd.int .i64).K g v.Cap (seg (Zbn cs 1 ys) 5 1); rw [Zbi (by omega) (by omega)]; exact hk.2 _ (List.mem_of_getElem? (i := 5) rfl)), (List.forall_mem_cons.2 ⟨(by show Kd.str.K g v.Text (seg (Zbn cs 1 ys) 6 1); rw [Zbi (by omega) (by omega)]; exact hk.2 _ (List.mem_of_getElem? (i := 6) rfl)), (List.forall_mem_cons.2 ⟨(by show Zu.sl.K g v.List (seg (Zbn cs 1 ys) 7 1); rw [Zbi (by omega) (by omega)]; exact hk.2 _ (List.mem_of_getElem? (i := 7) rfl)), (fun _ h => by cases h)⟩)⟩)⟩)⟩)⟩)⟩)⟩)⟩)⟩
theorem Z33 {c : Option Nat} {N j s : Nat} {o : Oper} {uses : Z9} {x z : Operand} {v : Zd} {y0 y : Nat} {v0 : Zd} {t : Nat} (hT : Ty Tryd.prog t Kd.flt) (hop : o.op = .store t x z) (hd : o.dst = none) (hs : Opd uses (.tmp s) (Zbk c Zi j v)) (hx : Opd uses x (Zip Zi j v0 4 Kd.flt y0)) (hz : Opd uses z (Kd.flt.pd y)) : OB Tryd.prog N o uses [(s, Zbk c Zi j { v with Real := y })] [j + 1] :=
 Zkl hT hop hd hs hx hz fun g cs ys hk hy => by
   have hc : cs.length = 8 := hk.1
   have hl : ys.length = 1 := Kd.flt.len hy
   exact ⟨by omega, (Zfq (by omega)).trans hc, (List.forall_mem_cons.2 ⟨(by show (Kd.int .i64).K g v.Kind (seg (Zbn cs 4 ys) 0 1); rw [Zbi (by omega) (by omega)]; exact hk.2 _ (List.mem_of_getElem? (i := 0) rfl)), (List.forall_mem_cons.2 ⟨(by show (Kd.int .i64).K g v.Num (seg (Zbn cs 4 ys) 1 1); rw [Zbi (by omega) (by omega)]; exact hk.2 _ (List.mem_of_getElem? (i := 1) rfl)), (List.forall_mem_cons.2 ⟨(by show (Kd.int .i64).K g v.Low (seg (Zbn cs 4 ys) 2 1); rw [Zbi (by omega) (by omega)]; exact hk.2 _ (List.mem_of_getElem? (i := 2) rfl)), (List.forall_mem_cons.2 ⟨(by show (Kd.int .i64).K g v.High (seg (Zbn cs 4 ys) 3 1); rw [Zbi (by omega) (by omega)]; exact hk.2 _ (List.mem_of_getElem? (i := 3) rfl)), (List.forall_mem_cons.2 ⟨(by show Kd.flt.K g y (seg (Zbn cs 4 ys) 4 1); rw [Zgm (by omega) hl]; exact hy), (List.forall_mem_cons.2 ⟨(by show (Kd.int .i64).K g v.Cap (seg (Zbn cs 4 ys) 5 1); rw [Zbi (by omega) (by omega)]; exact hk.2 _ (List.mem_of_getElem? (i := 5) rfl)), (List.forall_mem_cons.2 ⟨(by show Kd.str.K g v.Text (seg (Zbn cs 4 ys) 6 1); rw [Zbi (by omega) (by omega)]; exact hk.2 _ (List.mem_of_getElem? (i := 6) rfl)), (List.forall_mem_cons.2 ⟨(by show Zu.sl.K g v.List (seg (Zbn cs 4 ys) 7 1); rw [Zbi (by omega) (by omega)]; exact hk.2 _ (List.mem_of_getElem? (i := 7) rfl)), (fun _ h => by cases h)⟩)⟩)⟩)⟩)⟩)⟩)⟩)⟩)⟩
theorem Zrs : Zo Tryd.prog 92 := by
 unfold Zo
 kernel_rfl
theorem Z4q : Ty Tryd.prog 129 Kd.fnc := ⟨by kernel_rfl, by kernel_rfl⟩
theorem Z6s : Zo Tryd.prog 95 := by
 unfold Zo
 kernel_rfl
theorem Z6h : Zo Tryd.prog 94 := by
 unfold Zo
 kernel_rfl
theorem Z6w : Ext Tryd.prog 98 (Extern.SlicesOverlaps.overlaps #[43, 43] #[4]) := ⟨_, Tryd.func98, rfl, rfl, by kernel_rfl, by kernel_rfl⟩
theorem Zyz : Zo Tryd.prog 81 := by
 unfold Zo
 kernel_rfl
theorem Z4u {N d : Nat} {o : Oper} {uses : Z9} {x1 : Operand} {v1 : ByteArray} (hop : o.op = .build 97 #[(1, x1)]) (hd : o.dst = some d) (h1 : Opd uses x1 (Kd.str.pd v1)) : OB Tryd.prog N o uses [(d, Zu.pd { Score := (0 : Nat), Name := v1 })] [] := by
 refine Zcu hop hd fun a g hh => ?_
 obtain ⟨c1, k1, e1⟩ := h1 a g hh
 obtain rfl := k1
 refine ⟨.agg #[.float .f64 0, .string v1], ?_, [.float .f64 0, .string v1], ⟨rfl, (List.forall_mem_cons.2 ⟨(rfl), (List.forall_mem_cons.2 ⟨rfl, (fun _ h => by cases h)⟩)⟩)⟩, rfl⟩
 simp only [List.map_toArray, List.map_cons, List.map_nil, e1]
 exact Zce Tryd.underlying97 (zero := .agg #[.float .f64 0, .string ByteArray.empty]) (by kernel_rfl) (places := [(0, 1), (1, 1)]) (by kernel_rfl) (by kernel_rfl) g.w
theorem Z2k : Zo Tryd.prog 93 := by
 unfold Zo
 kernel_rfl
theorem Z7z : Zo Tryd.prog 82 := by
 unfold Zo
 kernel_rfl
theorem Zzm {N d : Nat} {o : Oper} {uses : Z9} {x0 : Operand} {x1 : Operand} {v0 : Nat} {v1 : ByteArray} (hop : o.op = .build 97 #[(0, x0), (1, x1)]) (hd : o.dst = some d) (h0 : Opd uses x0 (Kd.flt.pd v0)) (h1 : Opd uses x1 (Kd.str.pd v1)) : OB Tryd.prog N o uses [(d, Zu.pd { Score := v0, Name := v1 })] [] := by
 refine Zcu hop hd fun a g hh => ?_
 obtain ⟨c0, k0, e0⟩ := h0 a g hh
 obtain rfl := k0
 obtain ⟨c1, k1, e1⟩ := h1 a g hh
 obtain rfl := k1
 refine ⟨.agg #[.float .f64 v0, .string v1], ?_, [.float .f64 v0, .string v1], ⟨rfl, (List.forall_mem_cons.2 ⟨rfl, (List.forall_mem_cons.2 ⟨rfl, (fun _ h => by cases h)⟩)⟩)⟩, rfl⟩
 simp only [List.map_toArray, List.map_cons, List.map_nil, e0, e1]
 exact Zce Tryd.underlying97 (zero := .agg #[.float .f64 0, .string ByteArray.empty]) (by kernel_rfl) (places := [(0, 1), (1, 1)]) (by kernel_rfl) (by kernel_rfl) g.w
theorem Z8d : Zo Tryd.prog 66 := by
 unfold Zo
 kernel_rfl
theorem Z75 : Zo Tryd.prog 67 := by
 unfold Zo
 kernel_rfl
theorem Z69 : Zo Tryd.prog 68 := by
 unfold Zo
 kernel_rfl
theorem Z76 : Zo Tryd.prog 69 := by
 unfold Zo
 kernel_rfl
theorem Z2c : Zo Tryd.prog 70 := by
 unfold Zo
 kernel_rfl
theorem Z8b : Zo Tryd.prog 71 := by
 unfold Zo
 kernel_rfl
theorem Z78 : Zo Tryd.prog 72 := by
 unfold Zo
 kernel_rfl
theorem Z7q : Zo Tryd.prog 74 := by
 unfold Zo
 kernel_rfl
theorem Z60 : Zo Tryd.prog 75 := by
 unfold Zo
 kernel_rfl
theorem Z7n : Zo Tryd.prog 76 := by
 unfold Zo
 kernel_rfl
theorem Z7a : Zo Tryd.prog 77 := by
 unfold Zo
 kernel_rfl
theorem Z6c : Zo Tryd.prog 78 := by
 unfold Zo
 kernel_rfl
theorem Z7v : Zo Tryd.prog 79 := by
 unfold Zo
 kernel_rfl
theorem Z7y : Zo Tryd.prog 80 := by
 unfold Zo
 kernel_rfl
theorem Z62 : Zo Tryd.prog 83 := by
 unfold Zo
 kernel_rfl
theorem Z7i : Zo Tryd.prog 84 := by
 unfold Zo
 kernel_rfl
theorem Zrr : Zo Tryd.prog 73 := by
 unfold Zo
 kernel_rfl
theorem Zta {N d : Nat} {o : Oper} {uses : Z9} {x0 : Operand} {v0 : Int} (hop : o.op = .build 58 #[(0, x0)]) (hd : o.dst = some d) (h0 : Opd uses x0 ((Kd.int .i64).pd v0)) : OB Tryd.prog N o uses [(d, Zr.pd { Code := v0, Num := (0 : Int), Rec := (default : Zd) })] [] := by
 refine Zcu hop hd fun a g hh => ?_
 obtain ⟨c0, k0, e0⟩ := h0 a g hh
 obtain rfl := k0
 refine ⟨.agg #[.int .i64 v0, .int .i64 0, .int .i64 0, .int .i64 0, .int .i64 0, .int .i64 0, .float .f64 0, .int .i64 0, .string ByteArray.empty, .slice none 0 0], ?_, [.int .i64 v0, .int .i64 0, .int .i64 0, .int .i64 0, .int .i64 0, .int .i64 0, .float .f64 0, .int .i64 0, .string ByteArray.empty, .slice none 0 0], ⟨rfl, (List.forall_mem_cons.2 ⟨rfl, (List.forall_mem_cons.2 ⟨(rfl), (List.forall_mem_cons.2 ⟨(Zcg _), (fun _ h => by cases h)⟩)⟩)⟩)⟩, rfl⟩
 simp only [List.map_toArray, List.map_cons, List.map_nil, e0]
 exact Zce Tryd.underlying58 (zero := .agg #[.int .i64 0, .int .i64 0, .int .i64 0, .int .i64 0, .int .i64 0, .int .i64 0, .float .f64 0, .int .i64 0, .string ByteArray.empty, .slice none 0 0]) (by kernel_rfl) (places := [(0, 1), (1, 1), (2, 8)]) (by kernel_rfl) (by kernel_rfl) g.w
theorem Zca : Ty Tryd.prog 58 Zr := ⟨by kernel_rfl, by kernel_rfl⟩
theorem Z2g : Zo Tryd.prog 42 := by
 unfold Zo
 kernel_rfl
theorem Zsh : Zo Tryd.prog 50 := by
 unfold Zo
 kernel_rfl
theorem Zzi {N d : Nat} {o : Oper} {uses : Z9}   (hop : o.op = .build 58 #[]) (hd : o.dst = some d)  : OB Tryd.prog N o uses [(d, Zr.pd { Code := (0 : Int), Num := (0 : Int), Rec := (default : Zd) })] [] := by
 refine Zcu hop hd fun a g hh => ?_
 refine ⟨.agg #[.int .i64 0, .int .i64 0, .int .i64 0, .int .i64 0, .int .i64 0, .int .i64 0, .float .f64 0, .int .i64 0, .string ByteArray.empty, .slice none 0 0], ?_, [.int .i64 0, .int .i64 0, .int .i64 0, .int .i64 0, .int .i64 0, .int .i64 0, .float .f64 0, .int .i64 0, .string ByteArray.empty, .slice none 0 0], ⟨rfl, (List.forall_mem_cons.2 ⟨(rfl), (List.forall_mem_cons.2 ⟨(rfl), (List.forall_mem_cons.2 ⟨(Zcg _), (fun _ h => by cases h)⟩)⟩)⟩)⟩, rfl⟩
 simp only [List.map_toArray, List.map_cons, List.map_nil, List.map_nil]
 exact Zce Tryd.underlying58 (zero := .agg #[.int .i64 0, .int .i64 0, .int .i64 0, .int .i64 0, .int .i64 0, .int .i64 0, .float .f64 0, .int .i64 0, .string ByteArray.empty, .slice none 0 0]) (by kernel_rfl) (places := [(0, 1), (1, 1), (2, 8)]) (by kernel_rfl) (by kernel_rfl) g.w
theorem Z35 {N d : Nat} {o : Oper} {uses : Z9} {x1 : Operand} {v1 : Int} (hop : o.op = .build 58 #[(1, x1)]) (hd : o.dst = some d) (h1 : Opd uses x1 ((Kd.int .i64).pd v1)) : OB Tryd.prog N o uses [(d, Zr.pd { Code := (0 : Int), Num := v1, Rec := (default : Zd) })] [] := by
 refine Zcu hop hd fun a g hh => ?_
 obtain ⟨c1, k1, e1⟩ := h1 a g hh
 obtain rfl := k1
 refine ⟨.agg #[.int .i64 0, .int .i64 v1, .int .i64 0, .int .i64 0, .int .i64 0, .int .i64 0, .float .f64 0, .int .i64 0, .string ByteArray.empty, .slice none 0 0], ?_, [.int .i64 0, .int .i64 v1, .int .i64 0, .int .i64 0, .int .i64 0, .int .i64 0, .float .f64 0, .int .i64 0, .string ByteArray.empty, .slice none 0 0], ⟨rfl, (List.forall_mem_cons.2 ⟨(rfl), (List.forall_mem_cons.2 ⟨rfl, (List.forall_mem_cons.2 ⟨(Zcg _), (fun _ h => by cases h)⟩)⟩)⟩)⟩, rfl⟩
 simp only [List.map_toArray, List.map_cons, List.map_nil, e1]
 exact Zce Tryd.underlying58 (zero := .agg #[.int .i64 0, .int .i64 0, .int .i64 0, .int .i64 0, .int .i64 0, .int .i64 0, .float .f64 0, .int .i64 0, .string ByteArray.empty, .slice none 0 0]) (by kernel_rfl) (places := [(0, 1), (1, 1), (2, 8)]) (by kernel_rfl) (by kernel_rfl) g.w
theorem Z3d {N d : Nat} {o : Oper} {uses : Z9} {x2 : Operand} {v2 : Zd} (hop : o.op = .build 58 #[(2, x2)]) (hd : o.dst = some d) (h2 : Opd uses x2 (Zi.pd v2)) : OB Tryd.prog N o uses [(d, Zr.pd { Code := (0 : Int), Num := (0 : Int), Rec := v2 })] [] := by
 refine Zcu hop hd fun a g hh => ?_
 obtain ⟨c2, k2, e2⟩ := h2 a g hh
 obtain ⟨u2_0, u2_1, u2_2, u2_3, u2_4, u2_5, u2_6, u2_7, rfl⟩ := Zu1 (Zi.len k2)
 refine ⟨.agg #[.int .i64 0, .int .i64 0, u2_0, u2_1, u2_2, u2_3, u2_4, u2_5, u2_6, u2_7], ?_, [.int .i64 0, .int .i64 0, u2_0, u2_1, u2_2, u2_3, u2_4, u2_5, u2_6, u2_7], ⟨rfl, (List.forall_mem_cons.2 ⟨(rfl), (List.forall_mem_cons.2 ⟨(rfl), (List.forall_mem_cons.2 ⟨k2, (fun _ h => by cases h)⟩)⟩)⟩)⟩, rfl⟩
 simp only [List.map_toArray, List.map_cons, List.map_nil, e2]
 exact Zce Tryd.underlying58 (zero := .agg #[.int .i64 0, .int .i64 0, .int .i64 0, .int .i64 0, .int .i64 0, .int .i64 0, .float .f64 0, .int .i64 0, .string ByteArray.empty, .slice none 0 0]) (by kernel_rfl) (places := [(0, 1), (1, 1), (2, 8)]) (by kernel_rfl) (by kernel_rfl) g.w
theorem Z6e : Zo Tryd.prog 51 := by
 unfold Zo
 kernel_rfl
theorem Z79 : Zo Tryd.prog 52 := by
 unfold Zo
 kernel_rfl
theorem Zup : Zo Tryd.prog 53 := by
 unfold Zo
 kernel_rfl
theorem Z7x : Zo Tryd.prog 85 := by
 unfold Zo
 kernel_rfl
theorem Z59 : Zo Tryd.prog 35 := by
 unfold Zo
 kernel_rfl
theorem Zli : Fld Tryd.prog 58 0 Zr (Kd.int .i64) (fun x : Zg => x.Code) := Fld.of ⟨_, (Kd.int .i64), 0, fun x : Zg => x.Code⟩ (List.mem_of_getElem? (i := 0) rfl) 0 rfl (by kernel_rfl) (by decide)
theorem Zk3 : Ty Tryd.prog 35 (Kd.int .i64) := ⟨by kernel_rfl, by kernel_rfl⟩
theorem Z6u : Zo Tryd.prog 36 := by
 unfold Zo
 kernel_rfl
theorem Z6o : Zo Tryd.prog 37 := by
 unfold Zo
 kernel_rfl
theorem Z2m : Zo Tryd.prog 19 := by
 unfold Zo
 kernel_rfl
theorem Zmb : Fld Tryd.prog 34 0 Zci Z8.sl (fun x : Zbu => x.Acts) := Fld.of ⟨_, Z8.sl, 0, fun x : Zbu => x.Acts⟩ (List.mem_of_getElem? (i := 0) rfl) 0 rfl (by kernel_rfl) (by decide)
theorem Zpz : Ty Tryd.prog 32 Z8.sl := ⟨by kernel_rfl, by kernel_rfl⟩
theorem Zy1 : (Tryd.prog.info? 56).map (·.size) = some Z8.sz := by kernel_rfl
theorem Zxp : Fld Tryd.prog 56 6 Z8 Kd.bool (fun x : Zv => x.Must) := Fld.of ⟨_, Kd.bool, 13, fun x : Zv => x.Must⟩ (List.mem_of_getElem? (i := 6) rfl) 13 rfl (by kernel_rfl) (by decide)
theorem Z05 {N d : Nat} {o : Oper} {uses : Z9} {x0 : Operand} {x1 : Operand} {v0 : Int} {v1 : Int} (hop : o.op = .build 75 #[(0, x0), (1, x1)]) (hd : o.dst = some d) (h0 : Opd uses x0 ((Kd.int .i64).pd v0)) (h1 : Opd uses x1 ((Kd.int .i64).pd v1)) : OB Tryd.prog N o uses [(d, Zeo.pd { code := v0, at_ := v1 })] [] := by
 refine Zcu hop hd fun a g hh => ?_
 obtain ⟨c0, k0, e0⟩ := h0 a g hh
 obtain rfl := k0
 obtain ⟨c1, k1, e1⟩ := h1 a g hh
 obtain rfl := k1
 refine ⟨.agg #[.int .i64 v0, .int .i64 v1], ?_, [.int .i64 v0, .int .i64 v1], ⟨rfl, (List.forall_mem_cons.2 ⟨rfl, (List.forall_mem_cons.2 ⟨rfl, (fun _ h => by cases h)⟩)⟩)⟩, rfl⟩
 simp only [List.map_toArray, List.map_cons, List.map_nil, e0, e1]
 exact Zce Tryd.underlying75 (zero := .agg #[.int .i64 0, .int .i64 0]) (by kernel_rfl) (places := [(0, 1), (1, 1)]) (by kernel_rfl) (by kernel_rfl) g.w
structure Zge where
 Code : Int
 At : Int
 Answers : SlV
def Zsq : List (Kd.FK Zge) := [⟨_, (Kd.int .i64), 0, fun x : Zge => x.Code⟩,
 ⟨_, (Kd.int .i64), 1, fun x : Zge => x.At⟩,
 ⟨_, Kd.raw, 2, fun x : Zge => x.Answers⟩]
def Zc1 : Kd Zge := Kd.struct 3 Zsq (by rfl)
def Zdr (x : Z3) (s : SlV) : Zge := ⟨x.Code, x.At, s⟩
theorem Zsm : ∀ g, Zc1.K g (Zdr ((default : Z3)) (none, 0, 0)) [.int .i64 0, .int .i64 0, .slice none 0 0] := fun g => ⟨rfl, (List.forall_mem_cons.2 ⟨(rfl), (List.forall_mem_cons.2 ⟨(rfl), (List.forall_mem_cons.2 ⟨rfl, (fun _ h => by cases h)⟩)⟩)⟩)⟩
theorem Zru {x : Z3} {e j : Nat} : ∀ (g : G) (s : SlV) (cs : List Value), Zc1.K g (Zdr x s) cs → (hpL (pRow Zr e j x.Answers)).p g s → Zcd.K g x cs := fun g s cs h hr => ⟨h.1, (List.forall_mem_cons.2 ⟨(h.2 _ (List.mem_of_getElem? (i := 0) rfl)), (List.forall_mem_cons.2 ⟨(h.2 _ (List.mem_of_getElem? (i := 1) rfl)), (List.forall_mem_cons.2 ⟨(Z46 (h.2 _ (List.mem_of_getElem? (i := 2) rfl)) hr.1), (fun _ h => by cases h)⟩)⟩)⟩)⟩
theorem Zsg {x : Z3} {g : G} {cs ys : List Value} {s0 s1 : SlV} (hk : Zc1.K g (Zdr x s0) cs) (hy : Kd.raw.K g s1 ys) : 2 + ys.length ≤ cs.length ∧ Zc1.K g (Zdr x s1) (Zbn cs 2 ys) := by
 have hc : cs.length = 3 := hk.1
 have hl : ys.length = 1 := Kd.raw.len hy
 exact ⟨by omega, (Zfq (by omega)).trans hc, (List.forall_mem_cons.2 ⟨(by show (Kd.int .i64).K g x.Code (seg (Zbn cs 2 ys) 0 1); rw [Zbi (by omega) (by omega)]; exact hk.2 _ (List.mem_of_getElem? (i := 0) rfl)), (List.forall_mem_cons.2 ⟨(by show (Kd.int .i64).K g x.At (seg (Zbn cs 2 ys) 1 1); rw [Zbi (by omega) (by omega)]; exact hk.2 _ (List.mem_of_getElem? (i := 1) rfl)), (List.forall_mem_cons.2 ⟨(by show Kd.raw.K g s1 (seg (Zbn cs 2 ys) 2 1); rw [Zgm (by omega) hl]; exact hy), (fun _ h => by cases h)⟩)⟩)⟩)⟩
theorem Zrl : Fld Tryd.prog 38 2 Zc1 Kd.raw (fun x : Zge => x.Answers) := Fld.of ⟨_, Kd.raw, 2, fun x : Zge => x.Answers⟩ (List.mem_of_getElem? (i := 2) rfl) 2 rfl (by kernel_rfl) (by decide)
theorem Zvs : Ty Tryd.prog 36 Kd.raw := ⟨by kernel_rfl, by kernel_rfl⟩
theorem Zln : Ty Tryd.prog 34 Zci := ⟨by kernel_rfl, by kernel_rfl⟩
theorem Z6g : Zo Tryd.prog 22 := by
 unfold Zo
 kernel_rfl
theorem Zpc {N d : Nat} {o : Oper} {uses : Z9} {x0 : Operand} {x1 : Operand} {v0 : Int} {v1 : Int} (hop : o.op = .build 38 #[(0, x0), (1, x1)]) (hd : o.dst = some d) (h0 : Opd uses x0 ((Kd.int .i64).pd v0)) (h1 : Opd uses x1 ((Kd.int .i64).pd v1)) : OB Tryd.prog N o uses [(d, Zcd.pd { Code := v0, At := v1, Answers := ([] : List Zg) })] [] := by
 refine Zcu hop hd fun a g hh => ?_
 obtain ⟨c0, k0, e0⟩ := h0 a g hh
 obtain rfl := k0
 obtain ⟨c1, k1, e1⟩ := h1 a g hh
 obtain rfl := k1
 refine ⟨.agg #[.int .i64 v0, .int .i64 v1, .slice none 0 0], ?_, [.int .i64 v0, .int .i64 v1, .slice none 0 0], ⟨rfl, (List.forall_mem_cons.2 ⟨rfl, (List.forall_mem_cons.2 ⟨rfl, (List.forall_mem_cons.2 ⟨(⟨none, 0, rfl, Nat.le_refl _, Nat.zero_le _, .inl rfl⟩), (fun _ h => by cases h)⟩)⟩)⟩)⟩, rfl⟩
 simp only [List.map_toArray, List.map_cons, List.map_nil, e0, e1]
 exact Zce Tryd.underlying38 (zero := .agg #[.int .i64 0, .int .i64 0, .slice none 0 0]) (by kernel_rfl) (places := [(0, 1), (1, 1), (2, 1)]) (by kernel_rfl) (by kernel_rfl) g.w
theorem Zkv : Ty Tryd.prog 38 Zcd := ⟨by kernel_rfl, by kernel_rfl⟩
theorem Z4g : Fld Tryd.prog 75 0 Zeo (Kd.int .i64) (fun x : Zdc => x.code) := Fld.of ⟨_, (Kd.int .i64), 0, fun x : Zdc => x.code⟩ (List.mem_of_getElem? (i := 0) rfl) 0 rfl (by kernel_rfl) (by decide)
theorem Z3u : Fld Tryd.prog 75 1 Zeo (Kd.int .i64) (fun x : Zdc => x.at_) := Fld.of ⟨_, (Kd.int .i64), 1, fun x : Zdc => x.at_⟩ (List.mem_of_getElem? (i := 1) rfl) 1 rfl (by kernel_rfl) (by decide)
theorem Z6b : Ty Tryd.prog 75 Zeo := ⟨by kernel_rfl, by kernel_rfl⟩
theorem Z2u : Zo Tryd.prog 16 := by
 unfold Zo
 kernel_rfl
theorem Zzb : Ty Tryd.prog 36 Zr.sl := ⟨by kernel_rfl, by kernel_rfl⟩
theorem Z2e : Zo Tryd.prog 24 := by
 unfold Zo
 kernel_rfl
theorem Z2h : TE Tryd.prog 36 58 Zr 104 := TE.of Tryd.underlying36 (by kernel_rfl) (by decide) (by decide)
theorem Z2r : Zo Tryd.prog 23 := by
 unfold Zo
 kernel_rfl
theorem Zye : (Tryd.prog.info? 34).map (·.size) = some Zci.sz := by kernel_rfl
theorem en_8 : Zo Tryd.prog 8 := by
 unfold Zo
 kernel_rfl
theorem Z22 : TE Tryd.prog 50 38 Zcd 40 := TE.of Tryd.underlying50 (by kernel_rfl) (by decide) (by decide)
theorem Z2o : (Tryd.prog.info? 58).map (·.size) = some Zr.sz := by kernel_rfl
theorem Zxg : Fld Tryd.prog 58 1 Zr (Kd.int .i64) (fun x : Zg => x.Num) := Fld.of ⟨_, (Kd.int .i64), 1, fun x : Zg => x.Num⟩ (List.mem_of_getElem? (i := 1) rfl) 1 rfl (by kernel_rfl) (by decide)
theorem Zs1 : Fld Tryd.prog 38 0 Zcd (Kd.int .i64) (fun x : Z3 => x.Code) := Fld.of ⟨_, (Kd.int .i64), 0, fun x : Z3 => x.Code⟩ (List.mem_of_getElem? (i := 0) rfl) 0 rfl (by kernel_rfl) (by decide)
theorem Zs6 : Fld Tryd.prog 38 1 Zcd (Kd.int .i64) (fun x : Z3 => x.At) := Fld.of ⟨_, (Kd.int .i64), 1, fun x : Z3 => x.At⟩ (List.mem_of_getElem? (i := 1) rfl) 1 rfl (by kernel_rfl) (by decide)
theorem Ztf : Fld Tryd.prog 38 2 Zcd Zr.sl (fun x : Z3 => x.Answers) := Fld.of ⟨_, Zr.sl, 2, fun x : Z3 => x.Answers⟩ (List.mem_of_getElem? (i := 2) rfl) 2 rfl (by kernel_rfl) (by decide)
theorem Z8e : Zo Tryd.prog 32 := by
 unfold Zo
 kernel_rfl
theorem Z7g : Zo Tryd.prog 31 := by
 unfold Zo
 kernel_rfl
theorem Z5o {N d : Nat} {o : Oper} {uses : Z9}   (hop : o.op = .build 27 #[]) (hd : o.dst = some d)  : OB Tryd.prog N o uses [(d, Zw.pd { top := shelf_nodeT.nil, room := (0 : Int) })] [] := by
 refine Zcu hop hd fun a g hh => ?_
 refine ⟨.agg #[.pointer none, .int .i64 0], ?_, [.pointer none, .int .i64 0], ⟨rfl, (List.forall_mem_cons.2 ⟨(Zju _), (List.forall_mem_cons.2 ⟨(rfl), (fun _ h => by cases h)⟩)⟩)⟩, rfl⟩
 simp only [List.map_toArray, List.map_cons, List.map_nil, List.map_nil]
 exact Zce Tryd.underlying27 (zero := .agg #[.pointer none, .int .i64 0]) (by kernel_rfl) (places := [(0, 1), (1, 1)]) (by kernel_rfl) (by kernel_rfl) g.w
theorem Z4b {N d : Nat} {o : Oper} {uses : Z9} {x1 : Operand} {v1 : Int} (hop : o.op = .build 27 #[(1, x1)]) (hd : o.dst = some d) (h1 : Opd uses x1 ((Kd.int .i64).pd v1)) : OB Tryd.prog N o uses [(d, Zw.pd { top := shelf_nodeT.nil, room := v1 })] [] := by
 refine Zcu hop hd fun a g hh => ?_
 obtain ⟨c1, k1, e1⟩ := h1 a g hh
 obtain rfl := k1
 refine ⟨.agg #[.pointer none, .int .i64 v1], ?_, [.pointer none, .int .i64 v1], ⟨rfl, (List.forall_mem_cons.2 ⟨(Zju _), (List.forall_mem_cons.2 ⟨rfl, (fun _ h => by cases h)⟩)⟩)⟩, rfl⟩
 simp only [List.map_toArray, List.map_cons, List.map_nil, e1]
 exact Zce Tryd.underlying27 (zero := .agg #[.pointer none, .int .i64 0]) (by kernel_rfl) (places := [(0, 1), (1, 1)]) (by kernel_rfl) (by kernel_rfl) g.w
theorem Z2x : Zo Tryd.prog 17 := by
 unfold Zo
 kernel_rfl
theorem Z02 {N d : Nat} {o : Oper} {uses : Z9} {x0 : Operand} {x3 : Operand} {v0 : Int} {v3 : Int} (hop : o.op = .build 45 #[(0, x0), (3, x3)]) (hd : o.dst = some d) (h0 : Opd uses x0 ((Kd.int .i64).pd v0)) (h3 : Opd uses x3 ((Kd.int .i64).pd v3)) : OB Tryd.prog N o uses [(d, Zi.pd { Kind := v0, Num := (0 : Int), Low := (0 : Int), High := v3, Real := (0 : Nat), Cap := (0 : Int), Text := ByteArray.empty, List := ([] : List Zj) })] [] := by
 refine Zcu hop hd fun a g hh => ?_
 obtain ⟨c0, k0, e0⟩ := h0 a g hh
 obtain rfl := k0
 obtain ⟨c3, k3, e3⟩ := h3 a g hh
 obtain rfl := k3
 refine ⟨.agg #[.int .i64 v0, .int .i64 0, .int .i64 0, .int .i64 v3, .float .f64 0, .int .i64 0, .string ByteArray.empty, .slice none 0 0], ?_, [.int .i64 v0, .int .i64 0, .int .i64 0, .int .i64 v3, .float .f64 0, .int .i64 0, .string ByteArray.empty, .slice none 0 0], ⟨rfl, (List.forall_mem_cons.2 ⟨rfl, (List.forall_mem_cons.2 ⟨(rfl), (List.forall_mem_cons.2 ⟨(rfl), (List.forall_mem_cons.2 ⟨rfl, (List.forall_mem_cons.2 ⟨(rfl), (List.forall_mem_cons.2 ⟨(rfl), (List.forall_mem_cons.2 ⟨(rfl), (List.forall_mem_cons.2 ⟨(⟨none, 0, rfl, Nat.le_refl _, Nat.zero_le _, .inl rfl⟩), (fun _ h => by cases h)⟩)⟩)⟩)⟩)⟩)⟩)⟩)⟩)⟩, rfl⟩
 simp only [List.map_toArray, List.map_cons, List.map_nil, e0, e3]
 exact Zce Tryd.underlying45 (zero := .agg #[.int .i64 0, .int .i64 0, .int .i64 0, .int .i64 0, .float .f64 0, .int .i64 0, .string ByteArray.empty, .slice none 0 0]) (by kernel_rfl) (places := [(0, 1), (1, 1), (2, 1), (3, 1), (4, 1), (5, 1), (6, 1), (7, 1)]) (by kernel_rfl) (by kernel_rfl) g.w
theorem Zw0 {N d : Nat} {o : Oper} {uses : Z9} {x0 : Operand} {x1 : Operand} {x5 : Operand} {v0 : Int} {v1 : ByteArray} {v5 : Zd} (hop : o.op = .build 56 #[(0, x0), (1, x1), (5, x5)]) (hd : o.dst = some d) (h0 : Opd uses x0 ((Kd.int .i64).pd v0)) (h1 : Opd uses x1 (Kd.str.pd v1)) (h5 : Opd uses x5 (Zi.pd v5)) : OB Tryd.prog N o uses [(d, Z8.pd { Kind := v0, Key := v1, N := (0 : Int), X := (0 : Nat), S := ByteArray.empty, Make := v5, Must := false })] [] := by
 refine Zcu hop hd fun a g hh => ?_
 obtain ⟨c0, k0, e0⟩ := h0 a g hh
 obtain rfl := k0
 obtain ⟨c1, k1, e1⟩ := h1 a g hh
 obtain rfl := k1
 obtain ⟨c5, k5, e5⟩ := h5 a g hh
 obtain ⟨u5_0, u5_1, u5_2, u5_3, u5_4, u5_5, u5_6, u5_7, rfl⟩ := Zu1 (Zi.len k5)
 refine ⟨.agg #[.int .i64 v0, .string v1, .int .i64 0, .float .f64 0, .string ByteArray.empty, u5_0, u5_1, u5_2, u5_3, u5_4, u5_5, u5_6, u5_7, .bool false], ?_, [.int .i64 v0, .string v1, .int .i64 0, .float .f64 0, .string ByteArray.empty, u5_0, u5_1, u5_2, u5_3, u5_4, u5_5, u5_6, u5_7, .bool false], ⟨rfl, (List.forall_mem_cons.2 ⟨rfl, (List.forall_mem_cons.2 ⟨rfl, (List.forall_mem_cons.2 ⟨(rfl), (List.forall_mem_cons.2 ⟨(rfl), (List.forall_mem_cons.2 ⟨(rfl), (List.forall_mem_cons.2 ⟨k5, (List.forall_mem_cons.2 ⟨(rfl), (fun _ h => by cases h)⟩)⟩)⟩)⟩)⟩)⟩)⟩)⟩, rfl⟩
 simp only [List.map_toArray, List.map_cons, List.map_nil, e0, e1, e5]
 exact Zce Tryd.underlying56 (zero := .agg #[.int .i64 0, .string ByteArray.empty, .int .i64 0, .float .f64 0, .string ByteArray.empty, .int .i64 0, .int .i64 0, .int .i64 0, .int .i64 0, .float .f64 0, .int .i64 0, .string ByteArray.empty, .slice none 0 0, .bool false]) (by kernel_rfl) (places := [(0, 1), (1, 1), (2, 1), (3, 1), (4, 1), (5, 8), (13, 1)]) (by kernel_rfl) (by kernel_rfl) g.w
theorem Zua {N d : Nat} {o : Oper} {uses : Z9} {x0 : Operand} {x1 : Operand} {x2 : Operand} {x6 : Operand} {v0 : Int} {v1 : ByteArray} {v2 : Int} {v6 : Bool} (hop : o.op = .build 56 #[(0, x0), (1, x1), (2, x2), (6, x6)]) (hd : o.dst = some d) (h0 : Opd uses x0 ((Kd.int .i64).pd v0)) (h1 : Opd uses x1 (Kd.str.pd v1)) (h2 : Opd uses x2 ((Kd.int .i64).pd v2)) (h6 : Opd uses x6 (Kd.bool.pd v6)) : OB Tryd.prog N o uses [(d, Z8.pd { Kind := v0, Key := v1, N := v2, X := (0 : Nat), S := ByteArray.empty, Make := (default : Zd), Must := v6 })] [] := by
 refine Zcu hop hd fun a g hh => ?_
 obtain ⟨c0, k0, e0⟩ := h0 a g hh
 obtain rfl := k0
 obtain ⟨c1, k1, e1⟩ := h1 a g hh
 obtain rfl := k1
 obtain ⟨c2, k2, e2⟩ := h2 a g hh
 obtain rfl := k2
 obtain ⟨c6, k6, e6⟩ := h6 a g hh
 obtain rfl := k6
 refine ⟨.agg #[.int .i64 v0, .string v1, .int .i64 v2, .float .f64 0, .string ByteArray.empty, .int .i64 0, .int .i64 0, .int .i64 0, .int .i64 0, .float .f64 0, .int .i64 0, .string ByteArray.empty, .slice none 0 0, .bool v6], ?_, [.int .i64 v0, .string v1, .int .i64 v2, .float .f64 0, .string ByteArray.empty, .int .i64 0, .int .i64 0, .int .i64 0, .int .i64 0, .float .f64 0, .int .i64 0, .string ByteArray.empty, .slice none 0 0, .bool v6], ⟨rfl, (List.forall_mem_cons.2 ⟨rfl, (List.forall_mem_cons.2 ⟨rfl, (List.forall_mem_cons.2 ⟨rfl, (List.forall_mem_cons.2 ⟨(rfl), (List.forall_mem_cons.2 ⟨(rfl), (List.forall_mem_cons.2 ⟨(Zcg _), (List.forall_mem_cons.2 ⟨rfl, (fun _ h => by cases h)⟩)⟩)⟩)⟩)⟩)⟩)⟩)⟩, rfl⟩
 simp only [List.map_toArray, List.map_cons, List.map_nil, e0, e1, e2, e6]
 exact Zce Tryd.underlying56 (zero := .agg #[.int .i64 0, .string ByteArray.empty, .int .i64 0, .float .f64 0, .string ByteArray.empty, .int .i64 0, .int .i64 0, .int .i64 0, .int .i64 0, .float .f64 0, .int .i64 0, .string ByteArray.empty, .slice none 0 0, .bool false]) (by kernel_rfl) (places := [(0, 1), (1, 1), (2, 1), (3, 1), (4, 1), (5, 8), (13, 1)]) (by kernel_rfl) (by kernel_rfl) g.w
theorem Zy7 : TE Tryd.prog 32 56 Z8 152 := TE.of Tryd.underlying32 (by kernel_rfl) (by decide) (by decide)
theorem Zsu {N d : Nat} {o : Oper} {uses : Z9} {x0 : Operand} {v0 : List Zv} (hop : o.op = .build 34 #[(0, x0)]) (hd : o.dst = some d) (h0 : Opd uses x0 (Z8.sl.pd v0)) : OB Tryd.prog N o uses [(d, Zci.pd { Acts := v0 })] [] := by
 refine Zcu hop hd fun a g hh => ?_
 obtain ⟨c0, k0, e0⟩ := h0 a g hh
 obtain ⟨A0, n0, rfl, l0⟩ := k0
 refine ⟨.agg #[.slice A0 v0.length n0], ?_, [.slice A0 v0.length n0], ⟨rfl, (List.forall_mem_cons.2 ⟨⟨A0, n0, rfl, l0⟩, (fun _ h => by cases h)⟩)⟩, rfl⟩
 simp only [List.map_toArray, List.map_cons, List.map_nil, e0]
 exact Zce Tryd.underlying34 (zero := .agg #[.slice none 0 0]) (by kernel_rfl) (places := [(0, 1)]) (by kernel_rfl) (by kernel_rfl) g.w
theorem Z73 : TE Tryd.prog 23 34 Zci 24 := TE.of Tryd.underlying23 (by kernel_rfl) (by decide) (by decide)
theorem Z6a : Zo Tryd.prog 13 := by
 unfold Zo
 kernel_rfl
theorem Z7j : Zo Tryd.prog 14 := by
 unfold Zo
 kernel_rfl
theorem Zyb : (Tryd.prog.info? 38).map (·.size) = some Zcd.sz := by kernel_rfl
theorem Zzd : Zo Tryd.prog 88 := by
 unfold Zo
 kernel_rfl
theorem Zzl : Zo Tryd.prog 100 := by
 unfold Zo
 kernel_rfl
theorem Zyo : Zo Tryd.prog 97 := by
 unfold Zo
 kernel_rfl
theorem Z2z : Zo Tryd.prog 96 := by
 unfold Zo
 kernel_rfl
theorem Z21 : Zo Tryd.prog 87 := by
 unfold Zo
 kernel_rfl
theorem Z5f : TE Tryd.prog 135 9 Kd.str 16 := TE.of Tryd.underlying135 (by kernel_rfl) (by decide) (by decide)
theorem sz_9 : (Tryd.prog.info? 9).map (·.size) = some Kd.str.sz := by kernel_rfl
theorem Z25 : Zo Tryd.prog 58 := by
 unfold Zo
 kernel_rfl
theorem Z7o : Zo Tryd.prog 89 := by
 unfold Zo
 kernel_rfl
theorem Z63 : Zo Tryd.prog 57 := by
 unfold Zo
 kernel_rfl
theorem Z66 : Zo Tryd.prog 56 := by
 unfold Zo
 kernel_rfl
theorem Z6p : Zo Tryd.prog 59 := by
 unfold Zo
 kernel_rfl
theorem Zlg : Fld Tryd.prog 64 0 Zbp Zbw.sl (fun x : Zl => x.L) := Fld.of ⟨_, Zbw.sl, 0, fun x : Zl => x.L⟩ (List.mem_of_getElem? (i := 0) rfl) 0 rfl (by kernel_rfl) (by decide)
theorem Zog : Ty Tryd.prog 22 Zbw.sl := ⟨by kernel_rfl, by kernel_rfl⟩
theorem Zsn : (Tryd.prog.info? 66).map (·.size) = some Zbw.sz := by kernel_rfl
theorem Znk : Fld Tryd.prog 66 0 Zbw Kd.str (fun x : Z4 => x.Key) := Fld.of ⟨_, Kd.str, 0, fun x : Z4 => x.Key⟩ (List.mem_of_getElem? (i := 0) rfl) 0 rfl (by kernel_rfl) (by decide)
theorem Zil : Ty Tryd.prog 64 Zbp := ⟨by kernel_rfl, by kernel_rfl⟩
theorem Z6t : Zo Tryd.prog 39 := by
 unfold Zo
 kernel_rfl
theorem Z61 : Zo Tryd.prog 40 := by
 unfold Zo
 kernel_rfl
theorem Zxu : Fld Tryd.prog 64 1 Zbp (Kd.int .i64) (fun x : Zl => x.Room) := Fld.of ⟨_, (Kd.int .i64), 1, fun x : Zl => x.Room⟩ (List.mem_of_getElem? (i := 1) rfl) 1 rfl (by kernel_rfl) (by decide)
theorem Zr1 : TE Tryd.prog 22 66 Zbw 104 := TE.of Tryd.underlying22 (by kernel_rfl) (by decide) (by decide)
theorem Z0n {N d : Nat} {o : Oper} {uses : Z9} {x0 : Operand} {x1 : Operand} {v0 : ByteArray} {v1 : Zd} (hop : o.op = .build 66 #[(0, x0), (1, x1)]) (hd : o.dst = some d) (h0 : Opd uses x0 (Kd.str.pd v0)) (h1 : Opd uses x1 (Zi.pd v1)) : OB Tryd.prog N o uses [(d, Zbw.pd { Key := v0, Rec := v1 })] [] := by
 refine Zcu hop hd fun a g hh => ?_
 obtain ⟨c0, k0, e0⟩ := h0 a g hh
 obtain rfl := k0
 obtain ⟨c1, k1, e1⟩ := h1 a g hh
 obtain ⟨u1_0, u1_1, u1_2, u1_3, u1_4, u1_5, u1_6, u1_7, rfl⟩ := Zu1 (Zi.len k1)
 refine ⟨.agg #[.string v0, u1_0, u1_1, u1_2, u1_3, u1_4, u1_5, u1_6, u1_7], ?_, [.string v0, u1_0, u1_1, u1_2, u1_3, u1_4, u1_5, u1_6, u1_7], ⟨rfl, (List.forall_mem_cons.2 ⟨rfl, (List.forall_mem_cons.2 ⟨k1, (fun _ h => by cases h)⟩)⟩)⟩, rfl⟩
 simp only [List.map_toArray, List.map_cons, List.map_nil, e0, e1]
 exact Zce Tryd.underlying66 (zero := .agg #[.string ByteArray.empty, .int .i64 0, .int .i64 0, .int .i64 0, .int .i64 0, .float .f64 0, .int .i64 0, .string ByteArray.empty, .slice none 0 0]) (by kernel_rfl) (places := [(0, 1), (1, 8)]) (by kernel_rfl) (by kernel_rfl) g.w
theorem Zzr {N d : Nat} {o : Oper} {uses : Z9} {x0 : Operand} {x1 : Operand} {v0 : List Z4} {v1 : Int} (hop : o.op = .build 64 #[(0, x0), (1, x1)]) (hd : o.dst = some d) (h0 : Opd uses x0 (Zbw.sl.pd v0)) (h1 : Opd uses x1 ((Kd.int .i64).pd v1)) : OB Tryd.prog N o uses [(d, Zbp.pd { L := v0, Room := v1 })] [] := by
 refine Zcu hop hd fun a g hh => ?_
 obtain ⟨c0, k0, e0⟩ := h0 a g hh
 obtain ⟨A0, n0, rfl, l0⟩ := k0
 obtain ⟨c1, k1, e1⟩ := h1 a g hh
 obtain rfl := k1
 refine ⟨.agg #[.slice A0 v0.length n0, .int .i64 v1], ?_, [.slice A0 v0.length n0, .int .i64 v1], ⟨rfl, (List.forall_mem_cons.2 ⟨⟨A0, n0, rfl, l0⟩, (List.forall_mem_cons.2 ⟨rfl, (fun _ h => by cases h)⟩)⟩)⟩, rfl⟩
 simp only [List.map_toArray, List.map_cons, List.map_nil, e0, e1]
 exact Zce Tryd.underlying64 (zero := .agg #[.slice none 0 0, .int .i64 0]) (by kernel_rfl) (places := [(0, 1), (1, 1)]) (by kernel_rfl) (by kernel_rfl) g.w
theorem Z4s {N d : Nat} {o : Oper} {uses : Z9} {x1 : Operand} {v1 : Int} (hop : o.op = .build 64 #[(1, x1)]) (hd : o.dst = some d) (h1 : Opd uses x1 ((Kd.int .i64).pd v1)) : OB Tryd.prog N o uses [(d, Zbp.pd { L := ([] : List Z4), Room := v1 })] [] := by
 refine Zcu hop hd fun a g hh => ?_
 obtain ⟨c1, k1, e1⟩ := h1 a g hh
 obtain rfl := k1
 refine ⟨.agg #[.slice none 0 0, .int .i64 v1], ?_, [.slice none 0 0, .int .i64 v1], ⟨rfl, (List.forall_mem_cons.2 ⟨(⟨none, 0, rfl, Nat.le_refl _, Nat.zero_le _, .inl rfl⟩), (List.forall_mem_cons.2 ⟨rfl, (fun _ h => by cases h)⟩)⟩)⟩, rfl⟩
 simp only [List.map_toArray, List.map_cons, List.map_nil, e1]
 exact Zce Tryd.underlying64 (zero := .agg #[.slice none 0 0, .int .i64 0]) (by kernel_rfl) (places := [(0, 1), (1, 1)]) (by kernel_rfl) (by kernel_rfl) g.w
theorem Z23 : Ty Tryd.prog 66 Zbw := ⟨by kernel_rfl, by kernel_rfl⟩
theorem Zs7 : Fld Tryd.prog 66 1 Zbw Zi (fun x : Z4 => x.Rec) := Fld.of ⟨_, Zi, 1, fun x : Z4 => x.Rec⟩ (List.mem_of_getElem? (i := 1) rfl) 1 rfl (by kernel_rfl) (by decide)
theorem Z26 : Zo Tryd.prog 18 := by
 unfold Zo
 kernel_rfl
theorem Z7m : Zo Tryd.prog 20 := by
 unfold Zo
 kernel_rfl
theorem Z7h : Zo Tryd.prog 41 := by
 unfold Zo
 kernel_rfl
theorem Z7s : Zo Tryd.prog 21 := by
 unfold Zo
 kernel_rfl
theorem en_5 : Zo Tryd.prog 5 := by
 unfold Zo
 kernel_rfl
theorem en_6 : Zo Tryd.prog 6 := by
 unfold Zo
 kernel_rfl
theorem en_7 : Zo Tryd.prog 7 := by
 unfold Zo
 kernel_rfl
theorem Z77 : Zo Tryd.prog 10 := by
 unfold Zo
 kernel_rfl
theorem Z8a : Zo Tryd.prog 11 := by
 unfold Zo
 kernel_rfl
end Go.CL
set_option linter.unusedVariables false
set_option linter.unusedSimpArgs false
set_option maxRecDepth 100000
namespace Go.CL
open Go Go.RowKit Go.Proofs
theorem Zc2 (a0 : shelf_nodeT) {r : Int} (h : Zb9 a0 = some r) : FnOk Tryd.prog 25 [(Zz.pd a0)] (pInt .i64 r) := by
 have H0 := h
 unfold Zb9 at H0
 clear h
 refine Zbr (N := 9) Tryd.func25 rfl rfl (Nat.le_of_ble_eq_true rfl) rfl rfl (fun a g0 hst hb => ?_)
 refine r_s (T := [⟨[], _, [], [], [2]⟩]) (F := [.old 0]) hst hb Zb
   (o_p rfl (Zc rfl rfl c_i) <| o_n) (by kernel_rfl) (fun a g hst hb => ?_)
 refine wp_seq ?_
 refine r_s (T := [⟨[.old 0], _, [], [], [3]⟩, ⟨[.op 0 0], _, [], [0], [4]⟩]) (F := [.old 0, .op 1 0]) hst hb Zb
   (o_p rfl (Za rfl rfl u_0) <| o_p rfl (Znv Tryd.underlying25 rfl rfl u_0 (Zea _)) <| o_n) (by kernel_rfl) (fun a g hst hb => ?_)
 refine wp_cond_split (hst.bool 1 rfl) (fun hc1 => ?_) (fun hc1 => ?_)
 · replace H0 := Z1 hc1 H0
   refine r_s (L := []) (T := [⟨[], _, [], [], [2]⟩]) (F := [.op 0 0]) (hst.pick [] rfl) hb Zb
     (o_p rfl (Zc rfl rfl c_i) <| o_n) (by kernel_rfl) (fun a g hst hb => ?_)
   refine wp_ret ?_
   refine Zs ?_
   obtain rfl := Option.some.inj H0
   exact Z2 rfl hst hb (Zk (s := 2)) (hst.at 0 rfl)
 · replace H0 := Z0 hc1 H0
   refine wp_skip ?_
   refine Zt ?_
   obtain ⟨n2, h3, H0⟩ := Zh H0
   refine r_s (L := [(0, _)]) (T := [⟨[.old 0], _, [], [], [5]⟩, ⟨[.op 0 0], _, [], [0], [6]⟩, ⟨[.op 1 0], _, [], [0, 1], [7]⟩, ⟨[.op 2 0], _, [], [0, 1, 2], [8]⟩, ⟨[.op 3 0], _, [], List.range 4, [2]⟩]) (F := [.op 4 0]) (hst.pick [0] rfl) hb Zb
     (o_p rfl (Za rfl rfl u_0) <| o_p rfl (Zn rfl rfl (Opd.imp u_0 (fun _ _ h => Zp h3 h)) (fun _ _ ⟨_, _, _, e, _⟩ => ⟨_, e⟩)) <| o_p rfl (Ze Z3z rfl rfl u_0) <| o_p rfl (Zf ty_3 rfl rfl u_0) <| o_p rfl (Zc rfl rfl u_0) <| o_n) (by kernel_rfl) (fun a g hst hb => ?_)
   refine wp_ret ?_
   obtain rfl := Option.some.inj H0
   exact Z2 rfl hst hb (Zk (s := 2)) (hst.at 0 rfl)
end Go.CL
set_option linter.unusedVariables false
set_option linter.unusedSimpArgs false
set_option maxRecDepth 100000
namespace Go.CL
open Go Go.RowKit Go.Proofs
theorem Zgc (a0 : Zm) {r : Int} (h : Zef a0 = some r) : FnOk Tryd.prog 9 [(Zw.pd a0)] (pInt .i64 r) := by
 have H0 := h
 unfold Zef at H0
 clear h
 refine Zbr (N := 6) Tryd.func9 rfl rfl (Nat.le_of_ble_eq_true rfl) rfl rfl (fun a g0 hst hb => ?_)
 refine r_s (T := [⟨[.old 0], _, [], [], [1]⟩, ⟨[], _, [], [], [2]⟩]) (F := [.op 0 0]) hst hb Zb
   (o_p rfl (Zbj rfl rfl u_0) <| o_p rfl (Zc rfl rfl c_i) <| o_n) (by kernel_rfl) (fun a g hst hb => ?_)
 obtain ⟨r1, h2, H0⟩ := Zh H0
 refine r_s (T := [⟨[.old 0], _, [], [], [3]⟩, ⟨[.op 0 0], _, [], [0], [4]⟩, ⟨[.op 1 0], _, [], [0, 1], [5]⟩, ⟨[.op 2 0], _, [], [0, 1, 2], [2]⟩]) (F := [.op 3 0]) hst hb Zb
   (o_p rfl (Ze Znn rfl rfl u_0) <| o_p rfl (Zf Zcp rfl rfl u_0) <| o_p rfl (Zq Zlk (Zc2 _ h2) rfl rfl (.cons u_0 .nil)) <| o_p rfl (Zc rfl rfl u_0) <| o_n) (by kernel_rfl) (fun a g hst hb => ?_)
 refine wp_ret ?_
 obtain rfl := Option.some.inj H0
 exact Z2 rfl hst hb (Zk (s := 2)) (hst.at 0 rfl)
end Go.CL
set_option linter.unusedVariables false
set_option linter.unusedSimpArgs false
set_option maxRecDepth 100000
namespace Go.CL
open Go Go.RowKit Go.Proofs
theorem Zue (a0 : Int) {r : Zbz} (h : Zdv a0 = some r) : FnOk Tryd.prog 27 [(pInt .i64 a0)] (Zco.pd r) := by
 have H0 := h
 unfold Zdv at H0
 clear h
 refine Zbr (N := 24) Tryd.func27 rfl rfl (Nat.le_of_ble_eq_true rfl) rfl rfl (fun a g0 hst hb => ?_)
 refine r_s (T := [⟨[], [(2, (pBox Zco 2 (default : Zbz)))], [3], [], [2]⟩]) (F := [.old 0, .op 0 0]) hst hb Zb
   (o_p rfl (Zbc (zs := [.bool false, .bool false, .bool false, .bool false, .bool false]) (by kernel_rfl) (fun g => Zpq g) rfl rfl) <| o_n) (by kernel_rfl) (fun a g hst hb => ?_)
 refine wp_seq ?_
 refine r_s (T := [⟨[.old 0], _, [], [], [3]⟩]) (F := [.old 1, .op 0 0]) hst hb Zb
   (o_p rfl (Za rfl rfl u_0) <| o_n) (by kernel_rfl) (fun a g hst hb => ?_)
 refine wp_block ?_
 refine r_s (T := [⟨[.old 1], _, [], [], [5]⟩, ⟨[.op 0 0], _, [], [0], [4]⟩]) (F := [.old 0, .old 1, .op 1 0]) hst hb Zb
   (o_p rfl (Zbv rfl rfl u_0 c_i) <| o_p rfl (Zc rfl rfl u_0) <| o_n) (by kernel_rfl) (fun a g hst hb => ?_)
 refine wp_cond_split (hst.bool 2 rfl) (fun hc1 => ?_) (fun hc1 => ?_)
 · replace H0 := Z1 hc1 H0
   refine r_s (L := [(2, _)]) (T := [⟨[], _, [], [], [6]⟩, ⟨[.op 0 0, .old 0], _, [3], [0], [2]⟩]) (F := [.op 1 0]) (hst.pick [0] rfl) hb Zb
     (o_p rfl (Z3t rfl rfl c_b) <| o_p rfl (Z6 Zi7 rfl rfl u_1 u_0) <| o_n) (by kernel_rfl) (fun a g hst hb => ?_)
   refine wp_ret ?_
   refine Zy ?_
   refine Zs ?_
   obtain rfl := Option.some.inj H0
   obtain ⟨u0, hu0, hq0⟩ := Zbf (P := Tryd.prog) Zi7 (hst.at 0 rfl)
   exact Z2 rfl hst hb hu0 hq0
 · replace H0 := Z0 hc1 H0
   refine wp_seq ?_
   refine r_s (L := [(2, _), (3, _)]) (T := [⟨[.old 1], _, [], [], [8]⟩, ⟨[.op 0 0], _, [], [0], [7]⟩]) (F := [.old 0, .old 1, .op 1 0]) (hst.pick [0, 1] rfl) hb Zb
     (o_p rfl (Zbv rfl rfl u_0 c_i) <| o_p rfl (Zc rfl rfl u_0) <| o_n) (by kernel_rfl) (fun a g hst hb => ?_)
   refine Zc6 (fun a w => ∃ (j3 : Bool) (g : G), w = g.w ∧ St 24 [(2, (pBox Zco 2 (default : Zbz))), (3, (pInt .i64 a0)), (7, (Zbb j3))] a g ∧ Base g0 g ∧ Zix a0 j3 = some r) ?_ ?_
   · rintro a w ⟨j3, g, rfl, hst, hb, H0⟩
     unfold Zix at H0
     refine Zt ?_
     refine wp_cond_split (hst.bool 2 rfl) (fun hc4 => ?_) (fun hc4 => ?_)
     · replace H0 := Z1 hc4 H0
       refine r_s (L := [(2, _)]) (T := [⟨[], _, [], [], [10]⟩, ⟨[.op 0 0, .old 0], _, [3], [0], [2]⟩]) (F := [.op 1 0]) (hst.pick [0] rfl) hb Zb
         (o_p rfl (Z4m rfl rfl c_b) <| o_p rfl (Z6 Zi7 rfl rfl u_1 u_0) <| o_n) (by kernel_rfl) (fun a g hst hb => ?_)
       refine wp_ret ?_
       refine Zy ?_
       refine Zs ?_
       obtain rfl := Option.some.inj H0
       obtain ⟨u0, hu0, hq0⟩ := Zbf (P := Tryd.prog) Zi7 (hst.at 0 rfl)
       exact Z2 rfl hst hb hu0 hq0
     · replace H0 := Z0 hc4 H0
       refine r_s (L := [(2, _), (3, _)]) (T := [⟨[.old 1], _, [], [], [12]⟩, ⟨[.op 0 0], _, [], [0], [11]⟩]) (F := [.old 0, .old 1, .op 1 0]) (hst.pick [0, 1] rfl) hb Zb
         (o_p rfl (Zbv rfl rfl u_0 c_i) <| o_p rfl (Zc rfl rfl u_0) <| o_n) (by kernel_rfl) (fun a g hst hb => ?_)
       refine wp_cond_split (hst.bool 2 rfl) (fun hc5 => ?_) (fun hc5 => ?_)
       · replace H0 := Z1 hc5 H0
         refine r_s (L := [(2, _)]) (T := [⟨[], _, [], [], [13]⟩, ⟨[.op 0 0, .old 0], _, [3], [0], [2]⟩]) (F := [.op 1 0]) (hst.pick [0] rfl) hb Zb
           (o_p rfl (Zz7 rfl rfl c_b c_b) <| o_p rfl (Z6 Zi7 rfl rfl u_1 u_0) <| o_n) (by kernel_rfl) (fun a g hst hb => ?_)
         refine wp_ret ?_
         refine Zy ?_
         refine Zs ?_
         obtain rfl := Option.some.inj H0
         obtain ⟨u0, hu0, hq0⟩ := Zbf (P := Tryd.prog) Zi7 (hst.at 0 rfl)
         exact Z2 rfl hst hb hu0 hq0
       · replace H0 := Z0 hc5 H0
         refine wp_seq ?_
         refine r_s (L := [(2, _), (3, _)]) (T := [⟨[.old 1], _, [], [], [15]⟩, ⟨[.op 0 0], _, [], [0], [14]⟩]) (F := [.old 0, .old 1, .op 1 0]) (hst.pick [0, 1] rfl) hb Zb
           (o_p rfl (Zbv rfl rfl u_0 c_i) <| o_p rfl (Zc rfl rfl u_0) <| o_n) (by kernel_rfl) (fun a g hst hb => ?_)
         refine Zc6 (fun a w => ∃ (j8 : Bool) (g : G), w = g.w ∧ St 24 [(2, (pBox Zco 2 (default : Zbz))), (3, (pInt .i64 a0)), (14, (Zbb j8))] a g ∧ Base g0 g ∧ Zhi a0 j8 = some r) ?_ ?_
         · rintro a w ⟨j8, g, rfl, hst, hb, H0⟩
           unfold Zhi at H0
           refine Zt ?_
           refine wp_cond_split (hst.bool 2 rfl) (fun hc9 => ?_) (fun hc9 => ?_)
           · replace H0 := Z1 hc9 H0
             refine r_s (L := [(2, _)]) (T := [⟨[], _, [], [], [18]⟩, ⟨[.op 0 0, .old 0], _, [3], [0], [2]⟩]) (F := [.op 1 0]) (hst.pick [0] rfl) hb Zb
               (o_p rfl (Z4x rfl rfl c_b) <| o_p rfl (Z6 Zi7 rfl rfl u_1 u_0) <| o_n) (by kernel_rfl) (fun a g hst hb => ?_)
             refine wp_ret ?_
             refine Zy ?_
             refine Zs ?_
             obtain rfl := Option.some.inj H0
             obtain ⟨u0, hu0, hq0⟩ := Zbf (P := Tryd.prog) Zi7 (hst.at 0 rfl)
             exact Z2 rfl hst hb hu0 hq0
           · replace H0 := Z0 hc9 H0
             refine wp_seq ?_
             refine r_s (L := [(2, _), (3, _)]) (T := [⟨[.old 1], _, [], [], [20]⟩, ⟨[.op 0 0], _, [], [0], [19]⟩]) (F := [.old 0, .old 1, .op 1 0]) (hst.pick [0, 1] rfl) hb Zb
               (o_p rfl (Zbv rfl rfl u_0 c_i) <| o_p rfl (Zc rfl rfl u_0) <| o_n) (by kernel_rfl) (fun a g hst hb => ?_)
             refine Zc6 (fun a w => ∃ (j11 : Bool) (g : G), w = g.w ∧ St 24 [(2, (pBox Zco 2 (default : Zbz))), (19, (Zbb j11))] a g ∧ Base g0 g ∧ Ziv j11 = some r) ?_ ?_
             · rintro a w ⟨j11, g, rfl, hst, hb, H0⟩
               unfold Ziv at H0
               refine Zt ?_
               refine wp_cond_split (hst.bool 1 rfl) (fun hc12 => ?_) (fun hc12 => ?_)
               · replace H0 := Z1 hc12 H0
                 refine r_s (L := [(2, _)]) (T := [⟨[], _, [], [], [22]⟩, ⟨[.op 0 0, .old 0], _, [3], [0], [2]⟩]) (F := [.op 1 0]) (hst.pick [0] rfl) hb Zb
                   (o_p rfl (Z3s rfl rfl c_b) <| o_p rfl (Z6 Zi7 rfl rfl u_1 u_0) <| o_n) (by kernel_rfl) (fun a g hst hb => ?_)
                 refine wp_ret ?_
                 refine Zy ?_
                 refine Zs ?_
                 obtain rfl := Option.some.inj H0
                 obtain ⟨u0, hu0, hq0⟩ := Zbf (P := Tryd.prog) Zi7 (hst.at 0 rfl)
                 exact Z2 rfl hst hb hu0 hq0
               · replace H0 := Z0 hc12 H0
                 refine wp_skip ?_
                 refine Zbt ?_
                 refine Zt ?_
                 refine r_s (L := [(2, _)]) (T := [⟨[], _, [], [], [23]⟩, ⟨[.op 0 0, .old 0], _, [3], [0], [2]⟩]) (F := [.op 1 0]) (hst.pick [0] rfl) hb Zb
                   (o_p rfl (Z5g rfl rfl ) <| o_p rfl (Z6 Zi7 rfl rfl u_1 u_0) <| o_n) (by kernel_rfl) (fun a g hst hb => ?_)
                 refine wp_ret ?_
                 obtain rfl := Option.some.inj H0
                 obtain ⟨u0, hu0, hq0⟩ := Zbf (P := Tryd.prog) Zi7 (hst.at 0 rfl)
                 exact Z2 rfl hst hb hu0 hq0
             · refine wp_cond_split (hst.bool 2 rfl) (fun hc10 => ?_) (fun hc10 => ?_)
               · replace H0 := Z1 hc10 H0
                 refine wp_skip ?_
                 exact ⟨(a0 == (8 : Int)), g, rfl, (hst.pick [0, 2] rfl), hb, H0⟩
               · replace H0 := Z0 hc10 H0
                 refine r_g (L := [(2, _), (3, _)]) (T := [⟨[.old 1], _, [], [], [21]⟩, ⟨[.op 0 0], _, [], [0], [19]⟩]) (F := [.old 0, .op 1 0]) (hst.pick [0, 1] rfl) hb Zb
                   (o_p rfl (Zbv rfl rfl u_0 c_i) <| o_p rfl (Zc rfl rfl u_0) <| o_n) (by kernel_rfl) (fun a g hst hb => ?_)
                 exact ⟨(a0 == (9 : Int)), g, rfl, (hst.pick [0, 1] rfl), hb, H0⟩
         · refine wp_cond_split (hst.bool 2 rfl) (fun hc6 => ?_) (fun hc6 => ?_)
           · replace H0 := Z1 hc6 H0
             refine wp_skip ?_
             exact ⟨(a0 == (5 : Int)), g, rfl, (hst.pick [0, 1, 2] rfl), hb, H0⟩
           · replace H0 := Z0 hc6 H0
             refine r_s (L := [(2, _), (3, _)]) (T := [⟨[.old 1], _, [], [], [16]⟩, ⟨[.op 0 0], _, [], [0], [14]⟩]) (F := [.old 0, .old 1, .op 1 0]) (hst.pick [0, 1] rfl) hb Zb
               (o_p rfl (Zbv rfl rfl u_0 c_i) <| o_p rfl (Zc rfl rfl u_0) <| o_n) (by kernel_rfl) (fun a g hst hb => ?_)
             refine wp_cond_split (hst.bool 2 rfl) (fun hc7 => ?_) (fun hc7 => ?_)
             · replace H0 := Z1 hc7 H0
               refine wp_skip ?_
               exact ⟨(a0 == (6 : Int)), g, rfl, (hst.pick [0, 1, 2] rfl), hb, H0⟩
             · replace H0 := Z0 hc7 H0
               refine r_g (L := [(2, _), (3, _)]) (T := [⟨[.old 1], _, [], [], [17]⟩, ⟨[.op 0 0], _, [], [0], [14]⟩]) (F := [.old 0, .old 1, .op 1 0]) (hst.pick [0, 1] rfl) hb Zb
                 (o_p rfl (Zbv rfl rfl u_0 c_i) <| o_p rfl (Zc rfl rfl u_0) <| o_n) (by kernel_rfl) (fun a g hst hb => ?_)
               exact ⟨(a0 == (7 : Int)), g, rfl, (hst.pick [0, 1, 2] rfl), hb, H0⟩
   · refine wp_cond_split (hst.bool 2 rfl) (fun hc2 => ?_) (fun hc2 => ?_)
     · replace H0 := Z1 hc2 H0
       refine wp_skip ?_
       exact ⟨(a0 == (2 : Int)), g, rfl, (hst.pick [0, 1, 2] rfl), hb, H0⟩
     · replace H0 := Z0 hc2 H0
       refine r_g (L := [(2, _), (3, _)]) (T := [⟨[.old 1], _, [], [], [9]⟩, ⟨[.op 0 0], _, [], [0], [7]⟩]) (F := [.old 0, .old 1, .op 1 0]) (hst.pick [0, 1] rfl) hb Zb
         (o_p rfl (Zbv rfl rfl u_0 c_i) <| o_p rfl (Zc rfl rfl u_0) <| o_n) (by kernel_rfl) (fun a g hst hb => ?_)
       exact ⟨(a0 == (3 : Int)), g, rfl, (hst.pick [0, 1, 2] rfl), hb, H0⟩
end Go.CL
set_option linter.unusedVariables false
set_option linter.unusedSimpArgs false
set_option maxRecDepth 100000
namespace Go.CL
open Go Go.RowKit Go.Proofs
theorem Zwl {r : Nat} (h : Zod = some r) : FnOk Tryd.prog 64 [] (pFlt r) := by
 have H0 := h
 unfold Zod at H0
 clear h
 refine Zbr (N := 2) Tryd.func64 rfl rfl (Nat.le_of_ble_eq_true rfl) rfl rfl (fun a g0 hst hb => ?_)
 refine r_s (T := [⟨[], _, [], [], [0]⟩]) (F := []) hst hb Zb
   (o_p rfl (Zc rfl rfl c_f) <| o_n) (by kernel_rfl) (fun a g hst hb => ?_)
 refine r_s (T := [⟨[], _, [], [], [1]⟩, ⟨[.op 0 0], _, [], [0], [0]⟩]) (F := [.op 1 0]) hst hb Zb
   (o_p rfl (Zwo Z6z rfl rfl c_i) <| o_p rfl (Zc rfl rfl u_0) <| o_n) (by kernel_rfl) (fun a g hst hb => ?_)
 refine wp_ret ?_
 obtain rfl := Option.some.inj H0
 exact Z2 rfl hst hb (Zk (s := 0)) (hst.at 0 rfl)
end Go.CL
set_option linter.unusedVariables false
set_option linter.unusedSimpArgs false
set_option maxRecDepth 100000
namespace Go.CL
open Go Go.RowKit Go.Proofs
theorem Zgf (a0 : Nat) {r : Nat} (h : Zex a0 = some r) : FnOk Tryd.prog 46 [(pFlt a0)] (pFlt r) := by
 have H0 := h
 unfold Zex at H0
 clear h
 refine Zbr (N := 8) Tryd.func46 rfl rfl (Nat.le_of_ble_eq_true rfl) rfl rfl (fun a g0 hst hb => ?_)
 refine r_s (T := [⟨[], _, [], [], [2]⟩]) (F := [.old 0]) hst hb Zb
   (o_p rfl (Zc rfl rfl c_f) <| o_n) (by kernel_rfl) (fun a g hst hb => ?_)
 refine wp_seq ?_
 refine r_s (T := [⟨[.old 0], _, [], [], [3]⟩, ⟨[.old 0], _, [], [], [4]⟩, ⟨[.op 0 0, .op 1 0], _, [], [0, 1], [5]⟩]) (F := [.old 0, .op 2 0]) hst hb Zb
   (o_p rfl (Za rfl rfl u_0) <| o_p rfl (Za rfl rfl u_0) <| o_p rfl (Zxt rfl rfl u_0 u_1) <| o_n) (by kernel_rfl) (fun a g hst hb => ?_)
 refine wp_cond_split (hst.bool 1 rfl) (fun hc1 => ?_) (fun hc1 => ?_)
 · replace H0 := Z1 hc1 H0
   obtain ⟨r2, h3, H0⟩ := Zh H0
   refine r_s (L := []) (T := [⟨[], _, [], [], [6]⟩, ⟨[.op 0 0], _, [], [0], [2]⟩]) (F := [.op 1 0]) (hst.pick [] rfl) hb Zb
     (o_p rfl (Zq Z7t (Zwl h3) rfl rfl .nil) <| o_p rfl (Zc rfl rfl u_0) <| o_n) (by kernel_rfl) (fun a g hst hb => ?_)
   refine wp_ret ?_
   refine Zs ?_
   obtain rfl := Option.some.inj H0
   exact Z2 rfl hst hb (Zk (s := 2)) (hst.at 0 rfl)
 · replace H0 := Z0 hc1 H0
   refine wp_skip ?_
   refine Zt ?_
   refine r_s (L := [(0, _)]) (T := [⟨[.old 0], _, [], [], [7]⟩, ⟨[.op 0 0], _, [], [0], [2]⟩]) (F := [.op 1 0]) (hst.pick [0] rfl) hb Zb
     (o_p rfl (Za rfl rfl u_0) <| o_p rfl (Zc rfl rfl u_0) <| o_n) (by kernel_rfl) (fun a g hst hb => ?_)
   refine wp_ret ?_
   obtain rfl := Option.some.inj H0
   exact Z2 rfl hst hb (Zk (s := 2)) (hst.at 0 rfl)
end Go.CL
set_option linter.unusedVariables false
set_option linter.unusedSimpArgs false
set_option maxRecDepth 100000
namespace Go.CL
open Go Go.RowKit Go.Proofs
theorem Zl8 (a0 : Nat) {r : Int} (h : Zkg a0 = some r) : FnOk Tryd.prog 63 [(pFlt a0)] (pInt .u64 r) := by
 have H0 := h
 unfold Zkg at H0
 clear h
 refine Zbr (N := 14) Tryd.func63 rfl rfl (Nat.le_of_ble_eq_true rfl) rfl rfl (fun a g0 hst hb => ?_)
 refine r_s (T := [⟨[], _, [], [], [2]⟩]) (F := [.old 0]) hst hb Zb
   (o_p rfl (Zc rfl rfl c_i) <| o_n) (by kernel_rfl) (fun a g hst hb => ?_)
 obtain ⟨r1, h2, H0⟩ := Zh H0
 refine r_s (T := [⟨[.old 0], _, [], [], [4]⟩, ⟨[.op 0 0], _, [], [0], [5]⟩, ⟨[.op 1 0], _, [], [0, 1], [6]⟩, ⟨[.op 2 0], _, [], [0, 1, 2], [3]⟩]) (F := [.op 3 0]) hst hb Zb
   (o_p rfl (Za rfl rfl u_0) <| o_p rfl (Zq Zna (Zgf _ h2) rfl rfl (.cons u_0 .nil)) <| o_p rfl (Zp6 Zux rfl rfl u_0) <| o_p rfl (Zc rfl rfl u_0) <| o_n) (by kernel_rfl) (fun a g hst hb => ?_)
 refine wp_seq ?_
 refine r_s (T := [⟨[.old 0], _, [], [], [7]⟩, ⟨[.op 0 0], _, [], [0], [8]⟩, ⟨[.op 1 0], _, [], [0, 1], [9]⟩]) (F := [.old 0, .op 2 0]) hst hb Zb
   (o_p rfl (Za rfl rfl u_0) <| o_p rfl (Z57 rfl rfl u_0 c_i) <| o_p rfl (Zfr rfl rfl u_0 c_i) <| o_n) (by kernel_rfl) (fun a g hst hb => ?_)
 refine wp_cond_split (hst.bool 1 rfl) (fun hc3 => ?_) (fun hc3 => ?_)
 · replace H0 := Z1 hc3 H0
   refine r_s (L := [(3, _)]) (T := [⟨[.old 0], _, [], [], [10]⟩, ⟨[.op 0 0], _, [], [0], [11]⟩, ⟨[.op 1 0], _, [], [0, 1], [2]⟩]) (F := [.op 2 0]) (hst.pick [0] rfl) hb Zb
     (o_p rfl (Za rfl rfl u_0) <| o_p rfl (Z3o rfl rfl rfl u_0) <| o_p rfl (Zc rfl rfl u_0) <| o_n) (by kernel_rfl) (fun a g hst hb => ?_)
   refine wp_ret ?_
   refine Zs ?_
   obtain rfl := Option.some.inj H0
   exact Z2 rfl hst hb (Zk (s := 2)) (hst.at 0 rfl)
 · replace H0 := Z0 hc3 H0
   refine wp_skip ?_
   refine Zt ?_
   refine r_s (L := [(3, _)]) (T := [⟨[.old 0], _, [], [], [12]⟩, ⟨[.op 0 0], _, [], [0], [13]⟩, ⟨[.op 1 0], _, [], [0, 1], [2]⟩]) (F := [.op 2 0]) (hst.pick [0] rfl) hb Zb
     (o_p rfl (Za rfl rfl u_0) <| o_p rfl (Z65 rfl rfl u_0 c_i) <| o_p rfl (Zc rfl rfl u_0) <| o_n) (by kernel_rfl) (fun a g hst hb => ?_)
   refine wp_ret ?_
   obtain rfl := Option.some.inj H0
   exact Z2 rfl hst hb (Zk (s := 2)) (hst.at 0 rfl)
end Go.CL
set_option linter.unusedVariables false
set_option linter.unusedSimpArgs false
set_option maxRecDepth 100000
namespace Go.CL
open Go Go.RowKit Go.Proofs
theorem Zi3 (a0 : Nat) (a1 : Nat) {r : Bool} (h : Zhz a0 a1 = some r) : FnOk Tryd.prog 44 [(pFlt a0), (pFlt a1)] (Zbb r) := by
 have H0 := h
 unfold Zhz at H0
 clear h
 refine Zbr (N := 10) Tryd.func44 rfl rfl (Nat.le_of_ble_eq_true rfl) rfl rfl (fun a g0 hst hb => ?_)
 refine r_s (T := [⟨[], _, [], [], [4]⟩]) (F := [.old 0, .old 1]) hst hb Zb
   (o_p rfl (Zc rfl rfl c_b) <| o_n) (by kernel_rfl) (fun a g hst hb => ?_)
 obtain ⟨r1, h2, H0⟩ := Zh H0; obtain ⟨r3, h4, H0⟩ := Zh H0
 refine r_s (T := [⟨[.old 0], _, [], [], [5]⟩, ⟨[.op 0 0], _, [], [0], [6]⟩, ⟨[.old 1], _, [], [], [7]⟩, ⟨[.op 2 0], _, [], [0, 1, 2], [8]⟩, ⟨[.op 1 0, .op 3 0], _, [], List.range 4, [9]⟩, ⟨[.op 4 0], _, [], List.range 5, [4]⟩]) (F := [.op 5 0]) hst hb Zb
   (o_p rfl (Za rfl rfl u_0) <| o_p rfl (Zq Zus (Zl8 _ h2) rfl rfl (.cons u_0 .nil)) <| o_p rfl (Za rfl rfl u_0) <| o_p rfl (Zq Zus (Zl8 _ h4) rfl rfl (.cons u_0 .nil)) <| o_p rfl (Zbv rfl rfl u_0 u_1) <| o_p rfl (Zc rfl rfl u_0) <| o_n) (by kernel_rfl) (fun a g hst hb => ?_)
 refine wp_ret ?_
 obtain rfl := Option.some.inj H0
 exact Z2 rfl hst hb (Zk (s := 4)) (hst.at 0 rfl)
end Go.CL
set_option linter.unusedVariables false
set_option linter.unusedSimpArgs false
set_option maxRecDepth 100000
namespace Go.CL
open Go Go.RowKit Go.Proofs
theorem Zwi (a0 : Zd) (a1 : Zbz) {r : Bool} (h : Zmr a0 a1 = some r) : FnOk Tryd.prog 28 [(Zi.pd a0), (Zco.pd a1)] (Zbb r) := by
 have H0 := h
 unfold Zmr at H0
 clear h
 refine Zbr (N := 59) Tryd.func28 rfl rfl (Nat.le_of_ble_eq_true rfl) rfl rfl (fun a g0 hst hb => ?_)
 refine r_s (T := [⟨[.old 0], _, [], [], [2]⟩, ⟨[.old 1], _, [], [], [3]⟩, ⟨[], _, [], [], [4]⟩]) (F := [.op 0 0, .op 1 0]) hst hb Zb
   (o_p rfl (Zbj rfl rfl u_0) <| o_p rfl (Zbj rfl rfl u_0) <| o_p rfl (Zc rfl rfl c_b) <| o_n) (by kernel_rfl) (fun a g hst hb => ?_)
 obtain ⟨r1, h2, H0⟩ := Zh H0
 refine r_s (T := ⟨[.old 1], _, [], [], [5]⟩ :: ⟨[.op 0 0], _, [], [0], [6]⟩ :: ⟨[.op 1 0], _, [], [0, 1], [7]⟩ :: ⟨[.op 2 0, .old 0], _, [], [0, 1, 2], [8]⟩ :: ⟨[.op 2 0, .op 3 0], _, [], List.range 4, [9]⟩ :: ⟨[.op 2 0, .op 4 0], _, [], List.range 5, [10]⟩ :: ⟨[.op 2 0, .op 5 0], _, [], List.range 6, [11]⟩ :: ⟨[.op 6 0], _, [], List.range 7, [12]⟩ :: ⟨[.op 7 0, .old 1], _, [], List.range 8, [13]⟩ :: ⟨[.op 7 0, .op 8 0], _, [], List.range 9, [14]⟩ :: ⟨[.op 7 0, .op 9 0], _, [], List.range 10, [15]⟩ :: ⟨[.op 10 0, .old 0], _, [], List.range 11, [16]⟩ :: ⟨[.op 10 0, .op 11 0], _, [], List.range 12, [17]⟩ :: ⟨[.op 10 0, .op 12 0], _, [], List.range 13, [18]⟩ :: ⟨[.op 7 0, .op 10 0, .op 13 0], _, [], List.range 14, [19]⟩ :: ⟨[.op 7 0, .op 14 0], _, [], List.range 15, [20]⟩ :: ⟨[.op 15 0], _, [], List.range 16, [21]⟩ :: ⟨[.op 16 0, .old 1], _, [], List.range 17, [22]⟩ :: ⟨[.op 16 0, .op 17 0], _, [], List.range 18, [23]⟩ :: ⟨[.op 16 0, .op 18 0], _, [], List.range 19, [24]⟩ :: ⟨[.op 19 0, .old 0], _, [], List.range 20, [25]⟩ :: ⟨[.op 19 0, .op 20 0], _, [], List.range 21, [26]⟩ :: ⟨[.op 19 0, .op 21 0], _, [], List.range 22, [27]⟩ :: ⟨[.op 19 0, .op 22 0], _, [], List.range 23, [28]⟩ :: ⟨[.op 23 0, .old 0], _, [], List.range 24, [29]⟩ :: ⟨[.op 23 0, .op 24 0], _, [], List.range 25, [30]⟩ :: ⟨[.op 23 0, .op 25 0], _, [], List.range 26, [31]⟩ :: ⟨[.op 19 0, .op 23 0, .op 26 0], _, [], List.range 27, [32]⟩ :: ⟨[.op 16 0, .op 19 0, .op 27 0], _, [], List.range 28, [33]⟩ :: ⟨[.op 16 0, .op 28 0], _, [], List.range 29, [34]⟩ :: ⟨[.op 29 0], _, [], List.range 30, [35]⟩ :: ⟨[.op 30 0, .old 1], _, [], List.range 31, [36]⟩ :: ⟨[.op 30 0, .op 31 0], _, [], List.range 32, [37]⟩ :: ⟨[.op 30 0, .op 32 0], _, [], List.range 33, [38]⟩ :: ⟨[.op 33 0, .old 0], _, [], List.range 34, [39]⟩ :: ⟨[.op 33 0, .op 34 0], _, [], List.range 35, [40]⟩ :: ⟨[.op 33 0, .op 35 0], _, [], List.range 36, [41]⟩ :: ⟨[.op 30 0, .op 33 0, .op 36 0], _, [], List.range 37, [42]⟩ :: ⟨[.op 30 0, .op 37 0], _, [], List.range 38, [43]⟩ :: ⟨[.op 38 0], _, [], List.range 39, [44]⟩ :: ⟨[.op 39 0, .old 1], _, [], List.range 40, [45]⟩ :: ⟨[.op 39 0, .op 40 0], _, [], List.range 41, [46]⟩ :: ⟨[.op 39 0, .op 41 0], _, [], List.range 42, [47]⟩ :: ⟨[.op 42 0, .old 0], _, [], List.range 43, [48]⟩ :: ⟨[.op 42 0, .op 43 0], _, [], List.range 44, [49]⟩ :: ⟨[.op 42 0, .op 44 0], _, [], List.range 45, [50]⟩ :: ⟨[.op 42 0, .op 45 0], _, [], List.range 46, [51]⟩ :: ⟨[.op 46 0, .old 0], _, [], List.range 47, [52]⟩ :: ⟨[.op 46 0, .op 47 0], _, [], List.range 48, [53]⟩ :: ⟨[.op 46 0, .op 48 0], _, [], List.range 49, [54]⟩ :: ⟨[.op 46 0, .op 49 0], _, [], List.range 50, [55]⟩ :: ⟨[.op 42 0, .op 46 0, .op 50 0], _, [], List.range 51, [56]⟩ :: ⟨[.op 39 0, .op 42 0, .op 51 0], _, [], List.range 52, [57]⟩ :: ⟨[.op 39 0, .op 52 0], _, [], List.range 53, [58]⟩ :: ⟨[.op 53 0], _, [], List.range 54, [4]⟩ :: []) (F := [.op 54 0]) hst hb Zb
   (o_p rfl (Ze Z3a rfl rfl u_0) <| o_p rfl (Zf ty_4 rfl rfl u_0) <| o_p rfl (Za rfl rfl u_0) <| o_g (g_f rfl rfl rfl (fun hG => Ze Zjj rfl rfl u_0)) <| o_g (g_f rfl rfl rfl (fun hG => Zf ty_9 rfl rfl (Opd.gd hG u_0))) <| o_g (g_f rfl rfl rfl (fun hG => Zlu rfl rfl (Opd.gd hG u_0) c_s)) <| o_p rfl (Zby rfl rfl u_0 (fun hz => (Opd.gd (bNF hz) u_1))) <| o_p rfl (Za rfl rfl u_0) <| o_g (g_t rfl rfl rfl (fun hG => Ze Z3h rfl rfl u_0)) <| o_g (g_t rfl rfl rfl (fun hG => Zf ty_4 rfl rfl (Opd.gd hG u_0))) <| o_g (g_t rfl rfl rfl (fun hG => Za rfl rfl (Opd.gd hG u_0))) <| o_g (g_fi rfl rfl rfl (fun hG => Ze Zd9 rfl rfl u_0)) <| o_g (g_fi rfl rfl rfl (fun hG => Zf ty_2 rfl rfl (Opd.gd hG u_0))) <| o_g (g_fi rfl rfl rfl (fun hG => Zbv rfl rfl (Opd.gd hG u_0) c_i)) <| o_g (g_t rfl rfl rfl (fun hG => Zby rfl rfl (Opd.gd hG u_0) (fun hz => (Opd.gd (bA hG (bNF hz)) u_1)))) <| o_p rfl (Zbh rfl rfl u_0 (fun hz => (Opd.gd hz u_1))) <| o_p rfl (Za rfl rfl u_0) <| o_g (g_t rfl rfl rfl (fun hG => Ze Zxm rfl rfl u_0)) <| o_g (g_t rfl rfl rfl (fun hG => Zf ty_4 rfl rfl (Opd.gd hG u_0))) <| o_g (g_t rfl rfl rfl (fun hG => Za rfl rfl (Opd.gd hG u_0))) <| o_g (g_fi rfl rfl rfl (fun hG => Ze Zjn rfl rfl u_0)) <| o_g (g_fi rfl rfl rfl (fun hG => Zf ty_2 rfl rfl (Opd.gd hG u_0))) <| o_g (g_fi rfl rfl rfl (fun hG => Zbv rfl rfl (Opd.gd hG u_0) c_i)) <| o_g (g_fi rfl rfl rfl (fun hG => Za rfl rfl (Opd.gd hG u_0))) <| o_g (g_ti rfl rfl rfl (fun hG => Ze Zjm rfl rfl u_0)) <| o_g (g_ti rfl rfl rfl (fun hG => Zf ty_2 rfl rfl (Opd.gd hG u_0))) <| o_g (g_ti rfl rfl rfl (fun hG => Zbv rfl rfl (Opd.gd hG u_0) c_i)) <| o_g (g_fi rfl rfl rfl (fun hG => Zbh rfl rfl (Opd.gd hG u_0) (fun hz => (Opd.gd (bA hG hz) u_1)))) <| o_g (g_t rfl rfl rfl (fun hG => Zby rfl rfl (Opd.gd hG u_0) (fun hz => (Opd.gd (bA hG (bNF hz)) u_1)))) <| o_p rfl (Zbh rfl rfl u_0 (fun hz => (Opd.gd hz u_1))) <| o_p rfl (Za rfl rfl u_0) <| o_g (g_t rfl rfl rfl (fun hG => Ze Z4w rfl rfl u_0)) <| o_g (g_t rfl rfl rfl (fun hG => Zf ty_4 rfl rfl (Opd.gd hG u_0))) <| o_g (g_t rfl rfl rfl (fun hG => Za rfl rfl (Opd.gd hG u_0))) <| o_g (g_fi rfl rfl rfl (fun hG => Ze Zkj rfl rfl u_0)) <| o_g (g_fi rfl rfl rfl (fun hG => Zf Ze0 rfl rfl (Opd.gd hG u_0))) <| o_g (g_fi rfl rfl rfl (fun hG => Zq Zpv (Zi3 _ _ (Zbo h2 hG)) rfl rfl (.cons (Opd.gd hG u_0) (.cons c_f .nil)))) <| o_g (g_t rfl rfl rfl (fun hG => Zby rfl rfl (Opd.gd hG u_0) (fun hz => (Opd.gd (bA hG (bNF hz)) u_1)))) <| o_p rfl (Zbh rfl rfl u_0 (fun hz => (Opd.gd hz u_1))) <| o_p rfl (Za rfl rfl u_0) <| o_g (g_t rfl rfl rfl (fun hG => Ze Zx8 rfl rfl u_0)) <| o_g (g_t rfl rfl rfl (fun hG => Zf ty_4 rfl rfl (Opd.gd hG u_0))) <| o_g (g_t rfl rfl rfl (fun hG => Za rfl rfl (Opd.gd hG u_0))) <| o_g (g_fi rfl rfl rfl (fun hG => Ze Zhj rfl rfl u_0)) <| o_g (g_fi rfl rfl rfl (fun hG => Zf ty_3 rfl rfl (Opd.gd hG u_0))) <| o_g (g_fi rfl rfl rfl (fun hG => Zbv rfl rfl (Opd.gd hG u_0) c_i)) <| o_g (g_fi rfl rfl rfl (fun hG => Za rfl rfl (Opd.gd hG u_0))) <| o_g (g_ti rfl rfl rfl (fun hG => Ze Zdb rfl rfl u_0)) <| o_g (g_ti rfl rfl rfl (fun hG => Zf Zer rfl rfl (Opd.gd hG u_0))) <| o_g (g_ti rfl rfl rfl (fun hG => Zb7 Tryd.underlying43 rfl rfl (Opd.gd hG u_0))) <| o_g (g_ti rfl rfl rfl (fun hG => Zbv rfl rfl (Opd.gd hG u_0) c_i)) <| o_g (g_fi rfl rfl rfl (fun hG => Zbh rfl rfl (Opd.gd hG u_0) (fun hz => (Opd.gd (bA hG hz) u_1)))) <| o_g (g_t rfl rfl rfl (fun hG => Zby rfl rfl (Opd.gd hG u_0) (fun hz => (Opd.gd (bA hG (bNF hz)) u_1)))) <| o_p rfl (Zbh rfl rfl u_0 (fun hz => (Opd.gd hz u_1))) <| o_p rfl (Zc rfl rfl u_0) <| o_n) (by kernel_rfl) (fun a g hst hb => ?_)
 refine wp_ret ?_
 obtain rfl := Option.some.inj H0
 exact Z2 rfl hst hb (Zk (s := 4)) (hst.at 0 rfl)
end Go.CL
set_option linter.unusedVariables false
set_option linter.unusedSimpArgs false
set_option maxRecDepth 100000
namespace Go.CL
open Go Go.RowKit Go.Proofs
theorem Zl4 (a0 : Nat) {r : Bool} (h : Ziu a0 = some r) : FnOk Tryd.prog 29 [(pFlt a0)] (Zbb r) := by
 have H0 := h
 unfold Ziu at H0
 clear h
 refine Zbr (N := 9) Tryd.func29 rfl rfl (Nat.le_of_ble_eq_true rfl) rfl rfl (fun a g0 hst hb => ?_)
 refine r_s (T := [⟨[], _, [], [], [2]⟩]) (F := [.old 0]) hst hb Zb
   (o_p rfl (Zc rfl rfl c_b) <| o_n) (by kernel_rfl) (fun a g hst hb => ?_)
 obtain ⟨r1, h2, H0⟩ := Zh H0
 refine r_s (T := [⟨[.old 0], _, [], [], [3]⟩, ⟨[.op 0 0], _, [], [0], [4]⟩, ⟨[.old 0], _, [], [], [5]⟩, ⟨[.op 2 0], _, [], [0, 1, 2], [6]⟩, ⟨[.op 3 0], _, [], List.range 4, [7]⟩, ⟨[.op 1 0, .op 4 0], _, [], List.range 5, [8]⟩, ⟨[.op 5 0], _, [], List.range 6, [2]⟩]) (F := [.op 6 0]) hst hb Zb
   (o_p rfl (Za rfl rfl u_0) <| o_p rfl (Zp6 Zux rfl rfl u_0) <| o_p rfl (Za rfl rfl u_0) <| o_p rfl (Zq Zna (Zgf _ h2) rfl rfl (.cons u_0 .nil)) <| o_p rfl (Zp6 Zux rfl rfl u_0) <| o_p rfl (Zbv rfl rfl u_0 u_1) <| o_p rfl (Zc rfl rfl u_0) <| o_n) (by kernel_rfl) (fun a g hst hb => ?_)
 refine wp_ret ?_
 obtain rfl := Option.some.inj H0
 exact Z2 rfl hst hb (Zk (s := 2)) (hst.at 0 rfl)
end Go.CL
set_option linter.unusedVariables false
set_option linter.unusedSimpArgs false
set_option maxRecDepth 100000
namespace Go.CL
open Go Go.RowKit Go.Proofs
theorem Zng (a0 : Nat) (a1 : Nat) {r : Bool} (h : Zkb a0 a1 = some r) : FnOk Tryd.prog 65 [(pFlt a0), (pFlt a1)] (Zbb r) := by
 have H0 := h
 unfold Zkb at H0
 clear h
 refine Zbr (N := 10) Tryd.func65 rfl rfl (Nat.le_of_ble_eq_true rfl) rfl rfl (fun a g0 hst hb => ?_)
 refine r_s (T := [⟨[], _, [], [], [4]⟩]) (F := [.old 0, .old 1]) hst hb Zb
   (o_p rfl (Zc rfl rfl c_b) <| o_n) (by kernel_rfl) (fun a g hst hb => ?_)
 obtain ⟨r1, h2, H0⟩ := Zh H0; obtain ⟨r3, h4, H0⟩ := Zh H0
 refine r_s (T := [⟨[.old 0], _, [], [], [5]⟩, ⟨[.op 0 0], _, [], [0], [6]⟩, ⟨[.old 1], _, [], [], [7]⟩, ⟨[.op 2 0], _, [], [0, 1, 2], [8]⟩, ⟨[.op 1 0, .op 3 0], _, [], List.range 4, [9]⟩, ⟨[.op 4 0], _, [], List.range 5, [4]⟩]) (F := [.op 5 0]) hst hb Zb
   (o_p rfl (Za rfl rfl u_0) <| o_p rfl (Zq Zus (Zl8 _ h2) rfl rfl (.cons u_0 .nil)) <| o_p rfl (Za rfl rfl u_0) <| o_p rfl (Zq Zus (Zl8 _ h4) rfl rfl (.cons u_0 .nil)) <| o_p rfl (Zcy rfl rfl u_0 u_1) <| o_p rfl (Zc rfl rfl u_0) <| o_n) (by kernel_rfl) (fun a g hst hb => ?_)
 refine wp_ret ?_
 obtain rfl := Option.some.inj H0
 exact Z2 rfl hst hb (Zk (s := 4)) (hst.at 0 rfl)
end Go.CL
set_option linter.unusedVariables false
set_option linter.unusedSimpArgs false
set_option maxRecDepth 100000
namespace Go.CL
open Go Go.RowKit Go.Proofs
theorem Zl3 (a0 : Zj) (a1 : Zj) {r : Bool} (h : Zis a0 a1 = some r) : FnOk Tryd.prog 47 [(Zu.pd a0), (Zu.pd a1)] (Zbb r) := by
 have H0 := h
 unfold Zis at H0
 clear h
 refine Zbr (N := 21) Tryd.func47 rfl rfl (Nat.le_of_ble_eq_true rfl) rfl rfl (fun a g0 hst hb => ?_)
 refine r_s (T := [⟨[.old 0], _, [], [], [2]⟩, ⟨[.old 1], _, [], [], [3]⟩, ⟨[], _, [], [], [4]⟩]) (F := [.op 0 0, .op 1 0]) hst hb Zb
   (o_p rfl (Zbj rfl rfl u_0) <| o_p rfl (Zbj rfl rfl u_0) <| o_p rfl (Zc rfl rfl c_b) <| o_n) (by kernel_rfl) (fun a g hst hb => ?_)
 refine wp_seq ?_
 obtain ⟨r1, h2, H0⟩ := Zh H0
 refine r_s (T := [⟨[.old 0], _, [], [], [5]⟩, ⟨[.op 0 0], _, [], [0], [6]⟩, ⟨[.old 1], _, [], [], [7]⟩, ⟨[.op 2 0], _, [], [2], [8]⟩, ⟨[.op 1 0, .op 3 0], _, [], List.range 4, [9]⟩, ⟨[.op 4 0], _, [], List.range 5, [10]⟩]) (F := [.old 0, .old 1, .op 5 0]) hst hb Zb
   (o_p rfl (Ze Zgp rfl rfl u_0) <| o_p rfl (Zf Ze0 rfl rfl u_0) <| o_p rfl (Ze Zgp rfl rfl u_0) <| o_p rfl (Zf Ze0 rfl rfl u_0) <| o_p rfl (Zq Zpv (Zi3 _ _ h2) rfl rfl (.cons u_0 (.cons u_1 .nil))) <| o_p rfl (Zcv rfl rfl u_0) <| o_n) (by kernel_rfl) (fun a g hst hb => ?_)
 refine wp_cond_split (hst.bool 2 rfl) (fun hc3 => ?_) (fun hc3 => ?_)
 · replace H0 := Z1 hc3 H0
   obtain ⟨r4, h5, H0⟩ := Zh H0
   refine r_s (L := [(2, _), (3, _)]) (T := [⟨[.old 1], _, [], [], [11]⟩, ⟨[.op 0 0], _, [], [0], [12]⟩, ⟨[.old 0], _, [], [], [13]⟩, ⟨[.op 2 0], _, [], [2], [14]⟩, ⟨[.op 1 0, .op 3 0], _, [], List.range 4, [15]⟩, ⟨[.op 4 0], _, [], List.range 5, [4]⟩]) (F := [.op 5 0]) (hst.pick [0, 1] rfl) hb Zb
     (o_p rfl (Ze Zgp rfl rfl u_0) <| o_p rfl (Zf Ze0 rfl rfl u_0) <| o_p rfl (Ze Zgp rfl rfl u_0) <| o_p rfl (Zf Ze0 rfl rfl u_0) <| o_p rfl (Zq Zy6 (Zng _ _ h5) rfl rfl (.cons u_0 (.cons u_1 .nil))) <| o_p rfl (Zc rfl rfl u_0) <| o_n) (by kernel_rfl) (fun a g hst hb => ?_)
   refine wp_ret ?_
   refine Zs ?_
   obtain rfl := Option.some.inj H0
   exact Z2 rfl hst hb (Zk (s := 4)) (hst.at 0 rfl)
 · replace H0 := Z0 hc3 H0
   refine wp_skip ?_
   refine Zt ?_
   refine r_s (L := [(2, _), (3, _)]) (T := [⟨[.old 0], _, [], [], [16]⟩, ⟨[.op 0 0], _, [], [0], [17]⟩, ⟨[.old 1], _, [], [], [18]⟩, ⟨[.op 2 0], _, [], [2], [19]⟩, ⟨[.op 1 0, .op 3 0], _, [], List.range 4, [20]⟩, ⟨[.op 4 0], _, [], List.range 5, [4]⟩]) (F := [.op 5 0]) (hst.pick [0, 1] rfl) hb Zb
     (o_p rfl (Ze Zfz rfl rfl u_0) <| o_p rfl (Zf ty_9 rfl rfl u_0) <| o_p rfl (Ze Zfz rfl rfl u_0) <| o_p rfl (Zf ty_9 rfl rfl u_0) <| o_p rfl (Zly rfl rfl u_0 u_1) <| o_p rfl (Zc rfl rfl u_0) <| o_n) (by kernel_rfl) (fun a g hst hb => ?_)
   refine wp_ret ?_
   obtain rfl := Option.some.inj H0
   exact Z2 rfl hst hb (Zk (s := 4)) (hst.at 0 rfl)
end Go.CL
set_option linter.unusedVariables false
set_option linter.unusedSimpArgs false
set_option maxRecDepth 100000
namespace Go.CL
open Go Go.RowKit Go.Proofs
theorem Zu4 (a0 : Int) (a1 : List Zj) {r : Int} (h : Zl2 a0 a1 = some r) : FnOk Tryd.prog 30 [(pInt .i64 a0), (Zu.sl.pd a1)] (pInt .i64 r) := by
 have H0 := h
 unfold Zl2 at H0
 clear h
 refine Zbr (N := 70) Tryd.func30 rfl rfl (Nat.le_of_ble_eq_true rfl) rfl rfl (fun a g0 hst hb => ?_)
 refine r_s (T := [⟨[], _, [], [], [4]⟩]) (F := [.old 0, .old 1]) hst hb Zb
   (o_p rfl (Zc rfl rfl c_i) <| o_n) (by kernel_rfl) (fun a g hst hb => ?_)
 refine wp_seq ?_
 refine r_s (T := [⟨[.old 1], _, [], [], [7]⟩, ⟨[.op 0 0], _, [], [0], [8]⟩, ⟨[], _, [], [], [9]⟩]) (F := [.old 0, .old 1, .op 0 0, .op 1 0, .op 2 0]) hst hb Zb
   (o_p rfl (Za rfl rfl u_0) <| o_p rfl (Zb7 Tryd.underlying43 rfl rfl u_0) <| o_p rfl (Za rfl rfl c_i) <| o_n) (by kernel_rfl) (fun a g hst hb => ?_)
 obtain ⟨z19, hz1, H0⟩ := Zh H0
 refine Zc6 (fun a w => ∃ (g : G), w = g.w ∧ St 70 [] a g ∧ Base g0 g ∧ (.inr ()) = z19) ?_ ?_
 · rintro a w ⟨g, rfl, hst, hb, rfl⟩
   refine Zt ?_
   refine r_s (T := [⟨[], _, [], [], [4]⟩]) (F := [.op 0 0]) hst hb Zb
     (o_p rfl (Zc rfl rfl c_i) <| o_n) (by kernel_rfl) (fun a g hst hb => ?_)
   refine wp_ret ?_
   obtain rfl := Option.some.inj H0
   exact Z2 rfl hst hb (Zk (s := 4)) (hst.at 0 rfl)
 · refine wp_block ?_
   refine wp_loop_ghost (fun n a w => ∃ (x1 : Int) (g : G), w = g.w ∧ St 70 [(0, (pInt .i64 a0)), (1, (Zu.sl.pd a1)), (7, (Zu.sl.pd a1)), (8, (pInt .i64 (a1.length : Int))), (9, (pInt .i64 x1))] a g ∧ Base g0 g ∧ Ze2 a0 a1 n x1 = some z19) (Int.toNat ((a1.length : Int) - (0 : Int)) + 1) ⟨(0 : Int), g, rfl, (hst.pick [0, 1, 2, 3, 4] rfl), hb, hz1⟩ (fun n a w hI => ?_)
   obtain ⟨x1, g, rfl, hst, hb, H1⟩ := hI
   cases n with
   | zero => exact absurd H1 (by simp [Ze2])
   | succ n =>
     rw [Ze2] at H1
     refine r_s (T := [⟨[.old 4, .old 3], _, [], [], [10]⟩]) (F := [.old 0, .old 1, .old 2, .old 3, .old 4, .op 0 0]) hst hb Zb
       (o_p rfl (Zcy rfl rfl u_0 u_1) <| o_n) (by kernel_rfl) (fun a g hst hb => ?_)
     refine wp_seq ?_
     refine wp_cond_split (hst.bool 5 rfl) (fun hc2 => ?_) (fun hc2 => ?_)
     · replace H1 := Z1 hc2 H1
       refine wp_skip ?_
       refine Zt ?_
       refine wp_seq ?_
       refine wp_block ?_
       obtain ⟨e3, h4, H1⟩ := Zh H1
       refine r_s (L := [(0, _), (1, _), (7, _), (8, _), (9, _)]) (T := [⟨[.old 4], _, [], [], [11]⟩, ⟨[.old 2, .old 4], _, [], [], [12]⟩, ⟨[.op 1 0], _, [], [1], [13]⟩, ⟨[], [(6, (pBox Zu 6 (default : Zj)))], [7], [], [6]⟩, ⟨[.op 0 0], _, [], List.range 4, [5]⟩, ⟨[.op 2 0, .op 3 0], _, [7], List.range 5, [6]⟩]) (F := [.old 0, .old 1, .op 4 0, .op 5 0, .old 2, .old 3, .old 4]) (hst.pick [0, 1, 2, 3, 4] rfl) hb Zb
         (o_p rfl (Za rfl rfl u_0) <| o_p rfl (Zbx Tryd.underlying43 Zi6 rfl rfl u_0 u_1 h4) <| o_p rfl (Zf Zfd rfl rfl u_0) <| o_p rfl (Zbc (zs := [.float .f64 0, .string ByteArray.empty]) (by kernel_rfl) (fun g => Zi1 g) rfl rfl) <| o_p rfl (Zc rfl rfl u_0) <| o_p rfl (Zb0 Zfd rfl rfl u_1 u_0) <| o_n) (by kernel_rfl) (fun a g hst hb => ?_)
       refine wp_block ?_
       refine r_s (T := [⟨[.old 3], _, [], [], [15]⟩, ⟨[.op 0 0], _, [], [0], [16]⟩, ⟨[.op 1 0], _, [], [0, 1], [17]⟩, ⟨[.op 2 0], _, [], [0, 1, 2], [18]⟩, ⟨[.op 3 0], _, [], List.range 4, [14]⟩]) (F := [.old 0, .old 1, .old 2, .old 3, .old 4, .old 5, .old 6, .op 4 0]) hst hb Zb
         (o_p rfl (Ze Zfz rfl rfl u_0) <| o_p rfl (Zf ty_9 rfl rfl u_0) <| o_p rfl (Zfk Tryd.underlying9 rfl rfl u_0) <| o_p rfl (Zcj rfl rfl u_0 c_i) <| o_p rfl (Zc rfl rfl u_0) <| o_n) (by kernel_rfl) (fun a g hst hb => ?_)
       refine wp_cond_split (hst.bool 7 rfl) (fun hc5 => ?_) (fun hc5 => ?_)
       · replace H1 := Z1 hc5 H1
         refine r_s (L := []) (T := [⟨[], _, [], [], [4]⟩]) (F := [.op 0 0]) (hst.pick [] rfl) hb Zb
           (o_p rfl (Zc rfl rfl c_i) <| o_n) (by kernel_rfl) (fun a g hst hb => ?_)
         refine wp_ret ?_
         refine Zy ?_
         refine Zy ?_
         refine Zs ?_
         refine Zs ?_
         refine Zy ?_
         refine Zs ?_
         refine Zs ?_
         obtain rfl := Option.some.inj H1
         obtain rfl := Option.some.inj H0
         exact Z2 rfl hst hb (Zk (s := 4)) (hst.at 0 rfl)
       · replace H1 := Z0 hc5 H1
         obtain ⟨r6, h7, H1⟩ := Zh H1; obtain ⟨r8, h9, H1⟩ := Zh H1
         refine r_s (L := [(0, _), (1, _), (5, _), (6, _), (7, _), (8, _), (9, _)]) (T := ⟨[.old 0], _, [], [], [20]⟩ :: ⟨[.op 0 0], _, [], [0], [21]⟩ :: ⟨[.op 1 0], _, [], [0, 1], [22]⟩ :: ⟨[.op 2 0, .old 3], _, [], [0, 1, 2], [23]⟩ :: ⟨[.op 2 0, .op 3 0], _, [], List.range 4, [24]⟩ :: ⟨[.op 2 0, .op 4 0], _, [], List.range 5, [25]⟩ :: ⟨[.op 2 0, .op 5 0], _, [], List.range 6, [26]⟩ :: ⟨[.op 2 0, .op 6 0], _, [], List.range 7, [27]⟩ :: ⟨[.op 7 0], _, [], List.range 8, [28]⟩ :: ⟨[.op 8 0, .old 3], _, [], List.range 9, [29]⟩ :: ⟨[.op 8 0, .op 9 0], _, [], List.range 10, [30]⟩ :: ⟨[.op 8 0, .op 10 0], _, [], List.range 11, [31]⟩ :: ⟨[.op 8 0, .op 11 0], _, [], List.range 12, [32]⟩ :: ⟨[.op 8 0, .op 12 0], _, [], List.range 13, [33]⟩ :: ⟨[.op 13 0], _, [], List.range 14, [19]⟩ :: []) (F := [.old 0, .old 1, .old 2, .old 3, .old 4, .old 5, .old 6, .op 14 0]) (hst.pick [0, 1, 2, 3, 4, 5, 6] rfl) hb Zb
           (o_p rfl (Za rfl rfl u_0) <| o_p rfl (Zbv rfl rfl u_0 c_i) <| o_p rfl (Za rfl rfl u_0) <| o_g (g_t rfl rfl rfl (fun hG => Ze Zgp rfl rfl u_0)) <| o_g (g_t rfl rfl rfl (fun hG => Zf Ze0 rfl rfl (Opd.gd hG u_0))) <| o_g (g_t rfl rfl rfl (fun hG => Zq Zpv (Zi3 _ _ (Zbo h7 hG)) rfl rfl (.cons (Opd.gd hG u_0) (.cons c_f .nil)))) <| o_g (g_t rfl rfl rfl (fun hG => Zcv rfl rfl (Opd.gd hG u_0))) <| o_p rfl (Zbh rfl rfl u_0 (fun hz => (Opd.gd hz u_1))) <| o_p rfl (Za rfl rfl u_0) <| o_g (g_f rfl rfl rfl (fun hG => Ze Zgp rfl rfl u_0)) <| o_g (g_f rfl rfl rfl (fun hG => Zf Ze0 rfl rfl (Opd.gd hG u_0))) <| o_g (g_f rfl rfl rfl (fun hG => Zq Zyc (Zl4 _ (Zbo h9 hG)) rfl rfl (.cons (Opd.gd hG u_0) .nil))) <| o_g (g_f rfl rfl rfl (fun hG => Zcv rfl rfl (Opd.gd hG u_0))) <| o_p rfl (Zby rfl rfl u_0 (fun hz => (Opd.gd (bNF hz) u_1))) <| o_p rfl (Zc rfl rfl u_0) <| o_n) (by kernel_rfl) (fun a g hst hb => ?_)
         refine wp_cond_split (hst.bool 7 rfl) (fun hc10 => ?_) (fun hc10 => ?_)
         · replace H1 := Z1 hc10 H1
           refine r_s (L := []) (T := [⟨[], _, [], [], [4]⟩]) (F := [.op 0 0]) (hst.pick [] rfl) hb Zb
             (o_p rfl (Zc rfl rfl c_i) <| o_n) (by kernel_rfl) (fun a g hst hb => ?_)
           refine wp_ret ?_
           refine Zy ?_
           refine Zy ?_
           refine Zs ?_
           refine Zs ?_
           refine Zy ?_
           refine Zs ?_
           refine Zs ?_
           obtain rfl := Option.some.inj H1
           obtain rfl := Option.some.inj H0
           exact Z2 rfl hst hb (Zk (s := 4)) (hst.at 0 rfl)
         · replace H1 := Z0 hc10 H1
           obtain ⟨e11, h12, H1⟩ := Zh H1
           refine r_s (L := [(0, _), (1, _), (5, _), (6, _), (7, _), (8, _), (9, _)]) (T := ⟨[.old 2], _, [], [], [35]⟩ :: ⟨[.op 0 0], _, [], [0], [36]⟩ :: ⟨[.op 1 0], _, [], [0, 1], [37]⟩ :: ⟨[.op 2 0, .old 0], _, [], [0, 1, 2], [38]⟩ :: ⟨[.op 2 0, .op 3 0], _, [], List.range 4, [39]⟩ :: ⟨[.op 2 0, .op 4 0], _, [], List.range 5, [40]⟩ :: ⟨[.op 5 0], _, [], List.range 6, [41]⟩ :: ⟨[.op 6 0, .old 1], _, [], List.range 7, [42]⟩ :: ⟨[.op 6 0, .old 2], _, [], List.range 7, [43]⟩ :: ⟨[.op 6 0, .op 8 0], _, [], [0, 1, 2, 3, 4, 5, 6, 8], [44]⟩ :: ⟨[.op 6 0, .op 7 0, .op 9 0], _, [], List.range 10, [45]⟩ :: ⟨[.op 6 0, .op 10 0], _, [], List.range 11, [46]⟩ :: ⟨[.op 6 0, .op 11 0], _, [], List.range 12, [47]⟩ :: ⟨[.op 6 0, .old 3], _, [], List.range 7, [48]⟩ :: ⟨[.op 6 0, .op 13 0], _, [], [0, 1, 2, 3, 4, 5, 6, 13], [49]⟩ :: ⟨[.op 6 0, .op 12 0, .op 14 0], _, [], List.range 15, [50]⟩ :: ⟨[.op 6 0, .op 15 0], _, [], List.range 16, [51]⟩ :: ⟨[.op 16 0], _, [], List.range 17, [34]⟩ :: []) (F := [.old 0, .old 1, .old 2, .old 3, .old 4, .old 5, .old 6, .op 17 0]) (hst.pick [0, 1, 2, 3, 4, 5, 6] rfl) hb Zb
             (o_p rfl (Za rfl rfl u_0) <| o_p rfl (Zcj rfl rfl u_0 c_i) <| o_p rfl (Za rfl rfl u_0) <| o_g (g_t rfl rfl rfl (fun hG => Za rfl rfl u_0)) <| o_g (g_t rfl rfl rfl (fun hG => Zbv rfl rfl (Opd.gd hG u_0) c_i)) <| o_p rfl (Zbh rfl rfl u_0 (fun hz => (Opd.gd hz u_1))) <| o_p rfl (Za rfl rfl u_0) <| o_g (g_t rfl rfl rfl (fun hG => Za rfl rfl u_0)) <| o_g (g_t rfl rfl rfl (fun hG => Za rfl rfl u_0)) <| o_g (g_t rfl rfl rfl (fun hG => Zja rfl rfl (Opd.gd hG u_0) c_i rfl)) <| o_g (g_t rfl rfl rfl (fun hG => Zbx Tryd.underlying43 Zi6 rfl rfl (Opd.gd hG u_0) (Opd.gd hG u_1) (Zbo h12 hG))) <| o_g (g_t rfl rfl rfl (fun hG => Ze Zfz rfl rfl (Opd.gd hG u_0))) <| o_g (g_t rfl rfl rfl (fun hG => Zf ty_9 rfl rfl (Opd.gd hG u_0))) <| o_g (g_t rfl rfl rfl (fun hG => Ze Zfz rfl rfl u_0)) <| o_g (g_t rfl rfl rfl (fun hG => Zf ty_9 rfl rfl (Opd.gd hG u_0))) <| o_g (g_t rfl rfl rfl (fun hG => Z47 rfl rfl (Opd.gd hG u_0) (Opd.gd hG u_1))) <| o_p rfl (Zbh rfl rfl u_0 (fun hz => (Opd.gd hz u_1))) <| o_p rfl (Zc rfl rfl u_0) <| o_n) (by kernel_rfl) (fun a g hst hb => ?_)
           refine wp_cond_split (hst.bool 7 rfl) (fun hc13 => ?_) (fun hc13 => ?_)
           · replace H1 := Z1 hc13 H1
             refine r_s (L := []) (T := [⟨[], _, [], [], [4]⟩]) (F := [.op 0 0]) (hst.pick [] rfl) hb Zb
               (o_p rfl (Zc rfl rfl c_i) <| o_n) (by kernel_rfl) (fun a g hst hb => ?_)
             refine wp_ret ?_
             refine Zy ?_
             refine Zy ?_
             refine Zs ?_
             refine Zs ?_
             refine Zy ?_
             refine Zs ?_
             refine Zs ?_
             obtain rfl := Option.some.inj H1
             obtain rfl := Option.some.inj H0
             exact Z2 rfl hst hb (Zk (s := 4)) (hst.at 0 rfl)
           · replace H1 := Z0 hc13 H1
             obtain ⟨e14, h15, H1⟩ := Zh H1; obtain ⟨r16, h17, H1⟩ := Zh H1
             refine r_s (L := [(0, _), (1, _), (5, _), (6, _), (7, _), (8, _), (9, _)]) (T := ⟨[.old 2], _, [], [], [53]⟩ :: ⟨[.op 0 0], _, [], [0], [54]⟩ :: ⟨[.op 1 0], _, [], [0, 1], [55]⟩ :: ⟨[.op 2 0, .old 0], _, [], [0, 1, 2], [56]⟩ :: ⟨[.op 2 0, .op 3 0], _, [], List.range 4, [57]⟩ :: ⟨[.op 2 0, .op 4 0], _, [], List.range 5, [58]⟩ :: ⟨[.op 5 0], _, [], List.range 6, [59]⟩ :: ⟨[.op 6 0, .old 1], _, [], List.range 7, [60]⟩ :: ⟨[.op 6 0, .old 2], _, [], List.range 7, [61]⟩ :: ⟨[.op 6 0, .op 8 0], _, [], [0, 1, 2, 3, 4, 5, 6, 8], [62]⟩ :: ⟨[.op 6 0, .op 7 0, .op 9 0], _, [], List.range 10, [63]⟩ :: ⟨[.op 6 0, .op 10 0], _, [], List.range 11, [64]⟩ :: ⟨[.op 6 0, .old 3], _, [], List.range 7, [65]⟩ :: ⟨[.op 6 0, .op 11 0, .op 12 0], _, [], List.range 13, [66]⟩ :: ⟨[.op 6 0, .op 13 0], _, [], List.range 14, [67]⟩ :: ⟨[.op 6 0, .op 14 0], _, [], List.range 15, [68]⟩ :: ⟨[.op 15 0], _, [], List.range 16, [52]⟩ :: []) (F := [.old 0, .old 1, .old 4, .old 5, .old 6, .op 16 0]) (hst.pick [0, 1, 2, 3, 4, 5, 6] rfl) hb Zb
               (o_p rfl (Za rfl rfl u_0) <| o_p rfl (Zcj rfl rfl u_0 c_i) <| o_p rfl (Za rfl rfl u_0) <| o_g (g_t rfl rfl rfl (fun hG => Za rfl rfl u_0)) <| o_g (g_t rfl rfl rfl (fun hG => Zbv rfl rfl (Opd.gd hG u_0) c_i)) <| o_p rfl (Zbh rfl rfl u_0 (fun hz => (Opd.gd hz u_1))) <| o_p rfl (Za rfl rfl u_0) <| o_g (g_t rfl rfl rfl (fun hG => Za rfl rfl u_0)) <| o_g (g_t rfl rfl rfl (fun hG => Za rfl rfl u_0)) <| o_g (g_t rfl rfl rfl (fun hG => Zja rfl rfl (Opd.gd hG u_0) c_i rfl)) <| o_g (g_t rfl rfl rfl (fun hG => Zbx Tryd.underlying43 Zi6 rfl rfl (Opd.gd hG u_0) (Opd.gd hG u_1) (Zbo h15 hG))) <| o_g (g_t rfl rfl rfl (fun hG => Zf Zfd rfl rfl (Opd.gd hG u_0))) <| o_g (g_t rfl rfl rfl (fun hG => Zf Zfd rfl rfl u_0)) <| o_g (g_t rfl rfl rfl (fun hG => Zq Zyy (Zl3 _ _ (Zbo h17 hG)) rfl rfl (.cons (Opd.gd hG u_0) (.cons (Opd.gd hG u_1) .nil)))) <| o_g (g_t rfl rfl rfl (fun hG => Zcv rfl rfl (Opd.gd hG u_0))) <| o_p rfl (Zbh rfl rfl u_0 (fun hz => (Opd.gd hz u_1))) <| o_p rfl (Zc rfl rfl u_0) <| o_n) (by kernel_rfl) (fun a g hst hb => ?_)
             refine wp_cond_split (hst.bool 5 rfl) (fun hc18 => ?_) (fun hc18 => ?_)
             · replace H1 := Z1 hc18 H1
               refine r_s (L := []) (T := [⟨[], _, [], [], [4]⟩]) (F := [.op 0 0]) (hst.pick [] rfl) hb Zb
                 (o_p rfl (Zc rfl rfl c_i) <| o_n) (by kernel_rfl) (fun a g hst hb => ?_)
               refine wp_ret ?_
               refine Zy ?_
               refine Zy ?_
               refine Zs ?_
               refine Zs ?_
               refine Zy ?_
               refine Zs ?_
               refine Zs ?_
               obtain rfl := Option.some.inj H1
               obtain rfl := Option.some.inj H0
               exact Z2 rfl hst hb (Zk (s := 4)) (hst.at 0 rfl)
             · replace H1 := Z0 hc18 H1
               refine wp_skip ?_
               refine Zbt ?_
               refine Zbt ?_
               refine Zt ?_
               refine r_g (L := [(0, _), (1, _), (7, _), (8, _), (9, _)]) (T := [⟨[.old 4], _, [], [], [69]⟩, ⟨[.op 0 0], _, [], [0], [9]⟩]) (F := [.old 0, .old 1, .old 2, .old 3, .op 1 0]) (hst.pick [0, 1, 2, 3, 4] rfl) hb Zb
                 (o_p rfl (Zcb rfl rfl u_0 c_i rfl) <| o_p rfl (Za rfl rfl u_0) <| o_n) (by kernel_rfl) (fun a g hst hb => ?_)
               exact ⟨n, Nat.lt_succ_self _, (IntKind.i64.wrap (x1 + (1 : Int))), g, rfl, (hst.pick [0, 1, 2, 3, 4] rfl), hb, H1⟩
     · replace H1 := Z0 hc2 H1
       refine wp_exit ?_
       refine Zcc ?_
       refine Zcc ?_
       refine Zda ?_
       exact ⟨g, rfl, (hst.pick [] rfl), hb, Option.some.inj H1⟩
end Go.CL
set_option linter.unusedVariables false
set_option linter.unusedSimpArgs false
set_option maxRecDepth 100000
namespace Go.CL
open Go Go.RowKit Go.Proofs
theorem Zkn (a0 : Zd) {r : Int} (h : Zdh a0 = some r) : FnOk Tryd.prog 12 [(Zi.pd a0)] (pInt .i64 r) := by
 have H0 := h
 unfold Zdh at H0
 clear h
 refine Zbr (N := 83) Tryd.func12 rfl rfl (Nat.le_of_ble_eq_true rfl) rfl rfl (fun a g0 hst hb => ?_)
 refine r_s (T := [⟨[.old 0], _, [], [], [1]⟩, ⟨[], _, [], [], [2]⟩]) (F := [.op 0 0]) hst hb Zb
   (o_p rfl (Zbj rfl rfl u_0) <| o_p rfl (Zc rfl rfl c_i) <| o_n) (by kernel_rfl) (fun a g hst hb => ?_)
 obtain ⟨r1, h2, H0⟩ := Zh H0
 refine r_s (T := [⟨[.old 0], _, [], [], [4]⟩, ⟨[.op 0 0], _, [], [0], [5]⟩, ⟨[.op 1 0], _, [], [0, 1], [6]⟩, ⟨[], [(3, (pBox Zco 3 (default : Zbz)))], [4], [], [3]⟩, ⟨[.op 2 0, .op 3 0], _, [4], List.range 4, [3]⟩]) (F := [.old 0, .op 4 0]) hst hb Zb
   (o_p rfl (Ze Zfx rfl rfl u_0) <| o_p rfl (Zf ty_3 rfl rfl u_0) <| o_p rfl (Zq Z6r (Zue _ h2) rfl rfl (.cons u_0 .nil)) <| o_p rfl (Zbc (zs := [.bool false, .bool false, .bool false, .bool false, .bool false]) (by kernel_rfl) (fun g => Zpq g) rfl rfl) <| o_p rfl (Zb0 Zi7 rfl rfl u_1 u_0) <| o_n) (by kernel_rfl) (fun a g hst hb => ?_)
 refine wp_seq ?_
 refine wp_block ?_
 refine r_s (T := [⟨[.old 0], _, [], [], [8]⟩, ⟨[.op 0 0], _, [], [0], [9]⟩, ⟨[.op 1 0], _, [], [0, 1], [10]⟩, ⟨[.op 2 0], _, [], [0, 1, 2], [11]⟩, ⟨[.op 3 0, .old 0], _, [], List.range 4, [12]⟩, ⟨[.op 3 0, .op 4 0], _, [], List.range 5, [13]⟩, ⟨[.op 3 0, .op 5 0], _, [], List.range 6, [14]⟩, ⟨[.op 3 0, .op 6 0], _, [], List.range 7, [15]⟩, ⟨[.op 7 0], _, [], List.range 8, [7]⟩]) (F := [.old 0, .old 1, .op 8 0]) hst hb Zb
   (o_p rfl (Ze Zfx rfl rfl u_0) <| o_p rfl (Zf ty_3 rfl rfl u_0) <| o_p rfl (Z2s rfl rfl u_0 c_i) <| o_p rfl (Za rfl rfl u_0) <| o_g (g_f rfl rfl rfl (fun hG => Ze Zfx rfl rfl u_0)) <| o_g (g_f rfl rfl rfl (fun hG => Zf ty_3 rfl rfl (Opd.gd hG u_0))) <| o_g (g_f rfl rfl rfl (fun hG => Zrw rfl rfl (Opd.gd hG u_0) c_i)) <| o_p rfl (Zby rfl rfl u_0 (fun hz => (Opd.gd (bNF hz) u_1))) <| o_p rfl (Zc rfl rfl u_0) <| o_n) (by kernel_rfl) (fun a g hst hb => ?_)
 refine wp_cond_split (hst.bool 2 rfl) (fun hc3 => ?_) (fun hc3 => ?_)
 · replace H0 := Z1 hc3 H0
   refine r_s (L := []) (T := [⟨[], _, [], [], [2]⟩]) (F := [.op 0 0]) (hst.pick [] rfl) hb Zb
     (o_p rfl (Zc rfl rfl c_i) <| o_n) (by kernel_rfl) (fun a g hst hb => ?_)
   refine wp_ret ?_
   refine Zy ?_
   refine Zs ?_
   obtain rfl := Option.some.inj H0
   exact Z2 rfl hst hb (Zk (s := 2)) (hst.at 0 rfl)
 · replace H0 := Z0 hc3 H0
   obtain ⟨r4, h5, H0⟩ := Zh H0
   refine r_s (L := [(1, _), (3, _)]) (T := [⟨[.old 0], _, [], [], [17]⟩, ⟨[.old 1], _, [], [], [18]⟩, ⟨[.op 0 0, .op 1 0], _, [], [0, 1], [19]⟩, ⟨[.op 2 0], _, [], [0, 1, 2], [20]⟩, ⟨[.op 3 0], _, [], List.range 4, [16]⟩]) (F := [.old 0, .old 1, .op 4 0]) (hst.pick [0, 1] rfl) hb Zb
     (o_p rfl (Zf Zbg rfl rfl u_0) <| o_p rfl (Zf Zi7 rfl rfl u_0) <| o_p rfl (Zq Z6v (Zwi _ _ h5) rfl rfl (.cons u_0 (.cons u_1 .nil))) <| o_p rfl (Zcv rfl rfl u_0) <| o_p rfl (Zc rfl rfl u_0) <| o_n) (by kernel_rfl) (fun a g hst hb => ?_)
   refine wp_cond_split (hst.bool 2 rfl) (fun hc6 => ?_) (fun hc6 => ?_)
   · replace H0 := Z1 hc6 H0
     refine r_s (L := []) (T := [⟨[], _, [], [], [2]⟩]) (F := [.op 0 0]) (hst.pick [] rfl) hb Zb
       (o_p rfl (Zc rfl rfl c_i) <| o_n) (by kernel_rfl) (fun a g hst hb => ?_)
     refine wp_ret ?_
     refine Zy ?_
     refine Zs ?_
     obtain rfl := Option.some.inj H0
     exact Z2 rfl hst hb (Zk (s := 2)) (hst.at 0 rfl)
   · replace H0 := Z0 hc6 H0
     refine r_s (L := [(1, _), (3, _)]) (T := [⟨[.old 0], _, [], [], [22]⟩, ⟨[.op 0 0], _, [], [0], [23]⟩, ⟨[.op 1 0], _, [], [0, 1], [24]⟩, ⟨[.op 2 0], _, [], [0, 1, 2], [25]⟩, ⟨[.op 3 0], _, [], List.range 4, [21]⟩]) (F := [.old 0, .old 1, .op 4 0]) (hst.pick [0, 1] rfl) hb Zb
       (o_p rfl (Ze Zjj rfl rfl u_0) <| o_p rfl (Zf ty_9 rfl rfl u_0) <| o_p rfl (Zfk Tryd.underlying9 rfl rfl u_0) <| o_p rfl (Zcj rfl rfl u_0 c_i) <| o_p rfl (Zc rfl rfl u_0) <| o_n) (by kernel_rfl) (fun a g hst hb => ?_)
     refine wp_cond_split (hst.bool 2 rfl) (fun hc7 => ?_) (fun hc7 => ?_)
     · replace H0 := Z1 hc7 H0
       refine r_s (L := []) (T := [⟨[], _, [], [], [2]⟩]) (F := [.op 0 0]) (hst.pick [] rfl) hb Zb
         (o_p rfl (Zc rfl rfl c_i) <| o_n) (by kernel_rfl) (fun a g hst hb => ?_)
       refine wp_ret ?_
       refine Zy ?_
       refine Zs ?_
       obtain rfl := Option.some.inj H0
       exact Z2 rfl hst hb (Zk (s := 2)) (hst.at 0 rfl)
     · replace H0 := Z0 hc7 H0
       refine r_s (L := [(1, _), (3, _)]) (T := ⟨[.old 1], _, [], [], [27]⟩ :: ⟨[.op 0 0], _, [], [0], [28]⟩ :: ⟨[.op 1 0], _, [], [0, 1], [29]⟩ :: ⟨[.op 2 0, .old 0], _, [], [0, 1, 2], [30]⟩ :: ⟨[.op 2 0, .op 3 0], _, [], List.range 4, [31]⟩ :: ⟨[.op 2 0, .op 4 0], _, [], List.range 5, [32]⟩ :: ⟨[.op 2 0, .op 5 0], _, [], List.range 6, [33]⟩ :: ⟨[.op 6 0, .old 0], _, [], List.range 7, [34]⟩ :: ⟨[.op 6 0, .op 7 0], _, [], List.range 8, [35]⟩ :: ⟨[.op 6 0, .op 8 0], _, [], List.range 9, [36]⟩ :: ⟨[.op 2 0, .op 6 0, .op 9 0], _, [], List.range 10, [37]⟩ :: ⟨[.op 2 0, .op 10 0], _, [], List.range 11, [38]⟩ :: ⟨[.op 11 0, .old 0], _, [], List.range 12, [39]⟩ :: ⟨[.op 11 0, .op 12 0], _, [], List.range 13, [40]⟩ :: ⟨[.op 11 0, .old 0], _, [], List.range 12, [41]⟩ :: ⟨[.op 11 0, .op 14 0], _, [], 0 :: 1 :: 2 :: 3 :: 4 :: 5 :: 6 :: 7 :: 8 :: 9 :: 10 :: 11 :: 14 :: [], [42]⟩ :: ⟨[.op 11 0, .op 13 0, .op 15 0], _, [], List.range 16, [43]⟩ :: ⟨[.op 2 0, .op 11 0, .op 16 0], _, [], List.range 17, [44]⟩ :: ⟨[.op 2 0, .op 17 0], _, [], List.range 18, [45]⟩ :: ⟨[.op 18 0, .old 0], _, [], List.range 19, [46]⟩ :: ⟨[.op 18 0, .op 19 0], _, [], List.range 20, [47]⟩ :: ⟨[.op 18 0, .old 0], _, [], List.range 19, [48]⟩ :: ⟨[.op 18 0, .op 21 0], _, [], 0 :: 1 :: 2 :: 3 :: 4 :: 5 :: 6 :: 7 :: 8 :: 9 :: 10 :: 11 :: 12 :: 13 :: 14 :: 15 :: 16 :: 17 :: 18 :: 21 :: [], [49]⟩ :: ⟨[.op 18 0, .op 20 0, .op 22 0], _, [], List.range 23, [50]⟩ :: ⟨[.op 2 0, .op 18 0, .op 23 0], _, [], List.range 24, [51]⟩ :: ⟨[.op 2 0, .op 24 0], _, [], List.range 25, [52]⟩ :: ⟨[.op 25 0], _, [], List.range 26, [26]⟩ :: []) (F := [.old 0, .old 1, .op 26 0]) (hst.pick [0, 1] rfl) hb Zb
         (o_p rfl (Ze Zxm rfl rfl u_0) <| o_p rfl (Zf ty_4 rfl rfl u_0) <| o_p rfl (Za rfl rfl u_0) <| o_g (g_t rfl rfl rfl (fun hG => Ze Zjn rfl rfl u_0)) <| o_g (g_t rfl rfl rfl (fun hG => Zf ty_2 rfl rfl (Opd.gd hG u_0))) <| o_g (g_t rfl rfl rfl (fun hG => Zcy rfl rfl (Opd.gd hG u_0) c_i)) <| o_g (g_t rfl rfl rfl (fun hG => Za rfl rfl (Opd.gd hG u_0))) <| o_g (g_fi rfl rfl rfl (fun hG => Ze Zjm rfl rfl u_0)) <| o_g (g_fi rfl rfl rfl (fun hG => Zf ty_2 rfl rfl (Opd.gd hG u_0))) <| o_g (g_fi rfl rfl rfl (fun hG => Zcj rfl rfl (Opd.gd hG u_0) c_i)) <| o_g (g_t rfl rfl rfl (fun hG => Zby rfl rfl (Opd.gd hG u_0) (fun hz => (Opd.gd (bA hG (bNF hz)) u_1)))) <| o_g (g_t rfl rfl rfl (fun hG => Za rfl rfl (Opd.gd hG u_0))) <| o_g (g_fi rfl rfl rfl (fun hG => Ze Zd9 rfl rfl u_0)) <| o_g (g_fi rfl rfl rfl (fun hG => Zf ty_2 rfl rfl (Opd.gd hG u_0))) <| o_g (g_fi rfl rfl rfl (fun hG => Ze Zjn rfl rfl u_0)) <| o_g (g_fi rfl rfl rfl (fun hG => Zf ty_2 rfl rfl (Opd.gd hG u_0))) <| o_g (g_fi rfl rfl rfl (fun hG => Zcy rfl rfl (Opd.gd hG u_0) (Opd.gd hG u_1))) <| o_g (g_t rfl rfl rfl (fun hG => Zby rfl rfl (Opd.gd hG u_0) (fun hz => (Opd.gd (bA hG (bNF hz)) u_1)))) <| o_g (g_t rfl rfl rfl (fun hG => Za rfl rfl (Opd.gd hG u_0))) <| o_g (g_fi rfl rfl rfl (fun hG => Ze Zd9 rfl rfl u_0)) <| o_g (g_fi rfl rfl rfl (fun hG => Zf ty_2 rfl rfl (Opd.gd hG u_0))) <| o_g (g_fi rfl rfl rfl (fun hG => Ze Zjm rfl rfl u_0)) <| o_g (g_fi rfl rfl rfl (fun hG => Zf ty_2 rfl rfl (Opd.gd hG u_0))) <| o_g (g_fi rfl rfl rfl (fun hG => Zcj rfl rfl (Opd.gd hG u_0) (Opd.gd hG u_1))) <| o_g (g_t rfl rfl rfl (fun hG => Zby rfl rfl (Opd.gd hG u_0) (fun hz => (Opd.gd (bA hG (bNF hz)) u_1)))) <| o_p rfl (Zbh rfl rfl u_0 (fun hz => (Opd.gd hz u_1))) <| o_p rfl (Zc rfl rfl u_0) <| o_n) (by kernel_rfl) (fun a g hst hb => ?_)
       refine wp_cond_split (hst.bool 2 rfl) (fun hc8 => ?_) (fun hc8 => ?_)
       · replace H0 := Z1 hc8 H0
         refine r_s (L := []) (T := [⟨[], _, [], [], [2]⟩]) (F := [.op 0 0]) (hst.pick [] rfl) hb Zb
           (o_p rfl (Zc rfl rfl c_i) <| o_n) (by kernel_rfl) (fun a g hst hb => ?_)
         refine wp_ret ?_
         refine Zy ?_
         refine Zs ?_
         obtain rfl := Option.some.inj H0
         exact Z2 rfl hst hb (Zk (s := 2)) (hst.at 0 rfl)
       · replace H0 := Z0 hc8 H0
         obtain ⟨r9, h10, H0⟩ := Zh H0
         refine r_s (L := [(1, _), (3, _)]) (T := [⟨[.old 0], _, [], [], [54]⟩, ⟨[.op 0 0], _, [], [0], [55]⟩, ⟨[.op 1 0], _, [], [0, 1], [56]⟩, ⟨[.op 2 0], _, [], [0, 1, 2], [57]⟩, ⟨[.op 3 0], _, [], List.range 4, [53]⟩]) (F := [.old 0, .old 1, .op 4 0]) (hst.pick [0, 1] rfl) hb Zb
           (o_p rfl (Ze Zkj rfl rfl u_0) <| o_p rfl (Zf Ze0 rfl rfl u_0) <| o_p rfl (Zq Zyc (Zl4 _ h10) rfl rfl (.cons u_0 .nil)) <| o_p rfl (Zcv rfl rfl u_0) <| o_p rfl (Zc rfl rfl u_0) <| o_n) (by kernel_rfl) (fun a g hst hb => ?_)
         refine wp_cond_split (hst.bool 2 rfl) (fun hc11 => ?_) (fun hc11 => ?_)
         · replace H0 := Z1 hc11 H0
           refine r_s (L := []) (T := [⟨[], _, [], [], [2]⟩]) (F := [.op 0 0]) (hst.pick [] rfl) hb Zb
             (o_p rfl (Zc rfl rfl c_i) <| o_n) (by kernel_rfl) (fun a g hst hb => ?_)
           refine wp_ret ?_
           refine Zy ?_
           refine Zs ?_
           obtain rfl := Option.some.inj H0
           exact Z2 rfl hst hb (Zk (s := 2)) (hst.at 0 rfl)
         · replace H0 := Z0 hc11 H0
           refine r_s (L := [(1, _), (3, _)]) (T := [⟨[.old 1], _, [], [], [59]⟩, ⟨[.op 0 0], _, [], [0], [60]⟩, ⟨[.op 1 0], _, [], [0, 1], [61]⟩, ⟨[.op 2 0], _, [], [0, 1, 2], [58]⟩]) (F := [.old 0, .op 3 0]) (hst.pick [0, 1] rfl) hb Zb
             (o_p rfl (Ze Zx8 rfl rfl u_0) <| o_p rfl (Zf ty_4 rfl rfl u_0) <| o_p rfl (Zcv rfl rfl u_0) <| o_p rfl (Zc rfl rfl u_0) <| o_n) (by kernel_rfl) (fun a g hst hb => ?_)
           refine wp_cond_split (hst.bool 1 rfl) (fun hc12 => ?_) (fun hc12 => ?_)
           · replace H0 := Z1 hc12 H0
             refine r_s (L := []) (T := [⟨[], _, [], [], [2]⟩]) (F := [.op 0 0]) (hst.pick [] rfl) hb Zb
               (o_p rfl (Zc rfl rfl c_i) <| o_n) (by kernel_rfl) (fun a g hst hb => ?_)
             refine wp_ret ?_
             refine Zy ?_
             refine Zs ?_
             obtain rfl := Option.some.inj H0
             exact Z2 rfl hst hb (Zk (s := 2)) (hst.at 0 rfl)
           · replace H0 := Z0 hc12 H0
             refine r_s (L := [(1, _)]) (T := [⟨[.old 0], _, [], [], [63]⟩, ⟨[.op 0 0], _, [], [0], [64]⟩, ⟨[.op 1 0], _, [], [0, 1], [65]⟩, ⟨[.op 2 0], _, [], [0, 1, 2], [66]⟩, ⟨[.op 3 0, .old 0], _, [], List.range 4, [67]⟩, ⟨[.op 3 0, .op 4 0], _, [], List.range 5, [68]⟩, ⟨[.op 3 0, .op 5 0], _, [], List.range 6, [69]⟩, ⟨[.op 3 0, .op 6 0], _, [], List.range 7, [70]⟩, ⟨[.op 7 0], _, [], List.range 8, [62]⟩]) (F := [.old 0, .op 8 0]) (hst.pick [0] rfl) hb Zb
               (o_p rfl (Ze Zhj rfl rfl u_0) <| o_p rfl (Zf ty_3 rfl rfl u_0) <| o_p rfl (Zcy rfl rfl u_0 c_i) <| o_p rfl (Za rfl rfl u_0) <| o_g (g_f rfl rfl rfl (fun hG => Ze Zhj rfl rfl u_0)) <| o_g (g_f rfl rfl rfl (fun hG => Zf ty_3 rfl rfl (Opd.gd hG u_0))) <| o_g (g_f rfl rfl rfl (fun hG => Zcj rfl rfl (Opd.gd hG u_0) c_i)) <| o_p rfl (Zby rfl rfl u_0 (fun hz => (Opd.gd (bNF hz) u_1))) <| o_p rfl (Zc rfl rfl u_0) <| o_n) (by kernel_rfl) (fun a g hst hb => ?_)
             refine wp_cond_split (hst.bool 1 rfl) (fun hc13 => ?_) (fun hc13 => ?_)
             · replace H0 := Z1 hc13 H0
               refine r_s (L := []) (T := [⟨[], _, [], [], [2]⟩]) (F := [.op 0 0]) (hst.pick [] rfl) hb Zb
                 (o_p rfl (Zc rfl rfl c_i) <| o_n) (by kernel_rfl) (fun a g hst hb => ?_)
               refine wp_ret ?_
               refine Zy ?_
               refine Zs ?_
               obtain rfl := Option.some.inj H0
               exact Z2 rfl hst hb (Zk (s := 2)) (hst.at 0 rfl)
             · replace H0 := Z0 hc13 H0
               refine r_s (L := [(1, _)]) (T := [⟨[.old 0], _, [], [], [72]⟩, ⟨[.op 0 0], _, [], [0], [73]⟩, ⟨[.op 1 0], _, [], [0, 1], [74]⟩, ⟨[.old 0], _, [], [], [75]⟩, ⟨[.op 3 0], _, [], [3], [76]⟩, ⟨[.op 2 0, .op 4 0], _, [], List.range 5, [77]⟩, ⟨[.op 5 0], _, [], List.range 6, [71]⟩]) (F := [.old 0, .op 6 0]) (hst.pick [0] rfl) hb Zb
                 (o_p rfl (Ze Zdb rfl rfl u_0) <| o_p rfl (Zf Zer rfl rfl u_0) <| o_p rfl (Zb7 Tryd.underlying43 rfl rfl u_0) <| o_p rfl (Ze Zhj rfl rfl u_0) <| o_p rfl (Zf ty_3 rfl rfl u_0) <| o_p rfl (Zcj rfl rfl u_0 u_1) <| o_p rfl (Zc rfl rfl u_0) <| o_n) (by kernel_rfl) (fun a g hst hb => ?_)
               refine wp_cond_split (hst.bool 1 rfl) (fun hc14 => ?_) (fun hc14 => ?_)
               · replace H0 := Z1 hc14 H0
                 refine r_s (L := []) (T := [⟨[], _, [], [], [2]⟩]) (F := [.op 0 0]) (hst.pick [] rfl) hb Zb
                   (o_p rfl (Zc rfl rfl c_i) <| o_n) (by kernel_rfl) (fun a g hst hb => ?_)
                 refine wp_ret ?_
                 refine Zy ?_
                 refine Zs ?_
                 obtain rfl := Option.some.inj H0
                 exact Z2 rfl hst hb (Zk (s := 2)) (hst.at 0 rfl)
               · replace H0 := Z0 hc14 H0
                 refine wp_skip ?_
                 refine Zbt ?_
                 refine Zt ?_
                 obtain ⟨r15, h16, H0⟩ := Zh H0
                 refine r_s (L := [(1, _)]) (T := [⟨[.old 0], _, [], [], [78]⟩, ⟨[.op 0 0], _, [], [0], [79]⟩, ⟨[.old 0], _, [], [], [80]⟩, ⟨[.op 2 0], _, [], [2], [81]⟩, ⟨[.op 1 0, .op 3 0], _, [], List.range 4, [82]⟩, ⟨[.op 4 0], _, [], List.range 5, [2]⟩]) (F := [.op 5 0]) (hst.pick [0] rfl) hb Zb
                   (o_p rfl (Ze Zfx rfl rfl u_0) <| o_p rfl (Zf ty_3 rfl rfl u_0) <| o_p rfl (Ze Zdb rfl rfl u_0) <| o_p rfl (Zf Zer rfl rfl u_0) <| o_p rfl (Zq Z7w (Zu4 _ _ h16) rfl rfl (.cons u_0 (.cons u_1 .nil))) <| o_p rfl (Zc rfl rfl u_0) <| o_n) (by kernel_rfl) (fun a g hst hb => ?_)
                 refine wp_ret ?_
                 obtain rfl := Option.some.inj H0
                 exact Z2 rfl hst hb (Zk (s := 2)) (hst.at 0 rfl)
end Go.CL
set_option linter.unusedVariables false
set_option linter.unusedSimpArgs false
set_option maxRecDepth 100000
namespace Go.CL
open Go Go.RowKit Go.Proofs
theorem Zjy (a0 : (List Zj)) {r : (List Zj)} (h : Zbq a0 = some r) : FnOk Tryd.prog 43 [(Zu.sl.pd a0)] (Zu.sl.pd r) := by
 unfold Zbq at h
 obtain ⟨hsz, H0⟩ := Zjz h
 obtain rfl := Option.some.inj H0
 refine Zbr (N := 8) Tryd.func43 rfl rfl (Nat.le_of_ble_eq_true rfl) rfl rfl (fun a g0 hst hb => ?_)
 refine wp_seq ?_
 refine Znr Zb (N := 8) (L := [(0, (Zu.sl.pd a0))]) (T := [⟨[], [(2, (Zu.sl.pd []))], [], [], [2]⟩]) (F := [.old 0]) (by kernel_rfl)
   (Zhw (OT.plain rfl (Zc rfl rfl (Opd.c (fun g => Zkc g)))) Zm8) hst hb (fun a g hst hb => ?_)
 refine Zt ?_
 refine wp_seq ?_
 refine wp_seq ?_
 refine Znr Zb (N := 8) (L := [(0, (Zu.sl.pd a0))]) (T := [⟨[.old 0], [(3, (Zu.sl.pd a0))], [], [], [3]⟩, ⟨[.op 0 0], [(4, Z2i a0)], [], [0], [4]⟩]) (F := [.old 0, .op 1 0]) (by kernel_rfl)
   (Zhw (OT.plain rfl (Za rfl rfl Opd.t0)) (Zhw (OT.plain rfl (Zx1 Tryd.underlying43 rfl rfl Opd.t0)) Zm8)) hst hb (fun a g hst hb => ?_)
 refine Zt ?_
 obtain ⟨c, hc, hc'⟩ := hst.at 1 rfl
 refine wp_cond_split hc (fun ht => ?_) (fun hf => ?_)
 · obtain rfl := hc' ht
   refine wp_seq ?_
   refine Znr Zb (N := 8) (L := []) (T := [⟨[], [(2, (Zu.sl.pd []))], [], [], [2]⟩]) (F := [.op 0 0]) (by kernel_rfl)
     (Zhw (OT.plain rfl (Zc rfl rfl (Opd.c (fun g => Zkc g)))) Zm8) (hst.pick [] rfl) hb (fun a g hst hb => ?_)
   refine Zt ?_
   refine wp_ret ?_
   refine Zs ?_
   exact Z2 rfl hst hb (Zk (s := 2)) (hst.at 0 rfl)
 · refine wp_skip ?_
   refine Zt ?_
   refine wp_seq ?_
   have hsz' : (([] : (List Zj)).length + a0.length) * 24 ≤ 140737488355328 := by simpa using hsz
   refine Znr Zb (N := 8) (L := [(0, (Zu.sl.pd a0))]) (T := [⟨[], [(5, (pRow Zu 97 5 []))], [6], [], [5]⟩, ⟨[.old 0], [(6, (Zu.sl.pd a0))], [], [], [6]⟩, ⟨[.op 0 0, .op 1 0], [(7, (pRow Zu 97 5 ([] ++ a0)))], [6], [0, 1], [5, 7]⟩, ⟨[.op 2 0], [(2, (pRow Zu 97 5 ([] ++ a0)))], [], [0, 1, 2], [2]⟩]) (F := [.op 3 0]) (by kernel_rfl)
     (Zhw (OT.plain rfl (Ztr 5 Zd4 (xs := []) .nil (by decide) rfl rfl)) (Zhw (OT.plain rfl (Za rfl rfl Opd.t0)) (Zhw (OT.plain rfl (Zkh Zd4 rfl rfl Opd.t0 (Opd.tl Opd.t0) hsz')) (Zhw (OT.plain rfl (Zc rfl rfl Opd.t0)) Zm8)))) (hst.pick [0] rfl) hb (fun a g hst hb => ?_)
   refine Zt ?_
   refine wp_ret ?_
   exact Z2 rfl hst hb (Zk (s := 2)) (Zpu (hst.at 0 rfl))
theorem Zej (a0 : (List Zj)) {r : (List Zj)} (h : Zbq a0 = some r) : Zsw Tryd.prog 43 [(Zu.sl.pd a0)] Zu 97 r := by
 unfold Zbq at h
 obtain ⟨hsz, H0⟩ := Zjz h
 obtain rfl := Option.some.inj H0
 refine Zyh (N := 8) Tryd.func43 rfl rfl (Nat.le_of_ble_eq_true rfl) rfl (fun a g0 h0 hst hb => ?_)
 refine r_s (T := [⟨[], [(2, (Zu.sl.pd []))], [], [], [2]⟩]) (F := [.old 0]) hst hb Zb
   (o_p rfl (Zc rfl rfl (Opd.c (fun g => Zkc g))) <| o_n) (by kernel_rfl) (fun a g hst hb => ?_)
 refine wp_seq ?_
 refine r_s (T := [⟨[.old 0], _, [], [], [3]⟩, ⟨[.op 0 0], _, [], [0], [4]⟩]) (F := [.old 0, .op 1 0]) hst hb Zb
   (o_p rfl (Za rfl rfl u_0) <| o_p rfl (Zx1 Tryd.underlying43 rfl rfl u_0) <| o_n) (by kernel_rfl) (fun a g hst hb => ?_)
 obtain ⟨c, hc, hc'⟩ := hst.at 1 rfl
 refine wp_cond_split hc (fun ht => ?_) (fun hf => ?_)
 · obtain rfl := hc' ht
   refine r_s (L := []) (T := [⟨[], [(2, (pEq (.slice none 0 0)))], [], [], [2]⟩]) (F := [.op 0 0]) (hst.pick [] rfl) hb Zb
     (o_p rfl (Zc rfl rfl (Opd.c (fun g => rfl))) <| o_n) (by kernel_rfl) (fun a g hst hb => ?_)
   refine wp_ret ?_
   refine Zs ?_
   exact Zw1 rfl hst hb (Zk (s := 2)) ⟨none, hst.at 0 rfl⟩
 · refine wp_skip ?_
   refine Zt ?_
   refine r_s (L := [(0, _)]) (T := [⟨[], [(5, (pOwn Zu 97 5 (some 0) (([] : (List Zj)).map some)))], [6], [], [5]⟩, ⟨[.old 0], _, [], [], [6]⟩, ⟨[.op 0 0, .op 1 0], _, [6], [0, 1], [5, 7]⟩, ⟨[.op 2 0], _, [], [0, 1, 2], [2]⟩]) (F := [.op 3 0]) (hst.pick [0] rfl) hb Zb
     (o_p rfl (Zzg (ty := 0) Zd4 rfl rfl) <| o_p rfl (Za rfl rfl u_0) <| o_p rfl (Zr6 Zd4 rfl rfl u_0 u_1 (by simpa using hsz)) <| o_p rfl (Zc rfl rfl u_0) <| o_n) (by kernel_rfl) (fun a g hst hb => ?_)
   refine wp_ret ?_
   exact Z1v rfl h0 hst hb (Zk (s := 2)) (hst.at 0 rfl)
end Go.CL
set_option linter.unusedVariables false
set_option linter.unusedSimpArgs false
set_option maxRecDepth 100000
namespace Go.CL
open Go Go.RowKit Go.Proofs
theorem Zga (a0 : Zd) {r : Zd} (h : Zey a0 = some r) : FnOk Tryd.prog 26 [(Zi.pd a0)] (Zi.pd r) := by
 have H0 := h
 unfold Zey at H0
 clear h
 refine Zbr (N := 8) Tryd.func26 rfl rfl (Nat.le_of_ble_eq_true rfl) rfl rfl (fun a g0 hst hb => ?_)
 refine r_s (T := [⟨[.old 0], _, [2], [], [1]⟩, ⟨[], [(2, (pBox Zi 2 (default : Zd)))], [3], [], [2]⟩]) (F := [.op 0 0, .op 1 0]) hst hb Zb
   (o_p rfl (Zp2 rfl rfl u_0) <| o_p rfl (Zbc (zs := [.int .i64 0, .int .i64 0, .int .i64 0, .int .i64 0, .float .f64 0, .int .i64 0, .string ByteArray.empty, .slice none 0 0]) (by kernel_rfl) (fun g => Zcg g) rfl rfl) <| o_n) (by kernel_rfl) (fun a g hst hb => ?_)
 obtain ⟨r1, h2, H0⟩ := Zh H0
 refine r_s (T := [⟨[.old 0], _, [], [], [3]⟩, ⟨[.op 0 0], _, [], [0], [4]⟩, ⟨[.op 1 0], _, [], [0, 1], [5]⟩, ⟨[.old 0], _, [], [0, 1, 2], [6]⟩, ⟨[.op 2 0, .op 3 0, .old 0], _, [2], List.range 4, [1, 3, 6]⟩]) (F := [.op 4 0, .old 1]) hst hb Zb
   (o_p rfl (Zba Zdb (off := 7) (by kernel_rfl) rfl rfl u_0) <| o_p rfl (Zck Zer rfl rfl u_0) <| o_p rfl (Zq Zuw (Zjy _ h2) rfl rfl (.cons u_0 .nil)) <| o_p rfl (Zba Zdb (off := 7) (by kernel_rfl) rfl rfl u_0) <| o_p rfl (Zp3 Zer rfl rfl u_2 u_1 u_0) <| o_n) (by kernel_rfl) (fun a g hst hb => ?_)
 refine r_s (T := [⟨[.old 0], _, [], [], [7]⟩, ⟨[.op 0 0, .old 1], _, [3], [0], [2]⟩]) (F := [.op 1 0]) hst hb Zb
   (o_p rfl (Zb6 Zbg rfl rfl u_0) <| o_p rfl (Z6 Zbg rfl rfl u_1 u_0) <| o_n) (by kernel_rfl) (fun a g hst hb => ?_)
 refine wp_ret ?_
 obtain rfl := Option.some.inj H0
 obtain ⟨u0, hu0, hq0⟩ := Zbf (P := Tryd.prog) Zbg (hst.at 0 rfl)
 exact Z2 rfl hst hb hu0 hq0
end Go.CL
set_option linter.unusedVariables false
set_option linter.unusedSimpArgs false
set_option maxRecDepth 100000
namespace Go.CL
open Go Go.RowKit Go.Proofs
theorem Zjf (a0 : Zm) (a1 : ByteArray) {r : Zd × Bool} (h : Zez a0 a1 = some r) : FnOk Tryd.prog 34 [(Zw.pd a0), (pStr a1)] (pTup [(Zi.pd r.1), (Zbb r.2)]) := by
 have H0 := h
 unfold Zez at H0
 clear h
 refine Zbr (N := 39) Tryd.func34 rfl rfl (Nat.le_of_ble_eq_true rfl) rfl rfl (fun a g0 hst hb => ?_)
 refine r_s (T := [⟨[.old 0], _, [], [], [2]⟩, ⟨[], [(4, (pBox Zi 4 (default : Zd)))], [5], [], [4]⟩, ⟨[], _, [], [], [5]⟩]) (F := [.old 1, .op 0 0, .op 1 0]) hst hb Zb
   (o_p rfl (Zbj rfl rfl u_0) <| o_p rfl (Zbc (zs := [.int .i64 0, .int .i64 0, .int .i64 0, .int .i64 0, .float .f64 0, .int .i64 0, .string ByteArray.empty, .slice none 0 0]) (by kernel_rfl) (fun g => Zcg g) rfl rfl) <| o_p rfl (Zc rfl rfl c_b) <| o_n) (by kernel_rfl) (fun a g hst hb => ?_)
 refine wp_seq ?_
 refine r_s (T := [⟨[.old 1], _, [], [], [7]⟩, ⟨[.op 0 0], _, [], [0], [8]⟩, ⟨[.op 1 0], _, [], [0, 1], [6]⟩]) (F := [.old 0, .old 2, .op 2 0]) hst hb Zb
   (o_p rfl (Ze Znn rfl rfl u_0) <| o_p rfl (Zf Zcp rfl rfl u_0) <| o_p rfl (Zc rfl rfl u_0) <| o_n) (by kernel_rfl) (fun a g hst hb => ?_)
 obtain ⟨z12, hz1, H0⟩ := Zh H0
 refine Zc6 (fun a w => ∃ (y11 : Zd) (g : G), w = g.w ∧ St 39 [(4, (pBox Zi 4 y11))] a g ∧ Base g0 g ∧ (.inr y11) = z12) ?_ ?_
 · rintro a w ⟨y11, g, rfl, hst, hb, rfl⟩
   refine Zt ?_
   refine r_s (T := [⟨[], _, [], [], [38]⟩, ⟨[.op 0 0, .old 0], _, [5], [0], [4]⟩, ⟨[], _, [], [0, 1], [5]⟩]) (F := [.op 1 0, .op 2 0]) hst hb Zb
     (o_p rfl (Zpm rfl rfl ) <| o_p rfl (Z6 Zbg rfl rfl u_1 u_0) <| o_p rfl (Zc rfl rfl c_b) <| o_n) (by kernel_rfl) (fun a g hst hb => ?_)
   refine wp_ret ?_
   obtain rfl := Option.some.inj H0
   obtain ⟨u0, hu0, hq0⟩ := Zbf (P := Tryd.prog) Zbg (hst.at 0 rfl)
   exact Zem rfl hst hb hu0 (Zk (s := 5)) (Zdf hq0 (hst.at 1 rfl))
 · refine wp_block ?_
   refine wp_loop_ghost (fun n a w => ∃ (x1 : Zd) (x2 : shelf_nodeT) (g : G), w = g.w ∧ St 39 [(1, (pStr a1)), (4, (pBox Zi 4 x1)), (6, (Zz.pd x2))] a g ∧ Base g0 g ∧ Zdo a1 n x1 x2 = some z12) (a0.top.hh + 1) ⟨(default : Zd), a0.top, g, rfl, (hst.pick [0, 1, 2] rfl), hb, hz1⟩ (fun n a w hI => ?_)
   obtain ⟨x1, x2, g, rfl, hst, hb, H1⟩ := hI
   cases n with
   | zero => exact absurd H1 (by simp [Zdo])
   | succ n =>
     rw [Zdo] at H1
     refine wp_seq ?_
     refine r_s (T := [⟨[.old 2], _, [], [], [9]⟩, ⟨[.op 0 0], _, [], [0], [10]⟩]) (F := [.old 0, .old 1, .old 2, .op 1 0]) hst hb Zb
       (o_p rfl (Za rfl rfl u_0) <| o_p rfl (Zvk Tryd.underlying25 rfl rfl u_0 (Zea _)) <| o_n) (by kernel_rfl) (fun a g hst hb => ?_)
     refine wp_cond_split (hst.bool 3 rfl) (fun hc3 => ?_) (fun hc3 => ?_)
     · replace H1 := Z1 hc3 H1
       refine wp_skip ?_
       refine Zt ?_
       refine Zc6 (fun a w => ∃ (j10 : shelf_nodeT) (g : G), w = g.w ∧ St 39 [(1, (pStr a1)), (4, (pBox Zi 4 x1)), (6, (Zz.pd j10))] a g ∧ Base g0 g ∧ Zgd x1 (Zdo a1 n) j10 = some z12) ?_ ?_
       · rintro a w ⟨j10, g, rfl, hst, hb, H1⟩
         unfold Zgd at H1
         exact ⟨n, Nat.lt_succ_self _, x1, j10, g, rfl, (hst.pick [0, 1, 2] rfl), hb, H1⟩
       · refine wp_block ?_
         refine wp_block ?_
         obtain ⟨n4, h5, H1⟩ := Zh H1
         refine r_s (L := [(1, _), (4, _), (6, _)]) (T := [⟨[.old 0], _, [], [], [17]⟩, ⟨[.old 2], _, [], [], [18]⟩, ⟨[.op 1 0], _, [], [1], [19]⟩, ⟨[.op 2 0], _, [], [1, 2], [20]⟩, ⟨[.op 3 0], _, [], [1, 2, 3], [21]⟩, ⟨[.op 0 0, .op 4 0], _, [], List.range 5, [22]⟩, ⟨[.op 5 0], _, [], List.range 6, [16]⟩]) (F := [.old 0, .old 1, .old 2, .op 6 0]) (hst.pick [0, 1, 2] rfl) hb Zb
           (o_p rfl (Za rfl rfl u_0) <| o_p rfl (Za rfl rfl u_0) <| o_p rfl (Zn rfl rfl (Opd.imp u_0 (fun _ _ h => Zp h5 h)) (fun _ _ ⟨_, _, _, e, _⟩ => ⟨_, e⟩)) <| o_p rfl (Ze Zeq rfl rfl u_0) <| o_p rfl (Zf ty_9 rfl rfl u_0) <| o_p rfl (Zly rfl rfl u_0 u_1) <| o_p rfl (Zc rfl rfl u_0) <| o_n) (by kernel_rfl) (fun a g hst hb => ?_)
         refine wp_cond_split (hst.bool 3 rfl) (fun hc6 => ?_) (fun hc6 => ?_)
         · replace H1 := Z1 hc6 H1
           refine r_g (L := [(1, _), (4, _), (6, _)]) (T := [⟨[.old 2], _, [], [], [23]⟩, ⟨[.op 0 0], _, [], [0], [24]⟩, ⟨[.op 1 0], _, [], [0, 1], [25]⟩, ⟨[.op 2 0], _, [], [0, 1, 2], [26]⟩, ⟨[.op 3 0], _, [], List.range 4, [6]⟩]) (F := [.old 0, .old 1, .op 4 0]) (hst.pick [0, 1, 2] rfl) hb Zb
             (o_p rfl (Za rfl rfl u_0) <| o_p rfl (Zn rfl rfl (Opd.imp u_0 (fun _ _ h => Zp h5 h)) (fun _ _ ⟨_, _, _, e, _⟩ => ⟨_, e⟩)) <| o_p rfl (Ze Zd8 rfl rfl u_0) <| o_p rfl (Zf Zcp rfl rfl u_0) <| o_p rfl (Zc rfl rfl u_0) <| o_n) (by kernel_rfl) (fun a g hst hb => ?_)
           refine Zbt ?_
           refine Zbt ?_
           exact ⟨n4.left, g, rfl, (hst.pick [0, 1, 2] rfl), hb, H1⟩
         · replace H1 := Z0 hc6 H1
           refine r_s (L := [(1, _), (4, _), (6, _)]) (T := [⟨[.old 0], _, [], [], [28]⟩, ⟨[.old 2], _, [], [], [29]⟩, ⟨[.op 1 0], _, [], [1], [30]⟩, ⟨[.op 2 0], _, [], [1, 2], [31]⟩, ⟨[.op 3 0], _, [], [1, 2, 3], [32]⟩, ⟨[.op 0 0, .op 4 0], _, [], List.range 5, [33]⟩, ⟨[.op 5 0], _, [], List.range 6, [27]⟩]) (F := [.old 0, .old 1, .old 2, .op 6 0]) (hst.pick [0, 1, 2] rfl) hb Zb
             (o_p rfl (Za rfl rfl u_0) <| o_p rfl (Za rfl rfl u_0) <| o_p rfl (Zn rfl rfl (Opd.imp u_0 (fun _ _ h => Zp h5 h)) (fun _ _ ⟨_, _, _, e, _⟩ => ⟨_, e⟩)) <| o_p rfl (Ze Zeq rfl rfl u_0) <| o_p rfl (Zf ty_9 rfl rfl u_0) <| o_p rfl (Zsi rfl rfl u_0 u_1) <| o_p rfl (Zc rfl rfl u_0) <| o_n) (by kernel_rfl) (fun a g hst hb => ?_)
           refine wp_cond_split (hst.bool 3 rfl) (fun hc7 => ?_) (fun hc7 => ?_)
           · replace H1 := Z1 hc7 H1
             refine r_g (L := [(1, _), (4, _), (6, _)]) (T := [⟨[.old 2], _, [], [], [34]⟩, ⟨[.op 0 0], _, [], [0], [35]⟩, ⟨[.op 1 0], _, [], [0, 1], [36]⟩, ⟨[.op 2 0], _, [], [0, 1, 2], [37]⟩, ⟨[.op 3 0], _, [], List.range 4, [6]⟩]) (F := [.old 0, .old 1, .op 4 0]) (hst.pick [0, 1, 2] rfl) hb Zb
               (o_p rfl (Za rfl rfl u_0) <| o_p rfl (Zn rfl rfl (Opd.imp u_0 (fun _ _ h => Zp h5 h)) (fun _ _ ⟨_, _, _, e, _⟩ => ⟨_, e⟩)) <| o_p rfl (Ze Zen rfl rfl u_0) <| o_p rfl (Zf Zcp rfl rfl u_0) <| o_p rfl (Zc rfl rfl u_0) <| o_n) (by kernel_rfl) (fun a g hst hb => ?_)
             refine Zbt ?_
             refine Zbt ?_
             exact ⟨n4.right, g, rfl, (hst.pick [0, 1, 2] rfl), hb, H1⟩
           · replace H1 := Z0 hc7 H1
             obtain ⟨r8, h9, H1⟩ := Zh H1
             refine r_s (L := [(4, _), (6, _)]) (T := [⟨[.old 1], _, [], [], [11]⟩, ⟨[.op 0 0], _, [], [0], [12]⟩, ⟨[.op 1 0], _, [], [0, 1], [13]⟩, ⟨[.op 2 0], _, [], [0, 1, 2], [14]⟩, ⟨[.op 3 0], _, [], List.range 4, [15]⟩, ⟨[.op 4 0, .old 0], _, [5], List.range 5, [4]⟩, ⟨[], _, [], List.range 6, [5]⟩]) (F := [.op 5 0, .op 6 0]) (hst.pick [1, 2] rfl) hb Zb
               (o_p rfl (Za rfl rfl u_0) <| o_p rfl (Zn rfl rfl (Opd.imp u_0 (fun _ _ h => Zp h5 h)) (fun _ _ ⟨_, _, _, e, _⟩ => ⟨_, e⟩)) <| o_p rfl (Ze Zg8 rfl rfl u_0) <| o_p rfl (Zf Zbg rfl rfl u_0) <| o_p rfl (Zq Zm0 (Zga _ h9) rfl rfl (.cons u_0 .nil)) <| o_p rfl (Z6 Zbg rfl rfl u_1 u_0) <| o_p rfl (Zc rfl rfl c_b) <| o_n) (by kernel_rfl) (fun a g hst hb => ?_)
             refine wp_ret ?_
             refine Zy ?_
             refine Zy ?_
             refine Zs ?_
             refine Zs ?_
             refine Zy ?_
             refine Zs ?_
             refine Zs ?_
             obtain rfl := Option.some.inj H1
             obtain rfl := Option.some.inj H0
             obtain ⟨u0, hu0, hq0⟩ := Zbf (P := Tryd.prog) Zbg (hst.at 0 rfl)
             exact Zem rfl hst hb hu0 (Zk (s := 5)) (Zdf hq0 (hst.at 1 rfl))
     · replace H1 := Z0 hc3 H1
       refine wp_exit ?_
       refine Zcc ?_
       refine Zcc ?_
       refine Zda ?_
       exact ⟨x1, g, rfl, (hst.pick [1] rfl), hb, Option.some.inj H1⟩
end Go.CL
set_option linter.unusedVariables false
set_option linter.unusedSimpArgs false
set_option maxRecDepth 100000
namespace Go.CL
open Go Go.RowKit Go.Proofs
theorem Zdk (a0 : ByteArray) (a1 : Zd) (a2 : shelf_nodeT) (a3 : shelf_nodeT) {r : shelf_nodeT} (h : Zdg a0 a1 a2 a3 = some r) : FnOk Tryd.prog 54 [(pStr a0), (Zi.pd a1), (Zz.pd a2), (Zz.pd a3)] (Zz.pd r) := by
 have H0 := h
 unfold Zdg at H0
 clear h
 refine Zbr (N := 21) Tryd.func54 rfl rfl (Nat.le_of_ble_eq_true rfl) rfl rfl (fun a g0 hst hb => ?_)
 refine r_s (T := [⟨[.old 1], _, [], [], [5]⟩, ⟨[], [(8, (Zz.pd shelf_nodeT.nil))], [], [], [8]⟩]) (F := [.old 0, .old 2, .old 3, .op 0 0]) hst hb Zb
   (o_p rfl (Zbj rfl rfl u_0) <| o_p rfl (Zc rfl rfl (Opd.c (fun g => Zdt g))) <| o_n) (by kernel_rfl) (fun a g hst hb => ?_)
 obtain ⟨r1, h2, H0⟩ := Zh H0; obtain ⟨r3, h4, H0⟩ := Zh H0
 refine r_s (T := ⟨[.old 0], _, [], [], [9]⟩ :: ⟨[.old 3], _, [], [], [10]⟩ :: ⟨[.old 1], _, [], [], [11]⟩ :: ⟨[.old 2], _, [], [], [12]⟩ :: ⟨[.old 1], _, [], [], [13]⟩ :: ⟨[.op 4 0], _, [], [4], [14]⟩ :: ⟨[.old 2], _, [], [], [15]⟩ :: ⟨[.op 6 0], _, [], [4, 5, 6], [16]⟩ :: ⟨[.op 5 0, .op 7 0], _, [], List.range' 4 4, [17]⟩ :: ⟨[.op 8 0], _, [], List.range' 4 5, [18]⟩ :: ⟨[.op 0 0, .op 1 0, .op 2 0, .op 3 0, .op 9 0], _, [], List.range 10, [19]⟩ :: ⟨[.op 10 0], _, [], List.range 11, [20]⟩ :: ⟨[.op 11 0], _, [], List.range 12, [8]⟩ :: []) (F := [.op 12 0]) hst hb Zb
   (o_p rfl (Za rfl rfl u_0) <| o_p rfl (Zf Zbg rfl rfl u_0) <| o_p rfl (Za rfl rfl u_0) <| o_p rfl (Za rfl rfl u_0) <| o_p rfl (Za rfl rfl u_0) <| o_p rfl (Zq Zlk (Zc2 _ h2) rfl rfl (.cons u_0 .nil)) <| o_p rfl (Za rfl rfl u_0) <| o_p rfl (Zq Zlk (Zc2 _ h4) rfl rfl (.cons u_0 .nil)) <| o_p rfl (Zcb rfl rfl u_0 u_1 rfl) <| o_p rfl (Zcb rfl rfl u_0 c_i rfl) <| o_p rfl (Zr2 rfl rfl u_0 u_1 u_2 u_3 u_4) <| o_p rfl (Zbj rfl rfl u_0) <| o_p rfl (Zc rfl rfl (Opd.imp u_0 (fun _ _ h => Zsv h))) <| o_n) (by kernel_rfl) (fun a g hst hb => ?_)
 refine wp_ret ?_
 obtain rfl := Option.some.inj H0
 exact Z2 rfl hst hb (Zk (s := 8)) (hst.at 0 rfl)
end Go.CL
set_option linter.unusedVariables false
set_option linter.unusedSimpArgs false
set_option maxRecDepth 100000
namespace Go.CL
open Go Go.RowKit Go.Proofs
theorem Zjl (a0 : shelf_nodeT) (a1 : shelf_nodeT) {r : Bool} (h : Zg6 a0 a1 = some r) : FnOk Tryd.prog 86 [(Zz.pd a0), (Zz.pd a1)] (Zbb r) := by
 have H0 := h
 unfold Zg6 at H0
 clear h
 refine Zbr (N := 13) Tryd.func86 rfl rfl (Nat.le_of_ble_eq_true rfl) rfl rfl (fun a g0 hst hb => ?_)
 refine r_s (T := [⟨[], _, [], [], [4]⟩]) (F := [.old 0, .old 1]) hst hb Zb
   (o_p rfl (Zc rfl rfl c_b) <| o_n) (by kernel_rfl) (fun a g hst hb => ?_)
 obtain ⟨r1, h2, H0⟩ := Zh H0; obtain ⟨r3, h4, H0⟩ := Zh H0
 refine r_s (T := [⟨[.old 0], _, [], [], [5]⟩, ⟨[.op 0 0], _, [], [0], [6]⟩, ⟨[.op 1 0], _, [], [0, 1], [7]⟩, ⟨[.old 1], _, [], [], [8]⟩, ⟨[.op 3 0], _, [], [0, 1, 3], [9]⟩, ⟨[.op 4 0], _, [], [0, 1, 3, 4], [10]⟩, ⟨[.op 5 0], _, [], [0, 1, 3, 4, 5], [11]⟩, ⟨[.op 2 0, .op 6 0], _, [], List.range 7, [12]⟩, ⟨[.op 7 0], _, [], List.range 8, [4]⟩]) (F := [.op 8 0]) hst hb Zb
   (o_p rfl (Za rfl rfl u_0) <| o_p rfl (Zq Zlk (Zc2 _ h2) rfl rfl (.cons u_0 .nil)) <| o_p rfl (Zcb rfl rfl u_0 c_i rfl) <| o_p rfl (Za rfl rfl u_0) <| o_p rfl (Zq Zlk (Zc2 _ h4) rfl rfl (.cons u_0 .nil)) <| o_p rfl (Zcb rfl rfl u_0 c_i rfl) <| o_p rfl (Zu7 rfl rfl c_i u_0 rfl) <| o_p rfl (Zcj rfl rfl u_0 u_1) <| o_p rfl (Zc rfl rfl u_0) <| o_n) (by kernel_rfl) (fun a g hst hb => ?_)
 refine wp_ret ?_
 obtain rfl := Option.some.inj H0
 exact Z2 rfl hst hb (Zk (s := 4)) (hst.at 0 rfl)
end Go.CL
set_option linter.unusedVariables false
set_option linter.unusedSimpArgs false
set_option maxRecDepth 100000
namespace Go.CL
open Go Go.RowKit Go.Proofs
theorem Ziz (a0 : ByteArray) (a1 : Zd) (a2 : shelf_nodeT) (a3 : shelf_nodeT) {r : shelf_nodeT} (h : Zg1 a0 a1 a2 a3 = some r) : FnOk Tryd.prog 55 [(pStr a0), (Zi.pd a1), (Zz.pd a2), (Zz.pd a3)] (Zz.pd r) := by
 have H0 := h
 unfold Zg1 at H0
 clear h
 refine Zbr (N := 182) Tryd.func55 rfl rfl (Nat.le_of_ble_eq_true rfl) rfl rfl (fun a g0 hst hb => ?_)
 refine r_s (T := [⟨[.old 1], _, [], [], [5]⟩, ⟨[], [(8, (Zz.pd shelf_nodeT.nil))], [], [], [8]⟩]) (F := [.old 0, .old 2, .old 3, .op 0 0]) hst hb Zb
   (o_p rfl (Zbj rfl rfl u_0) <| o_p rfl (Zc rfl rfl (Opd.c (fun g => Zdt g))) <| o_n) (by kernel_rfl) (fun a g hst hb => ?_)
 refine wp_seq ?_
 refine wp_block ?_
 obtain ⟨r1, h2, H0⟩ := Zh H0; obtain ⟨n3, h4, H0⟩ := Zh H0; obtain ⟨r5, h6, H0⟩ := Zh H0; obtain ⟨n7, h8, H0⟩ := Zh H0; obtain ⟨r9, h10, H0⟩ := Zh H0
 refine r_s (T := ⟨[.old 2], _, [], [], [12]⟩ :: ⟨[.old 1], _, [], [], [13]⟩ :: ⟨[.op 0 0, .op 1 0], _, [], [0, 1], [14]⟩ :: ⟨[.op 2 0], _, [], [0, 1, 2], [15]⟩ :: ⟨[.op 3 0, .old 2], _, [], List.range 4, [16]⟩ :: ⟨[.op 3 0, .op 4 0], _, [], List.range 5, [17]⟩ :: ⟨[.op 3 0, .op 5 0], _, [], List.range 6, [18]⟩ :: ⟨[.op 3 0, .op 6 0], _, [], List.range 7, [19]⟩ :: ⟨[.op 3 0, .op 7 0], _, [], List.range 8, [20]⟩ :: ⟨[.op 3 0, .op 8 0], _, [], List.range 9, [21]⟩ :: ⟨[.op 3 0, .old 2], _, [], List.range 4, [22]⟩ :: ⟨[.op 3 0, .op 10 0], _, [], [0, 1, 2, 3, 10], [23]⟩ :: ⟨[.op 3 0, .op 11 0], _, [], [0, 1, 2, 3, 10, 11], [24]⟩ :: ⟨[.op 3 0, .op 12 0], _, [], [0, 1, 2, 3, 10, 11, 12], [25]⟩ :: ⟨[.op 3 0, .op 13 0], _, [], 0 :: 1 :: 2 :: 3 :: 4 :: 5 :: 6 :: 7 :: 8 :: 10 :: 11 :: 12 :: 13 :: [], [26]⟩ :: ⟨[.op 3 0, .op 14 0], _, [], 0 :: 1 :: 2 :: 3 :: 4 :: 5 :: 6 :: 7 :: 8 :: 10 :: 11 :: 12 :: 13 :: 14 :: [], [27]⟩ :: ⟨[.op 3 0, .op 15 0], _, [], 0 :: 1 :: 2 :: 3 :: 4 :: 5 :: 6 :: 7 :: 8 :: 10 :: 11 :: 12 :: 13 :: 14 :: 15 :: [], [28]⟩ :: ⟨[.op 3 0, .op 9 0, .op 16 0], _, [], List.range 17, [29]⟩ :: ⟨[.op 3 0, .op 17 0], _, [], List.range 18, [30]⟩ :: ⟨[.op 18 0], _, [], List.range 19, [11]⟩ :: []) (F := [.old 0, .old 1, .old 2, .old 3, .op 19 0]) hst hb Zb
   (o_p rfl (Za rfl rfl u_0) <| o_p rfl (Za rfl rfl u_0) <| o_p rfl (Zq Zu0 (Zjl _ _ h2) rfl rfl (.cons u_0 (.cons u_1 .nil))) <| o_p rfl (Za rfl rfl u_0) <| o_g (g_t rfl rfl rfl (fun hG => Za rfl rfl u_0)) <| o_g (g_t rfl rfl rfl (fun hG => Zn rfl rfl (Opd.imp (Opd.gd hG u_0) (fun _ _ h => Zp (Zbo h4 hG) h)) (fun _ _ ⟨_, _, _, e, _⟩ => ⟨_, e⟩))) <| o_g (g_t rfl rfl rfl (fun hG => Ze Zd8 rfl rfl (Opd.gd hG u_0))) <| o_g (g_t rfl rfl rfl (fun hG => Zf Zcp rfl rfl (Opd.gd hG u_0))) <| o_g (g_t rfl rfl rfl (fun hG => Zq Zlk (Zc2 _ (Zbo h6 hG)) rfl rfl (.cons (Opd.gd hG u_0) .nil))) <| o_g (g_t rfl rfl rfl (fun hG => Zcb rfl rfl (Opd.gd hG u_0) c_i rfl)) <| o_g (g_t rfl rfl rfl (fun hG => Za rfl rfl u_0)) <| o_g (g_t rfl rfl rfl (fun hG => Zn rfl rfl (Opd.imp (Opd.gd hG u_0) (fun _ _ h => Zp (Zbo h8 hG) h)) (fun _ _ ⟨_, _, _, e, _⟩ => ⟨_, e⟩))) <| o_g (g_t rfl rfl rfl (fun hG => Ze Zen rfl rfl (Opd.gd hG u_0))) <| o_g (g_t rfl rfl rfl (fun hG => Zf Zcp rfl rfl (Opd.gd hG u_0))) <| o_g (g_t rfl rfl rfl (fun hG => Zq Zlk (Zc2 _ (Zbo h10 hG)) rfl rfl (.cons (Opd.gd hG u_0) .nil))) <| o_g (g_t rfl rfl rfl (fun hG => Zcb rfl rfl (Opd.gd hG u_0) c_i rfl)) <| o_g (g_t rfl rfl rfl (fun hG => Zu7 rfl rfl c_i (Opd.gd hG u_0) rfl)) <| o_g (g_t rfl rfl rfl (fun hG => Zcy rfl rfl (Opd.gd hG u_0) (Opd.gd hG u_1))) <| o_p rfl (Zbh rfl rfl u_0 (fun hz => (Opd.gd hz u_1))) <| o_p rfl (Zc rfl rfl u_0) <| o_n) (by kernel_rfl) (fun a g hst hb => ?_)
 refine wp_cond_split (hst.bool 4 rfl) (fun hc11 => ?_) (fun hc11 => ?_)
 · replace H0 := Z1 hc11 H0
   obtain ⟨n12, h13, H0⟩ := Zh H0; obtain ⟨r14, h15, H0⟩ := Zh H0; obtain ⟨r16, h17, H0⟩ := Zh H0
   refine r_s (L := [(0, _), (2, _), (3, _), (5, _)]) (T := ⟨[.old 2], _, [], [], [31]⟩ :: ⟨[.op 0 0], _, [], [0], [32]⟩ :: ⟨[.op 1 0], _, [], [0, 1], [33]⟩ :: ⟨[.op 2 0], _, [], [0, 1, 2], [34]⟩ :: ⟨[.old 2], _, [], [], [35]⟩ :: ⟨[.op 4 0], _, [], [4], [36]⟩ :: ⟨[.op 5 0], _, [], [4, 5], [37]⟩ :: ⟨[.op 6 0], _, [], [4, 5, 6], [38]⟩ :: ⟨[.old 0], _, [], [], [39]⟩ :: ⟨[.old 3], _, [], [], [40]⟩ :: ⟨[.old 1], _, [], [], [41]⟩ :: ⟨[.old 2], _, [], [], [42]⟩ :: ⟨[.op 11 0], _, [], [11], [43]⟩ :: ⟨[.op 12 0], _, [], [11, 12], [44]⟩ :: ⟨[.op 13 0], _, [], [11, 12, 13], [45]⟩ :: ⟨[.op 8 0, .op 9 0, .op 10 0, .op 14 0], _, [], List.range' 8 7, [46]⟩ :: ⟨[.old 2], _, [], [], [47]⟩ :: ⟨[.op 16 0], _, [], [16], [48]⟩ :: ⟨[.op 17 0], _, [], [16, 17], [49]⟩ :: ⟨[.op 18 0], _, [], [16, 17, 18], [50]⟩ :: ⟨[.op 3 0, .op 7 0, .op 15 0, .op 19 0], _, [], List.range 20, [51]⟩ :: ⟨[.op 20 0], _, [], List.range 21, [8]⟩ :: []) (F := [.op 21 0]) (hst.pick [0, 1, 2, 3] rfl) hb Zb
     (o_p rfl (Za rfl rfl u_0) <| o_p rfl (Zn rfl rfl (Opd.imp u_0 (fun _ _ h => Zp h13 h)) (fun _ _ ⟨_, _, _, e, _⟩ => ⟨_, e⟩)) <| o_p rfl (Ze Zeq rfl rfl u_0) <| o_p rfl (Zf ty_9 rfl rfl u_0) <| o_p rfl (Za rfl rfl u_0) <| o_p rfl (Zn rfl rfl (Opd.imp u_0 (fun _ _ h => Zp h13 h)) (fun _ _ ⟨_, _, _, e, _⟩ => ⟨_, e⟩)) <| o_p rfl (Ze Zg8 rfl rfl u_0) <| o_p rfl (Zf Zbg rfl rfl u_0) <| o_p rfl (Za rfl rfl u_0) <| o_p rfl (Zf Zbg rfl rfl u_0) <| o_p rfl (Za rfl rfl u_0) <| o_p rfl (Za rfl rfl u_0) <| o_p rfl (Zn rfl rfl (Opd.imp u_0 (fun _ _ h => Zp h13 h)) (fun _ _ ⟨_, _, _, e, _⟩ => ⟨_, e⟩)) <| o_p rfl (Ze Zd8 rfl rfl u_0) <| o_p rfl (Zf Zcp rfl rfl u_0) <| o_p rfl (Zq Zjr (Zdk _ _ _ _ h15) rfl rfl (.cons u_0 (.cons u_1 (.cons u_2 (.cons u_3 .nil))))) <| o_p rfl (Za rfl rfl u_0) <| o_p rfl (Zn rfl rfl (Opd.imp u_0 (fun _ _ h => Zp h13 h)) (fun _ _ ⟨_, _, _, e, _⟩ => ⟨_, e⟩)) <| o_p rfl (Ze Zen rfl rfl u_0) <| o_p rfl (Zf Zcp rfl rfl u_0) <| o_p rfl (Zq Zjr (Zdk _ _ _ _ h17) rfl rfl (.cons u_0 (.cons u_1 (.cons u_2 (.cons u_3 .nil))))) <| o_p rfl (Zc rfl rfl u_0) <| o_n) (by kernel_rfl) (fun a g hst hb => ?_)
   refine wp_ret ?_
   refine Zy ?_
   refine Zs ?_
   obtain rfl := Option.some.inj H0
   exact Z2 rfl hst hb (Zk (s := 8)) (hst.at 0 rfl)
 · replace H0 := Z0 hc11 H0
   obtain ⟨r18, h19, H0⟩ := Zh H0
   refine r_s (L := [(0, _), (2, _), (3, _), (5, _)]) (T := [⟨[.old 2], _, [], [], [53]⟩, ⟨[.old 1], _, [], [], [54]⟩, ⟨[.op 0 0, .op 1 0], _, [], [0, 1], [55]⟩, ⟨[.op 2 0], _, [], [0, 1, 2], [52]⟩]) (F := [.old 0, .old 1, .old 2, .old 3, .op 3 0]) (hst.pick [0, 1, 2, 3] rfl) hb Zb
     (o_p rfl (Za rfl rfl u_0) <| o_p rfl (Za rfl rfl u_0) <| o_p rfl (Zq Zu0 (Zjl _ _ h19) rfl rfl (.cons u_0 (.cons u_1 .nil))) <| o_p rfl (Zc rfl rfl u_0) <| o_n) (by kernel_rfl) (fun a g hst hb => ?_)
   refine wp_cond_split (hst.bool 4 rfl) (fun hc20 => ?_) (fun hc20 => ?_)
   · replace H0 := Z1 hc20 H0
     obtain ⟨n21, h22, H0⟩ := Zh H0
     refine r_s (L := [(0, _), (2, _), (3, _), (5, _)]) (T := [⟨[.old 2], _, [], [], [56]⟩, ⟨[.op 0 0], _, [], [0], [57]⟩, ⟨[.op 1 0], _, [], [0, 1], [58]⟩, ⟨[.op 2 0], _, [], [0, 1, 2], [59]⟩, ⟨[.op 3 0], _, [], List.range 4, [9]⟩]) (F := [.old 0, .old 1, .old 2, .old 3, .op 4 0]) (hst.pick [0, 1, 2, 3] rfl) hb Zb
       (o_p rfl (Za rfl rfl u_0) <| o_p rfl (Zn rfl rfl (Opd.imp u_0 (fun _ _ h => Zp h22 h)) (fun _ _ ⟨_, _, _, e, _⟩ => ⟨_, e⟩)) <| o_p rfl (Ze Zd8 rfl rfl u_0) <| o_p rfl (Zf Zcp rfl rfl u_0) <| o_p rfl (Zc rfl rfl u_0) <| o_n) (by kernel_rfl) (fun a g hst hb => ?_)
     obtain ⟨n23, h24, H0⟩ := Zh H0; obtain ⟨r25, h26, H0⟩ := Zh H0; obtain ⟨r27, h28, H0⟩ := Zh H0; obtain ⟨r29, h30, H0⟩ := Zh H0
     refine r_s (T := ⟨[.old 4], _, [], [], [60]⟩ :: ⟨[.op 0 0], _, [], [0], [61]⟩ :: ⟨[.op 1 0], _, [], [0, 1], [62]⟩ :: ⟨[.op 2 0], _, [], [0, 1, 2], [63]⟩ :: ⟨[.old 4], _, [], [], [64]⟩ :: ⟨[.op 4 0], _, [], [4], [65]⟩ :: ⟨[.op 5 0], _, [], [4, 5], [66]⟩ :: ⟨[.op 6 0], _, [], [4, 5, 6], [67]⟩ :: ⟨[.old 0], _, [], [], [68]⟩ :: ⟨[.old 3], _, [], [], [69]⟩ :: ⟨[.old 1], _, [], [], [70]⟩ :: ⟨[.old 4], _, [], [], [71]⟩ :: ⟨[.op 11 0], _, [], [11], [72]⟩ :: ⟨[.op 12 0], _, [], [11, 12], [73]⟩ :: ⟨[.op 13 0], _, [], [11, 12, 13], [74]⟩ :: ⟨[.op 8 0, .op 9 0, .op 10 0, .op 14 0], _, [], List.range' 8 7, [75]⟩ :: ⟨[.old 2], _, [], [], [76]⟩ :: ⟨[.op 16 0], _, [], [16], [77]⟩ :: ⟨[.op 17 0], _, [], [16, 17], [78]⟩ :: ⟨[.op 18 0], _, [], [16, 17, 18], [79]⟩ :: ⟨[.old 2], _, [], [], [80]⟩ :: ⟨[.op 20 0], _, [], [20], [81]⟩ :: ⟨[.op 21 0], _, [], [20, 21], [82]⟩ :: ⟨[.op 22 0], _, [], [20, 21, 22], [83]⟩ :: ⟨[.old 4], _, [], [], [84]⟩ :: ⟨[.op 24 0], _, [], [24], [85]⟩ :: ⟨[.op 25 0], _, [], [24, 25], [86]⟩ :: ⟨[.op 26 0], _, [], [24, 25, 26], [87]⟩ :: ⟨[.old 2], _, [], [], [88]⟩ :: ⟨[.op 28 0], _, [], [28], [89]⟩ :: ⟨[.op 29 0], _, [], [28, 29], [90]⟩ :: ⟨[.op 30 0], _, [], [28, 29, 30], [91]⟩ :: ⟨[.op 19 0, .op 23 0, .op 27 0, .op 31 0], _, [], List.range' 8 24, [92]⟩ :: ⟨[.op 3 0, .op 7 0, .op 15 0, .op 32 0], _, [], List.range 33, [93]⟩ :: ⟨[.op 33 0], _, [], List.range 34, [8]⟩ :: []) (F := [.op 34 0]) hst hb Zb
       (o_p rfl (Za rfl rfl u_0) <| o_p rfl (Zn rfl rfl (Opd.imp u_0 (fun _ _ h => Zp h24 h)) (fun _ _ ⟨_, _, _, e, _⟩ => ⟨_, e⟩)) <| o_p rfl (Ze Zeq rfl rfl u_0) <| o_p rfl (Zf ty_9 rfl rfl u_0) <| o_p rfl (Za rfl rfl u_0) <| o_p rfl (Zn rfl rfl (Opd.imp u_0 (fun _ _ h => Zp h24 h)) (fun _ _ ⟨_, _, _, e, _⟩ => ⟨_, e⟩)) <| o_p rfl (Ze Zg8 rfl rfl u_0) <| o_p rfl (Zf Zbg rfl rfl u_0) <| o_p rfl (Za rfl rfl u_0) <| o_p rfl (Zf Zbg rfl rfl u_0) <| o_p rfl (Za rfl rfl u_0) <| o_p rfl (Za rfl rfl u_0) <| o_p rfl (Zn rfl rfl (Opd.imp u_0 (fun _ _ h => Zp h24 h)) (fun _ _ ⟨_, _, _, e, _⟩ => ⟨_, e⟩)) <| o_p rfl (Ze Zd8 rfl rfl u_0) <| o_p rfl (Zf Zcp rfl rfl u_0) <| o_p rfl (Zq Zjr (Zdk _ _ _ _ h26) rfl rfl (.cons u_0 (.cons u_1 (.cons u_2 (.cons u_3 .nil))))) <| o_p rfl (Za rfl rfl u_0) <| o_p rfl (Zn rfl rfl (Opd.imp u_0 (fun _ _ h => Zp h22 h)) (fun _ _ ⟨_, _, _, e, _⟩ => ⟨_, e⟩)) <| o_p rfl (Ze Zeq rfl rfl u_0) <| o_p rfl (Zf ty_9 rfl rfl u_0) <| o_p rfl (Za rfl rfl u_0) <| o_p rfl (Zn rfl rfl (Opd.imp u_0 (fun _ _ h => Zp h22 h)) (fun _ _ ⟨_, _, _, e, _⟩ => ⟨_, e⟩)) <| o_p rfl (Ze Zg8 rfl rfl u_0) <| o_p rfl (Zf Zbg rfl rfl u_0) <| o_p rfl (Za rfl rfl u_0) <| o_p rfl (Zn rfl rfl (Opd.imp u_0 (fun _ _ h => Zp h24 h)) (fun _ _ ⟨_, _, _, e, _⟩ => ⟨_, e⟩)) <| o_p rfl (Ze Zen rfl rfl u_0) <| o_p rfl (Zf Zcp rfl rfl u_0) <| o_p rfl (Za rfl rfl u_0) <| o_p rfl (Zn rfl rfl (Opd.imp u_0 (fun _ _ h => Zp h22 h)) (fun _ _ ⟨_, _, _, e, _⟩ => ⟨_, e⟩)) <| o_p rfl (Ze Zen rfl rfl u_0) <| o_p rfl (Zf Zcp rfl rfl u_0) <| o_p rfl (Zq Zjr (Zdk _ _ _ _ h28) rfl rfl (.cons u_0 (.cons u_1 (.cons u_2 (.cons u_3 .nil))))) <| o_p rfl (Zq Zjr (Zdk _ _ _ _ h30) rfl rfl (.cons u_0 (.cons u_1 (.cons u_2 (.cons u_3 .nil))))) <| o_p rfl (Zc rfl rfl u_0) <| o_n) (by kernel_rfl) (fun a g hst hb => ?_)
     refine wp_ret ?_
     refine Zy ?_
     refine Zs ?_
     obtain rfl := Option.some.inj H0
     exact Z2 rfl hst hb (Zk (s := 8)) (hst.at 0 rfl)
   · replace H0 := Z0 hc20 H0
     obtain ⟨r31, h32, H0⟩ := Zh H0; obtain ⟨n33, h34, H0⟩ := Zh H0; obtain ⟨r35, h36, H0⟩ := Zh H0; obtain ⟨n37, h38, H0⟩ := Zh H0; obtain ⟨r39, h40, H0⟩ := Zh H0
     refine r_s (L := [(0, _), (2, _), (3, _), (5, _)]) (T := ⟨[.old 1], _, [], [], [95]⟩ :: ⟨[.old 2], _, [], [], [96]⟩ :: ⟨[.op 0 0, .op 1 0], _, [], [0, 1], [97]⟩ :: ⟨[.op 2 0], _, [], [0, 1, 2], [98]⟩ :: ⟨[.op 3 0, .old 1], _, [], List.range 4, [99]⟩ :: ⟨[.op 3 0, .op 4 0], _, [], List.range 5, [100]⟩ :: ⟨[.op 3 0, .op 5 0], _, [], List.range 6, [101]⟩ :: ⟨[.op 3 0, .op 6 0], _, [], List.range 7, [102]⟩ :: ⟨[.op 3 0, .op 7 0], _, [], List.range 8, [103]⟩ :: ⟨[.op 3 0, .op 8 0], _, [], List.range 9, [104]⟩ :: ⟨[.op 3 0, .old 1], _, [], List.range 4, [105]⟩ :: ⟨[.op 3 0, .op 10 0], _, [], [0, 1, 2, 3, 10], [106]⟩ :: ⟨[.op 3 0, .op 11 0], _, [], [0, 1, 2, 3, 10, 11], [107]⟩ :: ⟨[.op 3 0, .op 12 0], _, [], [0, 1, 2, 3, 10, 11, 12], [108]⟩ :: ⟨[.op 3 0, .op 13 0], _, [], 0 :: 1 :: 2 :: 3 :: 4 :: 5 :: 6 :: 7 :: 8 :: 10 :: 11 :: 12 :: 13 :: [], [109]⟩ :: ⟨[.op 3 0, .op 14 0], _, [], 0 :: 1 :: 2 :: 3 :: 4 :: 5 :: 6 :: 7 :: 8 :: 10 :: 11 :: 12 :: 13 :: 14 :: [], [110]⟩ :: ⟨[.op 3 0, .op 15 0], _, [], 0 :: 1 :: 2 :: 3 :: 4 :: 5 :: 6 :: 7 :: 8 :: 10 :: 11 :: 12 :: 13 :: 14 :: 15 :: [], [111]⟩ :: ⟨[.op 3 0, .op 9 0, .op 16 0], _, [], List.range 17, [112]⟩ :: ⟨[.op 3 0, .op 17 0], _, [], List.range 18, [113]⟩ :: ⟨[.op 18 0], _, [], List.range 19, [94]⟩ :: []) (F := [.old 0, .old 1, .old 2, .old 3, .op 19 0]) (hst.pick [0, 1, 2, 3] rfl) hb Zb
       (o_p rfl (Za rfl rfl u_0) <| o_p rfl (Za rfl rfl u_0) <| o_p rfl (Zq Zu0 (Zjl _ _ h32) rfl rfl (.cons u_0 (.cons u_1 .nil))) <| o_p rfl (Za rfl rfl u_0) <| o_g (g_t rfl rfl rfl (fun hG => Za rfl rfl u_0)) <| o_g (g_t rfl rfl rfl (fun hG => Zn rfl rfl (Opd.imp (Opd.gd hG u_0) (fun _ _ h => Zp (Zbo h34 hG) h)) (fun _ _ ⟨_, _, _, e, _⟩ => ⟨_, e⟩))) <| o_g (g_t rfl rfl rfl (fun hG => Ze Zen rfl rfl (Opd.gd hG u_0))) <| o_g (g_t rfl rfl rfl (fun hG => Zf Zcp rfl rfl (Opd.gd hG u_0))) <| o_g (g_t rfl rfl rfl (fun hG => Zq Zlk (Zc2 _ (Zbo h36 hG)) rfl rfl (.cons (Opd.gd hG u_0) .nil))) <| o_g (g_t rfl rfl rfl (fun hG => Zcb rfl rfl (Opd.gd hG u_0) c_i rfl)) <| o_g (g_t rfl rfl rfl (fun hG => Za rfl rfl u_0)) <| o_g (g_t rfl rfl rfl (fun hG => Zn rfl rfl (Opd.imp (Opd.gd hG u_0) (fun _ _ h => Zp (Zbo h38 hG) h)) (fun _ _ ⟨_, _, _, e, _⟩ => ⟨_, e⟩))) <| o_g (g_t rfl rfl rfl (fun hG => Ze Zd8 rfl rfl (Opd.gd hG u_0))) <| o_g (g_t rfl rfl rfl (fun hG => Zf Zcp rfl rfl (Opd.gd hG u_0))) <| o_g (g_t rfl rfl rfl (fun hG => Zq Zlk (Zc2 _ (Zbo h40 hG)) rfl rfl (.cons (Opd.gd hG u_0) .nil))) <| o_g (g_t rfl rfl rfl (fun hG => Zcb rfl rfl (Opd.gd hG u_0) c_i rfl)) <| o_g (g_t rfl rfl rfl (fun hG => Zu7 rfl rfl c_i (Opd.gd hG u_0) rfl)) <| o_g (g_t rfl rfl rfl (fun hG => Zcy rfl rfl (Opd.gd hG u_0) (Opd.gd hG u_1))) <| o_p rfl (Zbh rfl rfl u_0 (fun hz => (Opd.gd hz u_1))) <| o_p rfl (Zc rfl rfl u_0) <| o_n) (by kernel_rfl) (fun a g hst hb => ?_)
     refine wp_cond_split (hst.bool 4 rfl) (fun hc41 => ?_) (fun hc41 => ?_)
     · replace H0 := Z1 hc41 H0
       obtain ⟨n42, h43, H0⟩ := Zh H0; obtain ⟨r44, h45, H0⟩ := Zh H0; obtain ⟨r46, h47, H0⟩ := Zh H0
       refine r_s (L := [(0, _), (2, _), (3, _), (5, _)]) (T := ⟨[.old 1], _, [], [], [114]⟩ :: ⟨[.op 0 0], _, [], [0], [115]⟩ :: ⟨[.op 1 0], _, [], [0, 1], [116]⟩ :: ⟨[.op 2 0], _, [], [0, 1, 2], [117]⟩ :: ⟨[.old 1], _, [], [], [118]⟩ :: ⟨[.op 4 0], _, [], [4], [119]⟩ :: ⟨[.op 5 0], _, [], [4, 5], [120]⟩ :: ⟨[.op 6 0], _, [], [4, 5, 6], [121]⟩ :: ⟨[.old 1], _, [], [], [122]⟩ :: ⟨[.op 8 0], _, [], [8], [123]⟩ :: ⟨[.op 9 0], _, [], [8, 9], [124]⟩ :: ⟨[.op 10 0], _, [], [8, 9, 10], [125]⟩ :: ⟨[.old 0], _, [], [], [126]⟩ :: ⟨[.old 3], _, [], [], [127]⟩ :: ⟨[.old 1], _, [], [], [128]⟩ :: ⟨[.op 14 0], _, [], [14], [129]⟩ :: ⟨[.op 15 0], _, [], [14, 15], [130]⟩ :: ⟨[.op 16 0], _, [], [14, 15, 16], [131]⟩ :: ⟨[.old 2], _, [], [], [132]⟩ :: ⟨[.op 12 0, .op 13 0, .op 17 0, .op 18 0], _, [], List.range' 12 7, [133]⟩ :: ⟨[.op 3 0, .op 7 0, .op 11 0, .op 19 0], _, [], List.range 20, [134]⟩ :: ⟨[.op 20 0], _, [], List.range 21, [8]⟩ :: []) (F := [.op 21 0]) (hst.pick [0, 1, 2, 3] rfl) hb Zb
         (o_p rfl (Za rfl rfl u_0) <| o_p rfl (Zn rfl rfl (Opd.imp u_0 (fun _ _ h => Zp h43 h)) (fun _ _ ⟨_, _, _, e, _⟩ => ⟨_, e⟩)) <| o_p rfl (Ze Zeq rfl rfl u_0) <| o_p rfl (Zf ty_9 rfl rfl u_0) <| o_p rfl (Za rfl rfl u_0) <| o_p rfl (Zn rfl rfl (Opd.imp u_0 (fun _ _ h => Zp h43 h)) (fun _ _ ⟨_, _, _, e, _⟩ => ⟨_, e⟩)) <| o_p rfl (Ze Zg8 rfl rfl u_0) <| o_p rfl (Zf Zbg rfl rfl u_0) <| o_p rfl (Za rfl rfl u_0) <| o_p rfl (Zn rfl rfl (Opd.imp u_0 (fun _ _ h => Zp h43 h)) (fun _ _ ⟨_, _, _, e, _⟩ => ⟨_, e⟩)) <| o_p rfl (Ze Zd8 rfl rfl u_0) <| o_p rfl (Zf Zcp rfl rfl u_0) <| o_p rfl (Za rfl rfl u_0) <| o_p rfl (Zf Zbg rfl rfl u_0) <| o_p rfl (Za rfl rfl u_0) <| o_p rfl (Zn rfl rfl (Opd.imp u_0 (fun _ _ h => Zp h43 h)) (fun _ _ ⟨_, _, _, e, _⟩ => ⟨_, e⟩)) <| o_p rfl (Ze Zen rfl rfl u_0) <| o_p rfl (Zf Zcp rfl rfl u_0) <| o_p rfl (Za rfl rfl u_0) <| o_p rfl (Zq Zjr (Zdk _ _ _ _ h45) rfl rfl (.cons u_0 (.cons u_1 (.cons u_2 (.cons u_3 .nil))))) <| o_p rfl (Zq Zjr (Zdk _ _ _ _ h47) rfl rfl (.cons u_0 (.cons u_1 (.cons u_2 (.cons u_3 .nil))))) <| o_p rfl (Zc rfl rfl u_0) <| o_n) (by kernel_rfl) (fun a g hst hb => ?_)
       refine wp_ret ?_
       refine Zy ?_
       refine Zs ?_
       obtain rfl := Option.some.inj H0
       exact Z2 rfl hst hb (Zk (s := 8)) (hst.at 0 rfl)
     · replace H0 := Z0 hc41 H0
       obtain ⟨r48, h49, H0⟩ := Zh H0
       refine r_s (L := [(0, _), (2, _), (3, _), (5, _)]) (T := [⟨[.old 1], _, [], [], [136]⟩, ⟨[.old 2], _, [], [], [137]⟩, ⟨[.op 0 0, .op 1 0], _, [], [0, 1], [138]⟩, ⟨[.op 2 0], _, [], [0, 1, 2], [135]⟩]) (F := [.old 0, .old 1, .old 2, .old 3, .op 3 0]) (hst.pick [0, 1, 2, 3] rfl) hb Zb
         (o_p rfl (Za rfl rfl u_0) <| o_p rfl (Za rfl rfl u_0) <| o_p rfl (Zq Zu0 (Zjl _ _ h49) rfl rfl (.cons u_0 (.cons u_1 .nil))) <| o_p rfl (Zc rfl rfl u_0) <| o_n) (by kernel_rfl) (fun a g hst hb => ?_)
       refine wp_cond_split (hst.bool 4 rfl) (fun hc50 => ?_) (fun hc50 => ?_)
       · replace H0 := Z1 hc50 H0
         obtain ⟨n51, h52, H0⟩ := Zh H0
         refine r_s (L := [(0, _), (2, _), (3, _), (5, _)]) (T := [⟨[.old 1], _, [], [], [139]⟩, ⟨[.op 0 0], _, [], [0], [140]⟩, ⟨[.op 1 0], _, [], [0, 1], [141]⟩, ⟨[.op 2 0], _, [], [0, 1, 2], [142]⟩, ⟨[.op 3 0], _, [], List.range 4, [10]⟩]) (F := [.old 0, .old 1, .old 2, .old 3, .op 4 0]) (hst.pick [0, 1, 2, 3] rfl) hb Zb
           (o_p rfl (Za rfl rfl u_0) <| o_p rfl (Zn rfl rfl (Opd.imp u_0 (fun _ _ h => Zp h52 h)) (fun _ _ ⟨_, _, _, e, _⟩ => ⟨_, e⟩)) <| o_p rfl (Ze Zen rfl rfl u_0) <| o_p rfl (Zf Zcp rfl rfl u_0) <| o_p rfl (Zc rfl rfl u_0) <| o_n) (by kernel_rfl) (fun a g hst hb => ?_)
         obtain ⟨n53, h54, H0⟩ := Zh H0; obtain ⟨r55, h56, H0⟩ := Zh H0; obtain ⟨r57, h58, H0⟩ := Zh H0; obtain ⟨r59, h60, H0⟩ := Zh H0
         refine r_s (T := ⟨[.old 4], _, [], [], [143]⟩ :: ⟨[.op 0 0], _, [], [0], [144]⟩ :: ⟨[.op 1 0], _, [], [0, 1], [145]⟩ :: ⟨[.op 2 0], _, [], [0, 1, 2], [146]⟩ :: ⟨[.old 4], _, [], [], [147]⟩ :: ⟨[.op 4 0], _, [], [4], [148]⟩ :: ⟨[.op 5 0], _, [], [4, 5], [149]⟩ :: ⟨[.op 6 0], _, [], [4, 5, 6], [150]⟩ :: ⟨[.old 1], _, [], [], [151]⟩ :: ⟨[.op 8 0], _, [], [8], [152]⟩ :: ⟨[.op 9 0], _, [], [8, 9], [153]⟩ :: ⟨[.op 10 0], _, [], [8, 9, 10], [154]⟩ :: ⟨[.old 1], _, [], [], [155]⟩ :: ⟨[.op 12 0], _, [], [12], [156]⟩ :: ⟨[.op 13 0], _, [], [12, 13], [157]⟩ :: ⟨[.op 14 0], _, [], [12, 13, 14], [158]⟩ :: ⟨[.old 1], _, [], [], [159]⟩ :: ⟨[.op 16 0], _, [], [16], [160]⟩ :: ⟨[.op 17 0], _, [], [16, 17], [161]⟩ :: ⟨[.op 18 0], _, [], [16, 17, 18], [162]⟩ :: ⟨[.old 4], _, [], [], [163]⟩ :: ⟨[.op 20 0], _, [], [20], [164]⟩ :: ⟨[.op 21 0], _, [], [20, 21], [165]⟩ :: ⟨[.op 22 0], _, [], [20, 21, 22], [166]⟩ :: ⟨[.op 11 0, .op 15 0, .op 19 0, .op 23 0], _, [], List.range' 8 16, [167]⟩ :: ⟨[.old 0], _, [], [], [168]⟩ :: ⟨[.old 3], _, [], [], [169]⟩ :: ⟨[.old 4], _, [], [], [170]⟩ :: ⟨[.op 27 0], _, [], [27], [171]⟩ :: ⟨[.op 28 0], _, [], [27, 28], [172]⟩ :: ⟨[.op 29 0], _, [], [27, 28, 29], [173]⟩ :: ⟨[.old 2], _, [], [], [174]⟩ :: ⟨[.op 25 0, .op 26 0, .op 30 0, .op 31 0], _, [], List.range' 8 24, [175]⟩ :: ⟨[.op 3 0, .op 7 0, .op 24 0, .op 32 0], _, [], List.range 33, [176]⟩ :: ⟨[.op 33 0], _, [], List.range 34, [8]⟩ :: []) (F := [.op 34 0]) hst hb Zb
           (o_p rfl (Za rfl rfl u_0) <| o_p rfl (Zn rfl rfl (Opd.imp u_0 (fun _ _ h => Zp h54 h)) (fun _ _ ⟨_, _, _, e, _⟩ => ⟨_, e⟩)) <| o_p rfl (Ze Zeq rfl rfl u_0) <| o_p rfl (Zf ty_9 rfl rfl u_0) <| o_p rfl (Za rfl rfl u_0) <| o_p rfl (Zn rfl rfl (Opd.imp u_0 (fun _ _ h => Zp h54 h)) (fun _ _ ⟨_, _, _, e, _⟩ => ⟨_, e⟩)) <| o_p rfl (Ze Zg8 rfl rfl u_0) <| o_p rfl (Zf Zbg rfl rfl u_0) <| o_p rfl (Za rfl rfl u_0) <| o_p rfl (Zn rfl rfl (Opd.imp u_0 (fun _ _ h => Zp h52 h)) (fun _ _ ⟨_, _, _, e, _⟩ => ⟨_, e⟩)) <| o_p rfl (Ze Zeq rfl rfl u_0) <| o_p rfl (Zf ty_9 rfl rfl u_0) <| o_p rfl (Za rfl rfl u_0) <| o_p rfl (Zn rfl rfl (Opd.imp u_0 (fun _ _ h => Zp h52 h)) (fun _ _ ⟨_, _, _, e, _⟩ => ⟨_, e⟩)) <| o_p rfl (Ze Zg8 rfl rfl u_0) <| o_p rfl (Zf Zbg rfl rfl u_0) <| o_p rfl (Za rfl rfl u_0) <| o_p rfl (Zn rfl rfl (Opd.imp u_0 (fun _ _ h => Zp h52 h)) (fun _ _ ⟨_, _, _, e, _⟩ => ⟨_, e⟩)) <| o_p rfl (Ze Zd8 rfl rfl u_0) <| o_p rfl (Zf Zcp rfl rfl u_0) <| o_p rfl (Za rfl rfl u_0) <| o_p rfl (Zn rfl rfl (Opd.imp u_0 (fun _ _ h => Zp h54 h)) (fun _ _ ⟨_, _, _, e, _⟩ => ⟨_, e⟩)) <| o_p rfl (Ze Zd8 rfl rfl u_0) <| o_p rfl (Zf Zcp rfl rfl u_0) <| o_p rfl (Zq Zjr (Zdk _ _ _ _ h56) rfl rfl (.cons u_0 (.cons u_1 (.cons u_2 (.cons u_3 .nil))))) <| o_p rfl (Za rfl rfl u_0) <| o_p rfl (Zf Zbg rfl rfl u_0) <| o_p rfl (Za rfl rfl u_0) <| o_p rfl (Zn rfl rfl (Opd.imp u_0 (fun _ _ h => Zp h54 h)) (fun _ _ ⟨_, _, _, e, _⟩ => ⟨_, e⟩)) <| o_p rfl (Ze Zen rfl rfl u_0) <| o_p rfl (Zf Zcp rfl rfl u_0) <| o_p rfl (Za rfl rfl u_0) <| o_p rfl (Zq Zjr (Zdk _ _ _ _ h58) rfl rfl (.cons u_0 (.cons u_1 (.cons u_2 (.cons u_3 .nil))))) <| o_p rfl (Zq Zjr (Zdk _ _ _ _ h60) rfl rfl (.cons u_0 (.cons u_1 (.cons u_2 (.cons u_3 .nil))))) <| o_p rfl (Zc rfl rfl u_0) <| o_n) (by kernel_rfl) (fun a g hst hb => ?_)
         refine wp_ret ?_
         refine Zy ?_
         refine Zs ?_
         obtain rfl := Option.some.inj H0
         exact Z2 rfl hst hb (Zk (s := 8)) (hst.at 0 rfl)
       · replace H0 := Z0 hc50 H0
         refine wp_skip ?_
         refine Zbt ?_
         refine Zt ?_
         obtain ⟨r61, h62, H0⟩ := Zh H0
         refine r_s (L := [(0, _), (2, _), (3, _), (5, _)]) (T := [⟨[.old 0], _, [], [], [177]⟩, ⟨[.old 3], _, [], [], [178]⟩, ⟨[.old 1], _, [], [], [179]⟩, ⟨[.old 2], _, [], [], [180]⟩, ⟨[.op 0 0, .op 1 0, .op 2 0, .op 3 0], _, [], List.range 4, [181]⟩, ⟨[.op 4 0], _, [], List.range 5, [8]⟩]) (F := [.op 5 0]) (hst.pick [0, 1, 2, 3] rfl) hb Zb
           (o_p rfl (Za rfl rfl u_0) <| o_p rfl (Zf Zbg rfl rfl u_0) <| o_p rfl (Za rfl rfl u_0) <| o_p rfl (Za rfl rfl u_0) <| o_p rfl (Zq Zjr (Zdk _ _ _ _ h62) rfl rfl (.cons u_0 (.cons u_1 (.cons u_2 (.cons u_3 .nil))))) <| o_p rfl (Zc rfl rfl u_0) <| o_n) (by kernel_rfl) (fun a g hst hb => ?_)
         refine wp_ret ?_
         obtain rfl := Option.some.inj H0
         exact Z2 rfl hst hb (Zk (s := 8)) (hst.at 0 rfl)
end Go.CL
set_option linter.unusedVariables false
set_option linter.unusedSimpArgs false
set_option maxRecDepth 100000
namespace Go.CL
open Go Go.RowKit Go.Proofs
theorem Zos (self : shelf_nodeT → ByteArray → Zd → Option (shelf_nodeT)) (hself : ∀ (a0 : shelf_nodeT) (a1 : ByteArray) (a2 : Zd) {r : shelf_nodeT}, self a0 a1 a2 = some r → FnOk Tryd.prog 38 [(Zz.pd a0), (pStr a1), (Zi.pd a2)] (Zz.pd r)) (a0 : shelf_nodeT) (a1 : ByteArray) (a2 : Zd) {r : shelf_nodeT} (h : Zhb self a0 a1 a2 = some r) : FnOk Tryd.prog 38 [(Zz.pd a0), (pStr a1), (Zi.pd a2)] (Zz.pd r) := by
 have H0 := h
 unfold Zhb at H0
 clear h
 refine Zbr (N := 78) Tryd.func38 rfl rfl (Nat.le_of_ble_eq_true rfl) rfl rfl (fun a g0 hst hb => ?_)
 refine r_s (T := [⟨[.old 2], _, [], [], [5]⟩, ⟨[], [(6, (Zz.pd shelf_nodeT.nil))], [], [], [6]⟩]) (F := [.old 0, .old 1, .op 0 0]) hst hb Zb
   (o_p rfl (Zbj rfl rfl u_0) <| o_p rfl (Zc rfl rfl (Opd.c (fun g => Zdt g))) <| o_n) (by kernel_rfl) (fun a g hst hb => ?_)
 refine wp_seq ?_
 refine wp_block ?_
 refine r_s (T := [⟨[.old 0], _, [], [], [8]⟩, ⟨[.op 0 0], _, [], [0], [9]⟩, ⟨[.op 1 0], _, [], [0, 1], [7]⟩]) (F := [.old 0, .old 1, .old 2, .op 2 0]) hst hb Zb
   (o_p rfl (Za rfl rfl u_0) <| o_p rfl (Znv Tryd.underlying25 rfl rfl u_0 (Zea _)) <| o_p rfl (Zc rfl rfl u_0) <| o_n) (by kernel_rfl) (fun a g hst hb => ?_)
 refine wp_cond_split (hst.bool 3 rfl) (fun hc1 => ?_) (fun hc1 => ?_)
 · replace H0 := Z1 hc1 H0
   obtain ⟨r2, h3, H0⟩ := Zh H0
   refine r_s (L := [(1, _), (5, _)]) (T := [⟨[.old 0], _, [], [], [10]⟩, ⟨[.old 1], _, [], [], [11]⟩, ⟨[.op 0 0, .op 1 0], [(12, (Zz.pd r2))], [], [0, 1], [12]⟩, ⟨[.op 2 0], _, [], [0, 1, 2], [6]⟩]) (F := [.op 3 0]) (hst.pick [1, 2] rfl) hb Zb
     (o_p rfl (Za rfl rfl u_0) <| o_p rfl (Zf Zbg rfl rfl u_0) <| o_p rfl (Zq Zjr (Zdk _ _ _ _ h3) rfl rfl (.cons u_0 (.cons u_1 (.cons (Opd.c (fun g => Zdt g)) (.cons (Opd.c (fun g => Zdt g)) .nil))))) <| o_p rfl (Zc rfl rfl u_0) <| o_n) (by kernel_rfl) (fun a g hst hb => ?_)
   refine wp_ret ?_
   refine Zy ?_
   refine Zs ?_
   obtain rfl := Option.some.inj H0
   exact Z2 rfl hst hb (Zk (s := 6)) (hst.at 0 rfl)
 · replace H0 := Z0 hc1 H0
   obtain ⟨n4, h5, H0⟩ := Zh H0
   refine r_s (L := [(0, _), (1, _), (5, _)]) (T := [⟨[.old 1], _, [], [], [14]⟩, ⟨[.old 0], _, [], [], [15]⟩, ⟨[.op 1 0], _, [], [1], [16]⟩, ⟨[.op 2 0], _, [], [1, 2], [17]⟩, ⟨[.op 3 0], _, [], [1, 2, 3], [18]⟩, ⟨[.op 0 0, .op 4 0], _, [], List.range 5, [19]⟩, ⟨[.op 5 0], _, [], List.range 6, [13]⟩]) (F := [.old 0, .old 1, .old 2, .op 6 0]) (hst.pick [0, 1, 2] rfl) hb Zb
     (o_p rfl (Za rfl rfl u_0) <| o_p rfl (Za rfl rfl u_0) <| o_p rfl (Zn rfl rfl (Opd.imp u_0 (fun _ _ h => Zp h5 h)) (fun _ _ ⟨_, _, _, e, _⟩ => ⟨_, e⟩)) <| o_p rfl (Ze Zeq rfl rfl u_0) <| o_p rfl (Zf ty_9 rfl rfl u_0) <| o_p rfl (Zly rfl rfl u_0 u_1) <| o_p rfl (Zc rfl rfl u_0) <| o_n) (by kernel_rfl) (fun a g hst hb => ?_)
   refine wp_cond_split (hst.bool 3 rfl) (fun hc6 => ?_) (fun hc6 => ?_)
   · replace H0 := Z1 hc6 H0
     obtain ⟨r7, h8, H0⟩ := Zh H0; obtain ⟨r9, h10, H0⟩ := Zh H0
     refine r_s (L := [(0, _), (1, _), (5, _)]) (T := ⟨[.old 0], _, [], [], [20]⟩ :: ⟨[.op 0 0], _, [], [0], [21]⟩ :: ⟨[.op 1 0], _, [], [0, 1], [22]⟩ :: ⟨[.op 2 0], _, [], [0, 1, 2], [23]⟩ :: ⟨[.old 0], _, [], [], [24]⟩ :: ⟨[.op 4 0], _, [], [4], [25]⟩ :: ⟨[.op 5 0], _, [], [4, 5], [26]⟩ :: ⟨[.op 6 0], _, [], [4, 5, 6], [27]⟩ :: ⟨[.old 0], _, [], [], [28]⟩ :: ⟨[.op 8 0], _, [], [8], [29]⟩ :: ⟨[.op 9 0], _, [], [8, 9], [30]⟩ :: ⟨[.op 10 0], _, [], [8, 9, 10], [31]⟩ :: ⟨[.old 1], _, [], [], [32]⟩ :: ⟨[.old 2], _, [], [], [33]⟩ :: ⟨[.op 11 0, .op 12 0, .op 13 0], _, [], List.range' 8 6, [34]⟩ :: ⟨[.old 0], _, [], [], [35]⟩ :: ⟨[.op 15 0], _, [], [15], [36]⟩ :: ⟨[.op 16 0], _, [], [15, 16], [37]⟩ :: ⟨[.op 17 0], _, [], [15, 16, 17], [38]⟩ :: ⟨[.op 3 0, .op 7 0, .op 14 0, .op 18 0], _, [], List.range 19, [39]⟩ :: ⟨[.op 19 0], _, [], List.range 20, [6]⟩ :: []) (F := [.op 20 0]) (hst.pick [0, 1, 2] rfl) hb Zb
       (o_p rfl (Za rfl rfl u_0) <| o_p rfl (Zn rfl rfl (Opd.imp u_0 (fun _ _ h => Zp h5 h)) (fun _ _ ⟨_, _, _, e, _⟩ => ⟨_, e⟩)) <| o_p rfl (Ze Zeq rfl rfl u_0) <| o_p rfl (Zf ty_9 rfl rfl u_0) <| o_p rfl (Za rfl rfl u_0) <| o_p rfl (Zn rfl rfl (Opd.imp u_0 (fun _ _ h => Zp h5 h)) (fun _ _ ⟨_, _, _, e, _⟩ => ⟨_, e⟩)) <| o_p rfl (Ze Zg8 rfl rfl u_0) <| o_p rfl (Zf Zbg rfl rfl u_0) <| o_p rfl (Za rfl rfl u_0) <| o_p rfl (Zn rfl rfl (Opd.imp u_0 (fun _ _ h => Zp h5 h)) (fun _ _ ⟨_, _, _, e, _⟩ => ⟨_, e⟩)) <| o_p rfl (Ze Zd8 rfl rfl u_0) <| o_p rfl (Zf Zcp rfl rfl u_0) <| o_p rfl (Za rfl rfl u_0) <| o_p rfl (Zf Zbg rfl rfl u_0) <| o_p rfl (Zq Zyt (hself _ _ _ h8) rfl rfl (.cons u_0 (.cons u_1 (.cons u_2 .nil)))) <| o_p rfl (Za rfl rfl u_0) <| o_p rfl (Zn rfl rfl (Opd.imp u_0 (fun _ _ h => Zp h5 h)) (fun _ _ ⟨_, _, _, e, _⟩ => ⟨_, e⟩)) <| o_p rfl (Ze Zen rfl rfl u_0) <| o_p rfl (Zf Zcp rfl rfl u_0) <| o_p rfl (Zq Zrp (Ziz _ _ _ _ h10) rfl rfl (.cons u_0 (.cons u_1 (.cons u_2 (.cons u_3 .nil))))) <| o_p rfl (Zc rfl rfl u_0) <| o_n) (by kernel_rfl) (fun a g hst hb => ?_)
     refine wp_ret ?_
     refine Zy ?_
     refine Zs ?_
     obtain rfl := Option.some.inj H0
     exact Z2 rfl hst hb (Zk (s := 6)) (hst.at 0 rfl)
   · replace H0 := Z0 hc6 H0
     refine r_s (L := [(0, _), (1, _), (5, _)]) (T := [⟨[.old 1], _, [], [], [41]⟩, ⟨[.old 0], _, [], [], [42]⟩, ⟨[.op 1 0], _, [], [1], [43]⟩, ⟨[.op 2 0], _, [], [1, 2], [44]⟩, ⟨[.op 3 0], _, [], [1, 2, 3], [45]⟩, ⟨[.op 0 0, .op 4 0], _, [], List.range 5, [46]⟩, ⟨[.op 5 0], _, [], List.range 6, [40]⟩]) (F := [.old 0, .old 1, .old 2, .op 6 0]) (hst.pick [0, 1, 2] rfl) hb Zb
       (o_p rfl (Za rfl rfl u_0) <| o_p rfl (Za rfl rfl u_0) <| o_p rfl (Zn rfl rfl (Opd.imp u_0 (fun _ _ h => Zp h5 h)) (fun _ _ ⟨_, _, _, e, _⟩ => ⟨_, e⟩)) <| o_p rfl (Ze Zeq rfl rfl u_0) <| o_p rfl (Zf ty_9 rfl rfl u_0) <| o_p rfl (Zsi rfl rfl u_0 u_1) <| o_p rfl (Zc rfl rfl u_0) <| o_n) (by kernel_rfl) (fun a g hst hb => ?_)
     refine wp_cond_split (hst.bool 3 rfl) (fun hc11 => ?_) (fun hc11 => ?_)
     · replace H0 := Z1 hc11 H0
       obtain ⟨r12, h13, H0⟩ := Zh H0; obtain ⟨r14, h15, H0⟩ := Zh H0
       refine r_s (L := [(0, _), (1, _), (5, _)]) (T := ⟨[.old 0], _, [], [], [47]⟩ :: ⟨[.op 0 0], _, [], [0], [48]⟩ :: ⟨[.op 1 0], _, [], [0, 1], [49]⟩ :: ⟨[.op 2 0], _, [], [0, 1, 2], [50]⟩ :: ⟨[.old 0], _, [], [], [51]⟩ :: ⟨[.op 4 0], _, [], [4], [52]⟩ :: ⟨[.op 5 0], _, [], [4, 5], [53]⟩ :: ⟨[.op 6 0], _, [], [4, 5, 6], [54]⟩ :: ⟨[.old 0], _, [], [], [55]⟩ :: ⟨[.op 8 0], _, [], [8], [56]⟩ :: ⟨[.op 9 0], _, [], [8, 9], [57]⟩ :: ⟨[.op 10 0], _, [], [8, 9, 10], [58]⟩ :: ⟨[.old 0], _, [], [], [59]⟩ :: ⟨[.op 12 0], _, [], [12], [60]⟩ :: ⟨[.op 13 0], _, [], [12, 13], [61]⟩ :: ⟨[.op 14 0], _, [], [12, 13, 14], [62]⟩ :: ⟨[.old 1], _, [], [], [63]⟩ :: ⟨[.old 2], _, [], [], [64]⟩ :: ⟨[.op 15 0, .op 16 0, .op 17 0], _, [], List.range' 12 6, [65]⟩ :: ⟨[.op 3 0, .op 7 0, .op 11 0, .op 18 0], _, [], List.range 19, [66]⟩ :: ⟨[.op 19 0], _, [], List.range 20, [6]⟩ :: []) (F := [.op 20 0]) (hst.pick [0, 1, 2] rfl) hb Zb
         (o_p rfl (Za rfl rfl u_0) <| o_p rfl (Zn rfl rfl (Opd.imp u_0 (fun _ _ h => Zp h5 h)) (fun _ _ ⟨_, _, _, e, _⟩ => ⟨_, e⟩)) <| o_p rfl (Ze Zeq rfl rfl u_0) <| o_p rfl (Zf ty_9 rfl rfl u_0) <| o_p rfl (Za rfl rfl u_0) <| o_p rfl (Zn rfl rfl (Opd.imp u_0 (fun _ _ h => Zp h5 h)) (fun _ _ ⟨_, _, _, e, _⟩ => ⟨_, e⟩)) <| o_p rfl (Ze Zg8 rfl rfl u_0) <| o_p rfl (Zf Zbg rfl rfl u_0) <| o_p rfl (Za rfl rfl u_0) <| o_p rfl (Zn rfl rfl (Opd.imp u_0 (fun _ _ h => Zp h5 h)) (fun _ _ ⟨_, _, _, e, _⟩ => ⟨_, e⟩)) <| o_p rfl (Ze Zd8 rfl rfl u_0) <| o_p rfl (Zf Zcp rfl rfl u_0) <| o_p rfl (Za rfl rfl u_0) <| o_p rfl (Zn rfl rfl (Opd.imp u_0 (fun _ _ h => Zp h5 h)) (fun _ _ ⟨_, _, _, e, _⟩ => ⟨_, e⟩)) <| o_p rfl (Ze Zen rfl rfl u_0) <| o_p rfl (Zf Zcp rfl rfl u_0) <| o_p rfl (Za rfl rfl u_0) <| o_p rfl (Zf Zbg rfl rfl u_0) <| o_p rfl (Zq Zyt (hself _ _ _ h13) rfl rfl (.cons u_0 (.cons u_1 (.cons u_2 .nil)))) <| o_p rfl (Zq Zrp (Ziz _ _ _ _ h15) rfl rfl (.cons u_0 (.cons u_1 (.cons u_2 (.cons u_3 .nil))))) <| o_p rfl (Zc rfl rfl u_0) <| o_n) (by kernel_rfl) (fun a g hst hb => ?_)
       refine wp_ret ?_
       refine Zy ?_
       refine Zs ?_
       obtain rfl := Option.some.inj H0
       exact Z2 rfl hst hb (Zk (s := 6)) (hst.at 0 rfl)
     · replace H0 := Z0 hc11 H0
       refine wp_skip ?_
       refine Zbt ?_
       refine Zt ?_
       obtain ⟨r16, h17, H0⟩ := Zh H0
       refine r_s (L := [(0, _), (1, _), (5, _)]) (T := ⟨[.old 1], _, [], [], [67]⟩ :: ⟨[.old 2], _, [], [], [68]⟩ :: ⟨[.old 0], _, [], [], [69]⟩ :: ⟨[.op 2 0], _, [], [2], [70]⟩ :: ⟨[.op 3 0], _, [], [2, 3], [71]⟩ :: ⟨[.op 4 0], _, [], [2, 3, 4], [72]⟩ :: ⟨[.old 0], _, [], [], [73]⟩ :: ⟨[.op 6 0], _, [], [6], [74]⟩ :: ⟨[.op 7 0], _, [], [6, 7], [75]⟩ :: ⟨[.op 8 0], _, [], [6, 7, 8], [76]⟩ :: ⟨[.op 0 0, .op 1 0, .op 5 0, .op 9 0], _, [], List.range 10, [77]⟩ :: ⟨[.op 10 0], _, [], List.range 11, [6]⟩ :: []) (F := [.op 11 0]) (hst.pick [0, 1, 2] rfl) hb Zb
         (o_p rfl (Za rfl rfl u_0) <| o_p rfl (Zf Zbg rfl rfl u_0) <| o_p rfl (Za rfl rfl u_0) <| o_p rfl (Zn rfl rfl (Opd.imp u_0 (fun _ _ h => Zp h5 h)) (fun _ _ ⟨_, _, _, e, _⟩ => ⟨_, e⟩)) <| o_p rfl (Ze Zd8 rfl rfl u_0) <| o_p rfl (Zf Zcp rfl rfl u_0) <| o_p rfl (Za rfl rfl u_0) <| o_p rfl (Zn rfl rfl (Opd.imp u_0 (fun _ _ h => Zp h5 h)) (fun _ _ ⟨_, _, _, e, _⟩ => ⟨_, e⟩)) <| o_p rfl (Ze Zen rfl rfl u_0) <| o_p rfl (Zf Zcp rfl rfl u_0) <| o_p rfl (Zq Zjr (Zdk _ _ _ _ h17) rfl rfl (.cons u_0 (.cons u_1 (.cons u_2 (.cons u_3 .nil))))) <| o_p rfl (Zc rfl rfl u_0) <| o_n) (by kernel_rfl) (fun a g hst hb => ?_)
       refine wp_ret ?_
       obtain rfl := Option.some.inj H0
       exact Z2 rfl hst hb (Zk (s := 6)) (hst.at 0 rfl)
theorem Zk8 : ∀ (n : Nat) (a0 : shelf_nodeT) (a1 : ByteArray) (a2 : Zd) {r : shelf_nodeT}, Zek n a0 a1 a2 = some r → FnOk Tryd.prog 38 [(Zz.pd a0), (pStr a1), (Zi.pd a2)] (Zz.pd r)
 | 0, _, _, _, _, h => by simp [Zek] at h
 | n + 1, a0, a1, a2, _, h => Zos (Zek n) (fun a0 a1 a2 r h => Zk8 n a0 a1 a2 h) a0 a1 a2 h
theorem Zqo (a0 : shelf_nodeT) (a1 : ByteArray) (a2 : Zd) {r : shelf_nodeT} (h : Zlb a0 a1 a2 = some r) : FnOk Tryd.prog 38 [(Zz.pd a0), (pStr a1), (Zi.pd a2)] (Zz.pd r) := Zk8 _ a0 a1 a2 h
end Go.CL
set_option linter.unusedVariables false
set_option linter.unusedSimpArgs false
set_option maxRecDepth 100000
namespace Go.CL
open Go Go.RowKit Go.Proofs
theorem Zlz (a0 : Zm) (a1 : ByteArray) (a2 : Zd) {r : Zm × Int} (h : Zdm a0 a1 a2 = some r) : FnOk Tryd.prog 19 [(Zw.pd a0), (pStr a1), (Zi.pd a2)] (pTup [(Zw.pd r.1), (pInt .i64 r.2)]) := by
 have H0 := h
 unfold Zdm at H0
 clear h
 refine Zbr (N := 50) Tryd.func19 rfl rfl (Nat.le_of_ble_eq_true rfl) rfl rfl (fun a g0 hst hb => ?_)
 refine r_s (T := [⟨[.old 0], _, [], [], [3]⟩, ⟨[.old 2], _, [], [], [5]⟩, ⟨[], [(6, (pBox Zw 6 (default : Zm)))], [7], [], [6]⟩, ⟨[], _, [], [], [7]⟩]) (F := [.old 1, .op 0 0, .op 1 0, .op 2 0]) hst hb Zb
   (o_p rfl (Zbj rfl rfl u_0) <| o_p rfl (Zbj rfl rfl u_0) <| o_p rfl (Zbc (zs := [.pointer none, .int .i64 0]) (by kernel_rfl) (fun g => Zct g) rfl rfl) <| o_p rfl (Zc rfl rfl c_i) <| o_n) (by kernel_rfl) (fun a g hst hb => ?_)
 refine wp_seq ?_
 refine r_s (T := [⟨[.old 0], _, [], [], [11]⟩, ⟨[.op 0 0], _, [], [0], [12]⟩, ⟨[.op 1 0], _, [], [0, 1], [13]⟩, ⟨[.op 2 0, .old 0], _, [], [0, 1, 2], [14]⟩, ⟨[.op 2 0, .op 3 0], _, [], List.range 4, [15]⟩, ⟨[.op 2 0, .op 4 0], _, [], List.range 5, [16]⟩, ⟨[.op 2 0, .op 5 0], _, [], List.range 6, [17]⟩]) (F := [.old 0, .old 1, .old 2, .old 3, .op 6 0]) hst hb Zb
   (o_p rfl (Za rfl rfl u_0) <| o_p rfl (Zlu rfl rfl u_0 c_s) <| o_p rfl (Za rfl rfl u_0) <| o_g (g_f rfl rfl rfl (fun hG => Za rfl rfl u_0)) <| o_g (g_f rfl rfl rfl (fun hG => Zfk Tryd.underlying9 rfl rfl (Opd.gd hG u_0))) <| o_g (g_f rfl rfl rfl (fun hG => Zcj rfl rfl (Opd.gd hG u_0) c_i)) <| o_p rfl (Zby rfl rfl u_0 (fun hz => (Opd.gd (bNF hz) u_1))) <| o_n) (by kernel_rfl) (fun a g hst hb => ?_)
 refine wp_cond_split (hst.bool 4 rfl) (fun hc1 => ?_) (fun hc1 => ?_)
 · replace H0 := Z1 hc1 H0
   refine r_s (L := [(3, _), (6, _)]) (T := [⟨[.old 0], _, [], [], [18]⟩, ⟨[.op 0 0, .old 1], _, [7], [0], [6]⟩, ⟨[], _, [], [0, 1], [7]⟩]) (F := [.op 1 0, .op 2 0]) (hst.pick [1, 3] rfl) hb Zb
     (o_p rfl (Zf Zbl rfl rfl u_0) <| o_p rfl (Z6 Zbl rfl rfl u_1 u_0) <| o_p rfl (Zc rfl rfl c_i) <| o_n) (by kernel_rfl) (fun a g hst hb => ?_)
   refine wp_ret ?_
   refine Zs ?_
   obtain rfl := Option.some.inj H0
   obtain ⟨u0, hu0, hq0⟩ := Zbf (P := Tryd.prog) Zbl (hst.at 0 rfl)
   exact Zem rfl hst hb hu0 (Zk (s := 7)) (Zdf hq0 (hst.at 1 rfl))
 · replace H0 := Z0 hc1 H0
   refine wp_skip ?_
   refine Zt ?_
   refine wp_seq ?_
   obtain ⟨r2, h3, H0⟩ := Zh H0
   refine r_s (L := [(1, _), (3, _), (5, _), (6, _)]) (T := [⟨[.old 2], _, [], [], [19]⟩, ⟨[.op 0 0], _, [], [0], [20]⟩, ⟨[.op 1 0], _, [], [0, 1], [8]⟩]) (F := [.old 0, .old 1, .old 2, .old 3, .op 2 0]) (hst.pick [0, 1, 2, 3] rfl) hb Zb
     (o_p rfl (Zf Zbg rfl rfl u_0) <| o_p rfl (Zq Zuy (Zkn _ h3) rfl rfl (.cons u_0 .nil)) <| o_p rfl (Zc rfl rfl u_0) <| o_n) (by kernel_rfl) (fun a g hst hb => ?_)
   refine r_s (T := [⟨[.old 4], _, [], [], [21]⟩, ⟨[.op 0 0], _, [], [0], [22]⟩]) (F := [.old 0, .old 1, .old 2, .old 3, .old 4, .op 1 0]) hst hb Zb
     (o_p rfl (Za rfl rfl u_0) <| o_p rfl (Zfr rfl rfl u_0 c_i) <| o_n) (by kernel_rfl) (fun a g hst hb => ?_)
   refine wp_cond_split (hst.bool 5 rfl) (fun hc4 => ?_) (fun hc4 => ?_)
   · replace H0 := Z1 hc4 H0
     refine r_s (L := [(3, _), (6, _), (8, _)]) (T := [⟨[.old 0], _, [], [], [23]⟩, ⟨[.old 2], _, [], [], [24]⟩, ⟨[.op 0 0, .old 1], _, [7], [0], [6]⟩, ⟨[.op 1 0], _, [], [0, 1, 2], [7]⟩]) (F := [.op 2 0, .op 3 0]) (hst.pick [1, 3, 4] rfl) hb Zb
       (o_p rfl (Zf Zbl rfl rfl u_0) <| o_p rfl (Za rfl rfl u_0) <| o_p rfl (Z6 Zbl rfl rfl u_1 u_0) <| o_p rfl (Zc rfl rfl u_0) <| o_n) (by kernel_rfl) (fun a g hst hb => ?_)
     refine wp_ret ?_
     refine Zs ?_
     obtain rfl := Option.some.inj H0
     obtain ⟨u0, hu0, hq0⟩ := Zbf (P := Tryd.prog) Zbl (hst.at 0 rfl)
     exact Zem rfl hst hb hu0 (Zk (s := 7)) (Zdf hq0 (hst.at 1 rfl))
   · replace H0 := Z0 hc4 H0
     refine wp_skip ?_
     refine Zt ?_
     refine wp_seq ?_
     obtain ⟨r5, h6, H0⟩ := Zh H0
     refine r_s (L := [(1, _), (3, _), (5, _), (6, _)]) (T := [⟨[.old 1], _, [], [], [26]⟩, ⟨[.old 0], _, [], [], [27]⟩, ⟨[.op 0 0, .op 1 0], _, [], [0, 1], [28]⟩, ⟨[.op 2 0], _, [], [0, 1, 2], [25]⟩, ⟨[.op 3 0], _, [], List.range 4, [29]⟩, ⟨[.op 3 0], _, [], List.range 4, [30]⟩, ⟨[], [(9, (pBox Zi 9 (default : Zd)))], [10], [], [9]⟩, ⟨[.op 4 0, .op 6 0], _, [10], [0, 1, 2, 3, 4, 6], [9]⟩, ⟨[.op 5 0], _, [], List.range 8, [10]⟩]) (F := [.old 0, .old 1, .old 2, .old 3, .op 8 0]) (hst.pick [0, 1, 2, 3] rfl) hb Zb
       (o_p rfl (Zf Zbl rfl rfl u_0) <| o_p rfl (Za rfl rfl u_0) <| o_p rfl (Zq Zze (Zjf _ _ h6) rfl rfl (.cons u_0 (.cons u_1 .nil))) <| o_p rfl (Za rfl rfl u_0) <| o_p rfl (Z5 rfl rfl u_0 rfl) <| o_p rfl (Z5 rfl rfl u_0 rfl) <| o_p rfl (Zbc (zs := [.int .i64 0, .int .i64 0, .int .i64 0, .int .i64 0, .float .f64 0, .int .i64 0, .string ByteArray.empty, .slice none 0 0]) (by kernel_rfl) (fun g => Zcg g) rfl rfl) <| o_p rfl (Zb0 Zbg rfl rfl u_1 u_0) <| o_p rfl (Zc rfl rfl u_0) <| o_n) (by kernel_rfl) (fun a g hst hb => ?_)
     obtain ⟨r7, h8, H0⟩ := Zh H0
     refine r_s (T := [⟨[.old 4], _, [], [], [31]⟩, ⟨[.op 0 0], _, [], [0], [32]⟩, ⟨[.op 1 0], _, [], [0, 1], [33]⟩, ⟨[.op 2 0, .old 1], _, [], [0, 1, 2], [34]⟩, ⟨[.op 2 0, .op 3 0], _, [], List.range 4, [35]⟩, ⟨[.op 2 0, .old 1], _, [], [0, 1, 2], [36]⟩, ⟨[.op 2 0, .op 5 0], _, [], [0, 1, 2, 5], [37]⟩, ⟨[.op 2 0, .op 4 0, .op 6 0], _, [], List.range 7, [38]⟩, ⟨[.op 2 0, .op 7 0], _, [], List.range 8, [39]⟩]) (F := [.old 0, .old 1, .old 2, .old 3, .op 8 0]) hst hb Zb
       (o_p rfl (Za rfl rfl u_0) <| o_p rfl (Zcv rfl rfl u_0) <| o_p rfl (Za rfl rfl u_0) <| o_g (g_t rfl rfl rfl (fun hG => Zf Zbl rfl rfl u_0)) <| o_g (g_t rfl rfl rfl (fun hG => Zq en_9 (Zgc _ (Zbo h8 hG)) rfl rfl (.cons (Opd.gd hG u_0) .nil))) <| o_g (g_t rfl rfl rfl (fun hG => Ze Zqb rfl rfl u_0)) <| o_g (g_t rfl rfl rfl (fun hG => Zf ty_3 rfl rfl (Opd.gd hG u_0))) <| o_g (g_t rfl rfl rfl (fun hG => Zrw rfl rfl (Opd.gd hG u_0) (Opd.gd hG u_1))) <| o_p rfl (Zbh rfl rfl u_0 (fun hz => (Opd.gd hz u_1))) <| o_n) (by kernel_rfl) (fun a g hst hb => ?_)
     refine wp_cond_split (hst.bool 4 rfl) (fun hc9 => ?_) (fun hc9 => ?_)
     · replace H0 := Z1 hc9 H0
       refine r_s (L := [(3, _), (6, _)]) (T := [⟨[.old 0], _, [], [], [40]⟩, ⟨[.op 0 0, .old 1], _, [7], [0], [6]⟩, ⟨[], _, [], [0, 1], [7]⟩]) (F := [.op 1 0, .op 2 0]) (hst.pick [1, 3] rfl) hb Zb
         (o_p rfl (Zf Zbl rfl rfl u_0) <| o_p rfl (Z6 Zbl rfl rfl u_1 u_0) <| o_p rfl (Zc rfl rfl c_i) <| o_n) (by kernel_rfl) (fun a g hst hb => ?_)
       refine wp_ret ?_
       refine Zs ?_
       obtain rfl := Option.some.inj H0
       obtain ⟨u0, hu0, hq0⟩ := Zbf (P := Tryd.prog) Zbl (hst.at 0 rfl)
       exact Zem rfl hst hb hu0 (Zk (s := 7)) (Zdf hq0 (hst.at 1 rfl))
     · replace H0 := Z0 hc9 H0
       refine wp_skip ?_
       refine Zt ?_
       obtain ⟨r10, h11, H0⟩ := Zh H0; obtain ⟨r12, h13, H0⟩ := Zh H0
       refine r_s (L := [(1, _), (3, _), (5, _), (6, _)]) (T := [⟨[.old 1], _, [], [], [41]⟩, ⟨[.op 0 0], _, [], [0], [42]⟩, ⟨[.old 0], _, [], [], [43]⟩, ⟨[.old 2], _, [], [], [44]⟩, ⟨[.op 3 0], _, [], [3], [45]⟩, ⟨[.op 1 0, .op 2 0, .op 4 0], _, [], List.range 5, [46]⟩, ⟨[.old 1], _, [], [], [47]⟩, ⟨[.op 6 0], _, [], [6], [48]⟩, ⟨[.op 5 0, .op 7 0], _, [], List.range 8, [49]⟩, ⟨[.op 8 0, .old 3], _, [7], List.range 9, [6]⟩, ⟨[], _, [], List.range 10, [7]⟩]) (F := [.op 9 0, .op 10 0]) (hst.pick [0, 1, 2, 3] rfl) hb Zb
         (o_p rfl (Ze Znn rfl rfl u_0) <| o_p rfl (Zf Zcp rfl rfl u_0) <| o_p rfl (Za rfl rfl u_0) <| o_p rfl (Zf Zbg rfl rfl u_0) <| o_p rfl (Zq Zm0 (Zga _ h11) rfl rfl (.cons u_0 .nil)) <| o_p rfl (Zq Zyt (Zqo _ _ _ h13) rfl rfl (.cons u_0 (.cons u_1 (.cons u_2 .nil)))) <| o_p rfl (Ze Zqb rfl rfl u_0) <| o_p rfl (Zf ty_3 rfl rfl u_0) <| o_p rfl (Zt1 rfl rfl u_0 u_1) <| o_p rfl (Z6 Zbl rfl rfl u_1 u_0) <| o_p rfl (Zc rfl rfl c_i) <| o_n) (by kernel_rfl) (fun a g hst hb => ?_)
       refine wp_ret ?_
       obtain rfl := Option.some.inj H0
       obtain ⟨u0, hu0, hq0⟩ := Zbf (P := Tryd.prog) Zbl (hst.at 0 rfl)
       exact Zem rfl hst hb hu0 (Zk (s := 7)) (Zdf hq0 (hst.at 1 rfl))
end Go.CL
set_option linter.unusedVariables false
set_option linter.unusedSimpArgs false
set_option maxRecDepth 100000
namespace Go.CL
open Go Go.RowKit Go.Proofs
theorem Zt7 (a0 : Int) {r : Zcw} (h : Zml a0 = some r) : FnOk Tryd.prog 60 [(pInt .i64 a0)] (Zdw.pd r) := by
 have H0 := h
 unfold Zml at H0
 clear h
 refine Zbr (N := 13) Tryd.func60 rfl rfl (Nat.le_of_ble_eq_true rfl) rfl rfl (fun a g0 hst hb => ?_)
 refine r_s (T := [⟨[], [(2, (pBox Zdw 2 (default : Zcw)))], [3], [], [2]⟩]) (F := [.old 0, .op 0 0]) hst hb Zb
   (o_p rfl (Zbc (zs := [.string ByteArray.empty, .int .i64 0, .string ByteArray.empty]) (by kernel_rfl) (fun g => Zqv g) rfl rfl) <| o_n) (by kernel_rfl) (fun a g hst hb => ?_)
 refine wp_seq ?_
 refine r_s (T := [⟨[.old 0], _, [], [], [3]⟩, ⟨[.op 0 0], _, [], [0], [4]⟩, ⟨[.op 1 0], _, [], [0, 1], [5]⟩, ⟨[.op 2 0, .old 0], _, [], [0, 1, 2], [6]⟩, ⟨[.op 2 0, .op 3 0], _, [], List.range 4, [7]⟩, ⟨[.op 2 0, .op 4 0], _, [], List.range 5, [8]⟩]) (F := [.old 0, .old 1, .op 5 0]) hst hb Zb
   (o_p rfl (Za rfl rfl u_0) <| o_p rfl (Z2s rfl rfl u_0 c_i) <| o_p rfl (Za rfl rfl u_0) <| o_g (g_f rfl rfl rfl (fun hG => Za rfl rfl u_0)) <| o_g (g_f rfl rfl rfl (fun hG => Zrw rfl rfl (Opd.gd hG u_0) c_i)) <| o_p rfl (Zby rfl rfl u_0 (fun hz => (Opd.gd (bNF hz) u_1))) <| o_n) (by kernel_rfl) (fun a g hst hb => ?_)
 refine wp_cond_split (hst.bool 2 rfl) (fun hc1 => ?_) (fun hc1 => ?_)
 · replace H0 := Z1 hc1 H0
   refine r_s (L := [(2, _)]) (T := [⟨[], _, [], [], [9]⟩, ⟨[.op 0 0, .old 0], _, [3], [0], [2]⟩]) (F := [.op 1 0]) (hst.pick [1] rfl) hb Zb
     (o_p rfl (Z30 rfl rfl ) <| o_p rfl (Z6 Ziy rfl rfl u_1 u_0) <| o_n) (by kernel_rfl) (fun a g hst hb => ?_)
   refine wp_ret ?_
   refine Zs ?_
   obtain rfl := Option.some.inj H0
   obtain ⟨u0, hu0, hq0⟩ := Zbf (P := Tryd.prog) Ziy (hst.at 0 rfl)
   exact Z2 rfl hst hb hu0 hq0
 · replace H0 := Z0 hc1 H0
   refine wp_skip ?_
   refine Zt ?_
   obtain ⟨e2, h3, H0⟩ := Zh H0
   refine r_s (L := [(0, _), (2, _)]) (T := [⟨[.old 0], _, [], [], [10]⟩, ⟨[.op 0 0], _, [], [0], [11]⟩, ⟨[.op 1 0], _, [], [0, 1], [12]⟩, ⟨[.op 2 0, .old 1], _, [3], [0, 1, 2], [2]⟩]) (F := [.op 3 0]) (hst.pick [0, 1] rfl) hb Zb
     (o_p rfl (Za rfl rfl u_0) <| o_p rfl (Zw4 Tryd.underlying136 Z5h rfl rfl (Opd.glob gm_1 gk_1) u_0 h3) <| o_p rfl (Zf Ziy rfl rfl u_0) <| o_p rfl (Z6 Ziy rfl rfl u_1 u_0) <| o_n) (by kernel_rfl) (fun a g hst hb => ?_)
   refine wp_ret ?_
   obtain rfl := Option.some.inj H0
   obtain ⟨u0, hu0, hq0⟩ := Zbf (P := Tryd.prog) Ziy (hst.at 0 rfl)
   exact Z2 rfl hst hb hu0 hq0
end Go.CL
