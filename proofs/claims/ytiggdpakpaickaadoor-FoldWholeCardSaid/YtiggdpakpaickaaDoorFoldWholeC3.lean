/- A part of the proof of FoldWhole. -/
import Derived.Test.YtiggdpakpaickaaDoorFoldWholeC2
import Derived.Test.YtiggdpakpaickaaDoorProg
set_option linter.unusedVariables false
set_option linter.unusedSimpArgs false
set_option maxRecDepth 100000
namespace Go.CL
open Go Go.RowKit Go.Proofs
theorem Zb : Tryd.prog.follows .mixedOrders = true := by kernel_rfl
theorem Z76 {α : Type} {l : List α} (h : l.length = 1) : ∃ u0, l = [u0] := by
 match l, h with
 | [u0], _ => exact ⟨u0, rfl⟩
theorem Zkg {α : Type} {l : List α} (h : l.length = 2) : ∃ u0 u1, l = [u0, u1] := by
 match l, h with
 | [u0, u1], _ => exact ⟨u0, u1, rfl⟩
theorem Zvh {α : Type} {l : List α} (h : l.length = 8) : ∃ u0 u1 u2 u3 u4 u5 u6 u7, l = [u0, u1, u2, u3, u4, u5, u6, u7] := by
 match l, h with
 | [u0, u1, u2, u3, u4, u5, u6, u7], _ => exact ⟨u0, u1, u2, u3, u4, u5, u6, u7, rfl⟩
def Zxa : List (Kd.FK Zj) := [⟨_, Kd.flt, 0, fun x : Zj => x.Score⟩,
 ⟨_, Kd.str, 1, fun x : Zj => x.Name⟩]
def Zy : Kd Zj := Kd.struct 2 Zxa (by rfl)
theorem Zi8 : ∀ g, Zy.K g (default : Zj) [.float .f64 0, .string ByteArray.empty] := fun g => ⟨rfl, (List.forall_mem_cons.2 ⟨(rfl), (List.forall_mem_cons.2 ⟨(rfl), (fun _ h => by cases h)⟩)⟩)⟩
def Zuu : List (Kd.FK Zd) := [⟨_, (Kd.int .i64), 0, fun x : Zd => x.Kind⟩,
 ⟨_, (Kd.int .i64), 1, fun x : Zd => x.Num⟩,
 ⟨_, (Kd.int .i64), 2, fun x : Zd => x.Low⟩,
 ⟨_, (Kd.int .i64), 3, fun x : Zd => x.High⟩,
 ⟨_, Kd.flt, 4, fun x : Zd => x.Real⟩,
 ⟨_, (Kd.int .i64), 5, fun x : Zd => x.Cap⟩,
 ⟨_, Kd.str, 6, fun x : Zd => x.Text⟩,
 ⟨_, Zy.sl, 7, fun x : Zd => x.List⟩]
def Zi : Kd Zd := Kd.struct 8 Zuu (by rfl)
theorem Zch : ∀ g, Zi.K g (default : Zd) [.int .i64 0, .int .i64 0, .int .i64 0, .int .i64 0, .float .f64 0, .int .i64 0, .string ByteArray.empty, .slice none 0 0] := fun g => ⟨rfl, (List.forall_mem_cons.2 ⟨(rfl), (List.forall_mem_cons.2 ⟨(rfl), (List.forall_mem_cons.2 ⟨(rfl), (List.forall_mem_cons.2 ⟨(rfl), (List.forall_mem_cons.2 ⟨(rfl), (List.forall_mem_cons.2 ⟨(rfl), (List.forall_mem_cons.2 ⟨(rfl), (List.forall_mem_cons.2 ⟨(⟨none, 0, rfl, Nat.le_refl _, Nat.zero_le _, .inl rfl⟩), (fun _ h => by cases h)⟩)⟩)⟩)⟩)⟩)⟩)⟩)⟩)⟩
def shelf_nodeT.V (g : G) : shelf_nodeT → Value → Prop
 | .nil, v => v = .pointer none
 | .node x0 x1 x2 x3 x4, v => ∃ b o cs, v = .pointer (some ⟨b, o, none⟩) ∧ CellsAt g b o cs ∧ cs.length = 12 ∧ (∀ u ∈ cs, u.oneCell' = true) ∧ Kd.str.K g x0 (seg cs 0 1) ∧ Zi.K g x1 (seg cs 1 8) ∧ (∃ v, seg cs 9 1 = [v] ∧ shelf_nodeT.V g x2 v) ∧ (∃ v, seg cs 10 1 = [v] ∧ shelf_nodeT.V g x3 v) ∧ (Kd.int .i64).K g x4 (seg cs 11 1)
theorem shelf_nodeT.mono {g g' : G} (h : g.le g') (t : shelf_nodeT) : ∀ v, shelf_nodeT.V g t v → shelf_nodeT.V g' t v := by
 induction t with
 | nil => exact fun v h => h
 | node x0 x1 x2 x3 x4 ih2 ih3 =>
   rintro v ⟨b, o, cs, rfl, hc, hl, hz, h0, h1, ⟨w2, e2, k2⟩, ⟨w3, e3, k3⟩, h4⟩
   exact ⟨b, o, cs, rfl, hc.mono h, hl, hz, Kd.str.mono h h0, Zi.mono h h1, ⟨w2, e2, ih2 w2 k2⟩, ⟨w3, e3, ih3 w3 k3⟩, (Kd.int .i64).mono h h4⟩
theorem shelf_nodeT.ptr {g : G} {t : shelf_nodeT} {v : Value} (h : shelf_nodeT.V g t v) : ∃ p, v = .pointer p ∧ p.isNone = t.isNil := by
 cases t with
 | nil => exact ⟨_, h, rfl⟩
 | node =>
   obtain ⟨b, o, cs, e, _⟩ := h
   exact ⟨_, e, rfl⟩
def Z2 : Kd shelf_nodeT where
 sz := 1
 ag := false
 K := fun g t cs => ∃ v, cs = [v] ∧ shelf_nodeT.V g t v
 len := by rintro _ _ _ ⟨v, rfl, _⟩; rfl
 one := by
   rintro _ _ _ ⟨v, rfl, h⟩ u hu
   obtain ⟨p, e, _⟩ := shelf_nodeT.ptr h
   rw [List.mem_singleton.1 hu, e]; rfl
 mono := fun h ⟨v, e, k⟩ => ⟨v, e, shelf_nodeT.mono h _ _ k⟩
 nag := fun _ => rfl
def Zuy : List (Kd.FK shelf_node) := [⟨_, Kd.str, 0, fun x : shelf_node => x.key⟩,
 ⟨_, Zi, 1, fun x : shelf_node => x.rec_⟩,
 ⟨_, Z2, 9, fun x : shelf_node => x.left⟩,
 ⟨_, Z2, 10, fun x : shelf_node => x.right⟩,
 ⟨_, (Kd.int .i64), 11, fun x : shelf_node => x.size⟩]
def Zfn : Kd shelf_node := Kd.struct 12 Zuy (by rfl)
theorem shelf_nodeT.V_iff {g : G} {t : shelf_nodeT} {v : Value} : (Z2.pd t).p g v ↔ shelf_nodeT.V g t v := by
 constructor
 · rintro ⟨_, ⟨u, rfl, h⟩, rfl⟩; exact h
 · exact fun h => ⟨_, ⟨v, rfl, h⟩, rfl⟩
theorem Zj5 (g : G) : Z2.K g shelf_nodeT.nil [.pointer none] := ⟨_, rfl, rfl⟩
theorem Zdt (g : G) : (Z2.pd shelf_nodeT.nil).p g (.pointer none) := shelf_nodeT.V_iff.2 rfl
theorem Zeb (t : shelf_nodeT) (g : G) (v : Value) (h : (Z2.pd t).p g v) : ∃ p, v = .pointer p ∧ p.isNone = t.isNil := shelf_nodeT.ptr (shelf_nodeT.V_iff.1 h)
theorem Zr {g : G} {t : shelf_nodeT} {x : shelf_node} {v : Value} (h : t.un = some x) (hv : (Z2.pd t).p g v) : (Zfn.ptr x).p g v := by
 cases t with
 | nil => cases h
 | node x0 x1 x2 x3 x4 =>
   obtain rfl := Option.some.inj h
   obtain ⟨b, o, cs, rfl, hc, hl, _, h0, h1, h2, h3, h4⟩ := shelf_nodeT.V_iff.1 hv
   exact ⟨b, o, cs, rfl, ⟨hl, (List.forall_mem_cons.2 ⟨h0, (List.forall_mem_cons.2 ⟨h1, (List.forall_mem_cons.2 ⟨h2, (List.forall_mem_cons.2 ⟨h3, (List.forall_mem_cons.2 ⟨h4, (fun _ h => by cases h)⟩)⟩)⟩)⟩)⟩)⟩, hc⟩
theorem Ztk {g : G} {x : shelf_node} {v : Value} (h : (Zfn.ptr x).p g v) : (Z2.pd x.up).p g v := by
 obtain ⟨b, o, cs, rfl, hk, hc⟩ := h
 exact shelf_nodeT.V_iff.2 ⟨b, o, cs, rfl, hc, hk.1, Zfn.one hk, hk.2 _ (List.mem_of_getElem? (i := 0) rfl), hk.2 _ (List.mem_of_getElem? (i := 1) rfl), hk.2 _ (List.mem_of_getElem? (i := 2) rfl), hk.2 _ (List.mem_of_getElem? (i := 3) rfl), hk.2 _ (List.mem_of_getElem? (i := 4) rfl)⟩
def Ztv : List (Kd.FK Zk) := [⟨_, Z2, 0, fun x : Zk => x.top⟩,
 ⟨_, (Kd.int .i64), 1, fun x : Zk => x.room⟩]
def Zt : Kd Zk := Kd.struct 2 Ztv (by rfl)
theorem Zci : ∀ g, Zt.K g (default : Zk) [.pointer none, .int .i64 0] := fun g => ⟨rfl, (List.forall_mem_cons.2 ⟨(Zj5 _), (List.forall_mem_cons.2 ⟨(rfl), (fun _ h => by cases h)⟩)⟩)⟩
def Zvr : List (Kd.FK Zb1) := [⟨_, Kd.bool, 0, fun x : Zb1 => x.text⟩,
 ⟨_, Kd.bool, 1, fun x : Zb1 => x.num⟩,
 ⟨_, Kd.bool, 2, fun x : Zb1 => x.bounds⟩,
 ⟨_, Kd.bool, 3, fun x : Zb1 => x.real⟩,
 ⟨_, Kd.bool, 4, fun x : Zb1 => x.list⟩]
def Zcu : Kd Zb1 := Kd.struct 5 Zvr (by rfl)
theorem Zpt : ∀ g, Zcu.K g (default : Zb1) [.bool false, .bool false, .bool false, .bool false, .bool false] := fun g => ⟨rfl, (List.forall_mem_cons.2 ⟨(rfl), (List.forall_mem_cons.2 ⟨(rfl), (List.forall_mem_cons.2 ⟨(rfl), (List.forall_mem_cons.2 ⟨(rfl), (List.forall_mem_cons.2 ⟨(rfl), (fun _ h => by cases h)⟩)⟩)⟩)⟩)⟩)⟩
def Zxj : List (Kd.FK Zc1) := [⟨_, Kd.str, 0, fun x : Zc1 => x.word⟩,
 ⟨_, (Kd.int .i64), 1, fun x : Zc1 => x.on⟩,
 ⟨_, Kd.str, 2, fun x : Zc1 => x.has⟩]
def Zdx : Kd Zc1 := Kd.struct 3 Zxj (by rfl)
theorem Zrc : ∀ g, Zdx.K g (default : Zc1) [.string ByteArray.empty, .int .i64 0, .string ByteArray.empty] := fun g => ⟨rfl, (List.forall_mem_cons.2 ⟨(rfl), (List.forall_mem_cons.2 ⟨(rfl), (List.forall_mem_cons.2 ⟨(rfl), (fun _ h => by cases h)⟩)⟩)⟩)⟩
def Zzg : List (Kd.FK Zx) := [⟨_, (Kd.int .i64), 0, fun x : Zx => x.Kind⟩,
 ⟨_, Kd.str, 1, fun x : Zx => x.Key⟩,
 ⟨_, (Kd.int .i64), 2, fun x : Zx => x.N⟩,
 ⟨_, Kd.flt, 3, fun x : Zx => x.X⟩,
 ⟨_, Kd.str, 4, fun x : Zx => x.S⟩,
 ⟨_, Zi, 5, fun x : Zx => x.Make⟩,
 ⟨_, Kd.bool, 13, fun x : Zx => x.Must⟩]
def Z7 : Kd Zx := Kd.struct 14 Zzg (by rfl)
theorem Zjv : ∀ g, Z7.K g (default : Zx) [.int .i64 0, .string ByteArray.empty, .int .i64 0, .float .f64 0, .string ByteArray.empty, .int .i64 0, .int .i64 0, .int .i64 0, .int .i64 0, .float .f64 0, .int .i64 0, .string ByteArray.empty, .slice none 0 0, .bool false] := fun g => ⟨rfl, (List.forall_mem_cons.2 ⟨(rfl), (List.forall_mem_cons.2 ⟨(rfl), (List.forall_mem_cons.2 ⟨(rfl), (List.forall_mem_cons.2 ⟨(rfl), (List.forall_mem_cons.2 ⟨(rfl), (List.forall_mem_cons.2 ⟨(Zch _), (List.forall_mem_cons.2 ⟨(rfl), (fun _ h => by cases h)⟩)⟩)⟩)⟩)⟩)⟩)⟩)⟩
def Zuv : List (Kd.FK Zg) := [⟨_, (Kd.int .i64), 0, fun x : Zg => x.Code⟩,
 ⟨_, (Kd.int .i64), 1, fun x : Zg => x.Num⟩,
 ⟨_, Zi, 2, fun x : Zg => x.Rec⟩]
def Zs : Kd Zg := Kd.struct 10 Zuv (by rfl)
theorem Zdy : ∀ g, Zs.K g (default : Zg) [.int .i64 0, .int .i64 0, .int .i64 0, .int .i64 0, .int .i64 0, .int .i64 0, .float .f64 0, .int .i64 0, .string ByteArray.empty, .slice none 0 0] := fun g => ⟨rfl, (List.forall_mem_cons.2 ⟨(rfl), (List.forall_mem_cons.2 ⟨(rfl), (List.forall_mem_cons.2 ⟨(Zch _), (fun _ h => by cases h)⟩)⟩)⟩)⟩
def Zw5 : List (Kd.FK Zbn) := [⟨_, Z7.sl, 0, fun x : Zbn => x.Acts⟩]
def Zck : Kd Zbn := Kd.struct 1 Zw5 (by rfl)
theorem Zns : ∀ g, Zck.K g (default : Zbn) [.slice none 0 0] := fun g => ⟨rfl, (List.forall_mem_cons.2 ⟨(⟨none, 0, rfl, Nat.le_refl _, Nat.zero_le _, .inl rfl⟩), (fun _ h => by cases h)⟩)⟩
def Zr3 : List (Kd.FK Zdf) := [⟨_, (Kd.int .i64), 0, fun x : Zdf => x.code⟩,
 ⟨_, (Kd.int .i64), 1, fun x : Zdf => x.at_⟩]
def Zeq : Kd Zdf := Kd.struct 2 Zr3 (by rfl)
theorem Zs3 : ∀ g, Zeq.K g (default : Zdf) [.int .i64 0, .int .i64 0] := fun g => ⟨rfl, (List.forall_mem_cons.2 ⟨(rfl), (List.forall_mem_cons.2 ⟨(rfl), (fun _ h => by cases h)⟩)⟩)⟩
def Zu1 : List (Kd.FK Zv) := [⟨_, (Kd.int .i64), 0, fun x : Zv => x.Code⟩,
 ⟨_, (Kd.int .i64), 1, fun x : Zv => x.At⟩,
 ⟨_, Zs.sl, 2, fun x : Zv => x.Answers⟩]
def Zb0 : Kd Zv := Kd.struct 3 Zu1 (by rfl)
theorem Zmg : ∀ g, Zb0.K g (default : Zv) [.int .i64 0, .int .i64 0, .slice none 0 0] := fun g => ⟨rfl, (List.forall_mem_cons.2 ⟨(rfl), (List.forall_mem_cons.2 ⟨(rfl), (List.forall_mem_cons.2 ⟨(⟨none, 0, rfl, Nat.le_refl _, Nat.zero_le _, .inl rfl⟩), (fun _ h => by cases h)⟩)⟩)⟩)⟩
def Zo1 : List (Kd.FK Z5) := [⟨_, Kd.str, 0, fun x : Z5 => x.Key⟩,
 ⟨_, Zi, 1, fun x : Z5 => x.Rec⟩]
def Zbx : Kd Z5 := Kd.struct 9 Zo1 (by rfl)
theorem Zo7 : ∀ g, Zbx.K g (default : Z5) [.string ByteArray.empty, .int .i64 0, .int .i64 0, .int .i64 0, .int .i64 0, .float .f64 0, .int .i64 0, .string ByteArray.empty, .slice none 0 0] := fun g => ⟨rfl, (List.forall_mem_cons.2 ⟨(rfl), (List.forall_mem_cons.2 ⟨(Zch _), (fun _ h => by cases h)⟩)⟩)⟩
def Zoy : List (Kd.FK Zl) := [⟨_, Zbx.sl, 0, fun x : Zl => x.L⟩,
 ⟨_, (Kd.int .i64), 1, fun x : Zl => x.Room⟩]
def Zbr : Kd Zl := Kd.struct 2 Zoy (by rfl)
theorem Zk9 : ∀ g, Zbr.K g (default : Zl) [.slice none 0 0, .int .i64 0] := fun g => ⟨rfl, (List.forall_mem_cons.2 ⟨(⟨none, 0, rfl, Nat.le_refl _, Nat.zero_le _, .inl rfl⟩), (List.forall_mem_cons.2 ⟨(rfl), (fun _ h => by cases h)⟩)⟩)⟩
def Zwd : Zc1 → List Value := fun x => [.string x.word, .int .i64 x.on, .string x.has]
theorem gm_1 : (1, g_1.flatMap Zwd) ∈ GL := List.mem_of_getElem? (i := 0) rfl
theorem gk_1 : ∀ g, (Kd.arr 22 Zdx).K g g_1 (g_1.flatMap Zwd) := fun g => Z78 (dk := Zdx) (enc := Zwd) (fun g x => ⟨rfl, (List.forall_mem_cons.2 ⟨rfl, (List.forall_mem_cons.2 ⟨rfl, (List.forall_mem_cons.2 ⟨rfl, (fun _ h => by cases h)⟩)⟩)⟩)⟩) g g_1
theorem Z35 : Fld Tryd.prog 78 4 Zfn (Kd.int .i64) (fun x : shelf_node => x.size) := Fld.of ⟨_, (Kd.int .i64), 11, fun x : shelf_node => x.size⟩ (List.mem_of_getElem? (i := 4) rfl) 11 rfl (by kernel_rfl) (by decide)
theorem ty_3 : Ty Tryd.prog 3 (Kd.int .i64) := ⟨by kernel_rfl, by kernel_rfl⟩
theorem Zn9 : Fld Tryd.prog 27 0 Zt Z2 (fun x : Zk => x.top) := Fld.of ⟨_, Z2, 0, fun x : Zk => x.top⟩ (List.mem_of_getElem? (i := 0) rfl) 0 rfl (by kernel_rfl) (by decide)
theorem Zcv : Ty Tryd.prog 25 Z2 := ⟨by kernel_rfl, by kernel_rfl⟩
theorem Zlu : Zq Tryd.prog 25 := by
 unfold Zq
 kernel_rfl
theorem Z5k {N d : Nat} {o : Oper} {uses : Z9} {x0 : Operand} {v0 : Bool} (hop : o.op = .build 81 #[(0, x0)]) (hd : o.dst = some d) (h0 : Opd uses x0 (Kd.bool.pd v0)) : OB Tryd.prog N o uses [(d, Zcu.pd { text := v0, num := false, bounds := false, real := false, list := false })] [] := by
 refine Zct hop hd fun a g hh => ?_
 obtain ⟨c0, k0, e0⟩ := h0 a g hh
 obtain rfl := k0
 refine ⟨.agg #[.bool v0, .bool false, .bool false, .bool false, .bool false], ?_, [.bool v0, .bool false, .bool false, .bool false, .bool false], ⟨rfl, (List.forall_mem_cons.2 ⟨rfl, (List.forall_mem_cons.2 ⟨(rfl), (List.forall_mem_cons.2 ⟨(rfl), (List.forall_mem_cons.2 ⟨(rfl), (List.forall_mem_cons.2 ⟨(rfl), (fun _ h => by cases h)⟩)⟩)⟩)⟩)⟩)⟩, rfl⟩
 simp only [List.map_toArray, List.map_cons, List.map_nil, e0]
 exact Zcg Tryd.underlying81 (zero := .agg #[.bool false, .bool false, .bool false, .bool false, .bool false]) (by kernel_rfl) (places := [(0, 1), (1, 1), (2, 1), (3, 1), (4, 1)]) (by kernel_rfl) (by kernel_rfl) g.w
theorem Zjg : Ty Tryd.prog 81 Zcu := ⟨by kernel_rfl, by kernel_rfl⟩
theorem Z4m {N d : Nat} {o : Oper} {uses : Z9} {x1 : Operand} {v1 : Bool} (hop : o.op = .build 81 #[(1, x1)]) (hd : o.dst = some d) (h1 : Opd uses x1 (Kd.bool.pd v1)) : OB Tryd.prog N o uses [(d, Zcu.pd { text := false, num := v1, bounds := false, real := false, list := false })] [] := by
 refine Zct hop hd fun a g hh => ?_
 obtain ⟨c1, k1, e1⟩ := h1 a g hh
 obtain rfl := k1
 refine ⟨.agg #[.bool false, .bool v1, .bool false, .bool false, .bool false], ?_, [.bool false, .bool v1, .bool false, .bool false, .bool false], ⟨rfl, (List.forall_mem_cons.2 ⟨(rfl), (List.forall_mem_cons.2 ⟨rfl, (List.forall_mem_cons.2 ⟨(rfl), (List.forall_mem_cons.2 ⟨(rfl), (List.forall_mem_cons.2 ⟨(rfl), (fun _ h => by cases h)⟩)⟩)⟩)⟩)⟩)⟩, rfl⟩
 simp only [List.map_toArray, List.map_cons, List.map_nil, e1]
 exact Zcg Tryd.underlying81 (zero := .agg #[.bool false, .bool false, .bool false, .bool false, .bool false]) (by kernel_rfl) (places := [(0, 1), (1, 1), (2, 1), (3, 1), (4, 1)]) (by kernel_rfl) (by kernel_rfl) g.w
theorem Zz7 {N d : Nat} {o : Oper} {uses : Z9} {x1 : Operand} {x2 : Operand} {v1 : Bool} {v2 : Bool} (hop : o.op = .build 81 #[(1, x1), (2, x2)]) (hd : o.dst = some d) (h1 : Opd uses x1 (Kd.bool.pd v1)) (h2 : Opd uses x2 (Kd.bool.pd v2)) : OB Tryd.prog N o uses [(d, Zcu.pd { text := false, num := v1, bounds := v2, real := false, list := false })] [] := by
 refine Zct hop hd fun a g hh => ?_
 obtain ⟨c1, k1, e1⟩ := h1 a g hh
 obtain rfl := k1
 obtain ⟨c2, k2, e2⟩ := h2 a g hh
 obtain rfl := k2
 refine ⟨.agg #[.bool false, .bool v1, .bool v2, .bool false, .bool false], ?_, [.bool false, .bool v1, .bool v2, .bool false, .bool false], ⟨rfl, (List.forall_mem_cons.2 ⟨(rfl), (List.forall_mem_cons.2 ⟨rfl, (List.forall_mem_cons.2 ⟨rfl, (List.forall_mem_cons.2 ⟨(rfl), (List.forall_mem_cons.2 ⟨(rfl), (fun _ h => by cases h)⟩)⟩)⟩)⟩)⟩)⟩, rfl⟩
 simp only [List.map_toArray, List.map_cons, List.map_nil, e1, e2]
 exact Zcg Tryd.underlying81 (zero := .agg #[.bool false, .bool false, .bool false, .bool false, .bool false]) (by kernel_rfl) (places := [(0, 1), (1, 1), (2, 1), (3, 1), (4, 1)]) (by kernel_rfl) (by kernel_rfl) g.w
theorem Z45 {N d : Nat} {o : Oper} {uses : Z9} {x3 : Operand} {v3 : Bool} (hop : o.op = .build 81 #[(3, x3)]) (hd : o.dst = some d) (h3 : Opd uses x3 (Kd.bool.pd v3)) : OB Tryd.prog N o uses [(d, Zcu.pd { text := false, num := false, bounds := false, real := v3, list := false })] [] := by
 refine Zct hop hd fun a g hh => ?_
 obtain ⟨c3, k3, e3⟩ := h3 a g hh
 obtain rfl := k3
 refine ⟨.agg #[.bool false, .bool false, .bool false, .bool v3, .bool false], ?_, [.bool false, .bool false, .bool false, .bool v3, .bool false], ⟨rfl, (List.forall_mem_cons.2 ⟨(rfl), (List.forall_mem_cons.2 ⟨(rfl), (List.forall_mem_cons.2 ⟨(rfl), (List.forall_mem_cons.2 ⟨rfl, (List.forall_mem_cons.2 ⟨(rfl), (fun _ h => by cases h)⟩)⟩)⟩)⟩)⟩)⟩, rfl⟩
 simp only [List.map_toArray, List.map_cons, List.map_nil, e3]
 exact Zcg Tryd.underlying81 (zero := .agg #[.bool false, .bool false, .bool false, .bool false, .bool false]) (by kernel_rfl) (places := [(0, 1), (1, 1), (2, 1), (3, 1), (4, 1)]) (by kernel_rfl) (by kernel_rfl) g.w
theorem Z3z {N d : Nat} {o : Oper} {uses : Z9} {x4 : Operand} {v4 : Bool} (hop : o.op = .build 81 #[(4, x4)]) (hd : o.dst = some d) (h4 : Opd uses x4 (Kd.bool.pd v4)) : OB Tryd.prog N o uses [(d, Zcu.pd { text := false, num := false, bounds := false, real := false, list := v4 })] [] := by
 refine Zct hop hd fun a g hh => ?_
 obtain ⟨c4, k4, e4⟩ := h4 a g hh
 obtain rfl := k4
 refine ⟨.agg #[.bool false, .bool false, .bool false, .bool false, .bool v4], ?_, [.bool false, .bool false, .bool false, .bool false, .bool v4], ⟨rfl, (List.forall_mem_cons.2 ⟨(rfl), (List.forall_mem_cons.2 ⟨(rfl), (List.forall_mem_cons.2 ⟨(rfl), (List.forall_mem_cons.2 ⟨(rfl), (List.forall_mem_cons.2 ⟨rfl, (fun _ h => by cases h)⟩)⟩)⟩)⟩)⟩)⟩, rfl⟩
 simp only [List.map_toArray, List.map_cons, List.map_nil, e4]
 exact Zcg Tryd.underlying81 (zero := .agg #[.bool false, .bool false, .bool false, .bool false, .bool false]) (by kernel_rfl) (places := [(0, 1), (1, 1), (2, 1), (3, 1), (4, 1)]) (by kernel_rfl) (by kernel_rfl) g.w
theorem Z5z {N d : Nat} {o : Oper} {uses : Z9}   (hop : o.op = .build 81 #[]) (hd : o.dst = some d)  : OB Tryd.prog N o uses [(d, Zcu.pd { text := false, num := false, bounds := false, real := false, list := false })] [] := by
 refine Zct hop hd fun a g hh => ?_
 refine ⟨.agg #[.bool false, .bool false, .bool false, .bool false, .bool false], ?_, [.bool false, .bool false, .bool false, .bool false, .bool false], ⟨rfl, (List.forall_mem_cons.2 ⟨(rfl), (List.forall_mem_cons.2 ⟨(rfl), (List.forall_mem_cons.2 ⟨(rfl), (List.forall_mem_cons.2 ⟨(rfl), (List.forall_mem_cons.2 ⟨(rfl), (fun _ h => by cases h)⟩)⟩)⟩)⟩)⟩)⟩, rfl⟩
 simp only [List.map_toArray, List.map_cons, List.map_nil, List.map_nil]
 exact Zcg Tryd.underlying81 (zero := .agg #[.bool false, .bool false, .bool false, .bool false, .bool false]) (by kernel_rfl) (places := [(0, 1), (1, 1), (2, 1), (3, 1), (4, 1)]) (by kernel_rfl) (by kernel_rfl) g.w
theorem Z8q : Ext Tryd.prog 91 Extern.MathFloatBits.float64frombits := ⟨_, Tryd.func91, rfl, rfl, by kernel_rfl, by kernel_rfl⟩
theorem Z7b : Zq Tryd.prog 64 := by
 unfold Zq
 kernel_rfl
theorem Znb : Zq Tryd.prog 46 := by
 unfold Zq
 kernel_rfl
theorem Zvc : Ext Tryd.prog 45 Extern.MathFloatBits.float64bits := ⟨_, Tryd.func45, rfl, rfl, by kernel_rfl, by kernel_rfl⟩
theorem Zu3 : Zq Tryd.prog 63 := by
 unfold Zq
 kernel_rfl
theorem Z4g : Fld Tryd.prog 81 0 Zcu Kd.bool (fun x : Zb1 => x.text) := Fld.of ⟨_, Kd.bool, 0, fun x : Zb1 => x.text⟩ (List.mem_of_getElem? (i := 0) rfl) 0 rfl (by kernel_rfl) (by decide)
theorem ty_4 : Ty Tryd.prog 4 Kd.bool := ⟨by kernel_rfl, by kernel_rfl⟩
theorem Zjs : Fld Tryd.prog 45 6 Zi Kd.str (fun x : Zd => x.Text) := Fld.of ⟨_, Kd.str, 6, fun x : Zd => x.Text⟩ (List.mem_of_getElem? (i := 6) rfl) 6 rfl (by kernel_rfl) (by decide)
theorem ty_9 : Ty Tryd.prog 9 Kd.str := ⟨by kernel_rfl, by kernel_rfl⟩
theorem Z4q : Fld Tryd.prog 81 1 Zcu Kd.bool (fun x : Zb1 => x.num) := Fld.of ⟨_, Kd.bool, 1, fun x : Zb1 => x.num⟩ (List.mem_of_getElem? (i := 1) rfl) 1 rfl (by kernel_rfl) (by decide)
theorem Zea : Fld Tryd.prog 45 1 Zi (Kd.int .i64) (fun x : Zd => x.Num) := Fld.of ⟨_, (Kd.int .i64), 1, fun x : Zd => x.Num⟩ (List.mem_of_getElem? (i := 1) rfl) 1 rfl (by kernel_rfl) (by decide)
theorem ty_2 : Ty Tryd.prog 2 (Kd.int .i64) := ⟨by kernel_rfl, by kernel_rfl⟩
theorem Zyb : Fld Tryd.prog 81 2 Zcu Kd.bool (fun x : Zb1 => x.bounds) := Fld.of ⟨_, Kd.bool, 2, fun x : Zb1 => x.bounds⟩ (List.mem_of_getElem? (i := 2) rfl) 2 rfl (by kernel_rfl) (by decide)
theorem Zj1 : Fld Tryd.prog 45 2 Zi (Kd.int .i64) (fun x : Zd => x.Low) := Fld.of ⟨_, (Kd.int .i64), 2, fun x : Zd => x.Low⟩ (List.mem_of_getElem? (i := 2) rfl) 2 rfl (by kernel_rfl) (by decide)
theorem Zj3 : Fld Tryd.prog 45 3 Zi (Kd.int .i64) (fun x : Zd => x.High) := Fld.of ⟨_, (Kd.int .i64), 3, fun x : Zd => x.High⟩ (List.mem_of_getElem? (i := 3) rfl) 3 rfl (by kernel_rfl) (by decide)
theorem Z5l : Fld Tryd.prog 81 3 Zcu Kd.bool (fun x : Zb1 => x.real) := Fld.of ⟨_, Kd.bool, 3, fun x : Zb1 => x.real⟩ (List.mem_of_getElem? (i := 3) rfl) 3 rfl (by kernel_rfl) (by decide)
theorem Zkx : Fld Tryd.prog 45 4 Zi Kd.flt (fun x : Zd => x.Real) := Fld.of ⟨_, Kd.flt, 4, fun x : Zd => x.Real⟩ (List.mem_of_getElem? (i := 4) rfl) 4 rfl (by kernel_rfl) (by decide)
theorem Ze4 : Ty Tryd.prog 42 Kd.flt := ⟨by kernel_rfl, by kernel_rfl⟩
theorem Zqc : Zq Tryd.prog 44 := by
 unfold Zq
 kernel_rfl
theorem Zyr : Fld Tryd.prog 81 4 Zcu Kd.bool (fun x : Zb1 => x.list) := Fld.of ⟨_, Kd.bool, 4, fun x : Zb1 => x.list⟩ (List.mem_of_getElem? (i := 4) rfl) 4 rfl (by kernel_rfl) (by decide)
theorem Zhp : Fld Tryd.prog 45 5 Zi (Kd.int .i64) (fun x : Zd => x.Cap) := Fld.of ⟨_, (Kd.int .i64), 5, fun x : Zd => x.Cap⟩ (List.mem_of_getElem? (i := 5) rfl) 5 rfl (by kernel_rfl) (by decide)
theorem Zdc : Fld Tryd.prog 45 7 Zi Zy.sl (fun x : Zd => x.List) := Fld.of ⟨_, Zy.sl, 7, fun x : Zd => x.List⟩ (List.mem_of_getElem? (i := 7) rfl) 7 rfl (by kernel_rfl) (by decide)
theorem Zev : Ty Tryd.prog 43 Zy.sl := ⟨by kernel_rfl, by kernel_rfl⟩
theorem Zgn : Fld Tryd.prog 97 0 Zy Kd.flt (fun x : Zj => x.Score) := Fld.of ⟨_, Kd.flt, 0, fun x : Zj => x.Score⟩ (List.mem_of_getElem? (i := 0) rfl) 0 rfl (by kernel_rfl) (by decide)
theorem Zzv : Zq Tryd.prog 65 := by
 unfold Zq
 kernel_rfl
theorem Zf2 : Fld Tryd.prog 97 1 Zy Kd.str (fun x : Zj => x.Name) := Fld.of ⟨_, Kd.str, 1, fun x : Zj => x.Name⟩ (List.mem_of_getElem? (i := 1) rfl) 1 rfl (by kernel_rfl) (by decide)
theorem Zjc : (Tryd.prog.info? 97).map (·.size) = some Zy.sz := by kernel_rfl
theorem Zfk : Ty Tryd.prog 97 Zy := ⟨by kernel_rfl, by kernel_rfl⟩
theorem Zzq : Zq Tryd.prog 29 := by
 unfold Zq
 kernel_rfl
theorem Zzb : Zq Tryd.prog 47 := by
 unfold Zq
 kernel_rfl
theorem Zf9 : Fld Tryd.prog 45 0 Zi (Kd.int .i64) (fun x : Zd => x.Kind) := Fld.of ⟨_, (Kd.int .i64), 0, fun x : Zd => x.Kind⟩ (List.mem_of_getElem? (i := 0) rfl) 0 rfl (by kernel_rfl) (by decide)
theorem Z8y : Zq Tryd.prog 27 := by
 unfold Zq
 kernel_rfl
theorem Zbi : Ty Tryd.prog 45 Zi := ⟨by kernel_rfl, by kernel_rfl⟩
theorem Z7c : Zq Tryd.prog 28 := by
 unfold Zq
 kernel_rfl
theorem Z69 : Zq Tryd.prog 30 := by
 unfold Zq
 kernel_rfl
theorem Zd7 : TE Tryd.prog 43 97 Zy 24 := TE.of Tryd.underlying43 (by kernel_rfl) (by decide) (by decide)
theorem Zvi : Zq Tryd.prog 43 := by
 unfold Zq
 kernel_rfl
theorem Zqa {c : Option Nat} {N j s : Nat} {o : Oper} {uses : Z9} {x z : Operand} {v : Zd} {y0 y : List Zj} {v0 : Zd} {t : Nat} (hT : Ty Tryd.prog t Zy.sl) (hop : o.op = .store t x z) (hd : o.dst = none) (hs : Opd uses (.tmp s) (Zbm c Zi j v)) (hx : Opd uses x (Zir Zi j v0 7 Zy.sl y0)) (hz : Opd uses z (Zy.sl.pd y)) : OB Tryd.prog N o uses [(s, Zbm c Zi j { v with List := y })] [j + 1] :=
 Zkz hT hop hd hs hx hz fun g cs ys hk hy => by
   have hc : cs.length = 8 := hk.1
   have hl : ys.length = 1 := Zy.sl.len hy
   exact ⟨by omega, (Zfw (by omega)).trans hc, (List.forall_mem_cons.2 ⟨(by show (Kd.int .i64).K g v.Kind (seg (Zbp cs 7 ys) 0 1); rw [Zbk (by omega) (by omega)]; exact hk.2 _ (List.mem_of_getElem? (i := 0) rfl)), (List.forall_mem_cons.2 ⟨(by show (Kd.int .i64).K g v.Num (seg (Zbp cs 7 ys) 1 1); rw [Zbk (by omega) (by omega)]; exact hk.2 _ (List.mem_of_getElem? (i := 1) rfl)), (List.forall_mem_cons.2 ⟨(by show (Kd.int .i64).K g v.Low (seg (Zbp cs 7 ys) 2 1); rw [Zbk (by omega) (by omega)]; exact hk.2 _ (List.mem_of_getElem? (i := 2) rfl)), (List.forall_mem_cons.2 ⟨(by show (Kd.int .i64).K g v.High (seg (Zbp cs 7 ys) 3 1); rw [Zbk (by omega) (by omega)]; exact hk.2 _ (List.mem_of_getElem? (i := 3) rfl)), (List.forall_mem_cons.2 ⟨(by show Kd.flt.K g v.Real (seg (Zbp cs 7 ys) 4 1); rw [Zbk (by omega) (by omega)]; exact hk.2 _ (List.mem_of_getElem? (i := 4) rfl)), (List.forall_mem_cons.2 ⟨(by show (Kd.int .i64).K g v.Cap (seg (Zbp cs 7 ys) 5 1); rw [Zbk (by omega) (by omega)]; exact hk.2 _ (List.mem_of_getElem? (i := 5) rfl)), (List.forall_mem_cons.2 ⟨(by show Kd.str.K g v.Text (seg (Zbp cs 7 ys) 6 1); rw [Zbk (by omega) (by omega)]; exact hk.2 _ (List.mem_of_getElem? (i := 6) rfl)), (List.forall_mem_cons.2 ⟨(by show Zy.sl.K g y (seg (Zbp cs 7 ys) 7 1); rw [Zgs (by omega) hl]; exact hy), (fun _ h => by cases h)⟩)⟩)⟩)⟩)⟩)⟩)⟩)⟩)⟩
theorem Zes : Fld Tryd.prog 78 0 Zfn Kd.str (fun x : shelf_node => x.key) := Fld.of ⟨_, Kd.str, 0, fun x : shelf_node => x.key⟩ (List.mem_of_getElem? (i := 0) rfl) 0 rfl (by kernel_rfl) (by decide)
theorem Zd9 : Fld Tryd.prog 78 2 Zfn Z2 (fun x : shelf_node => x.left) := Fld.of ⟨_, Z2, 9, fun x : shelf_node => x.left⟩ (List.mem_of_getElem? (i := 2) rfl) 9 rfl (by kernel_rfl) (by decide)
theorem Zeu : Fld Tryd.prog 78 3 Zfn Z2 (fun x : shelf_node => x.right) := Fld.of ⟨_, Z2, 10, fun x : shelf_node => x.right⟩ (List.mem_of_getElem? (i := 3) rfl) 10 rfl (by kernel_rfl) (by decide)
theorem Zhf : Fld Tryd.prog 78 1 Zfn Zi (fun x : shelf_node => x.rec_) := Fld.of ⟨_, Zi, 1, fun x : shelf_node => x.rec_⟩ (List.mem_of_getElem? (i := 1) rfl) 1 rfl (by kernel_rfl) (by decide)
theorem Znk : Zq Tryd.prog 26 := by
 unfold Zq
 kernel_rfl
theorem Zpj {N d : Nat} {o : Oper} {uses : Z9}   (hop : o.op = .build 45 #[]) (hd : o.dst = some d)  : OB Tryd.prog N o uses [(d, Zi.pd { Kind := (0 : Int), Num := (0 : Int), Low := (0 : Int), High := (0 : Int), Real := (0 : Nat), Cap := (0 : Int), Text := ByteArray.empty, List := ([] : List Zj) })] [] := by
 refine Zct hop hd fun a g hh => ?_
 refine ⟨.agg #[.int .i64 0, .int .i64 0, .int .i64 0, .int .i64 0, .float .f64 0, .int .i64 0, .string ByteArray.empty, .slice none 0 0], ?_, [.int .i64 0, .int .i64 0, .int .i64 0, .int .i64 0, .float .f64 0, .int .i64 0, .string ByteArray.empty, .slice none 0 0], ⟨rfl, (List.forall_mem_cons.2 ⟨(rfl), (List.forall_mem_cons.2 ⟨(rfl), (List.forall_mem_cons.2 ⟨(rfl), (List.forall_mem_cons.2 ⟨(rfl), (List.forall_mem_cons.2 ⟨(rfl), (List.forall_mem_cons.2 ⟨(rfl), (List.forall_mem_cons.2 ⟨(rfl), (List.forall_mem_cons.2 ⟨(⟨none, 0, rfl, Nat.le_refl _, Nat.zero_le _, .inl rfl⟩), (fun _ h => by cases h)⟩)⟩)⟩)⟩)⟩)⟩)⟩)⟩)⟩, rfl⟩
 simp only [List.map_toArray, List.map_cons, List.map_nil, List.map_nil]
 exact Zcg Tryd.underlying45 (zero := .agg #[.int .i64 0, .int .i64 0, .int .i64 0, .int .i64 0, .float .f64 0, .int .i64 0, .string ByteArray.empty, .slice none 0 0]) (by kernel_rfl) (places := [(0, 1), (1, 1), (2, 1), (3, 1), (4, 1), (5, 1), (6, 1), (7, 1)]) (by kernel_rfl) (by kernel_rfl) g.w
theorem Zr8 {N d : Nat} {o : Oper} {uses : Z9} {x0 : Operand} {x1 : Operand} {x2 : Operand} {x3 : Operand} {x4 : Operand} {v0 : ByteArray} {v1 : Zd} {v2 : shelf_nodeT} {v3 : shelf_nodeT} {v4 : Int} (hop : o.op = .build 78 #[(0, x0), (1, x1), (2, x2), (3, x3), (4, x4)]) (hd : o.dst = some d) (h0 : Opd uses x0 (Kd.str.pd v0)) (h1 : Opd uses x1 (Zi.pd v1)) (h2 : Opd uses x2 (Z2.pd v2)) (h3 : Opd uses x3 (Z2.pd v3)) (h4 : Opd uses x4 ((Kd.int .i64).pd v4)) : OB Tryd.prog N o uses [(d, Zfn.pd { key := v0, rec_ := v1, left := v2, right := v3, size := v4 })] [] := by
 refine Zct hop hd fun a g hh => ?_
 obtain ⟨c0, k0, e0⟩ := h0 a g hh
 obtain rfl := k0
 obtain ⟨c1, k1, e1⟩ := h1 a g hh
 obtain ⟨u1_0, u1_1, u1_2, u1_3, u1_4, u1_5, u1_6, u1_7, rfl⟩ := Zvh (Zi.len k1)
 obtain ⟨c2, k2, e2⟩ := h2 a g hh
 obtain ⟨p2, rfl, l2⟩ := k2
 obtain ⟨q2, rfl, _⟩ := shelf_nodeT.ptr l2
 obtain ⟨c3, k3, e3⟩ := h3 a g hh
 obtain ⟨p3, rfl, l3⟩ := k3
 obtain ⟨q3, rfl, _⟩ := shelf_nodeT.ptr l3
 obtain ⟨c4, k4, e4⟩ := h4 a g hh
 obtain rfl := k4
 refine ⟨.agg #[.string v0, u1_0, u1_1, u1_2, u1_3, u1_4, u1_5, u1_6, u1_7, .pointer q2, .pointer q3, .int .i64 v4], ?_, [.string v0, u1_0, u1_1, u1_2, u1_3, u1_4, u1_5, u1_6, u1_7, .pointer q2, .pointer q3, .int .i64 v4], ⟨rfl, (List.forall_mem_cons.2 ⟨rfl, (List.forall_mem_cons.2 ⟨k1, (List.forall_mem_cons.2 ⟨⟨.pointer q2, rfl, l2⟩, (List.forall_mem_cons.2 ⟨⟨.pointer q3, rfl, l3⟩, (List.forall_mem_cons.2 ⟨rfl, (fun _ h => by cases h)⟩)⟩)⟩)⟩)⟩)⟩, rfl⟩
 simp only [List.map_toArray, List.map_cons, List.map_nil, e0, e1, e2, e3, e4]
 exact Zcg Tryd.underlying78 (zero := .agg #[.string ByteArray.empty, .int .i64 0, .int .i64 0, .int .i64 0, .int .i64 0, .float .f64 0, .int .i64 0, .string ByteArray.empty, .slice none 0 0, .pointer none, .pointer none, .int .i64 0]) (by kernel_rfl) (places := [(0, 1), (1, 8), (9, 1), (10, 1), (11, 1)]) (by kernel_rfl) (by kernel_rfl) g.w
theorem Zu7 : Zq Tryd.prog 86 := by
 unfold Zq
 kernel_rfl
theorem Zjy : Zq Tryd.prog 54 := by
 unfold Zq
 kernel_rfl
theorem Zy1 : Zq Tryd.prog 38 := by
 unfold Zq
 kernel_rfl
theorem Zsc : Zq Tryd.prog 55 := by
 unfold Zq
 kernel_rfl
theorem Zbf : Ty Tryd.prog 27 Zt := ⟨by kernel_rfl, by kernel_rfl⟩
theorem Zzj : Zq Tryd.prog 12 := by
 unfold Zq
 kernel_rfl
theorem Zzk : Zq Tryd.prog 34 := by
 unfold Zq
 kernel_rfl
theorem en_9 : Zq Tryd.prog 9 := by
 unfold Zq
 kernel_rfl
theorem Ztt : Fld Tryd.prog 27 1 Zt (Kd.int .i64) (fun x : Zk => x.room) := Fld.of ⟨_, (Kd.int .i64), 1, fun x : Zk => x.room⟩ (List.mem_of_getElem? (i := 1) rfl) 1 rfl (by kernel_rfl) (by decide)
theorem Zue {N d : Nat} {o : Oper} {uses : Z9} {x0 : Operand} {x1 : Operand} {v0 : shelf_nodeT} {v1 : Int} (hop : o.op = .build 27 #[(0, x0), (1, x1)]) (hd : o.dst = some d) (h0 : Opd uses x0 (Z2.pd v0)) (h1 : Opd uses x1 ((Kd.int .i64).pd v1)) : OB Tryd.prog N o uses [(d, Zt.pd { top := v0, room := v1 })] [] := by
 refine Zct hop hd fun a g hh => ?_
 obtain ⟨c0, k0, e0⟩ := h0 a g hh
 obtain ⟨p0, rfl, l0⟩ := k0
 obtain ⟨q0, rfl, _⟩ := shelf_nodeT.ptr l0
 obtain ⟨c1, k1, e1⟩ := h1 a g hh
 obtain rfl := k1
 refine ⟨.agg #[.pointer q0, .int .i64 v1], ?_, [.pointer q0, .int .i64 v1], ⟨rfl, (List.forall_mem_cons.2 ⟨⟨.pointer q0, rfl, l0⟩, (List.forall_mem_cons.2 ⟨rfl, (fun _ h => by cases h)⟩)⟩)⟩, rfl⟩
 simp only [List.map_toArray, List.map_cons, List.map_nil, e0, e1]
 exact Zcg Tryd.underlying27 (zero := .agg #[.pointer none, .int .i64 0]) (by kernel_rfl) (places := [(0, 1), (1, 1)]) (by kernel_rfl) (by kernel_rfl) g.w
theorem Z4l {N d : Nat} {o : Oper} {uses : Z9}   (hop : o.op = .build 123 #[]) (hd : o.dst = some d)  : OB Tryd.prog N o uses [(d, Zdx.pd { word := ByteArray.empty, on := (0 : Int), has := ByteArray.empty })] [] := by
 refine Zct hop hd fun a g hh => ?_
 refine ⟨.agg #[.string ByteArray.empty, .int .i64 0, .string ByteArray.empty], ?_, [.string ByteArray.empty, .int .i64 0, .string ByteArray.empty], ⟨rfl, (List.forall_mem_cons.2 ⟨(rfl), (List.forall_mem_cons.2 ⟨(rfl), (List.forall_mem_cons.2 ⟨(rfl), (fun _ h => by cases h)⟩)⟩)⟩)⟩, rfl⟩
 simp only [List.map_toArray, List.map_cons, List.map_nil, List.map_nil]
 exact Zcg Tryd.underlying123 (zero := .agg #[.string ByteArray.empty, .int .i64 0, .string ByteArray.empty]) (by kernel_rfl) (places := [(0, 1), (1, 1), (2, 1)]) (by kernel_rfl) (by kernel_rfl) g.w
theorem Zi1 : Ty Tryd.prog 123 Zdx := ⟨by kernel_rfl, by kernel_rfl⟩
theorem Z6g : (Tryd.prog.info? 123).map (·.size) = some Zdx.sz := by kernel_rfl
theorem Z8w : Zq Tryd.prog 49 := by
 unfold Zq
 kernel_rfl
theorem Z7e : Zq Tryd.prog 48 := by
 unfold Zq
 kernel_rfl
theorem Zv6 : Fld Tryd.prog 123 2 Zdx Kd.str (fun x : Zc1 => x.has) := Fld.of ⟨_, Kd.str, 2, fun x : Zc1 => x.has⟩ (List.mem_of_getElem? (i := 2) rfl) 2 rfl (by kernel_rfl) (by decide)
theorem Zu9 : Zq Tryd.prog 90 := by
 unfold Zq
 kernel_rfl
theorem Zgp : Fld Tryd.prog 56 2 Z7 (Kd.int .i64) (fun x : Zx => x.N) := Fld.of ⟨_, (Kd.int .i64), 2, fun x : Zx => x.N⟩ (List.mem_of_getElem? (i := 2) rfl) 2 rfl (by kernel_rfl) (by decide)
theorem Zqr : Fld Tryd.prog 56 3 Z7 Kd.flt (fun x : Zx => x.X) := Fld.of ⟨_, Kd.flt, 3, fun x : Zx => x.X⟩ (List.mem_of_getElem? (i := 3) rfl) 3 rfl (by kernel_rfl) (by decide)
theorem Zi6 : Fld Tryd.prog 56 4 Z7 Kd.str (fun x : Zx => x.S) := Fld.of ⟨_, Kd.str, 4, fun x : Zx => x.S⟩ (List.mem_of_getElem? (i := 4) rfl) 4 rfl (by kernel_rfl) (by decide)
theorem Zqe : Fld Tryd.prog 56 5 Z7 Zi (fun x : Zx => x.Make) := Fld.of ⟨_, Zi, 5, fun x : Zx => x.Make⟩ (List.mem_of_getElem? (i := 5) rfl) 5 rfl (by kernel_rfl) (by decide)
theorem Zzz : Zq Tryd.prog 33 := by
 unfold Zq
 kernel_rfl
theorem Zwq : Fld Tryd.prog 123 1 Zdx (Kd.int .i64) (fun x : Zc1 => x.on) := Fld.of ⟨_, (Kd.int .i64), 1, fun x : Zc1 => x.on⟩ (List.mem_of_getElem? (i := 1) rfl) 1 rfl (by kernel_rfl) (by decide)
theorem Zhq : Fld Tryd.prog 56 0 Z7 (Kd.int .i64) (fun x : Zx => x.Kind) := Fld.of ⟨_, (Kd.int .i64), 0, fun x : Zx => x.Kind⟩ (List.mem_of_getElem? (i := 0) rfl) 0 rfl (by kernel_rfl) (by decide)
theorem Z3d : Zq Tryd.prog 60 := by
 unfold Zq
 kernel_rfl
theorem Z2t : Fld Tryd.prog 123 0 Zdx Kd.str (fun x : Zc1 => x.word) := Fld.of ⟨_, Kd.str, 0, fun x : Zc1 => x.word⟩ (List.mem_of_getElem? (i := 0) rfl) 0 rfl (by kernel_rfl) (by decide)
theorem Zmn : Fld Tryd.prog 56 1 Z7 Kd.str (fun x : Zx => x.Key) := Fld.of ⟨_, Kd.str, 1, fun x : Zx => x.Key⟩ (List.mem_of_getElem? (i := 1) rfl) 1 rfl (by kernel_rfl) (by decide)
theorem Ze9 : Ty Tryd.prog 56 Z7 := ⟨by kernel_rfl, by kernel_rfl⟩
theorem Z7o : Zq Tryd.prog 61 := by
 unfold Zq
 kernel_rfl
theorem Z7a : Zq Tryd.prog 62 := by
 unfold Zq
 kernel_rfl
theorem Zys {c : Option Nat} {N j s : Nat} {o : Oper} {uses : Z9} {x z : Operand} {v : Zd} {y0 y : ByteArray} {v0 : Zd} {t : Nat} (hT : Ty Tryd.prog t Kd.str) (hop : o.op = .store t x z) (hd : o.dst = none) (hs : Opd uses (.tmp s) (Zbm c Zi j v)) (hx : Opd uses x (Zir Zi j v0 6 Kd.str y0)) (hz : Opd uses z (Kd.str.pd y)) : OB Tryd.prog N o uses [(s, Zbm c Zi j { v with Text := y })] [j + 1] :=
 Zkz hT hop hd hs hx hz fun g cs ys hk hy => by
   have hc : cs.length = 8 := hk.1
   have hl : ys.length = 1 := Kd.str.len hy
   exact ⟨by omega, (Zfw (by omega)).trans hc, (List.forall_mem_cons.2 ⟨(by show (Kd.int .i64).K g v.Kind (seg (Zbp cs 6 ys) 0 1); rw [Zbk (by omega) (by omega)]; exact hk.2 _ (List.mem_of_getElem? (i := 0) rfl)), (List.forall_mem_cons.2 ⟨(by show (Kd.int .i64).K g v.Num (seg (Zbp cs 6 ys) 1 1); rw [Zbk (by omega) (by omega)]; exact hk.2 _ (List.mem_of_getElem? (i := 1) rfl)), (List.forall_mem_cons.2 ⟨(by show (Kd.int .i64).K g v.Low (seg (Zbp cs 6 ys) 2 1); rw [Zbk (by omega) (by omega)]; exact hk.2 _ (List.mem_of_getElem? (i := 2) rfl)), (List.forall_mem_cons.2 ⟨(by show (Kd.int .i64).K g v.High (seg (Zbp cs 6 ys) 3 1); rw [Zbk (by omega) (by omega)]; exact hk.2 _ (List.mem_of_getElem? (i := 3) rfl)), (List.forall_mem_cons.2 ⟨(by show Kd.flt.K g v.Real (seg (Zbp cs 6 ys) 4 1); rw [Zbk (by omega) (by omega)]; exact hk.2 _ (List.mem_of_getElem? (i := 4) rfl)), (List.forall_mem_cons.2 ⟨(by show (Kd.int .i64).K g v.Cap (seg (Zbp cs 6 ys) 5 1); rw [Zbk (by omega) (by omega)]; exact hk.2 _ (List.mem_of_getElem? (i := 5) rfl)), (List.forall_mem_cons.2 ⟨(by show Kd.str.K g y (seg (Zbp cs 6 ys) 6 1); rw [Zgs (by omega) hl]; exact hy), (List.forall_mem_cons.2 ⟨(by show Zy.sl.K g v.List (seg (Zbp cs 6 ys) 7 1); rw [Zbk (by omega) (by omega)]; exact hk.2 _ (List.mem_of_getElem? (i := 7) rfl)), (fun _ h => by cases h)⟩)⟩)⟩)⟩)⟩)⟩)⟩)⟩)⟩
theorem Ztu : Fld Tryd.prog 58 2 Zs Zi (fun x : Zg => x.Rec) := Fld.of ⟨_, Zi, 2, fun x : Zg => x.Rec⟩ (List.mem_of_getElem? (i := 2) rfl) 2 rfl (by kernel_rfl) (by decide)
theorem Z4s {c : Option Nat} {N j s : Nat} {o : Oper} {uses : Z9} {x z : Operand} {v : Zg} {y0 y : Zd} {v0 : Zg} {t : Nat} (hT : Ty Tryd.prog t Zi) (hop : o.op = .store t x z) (hd : o.dst = none) (hs : Opd uses (.tmp s) (Zbm c Zs j v)) (hx : Opd uses x (Zir Zs j v0 2 Zi y0)) (hz : Opd uses z (Zi.pd y)) : OB Tryd.prog N o uses [(s, Zbm c Zs j { v with Rec := y })] [j + 1] :=
 Zkz hT hop hd hs hx hz fun g cs ys hk hy => by
   have hc : cs.length = 10 := hk.1
   have hl : ys.length = 8 := Zi.len hy
   exact ⟨by omega, (Zfw (by omega)).trans hc, (List.forall_mem_cons.2 ⟨(by show (Kd.int .i64).K g v.Code (seg (Zbp cs 2 ys) 0 1); rw [Zbk (by omega) (by omega)]; exact hk.2 _ (List.mem_of_getElem? (i := 0) rfl)), (List.forall_mem_cons.2 ⟨(by show (Kd.int .i64).K g v.Num (seg (Zbp cs 2 ys) 1 1); rw [Zbk (by omega) (by omega)]; exact hk.2 _ (List.mem_of_getElem? (i := 1) rfl)), (List.forall_mem_cons.2 ⟨(by show Zi.K g y (seg (Zbp cs 2 ys) 2 8); rw [Zgs (by omega) hl]; exact hy), (fun _ h => by cases h)⟩)⟩)⟩)⟩
theorem Zqj {c : Option Nat} {N j s : Nat} {o : Oper} {uses : Z9} {x z : Operand} {v : Zd} {y0 y : Int} {v0 : Zd} {t : Nat} (hT : Ty Tryd.prog t (Kd.int .i64)) (hop : o.op = .store t x z) (hd : o.dst = none) (hs : Opd uses (.tmp s) (Zbm c Zi j v)) (hx : Opd uses x (Zir Zi j v0 1 (Kd.int .i64) y0)) (hz : Opd uses z ((Kd.int .i64).pd y)) : OB Tryd.prog N o uses [(s, Zbm c Zi j { v with Num := y })] [j + 1] :=
 Zkz hT hop hd hs hx hz fun g cs ys hk hy => by
   have hc : cs.length = 8 := hk.1
   have hl : ys.length = 1 := (Kd.int .i64).len hy
   exact ⟨by omega, (Zfw (by omega)).trans hc, (List.forall_mem_cons.2 ⟨(by show (Kd.int .i64).K g v.Kind (seg (Zbp cs 1 ys) 0 1); rw [Zbk (by omega) (by omega)]; exact hk.2 _ (List.mem_of_getElem? (i := 0) rfl)), (List.forall_mem_cons.2 ⟨(by show (Kd.int .i64).K g y (seg (Zbp cs 1 ys) 1 1); rw [Zgs (by omega) hl]; exact hy), (List.forall_mem_cons.2 ⟨(by show (Kd.int .i64).K g v.Low (seg (Zbp cs 1 ys) 2 1); rw [Zbk (by omega) (by omega)]; exact hk.2 _ (List.mem_of_getElem? (i := 2) rfl)), (List.forall_mem_cons.2 ⟨(by show (Kd.int .i64).K g v.High (seg (Zbp cs 1 ys) 3 1); rw [Zbk (by omega) (by omega)]; exact hk.2 _ (List.mem_of_getElem? (i := 3) rfl)), (List.forall_mem_cons.2 ⟨(by show Kd.flt.K g v.Real (seg (Zbp cs 1 ys) 4 1); rw [Zbk (by omega) (by omega)]; exact hk.2 _ (List.mem_of_getElem? (i := 4) rfl)), (List.forall_mem_cons.2 ⟨(by show (Kd.int .i64).K g v.Cap (seg (Zbp cs 1 ys) 5 1); rw [Zbk (by omega) (by omega)]; exact hk.2 _ (List.mem_of_getElem? (i := 5) rfl)), (List.forall_mem_cons.2 ⟨(by show Kd.str.K g v.Text (seg (Zbp cs 1 ys) 6 1); rw [Zbk (by omega) (by omega)]; exact hk.2 _ (List.mem_of_getElem? (i := 6) rfl)), (List.forall_mem_cons.2 ⟨(by show Zy.sl.K g v.List (seg (Zbp cs 1 ys) 7 1); rw [Zbk (by omega) (by omega)]; exact hk.2 _ (List.mem_of_getElem? (i := 7) rfl)), (fun _ h => by cases h)⟩)⟩)⟩)⟩)⟩)⟩)⟩)⟩)⟩
theorem Z40 {c : Option Nat} {N j s : Nat} {o : Oper} {uses : Z9} {x z : Operand} {v : Zd} {y0 y : Nat} {v0 : Zd} {t : Nat} (hT : Ty Tryd.prog t Kd.flt) (hop : o.op = .store t x z) (hd : o.dst = none) (hs : Opd uses (.tmp s) (Zbm c Zi j v)) (hx : Opd uses x (Zir Zi j v0 4 Kd.flt y0)) (hz : Opd uses z (Kd.flt.pd y)) : OB Tryd.prog N o uses [(s, Zbm c Zi j { v with Real := y })] [j + 1] :=
 Zkz hT hop hd hs hx hz fun g cs ys hk hy => by
   have hc : cs.length = 8 := hk.1
   have hl : ys.length = 1 := Kd.flt.len hy
   exact ⟨by omega, (Zfw (by omega)).trans hc, (List.forall_mem_cons.2 ⟨(by show (Kd.int .i64).K g v.Kind (seg (Zbp cs 4 ys) 0 1); rw [Zbk (by omega) (by omega)]; exact hk.2 _ (List.mem_of_getElem? (i := 0) rfl)), (List.forall_mem_cons.2 ⟨(by show (Kd.int .i64).K g v.Num (seg (Zbp cs 4 ys) 1 1); rw [Zbk (by omega) (by omega)]; exact hk.2 _ (List.mem_of_getElem? (i := 1) rfl)), (List.forall_mem_cons.2 ⟨(by show (Kd.int .i64).K g v.Low (seg (Zbp cs 4 ys) 2 1); rw [Zbk (by omega) (by omega)]; exact hk.2 _ (List.mem_of_getElem? (i := 2) rfl)), (List.forall_mem_cons.2 ⟨(by show (Kd.int .i64).K g v.High (seg (Zbp cs 4 ys) 3 1); rw [Zbk (by omega) (by omega)]; exact hk.2 _ (List.mem_of_getElem? (i := 3) rfl)), (List.forall_mem_cons.2 ⟨(by show Kd.flt.K g y (seg (Zbp cs 4 ys) 4 1); rw [Zgs (by omega) hl]; exact hy), (List.forall_mem_cons.2 ⟨(by show (Kd.int .i64).K g v.Cap (seg (Zbp cs 4 ys) 5 1); rw [Zbk (by omega) (by omega)]; exact hk.2 _ (List.mem_of_getElem? (i := 5) rfl)), (List.forall_mem_cons.2 ⟨(by show Kd.str.K g v.Text (seg (Zbp cs 4 ys) 6 1); rw [Zbk (by omega) (by omega)]; exact hk.2 _ (List.mem_of_getElem? (i := 6) rfl)), (List.forall_mem_cons.2 ⟨(by show Zy.sl.K g v.List (seg (Zbp cs 4 ys) 7 1); rw [Zbk (by omega) (by omega)]; exact hk.2 _ (List.mem_of_getElem? (i := 7) rfl)), (fun _ h => by cases h)⟩)⟩)⟩)⟩)⟩)⟩)⟩)⟩)⟩
theorem Zr7 : Zq Tryd.prog 92 := by
 unfold Zq
 kernel_rfl
theorem Z4d : Ty Tryd.prog 129 Kd.fnc := ⟨by kernel_rfl, by kernel_rfl⟩
theorem Z7v : Zq Tryd.prog 95 := by
 unfold Zq
 kernel_rfl
theorem Z8h : Zq Tryd.prog 94 := by
 unfold Zq
 kernel_rfl
theorem Z60 : Ext Tryd.prog 98 (Extern.SlicesOverlaps.overlaps #[43, 43] #[4]) := ⟨_, Tryd.func98, rfl, rfl, by kernel_rfl, by kernel_rfl⟩
theorem Zy9 : Zq Tryd.prog 81 := by
 unfold Zq
 kernel_rfl
theorem Z44 {N d : Nat} {o : Oper} {uses : Z9} {x1 : Operand} {v1 : ByteArray} (hop : o.op = .build 97 #[(1, x1)]) (hd : o.dst = some d) (h1 : Opd uses x1 (Kd.str.pd v1)) : OB Tryd.prog N o uses [(d, Zy.pd { Score := (0 : Nat), Name := v1 })] [] := by
 refine Zct hop hd fun a g hh => ?_
 obtain ⟨c1, k1, e1⟩ := h1 a g hh
 obtain rfl := k1
 refine ⟨.agg #[.float .f64 0, .string v1], ?_, [.float .f64 0, .string v1], ⟨rfl, (List.forall_mem_cons.2 ⟨(rfl), (List.forall_mem_cons.2 ⟨rfl, (fun _ h => by cases h)⟩)⟩)⟩, rfl⟩
 simp only [List.map_toArray, List.map_cons, List.map_nil, e1]
 exact Zcg Tryd.underlying97 (zero := .agg #[.float .f64 0, .string ByteArray.empty]) (by kernel_rfl) (places := [(0, 1), (1, 1)]) (by kernel_rfl) (by kernel_rfl) g.w
theorem Z3g : Zq Tryd.prog 93 := by
 unfold Zq
 kernel_rfl
theorem Z7h : Zq Tryd.prog 82 := by
 unfold Zq
 kernel_rfl
theorem Z1m {N d : Nat} {o : Oper} {uses : Z9} {x0 : Operand} {x1 : Operand} {v0 : Nat} {v1 : ByteArray} (hop : o.op = .build 97 #[(0, x0), (1, x1)]) (hd : o.dst = some d) (h0 : Opd uses x0 (Kd.flt.pd v0)) (h1 : Opd uses x1 (Kd.str.pd v1)) : OB Tryd.prog N o uses [(d, Zy.pd { Score := v0, Name := v1 })] [] := by
 refine Zct hop hd fun a g hh => ?_
 obtain ⟨c0, k0, e0⟩ := h0 a g hh
 obtain rfl := k0
 obtain ⟨c1, k1, e1⟩ := h1 a g hh
 obtain rfl := k1
 refine ⟨.agg #[.float .f64 v0, .string v1], ?_, [.float .f64 v0, .string v1], ⟨rfl, (List.forall_mem_cons.2 ⟨rfl, (List.forall_mem_cons.2 ⟨rfl, (fun _ h => by cases h)⟩)⟩)⟩, rfl⟩
 simp only [List.map_toArray, List.map_cons, List.map_nil, e0, e1]
 exact Zcg Tryd.underlying97 (zero := .agg #[.float .f64 0, .string ByteArray.empty]) (by kernel_rfl) (places := [(0, 1), (1, 1)]) (by kernel_rfl) (by kernel_rfl) g.w
theorem Z8i : Zq Tryd.prog 66 := by
 unfold Zq
 kernel_rfl
theorem Z7k : Zq Tryd.prog 67 := by
 unfold Zq
 kernel_rfl
theorem Z6y : Zq Tryd.prog 68 := by
 unfold Zq
 kernel_rfl
theorem Z7z : Zq Tryd.prog 69 := by
 unfold Zq
 kernel_rfl
theorem Z3f : Zq Tryd.prog 70 := by
 unfold Zq
 kernel_rfl
theorem Z7q : Zq Tryd.prog 71 := by
 unfold Zq
 kernel_rfl
theorem Z70 : Zq Tryd.prog 72 := by
 unfold Zq
 kernel_rfl
theorem Z7m : Zq Tryd.prog 74 := by
 unfold Zq
 kernel_rfl
theorem Z7j : Zq Tryd.prog 75 := by
 unfold Zq
 kernel_rfl
theorem Z8o : Zq Tryd.prog 76 := by
 unfold Zq
 kernel_rfl
theorem Z75 : Zq Tryd.prog 77 := by
 unfold Zq
 kernel_rfl
theorem Z7y : Zq Tryd.prog 78 := by
 unfold Zq
 kernel_rfl
theorem Z63 : Zq Tryd.prog 79 := by
 unfold Zq
 kernel_rfl
theorem Z7s : Zq Tryd.prog 80 := by
 unfold Zq
 kernel_rfl
theorem Z7l : Zq Tryd.prog 83 := by
 unfold Zq
 kernel_rfl
theorem Z8s : Zq Tryd.prog 84 := by
 unfold Zq
 kernel_rfl
theorem Zs4 : Zq Tryd.prog 73 := by
 unfold Zq
 kernel_rfl
theorem Ztf {N d : Nat} {o : Oper} {uses : Z9} {x0 : Operand} {v0 : Int} (hop : o.op = .build 58 #[(0, x0)]) (hd : o.dst = some d) (h0 : Opd uses x0 ((Kd.int .i64).pd v0)) : OB Tryd.prog N o uses [(d, Zs.pd { Code := v0, Num := (0 : Int), Rec := (default : Zd) })] [] := by
 refine Zct hop hd fun a g hh => ?_
 obtain ⟨c0, k0, e0⟩ := h0 a g hh
 obtain rfl := k0
 refine ⟨.agg #[.int .i64 v0, .int .i64 0, .int .i64 0, .int .i64 0, .int .i64 0, .int .i64 0, .float .f64 0, .int .i64 0, .string ByteArray.empty, .slice none 0 0], ?_, [.int .i64 v0, .int .i64 0, .int .i64 0, .int .i64 0, .int .i64 0, .int .i64 0, .float .f64 0, .int .i64 0, .string ByteArray.empty, .slice none 0 0], ⟨rfl, (List.forall_mem_cons.2 ⟨rfl, (List.forall_mem_cons.2 ⟨(rfl), (List.forall_mem_cons.2 ⟨(Zch _), (fun _ h => by cases h)⟩)⟩)⟩)⟩, rfl⟩
 simp only [List.map_toArray, List.map_cons, List.map_nil, e0]
 exact Zcg Tryd.underlying58 (zero := .agg #[.int .i64 0, .int .i64 0, .int .i64 0, .int .i64 0, .int .i64 0, .int .i64 0, .float .f64 0, .int .i64 0, .string ByteArray.empty, .slice none 0 0]) (by kernel_rfl) (places := [(0, 1), (1, 1), (2, 8)]) (by kernel_rfl) (by kernel_rfl) g.w
theorem Zcb : Ty Tryd.prog 58 Zs := ⟨by kernel_rfl, by kernel_rfl⟩
theorem Z29 : Zq Tryd.prog 42 := by
 unfold Zq
 kernel_rfl
theorem Zsz : Zq Tryd.prog 50 := by
 unfold Zq
 kernel_rfl
theorem Z0y {N d : Nat} {o : Oper} {uses : Z9}   (hop : o.op = .build 58 #[]) (hd : o.dst = some d)  : OB Tryd.prog N o uses [(d, Zs.pd { Code := (0 : Int), Num := (0 : Int), Rec := (default : Zd) })] [] := by
 refine Zct hop hd fun a g hh => ?_
 refine ⟨.agg #[.int .i64 0, .int .i64 0, .int .i64 0, .int .i64 0, .int .i64 0, .int .i64 0, .float .f64 0, .int .i64 0, .string ByteArray.empty, .slice none 0 0], ?_, [.int .i64 0, .int .i64 0, .int .i64 0, .int .i64 0, .int .i64 0, .int .i64 0, .float .f64 0, .int .i64 0, .string ByteArray.empty, .slice none 0 0], ⟨rfl, (List.forall_mem_cons.2 ⟨(rfl), (List.forall_mem_cons.2 ⟨(rfl), (List.forall_mem_cons.2 ⟨(Zch _), (fun _ h => by cases h)⟩)⟩)⟩)⟩, rfl⟩
 simp only [List.map_toArray, List.map_cons, List.map_nil, List.map_nil]
 exact Zcg Tryd.underlying58 (zero := .agg #[.int .i64 0, .int .i64 0, .int .i64 0, .int .i64 0, .int .i64 0, .int .i64 0, .float .f64 0, .int .i64 0, .string ByteArray.empty, .slice none 0 0]) (by kernel_rfl) (places := [(0, 1), (1, 1), (2, 8)]) (by kernel_rfl) (by kernel_rfl) g.w
theorem Z5m {N d : Nat} {o : Oper} {uses : Z9} {x1 : Operand} {v1 : Int} (hop : o.op = .build 58 #[(1, x1)]) (hd : o.dst = some d) (h1 : Opd uses x1 ((Kd.int .i64).pd v1)) : OB Tryd.prog N o uses [(d, Zs.pd { Code := (0 : Int), Num := v1, Rec := (default : Zd) })] [] := by
 refine Zct hop hd fun a g hh => ?_
 obtain ⟨c1, k1, e1⟩ := h1 a g hh
 obtain rfl := k1
 refine ⟨.agg #[.int .i64 0, .int .i64 v1, .int .i64 0, .int .i64 0, .int .i64 0, .int .i64 0, .float .f64 0, .int .i64 0, .string ByteArray.empty, .slice none 0 0], ?_, [.int .i64 0, .int .i64 v1, .int .i64 0, .int .i64 0, .int .i64 0, .int .i64 0, .float .f64 0, .int .i64 0, .string ByteArray.empty, .slice none 0 0], ⟨rfl, (List.forall_mem_cons.2 ⟨(rfl), (List.forall_mem_cons.2 ⟨rfl, (List.forall_mem_cons.2 ⟨(Zch _), (fun _ h => by cases h)⟩)⟩)⟩)⟩, rfl⟩
 simp only [List.map_toArray, List.map_cons, List.map_nil, e1]
 exact Zcg Tryd.underlying58 (zero := .agg #[.int .i64 0, .int .i64 0, .int .i64 0, .int .i64 0, .int .i64 0, .int .i64 0, .float .f64 0, .int .i64 0, .string ByteArray.empty, .slice none 0 0]) (by kernel_rfl) (places := [(0, 1), (1, 1), (2, 8)]) (by kernel_rfl) (by kernel_rfl) g.w
theorem Z30 {N d : Nat} {o : Oper} {uses : Z9} {x2 : Operand} {v2 : Zd} (hop : o.op = .build 58 #[(2, x2)]) (hd : o.dst = some d) (h2 : Opd uses x2 (Zi.pd v2)) : OB Tryd.prog N o uses [(d, Zs.pd { Code := (0 : Int), Num := (0 : Int), Rec := v2 })] [] := by
 refine Zct hop hd fun a g hh => ?_
 obtain ⟨c2, k2, e2⟩ := h2 a g hh
 obtain ⟨u2_0, u2_1, u2_2, u2_3, u2_4, u2_5, u2_6, u2_7, rfl⟩ := Zvh (Zi.len k2)
 refine ⟨.agg #[.int .i64 0, .int .i64 0, u2_0, u2_1, u2_2, u2_3, u2_4, u2_5, u2_6, u2_7], ?_, [.int .i64 0, .int .i64 0, u2_0, u2_1, u2_2, u2_3, u2_4, u2_5, u2_6, u2_7], ⟨rfl, (List.forall_mem_cons.2 ⟨(rfl), (List.forall_mem_cons.2 ⟨(rfl), (List.forall_mem_cons.2 ⟨k2, (fun _ h => by cases h)⟩)⟩)⟩)⟩, rfl⟩
 simp only [List.map_toArray, List.map_cons, List.map_nil, e2]
 exact Zcg Tryd.underlying58 (zero := .agg #[.int .i64 0, .int .i64 0, .int .i64 0, .int .i64 0, .int .i64 0, .int .i64 0, .float .f64 0, .int .i64 0, .string ByteArray.empty, .slice none 0 0]) (by kernel_rfl) (places := [(0, 1), (1, 1), (2, 8)]) (by kernel_rfl) (by kernel_rfl) g.w
theorem Z8a : Zq Tryd.prog 51 := by
 unfold Zq
 kernel_rfl
theorem Z7p : Zq Tryd.prog 52 := by
 unfold Zq
 kernel_rfl
theorem Zu5 : Zq Tryd.prog 53 := by
 unfold Zq
 kernel_rfl
theorem Z8b : Zq Tryd.prog 85 := by
 unfold Zq
 kernel_rfl
theorem Z61 : Zq Tryd.prog 35 := by
 unfold Zq
 kernel_rfl
theorem Zkw : Fld Tryd.prog 58 0 Zs (Kd.int .i64) (fun x : Zg => x.Code) := Fld.of ⟨_, (Kd.int .i64), 0, fun x : Zg => x.Code⟩ (List.mem_of_getElem? (i := 0) rfl) 0 rfl (by kernel_rfl) (by decide)
theorem Zj0 : Ty Tryd.prog 35 (Kd.int .i64) := ⟨by kernel_rfl, by kernel_rfl⟩
theorem Z64 : Zq Tryd.prog 36 := by
 unfold Zq
 kernel_rfl
theorem Z8t : Zq Tryd.prog 37 := by
 unfold Zq
 kernel_rfl
theorem Z3q : Zq Tryd.prog 19 := by
 unfold Zq
 kernel_rfl
theorem Zks : Fld Tryd.prog 34 0 Zck Z7.sl (fun x : Zbn => x.Acts) := Fld.of ⟨_, Z7.sl, 0, fun x : Zbn => x.Acts⟩ (List.mem_of_getElem? (i := 0) rfl) 0 rfl (by kernel_rfl) (by decide)
theorem Znj : Ty Tryd.prog 32 Z7.sl := ⟨by kernel_rfl, by kernel_rfl⟩
theorem Zvd : (Tryd.prog.info? 56).map (·.size) = some Z7.sz := by kernel_rfl
theorem Ztd : Fld Tryd.prog 56 6 Z7 Kd.bool (fun x : Zx => x.Must) := Fld.of ⟨_, Kd.bool, 13, fun x : Zx => x.Must⟩ (List.mem_of_getElem? (i := 6) rfl) 13 rfl (by kernel_rfl) (by decide)
theorem Z0r {N d : Nat} {o : Oper} {uses : Z9} {x0 : Operand} {x1 : Operand} {v0 : Int} {v1 : Int} (hop : o.op = .build 75 #[(0, x0), (1, x1)]) (hd : o.dst = some d) (h0 : Opd uses x0 ((Kd.int .i64).pd v0)) (h1 : Opd uses x1 ((Kd.int .i64).pd v1)) : OB Tryd.prog N o uses [(d, Zeq.pd { code := v0, at_ := v1 })] [] := by
 refine Zct hop hd fun a g hh => ?_
 obtain ⟨c0, k0, e0⟩ := h0 a g hh
 obtain rfl := k0
 obtain ⟨c1, k1, e1⟩ := h1 a g hh
 obtain rfl := k1
 refine ⟨.agg #[.int .i64 v0, .int .i64 v1], ?_, [.int .i64 v0, .int .i64 v1], ⟨rfl, (List.forall_mem_cons.2 ⟨rfl, (List.forall_mem_cons.2 ⟨rfl, (fun _ h => by cases h)⟩)⟩)⟩, rfl⟩
 simp only [List.map_toArray, List.map_cons, List.map_nil, e0, e1]
 exact Zcg Tryd.underlying75 (zero := .agg #[.int .i64 0, .int .i64 0]) (by kernel_rfl) (places := [(0, 1), (1, 1)]) (by kernel_rfl) (by kernel_rfl) g.w
structure Zgh where
 Code : Int
 At : Int
 Answers : SlV
def Zs5 : List (Kd.FK Zgh) := [⟨_, (Kd.int .i64), 0, fun x : Zgh => x.Code⟩,
 ⟨_, (Kd.int .i64), 1, fun x : Zgh => x.At⟩,
 ⟨_, Kd.raw, 2, fun x : Zgh => x.Answers⟩]
def Zc3 : Kd Zgh := Kd.struct 3 Zs5 (by rfl)
def Zds (x : Zv) (s : SlV) : Zgh := ⟨x.Code, x.At, s⟩
theorem Zsv : ∀ g, Zc3.K g (Zds ((default : Zv)) (none, 0, 0)) [.int .i64 0, .int .i64 0, .slice none 0 0] := fun g => ⟨rfl, (List.forall_mem_cons.2 ⟨(rfl), (List.forall_mem_cons.2 ⟨(rfl), (List.forall_mem_cons.2 ⟨rfl, (fun _ h => by cases h)⟩)⟩)⟩)⟩
theorem Zsi {x : Zv} {e j : Nat} : ∀ (g : G) (s : SlV) (cs : List Value), Zc3.K g (Zds x s) cs → (hpL (pRow Zs e j x.Answers)).p g s → Zb0.K g x cs := fun g s cs h hr => ⟨h.1, (List.forall_mem_cons.2 ⟨(h.2 _ (List.mem_of_getElem? (i := 0) rfl)), (List.forall_mem_cons.2 ⟨(h.2 _ (List.mem_of_getElem? (i := 1) rfl)), (List.forall_mem_cons.2 ⟨(Z6c (h.2 _ (List.mem_of_getElem? (i := 2) rfl)) hr.1), (fun _ h => by cases h)⟩)⟩)⟩)⟩
theorem Zst {x : Zv} {g : G} {cs ys : List Value} {s0 s1 : SlV} (hk : Zc3.K g (Zds x s0) cs) (hy : Kd.raw.K g s1 ys) : 2 + ys.length ≤ cs.length ∧ Zc3.K g (Zds x s1) (Zbp cs 2 ys) := by
 have hc : cs.length = 3 := hk.1
 have hl : ys.length = 1 := Kd.raw.len hy
 exact ⟨by omega, (Zfw (by omega)).trans hc, (List.forall_mem_cons.2 ⟨(by show (Kd.int .i64).K g x.Code (seg (Zbp cs 2 ys) 0 1); rw [Zbk (by omega) (by omega)]; exact hk.2 _ (List.mem_of_getElem? (i := 0) rfl)), (List.forall_mem_cons.2 ⟨(by show (Kd.int .i64).K g x.At (seg (Zbp cs 2 ys) 1 1); rw [Zbk (by omega) (by omega)]; exact hk.2 _ (List.mem_of_getElem? (i := 1) rfl)), (List.forall_mem_cons.2 ⟨(by show Kd.raw.K g s1 (seg (Zbp cs 2 ys) 2 1); rw [Zgs (by omega) hl]; exact hy), (fun _ h => by cases h)⟩)⟩)⟩)⟩
theorem Zru : Fld Tryd.prog 38 2 Zc3 Kd.raw (fun x : Zgh => x.Answers) := Fld.of ⟨_, Kd.raw, 2, fun x : Zgh => x.Answers⟩ (List.mem_of_getElem? (i := 2) rfl) 2 rfl (by kernel_rfl) (by decide)
theorem Zvk : Ty Tryd.prog 36 Kd.raw := ⟨by kernel_rfl, by kernel_rfl⟩
theorem Zlt : Ty Tryd.prog 34 Zck := ⟨by kernel_rfl, by kernel_rfl⟩
theorem Z7i : Zq Tryd.prog 22 := by
 unfold Zq
 kernel_rfl
theorem Zpp {N d : Nat} {o : Oper} {uses : Z9} {x0 : Operand} {x1 : Operand} {v0 : Int} {v1 : Int} (hop : o.op = .build 38 #[(0, x0), (1, x1)]) (hd : o.dst = some d) (h0 : Opd uses x0 ((Kd.int .i64).pd v0)) (h1 : Opd uses x1 ((Kd.int .i64).pd v1)) : OB Tryd.prog N o uses [(d, Zb0.pd { Code := v0, At := v1, Answers := ([] : List Zg) })] [] := by
 refine Zct hop hd fun a g hh => ?_
 obtain ⟨c0, k0, e0⟩ := h0 a g hh
 obtain rfl := k0
 obtain ⟨c1, k1, e1⟩ := h1 a g hh
 obtain rfl := k1
 refine ⟨.agg #[.int .i64 v0, .int .i64 v1, .slice none 0 0], ?_, [.int .i64 v0, .int .i64 v1, .slice none 0 0], ⟨rfl, (List.forall_mem_cons.2 ⟨rfl, (List.forall_mem_cons.2 ⟨rfl, (List.forall_mem_cons.2 ⟨(⟨none, 0, rfl, Nat.le_refl _, Nat.zero_le _, .inl rfl⟩), (fun _ h => by cases h)⟩)⟩)⟩)⟩, rfl⟩
 simp only [List.map_toArray, List.map_cons, List.map_nil, e0, e1]
 exact Zcg Tryd.underlying38 (zero := .agg #[.int .i64 0, .int .i64 0, .slice none 0 0]) (by kernel_rfl) (places := [(0, 1), (1, 1), (2, 1)]) (by kernel_rfl) (by kernel_rfl) g.w
theorem Zjf : Ty Tryd.prog 38 Zb0 := ⟨by kernel_rfl, by kernel_rfl⟩
theorem Z3x : Fld Tryd.prog 75 0 Zeq (Kd.int .i64) (fun x : Zdf => x.code) := Fld.of ⟨_, (Kd.int .i64), 0, fun x : Zdf => x.code⟩ (List.mem_of_getElem? (i := 0) rfl) 0 rfl (by kernel_rfl) (by decide)
theorem Z4x : Fld Tryd.prog 75 1 Zeq (Kd.int .i64) (fun x : Zdf => x.at_) := Fld.of ⟨_, (Kd.int .i64), 1, fun x : Zdf => x.at_⟩ (List.mem_of_getElem? (i := 1) rfl) 1 rfl (by kernel_rfl) (by decide)
theorem Z7t : Ty Tryd.prog 75 Zeq := ⟨by kernel_rfl, by kernel_rfl⟩
theorem Zzs : Zq Tryd.prog 16 := by
 unfold Zq
 kernel_rfl
theorem Zqd : Ty Tryd.prog 36 Zs.sl := ⟨by kernel_rfl, by kernel_rfl⟩
theorem Z3a : Zq Tryd.prog 24 := by
 unfold Zq
 kernel_rfl
theorem Zzc : TE Tryd.prog 36 58 Zs 104 := TE.of Tryd.underlying36 (by kernel_rfl) (by decide) (by decide)
theorem Z3j : Zq Tryd.prog 23 := by
 unfold Zq
 kernel_rfl
theorem Zzw : (Tryd.prog.info? 34).map (·.size) = some Zck.sz := by kernel_rfl
theorem en_8 : Zq Tryd.prog 8 := by
 unfold Zq
 kernel_rfl
theorem Z3c : TE Tryd.prog 50 38 Zb0 40 := TE.of Tryd.underlying50 (by kernel_rfl) (by decide) (by decide)
theorem Zzl : (Tryd.prog.info? 58).map (·.size) = some Zs.sz := by kernel_rfl
theorem Zyl : Fld Tryd.prog 58 1 Zs (Kd.int .i64) (fun x : Zg => x.Num) := Fld.of ⟨_, (Kd.int .i64), 1, fun x : Zg => x.Num⟩ (List.mem_of_getElem? (i := 1) rfl) 1 rfl (by kernel_rfl) (by decide)
theorem Zqb : Fld Tryd.prog 38 0 Zb0 (Kd.int .i64) (fun x : Zv => x.Code) := Fld.of ⟨_, (Kd.int .i64), 0, fun x : Zv => x.Code⟩ (List.mem_of_getElem? (i := 0) rfl) 0 rfl (by kernel_rfl) (by decide)
theorem Zqi : Fld Tryd.prog 38 1 Zb0 (Kd.int .i64) (fun x : Zv => x.At) := Fld.of ⟨_, (Kd.int .i64), 1, fun x : Zv => x.At⟩ (List.mem_of_getElem? (i := 1) rfl) 1 rfl (by kernel_rfl) (by decide)
theorem Zmo : Fld Tryd.prog 38 2 Zb0 Zs.sl (fun x : Zv => x.Answers) := Fld.of ⟨_, Zs.sl, 2, fun x : Zv => x.Answers⟩ (List.mem_of_getElem? (i := 2) rfl) 2 rfl (by kernel_rfl) (by decide)
theorem Z7x : Zq Tryd.prog 32 := by
 unfold Zq
 kernel_rfl
theorem Z7r : Zq Tryd.prog 31 := by
 unfold Zq
 kernel_rfl
theorem Z5w {N d : Nat} {o : Oper} {uses : Z9}   (hop : o.op = .build 27 #[]) (hd : o.dst = some d)  : OB Tryd.prog N o uses [(d, Zt.pd { top := shelf_nodeT.nil, room := (0 : Int) })] [] := by
 refine Zct hop hd fun a g hh => ?_
 refine ⟨.agg #[.pointer none, .int .i64 0], ?_, [.pointer none, .int .i64 0], ⟨rfl, (List.forall_mem_cons.2 ⟨(Zj5 _), (List.forall_mem_cons.2 ⟨(rfl), (fun _ h => by cases h)⟩)⟩)⟩, rfl⟩
 simp only [List.map_toArray, List.map_cons, List.map_nil, List.map_nil]
 exact Zcg Tryd.underlying27 (zero := .agg #[.pointer none, .int .i64 0]) (by kernel_rfl) (places := [(0, 1), (1, 1)]) (by kernel_rfl) (by kernel_rfl) g.w
theorem Z31 {N d : Nat} {o : Oper} {uses : Z9} {x1 : Operand} {v1 : Int} (hop : o.op = .build 27 #[(1, x1)]) (hd : o.dst = some d) (h1 : Opd uses x1 ((Kd.int .i64).pd v1)) : OB Tryd.prog N o uses [(d, Zt.pd { top := shelf_nodeT.nil, room := v1 })] [] := by
 refine Zct hop hd fun a g hh => ?_
 obtain ⟨c1, k1, e1⟩ := h1 a g hh
 obtain rfl := k1
 refine ⟨.agg #[.pointer none, .int .i64 v1], ?_, [.pointer none, .int .i64 v1], ⟨rfl, (List.forall_mem_cons.2 ⟨(Zj5 _), (List.forall_mem_cons.2 ⟨rfl, (fun _ h => by cases h)⟩)⟩)⟩, rfl⟩
 simp only [List.map_toArray, List.map_cons, List.map_nil, e1]
 exact Zcg Tryd.underlying27 (zero := .agg #[.pointer none, .int .i64 0]) (by kernel_rfl) (places := [(0, 1), (1, 1)]) (by kernel_rfl) (by kernel_rfl) g.w
theorem Z3n : Zq Tryd.prog 17 := by
 unfold Zq
 kernel_rfl
theorem Z1x {N d : Nat} {o : Oper} {uses : Z9} {x0 : Operand} {x3 : Operand} {v0 : Int} {v3 : Int} (hop : o.op = .build 45 #[(0, x0), (3, x3)]) (hd : o.dst = some d) (h0 : Opd uses x0 ((Kd.int .i64).pd v0)) (h3 : Opd uses x3 ((Kd.int .i64).pd v3)) : OB Tryd.prog N o uses [(d, Zi.pd { Kind := v0, Num := (0 : Int), Low := (0 : Int), High := v3, Real := (0 : Nat), Cap := (0 : Int), Text := ByteArray.empty, List := ([] : List Zj) })] [] := by
 refine Zct hop hd fun a g hh => ?_
 obtain ⟨c0, k0, e0⟩ := h0 a g hh
 obtain rfl := k0
 obtain ⟨c3, k3, e3⟩ := h3 a g hh
 obtain rfl := k3
 refine ⟨.agg #[.int .i64 v0, .int .i64 0, .int .i64 0, .int .i64 v3, .float .f64 0, .int .i64 0, .string ByteArray.empty, .slice none 0 0], ?_, [.int .i64 v0, .int .i64 0, .int .i64 0, .int .i64 v3, .float .f64 0, .int .i64 0, .string ByteArray.empty, .slice none 0 0], ⟨rfl, (List.forall_mem_cons.2 ⟨rfl, (List.forall_mem_cons.2 ⟨(rfl), (List.forall_mem_cons.2 ⟨(rfl), (List.forall_mem_cons.2 ⟨rfl, (List.forall_mem_cons.2 ⟨(rfl), (List.forall_mem_cons.2 ⟨(rfl), (List.forall_mem_cons.2 ⟨(rfl), (List.forall_mem_cons.2 ⟨(⟨none, 0, rfl, Nat.le_refl _, Nat.zero_le _, .inl rfl⟩), (fun _ h => by cases h)⟩)⟩)⟩)⟩)⟩)⟩)⟩)⟩)⟩, rfl⟩
 simp only [List.map_toArray, List.map_cons, List.map_nil, e0, e3]
 exact Zcg Tryd.underlying45 (zero := .agg #[.int .i64 0, .int .i64 0, .int .i64 0, .int .i64 0, .float .f64 0, .int .i64 0, .string ByteArray.empty, .slice none 0 0]) (by kernel_rfl) (places := [(0, 1), (1, 1), (2, 1), (3, 1), (4, 1), (5, 1), (6, 1), (7, 1)]) (by kernel_rfl) (by kernel_rfl) g.w
theorem Zxe {N d : Nat} {o : Oper} {uses : Z9} {x0 : Operand} {x1 : Operand} {x5 : Operand} {v0 : Int} {v1 : ByteArray} {v5 : Zd} (hop : o.op = .build 56 #[(0, x0), (1, x1), (5, x5)]) (hd : o.dst = some d) (h0 : Opd uses x0 ((Kd.int .i64).pd v0)) (h1 : Opd uses x1 (Kd.str.pd v1)) (h5 : Opd uses x5 (Zi.pd v5)) : OB Tryd.prog N o uses [(d, Z7.pd { Kind := v0, Key := v1, N := (0 : Int), X := (0 : Nat), S := ByteArray.empty, Make := v5, Must := false })] [] := by
 refine Zct hop hd fun a g hh => ?_
 obtain ⟨c0, k0, e0⟩ := h0 a g hh
 obtain rfl := k0
 obtain ⟨c1, k1, e1⟩ := h1 a g hh
 obtain rfl := k1
 obtain ⟨c5, k5, e5⟩ := h5 a g hh
 obtain ⟨u5_0, u5_1, u5_2, u5_3, u5_4, u5_5, u5_6, u5_7, rfl⟩ := Zvh (Zi.len k5)
 refine ⟨.agg #[.int .i64 v0, .string v1, .int .i64 0, .float .f64 0, .string ByteArray.empty, u5_0, u5_1, u5_2, u5_3, u5_4, u5_5, u5_6, u5_7, .bool false], ?_, [.int .i64 v0, .string v1, .int .i64 0, .float .f64 0, .string ByteArray.empty, u5_0, u5_1, u5_2, u5_3, u5_4, u5_5, u5_6, u5_7, .bool false], ⟨rfl, (List.forall_mem_cons.2 ⟨rfl, (List.forall_mem_cons.2 ⟨rfl, (List.forall_mem_cons.2 ⟨(rfl), (List.forall_mem_cons.2 ⟨(rfl), (List.forall_mem_cons.2 ⟨(rfl), (List.forall_mem_cons.2 ⟨k5, (List.forall_mem_cons.2 ⟨(rfl), (fun _ h => by cases h)⟩)⟩)⟩)⟩)⟩)⟩)⟩)⟩, rfl⟩
 simp only [List.map_toArray, List.map_cons, List.map_nil, e0, e1, e5]
 exact Zcg Tryd.underlying56 (zero := .agg #[.int .i64 0, .string ByteArray.empty, .int .i64 0, .float .f64 0, .string ByteArray.empty, .int .i64 0, .int .i64 0, .int .i64 0, .int .i64 0, .float .f64 0, .int .i64 0, .string ByteArray.empty, .slice none 0 0, .bool false]) (by kernel_rfl) (places := [(0, 1), (1, 1), (2, 1), (3, 1), (4, 1), (5, 8), (13, 1)]) (by kernel_rfl) (by kernel_rfl) g.w
theorem Zur {N d : Nat} {o : Oper} {uses : Z9} {x0 : Operand} {x1 : Operand} {x2 : Operand} {x6 : Operand} {v0 : Int} {v1 : ByteArray} {v2 : Int} {v6 : Bool} (hop : o.op = .build 56 #[(0, x0), (1, x1), (2, x2), (6, x6)]) (hd : o.dst = some d) (h0 : Opd uses x0 ((Kd.int .i64).pd v0)) (h1 : Opd uses x1 (Kd.str.pd v1)) (h2 : Opd uses x2 ((Kd.int .i64).pd v2)) (h6 : Opd uses x6 (Kd.bool.pd v6)) : OB Tryd.prog N o uses [(d, Z7.pd { Kind := v0, Key := v1, N := v2, X := (0 : Nat), S := ByteArray.empty, Make := (default : Zd), Must := v6 })] [] := by
 refine Zct hop hd fun a g hh => ?_
 obtain ⟨c0, k0, e0⟩ := h0 a g hh
 obtain rfl := k0
 obtain ⟨c1, k1, e1⟩ := h1 a g hh
 obtain rfl := k1
 obtain ⟨c2, k2, e2⟩ := h2 a g hh
 obtain rfl := k2
 obtain ⟨c6, k6, e6⟩ := h6 a g hh
 obtain rfl := k6
 refine ⟨.agg #[.int .i64 v0, .string v1, .int .i64 v2, .float .f64 0, .string ByteArray.empty, .int .i64 0, .int .i64 0, .int .i64 0, .int .i64 0, .float .f64 0, .int .i64 0, .string ByteArray.empty, .slice none 0 0, .bool v6], ?_, [.int .i64 v0, .string v1, .int .i64 v2, .float .f64 0, .string ByteArray.empty, .int .i64 0, .int .i64 0, .int .i64 0, .int .i64 0, .float .f64 0, .int .i64 0, .string ByteArray.empty, .slice none 0 0, .bool v6], ⟨rfl, (List.forall_mem_cons.2 ⟨rfl, (List.forall_mem_cons.2 ⟨rfl, (List.forall_mem_cons.2 ⟨rfl, (List.forall_mem_cons.2 ⟨(rfl), (List.forall_mem_cons.2 ⟨(rfl), (List.forall_mem_cons.2 ⟨(Zch _), (List.forall_mem_cons.2 ⟨rfl, (fun _ h => by cases h)⟩)⟩)⟩)⟩)⟩)⟩)⟩)⟩, rfl⟩
 simp only [List.map_toArray, List.map_cons, List.map_nil, e0, e1, e2, e6]
 exact Zcg Tryd.underlying56 (zero := .agg #[.int .i64 0, .string ByteArray.empty, .int .i64 0, .float .f64 0, .string ByteArray.empty, .int .i64 0, .int .i64 0, .int .i64 0, .int .i64 0, .float .f64 0, .int .i64 0, .string ByteArray.empty, .slice none 0 0, .bool false]) (by kernel_rfl) (places := [(0, 1), (1, 1), (2, 1), (3, 1), (4, 1), (5, 8), (13, 1)]) (by kernel_rfl) (by kernel_rfl) g.w
theorem Zzp : TE Tryd.prog 32 56 Z7 152 := TE.of Tryd.underlying32 (by kernel_rfl) (by decide) (by decide)
theorem Ztj {N d : Nat} {o : Oper} {uses : Z9} {x0 : Operand} {v0 : List Zx} (hop : o.op = .build 34 #[(0, x0)]) (hd : o.dst = some d) (h0 : Opd uses x0 (Z7.sl.pd v0)) : OB Tryd.prog N o uses [(d, Zck.pd { Acts := v0 })] [] := by
 refine Zct hop hd fun a g hh => ?_
 obtain ⟨c0, k0, e0⟩ := h0 a g hh
 obtain ⟨A0, n0, rfl, l0⟩ := k0
 refine ⟨.agg #[.slice A0 v0.length n0], ?_, [.slice A0 v0.length n0], ⟨rfl, (List.forall_mem_cons.2 ⟨⟨A0, n0, rfl, l0⟩, (fun _ h => by cases h)⟩)⟩, rfl⟩
 simp only [List.map_toArray, List.map_cons, List.map_nil, e0]
 exact Zcg Tryd.underlying34 (zero := .agg #[.slice none 0 0]) (by kernel_rfl) (places := [(0, 1)]) (by kernel_rfl) (by kernel_rfl) g.w
theorem Z7n : TE Tryd.prog 23 34 Zck 24 := TE.of Tryd.underlying23 (by kernel_rfl) (by decide) (by decide)
theorem Z3b : Zq Tryd.prog 13 := by
 unfold Zq
 kernel_rfl
theorem Zz1 : Zq Tryd.prog 14 := by
 unfold Zq
 kernel_rfl
theorem Zvf : (Tryd.prog.info? 38).map (·.size) = some Zb0.sz := by kernel_rfl
theorem Zzy : Zq Tryd.prog 88 := by
 unfold Zq
 kernel_rfl
theorem Z1a : Zq Tryd.prog 100 := by
 unfold Zq
 kernel_rfl
theorem Zzx : Zq Tryd.prog 97 := by
 unfold Zq
 kernel_rfl
theorem Z22 : Zq Tryd.prog 96 := by
 unfold Zq
 kernel_rfl
theorem Z27 : Zq Tryd.prog 87 := by
 unfold Zq
 kernel_rfl
theorem Z6f : TE Tryd.prog 135 9 Kd.str 16 := TE.of Tryd.underlying135 (by kernel_rfl) (by decide) (by decide)
theorem sz_9 : (Tryd.prog.info? 9).map (·.size) = some Kd.str.sz := by kernel_rfl
theorem Z23 : Zq Tryd.prog 58 := by
 unfold Zq
 kernel_rfl
theorem Z8g : Zq Tryd.prog 89 := by
 unfold Zq
 kernel_rfl
theorem Z8v : Zq Tryd.prog 57 := by
 unfold Zq
 kernel_rfl
theorem Z8u : Zq Tryd.prog 56 := by
 unfold Zq
 kernel_rfl
theorem Z7f : Zq Tryd.prog 59 := by
 unfold Zq
 kernel_rfl
theorem Zlq : Fld Tryd.prog 64 0 Zbr Zbx.sl (fun x : Zl => x.L) := Fld.of ⟨_, Zbx.sl, 0, fun x : Zl => x.L⟩ (List.mem_of_getElem? (i := 0) rfl) 0 rfl (by kernel_rfl) (by decide)
theorem Zom : Ty Tryd.prog 22 Zbx.sl := ⟨by kernel_rfl, by kernel_rfl⟩
theorem Zsm : (Tryd.prog.info? 66).map (·.size) = some Zbx.sz := by kernel_rfl
theorem Zoc : Fld Tryd.prog 66 0 Zbx Kd.str (fun x : Z5 => x.Key) := Fld.of ⟨_, Kd.str, 0, fun x : Z5 => x.Key⟩ (List.mem_of_getElem? (i := 0) rfl) 0 rfl (by kernel_rfl) (by decide)
theorem Zis : Ty Tryd.prog 64 Zbr := ⟨by kernel_rfl, by kernel_rfl⟩
theorem Z62 : Zq Tryd.prog 39 := by
 unfold Zq
 kernel_rfl
theorem Z8r : Zq Tryd.prog 40 := by
 unfold Zq
 kernel_rfl
theorem Zx1 : Fld Tryd.prog 64 1 Zbr (Kd.int .i64) (fun x : Zl => x.Room) := Fld.of ⟨_, (Kd.int .i64), 1, fun x : Zl => x.Room⟩ (List.mem_of_getElem? (i := 1) rfl) 1 rfl (by kernel_rfl) (by decide)
theorem Zs0 : TE Tryd.prog 22 66 Zbx 104 := TE.of Tryd.underlying22 (by kernel_rfl) (by decide) (by decide)
theorem Z1n {N d : Nat} {o : Oper} {uses : Z9} {x0 : Operand} {x1 : Operand} {v0 : ByteArray} {v1 : Zd} (hop : o.op = .build 66 #[(0, x0), (1, x1)]) (hd : o.dst = some d) (h0 : Opd uses x0 (Kd.str.pd v0)) (h1 : Opd uses x1 (Zi.pd v1)) : OB Tryd.prog N o uses [(d, Zbx.pd { Key := v0, Rec := v1 })] [] := by
 refine Zct hop hd fun a g hh => ?_
 obtain ⟨c0, k0, e0⟩ := h0 a g hh
 obtain rfl := k0
 obtain ⟨c1, k1, e1⟩ := h1 a g hh
 obtain ⟨u1_0, u1_1, u1_2, u1_3, u1_4, u1_5, u1_6, u1_7, rfl⟩ := Zvh (Zi.len k1)
 refine ⟨.agg #[.string v0, u1_0, u1_1, u1_2, u1_3, u1_4, u1_5, u1_6, u1_7], ?_, [.string v0, u1_0, u1_1, u1_2, u1_3, u1_4, u1_5, u1_6, u1_7], ⟨rfl, (List.forall_mem_cons.2 ⟨rfl, (List.forall_mem_cons.2 ⟨k1, (fun _ h => by cases h)⟩)⟩)⟩, rfl⟩
 simp only [List.map_toArray, List.map_cons, List.map_nil, e0, e1]
 exact Zcg Tryd.underlying66 (zero := .agg #[.string ByteArray.empty, .int .i64 0, .int .i64 0, .int .i64 0, .int .i64 0, .float .f64 0, .int .i64 0, .string ByteArray.empty, .slice none 0 0]) (by kernel_rfl) (places := [(0, 1), (1, 8)]) (by kernel_rfl) (by kernel_rfl) g.w
theorem Z1c {N d : Nat} {o : Oper} {uses : Z9} {x0 : Operand} {x1 : Operand} {v0 : List Z5} {v1 : Int} (hop : o.op = .build 64 #[(0, x0), (1, x1)]) (hd : o.dst = some d) (h0 : Opd uses x0 (Zbx.sl.pd v0)) (h1 : Opd uses x1 ((Kd.int .i64).pd v1)) : OB Tryd.prog N o uses [(d, Zbr.pd { L := v0, Room := v1 })] [] := by
 refine Zct hop hd fun a g hh => ?_
 obtain ⟨c0, k0, e0⟩ := h0 a g hh
 obtain ⟨A0, n0, rfl, l0⟩ := k0
 obtain ⟨c1, k1, e1⟩ := h1 a g hh
 obtain rfl := k1
 refine ⟨.agg #[.slice A0 v0.length n0, .int .i64 v1], ?_, [.slice A0 v0.length n0, .int .i64 v1], ⟨rfl, (List.forall_mem_cons.2 ⟨⟨A0, n0, rfl, l0⟩, (List.forall_mem_cons.2 ⟨rfl, (fun _ h => by cases h)⟩)⟩)⟩, rfl⟩
 simp only [List.map_toArray, List.map_cons, List.map_nil, e0, e1]
 exact Zcg Tryd.underlying64 (zero := .agg #[.slice none 0 0, .int .i64 0]) (by kernel_rfl) (places := [(0, 1), (1, 1)]) (by kernel_rfl) (by kernel_rfl) g.w
theorem Z36 {N d : Nat} {o : Oper} {uses : Z9} {x1 : Operand} {v1 : Int} (hop : o.op = .build 64 #[(1, x1)]) (hd : o.dst = some d) (h1 : Opd uses x1 ((Kd.int .i64).pd v1)) : OB Tryd.prog N o uses [(d, Zbr.pd { L := ([] : List Z5), Room := v1 })] [] := by
 refine Zct hop hd fun a g hh => ?_
 obtain ⟨c1, k1, e1⟩ := h1 a g hh
 obtain rfl := k1
 refine ⟨.agg #[.slice none 0 0, .int .i64 v1], ?_, [.slice none 0 0, .int .i64 v1], ⟨rfl, (List.forall_mem_cons.2 ⟨(⟨none, 0, rfl, Nat.le_refl _, Nat.zero_le _, .inl rfl⟩), (List.forall_mem_cons.2 ⟨rfl, (fun _ h => by cases h)⟩)⟩)⟩, rfl⟩
 simp only [List.map_toArray, List.map_cons, List.map_nil, e1]
 exact Zcg Tryd.underlying64 (zero := .agg #[.slice none 0 0, .int .i64 0]) (by kernel_rfl) (places := [(0, 1), (1, 1)]) (by kernel_rfl) (by kernel_rfl) g.w
theorem Z28 : Ty Tryd.prog 66 Zbx := ⟨by kernel_rfl, by kernel_rfl⟩
theorem Ztw : Fld Tryd.prog 66 1 Zbx Zi (fun x : Z5 => x.Rec) := Fld.of ⟨_, Zi, 1, fun x : Z5 => x.Rec⟩ (List.mem_of_getElem? (i := 1) rfl) 1 rfl (by kernel_rfl) (by decide)
theorem Z3t : Zq Tryd.prog 18 := by
 unfold Zq
 kernel_rfl
theorem Z8j : Zq Tryd.prog 20 := by
 unfold Zq
 kernel_rfl
theorem Z68 : Zq Tryd.prog 41 := by
 unfold Zq
 kernel_rfl
theorem Z73 : Zq Tryd.prog 21 := by
 unfold Zq
 kernel_rfl
theorem en_5 : Zq Tryd.prog 5 := by
 unfold Zq
 kernel_rfl
theorem en_6 : Zq Tryd.prog 6 := by
 unfold Zq
 kernel_rfl
theorem en_7 : Zq Tryd.prog 7 := by
 unfold Zq
 kernel_rfl
theorem Z3m : Zq Tryd.prog 11 := by
 unfold Zq
 kernel_rfl
theorem Zze : Zq Tryd.prog 15 := by
 unfold Zq
 kernel_rfl
theorem Zxt {N d : Nat} {o : Oper} {uses : Z9} {x2 : Operand} {v2 : List Zg} (hop : o.op = .build 38 #[(2, x2)]) (hd : o.dst = some d) (h2 : Opd uses x2 (Zs.sl.pd v2)) : OB Tryd.prog N o uses [(d, Zb0.pd { Code := (0 : Int), At := (0 : Int), Answers := v2 })] [] := by
 refine Zct hop hd fun a g hh => ?_
 obtain ⟨c2, k2, e2⟩ := h2 a g hh
 obtain ⟨A2, n2, rfl, l2⟩ := k2
 refine ⟨.agg #[.int .i64 0, .int .i64 0, .slice A2 v2.length n2], ?_, [.int .i64 0, .int .i64 0, .slice A2 v2.length n2], ⟨rfl, (List.forall_mem_cons.2 ⟨(rfl), (List.forall_mem_cons.2 ⟨(rfl), (List.forall_mem_cons.2 ⟨⟨A2, n2, rfl, l2⟩, (fun _ h => by cases h)⟩)⟩)⟩)⟩, rfl⟩
 simp only [List.map_toArray, List.map_cons, List.map_nil, e2]
 exact Zcg Tryd.underlying38 (zero := .agg #[.int .i64 0, .int .i64 0, .slice none 0 0]) (by kernel_rfl) (places := [(0, 1), (1, 1), (2, 1)]) (by kernel_rfl) (by kernel_rfl) g.w
theorem Zc7 (a0 : shelf_nodeT) {r : Int} (h : Zcc a0 = some r) : FnOk Tryd.prog 25 [(Z2.pd a0)] (pInt .i64 r) := by
 have H0 := h
 unfold Zcc at H0
 clear h
 refine Zbu (N := 9) Tryd.func25 rfl rfl (Nat.le_of_ble_eq_true rfl) rfl rfl (fun a g0 hst hb => ?_)
 refine r_s (T := [⟨[], _, [], [], [2]⟩]) (F := [.old 0]) hst hb Zb
   (o_p rfl (Zc rfl rfl c_i) <| o_n) (by kernel_rfl) (fun a g hst hb => ?_)
 refine wp_seq ?_
 refine r_s (T := [⟨[.old 0], _, [], [], [3]⟩, ⟨[.op 0 0], _, [], [0], [4]⟩]) (F := [.old 0, .op 1 0]) hst hb Zb
   (o_p rfl (Za rfl rfl u_0) <| o_p rfl (Zn8 Tryd.underlying25 rfl rfl u_0 (Zeb _)) <| o_n) (by kernel_rfl) (fun a g hst hb => ?_)
 refine wp_cond_split (hst.bool 1 rfl) (fun hc1 => ?_) (fun hc1 => ?_)
 · replace H0 := Z0 hc1 H0
   refine r_s (L := []) (T := [⟨[], _, [], [], [2]⟩]) (F := [.op 0 0]) (hst.pick [] rfl) hb Zb
     (o_p rfl (Zc rfl rfl c_i) <| o_n) (by kernel_rfl) (fun a g hst hb => ?_)
   refine wp_ret ?_
   refine Zn ?_
   obtain rfl := Option.some.inj H0
   exact Z3 rfl hst hb (Zm (s := 2)) (hst.at 0 rfl)
 · replace H0 := Zz hc1 H0
   refine wp_skip ?_
   refine Zu ?_
   obtain ⟨n2, h3, H0⟩ := Zh H0
   refine r_s (L := [(0, _)]) (T := [⟨[.old 0], _, [], [], [5]⟩, ⟨[.op 0 0], _, [], [0], [6]⟩, ⟨[.op 1 0], _, [], [0, 1], [7]⟩, ⟨[.op 2 0], _, [], [0, 1, 2], [8]⟩, ⟨[.op 3 0], _, [], Lr 4, [2]⟩]) (F := [.op 4 0]) (hst.pick [0] rfl) hb Zb
     (o_p rfl (Za rfl rfl u_0) <| o_p rfl (Zo rfl rfl (Opd.imp u_0 (fun _ _ h => Zr h3 h)) (fun _ _ ⟨_, _, _, e, _⟩ => ⟨_, e⟩)) <| o_p rfl (Ze Z35 rfl rfl u_0) <| o_p rfl (Zf ty_3 rfl rfl u_0) <| o_p rfl (Zc rfl rfl u_0) <| o_n) (by kernel_rfl) (fun a g hst hb => ?_)
   refine wp_ret ?_
   obtain rfl := Option.some.inj H0
   exact Z3 rfl hst hb (Zm (s := 2)) (hst.at 0 rfl)
theorem Zfd (a0 : Zk) {r : Int} (h : Zdn a0 = some r) : FnOk Tryd.prog 9 [(Zt.pd a0)] (pInt .i64 r) := by
 have H0 := h
 unfold Zdn at H0
 clear h
 refine Zbu (N := 6) Tryd.func9 rfl rfl (Nat.le_of_ble_eq_true rfl) rfl rfl (fun a g0 hst hb => ?_)
 refine r_s (T := [⟨[.old 0], _, [], [], [1]⟩, ⟨[], _, [], [], [2]⟩]) (F := [.op 0 0]) hst hb Zb
   (o_p rfl (Zbl rfl rfl u_0) <| o_p rfl (Zc rfl rfl c_i) <| o_n) (by kernel_rfl) (fun a g hst hb => ?_)
 obtain ⟨r1, h2, H0⟩ := Zh H0
 refine r_s (T := [⟨[.old 0], _, [], [], [3]⟩, ⟨[.op 0 0], _, [], [0], [4]⟩, ⟨[.op 1 0], _, [], [0, 1], [5]⟩, ⟨[.op 2 0], _, [], [0, 1, 2], [2]⟩]) (F := [.op 3 0]) hst hb Zb
   (o_p rfl (Ze Zn9 rfl rfl u_0) <| o_p rfl (Zf Zcv rfl rfl u_0) <| o_p rfl (Zp Zlu (Zc7 _ h2) rfl rfl (.cons u_0 .nil)) <| o_p rfl (Zc rfl rfl u_0) <| o_n) (by kernel_rfl) (fun a g hst hb => ?_)
 refine wp_ret ?_
 obtain rfl := Option.some.inj H0
 exact Z3 rfl hst hb (Zm (s := 2)) (hst.at 0 rfl)
theorem Zu2 (a0 : Int) {r : Zb1} (h : Zdv a0 = some r) : FnOk Tryd.prog 27 [(pInt .i64 a0)] (Zcu.pd r) := by
 have H0 := h
 unfold Zdv at H0
 clear h
 refine Zbu (N := 24) Tryd.func27 rfl rfl (Nat.le_of_ble_eq_true rfl) rfl rfl (fun a g0 hst hb => ?_)
 refine r_s (T := [⟨[], [(2, (pBox Zcu 2 (default : Zb1)))], [3], [], [2]⟩]) (F := [.old 0, .op 0 0]) hst hb Zb
   (o_p rfl (Zbb (zs := [.bool false, .bool false, .bool false, .bool false, .bool false]) (by kernel_rfl) (fun g => Zpt g) rfl rfl) <| o_n) (by kernel_rfl) (fun a g hst hb => ?_)
 refine wp_seq ?_
 refine r_s (T := [⟨[.old 0], _, [], [], [3]⟩]) (F := [.old 1, .op 0 0]) hst hb Zb
   (o_p rfl (Za rfl rfl u_0) <| o_n) (by kernel_rfl) (fun a g hst hb => ?_)
 refine wp_block ?_
 refine r_s (T := [⟨[.old 1], _, [], [], [5]⟩, ⟨[.op 0 0], _, [], [0], [4]⟩]) (F := [.old 0, .old 1, .op 1 0]) hst hb Zb
   (o_p rfl (Zbw rfl rfl u_0 c_i) <| o_p rfl (Zc rfl rfl u_0) <| o_n) (by kernel_rfl) (fun a g hst hb => ?_)
 refine wp_cond_split (hst.bool 2 rfl) (fun hc1 => ?_) (fun hc1 => ?_)
 · replace H0 := Z0 hc1 H0
   refine r_s (L := [(2, _)]) (T := [⟨[], _, [], [], [6]⟩, ⟨[.op 0 0, .old 0], _, [3], [0], [2]⟩]) (F := [.op 1 0]) (hst.pick [0] rfl) hb Zb
     (o_p rfl (Z5k rfl rfl c_b) <| o_p rfl (Z6 Zjg rfl rfl u_1 u_0) <| o_n) (by kernel_rfl) (fun a g hst hb => ?_)
   refine wp_ret ?_
   refine Zw ?_
   refine Zn ?_
   obtain rfl := Option.some.inj H0
   obtain ⟨u0, hu0, hq0⟩ := Zbh (P := Tryd.prog) Zjg (hst.at 0 rfl)
   exact Z3 rfl hst hb hu0 hq0
 · replace H0 := Zz hc1 H0
   refine wp_seq ?_
   refine r_s (L := [(2, _), (3, _)]) (T := [⟨[.old 1], _, [], [], [8]⟩, ⟨[.op 0 0], _, [], [0], [7]⟩]) (F := [.old 0, .old 1, .op 1 0]) (hst.pick [0, 1] rfl) hb Zb
     (o_p rfl (Zbw rfl rfl u_0 c_i) <| o_p rfl (Zc rfl rfl u_0) <| o_n) (by kernel_rfl) (fun a g hst hb => ?_)
   refine Zc0 (fun a w => ∃ (j3 : Bool) (g : G), w = g.w ∧ St 24 [(2, (pBox Zcu 2 (default : Zb1))), (3, (pInt .i64 a0)), (7, (Zbd j3))] a g ∧ Base g0 g ∧ Zi5 a0 j3 = some r) ?_ ?_
   · rintro a w ⟨j3, g, rfl, hst, hb, H0⟩
     unfold Zi5 at H0
     refine Zu ?_
     refine wp_cond_split (hst.bool 2 rfl) (fun hc4 => ?_) (fun hc4 => ?_)
     · replace H0 := Z0 hc4 H0
       refine r_s (L := [(2, _)]) (T := [⟨[], _, [], [], [10]⟩, ⟨[.op 0 0, .old 0], _, [3], [0], [2]⟩]) (F := [.op 1 0]) (hst.pick [0] rfl) hb Zb
         (o_p rfl (Z4m rfl rfl c_b) <| o_p rfl (Z6 Zjg rfl rfl u_1 u_0) <| o_n) (by kernel_rfl) (fun a g hst hb => ?_)
       refine wp_ret ?_
       refine Zw ?_
       refine Zn ?_
       obtain rfl := Option.some.inj H0
       obtain ⟨u0, hu0, hq0⟩ := Zbh (P := Tryd.prog) Zjg (hst.at 0 rfl)
       exact Z3 rfl hst hb hu0 hq0
     · replace H0 := Zz hc4 H0
       refine r_s (L := [(2, _), (3, _)]) (T := [⟨[.old 1], _, [], [], [12]⟩, ⟨[.op 0 0], _, [], [0], [11]⟩]) (F := [.old 0, .old 1, .op 1 0]) (hst.pick [0, 1] rfl) hb Zb
         (o_p rfl (Zbw rfl rfl u_0 c_i) <| o_p rfl (Zc rfl rfl u_0) <| o_n) (by kernel_rfl) (fun a g hst hb => ?_)
       refine wp_cond_split (hst.bool 2 rfl) (fun hc5 => ?_) (fun hc5 => ?_)
       · replace H0 := Z0 hc5 H0
         refine r_s (L := [(2, _)]) (T := [⟨[], _, [], [], [13]⟩, ⟨[.op 0 0, .old 0], _, [3], [0], [2]⟩]) (F := [.op 1 0]) (hst.pick [0] rfl) hb Zb
           (o_p rfl (Zz7 rfl rfl c_b c_b) <| o_p rfl (Z6 Zjg rfl rfl u_1 u_0) <| o_n) (by kernel_rfl) (fun a g hst hb => ?_)
         refine wp_ret ?_
         refine Zw ?_
         refine Zn ?_
         obtain rfl := Option.some.inj H0
         obtain ⟨u0, hu0, hq0⟩ := Zbh (P := Tryd.prog) Zjg (hst.at 0 rfl)
         exact Z3 rfl hst hb hu0 hq0
       · replace H0 := Zz hc5 H0
         refine wp_seq ?_
         refine r_s (L := [(2, _), (3, _)]) (T := [⟨[.old 1], _, [], [], [15]⟩, ⟨[.op 0 0], _, [], [0], [14]⟩]) (F := [.old 0, .old 1, .op 1 0]) (hst.pick [0, 1] rfl) hb Zb
           (o_p rfl (Zbw rfl rfl u_0 c_i) <| o_p rfl (Zc rfl rfl u_0) <| o_n) (by kernel_rfl) (fun a g hst hb => ?_)
         refine Zc0 (fun a w => ∃ (j8 : Bool) (g : G), w = g.w ∧ St 24 [(2, (pBox Zcu 2 (default : Zb1))), (3, (pInt .i64 a0)), (14, (Zbd j8))] a g ∧ Base g0 g ∧ Zho a0 j8 = some r) ?_ ?_
         · rintro a w ⟨j8, g, rfl, hst, hb, H0⟩
           unfold Zho at H0
           refine Zu ?_
           refine wp_cond_split (hst.bool 2 rfl) (fun hc9 => ?_) (fun hc9 => ?_)
           · replace H0 := Z0 hc9 H0
             refine r_s (L := [(2, _)]) (T := [⟨[], _, [], [], [18]⟩, ⟨[.op 0 0, .old 0], _, [3], [0], [2]⟩]) (F := [.op 1 0]) (hst.pick [0] rfl) hb Zb
               (o_p rfl (Z45 rfl rfl c_b) <| o_p rfl (Z6 Zjg rfl rfl u_1 u_0) <| o_n) (by kernel_rfl) (fun a g hst hb => ?_)
             refine wp_ret ?_
             refine Zw ?_
             refine Zn ?_
             obtain rfl := Option.some.inj H0
             obtain ⟨u0, hu0, hq0⟩ := Zbh (P := Tryd.prog) Zjg (hst.at 0 rfl)
             exact Z3 rfl hst hb hu0 hq0
           · replace H0 := Zz hc9 H0
             refine wp_seq ?_
             refine r_s (L := [(2, _), (3, _)]) (T := [⟨[.old 1], _, [], [], [20]⟩, ⟨[.op 0 0], _, [], [0], [19]⟩]) (F := [.old 0, .old 1, .op 1 0]) (hst.pick [0, 1] rfl) hb Zb
               (o_p rfl (Zbw rfl rfl u_0 c_i) <| o_p rfl (Zc rfl rfl u_0) <| o_n) (by kernel_rfl) (fun a g hst hb => ?_)
             refine Zc0 (fun a w => ∃ (j11 : Bool) (g : G), w = g.w ∧ St 24 [(2, (pBox Zcu 2 (default : Zb1))), (19, (Zbd j11))] a g ∧ Base g0 g ∧ Zi3 j11 = some r) ?_ ?_
             · rintro a w ⟨j11, g, rfl, hst, hb, H0⟩
               unfold Zi3 at H0
               refine Zu ?_
               refine wp_cond_split (hst.bool 1 rfl) (fun hc12 => ?_) (fun hc12 => ?_)
               · replace H0 := Z0 hc12 H0
                 refine r_s (L := [(2, _)]) (T := [⟨[], _, [], [], [22]⟩, ⟨[.op 0 0, .old 0], _, [3], [0], [2]⟩]) (F := [.op 1 0]) (hst.pick [0] rfl) hb Zb
                   (o_p rfl (Z3z rfl rfl c_b) <| o_p rfl (Z6 Zjg rfl rfl u_1 u_0) <| o_n) (by kernel_rfl) (fun a g hst hb => ?_)
                 refine wp_ret ?_
                 refine Zw ?_
                 refine Zn ?_
                 obtain rfl := Option.some.inj H0
                 obtain ⟨u0, hu0, hq0⟩ := Zbh (P := Tryd.prog) Zjg (hst.at 0 rfl)
                 exact Z3 rfl hst hb hu0 hq0
               · replace H0 := Zz hc12 H0
                 refine wp_skip ?_
                 refine Zbt ?_
                 refine Zu ?_
                 refine r_s (L := [(2, _)]) (T := [⟨[], _, [], [], [23]⟩, ⟨[.op 0 0, .old 0], _, [3], [0], [2]⟩]) (F := [.op 1 0]) (hst.pick [0] rfl) hb Zb
                   (o_p rfl (Z5z rfl rfl ) <| o_p rfl (Z6 Zjg rfl rfl u_1 u_0) <| o_n) (by kernel_rfl) (fun a g hst hb => ?_)
                 refine wp_ret ?_
                 obtain rfl := Option.some.inj H0
                 obtain ⟨u0, hu0, hq0⟩ := Zbh (P := Tryd.prog) Zjg (hst.at 0 rfl)
                 exact Z3 rfl hst hb hu0 hq0
             · refine wp_cond_split (hst.bool 2 rfl) (fun hc10 => ?_) (fun hc10 => ?_)
               · replace H0 := Z0 hc10 H0
                 refine wp_skip ?_
                 exact ⟨(a0 == (8 : Int)), g, rfl, (hst.pick [0, 2] rfl), hb, H0⟩
               · replace H0 := Zz hc10 H0
                 refine r_g (L := [(2, _), (3, _)]) (T := [⟨[.old 1], _, [], [], [21]⟩, ⟨[.op 0 0], _, [], [0], [19]⟩]) (F := [.old 0, .op 1 0]) (hst.pick [0, 1] rfl) hb Zb
                   (o_p rfl (Zbw rfl rfl u_0 c_i) <| o_p rfl (Zc rfl rfl u_0) <| o_n) (by kernel_rfl) (fun a g hst hb => ?_)
                 exact ⟨(a0 == (9 : Int)), g, rfl, (hst.pick [0, 1] rfl), hb, H0⟩
         · refine wp_cond_split (hst.bool 2 rfl) (fun hc6 => ?_) (fun hc6 => ?_)
           · replace H0 := Z0 hc6 H0
             refine wp_skip ?_
             exact ⟨(a0 == (5 : Int)), g, rfl, (hst.pick [0, 1, 2] rfl), hb, H0⟩
           · replace H0 := Zz hc6 H0
             refine r_s (L := [(2, _), (3, _)]) (T := [⟨[.old 1], _, [], [], [16]⟩, ⟨[.op 0 0], _, [], [0], [14]⟩]) (F := [.old 0, .old 1, .op 1 0]) (hst.pick [0, 1] rfl) hb Zb
               (o_p rfl (Zbw rfl rfl u_0 c_i) <| o_p rfl (Zc rfl rfl u_0) <| o_n) (by kernel_rfl) (fun a g hst hb => ?_)
             refine wp_cond_split (hst.bool 2 rfl) (fun hc7 => ?_) (fun hc7 => ?_)
             · replace H0 := Z0 hc7 H0
               refine wp_skip ?_
               exact ⟨(a0 == (6 : Int)), g, rfl, (hst.pick [0, 1, 2] rfl), hb, H0⟩
             · replace H0 := Zz hc7 H0
               refine r_g (L := [(2, _), (3, _)]) (T := [⟨[.old 1], _, [], [], [17]⟩, ⟨[.op 0 0], _, [], [0], [14]⟩]) (F := [.old 0, .old 1, .op 1 0]) (hst.pick [0, 1] rfl) hb Zb
                 (o_p rfl (Zbw rfl rfl u_0 c_i) <| o_p rfl (Zc rfl rfl u_0) <| o_n) (by kernel_rfl) (fun a g hst hb => ?_)
               exact ⟨(a0 == (7 : Int)), g, rfl, (hst.pick [0, 1, 2] rfl), hb, H0⟩
   · refine wp_cond_split (hst.bool 2 rfl) (fun hc2 => ?_) (fun hc2 => ?_)
     · replace H0 := Z0 hc2 H0
       refine wp_skip ?_
       exact ⟨(a0 == (2 : Int)), g, rfl, (hst.pick [0, 1, 2] rfl), hb, H0⟩
     · replace H0 := Zz hc2 H0
       refine r_g (L := [(2, _), (3, _)]) (T := [⟨[.old 1], _, [], [], [9]⟩, ⟨[.op 0 0], _, [], [0], [7]⟩]) (F := [.old 0, .old 1, .op 1 0]) (hst.pick [0, 1] rfl) hb Zb
         (o_p rfl (Zbw rfl rfl u_0 c_i) <| o_p rfl (Zc rfl rfl u_0) <| o_n) (by kernel_rfl) (fun a g hst hb => ?_)
       exact ⟨(a0 == (3 : Int)), g, rfl, (hst.pick [0, 1, 2] rfl), hb, H0⟩
theorem Zxk {r : Nat} (h : Zos = some r) : FnOk Tryd.prog 64 [] (pFlt r) := by
 have H0 := h
 unfold Zos at H0
 clear h
 refine Zbu (N := 2) Tryd.func64 rfl rfl (Nat.le_of_ble_eq_true rfl) rfl rfl (fun a g0 hst hb => ?_)
 refine r_s (T := [⟨[], _, [], [], [0]⟩]) (F := []) hst hb Zb
   (o_p rfl (Zc rfl rfl c_f) <| o_n) (by kernel_rfl) (fun a g hst hb => ?_)
 refine r_s (T := [⟨[], _, [], [], [1]⟩, ⟨[.op 0 0], _, [], [0], [0]⟩]) (F := [.op 1 0]) hst hb Zb
   (o_p rfl (Zxd Z8q rfl rfl c_i) <| o_p rfl (Zc rfl rfl u_0) <| o_n) (by kernel_rfl) (fun a g hst hb => ?_)
 refine wp_ret ?_
 obtain rfl := Option.some.inj H0
 exact Z3 rfl hst hb (Zm (s := 0)) (hst.at 0 rfl)
theorem Zge (a0 : Nat) {r : Nat} (h : Ze3 a0 = some r) : FnOk Tryd.prog 46 [(pFlt a0)] (pFlt r) := by
 have H0 := h
 unfold Ze3 at H0
 clear h
 refine Zbu (N := 8) Tryd.func46 rfl rfl (Nat.le_of_ble_eq_true rfl) rfl rfl (fun a g0 hst hb => ?_)
 refine r_s (T := [⟨[], _, [], [], [2]⟩]) (F := [.old 0]) hst hb Zb
   (o_p rfl (Zc rfl rfl c_f) <| o_n) (by kernel_rfl) (fun a g hst hb => ?_)
 refine wp_seq ?_
 refine r_s (T := [⟨[.old 0], _, [], [], [3]⟩, ⟨[.old 0], _, [], [], [4]⟩, ⟨[.op 0 0, .op 1 0], _, [], [0, 1], [5]⟩]) (F := [.old 0, .op 2 0]) hst hb Zb
   (o_p rfl (Za rfl rfl u_0) <| o_p rfl (Za rfl rfl u_0) <| o_p rfl (Zxs rfl rfl u_0 u_1) <| o_n) (by kernel_rfl) (fun a g hst hb => ?_)
 refine wp_cond_split (hst.bool 1 rfl) (fun hc1 => ?_) (fun hc1 => ?_)
 · replace H0 := Z0 hc1 H0
   obtain ⟨r2, h3, H0⟩ := Zh H0
   refine r_s (L := []) (T := [⟨[], _, [], [], [6]⟩, ⟨[.op 0 0], _, [], [0], [2]⟩]) (F := [.op 1 0]) (hst.pick [] rfl) hb Zb
     (o_p rfl (Zp Z7b (Zxk h3) rfl rfl .nil) <| o_p rfl (Zc rfl rfl u_0) <| o_n) (by kernel_rfl) (fun a g hst hb => ?_)
   refine wp_ret ?_
   refine Zn ?_
   obtain rfl := Option.some.inj H0
   exact Z3 rfl hst hb (Zm (s := 2)) (hst.at 0 rfl)
 · replace H0 := Zz hc1 H0
   refine wp_skip ?_
   refine Zu ?_
   refine r_s (L := [(0, _)]) (T := [⟨[.old 0], _, [], [], [7]⟩, ⟨[.op 0 0], _, [], [0], [2]⟩]) (F := [.op 1 0]) (hst.pick [0] rfl) hb Zb
     (o_p rfl (Za rfl rfl u_0) <| o_p rfl (Zc rfl rfl u_0) <| o_n) (by kernel_rfl) (fun a g hst hb => ?_)
   refine wp_ret ?_
   obtain rfl := Option.some.inj H0
   exact Z3 rfl hst hb (Zm (s := 2)) (hst.at 0 rfl)
theorem Zmi (a0 : Nat) {r : Int} (h : Zkv a0 = some r) : FnOk Tryd.prog 63 [(pFlt a0)] (pInt .u64 r) := by
 have H0 := h
 unfold Zkv at H0
 clear h
 refine Zbu (N := 14) Tryd.func63 rfl rfl (Nat.le_of_ble_eq_true rfl) rfl rfl (fun a g0 hst hb => ?_)
 refine r_s (T := [⟨[], _, [], [], [2]⟩]) (F := [.old 0]) hst hb Zb
   (o_p rfl (Zc rfl rfl c_i) <| o_n) (by kernel_rfl) (fun a g hst hb => ?_)
 obtain ⟨r1, h2, H0⟩ := Zh H0
 refine r_s (T := [⟨[.old 0], _, [], [], [4]⟩, ⟨[.op 0 0], _, [], [0], [5]⟩, ⟨[.op 1 0], _, [], [0, 1], [6]⟩, ⟨[.op 2 0], _, [], [0, 1, 2], [3]⟩]) (F := [.op 3 0]) hst hb Zb
   (o_p rfl (Za rfl rfl u_0) <| o_p rfl (Zp Znb (Zge _ h2) rfl rfl (.cons u_0 .nil)) <| o_p rfl (Zp9 Zvc rfl rfl u_0) <| o_p rfl (Zc rfl rfl u_0) <| o_n) (by kernel_rfl) (fun a g hst hb => ?_)
 refine wp_seq ?_
 refine r_s (T := [⟨[.old 0], _, [], [], [7]⟩, ⟨[.op 0 0], _, [], [0], [8]⟩, ⟨[.op 1 0], _, [], [0, 1], [9]⟩]) (F := [.old 0, .op 2 0]) hst hb Zb
   (o_p rfl (Za rfl rfl u_0) <| o_p rfl (Z5u rfl rfl u_0 c_i) <| o_p rfl (Zer rfl rfl u_0 c_i) <| o_n) (by kernel_rfl) (fun a g hst hb => ?_)
 refine wp_cond_split (hst.bool 1 rfl) (fun hc3 => ?_) (fun hc3 => ?_)
 · replace H0 := Z0 hc3 H0
   refine r_s (L := [(3, _)]) (T := [⟨[.old 0], _, [], [], [10]⟩, ⟨[.op 0 0], _, [], [0], [11]⟩, ⟨[.op 1 0], _, [], [0, 1], [2]⟩]) (F := [.op 2 0]) (hst.pick [0] rfl) hb Zb
     (o_p rfl (Za rfl rfl u_0) <| o_p rfl (Z4e rfl rfl rfl u_0) <| o_p rfl (Zc rfl rfl u_0) <| o_n) (by kernel_rfl) (fun a g hst hb => ?_)
   refine wp_ret ?_
   refine Zn ?_
   obtain rfl := Option.some.inj H0
   exact Z3 rfl hst hb (Zm (s := 2)) (hst.at 0 rfl)
 · replace H0 := Zz hc3 H0
   refine wp_skip ?_
   refine Zu ?_
   refine r_s (L := [(3, _)]) (T := [⟨[.old 0], _, [], [], [12]⟩, ⟨[.op 0 0], _, [], [0], [13]⟩, ⟨[.op 1 0], _, [], [0, 1], [2]⟩]) (F := [.op 2 0]) (hst.pick [0] rfl) hb Zb
     (o_p rfl (Za rfl rfl u_0) <| o_p rfl (Z8f rfl rfl u_0 c_i) <| o_p rfl (Zc rfl rfl u_0) <| o_n) (by kernel_rfl) (fun a g hst hb => ?_)
   refine wp_ret ?_
   obtain rfl := Option.some.inj H0
   exact Z3 rfl hst hb (Zm (s := 2)) (hst.at 0 rfl)
theorem Zi7 (a0 : Nat) (a1 : Nat) {r : Bool} (h : Zh8 a0 a1 = some r) : FnOk Tryd.prog 44 [(pFlt a0), (pFlt a1)] (Zbd r) := by
 have H0 := h
 unfold Zh8 at H0
 clear h
 refine Zbu (N := 10) Tryd.func44 rfl rfl (Nat.le_of_ble_eq_true rfl) rfl rfl (fun a g0 hst hb => ?_)
 refine r_s (T := [⟨[], _, [], [], [4]⟩]) (F := [.old 0, .old 1]) hst hb Zb
   (o_p rfl (Zc rfl rfl c_b) <| o_n) (by kernel_rfl) (fun a g hst hb => ?_)
 obtain ⟨r1, h2, H0⟩ := Zh H0; obtain ⟨r3, h4, H0⟩ := Zh H0
 refine r_s (T := [⟨[.old 0], _, [], [], [5]⟩, ⟨[.op 0 0], _, [], [0], [6]⟩, ⟨[.old 1], _, [], [], [7]⟩, ⟨[.op 2 0], _, [], [0, 1, 2], [8]⟩, ⟨[.op 1 0, .op 3 0], _, [], Lr 4, [9]⟩, ⟨[.op 4 0], _, [], Lr 5, [4]⟩]) (F := [.op 5 0]) hst hb Zb
   (o_p rfl (Za rfl rfl u_0) <| o_p rfl (Zp Zu3 (Zmi _ h2) rfl rfl (.cons u_0 .nil)) <| o_p rfl (Za rfl rfl u_0) <| o_p rfl (Zp Zu3 (Zmi _ h4) rfl rfl (.cons u_0 .nil)) <| o_p rfl (Zbw rfl rfl u_0 u_1) <| o_p rfl (Zc rfl rfl u_0) <| o_n) (by kernel_rfl) (fun a g hst hb => ?_)
 refine wp_ret ?_
 obtain rfl := Option.some.inj H0
 exact Z3 rfl hst hb (Zm (s := 4)) (hst.at 0 rfl)
theorem Zxf (a0 : Zd) (a1 : Zb1) {r : Bool} (h : Zna a0 a1 = some r) : FnOk Tryd.prog 28 [(Zi.pd a0), (Zcu.pd a1)] (Zbd r) := by
 have H0 := h
 unfold Zna at H0
 clear h
 refine Zbu (N := 59) Tryd.func28 rfl rfl (Nat.le_of_ble_eq_true rfl) rfl rfl (fun a g0 hst hb => ?_)
 refine r_s (T := [⟨[.old 0], _, [], [], [2]⟩, ⟨[.old 1], _, [], [], [3]⟩, ⟨[], _, [], [], [4]⟩]) (F := [.op 0 0, .op 1 0]) hst hb Zb
   (o_p rfl (Zbl rfl rfl u_0) <| o_p rfl (Zbl rfl rfl u_0) <| o_p rfl (Zc rfl rfl c_b) <| o_n) (by kernel_rfl) (fun a g hst hb => ?_)
 obtain ⟨r1, h2, H0⟩ := Zh H0
 refine r_s (T := ⟨[.old 1], _, [], [], [5]⟩ :: ⟨[.op 0 0], _, [], [0], [6]⟩ :: ⟨[.op 1 0], _, [], [0, 1], [7]⟩ :: ⟨[.op 2 0, .old 0], _, [], [0, 1, 2], [8]⟩ :: ⟨[.op 2 0, .op 3 0], _, [], Lr 4, [9]⟩ :: ⟨[.op 2 0, .op 4 0], _, [], Lr 5, [10]⟩ :: ⟨[.op 2 0, .op 5 0], _, [], Lr 6, [11]⟩ :: ⟨[.op 6 0], _, [], Lr 7, [12]⟩ :: ⟨[.op 7 0, .old 1], _, [], Lr 8, [13]⟩ :: ⟨[.op 7 0, .op 8 0], _, [], Lr 9, [14]⟩ :: ⟨[.op 7 0, .op 9 0], _, [], Lr 10, [15]⟩ :: ⟨[.op 10 0, .old 0], _, [], Lr 11, [16]⟩ :: ⟨[.op 10 0, .op 11 0], _, [], Lr 12, [17]⟩ :: ⟨[.op 10 0, .op 12 0], _, [], Lr 13, [18]⟩ :: ⟨[.op 7 0, .op 10 0, .op 13 0], _, [], Lr 14, [19]⟩ :: ⟨[.op 7 0, .op 14 0], _, [], Lr 15, [20]⟩ :: ⟨[.op 15 0], _, [], Lr 16, [21]⟩ :: ⟨[.op 16 0, .old 1], _, [], Lr 17, [22]⟩ :: ⟨[.op 16 0, .op 17 0], _, [], Lr 18, [23]⟩ :: ⟨[.op 16 0, .op 18 0], _, [], Lr 19, [24]⟩ :: ⟨[.op 19 0, .old 0], _, [], Lr 20, [25]⟩ :: ⟨[.op 19 0, .op 20 0], _, [], Lr 21, [26]⟩ :: ⟨[.op 19 0, .op 21 0], _, [], Lr 22, [27]⟩ :: ⟨[.op 19 0, .op 22 0], _, [], Lr 23, [28]⟩ :: ⟨[.op 23 0, .old 0], _, [], Lr 24, [29]⟩ :: ⟨[.op 23 0, .op 24 0], _, [], Lr 25, [30]⟩ :: ⟨[.op 23 0, .op 25 0], _, [], Lr 26, [31]⟩ :: ⟨[.op 19 0, .op 23 0, .op 26 0], _, [], Lr 27, [32]⟩ :: ⟨[.op 16 0, .op 19 0, .op 27 0], _, [], Lr 28, [33]⟩ :: ⟨[.op 16 0, .op 28 0], _, [], Lr 29, [34]⟩ :: ⟨[.op 29 0], _, [], Lr 30, [35]⟩ :: ⟨[.op 30 0, .old 1], _, [], Lr 31, [36]⟩ :: ⟨[.op 30 0, .op 31 0], _, [], Lr 32, [37]⟩ :: ⟨[.op 30 0, .op 32 0], _, [], Lr 33, [38]⟩ :: ⟨[.op 33 0, .old 0], _, [], Lr 34, [39]⟩ :: ⟨[.op 33 0, .op 34 0], _, [], Lr 35, [40]⟩ :: ⟨[.op 33 0, .op 35 0], _, [], Lr 36, [41]⟩ :: ⟨[.op 30 0, .op 33 0, .op 36 0], _, [], Lr 37, [42]⟩ :: ⟨[.op 30 0, .op 37 0], _, [], Lr 38, [43]⟩ :: ⟨[.op 38 0], _, [], Lr 39, [44]⟩ :: ⟨[.op 39 0, .old 1], _, [], Lr 40, [45]⟩ :: ⟨[.op 39 0, .op 40 0], _, [], Lr 41, [46]⟩ :: ⟨[.op 39 0, .op 41 0], _, [], Lr 42, [47]⟩ :: ⟨[.op 42 0, .old 0], _, [], Lr 43, [48]⟩ :: ⟨[.op 42 0, .op 43 0], _, [], Lr 44, [49]⟩ :: ⟨[.op 42 0, .op 44 0], _, [], Lr 45, [50]⟩ :: ⟨[.op 42 0, .op 45 0], _, [], Lr 46, [51]⟩ :: ⟨[.op 46 0, .old 0], _, [], Lr 47, [52]⟩ :: ⟨[.op 46 0, .op 47 0], _, [], Lr 48, [53]⟩ :: ⟨[.op 46 0, .op 48 0], _, [], Lr 49, [54]⟩ :: ⟨[.op 46 0, .op 49 0], _, [], Lr 50, [55]⟩ :: ⟨[.op 42 0, .op 46 0, .op 50 0], _, [], Lr 51, [56]⟩ :: ⟨[.op 39 0, .op 42 0, .op 51 0], _, [], Lr 52, [57]⟩ :: ⟨[.op 39 0, .op 52 0], _, [], Lr 53, [58]⟩ :: ⟨[.op 53 0], _, [], Lr 54, [4]⟩ :: []) (F := [.op 54 0]) hst hb Zb
   (o_p rfl (Ze Z4g rfl rfl u_0) <| o_p rfl (Zf ty_4 rfl rfl u_0) <| o_p rfl (Za rfl rfl u_0) <| o_g (g_f rfl rfl rfl (fun hG => Ze Zjs rfl rfl u_0)) <| o_g (g_f rfl rfl rfl (fun hG => Zf ty_9 rfl rfl (Opd.gd hG u_0))) <| o_g (g_f rfl rfl rfl (fun hG => Zl2 rfl rfl (Opd.gd hG u_0) c_s)) <| o_p rfl (Zbz rfl rfl u_0 (fun hz => (Opd.gd (bNF hz) u_1))) <| o_p rfl (Za rfl rfl u_0) <| o_g (g_t rfl rfl rfl (fun hG => Ze Z4q rfl rfl u_0)) <| o_g (g_t rfl rfl rfl (fun hG => Zf ty_4 rfl rfl (Opd.gd hG u_0))) <| o_g (g_t rfl rfl rfl (fun hG => Za rfl rfl (Opd.gd hG u_0))) <| o_g (g_fi rfl rfl rfl (fun hG => Ze Zea rfl rfl u_0)) <| o_g (g_fi rfl rfl rfl (fun hG => Zf ty_2 rfl rfl (Opd.gd hG u_0))) <| o_g (g_fi rfl rfl rfl (fun hG => Zbw rfl rfl (Opd.gd hG u_0) c_i)) <| o_g (g_t rfl rfl rfl (fun hG => Zbz rfl rfl (Opd.gd hG u_0) (fun hz => (Opd.gd (bA hG (bNF hz)) u_1)))) <| o_p rfl (Zbj rfl rfl u_0 (fun hz => (Opd.gd hz u_1))) <| o_p rfl (Za rfl rfl u_0) <| o_g (g_t rfl rfl rfl (fun hG => Ze Zyb rfl rfl u_0)) <| o_g (g_t rfl rfl rfl (fun hG => Zf ty_4 rfl rfl (Opd.gd hG u_0))) <| o_g (g_t rfl rfl rfl (fun hG => Za rfl rfl (Opd.gd hG u_0))) <| o_g (g_fi rfl rfl rfl (fun hG => Ze Zj1 rfl rfl u_0)) <| o_g (g_fi rfl rfl rfl (fun hG => Zf ty_2 rfl rfl (Opd.gd hG u_0))) <| o_g (g_fi rfl rfl rfl (fun hG => Zbw rfl rfl (Opd.gd hG u_0) c_i)) <| o_g (g_fi rfl rfl rfl (fun hG => Za rfl rfl (Opd.gd hG u_0))) <| o_g (g_ti rfl rfl rfl (fun hG => Ze Zj3 rfl rfl u_0)) <| o_g (g_ti rfl rfl rfl (fun hG => Zf ty_2 rfl rfl (Opd.gd hG u_0))) <| o_g (g_ti rfl rfl rfl (fun hG => Zbw rfl rfl (Opd.gd hG u_0) c_i)) <| o_g (g_fi rfl rfl rfl (fun hG => Zbj rfl rfl (Opd.gd hG u_0) (fun hz => (Opd.gd (bA hG hz) u_1)))) <| o_g (g_t rfl rfl rfl (fun hG => Zbz rfl rfl (Opd.gd hG u_0) (fun hz => (Opd.gd (bA hG (bNF hz)) u_1)))) <| o_p rfl (Zbj rfl rfl u_0 (fun hz => (Opd.gd hz u_1))) <| o_p rfl (Za rfl rfl u_0) <| o_g (g_t rfl rfl rfl (fun hG => Ze Z5l rfl rfl u_0)) <| o_g (g_t rfl rfl rfl (fun hG => Zf ty_4 rfl rfl (Opd.gd hG u_0))) <| o_g (g_t rfl rfl rfl (fun hG => Za rfl rfl (Opd.gd hG u_0))) <| o_g (g_fi rfl rfl rfl (fun hG => Ze Zkx rfl rfl u_0)) <| o_g (g_fi rfl rfl rfl (fun hG => Zf Ze4 rfl rfl (Opd.gd hG u_0))) <| o_g (g_fi rfl rfl rfl (fun hG => Zp Zqc (Zi7 _ _ (Zbq h2 hG)) rfl rfl (.cons (Opd.gd hG u_0) (.cons c_f .nil)))) <| o_g (g_t rfl rfl rfl (fun hG => Zbz rfl rfl (Opd.gd hG u_0) (fun hz => (Opd.gd (bA hG (bNF hz)) u_1)))) <| o_p rfl (Zbj rfl rfl u_0 (fun hz => (Opd.gd hz u_1))) <| o_p rfl (Za rfl rfl u_0) <| o_g (g_t rfl rfl rfl (fun hG => Ze Zyr rfl rfl u_0)) <| o_g (g_t rfl rfl rfl (fun hG => Zf ty_4 rfl rfl (Opd.gd hG u_0))) <| o_g (g_t rfl rfl rfl (fun hG => Za rfl rfl (Opd.gd hG u_0))) <| o_g (g_fi rfl rfl rfl (fun hG => Ze Zhp rfl rfl u_0)) <| o_g (g_fi rfl rfl rfl (fun hG => Zf ty_3 rfl rfl (Opd.gd hG u_0))) <| o_g (g_fi rfl rfl rfl (fun hG => Zbw rfl rfl (Opd.gd hG u_0) c_i)) <| o_g (g_fi rfl rfl rfl (fun hG => Za rfl rfl (Opd.gd hG u_0))) <| o_g (g_ti rfl rfl rfl (fun hG => Ze Zdc rfl rfl u_0)) <| o_g (g_ti rfl rfl rfl (fun hG => Zf Zev rfl rfl (Opd.gd hG u_0))) <| o_g (g_ti rfl rfl rfl (fun hG => Zb3 Tryd.underlying43 rfl rfl (Opd.gd hG u_0))) <| o_g (g_ti rfl rfl rfl (fun hG => Zbw rfl rfl (Opd.gd hG u_0) c_i)) <| o_g (g_fi rfl rfl rfl (fun hG => Zbj rfl rfl (Opd.gd hG u_0) (fun hz => (Opd.gd (bA hG hz) u_1)))) <| o_g (g_t rfl rfl rfl (fun hG => Zbz rfl rfl (Opd.gd hG u_0) (fun hz => (Opd.gd (bA hG (bNF hz)) u_1)))) <| o_p rfl (Zbj rfl rfl u_0 (fun hz => (Opd.gd hz u_1))) <| o_p rfl (Zc rfl rfl u_0) <| o_n) (by kernel_rfl) (fun a g hst hb => ?_)
 refine wp_ret ?_
 obtain rfl := Option.some.inj H0
 exact Z3 rfl hst hb (Zm (s := 4)) (hst.at 0 rfl)
theorem Zmc (a0 : Nat) {r : Bool} (h : Zi0 a0 = some r) : FnOk Tryd.prog 29 [(pFlt a0)] (Zbd r) := by
 have H0 := h
 unfold Zi0 at H0
 clear h
 refine Zbu (N := 9) Tryd.func29 rfl rfl (Nat.le_of_ble_eq_true rfl) rfl rfl (fun a g0 hst hb => ?_)
 refine r_s (T := [⟨[], _, [], [], [2]⟩]) (F := [.old 0]) hst hb Zb
   (o_p rfl (Zc rfl rfl c_b) <| o_n) (by kernel_rfl) (fun a g hst hb => ?_)
 obtain ⟨r1, h2, H0⟩ := Zh H0
 refine r_s (T := [⟨[.old 0], _, [], [], [3]⟩, ⟨[.op 0 0], _, [], [0], [4]⟩, ⟨[.old 0], _, [], [], [5]⟩, ⟨[.op 2 0], _, [], [0, 1, 2], [6]⟩, ⟨[.op 3 0], _, [], Lr 4, [7]⟩, ⟨[.op 1 0, .op 4 0], _, [], Lr 5, [8]⟩, ⟨[.op 5 0], _, [], Lr 6, [2]⟩]) (F := [.op 6 0]) hst hb Zb
   (o_p rfl (Za rfl rfl u_0) <| o_p rfl (Zp9 Zvc rfl rfl u_0) <| o_p rfl (Za rfl rfl u_0) <| o_p rfl (Zp Znb (Zge _ h2) rfl rfl (.cons u_0 .nil)) <| o_p rfl (Zp9 Zvc rfl rfl u_0) <| o_p rfl (Zbw rfl rfl u_0 u_1) <| o_p rfl (Zc rfl rfl u_0) <| o_n) (by kernel_rfl) (fun a g hst hb => ?_)
 refine wp_ret ?_
 obtain rfl := Option.some.inj H0
 exact Z3 rfl hst hb (Zm (s := 2)) (hst.at 0 rfl)
theorem Znt (a0 : Nat) (a1 : Nat) {r : Bool} (h : Zko a0 a1 = some r) : FnOk Tryd.prog 65 [(pFlt a0), (pFlt a1)] (Zbd r) := by
 have H0 := h
 unfold Zko at H0
 clear h
 refine Zbu (N := 10) Tryd.func65 rfl rfl (Nat.le_of_ble_eq_true rfl) rfl rfl (fun a g0 hst hb => ?_)
 refine r_s (T := [⟨[], _, [], [], [4]⟩]) (F := [.old 0, .old 1]) hst hb Zb
   (o_p rfl (Zc rfl rfl c_b) <| o_n) (by kernel_rfl) (fun a g hst hb => ?_)
 obtain ⟨r1, h2, H0⟩ := Zh H0; obtain ⟨r3, h4, H0⟩ := Zh H0
 refine r_s (T := [⟨[.old 0], _, [], [], [5]⟩, ⟨[.op 0 0], _, [], [0], [6]⟩, ⟨[.old 1], _, [], [], [7]⟩, ⟨[.op 2 0], _, [], [0, 1, 2], [8]⟩, ⟨[.op 1 0, .op 3 0], _, [], Lr 4, [9]⟩, ⟨[.op 4 0], _, [], Lr 5, [4]⟩]) (F := [.op 5 0]) hst hb Zb
   (o_p rfl (Za rfl rfl u_0) <| o_p rfl (Zp Zu3 (Zmi _ h2) rfl rfl (.cons u_0 .nil)) <| o_p rfl (Za rfl rfl u_0) <| o_p rfl (Zp Zu3 (Zmi _ h4) rfl rfl (.cons u_0 .nil)) <| o_p rfl (Zc2 rfl rfl u_0 u_1) <| o_p rfl (Zc rfl rfl u_0) <| o_n) (by kernel_rfl) (fun a g hst hb => ?_)
 refine wp_ret ?_
 obtain rfl := Option.some.inj H0
 exact Z3 rfl hst hb (Zm (s := 4)) (hst.at 0 rfl)
theorem Zmb (a0 : Zj) (a1 : Zj) {r : Bool} (h : Ziq a0 a1 = some r) : FnOk Tryd.prog 47 [(Zy.pd a0), (Zy.pd a1)] (Zbd r) := by
 have H0 := h
 unfold Ziq at H0
 clear h
 refine Zbu (N := 21) Tryd.func47 rfl rfl (Nat.le_of_ble_eq_true rfl) rfl rfl (fun a g0 hst hb => ?_)
 refine r_s (T := [⟨[.old 0], _, [], [], [2]⟩, ⟨[.old 1], _, [], [], [3]⟩, ⟨[], _, [], [], [4]⟩]) (F := [.op 0 0, .op 1 0]) hst hb Zb
   (o_p rfl (Zbl rfl rfl u_0) <| o_p rfl (Zbl rfl rfl u_0) <| o_p rfl (Zc rfl rfl c_b) <| o_n) (by kernel_rfl) (fun a g hst hb => ?_)
 refine wp_seq ?_
 obtain ⟨r1, h2, H0⟩ := Zh H0
 refine r_s (T := [⟨[.old 0], _, [], [], [5]⟩, ⟨[.op 0 0], _, [], [0], [6]⟩, ⟨[.old 1], _, [], [], [7]⟩, ⟨[.op 2 0], _, [], [2], [8]⟩, ⟨[.op 1 0, .op 3 0], _, [], Lr 4, [9]⟩, ⟨[.op 4 0], _, [], Lr 5, [10]⟩]) (F := [.old 0, .old 1, .op 5 0]) hst hb Zb
   (o_p rfl (Ze Zgn rfl rfl u_0) <| o_p rfl (Zf Ze4 rfl rfl u_0) <| o_p rfl (Ze Zgn rfl rfl u_0) <| o_p rfl (Zf Ze4 rfl rfl u_0) <| o_p rfl (Zp Zqc (Zi7 _ _ h2) rfl rfl (.cons u_0 (.cons u_1 .nil))) <| o_p rfl (Zcn rfl rfl u_0) <| o_n) (by kernel_rfl) (fun a g hst hb => ?_)
 refine wp_cond_split (hst.bool 2 rfl) (fun hc3 => ?_) (fun hc3 => ?_)
 · replace H0 := Z0 hc3 H0
   obtain ⟨r4, h5, H0⟩ := Zh H0
   refine r_s (L := [(2, _), (3, _)]) (T := [⟨[.old 1], _, [], [], [11]⟩, ⟨[.op 0 0], _, [], [0], [12]⟩, ⟨[.old 0], _, [], [], [13]⟩, ⟨[.op 2 0], _, [], [2], [14]⟩, ⟨[.op 1 0, .op 3 0], _, [], Lr 4, [15]⟩, ⟨[.op 4 0], _, [], Lr 5, [4]⟩]) (F := [.op 5 0]) (hst.pick [0, 1] rfl) hb Zb
     (o_p rfl (Ze Zgn rfl rfl u_0) <| o_p rfl (Zf Ze4 rfl rfl u_0) <| o_p rfl (Ze Zgn rfl rfl u_0) <| o_p rfl (Zf Ze4 rfl rfl u_0) <| o_p rfl (Zp Zzv (Znt _ _ h5) rfl rfl (.cons u_0 (.cons u_1 .nil))) <| o_p rfl (Zc rfl rfl u_0) <| o_n) (by kernel_rfl) (fun a g hst hb => ?_)
   refine wp_ret ?_
   refine Zn ?_
   obtain rfl := Option.some.inj H0
   exact Z3 rfl hst hb (Zm (s := 4)) (hst.at 0 rfl)
 · replace H0 := Zz hc3 H0
   refine wp_skip ?_
   refine Zu ?_
   refine r_s (L := [(2, _), (3, _)]) (T := [⟨[.old 0], _, [], [], [16]⟩, ⟨[.op 0 0], _, [], [0], [17]⟩, ⟨[.old 1], _, [], [], [18]⟩, ⟨[.op 2 0], _, [], [2], [19]⟩, ⟨[.op 1 0, .op 3 0], _, [], Lr 4, [20]⟩, ⟨[.op 4 0], _, [], Lr 5, [4]⟩]) (F := [.op 5 0]) (hst.pick [0, 1] rfl) hb Zb
     (o_p rfl (Ze Zf2 rfl rfl u_0) <| o_p rfl (Zf ty_9 rfl rfl u_0) <| o_p rfl (Ze Zf2 rfl rfl u_0) <| o_p rfl (Zf ty_9 rfl rfl u_0) <| o_p rfl (Zl8 rfl rfl u_0 u_1) <| o_p rfl (Zc rfl rfl u_0) <| o_n) (by kernel_rfl) (fun a g hst hb => ?_)
   refine wp_ret ?_
   obtain rfl := Option.some.inj H0
   exact Z3 rfl hst hb (Zm (s := 4)) (hst.at 0 rfl)
theorem Zvp (a0 : Int) (a1 : List Zj) {r : Int} (h : Zl0 a0 a1 = some r) : FnOk Tryd.prog 30 [(pInt .i64 a0), (Zy.sl.pd a1)] (pInt .i64 r) := by
 have H0 := h
 unfold Zl0 at H0
 clear h
 refine Zbu (N := 70) Tryd.func30 rfl rfl (Nat.le_of_ble_eq_true rfl) rfl rfl (fun a g0 hst hb => ?_)
 refine r_s (T := [⟨[], _, [], [], [4]⟩]) (F := [.old 0, .old 1]) hst hb Zb
   (o_p rfl (Zc rfl rfl c_i) <| o_n) (by kernel_rfl) (fun a g hst hb => ?_)
 refine wp_seq ?_
 refine r_s (T := [⟨[.old 1], _, [], [], [7]⟩, ⟨[.op 0 0], _, [], [0], [8]⟩, ⟨[], _, [], [], [9]⟩]) (F := [.old 0, .old 1, .op 0 0, .op 1 0, .op 2 0]) hst hb Zb
   (o_p rfl (Za rfl rfl u_0) <| o_p rfl (Zb3 Tryd.underlying43 rfl rfl u_0) <| o_p rfl (Za rfl rfl c_i) <| o_n) (by kernel_rfl) (fun a g hst hb => ?_)
 obtain ⟨z19, hz1, H0⟩ := Zh H0
 refine Zc0 (fun a w => ∃ (g : G), w = g.w ∧ St 70 [] a g ∧ Base g0 g ∧ (.inr ()) = z19) ?_ ?_
 · rintro a w ⟨g, rfl, hst, hb, rfl⟩
   refine Zu ?_
   refine r_s (T := [⟨[], _, [], [], [4]⟩]) (F := [.op 0 0]) hst hb Zb
     (o_p rfl (Zc rfl rfl c_i) <| o_n) (by kernel_rfl) (fun a g hst hb => ?_)
   refine wp_ret ?_
   obtain rfl := Option.some.inj H0
   exact Z3 rfl hst hb (Zm (s := 4)) (hst.at 0 rfl)
 · refine wp_block ?_
   refine wp_loop_ghost (fun n a w => ∃ (x1 : Int) (g : G), w = g.w ∧ St 70 [(0, (pInt .i64 a0)), (1, (Zy.sl.pd a1)), (7, (Zy.sl.pd a1)), (8, (pInt .i64 (a1.length : Int))), (9, (pInt .i64 x1))] a g ∧ Base g0 g ∧ Ze7 a0 a1 n x1 = some z19) (Int.toNat ((a1.length : Int) - (0 : Int)) + 1) ⟨(0 : Int), g, rfl, (hst.pick [0, 1, 2, 3, 4] rfl), hb, hz1⟩ (fun n a w hI => ?_)
   obtain ⟨x1, g, rfl, hst, hb, H1⟩ := hI
   cases n with
   | zero => exact absurd H1 (by simp [Ze7])
   | succ n =>
     rw [Ze7] at H1
     refine r_s (T := [⟨[.old 4, .old 3], _, [], [], [10]⟩]) (F := [.old 0, .old 1, .old 2, .old 3, .old 4, .op 0 0]) hst hb Zb
       (o_p rfl (Zc2 rfl rfl u_0 u_1) <| o_n) (by kernel_rfl) (fun a g hst hb => ?_)
     refine wp_seq ?_
     refine wp_cond_split (hst.bool 5 rfl) (fun hc2 => ?_) (fun hc2 => ?_)
     · replace H1 := Z0 hc2 H1
       refine wp_skip ?_
       refine Zu ?_
       refine wp_seq ?_
       refine wp_block ?_
       obtain ⟨e3, h4, H1⟩ := Zh H1
       refine r_s (L := [(0, _), (1, _), (7, _), (8, _), (9, _)]) (T := [⟨[.old 4], _, [], [], [11]⟩, ⟨[.old 2, .old 4], _, [], [], [12]⟩, ⟨[.op 1 0], _, [], [1], [13]⟩, ⟨[], [(6, (pBox Zy 6 (default : Zj)))], [7], [], [6]⟩, ⟨[.op 0 0], _, [], Lr 4, [5]⟩, ⟨[.op 2 0, .op 3 0], _, [7], Lr 5, [6]⟩]) (F := [.old 0, .old 1, .op 4 0, .op 5 0, .old 2, .old 3, .old 4]) (hst.pick [0, 1, 2, 3, 4] rfl) hb Zb
         (o_p rfl (Za rfl rfl u_0) <| o_p rfl (Zbv Tryd.underlying43 Zjc rfl rfl u_0 u_1 h4) <| o_p rfl (Zf Zfk rfl rfl u_0) <| o_p rfl (Zbb (zs := [.float .f64 0, .string ByteArray.empty]) (by kernel_rfl) (fun g => Zi8 g) rfl rfl) <| o_p rfl (Zc rfl rfl u_0) <| o_p rfl (Zby Zfk rfl rfl u_1 u_0) <| o_n) (by kernel_rfl) (fun a g hst hb => ?_)
       refine wp_block ?_
       refine r_s (T := [⟨[.old 3], _, [], [], [15]⟩, ⟨[.op 0 0], _, [], [0], [16]⟩, ⟨[.op 1 0], _, [], [0, 1], [17]⟩, ⟨[.op 2 0], _, [], [0, 1, 2], [18]⟩, ⟨[.op 3 0], _, [], Lr 4, [14]⟩]) (F := [.old 0, .old 1, .old 2, .old 3, .old 4, .old 5, .old 6, .op 4 0]) hst hb Zb
         (o_p rfl (Ze Zf2 rfl rfl u_0) <| o_p rfl (Zf ty_9 rfl rfl u_0) <| o_p rfl (Zft Tryd.underlying9 rfl rfl u_0) <| o_p rfl (Zcr rfl rfl u_0 c_i) <| o_p rfl (Zc rfl rfl u_0) <| o_n) (by kernel_rfl) (fun a g hst hb => ?_)
       refine wp_cond_split (hst.bool 7 rfl) (fun hc5 => ?_) (fun hc5 => ?_)
       · replace H1 := Z0 hc5 H1
         refine r_s (L := []) (T := [⟨[], _, [], [], [4]⟩]) (F := [.op 0 0]) (hst.pick [] rfl) hb Zb
           (o_p rfl (Zc rfl rfl c_i) <| o_n) (by kernel_rfl) (fun a g hst hb => ?_)
         refine wp_ret ?_
         refine Zw ?_
         refine Zw ?_
         refine Zn ?_
         refine Zn ?_
         refine Zw ?_
         refine Zn ?_
         refine Zn ?_
         obtain rfl := Option.some.inj H1
         obtain rfl := Option.some.inj H0
         exact Z3 rfl hst hb (Zm (s := 4)) (hst.at 0 rfl)
       · replace H1 := Zz hc5 H1
         obtain ⟨r6, h7, H1⟩ := Zh H1; obtain ⟨r8, h9, H1⟩ := Zh H1
         refine r_s (L := [(0, _), (1, _), (5, _), (6, _), (7, _), (8, _), (9, _)]) (T := ⟨[.old 0], _, [], [], [20]⟩ :: ⟨[.op 0 0], _, [], [0], [21]⟩ :: ⟨[.op 1 0], _, [], [0, 1], [22]⟩ :: ⟨[.op 2 0, .old 3], _, [], [0, 1, 2], [23]⟩ :: ⟨[.op 2 0, .op 3 0], _, [], Lr 4, [24]⟩ :: ⟨[.op 2 0, .op 4 0], _, [], Lr 5, [25]⟩ :: ⟨[.op 2 0, .op 5 0], _, [], Lr 6, [26]⟩ :: ⟨[.op 2 0, .op 6 0], _, [], Lr 7, [27]⟩ :: ⟨[.op 7 0], _, [], Lr 8, [28]⟩ :: ⟨[.op 8 0, .old 3], _, [], Lr 9, [29]⟩ :: ⟨[.op 8 0, .op 9 0], _, [], Lr 10, [30]⟩ :: ⟨[.op 8 0, .op 10 0], _, [], Lr 11, [31]⟩ :: ⟨[.op 8 0, .op 11 0], _, [], Lr 12, [32]⟩ :: ⟨[.op 8 0, .op 12 0], _, [], Lr 13, [33]⟩ :: ⟨[.op 13 0], _, [], Lr 14, [19]⟩ :: []) (F := [.old 0, .old 1, .old 2, .old 3, .old 4, .old 5, .old 6, .op 14 0]) (hst.pick [0, 1, 2, 3, 4, 5, 6] rfl) hb Zb
           (o_p rfl (Za rfl rfl u_0) <| o_p rfl (Zbw rfl rfl u_0 c_i) <| o_p rfl (Za rfl rfl u_0) <| o_g (g_t rfl rfl rfl (fun hG => Ze Zgn rfl rfl u_0)) <| o_g (g_t rfl rfl rfl (fun hG => Zf Ze4 rfl rfl (Opd.gd hG u_0))) <| o_g (g_t rfl rfl rfl (fun hG => Zp Zqc (Zi7 _ _ (Zbq h7 hG)) rfl rfl (.cons (Opd.gd hG u_0) (.cons c_f .nil)))) <| o_g (g_t rfl rfl rfl (fun hG => Zcn rfl rfl (Opd.gd hG u_0))) <| o_p rfl (Zbj rfl rfl u_0 (fun hz => (Opd.gd hz u_1))) <| o_p rfl (Za rfl rfl u_0) <| o_g (g_f rfl rfl rfl (fun hG => Ze Zgn rfl rfl u_0)) <| o_g (g_f rfl rfl rfl (fun hG => Zf Ze4 rfl rfl (Opd.gd hG u_0))) <| o_g (g_f rfl rfl rfl (fun hG => Zp Zzq (Zmc _ (Zbq h9 hG)) rfl rfl (.cons (Opd.gd hG u_0) .nil))) <| o_g (g_f rfl rfl rfl (fun hG => Zcn rfl rfl (Opd.gd hG u_0))) <| o_p rfl (Zbz rfl rfl u_0 (fun hz => (Opd.gd (bNF hz) u_1))) <| o_p rfl (Zc rfl rfl u_0) <| o_n) (by kernel_rfl) (fun a g hst hb => ?_)
         refine wp_cond_split (hst.bool 7 rfl) (fun hc10 => ?_) (fun hc10 => ?_)
         · replace H1 := Z0 hc10 H1
           refine r_s (L := []) (T := [⟨[], _, [], [], [4]⟩]) (F := [.op 0 0]) (hst.pick [] rfl) hb Zb
             (o_p rfl (Zc rfl rfl c_i) <| o_n) (by kernel_rfl) (fun a g hst hb => ?_)
           refine wp_ret ?_
           refine Zw ?_
           refine Zw ?_
           refine Zn ?_
           refine Zn ?_
           refine Zw ?_
           refine Zn ?_
           refine Zn ?_
           obtain rfl := Option.some.inj H1
           obtain rfl := Option.some.inj H0
           exact Z3 rfl hst hb (Zm (s := 4)) (hst.at 0 rfl)
         · replace H1 := Zz hc10 H1
           obtain ⟨e11, h12, H1⟩ := Zh H1
           refine r_s (L := [(0, _), (1, _), (5, _), (6, _), (7, _), (8, _), (9, _)]) (T := ⟨[.old 2], _, [], [], [35]⟩ :: ⟨[.op 0 0], _, [], [0], [36]⟩ :: ⟨[.op 1 0], _, [], [0, 1], [37]⟩ :: ⟨[.op 2 0, .old 0], _, [], [0, 1, 2], [38]⟩ :: ⟨[.op 2 0, .op 3 0], _, [], Lr 4, [39]⟩ :: ⟨[.op 2 0, .op 4 0], _, [], Lr 5, [40]⟩ :: ⟨[.op 5 0], _, [], Lr 6, [41]⟩ :: ⟨[.op 6 0, .old 1], _, [], Lr 7, [42]⟩ :: ⟨[.op 6 0, .old 2], _, [], Lr 7, [43]⟩ :: ⟨[.op 6 0, .op 8 0], _, [], [0, 1, 2, 3, 4, 5, 6, 8], [44]⟩ :: ⟨[.op 6 0, .op 7 0, .op 9 0], _, [], Lr 10, [45]⟩ :: ⟨[.op 6 0, .op 10 0], _, [], Lr 11, [46]⟩ :: ⟨[.op 6 0, .op 11 0], _, [], Lr 12, [47]⟩ :: ⟨[.op 6 0, .old 3], _, [], Lr 7, [48]⟩ :: ⟨[.op 6 0, .op 13 0], _, [], [0, 1, 2, 3, 4, 5, 6, 13], [49]⟩ :: ⟨[.op 6 0, .op 12 0, .op 14 0], _, [], Lr 15, [50]⟩ :: ⟨[.op 6 0, .op 15 0], _, [], Lr 16, [51]⟩ :: ⟨[.op 16 0], _, [], Lr 17, [34]⟩ :: []) (F := [.old 0, .old 1, .old 2, .old 3, .old 4, .old 5, .old 6, .op 17 0]) (hst.pick [0, 1, 2, 3, 4, 5, 6] rfl) hb Zb
             (o_p rfl (Za rfl rfl u_0) <| o_p rfl (Zcr rfl rfl u_0 c_i) <| o_p rfl (Za rfl rfl u_0) <| o_g (g_t rfl rfl rfl (fun hG => Za rfl rfl u_0)) <| o_g (g_t rfl rfl rfl (fun hG => Zbw rfl rfl (Opd.gd hG u_0) c_i)) <| o_p rfl (Zbj rfl rfl u_0 (fun hz => (Opd.gd hz u_1))) <| o_p rfl (Za rfl rfl u_0) <| o_g (g_t rfl rfl rfl (fun hG => Za rfl rfl u_0)) <| o_g (g_t rfl rfl rfl (fun hG => Za rfl rfl u_0)) <| o_g (g_t rfl rfl rfl (fun hG => Zjj rfl rfl (Opd.gd hG u_0) c_i rfl)) <| o_g (g_t rfl rfl rfl (fun hG => Zbv Tryd.underlying43 Zjc rfl rfl (Opd.gd hG u_0) (Opd.gd hG u_1) (Zbq h12 hG))) <| o_g (g_t rfl rfl rfl (fun hG => Ze Zf2 rfl rfl (Opd.gd hG u_0))) <| o_g (g_t rfl rfl rfl (fun hG => Zf ty_9 rfl rfl (Opd.gd hG u_0))) <| o_g (g_t rfl rfl rfl (fun hG => Ze Zf2 rfl rfl u_0)) <| o_g (g_t rfl rfl rfl (fun hG => Zf ty_9 rfl rfl (Opd.gd hG u_0))) <| o_g (g_t rfl rfl rfl (fun hG => Z6h rfl rfl (Opd.gd hG u_0) (Opd.gd hG u_1))) <| o_p rfl (Zbj rfl rfl u_0 (fun hz => (Opd.gd hz u_1))) <| o_p rfl (Zc rfl rfl u_0) <| o_n) (by kernel_rfl) (fun a g hst hb => ?_)
           refine wp_cond_split (hst.bool 7 rfl) (fun hc13 => ?_) (fun hc13 => ?_)
           · replace H1 := Z0 hc13 H1
             refine r_s (L := []) (T := [⟨[], _, [], [], [4]⟩]) (F := [.op 0 0]) (hst.pick [] rfl) hb Zb
               (o_p rfl (Zc rfl rfl c_i) <| o_n) (by kernel_rfl) (fun a g hst hb => ?_)
             refine wp_ret ?_
             refine Zw ?_
             refine Zw ?_
             refine Zn ?_
             refine Zn ?_
             refine Zw ?_
             refine Zn ?_
             refine Zn ?_
             obtain rfl := Option.some.inj H1
             obtain rfl := Option.some.inj H0
             exact Z3 rfl hst hb (Zm (s := 4)) (hst.at 0 rfl)
           · replace H1 := Zz hc13 H1
             obtain ⟨e14, h15, H1⟩ := Zh H1; obtain ⟨r16, h17, H1⟩ := Zh H1
             refine r_s (L := [(0, _), (1, _), (5, _), (6, _), (7, _), (8, _), (9, _)]) (T := ⟨[.old 2], _, [], [], [53]⟩ :: ⟨[.op 0 0], _, [], [0], [54]⟩ :: ⟨[.op 1 0], _, [], [0, 1], [55]⟩ :: ⟨[.op 2 0, .old 0], _, [], [0, 1, 2], [56]⟩ :: ⟨[.op 2 0, .op 3 0], _, [], Lr 4, [57]⟩ :: ⟨[.op 2 0, .op 4 0], _, [], Lr 5, [58]⟩ :: ⟨[.op 5 0], _, [], Lr 6, [59]⟩ :: ⟨[.op 6 0, .old 1], _, [], Lr 7, [60]⟩ :: ⟨[.op 6 0, .old 2], _, [], Lr 7, [61]⟩ :: ⟨[.op 6 0, .op 8 0], _, [], [0, 1, 2, 3, 4, 5, 6, 8], [62]⟩ :: ⟨[.op 6 0, .op 7 0, .op 9 0], _, [], Lr 10, [63]⟩ :: ⟨[.op 6 0, .op 10 0], _, [], Lr 11, [64]⟩ :: ⟨[.op 6 0, .old 3], _, [], Lr 7, [65]⟩ :: ⟨[.op 6 0, .op 11 0, .op 12 0], _, [], Lr 13, [66]⟩ :: ⟨[.op 6 0, .op 13 0], _, [], Lr 14, [67]⟩ :: ⟨[.op 6 0, .op 14 0], _, [], Lr 15, [68]⟩ :: ⟨[.op 15 0], _, [], Lr 16, [52]⟩ :: []) (F := [.old 0, .old 1, .old 4, .old 5, .old 6, .op 16 0]) (hst.pick [0, 1, 2, 3, 4, 5, 6] rfl) hb Zb
               (o_p rfl (Za rfl rfl u_0) <| o_p rfl (Zcr rfl rfl u_0 c_i) <| o_p rfl (Za rfl rfl u_0) <| o_g (g_t rfl rfl rfl (fun hG => Za rfl rfl u_0)) <| o_g (g_t rfl rfl rfl (fun hG => Zbw rfl rfl (Opd.gd hG u_0) c_i)) <| o_p rfl (Zbj rfl rfl u_0 (fun hz => (Opd.gd hz u_1))) <| o_p rfl (Za rfl rfl u_0) <| o_g (g_t rfl rfl rfl (fun hG => Za rfl rfl u_0)) <| o_g (g_t rfl rfl rfl (fun hG => Za rfl rfl u_0)) <| o_g (g_t rfl rfl rfl (fun hG => Zjj rfl rfl (Opd.gd hG u_0) c_i rfl)) <| o_g (g_t rfl rfl rfl (fun hG => Zbv Tryd.underlying43 Zjc rfl rfl (Opd.gd hG u_0) (Opd.gd hG u_1) (Zbq h15 hG))) <| o_g (g_t rfl rfl rfl (fun hG => Zf Zfk rfl rfl (Opd.gd hG u_0))) <| o_g (g_t rfl rfl rfl (fun hG => Zf Zfk rfl rfl u_0)) <| o_g (g_t rfl rfl rfl (fun hG => Zp Zzb (Zmb _ _ (Zbq h17 hG)) rfl rfl (.cons (Opd.gd hG u_0) (.cons (Opd.gd hG u_1) .nil)))) <| o_g (g_t rfl rfl rfl (fun hG => Zcn rfl rfl (Opd.gd hG u_0))) <| o_p rfl (Zbj rfl rfl u_0 (fun hz => (Opd.gd hz u_1))) <| o_p rfl (Zc rfl rfl u_0) <| o_n) (by kernel_rfl) (fun a g hst hb => ?_)
             refine wp_cond_split (hst.bool 5 rfl) (fun hc18 => ?_) (fun hc18 => ?_)
             · replace H1 := Z0 hc18 H1
               refine r_s (L := []) (T := [⟨[], _, [], [], [4]⟩]) (F := [.op 0 0]) (hst.pick [] rfl) hb Zb
                 (o_p rfl (Zc rfl rfl c_i) <| o_n) (by kernel_rfl) (fun a g hst hb => ?_)
               refine wp_ret ?_
               refine Zw ?_
               refine Zw ?_
               refine Zn ?_
               refine Zn ?_
               refine Zw ?_
               refine Zn ?_
               refine Zn ?_
               obtain rfl := Option.some.inj H1
               obtain rfl := Option.some.inj H0
               exact Z3 rfl hst hb (Zm (s := 4)) (hst.at 0 rfl)
             · replace H1 := Zz hc18 H1
               refine wp_skip ?_
               refine Zbt ?_
               refine Zbt ?_
               refine Zu ?_
               refine r_g (L := [(0, _), (1, _), (7, _), (8, _), (9, _)]) (T := [⟨[.old 4], _, [], [], [69]⟩, ⟨[.op 0 0], _, [], [0], [9]⟩]) (F := [.old 0, .old 1, .old 2, .old 3, .op 1 0]) (hst.pick [0, 1, 2, 3, 4] rfl) hb Zb
                 (o_p rfl (Zce rfl rfl u_0 c_i rfl) <| o_p rfl (Za rfl rfl u_0) <| o_n) (by kernel_rfl) (fun a g hst hb => ?_)
               exact ⟨n, Nat.lt_succ_self _, (IntKind.i64.wrap (x1 + (1 : Int))), g, rfl, (hst.pick [0, 1, 2, 3, 4] rfl), hb, H1⟩
     · replace H1 := Zz hc2 H1
       refine wp_exit ?_
       refine Zca ?_
       refine Zca ?_
       refine Zcz ?_
       exact ⟨g, rfl, (hst.pick [] rfl), hb, Option.some.inj H1⟩
theorem Zmy (a0 : Zd) {r : Int} (h : Zdu a0 = some r) : FnOk Tryd.prog 12 [(Zi.pd a0)] (pInt .i64 r) := by
 have H0 := h
 unfold Zdu at H0
 clear h
 refine Zbu (N := 83) Tryd.func12 rfl rfl (Nat.le_of_ble_eq_true rfl) rfl rfl (fun a g0 hst hb => ?_)
 refine r_s (T := [⟨[.old 0], _, [], [], [1]⟩, ⟨[], _, [], [], [2]⟩]) (F := [.op 0 0]) hst hb Zb
   (o_p rfl (Zbl rfl rfl u_0) <| o_p rfl (Zc rfl rfl c_i) <| o_n) (by kernel_rfl) (fun a g hst hb => ?_)
 obtain ⟨r1, h2, H0⟩ := Zh H0
 refine r_s (T := [⟨[.old 0], _, [], [], [4]⟩, ⟨[.op 0 0], _, [], [0], [5]⟩, ⟨[.op 1 0], _, [], [0, 1], [6]⟩, ⟨[], [(3, (pBox Zcu 3 (default : Zb1)))], [4], [], [3]⟩, ⟨[.op 2 0, .op 3 0], _, [4], Lr 4, [3]⟩]) (F := [.old 0, .op 4 0]) hst hb Zb
   (o_p rfl (Ze Zf9 rfl rfl u_0) <| o_p rfl (Zf ty_3 rfl rfl u_0) <| o_p rfl (Zp Z8y (Zu2 _ h2) rfl rfl (.cons u_0 .nil)) <| o_p rfl (Zbb (zs := [.bool false, .bool false, .bool false, .bool false, .bool false]) (by kernel_rfl) (fun g => Zpt g) rfl rfl) <| o_p rfl (Zby Zjg rfl rfl u_1 u_0) <| o_n) (by kernel_rfl) (fun a g hst hb => ?_)
 refine wp_seq ?_
 refine wp_block ?_
 refine r_s (T := [⟨[.old 0], _, [], [], [8]⟩, ⟨[.op 0 0], _, [], [0], [9]⟩, ⟨[.op 1 0], _, [], [0, 1], [10]⟩, ⟨[.op 2 0], _, [], [0, 1, 2], [11]⟩, ⟨[.op 3 0, .old 0], _, [], Lr 4, [12]⟩, ⟨[.op 3 0, .op 4 0], _, [], Lr 5, [13]⟩, ⟨[.op 3 0, .op 5 0], _, [], Lr 6, [14]⟩, ⟨[.op 3 0, .op 6 0], _, [], Lr 7, [15]⟩, ⟨[.op 7 0], _, [], Lr 8, [7]⟩]) (F := [.old 0, .old 1, .op 8 0]) hst hb Zb
   (o_p rfl (Ze Zf9 rfl rfl u_0) <| o_p rfl (Zf ty_3 rfl rfl u_0) <| o_p rfl (Z3k rfl rfl u_0 c_i) <| o_p rfl (Za rfl rfl u_0) <| o_g (g_f rfl rfl rfl (fun hG => Ze Zf9 rfl rfl u_0)) <| o_g (g_f rfl rfl rfl (fun hG => Zf ty_3 rfl rfl (Opd.gd hG u_0))) <| o_g (g_f rfl rfl rfl (fun hG => Zso rfl rfl (Opd.gd hG u_0) c_i)) <| o_p rfl (Zbz rfl rfl u_0 (fun hz => (Opd.gd (bNF hz) u_1))) <| o_p rfl (Zc rfl rfl u_0) <| o_n) (by kernel_rfl) (fun a g hst hb => ?_)
 refine wp_cond_split (hst.bool 2 rfl) (fun hc3 => ?_) (fun hc3 => ?_)
 · replace H0 := Z0 hc3 H0
   refine r_s (L := []) (T := [⟨[], _, [], [], [2]⟩]) (F := [.op 0 0]) (hst.pick [] rfl) hb Zb
     (o_p rfl (Zc rfl rfl c_i) <| o_n) (by kernel_rfl) (fun a g hst hb => ?_)
   refine wp_ret ?_
   refine Zw ?_
   refine Zn ?_
   obtain rfl := Option.some.inj H0
   exact Z3 rfl hst hb (Zm (s := 2)) (hst.at 0 rfl)
 · replace H0 := Zz hc3 H0
   obtain ⟨r4, h5, H0⟩ := Zh H0
   refine r_s (L := [(1, _), (3, _)]) (T := [⟨[.old 0], _, [], [], [17]⟩, ⟨[.old 1], _, [], [], [18]⟩, ⟨[.op 0 0, .op 1 0], _, [], [0, 1], [19]⟩, ⟨[.op 2 0], _, [], [0, 1, 2], [20]⟩, ⟨[.op 3 0], _, [], Lr 4, [16]⟩]) (F := [.old 0, .old 1, .op 4 0]) (hst.pick [0, 1] rfl) hb Zb
     (o_p rfl (Zf Zbi rfl rfl u_0) <| o_p rfl (Zf Zjg rfl rfl u_0) <| o_p rfl (Zp Z7c (Zxf _ _ h5) rfl rfl (.cons u_0 (.cons u_1 .nil))) <| o_p rfl (Zcn rfl rfl u_0) <| o_p rfl (Zc rfl rfl u_0) <| o_n) (by kernel_rfl) (fun a g hst hb => ?_)
   refine wp_cond_split (hst.bool 2 rfl) (fun hc6 => ?_) (fun hc6 => ?_)
   · replace H0 := Z0 hc6 H0
     refine r_s (L := []) (T := [⟨[], _, [], [], [2]⟩]) (F := [.op 0 0]) (hst.pick [] rfl) hb Zb
       (o_p rfl (Zc rfl rfl c_i) <| o_n) (by kernel_rfl) (fun a g hst hb => ?_)
     refine wp_ret ?_
     refine Zw ?_
     refine Zn ?_
     obtain rfl := Option.some.inj H0
     exact Z3 rfl hst hb (Zm (s := 2)) (hst.at 0 rfl)
   · replace H0 := Zz hc6 H0
     refine r_s (L := [(1, _), (3, _)]) (T := [⟨[.old 0], _, [], [], [22]⟩, ⟨[.op 0 0], _, [], [0], [23]⟩, ⟨[.op 1 0], _, [], [0, 1], [24]⟩, ⟨[.op 2 0], _, [], [0, 1, 2], [25]⟩, ⟨[.op 3 0], _, [], Lr 4, [21]⟩]) (F := [.old 0, .old 1, .op 4 0]) (hst.pick [0, 1] rfl) hb Zb
       (o_p rfl (Ze Zjs rfl rfl u_0) <| o_p rfl (Zf ty_9 rfl rfl u_0) <| o_p rfl (Zft Tryd.underlying9 rfl rfl u_0) <| o_p rfl (Zcr rfl rfl u_0 c_i) <| o_p rfl (Zc rfl rfl u_0) <| o_n) (by kernel_rfl) (fun a g hst hb => ?_)
     refine wp_cond_split (hst.bool 2 rfl) (fun hc7 => ?_) (fun hc7 => ?_)
     · replace H0 := Z0 hc7 H0
       refine r_s (L := []) (T := [⟨[], _, [], [], [2]⟩]) (F := [.op 0 0]) (hst.pick [] rfl) hb Zb
         (o_p rfl (Zc rfl rfl c_i) <| o_n) (by kernel_rfl) (fun a g hst hb => ?_)
       refine wp_ret ?_
       refine Zw ?_
       refine Zn ?_
       obtain rfl := Option.some.inj H0
       exact Z3 rfl hst hb (Zm (s := 2)) (hst.at 0 rfl)
     · replace H0 := Zz hc7 H0
       refine r_s (L := [(1, _), (3, _)]) (T := ⟨[.old 1], _, [], [], [27]⟩ :: ⟨[.op 0 0], _, [], [0], [28]⟩ :: ⟨[.op 1 0], _, [], [0, 1], [29]⟩ :: ⟨[.op 2 0, .old 0], _, [], [0, 1, 2], [30]⟩ :: ⟨[.op 2 0, .op 3 0], _, [], Lr 4, [31]⟩ :: ⟨[.op 2 0, .op 4 0], _, [], Lr 5, [32]⟩ :: ⟨[.op 2 0, .op 5 0], _, [], Lr 6, [33]⟩ :: ⟨[.op 6 0, .old 0], _, [], Lr 7, [34]⟩ :: ⟨[.op 6 0, .op 7 0], _, [], Lr 8, [35]⟩ :: ⟨[.op 6 0, .op 8 0], _, [], Lr 9, [36]⟩ :: ⟨[.op 2 0, .op 6 0, .op 9 0], _, [], Lr 10, [37]⟩ :: ⟨[.op 2 0, .op 10 0], _, [], Lr 11, [38]⟩ :: ⟨[.op 11 0, .old 0], _, [], Lr 12, [39]⟩ :: ⟨[.op 11 0, .op 12 0], _, [], Lr 13, [40]⟩ :: ⟨[.op 11 0, .old 0], _, [], Lr 12, [41]⟩ :: ⟨[.op 11 0, .op 14 0], _, [], 0 :: 1 :: 2 :: 3 :: 4 :: 5 :: 6 :: 7 :: 8 :: 9 :: 10 :: 11 :: 14 :: [], [42]⟩ :: ⟨[.op 11 0, .op 13 0, .op 15 0], _, [], Lr 16, [43]⟩ :: ⟨[.op 2 0, .op 11 0, .op 16 0], _, [], Lr 17, [44]⟩ :: ⟨[.op 2 0, .op 17 0], _, [], Lr 18, [45]⟩ :: ⟨[.op 18 0, .old 0], _, [], Lr 19, [46]⟩ :: ⟨[.op 18 0, .op 19 0], _, [], Lr 20, [47]⟩ :: ⟨[.op 18 0, .old 0], _, [], Lr 19, [48]⟩ :: ⟨[.op 18 0, .op 21 0], _, [], 0 :: 1 :: 2 :: 3 :: 4 :: 5 :: 6 :: 7 :: 8 :: 9 :: 10 :: 11 :: 12 :: 13 :: 14 :: 15 :: 16 :: 17 :: 18 :: 21 :: [], [49]⟩ :: ⟨[.op 18 0, .op 20 0, .op 22 0], _, [], Lr 23, [50]⟩ :: ⟨[.op 2 0, .op 18 0, .op 23 0], _, [], Lr 24, [51]⟩ :: ⟨[.op 2 0, .op 24 0], _, [], Lr 25, [52]⟩ :: ⟨[.op 25 0], _, [], Lr 26, [26]⟩ :: []) (F := [.old 0, .old 1, .op 26 0]) (hst.pick [0, 1] rfl) hb Zb
         (o_p rfl (Ze Zyb rfl rfl u_0) <| o_p rfl (Zf ty_4 rfl rfl u_0) <| o_p rfl (Za rfl rfl u_0) <| o_g (g_t rfl rfl rfl (fun hG => Ze Zj1 rfl rfl u_0)) <| o_g (g_t rfl rfl rfl (fun hG => Zf ty_2 rfl rfl (Opd.gd hG u_0))) <| o_g (g_t rfl rfl rfl (fun hG => Zc2 rfl rfl (Opd.gd hG u_0) c_i)) <| o_g (g_t rfl rfl rfl (fun hG => Za rfl rfl (Opd.gd hG u_0))) <| o_g (g_fi rfl rfl rfl (fun hG => Ze Zj3 rfl rfl u_0)) <| o_g (g_fi rfl rfl rfl (fun hG => Zf ty_2 rfl rfl (Opd.gd hG u_0))) <| o_g (g_fi rfl rfl rfl (fun hG => Zcr rfl rfl (Opd.gd hG u_0) c_i)) <| o_g (g_t rfl rfl rfl (fun hG => Zbz rfl rfl (Opd.gd hG u_0) (fun hz => (Opd.gd (bA hG (bNF hz)) u_1)))) <| o_g (g_t rfl rfl rfl (fun hG => Za rfl rfl (Opd.gd hG u_0))) <| o_g (g_fi rfl rfl rfl (fun hG => Ze Zea rfl rfl u_0)) <| o_g (g_fi rfl rfl rfl (fun hG => Zf ty_2 rfl rfl (Opd.gd hG u_0))) <| o_g (g_fi rfl rfl rfl (fun hG => Ze Zj1 rfl rfl u_0)) <| o_g (g_fi rfl rfl rfl (fun hG => Zf ty_2 rfl rfl (Opd.gd hG u_0))) <| o_g (g_fi rfl rfl rfl (fun hG => Zc2 rfl rfl (Opd.gd hG u_0) (Opd.gd hG u_1))) <| o_g (g_t rfl rfl rfl (fun hG => Zbz rfl rfl (Opd.gd hG u_0) (fun hz => (Opd.gd (bA hG (bNF hz)) u_1)))) <| o_g (g_t rfl rfl rfl (fun hG => Za rfl rfl (Opd.gd hG u_0))) <| o_g (g_fi rfl rfl rfl (fun hG => Ze Zea rfl rfl u_0)) <| o_g (g_fi rfl rfl rfl (fun hG => Zf ty_2 rfl rfl (Opd.gd hG u_0))) <| o_g (g_fi rfl rfl rfl (fun hG => Ze Zj3 rfl rfl u_0)) <| o_g (g_fi rfl rfl rfl (fun hG => Zf ty_2 rfl rfl (Opd.gd hG u_0))) <| o_g (g_fi rfl rfl rfl (fun hG => Zcr rfl rfl (Opd.gd hG u_0) (Opd.gd hG u_1))) <| o_g (g_t rfl rfl rfl (fun hG => Zbz rfl rfl (Opd.gd hG u_0) (fun hz => (Opd.gd (bA hG (bNF hz)) u_1)))) <| o_p rfl (Zbj rfl rfl u_0 (fun hz => (Opd.gd hz u_1))) <| o_p rfl (Zc rfl rfl u_0) <| o_n) (by kernel_rfl) (fun a g hst hb => ?_)
       refine wp_cond_split (hst.bool 2 rfl) (fun hc8 => ?_) (fun hc8 => ?_)
       · replace H0 := Z0 hc8 H0
         refine r_s (L := []) (T := [⟨[], _, [], [], [2]⟩]) (F := [.op 0 0]) (hst.pick [] rfl) hb Zb
           (o_p rfl (Zc rfl rfl c_i) <| o_n) (by kernel_rfl) (fun a g hst hb => ?_)
         refine wp_ret ?_
         refine Zw ?_
         refine Zn ?_
         obtain rfl := Option.some.inj H0
         exact Z3 rfl hst hb (Zm (s := 2)) (hst.at 0 rfl)
       · replace H0 := Zz hc8 H0
         obtain ⟨r9, h10, H0⟩ := Zh H0
         refine r_s (L := [(1, _), (3, _)]) (T := [⟨[.old 0], _, [], [], [54]⟩, ⟨[.op 0 0], _, [], [0], [55]⟩, ⟨[.op 1 0], _, [], [0, 1], [56]⟩, ⟨[.op 2 0], _, [], [0, 1, 2], [57]⟩, ⟨[.op 3 0], _, [], Lr 4, [53]⟩]) (F := [.old 0, .old 1, .op 4 0]) (hst.pick [0, 1] rfl) hb Zb
           (o_p rfl (Ze Zkx rfl rfl u_0) <| o_p rfl (Zf Ze4 rfl rfl u_0) <| o_p rfl (Zp Zzq (Zmc _ h10) rfl rfl (.cons u_0 .nil)) <| o_p rfl (Zcn rfl rfl u_0) <| o_p rfl (Zc rfl rfl u_0) <| o_n) (by kernel_rfl) (fun a g hst hb => ?_)
         refine wp_cond_split (hst.bool 2 rfl) (fun hc11 => ?_) (fun hc11 => ?_)
         · replace H0 := Z0 hc11 H0
           refine r_s (L := []) (T := [⟨[], _, [], [], [2]⟩]) (F := [.op 0 0]) (hst.pick [] rfl) hb Zb
             (o_p rfl (Zc rfl rfl c_i) <| o_n) (by kernel_rfl) (fun a g hst hb => ?_)
           refine wp_ret ?_
           refine Zw ?_
           refine Zn ?_
           obtain rfl := Option.some.inj H0
           exact Z3 rfl hst hb (Zm (s := 2)) (hst.at 0 rfl)
         · replace H0 := Zz hc11 H0
           refine r_s (L := [(1, _), (3, _)]) (T := [⟨[.old 1], _, [], [], [59]⟩, ⟨[.op 0 0], _, [], [0], [60]⟩, ⟨[.op 1 0], _, [], [0, 1], [61]⟩, ⟨[.op 2 0], _, [], [0, 1, 2], [58]⟩]) (F := [.old 0, .op 3 0]) (hst.pick [0, 1] rfl) hb Zb
             (o_p rfl (Ze Zyr rfl rfl u_0) <| o_p rfl (Zf ty_4 rfl rfl u_0) <| o_p rfl (Zcn rfl rfl u_0) <| o_p rfl (Zc rfl rfl u_0) <| o_n) (by kernel_rfl) (fun a g hst hb => ?_)
           refine wp_cond_split (hst.bool 1 rfl) (fun hc12 => ?_) (fun hc12 => ?_)
           · replace H0 := Z0 hc12 H0
             refine r_s (L := []) (T := [⟨[], _, [], [], [2]⟩]) (F := [.op 0 0]) (hst.pick [] rfl) hb Zb
               (o_p rfl (Zc rfl rfl c_i) <| o_n) (by kernel_rfl) (fun a g hst hb => ?_)
             refine wp_ret ?_
             refine Zw ?_
             refine Zn ?_
             obtain rfl := Option.some.inj H0
             exact Z3 rfl hst hb (Zm (s := 2)) (hst.at 0 rfl)
           · replace H0 := Zz hc12 H0
             refine r_s (L := [(1, _)]) (T := [⟨[.old 0], _, [], [], [63]⟩, ⟨[.op 0 0], _, [], [0], [64]⟩, ⟨[.op 1 0], _, [], [0, 1], [65]⟩, ⟨[.op 2 0], _, [], [0, 1, 2], [66]⟩, ⟨[.op 3 0, .old 0], _, [], Lr 4, [67]⟩, ⟨[.op 3 0, .op 4 0], _, [], Lr 5, [68]⟩, ⟨[.op 3 0, .op 5 0], _, [], Lr 6, [69]⟩, ⟨[.op 3 0, .op 6 0], _, [], Lr 7, [70]⟩, ⟨[.op 7 0], _, [], Lr 8, [62]⟩]) (F := [.old 0, .op 8 0]) (hst.pick [0] rfl) hb Zb
               (o_p rfl (Ze Zhp rfl rfl u_0) <| o_p rfl (Zf ty_3 rfl rfl u_0) <| o_p rfl (Zc2 rfl rfl u_0 c_i) <| o_p rfl (Za rfl rfl u_0) <| o_g (g_f rfl rfl rfl (fun hG => Ze Zhp rfl rfl u_0)) <| o_g (g_f rfl rfl rfl (fun hG => Zf ty_3 rfl rfl (Opd.gd hG u_0))) <| o_g (g_f rfl rfl rfl (fun hG => Zcr rfl rfl (Opd.gd hG u_0) c_i)) <| o_p rfl (Zbz rfl rfl u_0 (fun hz => (Opd.gd (bNF hz) u_1))) <| o_p rfl (Zc rfl rfl u_0) <| o_n) (by kernel_rfl) (fun a g hst hb => ?_)
             refine wp_cond_split (hst.bool 1 rfl) (fun hc13 => ?_) (fun hc13 => ?_)
             · replace H0 := Z0 hc13 H0
               refine r_s (L := []) (T := [⟨[], _, [], [], [2]⟩]) (F := [.op 0 0]) (hst.pick [] rfl) hb Zb
                 (o_p rfl (Zc rfl rfl c_i) <| o_n) (by kernel_rfl) (fun a g hst hb => ?_)
               refine wp_ret ?_
               refine Zw ?_
               refine Zn ?_
               obtain rfl := Option.some.inj H0
               exact Z3 rfl hst hb (Zm (s := 2)) (hst.at 0 rfl)
             · replace H0 := Zz hc13 H0
               refine r_s (L := [(1, _)]) (T := [⟨[.old 0], _, [], [], [72]⟩, ⟨[.op 0 0], _, [], [0], [73]⟩, ⟨[.op 1 0], _, [], [0, 1], [74]⟩, ⟨[.old 0], _, [], [], [75]⟩, ⟨[.op 3 0], _, [], [3], [76]⟩, ⟨[.op 2 0, .op 4 0], _, [], Lr 5, [77]⟩, ⟨[.op 5 0], _, [], Lr 6, [71]⟩]) (F := [.old 0, .op 6 0]) (hst.pick [0] rfl) hb Zb
                 (o_p rfl (Ze Zdc rfl rfl u_0) <| o_p rfl (Zf Zev rfl rfl u_0) <| o_p rfl (Zb3 Tryd.underlying43 rfl rfl u_0) <| o_p rfl (Ze Zhp rfl rfl u_0) <| o_p rfl (Zf ty_3 rfl rfl u_0) <| o_p rfl (Zcr rfl rfl u_0 u_1) <| o_p rfl (Zc rfl rfl u_0) <| o_n) (by kernel_rfl) (fun a g hst hb => ?_)
               refine wp_cond_split (hst.bool 1 rfl) (fun hc14 => ?_) (fun hc14 => ?_)
               · replace H0 := Z0 hc14 H0
                 refine r_s (L := []) (T := [⟨[], _, [], [], [2]⟩]) (F := [.op 0 0]) (hst.pick [] rfl) hb Zb
                   (o_p rfl (Zc rfl rfl c_i) <| o_n) (by kernel_rfl) (fun a g hst hb => ?_)
                 refine wp_ret ?_
                 refine Zw ?_
                 refine Zn ?_
                 obtain rfl := Option.some.inj H0
                 exact Z3 rfl hst hb (Zm (s := 2)) (hst.at 0 rfl)
               · replace H0 := Zz hc14 H0
                 refine wp_skip ?_
                 refine Zbt ?_
                 refine Zu ?_
                 obtain ⟨r15, h16, H0⟩ := Zh H0
                 refine r_s (L := [(1, _)]) (T := [⟨[.old 0], _, [], [], [78]⟩, ⟨[.op 0 0], _, [], [0], [79]⟩, ⟨[.old 0], _, [], [], [80]⟩, ⟨[.op 2 0], _, [], [2], [81]⟩, ⟨[.op 1 0, .op 3 0], _, [], Lr 4, [82]⟩, ⟨[.op 4 0], _, [], Lr 5, [2]⟩]) (F := [.op 5 0]) (hst.pick [0] rfl) hb Zb
                   (o_p rfl (Ze Zf9 rfl rfl u_0) <| o_p rfl (Zf ty_3 rfl rfl u_0) <| o_p rfl (Ze Zdc rfl rfl u_0) <| o_p rfl (Zf Zev rfl rfl u_0) <| o_p rfl (Zp Z69 (Zvp _ _ h16) rfl rfl (.cons u_0 (.cons u_1 .nil))) <| o_p rfl (Zc rfl rfl u_0) <| o_n) (by kernel_rfl) (fun a g hst hb => ?_)
                 refine wp_ret ?_
                 obtain rfl := Option.some.inj H0
                 exact Z3 rfl hst hb (Zm (s := 2)) (hst.at 0 rfl)
theorem Zkb (a0 : (List Zj)) {r : (List Zj)} (h : Zbs a0 = some r) : FnOk Tryd.prog 43 [(Zy.sl.pd a0)] (Zy.sl.pd r) := by
 unfold Zbs at h
 obtain ⟨hsz, H0⟩ := Zkd h
 obtain rfl := Option.some.inj H0
 refine Zbu (N := 8) Tryd.func43 rfl rfl (Nat.le_of_ble_eq_true rfl) rfl rfl (fun a g0 hst hb => ?_)
 refine wp_seq ?_
 refine Zn0 Zb (N := 8) (L := [(0, (Zy.sl.pd a0))]) (T := [⟨[], [(2, (Zy.sl.pd []))], [], [], [2]⟩]) (F := [.old 0]) (by kernel_rfl)
   (Zhr (OT.plain rfl (Zc rfl rfl (Opd.c (fun g => Zkr g)))) Znm) hst hb (fun a g hst hb => ?_)
 refine Zu ?_
 refine wp_seq ?_
 refine wp_seq ?_
 refine Zn0 Zb (N := 8) (L := [(0, (Zy.sl.pd a0))]) (T := [⟨[.old 0], [(3, (Zy.sl.pd a0))], [], [], [3]⟩, ⟨[.op 0 0], [(4, Z3r a0)], [], [0], [4]⟩]) (F := [.old 0, .op 1 0]) (by kernel_rfl)
   (Zhr (OT.plain rfl (Za rfl rfl Opd.t0)) (Zhr (OT.plain rfl (Zyk Tryd.underlying43 rfl rfl Opd.t0)) Znm)) hst hb (fun a g hst hb => ?_)
 refine Zu ?_
 obtain ⟨c, hc, hc'⟩ := hst.at 1 rfl
 refine wp_cond_split hc (fun ht => ?_) (fun hf => ?_)
 · obtain rfl := hc' ht
   refine wp_seq ?_
   refine Zn0 Zb (N := 8) (L := []) (T := [⟨[], [(2, (Zy.sl.pd []))], [], [], [2]⟩]) (F := [.op 0 0]) (by kernel_rfl)
     (Zhr (OT.plain rfl (Zc rfl rfl (Opd.c (fun g => Zkr g)))) Znm) (hst.pick [] rfl) hb (fun a g hst hb => ?_)
   refine Zu ?_
   refine wp_ret ?_
   refine Zn ?_
   exact Z3 rfl hst hb (Zm (s := 2)) (hst.at 0 rfl)
 · refine wp_skip ?_
   refine Zu ?_
   refine wp_seq ?_
   have hsz' : (([] : (List Zj)).length + a0.length) * 24 ≤ 140737488355328 := by simpa using hsz
   refine Zn0 Zb (N := 8) (L := [(0, (Zy.sl.pd a0))]) (T := [⟨[], [(5, (pRow Zy 97 5 []))], [6], [], [5]⟩, ⟨[.old 0], [(6, (Zy.sl.pd a0))], [], [], [6]⟩, ⟨[.op 0 0, .op 1 0], [(7, (pRow Zy 97 5 ([] ++ a0)))], [6], [0, 1], [5, 7]⟩, ⟨[.op 2 0], [(2, (pRow Zy 97 5 ([] ++ a0)))], [], [0, 1, 2], [2]⟩]) (F := [.op 3 0]) (by kernel_rfl)
     (Zhr (OT.plain rfl (Zt1 5 Zd7 (xs := []) .nil (by decide) rfl rfl)) (Zhr (OT.plain rfl (Za rfl rfl Opd.t0)) (Zhr (OT.plain rfl (Zk0 Zd7 rfl rfl Opd.t0 (Opd.tl Opd.t0) hsz')) (Zhr (OT.plain rfl (Zc rfl rfl Opd.t0)) Znm)))) (hst.pick [0] rfl) hb (fun a g hst hb => ?_)
   refine Zu ?_
   refine wp_ret ?_
   exact Z3 rfl hst hb (Zm (s := 2)) (Zpl (hst.at 0 rfl))
theorem Zem (a0 : (List Zj)) {r : (List Zj)} (h : Zbs a0 = some r) : Zth Tryd.prog 43 [(Zy.sl.pd a0)] Zy 97 r := by
 unfold Zbs at h
 obtain ⟨hsz, H0⟩ := Zkd h
 obtain rfl := Option.some.inj H0
 refine Zy7 (N := 8) Tryd.func43 rfl rfl (Nat.le_of_ble_eq_true rfl) rfl (fun a g0 h0 hst hb => ?_)
 refine r_s (T := [⟨[], [(2, (Zy.sl.pd []))], [], [], [2]⟩]) (F := [.old 0]) hst hb Zb
   (o_p rfl (Zc rfl rfl (Opd.c (fun g => Zkr g))) <| o_n) (by kernel_rfl) (fun a g hst hb => ?_)
 refine wp_seq ?_
 refine r_s (T := [⟨[.old 0], _, [], [], [3]⟩, ⟨[.op 0 0], _, [], [0], [4]⟩]) (F := [.old 0, .op 1 0]) hst hb Zb
   (o_p rfl (Za rfl rfl u_0) <| o_p rfl (Zyk Tryd.underlying43 rfl rfl u_0) <| o_n) (by kernel_rfl) (fun a g hst hb => ?_)
 obtain ⟨c, hc, hc'⟩ := hst.at 1 rfl
 refine wp_cond_split hc (fun ht => ?_) (fun hf => ?_)
 · obtain rfl := hc' ht
   refine r_s (L := []) (T := [⟨[], [(2, (pEq (.slice none 0 0)))], [], [], [2]⟩]) (F := [.op 0 0]) (hst.pick [] rfl) hb Zb
     (o_p rfl (Zc rfl rfl (Opd.c (fun g => rfl))) <| o_n) (by kernel_rfl) (fun a g hst hb => ?_)
   refine wp_ret ?_
   refine Zn ?_
   exact Zxm rfl hst hb (Zm (s := 2)) ⟨none, hst.at 0 rfl⟩
 · refine wp_skip ?_
   refine Zu ?_
   refine r_s (L := [(0, _)]) (T := [⟨[], [(5, (pOwn Zy 97 5 (some 0) (([] : (List Zj)).map some)))], [6], [], [5]⟩, ⟨[.old 0], _, [], [], [6]⟩, ⟨[.op 0 0, .op 1 0], _, [6], [0, 1], [5, 7]⟩, ⟨[.op 2 0], _, [], [0, 1, 2], [2]⟩]) (F := [.op 3 0]) (hst.pick [0] rfl) hb Zb
     (o_p rfl (Zz6 (ty := 0) Zd7 rfl rfl) <| o_p rfl (Za rfl rfl u_0) <| o_p rfl (Zsy Zd7 rfl rfl u_0 u_1 (by simpa using hsz)) <| o_p rfl (Zc rfl rfl u_0) <| o_n) (by kernel_rfl) (fun a g hst hb => ?_)
   refine wp_ret ?_
   exact Z2v rfl h0 hst hb (Zm (s := 2)) (hst.at 0 rfl)
theorem Zgf (a0 : Zd) {r : Zd} (h : Ze1 a0 = some r) : FnOk Tryd.prog 26 [(Zi.pd a0)] (Zi.pd r) := by
 have H0 := h
 unfold Ze1 at H0
 clear h
 refine Zbu (N := 8) Tryd.func26 rfl rfl (Nat.le_of_ble_eq_true rfl) rfl rfl (fun a g0 hst hb => ?_)
 refine r_s (T := [⟨[.old 0], _, [2], [], [1]⟩, ⟨[], [(2, (pBox Zi 2 (default : Zd)))], [3], [], [2]⟩]) (F := [.op 0 0, .op 1 0]) hst hb Zb
   (o_p rfl (Zqh rfl rfl u_0) <| o_p rfl (Zbb (zs := [.int .i64 0, .int .i64 0, .int .i64 0, .int .i64 0, .float .f64 0, .int .i64 0, .string ByteArray.empty, .slice none 0 0]) (by kernel_rfl) (fun g => Zch g) rfl rfl) <| o_n) (by kernel_rfl) (fun a g hst hb => ?_)
 obtain ⟨r1, h2, H0⟩ := Zh H0
 refine r_s (T := [⟨[.old 0], _, [], [], [3]⟩, ⟨[.op 0 0], _, [], [0], [4]⟩, ⟨[.op 1 0], _, [], [0, 1], [5]⟩, ⟨[.old 0], _, [], [0, 1, 2], [6]⟩, ⟨[.op 2 0, .op 3 0, .old 0], _, [2], Lr 4, [1, 3, 6]⟩]) (F := [.op 4 0, .old 1]) hst hb Zb
   (o_p rfl (Zbc Zdc (off := 7) (by kernel_rfl) rfl rfl u_0) <| o_p rfl (Zcl Zev rfl rfl u_0) <| o_p rfl (Zp Zvi (Zkb _ h2) rfl rfl (.cons u_0 .nil)) <| o_p rfl (Zbc Zdc (off := 7) (by kernel_rfl) rfl rfl u_0) <| o_p rfl (Zqa Zev rfl rfl u_2 u_1 u_0) <| o_n) (by kernel_rfl) (fun a g hst hb => ?_)
 refine r_s (T := [⟨[.old 0], _, [], [], [7]⟩, ⟨[.op 0 0, .old 1], _, [3], [0], [2]⟩]) (F := [.op 1 0]) hst hb Zb
   (o_p rfl (Zb8 Zbi rfl rfl u_0) <| o_p rfl (Z6 Zbi rfl rfl u_1 u_0) <| o_n) (by kernel_rfl) (fun a g hst hb => ?_)
 refine wp_ret ?_
 obtain rfl := Option.some.inj H0
 obtain ⟨u0, hu0, hq0⟩ := Zbh (P := Tryd.prog) Zbi (hst.at 0 rfl)
 exact Z3 rfl hst hb hu0 hq0
theorem Zjq (a0 : Zk) (a1 : ByteArray) {r : Zd × Bool} (h : Ze2 a0 a1 = some r) : FnOk Tryd.prog 34 [(Zt.pd a0), (pStr a1)] (pTup [(Zi.pd r.1), (Zbd r.2)]) := by
 have H0 := h
 unfold Ze2 at H0
 clear h
 refine Zbu (N := 39) Tryd.func34 rfl rfl (Nat.le_of_ble_eq_true rfl) rfl rfl (fun a g0 hst hb => ?_)
 refine r_s (T := [⟨[.old 0], _, [], [], [2]⟩, ⟨[], [(4, (pBox Zi 4 (default : Zd)))], [5], [], [4]⟩, ⟨[], _, [], [], [5]⟩]) (F := [.old 1, .op 0 0, .op 1 0]) hst hb Zb
   (o_p rfl (Zbl rfl rfl u_0) <| o_p rfl (Zbb (zs := [.int .i64 0, .int .i64 0, .int .i64 0, .int .i64 0, .float .f64 0, .int .i64 0, .string ByteArray.empty, .slice none 0 0]) (by kernel_rfl) (fun g => Zch g) rfl rfl) <| o_p rfl (Zc rfl rfl c_b) <| o_n) (by kernel_rfl) (fun a g hst hb => ?_)
 refine wp_seq ?_
 refine r_s (T := [⟨[.old 1], _, [], [], [7]⟩, ⟨[.op 0 0], _, [], [0], [8]⟩, ⟨[.op 1 0], _, [], [0, 1], [6]⟩]) (F := [.old 0, .old 2, .op 2 0]) hst hb Zb
   (o_p rfl (Ze Zn9 rfl rfl u_0) <| o_p rfl (Zf Zcv rfl rfl u_0) <| o_p rfl (Zc rfl rfl u_0) <| o_n) (by kernel_rfl) (fun a g hst hb => ?_)
 obtain ⟨z12, hz1, H0⟩ := Zh H0
 refine Zc0 (fun a w => ∃ (y11 : Zd) (g : G), w = g.w ∧ St 39 [(4, (pBox Zi 4 y11))] a g ∧ Base g0 g ∧ (.inr y11) = z12) ?_ ?_
 · rintro a w ⟨y11, g, rfl, hst, hb, rfl⟩
   refine Zu ?_
   refine r_s (T := [⟨[], _, [], [], [38]⟩, ⟨[.op 0 0, .old 0], _, [5], [0], [4]⟩, ⟨[], _, [], [0, 1], [5]⟩]) (F := [.op 1 0, .op 2 0]) hst hb Zb
     (o_p rfl (Zpj rfl rfl ) <| o_p rfl (Z6 Zbi rfl rfl u_1 u_0) <| o_p rfl (Zc rfl rfl c_b) <| o_n) (by kernel_rfl) (fun a g hst hb => ?_)
   refine wp_ret ?_
   obtain rfl := Option.some.inj H0
   obtain ⟨u0, hu0, hq0⟩ := Zbh (P := Tryd.prog) Zbi (hst.at 0 rfl)
   exact Zex rfl hst hb hu0 (Zm (s := 5)) (Zde hq0 (hst.at 1 rfl))
 · refine wp_block ?_
   refine wp_loop_ghost (fun n a w => ∃ (x1 : Zd) (x2 : shelf_nodeT) (g : G), w = g.w ∧ St 39 [(1, (pStr a1)), (4, (pBox Zi 4 x1)), (6, (Z2.pd x2))] a g ∧ Base g0 g ∧ Zdo a1 n x1 x2 = some z12) (a0.top.hh + 1) ⟨(default : Zd), a0.top, g, rfl, (hst.pick [0, 1, 2] rfl), hb, hz1⟩ (fun n a w hI => ?_)
   obtain ⟨x1, x2, g, rfl, hst, hb, H1⟩ := hI
   cases n with
   | zero => exact absurd H1 (by simp [Zdo])
   | succ n =>
     rw [Zdo] at H1
     refine wp_seq ?_
     refine r_s (T := [⟨[.old 2], _, [], [], [9]⟩, ⟨[.op 0 0], _, [], [0], [10]⟩]) (F := [.old 0, .old 1, .old 2, .op 1 0]) hst hb Zb
       (o_p rfl (Za rfl rfl u_0) <| o_p rfl (Zvv Tryd.underlying25 rfl rfl u_0 (Zeb _)) <| o_n) (by kernel_rfl) (fun a g hst hb => ?_)
     refine wp_cond_split (hst.bool 3 rfl) (fun hc3 => ?_) (fun hc3 => ?_)
     · replace H1 := Z0 hc3 H1
       refine wp_skip ?_
       refine Zu ?_
       refine Zc0 (fun a w => ∃ (j10 : shelf_nodeT) (g : G), w = g.w ∧ St 39 [(1, (pStr a1)), (4, (pBox Zi 4 x1)), (6, (Z2.pd j10))] a g ∧ Base g0 g ∧ Zgj x1 (Zdo a1 n) j10 = some z12) ?_ ?_
       · rintro a w ⟨j10, g, rfl, hst, hb, H1⟩
         unfold Zgj at H1
         exact ⟨n, Nat.lt_succ_self _, x1, j10, g, rfl, (hst.pick [0, 1, 2] rfl), hb, H1⟩
       · refine wp_block ?_
         refine wp_block ?_
         obtain ⟨n4, h5, H1⟩ := Zh H1
         refine r_s (L := [(1, _), (4, _), (6, _)]) (T := [⟨[.old 0], _, [], [], [17]⟩, ⟨[.old 2], _, [], [], [18]⟩, ⟨[.op 1 0], _, [], [1], [19]⟩, ⟨[.op 2 0], _, [], [1, 2], [20]⟩, ⟨[.op 3 0], _, [], [1, 2, 3], [21]⟩, ⟨[.op 0 0, .op 4 0], _, [], Lr 5, [22]⟩, ⟨[.op 5 0], _, [], Lr 6, [16]⟩]) (F := [.old 0, .old 1, .old 2, .op 6 0]) (hst.pick [0, 1, 2] rfl) hb Zb
           (o_p rfl (Za rfl rfl u_0) <| o_p rfl (Za rfl rfl u_0) <| o_p rfl (Zo rfl rfl (Opd.imp u_0 (fun _ _ h => Zr h5 h)) (fun _ _ ⟨_, _, _, e, _⟩ => ⟨_, e⟩)) <| o_p rfl (Ze Zes rfl rfl u_0) <| o_p rfl (Zf ty_9 rfl rfl u_0) <| o_p rfl (Zl8 rfl rfl u_0 u_1) <| o_p rfl (Zc rfl rfl u_0) <| o_n) (by kernel_rfl) (fun a g hst hb => ?_)
         refine wp_cond_split (hst.bool 3 rfl) (fun hc6 => ?_) (fun hc6 => ?_)
         · replace H1 := Z0 hc6 H1
           refine r_g (L := [(1, _), (4, _), (6, _)]) (T := [⟨[.old 2], _, [], [], [23]⟩, ⟨[.op 0 0], _, [], [0], [24]⟩, ⟨[.op 1 0], _, [], [0, 1], [25]⟩, ⟨[.op 2 0], _, [], [0, 1, 2], [26]⟩, ⟨[.op 3 0], _, [], Lr 4, [6]⟩]) (F := [.old 0, .old 1, .op 4 0]) (hst.pick [0, 1, 2] rfl) hb Zb
             (o_p rfl (Za rfl rfl u_0) <| o_p rfl (Zo rfl rfl (Opd.imp u_0 (fun _ _ h => Zr h5 h)) (fun _ _ ⟨_, _, _, e, _⟩ => ⟨_, e⟩)) <| o_p rfl (Ze Zd9 rfl rfl u_0) <| o_p rfl (Zf Zcv rfl rfl u_0) <| o_p rfl (Zc rfl rfl u_0) <| o_n) (by kernel_rfl) (fun a g hst hb => ?_)
           refine Zbt ?_
           refine Zbt ?_
           exact ⟨n4.left, g, rfl, (hst.pick [0, 1, 2] rfl), hb, H1⟩
         · replace H1 := Zz hc6 H1
           refine r_s (L := [(1, _), (4, _), (6, _)]) (T := [⟨[.old 0], _, [], [], [28]⟩, ⟨[.old 2], _, [], [], [29]⟩, ⟨[.op 1 0], _, [], [1], [30]⟩, ⟨[.op 2 0], _, [], [1, 2], [31]⟩, ⟨[.op 3 0], _, [], [1, 2, 3], [32]⟩, ⟨[.op 0 0, .op 4 0], _, [], Lr 5, [33]⟩, ⟨[.op 5 0], _, [], Lr 6, [27]⟩]) (F := [.old 0, .old 1, .old 2, .op 6 0]) (hst.pick [0, 1, 2] rfl) hb Zb
             (o_p rfl (Za rfl rfl u_0) <| o_p rfl (Za rfl rfl u_0) <| o_p rfl (Zo rfl rfl (Opd.imp u_0 (fun _ _ h => Zr h5 h)) (fun _ _ ⟨_, _, _, e, _⟩ => ⟨_, e⟩)) <| o_p rfl (Ze Zes rfl rfl u_0) <| o_p rfl (Zf ty_9 rfl rfl u_0) <| o_p rfl (Zsa rfl rfl u_0 u_1) <| o_p rfl (Zc rfl rfl u_0) <| o_n) (by kernel_rfl) (fun a g hst hb => ?_)
           refine wp_cond_split (hst.bool 3 rfl) (fun hc7 => ?_) (fun hc7 => ?_)
           · replace H1 := Z0 hc7 H1
             refine r_g (L := [(1, _), (4, _), (6, _)]) (T := [⟨[.old 2], _, [], [], [34]⟩, ⟨[.op 0 0], _, [], [0], [35]⟩, ⟨[.op 1 0], _, [], [0, 1], [36]⟩, ⟨[.op 2 0], _, [], [0, 1, 2], [37]⟩, ⟨[.op 3 0], _, [], Lr 4, [6]⟩]) (F := [.old 0, .old 1, .op 4 0]) (hst.pick [0, 1, 2] rfl) hb Zb
               (o_p rfl (Za rfl rfl u_0) <| o_p rfl (Zo rfl rfl (Opd.imp u_0 (fun _ _ h => Zr h5 h)) (fun _ _ ⟨_, _, _, e, _⟩ => ⟨_, e⟩)) <| o_p rfl (Ze Zeu rfl rfl u_0) <| o_p rfl (Zf Zcv rfl rfl u_0) <| o_p rfl (Zc rfl rfl u_0) <| o_n) (by kernel_rfl) (fun a g hst hb => ?_)
             refine Zbt ?_
             refine Zbt ?_
             exact ⟨n4.right, g, rfl, (hst.pick [0, 1, 2] rfl), hb, H1⟩
           · replace H1 := Zz hc7 H1
             obtain ⟨r8, h9, H1⟩ := Zh H1
             refine r_s (L := [(4, _), (6, _)]) (T := [⟨[.old 1], _, [], [], [11]⟩, ⟨[.op 0 0], _, [], [0], [12]⟩, ⟨[.op 1 0], _, [], [0, 1], [13]⟩, ⟨[.op 2 0], _, [], [0, 1, 2], [14]⟩, ⟨[.op 3 0], _, [], Lr 4, [15]⟩, ⟨[.op 4 0, .old 0], _, [5], Lr 5, [4]⟩, ⟨[], _, [], Lr 6, [5]⟩]) (F := [.op 5 0, .op 6 0]) (hst.pick [1, 2] rfl) hb Zb
               (o_p rfl (Za rfl rfl u_0) <| o_p rfl (Zo rfl rfl (Opd.imp u_0 (fun _ _ h => Zr h5 h)) (fun _ _ ⟨_, _, _, e, _⟩ => ⟨_, e⟩)) <| o_p rfl (Ze Zhf rfl rfl u_0) <| o_p rfl (Zf Zbi rfl rfl u_0) <| o_p rfl (Zp Znk (Zgf _ h9) rfl rfl (.cons u_0 .nil)) <| o_p rfl (Z6 Zbi rfl rfl u_1 u_0) <| o_p rfl (Zc rfl rfl c_b) <| o_n) (by kernel_rfl) (fun a g hst hb => ?_)
             refine wp_ret ?_
             refine Zw ?_
             refine Zw ?_
             refine Zn ?_
             refine Zn ?_
             refine Zw ?_
             refine Zn ?_
             refine Zn ?_
             obtain rfl := Option.some.inj H1
             obtain rfl := Option.some.inj H0
             obtain ⟨u0, hu0, hq0⟩ := Zbh (P := Tryd.prog) Zbi (hst.at 0 rfl)
             exact Zex rfl hst hb hu0 (Zm (s := 5)) (Zde hq0 (hst.at 1 rfl))
     · replace H1 := Zz hc3 H1
       refine wp_exit ?_
       refine Zca ?_
       refine Zca ?_
       refine Zcz ?_
       exact ⟨x1, g, rfl, (hst.pick [1] rfl), hb, Option.some.inj H1⟩
theorem Zdj (a0 : ByteArray) (a1 : Zd) (a2 : shelf_nodeT) (a3 : shelf_nodeT) {r : shelf_nodeT} (h : Zdg a0 a1 a2 a3 = some r) : FnOk Tryd.prog 54 [(pStr a0), (Zi.pd a1), (Z2.pd a2), (Z2.pd a3)] (Z2.pd r) := by
 have H0 := h
 unfold Zdg at H0
 clear h
 refine Zbu (N := 21) Tryd.func54 rfl rfl (Nat.le_of_ble_eq_true rfl) rfl rfl (fun a g0 hst hb => ?_)
 refine r_s (T := [⟨[.old 1], _, [], [], [5]⟩, ⟨[], [(8, (Z2.pd shelf_nodeT.nil))], [], [], [8]⟩]) (F := [.old 0, .old 2, .old 3, .op 0 0]) hst hb Zb
   (o_p rfl (Zbl rfl rfl u_0) <| o_p rfl (Zc rfl rfl (Opd.c (fun g => Zdt g))) <| o_n) (by kernel_rfl) (fun a g hst hb => ?_)
 obtain ⟨r1, h2, H0⟩ := Zh H0; obtain ⟨r3, h4, H0⟩ := Zh H0
 refine r_s (T := ⟨[.old 0], _, [], [], [9]⟩ :: ⟨[.old 3], _, [], [], [10]⟩ :: ⟨[.old 1], _, [], [], [11]⟩ :: ⟨[.old 2], _, [], [], [12]⟩ :: ⟨[.old 1], _, [], [], [13]⟩ :: ⟨[.op 4 0], _, [], [4], [14]⟩ :: ⟨[.old 2], _, [], [], [15]⟩ :: ⟨[.op 6 0], _, [], [4, 5, 6], [16]⟩ :: ⟨[.op 5 0, .op 7 0], _, [], List.range' 4 4, [17]⟩ :: ⟨[.op 8 0], _, [], List.range' 4 5, [18]⟩ :: ⟨[.op 0 0, .op 1 0, .op 2 0, .op 3 0, .op 9 0], _, [], Lr 10, [19]⟩ :: ⟨[.op 10 0], _, [], Lr 11, [20]⟩ :: ⟨[.op 11 0], _, [], Lr 12, [8]⟩ :: []) (F := [.op 12 0]) hst hb Zb
   (o_p rfl (Za rfl rfl u_0) <| o_p rfl (Zf Zbi rfl rfl u_0) <| o_p rfl (Za rfl rfl u_0) <| o_p rfl (Za rfl rfl u_0) <| o_p rfl (Za rfl rfl u_0) <| o_p rfl (Zp Zlu (Zc7 _ h2) rfl rfl (.cons u_0 .nil)) <| o_p rfl (Za rfl rfl u_0) <| o_p rfl (Zp Zlu (Zc7 _ h4) rfl rfl (.cons u_0 .nil)) <| o_p rfl (Zce rfl rfl u_0 u_1 rfl) <| o_p rfl (Zce rfl rfl u_0 c_i rfl) <| o_p rfl (Zr8 rfl rfl u_0 u_1 u_2 u_3 u_4) <| o_p rfl (Zbl rfl rfl u_0) <| o_p rfl (Zc rfl rfl (Opd.imp u_0 (fun _ _ h => Ztk h))) <| o_n) (by kernel_rfl) (fun a g hst hb => ?_)
 refine wp_ret ?_
 obtain rfl := Option.some.inj H0
 exact Z3 rfl hst hb (Zm (s := 8)) (hst.at 0 rfl)
theorem Zjt (a0 : shelf_nodeT) (a1 : shelf_nodeT) {r : Bool} (h : Zhc a0 a1 = some r) : FnOk Tryd.prog 86 [(Z2.pd a0), (Z2.pd a1)] (Zbd r) := by
 have H0 := h
 unfold Zhc at H0
 clear h
 refine Zbu (N := 13) Tryd.func86 rfl rfl (Nat.le_of_ble_eq_true rfl) rfl rfl (fun a g0 hst hb => ?_)
 refine r_s (T := [⟨[], _, [], [], [4]⟩]) (F := [.old 0, .old 1]) hst hb Zb
   (o_p rfl (Zc rfl rfl c_b) <| o_n) (by kernel_rfl) (fun a g hst hb => ?_)
 obtain ⟨r1, h2, H0⟩ := Zh H0; obtain ⟨r3, h4, H0⟩ := Zh H0
 refine r_s (T := [⟨[.old 0], _, [], [], [5]⟩, ⟨[.op 0 0], _, [], [0], [6]⟩, ⟨[.op 1 0], _, [], [0, 1], [7]⟩, ⟨[.old 1], _, [], [], [8]⟩, ⟨[.op 3 0], _, [], [0, 1, 3], [9]⟩, ⟨[.op 4 0], _, [], [0, 1, 3, 4], [10]⟩, ⟨[.op 5 0], _, [], [0, 1, 3, 4, 5], [11]⟩, ⟨[.op 2 0, .op 6 0], _, [], Lr 7, [12]⟩, ⟨[.op 7 0], _, [], Lr 8, [4]⟩]) (F := [.op 8 0]) hst hb Zb
   (o_p rfl (Za rfl rfl u_0) <| o_p rfl (Zp Zlu (Zc7 _ h2) rfl rfl (.cons u_0 .nil)) <| o_p rfl (Zce rfl rfl u_0 c_i rfl) <| o_p rfl (Za rfl rfl u_0) <| o_p rfl (Zp Zlu (Zc7 _ h4) rfl rfl (.cons u_0 .nil)) <| o_p rfl (Zce rfl rfl u_0 c_i rfl) <| o_p rfl (Zwc rfl rfl c_i u_0 rfl) <| o_p rfl (Zcr rfl rfl u_0 u_1) <| o_p rfl (Zc rfl rfl u_0) <| o_n) (by kernel_rfl) (fun a g hst hb => ?_)
 refine wp_ret ?_
 obtain rfl := Option.some.inj H0
 exact Z3 rfl hst hb (Zm (s := 4)) (hst.at 0 rfl)
theorem Zi2 (a0 : ByteArray) (a1 : Zd) (a2 : shelf_nodeT) (a3 : shelf_nodeT) {r : shelf_nodeT} (h : Zg3 a0 a1 a2 a3 = some r) : FnOk Tryd.prog 55 [(pStr a0), (Zi.pd a1), (Z2.pd a2), (Z2.pd a3)] (Z2.pd r) := by
 have H0 := h
 unfold Zg3 at H0
 clear h
 refine Zbu (N := 182) Tryd.func55 rfl rfl (Nat.le_of_ble_eq_true rfl) rfl rfl (fun a g0 hst hb => ?_)
 refine r_s (T := [⟨[.old 1], _, [], [], [5]⟩, ⟨[], [(8, (Z2.pd shelf_nodeT.nil))], [], [], [8]⟩]) (F := [.old 0, .old 2, .old 3, .op 0 0]) hst hb Zb
   (o_p rfl (Zbl rfl rfl u_0) <| o_p rfl (Zc rfl rfl (Opd.c (fun g => Zdt g))) <| o_n) (by kernel_rfl) (fun a g hst hb => ?_)
 refine wp_seq ?_
 refine wp_block ?_
 obtain ⟨r1, h2, H0⟩ := Zh H0; obtain ⟨n3, h4, H0⟩ := Zh H0; obtain ⟨r5, h6, H0⟩ := Zh H0; obtain ⟨n7, h8, H0⟩ := Zh H0; obtain ⟨r9, h10, H0⟩ := Zh H0
 refine r_s (T := ⟨[.old 2], _, [], [], [12]⟩ :: ⟨[.old 1], _, [], [], [13]⟩ :: ⟨[.op 0 0, .op 1 0], _, [], [0, 1], [14]⟩ :: ⟨[.op 2 0], _, [], [0, 1, 2], [15]⟩ :: ⟨[.op 3 0, .old 2], _, [], Lr 4, [16]⟩ :: ⟨[.op 3 0, .op 4 0], _, [], Lr 5, [17]⟩ :: ⟨[.op 3 0, .op 5 0], _, [], Lr 6, [18]⟩ :: ⟨[.op 3 0, .op 6 0], _, [], Lr 7, [19]⟩ :: ⟨[.op 3 0, .op 7 0], _, [], Lr 8, [20]⟩ :: ⟨[.op 3 0, .op 8 0], _, [], Lr 9, [21]⟩ :: ⟨[.op 3 0, .old 2], _, [], Lr 4, [22]⟩ :: ⟨[.op 3 0, .op 10 0], _, [], [0, 1, 2, 3, 10], [23]⟩ :: ⟨[.op 3 0, .op 11 0], _, [], [0, 1, 2, 3, 10, 11], [24]⟩ :: ⟨[.op 3 0, .op 12 0], _, [], [0, 1, 2, 3, 10, 11, 12], [25]⟩ :: ⟨[.op 3 0, .op 13 0], _, [], 0 :: 1 :: 2 :: 3 :: 4 :: 5 :: 6 :: 7 :: 8 :: 10 :: 11 :: 12 :: 13 :: [], [26]⟩ :: ⟨[.op 3 0, .op 14 0], _, [], 0 :: 1 :: 2 :: 3 :: 4 :: 5 :: 6 :: 7 :: 8 :: 10 :: 11 :: 12 :: 13 :: 14 :: [], [27]⟩ :: ⟨[.op 3 0, .op 15 0], _, [], 0 :: 1 :: 2 :: 3 :: 4 :: 5 :: 6 :: 7 :: 8 :: 10 :: 11 :: 12 :: 13 :: 14 :: 15 :: [], [28]⟩ :: ⟨[.op 3 0, .op 9 0, .op 16 0], _, [], Lr 17, [29]⟩ :: ⟨[.op 3 0, .op 17 0], _, [], Lr 18, [30]⟩ :: ⟨[.op 18 0], _, [], Lr 19, [11]⟩ :: []) (F := [.old 0, .old 1, .old 2, .old 3, .op 19 0]) hst hb Zb
   (o_p rfl (Za rfl rfl u_0) <| o_p rfl (Za rfl rfl u_0) <| o_p rfl (Zp Zu7 (Zjt _ _ h2) rfl rfl (.cons u_0 (.cons u_1 .nil))) <| o_p rfl (Za rfl rfl u_0) <| o_g (g_t rfl rfl rfl (fun hG => Za rfl rfl u_0)) <| o_g (g_t rfl rfl rfl (fun hG => Zo rfl rfl (Opd.imp (Opd.gd hG u_0) (fun _ _ h => Zr (Zbq h4 hG) h)) (fun _ _ ⟨_, _, _, e, _⟩ => ⟨_, e⟩))) <| o_g (g_t rfl rfl rfl (fun hG => Ze Zd9 rfl rfl (Opd.gd hG u_0))) <| o_g (g_t rfl rfl rfl (fun hG => Zf Zcv rfl rfl (Opd.gd hG u_0))) <| o_g (g_t rfl rfl rfl (fun hG => Zp Zlu (Zc7 _ (Zbq h6 hG)) rfl rfl (.cons (Opd.gd hG u_0) .nil))) <| o_g (g_t rfl rfl rfl (fun hG => Zce rfl rfl (Opd.gd hG u_0) c_i rfl)) <| o_g (g_t rfl rfl rfl (fun hG => Za rfl rfl u_0)) <| o_g (g_t rfl rfl rfl (fun hG => Zo rfl rfl (Opd.imp (Opd.gd hG u_0) (fun _ _ h => Zr (Zbq h8 hG) h)) (fun _ _ ⟨_, _, _, e, _⟩ => ⟨_, e⟩))) <| o_g (g_t rfl rfl rfl (fun hG => Ze Zeu rfl rfl (Opd.gd hG u_0))) <| o_g (g_t rfl rfl rfl (fun hG => Zf Zcv rfl rfl (Opd.gd hG u_0))) <| o_g (g_t rfl rfl rfl (fun hG => Zp Zlu (Zc7 _ (Zbq h10 hG)) rfl rfl (.cons (Opd.gd hG u_0) .nil))) <| o_g (g_t rfl rfl rfl (fun hG => Zce rfl rfl (Opd.gd hG u_0) c_i rfl)) <| o_g (g_t rfl rfl rfl (fun hG => Zwc rfl rfl c_i (Opd.gd hG u_0) rfl)) <| o_g (g_t rfl rfl rfl (fun hG => Zc2 rfl rfl (Opd.gd hG u_0) (Opd.gd hG u_1))) <| o_p rfl (Zbj rfl rfl u_0 (fun hz => (Opd.gd hz u_1))) <| o_p rfl (Zc rfl rfl u_0) <| o_n) (by kernel_rfl) (fun a g hst hb => ?_)
 refine wp_cond_split (hst.bool 4 rfl) (fun hc11 => ?_) (fun hc11 => ?_)
 · replace H0 := Z0 hc11 H0
   obtain ⟨n12, h13, H0⟩ := Zh H0; obtain ⟨r14, h15, H0⟩ := Zh H0; obtain ⟨r16, h17, H0⟩ := Zh H0
   refine r_s (L := [(0, _), (2, _), (3, _), (5, _)]) (T := ⟨[.old 2], _, [], [], [31]⟩ :: ⟨[.op 0 0], _, [], [0], [32]⟩ :: ⟨[.op 1 0], _, [], [0, 1], [33]⟩ :: ⟨[.op 2 0], _, [], [0, 1, 2], [34]⟩ :: ⟨[.old 2], _, [], [], [35]⟩ :: ⟨[.op 4 0], _, [], [4], [36]⟩ :: ⟨[.op 5 0], _, [], [4, 5], [37]⟩ :: ⟨[.op 6 0], _, [], [4, 5, 6], [38]⟩ :: ⟨[.old 0], _, [], [], [39]⟩ :: ⟨[.old 3], _, [], [], [40]⟩ :: ⟨[.old 1], _, [], [], [41]⟩ :: ⟨[.old 2], _, [], [], [42]⟩ :: ⟨[.op 11 0], _, [], [11], [43]⟩ :: ⟨[.op 12 0], _, [], [11, 12], [44]⟩ :: ⟨[.op 13 0], _, [], [11, 12, 13], [45]⟩ :: ⟨[.op 8 0, .op 9 0, .op 10 0, .op 14 0], _, [], List.range' 8 7, [46]⟩ :: ⟨[.old 2], _, [], [], [47]⟩ :: ⟨[.op 16 0], _, [], [16], [48]⟩ :: ⟨[.op 17 0], _, [], [16, 17], [49]⟩ :: ⟨[.op 18 0], _, [], [16, 17, 18], [50]⟩ :: ⟨[.op 3 0, .op 7 0, .op 15 0, .op 19 0], _, [], Lr 20, [51]⟩ :: ⟨[.op 20 0], _, [], Lr 21, [8]⟩ :: []) (F := [.op 21 0]) (hst.pick [0, 1, 2, 3] rfl) hb Zb
     (o_p rfl (Za rfl rfl u_0) <| o_p rfl (Zo rfl rfl (Opd.imp u_0 (fun _ _ h => Zr h13 h)) (fun _ _ ⟨_, _, _, e, _⟩ => ⟨_, e⟩)) <| o_p rfl (Ze Zes rfl rfl u_0) <| o_p rfl (Zf ty_9 rfl rfl u_0) <| o_p rfl (Za rfl rfl u_0) <| o_p rfl (Zo rfl rfl (Opd.imp u_0 (fun _ _ h => Zr h13 h)) (fun _ _ ⟨_, _, _, e, _⟩ => ⟨_, e⟩)) <| o_p rfl (Ze Zhf rfl rfl u_0) <| o_p rfl (Zf Zbi rfl rfl u_0) <| o_p rfl (Za rfl rfl u_0) <| o_p rfl (Zf Zbi rfl rfl u_0) <| o_p rfl (Za rfl rfl u_0) <| o_p rfl (Za rfl rfl u_0) <| o_p rfl (Zo rfl rfl (Opd.imp u_0 (fun _ _ h => Zr h13 h)) (fun _ _ ⟨_, _, _, e, _⟩ => ⟨_, e⟩)) <| o_p rfl (Ze Zd9 rfl rfl u_0) <| o_p rfl (Zf Zcv rfl rfl u_0) <| o_p rfl (Zp Zjy (Zdj _ _ _ _ h15) rfl rfl (.cons u_0 (.cons u_1 (.cons u_2 (.cons u_3 .nil))))) <| o_p rfl (Za rfl rfl u_0) <| o_p rfl (Zo rfl rfl (Opd.imp u_0 (fun _ _ h => Zr h13 h)) (fun _ _ ⟨_, _, _, e, _⟩ => ⟨_, e⟩)) <| o_p rfl (Ze Zeu rfl rfl u_0) <| o_p rfl (Zf Zcv rfl rfl u_0) <| o_p rfl (Zp Zjy (Zdj _ _ _ _ h17) rfl rfl (.cons u_0 (.cons u_1 (.cons u_2 (.cons u_3 .nil))))) <| o_p rfl (Zc rfl rfl u_0) <| o_n) (by kernel_rfl) (fun a g hst hb => ?_)
   refine wp_ret ?_
   refine Zw ?_
   refine Zn ?_
   obtain rfl := Option.some.inj H0
   exact Z3 rfl hst hb (Zm (s := 8)) (hst.at 0 rfl)
 · replace H0 := Zz hc11 H0
   obtain ⟨r18, h19, H0⟩ := Zh H0
   refine r_s (L := [(0, _), (2, _), (3, _), (5, _)]) (T := [⟨[.old 2], _, [], [], [53]⟩, ⟨[.old 1], _, [], [], [54]⟩, ⟨[.op 0 0, .op 1 0], _, [], [0, 1], [55]⟩, ⟨[.op 2 0], _, [], [0, 1, 2], [52]⟩]) (F := [.old 0, .old 1, .old 2, .old 3, .op 3 0]) (hst.pick [0, 1, 2, 3] rfl) hb Zb
     (o_p rfl (Za rfl rfl u_0) <| o_p rfl (Za rfl rfl u_0) <| o_p rfl (Zp Zu7 (Zjt _ _ h19) rfl rfl (.cons u_0 (.cons u_1 .nil))) <| o_p rfl (Zc rfl rfl u_0) <| o_n) (by kernel_rfl) (fun a g hst hb => ?_)
   refine wp_cond_split (hst.bool 4 rfl) (fun hc20 => ?_) (fun hc20 => ?_)
   · replace H0 := Z0 hc20 H0
     obtain ⟨n21, h22, H0⟩ := Zh H0
     refine r_s (L := [(0, _), (2, _), (3, _), (5, _)]) (T := [⟨[.old 2], _, [], [], [56]⟩, ⟨[.op 0 0], _, [], [0], [57]⟩, ⟨[.op 1 0], _, [], [0, 1], [58]⟩, ⟨[.op 2 0], _, [], [0, 1, 2], [59]⟩, ⟨[.op 3 0], _, [], Lr 4, [9]⟩]) (F := [.old 0, .old 1, .old 2, .old 3, .op 4 0]) (hst.pick [0, 1, 2, 3] rfl) hb Zb
       (o_p rfl (Za rfl rfl u_0) <| o_p rfl (Zo rfl rfl (Opd.imp u_0 (fun _ _ h => Zr h22 h)) (fun _ _ ⟨_, _, _, e, _⟩ => ⟨_, e⟩)) <| o_p rfl (Ze Zd9 rfl rfl u_0) <| o_p rfl (Zf Zcv rfl rfl u_0) <| o_p rfl (Zc rfl rfl u_0) <| o_n) (by kernel_rfl) (fun a g hst hb => ?_)
     obtain ⟨n23, h24, H0⟩ := Zh H0; obtain ⟨r25, h26, H0⟩ := Zh H0; obtain ⟨r27, h28, H0⟩ := Zh H0; obtain ⟨r29, h30, H0⟩ := Zh H0
     refine r_s (T := ⟨[.old 4], _, [], [], [60]⟩ :: ⟨[.op 0 0], _, [], [0], [61]⟩ :: ⟨[.op 1 0], _, [], [0, 1], [62]⟩ :: ⟨[.op 2 0], _, [], [0, 1, 2], [63]⟩ :: ⟨[.old 4], _, [], [], [64]⟩ :: ⟨[.op 4 0], _, [], [4], [65]⟩ :: ⟨[.op 5 0], _, [], [4, 5], [66]⟩ :: ⟨[.op 6 0], _, [], [4, 5, 6], [67]⟩ :: ⟨[.old 0], _, [], [], [68]⟩ :: ⟨[.old 3], _, [], [], [69]⟩ :: ⟨[.old 1], _, [], [], [70]⟩ :: ⟨[.old 4], _, [], [], [71]⟩ :: ⟨[.op 11 0], _, [], [11], [72]⟩ :: ⟨[.op 12 0], _, [], [11, 12], [73]⟩ :: ⟨[.op 13 0], _, [], [11, 12, 13], [74]⟩ :: ⟨[.op 8 0, .op 9 0, .op 10 0, .op 14 0], _, [], List.range' 8 7, [75]⟩ :: ⟨[.old 2], _, [], [], [76]⟩ :: ⟨[.op 16 0], _, [], [16], [77]⟩ :: ⟨[.op 17 0], _, [], [16, 17], [78]⟩ :: ⟨[.op 18 0], _, [], [16, 17, 18], [79]⟩ :: ⟨[.old 2], _, [], [], [80]⟩ :: ⟨[.op 20 0], _, [], [20], [81]⟩ :: ⟨[.op 21 0], _, [], [20, 21], [82]⟩ :: ⟨[.op 22 0], _, [], [20, 21, 22], [83]⟩ :: ⟨[.old 4], _, [], [], [84]⟩ :: ⟨[.op 24 0], _, [], [24], [85]⟩ :: ⟨[.op 25 0], _, [], [24, 25], [86]⟩ :: ⟨[.op 26 0], _, [], [24, 25, 26], [87]⟩ :: ⟨[.old 2], _, [], [], [88]⟩ :: ⟨[.op 28 0], _, [], [28], [89]⟩ :: ⟨[.op 29 0], _, [], [28, 29], [90]⟩ :: ⟨[.op 30 0], _, [], [28, 29, 30], [91]⟩ :: ⟨[.op 19 0, .op 23 0, .op 27 0, .op 31 0], _, [], List.range' 8 24, [92]⟩ :: ⟨[.op 3 0, .op 7 0, .op 15 0, .op 32 0], _, [], Lr 33, [93]⟩ :: ⟨[.op 33 0], _, [], Lr 34, [8]⟩ :: []) (F := [.op 34 0]) hst hb Zb
       (o_p rfl (Za rfl rfl u_0) <| o_p rfl (Zo rfl rfl (Opd.imp u_0 (fun _ _ h => Zr h24 h)) (fun _ _ ⟨_, _, _, e, _⟩ => ⟨_, e⟩)) <| o_p rfl (Ze Zes rfl rfl u_0) <| o_p rfl (Zf ty_9 rfl rfl u_0) <| o_p rfl (Za rfl rfl u_0) <| o_p rfl (Zo rfl rfl (Opd.imp u_0 (fun _ _ h => Zr h24 h)) (fun _ _ ⟨_, _, _, e, _⟩ => ⟨_, e⟩)) <| o_p rfl (Ze Zhf rfl rfl u_0) <| o_p rfl (Zf Zbi rfl rfl u_0) <| o_p rfl (Za rfl rfl u_0) <| o_p rfl (Zf Zbi rfl rfl u_0) <| o_p rfl (Za rfl rfl u_0) <| o_p rfl (Za rfl rfl u_0) <| o_p rfl (Zo rfl rfl (Opd.imp u_0 (fun _ _ h => Zr h24 h)) (fun _ _ ⟨_, _, _, e, _⟩ => ⟨_, e⟩)) <| o_p rfl (Ze Zd9 rfl rfl u_0) <| o_p rfl (Zf Zcv rfl rfl u_0) <| o_p rfl (Zp Zjy (Zdj _ _ _ _ h26) rfl rfl (.cons u_0 (.cons u_1 (.cons u_2 (.cons u_3 .nil))))) <| o_p rfl (Za rfl rfl u_0) <| o_p rfl (Zo rfl rfl (Opd.imp u_0 (fun _ _ h => Zr h22 h)) (fun _ _ ⟨_, _, _, e, _⟩ => ⟨_, e⟩)) <| o_p rfl (Ze Zes rfl rfl u_0) <| o_p rfl (Zf ty_9 rfl rfl u_0) <| o_p rfl (Za rfl rfl u_0) <| o_p rfl (Zo rfl rfl (Opd.imp u_0 (fun _ _ h => Zr h22 h)) (fun _ _ ⟨_, _, _, e, _⟩ => ⟨_, e⟩)) <| o_p rfl (Ze Zhf rfl rfl u_0) <| o_p rfl (Zf Zbi rfl rfl u_0) <| o_p rfl (Za rfl rfl u_0) <| o_p rfl (Zo rfl rfl (Opd.imp u_0 (fun _ _ h => Zr h24 h)) (fun _ _ ⟨_, _, _, e, _⟩ => ⟨_, e⟩)) <| o_p rfl (Ze Zeu rfl rfl u_0) <| o_p rfl (Zf Zcv rfl rfl u_0) <| o_p rfl (Za rfl rfl u_0) <| o_p rfl (Zo rfl rfl (Opd.imp u_0 (fun _ _ h => Zr h22 h)) (fun _ _ ⟨_, _, _, e, _⟩ => ⟨_, e⟩)) <| o_p rfl (Ze Zeu rfl rfl u_0) <| o_p rfl (Zf Zcv rfl rfl u_0) <| o_p rfl (Zp Zjy (Zdj _ _ _ _ h28) rfl rfl (.cons u_0 (.cons u_1 (.cons u_2 (.cons u_3 .nil))))) <| o_p rfl (Zp Zjy (Zdj _ _ _ _ h30) rfl rfl (.cons u_0 (.cons u_1 (.cons u_2 (.cons u_3 .nil))))) <| o_p rfl (Zc rfl rfl u_0) <| o_n) (by kernel_rfl) (fun a g hst hb => ?_)
     refine wp_ret ?_
     refine Zw ?_
     refine Zn ?_
     obtain rfl := Option.some.inj H0
     exact Z3 rfl hst hb (Zm (s := 8)) (hst.at 0 rfl)
   · replace H0 := Zz hc20 H0
     obtain ⟨r31, h32, H0⟩ := Zh H0; obtain ⟨n33, h34, H0⟩ := Zh H0; obtain ⟨r35, h36, H0⟩ := Zh H0; obtain ⟨n37, h38, H0⟩ := Zh H0; obtain ⟨r39, h40, H0⟩ := Zh H0
     refine r_s (L := [(0, _), (2, _), (3, _), (5, _)]) (T := ⟨[.old 1], _, [], [], [95]⟩ :: ⟨[.old 2], _, [], [], [96]⟩ :: ⟨[.op 0 0, .op 1 0], _, [], [0, 1], [97]⟩ :: ⟨[.op 2 0], _, [], [0, 1, 2], [98]⟩ :: ⟨[.op 3 0, .old 1], _, [], Lr 4, [99]⟩ :: ⟨[.op 3 0, .op 4 0], _, [], Lr 5, [100]⟩ :: ⟨[.op 3 0, .op 5 0], _, [], Lr 6, [101]⟩ :: ⟨[.op 3 0, .op 6 0], _, [], Lr 7, [102]⟩ :: ⟨[.op 3 0, .op 7 0], _, [], Lr 8, [103]⟩ :: ⟨[.op 3 0, .op 8 0], _, [], Lr 9, [104]⟩ :: ⟨[.op 3 0, .old 1], _, [], Lr 4, [105]⟩ :: ⟨[.op 3 0, .op 10 0], _, [], [0, 1, 2, 3, 10], [106]⟩ :: ⟨[.op 3 0, .op 11 0], _, [], [0, 1, 2, 3, 10, 11], [107]⟩ :: ⟨[.op 3 0, .op 12 0], _, [], [0, 1, 2, 3, 10, 11, 12], [108]⟩ :: ⟨[.op 3 0, .op 13 0], _, [], 0 :: 1 :: 2 :: 3 :: 4 :: 5 :: 6 :: 7 :: 8 :: 10 :: 11 :: 12 :: 13 :: [], [109]⟩ :: ⟨[.op 3 0, .op 14 0], _, [], 0 :: 1 :: 2 :: 3 :: 4 :: 5 :: 6 :: 7 :: 8 :: 10 :: 11 :: 12 :: 13 :: 14 :: [], [110]⟩ :: ⟨[.op 3 0, .op 15 0], _, [], 0 :: 1 :: 2 :: 3 :: 4 :: 5 :: 6 :: 7 :: 8 :: 10 :: 11 :: 12 :: 13 :: 14 :: 15 :: [], [111]⟩ :: ⟨[.op 3 0, .op 9 0, .op 16 0], _, [], Lr 17, [112]⟩ :: ⟨[.op 3 0, .op 17 0], _, [], Lr 18, [113]⟩ :: ⟨[.op 18 0], _, [], Lr 19, [94]⟩ :: []) (F := [.old 0, .old 1, .old 2, .old 3, .op 19 0]) (hst.pick [0, 1, 2, 3] rfl) hb Zb
       (o_p rfl (Za rfl rfl u_0) <| o_p rfl (Za rfl rfl u_0) <| o_p rfl (Zp Zu7 (Zjt _ _ h32) rfl rfl (.cons u_0 (.cons u_1 .nil))) <| o_p rfl (Za rfl rfl u_0) <| o_g (g_t rfl rfl rfl (fun hG => Za rfl rfl u_0)) <| o_g (g_t rfl rfl rfl (fun hG => Zo rfl rfl (Opd.imp (Opd.gd hG u_0) (fun _ _ h => Zr (Zbq h34 hG) h)) (fun _ _ ⟨_, _, _, e, _⟩ => ⟨_, e⟩))) <| o_g (g_t rfl rfl rfl (fun hG => Ze Zeu rfl rfl (Opd.gd hG u_0))) <| o_g (g_t rfl rfl rfl (fun hG => Zf Zcv rfl rfl (Opd.gd hG u_0))) <| o_g (g_t rfl rfl rfl (fun hG => Zp Zlu (Zc7 _ (Zbq h36 hG)) rfl rfl (.cons (Opd.gd hG u_0) .nil))) <| o_g (g_t rfl rfl rfl (fun hG => Zce rfl rfl (Opd.gd hG u_0) c_i rfl)) <| o_g (g_t rfl rfl rfl (fun hG => Za rfl rfl u_0)) <| o_g (g_t rfl rfl rfl (fun hG => Zo rfl rfl (Opd.imp (Opd.gd hG u_0) (fun _ _ h => Zr (Zbq h38 hG) h)) (fun _ _ ⟨_, _, _, e, _⟩ => ⟨_, e⟩))) <| o_g (g_t rfl rfl rfl (fun hG => Ze Zd9 rfl rfl (Opd.gd hG u_0))) <| o_g (g_t rfl rfl rfl (fun hG => Zf Zcv rfl rfl (Opd.gd hG u_0))) <| o_g (g_t rfl rfl rfl (fun hG => Zp Zlu (Zc7 _ (Zbq h40 hG)) rfl rfl (.cons (Opd.gd hG u_0) .nil))) <| o_g (g_t rfl rfl rfl (fun hG => Zce rfl rfl (Opd.gd hG u_0) c_i rfl)) <| o_g (g_t rfl rfl rfl (fun hG => Zwc rfl rfl c_i (Opd.gd hG u_0) rfl)) <| o_g (g_t rfl rfl rfl (fun hG => Zc2 rfl rfl (Opd.gd hG u_0) (Opd.gd hG u_1))) <| o_p rfl (Zbj rfl rfl u_0 (fun hz => (Opd.gd hz u_1))) <| o_p rfl (Zc rfl rfl u_0) <| o_n) (by kernel_rfl) (fun a g hst hb => ?_)
     refine wp_cond_split (hst.bool 4 rfl) (fun hc41 => ?_) (fun hc41 => ?_)
     · replace H0 := Z0 hc41 H0
       obtain ⟨n42, h43, H0⟩ := Zh H0; obtain ⟨r44, h45, H0⟩ := Zh H0; obtain ⟨r46, h47, H0⟩ := Zh H0
       refine r_s (L := [(0, _), (2, _), (3, _), (5, _)]) (T := ⟨[.old 1], _, [], [], [114]⟩ :: ⟨[.op 0 0], _, [], [0], [115]⟩ :: ⟨[.op 1 0], _, [], [0, 1], [116]⟩ :: ⟨[.op 2 0], _, [], [0, 1, 2], [117]⟩ :: ⟨[.old 1], _, [], [], [118]⟩ :: ⟨[.op 4 0], _, [], [4], [119]⟩ :: ⟨[.op 5 0], _, [], [4, 5], [120]⟩ :: ⟨[.op 6 0], _, [], [4, 5, 6], [121]⟩ :: ⟨[.old 1], _, [], [], [122]⟩ :: ⟨[.op 8 0], _, [], [8], [123]⟩ :: ⟨[.op 9 0], _, [], [8, 9], [124]⟩ :: ⟨[.op 10 0], _, [], [8, 9, 10], [125]⟩ :: ⟨[.old 0], _, [], [], [126]⟩ :: ⟨[.old 3], _, [], [], [127]⟩ :: ⟨[.old 1], _, [], [], [128]⟩ :: ⟨[.op 14 0], _, [], [14], [129]⟩ :: ⟨[.op 15 0], _, [], [14, 15], [130]⟩ :: ⟨[.op 16 0], _, [], [14, 15, 16], [131]⟩ :: ⟨[.old 2], _, [], [], [132]⟩ :: ⟨[.op 12 0, .op 13 0, .op 17 0, .op 18 0], _, [], List.range' 12 7, [133]⟩ :: ⟨[.op 3 0, .op 7 0, .op 11 0, .op 19 0], _, [], Lr 20, [134]⟩ :: ⟨[.op 20 0], _, [], Lr 21, [8]⟩ :: []) (F := [.op 21 0]) (hst.pick [0, 1, 2, 3] rfl) hb Zb
         (o_p rfl (Za rfl rfl u_0) <| o_p rfl (Zo rfl rfl (Opd.imp u_0 (fun _ _ h => Zr h43 h)) (fun _ _ ⟨_, _, _, e, _⟩ => ⟨_, e⟩)) <| o_p rfl (Ze Zes rfl rfl u_0) <| o_p rfl (Zf ty_9 rfl rfl u_0) <| o_p rfl (Za rfl rfl u_0) <| o_p rfl (Zo rfl rfl (Opd.imp u_0 (fun _ _ h => Zr h43 h)) (fun _ _ ⟨_, _, _, e, _⟩ => ⟨_, e⟩)) <| o_p rfl (Ze Zhf rfl rfl u_0) <| o_p rfl (Zf Zbi rfl rfl u_0) <| o_p rfl (Za rfl rfl u_0) <| o_p rfl (Zo rfl rfl (Opd.imp u_0 (fun _ _ h => Zr h43 h)) (fun _ _ ⟨_, _, _, e, _⟩ => ⟨_, e⟩)) <| o_p rfl (Ze Zd9 rfl rfl u_0) <| o_p rfl (Zf Zcv rfl rfl u_0) <| o_p rfl (Za rfl rfl u_0) <| o_p rfl (Zf Zbi rfl rfl u_0) <| o_p rfl (Za rfl rfl u_0) <| o_p rfl (Zo rfl rfl (Opd.imp u_0 (fun _ _ h => Zr h43 h)) (fun _ _ ⟨_, _, _, e, _⟩ => ⟨_, e⟩)) <| o_p rfl (Ze Zeu rfl rfl u_0) <| o_p rfl (Zf Zcv rfl rfl u_0) <| o_p rfl (Za rfl rfl u_0) <| o_p rfl (Zp Zjy (Zdj _ _ _ _ h45) rfl rfl (.cons u_0 (.cons u_1 (.cons u_2 (.cons u_3 .nil))))) <| o_p rfl (Zp Zjy (Zdj _ _ _ _ h47) rfl rfl (.cons u_0 (.cons u_1 (.cons u_2 (.cons u_3 .nil))))) <| o_p rfl (Zc rfl rfl u_0) <| o_n) (by kernel_rfl) (fun a g hst hb => ?_)
       refine wp_ret ?_
       refine Zw ?_
       refine Zn ?_
       obtain rfl := Option.some.inj H0
       exact Z3 rfl hst hb (Zm (s := 8)) (hst.at 0 rfl)
     · replace H0 := Zz hc41 H0
       obtain ⟨r48, h49, H0⟩ := Zh H0
       refine r_s (L := [(0, _), (2, _), (3, _), (5, _)]) (T := [⟨[.old 1], _, [], [], [136]⟩, ⟨[.old 2], _, [], [], [137]⟩, ⟨[.op 0 0, .op 1 0], _, [], [0, 1], [138]⟩, ⟨[.op 2 0], _, [], [0, 1, 2], [135]⟩]) (F := [.old 0, .old 1, .old 2, .old 3, .op 3 0]) (hst.pick [0, 1, 2, 3] rfl) hb Zb
         (o_p rfl (Za rfl rfl u_0) <| o_p rfl (Za rfl rfl u_0) <| o_p rfl (Zp Zu7 (Zjt _ _ h49) rfl rfl (.cons u_0 (.cons u_1 .nil))) <| o_p rfl (Zc rfl rfl u_0) <| o_n) (by kernel_rfl) (fun a g hst hb => ?_)
       refine wp_cond_split (hst.bool 4 rfl) (fun hc50 => ?_) (fun hc50 => ?_)
       · replace H0 := Z0 hc50 H0
         obtain ⟨n51, h52, H0⟩ := Zh H0
         refine r_s (L := [(0, _), (2, _), (3, _), (5, _)]) (T := [⟨[.old 1], _, [], [], [139]⟩, ⟨[.op 0 0], _, [], [0], [140]⟩, ⟨[.op 1 0], _, [], [0, 1], [141]⟩, ⟨[.op 2 0], _, [], [0, 1, 2], [142]⟩, ⟨[.op 3 0], _, [], Lr 4, [10]⟩]) (F := [.old 0, .old 1, .old 2, .old 3, .op 4 0]) (hst.pick [0, 1, 2, 3] rfl) hb Zb
           (o_p rfl (Za rfl rfl u_0) <| o_p rfl (Zo rfl rfl (Opd.imp u_0 (fun _ _ h => Zr h52 h)) (fun _ _ ⟨_, _, _, e, _⟩ => ⟨_, e⟩)) <| o_p rfl (Ze Zeu rfl rfl u_0) <| o_p rfl (Zf Zcv rfl rfl u_0) <| o_p rfl (Zc rfl rfl u_0) <| o_n) (by kernel_rfl) (fun a g hst hb => ?_)
         obtain ⟨n53, h54, H0⟩ := Zh H0; obtain ⟨r55, h56, H0⟩ := Zh H0; obtain ⟨r57, h58, H0⟩ := Zh H0; obtain ⟨r59, h60, H0⟩ := Zh H0
         refine r_s (T := ⟨[.old 4], _, [], [], [143]⟩ :: ⟨[.op 0 0], _, [], [0], [144]⟩ :: ⟨[.op 1 0], _, [], [0, 1], [145]⟩ :: ⟨[.op 2 0], _, [], [0, 1, 2], [146]⟩ :: ⟨[.old 4], _, [], [], [147]⟩ :: ⟨[.op 4 0], _, [], [4], [148]⟩ :: ⟨[.op 5 0], _, [], [4, 5], [149]⟩ :: ⟨[.op 6 0], _, [], [4, 5, 6], [150]⟩ :: ⟨[.old 1], _, [], [], [151]⟩ :: ⟨[.op 8 0], _, [], [8], [152]⟩ :: ⟨[.op 9 0], _, [], [8, 9], [153]⟩ :: ⟨[.op 10 0], _, [], [8, 9, 10], [154]⟩ :: ⟨[.old 1], _, [], [], [155]⟩ :: ⟨[.op 12 0], _, [], [12], [156]⟩ :: ⟨[.op 13 0], _, [], [12, 13], [157]⟩ :: ⟨[.op 14 0], _, [], [12, 13, 14], [158]⟩ :: ⟨[.old 1], _, [], [], [159]⟩ :: ⟨[.op 16 0], _, [], [16], [160]⟩ :: ⟨[.op 17 0], _, [], [16, 17], [161]⟩ :: ⟨[.op 18 0], _, [], [16, 17, 18], [162]⟩ :: ⟨[.old 4], _, [], [], [163]⟩ :: ⟨[.op 20 0], _, [], [20], [164]⟩ :: ⟨[.op 21 0], _, [], [20, 21], [165]⟩ :: ⟨[.op 22 0], _, [], [20, 21, 22], [166]⟩ :: ⟨[.op 11 0, .op 15 0, .op 19 0, .op 23 0], _, [], List.range' 8 16, [167]⟩ :: ⟨[.old 0], _, [], [], [168]⟩ :: ⟨[.old 3], _, [], [], [169]⟩ :: ⟨[.old 4], _, [], [], [170]⟩ :: ⟨[.op 27 0], _, [], [27], [171]⟩ :: ⟨[.op 28 0], _, [], [27, 28], [172]⟩ :: ⟨[.op 29 0], _, [], [27, 28, 29], [173]⟩ :: ⟨[.old 2], _, [], [], [174]⟩ :: ⟨[.op 25 0, .op 26 0, .op 30 0, .op 31 0], _, [], List.range' 8 24, [175]⟩ :: ⟨[.op 3 0, .op 7 0, .op 24 0, .op 32 0], _, [], Lr 33, [176]⟩ :: ⟨[.op 33 0], _, [], Lr 34, [8]⟩ :: []) (F := [.op 34 0]) hst hb Zb
           (o_p rfl (Za rfl rfl u_0) <| o_p rfl (Zo rfl rfl (Opd.imp u_0 (fun _ _ h => Zr h54 h)) (fun _ _ ⟨_, _, _, e, _⟩ => ⟨_, e⟩)) <| o_p rfl (Ze Zes rfl rfl u_0) <| o_p rfl (Zf ty_9 rfl rfl u_0) <| o_p rfl (Za rfl rfl u_0) <| o_p rfl (Zo rfl rfl (Opd.imp u_0 (fun _ _ h => Zr h54 h)) (fun _ _ ⟨_, _, _, e, _⟩ => ⟨_, e⟩)) <| o_p rfl (Ze Zhf rfl rfl u_0) <| o_p rfl (Zf Zbi rfl rfl u_0) <| o_p rfl (Za rfl rfl u_0) <| o_p rfl (Zo rfl rfl (Opd.imp u_0 (fun _ _ h => Zr h52 h)) (fun _ _ ⟨_, _, _, e, _⟩ => ⟨_, e⟩)) <| o_p rfl (Ze Zes rfl rfl u_0) <| o_p rfl (Zf ty_9 rfl rfl u_0) <| o_p rfl (Za rfl rfl u_0) <| o_p rfl (Zo rfl rfl (Opd.imp u_0 (fun _ _ h => Zr h52 h)) (fun _ _ ⟨_, _, _, e, _⟩ => ⟨_, e⟩)) <| o_p rfl (Ze Zhf rfl rfl u_0) <| o_p rfl (Zf Zbi rfl rfl u_0) <| o_p rfl (Za rfl rfl u_0) <| o_p rfl (Zo rfl rfl (Opd.imp u_0 (fun _ _ h => Zr h52 h)) (fun _ _ ⟨_, _, _, e, _⟩ => ⟨_, e⟩)) <| o_p rfl (Ze Zd9 rfl rfl u_0) <| o_p rfl (Zf Zcv rfl rfl u_0) <| o_p rfl (Za rfl rfl u_0) <| o_p rfl (Zo rfl rfl (Opd.imp u_0 (fun _ _ h => Zr h54 h)) (fun _ _ ⟨_, _, _, e, _⟩ => ⟨_, e⟩)) <| o_p rfl (Ze Zd9 rfl rfl u_0) <| o_p rfl (Zf Zcv rfl rfl u_0) <| o_p rfl (Zp Zjy (Zdj _ _ _ _ h56) rfl rfl (.cons u_0 (.cons u_1 (.cons u_2 (.cons u_3 .nil))))) <| o_p rfl (Za rfl rfl u_0) <| o_p rfl (Zf Zbi rfl rfl u_0) <| o_p rfl (Za rfl rfl u_0) <| o_p rfl (Zo rfl rfl (Opd.imp u_0 (fun _ _ h => Zr h54 h)) (fun _ _ ⟨_, _, _, e, _⟩ => ⟨_, e⟩)) <| o_p rfl (Ze Zeu rfl rfl u_0) <| o_p rfl (Zf Zcv rfl rfl u_0) <| o_p rfl (Za rfl rfl u_0) <| o_p rfl (Zp Zjy (Zdj _ _ _ _ h58) rfl rfl (.cons u_0 (.cons u_1 (.cons u_2 (.cons u_3 .nil))))) <| o_p rfl (Zp Zjy (Zdj _ _ _ _ h60) rfl rfl (.cons u_0 (.cons u_1 (.cons u_2 (.cons u_3 .nil))))) <| o_p rfl (Zc rfl rfl u_0) <| o_n) (by kernel_rfl) (fun a g hst hb => ?_)
         refine wp_ret ?_
         refine Zw ?_
         refine Zn ?_
         obtain rfl := Option.some.inj H0
         exact Z3 rfl hst hb (Zm (s := 8)) (hst.at 0 rfl)
       · replace H0 := Zz hc50 H0
         refine wp_skip ?_
         refine Zbt ?_
         refine Zu ?_
         obtain ⟨r61, h62, H0⟩ := Zh H0
         refine r_s (L := [(0, _), (2, _), (3, _), (5, _)]) (T := [⟨[.old 0], _, [], [], [177]⟩, ⟨[.old 3], _, [], [], [178]⟩, ⟨[.old 1], _, [], [], [179]⟩, ⟨[.old 2], _, [], [], [180]⟩, ⟨[.op 0 0, .op 1 0, .op 2 0, .op 3 0], _, [], Lr 4, [181]⟩, ⟨[.op 4 0], _, [], Lr 5, [8]⟩]) (F := [.op 5 0]) (hst.pick [0, 1, 2, 3] rfl) hb Zb
           (o_p rfl (Za rfl rfl u_0) <| o_p rfl (Zf Zbi rfl rfl u_0) <| o_p rfl (Za rfl rfl u_0) <| o_p rfl (Za rfl rfl u_0) <| o_p rfl (Zp Zjy (Zdj _ _ _ _ h62) rfl rfl (.cons u_0 (.cons u_1 (.cons u_2 (.cons u_3 .nil))))) <| o_p rfl (Zc rfl rfl u_0) <| o_n) (by kernel_rfl) (fun a g hst hb => ?_)
         refine wp_ret ?_
         obtain rfl := Option.some.inj H0
         exact Z3 rfl hst hb (Zm (s := 8)) (hst.at 0 rfl)
theorem Zo3 (self : shelf_nodeT → ByteArray → Zd → Option (shelf_nodeT)) (hself : ∀ (a0 : shelf_nodeT) (a1 : ByteArray) (a2 : Zd) {r : shelf_nodeT}, self a0 a1 a2 = some r → FnOk Tryd.prog 38 [(Z2.pd a0), (pStr a1), (Zi.pd a2)] (Z2.pd r)) (a0 : shelf_nodeT) (a1 : ByteArray) (a2 : Zd) {r : shelf_nodeT} (h : Zhk self a0 a1 a2 = some r) : FnOk Tryd.prog 38 [(Z2.pd a0), (pStr a1), (Zi.pd a2)] (Z2.pd r) := by
 have H0 := h
 unfold Zhk at H0
 clear h
 refine Zbu (N := 78) Tryd.func38 rfl rfl (Nat.le_of_ble_eq_true rfl) rfl rfl (fun a g0 hst hb => ?_)
 refine r_s (T := [⟨[.old 2], _, [], [], [5]⟩, ⟨[], [(6, (Z2.pd shelf_nodeT.nil))], [], [], [6]⟩]) (F := [.old 0, .old 1, .op 0 0]) hst hb Zb
   (o_p rfl (Zbl rfl rfl u_0) <| o_p rfl (Zc rfl rfl (Opd.c (fun g => Zdt g))) <| o_n) (by kernel_rfl) (fun a g hst hb => ?_)
 refine wp_seq ?_
 refine wp_block ?_
 refine r_s (T := [⟨[.old 0], _, [], [], [8]⟩, ⟨[.op 0 0], _, [], [0], [9]⟩, ⟨[.op 1 0], _, [], [0, 1], [7]⟩]) (F := [.old 0, .old 1, .old 2, .op 2 0]) hst hb Zb
   (o_p rfl (Za rfl rfl u_0) <| o_p rfl (Zn8 Tryd.underlying25 rfl rfl u_0 (Zeb _)) <| o_p rfl (Zc rfl rfl u_0) <| o_n) (by kernel_rfl) (fun a g hst hb => ?_)
 refine wp_cond_split (hst.bool 3 rfl) (fun hc1 => ?_) (fun hc1 => ?_)
 · replace H0 := Z0 hc1 H0
   obtain ⟨r2, h3, H0⟩ := Zh H0
   refine r_s (L := [(1, _), (5, _)]) (T := [⟨[.old 0], _, [], [], [10]⟩, ⟨[.old 1], _, [], [], [11]⟩, ⟨[.op 0 0, .op 1 0], [(12, (Z2.pd r2))], [], [0, 1], [12]⟩, ⟨[.op 2 0], _, [], [0, 1, 2], [6]⟩]) (F := [.op 3 0]) (hst.pick [1, 2] rfl) hb Zb
     (o_p rfl (Za rfl rfl u_0) <| o_p rfl (Zf Zbi rfl rfl u_0) <| o_p rfl (Zp Zjy (Zdj _ _ _ _ h3) rfl rfl (.cons u_0 (.cons u_1 (.cons (Opd.c (fun g => Zdt g)) (.cons (Opd.c (fun g => Zdt g)) .nil))))) <| o_p rfl (Zc rfl rfl u_0) <| o_n) (by kernel_rfl) (fun a g hst hb => ?_)
   refine wp_ret ?_
   refine Zw ?_
   refine Zn ?_
   obtain rfl := Option.some.inj H0
   exact Z3 rfl hst hb (Zm (s := 6)) (hst.at 0 rfl)
 · replace H0 := Zz hc1 H0
   obtain ⟨n4, h5, H0⟩ := Zh H0
   refine r_s (L := [(0, _), (1, _), (5, _)]) (T := [⟨[.old 1], _, [], [], [14]⟩, ⟨[.old 0], _, [], [], [15]⟩, ⟨[.op 1 0], _, [], [1], [16]⟩, ⟨[.op 2 0], _, [], [1, 2], [17]⟩, ⟨[.op 3 0], _, [], [1, 2, 3], [18]⟩, ⟨[.op 0 0, .op 4 0], _, [], Lr 5, [19]⟩, ⟨[.op 5 0], _, [], Lr 6, [13]⟩]) (F := [.old 0, .old 1, .old 2, .op 6 0]) (hst.pick [0, 1, 2] rfl) hb Zb
     (o_p rfl (Za rfl rfl u_0) <| o_p rfl (Za rfl rfl u_0) <| o_p rfl (Zo rfl rfl (Opd.imp u_0 (fun _ _ h => Zr h5 h)) (fun _ _ ⟨_, _, _, e, _⟩ => ⟨_, e⟩)) <| o_p rfl (Ze Zes rfl rfl u_0) <| o_p rfl (Zf ty_9 rfl rfl u_0) <| o_p rfl (Zl8 rfl rfl u_0 u_1) <| o_p rfl (Zc rfl rfl u_0) <| o_n) (by kernel_rfl) (fun a g hst hb => ?_)
   refine wp_cond_split (hst.bool 3 rfl) (fun hc6 => ?_) (fun hc6 => ?_)
   · replace H0 := Z0 hc6 H0
     obtain ⟨r7, h8, H0⟩ := Zh H0; obtain ⟨r9, h10, H0⟩ := Zh H0
     refine r_s (L := [(0, _), (1, _), (5, _)]) (T := ⟨[.old 0], _, [], [], [20]⟩ :: ⟨[.op 0 0], _, [], [0], [21]⟩ :: ⟨[.op 1 0], _, [], [0, 1], [22]⟩ :: ⟨[.op 2 0], _, [], [0, 1, 2], [23]⟩ :: ⟨[.old 0], _, [], [], [24]⟩ :: ⟨[.op 4 0], _, [], [4], [25]⟩ :: ⟨[.op 5 0], _, [], [4, 5], [26]⟩ :: ⟨[.op 6 0], _, [], [4, 5, 6], [27]⟩ :: ⟨[.old 0], _, [], [], [28]⟩ :: ⟨[.op 8 0], _, [], [8], [29]⟩ :: ⟨[.op 9 0], _, [], [8, 9], [30]⟩ :: ⟨[.op 10 0], _, [], [8, 9, 10], [31]⟩ :: ⟨[.old 1], _, [], [], [32]⟩ :: ⟨[.old 2], _, [], [], [33]⟩ :: ⟨[.op 11 0, .op 12 0, .op 13 0], _, [], List.range' 8 6, [34]⟩ :: ⟨[.old 0], _, [], [], [35]⟩ :: ⟨[.op 15 0], _, [], [15], [36]⟩ :: ⟨[.op 16 0], _, [], [15, 16], [37]⟩ :: ⟨[.op 17 0], _, [], [15, 16, 17], [38]⟩ :: ⟨[.op 3 0, .op 7 0, .op 14 0, .op 18 0], _, [], Lr 19, [39]⟩ :: ⟨[.op 19 0], _, [], Lr 20, [6]⟩ :: []) (F := [.op 20 0]) (hst.pick [0, 1, 2] rfl) hb Zb
       (o_p rfl (Za rfl rfl u_0) <| o_p rfl (Zo rfl rfl (Opd.imp u_0 (fun _ _ h => Zr h5 h)) (fun _ _ ⟨_, _, _, e, _⟩ => ⟨_, e⟩)) <| o_p rfl (Ze Zes rfl rfl u_0) <| o_p rfl (Zf ty_9 rfl rfl u_0) <| o_p rfl (Za rfl rfl u_0) <| o_p rfl (Zo rfl rfl (Opd.imp u_0 (fun _ _ h => Zr h5 h)) (fun _ _ ⟨_, _, _, e, _⟩ => ⟨_, e⟩)) <| o_p rfl (Ze Zhf rfl rfl u_0) <| o_p rfl (Zf Zbi rfl rfl u_0) <| o_p rfl (Za rfl rfl u_0) <| o_p rfl (Zo rfl rfl (Opd.imp u_0 (fun _ _ h => Zr h5 h)) (fun _ _ ⟨_, _, _, e, _⟩ => ⟨_, e⟩)) <| o_p rfl (Ze Zd9 rfl rfl u_0) <| o_p rfl (Zf Zcv rfl rfl u_0) <| o_p rfl (Za rfl rfl u_0) <| o_p rfl (Zf Zbi rfl rfl u_0) <| o_p rfl (Zp Zy1 (hself _ _ _ h8) rfl rfl (.cons u_0 (.cons u_1 (.cons u_2 .nil)))) <| o_p rfl (Za rfl rfl u_0) <| o_p rfl (Zo rfl rfl (Opd.imp u_0 (fun _ _ h => Zr h5 h)) (fun _ _ ⟨_, _, _, e, _⟩ => ⟨_, e⟩)) <| o_p rfl (Ze Zeu rfl rfl u_0) <| o_p rfl (Zf Zcv rfl rfl u_0) <| o_p rfl (Zp Zsc (Zi2 _ _ _ _ h10) rfl rfl (.cons u_0 (.cons u_1 (.cons u_2 (.cons u_3 .nil))))) <| o_p rfl (Zc rfl rfl u_0) <| o_n) (by kernel_rfl) (fun a g hst hb => ?_)
     refine wp_ret ?_
     refine Zw ?_
     refine Zn ?_
     obtain rfl := Option.some.inj H0
     exact Z3 rfl hst hb (Zm (s := 6)) (hst.at 0 rfl)
   · replace H0 := Zz hc6 H0
     refine r_s (L := [(0, _), (1, _), (5, _)]) (T := [⟨[.old 1], _, [], [], [41]⟩, ⟨[.old 0], _, [], [], [42]⟩, ⟨[.op 1 0], _, [], [1], [43]⟩, ⟨[.op 2 0], _, [], [1, 2], [44]⟩, ⟨[.op 3 0], _, [], [1, 2, 3], [45]⟩, ⟨[.op 0 0, .op 4 0], _, [], Lr 5, [46]⟩, ⟨[.op 5 0], _, [], Lr 6, [40]⟩]) (F := [.old 0, .old 1, .old 2, .op 6 0]) (hst.pick [0, 1, 2] rfl) hb Zb
       (o_p rfl (Za rfl rfl u_0) <| o_p rfl (Za rfl rfl u_0) <| o_p rfl (Zo rfl rfl (Opd.imp u_0 (fun _ _ h => Zr h5 h)) (fun _ _ ⟨_, _, _, e, _⟩ => ⟨_, e⟩)) <| o_p rfl (Ze Zes rfl rfl u_0) <| o_p rfl (Zf ty_9 rfl rfl u_0) <| o_p rfl (Zsa rfl rfl u_0 u_1) <| o_p rfl (Zc rfl rfl u_0) <| o_n) (by kernel_rfl) (fun a g hst hb => ?_)
     refine wp_cond_split (hst.bool 3 rfl) (fun hc11 => ?_) (fun hc11 => ?_)
     · replace H0 := Z0 hc11 H0
       obtain ⟨r12, h13, H0⟩ := Zh H0; obtain ⟨r14, h15, H0⟩ := Zh H0
       refine r_s (L := [(0, _), (1, _), (5, _)]) (T := ⟨[.old 0], _, [], [], [47]⟩ :: ⟨[.op 0 0], _, [], [0], [48]⟩ :: ⟨[.op 1 0], _, [], [0, 1], [49]⟩ :: ⟨[.op 2 0], _, [], [0, 1, 2], [50]⟩ :: ⟨[.old 0], _, [], [], [51]⟩ :: ⟨[.op 4 0], _, [], [4], [52]⟩ :: ⟨[.op 5 0], _, [], [4, 5], [53]⟩ :: ⟨[.op 6 0], _, [], [4, 5, 6], [54]⟩ :: ⟨[.old 0], _, [], [], [55]⟩ :: ⟨[.op 8 0], _, [], [8], [56]⟩ :: ⟨[.op 9 0], _, [], [8, 9], [57]⟩ :: ⟨[.op 10 0], _, [], [8, 9, 10], [58]⟩ :: ⟨[.old 0], _, [], [], [59]⟩ :: ⟨[.op 12 0], _, [], [12], [60]⟩ :: ⟨[.op 13 0], _, [], [12, 13], [61]⟩ :: ⟨[.op 14 0], _, [], [12, 13, 14], [62]⟩ :: ⟨[.old 1], _, [], [], [63]⟩ :: ⟨[.old 2], _, [], [], [64]⟩ :: ⟨[.op 15 0, .op 16 0, .op 17 0], _, [], List.range' 12 6, [65]⟩ :: ⟨[.op 3 0, .op 7 0, .op 11 0, .op 18 0], _, [], Lr 19, [66]⟩ :: ⟨[.op 19 0], _, [], Lr 20, [6]⟩ :: []) (F := [.op 20 0]) (hst.pick [0, 1, 2] rfl) hb Zb
         (o_p rfl (Za rfl rfl u_0) <| o_p rfl (Zo rfl rfl (Opd.imp u_0 (fun _ _ h => Zr h5 h)) (fun _ _ ⟨_, _, _, e, _⟩ => ⟨_, e⟩)) <| o_p rfl (Ze Zes rfl rfl u_0) <| o_p rfl (Zf ty_9 rfl rfl u_0) <| o_p rfl (Za rfl rfl u_0) <| o_p rfl (Zo rfl rfl (Opd.imp u_0 (fun _ _ h => Zr h5 h)) (fun _ _ ⟨_, _, _, e, _⟩ => ⟨_, e⟩)) <| o_p rfl (Ze Zhf rfl rfl u_0) <| o_p rfl (Zf Zbi rfl rfl u_0) <| o_p rfl (Za rfl rfl u_0) <| o_p rfl (Zo rfl rfl (Opd.imp u_0 (fun _ _ h => Zr h5 h)) (fun _ _ ⟨_, _, _, e, _⟩ => ⟨_, e⟩)) <| o_p rfl (Ze Zd9 rfl rfl u_0) <| o_p rfl (Zf Zcv rfl rfl u_0) <| o_p rfl (Za rfl rfl u_0) <| o_p rfl (Zo rfl rfl (Opd.imp u_0 (fun _ _ h => Zr h5 h)) (fun _ _ ⟨_, _, _, e, _⟩ => ⟨_, e⟩)) <| o_p rfl (Ze Zeu rfl rfl u_0) <| o_p rfl (Zf Zcv rfl rfl u_0) <| o_p rfl (Za rfl rfl u_0) <| o_p rfl (Zf Zbi rfl rfl u_0) <| o_p rfl (Zp Zy1 (hself _ _ _ h13) rfl rfl (.cons u_0 (.cons u_1 (.cons u_2 .nil)))) <| o_p rfl (Zp Zsc (Zi2 _ _ _ _ h15) rfl rfl (.cons u_0 (.cons u_1 (.cons u_2 (.cons u_3 .nil))))) <| o_p rfl (Zc rfl rfl u_0) <| o_n) (by kernel_rfl) (fun a g hst hb => ?_)
       refine wp_ret ?_
       refine Zw ?_
       refine Zn ?_
       obtain rfl := Option.some.inj H0
       exact Z3 rfl hst hb (Zm (s := 6)) (hst.at 0 rfl)
     · replace H0 := Zz hc11 H0
       refine wp_skip ?_
       refine Zbt ?_
       refine Zu ?_
       obtain ⟨r16, h17, H0⟩ := Zh H0
       refine r_s (L := [(0, _), (1, _), (5, _)]) (T := ⟨[.old 1], _, [], [], [67]⟩ :: ⟨[.old 2], _, [], [], [68]⟩ :: ⟨[.old 0], _, [], [], [69]⟩ :: ⟨[.op 2 0], _, [], [2], [70]⟩ :: ⟨[.op 3 0], _, [], [2, 3], [71]⟩ :: ⟨[.op 4 0], _, [], [2, 3, 4], [72]⟩ :: ⟨[.old 0], _, [], [], [73]⟩ :: ⟨[.op 6 0], _, [], [6], [74]⟩ :: ⟨[.op 7 0], _, [], [6, 7], [75]⟩ :: ⟨[.op 8 0], _, [], [6, 7, 8], [76]⟩ :: ⟨[.op 0 0, .op 1 0, .op 5 0, .op 9 0], _, [], Lr 10, [77]⟩ :: ⟨[.op 10 0], _, [], Lr 11, [6]⟩ :: []) (F := [.op 11 0]) (hst.pick [0, 1, 2] rfl) hb Zb
         (o_p rfl (Za rfl rfl u_0) <| o_p rfl (Zf Zbi rfl rfl u_0) <| o_p rfl (Za rfl rfl u_0) <| o_p rfl (Zo rfl rfl (Opd.imp u_0 (fun _ _ h => Zr h5 h)) (fun _ _ ⟨_, _, _, e, _⟩ => ⟨_, e⟩)) <| o_p rfl (Ze Zd9 rfl rfl u_0) <| o_p rfl (Zf Zcv rfl rfl u_0) <| o_p rfl (Za rfl rfl u_0) <| o_p rfl (Zo rfl rfl (Opd.imp u_0 (fun _ _ h => Zr h5 h)) (fun _ _ ⟨_, _, _, e, _⟩ => ⟨_, e⟩)) <| o_p rfl (Ze Zeu rfl rfl u_0) <| o_p rfl (Zf Zcv rfl rfl u_0) <| o_p rfl (Zp Zjy (Zdj _ _ _ _ h17) rfl rfl (.cons u_0 (.cons u_1 (.cons u_2 (.cons u_3 .nil))))) <| o_p rfl (Zc rfl rfl u_0) <| o_n) (by kernel_rfl) (fun a g hst hb => ?_)
       refine wp_ret ?_
       obtain rfl := Option.some.inj H0
       exact Z3 rfl hst hb (Zm (s := 6)) (hst.at 0 rfl)
theorem Zlh : ∀ (n : Nat) (a0 : shelf_nodeT) (a1 : ByteArray) (a2 : Zd) {r : shelf_nodeT}, Zek n a0 a1 a2 = some r → FnOk Tryd.prog 38 [(Z2.pd a0), (pStr a1), (Zi.pd a2)] (Z2.pd r)
 | 0, _, _, _, _, h => by simp [Zek] at h
 | n + 1, a0, a1, a2, _, h => Zo3 (Zek n) (fun a0 a1 a2 r h => Zlh n a0 a1 a2 h) a0 a1 a2 h
theorem Zqy (a0 : shelf_nodeT) (a1 : ByteArray) (a2 : Zd) {r : shelf_nodeT} (h : Zln a0 a1 a2 = some r) : FnOk Tryd.prog 38 [(Z2.pd a0), (pStr a1), (Zi.pd a2)] (Z2.pd r) := Zlh _ a0 a1 a2 h
theorem Zl3 (a0 : Zk) (a1 : ByteArray) (a2 : Zd) {r : Zk × Int} (h : Zdl a0 a1 a2 = some r) : FnOk Tryd.prog 19 [(Zt.pd a0), (pStr a1), (Zi.pd a2)] (pTup [(Zt.pd r.1), (pInt .i64 r.2)]) := by
 have H0 := h
 unfold Zdl at H0
 clear h
 refine Zbu (N := 50) Tryd.func19 rfl rfl (Nat.le_of_ble_eq_true rfl) rfl rfl (fun a g0 hst hb => ?_)
 refine r_s (T := [⟨[.old 0], _, [], [], [3]⟩, ⟨[.old 2], _, [], [], [5]⟩, ⟨[], [(6, (pBox Zt 6 (default : Zk)))], [7], [], [6]⟩, ⟨[], _, [], [], [7]⟩]) (F := [.old 1, .op 0 0, .op 1 0, .op 2 0]) hst hb Zb
   (o_p rfl (Zbl rfl rfl u_0) <| o_p rfl (Zbl rfl rfl u_0) <| o_p rfl (Zbb (zs := [.pointer none, .int .i64 0]) (by kernel_rfl) (fun g => Zci g) rfl rfl) <| o_p rfl (Zc rfl rfl c_i) <| o_n) (by kernel_rfl) (fun a g hst hb => ?_)
 refine wp_seq ?_
 refine r_s (T := [⟨[.old 0], _, [], [], [11]⟩, ⟨[.op 0 0], _, [], [0], [12]⟩, ⟨[.op 1 0], _, [], [0, 1], [13]⟩, ⟨[.op 2 0, .old 0], _, [], [0, 1, 2], [14]⟩, ⟨[.op 2 0, .op 3 0], _, [], Lr 4, [15]⟩, ⟨[.op 2 0, .op 4 0], _, [], Lr 5, [16]⟩, ⟨[.op 2 0, .op 5 0], _, [], Lr 6, [17]⟩]) (F := [.old 0, .old 1, .old 2, .old 3, .op 6 0]) hst hb Zb
   (o_p rfl (Za rfl rfl u_0) <| o_p rfl (Zl2 rfl rfl u_0 c_s) <| o_p rfl (Za rfl rfl u_0) <| o_g (g_f rfl rfl rfl (fun hG => Za rfl rfl u_0)) <| o_g (g_f rfl rfl rfl (fun hG => Zft Tryd.underlying9 rfl rfl (Opd.gd hG u_0))) <| o_g (g_f rfl rfl rfl (fun hG => Zcr rfl rfl (Opd.gd hG u_0) c_i)) <| o_p rfl (Zbz rfl rfl u_0 (fun hz => (Opd.gd (bNF hz) u_1))) <| o_n) (by kernel_rfl) (fun a g hst hb => ?_)
 refine wp_cond_split (hst.bool 4 rfl) (fun hc1 => ?_) (fun hc1 => ?_)
 · replace H0 := Z0 hc1 H0
   refine r_s (L := [(3, _), (6, _)]) (T := [⟨[.old 0], _, [], [], [18]⟩, ⟨[.op 0 0, .old 1], _, [7], [0], [6]⟩, ⟨[], _, [], [0, 1], [7]⟩]) (F := [.op 1 0, .op 2 0]) (hst.pick [1, 3] rfl) hb Zb
     (o_p rfl (Zf Zbf rfl rfl u_0) <| o_p rfl (Z6 Zbf rfl rfl u_1 u_0) <| o_p rfl (Zc rfl rfl c_i) <| o_n) (by kernel_rfl) (fun a g hst hb => ?_)
   refine wp_ret ?_
   refine Zn ?_
   obtain rfl := Option.some.inj H0
   obtain ⟨u0, hu0, hq0⟩ := Zbh (P := Tryd.prog) Zbf (hst.at 0 rfl)
   exact Zex rfl hst hb hu0 (Zm (s := 7)) (Zde hq0 (hst.at 1 rfl))
 · replace H0 := Zz hc1 H0
   refine wp_skip ?_
   refine Zu ?_
   refine wp_seq ?_
   obtain ⟨r2, h3, H0⟩ := Zh H0
   refine r_s (L := [(1, _), (3, _), (5, _), (6, _)]) (T := [⟨[.old 2], _, [], [], [19]⟩, ⟨[.op 0 0], _, [], [0], [20]⟩, ⟨[.op 1 0], _, [], [0, 1], [8]⟩]) (F := [.old 0, .old 1, .old 2, .old 3, .op 2 0]) (hst.pick [0, 1, 2, 3] rfl) hb Zb
     (o_p rfl (Zf Zbi rfl rfl u_0) <| o_p rfl (Zp Zzj (Zmy _ h3) rfl rfl (.cons u_0 .nil)) <| o_p rfl (Zc rfl rfl u_0) <| o_n) (by kernel_rfl) (fun a g hst hb => ?_)
   refine r_s (T := [⟨[.old 4], _, [], [], [21]⟩, ⟨[.op 0 0], _, [], [0], [22]⟩]) (F := [.old 0, .old 1, .old 2, .old 3, .old 4, .op 1 0]) hst hb Zb
     (o_p rfl (Za rfl rfl u_0) <| o_p rfl (Zer rfl rfl u_0 c_i) <| o_n) (by kernel_rfl) (fun a g hst hb => ?_)
   refine wp_cond_split (hst.bool 5 rfl) (fun hc4 => ?_) (fun hc4 => ?_)
   · replace H0 := Z0 hc4 H0
     refine r_s (L := [(3, _), (6, _), (8, _)]) (T := [⟨[.old 0], _, [], [], [23]⟩, ⟨[.old 2], _, [], [], [24]⟩, ⟨[.op 0 0, .old 1], _, [7], [0], [6]⟩, ⟨[.op 1 0], _, [], [0, 1, 2], [7]⟩]) (F := [.op 2 0, .op 3 0]) (hst.pick [1, 3, 4] rfl) hb Zb
       (o_p rfl (Zf Zbf rfl rfl u_0) <| o_p rfl (Za rfl rfl u_0) <| o_p rfl (Z6 Zbf rfl rfl u_1 u_0) <| o_p rfl (Zc rfl rfl u_0) <| o_n) (by kernel_rfl) (fun a g hst hb => ?_)
     refine wp_ret ?_
     refine Zn ?_
     obtain rfl := Option.some.inj H0
     obtain ⟨u0, hu0, hq0⟩ := Zbh (P := Tryd.prog) Zbf (hst.at 0 rfl)
     exact Zex rfl hst hb hu0 (Zm (s := 7)) (Zde hq0 (hst.at 1 rfl))
   · replace H0 := Zz hc4 H0
     refine wp_skip ?_
     refine Zu ?_
     refine wp_seq ?_
     obtain ⟨r5, h6, H0⟩ := Zh H0
     refine r_s (L := [(1, _), (3, _), (5, _), (6, _)]) (T := [⟨[.old 1], _, [], [], [26]⟩, ⟨[.old 0], _, [], [], [27]⟩, ⟨[.op 0 0, .op 1 0], _, [], [0, 1], [28]⟩, ⟨[.op 2 0], _, [], [0, 1, 2], [25]⟩, ⟨[.op 3 0], _, [], Lr 4, [29]⟩, ⟨[.op 3 0], _, [], Lr 4, [30]⟩, ⟨[], [(9, (pBox Zi 9 (default : Zd)))], [10], [], [9]⟩, ⟨[.op 4 0, .op 6 0], _, [10], [0, 1, 2, 3, 4, 6], [9]⟩, ⟨[.op 5 0], _, [], Lr 8, [10]⟩]) (F := [.old 0, .old 1, .old 2, .old 3, .op 8 0]) (hst.pick [0, 1, 2, 3] rfl) hb Zb
       (o_p rfl (Zf Zbf rfl rfl u_0) <| o_p rfl (Za rfl rfl u_0) <| o_p rfl (Zp Zzk (Zjq _ _ h6) rfl rfl (.cons u_0 (.cons u_1 .nil))) <| o_p rfl (Za rfl rfl u_0) <| o_p rfl (Z4 rfl rfl u_0 rfl) <| o_p rfl (Z4 rfl rfl u_0 rfl) <| o_p rfl (Zbb (zs := [.int .i64 0, .int .i64 0, .int .i64 0, .int .i64 0, .float .f64 0, .int .i64 0, .string ByteArray.empty, .slice none 0 0]) (by kernel_rfl) (fun g => Zch g) rfl rfl) <| o_p rfl (Zby Zbi rfl rfl u_1 u_0) <| o_p rfl (Zc rfl rfl u_0) <| o_n) (by kernel_rfl) (fun a g hst hb => ?_)
     obtain ⟨r7, h8, H0⟩ := Zh H0
     refine r_s (T := [⟨[.old 4], _, [], [], [31]⟩, ⟨[.op 0 0], _, [], [0], [32]⟩, ⟨[.op 1 0], _, [], [0, 1], [33]⟩, ⟨[.op 2 0, .old 1], _, [], [0, 1, 2], [34]⟩, ⟨[.op 2 0, .op 3 0], _, [], Lr 4, [35]⟩, ⟨[.op 2 0, .old 1], _, [], [0, 1, 2], [36]⟩, ⟨[.op 2 0, .op 5 0], _, [], [0, 1, 2, 5], [37]⟩, ⟨[.op 2 0, .op 4 0, .op 6 0], _, [], Lr 7, [38]⟩, ⟨[.op 2 0, .op 7 0], _, [], Lr 8, [39]⟩]) (F := [.old 0, .old 1, .old 2, .old 3, .op 8 0]) hst hb Zb
       (o_p rfl (Za rfl rfl u_0) <| o_p rfl (Zcn rfl rfl u_0) <| o_p rfl (Za rfl rfl u_0) <| o_g (g_t rfl rfl rfl (fun hG => Zf Zbf rfl rfl u_0)) <| o_g (g_t rfl rfl rfl (fun hG => Zp en_9 (Zfd _ (Zbq h8 hG)) rfl rfl (.cons (Opd.gd hG u_0) .nil))) <| o_g (g_t rfl rfl rfl (fun hG => Ze Ztt rfl rfl u_0)) <| o_g (g_t rfl rfl rfl (fun hG => Zf ty_3 rfl rfl (Opd.gd hG u_0))) <| o_g (g_t rfl rfl rfl (fun hG => Zso rfl rfl (Opd.gd hG u_0) (Opd.gd hG u_1))) <| o_p rfl (Zbj rfl rfl u_0 (fun hz => (Opd.gd hz u_1))) <| o_n) (by kernel_rfl) (fun a g hst hb => ?_)
     refine wp_cond_split (hst.bool 4 rfl) (fun hc9 => ?_) (fun hc9 => ?_)
     · replace H0 := Z0 hc9 H0
       refine r_s (L := [(3, _), (6, _)]) (T := [⟨[.old 0], _, [], [], [40]⟩, ⟨[.op 0 0, .old 1], _, [7], [0], [6]⟩, ⟨[], _, [], [0, 1], [7]⟩]) (F := [.op 1 0, .op 2 0]) (hst.pick [1, 3] rfl) hb Zb
         (o_p rfl (Zf Zbf rfl rfl u_0) <| o_p rfl (Z6 Zbf rfl rfl u_1 u_0) <| o_p rfl (Zc rfl rfl c_i) <| o_n) (by kernel_rfl) (fun a g hst hb => ?_)
       refine wp_ret ?_
       refine Zn ?_
       obtain rfl := Option.some.inj H0
       obtain ⟨u0, hu0, hq0⟩ := Zbh (P := Tryd.prog) Zbf (hst.at 0 rfl)
       exact Zex rfl hst hb hu0 (Zm (s := 7)) (Zde hq0 (hst.at 1 rfl))
     · replace H0 := Zz hc9 H0
       refine wp_skip ?_
       refine Zu ?_
       obtain ⟨r10, h11, H0⟩ := Zh H0; obtain ⟨r12, h13, H0⟩ := Zh H0
       refine r_s (L := [(1, _), (3, _), (5, _), (6, _)]) (T := [⟨[.old 1], _, [], [], [41]⟩, ⟨[.op 0 0], _, [], [0], [42]⟩, ⟨[.old 0], _, [], [], [43]⟩, ⟨[.old 2], _, [], [], [44]⟩, ⟨[.op 3 0], _, [], [3], [45]⟩, ⟨[.op 1 0, .op 2 0, .op 4 0], _, [], Lr 5, [46]⟩, ⟨[.old 1], _, [], [], [47]⟩, ⟨[.op 6 0], _, [], [6], [48]⟩, ⟨[.op 5 0, .op 7 0], _, [], Lr 8, [49]⟩, ⟨[.op 8 0, .old 3], _, [7], Lr 9, [6]⟩, ⟨[], _, [], Lr 10, [7]⟩]) (F := [.op 9 0, .op 10 0]) (hst.pick [0, 1, 2, 3] rfl) hb Zb
         (o_p rfl (Ze Zn9 rfl rfl u_0) <| o_p rfl (Zf Zcv rfl rfl u_0) <| o_p rfl (Za rfl rfl u_0) <| o_p rfl (Zf Zbi rfl rfl u_0) <| o_p rfl (Zp Znk (Zgf _ h11) rfl rfl (.cons u_0 .nil)) <| o_p rfl (Zp Zy1 (Zqy _ _ _ h13) rfl rfl (.cons u_0 (.cons u_1 (.cons u_2 .nil)))) <| o_p rfl (Ze Ztt rfl rfl u_0) <| o_p rfl (Zf ty_3 rfl rfl u_0) <| o_p rfl (Zue rfl rfl u_0 u_1) <| o_p rfl (Z6 Zbf rfl rfl u_1 u_0) <| o_p rfl (Zc rfl rfl c_i) <| o_n) (by kernel_rfl) (fun a g hst hb => ?_)
       refine wp_ret ?_
       obtain rfl := Option.some.inj H0
       obtain ⟨u0, hu0, hq0⟩ := Zbh (P := Tryd.prog) Zbf (hst.at 0 rfl)
       exact Zex rfl hst hb hu0 (Zm (s := 7)) (Zde hq0 (hst.at 1 rfl))
theorem Zt8 (a0 : Int) {r : Zc1} (h : Zm0 a0 = some r) : FnOk Tryd.prog 60 [(pInt .i64 a0)] (Zdx.pd r) := by
 have H0 := h
 unfold Zm0 at H0
 clear h
 refine Zbu (N := 13) Tryd.func60 rfl rfl (Nat.le_of_ble_eq_true rfl) rfl rfl (fun a g0 hst hb => ?_)
 refine r_s (T := [⟨[], [(2, (pBox Zdx 2 (default : Zc1)))], [3], [], [2]⟩]) (F := [.old 0, .op 0 0]) hst hb Zb
   (o_p rfl (Zbb (zs := [.string ByteArray.empty, .int .i64 0, .string ByteArray.empty]) (by kernel_rfl) (fun g => Zrc g) rfl rfl) <| o_n) (by kernel_rfl) (fun a g hst hb => ?_)
 refine wp_seq ?_
 refine r_s (T := [⟨[.old 0], _, [], [], [3]⟩, ⟨[.op 0 0], _, [], [0], [4]⟩, ⟨[.op 1 0], _, [], [0, 1], [5]⟩, ⟨[.op 2 0, .old 0], _, [], [0, 1, 2], [6]⟩, ⟨[.op 2 0, .op 3 0], _, [], Lr 4, [7]⟩, ⟨[.op 2 0, .op 4 0], _, [], Lr 5, [8]⟩]) (F := [.old 0, .old 1, .op 5 0]) hst hb Zb
   (o_p rfl (Za rfl rfl u_0) <| o_p rfl (Z3k rfl rfl u_0 c_i) <| o_p rfl (Za rfl rfl u_0) <| o_g (g_f rfl rfl rfl (fun hG => Za rfl rfl u_0)) <| o_g (g_f rfl rfl rfl (fun hG => Zso rfl rfl (Opd.gd hG u_0) c_i)) <| o_p rfl (Zbz rfl rfl u_0 (fun hz => (Opd.gd (bNF hz) u_1))) <| o_n) (by kernel_rfl) (fun a g hst hb => ?_)
 refine wp_cond_split (hst.bool 2 rfl) (fun hc1 => ?_) (fun hc1 => ?_)
 · replace H0 := Z0 hc1 H0
   refine r_s (L := [(2, _)]) (T := [⟨[], _, [], [], [9]⟩, ⟨[.op 0 0, .old 0], _, [3], [0], [2]⟩]) (F := [.op 1 0]) (hst.pick [1] rfl) hb Zb
     (o_p rfl (Z4l rfl rfl ) <| o_p rfl (Z6 Zi1 rfl rfl u_1 u_0) <| o_n) (by kernel_rfl) (fun a g hst hb => ?_)
   refine wp_ret ?_
   refine Zn ?_
   obtain rfl := Option.some.inj H0
   obtain ⟨u0, hu0, hq0⟩ := Zbh (P := Tryd.prog) Zi1 (hst.at 0 rfl)
   exact Z3 rfl hst hb hu0 hq0
 · replace H0 := Zz hc1 H0
   refine wp_skip ?_
   refine Zu ?_
   obtain ⟨e2, h3, H0⟩ := Zh H0
   refine r_s (L := [(0, _), (2, _)]) (T := [⟨[.old 0], _, [], [], [10]⟩, ⟨[.op 0 0], _, [], [0], [11]⟩, ⟨[.op 1 0], _, [], [0, 1], [12]⟩, ⟨[.op 2 0, .old 1], _, [3], [0, 1, 2], [2]⟩]) (F := [.op 3 0]) (hst.pick [0, 1] rfl) hb Zb
     (o_p rfl (Za rfl rfl u_0) <| o_p rfl (Zxi Tryd.underlying136 Z6g rfl rfl (Opd.glob gm_1 gk_1) u_0 h3) <| o_p rfl (Zf Zi1 rfl rfl u_0) <| o_p rfl (Z6 Zi1 rfl rfl u_1 u_0) <| o_n) (by kernel_rfl) (fun a g hst hb => ?_)
   refine wp_ret ?_
   obtain rfl := Option.some.inj H0
   obtain ⟨u0, hu0, hq0⟩ := Zbh (P := Tryd.prog) Zi1 (hst.at 0 rfl)
   exact Z3 rfl hst hb hu0 hq0
theorem Zgc (f2 : Nat) (C2 : List Pd) (hC2 : Free C2) (e2_ : Zq Tryd.prog f2) (φ2 : Zj → Zj → Option Bool) (hφ2 : ∀ (y0 : Zj) (y1 : Zj) (r : Bool), φ2 y0 y1 = some r → FnOk Tryd.prog f2 ([(Zy.pd y0), (Zy.pd y1)] ++ C2) (Zbd r)) (a0 : List Zj) (a1 : List Zj) {r : Bool} (h : Zb4 a0 a1 φ2 = some r) : FnOk Tryd.prog 48 [(Zy.sl.pd a0), (Zy.sl.pd a1), (pClo f2 C2 hC2)] (Zbd r) := by
 have H0 := h
 unfold Zb4 at H0
 clear h
 refine Zbu (N := 32) Tryd.func48 rfl rfl (Nat.le_of_ble_eq_true rfl) rfl rfl (fun a g0 hst hb => ?_)
 refine r_s (T := [⟨[], _, [], [], [6]⟩]) (F := [.old 0, .old 1, .old 2]) hst hb Zb
   (o_p rfl (Zc rfl rfl c_b) <| o_n) (by kernel_rfl) (fun a g hst hb => ?_)
 refine wp_seq ?_
 refine r_s (T := [⟨[.old 0], _, [], [], [10]⟩, ⟨[.op 0 0], _, [], [0], [11]⟩, ⟨[.old 1], _, [], [], [12]⟩, ⟨[.op 2 0], _, [], [2], [13]⟩, ⟨[.op 1 0, .op 3 0], _, [], Lr 4, [14]⟩]) (F := [.old 0, .old 1, .old 2, .op 4 0]) hst hb Zb
   (o_p rfl (Za rfl rfl u_0) <| o_p rfl (Zb3 Tryd.underlying43 rfl rfl u_0) <| o_p rfl (Za rfl rfl u_0) <| o_p rfl (Zb3 Tryd.underlying43 rfl rfl u_0) <| o_p rfl (Zer rfl rfl u_0 u_1) <| o_n) (by kernel_rfl) (fun a g hst hb => ?_)
 refine wp_cond_split (hst.bool 3 rfl) (fun hc1 => ?_) (fun hc1 => ?_)
 · replace H0 := Z0 hc1 H0
   refine r_s (L := []) (T := [⟨[], _, [], [], [6]⟩]) (F := [.op 0 0]) (hst.pick [] rfl) hb Zb
     (o_p rfl (Zc rfl rfl c_b) <| o_n) (by kernel_rfl) (fun a g hst hb => ?_)
   refine wp_ret ?_
   refine Zn ?_
   obtain rfl := Option.some.inj H0
   exact Z3 rfl hst hb (Zm (s := 6)) (hst.at 0 rfl)
 · replace H0 := Zz hc1 H0
   refine wp_skip ?_
   refine Zu ?_
   refine wp_seq ?_
   refine r_s (L := [(0, _), (1, _), (2, _)]) (T := [⟨[.old 0], _, [], [], [15]⟩, ⟨[.op 0 0], _, [], [0], [16]⟩, ⟨[], _, [], [], [17]⟩]) (F := [.old 1, .old 2, .op 0 0, .op 1 0, .op 2 0]) (hst.pick [0, 1, 2] rfl) hb Zb
     (o_p rfl (Za rfl rfl u_0) <| o_p rfl (Zb3 Tryd.underlying43 rfl rfl u_0) <| o_p rfl (Za rfl rfl c_i) <| o_n) (by kernel_rfl) (fun a g hst hb => ?_)
   obtain ⟨z11, hz1, H0⟩ := Zh H0
   refine Zc0 (fun a w => ∃ (g : G), w = g.w ∧ St 32 [] a g ∧ Base g0 g ∧ (.inr ()) = z11) ?_ ?_
   · rintro a w ⟨g, rfl, hst, hb, rfl⟩
     refine Zu ?_
     refine r_s (T := [⟨[], _, [], [], [6]⟩]) (F := [.op 0 0]) hst hb Zb
       (o_p rfl (Zc rfl rfl c_b) <| o_n) (by kernel_rfl) (fun a g hst hb => ?_)
     refine wp_ret ?_
     obtain rfl := Option.some.inj H0
     exact Z3 rfl hst hb (Zm (s := 6)) (hst.at 0 rfl)
   · refine wp_block ?_
     refine wp_loop_ghost (fun n a w => ∃ (x2 : Int) (g : G), w = g.w ∧ St 32 [(1, (Zy.sl.pd a1)), (2, (pClo f2 C2 hC2)), (15, (Zy.sl.pd a0)), (16, (pInt .i64 (a0.length : Int))), (17, (pInt .i64 x2))] a g ∧ Base g0 g ∧ Zbg a0 a1 φ2 n x2 = some z11) (Int.toNat ((a0.length : Int) - (0 : Int)) + 1) ⟨(0 : Int), g, rfl, (hst.pick [0, 1, 2, 3, 4] rfl), hb, hz1⟩ (fun n a w hI => ?_)
     obtain ⟨x2, g, rfl, hst, hb, H1⟩ := hI
     cases n with
     | zero => exact absurd H1 (by simp [Zbg])
     | succ n =>
       rw [Zbg] at H1
       refine r_s (T := [⟨[.old 4, .old 3], _, [], [], [18]⟩]) (F := [.old 0, .old 1, .old 2, .old 3, .old 4, .op 0 0]) hst hb Zb
         (o_p rfl (Zc2 rfl rfl u_0 u_1) <| o_n) (by kernel_rfl) (fun a g hst hb => ?_)
       refine wp_seq ?_
       refine wp_cond_split (hst.bool 5 rfl) (fun hc3 => ?_) (fun hc3 => ?_)
       · replace H1 := Z0 hc3 H1
         refine wp_skip ?_
         refine Zu ?_
         refine wp_seq ?_
         refine wp_block ?_
         obtain ⟨e4, h5, H1⟩ := Zh H1
         refine r_s (L := [(1, _), (2, _), (15, _), (16, _), (17, _)]) (T := [⟨[.old 4], _, [], [], [19]⟩, ⟨[.old 2, .old 4], _, [], [], [20]⟩, ⟨[.op 1 0], _, [], [1], [21]⟩, ⟨[], [(8, (pBox Zy 8 (default : Zj)))], [9], [], [8]⟩, ⟨[.op 0 0], _, [], Lr 4, [7]⟩, ⟨[.op 2 0, .op 3 0], _, [9], Lr 5, [8]⟩]) (F := [.old 0, .old 1, .op 4 0, .op 5 0, .old 2, .old 3, .old 4]) (hst.pick [0, 1, 2, 3, 4] rfl) hb Zb
           (o_p rfl (Za rfl rfl u_0) <| o_p rfl (Zbv Tryd.underlying43 Zjc rfl rfl u_0 u_1 h5) <| o_p rfl (Zf Zfk rfl rfl u_0) <| o_p rfl (Zbb (zs := [.float .f64 0, .string ByteArray.empty]) (by kernel_rfl) (fun g => Zi8 g) rfl rfl) <| o_p rfl (Zc rfl rfl u_0) <| o_p rfl (Zby Zfk rfl rfl u_1 u_0) <| o_n) (by kernel_rfl) (fun a g hst hb => ?_)
         obtain ⟨e6, h7, H1⟩ := Zh H1
         refine r_s (T := [⟨[.old 0], _, [], [], [22]⟩, ⟨[.old 2], _, [], [], [23]⟩, ⟨[.op 0 0, .op 1 0], _, [], [0, 1], [24]⟩, ⟨[.op 2 0], _, [], [0, 1, 2], [25]⟩, ⟨[], [(9, (pBox Zy 9 (default : Zj)))], [10], [], [9]⟩, ⟨[.op 3 0, .op 4 0], _, [10], Lr 5, [9]⟩]) (F := [.old 0, .old 1, .old 3, .op 5 0, .old 4, .old 5, .old 6]) hst hb Zb
           (o_p rfl (Za rfl rfl u_0) <| o_p rfl (Za rfl rfl u_0) <| o_p rfl (Zbv Tryd.underlying43 Zjc rfl rfl u_0 u_1 h7) <| o_p rfl (Zf Zfk rfl rfl u_0) <| o_p rfl (Zbb (zs := [.float .f64 0, .string ByteArray.empty]) (by kernel_rfl) (fun g => Zi8 g) rfl rfl) <| o_p rfl (Zby Zfk rfl rfl u_1 u_0) <| o_n) (by kernel_rfl) (fun a g hst hb => ?_)
         obtain ⟨r8, h9, H1⟩ := Zh H1
         refine r_s (T := [⟨[.old 1], _, [], [], [26]⟩, ⟨[.old 2], _, [], [], [27]⟩, ⟨[.old 3], _, [], [], [28]⟩, ⟨[.op 0 0, .op 1 0, .op 2 0], _, [], [0, 1, 2], [29]⟩, ⟨[.op 3 0], _, [], Lr 4, [30]⟩]) (F := [.old 0, .old 1, .old 4, .old 5, .old 6, .op 4 0]) hst hb Zb
           (o_p rfl (Za rfl rfl u_0) <| o_p rfl (Zf Zfk rfl rfl u_0) <| o_p rfl (Zf Zfk rfl rfl u_0) <| o_p rfl (Zmt e2_ (hφ2 _ _ _ h9) rfl rfl u_0 (.cons u_1 (.cons u_2 .nil))) <| o_p rfl (Zcn rfl rfl u_0) <| o_n) (by kernel_rfl) (fun a g hst hb => ?_)
         refine wp_cond_split (hst.bool 5 rfl) (fun hc10 => ?_) (fun hc10 => ?_)
         · replace H1 := Z0 hc10 H1
           refine r_s (L := []) (T := [⟨[], _, [], [], [6]⟩]) (F := [.op 0 0]) (hst.pick [] rfl) hb Zb
             (o_p rfl (Zc rfl rfl c_b) <| o_n) (by kernel_rfl) (fun a g hst hb => ?_)
           refine wp_ret ?_
           refine Zw ?_
           refine Zn ?_
           refine Zn ?_
           refine Zw ?_
           refine Zn ?_
           refine Zn ?_
           obtain rfl := Option.some.inj H1
           obtain rfl := Option.some.inj H0
           exact Z3 rfl hst hb (Zm (s := 6)) (hst.at 0 rfl)
         · replace H1 := Zz hc10 H1
           refine wp_skip ?_
           refine Zbt ?_
           refine Zu ?_
           refine r_g (L := [(1, _), (2, _), (15, _), (16, _), (17, _)]) (T := [⟨[.old 4], _, [], [], [31]⟩, ⟨[.op 0 0], _, [], [0], [17]⟩]) (F := [.old 0, .old 1, .old 2, .old 3, .op 1 0]) (hst.pick [0, 1, 2, 3, 4] rfl) hb Zb
             (o_p rfl (Zce rfl rfl u_0 c_i rfl) <| o_p rfl (Za rfl rfl u_0) <| o_n) (by kernel_rfl) (fun a g hst hb => ?_)
           exact ⟨n, Nat.lt_succ_self _, (IntKind.i64.wrap (x2 + (1 : Int))), g, rfl, (hst.pick [0, 1, 2, 3, 4] rfl), hb, H1⟩
       · replace H1 := Zz hc3 H1
         refine wp_exit ?_
         refine Zca ?_
         refine Zca ?_
         refine Zcz ?_
         exact ⟨g, rfl, (hst.pick [] rfl), hb, Option.some.inj H1⟩
end Go.CL
