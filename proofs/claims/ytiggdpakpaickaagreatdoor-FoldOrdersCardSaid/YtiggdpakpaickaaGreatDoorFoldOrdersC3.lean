/- A part of the proof of FoldOrders. -/
import Derived.Test.YtiggdpakpaickaaGreatDoorFoldOrdersC2
import Derived.Test.YtiggdpakpaickaaGreatDoorProg
set_option linter.unusedVariables false
set_option linter.unusedSimpArgs false
set_option maxRecDepth 100000
namespace Go.CL
open Go Go.RowKit Go.Proofs
theorem Za : Tryz.prog.follows .mixedOrders = true := by kernel_rfl
theorem Z87 {α : Type} {l : List α} (h : l.length = 1) : ∃ u0, l = [u0] := by
 match l, h with
 | [u0], _ => exact ⟨u0, rfl⟩
theorem Zlk {α : Type} {l : List α} (h : l.length = 2) : ∃ u0 u1, l = [u0, u1] := by
 match l, h with
 | [u0, u1], _ => exact ⟨u0, u1, rfl⟩
theorem Zwv {α : Type} {l : List α} (h : l.length = 8) : ∃ u0 u1 u2 u3 u4 u5 u6 u7, l = [u0, u1, u2, u3, u4, u5, u6, u7] := by
 match l, h with
 | [u0, u1, u2, u3, u4, u5, u6, u7], _ => exact ⟨u0, u1, u2, u3, u4, u5, u6, u7, rfl⟩
def Zzc : List (Kd.FK Zl) := [⟨_, Kd.flt, 0, fun x : Zl => x.Score⟩,
 ⟨_, Kd.str, 1, fun x : Zl => x.Name⟩]
def Zy : Kd Zl := Kd.struct 2 Zzc (by rfl)
theorem Zkf : ∀ g, Zy.K g (default : Zl) [.float .f64 0, .string ByteArray.empty] := fun g => ⟨rfl, (List.forall_mem_cons.2 ⟨(rfl), (List.forall_mem_cons.2 ⟨(rfl), (fun _ h => by cases h)⟩)⟩)⟩
def Zv6 : List (Kd.FK Ze) := [⟨_, (Kd.int .i64), 0, fun x : Ze => x.Kind⟩,
 ⟨_, (Kd.int .i64), 1, fun x : Ze => x.Num⟩,
 ⟨_, (Kd.int .i64), 2, fun x : Ze => x.Low⟩,
 ⟨_, (Kd.int .i64), 3, fun x : Ze => x.High⟩,
 ⟨_, Kd.flt, 4, fun x : Ze => x.Real⟩,
 ⟨_, (Kd.int .i64), 5, fun x : Ze => x.Cap⟩,
 ⟨_, Kd.str, 6, fun x : Ze => x.Text⟩,
 ⟨_, Zy.sl, 7, fun x : Ze => x.List⟩]
def Zi : Kd Ze := Kd.struct 8 Zv6 (by rfl)
theorem Zb9 : ∀ g, Zi.K g (default : Ze) [.int .i64 0, .int .i64 0, .int .i64 0, .int .i64 0, .float .f64 0, .int .i64 0, .string ByteArray.empty, .slice none 0 0] := fun g => ⟨rfl, (List.forall_mem_cons.2 ⟨(rfl), (List.forall_mem_cons.2 ⟨(rfl), (List.forall_mem_cons.2 ⟨(rfl), (List.forall_mem_cons.2 ⟨(rfl), (List.forall_mem_cons.2 ⟨(rfl), (List.forall_mem_cons.2 ⟨(rfl), (List.forall_mem_cons.2 ⟨(rfl), (List.forall_mem_cons.2 ⟨(⟨none, 0, rfl, Nat.le_refl _, Nat.zero_le _, .inl rfl⟩), (fun _ h => by cases h)⟩)⟩)⟩)⟩)⟩)⟩)⟩)⟩)⟩
def shelf_nodeT.V (g : G) : shelf_nodeT → Value → Prop
 | .nil, v => v = .pointer none
 | .node x0 x1 x2 x3 x4, v => ∃ b o cs, v = .pointer (some ⟨b, o, none⟩) ∧ CellsAt g b o cs ∧ cs.length = 12 ∧ (∀ u ∈ cs, u.oneCell' = true) ∧ Kd.str.K g x0 (seg cs 0 1) ∧ Zi.K g x1 (seg cs 1 8) ∧ (∃ v, seg cs 9 1 = [v] ∧ shelf_nodeT.V g x2 v) ∧ (∃ v, seg cs 10 1 = [v] ∧ shelf_nodeT.V g x3 v) ∧ (Kd.int .i64).K g x4 (seg cs 11 1)
theorem shelf_nodeT.mono {g g' : G} (h : g.le g') (t : shelf_nodeT) : ∀ v, shelf_nodeT.V g t v → shelf_nodeT.V g' t v := by
 induction t with
 | nil => exact fun v h => h
 | node x0 x1 x2 x3 x4 ih2 ih3 =>
   rintro v ⟨b, o, cs, rfl, hc, hl, hz, h0, h1, ⟨w2, e2, k2⟩, ⟨w3, e3, k3⟩, h4⟩
   exact ⟨b, o, cs, rfl, hc.mono h, hl, hz, Kd.str.mono h h0, Zi.mono h h1, ⟨w2, e2, ih2 w2 k2⟩, ⟨w3, e3, ih3 w3 k3⟩, (Kd.int .i64).mono h h4⟩
theorem shelf_nodeT.ptr {g : G} {t : shelf_nodeT} {v : Value} (h : shelf_nodeT.V g t v) : ∃ p, v = .pointer p ∧ p.isNone = t.isNil := by
 cases t with
 | nil => exact ⟨_, h, rfl⟩
 | node =>
   obtain ⟨b, o, cs, e, _⟩ := h
   exact ⟨_, e, rfl⟩
def Z7 : Kd shelf_nodeT where
 sz := 1
 ag := false
 K := fun g t cs => ∃ v, cs = [v] ∧ shelf_nodeT.V g t v
 len := by rintro _ _ _ ⟨v, rfl, _⟩; rfl
 one := by
   rintro _ _ _ ⟨v, rfl, h⟩ u hu
   obtain ⟨p, e, _⟩ := shelf_nodeT.ptr h
   rw [List.mem_singleton.1 hu, e]; rfl
 mono := fun h ⟨v, e, k⟩ => ⟨v, e, shelf_nodeT.mono h _ _ k⟩
 nag := fun _ => rfl
def Zv8 : List (Kd.FK shelf_node) := [⟨_, Kd.str, 0, fun x : shelf_node => x.key⟩,
 ⟨_, Zi, 1, fun x : shelf_node => x.rec_⟩,
 ⟨_, Z7, 9, fun x : shelf_node => x.left⟩,
 ⟨_, Z7, 10, fun x : shelf_node => x.right⟩,
 ⟨_, (Kd.int .i64), 11, fun x : shelf_node => x.size⟩]
def Zgq : Kd shelf_node := Kd.struct 12 Zv8 (by rfl)
theorem shelf_nodeT.V_iff {g : G} {t : shelf_nodeT} {v : Value} : (Z7.pd t).p g v ↔ shelf_nodeT.V g t v := by
 constructor
 · rintro ⟨_, ⟨u, rfl, h⟩, rfl⟩; exact h
 · exact fun h => ⟨_, ⟨v, rfl, h⟩, rfl⟩
theorem Zld (g : G) : Z7.K g shelf_nodeT.nil [.pointer none] := ⟨_, rfl, rfl⟩
theorem Zee (g : G) : (Z7.pd shelf_nodeT.nil).p g (.pointer none) := shelf_nodeT.V_iff.2 rfl
theorem Ze4 (t : shelf_nodeT) (g : G) (v : Value) (h : (Z7.pd t).p g v) : ∃ p, v = .pointer p ∧ p.isNone = t.isNil := shelf_nodeT.ptr (shelf_nodeT.V_iff.1 h)
theorem Zv {g : G} {t : shelf_nodeT} {x : shelf_node} {v : Value} (h : t.un = some x) (hv : (Z7.pd t).p g v) : (Zgq.ptr x).p g v := by
 cases t with
 | nil => cases h
 | node x0 x1 x2 x3 x4 =>
   obtain rfl := Option.some.inj h
   obtain ⟨b, o, cs, rfl, hc, hl, _, h0, h1, h2, h3, h4⟩ := shelf_nodeT.V_iff.1 hv
   exact ⟨b, o, cs, rfl, ⟨hl, (List.forall_mem_cons.2 ⟨h0, (List.forall_mem_cons.2 ⟨h1, (List.forall_mem_cons.2 ⟨h2, (List.forall_mem_cons.2 ⟨h3, (List.forall_mem_cons.2 ⟨h4, (fun _ h => by cases h)⟩)⟩)⟩)⟩)⟩)⟩, hc⟩
theorem Zuu {g : G} {x : shelf_node} {v : Value} (h : (Zgq.ptr x).p g v) : (Z7.pd x.up).p g v := by
 obtain ⟨b, o, cs, rfl, hk, hc⟩ := h
 exact shelf_nodeT.V_iff.2 ⟨b, o, cs, rfl, hc, hk.1, Zgq.one hk, hk.2 _ (List.mem_of_getElem? (i := 0) rfl), hk.2 _ (List.mem_of_getElem? (i := 1) rfl), hk.2 _ (List.mem_of_getElem? (i := 2) rfl), hk.2 _ (List.mem_of_getElem? (i := 3) rfl), hk.2 _ (List.mem_of_getElem? (i := 4) rfl)⟩
def Zvc : List (Kd.FK Zo) := [⟨_, Z7, 0, fun x : Zo => x.top⟩,
 ⟨_, (Kd.int .i64), 1, fun x : Zo => x.room⟩]
def Z0 : Kd Zo := Kd.struct 2 Zvc (by rfl)
theorem Zct : ∀ g, Z0.K g (default : Zo) [.pointer none, .int .i64 0] := fun g => ⟨rfl, (List.forall_mem_cons.2 ⟨(Zld _), (List.forall_mem_cons.2 ⟨(rfl), (fun _ h => by cases h)⟩)⟩)⟩
def Zw0 : List (Kd.FK Zcb) := [⟨_, Kd.bool, 0, fun x : Zcb => x.text⟩,
 ⟨_, Kd.bool, 1, fun x : Zcb => x.num⟩,
 ⟨_, Kd.bool, 2, fun x : Zcb => x.bounds⟩,
 ⟨_, Kd.bool, 3, fun x : Zcb => x.real⟩,
 ⟨_, Kd.bool, 4, fun x : Zcb => x.list⟩]
def Zc4 : Kd Zcb := Kd.struct 5 Zw0 (by rfl)
theorem Zrn : ∀ g, Zc4.K g (default : Zcb) [.bool false, .bool false, .bool false, .bool false, .bool false] := fun g => ⟨rfl, (List.forall_mem_cons.2 ⟨(rfl), (List.forall_mem_cons.2 ⟨(rfl), (List.forall_mem_cons.2 ⟨(rfl), (List.forall_mem_cons.2 ⟨(rfl), (List.forall_mem_cons.2 ⟨(rfl), (fun _ h => by cases h)⟩)⟩)⟩)⟩)⟩)⟩
def Zys : List (Kd.FK Zdd) := [⟨_, Kd.str, 0, fun x : Zdd => x.word⟩,
 ⟨_, (Kd.int .i64), 1, fun x : Zdd => x.on⟩,
 ⟨_, Kd.str, 2, fun x : Zdd => x.has⟩]
def Zej : Kd Zdd := Kd.struct 3 Zys (by rfl)
theorem Zsq : ∀ g, Zej.K g (default : Zdd) [.string ByteArray.empty, .int .i64 0, .string ByteArray.empty] := fun g => ⟨rfl, (List.forall_mem_cons.2 ⟨(rfl), (List.forall_mem_cons.2 ⟨(rfl), (List.forall_mem_cons.2 ⟨(rfl), (fun _ h => by cases h)⟩)⟩)⟩)⟩
def Z0u : List (Kd.FK Z3) := [⟨_, (Kd.int .i64), 0, fun x : Z3 => x.Kind⟩,
 ⟨_, Kd.str, 1, fun x : Z3 => x.Key⟩,
 ⟨_, (Kd.int .i64), 2, fun x : Z3 => x.N⟩,
 ⟨_, Kd.flt, 3, fun x : Z3 => x.X⟩,
 ⟨_, Kd.str, 4, fun x : Z3 => x.S⟩,
 ⟨_, Zi, 5, fun x : Z3 => x.Make⟩,
 ⟨_, Kd.bool, 13, fun x : Z3 => x.Must⟩]
def Zbe : Kd Z3 := Kd.struct 14 Z0u (by rfl)
theorem Zlw : ∀ g, Zbe.K g (default : Z3) [.int .i64 0, .string ByteArray.empty, .int .i64 0, .float .f64 0, .string ByteArray.empty, .int .i64 0, .int .i64 0, .int .i64 0, .int .i64 0, .float .f64 0, .int .i64 0, .string ByteArray.empty, .slice none 0 0, .bool false] := fun g => ⟨rfl, (List.forall_mem_cons.2 ⟨(rfl), (List.forall_mem_cons.2 ⟨(rfl), (List.forall_mem_cons.2 ⟨(rfl), (List.forall_mem_cons.2 ⟨(rfl), (List.forall_mem_cons.2 ⟨(rfl), (List.forall_mem_cons.2 ⟨(Zb9 _), (List.forall_mem_cons.2 ⟨(rfl), (fun _ h => by cases h)⟩)⟩)⟩)⟩)⟩)⟩)⟩)⟩
def Zwb : List (Kd.FK Zg) := [⟨_, (Kd.int .i64), 0, fun x : Zg => x.Code⟩,
 ⟨_, (Kd.int .i64), 1, fun x : Zg => x.Num⟩,
 ⟨_, Zi, 2, fun x : Zg => x.Rec⟩]
def Zm : Kd Zg := Kd.struct 10 Zwb (by rfl)
theorem Zcx : ∀ g, Zm.K g (default : Zg) [.int .i64 0, .int .i64 0, .int .i64 0, .int .i64 0, .int .i64 0, .int .i64 0, .float .f64 0, .int .i64 0, .string ByteArray.empty, .slice none 0 0] := fun g => ⟨rfl, (List.forall_mem_cons.2 ⟨(rfl), (List.forall_mem_cons.2 ⟨(rfl), (List.forall_mem_cons.2 ⟨(Zb9 _), (fun _ h => by cases h)⟩)⟩)⟩)⟩
def Zyy : List (Kd.FK Zb0) := [⟨_, Zbe.sl, 0, fun x : Zb0 => x.Acts⟩]
def Zcm : Kd Zb0 := Kd.struct 1 Zyy (by rfl)
theorem Zso : ∀ g, Zcm.K g (default : Zb0) [.slice none 0 0] := fun g => ⟨rfl, (List.forall_mem_cons.2 ⟨(⟨none, 0, rfl, Nat.le_refl _, Nat.zero_le _, .inl rfl⟩), (fun _ h => by cases h)⟩)⟩
def Zuk : List (Kd.FK Zdp) := [⟨_, (Kd.int .i64), 0, fun x : Zdp => x.code⟩,
 ⟨_, (Kd.int .i64), 1, fun x : Zdp => x.at_⟩]
def Zfm : Kd Zdp := Kd.struct 2 Zuk (by rfl)
theorem Zt7 : ∀ g, Zfm.K g (default : Zdp) [.int .i64 0, .int .i64 0] := fun g => ⟨rfl, (List.forall_mem_cons.2 ⟨(rfl), (List.forall_mem_cons.2 ⟨(rfl), (fun _ h => by cases h)⟩)⟩)⟩
def Zwd : List (Kd.FK Zt) := [⟨_, (Kd.int .i64), 0, fun x : Zt => x.Code⟩,
 ⟨_, (Kd.int .i64), 1, fun x : Zt => x.At⟩,
 ⟨_, Zm.sl, 2, fun x : Zt => x.Answers⟩]
def Zbk : Kd Zt := Kd.struct 3 Zwd (by rfl)
theorem Zkd : ∀ g, Zbk.K g (default : Zt) [.int .i64 0, .int .i64 0, .slice none 0 0] := fun g => ⟨rfl, (List.forall_mem_cons.2 ⟨(rfl), (List.forall_mem_cons.2 ⟨(rfl), (List.forall_mem_cons.2 ⟨(⟨none, 0, rfl, Nat.le_refl _, Nat.zero_le _, .inl rfl⟩), (fun _ h => by cases h)⟩)⟩)⟩)⟩
def Zqj : List (Kd.FK Z9) := [⟨_, Kd.str, 0, fun x : Z9 => x.Key⟩,
 ⟨_, Zi, 1, fun x : Z9 => x.Rec⟩]
def Zb1 : Kd Z9 := Kd.struct 9 Zqj (by rfl)
theorem Zmd : ∀ g, Zb1.K g (default : Z9) [.string ByteArray.empty, .int .i64 0, .int .i64 0, .int .i64 0, .int .i64 0, .float .f64 0, .int .i64 0, .string ByteArray.empty, .slice none 0 0] := fun g => ⟨rfl, (List.forall_mem_cons.2 ⟨(rfl), (List.forall_mem_cons.2 ⟨(Zb9 _), (fun _ h => by cases h)⟩)⟩)⟩
def Zpr : List (Kd.FK Zj) := [⟨_, Zb1.sl, 0, fun x : Zj => x.L⟩,
 ⟨_, (Kd.int .i64), 1, fun x : Zj => x.Room⟩]
def Z6 : Kd Zj := Kd.struct 2 Zpr (by rfl)
theorem Zez : ∀ g, Z6.K g (default : Zj) [.slice none 0 0, .int .i64 0] := fun g => ⟨rfl, (List.forall_mem_cons.2 ⟨(⟨none, 0, rfl, Nat.le_refl _, Nat.zero_le _, .inl rfl⟩), (List.forall_mem_cons.2 ⟨(rfl), (fun _ h => by cases h)⟩)⟩)⟩
def Zxy : Zdd → List Value := fun x => [.string x.word, .int .i64 x.on, .string x.has]
theorem gm_0 : (0, g_0.flatMap Zxy) ∈ GL := List.mem_of_getElem? (i := 0) rfl
theorem gk_0 : ∀ g, (Kd.arr 22 Zej).K g g_0 (g_0.flatMap Zxy) := fun g => Z9w (dk := Zej) (enc := Zxy) (fun g x => ⟨rfl, (List.forall_mem_cons.2 ⟨rfl, (List.forall_mem_cons.2 ⟨rfl, (List.forall_mem_cons.2 ⟨rfl, (fun _ h => by cases h)⟩)⟩)⟩)⟩) g g_0
theorem Z4i : Fld Tryz.prog 112 4 Zgq (Kd.int .i64) (fun x : shelf_node => x.size) := Fld.of ⟨_, (Kd.int .i64), 11, fun x : shelf_node => x.size⟩ (List.mem_of_getElem? (i := 4) rfl) 11 rfl (by kernel_rfl) (by decide)
theorem ty_3 : Ty Tryz.prog 3 (Kd.int .i64) := ⟨by kernel_rfl, by kernel_rfl⟩
theorem Zo0 : Fld Tryz.prog 27 0 Z0 Z7 (fun x : Zo => x.top) := Fld.of ⟨_, Z7, 0, fun x : Zo => x.top⟩ (List.mem_of_getElem? (i := 0) rfl) 0 rfl (by kernel_rfl) (by decide)
theorem Zc5 : Ty Tryz.prog 25 Z7 := ⟨by kernel_rfl, by kernel_rfl⟩
theorem Zmv : Zp Tryz.prog 47 := by
 unfold Zp
 kernel_rfl
theorem Zdb : TE Tryz.prog 62 105 Zy 24 := TE.of Tryz.underlying62 (by kernel_rfl) (by decide) (by decide)
theorem Zca : Fld Tryz.prog 64 7 Zi Zy.sl (fun x : Ze => x.List) := Fld.of ⟨_, Zy.sl, 7, fun x : Ze => x.List⟩ (List.mem_of_getElem? (i := 7) rfl) 7 rfl (by kernel_rfl) (by decide)
theorem Zc1 : Ty Tryz.prog 62 Zy.sl := ⟨by kernel_rfl, by kernel_rfl⟩
theorem Zwk : Zp Tryz.prog 78 := by
 unfold Zp
 kernel_rfl
theorem Zlq {c : Option Nat} {N j s : Nat} {o : Oper} {uses : Zbh} {x z : Operand} {v : Ze} {y0 y : List Zl} {v0 : Ze} {t : Nat} (hT : Ty Tryz.prog t Zy.sl) (hop : o.op = .store t x z) (hd : o.dst = none) (hs : Opd uses (.tmp s) (Zby c Zi j v)) (hx : Opd uses x (Zji Zi j v0 7 Zy.sl y0)) (hz : Opd uses z (Zy.sl.pd y)) : OB Tryz.prog N o uses [(s, Zby c Zi j { v with List := y })] [j + 1] :=
 Zks hT hop hd hs hx hz fun g cs ys hk hy => by
   have hc : cs.length = 8 := hk.1
   have hl : ys.length = 1 := Zy.sl.len hy
   exact ⟨by omega, (Zf4 (by omega)).trans hc, (List.forall_mem_cons.2 ⟨(by show (Kd.int .i64).K g v.Kind (seg (Zbn cs 7 ys) 0 1); rw [Zbs (by omega) (by omega)]; exact hk.2 _ (List.mem_of_getElem? (i := 0) rfl)), (List.forall_mem_cons.2 ⟨(by show (Kd.int .i64).K g v.Num (seg (Zbn cs 7 ys) 1 1); rw [Zbs (by omega) (by omega)]; exact hk.2 _ (List.mem_of_getElem? (i := 1) rfl)), (List.forall_mem_cons.2 ⟨(by show (Kd.int .i64).K g v.Low (seg (Zbn cs 7 ys) 2 1); rw [Zbs (by omega) (by omega)]; exact hk.2 _ (List.mem_of_getElem? (i := 2) rfl)), (List.forall_mem_cons.2 ⟨(by show (Kd.int .i64).K g v.High (seg (Zbn cs 7 ys) 3 1); rw [Zbs (by omega) (by omega)]; exact hk.2 _ (List.mem_of_getElem? (i := 3) rfl)), (List.forall_mem_cons.2 ⟨(by show Kd.flt.K g v.Real (seg (Zbn cs 7 ys) 4 1); rw [Zbs (by omega) (by omega)]; exact hk.2 _ (List.mem_of_getElem? (i := 4) rfl)), (List.forall_mem_cons.2 ⟨(by show (Kd.int .i64).K g v.Cap (seg (Zbn cs 7 ys) 5 1); rw [Zbs (by omega) (by omega)]; exact hk.2 _ (List.mem_of_getElem? (i := 5) rfl)), (List.forall_mem_cons.2 ⟨(by show Kd.str.K g v.Text (seg (Zbn cs 7 ys) 6 1); rw [Zbs (by omega) (by omega)]; exact hk.2 _ (List.mem_of_getElem? (i := 6) rfl)), (List.forall_mem_cons.2 ⟨(by show Zy.sl.K g y (seg (Zbn cs 7 ys) 7 1); rw [Zgp (by omega) hl]; exact hy), (fun _ h => by cases h)⟩)⟩)⟩)⟩)⟩)⟩)⟩)⟩)⟩
theorem Zbb : Ty Tryz.prog 64 Zi := ⟨by kernel_rfl, by kernel_rfl⟩
theorem Ze0 : Fld Tryz.prog 112 0 Zgq Kd.str (fun x : shelf_node => x.key) := Fld.of ⟨_, Kd.str, 0, fun x : shelf_node => x.key⟩ (List.mem_of_getElem? (i := 0) rfl) 0 rfl (by kernel_rfl) (by decide)
theorem ty_9 : Ty Tryz.prog 9 Kd.str := ⟨by kernel_rfl, by kernel_rfl⟩
theorem Zea : Fld Tryz.prog 112 2 Zgq Z7 (fun x : shelf_node => x.left) := Fld.of ⟨_, Z7, 9, fun x : shelf_node => x.left⟩ (List.mem_of_getElem? (i := 2) rfl) 9 rfl (by kernel_rfl) (by decide)
theorem Zey : Fld Tryz.prog 112 3 Zgq Z7 (fun x : shelf_node => x.right) := Fld.of ⟨_, Z7, 10, fun x : shelf_node => x.right⟩ (List.mem_of_getElem? (i := 3) rfl) 10 rfl (by kernel_rfl) (by decide)
theorem Zg4 : Fld Tryz.prog 112 1 Zgq Zi (fun x : shelf_node => x.rec_) := Fld.of ⟨_, Zi, 1, fun x : shelf_node => x.rec_⟩ (List.mem_of_getElem? (i := 1) rfl) 1 rfl (by kernel_rfl) (by decide)
theorem Zok : Zp Tryz.prog 50 := by
 unfold Zp
 kernel_rfl
theorem Zma {N d : Nat} {o : Oper} {uses : Zbh}   (hop : o.op = .build 64 #[]) (hd : o.dst = some d)  : OB Tryz.prog N o uses [(d, Zi.pd { Kind := (0 : Int), Num := (0 : Int), Low := (0 : Int), High := (0 : Int), Real := (0 : Nat), Cap := (0 : Int), Text := ByteArray.empty, List := ([] : List Zl) })] [] := by
 refine Zc3 hop hd fun a g hh => ?_
 refine ⟨.agg #[.int .i64 0, .int .i64 0, .int .i64 0, .int .i64 0, .float .f64 0, .int .i64 0, .string ByteArray.empty, .slice none 0 0], ?_, [.int .i64 0, .int .i64 0, .int .i64 0, .int .i64 0, .float .f64 0, .int .i64 0, .string ByteArray.empty, .slice none 0 0], ⟨rfl, (List.forall_mem_cons.2 ⟨(rfl), (List.forall_mem_cons.2 ⟨(rfl), (List.forall_mem_cons.2 ⟨(rfl), (List.forall_mem_cons.2 ⟨(rfl), (List.forall_mem_cons.2 ⟨(rfl), (List.forall_mem_cons.2 ⟨(rfl), (List.forall_mem_cons.2 ⟨(rfl), (List.forall_mem_cons.2 ⟨(⟨none, 0, rfl, Nat.le_refl _, Nat.zero_le _, .inl rfl⟩), (fun _ h => by cases h)⟩)⟩)⟩)⟩)⟩)⟩)⟩)⟩)⟩, rfl⟩
 simp only [List.map_toArray, List.map_cons, List.map_nil, List.map_nil]
 exact Zcr Tryz.underlying64 (zero := .agg #[.int .i64 0, .int .i64 0, .int .i64 0, .int .i64 0, .float .f64 0, .int .i64 0, .string ByteArray.empty, .slice none 0 0]) (by kernel_rfl) (places := [(0, 1), (1, 1), (2, 1), (3, 1), (4, 1), (5, 1), (6, 1), (7, 1)]) (by kernel_rfl) (by kernel_rfl) g.w
theorem Z3r {N d : Nat} {o : Oper} {uses : Zbh} {x0 : Operand} {v0 : Bool} (hop : o.op = .build 132 #[(0, x0)]) (hd : o.dst = some d) (h0 : Opd uses x0 (Kd.bool.pd v0)) : OB Tryz.prog N o uses [(d, Zc4.pd { text := v0, num := false, bounds := false, real := false, list := false })] [] := by
 refine Zc3 hop hd fun a g hh => ?_
 obtain ⟨c0, k0, e0⟩ := h0 a g hh
 obtain rfl := k0
 refine ⟨.agg #[.bool v0, .bool false, .bool false, .bool false, .bool false], ?_, [.bool v0, .bool false, .bool false, .bool false, .bool false], ⟨rfl, (List.forall_mem_cons.2 ⟨rfl, (List.forall_mem_cons.2 ⟨(rfl), (List.forall_mem_cons.2 ⟨(rfl), (List.forall_mem_cons.2 ⟨(rfl), (List.forall_mem_cons.2 ⟨(rfl), (fun _ h => by cases h)⟩)⟩)⟩)⟩)⟩)⟩, rfl⟩
 simp only [List.map_toArray, List.map_cons, List.map_nil, e0]
 exact Zcr Tryz.underlying132 (zero := .agg #[.bool false, .bool false, .bool false, .bool false, .bool false]) (by kernel_rfl) (places := [(0, 1), (1, 1), (2, 1), (3, 1), (4, 1)]) (by kernel_rfl) (by kernel_rfl) g.w
theorem Ziu : Ty Tryz.prog 132 Zc4 := ⟨by kernel_rfl, by kernel_rfl⟩
theorem Z4j {N d : Nat} {o : Oper} {uses : Zbh} {x1 : Operand} {v1 : Bool} (hop : o.op = .build 132 #[(1, x1)]) (hd : o.dst = some d) (h1 : Opd uses x1 (Kd.bool.pd v1)) : OB Tryz.prog N o uses [(d, Zc4.pd { text := false, num := v1, bounds := false, real := false, list := false })] [] := by
 refine Zc3 hop hd fun a g hh => ?_
 obtain ⟨c1, k1, e1⟩ := h1 a g hh
 obtain rfl := k1
 refine ⟨.agg #[.bool false, .bool v1, .bool false, .bool false, .bool false], ?_, [.bool false, .bool v1, .bool false, .bool false, .bool false], ⟨rfl, (List.forall_mem_cons.2 ⟨(rfl), (List.forall_mem_cons.2 ⟨rfl, (List.forall_mem_cons.2 ⟨(rfl), (List.forall_mem_cons.2 ⟨(rfl), (List.forall_mem_cons.2 ⟨(rfl), (fun _ h => by cases h)⟩)⟩)⟩)⟩)⟩)⟩, rfl⟩
 simp only [List.map_toArray, List.map_cons, List.map_nil, e1]
 exact Zcr Tryz.underlying132 (zero := .agg #[.bool false, .bool false, .bool false, .bool false, .bool false]) (by kernel_rfl) (places := [(0, 1), (1, 1), (2, 1), (3, 1), (4, 1)]) (by kernel_rfl) (by kernel_rfl) g.w
theorem Z09 {N d : Nat} {o : Oper} {uses : Zbh} {x1 : Operand} {x2 : Operand} {v1 : Bool} {v2 : Bool} (hop : o.op = .build 132 #[(1, x1), (2, x2)]) (hd : o.dst = some d) (h1 : Opd uses x1 (Kd.bool.pd v1)) (h2 : Opd uses x2 (Kd.bool.pd v2)) : OB Tryz.prog N o uses [(d, Zc4.pd { text := false, num := v1, bounds := v2, real := false, list := false })] [] := by
 refine Zc3 hop hd fun a g hh => ?_
 obtain ⟨c1, k1, e1⟩ := h1 a g hh
 obtain rfl := k1
 obtain ⟨c2, k2, e2⟩ := h2 a g hh
 obtain rfl := k2
 refine ⟨.agg #[.bool false, .bool v1, .bool v2, .bool false, .bool false], ?_, [.bool false, .bool v1, .bool v2, .bool false, .bool false], ⟨rfl, (List.forall_mem_cons.2 ⟨(rfl), (List.forall_mem_cons.2 ⟨rfl, (List.forall_mem_cons.2 ⟨rfl, (List.forall_mem_cons.2 ⟨(rfl), (List.forall_mem_cons.2 ⟨(rfl), (fun _ h => by cases h)⟩)⟩)⟩)⟩)⟩)⟩, rfl⟩
 simp only [List.map_toArray, List.map_cons, List.map_nil, e1, e2]
 exact Zcr Tryz.underlying132 (zero := .agg #[.bool false, .bool false, .bool false, .bool false, .bool false]) (by kernel_rfl) (places := [(0, 1), (1, 1), (2, 1), (3, 1), (4, 1)]) (by kernel_rfl) (by kernel_rfl) g.w
theorem Z4o {N d : Nat} {o : Oper} {uses : Zbh} {x3 : Operand} {v3 : Bool} (hop : o.op = .build 132 #[(3, x3)]) (hd : o.dst = some d) (h3 : Opd uses x3 (Kd.bool.pd v3)) : OB Tryz.prog N o uses [(d, Zc4.pd { text := false, num := false, bounds := false, real := v3, list := false })] [] := by
 refine Zc3 hop hd fun a g hh => ?_
 obtain ⟨c3, k3, e3⟩ := h3 a g hh
 obtain rfl := k3
 refine ⟨.agg #[.bool false, .bool false, .bool false, .bool v3, .bool false], ?_, [.bool false, .bool false, .bool false, .bool v3, .bool false], ⟨rfl, (List.forall_mem_cons.2 ⟨(rfl), (List.forall_mem_cons.2 ⟨(rfl), (List.forall_mem_cons.2 ⟨(rfl), (List.forall_mem_cons.2 ⟨rfl, (List.forall_mem_cons.2 ⟨(rfl), (fun _ h => by cases h)⟩)⟩)⟩)⟩)⟩)⟩, rfl⟩
 simp only [List.map_toArray, List.map_cons, List.map_nil, e3]
 exact Zcr Tryz.underlying132 (zero := .agg #[.bool false, .bool false, .bool false, .bool false, .bool false]) (by kernel_rfl) (places := [(0, 1), (1, 1), (2, 1), (3, 1), (4, 1)]) (by kernel_rfl) (by kernel_rfl) g.w
theorem Z3t {N d : Nat} {o : Oper} {uses : Zbh} {x4 : Operand} {v4 : Bool} (hop : o.op = .build 132 #[(4, x4)]) (hd : o.dst = some d) (h4 : Opd uses x4 (Kd.bool.pd v4)) : OB Tryz.prog N o uses [(d, Zc4.pd { text := false, num := false, bounds := false, real := false, list := v4 })] [] := by
 refine Zc3 hop hd fun a g hh => ?_
 obtain ⟨c4, k4, e4⟩ := h4 a g hh
 obtain rfl := k4
 refine ⟨.agg #[.bool false, .bool false, .bool false, .bool false, .bool v4], ?_, [.bool false, .bool false, .bool false, .bool false, .bool v4], ⟨rfl, (List.forall_mem_cons.2 ⟨(rfl), (List.forall_mem_cons.2 ⟨(rfl), (List.forall_mem_cons.2 ⟨(rfl), (List.forall_mem_cons.2 ⟨(rfl), (List.forall_mem_cons.2 ⟨rfl, (fun _ h => by cases h)⟩)⟩)⟩)⟩)⟩)⟩, rfl⟩
 simp only [List.map_toArray, List.map_cons, List.map_nil, e4]
 exact Zcr Tryz.underlying132 (zero := .agg #[.bool false, .bool false, .bool false, .bool false, .bool false]) (by kernel_rfl) (places := [(0, 1), (1, 1), (2, 1), (3, 1), (4, 1)]) (by kernel_rfl) (by kernel_rfl) g.w
theorem Z5s {N d : Nat} {o : Oper} {uses : Zbh}   (hop : o.op = .build 132 #[]) (hd : o.dst = some d)  : OB Tryz.prog N o uses [(d, Zc4.pd { text := false, num := false, bounds := false, real := false, list := false })] [] := by
 refine Zc3 hop hd fun a g hh => ?_
 refine ⟨.agg #[.bool false, .bool false, .bool false, .bool false, .bool false], ?_, [.bool false, .bool false, .bool false, .bool false, .bool false], ⟨rfl, (List.forall_mem_cons.2 ⟨(rfl), (List.forall_mem_cons.2 ⟨(rfl), (List.forall_mem_cons.2 ⟨(rfl), (List.forall_mem_cons.2 ⟨(rfl), (List.forall_mem_cons.2 ⟨(rfl), (fun _ h => by cases h)⟩)⟩)⟩)⟩)⟩)⟩, rfl⟩
 simp only [List.map_toArray, List.map_cons, List.map_nil, List.map_nil]
 exact Zcr Tryz.underlying132 (zero := .agg #[.bool false, .bool false, .bool false, .bool false, .bool false]) (by kernel_rfl) (places := [(0, 1), (1, 1), (2, 1), (3, 1), (4, 1)]) (by kernel_rfl) (by kernel_rfl) g.w
theorem Zw6 : Ext Tryz.prog 140 Extern.MathFloatBits.float64frombits := ⟨_, Tryz.func140, rfl, rfl, by kernel_rfl, by kernel_rfl⟩
theorem Z7k : Zp Tryz.prog 139 := by
 unfold Zp
 kernel_rfl
theorem Zm4 : Zp Tryz.prog 116 := by
 unfold Zp
 kernel_rfl
theorem Zqp : Ext Tryz.prog 115 Extern.MathFloatBits.float64bits := ⟨_, Tryz.func115, rfl, rfl, by kernel_rfl, by kernel_rfl⟩
theorem Zwp : Zp Tryz.prog 91 := by
 unfold Zp
 kernel_rfl
theorem Z4f : Fld Tryz.prog 132 0 Zc4 Kd.bool (fun x : Zcb => x.text) := Fld.of ⟨_, Kd.bool, 0, fun x : Zcb => x.text⟩ (List.mem_of_getElem? (i := 0) rfl) 0 rfl (by kernel_rfl) (by decide)
theorem ty_4 : Ty Tryz.prog 4 Kd.bool := ⟨by kernel_rfl, by kernel_rfl⟩
theorem Zia : Fld Tryz.prog 64 6 Zi Kd.str (fun x : Ze => x.Text) := Fld.of ⟨_, Kd.str, 6, fun x : Ze => x.Text⟩ (List.mem_of_getElem? (i := 6) rfl) 6 rfl (by kernel_rfl) (by decide)
theorem Z3z : Fld Tryz.prog 132 1 Zc4 Kd.bool (fun x : Zcb => x.num) := Fld.of ⟨_, Kd.bool, 1, fun x : Zcb => x.num⟩ (List.mem_of_getElem? (i := 1) rfl) 1 rfl (by kernel_rfl) (by decide)
theorem Zcs : Fld Tryz.prog 64 1 Zi (Kd.int .i64) (fun x : Ze => x.Num) := Fld.of ⟨_, (Kd.int .i64), 1, fun x : Ze => x.Num⟩ (List.mem_of_getElem? (i := 1) rfl) 1 rfl (by kernel_rfl) (by decide)
theorem ty_2 : Ty Tryz.prog 2 (Kd.int .i64) := ⟨by kernel_rfl, by kernel_rfl⟩
theorem Zyk : Fld Tryz.prog 132 2 Zc4 Kd.bool (fun x : Zcb => x.bounds) := Fld.of ⟨_, Kd.bool, 2, fun x : Zcb => x.bounds⟩ (List.mem_of_getElem? (i := 2) rfl) 2 rfl (by kernel_rfl) (by decide)
theorem Ziq : Fld Tryz.prog 64 2 Zi (Kd.int .i64) (fun x : Ze => x.Low) := Fld.of ⟨_, (Kd.int .i64), 2, fun x : Ze => x.Low⟩ (List.mem_of_getElem? (i := 2) rfl) 2 rfl (by kernel_rfl) (by decide)
theorem Zip : Fld Tryz.prog 64 3 Zi (Kd.int .i64) (fun x : Ze => x.High) := Fld.of ⟨_, (Kd.int .i64), 3, fun x : Ze => x.High⟩ (List.mem_of_getElem? (i := 3) rfl) 3 rfl (by kernel_rfl) (by decide)
theorem Z39 : Fld Tryz.prog 132 3 Zc4 Kd.bool (fun x : Zcb => x.real) := Fld.of ⟨_, Kd.bool, 3, fun x : Zcb => x.real⟩ (List.mem_of_getElem? (i := 3) rfl) 3 rfl (by kernel_rfl) (by decide)
theorem Zfj : Fld Tryz.prog 64 4 Zi Kd.flt (fun x : Ze => x.Real) := Fld.of ⟨_, Kd.flt, 4, fun x : Ze => x.Real⟩ (List.mem_of_getElem? (i := 4) rfl) 4 rfl (by kernel_rfl) (by decide)
theorem Zcv : Ty Tryz.prog 61 Kd.flt := ⟨by kernel_rfl, by kernel_rfl⟩
theorem Zr1 : Zp Tryz.prog 64 := by
 unfold Zp
 kernel_rfl
theorem Zx8 : Fld Tryz.prog 132 4 Zc4 Kd.bool (fun x : Zcb => x.list) := Fld.of ⟨_, Kd.bool, 4, fun x : Zcb => x.list⟩ (List.mem_of_getElem? (i := 4) rfl) 4 rfl (by kernel_rfl) (by decide)
theorem Zf9 : Fld Tryz.prog 64 5 Zi (Kd.int .i64) (fun x : Ze => x.Cap) := Fld.of ⟨_, (Kd.int .i64), 5, fun x : Ze => x.Cap⟩ (List.mem_of_getElem? (i := 5) rfl) 5 rfl (by kernel_rfl) (by decide)
theorem Ze8 : Fld Tryz.prog 105 0 Zy Kd.flt (fun x : Zl => x.Score) := Fld.of ⟨_, Kd.flt, 0, fun x : Zl => x.Score⟩ (List.mem_of_getElem? (i := 0) rfl) 0 rfl (by kernel_rfl) (by decide)
theorem Zxh : Zp Tryz.prog 135 := by
 unfold Zp
 kernel_rfl
theorem Zdo : Fld Tryz.prog 105 1 Zy Kd.str (fun x : Zl => x.Name) := Fld.of ⟨_, Kd.str, 1, fun x : Zl => x.Name⟩ (List.mem_of_getElem? (i := 1) rfl) 1 rfl (by kernel_rfl) (by decide)
theorem Zeq : (Tryz.prog.info? 105).map (·.size) = some Zy.sz := by kernel_rfl
theorem Zdt : Ty Tryz.prog 105 Zy := ⟨by kernel_rfl, by kernel_rfl⟩
theorem Z0s : Zp Tryz.prog 74 := by
 unfold Zp
 kernel_rfl
theorem Zx6 : Zp Tryz.prog 117 := by
 unfold Zp
 kernel_rfl
theorem Zfq : Fld Tryz.prog 64 0 Zi (Kd.int .i64) (fun x : Ze => x.Kind) := Fld.of ⟨_, (Kd.int .i64), 0, fun x : Ze => x.Kind⟩ (List.mem_of_getElem? (i := 0) rfl) 0 rfl (by kernel_rfl) (by decide)
theorem Z85 : Zp Tryz.prog 72 := by
 unfold Zp
 kernel_rfl
theorem Z9p : Zp Tryz.prog 73 := by
 unfold Zp
 kernel_rfl
theorem Z9h : Zp Tryz.prog 75 := by
 unfold Zp
 kernel_rfl
theorem Zs4 {N d : Nat} {o : Oper} {uses : Zbh} {x0 : Operand} {x1 : Operand} {x2 : Operand} {x3 : Operand} {x4 : Operand} {v0 : ByteArray} {v1 : Ze} {v2 : shelf_nodeT} {v3 : shelf_nodeT} {v4 : Int} (hop : o.op = .build 112 #[(0, x0), (1, x1), (2, x2), (3, x3), (4, x4)]) (hd : o.dst = some d) (h0 : Opd uses x0 (Kd.str.pd v0)) (h1 : Opd uses x1 (Zi.pd v1)) (h2 : Opd uses x2 (Z7.pd v2)) (h3 : Opd uses x3 (Z7.pd v3)) (h4 : Opd uses x4 ((Kd.int .i64).pd v4)) : OB Tryz.prog N o uses [(d, Zgq.pd { key := v0, rec_ := v1, left := v2, right := v3, size := v4 })] [] := by
 refine Zc3 hop hd fun a g hh => ?_
 obtain ⟨c0, k0, e0⟩ := h0 a g hh
 obtain rfl := k0
 obtain ⟨c1, k1, e1⟩ := h1 a g hh
 obtain ⟨u1_0, u1_1, u1_2, u1_3, u1_4, u1_5, u1_6, u1_7, rfl⟩ := Zwv (Zi.len k1)
 obtain ⟨c2, k2, e2⟩ := h2 a g hh
 obtain ⟨p2, rfl, l2⟩ := k2
 obtain ⟨q2, rfl, _⟩ := shelf_nodeT.ptr l2
 obtain ⟨c3, k3, e3⟩ := h3 a g hh
 obtain ⟨p3, rfl, l3⟩ := k3
 obtain ⟨q3, rfl, _⟩ := shelf_nodeT.ptr l3
 obtain ⟨c4, k4, e4⟩ := h4 a g hh
 obtain rfl := k4
 refine ⟨.agg #[.string v0, u1_0, u1_1, u1_2, u1_3, u1_4, u1_5, u1_6, u1_7, .pointer q2, .pointer q3, .int .i64 v4], ?_, [.string v0, u1_0, u1_1, u1_2, u1_3, u1_4, u1_5, u1_6, u1_7, .pointer q2, .pointer q3, .int .i64 v4], ⟨rfl, (List.forall_mem_cons.2 ⟨rfl, (List.forall_mem_cons.2 ⟨k1, (List.forall_mem_cons.2 ⟨⟨.pointer q2, rfl, l2⟩, (List.forall_mem_cons.2 ⟨⟨.pointer q3, rfl, l3⟩, (List.forall_mem_cons.2 ⟨rfl, (fun _ h => by cases h)⟩)⟩)⟩)⟩)⟩)⟩, rfl⟩
 simp only [List.map_toArray, List.map_cons, List.map_nil, e0, e1, e2, e3, e4]
 exact Zcr Tryz.underlying112 (zero := .agg #[.string ByteArray.empty, .int .i64 0, .int .i64 0, .int .i64 0, .int .i64 0, .float .f64 0, .int .i64 0, .string ByteArray.empty, .slice none 0 0, .pointer none, .pointer none, .int .i64 0]) (by kernel_rfl) (places := [(0, 1), (1, 8), (9, 1), (10, 1), (11, 1)]) (by kernel_rfl) (by kernel_rfl) g.w
theorem Ztt : Zp Tryz.prog 118 := by
 unfold Zp
 kernel_rfl
theorem Zk6 : Zp Tryz.prog 76 := by
 unfold Zp
 kernel_rfl
theorem Z0o : Zp Tryz.prog 49 := by
 unfold Zp
 kernel_rfl
theorem Zto : Zp Tryz.prog 77 := by
 unfold Zp
 kernel_rfl
theorem Zbv : Ty Tryz.prog 27 Z0 := ⟨by kernel_rfl, by kernel_rfl⟩
theorem Z05 : Zp Tryz.prog 48 := by
 unfold Zp
 kernel_rfl
theorem Z0i : Zp Tryz.prog 43 := by
 unfold Zp
 kernel_rfl
theorem Zwm : Zp Tryz.prog 22 := by
 unfold Zp
 kernel_rfl
theorem Zrv : Fld Tryz.prog 27 1 Z0 (Kd.int .i64) (fun x : Zo => x.room) := Fld.of ⟨_, (Kd.int .i64), 1, fun x : Zo => x.room⟩ (List.mem_of_getElem? (i := 1) rfl) 1 rfl (by kernel_rfl) (by decide)
theorem Zvl {N d : Nat} {o : Oper} {uses : Zbh} {x0 : Operand} {x1 : Operand} {v0 : shelf_nodeT} {v1 : Int} (hop : o.op = .build 27 #[(0, x0), (1, x1)]) (hd : o.dst = some d) (h0 : Opd uses x0 (Z7.pd v0)) (h1 : Opd uses x1 ((Kd.int .i64).pd v1)) : OB Tryz.prog N o uses [(d, Z0.pd { top := v0, room := v1 })] [] := by
 refine Zc3 hop hd fun a g hh => ?_
 obtain ⟨c0, k0, e0⟩ := h0 a g hh
 obtain ⟨p0, rfl, l0⟩ := k0
 obtain ⟨q0, rfl, _⟩ := shelf_nodeT.ptr l0
 obtain ⟨c1, k1, e1⟩ := h1 a g hh
 obtain rfl := k1
 refine ⟨.agg #[.pointer q0, .int .i64 v1], ?_, [.pointer q0, .int .i64 v1], ⟨rfl, (List.forall_mem_cons.2 ⟨⟨.pointer q0, rfl, l0⟩, (List.forall_mem_cons.2 ⟨rfl, (fun _ h => by cases h)⟩)⟩)⟩, rfl⟩
 simp only [List.map_toArray, List.map_cons, List.map_nil, e0, e1]
 exact Zcr Tryz.underlying27 (zero := .agg #[.pointer none, .int .i64 0]) (by kernel_rfl) (places := [(0, 1), (1, 1)]) (by kernel_rfl) (by kernel_rfl) g.w
theorem Z6i {N d : Nat} {o : Oper} {uses : Zbh}   (hop : o.op = .build 150 #[]) (hd : o.dst = some d)  : OB Tryz.prog N o uses [(d, Zej.pd { word := ByteArray.empty, on := (0 : Int), has := ByteArray.empty })] [] := by
 refine Zc3 hop hd fun a g hh => ?_
 refine ⟨.agg #[.string ByteArray.empty, .int .i64 0, .string ByteArray.empty], ?_, [.string ByteArray.empty, .int .i64 0, .string ByteArray.empty], ⟨rfl, (List.forall_mem_cons.2 ⟨(rfl), (List.forall_mem_cons.2 ⟨(rfl), (List.forall_mem_cons.2 ⟨(rfl), (fun _ h => by cases h)⟩)⟩)⟩)⟩, rfl⟩
 simp only [List.map_toArray, List.map_cons, List.map_nil, List.map_nil]
 exact Zcr Tryz.underlying150 (zero := .agg #[.string ByteArray.empty, .int .i64 0, .string ByteArray.empty]) (by kernel_rfl) (places := [(0, 1), (1, 1), (2, 1)]) (by kernel_rfl) (by kernel_rfl) g.w
theorem Zkc : Ty Tryz.prog 150 Zej := ⟨by kernel_rfl, by kernel_rfl⟩
theorem Z7s : (Tryz.prog.info? 150).map (·.size) = some Zej.sz := by kernel_rfl
theorem Z9l : Zp Tryz.prog 66 := by
 unfold Zp
 kernel_rfl
theorem Zbak : Zp Tryz.prog 65 := by
 unfold Zp
 kernel_rfl
theorem Zxc : Fld Tryz.prog 150 2 Zej Kd.str (fun x : Zdd => x.has) := Fld.of ⟨_, Kd.str, 2, fun x : Zdd => x.has⟩ (List.mem_of_getElem? (i := 2) rfl) 2 rfl (by kernel_rfl) (by decide)
theorem Ztv : Zp Tryz.prog 133 := by
 unfold Zp
 kernel_rfl
theorem Zdv : Fld Tryz.prog 66 2 Zbe (Kd.int .i64) (fun x : Z3 => x.N) := Fld.of ⟨_, (Kd.int .i64), 2, fun x : Z3 => x.N⟩ (List.mem_of_getElem? (i := 2) rfl) 2 rfl (by kernel_rfl) (by decide)
theorem Zin : Fld Tryz.prog 66 3 Zbe Kd.flt (fun x : Z3 => x.X) := Fld.of ⟨_, Kd.flt, 3, fun x : Z3 => x.X⟩ (List.mem_of_getElem? (i := 3) rfl) 3 rfl (by kernel_rfl) (by decide)
theorem Zfc : Fld Tryz.prog 66 4 Zbe Kd.str (fun x : Z3 => x.S) := Fld.of ⟨_, Kd.str, 4, fun x : Z3 => x.S⟩ (List.mem_of_getElem? (i := 4) rfl) 4 rfl (by kernel_rfl) (by decide)
theorem Zmm : Fld Tryz.prog 66 5 Zbe Zi (fun x : Z3 => x.Make) := Fld.of ⟨_, Zi, 5, fun x : Z3 => x.Make⟩ (List.mem_of_getElem? (i := 5) rfl) 5 rfl (by kernel_rfl) (by decide)
theorem Z5f : Zp Tryz.prog 37 := by
 unfold Zp
 kernel_rfl
theorem Zw9 : Fld Tryz.prog 150 1 Zej (Kd.int .i64) (fun x : Zdd => x.on) := Fld.of ⟨_, (Kd.int .i64), 1, fun x : Zdd => x.on⟩ (List.mem_of_getElem? (i := 1) rfl) 1 rfl (by kernel_rfl) (by decide)
theorem Zdc : Fld Tryz.prog 66 0 Zbe (Kd.int .i64) (fun x : Z3 => x.Kind) := Fld.of ⟨_, (Kd.int .i64), 0, fun x : Z3 => x.Kind⟩ (List.mem_of_getElem? (i := 0) rfl) 0 rfl (by kernel_rfl) (by decide)
theorem Z4w : Zp Tryz.prog 92 := by
 unfold Zp
 kernel_rfl
theorem Z4n : Fld Tryz.prog 150 0 Zej Kd.str (fun x : Zdd => x.word) := Fld.of ⟨_, Kd.str, 0, fun x : Zdd => x.word⟩ (List.mem_of_getElem? (i := 0) rfl) 0 rfl (by kernel_rfl) (by decide)
theorem Zjn : Fld Tryz.prog 66 1 Zbe Kd.str (fun x : Z3 => x.Key) := Fld.of ⟨_, Kd.str, 1, fun x : Z3 => x.Key⟩ (List.mem_of_getElem? (i := 1) rfl) 1 rfl (by kernel_rfl) (by decide)
theorem Zfl : Ty Tryz.prog 66 Zbe := ⟨by kernel_rfl, by kernel_rfl⟩
theorem Z93 : Zp Tryz.prog 93 := by
 unfold Zp
 kernel_rfl
theorem Z95 : Zp Tryz.prog 94 := by
 unfold Zp
 kernel_rfl
theorem Zru {c : Option Nat} {N j s : Nat} {o : Oper} {uses : Zbh} {x z : Operand} {v : Ze} {y0 y : ByteArray} {v0 : Ze} {t : Nat} (hT : Ty Tryz.prog t Kd.str) (hop : o.op = .store t x z) (hd : o.dst = none) (hs : Opd uses (.tmp s) (Zby c Zi j v)) (hx : Opd uses x (Zji Zi j v0 6 Kd.str y0)) (hz : Opd uses z (Kd.str.pd y)) : OB Tryz.prog N o uses [(s, Zby c Zi j { v with Text := y })] [j + 1] :=
 Zks hT hop hd hs hx hz fun g cs ys hk hy => by
   have hc : cs.length = 8 := hk.1
   have hl : ys.length = 1 := Kd.str.len hy
   exact ⟨by omega, (Zf4 (by omega)).trans hc, (List.forall_mem_cons.2 ⟨(by show (Kd.int .i64).K g v.Kind (seg (Zbn cs 6 ys) 0 1); rw [Zbs (by omega) (by omega)]; exact hk.2 _ (List.mem_of_getElem? (i := 0) rfl)), (List.forall_mem_cons.2 ⟨(by show (Kd.int .i64).K g v.Num (seg (Zbn cs 6 ys) 1 1); rw [Zbs (by omega) (by omega)]; exact hk.2 _ (List.mem_of_getElem? (i := 1) rfl)), (List.forall_mem_cons.2 ⟨(by show (Kd.int .i64).K g v.Low (seg (Zbn cs 6 ys) 2 1); rw [Zbs (by omega) (by omega)]; exact hk.2 _ (List.mem_of_getElem? (i := 2) rfl)), (List.forall_mem_cons.2 ⟨(by show (Kd.int .i64).K g v.High (seg (Zbn cs 6 ys) 3 1); rw [Zbs (by omega) (by omega)]; exact hk.2 _ (List.mem_of_getElem? (i := 3) rfl)), (List.forall_mem_cons.2 ⟨(by show Kd.flt.K g v.Real (seg (Zbn cs 6 ys) 4 1); rw [Zbs (by omega) (by omega)]; exact hk.2 _ (List.mem_of_getElem? (i := 4) rfl)), (List.forall_mem_cons.2 ⟨(by show (Kd.int .i64).K g v.Cap (seg (Zbn cs 6 ys) 5 1); rw [Zbs (by omega) (by omega)]; exact hk.2 _ (List.mem_of_getElem? (i := 5) rfl)), (List.forall_mem_cons.2 ⟨(by show Kd.str.K g y (seg (Zbn cs 6 ys) 6 1); rw [Zgp (by omega) hl]; exact hy), (List.forall_mem_cons.2 ⟨(by show Zy.sl.K g v.List (seg (Zbn cs 6 ys) 7 1); rw [Zbs (by omega) (by omega)]; exact hk.2 _ (List.mem_of_getElem? (i := 7) rfl)), (fun _ h => by cases h)⟩)⟩)⟩)⟩)⟩)⟩)⟩)⟩)⟩
theorem Znm : Fld Tryz.prog 70 2 Zm Zi (fun x : Zg => x.Rec) := Fld.of ⟨_, Zi, 2, fun x : Zg => x.Rec⟩ (List.mem_of_getElem? (i := 2) rfl) 2 rfl (by kernel_rfl) (by decide)
theorem Zzk {c : Option Nat} {N j s : Nat} {o : Oper} {uses : Zbh} {x z : Operand} {v : Zg} {y0 y : Ze} {v0 : Zg} {t : Nat} (hT : Ty Tryz.prog t Zi) (hop : o.op = .store t x z) (hd : o.dst = none) (hs : Opd uses (.tmp s) (Zby c Zm j v)) (hx : Opd uses x (Zji Zm j v0 2 Zi y0)) (hz : Opd uses z (Zi.pd y)) : OB Tryz.prog N o uses [(s, Zby c Zm j { v with Rec := y })] [j + 1] :=
 Zks hT hop hd hs hx hz fun g cs ys hk hy => by
   have hc : cs.length = 10 := hk.1
   have hl : ys.length = 8 := Zi.len hy
   exact ⟨by omega, (Zf4 (by omega)).trans hc, (List.forall_mem_cons.2 ⟨(by show (Kd.int .i64).K g v.Code (seg (Zbn cs 2 ys) 0 1); rw [Zbs (by omega) (by omega)]; exact hk.2 _ (List.mem_of_getElem? (i := 0) rfl)), (List.forall_mem_cons.2 ⟨(by show (Kd.int .i64).K g v.Num (seg (Zbn cs 2 ys) 1 1); rw [Zbs (by omega) (by omega)]; exact hk.2 _ (List.mem_of_getElem? (i := 1) rfl)), (List.forall_mem_cons.2 ⟨(by show Zi.K g y (seg (Zbn cs 2 ys) 2 8); rw [Zgp (by omega) hl]; exact hy), (fun _ h => by cases h)⟩)⟩)⟩)⟩
theorem Zlt {c : Option Nat} {N j s : Nat} {o : Oper} {uses : Zbh} {x z : Operand} {v : Ze} {y0 y : Int} {v0 : Ze} {t : Nat} (hT : Ty Tryz.prog t (Kd.int .i64)) (hop : o.op = .store t x z) (hd : o.dst = none) (hs : Opd uses (.tmp s) (Zby c Zi j v)) (hx : Opd uses x (Zji Zi j v0 1 (Kd.int .i64) y0)) (hz : Opd uses z ((Kd.int .i64).pd y)) : OB Tryz.prog N o uses [(s, Zby c Zi j { v with Num := y })] [j + 1] :=
 Zks hT hop hd hs hx hz fun g cs ys hk hy => by
   have hc : cs.length = 8 := hk.1
   have hl : ys.length = 1 := (Kd.int .i64).len hy
   exact ⟨by omega, (Zf4 (by omega)).trans hc, (List.forall_mem_cons.2 ⟨(by show (Kd.int .i64).K g v.Kind (seg (Zbn cs 1 ys) 0 1); rw [Zbs (by omega) (by omega)]; exact hk.2 _ (List.mem_of_getElem? (i := 0) rfl)), (List.forall_mem_cons.2 ⟨(by show (Kd.int .i64).K g y (seg (Zbn cs 1 ys) 1 1); rw [Zgp (by omega) hl]; exact hy), (List.forall_mem_cons.2 ⟨(by show (Kd.int .i64).K g v.Low (seg (Zbn cs 1 ys) 2 1); rw [Zbs (by omega) (by omega)]; exact hk.2 _ (List.mem_of_getElem? (i := 2) rfl)), (List.forall_mem_cons.2 ⟨(by show (Kd.int .i64).K g v.High (seg (Zbn cs 1 ys) 3 1); rw [Zbs (by omega) (by omega)]; exact hk.2 _ (List.mem_of_getElem? (i := 3) rfl)), (List.forall_mem_cons.2 ⟨(by show Kd.flt.K g v.Real (seg (Zbn cs 1 ys) 4 1); rw [Zbs (by omega) (by omega)]; exact hk.2 _ (List.mem_of_getElem? (i := 4) rfl)), (List.forall_mem_cons.2 ⟨(by show (Kd.int .i64).K g v.Cap (seg (Zbn cs 1 ys) 5 1); rw [Zbs (by omega) (by omega)]; exact hk.2 _ (List.mem_of_getElem? (i := 5) rfl)), (List.forall_mem_cons.2 ⟨(by show Kd.str.K g v.Text (seg (Zbn cs 1 ys) 6 1); rw [Zbs (by omega) (by omega)]; exact hk.2 _ (List.mem_of_getElem? (i := 6) rfl)), (List.forall_mem_cons.2 ⟨(by show Zy.sl.K g v.List (seg (Zbn cs 1 ys) 7 1); rw [Zbs (by omega) (by omega)]; exact hk.2 _ (List.mem_of_getElem? (i := 7) rfl)), (fun _ h => by cases h)⟩)⟩)⟩)⟩)⟩)⟩)⟩)⟩)⟩
theorem Znj {c : Option Nat} {N j s : Nat} {o : Oper} {uses : Zbh} {x z : Operand} {v : Ze} {y0 y : Nat} {v0 : Ze} {t : Nat} (hT : Ty Tryz.prog t Kd.flt) (hop : o.op = .store t x z) (hd : o.dst = none) (hs : Opd uses (.tmp s) (Zby c Zi j v)) (hx : Opd uses x (Zji Zi j v0 4 Kd.flt y0)) (hz : Opd uses z (Kd.flt.pd y)) : OB Tryz.prog N o uses [(s, Zby c Zi j { v with Real := y })] [j + 1] :=
 Zks hT hop hd hs hx hz fun g cs ys hk hy => by
   have hc : cs.length = 8 := hk.1
   have hl : ys.length = 1 := Kd.flt.len hy
   exact ⟨by omega, (Zf4 (by omega)).trans hc, (List.forall_mem_cons.2 ⟨(by show (Kd.int .i64).K g v.Kind (seg (Zbn cs 4 ys) 0 1); rw [Zbs (by omega) (by omega)]; exact hk.2 _ (List.mem_of_getElem? (i := 0) rfl)), (List.forall_mem_cons.2 ⟨(by show (Kd.int .i64).K g v.Num (seg (Zbn cs 4 ys) 1 1); rw [Zbs (by omega) (by omega)]; exact hk.2 _ (List.mem_of_getElem? (i := 1) rfl)), (List.forall_mem_cons.2 ⟨(by show (Kd.int .i64).K g v.Low (seg (Zbn cs 4 ys) 2 1); rw [Zbs (by omega) (by omega)]; exact hk.2 _ (List.mem_of_getElem? (i := 2) rfl)), (List.forall_mem_cons.2 ⟨(by show (Kd.int .i64).K g v.High (seg (Zbn cs 4 ys) 3 1); rw [Zbs (by omega) (by omega)]; exact hk.2 _ (List.mem_of_getElem? (i := 3) rfl)), (List.forall_mem_cons.2 ⟨(by show Kd.flt.K g y (seg (Zbn cs 4 ys) 4 1); rw [Zgp (by omega) hl]; exact hy), (List.forall_mem_cons.2 ⟨(by show (Kd.int .i64).K g v.Cap (seg (Zbn cs 4 ys) 5 1); rw [Zbs (by omega) (by omega)]; exact hk.2 _ (List.mem_of_getElem? (i := 5) rfl)), (List.forall_mem_cons.2 ⟨(by show Kd.str.K g v.Text (seg (Zbn cs 4 ys) 6 1); rw [Zbs (by omega) (by omega)]; exact hk.2 _ (List.mem_of_getElem? (i := 6) rfl)), (List.forall_mem_cons.2 ⟨(by show Zy.sl.K g v.List (seg (Zbn cs 4 ys) 7 1); rw [Zbs (by omega) (by omega)]; exact hk.2 _ (List.mem_of_getElem? (i := 7) rfl)), (fun _ h => by cases h)⟩)⟩)⟩)⟩)⟩)⟩)⟩)⟩)⟩
theorem Zq3 : Zp Tryz.prog 134 := by
 unfold Zp
 kernel_rfl
theorem Z5z : Ty Tryz.prog 155 Kd.fnc := ⟨by kernel_rfl, by kernel_rfl⟩
theorem Z67 : Zp Tryz.prog 138 := by
 unfold Zp
 kernel_rfl
theorem Z78 : Zp Tryz.prog 137 := by
 unfold Zp
 kernel_rfl
theorem Z8l : Ext Tryz.prog 141 (Extern.SlicesOverlaps.overlaps #[62, 62] #[4]) := ⟨_, Tryz.func141, rfl, rfl, by kernel_rfl, by kernel_rfl⟩
theorem Zw8 : Zp Tryz.prog 110 := by
 unfold Zp
 kernel_rfl
theorem Zyd {N d : Nat} {o : Oper} {uses : Zbh} {x1 : Operand} {v1 : ByteArray} (hop : o.op = .build 105 #[(1, x1)]) (hd : o.dst = some d) (h1 : Opd uses x1 (Kd.str.pd v1)) : OB Tryz.prog N o uses [(d, Zy.pd { Score := (0 : Nat), Name := v1 })] [] := by
 refine Zc3 hop hd fun a g hh => ?_
 obtain ⟨c1, k1, e1⟩ := h1 a g hh
 obtain rfl := k1
 refine ⟨.agg #[.float .f64 0, .string v1], ?_, [.float .f64 0, .string v1], ⟨rfl, (List.forall_mem_cons.2 ⟨(rfl), (List.forall_mem_cons.2 ⟨rfl, (fun _ h => by cases h)⟩)⟩)⟩, rfl⟩
 simp only [List.map_toArray, List.map_cons, List.map_nil, e1]
 exact Zcr Tryz.underlying105 (zero := .agg #[.float .f64 0, .string ByteArray.empty]) (by kernel_rfl) (places := [(0, 1), (1, 1)]) (by kernel_rfl) (by kernel_rfl) g.w
theorem Z1v : Zp Tryz.prog 136 := by
 unfold Zp
 kernel_rfl
theorem Z8b : Zp Tryz.prog 111 := by
 unfold Zp
 kernel_rfl
theorem Zt5 {N d : Nat} {o : Oper} {uses : Zbh} {x0 : Operand} {x1 : Operand} {v0 : Nat} {v1 : ByteArray} (hop : o.op = .build 105 #[(0, x0), (1, x1)]) (hd : o.dst = some d) (h0 : Opd uses x0 (Kd.flt.pd v0)) (h1 : Opd uses x1 (Kd.str.pd v1)) : OB Tryz.prog N o uses [(d, Zy.pd { Score := v0, Name := v1 })] [] := by
 refine Zc3 hop hd fun a g hh => ?_
 obtain ⟨c0, k0, e0⟩ := h0 a g hh
 obtain rfl := k0
 obtain ⟨c1, k1, e1⟩ := h1 a g hh
 obtain rfl := k1
 refine ⟨.agg #[.float .f64 v0, .string v1], ?_, [.float .f64 v0, .string v1], ⟨rfl, (List.forall_mem_cons.2 ⟨rfl, (List.forall_mem_cons.2 ⟨rfl, (fun _ h => by cases h)⟩)⟩)⟩, rfl⟩
 simp only [List.map_toArray, List.map_cons, List.map_nil, e0, e1]
 exact Zcr Tryz.underlying105 (zero := .agg #[.float .f64 0, .string ByteArray.empty]) (by kernel_rfl) (places := [(0, 1), (1, 1)]) (by kernel_rfl) (by kernel_rfl) g.w
theorem Zbas : Zp Tryz.prog 95 := by
 unfold Zp
 kernel_rfl
theorem Zbab : Zp Tryz.prog 96 := by
 unfold Zp
 kernel_rfl
theorem Z96 : Zp Tryz.prog 97 := by
 unfold Zp
 kernel_rfl
theorem Z8y : Zp Tryz.prog 98 := by
 unfold Zp
 kernel_rfl
theorem Z5h : Zp Tryz.prog 99 := by
 unfold Zp
 kernel_rfl
theorem Z7d : Zp Tryz.prog 100 := by
 unfold Zp
 kernel_rfl
theorem Z7m : Zp Tryz.prog 101 := by
 unfold Zp
 kernel_rfl
theorem Z8x : Zp Tryz.prog 103 := by
 unfold Zp
 kernel_rfl
theorem Z7q : Zp Tryz.prog 104 := by
 unfold Zp
 kernel_rfl
theorem Z75 : Zp Tryz.prog 105 := by
 unfold Zp
 kernel_rfl
theorem Z8n : Zp Tryz.prog 106 := by
 unfold Zp
 kernel_rfl
theorem Z7l : Zp Tryz.prog 107 := by
 unfold Zp
 kernel_rfl
theorem Z8s : Zp Tryz.prog 108 := by
 unfold Zp
 kernel_rfl
theorem Z8r : Zp Tryz.prog 109 := by
 unfold Zp
 kernel_rfl
theorem Z7f : Zp Tryz.prog 112 := by
 unfold Zp
 kernel_rfl
theorem Z7b : Zp Tryz.prog 113 := by
 unfold Zp
 kernel_rfl
theorem Zqt : Zp Tryz.prog 102 := by
 unfold Zp
 kernel_rfl
theorem Zpf {N d : Nat} {o : Oper} {uses : Zbh} {x0 : Operand} {v0 : Int} (hop : o.op = .build 70 #[(0, x0)]) (hd : o.dst = some d) (h0 : Opd uses x0 ((Kd.int .i64).pd v0)) : OB Tryz.prog N o uses [(d, Zm.pd { Code := v0, Num := (0 : Int), Rec := (default : Ze) })] [] := by
 refine Zc3 hop hd fun a g hh => ?_
 obtain ⟨c0, k0, e0⟩ := h0 a g hh
 obtain rfl := k0
 refine ⟨.agg #[.int .i64 v0, .int .i64 0, .int .i64 0, .int .i64 0, .int .i64 0, .int .i64 0, .float .f64 0, .int .i64 0, .string ByteArray.empty, .slice none 0 0], ?_, [.int .i64 v0, .int .i64 0, .int .i64 0, .int .i64 0, .int .i64 0, .int .i64 0, .float .f64 0, .int .i64 0, .string ByteArray.empty, .slice none 0 0], ⟨rfl, (List.forall_mem_cons.2 ⟨rfl, (List.forall_mem_cons.2 ⟨(rfl), (List.forall_mem_cons.2 ⟨(Zb9 _), (fun _ h => by cases h)⟩)⟩)⟩)⟩, rfl⟩
 simp only [List.map_toArray, List.map_cons, List.map_nil, e0]
 exact Zcr Tryz.underlying70 (zero := .agg #[.int .i64 0, .int .i64 0, .int .i64 0, .int .i64 0, .int .i64 0, .int .i64 0, .float .f64 0, .int .i64 0, .string ByteArray.empty, .slice none 0 0]) (by kernel_rfl) (places := [(0, 1), (1, 1), (2, 8)]) (by kernel_rfl) (by kernel_rfl) g.w
theorem Zbz : Ty Tryz.prog 70 Zm := ⟨by kernel_rfl, by kernel_rfl⟩
theorem Z40 : Zp Tryz.prog 67 := by
 unfold Zp
 kernel_rfl
theorem Ztm : Zp Tryz.prog 68 := by
 unfold Zp
 kernel_rfl
theorem Zou {N d : Nat} {o : Oper} {uses : Zbh}   (hop : o.op = .build 70 #[]) (hd : o.dst = some d)  : OB Tryz.prog N o uses [(d, Zm.pd { Code := (0 : Int), Num := (0 : Int), Rec := (default : Ze) })] [] := by
 refine Zc3 hop hd fun a g hh => ?_
 refine ⟨.agg #[.int .i64 0, .int .i64 0, .int .i64 0, .int .i64 0, .int .i64 0, .int .i64 0, .float .f64 0, .int .i64 0, .string ByteArray.empty, .slice none 0 0], ?_, [.int .i64 0, .int .i64 0, .int .i64 0, .int .i64 0, .int .i64 0, .int .i64 0, .float .f64 0, .int .i64 0, .string ByteArray.empty, .slice none 0 0], ⟨rfl, (List.forall_mem_cons.2 ⟨(rfl), (List.forall_mem_cons.2 ⟨(rfl), (List.forall_mem_cons.2 ⟨(Zb9 _), (fun _ h => by cases h)⟩)⟩)⟩)⟩, rfl⟩
 simp only [List.map_toArray, List.map_cons, List.map_nil, List.map_nil]
 exact Zcr Tryz.underlying70 (zero := .agg #[.int .i64 0, .int .i64 0, .int .i64 0, .int .i64 0, .int .i64 0, .int .i64 0, .float .f64 0, .int .i64 0, .string ByteArray.empty, .slice none 0 0]) (by kernel_rfl) (places := [(0, 1), (1, 1), (2, 8)]) (by kernel_rfl) (by kernel_rfl) g.w
theorem Zz4 {N d : Nat} {o : Oper} {uses : Zbh} {x1 : Operand} {v1 : Int} (hop : o.op = .build 70 #[(1, x1)]) (hd : o.dst = some d) (h1 : Opd uses x1 ((Kd.int .i64).pd v1)) : OB Tryz.prog N o uses [(d, Zm.pd { Code := (0 : Int), Num := v1, Rec := (default : Ze) })] [] := by
 refine Zc3 hop hd fun a g hh => ?_
 obtain ⟨c1, k1, e1⟩ := h1 a g hh
 obtain rfl := k1
 refine ⟨.agg #[.int .i64 0, .int .i64 v1, .int .i64 0, .int .i64 0, .int .i64 0, .int .i64 0, .float .f64 0, .int .i64 0, .string ByteArray.empty, .slice none 0 0], ?_, [.int .i64 0, .int .i64 v1, .int .i64 0, .int .i64 0, .int .i64 0, .int .i64 0, .float .f64 0, .int .i64 0, .string ByteArray.empty, .slice none 0 0], ⟨rfl, (List.forall_mem_cons.2 ⟨(rfl), (List.forall_mem_cons.2 ⟨rfl, (List.forall_mem_cons.2 ⟨(Zb9 _), (fun _ h => by cases h)⟩)⟩)⟩)⟩, rfl⟩
 simp only [List.map_toArray, List.map_cons, List.map_nil, e1]
 exact Zcr Tryz.underlying70 (zero := .agg #[.int .i64 0, .int .i64 0, .int .i64 0, .int .i64 0, .int .i64 0, .int .i64 0, .float .f64 0, .int .i64 0, .string ByteArray.empty, .slice none 0 0]) (by kernel_rfl) (places := [(0, 1), (1, 1), (2, 8)]) (by kernel_rfl) (by kernel_rfl) g.w
theorem Zzx {N d : Nat} {o : Oper} {uses : Zbh} {x2 : Operand} {v2 : Ze} (hop : o.op = .build 70 #[(2, x2)]) (hd : o.dst = some d) (h2 : Opd uses x2 (Zi.pd v2)) : OB Tryz.prog N o uses [(d, Zm.pd { Code := (0 : Int), Num := (0 : Int), Rec := v2 })] [] := by
 refine Zc3 hop hd fun a g hh => ?_
 obtain ⟨c2, k2, e2⟩ := h2 a g hh
 obtain ⟨u2_0, u2_1, u2_2, u2_3, u2_4, u2_5, u2_6, u2_7, rfl⟩ := Zwv (Zi.len k2)
 refine ⟨.agg #[.int .i64 0, .int .i64 0, u2_0, u2_1, u2_2, u2_3, u2_4, u2_5, u2_6, u2_7], ?_, [.int .i64 0, .int .i64 0, u2_0, u2_1, u2_2, u2_3, u2_4, u2_5, u2_6, u2_7], ⟨rfl, (List.forall_mem_cons.2 ⟨(rfl), (List.forall_mem_cons.2 ⟨(rfl), (List.forall_mem_cons.2 ⟨k2, (fun _ h => by cases h)⟩)⟩)⟩)⟩, rfl⟩
 simp only [List.map_toArray, List.map_cons, List.map_nil, e2]
 exact Zcr Tryz.underlying70 (zero := .agg #[.int .i64 0, .int .i64 0, .int .i64 0, .int .i64 0, .int .i64 0, .int .i64 0, .float .f64 0, .int .i64 0, .string ByteArray.empty, .slice none 0 0]) (by kernel_rfl) (places := [(0, 1), (1, 1), (2, 8)]) (by kernel_rfl) (by kernel_rfl) g.w
theorem Z88 : Zp Tryz.prog 69 := by
 unfold Zp
 kernel_rfl
theorem Zbaa : Zp Tryz.prog 70 := by
 unfold Zp
 kernel_rfl
theorem Zwx : Zp Tryz.prog 71 := by
 unfold Zp
 kernel_rfl
theorem Z7o : Zp Tryz.prog 114 := by
 unfold Zp
 kernel_rfl
theorem Zbar : Zp Tryz.prog 44 := by
 unfold Zp
 kernel_rfl
theorem Zf0 : Fld Tryz.prog 70 0 Zm (Kd.int .i64) (fun x : Zg => x.Code) := Fld.of ⟨_, (Kd.int .i64), 0, fun x : Zg => x.Code⟩ (List.mem_of_getElem? (i := 0) rfl) 0 rfl (by kernel_rfl) (by decide)
theorem Zgj : Ty Tryz.prog 44 (Kd.int .i64) := ⟨by kernel_rfl, by kernel_rfl⟩
theorem Z9a : Zp Tryz.prog 45 := by
 unfold Zp
 kernel_rfl
theorem Z86 : Zp Tryz.prog 46 := by
 unfold Zp
 kernel_rfl
theorem Z5d : Zp Tryz.prog 24 := by
 unfold Zp
 kernel_rfl
theorem Zib : Fld Tryz.prog 52 0 Zcm Zbe.sl (fun x : Zb0 => x.Acts) := Fld.of ⟨_, Zbe.sl, 0, fun x : Zb0 => x.Acts⟩ (List.mem_of_getElem? (i := 0) rfl) 0 rfl (by kernel_rfl) (by decide)
theorem Zla : Ty Tryz.prog 50 Zbe.sl := ⟨by kernel_rfl, by kernel_rfl⟩
theorem Zr0 : (Tryz.prog.info? 66).map (·.size) = some Zbe.sz := by kernel_rfl
theorem Zus : Fld Tryz.prog 66 6 Zbe Kd.bool (fun x : Z3 => x.Must) := Fld.of ⟨_, Kd.bool, 13, fun x : Z3 => x.Must⟩ (List.mem_of_getElem? (i := 6) rfl) 13 rfl (by kernel_rfl) (by decide)
theorem Z1t {N d : Nat} {o : Oper} {uses : Zbh} {x0 : Operand} {x1 : Operand} {v0 : Int} {v1 : Int} (hop : o.op = .build 95 #[(0, x0), (1, x1)]) (hd : o.dst = some d) (h0 : Opd uses x0 ((Kd.int .i64).pd v0)) (h1 : Opd uses x1 ((Kd.int .i64).pd v1)) : OB Tryz.prog N o uses [(d, Zfm.pd { code := v0, at_ := v1 })] [] := by
 refine Zc3 hop hd fun a g hh => ?_
 obtain ⟨c0, k0, e0⟩ := h0 a g hh
 obtain rfl := k0
 obtain ⟨c1, k1, e1⟩ := h1 a g hh
 obtain rfl := k1
 refine ⟨.agg #[.int .i64 v0, .int .i64 v1], ?_, [.int .i64 v0, .int .i64 v1], ⟨rfl, (List.forall_mem_cons.2 ⟨rfl, (List.forall_mem_cons.2 ⟨rfl, (fun _ h => by cases h)⟩)⟩)⟩, rfl⟩
 simp only [List.map_toArray, List.map_cons, List.map_nil, e0, e1]
 exact Zcr Tryz.underlying95 (zero := .agg #[.int .i64 0, .int .i64 0]) (by kernel_rfl) (places := [(0, 1), (1, 1)]) (by kernel_rfl) (by kernel_rfl) g.w
structure Zhh where
 Code : Int
 At : Int
 Answers : SlV
def Zty : List (Kd.FK Zhh) := [⟨_, (Kd.int .i64), 0, fun x : Zhh => x.Code⟩,
 ⟨_, (Kd.int .i64), 1, fun x : Zhh => x.At⟩,
 ⟨_, Kd.raw, 2, fun x : Zhh => x.Answers⟩]
def Zdg : Kd Zhh := Kd.struct 3 Zty (by rfl)
def Zec (x : Zt) (s : SlV) : Zhh := ⟨x.Code, x.At, s⟩
theorem Zuc : ∀ g, Zdg.K g (Zec ((default : Zt)) (none, 0, 0)) [.int .i64 0, .int .i64 0, .slice none 0 0] := fun g => ⟨rfl, (List.forall_mem_cons.2 ⟨(rfl), (List.forall_mem_cons.2 ⟨(rfl), (List.forall_mem_cons.2 ⟨rfl, (fun _ h => by cases h)⟩)⟩)⟩)⟩
theorem Zua {x : Zt} {e j : Nat} : ∀ (g : G) (s : SlV) (cs : List Value), Zdg.K g (Zec x s) cs → (hpL (pRow Zm e j x.Answers)).p g s → Zbk.K g x cs := fun g s cs h hr => ⟨h.1, (List.forall_mem_cons.2 ⟨(h.2 _ (List.mem_of_getElem? (i := 0) rfl)), (List.forall_mem_cons.2 ⟨(h.2 _ (List.mem_of_getElem? (i := 1) rfl)), (List.forall_mem_cons.2 ⟨(Z64 (h.2 _ (List.mem_of_getElem? (i := 2) rfl)) hr.1), (fun _ h => by cases h)⟩)⟩)⟩)⟩
theorem Ztr {x : Zt} {g : G} {cs ys : List Value} {s0 s1 : SlV} (hk : Zdg.K g (Zec x s0) cs) (hy : Kd.raw.K g s1 ys) : 2 + ys.length ≤ cs.length ∧ Zdg.K g (Zec x s1) (Zbn cs 2 ys) := by
 have hc : cs.length = 3 := hk.1
 have hl : ys.length = 1 := Kd.raw.len hy
 exact ⟨by omega, (Zf4 (by omega)).trans hc, (List.forall_mem_cons.2 ⟨(by show (Kd.int .i64).K g x.Code (seg (Zbn cs 2 ys) 0 1); rw [Zbs (by omega) (by omega)]; exact hk.2 _ (List.mem_of_getElem? (i := 0) rfl)), (List.forall_mem_cons.2 ⟨(by show (Kd.int .i64).K g x.At (seg (Zbn cs 2 ys) 1 1); rw [Zbs (by omega) (by omega)]; exact hk.2 _ (List.mem_of_getElem? (i := 1) rfl)), (List.forall_mem_cons.2 ⟨(by show Kd.raw.K g s1 (seg (Zbn cs 2 ys) 2 1); rw [Zgp (by omega) hl]; exact hy), (fun _ h => by cases h)⟩)⟩)⟩)⟩
theorem Ztk : Fld Tryz.prog 47 2 Zdg Kd.raw (fun x : Zhh => x.Answers) := Fld.of ⟨_, Kd.raw, 2, fun x : Zhh => x.Answers⟩ (List.mem_of_getElem? (i := 2) rfl) 2 rfl (by kernel_rfl) (by decide)
theorem Zxx : Ty Tryz.prog 45 Kd.raw := ⟨by kernel_rfl, by kernel_rfl⟩
theorem Zmw : Ty Tryz.prog 52 Zcm := ⟨by kernel_rfl, by kernel_rfl⟩
theorem Z9t : Zp Tryz.prog 40 := by
 unfold Zp
 kernel_rfl
theorem Zm8 {N d : Nat} {o : Oper} {uses : Zbh} {x0 : Operand} {x1 : Operand} {v0 : Int} {v1 : Int} (hop : o.op = .build 47 #[(0, x0), (1, x1)]) (hd : o.dst = some d) (h0 : Opd uses x0 ((Kd.int .i64).pd v0)) (h1 : Opd uses x1 ((Kd.int .i64).pd v1)) : OB Tryz.prog N o uses [(d, Zbk.pd { Code := v0, At := v1, Answers := ([] : List Zg) })] [] := by
 refine Zc3 hop hd fun a g hh => ?_
 obtain ⟨c0, k0, e0⟩ := h0 a g hh
 obtain rfl := k0
 obtain ⟨c1, k1, e1⟩ := h1 a g hh
 obtain rfl := k1
 refine ⟨.agg #[.int .i64 v0, .int .i64 v1, .slice none 0 0], ?_, [.int .i64 v0, .int .i64 v1, .slice none 0 0], ⟨rfl, (List.forall_mem_cons.2 ⟨rfl, (List.forall_mem_cons.2 ⟨rfl, (List.forall_mem_cons.2 ⟨(⟨none, 0, rfl, Nat.le_refl _, Nat.zero_le _, .inl rfl⟩), (fun _ h => by cases h)⟩)⟩)⟩)⟩, rfl⟩
 simp only [List.map_toArray, List.map_cons, List.map_nil, e0, e1]
 exact Zcr Tryz.underlying47 (zero := .agg #[.int .i64 0, .int .i64 0, .slice none 0 0]) (by kernel_rfl) (places := [(0, 1), (1, 1), (2, 1)]) (by kernel_rfl) (by kernel_rfl) g.w
theorem Zhc : Ty Tryz.prog 47 Zbk := ⟨by kernel_rfl, by kernel_rfl⟩
theorem Z6k : Fld Tryz.prog 95 0 Zfm (Kd.int .i64) (fun x : Zdp => x.code) := Fld.of ⟨_, (Kd.int .i64), 0, fun x : Zdp => x.code⟩ (List.mem_of_getElem? (i := 0) rfl) 0 rfl (by kernel_rfl) (by decide)
theorem Z6y : Fld Tryz.prog 95 1 Zfm (Kd.int .i64) (fun x : Zdp => x.at_) := Fld.of ⟨_, (Kd.int .i64), 1, fun x : Zdp => x.at_⟩ (List.mem_of_getElem? (i := 1) rfl) 1 rfl (by kernel_rfl) (by decide)
theorem Zbaj : Ty Tryz.prog 95 Zfm := ⟨by kernel_rfl, by kernel_rfl⟩
theorem Z5j : Zp Tryz.prog 21 := by
 unfold Zp
 kernel_rfl
theorem Zoj : Ty Tryz.prog 45 Zm.sl := ⟨by kernel_rfl, by kernel_rfl⟩
theorem Z46 : Zp Tryz.prog 42 := by
 unfold Zp
 kernel_rfl
theorem Ztp : TE Tryz.prog 45 70 Zm 104 := TE.of Tryz.underlying45 (by kernel_rfl) (by decide) (by decide)
theorem Z5g : Zp Tryz.prog 41 := by
 unfold Zp
 kernel_rfl
theorem Zwn : (Tryz.prog.info? 52).map (·.size) = some Zcm.sz := by kernel_rfl
theorem Z07 : Zp Tryz.prog 20 := by
 unfold Zp
 kernel_rfl
theorem Zwz : TE Tryz.prog 32 47 Zbk 40 := TE.of Tryz.underlying32 (by kernel_rfl) (by decide) (by decide)
theorem Zww : (Tryz.prog.info? 70).map (·.size) = some Zm.sz := by kernel_rfl
theorem Zrz : Fld Tryz.prog 70 1 Zm (Kd.int .i64) (fun x : Zg => x.Num) := Fld.of ⟨_, (Kd.int .i64), 1, fun x : Zg => x.Num⟩ (List.mem_of_getElem? (i := 1) rfl) 1 rfl (by kernel_rfl) (by decide)
theorem Zoy : Fld Tryz.prog 47 0 Zbk (Kd.int .i64) (fun x : Zt => x.Code) := Fld.of ⟨_, (Kd.int .i64), 0, fun x : Zt => x.Code⟩ (List.mem_of_getElem? (i := 0) rfl) 0 rfl (by kernel_rfl) (by decide)
theorem Zpc : Fld Tryz.prog 47 1 Zbk (Kd.int .i64) (fun x : Zt => x.At) := Fld.of ⟨_, (Kd.int .i64), 1, fun x : Zt => x.At⟩ (List.mem_of_getElem? (i := 1) rfl) 1 rfl (by kernel_rfl) (by decide)
theorem Zlr : Fld Tryz.prog 47 2 Zbk Zm.sl (fun x : Zt => x.Answers) := Fld.of ⟨_, Zm.sl, 2, fun x : Zt => x.Answers⟩ (List.mem_of_getElem? (i := 2) rfl) 2 rfl (by kernel_rfl) (by decide)
theorem Zbag : Zp Tryz.prog 39 := by
 unfold Zp
 kernel_rfl
theorem Z89 : Zp Tryz.prog 38 := by
 unfold Zp
 kernel_rfl
theorem Z65 {N d : Nat} {o : Oper} {uses : Zbh}   (hop : o.op = .build 27 #[]) (hd : o.dst = some d)  : OB Tryz.prog N o uses [(d, Z0.pd { top := shelf_nodeT.nil, room := (0 : Int) })] [] := by
 refine Zc3 hop hd fun a g hh => ?_
 refine ⟨.agg #[.pointer none, .int .i64 0], ?_, [.pointer none, .int .i64 0], ⟨rfl, (List.forall_mem_cons.2 ⟨(Zld _), (List.forall_mem_cons.2 ⟨(rfl), (fun _ h => by cases h)⟩)⟩)⟩, rfl⟩
 simp only [List.map_toArray, List.map_cons, List.map_nil, List.map_nil]
 exact Zcr Tryz.underlying27 (zero := .agg #[.pointer none, .int .i64 0]) (by kernel_rfl) (places := [(0, 1), (1, 1)]) (by kernel_rfl) (by kernel_rfl) g.w
theorem Z5y {N d : Nat} {o : Oper} {uses : Zbh} {x1 : Operand} {v1 : Int} (hop : o.op = .build 27 #[(1, x1)]) (hd : o.dst = some d) (h1 : Opd uses x1 ((Kd.int .i64).pd v1)) : OB Tryz.prog N o uses [(d, Z0.pd { top := shelf_nodeT.nil, room := v1 })] [] := by
 refine Zc3 hop hd fun a g hh => ?_
 obtain ⟨c1, k1, e1⟩ := h1 a g hh
 obtain rfl := k1
 refine ⟨.agg #[.pointer none, .int .i64 v1], ?_, [.pointer none, .int .i64 v1], ⟨rfl, (List.forall_mem_cons.2 ⟨(Zld _), (List.forall_mem_cons.2 ⟨rfl, (fun _ h => by cases h)⟩)⟩)⟩, rfl⟩
 simp only [List.map_toArray, List.map_cons, List.map_nil, e1]
 exact Zcr Tryz.underlying27 (zero := .agg #[.pointer none, .int .i64 0]) (by kernel_rfl) (places := [(0, 1), (1, 1)]) (by kernel_rfl) (by kernel_rfl) g.w
theorem Z5b : Zp Tryz.prog 19 := by
 unfold Zp
 kernel_rfl
theorem Z1z {N d : Nat} {o : Oper} {uses : Zbh} {x0 : Operand} {x3 : Operand} {v0 : Int} {v3 : Int} (hop : o.op = .build 64 #[(0, x0), (3, x3)]) (hd : o.dst = some d) (h0 : Opd uses x0 ((Kd.int .i64).pd v0)) (h3 : Opd uses x3 ((Kd.int .i64).pd v3)) : OB Tryz.prog N o uses [(d, Zi.pd { Kind := v0, Num := (0 : Int), Low := (0 : Int), High := v3, Real := (0 : Nat), Cap := (0 : Int), Text := ByteArray.empty, List := ([] : List Zl) })] [] := by
 refine Zc3 hop hd fun a g hh => ?_
 obtain ⟨c0, k0, e0⟩ := h0 a g hh
 obtain rfl := k0
 obtain ⟨c3, k3, e3⟩ := h3 a g hh
 obtain rfl := k3
 refine ⟨.agg #[.int .i64 v0, .int .i64 0, .int .i64 0, .int .i64 v3, .float .f64 0, .int .i64 0, .string ByteArray.empty, .slice none 0 0], ?_, [.int .i64 v0, .int .i64 0, .int .i64 0, .int .i64 v3, .float .f64 0, .int .i64 0, .string ByteArray.empty, .slice none 0 0], ⟨rfl, (List.forall_mem_cons.2 ⟨rfl, (List.forall_mem_cons.2 ⟨(rfl), (List.forall_mem_cons.2 ⟨(rfl), (List.forall_mem_cons.2 ⟨rfl, (List.forall_mem_cons.2 ⟨(rfl), (List.forall_mem_cons.2 ⟨(rfl), (List.forall_mem_cons.2 ⟨(rfl), (List.forall_mem_cons.2 ⟨(⟨none, 0, rfl, Nat.le_refl _, Nat.zero_le _, .inl rfl⟩), (fun _ h => by cases h)⟩)⟩)⟩)⟩)⟩)⟩)⟩)⟩)⟩, rfl⟩
 simp only [List.map_toArray, List.map_cons, List.map_nil, e0, e3]
 exact Zcr Tryz.underlying64 (zero := .agg #[.int .i64 0, .int .i64 0, .int .i64 0, .int .i64 0, .float .f64 0, .int .i64 0, .string ByteArray.empty, .slice none 0 0]) (by kernel_rfl) (places := [(0, 1), (1, 1), (2, 1), (3, 1), (4, 1), (5, 1), (6, 1), (7, 1)]) (by kernel_rfl) (by kernel_rfl) g.w
theorem Zyp {N d : Nat} {o : Oper} {uses : Zbh} {x0 : Operand} {x1 : Operand} {x5 : Operand} {v0 : Int} {v1 : ByteArray} {v5 : Ze} (hop : o.op = .build 66 #[(0, x0), (1, x1), (5, x5)]) (hd : o.dst = some d) (h0 : Opd uses x0 ((Kd.int .i64).pd v0)) (h1 : Opd uses x1 (Kd.str.pd v1)) (h5 : Opd uses x5 (Zi.pd v5)) : OB Tryz.prog N o uses [(d, Zbe.pd { Kind := v0, Key := v1, N := (0 : Int), X := (0 : Nat), S := ByteArray.empty, Make := v5, Must := false })] [] := by
 refine Zc3 hop hd fun a g hh => ?_
 obtain ⟨c0, k0, e0⟩ := h0 a g hh
 obtain rfl := k0
 obtain ⟨c1, k1, e1⟩ := h1 a g hh
 obtain rfl := k1
 obtain ⟨c5, k5, e5⟩ := h5 a g hh
 obtain ⟨u5_0, u5_1, u5_2, u5_3, u5_4, u5_5, u5_6, u5_7, rfl⟩ := Zwv (Zi.len k5)
 refine ⟨.agg #[.int .i64 v0, .string v1, .int .i64 0, .float .f64 0, .string ByteArray.empty, u5_0, u5_1, u5_2, u5_3, u5_4, u5_5, u5_6, u5_7, .bool false], ?_, [.int .i64 v0, .string v1, .int .i64 0, .float .f64 0, .string ByteArray.empty, u5_0, u5_1, u5_2, u5_3, u5_4, u5_5, u5_6, u5_7, .bool false], ⟨rfl, (List.forall_mem_cons.2 ⟨rfl, (List.forall_mem_cons.2 ⟨rfl, (List.forall_mem_cons.2 ⟨(rfl), (List.forall_mem_cons.2 ⟨(rfl), (List.forall_mem_cons.2 ⟨(rfl), (List.forall_mem_cons.2 ⟨k5, (List.forall_mem_cons.2 ⟨(rfl), (fun _ h => by cases h)⟩)⟩)⟩)⟩)⟩)⟩)⟩)⟩, rfl⟩
 simp only [List.map_toArray, List.map_cons, List.map_nil, e0, e1, e5]
 exact Zcr Tryz.underlying66 (zero := .agg #[.int .i64 0, .string ByteArray.empty, .int .i64 0, .float .f64 0, .string ByteArray.empty, .int .i64 0, .int .i64 0, .int .i64 0, .int .i64 0, .float .f64 0, .int .i64 0, .string ByteArray.empty, .slice none 0 0, .bool false]) (by kernel_rfl) (places := [(0, 1), (1, 1), (2, 1), (3, 1), (4, 1), (5, 8), (13, 1)]) (by kernel_rfl) (by kernel_rfl) g.w
theorem Zwa {N d : Nat} {o : Oper} {uses : Zbh} {x0 : Operand} {x1 : Operand} {x2 : Operand} {x6 : Operand} {v0 : Int} {v1 : ByteArray} {v2 : Int} {v6 : Bool} (hop : o.op = .build 66 #[(0, x0), (1, x1), (2, x2), (6, x6)]) (hd : o.dst = some d) (h0 : Opd uses x0 ((Kd.int .i64).pd v0)) (h1 : Opd uses x1 (Kd.str.pd v1)) (h2 : Opd uses x2 ((Kd.int .i64).pd v2)) (h6 : Opd uses x6 (Kd.bool.pd v6)) : OB Tryz.prog N o uses [(d, Zbe.pd { Kind := v0, Key := v1, N := v2, X := (0 : Nat), S := ByteArray.empty, Make := (default : Ze), Must := v6 })] [] := by
 refine Zc3 hop hd fun a g hh => ?_
 obtain ⟨c0, k0, e0⟩ := h0 a g hh
 obtain rfl := k0
 obtain ⟨c1, k1, e1⟩ := h1 a g hh
 obtain rfl := k1
 obtain ⟨c2, k2, e2⟩ := h2 a g hh
 obtain rfl := k2
 obtain ⟨c6, k6, e6⟩ := h6 a g hh
 obtain rfl := k6
 refine ⟨.agg #[.int .i64 v0, .string v1, .int .i64 v2, .float .f64 0, .string ByteArray.empty, .int .i64 0, .int .i64 0, .int .i64 0, .int .i64 0, .float .f64 0, .int .i64 0, .string ByteArray.empty, .slice none 0 0, .bool v6], ?_, [.int .i64 v0, .string v1, .int .i64 v2, .float .f64 0, .string ByteArray.empty, .int .i64 0, .int .i64 0, .int .i64 0, .int .i64 0, .float .f64 0, .int .i64 0, .string ByteArray.empty, .slice none 0 0, .bool v6], ⟨rfl, (List.forall_mem_cons.2 ⟨rfl, (List.forall_mem_cons.2 ⟨rfl, (List.forall_mem_cons.2 ⟨rfl, (List.forall_mem_cons.2 ⟨(rfl), (List.forall_mem_cons.2 ⟨(rfl), (List.forall_mem_cons.2 ⟨(Zb9 _), (List.forall_mem_cons.2 ⟨rfl, (fun _ h => by cases h)⟩)⟩)⟩)⟩)⟩)⟩)⟩)⟩, rfl⟩
 simp only [List.map_toArray, List.map_cons, List.map_nil, e0, e1, e2, e6]
 exact Zcr Tryz.underlying66 (zero := .agg #[.int .i64 0, .string ByteArray.empty, .int .i64 0, .float .f64 0, .string ByteArray.empty, .int .i64 0, .int .i64 0, .int .i64 0, .int .i64 0, .float .f64 0, .int .i64 0, .string ByteArray.empty, .slice none 0 0, .bool false]) (by kernel_rfl) (places := [(0, 1), (1, 1), (2, 1), (3, 1), (4, 1), (5, 8), (13, 1)]) (by kernel_rfl) (by kernel_rfl) g.w
theorem Z03 : TE Tryz.prog 50 66 Zbe 152 := TE.of Tryz.underlying50 (by kernel_rfl) (by decide) (by decide)
theorem Zva {N d : Nat} {o : Oper} {uses : Zbh} {x0 : Operand} {v0 : List Z3} (hop : o.op = .build 52 #[(0, x0)]) (hd : o.dst = some d) (h0 : Opd uses x0 (Zbe.sl.pd v0)) : OB Tryz.prog N o uses [(d, Zcm.pd { Acts := v0 })] [] := by
 refine Zc3 hop hd fun a g hh => ?_
 obtain ⟨c0, k0, e0⟩ := h0 a g hh
 obtain ⟨A0, n0, rfl, l0⟩ := k0
 refine ⟨.agg #[.slice A0 v0.length n0], ?_, [.slice A0 v0.length n0], ⟨rfl, (List.forall_mem_cons.2 ⟨⟨A0, n0, rfl, l0⟩, (fun _ h => by cases h)⟩)⟩, rfl⟩
 simp only [List.map_toArray, List.map_cons, List.map_nil, e0]
 exact Zcr Tryz.underlying52 (zero := .agg #[.slice none 0 0]) (by kernel_rfl) (places := [(0, 1)]) (by kernel_rfl) (by kernel_rfl) g.w
theorem Z98 : TE Tryz.prog 23 52 Zcm 24 := TE.of Tryz.underlying23 (by kernel_rfl) (by decide) (by decide)
theorem en_9 : Zp Tryz.prog 9 := by
 unfold Zp
 kernel_rfl
theorem Z82 : Zp Tryz.prog 18 := by
 unfold Zp
 kernel_rfl
theorem Zp0 : (Tryz.prog.info? 47).map (·.size) = some Zbk.sz := by kernel_rfl
theorem Zum : Zp Tryz.prog 120 := by
 unfold Zp
 kernel_rfl
theorem Z3g : Zp Tryz.prog 122 := by
 unfold Zp
 kernel_rfl
theorem Zun : Zp Tryz.prog 83 := by
 unfold Zp
 kernel_rfl
theorem Zr6 : Zp Tryz.prog 54 := by
 unfold Zp
 kernel_rfl
theorem Z2i : Zp Tryz.prog 119 := by
 unfold Zp
 kernel_rfl
theorem Z2a : TE Tryz.prog 162 9 Kd.str 16 := TE.of Tryz.underlying162 (by kernel_rfl) (by decide) (by decide)
theorem sz_9 : (Tryz.prog.info? 9).map (·.size) = some Kd.str.sz := by kernel_rfl
theorem Z1d : Zp Tryz.prog 81 := by
 unfold Zp
 kernel_rfl
theorem Z2p : Zp Tryz.prog 121 := by
 unfold Zp
 kernel_rfl
theorem Zbat : Zp Tryz.prog 80 := by
 unfold Zp
 kernel_rfl
theorem Z9g : Zp Tryz.prog 79 := by
 unfold Zp
 kernel_rfl
theorem Z91 : Zp Tryz.prog 82 := by
 unfold Zp
 kernel_rfl
theorem Zgc : Fld Tryz.prog 36 0 Z6 Zb1.sl (fun x : Zj => x.L) := Fld.of ⟨_, Zb1.sl, 0, fun x : Zj => x.L⟩ (List.mem_of_getElem? (i := 0) rfl) 0 rfl (by kernel_rfl) (by decide)
theorem Zi0 : Ty Tryz.prog 22 Zb1.sl := ⟨by kernel_rfl, by kernel_rfl⟩
theorem Zl4 : (Tryz.prog.info? 75).map (·.size) = some Zb1.sz := by kernel_rfl
theorem Zlp : Fld Tryz.prog 75 0 Zb1 Kd.str (fun x : Z9 => x.Key) := Fld.of ⟨_, Kd.str, 0, fun x : Z9 => x.Key⟩ (List.mem_of_getElem? (i := 0) rfl) 0 rfl (by kernel_rfl) (by decide)
theorem Zcl : Ty Tryz.prog 36 Z6 := ⟨by kernel_rfl, by kernel_rfl⟩
theorem Z1f : Zp Tryz.prog 51 := by
 unfold Zp
 kernel_rfl
theorem Z0p : Zp Tryz.prog 52 := by
 unfold Zp
 kernel_rfl
theorem Zpg : Fld Tryz.prog 36 1 Z6 (Kd.int .i64) (fun x : Zj => x.Room) := Fld.of ⟨_, (Kd.int .i64), 1, fun x : Zj => x.Room⟩ (List.mem_of_getElem? (i := 1) rfl) 1 rfl (by kernel_rfl) (by decide)
theorem Zog : TE Tryz.prog 22 75 Zb1 104 := TE.of Tryz.underlying22 (by kernel_rfl) (by decide) (by decide)
theorem Z2t {N d : Nat} {o : Oper} {uses : Zbh} {x0 : Operand} {x1 : Operand} {v0 : ByteArray} {v1 : Ze} (hop : o.op = .build 75 #[(0, x0), (1, x1)]) (hd : o.dst = some d) (h0 : Opd uses x0 (Kd.str.pd v0)) (h1 : Opd uses x1 (Zi.pd v1)) : OB Tryz.prog N o uses [(d, Zb1.pd { Key := v0, Rec := v1 })] [] := by
 refine Zc3 hop hd fun a g hh => ?_
 obtain ⟨c0, k0, e0⟩ := h0 a g hh
 obtain rfl := k0
 obtain ⟨c1, k1, e1⟩ := h1 a g hh
 obtain ⟨u1_0, u1_1, u1_2, u1_3, u1_4, u1_5, u1_6, u1_7, rfl⟩ := Zwv (Zi.len k1)
 refine ⟨.agg #[.string v0, u1_0, u1_1, u1_2, u1_3, u1_4, u1_5, u1_6, u1_7], ?_, [.string v0, u1_0, u1_1, u1_2, u1_3, u1_4, u1_5, u1_6, u1_7], ⟨rfl, (List.forall_mem_cons.2 ⟨rfl, (List.forall_mem_cons.2 ⟨k1, (fun _ h => by cases h)⟩)⟩)⟩, rfl⟩
 simp only [List.map_toArray, List.map_cons, List.map_nil, e0, e1]
 exact Zcr Tryz.underlying75 (zero := .agg #[.string ByteArray.empty, .int .i64 0, .int .i64 0, .int .i64 0, .int .i64 0, .float .f64 0, .int .i64 0, .string ByteArray.empty, .slice none 0 0]) (by kernel_rfl) (places := [(0, 1), (1, 8)]) (by kernel_rfl) (by kernel_rfl) g.w
theorem Zvo {N d : Nat} {o : Oper} {uses : Zbh} {x0 : Operand} {x1 : Operand} {v0 : List Z9} {v1 : Int} (hop : o.op = .build 36 #[(0, x0), (1, x1)]) (hd : o.dst = some d) (h0 : Opd uses x0 (Zb1.sl.pd v0)) (h1 : Opd uses x1 ((Kd.int .i64).pd v1)) : OB Tryz.prog N o uses [(d, Z6.pd { L := v0, Room := v1 })] [] := by
 refine Zc3 hop hd fun a g hh => ?_
 obtain ⟨c0, k0, e0⟩ := h0 a g hh
 obtain ⟨A0, n0, rfl, l0⟩ := k0
 obtain ⟨c1, k1, e1⟩ := h1 a g hh
 obtain rfl := k1
 refine ⟨.agg #[.slice A0 v0.length n0, .int .i64 v1], ?_, [.slice A0 v0.length n0, .int .i64 v1], ⟨rfl, (List.forall_mem_cons.2 ⟨⟨A0, n0, rfl, l0⟩, (List.forall_mem_cons.2 ⟨rfl, (fun _ h => by cases h)⟩)⟩)⟩, rfl⟩
 simp only [List.map_toArray, List.map_cons, List.map_nil, e0, e1]
 exact Zcr Tryz.underlying36 (zero := .agg #[.slice none 0 0, .int .i64 0]) (by kernel_rfl) (places := [(0, 1), (1, 1)]) (by kernel_rfl) (by kernel_rfl) g.w
theorem Z5v {N d : Nat} {o : Oper} {uses : Zbh} {x1 : Operand} {v1 : Int} (hop : o.op = .build 36 #[(1, x1)]) (hd : o.dst = some d) (h1 : Opd uses x1 ((Kd.int .i64).pd v1)) : OB Tryz.prog N o uses [(d, Z6.pd { L := ([] : List Z9), Room := v1 })] [] := by
 refine Zc3 hop hd fun a g hh => ?_
 obtain ⟨c1, k1, e1⟩ := h1 a g hh
 obtain rfl := k1
 refine ⟨.agg #[.slice none 0 0, .int .i64 v1], ?_, [.slice none 0 0, .int .i64 v1], ⟨rfl, (List.forall_mem_cons.2 ⟨(⟨none, 0, rfl, Nat.le_refl _, Nat.zero_le _, .inl rfl⟩), (List.forall_mem_cons.2 ⟨rfl, (fun _ h => by cases h)⟩)⟩)⟩, rfl⟩
 simp only [List.map_toArray, List.map_cons, List.map_nil, e1]
 exact Zcr Tryz.underlying36 (zero := .agg #[.slice none 0 0, .int .i64 0]) (by kernel_rfl) (places := [(0, 1), (1, 1)]) (by kernel_rfl) (by kernel_rfl) g.w
theorem Zwy : Ty Tryz.prog 75 Zb1 := ⟨by kernel_rfl, by kernel_rfl⟩
theorem Zo1 : Fld Tryz.prog 75 1 Zb1 Zi (fun x : Z9 => x.Rec) := Fld.of ⟨_, Zi, 1, fun x : Z9 => x.Rec⟩ (List.mem_of_getElem? (i := 1) rfl) 1 rfl (by kernel_rfl) (by decide)
theorem Z5a : Zp Tryz.prog 23 := by
 unfold Zp
 kernel_rfl
theorem Z41 : Zp Tryz.prog 25 := by
 unfold Zp
 kernel_rfl
theorem Z9f : Zp Tryz.prog 53 := by
 unfold Zp
 kernel_rfl
theorem Zbau : Zp Tryz.prog 26 := by
 unfold Zp
 kernel_rfl
theorem Z7e : Zp Tryz.prog 123 := by
 unfold Zp
 kernel_rfl
theorem Zbai : TE Tryz.prog 42 3 (Kd.int .i64) 8 := TE.of Tryz.underlying42 (by kernel_rfl) (by decide) (by decide)
theorem sz_3 : (Tryz.prog.info? 3).map (·.size) = some (Kd.int .i64).sz := by kernel_rfl
theorem Z0m : Zp Tryz.prog 84 := by
 unfold Zp
 kernel_rfl
theorem Z0v : Zp Tryz.prog 29 := by
 unfold Zp
 kernel_rfl
theorem Z1a : Zp Tryz.prog 85 := by
 unfold Zp
 kernel_rfl
theorem Z48 : Zp Tryz.prog 56 := by
 unfold Zp
 kernel_rfl
theorem Zwl : Zp Tryz.prog 86 := by
 unfold Zp
 kernel_rfl
theorem Z74 : Zp Tryz.prog 124 := by
 unfold Zp
 kernel_rfl
theorem Znk {c : Option Nat} {N j s : Nat} {o : Oper} {uses : Zbh} {x z : Operand} {v : Zg} {y0 y : Int} {v0 : Zg} {t : Nat} (hT : Ty Tryz.prog t (Kd.int .i64)) (hop : o.op = .store t x z) (hd : o.dst = none) (hs : Opd uses (.tmp s) (Zby c Zm j v)) (hx : Opd uses x (Zji Zm j v0 0 (Kd.int .i64) y0)) (hz : Opd uses z ((Kd.int .i64).pd y)) : OB Tryz.prog N o uses [(s, Zby c Zm j { v with Code := y })] [j + 1] :=
 Zks hT hop hd hs hx hz fun g cs ys hk hy => by
   have hc : cs.length = 10 := hk.1
   have hl : ys.length = 1 := (Kd.int .i64).len hy
   exact ⟨by omega, (Zf4 (by omega)).trans hc, (List.forall_mem_cons.2 ⟨(by show (Kd.int .i64).K g y (seg (Zbn cs 0 ys) 0 1); rw [Zgp (by omega) hl]; exact hy), (List.forall_mem_cons.2 ⟨(by show (Kd.int .i64).K g v.Num (seg (Zbn cs 0 ys) 1 1); rw [Zbs (by omega) (by omega)]; exact hk.2 _ (List.mem_of_getElem? (i := 1) rfl)), (List.forall_mem_cons.2 ⟨(by show Zi.K g v.Rec (seg (Zbn cs 0 ys) 2 8); rw [Zbs (by omega) (by omega)]; exact hk.2 _ (List.mem_of_getElem? (i := 2) rfl)), (fun _ h => by cases h)⟩)⟩)⟩)⟩
theorem Z7t : Zp Tryz.prog 125 := by
 unfold Zp
 kernel_rfl
theorem Z7y : Zp Tryz.prog 126 := by
 unfold Zp
 kernel_rfl
theorem Z14 : Zp Tryz.prog 128 := by
 unfold Zp
 kernel_rfl
theorem Z2y : Zp Tryz.prog 127 := by
 unfold Zp
 kernel_rfl
theorem Z2f : Zp Tryz.prog 129 := by
 unfold Zp
 kernel_rfl
theorem Z1r : Zp Tryz.prog 130 := by
 unfold Zp
 kernel_rfl
theorem Zban : Zp Tryz.prog 87 := by
 unfold Zp
 kernel_rfl
theorem Z9b : Zp Tryz.prog 57 := by
 unfold Zp
 kernel_rfl
theorem Z9k : Zp Tryz.prog 58 := by
 unfold Zp
 kernel_rfl
theorem Z9z : Zp Tryz.prog 59 := by
 unfold Zp
 kernel_rfl
theorem Zbal : Zp Tryz.prog 31 := by
 unfold Zp
 kernel_rfl
theorem Zbac : Zp Tryz.prog 32 := by
 unfold Zp
 kernel_rfl
theorem Z6w {N d : Nat} {o : Oper} {uses : Zbh} {x2 : Operand} {v2 : List Zg} (hop : o.op = .build 47 #[(2, x2)]) (hd : o.dst = some d) (h2 : Opd uses x2 (Zm.sl.pd v2)) : OB Tryz.prog N o uses [(d, Zbk.pd { Code := (0 : Int), At := (0 : Int), Answers := v2 })] [] := by
 refine Zc3 hop hd fun a g hh => ?_
 obtain ⟨c2, k2, e2⟩ := h2 a g hh
 obtain ⟨A2, n2, rfl, l2⟩ := k2
 refine ⟨.agg #[.int .i64 0, .int .i64 0, .slice A2 v2.length n2], ?_, [.int .i64 0, .int .i64 0, .slice A2 v2.length n2], ⟨rfl, (List.forall_mem_cons.2 ⟨(rfl), (List.forall_mem_cons.2 ⟨(rfl), (List.forall_mem_cons.2 ⟨⟨A2, n2, rfl, l2⟩, (fun _ h => by cases h)⟩)⟩)⟩)⟩, rfl⟩
 simp only [List.map_toArray, List.map_cons, List.map_nil, e2]
 exact Zcr Tryz.underlying47 (zero := .agg #[.int .i64 0, .int .i64 0, .slice none 0 0]) (by kernel_rfl) (places := [(0, 1), (1, 1), (2, 1)]) (by kernel_rfl) (by kernel_rfl) g.w
theorem Z81 : Zp Tryz.prog 14 := by
 unfold Zp
 kernel_rfl
theorem Zbad : Zp Tryz.prog 27 := by
 unfold Zp
 kernel_rfl
theorem Zbae : Zp Tryz.prog 28 := by
 unfold Zp
 kernel_rfl
theorem Z9n : Zp Tryz.prog 55 := by
 unfold Zp
 kernel_rfl
theorem Z9x : Zp Tryz.prog 30 := by
 unfold Zp
 kernel_rfl
theorem en_6 : Zp Tryz.prog 6 := by
 unfold Zp
 kernel_rfl
theorem en_7 : Zp Tryz.prog 7 := by
 unfold Zp
 kernel_rfl
theorem en_8 : Zp Tryz.prog 8 := by
 unfold Zp
 kernel_rfl
theorem Z83 : Zp Tryz.prog 11 := by
 unfold Zp
 kernel_rfl
theorem Z9y : Zp Tryz.prog 12 := by
 unfold Zp
 kernel_rfl
theorem Z9u : Zp Tryz.prog 13 := by
 unfold Zp
 kernel_rfl
theorem Zdi (a0 : shelf_nodeT) {r : Int} (h : Zcq a0 = some r) : FnOk Tryz.prog 47 [(Z7.pd a0)] (pInt .i64 r) := by
 have H0 := h
 unfold Zcq at H0
 clear h
 refine Zbp (N := 9) Tryz.func47 rfl rfl (Nat.le_of_ble_eq_true rfl) rfl rfl (fun a g0 hst hb => ?_)
 refine r_s (T := [⟨[], _, [], [], [2]⟩]) (F := [.old 0]) hst hb Za
   (o_p rfl (Zc rfl rfl c_i) <| o_n) (by kernel_rfl) (fun a g hst hb => ?_)
 refine wp_seq ?_
 refine r_s (T := [⟨[.old 0], _, [], [], [3]⟩, ⟨[.op 0 0], _, [], [0], [4]⟩]) (F := [.old 0, .op 1 0]) hst hb Za
   (o_p rfl (Zb rfl rfl u_0) <| o_p rfl (Zpa Tryz.underlying25 rfl rfl u_0 (Ze4 _)) <| o_n) (by kernel_rfl) (fun a g hst hb => ?_)
 refine wp_cond_split (hst.bool 1 rfl) (fun hc1 => ?_) (fun hc1 => ?_)
 · replace H0 := Zw hc1 H0
   refine r_s (L := []) (T := [⟨[], _, [], [], [2]⟩]) (F := [.op 0 0]) (hst.pick [] rfl) hb Za
     (o_p rfl (Zc rfl rfl c_i) <| o_n) (by kernel_rfl) (fun a g hst hb => ?_)
   refine wp_ret ?_
   refine Zq ?_
   obtain rfl := Option.some.inj H0
   exact Z1 rfl hst hb (Zk (s := 2)) (hst.at 0 rfl)
 · replace H0 := Zx hc1 H0
   refine wp_skip ?_
   refine Zr ?_
   obtain ⟨n2, h3, H0⟩ := Zh H0
   refine r_s (L := [(0, _)]) (T := [⟨[.old 0], _, [], [], [5]⟩, ⟨[.op 0 0], _, [], [0], [6]⟩, ⟨[.op 1 0], _, [], [0, 1], [7]⟩, ⟨[.op 2 0], _, [], [0, 1, 2], [8]⟩, ⟨[.op 3 0], _, [], Lr 4, [2]⟩]) (F := [.op 4 0]) (hst.pick [0] rfl) hb Za
     (o_p rfl (Zb rfl rfl u_0) <| o_p rfl (Zu rfl rfl (Opd.imp u_0 (fun _ _ h => Zv h3 h)) (fun _ _ ⟨_, _, _, e, _⟩ => ⟨_, e⟩)) <| o_p rfl (Zd Z4i rfl rfl u_0) <| o_p rfl (Zf ty_3 rfl rfl u_0) <| o_p rfl (Zc rfl rfl u_0) <| o_n) (by kernel_rfl) (fun a g hst hb => ?_)
   refine wp_ret ?_
   obtain rfl := Option.some.inj H0
   exact Z1 rfl hst hb (Zk (s := 2)) (hst.at 0 rfl)
theorem Zix (a0 : Zo) {r : Int} (h : Zfs a0 = some r) : FnOk Tryz.prog 22 [(Z0.pd a0)] (pInt .i64 r) := by
 have H0 := h
 unfold Zfs at H0
 clear h
 refine Zbp (N := 6) Tryz.func22 rfl rfl (Nat.le_of_ble_eq_true rfl) rfl rfl (fun a g0 hst hb => ?_)
 refine r_s (T := [⟨[.old 0], _, [], [], [1]⟩, ⟨[], _, [], [], [2]⟩]) (F := [.op 0 0]) hst hb Za
   (o_p rfl (Zbj rfl rfl u_0) <| o_p rfl (Zc rfl rfl c_i) <| o_n) (by kernel_rfl) (fun a g hst hb => ?_)
 obtain ⟨r1, h2, H0⟩ := Zh H0
 refine r_s (T := [⟨[.old 0], _, [], [], [3]⟩, ⟨[.op 0 0], _, [], [0], [4]⟩, ⟨[.op 1 0], _, [], [0, 1], [5]⟩, ⟨[.op 2 0], _, [], [0, 1, 2], [2]⟩]) (F := [.op 3 0]) hst hb Za
   (o_p rfl (Zd Zo0 rfl rfl u_0) <| o_p rfl (Zf Zc5 rfl rfl u_0) <| o_p rfl (Zn Zmv (Zdi _ h2) rfl rfl (.cons u_0 .nil)) <| o_p rfl (Zc rfl rfl u_0) <| o_n) (by kernel_rfl) (fun a g hst hb => ?_)
 refine wp_ret ?_
 obtain rfl := Option.some.inj H0
 exact Z1 rfl hst hb (Zk (s := 2)) (hst.at 0 rfl)
theorem Zlf (a0 : (List Zl)) {r : (List Zl)} (h : Zb2 a0 = some r) : FnOk Tryz.prog 78 [(Zy.sl.pd a0)] (Zy.sl.pd r) := by
 unfold Zb2 at h
 obtain ⟨hsz, H0⟩ := Zge h
 obtain rfl := Option.some.inj H0
 refine Zbp (N := 8) Tryz.func78 rfl rfl (Nat.le_of_ble_eq_true rfl) rfl rfl (fun a g0 hst hb => ?_)
 refine wp_seq ?_
 refine Zph Za (N := 8) (L := [(0, (Zy.sl.pd a0))]) (T := [⟨[], [(2, (Zy.sl.pd []))], [], [], [2]⟩]) (F := [.old 0]) (by kernel_rfl)
   (Zi8 (OT.plain rfl (Zc rfl rfl (Opd.c (fun g => Zj0 g)))) Zoh) hst hb (fun a g hst hb => ?_)
 refine Zr ?_
 refine wp_seq ?_
 refine wp_seq ?_
 refine Zph Za (N := 8) (L := [(0, (Zy.sl.pd a0))]) (T := [⟨[.old 0], [(3, (Zy.sl.pd a0))], [], [], [3]⟩, ⟨[.op 0 0], [(4, Z4u a0)], [], [0], [4]⟩]) (F := [.old 0, .op 1 0]) (by kernel_rfl)
   (Zi8 (OT.plain rfl (Zb rfl rfl Opd.t0)) (Zi8 (OT.plain rfl (Zz9 Tryz.underlying62 rfl rfl Opd.t0)) Zoh)) hst hb (fun a g hst hb => ?_)
 refine Zr ?_
 obtain ⟨c, hc, hc'⟩ := hst.at 1 rfl
 refine wp_cond_split hc (fun ht => ?_) (fun hf => ?_)
 · obtain rfl := hc' ht
   refine wp_seq ?_
   refine Zph Za (N := 8) (L := []) (T := [⟨[], [(2, (Zy.sl.pd []))], [], [], [2]⟩]) (F := [.op 0 0]) (by kernel_rfl)
     (Zi8 (OT.plain rfl (Zc rfl rfl (Opd.c (fun g => Zj0 g)))) Zoh) (hst.pick [] rfl) hb (fun a g hst hb => ?_)
   refine Zr ?_
   refine wp_ret ?_
   refine Zq ?_
   exact Z1 rfl hst hb (Zk (s := 2)) (hst.at 0 rfl)
 · refine wp_skip ?_
   refine Zr ?_
   refine wp_seq ?_
   have hsz' : (([] : (List Zl)).length + a0.length) * 24 ≤ 140737488355328 := by simpa using hsz
   refine Zph Za (N := 8) (L := [(0, (Zy.sl.pd a0))]) (T := [⟨[], [(5, (pRow Zy 105 5 []))], [6], [], [5]⟩, ⟨[.old 0], [(6, (Zy.sl.pd a0))], [], [], [6]⟩, ⟨[.op 0 0, .op 1 0], [(7, (pRow Zy 105 5 ([] ++ a0)))], [6], [0, 1], [5, 7]⟩, ⟨[.op 2 0], [(2, (pRow Zy 105 5 ([] ++ a0)))], [], [0, 1, 2], [2]⟩]) (F := [.op 3 0]) (by kernel_rfl)
     (Zi8 (OT.plain rfl (Zkz 5 Zdb (xs := []) .nil (by decide) rfl rfl)) (Zi8 (OT.plain rfl (Zb rfl rfl Opd.t0)) (Zi8 (OT.plain rfl (Zft Zdb rfl rfl Opd.t0 (Opd.tl Opd.t0) hsz')) (Zi8 (OT.plain rfl (Zc rfl rfl Opd.t0)) Zoh)))) (hst.pick [0] rfl) hb (fun a g hst hb => ?_)
   refine Zr ?_
   refine wp_ret ?_
   exact Z1 rfl hst hb (Zk (s := 2)) (Zjw (hst.at 0 rfl))
theorem Zfe (a0 : (List Zl)) {r : (List Zl)} (h : Zb2 a0 = some r) : Zup Tryz.prog 78 [(Zy.sl.pd a0)] Zy 105 r := by
 unfold Zb2 at h
 obtain ⟨hsz, H0⟩ := Zge h
 obtain rfl := Option.some.inj H0
 refine Z1c (N := 8) Tryz.func78 rfl rfl (Nat.le_of_ble_eq_true rfl) rfl (fun a g0 h0 hst hb => ?_)
 refine r_s (T := [⟨[], [(2, (Zy.sl.pd []))], [], [], [2]⟩]) (F := [.old 0]) hst hb Za
   (o_p rfl (Zc rfl rfl (Opd.c (fun g => Zj0 g))) <| o_n) (by kernel_rfl) (fun a g hst hb => ?_)
 refine wp_seq ?_
 refine r_s (T := [⟨[.old 0], _, [], [], [3]⟩, ⟨[.op 0 0], _, [], [0], [4]⟩]) (F := [.old 0, .op 1 0]) hst hb Za
   (o_p rfl (Zb rfl rfl u_0) <| o_p rfl (Zz9 Tryz.underlying62 rfl rfl u_0) <| o_n) (by kernel_rfl) (fun a g hst hb => ?_)
 obtain ⟨c, hc, hc'⟩ := hst.at 1 rfl
 refine wp_cond_split hc (fun ht => ?_) (fun hf => ?_)
 · obtain rfl := hc' ht
   refine r_s (L := []) (T := [⟨[], [(2, (pEq (.slice none 0 0)))], [], [], [2]⟩]) (F := [.op 0 0]) (hst.pick [] rfl) hb Za
     (o_p rfl (Zc rfl rfl (Opd.c (fun g => rfl))) <| o_n) (by kernel_rfl) (fun a g hst hb => ?_)
   refine wp_ret ?_
   refine Zq ?_
   exact Zyq rfl hst hb (Zk (s := 2)) ⟨none, hst.at 0 rfl⟩
 · refine wp_skip ?_
   refine Zr ?_
   refine r_s (L := [(0, _)]) (T := [⟨[], [(5, (pOwn Zy 105 5 (some 0) (([] : (List Zl)).map some)))], [6], [], [5]⟩, ⟨[.old 0], _, [], [], [6]⟩, ⟨[.op 0 0, .op 1 0], _, [6], [0, 1], [5, 7]⟩, ⟨[.op 2 0], _, [], [0, 1, 2], [2]⟩]) (F := [.op 3 0]) (hst.pick [0] rfl) hb Za
     (o_p rfl (Z22 (ty := 0) Zdb rfl rfl) <| o_p rfl (Zb rfl rfl u_0) <| o_p rfl (Zt6 Zdb rfl rfl u_0 u_1 (by simpa using hsz)) <| o_p rfl (Zc rfl rfl u_0) <| o_n) (by kernel_rfl) (fun a g hst hb => ?_)
   refine wp_ret ?_
   exact Z31 rfl h0 hst hb (Zk (s := 2)) (hst.at 0 rfl)
theorem Zhk (a0 : Ze) {r : Ze} (h : Zfu a0 = some r) : FnOk Tryz.prog 50 [(Zi.pd a0)] (Zi.pd r) := by
 have H0 := h
 unfold Zfu at H0
 clear h
 refine Zbp (N := 8) Tryz.func50 rfl rfl (Nat.le_of_ble_eq_true rfl) rfl rfl (fun a g0 hst hb => ?_)
 refine r_s (T := [⟨[.old 0], _, [2], [], [1]⟩, ⟨[], [(2, (pBox Zi 2 (default : Ze)))], [3], [], [2]⟩]) (F := [.op 0 0, .op 1 0]) hst hb Za
   (o_p rfl (Zk3 rfl rfl u_0) <| o_p rfl (Zbd (zs := [.int .i64 0, .int .i64 0, .int .i64 0, .int .i64 0, .float .f64 0, .int .i64 0, .string ByteArray.empty, .slice none 0 0]) (by kernel_rfl) (fun g => Zb9 g) rfl rfl) <| o_n) (by kernel_rfl) (fun a g hst hb => ?_)
 obtain ⟨r1, h2, H0⟩ := Zh H0
 refine r_s (T := [⟨[.old 0], _, [], [], [3]⟩, ⟨[.op 0 0], _, [], [0], [4]⟩, ⟨[.op 1 0], _, [], [0, 1], [5]⟩, ⟨[.old 0], _, [], [0, 1, 2], [6]⟩, ⟨[.op 2 0, .op 3 0, .old 0], _, [2], Lr 4, [1, 3, 6]⟩]) (F := [.op 4 0, .old 1]) hst hb Za
   (o_p rfl (Zs Zca (off := 7) (by kernel_rfl) rfl rfl u_0) <| o_p rfl (Zbq Zc1 rfl rfl u_0) <| o_p rfl (Zn Zwk (Zlf _ h2) rfl rfl (.cons u_0 .nil)) <| o_p rfl (Zs Zca (off := 7) (by kernel_rfl) rfl rfl u_0) <| o_p rfl (Zlq Zc1 rfl rfl u_2 u_1 u_0) <| o_n) (by kernel_rfl) (fun a g hst hb => ?_)
 refine r_s (T := [⟨[.old 0], _, [], [], [7]⟩, ⟨[.op 0 0, .old 1], _, [3], [0], [2]⟩]) (F := [.op 1 0]) hst hb Za
   (o_p rfl (Zbw Zbb rfl rfl u_0) <| o_p rfl (Zz Zbb rfl rfl u_1 u_0) <| o_n) (by kernel_rfl) (fun a g hst hb => ?_)
 refine wp_ret ?_
 obtain rfl := Option.some.inj H0
 obtain ⟨u0, hu0, hq0⟩ := Z8 (P := Tryz.prog) Zbb (hst.at 0 rfl)
 exact Z1 rfl hst hb hu0 hq0
theorem Zkq (a0 : Zo) (a1 : ByteArray) {r : Ze × Bool} (h : Zfv a0 a1 = some r) : FnOk Tryz.prog 43 [(Z0.pd a0), (pStr a1)] (pTup [(Zi.pd r.1), (Zbg r.2)]) := by
 have H0 := h
 unfold Zfv at H0
 clear h
 refine Zbp (N := 39) Tryz.func43 rfl rfl (Nat.le_of_ble_eq_true rfl) rfl rfl (fun a g0 hst hb => ?_)
 refine r_s (T := [⟨[.old 0], _, [], [], [2]⟩, ⟨[], [(4, (pBox Zi 4 (default : Ze)))], [5], [], [4]⟩, ⟨[], _, [], [], [5]⟩]) (F := [.old 1, .op 0 0, .op 1 0]) hst hb Za
   (o_p rfl (Zbj rfl rfl u_0) <| o_p rfl (Zbd (zs := [.int .i64 0, .int .i64 0, .int .i64 0, .int .i64 0, .float .f64 0, .int .i64 0, .string ByteArray.empty, .slice none 0 0]) (by kernel_rfl) (fun g => Zb9 g) rfl rfl) <| o_p rfl (Zc rfl rfl c_b) <| o_n) (by kernel_rfl) (fun a g hst hb => ?_)
 refine wp_seq ?_
 refine r_s (T := [⟨[.old 1], _, [], [], [7]⟩, ⟨[.op 0 0], _, [], [0], [8]⟩, ⟨[.op 1 0], _, [], [0, 1], [6]⟩]) (F := [.old 0, .old 2, .op 2 0]) hst hb Za
   (o_p rfl (Zd Zo0 rfl rfl u_0) <| o_p rfl (Zf Zc5 rfl rfl u_0) <| o_p rfl (Zc rfl rfl u_0) <| o_n) (by kernel_rfl) (fun a g hst hb => ?_)
 obtain ⟨z12, hz1, H0⟩ := Zh H0
 refine Zb8 (fun a w => ∃ (y11 : Ze) (g : G), w = g.w ∧ St 39 [(4, (pBox Zi 4 y11))] a g ∧ Base g0 g ∧ (.inr y11) = z12) ?_ ?_
 · rintro a w ⟨y11, g, rfl, hst, hb, rfl⟩
   refine Zr ?_
   refine r_s (T := [⟨[], _, [], [], [38]⟩, ⟨[.op 0 0, .old 0], _, [5], [0], [4]⟩, ⟨[], _, [], [0, 1], [5]⟩]) (F := [.op 1 0, .op 2 0]) hst hb Za
     (o_p rfl (Zma rfl rfl ) <| o_p rfl (Zz Zbb rfl rfl u_1 u_0) <| o_p rfl (Zc rfl rfl c_b) <| o_n) (by kernel_rfl) (fun a g hst hb => ?_)
   refine wp_ret ?_
   obtain rfl := Option.some.inj H0
   obtain ⟨u0, hu0, hq0⟩ := Z8 (P := Tryz.prog) Zbb (hst.at 0 rfl)
   exact Zda rfl hst hb hu0 (Zk (s := 5)) (Zcn hq0 (hst.at 1 rfl))
 · refine wp_block ?_
   refine wp_loop_ghost (fun n a w => ∃ (x1 : Ze) (x2 : shelf_nodeT) (g : G), w = g.w ∧ St 39 [(1, (pStr a1)), (4, (pBox Zi 4 x1)), (6, (Z7.pd x2))] a g ∧ Base g0 g ∧ Zdz a1 n x1 x2 = some z12) (a0.top.hh + 1) ⟨(default : Ze), a0.top, g, rfl, (hst.pick [0, 1, 2] rfl), hb, hz1⟩ (fun n a w hI => ?_)
   obtain ⟨x1, x2, g, rfl, hst, hb, H1⟩ := hI
   cases n with
   | zero => exact absurd H1 (by simp [Zdz])
   | succ n =>
     rw [Zdz] at H1
     refine wp_seq ?_
     refine r_s (T := [⟨[.old 2], _, [], [], [9]⟩, ⟨[.op 0 0], _, [], [0], [10]⟩]) (F := [.old 0, .old 1, .old 2, .op 1 0]) hst hb Za
       (o_p rfl (Zb rfl rfl u_0) <| o_p rfl (Zxa Tryz.underlying25 rfl rfl u_0 (Ze4 _)) <| o_n) (by kernel_rfl) (fun a g hst hb => ?_)
     refine wp_cond_split (hst.bool 3 rfl) (fun hc3 => ?_) (fun hc3 => ?_)
     · replace H1 := Zw hc3 H1
       refine wp_skip ?_
       refine Zr ?_
       refine Zb8 (fun a w => ∃ (j10 : shelf_nodeT) (g : G), w = g.w ∧ St 39 [(1, (pStr a1)), (4, (pBox Zi 4 x1)), (6, (Z7.pd j10))] a g ∧ Base g0 g ∧ Zhf x1 (Zdz a1 n) j10 = some z12) ?_ ?_
       · rintro a w ⟨j10, g, rfl, hst, hb, H1⟩
         unfold Zhf at H1
         exact ⟨n, Nat.lt_succ_self _, x1, j10, g, rfl, (hst.pick [0, 1, 2] rfl), hb, H1⟩
       · refine wp_block ?_
         refine wp_block ?_
         obtain ⟨n4, h5, H1⟩ := Zh H1
         refine r_s (L := [(1, _), (4, _), (6, _)]) (T := [⟨[.old 0], _, [], [], [17]⟩, ⟨[.old 2], _, [], [], [18]⟩, ⟨[.op 1 0], _, [], [1], [19]⟩, ⟨[.op 2 0], _, [], [1, 2], [20]⟩, ⟨[.op 3 0], _, [], [1, 2, 3], [21]⟩, ⟨[.op 0 0, .op 4 0], _, [], Lr 5, [22]⟩, ⟨[.op 5 0], _, [], Lr 6, [16]⟩]) (F := [.old 0, .old 1, .old 2, .op 6 0]) (hst.pick [0, 1, 2] rfl) hb Za
           (o_p rfl (Zb rfl rfl u_0) <| o_p rfl (Zb rfl rfl u_0) <| o_p rfl (Zu rfl rfl (Opd.imp u_0 (fun _ _ h => Zv h5 h)) (fun _ _ ⟨_, _, _, e, _⟩ => ⟨_, e⟩)) <| o_p rfl (Zd Ze0 rfl rfl u_0) <| o_p rfl (Zf ty_9 rfl rfl u_0) <| o_p rfl (Zl9 rfl rfl u_0 u_1) <| o_p rfl (Zc rfl rfl u_0) <| o_n) (by kernel_rfl) (fun a g hst hb => ?_)
         refine wp_cond_split (hst.bool 3 rfl) (fun hc6 => ?_) (fun hc6 => ?_)
         · replace H1 := Zw hc6 H1
           refine r_g (L := [(1, _), (4, _), (6, _)]) (T := [⟨[.old 2], _, [], [], [23]⟩, ⟨[.op 0 0], _, [], [0], [24]⟩, ⟨[.op 1 0], _, [], [0, 1], [25]⟩, ⟨[.op 2 0], _, [], [0, 1, 2], [26]⟩, ⟨[.op 3 0], _, [], Lr 4, [6]⟩]) (F := [.old 0, .old 1, .op 4 0]) (hst.pick [0, 1, 2] rfl) hb Za
             (o_p rfl (Zb rfl rfl u_0) <| o_p rfl (Zu rfl rfl (Opd.imp u_0 (fun _ _ h => Zv h5 h)) (fun _ _ ⟨_, _, _, e, _⟩ => ⟨_, e⟩)) <| o_p rfl (Zd Zea rfl rfl u_0) <| o_p rfl (Zf Zc5 rfl rfl u_0) <| o_p rfl (Zc rfl rfl u_0) <| o_n) (by kernel_rfl) (fun a g hst hb => ?_)
           refine Zba ?_
           refine Zba ?_
           exact ⟨n4.left, g, rfl, (hst.pick [0, 1, 2] rfl), hb, H1⟩
         · replace H1 := Zx hc6 H1
           refine r_s (L := [(1, _), (4, _), (6, _)]) (T := [⟨[.old 0], _, [], [], [28]⟩, ⟨[.old 2], _, [], [], [29]⟩, ⟨[.op 1 0], _, [], [1], [30]⟩, ⟨[.op 2 0], _, [], [1, 2], [31]⟩, ⟨[.op 3 0], _, [], [1, 2, 3], [32]⟩, ⟨[.op 0 0, .op 4 0], _, [], Lr 5, [33]⟩, ⟨[.op 5 0], _, [], Lr 6, [27]⟩]) (F := [.old 0, .old 1, .old 2, .op 6 0]) (hst.pick [0, 1, 2] rfl) hb Za
             (o_p rfl (Zb rfl rfl u_0) <| o_p rfl (Zb rfl rfl u_0) <| o_p rfl (Zu rfl rfl (Opd.imp u_0 (fun _ _ h => Zv h5 h)) (fun _ _ ⟨_, _, _, e, _⟩ => ⟨_, e⟩)) <| o_p rfl (Zd Ze0 rfl rfl u_0) <| o_p rfl (Zf ty_9 rfl rfl u_0) <| o_p rfl (Zuf rfl rfl u_0 u_1) <| o_p rfl (Zc rfl rfl u_0) <| o_n) (by kernel_rfl) (fun a g hst hb => ?_)
           refine wp_cond_split (hst.bool 3 rfl) (fun hc7 => ?_) (fun hc7 => ?_)
           · replace H1 := Zw hc7 H1
             refine r_g (L := [(1, _), (4, _), (6, _)]) (T := [⟨[.old 2], _, [], [], [34]⟩, ⟨[.op 0 0], _, [], [0], [35]⟩, ⟨[.op 1 0], _, [], [0, 1], [36]⟩, ⟨[.op 2 0], _, [], [0, 1, 2], [37]⟩, ⟨[.op 3 0], _, [], Lr 4, [6]⟩]) (F := [.old 0, .old 1, .op 4 0]) (hst.pick [0, 1, 2] rfl) hb Za
               (o_p rfl (Zb rfl rfl u_0) <| o_p rfl (Zu rfl rfl (Opd.imp u_0 (fun _ _ h => Zv h5 h)) (fun _ _ ⟨_, _, _, e, _⟩ => ⟨_, e⟩)) <| o_p rfl (Zd Zey rfl rfl u_0) <| o_p rfl (Zf Zc5 rfl rfl u_0) <| o_p rfl (Zc rfl rfl u_0) <| o_n) (by kernel_rfl) (fun a g hst hb => ?_)
             refine Zba ?_
             refine Zba ?_
             exact ⟨n4.right, g, rfl, (hst.pick [0, 1, 2] rfl), hb, H1⟩
           · replace H1 := Zx hc7 H1
             obtain ⟨r8, h9, H1⟩ := Zh H1
             refine r_s (L := [(4, _), (6, _)]) (T := [⟨[.old 1], _, [], [], [11]⟩, ⟨[.op 0 0], _, [], [0], [12]⟩, ⟨[.op 1 0], _, [], [0, 1], [13]⟩, ⟨[.op 2 0], _, [], [0, 1, 2], [14]⟩, ⟨[.op 3 0], _, [], Lr 4, [15]⟩, ⟨[.op 4 0, .old 0], _, [5], Lr 5, [4]⟩, ⟨[], _, [], Lr 6, [5]⟩]) (F := [.op 5 0, .op 6 0]) (hst.pick [1, 2] rfl) hb Za
               (o_p rfl (Zb rfl rfl u_0) <| o_p rfl (Zu rfl rfl (Opd.imp u_0 (fun _ _ h => Zv h5 h)) (fun _ _ ⟨_, _, _, e, _⟩ => ⟨_, e⟩)) <| o_p rfl (Zd Zg4 rfl rfl u_0) <| o_p rfl (Zf Zbb rfl rfl u_0) <| o_p rfl (Zn Zok (Zhk _ h9) rfl rfl (.cons u_0 .nil)) <| o_p rfl (Zz Zbb rfl rfl u_1 u_0) <| o_p rfl (Zc rfl rfl c_b) <| o_n) (by kernel_rfl) (fun a g hst hb => ?_)
             refine wp_ret ?_
             refine Z2 ?_
             refine Z2 ?_
             refine Zq ?_
             refine Zq ?_
             refine Z2 ?_
             refine Zq ?_
             refine Zq ?_
             obtain rfl := Option.some.inj H1
             obtain rfl := Option.some.inj H0
             obtain ⟨u0, hu0, hq0⟩ := Z8 (P := Tryz.prog) Zbb (hst.at 0 rfl)
             exact Zda rfl hst hb hu0 (Zk (s := 5)) (Zcn hq0 (hst.at 1 rfl))
     · replace H1 := Zx hc3 H1
       refine wp_exit ?_
       refine Zb6 ?_
       refine Zb6 ?_
       refine Zco ?_
       exact ⟨x1, g, rfl, (hst.pick [1] rfl), hb, Option.some.inj H1⟩
theorem Zv4 (a0 : Int) {r : Zcb} (h : Zeh a0 = some r) : FnOk Tryz.prog 72 [(pInt .i64 a0)] (Zc4.pd r) := by
 have H0 := h
 unfold Zeh at H0
 clear h
 refine Zbp (N := 24) Tryz.func72 rfl rfl (Nat.le_of_ble_eq_true rfl) rfl rfl (fun a g0 hst hb => ?_)
 refine r_s (T := [⟨[], [(2, (pBox Zc4 2 (default : Zcb)))], [3], [], [2]⟩]) (F := [.old 0, .op 0 0]) hst hb Za
   (o_p rfl (Zbd (zs := [.bool false, .bool false, .bool false, .bool false, .bool false]) (by kernel_rfl) (fun g => Zrn g) rfl rfl) <| o_n) (by kernel_rfl) (fun a g hst hb => ?_)
 refine wp_seq ?_
 refine r_s (T := [⟨[.old 0], _, [], [], [3]⟩]) (F := [.old 1, .op 0 0]) hst hb Za
   (o_p rfl (Zb rfl rfl u_0) <| o_n) (by kernel_rfl) (fun a g hst hb => ?_)
 refine wp_block ?_
 refine r_s (T := [⟨[.old 1], _, [], [], [5]⟩, ⟨[.op 0 0], _, [], [0], [4]⟩]) (F := [.old 0, .old 1, .op 1 0]) hst hb Za
   (o_p rfl (Zbl rfl rfl u_0 c_i) <| o_p rfl (Zc rfl rfl u_0) <| o_n) (by kernel_rfl) (fun a g hst hb => ?_)
 refine wp_cond_split (hst.bool 2 rfl) (fun hc1 => ?_) (fun hc1 => ?_)
 · replace H0 := Zw hc1 H0
   refine r_s (L := [(2, _)]) (T := [⟨[], _, [], [], [6]⟩, ⟨[.op 0 0, .old 0], _, [3], [0], [2]⟩]) (F := [.op 1 0]) (hst.pick [0] rfl) hb Za
     (o_p rfl (Z3r rfl rfl c_b) <| o_p rfl (Zz Ziu rfl rfl u_1 u_0) <| o_n) (by kernel_rfl) (fun a g hst hb => ?_)
   refine wp_ret ?_
   refine Z2 ?_
   refine Zq ?_
   obtain rfl := Option.some.inj H0
   obtain ⟨u0, hu0, hq0⟩ := Z8 (P := Tryz.prog) Ziu (hst.at 0 rfl)
   exact Z1 rfl hst hb hu0 hq0
 · replace H0 := Zx hc1 H0
   refine wp_seq ?_
   refine r_s (L := [(2, _), (3, _)]) (T := [⟨[.old 1], _, [], [], [8]⟩, ⟨[.op 0 0], _, [], [0], [7]⟩]) (F := [.old 0, .old 1, .op 1 0]) (hst.pick [0, 1] rfl) hb Za
     (o_p rfl (Zbl rfl rfl u_0 c_i) <| o_p rfl (Zc rfl rfl u_0) <| o_n) (by kernel_rfl) (fun a g hst hb => ?_)
   refine Zb8 (fun a w => ∃ (j3 : Bool) (g : G), w = g.w ∧ St 24 [(2, (pBox Zc4 2 (default : Zcb))), (3, (pInt .i64 a0)), (7, (Zbg j3))] a g ∧ Base g0 g ∧ Zka a0 j3 = some r) ?_ ?_
   · rintro a w ⟨j3, g, rfl, hst, hb, H0⟩
     unfold Zka at H0
     refine Zr ?_
     refine wp_cond_split (hst.bool 2 rfl) (fun hc4 => ?_) (fun hc4 => ?_)
     · replace H0 := Zw hc4 H0
       refine r_s (L := [(2, _)]) (T := [⟨[], _, [], [], [10]⟩, ⟨[.op 0 0, .old 0], _, [3], [0], [2]⟩]) (F := [.op 1 0]) (hst.pick [0] rfl) hb Za
         (o_p rfl (Z4j rfl rfl c_b) <| o_p rfl (Zz Ziu rfl rfl u_1 u_0) <| o_n) (by kernel_rfl) (fun a g hst hb => ?_)
       refine wp_ret ?_
       refine Z2 ?_
       refine Zq ?_
       obtain rfl := Option.some.inj H0
       obtain ⟨u0, hu0, hq0⟩ := Z8 (P := Tryz.prog) Ziu (hst.at 0 rfl)
       exact Z1 rfl hst hb hu0 hq0
     · replace H0 := Zx hc4 H0
       refine r_s (L := [(2, _), (3, _)]) (T := [⟨[.old 1], _, [], [], [12]⟩, ⟨[.op 0 0], _, [], [0], [11]⟩]) (F := [.old 0, .old 1, .op 1 0]) (hst.pick [0, 1] rfl) hb Za
         (o_p rfl (Zbl rfl rfl u_0 c_i) <| o_p rfl (Zc rfl rfl u_0) <| o_n) (by kernel_rfl) (fun a g hst hb => ?_)
       refine wp_cond_split (hst.bool 2 rfl) (fun hc5 => ?_) (fun hc5 => ?_)
       · replace H0 := Zw hc5 H0
         refine r_s (L := [(2, _)]) (T := [⟨[], _, [], [], [13]⟩, ⟨[.op 0 0, .old 0], _, [3], [0], [2]⟩]) (F := [.op 1 0]) (hst.pick [0] rfl) hb Za
           (o_p rfl (Z09 rfl rfl c_b c_b) <| o_p rfl (Zz Ziu rfl rfl u_1 u_0) <| o_n) (by kernel_rfl) (fun a g hst hb => ?_)
         refine wp_ret ?_
         refine Z2 ?_
         refine Zq ?_
         obtain rfl := Option.some.inj H0
         obtain ⟨u0, hu0, hq0⟩ := Z8 (P := Tryz.prog) Ziu (hst.at 0 rfl)
         exact Z1 rfl hst hb hu0 hq0
       · replace H0 := Zx hc5 H0
         refine wp_seq ?_
         refine r_s (L := [(2, _), (3, _)]) (T := [⟨[.old 1], _, [], [], [15]⟩, ⟨[.op 0 0], _, [], [0], [14]⟩]) (F := [.old 0, .old 1, .op 1 0]) (hst.pick [0, 1] rfl) hb Za
           (o_p rfl (Zbl rfl rfl u_0 c_i) <| o_p rfl (Zc rfl rfl u_0) <| o_n) (by kernel_rfl) (fun a g hst hb => ?_)
         refine Zb8 (fun a w => ∃ (j8 : Bool) (g : G), w = g.w ∧ St 24 [(2, (pBox Zc4 2 (default : Zcb))), (3, (pInt .i64 a0)), (14, (Zbg j8))] a g ∧ Base g0 g ∧ Zir a0 j8 = some r) ?_ ?_
         · rintro a w ⟨j8, g, rfl, hst, hb, H0⟩
           unfold Zir at H0
           refine Zr ?_
           refine wp_cond_split (hst.bool 2 rfl) (fun hc9 => ?_) (fun hc9 => ?_)
           · replace H0 := Zw hc9 H0
             refine r_s (L := [(2, _)]) (T := [⟨[], _, [], [], [18]⟩, ⟨[.op 0 0, .old 0], _, [3], [0], [2]⟩]) (F := [.op 1 0]) (hst.pick [0] rfl) hb Za
               (o_p rfl (Z4o rfl rfl c_b) <| o_p rfl (Zz Ziu rfl rfl u_1 u_0) <| o_n) (by kernel_rfl) (fun a g hst hb => ?_)
             refine wp_ret ?_
             refine Z2 ?_
             refine Zq ?_
             obtain rfl := Option.some.inj H0
             obtain ⟨u0, hu0, hq0⟩ := Z8 (P := Tryz.prog) Ziu (hst.at 0 rfl)
             exact Z1 rfl hst hb hu0 hq0
           · replace H0 := Zx hc9 H0
             refine wp_seq ?_
             refine r_s (L := [(2, _), (3, _)]) (T := [⟨[.old 1], _, [], [], [20]⟩, ⟨[.op 0 0], _, [], [0], [19]⟩]) (F := [.old 0, .old 1, .op 1 0]) (hst.pick [0, 1] rfl) hb Za
               (o_p rfl (Zbl rfl rfl u_0 c_i) <| o_p rfl (Zc rfl rfl u_0) <| o_n) (by kernel_rfl) (fun a g hst hb => ?_)
             refine Zb8 (fun a w => ∃ (j11 : Bool) (g : G), w = g.w ∧ St 24 [(2, (pBox Zc4 2 (default : Zcb))), (19, (Zbg j11))] a g ∧ Base g0 g ∧ Zj9 j11 = some r) ?_ ?_
             · rintro a w ⟨j11, g, rfl, hst, hb, H0⟩
               unfold Zj9 at H0
               refine Zr ?_
               refine wp_cond_split (hst.bool 1 rfl) (fun hc12 => ?_) (fun hc12 => ?_)
               · replace H0 := Zw hc12 H0
                 refine r_s (L := [(2, _)]) (T := [⟨[], _, [], [], [22]⟩, ⟨[.op 0 0, .old 0], _, [3], [0], [2]⟩]) (F := [.op 1 0]) (hst.pick [0] rfl) hb Za
                   (o_p rfl (Z3t rfl rfl c_b) <| o_p rfl (Zz Ziu rfl rfl u_1 u_0) <| o_n) (by kernel_rfl) (fun a g hst hb => ?_)
                 refine wp_ret ?_
                 refine Z2 ?_
                 refine Zq ?_
                 obtain rfl := Option.some.inj H0
                 obtain ⟨u0, hu0, hq0⟩ := Z8 (P := Tryz.prog) Ziu (hst.at 0 rfl)
                 exact Z1 rfl hst hb hu0 hq0
               · replace H0 := Zx hc12 H0
                 refine wp_skip ?_
                 refine Zba ?_
                 refine Zr ?_
                 refine r_s (L := [(2, _)]) (T := [⟨[], _, [], [], [23]⟩, ⟨[.op 0 0, .old 0], _, [3], [0], [2]⟩]) (F := [.op 1 0]) (hst.pick [0] rfl) hb Za
                   (o_p rfl (Z5s rfl rfl ) <| o_p rfl (Zz Ziu rfl rfl u_1 u_0) <| o_n) (by kernel_rfl) (fun a g hst hb => ?_)
                 refine wp_ret ?_
                 obtain rfl := Option.some.inj H0
                 obtain ⟨u0, hu0, hq0⟩ := Z8 (P := Tryz.prog) Ziu (hst.at 0 rfl)
                 exact Z1 rfl hst hb hu0 hq0
             · refine wp_cond_split (hst.bool 2 rfl) (fun hc10 => ?_) (fun hc10 => ?_)
               · replace H0 := Zw hc10 H0
                 refine wp_skip ?_
                 exact ⟨(a0 == (8 : Int)), g, rfl, (hst.pick [0, 2] rfl), hb, H0⟩
               · replace H0 := Zx hc10 H0
                 refine r_g (L := [(2, _), (3, _)]) (T := [⟨[.old 1], _, [], [], [21]⟩, ⟨[.op 0 0], _, [], [0], [19]⟩]) (F := [.old 0, .op 1 0]) (hst.pick [0, 1] rfl) hb Za
                   (o_p rfl (Zbl rfl rfl u_0 c_i) <| o_p rfl (Zc rfl rfl u_0) <| o_n) (by kernel_rfl) (fun a g hst hb => ?_)
                 exact ⟨(a0 == (9 : Int)), g, rfl, (hst.pick [0, 1] rfl), hb, H0⟩
         · refine wp_cond_split (hst.bool 2 rfl) (fun hc6 => ?_) (fun hc6 => ?_)
           · replace H0 := Zw hc6 H0
             refine wp_skip ?_
             exact ⟨(a0 == (5 : Int)), g, rfl, (hst.pick [0, 1, 2] rfl), hb, H0⟩
           · replace H0 := Zx hc6 H0
             refine r_s (L := [(2, _), (3, _)]) (T := [⟨[.old 1], _, [], [], [16]⟩, ⟨[.op 0 0], _, [], [0], [14]⟩]) (F := [.old 0, .old 1, .op 1 0]) (hst.pick [0, 1] rfl) hb Za
               (o_p rfl (Zbl rfl rfl u_0 c_i) <| o_p rfl (Zc rfl rfl u_0) <| o_n) (by kernel_rfl) (fun a g hst hb => ?_)
             refine wp_cond_split (hst.bool 2 rfl) (fun hc7 => ?_) (fun hc7 => ?_)
             · replace H0 := Zw hc7 H0
               refine wp_skip ?_
               exact ⟨(a0 == (6 : Int)), g, rfl, (hst.pick [0, 1, 2] rfl), hb, H0⟩
             · replace H0 := Zx hc7 H0
               refine r_g (L := [(2, _), (3, _)]) (T := [⟨[.old 1], _, [], [], [17]⟩, ⟨[.op 0 0], _, [], [0], [14]⟩]) (F := [.old 0, .old 1, .op 1 0]) (hst.pick [0, 1] rfl) hb Za
                 (o_p rfl (Zbl rfl rfl u_0 c_i) <| o_p rfl (Zc rfl rfl u_0) <| o_n) (by kernel_rfl) (fun a g hst hb => ?_)
               exact ⟨(a0 == (7 : Int)), g, rfl, (hst.pick [0, 1, 2] rfl), hb, H0⟩
   · refine wp_cond_split (hst.bool 2 rfl) (fun hc2 => ?_) (fun hc2 => ?_)
     · replace H0 := Zw hc2 H0
       refine wp_skip ?_
       exact ⟨(a0 == (2 : Int)), g, rfl, (hst.pick [0, 1, 2] rfl), hb, H0⟩
     · replace H0 := Zx hc2 H0
       refine r_g (L := [(2, _), (3, _)]) (T := [⟨[.old 1], _, [], [], [9]⟩, ⟨[.op 0 0], _, [], [0], [7]⟩]) (F := [.old 0, .old 1, .op 1 0]) (hst.pick [0, 1] rfl) hb Za
         (o_p rfl (Zbl rfl rfl u_0 c_i) <| o_p rfl (Zc rfl rfl u_0) <| o_n) (by kernel_rfl) (fun a g hst hb => ?_)
       exact ⟨(a0 == (3 : Int)), g, rfl, (hst.pick [0, 1, 2] rfl), hb, H0⟩
theorem Zyu {r : Nat} (h : Zp8 = some r) : FnOk Tryz.prog 139 [] (pFlt r) := by
 have H0 := h
 unfold Zp8 at H0
 clear h
 refine Zbp (N := 2) Tryz.func139 rfl rfl (Nat.le_of_ble_eq_true rfl) rfl rfl (fun a g0 hst hb => ?_)
 refine r_s (T := [⟨[], _, [], [], [0]⟩]) (F := []) hst hb Za
   (o_p rfl (Zc rfl rfl c_f) <| o_n) (by kernel_rfl) (fun a g hst hb => ?_)
 refine r_s (T := [⟨[], _, [], [], [1]⟩, ⟨[.op 0 0], _, [], [0], [0]⟩]) (F := [.op 1 0]) hst hb Za
   (o_p rfl (Zoq Zw6 rfl rfl c_i) <| o_p rfl (Zc rfl rfl u_0) <| o_n) (by kernel_rfl) (fun a g hst hb => ?_)
 refine wp_ret ?_
 obtain rfl := Option.some.inj H0
 exact Z1 rfl hst hb (Zk (s := 0)) (hst.at 0 rfl)
theorem Zhd (a0 : Nat) {r : Nat} (h : Zfx a0 = some r) : FnOk Tryz.prog 116 [(pFlt a0)] (pFlt r) := by
 have H0 := h
 unfold Zfx at H0
 clear h
 refine Zbp (N := 8) Tryz.func116 rfl rfl (Nat.le_of_ble_eq_true rfl) rfl rfl (fun a g0 hst hb => ?_)
 refine r_s (T := [⟨[], _, [], [], [2]⟩]) (F := [.old 0]) hst hb Za
   (o_p rfl (Zc rfl rfl c_f) <| o_n) (by kernel_rfl) (fun a g hst hb => ?_)
 refine wp_seq ?_
 refine r_s (T := [⟨[.old 0], _, [], [], [3]⟩, ⟨[.old 0], _, [], [], [4]⟩, ⟨[.op 0 0, .op 1 0], _, [], [0, 1], [5]⟩]) (F := [.old 0, .op 2 0]) hst hb Za
   (o_p rfl (Zb rfl rfl u_0) <| o_p rfl (Zb rfl rfl u_0) <| o_p rfl (Z0e rfl rfl u_0 u_1) <| o_n) (by kernel_rfl) (fun a g hst hb => ?_)
 refine wp_cond_split (hst.bool 1 rfl) (fun hc1 => ?_) (fun hc1 => ?_)
 · replace H0 := Zw hc1 H0
   obtain ⟨r2, h3, H0⟩ := Zh H0
   refine r_s (L := []) (T := [⟨[], _, [], [], [6]⟩, ⟨[.op 0 0], _, [], [0], [2]⟩]) (F := [.op 1 0]) (hst.pick [] rfl) hb Za
     (o_p rfl (Zn Z7k (Zyu h3) rfl rfl .nil) <| o_p rfl (Zc rfl rfl u_0) <| o_n) (by kernel_rfl) (fun a g hst hb => ?_)
   refine wp_ret ?_
   refine Zq ?_
   obtain rfl := Option.some.inj H0
   exact Z1 rfl hst hb (Zk (s := 2)) (hst.at 0 rfl)
 · replace H0 := Zx hc1 H0
   refine wp_skip ?_
   refine Zr ?_
   refine r_s (L := [(0, _)]) (T := [⟨[.old 0], _, [], [], [7]⟩, ⟨[.op 0 0], _, [], [0], [2]⟩]) (F := [.op 1 0]) (hst.pick [0] rfl) hb Za
     (o_p rfl (Zb rfl rfl u_0) <| o_p rfl (Zc rfl rfl u_0) <| o_n) (by kernel_rfl) (fun a g hst hb => ?_)
   refine wp_ret ?_
   obtain rfl := Option.some.inj H0
   exact Z1 rfl hst hb (Zk (s := 2)) (hst.at 0 rfl)
theorem Zni (a0 : Nat) {r : Int} (h : Zls a0 = some r) : FnOk Tryz.prog 91 [(pFlt a0)] (pInt .u64 r) := by
 have H0 := h
 unfold Zls at H0
 clear h
 refine Zbp (N := 14) Tryz.func91 rfl rfl (Nat.le_of_ble_eq_true rfl) rfl rfl (fun a g0 hst hb => ?_)
 refine r_s (T := [⟨[], _, [], [], [2]⟩]) (F := [.old 0]) hst hb Za
   (o_p rfl (Zc rfl rfl c_i) <| o_n) (by kernel_rfl) (fun a g hst hb => ?_)
 obtain ⟨r1, h2, H0⟩ := Zh H0
 refine r_s (T := [⟨[.old 0], _, [], [], [4]⟩, ⟨[.op 0 0], _, [], [0], [5]⟩, ⟨[.op 1 0], _, [], [0, 1], [6]⟩, ⟨[.op 2 0], _, [], [0, 1, 2], [3]⟩]) (F := [.op 3 0]) hst hb Za
   (o_p rfl (Zb rfl rfl u_0) <| o_p rfl (Zn Zm4 (Zhd _ h2) rfl rfl (.cons u_0 .nil)) <| o_p rfl (Zo3 Zqp rfl rfl u_0) <| o_p rfl (Zc rfl rfl u_0) <| o_n) (by kernel_rfl) (fun a g hst hb => ?_)
 refine wp_seq ?_
 refine r_s (T := [⟨[.old 0], _, [], [], [7]⟩, ⟨[.op 0 0], _, [], [0], [8]⟩, ⟨[.op 1 0], _, [], [0, 1], [9]⟩]) (F := [.old 0, .op 2 0]) hst hb Za
   (o_p rfl (Zb rfl rfl u_0) <| o_p rfl (Z8a rfl rfl u_0 c_i) <| o_p rfl (Zc6 rfl rfl u_0 c_i) <| o_n) (by kernel_rfl) (fun a g hst hb => ?_)
 refine wp_cond_split (hst.bool 1 rfl) (fun hc3 => ?_) (fun hc3 => ?_)
 · replace H0 := Zw hc3 H0
   refine r_s (L := [(3, _)]) (T := [⟨[.old 0], _, [], [], [10]⟩, ⟨[.op 0 0], _, [], [0], [11]⟩, ⟨[.op 1 0], _, [], [0, 1], [2]⟩]) (F := [.op 2 0]) (hst.pick [0] rfl) hb Za
     (o_p rfl (Zb rfl rfl u_0) <| o_p rfl (Z5l rfl rfl rfl u_0) <| o_p rfl (Zc rfl rfl u_0) <| o_n) (by kernel_rfl) (fun a g hst hb => ?_)
   refine wp_ret ?_
   refine Zq ?_
   obtain rfl := Option.some.inj H0
   exact Z1 rfl hst hb (Zk (s := 2)) (hst.at 0 rfl)
 · replace H0 := Zx hc3 H0
   refine wp_skip ?_
   refine Zr ?_
   refine r_s (L := [(3, _)]) (T := [⟨[.old 0], _, [], [], [12]⟩, ⟨[.op 0 0], _, [], [0], [13]⟩, ⟨[.op 1 0], _, [], [0, 1], [2]⟩]) (F := [.op 2 0]) (hst.pick [0] rfl) hb Za
     (o_p rfl (Zb rfl rfl u_0) <| o_p rfl (Z99 rfl rfl u_0 c_i) <| o_p rfl (Zc rfl rfl u_0) <| o_n) (by kernel_rfl) (fun a g hst hb => ?_)
   refine wp_ret ?_
   obtain rfl := Option.some.inj H0
   exact Z1 rfl hst hb (Zk (s := 2)) (hst.at 0 rfl)
theorem Zke (a0 : Nat) (a1 : Nat) {r : Bool} (h : Zjd a0 a1 = some r) : FnOk Tryz.prog 64 [(pFlt a0), (pFlt a1)] (Zbg r) := by
 have H0 := h
 unfold Zjd at H0
 clear h
 refine Zbp (N := 10) Tryz.func64 rfl rfl (Nat.le_of_ble_eq_true rfl) rfl rfl (fun a g0 hst hb => ?_)
 refine r_s (T := [⟨[], _, [], [], [4]⟩]) (F := [.old 0, .old 1]) hst hb Za
   (o_p rfl (Zc rfl rfl c_b) <| o_n) (by kernel_rfl) (fun a g hst hb => ?_)
 obtain ⟨r1, h2, H0⟩ := Zh H0; obtain ⟨r3, h4, H0⟩ := Zh H0
 refine r_s (T := [⟨[.old 0], _, [], [], [5]⟩, ⟨[.op 0 0], _, [], [0], [6]⟩, ⟨[.old 1], _, [], [], [7]⟩, ⟨[.op 2 0], _, [], [0, 1, 2], [8]⟩, ⟨[.op 1 0, .op 3 0], _, [], Lr 4, [9]⟩, ⟨[.op 4 0], _, [], Lr 5, [4]⟩]) (F := [.op 5 0]) hst hb Za
   (o_p rfl (Zb rfl rfl u_0) <| o_p rfl (Zn Zwp (Zni _ h2) rfl rfl (.cons u_0 .nil)) <| o_p rfl (Zb rfl rfl u_0) <| o_p rfl (Zn Zwp (Zni _ h4) rfl rfl (.cons u_0 .nil)) <| o_p rfl (Zbl rfl rfl u_0 u_1) <| o_p rfl (Zc rfl rfl u_0) <| o_n) (by kernel_rfl) (fun a g hst hb => ?_)
 refine wp_ret ?_
 obtain rfl := Option.some.inj H0
 exact Z1 rfl hst hb (Zk (s := 4)) (hst.at 0 rfl)
theorem Zy9 (a0 : Ze) (a1 : Zcb) {r : Bool} (h : Zn1 a0 a1 = some r) : FnOk Tryz.prog 73 [(Zi.pd a0), (Zc4.pd a1)] (Zbg r) := by
 have H0 := h
 unfold Zn1 at H0
 clear h
 refine Zbp (N := 59) Tryz.func73 rfl rfl (Nat.le_of_ble_eq_true rfl) rfl rfl (fun a g0 hst hb => ?_)
 refine r_s (T := [⟨[.old 0], _, [], [], [2]⟩, ⟨[.old 1], _, [], [], [3]⟩, ⟨[], _, [], [], [4]⟩]) (F := [.op 0 0, .op 1 0]) hst hb Za
   (o_p rfl (Zbj rfl rfl u_0) <| o_p rfl (Zbj rfl rfl u_0) <| o_p rfl (Zc rfl rfl c_b) <| o_n) (by kernel_rfl) (fun a g hst hb => ?_)
 obtain ⟨r1, h2, H0⟩ := Zh H0
 refine r_s (T := ⟨[.old 1], _, [], [], [5]⟩ :: ⟨[.op 0 0], _, [], [0], [6]⟩ :: ⟨[.op 1 0], _, [], [0, 1], [7]⟩ :: ⟨[.op 2 0, .old 0], _, [], [0, 1, 2], [8]⟩ :: ⟨[.op 2 0, .op 3 0], _, [], Lr 4, [9]⟩ :: ⟨[.op 2 0, .op 4 0], _, [], Lr 5, [10]⟩ :: ⟨[.op 2 0, .op 5 0], _, [], Lr 6, [11]⟩ :: ⟨[.op 6 0], _, [], Lr 7, [12]⟩ :: ⟨[.op 7 0, .old 1], _, [], Lr 8, [13]⟩ :: ⟨[.op 7 0, .op 8 0], _, [], Lr 9, [14]⟩ :: ⟨[.op 7 0, .op 9 0], _, [], Lr 10, [15]⟩ :: ⟨[.op 10 0, .old 0], _, [], Lr 11, [16]⟩ :: ⟨[.op 10 0, .op 11 0], _, [], Lr 12, [17]⟩ :: ⟨[.op 10 0, .op 12 0], _, [], Lr 13, [18]⟩ :: ⟨[.op 7 0, .op 10 0, .op 13 0], _, [], Lr 14, [19]⟩ :: ⟨[.op 7 0, .op 14 0], _, [], Lr 15, [20]⟩ :: ⟨[.op 15 0], _, [], Lr 16, [21]⟩ :: ⟨[.op 16 0, .old 1], _, [], Lr 17, [22]⟩ :: ⟨[.op 16 0, .op 17 0], _, [], Lr 18, [23]⟩ :: ⟨[.op 16 0, .op 18 0], _, [], Lr 19, [24]⟩ :: ⟨[.op 19 0, .old 0], _, [], Lr 20, [25]⟩ :: ⟨[.op 19 0, .op 20 0], _, [], Lr 21, [26]⟩ :: ⟨[.op 19 0, .op 21 0], _, [], Lr 22, [27]⟩ :: ⟨[.op 19 0, .op 22 0], _, [], Lr 23, [28]⟩ :: ⟨[.op 23 0, .old 0], _, [], Lr 24, [29]⟩ :: ⟨[.op 23 0, .op 24 0], _, [], Lr 25, [30]⟩ :: ⟨[.op 23 0, .op 25 0], _, [], Lr 26, [31]⟩ :: ⟨[.op 19 0, .op 23 0, .op 26 0], _, [], Lr 27, [32]⟩ :: ⟨[.op 16 0, .op 19 0, .op 27 0], _, [], Lr 28, [33]⟩ :: ⟨[.op 16 0, .op 28 0], _, [], Lr 29, [34]⟩ :: ⟨[.op 29 0], _, [], Lr 30, [35]⟩ :: ⟨[.op 30 0, .old 1], _, [], Lr 31, [36]⟩ :: ⟨[.op 30 0, .op 31 0], _, [], Lr 32, [37]⟩ :: ⟨[.op 30 0, .op 32 0], _, [], Lr 33, [38]⟩ :: ⟨[.op 33 0, .old 0], _, [], Lr 34, [39]⟩ :: ⟨[.op 33 0, .op 34 0], _, [], Lr 35, [40]⟩ :: ⟨[.op 33 0, .op 35 0], _, [], Lr 36, [41]⟩ :: ⟨[.op 30 0, .op 33 0, .op 36 0], _, [], Lr 37, [42]⟩ :: ⟨[.op 30 0, .op 37 0], _, [], Lr 38, [43]⟩ :: ⟨[.op 38 0], _, [], Lr 39, [44]⟩ :: ⟨[.op 39 0, .old 1], _, [], Lr 40, [45]⟩ :: ⟨[.op 39 0, .op 40 0], _, [], Lr 41, [46]⟩ :: ⟨[.op 39 0, .op 41 0], _, [], Lr 42, [47]⟩ :: ⟨[.op 42 0, .old 0], _, [], Lr 43, [48]⟩ :: ⟨[.op 42 0, .op 43 0], _, [], Lr 44, [49]⟩ :: ⟨[.op 42 0, .op 44 0], _, [], Lr 45, [50]⟩ :: ⟨[.op 42 0, .op 45 0], _, [], Lr 46, [51]⟩ :: ⟨[.op 46 0, .old 0], _, [], Lr 47, [52]⟩ :: ⟨[.op 46 0, .op 47 0], _, [], Lr 48, [53]⟩ :: ⟨[.op 46 0, .op 48 0], _, [], Lr 49, [54]⟩ :: ⟨[.op 46 0, .op 49 0], _, [], Lr 50, [55]⟩ :: ⟨[.op 42 0, .op 46 0, .op 50 0], _, [], Lr 51, [56]⟩ :: ⟨[.op 39 0, .op 42 0, .op 51 0], _, [], Lr 52, [57]⟩ :: ⟨[.op 39 0, .op 52 0], _, [], Lr 53, [58]⟩ :: ⟨[.op 53 0], _, [], Lr 54, [4]⟩ :: []) (F := [.op 54 0]) hst hb Za
   (o_p rfl (Zd Z4f rfl rfl u_0) <| o_p rfl (Zf ty_4 rfl rfl u_0) <| o_p rfl (Zb rfl rfl u_0) <| o_g (g_f rfl rfl rfl (fun hG => Zd Zia rfl rfl u_0)) <| o_g (g_f rfl rfl rfl (fun hG => Zf ty_9 rfl rfl (Opd.gd hG u_0))) <| o_g (g_f rfl rfl rfl (fun hG => Zkl rfl rfl (Opd.gd hG u_0) c_s)) <| o_p rfl (Zbt rfl rfl u_0 (fun hz => (Opd.gd (bNF hz) u_1))) <| o_p rfl (Zb rfl rfl u_0) <| o_g (g_t rfl rfl rfl (fun hG => Zd Z3z rfl rfl u_0)) <| o_g (g_t rfl rfl rfl (fun hG => Zf ty_4 rfl rfl (Opd.gd hG u_0))) <| o_g (g_t rfl rfl rfl (fun hG => Zb rfl rfl (Opd.gd hG u_0))) <| o_g (g_fi rfl rfl rfl (fun hG => Zd Zcs rfl rfl u_0)) <| o_g (g_fi rfl rfl rfl (fun hG => Zf ty_2 rfl rfl (Opd.gd hG u_0))) <| o_g (g_fi rfl rfl rfl (fun hG => Zbl rfl rfl (Opd.gd hG u_0) c_i)) <| o_g (g_t rfl rfl rfl (fun hG => Zbt rfl rfl (Opd.gd hG u_0) (fun hz => (Opd.gd (bA hG (bNF hz)) u_1)))) <| o_p rfl (Zbc rfl rfl u_0 (fun hz => (Opd.gd hz u_1))) <| o_p rfl (Zb rfl rfl u_0) <| o_g (g_t rfl rfl rfl (fun hG => Zd Zyk rfl rfl u_0)) <| o_g (g_t rfl rfl rfl (fun hG => Zf ty_4 rfl rfl (Opd.gd hG u_0))) <| o_g (g_t rfl rfl rfl (fun hG => Zb rfl rfl (Opd.gd hG u_0))) <| o_g (g_fi rfl rfl rfl (fun hG => Zd Ziq rfl rfl u_0)) <| o_g (g_fi rfl rfl rfl (fun hG => Zf ty_2 rfl rfl (Opd.gd hG u_0))) <| o_g (g_fi rfl rfl rfl (fun hG => Zbl rfl rfl (Opd.gd hG u_0) c_i)) <| o_g (g_fi rfl rfl rfl (fun hG => Zb rfl rfl (Opd.gd hG u_0))) <| o_g (g_ti rfl rfl rfl (fun hG => Zd Zip rfl rfl u_0)) <| o_g (g_ti rfl rfl rfl (fun hG => Zf ty_2 rfl rfl (Opd.gd hG u_0))) <| o_g (g_ti rfl rfl rfl (fun hG => Zbl rfl rfl (Opd.gd hG u_0) c_i)) <| o_g (g_fi rfl rfl rfl (fun hG => Zbc rfl rfl (Opd.gd hG u_0) (fun hz => (Opd.gd (bA hG hz) u_1)))) <| o_g (g_t rfl rfl rfl (fun hG => Zbt rfl rfl (Opd.gd hG u_0) (fun hz => (Opd.gd (bA hG (bNF hz)) u_1)))) <| o_p rfl (Zbc rfl rfl u_0 (fun hz => (Opd.gd hz u_1))) <| o_p rfl (Zb rfl rfl u_0) <| o_g (g_t rfl rfl rfl (fun hG => Zd Z39 rfl rfl u_0)) <| o_g (g_t rfl rfl rfl (fun hG => Zf ty_4 rfl rfl (Opd.gd hG u_0))) <| o_g (g_t rfl rfl rfl (fun hG => Zb rfl rfl (Opd.gd hG u_0))) <| o_g (g_fi rfl rfl rfl (fun hG => Zd Zfj rfl rfl u_0)) <| o_g (g_fi rfl rfl rfl (fun hG => Zf Zcv rfl rfl (Opd.gd hG u_0))) <| o_g (g_fi rfl rfl rfl (fun hG => Zn Zr1 (Zke _ _ (Zbm h2 hG)) rfl rfl (.cons (Opd.gd hG u_0) (.cons c_f .nil)))) <| o_g (g_t rfl rfl rfl (fun hG => Zbt rfl rfl (Opd.gd hG u_0) (fun hz => (Opd.gd (bA hG (bNF hz)) u_1)))) <| o_p rfl (Zbc rfl rfl u_0 (fun hz => (Opd.gd hz u_1))) <| o_p rfl (Zb rfl rfl u_0) <| o_g (g_t rfl rfl rfl (fun hG => Zd Zx8 rfl rfl u_0)) <| o_g (g_t rfl rfl rfl (fun hG => Zf ty_4 rfl rfl (Opd.gd hG u_0))) <| o_g (g_t rfl rfl rfl (fun hG => Zb rfl rfl (Opd.gd hG u_0))) <| o_g (g_fi rfl rfl rfl (fun hG => Zd Zf9 rfl rfl u_0)) <| o_g (g_fi rfl rfl rfl (fun hG => Zf ty_3 rfl rfl (Opd.gd hG u_0))) <| o_g (g_fi rfl rfl rfl (fun hG => Zbl rfl rfl (Opd.gd hG u_0) c_i)) <| o_g (g_fi rfl rfl rfl (fun hG => Zb rfl rfl (Opd.gd hG u_0))) <| o_g (g_ti rfl rfl rfl (fun hG => Zd Zca rfl rfl u_0)) <| o_g (g_ti rfl rfl rfl (fun hG => Zf Zc1 rfl rfl (Opd.gd hG u_0))) <| o_g (g_ti rfl rfl rfl (fun hG => Zbu Tryz.underlying62 rfl rfl (Opd.gd hG u_0))) <| o_g (g_ti rfl rfl rfl (fun hG => Zbl rfl rfl (Opd.gd hG u_0) c_i)) <| o_g (g_fi rfl rfl rfl (fun hG => Zbc rfl rfl (Opd.gd hG u_0) (fun hz => (Opd.gd (bA hG hz) u_1)))) <| o_g (g_t rfl rfl rfl (fun hG => Zbt rfl rfl (Opd.gd hG u_0) (fun hz => (Opd.gd (bA hG (bNF hz)) u_1)))) <| o_p rfl (Zbc rfl rfl u_0 (fun hz => (Opd.gd hz u_1))) <| o_p rfl (Zc rfl rfl u_0) <| o_n) (by kernel_rfl) (fun a g hst hb => ?_)
 refine wp_ret ?_
 obtain rfl := Option.some.inj H0
 exact Z1 rfl hst hb (Zk (s := 4)) (hst.at 0 rfl)
theorem Zne (a0 : Nat) {r : Bool} (h : Zj6 a0 = some r) : FnOk Tryz.prog 74 [(pFlt a0)] (Zbg r) := by
 have H0 := h
 unfold Zj6 at H0
 clear h
 refine Zbp (N := 9) Tryz.func74 rfl rfl (Nat.le_of_ble_eq_true rfl) rfl rfl (fun a g0 hst hb => ?_)
 refine r_s (T := [⟨[], _, [], [], [2]⟩]) (F := [.old 0]) hst hb Za
   (o_p rfl (Zc rfl rfl c_b) <| o_n) (by kernel_rfl) (fun a g hst hb => ?_)
 obtain ⟨r1, h2, H0⟩ := Zh H0
 refine r_s (T := [⟨[.old 0], _, [], [], [3]⟩, ⟨[.op 0 0], _, [], [0], [4]⟩, ⟨[.old 0], _, [], [], [5]⟩, ⟨[.op 2 0], _, [], [0, 1, 2], [6]⟩, ⟨[.op 3 0], _, [], Lr 4, [7]⟩, ⟨[.op 1 0, .op 4 0], _, [], Lr 5, [8]⟩, ⟨[.op 5 0], _, [], Lr 6, [2]⟩]) (F := [.op 6 0]) hst hb Za
   (o_p rfl (Zb rfl rfl u_0) <| o_p rfl (Zo3 Zqp rfl rfl u_0) <| o_p rfl (Zb rfl rfl u_0) <| o_p rfl (Zn Zm4 (Zhd _ h2) rfl rfl (.cons u_0 .nil)) <| o_p rfl (Zo3 Zqp rfl rfl u_0) <| o_p rfl (Zbl rfl rfl u_0 u_1) <| o_p rfl (Zc rfl rfl u_0) <| o_n) (by kernel_rfl) (fun a g hst hb => ?_)
 refine wp_ret ?_
 obtain rfl := Option.some.inj H0
 exact Z1 rfl hst hb (Zk (s := 2)) (hst.at 0 rfl)
theorem Zot (a0 : Nat) (a1 : Nat) {r : Bool} (h : Zln a0 a1 = some r) : FnOk Tryz.prog 135 [(pFlt a0), (pFlt a1)] (Zbg r) := by
 have H0 := h
 unfold Zln at H0
 clear h
 refine Zbp (N := 10) Tryz.func135 rfl rfl (Nat.le_of_ble_eq_true rfl) rfl rfl (fun a g0 hst hb => ?_)
 refine r_s (T := [⟨[], _, [], [], [4]⟩]) (F := [.old 0, .old 1]) hst hb Za
   (o_p rfl (Zc rfl rfl c_b) <| o_n) (by kernel_rfl) (fun a g hst hb => ?_)
 obtain ⟨r1, h2, H0⟩ := Zh H0; obtain ⟨r3, h4, H0⟩ := Zh H0
 refine r_s (T := [⟨[.old 0], _, [], [], [5]⟩, ⟨[.op 0 0], _, [], [0], [6]⟩, ⟨[.old 1], _, [], [], [7]⟩, ⟨[.op 2 0], _, [], [0, 1, 2], [8]⟩, ⟨[.op 1 0, .op 3 0], _, [], Lr 4, [9]⟩, ⟨[.op 4 0], _, [], Lr 5, [4]⟩]) (F := [.op 5 0]) hst hb Za
   (o_p rfl (Zb rfl rfl u_0) <| o_p rfl (Zn Zwp (Zni _ h2) rfl rfl (.cons u_0 .nil)) <| o_p rfl (Zb rfl rfl u_0) <| o_p rfl (Zn Zwp (Zni _ h4) rfl rfl (.cons u_0 .nil)) <| o_p rfl (Zcc rfl rfl u_0 u_1) <| o_p rfl (Zc rfl rfl u_0) <| o_n) (by kernel_rfl) (fun a g hst hb => ?_)
 refine wp_ret ?_
 obtain rfl := Option.some.inj H0
 exact Z1 rfl hst hb (Zk (s := 4)) (hst.at 0 rfl)
theorem Znd (a0 : Zl) (a1 : Zl) {r : Bool} (h : Zj4 a0 a1 = some r) : FnOk Tryz.prog 117 [(Zy.pd a0), (Zy.pd a1)] (Zbg r) := by
 have H0 := h
 unfold Zj4 at H0
 clear h
 refine Zbp (N := 21) Tryz.func117 rfl rfl (Nat.le_of_ble_eq_true rfl) rfl rfl (fun a g0 hst hb => ?_)
 refine r_s (T := [⟨[.old 0], _, [], [], [2]⟩, ⟨[.old 1], _, [], [], [3]⟩, ⟨[], _, [], [], [4]⟩]) (F := [.op 0 0, .op 1 0]) hst hb Za
   (o_p rfl (Zbj rfl rfl u_0) <| o_p rfl (Zbj rfl rfl u_0) <| o_p rfl (Zc rfl rfl c_b) <| o_n) (by kernel_rfl) (fun a g hst hb => ?_)
 refine wp_seq ?_
 obtain ⟨r1, h2, H0⟩ := Zh H0
 refine r_s (T := [⟨[.old 0], _, [], [], [5]⟩, ⟨[.op 0 0], _, [], [0], [6]⟩, ⟨[.old 1], _, [], [], [7]⟩, ⟨[.op 2 0], _, [], [2], [8]⟩, ⟨[.op 1 0, .op 3 0], _, [], Lr 4, [9]⟩, ⟨[.op 4 0], _, [], Lr 5, [10]⟩]) (F := [.old 0, .old 1, .op 5 0]) hst hb Za
   (o_p rfl (Zd Ze8 rfl rfl u_0) <| o_p rfl (Zf Zcv rfl rfl u_0) <| o_p rfl (Zd Ze8 rfl rfl u_0) <| o_p rfl (Zf Zcv rfl rfl u_0) <| o_p rfl (Zn Zr1 (Zke _ _ h2) rfl rfl (.cons u_0 (.cons u_1 .nil))) <| o_p rfl (Zb7 rfl rfl u_0) <| o_n) (by kernel_rfl) (fun a g hst hb => ?_)
 refine wp_cond_split (hst.bool 2 rfl) (fun hc3 => ?_) (fun hc3 => ?_)
 · replace H0 := Zw hc3 H0
   obtain ⟨r4, h5, H0⟩ := Zh H0
   refine r_s (L := [(2, _), (3, _)]) (T := [⟨[.old 1], _, [], [], [11]⟩, ⟨[.op 0 0], _, [], [0], [12]⟩, ⟨[.old 0], _, [], [], [13]⟩, ⟨[.op 2 0], _, [], [2], [14]⟩, ⟨[.op 1 0, .op 3 0], _, [], Lr 4, [15]⟩, ⟨[.op 4 0], _, [], Lr 5, [4]⟩]) (F := [.op 5 0]) (hst.pick [0, 1] rfl) hb Za
     (o_p rfl (Zd Ze8 rfl rfl u_0) <| o_p rfl (Zf Zcv rfl rfl u_0) <| o_p rfl (Zd Ze8 rfl rfl u_0) <| o_p rfl (Zf Zcv rfl rfl u_0) <| o_p rfl (Zn Zxh (Zot _ _ h5) rfl rfl (.cons u_0 (.cons u_1 .nil))) <| o_p rfl (Zc rfl rfl u_0) <| o_n) (by kernel_rfl) (fun a g hst hb => ?_)
   refine wp_ret ?_
   refine Zq ?_
   obtain rfl := Option.some.inj H0
   exact Z1 rfl hst hb (Zk (s := 4)) (hst.at 0 rfl)
 · replace H0 := Zx hc3 H0
   refine wp_skip ?_
   refine Zr ?_
   refine r_s (L := [(2, _), (3, _)]) (T := [⟨[.old 0], _, [], [], [16]⟩, ⟨[.op 0 0], _, [], [0], [17]⟩, ⟨[.old 1], _, [], [], [18]⟩, ⟨[.op 2 0], _, [], [2], [19]⟩, ⟨[.op 1 0, .op 3 0], _, [], Lr 4, [20]⟩, ⟨[.op 4 0], _, [], Lr 5, [4]⟩]) (F := [.op 5 0]) (hst.pick [0, 1] rfl) hb Za
     (o_p rfl (Zd Zdo rfl rfl u_0) <| o_p rfl (Zf ty_9 rfl rfl u_0) <| o_p rfl (Zd Zdo rfl rfl u_0) <| o_p rfl (Zf ty_9 rfl rfl u_0) <| o_p rfl (Zl9 rfl rfl u_0 u_1) <| o_p rfl (Zc rfl rfl u_0) <| o_n) (by kernel_rfl) (fun a g hst hb => ?_)
   refine wp_ret ?_
   obtain rfl := Option.some.inj H0
   exact Z1 rfl hst hb (Zk (s := 4)) (hst.at 0 rfl)
theorem Zx7 (a0 : Int) (a1 : List Zl) {r : Int} (h : Zna a0 a1 = some r) : FnOk Tryz.prog 75 [(pInt .i64 a0), (Zy.sl.pd a1)] (pInt .i64 r) := by
 have H0 := h
 unfold Zna at H0
 clear h
 refine Zbp (N := 70) Tryz.func75 rfl rfl (Nat.le_of_ble_eq_true rfl) rfl rfl (fun a g0 hst hb => ?_)
 refine r_s (T := [⟨[], _, [], [], [4]⟩]) (F := [.old 0, .old 1]) hst hb Za
   (o_p rfl (Zc rfl rfl c_i) <| o_n) (by kernel_rfl) (fun a g hst hb => ?_)
 refine wp_seq ?_
 refine r_s (T := [⟨[.old 1], _, [], [], [7]⟩, ⟨[.op 0 0], _, [], [0], [8]⟩, ⟨[], _, [], [], [9]⟩]) (F := [.old 0, .old 1, .op 0 0, .op 1 0, .op 2 0]) hst hb Za
   (o_p rfl (Zb rfl rfl u_0) <| o_p rfl (Zbu Tryz.underlying62 rfl rfl u_0) <| o_p rfl (Zb rfl rfl c_i) <| o_n) (by kernel_rfl) (fun a g hst hb => ?_)
 obtain ⟨z19, hz1, H0⟩ := Zh H0
 refine Zb8 (fun a w => ∃ (g : G), w = g.w ∧ St 70 [] a g ∧ Base g0 g ∧ (.inr ()) = z19) ?_ ?_
 · rintro a w ⟨g, rfl, hst, hb, rfl⟩
   refine Zr ?_
   refine r_s (T := [⟨[], _, [], [], [4]⟩]) (F := [.op 0 0]) hst hb Za
     (o_p rfl (Zc rfl rfl c_i) <| o_n) (by kernel_rfl) (fun a g hst hb => ?_)
   refine wp_ret ?_
   obtain rfl := Option.some.inj H0
   exact Z1 rfl hst hb (Zk (s := 4)) (hst.at 0 rfl)
 · refine wp_block ?_
   refine wp_loop_ghost (fun n a w => ∃ (x1 : Int) (g : G), w = g.w ∧ St 70 [(0, (pInt .i64 a0)), (1, (Zy.sl.pd a1)), (7, (Zy.sl.pd a1)), (8, (pInt .i64 (a1.length : Int))), (9, (pInt .i64 x1))] a g ∧ Base g0 g ∧ Zf3 a0 a1 n x1 = some z19) (Int.toNat ((a1.length : Int) - (0 : Int)) + 1) ⟨(0 : Int), g, rfl, (hst.pick [0, 1, 2, 3, 4] rfl), hb, hz1⟩ (fun n a w hI => ?_)
   obtain ⟨x1, g, rfl, hst, hb, H1⟩ := hI
   cases n with
   | zero => exact absurd H1 (by simp [Zf3])
   | succ n =>
     rw [Zf3] at H1
     refine r_s (T := [⟨[.old 4, .old 3], _, [], [], [10]⟩]) (F := [.old 0, .old 1, .old 2, .old 3, .old 4, .op 0 0]) hst hb Za
       (o_p rfl (Zcc rfl rfl u_0 u_1) <| o_n) (by kernel_rfl) (fun a g hst hb => ?_)
     refine wp_seq ?_
     refine wp_cond_split (hst.bool 5 rfl) (fun hc2 => ?_) (fun hc2 => ?_)
     · replace H1 := Zw hc2 H1
       refine wp_skip ?_
       refine Zr ?_
       refine wp_seq ?_
       refine wp_block ?_
       obtain ⟨e3, h4, H1⟩ := Zh H1
       refine r_s (L := [(0, _), (1, _), (7, _), (8, _), (9, _)]) (T := [⟨[.old 4], _, [], [], [11]⟩, ⟨[.old 2, .old 4], _, [], [], [12]⟩, ⟨[.op 1 0], _, [], [1], [13]⟩, ⟨[], [(6, (pBox Zy 6 (default : Zl)))], [7], [], [6]⟩, ⟨[.op 0 0], _, [], Lr 4, [5]⟩, ⟨[.op 2 0, .op 3 0], _, [7], Lr 5, [6]⟩]) (F := [.old 0, .old 1, .op 4 0, .op 5 0, .old 2, .old 3, .old 4]) (hst.pick [0, 1, 2, 3, 4] rfl) hb Za
         (o_p rfl (Zb rfl rfl u_0) <| o_p rfl (Zbf Tryz.underlying62 Zeq rfl rfl u_0 u_1 h4) <| o_p rfl (Zf Zdt rfl rfl u_0) <| o_p rfl (Zbd (zs := [.float .f64 0, .string ByteArray.empty]) (by kernel_rfl) (fun g => Zkf g) rfl rfl) <| o_p rfl (Zc rfl rfl u_0) <| o_p rfl (Zb5 Zdt rfl rfl u_1 u_0) <| o_n) (by kernel_rfl) (fun a g hst hb => ?_)
       refine wp_block ?_
       refine r_s (T := [⟨[.old 3], _, [], [], [15]⟩, ⟨[.op 0 0], _, [], [0], [16]⟩, ⟨[.op 1 0], _, [], [0, 1], [17]⟩, ⟨[.op 2 0], _, [], [0, 1, 2], [18]⟩, ⟨[.op 3 0], _, [], Lr 4, [14]⟩]) (F := [.old 0, .old 1, .old 2, .old 3, .old 4, .old 5, .old 6, .op 4 0]) hst hb Za
         (o_p rfl (Zd Zdo rfl rfl u_0) <| o_p rfl (Zf ty_9 rfl rfl u_0) <| o_p rfl (Ze3 Tryz.underlying9 rfl rfl u_0) <| o_p rfl (Zck rfl rfl u_0 c_i) <| o_p rfl (Zc rfl rfl u_0) <| o_n) (by kernel_rfl) (fun a g hst hb => ?_)
       refine wp_cond_split (hst.bool 7 rfl) (fun hc5 => ?_) (fun hc5 => ?_)
       · replace H1 := Zw hc5 H1
         refine r_s (L := []) (T := [⟨[], _, [], [], [4]⟩]) (F := [.op 0 0]) (hst.pick [] rfl) hb Za
           (o_p rfl (Zc rfl rfl c_i) <| o_n) (by kernel_rfl) (fun a g hst hb => ?_)
         refine wp_ret ?_
         refine Z2 ?_
         refine Z2 ?_
         refine Zq ?_
         refine Zq ?_
         refine Z2 ?_
         refine Zq ?_
         refine Zq ?_
         obtain rfl := Option.some.inj H1
         obtain rfl := Option.some.inj H0
         exact Z1 rfl hst hb (Zk (s := 4)) (hst.at 0 rfl)
       · replace H1 := Zx hc5 H1
         obtain ⟨r6, h7, H1⟩ := Zh H1; obtain ⟨r8, h9, H1⟩ := Zh H1
         refine r_s (L := [(0, _), (1, _), (5, _), (6, _), (7, _), (8, _), (9, _)]) (T := ⟨[.old 0], _, [], [], [20]⟩ :: ⟨[.op 0 0], _, [], [0], [21]⟩ :: ⟨[.op 1 0], _, [], [0, 1], [22]⟩ :: ⟨[.op 2 0, .old 3], _, [], [0, 1, 2], [23]⟩ :: ⟨[.op 2 0, .op 3 0], _, [], Lr 4, [24]⟩ :: ⟨[.op 2 0, .op 4 0], _, [], Lr 5, [25]⟩ :: ⟨[.op 2 0, .op 5 0], _, [], Lr 6, [26]⟩ :: ⟨[.op 2 0, .op 6 0], _, [], Lr 7, [27]⟩ :: ⟨[.op 7 0], _, [], Lr 8, [28]⟩ :: ⟨[.op 8 0, .old 3], _, [], Lr 9, [29]⟩ :: ⟨[.op 8 0, .op 9 0], _, [], Lr 10, [30]⟩ :: ⟨[.op 8 0, .op 10 0], _, [], Lr 11, [31]⟩ :: ⟨[.op 8 0, .op 11 0], _, [], Lr 12, [32]⟩ :: ⟨[.op 8 0, .op 12 0], _, [], Lr 13, [33]⟩ :: ⟨[.op 13 0], _, [], Lr 14, [19]⟩ :: []) (F := [.old 0, .old 1, .old 2, .old 3, .old 4, .old 5, .old 6, .op 14 0]) (hst.pick [0, 1, 2, 3, 4, 5, 6] rfl) hb Za
           (o_p rfl (Zb rfl rfl u_0) <| o_p rfl (Zbl rfl rfl u_0 c_i) <| o_p rfl (Zb rfl rfl u_0) <| o_g (g_t rfl rfl rfl (fun hG => Zd Ze8 rfl rfl u_0)) <| o_g (g_t rfl rfl rfl (fun hG => Zf Zcv rfl rfl (Opd.gd hG u_0))) <| o_g (g_t rfl rfl rfl (fun hG => Zn Zr1 (Zke _ _ (Zbm h7 hG)) rfl rfl (.cons (Opd.gd hG u_0) (.cons c_f .nil)))) <| o_g (g_t rfl rfl rfl (fun hG => Zb7 rfl rfl (Opd.gd hG u_0))) <| o_p rfl (Zbc rfl rfl u_0 (fun hz => (Opd.gd hz u_1))) <| o_p rfl (Zb rfl rfl u_0) <| o_g (g_f rfl rfl rfl (fun hG => Zd Ze8 rfl rfl u_0)) <| o_g (g_f rfl rfl rfl (fun hG => Zf Zcv rfl rfl (Opd.gd hG u_0))) <| o_g (g_f rfl rfl rfl (fun hG => Zn Z0s (Zne _ (Zbm h9 hG)) rfl rfl (.cons (Opd.gd hG u_0) .nil))) <| o_g (g_f rfl rfl rfl (fun hG => Zb7 rfl rfl (Opd.gd hG u_0))) <| o_p rfl (Zbt rfl rfl u_0 (fun hz => (Opd.gd (bNF hz) u_1))) <| o_p rfl (Zc rfl rfl u_0) <| o_n) (by kernel_rfl) (fun a g hst hb => ?_)
         refine wp_cond_split (hst.bool 7 rfl) (fun hc10 => ?_) (fun hc10 => ?_)
         · replace H1 := Zw hc10 H1
           refine r_s (L := []) (T := [⟨[], _, [], [], [4]⟩]) (F := [.op 0 0]) (hst.pick [] rfl) hb Za
             (o_p rfl (Zc rfl rfl c_i) <| o_n) (by kernel_rfl) (fun a g hst hb => ?_)
           refine wp_ret ?_
           refine Z2 ?_
           refine Z2 ?_
           refine Zq ?_
           refine Zq ?_
           refine Z2 ?_
           refine Zq ?_
           refine Zq ?_
           obtain rfl := Option.some.inj H1
           obtain rfl := Option.some.inj H0
           exact Z1 rfl hst hb (Zk (s := 4)) (hst.at 0 rfl)
         · replace H1 := Zx hc10 H1
           obtain ⟨e11, h12, H1⟩ := Zh H1
           refine r_s (L := [(0, _), (1, _), (5, _), (6, _), (7, _), (8, _), (9, _)]) (T := ⟨[.old 2], _, [], [], [35]⟩ :: ⟨[.op 0 0], _, [], [0], [36]⟩ :: ⟨[.op 1 0], _, [], [0, 1], [37]⟩ :: ⟨[.op 2 0, .old 0], _, [], [0, 1, 2], [38]⟩ :: ⟨[.op 2 0, .op 3 0], _, [], Lr 4, [39]⟩ :: ⟨[.op 2 0, .op 4 0], _, [], Lr 5, [40]⟩ :: ⟨[.op 5 0], _, [], Lr 6, [41]⟩ :: ⟨[.op 6 0, .old 1], _, [], Lr 7, [42]⟩ :: ⟨[.op 6 0, .old 2], _, [], Lr 7, [43]⟩ :: ⟨[.op 6 0, .op 8 0], _, [], [0, 1, 2, 3, 4, 5, 6, 8], [44]⟩ :: ⟨[.op 6 0, .op 7 0, .op 9 0], _, [], Lr 10, [45]⟩ :: ⟨[.op 6 0, .op 10 0], _, [], Lr 11, [46]⟩ :: ⟨[.op 6 0, .op 11 0], _, [], Lr 12, [47]⟩ :: ⟨[.op 6 0, .old 3], _, [], Lr 7, [48]⟩ :: ⟨[.op 6 0, .op 13 0], _, [], [0, 1, 2, 3, 4, 5, 6, 13], [49]⟩ :: ⟨[.op 6 0, .op 12 0, .op 14 0], _, [], Lr 15, [50]⟩ :: ⟨[.op 6 0, .op 15 0], _, [], Lr 16, [51]⟩ :: ⟨[.op 16 0], _, [], Lr 17, [34]⟩ :: []) (F := [.old 0, .old 1, .old 2, .old 3, .old 4, .old 5, .old 6, .op 17 0]) (hst.pick [0, 1, 2, 3, 4, 5, 6] rfl) hb Za
             (o_p rfl (Zb rfl rfl u_0) <| o_p rfl (Zck rfl rfl u_0 c_i) <| o_p rfl (Zb rfl rfl u_0) <| o_g (g_t rfl rfl rfl (fun hG => Zb rfl rfl u_0)) <| o_g (g_t rfl rfl rfl (fun hG => Zbl rfl rfl (Opd.gd hG u_0) c_i)) <| o_p rfl (Zbc rfl rfl u_0 (fun hz => (Opd.gd hz u_1))) <| o_p rfl (Zb rfl rfl u_0) <| o_g (g_t rfl rfl rfl (fun hG => Zb rfl rfl u_0)) <| o_g (g_t rfl rfl rfl (fun hG => Zb rfl rfl u_0)) <| o_g (g_t rfl rfl rfl (fun hG => Zgn rfl rfl (Opd.gd hG u_0) c_i rfl)) <| o_g (g_t rfl rfl rfl (fun hG => Zbf Tryz.underlying62 Zeq rfl rfl (Opd.gd hG u_0) (Opd.gd hG u_1) (Zbm h12 hG))) <| o_g (g_t rfl rfl rfl (fun hG => Zd Zdo rfl rfl (Opd.gd hG u_0))) <| o_g (g_t rfl rfl rfl (fun hG => Zf ty_9 rfl rfl (Opd.gd hG u_0))) <| o_g (g_t rfl rfl rfl (fun hG => Zd Zdo rfl rfl u_0)) <| o_g (g_t rfl rfl rfl (fun hG => Zf ty_9 rfl rfl (Opd.gd hG u_0))) <| o_g (g_t rfl rfl rfl (fun hG => Z8j rfl rfl (Opd.gd hG u_0) (Opd.gd hG u_1))) <| o_p rfl (Zbc rfl rfl u_0 (fun hz => (Opd.gd hz u_1))) <| o_p rfl (Zc rfl rfl u_0) <| o_n) (by kernel_rfl) (fun a g hst hb => ?_)
           refine wp_cond_split (hst.bool 7 rfl) (fun hc13 => ?_) (fun hc13 => ?_)
           · replace H1 := Zw hc13 H1
             refine r_s (L := []) (T := [⟨[], _, [], [], [4]⟩]) (F := [.op 0 0]) (hst.pick [] rfl) hb Za
               (o_p rfl (Zc rfl rfl c_i) <| o_n) (by kernel_rfl) (fun a g hst hb => ?_)
             refine wp_ret ?_
             refine Z2 ?_
             refine Z2 ?_
             refine Zq ?_
             refine Zq ?_
             refine Z2 ?_
             refine Zq ?_
             refine Zq ?_
             obtain rfl := Option.some.inj H1
             obtain rfl := Option.some.inj H0
             exact Z1 rfl hst hb (Zk (s := 4)) (hst.at 0 rfl)
           · replace H1 := Zx hc13 H1
             obtain ⟨e14, h15, H1⟩ := Zh H1; obtain ⟨r16, h17, H1⟩ := Zh H1
             refine r_s (L := [(0, _), (1, _), (5, _), (6, _), (7, _), (8, _), (9, _)]) (T := ⟨[.old 2], _, [], [], [53]⟩ :: ⟨[.op 0 0], _, [], [0], [54]⟩ :: ⟨[.op 1 0], _, [], [0, 1], [55]⟩ :: ⟨[.op 2 0, .old 0], _, [], [0, 1, 2], [56]⟩ :: ⟨[.op 2 0, .op 3 0], _, [], Lr 4, [57]⟩ :: ⟨[.op 2 0, .op 4 0], _, [], Lr 5, [58]⟩ :: ⟨[.op 5 0], _, [], Lr 6, [59]⟩ :: ⟨[.op 6 0, .old 1], _, [], Lr 7, [60]⟩ :: ⟨[.op 6 0, .old 2], _, [], Lr 7, [61]⟩ :: ⟨[.op 6 0, .op 8 0], _, [], [0, 1, 2, 3, 4, 5, 6, 8], [62]⟩ :: ⟨[.op 6 0, .op 7 0, .op 9 0], _, [], Lr 10, [63]⟩ :: ⟨[.op 6 0, .op 10 0], _, [], Lr 11, [64]⟩ :: ⟨[.op 6 0, .old 3], _, [], Lr 7, [65]⟩ :: ⟨[.op 6 0, .op 11 0, .op 12 0], _, [], Lr 13, [66]⟩ :: ⟨[.op 6 0, .op 13 0], _, [], Lr 14, [67]⟩ :: ⟨[.op 6 0, .op 14 0], _, [], Lr 15, [68]⟩ :: ⟨[.op 15 0], _, [], Lr 16, [52]⟩ :: []) (F := [.old 0, .old 1, .old 4, .old 5, .old 6, .op 16 0]) (hst.pick [0, 1, 2, 3, 4, 5, 6] rfl) hb Za
               (o_p rfl (Zb rfl rfl u_0) <| o_p rfl (Zck rfl rfl u_0 c_i) <| o_p rfl (Zb rfl rfl u_0) <| o_g (g_t rfl rfl rfl (fun hG => Zb rfl rfl u_0)) <| o_g (g_t rfl rfl rfl (fun hG => Zbl rfl rfl (Opd.gd hG u_0) c_i)) <| o_p rfl (Zbc rfl rfl u_0 (fun hz => (Opd.gd hz u_1))) <| o_p rfl (Zb rfl rfl u_0) <| o_g (g_t rfl rfl rfl (fun hG => Zb rfl rfl u_0)) <| o_g (g_t rfl rfl rfl (fun hG => Zb rfl rfl u_0)) <| o_g (g_t rfl rfl rfl (fun hG => Zgn rfl rfl (Opd.gd hG u_0) c_i rfl)) <| o_g (g_t rfl rfl rfl (fun hG => Zbf Tryz.underlying62 Zeq rfl rfl (Opd.gd hG u_0) (Opd.gd hG u_1) (Zbm h15 hG))) <| o_g (g_t rfl rfl rfl (fun hG => Zf Zdt rfl rfl (Opd.gd hG u_0))) <| o_g (g_t rfl rfl rfl (fun hG => Zf Zdt rfl rfl u_0)) <| o_g (g_t rfl rfl rfl (fun hG => Zn Zx6 (Znd _ _ (Zbm h17 hG)) rfl rfl (.cons (Opd.gd hG u_0) (.cons (Opd.gd hG u_1) .nil)))) <| o_g (g_t rfl rfl rfl (fun hG => Zb7 rfl rfl (Opd.gd hG u_0))) <| o_p rfl (Zbc rfl rfl u_0 (fun hz => (Opd.gd hz u_1))) <| o_p rfl (Zc rfl rfl u_0) <| o_n) (by kernel_rfl) (fun a g hst hb => ?_)
             refine wp_cond_split (hst.bool 5 rfl) (fun hc18 => ?_) (fun hc18 => ?_)
             · replace H1 := Zw hc18 H1
               refine r_s (L := []) (T := [⟨[], _, [], [], [4]⟩]) (F := [.op 0 0]) (hst.pick [] rfl) hb Za
                 (o_p rfl (Zc rfl rfl c_i) <| o_n) (by kernel_rfl) (fun a g hst hb => ?_)
               refine wp_ret ?_
               refine Z2 ?_
               refine Z2 ?_
               refine Zq ?_
               refine Zq ?_
               refine Z2 ?_
               refine Zq ?_
               refine Zq ?_
               obtain rfl := Option.some.inj H1
               obtain rfl := Option.some.inj H0
               exact Z1 rfl hst hb (Zk (s := 4)) (hst.at 0 rfl)
             · replace H1 := Zx hc18 H1
               refine wp_skip ?_
               refine Zba ?_
               refine Zba ?_
               refine Zr ?_
               refine r_g (L := [(0, _), (1, _), (7, _), (8, _), (9, _)]) (T := [⟨[.old 4], _, [], [], [69]⟩, ⟨[.op 0 0], _, [], [0], [9]⟩]) (F := [.old 0, .old 1, .old 2, .old 3, .op 1 0]) (hst.pick [0, 1, 2, 3, 4] rfl) hb Za
                 (o_p rfl (Zb3 rfl rfl u_0 c_i rfl) <| o_p rfl (Zb rfl rfl u_0) <| o_n) (by kernel_rfl) (fun a g hst hb => ?_)
               exact ⟨n, Nat.lt_succ_self _, (IntKind.i64.wrap (x1 + (1 : Int))), g, rfl, (hst.pick [0, 1, 2, 3, 4] rfl), hb, H1⟩
     · replace H1 := Zx hc2 H1
       refine wp_exit ?_
       refine Zb6 ?_
       refine Zb6 ?_
       refine Zco ?_
       exact ⟨g, rfl, (hst.pick [] rfl), hb, Option.some.inj H1⟩
theorem Znt (a0 : Ze) {r : Int} (h : Zeg a0 = some r) : FnOk Tryz.prog 48 [(Zi.pd a0)] (pInt .i64 r) := by
 have H0 := h
 unfold Zeg at H0
 clear h
 refine Zbp (N := 83) Tryz.func48 rfl rfl (Nat.le_of_ble_eq_true rfl) rfl rfl (fun a g0 hst hb => ?_)
 refine r_s (T := [⟨[.old 0], _, [], [], [1]⟩, ⟨[], _, [], [], [2]⟩]) (F := [.op 0 0]) hst hb Za
   (o_p rfl (Zbj rfl rfl u_0) <| o_p rfl (Zc rfl rfl c_i) <| o_n) (by kernel_rfl) (fun a g hst hb => ?_)
 obtain ⟨r1, h2, H0⟩ := Zh H0
 refine r_s (T := [⟨[.old 0], _, [], [], [4]⟩, ⟨[.op 0 0], _, [], [0], [5]⟩, ⟨[.op 1 0], _, [], [0, 1], [6]⟩, ⟨[], [(3, (pBox Zc4 3 (default : Zcb)))], [4], [], [3]⟩, ⟨[.op 2 0, .op 3 0], _, [4], Lr 4, [3]⟩]) (F := [.old 0, .op 4 0]) hst hb Za
   (o_p rfl (Zd Zfq rfl rfl u_0) <| o_p rfl (Zf ty_3 rfl rfl u_0) <| o_p rfl (Zn Z85 (Zv4 _ h2) rfl rfl (.cons u_0 .nil)) <| o_p rfl (Zbd (zs := [.bool false, .bool false, .bool false, .bool false, .bool false]) (by kernel_rfl) (fun g => Zrn g) rfl rfl) <| o_p rfl (Zb5 Ziu rfl rfl u_1 u_0) <| o_n) (by kernel_rfl) (fun a g hst hb => ?_)
 refine wp_seq ?_
 refine wp_block ?_
 refine r_s (T := [⟨[.old 0], _, [], [], [8]⟩, ⟨[.op 0 0], _, [], [0], [9]⟩, ⟨[.op 1 0], _, [], [0, 1], [10]⟩, ⟨[.op 2 0], _, [], [0, 1, 2], [11]⟩, ⟨[.op 3 0, .old 0], _, [], Lr 4, [12]⟩, ⟨[.op 3 0, .op 4 0], _, [], Lr 5, [13]⟩, ⟨[.op 3 0, .op 5 0], _, [], Lr 6, [14]⟩, ⟨[.op 3 0, .op 6 0], _, [], Lr 7, [15]⟩, ⟨[.op 7 0], _, [], Lr 8, [7]⟩]) (F := [.old 0, .old 1, .op 8 0]) hst hb Za
   (o_p rfl (Zd Zfq rfl rfl u_0) <| o_p rfl (Zf ty_3 rfl rfl u_0) <| o_p rfl (Z5k rfl rfl u_0 c_i) <| o_p rfl (Zb rfl rfl u_0) <| o_g (g_f rfl rfl rfl (fun hG => Zd Zfq rfl rfl u_0)) <| o_g (g_f rfl rfl rfl (fun hG => Zf ty_3 rfl rfl (Opd.gd hG u_0))) <| o_g (g_f rfl rfl rfl (fun hG => Zk4 rfl rfl (Opd.gd hG u_0) c_i)) <| o_p rfl (Zbt rfl rfl u_0 (fun hz => (Opd.gd (bNF hz) u_1))) <| o_p rfl (Zc rfl rfl u_0) <| o_n) (by kernel_rfl) (fun a g hst hb => ?_)
 refine wp_cond_split (hst.bool 2 rfl) (fun hc3 => ?_) (fun hc3 => ?_)
 · replace H0 := Zw hc3 H0
   refine r_s (L := []) (T := [⟨[], _, [], [], [2]⟩]) (F := [.op 0 0]) (hst.pick [] rfl) hb Za
     (o_p rfl (Zc rfl rfl c_i) <| o_n) (by kernel_rfl) (fun a g hst hb => ?_)
   refine wp_ret ?_
   refine Z2 ?_
   refine Zq ?_
   obtain rfl := Option.some.inj H0
   exact Z1 rfl hst hb (Zk (s := 2)) (hst.at 0 rfl)
 · replace H0 := Zx hc3 H0
   obtain ⟨r4, h5, H0⟩ := Zh H0
   refine r_s (L := [(1, _), (3, _)]) (T := [⟨[.old 0], _, [], [], [17]⟩, ⟨[.old 1], _, [], [], [18]⟩, ⟨[.op 0 0, .op 1 0], _, [], [0, 1], [19]⟩, ⟨[.op 2 0], _, [], [0, 1, 2], [20]⟩, ⟨[.op 3 0], _, [], Lr 4, [16]⟩]) (F := [.old 0, .old 1, .op 4 0]) (hst.pick [0, 1] rfl) hb Za
     (o_p rfl (Zf Zbb rfl rfl u_0) <| o_p rfl (Zf Ziu rfl rfl u_0) <| o_p rfl (Zn Z9p (Zy9 _ _ h5) rfl rfl (.cons u_0 (.cons u_1 .nil))) <| o_p rfl (Zb7 rfl rfl u_0) <| o_p rfl (Zc rfl rfl u_0) <| o_n) (by kernel_rfl) (fun a g hst hb => ?_)
   refine wp_cond_split (hst.bool 2 rfl) (fun hc6 => ?_) (fun hc6 => ?_)
   · replace H0 := Zw hc6 H0
     refine r_s (L := []) (T := [⟨[], _, [], [], [2]⟩]) (F := [.op 0 0]) (hst.pick [] rfl) hb Za
       (o_p rfl (Zc rfl rfl c_i) <| o_n) (by kernel_rfl) (fun a g hst hb => ?_)
     refine wp_ret ?_
     refine Z2 ?_
     refine Zq ?_
     obtain rfl := Option.some.inj H0
     exact Z1 rfl hst hb (Zk (s := 2)) (hst.at 0 rfl)
   · replace H0 := Zx hc6 H0
     refine r_s (L := [(1, _), (3, _)]) (T := [⟨[.old 0], _, [], [], [22]⟩, ⟨[.op 0 0], _, [], [0], [23]⟩, ⟨[.op 1 0], _, [], [0, 1], [24]⟩, ⟨[.op 2 0], _, [], [0, 1, 2], [25]⟩, ⟨[.op 3 0], _, [], Lr 4, [21]⟩]) (F := [.old 0, .old 1, .op 4 0]) (hst.pick [0, 1] rfl) hb Za
       (o_p rfl (Zd Zia rfl rfl u_0) <| o_p rfl (Zf ty_9 rfl rfl u_0) <| o_p rfl (Ze3 Tryz.underlying9 rfl rfl u_0) <| o_p rfl (Zck rfl rfl u_0 c_i) <| o_p rfl (Zc rfl rfl u_0) <| o_n) (by kernel_rfl) (fun a g hst hb => ?_)
     refine wp_cond_split (hst.bool 2 rfl) (fun hc7 => ?_) (fun hc7 => ?_)
     · replace H0 := Zw hc7 H0
       refine r_s (L := []) (T := [⟨[], _, [], [], [2]⟩]) (F := [.op 0 0]) (hst.pick [] rfl) hb Za
         (o_p rfl (Zc rfl rfl c_i) <| o_n) (by kernel_rfl) (fun a g hst hb => ?_)
       refine wp_ret ?_
       refine Z2 ?_
       refine Zq ?_
       obtain rfl := Option.some.inj H0
       exact Z1 rfl hst hb (Zk (s := 2)) (hst.at 0 rfl)
     · replace H0 := Zx hc7 H0
       refine r_s (L := [(1, _), (3, _)]) (T := ⟨[.old 1], _, [], [], [27]⟩ :: ⟨[.op 0 0], _, [], [0], [28]⟩ :: ⟨[.op 1 0], _, [], [0, 1], [29]⟩ :: ⟨[.op 2 0, .old 0], _, [], [0, 1, 2], [30]⟩ :: ⟨[.op 2 0, .op 3 0], _, [], Lr 4, [31]⟩ :: ⟨[.op 2 0, .op 4 0], _, [], Lr 5, [32]⟩ :: ⟨[.op 2 0, .op 5 0], _, [], Lr 6, [33]⟩ :: ⟨[.op 6 0, .old 0], _, [], Lr 7, [34]⟩ :: ⟨[.op 6 0, .op 7 0], _, [], Lr 8, [35]⟩ :: ⟨[.op 6 0, .op 8 0], _, [], Lr 9, [36]⟩ :: ⟨[.op 2 0, .op 6 0, .op 9 0], _, [], Lr 10, [37]⟩ :: ⟨[.op 2 0, .op 10 0], _, [], Lr 11, [38]⟩ :: ⟨[.op 11 0, .old 0], _, [], Lr 12, [39]⟩ :: ⟨[.op 11 0, .op 12 0], _, [], Lr 13, [40]⟩ :: ⟨[.op 11 0, .old 0], _, [], Lr 12, [41]⟩ :: ⟨[.op 11 0, .op 14 0], _, [], 0 :: 1 :: 2 :: 3 :: 4 :: 5 :: 6 :: 7 :: 8 :: 9 :: 10 :: 11 :: 14 :: [], [42]⟩ :: ⟨[.op 11 0, .op 13 0, .op 15 0], _, [], Lr 16, [43]⟩ :: ⟨[.op 2 0, .op 11 0, .op 16 0], _, [], Lr 17, [44]⟩ :: ⟨[.op 2 0, .op 17 0], _, [], Lr 18, [45]⟩ :: ⟨[.op 18 0, .old 0], _, [], Lr 19, [46]⟩ :: ⟨[.op 18 0, .op 19 0], _, [], Lr 20, [47]⟩ :: ⟨[.op 18 0, .old 0], _, [], Lr 19, [48]⟩ :: ⟨[.op 18 0, .op 21 0], _, [], 0 :: 1 :: 2 :: 3 :: 4 :: 5 :: 6 :: 7 :: 8 :: 9 :: 10 :: 11 :: 12 :: 13 :: 14 :: 15 :: 16 :: 17 :: 18 :: 21 :: [], [49]⟩ :: ⟨[.op 18 0, .op 20 0, .op 22 0], _, [], Lr 23, [50]⟩ :: ⟨[.op 2 0, .op 18 0, .op 23 0], _, [], Lr 24, [51]⟩ :: ⟨[.op 2 0, .op 24 0], _, [], Lr 25, [52]⟩ :: ⟨[.op 25 0], _, [], Lr 26, [26]⟩ :: []) (F := [.old 0, .old 1, .op 26 0]) (hst.pick [0, 1] rfl) hb Za
         (o_p rfl (Zd Zyk rfl rfl u_0) <| o_p rfl (Zf ty_4 rfl rfl u_0) <| o_p rfl (Zb rfl rfl u_0) <| o_g (g_t rfl rfl rfl (fun hG => Zd Ziq rfl rfl u_0)) <| o_g (g_t rfl rfl rfl (fun hG => Zf ty_2 rfl rfl (Opd.gd hG u_0))) <| o_g (g_t rfl rfl rfl (fun hG => Zcc rfl rfl (Opd.gd hG u_0) c_i)) <| o_g (g_t rfl rfl rfl (fun hG => Zb rfl rfl (Opd.gd hG u_0))) <| o_g (g_fi rfl rfl rfl (fun hG => Zd Zip rfl rfl u_0)) <| o_g (g_fi rfl rfl rfl (fun hG => Zf ty_2 rfl rfl (Opd.gd hG u_0))) <| o_g (g_fi rfl rfl rfl (fun hG => Zck rfl rfl (Opd.gd hG u_0) c_i)) <| o_g (g_t rfl rfl rfl (fun hG => Zbt rfl rfl (Opd.gd hG u_0) (fun hz => (Opd.gd (bA hG (bNF hz)) u_1)))) <| o_g (g_t rfl rfl rfl (fun hG => Zb rfl rfl (Opd.gd hG u_0))) <| o_g (g_fi rfl rfl rfl (fun hG => Zd Zcs rfl rfl u_0)) <| o_g (g_fi rfl rfl rfl (fun hG => Zf ty_2 rfl rfl (Opd.gd hG u_0))) <| o_g (g_fi rfl rfl rfl (fun hG => Zd Ziq rfl rfl u_0)) <| o_g (g_fi rfl rfl rfl (fun hG => Zf ty_2 rfl rfl (Opd.gd hG u_0))) <| o_g (g_fi rfl rfl rfl (fun hG => Zcc rfl rfl (Opd.gd hG u_0) (Opd.gd hG u_1))) <| o_g (g_t rfl rfl rfl (fun hG => Zbt rfl rfl (Opd.gd hG u_0) (fun hz => (Opd.gd (bA hG (bNF hz)) u_1)))) <| o_g (g_t rfl rfl rfl (fun hG => Zb rfl rfl (Opd.gd hG u_0))) <| o_g (g_fi rfl rfl rfl (fun hG => Zd Zcs rfl rfl u_0)) <| o_g (g_fi rfl rfl rfl (fun hG => Zf ty_2 rfl rfl (Opd.gd hG u_0))) <| o_g (g_fi rfl rfl rfl (fun hG => Zd Zip rfl rfl u_0)) <| o_g (g_fi rfl rfl rfl (fun hG => Zf ty_2 rfl rfl (Opd.gd hG u_0))) <| o_g (g_fi rfl rfl rfl (fun hG => Zck rfl rfl (Opd.gd hG u_0) (Opd.gd hG u_1))) <| o_g (g_t rfl rfl rfl (fun hG => Zbt rfl rfl (Opd.gd hG u_0) (fun hz => (Opd.gd (bA hG (bNF hz)) u_1)))) <| o_p rfl (Zbc rfl rfl u_0 (fun hz => (Opd.gd hz u_1))) <| o_p rfl (Zc rfl rfl u_0) <| o_n) (by kernel_rfl) (fun a g hst hb => ?_)
       refine wp_cond_split (hst.bool 2 rfl) (fun hc8 => ?_) (fun hc8 => ?_)
       · replace H0 := Zw hc8 H0
         refine r_s (L := []) (T := [⟨[], _, [], [], [2]⟩]) (F := [.op 0 0]) (hst.pick [] rfl) hb Za
           (o_p rfl (Zc rfl rfl c_i) <| o_n) (by kernel_rfl) (fun a g hst hb => ?_)
         refine wp_ret ?_
         refine Z2 ?_
         refine Zq ?_
         obtain rfl := Option.some.inj H0
         exact Z1 rfl hst hb (Zk (s := 2)) (hst.at 0 rfl)
       · replace H0 := Zx hc8 H0
         obtain ⟨r9, h10, H0⟩ := Zh H0
         refine r_s (L := [(1, _), (3, _)]) (T := [⟨[.old 0], _, [], [], [54]⟩, ⟨[.op 0 0], _, [], [0], [55]⟩, ⟨[.op 1 0], _, [], [0, 1], [56]⟩, ⟨[.op 2 0], _, [], [0, 1, 2], [57]⟩, ⟨[.op 3 0], _, [], Lr 4, [53]⟩]) (F := [.old 0, .old 1, .op 4 0]) (hst.pick [0, 1] rfl) hb Za
           (o_p rfl (Zd Zfj rfl rfl u_0) <| o_p rfl (Zf Zcv rfl rfl u_0) <| o_p rfl (Zn Z0s (Zne _ h10) rfl rfl (.cons u_0 .nil)) <| o_p rfl (Zb7 rfl rfl u_0) <| o_p rfl (Zc rfl rfl u_0) <| o_n) (by kernel_rfl) (fun a g hst hb => ?_)
         refine wp_cond_split (hst.bool 2 rfl) (fun hc11 => ?_) (fun hc11 => ?_)
         · replace H0 := Zw hc11 H0
           refine r_s (L := []) (T := [⟨[], _, [], [], [2]⟩]) (F := [.op 0 0]) (hst.pick [] rfl) hb Za
             (o_p rfl (Zc rfl rfl c_i) <| o_n) (by kernel_rfl) (fun a g hst hb => ?_)
           refine wp_ret ?_
           refine Z2 ?_
           refine Zq ?_
           obtain rfl := Option.some.inj H0
           exact Z1 rfl hst hb (Zk (s := 2)) (hst.at 0 rfl)
         · replace H0 := Zx hc11 H0
           refine r_s (L := [(1, _), (3, _)]) (T := [⟨[.old 1], _, [], [], [59]⟩, ⟨[.op 0 0], _, [], [0], [60]⟩, ⟨[.op 1 0], _, [], [0, 1], [61]⟩, ⟨[.op 2 0], _, [], [0, 1, 2], [58]⟩]) (F := [.old 0, .op 3 0]) (hst.pick [0, 1] rfl) hb Za
             (o_p rfl (Zd Zx8 rfl rfl u_0) <| o_p rfl (Zf ty_4 rfl rfl u_0) <| o_p rfl (Zb7 rfl rfl u_0) <| o_p rfl (Zc rfl rfl u_0) <| o_n) (by kernel_rfl) (fun a g hst hb => ?_)
           refine wp_cond_split (hst.bool 1 rfl) (fun hc12 => ?_) (fun hc12 => ?_)
           · replace H0 := Zw hc12 H0
             refine r_s (L := []) (T := [⟨[], _, [], [], [2]⟩]) (F := [.op 0 0]) (hst.pick [] rfl) hb Za
               (o_p rfl (Zc rfl rfl c_i) <| o_n) (by kernel_rfl) (fun a g hst hb => ?_)
             refine wp_ret ?_
             refine Z2 ?_
             refine Zq ?_
             obtain rfl := Option.some.inj H0
             exact Z1 rfl hst hb (Zk (s := 2)) (hst.at 0 rfl)
           · replace H0 := Zx hc12 H0
             refine r_s (L := [(1, _)]) (T := [⟨[.old 0], _, [], [], [63]⟩, ⟨[.op 0 0], _, [], [0], [64]⟩, ⟨[.op 1 0], _, [], [0, 1], [65]⟩, ⟨[.op 2 0], _, [], [0, 1, 2], [66]⟩, ⟨[.op 3 0, .old 0], _, [], Lr 4, [67]⟩, ⟨[.op 3 0, .op 4 0], _, [], Lr 5, [68]⟩, ⟨[.op 3 0, .op 5 0], _, [], Lr 6, [69]⟩, ⟨[.op 3 0, .op 6 0], _, [], Lr 7, [70]⟩, ⟨[.op 7 0], _, [], Lr 8, [62]⟩]) (F := [.old 0, .op 8 0]) (hst.pick [0] rfl) hb Za
               (o_p rfl (Zd Zf9 rfl rfl u_0) <| o_p rfl (Zf ty_3 rfl rfl u_0) <| o_p rfl (Zcc rfl rfl u_0 c_i) <| o_p rfl (Zb rfl rfl u_0) <| o_g (g_f rfl rfl rfl (fun hG => Zd Zf9 rfl rfl u_0)) <| o_g (g_f rfl rfl rfl (fun hG => Zf ty_3 rfl rfl (Opd.gd hG u_0))) <| o_g (g_f rfl rfl rfl (fun hG => Zck rfl rfl (Opd.gd hG u_0) c_i)) <| o_p rfl (Zbt rfl rfl u_0 (fun hz => (Opd.gd (bNF hz) u_1))) <| o_p rfl (Zc rfl rfl u_0) <| o_n) (by kernel_rfl) (fun a g hst hb => ?_)
             refine wp_cond_split (hst.bool 1 rfl) (fun hc13 => ?_) (fun hc13 => ?_)
             · replace H0 := Zw hc13 H0
               refine r_s (L := []) (T := [⟨[], _, [], [], [2]⟩]) (F := [.op 0 0]) (hst.pick [] rfl) hb Za
                 (o_p rfl (Zc rfl rfl c_i) <| o_n) (by kernel_rfl) (fun a g hst hb => ?_)
               refine wp_ret ?_
               refine Z2 ?_
               refine Zq ?_
               obtain rfl := Option.some.inj H0
               exact Z1 rfl hst hb (Zk (s := 2)) (hst.at 0 rfl)
             · replace H0 := Zx hc13 H0
               refine r_s (L := [(1, _)]) (T := [⟨[.old 0], _, [], [], [72]⟩, ⟨[.op 0 0], _, [], [0], [73]⟩, ⟨[.op 1 0], _, [], [0, 1], [74]⟩, ⟨[.old 0], _, [], [], [75]⟩, ⟨[.op 3 0], _, [], [3], [76]⟩, ⟨[.op 2 0, .op 4 0], _, [], Lr 5, [77]⟩, ⟨[.op 5 0], _, [], Lr 6, [71]⟩]) (F := [.old 0, .op 6 0]) (hst.pick [0] rfl) hb Za
                 (o_p rfl (Zd Zca rfl rfl u_0) <| o_p rfl (Zf Zc1 rfl rfl u_0) <| o_p rfl (Zbu Tryz.underlying62 rfl rfl u_0) <| o_p rfl (Zd Zf9 rfl rfl u_0) <| o_p rfl (Zf ty_3 rfl rfl u_0) <| o_p rfl (Zck rfl rfl u_0 u_1) <| o_p rfl (Zc rfl rfl u_0) <| o_n) (by kernel_rfl) (fun a g hst hb => ?_)
               refine wp_cond_split (hst.bool 1 rfl) (fun hc14 => ?_) (fun hc14 => ?_)
               · replace H0 := Zw hc14 H0
                 refine r_s (L := []) (T := [⟨[], _, [], [], [2]⟩]) (F := [.op 0 0]) (hst.pick [] rfl) hb Za
                   (o_p rfl (Zc rfl rfl c_i) <| o_n) (by kernel_rfl) (fun a g hst hb => ?_)
                 refine wp_ret ?_
                 refine Z2 ?_
                 refine Zq ?_
                 obtain rfl := Option.some.inj H0
                 exact Z1 rfl hst hb (Zk (s := 2)) (hst.at 0 rfl)
               · replace H0 := Zx hc14 H0
                 refine wp_skip ?_
                 refine Zba ?_
                 refine Zr ?_
                 obtain ⟨r15, h16, H0⟩ := Zh H0
                 refine r_s (L := [(1, _)]) (T := [⟨[.old 0], _, [], [], [78]⟩, ⟨[.op 0 0], _, [], [0], [79]⟩, ⟨[.old 0], _, [], [], [80]⟩, ⟨[.op 2 0], _, [], [2], [81]⟩, ⟨[.op 1 0, .op 3 0], _, [], Lr 4, [82]⟩, ⟨[.op 4 0], _, [], Lr 5, [2]⟩]) (F := [.op 5 0]) (hst.pick [0] rfl) hb Za
                   (o_p rfl (Zd Zfq rfl rfl u_0) <| o_p rfl (Zf ty_3 rfl rfl u_0) <| o_p rfl (Zd Zca rfl rfl u_0) <| o_p rfl (Zf Zc1 rfl rfl u_0) <| o_p rfl (Zn Z9h (Zx7 _ _ h16) rfl rfl (.cons u_0 (.cons u_1 .nil))) <| o_p rfl (Zc rfl rfl u_0) <| o_n) (by kernel_rfl) (fun a g hst hb => ?_)
                 refine wp_ret ?_
                 obtain rfl := Option.some.inj H0
                 exact Z1 rfl hst hb (Zk (s := 2)) (hst.at 0 rfl)
theorem Zdw (a0 : ByteArray) (a1 : Ze) (a2 : shelf_nodeT) (a3 : shelf_nodeT) {r : shelf_nodeT} (h : Zdq a0 a1 a2 a3 = some r) : FnOk Tryz.prog 76 [(pStr a0), (Zi.pd a1), (Z7.pd a2), (Z7.pd a3)] (Z7.pd r) := by
 have H0 := h
 unfold Zdq at H0
 clear h
 refine Zbp (N := 21) Tryz.func76 rfl rfl (Nat.le_of_ble_eq_true rfl) rfl rfl (fun a g0 hst hb => ?_)
 refine r_s (T := [⟨[.old 1], _, [], [], [5]⟩, ⟨[], [(8, (Z7.pd shelf_nodeT.nil))], [], [], [8]⟩]) (F := [.old 0, .old 2, .old 3, .op 0 0]) hst hb Za
   (o_p rfl (Zbj rfl rfl u_0) <| o_p rfl (Zc rfl rfl (Opd.c (fun g => Zee g))) <| o_n) (by kernel_rfl) (fun a g hst hb => ?_)
 obtain ⟨r1, h2, H0⟩ := Zh H0; obtain ⟨r3, h4, H0⟩ := Zh H0
 refine r_s (T := ⟨[.old 0], _, [], [], [9]⟩ :: ⟨[.old 3], _, [], [], [10]⟩ :: ⟨[.old 1], _, [], [], [11]⟩ :: ⟨[.old 2], _, [], [], [12]⟩ :: ⟨[.old 1], _, [], [], [13]⟩ :: ⟨[.op 4 0], _, [], [4], [14]⟩ :: ⟨[.old 2], _, [], [], [15]⟩ :: ⟨[.op 6 0], _, [], [4, 5, 6], [16]⟩ :: ⟨[.op 5 0, .op 7 0], _, [], List.range' 4 4, [17]⟩ :: ⟨[.op 8 0], _, [], List.range' 4 5, [18]⟩ :: ⟨[.op 0 0, .op 1 0, .op 2 0, .op 3 0, .op 9 0], _, [], Lr 10, [19]⟩ :: ⟨[.op 10 0], _, [], Lr 11, [20]⟩ :: ⟨[.op 11 0], _, [], Lr 12, [8]⟩ :: []) (F := [.op 12 0]) hst hb Za
   (o_p rfl (Zb rfl rfl u_0) <| o_p rfl (Zf Zbb rfl rfl u_0) <| o_p rfl (Zb rfl rfl u_0) <| o_p rfl (Zb rfl rfl u_0) <| o_p rfl (Zb rfl rfl u_0) <| o_p rfl (Zn Zmv (Zdi _ h2) rfl rfl (.cons u_0 .nil)) <| o_p rfl (Zb rfl rfl u_0) <| o_p rfl (Zn Zmv (Zdi _ h4) rfl rfl (.cons u_0 .nil)) <| o_p rfl (Zb3 rfl rfl u_0 u_1 rfl) <| o_p rfl (Zb3 rfl rfl u_0 c_i rfl) <| o_p rfl (Zs4 rfl rfl u_0 u_1 u_2 u_3 u_4) <| o_p rfl (Zbj rfl rfl u_0) <| o_p rfl (Zc rfl rfl (Opd.imp u_0 (fun _ _ h => Zuu h))) <| o_n) (by kernel_rfl) (fun a g hst hb => ?_)
 refine wp_ret ?_
 obtain rfl := Option.some.inj H0
 exact Z1 rfl hst hb (Zk (s := 8)) (hst.at 0 rfl)
theorem Zk2 (a0 : shelf_nodeT) (a1 : shelf_nodeT) {r : Bool} (h : Zh8 a0 a1 = some r) : FnOk Tryz.prog 118 [(Z7.pd a0), (Z7.pd a1)] (Zbg r) := by
 have H0 := h
 unfold Zh8 at H0
 clear h
 refine Zbp (N := 13) Tryz.func118 rfl rfl (Nat.le_of_ble_eq_true rfl) rfl rfl (fun a g0 hst hb => ?_)
 refine r_s (T := [⟨[], _, [], [], [4]⟩]) (F := [.old 0, .old 1]) hst hb Za
   (o_p rfl (Zc rfl rfl c_b) <| o_n) (by kernel_rfl) (fun a g hst hb => ?_)
 obtain ⟨r1, h2, H0⟩ := Zh H0; obtain ⟨r3, h4, H0⟩ := Zh H0
 refine r_s (T := [⟨[.old 0], _, [], [], [5]⟩, ⟨[.op 0 0], _, [], [0], [6]⟩, ⟨[.op 1 0], _, [], [0, 1], [7]⟩, ⟨[.old 1], _, [], [], [8]⟩, ⟨[.op 3 0], _, [], [0, 1, 3], [9]⟩, ⟨[.op 4 0], _, [], [0, 1, 3, 4], [10]⟩, ⟨[.op 5 0], _, [], [0, 1, 3, 4, 5], [11]⟩, ⟨[.op 2 0, .op 6 0], _, [], Lr 7, [12]⟩, ⟨[.op 7 0], _, [], Lr 8, [4]⟩]) (F := [.op 8 0]) hst hb Za
   (o_p rfl (Zb rfl rfl u_0) <| o_p rfl (Zn Zmv (Zdi _ h2) rfl rfl (.cons u_0 .nil)) <| o_p rfl (Zb3 rfl rfl u_0 c_i rfl) <| o_p rfl (Zb rfl rfl u_0) <| o_p rfl (Zn Zmv (Zdi _ h4) rfl rfl (.cons u_0 .nil)) <| o_p rfl (Zb3 rfl rfl u_0 c_i rfl) <| o_p rfl (Zx2 rfl rfl c_i u_0 rfl) <| o_p rfl (Zck rfl rfl u_0 u_1) <| o_p rfl (Zc rfl rfl u_0) <| o_n) (by kernel_rfl) (fun a g hst hb => ?_)
 refine wp_ret ?_
 obtain rfl := Option.some.inj H0
 exact Z1 rfl hst hb (Zk (s := 4)) (hst.at 0 rfl)
theorem Zkb (a0 : ByteArray) (a1 : Ze) (a2 : shelf_nodeT) (a3 : shelf_nodeT) {r : shelf_nodeT} (h : Zh3 a0 a1 a2 a3 = some r) : FnOk Tryz.prog 77 [(pStr a0), (Zi.pd a1), (Z7.pd a2), (Z7.pd a3)] (Z7.pd r) := by
 have H0 := h
 unfold Zh3 at H0
 clear h
 refine Zbp (N := 182) Tryz.func77 rfl rfl (Nat.le_of_ble_eq_true rfl) rfl rfl (fun a g0 hst hb => ?_)
 refine r_s (T := [⟨[.old 1], _, [], [], [5]⟩, ⟨[], [(8, (Z7.pd shelf_nodeT.nil))], [], [], [8]⟩]) (F := [.old 0, .old 2, .old 3, .op 0 0]) hst hb Za
   (o_p rfl (Zbj rfl rfl u_0) <| o_p rfl (Zc rfl rfl (Opd.c (fun g => Zee g))) <| o_n) (by kernel_rfl) (fun a g hst hb => ?_)
 refine wp_seq ?_
 refine wp_block ?_
 obtain ⟨r1, h2, H0⟩ := Zh H0; obtain ⟨n3, h4, H0⟩ := Zh H0; obtain ⟨r5, h6, H0⟩ := Zh H0; obtain ⟨n7, h8, H0⟩ := Zh H0; obtain ⟨r9, h10, H0⟩ := Zh H0
 refine r_s (T := ⟨[.old 2], _, [], [], [12]⟩ :: ⟨[.old 1], _, [], [], [13]⟩ :: ⟨[.op 0 0, .op 1 0], _, [], [0, 1], [14]⟩ :: ⟨[.op 2 0], _, [], [0, 1, 2], [15]⟩ :: ⟨[.op 3 0, .old 2], _, [], Lr 4, [16]⟩ :: ⟨[.op 3 0, .op 4 0], _, [], Lr 5, [17]⟩ :: ⟨[.op 3 0, .op 5 0], _, [], Lr 6, [18]⟩ :: ⟨[.op 3 0, .op 6 0], _, [], Lr 7, [19]⟩ :: ⟨[.op 3 0, .op 7 0], _, [], Lr 8, [20]⟩ :: ⟨[.op 3 0, .op 8 0], _, [], Lr 9, [21]⟩ :: ⟨[.op 3 0, .old 2], _, [], Lr 4, [22]⟩ :: ⟨[.op 3 0, .op 10 0], _, [], [0, 1, 2, 3, 10], [23]⟩ :: ⟨[.op 3 0, .op 11 0], _, [], [0, 1, 2, 3, 10, 11], [24]⟩ :: ⟨[.op 3 0, .op 12 0], _, [], [0, 1, 2, 3, 10, 11, 12], [25]⟩ :: ⟨[.op 3 0, .op 13 0], _, [], 0 :: 1 :: 2 :: 3 :: 4 :: 5 :: 6 :: 7 :: 8 :: 10 :: 11 :: 12 :: 13 :: [], [26]⟩ :: ⟨[.op 3 0, .op 14 0], _, [], 0 :: 1 :: 2 :: 3 :: 4 :: 5 :: 6 :: 7 :: 8 :: 10 :: 11 :: 12 :: 13 :: 14 :: [], [27]⟩ :: ⟨[.op 3 0, .op 15 0], _, [], 0 :: 1 :: 2 :: 3 :: 4 :: 5 :: 6 :: 7 :: 8 :: 10 :: 11 :: 12 :: 13 :: 14 :: 15 :: [], [28]⟩ :: ⟨[.op 3 0, .op 9 0, .op 16 0], _, [], Lr 17, [29]⟩ :: ⟨[.op 3 0, .op 17 0], _, [], Lr 18, [30]⟩ :: ⟨[.op 18 0], _, [], Lr 19, [11]⟩ :: []) (F := [.old 0, .old 1, .old 2, .old 3, .op 19 0]) hst hb Za
   (o_p rfl (Zb rfl rfl u_0) <| o_p rfl (Zb rfl rfl u_0) <| o_p rfl (Zn Ztt (Zk2 _ _ h2) rfl rfl (.cons u_0 (.cons u_1 .nil))) <| o_p rfl (Zb rfl rfl u_0) <| o_g (g_t rfl rfl rfl (fun hG => Zb rfl rfl u_0)) <| o_g (g_t rfl rfl rfl (fun hG => Zu rfl rfl (Opd.imp (Opd.gd hG u_0) (fun _ _ h => Zv (Zbm h4 hG) h)) (fun _ _ ⟨_, _, _, e, _⟩ => ⟨_, e⟩))) <| o_g (g_t rfl rfl rfl (fun hG => Zd Zea rfl rfl (Opd.gd hG u_0))) <| o_g (g_t rfl rfl rfl (fun hG => Zf Zc5 rfl rfl (Opd.gd hG u_0))) <| o_g (g_t rfl rfl rfl (fun hG => Zn Zmv (Zdi _ (Zbm h6 hG)) rfl rfl (.cons (Opd.gd hG u_0) .nil))) <| o_g (g_t rfl rfl rfl (fun hG => Zb3 rfl rfl (Opd.gd hG u_0) c_i rfl)) <| o_g (g_t rfl rfl rfl (fun hG => Zb rfl rfl u_0)) <| o_g (g_t rfl rfl rfl (fun hG => Zu rfl rfl (Opd.imp (Opd.gd hG u_0) (fun _ _ h => Zv (Zbm h8 hG) h)) (fun _ _ ⟨_, _, _, e, _⟩ => ⟨_, e⟩))) <| o_g (g_t rfl rfl rfl (fun hG => Zd Zey rfl rfl (Opd.gd hG u_0))) <| o_g (g_t rfl rfl rfl (fun hG => Zf Zc5 rfl rfl (Opd.gd hG u_0))) <| o_g (g_t rfl rfl rfl (fun hG => Zn Zmv (Zdi _ (Zbm h10 hG)) rfl rfl (.cons (Opd.gd hG u_0) .nil))) <| o_g (g_t rfl rfl rfl (fun hG => Zb3 rfl rfl (Opd.gd hG u_0) c_i rfl)) <| o_g (g_t rfl rfl rfl (fun hG => Zx2 rfl rfl c_i (Opd.gd hG u_0) rfl)) <| o_g (g_t rfl rfl rfl (fun hG => Zcc rfl rfl (Opd.gd hG u_0) (Opd.gd hG u_1))) <| o_p rfl (Zbc rfl rfl u_0 (fun hz => (Opd.gd hz u_1))) <| o_p rfl (Zc rfl rfl u_0) <| o_n) (by kernel_rfl) (fun a g hst hb => ?_)
 refine wp_cond_split (hst.bool 4 rfl) (fun hc11 => ?_) (fun hc11 => ?_)
 · replace H0 := Zw hc11 H0
   obtain ⟨n12, h13, H0⟩ := Zh H0; obtain ⟨r14, h15, H0⟩ := Zh H0; obtain ⟨r16, h17, H0⟩ := Zh H0
   refine r_s (L := [(0, _), (2, _), (3, _), (5, _)]) (T := ⟨[.old 2], _, [], [], [31]⟩ :: ⟨[.op 0 0], _, [], [0], [32]⟩ :: ⟨[.op 1 0], _, [], [0, 1], [33]⟩ :: ⟨[.op 2 0], _, [], [0, 1, 2], [34]⟩ :: ⟨[.old 2], _, [], [], [35]⟩ :: ⟨[.op 4 0], _, [], [4], [36]⟩ :: ⟨[.op 5 0], _, [], [4, 5], [37]⟩ :: ⟨[.op 6 0], _, [], [4, 5, 6], [38]⟩ :: ⟨[.old 0], _, [], [], [39]⟩ :: ⟨[.old 3], _, [], [], [40]⟩ :: ⟨[.old 1], _, [], [], [41]⟩ :: ⟨[.old 2], _, [], [], [42]⟩ :: ⟨[.op 11 0], _, [], [11], [43]⟩ :: ⟨[.op 12 0], _, [], [11, 12], [44]⟩ :: ⟨[.op 13 0], _, [], [11, 12, 13], [45]⟩ :: ⟨[.op 8 0, .op 9 0, .op 10 0, .op 14 0], _, [], List.range' 8 7, [46]⟩ :: ⟨[.old 2], _, [], [], [47]⟩ :: ⟨[.op 16 0], _, [], [16], [48]⟩ :: ⟨[.op 17 0], _, [], [16, 17], [49]⟩ :: ⟨[.op 18 0], _, [], [16, 17, 18], [50]⟩ :: ⟨[.op 3 0, .op 7 0, .op 15 0, .op 19 0], _, [], Lr 20, [51]⟩ :: ⟨[.op 20 0], _, [], Lr 21, [8]⟩ :: []) (F := [.op 21 0]) (hst.pick [0, 1, 2, 3] rfl) hb Za
     (o_p rfl (Zb rfl rfl u_0) <| o_p rfl (Zu rfl rfl (Opd.imp u_0 (fun _ _ h => Zv h13 h)) (fun _ _ ⟨_, _, _, e, _⟩ => ⟨_, e⟩)) <| o_p rfl (Zd Ze0 rfl rfl u_0) <| o_p rfl (Zf ty_9 rfl rfl u_0) <| o_p rfl (Zb rfl rfl u_0) <| o_p rfl (Zu rfl rfl (Opd.imp u_0 (fun _ _ h => Zv h13 h)) (fun _ _ ⟨_, _, _, e, _⟩ => ⟨_, e⟩)) <| o_p rfl (Zd Zg4 rfl rfl u_0) <| o_p rfl (Zf Zbb rfl rfl u_0) <| o_p rfl (Zb rfl rfl u_0) <| o_p rfl (Zf Zbb rfl rfl u_0) <| o_p rfl (Zb rfl rfl u_0) <| o_p rfl (Zb rfl rfl u_0) <| o_p rfl (Zu rfl rfl (Opd.imp u_0 (fun _ _ h => Zv h13 h)) (fun _ _ ⟨_, _, _, e, _⟩ => ⟨_, e⟩)) <| o_p rfl (Zd Zea rfl rfl u_0) <| o_p rfl (Zf Zc5 rfl rfl u_0) <| o_p rfl (Zn Zk6 (Zdw _ _ _ _ h15) rfl rfl (.cons u_0 (.cons u_1 (.cons u_2 (.cons u_3 .nil))))) <| o_p rfl (Zb rfl rfl u_0) <| o_p rfl (Zu rfl rfl (Opd.imp u_0 (fun _ _ h => Zv h13 h)) (fun _ _ ⟨_, _, _, e, _⟩ => ⟨_, e⟩)) <| o_p rfl (Zd Zey rfl rfl u_0) <| o_p rfl (Zf Zc5 rfl rfl u_0) <| o_p rfl (Zn Zk6 (Zdw _ _ _ _ h17) rfl rfl (.cons u_0 (.cons u_1 (.cons u_2 (.cons u_3 .nil))))) <| o_p rfl (Zc rfl rfl u_0) <| o_n) (by kernel_rfl) (fun a g hst hb => ?_)
   refine wp_ret ?_
   refine Z2 ?_
   refine Zq ?_
   obtain rfl := Option.some.inj H0
   exact Z1 rfl hst hb (Zk (s := 8)) (hst.at 0 rfl)
 · replace H0 := Zx hc11 H0
   obtain ⟨r18, h19, H0⟩ := Zh H0
   refine r_s (L := [(0, _), (2, _), (3, _), (5, _)]) (T := [⟨[.old 2], _, [], [], [53]⟩, ⟨[.old 1], _, [], [], [54]⟩, ⟨[.op 0 0, .op 1 0], _, [], [0, 1], [55]⟩, ⟨[.op 2 0], _, [], [0, 1, 2], [52]⟩]) (F := [.old 0, .old 1, .old 2, .old 3, .op 3 0]) (hst.pick [0, 1, 2, 3] rfl) hb Za
     (o_p rfl (Zb rfl rfl u_0) <| o_p rfl (Zb rfl rfl u_0) <| o_p rfl (Zn Ztt (Zk2 _ _ h19) rfl rfl (.cons u_0 (.cons u_1 .nil))) <| o_p rfl (Zc rfl rfl u_0) <| o_n) (by kernel_rfl) (fun a g hst hb => ?_)
   refine wp_cond_split (hst.bool 4 rfl) (fun hc20 => ?_) (fun hc20 => ?_)
   · replace H0 := Zw hc20 H0
     obtain ⟨n21, h22, H0⟩ := Zh H0
     refine r_s (L := [(0, _), (2, _), (3, _), (5, _)]) (T := [⟨[.old 2], _, [], [], [56]⟩, ⟨[.op 0 0], _, [], [0], [57]⟩, ⟨[.op 1 0], _, [], [0, 1], [58]⟩, ⟨[.op 2 0], _, [], [0, 1, 2], [59]⟩, ⟨[.op 3 0], _, [], Lr 4, [9]⟩]) (F := [.old 0, .old 1, .old 2, .old 3, .op 4 0]) (hst.pick [0, 1, 2, 3] rfl) hb Za
       (o_p rfl (Zb rfl rfl u_0) <| o_p rfl (Zu rfl rfl (Opd.imp u_0 (fun _ _ h => Zv h22 h)) (fun _ _ ⟨_, _, _, e, _⟩ => ⟨_, e⟩)) <| o_p rfl (Zd Zea rfl rfl u_0) <| o_p rfl (Zf Zc5 rfl rfl u_0) <| o_p rfl (Zc rfl rfl u_0) <| o_n) (by kernel_rfl) (fun a g hst hb => ?_)
     obtain ⟨n23, h24, H0⟩ := Zh H0; obtain ⟨r25, h26, H0⟩ := Zh H0; obtain ⟨r27, h28, H0⟩ := Zh H0; obtain ⟨r29, h30, H0⟩ := Zh H0
     refine r_s (T := ⟨[.old 4], _, [], [], [60]⟩ :: ⟨[.op 0 0], _, [], [0], [61]⟩ :: ⟨[.op 1 0], _, [], [0, 1], [62]⟩ :: ⟨[.op 2 0], _, [], [0, 1, 2], [63]⟩ :: ⟨[.old 4], _, [], [], [64]⟩ :: ⟨[.op 4 0], _, [], [4], [65]⟩ :: ⟨[.op 5 0], _, [], [4, 5], [66]⟩ :: ⟨[.op 6 0], _, [], [4, 5, 6], [67]⟩ :: ⟨[.old 0], _, [], [], [68]⟩ :: ⟨[.old 3], _, [], [], [69]⟩ :: ⟨[.old 1], _, [], [], [70]⟩ :: ⟨[.old 4], _, [], [], [71]⟩ :: ⟨[.op 11 0], _, [], [11], [72]⟩ :: ⟨[.op 12 0], _, [], [11, 12], [73]⟩ :: ⟨[.op 13 0], _, [], [11, 12, 13], [74]⟩ :: ⟨[.op 8 0, .op 9 0, .op 10 0, .op 14 0], _, [], List.range' 8 7, [75]⟩ :: ⟨[.old 2], _, [], [], [76]⟩ :: ⟨[.op 16 0], _, [], [16], [77]⟩ :: ⟨[.op 17 0], _, [], [16, 17], [78]⟩ :: ⟨[.op 18 0], _, [], [16, 17, 18], [79]⟩ :: ⟨[.old 2], _, [], [], [80]⟩ :: ⟨[.op 20 0], _, [], [20], [81]⟩ :: ⟨[.op 21 0], _, [], [20, 21], [82]⟩ :: ⟨[.op 22 0], _, [], [20, 21, 22], [83]⟩ :: ⟨[.old 4], _, [], [], [84]⟩ :: ⟨[.op 24 0], _, [], [24], [85]⟩ :: ⟨[.op 25 0], _, [], [24, 25], [86]⟩ :: ⟨[.op 26 0], _, [], [24, 25, 26], [87]⟩ :: ⟨[.old 2], _, [], [], [88]⟩ :: ⟨[.op 28 0], _, [], [28], [89]⟩ :: ⟨[.op 29 0], _, [], [28, 29], [90]⟩ :: ⟨[.op 30 0], _, [], [28, 29, 30], [91]⟩ :: ⟨[.op 19 0, .op 23 0, .op 27 0, .op 31 0], _, [], List.range' 8 24, [92]⟩ :: ⟨[.op 3 0, .op 7 0, .op 15 0, .op 32 0], _, [], Lr 33, [93]⟩ :: ⟨[.op 33 0], _, [], Lr 34, [8]⟩ :: []) (F := [.op 34 0]) hst hb Za
       (o_p rfl (Zb rfl rfl u_0) <| o_p rfl (Zu rfl rfl (Opd.imp u_0 (fun _ _ h => Zv h24 h)) (fun _ _ ⟨_, _, _, e, _⟩ => ⟨_, e⟩)) <| o_p rfl (Zd Ze0 rfl rfl u_0) <| o_p rfl (Zf ty_9 rfl rfl u_0) <| o_p rfl (Zb rfl rfl u_0) <| o_p rfl (Zu rfl rfl (Opd.imp u_0 (fun _ _ h => Zv h24 h)) (fun _ _ ⟨_, _, _, e, _⟩ => ⟨_, e⟩)) <| o_p rfl (Zd Zg4 rfl rfl u_0) <| o_p rfl (Zf Zbb rfl rfl u_0) <| o_p rfl (Zb rfl rfl u_0) <| o_p rfl (Zf Zbb rfl rfl u_0) <| o_p rfl (Zb rfl rfl u_0) <| o_p rfl (Zb rfl rfl u_0) <| o_p rfl (Zu rfl rfl (Opd.imp u_0 (fun _ _ h => Zv h24 h)) (fun _ _ ⟨_, _, _, e, _⟩ => ⟨_, e⟩)) <| o_p rfl (Zd Zea rfl rfl u_0) <| o_p rfl (Zf Zc5 rfl rfl u_0) <| o_p rfl (Zn Zk6 (Zdw _ _ _ _ h26) rfl rfl (.cons u_0 (.cons u_1 (.cons u_2 (.cons u_3 .nil))))) <| o_p rfl (Zb rfl rfl u_0) <| o_p rfl (Zu rfl rfl (Opd.imp u_0 (fun _ _ h => Zv h22 h)) (fun _ _ ⟨_, _, _, e, _⟩ => ⟨_, e⟩)) <| o_p rfl (Zd Ze0 rfl rfl u_0) <| o_p rfl (Zf ty_9 rfl rfl u_0) <| o_p rfl (Zb rfl rfl u_0) <| o_p rfl (Zu rfl rfl (Opd.imp u_0 (fun _ _ h => Zv h22 h)) (fun _ _ ⟨_, _, _, e, _⟩ => ⟨_, e⟩)) <| o_p rfl (Zd Zg4 rfl rfl u_0) <| o_p rfl (Zf Zbb rfl rfl u_0) <| o_p rfl (Zb rfl rfl u_0) <| o_p rfl (Zu rfl rfl (Opd.imp u_0 (fun _ _ h => Zv h24 h)) (fun _ _ ⟨_, _, _, e, _⟩ => ⟨_, e⟩)) <| o_p rfl (Zd Zey rfl rfl u_0) <| o_p rfl (Zf Zc5 rfl rfl u_0) <| o_p rfl (Zb rfl rfl u_0) <| o_p rfl (Zu rfl rfl (Opd.imp u_0 (fun _ _ h => Zv h22 h)) (fun _ _ ⟨_, _, _, e, _⟩ => ⟨_, e⟩)) <| o_p rfl (Zd Zey rfl rfl u_0) <| o_p rfl (Zf Zc5 rfl rfl u_0) <| o_p rfl (Zn Zk6 (Zdw _ _ _ _ h28) rfl rfl (.cons u_0 (.cons u_1 (.cons u_2 (.cons u_3 .nil))))) <| o_p rfl (Zn Zk6 (Zdw _ _ _ _ h30) rfl rfl (.cons u_0 (.cons u_1 (.cons u_2 (.cons u_3 .nil))))) <| o_p rfl (Zc rfl rfl u_0) <| o_n) (by kernel_rfl) (fun a g hst hb => ?_)
     refine wp_ret ?_
     refine Z2 ?_
     refine Zq ?_
     obtain rfl := Option.some.inj H0
     exact Z1 rfl hst hb (Zk (s := 8)) (hst.at 0 rfl)
   · replace H0 := Zx hc20 H0
     obtain ⟨r31, h32, H0⟩ := Zh H0; obtain ⟨n33, h34, H0⟩ := Zh H0; obtain ⟨r35, h36, H0⟩ := Zh H0; obtain ⟨n37, h38, H0⟩ := Zh H0; obtain ⟨r39, h40, H0⟩ := Zh H0
     refine r_s (L := [(0, _), (2, _), (3, _), (5, _)]) (T := ⟨[.old 1], _, [], [], [95]⟩ :: ⟨[.old 2], _, [], [], [96]⟩ :: ⟨[.op 0 0, .op 1 0], _, [], [0, 1], [97]⟩ :: ⟨[.op 2 0], _, [], [0, 1, 2], [98]⟩ :: ⟨[.op 3 0, .old 1], _, [], Lr 4, [99]⟩ :: ⟨[.op 3 0, .op 4 0], _, [], Lr 5, [100]⟩ :: ⟨[.op 3 0, .op 5 0], _, [], Lr 6, [101]⟩ :: ⟨[.op 3 0, .op 6 0], _, [], Lr 7, [102]⟩ :: ⟨[.op 3 0, .op 7 0], _, [], Lr 8, [103]⟩ :: ⟨[.op 3 0, .op 8 0], _, [], Lr 9, [104]⟩ :: ⟨[.op 3 0, .old 1], _, [], Lr 4, [105]⟩ :: ⟨[.op 3 0, .op 10 0], _, [], [0, 1, 2, 3, 10], [106]⟩ :: ⟨[.op 3 0, .op 11 0], _, [], [0, 1, 2, 3, 10, 11], [107]⟩ :: ⟨[.op 3 0, .op 12 0], _, [], [0, 1, 2, 3, 10, 11, 12], [108]⟩ :: ⟨[.op 3 0, .op 13 0], _, [], 0 :: 1 :: 2 :: 3 :: 4 :: 5 :: 6 :: 7 :: 8 :: 10 :: 11 :: 12 :: 13 :: [], [109]⟩ :: ⟨[.op 3 0, .op 14 0], _, [], 0 :: 1 :: 2 :: 3 :: 4 :: 5 :: 6 :: 7 :: 8 :: 10 :: 11 :: 12 :: 13 :: 14 :: [], [110]⟩ :: ⟨[.op 3 0, .op 15 0], _, [], 0 :: 1 :: 2 :: 3 :: 4 :: 5 :: 6 :: 7 :: 8 :: 10 :: 11 :: 12 :: 13 :: 14 :: 15 :: [], [111]⟩ :: ⟨[.op 3 0, .op 9 0, .op 16 0], _, [], Lr 17, [112]⟩ :: ⟨[.op 3 0, .op 17 0], _, [], Lr 18, [113]⟩ :: ⟨[.op 18 0], _, [], Lr 19, [94]⟩ :: []) (F := [.old 0, .old 1, .old 2, .old 3, .op 19 0]) (hst.pick [0, 1, 2, 3] rfl) hb Za
       (o_p rfl (Zb rfl rfl u_0) <| o_p rfl (Zb rfl rfl u_0) <| o_p rfl (Zn Ztt (Zk2 _ _ h32) rfl rfl (.cons u_0 (.cons u_1 .nil))) <| o_p rfl (Zb rfl rfl u_0) <| o_g (g_t rfl rfl rfl (fun hG => Zb rfl rfl u_0)) <| o_g (g_t rfl rfl rfl (fun hG => Zu rfl rfl (Opd.imp (Opd.gd hG u_0) (fun _ _ h => Zv (Zbm h34 hG) h)) (fun _ _ ⟨_, _, _, e, _⟩ => ⟨_, e⟩))) <| o_g (g_t rfl rfl rfl (fun hG => Zd Zey rfl rfl (Opd.gd hG u_0))) <| o_g (g_t rfl rfl rfl (fun hG => Zf Zc5 rfl rfl (Opd.gd hG u_0))) <| o_g (g_t rfl rfl rfl (fun hG => Zn Zmv (Zdi _ (Zbm h36 hG)) rfl rfl (.cons (Opd.gd hG u_0) .nil))) <| o_g (g_t rfl rfl rfl (fun hG => Zb3 rfl rfl (Opd.gd hG u_0) c_i rfl)) <| o_g (g_t rfl rfl rfl (fun hG => Zb rfl rfl u_0)) <| o_g (g_t rfl rfl rfl (fun hG => Zu rfl rfl (Opd.imp (Opd.gd hG u_0) (fun _ _ h => Zv (Zbm h38 hG) h)) (fun _ _ ⟨_, _, _, e, _⟩ => ⟨_, e⟩))) <| o_g (g_t rfl rfl rfl (fun hG => Zd Zea rfl rfl (Opd.gd hG u_0))) <| o_g (g_t rfl rfl rfl (fun hG => Zf Zc5 rfl rfl (Opd.gd hG u_0))) <| o_g (g_t rfl rfl rfl (fun hG => Zn Zmv (Zdi _ (Zbm h40 hG)) rfl rfl (.cons (Opd.gd hG u_0) .nil))) <| o_g (g_t rfl rfl rfl (fun hG => Zb3 rfl rfl (Opd.gd hG u_0) c_i rfl)) <| o_g (g_t rfl rfl rfl (fun hG => Zx2 rfl rfl c_i (Opd.gd hG u_0) rfl)) <| o_g (g_t rfl rfl rfl (fun hG => Zcc rfl rfl (Opd.gd hG u_0) (Opd.gd hG u_1))) <| o_p rfl (Zbc rfl rfl u_0 (fun hz => (Opd.gd hz u_1))) <| o_p rfl (Zc rfl rfl u_0) <| o_n) (by kernel_rfl) (fun a g hst hb => ?_)
     refine wp_cond_split (hst.bool 4 rfl) (fun hc41 => ?_) (fun hc41 => ?_)
     · replace H0 := Zw hc41 H0
       obtain ⟨n42, h43, H0⟩ := Zh H0; obtain ⟨r44, h45, H0⟩ := Zh H0; obtain ⟨r46, h47, H0⟩ := Zh H0
       refine r_s (L := [(0, _), (2, _), (3, _), (5, _)]) (T := ⟨[.old 1], _, [], [], [114]⟩ :: ⟨[.op 0 0], _, [], [0], [115]⟩ :: ⟨[.op 1 0], _, [], [0, 1], [116]⟩ :: ⟨[.op 2 0], _, [], [0, 1, 2], [117]⟩ :: ⟨[.old 1], _, [], [], [118]⟩ :: ⟨[.op 4 0], _, [], [4], [119]⟩ :: ⟨[.op 5 0], _, [], [4, 5], [120]⟩ :: ⟨[.op 6 0], _, [], [4, 5, 6], [121]⟩ :: ⟨[.old 1], _, [], [], [122]⟩ :: ⟨[.op 8 0], _, [], [8], [123]⟩ :: ⟨[.op 9 0], _, [], [8, 9], [124]⟩ :: ⟨[.op 10 0], _, [], [8, 9, 10], [125]⟩ :: ⟨[.old 0], _, [], [], [126]⟩ :: ⟨[.old 3], _, [], [], [127]⟩ :: ⟨[.old 1], _, [], [], [128]⟩ :: ⟨[.op 14 0], _, [], [14], [129]⟩ :: ⟨[.op 15 0], _, [], [14, 15], [130]⟩ :: ⟨[.op 16 0], _, [], [14, 15, 16], [131]⟩ :: ⟨[.old 2], _, [], [], [132]⟩ :: ⟨[.op 12 0, .op 13 0, .op 17 0, .op 18 0], _, [], List.range' 12 7, [133]⟩ :: ⟨[.op 3 0, .op 7 0, .op 11 0, .op 19 0], _, [], Lr 20, [134]⟩ :: ⟨[.op 20 0], _, [], Lr 21, [8]⟩ :: []) (F := [.op 21 0]) (hst.pick [0, 1, 2, 3] rfl) hb Za
         (o_p rfl (Zb rfl rfl u_0) <| o_p rfl (Zu rfl rfl (Opd.imp u_0 (fun _ _ h => Zv h43 h)) (fun _ _ ⟨_, _, _, e, _⟩ => ⟨_, e⟩)) <| o_p rfl (Zd Ze0 rfl rfl u_0) <| o_p rfl (Zf ty_9 rfl rfl u_0) <| o_p rfl (Zb rfl rfl u_0) <| o_p rfl (Zu rfl rfl (Opd.imp u_0 (fun _ _ h => Zv h43 h)) (fun _ _ ⟨_, _, _, e, _⟩ => ⟨_, e⟩)) <| o_p rfl (Zd Zg4 rfl rfl u_0) <| o_p rfl (Zf Zbb rfl rfl u_0) <| o_p rfl (Zb rfl rfl u_0) <| o_p rfl (Zu rfl rfl (Opd.imp u_0 (fun _ _ h => Zv h43 h)) (fun _ _ ⟨_, _, _, e, _⟩ => ⟨_, e⟩)) <| o_p rfl (Zd Zea rfl rfl u_0) <| o_p rfl (Zf Zc5 rfl rfl u_0) <| o_p rfl (Zb rfl rfl u_0) <| o_p rfl (Zf Zbb rfl rfl u_0) <| o_p rfl (Zb rfl rfl u_0) <| o_p rfl (Zu rfl rfl (Opd.imp u_0 (fun _ _ h => Zv h43 h)) (fun _ _ ⟨_, _, _, e, _⟩ => ⟨_, e⟩)) <| o_p rfl (Zd Zey rfl rfl u_0) <| o_p rfl (Zf Zc5 rfl rfl u_0) <| o_p rfl (Zb rfl rfl u_0) <| o_p rfl (Zn Zk6 (Zdw _ _ _ _ h45) rfl rfl (.cons u_0 (.cons u_1 (.cons u_2 (.cons u_3 .nil))))) <| o_p rfl (Zn Zk6 (Zdw _ _ _ _ h47) rfl rfl (.cons u_0 (.cons u_1 (.cons u_2 (.cons u_3 .nil))))) <| o_p rfl (Zc rfl rfl u_0) <| o_n) (by kernel_rfl) (fun a g hst hb => ?_)
       refine wp_ret ?_
       refine Z2 ?_
       refine Zq ?_
       obtain rfl := Option.some.inj H0
       exact Z1 rfl hst hb (Zk (s := 8)) (hst.at 0 rfl)
     · replace H0 := Zx hc41 H0
       obtain ⟨r48, h49, H0⟩ := Zh H0
       refine r_s (L := [(0, _), (2, _), (3, _), (5, _)]) (T := [⟨[.old 1], _, [], [], [136]⟩, ⟨[.old 2], _, [], [], [137]⟩, ⟨[.op 0 0, .op 1 0], _, [], [0, 1], [138]⟩, ⟨[.op 2 0], _, [], [0, 1, 2], [135]⟩]) (F := [.old 0, .old 1, .old 2, .old 3, .op 3 0]) (hst.pick [0, 1, 2, 3] rfl) hb Za
         (o_p rfl (Zb rfl rfl u_0) <| o_p rfl (Zb rfl rfl u_0) <| o_p rfl (Zn Ztt (Zk2 _ _ h49) rfl rfl (.cons u_0 (.cons u_1 .nil))) <| o_p rfl (Zc rfl rfl u_0) <| o_n) (by kernel_rfl) (fun a g hst hb => ?_)
       refine wp_cond_split (hst.bool 4 rfl) (fun hc50 => ?_) (fun hc50 => ?_)
       · replace H0 := Zw hc50 H0
         obtain ⟨n51, h52, H0⟩ := Zh H0
         refine r_s (L := [(0, _), (2, _), (3, _), (5, _)]) (T := [⟨[.old 1], _, [], [], [139]⟩, ⟨[.op 0 0], _, [], [0], [140]⟩, ⟨[.op 1 0], _, [], [0, 1], [141]⟩, ⟨[.op 2 0], _, [], [0, 1, 2], [142]⟩, ⟨[.op 3 0], _, [], Lr 4, [10]⟩]) (F := [.old 0, .old 1, .old 2, .old 3, .op 4 0]) (hst.pick [0, 1, 2, 3] rfl) hb Za
           (o_p rfl (Zb rfl rfl u_0) <| o_p rfl (Zu rfl rfl (Opd.imp u_0 (fun _ _ h => Zv h52 h)) (fun _ _ ⟨_, _, _, e, _⟩ => ⟨_, e⟩)) <| o_p rfl (Zd Zey rfl rfl u_0) <| o_p rfl (Zf Zc5 rfl rfl u_0) <| o_p rfl (Zc rfl rfl u_0) <| o_n) (by kernel_rfl) (fun a g hst hb => ?_)
         obtain ⟨n53, h54, H0⟩ := Zh H0; obtain ⟨r55, h56, H0⟩ := Zh H0; obtain ⟨r57, h58, H0⟩ := Zh H0; obtain ⟨r59, h60, H0⟩ := Zh H0
         refine r_s (T := ⟨[.old 4], _, [], [], [143]⟩ :: ⟨[.op 0 0], _, [], [0], [144]⟩ :: ⟨[.op 1 0], _, [], [0, 1], [145]⟩ :: ⟨[.op 2 0], _, [], [0, 1, 2], [146]⟩ :: ⟨[.old 4], _, [], [], [147]⟩ :: ⟨[.op 4 0], _, [], [4], [148]⟩ :: ⟨[.op 5 0], _, [], [4, 5], [149]⟩ :: ⟨[.op 6 0], _, [], [4, 5, 6], [150]⟩ :: ⟨[.old 1], _, [], [], [151]⟩ :: ⟨[.op 8 0], _, [], [8], [152]⟩ :: ⟨[.op 9 0], _, [], [8, 9], [153]⟩ :: ⟨[.op 10 0], _, [], [8, 9, 10], [154]⟩ :: ⟨[.old 1], _, [], [], [155]⟩ :: ⟨[.op 12 0], _, [], [12], [156]⟩ :: ⟨[.op 13 0], _, [], [12, 13], [157]⟩ :: ⟨[.op 14 0], _, [], [12, 13, 14], [158]⟩ :: ⟨[.old 1], _, [], [], [159]⟩ :: ⟨[.op 16 0], _, [], [16], [160]⟩ :: ⟨[.op 17 0], _, [], [16, 17], [161]⟩ :: ⟨[.op 18 0], _, [], [16, 17, 18], [162]⟩ :: ⟨[.old 4], _, [], [], [163]⟩ :: ⟨[.op 20 0], _, [], [20], [164]⟩ :: ⟨[.op 21 0], _, [], [20, 21], [165]⟩ :: ⟨[.op 22 0], _, [], [20, 21, 22], [166]⟩ :: ⟨[.op 11 0, .op 15 0, .op 19 0, .op 23 0], _, [], List.range' 8 16, [167]⟩ :: ⟨[.old 0], _, [], [], [168]⟩ :: ⟨[.old 3], _, [], [], [169]⟩ :: ⟨[.old 4], _, [], [], [170]⟩ :: ⟨[.op 27 0], _, [], [27], [171]⟩ :: ⟨[.op 28 0], _, [], [27, 28], [172]⟩ :: ⟨[.op 29 0], _, [], [27, 28, 29], [173]⟩ :: ⟨[.old 2], _, [], [], [174]⟩ :: ⟨[.op 25 0, .op 26 0, .op 30 0, .op 31 0], _, [], List.range' 8 24, [175]⟩ :: ⟨[.op 3 0, .op 7 0, .op 24 0, .op 32 0], _, [], Lr 33, [176]⟩ :: ⟨[.op 33 0], _, [], Lr 34, [8]⟩ :: []) (F := [.op 34 0]) hst hb Za
           (o_p rfl (Zb rfl rfl u_0) <| o_p rfl (Zu rfl rfl (Opd.imp u_0 (fun _ _ h => Zv h54 h)) (fun _ _ ⟨_, _, _, e, _⟩ => ⟨_, e⟩)) <| o_p rfl (Zd Ze0 rfl rfl u_0) <| o_p rfl (Zf ty_9 rfl rfl u_0) <| o_p rfl (Zb rfl rfl u_0) <| o_p rfl (Zu rfl rfl (Opd.imp u_0 (fun _ _ h => Zv h54 h)) (fun _ _ ⟨_, _, _, e, _⟩ => ⟨_, e⟩)) <| o_p rfl (Zd Zg4 rfl rfl u_0) <| o_p rfl (Zf Zbb rfl rfl u_0) <| o_p rfl (Zb rfl rfl u_0) <| o_p rfl (Zu rfl rfl (Opd.imp u_0 (fun _ _ h => Zv h52 h)) (fun _ _ ⟨_, _, _, e, _⟩ => ⟨_, e⟩)) <| o_p rfl (Zd Ze0 rfl rfl u_0) <| o_p rfl (Zf ty_9 rfl rfl u_0) <| o_p rfl (Zb rfl rfl u_0) <| o_p rfl (Zu rfl rfl (Opd.imp u_0 (fun _ _ h => Zv h52 h)) (fun _ _ ⟨_, _, _, e, _⟩ => ⟨_, e⟩)) <| o_p rfl (Zd Zg4 rfl rfl u_0) <| o_p rfl (Zf Zbb rfl rfl u_0) <| o_p rfl (Zb rfl rfl u_0) <| o_p rfl (Zu rfl rfl (Opd.imp u_0 (fun _ _ h => Zv h52 h)) (fun _ _ ⟨_, _, _, e, _⟩ => ⟨_, e⟩)) <| o_p rfl (Zd Zea rfl rfl u_0) <| o_p rfl (Zf Zc5 rfl rfl u_0) <| o_p rfl (Zb rfl rfl u_0) <| o_p rfl (Zu rfl rfl (Opd.imp u_0 (fun _ _ h => Zv h54 h)) (fun _ _ ⟨_, _, _, e, _⟩ => ⟨_, e⟩)) <| o_p rfl (Zd Zea rfl rfl u_0) <| o_p rfl (Zf Zc5 rfl rfl u_0) <| o_p rfl (Zn Zk6 (Zdw _ _ _ _ h56) rfl rfl (.cons u_0 (.cons u_1 (.cons u_2 (.cons u_3 .nil))))) <| o_p rfl (Zb rfl rfl u_0) <| o_p rfl (Zf Zbb rfl rfl u_0) <| o_p rfl (Zb rfl rfl u_0) <| o_p rfl (Zu rfl rfl (Opd.imp u_0 (fun _ _ h => Zv h54 h)) (fun _ _ ⟨_, _, _, e, _⟩ => ⟨_, e⟩)) <| o_p rfl (Zd Zey rfl rfl u_0) <| o_p rfl (Zf Zc5 rfl rfl u_0) <| o_p rfl (Zb rfl rfl u_0) <| o_p rfl (Zn Zk6 (Zdw _ _ _ _ h58) rfl rfl (.cons u_0 (.cons u_1 (.cons u_2 (.cons u_3 .nil))))) <| o_p rfl (Zn Zk6 (Zdw _ _ _ _ h60) rfl rfl (.cons u_0 (.cons u_1 (.cons u_2 (.cons u_3 .nil))))) <| o_p rfl (Zc rfl rfl u_0) <| o_n) (by kernel_rfl) (fun a g hst hb => ?_)
         refine wp_ret ?_
         refine Z2 ?_
         refine Zq ?_
         obtain rfl := Option.some.inj H0
         exact Z1 rfl hst hb (Zk (s := 8)) (hst.at 0 rfl)
       · replace H0 := Zx hc50 H0
         refine wp_skip ?_
         refine Zba ?_
         refine Zr ?_
         obtain ⟨r61, h62, H0⟩ := Zh H0
         refine r_s (L := [(0, _), (2, _), (3, _), (5, _)]) (T := [⟨[.old 0], _, [], [], [177]⟩, ⟨[.old 3], _, [], [], [178]⟩, ⟨[.old 1], _, [], [], [179]⟩, ⟨[.old 2], _, [], [], [180]⟩, ⟨[.op 0 0, .op 1 0, .op 2 0, .op 3 0], _, [], Lr 4, [181]⟩, ⟨[.op 4 0], _, [], Lr 5, [8]⟩]) (F := [.op 5 0]) (hst.pick [0, 1, 2, 3] rfl) hb Za
           (o_p rfl (Zb rfl rfl u_0) <| o_p rfl (Zf Zbb rfl rfl u_0) <| o_p rfl (Zb rfl rfl u_0) <| o_p rfl (Zb rfl rfl u_0) <| o_p rfl (Zn Zk6 (Zdw _ _ _ _ h62) rfl rfl (.cons u_0 (.cons u_1 (.cons u_2 (.cons u_3 .nil))))) <| o_p rfl (Zc rfl rfl u_0) <| o_n) (by kernel_rfl) (fun a g hst hb => ?_)
         refine wp_ret ?_
         obtain rfl := Option.some.inj H0
         exact Z1 rfl hst hb (Zk (s := 8)) (hst.at 0 rfl)
theorem Zqc (self : shelf_nodeT → ByteArray → Ze → Option (shelf_nodeT)) (hself : ∀ (a0 : shelf_nodeT) (a1 : ByteArray) (a2 : Ze) {r : shelf_nodeT}, self a0 a1 a2 = some r → FnOk Tryz.prog 49 [(Z7.pd a0), (pStr a1), (Zi.pd a2)] (Z7.pd r)) (a0 : shelf_nodeT) (a1 : ByteArray) (a2 : Ze) {r : shelf_nodeT} (h : Zig self a0 a1 a2 = some r) : FnOk Tryz.prog 49 [(Z7.pd a0), (pStr a1), (Zi.pd a2)] (Z7.pd r) := by
 have H0 := h
 unfold Zig at H0
 clear h
 refine Zbp (N := 78) Tryz.func49 rfl rfl (Nat.le_of_ble_eq_true rfl) rfl rfl (fun a g0 hst hb => ?_)
 refine r_s (T := [⟨[.old 2], _, [], [], [5]⟩, ⟨[], [(6, (Z7.pd shelf_nodeT.nil))], [], [], [6]⟩]) (F := [.old 0, .old 1, .op 0 0]) hst hb Za
   (o_p rfl (Zbj rfl rfl u_0) <| o_p rfl (Zc rfl rfl (Opd.c (fun g => Zee g))) <| o_n) (by kernel_rfl) (fun a g hst hb => ?_)
 refine wp_seq ?_
 refine wp_block ?_
 refine r_s (T := [⟨[.old 0], _, [], [], [8]⟩, ⟨[.op 0 0], _, [], [0], [9]⟩, ⟨[.op 1 0], _, [], [0, 1], [7]⟩]) (F := [.old 0, .old 1, .old 2, .op 2 0]) hst hb Za
   (o_p rfl (Zb rfl rfl u_0) <| o_p rfl (Zpa Tryz.underlying25 rfl rfl u_0 (Ze4 _)) <| o_p rfl (Zc rfl rfl u_0) <| o_n) (by kernel_rfl) (fun a g hst hb => ?_)
 refine wp_cond_split (hst.bool 3 rfl) (fun hc1 => ?_) (fun hc1 => ?_)
 · replace H0 := Zw hc1 H0
   obtain ⟨r2, h3, H0⟩ := Zh H0
   refine r_s (L := [(1, _), (5, _)]) (T := [⟨[.old 0], _, [], [], [10]⟩, ⟨[.old 1], _, [], [], [11]⟩, ⟨[.op 0 0, .op 1 0], [(12, (Z7.pd r2))], [], [0, 1], [12]⟩, ⟨[.op 2 0], _, [], [0, 1, 2], [6]⟩]) (F := [.op 3 0]) (hst.pick [1, 2] rfl) hb Za
     (o_p rfl (Zb rfl rfl u_0) <| o_p rfl (Zf Zbb rfl rfl u_0) <| o_p rfl (Zn Zk6 (Zdw _ _ _ _ h3) rfl rfl (.cons u_0 (.cons u_1 (.cons (Opd.c (fun g => Zee g)) (.cons (Opd.c (fun g => Zee g)) .nil))))) <| o_p rfl (Zc rfl rfl u_0) <| o_n) (by kernel_rfl) (fun a g hst hb => ?_)
   refine wp_ret ?_
   refine Z2 ?_
   refine Zq ?_
   obtain rfl := Option.some.inj H0
   exact Z1 rfl hst hb (Zk (s := 6)) (hst.at 0 rfl)
 · replace H0 := Zx hc1 H0
   obtain ⟨n4, h5, H0⟩ := Zh H0
   refine r_s (L := [(0, _), (1, _), (5, _)]) (T := [⟨[.old 1], _, [], [], [14]⟩, ⟨[.old 0], _, [], [], [15]⟩, ⟨[.op 1 0], _, [], [1], [16]⟩, ⟨[.op 2 0], _, [], [1, 2], [17]⟩, ⟨[.op 3 0], _, [], [1, 2, 3], [18]⟩, ⟨[.op 0 0, .op 4 0], _, [], Lr 5, [19]⟩, ⟨[.op 5 0], _, [], Lr 6, [13]⟩]) (F := [.old 0, .old 1, .old 2, .op 6 0]) (hst.pick [0, 1, 2] rfl) hb Za
     (o_p rfl (Zb rfl rfl u_0) <| o_p rfl (Zb rfl rfl u_0) <| o_p rfl (Zu rfl rfl (Opd.imp u_0 (fun _ _ h => Zv h5 h)) (fun _ _ ⟨_, _, _, e, _⟩ => ⟨_, e⟩)) <| o_p rfl (Zd Ze0 rfl rfl u_0) <| o_p rfl (Zf ty_9 rfl rfl u_0) <| o_p rfl (Zl9 rfl rfl u_0 u_1) <| o_p rfl (Zc rfl rfl u_0) <| o_n) (by kernel_rfl) (fun a g hst hb => ?_)
   refine wp_cond_split (hst.bool 3 rfl) (fun hc6 => ?_) (fun hc6 => ?_)
   · replace H0 := Zw hc6 H0
     obtain ⟨r7, h8, H0⟩ := Zh H0; obtain ⟨r9, h10, H0⟩ := Zh H0
     refine r_s (L := [(0, _), (1, _), (5, _)]) (T := ⟨[.old 0], _, [], [], [20]⟩ :: ⟨[.op 0 0], _, [], [0], [21]⟩ :: ⟨[.op 1 0], _, [], [0, 1], [22]⟩ :: ⟨[.op 2 0], _, [], [0, 1, 2], [23]⟩ :: ⟨[.old 0], _, [], [], [24]⟩ :: ⟨[.op 4 0], _, [], [4], [25]⟩ :: ⟨[.op 5 0], _, [], [4, 5], [26]⟩ :: ⟨[.op 6 0], _, [], [4, 5, 6], [27]⟩ :: ⟨[.old 0], _, [], [], [28]⟩ :: ⟨[.op 8 0], _, [], [8], [29]⟩ :: ⟨[.op 9 0], _, [], [8, 9], [30]⟩ :: ⟨[.op 10 0], _, [], [8, 9, 10], [31]⟩ :: ⟨[.old 1], _, [], [], [32]⟩ :: ⟨[.old 2], _, [], [], [33]⟩ :: ⟨[.op 11 0, .op 12 0, .op 13 0], _, [], List.range' 8 6, [34]⟩ :: ⟨[.old 0], _, [], [], [35]⟩ :: ⟨[.op 15 0], _, [], [15], [36]⟩ :: ⟨[.op 16 0], _, [], [15, 16], [37]⟩ :: ⟨[.op 17 0], _, [], [15, 16, 17], [38]⟩ :: ⟨[.op 3 0, .op 7 0, .op 14 0, .op 18 0], _, [], Lr 19, [39]⟩ :: ⟨[.op 19 0], _, [], Lr 20, [6]⟩ :: []) (F := [.op 20 0]) (hst.pick [0, 1, 2] rfl) hb Za
       (o_p rfl (Zb rfl rfl u_0) <| o_p rfl (Zu rfl rfl (Opd.imp u_0 (fun _ _ h => Zv h5 h)) (fun _ _ ⟨_, _, _, e, _⟩ => ⟨_, e⟩)) <| o_p rfl (Zd Ze0 rfl rfl u_0) <| o_p rfl (Zf ty_9 rfl rfl u_0) <| o_p rfl (Zb rfl rfl u_0) <| o_p rfl (Zu rfl rfl (Opd.imp u_0 (fun _ _ h => Zv h5 h)) (fun _ _ ⟨_, _, _, e, _⟩ => ⟨_, e⟩)) <| o_p rfl (Zd Zg4 rfl rfl u_0) <| o_p rfl (Zf Zbb rfl rfl u_0) <| o_p rfl (Zb rfl rfl u_0) <| o_p rfl (Zu rfl rfl (Opd.imp u_0 (fun _ _ h => Zv h5 h)) (fun _ _ ⟨_, _, _, e, _⟩ => ⟨_, e⟩)) <| o_p rfl (Zd Zea rfl rfl u_0) <| o_p rfl (Zf Zc5 rfl rfl u_0) <| o_p rfl (Zb rfl rfl u_0) <| o_p rfl (Zf Zbb rfl rfl u_0) <| o_p rfl (Zn Z0o (hself _ _ _ h8) rfl rfl (.cons u_0 (.cons u_1 (.cons u_2 .nil)))) <| o_p rfl (Zb rfl rfl u_0) <| o_p rfl (Zu rfl rfl (Opd.imp u_0 (fun _ _ h => Zv h5 h)) (fun _ _ ⟨_, _, _, e, _⟩ => ⟨_, e⟩)) <| o_p rfl (Zd Zey rfl rfl u_0) <| o_p rfl (Zf Zc5 rfl rfl u_0) <| o_p rfl (Zn Zto (Zkb _ _ _ _ h10) rfl rfl (.cons u_0 (.cons u_1 (.cons u_2 (.cons u_3 .nil))))) <| o_p rfl (Zc rfl rfl u_0) <| o_n) (by kernel_rfl) (fun a g hst hb => ?_)
     refine wp_ret ?_
     refine Z2 ?_
     refine Zq ?_
     obtain rfl := Option.some.inj H0
     exact Z1 rfl hst hb (Zk (s := 6)) (hst.at 0 rfl)
   · replace H0 := Zx hc6 H0
     refine r_s (L := [(0, _), (1, _), (5, _)]) (T := [⟨[.old 1], _, [], [], [41]⟩, ⟨[.old 0], _, [], [], [42]⟩, ⟨[.op 1 0], _, [], [1], [43]⟩, ⟨[.op 2 0], _, [], [1, 2], [44]⟩, ⟨[.op 3 0], _, [], [1, 2, 3], [45]⟩, ⟨[.op 0 0, .op 4 0], _, [], Lr 5, [46]⟩, ⟨[.op 5 0], _, [], Lr 6, [40]⟩]) (F := [.old 0, .old 1, .old 2, .op 6 0]) (hst.pick [0, 1, 2] rfl) hb Za
       (o_p rfl (Zb rfl rfl u_0) <| o_p rfl (Zb rfl rfl u_0) <| o_p rfl (Zu rfl rfl (Opd.imp u_0 (fun _ _ h => Zv h5 h)) (fun _ _ ⟨_, _, _, e, _⟩ => ⟨_, e⟩)) <| o_p rfl (Zd Ze0 rfl rfl u_0) <| o_p rfl (Zf ty_9 rfl rfl u_0) <| o_p rfl (Zuf rfl rfl u_0 u_1) <| o_p rfl (Zc rfl rfl u_0) <| o_n) (by kernel_rfl) (fun a g hst hb => ?_)
     refine wp_cond_split (hst.bool 3 rfl) (fun hc11 => ?_) (fun hc11 => ?_)
     · replace H0 := Zw hc11 H0
       obtain ⟨r12, h13, H0⟩ := Zh H0; obtain ⟨r14, h15, H0⟩ := Zh H0
       refine r_s (L := [(0, _), (1, _), (5, _)]) (T := ⟨[.old 0], _, [], [], [47]⟩ :: ⟨[.op 0 0], _, [], [0], [48]⟩ :: ⟨[.op 1 0], _, [], [0, 1], [49]⟩ :: ⟨[.op 2 0], _, [], [0, 1, 2], [50]⟩ :: ⟨[.old 0], _, [], [], [51]⟩ :: ⟨[.op 4 0], _, [], [4], [52]⟩ :: ⟨[.op 5 0], _, [], [4, 5], [53]⟩ :: ⟨[.op 6 0], _, [], [4, 5, 6], [54]⟩ :: ⟨[.old 0], _, [], [], [55]⟩ :: ⟨[.op 8 0], _, [], [8], [56]⟩ :: ⟨[.op 9 0], _, [], [8, 9], [57]⟩ :: ⟨[.op 10 0], _, [], [8, 9, 10], [58]⟩ :: ⟨[.old 0], _, [], [], [59]⟩ :: ⟨[.op 12 0], _, [], [12], [60]⟩ :: ⟨[.op 13 0], _, [], [12, 13], [61]⟩ :: ⟨[.op 14 0], _, [], [12, 13, 14], [62]⟩ :: ⟨[.old 1], _, [], [], [63]⟩ :: ⟨[.old 2], _, [], [], [64]⟩ :: ⟨[.op 15 0, .op 16 0, .op 17 0], _, [], List.range' 12 6, [65]⟩ :: ⟨[.op 3 0, .op 7 0, .op 11 0, .op 18 0], _, [], Lr 19, [66]⟩ :: ⟨[.op 19 0], _, [], Lr 20, [6]⟩ :: []) (F := [.op 20 0]) (hst.pick [0, 1, 2] rfl) hb Za
         (o_p rfl (Zb rfl rfl u_0) <| o_p rfl (Zu rfl rfl (Opd.imp u_0 (fun _ _ h => Zv h5 h)) (fun _ _ ⟨_, _, _, e, _⟩ => ⟨_, e⟩)) <| o_p rfl (Zd Ze0 rfl rfl u_0) <| o_p rfl (Zf ty_9 rfl rfl u_0) <| o_p rfl (Zb rfl rfl u_0) <| o_p rfl (Zu rfl rfl (Opd.imp u_0 (fun _ _ h => Zv h5 h)) (fun _ _ ⟨_, _, _, e, _⟩ => ⟨_, e⟩)) <| o_p rfl (Zd Zg4 rfl rfl u_0) <| o_p rfl (Zf Zbb rfl rfl u_0) <| o_p rfl (Zb rfl rfl u_0) <| o_p rfl (Zu rfl rfl (Opd.imp u_0 (fun _ _ h => Zv h5 h)) (fun _ _ ⟨_, _, _, e, _⟩ => ⟨_, e⟩)) <| o_p rfl (Zd Zea rfl rfl u_0) <| o_p rfl (Zf Zc5 rfl rfl u_0) <| o_p rfl (Zb rfl rfl u_0) <| o_p rfl (Zu rfl rfl (Opd.imp u_0 (fun _ _ h => Zv h5 h)) (fun _ _ ⟨_, _, _, e, _⟩ => ⟨_, e⟩)) <| o_p rfl (Zd Zey rfl rfl u_0) <| o_p rfl (Zf Zc5 rfl rfl u_0) <| o_p rfl (Zb rfl rfl u_0) <| o_p rfl (Zf Zbb rfl rfl u_0) <| o_p rfl (Zn Z0o (hself _ _ _ h13) rfl rfl (.cons u_0 (.cons u_1 (.cons u_2 .nil)))) <| o_p rfl (Zn Zto (Zkb _ _ _ _ h15) rfl rfl (.cons u_0 (.cons u_1 (.cons u_2 (.cons u_3 .nil))))) <| o_p rfl (Zc rfl rfl u_0) <| o_n) (by kernel_rfl) (fun a g hst hb => ?_)
       refine wp_ret ?_
       refine Z2 ?_
       refine Zq ?_
       obtain rfl := Option.some.inj H0
       exact Z1 rfl hst hb (Zk (s := 6)) (hst.at 0 rfl)
     · replace H0 := Zx hc11 H0
       refine wp_skip ?_
       refine Zba ?_
       refine Zr ?_
       obtain ⟨r16, h17, H0⟩ := Zh H0
       refine r_s (L := [(0, _), (1, _), (5, _)]) (T := ⟨[.old 1], _, [], [], [67]⟩ :: ⟨[.old 2], _, [], [], [68]⟩ :: ⟨[.old 0], _, [], [], [69]⟩ :: ⟨[.op 2 0], _, [], [2], [70]⟩ :: ⟨[.op 3 0], _, [], [2, 3], [71]⟩ :: ⟨[.op 4 0], _, [], [2, 3, 4], [72]⟩ :: ⟨[.old 0], _, [], [], [73]⟩ :: ⟨[.op 6 0], _, [], [6], [74]⟩ :: ⟨[.op 7 0], _, [], [6, 7], [75]⟩ :: ⟨[.op 8 0], _, [], [6, 7, 8], [76]⟩ :: ⟨[.op 0 0, .op 1 0, .op 5 0, .op 9 0], _, [], Lr 10, [77]⟩ :: ⟨[.op 10 0], _, [], Lr 11, [6]⟩ :: []) (F := [.op 11 0]) (hst.pick [0, 1, 2] rfl) hb Za
         (o_p rfl (Zb rfl rfl u_0) <| o_p rfl (Zf Zbb rfl rfl u_0) <| o_p rfl (Zb rfl rfl u_0) <| o_p rfl (Zu rfl rfl (Opd.imp u_0 (fun _ _ h => Zv h5 h)) (fun _ _ ⟨_, _, _, e, _⟩ => ⟨_, e⟩)) <| o_p rfl (Zd Zea rfl rfl u_0) <| o_p rfl (Zf Zc5 rfl rfl u_0) <| o_p rfl (Zb rfl rfl u_0) <| o_p rfl (Zu rfl rfl (Opd.imp u_0 (fun _ _ h => Zv h5 h)) (fun _ _ ⟨_, _, _, e, _⟩ => ⟨_, e⟩)) <| o_p rfl (Zd Zey rfl rfl u_0) <| o_p rfl (Zf Zc5 rfl rfl u_0) <| o_p rfl (Zn Zk6 (Zdw _ _ _ _ h17) rfl rfl (.cons u_0 (.cons u_1 (.cons u_2 (.cons u_3 .nil))))) <| o_p rfl (Zc rfl rfl u_0) <| o_n) (by kernel_rfl) (fun a g hst hb => ?_)
       refine wp_ret ?_
       obtain rfl := Option.some.inj H0
       exact Z1 rfl hst hb (Zk (s := 6)) (hst.at 0 rfl)
theorem Zmg : ∀ (n : Nat) (a0 : shelf_nodeT) (a1 : ByteArray) (a2 : Ze) {r : shelf_nodeT}, Zff n a0 a1 a2 = some r → FnOk Tryz.prog 49 [(Z7.pd a0), (pStr a1), (Zi.pd a2)] (Z7.pd r)
 | 0, _, _, _, _, h => by simp [Zff] at h
 | n + 1, a0, a1, a2, _, h => Zqc (Zff n) (fun a0 a1 a2 r h => Zmg n a0 a1 a2 h) a0 a1 a2 h
theorem Zr9 (a0 : shelf_nodeT) (a1 : ByteArray) (a2 : Ze) {r : shelf_nodeT} (h : Zmi a0 a1 a2 = some r) : FnOk Tryz.prog 49 [(Z7.pd a0), (pStr a1), (Zi.pd a2)] (Z7.pd r) := Zmg _ a0 a1 a2 h
theorem Zm6 (a0 : Zo) (a1 : ByteArray) (a2 : Ze) {r : Zo × Int} (h : Zd7 a0 a1 a2 = some r) : FnOk Tryz.prog 24 [(Z0.pd a0), (pStr a1), (Zi.pd a2)] (pTup [(Z0.pd r.1), (pInt .i64 r.2)]) := by
 have H0 := h
 unfold Zd7 at H0
 clear h
 refine Zbp (N := 50) Tryz.func24 rfl rfl (Nat.le_of_ble_eq_true rfl) rfl rfl (fun a g0 hst hb => ?_)
 refine r_s (T := [⟨[.old 0], _, [], [], [3]⟩, ⟨[.old 2], _, [], [], [5]⟩, ⟨[], [(6, (pBox Z0 6 (default : Zo)))], [7], [], [6]⟩, ⟨[], _, [], [], [7]⟩]) (F := [.old 1, .op 0 0, .op 1 0, .op 2 0]) hst hb Za
   (o_p rfl (Zbj rfl rfl u_0) <| o_p rfl (Zbj rfl rfl u_0) <| o_p rfl (Zbd (zs := [.pointer none, .int .i64 0]) (by kernel_rfl) (fun g => Zct g) rfl rfl) <| o_p rfl (Zc rfl rfl c_i) <| o_n) (by kernel_rfl) (fun a g hst hb => ?_)
 refine wp_seq ?_
 refine r_s (T := [⟨[.old 0], _, [], [], [11]⟩, ⟨[.op 0 0], _, [], [0], [12]⟩, ⟨[.op 1 0], _, [], [0, 1], [13]⟩, ⟨[.op 2 0, .old 0], _, [], [0, 1, 2], [14]⟩, ⟨[.op 2 0, .op 3 0], _, [], Lr 4, [15]⟩, ⟨[.op 2 0, .op 4 0], _, [], Lr 5, [16]⟩, ⟨[.op 2 0, .op 5 0], _, [], Lr 6, [17]⟩]) (F := [.old 0, .old 1, .old 2, .old 3, .op 6 0]) hst hb Za
   (o_p rfl (Zb rfl rfl u_0) <| o_p rfl (Zkl rfl rfl u_0 c_s) <| o_p rfl (Zb rfl rfl u_0) <| o_g (g_f rfl rfl rfl (fun hG => Zb rfl rfl u_0)) <| o_g (g_f rfl rfl rfl (fun hG => Ze3 Tryz.underlying9 rfl rfl (Opd.gd hG u_0))) <| o_g (g_f rfl rfl rfl (fun hG => Zck rfl rfl (Opd.gd hG u_0) c_i)) <| o_p rfl (Zbt rfl rfl u_0 (fun hz => (Opd.gd (bNF hz) u_1))) <| o_n) (by kernel_rfl) (fun a g hst hb => ?_)
 refine wp_cond_split (hst.bool 4 rfl) (fun hc1 => ?_) (fun hc1 => ?_)
 · replace H0 := Zw hc1 H0
   refine r_s (L := [(3, _), (6, _)]) (T := [⟨[.old 0], _, [], [], [18]⟩, ⟨[.op 0 0, .old 1], _, [7], [0], [6]⟩, ⟨[], _, [], [0, 1], [7]⟩]) (F := [.op 1 0, .op 2 0]) (hst.pick [1, 3] rfl) hb Za
     (o_p rfl (Zf Zbv rfl rfl u_0) <| o_p rfl (Zz Zbv rfl rfl u_1 u_0) <| o_p rfl (Zc rfl rfl c_i) <| o_n) (by kernel_rfl) (fun a g hst hb => ?_)
   refine wp_ret ?_
   refine Zq ?_
   obtain rfl := Option.some.inj H0
   obtain ⟨u0, hu0, hq0⟩ := Z8 (P := Tryz.prog) Zbv (hst.at 0 rfl)
   exact Zda rfl hst hb hu0 (Zk (s := 7)) (Zcn hq0 (hst.at 1 rfl))
 · replace H0 := Zx hc1 H0
   refine wp_skip ?_
   refine Zr ?_
   refine wp_seq ?_
   obtain ⟨r2, h3, H0⟩ := Zh H0
   refine r_s (L := [(1, _), (3, _), (5, _), (6, _)]) (T := [⟨[.old 2], _, [], [], [19]⟩, ⟨[.op 0 0], _, [], [0], [20]⟩, ⟨[.op 1 0], _, [], [0, 1], [8]⟩]) (F := [.old 0, .old 1, .old 2, .old 3, .op 2 0]) (hst.pick [0, 1, 2, 3] rfl) hb Za
     (o_p rfl (Zf Zbb rfl rfl u_0) <| o_p rfl (Zn Z05 (Znt _ h3) rfl rfl (.cons u_0 .nil)) <| o_p rfl (Zc rfl rfl u_0) <| o_n) (by kernel_rfl) (fun a g hst hb => ?_)
   refine r_s (T := [⟨[.old 4], _, [], [], [21]⟩, ⟨[.op 0 0], _, [], [0], [22]⟩]) (F := [.old 0, .old 1, .old 2, .old 3, .old 4, .op 1 0]) hst hb Za
     (o_p rfl (Zb rfl rfl u_0) <| o_p rfl (Zc6 rfl rfl u_0 c_i) <| o_n) (by kernel_rfl) (fun a g hst hb => ?_)
   refine wp_cond_split (hst.bool 5 rfl) (fun hc4 => ?_) (fun hc4 => ?_)
   · replace H0 := Zw hc4 H0
     refine r_s (L := [(3, _), (6, _), (8, _)]) (T := [⟨[.old 0], _, [], [], [23]⟩, ⟨[.old 2], _, [], [], [24]⟩, ⟨[.op 0 0, .old 1], _, [7], [0], [6]⟩, ⟨[.op 1 0], _, [], [0, 1, 2], [7]⟩]) (F := [.op 2 0, .op 3 0]) (hst.pick [1, 3, 4] rfl) hb Za
       (o_p rfl (Zf Zbv rfl rfl u_0) <| o_p rfl (Zb rfl rfl u_0) <| o_p rfl (Zz Zbv rfl rfl u_1 u_0) <| o_p rfl (Zc rfl rfl u_0) <| o_n) (by kernel_rfl) (fun a g hst hb => ?_)
     refine wp_ret ?_
     refine Zq ?_
     obtain rfl := Option.some.inj H0
     obtain ⟨u0, hu0, hq0⟩ := Z8 (P := Tryz.prog) Zbv (hst.at 0 rfl)
     exact Zda rfl hst hb hu0 (Zk (s := 7)) (Zcn hq0 (hst.at 1 rfl))
   · replace H0 := Zx hc4 H0
     refine wp_skip ?_
     refine Zr ?_
     refine wp_seq ?_
     obtain ⟨r5, h6, H0⟩ := Zh H0
     refine r_s (L := [(1, _), (3, _), (5, _), (6, _)]) (T := [⟨[.old 1], _, [], [], [26]⟩, ⟨[.old 0], _, [], [], [27]⟩, ⟨[.op 0 0, .op 1 0], _, [], [0, 1], [28]⟩, ⟨[.op 2 0], _, [], [0, 1, 2], [25]⟩, ⟨[.op 3 0], _, [], Lr 4, [29]⟩, ⟨[.op 3 0], _, [], Lr 4, [30]⟩, ⟨[], [(9, (pBox Zi 9 (default : Ze)))], [10], [], [9]⟩, ⟨[.op 4 0, .op 6 0], _, [10], [0, 1, 2, 3, 4, 6], [9]⟩, ⟨[.op 5 0], _, [], Lr 8, [10]⟩]) (F := [.old 0, .old 1, .old 2, .old 3, .op 8 0]) (hst.pick [0, 1, 2, 3] rfl) hb Za
       (o_p rfl (Zf Zbv rfl rfl u_0) <| o_p rfl (Zb rfl rfl u_0) <| o_p rfl (Zn Z0i (Zkq _ _ h6) rfl rfl (.cons u_0 (.cons u_1 .nil))) <| o_p rfl (Zb rfl rfl u_0) <| o_p rfl (Z4 rfl rfl u_0 rfl) <| o_p rfl (Z4 rfl rfl u_0 rfl) <| o_p rfl (Zbd (zs := [.int .i64 0, .int .i64 0, .int .i64 0, .int .i64 0, .float .f64 0, .int .i64 0, .string ByteArray.empty, .slice none 0 0]) (by kernel_rfl) (fun g => Zb9 g) rfl rfl) <| o_p rfl (Zb5 Zbb rfl rfl u_1 u_0) <| o_p rfl (Zc rfl rfl u_0) <| o_n) (by kernel_rfl) (fun a g hst hb => ?_)
     obtain ⟨r7, h8, H0⟩ := Zh H0
     refine r_s (T := [⟨[.old 4], _, [], [], [31]⟩, ⟨[.op 0 0], _, [], [0], [32]⟩, ⟨[.op 1 0], _, [], [0, 1], [33]⟩, ⟨[.op 2 0, .old 1], _, [], [0, 1, 2], [34]⟩, ⟨[.op 2 0, .op 3 0], _, [], Lr 4, [35]⟩, ⟨[.op 2 0, .old 1], _, [], [0, 1, 2], [36]⟩, ⟨[.op 2 0, .op 5 0], _, [], [0, 1, 2, 5], [37]⟩, ⟨[.op 2 0, .op 4 0, .op 6 0], _, [], Lr 7, [38]⟩, ⟨[.op 2 0, .op 7 0], _, [], Lr 8, [39]⟩]) (F := [.old 0, .old 1, .old 2, .old 3, .op 8 0]) hst hb Za
       (o_p rfl (Zb rfl rfl u_0) <| o_p rfl (Zb7 rfl rfl u_0) <| o_p rfl (Zb rfl rfl u_0) <| o_g (g_t rfl rfl rfl (fun hG => Zf Zbv rfl rfl u_0)) <| o_g (g_t rfl rfl rfl (fun hG => Zn Zwm (Zix _ (Zbm h8 hG)) rfl rfl (.cons (Opd.gd hG u_0) .nil))) <| o_g (g_t rfl rfl rfl (fun hG => Zd Zrv rfl rfl u_0)) <| o_g (g_t rfl rfl rfl (fun hG => Zf ty_3 rfl rfl (Opd.gd hG u_0))) <| o_g (g_t rfl rfl rfl (fun hG => Zk4 rfl rfl (Opd.gd hG u_0) (Opd.gd hG u_1))) <| o_p rfl (Zbc rfl rfl u_0 (fun hz => (Opd.gd hz u_1))) <| o_n) (by kernel_rfl) (fun a g hst hb => ?_)
     refine wp_cond_split (hst.bool 4 rfl) (fun hc9 => ?_) (fun hc9 => ?_)
     · replace H0 := Zw hc9 H0
       refine r_s (L := [(3, _), (6, _)]) (T := [⟨[.old 0], _, [], [], [40]⟩, ⟨[.op 0 0, .old 1], _, [7], [0], [6]⟩, ⟨[], _, [], [0, 1], [7]⟩]) (F := [.op 1 0, .op 2 0]) (hst.pick [1, 3] rfl) hb Za
         (o_p rfl (Zf Zbv rfl rfl u_0) <| o_p rfl (Zz Zbv rfl rfl u_1 u_0) <| o_p rfl (Zc rfl rfl c_i) <| o_n) (by kernel_rfl) (fun a g hst hb => ?_)
       refine wp_ret ?_
       refine Zq ?_
       obtain rfl := Option.some.inj H0
       obtain ⟨u0, hu0, hq0⟩ := Z8 (P := Tryz.prog) Zbv (hst.at 0 rfl)
       exact Zda rfl hst hb hu0 (Zk (s := 7)) (Zcn hq0 (hst.at 1 rfl))
     · replace H0 := Zx hc9 H0
       refine wp_skip ?_
       refine Zr ?_
       obtain ⟨r10, h11, H0⟩ := Zh H0; obtain ⟨r12, h13, H0⟩ := Zh H0
       refine r_s (L := [(1, _), (3, _), (5, _), (6, _)]) (T := [⟨[.old 1], _, [], [], [41]⟩, ⟨[.op 0 0], _, [], [0], [42]⟩, ⟨[.old 0], _, [], [], [43]⟩, ⟨[.old 2], _, [], [], [44]⟩, ⟨[.op 3 0], _, [], [3], [45]⟩, ⟨[.op 1 0, .op 2 0, .op 4 0], _, [], Lr 5, [46]⟩, ⟨[.old 1], _, [], [], [47]⟩, ⟨[.op 6 0], _, [], [6], [48]⟩, ⟨[.op 5 0, .op 7 0], _, [], Lr 8, [49]⟩, ⟨[.op 8 0, .old 3], _, [7], Lr 9, [6]⟩, ⟨[], _, [], Lr 10, [7]⟩]) (F := [.op 9 0, .op 10 0]) (hst.pick [0, 1, 2, 3] rfl) hb Za
         (o_p rfl (Zd Zo0 rfl rfl u_0) <| o_p rfl (Zf Zc5 rfl rfl u_0) <| o_p rfl (Zb rfl rfl u_0) <| o_p rfl (Zf Zbb rfl rfl u_0) <| o_p rfl (Zn Zok (Zhk _ h11) rfl rfl (.cons u_0 .nil)) <| o_p rfl (Zn Z0o (Zr9 _ _ _ h13) rfl rfl (.cons u_0 (.cons u_1 (.cons u_2 .nil)))) <| o_p rfl (Zd Zrv rfl rfl u_0) <| o_p rfl (Zf ty_3 rfl rfl u_0) <| o_p rfl (Zvl rfl rfl u_0 u_1) <| o_p rfl (Zz Zbv rfl rfl u_1 u_0) <| o_p rfl (Zc rfl rfl c_i) <| o_n) (by kernel_rfl) (fun a g hst hb => ?_)
       refine wp_ret ?_
       obtain rfl := Option.some.inj H0
       obtain ⟨u0, hu0, hq0⟩ := Z8 (P := Tryz.prog) Zbv (hst.at 0 rfl)
       exact Zda rfl hst hb hu0 (Zk (s := 7)) (Zcn hq0 (hst.at 1 rfl))
theorem Zv2 (a0 : Int) {r : Zdd} (h : Zn5 a0 = some r) : FnOk Tryz.prog 92 [(pInt .i64 a0)] (Zej.pd r) := by
 have H0 := h
 unfold Zn5 at H0
 clear h
 refine Zbp (N := 13) Tryz.func92 rfl rfl (Nat.le_of_ble_eq_true rfl) rfl rfl (fun a g0 hst hb => ?_)
 refine r_s (T := [⟨[], [(2, (pBox Zej 2 (default : Zdd)))], [3], [], [2]⟩]) (F := [.old 0, .op 0 0]) hst hb Za
   (o_p rfl (Zbd (zs := [.string ByteArray.empty, .int .i64 0, .string ByteArray.empty]) (by kernel_rfl) (fun g => Zsq g) rfl rfl) <| o_n) (by kernel_rfl) (fun a g hst hb => ?_)
 refine wp_seq ?_
 refine r_s (T := [⟨[.old 0], _, [], [], [3]⟩, ⟨[.op 0 0], _, [], [0], [4]⟩, ⟨[.op 1 0], _, [], [0, 1], [5]⟩, ⟨[.op 2 0, .old 0], _, [], [0, 1, 2], [6]⟩, ⟨[.op 2 0, .op 3 0], _, [], Lr 4, [7]⟩, ⟨[.op 2 0, .op 4 0], _, [], Lr 5, [8]⟩]) (F := [.old 0, .old 1, .op 5 0]) hst hb Za
   (o_p rfl (Zb rfl rfl u_0) <| o_p rfl (Z5k rfl rfl u_0 c_i) <| o_p rfl (Zb rfl rfl u_0) <| o_g (g_f rfl rfl rfl (fun hG => Zb rfl rfl u_0)) <| o_g (g_f rfl rfl rfl (fun hG => Zk4 rfl rfl (Opd.gd hG u_0) c_i)) <| o_p rfl (Zbt rfl rfl u_0 (fun hz => (Opd.gd (bNF hz) u_1))) <| o_n) (by kernel_rfl) (fun a g hst hb => ?_)
 refine wp_cond_split (hst.bool 2 rfl) (fun hc1 => ?_) (fun hc1 => ?_)
 · replace H0 := Zw hc1 H0
   refine r_s (L := [(2, _)]) (T := [⟨[], _, [], [], [9]⟩, ⟨[.op 0 0, .old 0], _, [3], [0], [2]⟩]) (F := [.op 1 0]) (hst.pick [1] rfl) hb Za
     (o_p rfl (Z6i rfl rfl ) <| o_p rfl (Zz Zkc rfl rfl u_1 u_0) <| o_n) (by kernel_rfl) (fun a g hst hb => ?_)
   refine wp_ret ?_
   refine Zq ?_
   obtain rfl := Option.some.inj H0
   obtain ⟨u0, hu0, hq0⟩ := Z8 (P := Tryz.prog) Zkc (hst.at 0 rfl)
   exact Z1 rfl hst hb hu0 hq0
 · replace H0 := Zx hc1 H0
   refine wp_skip ?_
   refine Zr ?_
   obtain ⟨e2, h3, H0⟩ := Zh H0
   refine r_s (L := [(0, _), (2, _)]) (T := [⟨[.old 0], _, [], [], [10]⟩, ⟨[.op 0 0], _, [], [0], [11]⟩, ⟨[.op 1 0], _, [], [0, 1], [12]⟩, ⟨[.op 2 0, .old 1], _, [3], [0, 1, 2], [2]⟩]) (F := [.op 3 0]) (hst.pick [0, 1] rfl) hb Za
     (o_p rfl (Zb rfl rfl u_0) <| o_p rfl (Zza Tryz.underlying167 Z7s rfl rfl (Opd.glob gm_0 gk_0) u_0 h3) <| o_p rfl (Zf Zkc rfl rfl u_0) <| o_p rfl (Zz Zkc rfl rfl u_1 u_0) <| o_n) (by kernel_rfl) (fun a g hst hb => ?_)
   refine wp_ret ?_
   obtain rfl := Option.some.inj H0
   obtain ⟨u0, hu0, hq0⟩ := Z8 (P := Tryz.prog) Zkc (hst.at 0 rfl)
   exact Z1 rfl hst hb hu0 hq0
end Go.CL
