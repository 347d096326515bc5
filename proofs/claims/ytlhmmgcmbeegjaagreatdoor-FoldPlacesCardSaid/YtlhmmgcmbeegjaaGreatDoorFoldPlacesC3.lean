/- A part of the proof of FoldPlaces. -/
import Derived.Test.YtlhmmgcmbeegjaaGreatDoorFoldPlacesC2
import Derived.Test.YtlhmmgcmbeegjaaGreatDoorProg
set_option linter.unusedVariables false
set_option linter.unusedSimpArgs false
set_option maxRecDepth 100000
namespace Go.CL
open Go Go.RowKit Go.Proofs
theorem Zb : Tryz.prog.follows .mixedOrders = true := by kernel_rfl
theorem Zba2 {α : Type} {l : List α} (h : l.length = 1) : ∃ u0, l = [u0] := by
 match l, h with
 | [u0], _ => exact ⟨u0, rfl⟩
theorem Zk8 {α : Type} {l : List α} (h : l.length = 2) : ∃ u0 u1, l = [u0, u1] := by
 match l, h with
 | [u0, u1], _ => exact ⟨u0, u1, rfl⟩
theorem Zws {α : Type} {l : List α} (h : l.length = 8) : ∃ u0 u1 u2 u3 u4 u5 u6 u7, l = [u0, u1, u2, u3, u4, u5, u6, u7] := by
 match l, h with
 | [u0, u1, u2, u3, u4, u5, u6, u7], _ => exact ⟨u0, u1, u2, u3, u4, u5, u6, u7, rfl⟩
def Zy2 : List (Kd.FK Zi) := [⟨_, Kd.flt, 0, fun x : Zi => x.Score⟩,
 ⟨_, Kd.str, 1, fun x : Zi => x.Name⟩]
def Z0 : Kd Zi := Kd.struct 2 Zy2 (by rfl)
theorem Zjw : ∀ g, Z0.K g (default : Zi) [.float .f64 0, .string ByteArray.empty] := fun g => ⟨rfl, (List.forall_mem_cons.2 ⟨(rfl), (List.forall_mem_cons.2 ⟨(rfl), (fun _ h => by cases h)⟩)⟩)⟩
def Zwf : List (Kd.FK Zd) := [⟨_, (Kd.int .i64), 0, fun x : Zd => x.Kind⟩,
 ⟨_, (Kd.int .i64), 1, fun x : Zd => x.Num⟩,
 ⟨_, (Kd.int .i64), 2, fun x : Zd => x.Low⟩,
 ⟨_, (Kd.int .i64), 3, fun x : Zd => x.High⟩,
 ⟨_, Kd.flt, 4, fun x : Zd => x.Real⟩,
 ⟨_, (Kd.int .i64), 5, fun x : Zd => x.Cap⟩,
 ⟨_, Kd.str, 6, fun x : Zd => x.Text⟩,
 ⟨_, Z0.sl, 7, fun x : Zd => x.List⟩]
def Zj : Kd Zd := Kd.struct 8 Zwf (by rfl)
theorem Zch : ∀ g, Zj.K g (default : Zd) [.int .i64 0, .int .i64 0, .int .i64 0, .int .i64 0, .float .f64 0, .int .i64 0, .string ByteArray.empty, .slice none 0 0] := fun g => ⟨rfl, (List.forall_mem_cons.2 ⟨(rfl), (List.forall_mem_cons.2 ⟨(rfl), (List.forall_mem_cons.2 ⟨(rfl), (List.forall_mem_cons.2 ⟨(rfl), (List.forall_mem_cons.2 ⟨(rfl), (List.forall_mem_cons.2 ⟨(rfl), (List.forall_mem_cons.2 ⟨(rfl), (List.forall_mem_cons.2 ⟨(⟨none, 0, rfl, Nat.le_refl _, Nat.zero_le _, .inl rfl⟩), (fun _ h => by cases h)⟩)⟩)⟩)⟩)⟩)⟩)⟩)⟩)⟩
def shelf_nodeT.V (g : G) : shelf_nodeT → Value → Prop
 | .nil, v => v = .pointer none
 | .node x0 x1 x2 x3 x4, v => ∃ b o cs, v = .pointer (some ⟨b, o, none⟩) ∧ CellsAt g b o cs ∧ cs.length = 12 ∧ (∀ u ∈ cs, u.oneCell' = true) ∧ Kd.str.K g x0 (seg cs 0 1) ∧ Zj.K g x1 (seg cs 1 8) ∧ (∃ v, seg cs 9 1 = [v] ∧ shelf_nodeT.V g x2 v) ∧ (∃ v, seg cs 10 1 = [v] ∧ shelf_nodeT.V g x3 v) ∧ (Kd.int .i64).K g x4 (seg cs 11 1)
theorem shelf_nodeT.mono {g g' : G} (h : g.le g') (t : shelf_nodeT) : ∀ v, shelf_nodeT.V g t v → shelf_nodeT.V g' t v := by
 induction t with
 | nil => exact fun v h => h
 | node x0 x1 x2 x3 x4 ih2 ih3 =>
   rintro v ⟨b, o, cs, rfl, hc, hl, hz, h0, h1, ⟨w2, e2, k2⟩, ⟨w3, e3, k3⟩, h4⟩
   exact ⟨b, o, cs, rfl, hc.mono h, hl, hz, Kd.str.mono h h0, Zj.mono h h1, ⟨w2, e2, ih2 w2 k2⟩, ⟨w3, e3, ih3 w3 k3⟩, (Kd.int .i64).mono h h4⟩
theorem shelf_nodeT.ptr {g : G} {t : shelf_nodeT} {v : Value} (h : shelf_nodeT.V g t v) : ∃ p, v = .pointer p ∧ p.isNone = t.isNil := by
 cases t with
 | nil => exact ⟨_, h, rfl⟩
 | node =>
   obtain ⟨b, o, cs, e, _⟩ := h
   exact ⟨_, e, rfl⟩
def Z4 : Kd shelf_nodeT where
 sz := 1
 ag := false
 K := fun g t cs => ∃ v, cs = [v] ∧ shelf_nodeT.V g t v
 len := by rintro _ _ _ ⟨v, rfl, _⟩; rfl
 one := by
   rintro _ _ _ ⟨v, rfl, h⟩ u hu
   obtain ⟨p, e, _⟩ := shelf_nodeT.ptr h
   rw [List.mem_singleton.1 hu, e]; rfl
 mono := fun h ⟨v, e, k⟩ => ⟨v, e, shelf_nodeT.mono h _ _ k⟩
 nag := fun _ => rfl
def Zwn : List (Kd.FK shelf_node) := [⟨_, Kd.str, 0, fun x : shelf_node => x.key⟩,
 ⟨_, Zj, 1, fun x : shelf_node => x.rec_⟩,
 ⟨_, Z4, 9, fun x : shelf_node => x.left⟩,
 ⟨_, Z4, 10, fun x : shelf_node => x.right⟩,
 ⟨_, (Kd.int .i64), 11, fun x : shelf_node => x.size⟩]
def Zfx : Kd shelf_node := Kd.struct 12 Zwn (by rfl)
theorem shelf_nodeT.V_iff {g : G} {t : shelf_nodeT} {v : Value} : (Z4.pd t).p g v ↔ shelf_nodeT.V g t v := by
 constructor
 · rintro ⟨_, ⟨u, rfl, h⟩, rfl⟩; exact h
 · exact fun h => ⟨_, ⟨v, rfl, h⟩, rfl⟩
theorem Zkz (g : G) : Z4.K g shelf_nodeT.nil [.pointer none] := ⟨_, rfl, rfl⟩
theorem Zd1 (g : G) : (Z4.pd shelf_nodeT.nil).p g (.pointer none) := shelf_nodeT.V_iff.2 rfl
theorem Zen (t : shelf_nodeT) (g : G) (v : Value) (h : (Z4.pd t).p g v) : ∃ p, v = .pointer p ∧ p.isNone = t.isNil := shelf_nodeT.ptr (shelf_nodeT.V_iff.1 h)
theorem Zr {g : G} {t : shelf_nodeT} {x : shelf_node} {v : Value} (h : t.un = some x) (hv : (Z4.pd t).p g v) : (Zfx.ptr x).p g v := by
 cases t with
 | nil => cases h
 | node x0 x1 x2 x3 x4 =>
   obtain rfl := Option.some.inj h
   obtain ⟨b, o, cs, rfl, hc, hl, _, h0, h1, h2, h3, h4⟩ := shelf_nodeT.V_iff.1 hv
   exact ⟨b, o, cs, rfl, ⟨hl, (List.forall_mem_cons.2 ⟨h0, (List.forall_mem_cons.2 ⟨h1, (List.forall_mem_cons.2 ⟨h2, (List.forall_mem_cons.2 ⟨h3, (List.forall_mem_cons.2 ⟨h4, (fun _ h => by cases h)⟩)⟩)⟩)⟩)⟩)⟩, hc⟩
theorem Zuq {g : G} {x : shelf_node} {v : Value} (h : (Zfx.ptr x).p g v) : (Z4.pd x.up).p g v := by
 obtain ⟨b, o, cs, rfl, hk, hc⟩ := h
 exact shelf_nodeT.V_iff.2 ⟨b, o, cs, rfl, hc, hk.1, Zfx.one hk, hk.2 _ (List.mem_of_getElem? (i := 0) rfl), hk.2 _ (List.mem_of_getElem? (i := 1) rfl), hk.2 _ (List.mem_of_getElem? (i := 2) rfl), hk.2 _ (List.mem_of_getElem? (i := 3) rfl), hk.2 _ (List.mem_of_getElem? (i := 4) rfl)⟩
def Zuu : List (Kd.FK Zn) := [⟨_, Z4, 0, fun x : Zn => x.top⟩,
 ⟨_, (Kd.int .i64), 1, fun x : Zn => x.room⟩]
def Z1 : Kd Zn := Kd.struct 2 Zuu (by rfl)
theorem Zcm : ∀ g, Z1.K g (default : Zn) [.pointer none, .int .i64 0] := fun g => ⟨rfl, (List.forall_mem_cons.2 ⟨(Zkz _), (List.forall_mem_cons.2 ⟨(rfl), (fun _ h => by cases h)⟩)⟩)⟩
def Zxn : List (Kd.FK Zb3) := [⟨_, Kd.bool, 0, fun x : Zb3 => x.text⟩,
 ⟨_, Kd.bool, 1, fun x : Zb3 => x.num⟩,
 ⟨_, Kd.bool, 2, fun x : Zb3 => x.bounds⟩,
 ⟨_, Kd.bool, 3, fun x : Zb3 => x.real⟩,
 ⟨_, Kd.bool, 4, fun x : Zb3 => x.list⟩]
def Zcy : Kd Zb3 := Kd.struct 5 Zxn (by rfl)
theorem Zqe : ∀ g, Zcy.K g (default : Zb3) [.bool false, .bool false, .bool false, .bool false, .bool false] := fun g => ⟨rfl, (List.forall_mem_cons.2 ⟨(rfl), (List.forall_mem_cons.2 ⟨(rfl), (List.forall_mem_cons.2 ⟨(rfl), (List.forall_mem_cons.2 ⟨(rfl), (List.forall_mem_cons.2 ⟨(rfl), (fun _ h => by cases h)⟩)⟩)⟩)⟩)⟩)⟩
def Zzl : List (Kd.FK Zc5) := [⟨_, Kd.str, 0, fun x : Zc5 => x.word⟩,
 ⟨_, (Kd.int .i64), 1, fun x : Zc5 => x.on⟩,
 ⟨_, Kd.str, 2, fun x : Zc5 => x.has⟩]
def Zd5 : Kd Zc5 := Kd.struct 3 Zzl (by rfl)
theorem Zsl : ∀ g, Zd5.K g (default : Zc5) [.string ByteArray.empty, .int .i64 0, .string ByteArray.empty] := fun g => ⟨rfl, (List.forall_mem_cons.2 ⟨(rfl), (List.forall_mem_cons.2 ⟨(rfl), (List.forall_mem_cons.2 ⟨(rfl), (fun _ h => by cases h)⟩)⟩)⟩)⟩
def Z1s : List (Kd.FK Zm) := [⟨_, (Kd.int .i64), 0, fun x : Zm => x.Kind⟩,
 ⟨_, Kd.str, 1, fun x : Zm => x.Key⟩,
 ⟨_, (Kd.int .i64), 2, fun x : Zm => x.N⟩,
 ⟨_, Kd.flt, 3, fun x : Zm => x.X⟩,
 ⟨_, Kd.str, 4, fun x : Zm => x.S⟩,
 ⟨_, Zj, 5, fun x : Zm => x.Make⟩,
 ⟨_, Kd.bool, 13, fun x : Zm => x.Must⟩]
def Z2 : Kd Zm := Kd.struct 14 Z1s (by rfl)
theorem Zje : ∀ g, Z2.K g (default : Zm) [.int .i64 0, .string ByteArray.empty, .int .i64 0, .float .f64 0, .string ByteArray.empty, .int .i64 0, .int .i64 0, .int .i64 0, .int .i64 0, .float .f64 0, .int .i64 0, .string ByteArray.empty, .slice none 0 0, .bool false] := fun g => ⟨rfl, (List.forall_mem_cons.2 ⟨(rfl), (List.forall_mem_cons.2 ⟨(rfl), (List.forall_mem_cons.2 ⟨(rfl), (List.forall_mem_cons.2 ⟨(rfl), (List.forall_mem_cons.2 ⟨(rfl), (List.forall_mem_cons.2 ⟨(Zch _), (List.forall_mem_cons.2 ⟨(rfl), (fun _ h => by cases h)⟩)⟩)⟩)⟩)⟩)⟩)⟩)⟩
def Zwd : List (Kd.FK Zh) := [⟨_, (Kd.int .i64), 0, fun x : Zh => x.Code⟩,
 ⟨_, (Kd.int .i64), 1, fun x : Zh => x.Num⟩,
 ⟨_, Zj, 2, fun x : Zh => x.Rec⟩]
def Zt : Kd Zh := Kd.struct 10 Zwd (by rfl)
theorem Zej : ∀ g, Zt.K g (default : Zh) [.int .i64 0, .int .i64 0, .int .i64 0, .int .i64 0, .int .i64 0, .int .i64 0, .float .f64 0, .int .i64 0, .string ByteArray.empty, .slice none 0 0] := fun g => ⟨rfl, (List.forall_mem_cons.2 ⟨(rfl), (List.forall_mem_cons.2 ⟨(rfl), (List.forall_mem_cons.2 ⟨(Zch _), (fun _ h => by cases h)⟩)⟩)⟩)⟩
def Zy6 : List (Kd.FK Zbk) := [⟨_, Z2.sl, 0, fun x : Zbk => x.Acts⟩]
def Zcf : Kd Zbk := Kd.struct 1 Zy6 (by rfl)
theorem Zsj : ∀ g, Zcf.K g (default : Zbk) [.slice none 0 0] := fun g => ⟨rfl, (List.forall_mem_cons.2 ⟨(⟨none, 0, rfl, Nat.le_refl _, Nat.zero_le _, .inl rfl⟩), (fun _ h => by cases h)⟩)⟩
def Ztm : List (Kd.FK Zdk) := [⟨_, (Kd.int .i64), 0, fun x : Zdk => x.code⟩,
 ⟨_, (Kd.int .i64), 1, fun x : Zdk => x.at_⟩]
def Ze3 : Kd Zdk := Kd.struct 2 Ztm (by rfl)
theorem Zug : ∀ g, Ze3.K g (default : Zdk) [.int .i64 0, .int .i64 0] := fun g => ⟨rfl, (List.forall_mem_cons.2 ⟨(rfl), (List.forall_mem_cons.2 ⟨(rfl), (fun _ h => by cases h)⟩)⟩)⟩
def Zwl : List (Kd.FK Z7) := [⟨_, (Kd.int .i64), 0, fun x : Z7 => x.Code⟩,
 ⟨_, (Kd.int .i64), 1, fun x : Z7 => x.At⟩,
 ⟨_, Zt.sl, 2, fun x : Z7 => x.Answers⟩]
def Zck : Kd Z7 := Kd.struct 3 Zwl (by rfl)
theorem Zp1 : ∀ g, Zck.K g (default : Z7) [.int .i64 0, .int .i64 0, .slice none 0 0] := fun g => ⟨rfl, (List.forall_mem_cons.2 ⟨(rfl), (List.forall_mem_cons.2 ⟨(rfl), (List.forall_mem_cons.2 ⟨(⟨none, 0, rfl, Nat.le_refl _, Nat.zero_le _, .inl rfl⟩), (fun _ h => by cases h)⟩)⟩)⟩)⟩
def Zp8 : List (Kd.FK Z6) := [⟨_, Kd.str, 0, fun x : Z6 => x.Key⟩,
 ⟨_, Zj, 1, fun x : Z6 => x.Rec⟩]
def Zb0 : Kd Z6 := Kd.struct 9 Zp8 (by rfl)
theorem Zp5 : ∀ g, Zb0.K g (default : Z6) [.string ByteArray.empty, .int .i64 0, .int .i64 0, .int .i64 0, .int .i64 0, .float .f64 0, .int .i64 0, .string ByteArray.empty, .slice none 0 0] := fun g => ⟨rfl, (List.forall_mem_cons.2 ⟨(rfl), (List.forall_mem_cons.2 ⟨(Zch _), (fun _ h => by cases h)⟩)⟩)⟩
def Zpo : List (Kd.FK Zs) := [⟨_, Zb0.sl, 0, fun x : Zs => x.L⟩,
 ⟨_, (Kd.int .i64), 1, fun x : Zs => x.Room⟩]
def Zbw : Kd Zs := Kd.struct 2 Zpo (by rfl)
theorem Zl4 : ∀ g, Zbw.K g (default : Zs) [.slice none 0 0, .int .i64 0] := fun g => ⟨rfl, (List.forall_mem_cons.2 ⟨(⟨none, 0, rfl, Nat.le_refl _, Nat.zero_le _, .inl rfl⟩), (List.forall_mem_cons.2 ⟨(rfl), (fun _ h => by cases h)⟩)⟩)⟩
def Zyo : Zc5 → List Value := fun x => [.string x.word, .int .i64 x.on, .string x.has]
theorem gm_0 : (0, g_0.flatMap Zyo) ∈ GL := List.mem_of_getElem? (i := 0) rfl
theorem gk_0 : ∀ g, (Kd.arr 22 Zd5).K g g_0 (g_0.flatMap Zyo) := fun g => Zbay (dk := Zd5) (enc := Zyo) (fun g x => ⟨rfl, (List.forall_mem_cons.2 ⟨rfl, (List.forall_mem_cons.2 ⟨rfl, (List.forall_mem_cons.2 ⟨rfl, (fun _ h => by cases h)⟩)⟩)⟩)⟩) g g_0
theorem Z48 : Fld Tryz.prog 101 4 Zfx (Kd.int .i64) (fun x : shelf_node => x.size) := Fld.of ⟨_, (Kd.int .i64), 11, fun x : shelf_node => x.size⟩ (List.mem_of_getElem? (i := 4) rfl) 11 rfl (by kernel_rfl) (by decide)
theorem ty_3 : Ty Tryz.prog 3 (Kd.int .i64) := ⟨by kernel_rfl, by kernel_rfl⟩
theorem Zoy : Fld Tryz.prog 30 0 Z1 Z4 (fun x : Zn => x.top) := Fld.of ⟨_, Z4, 0, fun x : Zn => x.top⟩ (List.mem_of_getElem? (i := 0) rfl) 0 rfl (by kernel_rfl) (by decide)
theorem Zcz : Ty Tryz.prog 28 Z4 := ⟨by kernel_rfl, by kernel_rfl⟩
theorem Zmk : Zl Tryz.prog 35 := by
 unfold Zl
 kernel_rfl
theorem Zed : TE Tryz.prog 50 91 Z0 24 := TE.of Tryz.underlying50 (by kernel_rfl) (by decide) (by decide)
theorem Zdh : Fld Tryz.prog 52 7 Zj Z0.sl (fun x : Zd => x.List) := Fld.of ⟨_, Z0.sl, 7, fun x : Zd => x.List⟩ (List.mem_of_getElem? (i := 7) rfl) 7 rfl (by kernel_rfl) (by decide)
theorem Ze5 : Ty Tryz.prog 50 Z0.sl := ⟨by kernel_rfl, by kernel_rfl⟩
theorem Zwu : Zl Tryz.prog 60 := by
 unfold Zl
 kernel_rfl
theorem Zrp {c : Option Nat} {N j s : Nat} {o : Oper} {uses : Zbc} {x z : Operand} {v : Zd} {y0 y : List Zi} {v0 : Zd} {t : Nat} (hT : Ty Tryz.prog t Z0.sl) (hop : o.op = .store t x z) (hd : o.dst = none) (hs : Opd uses (.tmp s) (Zbt c Zj j v)) (hx : Opd uses x (Zjb Zj j v0 7 Z0.sl y0)) (hz : Opd uses z (Z0.sl.pd y)) : OB Tryz.prog N o uses [(s, Zbt c Zj j { v with List := y })] [j + 1] :=
 Zlv hT hop hd hs hx hz fun g cs ys hk hy => by
   have hc : cs.length = 8 := hk.1
   have hl : ys.length = 1 := Z0.sl.len hy
   exact ⟨by omega, (Zgd (by omega)).trans hc, (List.forall_mem_cons.2 ⟨(by show (Kd.int .i64).K g v.Kind (seg (Zbv cs 7 ys) 0 1); rw [Zbq (by omega) (by omega)]; exact hk.2 _ (List.mem_of_getElem? (i := 0) rfl)), (List.forall_mem_cons.2 ⟨(by show (Kd.int .i64).K g v.Num (seg (Zbv cs 7 ys) 1 1); rw [Zbq (by omega) (by omega)]; exact hk.2 _ (List.mem_of_getElem? (i := 1) rfl)), (List.forall_mem_cons.2 ⟨(by show (Kd.int .i64).K g v.Low (seg (Zbv cs 7 ys) 2 1); rw [Zbq (by omega) (by omega)]; exact hk.2 _ (List.mem_of_getElem? (i := 2) rfl)), (List.forall_mem_cons.2 ⟨(by show (Kd.int .i64).K g v.High (seg (Zbv cs 7 ys) 3 1); rw [Zbq (by omega) (by omega)]; exact hk.2 _ (List.mem_of_getElem? (i := 3) rfl)), (List.forall_mem_cons.2 ⟨(by show Kd.flt.K g v.Real (seg (Zbv cs 7 ys) 4 1); rw [Zbq (by omega) (by omega)]; exact hk.2 _ (List.mem_of_getElem? (i := 4) rfl)), (List.forall_mem_cons.2 ⟨(by show (Kd.int .i64).K g v.Cap (seg (Zbv cs 7 ys) 5 1); rw [Zbq (by omega) (by omega)]; exact hk.2 _ (List.mem_of_getElem? (i := 5) rfl)), (List.forall_mem_cons.2 ⟨(by show Kd.str.K g v.Text (seg (Zbv cs 7 ys) 6 1); rw [Zbq (by omega) (by omega)]; exact hk.2 _ (List.mem_of_getElem? (i := 6) rfl)), (List.forall_mem_cons.2 ⟨(by show Z0.sl.K g y (seg (Zbv cs 7 ys) 7 1); rw [Zg8 (by omega) hl]; exact hy), (fun _ h => by cases h)⟩)⟩)⟩)⟩)⟩)⟩)⟩)⟩)⟩
theorem Zbn : Ty Tryz.prog 52 Zj := ⟨by kernel_rfl, by kernel_rfl⟩
theorem Zef : Fld Tryz.prog 101 0 Zfx Kd.str (fun x : shelf_node => x.key) := Fld.of ⟨_, Kd.str, 0, fun x : shelf_node => x.key⟩ (List.mem_of_getElem? (i := 0) rfl) 0 rfl (by kernel_rfl) (by decide)
theorem ty_9 : Ty Tryz.prog 9 Kd.str := ⟨by kernel_rfl, by kernel_rfl⟩
theorem Zdx : Fld Tryz.prog 101 2 Zfx Z4 (fun x : shelf_node => x.left) := Fld.of ⟨_, Z4, 9, fun x : shelf_node => x.left⟩ (List.mem_of_getElem? (i := 2) rfl) 9 rfl (by kernel_rfl) (by decide)
theorem Zeg : Fld Tryz.prog 101 3 Zfx Z4 (fun x : shelf_node => x.right) := Fld.of ⟨_, Z4, 10, fun x : shelf_node => x.right⟩ (List.mem_of_getElem? (i := 3) rfl) 10 rfl (by kernel_rfl) (by decide)
theorem Zgp : Fld Tryz.prog 101 1 Zfx Zj (fun x : shelf_node => x.rec_) := Fld.of ⟨_, Zj, 1, fun x : shelf_node => x.rec_⟩ (List.mem_of_getElem? (i := 1) rfl) 1 rfl (by kernel_rfl) (by decide)
theorem Zn6 : Zl Tryz.prog 38 := by
 unfold Zl
 kernel_rfl
theorem Zqp {N d : Nat} {o : Oper} {uses : Zbc}   (hop : o.op = .build 52 #[]) (hd : o.dst = some d)  : OB Tryz.prog N o uses [(d, Zj.pd { Kind := (0 : Int), Num := (0 : Int), Low := (0 : Int), High := (0 : Int), Real := (0 : Nat), Cap := (0 : Int), Text := ByteArray.empty, List := ([] : List Zi) })] [] := by
 refine Zc3 hop hd fun a g hh => ?_
 refine ⟨.agg #[.int .i64 0, .int .i64 0, .int .i64 0, .int .i64 0, .float .f64 0, .int .i64 0, .string ByteArray.empty, .slice none 0 0], ?_, [.int .i64 0, .int .i64 0, .int .i64 0, .int .i64 0, .float .f64 0, .int .i64 0, .string ByteArray.empty, .slice none 0 0], ⟨rfl, (List.forall_mem_cons.2 ⟨(rfl), (List.forall_mem_cons.2 ⟨(rfl), (List.forall_mem_cons.2 ⟨(rfl), (List.forall_mem_cons.2 ⟨(rfl), (List.forall_mem_cons.2 ⟨(rfl), (List.forall_mem_cons.2 ⟨(rfl), (List.forall_mem_cons.2 ⟨(rfl), (List.forall_mem_cons.2 ⟨(⟨none, 0, rfl, Nat.le_refl _, Nat.zero_le _, .inl rfl⟩), (fun _ h => by cases h)⟩)⟩)⟩)⟩)⟩)⟩)⟩)⟩)⟩, rfl⟩
 simp only [List.map_toArray, List.map_cons, List.map_nil, List.map_nil]
 exact Zcl Tryz.underlying52 (zero := .agg #[.int .i64 0, .int .i64 0, .int .i64 0, .int .i64 0, .float .f64 0, .int .i64 0, .string ByteArray.empty, .slice none 0 0]) (by kernel_rfl) (places := [(0, 1), (1, 1), (2, 1), (3, 1), (4, 1), (5, 1), (6, 1), (7, 1)]) (by kernel_rfl) (by kernel_rfl) g.w
theorem Z4m {N d : Nat} {o : Oper} {uses : Zbc} {x0 : Operand} {v0 : Bool} (hop : o.op = .build 116 #[(0, x0)]) (hd : o.dst = some d) (h0 : Opd uses x0 (Kd.bool.pd v0)) : OB Tryz.prog N o uses [(d, Zcy.pd { text := v0, num := false, bounds := false, real := false, list := false })] [] := by
 refine Zc3 hop hd fun a g hh => ?_
 obtain ⟨c0, k0, e0⟩ := h0 a g hh
 obtain rfl := k0
 refine ⟨.agg #[.bool v0, .bool false, .bool false, .bool false, .bool false], ?_, [.bool v0, .bool false, .bool false, .bool false, .bool false], ⟨rfl, (List.forall_mem_cons.2 ⟨rfl, (List.forall_mem_cons.2 ⟨(rfl), (List.forall_mem_cons.2 ⟨(rfl), (List.forall_mem_cons.2 ⟨(rfl), (List.forall_mem_cons.2 ⟨(rfl), (fun _ h => by cases h)⟩)⟩)⟩)⟩)⟩)⟩, rfl⟩
 simp only [List.map_toArray, List.map_cons, List.map_nil, e0]
 exact Zcl Tryz.underlying116 (zero := .agg #[.bool false, .bool false, .bool false, .bool false, .bool false]) (by kernel_rfl) (places := [(0, 1), (1, 1), (2, 1), (3, 1), (4, 1)]) (by kernel_rfl) (by kernel_rfl) g.w
theorem Zio : Ty Tryz.prog 116 Zcy := ⟨by kernel_rfl, by kernel_rfl⟩
theorem Z4x {N d : Nat} {o : Oper} {uses : Zbc} {x1 : Operand} {v1 : Bool} (hop : o.op = .build 116 #[(1, x1)]) (hd : o.dst = some d) (h1 : Opd uses x1 (Kd.bool.pd v1)) : OB Tryz.prog N o uses [(d, Zcy.pd { text := false, num := v1, bounds := false, real := false, list := false })] [] := by
 refine Zc3 hop hd fun a g hh => ?_
 obtain ⟨c1, k1, e1⟩ := h1 a g hh
 obtain rfl := k1
 refine ⟨.agg #[.bool false, .bool v1, .bool false, .bool false, .bool false], ?_, [.bool false, .bool v1, .bool false, .bool false, .bool false], ⟨rfl, (List.forall_mem_cons.2 ⟨(rfl), (List.forall_mem_cons.2 ⟨rfl, (List.forall_mem_cons.2 ⟨(rfl), (List.forall_mem_cons.2 ⟨(rfl), (List.forall_mem_cons.2 ⟨(rfl), (fun _ h => by cases h)⟩)⟩)⟩)⟩)⟩)⟩, rfl⟩
 simp only [List.map_toArray, List.map_cons, List.map_nil, e1]
 exact Zcl Tryz.underlying116 (zero := .agg #[.bool false, .bool false, .bool false, .bool false, .bool false]) (by kernel_rfl) (places := [(0, 1), (1, 1), (2, 1), (3, 1), (4, 1)]) (by kernel_rfl) (by kernel_rfl) g.w
theorem Z1r {N d : Nat} {o : Oper} {uses : Zbc} {x1 : Operand} {x2 : Operand} {v1 : Bool} {v2 : Bool} (hop : o.op = .build 116 #[(1, x1), (2, x2)]) (hd : o.dst = some d) (h1 : Opd uses x1 (Kd.bool.pd v1)) (h2 : Opd uses x2 (Kd.bool.pd v2)) : OB Tryz.prog N o uses [(d, Zcy.pd { text := false, num := v1, bounds := v2, real := false, list := false })] [] := by
 refine Zc3 hop hd fun a g hh => ?_
 obtain ⟨c1, k1, e1⟩ := h1 a g hh
 obtain rfl := k1
 obtain ⟨c2, k2, e2⟩ := h2 a g hh
 obtain rfl := k2
 refine ⟨.agg #[.bool false, .bool v1, .bool v2, .bool false, .bool false], ?_, [.bool false, .bool v1, .bool v2, .bool false, .bool false], ⟨rfl, (List.forall_mem_cons.2 ⟨(rfl), (List.forall_mem_cons.2 ⟨rfl, (List.forall_mem_cons.2 ⟨rfl, (List.forall_mem_cons.2 ⟨(rfl), (List.forall_mem_cons.2 ⟨(rfl), (fun _ h => by cases h)⟩)⟩)⟩)⟩)⟩)⟩, rfl⟩
 simp only [List.map_toArray, List.map_cons, List.map_nil, e1, e2]
 exact Zcl Tryz.underlying116 (zero := .agg #[.bool false, .bool false, .bool false, .bool false, .bool false]) (by kernel_rfl) (places := [(0, 1), (1, 1), (2, 1), (3, 1), (4, 1)]) (by kernel_rfl) (by kernel_rfl) g.w
theorem Z4s {N d : Nat} {o : Oper} {uses : Zbc} {x3 : Operand} {v3 : Bool} (hop : o.op = .build 116 #[(3, x3)]) (hd : o.dst = some d) (h3 : Opd uses x3 (Kd.bool.pd v3)) : OB Tryz.prog N o uses [(d, Zcy.pd { text := false, num := false, bounds := false, real := v3, list := false })] [] := by
 refine Zc3 hop hd fun a g hh => ?_
 obtain ⟨c3, k3, e3⟩ := h3 a g hh
 obtain rfl := k3
 refine ⟨.agg #[.bool false, .bool false, .bool false, .bool v3, .bool false], ?_, [.bool false, .bool false, .bool false, .bool v3, .bool false], ⟨rfl, (List.forall_mem_cons.2 ⟨(rfl), (List.forall_mem_cons.2 ⟨(rfl), (List.forall_mem_cons.2 ⟨(rfl), (List.forall_mem_cons.2 ⟨rfl, (List.forall_mem_cons.2 ⟨(rfl), (fun _ h => by cases h)⟩)⟩)⟩)⟩)⟩)⟩, rfl⟩
 simp only [List.map_toArray, List.map_cons, List.map_nil, e3]
 exact Zcl Tryz.underlying116 (zero := .agg #[.bool false, .bool false, .bool false, .bool false, .bool false]) (by kernel_rfl) (places := [(0, 1), (1, 1), (2, 1), (3, 1), (4, 1)]) (by kernel_rfl) (by kernel_rfl) g.w
theorem Z5e {N d : Nat} {o : Oper} {uses : Zbc} {x4 : Operand} {v4 : Bool} (hop : o.op = .build 116 #[(4, x4)]) (hd : o.dst = some d) (h4 : Opd uses x4 (Kd.bool.pd v4)) : OB Tryz.prog N o uses [(d, Zcy.pd { text := false, num := false, bounds := false, real := false, list := v4 })] [] := by
 refine Zc3 hop hd fun a g hh => ?_
 obtain ⟨c4, k4, e4⟩ := h4 a g hh
 obtain rfl := k4
 refine ⟨.agg #[.bool false, .bool false, .bool false, .bool false, .bool v4], ?_, [.bool false, .bool false, .bool false, .bool false, .bool v4], ⟨rfl, (List.forall_mem_cons.2 ⟨(rfl), (List.forall_mem_cons.2 ⟨(rfl), (List.forall_mem_cons.2 ⟨(rfl), (List.forall_mem_cons.2 ⟨(rfl), (List.forall_mem_cons.2 ⟨rfl, (fun _ h => by cases h)⟩)⟩)⟩)⟩)⟩)⟩, rfl⟩
 simp only [List.map_toArray, List.map_cons, List.map_nil, e4]
 exact Zcl Tryz.underlying116 (zero := .agg #[.bool false, .bool false, .bool false, .bool false, .bool false]) (by kernel_rfl) (places := [(0, 1), (1, 1), (2, 1), (3, 1), (4, 1)]) (by kernel_rfl) (by kernel_rfl) g.w
theorem Z66 {N d : Nat} {o : Oper} {uses : Zbc}   (hop : o.op = .build 116 #[]) (hd : o.dst = some d)  : OB Tryz.prog N o uses [(d, Zcy.pd { text := false, num := false, bounds := false, real := false, list := false })] [] := by
 refine Zc3 hop hd fun a g hh => ?_
 refine ⟨.agg #[.bool false, .bool false, .bool false, .bool false, .bool false], ?_, [.bool false, .bool false, .bool false, .bool false, .bool false], ⟨rfl, (List.forall_mem_cons.2 ⟨(rfl), (List.forall_mem_cons.2 ⟨(rfl), (List.forall_mem_cons.2 ⟨(rfl), (List.forall_mem_cons.2 ⟨(rfl), (List.forall_mem_cons.2 ⟨(rfl), (fun _ h => by cases h)⟩)⟩)⟩)⟩)⟩)⟩, rfl⟩
 simp only [List.map_toArray, List.map_cons, List.map_nil, List.map_nil]
 exact Zcl Tryz.underlying116 (zero := .agg #[.bool false, .bool false, .bool false, .bool false, .bool false]) (by kernel_rfl) (places := [(0, 1), (1, 1), (2, 1), (3, 1), (4, 1)]) (by kernel_rfl) (by kernel_rfl) g.w
theorem Z8f : Ext Tryz.prog 113 Extern.MathFloatBits.float64frombits := ⟨_, Tryz.func113, rfl, rfl, by kernel_rfl, by kernel_rfl⟩
theorem Z8i : Zl Tryz.prog 108 := by
 unfold Zl
 kernel_rfl
theorem Zod : Zl Tryz.prog 93 := by
 unfold Zl
 kernel_rfl
theorem Zw2 : Ext Tryz.prog 92 Extern.MathFloatBits.float64bits := ⟨_, Tryz.func92, rfl, rfl, by kernel_rfl, by kernel_rfl⟩
theorem Zw3 : Zl Tryz.prog 68 := by
 unfold Zl
 kernel_rfl
theorem Z4e : Fld Tryz.prog 116 0 Zcy Kd.bool (fun x : Zb3 => x.text) := Fld.of ⟨_, Kd.bool, 0, fun x : Zb3 => x.text⟩ (List.mem_of_getElem? (i := 0) rfl) 0 rfl (by kernel_rfl) (by decide)
theorem ty_4 : Ty Tryz.prog 4 Kd.bool := ⟨by kernel_rfl, by kernel_rfl⟩
theorem Zkt : Fld Tryz.prog 52 6 Zj Kd.str (fun x : Zd => x.Text) := Fld.of ⟨_, Kd.str, 6, fun x : Zd => x.Text⟩ (List.mem_of_getElem? (i := 6) rfl) 6 rfl (by kernel_rfl) (by decide)
theorem Z4t : Fld Tryz.prog 116 1 Zcy Kd.bool (fun x : Zb3 => x.num) := Fld.of ⟨_, Kd.bool, 1, fun x : Zb3 => x.num⟩ (List.mem_of_getElem? (i := 1) rfl) 1 rfl (by kernel_rfl) (by decide)
theorem Zem : Fld Tryz.prog 52 1 Zj (Kd.int .i64) (fun x : Zd => x.Num) := Fld.of ⟨_, (Kd.int .i64), 1, fun x : Zd => x.Num⟩ (List.mem_of_getElem? (i := 1) rfl) 1 rfl (by kernel_rfl) (by decide)
theorem ty_2 : Ty Tryz.prog 2 (Kd.int .i64) := ⟨by kernel_rfl, by kernel_rfl⟩
theorem Zye : Fld Tryz.prog 116 2 Zcy Kd.bool (fun x : Zb3 => x.bounds) := Fld.of ⟨_, Kd.bool, 2, fun x : Zb3 => x.bounds⟩ (List.mem_of_getElem? (i := 2) rfl) 2 rfl (by kernel_rfl) (by decide)
theorem Zky : Fld Tryz.prog 52 2 Zj (Kd.int .i64) (fun x : Zd => x.Low) := Fld.of ⟨_, (Kd.int .i64), 2, fun x : Zd => x.Low⟩ (List.mem_of_getElem? (i := 2) rfl) 2 rfl (by kernel_rfl) (by decide)
theorem Zkr : Fld Tryz.prog 52 3 Zj (Kd.int .i64) (fun x : Zd => x.High) := Fld.of ⟨_, (Kd.int .i64), 3, fun x : Zd => x.High⟩ (List.mem_of_getElem? (i := 3) rfl) 3 rfl (by kernel_rfl) (by decide)
theorem Z4v : Fld Tryz.prog 116 3 Zcy Kd.bool (fun x : Zb3 => x.real) := Fld.of ⟨_, Kd.bool, 3, fun x : Zb3 => x.real⟩ (List.mem_of_getElem? (i := 3) rfl) 3 rfl (by kernel_rfl) (by decide)
theorem Zls : Fld Tryz.prog 52 4 Zj Kd.flt (fun x : Zd => x.Real) := Fld.of ⟨_, Kd.flt, 4, fun x : Zd => x.Real⟩ (List.mem_of_getElem? (i := 4) rfl) 4 rfl (by kernel_rfl) (by decide)
theorem Zfb : Ty Tryz.prog 49 Kd.flt := ⟨by kernel_rfl, by kernel_rfl⟩
theorem Zrm : Zl Tryz.prog 46 := by
 unfold Zl
 kernel_rfl
theorem Zys : Fld Tryz.prog 116 4 Zcy Kd.bool (fun x : Zb3 => x.list) := Fld.of ⟨_, Kd.bool, 4, fun x : Zb3 => x.list⟩ (List.mem_of_getElem? (i := 4) rfl) 4 rfl (by kernel_rfl) (by decide)
theorem Zh9 : Fld Tryz.prog 52 5 Zj (Kd.int .i64) (fun x : Zd => x.Cap) := Fld.of ⟨_, (Kd.int .i64), 5, fun x : Zd => x.Cap⟩ (List.mem_of_getElem? (i := 5) rfl) 5 rfl (by kernel_rfl) (by decide)
theorem Zha : Fld Tryz.prog 91 0 Z0 Kd.flt (fun x : Zi => x.Score) := Fld.of ⟨_, Kd.flt, 0, fun x : Zi => x.Score⟩ (List.mem_of_getElem? (i := 0) rfl) 0 rfl (by kernel_rfl) (by decide)
theorem Zxm : Zl Tryz.prog 104 := by
 unfold Zl
 kernel_rfl
theorem Zgl : Fld Tryz.prog 91 1 Z0 Kd.str (fun x : Zi => x.Name) := Fld.of ⟨_, Kd.str, 1, fun x : Zi => x.Name⟩ (List.mem_of_getElem? (i := 1) rfl) 1 rfl (by kernel_rfl) (by decide)
theorem Zj3 : (Tryz.prog.info? 91).map (·.size) = some Z0.sz := by kernel_rfl
theorem Zft : Ty Tryz.prog 91 Z0 := ⟨by kernel_rfl, by kernel_rfl⟩
theorem Z0r : Zl Tryz.prog 56 := by
 unfold Zl
 kernel_rfl
theorem Z1b : Zl Tryz.prog 94 := by
 unfold Zl
 kernel_rfl
theorem Zgk : Fld Tryz.prog 52 0 Zj (Kd.int .i64) (fun x : Zd => x.Kind) := Fld.of ⟨_, (Kd.int .i64), 0, fun x : Zd => x.Kind⟩ (List.mem_of_getElem? (i := 0) rfl) 0 rfl (by kernel_rfl) (by decide)
theorem Zbbh : Zl Tryz.prog 54 := by
 unfold Zl
 kernel_rfl
theorem Zbbn : Zl Tryz.prog 55 := by
 unfold Zl
 kernel_rfl
theorem Zbbb : Zl Tryz.prog 57 := by
 unfold Zl
 kernel_rfl
theorem Zs7 {N d : Nat} {o : Oper} {uses : Zbc} {x0 : Operand} {x1 : Operand} {x2 : Operand} {x3 : Operand} {x4 : Operand} {v0 : ByteArray} {v1 : Zd} {v2 : shelf_nodeT} {v3 : shelf_nodeT} {v4 : Int} (hop : o.op = .build 101 #[(0, x0), (1, x1), (2, x2), (3, x3), (4, x4)]) (hd : o.dst = some d) (h0 : Opd uses x0 (Kd.str.pd v0)) (h1 : Opd uses x1 (Zj.pd v1)) (h2 : Opd uses x2 (Z4.pd v2)) (h3 : Opd uses x3 (Z4.pd v3)) (h4 : Opd uses x4 ((Kd.int .i64).pd v4)) : OB Tryz.prog N o uses [(d, Zfx.pd { key := v0, rec_ := v1, left := v2, right := v3, size := v4 })] [] := by
 refine Zc3 hop hd fun a g hh => ?_
 obtain ⟨c0, k0, e0⟩ := h0 a g hh
 obtain rfl := k0
 obtain ⟨c1, k1, e1⟩ := h1 a g hh
 obtain ⟨u1_0, u1_1, u1_2, u1_3, u1_4, u1_5, u1_6, u1_7, rfl⟩ := Zws (Zj.len k1)
 obtain ⟨c2, k2, e2⟩ := h2 a g hh
 obtain ⟨p2, rfl, l2⟩ := k2
 obtain ⟨q2, rfl, _⟩ := shelf_nodeT.ptr l2
 obtain ⟨c3, k3, e3⟩ := h3 a g hh
 obtain ⟨p3, rfl, l3⟩ := k3
 obtain ⟨q3, rfl, _⟩ := shelf_nodeT.ptr l3
 obtain ⟨c4, k4, e4⟩ := h4 a g hh
 obtain rfl := k4
 refine ⟨.agg #[.string v0, u1_0, u1_1, u1_2, u1_3, u1_4, u1_5, u1_6, u1_7, .pointer q2, .pointer q3, .int .i64 v4], ?_, [.string v0, u1_0, u1_1, u1_2, u1_3, u1_4, u1_5, u1_6, u1_7, .pointer q2, .pointer q3, .int .i64 v4], ⟨rfl, (List.forall_mem_cons.2 ⟨rfl, (List.forall_mem_cons.2 ⟨k1, (List.forall_mem_cons.2 ⟨⟨.pointer q2, rfl, l2⟩, (List.forall_mem_cons.2 ⟨⟨.pointer q3, rfl, l3⟩, (List.forall_mem_cons.2 ⟨rfl, (fun _ h => by cases h)⟩)⟩)⟩)⟩)⟩)⟩, rfl⟩
 simp only [List.map_toArray, List.map_cons, List.map_nil, e0, e1, e2, e3, e4]
 exact Zcl Tryz.underlying101 (zero := .agg #[.string ByteArray.empty, .int .i64 0, .int .i64 0, .int .i64 0, .int .i64 0, .float .f64 0, .int .i64 0, .string ByteArray.empty, .slice none 0 0, .pointer none, .pointer none, .int .i64 0]) (by kernel_rfl) (places := [(0, 1), (1, 8), (9, 1), (10, 1), (11, 1)]) (by kernel_rfl) (by kernel_rfl) g.w
theorem Zwv : Zl Tryz.prog 95 := by
 unfold Zl
 kernel_rfl
theorem Zkn : Zl Tryz.prog 58 := by
 unfold Zl
 kernel_rfl
theorem Z1q : Zl Tryz.prog 37 := by
 unfold Zl
 kernel_rfl
theorem Ztn : Zl Tryz.prog 59 := by
 unfold Zl
 kernel_rfl
theorem Zbs : Ty Tryz.prog 30 Z1 := ⟨by kernel_rfl, by kernel_rfl⟩
theorem Z1k : Zl Tryz.prog 36 := by
 unfold Zl
 kernel_rfl
theorem Z03 : Zl Tryz.prog 31 := by
 unfold Zl
 kernel_rfl
theorem Zrx : Zl Tryz.prog 15 := by
 unfold Zl
 kernel_rfl
theorem Zu9 : Fld Tryz.prog 30 1 Z1 (Kd.int .i64) (fun x : Zn => x.room) := Fld.of ⟨_, (Kd.int .i64), 1, fun x : Zn => x.room⟩ (List.mem_of_getElem? (i := 1) rfl) 1 rfl (by kernel_rfl) (by decide)
theorem Zv8 {N d : Nat} {o : Oper} {uses : Zbc} {x0 : Operand} {x1 : Operand} {v0 : shelf_nodeT} {v1 : Int} (hop : o.op = .build 30 #[(0, x0), (1, x1)]) (hd : o.dst = some d) (h0 : Opd uses x0 (Z4.pd v0)) (h1 : Opd uses x1 ((Kd.int .i64).pd v1)) : OB Tryz.prog N o uses [(d, Z1.pd { top := v0, room := v1 })] [] := by
 refine Zc3 hop hd fun a g hh => ?_
 obtain ⟨c0, k0, e0⟩ := h0 a g hh
 obtain ⟨p0, rfl, l0⟩ := k0
 obtain ⟨q0, rfl, _⟩ := shelf_nodeT.ptr l0
 obtain ⟨c1, k1, e1⟩ := h1 a g hh
 obtain rfl := k1
 refine ⟨.agg #[.pointer q0, .int .i64 v1], ?_, [.pointer q0, .int .i64 v1], ⟨rfl, (List.forall_mem_cons.2 ⟨⟨.pointer q0, rfl, l0⟩, (List.forall_mem_cons.2 ⟨rfl, (fun _ h => by cases h)⟩)⟩)⟩, rfl⟩
 simp only [List.map_toArray, List.map_cons, List.map_nil, e0, e1]
 exact Zcl Tryz.underlying30 (zero := .agg #[.pointer none, .int .i64 0]) (by kernel_rfl) (places := [(0, 1), (1, 1)]) (by kernel_rfl) (by kernel_rfl) g.w
theorem Z7o {N d : Nat} {o : Oper} {uses : Zbc}   (hop : o.op = .build 131 #[]) (hd : o.dst = some d)  : OB Tryz.prog N o uses [(d, Zd5.pd { word := ByteArray.empty, on := (0 : Int), has := ByteArray.empty })] [] := by
 refine Zc3 hop hd fun a g hh => ?_
 refine ⟨.agg #[.string ByteArray.empty, .int .i64 0, .string ByteArray.empty], ?_, [.string ByteArray.empty, .int .i64 0, .string ByteArray.empty], ⟨rfl, (List.forall_mem_cons.2 ⟨(rfl), (List.forall_mem_cons.2 ⟨(rfl), (List.forall_mem_cons.2 ⟨(rfl), (fun _ h => by cases h)⟩)⟩)⟩)⟩, rfl⟩
 simp only [List.map_toArray, List.map_cons, List.map_nil, List.map_nil]
 exact Zcl Tryz.underlying131 (zero := .agg #[.string ByteArray.empty, .int .i64 0, .string ByteArray.empty]) (by kernel_rfl) (places := [(0, 1), (1, 1), (2, 1)]) (by kernel_rfl) (by kernel_rfl) g.w
theorem Zjk : Ty Tryz.prog 131 Zd5 := ⟨by kernel_rfl, by kernel_rfl⟩
theorem Z9h : (Tryz.prog.info? 131).map (·.size) = some Zd5.sz := by kernel_rfl
theorem Z9t : Zl Tryz.prog 48 := by
 unfold Zl
 kernel_rfl
theorem Zbaz : Zl Tryz.prog 47 := by
 unfold Zl
 kernel_rfl
theorem Zx2 : Fld Tryz.prog 131 2 Zd5 Kd.str (fun x : Zc5 => x.has) := Fld.of ⟨_, Kd.str, 2, fun x : Zc5 => x.has⟩ (List.mem_of_getElem? (i := 2) rfl) 2 rfl (by kernel_rfl) (by decide)
theorem Ztv : Zl Tryz.prog 102 := by
 unfold Zl
 kernel_rfl
theorem Zhe : Fld Tryz.prog 54 2 Z2 (Kd.int .i64) (fun x : Zm => x.N) := Fld.of ⟨_, (Kd.int .i64), 2, fun x : Zm => x.N⟩ (List.mem_of_getElem? (i := 2) rfl) 2 rfl (by kernel_rfl) (by decide)
theorem Zro : Fld Tryz.prog 54 3 Z2 Kd.flt (fun x : Zm => x.X) := Fld.of ⟨_, Kd.flt, 3, fun x : Zm => x.X⟩ (List.mem_of_getElem? (i := 3) rfl) 3 rfl (by kernel_rfl) (by decide)
theorem Zjs : Fld Tryz.prog 54 4 Z2 Kd.str (fun x : Zm => x.S) := Fld.of ⟨_, Kd.str, 4, fun x : Zm => x.S⟩ (List.mem_of_getElem? (i := 4) rfl) 4 rfl (by kernel_rfl) (by decide)
theorem Zre : Fld Tryz.prog 54 5 Z2 Zj (fun x : Zm => x.Make) := Fld.of ⟨_, Zj, 5, fun x : Zm => x.Make⟩ (List.mem_of_getElem? (i := 5) rfl) 5 rfl (by kernel_rfl) (by decide)
theorem Z0s : Zl Tryz.prog 25 := by
 unfold Zl
 kernel_rfl
theorem Zxx : Fld Tryz.prog 131 1 Zd5 (Kd.int .i64) (fun x : Zc5 => x.on) := Fld.of ⟨_, (Kd.int .i64), 1, fun x : Zc5 => x.on⟩ (List.mem_of_getElem? (i := 1) rfl) 1 rfl (by kernel_rfl) (by decide)
theorem Zeu : Fld Tryz.prog 54 0 Z2 (Kd.int .i64) (fun x : Zm => x.Kind) := Fld.of ⟨_, (Kd.int .i64), 0, fun x : Zm => x.Kind⟩ (List.mem_of_getElem? (i := 0) rfl) 0 rfl (by kernel_rfl) (by decide)
theorem Z07 : Zl Tryz.prog 69 := by
 unfold Zl
 kernel_rfl
theorem Zw8 : Fld Tryz.prog 131 0 Zd5 Kd.str (fun x : Zc5 => x.word) := Fld.of ⟨_, Kd.str, 0, fun x : Zc5 => x.word⟩ (List.mem_of_getElem? (i := 0) rfl) 0 rfl (by kernel_rfl) (by decide)
theorem Zjx : Fld Tryz.prog 54 1 Z2 Kd.str (fun x : Zm => x.Key) := Fld.of ⟨_, Kd.str, 1, fun x : Zm => x.Key⟩ (List.mem_of_getElem? (i := 1) rfl) 1 rfl (by kernel_rfl) (by decide)
theorem Zei : Ty Tryz.prog 54 Z2 := ⟨by kernel_rfl, by kernel_rfl⟩
theorem Zba3 : Zl Tryz.prog 70 := by
 unfold Zl
 kernel_rfl
theorem Z9v : Zl Tryz.prog 71 := by
 unfold Zl
 kernel_rfl
theorem Zz9 {c : Option Nat} {N j s : Nat} {o : Oper} {uses : Zbc} {x z : Operand} {v : Zd} {y0 y : ByteArray} {v0 : Zd} {t : Nat} (hT : Ty Tryz.prog t Kd.str) (hop : o.op = .store t x z) (hd : o.dst = none) (hs : Opd uses (.tmp s) (Zbt c Zj j v)) (hx : Opd uses x (Zjb Zj j v0 6 Kd.str y0)) (hz : Opd uses z (Kd.str.pd y)) : OB Tryz.prog N o uses [(s, Zbt c Zj j { v with Text := y })] [j + 1] :=
 Zlv hT hop hd hs hx hz fun g cs ys hk hy => by
   have hc : cs.length = 8 := hk.1
   have hl : ys.length = 1 := Kd.str.len hy
   exact ⟨by omega, (Zgd (by omega)).trans hc, (List.forall_mem_cons.2 ⟨(by show (Kd.int .i64).K g v.Kind (seg (Zbv cs 6 ys) 0 1); rw [Zbq (by omega) (by omega)]; exact hk.2 _ (List.mem_of_getElem? (i := 0) rfl)), (List.forall_mem_cons.2 ⟨(by show (Kd.int .i64).K g v.Num (seg (Zbv cs 6 ys) 1 1); rw [Zbq (by omega) (by omega)]; exact hk.2 _ (List.mem_of_getElem? (i := 1) rfl)), (List.forall_mem_cons.2 ⟨(by show (Kd.int .i64).K g v.Low (seg (Zbv cs 6 ys) 2 1); rw [Zbq (by omega) (by omega)]; exact hk.2 _ (List.mem_of_getElem? (i := 2) rfl)), (List.forall_mem_cons.2 ⟨(by show (Kd.int .i64).K g v.High (seg (Zbv cs 6 ys) 3 1); rw [Zbq (by omega) (by omega)]; exact hk.2 _ (List.mem_of_getElem? (i := 3) rfl)), (List.forall_mem_cons.2 ⟨(by show Kd.flt.K g v.Real (seg (Zbv cs 6 ys) 4 1); rw [Zbq (by omega) (by omega)]; exact hk.2 _ (List.mem_of_getElem? (i := 4) rfl)), (List.forall_mem_cons.2 ⟨(by show (Kd.int .i64).K g v.Cap (seg (Zbv cs 6 ys) 5 1); rw [Zbq (by omega) (by omega)]; exact hk.2 _ (List.mem_of_getElem? (i := 5) rfl)), (List.forall_mem_cons.2 ⟨(by show Kd.str.K g y (seg (Zbv cs 6 ys) 6 1); rw [Zg8 (by omega) hl]; exact hy), (List.forall_mem_cons.2 ⟨(by show Z0.sl.K g v.List (seg (Zbv cs 6 ys) 7 1); rw [Zbq (by omega) (by omega)]; exact hk.2 _ (List.mem_of_getElem? (i := 7) rfl)), (fun _ h => by cases h)⟩)⟩)⟩)⟩)⟩)⟩)⟩)⟩)⟩
theorem Zvh : Fld Tryz.prog 58 2 Zt Zj (fun x : Zh => x.Rec) := Fld.of ⟨_, Zj, 2, fun x : Zh => x.Rec⟩ (List.mem_of_getElem? (i := 2) rfl) 2 rfl (by kernel_rfl) (by decide)
theorem Z6y {c : Option Nat} {N j s : Nat} {o : Oper} {uses : Zbc} {x z : Operand} {v : Zh} {y0 y : Zd} {v0 : Zh} {t : Nat} (hT : Ty Tryz.prog t Zj) (hop : o.op = .store t x z) (hd : o.dst = none) (hs : Opd uses (.tmp s) (Zbt c Zt j v)) (hx : Opd uses x (Zjb Zt j v0 2 Zj y0)) (hz : Opd uses z (Zj.pd y)) : OB Tryz.prog N o uses [(s, Zbt c Zt j { v with Rec := y })] [j + 1] :=
 Zlv hT hop hd hs hx hz fun g cs ys hk hy => by
   have hc : cs.length = 10 := hk.1
   have hl : ys.length = 8 := Zj.len hy
   exact ⟨by omega, (Zgd (by omega)).trans hc, (List.forall_mem_cons.2 ⟨(by show (Kd.int .i64).K g v.Code (seg (Zbv cs 2 ys) 0 1); rw [Zbq (by omega) (by omega)]; exact hk.2 _ (List.mem_of_getElem? (i := 0) rfl)), (List.forall_mem_cons.2 ⟨(by show (Kd.int .i64).K g v.Num (seg (Zbv cs 2 ys) 1 1); rw [Zbq (by omega) (by omega)]; exact hk.2 _ (List.mem_of_getElem? (i := 1) rfl)), (List.forall_mem_cons.2 ⟨(by show Zj.K g y (seg (Zbv cs 2 ys) 2 8); rw [Zg8 (by omega) hl]; exact hy), (fun _ h => by cases h)⟩)⟩)⟩)⟩
theorem Zrk {c : Option Nat} {N j s : Nat} {o : Oper} {uses : Zbc} {x z : Operand} {v : Zd} {y0 y : Int} {v0 : Zd} {t : Nat} (hT : Ty Tryz.prog t (Kd.int .i64)) (hop : o.op = .store t x z) (hd : o.dst = none) (hs : Opd uses (.tmp s) (Zbt c Zj j v)) (hx : Opd uses x (Zjb Zj j v0 1 (Kd.int .i64) y0)) (hz : Opd uses z ((Kd.int .i64).pd y)) : OB Tryz.prog N o uses [(s, Zbt c Zj j { v with Num := y })] [j + 1] :=
 Zlv hT hop hd hs hx hz fun g cs ys hk hy => by
   have hc : cs.length = 8 := hk.1
   have hl : ys.length = 1 := (Kd.int .i64).len hy
   exact ⟨by omega, (Zgd (by omega)).trans hc, (List.forall_mem_cons.2 ⟨(by show (Kd.int .i64).K g v.Kind (seg (Zbv cs 1 ys) 0 1); rw [Zbq (by omega) (by omega)]; exact hk.2 _ (List.mem_of_getElem? (i := 0) rfl)), (List.forall_mem_cons.2 ⟨(by show (Kd.int .i64).K g y (seg (Zbv cs 1 ys) 1 1); rw [Zg8 (by omega) hl]; exact hy), (List.forall_mem_cons.2 ⟨(by show (Kd.int .i64).K g v.Low (seg (Zbv cs 1 ys) 2 1); rw [Zbq (by omega) (by omega)]; exact hk.2 _ (List.mem_of_getElem? (i := 2) rfl)), (List.forall_mem_cons.2 ⟨(by show (Kd.int .i64).K g v.High (seg (Zbv cs 1 ys) 3 1); rw [Zbq (by omega) (by omega)]; exact hk.2 _ (List.mem_of_getElem? (i := 3) rfl)), (List.forall_mem_cons.2 ⟨(by show Kd.flt.K g v.Real (seg (Zbv cs 1 ys) 4 1); rw [Zbq (by omega) (by omega)]; exact hk.2 _ (List.mem_of_getElem? (i := 4) rfl)), (List.forall_mem_cons.2 ⟨(by show (Kd.int .i64).K g v.Cap (seg (Zbv cs 1 ys) 5 1); rw [Zbq (by omega) (by omega)]; exact hk.2 _ (List.mem_of_getElem? (i := 5) rfl)), (List.forall_mem_cons.2 ⟨(by show Kd.str.K g v.Text (seg (Zbv cs 1 ys) 6 1); rw [Zbq (by omega) (by omega)]; exact hk.2 _ (List.mem_of_getElem? (i := 6) rfl)), (List.forall_mem_cons.2 ⟨(by show Z0.sl.K g v.List (seg (Zbv cs 1 ys) 7 1); rw [Zbq (by omega) (by omega)]; exact hk.2 _ (List.mem_of_getElem? (i := 7) rfl)), (fun _ h => by cases h)⟩)⟩)⟩)⟩)⟩)⟩)⟩)⟩)⟩
theorem Z63 {c : Option Nat} {N j s : Nat} {o : Oper} {uses : Zbc} {x z : Operand} {v : Zd} {y0 y : Nat} {v0 : Zd} {t : Nat} (hT : Ty Tryz.prog t Kd.flt) (hop : o.op = .store t x z) (hd : o.dst = none) (hs : Opd uses (.tmp s) (Zbt c Zj j v)) (hx : Opd uses x (Zjb Zj j v0 4 Kd.flt y0)) (hz : Opd uses z (Kd.flt.pd y)) : OB Tryz.prog N o uses [(s, Zbt c Zj j { v with Real := y })] [j + 1] :=
 Zlv hT hop hd hs hx hz fun g cs ys hk hy => by
   have hc : cs.length = 8 := hk.1
   have hl : ys.length = 1 := Kd.flt.len hy
   exact ⟨by omega, (Zgd (by omega)).trans hc, (List.forall_mem_cons.2 ⟨(by show (Kd.int .i64).K g v.Kind (seg (Zbv cs 4 ys) 0 1); rw [Zbq (by omega) (by omega)]; exact hk.2 _ (List.mem_of_getElem? (i := 0) rfl)), (List.forall_mem_cons.2 ⟨(by show (Kd.int .i64).K g v.Num (seg (Zbv cs 4 ys) 1 1); rw [Zbq (by omega) (by omega)]; exact hk.2 _ (List.mem_of_getElem? (i := 1) rfl)), (List.forall_mem_cons.2 ⟨(by show (Kd.int .i64).K g v.Low (seg (Zbv cs 4 ys) 2 1); rw [Zbq (by omega) (by omega)]; exact hk.2 _ (List.mem_of_getElem? (i := 2) rfl)), (List.forall_mem_cons.2 ⟨(by show (Kd.int .i64).K g v.High (seg (Zbv cs 4 ys) 3 1); rw [Zbq (by omega) (by omega)]; exact hk.2 _ (List.mem_of_getElem? (i := 3) rfl)), (List.forall_mem_cons.2 ⟨(by show Kd.flt.K g y (seg (Zbv cs 4 ys) 4 1); rw [Zg8 (by omega) hl]; exact hy), (List.forall_mem_cons.2 ⟨(by show (Kd.int .i64).K g v.Cap (seg (Zbv cs 4 ys) 5 1); rw [Zbq (by omega) (by omega)]; exact hk.2 _ (List.mem_of_getElem? (i := 5) rfl)), (List.forall_mem_cons.2 ⟨(by show Kd.str.K g v.Text (seg (Zbv cs 4 ys) 6 1); rw [Zbq (by omega) (by omega)]; exact hk.2 _ (List.mem_of_getElem? (i := 6) rfl)), (List.forall_mem_cons.2 ⟨(by show Z0.sl.K g v.List (seg (Zbv cs 4 ys) 7 1); rw [Zbq (by omega) (by omega)]; exact hk.2 _ (List.mem_of_getElem? (i := 7) rfl)), (fun _ h => by cases h)⟩)⟩)⟩)⟩)⟩)⟩)⟩)⟩)⟩
theorem Zq2 : Zl Tryz.prog 103 := by
 unfold Zl
 kernel_rfl
theorem Z7z : Ty Tryz.prog 136 Kd.fnc := ⟨by kernel_rfl, by kernel_rfl⟩
theorem Z8o : Zl Tryz.prog 107 := by
 unfold Zl
 kernel_rfl
theorem Z8g : Zl Tryz.prog 106 := by
 unfold Zl
 kernel_rfl
theorem Z84 : Ext Tryz.prog 111 (Extern.SlicesOverlaps.overlaps #[50, 50] #[4]) := ⟨_, Tryz.func111, rfl, rfl, by kernel_rfl, by kernel_rfl⟩
theorem Z1x : Zl Tryz.prog 87 := by
 unfold Zl
 kernel_rfl
theorem Z74 {N d : Nat} {o : Oper} {uses : Zbc} {x1 : Operand} {v1 : ByteArray} (hop : o.op = .build 91 #[(1, x1)]) (hd : o.dst = some d) (h1 : Opd uses x1 (Kd.str.pd v1)) : OB Tryz.prog N o uses [(d, Z0.pd { Score := (0 : Nat), Name := v1 })] [] := by
 refine Zc3 hop hd fun a g hh => ?_
 obtain ⟨c1, k1, e1⟩ := h1 a g hh
 obtain rfl := k1
 refine ⟨.agg #[.float .f64 0, .string v1], ?_, [.float .f64 0, .string v1], ⟨rfl, (List.forall_mem_cons.2 ⟨(rfl), (List.forall_mem_cons.2 ⟨rfl, (fun _ h => by cases h)⟩)⟩)⟩, rfl⟩
 simp only [List.map_toArray, List.map_cons, List.map_nil, e1]
 exact Zcl Tryz.underlying91 (zero := .agg #[.float .f64 0, .string ByteArray.empty]) (by kernel_rfl) (places := [(0, 1), (1, 1)]) (by kernel_rfl) (by kernel_rfl) g.w
theorem Z2u : Zl Tryz.prog 105 := by
 unfold Zl
 kernel_rfl
theorem Zban : Zl Tryz.prog 88 := by
 unfold Zl
 kernel_rfl
theorem Z2l {N d : Nat} {o : Oper} {uses : Zbc} {x0 : Operand} {x1 : Operand} {v0 : Nat} {v1 : ByteArray} (hop : o.op = .build 91 #[(0, x0), (1, x1)]) (hd : o.dst = some d) (h0 : Opd uses x0 (Kd.flt.pd v0)) (h1 : Opd uses x1 (Kd.str.pd v1)) : OB Tryz.prog N o uses [(d, Z0.pd { Score := v0, Name := v1 })] [] := by
 refine Zc3 hop hd fun a g hh => ?_
 obtain ⟨c0, k0, e0⟩ := h0 a g hh
 obtain rfl := k0
 obtain ⟨c1, k1, e1⟩ := h1 a g hh
 obtain rfl := k1
 refine ⟨.agg #[.float .f64 v0, .string v1], ?_, [.float .f64 v0, .string v1], ⟨rfl, (List.forall_mem_cons.2 ⟨rfl, (List.forall_mem_cons.2 ⟨rfl, (fun _ h => by cases h)⟩)⟩)⟩, rfl⟩
 simp only [List.map_toArray, List.map_cons, List.map_nil, e0, e1]
 exact Zcl Tryz.underlying91 (zero := .agg #[.float .f64 0, .string ByteArray.empty]) (by kernel_rfl) (places := [(0, 1), (1, 1)]) (by kernel_rfl) (by kernel_rfl) g.w
theorem Zbai : Zl Tryz.prog 72 := by
 unfold Zl
 kernel_rfl
theorem Zbad : Zl Tryz.prog 73 := by
 unfold Zl
 kernel_rfl
theorem Z9u : Zl Tryz.prog 74 := by
 unfold Zl
 kernel_rfl
theorem Z9y : Zl Tryz.prog 75 := by
 unfold Zl
 kernel_rfl
theorem Z5u : Zl Tryz.prog 76 := by
 unfold Zl
 kernel_rfl
theorem Zbaj : Zl Tryz.prog 77 := by
 unfold Zl
 kernel_rfl
theorem Z99 : Zl Tryz.prog 78 := by
 unfold Zl
 kernel_rfl
theorem Zbbg : Zl Tryz.prog 80 := by
 unfold Zl
 kernel_rfl
theorem Z9q : Zl Tryz.prog 81 := by
 unfold Zl
 kernel_rfl
theorem Zbbd : Zl Tryz.prog 82 := by
 unfold Zl
 kernel_rfl
theorem Zbam : Zl Tryz.prog 83 := by
 unfold Zl
 kernel_rfl
theorem Z9l : Zl Tryz.prog 84 := by
 unfold Zl
 kernel_rfl
theorem Z9m : Zl Tryz.prog 85 := by
 unfold Zl
 kernel_rfl
theorem Zbbf : Zl Tryz.prog 86 := by
 unfold Zl
 kernel_rfl
theorem Zba4 : Zl Tryz.prog 89 := by
 unfold Zl
 kernel_rfl
theorem Zbag : Zl Tryz.prog 90 := by
 unfold Zl
 kernel_rfl
theorem Ztw : Zl Tryz.prog 79 := by
 unfold Zl
 kernel_rfl
theorem Zvf {N d : Nat} {o : Oper} {uses : Zbc} {x0 : Operand} {v0 : Int} (hop : o.op = .build 58 #[(0, x0)]) (hd : o.dst = some d) (h0 : Opd uses x0 ((Kd.int .i64).pd v0)) : OB Tryz.prog N o uses [(d, Zt.pd { Code := v0, Num := (0 : Int), Rec := (default : Zd) })] [] := by
 refine Zc3 hop hd fun a g hh => ?_
 obtain ⟨c0, k0, e0⟩ := h0 a g hh
 obtain rfl := k0
 refine ⟨.agg #[.int .i64 v0, .int .i64 0, .int .i64 0, .int .i64 0, .int .i64 0, .int .i64 0, .float .f64 0, .int .i64 0, .string ByteArray.empty, .slice none 0 0], ?_, [.int .i64 v0, .int .i64 0, .int .i64 0, .int .i64 0, .int .i64 0, .int .i64 0, .float .f64 0, .int .i64 0, .string ByteArray.empty, .slice none 0 0], ⟨rfl, (List.forall_mem_cons.2 ⟨rfl, (List.forall_mem_cons.2 ⟨(rfl), (List.forall_mem_cons.2 ⟨(Zch _), (fun _ h => by cases h)⟩)⟩)⟩)⟩, rfl⟩
 simp only [List.map_toArray, List.map_cons, List.map_nil, e0]
 exact Zcl Tryz.underlying58 (zero := .agg #[.int .i64 0, .int .i64 0, .int .i64 0, .int .i64 0, .int .i64 0, .int .i64 0, .float .f64 0, .int .i64 0, .string ByteArray.empty, .slice none 0 0]) (by kernel_rfl) (places := [(0, 1), (1, 1), (2, 8)]) (by kernel_rfl) (by kernel_rfl) g.w
theorem Zcg : Ty Tryz.prog 58 Zt := ⟨by kernel_rfl, by kernel_rfl⟩
theorem Z5x : Zl Tryz.prog 49 := by
 unfold Zl
 kernel_rfl
theorem Zt5 : Zl Tryz.prog 50 := by
 unfold Zl
 kernel_rfl
theorem Z2f {N d : Nat} {o : Oper} {uses : Zbc}   (hop : o.op = .build 58 #[]) (hd : o.dst = some d)  : OB Tryz.prog N o uses [(d, Zt.pd { Code := (0 : Int), Num := (0 : Int), Rec := (default : Zd) })] [] := by
 refine Zc3 hop hd fun a g hh => ?_
 refine ⟨.agg #[.int .i64 0, .int .i64 0, .int .i64 0, .int .i64 0, .int .i64 0, .int .i64 0, .float .f64 0, .int .i64 0, .string ByteArray.empty, .slice none 0 0], ?_, [.int .i64 0, .int .i64 0, .int .i64 0, .int .i64 0, .int .i64 0, .int .i64 0, .float .f64 0, .int .i64 0, .string ByteArray.empty, .slice none 0 0], ⟨rfl, (List.forall_mem_cons.2 ⟨(rfl), (List.forall_mem_cons.2 ⟨(rfl), (List.forall_mem_cons.2 ⟨(Zch _), (fun _ h => by cases h)⟩)⟩)⟩)⟩, rfl⟩
 simp only [List.map_toArray, List.map_cons, List.map_nil, List.map_nil]
 exact Zcl Tryz.underlying58 (zero := .agg #[.int .i64 0, .int .i64 0, .int .i64 0, .int .i64 0, .int .i64 0, .int .i64 0, .float .f64 0, .int .i64 0, .string ByteArray.empty, .slice none 0 0]) (by kernel_rfl) (places := [(0, 1), (1, 1), (2, 8)]) (by kernel_rfl) (by kernel_rfl) g.w
theorem Z6w {N d : Nat} {o : Oper} {uses : Zbc} {x1 : Operand} {v1 : Int} (hop : o.op = .build 58 #[(1, x1)]) (hd : o.dst = some d) (h1 : Opd uses x1 ((Kd.int .i64).pd v1)) : OB Tryz.prog N o uses [(d, Zt.pd { Code := (0 : Int), Num := v1, Rec := (default : Zd) })] [] := by
 refine Zc3 hop hd fun a g hh => ?_
 obtain ⟨c1, k1, e1⟩ := h1 a g hh
 obtain rfl := k1
 refine ⟨.agg #[.int .i64 0, .int .i64 v1, .int .i64 0, .int .i64 0, .int .i64 0, .int .i64 0, .float .f64 0, .int .i64 0, .string ByteArray.empty, .slice none 0 0], ?_, [.int .i64 0, .int .i64 v1, .int .i64 0, .int .i64 0, .int .i64 0, .int .i64 0, .float .f64 0, .int .i64 0, .string ByteArray.empty, .slice none 0 0], ⟨rfl, (List.forall_mem_cons.2 ⟨(rfl), (List.forall_mem_cons.2 ⟨rfl, (List.forall_mem_cons.2 ⟨(Zch _), (fun _ h => by cases h)⟩)⟩)⟩)⟩, rfl⟩
 simp only [List.map_toArray, List.map_cons, List.map_nil, e1]
 exact Zcl Tryz.underlying58 (zero := .agg #[.int .i64 0, .int .i64 0, .int .i64 0, .int .i64 0, .int .i64 0, .int .i64 0, .float .f64 0, .int .i64 0, .string ByteArray.empty, .slice none 0 0]) (by kernel_rfl) (places := [(0, 1), (1, 1), (2, 8)]) (by kernel_rfl) (by kernel_rfl) g.w
theorem Z7c {N d : Nat} {o : Oper} {uses : Zbc} {x2 : Operand} {v2 : Zd} (hop : o.op = .build 58 #[(2, x2)]) (hd : o.dst = some d) (h2 : Opd uses x2 (Zj.pd v2)) : OB Tryz.prog N o uses [(d, Zt.pd { Code := (0 : Int), Num := (0 : Int), Rec := v2 })] [] := by
 refine Zc3 hop hd fun a g hh => ?_
 obtain ⟨c2, k2, e2⟩ := h2 a g hh
 obtain ⟨u2_0, u2_1, u2_2, u2_3, u2_4, u2_5, u2_6, u2_7, rfl⟩ := Zws (Zj.len k2)
 refine ⟨.agg #[.int .i64 0, .int .i64 0, u2_0, u2_1, u2_2, u2_3, u2_4, u2_5, u2_6, u2_7], ?_, [.int .i64 0, .int .i64 0, u2_0, u2_1, u2_2, u2_3, u2_4, u2_5, u2_6, u2_7], ⟨rfl, (List.forall_mem_cons.2 ⟨(rfl), (List.forall_mem_cons.2 ⟨(rfl), (List.forall_mem_cons.2 ⟨k2, (fun _ h => by cases h)⟩)⟩)⟩)⟩, rfl⟩
 simp only [List.map_toArray, List.map_cons, List.map_nil, e2]
 exact Zcl Tryz.underlying58 (zero := .agg #[.int .i64 0, .int .i64 0, .int .i64 0, .int .i64 0, .int .i64 0, .int .i64 0, .float .f64 0, .int .i64 0, .string ByteArray.empty, .slice none 0 0]) (by kernel_rfl) (places := [(0, 1), (1, 1), (2, 8)]) (by kernel_rfl) (by kernel_rfl) g.w
theorem Z1n : Zl Tryz.prog 51 := by
 unfold Zl
 kernel_rfl
theorem Zbbi : Zl Tryz.prog 52 := by
 unfold Zl
 kernel_rfl
theorem Zwy : Zl Tryz.prog 53 := by
 unfold Zl
 kernel_rfl
theorem Z93 : Zl Tryz.prog 91 := by
 unfold Zl
 kernel_rfl
theorem Z9o : Zl Tryz.prog 32 := by
 unfold Zl
 kernel_rfl
theorem Zmh : Fld Tryz.prog 58 0 Zt (Kd.int .i64) (fun x : Zh => x.Code) := Fld.of ⟨_, (Kd.int .i64), 0, fun x : Zh => x.Code⟩ (List.mem_of_getElem? (i := 0) rfl) 0 rfl (by kernel_rfl) (by decide)
theorem Zlw : Ty Tryz.prog 42 (Kd.int .i64) := ⟨by kernel_rfl, by kernel_rfl⟩
theorem Z1f : Zl Tryz.prog 33 := by
 unfold Zl
 kernel_rfl
theorem Zba8 : Zl Tryz.prog 34 := by
 unfold Zl
 kernel_rfl
theorem Z5h : Zl Tryz.prog 17 := by
 unfold Zl
 kernel_rfl
theorem Zhd : Fld Tryz.prog 25 0 Zcf Z2.sl (fun x : Zbk => x.Acts) := Fld.of ⟨_, Z2.sl, 0, fun x : Zbk => x.Acts⟩ (List.mem_of_getElem? (i := 0) rfl) 0 rfl (by kernel_rfl) (by decide)
theorem Zj4 : Ty Tryz.prog 23 Z2.sl := ⟨by kernel_rfl, by kernel_rfl⟩
theorem Zml : (Tryz.prog.info? 54).map (·.size) = some Z2.sz := by kernel_rfl
theorem Z0b : Fld Tryz.prog 54 6 Z2 Kd.bool (fun x : Zm => x.Must) := Fld.of ⟨_, Kd.bool, 13, fun x : Zm => x.Must⟩ (List.mem_of_getElem? (i := 6) rfl) 13 rfl (by kernel_rfl) (by decide)
theorem Z14 {N d : Nat} {o : Oper} {uses : Zbc} {x0 : Operand} {x1 : Operand} {v0 : Int} {v1 : Int} (hop : o.op = .build 81 #[(0, x0), (1, x1)]) (hd : o.dst = some d) (h0 : Opd uses x0 ((Kd.int .i64).pd v0)) (h1 : Opd uses x1 ((Kd.int .i64).pd v1)) : OB Tryz.prog N o uses [(d, Ze3.pd { code := v0, at_ := v1 })] [] := by
 refine Zc3 hop hd fun a g hh => ?_
 obtain ⟨c0, k0, e0⟩ := h0 a g hh
 obtain rfl := k0
 obtain ⟨c1, k1, e1⟩ := h1 a g hh
 obtain rfl := k1
 refine ⟨.agg #[.int .i64 v0, .int .i64 v1], ?_, [.int .i64 v0, .int .i64 v1], ⟨rfl, (List.forall_mem_cons.2 ⟨rfl, (List.forall_mem_cons.2 ⟨rfl, (fun _ h => by cases h)⟩)⟩)⟩, rfl⟩
 simp only [List.map_toArray, List.map_cons, List.map_nil, e0, e1]
 exact Zcl Tryz.underlying81 (zero := .agg #[.int .i64 0, .int .i64 0]) (by kernel_rfl) (places := [(0, 1), (1, 1)]) (by kernel_rfl) (by kernel_rfl) g.w
structure Zgz where
 Code : Int
 At : Int
 Answers : SlV
def Zto : List (Kd.FK Zgz) := [⟨_, (Kd.int .i64), 0, fun x : Zgz => x.Code⟩,
 ⟨_, (Kd.int .i64), 1, fun x : Zgz => x.At⟩,
 ⟨_, Kd.raw, 2, fun x : Zgz => x.Answers⟩]
def Zc8 : Kd Zgz := Kd.struct 3 Zto (by rfl)
def Zdy (x : Z7) (s : SlV) : Zgz := ⟨x.Code, x.At, s⟩
theorem Zt6 : ∀ g, Zc8.K g (Zdy ((default : Z7)) (none, 0, 0)) [.int .i64 0, .int .i64 0, .slice none 0 0] := fun g => ⟨rfl, (List.forall_mem_cons.2 ⟨(rfl), (List.forall_mem_cons.2 ⟨(rfl), (List.forall_mem_cons.2 ⟨rfl, (fun _ h => by cases h)⟩)⟩)⟩)⟩
theorem Ztj {x : Z7} {e j : Nat} : ∀ (g : G) (s : SlV) (cs : List Value), Zc8.K g (Zdy x s) cs → (hpL (pRow Zt e j x.Answers)).p g s → Zck.K g x cs := fun g s cs h hr => ⟨h.1, (List.forall_mem_cons.2 ⟨(h.2 _ (List.mem_of_getElem? (i := 0) rfl)), (List.forall_mem_cons.2 ⟨(h.2 _ (List.mem_of_getElem? (i := 1) rfl)), (List.forall_mem_cons.2 ⟨(Z8c (h.2 _ (List.mem_of_getElem? (i := 2) rfl)) hr.1), (fun _ h => by cases h)⟩)⟩)⟩)⟩
theorem Zt9 {x : Z7} {g : G} {cs ys : List Value} {s0 s1 : SlV} (hk : Zc8.K g (Zdy x s0) cs) (hy : Kd.raw.K g s1 ys) : 2 + ys.length ≤ cs.length ∧ Zc8.K g (Zdy x s1) (Zbv cs 2 ys) := by
 have hc : cs.length = 3 := hk.1
 have hl : ys.length = 1 := Kd.raw.len hy
 exact ⟨by omega, (Zgd (by omega)).trans hc, (List.forall_mem_cons.2 ⟨(by show (Kd.int .i64).K g x.Code (seg (Zbv cs 2 ys) 0 1); rw [Zbq (by omega) (by omega)]; exact hk.2 _ (List.mem_of_getElem? (i := 0) rfl)), (List.forall_mem_cons.2 ⟨(by show (Kd.int .i64).K g x.At (seg (Zbv cs 2 ys) 1 1); rw [Zbq (by omega) (by omega)]; exact hk.2 _ (List.mem_of_getElem? (i := 1) rfl)), (List.forall_mem_cons.2 ⟨(by show Kd.raw.K g s1 (seg (Zbv cs 2 ys) 2 1); rw [Zg8 (by omega) hl]; exact hy), (fun _ h => by cases h)⟩)⟩)⟩)⟩
theorem Zsq : Fld Tryz.prog 45 2 Zc8 Kd.raw (fun x : Zgz => x.Answers) := Fld.of ⟨_, Kd.raw, 2, fun x : Zgz => x.Answers⟩ (List.mem_of_getElem? (i := 2) rfl) 2 rfl (by kernel_rfl) (by decide)
theorem Zyg : Ty Tryz.prog 43 Kd.raw := ⟨by kernel_rfl, by kernel_rfl⟩
theorem Zht : Ty Tryz.prog 25 Zcf := ⟨by kernel_rfl, by kernel_rfl⟩
theorem Z9r : Zl Tryz.prog 28 := by
 unfold Zl
 kernel_rfl
theorem Zq1 {N d : Nat} {o : Oper} {uses : Zbc} {x0 : Operand} {x1 : Operand} {v0 : Int} {v1 : Int} (hop : o.op = .build 45 #[(0, x0), (1, x1)]) (hd : o.dst = some d) (h0 : Opd uses x0 ((Kd.int .i64).pd v0)) (h1 : Opd uses x1 ((Kd.int .i64).pd v1)) : OB Tryz.prog N o uses [(d, Zck.pd { Code := v0, At := v1, Answers := ([] : List Zh) })] [] := by
 refine Zc3 hop hd fun a g hh => ?_
 obtain ⟨c0, k0, e0⟩ := h0 a g hh
 obtain rfl := k0
 obtain ⟨c1, k1, e1⟩ := h1 a g hh
 obtain rfl := k1
 refine ⟨.agg #[.int .i64 v0, .int .i64 v1, .slice none 0 0], ?_, [.int .i64 v0, .int .i64 v1, .slice none 0 0], ⟨rfl, (List.forall_mem_cons.2 ⟨rfl, (List.forall_mem_cons.2 ⟨rfl, (List.forall_mem_cons.2 ⟨(⟨none, 0, rfl, Nat.le_refl _, Nat.zero_le _, .inl rfl⟩), (fun _ h => by cases h)⟩)⟩)⟩)⟩, rfl⟩
 simp only [List.map_toArray, List.map_cons, List.map_nil, e0, e1]
 exact Zcl Tryz.underlying45 (zero := .agg #[.int .i64 0, .int .i64 0, .slice none 0 0]) (by kernel_rfl) (places := [(0, 1), (1, 1), (2, 1)]) (by kernel_rfl) (by kernel_rfl) g.w
theorem Zja : Ty Tryz.prog 45 Zck := ⟨by kernel_rfl, by kernel_rfl⟩
theorem Z6j : Fld Tryz.prog 81 0 Ze3 (Kd.int .i64) (fun x : Zdk => x.code) := Fld.of ⟨_, (Kd.int .i64), 0, fun x : Zdk => x.code⟩ (List.mem_of_getElem? (i := 0) rfl) 0 rfl (by kernel_rfl) (by decide)
theorem Z71 : Fld Tryz.prog 81 1 Ze3 (Kd.int .i64) (fun x : Zdk => x.at_) := Fld.of ⟨_, (Kd.int .i64), 1, fun x : Zdk => x.at_⟩ (List.mem_of_getElem? (i := 1) rfl) 1 rfl (by kernel_rfl) (by decide)
theorem Zba7 : Ty Tryz.prog 81 Ze3 := ⟨by kernel_rfl, by kernel_rfl⟩
theorem Z6b : Zl Tryz.prog 14 := by
 unfold Zl
 kernel_rfl
theorem Z0t : Ty Tryz.prog 43 Zt.sl := ⟨by kernel_rfl, by kernel_rfl⟩
theorem Z59 : Zl Tryz.prog 30 := by
 unfold Zl
 kernel_rfl
theorem Z5n : TE Tryz.prog 43 58 Zt 104 := TE.of Tryz.underlying43 (by kernel_rfl) (by decide) (by decide)
theorem Z5i : Zl Tryz.prog 29 := by
 unfold Zl
 kernel_rfl
theorem Zla : (Tryz.prog.info? 25).map (·.size) = some Zcf.sz := by kernel_rfl
theorem Z5z : Zl Tryz.prog 13 := by
 unfold Zl
 kernel_rfl
theorem Z54 : TE Tryz.prog 37 45 Zck 40 := TE.of Tryz.underlying37 (by kernel_rfl) (by decide) (by decide)
theorem Z5y : (Tryz.prog.info? 58).map (·.size) = some Zt.sz := by kernel_rfl
theorem Z0h : Fld Tryz.prog 58 1 Zt (Kd.int .i64) (fun x : Zh => x.Num) := Fld.of ⟨_, (Kd.int .i64), 1, fun x : Zh => x.Num⟩ (List.mem_of_getElem? (i := 1) rfl) 1 rfl (by kernel_rfl) (by decide)
theorem Zuw : Fld Tryz.prog 45 0 Zck (Kd.int .i64) (fun x : Z7 => x.Code) := Fld.of ⟨_, (Kd.int .i64), 0, fun x : Z7 => x.Code⟩ (List.mem_of_getElem? (i := 0) rfl) 0 rfl (by kernel_rfl) (by decide)
theorem Zvb : Fld Tryz.prog 45 1 Zck (Kd.int .i64) (fun x : Z7 => x.At) := Fld.of ⟨_, (Kd.int .i64), 1, fun x : Z7 => x.At⟩ (List.mem_of_getElem? (i := 1) rfl) 1 rfl (by kernel_rfl) (by decide)
theorem Zu7 : Fld Tryz.prog 45 2 Zck Zt.sl (fun x : Z7 => x.Answers) := Fld.of ⟨_, Zt.sl, 2, fun x : Z7 => x.Answers⟩ (List.mem_of_getElem? (i := 2) rfl) 2 rfl (by kernel_rfl) (by decide)
theorem Z98 : Zl Tryz.prog 27 := by
 unfold Zl
 kernel_rfl
theorem Z90 : Zl Tryz.prog 26 := by
 unfold Zl
 kernel_rfl
theorem Z8s {N d : Nat} {o : Oper} {uses : Zbc}   (hop : o.op = .build 30 #[]) (hd : o.dst = some d)  : OB Tryz.prog N o uses [(d, Z1.pd { top := shelf_nodeT.nil, room := (0 : Int) })] [] := by
 refine Zc3 hop hd fun a g hh => ?_
 refine ⟨.agg #[.pointer none, .int .i64 0], ?_, [.pointer none, .int .i64 0], ⟨rfl, (List.forall_mem_cons.2 ⟨(Zkz _), (List.forall_mem_cons.2 ⟨(rfl), (fun _ h => by cases h)⟩)⟩)⟩, rfl⟩
 simp only [List.map_toArray, List.map_cons, List.map_nil, List.map_nil]
 exact Zcl Tryz.underlying30 (zero := .agg #[.pointer none, .int .i64 0]) (by kernel_rfl) (places := [(0, 1), (1, 1)]) (by kernel_rfl) (by kernel_rfl) g.w
theorem Z6u {N d : Nat} {o : Oper} {uses : Zbc} {x1 : Operand} {v1 : Int} (hop : o.op = .build 30 #[(1, x1)]) (hd : o.dst = some d) (h1 : Opd uses x1 ((Kd.int .i64).pd v1)) : OB Tryz.prog N o uses [(d, Z1.pd { top := shelf_nodeT.nil, room := v1 })] [] := by
 refine Zc3 hop hd fun a g hh => ?_
 obtain ⟨c1, k1, e1⟩ := h1 a g hh
 obtain rfl := k1
 refine ⟨.agg #[.pointer none, .int .i64 v1], ?_, [.pointer none, .int .i64 v1], ⟨rfl, (List.forall_mem_cons.2 ⟨(Zkz _), (List.forall_mem_cons.2 ⟨rfl, (fun _ h => by cases h)⟩)⟩)⟩, rfl⟩
 simp only [List.map_toArray, List.map_cons, List.map_nil, e1]
 exact Zcl Tryz.underlying30 (zero := .agg #[.pointer none, .int .i64 0]) (by kernel_rfl) (places := [(0, 1), (1, 1)]) (by kernel_rfl) (by kernel_rfl) g.w
theorem Z5m : Zl Tryz.prog 12 := by
 unfold Zl
 kernel_rfl
theorem Z2j {N d : Nat} {o : Oper} {uses : Zbc} {x0 : Operand} {x3 : Operand} {v0 : Int} {v3 : Int} (hop : o.op = .build 52 #[(0, x0), (3, x3)]) (hd : o.dst = some d) (h0 : Opd uses x0 ((Kd.int .i64).pd v0)) (h3 : Opd uses x3 ((Kd.int .i64).pd v3)) : OB Tryz.prog N o uses [(d, Zj.pd { Kind := v0, Num := (0 : Int), Low := (0 : Int), High := v3, Real := (0 : Nat), Cap := (0 : Int), Text := ByteArray.empty, List := ([] : List Zi) })] [] := by
 refine Zc3 hop hd fun a g hh => ?_
 obtain ⟨c0, k0, e0⟩ := h0 a g hh
 obtain rfl := k0
 obtain ⟨c3, k3, e3⟩ := h3 a g hh
 obtain rfl := k3
 refine ⟨.agg #[.int .i64 v0, .int .i64 0, .int .i64 0, .int .i64 v3, .float .f64 0, .int .i64 0, .string ByteArray.empty, .slice none 0 0], ?_, [.int .i64 v0, .int .i64 0, .int .i64 0, .int .i64 v3, .float .f64 0, .int .i64 0, .string ByteArray.empty, .slice none 0 0], ⟨rfl, (List.forall_mem_cons.2 ⟨rfl, (List.forall_mem_cons.2 ⟨(rfl), (List.forall_mem_cons.2 ⟨(rfl), (List.forall_mem_cons.2 ⟨rfl, (List.forall_mem_cons.2 ⟨(rfl), (List.forall_mem_cons.2 ⟨(rfl), (List.forall_mem_cons.2 ⟨(rfl), (List.forall_mem_cons.2 ⟨(⟨none, 0, rfl, Nat.le_refl _, Nat.zero_le _, .inl rfl⟩), (fun _ h => by cases h)⟩)⟩)⟩)⟩)⟩)⟩)⟩)⟩)⟩, rfl⟩
 simp only [List.map_toArray, List.map_cons, List.map_nil, e0, e3]
 exact Zcl Tryz.underlying52 (zero := .agg #[.int .i64 0, .int .i64 0, .int .i64 0, .int .i64 0, .float .f64 0, .int .i64 0, .string ByteArray.empty, .slice none 0 0]) (by kernel_rfl) (places := [(0, 1), (1, 1), (2, 1), (3, 1), (4, 1), (5, 1), (6, 1), (7, 1)]) (by kernel_rfl) (by kernel_rfl) g.w
theorem Zzg {N d : Nat} {o : Oper} {uses : Zbc} {x0 : Operand} {x1 : Operand} {x5 : Operand} {v0 : Int} {v1 : ByteArray} {v5 : Zd} (hop : o.op = .build 54 #[(0, x0), (1, x1), (5, x5)]) (hd : o.dst = some d) (h0 : Opd uses x0 ((Kd.int .i64).pd v0)) (h1 : Opd uses x1 (Kd.str.pd v1)) (h5 : Opd uses x5 (Zj.pd v5)) : OB Tryz.prog N o uses [(d, Z2.pd { Kind := v0, Key := v1, N := (0 : Int), X := (0 : Nat), S := ByteArray.empty, Make := v5, Must := false })] [] := by
 refine Zc3 hop hd fun a g hh => ?_
 obtain ⟨c0, k0, e0⟩ := h0 a g hh
 obtain rfl := k0
 obtain ⟨c1, k1, e1⟩ := h1 a g hh
 obtain rfl := k1
 obtain ⟨c5, k5, e5⟩ := h5 a g hh
 obtain ⟨u5_0, u5_1, u5_2, u5_3, u5_4, u5_5, u5_6, u5_7, rfl⟩ := Zws (Zj.len k5)
 refine ⟨.agg #[.int .i64 v0, .string v1, .int .i64 0, .float .f64 0, .string ByteArray.empty, u5_0, u5_1, u5_2, u5_3, u5_4, u5_5, u5_6, u5_7, .bool false], ?_, [.int .i64 v0, .string v1, .int .i64 0, .float .f64 0, .string ByteArray.empty, u5_0, u5_1, u5_2, u5_3, u5_4, u5_5, u5_6, u5_7, .bool false], ⟨rfl, (List.forall_mem_cons.2 ⟨rfl, (List.forall_mem_cons.2 ⟨rfl, (List.forall_mem_cons.2 ⟨(rfl), (List.forall_mem_cons.2 ⟨(rfl), (List.forall_mem_cons.2 ⟨(rfl), (List.forall_mem_cons.2 ⟨k5, (List.forall_mem_cons.2 ⟨(rfl), (fun _ h => by cases h)⟩)⟩)⟩)⟩)⟩)⟩)⟩)⟩, rfl⟩
 simp only [List.map_toArray, List.map_cons, List.map_nil, e0, e1, e5]
 exact Zcl Tryz.underlying54 (zero := .agg #[.int .i64 0, .string ByteArray.empty, .int .i64 0, .float .f64 0, .string ByteArray.empty, .int .i64 0, .int .i64 0, .int .i64 0, .int .i64 0, .float .f64 0, .int .i64 0, .string ByteArray.empty, .slice none 0 0, .bool false]) (by kernel_rfl) (places := [(0, 1), (1, 1), (2, 1), (3, 1), (4, 1), (5, 8), (13, 1)]) (by kernel_rfl) (by kernel_rfl) g.w
theorem Zwg {N d : Nat} {o : Oper} {uses : Zbc} {x0 : Operand} {x1 : Operand} {x2 : Operand} {x6 : Operand} {v0 : Int} {v1 : ByteArray} {v2 : Int} {v6 : Bool} (hop : o.op = .build 54 #[(0, x0), (1, x1), (2, x2), (6, x6)]) (hd : o.dst = some d) (h0 : Opd uses x0 ((Kd.int .i64).pd v0)) (h1 : Opd uses x1 (Kd.str.pd v1)) (h2 : Opd uses x2 ((Kd.int .i64).pd v2)) (h6 : Opd uses x6 (Kd.bool.pd v6)) : OB Tryz.prog N o uses [(d, Z2.pd { Kind := v0, Key := v1, N := v2, X := (0 : Nat), S := ByteArray.empty, Make := (default : Zd), Must := v6 })] [] := by
 refine Zc3 hop hd fun a g hh => ?_
 obtain ⟨c0, k0, e0⟩ := h0 a g hh
 obtain rfl := k0
 obtain ⟨c1, k1, e1⟩ := h1 a g hh
 obtain rfl := k1
 obtain ⟨c2, k2, e2⟩ := h2 a g hh
 obtain rfl := k2
 obtain ⟨c6, k6, e6⟩ := h6 a g hh
 obtain rfl := k6
 refine ⟨.agg #[.int .i64 v0, .string v1, .int .i64 v2, .float .f64 0, .string ByteArray.empty, .int .i64 0, .int .i64 0, .int .i64 0, .int .i64 0, .float .f64 0, .int .i64 0, .string ByteArray.empty, .slice none 0 0, .bool v6], ?_, [.int .i64 v0, .string v1, .int .i64 v2, .float .f64 0, .string ByteArray.empty, .int .i64 0, .int .i64 0, .int .i64 0, .int .i64 0, .float .f64 0, .int .i64 0, .string ByteArray.empty, .slice none 0 0, .bool v6], ⟨rfl, (List.forall_mem_cons.2 ⟨rfl, (List.forall_mem_cons.2 ⟨rfl, (List.forall_mem_cons.2 ⟨rfl, (List.forall_mem_cons.2 ⟨(rfl), (List.forall_mem_cons.2 ⟨(rfl), (List.forall_mem_cons.2 ⟨(Zch _), (List.forall_mem_cons.2 ⟨rfl, (fun _ h => by cases h)⟩)⟩)⟩)⟩)⟩)⟩)⟩)⟩, rfl⟩
 simp only [List.map_toArray, List.map_cons, List.map_nil, e0, e1, e2, e6]
 exact Zcl Tryz.underlying54 (zero := .agg #[.int .i64 0, .string ByteArray.empty, .int .i64 0, .float .f64 0, .string ByteArray.empty, .int .i64 0, .int .i64 0, .int .i64 0, .int .i64 0, .float .f64 0, .int .i64 0, .string ByteArray.empty, .slice none 0 0, .bool false]) (by kernel_rfl) (places := [(0, 1), (1, 1), (2, 1), (3, 1), (4, 1), (5, 8), (13, 1)]) (by kernel_rfl) (by kernel_rfl) g.w
theorem Z0w : TE Tryz.prog 23 54 Z2 152 := TE.of Tryz.underlying23 (by kernel_rfl) (by decide) (by decide)
theorem Zu3 {N d : Nat} {o : Oper} {uses : Zbc} {x0 : Operand} {v0 : List Zm} (hop : o.op = .build 25 #[(0, x0)]) (hd : o.dst = some d) (h0 : Opd uses x0 (Z2.sl.pd v0)) : OB Tryz.prog N o uses [(d, Zcf.pd { Acts := v0 })] [] := by
 refine Zc3 hop hd fun a g hh => ?_
 obtain ⟨c0, k0, e0⟩ := h0 a g hh
 obtain ⟨A0, n0, rfl, l0⟩ := k0
 refine ⟨.agg #[.slice A0 v0.length n0], ?_, [.slice A0 v0.length n0], ⟨rfl, (List.forall_mem_cons.2 ⟨⟨A0, n0, rfl, l0⟩, (fun _ h => by cases h)⟩)⟩, rfl⟩
 simp only [List.map_toArray, List.map_cons, List.map_nil, e0]
 exact Zcl Tryz.underlying25 (zero := .agg #[.slice none 0 0]) (by kernel_rfl) (places := [(0, 1)]) (by kernel_rfl) (by kernel_rfl) g.w
theorem Z1v : TE Tryz.prog 35 25 Zcf 24 := TE.of Tryz.underlying35 (by kernel_rfl) (by decide) (by decide)
theorem en_9 : Zl Tryz.prog 9 := by
 unfold Zl
 kernel_rfl
theorem Z1j : Zl Tryz.prog 11 := by
 unfold Zl
 kernel_rfl
theorem Zpz : (Tryz.prog.info? 45).map (·.size) = some Zck.sz := by kernel_rfl
theorem Z09 : Zl Tryz.prog 97 := by
 unfold Zl
 kernel_rfl
theorem Z3a : Zl Tryz.prog 114 := by
 unfold Zl
 kernel_rfl
theorem Zxg : Zl Tryz.prog 110 := by
 unfold Zl
 kernel_rfl
theorem Z3z : Zl Tryz.prog 109 := by
 unfold Zl
 kernel_rfl
theorem Z5p : Zl Tryz.prog 96 := by
 unfold Zl
 kernel_rfl
theorem Z83 : TE Tryz.prog 143 9 Kd.str 16 := TE.of Tryz.underlying143 (by kernel_rfl) (by decide) (by decide)
theorem sz_9 : (Tryz.prog.info? 9).map (·.size) = some Kd.str.sz := by kernel_rfl
theorem Z5j : Zl Tryz.prog 63 := by
 unfold Zl
 kernel_rfl
theorem Zba1 : Zl Tryz.prog 98 := by
 unfold Zl
 kernel_rfl
theorem Zbar : Zl Tryz.prog 62 := by
 unfold Zl
 kernel_rfl
theorem Zbap : Zl Tryz.prog 61 := by
 unfold Zl
 kernel_rfl
theorem Zba9 : Zl Tryz.prog 64 := by
 unfold Zl
 kernel_rfl
theorem Zme : Fld Tryz.prog 63 0 Zbw Zb0.sl (fun x : Zs => x.L) := Fld.of ⟨_, Zb0.sl, 0, fun x : Zs => x.L⟩ (List.mem_of_getElem? (i := 0) rfl) 0 rfl (by kernel_rfl) (by decide)
theorem Zpb : Ty Tryz.prog 22 Zb0.sl := ⟨by kernel_rfl, by kernel_rfl⟩
theorem Zt7 : (Tryz.prog.info? 65).map (·.size) = some Zb0.sz := by kernel_rfl
theorem Zo5 : Fld Tryz.prog 65 0 Zb0 Kd.str (fun x : Z6 => x.Key) := Fld.of ⟨_, Kd.str, 0, fun x : Z6 => x.Key⟩ (List.mem_of_getElem? (i := 0) rfl) 0 rfl (by kernel_rfl) (by decide)
theorem Zjd : Ty Tryz.prog 63 Zbw := ⟨by kernel_rfl, by kernel_rfl⟩
theorem Zbaw : Zl Tryz.prog 39 := by
 unfold Zl
 kernel_rfl
theorem Zbbl : Zl Tryz.prog 40 := by
 unfold Zl
 kernel_rfl
theorem Z0d : Fld Tryz.prog 63 1 Zbw (Kd.int .i64) (fun x : Zs => x.Room) := Fld.of ⟨_, (Kd.int .i64), 1, fun x : Zs => x.Room⟩ (List.mem_of_getElem? (i := 1) rfl) 1 rfl (by kernel_rfl) (by decide)
theorem Zt3 : TE Tryz.prog 22 65 Zb0 104 := TE.of Tryz.underlying22 (by kernel_rfl) (by decide) (by decide)
theorem Z2p {N d : Nat} {o : Oper} {uses : Zbc} {x0 : Operand} {x1 : Operand} {v0 : ByteArray} {v1 : Zd} (hop : o.op = .build 65 #[(0, x0), (1, x1)]) (hd : o.dst = some d) (h0 : Opd uses x0 (Kd.str.pd v0)) (h1 : Opd uses x1 (Zj.pd v1)) : OB Tryz.prog N o uses [(d, Zb0.pd { Key := v0, Rec := v1 })] [] := by
 refine Zc3 hop hd fun a g hh => ?_
 obtain ⟨c0, k0, e0⟩ := h0 a g hh
 obtain rfl := k0
 obtain ⟨c1, k1, e1⟩ := h1 a g hh
 obtain ⟨u1_0, u1_1, u1_2, u1_3, u1_4, u1_5, u1_6, u1_7, rfl⟩ := Zws (Zj.len k1)
 refine ⟨.agg #[.string v0, u1_0, u1_1, u1_2, u1_3, u1_4, u1_5, u1_6, u1_7], ?_, [.string v0, u1_0, u1_1, u1_2, u1_3, u1_4, u1_5, u1_6, u1_7], ⟨rfl, (List.forall_mem_cons.2 ⟨rfl, (List.forall_mem_cons.2 ⟨k1, (fun _ h => by cases h)⟩)⟩)⟩, rfl⟩
 simp only [List.map_toArray, List.map_cons, List.map_nil, e0, e1]
 exact Zcl Tryz.underlying65 (zero := .agg #[.string ByteArray.empty, .int .i64 0, .int .i64 0, .int .i64 0, .int .i64 0, .float .f64 0, .int .i64 0, .string ByteArray.empty, .slice none 0 0]) (by kernel_rfl) (places := [(0, 1), (1, 8)]) (by kernel_rfl) (by kernel_rfl) g.w
theorem Z3h {N d : Nat} {o : Oper} {uses : Zbc} {x0 : Operand} {x1 : Operand} {v0 : List Z6} {v1 : Int} (hop : o.op = .build 63 #[(0, x0), (1, x1)]) (hd : o.dst = some d) (h0 : Opd uses x0 (Zb0.sl.pd v0)) (h1 : Opd uses x1 ((Kd.int .i64).pd v1)) : OB Tryz.prog N o uses [(d, Zbw.pd { L := v0, Room := v1 })] [] := by
 refine Zc3 hop hd fun a g hh => ?_
 obtain ⟨c0, k0, e0⟩ := h0 a g hh
 obtain ⟨A0, n0, rfl, l0⟩ := k0
 obtain ⟨c1, k1, e1⟩ := h1 a g hh
 obtain rfl := k1
 refine ⟨.agg #[.slice A0 v0.length n0, .int .i64 v1], ?_, [.slice A0 v0.length n0, .int .i64 v1], ⟨rfl, (List.forall_mem_cons.2 ⟨⟨A0, n0, rfl, l0⟩, (List.forall_mem_cons.2 ⟨rfl, (fun _ h => by cases h)⟩)⟩)⟩, rfl⟩
 simp only [List.map_toArray, List.map_cons, List.map_nil, e0, e1]
 exact Zcl Tryz.underlying63 (zero := .agg #[.slice none 0 0, .int .i64 0]) (by kernel_rfl) (places := [(0, 1), (1, 1)]) (by kernel_rfl) (by kernel_rfl) g.w
theorem Z7a {N d : Nat} {o : Oper} {uses : Zbc} {x1 : Operand} {v1 : Int} (hop : o.op = .build 63 #[(1, x1)]) (hd : o.dst = some d) (h1 : Opd uses x1 ((Kd.int .i64).pd v1)) : OB Tryz.prog N o uses [(d, Zbw.pd { L := ([] : List Z6), Room := v1 })] [] := by
 refine Zc3 hop hd fun a g hh => ?_
 obtain ⟨c1, k1, e1⟩ := h1 a g hh
 obtain rfl := k1
 refine ⟨.agg #[.slice none 0 0, .int .i64 v1], ?_, [.slice none 0 0, .int .i64 v1], ⟨rfl, (List.forall_mem_cons.2 ⟨(⟨none, 0, rfl, Nat.le_refl _, Nat.zero_le _, .inl rfl⟩), (List.forall_mem_cons.2 ⟨rfl, (fun _ h => by cases h)⟩)⟩)⟩, rfl⟩
 simp only [List.map_toArray, List.map_cons, List.map_nil, e1]
 exact Zcl Tryz.underlying63 (zero := .agg #[.slice none 0 0, .int .i64 0]) (by kernel_rfl) (places := [(0, 1), (1, 1)]) (by kernel_rfl) (by kernel_rfl) g.w
theorem Z5w : Ty Tryz.prog 65 Zb0 := ⟨by kernel_rfl, by kernel_rfl⟩
theorem Zu0 : Fld Tryz.prog 65 1 Zb0 Zj (fun x : Z6 => x.Rec) := Fld.of ⟨_, Zj, 1, fun x : Z6 => x.Rec⟩ (List.mem_of_getElem? (i := 1) rfl) 1 rfl (by kernel_rfl) (by decide)
theorem Z6d : Zl Tryz.prog 16 := by
 unfold Zl
 kernel_rfl
theorem Zbaq : Zl Tryz.prog 18 := by
 unfold Zl
 kernel_rfl
theorem Zbas : Zl Tryz.prog 41 := by
 unfold Zl
 kernel_rfl
theorem Z9z : Zl Tryz.prog 19 := by
 unfold Zl
 kernel_rfl
theorem Z52 : Zl Tryz.prog 99 := by
 unfold Zl
 kernel_rfl
theorem Zbat : Zl Tryz.prog 65 := by
 unfold Zl
 kernel_rfl
theorem Z9x : Zl Tryz.prog 42 := by
 unfold Zl
 kernel_rfl
theorem Zbau : Zl Tryz.prog 66 := by
 unfold Zl
 kernel_rfl
theorem Zbal : Zl Tryz.prog 44 := by
 unfold Zl
 kernel_rfl
theorem Zbax : Zl Tryz.prog 43 := by
 unfold Zl
 kernel_rfl
theorem Zbba : Zl Tryz.prog 20 := by
 unfold Zl
 kernel_rfl
theorem Z56 : Zl Tryz.prog 21 := by
 unfold Zl
 kernel_rfl
theorem Z8r : TE Tryz.prog 150 3 (Kd.int .i64) 8 := TE.of Tryz.underlying150 (by kernel_rfl) (by decide) (by decide)
theorem sz_3 : (Tryz.prog.info? 3).map (·.size) = some (Kd.int .i64).sz := by kernel_rfl
theorem Z3c : Zl Tryz.prog 100 := by
 unfold Zl
 kernel_rfl
theorem Z2i : Zl Tryz.prog 101 := by
 unfold Zl
 kernel_rfl
theorem Zbbe : Zl Tryz.prog 67 := by
 unfold Zl
 kernel_rfl
theorem Z94 : Zl Tryz.prog 45 := by
 unfold Zl
 kernel_rfl
theorem Zba0 : Zl Tryz.prog 22 := by
 unfold Zl
 kernel_rfl
theorem Z57 : Zl Tryz.prog 23 := by
 unfold Zl
 kernel_rfl
theorem Z53 : Zl Tryz.prog 24 := by
 unfold Zl
 kernel_rfl
theorem en_4 : Zl Tryz.prog 4 := by
 unfold Zl
 kernel_rfl
theorem en_5 : Zl Tryz.prog 5 := by
 unfold Zl
 kernel_rfl
theorem en_6 : Zl Tryz.prog 6 := by
 unfold Zl
 kernel_rfl
theorem en_7 : Zl Tryz.prog 7 := by
 unfold Zl
 kernel_rfl
theorem en_8 : Zl Tryz.prog 8 := by
 unfold Zl
 kernel_rfl
theorem Z96 : Zl Tryz.prog 10 := by
 unfold Zl
 kernel_rfl
theorem Zdb (a0 : shelf_nodeT) {r : Int} (h : Zce a0 = some r) : FnOk Tryz.prog 35 [(Z4.pd a0)] (pInt .i64 r) := by
 have H0 := h
 unfold Zce at H0
 clear h
 refine Zbr (N := 9) Tryz.func35 rfl rfl (Nat.le_of_ble_eq_true rfl) rfl rfl (fun a g0 hst hb => ?_)
 refine r_s (T := [⟨[], _, [], [], [2]⟩]) (F := [.old 0]) hst hb Zb
   (o_p rfl (Zc rfl rfl c_i) <| o_n) (by kernel_rfl) (fun a g hst hb => ?_)
 refine wp_seq ?_
 refine r_s (T := [⟨[.old 0], _, [], [], [3]⟩, ⟨[.op 0 0], _, [], [0], [4]⟩]) (F := [.old 0, .op 1 0]) hst hb Zb
   (o_p rfl (Za rfl rfl u_0) <| o_p rfl (Zns Tryz.underlying28 rfl rfl u_0 (Zen _)) <| o_n) (by kernel_rfl) (fun a g hst hb => ?_)
 refine wp_cond_split (hst.bool 1 rfl) (fun hc1 => ?_) (fun hc1 => ?_)
 · replace H0 := Zy hc1 H0
   refine r_s (L := []) (T := [⟨[], _, [], [], [2]⟩]) (F := [.op 0 0]) (hst.pick [] rfl) hb Zb
     (o_p rfl (Zc rfl rfl c_i) <| o_n) (by kernel_rfl) (fun a g hst hb => ?_)
   refine wp_ret ?_
   refine Zp ?_
   obtain rfl := Option.some.inj H0
   exact Zx rfl hst hb (Zk (s := 2)) (hst.at 0 rfl)
 · replace H0 := Zz hc1 H0
   refine wp_skip ?_
   refine Zv ?_
   obtain ⟨n2, h3, H0⟩ := Zg H0
   refine r_s (L := [(0, _)]) (T := [⟨[.old 0], _, [], [], [5]⟩, ⟨[.op 0 0], _, [], [0], [6]⟩, ⟨[.op 1 0], _, [], [0, 1], [7]⟩, ⟨[.op 2 0], _, [], [0, 1, 2], [8]⟩, ⟨[.op 3 0], _, [], Lr 4, [2]⟩]) (F := [.op 4 0]) (hst.pick [0] rfl) hb Zb
     (o_p rfl (Za rfl rfl u_0) <| o_p rfl (Zq rfl rfl (Opd.imp u_0 (fun _ _ h => Zr h3 h)) (fun _ _ ⟨_, _, _, e, _⟩ => ⟨_, e⟩)) <| o_p rfl (Ze Z48 rfl rfl u_0) <| o_p rfl (Zf ty_3 rfl rfl u_0) <| o_p rfl (Zc rfl rfl u_0) <| o_n) (by kernel_rfl) (fun a g hst hb => ?_)
   refine wp_ret ?_
   obtain rfl := Option.some.inj H0
   exact Zx rfl hst hb (Zk (s := 2)) (hst.at 0 rfl)
theorem Zfk (a0 : Zn) {r : Int} (h : Zdt a0 = some r) : FnOk Tryz.prog 15 [(Z1.pd a0)] (pInt .i64 r) := by
 have H0 := h
 unfold Zdt at H0
 clear h
 refine Zbr (N := 6) Tryz.func15 rfl rfl (Nat.le_of_ble_eq_true rfl) rfl rfl (fun a g0 hst hb => ?_)
 refine r_s (T := [⟨[.old 0], _, [], [], [1]⟩, ⟨[], _, [], [], [2]⟩]) (F := [.op 0 0]) hst hb Zb
   (o_p rfl (Zbh rfl rfl u_0) <| o_p rfl (Zc rfl rfl c_i) <| o_n) (by kernel_rfl) (fun a g hst hb => ?_)
 obtain ⟨r1, h2, H0⟩ := Zg H0
 refine r_s (T := [⟨[.old 0], _, [], [], [3]⟩, ⟨[.op 0 0], _, [], [0], [4]⟩, ⟨[.op 1 0], _, [], [0, 1], [5]⟩, ⟨[.op 2 0], _, [], [0, 1, 2], [2]⟩]) (F := [.op 3 0]) hst hb Zb
   (o_p rfl (Ze Zoy rfl rfl u_0) <| o_p rfl (Zf Zcz rfl rfl u_0) <| o_p rfl (Zo Zmk (Zdb _ h2) rfl rfl (.cons u_0 .nil)) <| o_p rfl (Zc rfl rfl u_0) <| o_n) (by kernel_rfl) (fun a g hst hb => ?_)
 refine wp_ret ?_
 obtain rfl := Option.some.inj H0
 exact Zx rfl hst hb (Zk (s := 2)) (hst.at 0 rfl)
theorem Zk3 (a0 : (List Zi)) {r : (List Zi)} (h : Zby a0 = some r) : FnOk Tryz.prog 60 [(Z0.sl.pd a0)] (Z0.sl.pd r) := by
 unfold Zby at h
 obtain ⟨hsz, H0⟩ := Zk5 h
 obtain rfl := Option.some.inj H0
 refine Zbr (N := 8) Tryz.func60 rfl rfl (Nat.le_of_ble_eq_true rfl) rfl rfl (fun a g0 hst hb => ?_)
 refine wp_seq ?_
 refine Zo7 Zb (N := 8) (L := [(0, (Z0.sl.pd a0))]) (T := [⟨[], [(2, (Z0.sl.pd []))], [], [], [2]⟩]) (F := [.old 0]) (by kernel_rfl)
   (Zic (OT.plain rfl (Zc rfl rfl (Opd.c (fun g => Zlk g)))) Zoh) hst hb (fun a g hst hb => ?_)
 refine Zv ?_
 refine wp_seq ?_
 refine wp_seq ?_
 refine Zo7 Zb (N := 8) (L := [(0, (Z0.sl.pd a0))]) (T := [⟨[.old 0], [(3, (Z0.sl.pd a0))], [], [], [3]⟩, ⟨[.op 0 0], [(4, Z58 a0)], [], [0], [4]⟩]) (F := [.old 0, .op 1 0]) (by kernel_rfl)
   (Zic (OT.plain rfl (Za rfl rfl Opd.t0)) (Zic (OT.plain rfl (Zz8 Tryz.underlying50 rfl rfl Opd.t0)) Zoh)) hst hb (fun a g hst hb => ?_)
 refine Zv ?_
 obtain ⟨c, hc, hc'⟩ := hst.at 1 rfl
 refine wp_cond_split hc (fun ht => ?_) (fun hf => ?_)
 · obtain rfl := hc' ht
   refine wp_seq ?_
   refine Zo7 Zb (N := 8) (L := []) (T := [⟨[], [(2, (Z0.sl.pd []))], [], [], [2]⟩]) (F := [.op 0 0]) (by kernel_rfl)
     (Zic (OT.plain rfl (Zc rfl rfl (Opd.c (fun g => Zlk g)))) Zoh) (hst.pick [] rfl) hb (fun a g hst hb => ?_)
   refine Zv ?_
   refine wp_ret ?_
   refine Zp ?_
   exact Zx rfl hst hb (Zk (s := 2)) (hst.at 0 rfl)
 · refine wp_skip ?_
   refine Zv ?_
   refine wp_seq ?_
   have hsz' : (([] : (List Zi)).length + a0.length) * 24 ≤ 140737488355328 := by simpa using hsz
   refine Zo7 Zb (N := 8) (L := [(0, (Z0.sl.pd a0))]) (T := [⟨[], [(5, (pRow Z0 91 5 []))], [6], [], [5]⟩, ⟨[.old 0], [(6, (Z0.sl.pd a0))], [], [], [6]⟩, ⟨[.op 0 0, .op 1 0], [(7, (pRow Z0 91 5 ([] ++ a0)))], [6], [0, 1], [5, 7]⟩, ⟨[.op 2 0], [(2, (pRow Z0 91 5 ([] ++ a0)))], [], [0, 1, 2], [2]⟩]) (F := [.op 3 0]) (by kernel_rfl)
     (Zic (OT.plain rfl (Zvp 5 Zed (xs := []) .nil (by decide) rfl rfl)) (Zic (OT.plain rfl (Za rfl rfl Opd.t0)) (Zic (OT.plain rfl (Zlt Zed rfl rfl Opd.t0 (Opd.tl Opd.t0) hsz')) (Zic (OT.plain rfl (Zc rfl rfl Opd.t0)) Zoh)))) (hst.pick [0] rfl) hb (fun a g hst hb => ?_)
   refine Zv ?_
   refine wp_ret ?_
   exact Zx rfl hst hb (Zk (s := 2)) (Zqw (hst.at 0 rfl))
theorem Zex (a0 : (List Zi)) {r : (List Zi)} (h : Zby a0 = some r) : Zuo Tryz.prog 60 [(Z0.sl.pd a0)] Z0 91 r := by
 unfold Zby at h
 obtain ⟨hsz, H0⟩ := Zk5 h
 obtain rfl := Option.some.inj H0
 refine Z05 (N := 8) Tryz.func60 rfl rfl (Nat.le_of_ble_eq_true rfl) rfl (fun a g0 h0 hst hb => ?_)
 refine r_s (T := [⟨[], [(2, (Z0.sl.pd []))], [], [], [2]⟩]) (F := [.old 0]) hst hb Zb
   (o_p rfl (Zc rfl rfl (Opd.c (fun g => Zlk g))) <| o_n) (by kernel_rfl) (fun a g hst hb => ?_)
 refine wp_seq ?_
 refine r_s (T := [⟨[.old 0], _, [], [], [3]⟩, ⟨[.op 0 0], _, [], [0], [4]⟩]) (F := [.old 0, .op 1 0]) hst hb Zb
   (o_p rfl (Za rfl rfl u_0) <| o_p rfl (Zz8 Tryz.underlying50 rfl rfl u_0) <| o_n) (by kernel_rfl) (fun a g hst hb => ?_)
 obtain ⟨c, hc, hc'⟩ := hst.at 1 rfl
 refine wp_cond_split hc (fun ht => ?_) (fun hf => ?_)
 · obtain rfl := hc' ht
   refine r_s (L := []) (T := [⟨[], [(2, (pEq (.slice none 0 0)))], [], [], [2]⟩]) (F := [.op 0 0]) (hst.pick [] rfl) hb Zb
     (o_p rfl (Zc rfl rfl (Opd.c (fun g => rfl))) <| o_n) (by kernel_rfl) (fun a g hst hb => ?_)
   refine wp_ret ?_
   refine Zp ?_
   exact Zy4 rfl hst hb (Zk (s := 2)) ⟨none, hst.at 0 rfl⟩
 · refine wp_skip ?_
   refine Zv ?_
   refine r_s (L := [(0, _)]) (T := [⟨[], [(5, (pOwn Z0 91 5 (some 0) (([] : (List Zi)).map some)))], [6], [], [5]⟩, ⟨[.old 0], _, [], [], [6]⟩, ⟨[.op 0 0, .op 1 0], _, [6], [0, 1], [5, 7]⟩, ⟨[.op 2 0], _, [], [0, 1, 2], [2]⟩]) (F := [.op 3 0]) (hst.pick [0] rfl) hb Zb
     (o_p rfl (Z3d (ty := 0) Zed rfl rfl) <| o_p rfl (Za rfl rfl u_0) <| o_p rfl (Ztu Zed rfl rfl u_0 u_1 (by simpa using hsz)) <| o_p rfl (Zc rfl rfl u_0) <| o_n) (by kernel_rfl) (fun a g hst hb => ?_)
   refine wp_ret ?_
   exact Z45 rfl h0 hst hb (Zk (s := 2)) (hst.at 0 rfl)
theorem Zg4 (a0 : Zd) {r : Zd} (h : Zfc a0 = some r) : FnOk Tryz.prog 38 [(Zj.pd a0)] (Zj.pd r) := by
 have H0 := h
 unfold Zfc at H0
 clear h
 refine Zbr (N := 8) Tryz.func38 rfl rfl (Nat.le_of_ble_eq_true rfl) rfl rfl (fun a g0 hst hb => ?_)
 refine r_s (T := [⟨[.old 0], _, [2], [], [1]⟩, ⟨[], [(2, (pBox Zj 2 (default : Zd)))], [3], [], [2]⟩]) (F := [.op 0 0, .op 1 0]) hst hb Zb
   (o_p rfl (Zrv rfl rfl u_0) <| o_p rfl (Zbg (zs := [.int .i64 0, .int .i64 0, .int .i64 0, .int .i64 0, .float .f64 0, .int .i64 0, .string ByteArray.empty, .slice none 0 0]) (by kernel_rfl) (fun g => Zch g) rfl rfl) <| o_n) (by kernel_rfl) (fun a g hst hb => ?_)
 obtain ⟨r1, h2, H0⟩ := Zg H0
 refine r_s (T := [⟨[.old 0], _, [], [], [3]⟩, ⟨[.op 0 0], _, [], [0], [4]⟩, ⟨[.op 1 0], _, [], [0, 1], [5]⟩, ⟨[.old 0], _, [], [0, 1, 2], [6]⟩, ⟨[.op 2 0, .op 3 0, .old 0], _, [2], Lr 4, [1, 3, 6]⟩]) (F := [.op 4 0, .old 1]) hst hb Zb
   (o_p rfl (Zbe Zdh (off := 7) (by kernel_rfl) rfl rfl u_0) <| o_p rfl (Zcw Ze5 rfl rfl u_0) <| o_p rfl (Zo Zwu (Zk3 _ h2) rfl rfl (.cons u_0 .nil)) <| o_p rfl (Zbe Zdh (off := 7) (by kernel_rfl) rfl rfl u_0) <| o_p rfl (Zrp Ze5 rfl rfl u_2 u_1 u_0) <| o_n) (by kernel_rfl) (fun a g hst hb => ?_)
 refine r_s (T := [⟨[.old 0], _, [], [], [7]⟩, ⟨[.op 0 0, .old 1], _, [3], [0], [2]⟩]) (F := [.op 1 0]) hst hb Zb
   (o_p rfl (Zcp Zbn rfl rfl u_0) <| o_p rfl (Z8 Zbn rfl rfl u_1 u_0) <| o_n) (by kernel_rfl) (fun a g hst hb => ?_)
 refine wp_ret ?_
 obtain rfl := Option.some.inj H0
 obtain ⟨u0, hu0, hq0⟩ := Zbo (P := Tryz.prog) Zbn (hst.at 0 rfl)
 exact Zx rfl hst hb hu0 hq0
theorem Zka (a0 : Zn) (a1 : ByteArray) {r : Zd × Bool} (h : Zfa a0 a1 = some r) : FnOk Tryz.prog 31 [(Z1.pd a0), (pStr a1)] (pTup [(Zj.pd r.1), (Zba r.2)]) := by
 have H0 := h
 unfold Zfa at H0
 clear h
 refine Zbr (N := 39) Tryz.func31 rfl rfl (Nat.le_of_ble_eq_true rfl) rfl rfl (fun a g0 hst hb => ?_)
 refine r_s (T := [⟨[.old 0], _, [], [], [2]⟩, ⟨[], [(4, (pBox Zj 4 (default : Zd)))], [5], [], [4]⟩, ⟨[], _, [], [], [5]⟩]) (F := [.old 1, .op 0 0, .op 1 0]) hst hb Zb
   (o_p rfl (Zbh rfl rfl u_0) <| o_p rfl (Zbg (zs := [.int .i64 0, .int .i64 0, .int .i64 0, .int .i64 0, .float .f64 0, .int .i64 0, .string ByteArray.empty, .slice none 0 0]) (by kernel_rfl) (fun g => Zch g) rfl rfl) <| o_p rfl (Zc rfl rfl c_b) <| o_n) (by kernel_rfl) (fun a g hst hb => ?_)
 refine wp_seq ?_
 refine r_s (T := [⟨[.old 1], _, [], [], [7]⟩, ⟨[.op 0 0], _, [], [0], [8]⟩, ⟨[.op 1 0], _, [], [0, 1], [6]⟩]) (F := [.old 0, .old 2, .op 2 0]) hst hb Zb
   (o_p rfl (Ze Zoy rfl rfl u_0) <| o_p rfl (Zf Zcz rfl rfl u_0) <| o_p rfl (Zc rfl rfl u_0) <| o_n) (by kernel_rfl) (fun a g hst hb => ?_)
 obtain ⟨z12, hz1, H0⟩ := Zg H0
 refine Zcx (fun a w => ∃ (y11 : Zd) (g : G), w = g.w ∧ St 39 [(4, (pBox Zj 4 y11))] a g ∧ Base g0 g ∧ (.inr y11) = z12) ?_ ?_
 · rintro a w ⟨y11, g, rfl, hst, hb, rfl⟩
   refine Zv ?_
   refine r_s (T := [⟨[], _, [], [], [38]⟩, ⟨[.op 0 0, .old 0], _, [5], [0], [4]⟩, ⟨[], _, [], [0, 1], [5]⟩]) (F := [.op 1 0, .op 2 0]) hst hb Zb
     (o_p rfl (Zqp rfl rfl ) <| o_p rfl (Z8 Zbn rfl rfl u_1 u_0) <| o_p rfl (Zc rfl rfl c_b) <| o_n) (by kernel_rfl) (fun a g hst hb => ?_)
   refine wp_ret ?_
   obtain rfl := Option.some.inj H0
   obtain ⟨u0, hu0, hq0⟩ := Zbo (P := Tryz.prog) Zbn (hst.at 0 rfl)
   exact Ze2 rfl hst hb hu0 (Zk (s := 5)) (Zdj hq0 (hst.at 1 rfl))
 · refine wp_block ?_
   refine wp_loop_ghost (fun n a w => ∃ (x1 : Zd) (x2 : shelf_nodeT) (g : G), w = g.w ∧ St 39 [(1, (pStr a1)), (4, (pBox Zj 4 x1)), (6, (Z4.pd x2))] a g ∧ Base g0 g ∧ Zdu a1 n x1 x2 = some z12) (a0.top.hh + 1) ⟨(default : Zd), a0.top, g, rfl, (hst.pick [0, 1, 2] rfl), hb, hz1⟩ (fun n a w hI => ?_)
   obtain ⟨x1, x2, g, rfl, hst, hb, H1⟩ := hI
   cases n with
   | zero => exact absurd H1 (by simp [Zdu])
   | succ n =>
     rw [Zdu] at H1
     refine wp_seq ?_
     refine r_s (T := [⟨[.old 2], _, [], [], [9]⟩, ⟨[.op 0 0], _, [], [0], [10]⟩]) (F := [.old 0, .old 1, .old 2, .op 1 0]) hst hb Zb
       (o_p rfl (Za rfl rfl u_0) <| o_p rfl (Zyj Tryz.underlying28 rfl rfl u_0 (Zen _)) <| o_n) (by kernel_rfl) (fun a g hst hb => ?_)
     refine wp_cond_split (hst.bool 3 rfl) (fun hc3 => ?_) (fun hc3 => ?_)
     · replace H1 := Zy hc3 H1
       refine wp_skip ?_
       refine Zv ?_
       refine Zcx (fun a w => ∃ (j10 : shelf_nodeT) (g : G), w = g.w ∧ St 39 [(1, (pStr a1)), (4, (pBox Zj 4 x1)), (6, (Z4.pd j10))] a g ∧ Base g0 g ∧ Zg0 x1 (Zdu a1 n) j10 = some z12) ?_ ?_
       · rintro a w ⟨j10, g, rfl, hst, hb, H1⟩
         unfold Zg0 at H1
         exact ⟨n, Nat.lt_succ_self _, x1, j10, g, rfl, (hst.pick [0, 1, 2] rfl), hb, H1⟩
       · refine wp_block ?_
         refine wp_block ?_
         obtain ⟨n4, h5, H1⟩ := Zg H1
         refine r_s (L := [(1, _), (4, _), (6, _)]) (T := [⟨[.old 0], _, [], [], [17]⟩, ⟨[.old 2], _, [], [], [18]⟩, ⟨[.op 1 0], _, [], [1], [19]⟩, ⟨[.op 2 0], _, [], [1, 2], [20]⟩, ⟨[.op 3 0], _, [], [1, 2, 3], [21]⟩, ⟨[.op 0 0, .op 4 0], _, [], Lr 5, [22]⟩, ⟨[.op 5 0], _, [], Lr 6, [16]⟩]) (F := [.old 0, .old 1, .old 2, .op 6 0]) (hst.pick [0, 1, 2] rfl) hb Zb
           (o_p rfl (Za rfl rfl u_0) <| o_p rfl (Za rfl rfl u_0) <| o_p rfl (Zq rfl rfl (Opd.imp u_0 (fun _ _ h => Zr h5 h)) (fun _ _ ⟨_, _, _, e, _⟩ => ⟨_, e⟩)) <| o_p rfl (Ze Zef rfl rfl u_0) <| o_p rfl (Zf ty_9 rfl rfl u_0) <| o_p rfl (Zm2 rfl rfl u_0 u_1) <| o_p rfl (Zc rfl rfl u_0) <| o_n) (by kernel_rfl) (fun a g hst hb => ?_)
         refine wp_cond_split (hst.bool 3 rfl) (fun hc6 => ?_) (fun hc6 => ?_)
         · replace H1 := Zy hc6 H1
           refine r_g (L := [(1, _), (4, _), (6, _)]) (T := [⟨[.old 2], _, [], [], [23]⟩, ⟨[.op 0 0], _, [], [0], [24]⟩, ⟨[.op 1 0], _, [], [0, 1], [25]⟩, ⟨[.op 2 0], _, [], [0, 1, 2], [26]⟩, ⟨[.op 3 0], _, [], Lr 4, [6]⟩]) (F := [.old 0, .old 1, .op 4 0]) (hst.pick [0, 1, 2] rfl) hb Zb
             (o_p rfl (Za rfl rfl u_0) <| o_p rfl (Zq rfl rfl (Opd.imp u_0 (fun _ _ h => Zr h5 h)) (fun _ _ ⟨_, _, _, e, _⟩ => ⟨_, e⟩)) <| o_p rfl (Ze Zdx rfl rfl u_0) <| o_p rfl (Zf Zcz rfl rfl u_0) <| o_p rfl (Zc rfl rfl u_0) <| o_n) (by kernel_rfl) (fun a g hst hb => ?_)
           refine Zbu ?_
           refine Zbu ?_
           exact ⟨n4.left, g, rfl, (hst.pick [0, 1, 2] rfl), hb, H1⟩
         · replace H1 := Zz hc6 H1
           refine r_s (L := [(1, _), (4, _), (6, _)]) (T := [⟨[.old 0], _, [], [], [28]⟩, ⟨[.old 2], _, [], [], [29]⟩, ⟨[.op 1 0], _, [], [1], [30]⟩, ⟨[.op 2 0], _, [], [1, 2], [31]⟩, ⟨[.op 3 0], _, [], [1, 2, 3], [32]⟩, ⟨[.op 0 0, .op 4 0], _, [], Lr 5, [33]⟩, ⟨[.op 5 0], _, [], Lr 6, [27]⟩]) (F := [.old 0, .old 1, .old 2, .op 6 0]) (hst.pick [0, 1, 2] rfl) hb Zb
             (o_p rfl (Za rfl rfl u_0) <| o_p rfl (Za rfl rfl u_0) <| o_p rfl (Zq rfl rfl (Opd.imp u_0 (fun _ _ h => Zr h5 h)) (fun _ _ ⟨_, _, _, e, _⟩ => ⟨_, e⟩)) <| o_p rfl (Ze Zef rfl rfl u_0) <| o_p rfl (Zf ty_9 rfl rfl u_0) <| o_p rfl (Ztg rfl rfl u_0 u_1) <| o_p rfl (Zc rfl rfl u_0) <| o_n) (by kernel_rfl) (fun a g hst hb => ?_)
           refine wp_cond_split (hst.bool 3 rfl) (fun hc7 => ?_) (fun hc7 => ?_)
           · replace H1 := Zy hc7 H1
             refine r_g (L := [(1, _), (4, _), (6, _)]) (T := [⟨[.old 2], _, [], [], [34]⟩, ⟨[.op 0 0], _, [], [0], [35]⟩, ⟨[.op 1 0], _, [], [0, 1], [36]⟩, ⟨[.op 2 0], _, [], [0, 1, 2], [37]⟩, ⟨[.op 3 0], _, [], Lr 4, [6]⟩]) (F := [.old 0, .old 1, .op 4 0]) (hst.pick [0, 1, 2] rfl) hb Zb
               (o_p rfl (Za rfl rfl u_0) <| o_p rfl (Zq rfl rfl (Opd.imp u_0 (fun _ _ h => Zr h5 h)) (fun _ _ ⟨_, _, _, e, _⟩ => ⟨_, e⟩)) <| o_p rfl (Ze Zeg rfl rfl u_0) <| o_p rfl (Zf Zcz rfl rfl u_0) <| o_p rfl (Zc rfl rfl u_0) <| o_n) (by kernel_rfl) (fun a g hst hb => ?_)
             refine Zbu ?_
             refine Zbu ?_
             exact ⟨n4.right, g, rfl, (hst.pick [0, 1, 2] rfl), hb, H1⟩
           · replace H1 := Zz hc7 H1
             obtain ⟨r8, h9, H1⟩ := Zg H1
             refine r_s (L := [(4, _), (6, _)]) (T := [⟨[.old 1], _, [], [], [11]⟩, ⟨[.op 0 0], _, [], [0], [12]⟩, ⟨[.op 1 0], _, [], [0, 1], [13]⟩, ⟨[.op 2 0], _, [], [0, 1, 2], [14]⟩, ⟨[.op 3 0], _, [], Lr 4, [15]⟩, ⟨[.op 4 0, .old 0], _, [5], Lr 5, [4]⟩, ⟨[], _, [], Lr 6, [5]⟩]) (F := [.op 5 0, .op 6 0]) (hst.pick [1, 2] rfl) hb Zb
               (o_p rfl (Za rfl rfl u_0) <| o_p rfl (Zq rfl rfl (Opd.imp u_0 (fun _ _ h => Zr h5 h)) (fun _ _ ⟨_, _, _, e, _⟩ => ⟨_, e⟩)) <| o_p rfl (Ze Zgp rfl rfl u_0) <| o_p rfl (Zf Zbn rfl rfl u_0) <| o_p rfl (Zo Zn6 (Zg4 _ h9) rfl rfl (.cons u_0 .nil)) <| o_p rfl (Z8 Zbn rfl rfl u_1 u_0) <| o_p rfl (Zc rfl rfl c_b) <| o_n) (by kernel_rfl) (fun a g hst hb => ?_)
             refine wp_ret ?_
             refine Zw ?_
             refine Zw ?_
             refine Zp ?_
             refine Zp ?_
             refine Zw ?_
             refine Zp ?_
             refine Zp ?_
             obtain rfl := Option.some.inj H1
             obtain rfl := Option.some.inj H0
             obtain ⟨u0, hu0, hq0⟩ := Zbo (P := Tryz.prog) Zbn (hst.at 0 rfl)
             exact Ze2 rfl hst hb hu0 (Zk (s := 5)) (Zdj hq0 (hst.at 1 rfl))
     · replace H1 := Zz hc3 H1
       refine wp_exit ?_
       refine Zb5 ?_
       refine Zb5 ?_
       refine Zct ?_
       exact ⟨x1, g, rfl, (hst.pick [1] rfl), hb, Option.some.inj H1⟩
theorem Zwe (a0 : Int) {r : Zb3} (h : Zd6 a0 = some r) : FnOk Tryz.prog 54 [(pInt .i64 a0)] (Zcy.pd r) := by
 have H0 := h
 unfold Zd6 at H0
 clear h
 refine Zbr (N := 24) Tryz.func54 rfl rfl (Nat.le_of_ble_eq_true rfl) rfl rfl (fun a g0 hst hb => ?_)
 refine r_s (T := [⟨[], [(2, (pBox Zcy 2 (default : Zb3)))], [3], [], [2]⟩]) (F := [.old 0, .op 0 0]) hst hb Zb
   (o_p rfl (Zbg (zs := [.bool false, .bool false, .bool false, .bool false, .bool false]) (by kernel_rfl) (fun g => Zqe g) rfl rfl) <| o_n) (by kernel_rfl) (fun a g hst hb => ?_)
 refine wp_seq ?_
 refine r_s (T := [⟨[.old 0], _, [], [], [3]⟩]) (F := [.old 1, .op 0 0]) hst hb Zb
   (o_p rfl (Za rfl rfl u_0) <| o_n) (by kernel_rfl) (fun a g hst hb => ?_)
 refine wp_block ?_
 refine r_s (T := [⟨[.old 1], _, [], [], [5]⟩, ⟨[.op 0 0], _, [], [0], [4]⟩]) (F := [.old 0, .old 1, .op 1 0]) hst hb Zb
   (o_p rfl (Zbj rfl rfl u_0 c_i) <| o_p rfl (Zc rfl rfl u_0) <| o_n) (by kernel_rfl) (fun a g hst hb => ?_)
 refine wp_cond_split (hst.bool 2 rfl) (fun hc1 => ?_) (fun hc1 => ?_)
 · replace H0 := Zy hc1 H0
   refine r_s (L := [(2, _)]) (T := [⟨[], _, [], [], [6]⟩, ⟨[.op 0 0, .old 0], _, [3], [0], [2]⟩]) (F := [.op 1 0]) (hst.pick [0] rfl) hb Zb
     (o_p rfl (Z4m rfl rfl c_b) <| o_p rfl (Z8 Zio rfl rfl u_1 u_0) <| o_n) (by kernel_rfl) (fun a g hst hb => ?_)
   refine wp_ret ?_
   refine Zw ?_
   refine Zp ?_
   obtain rfl := Option.some.inj H0
   obtain ⟨u0, hu0, hq0⟩ := Zbo (P := Tryz.prog) Zio (hst.at 0 rfl)
   exact Zx rfl hst hb hu0 hq0
 · replace H0 := Zz hc1 H0
   refine wp_seq ?_
   refine r_s (L := [(2, _), (3, _)]) (T := [⟨[.old 1], _, [], [], [8]⟩, ⟨[.op 0 0], _, [], [0], [7]⟩]) (F := [.old 0, .old 1, .op 1 0]) (hst.pick [0, 1] rfl) hb Zb
     (o_p rfl (Zbj rfl rfl u_0 c_i) <| o_p rfl (Zc rfl rfl u_0) <| o_n) (by kernel_rfl) (fun a g hst hb => ?_)
   refine Zcx (fun a w => ∃ (j3 : Bool) (g : G), w = g.w ∧ St 24 [(2, (pBox Zcy 2 (default : Zb3))), (3, (pInt .i64 a0)), (7, (Zba j3))] a g ∧ Base g0 g ∧ Zjm a0 j3 = some r) ?_ ?_
   · rintro a w ⟨j3, g, rfl, hst, hb, H0⟩
     unfold Zjm at H0
     refine Zv ?_
     refine wp_cond_split (hst.bool 2 rfl) (fun hc4 => ?_) (fun hc4 => ?_)
     · replace H0 := Zy hc4 H0
       refine r_s (L := [(2, _)]) (T := [⟨[], _, [], [], [10]⟩, ⟨[.op 0 0, .old 0], _, [3], [0], [2]⟩]) (F := [.op 1 0]) (hst.pick [0] rfl) hb Zb
         (o_p rfl (Z4x rfl rfl c_b) <| o_p rfl (Z8 Zio rfl rfl u_1 u_0) <| o_n) (by kernel_rfl) (fun a g hst hb => ?_)
       refine wp_ret ?_
       refine Zw ?_
       refine Zp ?_
       obtain rfl := Option.some.inj H0
       obtain ⟨u0, hu0, hq0⟩ := Zbo (P := Tryz.prog) Zio (hst.at 0 rfl)
       exact Zx rfl hst hb hu0 hq0
     · replace H0 := Zz hc4 H0
       refine r_s (L := [(2, _), (3, _)]) (T := [⟨[.old 1], _, [], [], [12]⟩, ⟨[.op 0 0], _, [], [0], [11]⟩]) (F := [.old 0, .old 1, .op 1 0]) (hst.pick [0, 1] rfl) hb Zb
         (o_p rfl (Zbj rfl rfl u_0 c_i) <| o_p rfl (Zc rfl rfl u_0) <| o_n) (by kernel_rfl) (fun a g hst hb => ?_)
       refine wp_cond_split (hst.bool 2 rfl) (fun hc5 => ?_) (fun hc5 => ?_)
       · replace H0 := Zy hc5 H0
         refine r_s (L := [(2, _)]) (T := [⟨[], _, [], [], [13]⟩, ⟨[.op 0 0, .old 0], _, [3], [0], [2]⟩]) (F := [.op 1 0]) (hst.pick [0] rfl) hb Zb
           (o_p rfl (Z1r rfl rfl c_b c_b) <| o_p rfl (Z8 Zio rfl rfl u_1 u_0) <| o_n) (by kernel_rfl) (fun a g hst hb => ?_)
         refine wp_ret ?_
         refine Zw ?_
         refine Zp ?_
         obtain rfl := Option.some.inj H0
         obtain ⟨u0, hu0, hq0⟩ := Zbo (P := Tryz.prog) Zio (hst.at 0 rfl)
         exact Zx rfl hst hb hu0 hq0
       · replace H0 := Zz hc5 H0
         refine wp_seq ?_
         refine r_s (L := [(2, _), (3, _)]) (T := [⟨[.old 1], _, [], [], [15]⟩, ⟨[.op 0 0], _, [], [0], [14]⟩]) (F := [.old 0, .old 1, .op 1 0]) (hst.pick [0, 1] rfl) hb Zb
           (o_p rfl (Zbj rfl rfl u_0 c_i) <| o_p rfl (Zc rfl rfl u_0) <| o_n) (by kernel_rfl) (fun a g hst hb => ?_)
         refine Zcx (fun a w => ∃ (j8 : Bool) (g : G), w = g.w ∧ St 24 [(2, (pBox Zcy 2 (default : Zb3))), (3, (pInt .i64 a0)), (14, (Zba j8))] a g ∧ Base g0 g ∧ Zh7 a0 j8 = some r) ?_ ?_
         · rintro a w ⟨j8, g, rfl, hst, hb, H0⟩
           unfold Zh7 at H0
           refine Zv ?_
           refine wp_cond_split (hst.bool 2 rfl) (fun hc9 => ?_) (fun hc9 => ?_)
           · replace H0 := Zy hc9 H0
             refine r_s (L := [(2, _)]) (T := [⟨[], _, [], [], [18]⟩, ⟨[.op 0 0, .old 0], _, [3], [0], [2]⟩]) (F := [.op 1 0]) (hst.pick [0] rfl) hb Zb
               (o_p rfl (Z4s rfl rfl c_b) <| o_p rfl (Z8 Zio rfl rfl u_1 u_0) <| o_n) (by kernel_rfl) (fun a g hst hb => ?_)
             refine wp_ret ?_
             refine Zw ?_
             refine Zp ?_
             obtain rfl := Option.some.inj H0
             obtain ⟨u0, hu0, hq0⟩ := Zbo (P := Tryz.prog) Zio (hst.at 0 rfl)
             exact Zx rfl hst hb hu0 hq0
           · replace H0 := Zz hc9 H0
             refine wp_seq ?_
             refine r_s (L := [(2, _), (3, _)]) (T := [⟨[.old 1], _, [], [], [20]⟩, ⟨[.op 0 0], _, [], [0], [19]⟩]) (F := [.old 0, .old 1, .op 1 0]) (hst.pick [0, 1] rfl) hb Zb
               (o_p rfl (Zbj rfl rfl u_0 c_i) <| o_p rfl (Zc rfl rfl u_0) <| o_n) (by kernel_rfl) (fun a g hst hb => ?_)
             refine Zcx (fun a w => ∃ (j11 : Bool) (g : G), w = g.w ∧ St 24 [(2, (pBox Zcy 2 (default : Zb3))), (19, (Zba j11))] a g ∧ Base g0 g ∧ Zjl j11 = some r) ?_ ?_
             · rintro a w ⟨j11, g, rfl, hst, hb, H0⟩
               unfold Zjl at H0
               refine Zv ?_
               refine wp_cond_split (hst.bool 1 rfl) (fun hc12 => ?_) (fun hc12 => ?_)
               · replace H0 := Zy hc12 H0
                 refine r_s (L := [(2, _)]) (T := [⟨[], _, [], [], [22]⟩, ⟨[.op 0 0, .old 0], _, [3], [0], [2]⟩]) (F := [.op 1 0]) (hst.pick [0] rfl) hb Zb
                   (o_p rfl (Z5e rfl rfl c_b) <| o_p rfl (Z8 Zio rfl rfl u_1 u_0) <| o_n) (by kernel_rfl) (fun a g hst hb => ?_)
                 refine wp_ret ?_
                 refine Zw ?_
                 refine Zp ?_
                 obtain rfl := Option.some.inj H0
                 obtain ⟨u0, hu0, hq0⟩ := Zbo (P := Tryz.prog) Zio (hst.at 0 rfl)
                 exact Zx rfl hst hb hu0 hq0
               · replace H0 := Zz hc12 H0
                 refine wp_skip ?_
                 refine Zbu ?_
                 refine Zv ?_
                 refine r_s (L := [(2, _)]) (T := [⟨[], _, [], [], [23]⟩, ⟨[.op 0 0, .old 0], _, [3], [0], [2]⟩]) (F := [.op 1 0]) (hst.pick [0] rfl) hb Zb
                   (o_p rfl (Z66 rfl rfl ) <| o_p rfl (Z8 Zio rfl rfl u_1 u_0) <| o_n) (by kernel_rfl) (fun a g hst hb => ?_)
                 refine wp_ret ?_
                 obtain rfl := Option.some.inj H0
                 obtain ⟨u0, hu0, hq0⟩ := Zbo (P := Tryz.prog) Zio (hst.at 0 rfl)
                 exact Zx rfl hst hb hu0 hq0
             · refine wp_cond_split (hst.bool 2 rfl) (fun hc10 => ?_) (fun hc10 => ?_)
               · replace H0 := Zy hc10 H0
                 refine wp_skip ?_
                 exact ⟨(a0 == (8 : Int)), g, rfl, (hst.pick [0, 2] rfl), hb, H0⟩
               · replace H0 := Zz hc10 H0
                 refine r_g (L := [(2, _), (3, _)]) (T := [⟨[.old 1], _, [], [], [21]⟩, ⟨[.op 0 0], _, [], [0], [19]⟩]) (F := [.old 0, .op 1 0]) (hst.pick [0, 1] rfl) hb Zb
                   (o_p rfl (Zbj rfl rfl u_0 c_i) <| o_p rfl (Zc rfl rfl u_0) <| o_n) (by kernel_rfl) (fun a g hst hb => ?_)
                 exact ⟨(a0 == (9 : Int)), g, rfl, (hst.pick [0, 1] rfl), hb, H0⟩
         · refine wp_cond_split (hst.bool 2 rfl) (fun hc6 => ?_) (fun hc6 => ?_)
           · replace H0 := Zy hc6 H0
             refine wp_skip ?_
             exact ⟨(a0 == (5 : Int)), g, rfl, (hst.pick [0, 1, 2] rfl), hb, H0⟩
           · replace H0 := Zz hc6 H0
             refine r_s (L := [(2, _), (3, _)]) (T := [⟨[.old 1], _, [], [], [16]⟩, ⟨[.op 0 0], _, [], [0], [14]⟩]) (F := [.old 0, .old 1, .op 1 0]) (hst.pick [0, 1] rfl) hb Zb
               (o_p rfl (Zbj rfl rfl u_0 c_i) <| o_p rfl (Zc rfl rfl u_0) <| o_n) (by kernel_rfl) (fun a g hst hb => ?_)
             refine wp_cond_split (hst.bool 2 rfl) (fun hc7 => ?_) (fun hc7 => ?_)
             · replace H0 := Zy hc7 H0
               refine wp_skip ?_
               exact ⟨(a0 == (6 : Int)), g, rfl, (hst.pick [0, 1, 2] rfl), hb, H0⟩
             · replace H0 := Zz hc7 H0
               refine r_g (L := [(2, _), (3, _)]) (T := [⟨[.old 1], _, [], [], [17]⟩, ⟨[.op 0 0], _, [], [0], [14]⟩]) (F := [.old 0, .old 1, .op 1 0]) (hst.pick [0, 1] rfl) hb Zb
                 (o_p rfl (Zbj rfl rfl u_0 c_i) <| o_p rfl (Zc rfl rfl u_0) <| o_n) (by kernel_rfl) (fun a g hst hb => ?_)
               exact ⟨(a0 == (7 : Int)), g, rfl, (hst.pick [0, 1, 2] rfl), hb, H0⟩
   · refine wp_cond_split (hst.bool 2 rfl) (fun hc2 => ?_) (fun hc2 => ?_)
     · replace H0 := Zy hc2 H0
       refine wp_skip ?_
       exact ⟨(a0 == (2 : Int)), g, rfl, (hst.pick [0, 1, 2] rfl), hb, H0⟩
     · replace H0 := Zz hc2 H0
       refine r_g (L := [(2, _), (3, _)]) (T := [⟨[.old 1], _, [], [], [9]⟩, ⟨[.op 0 0], _, [], [0], [7]⟩]) (F := [.old 0, .old 1, .op 1 0]) (hst.pick [0, 1] rfl) hb Zb
         (o_p rfl (Zbj rfl rfl u_0 c_i) <| o_p rfl (Zc rfl rfl u_0) <| o_n) (by kernel_rfl) (fun a g hst hb => ?_)
       exact ⟨(a0 == (3 : Int)), g, rfl, (hst.pick [0, 1, 2] rfl), hb, H0⟩
theorem Zzh {r : Nat} (h : Zpk = some r) : FnOk Tryz.prog 108 [] (pFlt r) := by
 have H0 := h
 unfold Zpk at H0
 clear h
 refine Zbr (N := 2) Tryz.func108 rfl rfl (Nat.le_of_ble_eq_true rfl) rfl rfl (fun a g0 hst hb => ?_)
 refine r_s (T := [⟨[], _, [], [], [0]⟩]) (F := []) hst hb Zb
   (o_p rfl (Zc rfl rfl c_f) <| o_n) (by kernel_rfl) (fun a g hst hb => ?_)
 refine r_s (T := [⟨[], _, [], [], [1]⟩, ⟨[.op 0 0], _, [], [0], [0]⟩]) (F := [.op 1 0]) hst hb Zb
   (o_p rfl (Zy5 Z8f rfl rfl c_i) <| o_p rfl (Zc rfl rfl u_0) <| o_n) (by kernel_rfl) (fun a g hst hb => ?_)
 refine wp_ret ?_
 obtain rfl := Option.some.inj H0
 exact Zx rfl hst hb (Zk (s := 0)) (hst.at 0 rfl)
theorem Zg1 (a0 : Nat) {r : Nat} (h : Ze8 a0 = some r) : FnOk Tryz.prog 93 [(pFlt a0)] (pFlt r) := by
 have H0 := h
 unfold Ze8 at H0
 clear h
 refine Zbr (N := 8) Tryz.func93 rfl rfl (Nat.le_of_ble_eq_true rfl) rfl rfl (fun a g0 hst hb => ?_)
 refine r_s (T := [⟨[], _, [], [], [2]⟩]) (F := [.old 0]) hst hb Zb
   (o_p rfl (Zc rfl rfl c_f) <| o_n) (by kernel_rfl) (fun a g hst hb => ?_)
 refine wp_seq ?_
 refine r_s (T := [⟨[.old 0], _, [], [], [3]⟩, ⟨[.old 0], _, [], [], [4]⟩, ⟨[.op 0 0, .op 1 0], _, [], [0, 1], [5]⟩]) (F := [.old 0, .op 2 0]) hst hb Zb
   (o_p rfl (Za rfl rfl u_0) <| o_p rfl (Za rfl rfl u_0) <| o_p rfl (Z0e rfl rfl u_0 u_1) <| o_n) (by kernel_rfl) (fun a g hst hb => ?_)
 refine wp_cond_split (hst.bool 1 rfl) (fun hc1 => ?_) (fun hc1 => ?_)
 · replace H0 := Zy hc1 H0
   obtain ⟨r2, h3, H0⟩ := Zg H0
   refine r_s (L := []) (T := [⟨[], _, [], [], [6]⟩, ⟨[.op 0 0], _, [], [0], [2]⟩]) (F := [.op 1 0]) (hst.pick [] rfl) hb Zb
     (o_p rfl (Zo Z8i (Zzh h3) rfl rfl .nil) <| o_p rfl (Zc rfl rfl u_0) <| o_n) (by kernel_rfl) (fun a g hst hb => ?_)
   refine wp_ret ?_
   refine Zp ?_
   obtain rfl := Option.some.inj H0
   exact Zx rfl hst hb (Zk (s := 2)) (hst.at 0 rfl)
 · replace H0 := Zz hc1 H0
   refine wp_skip ?_
   refine Zv ?_
   refine r_s (L := [(0, _)]) (T := [⟨[.old 0], _, [], [], [7]⟩, ⟨[.op 0 0], _, [], [0], [2]⟩]) (F := [.op 1 0]) (hst.pick [0] rfl) hb Zb
     (o_p rfl (Za rfl rfl u_0) <| o_p rfl (Zc rfl rfl u_0) <| o_n) (by kernel_rfl) (fun a g hst hb => ?_)
   refine wp_ret ?_
   obtain rfl := Option.some.inj H0
   exact Zx rfl hst hb (Zk (s := 2)) (hst.at 0 rfl)
theorem Znf (a0 : Nat) {r : Int} (h : Zlr a0 = some r) : FnOk Tryz.prog 68 [(pFlt a0)] (pInt .u64 r) := by
 have H0 := h
 unfold Zlr at H0
 clear h
 refine Zbr (N := 14) Tryz.func68 rfl rfl (Nat.le_of_ble_eq_true rfl) rfl rfl (fun a g0 hst hb => ?_)
 refine r_s (T := [⟨[], _, [], [], [2]⟩]) (F := [.old 0]) hst hb Zb
   (o_p rfl (Zc rfl rfl c_i) <| o_n) (by kernel_rfl) (fun a g hst hb => ?_)
 obtain ⟨r1, h2, H0⟩ := Zg H0
 refine r_s (T := [⟨[.old 0], _, [], [], [4]⟩, ⟨[.op 0 0], _, [], [0], [5]⟩, ⟨[.op 1 0], _, [], [0, 1], [6]⟩, ⟨[.op 2 0], _, [], [0, 1, 2], [3]⟩]) (F := [.op 3 0]) hst hb Zb
   (o_p rfl (Za rfl rfl u_0) <| o_p rfl (Zo Zod (Zg1 _ h2) rfl rfl (.cons u_0 .nil)) <| o_p rfl (Zrn Zw2 rfl rfl u_0) <| o_p rfl (Zc rfl rfl u_0) <| o_n) (by kernel_rfl) (fun a g hst hb => ?_)
 refine wp_seq ?_
 refine r_s (T := [⟨[.old 0], _, [], [], [7]⟩, ⟨[.op 0 0], _, [], [0], [8]⟩, ⟨[.op 1 0], _, [], [0, 1], [9]⟩]) (F := [.old 0, .op 2 0]) hst hb Zb
   (o_p rfl (Za rfl rfl u_0) <| o_p rfl (Z77 rfl rfl u_0 c_i) <| o_p rfl (Zf2 rfl rfl u_0 c_i) <| o_n) (by kernel_rfl) (fun a g hst hb => ?_)
 refine wp_cond_split (hst.bool 1 rfl) (fun hc3 => ?_) (fun hc3 => ?_)
 · replace H0 := Zy hc3 H0
   refine r_s (L := [(3, _)]) (T := [⟨[.old 0], _, [], [], [10]⟩, ⟨[.op 0 0], _, [], [0], [11]⟩, ⟨[.op 1 0], _, [], [0, 1], [2]⟩]) (F := [.op 2 0]) (hst.pick [0] rfl) hb Zb
     (o_p rfl (Za rfl rfl u_0) <| o_p rfl (Z7w rfl rfl rfl u_0) <| o_p rfl (Zc rfl rfl u_0) <| o_n) (by kernel_rfl) (fun a g hst hb => ?_)
   refine wp_ret ?_
   refine Zp ?_
   obtain rfl := Option.some.inj H0
   exact Zx rfl hst hb (Zk (s := 2)) (hst.at 0 rfl)
 · replace H0 := Zz hc3 H0
   refine wp_skip ?_
   refine Zv ?_
   refine r_s (L := [(3, _)]) (T := [⟨[.old 0], _, [], [], [12]⟩, ⟨[.op 0 0], _, [], [0], [13]⟩, ⟨[.op 1 0], _, [], [0, 1], [2]⟩]) (F := [.op 2 0]) (hst.pick [0] rfl) hb Zb
     (o_p rfl (Za rfl rfl u_0) <| o_p rfl (Zbav rfl rfl u_0 c_i) <| o_p rfl (Zc rfl rfl u_0) <| o_n) (by kernel_rfl) (fun a g hst hb => ?_)
   refine wp_ret ?_
   obtain rfl := Option.some.inj H0
   exact Zx rfl hst hb (Zk (s := 2)) (hst.at 0 rfl)
theorem Zjq (a0 : Nat) (a1 : Nat) {r : Bool} (h : Ziw a0 a1 = some r) : FnOk Tryz.prog 46 [(pFlt a0), (pFlt a1)] (Zba r) := by
 have H0 := h
 unfold Ziw at H0
 clear h
 refine Zbr (N := 10) Tryz.func46 rfl rfl (Nat.le_of_ble_eq_true rfl) rfl rfl (fun a g0 hst hb => ?_)
 refine r_s (T := [⟨[], _, [], [], [4]⟩]) (F := [.old 0, .old 1]) hst hb Zb
   (o_p rfl (Zc rfl rfl c_b) <| o_n) (by kernel_rfl) (fun a g hst hb => ?_)
 obtain ⟨r1, h2, H0⟩ := Zg H0; obtain ⟨r3, h4, H0⟩ := Zg H0
 refine r_s (T := [⟨[.old 0], _, [], [], [5]⟩, ⟨[.op 0 0], _, [], [0], [6]⟩, ⟨[.old 1], _, [], [], [7]⟩, ⟨[.op 2 0], _, [], [0, 1, 2], [8]⟩, ⟨[.op 1 0, .op 3 0], _, [], Lr 4, [9]⟩, ⟨[.op 4 0], _, [], Lr 5, [4]⟩]) (F := [.op 5 0]) hst hb Zb
   (o_p rfl (Za rfl rfl u_0) <| o_p rfl (Zo Zw3 (Znf _ h2) rfl rfl (.cons u_0 .nil)) <| o_p rfl (Za rfl rfl u_0) <| o_p rfl (Zo Zw3 (Znf _ h4) rfl rfl (.cons u_0 .nil)) <| o_p rfl (Zbj rfl rfl u_0 u_1) <| o_p rfl (Zc rfl rfl u_0) <| o_n) (by kernel_rfl) (fun a g hst hb => ?_)
 refine wp_ret ?_
 obtain rfl := Option.some.inj H0
 exact Zx rfl hst hb (Zk (s := 4)) (hst.at 0 rfl)
theorem Zzi (a0 : Zd) (a1 : Zb3) {r : Bool} (h : Znq a0 a1 = some r) : FnOk Tryz.prog 55 [(Zj.pd a0), (Zcy.pd a1)] (Zba r) := by
 have H0 := h
 unfold Znq at H0
 clear h
 refine Zbr (N := 59) Tryz.func55 rfl rfl (Nat.le_of_ble_eq_true rfl) rfl rfl (fun a g0 hst hb => ?_)
 refine r_s (T := [⟨[.old 0], _, [], [], [2]⟩, ⟨[.old 1], _, [], [], [3]⟩, ⟨[], _, [], [], [4]⟩]) (F := [.op 0 0, .op 1 0]) hst hb Zb
   (o_p rfl (Zbh rfl rfl u_0) <| o_p rfl (Zbh rfl rfl u_0) <| o_p rfl (Zc rfl rfl c_b) <| o_n) (by kernel_rfl) (fun a g hst hb => ?_)
 obtain ⟨r1, h2, H0⟩ := Zg H0
 refine r_s (T := ⟨[.old 1], _, [], [], [5]⟩ :: ⟨[.op 0 0], _, [], [0], [6]⟩ :: ⟨[.op 1 0], _, [], [0, 1], [7]⟩ :: ⟨[.op 2 0, .old 0], _, [], [0, 1, 2], [8]⟩ :: ⟨[.op 2 0, .op 3 0], _, [], Lr 4, [9]⟩ :: ⟨[.op 2 0, .op 4 0], _, [], Lr 5, [10]⟩ :: ⟨[.op 2 0, .op 5 0], _, [], Lr 6, [11]⟩ :: ⟨[.op 6 0], _, [], Lr 7, [12]⟩ :: ⟨[.op 7 0, .old 1], _, [], Lr 8, [13]⟩ :: ⟨[.op 7 0, .op 8 0], _, [], Lr 9, [14]⟩ :: ⟨[.op 7 0, .op 9 0], _, [], Lr 10, [15]⟩ :: ⟨[.op 10 0, .old 0], _, [], Lr 11, [16]⟩ :: ⟨[.op 10 0, .op 11 0], _, [], Lr 12, [17]⟩ :: ⟨[.op 10 0, .op 12 0], _, [], Lr 13, [18]⟩ :: ⟨[.op 7 0, .op 10 0, .op 13 0], _, [], Lr 14, [19]⟩ :: ⟨[.op 7 0, .op 14 0], _, [], Lr 15, [20]⟩ :: ⟨[.op 15 0], _, [], Lr 16, [21]⟩ :: ⟨[.op 16 0, .old 1], _, [], Lr 17, [22]⟩ :: ⟨[.op 16 0, .op 17 0], _, [], Lr 18, [23]⟩ :: ⟨[.op 16 0, .op 18 0], _, [], Lr 19, [24]⟩ :: ⟨[.op 19 0, .old 0], _, [], Lr 20, [25]⟩ :: ⟨[.op 19 0, .op 20 0], _, [], Lr 21, [26]⟩ :: ⟨[.op 19 0, .op 21 0], _, [], Lr 22, [27]⟩ :: ⟨[.op 19 0, .op 22 0], _, [], Lr 23, [28]⟩ :: ⟨[.op 23 0, .old 0], _, [], Lr 24, [29]⟩ :: ⟨[.op 23 0, .op 24 0], _, [], Lr 25, [30]⟩ :: ⟨[.op 23 0, .op 25 0], _, [], Lr 26, [31]⟩ :: ⟨[.op 19 0, .op 23 0, .op 26 0], _, [], Lr 27, [32]⟩ :: ⟨[.op 16 0, .op 19 0, .op 27 0], _, [], Lr 28, [33]⟩ :: ⟨[.op 16 0, .op 28 0], _, [], Lr 29, [34]⟩ :: ⟨[.op 29 0], _, [], Lr 30, [35]⟩ :: ⟨[.op 30 0, .old 1], _, [], Lr 31, [36]⟩ :: ⟨[.op 30 0, .op 31 0], _, [], Lr 32, [37]⟩ :: ⟨[.op 30 0, .op 32 0], _, [], Lr 33, [38]⟩ :: ⟨[.op 33 0, .old 0], _, [], Lr 34, [39]⟩ :: ⟨[.op 33 0, .op 34 0], _, [], Lr 35, [40]⟩ :: ⟨[.op 33 0, .op 35 0], _, [], Lr 36, [41]⟩ :: ⟨[.op 30 0, .op 33 0, .op 36 0], _, [], Lr 37, [42]⟩ :: ⟨[.op 30 0, .op 37 0], _, [], Lr 38, [43]⟩ :: ⟨[.op 38 0], _, [], Lr 39, [44]⟩ :: ⟨[.op 39 0, .old 1], _, [], Lr 40, [45]⟩ :: ⟨[.op 39 0, .op 40 0], _, [], Lr 41, [46]⟩ :: ⟨[.op 39 0, .op 41 0], _, [], Lr 42, [47]⟩ :: ⟨[.op 42 0, .old 0], _, [], Lr 43, [48]⟩ :: ⟨[.op 42 0, .op 43 0], _, [], Lr 44, [49]⟩ :: ⟨[.op 42 0, .op 44 0], _, [], Lr 45, [50]⟩ :: ⟨[.op 42 0, .op 45 0], _, [], Lr 46, [51]⟩ :: ⟨[.op 46 0, .old 0], _, [], Lr 47, [52]⟩ :: ⟨[.op 46 0, .op 47 0], _, [], Lr 48, [53]⟩ :: ⟨[.op 46 0, .op 48 0], _, [], Lr 49, [54]⟩ :: ⟨[.op 46 0, .op 49 0], _, [], Lr 50, [55]⟩ :: ⟨[.op 42 0, .op 46 0, .op 50 0], _, [], Lr 51, [56]⟩ :: ⟨[.op 39 0, .op 42 0, .op 51 0], _, [], Lr 52, [57]⟩ :: ⟨[.op 39 0, .op 52 0], _, [], Lr 53, [58]⟩ :: ⟨[.op 53 0], _, [], Lr 54, [4]⟩ :: []) (F := [.op 54 0]) hst hb Zb
   (o_p rfl (Ze Z4e rfl rfl u_0) <| o_p rfl (Zf ty_4 rfl rfl u_0) <| o_p rfl (Za rfl rfl u_0) <| o_g (g_f rfl rfl rfl (fun hG => Ze Zkt rfl rfl u_0)) <| o_g (g_f rfl rfl rfl (fun hG => Zf ty_9 rfl rfl (Opd.gd hG u_0))) <| o_g (g_f rfl rfl rfl (fun hG => Zk2 rfl rfl (Opd.gd hG u_0) c_s)) <| o_p rfl (Zbi rfl rfl u_0 (fun hz => (Opd.gd (bNF hz) u_1))) <| o_p rfl (Za rfl rfl u_0) <| o_g (g_t rfl rfl rfl (fun hG => Ze Z4t rfl rfl u_0)) <| o_g (g_t rfl rfl rfl (fun hG => Zf ty_4 rfl rfl (Opd.gd hG u_0))) <| o_g (g_t rfl rfl rfl (fun hG => Za rfl rfl (Opd.gd hG u_0))) <| o_g (g_fi rfl rfl rfl (fun hG => Ze Zem rfl rfl u_0)) <| o_g (g_fi rfl rfl rfl (fun hG => Zf ty_2 rfl rfl (Opd.gd hG u_0))) <| o_g (g_fi rfl rfl rfl (fun hG => Zbj rfl rfl (Opd.gd hG u_0) c_i)) <| o_g (g_t rfl rfl rfl (fun hG => Zbi rfl rfl (Opd.gd hG u_0) (fun hz => (Opd.gd (bA hG (bNF hz)) u_1)))) <| o_p rfl (Zbf rfl rfl u_0 (fun hz => (Opd.gd hz u_1))) <| o_p rfl (Za rfl rfl u_0) <| o_g (g_t rfl rfl rfl (fun hG => Ze Zye rfl rfl u_0)) <| o_g (g_t rfl rfl rfl (fun hG => Zf ty_4 rfl rfl (Opd.gd hG u_0))) <| o_g (g_t rfl rfl rfl (fun hG => Za rfl rfl (Opd.gd hG u_0))) <| o_g (g_fi rfl rfl rfl (fun hG => Ze Zky rfl rfl u_0)) <| o_g (g_fi rfl rfl rfl (fun hG => Zf ty_2 rfl rfl (Opd.gd hG u_0))) <| o_g (g_fi rfl rfl rfl (fun hG => Zbj rfl rfl (Opd.gd hG u_0) c_i)) <| o_g (g_fi rfl rfl rfl (fun hG => Za rfl rfl (Opd.gd hG u_0))) <| o_g (g_ti rfl rfl rfl (fun hG => Ze Zkr rfl rfl u_0)) <| o_g (g_ti rfl rfl rfl (fun hG => Zf ty_2 rfl rfl (Opd.gd hG u_0))) <| o_g (g_ti rfl rfl rfl (fun hG => Zbj rfl rfl (Opd.gd hG u_0) c_i)) <| o_g (g_fi rfl rfl rfl (fun hG => Zbf rfl rfl (Opd.gd hG u_0) (fun hz => (Opd.gd (bA hG hz) u_1)))) <| o_g (g_t rfl rfl rfl (fun hG => Zbi rfl rfl (Opd.gd hG u_0) (fun hz => (Opd.gd (bA hG (bNF hz)) u_1)))) <| o_p rfl (Zbf rfl rfl u_0 (fun hz => (Opd.gd hz u_1))) <| o_p rfl (Za rfl rfl u_0) <| o_g (g_t rfl rfl rfl (fun hG => Ze Z4v rfl rfl u_0)) <| o_g (g_t rfl rfl rfl (fun hG => Zf ty_4 rfl rfl (Opd.gd hG u_0))) <| o_g (g_t rfl rfl rfl (fun hG => Za rfl rfl (Opd.gd hG u_0))) <| o_g (g_fi rfl rfl rfl (fun hG => Ze Zls rfl rfl u_0)) <| o_g (g_fi rfl rfl rfl (fun hG => Zf Zfb rfl rfl (Opd.gd hG u_0))) <| o_g (g_fi rfl rfl rfl (fun hG => Zo Zrm (Zjq _ _ (Zbb h2 hG)) rfl rfl (.cons (Opd.gd hG u_0) (.cons c_f .nil)))) <| o_g (g_t rfl rfl rfl (fun hG => Zbi rfl rfl (Opd.gd hG u_0) (fun hz => (Opd.gd (bA hG (bNF hz)) u_1)))) <| o_p rfl (Zbf rfl rfl u_0 (fun hz => (Opd.gd hz u_1))) <| o_p rfl (Za rfl rfl u_0) <| o_g (g_t rfl rfl rfl (fun hG => Ze Zys rfl rfl u_0)) <| o_g (g_t rfl rfl rfl (fun hG => Zf ty_4 rfl rfl (Opd.gd hG u_0))) <| o_g (g_t rfl rfl rfl (fun hG => Za rfl rfl (Opd.gd hG u_0))) <| o_g (g_fi rfl rfl rfl (fun hG => Ze Zh9 rfl rfl u_0)) <| o_g (g_fi rfl rfl rfl (fun hG => Zf ty_3 rfl rfl (Opd.gd hG u_0))) <| o_g (g_fi rfl rfl rfl (fun hG => Zbj rfl rfl (Opd.gd hG u_0) c_i)) <| o_g (g_fi rfl rfl rfl (fun hG => Za rfl rfl (Opd.gd hG u_0))) <| o_g (g_ti rfl rfl rfl (fun hG => Ze Zdh rfl rfl u_0)) <| o_g (g_ti rfl rfl rfl (fun hG => Zf Ze5 rfl rfl (Opd.gd hG u_0))) <| o_g (g_ti rfl rfl rfl (fun hG => Zb4 Tryz.underlying50 rfl rfl (Opd.gd hG u_0))) <| o_g (g_ti rfl rfl rfl (fun hG => Zbj rfl rfl (Opd.gd hG u_0) c_i)) <| o_g (g_fi rfl rfl rfl (fun hG => Zbf rfl rfl (Opd.gd hG u_0) (fun hz => (Opd.gd (bA hG hz) u_1)))) <| o_g (g_t rfl rfl rfl (fun hG => Zbi rfl rfl (Opd.gd hG u_0) (fun hz => (Opd.gd (bA hG (bNF hz)) u_1)))) <| o_p rfl (Zbf rfl rfl u_0 (fun hz => (Opd.gd hz u_1))) <| o_p rfl (Zc rfl rfl u_0) <| o_n) (by kernel_rfl) (fun a g hst hb => ?_)
 refine wp_ret ?_
 obtain rfl := Option.some.inj H0
 exact Zx rfl hst hb (Zk (s := 4)) (hst.at 0 rfl)
theorem Zm8 (a0 : Nat) {r : Bool} (h : Zjg a0 = some r) : FnOk Tryz.prog 56 [(pFlt a0)] (Zba r) := by
 have H0 := h
 unfold Zjg at H0
 clear h
 refine Zbr (N := 9) Tryz.func56 rfl rfl (Nat.le_of_ble_eq_true rfl) rfl rfl (fun a g0 hst hb => ?_)
 refine r_s (T := [⟨[], _, [], [], [2]⟩]) (F := [.old 0]) hst hb Zb
   (o_p rfl (Zc rfl rfl c_b) <| o_n) (by kernel_rfl) (fun a g hst hb => ?_)
 obtain ⟨r1, h2, H0⟩ := Zg H0
 refine r_s (T := [⟨[.old 0], _, [], [], [3]⟩, ⟨[.op 0 0], _, [], [0], [4]⟩, ⟨[.old 0], _, [], [], [5]⟩, ⟨[.op 2 0], _, [], [0, 1, 2], [6]⟩, ⟨[.op 3 0], _, [], Lr 4, [7]⟩, ⟨[.op 1 0, .op 4 0], _, [], Lr 5, [8]⟩, ⟨[.op 5 0], _, [], Lr 6, [2]⟩]) (F := [.op 6 0]) hst hb Zb
   (o_p rfl (Za rfl rfl u_0) <| o_p rfl (Zrn Zw2 rfl rfl u_0) <| o_p rfl (Za rfl rfl u_0) <| o_p rfl (Zo Zod (Zg1 _ h2) rfl rfl (.cons u_0 .nil)) <| o_p rfl (Zrn Zw2 rfl rfl u_0) <| o_p rfl (Zbj rfl rfl u_0 u_1) <| o_p rfl (Zc rfl rfl u_0) <| o_n) (by kernel_rfl) (fun a g hst hb => ?_)
 refine wp_ret ?_
 obtain rfl := Option.some.inj H0
 exact Zx rfl hst hb (Zk (s := 2)) (hst.at 0 rfl)
theorem Zom (a0 : Nat) (a1 : Nat) {r : Bool} (h : Zlg a0 a1 = some r) : FnOk Tryz.prog 104 [(pFlt a0), (pFlt a1)] (Zba r) := by
 have H0 := h
 unfold Zlg at H0
 clear h
 refine Zbr (N := 10) Tryz.func104 rfl rfl (Nat.le_of_ble_eq_true rfl) rfl rfl (fun a g0 hst hb => ?_)
 refine r_s (T := [⟨[], _, [], [], [4]⟩]) (F := [.old 0, .old 1]) hst hb Zb
   (o_p rfl (Zc rfl rfl c_b) <| o_n) (by kernel_rfl) (fun a g hst hb => ?_)
 obtain ⟨r1, h2, H0⟩ := Zg H0; obtain ⟨r3, h4, H0⟩ := Zg H0
 refine r_s (T := [⟨[.old 0], _, [], [], [5]⟩, ⟨[.op 0 0], _, [], [0], [6]⟩, ⟨[.old 1], _, [], [], [7]⟩, ⟨[.op 2 0], _, [], [0, 1, 2], [8]⟩, ⟨[.op 1 0, .op 3 0], _, [], Lr 4, [9]⟩, ⟨[.op 4 0], _, [], Lr 5, [4]⟩]) (F := [.op 5 0]) hst hb Zb
   (o_p rfl (Za rfl rfl u_0) <| o_p rfl (Zo Zw3 (Znf _ h2) rfl rfl (.cons u_0 .nil)) <| o_p rfl (Za rfl rfl u_0) <| o_p rfl (Zo Zw3 (Znf _ h4) rfl rfl (.cons u_0 .nil)) <| o_p rfl (Zco rfl rfl u_0 u_1) <| o_p rfl (Zc rfl rfl u_0) <| o_n) (by kernel_rfl) (fun a g hst hb => ?_)
 refine wp_ret ?_
 obtain rfl := Option.some.inj H0
 exact Zx rfl hst hb (Zk (s := 4)) (hst.at 0 rfl)
theorem Zm5 (a0 : Zi) (a1 : Zi) {r : Bool} (h : Zi9 a0 a1 = some r) : FnOk Tryz.prog 94 [(Z0.pd a0), (Z0.pd a1)] (Zba r) := by
 have H0 := h
 unfold Zi9 at H0
 clear h
 refine Zbr (N := 21) Tryz.func94 rfl rfl (Nat.le_of_ble_eq_true rfl) rfl rfl (fun a g0 hst hb => ?_)
 refine r_s (T := [⟨[.old 0], _, [], [], [2]⟩, ⟨[.old 1], _, [], [], [3]⟩, ⟨[], _, [], [], [4]⟩]) (F := [.op 0 0, .op 1 0]) hst hb Zb
   (o_p rfl (Zbh rfl rfl u_0) <| o_p rfl (Zbh rfl rfl u_0) <| o_p rfl (Zc rfl rfl c_b) <| o_n) (by kernel_rfl) (fun a g hst hb => ?_)
 refine wp_seq ?_
 obtain ⟨r1, h2, H0⟩ := Zg H0
 refine r_s (T := [⟨[.old 0], _, [], [], [5]⟩, ⟨[.op 0 0], _, [], [0], [6]⟩, ⟨[.old 1], _, [], [], [7]⟩, ⟨[.op 2 0], _, [], [2], [8]⟩, ⟨[.op 1 0, .op 3 0], _, [], Lr 4, [9]⟩, ⟨[.op 4 0], _, [], Lr 5, [10]⟩]) (F := [.old 0, .old 1, .op 5 0]) hst hb Zb
   (o_p rfl (Ze Zha rfl rfl u_0) <| o_p rfl (Zf Zfb rfl rfl u_0) <| o_p rfl (Ze Zha rfl rfl u_0) <| o_p rfl (Zf Zfb rfl rfl u_0) <| o_p rfl (Zo Zrm (Zjq _ _ h2) rfl rfl (.cons u_0 (.cons u_1 .nil))) <| o_p rfl (Zcr rfl rfl u_0) <| o_n) (by kernel_rfl) (fun a g hst hb => ?_)
 refine wp_cond_split (hst.bool 2 rfl) (fun hc3 => ?_) (fun hc3 => ?_)
 · replace H0 := Zy hc3 H0
   obtain ⟨r4, h5, H0⟩ := Zg H0
   refine r_s (L := [(2, _), (3, _)]) (T := [⟨[.old 1], _, [], [], [11]⟩, ⟨[.op 0 0], _, [], [0], [12]⟩, ⟨[.old 0], _, [], [], [13]⟩, ⟨[.op 2 0], _, [], [2], [14]⟩, ⟨[.op 1 0, .op 3 0], _, [], Lr 4, [15]⟩, ⟨[.op 4 0], _, [], Lr 5, [4]⟩]) (F := [.op 5 0]) (hst.pick [0, 1] rfl) hb Zb
     (o_p rfl (Ze Zha rfl rfl u_0) <| o_p rfl (Zf Zfb rfl rfl u_0) <| o_p rfl (Ze Zha rfl rfl u_0) <| o_p rfl (Zf Zfb rfl rfl u_0) <| o_p rfl (Zo Zxm (Zom _ _ h5) rfl rfl (.cons u_0 (.cons u_1 .nil))) <| o_p rfl (Zc rfl rfl u_0) <| o_n) (by kernel_rfl) (fun a g hst hb => ?_)
   refine wp_ret ?_
   refine Zp ?_
   obtain rfl := Option.some.inj H0
   exact Zx rfl hst hb (Zk (s := 4)) (hst.at 0 rfl)
 · replace H0 := Zz hc3 H0
   refine wp_skip ?_
   refine Zv ?_
   refine r_s (L := [(2, _), (3, _)]) (T := [⟨[.old 0], _, [], [], [16]⟩, ⟨[.op 0 0], _, [], [0], [17]⟩, ⟨[.old 1], _, [], [], [18]⟩, ⟨[.op 2 0], _, [], [2], [19]⟩, ⟨[.op 1 0, .op 3 0], _, [], Lr 4, [20]⟩, ⟨[.op 4 0], _, [], Lr 5, [4]⟩]) (F := [.op 5 0]) (hst.pick [0, 1] rfl) hb Zb
     (o_p rfl (Ze Zgl rfl rfl u_0) <| o_p rfl (Zf ty_9 rfl rfl u_0) <| o_p rfl (Ze Zgl rfl rfl u_0) <| o_p rfl (Zf ty_9 rfl rfl u_0) <| o_p rfl (Zm2 rfl rfl u_0 u_1) <| o_p rfl (Zc rfl rfl u_0) <| o_n) (by kernel_rfl) (fun a g hst hb => ?_)
   refine wp_ret ?_
   obtain rfl := Option.some.inj H0
   exact Zx rfl hst hb (Zk (s := 4)) (hst.at 0 rfl)
theorem Zyt (a0 : Int) (a1 : List Zi) {r : Int} (h : Zm3 a0 a1 = some r) : FnOk Tryz.prog 57 [(pInt .i64 a0), (Z0.sl.pd a1)] (pInt .i64 r) := by
 have H0 := h
 unfold Zm3 at H0
 clear h
 refine Zbr (N := 70) Tryz.func57 rfl rfl (Nat.le_of_ble_eq_true rfl) rfl rfl (fun a g0 hst hb => ?_)
 refine r_s (T := [⟨[], _, [], [], [4]⟩]) (F := [.old 0, .old 1]) hst hb Zb
   (o_p rfl (Zc rfl rfl c_i) <| o_n) (by kernel_rfl) (fun a g hst hb => ?_)
 refine wp_seq ?_
 refine r_s (T := [⟨[.old 1], _, [], [], [7]⟩, ⟨[.op 0 0], _, [], [0], [8]⟩, ⟨[], _, [], [], [9]⟩]) (F := [.old 0, .old 1, .op 0 0, .op 1 0, .op 2 0]) hst hb Zb
   (o_p rfl (Za rfl rfl u_0) <| o_p rfl (Zb4 Tryz.underlying50 rfl rfl u_0) <| o_p rfl (Za rfl rfl c_i) <| o_n) (by kernel_rfl) (fun a g hst hb => ?_)
 obtain ⟨z19, hz1, H0⟩ := Zg H0
 refine Zcx (fun a w => ∃ (g : G), w = g.w ∧ St 70 [] a g ∧ Base g0 g ∧ (.inr ()) = z19) ?_ ?_
 · rintro a w ⟨g, rfl, hst, hb, rfl⟩
   refine Zv ?_
   refine r_s (T := [⟨[], _, [], [], [4]⟩]) (F := [.op 0 0]) hst hb Zb
     (o_p rfl (Zc rfl rfl c_i) <| o_n) (by kernel_rfl) (fun a g hst hb => ?_)
   refine wp_ret ?_
   obtain rfl := Option.some.inj H0
   exact Zx rfl hst hb (Zk (s := 4)) (hst.at 0 rfl)
 · refine wp_block ?_
   refine wp_loop_ghost (fun n a w => ∃ (x1 : Int) (g : G), w = g.w ∧ St 70 [(0, (pInt .i64 a0)), (1, (Z0.sl.pd a1)), (7, (Z0.sl.pd a1)), (8, (pInt .i64 (a1.length : Int))), (9, (pInt .i64 x1))] a g ∧ Base g0 g ∧ Zfd a0 a1 n x1 = some z19) (Int.toNat ((a1.length : Int) - (0 : Int)) + 1) ⟨(0 : Int), g, rfl, (hst.pick [0, 1, 2, 3, 4] rfl), hb, hz1⟩ (fun n a w hI => ?_)
   obtain ⟨x1, g, rfl, hst, hb, H1⟩ := hI
   cases n with
   | zero => exact absurd H1 (by simp [Zfd])
   | succ n =>
     rw [Zfd] at H1
     refine r_s (T := [⟨[.old 4, .old 3], _, [], [], [10]⟩]) (F := [.old 0, .old 1, .old 2, .old 3, .old 4, .op 0 0]) hst hb Zb
       (o_p rfl (Zco rfl rfl u_0 u_1) <| o_n) (by kernel_rfl) (fun a g hst hb => ?_)
     refine wp_seq ?_
     refine wp_cond_split (hst.bool 5 rfl) (fun hc2 => ?_) (fun hc2 => ?_)
     · replace H1 := Zy hc2 H1
       refine wp_skip ?_
       refine Zv ?_
       refine wp_seq ?_
       refine wp_block ?_
       obtain ⟨e3, h4, H1⟩ := Zg H1
       refine r_s (L := [(0, _), (1, _), (7, _), (8, _), (9, _)]) (T := [⟨[.old 4], _, [], [], [11]⟩, ⟨[.old 2, .old 4], _, [], [], [12]⟩, ⟨[.op 1 0], _, [], [1], [13]⟩, ⟨[], [(6, (pBox Z0 6 (default : Zi)))], [7], [], [6]⟩, ⟨[.op 0 0], _, [], Lr 4, [5]⟩, ⟨[.op 2 0, .op 3 0], _, [7], Lr 5, [6]⟩]) (F := [.old 0, .old 1, .op 4 0, .op 5 0, .old 2, .old 3, .old 4]) (hst.pick [0, 1, 2, 3, 4] rfl) hb Zb
         (o_p rfl (Za rfl rfl u_0) <| o_p rfl (Zbp Tryz.underlying50 Zj3 rfl rfl u_0 u_1 h4) <| o_p rfl (Zf Zft rfl rfl u_0) <| o_p rfl (Zbg (zs := [.float .f64 0, .string ByteArray.empty]) (by kernel_rfl) (fun g => Zjw g) rfl rfl) <| o_p rfl (Zc rfl rfl u_0) <| o_p rfl (Zb1 Zft rfl rfl u_1 u_0) <| o_n) (by kernel_rfl) (fun a g hst hb => ?_)
       refine wp_block ?_
       refine r_s (T := [⟨[.old 3], _, [], [], [15]⟩, ⟨[.op 0 0], _, [], [0], [16]⟩, ⟨[.op 1 0], _, [], [0, 1], [17]⟩, ⟨[.op 2 0], _, [], [0, 1, 2], [18]⟩, ⟨[.op 3 0], _, [], Lr 4, [14]⟩]) (F := [.old 0, .old 1, .old 2, .old 3, .old 4, .old 5, .old 6, .op 4 0]) hst hb Zb
         (o_p rfl (Ze Zgl rfl rfl u_0) <| o_p rfl (Zf ty_9 rfl rfl u_0) <| o_p rfl (Zf4 Tryz.underlying9 rfl rfl u_0) <| o_p rfl (Zci rfl rfl u_0 c_i) <| o_p rfl (Zc rfl rfl u_0) <| o_n) (by kernel_rfl) (fun a g hst hb => ?_)
       refine wp_cond_split (hst.bool 7 rfl) (fun hc5 => ?_) (fun hc5 => ?_)
       · replace H1 := Zy hc5 H1
         refine r_s (L := []) (T := [⟨[], _, [], [], [4]⟩]) (F := [.op 0 0]) (hst.pick [] rfl) hb Zb
           (o_p rfl (Zc rfl rfl c_i) <| o_n) (by kernel_rfl) (fun a g hst hb => ?_)
         refine wp_ret ?_
         refine Zw ?_
         refine Zw ?_
         refine Zp ?_
         refine Zp ?_
         refine Zw ?_
         refine Zp ?_
         refine Zp ?_
         obtain rfl := Option.some.inj H1
         obtain rfl := Option.some.inj H0
         exact Zx rfl hst hb (Zk (s := 4)) (hst.at 0 rfl)
       · replace H1 := Zz hc5 H1
         obtain ⟨r6, h7, H1⟩ := Zg H1; obtain ⟨r8, h9, H1⟩ := Zg H1
         refine r_s (L := [(0, _), (1, _), (5, _), (6, _), (7, _), (8, _), (9, _)]) (T := ⟨[.old 0], _, [], [], [20]⟩ :: ⟨[.op 0 0], _, [], [0], [21]⟩ :: ⟨[.op 1 0], _, [], [0, 1], [22]⟩ :: ⟨[.op 2 0, .old 3], _, [], [0, 1, 2], [23]⟩ :: ⟨[.op 2 0, .op 3 0], _, [], Lr 4, [24]⟩ :: ⟨[.op 2 0, .op 4 0], _, [], Lr 5, [25]⟩ :: ⟨[.op 2 0, .op 5 0], _, [], Lr 6, [26]⟩ :: ⟨[.op 2 0, .op 6 0], _, [], Lr 7, [27]⟩ :: ⟨[.op 7 0], _, [], Lr 8, [28]⟩ :: ⟨[.op 8 0, .old 3], _, [], Lr 9, [29]⟩ :: ⟨[.op 8 0, .op 9 0], _, [], Lr 10, [30]⟩ :: ⟨[.op 8 0, .op 10 0], _, [], Lr 11, [31]⟩ :: ⟨[.op 8 0, .op 11 0], _, [], Lr 12, [32]⟩ :: ⟨[.op 8 0, .op 12 0], _, [], Lr 13, [33]⟩ :: ⟨[.op 13 0], _, [], Lr 14, [19]⟩ :: []) (F := [.old 0, .old 1, .old 2, .old 3, .old 4, .old 5, .old 6, .op 14 0]) (hst.pick [0, 1, 2, 3, 4, 5, 6] rfl) hb Zb
           (o_p rfl (Za rfl rfl u_0) <| o_p rfl (Zbj rfl rfl u_0 c_i) <| o_p rfl (Za rfl rfl u_0) <| o_g (g_t rfl rfl rfl (fun hG => Ze Zha rfl rfl u_0)) <| o_g (g_t rfl rfl rfl (fun hG => Zf Zfb rfl rfl (Opd.gd hG u_0))) <| o_g (g_t rfl rfl rfl (fun hG => Zo Zrm (Zjq _ _ (Zbb h7 hG)) rfl rfl (.cons (Opd.gd hG u_0) (.cons c_f .nil)))) <| o_g (g_t rfl rfl rfl (fun hG => Zcr rfl rfl (Opd.gd hG u_0))) <| o_p rfl (Zbf rfl rfl u_0 (fun hz => (Opd.gd hz u_1))) <| o_p rfl (Za rfl rfl u_0) <| o_g (g_f rfl rfl rfl (fun hG => Ze Zha rfl rfl u_0)) <| o_g (g_f rfl rfl rfl (fun hG => Zf Zfb rfl rfl (Opd.gd hG u_0))) <| o_g (g_f rfl rfl rfl (fun hG => Zo Z0r (Zm8 _ (Zbb h9 hG)) rfl rfl (.cons (Opd.gd hG u_0) .nil))) <| o_g (g_f rfl rfl rfl (fun hG => Zcr rfl rfl (Opd.gd hG u_0))) <| o_p rfl (Zbi rfl rfl u_0 (fun hz => (Opd.gd (bNF hz) u_1))) <| o_p rfl (Zc rfl rfl u_0) <| o_n) (by kernel_rfl) (fun a g hst hb => ?_)
         refine wp_cond_split (hst.bool 7 rfl) (fun hc10 => ?_) (fun hc10 => ?_)
         · replace H1 := Zy hc10 H1
           refine r_s (L := []) (T := [⟨[], _, [], [], [4]⟩]) (F := [.op 0 0]) (hst.pick [] rfl) hb Zb
             (o_p rfl (Zc rfl rfl c_i) <| o_n) (by kernel_rfl) (fun a g hst hb => ?_)
           refine wp_ret ?_
           refine Zw ?_
           refine Zw ?_
           refine Zp ?_
           refine Zp ?_
           refine Zw ?_
           refine Zp ?_
           refine Zp ?_
           obtain rfl := Option.some.inj H1
           obtain rfl := Option.some.inj H0
           exact Zx rfl hst hb (Zk (s := 4)) (hst.at 0 rfl)
         · replace H1 := Zz hc10 H1
           obtain ⟨e11, h12, H1⟩ := Zg H1
           refine r_s (L := [(0, _), (1, _), (5, _), (6, _), (7, _), (8, _), (9, _)]) (T := ⟨[.old 2], _, [], [], [35]⟩ :: ⟨[.op 0 0], _, [], [0], [36]⟩ :: ⟨[.op 1 0], _, [], [0, 1], [37]⟩ :: ⟨[.op 2 0, .old 0], _, [], [0, 1, 2], [38]⟩ :: ⟨[.op 2 0, .op 3 0], _, [], Lr 4, [39]⟩ :: ⟨[.op 2 0, .op 4 0], _, [], Lr 5, [40]⟩ :: ⟨[.op 5 0], _, [], Lr 6, [41]⟩ :: ⟨[.op 6 0, .old 1], _, [], Lr 7, [42]⟩ :: ⟨[.op 6 0, .old 2], _, [], Lr 7, [43]⟩ :: ⟨[.op 6 0, .op 8 0], _, [], [0, 1, 2, 3, 4, 5, 6, 8], [44]⟩ :: ⟨[.op 6 0, .op 7 0, .op 9 0], _, [], Lr 10, [45]⟩ :: ⟨[.op 6 0, .op 10 0], _, [], Lr 11, [46]⟩ :: ⟨[.op 6 0, .op 11 0], _, [], Lr 12, [47]⟩ :: ⟨[.op 6 0, .old 3], _, [], Lr 7, [48]⟩ :: ⟨[.op 6 0, .op 13 0], _, [], [0, 1, 2, 3, 4, 5, 6, 13], [49]⟩ :: ⟨[.op 6 0, .op 12 0, .op 14 0], _, [], Lr 15, [50]⟩ :: ⟨[.op 6 0, .op 15 0], _, [], Lr 16, [51]⟩ :: ⟨[.op 16 0], _, [], Lr 17, [34]⟩ :: []) (F := [.old 0, .old 1, .old 2, .old 3, .old 4, .old 5, .old 6, .op 17 0]) (hst.pick [0, 1, 2, 3, 4, 5, 6] rfl) hb Zb
             (o_p rfl (Za rfl rfl u_0) <| o_p rfl (Zci rfl rfl u_0 c_i) <| o_p rfl (Za rfl rfl u_0) <| o_g (g_t rfl rfl rfl (fun hG => Za rfl rfl u_0)) <| o_g (g_t rfl rfl rfl (fun hG => Zbj rfl rfl (Opd.gd hG u_0) c_i)) <| o_p rfl (Zbf rfl rfl u_0 (fun hz => (Opd.gd hz u_1))) <| o_p rfl (Za rfl rfl u_0) <| o_g (g_t rfl rfl rfl (fun hG => Za rfl rfl u_0)) <| o_g (g_t rfl rfl rfl (fun hG => Za rfl rfl u_0)) <| o_g (g_t rfl rfl rfl (fun hG => Zkd rfl rfl (Opd.gd hG u_0) c_i rfl)) <| o_g (g_t rfl rfl rfl (fun hG => Zbp Tryz.underlying50 Zj3 rfl rfl (Opd.gd hG u_0) (Opd.gd hG u_1) (Zbb h12 hG))) <| o_g (g_t rfl rfl rfl (fun hG => Ze Zgl rfl rfl (Opd.gd hG u_0))) <| o_g (g_t rfl rfl rfl (fun hG => Zf ty_9 rfl rfl (Opd.gd hG u_0))) <| o_g (g_t rfl rfl rfl (fun hG => Ze Zgl rfl rfl u_0)) <| o_g (g_t rfl rfl rfl (fun hG => Zf ty_9 rfl rfl (Opd.gd hG u_0))) <| o_g (g_t rfl rfl rfl (fun hG => Z9e rfl rfl (Opd.gd hG u_0) (Opd.gd hG u_1))) <| o_p rfl (Zbf rfl rfl u_0 (fun hz => (Opd.gd hz u_1))) <| o_p rfl (Zc rfl rfl u_0) <| o_n) (by kernel_rfl) (fun a g hst hb => ?_)
           refine wp_cond_split (hst.bool 7 rfl) (fun hc13 => ?_) (fun hc13 => ?_)
           · replace H1 := Zy hc13 H1
             refine r_s (L := []) (T := [⟨[], _, [], [], [4]⟩]) (F := [.op 0 0]) (hst.pick [] rfl) hb Zb
               (o_p rfl (Zc rfl rfl c_i) <| o_n) (by kernel_rfl) (fun a g hst hb => ?_)
             refine wp_ret ?_
             refine Zw ?_
             refine Zw ?_
             refine Zp ?_
             refine Zp ?_
             refine Zw ?_
             refine Zp ?_
             refine Zp ?_
             obtain rfl := Option.some.inj H1
             obtain rfl := Option.some.inj H0
             exact Zx rfl hst hb (Zk (s := 4)) (hst.at 0 rfl)
           · replace H1 := Zz hc13 H1
             obtain ⟨e14, h15, H1⟩ := Zg H1; obtain ⟨r16, h17, H1⟩ := Zg H1
             refine r_s (L := [(0, _), (1, _), (5, _), (6, _), (7, _), (8, _), (9, _)]) (T := ⟨[.old 2], _, [], [], [53]⟩ :: ⟨[.op 0 0], _, [], [0], [54]⟩ :: ⟨[.op 1 0], _, [], [0, 1], [55]⟩ :: ⟨[.op 2 0, .old 0], _, [], [0, 1, 2], [56]⟩ :: ⟨[.op 2 0, .op 3 0], _, [], Lr 4, [57]⟩ :: ⟨[.op 2 0, .op 4 0], _, [], Lr 5, [58]⟩ :: ⟨[.op 5 0], _, [], Lr 6, [59]⟩ :: ⟨[.op 6 0, .old 1], _, [], Lr 7, [60]⟩ :: ⟨[.op 6 0, .old 2], _, [], Lr 7, [61]⟩ :: ⟨[.op 6 0, .op 8 0], _, [], [0, 1, 2, 3, 4, 5, 6, 8], [62]⟩ :: ⟨[.op 6 0, .op 7 0, .op 9 0], _, [], Lr 10, [63]⟩ :: ⟨[.op 6 0, .op 10 0], _, [], Lr 11, [64]⟩ :: ⟨[.op 6 0, .old 3], _, [], Lr 7, [65]⟩ :: ⟨[.op 6 0, .op 11 0, .op 12 0], _, [], Lr 13, [66]⟩ :: ⟨[.op 6 0, .op 13 0], _, [], Lr 14, [67]⟩ :: ⟨[.op 6 0, .op 14 0], _, [], Lr 15, [68]⟩ :: ⟨[.op 15 0], _, [], Lr 16, [52]⟩ :: []) (F := [.old 0, .old 1, .old 4, .old 5, .old 6, .op 16 0]) (hst.pick [0, 1, 2, 3, 4, 5, 6] rfl) hb Zb
               (o_p rfl (Za rfl rfl u_0) <| o_p rfl (Zci rfl rfl u_0 c_i) <| o_p rfl (Za rfl rfl u_0) <| o_g (g_t rfl rfl rfl (fun hG => Za rfl rfl u_0)) <| o_g (g_t rfl rfl rfl (fun hG => Zbj rfl rfl (Opd.gd hG u_0) c_i)) <| o_p rfl (Zbf rfl rfl u_0 (fun hz => (Opd.gd hz u_1))) <| o_p rfl (Za rfl rfl u_0) <| o_g (g_t rfl rfl rfl (fun hG => Za rfl rfl u_0)) <| o_g (g_t rfl rfl rfl (fun hG => Za rfl rfl u_0)) <| o_g (g_t rfl rfl rfl (fun hG => Zkd rfl rfl (Opd.gd hG u_0) c_i rfl)) <| o_g (g_t rfl rfl rfl (fun hG => Zbp Tryz.underlying50 Zj3 rfl rfl (Opd.gd hG u_0) (Opd.gd hG u_1) (Zbb h15 hG))) <| o_g (g_t rfl rfl rfl (fun hG => Zf Zft rfl rfl (Opd.gd hG u_0))) <| o_g (g_t rfl rfl rfl (fun hG => Zf Zft rfl rfl u_0)) <| o_g (g_t rfl rfl rfl (fun hG => Zo Z1b (Zm5 _ _ (Zbb h17 hG)) rfl rfl (.cons (Opd.gd hG u_0) (.cons (Opd.gd hG u_1) .nil)))) <| o_g (g_t rfl rfl rfl (fun hG => Zcr rfl rfl (Opd.gd hG u_0))) <| o_p rfl (Zbf rfl rfl u_0 (fun hz => (Opd.gd hz u_1))) <| o_p rfl (Zc rfl rfl u_0) <| o_n) (by kernel_rfl) (fun a g hst hb => ?_)
             refine wp_cond_split (hst.bool 5 rfl) (fun hc18 => ?_) (fun hc18 => ?_)
             · replace H1 := Zy hc18 H1
               refine r_s (L := []) (T := [⟨[], _, [], [], [4]⟩]) (F := [.op 0 0]) (hst.pick [] rfl) hb Zb
                 (o_p rfl (Zc rfl rfl c_i) <| o_n) (by kernel_rfl) (fun a g hst hb => ?_)
               refine wp_ret ?_
               refine Zw ?_
               refine Zw ?_
               refine Zp ?_
               refine Zp ?_
               refine Zw ?_
               refine Zp ?_
               refine Zp ?_
               obtain rfl := Option.some.inj H1
               obtain rfl := Option.some.inj H0
               exact Zx rfl hst hb (Zk (s := 4)) (hst.at 0 rfl)
             · replace H1 := Zz hc18 H1
               refine wp_skip ?_
               refine Zbu ?_
               refine Zbu ?_
               refine Zv ?_
               refine r_g (L := [(0, _), (1, _), (7, _), (8, _), (9, _)]) (T := [⟨[.old 4], _, [], [], [69]⟩, ⟨[.op 0 0], _, [], [0], [9]⟩]) (F := [.old 0, .old 1, .old 2, .old 3, .op 1 0]) (hst.pick [0, 1, 2, 3, 4] rfl) hb Zb
                 (o_p rfl (Zcd rfl rfl u_0 c_i rfl) <| o_p rfl (Za rfl rfl u_0) <| o_n) (by kernel_rfl) (fun a g hst hb => ?_)
               exact ⟨n, Nat.lt_succ_self _, (IntKind.i64.wrap (x1 + (1 : Int))), g, rfl, (hst.pick [0, 1, 2, 3, 4] rfl), hb, H1⟩
     · replace H1 := Zz hc2 H1
       refine wp_exit ?_
       refine Zb5 ?_
       refine Zb5 ?_
       refine Zct ?_
       exact ⟨g, rfl, (hst.pick [] rfl), hb, Option.some.inj H1⟩
theorem Znt (a0 : Zd) {r : Int} (h : Zd2 a0 = some r) : FnOk Tryz.prog 36 [(Zj.pd a0)] (pInt .i64 r) := by
 have H0 := h
 unfold Zd2 at H0
 clear h
 refine Zbr (N := 83) Tryz.func36 rfl rfl (Nat.le_of_ble_eq_true rfl) rfl rfl (fun a g0 hst hb => ?_)
 refine r_s (T := [⟨[.old 0], _, [], [], [1]⟩, ⟨[], _, [], [], [2]⟩]) (F := [.op 0 0]) hst hb Zb
   (o_p rfl (Zbh rfl rfl u_0) <| o_p rfl (Zc rfl rfl c_i) <| o_n) (by kernel_rfl) (fun a g hst hb => ?_)
 obtain ⟨r1, h2, H0⟩ := Zg H0
 refine r_s (T := [⟨[.old 0], _, [], [], [4]⟩, ⟨[.op 0 0], _, [], [0], [5]⟩, ⟨[.op 1 0], _, [], [0, 1], [6]⟩, ⟨[], [(3, (pBox Zcy 3 (default : Zb3)))], [4], [], [3]⟩, ⟨[.op 2 0, .op 3 0], _, [4], Lr 4, [3]⟩]) (F := [.old 0, .op 4 0]) hst hb Zb
   (o_p rfl (Ze Zgk rfl rfl u_0) <| o_p rfl (Zf ty_3 rfl rfl u_0) <| o_p rfl (Zo Zbbh (Zwe _ h2) rfl rfl (.cons u_0 .nil)) <| o_p rfl (Zbg (zs := [.bool false, .bool false, .bool false, .bool false, .bool false]) (by kernel_rfl) (fun g => Zqe g) rfl rfl) <| o_p rfl (Zb1 Zio rfl rfl u_1 u_0) <| o_n) (by kernel_rfl) (fun a g hst hb => ?_)
 refine wp_seq ?_
 refine wp_block ?_
 refine r_s (T := [⟨[.old 0], _, [], [], [8]⟩, ⟨[.op 0 0], _, [], [0], [9]⟩, ⟨[.op 1 0], _, [], [0, 1], [10]⟩, ⟨[.op 2 0], _, [], [0, 1, 2], [11]⟩, ⟨[.op 3 0, .old 0], _, [], Lr 4, [12]⟩, ⟨[.op 3 0, .op 4 0], _, [], Lr 5, [13]⟩, ⟨[.op 3 0, .op 5 0], _, [], Lr 6, [14]⟩, ⟨[.op 3 0, .op 6 0], _, [], Lr 7, [15]⟩, ⟨[.op 7 0], _, [], Lr 8, [7]⟩]) (F := [.old 0, .old 1, .op 8 0]) hst hb Zb
   (o_p rfl (Ze Zgk rfl rfl u_0) <| o_p rfl (Zf ty_3 rfl rfl u_0) <| o_p rfl (Zwx rfl rfl u_0 c_i) <| o_p rfl (Za rfl rfl u_0) <| o_g (g_f rfl rfl rfl (fun hG => Ze Zgk rfl rfl u_0)) <| o_g (g_f rfl rfl rfl (fun hG => Zf ty_3 rfl rfl (Opd.gd hG u_0))) <| o_g (g_f rfl rfl rfl (fun hG => Zrb rfl rfl (Opd.gd hG u_0) c_i)) <| o_p rfl (Zbi rfl rfl u_0 (fun hz => (Opd.gd (bNF hz) u_1))) <| o_p rfl (Zc rfl rfl u_0) <| o_n) (by kernel_rfl) (fun a g hst hb => ?_)
 refine wp_cond_split (hst.bool 2 rfl) (fun hc3 => ?_) (fun hc3 => ?_)
 · replace H0 := Zy hc3 H0
   refine r_s (L := []) (T := [⟨[], _, [], [], [2]⟩]) (F := [.op 0 0]) (hst.pick [] rfl) hb Zb
     (o_p rfl (Zc rfl rfl c_i) <| o_n) (by kernel_rfl) (fun a g hst hb => ?_)
   refine wp_ret ?_
   refine Zw ?_
   refine Zp ?_
   obtain rfl := Option.some.inj H0
   exact Zx rfl hst hb (Zk (s := 2)) (hst.at 0 rfl)
 · replace H0 := Zz hc3 H0
   obtain ⟨r4, h5, H0⟩ := Zg H0
   refine r_s (L := [(1, _), (3, _)]) (T := [⟨[.old 0], _, [], [], [17]⟩, ⟨[.old 1], _, [], [], [18]⟩, ⟨[.op 0 0, .op 1 0], _, [], [0, 1], [19]⟩, ⟨[.op 2 0], _, [], [0, 1, 2], [20]⟩, ⟨[.op 3 0], _, [], Lr 4, [16]⟩]) (F := [.old 0, .old 1, .op 4 0]) (hst.pick [0, 1] rfl) hb Zb
     (o_p rfl (Zf Zbn rfl rfl u_0) <| o_p rfl (Zf Zio rfl rfl u_0) <| o_p rfl (Zo Zbbn (Zzi _ _ h5) rfl rfl (.cons u_0 (.cons u_1 .nil))) <| o_p rfl (Zcr rfl rfl u_0) <| o_p rfl (Zc rfl rfl u_0) <| o_n) (by kernel_rfl) (fun a g hst hb => ?_)
   refine wp_cond_split (hst.bool 2 rfl) (fun hc6 => ?_) (fun hc6 => ?_)
   · replace H0 := Zy hc6 H0
     refine r_s (L := []) (T := [⟨[], _, [], [], [2]⟩]) (F := [.op 0 0]) (hst.pick [] rfl) hb Zb
       (o_p rfl (Zc rfl rfl c_i) <| o_n) (by kernel_rfl) (fun a g hst hb => ?_)
     refine wp_ret ?_
     refine Zw ?_
     refine Zp ?_
     obtain rfl := Option.some.inj H0
     exact Zx rfl hst hb (Zk (s := 2)) (hst.at 0 rfl)
   · replace H0 := Zz hc6 H0
     refine r_s (L := [(1, _), (3, _)]) (T := [⟨[.old 0], _, [], [], [22]⟩, ⟨[.op 0 0], _, [], [0], [23]⟩, ⟨[.op 1 0], _, [], [0, 1], [24]⟩, ⟨[.op 2 0], _, [], [0, 1, 2], [25]⟩, ⟨[.op 3 0], _, [], Lr 4, [21]⟩]) (F := [.old 0, .old 1, .op 4 0]) (hst.pick [0, 1] rfl) hb Zb
       (o_p rfl (Ze Zkt rfl rfl u_0) <| o_p rfl (Zf ty_9 rfl rfl u_0) <| o_p rfl (Zf4 Tryz.underlying9 rfl rfl u_0) <| o_p rfl (Zci rfl rfl u_0 c_i) <| o_p rfl (Zc rfl rfl u_0) <| o_n) (by kernel_rfl) (fun a g hst hb => ?_)
     refine wp_cond_split (hst.bool 2 rfl) (fun hc7 => ?_) (fun hc7 => ?_)
     · replace H0 := Zy hc7 H0
       refine r_s (L := []) (T := [⟨[], _, [], [], [2]⟩]) (F := [.op 0 0]) (hst.pick [] rfl) hb Zb
         (o_p rfl (Zc rfl rfl c_i) <| o_n) (by kernel_rfl) (fun a g hst hb => ?_)
       refine wp_ret ?_
       refine Zw ?_
       refine Zp ?_
       obtain rfl := Option.some.inj H0
       exact Zx rfl hst hb (Zk (s := 2)) (hst.at 0 rfl)
     · replace H0 := Zz hc7 H0
       refine r_s (L := [(1, _), (3, _)]) (T := ⟨[.old 1], _, [], [], [27]⟩ :: ⟨[.op 0 0], _, [], [0], [28]⟩ :: ⟨[.op 1 0], _, [], [0, 1], [29]⟩ :: ⟨[.op 2 0, .old 0], _, [], [0, 1, 2], [30]⟩ :: ⟨[.op 2 0, .op 3 0], _, [], Lr 4, [31]⟩ :: ⟨[.op 2 0, .op 4 0], _, [], Lr 5, [32]⟩ :: ⟨[.op 2 0, .op 5 0], _, [], Lr 6, [33]⟩ :: ⟨[.op 6 0, .old 0], _, [], Lr 7, [34]⟩ :: ⟨[.op 6 0, .op 7 0], _, [], Lr 8, [35]⟩ :: ⟨[.op 6 0, .op 8 0], _, [], Lr 9, [36]⟩ :: ⟨[.op 2 0, .op 6 0, .op 9 0], _, [], Lr 10, [37]⟩ :: ⟨[.op 2 0, .op 10 0], _, [], Lr 11, [38]⟩ :: ⟨[.op 11 0, .old 0], _, [], Lr 12, [39]⟩ :: ⟨[.op 11 0, .op 12 0], _, [], Lr 13, [40]⟩ :: ⟨[.op 11 0, .old 0], _, [], Lr 12, [41]⟩ :: ⟨[.op 11 0, .op 14 0], _, [], 0 :: 1 :: 2 :: 3 :: 4 :: 5 :: 6 :: 7 :: 8 :: 9 :: 10 :: 11 :: 14 :: [], [42]⟩ :: ⟨[.op 11 0, .op 13 0, .op 15 0], _, [], Lr 16, [43]⟩ :: ⟨[.op 2 0, .op 11 0, .op 16 0], _, [], Lr 17, [44]⟩ :: ⟨[.op 2 0, .op 17 0], _, [], Lr 18, [45]⟩ :: ⟨[.op 18 0, .old 0], _, [], Lr 19, [46]⟩ :: ⟨[.op 18 0, .op 19 0], _, [], Lr 20, [47]⟩ :: ⟨[.op 18 0, .old 0], _, [], Lr 19, [48]⟩ :: ⟨[.op 18 0, .op 21 0], _, [], 0 :: 1 :: 2 :: 3 :: 4 :: 5 :: 6 :: 7 :: 8 :: 9 :: 10 :: 11 :: 12 :: 13 :: 14 :: 15 :: 16 :: 17 :: 18 :: 21 :: [], [49]⟩ :: ⟨[.op 18 0, .op 20 0, .op 22 0], _, [], Lr 23, [50]⟩ :: ⟨[.op 2 0, .op 18 0, .op 23 0], _, [], Lr 24, [51]⟩ :: ⟨[.op 2 0, .op 24 0], _, [], Lr 25, [52]⟩ :: ⟨[.op 25 0], _, [], Lr 26, [26]⟩ :: []) (F := [.old 0, .old 1, .op 26 0]) (hst.pick [0, 1] rfl) hb Zb
         (o_p rfl (Ze Zye rfl rfl u_0) <| o_p rfl (Zf ty_4 rfl rfl u_0) <| o_p rfl (Za rfl rfl u_0) <| o_g (g_t rfl rfl rfl (fun hG => Ze Zky rfl rfl u_0)) <| o_g (g_t rfl rfl rfl (fun hG => Zf ty_2 rfl rfl (Opd.gd hG u_0))) <| o_g (g_t rfl rfl rfl (fun hG => Zco rfl rfl (Opd.gd hG u_0) c_i)) <| o_g (g_t rfl rfl rfl (fun hG => Za rfl rfl (Opd.gd hG u_0))) <| o_g (g_fi rfl rfl rfl (fun hG => Ze Zkr rfl rfl u_0)) <| o_g (g_fi rfl rfl rfl (fun hG => Zf ty_2 rfl rfl (Opd.gd hG u_0))) <| o_g (g_fi rfl rfl rfl (fun hG => Zci rfl rfl (Opd.gd hG u_0) c_i)) <| o_g (g_t rfl rfl rfl (fun hG => Zbi rfl rfl (Opd.gd hG u_0) (fun hz => (Opd.gd (bA hG (bNF hz)) u_1)))) <| o_g (g_t rfl rfl rfl (fun hG => Za rfl rfl (Opd.gd hG u_0))) <| o_g (g_fi rfl rfl rfl (fun hG => Ze Zem rfl rfl u_0)) <| o_g (g_fi rfl rfl rfl (fun hG => Zf ty_2 rfl rfl (Opd.gd hG u_0))) <| o_g (g_fi rfl rfl rfl (fun hG => Ze Zky rfl rfl u_0)) <| o_g (g_fi rfl rfl rfl (fun hG => Zf ty_2 rfl rfl (Opd.gd hG u_0))) <| o_g (g_fi rfl rfl rfl (fun hG => Zco rfl rfl (Opd.gd hG u_0) (Opd.gd hG u_1))) <| o_g (g_t rfl rfl rfl (fun hG => Zbi rfl rfl (Opd.gd hG u_0) (fun hz => (Opd.gd (bA hG (bNF hz)) u_1)))) <| o_g (g_t rfl rfl rfl (fun hG => Za rfl rfl (Opd.gd hG u_0))) <| o_g (g_fi rfl rfl rfl (fun hG => Ze Zem rfl rfl u_0)) <| o_g (g_fi rfl rfl rfl (fun hG => Zf ty_2 rfl rfl (Opd.gd hG u_0))) <| o_g (g_fi rfl rfl rfl (fun hG => Ze Zkr rfl rfl u_0)) <| o_g (g_fi rfl rfl rfl (fun hG => Zf ty_2 rfl rfl (Opd.gd hG u_0))) <| o_g (g_fi rfl rfl rfl (fun hG => Zci rfl rfl (Opd.gd hG u_0) (Opd.gd hG u_1))) <| o_g (g_t rfl rfl rfl (fun hG => Zbi rfl rfl (Opd.gd hG u_0) (fun hz => (Opd.gd (bA hG (bNF hz)) u_1)))) <| o_p rfl (Zbf rfl rfl u_0 (fun hz => (Opd.gd hz u_1))) <| o_p rfl (Zc rfl rfl u_0) <| o_n) (by kernel_rfl) (fun a g hst hb => ?_)
       refine wp_cond_split (hst.bool 2 rfl) (fun hc8 => ?_) (fun hc8 => ?_)
       · replace H0 := Zy hc8 H0
         refine r_s (L := []) (T := [⟨[], _, [], [], [2]⟩]) (F := [.op 0 0]) (hst.pick [] rfl) hb Zb
           (o_p rfl (Zc rfl rfl c_i) <| o_n) (by kernel_rfl) (fun a g hst hb => ?_)
         refine wp_ret ?_
         refine Zw ?_
         refine Zp ?_
         obtain rfl := Option.some.inj H0
         exact Zx rfl hst hb (Zk (s := 2)) (hst.at 0 rfl)
       · replace H0 := Zz hc8 H0
         obtain ⟨r9, h10, H0⟩ := Zg H0
         refine r_s (L := [(1, _), (3, _)]) (T := [⟨[.old 0], _, [], [], [54]⟩, ⟨[.op 0 0], _, [], [0], [55]⟩, ⟨[.op 1 0], _, [], [0, 1], [56]⟩, ⟨[.op 2 0], _, [], [0, 1, 2], [57]⟩, ⟨[.op 3 0], _, [], Lr 4, [53]⟩]) (F := [.old 0, .old 1, .op 4 0]) (hst.pick [0, 1] rfl) hb Zb
           (o_p rfl (Ze Zls rfl rfl u_0) <| o_p rfl (Zf Zfb rfl rfl u_0) <| o_p rfl (Zo Z0r (Zm8 _ h10) rfl rfl (.cons u_0 .nil)) <| o_p rfl (Zcr rfl rfl u_0) <| o_p rfl (Zc rfl rfl u_0) <| o_n) (by kernel_rfl) (fun a g hst hb => ?_)
         refine wp_cond_split (hst.bool 2 rfl) (fun hc11 => ?_) (fun hc11 => ?_)
         · replace H0 := Zy hc11 H0
           refine r_s (L := []) (T := [⟨[], _, [], [], [2]⟩]) (F := [.op 0 0]) (hst.pick [] rfl) hb Zb
             (o_p rfl (Zc rfl rfl c_i) <| o_n) (by kernel_rfl) (fun a g hst hb => ?_)
           refine wp_ret ?_
           refine Zw ?_
           refine Zp ?_
           obtain rfl := Option.some.inj H0
           exact Zx rfl hst hb (Zk (s := 2)) (hst.at 0 rfl)
         · replace H0 := Zz hc11 H0
           refine r_s (L := [(1, _), (3, _)]) (T := [⟨[.old 1], _, [], [], [59]⟩, ⟨[.op 0 0], _, [], [0], [60]⟩, ⟨[.op 1 0], _, [], [0, 1], [61]⟩, ⟨[.op 2 0], _, [], [0, 1, 2], [58]⟩]) (F := [.old 0, .op 3 0]) (hst.pick [0, 1] rfl) hb Zb
             (o_p rfl (Ze Zys rfl rfl u_0) <| o_p rfl (Zf ty_4 rfl rfl u_0) <| o_p rfl (Zcr rfl rfl u_0) <| o_p rfl (Zc rfl rfl u_0) <| o_n) (by kernel_rfl) (fun a g hst hb => ?_)
           refine wp_cond_split (hst.bool 1 rfl) (fun hc12 => ?_) (fun hc12 => ?_)
           · replace H0 := Zy hc12 H0
             refine r_s (L := []) (T := [⟨[], _, [], [], [2]⟩]) (F := [.op 0 0]) (hst.pick [] rfl) hb Zb
               (o_p rfl (Zc rfl rfl c_i) <| o_n) (by kernel_rfl) (fun a g hst hb => ?_)
             refine wp_ret ?_
             refine Zw ?_
             refine Zp ?_
             obtain rfl := Option.some.inj H0
             exact Zx rfl hst hb (Zk (s := 2)) (hst.at 0 rfl)
           · replace H0 := Zz hc12 H0
             refine r_s (L := [(1, _)]) (T := [⟨[.old 0], _, [], [], [63]⟩, ⟨[.op 0 0], _, [], [0], [64]⟩, ⟨[.op 1 0], _, [], [0, 1], [65]⟩, ⟨[.op 2 0], _, [], [0, 1, 2], [66]⟩, ⟨[.op 3 0, .old 0], _, [], Lr 4, [67]⟩, ⟨[.op 3 0, .op 4 0], _, [], Lr 5, [68]⟩, ⟨[.op 3 0, .op 5 0], _, [], Lr 6, [69]⟩, ⟨[.op 3 0, .op 6 0], _, [], Lr 7, [70]⟩, ⟨[.op 7 0], _, [], Lr 8, [62]⟩]) (F := [.old 0, .op 8 0]) (hst.pick [0] rfl) hb Zb
               (o_p rfl (Ze Zh9 rfl rfl u_0) <| o_p rfl (Zf ty_3 rfl rfl u_0) <| o_p rfl (Zco rfl rfl u_0 c_i) <| o_p rfl (Za rfl rfl u_0) <| o_g (g_f rfl rfl rfl (fun hG => Ze Zh9 rfl rfl u_0)) <| o_g (g_f rfl rfl rfl (fun hG => Zf ty_3 rfl rfl (Opd.gd hG u_0))) <| o_g (g_f rfl rfl rfl (fun hG => Zci rfl rfl (Opd.gd hG u_0) c_i)) <| o_p rfl (Zbi rfl rfl u_0 (fun hz => (Opd.gd (bNF hz) u_1))) <| o_p rfl (Zc rfl rfl u_0) <| o_n) (by kernel_rfl) (fun a g hst hb => ?_)
             refine wp_cond_split (hst.bool 1 rfl) (fun hc13 => ?_) (fun hc13 => ?_)
             · replace H0 := Zy hc13 H0
               refine r_s (L := []) (T := [⟨[], _, [], [], [2]⟩]) (F := [.op 0 0]) (hst.pick [] rfl) hb Zb
                 (o_p rfl (Zc rfl rfl c_i) <| o_n) (by kernel_rfl) (fun a g hst hb => ?_)
               refine wp_ret ?_
               refine Zw ?_
               refine Zp ?_
               obtain rfl := Option.some.inj H0
               exact Zx rfl hst hb (Zk (s := 2)) (hst.at 0 rfl)
             · replace H0 := Zz hc13 H0
               refine r_s (L := [(1, _)]) (T := [⟨[.old 0], _, [], [], [72]⟩, ⟨[.op 0 0], _, [], [0], [73]⟩, ⟨[.op 1 0], _, [], [0, 1], [74]⟩, ⟨[.old 0], _, [], [], [75]⟩, ⟨[.op 3 0], _, [], [3], [76]⟩, ⟨[.op 2 0, .op 4 0], _, [], Lr 5, [77]⟩, ⟨[.op 5 0], _, [], Lr 6, [71]⟩]) (F := [.old 0, .op 6 0]) (hst.pick [0] rfl) hb Zb
                 (o_p rfl (Ze Zdh rfl rfl u_0) <| o_p rfl (Zf Ze5 rfl rfl u_0) <| o_p rfl (Zb4 Tryz.underlying50 rfl rfl u_0) <| o_p rfl (Ze Zh9 rfl rfl u_0) <| o_p rfl (Zf ty_3 rfl rfl u_0) <| o_p rfl (Zci rfl rfl u_0 u_1) <| o_p rfl (Zc rfl rfl u_0) <| o_n) (by kernel_rfl) (fun a g hst hb => ?_)
               refine wp_cond_split (hst.bool 1 rfl) (fun hc14 => ?_) (fun hc14 => ?_)
               · replace H0 := Zy hc14 H0
                 refine r_s (L := []) (T := [⟨[], _, [], [], [2]⟩]) (F := [.op 0 0]) (hst.pick [] rfl) hb Zb
                   (o_p rfl (Zc rfl rfl c_i) <| o_n) (by kernel_rfl) (fun a g hst hb => ?_)
                 refine wp_ret ?_
                 refine Zw ?_
                 refine Zp ?_
                 obtain rfl := Option.some.inj H0
                 exact Zx rfl hst hb (Zk (s := 2)) (hst.at 0 rfl)
               · replace H0 := Zz hc14 H0
                 refine wp_skip ?_
                 refine Zbu ?_
                 refine Zv ?_
                 obtain ⟨r15, h16, H0⟩ := Zg H0
                 refine r_s (L := [(1, _)]) (T := [⟨[.old 0], _, [], [], [78]⟩, ⟨[.op 0 0], _, [], [0], [79]⟩, ⟨[.old 0], _, [], [], [80]⟩, ⟨[.op 2 0], _, [], [2], [81]⟩, ⟨[.op 1 0, .op 3 0], _, [], Lr 4, [82]⟩, ⟨[.op 4 0], _, [], Lr 5, [2]⟩]) (F := [.op 5 0]) (hst.pick [0] rfl) hb Zb
                   (o_p rfl (Ze Zgk rfl rfl u_0) <| o_p rfl (Zf ty_3 rfl rfl u_0) <| o_p rfl (Ze Zdh rfl rfl u_0) <| o_p rfl (Zf Ze5 rfl rfl u_0) <| o_p rfl (Zo Zbbb (Zyt _ _ h16) rfl rfl (.cons u_0 (.cons u_1 .nil))) <| o_p rfl (Zc rfl rfl u_0) <| o_n) (by kernel_rfl) (fun a g hst hb => ?_)
                 refine wp_ret ?_
                 obtain rfl := Option.some.inj H0
                 exact Zx rfl hst hb (Zk (s := 2)) (hst.at 0 rfl)
theorem Zdp (a0 : ByteArray) (a1 : Zd) (a2 : shelf_nodeT) (a3 : shelf_nodeT) {r : shelf_nodeT} (h : Zdl a0 a1 a2 a3 = some r) : FnOk Tryz.prog 58 [(pStr a0), (Zj.pd a1), (Z4.pd a2), (Z4.pd a3)] (Z4.pd r) := by
 have H0 := h
 unfold Zdl at H0
 clear h
 refine Zbr (N := 21) Tryz.func58 rfl rfl (Nat.le_of_ble_eq_true rfl) rfl rfl (fun a g0 hst hb => ?_)
 refine r_s (T := [⟨[.old 1], _, [], [], [5]⟩, ⟨[], [(8, (Z4.pd shelf_nodeT.nil))], [], [], [8]⟩]) (F := [.old 0, .old 2, .old 3, .op 0 0]) hst hb Zb
   (o_p rfl (Zbh rfl rfl u_0) <| o_p rfl (Zc rfl rfl (Opd.c (fun g => Zd1 g))) <| o_n) (by kernel_rfl) (fun a g hst hb => ?_)
 obtain ⟨r1, h2, H0⟩ := Zg H0; obtain ⟨r3, h4, H0⟩ := Zg H0
 refine r_s (T := ⟨[.old 0], _, [], [], [9]⟩ :: ⟨[.old 3], _, [], [], [10]⟩ :: ⟨[.old 1], _, [], [], [11]⟩ :: ⟨[.old 2], _, [], [], [12]⟩ :: ⟨[.old 1], _, [], [], [13]⟩ :: ⟨[.op 4 0], _, [], [4], [14]⟩ :: ⟨[.old 2], _, [], [], [15]⟩ :: ⟨[.op 6 0], _, [], [4, 5, 6], [16]⟩ :: ⟨[.op 5 0, .op 7 0], _, [], List.range' 4 4, [17]⟩ :: ⟨[.op 8 0], _, [], List.range' 4 5, [18]⟩ :: ⟨[.op 0 0, .op 1 0, .op 2 0, .op 3 0, .op 9 0], _, [], Lr 10, [19]⟩ :: ⟨[.op 10 0], _, [], Lr 11, [20]⟩ :: ⟨[.op 11 0], _, [], Lr 12, [8]⟩ :: []) (F := [.op 12 0]) hst hb Zb
   (o_p rfl (Za rfl rfl u_0) <| o_p rfl (Zf Zbn rfl rfl u_0) <| o_p rfl (Za rfl rfl u_0) <| o_p rfl (Za rfl rfl u_0) <| o_p rfl (Za rfl rfl u_0) <| o_p rfl (Zo Zmk (Zdb _ h2) rfl rfl (.cons u_0 .nil)) <| o_p rfl (Za rfl rfl u_0) <| o_p rfl (Zo Zmk (Zdb _ h4) rfl rfl (.cons u_0 .nil)) <| o_p rfl (Zcd rfl rfl u_0 u_1 rfl) <| o_p rfl (Zcd rfl rfl u_0 c_i rfl) <| o_p rfl (Zs7 rfl rfl u_0 u_1 u_2 u_3 u_4) <| o_p rfl (Zbh rfl rfl u_0) <| o_p rfl (Zc rfl rfl (Opd.imp u_0 (fun _ _ h => Zuq h))) <| o_n) (by kernel_rfl) (fun a g hst hb => ?_)
 refine wp_ret ?_
 obtain rfl := Option.some.inj H0
 exact Zx rfl hst hb (Zk (s := 8)) (hst.at 0 rfl)
theorem Zkj (a0 : shelf_nodeT) (a1 : shelf_nodeT) {r : Bool} (h : Zhw a0 a1 = some r) : FnOk Tryz.prog 95 [(Z4.pd a0), (Z4.pd a1)] (Zba r) := by
 have H0 := h
 unfold Zhw at H0
 clear h
 refine Zbr (N := 13) Tryz.func95 rfl rfl (Nat.le_of_ble_eq_true rfl) rfl rfl (fun a g0 hst hb => ?_)
 refine r_s (T := [⟨[], _, [], [], [4]⟩]) (F := [.old 0, .old 1]) hst hb Zb
   (o_p rfl (Zc rfl rfl c_b) <| o_n) (by kernel_rfl) (fun a g hst hb => ?_)
 obtain ⟨r1, h2, H0⟩ := Zg H0; obtain ⟨r3, h4, H0⟩ := Zg H0
 refine r_s (T := [⟨[.old 0], _, [], [], [5]⟩, ⟨[.op 0 0], _, [], [0], [6]⟩, ⟨[.op 1 0], _, [], [0, 1], [7]⟩, ⟨[.old 1], _, [], [], [8]⟩, ⟨[.op 3 0], _, [], [0, 1, 3], [9]⟩, ⟨[.op 4 0], _, [], [0, 1, 3, 4], [10]⟩, ⟨[.op 5 0], _, [], [0, 1, 3, 4, 5], [11]⟩, ⟨[.op 2 0, .op 6 0], _, [], Lr 7, [12]⟩, ⟨[.op 7 0], _, [], Lr 8, [4]⟩]) (F := [.op 8 0]) hst hb Zb
   (o_p rfl (Za rfl rfl u_0) <| o_p rfl (Zo Zmk (Zdb _ h2) rfl rfl (.cons u_0 .nil)) <| o_p rfl (Zcd rfl rfl u_0 c_i rfl) <| o_p rfl (Za rfl rfl u_0) <| o_p rfl (Zo Zmk (Zdb _ h4) rfl rfl (.cons u_0 .nil)) <| o_p rfl (Zcd rfl rfl u_0 c_i rfl) <| o_p rfl (Zyr rfl rfl c_i u_0 rfl) <| o_p rfl (Zci rfl rfl u_0 u_1) <| o_p rfl (Zc rfl rfl u_0) <| o_n) (by kernel_rfl) (fun a g hst hb => ?_)
 refine wp_ret ?_
 obtain rfl := Option.some.inj H0
 exact Zx rfl hst hb (Zk (s := 4)) (hst.at 0 rfl)
theorem Zji (a0 : ByteArray) (a1 : Zd) (a2 : shelf_nodeT) (a3 : shelf_nodeT) {r : shelf_nodeT} (h : Zhq a0 a1 a2 a3 = some r) : FnOk Tryz.prog 59 [(pStr a0), (Zj.pd a1), (Z4.pd a2), (Z4.pd a3)] (Z4.pd r) := by
 have H0 := h
 unfold Zhq at H0
 clear h
 refine Zbr (N := 182) Tryz.func59 rfl rfl (Nat.le_of_ble_eq_true rfl) rfl rfl (fun a g0 hst hb => ?_)
 refine r_s (T := [⟨[.old 1], _, [], [], [5]⟩, ⟨[], [(8, (Z4.pd shelf_nodeT.nil))], [], [], [8]⟩]) (F := [.old 0, .old 2, .old 3, .op 0 0]) hst hb Zb
   (o_p rfl (Zbh rfl rfl u_0) <| o_p rfl (Zc rfl rfl (Opd.c (fun g => Zd1 g))) <| o_n) (by kernel_rfl) (fun a g hst hb => ?_)
 refine wp_seq ?_
 refine wp_block ?_
 obtain ⟨r1, h2, H0⟩ := Zg H0; obtain ⟨n3, h4, H0⟩ := Zg H0; obtain ⟨r5, h6, H0⟩ := Zg H0; obtain ⟨n7, h8, H0⟩ := Zg H0; obtain ⟨r9, h10, H0⟩ := Zg H0
 refine r_s (T := ⟨[.old 2], _, [], [], [12]⟩ :: ⟨[.old 1], _, [], [], [13]⟩ :: ⟨[.op 0 0, .op 1 0], _, [], [0, 1], [14]⟩ :: ⟨[.op 2 0], _, [], [0, 1, 2], [15]⟩ :: ⟨[.op 3 0, .old 2], _, [], Lr 4, [16]⟩ :: ⟨[.op 3 0, .op 4 0], _, [], Lr 5, [17]⟩ :: ⟨[.op 3 0, .op 5 0], _, [], Lr 6, [18]⟩ :: ⟨[.op 3 0, .op 6 0], _, [], Lr 7, [19]⟩ :: ⟨[.op 3 0, .op 7 0], _, [], Lr 8, [20]⟩ :: ⟨[.op 3 0, .op 8 0], _, [], Lr 9, [21]⟩ :: ⟨[.op 3 0, .old 2], _, [], Lr 4, [22]⟩ :: ⟨[.op 3 0, .op 10 0], _, [], [0, 1, 2, 3, 10], [23]⟩ :: ⟨[.op 3 0, .op 11 0], _, [], [0, 1, 2, 3, 10, 11], [24]⟩ :: ⟨[.op 3 0, .op 12 0], _, [], [0, 1, 2, 3, 10, 11, 12], [25]⟩ :: ⟨[.op 3 0, .op 13 0], _, [], 0 :: 1 :: 2 :: 3 :: 4 :: 5 :: 6 :: 7 :: 8 :: 10 :: 11 :: 12 :: 13 :: [], [26]⟩ :: ⟨[.op 3 0, .op 14 0], _, [], 0 :: 1 :: 2 :: 3 :: 4 :: 5 :: 6 :: 7 :: 8 :: 10 :: 11 :: 12 :: 13 :: 14 :: [], [27]⟩ :: ⟨[.op 3 0, .op 15 0], _, [], 0 :: 1 :: 2 :: 3 :: 4 :: 5 :: 6 :: 7 :: 8 :: 10 :: 11 :: 12 :: 13 :: 14 :: 15 :: [], [28]⟩ :: ⟨[.op 3 0, .op 9 0, .op 16 0], _, [], Lr 17, [29]⟩ :: ⟨[.op 3 0, .op 17 0], _, [], Lr 18, [30]⟩ :: ⟨[.op 18 0], _, [], Lr 19, [11]⟩ :: []) (F := [.old 0, .old 1, .old 2, .old 3, .op 19 0]) hst hb Zb
   (o_p rfl (Za rfl rfl u_0) <| o_p rfl (Za rfl rfl u_0) <| o_p rfl (Zo Zwv (Zkj _ _ h2) rfl rfl (.cons u_0 (.cons u_1 .nil))) <| o_p rfl (Za rfl rfl u_0) <| o_g (g_t rfl rfl rfl (fun hG => Za rfl rfl u_0)) <| o_g (g_t rfl rfl rfl (fun hG => Zq rfl rfl (Opd.imp (Opd.gd hG u_0) (fun _ _ h => Zr (Zbb h4 hG) h)) (fun _ _ ⟨_, _, _, e, _⟩ => ⟨_, e⟩))) <| o_g (g_t rfl rfl rfl (fun hG => Ze Zdx rfl rfl (Opd.gd hG u_0))) <| o_g (g_t rfl rfl rfl (fun hG => Zf Zcz rfl rfl (Opd.gd hG u_0))) <| o_g (g_t rfl rfl rfl (fun hG => Zo Zmk (Zdb _ (Zbb h6 hG)) rfl rfl (.cons (Opd.gd hG u_0) .nil))) <| o_g (g_t rfl rfl rfl (fun hG => Zcd rfl rfl (Opd.gd hG u_0) c_i rfl)) <| o_g (g_t rfl rfl rfl (fun hG => Za rfl rfl u_0)) <| o_g (g_t rfl rfl rfl (fun hG => Zq rfl rfl (Opd.imp (Opd.gd hG u_0) (fun _ _ h => Zr (Zbb h8 hG) h)) (fun _ _ ⟨_, _, _, e, _⟩ => ⟨_, e⟩))) <| o_g (g_t rfl rfl rfl (fun hG => Ze Zeg rfl rfl (Opd.gd hG u_0))) <| o_g (g_t rfl rfl rfl (fun hG => Zf Zcz rfl rfl (Opd.gd hG u_0))) <| o_g (g_t rfl rfl rfl (fun hG => Zo Zmk (Zdb _ (Zbb h10 hG)) rfl rfl (.cons (Opd.gd hG u_0) .nil))) <| o_g (g_t rfl rfl rfl (fun hG => Zcd rfl rfl (Opd.gd hG u_0) c_i rfl)) <| o_g (g_t rfl rfl rfl (fun hG => Zyr rfl rfl c_i (Opd.gd hG u_0) rfl)) <| o_g (g_t rfl rfl rfl (fun hG => Zco rfl rfl (Opd.gd hG u_0) (Opd.gd hG u_1))) <| o_p rfl (Zbf rfl rfl u_0 (fun hz => (Opd.gd hz u_1))) <| o_p rfl (Zc rfl rfl u_0) <| o_n) (by kernel_rfl) (fun a g hst hb => ?_)
 refine wp_cond_split (hst.bool 4 rfl) (fun hc11 => ?_) (fun hc11 => ?_)
 · replace H0 := Zy hc11 H0
   obtain ⟨n12, h13, H0⟩ := Zg H0; obtain ⟨r14, h15, H0⟩ := Zg H0; obtain ⟨r16, h17, H0⟩ := Zg H0
   refine r_s (L := [(0, _), (2, _), (3, _), (5, _)]) (T := ⟨[.old 2], _, [], [], [31]⟩ :: ⟨[.op 0 0], _, [], [0], [32]⟩ :: ⟨[.op 1 0], _, [], [0, 1], [33]⟩ :: ⟨[.op 2 0], _, [], [0, 1, 2], [34]⟩ :: ⟨[.old 2], _, [], [], [35]⟩ :: ⟨[.op 4 0], _, [], [4], [36]⟩ :: ⟨[.op 5 0], _, [], [4, 5], [37]⟩ :: ⟨[.op 6 0], _, [], [4, 5, 6], [38]⟩ :: ⟨[.old 0], _, [], [], [39]⟩ :: ⟨[.old 3], _, [], [], [40]⟩ :: ⟨[.old 1], _, [], [], [41]⟩ :: ⟨[.old 2], _, [], [], [42]⟩ :: ⟨[.op 11 0], _, [], [11], [43]⟩ :: ⟨[.op 12 0], _, [], [11, 12], [44]⟩ :: ⟨[.op 13 0], _, [], [11, 12, 13], [45]⟩ :: ⟨[.op 8 0, .op 9 0, .op 10 0, .op 14 0], _, [], List.range' 8 7, [46]⟩ :: ⟨[.old 2], _, [], [], [47]⟩ :: ⟨[.op 16 0], _, [], [16], [48]⟩ :: ⟨[.op 17 0], _, [], [16, 17], [49]⟩ :: ⟨[.op 18 0], _, [], [16, 17, 18], [50]⟩ :: ⟨[.op 3 0, .op 7 0, .op 15 0, .op 19 0], _, [], Lr 20, [51]⟩ :: ⟨[.op 20 0], _, [], Lr 21, [8]⟩ :: []) (F := [.op 21 0]) (hst.pick [0, 1, 2, 3] rfl) hb Zb
     (o_p rfl (Za rfl rfl u_0) <| o_p rfl (Zq rfl rfl (Opd.imp u_0 (fun _ _ h => Zr h13 h)) (fun _ _ ⟨_, _, _, e, _⟩ => ⟨_, e⟩)) <| o_p rfl (Ze Zef rfl rfl u_0) <| o_p rfl (Zf ty_9 rfl rfl u_0) <| o_p rfl (Za rfl rfl u_0) <| o_p rfl (Zq rfl rfl (Opd.imp u_0 (fun _ _ h => Zr h13 h)) (fun _ _ ⟨_, _, _, e, _⟩ => ⟨_, e⟩)) <| o_p rfl (Ze Zgp rfl rfl u_0) <| o_p rfl (Zf Zbn rfl rfl u_0) <| o_p rfl (Za rfl rfl u_0) <| o_p rfl (Zf Zbn rfl rfl u_0) <| o_p rfl (Za rfl rfl u_0) <| o_p rfl (Za rfl rfl u_0) <| o_p rfl (Zq rfl rfl (Opd.imp u_0 (fun _ _ h => Zr h13 h)) (fun _ _ ⟨_, _, _, e, _⟩ => ⟨_, e⟩)) <| o_p rfl (Ze Zdx rfl rfl u_0) <| o_p rfl (Zf Zcz rfl rfl u_0) <| o_p rfl (Zo Zkn (Zdp _ _ _ _ h15) rfl rfl (.cons u_0 (.cons u_1 (.cons u_2 (.cons u_3 .nil))))) <| o_p rfl (Za rfl rfl u_0) <| o_p rfl (Zq rfl rfl (Opd.imp u_0 (fun _ _ h => Zr h13 h)) (fun _ _ ⟨_, _, _, e, _⟩ => ⟨_, e⟩)) <| o_p rfl (Ze Zeg rfl rfl u_0) <| o_p rfl (Zf Zcz rfl rfl u_0) <| o_p rfl (Zo Zkn (Zdp _ _ _ _ h17) rfl rfl (.cons u_0 (.cons u_1 (.cons u_2 (.cons u_3 .nil))))) <| o_p rfl (Zc rfl rfl u_0) <| o_n) (by kernel_rfl) (fun a g hst hb => ?_)
   refine wp_ret ?_
   refine Zw ?_
   refine Zp ?_
   obtain rfl := Option.some.inj H0
   exact Zx rfl hst hb (Zk (s := 8)) (hst.at 0 rfl)
 · replace H0 := Zz hc11 H0
   obtain ⟨r18, h19, H0⟩ := Zg H0
   refine r_s (L := [(0, _), (2, _), (3, _), (5, _)]) (T := [⟨[.old 2], _, [], [], [53]⟩, ⟨[.old 1], _, [], [], [54]⟩, ⟨[.op 0 0, .op 1 0], _, [], [0, 1], [55]⟩, ⟨[.op 2 0], _, [], [0, 1, 2], [52]⟩]) (F := [.old 0, .old 1, .old 2, .old 3, .op 3 0]) (hst.pick [0, 1, 2, 3] rfl) hb Zb
     (o_p rfl (Za rfl rfl u_0) <| o_p rfl (Za rfl rfl u_0) <| o_p rfl (Zo Zwv (Zkj _ _ h19) rfl rfl (.cons u_0 (.cons u_1 .nil))) <| o_p rfl (Zc rfl rfl u_0) <| o_n) (by kernel_rfl) (fun a g hst hb => ?_)
   refine wp_cond_split (hst.bool 4 rfl) (fun hc20 => ?_) (fun hc20 => ?_)
   · replace H0 := Zy hc20 H0
     obtain ⟨n21, h22, H0⟩ := Zg H0
     refine r_s (L := [(0, _), (2, _), (3, _), (5, _)]) (T := [⟨[.old 2], _, [], [], [56]⟩, ⟨[.op 0 0], _, [], [0], [57]⟩, ⟨[.op 1 0], _, [], [0, 1], [58]⟩, ⟨[.op 2 0], _, [], [0, 1, 2], [59]⟩, ⟨[.op 3 0], _, [], Lr 4, [9]⟩]) (F := [.old 0, .old 1, .old 2, .old 3, .op 4 0]) (hst.pick [0, 1, 2, 3] rfl) hb Zb
       (o_p rfl (Za rfl rfl u_0) <| o_p rfl (Zq rfl rfl (Opd.imp u_0 (fun _ _ h => Zr h22 h)) (fun _ _ ⟨_, _, _, e, _⟩ => ⟨_, e⟩)) <| o_p rfl (Ze Zdx rfl rfl u_0) <| o_p rfl (Zf Zcz rfl rfl u_0) <| o_p rfl (Zc rfl rfl u_0) <| o_n) (by kernel_rfl) (fun a g hst hb => ?_)
     obtain ⟨n23, h24, H0⟩ := Zg H0; obtain ⟨r25, h26, H0⟩ := Zg H0; obtain ⟨r27, h28, H0⟩ := Zg H0; obtain ⟨r29, h30, H0⟩ := Zg H0
     refine r_s (T := ⟨[.old 4], _, [], [], [60]⟩ :: ⟨[.op 0 0], _, [], [0], [61]⟩ :: ⟨[.op 1 0], _, [], [0, 1], [62]⟩ :: ⟨[.op 2 0], _, [], [0, 1, 2], [63]⟩ :: ⟨[.old 4], _, [], [], [64]⟩ :: ⟨[.op 4 0], _, [], [4], [65]⟩ :: ⟨[.op 5 0], _, [], [4, 5], [66]⟩ :: ⟨[.op 6 0], _, [], [4, 5, 6], [67]⟩ :: ⟨[.old 0], _, [], [], [68]⟩ :: ⟨[.old 3], _, [], [], [69]⟩ :: ⟨[.old 1], _, [], [], [70]⟩ :: ⟨[.old 4], _, [], [], [71]⟩ :: ⟨[.op 11 0], _, [], [11], [72]⟩ :: ⟨[.op 12 0], _, [], [11, 12], [73]⟩ :: ⟨[.op 13 0], _, [], [11, 12, 13], [74]⟩ :: ⟨[.op 8 0, .op 9 0, .op 10 0, .op 14 0], _, [], List.range' 8 7, [75]⟩ :: ⟨[.old 2], _, [], [], [76]⟩ :: ⟨[.op 16 0], _, [], [16], [77]⟩ :: ⟨[.op 17 0], _, [], [16, 17], [78]⟩ :: ⟨[.op 18 0], _, [], [16, 17, 18], [79]⟩ :: ⟨[.old 2], _, [], [], [80]⟩ :: ⟨[.op 20 0], _, [], [20], [81]⟩ :: ⟨[.op 21 0], _, [], [20, 21], [82]⟩ :: ⟨[.op 22 0], _, [], [20, 21, 22], [83]⟩ :: ⟨[.old 4], _, [], [], [84]⟩ :: ⟨[.op 24 0], _, [], [24], [85]⟩ :: ⟨[.op 25 0], _, [], [24, 25], [86]⟩ :: ⟨[.op 26 0], _, [], [24, 25, 26], [87]⟩ :: ⟨[.old 2], _, [], [], [88]⟩ :: ⟨[.op 28 0], _, [], [28], [89]⟩ :: ⟨[.op 29 0], _, [], [28, 29], [90]⟩ :: ⟨[.op 30 0], _, [], [28, 29, 30], [91]⟩ :: ⟨[.op 19 0, .op 23 0, .op 27 0, .op 31 0], _, [], List.range' 8 24, [92]⟩ :: ⟨[.op 3 0, .op 7 0, .op 15 0, .op 32 0], _, [], Lr 33, [93]⟩ :: ⟨[.op 33 0], _, [], Lr 34, [8]⟩ :: []) (F := [.op 34 0]) hst hb Zb
       (o_p rfl (Za rfl rfl u_0) <| o_p rfl (Zq rfl rfl (Opd.imp u_0 (fun _ _ h => Zr h24 h)) (fun _ _ ⟨_, _, _, e, _⟩ => ⟨_, e⟩)) <| o_p rfl (Ze Zef rfl rfl u_0) <| o_p rfl (Zf ty_9 rfl rfl u_0) <| o_p rfl (Za rfl rfl u_0) <| o_p rfl (Zq rfl rfl (Opd.imp u_0 (fun _ _ h => Zr h24 h)) (fun _ _ ⟨_, _, _, e, _⟩ => ⟨_, e⟩)) <| o_p rfl (Ze Zgp rfl rfl u_0) <| o_p rfl (Zf Zbn rfl rfl u_0) <| o_p rfl (Za rfl rfl u_0) <| o_p rfl (Zf Zbn rfl rfl u_0) <| o_p rfl (Za rfl rfl u_0) <| o_p rfl (Za rfl rfl u_0) <| o_p rfl (Zq rfl rfl (Opd.imp u_0 (fun _ _ h => Zr h24 h)) (fun _ _ ⟨_, _, _, e, _⟩ => ⟨_, e⟩)) <| o_p rfl (Ze Zdx rfl rfl u_0) <| o_p rfl (Zf Zcz rfl rfl u_0) <| o_p rfl (Zo Zkn (Zdp _ _ _ _ h26) rfl rfl (.cons u_0 (.cons u_1 (.cons u_2 (.cons u_3 .nil))))) <| o_p rfl (Za rfl rfl u_0) <| o_p rfl (Zq rfl rfl (Opd.imp u_0 (fun _ _ h => Zr h22 h)) (fun _ _ ⟨_, _, _, e, _⟩ => ⟨_, e⟩)) <| o_p rfl (Ze Zef rfl rfl u_0) <| o_p rfl (Zf ty_9 rfl rfl u_0) <| o_p rfl (Za rfl rfl u_0) <| o_p rfl (Zq rfl rfl (Opd.imp u_0 (fun _ _ h => Zr h22 h)) (fun _ _ ⟨_, _, _, e, _⟩ => ⟨_, e⟩)) <| o_p rfl (Ze Zgp rfl rfl u_0) <| o_p rfl (Zf Zbn rfl rfl u_0) <| o_p rfl (Za rfl rfl u_0) <| o_p rfl (Zq rfl rfl (Opd.imp u_0 (fun _ _ h => Zr h24 h)) (fun _ _ ⟨_, _, _, e, _⟩ => ⟨_, e⟩)) <| o_p rfl (Ze Zeg rfl rfl u_0) <| o_p rfl (Zf Zcz rfl rfl u_0) <| o_p rfl (Za rfl rfl u_0) <| o_p rfl (Zq rfl rfl (Opd.imp u_0 (fun _ _ h => Zr h22 h)) (fun _ _ ⟨_, _, _, e, _⟩ => ⟨_, e⟩)) <| o_p rfl (Ze Zeg rfl rfl u_0) <| o_p rfl (Zf Zcz rfl rfl u_0) <| o_p rfl (Zo Zkn (Zdp _ _ _ _ h28) rfl rfl (.cons u_0 (.cons u_1 (.cons u_2 (.cons u_3 .nil))))) <| o_p rfl (Zo Zkn (Zdp _ _ _ _ h30) rfl rfl (.cons u_0 (.cons u_1 (.cons u_2 (.cons u_3 .nil))))) <| o_p rfl (Zc rfl rfl u_0) <| o_n) (by kernel_rfl) (fun a g hst hb => ?_)
     refine wp_ret ?_
     refine Zw ?_
     refine Zp ?_
     obtain rfl := Option.some.inj H0
     exact Zx rfl hst hb (Zk (s := 8)) (hst.at 0 rfl)
   · replace H0 := Zz hc20 H0
     obtain ⟨r31, h32, H0⟩ := Zg H0; obtain ⟨n33, h34, H0⟩ := Zg H0; obtain ⟨r35, h36, H0⟩ := Zg H0; obtain ⟨n37, h38, H0⟩ := Zg H0; obtain ⟨r39, h40, H0⟩ := Zg H0
     refine r_s (L := [(0, _), (2, _), (3, _), (5, _)]) (T := ⟨[.old 1], _, [], [], [95]⟩ :: ⟨[.old 2], _, [], [], [96]⟩ :: ⟨[.op 0 0, .op 1 0], _, [], [0, 1], [97]⟩ :: ⟨[.op 2 0], _, [], [0, 1, 2], [98]⟩ :: ⟨[.op 3 0, .old 1], _, [], Lr 4, [99]⟩ :: ⟨[.op 3 0, .op 4 0], _, [], Lr 5, [100]⟩ :: ⟨[.op 3 0, .op 5 0], _, [], Lr 6, [101]⟩ :: ⟨[.op 3 0, .op 6 0], _, [], Lr 7, [102]⟩ :: ⟨[.op 3 0, .op 7 0], _, [], Lr 8, [103]⟩ :: ⟨[.op 3 0, .op 8 0], _, [], Lr 9, [104]⟩ :: ⟨[.op 3 0, .old 1], _, [], Lr 4, [105]⟩ :: ⟨[.op 3 0, .op 10 0], _, [], [0, 1, 2, 3, 10], [106]⟩ :: ⟨[.op 3 0, .op 11 0], _, [], [0, 1, 2, 3, 10, 11], [107]⟩ :: ⟨[.op 3 0, .op 12 0], _, [], [0, 1, 2, 3, 10, 11, 12], [108]⟩ :: ⟨[.op 3 0, .op 13 0], _, [], 0 :: 1 :: 2 :: 3 :: 4 :: 5 :: 6 :: 7 :: 8 :: 10 :: 11 :: 12 :: 13 :: [], [109]⟩ :: ⟨[.op 3 0, .op 14 0], _, [], 0 :: 1 :: 2 :: 3 :: 4 :: 5 :: 6 :: 7 :: 8 :: 10 :: 11 :: 12 :: 13 :: 14 :: [], [110]⟩ :: ⟨[.op 3 0, .op 15 0], _, [], 0 :: 1 :: 2 :: 3 :: 4 :: 5 :: 6 :: 7 :: 8 :: 10 :: 11 :: 12 :: 13 :: 14 :: 15 :: [], [111]⟩ :: ⟨[.op 3 0, .op 9 0, .op 16 0], _, [], Lr 17, [112]⟩ :: ⟨[.op 3 0, .op 17 0], _, [], Lr 18, [113]⟩ :: ⟨[.op 18 0], _, [], Lr 19, [94]⟩ :: []) (F := [.old 0, .old 1, .old 2, .old 3, .op 19 0]) (hst.pick [0, 1, 2, 3] rfl) hb Zb
       (o_p rfl (Za rfl rfl u_0) <| o_p rfl (Za rfl rfl u_0) <| o_p rfl (Zo Zwv (Zkj _ _ h32) rfl rfl (.cons u_0 (.cons u_1 .nil))) <| o_p rfl (Za rfl rfl u_0) <| o_g (g_t rfl rfl rfl (fun hG => Za rfl rfl u_0)) <| o_g (g_t rfl rfl rfl (fun hG => Zq rfl rfl (Opd.imp (Opd.gd hG u_0) (fun _ _ h => Zr (Zbb h34 hG) h)) (fun _ _ ⟨_, _, _, e, _⟩ => ⟨_, e⟩))) <| o_g (g_t rfl rfl rfl (fun hG => Ze Zeg rfl rfl (Opd.gd hG u_0))) <| o_g (g_t rfl rfl rfl (fun hG => Zf Zcz rfl rfl (Opd.gd hG u_0))) <| o_g (g_t rfl rfl rfl (fun hG => Zo Zmk (Zdb _ (Zbb h36 hG)) rfl rfl (.cons (Opd.gd hG u_0) .nil))) <| o_g (g_t rfl rfl rfl (fun hG => Zcd rfl rfl (Opd.gd hG u_0) c_i rfl)) <| o_g (g_t rfl rfl rfl (fun hG => Za rfl rfl u_0)) <| o_g (g_t rfl rfl rfl (fun hG => Zq rfl rfl (Opd.imp (Opd.gd hG u_0) (fun _ _ h => Zr (Zbb h38 hG) h)) (fun _ _ ⟨_, _, _, e, _⟩ => ⟨_, e⟩))) <| o_g (g_t rfl rfl rfl (fun hG => Ze Zdx rfl rfl (Opd.gd hG u_0))) <| o_g (g_t rfl rfl rfl (fun hG => Zf Zcz rfl rfl (Opd.gd hG u_0))) <| o_g (g_t rfl rfl rfl (fun hG => Zo Zmk (Zdb _ (Zbb h40 hG)) rfl rfl (.cons (Opd.gd hG u_0) .nil))) <| o_g (g_t rfl rfl rfl (fun hG => Zcd rfl rfl (Opd.gd hG u_0) c_i rfl)) <| o_g (g_t rfl rfl rfl (fun hG => Zyr rfl rfl c_i (Opd.gd hG u_0) rfl)) <| o_g (g_t rfl rfl rfl (fun hG => Zco rfl rfl (Opd.gd hG u_0) (Opd.gd hG u_1))) <| o_p rfl (Zbf rfl rfl u_0 (fun hz => (Opd.gd hz u_1))) <| o_p rfl (Zc rfl rfl u_0) <| o_n) (by kernel_rfl) (fun a g hst hb => ?_)
     refine wp_cond_split (hst.bool 4 rfl) (fun hc41 => ?_) (fun hc41 => ?_)
     · replace H0 := Zy hc41 H0
       obtain ⟨n42, h43, H0⟩ := Zg H0; obtain ⟨r44, h45, H0⟩ := Zg H0; obtain ⟨r46, h47, H0⟩ := Zg H0
       refine r_s (L := [(0, _), (2, _), (3, _), (5, _)]) (T := ⟨[.old 1], _, [], [], [114]⟩ :: ⟨[.op 0 0], _, [], [0], [115]⟩ :: ⟨[.op 1 0], _, [], [0, 1], [116]⟩ :: ⟨[.op 2 0], _, [], [0, 1, 2], [117]⟩ :: ⟨[.old 1], _, [], [], [118]⟩ :: ⟨[.op 4 0], _, [], [4], [119]⟩ :: ⟨[.op 5 0], _, [], [4, 5], [120]⟩ :: ⟨[.op 6 0], _, [], [4, 5, 6], [121]⟩ :: ⟨[.old 1], _, [], [], [122]⟩ :: ⟨[.op 8 0], _, [], [8], [123]⟩ :: ⟨[.op 9 0], _, [], [8, 9], [124]⟩ :: ⟨[.op 10 0], _, [], [8, 9, 10], [125]⟩ :: ⟨[.old 0], _, [], [], [126]⟩ :: ⟨[.old 3], _, [], [], [127]⟩ :: ⟨[.old 1], _, [], [], [128]⟩ :: ⟨[.op 14 0], _, [], [14], [129]⟩ :: ⟨[.op 15 0], _, [], [14, 15], [130]⟩ :: ⟨[.op 16 0], _, [], [14, 15, 16], [131]⟩ :: ⟨[.old 2], _, [], [], [132]⟩ :: ⟨[.op 12 0, .op 13 0, .op 17 0, .op 18 0], _, [], List.range' 12 7, [133]⟩ :: ⟨[.op 3 0, .op 7 0, .op 11 0, .op 19 0], _, [], Lr 20, [134]⟩ :: ⟨[.op 20 0], _, [], Lr 21, [8]⟩ :: []) (F := [.op 21 0]) (hst.pick [0, 1, 2, 3] rfl) hb Zb
         (o_p rfl (Za rfl rfl u_0) <| o_p rfl (Zq rfl rfl (Opd.imp u_0 (fun _ _ h => Zr h43 h)) (fun _ _ ⟨_, _, _, e, _⟩ => ⟨_, e⟩)) <| o_p rfl (Ze Zef rfl rfl u_0) <| o_p rfl (Zf ty_9 rfl rfl u_0) <| o_p rfl (Za rfl rfl u_0) <| o_p rfl (Zq rfl rfl (Opd.imp u_0 (fun _ _ h => Zr h43 h)) (fun _ _ ⟨_, _, _, e, _⟩ => ⟨_, e⟩)) <| o_p rfl (Ze Zgp rfl rfl u_0) <| o_p rfl (Zf Zbn rfl rfl u_0) <| o_p rfl (Za rfl rfl u_0) <| o_p rfl (Zq rfl rfl (Opd.imp u_0 (fun _ _ h => Zr h43 h)) (fun _ _ ⟨_, _, _, e, _⟩ => ⟨_, e⟩)) <| o_p rfl (Ze Zdx rfl rfl u_0) <| o_p rfl (Zf Zcz rfl rfl u_0) <| o_p rfl (Za rfl rfl u_0) <| o_p rfl (Zf Zbn rfl rfl u_0) <| o_p rfl (Za rfl rfl u_0) <| o_p rfl (Zq rfl rfl (Opd.imp u_0 (fun _ _ h => Zr h43 h)) (fun _ _ ⟨_, _, _, e, _⟩ => ⟨_, e⟩)) <| o_p rfl (Ze Zeg rfl rfl u_0) <| o_p rfl (Zf Zcz rfl rfl u_0) <| o_p rfl (Za rfl rfl u_0) <| o_p rfl (Zo Zkn (Zdp _ _ _ _ h45) rfl rfl (.cons u_0 (.cons u_1 (.cons u_2 (.cons u_3 .nil))))) <| o_p rfl (Zo Zkn (Zdp _ _ _ _ h47) rfl rfl (.cons u_0 (.cons u_1 (.cons u_2 (.cons u_3 .nil))))) <| o_p rfl (Zc rfl rfl u_0) <| o_n) (by kernel_rfl) (fun a g hst hb => ?_)
       refine wp_ret ?_
       refine Zw ?_
       refine Zp ?_
       obtain rfl := Option.some.inj H0
       exact Zx rfl hst hb (Zk (s := 8)) (hst.at 0 rfl)
     · replace H0 := Zz hc41 H0
       obtain ⟨r48, h49, H0⟩ := Zg H0
       refine r_s (L := [(0, _), (2, _), (3, _), (5, _)]) (T := [⟨[.old 1], _, [], [], [136]⟩, ⟨[.old 2], _, [], [], [137]⟩, ⟨[.op 0 0, .op 1 0], _, [], [0, 1], [138]⟩, ⟨[.op 2 0], _, [], [0, 1, 2], [135]⟩]) (F := [.old 0, .old 1, .old 2, .old 3, .op 3 0]) (hst.pick [0, 1, 2, 3] rfl) hb Zb
         (o_p rfl (Za rfl rfl u_0) <| o_p rfl (Za rfl rfl u_0) <| o_p rfl (Zo Zwv (Zkj _ _ h49) rfl rfl (.cons u_0 (.cons u_1 .nil))) <| o_p rfl (Zc rfl rfl u_0) <| o_n) (by kernel_rfl) (fun a g hst hb => ?_)
       refine wp_cond_split (hst.bool 4 rfl) (fun hc50 => ?_) (fun hc50 => ?_)
       · replace H0 := Zy hc50 H0
         obtain ⟨n51, h52, H0⟩ := Zg H0
         refine r_s (L := [(0, _), (2, _), (3, _), (5, _)]) (T := [⟨[.old 1], _, [], [], [139]⟩, ⟨[.op 0 0], _, [], [0], [140]⟩, ⟨[.op 1 0], _, [], [0, 1], [141]⟩, ⟨[.op 2 0], _, [], [0, 1, 2], [142]⟩, ⟨[.op 3 0], _, [], Lr 4, [10]⟩]) (F := [.old 0, .old 1, .old 2, .old 3, .op 4 0]) (hst.pick [0, 1, 2, 3] rfl) hb Zb
           (o_p rfl (Za rfl rfl u_0) <| o_p rfl (Zq rfl rfl (Opd.imp u_0 (fun _ _ h => Zr h52 h)) (fun _ _ ⟨_, _, _, e, _⟩ => ⟨_, e⟩)) <| o_p rfl (Ze Zeg rfl rfl u_0) <| o_p rfl (Zf Zcz rfl rfl u_0) <| o_p rfl (Zc rfl rfl u_0) <| o_n) (by kernel_rfl) (fun a g hst hb => ?_)
         obtain ⟨n53, h54, H0⟩ := Zg H0; obtain ⟨r55, h56, H0⟩ := Zg H0; obtain ⟨r57, h58, H0⟩ := Zg H0; obtain ⟨r59, h60, H0⟩ := Zg H0
         refine r_s (T := ⟨[.old 4], _, [], [], [143]⟩ :: ⟨[.op 0 0], _, [], [0], [144]⟩ :: ⟨[.op 1 0], _, [], [0, 1], [145]⟩ :: ⟨[.op 2 0], _, [], [0, 1, 2], [146]⟩ :: ⟨[.old 4], _, [], [], [147]⟩ :: ⟨[.op 4 0], _, [], [4], [148]⟩ :: ⟨[.op 5 0], _, [], [4, 5], [149]⟩ :: ⟨[.op 6 0], _, [], [4, 5, 6], [150]⟩ :: ⟨[.old 1], _, [], [], [151]⟩ :: ⟨[.op 8 0], _, [], [8], [152]⟩ :: ⟨[.op 9 0], _, [], [8, 9], [153]⟩ :: ⟨[.op 10 0], _, [], [8, 9, 10], [154]⟩ :: ⟨[.old 1], _, [], [], [155]⟩ :: ⟨[.op 12 0], _, [], [12], [156]⟩ :: ⟨[.op 13 0], _, [], [12, 13], [157]⟩ :: ⟨[.op 14 0], _, [], [12, 13, 14], [158]⟩ :: ⟨[.old 1], _, [], [], [159]⟩ :: ⟨[.op 16 0], _, [], [16], [160]⟩ :: ⟨[.op 17 0], _, [], [16, 17], [161]⟩ :: ⟨[.op 18 0], _, [], [16, 17, 18], [162]⟩ :: ⟨[.old 4], _, [], [], [163]⟩ :: ⟨[.op 20 0], _, [], [20], [164]⟩ :: ⟨[.op 21 0], _, [], [20, 21], [165]⟩ :: ⟨[.op 22 0], _, [], [20, 21, 22], [166]⟩ :: ⟨[.op 11 0, .op 15 0, .op 19 0, .op 23 0], _, [], List.range' 8 16, [167]⟩ :: ⟨[.old 0], _, [], [], [168]⟩ :: ⟨[.old 3], _, [], [], [169]⟩ :: ⟨[.old 4], _, [], [], [170]⟩ :: ⟨[.op 27 0], _, [], [27], [171]⟩ :: ⟨[.op 28 0], _, [], [27, 28], [172]⟩ :: ⟨[.op 29 0], _, [], [27, 28, 29], [173]⟩ :: ⟨[.old 2], _, [], [], [174]⟩ :: ⟨[.op 25 0, .op 26 0, .op 30 0, .op 31 0], _, [], List.range' 8 24, [175]⟩ :: ⟨[.op 3 0, .op 7 0, .op 24 0, .op 32 0], _, [], Lr 33, [176]⟩ :: ⟨[.op 33 0], _, [], Lr 34, [8]⟩ :: []) (F := [.op 34 0]) hst hb Zb
           (o_p rfl (Za rfl rfl u_0) <| o_p rfl (Zq rfl rfl (Opd.imp u_0 (fun _ _ h => Zr h54 h)) (fun _ _ ⟨_, _, _, e, _⟩ => ⟨_, e⟩)) <| o_p rfl (Ze Zef rfl rfl u_0) <| o_p rfl (Zf ty_9 rfl rfl u_0) <| o_p rfl (Za rfl rfl u_0) <| o_p rfl (Zq rfl rfl (Opd.imp u_0 (fun _ _ h => Zr h54 h)) (fun _ _ ⟨_, _, _, e, _⟩ => ⟨_, e⟩)) <| o_p rfl (Ze Zgp rfl rfl u_0) <| o_p rfl (Zf Zbn rfl rfl u_0) <| o_p rfl (Za rfl rfl u_0) <| o_p rfl (Zq rfl rfl (Opd.imp u_0 (fun _ _ h => Zr h52 h)) (fun _ _ ⟨_, _, _, e, _⟩ => ⟨_, e⟩)) <| o_p rfl (Ze Zef rfl rfl u_0) <| o_p rfl (Zf ty_9 rfl rfl u_0) <| o_p rfl (Za rfl rfl u_0) <| o_p rfl (Zq rfl rfl (Opd.imp u_0 (fun _ _ h => Zr h52 h)) (fun _ _ ⟨_, _, _, e, _⟩ => ⟨_, e⟩)) <| o_p rfl (Ze Zgp rfl rfl u_0) <| o_p rfl (Zf Zbn rfl rfl u_0) <| o_p rfl (Za rfl rfl u_0) <| o_p rfl (Zq rfl rfl (Opd.imp u_0 (fun _ _ h => Zr h52 h)) (fun _ _ ⟨_, _, _, e, _⟩ => ⟨_, e⟩)) <| o_p rfl (Ze Zdx rfl rfl u_0) <| o_p rfl (Zf Zcz rfl rfl u_0) <| o_p rfl (Za rfl rfl u_0) <| o_p rfl (Zq rfl rfl (Opd.imp u_0 (fun _ _ h => Zr h54 h)) (fun _ _ ⟨_, _, _, e, _⟩ => ⟨_, e⟩)) <| o_p rfl (Ze Zdx rfl rfl u_0) <| o_p rfl (Zf Zcz rfl rfl u_0) <| o_p rfl (Zo Zkn (Zdp _ _ _ _ h56) rfl rfl (.cons u_0 (.cons u_1 (.cons u_2 (.cons u_3 .nil))))) <| o_p rfl (Za rfl rfl u_0) <| o_p rfl (Zf Zbn rfl rfl u_0) <| o_p rfl (Za rfl rfl u_0) <| o_p rfl (Zq rfl rfl (Opd.imp u_0 (fun _ _ h => Zr h54 h)) (fun _ _ ⟨_, _, _, e, _⟩ => ⟨_, e⟩)) <| o_p rfl (Ze Zeg rfl rfl u_0) <| o_p rfl (Zf Zcz rfl rfl u_0) <| o_p rfl (Za rfl rfl u_0) <| o_p rfl (Zo Zkn (Zdp _ _ _ _ h58) rfl rfl (.cons u_0 (.cons u_1 (.cons u_2 (.cons u_3 .nil))))) <| o_p rfl (Zo Zkn (Zdp _ _ _ _ h60) rfl rfl (.cons u_0 (.cons u_1 (.cons u_2 (.cons u_3 .nil))))) <| o_p rfl (Zc rfl rfl u_0) <| o_n) (by kernel_rfl) (fun a g hst hb => ?_)
         refine wp_ret ?_
         refine Zw ?_
         refine Zp ?_
         obtain rfl := Option.some.inj H0
         exact Zx rfl hst hb (Zk (s := 8)) (hst.at 0 rfl)
       · replace H0 := Zz hc50 H0
         refine wp_skip ?_
         refine Zbu ?_
         refine Zv ?_
         obtain ⟨r61, h62, H0⟩ := Zg H0
         refine r_s (L := [(0, _), (2, _), (3, _), (5, _)]) (T := [⟨[.old 0], _, [], [], [177]⟩, ⟨[.old 3], _, [], [], [178]⟩, ⟨[.old 1], _, [], [], [179]⟩, ⟨[.old 2], _, [], [], [180]⟩, ⟨[.op 0 0, .op 1 0, .op 2 0, .op 3 0], _, [], Lr 4, [181]⟩, ⟨[.op 4 0], _, [], Lr 5, [8]⟩]) (F := [.op 5 0]) (hst.pick [0, 1, 2, 3] rfl) hb Zb
           (o_p rfl (Za rfl rfl u_0) <| o_p rfl (Zf Zbn rfl rfl u_0) <| o_p rfl (Za rfl rfl u_0) <| o_p rfl (Za rfl rfl u_0) <| o_p rfl (Zo Zkn (Zdp _ _ _ _ h62) rfl rfl (.cons u_0 (.cons u_1 (.cons u_2 (.cons u_3 .nil))))) <| o_p rfl (Zc rfl rfl u_0) <| o_n) (by kernel_rfl) (fun a g hst hb => ?_)
         refine wp_ret ?_
         obtain rfl := Option.some.inj H0
         exact Zx rfl hst hb (Zk (s := 8)) (hst.at 0 rfl)
theorem Zp7 (self : shelf_nodeT → ByteArray → Zd → Option (shelf_nodeT)) (hself : ∀ (a0 : shelf_nodeT) (a1 : ByteArray) (a2 : Zd) {r : shelf_nodeT}, self a0 a1 a2 = some r → FnOk Tryz.prog 37 [(Z4.pd a0), (pStr a1), (Zj.pd a2)] (Z4.pd r)) (a0 : shelf_nodeT) (a1 : ByteArray) (a2 : Zd) {r : shelf_nodeT} (h : Zh1 self a0 a1 a2 = some r) : FnOk Tryz.prog 37 [(Z4.pd a0), (pStr a1), (Zj.pd a2)] (Z4.pd r) := by
 have H0 := h
 unfold Zh1 at H0
 clear h
 refine Zbr (N := 78) Tryz.func37 rfl rfl (Nat.le_of_ble_eq_true rfl) rfl rfl (fun a g0 hst hb => ?_)
 refine r_s (T := [⟨[.old 2], _, [], [], [5]⟩, ⟨[], [(6, (Z4.pd shelf_nodeT.nil))], [], [], [6]⟩]) (F := [.old 0, .old 1, .op 0 0]) hst hb Zb
   (o_p rfl (Zbh rfl rfl u_0) <| o_p rfl (Zc rfl rfl (Opd.c (fun g => Zd1 g))) <| o_n) (by kernel_rfl) (fun a g hst hb => ?_)
 refine wp_seq ?_
 refine wp_block ?_
 refine r_s (T := [⟨[.old 0], _, [], [], [8]⟩, ⟨[.op 0 0], _, [], [0], [9]⟩, ⟨[.op 1 0], _, [], [0, 1], [7]⟩]) (F := [.old 0, .old 1, .old 2, .op 2 0]) hst hb Zb
   (o_p rfl (Za rfl rfl u_0) <| o_p rfl (Zns Tryz.underlying28 rfl rfl u_0 (Zen _)) <| o_p rfl (Zc rfl rfl u_0) <| o_n) (by kernel_rfl) (fun a g hst hb => ?_)
 refine wp_cond_split (hst.bool 3 rfl) (fun hc1 => ?_) (fun hc1 => ?_)
 · replace H0 := Zy hc1 H0
   obtain ⟨r2, h3, H0⟩ := Zg H0
   refine r_s (L := [(1, _), (5, _)]) (T := [⟨[.old 0], _, [], [], [10]⟩, ⟨[.old 1], _, [], [], [11]⟩, ⟨[.op 0 0, .op 1 0], [(12, (Z4.pd r2))], [], [0, 1], [12]⟩, ⟨[.op 2 0], _, [], [0, 1, 2], [6]⟩]) (F := [.op 3 0]) (hst.pick [1, 2] rfl) hb Zb
     (o_p rfl (Za rfl rfl u_0) <| o_p rfl (Zf Zbn rfl rfl u_0) <| o_p rfl (Zo Zkn (Zdp _ _ _ _ h3) rfl rfl (.cons u_0 (.cons u_1 (.cons (Opd.c (fun g => Zd1 g)) (.cons (Opd.c (fun g => Zd1 g)) .nil))))) <| o_p rfl (Zc rfl rfl u_0) <| o_n) (by kernel_rfl) (fun a g hst hb => ?_)
   refine wp_ret ?_
   refine Zw ?_
   refine Zp ?_
   obtain rfl := Option.some.inj H0
   exact Zx rfl hst hb (Zk (s := 6)) (hst.at 0 rfl)
 · replace H0 := Zz hc1 H0
   obtain ⟨n4, h5, H0⟩ := Zg H0
   refine r_s (L := [(0, _), (1, _), (5, _)]) (T := [⟨[.old 1], _, [], [], [14]⟩, ⟨[.old 0], _, [], [], [15]⟩, ⟨[.op 1 0], _, [], [1], [16]⟩, ⟨[.op 2 0], _, [], [1, 2], [17]⟩, ⟨[.op 3 0], _, [], [1, 2, 3], [18]⟩, ⟨[.op 0 0, .op 4 0], _, [], Lr 5, [19]⟩, ⟨[.op 5 0], _, [], Lr 6, [13]⟩]) (F := [.old 0, .old 1, .old 2, .op 6 0]) (hst.pick [0, 1, 2] rfl) hb Zb
     (o_p rfl (Za rfl rfl u_0) <| o_p rfl (Za rfl rfl u_0) <| o_p rfl (Zq rfl rfl (Opd.imp u_0 (fun _ _ h => Zr h5 h)) (fun _ _ ⟨_, _, _, e, _⟩ => ⟨_, e⟩)) <| o_p rfl (Ze Zef rfl rfl u_0) <| o_p rfl (Zf ty_9 rfl rfl u_0) <| o_p rfl (Zm2 rfl rfl u_0 u_1) <| o_p rfl (Zc rfl rfl u_0) <| o_n) (by kernel_rfl) (fun a g hst hb => ?_)
   refine wp_cond_split (hst.bool 3 rfl) (fun hc6 => ?_) (fun hc6 => ?_)
   · replace H0 := Zy hc6 H0
     obtain ⟨r7, h8, H0⟩ := Zg H0; obtain ⟨r9, h10, H0⟩ := Zg H0
     refine r_s (L := [(0, _), (1, _), (5, _)]) (T := ⟨[.old 0], _, [], [], [20]⟩ :: ⟨[.op 0 0], _, [], [0], [21]⟩ :: ⟨[.op 1 0], _, [], [0, 1], [22]⟩ :: ⟨[.op 2 0], _, [], [0, 1, 2], [23]⟩ :: ⟨[.old 0], _, [], [], [24]⟩ :: ⟨[.op 4 0], _, [], [4], [25]⟩ :: ⟨[.op 5 0], _, [], [4, 5], [26]⟩ :: ⟨[.op 6 0], _, [], [4, 5, 6], [27]⟩ :: ⟨[.old 0], _, [], [], [28]⟩ :: ⟨[.op 8 0], _, [], [8], [29]⟩ :: ⟨[.op 9 0], _, [], [8, 9], [30]⟩ :: ⟨[.op 10 0], _, [], [8, 9, 10], [31]⟩ :: ⟨[.old 1], _, [], [], [32]⟩ :: ⟨[.old 2], _, [], [], [33]⟩ :: ⟨[.op 11 0, .op 12 0, .op 13 0], _, [], List.range' 8 6, [34]⟩ :: ⟨[.old 0], _, [], [], [35]⟩ :: ⟨[.op 15 0], _, [], [15], [36]⟩ :: ⟨[.op 16 0], _, [], [15, 16], [37]⟩ :: ⟨[.op 17 0], _, [], [15, 16, 17], [38]⟩ :: ⟨[.op 3 0, .op 7 0, .op 14 0, .op 18 0], _, [], Lr 19, [39]⟩ :: ⟨[.op 19 0], _, [], Lr 20, [6]⟩ :: []) (F := [.op 20 0]) (hst.pick [0, 1, 2] rfl) hb Zb
       (o_p rfl (Za rfl rfl u_0) <| o_p rfl (Zq rfl rfl (Opd.imp u_0 (fun _ _ h => Zr h5 h)) (fun _ _ ⟨_, _, _, e, _⟩ => ⟨_, e⟩)) <| o_p rfl (Ze Zef rfl rfl u_0) <| o_p rfl (Zf ty_9 rfl rfl u_0) <| o_p rfl (Za rfl rfl u_0) <| o_p rfl (Zq rfl rfl (Opd.imp u_0 (fun _ _ h => Zr h5 h)) (fun _ _ ⟨_, _, _, e, _⟩ => ⟨_, e⟩)) <| o_p rfl (Ze Zgp rfl rfl u_0) <| o_p rfl (Zf Zbn rfl rfl u_0) <| o_p rfl (Za rfl rfl u_0) <| o_p rfl (Zq rfl rfl (Opd.imp u_0 (fun _ _ h => Zr h5 h)) (fun _ _ ⟨_, _, _, e, _⟩ => ⟨_, e⟩)) <| o_p rfl (Ze Zdx rfl rfl u_0) <| o_p rfl (Zf Zcz rfl rfl u_0) <| o_p rfl (Za rfl rfl u_0) <| o_p rfl (Zf Zbn rfl rfl u_0) <| o_p rfl (Zo Z1q (hself _ _ _ h8) rfl rfl (.cons u_0 (.cons u_1 (.cons u_2 .nil)))) <| o_p rfl (Za rfl rfl u_0) <| o_p rfl (Zq rfl rfl (Opd.imp u_0 (fun _ _ h => Zr h5 h)) (fun _ _ ⟨_, _, _, e, _⟩ => ⟨_, e⟩)) <| o_p rfl (Ze Zeg rfl rfl u_0) <| o_p rfl (Zf Zcz rfl rfl u_0) <| o_p rfl (Zo Ztn (Zji _ _ _ _ h10) rfl rfl (.cons u_0 (.cons u_1 (.cons u_2 (.cons u_3 .nil))))) <| o_p rfl (Zc rfl rfl u_0) <| o_n) (by kernel_rfl) (fun a g hst hb => ?_)
     refine wp_ret ?_
     refine Zw ?_
     refine Zp ?_
     obtain rfl := Option.some.inj H0
     exact Zx rfl hst hb (Zk (s := 6)) (hst.at 0 rfl)
   · replace H0 := Zz hc6 H0
     refine r_s (L := [(0, _), (1, _), (5, _)]) (T := [⟨[.old 1], _, [], [], [41]⟩, ⟨[.old 0], _, [], [], [42]⟩, ⟨[.op 1 0], _, [], [1], [43]⟩, ⟨[.op 2 0], _, [], [1, 2], [44]⟩, ⟨[.op 3 0], _, [], [1, 2, 3], [45]⟩, ⟨[.op 0 0, .op 4 0], _, [], Lr 5, [46]⟩, ⟨[.op 5 0], _, [], Lr 6, [40]⟩]) (F := [.old 0, .old 1, .old 2, .op 6 0]) (hst.pick [0, 1, 2] rfl) hb Zb
       (o_p rfl (Za rfl rfl u_0) <| o_p rfl (Za rfl rfl u_0) <| o_p rfl (Zq rfl rfl (Opd.imp u_0 (fun _ _ h => Zr h5 h)) (fun _ _ ⟨_, _, _, e, _⟩ => ⟨_, e⟩)) <| o_p rfl (Ze Zef rfl rfl u_0) <| o_p rfl (Zf ty_9 rfl rfl u_0) <| o_p rfl (Ztg rfl rfl u_0 u_1) <| o_p rfl (Zc rfl rfl u_0) <| o_n) (by kernel_rfl) (fun a g hst hb => ?_)
     refine wp_cond_split (hst.bool 3 rfl) (fun hc11 => ?_) (fun hc11 => ?_)
     · replace H0 := Zy hc11 H0
       obtain ⟨r12, h13, H0⟩ := Zg H0; obtain ⟨r14, h15, H0⟩ := Zg H0
       refine r_s (L := [(0, _), (1, _), (5, _)]) (T := ⟨[.old 0], _, [], [], [47]⟩ :: ⟨[.op 0 0], _, [], [0], [48]⟩ :: ⟨[.op 1 0], _, [], [0, 1], [49]⟩ :: ⟨[.op 2 0], _, [], [0, 1, 2], [50]⟩ :: ⟨[.old 0], _, [], [], [51]⟩ :: ⟨[.op 4 0], _, [], [4], [52]⟩ :: ⟨[.op 5 0], _, [], [4, 5], [53]⟩ :: ⟨[.op 6 0], _, [], [4, 5, 6], [54]⟩ :: ⟨[.old 0], _, [], [], [55]⟩ :: ⟨[.op 8 0], _, [], [8], [56]⟩ :: ⟨[.op 9 0], _, [], [8, 9], [57]⟩ :: ⟨[.op 10 0], _, [], [8, 9, 10], [58]⟩ :: ⟨[.old 0], _, [], [], [59]⟩ :: ⟨[.op 12 0], _, [], [12], [60]⟩ :: ⟨[.op 13 0], _, [], [12, 13], [61]⟩ :: ⟨[.op 14 0], _, [], [12, 13, 14], [62]⟩ :: ⟨[.old 1], _, [], [], [63]⟩ :: ⟨[.old 2], _, [], [], [64]⟩ :: ⟨[.op 15 0, .op 16 0, .op 17 0], _, [], List.range' 12 6, [65]⟩ :: ⟨[.op 3 0, .op 7 0, .op 11 0, .op 18 0], _, [], Lr 19, [66]⟩ :: ⟨[.op 19 0], _, [], Lr 20, [6]⟩ :: []) (F := [.op 20 0]) (hst.pick [0, 1, 2] rfl) hb Zb
         (o_p rfl (Za rfl rfl u_0) <| o_p rfl (Zq rfl rfl (Opd.imp u_0 (fun _ _ h => Zr h5 h)) (fun _ _ ⟨_, _, _, e, _⟩ => ⟨_, e⟩)) <| o_p rfl (Ze Zef rfl rfl u_0) <| o_p rfl (Zf ty_9 rfl rfl u_0) <| o_p rfl (Za rfl rfl u_0) <| o_p rfl (Zq rfl rfl (Opd.imp u_0 (fun _ _ h => Zr h5 h)) (fun _ _ ⟨_, _, _, e, _⟩ => ⟨_, e⟩)) <| o_p rfl (Ze Zgp rfl rfl u_0) <| o_p rfl (Zf Zbn rfl rfl u_0) <| o_p rfl (Za rfl rfl u_0) <| o_p rfl (Zq rfl rfl (Opd.imp u_0 (fun _ _ h => Zr h5 h)) (fun _ _ ⟨_, _, _, e, _⟩ => ⟨_, e⟩)) <| o_p rfl (Ze Zdx rfl rfl u_0) <| o_p rfl (Zf Zcz rfl rfl u_0) <| o_p rfl (Za rfl rfl u_0) <| o_p rfl (Zq rfl rfl (Opd.imp u_0 (fun _ _ h => Zr h5 h)) (fun _ _ ⟨_, _, _, e, _⟩ => ⟨_, e⟩)) <| o_p rfl (Ze Zeg rfl rfl u_0) <| o_p rfl (Zf Zcz rfl rfl u_0) <| o_p rfl (Za rfl rfl u_0) <| o_p rfl (Zf Zbn rfl rfl u_0) <| o_p rfl (Zo Z1q (hself _ _ _ h13) rfl rfl (.cons u_0 (.cons u_1 (.cons u_2 .nil)))) <| o_p rfl (Zo Ztn (Zji _ _ _ _ h15) rfl rfl (.cons u_0 (.cons u_1 (.cons u_2 (.cons u_3 .nil))))) <| o_p rfl (Zc rfl rfl u_0) <| o_n) (by kernel_rfl) (fun a g hst hb => ?_)
       refine wp_ret ?_
       refine Zw ?_
       refine Zp ?_
       obtain rfl := Option.some.inj H0
       exact Zx rfl hst hb (Zk (s := 6)) (hst.at 0 rfl)
     · replace H0 := Zz hc11 H0
       refine wp_skip ?_
       refine Zbu ?_
       refine Zv ?_
       obtain ⟨r16, h17, H0⟩ := Zg H0
       refine r_s (L := [(0, _), (1, _), (5, _)]) (T := ⟨[.old 1], _, [], [], [67]⟩ :: ⟨[.old 2], _, [], [], [68]⟩ :: ⟨[.old 0], _, [], [], [69]⟩ :: ⟨[.op 2 0], _, [], [2], [70]⟩ :: ⟨[.op 3 0], _, [], [2, 3], [71]⟩ :: ⟨[.op 4 0], _, [], [2, 3, 4], [72]⟩ :: ⟨[.old 0], _, [], [], [73]⟩ :: ⟨[.op 6 0], _, [], [6], [74]⟩ :: ⟨[.op 7 0], _, [], [6, 7], [75]⟩ :: ⟨[.op 8 0], _, [], [6, 7, 8], [76]⟩ :: ⟨[.op 0 0, .op 1 0, .op 5 0, .op 9 0], _, [], Lr 10, [77]⟩ :: ⟨[.op 10 0], _, [], Lr 11, [6]⟩ :: []) (F := [.op 11 0]) (hst.pick [0, 1, 2] rfl) hb Zb
         (o_p rfl (Za rfl rfl u_0) <| o_p rfl (Zf Zbn rfl rfl u_0) <| o_p rfl (Za rfl rfl u_0) <| o_p rfl (Zq rfl rfl (Opd.imp u_0 (fun _ _ h => Zr h5 h)) (fun _ _ ⟨_, _, _, e, _⟩ => ⟨_, e⟩)) <| o_p rfl (Ze Zdx rfl rfl u_0) <| o_p rfl (Zf Zcz rfl rfl u_0) <| o_p rfl (Za rfl rfl u_0) <| o_p rfl (Zq rfl rfl (Opd.imp u_0 (fun _ _ h => Zr h5 h)) (fun _ _ ⟨_, _, _, e, _⟩ => ⟨_, e⟩)) <| o_p rfl (Ze Zeg rfl rfl u_0) <| o_p rfl (Zf Zcz rfl rfl u_0) <| o_p rfl (Zo Zkn (Zdp _ _ _ _ h17) rfl rfl (.cons u_0 (.cons u_1 (.cons u_2 (.cons u_3 .nil))))) <| o_p rfl (Zc rfl rfl u_0) <| o_n) (by kernel_rfl) (fun a g hst hb => ?_)
       refine wp_ret ?_
       obtain rfl := Option.some.inj H0
       exact Zx rfl hst hb (Zk (s := 6)) (hst.at 0 rfl)
theorem Zl8 : ∀ (n : Nat) (a0 : shelf_nodeT) (a1 : ByteArray) (a2 : Zd) {r : shelf_nodeT}, Zev n a0 a1 a2 = some r → FnOk Tryz.prog 37 [(Z4.pd a0), (pStr a1), (Zj.pd a2)] (Z4.pd r)
 | 0, _, _, _, _, h => by simp [Zev] at h
 | n + 1, a0, a1, a2, _, h => Zp7 (Zev n) (fun a0 a1 a2 r h => Zl8 n a0 a1 a2 h) a0 a1 a2 h
theorem Zr8 (a0 : shelf_nodeT) (a1 : ByteArray) (a2 : Zd) {r : shelf_nodeT} (h : Zmb a0 a1 a2 = some r) : FnOk Tryz.prog 37 [(Z4.pd a0), (pStr a1), (Zj.pd a2)] (Z4.pd r) := Zl8 _ a0 a1 a2 h
theorem Zmy (a0 : Zn) (a1 : ByteArray) (a2 : Zd) {r : Zn × Int} (h : Zdw a0 a1 a2 = some r) : FnOk Tryz.prog 17 [(Z1.pd a0), (pStr a1), (Zj.pd a2)] (pTup [(Z1.pd r.1), (pInt .i64 r.2)]) := by
 have H0 := h
 unfold Zdw at H0
 clear h
 refine Zbr (N := 50) Tryz.func17 rfl rfl (Nat.le_of_ble_eq_true rfl) rfl rfl (fun a g0 hst hb => ?_)
 refine r_s (T := [⟨[.old 0], _, [], [], [3]⟩, ⟨[.old 2], _, [], [], [5]⟩, ⟨[], [(6, (pBox Z1 6 (default : Zn)))], [7], [], [6]⟩, ⟨[], _, [], [], [7]⟩]) (F := [.old 1, .op 0 0, .op 1 0, .op 2 0]) hst hb Zb
   (o_p rfl (Zbh rfl rfl u_0) <| o_p rfl (Zbh rfl rfl u_0) <| o_p rfl (Zbg (zs := [.pointer none, .int .i64 0]) (by kernel_rfl) (fun g => Zcm g) rfl rfl) <| o_p rfl (Zc rfl rfl c_i) <| o_n) (by kernel_rfl) (fun a g hst hb => ?_)
 refine wp_seq ?_
 refine r_s (T := [⟨[.old 0], _, [], [], [11]⟩, ⟨[.op 0 0], _, [], [0], [12]⟩, ⟨[.op 1 0], _, [], [0, 1], [13]⟩, ⟨[.op 2 0, .old 0], _, [], [0, 1, 2], [14]⟩, ⟨[.op 2 0, .op 3 0], _, [], Lr 4, [15]⟩, ⟨[.op 2 0, .op 4 0], _, [], Lr 5, [16]⟩, ⟨[.op 2 0, .op 5 0], _, [], Lr 6, [17]⟩]) (F := [.old 0, .old 1, .old 2, .old 3, .op 6 0]) hst hb Zb
   (o_p rfl (Za rfl rfl u_0) <| o_p rfl (Zk2 rfl rfl u_0 c_s) <| o_p rfl (Za rfl rfl u_0) <| o_g (g_f rfl rfl rfl (fun hG => Za rfl rfl u_0)) <| o_g (g_f rfl rfl rfl (fun hG => Zf4 Tryz.underlying9 rfl rfl (Opd.gd hG u_0))) <| o_g (g_f rfl rfl rfl (fun hG => Zci rfl rfl (Opd.gd hG u_0) c_i)) <| o_p rfl (Zbi rfl rfl u_0 (fun hz => (Opd.gd (bNF hz) u_1))) <| o_n) (by kernel_rfl) (fun a g hst hb => ?_)
 refine wp_cond_split (hst.bool 4 rfl) (fun hc1 => ?_) (fun hc1 => ?_)
 · replace H0 := Zy hc1 H0
   refine r_s (L := [(3, _), (6, _)]) (T := [⟨[.old 0], _, [], [], [18]⟩, ⟨[.op 0 0, .old 1], _, [7], [0], [6]⟩, ⟨[], _, [], [0, 1], [7]⟩]) (F := [.op 1 0, .op 2 0]) (hst.pick [1, 3] rfl) hb Zb
     (o_p rfl (Zf Zbs rfl rfl u_0) <| o_p rfl (Z8 Zbs rfl rfl u_1 u_0) <| o_p rfl (Zc rfl rfl c_i) <| o_n) (by kernel_rfl) (fun a g hst hb => ?_)
   refine wp_ret ?_
   refine Zp ?_
   obtain rfl := Option.some.inj H0
   obtain ⟨u0, hu0, hq0⟩ := Zbo (P := Tryz.prog) Zbs (hst.at 0 rfl)
   exact Ze2 rfl hst hb hu0 (Zk (s := 7)) (Zdj hq0 (hst.at 1 rfl))
 · replace H0 := Zz hc1 H0
   refine wp_skip ?_
   refine Zv ?_
   refine wp_seq ?_
   obtain ⟨r2, h3, H0⟩ := Zg H0
   refine r_s (L := [(1, _), (3, _), (5, _), (6, _)]) (T := [⟨[.old 2], _, [], [], [19]⟩, ⟨[.op 0 0], _, [], [0], [20]⟩, ⟨[.op 1 0], _, [], [0, 1], [8]⟩]) (F := [.old 0, .old 1, .old 2, .old 3, .op 2 0]) (hst.pick [0, 1, 2, 3] rfl) hb Zb
     (o_p rfl (Zf Zbn rfl rfl u_0) <| o_p rfl (Zo Z1k (Znt _ h3) rfl rfl (.cons u_0 .nil)) <| o_p rfl (Zc rfl rfl u_0) <| o_n) (by kernel_rfl) (fun a g hst hb => ?_)
   refine r_s (T := [⟨[.old 4], _, [], [], [21]⟩, ⟨[.op 0 0], _, [], [0], [22]⟩]) (F := [.old 0, .old 1, .old 2, .old 3, .old 4, .op 1 0]) hst hb Zb
     (o_p rfl (Za rfl rfl u_0) <| o_p rfl (Zf2 rfl rfl u_0 c_i) <| o_n) (by kernel_rfl) (fun a g hst hb => ?_)
   refine wp_cond_split (hst.bool 5 rfl) (fun hc4 => ?_) (fun hc4 => ?_)
   · replace H0 := Zy hc4 H0
     refine r_s (L := [(3, _), (6, _), (8, _)]) (T := [⟨[.old 0], _, [], [], [23]⟩, ⟨[.old 2], _, [], [], [24]⟩, ⟨[.op 0 0, .old 1], _, [7], [0], [6]⟩, ⟨[.op 1 0], _, [], [0, 1, 2], [7]⟩]) (F := [.op 2 0, .op 3 0]) (hst.pick [1, 3, 4] rfl) hb Zb
       (o_p rfl (Zf Zbs rfl rfl u_0) <| o_p rfl (Za rfl rfl u_0) <| o_p rfl (Z8 Zbs rfl rfl u_1 u_0) <| o_p rfl (Zc rfl rfl u_0) <| o_n) (by kernel_rfl) (fun a g hst hb => ?_)
     refine wp_ret ?_
     refine Zp ?_
     obtain rfl := Option.some.inj H0
     obtain ⟨u0, hu0, hq0⟩ := Zbo (P := Tryz.prog) Zbs (hst.at 0 rfl)
     exact Ze2 rfl hst hb hu0 (Zk (s := 7)) (Zdj hq0 (hst.at 1 rfl))
   · replace H0 := Zz hc4 H0
     refine wp_skip ?_
     refine Zv ?_
     refine wp_seq ?_
     obtain ⟨r5, h6, H0⟩ := Zg H0
     refine r_s (L := [(1, _), (3, _), (5, _), (6, _)]) (T := [⟨[.old 1], _, [], [], [26]⟩, ⟨[.old 0], _, [], [], [27]⟩, ⟨[.op 0 0, .op 1 0], _, [], [0, 1], [28]⟩, ⟨[.op 2 0], _, [], [0, 1, 2], [25]⟩, ⟨[.op 3 0], _, [], Lr 4, [29]⟩, ⟨[.op 3 0], _, [], Lr 4, [30]⟩, ⟨[], [(9, (pBox Zj 9 (default : Zd)))], [10], [], [9]⟩, ⟨[.op 4 0, .op 6 0], _, [10], [0, 1, 2, 3, 4, 6], [9]⟩, ⟨[.op 5 0], _, [], Lr 8, [10]⟩]) (F := [.old 0, .old 1, .old 2, .old 3, .op 8 0]) (hst.pick [0, 1, 2, 3] rfl) hb Zb
       (o_p rfl (Zf Zbs rfl rfl u_0) <| o_p rfl (Za rfl rfl u_0) <| o_p rfl (Zo Z03 (Zka _ _ h6) rfl rfl (.cons u_0 (.cons u_1 .nil))) <| o_p rfl (Za rfl rfl u_0) <| o_p rfl (Z5 rfl rfl u_0 rfl) <| o_p rfl (Z5 rfl rfl u_0 rfl) <| o_p rfl (Zbg (zs := [.int .i64 0, .int .i64 0, .int .i64 0, .int .i64 0, .float .f64 0, .int .i64 0, .string ByteArray.empty, .slice none 0 0]) (by kernel_rfl) (fun g => Zch g) rfl rfl) <| o_p rfl (Zb1 Zbn rfl rfl u_1 u_0) <| o_p rfl (Zc rfl rfl u_0) <| o_n) (by kernel_rfl) (fun a g hst hb => ?_)
     obtain ⟨r7, h8, H0⟩ := Zg H0
     refine r_s (T := [⟨[.old 4], _, [], [], [31]⟩, ⟨[.op 0 0], _, [], [0], [32]⟩, ⟨[.op 1 0], _, [], [0, 1], [33]⟩, ⟨[.op 2 0, .old 1], _, [], [0, 1, 2], [34]⟩, ⟨[.op 2 0, .op 3 0], _, [], Lr 4, [35]⟩, ⟨[.op 2 0, .old 1], _, [], [0, 1, 2], [36]⟩, ⟨[.op 2 0, .op 5 0], _, [], [0, 1, 2, 5], [37]⟩, ⟨[.op 2 0, .op 4 0, .op 6 0], _, [], Lr 7, [38]⟩, ⟨[.op 2 0, .op 7 0], _, [], Lr 8, [39]⟩]) (F := [.old 0, .old 1, .old 2, .old 3, .op 8 0]) hst hb Zb
       (o_p rfl (Za rfl rfl u_0) <| o_p rfl (Zcr rfl rfl u_0) <| o_p rfl (Za rfl rfl u_0) <| o_g (g_t rfl rfl rfl (fun hG => Zf Zbs rfl rfl u_0)) <| o_g (g_t rfl rfl rfl (fun hG => Zo Zrx (Zfk _ (Zbb h8 hG)) rfl rfl (.cons (Opd.gd hG u_0) .nil))) <| o_g (g_t rfl rfl rfl (fun hG => Ze Zu9 rfl rfl u_0)) <| o_g (g_t rfl rfl rfl (fun hG => Zf ty_3 rfl rfl (Opd.gd hG u_0))) <| o_g (g_t rfl rfl rfl (fun hG => Zrb rfl rfl (Opd.gd hG u_0) (Opd.gd hG u_1))) <| o_p rfl (Zbf rfl rfl u_0 (fun hz => (Opd.gd hz u_1))) <| o_n) (by kernel_rfl) (fun a g hst hb => ?_)
     refine wp_cond_split (hst.bool 4 rfl) (fun hc9 => ?_) (fun hc9 => ?_)
     · replace H0 := Zy hc9 H0
       refine r_s (L := [(3, _), (6, _)]) (T := [⟨[.old 0], _, [], [], [40]⟩, ⟨[.op 0 0, .old 1], _, [7], [0], [6]⟩, ⟨[], _, [], [0, 1], [7]⟩]) (F := [.op 1 0, .op 2 0]) (hst.pick [1, 3] rfl) hb Zb
         (o_p rfl (Zf Zbs rfl rfl u_0) <| o_p rfl (Z8 Zbs rfl rfl u_1 u_0) <| o_p rfl (Zc rfl rfl c_i) <| o_n) (by kernel_rfl) (fun a g hst hb => ?_)
       refine wp_ret ?_
       refine Zp ?_
       obtain rfl := Option.some.inj H0
       obtain ⟨u0, hu0, hq0⟩ := Zbo (P := Tryz.prog) Zbs (hst.at 0 rfl)
       exact Ze2 rfl hst hb hu0 (Zk (s := 7)) (Zdj hq0 (hst.at 1 rfl))
     · replace H0 := Zz hc9 H0
       refine wp_skip ?_
       refine Zv ?_
       obtain ⟨r10, h11, H0⟩ := Zg H0; obtain ⟨r12, h13, H0⟩ := Zg H0
       refine r_s (L := [(1, _), (3, _), (5, _), (6, _)]) (T := [⟨[.old 1], _, [], [], [41]⟩, ⟨[.op 0 0], _, [], [0], [42]⟩, ⟨[.old 0], _, [], [], [43]⟩, ⟨[.old 2], _, [], [], [44]⟩, ⟨[.op 3 0], _, [], [3], [45]⟩, ⟨[.op 1 0, .op 2 0, .op 4 0], _, [], Lr 5, [46]⟩, ⟨[.old 1], _, [], [], [47]⟩, ⟨[.op 6 0], _, [], [6], [48]⟩, ⟨[.op 5 0, .op 7 0], _, [], Lr 8, [49]⟩, ⟨[.op 8 0, .old 3], _, [7], Lr 9, [6]⟩, ⟨[], _, [], Lr 10, [7]⟩]) (F := [.op 9 0, .op 10 0]) (hst.pick [0, 1, 2, 3] rfl) hb Zb
         (o_p rfl (Ze Zoy rfl rfl u_0) <| o_p rfl (Zf Zcz rfl rfl u_0) <| o_p rfl (Za rfl rfl u_0) <| o_p rfl (Zf Zbn rfl rfl u_0) <| o_p rfl (Zo Zn6 (Zg4 _ h11) rfl rfl (.cons u_0 .nil)) <| o_p rfl (Zo Z1q (Zr8 _ _ _ h13) rfl rfl (.cons u_0 (.cons u_1 (.cons u_2 .nil)))) <| o_p rfl (Ze Zu9 rfl rfl u_0) <| o_p rfl (Zf ty_3 rfl rfl u_0) <| o_p rfl (Zv8 rfl rfl u_0 u_1) <| o_p rfl (Z8 Zbs rfl rfl u_1 u_0) <| o_p rfl (Zc rfl rfl c_i) <| o_n) (by kernel_rfl) (fun a g hst hb => ?_)
       refine wp_ret ?_
       obtain rfl := Option.some.inj H0
       obtain ⟨u0, hu0, hq0⟩ := Zbo (P := Tryz.prog) Zbs (hst.at 0 rfl)
       exact Ze2 rfl hst hb hu0 (Zk (s := 7)) (Zdj hq0 (hst.at 1 rfl))
theorem Zqk (a0 : Int) {r : Zc5} (h : Zlz a0 = some r) : FnOk Tryz.prog 69 [(pInt .i64 a0)] (Zd5.pd r) := by
 have H0 := h
 unfold Zlz at H0
 clear h
 refine Zbr (N := 13) Tryz.func69 rfl rfl (Nat.le_of_ble_eq_true rfl) rfl rfl (fun a g0 hst hb => ?_)
 refine r_s (T := [⟨[], [(2, (pBox Zd5 2 (default : Zc5)))], [3], [], [2]⟩]) (F := [.old 0, .op 0 0]) hst hb Zb
   (o_p rfl (Zbg (zs := [.string ByteArray.empty, .int .i64 0, .string ByteArray.empty]) (by kernel_rfl) (fun g => Zsl g) rfl rfl) <| o_n) (by kernel_rfl) (fun a g hst hb => ?_)
 refine wp_seq ?_
 refine r_s (T := [⟨[.old 0], _, [], [], [3]⟩, ⟨[.op 0 0], _, [], [0], [4]⟩, ⟨[.op 1 0], _, [], [0, 1], [5]⟩, ⟨[.op 2 0, .old 0], _, [], [0, 1, 2], [6]⟩, ⟨[.op 2 0, .op 3 0], _, [], Lr 4, [7]⟩, ⟨[.op 2 0, .op 4 0], _, [], Lr 5, [8]⟩]) (F := [.old 0, .old 1, .op 5 0]) hst hb Zb
   (o_p rfl (Za rfl rfl u_0) <| o_p rfl (Zwx rfl rfl u_0 c_i) <| o_p rfl (Za rfl rfl u_0) <| o_g (g_f rfl rfl rfl (fun hG => Za rfl rfl u_0)) <| o_g (g_f rfl rfl rfl (fun hG => Zrb rfl rfl (Opd.gd hG u_0) c_i)) <| o_p rfl (Zbi rfl rfl u_0 (fun hz => (Opd.gd (bNF hz) u_1))) <| o_n) (by kernel_rfl) (fun a g hst hb => ?_)
 refine wp_cond_split (hst.bool 2 rfl) (fun hc1 => ?_) (fun hc1 => ?_)
 · replace H0 := Zy hc1 H0
   refine r_s (L := [(2, _)]) (T := [⟨[], _, [], [], [9]⟩, ⟨[.op 0 0, .old 0], _, [3], [0], [2]⟩]) (F := [.op 1 0]) (hst.pick [1] rfl) hb Zb
     (o_p rfl (Z7o rfl rfl ) <| o_p rfl (Z8 Zjk rfl rfl u_1 u_0) <| o_n) (by kernel_rfl) (fun a g hst hb => ?_)
   refine wp_ret ?_
   refine Zp ?_
   obtain rfl := Option.some.inj H0
   obtain ⟨u0, hu0, hq0⟩ := Zbo (P := Tryz.prog) Zjk (hst.at 0 rfl)
   exact Zx rfl hst hb hu0 hq0
 · replace H0 := Zz hc1 H0
   refine wp_skip ?_
   refine Zv ?_
   obtain ⟨e2, h3, H0⟩ := Zg H0
   refine r_s (L := [(0, _), (2, _)]) (T := [⟨[.old 0], _, [], [], [10]⟩, ⟨[.op 0 0], _, [], [0], [11]⟩, ⟨[.op 1 0], _, [], [0, 1], [12]⟩, ⟨[.op 2 0, .old 1], _, [3], [0, 1, 2], [2]⟩]) (F := [.op 3 0]) (hst.pick [0, 1] rfl) hb Zb
     (o_p rfl (Za rfl rfl u_0) <| o_p rfl (Zgv Tryz.underlying144 Z9h rfl rfl (Opd.glob gm_0 gk_0) u_0 h3) <| o_p rfl (Zf Zjk rfl rfl u_0) <| o_p rfl (Z8 Zjk rfl rfl u_1 u_0) <| o_n) (by kernel_rfl) (fun a g hst hb => ?_)
   refine wp_ret ?_
   obtain rfl := Option.some.inj H0
   obtain ⟨u0, hu0, hq0⟩ := Zbo (P := Tryz.prog) Zjk (hst.at 0 rfl)
   exact Zx rfl hst hb hu0 hq0
end Go.CL
