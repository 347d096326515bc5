/- A part of the proof of WholeMoney. -/
import Derived.Test.YtfmmgkiihhnehaaDoorWholeMoneyC2
import Derived.Test.YtfmmgkiihhnehaaDoorProg
set_option linter.unusedVariables false
set_option linter.unusedSimpArgs false
set_option maxRecDepth 100000
namespace Go.CL
open Go Go.RowKit Go.Proofs
theorem Zb : Tryd.prog.follows .mixedOrders = true := by kernel_rfl
theorem Z6o {α : Type} {l : List α} (h : l.length = 1) : ∃ u0, l = [u0] := by
 match l, h with
 | [u0], _ => exact ⟨u0, rfl⟩
theorem Zj6 {α : Type} {l : List α} (h : l.length = 2) : ∃ u0 u1, l = [u0, u1] := by
 match l, h with
 | [u0, u1], _ => exact ⟨u0, u1, rfl⟩
theorem Zyx {α : Type} {l : List α} (h : l.length = 8) : ∃ u0 u1 u2 u3 u4 u5 u6 u7, l = [u0, u1, u2, u3, u4, u5, u6, u7] := by
 match l, h with
 | [u0, u1, u2, u3, u4, u5, u6, u7], _ => exact ⟨u0, u1, u2, u3, u4, u5, u6, u7, rfl⟩
def Zw5 : List (Kd.FK Zj) := [⟨_, Kd.flt, 0, fun x : Zj => x.Score⟩,
 ⟨_, Kd.str, 1, fun x : Zj => x.Name⟩]
def Zt : Kd Zj := Kd.struct 2 Zw5 (by rfl)
theorem Zi2 : ∀ g, Zt.K g (default : Zj) [.float .f64 0, .string ByteArray.empty] := fun g => ⟨rfl, (List.forall_mem_cons.2 ⟨(rfl), (List.forall_mem_cons.2 ⟨(rfl), (fun _ h => by cases h)⟩)⟩)⟩
def Zuf : List (Kd.FK Zd) := [⟨_, (Kd.int .i64), 0, fun x : Zd => x.Kind⟩,
 ⟨_, (Kd.int .i64), 1, fun x : Zd => x.Num⟩,
 ⟨_, (Kd.int .i64), 2, fun x : Zd => x.Low⟩,
 ⟨_, (Kd.int .i64), 3, fun x : Zd => x.High⟩,
 ⟨_, Kd.flt, 4, fun x : Zd => x.Real⟩,
 ⟨_, (Kd.int .i64), 5, fun x : Zd => x.Cap⟩,
 ⟨_, Kd.str, 6, fun x : Zd => x.Text⟩,
 ⟨_, Zt.sl, 7, fun x : Zd => x.List⟩]
def Zi : Kd Zd := Kd.struct 8 Zuf (by rfl)
theorem Zb5 : ∀ g, Zi.K g (default : Zd) [.int .i64 0, .int .i64 0, .int .i64 0, .int .i64 0, .float .f64 0, .int .i64 0, .string ByteArray.empty, .slice none 0 0] := fun g => ⟨rfl, (List.forall_mem_cons.2 ⟨(rfl), (List.forall_mem_cons.2 ⟨(rfl), (List.forall_mem_cons.2 ⟨(rfl), (List.forall_mem_cons.2 ⟨(rfl), (List.forall_mem_cons.2 ⟨(rfl), (List.forall_mem_cons.2 ⟨(rfl), (List.forall_mem_cons.2 ⟨(rfl), (List.forall_mem_cons.2 ⟨(⟨none, 0, rfl, Nat.le_refl _, Nat.zero_le _, .inl rfl⟩), (fun _ h => by cases h)⟩)⟩)⟩)⟩)⟩)⟩)⟩)⟩)⟩
def shelf_nodeT.V (g : G) : shelf_nodeT → Value → Prop
 | .nil, v => v = .pointer none
 | .node x0 x1 x2 x3 x4, v => ∃ b o cs, v = .pointer (some ⟨b, o, none⟩) ∧ CellsAt g b o cs ∧ cs.length = 12 ∧ (∀ u ∈ cs, u.oneCell' = true) ∧ Kd.str.K g x0 (seg cs 0 1) ∧ Zi.K g x1 (seg cs 1 8) ∧ (∃ v, seg cs 9 1 = [v] ∧ shelf_nodeT.V g x2 v) ∧ (∃ v, seg cs 10 1 = [v] ∧ shelf_nodeT.V g x3 v) ∧ (Kd.int .i64).K g x4 (seg cs 11 1)
theorem shelf_nodeT.mono {g g' : G} (h : g.le g') (t : shelf_nodeT) : ∀ v, shelf_nodeT.V g t v → shelf_nodeT.V g' t v := by
 induction t with
 | nil => exact fun v h => h
 | node x0 x1 x2 x3 x4 ih2 ih3 =>
   rintro v ⟨b, o, cs, rfl, hc, hl, hz, h0, h1, ⟨w2, e2, k2⟩, ⟨w3, e3, k3⟩, h4⟩
   exact ⟨b, o, cs, rfl, hc.mono h, hl, hz, Kd.str.mono h h0, Zi.mono h h1, ⟨w2, e2, ih2 w2 k2⟩, ⟨w3, e3, ih3 w3 k3⟩, (Kd.int .i64).mono h h4⟩
theorem shelf_nodeT.ptr {g : G} {t : shelf_nodeT} {v : Value} (h : shelf_nodeT.V g t v) : ∃ p, v = .pointer p ∧ p.isNone = t.isNil := by
 cases t with
 | nil => exact ⟨_, h, rfl⟩
 | node =>
   obtain ⟨b, o, cs, e, _⟩ := h
   exact ⟨_, e, rfl⟩
def Zy : Kd shelf_nodeT where
 sz := 1
 ag := false
 K := fun g t cs => ∃ v, cs = [v] ∧ shelf_nodeT.V g t v
 len := by rintro _ _ _ ⟨v, rfl, _⟩; rfl
 one := by
   rintro _ _ _ ⟨v, rfl, h⟩ u hu
   obtain ⟨p, e, _⟩ := shelf_nodeT.ptr h
   rw [List.mem_singleton.1 hu, e]; rfl
 mono := fun h ⟨v, e, k⟩ => ⟨v, e, shelf_nodeT.mono h _ _ k⟩
 nag := fun _ => rfl
def Zue : List (Kd.FK shelf_node) := [⟨_, Kd.str, 0, fun x : shelf_node => x.key⟩,
 ⟨_, Zi, 1, fun x : shelf_node => x.rec_⟩,
 ⟨_, Zy, 9, fun x : shelf_node => x.left⟩,
 ⟨_, Zy, 10, fun x : shelf_node => x.right⟩,
 ⟨_, (Kd.int .i64), 11, fun x : shelf_node => x.size⟩]
def Zfl : Kd shelf_node := Kd.struct 12 Zue (by rfl)
theorem shelf_nodeT.V_iff {g : G} {t : shelf_nodeT} {v : Value} : (Zy.pd t).p g v ↔ shelf_nodeT.V g t v := by
 constructor
 · rintro ⟨_, ⟨u, rfl, h⟩, rfl⟩; exact h
 · exact fun h => ⟨_, ⟨v, rfl, h⟩, rfl⟩
theorem Zjz (g : G) : Zy.K g shelf_nodeT.nil [.pointer none] := ⟨_, rfl, rfl⟩
theorem Zdp (g : G) : (Zy.pd shelf_nodeT.nil).p g (.pointer none) := shelf_nodeT.V_iff.2 rfl
theorem Zea (t : shelf_nodeT) (g : G) (v : Value) (h : (Zy.pd t).p g v) : ∃ p, v = .pointer p ∧ p.isNone = t.isNil := shelf_nodeT.ptr (shelf_nodeT.V_iff.1 h)
theorem Zo {g : G} {t : shelf_nodeT} {x : shelf_node} {v : Value} (h : t.un = some x) (hv : (Zy.pd t).p g v) : (Zfl.ptr x).p g v := by
 cases t with
 | nil => cases h
 | node x0 x1 x2 x3 x4 =>
   obtain rfl := Option.some.inj h
   obtain ⟨b, o, cs, rfl, hc, hl, _, h0, h1, h2, h3, h4⟩ := shelf_nodeT.V_iff.1 hv
   exact ⟨b, o, cs, rfl, ⟨hl, (List.forall_mem_cons.2 ⟨h0, (List.forall_mem_cons.2 ⟨h1, (List.forall_mem_cons.2 ⟨h2, (List.forall_mem_cons.2 ⟨h3, (List.forall_mem_cons.2 ⟨h4, (fun _ h => by cases h)⟩)⟩)⟩)⟩)⟩)⟩, hc⟩
theorem Zst {g : G} {x : shelf_node} {v : Value} (h : (Zfl.ptr x).p g v) : (Zy.pd x.up).p g v := by
 obtain ⟨b, o, cs, rfl, hk, hc⟩ := h
 exact shelf_nodeT.V_iff.2 ⟨b, o, cs, rfl, hc, hk.1, Zfl.one hk, hk.2 _ (List.mem_of_getElem? (i := 0) rfl), hk.2 _ (List.mem_of_getElem? (i := 1) rfl), hk.2 _ (List.mem_of_getElem? (i := 2) rfl), hk.2 _ (List.mem_of_getElem? (i := 3) rfl), hk.2 _ (List.mem_of_getElem? (i := 4) rfl)⟩
def Ztd : List (Kd.FK Zm) := [⟨_, Zy, 0, fun x : Zm => x.top⟩,
 ⟨_, (Kd.int .i64), 1, fun x : Zm => x.room⟩]
def Zx : Kd Zm := Kd.struct 2 Ztd (by rfl)
theorem Zdh : ∀ g, Zx.K g (default : Zm) [.pointer none, .int .i64 0] := fun g => ⟨rfl, (List.forall_mem_cons.2 ⟨(Zjz _), (List.forall_mem_cons.2 ⟨(rfl), (fun _ h => by cases h)⟩)⟩)⟩
def Zu2 : List (Kd.FK Zbw) := [⟨_, Kd.bool, 0, fun x : Zbw => x.text⟩,
 ⟨_, Kd.bool, 1, fun x : Zbw => x.num⟩,
 ⟨_, Kd.bool, 2, fun x : Zbw => x.bounds⟩,
 ⟨_, Kd.bool, 3, fun x : Zbw => x.real⟩,
 ⟨_, Kd.bool, 4, fun x : Zbw => x.list⟩]
def Zcl : Kd Zbw := Kd.struct 5 Zu2 (by rfl)
theorem Zpp : ∀ g, Zcl.K g (default : Zbw) [.bool false, .bool false, .bool false, .bool false, .bool false] := fun g => ⟨rfl, (List.forall_mem_cons.2 ⟨(rfl), (List.forall_mem_cons.2 ⟨(rfl), (List.forall_mem_cons.2 ⟨(rfl), (List.forall_mem_cons.2 ⟨(rfl), (List.forall_mem_cons.2 ⟨(rfl), (fun _ h => by cases h)⟩)⟩)⟩)⟩)⟩)⟩
def Zop : List (Kd.FK Z2) := [⟨_, Kd.str, 0, fun x : Z2 => x.Key⟩,
 ⟨_, Zi, 1, fun x : Z2 => x.Rec⟩]
def Zbt : Kd Z2 := Kd.struct 9 Zop (by rfl)
theorem Zou : ∀ g, Zbt.K g (default : Z2) [.string ByteArray.empty, .int .i64 0, .int .i64 0, .int .i64 0, .int .i64 0, .float .f64 0, .int .i64 0, .string ByteArray.empty, .slice none 0 0] := fun g => ⟨rfl, (List.forall_mem_cons.2 ⟨(rfl), (List.forall_mem_cons.2 ⟨(Zb5 _), (fun _ h => by cases h)⟩)⟩)⟩
def Zoc : List (Kd.FK Zk) := [⟨_, Zbt.sl, 0, fun x : Zk => x.L⟩,
 ⟨_, (Kd.int .i64), 1, fun x : Zk => x.Room⟩]
def Zbj : Kd Zk := Kd.struct 2 Zoc (by rfl)
theorem Zk1 : ∀ g, Zbj.K g (default : Zk) [.slice none 0 0, .int .i64 0] := fun g => ⟨rfl, (List.forall_mem_cons.2 ⟨(⟨none, 0, rfl, Nat.le_refl _, Nat.zero_le _, .inl rfl⟩), (List.forall_mem_cons.2 ⟨(rfl), (fun _ h => by cases h)⟩)⟩)⟩
def Zql : List (Kd.FK Zbg) := [⟨_, Kd.str, 0, fun x : Zbg => x.From⟩,
 ⟨_, Kd.str, 1, fun x : Zbg => x.To⟩,
 ⟨_, (Kd.int .i64), 2, fun x : Zbg => x.N⟩]
def Zcb : Kd Zbg := Kd.struct 3 Zql (by rfl)
theorem Zlz : ∀ g, Zcb.K g (default : Zbg) [.string ByteArray.empty, .string ByteArray.empty, .int .i64 0] := fun g => ⟨rfl, (List.forall_mem_cons.2 ⟨(rfl), (List.forall_mem_cons.2 ⟨(rfl), (List.forall_mem_cons.2 ⟨(rfl), (fun _ h => by cases h)⟩)⟩)⟩)⟩
def Zy7 : List (Kd.FK Zv) := [⟨_, (Kd.int .i64), 0, fun x : Zv => x.Kind⟩,
 ⟨_, Kd.str, 1, fun x : Zv => x.Key⟩,
 ⟨_, (Kd.int .i64), 2, fun x : Zv => x.N⟩,
 ⟨_, Kd.flt, 3, fun x : Zv => x.X⟩,
 ⟨_, Kd.str, 4, fun x : Zv => x.S⟩,
 ⟨_, Zi, 5, fun x : Zv => x.Make⟩,
 ⟨_, Kd.bool, 13, fun x : Zv => x.Must⟩]
def Zbb : Kd Zv := Kd.struct 14 Zy7 (by rfl)
theorem Zru : ∀ g, Zbb.K g (default : Zv) [.int .i64 0, .string ByteArray.empty, .int .i64 0, .float .f64 0, .string ByteArray.empty, .int .i64 0, .int .i64 0, .int .i64 0, .int .i64 0, .float .f64 0, .int .i64 0, .string ByteArray.empty, .slice none 0 0, .bool false] := fun g => ⟨rfl, (List.forall_mem_cons.2 ⟨(rfl), (List.forall_mem_cons.2 ⟨(rfl), (List.forall_mem_cons.2 ⟨(rfl), (List.forall_mem_cons.2 ⟨(rfl), (List.forall_mem_cons.2 ⟨(rfl), (List.forall_mem_cons.2 ⟨(Zb5 _), (List.forall_mem_cons.2 ⟨(rfl), (fun _ h => by cases h)⟩)⟩)⟩)⟩)⟩)⟩)⟩)⟩
def Zwq : List (Kd.FK Zbu) := [⟨_, Zbb.sl, 0, fun x : Zbu => x.Acts⟩]
def Zdt : Kd Zbu := Kd.struct 1 Zwq (by rfl)
theorem Zww : ∀ g, Zdt.K g (default : Zbu) [.slice none 0 0] := fun g => ⟨rfl, (List.forall_mem_cons.2 ⟨(⟨none, 0, rfl, Nat.le_refl _, Nat.zero_le _, .inl rfl⟩), (fun _ h => by cases h)⟩)⟩
def Zxb : List (Kd.FK Zcr) := [⟨_, Kd.str, 0, fun x : Zcr => x.word⟩,
 ⟨_, (Kd.int .i64), 1, fun x : Zcr => x.on⟩,
 ⟨_, Kd.str, 2, fun x : Zcr => x.has⟩]
def Zdu : Kd Zcr := Kd.struct 3 Zxb (by rfl)
theorem Zqy : ∀ g, Zdu.K g (default : Zcr) [.string ByteArray.empty, .int .i64 0, .string ByteArray.empty] := fun g => ⟨rfl, (List.forall_mem_cons.2 ⟨(rfl), (List.forall_mem_cons.2 ⟨(rfl), (List.forall_mem_cons.2 ⟨(rfl), (fun _ h => by cases h)⟩)⟩)⟩)⟩
def Zuk : List (Kd.FK Zg) := [⟨_, (Kd.int .i64), 0, fun x : Zg => x.Code⟩,
 ⟨_, (Kd.int .i64), 1, fun x : Zg => x.Num⟩,
 ⟨_, Zi, 2, fun x : Zg => x.Rec⟩]
def Zs : Kd Zg := Kd.struct 10 Zuk (by rfl)
theorem Zfu : ∀ g, Zs.K g (default : Zg) [.int .i64 0, .int .i64 0, .int .i64 0, .int .i64 0, .int .i64 0, .int .i64 0, .float .f64 0, .int .i64 0, .string ByteArray.empty, .slice none 0 0] := fun g => ⟨rfl, (List.forall_mem_cons.2 ⟨(rfl), (List.forall_mem_cons.2 ⟨(rfl), (List.forall_mem_cons.2 ⟨(Zb5 _), (fun _ h => by cases h)⟩)⟩)⟩)⟩
def Zr1 : List (Kd.FK Zda) := [⟨_, (Kd.int .i64), 0, fun x : Zda => x.code⟩,
 ⟨_, (Kd.int .i64), 1, fun x : Zda => x.at_⟩]
def Zet : Kd Zda := Kd.struct 2 Zr1 (by rfl)
theorem Zr3 : ∀ g, Zet.K g (default : Zda) [.int .i64 0, .int .i64 0] := fun g => ⟨rfl, (List.forall_mem_cons.2 ⟨(rfl), (List.forall_mem_cons.2 ⟨(rfl), (fun _ h => by cases h)⟩)⟩)⟩
def Zuh : List (Kd.FK Zba) := [⟨_, (Kd.int .i64), 0, fun x : Zba => x.Code⟩,
 ⟨_, (Kd.int .i64), 1, fun x : Zba => x.At⟩,
 ⟨_, Zs.sl, 2, fun x : Zba => x.Answers⟩]
def Zfn : Kd Zba := Kd.struct 3 Zuh (by rfl)
theorem Zub : ∀ g, Zfn.K g (default : Zba) [.int .i64 0, .int .i64 0, .slice none 0 0] := fun g => ⟨rfl, (List.forall_mem_cons.2 ⟨(rfl), (List.forall_mem_cons.2 ⟨(rfl), (List.forall_mem_cons.2 ⟨(⟨none, 0, rfl, Nat.le_refl _, Nat.zero_le _, .inl rfl⟩), (fun _ h => by cases h)⟩)⟩)⟩)⟩
def Zvc : Zcr → List Value := fun x => [.string x.word, .int .i64 x.on, .string x.has]
theorem gm_0 : (0, g_0.flatMap Zvc) ∈ GL := List.mem_of_getElem? (i := 0) rfl
theorem gk_0 : ∀ g, (Kd.arr 22 Zdu).K g g_0 (g_0.flatMap Zvc) := fun g => Z7t (dk := Zdu) (enc := Zvc) (fun g x => ⟨rfl, (List.forall_mem_cons.2 ⟨rfl, (List.forall_mem_cons.2 ⟨rfl, (List.forall_mem_cons.2 ⟨rfl, (fun _ h => by cases h)⟩)⟩)⟩)⟩) g g_0
theorem Z51 {N d : Nat} {o : Oper} {uses : Z7}   (hop : o.op = .build 26 #[]) (hd : o.dst = some d)  : OB Tryd.prog N o uses [(d, Zx.pd { top := shelf_nodeT.nil, room := (0 : Int) })] [] := by
 refine Zcx hop hd fun a g hh => ?_
 refine ⟨.agg #[.pointer none, .int .i64 0], ?_, [.pointer none, .int .i64 0], ⟨rfl, (List.forall_mem_cons.2 ⟨(Zjz _), (List.forall_mem_cons.2 ⟨(rfl), (fun _ h => by cases h)⟩)⟩)⟩, rfl⟩
 simp only [List.map_toArray, List.map_cons, List.map_nil, List.map_nil]
 exact Zck Tryd.underlying26 (zero := .agg #[.pointer none, .int .i64 0]) (by kernel_rfl) (places := [(0, 1), (1, 1)]) (by kernel_rfl) (by kernel_rfl) g.w
theorem Zbm : Ty Tryd.prog 26 Zx := ⟨by kernel_rfl, by kernel_rfl⟩
theorem Z4q {N d : Nat} {o : Oper} {uses : Z7} {x1 : Operand} {v1 : Int} (hop : o.op = .build 26 #[(1, x1)]) (hd : o.dst = some d) (h1 : Opd uses x1 ((Kd.int .i64).pd v1)) : OB Tryd.prog N o uses [(d, Zx.pd { top := shelf_nodeT.nil, room := v1 })] [] := by
 refine Zcx hop hd fun a g hh => ?_
 obtain ⟨c1, k1, e1⟩ := h1 a g hh
 obtain rfl := k1
 refine ⟨.agg #[.pointer none, .int .i64 v1], ?_, [.pointer none, .int .i64 v1], ⟨rfl, (List.forall_mem_cons.2 ⟨(Zjz _), (List.forall_mem_cons.2 ⟨rfl, (fun _ h => by cases h)⟩)⟩)⟩, rfl⟩
 simp only [List.map_toArray, List.map_cons, List.map_nil, e1]
 exact Zck Tryd.underlying26 (zero := .agg #[.pointer none, .int .i64 0]) (by kernel_rfl) (places := [(0, 1), (1, 1)]) (by kernel_rfl) (by kernel_rfl) g.w
theorem Zpy : Fld Tryd.prog 26 1 Zx (Kd.int .i64) (fun x : Zm => x.room) := Fld.of ⟨_, (Kd.int .i64), 1, fun x : Zm => x.room⟩ (List.mem_of_getElem? (i := 1) rfl) 1 rfl (by kernel_rfl) (by decide)
theorem ty_3 : Ty Tryd.prog 3 (Kd.int .i64) := ⟨by kernel_rfl, by kernel_rfl⟩
theorem Zc8 : Fld Tryd.prog 54 7 Zi Zt.sl (fun x : Zd => x.List) := Fld.of ⟨_, Zt.sl, 7, fun x : Zd => x.List⟩ (List.mem_of_getElem? (i := 7) rfl) 7 rfl (by kernel_rfl) (by decide)
theorem Zer : Ty Tryd.prog 52 Zt.sl := ⟨by kernel_rfl, by kernel_rfl⟩
theorem Zjl : Fld Tryd.prog 54 6 Zi Kd.str (fun x : Zd => x.Text) := Fld.of ⟨_, Kd.str, 6, fun x : Zd => x.Text⟩ (List.mem_of_getElem? (i := 6) rfl) 6 rfl (by kernel_rfl) (by decide)
theorem ty_9 : Ty Tryd.prog 9 Kd.str := ⟨by kernel_rfl, by kernel_rfl⟩
theorem Zi5 : (Tryd.prog.info? 78).map (·.size) = some Zt.sz := by kernel_rfl
theorem Zff : Ty Tryd.prog 78 Zt := ⟨by kernel_rfl, by kernel_rfl⟩
theorem Zf4 : Fld Tryd.prog 78 1 Zt Kd.str (fun x : Zj => x.Name) := Fld.of ⟨_, Kd.str, 1, fun x : Zj => x.Name⟩ (List.mem_of_getElem? (i := 1) rfl) 1 rfl (by kernel_rfl) (by decide)
theorem Z4m : Fld Tryd.prog 86 4 Zfl (Kd.int .i64) (fun x : shelf_node => x.size) := Fld.of ⟨_, (Kd.int .i64), 11, fun x : shelf_node => x.size⟩ (List.mem_of_getElem? (i := 4) rfl) 11 rfl (by kernel_rfl) (by decide)
theorem Znr : Fld Tryd.prog 26 0 Zx Zy (fun x : Zm => x.top) := Fld.of ⟨_, Zy, 0, fun x : Zm => x.top⟩ (List.mem_of_getElem? (i := 0) rfl) 0 rfl (by kernel_rfl) (by decide)
theorem Zcn : Ty Tryd.prog 24 Zy := ⟨by kernel_rfl, by kernel_rfl⟩
theorem Zlg : Zp Tryd.prog 22 := by
 unfold Zp
 kernel_rfl
theorem Z3o {N d : Nat} {o : Oper} {uses : Z7} {x0 : Operand} {v0 : Bool} (hop : o.op = .build 97 #[(0, x0)]) (hd : o.dst = some d) (h0 : Opd uses x0 (Kd.bool.pd v0)) : OB Tryd.prog N o uses [(d, Zcl.pd { text := v0, num := false, bounds := false, real := false, list := false })] [] := by
 refine Zcx hop hd fun a g hh => ?_
 obtain ⟨c0, k0, e0⟩ := h0 a g hh
 obtain rfl := k0
 refine ⟨.agg #[.bool v0, .bool false, .bool false, .bool false, .bool false], ?_, [.bool v0, .bool false, .bool false, .bool false, .bool false], ⟨rfl, (List.forall_mem_cons.2 ⟨rfl, (List.forall_mem_cons.2 ⟨(rfl), (List.forall_mem_cons.2 ⟨(rfl), (List.forall_mem_cons.2 ⟨(rfl), (List.forall_mem_cons.2 ⟨(rfl), (fun _ h => by cases h)⟩)⟩)⟩)⟩)⟩)⟩, rfl⟩
 simp only [List.map_toArray, List.map_cons, List.map_nil, e0]
 exact Zck Tryd.underlying97 (zero := .agg #[.bool false, .bool false, .bool false, .bool false, .bool false]) (by kernel_rfl) (places := [(0, 1), (1, 1), (2, 1), (3, 1), (4, 1)]) (by kernel_rfl) (by kernel_rfl) g.w
theorem Zi6 : Ty Tryd.prog 97 Zcl := ⟨by kernel_rfl, by kernel_rfl⟩
theorem Z42 {N d : Nat} {o : Oper} {uses : Z7} {x1 : Operand} {v1 : Bool} (hop : o.op = .build 97 #[(1, x1)]) (hd : o.dst = some d) (h1 : Opd uses x1 (Kd.bool.pd v1)) : OB Tryd.prog N o uses [(d, Zcl.pd { text := false, num := v1, bounds := false, real := false, list := false })] [] := by
 refine Zcx hop hd fun a g hh => ?_
 obtain ⟨c1, k1, e1⟩ := h1 a g hh
 obtain rfl := k1
 refine ⟨.agg #[.bool false, .bool v1, .bool false, .bool false, .bool false], ?_, [.bool false, .bool v1, .bool false, .bool false, .bool false], ⟨rfl, (List.forall_mem_cons.2 ⟨(rfl), (List.forall_mem_cons.2 ⟨rfl, (List.forall_mem_cons.2 ⟨(rfl), (List.forall_mem_cons.2 ⟨(rfl), (List.forall_mem_cons.2 ⟨(rfl), (fun _ h => by cases h)⟩)⟩)⟩)⟩)⟩)⟩, rfl⟩
 simp only [List.map_toArray, List.map_cons, List.map_nil, e1]
 exact Zck Tryd.underlying97 (zero := .agg #[.bool false, .bool false, .bool false, .bool false, .bool false]) (by kernel_rfl) (places := [(0, 1), (1, 1), (2, 1), (3, 1), (4, 1)]) (by kernel_rfl) (by kernel_rfl) g.w
theorem Z0b {N d : Nat} {o : Oper} {uses : Z7} {x1 : Operand} {x2 : Operand} {v1 : Bool} {v2 : Bool} (hop : o.op = .build 97 #[(1, x1), (2, x2)]) (hd : o.dst = some d) (h1 : Opd uses x1 (Kd.bool.pd v1)) (h2 : Opd uses x2 (Kd.bool.pd v2)) : OB Tryd.prog N o uses [(d, Zcl.pd { text := false, num := v1, bounds := v2, real := false, list := false })] [] := by
 refine Zcx hop hd fun a g hh => ?_
 obtain ⟨c1, k1, e1⟩ := h1 a g hh
 obtain rfl := k1
 obtain ⟨c2, k2, e2⟩ := h2 a g hh
 obtain rfl := k2
 refine ⟨.agg #[.bool false, .bool v1, .bool v2, .bool false, .bool false], ?_, [.bool false, .bool v1, .bool v2, .bool false, .bool false], ⟨rfl, (List.forall_mem_cons.2 ⟨(rfl), (List.forall_mem_cons.2 ⟨rfl, (List.forall_mem_cons.2 ⟨rfl, (List.forall_mem_cons.2 ⟨(rfl), (List.forall_mem_cons.2 ⟨(rfl), (fun _ h => by cases h)⟩)⟩)⟩)⟩)⟩)⟩, rfl⟩
 simp only [List.map_toArray, List.map_cons, List.map_nil, e1, e2]
 exact Zck Tryd.underlying97 (zero := .agg #[.bool false, .bool false, .bool false, .bool false, .bool false]) (by kernel_rfl) (places := [(0, 1), (1, 1), (2, 1), (3, 1), (4, 1)]) (by kernel_rfl) (by kernel_rfl) g.w
theorem Z46 {N d : Nat} {o : Oper} {uses : Z7} {x3 : Operand} {v3 : Bool} (hop : o.op = .build 97 #[(3, x3)]) (hd : o.dst = some d) (h3 : Opd uses x3 (Kd.bool.pd v3)) : OB Tryd.prog N o uses [(d, Zcl.pd { text := false, num := false, bounds := false, real := v3, list := false })] [] := by
 refine Zcx hop hd fun a g hh => ?_
 obtain ⟨c3, k3, e3⟩ := h3 a g hh
 obtain rfl := k3
 refine ⟨.agg #[.bool false, .bool false, .bool false, .bool v3, .bool false], ?_, [.bool false, .bool false, .bool false, .bool v3, .bool false], ⟨rfl, (List.forall_mem_cons.2 ⟨(rfl), (List.forall_mem_cons.2 ⟨(rfl), (List.forall_mem_cons.2 ⟨(rfl), (List.forall_mem_cons.2 ⟨rfl, (List.forall_mem_cons.2 ⟨(rfl), (fun _ h => by cases h)⟩)⟩)⟩)⟩)⟩)⟩, rfl⟩
 simp only [List.map_toArray, List.map_cons, List.map_nil, e3]
 exact Zck Tryd.underlying97 (zero := .agg #[.bool false, .bool false, .bool false, .bool false, .bool false]) (by kernel_rfl) (places := [(0, 1), (1, 1), (2, 1), (3, 1), (4, 1)]) (by kernel_rfl) (by kernel_rfl) g.w
theorem Z3l {N d : Nat} {o : Oper} {uses : Z7} {x4 : Operand} {v4 : Bool} (hop : o.op = .build 97 #[(4, x4)]) (hd : o.dst = some d) (h4 : Opd uses x4 (Kd.bool.pd v4)) : OB Tryd.prog N o uses [(d, Zcl.pd { text := false, num := false, bounds := false, real := false, list := v4 })] [] := by
 refine Zcx hop hd fun a g hh => ?_
 obtain ⟨c4, k4, e4⟩ := h4 a g hh
 obtain rfl := k4
 refine ⟨.agg #[.bool false, .bool false, .bool false, .bool false, .bool v4], ?_, [.bool false, .bool false, .bool false, .bool false, .bool v4], ⟨rfl, (List.forall_mem_cons.2 ⟨(rfl), (List.forall_mem_cons.2 ⟨(rfl), (List.forall_mem_cons.2 ⟨(rfl), (List.forall_mem_cons.2 ⟨(rfl), (List.forall_mem_cons.2 ⟨rfl, (fun _ h => by cases h)⟩)⟩)⟩)⟩)⟩)⟩, rfl⟩
 simp only [List.map_toArray, List.map_cons, List.map_nil, e4]
 exact Zck Tryd.underlying97 (zero := .agg #[.bool false, .bool false, .bool false, .bool false, .bool false]) (by kernel_rfl) (places := [(0, 1), (1, 1), (2, 1), (3, 1), (4, 1)]) (by kernel_rfl) (by kernel_rfl) g.w
theorem Z5j {N d : Nat} {o : Oper} {uses : Z7}   (hop : o.op = .build 97 #[]) (hd : o.dst = some d)  : OB Tryd.prog N o uses [(d, Zcl.pd { text := false, num := false, bounds := false, real := false, list := false })] [] := by
 refine Zcx hop hd fun a g hh => ?_
 refine ⟨.agg #[.bool false, .bool false, .bool false, .bool false, .bool false], ?_, [.bool false, .bool false, .bool false, .bool false, .bool false], ⟨rfl, (List.forall_mem_cons.2 ⟨(rfl), (List.forall_mem_cons.2 ⟨(rfl), (List.forall_mem_cons.2 ⟨(rfl), (List.forall_mem_cons.2 ⟨(rfl), (List.forall_mem_cons.2 ⟨(rfl), (fun _ h => by cases h)⟩)⟩)⟩)⟩)⟩)⟩, rfl⟩
 simp only [List.map_toArray, List.map_cons, List.map_nil, List.map_nil]
 exact Zck Tryd.underlying97 (zero := .agg #[.bool false, .bool false, .bool false, .bool false, .bool false]) (by kernel_rfl) (places := [(0, 1), (1, 1), (2, 1), (3, 1), (4, 1)]) (by kernel_rfl) (by kernel_rfl) g.w
theorem Z7h : Ext Tryd.prog 91 Extern.MathFloatBits.float64frombits := ⟨_, Tryd.func91, rfl, rfl, by kernel_rfl, by kernel_rfl⟩
theorem Z7w : Zp Tryd.prog 83 := by
 unfold Zp
 kernel_rfl
theorem Zm4 : Zp Tryd.prog 56 := by
 unfold Zp
 kernel_rfl
theorem Zum : Ext Tryd.prog 55 Extern.MathFloatBits.float64bits := ⟨_, Tryd.func55, rfl, rfl, by kernel_rfl, by kernel_rfl⟩
theorem Zun : Zp Tryd.prog 54 := by
 unfold Zp
 kernel_rfl
theorem Z4t : Fld Tryd.prog 97 0 Zcl Kd.bool (fun x : Zbw => x.text) := Fld.of ⟨_, Kd.bool, 0, fun x : Zbw => x.text⟩ (List.mem_of_getElem? (i := 0) rfl) 0 rfl (by kernel_rfl) (by decide)
theorem ty_4 : Ty Tryd.prog 4 Kd.bool := ⟨by kernel_rfl, by kernel_rfl⟩
theorem Z4f : Fld Tryd.prog 97 1 Zcl Kd.bool (fun x : Zbw => x.num) := Fld.of ⟨_, Kd.bool, 1, fun x : Zbw => x.num⟩ (List.mem_of_getElem? (i := 1) rfl) 1 rfl (by kernel_rfl) (by decide)
theorem Zd3 : Fld Tryd.prog 54 1 Zi (Kd.int .i64) (fun x : Zd => x.Num) := Fld.of ⟨_, (Kd.int .i64), 1, fun x : Zd => x.Num⟩ (List.mem_of_getElem? (i := 1) rfl) 1 rfl (by kernel_rfl) (by decide)
theorem ty_2 : Ty Tryd.prog 2 (Kd.int .i64) := ⟨by kernel_rfl, by kernel_rfl⟩
theorem Zx2 : Fld Tryd.prog 97 2 Zcl Kd.bool (fun x : Zbw => x.bounds) := Fld.of ⟨_, Kd.bool, 2, fun x : Zbw => x.bounds⟩ (List.mem_of_getElem? (i := 2) rfl) 2 rfl (by kernel_rfl) (by decide)
theorem Zjm : Fld Tryd.prog 54 2 Zi (Kd.int .i64) (fun x : Zd => x.Low) := Fld.of ⟨_, (Kd.int .i64), 2, fun x : Zd => x.Low⟩ (List.mem_of_getElem? (i := 2) rfl) 2 rfl (by kernel_rfl) (by decide)
theorem Zjp : Fld Tryd.prog 54 3 Zi (Kd.int .i64) (fun x : Zd => x.High) := Fld.of ⟨_, (Kd.int .i64), 3, fun x : Zd => x.High⟩ (List.mem_of_getElem? (i := 3) rfl) 3 rfl (by kernel_rfl) (by decide)
theorem Z4s : Fld Tryd.prog 97 3 Zcl Kd.bool (fun x : Zbw => x.real) := Fld.of ⟨_, Kd.bool, 3, fun x : Zbw => x.real⟩ (List.mem_of_getElem? (i := 3) rfl) 3 rfl (by kernel_rfl) (by decide)
theorem Zkr : Fld Tryd.prog 54 4 Zi Kd.flt (fun x : Zd => x.Real) := Fld.of ⟨_, Kd.flt, 4, fun x : Zd => x.Real⟩ (List.mem_of_getElem? (i := 4) rfl) 4 rfl (by kernel_rfl) (by decide)
theorem Ze1 : Ty Tryd.prog 51 Kd.flt := ⟨by kernel_rfl, by kernel_rfl⟩
theorem Zp3 : Zp Tryd.prog 33 := by
 unfold Zp
 kernel_rfl
theorem Zx9 : Fld Tryd.prog 97 4 Zcl Kd.bool (fun x : Zbw => x.list) := Fld.of ⟨_, Kd.bool, 4, fun x : Zbw => x.list⟩ (List.mem_of_getElem? (i := 4) rfl) 4 rfl (by kernel_rfl) (by decide)
theorem Zhm : Fld Tryd.prog 54 5 Zi (Kd.int .i64) (fun x : Zd => x.Cap) := Fld.of ⟨_, (Kd.int .i64), 5, fun x : Zd => x.Cap⟩ (List.mem_of_getElem? (i := 5) rfl) 5 rfl (by kernel_rfl) (by decide)
theorem Zgl : Fld Tryd.prog 78 0 Zt Kd.flt (fun x : Zj => x.Score) := Fld.of ⟨_, Kd.flt, 0, fun x : Zj => x.Score⟩ (List.mem_of_getElem? (i := 0) rfl) 0 rfl (by kernel_rfl) (by decide)
theorem Zze : Zp Tryd.prog 84 := by
 unfold Zp
 kernel_rfl
theorem Zyk : Zp Tryd.prog 38 := by
 unfold Zp
 kernel_rfl
theorem Zyn : Zp Tryd.prog 57 := by
 unfold Zp
 kernel_rfl
theorem Zfr : Fld Tryd.prog 54 0 Zi (Kd.int .i64) (fun x : Zd => x.Kind) := Fld.of ⟨_, (Kd.int .i64), 0, fun x : Zd => x.Kind⟩ (List.mem_of_getElem? (i := 0) rfl) 0 rfl (by kernel_rfl) (by decide)
theorem Z62 : Zp Tryd.prog 36 := by
 unfold Zp
 kernel_rfl
theorem Zbf : Ty Tryd.prog 54 Zi := ⟨by kernel_rfl, by kernel_rfl⟩
theorem Z65 : Zp Tryd.prog 37 := by
 unfold Zp
 kernel_rfl
theorem Z7e : Zp Tryd.prog 39 := by
 unfold Zp
 kernel_rfl
theorem Zd4 : TE Tryd.prog 52 78 Zt 24 := TE.of Tryd.underlying52 (by kernel_rfl) (by decide) (by decide)
theorem Zuz : Zp Tryd.prog 42 := by
 unfold Zp
 kernel_rfl
theorem Zp4 {c : Option Nat} {N j s : Nat} {o : Oper} {uses : Z7} {x z : Operand} {v : Zd} {y0 y : List Zj} {v0 : Zd} {t : Nat} (hT : Ty Tryd.prog t Zt.sl) (hop : o.op = .store t x z) (hd : o.dst = none) (hs : Opd uses (.tmp s) (Zbk c Zi j v)) (hx : Opd uses x (Ziv Zi j v0 7 Zt.sl y0)) (hz : Opd uses z (Zt.sl.pd y)) : OB Tryd.prog N o uses [(s, Zbk c Zi j { v with List := y })] [j + 1] :=
 Zkj hT hop hd hs hx hz fun g cs ys hk hy => by
   have hc : cs.length = 8 := hk.1
   have hl : ys.length = 1 := Zt.sl.len hy
   exact ⟨by omega, (Zfs (by omega)).trans hc, (List.forall_mem_cons.2 ⟨(by show (Kd.int .i64).K g v.Kind (seg (Zbo cs 7 ys) 0 1); rw [Zbh (by omega) (by omega)]; exact hk.2 _ (List.mem_of_getElem? (i := 0) rfl)), (List.forall_mem_cons.2 ⟨(by show (Kd.int .i64).K g v.Num (seg (Zbo cs 7 ys) 1 1); rw [Zbh (by omega) (by omega)]; exact hk.2 _ (List.mem_of_getElem? (i := 1) rfl)), (List.forall_mem_cons.2 ⟨(by show (Kd.int .i64).K g v.Low (seg (Zbo cs 7 ys) 2 1); rw [Zbh (by omega) (by omega)]; exact hk.2 _ (List.mem_of_getElem? (i := 2) rfl)), (List.forall_mem_cons.2 ⟨(by show (Kd.int .i64).K g v.High (seg (Zbo cs 7 ys) 3 1); rw [Zbh (by omega) (by omega)]; exact hk.2 _ (List.mem_of_getElem? (i := 3) rfl)), (List.forall_mem_cons.2 ⟨(by show Kd.flt.K g v.Real (seg (Zbo cs 7 ys) 4 1); rw [Zbh (by omega) (by omega)]; exact hk.2 _ (List.mem_of_getElem? (i := 4) rfl)), (List.forall_mem_cons.2 ⟨(by show (Kd.int .i64).K g v.Cap (seg (Zbo cs 7 ys) 5 1); rw [Zbh (by omega) (by omega)]; exact hk.2 _ (List.mem_of_getElem? (i := 5) rfl)), (List.forall_mem_cons.2 ⟨(by show Kd.str.K g v.Text (seg (Zbo cs 7 ys) 6 1); rw [Zbh (by omega) (by omega)]; exact hk.2 _ (List.mem_of_getElem? (i := 6) rfl)), (List.forall_mem_cons.2 ⟨(by show Zt.sl.K g y (seg (Zbo cs 7 ys) 7 1); rw [Zgn (by omega) hl]; exact hy), (fun _ h => by cases h)⟩)⟩)⟩)⟩)⟩)⟩)⟩)⟩)⟩
theorem Zeq : Fld Tryd.prog 86 0 Zfl Kd.str (fun x : shelf_node => x.key) := Fld.of ⟨_, Kd.str, 0, fun x : shelf_node => x.key⟩ (List.mem_of_getElem? (i := 0) rfl) 0 rfl (by kernel_rfl) (by decide)
theorem Zd7 : Fld Tryd.prog 86 2 Zfl Zy (fun x : shelf_node => x.left) := Fld.of ⟨_, Zy, 9, fun x : shelf_node => x.left⟩ (List.mem_of_getElem? (i := 2) rfl) 9 rfl (by kernel_rfl) (by decide)
theorem Zes : Fld Tryd.prog 86 3 Zfl Zy (fun x : shelf_node => x.right) := Fld.of ⟨_, Zy, 10, fun x : shelf_node => x.right⟩ (List.mem_of_getElem? (i := 3) rfl) 10 rfl (by kernel_rfl) (by decide)
theorem Zhc : Fld Tryd.prog 86 1 Zfl Zi (fun x : shelf_node => x.rec_) := Fld.of ⟨_, Zi, 1, fun x : shelf_node => x.rec_⟩ (List.mem_of_getElem? (i := 1) rfl) 1 rfl (by kernel_rfl) (by decide)
theorem Zmt : Zp Tryd.prog 26 := by
 unfold Zp
 kernel_rfl
theorem Zpf {N d : Nat} {o : Oper} {uses : Z7}   (hop : o.op = .build 54 #[]) (hd : o.dst = some d)  : OB Tryd.prog N o uses [(d, Zi.pd { Kind := (0 : Int), Num := (0 : Int), Low := (0 : Int), High := (0 : Int), Real := (0 : Nat), Cap := (0 : Int), Text := ByteArray.empty, List := ([] : List Zj) })] [] := by
 refine Zcx hop hd fun a g hh => ?_
 refine ⟨.agg #[.int .i64 0, .int .i64 0, .int .i64 0, .int .i64 0, .float .f64 0, .int .i64 0, .string ByteArray.empty, .slice none 0 0], ?_, [.int .i64 0, .int .i64 0, .int .i64 0, .int .i64 0, .float .f64 0, .int .i64 0, .string ByteArray.empty, .slice none 0 0], ⟨rfl, (List.forall_mem_cons.2 ⟨(rfl), (List.forall_mem_cons.2 ⟨(rfl), (List.forall_mem_cons.2 ⟨(rfl), (List.forall_mem_cons.2 ⟨(rfl), (List.forall_mem_cons.2 ⟨(rfl), (List.forall_mem_cons.2 ⟨(rfl), (List.forall_mem_cons.2 ⟨(rfl), (List.forall_mem_cons.2 ⟨(⟨none, 0, rfl, Nat.le_refl _, Nat.zero_le _, .inl rfl⟩), (fun _ h => by cases h)⟩)⟩)⟩)⟩)⟩)⟩)⟩)⟩)⟩, rfl⟩
 simp only [List.map_toArray, List.map_cons, List.map_nil, List.map_nil]
 exact Zck Tryd.underlying54 (zero := .agg #[.int .i64 0, .int .i64 0, .int .i64 0, .int .i64 0, .float .f64 0, .int .i64 0, .string ByteArray.empty, .slice none 0 0]) (by kernel_rfl) (places := [(0, 1), (1, 1), (2, 1), (3, 1), (4, 1), (5, 1), (6, 1), (7, 1)]) (by kernel_rfl) (by kernel_rfl) g.w
theorem Zsb {N d : Nat} {o : Oper} {uses : Z7} {x0 : Operand} {x1 : Operand} {x2 : Operand} {x3 : Operand} {x4 : Operand} {v0 : ByteArray} {v1 : Zd} {v2 : shelf_nodeT} {v3 : shelf_nodeT} {v4 : Int} (hop : o.op = .build 86 #[(0, x0), (1, x1), (2, x2), (3, x3), (4, x4)]) (hd : o.dst = some d) (h0 : Opd uses x0 (Kd.str.pd v0)) (h1 : Opd uses x1 (Zi.pd v1)) (h2 : Opd uses x2 (Zy.pd v2)) (h3 : Opd uses x3 (Zy.pd v3)) (h4 : Opd uses x4 ((Kd.int .i64).pd v4)) : OB Tryd.prog N o uses [(d, Zfl.pd { key := v0, rec_ := v1, left := v2, right := v3, size := v4 })] [] := by
 refine Zcx hop hd fun a g hh => ?_
 obtain ⟨c0, k0, e0⟩ := h0 a g hh
 obtain rfl := k0
 obtain ⟨c1, k1, e1⟩ := h1 a g hh
 obtain ⟨u1_0, u1_1, u1_2, u1_3, u1_4, u1_5, u1_6, u1_7, rfl⟩ := Zyx (Zi.len k1)
 obtain ⟨c2, k2, e2⟩ := h2 a g hh
 obtain ⟨p2, rfl, l2⟩ := k2
 obtain ⟨q2, rfl, _⟩ := shelf_nodeT.ptr l2
 obtain ⟨c3, k3, e3⟩ := h3 a g hh
 obtain ⟨p3, rfl, l3⟩ := k3
 obtain ⟨q3, rfl, _⟩ := shelf_nodeT.ptr l3
 obtain ⟨c4, k4, e4⟩ := h4 a g hh
 obtain rfl := k4
 refine ⟨.agg #[.string v0, u1_0, u1_1, u1_2, u1_3, u1_4, u1_5, u1_6, u1_7, .pointer q2, .pointer q3, .int .i64 v4], ?_, [.string v0, u1_0, u1_1, u1_2, u1_3, u1_4, u1_5, u1_6, u1_7, .pointer q2, .pointer q3, .int .i64 v4], ⟨rfl, (List.forall_mem_cons.2 ⟨rfl, (List.forall_mem_cons.2 ⟨k1, (List.forall_mem_cons.2 ⟨⟨.pointer q2, rfl, l2⟩, (List.forall_mem_cons.2 ⟨⟨.pointer q3, rfl, l3⟩, (List.forall_mem_cons.2 ⟨rfl, (fun _ h => by cases h)⟩)⟩)⟩)⟩)⟩)⟩, rfl⟩
 simp only [List.map_toArray, List.map_cons, List.map_nil, e0, e1, e2, e3, e4]
 exact Zck Tryd.underlying86 (zero := .agg #[.string ByteArray.empty, .int .i64 0, .int .i64 0, .int .i64 0, .int .i64 0, .float .f64 0, .int .i64 0, .string ByteArray.empty, .slice none 0 0, .pointer none, .pointer none, .int .i64 0]) (by kernel_rfl) (places := [(0, 1), (1, 8), (9, 1), (10, 1), (11, 1)]) (by kernel_rfl) (by kernel_rfl) g.w
theorem Zur : Zp Tryd.prog 58 := by
 unfold Zp
 kernel_rfl
theorem Zjn : Zp Tryd.prog 40 := by
 unfold Zp
 kernel_rfl
theorem Zzg : Zp Tryd.prog 25 := by
 unfold Zp
 kernel_rfl
theorem Zr4 : Zp Tryd.prog 41 := by
 unfold Zp
 kernel_rfl
theorem Zzf : Zp Tryd.prog 23 := by
 unfold Zp
 kernel_rfl
theorem Zzk : Zp Tryd.prog 24 := by
 unfold Zp
 kernel_rfl
theorem Zp8 : Zp Tryd.prog 12 := by
 unfold Zp
 kernel_rfl
theorem Ztq {N d : Nat} {o : Oper} {uses : Z7} {x0 : Operand} {x1 : Operand} {v0 : shelf_nodeT} {v1 : Int} (hop : o.op = .build 26 #[(0, x0), (1, x1)]) (hd : o.dst = some d) (h0 : Opd uses x0 (Zy.pd v0)) (h1 : Opd uses x1 ((Kd.int .i64).pd v1)) : OB Tryd.prog N o uses [(d, Zx.pd { top := v0, room := v1 })] [] := by
 refine Zcx hop hd fun a g hh => ?_
 obtain ⟨c0, k0, e0⟩ := h0 a g hh
 obtain ⟨p0, rfl, l0⟩ := k0
 obtain ⟨q0, rfl, _⟩ := shelf_nodeT.ptr l0
 obtain ⟨c1, k1, e1⟩ := h1 a g hh
 obtain rfl := k1
 refine ⟨.agg #[.pointer q0, .int .i64 v1], ?_, [.pointer q0, .int .i64 v1], ⟨rfl, (List.forall_mem_cons.2 ⟨⟨.pointer q0, rfl, l0⟩, (List.forall_mem_cons.2 ⟨rfl, (fun _ h => by cases h)⟩)⟩)⟩, rfl⟩
 simp only [List.map_toArray, List.map_cons, List.map_nil, e0, e1]
 exact Zck Tryd.underlying26 (zero := .agg #[.pointer none, .int .i64 0]) (by kernel_rfl) (places := [(0, 1), (1, 1)]) (by kernel_rfl) (by kernel_rfl) g.w
theorem Zyi : Zp Tryd.prog 60 := by
 unfold Zp
 kernel_rfl
theorem Z2i : Zp Tryd.prog 92 := by
 unfold Zp
 kernel_rfl
theorem Zzj : Zp Tryd.prog 86 := by
 unfold Zp
 kernel_rfl
theorem Z2h : Zp Tryd.prog 85 := by
 unfold Zp
 kernel_rfl
theorem Z2u : Zp Tryd.prog 59 := by
 unfold Zp
 kernel_rfl
theorem Z5n : TE Tryd.prog 124 9 Kd.str 16 := TE.of Tryd.underlying124 (by kernel_rfl) (by decide) (by decide)
theorem sz_9 : (Tryd.prog.info? 9).map (·.size) = some Kd.str.sz := by kernel_rfl
theorem Z2v : Zp Tryd.prog 45 := by
 unfold Zp
 kernel_rfl
theorem Z7q : Zp Tryd.prog 61 := by
 unfold Zp
 kernel_rfl
theorem Z7i : Zp Tryd.prog 44 := by
 unfold Zp
 kernel_rfl
theorem Z6t : Zp Tryd.prog 43 := by
 unfold Zp
 kernel_rfl
theorem Z6f : Zp Tryd.prog 46 := by
 unfold Zp
 kernel_rfl
theorem Zki : Fld Tryd.prog 49 0 Zbj Zbt.sl (fun x : Zk => x.L) := Fld.of ⟨_, Zbt.sl, 0, fun x : Zk => x.L⟩ (List.mem_of_getElem? (i := 0) rfl) 0 rfl (by kernel_rfl) (by decide)
theorem Zm3 : Ty Tryd.prog 22 Zbt.sl := ⟨by kernel_rfl, by kernel_rfl⟩
theorem Zsr : (Tryd.prog.info? 56).map (·.size) = some Zbt.sz := by kernel_rfl
theorem Znh : Fld Tryd.prog 56 0 Zbt Kd.str (fun x : Z2 => x.Key) := Fld.of ⟨_, Kd.str, 0, fun x : Z2 => x.Key⟩ (List.mem_of_getElem? (i := 0) rfl) 0 rfl (by kernel_rfl) (by decide)
theorem Ziw : Ty Tryd.prog 49 Zbj := ⟨by kernel_rfl, by kernel_rfl⟩
theorem Z7f : Zp Tryd.prog 27 := by
 unfold Zp
 kernel_rfl
theorem Z7b : Zp Tryd.prog 28 := by
 unfold Zp
 kernel_rfl
theorem Zx0 : Fld Tryd.prog 49 1 Zbj (Kd.int .i64) (fun x : Zk => x.Room) := Fld.of ⟨_, (Kd.int .i64), 1, fun x : Zk => x.Room⟩ (List.mem_of_getElem? (i := 1) rfl) 1 rfl (by kernel_rfl) (by decide)
theorem Zr0 : TE Tryd.prog 22 56 Zbt 104 := TE.of Tryd.underlying22 (by kernel_rfl) (by decide) (by decide)
theorem Z0c {N d : Nat} {o : Oper} {uses : Z7} {x0 : Operand} {x1 : Operand} {v0 : ByteArray} {v1 : Zd} (hop : o.op = .build 56 #[(0, x0), (1, x1)]) (hd : o.dst = some d) (h0 : Opd uses x0 (Kd.str.pd v0)) (h1 : Opd uses x1 (Zi.pd v1)) : OB Tryd.prog N o uses [(d, Zbt.pd { Key := v0, Rec := v1 })] [] := by
 refine Zcx hop hd fun a g hh => ?_
 obtain ⟨c0, k0, e0⟩ := h0 a g hh
 obtain rfl := k0
 obtain ⟨c1, k1, e1⟩ := h1 a g hh
 obtain ⟨u1_0, u1_1, u1_2, u1_3, u1_4, u1_5, u1_6, u1_7, rfl⟩ := Zyx (Zi.len k1)
 refine ⟨.agg #[.string v0, u1_0, u1_1, u1_2, u1_3, u1_4, u1_5, u1_6, u1_7], ?_, [.string v0, u1_0, u1_1, u1_2, u1_3, u1_4, u1_5, u1_6, u1_7], ⟨rfl, (List.forall_mem_cons.2 ⟨rfl, (List.forall_mem_cons.2 ⟨k1, (fun _ h => by cases h)⟩)⟩)⟩, rfl⟩
 simp only [List.map_toArray, List.map_cons, List.map_nil, e0, e1]
 exact Zck Tryd.underlying56 (zero := .agg #[.string ByteArray.empty, .int .i64 0, .int .i64 0, .int .i64 0, .int .i64 0, .float .f64 0, .int .i64 0, .string ByteArray.empty, .slice none 0 0]) (by kernel_rfl) (places := [(0, 1), (1, 8)]) (by kernel_rfl) (by kernel_rfl) g.w
theorem Z0d {N d : Nat} {o : Oper} {uses : Z7} {x0 : Operand} {x1 : Operand} {v0 : List Z2} {v1 : Int} (hop : o.op = .build 49 #[(0, x0), (1, x1)]) (hd : o.dst = some d) (h0 : Opd uses x0 (Zbt.sl.pd v0)) (h1 : Opd uses x1 ((Kd.int .i64).pd v1)) : OB Tryd.prog N o uses [(d, Zbj.pd { L := v0, Room := v1 })] [] := by
 refine Zcx hop hd fun a g hh => ?_
 obtain ⟨c0, k0, e0⟩ := h0 a g hh
 obtain ⟨A0, n0, rfl, l0⟩ := k0
 obtain ⟨c1, k1, e1⟩ := h1 a g hh
 obtain rfl := k1
 refine ⟨.agg #[.slice A0 v0.length n0, .int .i64 v1], ?_, [.slice A0 v0.length n0, .int .i64 v1], ⟨rfl, (List.forall_mem_cons.2 ⟨⟨A0, n0, rfl, l0⟩, (List.forall_mem_cons.2 ⟨rfl, (fun _ h => by cases h)⟩)⟩)⟩, rfl⟩
 simp only [List.map_toArray, List.map_cons, List.map_nil, e0, e1]
 exact Zck Tryd.underlying49 (zero := .agg #[.slice none 0 0, .int .i64 0]) (by kernel_rfl) (places := [(0, 1), (1, 1)]) (by kernel_rfl) (by kernel_rfl) g.w
theorem en_4 : Zp Tryd.prog 4 := by
 unfold Zp
 kernel_rfl
theorem Z25 {N d : Nat} {o : Oper} {uses : Z7} {x1 : Operand} {v1 : Int} (hop : o.op = .build 49 #[(1, x1)]) (hd : o.dst = some d) (h1 : Opd uses x1 ((Kd.int .i64).pd v1)) : OB Tryd.prog N o uses [(d, Zbj.pd { L := ([] : List Z2), Room := v1 })] [] := by
 refine Zcx hop hd fun a g hh => ?_
 obtain ⟨c1, k1, e1⟩ := h1 a g hh
 obtain rfl := k1
 refine ⟨.agg #[.slice none 0 0, .int .i64 v1], ?_, [.slice none 0 0, .int .i64 v1], ⟨rfl, (List.forall_mem_cons.2 ⟨(⟨none, 0, rfl, Nat.le_refl _, Nat.zero_le _, .inl rfl⟩), (List.forall_mem_cons.2 ⟨rfl, (fun _ h => by cases h)⟩)⟩)⟩, rfl⟩
 simp only [List.map_toArray, List.map_cons, List.map_nil, e1]
 exact Zck Tryd.underlying49 (zero := .agg #[.slice none 0 0, .int .i64 0]) (by kernel_rfl) (places := [(0, 1), (1, 1)]) (by kernel_rfl) (by kernel_rfl) g.w
theorem Z2c : Ty Tryd.prog 56 Zbt := ⟨by kernel_rfl, by kernel_rfl⟩
theorem Zs9 : Fld Tryd.prog 56 1 Zbt Zi (fun x : Z2 => x.Rec) := Fld.of ⟨_, Zi, 1, fun x : Z2 => x.Rec⟩ (List.mem_of_getElem? (i := 1) rfl) 1 rfl (by kernel_rfl) (by decide)
theorem Z6p : Zp Tryd.prog 13 := by
 unfold Zp
 kernel_rfl
theorem Z2d : Zp Tryd.prog 14 := by
 unfold Zp
 kernel_rfl
theorem Z6g : Zp Tryd.prog 15 := by
 unfold Zp
 kernel_rfl
theorem Z2m : (Tryd.prog.info? 62).map (·.size) = some Zcb.sz := by kernel_rfl
theorem Zuu : Ty Tryd.prog 62 Zcb := ⟨by kernel_rfl, by kernel_rfl⟩
theorem Zx6 : Fld Tryd.prog 62 0 Zcb Kd.str (fun x : Zbg => x.From) := Fld.of ⟨_, Kd.str, 0, fun x : Zbg => x.From⟩ (List.mem_of_getElem? (i := 0) rfl) 0 rfl (by kernel_rfl) (by decide)
theorem Zxl : Fld Tryd.prog 62 1 Zcb Kd.str (fun x : Zbg => x.To) := Fld.of ⟨_, Kd.str, 1, fun x : Zbg => x.To⟩ (List.mem_of_getElem? (i := 1) rfl) 1 rfl (by kernel_rfl) (by decide)
theorem Zzc : Zp Tryd.prog 16 := by
 unfold Zp
 kernel_rfl
theorem Zxn : Fld Tryd.prog 62 2 Zcb (Kd.int .i64) (fun x : Zbg => x.N) := Fld.of ⟨_, (Kd.int .i64), 2, fun x : Zbg => x.N⟩ (List.mem_of_getElem? (i := 2) rfl) 2 rfl (by kernel_rfl) (by decide)
theorem Zoo {N d : Nat} {o : Oper} {uses : Z7} {x0 : Operand} {x1 : Operand} {x2 : Operand} {x6 : Operand} {v0 : Int} {v1 : ByteArray} {v2 : Int} {v6 : Bool} (hop : o.op = .build 66 #[(0, x0), (1, x1), (2, x2), (6, x6)]) (hd : o.dst = some d) (h0 : Opd uses x0 ((Kd.int .i64).pd v0)) (h1 : Opd uses x1 (Kd.str.pd v1)) (h2 : Opd uses x2 ((Kd.int .i64).pd v2)) (h6 : Opd uses x6 (Kd.bool.pd v6)) : OB Tryd.prog N o uses [(d, Zbb.pd { Kind := v0, Key := v1, N := v2, X := (0 : Nat), S := ByteArray.empty, Make := (default : Zd), Must := v6 })] [] := by
 refine Zcx hop hd fun a g hh => ?_
 obtain ⟨c0, k0, e0⟩ := h0 a g hh
 obtain rfl := k0
 obtain ⟨c1, k1, e1⟩ := h1 a g hh
 obtain rfl := k1
 obtain ⟨c2, k2, e2⟩ := h2 a g hh
 obtain rfl := k2
 obtain ⟨c6, k6, e6⟩ := h6 a g hh
 obtain rfl := k6
 refine ⟨.agg #[.int .i64 v0, .string v1, .int .i64 v2, .float .f64 0, .string ByteArray.empty, .int .i64 0, .int .i64 0, .int .i64 0, .int .i64 0, .float .f64 0, .int .i64 0, .string ByteArray.empty, .slice none 0 0, .bool v6], ?_, [.int .i64 v0, .string v1, .int .i64 v2, .float .f64 0, .string ByteArray.empty, .int .i64 0, .int .i64 0, .int .i64 0, .int .i64 0, .float .f64 0, .int .i64 0, .string ByteArray.empty, .slice none 0 0, .bool v6], ⟨rfl, (List.forall_mem_cons.2 ⟨rfl, (List.forall_mem_cons.2 ⟨rfl, (List.forall_mem_cons.2 ⟨rfl, (List.forall_mem_cons.2 ⟨(rfl), (List.forall_mem_cons.2 ⟨(rfl), (List.forall_mem_cons.2 ⟨(Zb5 _), (List.forall_mem_cons.2 ⟨rfl, (fun _ h => by cases h)⟩)⟩)⟩)⟩)⟩)⟩)⟩)⟩, rfl⟩
 simp only [List.map_toArray, List.map_cons, List.map_nil, e0, e1, e2, e6]
 exact Zck Tryd.underlying66 (zero := .agg #[.int .i64 0, .string ByteArray.empty, .int .i64 0, .float .f64 0, .string ByteArray.empty, .int .i64 0, .int .i64 0, .int .i64 0, .int .i64 0, .float .f64 0, .int .i64 0, .string ByteArray.empty, .slice none 0 0, .bool false]) (by kernel_rfl) (places := [(0, 1), (1, 1), (2, 1), (3, 1), (4, 1), (5, 8), (13, 1)]) (by kernel_rfl) (by kernel_rfl) g.w
theorem Z6h : TE Tryd.prog 39 66 Zbb 152 := TE.of Tryd.underlying39 (by kernel_rfl) (by decide) (by decide)
theorem Z3w {N d : Nat} {o : Oper} {uses : Z7} {x0 : Operand} {v0 : List Zv} (hop : o.op = .build 41 #[(0, x0)]) (hd : o.dst = some d) (h0 : Opd uses x0 (Zbb.sl.pd v0)) : OB Tryd.prog N o uses [(d, Zdt.pd { Acts := v0 })] [] := by
 refine Zcx hop hd fun a g hh => ?_
 obtain ⟨c0, k0, e0⟩ := h0 a g hh
 obtain ⟨A0, n0, rfl, l0⟩ := k0
 refine ⟨.agg #[.slice A0 v0.length n0], ?_, [.slice A0 v0.length n0], ⟨rfl, (List.forall_mem_cons.2 ⟨⟨A0, n0, rfl, l0⟩, (fun _ h => by cases h)⟩)⟩, rfl⟩
 simp only [List.map_toArray, List.map_cons, List.map_nil, e0]
 exact Zck Tryd.underlying41 (zero := .agg #[.slice none 0 0]) (by kernel_rfl) (places := [(0, 1)]) (by kernel_rfl) (by kernel_rfl) g.w
theorem Z2s : TE Tryd.prog 37 41 Zdt 24 := TE.of Tryd.underlying37 (by kernel_rfl) (by decide) (by decide)
theorem Z4z {N d : Nat} {o : Oper} {uses : Z7}   (hop : o.op = .build 108 #[]) (hd : o.dst = some d)  : OB Tryd.prog N o uses [(d, Zdu.pd { word := ByteArray.empty, on := (0 : Int), has := ByteArray.empty })] [] := by
 refine Zcx hop hd fun a g hh => ?_
 refine ⟨.agg #[.string ByteArray.empty, .int .i64 0, .string ByteArray.empty], ?_, [.string ByteArray.empty, .int .i64 0, .string ByteArray.empty], ⟨rfl, (List.forall_mem_cons.2 ⟨(rfl), (List.forall_mem_cons.2 ⟨(rfl), (List.forall_mem_cons.2 ⟨(rfl), (fun _ h => by cases h)⟩)⟩)⟩)⟩, rfl⟩
 simp only [List.map_toArray, List.map_cons, List.map_nil, List.map_nil]
 exact Zck Tryd.underlying108 (zero := .agg #[.string ByteArray.empty, .int .i64 0, .string ByteArray.empty]) (by kernel_rfl) (places := [(0, 1), (1, 1), (2, 1)]) (by kernel_rfl) (by kernel_rfl) g.w
theorem Zi0 : Ty Tryd.prog 108 Zdu := ⟨by kernel_rfl, by kernel_rfl⟩
theorem Z5c : (Tryd.prog.info? 108).map (·.size) = some Zdu.sz := by kernel_rfl
theorem Z7r : Zp Tryd.prog 35 := by
 unfold Zp
 kernel_rfl
theorem Z8b : Zp Tryd.prog 34 := by
 unfold Zp
 kernel_rfl
theorem Zwc : Fld Tryd.prog 108 2 Zdu Kd.str (fun x : Zcr => x.has) := Fld.of ⟨_, Kd.str, 2, fun x : Zcr => x.has⟩ (List.mem_of_getElem? (i := 2) rfl) 2 rfl (by kernel_rfl) (by decide)
theorem Zuq : Zp Tryd.prog 62 := by
 unfold Zp
 kernel_rfl
theorem Zgs : Fld Tryd.prog 66 2 Zbb (Kd.int .i64) (fun x : Zv => x.N) := Fld.of ⟨_, (Kd.int .i64), 2, fun x : Zv => x.N⟩ (List.mem_of_getElem? (i := 2) rfl) 2 rfl (by kernel_rfl) (by decide)
theorem Zqb : Fld Tryd.prog 66 3 Zbb Kd.flt (fun x : Zv => x.X) := Fld.of ⟨_, Kd.flt, 3, fun x : Zv => x.X⟩ (List.mem_of_getElem? (i := 3) rfl) 3 rfl (by kernel_rfl) (by decide)
theorem Zju : Fld Tryd.prog 66 4 Zbb Kd.str (fun x : Zv => x.S) := Fld.of ⟨_, Kd.str, 4, fun x : Zv => x.S⟩ (List.mem_of_getElem? (i := 4) rfl) 4 rfl (by kernel_rfl) (by decide)
theorem Zte : Fld Tryd.prog 66 5 Zbb Zi (fun x : Zv => x.Make) := Fld.of ⟨_, Zi, 5, fun x : Zv => x.Make⟩ (List.mem_of_getElem? (i := 5) rfl) 5 rfl (by kernel_rfl) (by decide)
theorem Z2j : Zp Tryd.prog 21 := by
 unfold Zp
 kernel_rfl
theorem Zvx : Fld Tryd.prog 108 1 Zdu (Kd.int .i64) (fun x : Zcr => x.on) := Fld.of ⟨_, (Kd.int .i64), 1, fun x : Zcr => x.on⟩ (List.mem_of_getElem? (i := 1) rfl) 1 rfl (by kernel_rfl) (by decide)
theorem Zhl : Fld Tryd.prog 66 0 Zbb (Kd.int .i64) (fun x : Zv => x.Kind) := Fld.of ⟨_, (Kd.int .i64), 0, fun x : Zv => x.Kind⟩ (List.mem_of_getElem? (i := 0) rfl) 0 rfl (by kernel_rfl) (by decide)
theorem Z2y : Zp Tryd.prog 47 := by
 unfold Zp
 kernel_rfl
theorem Z1i : Fld Tryd.prog 108 0 Zdu Kd.str (fun x : Zcr => x.word) := Fld.of ⟨_, Kd.str, 0, fun x : Zcr => x.word⟩ (List.mem_of_getElem? (i := 0) rfl) 0 rfl (by kernel_rfl) (by decide)
theorem Znf : Fld Tryd.prog 66 1 Zbb Kd.str (fun x : Zv => x.Key) := Fld.of ⟨_, Kd.str, 1, fun x : Zv => x.Key⟩ (List.mem_of_getElem? (i := 1) rfl) 1 rfl (by kernel_rfl) (by decide)
theorem Zj8 : Ty Tryd.prog 66 Zbb := ⟨by kernel_rfl, by kernel_rfl⟩
theorem Z7g : Zp Tryd.prog 48 := by
 unfold Zp
 kernel_rfl
theorem Z6u : Zp Tryd.prog 49 := by
 unfold Zp
 kernel_rfl
theorem Zp2 : Fld Tryd.prog 41 0 Zdt Zbb.sl (fun x : Zbu => x.Acts) := Fld.of ⟨_, Zbb.sl, 0, fun x : Zbu => x.Acts⟩ (List.mem_of_getElem? (i := 0) rfl) 0 rfl (by kernel_rfl) (by decide)
theorem Zuv : Ty Tryd.prog 39 Zbb.sl := ⟨by kernel_rfl, by kernel_rfl⟩
theorem Z2n : (Tryd.prog.info? 66).map (·.size) = some Zbb.sz := by kernel_rfl
theorem Z20 : Zp Tryd.prog 29 := by
 unfold Zp
 kernel_rfl
theorem Zxz {c : Option Nat} {N j s : Nat} {o : Oper} {uses : Z7} {x z : Operand} {v : Zd} {y0 y : ByteArray} {v0 : Zd} {t : Nat} (hT : Ty Tryd.prog t Kd.str) (hop : o.op = .store t x z) (hd : o.dst = none) (hs : Opd uses (.tmp s) (Zbk c Zi j v)) (hx : Opd uses x (Ziv Zi j v0 6 Kd.str y0)) (hz : Opd uses z (Kd.str.pd y)) : OB Tryd.prog N o uses [(s, Zbk c Zi j { v with Text := y })] [j + 1] :=
 Zkj hT hop hd hs hx hz fun g cs ys hk hy => by
   have hc : cs.length = 8 := hk.1
   have hl : ys.length = 1 := Kd.str.len hy
   exact ⟨by omega, (Zfs (by omega)).trans hc, (List.forall_mem_cons.2 ⟨(by show (Kd.int .i64).K g v.Kind (seg (Zbo cs 6 ys) 0 1); rw [Zbh (by omega) (by omega)]; exact hk.2 _ (List.mem_of_getElem? (i := 0) rfl)), (List.forall_mem_cons.2 ⟨(by show (Kd.int .i64).K g v.Num (seg (Zbo cs 6 ys) 1 1); rw [Zbh (by omega) (by omega)]; exact hk.2 _ (List.mem_of_getElem? (i := 1) rfl)), (List.forall_mem_cons.2 ⟨(by show (Kd.int .i64).K g v.Low (seg (Zbo cs 6 ys) 2 1); rw [Zbh (by omega) (by omega)]; exact hk.2 _ (List.mem_of_getElem? (i := 2) rfl)), (List.forall_mem_cons.2 ⟨(by show (Kd.int .i64).K g v.High (seg (Zbo cs 6 ys) 3 1); rw [Zbh (by omega) (by omega)]; exact hk.2 _ (List.mem_of_getElem? (i := 3) rfl)), (List.forall_mem_cons.2 ⟨(by show Kd.flt.K g v.Real (seg (Zbo cs 6 ys) 4 1); rw [Zbh (by omega) (by omega)]; exact hk.2 _ (List.mem_of_getElem? (i := 4) rfl)), (List.forall_mem_cons.2 ⟨(by show (Kd.int .i64).K g v.Cap (seg (Zbo cs 6 ys) 5 1); rw [Zbh (by omega) (by omega)]; exact hk.2 _ (List.mem_of_getElem? (i := 5) rfl)), (List.forall_mem_cons.2 ⟨(by show Kd.str.K g y (seg (Zbo cs 6 ys) 6 1); rw [Zgn (by omega) hl]; exact hy), (List.forall_mem_cons.2 ⟨(by show Zt.sl.K g v.List (seg (Zbo cs 6 ys) 7 1); rw [Zbh (by omega) (by omega)]; exact hk.2 _ (List.mem_of_getElem? (i := 7) rfl)), (fun _ h => by cases h)⟩)⟩)⟩)⟩)⟩)⟩)⟩)⟩)⟩
theorem Z32 : Fld Tryd.prog 72 2 Zs Zi (fun x : Zg => x.Rec) := Fld.of ⟨_, Zi, 2, fun x : Zg => x.Rec⟩ (List.mem_of_getElem? (i := 2) rfl) 2 rfl (by kernel_rfl) (by decide)
theorem Z3z {c : Option Nat} {N j s : Nat} {o : Oper} {uses : Z7} {x z : Operand} {v : Zg} {y0 y : Zd} {v0 : Zg} {t : Nat} (hT : Ty Tryd.prog t Zi) (hop : o.op = .store t x z) (hd : o.dst = none) (hs : Opd uses (.tmp s) (Zbk c Zs j v)) (hx : Opd uses x (Ziv Zs j v0 2 Zi y0)) (hz : Opd uses z (Zi.pd y)) : OB Tryd.prog N o uses [(s, Zbk c Zs j { v with Rec := y })] [j + 1] :=
 Zkj hT hop hd hs hx hz fun g cs ys hk hy => by
   have hc : cs.length = 10 := hk.1
   have hl : ys.length = 8 := Zi.len hy
   exact ⟨by omega, (Zfs (by omega)).trans hc, (List.forall_mem_cons.2 ⟨(by show (Kd.int .i64).K g v.Code (seg (Zbo cs 2 ys) 0 1); rw [Zbh (by omega) (by omega)]; exact hk.2 _ (List.mem_of_getElem? (i := 0) rfl)), (List.forall_mem_cons.2 ⟨(by show (Kd.int .i64).K g v.Num (seg (Zbo cs 2 ys) 1 1); rw [Zbh (by omega) (by omega)]; exact hk.2 _ (List.mem_of_getElem? (i := 1) rfl)), (List.forall_mem_cons.2 ⟨(by show Zi.K g y (seg (Zbo cs 2 ys) 2 8); rw [Zgn (by omega) hl]; exact hy), (fun _ h => by cases h)⟩)⟩)⟩)⟩
theorem Zp5 {c : Option Nat} {N j s : Nat} {o : Oper} {uses : Z7} {x z : Operand} {v : Zd} {y0 y : Int} {v0 : Zd} {t : Nat} (hT : Ty Tryd.prog t (Kd.int .i64)) (hop : o.op = .store t x z) (hd : o.dst = none) (hs : Opd uses (.tmp s) (Zbk c Zi j v)) (hx : Opd uses x (Ziv Zi j v0 1 (Kd.int .i64) y0)) (hz : Opd uses z ((Kd.int .i64).pd y)) : OB Tryd.prog N o uses [(s, Zbk c Zi j { v with Num := y })] [j + 1] :=
 Zkj hT hop hd hs hx hz fun g cs ys hk hy => by
   have hc : cs.length = 8 := hk.1
   have hl : ys.length = 1 := (Kd.int .i64).len hy
   exact ⟨by omega, (Zfs (by omega)).trans hc, (List.forall_mem_cons.2 ⟨(by show (Kd.int .i64).K g v.Kind (seg (Zbo cs 1 ys) 0 1); rw [Zbh (by omega) (by omega)]; exact hk.2 _ (List.mem_of_getElem? (i := 0) rfl)), (List.forall_mem_cons.2 ⟨(by show (Kd.int .i64).K g y (seg (Zbo cs 1 ys) 1 1); rw [Zgn (by omega) hl]; exact hy), (List.forall_mem_cons.2 ⟨(by show (Kd.int .i64).K g v.Low (seg (Zbo cs 1 ys) 2 1); rw [Zbh (by omega) (by omega)]; exact hk.2 _ (List.mem_of_getElem? (i := 2) rfl)), (List.forall_mem_cons.2 ⟨(by show (Kd.int .i64).K g v.High (seg (Zbo cs 1 ys) 3 1); rw [Zbh (by omega) (by omega)]; exact hk.2 _ (List.mem_of_getElem? (i := 3) rfl)), (List.forall_mem_cons.2 ⟨(by show Kd.flt.K g v.Real (seg (Zbo cs 1 ys) 4 1); rw [Zbh (by omega) (by omega)]; exact hk.2 _ (List.mem_of_getElem? (i := 4) rfl)), (List.forall_mem_cons.2 ⟨(by show (Kd.int .i64).K g v.Cap (seg (Zbo cs 1 ys) 5 1); rw [Zbh (by omega) (by omega)]; exact hk.2 _ (List.mem_of_getElem? (i := 5) rfl)), (List.forall_mem_cons.2 ⟨(by show Kd.str.K g v.Text (seg (Zbo cs 1 ys) 6 1); rw [Zbh (by omega) (by omega)]; exact hk.2 _ (List.mem_of_getElem? (i := 6) rfl)), (List.forall_mem_cons.2 ⟨(by show Zt.sl.K g v.List (seg (Zbo cs 1 ys) 7 1); rw [Zbh (by omega) (by omega)]; exact hk.2 _ (List.mem_of_getElem? (i := 7) rfl)), (fun _ h => by cases h)⟩)⟩)⟩)⟩)⟩)⟩)⟩)⟩)⟩
theorem Z3t {c : Option Nat} {N j s : Nat} {o : Oper} {uses : Z7} {x z : Operand} {v : Zd} {y0 y : Nat} {v0 : Zd} {t : Nat} (hT : Ty Tryd.prog t Kd.flt) (hop : o.op = .store t x z) (hd : o.dst = none) (hs : Opd uses (.tmp s) (Zbk c Zi j v)) (hx : Opd uses x (Ziv Zi j v0 4 Kd.flt y0)) (hz : Opd uses z (Kd.flt.pd y)) : OB Tryd.prog N o uses [(s, Zbk c Zi j { v with Real := y })] [j + 1] :=
 Zkj hT hop hd hs hx hz fun g cs ys hk hy => by
   have hc : cs.length = 8 := hk.1
   have hl : ys.length = 1 := Kd.flt.len hy
   exact ⟨by omega, (Zfs (by omega)).trans hc, (List.forall_mem_cons.2 ⟨(by show (Kd.int .i64).K g v.Kind (seg (Zbo cs 4 ys) 0 1); rw [Zbh (by omega) (by omega)]; exact hk.2 _ (List.mem_of_getElem? (i := 0) rfl)), (List.forall_mem_cons.2 ⟨(by show (Kd.int .i64).K g v.Num (seg (Zbo cs 4 ys) 1 1); rw [Zbh (by omega) (by omega)]; exact hk.2 _ (List.mem_of_getElem? (i := 1) rfl)), (List.forall_mem_cons.2 ⟨(by show (Kd.int .i64).K g v.Low (seg (Zbo cs 4 ys) 2 1); rw [Zbh (by omega) (by omega)]; exact hk.2 _ (List.mem_of_getElem? (i := 2) rfl)), (List.forall_mem_cons.2 ⟨(by show (Kd.int .i64).K g v.High (seg (Zbo cs 4 ys) 3 1); rw [Zbh (by omega) (by omega)]; exact hk.2 _ (List.mem_of_getElem? (i := 3) rfl)), (List.forall_mem_cons.2 ⟨(by show Kd.flt.K g y (seg (Zbo cs 4 ys) 4 1); rw [Zgn (by omega) hl]; exact hy), (List.forall_mem_cons.2 ⟨(by show (Kd.int .i64).K g v.Cap (seg (Zbo cs 4 ys) 5 1); rw [Zbh (by omega) (by omega)]; exact hk.2 _ (List.mem_of_getElem? (i := 5) rfl)), (List.forall_mem_cons.2 ⟨(by show Kd.str.K g v.Text (seg (Zbo cs 4 ys) 6 1); rw [Zbh (by omega) (by omega)]; exact hk.2 _ (List.mem_of_getElem? (i := 6) rfl)), (List.forall_mem_cons.2 ⟨(by show Zt.sl.K g v.List (seg (Zbo cs 4 ys) 7 1); rw [Zbh (by omega) (by omega)]; exact hk.2 _ (List.mem_of_getElem? (i := 7) rfl)), (fun _ h => by cases h)⟩)⟩)⟩)⟩)⟩)⟩)⟩)⟩)⟩
theorem Zsk : Zp Tryd.prog 87 := by
 unfold Zp
 kernel_rfl
theorem Z4i : Ty Tryd.prog 128 Kd.fnc := ⟨by kernel_rfl, by kernel_rfl⟩
theorem Z6n : Zp Tryd.prog 90 := by
 unfold Zp
 kernel_rfl
theorem Z6k : Zp Tryd.prog 89 := by
 unfold Zp
 kernel_rfl
theorem Z7s : Ext Tryd.prog 93 (Extern.SlicesOverlaps.overlaps #[52, 52] #[4]) := ⟨_, Tryd.func93, rfl, rfl, by kernel_rfl, by kernel_rfl⟩
theorem Zy3 : Zp Tryd.prog 78 := by
 unfold Zp
 kernel_rfl
theorem Z3f {N d : Nat} {o : Oper} {uses : Z7} {x1 : Operand} {v1 : ByteArray} (hop : o.op = .build 78 #[(1, x1)]) (hd : o.dst = some d) (h1 : Opd uses x1 (Kd.str.pd v1)) : OB Tryd.prog N o uses [(d, Zt.pd { Score := (0 : Nat), Name := v1 })] [] := by
 refine Zcx hop hd fun a g hh => ?_
 obtain ⟨c1, k1, e1⟩ := h1 a g hh
 obtain rfl := k1
 refine ⟨.agg #[.float .f64 0, .string v1], ?_, [.float .f64 0, .string v1], ⟨rfl, (List.forall_mem_cons.2 ⟨(rfl), (List.forall_mem_cons.2 ⟨rfl, (fun _ h => by cases h)⟩)⟩)⟩, rfl⟩
 simp only [List.map_toArray, List.map_cons, List.map_nil, e1]
 exact Zck Tryd.underlying78 (zero := .agg #[.float .f64 0, .string ByteArray.empty]) (by kernel_rfl) (places := [(0, 1), (1, 1)]) (by kernel_rfl) (by kernel_rfl) g.w
theorem Z2b : Zp Tryd.prog 88 := by
 unfold Zp
 kernel_rfl
theorem Z72 : Zp Tryd.prog 79 := by
 unfold Zp
 kernel_rfl
theorem Zzy {N d : Nat} {o : Oper} {uses : Z7} {x0 : Operand} {x1 : Operand} {v0 : Nat} {v1 : ByteArray} (hop : o.op = .build 78 #[(0, x0), (1, x1)]) (hd : o.dst = some d) (h0 : Opd uses x0 (Kd.flt.pd v0)) (h1 : Opd uses x1 (Kd.str.pd v1)) : OB Tryd.prog N o uses [(d, Zt.pd { Score := v0, Name := v1 })] [] := by
 refine Zcx hop hd fun a g hh => ?_
 obtain ⟨c0, k0, e0⟩ := h0 a g hh
 obtain rfl := k0
 obtain ⟨c1, k1, e1⟩ := h1 a g hh
 obtain rfl := k1
 refine ⟨.agg #[.float .f64 v0, .string v1], ?_, [.float .f64 v0, .string v1], ⟨rfl, (List.forall_mem_cons.2 ⟨rfl, (List.forall_mem_cons.2 ⟨rfl, (fun _ h => by cases h)⟩)⟩)⟩, rfl⟩
 simp only [List.map_toArray, List.map_cons, List.map_nil, e0, e1]
 exact Zck Tryd.underlying78 (zero := .agg #[.float .f64 0, .string ByteArray.empty]) (by kernel_rfl) (places := [(0, 1), (1, 1)]) (by kernel_rfl) (by kernel_rfl) g.w
theorem Z69 : Zp Tryd.prog 63 := by
 unfold Zp
 kernel_rfl
theorem Z6s : Zp Tryd.prog 64 := by
 unfold Zp
 kernel_rfl
theorem Z7m : Zp Tryd.prog 65 := by
 unfold Zp
 kernel_rfl
theorem Z61 : Zp Tryd.prog 66 := by
 unfold Zp
 kernel_rfl
theorem Z2g : Zp Tryd.prog 67 := by
 unfold Zp
 kernel_rfl
theorem Z75 : Zp Tryd.prog 68 := by
 unfold Zp
 kernel_rfl
theorem Z6v : Zp Tryd.prog 69 := by
 unfold Zp
 kernel_rfl
theorem Z6x : Zp Tryd.prog 71 := by
 unfold Zp
 kernel_rfl
theorem Z8d : Zp Tryd.prog 72 := by
 unfold Zp
 kernel_rfl
theorem Z68 : Zp Tryd.prog 73 := by
 unfold Zp
 kernel_rfl
theorem Z7p : Zp Tryd.prog 74 := by
 unfold Zp
 kernel_rfl
theorem Z7n : Zp Tryd.prog 75 := by
 unfold Zp
 kernel_rfl
theorem Z78 : Zp Tryd.prog 76 := by
 unfold Zp
 kernel_rfl
theorem Z73 : Zp Tryd.prog 77 := by
 unfold Zp
 kernel_rfl
theorem Z7l : Zp Tryd.prog 80 := by
 unfold Zp
 kernel_rfl
theorem Z6l : Zp Tryd.prog 81 := by
 unfold Zp
 kernel_rfl
theorem Zsj : Zp Tryd.prog 70 := by
 unfold Zp
 kernel_rfl
theorem Zsx {N d : Nat} {o : Oper} {uses : Z7} {x0 : Operand} {v0 : Int} (hop : o.op = .build 72 #[(0, x0)]) (hd : o.dst = some d) (h0 : Opd uses x0 ((Kd.int .i64).pd v0)) : OB Tryd.prog N o uses [(d, Zs.pd { Code := v0, Num := (0 : Int), Rec := (default : Zd) })] [] := by
 refine Zcx hop hd fun a g hh => ?_
 obtain ⟨c0, k0, e0⟩ := h0 a g hh
 obtain rfl := k0
 refine ⟨.agg #[.int .i64 v0, .int .i64 0, .int .i64 0, .int .i64 0, .int .i64 0, .int .i64 0, .float .f64 0, .int .i64 0, .string ByteArray.empty, .slice none 0 0], ?_, [.int .i64 v0, .int .i64 0, .int .i64 0, .int .i64 0, .int .i64 0, .int .i64 0, .float .f64 0, .int .i64 0, .string ByteArray.empty, .slice none 0 0], ⟨rfl, (List.forall_mem_cons.2 ⟨rfl, (List.forall_mem_cons.2 ⟨(rfl), (List.forall_mem_cons.2 ⟨(Zb5 _), (fun _ h => by cases h)⟩)⟩)⟩)⟩, rfl⟩
 simp only [List.map_toArray, List.map_cons, List.map_nil, e0]
 exact Zck Tryd.underlying72 (zero := .agg #[.int .i64 0, .int .i64 0, .int .i64 0, .int .i64 0, .int .i64 0, .int .i64 0, .float .f64 0, .int .i64 0, .string ByteArray.empty, .slice none 0 0]) (by kernel_rfl) (places := [(0, 1), (1, 1), (2, 8)]) (by kernel_rfl) (by kernel_rfl) g.w
theorem Zcm : Ty Tryd.prog 72 Zs := ⟨by kernel_rfl, by kernel_rfl⟩
theorem Zsq : Zp Tryd.prog 50 := by
 unfold Zp
 kernel_rfl
theorem Z0z {N d : Nat} {o : Oper} {uses : Z7}   (hop : o.op = .build 72 #[]) (hd : o.dst = some d)  : OB Tryd.prog N o uses [(d, Zs.pd { Code := (0 : Int), Num := (0 : Int), Rec := (default : Zd) })] [] := by
 refine Zcx hop hd fun a g hh => ?_
 refine ⟨.agg #[.int .i64 0, .int .i64 0, .int .i64 0, .int .i64 0, .int .i64 0, .int .i64 0, .float .f64 0, .int .i64 0, .string ByteArray.empty, .slice none 0 0], ?_, [.int .i64 0, .int .i64 0, .int .i64 0, .int .i64 0, .int .i64 0, .int .i64 0, .float .f64 0, .int .i64 0, .string ByteArray.empty, .slice none 0 0], ⟨rfl, (List.forall_mem_cons.2 ⟨(rfl), (List.forall_mem_cons.2 ⟨(rfl), (List.forall_mem_cons.2 ⟨(Zb5 _), (fun _ h => by cases h)⟩)⟩)⟩)⟩, rfl⟩
 simp only [List.map_toArray, List.map_cons, List.map_nil, List.map_nil]
 exact Zck Tryd.underlying72 (zero := .agg #[.int .i64 0, .int .i64 0, .int .i64 0, .int .i64 0, .int .i64 0, .int .i64 0, .float .f64 0, .int .i64 0, .string ByteArray.empty, .slice none 0 0]) (by kernel_rfl) (places := [(0, 1), (1, 1), (2, 8)]) (by kernel_rfl) (by kernel_rfl) g.w
theorem Z3k {N d : Nat} {o : Oper} {uses : Z7} {x1 : Operand} {v1 : Int} (hop : o.op = .build 72 #[(1, x1)]) (hd : o.dst = some d) (h1 : Opd uses x1 ((Kd.int .i64).pd v1)) : OB Tryd.prog N o uses [(d, Zs.pd { Code := (0 : Int), Num := v1, Rec := (default : Zd) })] [] := by
 refine Zcx hop hd fun a g hh => ?_
 obtain ⟨c1, k1, e1⟩ := h1 a g hh
 obtain rfl := k1
 refine ⟨.agg #[.int .i64 0, .int .i64 v1, .int .i64 0, .int .i64 0, .int .i64 0, .int .i64 0, .float .f64 0, .int .i64 0, .string ByteArray.empty, .slice none 0 0], ?_, [.int .i64 0, .int .i64 v1, .int .i64 0, .int .i64 0, .int .i64 0, .int .i64 0, .float .f64 0, .int .i64 0, .string ByteArray.empty, .slice none 0 0], ⟨rfl, (List.forall_mem_cons.2 ⟨(rfl), (List.forall_mem_cons.2 ⟨rfl, (List.forall_mem_cons.2 ⟨(Zb5 _), (fun _ h => by cases h)⟩)⟩)⟩)⟩, rfl⟩
 simp only [List.map_toArray, List.map_cons, List.map_nil, e1]
 exact Zck Tryd.underlying72 (zero := .agg #[.int .i64 0, .int .i64 0, .int .i64 0, .int .i64 0, .int .i64 0, .int .i64 0, .float .f64 0, .int .i64 0, .string ByteArray.empty, .slice none 0 0]) (by kernel_rfl) (places := [(0, 1), (1, 1), (2, 8)]) (by kernel_rfl) (by kernel_rfl) g.w
theorem Z3g {N d : Nat} {o : Oper} {uses : Z7} {x2 : Operand} {v2 : Zd} (hop : o.op = .build 72 #[(2, x2)]) (hd : o.dst = some d) (h2 : Opd uses x2 (Zi.pd v2)) : OB Tryd.prog N o uses [(d, Zs.pd { Code := (0 : Int), Num := (0 : Int), Rec := v2 })] [] := by
 refine Zcx hop hd fun a g hh => ?_
 obtain ⟨c2, k2, e2⟩ := h2 a g hh
 obtain ⟨u2_0, u2_1, u2_2, u2_3, u2_4, u2_5, u2_6, u2_7, rfl⟩ := Zyx (Zi.len k2)
 refine ⟨.agg #[.int .i64 0, .int .i64 0, u2_0, u2_1, u2_2, u2_3, u2_4, u2_5, u2_6, u2_7], ?_, [.int .i64 0, .int .i64 0, u2_0, u2_1, u2_2, u2_3, u2_4, u2_5, u2_6, u2_7], ⟨rfl, (List.forall_mem_cons.2 ⟨(rfl), (List.forall_mem_cons.2 ⟨(rfl), (List.forall_mem_cons.2 ⟨k2, (fun _ h => by cases h)⟩)⟩)⟩)⟩, rfl⟩
 simp only [List.map_toArray, List.map_cons, List.map_nil, e2]
 exact Zck Tryd.underlying72 (zero := .agg #[.int .i64 0, .int .i64 0, .int .i64 0, .int .i64 0, .int .i64 0, .int .i64 0, .float .f64 0, .int .i64 0, .string ByteArray.empty, .slice none 0 0]) (by kernel_rfl) (places := [(0, 1), (1, 1), (2, 8)]) (by kernel_rfl) (by kernel_rfl) g.w
theorem Z60 : Zp Tryd.prog 51 := by
 unfold Zp
 kernel_rfl
theorem Z7j : Zp Tryd.prog 52 := by
 unfold Zp
 kernel_rfl
theorem Zuw : Zp Tryd.prog 53 := by
 unfold Zp
 kernel_rfl
theorem Z66 : Zp Tryd.prog 82 := by
 unfold Zp
 kernel_rfl
theorem Z74 : Zp Tryd.prog 30 := by
 unfold Zp
 kernel_rfl
theorem Zpw : Fld Tryd.prog 72 0 Zs (Kd.int .i64) (fun x : Zg => x.Code) := Fld.of ⟨_, (Kd.int .i64), 0, fun x : Zg => x.Code⟩ (List.mem_of_getElem? (i := 0) rfl) 0 rfl (by kernel_rfl) (by decide)
theorem Zn9 : Ty Tryd.prog 27 (Kd.int .i64) := ⟨by kernel_rfl, by kernel_rfl⟩
theorem Z6i : Zp Tryd.prog 31 := by
 unfold Zp
 kernel_rfl
theorem Z77 : Zp Tryd.prog 32 := by
 unfold Zp
 kernel_rfl
theorem Zya : Fld Tryd.prog 66 6 Zbb Kd.bool (fun x : Zv => x.Must) := Fld.of ⟨_, Kd.bool, 13, fun x : Zv => x.Must⟩ (List.mem_of_getElem? (i := 6) rfl) 13 rfl (by kernel_rfl) (by decide)
theorem Z0i {N d : Nat} {o : Oper} {uses : Z7} {x0 : Operand} {x1 : Operand} {v0 : Int} {v1 : Int} (hop : o.op = .build 70 #[(0, x0), (1, x1)]) (hd : o.dst = some d) (h0 : Opd uses x0 ((Kd.int .i64).pd v0)) (h1 : Opd uses x1 ((Kd.int .i64).pd v1)) : OB Tryd.prog N o uses [(d, Zet.pd { code := v0, at_ := v1 })] [] := by
 refine Zcx hop hd fun a g hh => ?_
 obtain ⟨c0, k0, e0⟩ := h0 a g hh
 obtain rfl := k0
 obtain ⟨c1, k1, e1⟩ := h1 a g hh
 obtain rfl := k1
 refine ⟨.agg #[.int .i64 v0, .int .i64 v1], ?_, [.int .i64 v0, .int .i64 v1], ⟨rfl, (List.forall_mem_cons.2 ⟨rfl, (List.forall_mem_cons.2 ⟨rfl, (fun _ h => by cases h)⟩)⟩)⟩, rfl⟩
 simp only [List.map_toArray, List.map_cons, List.map_nil, e0, e1]
 exact Zck Tryd.underlying70 (zero := .agg #[.int .i64 0, .int .i64 0]) (by kernel_rfl) (places := [(0, 1), (1, 1)]) (by kernel_rfl) (by kernel_rfl) g.w
structure Zgj where
 Code : Int
 At : Int
 Answers : SlV
def Zrv : List (Kd.FK Zgj) := [⟨_, (Kd.int .i64), 0, fun x : Zgj => x.Code⟩,
 ⟨_, (Kd.int .i64), 1, fun x : Zgj => x.At⟩,
 ⟨_, Kd.raw, 2, fun x : Zgj => x.Answers⟩]
def Zcu : Kd Zgj := Kd.struct 3 Zrv (by rfl)
def Zdo (x : Zba) (s : SlV) : Zgj := ⟨x.Code, x.At, s⟩
theorem Zrq : ∀ g, Zcu.K g (Zdo ((default : Zba)) (none, 0, 0)) [.int .i64 0, .int .i64 0, .slice none 0 0] := fun g => ⟨rfl, (List.forall_mem_cons.2 ⟨(rfl), (List.forall_mem_cons.2 ⟨(rfl), (List.forall_mem_cons.2 ⟨rfl, (fun _ h => by cases h)⟩)⟩)⟩)⟩
theorem Zso {x : Zba} {e j : Nat} : ∀ (g : G) (s : SlV) (cs : List Value), Zcu.K g (Zdo x s) cs → (hpL (pRow Zs e j x.Answers)).p g s → Zfn.K g x cs := fun g s cs h hr => ⟨h.1, (List.forall_mem_cons.2 ⟨(h.2 _ (List.mem_of_getElem? (i := 0) rfl)), (List.forall_mem_cons.2 ⟨(h.2 _ (List.mem_of_getElem? (i := 1) rfl)), (List.forall_mem_cons.2 ⟨(Z59 (h.2 _ (List.mem_of_getElem? (i := 2) rfl)) hr.1), (fun _ h => by cases h)⟩)⟩)⟩)⟩
theorem Zrm {x : Zba} {g : G} {cs ys : List Value} {s0 s1 : SlV} (hk : Zcu.K g (Zdo x s0) cs) (hy : Kd.raw.K g s1 ys) : 2 + ys.length ≤ cs.length ∧ Zcu.K g (Zdo x s1) (Zbo cs 2 ys) := by
 have hc : cs.length = 3 := hk.1
 have hl : ys.length = 1 := Kd.raw.len hy
 exact ⟨by omega, (Zfs (by omega)).trans hc, (List.forall_mem_cons.2 ⟨(by show (Kd.int .i64).K g x.Code (seg (Zbo cs 2 ys) 0 1); rw [Zbh (by omega) (by omega)]; exact hk.2 _ (List.mem_of_getElem? (i := 0) rfl)), (List.forall_mem_cons.2 ⟨(by show (Kd.int .i64).K g x.At (seg (Zbo cs 2 ys) 1 1); rw [Zbh (by omega) (by omega)]; exact hk.2 _ (List.mem_of_getElem? (i := 1) rfl)), (List.forall_mem_cons.2 ⟨(by show Kd.raw.K g s1 (seg (Zbo cs 2 ys) 2 1); rw [Zgn (by omega) hl]; exact hy), (fun _ h => by cases h)⟩)⟩)⟩)⟩
theorem Zra : Fld Tryd.prog 44 2 Zcu Kd.raw (fun x : Zgj => x.Answers) := Fld.of ⟨_, Kd.raw, 2, fun x : Zgj => x.Answers⟩ (List.mem_of_getElem? (i := 2) rfl) 2 rfl (by kernel_rfl) (by decide)
theorem Zvz : Ty Tryd.prog 42 Kd.raw := ⟨by kernel_rfl, by kernel_rfl⟩
theorem Zux : Ty Tryd.prog 41 Zdt := ⟨by kernel_rfl, by kernel_rfl⟩
theorem Z6q : Zp Tryd.prog 17 := by
 unfold Zp
 kernel_rfl
theorem Zt4 {N d : Nat} {o : Oper} {uses : Z7} {x0 : Operand} {x1 : Operand} {v0 : Int} {v1 : Int} (hop : o.op = .build 44 #[(0, x0), (1, x1)]) (hd : o.dst = some d) (h0 : Opd uses x0 ((Kd.int .i64).pd v0)) (h1 : Opd uses x1 ((Kd.int .i64).pd v1)) : OB Tryd.prog N o uses [(d, Zfn.pd { Code := v0, At := v1, Answers := ([] : List Zg) })] [] := by
 refine Zcx hop hd fun a g hh => ?_
 obtain ⟨c0, k0, e0⟩ := h0 a g hh
 obtain rfl := k0
 obtain ⟨c1, k1, e1⟩ := h1 a g hh
 obtain rfl := k1
 refine ⟨.agg #[.int .i64 v0, .int .i64 v1, .slice none 0 0], ?_, [.int .i64 v0, .int .i64 v1, .slice none 0 0], ⟨rfl, (List.forall_mem_cons.2 ⟨rfl, (List.forall_mem_cons.2 ⟨rfl, (List.forall_mem_cons.2 ⟨(⟨none, 0, rfl, Nat.le_refl _, Nat.zero_le _, .inl rfl⟩), (fun _ h => by cases h)⟩)⟩)⟩)⟩, rfl⟩
 simp only [List.map_toArray, List.map_cons, List.map_nil, e0, e1]
 exact Zck Tryd.underlying44 (zero := .agg #[.int .i64 0, .int .i64 0, .slice none 0 0]) (by kernel_rfl) (places := [(0, 1), (1, 1), (2, 1)]) (by kernel_rfl) (by kernel_rfl) g.w
theorem Zmv : Ty Tryd.prog 44 Zfn := ⟨by kernel_rfl, by kernel_rfl⟩
theorem Z3u : Fld Tryd.prog 70 0 Zet (Kd.int .i64) (fun x : Zda => x.code) := Fld.of ⟨_, (Kd.int .i64), 0, fun x : Zda => x.code⟩ (List.mem_of_getElem? (i := 0) rfl) 0 rfl (by kernel_rfl) (by decide)
theorem Z4v : Fld Tryd.prog 70 1 Zet (Kd.int .i64) (fun x : Zda => x.at_) := Fld.of ⟨_, (Kd.int .i64), 1, fun x : Zda => x.at_⟩ (List.mem_of_getElem? (i := 1) rfl) 1 rfl (by kernel_rfl) (by decide)
theorem Z7v : Ty Tryd.prog 70 Zet := ⟨by kernel_rfl, by kernel_rfl⟩
theorem Z7k : Zp Tryd.prog 19 := by
 unfold Zp
 kernel_rfl
theorem Z6r : Ty Tryd.prog 42 Zs.sl := ⟨by kernel_rfl, by kernel_rfl⟩
theorem Z21 : Zp Tryd.prog 20 := by
 unfold Zp
 kernel_rfl
theorem Z24 : TE Tryd.prog 42 72 Zs 104 := TE.of Tryd.underlying42 (by kernel_rfl) (by decide) (by decide)
theorem Z2a : Zp Tryd.prog 18 := by
 unfold Zp
 kernel_rfl
theorem en_5 : Zp Tryd.prog 5 := by
 unfold Zp
 kernel_rfl
theorem en_6 : Zp Tryd.prog 6 := by
 unfold Zp
 kernel_rfl
theorem en_7 : Zp Tryd.prog 7 := by
 unfold Zp
 kernel_rfl
theorem en_8 : Zp Tryd.prog 8 := by
 unfold Zp
 kernel_rfl
theorem en_9 : Zp Tryd.prog 9 := by
 unfold Zp
 kernel_rfl
theorem Z6j : (Tryd.prog.info? 41).map (·.size) = some Zdt.sz := by kernel_rfl
theorem Z7o : Zp Tryd.prog 10 := by
 unfold Zp
 kernel_rfl
theorem Zxe : Fld Tryd.prog 44 0 Zfn (Kd.int .i64) (fun x : Zba => x.Code) := Fld.of ⟨_, (Kd.int .i64), 0, fun x : Zba => x.Code⟩ (List.mem_of_getElem? (i := 0) rfl) 0 rfl (by kernel_rfl) (by decide)
theorem Z3x : Fld Tryd.prog 44 2 Zfn Zs.sl (fun x : Zba => x.Answers) := Fld.of ⟨_, Zs.sl, 2, fun x : Zba => x.Answers⟩ (List.mem_of_getElem? (i := 2) rfl) 2 rfl (by kernel_rfl) (by decide)
theorem Z7z : Zp Tryd.prog 11 := by
 unfold Zp
 kernel_rfl
theorem Zpa (a0 : Int) {r : Zm × Int} (h : Zkl a0 = some r) : FnOk Tryd.prog 4 [(pInt .i64 a0)] (pTup [(Zx.pd r.1), (pInt .i64 r.2)]) := by
 have H0 := h
 unfold Zkl at H0
 clear h
 refine Zbs (N := 13) Tryd.func4 rfl rfl (Nat.le_of_ble_eq_true rfl) rfl rfl (fun a g0 hst hb => ?_)
 refine r_s (T := [⟨[], [(2, (pBox Zx 2 (default : Zm)))], [3], [], [2]⟩, ⟨[], _, [], [], [3]⟩]) (F := [.old 0, .op 0 0]) hst hb Zb
   (o_p rfl (Zbi (zs := [.pointer none, .int .i64 0]) (by kernel_rfl) (fun g => Zdh g) rfl rfl) <| o_p rfl (Zc rfl rfl c_i) <| o_n) (by kernel_rfl) (fun a g hst hb => ?_)
 refine wp_seq ?_
 refine r_s (T := [⟨[.old 0], _, [], [], [4]⟩, ⟨[.op 0 0], _, [], [0], [5]⟩, ⟨[.op 1 0], _, [], [0, 1], [6]⟩, ⟨[.op 2 0, .old 0], _, [], [0, 1, 2], [7]⟩, ⟨[.op 2 0, .op 3 0], _, [], Lr 4, [8]⟩, ⟨[.op 2 0, .op 4 0], _, [], Lr 5, [9]⟩]) (F := [.old 0, .old 1, .op 5 0]) hst hb Zb
   (o_p rfl (Za rfl rfl u_0) <| o_p rfl (Zc1 rfl rfl u_0 c_i) <| o_p rfl (Za rfl rfl u_0) <| o_g (g_f rfl rfl rfl (fun hG => Za rfl rfl u_0)) <| o_g (g_f rfl rfl rfl (fun hG => Zc0 rfl rfl (Opd.gd hG u_0) c_i)) <| o_p rfl (Zbx rfl rfl u_0 (fun hz => (Opd.gd (bNF hz) u_1))) <| o_n) (by kernel_rfl) (fun a g hst hb => ?_)
 refine wp_cond_split (hst.bool 2 rfl) (fun hc1 => ?_) (fun hc1 => ?_)
 · replace H0 := Zz hc1 H0
   refine r_s (L := [(2, _)]) (T := [⟨[], _, [], [], [10]⟩, ⟨[.op 0 0, .old 0], _, [3], [0], [2]⟩, ⟨[], _, [], [0, 1], [3]⟩]) (F := [.op 1 0, .op 2 0]) (hst.pick [1] rfl) hb Zb
     (o_p rfl (Z51 rfl rfl ) <| o_p rfl (Z6 Zbm rfl rfl u_1 u_0) <| o_p rfl (Zc rfl rfl c_i) <| o_n) (by kernel_rfl) (fun a g hst hb => ?_)
   refine wp_ret ?_
   refine Zr ?_
   obtain rfl := Option.some.inj H0
   obtain ⟨u0, hu0, hq0⟩ := Zbe (P := Tryd.prog) Zbm (hst.at 0 rfl)
   exact Ze0 rfl hst hb hu0 (Zl (s := 3)) (Zde hq0 (hst.at 1 rfl))
 · replace H0 := Z0 hc1 H0
   refine wp_skip ?_
   refine Zu ?_
   refine r_s (L := [(0, _), (2, _)]) (T := [⟨[.old 0], _, [], [], [11]⟩, ⟨[.op 0 0], _, [], [0], [12]⟩, ⟨[.op 1 0, .old 1], _, [3], [0, 1], [2]⟩, ⟨[], _, [], [0, 1, 2], [3]⟩]) (F := [.op 2 0, .op 3 0]) (hst.pick [0, 1] rfl) hb Zb
     (o_p rfl (Za rfl rfl u_0) <| o_p rfl (Z4q rfl rfl u_0) <| o_p rfl (Z6 Zbm rfl rfl u_1 u_0) <| o_p rfl (Zc rfl rfl c_i) <| o_n) (by kernel_rfl) (fun a g hst hb => ?_)
   refine wp_ret ?_
   obtain rfl := Option.some.inj H0
   obtain ⟨u0, hu0, hq0⟩ := Zbe (P := Tryd.prog) Zbm (hst.at 0 rfl)
   exact Ze0 rfl hst hb hu0 (Zl (s := 3)) (Zde hq0 (hst.at 1 rfl))
theorem Zov (a0 : Zm) {r : Int} (h : Zio a0 = some r) : FnOk Tryd.prog 5 [(Zx.pd a0)] (pInt .i64 r) := by
 have H0 := h
 unfold Zio at H0
 clear h
 refine Zbs (N := 5) Tryd.func5 rfl rfl (Nat.le_of_ble_eq_true rfl) rfl rfl (fun a g0 hst hb => ?_)
 refine r_s (T := [⟨[.old 0], _, [], [], [1]⟩, ⟨[], _, [], [], [2]⟩]) (F := [.op 0 0]) hst hb Zb
   (o_p rfl (Zbl rfl rfl u_0) <| o_p rfl (Zc rfl rfl c_i) <| o_n) (by kernel_rfl) (fun a g hst hb => ?_)
 refine r_s (T := [⟨[.old 0], _, [], [], [3]⟩, ⟨[.op 0 0], _, [], [0], [4]⟩, ⟨[.op 1 0], _, [], [0, 1], [2]⟩]) (F := [.op 2 0]) hst hb Zb
   (o_p rfl (Ze Zpy rfl rfl u_0) <| o_p rfl (Zf ty_3 rfl rfl u_0) <| o_p rfl (Zc rfl rfl u_0) <| o_n) (by kernel_rfl) (fun a g hst hb => ?_)
 refine wp_ret ?_
 obtain rfl := Option.some.inj H0
 exact Z3 rfl hst hb (Zl (s := 2)) (hst.at 0 rfl)
theorem Zo7 (a0 : Zd) {r : Int} (h : Zhz a0 = some r) : FnOk Tryd.prog 13 [(Zi.pd a0)] (pInt .i64 r) := by
 have H0 := h
 unfold Zhz at H0
 clear h
 refine Zbs (N := 27) Tryd.func13 rfl rfl (Nat.le_of_ble_eq_true rfl) rfl rfl (fun a g0 hst hb => ?_)
 refine r_s (T := [⟨[.old 0], _, [], [], [1]⟩, ⟨[], _, [], [], [2]⟩]) (F := [.op 0 0]) hst hb Zb
   (o_p rfl (Zbl rfl rfl u_0) <| o_p rfl (Zc rfl rfl c_i) <| o_n) (by kernel_rfl) (fun a g hst hb => ?_)
 refine wp_seq ?_
 refine r_s (T := [⟨[.old 0], _, [], [], [5]⟩, ⟨[.op 0 0], _, [], [0], [6]⟩, ⟨[.op 1 0], _, [], [0, 1], [7]⟩, ⟨[.op 2 0], _, [], [0, 1, 2], [8]⟩, ⟨[.op 3 0], _, [], Lr 4, [9]⟩, ⟨[.op 4 0, .old 0], _, [], Lr 5, [10]⟩, ⟨[.op 4 0, .op 5 0], _, [], Lr 6, [11]⟩, ⟨[.op 4 0, .op 6 0], _, [], Lr 7, [12]⟩, ⟨[.op 4 0, .op 7 0], _, [], Lr 8, [13]⟩, ⟨[.op 4 0, .op 8 0], _, [], Lr 9, [14]⟩]) (F := [.old 0, .op 9 0]) hst hb Zb
   (o_p rfl (Ze Zc8 rfl rfl u_0) <| o_p rfl (Zf Zer rfl rfl u_0) <| o_p rfl (Zcj Tryd.underlying52 rfl rfl u_0) <| o_p rfl (Zc0 rfl rfl u_0 c_i) <| o_p rfl (Za rfl rfl u_0) <| o_g (g_f rfl rfl rfl (fun hG => Ze Zjl rfl rfl u_0)) <| o_g (g_f rfl rfl rfl (fun hG => Zf ty_9 rfl rfl (Opd.gd hG u_0))) <| o_g (g_f rfl rfl rfl (fun hG => Zfq Tryd.underlying9 rfl rfl (Opd.gd hG u_0))) <| o_g (g_f rfl rfl rfl (fun hG => Zc0 rfl rfl (Opd.gd hG u_0) c_i)) <| o_p rfl (Zbx rfl rfl u_0 (fun hz => (Opd.gd (bNF hz) u_1))) <| o_n) (by kernel_rfl) (fun a g hst hb => ?_)
 refine wp_cond_split (hst.bool 1 rfl) (fun hc1 => ?_) (fun hc1 => ?_)
 · replace H0 := Zz hc1 H0
   refine r_s (L := []) (T := [⟨[], _, [], [], [2]⟩]) (F := [.op 0 0]) (hst.pick [] rfl) hb Zb
     (o_p rfl (Zc rfl rfl c_i) <| o_n) (by kernel_rfl) (fun a g hst hb => ?_)
   refine wp_ret ?_
   refine Zr ?_
   obtain rfl := Option.some.inj H0
   exact Z3 rfl hst hb (Zl (s := 2)) (hst.at 0 rfl)
 · replace H0 := Z0 hc1 H0
   refine wp_skip ?_
   refine Zu ?_
   refine wp_seq ?_
   refine r_s (L := [(1, _)]) (T := [⟨[.old 0], _, [], [], [15]⟩, ⟨[.op 0 0], _, [], [0], [16]⟩, ⟨[.op 1 0], _, [], [0, 1], [17]⟩, ⟨[], _, [], [], [18]⟩]) (F := [.op 1 0, .op 2 0, .op 3 0]) (hst.pick [0] rfl) hb Zb
     (o_p rfl (Ze Zc8 rfl rfl u_0) <| o_p rfl (Zf Zer rfl rfl u_0) <| o_p rfl (Zcj Tryd.underlying52 rfl rfl u_0) <| o_p rfl (Za rfl rfl c_i) <| o_n) (by kernel_rfl) (fun a g hst hb => ?_)
   obtain ⟨z7, hz1, H0⟩ := Zh H0
   refine Zc2 (fun a w => ∃ (g : G), w = g.w ∧ St 27 [] a g ∧ Base g0 g ∧ (.inr ()) = z7) ?_ ?_
   · rintro a w ⟨g, rfl, hst, hb, rfl⟩
     refine Zu ?_
     refine r_s (T := [⟨[], _, [], [], [2]⟩]) (F := [.op 0 0]) hst hb Zb
       (o_p rfl (Zc rfl rfl c_i) <| o_n) (by kernel_rfl) (fun a g hst hb => ?_)
     refine wp_ret ?_
     obtain rfl := Option.some.inj H0
     exact Z3 rfl hst hb (Zl (s := 2)) (hst.at 0 rfl)
   · refine wp_block ?_
     refine wp_loop_ghost (fun n a w => ∃ (x2 : Int) (g : G), w = g.w ∧ St 27 [(16, (Zt.sl.pd a0.List)), (17, (pInt .i64 (a0.List.length : Int))), (18, (pInt .i64 x2))] a g ∧ Base g0 g ∧ Zd1 a0 n x2 = some z7) (Int.toNat ((a0.List.length : Int) - (0 : Int)) + 1) ⟨(0 : Int), g, rfl, (hst.pick [0, 1, 2] rfl), hb, hz1⟩ (fun n a w hI => ?_)
     obtain ⟨x2, g, rfl, hst, hb, H1⟩ := hI
     cases n with
     | zero => exact absurd H1 (by simp [Zd1])
     | succ n =>
       rw [Zd1] at H1
       refine r_s (T := [⟨[.old 2, .old 1], _, [], [], [19]⟩]) (F := [.old 0, .old 1, .old 2, .op 0 0]) hst hb Zb
         (o_p rfl (Zc1 rfl rfl u_0 u_1) <| o_n) (by kernel_rfl) (fun a g hst hb => ?_)
       refine wp_seq ?_
       refine wp_cond_split (hst.bool 3 rfl) (fun hc3 => ?_) (fun hc3 => ?_)
       · replace H1 := Zz hc3 H1
         refine wp_skip ?_
         refine Zu ?_
         refine wp_seq ?_
         refine wp_block ?_
         obtain ⟨e4, h5, H1⟩ := Zh H1
         refine r_s (L := [(16, _), (17, _), (18, _)]) (T := [⟨[.old 0, .old 2], _, [], [], [20]⟩, ⟨[.op 0 0], _, [], [0], [21]⟩, ⟨[], [(4, (pBox Zt 4 (default : Zj)))], [5], [], [4]⟩, ⟨[.op 1 0, .op 2 0], _, [5], [0, 1, 2], [4]⟩]) (F := [.op 3 0, .old 0, .old 1, .old 2]) (hst.pick [0, 1, 2] rfl) hb Zb
           (o_p rfl (Zb4 Tryd.underlying52 Zi5 rfl rfl u_0 u_1 h5) <| o_p rfl (Zf Zff rfl rfl u_0) <| o_p rfl (Zbi (zs := [.float .f64 0, .string ByteArray.empty]) (by kernel_rfl) (fun g => Zi2 g) rfl rfl) <| o_p rfl (Zb9 Zff rfl rfl u_1 u_0) <| o_n) (by kernel_rfl) (fun a g hst hb => ?_)
         refine r_s (T := [⟨[.old 0], _, [], [], [22]⟩, ⟨[.op 0 0], _, [], [0], [23]⟩, ⟨[.op 1 0], _, [], [0, 1], [24]⟩, ⟨[.op 2 0], _, [], [0, 1, 2], [25]⟩]) (F := [.old 1, .old 2, .old 3, .op 3 0]) hst hb Zb
           (o_p rfl (Ze Zf4 rfl rfl u_0) <| o_p rfl (Zf ty_9 rfl rfl u_0) <| o_p rfl (Zfq Tryd.underlying9 rfl rfl u_0) <| o_p rfl (Zc0 rfl rfl u_0 c_i) <| o_n) (by kernel_rfl) (fun a g hst hb => ?_)
         refine wp_cond_split (hst.bool 3 rfl) (fun hc6 => ?_) (fun hc6 => ?_)
         · replace H1 := Zz hc6 H1
           refine r_s (L := []) (T := [⟨[], _, [], [], [2]⟩]) (F := [.op 0 0]) (hst.pick [] rfl) hb Zb
             (o_p rfl (Zc rfl rfl c_i) <| o_n) (by kernel_rfl) (fun a g hst hb => ?_)
           refine wp_ret ?_
           refine Z1 ?_
           refine Zr ?_
           refine Zr ?_
           refine Z1 ?_
           refine Zr ?_
           refine Zr ?_
           obtain rfl := Option.some.inj H1
           obtain rfl := Option.some.inj H0
           exact Z3 rfl hst hb (Zl (s := 2)) (hst.at 0 rfl)
         · replace H1 := Z0 hc6 H1
           refine wp_skip ?_
           refine Zbr ?_
           refine Zu ?_
           refine r_g (L := [(16, _), (17, _), (18, _)]) (T := [⟨[.old 2], _, [], [], [26]⟩, ⟨[.op 0 0], _, [], [0], [18]⟩]) (F := [.old 0, .old 1, .op 1 0]) (hst.pick [0, 1, 2] rfl) hb Zb
             (o_p rfl (Zb8 rfl rfl u_0 c_i rfl) <| o_p rfl (Za rfl rfl u_0) <| o_n) (by kernel_rfl) (fun a g hst hb => ?_)
           exact ⟨n, Nat.lt_succ_self _, (IntKind.i64.wrap (x2 + (1 : Int))), g, rfl, (hst.pick [0, 1, 2] rfl), hb, H1⟩
       · replace H1 := Z0 hc3 H1
         refine wp_exit ?_
         refine Zce ?_
         refine Zce ?_
         refine Zdc ?_
         exact ⟨g, rfl, (hst.pick [] rfl), hb, Option.some.inj H1⟩
theorem Zcw (a0 : shelf_nodeT) {r : Int} (h : Zb6 a0 = some r) : FnOk Tryd.prog 22 [(Zy.pd a0)] (pInt .i64 r) := by
 have H0 := h
 unfold Zb6 at H0
 clear h
 refine Zbs (N := 9) Tryd.func22 rfl rfl (Nat.le_of_ble_eq_true rfl) rfl rfl (fun a g0 hst hb => ?_)
 refine r_s (T := [⟨[], _, [], [], [2]⟩]) (F := [.old 0]) hst hb Zb
   (o_p rfl (Zc rfl rfl c_i) <| o_n) (by kernel_rfl) (fun a g hst hb => ?_)
 refine wp_seq ?_
 refine r_s (T := [⟨[.old 0], _, [], [], [3]⟩, ⟨[.op 0 0], _, [], [0], [4]⟩]) (F := [.old 0, .op 1 0]) hst hb Zb
   (o_p rfl (Za rfl rfl u_0) <| o_p rfl (Znc Tryd.underlying24 rfl rfl u_0 (Zea _)) <| o_n) (by kernel_rfl) (fun a g hst hb => ?_)
 refine wp_cond_split (hst.bool 1 rfl) (fun hc1 => ?_) (fun hc1 => ?_)
 · replace H0 := Zz hc1 H0
   refine r_s (L := []) (T := [⟨[], _, [], [], [2]⟩]) (F := [.op 0 0]) (hst.pick [] rfl) hb Zb
     (o_p rfl (Zc rfl rfl c_i) <| o_n) (by kernel_rfl) (fun a g hst hb => ?_)
   refine wp_ret ?_
   refine Zr ?_
   obtain rfl := Option.some.inj H0
   exact Z3 rfl hst hb (Zl (s := 2)) (hst.at 0 rfl)
 · replace H0 := Z0 hc1 H0
   refine wp_skip ?_
   refine Zu ?_
   obtain ⟨n2, h3, H0⟩ := Zh H0
   refine r_s (L := [(0, _)]) (T := [⟨[.old 0], _, [], [], [5]⟩, ⟨[.op 0 0], _, [], [0], [6]⟩, ⟨[.op 1 0], _, [], [0, 1], [7]⟩, ⟨[.op 2 0], _, [], [0, 1, 2], [8]⟩, ⟨[.op 3 0], _, [], Lr 4, [2]⟩]) (F := [.op 4 0]) (hst.pick [0] rfl) hb Zb
     (o_p rfl (Za rfl rfl u_0) <| o_p rfl (Zn rfl rfl (Opd.imp u_0 (fun _ _ h => Zo h3 h)) (fun _ _ ⟨_, _, _, e, _⟩ => ⟨_, e⟩)) <| o_p rfl (Ze Z4m rfl rfl u_0) <| o_p rfl (Zf ty_3 rfl rfl u_0) <| o_p rfl (Zc rfl rfl u_0) <| o_n) (by kernel_rfl) (fun a g hst hb => ?_)
   refine wp_ret ?_
   obtain rfl := Option.some.inj H0
   exact Z3 rfl hst hb (Zl (s := 2)) (hst.at 0 rfl)
theorem Zfb (a0 : Zm) {r : Int} (h : Zdk a0 = some r) : FnOk Tryd.prog 12 [(Zx.pd a0)] (pInt .i64 r) := by
 have H0 := h
 unfold Zdk at H0
 clear h
 refine Zbs (N := 6) Tryd.func12 rfl rfl (Nat.le_of_ble_eq_true rfl) rfl rfl (fun a g0 hst hb => ?_)
 refine r_s (T := [⟨[.old 0], _, [], [], [1]⟩, ⟨[], _, [], [], [2]⟩]) (F := [.op 0 0]) hst hb Zb
   (o_p rfl (Zbl rfl rfl u_0) <| o_p rfl (Zc rfl rfl c_i) <| o_n) (by kernel_rfl) (fun a g hst hb => ?_)
 obtain ⟨r1, h2, H0⟩ := Zh H0
 refine r_s (T := [⟨[.old 0], _, [], [], [3]⟩, ⟨[.op 0 0], _, [], [0], [4]⟩, ⟨[.op 1 0], _, [], [0, 1], [5]⟩, ⟨[.op 2 0], _, [], [0, 1, 2], [2]⟩]) (F := [.op 3 0]) hst hb Zb
   (o_p rfl (Ze Znr rfl rfl u_0) <| o_p rfl (Zf Zcn rfl rfl u_0) <| o_p rfl (Zq Zlg (Zcw _ h2) rfl rfl (.cons u_0 .nil)) <| o_p rfl (Zc rfl rfl u_0) <| o_n) (by kernel_rfl) (fun a g hst hb => ?_)
 refine wp_ret ?_
 obtain rfl := Option.some.inj H0
 exact Z3 rfl hst hb (Zl (s := 2)) (hst.at 0 rfl)
theorem Zuj (a0 : Int) {r : Zbw} (h : Zds a0 = some r) : FnOk Tryd.prog 36 [(pInt .i64 a0)] (Zcl.pd r) := by
 have H0 := h
 unfold Zds at H0
 clear h
 refine Zbs (N := 24) Tryd.func36 rfl rfl (Nat.le_of_ble_eq_true rfl) rfl rfl (fun a g0 hst hb => ?_)
 refine r_s (T := [⟨[], [(2, (pBox Zcl 2 (default : Zbw)))], [3], [], [2]⟩]) (F := [.old 0, .op 0 0]) hst hb Zb
   (o_p rfl (Zbi (zs := [.bool false, .bool false, .bool false, .bool false, .bool false]) (by kernel_rfl) (fun g => Zpp g) rfl rfl) <| o_n) (by kernel_rfl) (fun a g hst hb => ?_)
 refine wp_seq ?_
 refine r_s (T := [⟨[.old 0], _, [], [], [3]⟩]) (F := [.old 1, .op 0 0]) hst hb Zb
   (o_p rfl (Za rfl rfl u_0) <| o_n) (by kernel_rfl) (fun a g hst hb => ?_)
 refine wp_block ?_
 refine r_s (T := [⟨[.old 1], _, [], [], [5]⟩, ⟨[.op 0 0], _, [], [0], [4]⟩]) (F := [.old 0, .old 1, .op 1 0]) hst hb Zb
   (o_p rfl (Zby rfl rfl u_0 c_i) <| o_p rfl (Zc rfl rfl u_0) <| o_n) (by kernel_rfl) (fun a g hst hb => ?_)
 refine wp_cond_split (hst.bool 2 rfl) (fun hc1 => ?_) (fun hc1 => ?_)
 · replace H0 := Zz hc1 H0
   refine r_s (L := [(2, _)]) (T := [⟨[], _, [], [], [6]⟩, ⟨[.op 0 0, .old 0], _, [3], [0], [2]⟩]) (F := [.op 1 0]) (hst.pick [0] rfl) hb Zb
     (o_p rfl (Z3o rfl rfl c_b) <| o_p rfl (Z6 Zi6 rfl rfl u_1 u_0) <| o_n) (by kernel_rfl) (fun a g hst hb => ?_)
   refine wp_ret ?_
   refine Z1 ?_
   refine Zr ?_
   obtain rfl := Option.some.inj H0
   obtain ⟨u0, hu0, hq0⟩ := Zbe (P := Tryd.prog) Zi6 (hst.at 0 rfl)
   exact Z3 rfl hst hb hu0 hq0
 · replace H0 := Z0 hc1 H0
   refine wp_seq ?_
   refine r_s (L := [(2, _), (3, _)]) (T := [⟨[.old 1], _, [], [], [8]⟩, ⟨[.op 0 0], _, [], [0], [7]⟩]) (F := [.old 0, .old 1, .op 1 0]) (hst.pick [0, 1] rfl) hb Zb
     (o_p rfl (Zby rfl rfl u_0 c_i) <| o_p rfl (Zc rfl rfl u_0) <| o_n) (by kernel_rfl) (fun a g hst hb => ?_)
   refine Zc2 (fun a w => ∃ (j3 : Bool) (g : G), w = g.w ∧ St 24 [(2, (pBox Zcl 2 (default : Zbw))), (3, (pInt .i64 a0)), (7, (Zbc j3))] a g ∧ Base g0 g ∧ Zix a0 j3 = some r) ?_ ?_
   · rintro a w ⟨j3, g, rfl, hst, hb, H0⟩
     unfold Zix at H0
     refine Zu ?_
     refine wp_cond_split (hst.bool 2 rfl) (fun hc4 => ?_) (fun hc4 => ?_)
     · replace H0 := Zz hc4 H0
       refine r_s (L := [(2, _)]) (T := [⟨[], _, [], [], [10]⟩, ⟨[.op 0 0, .old 0], _, [3], [0], [2]⟩]) (F := [.op 1 0]) (hst.pick [0] rfl) hb Zb
         (o_p rfl (Z42 rfl rfl c_b) <| o_p rfl (Z6 Zi6 rfl rfl u_1 u_0) <| o_n) (by kernel_rfl) (fun a g hst hb => ?_)
       refine wp_ret ?_
       refine Z1 ?_
       refine Zr ?_
       obtain rfl := Option.some.inj H0
       obtain ⟨u0, hu0, hq0⟩ := Zbe (P := Tryd.prog) Zi6 (hst.at 0 rfl)
       exact Z3 rfl hst hb hu0 hq0
     · replace H0 := Z0 hc4 H0
       refine r_s (L := [(2, _), (3, _)]) (T := [⟨[.old 1], _, [], [], [12]⟩, ⟨[.op 0 0], _, [], [0], [11]⟩]) (F := [.old 0, .old 1, .op 1 0]) (hst.pick [0, 1] rfl) hb Zb
         (o_p rfl (Zby rfl rfl u_0 c_i) <| o_p rfl (Zc rfl rfl u_0) <| o_n) (by kernel_rfl) (fun a g hst hb => ?_)
       refine wp_cond_split (hst.bool 2 rfl) (fun hc5 => ?_) (fun hc5 => ?_)
       · replace H0 := Zz hc5 H0
         refine r_s (L := [(2, _)]) (T := [⟨[], _, [], [], [13]⟩, ⟨[.op 0 0, .old 0], _, [3], [0], [2]⟩]) (F := [.op 1 0]) (hst.pick [0] rfl) hb Zb
           (o_p rfl (Z0b rfl rfl c_b c_b) <| o_p rfl (Z6 Zi6 rfl rfl u_1 u_0) <| o_n) (by kernel_rfl) (fun a g hst hb => ?_)
         refine wp_ret ?_
         refine Z1 ?_
         refine Zr ?_
         obtain rfl := Option.some.inj H0
         obtain ⟨u0, hu0, hq0⟩ := Zbe (P := Tryd.prog) Zi6 (hst.at 0 rfl)
         exact Z3 rfl hst hb hu0 hq0
       · replace H0 := Z0 hc5 H0
         refine wp_seq ?_
         refine r_s (L := [(2, _), (3, _)]) (T := [⟨[.old 1], _, [], [], [15]⟩, ⟨[.op 0 0], _, [], [0], [14]⟩]) (F := [.old 0, .old 1, .op 1 0]) (hst.pick [0, 1] rfl) hb Zb
           (o_p rfl (Zby rfl rfl u_0 c_i) <| o_p rfl (Zc rfl rfl u_0) <| o_n) (by kernel_rfl) (fun a g hst hb => ?_)
         refine Zc2 (fun a w => ∃ (j8 : Bool) (g : G), w = g.w ∧ St 24 [(2, (pBox Zcl 2 (default : Zbw))), (3, (pInt .i64 a0)), (14, (Zbc j8))] a g ∧ Base g0 g ∧ Zhn a0 j8 = some r) ?_ ?_
         · rintro a w ⟨j8, g, rfl, hst, hb, H0⟩
           unfold Zhn at H0
           refine Zu ?_
           refine wp_cond_split (hst.bool 2 rfl) (fun hc9 => ?_) (fun hc9 => ?_)
           · replace H0 := Zz hc9 H0
             refine r_s (L := [(2, _)]) (T := [⟨[], _, [], [], [18]⟩, ⟨[.op 0 0, .old 0], _, [3], [0], [2]⟩]) (F := [.op 1 0]) (hst.pick [0] rfl) hb Zb
               (o_p rfl (Z46 rfl rfl c_b) <| o_p rfl (Z6 Zi6 rfl rfl u_1 u_0) <| o_n) (by kernel_rfl) (fun a g hst hb => ?_)
             refine wp_ret ?_
             refine Z1 ?_
             refine Zr ?_
             obtain rfl := Option.some.inj H0
             obtain ⟨u0, hu0, hq0⟩ := Zbe (P := Tryd.prog) Zi6 (hst.at 0 rfl)
             exact Z3 rfl hst hb hu0 hq0
           · replace H0 := Z0 hc9 H0
             refine wp_seq ?_
             refine r_s (L := [(2, _), (3, _)]) (T := [⟨[.old 1], _, [], [], [20]⟩, ⟨[.op 0 0], _, [], [0], [19]⟩]) (F := [.old 0, .old 1, .op 1 0]) (hst.pick [0, 1] rfl) hb Zb
               (o_p rfl (Zby rfl rfl u_0 c_i) <| o_p rfl (Zc rfl rfl u_0) <| o_n) (by kernel_rfl) (fun a g hst hb => ?_)
             refine Zc2 (fun a w => ∃ (j11 : Bool) (g : G), w = g.w ∧ St 24 [(2, (pBox Zcl 2 (default : Zbw))), (19, (Zbc j11))] a g ∧ Base g0 g ∧ Ziy j11 = some r) ?_ ?_
             · rintro a w ⟨j11, g, rfl, hst, hb, H0⟩
               unfold Ziy at H0
               refine Zu ?_
               refine wp_cond_split (hst.bool 1 rfl) (fun hc12 => ?_) (fun hc12 => ?_)
               · replace H0 := Zz hc12 H0
                 refine r_s (L := [(2, _)]) (T := [⟨[], _, [], [], [22]⟩, ⟨[.op 0 0, .old 0], _, [3], [0], [2]⟩]) (F := [.op 1 0]) (hst.pick [0] rfl) hb Zb
                   (o_p rfl (Z3l rfl rfl c_b) <| o_p rfl (Z6 Zi6 rfl rfl u_1 u_0) <| o_n) (by kernel_rfl) (fun a g hst hb => ?_)
                 refine wp_ret ?_
                 refine Z1 ?_
                 refine Zr ?_
                 obtain rfl := Option.some.inj H0
                 obtain ⟨u0, hu0, hq0⟩ := Zbe (P := Tryd.prog) Zi6 (hst.at 0 rfl)
                 exact Z3 rfl hst hb hu0 hq0
               · replace H0 := Z0 hc12 H0
                 refine wp_skip ?_
                 refine Zbr ?_
                 refine Zu ?_
                 refine r_s (L := [(2, _)]) (T := [⟨[], _, [], [], [23]⟩, ⟨[.op 0 0, .old 0], _, [3], [0], [2]⟩]) (F := [.op 1 0]) (hst.pick [0] rfl) hb Zb
                   (o_p rfl (Z5j rfl rfl ) <| o_p rfl (Z6 Zi6 rfl rfl u_1 u_0) <| o_n) (by kernel_rfl) (fun a g hst hb => ?_)
                 refine wp_ret ?_
                 obtain rfl := Option.some.inj H0
                 obtain ⟨u0, hu0, hq0⟩ := Zbe (P := Tryd.prog) Zi6 (hst.at 0 rfl)
                 exact Z3 rfl hst hb hu0 hq0
             · refine wp_cond_split (hst.bool 2 rfl) (fun hc10 => ?_) (fun hc10 => ?_)
               · replace H0 := Zz hc10 H0
                 refine wp_skip ?_
                 exact ⟨(a0 == (8 : Int)), g, rfl, (hst.pick [0, 2] rfl), hb, H0⟩
               · replace H0 := Z0 hc10 H0
                 refine r_g (L := [(2, _), (3, _)]) (T := [⟨[.old 1], _, [], [], [21]⟩, ⟨[.op 0 0], _, [], [0], [19]⟩]) (F := [.old 0, .op 1 0]) (hst.pick [0, 1] rfl) hb Zb
                   (o_p rfl (Zby rfl rfl u_0 c_i) <| o_p rfl (Zc rfl rfl u_0) <| o_n) (by kernel_rfl) (fun a g hst hb => ?_)
                 exact ⟨(a0 == (9 : Int)), g, rfl, (hst.pick [0, 1] rfl), hb, H0⟩
         · refine wp_cond_split (hst.bool 2 rfl) (fun hc6 => ?_) (fun hc6 => ?_)
           · replace H0 := Zz hc6 H0
             refine wp_skip ?_
             exact ⟨(a0 == (5 : Int)), g, rfl, (hst.pick [0, 1, 2] rfl), hb, H0⟩
           · replace H0 := Z0 hc6 H0
             refine r_s (L := [(2, _), (3, _)]) (T := [⟨[.old 1], _, [], [], [16]⟩, ⟨[.op 0 0], _, [], [0], [14]⟩]) (F := [.old 0, .old 1, .op 1 0]) (hst.pick [0, 1] rfl) hb Zb
               (o_p rfl (Zby rfl rfl u_0 c_i) <| o_p rfl (Zc rfl rfl u_0) <| o_n) (by kernel_rfl) (fun a g hst hb => ?_)
             refine wp_cond_split (hst.bool 2 rfl) (fun hc7 => ?_) (fun hc7 => ?_)
             · replace H0 := Zz hc7 H0
               refine wp_skip ?_
               exact ⟨(a0 == (6 : Int)), g, rfl, (hst.pick [0, 1, 2] rfl), hb, H0⟩
             · replace H0 := Z0 hc7 H0
               refine r_g (L := [(2, _), (3, _)]) (T := [⟨[.old 1], _, [], [], [17]⟩, ⟨[.op 0 0], _, [], [0], [14]⟩]) (F := [.old 0, .old 1, .op 1 0]) (hst.pick [0, 1] rfl) hb Zb
                 (o_p rfl (Zby rfl rfl u_0 c_i) <| o_p rfl (Zc rfl rfl u_0) <| o_n) (by kernel_rfl) (fun a g hst hb => ?_)
               exact ⟨(a0 == (7 : Int)), g, rfl, (hst.pick [0, 1, 2] rfl), hb, H0⟩
   · refine wp_cond_split (hst.bool 2 rfl) (fun hc2 => ?_) (fun hc2 => ?_)
     · replace H0 := Zz hc2 H0
       refine wp_skip ?_
       exact ⟨(a0 == (2 : Int)), g, rfl, (hst.pick [0, 1, 2] rfl), hb, H0⟩
     · replace H0 := Z0 hc2 H0
       refine r_g (L := [(2, _), (3, _)]) (T := [⟨[.old 1], _, [], [], [9]⟩, ⟨[.op 0 0], _, [], [0], [7]⟩]) (F := [.old 0, .old 1, .op 1 0]) (hst.pick [0, 1] rfl) hb Zb
         (o_p rfl (Zby rfl rfl u_0 c_i) <| o_p rfl (Zc rfl rfl u_0) <| o_n) (by kernel_rfl) (fun a g hst hb => ?_)
       exact ⟨(a0 == (3 : Int)), g, rfl, (hst.pick [0, 1, 2] rfl), hb, H0⟩
theorem Zwy {r : Nat} (h : Zoe = some r) : FnOk Tryd.prog 83 [] (pFlt r) := by
 have H0 := h
 unfold Zoe at H0
 clear h
 refine Zbs (N := 2) Tryd.func83 rfl rfl (Nat.le_of_ble_eq_true rfl) rfl rfl (fun a g0 hst hb => ?_)
 refine r_s (T := [⟨[], _, [], [], [0]⟩]) (F := []) hst hb Zb
   (o_p rfl (Zc rfl rfl c_f) <| o_n) (by kernel_rfl) (fun a g hst hb => ?_)
 refine r_s (T := [⟨[], _, [], [], [1]⟩, ⟨[.op 0 0], _, [], [0], [0]⟩]) (F := [.op 1 0]) hst hb Zb
   (o_p rfl (Zw8 Z7h rfl rfl c_i) <| o_p rfl (Zc rfl rfl u_0) <| o_n) (by kernel_rfl) (fun a g hst hb => ?_)
 refine wp_ret ?_
 obtain rfl := Option.some.inj H0
 exact Z3 rfl hst hb (Zl (s := 0)) (hst.at 0 rfl)
theorem Zgg (a0 : Nat) {r : Nat} (h : Ze3 a0 = some r) : FnOk Tryd.prog 56 [(pFlt a0)] (pFlt r) := by
 have H0 := h
 unfold Ze3 at H0
 clear h
 refine Zbs (N := 8) Tryd.func56 rfl rfl (Nat.le_of_ble_eq_true rfl) rfl rfl (fun a g0 hst hb => ?_)
 refine r_s (T := [⟨[], _, [], [], [2]⟩]) (F := [.old 0]) hst hb Zb
   (o_p rfl (Zc rfl rfl c_f) <| o_n) (by kernel_rfl) (fun a g hst hb => ?_)
 refine wp_seq ?_
 refine r_s (T := [⟨[.old 0], _, [], [], [3]⟩, ⟨[.old 0], _, [], [], [4]⟩, ⟨[.op 0 0, .op 1 0], _, [], [0, 1], [5]⟩]) (F := [.old 0, .op 2 0]) hst hb Zb
   (o_p rfl (Za rfl rfl u_0) <| o_p rfl (Za rfl rfl u_0) <| o_p rfl (Zxr rfl rfl u_0 u_1) <| o_n) (by kernel_rfl) (fun a g hst hb => ?_)
 refine wp_cond_split (hst.bool 1 rfl) (fun hc1 => ?_) (fun hc1 => ?_)
 · replace H0 := Zz hc1 H0
   obtain ⟨r2, h3, H0⟩ := Zh H0
   refine r_s (L := []) (T := [⟨[], _, [], [], [6]⟩, ⟨[.op 0 0], _, [], [0], [2]⟩]) (F := [.op 1 0]) (hst.pick [] rfl) hb Zb
     (o_p rfl (Zq Z7w (Zwy h3) rfl rfl .nil) <| o_p rfl (Zc rfl rfl u_0) <| o_n) (by kernel_rfl) (fun a g hst hb => ?_)
   refine wp_ret ?_
   refine Zr ?_
   obtain rfl := Option.some.inj H0
   exact Z3 rfl hst hb (Zl (s := 2)) (hst.at 0 rfl)
 · replace H0 := Z0 hc1 H0
   refine wp_skip ?_
   refine Zu ?_
   refine r_s (L := [(0, _)]) (T := [⟨[.old 0], _, [], [], [7]⟩, ⟨[.op 0 0], _, [], [0], [2]⟩]) (F := [.op 1 0]) (hst.pick [0] rfl) hb Zb
     (o_p rfl (Za rfl rfl u_0) <| o_p rfl (Zc rfl rfl u_0) <| o_n) (by kernel_rfl) (fun a g hst hb => ?_)
   refine wp_ret ?_
   obtain rfl := Option.some.inj H0
   exact Z3 rfl hst hb (Zl (s := 2)) (hst.at 0 rfl)
theorem Zl3 (a0 : Nat) {r : Int} (h : Zkn a0 = some r) : FnOk Tryd.prog 54 [(pFlt a0)] (pInt .u64 r) := by
 have H0 := h
 unfold Zkn at H0
 clear h
 refine Zbs (N := 14) Tryd.func54 rfl rfl (Nat.le_of_ble_eq_true rfl) rfl rfl (fun a g0 hst hb => ?_)
 refine r_s (T := [⟨[], _, [], [], [2]⟩]) (F := [.old 0]) hst hb Zb
   (o_p rfl (Zc rfl rfl c_i) <| o_n) (by kernel_rfl) (fun a g hst hb => ?_)
 obtain ⟨r1, h2, H0⟩ := Zh H0
 refine r_s (T := [⟨[.old 0], _, [], [], [4]⟩, ⟨[.op 0 0], _, [], [0], [5]⟩, ⟨[.op 1 0], _, [], [0, 1], [6]⟩, ⟨[.op 2 0], _, [], [0, 1, 2], [3]⟩]) (F := [.op 3 0]) hst hb Zb
   (o_p rfl (Za rfl rfl u_0) <| o_p rfl (Zq Zm4 (Zgg _ h2) rfl rfl (.cons u_0 .nil)) <| o_p rfl (Zp6 Zum rfl rfl u_0) <| o_p rfl (Zc rfl rfl u_0) <| o_n) (by kernel_rfl) (fun a g hst hb => ?_)
 refine wp_seq ?_
 refine r_s (T := [⟨[.old 0], _, [], [], [7]⟩, ⟨[.op 0 0], _, [], [0], [8]⟩, ⟨[.op 1 0], _, [], [0, 1], [9]⟩]) (F := [.old 0, .op 2 0]) hst hb Zb
   (o_p rfl (Za rfl rfl u_0) <| o_p rfl (Z5t rfl rfl u_0 c_i) <| o_p rfl (Zfg rfl rfl u_0 c_i) <| o_n) (by kernel_rfl) (fun a g hst hb => ?_)
 refine wp_cond_split (hst.bool 1 rfl) (fun hc3 => ?_) (fun hc3 => ?_)
 · replace H0 := Zz hc3 H0
   refine r_s (L := [(3, _)]) (T := [⟨[.old 0], _, [], [], [10]⟩, ⟨[.op 0 0], _, [], [0], [11]⟩, ⟨[.op 1 0], _, [], [0, 1], [2]⟩]) (F := [.op 2 0]) (hst.pick [0] rfl) hb Zb
     (o_p rfl (Za rfl rfl u_0) <| o_p rfl (Z41 rfl rfl rfl u_0) <| o_p rfl (Zc rfl rfl u_0) <| o_n) (by kernel_rfl) (fun a g hst hb => ?_)
   refine wp_ret ?_
   refine Zr ?_
   obtain rfl := Option.some.inj H0
   exact Z3 rfl hst hb (Zl (s := 2)) (hst.at 0 rfl)
 · replace H0 := Z0 hc3 H0
   refine wp_skip ?_
   refine Zu ?_
   refine r_s (L := [(3, _)]) (T := [⟨[.old 0], _, [], [], [12]⟩, ⟨[.op 0 0], _, [], [0], [13]⟩, ⟨[.op 1 0], _, [], [0, 1], [2]⟩]) (F := [.op 2 0]) (hst.pick [0] rfl) hb Zb
     (o_p rfl (Za rfl rfl u_0) <| o_p rfl (Z70 rfl rfl u_0 c_i) <| o_p rfl (Zc rfl rfl u_0) <| o_n) (by kernel_rfl) (fun a g hst hb => ?_)
   refine wp_ret ?_
   obtain rfl := Option.some.inj H0
   exact Z3 rfl hst hb (Zl (s := 2)) (hst.at 0 rfl)
theorem Zi1 (a0 : Nat) (a1 : Nat) {r : Bool} (h : Zh1 a0 a1 = some r) : FnOk Tryd.prog 33 [(pFlt a0), (pFlt a1)] (Zbc r) := by
 have H0 := h
 unfold Zh1 at H0
 clear h
 refine Zbs (N := 10) Tryd.func33 rfl rfl (Nat.le_of_ble_eq_true rfl) rfl rfl (fun a g0 hst hb => ?_)
 refine r_s (T := [⟨[], _, [], [], [4]⟩]) (F := [.old 0, .old 1]) hst hb Zb
   (o_p rfl (Zc rfl rfl c_b) <| o_n) (by kernel_rfl) (fun a g hst hb => ?_)
 obtain ⟨r1, h2, H0⟩ := Zh H0; obtain ⟨r3, h4, H0⟩ := Zh H0
 refine r_s (T := [⟨[.old 0], _, [], [], [5]⟩, ⟨[.op 0 0], _, [], [0], [6]⟩, ⟨[.old 1], _, [], [], [7]⟩, ⟨[.op 2 0], _, [], [0, 1, 2], [8]⟩, ⟨[.op 1 0, .op 3 0], _, [], Lr 4, [9]⟩, ⟨[.op 4 0], _, [], Lr 5, [4]⟩]) (F := [.op 5 0]) hst hb Zb
   (o_p rfl (Za rfl rfl u_0) <| o_p rfl (Zq Zun (Zl3 _ h2) rfl rfl (.cons u_0 .nil)) <| o_p rfl (Za rfl rfl u_0) <| o_p rfl (Zq Zun (Zl3 _ h4) rfl rfl (.cons u_0 .nil)) <| o_p rfl (Zby rfl rfl u_0 u_1) <| o_p rfl (Zc rfl rfl u_0) <| o_n) (by kernel_rfl) (fun a g hst hb => ?_)
 refine wp_ret ?_
 obtain rfl := Option.some.inj H0
 exact Z3 rfl hst hb (Zl (s := 4)) (hst.at 0 rfl)
theorem Zwt (a0 : Zd) (a1 : Zbw) {r : Bool} (h : Zmp a0 a1 = some r) : FnOk Tryd.prog 37 [(Zi.pd a0), (Zcl.pd a1)] (Zbc r) := by
 have H0 := h
 unfold Zmp at H0
 clear h
 refine Zbs (N := 59) Tryd.func37 rfl rfl (Nat.le_of_ble_eq_true rfl) rfl rfl (fun a g0 hst hb => ?_)
 refine r_s (T := [⟨[.old 0], _, [], [], [2]⟩, ⟨[.old 1], _, [], [], [3]⟩, ⟨[], _, [], [], [4]⟩]) (F := [.op 0 0, .op 1 0]) hst hb Zb
   (o_p rfl (Zbl rfl rfl u_0) <| o_p rfl (Zbl rfl rfl u_0) <| o_p rfl (Zc rfl rfl c_b) <| o_n) (by kernel_rfl) (fun a g hst hb => ?_)
 obtain ⟨r1, h2, H0⟩ := Zh H0
 refine r_s (T := ⟨[.old 1], _, [], [], [5]⟩ :: ⟨[.op 0 0], _, [], [0], [6]⟩ :: ⟨[.op 1 0], _, [], [0, 1], [7]⟩ :: ⟨[.op 2 0, .old 0], _, [], [0, 1, 2], [8]⟩ :: ⟨[.op 2 0, .op 3 0], _, [], Lr 4, [9]⟩ :: ⟨[.op 2 0, .op 4 0], _, [], Lr 5, [10]⟩ :: ⟨[.op 2 0, .op 5 0], _, [], Lr 6, [11]⟩ :: ⟨[.op 6 0], _, [], Lr 7, [12]⟩ :: ⟨[.op 7 0, .old 1], _, [], Lr 8, [13]⟩ :: ⟨[.op 7 0, .op 8 0], _, [], Lr 9, [14]⟩ :: ⟨[.op 7 0, .op 9 0], _, [], Lr 10, [15]⟩ :: ⟨[.op 10 0, .old 0], _, [], Lr 11, [16]⟩ :: ⟨[.op 10 0, .op 11 0], _, [], Lr 12, [17]⟩ :: ⟨[.op 10 0, .op 12 0], _, [], Lr 13, [18]⟩ :: ⟨[.op 7 0, .op 10 0, .op 13 0], _, [], Lr 14, [19]⟩ :: ⟨[.op 7 0, .op 14 0], _, [], Lr 15, [20]⟩ :: ⟨[.op 15 0], _, [], Lr 16, [21]⟩ :: ⟨[.op 16 0, .old 1], _, [], Lr 17, [22]⟩ :: ⟨[.op 16 0, .op 17 0], _, [], Lr 18, [23]⟩ :: ⟨[.op 16 0, .op 18 0], _, [], Lr 19, [24]⟩ :: ⟨[.op 19 0, .old 0], _, [], Lr 20, [25]⟩ :: ⟨[.op 19 0, .op 20 0], _, [], Lr 21, [26]⟩ :: ⟨[.op 19 0, .op 21 0], _, [], Lr 22, [27]⟩ :: ⟨[.op 19 0, .op 22 0], _, [], Lr 23, [28]⟩ :: ⟨[.op 23 0, .old 0], _, [], Lr 24, [29]⟩ :: ⟨[.op 23 0, .op 24 0], _, [], Lr 25, [30]⟩ :: ⟨[.op 23 0, .op 25 0], _, [], Lr 26, [31]⟩ :: ⟨[.op 19 0, .op 23 0, .op 26 0], _, [], Lr 27, [32]⟩ :: ⟨[.op 16 0, .op 19 0, .op 27 0], _, [], Lr 28, [33]⟩ :: ⟨[.op 16 0, .op 28 0], _, [], Lr 29, [34]⟩ :: ⟨[.op 29 0], _, [], Lr 30, [35]⟩ :: ⟨[.op 30 0, .old 1], _, [], Lr 31, [36]⟩ :: ⟨[.op 30 0, .op 31 0], _, [], Lr 32, [37]⟩ :: ⟨[.op 30 0, .op 32 0], _, [], Lr 33, [38]⟩ :: ⟨[.op 33 0, .old 0], _, [], Lr 34, [39]⟩ :: ⟨[.op 33 0, .op 34 0], _, [], Lr 35, [40]⟩ :: ⟨[.op 33 0, .op 35 0], _, [], Lr 36, [41]⟩ :: ⟨[.op 30 0, .op 33 0, .op 36 0], _, [], Lr 37, [42]⟩ :: ⟨[.op 30 0, .op 37 0], _, [], Lr 38, [43]⟩ :: ⟨[.op 38 0], _, [], Lr 39, [44]⟩ :: ⟨[.op 39 0, .old 1], _, [], Lr 40, [45]⟩ :: ⟨[.op 39 0, .op 40 0], _, [], Lr 41, [46]⟩ :: ⟨[.op 39 0, .op 41 0], _, [], Lr 42, [47]⟩ :: ⟨[.op 42 0, .old 0], _, [], Lr 43, [48]⟩ :: ⟨[.op 42 0, .op 43 0], _, [], Lr 44, [49]⟩ :: ⟨[.op 42 0, .op 44 0], _, [], Lr 45, [50]⟩ :: ⟨[.op 42 0, .op 45 0], _, [], Lr 46, [51]⟩ :: ⟨[.op 46 0, .old 0], _, [], Lr 47, [52]⟩ :: ⟨[.op 46 0, .op 47 0], _, [], Lr 48, [53]⟩ :: ⟨[.op 46 0, .op 48 0], _, [], Lr 49, [54]⟩ :: ⟨[.op 46 0, .op 49 0], _, [], Lr 50, [55]⟩ :: ⟨[.op 42 0, .op 46 0, .op 50 0], _, [], Lr 51, [56]⟩ :: ⟨[.op 39 0, .op 42 0, .op 51 0], _, [], Lr 52, [57]⟩ :: ⟨[.op 39 0, .op 52 0], _, [], Lr 53, [58]⟩ :: ⟨[.op 53 0], _, [], Lr 54, [4]⟩ :: []) (F := [.op 54 0]) hst hb Zb
   (o_p rfl (Ze Z4t rfl rfl u_0) <| o_p rfl (Zf ty_4 rfl rfl u_0) <| o_p rfl (Za rfl rfl u_0) <| o_g (g_f rfl rfl rfl (fun hG => Ze Zjl rfl rfl u_0)) <| o_g (g_f rfl rfl rfl (fun hG => Zf ty_9 rfl rfl (Opd.gd hG u_0))) <| o_g (g_f rfl rfl rfl (fun hG => Zlu rfl rfl (Opd.gd hG u_0) c_s)) <| o_p rfl (Zbx rfl rfl u_0 (fun hz => (Opd.gd (bNF hz) u_1))) <| o_p rfl (Za rfl rfl u_0) <| o_g (g_t rfl rfl rfl (fun hG => Ze Z4f rfl rfl u_0)) <| o_g (g_t rfl rfl rfl (fun hG => Zf ty_4 rfl rfl (Opd.gd hG u_0))) <| o_g (g_t rfl rfl rfl (fun hG => Za rfl rfl (Opd.gd hG u_0))) <| o_g (g_fi rfl rfl rfl (fun hG => Ze Zd3 rfl rfl u_0)) <| o_g (g_fi rfl rfl rfl (fun hG => Zf ty_2 rfl rfl (Opd.gd hG u_0))) <| o_g (g_fi rfl rfl rfl (fun hG => Zby rfl rfl (Opd.gd hG u_0) c_i)) <| o_g (g_t rfl rfl rfl (fun hG => Zbx rfl rfl (Opd.gd hG u_0) (fun hz => (Opd.gd (bA hG (bNF hz)) u_1)))) <| o_p rfl (Zbp rfl rfl u_0 (fun hz => (Opd.gd hz u_1))) <| o_p rfl (Za rfl rfl u_0) <| o_g (g_t rfl rfl rfl (fun hG => Ze Zx2 rfl rfl u_0)) <| o_g (g_t rfl rfl rfl (fun hG => Zf ty_4 rfl rfl (Opd.gd hG u_0))) <| o_g (g_t rfl rfl rfl (fun hG => Za rfl rfl (Opd.gd hG u_0))) <| o_g (g_fi rfl rfl rfl (fun hG => Ze Zjm rfl rfl u_0)) <| o_g (g_fi rfl rfl rfl (fun hG => Zf ty_2 rfl rfl (Opd.gd hG u_0))) <| o_g (g_fi rfl rfl rfl (fun hG => Zby rfl rfl (Opd.gd hG u_0) c_i)) <| o_g (g_fi rfl rfl rfl (fun hG => Za rfl rfl (Opd.gd hG u_0))) <| o_g (g_ti rfl rfl rfl (fun hG => Ze Zjp rfl rfl u_0)) <| o_g (g_ti rfl rfl rfl (fun hG => Zf ty_2 rfl rfl (Opd.gd hG u_0))) <| o_g (g_ti rfl rfl rfl (fun hG => Zby rfl rfl (Opd.gd hG u_0) c_i)) <| o_g (g_fi rfl rfl rfl (fun hG => Zbp rfl rfl (Opd.gd hG u_0) (fun hz => (Opd.gd (bA hG hz) u_1)))) <| o_g (g_t rfl rfl rfl (fun hG => Zbx rfl rfl (Opd.gd hG u_0) (fun hz => (Opd.gd (bA hG (bNF hz)) u_1)))) <| o_p rfl (Zbp rfl rfl u_0 (fun hz => (Opd.gd hz u_1))) <| o_p rfl (Za rfl rfl u_0) <| o_g (g_t rfl rfl rfl (fun hG => Ze Z4s rfl rfl u_0)) <| o_g (g_t rfl rfl rfl (fun hG => Zf ty_4 rfl rfl (Opd.gd hG u_0))) <| o_g (g_t rfl rfl rfl (fun hG => Za rfl rfl (Opd.gd hG u_0))) <| o_g (g_fi rfl rfl rfl (fun hG => Ze Zkr rfl rfl u_0)) <| o_g (g_fi rfl rfl rfl (fun hG => Zf Ze1 rfl rfl (Opd.gd hG u_0))) <| o_g (g_fi rfl rfl rfl (fun hG => Zq Zp3 (Zi1 _ _ (Zbv h2 hG)) rfl rfl (.cons (Opd.gd hG u_0) (.cons c_f .nil)))) <| o_g (g_t rfl rfl rfl (fun hG => Zbx rfl rfl (Opd.gd hG u_0) (fun hz => (Opd.gd (bA hG (bNF hz)) u_1)))) <| o_p rfl (Zbp rfl rfl u_0 (fun hz => (Opd.gd hz u_1))) <| o_p rfl (Za rfl rfl u_0) <| o_g (g_t rfl rfl rfl (fun hG => Ze Zx9 rfl rfl u_0)) <| o_g (g_t rfl rfl rfl (fun hG => Zf ty_4 rfl rfl (Opd.gd hG u_0))) <| o_g (g_t rfl rfl rfl (fun hG => Za rfl rfl (Opd.gd hG u_0))) <| o_g (g_fi rfl rfl rfl (fun hG => Ze Zhm rfl rfl u_0)) <| o_g (g_fi rfl rfl rfl (fun hG => Zf ty_3 rfl rfl (Opd.gd hG u_0))) <| o_g (g_fi rfl rfl rfl (fun hG => Zby rfl rfl (Opd.gd hG u_0) c_i)) <| o_g (g_fi rfl rfl rfl (fun hG => Za rfl rfl (Opd.gd hG u_0))) <| o_g (g_ti rfl rfl rfl (fun hG => Ze Zc8 rfl rfl u_0)) <| o_g (g_ti rfl rfl rfl (fun hG => Zf Zer rfl rfl (Opd.gd hG u_0))) <| o_g (g_ti rfl rfl rfl (fun hG => Zcj Tryd.underlying52 rfl rfl (Opd.gd hG u_0))) <| o_g (g_ti rfl rfl rfl (fun hG => Zby rfl rfl (Opd.gd hG u_0) c_i)) <| o_g (g_fi rfl rfl rfl (fun hG => Zbp rfl rfl (Opd.gd hG u_0) (fun hz => (Opd.gd (bA hG hz) u_1)))) <| o_g (g_t rfl rfl rfl (fun hG => Zbx rfl rfl (Opd.gd hG u_0) (fun hz => (Opd.gd (bA hG (bNF hz)) u_1)))) <| o_p rfl (Zbp rfl rfl u_0 (fun hz => (Opd.gd hz u_1))) <| o_p rfl (Zc rfl rfl u_0) <| o_n) (by kernel_rfl) (fun a g hst hb => ?_)
 refine wp_ret ?_
 obtain rfl := Option.some.inj H0
 exact Z3 rfl hst hb (Zl (s := 4)) (hst.at 0 rfl)
theorem Zly (a0 : Nat) {r : Bool} (h : Ziu a0 = some r) : FnOk Tryd.prog 38 [(pFlt a0)] (Zbc r) := by
 have H0 := h
 unfold Ziu at H0
 clear h
 refine Zbs (N := 9) Tryd.func38 rfl rfl (Nat.le_of_ble_eq_true rfl) rfl rfl (fun a g0 hst hb => ?_)
 refine r_s (T := [⟨[], _, [], [], [2]⟩]) (F := [.old 0]) hst hb Zb
   (o_p rfl (Zc rfl rfl c_b) <| o_n) (by kernel_rfl) (fun a g hst hb => ?_)
 obtain ⟨r1, h2, H0⟩ := Zh H0
 refine r_s (T := [⟨[.old 0], _, [], [], [3]⟩, ⟨[.op 0 0], _, [], [0], [4]⟩, ⟨[.old 0], _, [], [], [5]⟩, ⟨[.op 2 0], _, [], [0, 1, 2], [6]⟩, ⟨[.op 3 0], _, [], Lr 4, [7]⟩, ⟨[.op 1 0, .op 4 0], _, [], Lr 5, [8]⟩, ⟨[.op 5 0], _, [], Lr 6, [2]⟩]) (F := [.op 6 0]) hst hb Zb
   (o_p rfl (Za rfl rfl u_0) <| o_p rfl (Zp6 Zum rfl rfl u_0) <| o_p rfl (Za rfl rfl u_0) <| o_p rfl (Zq Zm4 (Zgg _ h2) rfl rfl (.cons u_0 .nil)) <| o_p rfl (Zp6 Zum rfl rfl u_0) <| o_p rfl (Zby rfl rfl u_0 u_1) <| o_p rfl (Zc rfl rfl u_0) <| o_n) (by kernel_rfl) (fun a g hst hb => ?_)
 refine wp_ret ?_
 obtain rfl := Option.some.inj H0
 exact Z3 rfl hst hb (Zl (s := 2)) (hst.at 0 rfl)
theorem Zm8 (a0 : Nat) (a1 : Nat) {r : Bool} (h : Zkh a0 a1 = some r) : FnOk Tryd.prog 84 [(pFlt a0), (pFlt a1)] (Zbc r) := by
 have H0 := h
 unfold Zkh at H0
 clear h
 refine Zbs (N := 10) Tryd.func84 rfl rfl (Nat.le_of_ble_eq_true rfl) rfl rfl (fun a g0 hst hb => ?_)
 refine r_s (T := [⟨[], _, [], [], [4]⟩]) (F := [.old 0, .old 1]) hst hb Zb
   (o_p rfl (Zc rfl rfl c_b) <| o_n) (by kernel_rfl) (fun a g hst hb => ?_)
 obtain ⟨r1, h2, H0⟩ := Zh H0; obtain ⟨r3, h4, H0⟩ := Zh H0
 refine r_s (T := [⟨[.old 0], _, [], [], [5]⟩, ⟨[.op 0 0], _, [], [0], [6]⟩, ⟨[.old 1], _, [], [], [7]⟩, ⟨[.op 2 0], _, [], [0, 1, 2], [8]⟩, ⟨[.op 1 0, .op 3 0], _, [], Lr 4, [9]⟩, ⟨[.op 4 0], _, [], Lr 5, [4]⟩]) (F := [.op 5 0]) hst hb Zb
   (o_p rfl (Za rfl rfl u_0) <| o_p rfl (Zq Zun (Zl3 _ h2) rfl rfl (.cons u_0 .nil)) <| o_p rfl (Za rfl rfl u_0) <| o_p rfl (Zq Zun (Zl3 _ h4) rfl rfl (.cons u_0 .nil)) <| o_p rfl (Zc1 rfl rfl u_0 u_1) <| o_p rfl (Zc rfl rfl u_0) <| o_n) (by kernel_rfl) (fun a g hst hb => ?_)
 refine wp_ret ?_
 obtain rfl := Option.some.inj H0
 exact Z3 rfl hst hb (Zl (s := 4)) (hst.at 0 rfl)
theorem Zlw (a0 : Zj) (a1 : Zj) {r : Bool} (h : Zip a0 a1 = some r) : FnOk Tryd.prog 57 [(Zt.pd a0), (Zt.pd a1)] (Zbc r) := by
 have H0 := h
 unfold Zip at H0
 clear h
 refine Zbs (N := 21) Tryd.func57 rfl rfl (Nat.le_of_ble_eq_true rfl) rfl rfl (fun a g0 hst hb => ?_)
 refine r_s (T := [⟨[.old 0], _, [], [], [2]⟩, ⟨[.old 1], _, [], [], [3]⟩, ⟨[], _, [], [], [4]⟩]) (F := [.op 0 0, .op 1 0]) hst hb Zb
   (o_p rfl (Zbl rfl rfl u_0) <| o_p rfl (Zbl rfl rfl u_0) <| o_p rfl (Zc rfl rfl c_b) <| o_n) (by kernel_rfl) (fun a g hst hb => ?_)
 refine wp_seq ?_
 obtain ⟨r1, h2, H0⟩ := Zh H0
 refine r_s (T := [⟨[.old 0], _, [], [], [5]⟩, ⟨[.op 0 0], _, [], [0], [6]⟩, ⟨[.old 1], _, [], [], [7]⟩, ⟨[.op 2 0], _, [], [2], [8]⟩, ⟨[.op 1 0, .op 3 0], _, [], Lr 4, [9]⟩, ⟨[.op 4 0], _, [], Lr 5, [10]⟩]) (F := [.old 0, .old 1, .op 5 0]) hst hb Zb
   (o_p rfl (Ze Zgl rfl rfl u_0) <| o_p rfl (Zf Ze1 rfl rfl u_0) <| o_p rfl (Ze Zgl rfl rfl u_0) <| o_p rfl (Zf Ze1 rfl rfl u_0) <| o_p rfl (Zq Zp3 (Zi1 _ _ h2) rfl rfl (.cons u_0 (.cons u_1 .nil))) <| o_p rfl (Zcs rfl rfl u_0) <| o_n) (by kernel_rfl) (fun a g hst hb => ?_)
 refine wp_cond_split (hst.bool 2 rfl) (fun hc3 => ?_) (fun hc3 => ?_)
 · replace H0 := Zz hc3 H0
   obtain ⟨r4, h5, H0⟩ := Zh H0
   refine r_s (L := [(2, _), (3, _)]) (T := [⟨[.old 1], _, [], [], [11]⟩, ⟨[.op 0 0], _, [], [0], [12]⟩, ⟨[.old 0], _, [], [], [13]⟩, ⟨[.op 2 0], _, [], [2], [14]⟩, ⟨[.op 1 0, .op 3 0], _, [], Lr 4, [15]⟩, ⟨[.op 4 0], _, [], Lr 5, [4]⟩]) (F := [.op 5 0]) (hst.pick [0, 1] rfl) hb Zb
     (o_p rfl (Ze Zgl rfl rfl u_0) <| o_p rfl (Zf Ze1 rfl rfl u_0) <| o_p rfl (Ze Zgl rfl rfl u_0) <| o_p rfl (Zf Ze1 rfl rfl u_0) <| o_p rfl (Zq Zze (Zm8 _ _ h5) rfl rfl (.cons u_0 (.cons u_1 .nil))) <| o_p rfl (Zc rfl rfl u_0) <| o_n) (by kernel_rfl) (fun a g hst hb => ?_)
   refine wp_ret ?_
   refine Zr ?_
   obtain rfl := Option.some.inj H0
   exact Z3 rfl hst hb (Zl (s := 4)) (hst.at 0 rfl)
 · replace H0 := Z0 hc3 H0
   refine wp_skip ?_
   refine Zu ?_
   refine r_s (L := [(2, _), (3, _)]) (T := [⟨[.old 0], _, [], [], [16]⟩, ⟨[.op 0 0], _, [], [0], [17]⟩, ⟨[.old 1], _, [], [], [18]⟩, ⟨[.op 2 0], _, [], [2], [19]⟩, ⟨[.op 1 0, .op 3 0], _, [], Lr 4, [20]⟩, ⟨[.op 4 0], _, [], Lr 5, [4]⟩]) (F := [.op 5 0]) (hst.pick [0, 1] rfl) hb Zb
     (o_p rfl (Ze Zf4 rfl rfl u_0) <| o_p rfl (Zf ty_9 rfl rfl u_0) <| o_p rfl (Ze Zf4 rfl rfl u_0) <| o_p rfl (Zf ty_9 rfl rfl u_0) <| o_p rfl (Zll rfl rfl u_0 u_1) <| o_p rfl (Zc rfl rfl u_0) <| o_n) (by kernel_rfl) (fun a g hst hb => ?_)
   refine wp_ret ?_
   obtain rfl := Option.some.inj H0
   exact Z3 rfl hst hb (Zl (s := 4)) (hst.at 0 rfl)
theorem Zv6 (a0 : Int) (a1 : List Zj) {r : Int} (h : Zlm a0 a1 = some r) : FnOk Tryd.prog 39 [(pInt .i64 a0), (Zt.sl.pd a1)] (pInt .i64 r) := by
 have H0 := h
 unfold Zlm at H0
 clear h
 refine Zbs (N := 70) Tryd.func39 rfl rfl (Nat.le_of_ble_eq_true rfl) rfl rfl (fun a g0 hst hb => ?_)
 refine r_s (T := [⟨[], _, [], [], [4]⟩]) (F := [.old 0, .old 1]) hst hb Zb
   (o_p rfl (Zc rfl rfl c_i) <| o_n) (by kernel_rfl) (fun a g hst hb => ?_)
 refine wp_seq ?_
 refine r_s (T := [⟨[.old 1], _, [], [], [7]⟩, ⟨[.op 0 0], _, [], [0], [8]⟩, ⟨[], _, [], [], [9]⟩]) (F := [.old 0, .old 1, .op 0 0, .op 1 0, .op 2 0]) hst hb Zb
   (o_p rfl (Za rfl rfl u_0) <| o_p rfl (Zcj Tryd.underlying52 rfl rfl u_0) <| o_p rfl (Za rfl rfl c_i) <| o_n) (by kernel_rfl) (fun a g hst hb => ?_)
 obtain ⟨z19, hz1, H0⟩ := Zh H0
 refine Zc2 (fun a w => ∃ (g : G), w = g.w ∧ St 70 [] a g ∧ Base g0 g ∧ (.inr ()) = z19) ?_ ?_
 · rintro a w ⟨g, rfl, hst, hb, rfl⟩
   refine Zu ?_
   refine r_s (T := [⟨[], _, [], [], [4]⟩]) (F := [.op 0 0]) hst hb Zb
     (o_p rfl (Zc rfl rfl c_i) <| o_n) (by kernel_rfl) (fun a g hst hb => ?_)
   refine wp_ret ?_
   obtain rfl := Option.some.inj H0
   exact Z3 rfl hst hb (Zl (s := 4)) (hst.at 0 rfl)
 · refine wp_block ?_
   refine wp_loop_ghost (fun n a w => ∃ (x1 : Int) (g : G), w = g.w ∧ St 70 [(0, (pInt .i64 a0)), (1, (Zt.sl.pd a1)), (7, (Zt.sl.pd a1)), (8, (pInt .i64 (a1.length : Int))), (9, (pInt .i64 x1))] a g ∧ Base g0 g ∧ Ze5 a0 a1 n x1 = some z19) (Int.toNat ((a1.length : Int) - (0 : Int)) + 1) ⟨(0 : Int), g, rfl, (hst.pick [0, 1, 2, 3, 4] rfl), hb, hz1⟩ (fun n a w hI => ?_)
   obtain ⟨x1, g, rfl, hst, hb, H1⟩ := hI
   cases n with
   | zero => exact absurd H1 (by simp [Ze5])
   | succ n =>
     rw [Ze5] at H1
     refine r_s (T := [⟨[.old 4, .old 3], _, [], [], [10]⟩]) (F := [.old 0, .old 1, .old 2, .old 3, .old 4, .op 0 0]) hst hb Zb
       (o_p rfl (Zc1 rfl rfl u_0 u_1) <| o_n) (by kernel_rfl) (fun a g hst hb => ?_)
     refine wp_seq ?_
     refine wp_cond_split (hst.bool 5 rfl) (fun hc2 => ?_) (fun hc2 => ?_)
     · replace H1 := Zz hc2 H1
       refine wp_skip ?_
       refine Zu ?_
       refine wp_seq ?_
       refine wp_block ?_
       obtain ⟨e3, h4, H1⟩ := Zh H1
       refine r_s (L := [(0, _), (1, _), (7, _), (8, _), (9, _)]) (T := [⟨[.old 4], _, [], [], [11]⟩, ⟨[.old 2, .old 4], _, [], [], [12]⟩, ⟨[.op 1 0], _, [], [1], [13]⟩, ⟨[], [(6, (pBox Zt 6 (default : Zj)))], [7], [], [6]⟩, ⟨[.op 0 0], _, [], Lr 4, [5]⟩, ⟨[.op 2 0, .op 3 0], _, [7], Lr 5, [6]⟩]) (F := [.old 0, .old 1, .op 4 0, .op 5 0, .old 2, .old 3, .old 4]) (hst.pick [0, 1, 2, 3, 4] rfl) hb Zb
         (o_p rfl (Za rfl rfl u_0) <| o_p rfl (Zb4 Tryd.underlying52 Zi5 rfl rfl u_0 u_1 h4) <| o_p rfl (Zf Zff rfl rfl u_0) <| o_p rfl (Zbi (zs := [.float .f64 0, .string ByteArray.empty]) (by kernel_rfl) (fun g => Zi2 g) rfl rfl) <| o_p rfl (Zc rfl rfl u_0) <| o_p rfl (Zb9 Zff rfl rfl u_1 u_0) <| o_n) (by kernel_rfl) (fun a g hst hb => ?_)
       refine wp_block ?_
       refine r_s (T := [⟨[.old 3], _, [], [], [15]⟩, ⟨[.op 0 0], _, [], [0], [16]⟩, ⟨[.op 1 0], _, [], [0, 1], [17]⟩, ⟨[.op 2 0], _, [], [0, 1, 2], [18]⟩, ⟨[.op 3 0], _, [], Lr 4, [14]⟩]) (F := [.old 0, .old 1, .old 2, .old 3, .old 4, .old 5, .old 6, .op 4 0]) hst hb Zb
         (o_p rfl (Ze Zf4 rfl rfl u_0) <| o_p rfl (Zf ty_9 rfl rfl u_0) <| o_p rfl (Zfq Tryd.underlying9 rfl rfl u_0) <| o_p rfl (Zc0 rfl rfl u_0 c_i) <| o_p rfl (Zc rfl rfl u_0) <| o_n) (by kernel_rfl) (fun a g hst hb => ?_)
       refine wp_cond_split (hst.bool 7 rfl) (fun hc5 => ?_) (fun hc5 => ?_)
       · replace H1 := Zz hc5 H1
         refine r_s (L := []) (T := [⟨[], _, [], [], [4]⟩]) (F := [.op 0 0]) (hst.pick [] rfl) hb Zb
           (o_p rfl (Zc rfl rfl c_i) <| o_n) (by kernel_rfl) (fun a g hst hb => ?_)
         refine wp_ret ?_
         refine Z1 ?_
         refine Z1 ?_
         refine Zr ?_
         refine Zr ?_
         refine Z1 ?_
         refine Zr ?_
         refine Zr ?_
         obtain rfl := Option.some.inj H1
         obtain rfl := Option.some.inj H0
         exact Z3 rfl hst hb (Zl (s := 4)) (hst.at 0 rfl)
       · replace H1 := Z0 hc5 H1
         obtain ⟨r6, h7, H1⟩ := Zh H1; obtain ⟨r8, h9, H1⟩ := Zh H1
         refine r_s (L := [(0, _), (1, _), (5, _), (6, _), (7, _), (8, _), (9, _)]) (T := ⟨[.old 0], _, [], [], [20]⟩ :: ⟨[.op 0 0], _, [], [0], [21]⟩ :: ⟨[.op 1 0], _, [], [0, 1], [22]⟩ :: ⟨[.op 2 0, .old 3], _, [], [0, 1, 2], [23]⟩ :: ⟨[.op 2 0, .op 3 0], _, [], Lr 4, [24]⟩ :: ⟨[.op 2 0, .op 4 0], _, [], Lr 5, [25]⟩ :: ⟨[.op 2 0, .op 5 0], _, [], Lr 6, [26]⟩ :: ⟨[.op 2 0, .op 6 0], _, [], Lr 7, [27]⟩ :: ⟨[.op 7 0], _, [], Lr 8, [28]⟩ :: ⟨[.op 8 0, .old 3], _, [], Lr 9, [29]⟩ :: ⟨[.op 8 0, .op 9 0], _, [], Lr 10, [30]⟩ :: ⟨[.op 8 0, .op 10 0], _, [], Lr 11, [31]⟩ :: ⟨[.op 8 0, .op 11 0], _, [], Lr 12, [32]⟩ :: ⟨[.op 8 0, .op 12 0], _, [], Lr 13, [33]⟩ :: ⟨[.op 13 0], _, [], Lr 14, [19]⟩ :: []) (F := [.old 0, .old 1, .old 2, .old 3, .old 4, .old 5, .old 6, .op 14 0]) (hst.pick [0, 1, 2, 3, 4, 5, 6] rfl) hb Zb
           (o_p rfl (Za rfl rfl u_0) <| o_p rfl (Zby rfl rfl u_0 c_i) <| o_p rfl (Za rfl rfl u_0) <| o_g (g_t rfl rfl rfl (fun hG => Ze Zgl rfl rfl u_0)) <| o_g (g_t rfl rfl rfl (fun hG => Zf Ze1 rfl rfl (Opd.gd hG u_0))) <| o_g (g_t rfl rfl rfl (fun hG => Zq Zp3 (Zi1 _ _ (Zbv h7 hG)) rfl rfl (.cons (Opd.gd hG u_0) (.cons c_f .nil)))) <| o_g (g_t rfl rfl rfl (fun hG => Zcs rfl rfl (Opd.gd hG u_0))) <| o_p rfl (Zbp rfl rfl u_0 (fun hz => (Opd.gd hz u_1))) <| o_p rfl (Za rfl rfl u_0) <| o_g (g_f rfl rfl rfl (fun hG => Ze Zgl rfl rfl u_0)) <| o_g (g_f rfl rfl rfl (fun hG => Zf Ze1 rfl rfl (Opd.gd hG u_0))) <| o_g (g_f rfl rfl rfl (fun hG => Zq Zyk (Zly _ (Zbv h9 hG)) rfl rfl (.cons (Opd.gd hG u_0) .nil))) <| o_g (g_f rfl rfl rfl (fun hG => Zcs rfl rfl (Opd.gd hG u_0))) <| o_p rfl (Zbx rfl rfl u_0 (fun hz => (Opd.gd (bNF hz) u_1))) <| o_p rfl (Zc rfl rfl u_0) <| o_n) (by kernel_rfl) (fun a g hst hb => ?_)
         refine wp_cond_split (hst.bool 7 rfl) (fun hc10 => ?_) (fun hc10 => ?_)
         · replace H1 := Zz hc10 H1
           refine r_s (L := []) (T := [⟨[], _, [], [], [4]⟩]) (F := [.op 0 0]) (hst.pick [] rfl) hb Zb
             (o_p rfl (Zc rfl rfl c_i) <| o_n) (by kernel_rfl) (fun a g hst hb => ?_)
           refine wp_ret ?_
           refine Z1 ?_
           refine Z1 ?_
           refine Zr ?_
           refine Zr ?_
           refine Z1 ?_
           refine Zr ?_
           refine Zr ?_
           obtain rfl := Option.some.inj H1
           obtain rfl := Option.some.inj H0
           exact Z3 rfl hst hb (Zl (s := 4)) (hst.at 0 rfl)
         · replace H1 := Z0 hc10 H1
           obtain ⟨e11, h12, H1⟩ := Zh H1
           refine r_s (L := [(0, _), (1, _), (5, _), (6, _), (7, _), (8, _), (9, _)]) (T := ⟨[.old 2], _, [], [], [35]⟩ :: ⟨[.op 0 0], _, [], [0], [36]⟩ :: ⟨[.op 1 0], _, [], [0, 1], [37]⟩ :: ⟨[.op 2 0, .old 0], _, [], [0, 1, 2], [38]⟩ :: ⟨[.op 2 0, .op 3 0], _, [], Lr 4, [39]⟩ :: ⟨[.op 2 0, .op 4 0], _, [], Lr 5, [40]⟩ :: ⟨[.op 5 0], _, [], Lr 6, [41]⟩ :: ⟨[.op 6 0, .old 1], _, [], Lr 7, [42]⟩ :: ⟨[.op 6 0, .old 2], _, [], Lr 7, [43]⟩ :: ⟨[.op 6 0, .op 8 0], _, [], [0, 1, 2, 3, 4, 5, 6, 8], [44]⟩ :: ⟨[.op 6 0, .op 7 0, .op 9 0], _, [], Lr 10, [45]⟩ :: ⟨[.op 6 0, .op 10 0], _, [], Lr 11, [46]⟩ :: ⟨[.op 6 0, .op 11 0], _, [], Lr 12, [47]⟩ :: ⟨[.op 6 0, .old 3], _, [], Lr 7, [48]⟩ :: ⟨[.op 6 0, .op 13 0], _, [], [0, 1, 2, 3, 4, 5, 6, 13], [49]⟩ :: ⟨[.op 6 0, .op 12 0, .op 14 0], _, [], Lr 15, [50]⟩ :: ⟨[.op 6 0, .op 15 0], _, [], Lr 16, [51]⟩ :: ⟨[.op 16 0], _, [], Lr 17, [34]⟩ :: []) (F := [.old 0, .old 1, .old 2, .old 3, .old 4, .old 5, .old 6, .op 17 0]) (hst.pick [0, 1, 2, 3, 4, 5, 6] rfl) hb Zb
             (o_p rfl (Za rfl rfl u_0) <| o_p rfl (Zc0 rfl rfl u_0 c_i) <| o_p rfl (Za rfl rfl u_0) <| o_g (g_t rfl rfl rfl (fun hG => Za rfl rfl u_0)) <| o_g (g_t rfl rfl rfl (fun hG => Zby rfl rfl (Opd.gd hG u_0) c_i)) <| o_p rfl (Zbp rfl rfl u_0 (fun hz => (Opd.gd hz u_1))) <| o_p rfl (Za rfl rfl u_0) <| o_g (g_t rfl rfl rfl (fun hG => Za rfl rfl u_0)) <| o_g (g_t rfl rfl rfl (fun hG => Za rfl rfl u_0)) <| o_g (g_t rfl rfl rfl (fun hG => Zja rfl rfl (Opd.gd hG u_0) c_i rfl)) <| o_g (g_t rfl rfl rfl (fun hG => Zb4 Tryd.underlying52 Zi5 rfl rfl (Opd.gd hG u_0) (Opd.gd hG u_1) (Zbv h12 hG))) <| o_g (g_t rfl rfl rfl (fun hG => Ze Zf4 rfl rfl (Opd.gd hG u_0))) <| o_g (g_t rfl rfl rfl (fun hG => Zf ty_9 rfl rfl (Opd.gd hG u_0))) <| o_g (g_t rfl rfl rfl (fun hG => Ze Zf4 rfl rfl u_0)) <| o_g (g_t rfl rfl rfl (fun hG => Zf ty_9 rfl rfl (Opd.gd hG u_0))) <| o_g (g_t rfl rfl rfl (fun hG => Z5a rfl rfl (Opd.gd hG u_0) (Opd.gd hG u_1))) <| o_p rfl (Zbp rfl rfl u_0 (fun hz => (Opd.gd hz u_1))) <| o_p rfl (Zc rfl rfl u_0) <| o_n) (by kernel_rfl) (fun a g hst hb => ?_)
           refine wp_cond_split (hst.bool 7 rfl) (fun hc13 => ?_) (fun hc13 => ?_)
           · replace H1 := Zz hc13 H1
             refine r_s (L := []) (T := [⟨[], _, [], [], [4]⟩]) (F := [.op 0 0]) (hst.pick [] rfl) hb Zb
               (o_p rfl (Zc rfl rfl c_i) <| o_n) (by kernel_rfl) (fun a g hst hb => ?_)
             refine wp_ret ?_
             refine Z1 ?_
             refine Z1 ?_
             refine Zr ?_
             refine Zr ?_
             refine Z1 ?_
             refine Zr ?_
             refine Zr ?_
             obtain rfl := Option.some.inj H1
             obtain rfl := Option.some.inj H0
             exact Z3 rfl hst hb (Zl (s := 4)) (hst.at 0 rfl)
           · replace H1 := Z0 hc13 H1
             obtain ⟨e14, h15, H1⟩ := Zh H1; obtain ⟨r16, h17, H1⟩ := Zh H1
             refine r_s (L := [(0, _), (1, _), (5, _), (6, _), (7, _), (8, _), (9, _)]) (T := ⟨[.old 2], _, [], [], [53]⟩ :: ⟨[.op 0 0], _, [], [0], [54]⟩ :: ⟨[.op 1 0], _, [], [0, 1], [55]⟩ :: ⟨[.op 2 0, .old 0], _, [], [0, 1, 2], [56]⟩ :: ⟨[.op 2 0, .op 3 0], _, [], Lr 4, [57]⟩ :: ⟨[.op 2 0, .op 4 0], _, [], Lr 5, [58]⟩ :: ⟨[.op 5 0], _, [], Lr 6, [59]⟩ :: ⟨[.op 6 0, .old 1], _, [], Lr 7, [60]⟩ :: ⟨[.op 6 0, .old 2], _, [], Lr 7, [61]⟩ :: ⟨[.op 6 0, .op 8 0], _, [], [0, 1, 2, 3, 4, 5, 6, 8], [62]⟩ :: ⟨[.op 6 0, .op 7 0, .op 9 0], _, [], Lr 10, [63]⟩ :: ⟨[.op 6 0, .op 10 0], _, [], Lr 11, [64]⟩ :: ⟨[.op 6 0, .old 3], _, [], Lr 7, [65]⟩ :: ⟨[.op 6 0, .op 11 0, .op 12 0], _, [], Lr 13, [66]⟩ :: ⟨[.op 6 0, .op 13 0], _, [], Lr 14, [67]⟩ :: ⟨[.op 6 0, .op 14 0], _, [], Lr 15, [68]⟩ :: ⟨[.op 15 0], _, [], Lr 16, [52]⟩ :: []) (F := [.old 0, .old 1, .old 4, .old 5, .old 6, .op 16 0]) (hst.pick [0, 1, 2, 3, 4, 5, 6] rfl) hb Zb
               (o_p rfl (Za rfl rfl u_0) <| o_p rfl (Zc0 rfl rfl u_0 c_i) <| o_p rfl (Za rfl rfl u_0) <| o_g (g_t rfl rfl rfl (fun hG => Za rfl rfl u_0)) <| o_g (g_t rfl rfl rfl (fun hG => Zby rfl rfl (Opd.gd hG u_0) c_i)) <| o_p rfl (Zbp rfl rfl u_0 (fun hz => (Opd.gd hz u_1))) <| o_p rfl (Za rfl rfl u_0) <| o_g (g_t rfl rfl rfl (fun hG => Za rfl rfl u_0)) <| o_g (g_t rfl rfl rfl (fun hG => Za rfl rfl u_0)) <| o_g (g_t rfl rfl rfl (fun hG => Zja rfl rfl (Opd.gd hG u_0) c_i rfl)) <| o_g (g_t rfl rfl rfl (fun hG => Zb4 Tryd.underlying52 Zi5 rfl rfl (Opd.gd hG u_0) (Opd.gd hG u_1) (Zbv h15 hG))) <| o_g (g_t rfl rfl rfl (fun hG => Zf Zff rfl rfl (Opd.gd hG u_0))) <| o_g (g_t rfl rfl rfl (fun hG => Zf Zff rfl rfl u_0)) <| o_g (g_t rfl rfl rfl (fun hG => Zq Zyn (Zlw _ _ (Zbv h17 hG)) rfl rfl (.cons (Opd.gd hG u_0) (.cons (Opd.gd hG u_1) .nil)))) <| o_g (g_t rfl rfl rfl (fun hG => Zcs rfl rfl (Opd.gd hG u_0))) <| o_p rfl (Zbp rfl rfl u_0 (fun hz => (Opd.gd hz u_1))) <| o_p rfl (Zc rfl rfl u_0) <| o_n) (by kernel_rfl) (fun a g hst hb => ?_)
             refine wp_cond_split (hst.bool 5 rfl) (fun hc18 => ?_) (fun hc18 => ?_)
             · replace H1 := Zz hc18 H1
               refine r_s (L := []) (T := [⟨[], _, [], [], [4]⟩]) (F := [.op 0 0]) (hst.pick [] rfl) hb Zb
                 (o_p rfl (Zc rfl rfl c_i) <| o_n) (by kernel_rfl) (fun a g hst hb => ?_)
               refine wp_ret ?_
               refine Z1 ?_
               refine Z1 ?_
               refine Zr ?_
               refine Zr ?_
               refine Z1 ?_
               refine Zr ?_
               refine Zr ?_
               obtain rfl := Option.some.inj H1
               obtain rfl := Option.some.inj H0
               exact Z3 rfl hst hb (Zl (s := 4)) (hst.at 0 rfl)
             · replace H1 := Z0 hc18 H1
               refine wp_skip ?_
               refine Zbr ?_
               refine Zbr ?_
               refine Zu ?_
               refine r_g (L := [(0, _), (1, _), (7, _), (8, _), (9, _)]) (T := [⟨[.old 4], _, [], [], [69]⟩, ⟨[.op 0 0], _, [], [0], [9]⟩]) (F := [.old 0, .old 1, .old 2, .old 3, .op 1 0]) (hst.pick [0, 1, 2, 3, 4] rfl) hb Zb
                 (o_p rfl (Zb8 rfl rfl u_0 c_i rfl) <| o_p rfl (Za rfl rfl u_0) <| o_n) (by kernel_rfl) (fun a g hst hb => ?_)
               exact ⟨n, Nat.lt_succ_self _, (IntKind.i64.wrap (x1 + (1 : Int))), g, rfl, (hst.pick [0, 1, 2, 3, 4] rfl), hb, H1⟩
     · replace H1 := Z0 hc2 H1
       refine wp_exit ?_
       refine Zce ?_
       refine Zce ?_
       refine Zdc ?_
       exact ⟨g, rfl, (hst.pick [] rfl), hb, Option.some.inj H1⟩
theorem Zl9 (a0 : Zd) {r : Int} (h : Zdq a0 = some r) : FnOk Tryd.prog 23 [(Zi.pd a0)] (pInt .i64 r) := by
 have H0 := h
 unfold Zdq at H0
 clear h
 refine Zbs (N := 83) Tryd.func23 rfl rfl (Nat.le_of_ble_eq_true rfl) rfl rfl (fun a g0 hst hb => ?_)
 refine r_s (T := [⟨[.old 0], _, [], [], [1]⟩, ⟨[], _, [], [], [2]⟩]) (F := [.op 0 0]) hst hb Zb
   (o_p rfl (Zbl rfl rfl u_0) <| o_p rfl (Zc rfl rfl c_i) <| o_n) (by kernel_rfl) (fun a g hst hb => ?_)
 obtain ⟨r1, h2, H0⟩ := Zh H0
 refine r_s (T := [⟨[.old 0], _, [], [], [4]⟩, ⟨[.op 0 0], _, [], [0], [5]⟩, ⟨[.op 1 0], _, [], [0, 1], [6]⟩, ⟨[], [(3, (pBox Zcl 3 (default : Zbw)))], [4], [], [3]⟩, ⟨[.op 2 0, .op 3 0], _, [4], Lr 4, [3]⟩]) (F := [.old 0, .op 4 0]) hst hb Zb
   (o_p rfl (Ze Zfr rfl rfl u_0) <| o_p rfl (Zf ty_3 rfl rfl u_0) <| o_p rfl (Zq Z62 (Zuj _ h2) rfl rfl (.cons u_0 .nil)) <| o_p rfl (Zbi (zs := [.bool false, .bool false, .bool false, .bool false, .bool false]) (by kernel_rfl) (fun g => Zpp g) rfl rfl) <| o_p rfl (Zb9 Zi6 rfl rfl u_1 u_0) <| o_n) (by kernel_rfl) (fun a g hst hb => ?_)
 refine wp_seq ?_
 refine wp_block ?_
 refine r_s (T := [⟨[.old 0], _, [], [], [8]⟩, ⟨[.op 0 0], _, [], [0], [9]⟩, ⟨[.op 1 0], _, [], [0, 1], [10]⟩, ⟨[.op 2 0], _, [], [0, 1, 2], [11]⟩, ⟨[.op 3 0, .old 0], _, [], Lr 4, [12]⟩, ⟨[.op 3 0, .op 4 0], _, [], Lr 5, [13]⟩, ⟨[.op 3 0, .op 5 0], _, [], Lr 6, [14]⟩, ⟨[.op 3 0, .op 6 0], _, [], Lr 7, [15]⟩, ⟨[.op 7 0], _, [], Lr 8, [7]⟩]) (F := [.old 0, .old 1, .op 8 0]) hst hb Zb
   (o_p rfl (Ze Zfr rfl rfl u_0) <| o_p rfl (Zf ty_3 rfl rfl u_0) <| o_p rfl (Z2x rfl rfl u_0 c_i) <| o_p rfl (Za rfl rfl u_0) <| o_g (g_f rfl rfl rfl (fun hG => Ze Zfr rfl rfl u_0)) <| o_g (g_f rfl rfl rfl (fun hG => Zf ty_3 rfl rfl (Opd.gd hG u_0))) <| o_g (g_f rfl rfl rfl (fun hG => Zrr rfl rfl (Opd.gd hG u_0) c_i)) <| o_p rfl (Zbx rfl rfl u_0 (fun hz => (Opd.gd (bNF hz) u_1))) <| o_p rfl (Zc rfl rfl u_0) <| o_n) (by kernel_rfl) (fun a g hst hb => ?_)
 refine wp_cond_split (hst.bool 2 rfl) (fun hc3 => ?_) (fun hc3 => ?_)
 · replace H0 := Zz hc3 H0
   refine r_s (L := []) (T := [⟨[], _, [], [], [2]⟩]) (F := [.op 0 0]) (hst.pick [] rfl) hb Zb
     (o_p rfl (Zc rfl rfl c_i) <| o_n) (by kernel_rfl) (fun a g hst hb => ?_)
   refine wp_ret ?_
   refine Z1 ?_
   refine Zr ?_
   obtain rfl := Option.some.inj H0
   exact Z3 rfl hst hb (Zl (s := 2)) (hst.at 0 rfl)
 · replace H0 := Z0 hc3 H0
   obtain ⟨r4, h5, H0⟩ := Zh H0
   refine r_s (L := [(1, _), (3, _)]) (T := [⟨[.old 0], _, [], [], [17]⟩, ⟨[.old 1], _, [], [], [18]⟩, ⟨[.op 0 0, .op 1 0], _, [], [0, 1], [19]⟩, ⟨[.op 2 0], _, [], [0, 1, 2], [20]⟩, ⟨[.op 3 0], _, [], Lr 4, [16]⟩]) (F := [.old 0, .old 1, .op 4 0]) (hst.pick [0, 1] rfl) hb Zb
     (o_p rfl (Zf Zbf rfl rfl u_0) <| o_p rfl (Zf Zi6 rfl rfl u_0) <| o_p rfl (Zq Z65 (Zwt _ _ h5) rfl rfl (.cons u_0 (.cons u_1 .nil))) <| o_p rfl (Zcs rfl rfl u_0) <| o_p rfl (Zc rfl rfl u_0) <| o_n) (by kernel_rfl) (fun a g hst hb => ?_)
   refine wp_cond_split (hst.bool 2 rfl) (fun hc6 => ?_) (fun hc6 => ?_)
   · replace H0 := Zz hc6 H0
     refine r_s (L := []) (T := [⟨[], _, [], [], [2]⟩]) (F := [.op 0 0]) (hst.pick [] rfl) hb Zb
       (o_p rfl (Zc rfl rfl c_i) <| o_n) (by kernel_rfl) (fun a g hst hb => ?_)
     refine wp_ret ?_
     refine Z1 ?_
     refine Zr ?_
     obtain rfl := Option.some.inj H0
     exact Z3 rfl hst hb (Zl (s := 2)) (hst.at 0 rfl)
   · replace H0 := Z0 hc6 H0
     refine r_s (L := [(1, _), (3, _)]) (T := [⟨[.old 0], _, [], [], [22]⟩, ⟨[.op 0 0], _, [], [0], [23]⟩, ⟨[.op 1 0], _, [], [0, 1], [24]⟩, ⟨[.op 2 0], _, [], [0, 1, 2], [25]⟩, ⟨[.op 3 0], _, [], Lr 4, [21]⟩]) (F := [.old 0, .old 1, .op 4 0]) (hst.pick [0, 1] rfl) hb Zb
       (o_p rfl (Ze Zjl rfl rfl u_0) <| o_p rfl (Zf ty_9 rfl rfl u_0) <| o_p rfl (Zfq Tryd.underlying9 rfl rfl u_0) <| o_p rfl (Zc0 rfl rfl u_0 c_i) <| o_p rfl (Zc rfl rfl u_0) <| o_n) (by kernel_rfl) (fun a g hst hb => ?_)
     refine wp_cond_split (hst.bool 2 rfl) (fun hc7 => ?_) (fun hc7 => ?_)
     · replace H0 := Zz hc7 H0
       refine r_s (L := []) (T := [⟨[], _, [], [], [2]⟩]) (F := [.op 0 0]) (hst.pick [] rfl) hb Zb
         (o_p rfl (Zc rfl rfl c_i) <| o_n) (by kernel_rfl) (fun a g hst hb => ?_)
       refine wp_ret ?_
       refine Z1 ?_
       refine Zr ?_
       obtain rfl := Option.some.inj H0
       exact Z3 rfl hst hb (Zl (s := 2)) (hst.at 0 rfl)
     · replace H0 := Z0 hc7 H0
       refine r_s (L := [(1, _), (3, _)]) (T := ⟨[.old 1], _, [], [], [27]⟩ :: ⟨[.op 0 0], _, [], [0], [28]⟩ :: ⟨[.op 1 0], _, [], [0, 1], [29]⟩ :: ⟨[.op 2 0, .old 0], _, [], [0, 1, 2], [30]⟩ :: ⟨[.op 2 0, .op 3 0], _, [], Lr 4, [31]⟩ :: ⟨[.op 2 0, .op 4 0], _, [], Lr 5, [32]⟩ :: ⟨[.op 2 0, .op 5 0], _, [], Lr 6, [33]⟩ :: ⟨[.op 6 0, .old 0], _, [], Lr 7, [34]⟩ :: ⟨[.op 6 0, .op 7 0], _, [], Lr 8, [35]⟩ :: ⟨[.op 6 0, .op 8 0], _, [], Lr 9, [36]⟩ :: ⟨[.op 2 0, .op 6 0, .op 9 0], _, [], Lr 10, [37]⟩ :: ⟨[.op 2 0, .op 10 0], _, [], Lr 11, [38]⟩ :: ⟨[.op 11 0, .old 0], _, [], Lr 12, [39]⟩ :: ⟨[.op 11 0, .op 12 0], _, [], Lr 13, [40]⟩ :: ⟨[.op 11 0, .old 0], _, [], Lr 12, [41]⟩ :: ⟨[.op 11 0, .op 14 0], _, [], 0 :: 1 :: 2 :: 3 :: 4 :: 5 :: 6 :: 7 :: 8 :: 9 :: 10 :: 11 :: 14 :: [], [42]⟩ :: ⟨[.op 11 0, .op 13 0, .op 15 0], _, [], Lr 16, [43]⟩ :: ⟨[.op 2 0, .op 11 0, .op 16 0], _, [], Lr 17, [44]⟩ :: ⟨[.op 2 0, .op 17 0], _, [], Lr 18, [45]⟩ :: ⟨[.op 18 0, .old 0], _, [], Lr 19, [46]⟩ :: ⟨[.op 18 0, .op 19 0], _, [], Lr 20, [47]⟩ :: ⟨[.op 18 0, .old 0], _, [], Lr 19, [48]⟩ :: ⟨[.op 18 0, .op 21 0], _, [], 0 :: 1 :: 2 :: 3 :: 4 :: 5 :: 6 :: 7 :: 8 :: 9 :: 10 :: 11 :: 12 :: 13 :: 14 :: 15 :: 16 :: 17 :: 18 :: 21 :: [], [49]⟩ :: ⟨[.op 18 0, .op 20 0, .op 22 0], _, [], Lr 23, [50]⟩ :: ⟨[.op 2 0, .op 18 0, .op 23 0], _, [], Lr 24, [51]⟩ :: ⟨[.op 2 0, .op 24 0], _, [], Lr 25, [52]⟩ :: ⟨[.op 25 0], _, [], Lr 26, [26]⟩ :: []) (F := [.old 0, .old 1, .op 26 0]) (hst.pick [0, 1] rfl) hb Zb
         (o_p rfl (Ze Zx2 rfl rfl u_0) <| o_p rfl (Zf ty_4 rfl rfl u_0) <| o_p rfl (Za rfl rfl u_0) <| o_g (g_t rfl rfl rfl (fun hG => Ze Zjm rfl rfl u_0)) <| o_g (g_t rfl rfl rfl (fun hG => Zf ty_2 rfl rfl (Opd.gd hG u_0))) <| o_g (g_t rfl rfl rfl (fun hG => Zc1 rfl rfl (Opd.gd hG u_0) c_i)) <| o_g (g_t rfl rfl rfl (fun hG => Za rfl rfl (Opd.gd hG u_0))) <| o_g (g_fi rfl rfl rfl (fun hG => Ze Zjp rfl rfl u_0)) <| o_g (g_fi rfl rfl rfl (fun hG => Zf ty_2 rfl rfl (Opd.gd hG u_0))) <| o_g (g_fi rfl rfl rfl (fun hG => Zc0 rfl rfl (Opd.gd hG u_0) c_i)) <| o_g (g_t rfl rfl rfl (fun hG => Zbx rfl rfl (Opd.gd hG u_0) (fun hz => (Opd.gd (bA hG (bNF hz)) u_1)))) <| o_g (g_t rfl rfl rfl (fun hG => Za rfl rfl (Opd.gd hG u_0))) <| o_g (g_fi rfl rfl rfl (fun hG => Ze Zd3 rfl rfl u_0)) <| o_g (g_fi rfl rfl rfl (fun hG => Zf ty_2 rfl rfl (Opd.gd hG u_0))) <| o_g (g_fi rfl rfl rfl (fun hG => Ze Zjm rfl rfl u_0)) <| o_g (g_fi rfl rfl rfl (fun hG => Zf ty_2 rfl rfl (Opd.gd hG u_0))) <| o_g (g_fi rfl rfl rfl (fun hG => Zc1 rfl rfl (Opd.gd hG u_0) (Opd.gd hG u_1))) <| o_g (g_t rfl rfl rfl (fun hG => Zbx rfl rfl (Opd.gd hG u_0) (fun hz => (Opd.gd (bA hG (bNF hz)) u_1)))) <| o_g (g_t rfl rfl rfl (fun hG => Za rfl rfl (Opd.gd hG u_0))) <| o_g (g_fi rfl rfl rfl (fun hG => Ze Zd3 rfl rfl u_0)) <| o_g (g_fi rfl rfl rfl (fun hG => Zf ty_2 rfl rfl (Opd.gd hG u_0))) <| o_g (g_fi rfl rfl rfl (fun hG => Ze Zjp rfl rfl u_0)) <| o_g (g_fi rfl rfl rfl (fun hG => Zf ty_2 rfl rfl (Opd.gd hG u_0))) <| o_g (g_fi rfl rfl rfl (fun hG => Zc0 rfl rfl (Opd.gd hG u_0) (Opd.gd hG u_1))) <| o_g (g_t rfl rfl rfl (fun hG => Zbx rfl rfl (Opd.gd hG u_0) (fun hz => (Opd.gd (bA hG (bNF hz)) u_1)))) <| o_p rfl (Zbp rfl rfl u_0 (fun hz => (Opd.gd hz u_1))) <| o_p rfl (Zc rfl rfl u_0) <| o_n) (by kernel_rfl) (fun a g hst hb => ?_)
       refine wp_cond_split (hst.bool 2 rfl) (fun hc8 => ?_) (fun hc8 => ?_)
       · replace H0 := Zz hc8 H0
         refine r_s (L := []) (T := [⟨[], _, [], [], [2]⟩]) (F := [.op 0 0]) (hst.pick [] rfl) hb Zb
           (o_p rfl (Zc rfl rfl c_i) <| o_n) (by kernel_rfl) (fun a g hst hb => ?_)
         refine wp_ret ?_
         refine Z1 ?_
         refine Zr ?_
         obtain rfl := Option.some.inj H0
         exact Z3 rfl hst hb (Zl (s := 2)) (hst.at 0 rfl)
       · replace H0 := Z0 hc8 H0
         obtain ⟨r9, h10, H0⟩ := Zh H0
         refine r_s (L := [(1, _), (3, _)]) (T := [⟨[.old 0], _, [], [], [54]⟩, ⟨[.op 0 0], _, [], [0], [55]⟩, ⟨[.op 1 0], _, [], [0, 1], [56]⟩, ⟨[.op 2 0], _, [], [0, 1, 2], [57]⟩, ⟨[.op 3 0], _, [], Lr 4, [53]⟩]) (F := [.old 0, .old 1, .op 4 0]) (hst.pick [0, 1] rfl) hb Zb
           (o_p rfl (Ze Zkr rfl rfl u_0) <| o_p rfl (Zf Ze1 rfl rfl u_0) <| o_p rfl (Zq Zyk (Zly _ h10) rfl rfl (.cons u_0 .nil)) <| o_p rfl (Zcs rfl rfl u_0) <| o_p rfl (Zc rfl rfl u_0) <| o_n) (by kernel_rfl) (fun a g hst hb => ?_)
         refine wp_cond_split (hst.bool 2 rfl) (fun hc11 => ?_) (fun hc11 => ?_)
         · replace H0 := Zz hc11 H0
           refine r_s (L := []) (T := [⟨[], _, [], [], [2]⟩]) (F := [.op 0 0]) (hst.pick [] rfl) hb Zb
             (o_p rfl (Zc rfl rfl c_i) <| o_n) (by kernel_rfl) (fun a g hst hb => ?_)
           refine wp_ret ?_
           refine Z1 ?_
           refine Zr ?_
           obtain rfl := Option.some.inj H0
           exact Z3 rfl hst hb (Zl (s := 2)) (hst.at 0 rfl)
         · replace H0 := Z0 hc11 H0
           refine r_s (L := [(1, _), (3, _)]) (T := [⟨[.old 1], _, [], [], [59]⟩, ⟨[.op 0 0], _, [], [0], [60]⟩, ⟨[.op 1 0], _, [], [0, 1], [61]⟩, ⟨[.op 2 0], _, [], [0, 1, 2], [58]⟩]) (F := [.old 0, .op 3 0]) (hst.pick [0, 1] rfl) hb Zb
             (o_p rfl (Ze Zx9 rfl rfl u_0) <| o_p rfl (Zf ty_4 rfl rfl u_0) <| o_p rfl (Zcs rfl rfl u_0) <| o_p rfl (Zc rfl rfl u_0) <| o_n) (by kernel_rfl) (fun a g hst hb => ?_)
           refine wp_cond_split (hst.bool 1 rfl) (fun hc12 => ?_) (fun hc12 => ?_)
           · replace H0 := Zz hc12 H0
             refine r_s (L := []) (T := [⟨[], _, [], [], [2]⟩]) (F := [.op 0 0]) (hst.pick [] rfl) hb Zb
               (o_p rfl (Zc rfl rfl c_i) <| o_n) (by kernel_rfl) (fun a g hst hb => ?_)
             refine wp_ret ?_
             refine Z1 ?_
             refine Zr ?_
             obtain rfl := Option.some.inj H0
             exact Z3 rfl hst hb (Zl (s := 2)) (hst.at 0 rfl)
           · replace H0 := Z0 hc12 H0
             refine r_s (L := [(1, _)]) (T := [⟨[.old 0], _, [], [], [63]⟩, ⟨[.op 0 0], _, [], [0], [64]⟩, ⟨[.op 1 0], _, [], [0, 1], [65]⟩, ⟨[.op 2 0], _, [], [0, 1, 2], [66]⟩, ⟨[.op 3 0, .old 0], _, [], Lr 4, [67]⟩, ⟨[.op 3 0, .op 4 0], _, [], Lr 5, [68]⟩, ⟨[.op 3 0, .op 5 0], _, [], Lr 6, [69]⟩, ⟨[.op 3 0, .op 6 0], _, [], Lr 7, [70]⟩, ⟨[.op 7 0], _, [], Lr 8, [62]⟩]) (F := [.old 0, .op 8 0]) (hst.pick [0] rfl) hb Zb
               (o_p rfl (Ze Zhm rfl rfl u_0) <| o_p rfl (Zf ty_3 rfl rfl u_0) <| o_p rfl (Zc1 rfl rfl u_0 c_i) <| o_p rfl (Za rfl rfl u_0) <| o_g (g_f rfl rfl rfl (fun hG => Ze Zhm rfl rfl u_0)) <| o_g (g_f rfl rfl rfl (fun hG => Zf ty_3 rfl rfl (Opd.gd hG u_0))) <| o_g (g_f rfl rfl rfl (fun hG => Zc0 rfl rfl (Opd.gd hG u_0) c_i)) <| o_p rfl (Zbx rfl rfl u_0 (fun hz => (Opd.gd (bNF hz) u_1))) <| o_p rfl (Zc rfl rfl u_0) <| o_n) (by kernel_rfl) (fun a g hst hb => ?_)
             refine wp_cond_split (hst.bool 1 rfl) (fun hc13 => ?_) (fun hc13 => ?_)
             · replace H0 := Zz hc13 H0
               refine r_s (L := []) (T := [⟨[], _, [], [], [2]⟩]) (F := [.op 0 0]) (hst.pick [] rfl) hb Zb
                 (o_p rfl (Zc rfl rfl c_i) <| o_n) (by kernel_rfl) (fun a g hst hb => ?_)
               refine wp_ret ?_
               refine Z1 ?_
               refine Zr ?_
               obtain rfl := Option.some.inj H0
               exact Z3 rfl hst hb (Zl (s := 2)) (hst.at 0 rfl)
             · replace H0 := Z0 hc13 H0
               refine r_s (L := [(1, _)]) (T := [⟨[.old 0], _, [], [], [72]⟩, ⟨[.op 0 0], _, [], [0], [73]⟩, ⟨[.op 1 0], _, [], [0, 1], [74]⟩, ⟨[.old 0], _, [], [], [75]⟩, ⟨[.op 3 0], _, [], [3], [76]⟩, ⟨[.op 2 0, .op 4 0], _, [], Lr 5, [77]⟩, ⟨[.op 5 0], _, [], Lr 6, [71]⟩]) (F := [.old 0, .op 6 0]) (hst.pick [0] rfl) hb Zb
                 (o_p rfl (Ze Zc8 rfl rfl u_0) <| o_p rfl (Zf Zer rfl rfl u_0) <| o_p rfl (Zcj Tryd.underlying52 rfl rfl u_0) <| o_p rfl (Ze Zhm rfl rfl u_0) <| o_p rfl (Zf ty_3 rfl rfl u_0) <| o_p rfl (Zc0 rfl rfl u_0 u_1) <| o_p rfl (Zc rfl rfl u_0) <| o_n) (by kernel_rfl) (fun a g hst hb => ?_)
               refine wp_cond_split (hst.bool 1 rfl) (fun hc14 => ?_) (fun hc14 => ?_)
               · replace H0 := Zz hc14 H0
                 refine r_s (L := []) (T := [⟨[], _, [], [], [2]⟩]) (F := [.op 0 0]) (hst.pick [] rfl) hb Zb
                   (o_p rfl (Zc rfl rfl c_i) <| o_n) (by kernel_rfl) (fun a g hst hb => ?_)
                 refine wp_ret ?_
                 refine Z1 ?_
                 refine Zr ?_
                 obtain rfl := Option.some.inj H0
                 exact Z3 rfl hst hb (Zl (s := 2)) (hst.at 0 rfl)
               · replace H0 := Z0 hc14 H0
                 refine wp_skip ?_
                 refine Zbr ?_
                 refine Zu ?_
                 obtain ⟨r15, h16, H0⟩ := Zh H0
                 refine r_s (L := [(1, _)]) (T := [⟨[.old 0], _, [], [], [78]⟩, ⟨[.op 0 0], _, [], [0], [79]⟩, ⟨[.old 0], _, [], [], [80]⟩, ⟨[.op 2 0], _, [], [2], [81]⟩, ⟨[.op 1 0, .op 3 0], _, [], Lr 4, [82]⟩, ⟨[.op 4 0], _, [], Lr 5, [2]⟩]) (F := [.op 5 0]) (hst.pick [0] rfl) hb Zb
                   (o_p rfl (Ze Zfr rfl rfl u_0) <| o_p rfl (Zf ty_3 rfl rfl u_0) <| o_p rfl (Ze Zc8 rfl rfl u_0) <| o_p rfl (Zf Zer rfl rfl u_0) <| o_p rfl (Zq Z7e (Zv6 _ _ h16) rfl rfl (.cons u_0 (.cons u_1 .nil))) <| o_p rfl (Zc rfl rfl u_0) <| o_n) (by kernel_rfl) (fun a g hst hb => ?_)
                 refine wp_ret ?_
                 obtain rfl := Option.some.inj H0
                 exact Z3 rfl hst hb (Zl (s := 2)) (hst.at 0 rfl)
theorem Zj1 (a0 : (List Zj)) {r : (List Zj)} (h : Zbq a0 = some r) : FnOk Tryd.prog 42 [(Zt.sl.pd a0)] (Zt.sl.pd r) := by
 unfold Zbq at h
 obtain ⟨hsz, H0⟩ := Zj5 h
 obtain rfl := Option.some.inj H0
 refine Zbs (N := 8) Tryd.func42 rfl rfl (Nat.le_of_ble_eq_true rfl) rfl rfl (fun a g0 hst hb => ?_)
 refine wp_seq ?_
 refine Zno Zb (N := 8) (L := [(0, (Zt.sl.pd a0))]) (T := [⟨[], [(2, (Zt.sl.pd []))], [], [], [2]⟩]) (F := [.old 0]) (by kernel_rfl)
   (Zhw (OT.plain rfl (Zc rfl rfl (Opd.c (fun g => Zkg g)))) Zm6) hst hb (fun a g hst hb => ?_)
 refine Zu ?_
 refine wp_seq ?_
 refine wp_seq ?_
 refine Zno Zb (N := 8) (L := [(0, (Zt.sl.pd a0))]) (T := [⟨[.old 0], [(3, (Zt.sl.pd a0))], [], [], [3]⟩, ⟨[.op 0 0], [(4, Z2k a0)], [], [0], [4]⟩]) (F := [.old 0, .op 1 0]) (by kernel_rfl)
   (Zhw (OT.plain rfl (Za rfl rfl Opd.t0)) (Zhw (OT.plain rfl (Zx8 Tryd.underlying52 rfl rfl Opd.t0)) Zm6)) hst hb (fun a g hst hb => ?_)
 refine Zu ?_
 obtain ⟨c, hc, hc'⟩ := hst.at 1 rfl
 refine wp_cond_split hc (fun ht => ?_) (fun hf => ?_)
 · obtain rfl := hc' ht
   refine wp_seq ?_
   refine Zno Zb (N := 8) (L := []) (T := [⟨[], [(2, (Zt.sl.pd []))], [], [], [2]⟩]) (F := [.op 0 0]) (by kernel_rfl)
     (Zhw (OT.plain rfl (Zc rfl rfl (Opd.c (fun g => Zkg g)))) Zm6) (hst.pick [] rfl) hb (fun a g hst hb => ?_)
   refine Zu ?_
   refine wp_ret ?_
   refine Zr ?_
   exact Z3 rfl hst hb (Zl (s := 2)) (hst.at 0 rfl)
 · refine wp_skip ?_
   refine Zu ?_
   refine wp_seq ?_
   have hsz' : (([] : (List Zj)).length + a0.length) * 24 ≤ 140737488355328 := by simpa using hsz
   refine Zno Zb (N := 8) (L := [(0, (Zt.sl.pd a0))]) (T := [⟨[], [(5, (pRow Zt 78 5 []))], [6], [], [5]⟩, ⟨[.old 0], [(6, (Zt.sl.pd a0))], [], [], [6]⟩, ⟨[.op 0 0, .op 1 0], [(7, (pRow Zt 78 5 ([] ++ a0)))], [6], [0, 1], [5, 7]⟩, ⟨[.op 2 0], [(2, (pRow Zt 78 5 ([] ++ a0)))], [], [0, 1, 2], [2]⟩]) (F := [.op 3 0]) (by kernel_rfl)
     (Zhw (OT.plain rfl (Zt2 5 Zd4 (xs := []) .nil (by decide) rfl rfl)) (Zhw (OT.plain rfl (Za rfl rfl Opd.t0)) (Zhw (OT.plain rfl (Zkp Zd4 rfl rfl Opd.t0 (Opd.tl Opd.t0) hsz')) (Zhw (OT.plain rfl (Zc rfl rfl Opd.t0)) Zm6)))) (hst.pick [0] rfl) hb (fun a g hst hb => ?_)
   refine Zu ?_
   refine wp_ret ?_
   exact Z3 rfl hst hb (Zl (s := 2)) (Zpn (hst.at 0 rfl))
theorem Zel (a0 : (List Zj)) {r : (List Zj)} (h : Zbq a0 = some r) : Zs4 Tryd.prog 42 [(Zt.sl.pd a0)] Zt 78 r := by
 unfold Zbq at h
 obtain ⟨hsz, H0⟩ := Zj5 h
 obtain rfl := Option.some.inj H0
 refine Zzb (N := 8) Tryd.func42 rfl rfl (Nat.le_of_ble_eq_true rfl) rfl (fun a g0 h0 hst hb => ?_)
 refine r_s (T := [⟨[], [(2, (Zt.sl.pd []))], [], [], [2]⟩]) (F := [.old 0]) hst hb Zb
   (o_p rfl (Zc rfl rfl (Opd.c (fun g => Zkg g))) <| o_n) (by kernel_rfl) (fun a g hst hb => ?_)
 refine wp_seq ?_
 refine r_s (T := [⟨[.old 0], _, [], [], [3]⟩, ⟨[.op 0 0], _, [], [0], [4]⟩]) (F := [.old 0, .op 1 0]) hst hb Zb
   (o_p rfl (Za rfl rfl u_0) <| o_p rfl (Zx8 Tryd.underlying52 rfl rfl u_0) <| o_n) (by kernel_rfl) (fun a g hst hb => ?_)
 obtain ⟨c, hc, hc'⟩ := hst.at 1 rfl
 refine wp_cond_split hc (fun ht => ?_) (fun hf => ?_)
 · obtain rfl := hc' ht
   refine r_s (L := []) (T := [⟨[], [(2, (pEq (.slice none 0 0)))], [], [], [2]⟩]) (F := [.op 0 0]) (hst.pick [] rfl) hb Zb
     (o_p rfl (Zc rfl rfl (Opd.c (fun g => rfl))) <| o_n) (by kernel_rfl) (fun a g hst hb => ?_)
   refine wp_ret ?_
   refine Zr ?_
   exact Zws rfl hst hb (Zl (s := 2)) ⟨none, hst.at 0 rfl⟩
 · refine wp_skip ?_
   refine Zu ?_
   refine r_s (L := [(0, _)]) (T := [⟨[], [(5, (pOwn Zt 78 5 (some 0) (([] : (List Zj)).map some)))], [6], [], [5]⟩, ⟨[.old 0], _, [], [], [6]⟩, ⟨[.op 0 0, .op 1 0], _, [6], [0, 1], [5, 7]⟩, ⟨[.op 2 0], _, [], [0, 1, 2], [2]⟩]) (F := [.op 3 0]) (hst.pick [0] rfl) hb Zb
     (o_p rfl (Z0f (ty := 0) Zd4 rfl rfl) <| o_p rfl (Za rfl rfl u_0) <| o_p rfl (Zr8 Zd4 rfl rfl u_0 u_1 (by simpa using hsz)) <| o_p rfl (Zc rfl rfl u_0) <| o_n) (by kernel_rfl) (fun a g hst hb => ?_)
   refine wp_ret ?_
   exact Z1o rfl h0 hst hb (Zl (s := 2)) (hst.at 0 rfl)
theorem Zgh (a0 : Zd) {r : Zd} (h : Zez a0 = some r) : FnOk Tryd.prog 26 [(Zi.pd a0)] (Zi.pd r) := by
 have H0 := h
 unfold Zez at H0
 clear h
 refine Zbs (N := 8) Tryd.func26 rfl rfl (Nat.le_of_ble_eq_true rfl) rfl rfl (fun a g0 hst hb => ?_)
 refine r_s (T := [⟨[.old 0], _, [2], [], [1]⟩, ⟨[], [(2, (pBox Zi 2 (default : Zd)))], [3], [], [2]⟩]) (F := [.op 0 0, .op 1 0]) hst hb Zb
   (o_p rfl (Ztb rfl rfl u_0) <| o_p rfl (Zbi (zs := [.int .i64 0, .int .i64 0, .int .i64 0, .int .i64 0, .float .f64 0, .int .i64 0, .string ByteArray.empty, .slice none 0 0]) (by kernel_rfl) (fun g => Zb5 g) rfl rfl) <| o_n) (by kernel_rfl) (fun a g hst hb => ?_)
 obtain ⟨r1, h2, H0⟩ := Zh H0
 refine r_s (T := [⟨[.old 0], _, [], [], [3]⟩, ⟨[.op 0 0], _, [], [0], [4]⟩, ⟨[.op 1 0], _, [], [0, 1], [5]⟩, ⟨[.old 0], _, [], [0, 1, 2], [6]⟩, ⟨[.op 2 0, .op 3 0, .old 0], _, [2], Lr 4, [1, 3, 6]⟩]) (F := [.op 4 0, .old 1]) hst hb Zb
   (o_p rfl (Z8 Zc8 (off := 7) (by kernel_rfl) rfl rfl u_0) <| o_p rfl (Zci Zer rfl rfl u_0) <| o_p rfl (Zq Zuz (Zj1 _ h2) rfl rfl (.cons u_0 .nil)) <| o_p rfl (Z8 Zc8 (off := 7) (by kernel_rfl) rfl rfl u_0) <| o_p rfl (Zp4 Zer rfl rfl u_2 u_1 u_0) <| o_n) (by kernel_rfl) (fun a g hst hb => ?_)
 refine r_s (T := [⟨[.old 0], _, [], [], [7]⟩, ⟨[.op 0 0, .old 1], _, [3], [0], [2]⟩]) (F := [.op 1 0]) hst hb Zb
   (o_p rfl (Zca Zbf rfl rfl u_0) <| o_p rfl (Z6 Zbf rfl rfl u_1 u_0) <| o_n) (by kernel_rfl) (fun a g hst hb => ?_)
 refine wp_ret ?_
 obtain rfl := Option.some.inj H0
 obtain ⟨u0, hu0, hq0⟩ := Zbe (P := Tryd.prog) Zbf (hst.at 0 rfl)
 exact Z3 rfl hst hb hu0 hq0
theorem Zjc (a0 : Zm) (a1 : ByteArray) {r : Zd × Bool} (h : Ze2 a0 a1 = some r) : FnOk Tryd.prog 24 [(Zx.pd a0), (pStr a1)] (pTup [(Zi.pd r.1), (Zbc r.2)]) := by
 have H0 := h
 unfold Ze2 at H0
 clear h
 refine Zbs (N := 39) Tryd.func24 rfl rfl (Nat.le_of_ble_eq_true rfl) rfl rfl (fun a g0 hst hb => ?_)
 refine r_s (T := [⟨[.old 0], _, [], [], [2]⟩, ⟨[], [(4, (pBox Zi 4 (default : Zd)))], [5], [], [4]⟩, ⟨[], _, [], [], [5]⟩]) (F := [.old 1, .op 0 0, .op 1 0]) hst hb Zb
   (o_p rfl (Zbl rfl rfl u_0) <| o_p rfl (Zbi (zs := [.int .i64 0, .int .i64 0, .int .i64 0, .int .i64 0, .float .f64 0, .int .i64 0, .string ByteArray.empty, .slice none 0 0]) (by kernel_rfl) (fun g => Zb5 g) rfl rfl) <| o_p rfl (Zc rfl rfl c_b) <| o_n) (by kernel_rfl) (fun a g hst hb => ?_)
 refine wp_seq ?_
 refine r_s (T := [⟨[.old 1], _, [], [], [7]⟩, ⟨[.op 0 0], _, [], [0], [8]⟩, ⟨[.op 1 0], _, [], [0, 1], [6]⟩]) (F := [.old 0, .old 2, .op 2 0]) hst hb Zb
   (o_p rfl (Ze Znr rfl rfl u_0) <| o_p rfl (Zf Zcn rfl rfl u_0) <| o_p rfl (Zc rfl rfl u_0) <| o_n) (by kernel_rfl) (fun a g hst hb => ?_)
 obtain ⟨z12, hz1, H0⟩ := Zh H0
 refine Zc2 (fun a w => ∃ (y11 : Zd) (g : G), w = g.w ∧ St 39 [(4, (pBox Zi 4 y11))] a g ∧ Base g0 g ∧ (.inr y11) = z12) ?_ ?_
 · rintro a w ⟨y11, g, rfl, hst, hb, rfl⟩
   refine Zu ?_
   refine r_s (T := [⟨[], _, [], [], [38]⟩, ⟨[.op 0 0, .old 0], _, [5], [0], [4]⟩, ⟨[], _, [], [0, 1], [5]⟩]) (F := [.op 1 0, .op 2 0]) hst hb Zb
     (o_p rfl (Zpf rfl rfl ) <| o_p rfl (Z6 Zbf rfl rfl u_1 u_0) <| o_p rfl (Zc rfl rfl c_b) <| o_n) (by kernel_rfl) (fun a g hst hb => ?_)
   refine wp_ret ?_
   obtain rfl := Option.some.inj H0
   obtain ⟨u0, hu0, hq0⟩ := Zbe (P := Tryd.prog) Zbf (hst.at 0 rfl)
   exact Ze0 rfl hst hb hu0 (Zl (s := 5)) (Zde hq0 (hst.at 1 rfl))
 · refine wp_block ?_
   refine wp_loop_ghost (fun n a w => ∃ (x1 : Zd) (x2 : shelf_nodeT) (g : G), w = g.w ∧ St 39 [(1, (pStr a1)), (4, (pBox Zi 4 x1)), (6, (Zy.pd x2))] a g ∧ Base g0 g ∧ Zdm a1 n x1 x2 = some z12) (a0.top.hh + 1) ⟨(default : Zd), a0.top, g, rfl, (hst.pick [0, 1, 2] rfl), hb, hz1⟩ (fun n a w hI => ?_)
   obtain ⟨x1, x2, g, rfl, hst, hb, H1⟩ := hI
   cases n with
   | zero => exact absurd H1 (by simp [Zdm])
   | succ n =>
     rw [Zdm] at H1
     refine wp_seq ?_
     refine r_s (T := [⟨[.old 2], _, [], [], [9]⟩, ⟨[.op 0 0], _, [], [0], [10]⟩]) (F := [.old 0, .old 1, .old 2, .op 1 0]) hst hb Zb
       (o_p rfl (Za rfl rfl u_0) <| o_p rfl (Zvw Tryd.underlying24 rfl rfl u_0 (Zea _)) <| o_n) (by kernel_rfl) (fun a g hst hb => ?_)
     refine wp_cond_split (hst.bool 3 rfl) (fun hc3 => ?_) (fun hc3 => ?_)
     · replace H1 := Zz hc3 H1
       refine wp_skip ?_
       refine Zu ?_
       refine Zc2 (fun a w => ∃ (j10 : shelf_nodeT) (g : G), w = g.w ∧ St 39 [(1, (pStr a1)), (4, (pBox Zi 4 x1)), (6, (Zy.pd j10))] a g ∧ Base g0 g ∧ Zgd x1 (Zdm a1 n) j10 = some z12) ?_ ?_
       · rintro a w ⟨j10, g, rfl, hst, hb, H1⟩
         unfold Zgd at H1
         exact ⟨n, Nat.lt_succ_self _, x1, j10, g, rfl, (hst.pick [0, 1, 2] rfl), hb, H1⟩
       · refine wp_block ?_
         refine wp_block ?_
         obtain ⟨n4, h5, H1⟩ := Zh H1
         refine r_s (L := [(1, _), (4, _), (6, _)]) (T := [⟨[.old 0], _, [], [], [17]⟩, ⟨[.old 2], _, [], [], [18]⟩, ⟨[.op 1 0], _, [], [1], [19]⟩, ⟨[.op 2 0], _, [], [1, 2], [20]⟩, ⟨[.op 3 0], _, [], [1, 2, 3], [21]⟩, ⟨[.op 0 0, .op 4 0], _, [], Lr 5, [22]⟩, ⟨[.op 5 0], _, [], Lr 6, [16]⟩]) (F := [.old 0, .old 1, .old 2, .op 6 0]) (hst.pick [0, 1, 2] rfl) hb Zb
           (o_p rfl (Za rfl rfl u_0) <| o_p rfl (Za rfl rfl u_0) <| o_p rfl (Zn rfl rfl (Opd.imp u_0 (fun _ _ h => Zo h5 h)) (fun _ _ ⟨_, _, _, e, _⟩ => ⟨_, e⟩)) <| o_p rfl (Ze Zeq rfl rfl u_0) <| o_p rfl (Zf ty_9 rfl rfl u_0) <| o_p rfl (Zll rfl rfl u_0 u_1) <| o_p rfl (Zc rfl rfl u_0) <| o_n) (by kernel_rfl) (fun a g hst hb => ?_)
         refine wp_cond_split (hst.bool 3 rfl) (fun hc6 => ?_) (fun hc6 => ?_)
         · replace H1 := Zz hc6 H1
           refine r_g (L := [(1, _), (4, _), (6, _)]) (T := [⟨[.old 2], _, [], [], [23]⟩, ⟨[.op 0 0], _, [], [0], [24]⟩, ⟨[.op 1 0], _, [], [0, 1], [25]⟩, ⟨[.op 2 0], _, [], [0, 1, 2], [26]⟩, ⟨[.op 3 0], _, [], Lr 4, [6]⟩]) (F := [.old 0, .old 1, .op 4 0]) (hst.pick [0, 1, 2] rfl) hb Zb
             (o_p rfl (Za rfl rfl u_0) <| o_p rfl (Zn rfl rfl (Opd.imp u_0 (fun _ _ h => Zo h5 h)) (fun _ _ ⟨_, _, _, e, _⟩ => ⟨_, e⟩)) <| o_p rfl (Ze Zd7 rfl rfl u_0) <| o_p rfl (Zf Zcn rfl rfl u_0) <| o_p rfl (Zc rfl rfl u_0) <| o_n) (by kernel_rfl) (fun a g hst hb => ?_)
           refine Zbr ?_
           refine Zbr ?_
           exact ⟨n4.left, g, rfl, (hst.pick [0, 1, 2] rfl), hb, H1⟩
         · replace H1 := Z0 hc6 H1
           refine r_s (L := [(1, _), (4, _), (6, _)]) (T := [⟨[.old 0], _, [], [], [28]⟩, ⟨[.old 2], _, [], [], [29]⟩, ⟨[.op 1 0], _, [], [1], [30]⟩, ⟨[.op 2 0], _, [], [1, 2], [31]⟩, ⟨[.op 3 0], _, [], [1, 2, 3], [32]⟩, ⟨[.op 0 0, .op 4 0], _, [], Lr 5, [33]⟩, ⟨[.op 5 0], _, [], Lr 6, [27]⟩]) (F := [.old 0, .old 1, .old 2, .op 6 0]) (hst.pick [0, 1, 2] rfl) hb Zb
             (o_p rfl (Za rfl rfl u_0) <| o_p rfl (Za rfl rfl u_0) <| o_p rfl (Zn rfl rfl (Opd.imp u_0 (fun _ _ h => Zo h5 h)) (fun _ _ ⟨_, _, _, e, _⟩ => ⟨_, e⟩)) <| o_p rfl (Ze Zeq rfl rfl u_0) <| o_p rfl (Zf ty_9 rfl rfl u_0) <| o_p rfl (Zrl rfl rfl u_0 u_1) <| o_p rfl (Zc rfl rfl u_0) <| o_n) (by kernel_rfl) (fun a g hst hb => ?_)
           refine wp_cond_split (hst.bool 3 rfl) (fun hc7 => ?_) (fun hc7 => ?_)
           · replace H1 := Zz hc7 H1
             refine r_g (L := [(1, _), (4, _), (6, _)]) (T := [⟨[.old 2], _, [], [], [34]⟩, ⟨[.op 0 0], _, [], [0], [35]⟩, ⟨[.op 1 0], _, [], [0, 1], [36]⟩, ⟨[.op 2 0], _, [], [0, 1, 2], [37]⟩, ⟨[.op 3 0], _, [], Lr 4, [6]⟩]) (F := [.old 0, .old 1, .op 4 0]) (hst.pick [0, 1, 2] rfl) hb Zb
               (o_p rfl (Za rfl rfl u_0) <| o_p rfl (Zn rfl rfl (Opd.imp u_0 (fun _ _ h => Zo h5 h)) (fun _ _ ⟨_, _, _, e, _⟩ => ⟨_, e⟩)) <| o_p rfl (Ze Zes rfl rfl u_0) <| o_p rfl (Zf Zcn rfl rfl u_0) <| o_p rfl (Zc rfl rfl u_0) <| o_n) (by kernel_rfl) (fun a g hst hb => ?_)
             refine Zbr ?_
             refine Zbr ?_
             exact ⟨n4.right, g, rfl, (hst.pick [0, 1, 2] rfl), hb, H1⟩
           · replace H1 := Z0 hc7 H1
             obtain ⟨r8, h9, H1⟩ := Zh H1
             refine r_s (L := [(4, _), (6, _)]) (T := [⟨[.old 1], _, [], [], [11]⟩, ⟨[.op 0 0], _, [], [0], [12]⟩, ⟨[.op 1 0], _, [], [0, 1], [13]⟩, ⟨[.op 2 0], _, [], [0, 1, 2], [14]⟩, ⟨[.op 3 0], _, [], Lr 4, [15]⟩, ⟨[.op 4 0, .old 0], _, [5], Lr 5, [4]⟩, ⟨[], _, [], Lr 6, [5]⟩]) (F := [.op 5 0, .op 6 0]) (hst.pick [1, 2] rfl) hb Zb
               (o_p rfl (Za rfl rfl u_0) <| o_p rfl (Zn rfl rfl (Opd.imp u_0 (fun _ _ h => Zo h5 h)) (fun _ _ ⟨_, _, _, e, _⟩ => ⟨_, e⟩)) <| o_p rfl (Ze Zhc rfl rfl u_0) <| o_p rfl (Zf Zbf rfl rfl u_0) <| o_p rfl (Zq Zmt (Zgh _ h9) rfl rfl (.cons u_0 .nil)) <| o_p rfl (Z6 Zbf rfl rfl u_1 u_0) <| o_p rfl (Zc rfl rfl c_b) <| o_n) (by kernel_rfl) (fun a g hst hb => ?_)
             refine wp_ret ?_
             refine Z1 ?_
             refine Z1 ?_
             refine Zr ?_
             refine Zr ?_
             refine Z1 ?_
             refine Zr ?_
             refine Zr ?_
             obtain rfl := Option.some.inj H1
             obtain rfl := Option.some.inj H0
             obtain ⟨u0, hu0, hq0⟩ := Zbe (P := Tryd.prog) Zbf (hst.at 0 rfl)
             exact Ze0 rfl hst hb hu0 (Zl (s := 5)) (Zde hq0 (hst.at 1 rfl))
     · replace H1 := Z0 hc3 H1
       refine wp_exit ?_
       refine Zce ?_
       refine Zce ?_
       refine Zdc ?_
       exact ⟨x1, g, rfl, (hst.pick [1] rfl), hb, Option.some.inj H1⟩
theorem Zdg (a0 : ByteArray) (a1 : Zd) (a2 : shelf_nodeT) (a3 : shelf_nodeT) {r : shelf_nodeT} (h : Zdb a0 a1 a2 a3 = some r) : FnOk Tryd.prog 40 [(pStr a0), (Zi.pd a1), (Zy.pd a2), (Zy.pd a3)] (Zy.pd r) := by
 have H0 := h
 unfold Zdb at H0
 clear h
 refine Zbs (N := 21) Tryd.func40 rfl rfl (Nat.le_of_ble_eq_true rfl) rfl rfl (fun a g0 hst hb => ?_)
 refine r_s (T := [⟨[.old 1], _, [], [], [5]⟩, ⟨[], [(8, (Zy.pd shelf_nodeT.nil))], [], [], [8]⟩]) (F := [.old 0, .old 2, .old 3, .op 0 0]) hst hb Zb
   (o_p rfl (Zbl rfl rfl u_0) <| o_p rfl (Zc rfl rfl (Opd.c (fun g => Zdp g))) <| o_n) (by kernel_rfl) (fun a g hst hb => ?_)
 obtain ⟨r1, h2, H0⟩ := Zh H0; obtain ⟨r3, h4, H0⟩ := Zh H0
 refine r_s (T := ⟨[.old 0], _, [], [], [9]⟩ :: ⟨[.old 3], _, [], [], [10]⟩ :: ⟨[.old 1], _, [], [], [11]⟩ :: ⟨[.old 2], _, [], [], [12]⟩ :: ⟨[.old 1], _, [], [], [13]⟩ :: ⟨[.op 4 0], _, [], [4], [14]⟩ :: ⟨[.old 2], _, [], [], [15]⟩ :: ⟨[.op 6 0], _, [], [4, 5, 6], [16]⟩ :: ⟨[.op 5 0, .op 7 0], _, [], List.range' 4 4, [17]⟩ :: ⟨[.op 8 0], _, [], List.range' 4 5, [18]⟩ :: ⟨[.op 0 0, .op 1 0, .op 2 0, .op 3 0, .op 9 0], _, [], Lr 10, [19]⟩ :: ⟨[.op 10 0], _, [], Lr 11, [20]⟩ :: ⟨[.op 11 0], _, [], Lr 12, [8]⟩ :: []) (F := [.op 12 0]) hst hb Zb
   (o_p rfl (Za rfl rfl u_0) <| o_p rfl (Zf Zbf rfl rfl u_0) <| o_p rfl (Za rfl rfl u_0) <| o_p rfl (Za rfl rfl u_0) <| o_p rfl (Za rfl rfl u_0) <| o_p rfl (Zq Zlg (Zcw _ h2) rfl rfl (.cons u_0 .nil)) <| o_p rfl (Za rfl rfl u_0) <| o_p rfl (Zq Zlg (Zcw _ h4) rfl rfl (.cons u_0 .nil)) <| o_p rfl (Zb8 rfl rfl u_0 u_1 rfl) <| o_p rfl (Zb8 rfl rfl u_0 c_i rfl) <| o_p rfl (Zsb rfl rfl u_0 u_1 u_2 u_3 u_4) <| o_p rfl (Zbl rfl rfl u_0) <| o_p rfl (Zc rfl rfl (Opd.imp u_0 (fun _ _ h => Zst h))) <| o_n) (by kernel_rfl) (fun a g hst hb => ?_)
 refine wp_ret ?_
 obtain rfl := Option.some.inj H0
 exact Z3 rfl hst hb (Zl (s := 8)) (hst.at 0 rfl)
theorem Zjk (a0 : shelf_nodeT) (a1 : shelf_nodeT) {r : Bool} (h : Zha a0 a1 = some r) : FnOk Tryd.prog 58 [(Zy.pd a0), (Zy.pd a1)] (Zbc r) := by
 have H0 := h
 unfold Zha at H0
 clear h
 refine Zbs (N := 13) Tryd.func58 rfl rfl (Nat.le_of_ble_eq_true rfl) rfl rfl (fun a g0 hst hb => ?_)
 refine r_s (T := [⟨[], _, [], [], [4]⟩]) (F := [.old 0, .old 1]) hst hb Zb
   (o_p rfl (Zc rfl rfl c_b) <| o_n) (by kernel_rfl) (fun a g hst hb => ?_)
 obtain ⟨r1, h2, H0⟩ := Zh H0; obtain ⟨r3, h4, H0⟩ := Zh H0
 refine r_s (T := [⟨[.old 0], _, [], [], [5]⟩, ⟨[.op 0 0], _, [], [0], [6]⟩, ⟨[.op 1 0], _, [], [0, 1], [7]⟩, ⟨[.old 1], _, [], [], [8]⟩, ⟨[.op 3 0], _, [], [0, 1, 3], [9]⟩, ⟨[.op 4 0], _, [], [0, 1, 3, 4], [10]⟩, ⟨[.op 5 0], _, [], [0, 1, 3, 4, 5], [11]⟩, ⟨[.op 2 0, .op 6 0], _, [], Lr 7, [12]⟩, ⟨[.op 7 0], _, [], Lr 8, [4]⟩]) (F := [.op 8 0]) hst hb Zb
   (o_p rfl (Za rfl rfl u_0) <| o_p rfl (Zq Zlg (Zcw _ h2) rfl rfl (.cons u_0 .nil)) <| o_p rfl (Zb8 rfl rfl u_0 c_i rfl) <| o_p rfl (Za rfl rfl u_0) <| o_p rfl (Zq Zlg (Zcw _ h4) rfl rfl (.cons u_0 .nil)) <| o_p rfl (Zb8 rfl rfl u_0 c_i rfl) <| o_p rfl (Zvl rfl rfl c_i u_0 rfl) <| o_p rfl (Zc0 rfl rfl u_0 u_1) <| o_p rfl (Zc rfl rfl u_0) <| o_n) (by kernel_rfl) (fun a g hst hb => ?_)
 refine wp_ret ?_
 obtain rfl := Option.some.inj H0
 exact Z3 rfl hst hb (Zl (s := 4)) (hst.at 0 rfl)
theorem Ziz (a0 : ByteArray) (a1 : Zd) (a2 : shelf_nodeT) (a3 : shelf_nodeT) {r : shelf_nodeT} (h : Zg5 a0 a1 a2 a3 = some r) : FnOk Tryd.prog 41 [(pStr a0), (Zi.pd a1), (Zy.pd a2), (Zy.pd a3)] (Zy.pd r) := by
 have H0 := h
 unfold Zg5 at H0
 clear h
 refine Zbs (N := 182) Tryd.func41 rfl rfl (Nat.le_of_ble_eq_true rfl) rfl rfl (fun a g0 hst hb => ?_)
 refine r_s (T := [⟨[.old 1], _, [], [], [5]⟩, ⟨[], [(8, (Zy.pd shelf_nodeT.nil))], [], [], [8]⟩]) (F := [.old 0, .old 2, .old 3, .op 0 0]) hst hb Zb
   (o_p rfl (Zbl rfl rfl u_0) <| o_p rfl (Zc rfl rfl (Opd.c (fun g => Zdp g))) <| o_n) (by kernel_rfl) (fun a g hst hb => ?_)
 refine wp_seq ?_
 refine wp_block ?_
 obtain ⟨r1, h2, H0⟩ := Zh H0; obtain ⟨n3, h4, H0⟩ := Zh H0; obtain ⟨r5, h6, H0⟩ := Zh H0; obtain ⟨n7, h8, H0⟩ := Zh H0; obtain ⟨r9, h10, H0⟩ := Zh H0
 refine r_s (T := ⟨[.old 2], _, [], [], [12]⟩ :: ⟨[.old 1], _, [], [], [13]⟩ :: ⟨[.op 0 0, .op 1 0], _, [], [0, 1], [14]⟩ :: ⟨[.op 2 0], _, [], [0, 1, 2], [15]⟩ :: ⟨[.op 3 0, .old 2], _, [], Lr 4, [16]⟩ :: ⟨[.op 3 0, .op 4 0], _, [], Lr 5, [17]⟩ :: ⟨[.op 3 0, .op 5 0], _, [], Lr 6, [18]⟩ :: ⟨[.op 3 0, .op 6 0], _, [], Lr 7, [19]⟩ :: ⟨[.op 3 0, .op 7 0], _, [], Lr 8, [20]⟩ :: ⟨[.op 3 0, .op 8 0], _, [], Lr 9, [21]⟩ :: ⟨[.op 3 0, .old 2], _, [], Lr 4, [22]⟩ :: ⟨[.op 3 0, .op 10 0], _, [], [0, 1, 2, 3, 10], [23]⟩ :: ⟨[.op 3 0, .op 11 0], _, [], [0, 1, 2, 3, 10, 11], [24]⟩ :: ⟨[.op 3 0, .op 12 0], _, [], [0, 1, 2, 3, 10, 11, 12], [25]⟩ :: ⟨[.op 3 0, .op 13 0], _, [], 0 :: 1 :: 2 :: 3 :: 4 :: 5 :: 6 :: 7 :: 8 :: 10 :: 11 :: 12 :: 13 :: [], [26]⟩ :: ⟨[.op 3 0, .op 14 0], _, [], 0 :: 1 :: 2 :: 3 :: 4 :: 5 :: 6 :: 7 :: 8 :: 10 :: 11 :: 12 :: 13 :: 14 :: [], [27]⟩ :: ⟨[.op 3 0, .op 15 0], _, [], 0 :: 1 :: 2 :: 3 :: 4 :: 5 :: 6 :: 7 :: 8 :: 10 :: 11 :: 12 :: 13 :: 14 :: 15 :: [], [28]⟩ :: ⟨[.op 3 0, .op 9 0, .op 16 0], _, [], Lr 17, [29]⟩ :: ⟨[.op 3 0, .op 17 0], _, [], Lr 18, [30]⟩ :: ⟨[.op 18 0], _, [], Lr 19, [11]⟩ :: []) (F := [.old 0, .old 1, .old 2, .old 3, .op 19 0]) hst hb Zb
   (o_p rfl (Za rfl rfl u_0) <| o_p rfl (Za rfl rfl u_0) <| o_p rfl (Zq Zur (Zjk _ _ h2) rfl rfl (.cons u_0 (.cons u_1 .nil))) <| o_p rfl (Za rfl rfl u_0) <| o_g (g_t rfl rfl rfl (fun hG => Za rfl rfl u_0)) <| o_g (g_t rfl rfl rfl (fun hG => Zn rfl rfl (Opd.imp (Opd.gd hG u_0) (fun _ _ h => Zo (Zbv h4 hG) h)) (fun _ _ ⟨_, _, _, e, _⟩ => ⟨_, e⟩))) <| o_g (g_t rfl rfl rfl (fun hG => Ze Zd7 rfl rfl (Opd.gd hG u_0))) <| o_g (g_t rfl rfl rfl (fun hG => Zf Zcn rfl rfl (Opd.gd hG u_0))) <| o_g (g_t rfl rfl rfl (fun hG => Zq Zlg (Zcw _ (Zbv h6 hG)) rfl rfl (.cons (Opd.gd hG u_0) .nil))) <| o_g (g_t rfl rfl rfl (fun hG => Zb8 rfl rfl (Opd.gd hG u_0) c_i rfl)) <| o_g (g_t rfl rfl rfl (fun hG => Za rfl rfl u_0)) <| o_g (g_t rfl rfl rfl (fun hG => Zn rfl rfl (Opd.imp (Opd.gd hG u_0) (fun _ _ h => Zo (Zbv h8 hG) h)) (fun _ _ ⟨_, _, _, e, _⟩ => ⟨_, e⟩))) <| o_g (g_t rfl rfl rfl (fun hG => Ze Zes rfl rfl (Opd.gd hG u_0))) <| o_g (g_t rfl rfl rfl (fun hG => Zf Zcn rfl rfl (Opd.gd hG u_0))) <| o_g (g_t rfl rfl rfl (fun hG => Zq Zlg (Zcw _ (Zbv h10 hG)) rfl rfl (.cons (Opd.gd hG u_0) .nil))) <| o_g (g_t rfl rfl rfl (fun hG => Zb8 rfl rfl (Opd.gd hG u_0) c_i rfl)) <| o_g (g_t rfl rfl rfl (fun hG => Zvl rfl rfl c_i (Opd.gd hG u_0) rfl)) <| o_g (g_t rfl rfl rfl (fun hG => Zc1 rfl rfl (Opd.gd hG u_0) (Opd.gd hG u_1))) <| o_p rfl (Zbp rfl rfl u_0 (fun hz => (Opd.gd hz u_1))) <| o_p rfl (Zc rfl rfl u_0) <| o_n) (by kernel_rfl) (fun a g hst hb => ?_)
 refine wp_cond_split (hst.bool 4 rfl) (fun hc11 => ?_) (fun hc11 => ?_)
 · replace H0 := Zz hc11 H0
   obtain ⟨n12, h13, H0⟩ := Zh H0; obtain ⟨r14, h15, H0⟩ := Zh H0; obtain ⟨r16, h17, H0⟩ := Zh H0
   refine r_s (L := [(0, _), (2, _), (3, _), (5, _)]) (T := ⟨[.old 2], _, [], [], [31]⟩ :: ⟨[.op 0 0], _, [], [0], [32]⟩ :: ⟨[.op 1 0], _, [], [0, 1], [33]⟩ :: ⟨[.op 2 0], _, [], [0, 1, 2], [34]⟩ :: ⟨[.old 2], _, [], [], [35]⟩ :: ⟨[.op 4 0], _, [], [4], [36]⟩ :: ⟨[.op 5 0], _, [], [4, 5], [37]⟩ :: ⟨[.op 6 0], _, [], [4, 5, 6], [38]⟩ :: ⟨[.old 0], _, [], [], [39]⟩ :: ⟨[.old 3], _, [], [], [40]⟩ :: ⟨[.old 1], _, [], [], [41]⟩ :: ⟨[.old 2], _, [], [], [42]⟩ :: ⟨[.op 11 0], _, [], [11], [43]⟩ :: ⟨[.op 12 0], _, [], [11, 12], [44]⟩ :: ⟨[.op 13 0], _, [], [11, 12, 13], [45]⟩ :: ⟨[.op 8 0, .op 9 0, .op 10 0, .op 14 0], _, [], List.range' 8 7, [46]⟩ :: ⟨[.old 2], _, [], [], [47]⟩ :: ⟨[.op 16 0], _, [], [16], [48]⟩ :: ⟨[.op 17 0], _, [], [16, 17], [49]⟩ :: ⟨[.op 18 0], _, [], [16, 17, 18], [50]⟩ :: ⟨[.op 3 0, .op 7 0, .op 15 0, .op 19 0], _, [], Lr 20, [51]⟩ :: ⟨[.op 20 0], _, [], Lr 21, [8]⟩ :: []) (F := [.op 21 0]) (hst.pick [0, 1, 2, 3] rfl) hb Zb
     (o_p rfl (Za rfl rfl u_0) <| o_p rfl (Zn rfl rfl (Opd.imp u_0 (fun _ _ h => Zo h13 h)) (fun _ _ ⟨_, _, _, e, _⟩ => ⟨_, e⟩)) <| o_p rfl (Ze Zeq rfl rfl u_0) <| o_p rfl (Zf ty_9 rfl rfl u_0) <| o_p rfl (Za rfl rfl u_0) <| o_p rfl (Zn rfl rfl (Opd.imp u_0 (fun _ _ h => Zo h13 h)) (fun _ _ ⟨_, _, _, e, _⟩ => ⟨_, e⟩)) <| o_p rfl (Ze Zhc rfl rfl u_0) <| o_p rfl (Zf Zbf rfl rfl u_0) <| o_p rfl (Za rfl rfl u_0) <| o_p rfl (Zf Zbf rfl rfl u_0) <| o_p rfl (Za rfl rfl u_0) <| o_p rfl (Za rfl rfl u_0) <| o_p rfl (Zn rfl rfl (Opd.imp u_0 (fun _ _ h => Zo h13 h)) (fun _ _ ⟨_, _, _, e, _⟩ => ⟨_, e⟩)) <| o_p rfl (Ze Zd7 rfl rfl u_0) <| o_p rfl (Zf Zcn rfl rfl u_0) <| o_p rfl (Zq Zjn (Zdg _ _ _ _ h15) rfl rfl (.cons u_0 (.cons u_1 (.cons u_2 (.cons u_3 .nil))))) <| o_p rfl (Za rfl rfl u_0) <| o_p rfl (Zn rfl rfl (Opd.imp u_0 (fun _ _ h => Zo h13 h)) (fun _ _ ⟨_, _, _, e, _⟩ => ⟨_, e⟩)) <| o_p rfl (Ze Zes rfl rfl u_0) <| o_p rfl (Zf Zcn rfl rfl u_0) <| o_p rfl (Zq Zjn (Zdg _ _ _ _ h17) rfl rfl (.cons u_0 (.cons u_1 (.cons u_2 (.cons u_3 .nil))))) <| o_p rfl (Zc rfl rfl u_0) <| o_n) (by kernel_rfl) (fun a g hst hb => ?_)
   refine wp_ret ?_
   refine Z1 ?_
   refine Zr ?_
   obtain rfl := Option.some.inj H0
   exact Z3 rfl hst hb (Zl (s := 8)) (hst.at 0 rfl)
 · replace H0 := Z0 hc11 H0
   obtain ⟨r18, h19, H0⟩ := Zh H0
   refine r_s (L := [(0, _), (2, _), (3, _), (5, _)]) (T := [⟨[.old 2], _, [], [], [53]⟩, ⟨[.old 1], _, [], [], [54]⟩, ⟨[.op 0 0, .op 1 0], _, [], [0, 1], [55]⟩, ⟨[.op 2 0], _, [], [0, 1, 2], [52]⟩]) (F := [.old 0, .old 1, .old 2, .old 3, .op 3 0]) (hst.pick [0, 1, 2, 3] rfl) hb Zb
     (o_p rfl (Za rfl rfl u_0) <| o_p rfl (Za rfl rfl u_0) <| o_p rfl (Zq Zur (Zjk _ _ h19) rfl rfl (.cons u_0 (.cons u_1 .nil))) <| o_p rfl (Zc rfl rfl u_0) <| o_n) (by kernel_rfl) (fun a g hst hb => ?_)
   refine wp_cond_split (hst.bool 4 rfl) (fun hc20 => ?_) (fun hc20 => ?_)
   · replace H0 := Zz hc20 H0
     obtain ⟨n21, h22, H0⟩ := Zh H0
     refine r_s (L := [(0, _), (2, _), (3, _), (5, _)]) (T := [⟨[.old 2], _, [], [], [56]⟩, ⟨[.op 0 0], _, [], [0], [57]⟩, ⟨[.op 1 0], _, [], [0, 1], [58]⟩, ⟨[.op 2 0], _, [], [0, 1, 2], [59]⟩, ⟨[.op 3 0], _, [], Lr 4, [9]⟩]) (F := [.old 0, .old 1, .old 2, .old 3, .op 4 0]) (hst.pick [0, 1, 2, 3] rfl) hb Zb
       (o_p rfl (Za rfl rfl u_0) <| o_p rfl (Zn rfl rfl (Opd.imp u_0 (fun _ _ h => Zo h22 h)) (fun _ _ ⟨_, _, _, e, _⟩ => ⟨_, e⟩)) <| o_p rfl (Ze Zd7 rfl rfl u_0) <| o_p rfl (Zf Zcn rfl rfl u_0) <| o_p rfl (Zc rfl rfl u_0) <| o_n) (by kernel_rfl) (fun a g hst hb => ?_)
     obtain ⟨n23, h24, H0⟩ := Zh H0; obtain ⟨r25, h26, H0⟩ := Zh H0; obtain ⟨r27, h28, H0⟩ := Zh H0; obtain ⟨r29, h30, H0⟩ := Zh H0
     refine r_s (T := ⟨[.old 4], _, [], [], [60]⟩ :: ⟨[.op 0 0], _, [], [0], [61]⟩ :: ⟨[.op 1 0], _, [], [0, 1], [62]⟩ :: ⟨[.op 2 0], _, [], [0, 1, 2], [63]⟩ :: ⟨[.old 4], _, [], [], [64]⟩ :: ⟨[.op 4 0], _, [], [4], [65]⟩ :: ⟨[.op 5 0], _, [], [4, 5], [66]⟩ :: ⟨[.op 6 0], _, [], [4, 5, 6], [67]⟩ :: ⟨[.old 0], _, [], [], [68]⟩ :: ⟨[.old 3], _, [], [], [69]⟩ :: ⟨[.old 1], _, [], [], [70]⟩ :: ⟨[.old 4], _, [], [], [71]⟩ :: ⟨[.op 11 0], _, [], [11], [72]⟩ :: ⟨[.op 12 0], _, [], [11, 12], [73]⟩ :: ⟨[.op 13 0], _, [], [11, 12, 13], [74]⟩ :: ⟨[.op 8 0, .op 9 0, .op 10 0, .op 14 0], _, [], List.range' 8 7, [75]⟩ :: ⟨[.old 2], _, [], [], [76]⟩ :: ⟨[.op 16 0], _, [], [16], [77]⟩ :: ⟨[.op 17 0], _, [], [16, 17], [78]⟩ :: ⟨[.op 18 0], _, [], [16, 17, 18], [79]⟩ :: ⟨[.old 2], _, [], [], [80]⟩ :: ⟨[.op 20 0], _, [], [20], [81]⟩ :: ⟨[.op 21 0], _, [], [20, 21], [82]⟩ :: ⟨[.op 22 0], _, [], [20, 21, 22], [83]⟩ :: ⟨[.old 4], _, [], [], [84]⟩ :: ⟨[.op 24 0], _, [], [24], [85]⟩ :: ⟨[.op 25 0], _, [], [24, 25], [86]⟩ :: ⟨[.op 26 0], _, [], [24, 25, 26], [87]⟩ :: ⟨[.old 2], _, [], [], [88]⟩ :: ⟨[.op 28 0], _, [], [28], [89]⟩ :: ⟨[.op 29 0], _, [], [28, 29], [90]⟩ :: ⟨[.op 30 0], _, [], [28, 29, 30], [91]⟩ :: ⟨[.op 19 0, .op 23 0, .op 27 0, .op 31 0], _, [], List.range' 8 24, [92]⟩ :: ⟨[.op 3 0, .op 7 0, .op 15 0, .op 32 0], _, [], Lr 33, [93]⟩ :: ⟨[.op 33 0], _, [], Lr 34, [8]⟩ :: []) (F := [.op 34 0]) hst hb Zb
       (o_p rfl (Za rfl rfl u_0) <| o_p rfl (Zn rfl rfl (Opd.imp u_0 (fun _ _ h => Zo h24 h)) (fun _ _ ⟨_, _, _, e, _⟩ => ⟨_, e⟩)) <| o_p rfl (Ze Zeq rfl rfl u_0) <| o_p rfl (Zf ty_9 rfl rfl u_0) <| o_p rfl (Za rfl rfl u_0) <| o_p rfl (Zn rfl rfl (Opd.imp u_0 (fun _ _ h => Zo h24 h)) (fun _ _ ⟨_, _, _, e, _⟩ => ⟨_, e⟩)) <| o_p rfl (Ze Zhc rfl rfl u_0) <| o_p rfl (Zf Zbf rfl rfl u_0) <| o_p rfl (Za rfl rfl u_0) <| o_p rfl (Zf Zbf rfl rfl u_0) <| o_p rfl (Za rfl rfl u_0) <| o_p rfl (Za rfl rfl u_0) <| o_p rfl (Zn rfl rfl (Opd.imp u_0 (fun _ _ h => Zo h24 h)) (fun _ _ ⟨_, _, _, e, _⟩ => ⟨_, e⟩)) <| o_p rfl (Ze Zd7 rfl rfl u_0) <| o_p rfl (Zf Zcn rfl rfl u_0) <| o_p rfl (Zq Zjn (Zdg _ _ _ _ h26) rfl rfl (.cons u_0 (.cons u_1 (.cons u_2 (.cons u_3 .nil))))) <| o_p rfl (Za rfl rfl u_0) <| o_p rfl (Zn rfl rfl (Opd.imp u_0 (fun _ _ h => Zo h22 h)) (fun _ _ ⟨_, _, _, e, _⟩ => ⟨_, e⟩)) <| o_p rfl (Ze Zeq rfl rfl u_0) <| o_p rfl (Zf ty_9 rfl rfl u_0) <| o_p rfl (Za rfl rfl u_0) <| o_p rfl (Zn rfl rfl (Opd.imp u_0 (fun _ _ h => Zo h22 h)) (fun _ _ ⟨_, _, _, e, _⟩ => ⟨_, e⟩)) <| o_p rfl (Ze Zhc rfl rfl u_0) <| o_p rfl (Zf Zbf rfl rfl u_0) <| o_p rfl (Za rfl rfl u_0) <| o_p rfl (Zn rfl rfl (Opd.imp u_0 (fun _ _ h => Zo h24 h)) (fun _ _ ⟨_, _, _, e, _⟩ => ⟨_, e⟩)) <| o_p rfl (Ze Zes rfl rfl u_0) <| o_p rfl (Zf Zcn rfl rfl u_0) <| o_p rfl (Za rfl rfl u_0) <| o_p rfl (Zn rfl rfl (Opd.imp u_0 (fun _ _ h => Zo h22 h)) (fun _ _ ⟨_, _, _, e, _⟩ => ⟨_, e⟩)) <| o_p rfl (Ze Zes rfl rfl u_0) <| o_p rfl (Zf Zcn rfl rfl u_0) <| o_p rfl (Zq Zjn (Zdg _ _ _ _ h28) rfl rfl (.cons u_0 (.cons u_1 (.cons u_2 (.cons u_3 .nil))))) <| o_p rfl (Zq Zjn (Zdg _ _ _ _ h30) rfl rfl (.cons u_0 (.cons u_1 (.cons u_2 (.cons u_3 .nil))))) <| o_p rfl (Zc rfl rfl u_0) <| o_n) (by kernel_rfl) (fun a g hst hb => ?_)
     refine wp_ret ?_
     refine Z1 ?_
     refine Zr ?_
     obtain rfl := Option.some.inj H0
     exact Z3 rfl hst hb (Zl (s := 8)) (hst.at 0 rfl)
   · replace H0 := Z0 hc20 H0
     obtain ⟨r31, h32, H0⟩ := Zh H0; obtain ⟨n33, h34, H0⟩ := Zh H0; obtain ⟨r35, h36, H0⟩ := Zh H0; obtain ⟨n37, h38, H0⟩ := Zh H0; obtain ⟨r39, h40, H0⟩ := Zh H0
     refine r_s (L := [(0, _), (2, _), (3, _), (5, _)]) (T := ⟨[.old 1], _, [], [], [95]⟩ :: ⟨[.old 2], _, [], [], [96]⟩ :: ⟨[.op 0 0, .op 1 0], _, [], [0, 1], [97]⟩ :: ⟨[.op 2 0], _, [], [0, 1, 2], [98]⟩ :: ⟨[.op 3 0, .old 1], _, [], Lr 4, [99]⟩ :: ⟨[.op 3 0, .op 4 0], _, [], Lr 5, [100]⟩ :: ⟨[.op 3 0, .op 5 0], _, [], Lr 6, [101]⟩ :: ⟨[.op 3 0, .op 6 0], _, [], Lr 7, [102]⟩ :: ⟨[.op 3 0, .op 7 0], _, [], Lr 8, [103]⟩ :: ⟨[.op 3 0, .op 8 0], _, [], Lr 9, [104]⟩ :: ⟨[.op 3 0, .old 1], _, [], Lr 4, [105]⟩ :: ⟨[.op 3 0, .op 10 0], _, [], [0, 1, 2, 3, 10], [106]⟩ :: ⟨[.op 3 0, .op 11 0], _, [], [0, 1, 2, 3, 10, 11], [107]⟩ :: ⟨[.op 3 0, .op 12 0], _, [], [0, 1, 2, 3, 10, 11, 12], [108]⟩ :: ⟨[.op 3 0, .op 13 0], _, [], 0 :: 1 :: 2 :: 3 :: 4 :: 5 :: 6 :: 7 :: 8 :: 10 :: 11 :: 12 :: 13 :: [], [109]⟩ :: ⟨[.op 3 0, .op 14 0], _, [], 0 :: 1 :: 2 :: 3 :: 4 :: 5 :: 6 :: 7 :: 8 :: 10 :: 11 :: 12 :: 13 :: 14 :: [], [110]⟩ :: ⟨[.op 3 0, .op 15 0], _, [], 0 :: 1 :: 2 :: 3 :: 4 :: 5 :: 6 :: 7 :: 8 :: 10 :: 11 :: 12 :: 13 :: 14 :: 15 :: [], [111]⟩ :: ⟨[.op 3 0, .op 9 0, .op 16 0], _, [], Lr 17, [112]⟩ :: ⟨[.op 3 0, .op 17 0], _, [], Lr 18, [113]⟩ :: ⟨[.op 18 0], _, [], Lr 19, [94]⟩ :: []) (F := [.old 0, .old 1, .old 2, .old 3, .op 19 0]) (hst.pick [0, 1, 2, 3] rfl) hb Zb
       (o_p rfl (Za rfl rfl u_0) <| o_p rfl (Za rfl rfl u_0) <| o_p rfl (Zq Zur (Zjk _ _ h32) rfl rfl (.cons u_0 (.cons u_1 .nil))) <| o_p rfl (Za rfl rfl u_0) <| o_g (g_t rfl rfl rfl (fun hG => Za rfl rfl u_0)) <| o_g (g_t rfl rfl rfl (fun hG => Zn rfl rfl (Opd.imp (Opd.gd hG u_0) (fun _ _ h => Zo (Zbv h34 hG) h)) (fun _ _ ⟨_, _, _, e, _⟩ => ⟨_, e⟩))) <| o_g (g_t rfl rfl rfl (fun hG => Ze Zes rfl rfl (Opd.gd hG u_0))) <| o_g (g_t rfl rfl rfl (fun hG => Zf Zcn rfl rfl (Opd.gd hG u_0))) <| o_g (g_t rfl rfl rfl (fun hG => Zq Zlg (Zcw _ (Zbv h36 hG)) rfl rfl (.cons (Opd.gd hG u_0) .nil))) <| o_g (g_t rfl rfl rfl (fun hG => Zb8 rfl rfl (Opd.gd hG u_0) c_i rfl)) <| o_g (g_t rfl rfl rfl (fun hG => Za rfl rfl u_0)) <| o_g (g_t rfl rfl rfl (fun hG => Zn rfl rfl (Opd.imp (Opd.gd hG u_0) (fun _ _ h => Zo (Zbv h38 hG) h)) (fun _ _ ⟨_, _, _, e, _⟩ => ⟨_, e⟩))) <| o_g (g_t rfl rfl rfl (fun hG => Ze Zd7 rfl rfl (Opd.gd hG u_0))) <| o_g (g_t rfl rfl rfl (fun hG => Zf Zcn rfl rfl (Opd.gd hG u_0))) <| o_g (g_t rfl rfl rfl (fun hG => Zq Zlg (Zcw _ (Zbv h40 hG)) rfl rfl (.cons (Opd.gd hG u_0) .nil))) <| o_g (g_t rfl rfl rfl (fun hG => Zb8 rfl rfl (Opd.gd hG u_0) c_i rfl)) <| o_g (g_t rfl rfl rfl (fun hG => Zvl rfl rfl c_i (Opd.gd hG u_0) rfl)) <| o_g (g_t rfl rfl rfl (fun hG => Zc1 rfl rfl (Opd.gd hG u_0) (Opd.gd hG u_1))) <| o_p rfl (Zbp rfl rfl u_0 (fun hz => (Opd.gd hz u_1))) <| o_p rfl (Zc rfl rfl u_0) <| o_n) (by kernel_rfl) (fun a g hst hb => ?_)
     refine wp_cond_split (hst.bool 4 rfl) (fun hc41 => ?_) (fun hc41 => ?_)
     · replace H0 := Zz hc41 H0
       obtain ⟨n42, h43, H0⟩ := Zh H0; obtain ⟨r44, h45, H0⟩ := Zh H0; obtain ⟨r46, h47, H0⟩ := Zh H0
       refine r_s (L := [(0, _), (2, _), (3, _), (5, _)]) (T := ⟨[.old 1], _, [], [], [114]⟩ :: ⟨[.op 0 0], _, [], [0], [115]⟩ :: ⟨[.op 1 0], _, [], [0, 1], [116]⟩ :: ⟨[.op 2 0], _, [], [0, 1, 2], [117]⟩ :: ⟨[.old 1], _, [], [], [118]⟩ :: ⟨[.op 4 0], _, [], [4], [119]⟩ :: ⟨[.op 5 0], _, [], [4, 5], [120]⟩ :: ⟨[.op 6 0], _, [], [4, 5, 6], [121]⟩ :: ⟨[.old 1], _, [], [], [122]⟩ :: ⟨[.op 8 0], _, [], [8], [123]⟩ :: ⟨[.op 9 0], _, [], [8, 9], [124]⟩ :: ⟨[.op 10 0], _, [], [8, 9, 10], [125]⟩ :: ⟨[.old 0], _, [], [], [126]⟩ :: ⟨[.old 3], _, [], [], [127]⟩ :: ⟨[.old 1], _, [], [], [128]⟩ :: ⟨[.op 14 0], _, [], [14], [129]⟩ :: ⟨[.op 15 0], _, [], [14, 15], [130]⟩ :: ⟨[.op 16 0], _, [], [14, 15, 16], [131]⟩ :: ⟨[.old 2], _, [], [], [132]⟩ :: ⟨[.op 12 0, .op 13 0, .op 17 0, .op 18 0], _, [], List.range' 12 7, [133]⟩ :: ⟨[.op 3 0, .op 7 0, .op 11 0, .op 19 0], _, [], Lr 20, [134]⟩ :: ⟨[.op 20 0], _, [], Lr 21, [8]⟩ :: []) (F := [.op 21 0]) (hst.pick [0, 1, 2, 3] rfl) hb Zb
         (o_p rfl (Za rfl rfl u_0) <| o_p rfl (Zn rfl rfl (Opd.imp u_0 (fun _ _ h => Zo h43 h)) (fun _ _ ⟨_, _, _, e, _⟩ => ⟨_, e⟩)) <| o_p rfl (Ze Zeq rfl rfl u_0) <| o_p rfl (Zf ty_9 rfl rfl u_0) <| o_p rfl (Za rfl rfl u_0) <| o_p rfl (Zn rfl rfl (Opd.imp u_0 (fun _ _ h => Zo h43 h)) (fun _ _ ⟨_, _, _, e, _⟩ => ⟨_, e⟩)) <| o_p rfl (Ze Zhc rfl rfl u_0) <| o_p rfl (Zf Zbf rfl rfl u_0) <| o_p rfl (Za rfl rfl u_0) <| o_p rfl (Zn rfl rfl (Opd.imp u_0 (fun _ _ h => Zo h43 h)) (fun _ _ ⟨_, _, _, e, _⟩ => ⟨_, e⟩)) <| o_p rfl (Ze Zd7 rfl rfl u_0) <| o_p rfl (Zf Zcn rfl rfl u_0) <| o_p rfl (Za rfl rfl u_0) <| o_p rfl (Zf Zbf rfl rfl u_0) <| o_p rfl (Za rfl rfl u_0) <| o_p rfl (Zn rfl rfl (Opd.imp u_0 (fun _ _ h => Zo h43 h)) (fun _ _ ⟨_, _, _, e, _⟩ => ⟨_, e⟩)) <| o_p rfl (Ze Zes rfl rfl u_0) <| o_p rfl (Zf Zcn rfl rfl u_0) <| o_p rfl (Za rfl rfl u_0) <| o_p rfl (Zq Zjn (Zdg _ _ _ _ h45) rfl rfl (.cons u_0 (.cons u_1 (.cons u_2 (.cons u_3 .nil))))) <| o_p rfl (Zq Zjn (Zdg _ _ _ _ h47) rfl rfl (.cons u_0 (.cons u_1 (.cons u_2 (.cons u_3 .nil))))) <| o_p rfl (Zc rfl rfl u_0) <| o_n) (by kernel_rfl) (fun a g hst hb => ?_)
       refine wp_ret ?_
       refine Z1 ?_
       refine Zr ?_
       obtain rfl := Option.some.inj H0
       exact Z3 rfl hst hb (Zl (s := 8)) (hst.at 0 rfl)
     · replace H0 := Z0 hc41 H0
       obtain ⟨r48, h49, H0⟩ := Zh H0
       refine r_s (L := [(0, _), (2, _), (3, _), (5, _)]) (T := [⟨[.old 1], _, [], [], [136]⟩, ⟨[.old 2], _, [], [], [137]⟩, ⟨[.op 0 0, .op 1 0], _, [], [0, 1], [138]⟩, ⟨[.op 2 0], _, [], [0, 1, 2], [135]⟩]) (F := [.old 0, .old 1, .old 2, .old 3, .op 3 0]) (hst.pick [0, 1, 2, 3] rfl) hb Zb
         (o_p rfl (Za rfl rfl u_0) <| o_p rfl (Za rfl rfl u_0) <| o_p rfl (Zq Zur (Zjk _ _ h49) rfl rfl (.cons u_0 (.cons u_1 .nil))) <| o_p rfl (Zc rfl rfl u_0) <| o_n) (by kernel_rfl) (fun a g hst hb => ?_)
       refine wp_cond_split (hst.bool 4 rfl) (fun hc50 => ?_) (fun hc50 => ?_)
       · replace H0 := Zz hc50 H0
         obtain ⟨n51, h52, H0⟩ := Zh H0
         refine r_s (L := [(0, _), (2, _), (3, _), (5, _)]) (T := [⟨[.old 1], _, [], [], [139]⟩, ⟨[.op 0 0], _, [], [0], [140]⟩, ⟨[.op 1 0], _, [], [0, 1], [141]⟩, ⟨[.op 2 0], _, [], [0, 1, 2], [142]⟩, ⟨[.op 3 0], _, [], Lr 4, [10]⟩]) (F := [.old 0, .old 1, .old 2, .old 3, .op 4 0]) (hst.pick [0, 1, 2, 3] rfl) hb Zb
           (o_p rfl (Za rfl rfl u_0) <| o_p rfl (Zn rfl rfl (Opd.imp u_0 (fun _ _ h => Zo h52 h)) (fun _ _ ⟨_, _, _, e, _⟩ => ⟨_, e⟩)) <| o_p rfl (Ze Zes rfl rfl u_0) <| o_p rfl (Zf Zcn rfl rfl u_0) <| o_p rfl (Zc rfl rfl u_0) <| o_n) (by kernel_rfl) (fun a g hst hb => ?_)
         obtain ⟨n53, h54, H0⟩ := Zh H0; obtain ⟨r55, h56, H0⟩ := Zh H0; obtain ⟨r57, h58, H0⟩ := Zh H0; obtain ⟨r59, h60, H0⟩ := Zh H0
         refine r_s (T := ⟨[.old 4], _, [], [], [143]⟩ :: ⟨[.op 0 0], _, [], [0], [144]⟩ :: ⟨[.op 1 0], _, [], [0, 1], [145]⟩ :: ⟨[.op 2 0], _, [], [0, 1, 2], [146]⟩ :: ⟨[.old 4], _, [], [], [147]⟩ :: ⟨[.op 4 0], _, [], [4], [148]⟩ :: ⟨[.op 5 0], _, [], [4, 5], [149]⟩ :: ⟨[.op 6 0], _, [], [4, 5, 6], [150]⟩ :: ⟨[.old 1], _, [], [], [151]⟩ :: ⟨[.op 8 0], _, [], [8], [152]⟩ :: ⟨[.op 9 0], _, [], [8, 9], [153]⟩ :: ⟨[.op 10 0], _, [], [8, 9, 10], [154]⟩ :: ⟨[.old 1], _, [], [], [155]⟩ :: ⟨[.op 12 0], _, [], [12], [156]⟩ :: ⟨[.op 13 0], _, [], [12, 13], [157]⟩ :: ⟨[.op 14 0], _, [], [12, 13, 14], [158]⟩ :: ⟨[.old 1], _, [], [], [159]⟩ :: ⟨[.op 16 0], _, [], [16], [160]⟩ :: ⟨[.op 17 0], _, [], [16, 17], [161]⟩ :: ⟨[.op 18 0], _, [], [16, 17, 18], [162]⟩ :: ⟨[.old 4], _, [], [], [163]⟩ :: ⟨[.op 20 0], _, [], [20], [164]⟩ :: ⟨[.op 21 0], _, [], [20, 21], [165]⟩ :: ⟨[.op 22 0], _, [], [20, 21, 22], [166]⟩ :: ⟨[.op 11 0, .op 15 0, .op 19 0, .op 23 0], _, [], List.range' 8 16, [167]⟩ :: ⟨[.old 0], _, [], [], [168]⟩ :: ⟨[.old 3], _, [], [], [169]⟩ :: ⟨[.old 4], _, [], [], [170]⟩ :: ⟨[.op 27 0], _, [], [27], [171]⟩ :: ⟨[.op 28 0], _, [], [27, 28], [172]⟩ :: ⟨[.op 29 0], _, [], [27, 28, 29], [173]⟩ :: ⟨[.old 2], _, [], [], [174]⟩ :: ⟨[.op 25 0, .op 26 0, .op 30 0, .op 31 0], _, [], List.range' 8 24, [175]⟩ :: ⟨[.op 3 0, .op 7 0, .op 24 0, .op 32 0], _, [], Lr 33, [176]⟩ :: ⟨[.op 33 0], _, [], Lr 34, [8]⟩ :: []) (F := [.op 34 0]) hst hb Zb
           (o_p rfl (Za rfl rfl u_0) <| o_p rfl (Zn rfl rfl (Opd.imp u_0 (fun _ _ h => Zo h54 h)) (fun _ _ ⟨_, _, _, e, _⟩ => ⟨_, e⟩)) <| o_p rfl (Ze Zeq rfl rfl u_0) <| o_p rfl (Zf ty_9 rfl rfl u_0) <| o_p rfl (Za rfl rfl u_0) <| o_p rfl (Zn rfl rfl (Opd.imp u_0 (fun _ _ h => Zo h54 h)) (fun _ _ ⟨_, _, _, e, _⟩ => ⟨_, e⟩)) <| o_p rfl (Ze Zhc rfl rfl u_0) <| o_p rfl (Zf Zbf rfl rfl u_0) <| o_p rfl (Za rfl rfl u_0) <| o_p rfl (Zn rfl rfl (Opd.imp u_0 (fun _ _ h => Zo h52 h)) (fun _ _ ⟨_, _, _, e, _⟩ => ⟨_, e⟩)) <| o_p rfl (Ze Zeq rfl rfl u_0) <| o_p rfl (Zf ty_9 rfl rfl u_0) <| o_p rfl (Za rfl rfl u_0) <| o_p rfl (Zn rfl rfl (Opd.imp u_0 (fun _ _ h => Zo h52 h)) (fun _ _ ⟨_, _, _, e, _⟩ => ⟨_, e⟩)) <| o_p rfl (Ze Zhc rfl rfl u_0) <| o_p rfl (Zf Zbf rfl rfl u_0) <| o_p rfl (Za rfl rfl u_0) <| o_p rfl (Zn rfl rfl (Opd.imp u_0 (fun _ _ h => Zo h52 h)) (fun _ _ ⟨_, _, _, e, _⟩ => ⟨_, e⟩)) <| o_p rfl (Ze Zd7 rfl rfl u_0) <| o_p rfl (Zf Zcn rfl rfl u_0) <| o_p rfl (Za rfl rfl u_0) <| o_p rfl (Zn rfl rfl (Opd.imp u_0 (fun _ _ h => Zo h54 h)) (fun _ _ ⟨_, _, _, e, _⟩ => ⟨_, e⟩)) <| o_p rfl (Ze Zd7 rfl rfl u_0) <| o_p rfl (Zf Zcn rfl rfl u_0) <| o_p rfl (Zq Zjn (Zdg _ _ _ _ h56) rfl rfl (.cons u_0 (.cons u_1 (.cons u_2 (.cons u_3 .nil))))) <| o_p rfl (Za rfl rfl u_0) <| o_p rfl (Zf Zbf rfl rfl u_0) <| o_p rfl (Za rfl rfl u_0) <| o_p rfl (Zn rfl rfl (Opd.imp u_0 (fun _ _ h => Zo h54 h)) (fun _ _ ⟨_, _, _, e, _⟩ => ⟨_, e⟩)) <| o_p rfl (Ze Zes rfl rfl u_0) <| o_p rfl (Zf Zcn rfl rfl u_0) <| o_p rfl (Za rfl rfl u_0) <| o_p rfl (Zq Zjn (Zdg _ _ _ _ h58) rfl rfl (.cons u_0 (.cons u_1 (.cons u_2 (.cons u_3 .nil))))) <| o_p rfl (Zq Zjn (Zdg _ _ _ _ h60) rfl rfl (.cons u_0 (.cons u_1 (.cons u_2 (.cons u_3 .nil))))) <| o_p rfl (Zc rfl rfl u_0) <| o_n) (by kernel_rfl) (fun a g hst hb => ?_)
         refine wp_ret ?_
         refine Z1 ?_
         refine Zr ?_
         obtain rfl := Option.some.inj H0
         exact Z3 rfl hst hb (Zl (s := 8)) (hst.at 0 rfl)
       · replace H0 := Z0 hc50 H0
         refine wp_skip ?_
         refine Zbr ?_
         refine Zu ?_
         obtain ⟨r61, h62, H0⟩ := Zh H0
         refine r_s (L := [(0, _), (2, _), (3, _), (5, _)]) (T := [⟨[.old 0], _, [], [], [177]⟩, ⟨[.old 3], _, [], [], [178]⟩, ⟨[.old 1], _, [], [], [179]⟩, ⟨[.old 2], _, [], [], [180]⟩, ⟨[.op 0 0, .op 1 0, .op 2 0, .op 3 0], _, [], Lr 4, [181]⟩, ⟨[.op 4 0], _, [], Lr 5, [8]⟩]) (F := [.op 5 0]) (hst.pick [0, 1, 2, 3] rfl) hb Zb
           (o_p rfl (Za rfl rfl u_0) <| o_p rfl (Zf Zbf rfl rfl u_0) <| o_p rfl (Za rfl rfl u_0) <| o_p rfl (Za rfl rfl u_0) <| o_p rfl (Zq Zjn (Zdg _ _ _ _ h62) rfl rfl (.cons u_0 (.cons u_1 (.cons u_2 (.cons u_3 .nil))))) <| o_p rfl (Zc rfl rfl u_0) <| o_n) (by kernel_rfl) (fun a g hst hb => ?_)
         refine wp_ret ?_
         obtain rfl := Option.some.inj H0
         exact Z3 rfl hst hb (Zl (s := 8)) (hst.at 0 rfl)
theorem Zot (self : shelf_nodeT → ByteArray → Zd → Option (shelf_nodeT)) (hself : ∀ (a0 : shelf_nodeT) (a1 : ByteArray) (a2 : Zd) {r : shelf_nodeT}, self a0 a1 a2 = some r → FnOk Tryd.prog 25 [(Zy.pd a0), (pStr a1), (Zi.pd a2)] (Zy.pd r)) (a0 : shelf_nodeT) (a1 : ByteArray) (a2 : Zd) {r : shelf_nodeT} (h : Zhe self a0 a1 a2 = some r) : FnOk Tryd.prog 25 [(Zy.pd a0), (pStr a1), (Zi.pd a2)] (Zy.pd r) := by
 have H0 := h
 unfold Zhe at H0
 clear h
 refine Zbs (N := 78) Tryd.func25 rfl rfl (Nat.le_of_ble_eq_true rfl) rfl rfl (fun a g0 hst hb => ?_)
 refine r_s (T := [⟨[.old 2], _, [], [], [5]⟩, ⟨[], [(6, (Zy.pd shelf_nodeT.nil))], [], [], [6]⟩]) (F := [.old 0, .old 1, .op 0 0]) hst hb Zb
   (o_p rfl (Zbl rfl rfl u_0) <| o_p rfl (Zc rfl rfl (Opd.c (fun g => Zdp g))) <| o_n) (by kernel_rfl) (fun a g hst hb => ?_)
 refine wp_seq ?_
 refine wp_block ?_
 refine r_s (T := [⟨[.old 0], _, [], [], [8]⟩, ⟨[.op 0 0], _, [], [0], [9]⟩, ⟨[.op 1 0], _, [], [0, 1], [7]⟩]) (F := [.old 0, .old 1, .old 2, .op 2 0]) hst hb Zb
   (o_p rfl (Za rfl rfl u_0) <| o_p rfl (Znc Tryd.underlying24 rfl rfl u_0 (Zea _)) <| o_p rfl (Zc rfl rfl u_0) <| o_n) (by kernel_rfl) (fun a g hst hb => ?_)
 refine wp_cond_split (hst.bool 3 rfl) (fun hc1 => ?_) (fun hc1 => ?_)
 · replace H0 := Zz hc1 H0
   obtain ⟨r2, h3, H0⟩ := Zh H0
   refine r_s (L := [(1, _), (5, _)]) (T := [⟨[.old 0], _, [], [], [10]⟩, ⟨[.old 1], _, [], [], [11]⟩, ⟨[.op 0 0, .op 1 0], [(12, (Zy.pd r2))], [], [0, 1], [12]⟩, ⟨[.op 2 0], _, [], [0, 1, 2], [6]⟩]) (F := [.op 3 0]) (hst.pick [1, 2] rfl) hb Zb
     (o_p rfl (Za rfl rfl u_0) <| o_p rfl (Zf Zbf rfl rfl u_0) <| o_p rfl (Zq Zjn (Zdg _ _ _ _ h3) rfl rfl (.cons u_0 (.cons u_1 (.cons (Opd.c (fun g => Zdp g)) (.cons (Opd.c (fun g => Zdp g)) .nil))))) <| o_p rfl (Zc rfl rfl u_0) <| o_n) (by kernel_rfl) (fun a g hst hb => ?_)
   refine wp_ret ?_
   refine Z1 ?_
   refine Zr ?_
   obtain rfl := Option.some.inj H0
   exact Z3 rfl hst hb (Zl (s := 6)) (hst.at 0 rfl)
 · replace H0 := Z0 hc1 H0
   obtain ⟨n4, h5, H0⟩ := Zh H0
   refine r_s (L := [(0, _), (1, _), (5, _)]) (T := [⟨[.old 1], _, [], [], [14]⟩, ⟨[.old 0], _, [], [], [15]⟩, ⟨[.op 1 0], _, [], [1], [16]⟩, ⟨[.op 2 0], _, [], [1, 2], [17]⟩, ⟨[.op 3 0], _, [], [1, 2, 3], [18]⟩, ⟨[.op 0 0, .op 4 0], _, [], Lr 5, [19]⟩, ⟨[.op 5 0], _, [], Lr 6, [13]⟩]) (F := [.old 0, .old 1, .old 2, .op 6 0]) (hst.pick [0, 1, 2] rfl) hb Zb
     (o_p rfl (Za rfl rfl u_0) <| o_p rfl (Za rfl rfl u_0) <| o_p rfl (Zn rfl rfl (Opd.imp u_0 (fun _ _ h => Zo h5 h)) (fun _ _ ⟨_, _, _, e, _⟩ => ⟨_, e⟩)) <| o_p rfl (Ze Zeq rfl rfl u_0) <| o_p rfl (Zf ty_9 rfl rfl u_0) <| o_p rfl (Zll rfl rfl u_0 u_1) <| o_p rfl (Zc rfl rfl u_0) <| o_n) (by kernel_rfl) (fun a g hst hb => ?_)
   refine wp_cond_split (hst.bool 3 rfl) (fun hc6 => ?_) (fun hc6 => ?_)
   · replace H0 := Zz hc6 H0
     obtain ⟨r7, h8, H0⟩ := Zh H0; obtain ⟨r9, h10, H0⟩ := Zh H0
     refine r_s (L := [(0, _), (1, _), (5, _)]) (T := ⟨[.old 0], _, [], [], [20]⟩ :: ⟨[.op 0 0], _, [], [0], [21]⟩ :: ⟨[.op 1 0], _, [], [0, 1], [22]⟩ :: ⟨[.op 2 0], _, [], [0, 1, 2], [23]⟩ :: ⟨[.old 0], _, [], [], [24]⟩ :: ⟨[.op 4 0], _, [], [4], [25]⟩ :: ⟨[.op 5 0], _, [], [4, 5], [26]⟩ :: ⟨[.op 6 0], _, [], [4, 5, 6], [27]⟩ :: ⟨[.old 0], _, [], [], [28]⟩ :: ⟨[.op 8 0], _, [], [8], [29]⟩ :: ⟨[.op 9 0], _, [], [8, 9], [30]⟩ :: ⟨[.op 10 0], _, [], [8, 9, 10], [31]⟩ :: ⟨[.old 1], _, [], [], [32]⟩ :: ⟨[.old 2], _, [], [], [33]⟩ :: ⟨[.op 11 0, .op 12 0, .op 13 0], _, [], List.range' 8 6, [34]⟩ :: ⟨[.old 0], _, [], [], [35]⟩ :: ⟨[.op 15 0], _, [], [15], [36]⟩ :: ⟨[.op 16 0], _, [], [15, 16], [37]⟩ :: ⟨[.op 17 0], _, [], [15, 16, 17], [38]⟩ :: ⟨[.op 3 0, .op 7 0, .op 14 0, .op 18 0], _, [], Lr 19, [39]⟩ :: ⟨[.op 19 0], _, [], Lr 20, [6]⟩ :: []) (F := [.op 20 0]) (hst.pick [0, 1, 2] rfl) hb Zb
       (o_p rfl (Za rfl rfl u_0) <| o_p rfl (Zn rfl rfl (Opd.imp u_0 (fun _ _ h => Zo h5 h)) (fun _ _ ⟨_, _, _, e, _⟩ => ⟨_, e⟩)) <| o_p rfl (Ze Zeq rfl rfl u_0) <| o_p rfl (Zf ty_9 rfl rfl u_0) <| o_p rfl (Za rfl rfl u_0) <| o_p rfl (Zn rfl rfl (Opd.imp u_0 (fun _ _ h => Zo h5 h)) (fun _ _ ⟨_, _, _, e, _⟩ => ⟨_, e⟩)) <| o_p rfl (Ze Zhc rfl rfl u_0) <| o_p rfl (Zf Zbf rfl rfl u_0) <| o_p rfl (Za rfl rfl u_0) <| o_p rfl (Zn rfl rfl (Opd.imp u_0 (fun _ _ h => Zo h5 h)) (fun _ _ ⟨_, _, _, e, _⟩ => ⟨_, e⟩)) <| o_p rfl (Ze Zd7 rfl rfl u_0) <| o_p rfl (Zf Zcn rfl rfl u_0) <| o_p rfl (Za rfl rfl u_0) <| o_p rfl (Zf Zbf rfl rfl u_0) <| o_p rfl (Zq Zzg (hself _ _ _ h8) rfl rfl (.cons u_0 (.cons u_1 (.cons u_2 .nil)))) <| o_p rfl (Za rfl rfl u_0) <| o_p rfl (Zn rfl rfl (Opd.imp u_0 (fun _ _ h => Zo h5 h)) (fun _ _ ⟨_, _, _, e, _⟩ => ⟨_, e⟩)) <| o_p rfl (Ze Zes rfl rfl u_0) <| o_p rfl (Zf Zcn rfl rfl u_0) <| o_p rfl (Zq Zr4 (Ziz _ _ _ _ h10) rfl rfl (.cons u_0 (.cons u_1 (.cons u_2 (.cons u_3 .nil))))) <| o_p rfl (Zc rfl rfl u_0) <| o_n) (by kernel_rfl) (fun a g hst hb => ?_)
     refine wp_ret ?_
     refine Z1 ?_
     refine Zr ?_
     obtain rfl := Option.some.inj H0
     exact Z3 rfl hst hb (Zl (s := 6)) (hst.at 0 rfl)
   · replace H0 := Z0 hc6 H0
     refine r_s (L := [(0, _), (1, _), (5, _)]) (T := [⟨[.old 1], _, [], [], [41]⟩, ⟨[.old 0], _, [], [], [42]⟩, ⟨[.op 1 0], _, [], [1], [43]⟩, ⟨[.op 2 0], _, [], [1, 2], [44]⟩, ⟨[.op 3 0], _, [], [1, 2, 3], [45]⟩, ⟨[.op 0 0, .op 4 0], _, [], Lr 5, [46]⟩, ⟨[.op 5 0], _, [], Lr 6, [40]⟩]) (F := [.old 0, .old 1, .old 2, .op 6 0]) (hst.pick [0, 1, 2] rfl) hb Zb
       (o_p rfl (Za rfl rfl u_0) <| o_p rfl (Za rfl rfl u_0) <| o_p rfl (Zn rfl rfl (Opd.imp u_0 (fun _ _ h => Zo h5 h)) (fun _ _ ⟨_, _, _, e, _⟩ => ⟨_, e⟩)) <| o_p rfl (Ze Zeq rfl rfl u_0) <| o_p rfl (Zf ty_9 rfl rfl u_0) <| o_p rfl (Zrl rfl rfl u_0 u_1) <| o_p rfl (Zc rfl rfl u_0) <| o_n) (by kernel_rfl) (fun a g hst hb => ?_)
     refine wp_cond_split (hst.bool 3 rfl) (fun hc11 => ?_) (fun hc11 => ?_)
     · replace H0 := Zz hc11 H0
       obtain ⟨r12, h13, H0⟩ := Zh H0; obtain ⟨r14, h15, H0⟩ := Zh H0
       refine r_s (L := [(0, _), (1, _), (5, _)]) (T := ⟨[.old 0], _, [], [], [47]⟩ :: ⟨[.op 0 0], _, [], [0], [48]⟩ :: ⟨[.op 1 0], _, [], [0, 1], [49]⟩ :: ⟨[.op 2 0], _, [], [0, 1, 2], [50]⟩ :: ⟨[.old 0], _, [], [], [51]⟩ :: ⟨[.op 4 0], _, [], [4], [52]⟩ :: ⟨[.op 5 0], _, [], [4, 5], [53]⟩ :: ⟨[.op 6 0], _, [], [4, 5, 6], [54]⟩ :: ⟨[.old 0], _, [], [], [55]⟩ :: ⟨[.op 8 0], _, [], [8], [56]⟩ :: ⟨[.op 9 0], _, [], [8, 9], [57]⟩ :: ⟨[.op 10 0], _, [], [8, 9, 10], [58]⟩ :: ⟨[.old 0], _, [], [], [59]⟩ :: ⟨[.op 12 0], _, [], [12], [60]⟩ :: ⟨[.op 13 0], _, [], [12, 13], [61]⟩ :: ⟨[.op 14 0], _, [], [12, 13, 14], [62]⟩ :: ⟨[.old 1], _, [], [], [63]⟩ :: ⟨[.old 2], _, [], [], [64]⟩ :: ⟨[.op 15 0, .op 16 0, .op 17 0], _, [], List.range' 12 6, [65]⟩ :: ⟨[.op 3 0, .op 7 0, .op 11 0, .op 18 0], _, [], Lr 19, [66]⟩ :: ⟨[.op 19 0], _, [], Lr 20, [6]⟩ :: []) (F := [.op 20 0]) (hst.pick [0, 1, 2] rfl) hb Zb
         (o_p rfl (Za rfl rfl u_0) <| o_p rfl (Zn rfl rfl (Opd.imp u_0 (fun _ _ h => Zo h5 h)) (fun _ _ ⟨_, _, _, e, _⟩ => ⟨_, e⟩)) <| o_p rfl (Ze Zeq rfl rfl u_0) <| o_p rfl (Zf ty_9 rfl rfl u_0) <| o_p rfl (Za rfl rfl u_0) <| o_p rfl (Zn rfl rfl (Opd.imp u_0 (fun _ _ h => Zo h5 h)) (fun _ _ ⟨_, _, _, e, _⟩ => ⟨_, e⟩)) <| o_p rfl (Ze Zhc rfl rfl u_0) <| o_p rfl (Zf Zbf rfl rfl u_0) <| o_p rfl (Za rfl rfl u_0) <| o_p rfl (Zn rfl rfl (Opd.imp u_0 (fun _ _ h => Zo h5 h)) (fun _ _ ⟨_, _, _, e, _⟩ => ⟨_, e⟩)) <| o_p rfl (Ze Zd7 rfl rfl u_0) <| o_p rfl (Zf Zcn rfl rfl u_0) <| o_p rfl (Za rfl rfl u_0) <| o_p rfl (Zn rfl rfl (Opd.imp u_0 (fun _ _ h => Zo h5 h)) (fun _ _ ⟨_, _, _, e, _⟩ => ⟨_, e⟩)) <| o_p rfl (Ze Zes rfl rfl u_0) <| o_p rfl (Zf Zcn rfl rfl u_0) <| o_p rfl (Za rfl rfl u_0) <| o_p rfl (Zf Zbf rfl rfl u_0) <| o_p rfl (Zq Zzg (hself _ _ _ h13) rfl rfl (.cons u_0 (.cons u_1 (.cons u_2 .nil)))) <| o_p rfl (Zq Zr4 (Ziz _ _ _ _ h15) rfl rfl (.cons u_0 (.cons u_1 (.cons u_2 (.cons u_3 .nil))))) <| o_p rfl (Zc rfl rfl u_0) <| o_n) (by kernel_rfl) (fun a g hst hb => ?_)
       refine wp_ret ?_
       refine Z1 ?_
       refine Zr ?_
       obtain rfl := Option.some.inj H0
       exact Z3 rfl hst hb (Zl (s := 6)) (hst.at 0 rfl)
     · replace H0 := Z0 hc11 H0
       refine wp_skip ?_
       refine Zbr ?_
       refine Zu ?_
       obtain ⟨r16, h17, H0⟩ := Zh H0
       refine r_s (L := [(0, _), (1, _), (5, _)]) (T := ⟨[.old 1], _, [], [], [67]⟩ :: ⟨[.old 2], _, [], [], [68]⟩ :: ⟨[.old 0], _, [], [], [69]⟩ :: ⟨[.op 2 0], _, [], [2], [70]⟩ :: ⟨[.op 3 0], _, [], [2, 3], [71]⟩ :: ⟨[.op 4 0], _, [], [2, 3, 4], [72]⟩ :: ⟨[.old 0], _, [], [], [73]⟩ :: ⟨[.op 6 0], _, [], [6], [74]⟩ :: ⟨[.op 7 0], _, [], [6, 7], [75]⟩ :: ⟨[.op 8 0], _, [], [6, 7, 8], [76]⟩ :: ⟨[.op 0 0, .op 1 0, .op 5 0, .op 9 0], _, [], Lr 10, [77]⟩ :: ⟨[.op 10 0], _, [], Lr 11, [6]⟩ :: []) (F := [.op 11 0]) (hst.pick [0, 1, 2] rfl) hb Zb
         (o_p rfl (Za rfl rfl u_0) <| o_p rfl (Zf Zbf rfl rfl u_0) <| o_p rfl (Za rfl rfl u_0) <| o_p rfl (Zn rfl rfl (Opd.imp u_0 (fun _ _ h => Zo h5 h)) (fun _ _ ⟨_, _, _, e, _⟩ => ⟨_, e⟩)) <| o_p rfl (Ze Zd7 rfl rfl u_0) <| o_p rfl (Zf Zcn rfl rfl u_0) <| o_p rfl (Za rfl rfl u_0) <| o_p rfl (Zn rfl rfl (Opd.imp u_0 (fun _ _ h => Zo h5 h)) (fun _ _ ⟨_, _, _, e, _⟩ => ⟨_, e⟩)) <| o_p rfl (Ze Zes rfl rfl u_0) <| o_p rfl (Zf Zcn rfl rfl u_0) <| o_p rfl (Zq Zjn (Zdg _ _ _ _ h17) rfl rfl (.cons u_0 (.cons u_1 (.cons u_2 (.cons u_3 .nil))))) <| o_p rfl (Zc rfl rfl u_0) <| o_n) (by kernel_rfl) (fun a g hst hb => ?_)
       refine wp_ret ?_
       obtain rfl := Option.some.inj H0
       exact Z3 rfl hst hb (Zl (s := 6)) (hst.at 0 rfl)
theorem Zk6 : ∀ (n : Nat) (a0 : shelf_nodeT) (a1 : ByteArray) (a2 : Zd) {r : shelf_nodeT}, Zej n a0 a1 a2 = some r → FnOk Tryd.prog 25 [(Zy.pd a0), (pStr a1), (Zi.pd a2)] (Zy.pd r)
 | 0, _, _, _, _, h => by simp [Zej] at h
 | n + 1, a0, a1, a2, _, h => Zot (Zej n) (fun a0 a1 a2 r h => Zk6 n a0 a1 a2 h) a0 a1 a2 h
theorem Zqj (a0 : shelf_nodeT) (a1 : ByteArray) (a2 : Zd) {r : shelf_nodeT} (h : Zlb a0 a1 a2 = some r) : FnOk Tryd.prog 25 [(Zy.pd a0), (pStr a1), (Zi.pd a2)] (Zy.pd r) := Zk6 _ a0 a1 a2 h
theorem Zln (a0 : Zm) (a1 : ByteArray) (a2 : Zd) {r : Zm × Int} (h : Zdl a0 a1 a2 = some r) : FnOk Tryd.prog 14 [(Zx.pd a0), (pStr a1), (Zi.pd a2)] (pTup [(Zx.pd r.1), (pInt .i64 r.2)]) := by
 have H0 := h
 unfold Zdl at H0
 clear h
 refine Zbs (N := 50) Tryd.func14 rfl rfl (Nat.le_of_ble_eq_true rfl) rfl rfl (fun a g0 hst hb => ?_)
 refine r_s (T := [⟨[.old 0], _, [], [], [3]⟩, ⟨[.old 2], _, [], [], [5]⟩, ⟨[], [(6, (pBox Zx 6 (default : Zm)))], [7], [], [6]⟩, ⟨[], _, [], [], [7]⟩]) (F := [.old 1, .op 0 0, .op 1 0, .op 2 0]) hst hb Zb
   (o_p rfl (Zbl rfl rfl u_0) <| o_p rfl (Zbl rfl rfl u_0) <| o_p rfl (Zbi (zs := [.pointer none, .int .i64 0]) (by kernel_rfl) (fun g => Zdh g) rfl rfl) <| o_p rfl (Zc rfl rfl c_i) <| o_n) (by kernel_rfl) (fun a g hst hb => ?_)
 refine wp_seq ?_
 refine r_s (T := [⟨[.old 0], _, [], [], [11]⟩, ⟨[.op 0 0], _, [], [0], [12]⟩, ⟨[.op 1 0], _, [], [0, 1], [13]⟩, ⟨[.op 2 0, .old 0], _, [], [0, 1, 2], [14]⟩, ⟨[.op 2 0, .op 3 0], _, [], Lr 4, [15]⟩, ⟨[.op 2 0, .op 4 0], _, [], Lr 5, [16]⟩, ⟨[.op 2 0, .op 5 0], _, [], Lr 6, [17]⟩]) (F := [.old 0, .old 1, .old 2, .old 3, .op 6 0]) hst hb Zb
   (o_p rfl (Za rfl rfl u_0) <| o_p rfl (Zlu rfl rfl u_0 c_s) <| o_p rfl (Za rfl rfl u_0) <| o_g (g_f rfl rfl rfl (fun hG => Za rfl rfl u_0)) <| o_g (g_f rfl rfl rfl (fun hG => Zfq Tryd.underlying9 rfl rfl (Opd.gd hG u_0))) <| o_g (g_f rfl rfl rfl (fun hG => Zc0 rfl rfl (Opd.gd hG u_0) c_i)) <| o_p rfl (Zbx rfl rfl u_0 (fun hz => (Opd.gd (bNF hz) u_1))) <| o_n) (by kernel_rfl) (fun a g hst hb => ?_)
 refine wp_cond_split (hst.bool 4 rfl) (fun hc1 => ?_) (fun hc1 => ?_)
 · replace H0 := Zz hc1 H0
   refine r_s (L := [(3, _), (6, _)]) (T := [⟨[.old 0], _, [], [], [18]⟩, ⟨[.op 0 0, .old 1], _, [7], [0], [6]⟩, ⟨[], _, [], [0, 1], [7]⟩]) (F := [.op 1 0, .op 2 0]) (hst.pick [1, 3] rfl) hb Zb
     (o_p rfl (Zf Zbm rfl rfl u_0) <| o_p rfl (Z6 Zbm rfl rfl u_1 u_0) <| o_p rfl (Zc rfl rfl c_i) <| o_n) (by kernel_rfl) (fun a g hst hb => ?_)
   refine wp_ret ?_
   refine Zr ?_
   obtain rfl := Option.some.inj H0
   obtain ⟨u0, hu0, hq0⟩ := Zbe (P := Tryd.prog) Zbm (hst.at 0 rfl)
   exact Ze0 rfl hst hb hu0 (Zl (s := 7)) (Zde hq0 (hst.at 1 rfl))
 · replace H0 := Z0 hc1 H0
   refine wp_skip ?_
   refine Zu ?_
   refine wp_seq ?_
   obtain ⟨r2, h3, H0⟩ := Zh H0
   refine r_s (L := [(1, _), (3, _), (5, _), (6, _)]) (T := [⟨[.old 2], _, [], [], [19]⟩, ⟨[.op 0 0], _, [], [0], [20]⟩, ⟨[.op 1 0], _, [], [0, 1], [8]⟩]) (F := [.old 0, .old 1, .old 2, .old 3, .op 2 0]) (hst.pick [0, 1, 2, 3] rfl) hb Zb
     (o_p rfl (Zf Zbf rfl rfl u_0) <| o_p rfl (Zq Zzf (Zl9 _ h3) rfl rfl (.cons u_0 .nil)) <| o_p rfl (Zc rfl rfl u_0) <| o_n) (by kernel_rfl) (fun a g hst hb => ?_)
   refine r_s (T := [⟨[.old 4], _, [], [], [21]⟩, ⟨[.op 0 0], _, [], [0], [22]⟩]) (F := [.old 0, .old 1, .old 2, .old 3, .old 4, .op 1 0]) hst hb Zb
     (o_p rfl (Za rfl rfl u_0) <| o_p rfl (Zfg rfl rfl u_0 c_i) <| o_n) (by kernel_rfl) (fun a g hst hb => ?_)
   refine wp_cond_split (hst.bool 5 rfl) (fun hc4 => ?_) (fun hc4 => ?_)
   · replace H0 := Zz hc4 H0
     refine r_s (L := [(3, _), (6, _), (8, _)]) (T := [⟨[.old 0], _, [], [], [23]⟩, ⟨[.old 2], _, [], [], [24]⟩, ⟨[.op 0 0, .old 1], _, [7], [0], [6]⟩, ⟨[.op 1 0], _, [], [0, 1, 2], [7]⟩]) (F := [.op 2 0, .op 3 0]) (hst.pick [1, 3, 4] rfl) hb Zb
       (o_p rfl (Zf Zbm rfl rfl u_0) <| o_p rfl (Za rfl rfl u_0) <| o_p rfl (Z6 Zbm rfl rfl u_1 u_0) <| o_p rfl (Zc rfl rfl u_0) <| o_n) (by kernel_rfl) (fun a g hst hb => ?_)
     refine wp_ret ?_
     refine Zr ?_
     obtain rfl := Option.some.inj H0
     obtain ⟨u0, hu0, hq0⟩ := Zbe (P := Tryd.prog) Zbm (hst.at 0 rfl)
     exact Ze0 rfl hst hb hu0 (Zl (s := 7)) (Zde hq0 (hst.at 1 rfl))
   · replace H0 := Z0 hc4 H0
     refine wp_skip ?_
     refine Zu ?_
     refine wp_seq ?_
     obtain ⟨r5, h6, H0⟩ := Zh H0
     refine r_s (L := [(1, _), (3, _), (5, _), (6, _)]) (T := [⟨[.old 1], _, [], [], [26]⟩, ⟨[.old 0], _, [], [], [27]⟩, ⟨[.op 0 0, .op 1 0], _, [], [0, 1], [28]⟩, ⟨[.op 2 0], _, [], [0, 1, 2], [25]⟩, ⟨[.op 3 0], _, [], Lr 4, [29]⟩, ⟨[.op 3 0], _, [], Lr 4, [30]⟩, ⟨[], [(9, (pBox Zi 9 (default : Zd)))], [10], [], [9]⟩, ⟨[.op 4 0, .op 6 0], _, [10], [0, 1, 2, 3, 4, 6], [9]⟩, ⟨[.op 5 0], _, [], Lr 8, [10]⟩]) (F := [.old 0, .old 1, .old 2, .old 3, .op 8 0]) (hst.pick [0, 1, 2, 3] rfl) hb Zb
       (o_p rfl (Zf Zbm rfl rfl u_0) <| o_p rfl (Za rfl rfl u_0) <| o_p rfl (Zq Zzk (Zjc _ _ h6) rfl rfl (.cons u_0 (.cons u_1 .nil))) <| o_p rfl (Za rfl rfl u_0) <| o_p rfl (Z4 rfl rfl u_0 rfl) <| o_p rfl (Z4 rfl rfl u_0 rfl) <| o_p rfl (Zbi (zs := [.int .i64 0, .int .i64 0, .int .i64 0, .int .i64 0, .float .f64 0, .int .i64 0, .string ByteArray.empty, .slice none 0 0]) (by kernel_rfl) (fun g => Zb5 g) rfl rfl) <| o_p rfl (Zb9 Zbf rfl rfl u_1 u_0) <| o_p rfl (Zc rfl rfl u_0) <| o_n) (by kernel_rfl) (fun a g hst hb => ?_)
     obtain ⟨r7, h8, H0⟩ := Zh H0
     refine r_s (T := [⟨[.old 4], _, [], [], [31]⟩, ⟨[.op 0 0], _, [], [0], [32]⟩, ⟨[.op 1 0], _, [], [0, 1], [33]⟩, ⟨[.op 2 0, .old 1], _, [], [0, 1, 2], [34]⟩, ⟨[.op 2 0, .op 3 0], _, [], Lr 4, [35]⟩, ⟨[.op 2 0, .old 1], _, [], [0, 1, 2], [36]⟩, ⟨[.op 2 0, .op 5 0], _, [], [0, 1, 2, 5], [37]⟩, ⟨[.op 2 0, .op 4 0, .op 6 0], _, [], Lr 7, [38]⟩, ⟨[.op 2 0, .op 7 0], _, [], Lr 8, [39]⟩]) (F := [.old 0, .old 1, .old 2, .old 3, .op 8 0]) hst hb Zb
       (o_p rfl (Za rfl rfl u_0) <| o_p rfl (Zcs rfl rfl u_0) <| o_p rfl (Za rfl rfl u_0) <| o_g (g_t rfl rfl rfl (fun hG => Zf Zbm rfl rfl u_0)) <| o_g (g_t rfl rfl rfl (fun hG => Zq Zp8 (Zfb _ (Zbv h8 hG)) rfl rfl (.cons (Opd.gd hG u_0) .nil))) <| o_g (g_t rfl rfl rfl (fun hG => Ze Zpy rfl rfl u_0)) <| o_g (g_t rfl rfl rfl (fun hG => Zf ty_3 rfl rfl (Opd.gd hG u_0))) <| o_g (g_t rfl rfl rfl (fun hG => Zrr rfl rfl (Opd.gd hG u_0) (Opd.gd hG u_1))) <| o_p rfl (Zbp rfl rfl u_0 (fun hz => (Opd.gd hz u_1))) <| o_n) (by kernel_rfl) (fun a g hst hb => ?_)
     refine wp_cond_split (hst.bool 4 rfl) (fun hc9 => ?_) (fun hc9 => ?_)
     · replace H0 := Zz hc9 H0
       refine r_s (L := [(3, _), (6, _)]) (T := [⟨[.old 0], _, [], [], [40]⟩, ⟨[.op 0 0, .old 1], _, [7], [0], [6]⟩, ⟨[], _, [], [0, 1], [7]⟩]) (F := [.op 1 0, .op 2 0]) (hst.pick [1, 3] rfl) hb Zb
         (o_p rfl (Zf Zbm rfl rfl u_0) <| o_p rfl (Z6 Zbm rfl rfl u_1 u_0) <| o_p rfl (Zc rfl rfl c_i) <| o_n) (by kernel_rfl) (fun a g hst hb => ?_)
       refine wp_ret ?_
       refine Zr ?_
       obtain rfl := Option.some.inj H0
       obtain ⟨u0, hu0, hq0⟩ := Zbe (P := Tryd.prog) Zbm (hst.at 0 rfl)
       exact Ze0 rfl hst hb hu0 (Zl (s := 7)) (Zde hq0 (hst.at 1 rfl))
     · replace H0 := Z0 hc9 H0
       refine wp_skip ?_
       refine Zu ?_
       obtain ⟨r10, h11, H0⟩ := Zh H0; obtain ⟨r12, h13, H0⟩ := Zh H0
       refine r_s (L := [(1, _), (3, _), (5, _), (6, _)]) (T := [⟨[.old 1], _, [], [], [41]⟩, ⟨[.op 0 0], _, [], [0], [42]⟩, ⟨[.old 0], _, [], [], [43]⟩, ⟨[.old 2], _, [], [], [44]⟩, ⟨[.op 3 0], _, [], [3], [45]⟩, ⟨[.op 1 0, .op 2 0, .op 4 0], _, [], Lr 5, [46]⟩, ⟨[.old 1], _, [], [], [47]⟩, ⟨[.op 6 0], _, [], [6], [48]⟩, ⟨[.op 5 0, .op 7 0], _, [], Lr 8, [49]⟩, ⟨[.op 8 0, .old 3], _, [7], Lr 9, [6]⟩, ⟨[], _, [], Lr 10, [7]⟩]) (F := [.op 9 0, .op 10 0]) (hst.pick [0, 1, 2, 3] rfl) hb Zb
         (o_p rfl (Ze Znr rfl rfl u_0) <| o_p rfl (Zf Zcn rfl rfl u_0) <| o_p rfl (Za rfl rfl u_0) <| o_p rfl (Zf Zbf rfl rfl u_0) <| o_p rfl (Zq Zmt (Zgh _ h11) rfl rfl (.cons u_0 .nil)) <| o_p rfl (Zq Zzg (Zqj _ _ _ h13) rfl rfl (.cons u_0 (.cons u_1 (.cons u_2 .nil)))) <| o_p rfl (Ze Zpy rfl rfl u_0) <| o_p rfl (Zf ty_3 rfl rfl u_0) <| o_p rfl (Ztq rfl rfl u_0 u_1) <| o_p rfl (Z6 Zbm rfl rfl u_1 u_0) <| o_p rfl (Zc rfl rfl c_i) <| o_n) (by kernel_rfl) (fun a g hst hb => ?_)
       refine wp_ret ?_
       obtain rfl := Option.some.inj H0
       obtain ⟨u0, hu0, hq0⟩ := Zbe (P := Tryd.prog) Zbm (hst.at 0 rfl)
       exact Ze0 rfl hst hb hu0 (Zl (s := 7)) (Zde hq0 (hst.at 1 rfl))
theorem Zi4 (a0 : Nat) {r : Bool} (h : Zei a0 = some r) : FnOk Tryd.prog 60 [(pFlt a0)] (Zbc r) := by
 have H0 := h
 unfold Zei at H0
 clear h
 refine Zbs (N := 6) Tryd.func60 rfl rfl (Nat.le_of_ble_eq_true rfl) rfl rfl (fun a g0 hst hb => ?_)
 refine r_s (T := [⟨[], _, [], [], [2]⟩]) (F := [.old 0]) hst hb Zb
   (o_p rfl (Zc rfl rfl c_b) <| o_n) (by kernel_rfl) (fun a g hst hb => ?_)
 refine r_s (T := [⟨[.old 0], _, [], [], [3]⟩, ⟨[.old 0], _, [], [], [4]⟩, ⟨[.op 0 0, .op 1 0], _, [], [0, 1], [5]⟩, ⟨[.op 2 0], _, [], [0, 1, 2], [2]⟩]) (F := [.op 3 0]) hst hb Zb
   (o_p rfl (Za rfl rfl u_0) <| o_p rfl (Za rfl rfl u_0) <| o_p rfl (Zxr rfl rfl u_0 u_1) <| o_p rfl (Zc rfl rfl u_0) <| o_n) (by kernel_rfl) (fun a g hst hb => ?_)
 refine wp_ret ?_
 obtain rfl := Option.some.inj H0
 exact Z3 rfl hst hb (Zl (s := 2)) (hst.at 0 rfl)
theorem Zk0 (a0 : Nat) {r : Bool} (h : Zfp a0 = some r) : FnOk Tryd.prog 92 [(pFlt a0)] (Zbc r) := by
 have H0 := h
 unfold Zfp at H0
 clear h
 refine Zbs (N := 10) Tryd.func92 rfl rfl (Nat.le_of_ble_eq_true rfl) rfl rfl (fun a g0 hst hb => ?_)
 refine r_s (T := [⟨[], _, [], [], [2]⟩]) (F := [.old 0]) hst hb Zb
   (o_p rfl (Zc rfl rfl c_b) <| o_n) (by kernel_rfl) (fun a g hst hb => ?_)
 refine wp_seq ?_
 refine r_s (T := [⟨[.old 0], _, [], [], [3]⟩, ⟨[.op 0 0], _, [], [0], [4]⟩]) (F := [.old 0, .op 1 0]) hst hb Zb
   (o_p rfl (Za rfl rfl u_0) <| o_p rfl (Zs5 rfl rfl u_0 c_f) <| o_n) (by kernel_rfl) (fun a g hst hb => ?_)
 refine wp_cond_split (hst.bool 1 rfl) (fun hc1 => ?_) (fun hc1 => ?_)
 · replace H0 := Zz hc1 H0
   obtain ⟨f2, h3, H0⟩ := Zh H0
   refine r_s (L := [(0, _)]) (T := [⟨[.old 0], _, [], [], [5]⟩, ⟨[.op 0 0], _, [], [0], [6]⟩, ⟨[.op 1 0], _, [], [0, 1], [7]⟩, ⟨[.op 2 0], _, [], [0, 1, 2], [2]⟩]) (F := [.op 3 0]) (hst.pick [0] rfl) hb Zb
     (o_p rfl (Za rfl rfl u_0) <| o_p rfl (Z3q rfl rfl c_f u_0 h3) <| o_p rfl (Ztc rfl rfl u_0 c_f) <| o_p rfl (Zc rfl rfl u_0) <| o_n) (by kernel_rfl) (fun a g hst hb => ?_)
   refine wp_ret ?_
   refine Zr ?_
   obtain rfl := Option.some.inj H0
   exact Z3 rfl hst hb (Zl (s := 2)) (hst.at 0 rfl)
 · replace H0 := Z0 hc1 H0
   refine wp_skip ?_
   refine Zu ?_
   refine r_s (L := [(0, _)]) (T := [⟨[.old 0], _, [], [], [8]⟩, ⟨[.op 0 0], _, [], [0], [9]⟩, ⟨[.op 1 0], _, [], [0, 1], [2]⟩]) (F := [.op 2 0]) (hst.pick [0] rfl) hb Zb
     (o_p rfl (Za rfl rfl u_0) <| o_p rfl (Ztc rfl rfl u_0 c_f) <| o_p rfl (Zc rfl rfl u_0) <| o_n) (by kernel_rfl) (fun a g hst hb => ?_)
   refine wp_ret ?_
   obtain rfl := Option.some.inj H0
   exact Z3 rfl hst hb (Zl (s := 2)) (hst.at 0 rfl)
end Go.CL
